import Derived.Test.YtphpkhoeplcedaaGreatWb22
set_option linter.all false
set_option maxHeartbeats 8000000
set_option maxRecDepth 100000
namespace Go.Proofs.YtphpkhoeplcedaaGreat
open Go.RowKit
variable {w w':World} {N n k g i m b j d:Nat} {v:Value} {x:Rat} {S:Sta} {A:Option Addr}
def coV (m x:Nat->Rat):Nat->Rat
 | 0=>0
 | 1=>m 0*x 0
 | k+2=>coV m x (k+1)+m (k+1)*x (k+1)
def coS (s:Nat->Nat):Nat->Nat
 | 0=>0
 | 1=>s 0+4
 | k+2=>coS s (k+1)+(s (k+1)+4)
theorem q1N (m x:Nat->Rat) (h:1<=k):coV m x (k+1)=coV m x k+m k*x k:=by
 match k,h with
 | k+1,_=>rfl
theorem q1O (s:Nat->Nat) (h:1<=k):coS s (k+1)=coS s k+(s k+4):=by
 match k,h with
 | k+1,_=>rfl
theorem q2t {s:Nat->Nat} (h:∀ j,j < 3->s j<=60):∀ k,k<=3->coS s k<=k*64
 | 0,_=>q_r
 | 1,_=>by have:=h 0 (by decide); show s 0+4<=1*64; omega
 | k+2,hk=>by
  have:=q2t h (k+1) (by omega);have:=h (k+1) (by omega)
  show coS s (k+1)+(s (k+1)+4)<=_
  omega
theorem jG {L:List (Rat×Nat)} (h:Trm N w v L) (hl:L.length < 380) {gm cm gx cx:Nat} {a b:Nat->Nat} {m x:Nat->Rat} {s:Nat->Nat}
  (ha:∀ j,j < 3->w.cell? ⟨gm,j,none⟩=some (.int .i64 (a j:Int))/\L[a j]?=some (m j,s j)) (hb:∀ j,j < 3->w.cell? ⟨gx,j,none⟩=some (.int .i64 (b j:Int))/\L[b j]?=some (x j,2+2)) (hs:∀ j,j < 3->s j<=60) :
  Calls Tryz.prog 184 #[v,.slice (some ⟨gm,0,none⟩) 3 cm,.slice (some ⟨gx,0,none⟩) 3 cx] w (vP N w L 5 (coV m x 3,coS s 3)):=by
 obtain⟨R,hR⟩:=qf (vP N w L 5 (coV m x 3,coS s 3));rw [<-hR.out];have HT:=q_h h;have HA:=q_h ha;have HB:=q_h hb;have HS:=q_h hs;obtain⟨gb,gc,rfl⟩:=h.form;have p0:=(ha 0 (by decide)).1;have p1:=(hb 0 (by decide)).1;obtain⟨M1,hM1⟩:=qf (L ++ [(coV m x 1,s 0+(2+2))]);clear h ha hb hs;obtain⟨W0,hW0⟩:∃ W0,W0=w:=⟨w,rfl⟩
 go_enter Tryz.func184,Tryz.ntmps184;go_upto_region 1 with (fail);refine Wh [Mn.eq (.slice (some ⟨gb,0,none⟩) L.length gc),Mn.eq (.slice (some ⟨gm,0,none⟩) 3 cm),Mn.q gm 0,Mn.i (a 0:Int),Mn.eq (.slice (some ⟨gx,0,none⟩) 3 cx),Mn.q gx 0,Mn.i (b 0:Int),Mn.tmx N M1 L.length,Mn.tmx N M1 L.length,Mn.trm N M1,Mn.i (L.length:Int),Mn.any,Mn.any] (sM [12,13,14,15,16,17,18,19,11,20,21,0,8]) [11,12] [10] (rQ 11 2) 2 (by kernel_rfl) ?_ ?_ ?_
 ·show ∀ i,i < 13->_
  iterate 13 refine fs ?_ ?_
  ·exact fz
  all_goals intro hl hs; first | exact absurd hl (by decide) | exact absurd hs (by decide) | (clear hl hs; refine stp rfl ?_; intro ac wi eI hB hA K hK)
  have o0:=oOf (hB 0) rfl
  rotate_left
  have o1:=oOf (hB 1) rfl
  rotate_left
  obtain⟨_,s13,rfl⟩:=hA 1 13
  rotate_left
  obtain⟨_,s14,rfl⟩:=hA 2 14;have cc0:=eI.cell p0
  rotate_left
  have o2:=oOf (hB 2) rfl
  rotate_left
  obtain⟨_,s16,rfl⟩:=hA 4 16
  rotate_left
  obtain⟨_,s17,rfl⟩:=hA 5 17;have cc0:=eI.cell p1
  rotate_left
  obtain⟨_,s12,rfl⟩:=hA 0 12;obtain⟨_,s15,rfl⟩:=hA 3 15;obtain⟨_,s18,rfl⟩:=hA 6 18;clear hB hA
  ·go_simp;refine (X8 (z:=coV m x 1) (HT.out.ext eI) (by omega) (op:=4) (by decide) (by decide) (HA.out 0 (by decide)).2 (HB.out 0 (by decide)).2 (by have:=HS.out 0 (by decide); omega) rfl).mono ?_;rw [<-hM1.out];rintro e wj ⟨vj,rfl,hj,ej⟩;go_wp2_with fail;exact hK.out _ _ ej ⟨vj,rfl,hj⟩
  obtain⟨x19,s19,j19⟩:=hA 7 19;replace j19:Mn.p (Mn.tmx N M1 L.length) x19 wi:=j19;clear hB hA
  ·go_simp;exact q_k hK j19
  obtain⟨x11,s11,j11⟩:=hA 8 11;replace j11:Mn.p (Mn.tmx N M1 L.length) x11 wi:=j11;clear hB hA
  ·obtain⟨vj,rfl,hj⟩:=j11;go_simp;exact q_k hK hj
  all_goals clear hB hA; go_simp; exact q_k hK rfl
 ·intro i hs;have hi':i=10:=by simpa using hs
  clear hs
  rcases hi' with rfl
  ·refine sft rfl (fun _ _ _ _ h=>h) ?_;intro ac wi eI hB hA;obtain⟨x11,s11,j11⟩:=hA 8 11;replace j11:Mn.p (Mn.tmx N M1 L.length) x11 wi:=j11;clear hB hA;obtain⟨vj,rfl,hj⟩:=j11;refine⟨(.int .i64 (L.length:Int)),.inl ⟨rfl,fun w9 _=>?_⟩,rfl⟩;go_simp
 intro vals wz eZ hJ;have J20:Mn.p (Mn.trm N M1) (vals 9) wz:=hJ 9 (by decide) (by decide);have J21:vals 10=_:=hJ 10 (by decide) (by decide);clear hJ;simp only [pr,Nat.reduceAdd,J21];clear J21
 generalize vals 9=z20 at J20 ⊢
 refine qh (i:=11) rfl (by kernel_rfl) (by kernel_rfl) (fun K hK=>?_);go_simp;refine hK.out _ _ ?_;clear hK K;try simp only [nr]
 refine qh (i:=12) rfl (by kernel_rfl) (by kernel_rfl) (fun K hK=>?_);go_simp;refine hK.out _ _ ?_;clear hK K;try simp only [nr]
 refine qi (by kernel_rfl) ?_ _;have HT1:=q_h J20;have HE1:=q_h eZ;obtain⟨b1,c1,rfl⟩:=HT1.out.form;clear J20 eZ p0 p1;obtain⟨w1,hwx⟩:∃ w1,w1=wz:=⟨_,rfl⟩
 subst hwx;have HP1:Hid (L <+: M1):=by rw [Hid,hM1.out]; exact kH _ _
 have HL1:Hid (M1.length+1<=L.length+1*2):=by rw [Hid,hM1.out,zO]; omega
 have HI1:Hid (M1[L.length]?=some (coV m x 1,coS s 1)):=by rw [Hid,hM1.out]; exact kP _ _
 clear hM1;obtain⟨i1,hi1⟩:=qf L.length;rw [<-hi1.out] at HI1 ⊢;go_wp2_with fail
 go_loopw [9,8,0] (fun kv sv tv wr=>∃ (k i b c:Nat) (M:List (Rat×Nat)),k<=3/\1<=k/\kv=.int .i64 (k:Int)/\sv=.int .i64 (i:Int)/\tv=.slice (some ⟨b,0,none⟩) M.length c/\Hid (Trm N wr tv M)/\Hid (L <+: M)/\Hid (M.length+1<=L.length+k*2)/\Hid (M[i]?=some (coV m x k,coS s k))/\Ext w wr) (fun kv _ _ _=>3 - (intOf kv).toNat)
 case atStart=>exact⟨1,i1,b1,c1,M1,by decide,by decide,rfl,rfl,rfl,HT1,HP1,HL1,HI1,HE1.out⟩
 case round =>
  obtain⟨k,i,b2,c2,M,hk,hk1,rfl,rfl,rfl,HT2,HP2,hM,HI2,hE2⟩:=hrel
  by_cases hlt:k < 3
  case neg =>
   obtain rfl:k=3:=by omega
   have t1:decide (((3:Nat):Int) < 3)=false:=by decide
   go_wp2
   first | go_ret2 | skip
   rw [hR.out];exact⟨_,i,M,rfl,HT2.out,HP2.out,by have:=hM.out; omega,HI2.out,hE2⟩
  have t1:decide ((k:Int) < 3)=true:=q_t (by omega);have hk3:(k:Int) < 3:=by omega
  have p0:=hE2.cell (HA.out k hlt).1;have p1:=hE2.cell (HB.out k hlt).1;have HX:=q_h (pre_at HP2.out (HA.out k hlt).2);have HY:=q_h (pre_at HP2.out (HB.out k hlt).2);have HSk:=HS.out k hlt;have HCk:=q2t HS.out k hk;have hml:M.length < 390:=by have:=hM.out; omega
  obtain⟨M3,hM3⟩:=qf (M ++ [(m k*x k,s k+(2+2))]);obtain⟨q3,hq3⟩:=qf M.length;obtain⟨w3,hwx⟩:∃ w3,w3=wr:=⟨_,rfl⟩
  subst hwx;go_upto_region 6 with (fail);refine Wh [Mn.eq (.slice (some ⟨b2,0,none⟩) M.length c2),Mn.eq (.slice (some ⟨gm,0,none⟩) 3 cm),Mn.i (k:Int),Mn.q gm k,Mn.i (a k:Int),Mn.eq (.slice (some ⟨gx,0,none⟩) 3 cx),Mn.i (k:Int),Mn.q gx k,Mn.i (b k:Int),Mn.tmx N M3 q3,Mn.tmx N M3 q3,Mn.trm N M3,Mn.i (q3:Int),Mn.any,Mn.any] (sM [29,30,31,32,33,34,35,36,37,38,28,39,40,0,10]) [13,14] [12] (rQ 13 2) 2 (by kernel_rfl) ?_ ?_ ?_
  ·show ∀ i,i < 15->_
   iterate 15 refine fs ?_ ?_
   ·exact fz
   all_goals intro hl hs; first | exact absurd hl (by decide) | exact absurd hs (by decide) | (clear hl hs; refine stp rfl ?_; intro ac wi eI hB hA K hK)
   have o0:=oOf (hB 0) rfl
   rotate_left
   have o1:=oOf (hB 1) rfl
   rotate_left
   have o9:=oOf (hB 9) rfl
   rotate_left
   obtain⟨_,s30,rfl⟩:=hA 1 30;obtain⟨_,s31,rfl⟩:=hA 2 31
   rotate_left
   obtain⟨_,s32,rfl⟩:=hA 3 32;have cc0:=eI.cell p0
   rotate_left
   have o2:=oOf (hB 2) rfl
   rotate_left
   have o9:=oOf (hB 9) rfl
   rotate_left
   obtain⟨_,s34,rfl⟩:=hA 5 34;obtain⟨_,s35,rfl⟩:=hA 6 35
   rotate_left
   obtain⟨_,s36,rfl⟩:=hA 7 36;have cc0:=eI.cell p1
   rotate_left
   obtain⟨_,s29,rfl⟩:=hA 0 29;obtain⟨_,s33,rfl⟩:=hA 4 33;obtain⟨_,s37,rfl⟩:=hA 8 37;clear hB hA
   ·go_simp;refine (X8 (z:=m k*x k) (HT2.out.ext eI) (by omega) (op:=4) (by decide) (by decide) HX.out HY.out (by omega) rfl).mono ?_;rw [<-hM3.out,<-hq3.out];rintro e wj ⟨vj,rfl,hj,ej⟩;go_wp2_with fail;exact hK.out _ _ ej ⟨vj,rfl,hj⟩
   obtain⟨x38,s38,j38⟩:=hA 9 38;replace j38:Mn.p (Mn.tmx N M3 q3) x38 wi:=j38;clear hB hA
   ·go_simp;exact q_k hK j38
   obtain⟨x28,s28,j28⟩:=hA 10 28;replace j28:Mn.p (Mn.tmx N M3 q3) x28 wi:=j28;clear hB hA
   ·obtain⟨vj,rfl,hj⟩:=j28;go_simp;exact q_k hK hj
   all_goals clear hB hA; go_simp; exact q_k hK rfl
  ·intro i hs;have hi':i=12:=by simpa using hs
   clear hs
   rcases hi' with rfl
   ·refine sft rfl (fun _ _ _ _ h=>h) ?_;intro ac wi eI hB hA;obtain⟨x28,s28,j28⟩:=hA 10 28;replace j28:Mn.p (Mn.tmx N M3 q3) x28 wi:=j28;clear hB hA;obtain⟨vj,rfl,hj⟩:=j28;refine⟨(.int .i64 (q3:Int)),.inl ⟨rfl,fun w9 _=>?_⟩,rfl⟩;go_simp
  intro vals wz eZ hJ;have J39:Mn.p (Mn.trm N M3) (vals 11) wz:=hJ 11 (by decide) (by decide);have J40:vals 12=_:=hJ 12 (by decide) (by decide);clear hJ;simp only [pr,Nat.reduceAdd,J40];clear J40
  generalize vals 11=z39 at J39 ⊢
  refine qh (i:=13) rfl (by kernel_rfl) (by kernel_rfl) (fun K hK=>?_);go_simp;refine hK.out _ _ ?_;clear hK K;try simp only [nr]
  refine qh (i:=14) rfl (by kernel_rfl) (by kernel_rfl) (fun K hK=>?_);go_simp;refine hK.out _ _ ?_;clear hK K;try simp only [nr]
  refine qi (by kernel_rfl) ?_ _;have HT3:=q_h J39;have HE3:=q_h (hE2.trans eZ);obtain⟨b3,c3,rfl⟩:=HT3.out.form;have HI3:Hid (M3[q3]?=some (m k*x k,s k+(2+2))):=by rw [Hid,hM3.out,hq3.out]; exact kP _ _
  have HJ3:Hid (M3[i]?=some (coV m x k,coS s k)):=by rw [Hid,hM3.out]; exact ji _ HI2.out
  have HL3:Hid (M3.length=M.length+1):=by rw [Hid,hM3.out,zO]
  have HP3:Hid (L <+: M3):=by rw [Hid,hM3.out]; exact HP2.out.trans (kH _ _)
  have hm3:M3.length < 395:=by rw [HL3.out]; omega
  clear J39 eZ p0 p1 hM3 hq3 HX HY HT2 hE2 HI2;obtain⟨w4,hwx⟩:∃ w4,w4=wz:=⟨_,rfl⟩
  subst hwx;go_wp2_with (go_at_call 138; refine q_o ?_);refine (Xw (z:=coV m x (k+1)) HT3.out (by omega) (op:=2) (by decide) (by decide) HJ3.out HI3.out (by omega) (q1N m x hk1)).mono ?_;rintro e w5 ⟨v5,i5,L5,rfl,hT5,hP5,hL5,hI5,hE5⟩;obtain⟨b5,c5,rfl⟩:=hT5.form;have HT5:=q_h hT5;have HP5:=q_h (HP3.out.trans hP5)
  have HL5:Hid (L5.length+1<=L.length+(k+1)*2):=by
   have h1:=hM.out;have h2:=HL3.out;rw [Hid]; omega
  have HI5:Hid (L5[i5]?=some (coV m x (k+1),coS s (k+1))):=by rw [Hid,q1O s hk1]; exact hI5
  have hE6:=HE3.out.trans hE5;clear hT5 hP5 hL5 hI5 hE5 HT3 HJ3 HI3;go_wp2;go_roundw
  case rel=>exact⟨k+1,i5,b5,c5,L5,by omega,by omega,by go_num,rfl,rfl,HT5,HP5,HL5,HI5,hE6⟩
  case measure=>simp [intOf]; omega
def Jb (r:Nat->Int):Array Value:=#[.int .i64 (r 0),.int .i64 (r 1),.int .i64 (r 2),.int .i64 (r 3)]
theorem q1f (r:Nat->Int) (hi:i < 4) (z:Int):(Jb r).setIfInBounds i (.int .i64 z)=Jb (fun j=>if j=i then z else r j):=by
 have:i=0\/i=1\/i=2\/i=3:=by omega
 rcases this with rfl | rfl | rfl | rfl <;> rfl
theorem JF {r:Nat->Int} {t:TypeId} (h:w.heap[g]?=some (.cells (Jb r) t (0,0))) (hi:i < 4):w.cell? ⟨g,i,none⟩=some (.int .i64 (r i))/\w.frozen? ⟨g,i,none⟩=false:=by
 obtain⟨m0,m1,m2,m3,f0,f1,f2,f3⟩:=cells4 h;have:i=0\/i=1\/i=2\/i=3:=by omega
 rcases this with rfl | rfl | rfl | rfl
 ·exact⟨m0,f0⟩
 ·exact⟨m1,f1⟩
 ·exact⟨m2,f2⟩
 ·exact⟨m3,f3⟩
theorem Yp {r:Nat->Int} (h:w.heap[g]?=some (.cells (Jb r) 216 (0,0))) (hi:i < 4) (z:Int) :
  (w.setCell ⟨g,i,none⟩ (.int .i64 z)).heap[g]?=some (.cells (Jb (fun j=>if j=i then z else r j)) 216 (0,0))/\Chg g (g+1) w (w.setCell ⟨g,i,none⟩ (.int .i64 z)):=by
 refine⟨?_,?_⟩
 ·rw [<-q1f r hi z];simp [World.setCell,Array.getElem?_modify,h]
 ·have u:Upd g w w:=⟨rfl,rfl,rfl,rfl,fun _ _=>rfl⟩
  exact (u.set i (.int .i64 z)).chg (NoU.mk h (by decide))
theorem QY {Q:Value->Prop} {cs:Array Value} {t:TypeId} {fr:Nat×Nat} (h:w.heap[g]?=some (.cells cs t fr)) (hq:∀ x∈cs.toList,Q x) (hj:j < cs.size):∃ x,w.cell? ⟨g,j,none⟩=some x/\Q x:=by
 refine⟨cs[j],?_,hq _ (by simp)⟩;rw [qg h];simp [hj]
theorem Trm.ne {c:Nat} {L:List (Rat×Nat)} {r:Nat->Int} {t:TypeId} {fr:Nat×Nat} (h:Trm N w (.slice (some ⟨b,0,none⟩) n c) L) (h0:0 < L.length) (hb:w.heap[g]?=some (.cells (Jb r) t fr)):b≠g:=by
 obtain⟨d,⟨-,b',c',hv,-,-,h3⟩,-⟩:=h;simp only [Value.slice.injEq,Option.some.injEq,Addr.mk.injEq,and_true] at hv;obtain⟨rfl,-,-⟩:=hv;intro e;subst e;obtain⟨-,-,-,s,t,h9,-⟩:=h3 0 h0;rw [qg hb] at h9;simp [Jb] at h9
def q53 (N:Nat) (w:World) (L:List (Rat×Nat)) (q:Nat->Int) (e:Ending) (w':World):Prop :=
 ∃ (v:Value) (r:Nat->Nat) (L':List (Rat×Nat)),e=.returned (.tuple #[v,.agg (Jb (fun j=>(r j:Int)))])/\Trm N w' v L'/\L <+: L'/\L'.length<=L.length+40/\(∀ j,j < 4->L'[r j]?=some ((q j:Rat),7))/\Ext w w'
theorem Va {L:List (Rat×Nat)} (h:Trm N w v L) (hl:L.length < 340) {a b c d:Int} (ha : -1048576<=a/\a<=1048576) (hb : -1048576<=b/\b<=1048576) (hc : -1048576<=c/\c<=1048576) (hd : -1048576<=d/\d<=1048576) {x y z:Nat} (hx:L[x]?=some (0,1)) (hy:L[y]?=some (0,1)) (hz:L[z]?=some (0,1)) :
  Calls Tryz.prog 185 #[v,quV a b c d,.int .i64 (x:Int),.int .i64 (y:Int),.int .i64 (z:Int)] w (q53 N w L (l4 a b c d)):=by
 obtain⟨R,hR⟩:=qf (q53 N w L (l4 a b c d));rw [<-hR.out];have HT:=q_h h;obtain⟨gb,gc,rfl⟩:=h.form;unfold quV;have HQ:Hid (∀ j,-1048576<=l4 a b c d j/\l4 a b c d j<=1048576):=fun j=>by unfold l4; (repeat' split) <;> assumption
 have HBD:=q_h (And.intro ha (And.intro hb (And.intro hc hd)));have HXYZ:=q_h (And.intro hx (And.intro hy hz));clear h ha hb hc hd hx hy hz;go_enter Tryz.func185,Tryz.ntmps185;go_upto_region 2 with (fail);refine zK ?_;intro w1 hE hsz B0 B1 B2;obtain⟨a0,a1,a2,a3,-⟩:=cells4 B0;go_upto_region 3 with (fail);refine ql ?_;intro w2 e2 hsz2 C0;replace a0:=e2.cell a0;replace a1:=e2.cell a1;replace a2:=e2.cell a2;replace a3:=e2.cell a3;go_upto_region 4 with (fail);refine ql ?_;intro w3 e3 hsz3 D0;clear a0 a1 a2 a3;go_upto_region 7 with (fail);refine zT ?_;intro w4 e4 hsz4 E0 E1
 have F13:Hid (∀ j,j < 4->w4.cell? ⟨w1.heap.size,j,none⟩=some (.int .i64 (l4 a b c d j))):=fun j hj=>by
  rw [qg ((e3.trans e4).block C0)];have:j=0\/j=1\/j=2\/j=3:=by omega
  rcases this with rfl | rfl | rfl | rfl <;> rfl
 have F14:Hid (∀ j,j < 12->∃ q:Int,w4.cell? ⟨w2.heap.size,j,none⟩=some (.int .i64 q)/\-1048576<=q/\q<=1048576):=fun j hj=>by
  obtain⟨u,h1,h2⟩:=QY (Q:=fun u=>∃ q:Int,u=.int .i64 q/\-1048576<=q/\q<=1048576) (e4.block D0) (fun u hu=>by
   obtain⟨ha,hb,hc,hd⟩:=HBD.out;simp only [List.mem_cons,List.not_mem_nil,or_false] at hu
   rcases hu with rfl | rfl | rfl | rfl | rfl | rfl | rfl | rfl | rfl | rfl | rfl | rfl <;> exact⟨_,rfl,by omega,by omega⟩) (j:=j) hj
  obtain⟨q,rfl,h3⟩:=h2;exact⟨q,h1,h3⟩
 have F15:Hid (∀ j,j < 12->∃ q:Nat,w4.cell? ⟨w3.heap.size,j,none⟩=some (.int .i64 (q:Int))/\L[q]?=some (0,1)):=fun j hj=>by
  obtain⟨u,h1,h2⟩:=QY (Q:=fun u=>∃ q:Nat,u=.int .i64 (q:Int)/\L[q]?=some (0,1)) E0 (fun u hu=>by
   obtain⟨hx,hy,hz⟩:=HXYZ.out;simp only [List.mem_cons,List.not_mem_nil,or_false] at hu
   rcases hu with rfl | rfl | rfl | rfl | rfl | rfl | rfl | rfl | rfl | rfl | rfl | rfl <;> exact⟨_,rfl,by assumption⟩) (j:=j) hj
  obtain⟨q,rfl,h3⟩:=h2;exact⟨q,h1,h3⟩
 have F18:Hid (∀ j,j < 12->∃ q:Int,w4.cell? ⟨w3.heap.size+1,j,none⟩=some (.int .i64 q)/\2<=q/\q<=3):=fun j hj=>by
  obtain⟨u,h1,h2⟩:=QY (Q:=fun u=>∃ q:Int,u=.int .i64 q/\2<=q/\q<=3) E1 (fun u hu=>by
   simp only [List.mem_cons,List.not_mem_nil,or_false] at hu
   rcases hu with rfl | rfl | rfl | rfl | rfl | rfl | rfl | rfl | rfl | rfl | rfl | rfl <;> exact⟨_,rfl,by decide,by decide⟩) (j:=j) hj
  obtain⟨q,rfl,h3⟩:=h2;exact⟨q,h1,h3⟩
 have hE4:=((hE.trans e2).trans e3).trans e4;have B24:w4.heap[w.heap.size+1+1]?=some (.cells (Jb (fun _=>0)) 216 (0,0)):=((e2.trans e3).trans e4).block B2;have B14:=((e2.trans e3).trans e4).block B1;clear B0 B1 B2 C0 D0 E0 E1 e2 e3 e4 HBD HXYZ;obtain⟨g2,hg2⟩:=qf w.heap.size;have HG2:Hid (∀ {g},w1.heap.size<=g->g≠w.heap.size+1+1/\g≠w.heap.size+1):=fun h=>⟨by omega,by omega⟩
 go_wp2_with fail
 go_loopw [19,0] (fun iv tv wr=>∃ (i bq cq:Nat) (M:List (Rat×Nat)) (r:Nat->Int),i<=4/\iv=.int .i64 (i:Int)/\tv=.slice (some ⟨bq,0,none⟩) M.length cq/\Hid (Trm N wr tv M)/\Hid (L <+: M)/\Hid (M.length<=L.length+10*i)/\Hid (∀ j,j < i->∃ n:Nat,r j=n/\M[n]?=some ((l4 a b c d j:Rat),7))/\wr.heap[w.heap.size+1+1]?=some (.cells (Jb r) 216 (0,0))/\Chg (w.heap.size+1+1) (w.heap.size+1+1+1) w4 wr) (fun iv _ _=>4 - (intOf iv).toNat)
 case atStart=>exact⟨0,gb,gc,L,fun _=>0,Nat.zero_le _,rfl,rfl,HT.out.ext hE4,List.prefix_refl L,q_r,fun j hj=>absurd hj (Nat.not_lt_zero j),B24,Chg.refl _ _ _⟩
 case round =>
  obtain⟨i,b5,c5,M,r,hi,rfl,rfl,HT5,HP5,HL5,HR5,B5,C5⟩:=hrel
  by_cases hlt:i < 4
  case neg =>
   obtain rfl:i=4:=by omega
   have t1:decide (((4:Nat):Int) < 4)=false:=by decide
   have B6:=C5.blk B14 (by omega);obtain⟨a0,a1,a2,a3,-⟩:=cells4 B5;obtain⟨w5,hwx⟩:∃ w5,w5=wr:=⟨_,rfl⟩
   subst hwx;go_upto_region 15 with (fail);obtain⟨m0,m1,m2,m3,f0,f1,f2,f3⟩:=cells4 B6
   go_region_with (fail)
   all_goals
    obtain⟨w6,E6,D6,U6⟩:=ex4 B6 (.int .i64 (r 0)) (.int .i64 (r 1)) (.int .i64 (r 2)) (.int .i64 (r 3));rw [E6];have C6:=U6.chg (NoU.mk B6 (by decide))
    have hpos:0 < M.length:=by
     obtain⟨n,-,h9⟩:=HR5.out 0 (by decide);have:=vO h9;omega
    have hne:b5≠w.heap.size+1:=Trm.ne HT5.out hpos (r:=fun _=>0) B6;have hNw:N<=w.heap.size:=HT.out.le;have HT6:=q_h (HT5.out.chg C6 (by omega) hne);obtain⟨w7,hw7⟩:∃ w7,w7=w6.drew:=⟨_,rfl⟩
    have E67:Ext w6 w7:=by rw [hw7]; exact (Ext.refl w6).drew
    rw [<-hw7];have hE7:Ext w w7:=(C6.ext (C5.ext hE4 (by omega)) (by omega)).trans E67;clear hw7 E6 a0 a1 a2 a3 m0 m1 m2 m3 f0 f1 f2 f3 C5 C6 B5 B6 hne B24 B14;obtain⟨m0,m1,m2,m3,-⟩:=cells4 (E67.block D6);go_wp2;refine bodyPost_ret (v:=.tuple #[.slice (some ⟨b5,0,none⟩) M.length c5,.agg (Jb r)]) ?_ rfl ?_
    ·simp [results,Tryz.results185,m0,m1,m2,m3,go_sem,Jb]
    rw [hR.out];have hr:∀ j,j < 4->r j=((r j).toNat:Int):=fun j hj=>by obtain⟨n,h1,-⟩:=HR5.out j hj; omega
    refine⟨_,fun j=>(r j).toNat,M,?_,HT6.out.ext E67,HP5.out,HL5.out,fun j hj=>by obtain⟨n,h1,h2⟩:=HR5.out j hj; show M[(r j).toNat]?=_; rw [h1,Int.toNat_natCast]; exact h2,hE7⟩
    have hro:Jb r=Jb (fun j=>((r j).toNat:Int)):=by
     show _=#[Value.int .i64 ((r 0).toNat:Int),.int .i64 ((r 1).toNat:Int),.int .i64 ((r 2).toNat:Int),.int .i64 ((r 3).toNat:Int)]
     rw [<-hr 0 (by decide),<-hr 1 (by decide),<-hr 2 (by decide),<-hr 3 (by decide)]
     rfl
    rw [hro]
  have t1:decide ((i:Int) < 4)=true:=q_t (by omega);have hi4:(i:Int) < 4:=by omega
  have hNw:N<=w.heap.size:=HT.out.le;have hml:M.length < 390:=by have:=HL5.out; omega
  have p0:=C5.cell (F13.out i hlt) (by show w1.heap.size < _\/_<=w1.heap.size; omega);obtain⟨wq,hwq⟩:∃ wq,wq=wr:=⟨_,rfl⟩
  subst hwq;go_wp2_with (go_at_call 137; refine q_o ?_);refine (xM HT5.out (by omega) (HQ.out i)).mono ?_;rintro e w6 ⟨v6,rfl,hT6,e6⟩;obtain⟨M6,hM6⟩:=qf (M ++ [((l4 a b c d i:Rat),1)]);rw [<-hM6.out] at hT6;obtain⟨b6,c6,rfl⟩:=hT6.form;have B6:=e6.block B5;obtain⟨mi,fi⟩:=JF B6 hlt;clear p0;go_upto_region 11 with (fail);obtain⟨B7,C7⟩:=Yp B6 hlt (M.length:Int);have hp6:0 < M6.length:=by rw [hM6.out,zO]; omega
  have hT7:=hT6.chg C7 (by omega) (Trm.ne hT6 hp6 B6);have C47:=(C5.trans (e6.chg _ _)).trans C7;obtain⟨w7,hw7⟩:∃ w7,w7=w6.setCell ⟨w.heap.size+1+1,i,none⟩ (.int .i64 (M.length:Int)):=⟨_,rfl⟩
  rw [<-hw7] at B7 C7 hT7 C47 ⊢;obtain⟨r7,hr7⟩:=qf (fun j=>if j=i then (M.length:Int) else r j);rw [<-hr7.out] at B7;have HP7:Hid (L <+: M6):=by rw [Hid,hM6.out]; exact HP5.out.trans (kH _ _)
  have HL7:Hid (M6.length<=L.length+10*i+1+3*0):=by
   have:=HL5.out;rw [Hid,hM6.out,zO]; omega
  have HR7:Hid (∀ j,j < i->∃ n:Nat,r7 j=n/\M6[n]?=some ((l4 a b c d j:Rat),7)):=fun j hj=>by
   obtain⟨n,h1,h2⟩:=HR5.out j hj;exact⟨n,by rw [hr7.out]; show (if j=i then _ else _)=_; rw [if_neg (by omega)]; exact h1,by rw [hM6.out]; exact ji _ h2⟩
  have HI7:Hid (∃ n:Nat,r7 i=n/\M6[n]?=some ((l4 a b c d i:Rat),1+0*2)):=⟨M.length,by rw [hr7.out]; show (if i=i then _ else _)=_; rw [if_pos rfl],by rw [hM6.out]; exact kP _ _⟩
  have HT7:=q_h hT7;clear hw7 mi fi B6 C7 hT6 hT7 e6 hM6 C5 B5 HT5 HL5 HR5 HP5 hml hp6;go_wp2_with fail
  go_loopw [20,0] (fun kv tv wr=>∃ (k bq cq:Nat) (M:List (Rat×Nat)) (r:Nat->Int),k<=3/\kv=.int .i64 (k:Int)/\tv=.slice (some ⟨bq,0,none⟩) M.length cq/\Hid (Trm N wr tv M)/\Hid (L <+: M)/\Hid (M.length<=L.length+10*i+1+3*k)/\Hid (∀ j,j < i->∃ n:Nat,r j=n/\M[n]?=some ((l4 a b c d j:Rat),7))/\Hid (∃ n:Nat,r i=n/\M[n]?=some ((l4 a b c d i:Rat),1+k*2))/\wr.heap[w.heap.size+1+1]?=some (.cells (Jb r) 216 (0,0))/\Chg (w.heap.size+1+1) (w.heap.size+1+1+1) w4 wr) (fun kv _ _=>3 - (intOf kv).toNat)
  case atStart=>exact⟨0,b6,c6,M6,r7,Nat.zero_le _,rfl,rfl,HT7,HP7,HL7,HR7,HI7,B7,C47⟩
  case round =>
   obtain⟨k,b8,c8,M8,r8,hk,rfl,rfl,HT8,HP8,HL8,HR8,HI8,B8,C8⟩:=hrel
   by_cases hlt3:k < 3
   case neg =>
    obtain rfl:k=3:=by omega
    have t2:decide (((3:Nat):Int) < 3)=false:=by decide
    have HL9:Hid (M8.length<=L.length+10*(i+1)):=by
     have:=HL8.out;rw [Hid]; omega
    have HR9:Hid (∀ j,j < i+1->∃ n:Nat,r8 j=n/\M8[n]?=some ((l4 a b c d j:Rat),7)):=fun j hj=>by
     by_cases hji:j < i
     ·exact HR8.out j hji
     ·obtain rfl:j=i:=by omega
      exact HI8.out
    go_wp2;go_roundw
    case rel=>exact⟨i+1,b8,c8,M8,r8,by omega,by go_num,rfl,HT8,HP8,HL9,HR9,B8,C8⟩
    case measure=>simp [intOf]; omega
   have t2:decide ((k:Int) < 3)=true:=q_t (by omega);have hk3:(k:Int) < 3:=by omega
   obtain⟨o9,q0,ho2,ho3⟩:=F18.out (i*3+k) (by omega);obtain⟨f9,q1,hf9⟩:=F14.out (i*3+k) (by omega);obtain⟨n9,q2,hn9⟩:=F15.out (i*3+k) (by omega);obtain⟨m9,hm9,hm9'⟩:=HI8.out;replace q0:=C8.cell q0 (by show w3.heap.size+1 < _\/_<=w3.heap.size+1; omega);replace q1:=C8.cell q1 (by show w2.heap.size < _\/_<=w2.heap.size; omega);replace q2:=C8.cell q2 (by show w3.heap.size < _\/_<=w3.heap.size; omega);have q3:=(JF B8 hlt).1;rw [hm9] at q3;have HM9:=q_h hm9';have HN9:=q_h (pre_at HP8.out hn9);have HO9:=q_h (And.intro ho2 ho3);have HF9:=q_h hf9;have hml:M8.length < 390:=by have:=HL8.out; omega
   obtain⟨M9,hM9⟩:=qf (scL M8 f9 (l4 a b c d i:Rat) (1+k*2));obtain⟨q9,hq9⟩:=qf (M8.length+2);have hE8:Ext w wr:=C8.ext hE4 (by omega);clear hm9' hn9 ho2 ho3 hf9;obtain⟨w8,hwx⟩:∃ w8,w8=wr:=⟨_,rfl⟩
   subst hwx;go_upto_region 14 with (fail);refine Wh [Mn.i (i:Int),Mn.eq (.slice (some ⟨b8,0,none⟩) M8.length c8),Mn.i (i:Int),Mn.i (k:Int),Mn.q (w3.heap.size+1) (i*3),Mn.q (w3.heap.size+1) (i*3+k),Mn.i o9,Mn.i (i:Int),Mn.q (w.heap.size+1+1) i,Mn.i (m9:Int),Mn.i (i:Int),Mn.i (k:Int),Mn.q w2.heap.size (i*3),Mn.q w2.heap.size (i*3+k),Mn.i f9,Mn.i (i:Int),Mn.i (k:Int),Mn.q w3.heap.size (i*3),Mn.q w3.heap.size (i*3+k),Mn.i (n9:Int),Mn.tmx N M9 q9,Mn.tmx N M9 q9,Mn.trm N M9,Mn.i (q9:Int),Mn.any,Mn.any,Mn.any] [some 113,some 114,some 115,some 116,some 117,some 118,some 119,some 120,some 121,some 122,some 123,some 124,some 125,some 126,some 127,some 128,some 129,some 130,some 131,some 132,some 133,some 112,some 134,some 135,some 0,some 136,none] [24,25,26] [0,23] (rQ 24 3) 3 (by kernel_rfl) ?_ ?_ ?_
   ·show ∀ i,i < 27->_
    iterate 27 refine fs ?_ ?_
    ·exact fz
    all_goals intro hl hs; first | exact absurd hl (by decide) | exact absurd hs (by decide) | (clear hl hs; refine stp rfl ?_; intro ac wi eI hB hA K hK)
    have o0:=oOf (hB 0) rfl
    rotate_left
    have o19:=oOf (hB 19) rfl
    rotate_left
    have o20:=oOf (hB 20) rfl
    rotate_left
    have o18:=oOf (hB 18) rfl;obtain⟨_,s115,rfl⟩:=hA 2 115
    rotate_left
    obtain⟨_,s117,rfl⟩:=hA 4 117;obtain⟨_,s116,rfl⟩:=hA 3 116
    rotate_left
    obtain⟨_,s118,rfl⟩:=hA 5 118;have cc0:=eI.cell q0
    rotate_left
    have o19:=oOf (hB 19) rfl
    rotate_left
    have o12:=oOf (hB 12) rfl;obtain⟨_,s120,rfl⟩:=hA 7 120
    rotate_left
    obtain⟨_,s121,rfl⟩:=hA 8 121;have cc0:=eI.cell q3
    rotate_left
    have o19:=oOf (hB 19) rfl
    rotate_left
    have o20:=oOf (hB 20) rfl
    rotate_left
    have o14:=oOf (hB 14) rfl;obtain⟨_,s123,rfl⟩:=hA 10 123
    rotate_left
    obtain⟨_,s125,rfl⟩:=hA 12 125;obtain⟨_,s124,rfl⟩:=hA 11 124
    rotate_left
    obtain⟨_,s126,rfl⟩:=hA 13 126;have cc0:=eI.cell q1
    rotate_left
    have o19:=oOf (hB 19) rfl
    rotate_left
    have o20:=oOf (hB 20) rfl
    rotate_left
    have o15:=oOf (hB 15) rfl;obtain⟨_,s128,rfl⟩:=hA 15 128
    rotate_left
    obtain⟨_,s130,rfl⟩:=hA 17 130;obtain⟨_,s129,rfl⟩:=hA 16 129
    rotate_left
    obtain⟨_,s131,rfl⟩:=hA 18 131;have cc0:=eI.cell q2
    rotate_left
    obtain⟨_,s114,rfl⟩:=hA 1 114;obtain⟨_,s119,rfl⟩:=hA 6 119;obtain⟨_,s122,rfl⟩:=hA 9 122;obtain⟨_,s127,rfl⟩:=hA 14 127;obtain⟨_,s132,rfl⟩:=hA 19 132;clear hB hA
    ·go_simp;refine (Vb (HT8.out.ext eI) hml HO9.out.1 HO9.out.2 HM9.out HN9.out (by omega) HF9.out).mono ?_;rw [<-hM9.out,<-hq9.out];rintro e wj ⟨vj,rfl,hj,ej⟩;go_wp2_with fail;exact hK.out _ _ ej ⟨vj,rfl,hj⟩
    obtain⟨x133,s133,j133⟩:=hA 20 133;replace j133:Mn.p (Mn.tmx N M9 q9) x133 wi:=j133;clear hB hA
    ·go_simp;exact q_k hK j133
    obtain⟨x112,s112,j112⟩:=hA 21 112;replace j112:Mn.p (Mn.tmx N M9 q9) x112 wi:=j112;clear hB hA
    ·obtain⟨vj,rfl,hj⟩:=j112;go_simp;exact q_k hK hj
    all_goals clear hB hA; go_simp; exact q_k hK rfl
   ·intro i hs;have hi':i=0\/i=23:=by simpa using hs
    clear hs
    rcases hi' with rfl | rfl
    ·refine sft rfl (fun _ _ _ _ h=>h) ?_;intro ac wi eI hB hA;have o19:=oOf (hB 19) rfl;clear hB hA;refine⟨(.int .i64 (i:Int)),.inl ⟨rfl,fun w9 _=>?_⟩,rfl⟩;go_simp
    ·refine sft rfl (fun _ _ _ _ h=>h) ?_;intro ac wi eI hB hA;obtain⟨x112,s112,j112⟩:=hA 21 112;replace j112:Mn.p (Mn.tmx N M9 q9) x112 wi:=j112;clear hB hA;obtain⟨vj,rfl,hj⟩:=j112;refine⟨(.int .i64 (q9:Int)),.inl ⟨rfl,fun w9 _=>?_⟩,rfl⟩;go_simp
   intro vals wz eZ hJ;have J113:vals 0=_:=hJ 0 (by decide) (by decide);have J134:Mn.p (Mn.trm N M9) (vals 22) wz:=hJ 22 (by decide) (by decide);have J135:vals 23=_:=hJ 23 (by decide) (by decide);clear hJ;simp only [pr,Nat.reduceAdd,J113,J135];clear J113 J135
   generalize vals 22=z134 at J134 ⊢
   have B9:=eZ.block B8;obtain⟨mi,fi⟩:=JF B9 hlt;refine qh (i:=24) rfl (by kernel_rfl) (by kernel_rfl) (fun K hK=>?_);go_simp;refine hK.out _ _ ?_;clear hK K;try simp only [nr]
   refine qh (i:=25) rfl (by kernel_rfl) (by kernel_rfl) (fun K hK=>?_);go_simp;refine hK.out _ _ ?_;clear hK K;try simp only [nr]
   refine qh (i:=26) rfl (by kernel_rfl) (by kernel_rfl) (fun K hK=>?_);go_simp;refine hK.out _ _ ?_;clear hK K;try simp only [nr]
   refine qi (by kernel_rfl) ?_ _;have HT9:Hid (Trm N wz z134 M9):=J134;obtain⟨b9,c9,rfl⟩:=HT9.out.form;obtain⟨B10,C10⟩:=Yp B9 hlt (q9:Int);have hp9:0 < M9.length:=by rw [hM9.out,VZ]; omega
   have HT10:=q_h (HT9.out.chg C10 (by omega) (Trm.ne HT9.out hp9 B9));have C11:=(C8.trans (eZ.chg _ _)).trans C10;obtain⟨w10,hw10⟩:∃ w10,w10=wz.setCell ⟨w.heap.size+1+1,i,none⟩ (.int .i64 (q9:Int)):=⟨_,rfl⟩
   rw [<-hw10] at B10 HT10 C11 ⊢;obtain⟨r9,hr9⟩:=qf (fun j=>if j=i then (q9:Int) else r8 j);rw [<-hr9.out] at B10;have HP9:Hid (L <+: M9):=by rw [Hid,hM9.out]; exact HP8.out.trans (VY _ _ _ _)
   have HL9:Hid (M9.length<=L.length+10*i+1+3*(k+1)):=by
    have:=HL8.out;rw [Hid,hM9.out,VZ]; omega
   have HR9:Hid (∀ j,j < i->∃ n:Nat,r9 j=n/\M9[n]?=some ((l4 a b c d j:Rat),7)):=fun j hj=>by
    obtain⟨n,h1,h2⟩:=HR8.out j hj;exact⟨n,by rw [hr9.out]; show (if j=i then _ else _)=_; rw [if_neg (by omega)]; exact h1,by rw [hM9.out]; exact pre_at (VY _ _ _ _) h2⟩
   have HI9:Hid (∃ n:Nat,r9 i=n/\M9[n]?=some ((l4 a b c d i:Rat),1+(k+1)*2)):=⟨q9,by rw [hr9.out]; show (if i=i then _ else _)=_; rw [if_pos rfl],by
    rw [hM9.out,hq9.out,q47,show 1+k*2+(1+1)=1+(k+1)*2 by omega]⟩
   clear hw10 J134 mi fi B9 C10 C8 eZ q0 q1 q2 q3 hM9 hq9 hp9 HT9;go_wp2;go_roundw
   case rel=>exact⟨k+1,b9,c9,M9,r9,by omega,by go_num,rfl,HT10,HP9,HL9,HR9,HI9,B10,C11⟩
   case measure=>simp [intOf]; omega
def qR (S:Sta) (j:Nat):Rat:=(l4 S.qa S.qb S.qc S.qd j:Rat)
def oQ (c j:Nat):Int:=if j=c then 2 else 3
theorem q39 (c:Nat):∀ j,j < 3->2<=oQ c j/\oQ c j<=3:=fun j _=>by unfold oQ; split <;> decide
def mT (S:Sta) (c j:Nat):Rat :=
 if c=0 then (if j=0 then sqV (oQ 0) (qR S) 3 else if j=1 then 2*opF 2 (qR S 1*qR S 2) (qR S 0*qR S 3) else 2*opF 3 (qR S 1*qR S 3) (qR S 0*qR S 2))
 else if c=1 then (if j=0 then 2*opF 3 (qR S 1*qR S 2) (qR S 0*qR S 3) else if j=1 then sqV (oQ 1) (qR S) 3 else 2*opF 2 (qR S 2*qR S 3) (qR S 0*qR S 1))
 else (if j=0 then 2*opF 2 (qR S 1*qR S 3) (qR S 0*qR S 2) else if j=1 then 2*opF 3 (qR S 2*qR S 3) (qR S 0*qR S 1) else sqV (oQ 2) (qR S) 3)
def szT (c j:Nat):Nat:=if j=c then 56 else 29
def q57 (N:Nat) (w:World) (S:Sta) (P:Nat->Int) (e:Ending) (w':World):Prop :=
 ∃ (v:Value) (g:Nat) (ix:Nat->Nat) (L':List (Rat×Nat)),e=.returned (.tuple #[v,.slice (some ⟨g,0,none⟩) 3 3])/\Trm N w' v L'/\L'.length<=150 /\
  (∀ c,c < 3->w'.cell? ⟨g,c,none⟩=some (.int .i64 (ix c:Int))/\L'[ix c]?=some (coV (mT S c) (VB S P) 3,coS (szT c) 3))/\Ext w w'
theorem Q7 (hN:N<=w.heap.size) {gs gp go:Nat} {P:Nat->Int} (hn:q0B w gs gp go S P) (hS:KZ S) (hb:∀ what k,-1048576<=Zb S P what k/\Zb S P what k<=1048576) :
  Calls Tryz.prog 135 #[Jc gs gp go,.int .i64 0,.int .i64 0] w (q57 N w S P):=by
 obtain⟨R,hR⟩:=qf (q57 N w S P);rw [<-hR.out];have HN:=q_h hn;have HS:=q_h hS;have HB:=q_h hb;unfold Jc;clear hn hS hb;go_enter Tryz.func135,Tryz.ntmps135;go_upto_region 1 with (fail);refine ql ?_;intro w0 hE hsz B0;go_upto_region 2 with (fail);refine ql ?_;intro wa ea hsza B1;replace B0:=ea.block B0;replace hE:=hE.trans ea;obtain⟨a0,a1,a2,a3,-⟩:=cells4 B0;have st0:=(HN.out.ext hE).st;obtain⟨s0,s1,s2,s3,s4,s5,s6,-⟩:=st0;simp only [Nat.zero_add] at s0 s1 s2 s3 s4 s5 s6;go_upto_region 3 with (fail);refine ql ?_;intro w1 e1 hsz1 B2;have HE1:Hid (Ext w w1):=hE.trans e1;obtain⟨d0,d1,d2,d3,-⟩:=cells4 B2;replace a0:=e1.cell a0;replace a1:=e1.cell a1;replace a2:=e1.cell a2;replace a3:=e1.cell a3;have HT1:Hid (Trm N w1 (.slice (some ⟨w0.heap.size,0,none⟩) 0 0) []):=Trm.empty (by have:=HE1.out.size; omega);obtain⟨L1,hL1⟩:=qf ([]:List (Rat×Nat));rw [<-hL1.out] at HT1;have hl1:L1.length<=0:=by rw [hL1.out]; exact q_r
 clear s0 s1 s2 s3 s4 s5 s6 B0 B1 B2 e1 hE;go_wp2_with (go_at_call 182; refine q_o ?_);refine (ja (HN.out.ext HE1.out) (what:=0) (k:=3) (by decide) (by decide)).mono ?_;rintro e y2 ⟨rfl,ey2⟩;go_wp2_with (go_at_call 181; refine q_o ?_);refine (wG (HT1.out.ext ey2) (by omega) (k:=0*6+3) (by decide)).mono ?_;rintro e w2 ⟨v2,i2,L2,rfl,hT2,hp2,hl2,hI2,e2⟩;have HT2:=q_h hT2;have HP2:Hid (L1 <+: L2):=hp2;have HI2:=q_h hI2;have HE2:Hid (Ext w w2):=HE1.out.trans (ey2.trans e2);replace d0:=(ey2.trans e2).cell d0;replace d1:=(ey2.trans e2).cell d1;replace d2:=(ey2.trans e2).cell d2;replace d3:=(ey2.trans e2).cell d3;replace a0:=(ey2.trans e2).cell a0;replace a1:=(ey2.trans e2).cell a1;replace a2:=(ey2.trans e2).cell a2;replace a3:=(ey2.trans e2).cell a3;clear hT2 hp2 hI2 e2 ey2;go_wp2_with (go_at_call 182; refine q_o ?_);refine (ja (HN.out.ext HE2.out) (what:=0) (k:=4) (by decide) (by decide)).mono ?_;rintro e y3 ⟨rfl,ey3⟩;go_wp2_with (go_at_call 181; refine q_o ?_);refine (wG (HT2.out.ext ey3) (by omega) (k:=0*6+4) (by decide)).mono ?_;rintro e w3 ⟨v3,i3,L3,rfl,hT3,hp3,hl3,hI3,e3⟩;have HT3:=q_h hT3;have HP3:Hid (L2 <+: L3):=hp3;have HI3:=q_h hI3;have HE3:Hid (Ext w w3):=HE2.out.trans (ey3.trans e3);replace d0:=(ey3.trans e3).cell d0;replace d1:=(ey3.trans e3).cell d1;replace d2:=(ey3.trans e3).cell d2;replace d3:=(ey3.trans e3).cell d3;replace a0:=(ey3.trans e3).cell a0
 replace a1:=(ey3.trans e3).cell a1;replace a2:=(ey3.trans e3).cell a2;replace a3:=(ey3.trans e3).cell a3;clear hT3 hp3 hI3 e3 ey3;go_wp2_with (go_at_call 182; refine q_o ?_);refine (ja (HN.out.ext HE3.out) (what:=0) (k:=5) (by decide) (by decide)).mono ?_;rintro e y4 ⟨rfl,ey4⟩;go_wp2_with (go_at_call 181; refine q_o ?_);refine (wG (HT3.out.ext ey4) (by omega) (k:=0*6+5) (by decide)).mono ?_;rintro e w4 ⟨v4,i4,L4,rfl,hT4,hp4,hl4,hI4,e4⟩;have HT4:=q_h hT4;have HP4:Hid (L3 <+: L4):=hp4;have HI4:=q_h hI4;have HE4:Hid (Ext w w4):=HE3.out.trans (ey4.trans e4);replace d0:=(ey4.trans e4).cell d0;replace d1:=(ey4.trans e4).cell d1;replace d2:=(ey4.trans e4).cell d2;replace d3:=(ey4.trans e4).cell d3;replace a0:=(ey4.trans e4).cell a0;replace a1:=(ey4.trans e4).cell a1;replace a2:=(ey4.trans e4).cell a2;replace a3:=(ey4.trans e4).cell a3;clear hT4 hp4 hI4 e4 ey4;have HX4:=q_h (pre_at (HP3.out.trans HP4.out) HI2.out);have HY4:=q_h (pre_at HP4.out HI3.out);have hm4:L4.length<=3:=by omega
 clear hl1 hl2 hl3 hl4 HI2 HI3 HP2 HP3 HP4 HT1 HT2 HT3 hL1 HE1 HE2 HE3;go_wp2_with (go_at_call 185; refine q_o ?_);refine (Va HT4.out (by omega) HS.out.qa HS.out.qb HS.out.qc HS.out.qd HX4.out HY4.out HI4.out).mono ?_;rintro e w5 ⟨v5,r,L5,rfl,hT5,hp5,hl5,hR5,e5⟩;unfold Jb;have HT5:=q_h hT5;have HR5:Hid (∀ j,j < 4->L5[r j]?=some (qR S j,7)):=hR5;have hm5:L5.length<=43:=by omega
 have HE5:Hid (Ext w w5):=HE4.out.trans e5;replace a0:=e5.cell a0;replace a1:=e5.cell a1;replace a2:=e5.cell a2;replace a3:=e5.cell a3;have hl05:0 < L5.length:=by have:=vO (HR5.out 0 (by decide)); omega
 clear hT5 hp5 hl5 hR5 e5 d0 d1 d2 d3 HT4 HX4 HY4 HI4 HE4 hm4;go_upto_region 26 with (fail);refine ql ?_;intro wb eb hszb Bb;replace a0:=eb.cell a0;replace a1:=eb.cell a1;replace a2:=eb.cell a2;replace a3:=eb.cell a3;go_wp2_with (go_at_call 141; refine q_o ?_);refine (Jz (HT5.out.ext eb) hl05 (by omega) (HN.out.ext (HE5.out.trans eb)) HB.out).mono ?_;rintro e w6 ⟨v6,gx,cx,ix,L6,rfl,hT6,hp6,hl6,hX6,e6⟩;have HT6:=q_h hT6;have HX6:=q_h hX6;have HQ6:Hid (L5 <+: L6):=hp6;have HE6:Hid (Ext w w6):=HE5.out.trans (eb.trans e6);have hm6:L6.length<=64:=by omega
 obtain⟨n0,n1,n2,n3,-⟩:=cells4 (e6.block Bb);clear hT6 hp6 hl6 hX6 e6 eb Bb a0 a1 a2 a3 HT5 hm5 HE5;have HF6:Hid (Ext w6 w6):=Ext.refl w6;go_wp2_with (go_at_call 186; refine q_o ?_);refine (yI (q:=r) (x:=qR S) (o:=oQ 0) HT6.out (by omega) (fun j hj=>pre_at HQ6.out (HR5.out j hj)) (q39 0)).mono ?_;rintro e w7 ⟨v7,i7,L7,rfl,hT7,hp7,hl7,hI7,e7⟩;have HT7:=q_h hT7;have HP7:Hid (L6 <+: L7):=hp7;have HI7:=q_h hI7;have HQ7:Hid (L5 <+: L7):=HQ6.out.trans hp7;have HF7:Hid (Ext w6 w7):=HF6.out.trans e7;have HE7:Hid (Ext w w7):=HE6.out.trans e7;replace n0:=e7.cell n0;replace n1:=e7.cell n1;replace n2:=e7.cell n2;replace n3:=e7.cell n3;clear hT7 hp7 hI7 e7;go_wp2_with (go_at_call 187; refine q_o ?_);refine (xx (op:=2) HT7.out (by omega) (by decide) (by decide) (pre_at HQ7.out (HR5.out 1 (by decide))) (pre_at HQ7.out (HR5.out 2 (by decide))) (pre_at HQ7.out (HR5.out 0 (by decide))) (pre_at HQ7.out (HR5.out 3 (by decide)))).mono ?_;rintro e w8 ⟨v8,i8,L8,rfl,hT8,hp8,hl8,hI8,e8⟩;have HT8:=q_h hT8;have HP8:Hid (L7 <+: L8):=hp8;have HI8:=q_h hI8;have HQ8:Hid (L5 <+: L8):=HQ7.out.trans hp8;have HF8:Hid (Ext w6 w8):=HF7.out.trans e8;have HE8:Hid (Ext w w8):=HE7.out.trans e8;replace n0:=e8.cell n0;replace n1:=e8.cell n1;replace n2:=e8.cell n2;replace n3:=e8.cell n3;clear hT8 hp8 hI8 e8;go_wp2_with (go_at_call 187; refine q_o ?_);refine (xx (op:=3) HT8.out (by omega) (by decide) (by decide) (pre_at HQ8.out (HR5.out 1 (by decide))) (pre_at HQ8.out (HR5.out 3 (by decide))) (pre_at HQ8.out (HR5.out 0 (by decide))) (pre_at HQ8.out (HR5.out 2 (by decide)))).mono ?_
 rintro e w9 ⟨v9,i9,L9,rfl,hT9,hp9,hl9,hI9,e9⟩;have HT9:=q_h hT9;have HP9:Hid (L8 <+: L9):=hp9;have HI9:=q_h hI9;have HQ9:Hid (L5 <+: L9):=HQ8.out.trans hp9;have HF9:Hid (Ext w6 w9):=HF8.out.trans e9;have HE9:Hid (Ext w w9):=HE8.out.trans e9;replace n0:=e9.cell n0;replace n1:=e9.cell n1;replace n2:=e9.cell n2;replace n3:=e9.cell n3;clear hT9 hp9 hI9 e9;go_wp2_with (go_at_call 187; refine q_o ?_);refine (xx (op:=3) HT9.out (by omega) (by decide) (by decide) (pre_at HQ9.out (HR5.out 1 (by decide))) (pre_at HQ9.out (HR5.out 2 (by decide))) (pre_at HQ9.out (HR5.out 0 (by decide))) (pre_at HQ9.out (HR5.out 3 (by decide)))).mono ?_;rintro e w10 ⟨v10,i10,L10,rfl,hT10,hp10,hl10,hI10,e10⟩;have HT10:=q_h hT10;have HP10:Hid (L9 <+: L10):=hp10;have HI10:=q_h hI10;have HQ10:Hid (L5 <+: L10):=HQ9.out.trans hp10;have HF10:Hid (Ext w6 w10):=HF9.out.trans e10;have HE10:Hid (Ext w w10):=HE9.out.trans e10;replace n0:=e10.cell n0;replace n1:=e10.cell n1;replace n2:=e10.cell n2;replace n3:=e10.cell n3;clear hT10 hp10 hI10 e10;go_wp2_with (go_at_call 186; refine q_o ?_);refine (yI (q:=r) (x:=qR S) (o:=oQ 1) HT10.out (by omega) (fun j hj=>pre_at HQ10.out (HR5.out j hj)) (q39 1)).mono ?_;rintro e w11 ⟨v11,i11,L11,rfl,hT11,hp11,hl11,hI11,e11⟩;have HT11:=q_h hT11;have HP11:Hid (L10 <+: L11):=hp11;have HI11:=q_h hI11;have HQ11:Hid (L5 <+: L11):=HQ10.out.trans hp11;have HF11:Hid (Ext w6 w11):=HF10.out.trans e11
 have HE11:Hid (Ext w w11):=HE10.out.trans e11;replace n0:=e11.cell n0;replace n1:=e11.cell n1;replace n2:=e11.cell n2;replace n3:=e11.cell n3;clear hT11 hp11 hI11 e11;go_wp2_with (go_at_call 187; refine q_o ?_);refine (xx (op:=2) HT11.out (by omega) (by decide) (by decide) (pre_at HQ11.out (HR5.out 2 (by decide))) (pre_at HQ11.out (HR5.out 3 (by decide))) (pre_at HQ11.out (HR5.out 0 (by decide))) (pre_at HQ11.out (HR5.out 1 (by decide)))).mono ?_;rintro e w12 ⟨v12,i12,L12,rfl,hT12,hp12,hl12,hI12,e12⟩;have HT12:=q_h hT12;have HP12:Hid (L11 <+: L12):=hp12;have HI12:=q_h hI12;have HQ12:Hid (L5 <+: L12):=HQ11.out.trans hp12;have HF12:Hid (Ext w6 w12):=HF11.out.trans e12;have HE12:Hid (Ext w w12):=HE11.out.trans e12;replace n0:=e12.cell n0;replace n1:=e12.cell n1;replace n2:=e12.cell n2;replace n3:=e12.cell n3;clear hT12 hp12 hI12 e12;go_wp2_with (go_at_call 187; refine q_o ?_);refine (xx (op:=2) HT12.out (by omega) (by decide) (by decide) (pre_at HQ12.out (HR5.out 1 (by decide))) (pre_at HQ12.out (HR5.out 3 (by decide))) (pre_at HQ12.out (HR5.out 0 (by decide))) (pre_at HQ12.out (HR5.out 2 (by decide)))).mono ?_;rintro e w13 ⟨v13,i13,L13,rfl,hT13,hp13,hl13,hI13,e13⟩;have HT13:=q_h hT13;have HP13:Hid (L12 <+: L13):=hp13;have HI13:=q_h hI13;have HQ13:Hid (L5 <+: L13):=HQ12.out.trans hp13;have HF13:Hid (Ext w6 w13):=HF12.out.trans e13;have HE13:Hid (Ext w w13):=HE12.out.trans e13;replace n0:=e13.cell n0
 replace n1:=e13.cell n1;replace n2:=e13.cell n2;replace n3:=e13.cell n3;clear hT13 hp13 hI13 e13;go_wp2_with (go_at_call 187; refine q_o ?_);refine (xx (op:=3) HT13.out (by omega) (by decide) (by decide) (pre_at HQ13.out (HR5.out 2 (by decide))) (pre_at HQ13.out (HR5.out 3 (by decide))) (pre_at HQ13.out (HR5.out 0 (by decide))) (pre_at HQ13.out (HR5.out 1 (by decide)))).mono ?_;rintro e w14 ⟨v14,i14,L14,rfl,hT14,hp14,hl14,hI14,e14⟩;have HT14:=q_h hT14;have HP14:Hid (L13 <+: L14):=hp14;have HI14:=q_h hI14;have HQ14:Hid (L5 <+: L14):=HQ13.out.trans hp14;have HF14:Hid (Ext w6 w14):=HF13.out.trans e14;have HE14:Hid (Ext w w14):=HE13.out.trans e14;replace n0:=e14.cell n0;replace n1:=e14.cell n1;replace n2:=e14.cell n2;replace n3:=e14.cell n3;clear hT14 hp14 hI14 e14;go_wp2_with (go_at_call 186; refine q_o ?_);refine (yI (q:=r) (x:=qR S) (o:=oQ 2) HT14.out (by omega) (fun j hj=>pre_at HQ14.out (HR5.out j hj)) (q39 2)).mono ?_;rintro e w15 ⟨v15,i15,L15,rfl,hT15,hp15,hl15,hI15,e15⟩;have HT15:=q_h hT15;have HP15:Hid (L14 <+: L15):=hp15;have HI15:=q_h hI15;have HQ15:Hid (L5 <+: L15):=HQ14.out.trans hp15;have HF15:Hid (Ext w6 w15):=HF14.out.trans e15;have HE15:Hid (Ext w w15):=HE14.out.trans e15;replace n0:=e15.cell n0;replace n1:=e15.cell n1;replace n2:=e15.cell n2;replace n3:=e15.cell n3;clear hT15 hp15 hI15 e15;have K14:Hid (L14 <+: L15):=HP15;have K13:Hid (L13 <+: L15):=HP14.out.trans K14.out
 have K12:Hid (L12 <+: L15):=HP13.out.trans K13.out;have K11:Hid (L11 <+: L15):=HP12.out.trans K12.out;have K10:Hid (L10 <+: L15):=HP11.out.trans K11.out;have K9:Hid (L9 <+: L15):=HP10.out.trans K10.out;have K8:Hid (L8 <+: L15):=HP9.out.trans K9.out;have K7:Hid (L7 <+: L15):=HP8.out.trans K8.out;have K6:Hid (L6 <+: L15):=HP7.out.trans K7.out;have HM7:Hid (L15[i7]?=some (mT S 0 0,szT 0 0)):=pre_at K7.out HI7.out;have HM8:Hid (L15[i8]?=some (mT S 0 1,szT 0 1)):=pre_at K8.out HI8.out;have HM9:Hid (L15[i9]?=some (mT S 0 2,szT 0 2)):=pre_at K9.out HI9.out;have HM10:Hid (L15[i10]?=some (mT S 1 0,szT 1 0)):=pre_at K10.out HI10.out;have HM11:Hid (L15[i11]?=some (mT S 1 1,szT 1 1)):=pre_at K11.out HI11.out;have HM12:Hid (L15[i12]?=some (mT S 1 2,szT 1 2)):=pre_at K12.out HI12.out;have HM13:Hid (L15[i13]?=some (mT S 2 0,szT 2 0)):=pre_at K13.out HI13.out;have HM14:Hid (L15[i14]?=some (mT S 2 1,szT 2 1)):=pre_at K14.out HI14.out;have HM15:Hid (L15[i15]?=some (mT S 2 2,szT 2 2)):=HI15;have HX15:Hid (∀ j,j < 3->L15[ix j]?=some (VB S P j,2+2)):=fun j hj=>pre_at K6.out (HX6.out j hj).2
 have hm15:L15.length<=115:=by omega
 have G15:Hid (L15 <+: L15):=List.prefix_refl L15;have HZ15:Hid (∀ j,j < 3->w15.cell? ⟨gx,j,none⟩=some (.int .i64 (ix j:Int))):=fun j hj=>HF15.out.cell (HX6.out j hj).1
 clear HI7 HI8 HI9 HI10 HI11 HI12 HI13 HI14 HI15 HP7 HP8 HP9 HP10 HP11 HP12 HP13 HP14 HP15 HQ6 HQ7 HQ8 HQ9 HQ10 HQ11 HQ12 HQ13 HQ14 HQ15 HF6 HF7 HF8 HF9 HF10 HF11 HF12 HF13 HF14 HF15 K6 K7 K8 K9 K10 K11 K12 K13 K14 n0 n1 n2 n3 HE6 HE7 HE8 HE9 HE10 HE11 HE12 HE13 HE14 HT6 HT7 HT8 HT9 HT10 HT11 HT12 HT13 HT14 HX6 HR5;go_wp2_with (go_at_call 184; refine q_o ?_);refine qF ?_;intro x16 f16 hszx16 Bx16
 refine (jG (a:=fun j=>if j=0 then i7 else if j=1 then i8 else i9) (b:=ix) (m:=mT S 0) (x:=VB S P) (s:=szT 0) (HT15.out.ext f16) (by omega) (fun j hj=>by
  have:j=0\/j=1\/j=2:=by omega
  rcases this with rfl | rfl | rfl
  ·exact⟨by rw [qg Bx16]; rfl,pre_at G15.out HM7.out⟩
  ·exact⟨by rw [qg Bx16]; rfl,pre_at G15.out HM8.out⟩
  ·exact⟨by rw [qg Bx16]; rfl,pre_at G15.out HM9.out⟩) (fun j hj=>⟨f16.cell (HZ15.out j hj),pre_at G15.out (HX15.out j hj)⟩) (fun j hj=>by unfold szT; split <;> decide)).mono ?_
 rintro e w16 ⟨v16,i16,L16,rfl,hT16,hp16,hl16,hI16,e16⟩;have HT16:=q_h hT16;have G16:Hid (L15 <+: L16):=G15.out.trans hp16;have HI16:=q_h hI16;have HE16:Hid (Ext w w16):=HE15.out.trans (f16.trans e16);have HP16:=q_h hp16;have HZ16:Hid (∀ j,j < 3->w16.cell? ⟨gx,j,none⟩=some (.int .i64 (ix j:Int))):=fun j hj=>(f16.trans e16).cell (HZ15.out j hj)
 clear hT16 hp16 hI16 e16 f16 Bx16 hszx16;go_wp2_with (go_at_call 184; refine q_o ?_);refine qF ?_;intro x17 f17 hszx17 Bx17
 refine (jG (a:=fun j=>if j=0 then i10 else if j=1 then i11 else i12) (b:=ix) (m:=mT S 1) (x:=VB S P) (s:=szT 1) (HT16.out.ext f17) (by omega) (fun j hj=>by
  have:j=0\/j=1\/j=2:=by omega
  rcases this with rfl | rfl | rfl
  ·exact⟨by rw [qg Bx17]; rfl,pre_at G16.out HM10.out⟩
  ·exact⟨by rw [qg Bx17]; rfl,pre_at G16.out HM11.out⟩
  ·exact⟨by rw [qg Bx17]; rfl,pre_at G16.out HM12.out⟩) (fun j hj=>⟨f17.cell (HZ16.out j hj),pre_at G16.out (HX15.out j hj)⟩) (fun j hj=>by unfold szT; split <;> decide)).mono ?_
 rintro e w17 ⟨v17,i17,L17,rfl,hT17,hp17,hl17,hI17,e17⟩;have HT17:=q_h hT17;have G17:Hid (L15 <+: L17):=G16.out.trans hp17;have HI17:=q_h hI17;have HE17:Hid (Ext w w17):=HE16.out.trans (f17.trans e17);have HP17:=q_h hp17;have HZ17:Hid (∀ j,j < 3->w17.cell? ⟨gx,j,none⟩=some (.int .i64 (ix j:Int))):=fun j hj=>(f17.trans e17).cell (HZ16.out j hj)
 clear hT17 hp17 hI17 e17 f17 Bx17 hszx17;go_wp2_with (go_at_call 184; refine q_o ?_);refine qF ?_;intro x18 f18 hszx18 Bx18
 refine (jG (a:=fun j=>if j=0 then i13 else if j=1 then i14 else i15) (b:=ix) (m:=mT S 2) (x:=VB S P) (s:=szT 2) (HT17.out.ext f18) (by omega) (fun j hj=>by
  have:j=0\/j=1\/j=2:=by omega
  rcases this with rfl | rfl | rfl
  ·exact⟨by rw [qg Bx18]; rfl,pre_at G17.out HM13.out⟩
  ·exact⟨by rw [qg Bx18]; rfl,pre_at G17.out HM14.out⟩
  ·exact⟨by rw [qg Bx18]; rfl,pre_at G17.out HM15.out⟩) (fun j hj=>⟨f18.cell (HZ17.out j hj),pre_at G17.out (HX15.out j hj)⟩) (fun j hj=>by unfold szT; split <;> decide)).mono ?_
 rintro e w18 ⟨v18,i18,L18,rfl,hT18,hp18,hl18,hI18,e18⟩;have HT18:=q_h hT18;have G18:Hid (L15 <+: L18):=G17.out.trans hp18;have HI18:=q_h hI18;have HE18:Hid (Ext w w18):=HE17.out.trans (f18.trans e18);have HP18:=q_h hp18;have HZ18:Hid (∀ j,j < 3->w18.cell? ⟨gx,j,none⟩=some (.int .i64 (ix j:Int))):=fun j hj=>(f18.trans e18).cell (HZ17.out j hj)
 clear hT18 hp18 hI18 e18 f18 Bx18 hszx18;have I16:=q_h (pre_at (HP17.out.trans HP18.out) HI16.out);have I17:=q_h (pre_at HP18.out HI17.out);have hm18:L18.length<=130:=by omega
 clear HP16 HP17 HP18 HI16 HI17 HE15 HE16 HE17 G15 G16 G17 HZ15 HZ16 HZ17 HT15 HT16 HT17;go_wp2
 first | go_ret2 | skip
 rw [hR.out];refine ql ?_;intro w19 e19 hsz19 B19;refine⟨v18,w18.heap.size,fun j=>if j=0 then i16 else if j=1 then i17 else i18,L18,rfl,HT18.out.ext e19,by omega,fun c hc=>?_,HE18.out.trans e19⟩;have:c=0\/c=1\/c=2:=by omega
 rcases this with rfl | rfl | rfl
 ·exact⟨by rw [qg B19]; rfl,I16.out⟩
 ·exact⟨by rw [qg B19]; rfl,I17.out⟩
 ·exact⟨by rw [qg B19]; rfl,HI18.out⟩
theorem q0c (S:Sta) (P:Nat->Int) {c:Nat} (hc:c < 3):coV (mT S c) (VB S P) 3=dS S (fun j=>(P j:Rat)) c 3:=by
 have hp:∀ j,Zb S P 1 j=P j:=fun j=>rfl
 have hs:∀ j,Zb S P 0 j=ww S j:=fun j=>rfl
 have h3:∀ (m x:Nat->Rat),coV m x 3=m 0*x 0+m 1*x 1+m 2*x 2:=fun m x=>rfl
 have hd:dS S (fun j=>(P j:Rat)) c 3=0+(jA S c 0:Rat)*((P 0:Rat) - (ww S 0:Rat))+(jA S c 1:Rat)*((P 1:Rat) - (ww S 1:Rat))+(jA S c 2:Rat)*((P 2:Rat) - (ww S 2:Rat)):=rfl;have hb:∀ j,VB S P j=(P j:Rat) - (ww S j:Rat):=fun j=>rfl
 have hq:∀ (o:Nat->Int) (x:Nat->Rat),sqV o x 3=opF (o 2) (opF (o 1) (opF (o 0) (x 0*x 0) (x 1*x 1)) (x 2*x 2)) (x 3*x 3):=fun o x=>rfl
 have p2:∀ x y:Rat,opF 2 x y=x+y:=fun x y=>rfl
 have p3:∀ x y:Rat,opF 3 x y=x - y:=fun x y=>rfl
 have e0:qR S 0=(S.qa:Rat):=rfl;have e1:qR S 1=(S.qb:Rat):=rfl;have e2:qR S 2=(S.qc:Rat):=rfl;have e3:qR S 3=(S.qd:Rat):=rfl
 have hm:∀ j,j < 3->mT S c j=(jA S c j:Rat):=fun j hj=>by
  have h1:c=0\/c=1\/c=2:=by omega
  have h2:j=0\/j=1\/j=2:=by omega
  rcases h1 with rfl | rfl | rfl <;> rcases h2 with rfl | rfl | rfl <;> simp [mT,jA,hq,oQ,p2,p3,e0,e1,e2,e3,Rat.intCast_add,Rat.intCast_sub,Rat.intCast_mul]
 rw [h3,hd,hm 0 (by decide),hm 1 (by decide),hm 2 (by decide),hb,hb,hb]
 grind
theorem KN {c:Nat} (hc:c < 3):coS (szT c) 3=126:=by
 have:c=0\/c=1\/c=2:=by omega
 rcases this with rfl | rfl | rfl <;> rfl
theorem vT.cut {L:List (Rat×Nat)} {d:Nd} {e:Rat×Nat} (h:vT L i d e) (hi:i < m):vT (L.take m) i d e:=by
 have hg:∀ {j:Nat} {x:Rat×Nat},j < i->L[j]?=some x->(L.take m)[j]?=some x:=fun hj h=>by
  rw [List.getElem?_take,if_pos (by omega)];exact h
 cases h with
 | con k h1 h2=>exact .con k h1 h2
 | var k h1=>exact .var k h1
 | bin op j k x y h1 h2 h3 h4 h5 h6 h7 h8=>exact .bin op j k x y h1 h2 h3 h4 (hg h3 h5) (hg h4 h6) h7 h8
 | sq j x h1 h2 h3=>exact .sq j x h1 (hg h1 h2) h3
theorem Wp {L:List (Rat×Nat)} (h:Trm N w v L) (hl:L.length < 390) {x:Rat×Nat} (hi:L[i]?=some x) :
  Calls Tryz.prog 136 #[v,.int .i64 (i:Int)] w (YX N w (i+1) x):=by
 have hN:=h.le;have hil:=vO hi;obtain⟨d,hd,hdo⟩:=h;have HDO:=q_h hdo;obtain⟨h0,gb,gc,rfl,hc1,hc2,hc3⟩:=hd;have hc:∀ j,j < i+1->Jg N w gb (j*7) (d j):=fun j hj=>hc3 j (by omega)
 have HD:Hid (Jf N w (.slice (some ⟨gb,0,none⟩) (i+1) gc) (i+1) d):=⟨h0,gb,gc,rfl,by omega,hc2,hc⟩
 have HI:=q_h hi;obtain⟨R,hR⟩:=qf (YX N w (i+1) x);rw [<-hR.out];unfold maxLen at hc2;have t1:(i:Int)+1<=(gc:Int):=by omega
 have t2:(i:Int)<=9223372036854775806:=by omega
 clear hdo hc hc3 hi;go_enter Tryz.func136,Tryz.ntmps136;go_wp2_with (at_builtin; refine q_o ?_);refine ql ?_;intro w1 hE hsz B0;obtain⟨news,hnl,hn1,hn2,hn3⟩:=HD.out.news;refine qY XT rfl _ _ 139 Tryz.underlying139 rfl (by rfl) (kM.empty (q_r) B0) (by rfl) hnl (fun j u hj=>hE.cell (hn1 j u hj)) hn2 (by omega) ?_;rintro v1 w2 hG - ⟨g1,hg1,-,C1⟩;have hE2:=C1.ext hE hg1;rw [List.nil_append,Nat.zero_add] at hG
 have hF:Jf N w2 v1 (i+1) d:=by
  obtain⟨g,cap,rfl,hb,hnc,hcm,hc⟩:=hG.at_ (by omega);obtain⟨-,b',c',hv,-,-,h3⟩:=HD.out;simp only [Value.slice.injEq,Option.some.injEq,Addr.mk.injEq,and_true,true_and] at hv;obtain⟨rfl,rfl⟩:=hv;refine⟨q_l h0 hE2.size,g,cap,rfl,hnc,hcm,fun j hj=>?_⟩;have hcell:∀ r u,r < 7->w.cell? ⟨gb,j*7+r,none⟩=some u->w2.cell? ⟨g,j*7+r,none⟩=some u:=fun r u hr hu=>hc _ _ (by rw [hn3 _ (by omega)]; exact hu)
  obtain⟨q0,q1,q2,s,t,q3,q4,q5,q6,g1,g2⟩:=h3 j hj;exact⟨hcell 0 _ (by omega) q0,hcell 1 _ (by omega) q1,hcell 2 _ (by omega) q2,s,t,hcell 3 _ (by omega) q3,hcell 4 _ (by omega) q4,hcell 5 _ (by omega) q5,hcell 6 _ (by omega) q6,g1.ext hE2,g2.ext hE2⟩
 have HF:=q_h hF;clear hn1 hn2 hn3 hF hG C1 B0;go_wp2
 first | go_ret | skip
 rw [hR.out];have hlen:(L.take (i+1)).length=i+1:=by rw [List.length_take]; omega
 refine⟨_,L.take (i+1),rfl,⟨d,by rw [hlen]; exact HF.out,fun j e hj=>?_⟩,by omega,by omega,?_,hE2⟩
 ·have hj1:j < i+1:=by have:=vO hj; omega
  rw [List.getElem?_take,if_pos hj1] at hj;exact (HDO.out j e hj).cut hj1
 ·rw [hlen,Nat.add_sub_cancel,List.getElem?_take,if_pos (by omega)];exact HI.out
theorem q4a (hN:N<=w.heap.size) {gs gp go:Nat} {P:Nat->Int} (hn:q0B w gs gp go S P) (hS:KZ S) (hb:∀ what k,-1048576<=Zb S P what k/\Zb S P what k<=1048576) :
  Calls Tryz.prog 83 #[Jc gs gp go,.agg #[.int .i64 0,.int .i64 0,.int .i64 0,.int .i64 0,.int .i64 0,.int .i64 0,.int .i64 1]] w (YX N w 150 (dS S (fun j=>(P j:Rat)) 2 3,126)):=by
 obtain⟨R,hR⟩:=qf (YX N w 150 (dS S (fun j=>(P j:Rat)) 2 3,126));rw [<-hR.out];have HN:=q_h hn;have HS:=q_h hS;have HB:=q_h hb;unfold Jc;clear hn hS hb;go_enter Tryz.func83,Tryz.ntmps83;go_upto_region 1 with (fail);refine zT ?_;intro w1 hE hsz B0 B1;obtain⟨a0,a1,a2,a3,-⟩:=cells4 B0;obtain⟨b0,b1,b2,-⟩:=kC B1;go_wp2_with (go_at_call 135; refine q_o ?_);refine (Q7 (N:=N) (by have:=hE.size; omega) (HN.out.ext hE) HS.out HB.out).mono ?_;rintro e w2 ⟨v2,g,ix,L,rfl,hT,hl,hx,e2⟩;have HT:=q_h hT;have HX:=q_h ((hx 2 (by decide)).2);have p2:=(hx 2 (by decide)).1;have HE:=q_h (hE.trans e2);have hil:=vO HX.out;rw [q0c S P (by decide),KN (by decide)] at HX;clear hT hx e2 a0 a1 a2 a3 b0 b1 b2 B0 B1;go_wp2_with (go_at_call 136; refine q_o ?_);refine (Wp HT.out (by omega) HX.out).mono ?_;rintro e w3 ⟨v3,L3,rfl,hT3,hl3,h03,hx3,e3⟩;have HT3:=q_h hT3;have HX3:=q_h hx3;clear hT3 hx3;go_wp2
 first | go_ret | skip
 rw [hR.out];exact⟨_,L3,rfl,HT3.out,by omega,h03,HX3.out,HE.out.trans e3⟩
theorem q1g:One 139 (.slice none 0 0) 24:=⟨by kernel_rfl,rfl,by omega,by decide⟩
def q3l (S:Sta) (P:Nat->Int) (k:Nat):Rat:=((if k=0 then S.cx else S.cy:Int):Rat)+(S.f:Rat)*dS S (fun j=>(P j:Rat)) k 3 / dS S (fun j=>(P j:Rat)) 2 3
def Jh (N:Nat) (w:World) (u:Value) (x:Rat×Nat):Prop:=∃ L,Trm N w u L/\L.length<=180/\0 < L.length/\L[L.length - 1]?=some x
theorem Jh.ext {u:Value} {x:Rat×Nat} (h:Jh N w u x) (e:Ext w w'):Jh N w' u x:=by
 obtain⟨L,h1,h2⟩:=h;exact⟨L,h1.ext e,h2⟩
theorem Jh.form {u:Value} {x:Rat×Nat} (h:Jh N w u x):∃ b c n,u=.slice (some ⟨b,0,none⟩) n c/\0 < n:=by
 obtain⟨L,h1,-,h2,-⟩:=h;obtain⟨b,c,rfl⟩:=h1.form;exact⟨b,c,_,rfl,h2⟩
theorem Jh.lt {c:Nat} {x:Rat×Nat} (h:Jh N w (.slice (some ⟨b,0,none⟩) n c) x):b < w.heap.size:=by
 obtain⟨L,h1,-,h2,-⟩:=h;obtain⟨b',c',hv⟩:=h1.form;simp only [Value.slice.injEq,Option.some.injEq,Addr.mk.injEq,and_true,true_and] at hv;obtain⟨rfl,rfl,rfl⟩:=hv;exact h1.lt h2
theorem Jh.chg {c:Nat} {x:Rat×Nat} (h:Jh N w (.slice (some ⟨b,0,none⟩) n c) x) (C:Chg g (g+1) w w') (hN:N<=g) (hb:b≠g):Jh N w' (.slice (some ⟨b,0,none⟩) n c) x:=by
 obtain⟨L,h1,h2⟩:=h;obtain⟨b',c',hv⟩:=h1.form;simp only [Value.slice.injEq,Option.some.injEq,Addr.mk.injEq,and_true,true_and] at hv;obtain⟨rfl,rfl,rfl⟩:=hv;exact⟨L,h1.chg C hN hb,h2⟩
def q0A (N:Nat) (w:World) (m:Nat) (x:Rat×Nat) (e:Ending) (w':World):Prop :=
 ∃ (v:Value) (L':List (Rat×Nat)),e=.returned v/\Trm N w' v L'/\L'.length<=m/\0 < L'.length/\L'[L'.length - 1]?=some x/\(∀ g,v.ownBlock=some g->w.heap.size<=g)/\Ext w w'
theorem Wn {L:List (Rat×Nat)} (h:Trm N w v L) (hl:L.length < 390) {s:Nat} (hj:L[j]?=some (x,s)) (h4:s<=300) :
  Calls Tryz.prog 139 #[v,.int .i64 (j:Int),.int .i64 0] w (q0A N w (L.length+2) (x,s+1)):=by
 obtain⟨R,hR⟩:=qf (q0A N w (L.length+2) (x,s+1));rw [<-hR.out];have HT:=q_h h;obtain⟨gb,gc,rfl⟩:=h.form;clear h;go_enter Tryz.func139,Tryz.ntmps139;go_wp2_with (go_at_call 137; refine q_o ?_);refine (yc HT.out (by omega) (k:=0) (by decide)).mono ?_;rintro e w1 ⟨v1,i1,L1,rfl,hT1,hP1,hL1,hI1,hE1⟩;go_wp2_with (go_at_call 138; refine q_o ?_);refine (VO (z:=x) hT1 (by omega) (op:=3) (by decide) (by decide) (pre_at hP1 hj) hI1 (by omega) (by show _=x - ((0:Int):Rat); rw [Rat.intCast_zero,Rat.sub_eq_add_neg,Rat.neg_zero,Rat.add_zero])).mono ?_;rintro e w2 ⟨v2,rfl,hT2,hN2,hE2⟩;have HN2:Hid (∀ g,v2.ownBlock=some g->w.heap.size<=g):=fun g hg=>q_l hE1.size (hN2 g hg).1
 have HT2:=q_h hT2;clear hT2 hN2;go_wp2
 first | go_ret2 | go_ret | skip
 rw [hR.out];refine⟨_,_,rfl,HT2.out,?_,?_,?_,HN2.out,hE1.trans hE2⟩
 ·rw [zO]; omega
 ·rw [zO]; omega
 ·rw [zO,Nat.add_sub_cancel]; exact kP _ _
theorem q3c (u:Nat->Value) (k:Nat) (v:Value):(List.range (k+1)).map (fun j=>if j=k then v else u j)=(List.range k).map u ++ [v]:=by
 rw [List.range_succ,List.map_append]
 congr 1
 ·refine List.map_congr_left fun j hj=>?_
  rw [if_neg (by have:=List.mem_range.1 hj; omega)]
 ·simp
def q54 (N:Nat) (w:World) (S:Sta) (P:Nat->Int) (e:Ending) (w':World):Prop :=
 ∃ (g c:Nat) (u:Nat->Value),e=.returned (.slice (some ⟨g,0,none⟩) 2 c)/\(∀ k,k < 2->w'.cell? ⟨g,k,none⟩=some (u k)/\Jh N w' (u k) (q3l S P k,255))/\Ext w w'
theorem q49 (hN:N<=w.heap.size) {gs gp go:Nat} {P:Nat->Int} (hn:q0B w gs gp go S P) (hS:KZ S) (hb:∀ what k,-1048576<=Zb S P what k/\Zb S P what k<=1048576) (hz:dS S (fun j=>(P j:Rat)) 2 3≠0) :
  Calls Tryz.prog 84 #[Jc gs gp go] w (q54 N w S P):=by
 obtain⟨R,hR⟩:=qf (q54 N w S P);rw [<-hR.out];have HN:=q_h hn;have HS:=q_h hS;have HB:=q_h hb;have HZ:=q_h hz;unfold Jc;clear hn hS hb hz;go_enter Tryz.func84,Tryz.ntmps84;go_upto_region 1 with (fail);refine ql ?_;intro w1 hE hsz B0;go_wp2_with fail;refine ql ?_;intro w2 e2 hsz2 B2;replace hE:=hE.trans e2;replace B0:=e2.block B0
 go_loopw [4,3] (fun iv lv wr=>∃ (i:Nat) (u:Nat->Value),i<=1/\iv=.int .i64 (i:Int)/\zh 139 (w.heap.size+1) wr lv ((List.range (i*2)).map u)/\Hid (∀ k,k < i*2->Jh N wr (u k) (q3l S P k,255))/\Ext w wr/\wr.heap[w.heap.size]?=some (.cells #[.int .i64 3,.slice (some ⟨gs,0,none⟩) 1 1,.slice (some ⟨gp,0,none⟩) 1 1,.slice (some ⟨go,0,none⟩) 1 1] 82 (0,0))) (fun iv _ _=>1 - (intOf iv).toNat)
 case atStart=>exact⟨0,fun _=>.slice none 0 0,Nat.zero_le _,rfl,zh.empty (by omega) B2,fun k hk=>absurd hk (by omega),hE,B0⟩
 case round =>
  obtain⟨i,u,hi,rfl,HG1,HU1,hE1,B1⟩:=hrel;obtain⟨a0,a1,a2,a3,-⟩:=cells4 B1
  by_cases hlt:i < 1
  case neg =>
   have t1:decide ((i:Int) < 1)=false:=q_f (by omega);have e9:i*2=2:=by omega
   rw [e9] at HG1 HU1;obtain⟨g,cap,rfl,hbg,hgs,hcm,hnc,-,hc⟩:=HG1.at_ (by simp)
   have HC:Hid (∀ k,k < 2->wr.cell? ⟨g,k,none⟩=some (u k)):=fun k hk=>by
    rw [hc k (by simpa using hk)]
    simp
   simp only [List.length_map,List.length_range];clear hc e9 HG1;go_wp2
   first | go_ret | skip
   rw [hR.out];exact⟨g,cap,u,rfl,fun k hk=>⟨HC.out k hk,HU1.out k hk⟩,hE1⟩
  have t1:decide ((i:Int) < 1)=true:=q_t (by omega);have hi1:(i:Int) < 1:=by omega
  have HI0:Hid (i=0):=by rw [Hid]; omega
  obtain⟨A1,c1,rfl,-⟩:=HG1.form;have hl1:((List.range (i*2)).map u).length=0:=by simp [HI0.out]
  rw [hl1]
  have HG2:Hid (zh 139 (w.heap.size+1) wr (.slice A1 0 c1) []):=by
   have h9:=HG1;rw [hl1,show (List.range (i*2)).map u=[] by rw [HI0.out]; rfl] at h9;exact h9
  have HOW:=q_h (zh.own_lt HG2.out);clear HG1 hl1 HU1 B0 B2 hE e2;have HNR:=HN.out.ext hE1;have o0:wr.cell? ⟨go,i*7,none⟩=some (.int .i64 0):=by rw [HI0.out]; exact HNR.o0
  have o1:wr.cell? ⟨go,i*7+1,none⟩=some (.int .i64 0):=by rw [HI0.out]; exact HNR.o1
  have o2:wr.cell? ⟨go,i*7+2,none⟩=some (.int .i64 0):=by rw [HI0.out]; exact HNR.o2
  have o3:wr.cell? ⟨go,i*7+3,none⟩=some (.int .i64 0):=by rw [HI0.out]; exact HNR.o3
  have o4:wr.cell? ⟨go,i*7+4,none⟩=some (.int .i64 0):=by rw [HI0.out]; exact HNR.o4
  have o5:wr.cell? ⟨go,i*7+5,none⟩=some (.int .i64 0):=by rw [HI0.out]; exact HNR.o5
  have o6:wr.cell? ⟨go,i*7+6,none⟩=some (.int .i64 1):=by rw [HI0.out]; exact HNR.o6
  obtain⟨wq,hwq⟩:∃ wq,wq=wr:=⟨_,rfl⟩
  subst hwq;go_upto_region 6 with (fail);refine ql ?_;intro w3 e3 hsz3 B3;clear o0 o1 o2 o3 o4 o5 o6 a0 a1 a2 a3;obtain⟨a0,a1,a2,a3,-⟩:=cells4 (e3.block B1);obtain⟨b0,b1,b2,b3,b4,b5,b6⟩:=kC B3;have st0:=(HNR.ext e3).st;obtain⟨s0,s1,s2,s3,s4,s5,s6,s7,s8,s9⟩:=st0;simp only [Nat.zero_add] at s0 s1 s2 s3 s4 s5 s6 s7 s8 s9;go_upto_region 9 with (fail);refine ql ?_;intro w4 e4 hsz4 B4;clear s0 s1 s2 s3 s4 s5 s6 s7 s8 s9 a0 a1 a2 a3 b0 b1 b2 b3 b4 b5 b6;obtain⟨s0,s1,s2,s3,s4,s5,s6,s7,s8,s9⟩:=zD B4;go_wp2_with fail;refine ql ?_;intro w5 e5 hsz5 B5;have B15:=(e3.trans (e4.trans e5)).block B1;have B35:=(e4.trans e5).block B3;have B45:=e5.block B4;have HE5:Hid (Ext w w5):=hE1.trans (e3.trans (e4.trans e5));have HG5:Hid (zh 139 (w.heap.size+1) w5 (.slice A1 0 c1) []):=HG2.out.ext (e3.trans (e4.trans e5));clear s0 s1 s2 s3 s4 s5 s6 s7 s8 s9 B1 B3 B4 e3 e4 e5 HNR HG2 hE1;have HO5:Hid (∀ g,(Value.slice A1 0 c1).ownBlock=some g->g < wq.heap.size\/w5.heap.size<=g):=fun g hg=>.inl (HOW.out g hg).2
  go_loopw [8,3] (fun kv lv wr=>∃ (k:Nat) (u:Nat->Value),k<=2/\kv=.int .i64 (k:Int)/\zh 139 (w.heap.size+1) wr lv ((List.range k).map u)/\Hid (∀ j,j < k->Jh N wr (u j) (q3l S P j,255))/\Hid (∀ j g,j < k->lv.ownBlock=some g->(u j).ownBlock≠some g)/\Hid (Ext w wr)/\Hid (w5.heap.size<=wr.heap.size)/\Hid (∀ g,lv.ownBlock=some g->g < wq.heap.size\/w5.heap.size<=g)/\wr.heap[w.heap.size]?=some (.cells #[.int .i64 3,.slice (some ⟨gs,0,none⟩) 1 1,.slice (some ⟨gp,0,none⟩) 1 1,.slice (some ⟨go,0,none⟩) 1 1] 82 (0,0))/\wr.heap[wq.heap.size]?=some (.cells #[.int .i64 0,.int .i64 0,.int .i64 0,.int .i64 0,.int .i64 0,.int .i64 0,.int .i64 1] 79 (0,0))/\wr.heap[w3.heap.size]?=some (.cells #[.int .i64 S.ax,.int .i64 S.ay,.int .i64 S.az,.int .i64 S.qa,.int .i64 S.qb,.int .i64 S.qc,.int .i64 S.qd,.int .i64 S.f,.int .i64 S.cx,.int .i64 S.cy] 69 (0,0))/\wr.heap[w4.heap.size]?=some (.cells #[.int .i64 S.cx,.int .i64 S.cy] 3 (0,0))) (fun kv _ _=>2 - (intOf kv).toNat)
  case atStart=>exact⟨0,fun _=>.slice none 0 0,Nat.zero_le _,rfl,HG5.out,fun j hj=>absurd hj (Nat.not_lt_zero j),fun j g hj=>absurd hj (Nat.not_lt_zero j),HE5,q_r,HO5,B15,B35,B45,B5⟩
  case round =>
   obtain⟨k,uk,hk,rfl,HGk,HUk,HVk,HEk,HSk,HOk,C0,C1,C2,C3⟩:=hrel;obtain⟨Ak,ck,rfl,-⟩:=HGk.form;have hlk:((List.range k).map uk).length=k:=by simp
   rw [hlk] at HGk HVk HOk ⊢;obtain⟨a0,a1,a2,a3,-⟩:=cells4 C0
   by_cases hltk:k < 2
   case neg =>
    obtain rfl:k=2:=by omega
    have t2:decide (((2:Nat):Int) < 2)=false:=by decide
    have HG9:Hid (zh 139 (w.heap.size+1) wr (.slice Ak 2 ck) ((List.range ((i+1)*2)).map uk)):=by rw [Hid,HI0.out]; exact HGk
    have HU9:Hid (∀ j,j < (i+1)*2->Jh N wr (uk j) (q3l S P j,255)):=fun j hj=>HUk.out j (by have:=HI0.out; omega)
    go_wp2;go_roundw
    case rel=>exact⟨i+1,uk,by omega,by go_num,HG9.out,HU9,HEk.out,C0⟩
    case measure=>simp [intOf]; omega
   have t2:decide ((k:Int) < 2)=true:=q_t (by omega);have hk2:(k:Int) < 2:=by omega
   obtain⟨ck9,hck9⟩:=qf (if k=0 then S.cx else S.cy)
   have HCB:Hid (-1048576<=ck9/\ck9<=1048576):=by
    have z1:=HS.out.cx;have z2:=HS.out.cy;rw [hck9.out]
    split <;> assumption
   obtain⟨x0,x1,-⟩:=cells2 C3
   have pc:wr.cell? ⟨w4.heap.size,k,none⟩=some (.int .i64 ck9):=by
    rw [hck9.out];have:k=0\/k=1:=by omega
    rcases this with rfl | rfl
    ·exact x0
    ·exact x1
   obtain⟨b0,b1,b2,b3,b4,b5,b6⟩:=kC C1
   have pv:wr.cell? ⟨wq.heap.size,4+k,none⟩=some (.int .i64 0):=by
    have:k=0\/k=1:=by omega
    rcases this with rfl | rfl
    ·exact b4
    ·exact b5
   obtain⟨s0,s1,s2,s3,s4,s5,s6,s7,s8,s9⟩:=zD C2;clear x0 x1 b0 b3 b4 b5 b6 s0 s1 s2 s3 s4 s5 s6 s8 s9;obtain⟨wp,hwp⟩:∃ wp,wp=wr:=⟨_,rfl⟩
   subst hwp;go_wp2_with (go_at_call 135; refine q_o ?_);refine (Q7 (N:=N) (by have:=HEk.out.size; omega) (HN.out.ext HEk.out) HS.out HB.out).mono ?_;rintro e w6 ⟨v6,g6,ix,L6,rfl,hT6,hl6,hX6,e6⟩;have pk:=(hX6 k (by omega)).1;have p2:=(hX6 2 (by decide)).1
   have XK:Hid (L6[ix k]?=some (dS S (fun j=>(P j:Rat)) k 3,126)):=by
    have:=(hX6 k (by omega)).2;rw [q0c S P (by omega),KN (by omega)] at this;exact this
   have X2:Hid (L6[ix 2]?=some (dS S (fun j=>(P j:Rat)) 2 3,126)):=by
    have:=(hX6 2 (by decide)).2;rw [q0c S P (by decide),KN (by decide)] at this;exact this
   replace pc:=e6.cell pc;replace pv:=e6.cell pv;replace s7:=e6.cell s7;clear hX6 a0 a1 a2 a3 b1 b2;go_wp2_with (go_at_call 137; refine q_o ?_);refine (yc hT6 (by omega) HCB.out).mono ?_;rintro e w7 ⟨v7,i7,L7,rfl,hT7,hP7,hL7,hI7,hE7⟩;replace pv:=hE7.cell pv;replace s7:=hE7.cell s7;replace pk:=hE7.cell pk;replace p2:=hE7.cell p2;go_wp2_with (go_at_call 137; refine q_o ?_);refine (yc hT7 (by omega) (by have:=HS.out.f; omega)).mono ?_;rintro e w8 ⟨v8,i8,L8,rfl,hT8,hP8,hL8,hI8,hE8⟩;replace pv:=hE8.cell pv;replace pk:=hE8.cell pk;replace p2:=hE8.cell p2;clear s7 pc;go_wp2_with (go_at_call 138; refine q_o ?_);refine (Xw (z:=(S.f:Rat)*dS S (fun j=>(P j:Rat)) k 3) hT8 (by omega) (op:=4) (by decide) (by decide) hI8 (pre_at (hP7.trans hP8) XK.out) (by decide) rfl).mono ?_;rintro e w9 ⟨v9,i9,L9,rfl,hT9,hP9,hL9,hI9,hE9⟩;replace pv:=hE9.cell pv;replace p2:=hE9.cell p2;go_wp2_with (go_at_call 138; refine q_o ?_);refine (p_div hT9 (by omega) hI9 (pre_at (hP7.trans (hP8.trans hP9)) X2.out) (by decide) HZ.out).mono ?_;rintro e w10 ⟨v10,i10,L10,rfl,hT10,hP10,hL10,hI10,hE10⟩;replace pv:=hE10.cell pv;go_wp2_with (go_at_call 138; refine q_o ?_);refine (Xw (z:=q3l S P k) hT10 (by omega) (op:=2) (by decide) (by decide) (pre_at (hP8.trans (hP9.trans hP10)) hI7) hI10 (by decide) (by rw [hck9.out]; rfl)).mono ?_;rintro e w11 ⟨v11,i11,L11,rfl,hT11,hP11,hL11,hI11,hE11⟩;replace pv:=hE11.cell pv;clear pk p2
   go_wp2_with (go_at_call 139; refine q_o ?_);refine (Wn hT11 (by omega) hI11 (by decide)).mono ?_;rintro e w12 ⟨v12,L12,rfl,hT12,hl12,h012,hI12,hN12,hE12⟩;have hs11:wp.heap.size<=w11.heap.size:=(e6.trans (hE7.trans (hE8.trans (hE9.trans (hE10.trans hE11))))).size;have HE12:=q_h (e6.trans (hE7.trans (hE8.trans (hE9.trans (hE10.trans (hE11.trans hE12))))));have HT12:Hid (Jh N w12 v12 (q3l S P k,255)):=⟨L12,hT12,by omega,h012,hI12⟩
   clear hT6 hT7 hT8 hT9 hT10 hT11 hT12 hI7 hI8 hI9 hI10 hI11 hI12 hP7 hP8 hP9 hP10 hP11 e6 hE7 hE8 hE9 hE10 hE11 hE12 pv hl6 hL7 hL8 hL9 hL10 hL11 hl12 h012;obtain⟨b12,c12,n12,rfl,hn12⟩:=HT12.out.form;have hb12:wp.heap.size<=b12:=q_l hs11 (hN12 b12 rfl);have hb12':=HT12.out.lt;have HGq:=q_h HGk;have hlk1:((List.range k).map uk).length+1<=1000000000:=by omega
   clear hN12 hs11 HGk;go_wp2_with (at_builtin; refine q_o ?_);refine ql ?_;intro w13 e13 hsz13 B13;have E13:=HE12.out.trans e13;refine kG q1g rfl _ _ 141 Tryz.underlying141 rfl rfl (HGq.out.ext E13) (m:=1) (c:=1) (news:=[.slice (some ⟨b12,0,none⟩) n12 c12]) (by rfl) rfl (QH B13) (fun u hu=>by rw [List.mem_singleton.1 hu]; rfl) (by omega) hlk1 ?_;rintro g14 cap w14 hG14 hat14 ⟨g9,hlo,hw9,C9,-⟩;rw [hlk] at hG14 ⊢;rw [<-q3c] at hG14;have hown:=zh.own_lt HGq.out;have hs13:=E13.size;have h1213:b12 < w13.heap.size:=by omega
   have hnew:w5.heap.size<=w13.heap.size:=by have:=HSk.out; omega
   have hg9:b12≠g9:=by
    rcases hw9 with h9 | h9
    ·have:=(hown g9 h9).2; omega
    ·omega
   have hg9':g9 < wq.heap.size\/w5.heap.size<=g9:=by
    rcases hw9 with h9 | h9
    ·exact HOk.out g9 h9
    ·omega
   have hNg:N<=g9:=by omega
   have HE14:Hid (Ext w w14):=C9.ext (HEk.out.trans E13) (by omega);have D0:=C9.blk (E13.block C0) (by omega);have D1:=C9.blk (E13.block C1) (by omega);have D2:=C9.blk (E13.block C2) (by omega);have D3:=C9.blk (E13.block C3) (by omega)
   have HU14:Hid (∀ j,j < k+1->Jh N w14 (if j=k then .slice (some ⟨b12,0,none⟩) n12 c12 else uk j) (q3l S P j,255)):=fun j hj=>by
    by_cases hjk:j=k
    ·rw [if_pos hjk,hjk];exact (HT12.out.ext e13).chg C9 hNg hg9
    ·rw [if_neg hjk];have hu:=HUk.out j (by omega);obtain⟨b,c,n,hv,-⟩:=hu.form;rw [hv] at hu ⊢;refine (hu.ext E13).chg C9 hNg ?_
     rcases hw9 with h9 | h9
     ·intro e; exact HVk.out j g9 (by omega) h9 (by rw [hv,e]; rfl)
     ·have:=hu.lt; omega
   have HV14:Hid (∀ j g,j < k+1->(Value.slice (some ⟨g14,0,none⟩) (k+1) cap).ownBlock=some g->(if j=k then Value.slice (some ⟨b12,0,none⟩) n12 c12 else uk j).ownBlock≠some g):=fun j g hj hg=>by
    obtain rfl:g14=g:=by simpa [Value.ownBlock] using hg
    by_cases hjk:j=k
    ·rw [if_pos hjk];intro h8;obtain rfl:b12=g14:=by simpa [Value.ownBlock] using h8
     rcases hat14 with h9 | h9
     ·have:=(hown _ h9).2; omega
     ·omega
    ·rw [if_neg hjk]
     rcases hat14 with h9 | h9
     ·exact HVk.out j g14 (by omega) h9
     ·have hu:=HUk.out j (by omega);obtain⟨b,c,n,hv,-⟩:=hu.form;rw [hv] at hu ⊢;intro h8;obtain rfl:b=g14:=by simpa [Value.ownBlock] using h8
      have:=hu.lt; omega
   have HS14:Hid (w5.heap.size<=w14.heap.size):=q_l hnew C9.size
   have HO14:Hid (∀ g,(Value.slice (some ⟨g14,0,none⟩) (k+1) cap).ownBlock=some g->g < wq.heap.size\/w5.heap.size<=g):=fun g hg=>by
    obtain rfl:g14=g:=by simpa [Value.ownBlock] using hg
    rcases hat14 with h9 | h9
    ·exact HOk.out g14 h9
    ·omega
   have HG14:=q_h hG14;clear hG14 C9 B13 hat14 hw9 hown hs13 h1213 hnew hg9 hg9' hNg E13 e13 hb12 hb12' C0 C1 C2 C3;go_wp2;go_roundw
   case rel=>exact⟨k+1,fun j=>if j=k then .slice (some ⟨b12,0,none⟩) n12 c12 else uk j,by omega,by go_num,HG14.out,HU14,HV14,HE14,HS14,HO14,D0,D1,D2,D3⟩
   case measure=>simp [intOf]; omega
def VG (op:Int):Int:=if op=0\/op=1 then 0 else if op=6\/op=7 then 1 else 2
theorem yH {op:Int} (h0:0<=op) (h7:op<=7):Calls Tryz.prog 217 #[.int .i64 op] w (zG w (.int .i64 (VG op))):=by
 have:op=0\/op=1\/op=2\/op=3\/op=4\/op=5\/op=6\/op=7:=by omega
 rcases this with rfl | rfl | rfl | rfl | rfl | rfl | rfl | rfl
 all_goals
  go_enter Tryz.func217,Tryz.ntmps217;go_wp2;go_ret;exact⟨rfl,Ext.refl _⟩
def ndV (d:Nd) (x0 x1 x2 x3:Value):Value:=.agg #[.int .i64 d.op,.int .i64 d.a,.int .i64 d.b,x0,x1,x2,x3]
structure NdC (d:Nd):Prop where
 h0:0<=d.op
 h7:d.op<=7
 con:d.op=0->d.a=0/\d.b=0/\∃ q:Rat,d.r=raw q/\Ht 31 q
 oth:d.op≠0->d.r=q1m
 two:VG d.op < 2->d.b=0
theorem vT.c {L:List (Rat×Nat)} {d:Nd} {e:Rat×Nat} (h:vT L i d e):NdC d:=by
 cases h with
 | con k h1 h2=>exact⟨by show (0:Int)<=0; decide,by show (0:Int)<=7; decide,fun _=>⟨rfl,rfl,_,rfl,(qy (k:=k) (m:=21) (by omega) (by omega)).mono (by omega)⟩,fun h=>absurd rfl h,fun _=>rfl⟩
 | var k h1=>exact⟨by show (0:Int)<=1; decide,by show (1:Int)<=7; decide,fun h=>absurd h (by show ¬ (1:Int)=0; decide),fun _=>rfl,fun _=>rfl⟩
 | bin op j k x y h1 h2 h3 h4 h5 h6 h7 h8=>exact⟨by show 0<=op; omega,by show op<=7; omega,fun h=>absurd h (by show ¬ op=0; omega),fun _=>rfl,fun h=>by
   have h9:VG op < 2:=h;unfold VG at h9;rw [if_neg (by omega),if_neg (by omega)] at h9
   omega⟩
 | sq j x h1 h2 h3=>exact⟨by show (0:Int)<=7; decide,by show (7:Int)<=7; decide,fun h=>absurd h (by show ¬ (7:Int)=0; decide),fun _=>rfl,fun _=>rfl⟩
theorem q4d {op:Int} {y:Rat} (hx:Ht j x) (hy:Ht k y):Ht (j+k+1) (opF op x y):=by
 unfold opF
 split
 ·exact hx.add hy
 ·split
  ·exact hx.sub hy
  ·split
   ·exact (hx.mul hy).mono (by omega)
   ·exact (hx.div hy).mono (by omega)
theorem nd_ht {L:List (Rat×Nat)} {d:Nat->Nd} (hok:∀ i e,L[i]?=some e->vT L i (d i) e):∀ (i:Nat) (e:Rat×Nat),L[i]?=some e->1<=e.2/\e.2<=400/\Ht (32*e.2 - 1) e.1:=by
 intro i
 induction i using Nat.strongRecOn with
 | _ i ih =>
  intro e he;have h:=hok i e he
  generalize d i=dd at h
  cases h with
  | con k h1 h2=>exact⟨q_r,(by decide:1<=400),(qy (k:=k) (m:=21) (by omega) (by omega)).mono (by decide:21<=32*1 - 1)⟩
  | var k h1=>exact⟨q_r,(by decide:1<=400),Ht.zero.mono (by decide:1<=32*1 - 1)⟩
  | bin op j k x y h1 h2 h3 h4 h5 h6 h7 h8 =>
   obtain⟨x1,x2,x3⟩:=ih j h3 x h5;obtain⟨y1,y2,y3⟩:=ih k h4 y h6
   show 1<=x.2+y.2/\x.2+y.2<=400/\Ht (32*(x.2+y.2) - 1) (opF op x.1 y.1)
   exact⟨by omega,h8,(q4d x3 y3).mono (by omega)⟩
  | sq j x h1 h2 h3 =>
   obtain⟨x1,x2,x3⟩:=ih j h1 x h2
   show 1<=2*x.2/\2*x.2<=400/\Ht (32*(2*x.2) - 1) (x.1*x.1)
   exact⟨by omega,h3,(x3.mul x3).mono (by omega)⟩
theorem q18 {B:Option Addr} {c:Nat}:Calls Tryz.prog 16 #[.agg #[.bool false,.slice A 0 c,.bool false,.slice B 0 d]] w (zG w (.bool true)):=by
 go_enter Tryz.func16,Tryz.ntmps16;go_wp2;go_ret;exact⟨rfl,(Ext.refl w).alloc _⟩
theorem q2o {c:Nat} (h:Gs N w (.slice A n c) []):n=0:=by
 obtain⟨-,A',n',c',hv,hl,-⟩:=h;simp only [Value.slice.injEq] at hv;rw [hv.2.1,<-hl]; rfl
theorem q2Q (h:xy N w v q1m):∃ A c B d,v=.agg #[.bool false,.slice A 0 c,.bool false,.slice B 0 d]:=by
 obtain⟨A,n,c,B,m,d,rfl,h1,h2⟩:=h.parts;obtain rfl:=q2o h1;obtain rfl:=q2o h2;exact⟨A,c,B,d,rfl⟩
theorem yS {d:Nd} {x0 x1 x2 x3:Value} (hc:NdC d) (h:xy N w (.agg #[x0,x1,x2,x3]) d.r) :
  Calls Tryz.prog 216 #[ndV d x0 x1 x2 x3] w (zG w (.bool false)):=by
 unfold ndV;have HK:Hid (Calls Tryz.prog 217 #[.int .i64 d.op]=Calls Tryz.prog 217 #[.int .i64 d.op]):=rfl
 by_cases h0:d.op=0
 ·obtain⟨ha,hb,q,hq,hz⟩:=hc.con h0;rw [hq] at h;rw [h0,ha,hb];obtain⟨b,A,n,c,B,m,e,hv,-,-,-⟩:=(show qp N w _ q from h).parts;simp only [Value.agg.injEq,Array.mk.injEq,List.cons.injEq,and_true] at hv;obtain⟨rfl,rfl,rfl,rfl⟩:=hv;have HR:=q_h h;have HZ:=q_h (hz.sz (by decide));clear h hz hq ha hb h0 hc HK;go_enter Tryz.func216,Tryz.ntmps216;go_upto_region 1 with (fail);refine ql ?_;intro w1 hE hsz B0;obtain⟨a0,a1,a2,a3,a4,a5,a6⟩:=kC B0;go_wp2_with (go_at_call 217; refine q_o ?_);refine (yH (op:=0) (by decide) (by decide)).mono ?_;rintro e w2 ⟨rfl,e2⟩;rw [show VG 0=0 from rfl];obtain⟨a0,a1,a2,a3,a4,a5,a6⟩:=kC (e2.block B0);go_wp2_with (go_at_call 56; refine q_o ?_);refine (jW (R:=raw q) (HR.out.ext (hE.trans e2)) (zW HZ.out).1 (zW HZ.out).2).mono ?_;rw [kT];rintro e w3 ⟨rfl,e3⟩;go_wp2;go_ret;exact⟨rfl,(hE.trans e2).trans e3⟩
 ·rw [hc.oth h0] at h;obtain⟨A,c,B,e,hv⟩:=q2Q h;simp only [Value.agg.injEq,Array.mk.injEq,List.cons.injEq,and_true] at hv;obtain⟨rfl,rfl,rfl,rfl⟩:=hv;obtain⟨op,a,b,r⟩:=d;have H0:=hc.h0;have H7:=hc.h7;have HT:=hc.two;simp only at h0 H0 H7 HT ⊢;have t0:(op == 0)=false:=by simpa using h0
  obtain⟨k,hk⟩:=qf (VG op);have hk0:0<=k:=by rw [hk.out]; unfold VG; split <;> (try split) <;> decide
  have t1:decide (k < 0)=false:=q_f (by omega);have HK:=yH (w:=w) H0 H7;clear h hc HK;have HKc:Hid (∀ {w:World},Calls Tryz.prog 217 #[.int .i64 op] w (zG w (.int .i64 k))):=by rw [hk.out]; exact yH H0 H7
  rw [<-hk.out] at HT
  have go:∀ (t2:decide (k < 2)=false\/(decide (k < 2)=true/\b=0)),Calls Tryz.prog 216 #[.agg #[.int .i64 op,.int .i64 a,.int .i64 b,.bool false,.slice A 0 c,.bool false,.slice B 0 e]] w (zG w (.bool false)):=by
   intro t2;clear HT hk H0 H7 hk0 h0
   rcases t2 with t2 | ⟨t2,rfl⟩
   all_goals
    go_enter Tryz.func216,Tryz.ntmps216;go_upto_region 1 with (fail);refine ql ?_;intro w1 hE hsz B0;obtain⟨a0,a1,a2,a3,a4,a5,a6⟩:=kC B0;go_wp2_with (go_at_call 217; refine q_o ?_);refine (HKc.out).mono ?_;rintro e w2 ⟨rfl,e2⟩;obtain⟨a0,a1,a2,a3,a4,a5,a6⟩:=kC (e2.block B0);go_wp2_with (go_at_call 16; refine q_o ?_);refine (q18).mono ?_;rintro e w3 ⟨rfl,e3⟩;go_wp2;go_ret;exact⟨rfl,(hE.trans e2).trans e3⟩
  by_cases h2:k < 2
  ·exact go (.inr ⟨q_t h2,HT h2⟩)
  ·exact go (.inl (q_f h2))
def szL (L:List (Rat×Nat)) (i:Nat):List Nat:=(L.take i).map (·.2)
theorem q2I {L:List (Rat×Nat)} (h:i<=L.length):(szL L i).length=i:=by
 unfold szL;rw [List.length_map,List.length_take]; omega
theorem VR {L:List (Rat×Nat)} {x:Rat×Nat} (h:L[j]?=some x) (hj:j < i):(szL L i)[j]?.getD 0=x.2:=by
 unfold szL;rw [List.getElem?_map,List.getElem?_take,if_pos hj,h]; rfl
theorem Qn {L:List (Rat×Nat)} {x:Rat×Nat} (h:L[i]?=some x):szL L (i+1)=szL L i ++ [x.2]:=by
 unfold szL;rw [List.take_add_one,h]
 simp
def q55 (w:World) (e:Ending) (w':World):Prop:=∃ v,e=.returned (.tuple #[v,.int .i64 0])/\Ext w w'
theorem Jg.open {o:Nat} {d:Nd} (h:Jg N w b o d):∃ (A1:Option Addr) (n1 k1:Nat) (A2:Option Addr) (n2 k2:Nat),w.cell? ⟨b,o,none⟩=some (.int .i64 d.op)/\w.cell? ⟨b,o+1,none⟩=some (.int .i64 d.a)/\w.cell? ⟨b,o+2,none⟩=some (.int .i64 d.b)/\w.cell? ⟨b,o+3,none⟩=some (.bool d.r.b1)/\w.cell? ⟨b,o+4,none⟩=some (.slice A1 n1 k1)/\w.cell? ⟨b,o+5,none⟩=some (.bool d.r.b2)/\w.cell? ⟨b,o+6,none⟩=some (.slice A2 n2 k2)/\xy N w (.agg #[.bool d.r.b1,.slice A1 n1 k1,.bool d.r.b2,.slice A2 n2 k2]) d.r:=by
 obtain⟨h0,h1,h2,s,t,h3,h4,h5,h6,g1,g2⟩:=h;obtain⟨A1,n1,k1,rfl,-,-,-⟩:=g1.form;obtain⟨A2,n2,k2,rfl,-,-,-⟩:=g2.form;exact⟨A1,n1,k1,A2,n2,k2,h0,h1,h2,h3,h4,h5,h6,_,_,rfl,g1,g2⟩
theorem q17 {L:List (Rat×Nat)} (h:Trm N w v L) (hl0:0 < L.length) (hl:L.length<=400) :
  Calls Tryz.prog 180 #[v,.int .i64 9] w (q55 w):=by
 obtain⟨R,hR⟩:=qf (q55 w);rw [<-hR.out];obtain⟨d,hd,hok⟩:=h;obtain⟨hN0,gb,gc,rfl,hnc,hcm,hnd⟩:=hd;have HNDS:=q_h hnd;have HOK:=q_h hok;have HHT:=q_h (nd_ht hok);obtain⟨n,hn⟩:=qf L.length;have hl0':0 < n:=by rw [hn.out]; exact hl0
 have hl':n<=400:=by rw [hn.out]; exact hl
 rw [<-hn.out] at HNDS hnc ⊢;clear hnd hok hl0 hl;go_enter Tryz.func180,Tryz.ntmps180;have s1:((n:Int) == 0)=false:=by simp; omega
 have s2:decide (400 < (n:Int))=false:=q_f (by omega);go_upto_region 7 with (fail);go_wp2_with fail;refine ql ?_;intro w1 hE hsz B0;go_wp2_with fail
 go_loopw [26,6] (fun iv lv wr=>∃ i:Nat,i<=n/\iv=.int .i64 (i:Int)/\∃ u,lv=u/\q5k w.heap.size wr u (szL L i)/\Ext w wr) (fun iv _ _=>n - (intOf iv).toNat)
 case atStart=>exact⟨0,Nat.zero_le _,rfl,_,rfl,q5k.empty (q_r) B0,hE⟩
 case round =>
  obtain⟨i,hi,rfl,u,rfl,HG1,hE1⟩:=hrel
  by_cases hlt:i < n
  case neg =>
   have t1:decide ((i:Int) < (n:Int))=false:=q_f (by omega);go_wp2
   first | go_ret2 | skip
   rw [hR.out];exact⟨_,rfl,hE1⟩
  have t1:decide ((i:Int) < (n:Int))=true:=q_t (by omega);obtain⟨wq,hwq⟩:∃ wq,wq=wr:=⟨_,rfl⟩
  subst hwq;have HPL:Hid ((szL L i).length=i):=q2I (by rw [<-hn.out]; exact hi);obtain⟨Au,cu,rfl,-⟩:=HG1.form;rw [HPL.out] at HG1 ⊢;have HG:=q_h HG1;obtain⟨x,hx⟩:∃ x,L[i]?=some x:=⟨_,List.getElem?_eq_getElem (by rw [<-hn.out]; exact hlt)⟩
  have HXX:=q_h hx;have hok:=HOK.out i x hx;have hht:=HHT.out i x hx;obtain⟨A1,n1,k1,A2,n2,k2,c0,c1,c2,c3,c4,c5,c6,hrv⟩:=Jg.open ((HNDS.out i hlt).ext hE1);have HRV:=q_h hrv;obtain⟨dd,hdd⟩:∃ dd,dd=d i:=⟨_,rfl⟩
  rw [<-hdd] at hok c0 c1 c2 c3 c5 HRV;have HC:=q_h hok.c;clear hrv hx hdd HG1;cases hok with
  | con k h1 h2 =>
   dsimp only at c0 c1 c2 c3 c5 HRV hht
   clear hht h1 h2;go_upto_region 11 with (fail);refine ql ?_;intro w5 e5 hsz5 B5;clear c0 c1 c2 c3 c4 c5 c6;obtain⟨f0,f1,f2,f3,f4,f5,f6⟩:=kC B5;have HU:=q_h (yS HC.out (HRV.out.ext e5));unfold ndV at HU
   dsimp only at HU
   go_wp2_with (go_at_call 216; refine q_o ?_);refine (HU.out).mono ?_;rintro e w6 ⟨rfl,e6⟩;replace B5:=e6.block B5;clear f0 f1 f2 f3 f4 f5 f6 HU;obtain⟨f0,f1,f2,f3,f4,f5,f6⟩:=kC B5;go_wp2_with (go_at_call 217; refine q_o ?_);refine (yH (op:=0) (by omega) (by omega)).mono ?_;rw [show VG 0=0 from rfl];rintro e w7 ⟨rfl,e7⟩;replace B5:=e7.block B5;clear f0 f1 f2 f3 f4 f5 f6;obtain⟨f0,f1,f2,f3,f4,f5,f6⟩:=kC B5;have HE7:=q_h ((e5.trans e6).trans e7);clear e5 e6 e7;have HGq:=q_h (HG.out.ext HE7.out);have hi1:(szL L i).length < 1000000000:=by rw [HPL.out]; omega
   clear HG B5;go_wp2_with (at_builtin; refine q_o ?_);refine ql ?_;intro w8 e8 hsz8 B8;refine zM rfl _ _ 22 Tryz.underlying22 rfl rfl (HGq.out.ext e8) rfl (z:=1) (by first | exact B8 | (rw [Int.natCast_add]; exact B8) | (rw [Int.natCast_mul]; exact B8)) hi1 ?_;rintro g9 cap w9 hG9 ⟨g,hg,C9,-⟩;have hE9:=C9.ext (hE1.trans (HE7.out.trans e8)) hg;have hG9':=q_h (Qn HXX.out)
   dsimp only at hG9'
   rw [<-hG9'.out,HPL.out] at hG9;rw [HPL.out];have HG9:=q_h hG9;clear hG9 C9 B8 e8 hsz5 hsz8 HGq hG9' hi1;go_wp2;go_roundw
   case rel=>exact⟨i+1,by omega,by go_num,_,rfl,HG9.out,hE9⟩
   case measure=>simp [intOf]; omega
  | var k h1 =>
   dsimp only at c0 c1 c2 c3 c5 HRV hht
   clear hht;have u1:decide ((k:Int) < 0)=false:=q_f (by omega);have u2:decide (9<=(k:Int))=false:=q_f (by omega);go_upto_region 11 with (fail);refine ql ?_;intro w5 e5 hsz5 B5;clear c0 c1 c2 c3 c4 c5 c6;obtain⟨f0,f1,f2,f3,f4,f5,f6⟩:=kC B5;have HU:=q_h (yS HC.out (HRV.out.ext e5));unfold ndV at HU
   dsimp only at HU
   go_wp2_with (go_at_call 216; refine q_o ?_);refine (HU.out).mono ?_;rintro e w6 ⟨rfl,e6⟩;replace B5:=e6.block B5;clear f0 f1 f2 f3 f4 f5 f6 HU;obtain⟨f0,f1,f2,f3,f4,f5,f6⟩:=kC B5;go_wp2_with (go_at_call 217; refine q_o ?_);refine (yH (op:=1) (by omega) (by omega)).mono ?_;rw [show VG 1=0 from rfl];rintro e w7 ⟨rfl,e7⟩;replace B5:=e7.block B5;clear f0 f1 f2 f3 f4 f5 f6;obtain⟨f0,f1,f2,f3,f4,f5,f6⟩:=kC B5;have HE7:=q_h ((e5.trans e6).trans e7);clear e5 e6 e7;have HGq:=q_h (HG.out.ext HE7.out);have hi1:(szL L i).length < 1000000000:=by rw [HPL.out]; omega
   clear HG B5;go_wp2_with (at_builtin; refine q_o ?_);refine ql ?_;intro w8 e8 hsz8 B8;refine zM rfl _ _ 22 Tryz.underlying22 rfl rfl (HGq.out.ext e8) rfl (z:=1) (by first | exact B8 | (rw [Int.natCast_add]; exact B8) | (rw [Int.natCast_mul]; exact B8)) hi1 ?_;rintro g9 cap w9 hG9 ⟨g,hg,C9,-⟩;have hE9:=C9.ext (hE1.trans (HE7.out.trans e8)) hg;have hG9':=q_h (Qn HXX.out)
   dsimp only at hG9'
   rw [<-hG9'.out,HPL.out] at hG9;rw [HPL.out];have HG9:=q_h hG9;clear hG9 C9 B8 e8 hsz5 hsz8 HGq hG9' hi1;go_wp2;go_roundw
   case rel=>exact⟨i+1,by omega,by go_num,_,rfl,HG9.out,hE9⟩
   case measure=>simp [intOf]; omega
  | bin op j k x y h1 h2 h3 h4 h5 h6 h7 h8 =>
   obtain⟨xq,xs⟩:=x;obtain⟨yq,ys⟩:=y
   dsimp only at c0 c1 c2 c3 c5 HRV hht h8 HXX
   obtain⟨g1,o1,z1,hA,q1,hz1⟩:=IsV.at_ (q5k.isv HG.out (q_r)) (i:=j) (by rw [HPL.out]; exact h3);obtain⟨g2,o2,z2,hA2,q2,hz2⟩:=IsV.at_ (q5k.isv HG.out (q_r)) (i:=k) (by rw [HPL.out]; exact h4);rw [hA] at hA2;simp only [Option.some.injEq,Addr.mk.injEq,and_true] at hA2;obtain⟨rfl,rfl⟩:=hA2;obtain rfl:z1=xs:=by rw [hz1.out,VR h5 h3]
   obtain rfl:z2=ys:=by rw [hz2.out,VR h6 h4]
   subst hA;have u1:decide ((j:Int) < 0)=false:=q_f (by omega);have u2:decide ((i:Int)<=(j:Int))=false:=q_f (by omega);have u3:decide ((k:Int) < 0)=false:=q_f (by omega);have u4:decide ((i:Int)<=(k:Int))=false:=q_f (by omega);have u5:(op == 1)=false:=by simp; omega
   have u6:(op == 7)=false:=by simp; omega
   have u7:decide (4096 < (z1:Int)+(z2:Int))=false:=q_f (by omega);clear hz1 hz2 hht h5 h6 h7;go_upto_region 11 with (fail);refine ql ?_;intro w5 e5 hsz5 B5;clear c0 c1 c2 c3 c4 c5 c6;obtain⟨f0,f1,f2,f3,f4,f5,f6⟩:=kC B5;have HU:=q_h (yS HC.out (HRV.out.ext e5));unfold ndV at HU
   dsimp only at HU
   go_wp2_with (go_at_call 216; refine q_o ?_);refine (HU.out).mono ?_;rintro e w6 ⟨rfl,e6⟩;replace B5:=e6.block B5;clear f0 f1 f2 f3 f4 f5 f6 HU;obtain⟨f0,f1,f2,f3,f4,f5,f6⟩:=kC B5;go_wp2_with (go_at_call 217; refine q_o ?_);refine (yH (op:=op) (by omega) (by omega)).mono ?_;rw [show VG op=2 from by unfold VG; rw [if_neg (by omega),if_neg (by omega)]];rintro e w7 ⟨rfl,e7⟩;replace B5:=e7.block B5;clear f0 f1 f2 f3 f4 f5 f6;obtain⟨f0,f1,f2,f3,f4,f5,f6⟩:=kC B5;have HE7:=q_h ((e5.trans e6).trans e7);clear e5 e6 e7;replace q1:=HE7.out.cell q1;replace q2:=HE7.out.cell q2;have HGq:=q_h (HG.out.ext HE7.out);have hi1:(szL L i).length < 1000000000:=by rw [HPL.out]; omega
   clear HG B5;go_wp2_with (at_builtin; refine q_o ?_);refine ql ?_;intro w8 e8 hsz8 B8;refine zM rfl _ _ 22 Tryz.underlying22 rfl rfl (HGq.out.ext e8) rfl (z:=z1+z2) (by first | exact B8 | (rw [Int.natCast_add]; exact B8) | (rw [Int.natCast_mul]; exact B8)) hi1 ?_;rintro g9 cap w9 hG9 ⟨g,hg,C9,-⟩;have hE9:=C9.ext (hE1.trans (HE7.out.trans e8)) hg;have hG9':=q_h (Qn HXX.out)
   dsimp only at hG9'
   rw [<-hG9'.out,HPL.out] at hG9;rw [HPL.out];have HG9:=q_h hG9;clear hG9 C9 B8 e8 hsz5 hsz8 HGq hG9' hi1;go_wp2;go_roundw
   case rel=>exact⟨i+1,by omega,by go_num,_,rfl,HG9.out,hE9⟩
   case measure=>simp [intOf]; omega
  | sq j x h1 h2 h3 =>
   obtain⟨xq,xs⟩:=x
   dsimp only at c0 c1 c2 c3 c5 HRV hht h3 HXX
   obtain⟨g1,o1,z1,hA,q1,hz1⟩:=IsV.at_ (q5k.isv HG.out (q_r)) (i:=j) (by rw [HPL.out]; exact h1);obtain rfl:z1=xs:=by rw [hz1.out,VR h2 h1]
   subst hA;have u1:decide ((j:Int) < 0)=false:=q_f (by omega);have u2:decide ((i:Int)<=(j:Int))=false:=q_f (by omega);have u7:decide (4096 < 2*(z1:Int))=false:=q_f (by omega);clear hz1 hht h2;go_upto_region 11 with (fail);refine ql ?_;intro w5 e5 hsz5 B5;clear c0 c1 c2 c3 c4 c5 c6;obtain⟨f0,f1,f2,f3,f4,f5,f6⟩:=kC B5;have HU:=q_h (yS HC.out (HRV.out.ext e5));unfold ndV at HU
   dsimp only at HU
   go_wp2_with (go_at_call 216; refine q_o ?_);refine (HU.out).mono ?_;rintro e w6 ⟨rfl,e6⟩;replace B5:=e6.block B5;clear f0 f1 f2 f3 f4 f5 f6 HU;obtain⟨f0,f1,f2,f3,f4,f5,f6⟩:=kC B5;go_wp2_with (go_at_call 217; refine q_o ?_);refine (yH (op:=7) (by omega) (by omega)).mono ?_;rw [show VG 7=1 from rfl];rintro e w7 ⟨rfl,e7⟩;replace B5:=e7.block B5;clear f0 f1 f2 f3 f4 f5 f6;obtain⟨f0,f1,f2,f3,f4,f5,f6⟩:=kC B5;have HE7:=q_h ((e5.trans e6).trans e7);clear e5 e6 e7;replace q1:=HE7.out.cell q1;have HGq:=q_h (HG.out.ext HE7.out);have hi1:(szL L i).length < 1000000000:=by rw [HPL.out]; omega
   clear HG B5;go_wp2_with (at_builtin; refine q_o ?_);refine ql ?_;intro w8 e8 hsz8 B8;refine zM rfl _ _ 22 Tryz.underlying22 rfl rfl (HGq.out.ext e8) rfl (z:=2*z1) (by first | exact B8 | (rw [Int.natCast_add]; exact B8) | (rw [Int.natCast_mul]; exact B8)) hi1 ?_;rintro g9 cap w9 hG9 ⟨g,hg,C9,-⟩;have hE9:=C9.ext (hE1.trans (HE7.out.trans e8)) hg;have hG9':=q_h (Qn HXX.out)
   dsimp only at hG9'
   rw [<-hG9'.out,HPL.out] at hG9;rw [HPL.out];have HG9:=q_h hG9;clear hG9 C9 B8 e8 hsz5 hsz8 HGq hG9' hi1;go_wp2;go_roundw
   case rel=>exact⟨i+1,by omega,by go_num,_,rfl,HG9.out,hE9⟩
   case measure=>simp [intOf]; omega
theorem r7_Check {L:List (Rat×Nat)} (h:Trm N w v L) (hl0:0 < L.length) (hl:L.length<=400) :
  Calls Tryz.prog 134 #[v,.int .i64 9] w (zG w (.int .i64 0)):=by
 have HS:=q_h (q17 h hl0 hl);obtain⟨b,c,rfl⟩:=h.form;clear h;go_enter Tryz.func134,Tryz.ntmps134;go_wp2_with (go_at_call 180; refine q_o ?_);refine (HS.out).mono ?_;rintro e w1 ⟨u,rfl,e1⟩;go_wp2;go_ret;exact⟨rfl,e1⟩
theorem sign_zero {y:Rat}:(x - y).num.sign=0↔x=y:=by
 constructor
 ·intro h;have h1:=Int.sign_eq_zero_iff_zero.1 h;have h2:=Rat.num_eq_zero.1 h1
  grind
 ·rintro rfl;rw [Rat.sub_self]; rfl
theorem r2_sameD {v':Value} {y:Rat} (h:qp N w v x) (h':qp N w v' y) (hz:Sz x) (hz':Sz y) (hd:Sz (x - y)) :
  Calls Tryz.prog 15 #[v,v'] w (zG w (.bool (decide (x=y)))):=by
 obtain⟨r,hr⟩:=qf (decide (x=y));obtain⟨s,hs⟩:=qf (x - y).num.sign
 have hrs:r=decide (s=0):=by
  rw [hr.out,hs.out]
  by_cases he:x=y
  ·rw [q_t he,q_t (sign_zero.2 he)]
  ·rw [q_f he,q_f (fun h=>he (sign_zero.1 h))]
 rw [<-hr.out];have HD:=q_h hd;have hI:=h;have hI':=h';have HZ:=q_h hz;have HZ':=q_h hz';have HR:=q_h hrs;obtain⟨m1,X1,i1,d1,X2,i2,d2,rfl,hm1,gx1,gx2⟩:=h.parts;obtain⟨m2,Y1,i3,d3,Y2,i4,d4,rfl,hm2,gy1,gy2⟩:=h'.parts;clear hz hz' hd h h' gx1 gx2 gy1 gy2 hrs;go_enter Tryz.func15,Tryz.ntmps15;go_wp2_with (go_at_call 56; refine q_o ?_);refine kL ?_;intro W hE hsz B0 B1;refine (jW (R:=raw x) (hI.ext hE) (zW HZ.out).1 (zW HZ.out).2).mono ?_;rintro e w1 ⟨rfl,e1⟩;rw [kT];replace hE:=hE.trans e1;replace B0:=e1.block B0;replace B1:=e1.block B1;obtain⟨b0,b1,b2,b3,-⟩:=cells4 B1;go_wp2_with (go_at_call 56; refine q_o ?_);refine (jW (R:=raw y) (hI'.ext hE) (zW HZ'.out).1 (zW HZ'.out).2).mono ?_;rintro e w2 ⟨rfl,e2⟩;rw [kT];replace hE:=hE.trans e2;replace B0:=e2.block B0;replace B1:=e2.block B1;clear b0 b1 b2 b3;obtain⟨a0,a1,a2,a3,-⟩:=cells4 B0;obtain⟨b0,b1,b2,b3,-⟩:=cells4 B1;go_wp2_with (go_at_call 57; refine q_o ?_);refine (Zg (hI.ext hE) (hI'.ext hE) HZ.out HZ'.out HD.out).mono ?_;rintro e w3 ⟨rfl,e3⟩;rw [<-hs.out]
 by_cases h0:s=0
 ·have HR1:Hid (r=true):=by rw [Hid,HR.out,q_t h0]
  subst h0;go_wp2;go_ret;exact⟨qo HR1.out.symm,hE.trans e3⟩
 ·have HR1:Hid (r=false):=by rw [Hid,HR.out,q_f h0]
  have hs0:(s == 0)=false:=by simpa using h0
  go_wp2;go_ret;exact⟨qo HR1.out.symm,hE.trans e3⟩
end Go.Proofs.YtphpkhoeplcedaaGreat
