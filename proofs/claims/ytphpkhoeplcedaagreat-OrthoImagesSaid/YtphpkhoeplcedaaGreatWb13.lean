import Derived.Test.YtphpkhoeplcedaaGreatWb12
import Derived.Shelf.Bits.Mul64
import Derived.Laws.IdiomCopy
set_option linter.all false
set_option maxHeartbeats 8000000
set_option maxRecDepth 100000
namespace Go.Proofs.YtphpkhoeplcedaaGreat
open Go.RowKit
variable {w w':World} {N n lo hi k g m c b:Nat} {q x:Rat} {z:Int} {R:Raw} {A:Option Addr}
def IzV (N lo hi:Nat) (w:World) (v:Value) (n:Nat) (z:Nat->Int):Prop :=
 N+lo+hi=N+lo+hi/\∃ (A:Option Addr) (c:Nat),v=.slice A n c/\n<=c/\c<=maxLen/\(0 < n->∃ b off,A=some ⟨b,off,none⟩/\∀ i,i < n->w.cell? ⟨b,off+i,none⟩=some (.int .i64 (z i)))
theorem IzV.ext {v:Value} {z:Nat->Int} (h:IzV N lo hi w v n z) (e:Ext w w'):IzV N lo hi w' v n z:=by
 obtain⟨h0,A,c,hv,h1,h2,h3⟩:=h;refine⟨h0,A,c,hv,h1,h2,fun h=>?_⟩;obtain⟨b,off,hA,hc⟩:=h3 h;exact⟨b,off,hA,fun i hi=>e.cell (hc i hi)⟩
theorem IzV.form {v:Value} {z:Nat->Int} (h:IzV N lo hi w v n z):∃ (A:Option Addr) (c:Nat),v=.slice A n c/\n<=c/\c<=maxLen:=by
 obtain⟨h0,A,c,hv,h1,h2,h3⟩:=h;exact⟨A,c,hv,h1,h2⟩
theorem IzV.addr {z:Nat->Int} (h:IzV N lo hi w (.slice A n c) n z) (hn:0 < n):∃ b off,A=some ⟨b,off,none⟩/\∀ i,i < n->w.cell? ⟨b,off+i,none⟩=some (.int .i64 (z i)):=by
 obtain⟨h0,A',c',hv,h1,h2,h3⟩:=h;injection hv with e1 e2 e3
 subst e1;exact h3 hn
def IsI (u:Value) (z:Int):Prop:=u=.int .i64 z
theorem IsI.out {u:Value} (h:IsI u z):u=.int .i64 z:=h
structure Grd where
 x0:Int
 y0:Int
 st:Int
 wd:Int
 ht:Int
 n:Nat
 z:Nat->Int
def jm:Int:=-2147483648
def zo (n:Int):Bool:=decide (n < -1048576) || decide (1048576 < n)
def jD (n:Int):Bool:=decide (2<=n) && decide (n<=64)
def q0J (n:Int):Bool:=decide (n≠jm) && zo n
def KC (G:Grd):Bool:=jD G.wd && jD G.ht && decide (2<=G.st) && decide (G.st<=65536) && decide (G.st % 2=0) && !zo G.x0 && !zo G.y0
def zC (G:Grd):Int:=if KC G=false then 2 else if (G.n:Int)≠G.wd*G.ht then 4 else if jf G.n (fun i=>q0J (G.z i)) then 2 else 0
def Ze (N lo hi:Nat) (w:World) (v:Value) (G:Grd):Prop :=
 ∃ vz,v=.agg #[.int .i64 G.x0,.int .i64 G.y0,.int .i64 G.st,.int .i64 G.wd,.int .i64 G.ht,vz]/\IzV N lo hi w vz G.n G.z
theorem Ze.ext {v:Value} {G:Grd} (h:Ze N lo hi w v G) (e:Ext w w'):Ze N lo hi w' v G:=by
 obtain⟨vz,rfl,hz⟩:=h;exact⟨vz,rfl,hz.ext e⟩
theorem Ze.parts {v:Value} {G:Grd} (h:Ze N lo hi w v G):∃ A c,v=.agg #[.int .i64 G.x0,.int .i64 G.y0,.int .i64 G.st,.int .i64 G.wd,.int .i64 G.ht,.slice A G.n c]/\G.n<=c/\c<=maxLen/\IzV N lo hi w (.slice A G.n c) G.n G.z:=by
 obtain⟨vz,rfl,hz⟩:=h;obtain⟨A,c,rfl,h1,h2⟩:=hz.form;exact⟨A,c,rfl,h1,h2,hz⟩
theorem xk {t:TypeId} {x0 x1 x2 x3 x4 x5:Value} (h:w.heap[g]?=some (.cells #[x0,x1,x2,x3,x4,x5] t (0,0))):w.cell? ⟨g,0,none⟩=some x0/\w.cell? ⟨g,1,none⟩=some x1/\w.cell? ⟨g,2,none⟩=some x2/\w.cell? ⟨g,3,none⟩=some x3/\w.cell? ⟨g,4,none⟩=some x4/\w.cell? ⟨g,5,none⟩=some x5:=by
 refine⟨?_,?_,?_,?_,?_,?_⟩ <;> exact qg h _
def q3M (w:World) (v:Value) (e:Ending) (w':World):Prop:=e=.returned v/\w'=w
theorem q3M.v {v:Value} {e:Ending} (h:q3M w v e w'):zG w v e w':=⟨h.1,by rw [h.2]; exact Ext.refl w⟩
theorem VQ (w:World) (z:Int):Calls Tryz.prog 94 #[.int .i64 z] w (q3M w (.bool (zo z))):=by
 by_cases h0:z < -1048576
 ·have HR:Hid (true=zo z):=by rw [Hid]; unfold zo; rw [q_t h0]; rfl
  go_enter Tryz.func94,Tryz.ntmps94;go_wp2;go_ret;exact⟨qo HR.out,rfl⟩
 ·by_cases h1:1048576 < z
  ·have HR:Hid (true=zo z):=by rw [Hid]; unfold zo; rw [q_t h1,Bool.or_true]
   go_enter Tryz.func94,Tryz.ntmps94;go_wp2;go_ret;exact⟨qo HR.out,rfl⟩
  ·have HR:Hid (false=zo z):=by rw [Hid]; unfold zo; rw [q_f h0,q_f h1]; rfl
   go_enter Tryz.func94,Tryz.ntmps94;go_wp2;go_ret;exact⟨qo HR.out,rfl⟩
theorem VP (w:World) (z:Int):Calls Tryz.prog 93 #[.int .i64 z] w (q3M w (.bool (jD z))):=by
 by_cases h0:2<=z
 ·by_cases h1:z<=64
  ·have HR:Hid (true=jD z):=by rw [Hid]; unfold jD; rw [q_t h0,q_t h1]; rfl
   go_enter Tryz.func93,Tryz.ntmps93;go_wp2;go_ret;exact⟨qo HR.out,rfl⟩
  ·have HR:Hid (false=jD z):=by rw [Hid]; unfold jD; rw [q_f h1,Bool.and_false]
   go_enter Tryz.func93,Tryz.ntmps93;go_wp2;go_ret;exact⟨qo HR.out,rfl⟩
 ·have HR:Hid (false=jD z):=by rw [Hid]; unfold jD; rw [q_f h0]; rfl
  go_enter Tryz.func93,Tryz.ntmps93;go_wp2;go_ret;exact⟨qo HR.out,rfl⟩
theorem q41 (w:World) (z:Int):Calls Tryz.prog 96 #[.int .i64 z] w (q3M w (.bool (q0J z))):=by
 by_cases h0:z = -2147483648
 ·have HR:Hid (false=q0J z):=by rw [Hid,h0]; rfl
  subst h0;go_enter Tryz.func96,Tryz.ntmps96;go_wp2;go_ret;exact⟨qo HR.out,rfl⟩
 ·have HR:Hid (zo z=q0J z):=by rw [Hid]; unfold q0J; rw [q_t (show z≠jm from h0)]; rfl
  have t0:(z != -2147483648)=true:=by simpa using h0
  obtain⟨r,hr⟩:=qf (zo z);rw [<-hr.out] at HR;go_enter Tryz.func96,Tryz.ntmps96;go_wp2_with (go_at_call 94; refine q_o ?_);refine (VQ w z).mono ?_;rintro e w1 ⟨rfl,rfl⟩;rw [<-hr.out];go_wp2;go_ret;exact⟨qo HR.out,rfl⟩
theorem q0W {v:Value} {z:Nat->Int} (h:IzV N lo hi w v n z)  (g:Nat->Bool)
  (hf:∀ i,i < n->∀ w' u,Ext w w'->IsI u (z i)->Calls Tryz.prog 96 #[u] w' (zG w' (.bool (g i)))) :
  Calls Tryz.prog 146 #[v,.func (.func 96) #[] #[]] w (YW w (jf n g)):=by
 obtain⟨r,hr⟩:=qf (jf n g);rw [<-hr.out];obtain⟨A,c,rfl,hnc,hcm⟩:=h.form;unfold maxLen at hcm;have hI:=h;have HF:=q_h hf;clear h hf;go_enter Tryz.func146,Tryz.ntmps146;go_wp2
 go_loopw [8] (fun i wr=>∃ k:Nat,k<=n/\i=.int .i64 k/\Hid (∀ j,j < k->g j=false)/\Ext w wr) (fun i _=>n - (intOf i).toNat)
 case atStart=>exact⟨0,Nat.zero_le _,rfl,fun j hj=>absurd hj (by omega),Ext.refl w⟩
 case round =>
  obtain⟨k,hk,rfl,HA,hE⟩:=hrel
  by_cases hlt:k < n
  ·(obtain⟨b,off,rfl,hx⟩:=(hI.ext hE).addr (by omega)); (have p0:=hx k hlt); (have hv:IsI (Value.int .i64 (z k)) (z k):=rfl)
   clear hx;go_wp2_with (go_at_call 96; refine q_o ?_);refine (HF.out k hlt _ _ hE hv).mono ?_;rintro e w1 ⟨rfl,e1⟩;replace hE:=hE.trans e1;obtain⟨o,ho⟩:=qf (g k);rw [<-ho.out];cases o with
   | false =>
    go_wp2;go_roundw
    case rel=>exact⟨k+1,by omega,by go_num,xP (p:=fun j=>g j=false) HA.out ho.out.symm,hE⟩
    case measure=>simp [intOf]; omega
   | true =>
    have HT:Hid (r=true):=by rw [Hid,hr.out]; exact jR hlt ho.out.symm
    go_wp2;go_ret;exact⟨_,rfl,by rw [Hid,HT.out]; symm; simp,hE⟩
  ·have HT:Hid (r=false):=by rw [Hid,hr.out]; exact kD.2 (fun j hj=>HA.out j (by omega))
   go_wp2;go_ret;exact⟨_,rfl,by rw [Hid,HT.out]; rfl,hE⟩
theorem q2O {v:Value} {z:Nat->Int} (h:IzV N lo hi w v n z)  (g:Nat->Bool)
  (hf:∀ i,i < n->∀ w' u,Ext w w'->IsI u (z i)->Calls Tryz.prog 96 #[u] w' (zG w' (.bool (g i)))) :
  Calls Tryz.prog 95 #[v,.func (.func 96) #[] #[]] w (zG w (.bool (jf n g))):=by
 obtain⟨r,hr⟩:=qf (jf n g);rw [<-hr.out];obtain⟨A,c,rfl,hnc,hcm⟩:=h.form;have hI:=h;have HF:=q_h hf;clear h hf;go_enter Tryz.func95,Tryz.ntmps95;go_wp2_with (go_at_call 146; refine q_o ?_);refine (q0W hI  g HF.out).mono ?_;rintro e w1 ⟨z,rfl,hz,e1⟩;rw [<-hr.out] at hz;go_wp2;go_ret;exact⟨qo hz.out.symm,e1⟩
theorem q4H {G:Grd} (h:jD G.wd=false):KC G=false:=by unfold KC; rw [h]; rfl
theorem q4I {G:Grd} (h:jD G.ht=false):KC G=false:=by unfold KC; rw [h]; simp
theorem q04 {G:Grd} (h:¬(2<=G.st/\G.st<=65536/\G.st % 2=0)):KC G=false:=by
 cases hb:KC G with
 | false=>rfl
 | true =>
  unfold KC at hb;simp only [Bool.and_eq_true,decide_eq_true_eq] at hb;exact absurd ⟨hb.1.1.1.1.2,hb.1.1.1.2,hb.1.1.2⟩ h
theorem q4G {G:Grd} (h:zo G.x0=true):KC G=false:=by unfold KC; rw [h]; simp
theorem q4F {G:Grd} (h:zo G.y0=true):KC G=false:=by unfold KC; rw [h]; simp
theorem q3w {G:Grd} (h1:jD G.wd=true) (h2:jD G.ht=true) (h3:2<=G.st) (h4:G.st<=65536) (h5:G.st % 2=0) (h6:zo G.x0=false) (h7:zo G.y0=false):KC G=true:=by
 unfold KC;rw [h1,h2,h6,h7,q_t h3,q_t h4,q_t h5]
 rfl
theorem jr {G:Grd} (h:KC G=false):zC G=2:=by unfold zC; rw [if_pos h]
theorem ZK (h:jD z=true):2<=z/\z<=64:=by
 unfold jD at h;simp only [Bool.and_eq_true,decide_eq_true_eq] at h;exact h
theorem q1L {G:Grd} (h:KC G=true) (h':(G.n:Int)≠G.wd*G.ht):zC G=4:=by unfold zC; rw [if_neg (by rw [h]; decide),if_pos h']
theorem q1M {G:Grd} (h:KC G=true) (h':(G.n:Int)=G.wd*G.ht) (r:Bool) (hr:r=jf G.n (fun i=>q0J (G.z i))):zC G=if r then 2 else 0:=by unfold zC; rw [if_neg (by rw [h]; decide),if_neg (by simpa using h'),hr]
theorem Yd {v:Value} {G:Grd} (h:Ze N lo hi w v G) :
  Calls Tryz.prog 49 #[v] w (zG w (.int .i64 (zC G))):=by
 obtain⟨A,c,rfl,hnc,hcm,hz⟩:=h.parts;obtain⟨r,hr⟩:=qf (zC G);rw [<-hr.out];have HZ:=q_h hz;clear h hz;go_enter Tryz.func49,Tryz.ntmps49;go_upto_region 1 with (fail);refine ql ?_;intro W hE hsz B0;obtain⟨a0,a1,a2,a3,a4,a5⟩:=xk B0;go_wp2_with (go_at_call 93; refine q_o ?_);refine (VP W G.wd).mono ?_;rintro e w1 ⟨rfl,rfl⟩;cases h1:jD G.wd with
 | false =>
  have HR:Hid (r=2):=by rw [Hid,hr.out]; exact jr (q4H h1)
  go_wp2;go_ret;exact⟨qx HR.out.symm,hE⟩
 | true =>
 go_wp2_with (go_at_call 93; refine q_o ?_);refine (VP _ G.ht).mono ?_;rintro e w1 ⟨rfl,rfl⟩;cases h2:jD G.ht with
 | false =>
  have HR:Hid (r=2):=by rw [Hid,hr.out]; exact jr (q4I h2)
  go_wp2;go_ret;exact⟨qx HR.out.symm,hE⟩
 | true =>
 by_cases h3:2<=G.st
 case neg =>
  have t3:decide (G.st < 2)=true:=q_t (by omega);have HR:Hid (r=2):=by rw [Hid,hr.out]; exact jr (q04 (fun h=>h3 h.1))
  go_wp2;go_ret;exact⟨qx HR.out.symm,hE⟩
 have t3:decide (G.st < 2)=false:=q_f (by omega)
 by_cases h4:G.st<=65536
 case neg =>
  have t4:decide (65536 < G.st)=true:=q_t (by omega);have HR:Hid (r=2):=by rw [Hid,hr.out]; exact jr (q04 (fun h=>h4 h.2.1))
  go_wp2;go_ret;exact⟨qx HR.out.symm,hE⟩
 have t4:decide (65536 < G.st)=false:=q_f (by omega)
 by_cases h5:G.st % 2=0
 case neg =>
  have t5:(G.st % 2 != 0)=true:=by simpa using h5
  have HR:Hid (r=2):=by rw [Hid,hr.out]; exact jr (q04 (fun h=>h5 h.2.2))
  go_wp2;go_ret;exact⟨qx HR.out.symm,hE⟩
 have t5:(G.st % 2 != 0)=false:=by simpa using h5
 go_wp2_with (go_at_call 94; refine q_o ?_);refine (VQ _ G.x0).mono ?_;rintro e w1 ⟨rfl,rfl⟩;cases h6:zo G.x0 with
 | true =>
  have HR:Hid (r=2):=by rw [Hid,hr.out]; exact jr (q4G h6)
  go_wp2;go_ret;exact⟨qx HR.out.symm,hE⟩
 | false =>
 go_wp2_with (go_at_call 94; refine q_o ?_);refine (VQ _ G.y0).mono ?_;rintro e w1 ⟨rfl,rfl⟩;cases h7:zo G.y0 with
 | true =>
  have HR:Hid (r=2):=by rw [Hid,hr.out]; exact jr (q4F h7)
  go_wp2;go_ret;exact⟨qx HR.out.symm,hE⟩
 | false =>
 have HF:=q_h (q3w h1 h2 h3 h4 h5 h6 h7);have s1:=ZK h1;have s2:=ZK h2;obtain⟨pr,hpr⟩:=qf (G.wd*G.ht);have hp0:0<=G.wd*G.ht:=Int.mul_nonneg (by omega) (by omega);have hp1:G.wd*G.ht<=64*64:=Int.mul_le_mul s1.2 s2.2 (by omega) (by omega);have hwr:IntKind.i64.wrap (G.wd*G.ht)=pr:=by rw [hpr.out]; exact IntWalk.i64_in _ (by omega)
 by_cases h8:(G.n:Int)=pr
 case neg =>
  have HR:Hid (r=4):=by rw [Hid,hr.out]; exact q1L HF.out (by rw [<-hpr.out]; exact h8)
  have t8:((G.n:Int) != pr)=true:=by simpa using h8
  clear h8;go_wp2;go_ret;exact⟨qx HR.out.symm,hE⟩
 have t8:((G.n:Int) != pr)=false:=by simpa using h8
 obtain⟨q,hq⟩:=qf (jf G.n (fun i=>q0J (G.z i)));have HRQ:Hid (r=if q then 2 else 0):=by rw [Hid,hr.out]; exact q1M HF.out (by rw [<-hpr.out]; exact h8) q hq.out
 clear h8;go_wp2_with (go_at_call 95; refine q_o ?_);refine (q2O (HZ.out.ext hE) (fun i=>q0J (G.z i)) (fun i hi w' u e hu=>by rw [hu.out]; exact (q41 w' _).mono fun _ _ h=>h.v)).mono ?_;rintro e w1 ⟨rfl,e1⟩;rw [<-hq.out];replace hE:=hE.trans e1;cases q with
 | true =>
  go_wp2;go_ret;exact⟨qx HRQ.out.symm,hE⟩
 | false =>
  go_wp2;go_ret;exact⟨qx HRQ.out.symm,hE⟩
theorem qW (hN:N<=w.heap.size) (n:Int) (h1 : -9223372036854775808<=n) (h2:n<=9223372036854775807) :
  Calls Tryz.prog 61 #[.int .i64 n] w (yM N w (n:Rat)):=by
 obtain⟨q,hq⟩:=qf (n:Rat);rw [<-hq.out];go_enter Tryz.func61,Tryz.ntmps61;go_wp2_with (go_at_call 114; refine q_o ?_);refine qF ?_;intro W hE hsz B0;refine (f_whole (q_l hN hE.size) n h1 h2).mono ?_;rw [<-hq.out];intro e w1 hh;obtain⟨n3,A3,k3,c3,A4,k4,c4,rfl,hb3,g3,g4,e1⟩:=hh.form;replace hE:=hE.trans e1;replace B0:=e1.block B0;obtain⟨t0,t1,t2,t3,t4,t5,t6,t7⟩:=cells4 B0;go_wp2;exact qM rfl rfl rfl hE B0 (by omega) hN g3 g4 hb3
theorem Xy {v v':Value} {y:Rat} (h:qp N w v x) (h':qp N w v' y) (hz:Sz x) (hz':Sz y) :
  Calls Tryz.prog 103 #[v,v'] w (yM N w (x+y)):=by
 obtain⟨q,hq⟩:=qf (x+y);rw [<-hq.out];have hN:=h.le;have hI:=h;have hI':=h';have HZ:=q_h hz;have HZ':=q_h hz';obtain⟨m1,X1,i1,d1,X2,i2,d2,rfl,hm1,gx1,gx2⟩:=h.parts;obtain⟨m2,Y1,i3,d3,Y2,i4,d4,rfl,hm2,gy1,gy2⟩:=h'.parts;clear hz hz' h h' gx1 gx2 gy1 gy2;go_enter Tryz.func103,Tryz.ntmps103;go_wp2_with (go_at_call 154; refine q_o ?_);refine kV ?_;intro W hE hsz B0 B1 B2;refine (f_add (hI.ext hE) (hI'.ext hE) HZ.out HZ'.out).mono ?_;rw [<-hq.out];intro e w1 hh;obtain⟨n3,A3,k3,c3,A4,k4,c4,rfl,hb3,g3,g4,e1⟩:=hh.form;replace hE:=hE.trans e1;replace B2:=e1.block B2;obtain⟨t0,t1,t2,t3,t4,t5,t6,t7⟩:=cells4 B2;go_wp2;exact qM rfl rfl rfl hE B2 (by omega) hN g3 g4 hb3
theorem yY {v v':Value} {y:Rat} (h:qp N w v x) (h':qp N w v' y) (hz:Sz x) (hz':Sz y) :
  Calls Tryz.prog 101 #[v,v'] w (yM N w (x - y)):=by
 obtain⟨q,hq⟩:=qf (x - y);rw [<-hq.out];have hN:=h.le;have hI:=h;have hI':=h';have HZ:=q_h hz;have HZ':=q_h hz';obtain⟨m1,X1,i1,d1,X2,i2,d2,rfl,hm1,gx1,gx2⟩:=h.parts;obtain⟨m2,Y1,i3,d3,Y2,i4,d4,rfl,hm2,gy1,gy2⟩:=h'.parts;clear hz hz' h h' gx1 gx2 gy1 gy2;go_enter Tryz.func101,Tryz.ntmps101;go_wp2_with (go_at_call 153; refine q_o ?_);refine kV ?_;intro W hE hsz B0 B1 B2;refine (f_sub (hI.ext hE) (hI'.ext hE) HZ.out HZ'.out).mono ?_;rw [<-hq.out];intro e w1 hh;obtain⟨n3,A3,k3,c3,A4,k4,c4,rfl,hb3,g3,g4,e1⟩:=hh.form;replace hE:=hE.trans e1;replace B2:=e1.block B2;obtain⟨t0,t1,t2,t3,t4,t5,t6,t7⟩:=cells4 B2;go_wp2;exact qM rfl rfl rfl hE B2 (by omega) hN g3 g4 hb3
theorem ZW {v v':Value} {y:Rat} (h:qp N w v x) (h':qp N w v' y) (hz:Sz x) (hz':Sz y) :
  Calls Tryz.prog 104 #[v,v'] w (yM N w (x*y)):=by
 obtain⟨q,hq⟩:=qf (x*y);rw [<-hq.out];have hN:=h.le;have hI:=h;have hI':=h';have HZ:=q_h hz;have HZ':=q_h hz';obtain⟨m1,X1,i1,d1,X2,i2,d2,rfl,hm1,gx1,gx2⟩:=h.parts;obtain⟨m2,Y1,i3,d3,Y2,i4,d4,rfl,hm2,gy1,gy2⟩:=h'.parts;clear hz hz' h h' gx1 gx2 gy1 gy2;go_enter Tryz.func104,Tryz.ntmps104;go_wp2_with (go_at_call 155; refine q_o ?_);refine kV ?_;intro W hE hsz B0 B1 B2;refine (f_mul (hI.ext hE) (hI'.ext hE) HZ.out HZ'.out).mono ?_;rw [<-hq.out];intro e w1 hh;obtain⟨n3,A3,k3,c3,A4,k4,c4,rfl,hb3,g3,g4,e1⟩:=hh.form;replace hE:=hE.trans e1;replace B2:=e1.block B2;obtain⟨t0,t1,t2,t3,t4,t5,t6,t7⟩:=cells4 B2;go_wp2;exact qM rfl rfl rfl hE B2 (by omega) hN g3 g4 hb3
theorem QI {v v':Value} {y:Rat} (h:qp N w v x) (h':qp N w v' y) (hz:Sz x) (hz':Sz y) (hy:y≠0) :
  Calls Tryz.prog 100 #[v,v'] w (yM N w (x / y)):=by
 obtain⟨q,hq⟩:=qf (x / y);rw [<-hq.out];have HY:=q_h hy;clear hy;have hN:=h.le;have hI:=h;have hI':=h';have HZ:=q_h hz;have HZ':=q_h hz';obtain⟨m1,X1,i1,d1,X2,i2,d2,rfl,hm1,gx1,gx2⟩:=h.parts;obtain⟨m2,Y1,i3,d3,Y2,i4,d4,rfl,hm2,gy1,gy2⟩:=h'.parts;clear hz hz' h h' gx1 gx2 gy1 gy2;go_enter Tryz.func100,Tryz.ntmps100;go_wp2_with (go_at_call 152; refine q_o ?_);refine kV ?_;intro W hE hsz B0 B1 B2;refine (q1F (hI.ext hE) (hI'.ext hE) HZ.out HZ'.out HY.out).mono ?_;rw [<-hq.out];intro e w1 hh;obtain⟨n3,A3,k3,c3,A4,k4,c4,rfl,hb3,g3,g4,e1⟩:=hh.form;replace hE:=hE.trans e1;replace B2:=e1.block B2;have hsz1:=q_l hsz e1.size;go_upto_region 2 with (fail);refine ql ?_;intro w2 e2 hsz2 BX;replace hE:=hE.trans e2;replace B2:=e2.block B2;obtain⟨s0,s1,s2,s3,-⟩:=cells4 BX;obtain⟨t0,t1,t2,t3,t4,t5,t6,t7⟩:=cells4 B2;go_wp2;exact qM rfl rfl rfl hE B2 (by omega) hN (g3.ext e2) (g4.ext e2) hb3
theorem zA (hN:N<=w.heap.size) (n:Int) (h1 : -9223372036854775808<=n) (h2:n<=9223372036854775807) :
  Calls Tryz.prog 45 #[.int .i64 n] w (yM N w (n:Rat)):=by
 obtain⟨q,hq⟩:=qf (n:Rat);rw [<-hq.out];go_enter Tryz.func45,Tryz.ntmps45;go_wp2_with (go_at_call 31; refine q_o ?_);refine qF ?_;intro W hE hsz B0;refine (Ym (q_l hN hE.size) n h1 h2).mono ?_;rw [<-hq.out];intro e w1 hh;obtain⟨n3,A3,k3,c3,A4,k4,c4,rfl,hb3,g3,g4,e1⟩:=hh.form;replace hE:=hE.trans e1;replace B0:=e1.block B0;obtain⟨t0,t1,t2,t3,t4,t5,t6,t7⟩:=cells4 B0;go_wp2;exact qM rfl rfl rfl hE B0 (by omega) hN g3 g4 hb3
end Go.Proofs.YtphpkhoeplcedaaGreat
namespace Go.Proofs.YtphpkhoeplcedaaGreat
open Go.RowKit Go.Shelf
variable {w w':World} {N n lo hi k g m c b:Nat} {q x:Rat} {z:Int} {R:Raw} {A:Option Addr}
attribute [local go_sem] Oper.semAt_some
theorem q3B {v:Value} (h:qp N w v q) (hz:Sz q) :
  Calls Tryz.prog 151 #[v] w (Qx N w (vK q.num q.den)):=by
 obtain⟨r,hr⟩:=qf (vK q.num q.den);rw [<-hr.out];have hN:=h.le;have hI:=h;obtain⟨n1,A1,k1,c1,A2,k2,c2,rfl,hb1,g1,g2⟩:=h.parts;have HZ:=q_h hz;clear hz h g1 g2;go_enter Tryz.func151,Tryz.ntmps151;go_wp2_with (go_at_call 111; refine q_o ?_);refine kL ?_;intro W hE hsz B0 B1;refine (xh (hI.ext hE) HZ.out).mono ?_;intro e w1 hh;obtain⟨n3,A3,k3,c3,A4,k4,c4,rfl,hb3,g3,g4,e1⟩:=hh.form;replace B0:=e1.block B0;replace B1:=e1.block B1;replace hE:=hE.trans e1;replace hsz:=q_l hsz e1.size;obtain⟨a0,a1,a2,a3,a4,a5,a6,a7⟩:=cells4 B0;go_upto_region 2 with (fail);obtain⟨w2,E2,D0,U⟩:=ex4 B0 (.bool n3) (.slice A3 k3 c3) (.bool false) (.slice A4 k4 c4);rw [E2];have hT0:=NoU.mk B0 (by decide);replace g3:=g3.upd U (by omega) hT0;replace g4:=g4.upd U (by omega) hT0;replace B1:=U.blk B1 (by omega);replace hE:=U.ext hE (q_r);have hs2:=U.size;clear E2 U B0 hT0 a0 a1 a2 a3 a4 a5 a6 a7;obtain⟨a0,a1,a2,a3,-⟩:=cells4 D0;go_wp2_with (go_at_call 198; refine q_o ?_);refine (vC (qK hb3 g3) (qJ g4) (q_l HZ.out.1 (by omega)) (q_l HZ.out.2 (by omega)) (by have:=q.den_pos; omega)).mono ?_;rintro e w5 ⟨v5,v5',rfl,i5,i5',e5⟩;rw [<-hr.out] at i5;obtain⟨b5,A5,k5,c5,rfl,hb5,h5,-⟩:=i5.parts;obtain⟨b5',A5',k5',c5',rfl,-,-,-⟩:=i5'.parts;replace B1:=e5.block B1;replace hE:=hE.trans e5;have hs5:=e5.size;go_upto_region 3 with (fail);refine zT ?_;intro w6 e6 hsz6 C0 C1;replace B1:=e6.block B1
 replace hE:=hE.trans e6;replace h5:=h5.ext e6;obtain⟨p0,p1,-,-⟩:=cells2 C0;obtain⟨q0,q1,q2,q3⟩:=cells2 B1;go_wp2;exact qX rfl rfl rfl hE B1 (by omega) hN h5 hb5 rfl
theorem q3H {F:Fence} {fu:Nat} {P:Program} {f:FuncId} {args:Array Value} {R:Ending->World->Prop} {o0 o1 o2:Obj} (h:∀ w1,Ext w w1->w.heap.size+3<=w1.heap.size->w1.heap[w.heap.size]?=some o0->w1.heap[w.heap.size+1]?=some o1->w1.heap[w.heap.size+1+1]?=some o2->CallsIn F fu P f args w1 R):CallsIn F fu P f args (((w.alloc o0).alloc o1).alloc o2) R:=zK (F:=fun w'=>CallsIn F fu P f args w' R) h
theorem Vo (N:Nat) (w:World) (b:Bool) (A1:Option Addr) (k1 c1:Nat) (z:Int) (h:qU N w (.agg #[.bool b,.slice A1 k1 c1]) z) (hg:Gs N w (.slice A1 k1 c1) (dg z.natAbs)) (hk:k1<=1) (hbz:Hid (b=decide (z < 0))) :
  CallsIn Fence.wide 5 Tryz.prog 150 #[.agg #[.bool b,.slice A1 k1 c1]] w (zG w (.tuple #[.int .i64 z,.bool true])):=by
 have hla:Hid ((dg z.natAbs).length=k1):=by obtain⟨A',n',c',hv,hl',-,-⟩:=hg.form; cases hv; exact hl'
 have hI:=h;refine callsIn_of_wp_marks Tryz.func150 rfl trivial ?_ rfl;simp only [Tryz.ntmps150,List.size_toArray,List.length_cons,List.length_nil,Nat.reduceAdd,Nat.reduceSub,Array.replicate_succ,Array.replicate_zero,List.push_toArray,List.append_toArray,List.nil_append,List.cons_append]
 gi_wp2_with (refine⟨trivial,?_⟩; gi_at_call 159; refine q_o ?_)
 refine q3H ?_;intro W hE hsz B0 B1 B2;refine (callsIn_wide.2 (zQ (hI.ext hE))).mono ?_;rintro e w1 ⟨rfl,e1⟩;replace B0:=e1.block B0;replace B1:=e1.block B1;replace B2:=e1.block B2;replace hsz:=q_l hsz e1.size;replace hE:=hE.trans e1;obtain⟨l,hl⟩:=qf (dg z.natAbs);have HV:Hid (val l=z.natAbs):=by rw [Hid,hl.out,qB]
 have hdl:Dig l:=by rw [hl.out]; exact qE _
 rw [<-hl.out] at hg hla;replace hg:=hg.ext hE;clear e1 hl h hI
 gi_wp2_with (refine⟨trivial,?_⟩; gi_at_call 197; refine (KQ Fence.wide _ trivial rfl _ _ _ _).mono ?_; rintro e w' ⟨rfl,rfl⟩)
 refine zT ?_;intro W2 hE2 hsz2 C0 C1
 refine wpIn_rangeFunc_ownF (F:=Fence.wide) (n:=5) rfl (by decide) (gf:=223) (lb:=#[.pointer (some ⟨w1.heap.size+1,0,none⟩)]) rfl trivial (enters_of Tryz.func223 (by kernel_rfl) rfl)
  (yl Fence.wide 4 trivial rfl (by decide) W2 w1 A1 k1 c1 l hg hE2 (w1.heap.size+1) w1.heap.size (by omega) (by omega) (q_r) (zF C1).1)
  QL (ZZ (by omega) (by omega)) (Below.refl _ _) (fun _=>rfl)
  (fun pre W'=>(W'.cell? ⟨w1.heap.size,0,none⟩=some (.int .u64 ((acc l pre:Nat):Int))/\W'.frozen? ⟨w1.heap.size,0,none⟩=false)/\Below w1.heap.size w1 W')
  (fun _ _ _=>False)
  (OwnFrom.and (Own.from (fun s A B row hs hg hr=>⟨cell_kept hs.1 hg hr,(frozen_kept hs.1 hg hr).trans hs.2⟩) _) (ownFrom_below (q_r) (by omega)))
  (fun _ _ _ _ _ hs _ _=>hs)
  ⟨zF C0,hE2⟩
  (fun j=>{ tmps:=#[.agg #[.bool b,.slice A1 k1 c1],.pointer (some ⟨w.heap.size,0,none⟩),.pointer (some ⟨w.heap.size+1,0,none⟩),.pointer (some ⟨w.heap.size+1+1,0,none⟩),.slice A1 k1 c1,.pointer (some ⟨w1.heap.size,0,none⟩),undef,.int .u32 ((l[j.1]?.getD 0:Nat):Int),
     .agg #[.bool b,.slice A1 k1 c1],.slice A1 k1 c1,.slice A1 k1 c1,.int .i64 k1,.bool (decide (3 < (k1:Int))),.slice A1 k1 c1,.func (.func 223) #[] #[.pointer (some ⟨w1.heap.size+1,0,none⟩)],
     .int .i64 ((j.1:Nat):Int),.int .u32 ((l[j.1]?.getD 0:Nat):Int),undef,undef,undef,undef,undef,undef,undef,undef,undef,undef,undef,undef,undef,undef,undef,undef,undef,undef,undef,undef,undef,undef,undef,undef,undef,undef,undef],defers:=[] }) ?assign ?body ?done ?stop
 case assign =>
  intro l' j W K hK
  dsimp only [Yb]
  obtain⟨z,hz⟩:=qf ((l[j.1]?.getD 0:Nat):Int);obtain⟨k,hk⟩:=qf ((j.1:Nat):Int);rw [<-hz.out,<-hk.out] at hK ⊢
  gi_wp2
  exact hK
 case body =>
  rintro l' pre j W1 ⟨⟨a0,a1⟩,hB⟩ hlt;obtain⟨k,hk'⟩:=qf ((j.1:Nat):Int);obtain⟨za,hza⟩:=qf ((l[j.1]?.getD 0:Nat):Int);have hpl:pre.length=0:=by have:=hla.out; omega
  have hp0:pre=[]:=List.eq_nil_of_length_eq_zero hpl;subst hp0;have HS:Hid (((acc l ([] ++ [j]):Nat):Int)=za):=by rw [Hid,hza.out]; simp [acc]
  have a2:W1.cell? ⟨w1.heap.size,0,none⟩=some (.int .u64 0):=by rw [a0]; rfl
  clear a0;rw [<-hza.out,<-hk'.out];have za0:0<=za:=by rw [hza.out]; omega
  have za1:za < 1000000000:=by have:=hdl.get j.1; unfold bs at this; have:=hza.out; omega
  have d1:decide (0 > (9223372036854775808 - za) / 1000000000)=false:=q_f (by omega)
  gi_wp2
  refine⟨KeepsOthers.setCell _ _ _,⟨(Below.refl w1.heap.size W1).setCell (p:=⟨w1.heap.size,0,none⟩) (q_r) _,Below.heap_setCell _ _ _ _ (by simp)⟩,⟨?_,by rw [World.frozen?_setCell]; exact a1⟩,hB.setCell (p:=⟨w1.heap.size,0,none⟩) (q_r) _⟩;rw [HS.out];exact World.cell?_setCell_same' _ _ _ (by rw [a2]; rfl)
 case done =>
  rintro D ys W1 hD rfl ⟨⟨a0,a1⟩,hB⟩ hK;rw [q0u] at a0;obtain⟨m,hm⟩:=qf ((val l:Nat):Int);rw [<-hm.out] at a0;have m0:0<=m:=by rw [hm.out]; omega
  have m1:m < 1000000000:=by
   have h1:=jy hdl;have h2:bs ^ l.length<=bs ^ 1:=Nat.pow_le_pow_right qO (by have:=hla.out; omega);have:=hm.out;unfold bs at h1 h2;omega
  have HZ:Hid ((z < 0->z = -m)/\(¬ z < 0->z=m)):=by
   have h1:=hm.out;rw [HV.out] at h1;rw [Hid];omega
  have HB:=q_h hbz;replace B0:=(hB.block _ (by omega)).trans B0;replace B1:=(hB.block _ (by omega)).trans B1;replace B2:=(hB.block _ (by omega)).trans B2;obtain⟨p0,p1,-,-⟩:=cells2 B0;obtain⟨q0,q1⟩:=zF B1;obtain⟨r0,r1⟩:=zF B2
  by_cases hz:z < 0
  ·obtain rfl:b=true:=by rw [HB.out]; exact q_t hz
   have hk1:k1=1:=by
    rcases Nat.lt_or_ge 0 k1 with h9 | h9
    ·omega
    ·have h8:l=[]:=List.eq_nil_of_length_eq_zero (by have:=hla.out; omega);have h7:=HV.out;rw [h8] at h7;have h6:val []=0:=rfl;omega
   subst hk1
   have hw1:IntKind.u64.wrap (-m)=18446744073709551616 - m:=by
    have:z = -m:=HZ.out.1 hz;simp [IntKind.wrap,IntKind.bits,IntKind.signed]; omega
   have hw2:IntKind.i64.wrap (18446744073709551616 - m) = -m:=by
    simp [IntKind.wrap,IntKind.bits,IntKind.signed]; omega
   have HM:Hid (-m=z):=(HZ.out.1 hz).symm
   gi_wp2
   have hK':=(KeepsOthers.setCell (W1.setCell ⟨w.heap.size+1,0,none⟩ (.int .i64 (-m))) ⟨w.heap.size+1+1,0,none⟩ (.bool true)).same D _ ((KeepsOthers.setCell W1 ⟨w.heap.size+1,0,none⟩ (.int .i64 (-m))).same D _ hK rfl) rfl;have x1:=World.cell?_setCell_same' W1 ⟨w.heap.size+1,0,none⟩ (.int .i64 (-m)) (by rw [q0]; rfl);have x2:=cell_far (g:=w.heap.size+1+1) (i:=0) (.bool true) x1 (by simp);have x3:=World.cell?_setCell_same' (W1.setCell ⟨w.heap.size+1,0,none⟩ (.int .i64 (-m))) ⟨w.heap.size+1+1,0,none⟩ (.bool true) (by rw [cell_far _ r0 (by simp)]; rfl);have hc5:=cell_kept x2 (grownBy_putObj' _ D (.deferred none)) (fun r e=>by cases e; exact⟨_,hK',rfl⟩);have hc6:=cell_kept x3 (grownBy_putObj' _ D (.deferred none)) (fun r e=>by cases e; exact⟨_,hK',rfl⟩);refine⟨by simp,.inl ⟨_,_,rfl,run_takeDeferred hK',?_⟩⟩;refine⟨.tuple #[.int .i64 (-m),.bool true],?_,by rw [HM.out],(((hE.trans hB).below.setCell (p:=⟨w.heap.size+1,0,none⟩) (by simp) _).setCell (p:=⟨w.heap.size+1+1,0,none⟩) (by simp; omega) _).trans (belowK_b (w:=w) (q_r) _ D _ _ (by omega) hK' rfl rfl)⟩;simp [results,Tryz.results150,go_sem,hc5,hc6]
  ·obtain rfl:b=false:=by rw [HB.out]; exact q_f hz
   have HM:Hid (m=z):=(HZ.out.2 hz).symm;have hw1:(m == 9223372036854775808)=false:=by rw [beq_eq_false_iff_ne]; omega
   have hw2:IntKind.i64.wrap m=m:=IntWalk.i64_in _ (by omega);clear HB
   rcases Nat.eq_zero_or_pos k1 with h9 | h9
   ·subst h9
    gi_wp2
    have hK':=(KeepsOthers.setCell (W1.setCell ⟨w.heap.size+1,0,none⟩ (.int .i64 (m))) ⟨w.heap.size+1+1,0,none⟩ (.bool true)).same D _ ((KeepsOthers.setCell W1 ⟨w.heap.size+1,0,none⟩ (.int .i64 (m))).same D _ hK rfl) rfl;have x1:=World.cell?_setCell_same' W1 ⟨w.heap.size+1,0,none⟩ (.int .i64 (m)) (by rw [q0]; rfl);have x2:=cell_far (g:=w.heap.size+1+1) (i:=0) (.bool true) x1 (by simp);have x3:=World.cell?_setCell_same' (W1.setCell ⟨w.heap.size+1,0,none⟩ (.int .i64 (m))) ⟨w.heap.size+1+1,0,none⟩ (.bool true) (by rw [cell_far _ r0 (by simp)]; rfl);have hc5:=cell_kept x2 (grownBy_putObj' _ D (.deferred none)) (fun r e=>by cases e; exact⟨_,hK',rfl⟩);have hc6:=cell_kept x3 (grownBy_putObj' _ D (.deferred none)) (fun r e=>by cases e; exact⟨_,hK',rfl⟩);refine⟨by simp,.inl ⟨_,_,rfl,run_takeDeferred hK',?_⟩⟩;refine⟨.tuple #[.int .i64 (m),.bool true],?_,by rw [HM.out],(((hE.trans hB).below.setCell (p:=⟨w.heap.size+1,0,none⟩) (by simp) _).setCell (p:=⟨w.heap.size+1+1,0,none⟩) (by simp; omega) _).trans (belowK_b (w:=w) (q_r) _ D _ _ (by omega) hK' rfl rfl)⟩;simp [results,Tryz.results150,go_sem,hc5,hc6]
   ·obtain rfl:k1=1:=by omega
    gi_wp2
    have hK':=(KeepsOthers.setCell (W1.setCell ⟨w.heap.size+1,0,none⟩ (.int .i64 (m))) ⟨w.heap.size+1+1,0,none⟩ (.bool true)).same D _ ((KeepsOthers.setCell W1 ⟨w.heap.size+1,0,none⟩ (.int .i64 (m))).same D _ hK rfl) rfl;have x1:=World.cell?_setCell_same' W1 ⟨w.heap.size+1,0,none⟩ (.int .i64 (m)) (by rw [q0]; rfl);have x2:=cell_far (g:=w.heap.size+1+1) (i:=0) (.bool true) x1 (by simp);have x3:=World.cell?_setCell_same' (W1.setCell ⟨w.heap.size+1,0,none⟩ (.int .i64 (m))) ⟨w.heap.size+1+1,0,none⟩ (.bool true) (by rw [cell_far _ r0 (by simp)]; rfl);have hc5:=cell_kept x2 (grownBy_putObj' _ D (.deferred none)) (fun r e=>by cases e; exact⟨_,hK',rfl⟩);have hc6:=cell_kept x3 (grownBy_putObj' _ D (.deferred none)) (fun r e=>by cases e; exact⟨_,hK',rfl⟩);refine⟨by simp,.inl ⟨_,_,rfl,run_takeDeferred hK',?_⟩⟩;refine⟨.tuple #[.int .i64 (m),.bool true],?_,by rw [HM.out],(((hE.trans hB).below.setCell (p:=⟨w.heap.size+1,0,none⟩) (by simp) _).setCell (p:=⟨w.heap.size+1+1,0,none⟩) (by simp; omega) _).trans (belowK_b (w:=w) (q_r) _ D _ _ (by omega) hK' rfl rfl)⟩;simp [results,Tryz.results150,go_sem,hc5,hc6]
 case stop =>
  rintro D c pre W1 _ _ h _;exact h.elim
theorem q3n {v:Value} (h:qU N w v z) (hz:z.natAbs < 1000000000) :
  Calls Tryz.prog 150 #[v] w (zG w (.tuple #[.int .i64 z,.bool true])):=by
 obtain⟨b,A,k,c,rfl,hb,hg,-⟩:=h.parts;obtain⟨A',k',c',hv,hl,-,-⟩:=hg.form;cases hv
 refine (callsIn_wide (n:=5)).1 (Vo N w b A k c z h hg ?_ hb);rw [<-hl.out];exact qG (by unfold bs; simpa using hz)
end Go.Proofs.YtphpkhoeplcedaaGreat
namespace Go.Proofs.YtphpkhoeplcedaaGreat
open Go.RowKit
variable {w w':World} {N n lo hi k g m c b:Nat} {q x:Rat} {z:Int} {R:Raw} {A:Option Addr}
theorem KW.more {h:Nat} {β κ:Nat->Nat} {A:Nat->Nat->Rat} (o:KW N lo hi w h k m n β κ A) (hm:m < k) {cap:Nat} {x:Nat->Rat} (hc:w.cell? ⟨h,m,none⟩=some (.slice (some ⟨b,0,none⟩) n cap)) (hr:xG N w b cap n x) (hb:hi<=b) (hcm:cap<=maxLen) :
  KW N lo w.heap.size w h k (m+1) n (fun i=>if i=m then b else β i) (fun i=>if i=m then cap else κ i) (q0N A m x):=by
 obtain⟨hs,h1,h2,h3⟩:=o.hh;have hlt:=hr.lt;have hlo:=o.hlo;have hhi:=o.hhi;have his:=o.his;refine⟨o.le,⟨hs,h1,h2,fun i hi'=>?_⟩,by omega,hlo,by omega,q_r,fun i hi'=>?_,fun i hi'=>?_,fun i hi'=>?_,fun i hi'=>?_,fun i j hi' hj' hij=>?_⟩
 ·by_cases e:i=m
  ·subst e; rw [qg h1] at hc; rw [hc]; simp
  ·rw [h3 i (by omega)]; simp [e]
 ·by_cases e:i=m
  ·simp only [e,if_true]; omega
  ·simp only [e,if_false]; exact o.lo_ i (by omega)
 ·by_cases e:i=m
  ·simp only [e,if_true]; exact hlt
  ·simp only [e,if_false]; have:=o.hi_ i (by omega); omega
 ·by_cases e:i=m
  ·simp only [e,if_true]; exact hcm
  ·simp only [e,if_false]; exact o.cap i (by omega)
 ·by_cases e:i=m
  ·simp only [e,if_true]; rw [yP]; exact hr
  ·simp only [e,if_false]; rw [Jj A x e]; exact o.row i (by omega)
 ·by_cases e:i=m
  ·have e2:j≠m:=by omega
   simp only [e,e2,if_true,if_false]; have:=o.hi_ j (by omega); omega
  ·by_cases e2:j=m
   ·simp only [e,e2,if_true,if_false]; have:=o.hi_ i (by omega); omega
   ·simp only [e,e2,if_false]; exact o.inj i j (by omega) (by omega) hij
def Qc (R:Raw):Bool:=decide (R.l1.length<=1) && decide (R.l2.length<=1) && decide (R.l1[0]?.getD 0 < 100000) && decide (R.l2[0]?.getD 0<=100)
theorem q19 {v:Value} (h:xy N w v R) :
  Calls Tryz.prog 48 #[v] w (zG w (.bool (Qc R))):=by
 obtain⟨r,hr⟩:=qf (Qc R);rw [<-hr.out];obtain⟨A1,n1,c1,A2,n2,c2,rfl,g1,g2⟩:=h.parts;obtain⟨_,_,_,e1,h1,hc1,hm1⟩:=g1.form;injection e1 with e1 e1' e1''
 subst e1 e1' e1'';obtain⟨_,_,_,e2,h2,hc2,hm2⟩:=g2.form;injection e2 with e2 e2' e2''
 subst e2 e2' e2'';obtain⟨b1,l1,b2,l2⟩:=R
 dsimp only at g1 g2 h1 h2 ⊢
 have HR:Hid (r=(decide (n1<=1) && decide (n2<=1) && decide (l1[0]?.getD 0 < 100000) && decide (l2[0]?.getD 0<=100))):=by
  rw [Hid,hr.out,<-h1.out,<-h2.out]; rfl
 have L1:Hid (n1=0->l1=[]):=fun e=>List.eq_nil_of_length_eq_zero (by rw [h1.out]; exact e)
 have L2:Hid (n2=0->l2=[]):=fun e=>List.eq_nil_of_length_eq_zero (by rw [h2.out]; exact e)
 clear hr h;go_enter Tryz.func48,Tryz.ntmps48;go_upto_region 1 with (fail);refine ql ?_;intro W hE hsz B0;obtain⟨a0,a1,a2,a3,-⟩:=cells4 B0;have eC:=(Ext.refl W).drew;refine yG (fun w'=>w'.cell? ⟨w.heap.size,0,none⟩=some (.bool b1)/\w'.cell? ⟨w.heap.size,1,none⟩=some (.slice A1 n1 c1)/\w'.cell? ⟨w.heap.size,2,none⟩=some (.bool b2)/\w'.cell? ⟨w.heap.size,3,none⟩=some (.slice A2 n2 c2)) [] (by kernel_rfl) (by exact⟨eC.cell a0,eC.cell a1,eC.cell a2,eC.cell a3⟩) (fun hHeld=>?_);refine sP 0 (h:=?_);try simp only [nr]
 refine sP 1 (h:=?_);try simp only [nr]
 refine sT 2 (h:=?_);try simp only [nr]
 refine sP 3 (h:=?_);try simp only [nr]
 refine sP 4 (h:=?_);try simp only [nr]
 refine sT 5 (h:=?_);try simp only [nr]
 refine sP 6 (h:=?_);try simp only [nr]
 refine sP 7 (h:=?_);try simp only [nr]
 refine qi (by kernel_rfl) ?_ _;clear hHeld;replace hE:=hE.trans eC;replace g1:=g1.ext hE;replace g2:=g2.ext hE;clear a0 a1 a2 a3 B0 eC
 by_cases hn1:n1<=1
 ·by_cases hn2:n2<=1
  ·have HR2:Hid (r=(decide (l1[0]?.getD 0 < 100000) && decide (l2[0]?.getD 0<=100))):=by rw [Hid,HR.out,q_t hn1,q_t hn2]; rfl
   clear HR
   rcases Nat.eq_zero_or_pos n1 with h0 | h0
   ·obtain⟨x,hx⟩:=qf (decide (l1[0]?.getD 0 < 100000));have hx1:x=true:=by rw [hx.out,L1.out h0]; rfl
    rw [<-hx.out,hx1] at HR2;subst h0
    rcases Nat.eq_zero_or_pos n2 with h4 | h4
    ·have HF:Hid (r=true):=by rw [Hid,HR2.out,L2.out h4]; rfl
     subst h4;go_wp2;go_ret;exact⟨qo HF.out.symm,hE⟩
    ·obtain rfl:n2=1:=by omega
     obtain⟨b,off,z,rfl,-,p0,hz0,hz1,HZ⟩:=g2.at_ (k:=0) (by omega);rw [Nat.add_zero] at p0
     by_cases hz:z<=100
     ·have HF:Hid (r=true):=by rw [Hid,HR2.out]; simp only [Bool.true_and,decide_eq_true_eq]; have:=HZ.out; omega
      go_wp2;go_ret;exact⟨qo HF.out.symm,hE⟩
     ·have HF:Hid (r=false):=by rw [Hid,HR2.out]; simp only [Bool.true_and,decide_eq_false_iff_not]; have:=HZ.out; omega
      go_wp2;go_ret;exact⟨qo HF.out.symm,hE⟩
   ·obtain rfl:n1=1:=by omega
    obtain⟨b,off,z,rfl,-,p0,hz0,hz1,HZ⟩:=g1.at_ (k:=0) (by omega);rw [Nat.add_zero] at p0
    by_cases hz:z < 100000
    ·have HR3:Hid (r=decide (l2[0]?.getD 0<=100)):=by
      rw [Hid,HR2.out,show decide (l1[0]?.getD 0 < 100000)=true by simp only [decide_eq_true_eq]; have:=HZ.out; omega]; rfl
     rcases Nat.eq_zero_or_pos n2 with h4 | h4
     ·have HF:Hid (r=true):=by rw [Hid,HR3.out,L2.out h4]; rfl
      subst h4;go_wp2;go_ret;exact⟨qo HF.out.symm,hE⟩
     ·obtain rfl:n2=1:=by omega
      obtain⟨b',off',z',rfl,-,q0,hz0',hz1',HZ'⟩:=g2.at_ (k:=0) (by omega);rw [Nat.add_zero] at q0
      by_cases hz':z'<=100
      ·have HF:Hid (r=true):=by rw [Hid,HR3.out]; simp only [decide_eq_true_eq]; have:=HZ'.out; omega
       go_wp2;go_ret;exact⟨qo HF.out.symm,hE⟩
      ·have HF:Hid (r=false):=by rw [Hid,HR3.out]; simp only [decide_eq_false_iff_not]; have:=HZ'.out; omega
       go_wp2;go_ret;exact⟨qo HF.out.symm,hE⟩
    ·have HF:Hid (r=false):=by
      rw [Hid,HR2.out,show decide (l1[0]?.getD 0 < 100000)=false by simp only [decide_eq_false_iff_not]; have:=HZ.out; omega]; rfl
     go_wp2;go_ret;exact⟨qo HF.out.symm,hE⟩
  ·have HF:Hid (r=false):=by rw [Hid,HR.out,q_f hn2]; simp
   go_wp2;go_ret;exact⟨qo HF.out.symm,hE⟩
 ·have HF:Hid (r=false):=by rw [Hid,HR.out,q_f hn1]; simp
  go_wp2;go_ret;exact⟨qo HF.out.symm,hE⟩
theorem X4 (g:Nat):∀ (vs:List Value) (o:Nat) (w w':World),Upd g w w'->Upd g w (w'.setCells g o vs)
 | [],_,_,_,h=>h
 | v :: r,o,w,w',h=>X4 g r (o+1) w _ (h.set o v)
theorem XV (g:Nat) (t:TypeId) (fr:Nat×Nat):∀ (vs:List Value) (o:Nat) (cs:Array Value) (w:World),w.heap[g]?=some (.cells cs t fr)->∃ cs',(w.setCells g o vs).heap[g]?=some (.cells cs' t fr)/\cs'.size=cs.size
 | [],_,cs,_,h=>⟨cs,h,rfl⟩
 | v :: r,o,cs,w,h=>by
  obtain⟨cs',h1,h2⟩:=XV g t fr r (o+1) _ (w.setCell ⟨g,o,none⟩ v) (heap_set h o v);exact⟨cs',h1,by rw [h2]; simp⟩
theorem KR (b o j:Nat):(⟨b,o,none⟩:Addr).add j=⟨b,o+j,none⟩:=by unfold Addr.add; split <;> simp_all
end Go.Proofs.YtphpkhoeplcedaaGreat
