import Derived.Test.YtphpkhoeplcedaaGreatWb12
import Derived.Shelf.Bits.Mul64
import Derived.Laws.IdiomCopy
set_option linter.all false
set_option maxHeartbeats 8000000
set_option maxRecDepth 100000
namespace Go.Proofs.YtphpkhoeplcedaaGreat
open Go.RowKit
variable {w w':World} {N n lo hi k g m base c b:Nat} {x:Rat} {z:Int} {s:Value} {R:Raw}
structure Grd where
 x0:Int
 y0:Int
 st:Int
 wd:Int
 ht:Int
 n:Nat
 z:Nat->Int
def zK:Int:=-2147483648
def zB (n:Int):Bool:=decide (n < -1048576) || decide (1048576 < n)
def je (n:Int):Bool:=decide (2<=n) && decide (n<=64)
def Jf (n:Int):Bool:=decide (n≠zK) && zB n
def KW (G:Grd):Bool:=je G.wd && je G.ht && decide (2<=G.st) && decide (G.st<=65536) && decide (G.st % 2=0) && !zB G.x0 && !zB G.y0
def zh (G:Grd):Int:=if KW G=false then 2 else if (G.n:Int)≠G.wd*G.ht then 4 else if jw G.n (fun i=>Jf (G.z i)) then 2 else 0
def yg (N lo hi:Nat) (w:World) (v:Value) (G:Grd):Prop :=
 ∃ vz,v=.agg #[.int .i64 G.x0,.int .i64 G.y0,.int .i64 G.st,.int .i64 G.wd,.int .i64 G.ht,vz]/\IzV N lo hi w vz G.n G.z
theorem yg.ext {v:Value} {G:Grd} (h:yg N lo hi w v G) (e:Ext w w'):yg N lo hi w' v G:=by
 obtain⟨vz,rfl,hz⟩:=h;exact⟨vz,rfl,hz.ext e⟩
theorem yg.parts {v:Value} {G:Grd} (h:yg N lo hi w v G):∃ A c,v=.agg #[.int .i64 G.x0,.int .i64 G.y0,.int .i64 G.st,.int .i64 G.wd,.int .i64 G.ht,.slice A G.n c]/\G.n<=c/\c<=maxLen/\IzV N lo hi w (.slice A G.n c) G.n G.z:=by
 obtain⟨vz,rfl,hz⟩:=h;obtain⟨A,c,rfl,h1,h2⟩:=hz.form;exact⟨A,c,rfl,h1,h2,hz⟩
theorem qG {t:TypeId} {x0 x1 x2 x3 x4 x5:Value} (h:w.heap[g]?=some (.cells #[x0,x1,x2,x3,x4,x5] t (0,0))):w.cell? ⟨g,0,none⟩=some x0/\w.cell? ⟨g,1,none⟩=some x1/\w.cell? ⟨g,2,none⟩=some x2/\w.cell? ⟨g,3,none⟩=some x3/\w.cell? ⟨g,4,none⟩=some x4/\w.cell? ⟨g,5,none⟩=some x5:=by
 refine⟨?_,?_,?_,?_,?_,?_⟩ <;> exact qh h _
def q3s (w:World) (v:Value) (e:Ending) (w':World):Prop:=e=.returned v/\w'=w
theorem q3s.v {v:Value} {e:Ending} (h:q3s w v e w'):zX w v e w':=⟨h.1,by rw [h.2]; exact Ext.refl w⟩
theorem Ws (w:World) (z:Int):Calls Tryz.prog 94 #[.int .i64 z] w (q3s w (.bool (zB z))):=by
 by_cases h0:z < -1048576
 ·have HR:Hid (true=zB z):=by rw [Hid]; unfold zB; rw [q_t h0]; rfl
  go_enter Tryz.func94,Tryz.ntmps94;go_wp2;go_ret;exact⟨qw HR.out,rfl⟩
 ·by_cases h1:1048576 < z
  ·have HR:Hid (true=zB z):=by rw [Hid]; unfold zB; rw [q_t h1,Bool.or_true]
   go_enter Tryz.func94,Tryz.ntmps94;go_wp2;go_ret;exact⟨qw HR.out,rfl⟩
  ·have HR:Hid (false=zB z):=by rw [Hid]; unfold zB; rw [q_f h0,q_f h1]; rfl
   go_enter Tryz.func94,Tryz.ntmps94;go_wp2;go_ret;exact⟨qw HR.out,rfl⟩
theorem Wq (w:World) (z:Int):Calls Tryz.prog 93 #[.int .i64 z] w (q3s w (.bool (je z))):=by
 by_cases h0:2<=z
 ·by_cases h1:z<=64
  ·have HR:Hid (true=je z):=by rw [Hid]; unfold je; rw [q_t h0,q_t h1]; rfl
   go_enter Tryz.func93,Tryz.ntmps93;go_wp2;go_ret;exact⟨qw HR.out,rfl⟩
  ·have HR:Hid (false=je z):=by rw [Hid]; unfold je; rw [q_f h1,Bool.and_false]
   go_enter Tryz.func93,Tryz.ntmps93;go_wp2;go_ret;exact⟨qw HR.out,rfl⟩
 ·have HR:Hid (false=je z):=by rw [Hid]; unfold je; rw [q_f h0]; rfl
  go_enter Tryz.func93,Tryz.ntmps93;go_wp2;go_ret;exact⟨qw HR.out,rfl⟩
theorem q4D (w:World) (z:Int):Calls Tryz.prog 96 #[.int .i64 z] w (q3s w (.bool (Jf z))):=by
 by_cases h0:z = -2147483648
 ·have HR:Hid (false=Jf z):=by rw [Hid,h0]; rfl
  subst h0;go_enter Tryz.func96,Tryz.ntmps96;go_wp2;go_ret;exact⟨qw HR.out,rfl⟩
 ·have HR:Hid (zB z=Jf z):=by rw [Hid]; unfold Jf; rw [q_t (show z≠zK from h0)]; rfl
  have t0:(z != -2147483648)=true:=by simpa using h0
  obtain⟨r,hr⟩:=qf (zB z);rw [<-hr.out] at HR;go_enter Tryz.func96,Tryz.ntmps96;go_wp2_with (go_at_call 94; refine q_o ?_);refine (Ws w z).mono ?_;rintro e w1 ⟨rfl,rfl⟩;rw [<-hr.out];go_wp2;go_ret;exact⟨qw HR.out,rfl⟩
theorem JQ (w:World) (z:Int):Calls Tryz.prog 120 #[.int .i64 z,.int .i64 1048576] w (q3s w (.bool (zB z))):=by
 by_cases h0:z < -1048576
 ·have HR:Hid (true=zB z):=by rw [Hid]; unfold zB; rw [q_t h0]; rfl
  go_enter Tryz.func120,Tryz.ntmps120;go_wp2;go_ret;exact⟨qw HR.out,rfl⟩
 ·by_cases h1:1048576 < z
  ·have HR:Hid (true=zB z):=by rw [Hid]; unfold zB; rw [q_t h1,Bool.or_true]
   go_enter Tryz.func120,Tryz.ntmps120;go_wp2;go_ret;exact⟨qw HR.out,rfl⟩
  ·have HR:Hid (false=zB z):=by rw [Hid]; unfold zB; rw [q_f h0,q_f h1]; rfl
   go_enter Tryz.func120,Tryz.ntmps120;go_wp2;go_ret;exact⟨qw HR.out,rfl⟩
theorem q1A {v:Value} {z:Nat->Int} (h:IzV N lo hi w v n z)  (g:Nat->Bool)
  (hf:∀ i,i < n->∀ w' u,Ext w w'->IsI u (z i)->Calls Tryz.prog 96 #[u] w' (zX w' (.bool (g i)))) :
  Calls Tryz.prog 146 #[v,.func (.func 96) #[] #[]] w (Vk w (jw n g)):=by
 obtain⟨r,hr⟩:=qf (jw n g);rw [<-hr.out];obtain⟨A,c,rfl,hnc,hcm⟩:=h.form;unfold maxLen at hcm;have hI:=h;have HF:=q_h hf;clear h hf;go_enter Tryz.func146,Tryz.ntmps146;go_wp2
 go_loopw [8] (fun i wr=>∃ k:Nat,k<=n/\i=.int .i64 k/\Hid (∀ j,j < k->g j=false)/\Ext w wr) (fun i _=>n - (intOf i).toNat)
 case atStart=>exact⟨0,Nat.zero_le _,rfl,fun j hj=>absurd hj (by omega),Ext.refl w⟩
 case round =>
  obtain⟨k,hk,rfl,HA,hE⟩:=hrel
  by_cases hlt:k < n
  ·(obtain⟨b,off,rfl,hx⟩:=(hI.ext hE).addr (by omega)); (have p0:=hx k hlt); (have hv:IsI (Value.int .i64 (z k)) (z k):=rfl)
   clear hx;go_wp2_with (go_at_call 96; refine q_o ?_);refine (HF.out k hlt _ _ hE hv).mono ?_;rintro e w1 ⟨rfl,e1⟩;replace hE:=hE.trans e1;obtain⟨o,ho⟩:=qf (g k);rw [<-ho.out];cases o with
   | false =>
    go_wp2;go_roundw
    case rel=>exact⟨k+1,by omega,by go_num,xu (p:=fun j=>g j=false) HA.out ho.out.symm,hE⟩
    case measure=>simp [intOf]; omega
   | true =>
    have HT:Hid (r=true):=by rw [Hid,hr.out]; exact jr hlt ho.out.symm
    go_wp2;go_ret;exact⟨_,rfl,by rw [Hid,HT.out]; symm; simp,hE⟩
  ·have HT:Hid (r=false):=by rw [Hid,hr.out]; exact kM.2 (fun j hj=>HA.out j (by omega))
   go_wp2;go_ret;exact⟨_,rfl,by rw [Hid,HT.out]; rfl,hE⟩
theorem q3F {v:Value} {z:Nat->Int} (h:IzV N lo hi w v n z)  (g:Nat->Bool)
  (hf:∀ i,i < n->∀ w' u,Ext w w'->IsI u (z i)->Calls Tryz.prog 96 #[u] w' (zX w' (.bool (g i)))) :
  Calls Tryz.prog 95 #[v,.func (.func 96) #[] #[]] w (zX w (.bool (jw n g))):=by
 obtain⟨r,hr⟩:=qf (jw n g);rw [<-hr.out];obtain⟨A,c,rfl,hnc,hcm⟩:=h.form;have hI:=h;have HF:=q_h hf;clear h hf;go_enter Tryz.func95,Tryz.ntmps95;go_wp2_with (go_at_call 146; refine q_o ?_);refine (q1A hI  g HF.out).mono ?_;rintro e w1 ⟨z,rfl,hz,e1⟩;rw [<-hr.out] at hz;go_wp2;go_ret;exact⟨qw hz.out.symm,e1⟩
theorem q0x {G:Grd} (h:je G.wd=false):KW G=false:=by unfold KW; rw [h]; rfl
theorem q0y {G:Grd} (h:je G.ht=false):KW G=false:=by unfold KW; rw [h]; simp
theorem Zy {G:Grd} (h:¬(2<=G.st/\G.st<=65536/\G.st % 2=0)):KW G=false:=by
 cases hb:KW G with
 | false=>rfl
 | true =>
  unfold KW at hb;simp only [Bool.and_eq_true,decide_eq_true_eq] at hb;exact absurd ⟨hb.1.1.1.1.2,hb.1.1.1.2,hb.1.1.2⟩ h
theorem q3g {G:Grd} (h:zB G.x0=true):KW G=false:=by unfold KW; rw [h]; simp
theorem q3f {G:Grd} (h:zB G.y0=true):KW G=false:=by unfold KW; rw [h]; simp
theorem q0A {G:Grd} (h1:je G.wd=true) (h2:je G.ht=true) (h3:2<=G.st) (h4:G.st<=65536) (h5:G.st % 2=0) (h6:zB G.x0=false) (h7:zB G.y0=false):KW G=true:=by
 unfold KW;rw [h1,h2,h6,h7,q_t h3,q_t h4,q_t h5]
 rfl
theorem zH {G:Grd} (h:KW G=false):zh G=2:=by unfold zh; rw [if_pos h]
theorem ZT (h:je z=true):2<=z/\z<=64:=by
 unfold je at h;simp only [Bool.and_eq_true,decide_eq_true_eq] at h;exact h
theorem V8 {G:Grd} (h:KW G=true) (h':(G.n:Int)≠G.wd*G.ht):zh G=4:=by unfold zh; rw [if_neg (by rw [h]; decide),if_pos h']
theorem V9 {G:Grd} (h:KW G=true) (h':(G.n:Int)=G.wd*G.ht) (r:Bool) (hr:r=jw G.n (fun i=>Jf (G.z i))):zh G=if r then 2 else 0:=by unfold zh; rw [if_neg (by rw [h]; decide),if_neg (by simpa using h'),hr]
theorem Ym {v:Value} {G:Grd} (h:yg N lo hi w v G) :
  Calls Tryz.prog 49 #[v] w (zX w (.int .i64 (zh G))):=by
 obtain⟨A,c,rfl,hnc,hcm,hz⟩:=h.parts;obtain⟨r,hr⟩:=qf (zh G);rw [<-hr.out];have HZ:=q_h hz;clear h hz;go_enter Tryz.func49,Tryz.ntmps49;go_upto_region 1 with (fail);refine ql ?_;intro W hE hsz B0;obtain⟨a0,a1,a2,a3,a4,a5⟩:=qG B0;go_wp2_with (go_at_call 93; refine q_o ?_);refine (Wq W G.wd).mono ?_;rintro e w1 ⟨rfl,rfl⟩;cases h1:je G.wd with
 | false =>
  have HR:Hid (r=2):=by rw [Hid,hr.out]; exact zH (q0x h1)
  go_wp2;go_ret;exact⟨qA HR.out.symm,hE⟩
 | true =>
 go_wp2_with (go_at_call 93; refine q_o ?_);refine (Wq _ G.ht).mono ?_;rintro e w1 ⟨rfl,rfl⟩;cases h2:je G.ht with
 | false =>
  have HR:Hid (r=2):=by rw [Hid,hr.out]; exact zH (q0y h2)
  go_wp2;go_ret;exact⟨qA HR.out.symm,hE⟩
 | true =>
 by_cases h3:2<=G.st
 case neg =>
  have t3:decide (G.st < 2)=true:=q_t (by omega);have HR:Hid (r=2):=by rw [Hid,hr.out]; exact zH (Zy (fun h=>h3 h.1))
  go_wp2;go_ret;exact⟨qA HR.out.symm,hE⟩
 have t3:decide (G.st < 2)=false:=q_f (by omega)
 by_cases h4:G.st<=65536
 case neg =>
  have t4:decide (65536 < G.st)=true:=q_t (by omega);have HR:Hid (r=2):=by rw [Hid,hr.out]; exact zH (Zy (fun h=>h4 h.2.1))
  go_wp2;go_ret;exact⟨qA HR.out.symm,hE⟩
 have t4:decide (65536 < G.st)=false:=q_f (by omega)
 by_cases h5:G.st % 2=0
 case neg =>
  have t5:(G.st % 2 != 0)=true:=by simpa using h5
  have HR:Hid (r=2):=by rw [Hid,hr.out]; exact zH (Zy (fun h=>h5 h.2.2))
  go_wp2;go_ret;exact⟨qA HR.out.symm,hE⟩
 have t5:(G.st % 2 != 0)=false:=by simpa using h5
 go_wp2_with (go_at_call 94; refine q_o ?_);refine (Ws _ G.x0).mono ?_;rintro e w1 ⟨rfl,rfl⟩;cases h6:zB G.x0 with
 | true =>
  have HR:Hid (r=2):=by rw [Hid,hr.out]; exact zH (q3g h6)
  go_wp2;go_ret;exact⟨qA HR.out.symm,hE⟩
 | false =>
 go_wp2_with (go_at_call 94; refine q_o ?_);refine (Ws _ G.y0).mono ?_;rintro e w1 ⟨rfl,rfl⟩;cases h7:zB G.y0 with
 | true =>
  have HR:Hid (r=2):=by rw [Hid,hr.out]; exact zH (q3f h7)
  go_wp2;go_ret;exact⟨qA HR.out.symm,hE⟩
 | false =>
 have HF:=q_h (q0A h1 h2 h3 h4 h5 h6 h7);have s1:=ZT h1;have s2:=ZT h2;obtain⟨pr,hpr⟩:=qf (G.wd*G.ht);have hp0:0<=G.wd*G.ht:=Int.mul_nonneg (by omega) (by omega);have hp1:G.wd*G.ht<=64*64:=Int.mul_le_mul s1.2 s2.2 (by omega) (by omega);have hwr:IntKind.i64.wrap (G.wd*G.ht)=pr:=by rw [hpr.out]; exact IntWalk.i64_in _ (by omega)
 by_cases h8:(G.n:Int)=pr
 case neg =>
  have HR:Hid (r=4):=by rw [Hid,hr.out]; exact V8 HF.out (by rw [<-hpr.out]; exact h8)
  have t8:((G.n:Int) != pr)=true:=by simpa using h8
  clear h8;go_wp2;go_ret;exact⟨qA HR.out.symm,hE⟩
 have t8:((G.n:Int) != pr)=false:=by simpa using h8
 obtain⟨q,hq⟩:=qf (jw G.n (fun i=>Jf (G.z i)));have HRQ:Hid (r=if q then 2 else 0):=by rw [Hid,hr.out]; exact V9 HF.out (by rw [<-hpr.out]; exact h8) q hq.out
 clear h8;go_wp2_with (go_at_call 95; refine q_o ?_);refine (q3F (HZ.out.ext hE) (fun i=>Jf (G.z i)) (fun i hi w' u e hu=>by rw [hu.out]; exact (q4D w' _).mono fun _ _ h=>h.v)).mono ?_;rintro e w1 ⟨rfl,e1⟩;rw [<-hq.out];replace hE:=hE.trans e1;cases q with
 | true =>
  go_wp2;go_ret;exact⟨qA HRQ.out.symm,hE⟩
 | false =>
  go_wp2;go_ret;exact⟨qA HRQ.out.symm,hE⟩
theorem qQ (hN:N<=w.heap.size) (n:Int) (h1 : -9223372036854775808<=n) (h2:n<=9223372036854775807) :
  Calls Tryz.prog 61 #[.int .i64 n] w (yJ N w (n:Rat)):=by
 obtain⟨q,hq⟩:=qf (n:Rat);rw [<-hq.out];go_enter Tryz.func61,Tryz.ntmps61;go_wp2_with (go_at_call 114; refine q_o ?_);refine qM ?_;intro W hE hsz B0;refine (f_whole (q_l hN hE.size) n h1 h2).mono ?_;rw [<-hq.out];intro e w1 hh;obtain⟨n3,A3,k3,c3,A4,k4,c4,rfl,hb3,g3,g4,e1⟩:=hh.form;replace hE:=hE.trans e1;replace B0:=e1.block B0;obtain⟨t0,t1,t2,t3,t4,t5,t6,t7⟩:=cells4 B0;go_wp2;exact qO rfl rfl rfl hE B0 (by omega) hN g3 g4 hb3
theorem XD {v v':Value} {y:Rat} (h:qm N w v x) (h':qm N w v' y) (hz:Sz x) (hz':Sz y) :
  Calls Tryz.prog 103 #[v,v'] w (yJ N w (x+y)):=by
 obtain⟨q,hq⟩:=qf (x+y);rw [<-hq.out];have hN:=h.le;have hI:=h;have hI':=h';have HZ:=q_h hz;have HZ':=q_h hz';obtain⟨m1,X1,i1,d1,X2,i2,d2,rfl,hm1,gx1,gx2⟩:=h.parts;obtain⟨m2,Y1,i3,d3,Y2,i4,d4,rfl,hm2,gy1,gy2⟩:=h'.parts;clear hz hz' h h' gx1 gx2 gy1 gy2;go_enter Tryz.func103,Tryz.ntmps103;go_wp2_with (go_at_call 154; refine q_o ?_);refine kZ ?_;intro W hE hsz B0 B1 B2;refine (f_add (hI.ext hE) (hI'.ext hE) HZ.out HZ'.out).mono ?_;rw [<-hq.out];intro e w1 hh;obtain⟨n3,A3,k3,c3,A4,k4,c4,rfl,hb3,g3,g4,e1⟩:=hh.form;replace hE:=hE.trans e1;replace B2:=e1.block B2;obtain⟨t0,t1,t2,t3,t4,t5,t6,t7⟩:=cells4 B2;go_wp2;exact qO rfl rfl rfl hE B2 (by omega) hN g3 g4 hb3
theorem vF {v v':Value} {y:Rat} (h:qm N w v x) (h':qm N w v' y) (hz:Sz x) (hz':Sz y) :
  Calls Tryz.prog 101 #[v,v'] w (yJ N w (x - y)):=by
 obtain⟨q,hq⟩:=qf (x - y);rw [<-hq.out];have hN:=h.le;have hI:=h;have hI':=h';have HZ:=q_h hz;have HZ':=q_h hz';obtain⟨m1,X1,i1,d1,X2,i2,d2,rfl,hm1,gx1,gx2⟩:=h.parts;obtain⟨m2,Y1,i3,d3,Y2,i4,d4,rfl,hm2,gy1,gy2⟩:=h'.parts;clear hz hz' h h' gx1 gx2 gy1 gy2;go_enter Tryz.func101,Tryz.ntmps101;go_wp2_with (go_at_call 153; refine q_o ?_);refine kZ ?_;intro W hE hsz B0 B1 B2;refine (f_sub (hI.ext hE) (hI'.ext hE) HZ.out HZ'.out).mono ?_;rw [<-hq.out];intro e w1 hh;obtain⟨n3,A3,k3,c3,A4,k4,c4,rfl,hb3,g3,g4,e1⟩:=hh.form;replace hE:=hE.trans e1;replace B2:=e1.block B2;obtain⟨t0,t1,t2,t3,t4,t5,t6,t7⟩:=cells4 B2;go_wp2;exact qO rfl rfl rfl hE B2 (by omega) hN g3 g4 hb3
theorem QR {v v':Value} {y:Rat} (h:qm N w v x) (h':qm N w v' y) (hz:Sz x) (hz':Sz y) :
  Calls Tryz.prog 104 #[v,v'] w (yJ N w (x*y)):=by
 obtain⟨q,hq⟩:=qf (x*y);rw [<-hq.out];have hN:=h.le;have hI:=h;have hI':=h';have HZ:=q_h hz;have HZ':=q_h hz';obtain⟨m1,X1,i1,d1,X2,i2,d2,rfl,hm1,gx1,gx2⟩:=h.parts;obtain⟨m2,Y1,i3,d3,Y2,i4,d4,rfl,hm2,gy1,gy2⟩:=h'.parts;clear hz hz' h h' gx1 gx2 gy1 gy2;go_enter Tryz.func104,Tryz.ntmps104;go_wp2_with (go_at_call 155; refine q_o ?_);refine kZ ?_;intro W hE hsz B0 B1 B2;refine (f_mul (hI.ext hE) (hI'.ext hE) HZ.out HZ'.out).mono ?_;rw [<-hq.out];intro e w1 hh;obtain⟨n3,A3,k3,c3,A4,k4,c4,rfl,hb3,g3,g4,e1⟩:=hh.form;replace hE:=hE.trans e1;replace B2:=e1.block B2;obtain⟨t0,t1,t2,t3,t4,t5,t6,t7⟩:=cells4 B2;go_wp2;exact qO rfl rfl rfl hE B2 (by omega) hN g3 g4 hb3
theorem QQ {v v':Value} {y:Rat} (h:qm N w v x) (h':qm N w v' y) (hz:Sz x) (hz':Sz y) (hy:y≠0) :
  Calls Tryz.prog 100 #[v,v'] w (yJ N w (x / y)):=by
 obtain⟨q,hq⟩:=qf (x / y);rw [<-hq.out];have HY:=q_h hy;clear hy;have hN:=h.le;have hI:=h;have hI':=h';have HZ:=q_h hz;have HZ':=q_h hz';obtain⟨m1,X1,i1,d1,X2,i2,d2,rfl,hm1,gx1,gx2⟩:=h.parts;obtain⟨m2,Y1,i3,d3,Y2,i4,d4,rfl,hm2,gy1,gy2⟩:=h'.parts;clear hz hz' h h' gx1 gx2 gy1 gy2;go_enter Tryz.func100,Tryz.ntmps100;go_wp2_with (go_at_call 152; refine q_o ?_);refine kZ ?_;intro W hE hsz B0 B1 B2;refine (q2k (hI.ext hE) (hI'.ext hE) HZ.out HZ'.out HY.out).mono ?_;rw [<-hq.out];intro e w1 hh;obtain⟨n3,A3,k3,c3,A4,k4,c4,rfl,hb3,g3,g4,e1⟩:=hh.form;replace hE:=hE.trans e1;replace B2:=e1.block B2;have hsz1:=q_l hsz e1.size;go_upto_region 2 with (fail);refine ql ?_;intro w2 e2 hsz2 BX;replace hE:=hE.trans e2;replace B2:=e2.block B2;obtain⟨s0,s1,s2,s3,-⟩:=cells4 BX;obtain⟨t0,t1,t2,t3,t4,t5,t6,t7⟩:=cells4 B2;go_wp2;exact qO rfl rfl rfl hE B2 (by omega) hN (g3.ext e2) (g4.ext e2) hb3
theorem qB (hN:N<=w.heap.size) (n:Int) (h1 : -9223372036854775808<=n) (h2:n<=9223372036854775807) :
  Calls Tryz.prog 45 #[.int .i64 n] w (yJ N w (n:Rat)):=by
 obtain⟨q,hq⟩:=qf (n:Rat);rw [<-hq.out];go_enter Tryz.func45,Tryz.ntmps45;go_wp2_with (go_at_call 31; refine q_o ?_);refine qM ?_;intro W hE hsz B0;refine (q1M (q_l hN hE.size) n h1 h2).mono ?_;rw [<-hq.out];intro e w1 hh;obtain⟨n3,A3,k3,c3,A4,k4,c4,rfl,hb3,g3,g4,e1⟩:=hh.form;replace hE:=hE.trans e1;replace B0:=e1.block B0;obtain⟨t0,t1,t2,t3,t4,t5,t6,t7⟩:=cells4 B0;go_wp2;exact qO rfl rfl rfl hE B0 (by omega) hN g3 g4 hb3
end Go.Proofs.YtphpkhoeplcedaaGreat
namespace Go.Proofs.YtphpkhoeplcedaaGreat
open Go.RowKit Go.Shelf
variable {w w':World} {N n lo hi k g m base c b:Nat} {x:Rat} {z:Int} {s:Value} {R:Raw}
attribute [local go_sem] Oper.semAt_some
theorem Y9 {v:Value} {q:Rat} (h:qm N w v q) (hz:Sz q) :
  Calls Tryz.prog 151 #[v] w (QA N w (vV q.num q.den)):=by
 obtain⟨r,hr⟩:=qf (vV q.num q.den);rw [<-hr.out];have hN:=h.le;have hI:=h;obtain⟨n1,A1,k1,c1,A2,k2,c2,rfl,hb1,g1,g2⟩:=h.parts;have HZ:=q_h hz;clear hz h g1 g2;go_enter Tryz.func151,Tryz.ntmps151;go_wp2_with (go_at_call 111; refine q_o ?_);refine xG ?_;intro W hE hsz B0 B1;refine (xE (hI.ext hE) HZ.out).mono ?_;intro e w1 hh;obtain⟨n3,A3,k3,c3,A4,k4,c4,rfl,hb3,g3,g4,e1⟩:=hh.form;replace B0:=e1.block B0;replace B1:=e1.block B1;replace hE:=hE.trans e1;replace hsz:=q_l hsz e1.size;obtain⟨a0,a1,a2,a3,a4,a5,a6,a7⟩:=cells4 B0;go_upto_region 2 with (fail);obtain⟨w2,E2,D0,U⟩:=ex4 B0 (.bool n3) (.slice A3 k3 c3) (.bool false) (.slice A4 k4 c4);rw [E2];have hT0:=NoU.mk B0 (by decide);replace g3:=g3.upd U (by omega) hT0;replace g4:=g4.upd U (by omega) hT0;replace B1:=U.blk B1 (by omega);replace hE:=U.ext hE (q_r);have hs2:=U.size;clear E2 U B0 hT0 a0 a1 a2 a3 a4 a5 a6 a7;obtain⟨a0,a1,a2,a3,-⟩:=cells4 D0;go_wp2_with (go_at_call 198; refine q_o ?_);refine (vM (qR hb3 g3) (qP g4) (q_l HZ.out.1 (by omega)) (q_l HZ.out.2 (by omega)) (by have:=q.den_pos; omega)).mono ?_;rintro e w5 ⟨v5,v5',rfl,i5,i5',e5⟩;rw [<-hr.out] at i5;obtain⟨b5,A5,k5,c5,rfl,hb5,h5,-⟩:=i5.parts;obtain⟨b5',A5',k5',c5',rfl,-,-,-⟩:=i5'.parts;replace B1:=e5.block B1;replace hE:=hE.trans e5;have hs5:=e5.size;go_upto_region 3 with (fail);refine kE ?_;intro w6 e6 hsz6 C0 C1;replace B1:=e6.block B1
 replace hE:=hE.trans e6;replace h5:=h5.ext e6;obtain⟨p0,p1,-,-⟩:=cells2 C0;obtain⟨q0,q1,q2,q3⟩:=cells2 B1;go_wp2;exact zo rfl rfl rfl hE B1 (by omega) hN h5 hb5 rfl
theorem q0V {F:Fence} {fu:Nat} {P:Program} {f:FuncId} {args:Array Value} {R:Ending->World->Prop} {o0 o1 o2:Obj} (h:∀ w1,Ext w w1->w.heap.size+3<=w1.heap.size->w1.heap[w.heap.size]?=some o0->w1.heap[w.heap.size+1]?=some o1->w1.heap[w.heap.size+1+1]?=some o2->CallsIn F fu P f args w1 R):CallsIn F fu P f args (((w.alloc o0).alloc o1).alloc o2) R:=zW (F:=fun w'=>CallsIn F fu P f args w' R) h
theorem VK (N:Nat) (w:World) (b:Bool) (A1:Option Addr) (k1 c1:Nat) (z:Int) (h:qZ N w (.agg #[.bool b,.slice A1 k1 c1]) z) (hg:Gs N w (.slice A1 k1 c1) (dg z.natAbs)) (hk:k1<=1) (hbz:Hid (b=decide (z < 0))) :
  CallsIn Fence.wide 5 Tryz.prog 150 #[.agg #[.bool b,.slice A1 k1 c1]] w (zX w (.tuple #[.int .i64 z,.bool true])):=by
 have hla:Hid ((dg z.natAbs).length=k1):=by obtain⟨A',n',c',hv,hl',-,-⟩:=hg.form; cases hv; exact hl'
 have hI:=h;refine callsIn_of_wp_marks Tryz.func150 rfl trivial ?_ rfl;simp only [Tryz.ntmps150,List.size_toArray,List.length_cons,List.length_nil,Nat.reduceAdd,Nat.reduceSub,Array.replicate_succ,Array.replicate_zero,List.push_toArray,List.append_toArray,List.nil_append,List.cons_append]
 gi_wp2_with (refine⟨trivial,?_⟩; gi_at_call 159; refine q_o ?_)
 refine q0V ?_;intro W hE hsz B0 B1 B2;refine (callsIn_wide.2 (zQ (hI.ext hE))).mono ?_;rintro e w1 ⟨rfl,e1⟩;replace B0:=e1.block B0;replace B1:=e1.block B1;replace B2:=e1.block B2;replace hsz:=q_l hsz e1.size;replace hE:=hE.trans e1;obtain⟨l,hl⟩:=qf (dg z.natAbs);have HV:Hid (val l=z.natAbs):=by rw [Hid,hl.out,qF]
 have hdl:Dig l:=by rw [hl.out]; exact qK _
 rw [<-hl.out] at hg hla;replace hg:=hg.ext hE;clear e1 hl h hI
 gi_wp2_with (refine⟨trivial,?_⟩; gi_at_call 197; refine (Zc Fence.wide _ trivial rfl _ _ _ _).mono ?_; rintro e w' ⟨rfl,rfl⟩)
 refine kE ?_;intro W2 hE2 hsz2 C0 C1
 refine wpIn_rangeFunc_ownF (F:=Fence.wide) (n:=5) rfl (by decide) (gf:=223) (lb:=#[.pointer (some ⟨w1.heap.size+1,0,none⟩)]) rfl trivial (enters_of Tryz.func223 (by kernel_rfl) rfl)
  (jq Fence.wide 4 trivial rfl (by decide) W2 w1 A1 k1 c1 l hg hE2 (w1.heap.size+1) w1.heap.size (by omega) (by omega) (q_r) (zA C1).1)
  wW (QU (by omega) (by omega)) (Below.refl _ _) (fun _=>rfl)
  (fun pre W'=>(W'.cell? ⟨w1.heap.size,0,none⟩=some (.int .u64 ((acc l pre:Nat):Int))/\W'.frozen? ⟨w1.heap.size,0,none⟩=false)/\Below w1.heap.size w1 W')
  (fun _ _ _=>False)
  (OwnFrom.and (Own.from (fun s A B row hs hg hr=>⟨cell_kept hs.1 hg hr,(frozen_kept hs.1 hg hr).trans hs.2⟩) _) (ownFrom_below (q_r) (by omega)))
  (fun _ _ _ _ _ hs _ _=>hs)
  ⟨zA C0,hE2⟩
  (fun j=>{ tmps:=#[.agg #[.bool b,.slice A1 k1 c1],.pointer (some ⟨w.heap.size,0,none⟩),.pointer (some ⟨w.heap.size+1,0,none⟩),.pointer (some ⟨w.heap.size+1+1,0,none⟩),.slice A1 k1 c1,.pointer (some ⟨w1.heap.size,0,none⟩),undef,.int .u32 ((l[j.1]?.getD 0:Nat):Int),
     .agg #[.bool b,.slice A1 k1 c1],.slice A1 k1 c1,.slice A1 k1 c1,.int .i64 k1,.bool (decide (3 < (k1:Int))),.slice A1 k1 c1,.func (.func 223) #[] #[.pointer (some ⟨w1.heap.size+1,0,none⟩)],
     .int .i64 ((j.1:Nat):Int),.int .u32 ((l[j.1]?.getD 0:Nat):Int),undef,undef,undef,undef,undef,undef,undef,undef,undef,undef,undef,undef,undef,undef,undef,undef,undef,undef,undef,undef,undef,undef,undef,undef,undef,undef,undef],defers:=[] }) ?assign ?body ?done ?stop
 case assign =>
  intro l' j W K hK
  dsimp only [Je]
  obtain⟨z,hz⟩:=qf ((l[j.1]?.getD 0:Nat):Int);obtain⟨k,hk⟩:=qf ((j.1:Nat):Int);rw [<-hz.out,<-hk.out] at hK ⊢
  gi_wp2
  exact hK
 case body =>
  rintro l' pre j W1 ⟨⟨a0,a1⟩,hB⟩ hlt;obtain⟨k,hk'⟩:=qf ((j.1:Nat):Int);obtain⟨za,hza⟩:=qf ((l[j.1]?.getD 0:Nat):Int);have hpl:pre.length=0:=by have:=hla.out; omega
  have hp0:pre=[]:=List.eq_nil_of_length_eq_zero hpl;subst hp0;have HS:Hid (((acc l ([] ++ [j]):Nat):Int)=za):=by rw [Hid,hza.out]; simp [acc]
  have a2:W1.cell? ⟨w1.heap.size,0,none⟩=some (.int .u64 0):=by rw [a0]; rfl
  clear a0;rw [<-hza.out,<-hk'.out];have za0:0<=za:=by rw [hza.out]; omega
  have za1:za < 1000000000:=by have:=hdl.get j.1; unfold bs at this; have:=hza.out; omega
  have d1:decide (0 > (9223372036854775808 - za) / 1000000000)=false:=q_f (by omega)
  gi_wp2
  refine⟨KeepsOthers.setCell _ _ _,⟨(Below.refl w1.heap.size W1).setCell (p:=⟨w1.heap.size,0,none⟩) (q_r) _,Below.heap_setCell _ _ _ _ (by simp)⟩,⟨?_,by rw [World.frozen?_setCell]; exact a1⟩,hB.setCell (p:=⟨w1.heap.size,0,none⟩) (q_r) _⟩;rw [HS.out];exact World.cell?_setCell_same' _ _ _ (by rw [a2]; rfl)
 case done =>
  rintro D ys W1 hD rfl ⟨⟨a0,a1⟩,hB⟩ hK;rw [Yk] at a0;obtain⟨m,hm⟩:=qf ((val l:Nat):Int);rw [<-hm.out] at a0;have m0:0<=m:=by rw [hm.out]; omega
  have m1:m < 1000000000:=by
   have h1:=jJ hdl;have h2:bs ^ l.length<=bs ^ 1:=Nat.pow_le_pow_right qW (by have:=hla.out; omega);have:=hm.out;unfold bs at h1 h2;omega
  have HZ:Hid ((z < 0->z = -m)/\(¬ z < 0->z=m)):=by
   have h1:=hm.out;rw [HV.out] at h1;rw [Hid];omega
  have HB:=q_h hbz;replace B0:=(hB.block _ (by omega)).trans B0;replace B1:=(hB.block _ (by omega)).trans B1;replace B2:=(hB.block _ (by omega)).trans B2;obtain⟨p0,p1,-,-⟩:=cells2 B0;obtain⟨q0,q1⟩:=zA B1;obtain⟨r0,r1⟩:=zA B2
  by_cases hz:z < 0
  ·obtain rfl:b=true:=by rw [HB.out]; exact q_t hz
   have hk1:k1=1:=by
    rcases Nat.lt_or_ge 0 k1 with h9 | h9
    ·omega
    ·have h8:l=[]:=List.eq_nil_of_length_eq_zero (by have:=hla.out; omega);have h7:=HV.out;rw [h8] at h7;have h6:val []=0:=rfl;omega
   subst hk1
   have hw1:IntKind.u64.wrap (-m)=18446744073709551616 - m:=by
    have:z = -m:=HZ.out.1 hz;simp [IntKind.wrap,IntKind.bits,IntKind.signed]; omega
   have hw2:IntKind.i64.wrap (18446744073709551616 - m) = -m:=by
    simp [IntKind.wrap,IntKind.bits,IntKind.signed]; omega
   have HM:Hid (-m=z):=(HZ.out.1 hz).symm
   gi_wp2
   have hK':=(KeepsOthers.setCell (W1.setCell ⟨w.heap.size+1,0,none⟩ (.int .i64 (-m))) ⟨w.heap.size+1+1,0,none⟩ (.bool true)).same D _ ((KeepsOthers.setCell W1 ⟨w.heap.size+1,0,none⟩ (.int .i64 (-m))).same D _ hK rfl) rfl;have x1:=World.cell?_setCell_same' W1 ⟨w.heap.size+1,0,none⟩ (.int .i64 (-m)) (by rw [q0]; rfl);have x2:=cell_far (g:=w.heap.size+1+1) (i:=0) (.bool true) x1 (by simp);have x3:=World.cell?_setCell_same' (W1.setCell ⟨w.heap.size+1,0,none⟩ (.int .i64 (-m))) ⟨w.heap.size+1+1,0,none⟩ (.bool true) (by rw [cell_far _ r0 (by simp)]; rfl);have hc5:=cell_kept x2 (grownBy_putObj' _ D (.deferred none)) (fun r e=>by cases e; exact⟨_,hK',rfl⟩);have hc6:=cell_kept x3 (grownBy_putObj' _ D (.deferred none)) (fun r e=>by cases e; exact⟨_,hK',rfl⟩);refine⟨by simp,.inl ⟨_,_,rfl,run_takeDeferred hK',?_⟩⟩;refine⟨.tuple #[.int .i64 (-m),.bool true],?_,by rw [HM.out],(((hE.trans hB).below.setCell (p:=⟨w.heap.size+1,0,none⟩) (by simp) _).setCell (p:=⟨w.heap.size+1+1,0,none⟩) (by simp; omega) _).trans (belowK_b (w:=w) (q_r) _ D _ _ (by omega) hK' rfl rfl)⟩;simp [results,Tryz.results150,go_sem,hc5,hc6]
  ·obtain rfl:b=false:=by rw [HB.out]; exact q_f hz
   have HM:Hid (m=z):=(HZ.out.2 hz).symm;have hw1:(m == 9223372036854775808)=false:=by rw [beq_eq_false_iff_ne]; omega
   have hw2:IntKind.i64.wrap m=m:=IntWalk.i64_in _ (by omega);clear HB
   rcases Nat.eq_zero_or_pos k1 with h9 | h9
   ·subst h9
    gi_wp2
    have hK':=(KeepsOthers.setCell (W1.setCell ⟨w.heap.size+1,0,none⟩ (.int .i64 (m))) ⟨w.heap.size+1+1,0,none⟩ (.bool true)).same D _ ((KeepsOthers.setCell W1 ⟨w.heap.size+1,0,none⟩ (.int .i64 (m))).same D _ hK rfl) rfl;have x1:=World.cell?_setCell_same' W1 ⟨w.heap.size+1,0,none⟩ (.int .i64 (m)) (by rw [q0]; rfl);have x2:=cell_far (g:=w.heap.size+1+1) (i:=0) (.bool true) x1 (by simp);have x3:=World.cell?_setCell_same' (W1.setCell ⟨w.heap.size+1,0,none⟩ (.int .i64 (m))) ⟨w.heap.size+1+1,0,none⟩ (.bool true) (by rw [cell_far _ r0 (by simp)]; rfl);have hc5:=cell_kept x2 (grownBy_putObj' _ D (.deferred none)) (fun r e=>by cases e; exact⟨_,hK',rfl⟩);have hc6:=cell_kept x3 (grownBy_putObj' _ D (.deferred none)) (fun r e=>by cases e; exact⟨_,hK',rfl⟩);refine⟨by simp,.inl ⟨_,_,rfl,run_takeDeferred hK',?_⟩⟩;refine⟨.tuple #[.int .i64 (m),.bool true],?_,by rw [HM.out],(((hE.trans hB).below.setCell (p:=⟨w.heap.size+1,0,none⟩) (by simp) _).setCell (p:=⟨w.heap.size+1+1,0,none⟩) (by simp; omega) _).trans (belowK_b (w:=w) (q_r) _ D _ _ (by omega) hK' rfl rfl)⟩;simp [results,Tryz.results150,go_sem,hc5,hc6]
   ·obtain rfl:k1=1:=by omega
    gi_wp2
    have hK':=(KeepsOthers.setCell (W1.setCell ⟨w.heap.size+1,0,none⟩ (.int .i64 (m))) ⟨w.heap.size+1+1,0,none⟩ (.bool true)).same D _ ((KeepsOthers.setCell W1 ⟨w.heap.size+1,0,none⟩ (.int .i64 (m))).same D _ hK rfl) rfl;have x1:=World.cell?_setCell_same' W1 ⟨w.heap.size+1,0,none⟩ (.int .i64 (m)) (by rw [q0]; rfl);have x2:=cell_far (g:=w.heap.size+1+1) (i:=0) (.bool true) x1 (by simp);have x3:=World.cell?_setCell_same' (W1.setCell ⟨w.heap.size+1,0,none⟩ (.int .i64 (m))) ⟨w.heap.size+1+1,0,none⟩ (.bool true) (by rw [cell_far _ r0 (by simp)]; rfl);have hc5:=cell_kept x2 (grownBy_putObj' _ D (.deferred none)) (fun r e=>by cases e; exact⟨_,hK',rfl⟩);have hc6:=cell_kept x3 (grownBy_putObj' _ D (.deferred none)) (fun r e=>by cases e; exact⟨_,hK',rfl⟩);refine⟨by simp,.inl ⟨_,_,rfl,run_takeDeferred hK',?_⟩⟩;refine⟨.tuple #[.int .i64 (m),.bool true],?_,by rw [HM.out],(((hE.trans hB).below.setCell (p:=⟨w.heap.size+1,0,none⟩) (by simp) _).setCell (p:=⟨w.heap.size+1+1,0,none⟩) (by simp; omega) _).trans (belowK_b (w:=w) (q_r) _ D _ _ (by omega) hK' rfl rfl)⟩;simp [results,Tryz.results150,go_sem,hc5,hc6]
 case stop =>
  rintro D c pre W1 _ _ h _;exact h.elim
theorem q0j {v:Value} (h:qZ N w v z) (hz:z.natAbs < 1000000000) :
  Calls Tryz.prog 150 #[v] w (zX w (.tuple #[.int .i64 z,.bool true])):=by
 obtain⟨b,A,k,c,rfl,hb,hg,-⟩:=h.parts;obtain⟨A',k',c',hv,hl,-,-⟩:=hg.form;cases hv
 refine (callsIn_wide (n:=5)).1 (VK N w b A k c z h hg ?_ hb);rw [<-hl.out];exact qL (by unfold bs; simpa using hz)
end Go.Proofs.YtphpkhoeplcedaaGreat
namespace Go.Proofs.YtphpkhoeplcedaaGreat
open Go.RowKit
variable {w w':World} {N n lo hi k g m base c b:Nat} {x:Rat} {z:Int} {s:Value} {R:Raw}
def Qg (R:Raw):Bool:=decide (R.l1.length<=1) && decide (R.l2.length<=1) && decide (R.l1[0]?.getD 0 < 100000) && decide (R.l2[0]?.getD 0<=100)
theorem q1L {v:Value} (h:xQ N w v R) :
  Calls Tryz.prog 48 #[v] w (zX w (.bool (Qg R))):=by
 obtain⟨r,hr⟩:=qf (Qg R);rw [<-hr.out];obtain⟨A1,n1,c1,A2,n2,c2,rfl,g1,g2⟩:=h.parts;obtain⟨_,_,_,e1,h1,hc1,hm1⟩:=g1.form;injection e1 with e1 e1' e1''
 subst e1 e1' e1'';obtain⟨_,_,_,e2,h2,hc2,hm2⟩:=g2.form;injection e2 with e2 e2' e2''
 subst e2 e2' e2'';obtain⟨b1,l1,b2,l2⟩:=R
 dsimp only at g1 g2 h1 h2 ⊢
 have HR:Hid (r=(decide (n1<=1) && decide (n2<=1) && decide (l1[0]?.getD 0 < 100000) && decide (l2[0]?.getD 0<=100))):=by
  rw [Hid,hr.out,<-h1.out,<-h2.out]; rfl
 have L1:Hid (n1=0->l1=[]):=fun e=>List.eq_nil_of_length_eq_zero (by rw [h1.out]; exact e)
 have L2:Hid (n2=0->l2=[]):=fun e=>List.eq_nil_of_length_eq_zero (by rw [h2.out]; exact e)
 clear hr h;go_enter Tryz.func48,Tryz.ntmps48;go_upto_region 1 with (fail);refine ql ?_;intro W hE hsz B0;obtain⟨a0,a1,a2,a3,-⟩:=cells4 B0;have eC:=(Ext.refl W).drew;refine jC (fun w'=>w'.cell? ⟨w.heap.size,0,none⟩=some (.bool b1)/\w'.cell? ⟨w.heap.size,1,none⟩=some (.slice A1 n1 c1)/\w'.cell? ⟨w.heap.size,2,none⟩=some (.bool b2)/\w'.cell? ⟨w.heap.size,3,none⟩=some (.slice A2 n2 c2)) [] (by kernel_rfl) (by exact⟨eC.cell a0,eC.cell a1,eC.cell a2,eC.cell a3⟩) (fun hHeld=>?_);refine sP 0 (h:=?_);try simp only [nr]
 refine sP 1 (h:=?_);try simp only [nr]
 refine sT 2 (h:=?_);try simp only [nr]
 refine sP 3 (h:=?_);try simp only [nr]
 refine sP 4 (h:=?_);try simp only [nr]
 refine sT 5 (h:=?_);try simp only [nr]
 refine sP 6 (h:=?_);try simp only [nr]
 refine sP 7 (h:=?_);try simp only [nr]
 refine qg (by kernel_rfl) ?_ _;clear hHeld;replace hE:=hE.trans eC;replace g1:=g1.ext hE;replace g2:=g2.ext hE;clear a0 a1 a2 a3 B0 eC
 by_cases hn1:n1<=1
 ·by_cases hn2:n2<=1
  ·have HR2:Hid (r=(decide (l1[0]?.getD 0 < 100000) && decide (l2[0]?.getD 0<=100))):=by rw [Hid,HR.out,q_t hn1,q_t hn2]; rfl
   clear HR
   rcases Nat.eq_zero_or_pos n1 with h0 | h0
   ·obtain⟨x,hx⟩:=qf (decide (l1[0]?.getD 0 < 100000));have hx1:x=true:=by rw [hx.out,L1.out h0]; rfl
    rw [<-hx.out,hx1] at HR2;subst h0
    rcases Nat.eq_zero_or_pos n2 with h4 | h4
    ·have HF:Hid (r=true):=by rw [Hid,HR2.out,L2.out h4]; rfl
     subst h4;go_wp2;go_ret;exact⟨qw HF.out.symm,hE⟩
    ·obtain rfl:n2=1:=by omega
     obtain⟨b,off,z,rfl,-,p0,hz0,hz1,HZ⟩:=g2.at_ (k:=0) (by omega);rw [Nat.add_zero] at p0
     by_cases hz:z<=100
     ·have HF:Hid (r=true):=by rw [Hid,HR2.out]; simp only [Bool.true_and,decide_eq_true_eq]; have:=HZ.out; omega
      go_wp2;go_ret;exact⟨qw HF.out.symm,hE⟩
     ·have HF:Hid (r=false):=by rw [Hid,HR2.out]; simp only [Bool.true_and,decide_eq_false_iff_not]; have:=HZ.out; omega
      go_wp2;go_ret;exact⟨qw HF.out.symm,hE⟩
   ·obtain rfl:n1=1:=by omega
    obtain⟨b,off,z,rfl,-,p0,hz0,hz1,HZ⟩:=g1.at_ (k:=0) (by omega);rw [Nat.add_zero] at p0
    by_cases hz:z < 100000
    ·have HR3:Hid (r=decide (l2[0]?.getD 0<=100)):=by
      rw [Hid,HR2.out,show decide (l1[0]?.getD 0 < 100000)=true by simp only [decide_eq_true_eq]; have:=HZ.out; omega]; rfl
     rcases Nat.eq_zero_or_pos n2 with h4 | h4
     ·have HF:Hid (r=true):=by rw [Hid,HR3.out,L2.out h4]; rfl
      subst h4;go_wp2;go_ret;exact⟨qw HF.out.symm,hE⟩
     ·obtain rfl:n2=1:=by omega
      obtain⟨b',off',z',rfl,-,q0,hz0',hz1',HZ'⟩:=g2.at_ (k:=0) (by omega);rw [Nat.add_zero] at q0
      by_cases hz':z'<=100
      ·have HF:Hid (r=true):=by rw [Hid,HR3.out]; simp only [decide_eq_true_eq]; have:=HZ'.out; omega
       go_wp2;go_ret;exact⟨qw HF.out.symm,hE⟩
      ·have HF:Hid (r=false):=by rw [Hid,HR3.out]; simp only [decide_eq_false_iff_not]; have:=HZ'.out; omega
       go_wp2;go_ret;exact⟨qw HF.out.symm,hE⟩
    ·have HF:Hid (r=false):=by
      rw [Hid,HR2.out,show decide (l1[0]?.getD 0 < 100000)=false by simp only [decide_eq_false_iff_not]; have:=HZ.out; omega]; rfl
     go_wp2;go_ret;exact⟨qw HF.out.symm,hE⟩
  ·have HF:Hid (r=false):=by rw [Hid,HR.out,q_f hn2]; simp
   go_wp2;go_ret;exact⟨qw HF.out.symm,hE⟩
 ·have HF:Hid (r=false):=by rw [Hid,HR.out,q_f hn1]; simp
  go_wp2;go_ret;exact⟨qw HF.out.symm,hE⟩
theorem Xf (g:Nat):∀ (vs:List Value) (o:Nat) (w w':World),Upd g w w'->Upd g w (w'.setCells g o vs)
 | [],_,_,_,h=>h
 | v :: r,o,w,w',h=>Xf g r (o+1) w _ (h.set o v)
theorem Jd (g:Nat) (t:TypeId) (fr:Nat×Nat):∀ (vs:List Value) (o:Nat) (cs:Array Value) (w:World),w.heap[g]?=some (.cells cs t fr)->∃ cs',(w.setCells g o vs).heap[g]?=some (.cells cs' t fr)/\cs'.size=cs.size
 | [],_,cs,_,h=>⟨cs,h,rfl⟩
 | v :: r,o,cs,w,h=>by
  obtain⟨cs',h1,h2⟩:=Jd g t fr r (o+1) _ (w.setCell ⟨g,o,none⟩ v) (heap_set h o v);exact⟨cs',h1,by rw [h2]; simp⟩
theorem q2B (b o j:Nat):(⟨b,o,none⟩:Addr).add j=⟨b,o+j,none⟩:=by unfold Addr.add; split <;> simp_all
def jc:Value:=.agg #[.bool false,.slice none 0 0,.bool false,.slice none 0 0]
def q5P (base:Nat) (w:World) (v:Value) (xs:List Value):Prop:=base<=w.heap.size/\w.ownsRow base 45 1 v xs.length xs
theorem q5P.at_ {v:Value} {xs:List Value} (h:q5P base w v xs) (hn:0 < xs.length):∃ g cap,v=.slice (some ⟨g,0,none⟩) xs.length cap/\cap<=maxLen/\xs.length<=cap/\∀ j (hj:j < xs.length),w.cell? ⟨g,j,none⟩=some xs[j]:=by
 obtain⟨-,-,h2⟩:=h
 rcases h2 with ⟨-,h⟩ | ⟨g,cap,cur,hv,hb,hg,hnc,hcm,hcs,htk⟩
 ·omega
 ·refine⟨g,cap,hv,hcm,hnc,fun j hj=>?_⟩;rw [qh hg];have h9:(cur.toList.take (xs.length*1))[j]?=some xs[j]:=by rw [htk]; exact List.getElem?_eq_getElem hj
  rw [List.getElem?_take] at h9;rw [if_pos (by omega)] at h9;simpa using h9
structure One (ET:TypeId) (z0:Value) (bz:Nat):Prop where
 inf:(Tryz.prog.info? ET).map (fun i=>(i.zero,i.size,i.bytes))=some (some z0,1,bz)
 cells:z0.cells.size=1
 le:bz<=24
 ne:ET≠152
def zY (ET:TypeId) (base:Nat) (w:World) (v:Value) (xs:List Value):Prop:=base<=w.heap.size/\w.ownsRow base ET 1 v xs.length xs
section
variable {ET:TypeId} {base:Nat} {w w':World} {v:Value} {xs:List Value}
theorem zY.nil (h:base<=w.heap.size):zY ET base w (.slice none 0 0) []:=⟨h,by simp,.inl ⟨rfl,rfl⟩⟩
theorem zY.form (h:zY ET base w v xs):∃ A c,v=.slice A xs.length c/\xs.length<=c:=by
 rcases h.2.2 with ⟨rfl,h0⟩ | ⟨g,cap,cur,rfl,_,_,hc,_⟩
 ·exact⟨_,_,by rw [h0],by omega⟩
 ·exact⟨_,_,rfl,hc⟩
theorem zY.ext (h:zY ET base w v xs) (e:Ext w w'):zY ET base w' v xs:=by
 refine⟨q_l h.1 e.size,h.2.1,?_⟩
 rcases h.2.2 with h0 | ⟨g,cap,cur,hv,hb,hh,h1,h2,h3,h4⟩
 ·exact .inl h0
 ·exact .inr ⟨g,cap,cur,hv,hb,e.block hh,h1,h2,h3,h4⟩
theorem zY.far {l u:Nat} (h:zY ET base w v xs) (c:Chg l u w w') (hd:∀ k,v.ownBlock=some k->k < l\/u<=k):zY ET base w' v xs:=by
 refine⟨q_l h.1 c.size,h.2.1,?_⟩
 rcases h.2.2 with h0 | ⟨g,cap,cur,rfl,hb,hh,h1,h2,h3,h4⟩
 ·exact .inl h0
 ·exact .inr ⟨g,cap,cur,rfl,hb,c.blk hh (hd g rfl),h1,h2,h3,h4⟩
theorem zY.low {b':Nat} (h:zY ET base w v xs) (hb:b'<=base):zY ET b' w v xs:=by
 refine⟨q_l hb h.1,h.2.1,?_⟩
 rcases h.2.2 with h0 | ⟨g,cap,cur,hv,hb0,h3⟩
 ·exact .inl h0
 ·exact .inr ⟨g,cap,cur,hv,by omega,h3⟩
theorem zY.own_lt (h:zY ET base w v xs):∀ k,v.ownBlock=some k->base<=k/\k < w.heap.size:=by
 rcases h.2.2 with ⟨rfl,h0⟩ | ⟨g,cap,cur,rfl,hb,hh,-⟩
 ·intro k hk; simp [Value.ownBlock] at hk
 ·intro k hk;obtain rfl:g=k:=by simpa [Value.ownBlock] using hk
  exact⟨hb,qJ hh⟩
theorem zY.at_ (h:zY ET base w v xs) (hn:0 < xs.length):∃ g cap,v=.slice (some ⟨g,0,none⟩) xs.length cap/\base<=g/\g < w.heap.size/\cap<=maxLen/\xs.length<=cap/\(∃ cs,w.heap[g]?=some (.cells cs ET (0,0))/\cs.size=cap)/\∀ j (hj:j < xs.length),w.cell? ⟨g,j,none⟩=some xs[j]:=by
 rcases h.2.2 with ⟨-,h⟩ | ⟨g,cap,cur,hv,hb,hg,hnc,hcm,hcs,htk⟩
 ·omega
 ·refine⟨g,cap,hv,hb,qJ hg,hcm,hnc,⟨cur,hg,by omega⟩,fun j hj=>?_⟩;rw [qh hg];have h9:(cur.toList.take (xs.length*1))[j]?=some xs[j]:=by rw [htk]; exact List.getElem?_eq_getElem hj
  rw [List.getElem?_take] at h9;rw [if_pos (by omega)] at h9;simpa using h9
theorem Xn {z0:Value} {bz:Nat} (ho:One ET z0 bz) (t ty:TypeId) (ht:Tryz.prog.underlying t=some (.slice ET)) (h:zY ET base w v xs) {off:Nat} {news:List Value} (hl:news.length=m)
  (hnews:∀ j u,news[j]?=some u->w.cell? ⟨b,off+j,none⟩=some u) (h1:∀ u∈news,u.oneCell'=true) (hm:0 < m) (hn:xs.length+m<=1000000000) :
  ∃ g cap w',(Builtin.append_ #[t,t] ty #[v,.slice (some ⟨b,off,none⟩) m c]).run Tryz.prog w=.ok (.slice (some ⟨g,0,none⟩) (xs.length+m) cap) w'/\zY ET base w' (.slice (some ⟨g,0,none⟩) (xs.length+m) cap) (xs ++ news)/\(v.ownBlock=some g\/g=w.heap.size) /\
   (∃ g',base<=g'/\(v.ownBlock=some g'\/g'=w.heap.size)/\Chg g' (g'+1) w w'/\NoU w g'):=by
 obtain⟨i0,hi0,hz0,hz1,hz2⟩:=info_parts ho.inf;obtain⟨hb0,hown⟩:=h;have hle:=ho.le
 obtain⟨g,cap,w',hrun,hO,hgr,hat,hlt⟩:=run_append_lies (P:=Tryz.prog) w t ty base ET i0 _ 1 bz ht hi0 hz0 hz1 hz2 ho.cells (by omega) v xs.length xs hown ⟨b,off,none⟩ m c news (by omega)
  (fun j u hj=>by rw [Qy]; exact hnews j u hj) h1 hm (by unfold maxLen; omega)
  (q_l (Nat.mul_le_mul hn ho.le) (by decide)) hb0 w.heap.size rfl
 refine⟨g,cap,w',hrun,⟨q_l hb0 hgr.size,?_⟩,hat,?_⟩
 ·rw [List.length_append,hl]; exact hO
 ·have hT:NoU w w.heap.size:=fun cs fr h=>by rw [Array.getElem?_eq_none (q_r)] at h; cases h
  rcases hown.2 with ⟨rfl,h0⟩ | ⟨g0,cap0,cur,rfl,hbb,hh,_⟩
  ·exact⟨w.heap.size,hb0,.inr rfl,kD hgr (fun k hk=>by simp [Value.ownBlock] at hk) hT,hT⟩
  ·have hT0:NoU w g0:=NoU.mk hh ho.ne;exact⟨g0,hbb,.inl rfl,kD hgr (fun k hk=>by simpa [Value.ownBlock] using hk.symm) hT0,hT0⟩
end
theorem QC {ET:TypeId} {v:Value} {xs:List Value} {z0:Value} {bz:Nat} (h0:One ET z0 bz) {o:Oper} {a:Act} {K:Act->World->Prop} {Q:Exit->Act->World->Prop} (s x:Operand) (t:TypeId) (ht:Tryz.prog.underlying t=some (.slice ET))
  (ho:o.op=.call { callee:=.builtin .append,args:=#[s,x],argTypes:=#[t,t] }) (hs:a.eval s=v) (h:zY ET base w v xs) {off:Nat} {news:List Value} (hx:a.eval x=.slice (some ⟨b,off,none⟩) m c) (hl:news.length=m)
  (hnews:∀ j u,news[j]?=some u->w.cell? ⟨b,off+j,none⟩=some u) (h1:∀ u∈news,u.oneCell'=true) (hm:0 < m) (hn:xs.length+m<=1000000000)
  (hK:∀ g cap w',zY ET base w' (.slice (some ⟨g,0,none⟩) (xs.length+m) cap) (xs ++ news)->(v.ownBlock=some g\/g=w.heap.size)->(∃ g',base<=g'/\(v.ownBlock=some g'\/g'=w.heap.size)/\Chg g' (g'+1) w w'/\NoU w g')->K (a.put o.dst (.slice (some ⟨g,0,none⟩) (xs.length+m) cap)) w'):o.wp Tryz.prog a w K Q:=by
 obtain⟨g,cap,w',hrun,h2,h3,h4⟩:=Xn h0 t o.type ht h hl hnews h1 hm hn (c:=c);unfold Oper.wp execOp;simp only [ho,resolve,invoke,builtin,Sem.run_bind,Sem.run_pure,Result.andThen_ok,List.map_toArray,List.map_cons,List.map_nil,hs,hx,hrun];exact hK g cap w' h2 h3 h4
theorem kX {ET:TypeId} {v:Value} {xs:List Value} {z0:Value} {bz:Nat} (h0:One ET z0 bz) {ops:Array Oper} {rest:List Oper} {o:Oper} {a:Act} {Q:Exit->Act->World->Prop} (hgd:o.guard=none) (s x:Operand) (t:TypeId) (ht:Tryz.prog.underlying t=some (.slice ET))
  (ho:o.op=.call { callee:=.builtin .append,args:=#[s,x],argTypes:=#[t,t] }) (hs:a.eval s=v) (h:zY ET base w v xs) {off:Nat} {news:List Value} (hx:a.eval x=.slice (some ⟨b,off,none⟩) m c) (hl:news.length=m)
  (hnews:∀ j u,news[j]?=some u->w.cell? ⟨b,off+j,none⟩=some u) (h1:∀ u∈news,u.oneCell'=true) (hm:0 < m) (hn:xs.length+m<=1000000000)
  (hK:∀ g cap w',zY ET base w' (.slice (some ⟨g,0,none⟩) (xs.length+m) cap) (xs ++ news)->(v.ownBlock=some g\/g=w.heap.size)->(∃ g',base<=g'/\(v.ownBlock=some g'\/g'=w.heap.size)/\Chg g' (g'+1) w w'/\NoU w g')->wpList Tryz.prog ops Q rest (a.put o.dst (.slice (some ⟨g,0,none⟩) (xs.length+m) cap)) w'):wpList Tryz.prog ops Q (o :: rest) a w :=
 wpList_plain hgd fun _ hK'=>QC h0 s x t ht ho hs h hx hl hnews h1 hm hn (fun g cap w' a1 a2 a3=>hK' _ _ (hK g cap w' a1 a2 a3))
theorem QO {u:Value} {t:TypeId} {fr:Nat×Nat} (h:w.heap[g]?=some (.cells #[u] t fr)):∀ j x,[u][j]?=some x->w.cell? ⟨g,0+j,none⟩=some x:=by
 intro j x hj;rw [Nat.zero_add,qh h];simpa using hj
theorem QP:One 3 (.int .i64 0) 8:=⟨by kernel_rfl,rfl,by omega,by decide⟩
end Go.Proofs.YtphpkhoeplcedaaGreat
namespace Go.Proofs.YtphpkhoeplcedaaGreat
variable {w w':World} {N n lo hi k g m base c b:Nat} {x:Rat} {z:Int} {s:Value} {R:Raw}
structure Mn where
 p:Value->World->Prop
 mono:∀ {v:Value} {w w':World},Ext w w'->p v w->p v w'
def Mn.any:Mn:=⟨fun _ _=>True,fun _ _=>trivial⟩
def Mn.eq (x:Value):Mn:=⟨fun v _=>v=x,fun _ h=>h⟩
def Mn.i (z:Int):Mn:=Mn.eq (.int .i64 z)
def Mn.q (b o:Nat):Mn:=Mn.eq (.pointer (some ⟨b,o,none⟩))
def Mn.t (b:Bool):Mn:=Mn.eq (.bool b)
def sM (l:List Nat):List (Option Tmp):=l.map some
def rF:Nat->List Bool
 | n+1=>false :: rF n
 | 0=>[]
def rQ:Nat->Nat->List Bool
 | m+1,n=>true :: rQ m n
 | 0,n=>rF n
theorem q_k {J Q:Value->World->Prop} {v:Value} (h:Shut (∀ v w',Ext w w'->J v w'->Q v w')) (hj:J v w):Q v w:=h.out _ _ (Ext.refl w) hj
def qH:List (Option Tmp)->List Bool->(Nat->Value)->Nat->Act->Act
 | d :: ds,b :: bs,vals,i,a=>qH ds bs vals (i+1) (if b=true then a.put d (vals i) else a)
 | _,_,_,_,a=>a
def nodupB:List (Option Tmp)->Bool
 | []=>true
 | none :: l=>nodupB l
 | some t :: l=>!l.contains (some t) && nodupB l
def yj (vals:Nat->Value) (i:Nat) (v:Value) (j:Nat):Value:=if j=i then v else vals j
theorem put_comm (a:Act) (d d':Option Tmp) (v v':Value) (h:∀ t,d=some t->d'≠some t):(a.put d v).put d' v'=(a.put d' v').put d v:=by
 cases d with
 | none=>rfl
 | some t =>
  cases d' with
  | none=>rfl
  | some t' =>
   have hne:t≠t':=fun e=>h t rfl (by rw [e])
   show ({ a with tmps:=_ }:Act)={ a with tmps:=_ }
   congr 1
   exact Array.setIfInBounds_comm _ _ hne
theorem q1Q (a:Act) (d:Option Tmp) (v:Value):(a.put d v).tmps.size=a.tmps.size:=by
 cases d with
 | none=>rfl
 | some t=>simp [Act.put]
theorem Xy (a:Act) (d:Option Tmp) (v:Value) {t:Nat} (h:d≠some t):(a.put d v).tmps[t]?=a.tmps[t]?:=by
 cases d with
 | none=>rfl
 | some t' =>
  have hne:t'≠t:=fun e=>h (by rw [e])
  simp [Act.put,Array.getElem?_setIfInBounds,hne]
theorem Zq {d:Option Tmp} {v:Value}:∀ (ds:List (Option Tmp)) (bs:List Bool) (vals:Nat->Value) (k:Nat) (a:Act),(∀ t,d=some t->ds.contains (some t)=false)->qH ds bs vals k (a.put d v)=(qH ds bs vals k a).put d v
 | [],_,_,_,_,_=>by unfold qH; rfl
 | _ :: _,[],_,_,_,_=>rfl
 | d0 :: ds,b :: bs,vals,k,a,h=>by
  have h1:∀ t,d=some t->d0≠some t/\ds.contains (some t)=false:=fun t ht=>by
   have:=h t ht;simp only [List.contains_cons,Bool.or_eq_false_iff,beq_eq_false_iff_ne] at this;exact⟨fun e=>this.1 e.symm,this.2⟩
  show qH ds bs vals (k+1) (if b=true then (a.put d v).put d0 (vals k) else a.put d v)=_
  show _=(qH ds bs vals (k+1) (if b=true then a.put d0 (vals k) else a)).put d v
  rw [<-Zq ds bs vals (k+1) _ (fun t ht=>(h1 t ht).2)];cases b with
  | false=>rfl
  | true =>
   simp only [if_true];rw [put_comm a d d0 v (vals k) (fun t ht=>(h1 t ht).1)]
theorem Qb {vals vals':Nat->Value}:∀ (ds:List (Option Tmp)) (bs:List Bool) (k:Nat) (a:Act),(∀ j,k<=j->vals j=vals' j)->qH ds bs vals k a=qH ds bs vals' k a
 | [],_,_,_,_=>by unfold qH; rfl
 | _ :: _,[],_,_,_=>rfl
 | d0 :: ds,b :: bs,k,a,h=>by
  show qH ds bs vals (k+1) (if b=true then a.put d0 (vals k) else a)=qH ds bs vals' (k+1) (if b=true then a.put d0 (vals' k) else a)
  rw [h k (q_r)];exact Qb ds bs (k+1) _ (fun j hj=>h j (by omega))
theorem yC {d:Option Tmp} {ds:List (Option Tmp)} (h:nodupB (d :: ds)=true):nodupB ds=true/\∀ t,d=some t->ds.contains (some t)=false:=by
 cases d with
 | none=>exact⟨h,fun t ht=>by cases ht⟩
 | some t0 =>
  unfold nodupB at h;rw [Bool.and_eq_true] at h;exact⟨h.2,fun t ht=>by injection ht with ht; subst ht; simpa using h.1⟩
theorem yA {d:Option Tmp} {v:Value}:∀ (ds:List (Option Tmp)) (bs:List Bool) (vals:Nat->Value) (k i:Nat) (a:Act),nodupB ds=true->bs[i]?=some false->ds[i]?=some d->qH ds (bs.set i true) (yj vals (k+i) v) k a=(qH ds bs vals k a).put d v
 | [],_,_,_,_,_,_,_,hd=>by simp at hd
 | _ :: _,[],_,_,_,_,_,hb,_=>by simp at hb
 | d0 :: ds,b :: bs,vals,k,0,a,hn,hb,hd=>by
  simp only [List.getElem?_cons_zero,Option.some.injEq] at hb hd;subst hb hd;have hn':=yC hn
  show qH ds bs (yj vals (k+0) v) (k+1) (a.put d0 (yj vals (k+0) v k))=(qH ds bs vals (k+1) a).put d0 v
  rw [Zq _ _ _ _ _ hn'.2];have h1:yj vals (k+0) v k=v:=by simp [yj]
  rw [h1,Qb (vals':=vals) ds bs (k+1) a (fun j hj=>by unfold yj; rw [if_neg (by omega)])]
 | d0 :: ds,b :: bs,vals,k,i+1,a,hn,hb,hd=>by
  have hn':=yC hn;simp only [List.getElem?_cons_succ] at hb hd
  show qH ds (bs.set i true) (yj vals (k+(i+1)) v) (k+1) (if b=true then a.put d0 (yj vals (k+(i+1)) v k) else a)=(qH ds bs vals (k+1) (if b=true then a.put d0 (vals k) else a)).put d v
  have h1:yj vals (k+(i+1)) v k=vals k:=by unfold yj; rw [if_neg (by omega)]
  have h2:k+(i+1)=k+1+i:=by omega
  rw [h1,h2];exact yA ds bs vals (k+1) i _ hn'.1 hb hd
theorem wU {t:Nat}:∀ (ds:List (Option Tmp)) (bs:List Bool) (vals:Nat->Value) (k:Nat) (a:Act),ds.contains (some t)=false->(qH ds bs vals k a).tmps[t]?=a.tmps[t]?
 | [],_,_,_,_,_=>by unfold qH; rfl
 | _ :: _,[],_,_,_,_=>rfl
 | d0 :: ds,b :: bs,vals,k,a,h=>by
  simp only [List.contains_cons,Bool.or_eq_false_iff,beq_eq_false_iff_ne] at h
  show (qH ds bs vals (k+1) (if b=true then a.put d0 (vals k) else a)).tmps[t]?=_
  rw [wU ds bs vals (k+1) _ h.2];cases b with
  | false=>rfl
  | true=>exact Xy a d0 _ (fun e=>h.1 e.symm)
theorem yB {t:Nat}:∀ (ds:List (Option Tmp)) (bs:List Bool) (vals:Nat->Value) (k i:Nat) (a:Act),nodupB ds=true->bs[i]?=some true->ds[i]?=some (some t)->t < a.tmps.size->(qH ds bs vals k a).tmps[t]?=some (vals (k+i))
 | [],_,_,_,_,_,_,_,hd,_=>by simp at hd
 | _ :: _,[],_,_,_,_,_,hb,_,_=>by simp at hb
 | d0 :: ds,b :: bs,vals,k,0,a,hn,hb,hd,ht=>by
  simp only [List.getElem?_cons_zero,Option.some.injEq] at hb hd;subst hb hd;have hn':=yC hn
  show (qH ds bs vals (k+1) (a.put (some t) (vals k))).tmps[t]?=_
  rw [wU ds bs vals (k+1) _ (hn'.2 t rfl)];simp [Act.put,ht]
 | d0 :: ds,b :: bs,vals,k,i+1,a,hn,hb,hd,ht=>by
  have hn':=yC hn;simp only [List.getElem?_cons_succ] at hb hd
  show (qH ds bs vals (k+1) (if b=true then a.put d0 (vals k) else a)).tmps[t]?=_
  have h2:k+(i+1)=k+1+i:=by omega
  rw [h2];refine yB ds bs vals (k+1) i _ hn'.1 hb hd ?_
  split
  ·rw [q1Q]; exact ht
  ·exact ht
theorem fz {p:Nat->Prop}:∀ i,i < 0->p i:=fun i hi=>absurd hi (Nat.not_lt_zero i)
theorem fs {p:Nat->Prop} (h:∀ i,i < n->p i) (hn:p n):∀ i,i < n+1->p i:=fun i hi=>by
 rcases Nat.lt_succ_iff_lt_or_eq.1 hi with h1 | h1
 ·exact h i h1
 ·rw [h1]; exact hn
theorem oOf {T:Array Value} {l:List Value} {t:Nat} {v:Value} (h:T[t]?=l.toArray[t]?) (hv:l[t]?=some v):T[t]?=some v:=by
 rw [h,List.getElem?_toArray]; exact hv
theorem pr:(∀ (d:Nat) (ds:List Nat),sM (d :: ds)=some d :: sM ds)/\sM []=[]/\(∀ (m n:Nat),rQ (m+1) n=true :: rQ m n)/\(∀ (n:Nat),rQ 0 (n+1)=false :: rQ 0 n)/\rQ 0 0=[]/\(∀ (d:Option Tmp) (ds:List (Option Tmp)) (bs:List Bool) (vals:Nat->Value) (i:Nat) (a:Act),qH (d :: ds) (true :: bs) vals i a=qH ds bs vals (i+1) (a.put d (vals i)))/\(∀ (d:Option Tmp) (ds:List (Option Tmp)) (bs:List Bool) (vals:Nat->Value) (i:Nat) (a:Act),qH (d :: ds) (false :: bs) vals i a=qH ds bs vals (i+1) a)/\(∀ (bs:List Bool) (vals:Nat->Value) (i:Nat) (a:Act),qH [] bs vals i a=a) /\
  (∀ (a:Act) (d:Tmp) (v:Value),a.put (some d) v={ a with tmps:=a.tmps.setIfInBounds d v })/\(∀ (a:Act) (v:Value),a.put none v=a)/\(∀ (l:List Value) (i:Nat) (v:Value),l.toArray.setIfInBounds i v=(l.set i v).toArray)/\(∀ (x:Value) (l:List Value) (v:Value),(x :: l).set 0 v=v :: l)/\(∀ (x:Value) (l:List Value) (i:Nat) (v:Value),(x :: l).set (i+1) v=x :: l.set i v) :=
 ⟨fun _ _=>rfl,rfl,fun _ _=>rfl,fun _=>rfl,rfl,fun _ _ _ _ _ _=>rfl,fun _ _ _ _ _ _=>rfl,fun _ _ _ _=>by unfold qH; rfl,nr⟩
section
variable {P:Program} {ops:Array Oper} {Q:Exit->Act->World->Prop} {late:List Nat}
theorem Jh {S:World->Prop}:∀ (f:Nat) (listed:Array Bool) (a:Act) (w:World),Jn P ops Q S late f listed a w->Jn P ops Q S late (f+1) listed a w
 | 0,_,_,_,h=>⟨fun _=>h.2,fun i hi=>by rw [h.1] at hi; cases hi⟩
 | f+1,_,_,_,h=>⟨h.1,fun i hi=>wpOp_mono (fun a' w' h'=>⟨h'.1,Jh f _ a' w' h'.2⟩) (h.2 i hi)⟩
theorem Q9 {S:World->Prop} {f:Nat} (hfg:f<=g) {listed:Array Bool} {a:Act} (h:Jn P ops Q S late f listed a w):Jn P ops Q S late g listed a w:=by
 induction hfg with
 | refl=>exact h
 | step _ ih=>exact Jh _ _ _ _ ih
def cnt (listed:Array Bool):Nat->Nat
 | 0=>0
 | n+1=>cnt listed n+if listed.getD n false=true then 0 else 1
theorem X8 {listed:Array Bool} {i:Nat} (hi:i < listed.size) (hf:listed.getD i false=false):∀ n,cnt (listed.setIfInBounds i true) n+(if i < n then 1 else 0)=cnt listed n
 | 0=>by simp [cnt]
 | n+1=>by
  have ih:=X8 hi hf n;unfold cnt
  by_cases h:i=n
  ·subst h;have h1:(listed.setIfInBounds i true).getD i false=true:=by simp [hi]
   rw [h1,hf,if_pos rfl,if_pos (Nat.lt_succ_self i),if_neg (by decide)];rw [if_neg (Nat.lt_irrefl i)] at ih;omega
  ·rw [Go.getD_set_ne false h]
   have h2:(if i < n+1 then 1 else 0)=if i < n then 1 else 0:=by
    by_cases h3:i < n
    ·rw [if_pos h3,if_pos (by omega)]
    ·rw [if_neg h3,if_neg (by omega)]
   rw [h2];omega
def q1e (ops:Array Oper):Bool:=(List.range ops.size).all fun i=>(kV ops i).all fun j=>decide (j < i)
def q3Z (ops:Array Oper) (late:List Nat):Bool:=(List.range ops.size).all fun i=>late.contains i || jI ops late i
def KZ (ds:List (Option Tmp)) (n:Nat):Bool:=ds.all fun d=>match d with | some t=>decide (t < n) | none=>true
def lastB (ops:Array Oper) (late:List Nat):List Bool:=(List.range ops.size).map fun i=>!late.contains i
def q3R (ds:List (Option Tmp)) (late:List Nat) (t:Nat):Bool:=(List.range ds.length).all fun j=>late.contains j || (ds[j]? != some (some t))
theorem QM {t:Nat}:∀ (ds:List (Option Tmp)) (bs:List Bool) (vals:Nat->Value) (k:Nat) (a:Act),(∀ j:Nat,bs[j]?=some true->ds[j]?≠some (some t))->(qH ds bs vals k a).tmps[t]?=a.tmps[t]?
 | [],_,_,_,_,_=>by unfold qH; rfl
 | _ :: _,[],_,_,_,_=>rfl
 | d0 :: ds,b :: bs,vals,k,a,h=>by
  show (qH ds bs vals (k+1) (if b=true then a.put d0 (vals k) else a)).tmps[t]?=_
  rw [QM ds bs vals (k+1) _ (fun j hj=>h (j+1) hj)];cases b with
  | false=>rfl
  | true=>exact Xy a d0 _ (fun e=>h 0 rfl (by rw [e]; rfl))
theorem xN {ds:List (Option Tmp)} {late:List Nat} {listed:Array Bool} {t:Nat} (hl:ds.length=n) (h3:∀ j,late.contains j=true->j < n->listed.getD j false=false) (vals:Nat->Value) (a:Act) (h:q3R ds late t=true):(qH ds listed.toList vals 0 a).tmps[t]?=a.tmps[t]?:=by
 refine QM _ _ _ _ _ (fun j hj hd9=>?_);have hjl:j < ds.length:=(List.getElem?_eq_some_iff.1 hd9).1;have h1:=List.all_eq_true.1 h j (List.mem_range.2 hjl);rw [Bool.or_eq_true] at h1
 rcases h1 with h1 | h1
 ·have h2:=h3 j h1 (by omega);rw [Array.getElem?_toList] at hj;rw [Array.getD_eq_getD_getElem?,hj] at h2;cases h2
 ·rw [hd9] at h1;simp at h1
def Stp (P:Program) (ops:Array Oper) (Q:Exit->Act->World->Prop) (late:List Nat) (Js:List Mn) (ds:List (Option Tmp)) (a0:Act) (W:World) (i:Nat):Prop :=
 ∀ o,ops.toList[i]?=some o->∀ a w,Ext W w->(∀ t,q3R ds late t=true->a.tmps[t]?=a0.tmps[t]?) ->
  (∀ j,(kV ops i).contains j=true->∀ t,ds[j]?=some (some t)->∃ v,a.tmps[t]?=some v/\(Js[j]?.getD Mn.any).p v w) ->
  ∀ K:Act->World->Prop,Shut (∀ v w',Ext w w'->(Js[i]?.getD Mn.any).p v w'->K (a.put o.dst v) w')->if Region.wanted o (yielded ops a.tmps)=true then Oper.wp P o a w K Q else K (a.put o.dst undef) w
theorem stp {Js:List Mn} {ds:List (Option Tmp)} {a0:Act} {W:World} {i:Nat} {o:Oper} (hi:ops.toList[i]?=some o)
  (h:∀ a w,Ext W w->(∀ (t:Nat) (_:q3R ds late t=true:=by kernel_rfl),a.tmps[t]?=a0.tmps[t]?) ->
   (∀ (j t:Nat) (_:(kV ops i).contains j=true:=by kernel_rfl) (_:ds[j]?=some (some t):=by rfl),∃ v,a.tmps[t]?=some v/\(Js[j]?.getD Mn.any).p v w) ->
   ∀ K:Act->World->Prop,Shut (∀ v w',Ext w w'->(Js[i]?.getD Mn.any).p v w'->K (a.put o.dst v) w')->if Region.wanted o (yielded ops a.tmps)=true then Oper.wp P o a w K Q else K (a.put o.dst undef) w):Stp P ops Q late Js ds a0 W i:=by
 intro o' ho';rw [hi] at ho';cases ho'
 exact fun a w e hB hA=>h a w e hB (fun j t h1 h2=>hA j h1 t h2)
theorem QJ (hlow:q1e ops=true) {listed:Array Bool} (hsz:listed.size=ops.size):∀ n,n<=ops.size->(∀ i,i < n->listed.getD i false=true)->(∃ i,i < ops.size/\listed.getD i false=false)->∃ i,i∈Region.ready .any ops listed:=by
 intro n hn hall hex
 induction h:ops.size - n generalizing n with
 | zero =>
  obtain⟨i,hi,hf⟩:=hex;rw [hall i (by omega)] at hf; cases hf
 | succ k ih =>
  cases hl:listed.getD n false with
  | true=>exact ih (n+1) (by omega) (fun i hi=>by
    by_cases e:i=n
    ·rw [e]; exact hl
    ·exact hall i (by omega)) (by omega)
  | false =>
   refine⟨n,mem_ready.2 ⟨?_,?_⟩⟩
   ·have:n < listed.size:=by omega
    simp [this] at hl ⊢; exact hl
   ·have hlt:n < ops.size:=by omega
    refine⟨ops[n],by simp [hlt],fun e he hb=>?_⟩
    have h1:=List.all_eq_true.1 (List.all_eq_true.1 hlow n (by simpa using hlt)) e.on (by
     unfold kV;rw [Array.getElem?_eq_getElem hlt];simp only [List.mem_map,List.mem_filter]
     exact⟨e,⟨by simpa using he,hb⟩,rfl⟩)
    exact hall e.on (by simpa using h1)
theorem q59 {Js:List Mn} {ds:List (Option Tmp)} {a0:Act} {W:World} (hd:ops.toList.map (·.dst)=ds) (hnd:nodupB ds=true) (hsz:KZ ds a0.tmps.size=true) (hlow:q1e ops=true) (hlate:q3Z ops late=true)
  (hstep:∀ i,i < ops.size->late.contains i=false->Stp P ops Q late Js ds a0 W i) (hk:cnt (lastB ops late).toArray ops.size=k)
  (hdone:∀ vals w,Ext W w->(∀ j,j < ops.size->late.contains j=false->(Js[j]?.getD Mn.any).p (vals j) w)->xC P ops Q (fun _=>True) late k (lastB ops late).toArray (qH ds (lastB ops late) vals 0 a0) w) :
  ∀ (fuel:Nat) (listed:Array Bool) (vals:Nat->Value) (w:World),listed.size=ops.size->Closed ops listed->(∀ t,late.contains t=true->t < ops.size->listed.getD t false=false)->cnt listed ops.size<=fuel->Ext W w ->
   (∀ j,listed.getD j false=true->(Js[j]?.getD Mn.any).p (vals j) w)->Jn P ops Q (fun _=>True) late fuel listed (qH ds listed.toList vals 0 a0) w:=by
 intro fuel
 induction fuel with
 | zero =>
  intro listed vals w h1 h2 h3 h4 h5 h6
  by_cases hall:∀ i,i < ops.size->late.contains i=false->listed.getD i false=true
  ·have hL:listed=(lastB ops late).toArray:=by
    apply Array.ext
    ·simp [lastB,h1]
    ·intro i hi _;have hio:i < ops.size:=by omega
     have e1:listed[i]=listed.getD i false:=by simp [hi]
     rw [e1];simp only [lastB,List.getElem_toArray,List.getElem_map,List.getElem_range];cases hc:late.contains i with
     | false=>exact hall i hio hc
     | true=>exact h3 i hc hio
   subst hL;have:=hdone vals w h5 (fun j hj hc=>h6 j (hall j hj hc)) h2;rw [hk] at h4;exact Q9 h4 this
  ·exfalso
   apply hall
   intro i hi _
   have hz:∀ n,n<=ops.size->cnt listed n=0->∀ i,i < n->listed.getD i false=true:=by
    intro n
    induction n with
    | zero=>intro _ _ i hi; omega
    | succ n ih =>
     intro hn hc i hi;unfold cnt at hc
     by_cases e:i=n
     ·subst e
      by_cases hg:listed.getD i false=true
      ·exact hg
      ·rw [if_neg hg] at hc; omega
     ·exact ih (by omega) (by omega) i (by omega)
   exact hz ops.size (q_r) (by omega) i hi
 | succ fuel ih =>
  intro listed vals w h1 h2 h3 h4 h5 h6
  by_cases hall:∀ i,i < ops.size->late.contains i=false->listed.getD i false=true
  ·have hL:listed=(lastB ops late).toArray:=by
    apply Array.ext
    ·simp [lastB,h1]
    ·intro i hi _;have hio:i < ops.size:=by omega
     have e1:listed[i]=listed.getD i false:=by simp [hi]
     rw [e1];simp only [lastB,List.getElem_toArray,List.getElem_map,List.getElem_range];cases hc:late.contains i with
     | false=>exact hall i hio hc
     | true=>exact h3 i hc hio
   subst hL;have:=hdone vals w h5 (fun j hj hc=>h6 j (hall j hj hc)) h2;rw [hk] at h4;exact Q9 h4 this
  ·have hex:∃ i,i < ops.size/\late.contains i=false/\listed.getD i false=false:=by
    apply Classical.byContradiction
    intro hno
    apply hall
    intro i hi hc;cases hl:listed.getD i false with
    | true=>rfl
    | false=>exact absurd ⟨i,hi,hc,hl⟩ hno
   obtain⟨u,hu,huc,hul⟩:=hex;have hne:=QJ hlow h1 0 (Nat.zero_le _) (fun i hi=>by omega) ⟨u,hu,hul⟩;refine⟨fun h0=>?_,fun i hi=>?_⟩
   ·obtain⟨i,hi⟩:=hne; rw [h0] at hi; cases hi
   ·have hun:=jO hi;obtain⟨hun2,o,ho,-⟩:=mem_ready.1 hi;have hio:i < ops.size:=(Array.getElem?_eq_some_iff.1 ho).1
    have hic:late.contains i=false:=by
     cases hc:late.contains i with
     | false=>rfl
     | true =>
      have hw:=List.all_eq_true.1 hlate u (by simpa using hu);rw [huc,Bool.false_or] at hw;have:=xn hw h2 hi hc;rw [hul] at this; cases this
    have ho':ops.toList[i]?=some o:=by rw [Array.getElem?_toList]; exact ho
    have hdi:ds[i]?=some o.dst:=by rw [<-hd,List.getElem?_map,ho']; rfl
    have hbi:listed.toList[i]?=some false:=by
     rw [Array.getElem?_toList];have:i < listed.size:=by omega
     simp [this] at hun ⊢; exact hun
    refine wpOp_step ho (fun K' hK=>?_);refine hstep i hio hic o ho' _ w h5 (fun t ht=>xN (by rw [<-hd]; simp) h3 vals a0 ht) (fun j hj t ht=>?_) K' (fun v w' e hJ=>hK _ _ ⟨fun _ _=>trivial,?_⟩)
    ·have hjl:=kR hi j (by simpa using hj);refine⟨vals j,?_,h6 j hjl⟩
     have hjs:j < listed.size:=by
      rcases Nat.lt_or_ge j listed.size with h | h
      ·exact h
      ·simp [Array.getElem?_eq_none h] at hjl
     have:=yB ds listed.toList vals 0 j a0 hnd (by rw [Array.getElem?_toList]; simp [hjs] at hjl ⊢; exact hjl) ht (by
      have:=List.all_eq_true.1 hsz (some t) (List.mem_of_getElem? ht)
      simpa using this)
     rw [Nat.zero_add] at this;exact this
    ·have hc:=X8 (by omega:i < listed.size) hun ops.size;rw [if_pos hio] at hc;have hps:=yA (v:=v) ds listed.toList vals 0 i a0 hnd hbi hdi;rw [Nat.zero_add] at hps;rw [<-hps,<-Array.toList_setIfInBounds];refine ih (listed.setIfInBounds i true) (yj vals i v) w' (by simpa using h1) (h2.set hi) (fun t htl htn=>?_) (by omega) (h5.trans e) (fun j hj=>?_)
     ·rw [Go.getD_set_ne false (fun e=>by subst e; rw [hic] at htl; cases htl)];exact h3 t htl htn
     ·by_cases hji:i=j
      ·subst hji;have:yj vals i v i=v:=by simp [yj]
       rw [this]; exact hJ
      ·rw [Go.getD_set_ne false hji] at hj;have:yj vals i v j=vals j:=by unfold yj; rw [if_neg (fun e=>hji e.symm)]
       rw [this];exact (Js[j]?.getD Mn.any).mono e (h6 j hj)
theorem Vx (Js:List Mn) (ds:List (Option Tmp)) (late:List Nat) (bs:List Bool) (k:Nat) {id:Nat} {a0:Act} {W:World} (hm:P.follows .mixedOrders=true) (hd:ops.toList.map (·.dst)=ds) (hnd:nodupB ds=true) (hsz:KZ ds a0.tmps.size=true) (hlow:q1e ops=true) (hlate:q3Z ops late=true)
  (hb:lastB ops late=bs) (hk:cnt bs.toArray ops.size=k) (hstep:∀ i,i < ops.size->late.contains i=false->Stp P ops Q late Js ds a0 W i)
  (hdone:∀ vals w,Ext W w->(∀ j,j < ops.size->late.contains j=false->(Js[j]?.getD Mn.any).p (vals j) w)->xC P ops Q (fun _=>True) late k bs.toArray (qH ds bs vals 0 a0) w) :
  (Code.region id ops true).wp P Q a0 W:=by
 subst hb
 have h0:∀ n,qH ds (Array.replicate n false).toList (fun _=>undef) 0 a0=a0:=by
  intro n;simp only [Array.toList_replicate]
  have:∀ (ds:List (Option Tmp)) (n k:Nat),qH ds (List.replicate n false) (fun _=>undef) k a0=a0:=by
   intro ds
   induction ds with
   | nil=>intro n k; unfold qH; rfl
   | cons d ds ih =>
    intro n k;cases n with
    | zero=>rfl
    | succ n=>exact ih n (k+1)
  exact this ds n 0
 have hc0:∀ (n:Nat) (l:Array Bool),cnt l n<=n:=by
  intro n l
  induction n with
  | zero=>exact q_r
  | succ n ih=>unfold cnt; split <;> omega
 have hf0:∀ j,(Array.replicate ops.size false).getD j false=false:=fun j=>by
  rw [Array.getD_eq_getD_getElem?,Array.getElem?_replicate]; split <;> rfl
 have:=q59 (P:=P) (Q:=Q) (late:=late) hd hnd hsz hlow hlate hstep hk hdone ops.size (Array.replicate ops.size false) (fun _=>undef) W.drew (by simp) (Closed.start _) (fun t _ _=>hf0 t) (hc0 _ _) (Ext.refl W).drew (fun j hj=>by rw [hf0 j] at hj; cases hj);rw [h0] at this;exact wp_region_any hm (xP _ _ _ _ this)
def invB (P:Program) (ops:Array Oper) (ds:List (Option Tmp)) (late:List Nat) (bs:List Bool) (k n:Nat):Bool :=
 P.follows .mixedOrders && (decide (ops.toList.map (·.dst)=ds) && (nodupB ds && (KZ ds n && (q1e ops && (q3Z ops late && (decide (lastB ops late=bs) && decide (cnt bs.toArray ops.size=k)))))))
theorem xe (Js:List Mn) (ds:List (Option Tmp)) (late:List Nat) (bs:List Bool) (k:Nat) {id:Nat} {a0:Act} {W:World} (h:invB P ops ds late bs k a0.tmps.size=true) (hstep:∀ i,i < ops.size->late.contains i=false->Stp P ops Q late Js ds a0 W i)
  (hdone:∀ vals w,Ext W w->(∀ j,j < ops.size->late.contains j=false->(Js[j]?.getD Mn.any).p (vals j) w)->xC P ops Q (fun _=>True) late k bs.toArray (qH ds bs vals 0 a0) w) :
  (Code.region id ops true).wp P Q a0 W:=by
 unfold invB at h;simp only [Bool.and_eq_true,decide_eq_true_eq] at h;obtain⟨h1,h2,h3,h4,h5,h6,h7,h8⟩:=h;exact Vx Js ds late bs k h1 h2 h3 h4 h5 h6 h7 h8 hstep hdone
end
end Go.Proofs.YtphpkhoeplcedaaGreat
namespace Go.Proofs.YtphpkhoeplcedaaGreat
open Go.RowKit
variable {w w':World} {N n lo hi k g m base c b:Nat} {x:Rat} {z:Int} {s:Value} {R:Raw}
def Mn.rat (N:Nat) (q:Rat):Mn:=⟨fun v w=>qm N w v q,fun e h=>h.ext e⟩
def Mn.ls (N n:Nat) (x:Nat->Rat):Mn:=⟨fun v w=>LsV N 0 w.heap.size w v n x,fun e h=>LsR.wide (h.ext e) (q_r) e.size (q_r)⟩
def Mn.blk (lo:Nat) (o:Obj):Mn:=⟨fun v w=>∃ g,v=.pointer (some ⟨g,0,none⟩)/\lo<=g/\w.heap[g]?=some o,fun e h=>by
  obtain⟨g,h0,h1,h2⟩:=h
  exact⟨g,h0,h1,e.block h2⟩⟩
theorem XO {v:Value} {x:Nat->Rat} (h:Grow N base w v n x) (c:Chg g (g+1) w w') (hN:N<=g) (hd:v.ownBlock≠some g):Grow N base w' v n x:=by
 obtain⟨h1,h2,h3⟩:=h;refine⟨h1,q_l h2 c.size,?_⟩
 rcases h3 with h3 | ⟨g0,cap,rfl,hg,hm,hr⟩
 ·exact .inl h3
 ·have hne:g0≠g:=fun e=>hd (by rw [<-e]; rfl)
  exact .inr ⟨g0,cap,rfl,hg,hm,hr.chg c hN (by omega)⟩
theorem q0s {v:Value} {x:Nat->Rat} (h:Grow N base w v n x) (hk:v.ownBlock=some k):base<=k/\k < w.heap.size:=by
 obtain⟨h1,h2,⟨rfl,-⟩ | ⟨g0,cap,rfl,hg,hm,hr⟩⟩:=h
 ·simp [Value.ownBlock] at hk
 ·have:g0=k:=by simpa [Value.ownBlock] using hk
  subst this;exact⟨hg,hr.lt⟩
theorem q2e {v:Value} {x:Nat->Rat} (h:Grow N base w v n x):∃ g',base<=g'/\NoU w g'/\(∀ k,v.ownBlock=some k->k=g')/\(v.ownBlock=some g'\/g'=w.heap.size):=by
 obtain⟨h1,h2,⟨rfl,-⟩ | ⟨g0,cap,rfl,hg,hm,hr⟩⟩:=h
 ·exact⟨w.heap.size,h2,fun cs fr h=>by (rw [Array.getElem?_eq_none (q_r)] at h; cases h),fun k hk=>by simp [Value.ownBlock] at hk,.inr rfl⟩
 ·exact⟨g0,hg,hr.noU,fun k hk=>by simpa [Value.ownBlock] using hk.symm,.inl rfl⟩
theorem wK (t ty:TypeId) (ht:Tryz.prog.underlying t=some (.slice 29)) {v:Value} {x:Nat->Rat} (h:Grow N base w v n x)
 {neg:Bool} {u:Value} {q:Rat} {fr:Nat×Nat} (hb:w.heap[b]?=some (.cells #[.bool neg,s,.bool false,u] 29 fr)) (hneg:Hid (neg=decide (q.num < 0))) (hs:Gs N w s (dg q.num.natAbs)) (hu:Gs N w u (dg q.den)) (hn:n < 1000000000) :
  ∃ g cap w' g',(Builtin.append_ #[t,t] ty #[v,.slice (some ⟨b,0,none⟩) 1 1]).run Tryz.prog w=.ok (.slice (some ⟨g,0,none⟩) (n+1) cap) w'/\Grow N base w' (.slice (some ⟨g,0,none⟩) (n+1) cap) (n+1) (upd x n q)/\base<=g'/\Chg g' (g'+1) w w'/\(v.ownBlock=some g'\/g'=w.heap.size)/\(v.ownBlock=some g\/g=w.heap.size):=by
 obtain⟨i0,hi0,hz0,hz1,hz2⟩:=info_parts YU;obtain⟨g1,cap1,w1,hrun1,hG1,-,-⟩:=yK t ty ht h hb hneg hs hu hn;obtain⟨g',hg',hT,hk,hw9⟩:=q2e h;obtain⟨h1,h2,h3⟩:=h
 have hown:∃ xs,w.ownsRow base 29 4 v n xs:=by
  rcases h3 with ⟨rfl,rfl⟩ | ⟨g,cap,rfl,hg,hm,hr⟩
  ·exact⟨[],⟨by simp,.inl ⟨rfl,rfl⟩⟩⟩
  ·obtain⟨xs,hx,hc⟩:=Xo hr hm hg;exact⟨xs,hx⟩
 obtain⟨xs,hown⟩:=hown;obtain⟨As,ns,cs0,rfl,-,-,-⟩:=hs.form;obtain⟨Au,nu,cu,rfl,-,-,-⟩:=hu.form
 obtain⟨g,cap,w',hrun,ho,hgr,hat,hlt⟩:=run_append_lies (P:=Tryz.prog) w t ty base 29 i0 _ 4 64 ht hi0 hz0 hz1 hz2 rfl (by omega) v n xs hown ⟨b,0,none⟩ 1 1 [.bool neg,.slice As ns cs0,.bool false,.slice Au nu cu] rfl
  (fun j u hj=>by
   have e:(⟨b,0,none⟩:Addr).add j=⟨b,j,none⟩:=by
    unfold Addr.add; split
    ·rename_i e; subst e; rfl
    ·simp
   rw [e,qh hb]
   simpa using hj)
  (fun u hu=>by simp at hu; rcases hu with rfl | rfl | rfl | rfl <;> rfl) (by omega) (by unfold maxLen; omega) (by omega) h2 w.heap.size rfl
 rw [hrun1] at hrun;injection hrun with e1 e2
 injection e1 with e1 _ e3
 injection e1 with e1
 injection e1 with e1 _
 subst e1 e2 e3;exact⟨g1,cap1,w1,g',hrun1,hG1,hg',kD hgr hk hT,hw9,hat⟩
end Go.Proofs.YtphpkhoeplcedaaGreat
