import Derived.Test.YtfmddpahhloleaaGreatWb21
import Derived.Shelf.Bits.Mul64
import Derived.Laws.IdiomCopy
import Derived.Deep.RegionLaw
import Derived.Lib.SliceRun
set_option linter.all false
set_option maxHeartbeats 8000000
set_option maxRecDepth 100000
namespace Go.Proofs.YtfmddpahhloleaaGreat
open Go.RowKit
variable {w w':World} {N n lo hi k g i m base c b j:Nat} {v:Value} {R:Raw} {A:Option Addr}
theorem JC {lo2 hi2 lo' hi':Nat} {v1 v2 v3 v4:Value} {X:Nat->Nat->Rat} {y p x:Nat->Rat} (h1:MtV N lo hi w v1 m n X) (h2:LsV N lo2 hi2 w v2 m y) (h3:LsV N lo2 hi2 w v3 m p) (h4:LsV N lo' hi' w v4 n x) (hm0:0 < m) (hm:m<=64) (hn0:0 < n) (hn:n<=24) (hp:∀ i,i < m->0 < p i)
  {kx kv:Nat} (hkX:HtM m n k X) (hky:HtL m k y) (hkp:HtL m k p) (hkx:HtL n kx x) (hkx1:kx<=29000000000) (hkv0:kv=n*(k+kx+1)+1+k+1) (hK:m*(k+(kv+kv)+1)+1<=29000000000) :
  Calls Tryz.prog 45 #[.agg #[v1,v2,v3],v4] w (Y7 N w (obj m p (fun i=>av n X x i - y i))):=by
 have hkv:HtL m kv (fun i=>av n X x i - y i):=fun i hi=>by
  rw [hkv0];exact (y5 (n:=n) (k:=k+kx) (K:=n*(k+kx+1)+1) (fun c hc=>(hkX i hi c hc).mul (hkx c hc)) (q_r) (q_r)).sub (hky i hi)
 have h98:=Nat.le_mul_of_pos_left (k+(kv+kv)+1) hm0
 have HRS:Hid (∀ w1 v1 v2 v3 v4 lo hi lo2 hi2 lo' hi',MtV N lo hi w1 v1 m n X->LsV N lo2 hi2 w1 v2 m y->LsV N lo2 hi2 w1 v3 m p->LsV N lo' hi' w1 v4 n x->Calls Tryz.prog 110 #[.agg #[v1,v2,v3],v4] w1 (q2R N w1 m (fun i=>av n X x i - y i))) :=
  fun w1 v1 v2 v3 v4 lo hi lo2 hi2 lo' hi' g1 g2 g3 g4=>JA g1 g2 g3 g4 (by omega) hn0 (by omega) hkX hky hkx (by omega)
 have HGV:Hid (∀ w1,Ext w w1->Calls Tryz.prog 108 #[.agg #[v1,v2,v3],v4] w1 (zL w1 (.int .i64 0))):=fun w1 e1=>by
  have h9:=q48 (QN (h1.ext e1) (h2.ext e1) (h3.ext e1)) (h4.ext e1) (yT hkX hky hkp (by omega)) (fun i hi=>(hkp i hi).sz (by omega)) (fun i hi=>((hkx i hi).sz hkx1).raw);rw [q2j hm0 hm hn0 hn hp] at h9;exact h9
 clear h98 hkX hky hkx hkv0;obtain⟨vv,hvv⟩:=qc (fun i=>av n X x i - y i);rw [<-hvv.out] at hkv HRS ⊢;have h9:=Nat.le_mul_of_pos_left (k+(kv+kv)+1) hm0
 have HSS:Hid (∀ i,i < m->Sz (vv i)/\Sz (p i)/\Sz (vv i*vv i)/\Sz (p i*(vv i*vv i))):=fun i hi =>
  ⟨(hkv i hi).sz (by omega),(hkp i hi).sz (by omega),((hkv i hi).mul (hkv i hi)).sz (by omega),((hkp i hi).mul ((hkv i hi).mul (hkv i hi))).sz (by omega)⟩
 have HSU:Hid (∀ i,i<=m->Sz (sum i (fun i=>p i*(vv i*vv i)))):=fun i hi=>(y5 (n:=m) (k:=k+(kv+kv)) (K:=29000000000) (fun t ht=>(hkp t ht).mul ((hkv t ht).mul (hkv t ht))) hi hK).sz (q_r)
 obtain⟨S,hS⟩:=qc (obj m p vv);rw [<-hS.out];obtain⟨Rf,hRf⟩:=qc (Y7 N w S);rw [<-hRf.out];have hN:=h1.le;obtain⟨A1,c1,rfl,hmc,hcm⟩:=h1.form;obtain⟨A2,c2,rfl,hmc2,hcm2⟩:=h2.form;obtain⟨A3,c3,rfl,hmc3,hcm3⟩:=h3.form;obtain⟨A4,c4,rfl,hmc4,hcm4⟩:=h4.form;have hI1:=h1;have hI2:=h2;have hI3:=h3;have hI4':=h4;clear h1 h2 h3 h4 hkp hkv hK h9 hp hkx1;go_enter Tryz.func45,Tryz.ntmps45;go_upto_region 1 with (fail);refine kG ?_;intro W hE hsz B0 B1;obtain⟨a0,a1,a2,-⟩:=cells3 B0;go_wp2_with (go_at_call 108; refine q_o ?_);refine (HGV.out W hE).mono ?_;rintro e w1 ⟨rfl,e1⟩;replace hE:=hE.trans e1;replace B0:=e1.block B0;replace B1:=e1.block B1;clear a0 a1 a2 e1 hsz HGV;go_wp2_with (go_at_call 109; refine q_o ?_);refine (f_whole (N:=N) (by have:=hE.size; omega) 0 (by omega) (by omega)).mono ?_;intro e w2 hh;obtain⟨b3,A9,k9,c9,A10,k10,c10,rfl,hb3,g3,g4,e2⟩:=hh.form;replace hE:=hE.trans e2;replace B0:=e2.block B0;replace B1:=e2.block B1;have hb1':w.heap.size+1 < w2.heap.size:=qG B1;clear e2 hh;go_upto_region 5 with (fail);refine qo ?_;intro w3 e3 hsz3 B3;have HS0:Hid (((0:Int):Rat)=sum 0 (fun i=>p i*(vv i*vv i))):=rfl;rw [HS0.out] at hb3 g3 g4;have hBx:kW N w3 w2.heap.size (sum 0 (fun i=>p i*(vv i*vv i))):=kW.mk B3 hb3 (g3.ext e3) (g4.ext e3);clear B3 g3 g4 hb3;obtain⟨a0,a1,a2,-⟩:=cells3 (e3.block B0);go_wp2_with (go_at_call 110; refine q_o ?_);refine (HRS.out _ _ _ _ _ _ _ _ _ _ _ (hI1.ext (hE.trans e3)) (hI2.ext (hE.trans e3)) (hI3.ext (hE.trans e3)) (hI4'.ext (hE.trans e3))).mono ?_
 rintro e w4 ⟨A4',c4',rfl,hI4,e4⟩;replace hBx:=hBx.ext e4;have e34:=e3.trans e4;have hs23:w2.heap.size+1<=w3.heap.size:=hsz3;have hs34:=e34.size;have hs33:=e4.size;clear a0 a1 a2 e3 HRS e4;go_wp2
 go_loopw [22] (fun i wr=>∃ a:Nat,a<=m/\i=.int .i64 a/\Chg w2.heap.size (w2.heap.size+1) w4 wr/\w2.heap.size < wr.heap.size/\kW N wr w2.heap.size (sum a (fun i=>p i*(vv i*vv i)))) (fun i _=>m - (intOf i).toNat)
 case atStart=>exact⟨0,Nat.zero_le _,rfl,Chg.refl _ _ _,by omega,hBx⟩
 case round =>
  clear hBx hsz3;obtain⟨a,ha,rfl,hCg,hsz3,hBx⟩:=hrel;have e3:=hCg.ext e34 (q_r);have hI4r:=hI4.chg hCg (by have:=hE.size; omega) (.inr hs23);have B1r:=e3.block B1
  by_cases hlt:a < m
  ·obtain⟨b,off,rfl,-,-,hx⟩:=hI4r.addr (by omega);obtain⟨n1,A6,k6,c6,A12,k12,c12,p0,p1,p2,p3,hb1,g1,g2⟩:=(hx a hlt).open;obtain⟨b5,off5,rfl,-,-,hx5⟩:=(hI3.ext (hE.trans e3)).addr (by omega);obtain⟨n5,A13,k13,c13,A14,k14,c14,q0,q1,q2,q3,hb5,g5,g6⟩:=(hx5 a hlt).open;clear hx hx5;go_upto_region 8 with (fail);refine qo ?_;intro w5 e5 hsz5 B5;obtain⟨b3,A9,k9,c9,A10,k10,c10,BS,hb3,g3,g4⟩:=hBx.ext e5;obtain⟨s0,s1,s2,s3,-⟩:=cells4 BS;obtain⟨t0,t1,t2,t3,-⟩:=cells4 B5;obtain⟨a0,a1,a2,-⟩:=cells3 (e5.block (e3.block B0));replace q0:=e5.cell q0;replace q1:=e5.cell q1;replace q2:=e5.cell q2;replace q3:=e5.cell q3;replace g1:=g1.ext e5;replace g2:=g2.ext e5;replace g5:=g5.ext e5;replace g6:=g6.ext e5;have hC5:=hCg.trans (e5.chg _ _);obtain⟨hS1,hS2,hS3,hS4⟩:=HSS.out a hlt;have HS1:=q_h hS1;have HS2:=q_h hS2;have HS3:=q_h hS3;have HS4:=q_h hS4;have HS5:=q_h (HSU.out a ha);obtain⟨gz,hgz⟩:∃ gz,gz=wr.heap.size:=⟨_,rfl⟩
   rw [<-hgz] at t0 t1 t2 t3 hsz5 hsz3 ⊢;clear p0 p1 p2 p3 B5 hBx e5 hS1 hS2 hS3 hS4 a0 a1 hgz B1r e3;have eC:=(Ext.refl w5).drew;refine qm (fun w'=>w'.cell? ⟨w2.heap.size,0,none⟩=some (.bool b3)/\w'.cell? ⟨w2.heap.size,1,none⟩=some (.slice A9 k9 c9)/\w'.cell? ⟨w2.heap.size,2,none⟩=some (.bool false)/\w'.cell? ⟨w2.heap.size,3,none⟩=some (.slice A10 k10 c10)/\w'.cell? ⟨gz,0,none⟩=some (.bool n1)/\w'.cell? ⟨gz,1,none⟩=some (.slice A6 k6 c6)/\w'.cell? ⟨gz,2,none⟩=some (.bool false)/\w'.cell? ⟨gz,3,none⟩=some (.slice A12 k12 c12)/\w'.cell? ⟨w.heap.size,2,none⟩=some (.slice (some ⟨b5,off5,none⟩) m c3)/\w'.cell? ⟨b5,off5+a*4,none⟩=some (.bool n5)/\w'.cell? ⟨b5,off5+a*4+1,none⟩=some (.slice A13 k13 c13)/\w'.cell? ⟨b5,off5+a*4+2,none⟩=some (.bool false)/\w'.cell? ⟨b5,off5+a*4+3,none⟩=some (.slice A14 k14 c14)) [11] (by kernel_rfl) (by exact⟨eC.cell s0,eC.cell s1,eC.cell s2,eC.cell s3,eC.cell t0,eC.cell t1,eC.cell t2,eC.cell t3,eC.cell a2,eC.cell q0,eC.cell q1,eC.cell q2,eC.cell q3⟩) (fun hHeld=>?_);refine sT 0 (h:=?_);try simp only [nr]
   refine sP 1 (h:=?_);try simp only [nr]
   refine sT 2 (h:=?_);try simp only [nr]
   refine sP 3 (h:=?_);try simp only [nr]
   refine sP 4 (h:=?_);try simp only [nr]
   refine sT 5 (h:=?_);try simp only [nr]
   refine sT 6 (h:=?_);try simp only [nr]
   refine sT 7 (h:=?_);try simp only [nr]
   refine qj (i:=8) rfl (by kernel_rfl) (fun K hK=>?_);go_simp;refine (KY (x:=vv a) (y:=vv a) (by exact (qY.mk hb1 g1 g2).ext eC) (by exact (qY.mk hb1 g1 g2).ext eC) HS1.out HS1.out).mono ?_;rintro e w6 ⟨v6,rfl,h6,e6⟩;replace eC:=eC.trans e6;go_wp2_with fail;clear hHeld;refine hK.out _ _ (by exact⟨eC.cell s0,eC.cell s1,eC.cell s2,eC.cell s3,eC.cell t0,eC.cell t1,eC.cell t2,eC.cell t3,eC.cell a2,eC.cell q0,eC.cell q1,eC.cell q2,eC.cell q3⟩) fun hHeld=>?_
   clear hK K;try simp only [nr]
   refine qj (i:=9) rfl (by kernel_rfl) (fun K hK=>?_);go_simp;refine (KY (x:=p a) (y:=vv a*vv a) (by exact (qY.mk hb5 g5 g6).ext eC) (by exact h6) HS2.out HS3.out).mono ?_;rintro e w7 ⟨v7,rfl,h7,e7⟩;replace eC:=eC.trans e7;go_wp2_with fail;clear hHeld;refine hK.out _ _ (by exact⟨eC.cell s0,eC.cell s1,eC.cell s2,eC.cell s3,eC.cell t0,eC.cell t1,eC.cell t2,eC.cell t3,eC.cell a2,eC.cell q0,eC.cell q1,eC.cell q2,eC.cell q3⟩) fun hHeld=>?_
   clear hK K;try simp only [nr]
   refine qj (i:=10) rfl (by kernel_rfl) (fun K hK=>?_);go_simp;refine (f_add (x:=sum a (fun i=>p i*(vv i*vv i))) (y:=p a*(vv a*vv a)) (by exact (qY.mk hb3 g3 g4).ext eC) (by exact h7) HS5.out HS4.out).mono ?_;intro e w8 hh;obtain⟨b9,A15,k15,c15,A16,k16,c16,rfl,hb9,g9,g10,e8⟩:=hh.form;replace eC:=eC.trans e8;have D0:=eC.block BS;obtain⟨u0,u1,u2,u3,u4,u5,u6,u7⟩:=cells4 D0;go_wp2_with fail;clear hHeld;refine hK.out _ _ (by exact⟨eC.cell s0,eC.cell s1,eC.cell s2,eC.cell s3,eC.cell t0,eC.cell t1,eC.cell t2,eC.cell t3,eC.cell a2,eC.cell q0,eC.cell q1,eC.cell q2,eC.cell q3⟩) fun hHeld=>?_
   clear hK K;try simp only [nr]
   refine ql (i:=11) rfl (by kernel_rfl) (by kernel_rfl) (fun K hK=>?_);go_simp;refine hK.out _ _ ?_;clear hK K;try simp only [nr]
   refine qh (by kernel_rfl) ?_ _;clear hHeld;obtain⟨w9,E9,hB9,K9,hs9⟩:=ZG (q:=sum (a+1) (fun i=>p i*(vv i*vv i))) D0 (by have:=hE.size; omega) hb9 g9 g10;rw [E9];have hC9:=(hC5.trans (eC.chg _ _)).trans K9;have hs10:w2.heap.size < w9.heap.size:=by have:=eC.size; omega
   clear E9 K9 D0 s0 s1 s2 s3 t0 t1 t2 t3 u0 u1 u2 u3 u4 u5 u6 u7 BS g1 g2 g3 g4 g9 g10 hb1 hb3 hb9 hb5 g5 g6 q0 q1 q2 q3 a2;go_wp2;go_roundw
   case rel=>exact⟨a+1,by omega,by go_num,hC9,hs10,hB9⟩
   case measure=>simp [intOf]; omega
  ·obtain rfl:m=a:=by omega
   obtain⟨b3,A9,k9,c9,A10,k10,c10,BS,hb3,g3,g4⟩:=hBx;have HSX:Hid (sum m (fun i=>p i*(vv i*vv i))=S):=hS.out.symm;rw [HSX.out] at hb3 g3 g4;obtain⟨s0,s1,s2,s3,-⟩:=cells4 BS;obtain⟨t0,t1,t2,t3,t4,t5,t6,t7⟩:=cells4 B1r;go_wp2;obtain⟨w12,E12,F2,U⟩:=ex4 B1r (.bool b3) (.slice A9 k9 c9) (.bool false) (.slice A10 k10 c10);rw [E12];obtain⟨z0,z1,z2,z3,-⟩:=cells4 F2;have hT:=NoU.mk B1r (by decide);refine bodyPost_ret (v:=.tuple #[.agg #[.bool b3,.slice A9 k9 c9,.bool false,.slice A10 k10 c10],.int .i64 0]) ?_ rfl ?_
   ·simp [results,Tryz.results45,z0,z1,z2,z3,go_sem]
   rw [hRf.out];exact⟨_,rfl,qY.mk hb3 (g3.upd U (by omega) hT) (g4.upd U (by omega) hT),U.ext (hE.trans e3) (by omega)⟩
theorem Xc (g:Nat):∀ (vs:List Value) (o:Nat) (w w':World),Upd g w w'->Upd g w (w'.setCells g o vs)
 | [],_,_,_,h=>h
 | v :: r,o,w,w',h=>Xc g r (o+1) w _ (h.set o v)
theorem XY (g:Nat) (t:TypeId) (fr:Nat×Nat):∀ (vs:List Value) (o:Nat) (cs:Array Value) (w:World),w.heap[g]?=some (.cells cs t fr)->∃ cs',(w.setCells g o vs).heap[g]?=some (.cells cs' t fr)/\cs'.size=cs.size
 | [],_,cs,_,h=>⟨cs,h,rfl⟩
 | v :: r,o,cs,w,h=>by
  obtain⟨cs',h1,h2⟩:=XY g t fr r (o+1) _ (w.setCell ⟨g,o,none⟩ v) (heap_set h o v);exact⟨cs',h1,by rw [h2]; simp⟩
theorem xy (b o j:Nat):(⟨b,o,none⟩:Addr).add j=⟨b,o+j,none⟩:=by unfold Addr.add; split <;> simp_all
theorem At4.one {o:Nat} (h:At4 N w b o R) {r:Nat} (hr:r < 4):∃ v,w.cell? ⟨b,o+r,none⟩=some v/\v.oneCell'=true:=by
 obtain⟨A,n,c,A',n',c',h0,h1,h2,h3,-⟩:=h.val;have hr':r=0\/r=1\/r=2\/r=3:=by omega
 rcases hr' with rfl | rfl | rfl | rfl
 ·exact⟨_,h0,rfl⟩
 ·exact⟨_,h1,rfl⟩
 ·exact⟨_,h2,rfl⟩
 ·exact⟨_,h3,rfl⟩
def Z5 (base:Nat) (w:World) (v:Value) (xs:List Value):Prop:=base<=w.heap.size/\w.ownsRow base 24 1 v xs.length xs
theorem Z5.empty (hb:base<=g) (h:w.heap[g]?=some (.cells #[] 24 (0,0))):Z5 base w (.slice (some ⟨g,0,none⟩) 0 0) [] :=
 ⟨q_l hb (Nat.le_of_lt (qG h)),rfl,.inr ⟨g,0,#[],rfl,hb,h,q_r,by unfold maxLen; omega,rfl,rfl⟩⟩
theorem Z5.ext {xs:List Value} (h:Z5 base w v xs) (e:Ext w w'):Z5 base w' v xs:=by
 obtain⟨h0,h1,h2⟩:=h;refine⟨q_l h0 e.size,h1,?_⟩
 rcases h2 with h2 | ⟨g,cap,cur,hv,hb,hg,h3⟩
 ·exact .inl h2
 ·exact .inr ⟨g,cap,cur,hv,hb,e.block hg,h3⟩
theorem Z5.noU {xs:List Value} (h:Z5 base w v xs):∃ g',base<=g'/\NoU w g'/\(∀ k,v.ownBlock=some k->k=g')/\(v.ownBlock=some g'\/g'=w.heap.size):=by
 obtain⟨h0,-,h2⟩:=h
 rcases h2 with ⟨rfl,-⟩ | ⟨g,cap,cur,rfl,hb,hg,-⟩
 ·exact⟨w.heap.size,h0,fun cs fr h=>by (rw [Array.getElem?_eq_none (q_r)] at h; cases h),fun k hk=>by simp [Value.ownBlock] at hk,.inr rfl⟩
 ·exact⟨g,hb,NoU.mk hg (by decide),fun k hk=>by simpa [Value.ownBlock] using hk.symm,.inl rfl⟩
theorem Z5.at_ {xs:List Value} (h:Z5 base w v xs) (hn:0 < xs.length):∃ g cap,v=.slice (some ⟨g,0,none⟩) xs.length cap/\cap<=maxLen/\xs.length<=cap/\∀ j (hj:j < xs.length),w.cell? ⟨g,j,none⟩=some xs[j]:=by
 obtain⟨-,-,h2⟩:=h
 rcases h2 with ⟨-,h⟩ | ⟨g,cap,cur,hv,hb,hg,hnc,hcm,hcs,htk⟩
 ·omega
 ·refine⟨g,cap,hv,hcm,hnc,fun j hj=>?_⟩;rw [qx hg];have h9:(cur.toList.take (xs.length*1))[j]?=some xs[j]:=by rw [htk]; exact List.getElem?_eq_getElem hj
  rw [List.getElem?_take] at h9;rw [if_pos (by omega)] at h9;simpa using h9
def q1e (N:Nat) (w:World) (n:Nat) (x:Nat->Rat) (e:Ending) (w':World):Prop :=
 ∃ g cap,e=.returned (.slice (some ⟨g,0,none⟩) n cap)/\w.heap.size<=g/\cap<=maxLen/\n<=cap/\zC N w' g cap n x/\Ext w w'
theorem Yd {x:Nat->Rat} (h:LsV N lo hi w v n x) (hn0:0 < n) (hn:n < 1000000) :
  Calls Tryz.prog 118 #[v] w (q1e N w n x):=by
 obtain⟨Rf,hRf⟩:=qc (q1e N w n x);rw [<-hRf.out];have hN:=h.le;obtain⟨A1,c1,rfl,hmc,hcm⟩:=h.form;obtain⟨b,off,rfl,-⟩:=LsV.addr h hn0;have hI:=h;clear h;have hnl:=fun (w:World) (a:Option Addr) (n c:Nat)=>Lib.run_eql_slice_nil (P:=Tryz.prog) w 24 58 a n c 0 0 Tryz.underlying24
 go_enter Tryz.func118,Tryz.ntmps118;go_wp2_with (at_builtin; refine q_o ?_);refine qo ?_;intro W hE hsz B0;refine xm rfl _ _ 24 Tryz.underlying24 rfl (by rfl) (Grow.empty hN (q_r) B0 x) (by rfl) (hI.ext hE) (by omega:0+n < 1000000000) ?_;rintro A' c' w2 hG ⟨g',hg',C2,-⟩;have hE2:=C2.ext hE hg';rw [Nat.zero_add] at hG ⊢;obtain⟨g,cap,hv,hg,hgs,hcm2,hnc,hrw⟩:=hG.some hn0;injection hv with e1 e2 e3
 subst e1 e3;go_wp2
 first | go_ret | skip
 rw [hRf.out];exact⟨g,c',rfl,hg,hcm2,hnc,hrw.congr (fun j hj=>by unfold cat; rw [if_neg (by omega)]; rfl),hE2⟩
theorem LsV.sub {off:Nat} {x:Nat->Rat} (h:LsV N lo hi w (.slice (some ⟨b,off,none⟩) n c) n x) {l r:Nat} (hl:l < r) (hr:r<=n) {c':Nat} (hc:r - l<=c') (hm:c'<=maxLen) :
  LsV N lo hi w (.slice (some ⟨b,off+l*4,none⟩) (r - l) c') (r - l) (fun j=>x (l+j)):=by
 obtain⟨b',off',hA,h1,h2,hx⟩:=LsV.addr h (by omega);obtain⟨rfl,rfl⟩:b=b'/\off=off':=by injection hA with hA; injection hA with e1 e2; exact⟨e1,e2⟩
 refine⟨h.1,h.2.1,_,c',rfl,hc,hm,fun _=>⟨b,off+l*4,rfl,h1,h2,fun i hi=>?_⟩⟩;have h9:=hx (l+i) (by omega);rw [show off+(l+i)*4=off+l*4+i*4 by omega] at h9;exact h9
theorem MtV.sub {off:Nat} {X:Nat->Nat->Rat} (h:MtV N lo hi w (.slice (some ⟨b,off,none⟩) m c) m n X) {l r:Nat} (hl:l < r) (hr:r<=m) {c':Nat} (hc:r - l<=c') (hm:c'<=maxLen) :
  MtV N lo hi w (.slice (some ⟨b,off+l,none⟩) (r - l) c') (r - l) n (fun i=>X (l+i)):=by
 obtain⟨h1,h2,A,c0,hv,h3,h4,h5⟩:=h;obtain⟨b',off',hA,h6,h7,hx⟩:=h5 (by omega);injection hv with e1 e2 e3
 rw [<-e1] at hA;injection hA with hA
 injection hA with e4 e5
 subst e4 e5;refine⟨h1,h2,_,c',rfl,hc,hm,fun _=>⟨b,off+l,rfl,h6,h7,fun i hi=>?_⟩⟩;obtain⟨u,hu,hr'⟩:=hx (l+i) (by omega);exact⟨u,by rw [<-Nat.add_assoc] at hu; exact hu,hr'⟩
theorem XI {X:Nat->Nat->Rat} (h:MtV N lo hi w v m n X) (t b l r:Nat) {tz bz lz rz:Int} (htz:tz=(t:Int)) (hbz:bz=(b:Int)) (hlz:lz=(l:Int)) (hrz:rz=(r:Int)) (ht:t < b) (hb:b<=m) (hl:l < r) (hr:r<=n) (hm:m < 1000000) (hn:n < 1000000) :
  Calls Tryz.prog 54 #[v,.int .i64 tz,.int .i64 bz,.int .i64 lz,.int .i64 rz] w (q1g N w (b - t) (r - l) (fun i j=>X (t+i) (l+j))):=by
 subst htz hbz hlz hrz;have hN:=h.le;obtain⟨A,c,rfl,hmc,hcm⟩:=h.form;unfold maxLen at hcm;obtain⟨gb,off,rfl,-,-,-⟩:=h.addr (by omega);have hS:MtV N lo hi w (.slice (some ⟨gb,off+t,none⟩) (b - t) (b - t)) (b - t) n (fun i=>X (t+i)):=MtV.sub h ht hb (q_r) (by unfold maxLen; omega);obtain⟨mm',hmm⟩:∃ k,k=b - t:=⟨_,rfl⟩
 have hmm0:0 < mm':=by omega
 obtain⟨Z,hZ⟩:=qc (fun i j=>X (t+i) (l+j));obtain⟨Rf,hRf⟩:=qc (q1g N w (b - t) (r - l) Z);rw [<-hZ.out,<-hRf.out];have HM:=q_h hmm;clear h hmm;go_enter Tryz.func54,Tryz.ntmps54;have ht1:¬ t=c:=by omega
 go_wp2
 go_loopw [11,20] (fun v i wr=>∃ k:Nat,k<=b - t/\i=.int .i64 k/\Ext w wr/\∃ A c,v=.slice A k c/\zI N w.heap.size wr.heap.size wr (.slice A k c) k (r - l) Z) (fun _ i _=>(b - t) - (intOf i).toNat)
 case atStart=>exact⟨0,Nat.zero_le _,rfl,Ext.refl w,_,_,rfl,zI.nil hN (q_r) (q_r) _⟩
 case round =>
  obtain⟨k,hk,rfl,hE,A',c',rfl,hG⟩:=hrel;have hsE:=hE.size
  by_cases hlt:k < b - t
  ·obtain⟨gb',off',hA,-,-,hx⟩:=(hS.ext hE).addr (by omega);obtain⟨rfl,rfl⟩:gb=gb'/\off+t=off':=by injection hA with hA; injection hA with e1 e2; exact⟨e1,e2⟩
   obtain⟨A1,c1,o0,hnc,hcm1,hrow⟩:=hx k hlt;obtain⟨br,offr,rfl,-,-,-⟩:=hrow.addr (by omega);have hsub:=LsV.sub hrow hl hr (Nat.le_refl (r - l)) (by unfold maxLen; omega);have hl1:¬ l=c1:=by omega
   unfold maxLen at hcm1;clear hx hA;go_wp2_with (go_at_call 118; refine q_o ?_);refine (Yd hsub (by omega) (by omega)).mono ?_;rintro e w6 ⟨g6,cap6,rfl,hg6,hcm6,hnc6,hr6,e6⟩;clear o0;go_wp2_with (at_builtin; refine q_o ?_);refine qo ?_;intro w7 e7 hsz7 BX;refine kK rfl _ _ 23 Tryz.underlying23 rfl rfl ((hG.ext e6).ext e7) rfl (hr6.ext e7) hg6 hcm6 BX (by omega) ?_;rintro h' cap' w8 hG8 ⟨g',hg',c8,-⟩;have hE8:=c8.ext ((hE.trans e6).trans e7) (by omega);replace hG8:=hG8.congr (B:=Z) (fun i _ j _=>by unfold xK; split; (rename_i e; subst e; rw [hZ.out]); rfl);clear hG c8 hr6 BX e6 e7 hsub hrow hE;go_wp2;go_roundw
   case rel=>exact⟨k+1,by omega,by go_num,hE8,_,_,rfl,hG8⟩
   case measure=>simp [intOf]; omega
  ·obtain rfl:b - t=k:=by omega
   go_wp2
   first | go_ret | skip
   rw [hRf.out];exact⟨A',c',rfl,hG.mtv,hE⟩
theorem Vr (hN:N<=w.heap.size) (m n:Nat) {M' N':Int} (hM':M'=(m:Int)) (hN':N'=(n:Int)) (hm:m < 1000000) (hn:n < 1000000) (X:Nat->Nat->Rat) {ga gb:Nat}
  (hf:∀ i,i < m->∀ j,j < n->∀ w',Ext w w'->Calls Tryz.prog 142 #[.int .i64 (i:Int),.int .i64 (j:Int),.pointer (some ⟨ga,0,none⟩),.pointer (some ⟨gb,0,none⟩)] w' (jm N w' (X i j))) :
  Calls Tryz.prog 136 #[.int .i64 M',.int .i64 N',.func (.func 142) #[] #[.pointer (some ⟨ga,0,none⟩),.pointer (some ⟨gb,0,none⟩)]] w (kU N w m n X):=by
 subst hM' hN';have HF:=q_h hf;clear hf;go_enter Tryz.func136,Tryz.ntmps136;go_wp2_with (at_make; refine q_o ?_);refine qV rfl _ _ rfl .i64 .i64 _ _ m rfl rfl rfl rfl hm ?_;intro w1 cs B0 hcs e1;have ho:zu N w.heap.size w1.heap.size w1 w.heap.size m 0 n (fun _=>0) (fun _=>0) X:=zu.start hN (q_r) B0 hcs X (qG B0) (q_r);have hs1:w.heap.size < w1.heap.size:=qG B0;clear B0;have HCS:=q_h hcs;clear hcs;go_wp2
 go_loopw [14] (fun i wr=>∃ k:Nat,k<=m/\i=.int .i64 k/\Ext w wr/\∃ β κ,zu N w.heap.size wr.heap.size wr w.heap.size m k n β κ X) (fun i _=>m - (intOf i).toNat)
 case atStart=>exact⟨0,Nat.zero_le _,rfl,e1,_,_,ho⟩
 case round =>
  clear ho e1;obtain⟨k,hk,rfl,hE,β,κ,ho⟩:=hrel;have hsr:w.heap.size < wr.heap.size:=by have:=ho.hhi; omega
  by_cases hlt:k < m
  ·go_wp2_with (at_make; refine q_o ?_);refine qK rfl _ _ rfl .i64 .i64 _ _ n rfl rfl rfl rfl hn ?_;intro w2 cs2 B2 hcs2 e2;have ho2:=ho.ext e2;have hR:zC N w2 wr.heap.size n 0 (X k):=⟨by omega,Nat.zero_le _,⟨cs2,B2,hcs2⟩,fun j hj=>by omega⟩
   obtain⟨u0,z0⟩:=ho2.hthere hlt;have z1:=ho2.hfrozen k;have hs2:wr.heap.size < w2.heap.size:=qG B2;have HCS2:=q_h hcs2;clear B2 hcs2 ho;go_upto_region 6 with (fail);obtain⟨w3,E3,C3,hs3,y0,ho3⟩:=ho2.setHead (Nat.le_refl k) hlt (.slice (some ⟨wr.heap.size,0,none⟩) n n);rw [E3];replace hE:=C3.ext (hE.trans e2) (q_r);replace hR:=hR.chg C3 (by omega) (by omega);have hs4:wr.heap.size < w3.heap.size:=by omega
   generalize hgr:wr.heap.size=gr at *
   clear hgr E3 C3 hs3 ho2 z0 z1 e2 hs2;have Y0:=y0;go_wp2
   go_loopw [27] (fun i ws=>∃ j:Nat,j<=n/\i=.int .i64 j/\Ext w ws/\gr < ws.heap.size/\ws.cell? ⟨w.heap.size,k,none⟩=some (.slice (some ⟨gr,0,none⟩) n n)/\zu N w.heap.size gr ws w.heap.size m k n β κ X/\zC N ws gr n j (X k)) (fun i _=>n - (intOf i).toNat)
   case atStart=>exact⟨0,Nat.zero_le _,rfl,hE,hs4,y0,ho3,hR⟩
   case round =>
    clear hE y0 ho3 hR hs4 Y0;obtain⟨j,hj,rfl,hE,hs4,y0,ho3,hR⟩:=hrel
    by_cases hlt':j < n
    ·go_upto_region 9 with (fail);have eC:=(Ext.refl wr).drew;refine qm (fun w'=>w'.cell? ⟨w.heap.size,k,none⟩=some (.slice (some ⟨gr,0,none⟩) n n)) [10] (by kernel_rfl) (by exact eC.cell y0) (fun hHeld=>?_);refine sP 0 (h:=?_);try simp only [nr]
     refine sP 1 (h:=?_);try simp only [nr]
     refine sP 2 (h:=?_);try simp only [nr]
     refine sT 3 (h:=?_);try simp only [nr]
     refine sP 4 (h:=?_);try simp only [nr]
     refine sP 5 (h:=?_);try simp only [nr]
     refine sP 6 (h:=?_);try simp only [nr]
     refine sP 7 (h:=?_);try simp only [nr]
     refine qj (i:=8) rfl (by kernel_rfl) (fun K hK=>?_);go_simp;refine (HF.out k hlt j hlt' _ (hE.trans eC)).mono ?_;intro e w5 hh;obtain⟨b9,A9,k9,c9,A10,k10,c10,rfl,hb9,g9,g10,e5⟩:=hh.form;replace eC:=eC.trans e5;have hR5:=hR.ext eC;obtain⟨x0,v0⟩:=hR5.there (o:=j*4) (by omega);obtain⟨x1,v1⟩:=hR5.there (o:=j*4+1) (by omega);obtain⟨x2,v2⟩:=hR5.there (o:=j*4+2) (by omega);obtain⟨x3,v3⟩:=hR5.there (o:=j*4+3) (by omega);have f0:=hR5.frozen (j*4);have f1:=hR5.frozen (j*4+1);have f2:=hR5.frozen (j*4+2);have f3:=hR5.frozen (j*4+3);go_wp2_with fail;clear hHeld;refine hK.out _ _ (by exact eC.cell y0) fun hHeld=>?_
     clear hK K;try simp only [nr]
     refine sP 9 (h:=?_);try simp only [nr]
     refine ql (i:=10) rfl (by kernel_rfl) (by kernel_rfl) (fun K hK=>?_);go_simp;refine hK.out _ _ ?_;clear hK K;try simp only [nr]
     refine qh (by kernel_rfl) ?_ _;clear hHeld;obtain⟨w6,E6,C6,hs6,hr6⟩:=hR5.set (i:=j) (q:=X k j) hlt' (q_r) hb9 g9 g10;rw [E6];replace hE:=C6.ext (hE.trans eC) (by omega);replace ho3:=(ho3.ext eC).chg C6 (by omega) (.inl (q_r));replace y0:=C6.cell (p:=⟨w.heap.size,k,none⟩) (eC.cell y0) (.inl (by simp only; omega));have hr7:=(hr6.less (n':=j+1) (by omega)).congr (y:=X k) (fun c hc=>by unfold upd; split; (rename_i e; rw [e]); rfl);have hs7:gr < w6.heap.size:=by have:=eC.size; omega
     clear E6 C6 hs6 hr6 hR hR5 v0 v1 v2 v3 f0 f1 f2 f3;go_wp2;go_roundw
     case rel=>exact⟨j+1,by omega,by go_num,hE,hs7,y0,ho3,hr7⟩
     case measure=>simp [intOf]; omega
    ·obtain rfl:j=n:=by omega
     have ho4:=(ho3.more hlt y0 hR (q_r) (by unfold maxLen; omega)).congr (B:=X) (fun i _ c _=>by unfold xK; split; (rename_i e; rw [e]); rfl);go_wp2;go_roundw
     case rel=>exact⟨k+1,by omega,by go_num,hE,_,_,ho4⟩
     case measure=>simp [intOf]; omega
  ·obtain rfl:k=m:=by omega
   go_wp2;go_ret;exact⟨_,_,β,κ,rfl,by unfold maxLen; omega,ho,hE⟩
theorem Vq (hN:N<=w.heap.size) (m n:Nat) {M' N':Int} (hM':M'=(m:Int)) (hN':N'=(n:Int)) (hm:m < 1000000) (hn:n < 1000000) (X:Nat->Nat->Rat) {ga gb:Nat}
  (hf:∀ i,i < m->∀ j,j < n->∀ w',Ext w w'->Calls Tryz.prog 145 #[.int .i64 (i:Int),.int .i64 (j:Int),.pointer (some ⟨ga,0,none⟩),.pointer (some ⟨gb,0,none⟩)] w' (jm N w' (X i j))) :
  Calls Tryz.prog 136 #[.int .i64 M',.int .i64 N',.func (.func 145) #[] #[.pointer (some ⟨ga,0,none⟩),.pointer (some ⟨gb,0,none⟩)]] w (kU N w m n X):=by
 subst hM' hN';have HF:=q_h hf;clear hf;go_enter Tryz.func136,Tryz.ntmps136;go_wp2_with (at_make; refine q_o ?_);refine qV rfl _ _ rfl .i64 .i64 _ _ m rfl rfl rfl rfl hm ?_;intro w1 cs B0 hcs e1;have ho:zu N w.heap.size w1.heap.size w1 w.heap.size m 0 n (fun _=>0) (fun _=>0) X:=zu.start hN (q_r) B0 hcs X (qG B0) (q_r);have hs1:w.heap.size < w1.heap.size:=qG B0;clear B0;have HCS:=q_h hcs;clear hcs;go_wp2
 go_loopw [14] (fun i wr=>∃ k:Nat,k<=m/\i=.int .i64 k/\Ext w wr/\∃ β κ,zu N w.heap.size wr.heap.size wr w.heap.size m k n β κ X) (fun i _=>m - (intOf i).toNat)
 case atStart=>exact⟨0,Nat.zero_le _,rfl,e1,_,_,ho⟩
 case round =>
  clear ho e1;obtain⟨k,hk,rfl,hE,β,κ,ho⟩:=hrel;have hsr:w.heap.size < wr.heap.size:=by have:=ho.hhi; omega
  by_cases hlt:k < m
  ·go_wp2_with (at_make; refine q_o ?_);refine qK rfl _ _ rfl .i64 .i64 _ _ n rfl rfl rfl rfl hn ?_;intro w2 cs2 B2 hcs2 e2;have ho2:=ho.ext e2;have hR:zC N w2 wr.heap.size n 0 (X k):=⟨by omega,Nat.zero_le _,⟨cs2,B2,hcs2⟩,fun j hj=>by omega⟩
   obtain⟨u0,z0⟩:=ho2.hthere hlt;have z1:=ho2.hfrozen k;have hs2:wr.heap.size < w2.heap.size:=qG B2;have HCS2:=q_h hcs2;clear B2 hcs2 ho;go_upto_region 6 with (fail);obtain⟨w3,E3,C3,hs3,y0,ho3⟩:=ho2.setHead (Nat.le_refl k) hlt (.slice (some ⟨wr.heap.size,0,none⟩) n n);rw [E3];replace hE:=C3.ext (hE.trans e2) (q_r);replace hR:=hR.chg C3 (by omega) (by omega);have hs4:wr.heap.size < w3.heap.size:=by omega
   generalize hgr:wr.heap.size=gr at *
   clear hgr E3 C3 hs3 ho2 z0 z1 e2 hs2;have Y0:=y0;go_wp2
   go_loopw [27] (fun i ws=>∃ j:Nat,j<=n/\i=.int .i64 j/\Ext w ws/\gr < ws.heap.size/\ws.cell? ⟨w.heap.size,k,none⟩=some (.slice (some ⟨gr,0,none⟩) n n)/\zu N w.heap.size gr ws w.heap.size m k n β κ X/\zC N ws gr n j (X k)) (fun i _=>n - (intOf i).toNat)
   case atStart=>exact⟨0,Nat.zero_le _,rfl,hE,hs4,y0,ho3,hR⟩
   case round =>
    clear hE y0 ho3 hR hs4 Y0;obtain⟨j,hj,rfl,hE,hs4,y0,ho3,hR⟩:=hrel
    by_cases hlt':j < n
    ·go_upto_region 9 with (fail);have eC:=(Ext.refl wr).drew;refine qm (fun w'=>w'.cell? ⟨w.heap.size,k,none⟩=some (.slice (some ⟨gr,0,none⟩) n n)) [10] (by kernel_rfl) (by exact eC.cell y0) (fun hHeld=>?_);refine sP 0 (h:=?_);try simp only [nr]
     refine sP 1 (h:=?_);try simp only [nr]
     refine sP 2 (h:=?_);try simp only [nr]
     refine sT 3 (h:=?_);try simp only [nr]
     refine sP 4 (h:=?_);try simp only [nr]
     refine sP 5 (h:=?_);try simp only [nr]
     refine sP 6 (h:=?_);try simp only [nr]
     refine sP 7 (h:=?_);try simp only [nr]
     refine qj (i:=8) rfl (by kernel_rfl) (fun K hK=>?_);go_simp;refine (HF.out k hlt j hlt' _ (hE.trans eC)).mono ?_;intro e w5 hh;obtain⟨b9,A9,k9,c9,A10,k10,c10,rfl,hb9,g9,g10,e5⟩:=hh.form;replace eC:=eC.trans e5;have hR5:=hR.ext eC;obtain⟨x0,v0⟩:=hR5.there (o:=j*4) (by omega);obtain⟨x1,v1⟩:=hR5.there (o:=j*4+1) (by omega);obtain⟨x2,v2⟩:=hR5.there (o:=j*4+2) (by omega);obtain⟨x3,v3⟩:=hR5.there (o:=j*4+3) (by omega);have f0:=hR5.frozen (j*4);have f1:=hR5.frozen (j*4+1);have f2:=hR5.frozen (j*4+2);have f3:=hR5.frozen (j*4+3);go_wp2_with fail;clear hHeld;refine hK.out _ _ (by exact eC.cell y0) fun hHeld=>?_
     clear hK K;try simp only [nr]
     refine sP 9 (h:=?_);try simp only [nr]
     refine ql (i:=10) rfl (by kernel_rfl) (by kernel_rfl) (fun K hK=>?_);go_simp;refine hK.out _ _ ?_;clear hK K;try simp only [nr]
     refine qh (by kernel_rfl) ?_ _;clear hHeld;obtain⟨w6,E6,C6,hs6,hr6⟩:=hR5.set (i:=j) (q:=X k j) hlt' (q_r) hb9 g9 g10;rw [E6];replace hE:=C6.ext (hE.trans eC) (by omega);replace ho3:=(ho3.ext eC).chg C6 (by omega) (.inl (q_r));replace y0:=C6.cell (p:=⟨w.heap.size,k,none⟩) (eC.cell y0) (.inl (by simp only; omega));have hr7:=(hr6.less (n':=j+1) (by omega)).congr (y:=X k) (fun c hc=>by unfold upd; split; (rename_i e; rw [e]); rfl);have hs7:gr < w6.heap.size:=by have:=eC.size; omega
     clear E6 C6 hs6 hr6 hR hR5 v0 v1 v2 v3 f0 f1 f2 f3;go_wp2;go_roundw
     case rel=>exact⟨j+1,by omega,by go_num,hE,hs7,y0,ho3,hr7⟩
     case measure=>simp [intOf]; omega
    ·obtain rfl:j=n:=by omega
     have ho4:=(ho3.more hlt y0 hR (q_r) (by unfold maxLen; omega)).congr (B:=X) (fun i _ c _=>by unfold xK; split; (rename_i e; rw [e]); rfl);go_wp2;go_roundw
     case rel=>exact⟨k+1,by omega,by go_num,hE,_,_,ho4⟩
     case measure=>simp [intOf]; omega
  ·obtain rfl:k=m:=by omega
   go_wp2;go_ret;exact⟨_,_,β,κ,rfl,by unfold maxLen; omega,ho,hE⟩
theorem Yw {lo' hi':Nat} {v':Value} {m' n':Nat} {X Y:Nat->Nat->Rat} (hB:w.cell? ⟨g,0,none⟩=some v/\w.cell? ⟨g,1,none⟩=some v') (h:MtV N lo hi w v m n X) (h':MtV N lo' hi' w v' m' n' Y) (hm0:0 < m) (hm:m<=64) (hn0:0 < n) (hn:n<=64) (hm0':0 < m') (hm':m'<=64) (hn0':0 < n') (hn':n'<=64)
  (hs:∀ i,i < m->∀ j,j < n->Sz (X i j)) (hs':∀ i,i < m'->∀ j,j < n'->Sz (Y i j)) :
  Calls Tryz.prog 140 #[.slice (some ⟨g,0,none⟩) 2 2] w (zL w (.int .i64 0)):=by
 have HI:=q_h h;have HI':=q_h h';have HS:=q_h hs;have HS':=q_h hs';have HB:=q_h hB;clear h h' hs hs' hB;go_enter Tryz.func140,Tryz.ntmps140;go_wp2
 go_loopw [8] (fun i wr=>∃ k:Nat,k<=2/\i=.int .i64 k/\Ext w wr) (fun i _=>2 - (intOf i).toNat)
 case atStart=>exact⟨0,by omega,rfl,Ext.refl w⟩
 case round =>
  obtain⟨k,hk,rfl,hE⟩:=hrel;have hk':k=0\/k=1\/k=2:=by omega
  rcases hk' with rfl | rfl | rfl
  ·have b0:=hE.cell HB.out.1;go_wp2_with (go_at_call 166; refine q_o ?_);refine (yA (HI.out.ext hE) hm0 hm hn0 hn HS.out).mono ?_;rintro e w1 ⟨rfl,e1⟩;replace hE:=hE.trans e1;clear b0 e1;go_wp2;go_roundw
   case rel=>exact⟨1,by omega,by go_num,hE⟩
   case measure=>simp [intOf]
  ·have b0:=hE.cell HB.out.2;go_wp2_with (go_at_call 166; refine q_o ?_);refine (yA (HI'.out.ext hE) hm0' hm' hn0' hn' HS'.out).mono ?_;rintro e w1 ⟨rfl,e1⟩;replace hE:=hE.trans e1;clear b0 e1;go_wp2;go_roundw
   case rel=>exact⟨2,by omega,by go_num,hE⟩
   case measure=>simp [intOf]
  ·go_wp2;go_ret;exact⟨rfl,hE⟩
theorem q5d {lo' hi':Nat} {ga gb:Nat} {B:Option Addr} {p c':Nat} {X Y:Nat->Nat->Rat} (ha:w.cell? ⟨ga,0,none⟩=some (.slice A m c)) (hb:w.cell? ⟨gb,0,none⟩=some (.slice B p c')) (h:MtV N lo hi w (.slice A m c) m n X) (h':MtV N lo' hi' w (.slice B p c') p n Y) (hi':i < m) (hj:j < p) (hm:m < 1000000) (hp:p < 1000000)
  {k':Nat} (hk:HtL n k (X i)) (hk':HtL n k' (Y j)) (hK:n*(k+k'+1)+1<=29000000000) :
  Calls Tryz.prog 142 #[.int .i64 (i:Int),.int .i64 (j:Int),.pointer (some ⟨ga,0,none⟩),.pointer (some ⟨gb,0,none⟩)] w (jm N w (sum n (fun t=>X i t*Y j t))):=by
 have HK:=q_h hK;have HX:=q_h hk;have HY:=q_h hk';have hN:=h.le;obtain⟨S,hS⟩:=qc (sum n (fun t=>X i t*Y j t));rw [<-hS.out];have hI:=h;have hI':=h';obtain⟨b,off,rfl,-,-,hx⟩:=h.addr (by omega);obtain⟨A1,c1,p0,-,-,hl⟩:=hx i hi';obtain⟨b2,off2,rfl,-,-,hx'⟩:=h'.addr (by omega);obtain⟨A2,c2,q0,-,-,hl'⟩:=hx' j hj;have l0:=cell_lt ha;have l0':=cell_lt hb;have l1:=cell_lt p0;have l2:=cell_lt q0;simp only at l0 l0' l1 l2;have HL:=q_h hl;have HL':=q_h hl';clear hx hx' h h' hk hk' hK hl hl';go_enter Tryz.func142,Tryz.ntmps142;go_upto_region 1 with (fail);refine qo ?_;intro W hE hsz B0;replace ha:=hE.cell ha;replace hb:=hE.cell hb;replace p0:=hE.cell p0;replace q0:=hE.cell q0;have eC:=(Ext.refl W).drew;refine qm (fun w'=>w'.cell? ⟨ga,0,none⟩=some (.slice (some ⟨b,off,none⟩) m c)/\w'.cell? ⟨gb,0,none⟩=some (.slice (some ⟨b2,off2,none⟩) p c')/\w'.cell? ⟨b,off+i,none⟩=some (.slice A1 n c1)/\w'.cell? ⟨b2,off2+j,none⟩=some (.slice A2 n c2)) [9] (by kernel_rfl) (by exact⟨eC.cell ha,eC.cell hb,eC.cell p0,eC.cell q0⟩) (fun hHeld=>?_);refine sT 0 (h:=?_);try simp only [nr]
 refine sP 1 (h:=?_);try simp only [nr]
 refine sP 2 (h:=?_);try simp only [nr]
 refine sT 3 (h:=?_);try simp only [nr]
 refine sT 4 (h:=?_);try simp only [nr]
 refine sP 5 (h:=?_);try simp only [nr]
 refine sP 6 (h:=?_);try simp only [nr]
 refine sT 7 (h:=?_);try simp only [nr]
 refine qj (i:=8) rfl (by kernel_rfl) (fun K hK=>?_);go_simp;refine (q5f (HL.out.ext (hE.trans eC)) (HL'.out.ext (hE.trans eC)) HX.out HY.out HK.out).mono ?_;rw [<-hS.out];intro e w8 hh;obtain⟨b9,A11,k11,c11,A12,k12,c12,rfl,hb9,g9,g10,e8⟩:=hh.form;replace eC:=eC.trans e8;have D0:=eC.block B0;obtain⟨u0,u1,u2,u3,u4,u5,u6,u7⟩:=cells4 D0;go_wp2_with fail;clear hHeld;refine hK.out _ _ (by exact⟨eC.cell ha,eC.cell hb,eC.cell p0,eC.cell q0⟩) fun hHeld=>?_
 clear hK K;try simp only [nr]
 refine ql (i:=9) rfl (by kernel_rfl) (by kernel_rfl) (fun K hK=>?_);go_simp;refine hK.out _ _ ?_;clear hK K;try simp only [nr]
 refine qh (by kernel_rfl) ?_ _;clear hHeld;go_wp2;exact zo rfl rfl rfl (hE.trans eC) D0 (by omega) hN g9 g10 hb9
theorem q5b {lo' hi':Nat} {ga gb:Nat} {B:Option Addr} {c':Nat} {X Y:Nat->Nat->Rat} (ha:w.cell? ⟨ga,0,none⟩=some (.slice A m c)) (hb:w.cell? ⟨gb,0,none⟩=some (.slice B m c')) (h:MtV N lo hi w (.slice A m c) m n X) (h':MtV N lo' hi' w (.slice B m c') m n Y) (hi':i < m) (hj:j < n) (hm:m < 1000000) (hn:n < 1000000)
  (hk:Sz (X i j)) (hk':Sz (Y i j)) :
  Calls Tryz.prog 145 #[.int .i64 (i:Int),.int .i64 (j:Int),.pointer (some ⟨ga,0,none⟩),.pointer (some ⟨gb,0,none⟩)] w (jm N w (X i j - Y i j)):=by
 have HX:=q_h hk;have HY:=q_h hk';have hN:=h.le;obtain⟨S,hS⟩:=qc (X i j - Y i j);rw [<-hS.out];obtain⟨b,off,rfl,-,-,hx⟩:=h.addr (by omega);obtain⟨A1,c1,p0,-,hc1,hl⟩:=hx i hi';obtain⟨b2,off2,rfl,-,-,hx'⟩:=h'.addr (by omega);obtain⟨A2,c2,q0,-,hc2,hl'⟩:=hx' i hi';obtain⟨b3,off3,rfl,-,-,hy⟩:=hl.addr (by omega);obtain⟨n1,A3,k3,c3,A4,k4,c4,t0,t1,t2,t3,hb1,g1,g2⟩:=(hy j hj).open;obtain⟨b4,off4,rfl,-,-,hy'⟩:=hl'.addr (by omega);obtain⟨n2,A5,k5,c5,A6,k6,c6,s0,s1,s2,s3,hb2,g3,g4⟩:=(hy' j hj).open;have l0:=cell_lt ha;have l0':=cell_lt hb;have l1:=cell_lt p0;have l2:=cell_lt q0;have l3:=cell_lt t0;have l4:=cell_lt s0;simp only at l0 l0' l1 l2 l3 l4;unfold maxLen at hc1 hc2;clear hx hx' h h' hk hk' hl hl' hy hy';go_enter Tryz.func145,Tryz.ntmps145;go_upto_region 1 with (fail);refine qo ?_;intro W hE hsz B0;replace ha:=hE.cell ha;replace hb:=hE.cell hb;replace p0:=hE.cell p0;replace q0:=hE.cell q0;replace t0:=hE.cell t0;replace t1:=hE.cell t1;replace t2:=hE.cell t2;replace t3:=hE.cell t3;replace s0:=hE.cell s0;replace s1:=hE.cell s1;replace s2:=hE.cell s2;replace s3:=hE.cell s3;replace g1:=g1.ext hE;replace g2:=g2.ext hE;replace g3:=g3.ext hE;replace g4:=g4.ext hE;have eC:=(Ext.refl W).drew;refine qm (fun w'=>w'.cell? ⟨ga,0,none⟩=some (.slice (some ⟨b,off,none⟩) m c)/\w'.cell? ⟨gb,0,none⟩=some (.slice (some ⟨b2,off2,none⟩) m c')/\w'.cell? ⟨b,off+i,none⟩=some (.slice (some ⟨b3,off3,none⟩) n c1)/\w'.cell? ⟨b2,off2+i,none⟩=some (.slice (some ⟨b4,off4,none⟩) n c2)/\w'.cell? ⟨b3,off3+j*4,none⟩=some (.bool n1)/\w'.cell? ⟨b3,off3+j*4+1,none⟩=some (.slice A3 k3 c3)/\w'.cell? ⟨b3,off3+j*4+2,none⟩=some (.bool false)/\w'.cell? ⟨b3,off3+j*4+3,none⟩=some (.slice A4 k4 c4)/\w'.cell? ⟨b4,off4+j*4,none⟩=some (.bool n2)/\w'.cell? ⟨b4,off4+j*4+1,none⟩=some (.slice A5 k5 c5)/\w'.cell? ⟨b4,off4+j*4+2,none⟩=some (.bool false)/\w'.cell? ⟨b4,off4+j*4+3,none⟩=some (.slice A6 k6 c6)) [15] (by kernel_rfl) (by exact⟨eC.cell ha,eC.cell hb,eC.cell p0,eC.cell q0,eC.cell t0,eC.cell t1,eC.cell t2,eC.cell t3,eC.cell s0,eC.cell s1,eC.cell s2,eC.cell s3⟩) (fun hHeld=>?_)
 refine sT 0 (h:=?_);try simp only [nr]
 refine sP 1 (h:=?_);try simp only [nr]
 refine sP 2 (h:=?_);try simp only [nr]
 refine sT 3 (h:=?_);try simp only [nr]
 refine sP 4 (h:=?_);try simp only [nr]
 refine sP 5 (h:=?_);try simp only [nr]
 refine sT 6 (h:=?_);try simp only [nr]
 refine sT 7 (h:=?_);try simp only [nr]
 refine sP 8 (h:=?_);try simp only [nr]
 refine sP 9 (h:=?_);try simp only [nr]
 refine sT 10 (h:=?_);try simp only [nr]
 refine sP 11 (h:=?_);try simp only [nr]
 refine sP 12 (h:=?_);try simp only [nr]
 refine sT 13 (h:=?_);try simp only [nr]
 refine qj (i:=14) rfl (by kernel_rfl) (fun K hK=>?_);go_simp;refine (q0C (x:=X i j) (y:=Y i j) (by exact (qY.mk hb1 g1 g2).ext eC) (by exact (qY.mk hb2 g3 g4).ext eC) HX.out HY.out).mono ?_;rw [<-hS.out];intro e w8 hh;obtain⟨b9,A11,k11,c11,A12,k12,c12,rfl,hb9,g9,g10,e8⟩:=hh.form;replace eC:=eC.trans e8;have D0:=eC.block B0;obtain⟨u0,u1,u2,u3,u4,u5,u6,u7⟩:=cells4 D0;go_wp2_with fail;clear hHeld;refine hK.out _ _ (by exact⟨eC.cell ha,eC.cell hb,eC.cell p0,eC.cell q0,eC.cell t0,eC.cell t1,eC.cell t2,eC.cell t3,eC.cell s0,eC.cell s1,eC.cell s2,eC.cell s3⟩) fun hHeld=>?_
 clear hK K;try simp only [nr]
 refine ql (i:=15) rfl (by kernel_rfl) (by kernel_rfl) (fun K hK=>?_);go_simp;refine hK.out _ _ ?_;clear hK K;try simp only [nr]
 refine qh (by kernel_rfl) ?_ _;clear hHeld;go_wp2;exact zo rfl rfl rfl (hE.trans eC) D0 (by omega) hN g9 g10 hb9
theorem q25 {lo' hi':Nat} {v':Value} {p:Nat} {X Y:Nat->Nat->Rat} (h:MtV N lo hi w v m n X) (h':MtV N lo' hi' w v' n p Y) (hm0:0 < m) (hm:m<=64) (hn0:0 < n) (hn:n<=64) (hp0:0 < p) (hp:p<=64)
  {k':Nat} (hk:HtM m n k X) (hk':HtM n p k' Y) (hK:n*(k+k'+1)+1<=29000000000) :
  Calls Tryz.prog 73 #[v,v'] w (QZ N w m p (mm n X Y)):=by
 have h9:=Nat.le_mul_of_pos_left (k+k'+1) hn0;have HS:Hid (∀ i,i < m->∀ j,j < n->Sz (X i j)):=fun i hi j hj=>(hk i hi j hj).sz (by omega)
 have HS':Hid (∀ i,i < n->∀ j,j < p->Sz (Y i j)):=fun i hi j hj=>(hk' i hi j hj).sz (by omega)
 have HX:=q_h hk;have HY:=q_h hk';have HK:=q_h hK;have hN:=h.le;obtain⟨Z,hZ⟩:=qc (mm n X Y);have HZ:Hid (∀ i j,sum n (fun t=>X i t*Y t j)=Z i j):=fun i j=>by rw [hZ.out]; rfl
 rw [<-hZ.out];obtain⟨Rf,hRf⟩:=qc (QZ N w m p Z);rw [<-hRf.out];obtain⟨A,c,rfl,hmc,hcm⟩:=h.form;obtain⟨A',c',rfl,hnc,hcm'⟩:=h'.form;have hI:=h;have hI':=h';obtain⟨b,off,rfl,-,-,hx⟩:=h.addr hm0;obtain⟨A1,c1,p0,hnc1,hcm1,-⟩:=hx 0 hm0;rw [Nat.add_zero] at p0;obtain⟨b',off',rfl,-,-,hx'⟩:=h'.addr hn0;obtain⟨A2,c2,q0,hnc2,hcm2,-⟩:=hx' 0 hn0;rw [Nat.add_zero] at q0;unfold maxLen at hcm1 hcm2 hcm hcm';have t1:((n:Int) != (n:Int))=false:=by simp
 clear h h' hx hx' hk hk' hK h9;go_enter Tryz.func73,Tryz.ntmps73;go_upto_region 1 with (fail);refine qo ?_;intro W hE hsz B0;obtain⟨a0,-⟩:=qW B0;have hl0:=qG B0;go_wp2_with (go_at_call 140; refine q_o ?_);refine qJ ?_;intro w1 e1 hsz1 B1;obtain⟨b0,b1,-⟩:=cells2 B1;replace hE:=hE.trans e1;replace B0:=e1.block B0;refine (Yw ⟨b0,b1⟩ (hI.ext hE) (hI'.ext hE) hm0 hm hn0 hn hn0 hn hp0 hp HS.out HS'.out).mono ?_;rintro e w2 ⟨rfl,e2⟩;replace hE:=hE.trans e2;replace B0:=e2.block B0;clear a0 b0 b1 B1 e1 e2 hsz hsz1;obtain⟨a0,-⟩:=qW B0;replace p0:=hE.cell p0;replace q0:=hE.cell q0;go_wp2_with (go_at_call 141; refine q_o ?_);refine (Yv (hI'.ext hE) hn0 (by omega) (by omega)).mono ?_;rintro e w3 ⟨h3,cap3,β3,κ3,rfl,hcap3,ho3,e3⟩;have hT:=ho3.mtv ho3.mle hcap3;have hmle:=ho3.mle;replace hE:=hE.trans e3;replace B0:=e3.block B0;clear ho3 a0 hl0;replace p0:=e3.cell p0;replace q0:=e3.cell q0;clear e3;go_upto_region 7 with (fail);refine qo ?_;intro w4 e4 hsz4 B4;obtain⟨d0,-⟩:=qW B4;replace hE:=hE.trans e4;replace B0:=e4.block B0;obtain⟨a0,-⟩:=qW B0;replace p0:=e4.cell p0;replace q0:=e4.cell q0;replace hT:=hT.ext e4;obtain⟨g3,hg3⟩:∃ g3,g3=w3.heap.size:=⟨_,rfl⟩
 rw [<-hg3] at d0 ⊢;clear B4 e4 hg3 hsz4;have hEz:=hE.size;have eC:=(Ext.refl w4).drew;refine qm (fun w'=>w'.cell? ⟨w.heap.size,0,none⟩=some (.slice (some ⟨b,off,none⟩) m c)/\w'.cell? ⟨b',off',none⟩=some (.slice A2 p c2)) [] (by kernel_rfl) (by exact⟨eC.cell a0,eC.cell q0⟩) (fun hHeld=>?_);refine sT 0 (h:=?_);try simp only [nr]
 refine sP 1 (h:=?_);try simp only [nr]
 refine sP 2 (h:=?_);try simp only [nr]
 refine sP 3 (h:=?_);try simp only [nr]
 refine sT 4 (h:=?_);try simp only [nr]
 refine sP 5 (h:=?_);try simp only [nr]
 refine sP 6 (h:=?_);try simp only [nr]
 refine qj (i:=7) rfl (by kernel_rfl) (fun K hK=>?_);go_simp;refine (Vr (N:=N) (by show N<=w4.heap.size; omega) m p rfl rfl (by omega) (by omega) Z (fun i hi' j hj w' e=>by rw [<-HZ.out i j]; exact q5d (Y:=fun a b=>Y b a) ((eC.trans e).cell a0) ((eC.trans e).cell d0) (hI.ext (hE.trans (eC.trans e))) (hT.ext (eC.trans e)) hi' hj (by omega) (by omega) (HX.out i hi') (fun t ht=>HY.out t ht j hj) HK.out)).mono ?_;rintro e w5 ⟨h5,cap5,β5,κ5,rfl,hcap5,ho5,e5⟩;replace eC:=eC.trans e5;go_wp2_with fail;clear hHeld;refine hK.out _ _ (by exact⟨eC.cell a0,eC.cell q0⟩) fun hHeld=>?_
 clear hK K;try simp only [nr]
 refine sP 8 (h:=?_);try simp only [nr]
 refine sP 9 (h:=?_);try simp only [nr]
 refine qh (by kernel_rfl) ?_ _;clear hHeld;go_wp2
 first | go_ret2 | skip
 rw [hRf.out];exact⟨h5,cap5,β5,κ5,rfl,hcap5,ho5.wide hEz hN (q_r) (q_r),hE.trans eC⟩
theorem q5g {lo' hi':Nat} {v':Value} {X Y:Nat->Nat->Rat} (h:MtV N lo hi w v m n X) (h':MtV N lo' hi' w v' m n Y) (hm0:0 < m) (hm:m<=64) (hn0:0 < n) (hn:n<=64)
  (hs:∀ i,i < m->∀ j,j < n->Sz (X i j)) (hs':∀ i,i < m->∀ j,j < n->Sz (Y i j)) :
  Calls Tryz.prog 144 #[v,v'] w (zL w (.int .i64 0)):=by
 have HS:=q_h hs;have HS':=q_h hs';obtain⟨A,c,rfl,hmc,hcm⟩:=h.form;obtain⟨A',c',rfl,hmc',hcm'⟩:=h'.form;have hI:=h;have hI':=h';obtain⟨b,off,rfl,-,-,hx⟩:=h.addr hm0;obtain⟨A1,c1,p0,hnc1,hcm1,-⟩:=hx 0 hm0;rw [Nat.add_zero] at p0;obtain⟨b',off',rfl,-,-,hx'⟩:=h'.addr hm0;obtain⟨A2,c2,q0,hnc2,hcm2,-⟩:=hx' 0 hm0;rw [Nat.add_zero] at q0;unfold maxLen at hcm1 hcm2 hcm hcm';have t1:((n:Int) != (n:Int))=false:=by simp
 have t2:((m:Int) != (m:Int))=false:=by simp
 clear h h' hx hx' hs hs';go_enter Tryz.func144,Tryz.ntmps144;go_wp2_with (go_at_call 140; refine q_o ?_);refine qJ ?_;intro w1 e1 hsz1 B1;obtain⟨b0,b1,-⟩:=cells2 B1;refine (Yw ⟨b0,b1⟩ (hI.ext e1) (hI'.ext e1) hm0 hm hn0 hn hm0 hm hn0 hn HS.out HS'.out).mono ?_;rintro e w2 ⟨rfl,e2⟩;have hE:=e1.trans e2;replace p0:=hE.cell p0;replace q0:=hE.cell q0;clear b0 b1 B1 e1 e2 hsz1;go_upto_region 4 with (fail);refine Je [Mn.eq (.slice (some ⟨b,off,none⟩) m c),Mn.i (m:Int),Mn.eq (.slice (some ⟨b',off',none⟩) m c'),Mn.i (m:Int),Mn.t false,Mn.t false,Mn.eq (.slice (some ⟨b,off,none⟩) m c),Mn.q b off,Mn.eq (.slice A1 n c1),Mn.i (n:Int),Mn.eq (.slice (some ⟨b',off',none⟩) m c'),Mn.q (b') (off'),Mn.eq (.slice A2 n c2),Mn.i (n:Int),Mn.t false,Mn.t false] (sM [13,14,15,16,17,18,19,20,21,22,23,24,25,26,27,28]) [] (rQ 16 0) 0 (by kernel_rfl) ?_ ?_
 ·show ∀ i,i < 16->_
  iterate 16 refine fs ?_ ?_
  ·exact fz
  all_goals intro hl; clear hl; refine stp rfl ?_; intro ac wi eI hB hA K hK
  have o0:=oOf (hB 0) rfl
  rotate_left
  obtain⟨x13,s13,j13⟩:=hA 0 13;obtain rfl:x13=(.slice (some ⟨b,off,none⟩) m c):=j13
  rotate_left
  have o1:=oOf (hB 1) rfl
  rotate_left
  obtain⟨x15,s15,j15⟩:=hA 2 15;obtain rfl:x15=(.slice (some ⟨b',off',none⟩) m c'):=j15
  rotate_left
  obtain⟨x14,s14,j14⟩:=hA 1 14;obtain rfl:x14=(.int .i64 (m:Int)):=j14;obtain⟨x16,s16,j16⟩:=hA 3 16;obtain rfl:x16=(.int .i64 (m:Int)):=j16
  rotate_left
  obtain⟨x17,s17,j17⟩:=hA 4 17;obtain rfl:x17=(.bool false):=j17
  rotate_left
  obtain⟨x18,s18,j18⟩:=hA 5 18;obtain rfl:x18=(.bool false):=j18;have o0:=oOf (hB 0) rfl;rw [if_pos (by simp [Region.wanted,yielded,s18])]
  rotate_left
  obtain⟨x18,s18,j18⟩:=hA 5 18;obtain rfl:x18=(.bool false):=j18;obtain⟨x19,s19,j19⟩:=hA 6 19;obtain rfl:x19=(.slice (some ⟨b,off,none⟩) m c):=j19;rw [if_pos (by simp [Region.wanted,yielded,s18])]
  rotate_left
  obtain⟨x18,s18,j18⟩:=hA 5 18;obtain rfl:x18=(.bool false):=j18;obtain⟨x20,s20,j20⟩:=hA 7 20;obtain rfl:x20=(.pointer (some ⟨b,off,none⟩)):=j20;rw [if_pos (by simp [Region.wanted,yielded,s18])];have cc0:=eI.cell p0;have cc1:=eI.cell q0
  rotate_left
  obtain⟨x18,s18,j18⟩:=hA 5 18;obtain rfl:x18=(.bool false):=j18;obtain⟨x21,s21,j21⟩:=hA 8 21;obtain rfl:x21=(.slice A1 n c1):=j21;rw [if_pos (by simp [Region.wanted,yielded,s18])]
  rotate_left
  obtain⟨x18,s18,j18⟩:=hA 5 18;obtain rfl:x18=(.bool false):=j18;have o1:=oOf (hB 1) rfl;rw [if_pos (by simp [Region.wanted,yielded,s18])]
  rotate_left
  obtain⟨x18,s18,j18⟩:=hA 5 18;obtain rfl:x18=(.bool false):=j18;obtain⟨x23,s23,j23⟩:=hA 10 23;obtain rfl:x23=(.slice (some ⟨b',off',none⟩) m c'):=j23;rw [if_pos (by simp [Region.wanted,yielded,s18])]
  rotate_left
  obtain⟨x18,s18,j18⟩:=hA 5 18;obtain rfl:x18=(.bool false):=j18;obtain⟨x24,s24,j24⟩:=hA 11 24;obtain rfl:x24=(.pointer (some ⟨b',off',none⟩)):=j24;rw [if_pos (by simp [Region.wanted,yielded,s18])];have cc0:=eI.cell p0;have cc1:=eI.cell q0
  rotate_left
  obtain⟨x18,s18,j18⟩:=hA 5 18;obtain rfl:x18=(.bool false):=j18;obtain⟨x25,s25,j25⟩:=hA 12 25;obtain rfl:x25=(.slice A2 n c2):=j25;rw [if_pos (by simp [Region.wanted,yielded,s18])]
  rotate_left
  obtain⟨x18,s18,j18⟩:=hA 5 18;obtain rfl:x18=(.bool false):=j18;obtain⟨x22,s22,j22⟩:=hA 9 22;obtain rfl:x22=(.int .i64 (n:Int)):=j22;obtain⟨x26,s26,j26⟩:=hA 13 26;obtain rfl:x26=(.int .i64 (n:Int)):=j26;rw [if_pos (by simp [Region.wanted,yielded,s18])]
  rotate_left
  obtain⟨x18,s18,j18⟩:=hA 5 18;obtain rfl:x18=(.bool false):=j18;obtain⟨x27,s27,j27⟩:=hA 14 27;obtain rfl:x27=(.bool false):=j27
  rotate_left
  all_goals clear hB hA; go_simp; exact q_k hK rfl
 intro vals wz eZ hJ;have J28:vals 15=_:=hJ 15 (by decide) (by decide);clear hJ;simp only [pr,Nat.reduceAdd,J28];clear J28;refine qh (by kernel_rfl) ?_ _;go_wp2;go_ret;exact⟨rfl,hE.trans eZ⟩
theorem q4a {lo' hi':Nat} {v':Value} {X Y:Nat->Nat->Rat} (h:MtV N lo hi w v m n X) (h':MtV N lo' hi' w v' m n Y) (hm0:0 < m) (hm:m<=64) (hn0:0 < n) (hn:n<=64)
  (hs:∀ i,i < m->∀ j,j < n->Sz (X i j)) (hs':∀ i,i < m->∀ j,j < n->Sz (Y i j)) :
  Calls Tryz.prog 74 #[v,v'] w (QZ N w m n (fun i j=>X i j - Y i j)):=by
 have HS:=q_h hs;have HS':=q_h hs';have hN:=h.le;obtain⟨Z,hZ⟩:=qc (fun i j=>X i j - Y i j);have HZ:Hid (∀ i j,X i j - Y i j=Z i j):=fun i j=>by rw [hZ.out]
 rw [<-hZ.out];obtain⟨Rf,hRf⟩:=qc (QZ N w m n Z);rw [<-hRf.out];obtain⟨A,c,rfl,hmc,hcm⟩:=h.form;obtain⟨A',c',rfl,hmc',hcm'⟩:=h'.form;have hI:=h;have hI':=h';obtain⟨b,off,rfl,-,-,hx⟩:=h.addr hm0;obtain⟨A1,c1,p0,hnc1,hcm1,-⟩:=hx 0 hm0;rw [Nat.add_zero] at p0;unfold maxLen at hcm1 hcm hcm';clear h h' hx hs hs';go_enter Tryz.func74,Tryz.ntmps74;go_upto_region 1 with (fail);refine kG ?_;intro W hE hsz B0 B1;obtain⟨a0,-⟩:=qW B0;obtain⟨d0,-⟩:=qW B1;go_wp2_with (go_at_call 144; refine q_o ?_);refine (q5g (hI.ext hE) (hI'.ext hE) hm0 hm hn0 hn HS.out HS'.out).mono ?_;rintro e w2 ⟨rfl,e2⟩;replace hE:=hE.trans e2;replace B0:=e2.block B0;replace B1:=e2.block B1;clear a0 d0 e2 hsz;obtain⟨a0,-⟩:=qW B0;obtain⟨d0,-⟩:=qW B1;replace p0:=hE.cell p0;have hEz:=hE.size;go_upto_region 4 with (fail);have eC:=(Ext.refl w2).drew;refine qm (fun w'=>w'.cell? ⟨w.heap.size,0,none⟩=some (.slice (some ⟨b,off,none⟩) m c)/\w'.cell? ⟨b,off,none⟩=some (.slice A1 n c1)) [] (by kernel_rfl) (by exact⟨eC.cell a0,eC.cell p0⟩) (fun hHeld=>?_);refine sT 0 (h:=?_);try simp only [nr]
 refine sP 1 (h:=?_);try simp only [nr]
 refine sT 2 (h:=?_);try simp only [nr]
 refine sP 3 (h:=?_);try simp only [nr]
 refine sT 4 (h:=?_);try simp only [nr]
 refine sP 5 (h:=?_);try simp only [nr]
 refine sP 6 (h:=?_);try simp only [nr]
 refine qj (i:=7) rfl (by kernel_rfl) (fun K hK=>?_);go_simp;refine (Vq (N:=N) (by show N<=w2.heap.size; omega) m n rfl rfl (by omega) (by omega) Z (fun i hi' j hj w' e=>by rw [<-HZ.out i j]; exact q5b ((eC.trans e).cell a0) ((eC.trans e).cell d0) (hI.ext (hE.trans (eC.trans e))) (hI'.ext (hE.trans (eC.trans e))) hi' hj (by omega) (by omega) (HS.out i hi' j hj) (HS'.out i hi' j hj))).mono ?_;rintro e w5 ⟨h5,cap5,β5,κ5,rfl,hcap5,ho5,e5⟩;replace eC:=eC.trans e5;go_wp2_with fail;clear hHeld;refine hK.out _ _ (by exact⟨eC.cell a0,eC.cell p0⟩) fun hHeld=>?_
 clear hK K;try simp only [nr]
 refine sP 8 (h:=?_);try simp only [nr]
 refine sP 9 (h:=?_);try simp only [nr]
 refine qh (by kernel_rfl) ?_ _;clear hHeld;go_wp2
 first | go_ret2 | skip
 rw [hRf.out];exact⟨h5,cap5,β5,κ5,rfl,hcap5,ho5.wide hEz hN (q_r) (q_r),hE.trans eC⟩
theorem q3d {q ka kb:Nat} {A B:Nat->Nat->Rat} (ha:HtM m n ka A) (hb:HtM n q kb B):HtM m q (n*(ka+kb+1)+1) (mm n A B):=fun i hi j hj =>
 y5 (n:=n) (k:=ka+kb) (fun t ht=>(ha i hi t ht).mul (hb t ht j hj)) (q_r) (q_r)
def q34 (k e:Nat) (K:Nat->Nat->Rat):Nat->Nat->Rat:=mm e (fun a b=>K a (k+b)) (kD e (fun a b=>K (k+a) (k+b)))
def q4W (k e:Nat) (K:Nat->Nat->Rat) (i j:Nat):Rat:=K i j - mm e (q34 k e K) (fun a b=>K (k+a) b) i j
def schR (k e:Nat) (K:Nat->Nat->Rat) (b:Nat->Rat) (i:Nat):Rat:=b i - sum e (fun t=>q34 k e K i t*b (k+t))
theorem q4k {e q:Nat} {X:Nat->Nat->Rat} (hq:HtM e e q X):HtM e e (5 ^ e*(q+1)) (kD e X):=fun i hi j hj =>
 yN (p:=e) (KR hq) (j:=e) (by omega) (.inl (q_r)) i hi (e+j) (by omega)
def q5W (N:Nat) (w:World) (k r e:Nat) (M:Nat->Nat->Rat) (R:Nat->Rat) (en:Ending) (w':World):Prop :=
 Ext w w'/\((r < e/\en=.returned (.tuple #[.slice none 0 0,.slice none 0 0,.int .i64 14]))\/(e<=r/\∃ A c A' c',en=.returned (.tuple #[.slice A k c,.slice A' k c',.int .i64 0])/\MtV N w.heap.size w'.heap.size w' (.slice A k c) k k M/\LsV N w.heap.size w'.heap.size w' (.slice A' k c') k R))
end Go.Proofs.YtfmddpahhloleaaGreat
