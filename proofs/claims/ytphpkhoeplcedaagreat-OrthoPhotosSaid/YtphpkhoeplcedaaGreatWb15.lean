import Derived.Test.YtphpkhoeplcedaaGreatWb14
set_option linter.all false
set_option maxHeartbeats 8000000
namespace Go.Proofs.YtphpkhoeplcedaaGreat
open Go.RowKit
variable {w':World} {N n lo hi k g i m c j K:Nat} {G:Grd} {q x:Rat} {z:Int} {A:Option Addr}
theorem qp {k:Int} (h:k.natAbs < 2 ^ m) (hm:0 < m):Ht m (k:Rat):=by
 refine⟨by rw [Rat.num_intCast]; exact h,?_⟩;rw [Rat.den_intCast];exact Nat.one_lt_two_pow (by omega)
theorem q0R {n:Int} (hk:Ht K x) (hf:(flo x).natAbs < 1000000000) {p:Nat} (hp:p < (wu x n).length):0<=cI (wu x n) p/\cI (wu x n) p < n - 1/\Ht (K+31) (cQ (wu x n) p):=by
 have h:∀ e∈wu x n,0<=e.1/\e.1 < n - 1/\Ht (K+31) e.2:=by
  intro e he;unfold wu at he
  rcases List.mem_append.1 he with he | he
  ·unfold q3o at he
   split at he
   ·rename_i hc
    rw [List.mem_singleton] at he;subst he;exact⟨hc.1,hc.2,(hk.sub (qp (m:=30) (by omega) (by omega))).mono (by omega)⟩
   ·cases he
  ·unfold Jc at he
   split at he
   ·rename_i hc
    rw [List.mem_singleton] at he;subst he;exact⟨by show 0<=flo x - 1; omega,by show flo x - 1 < n - 1; omega,(qp (m:=1) (by decide) (by omega)).mono (by omega)⟩
   ·cases he
 have hm:=h _ (List.getElem_mem hp);unfold cI cQ;rw [List.getElem?_eq_getElem hp];exact hm
theorem q3d {α β:Type} {f:α->Option β} {l:List α} {p:Nat} (h:(l.take p).findSome? f=none) {a:α} (ha:l[p]?=some a) {q:β} (hq:f a=some q):l.findSome? f=some q:=by
 obtain⟨hp,rfl⟩:=List.getElem?_eq_some_iff.1 ha;rw [<-List.take_append_drop p l,List.findSome?_append,h,List.drop_eq_getElem_cons hp,List.findSome?_cons,hq]
 rfl
theorem q0w {α β:Type} {f:α->Option β} {l:List α} {p:Nat} (h:(l.take p).findSome? f=none) {a:α} (ha:l[p]?=some a) (hq:f a=none):(l.take (p+1)).findSome? f=none:=by
 obtain⟨hp,rfl⟩:=List.getElem?_eq_some_iff.1 ha;rw [List.take_succ_eq_append_getElem hp,List.findSome?_append,h,List.findSome?_cons,hq]
 rfl
theorem q3e {α β:Type} {f:α->Option β} {l:List α} {p:Nat} (h:(l.take p).findSome? f=none) (hp:l.length<=p):l.findSome? f=none:=by
 rw [List.take_of_length_le hp] at h;exact h
theorem c_at {l:List (Int×Rat)} {p:Nat} (hp:p < l.length):l[p]?=some (cI l p,cQ l p):=by
 unfold cI cQ;rw [List.getElem?_eq_getElem hp]
 rfl
theorem IzV.wide {lo' hi':Nat} {w:World} {v:Value} {z:Nat->Int} (h:IzV N lo hi w v n z):IzV N lo' hi' w v n z:=⟨rfl,h.2⟩
theorem Cel.ext {w:World} {v1 v2:Value} {l:List (Int×Rat)} (h:Cel N w v1 v2 l) (e:Ext w w'):Cel N w' v1 v2 l :=
 ⟨IzV.wide (h.1.ext e),LsR.wide (h.2.ext e) (q_r) e.size (q_r)⟩
def Mn.cel (N:Nat) (l:List (Int×Rat)):Mn:=⟨fun v w=>∃ v1 v2,v=.tuple #[v1,v2]/\Cel N w v1 v2 l,fun e h=>by
 obtain⟨v1,v2,h0,h1⟩:=h
 exact⟨v1,v2,h0,h1.ext e⟩⟩
def Mn.iz (N n:Nat) (z:Nat->Int):Mn:=⟨fun v w=>IzV N 0 w.heap.size w v n z,fun e h=>IzV.wide (h.ext e)⟩
theorem q2L (h:GOk G) {i j:Int} (hi0:0<=i) (hi1:i < G.wd) (hj0:0<=j) (hj1:j < G.ht) (hn:zAt G i j≠-2147483648) : -1048576<=zAt G i j/\zAt G i j<=1048576:=by
 rcases h.z _ (zidx hi0 hi1 hj0 hj1 h.n).2.1 with h9 | h9
 ·exact absurd h9 hn
 ·exact h9
theorem Xg {i j:Int} {a b:Rat} {r:Nat} (h:¬(0<=orR a b r/\zAt G i j≠zK/\thR G i j r≠zK/\zAt G (i+1) (j+1)≠zK)):Ze G i j a b r=none:=if_neg h
theorem q3y {i j:Int} {a b:Rat} {r:Nat} (h:0<=orR a b r) (h1:zAt G i j≠zK) (h2:thR G i j r≠zK) (h3:zAt G (i+1) (j+1)≠zK):Ze G i j a b r =
  some (((zAt G i j:Int):Rat)+fiR a b r*((thR G i j r - zAt G i j:Int):Rat)+seR a b r*((zAt G (i+1) (j+1) - thR G i j r:Int):Rat)):=if_pos ⟨h,h1,h2,h3⟩
theorem q1o {i j:Int} {a b:Rat} {r:Nat} (h:(Ze G i j a b r).isSome=true):zAt G i j≠-2147483648/\thR G i j r≠-2147483648/\zAt G (i+1) (j+1)≠-2147483648/\Ze G i j a b r =
  some (((zAt G i j:Int):Rat)+fiR a b r*((thR G i j r - zAt G i j:Int):Rat)+seR a b r*((zAt G (i+1) (j+1) - thR G i j r:Int):Rat)):=by
 by_cases hc:0<=orR a b r/\zAt G i j≠zK/\thR G i j r≠zK/\zAt G (i+1) (j+1)≠zK
 ·exact⟨hc.2.1,hc.2.2.1,hc.2.2.2,if_pos hc⟩
 ·rw [Xg hc] at h; cases h
theorem q4C (h:GOk G) {i j:Int} {r:Nat} (hi0:0<=i) (hi1:i < G.wd - 1) (hj0:0<=j) (hj1:j < G.ht - 1) (hn:thR G i j r≠-2147483648) : -1048576<=thR G i j r/\thR G i j r<=1048576:=by
 unfold thR at hn ⊢
 split at hn <;> rename_i h9
 ·rw [if_pos h9]; exact q2L h (by omega) (by omega) (by omega) (by omega) hn
 ·rw [if_neg h9]; exact q2L h (by omega) (by omega) (by omega) (by omega) hn
theorem q5m {a b:Rat} {r:Nat} (ha:Ht k a) (hb:Ht k b):Ht k (fiR a b r):=by unfold fiR; split <;> assumption
theorem q4J {a b:Rat} {r:Nat} (ha:Ht k a) (hb:Ht k b):Ht k (seR a b r):=by unfold seR; split <;> assumption
theorem q4H {i j:Int} {a b:Rat} {r:Nat} (hr:r < 2) (hn:∀ s,s < r->Ze G i j a b s=none) (h:Ze G i j a b r=some q):sqF G (i,a) (j,b)=some q:=by
 unfold sqF;have hr':r=0\/r=1:=by omega
 rcases hr' with rfl | rfl
 ·rw [h]; rfl
 ·rw [hn 0 (by omega),h]; rfl
theorem sq_no {i j:Int} {a b:Rat} (hn:∀ s,s < 2->Ze G i j a b s=none):sqF G (i,a) (j,b)=none:=by
 unfold sqF;rw [hn 0 (by omega),hn 1 (by omega)]; rfl
theorem q3P (a b:Rat) {r:Nat} (hr:r < 2) : -(orR a b r)=orR a b (r+1):=by
 unfold orR;have hr':r=0\/r=1:=by omega
 rcases hr' with rfl | rfl <;> simp
theorem or_le (a b:Rat) (r:Nat) : -1<=orR a b r/\orR a b r<=1:=by
 have h:∀ z:Int,-1<=z.sign/\z.sign<=1:=by
  intro z
  rcases Int.lt_trichotomy z 0 with h | h | h
  ·rw [Int.sign_eq_neg_one_of_neg h]; omega
  ·rw [h]; decide
  ·rw [Int.sign_eq_one_of_pos h]; omega
 have h1:=h (a.num*b.den - b.num*a.den);unfold orR Va
 split <;> omega
theorem q3A (G:Grd) (i j:Int) (r:Nat):zAt G i (j+1)=thR G i j (r+1):=by unfold thR; rw [if_neg (by omega)]
theorem q4d (a b:Rat) (r:Nat):b=fiR a b (r+1):=by unfold fiR; rw [if_neg (by omega)]
theorem q3H (a b:Rat) (r:Nat):a=seR a b (r+1):=by unfold seR; rw [if_neg (by omega)]
theorem Vf {w:World} (h:jL N w g q):g < w.heap.size:=by
 obtain⟨b,A,n,c,A',n',c',h,-⟩:=h;exact qJ h
def ZC (w5:World) (gG:Nat) (i j z:Int):Prop:=∀ wi,Ext w5 wi->Calls Tryz.prog 102 #[.int .i64 i,.int .i64 j,.pointer (some ⟨gG,0,none⟩)] wi (q3s wi (.int .i64 z))
theorem q1i {gG:Nat} {w w5:World} (hb:GBlk w gG G A c) (hz:IzV N lo hi w (.slice A G.n c) G.n G.z) (e5:Ext w w5) (hG:GOk G) {i j:Int} (hi0:0<=i) (hi1:i < G.wd) (hj0:0<=j) (hj1:j < G.ht):ZC w5 gG i j (zAt G i j) :=
 fun _ e=>o_z (show GBlk _ _ _ _ _ from (e5.trans e).block hb) (hz.ext (e5.trans e)) hi0 hi1 hj0 hj1 hG.w1 hG.h1 hG.n
theorem ZC.v {w5:World} {gG:Nat} {i j:Int} (h:ZC w5 gG i j z) (e:Ext w5 w'):Calls Tryz.prog 102 #[.int .i64 i,.int .i64 j,.pointer (some ⟨gG,0,none⟩)] w' (zX w' (.int .i64 z)):=(h w' e).mono fun _ _ h=>h.v
def q3t (N:Nat) (w:World) (o:Option Rat) (e:Ending) (w':World):Prop :=
 match o with
 | some q=>∃ v,e=.returned (.tuple #[v,.bool true])/\qm N w' v q/\Ext w w'
 | none=>e=.returned (.tuple #[.agg #[.bool false,.slice none 0 0,.bool false,.slice none 0 0],.bool false])/\Ext w w'
set_option maxRecDepth 100000 in
theorem YE {w:World} {vg vx vy:Value} {y:Rat} (hg:yg N lo hi w vg G) (hG:GOk G) (hx:qm N w vx x) (hy:qm N w vy y) (hkx:Ht K x) (hky:Ht K y) (hK:K<=1000000)
  (hfx:(flo (kJ x G.x0 G.st)).natAbs < 1000000000) (hfy:(flo (kJ y G.y0 G.st)).natAbs < 1000000000) :
  Calls Tryz.prog 51 #[vg,vx,vy] w (q3t N w (XN G x y)):=by
 have hN:=hx.le;obtain⟨A,c,rfl,-,-,hz⟩:=hg.parts;have HX:=q_h hx;have HY:=q_h hy;obtain⟨m1,X1,i1,d1,X2,i2,d2,rfl,hm1,gx1,gx2⟩:=hx.parts;obtain⟨m2,Y1,i3,d3,Y2,i4,d4,rfl,hm2,gy1,gy2⟩:=hy.parts;clear hx hy gx1 gx2 gy1 gy2;have HG:=q_h hG;have HZ:=q_h hz;obtain⟨res,hres⟩:=qf (XN G x y);rw [<-hres.out];obtain⟨⟨g1,g2,g3,g4,g5,g6,g7,g8,g9,g10⟩,-,-⟩:(2<=G.wd/\G.wd<=64/\2<=G.ht/\G.ht<=64/\2<=G.st/\G.st<=65536/\-1048576<=G.x0/\G.x0<=1048576/\-1048576<=G.y0/\G.y0<=1048576)/\True/\True:=⟨⟨hG.w0,hG.w1,hG.h0,hG.h1,hG.s0,hG.s1,hG.x0,hG.x1,hG.y0,hG.y1⟩,trivial,trivial⟩
 have HU:Hid (Ht (K+39) (kJ x G.x0 G.st)):=((hkx.sub (qp (m:=21) (by omega) (by omega))).div (qp (m:=17) (by omega) (by omega))).mono (by omega);have HV:Hid (Ht (K+39) (kJ y G.y0 G.st)):=((hky.sub (qp (m:=21) (by omega) (by omega))).div (qp (m:=17) (by omega) (by omega))).mono (by omega);clear hg hG hz;go_enter Tryz.func51,Tryz.ntmps51;go_wp2_with (go_at_call 61; refine q_o ?_);refine q4k ?_;intro W hE hsz B0 B1 B2 B3;obtain⟨a0,a1,a2,a3,a4,a5⟩:=qG B0;refine (qQ (N:=N) (by omega) G.st (by omega) (by omega)).mono ?_;rintro e w1 hh;obtain⟨b3,A11,k11,c11,A12,k12,c12,rfl,hb3,gw5,gw6,e1⟩:=hh.form;replace B0:=e1.block B0;replace B1:=e1.block B1;replace B2:=e1.block B2;replace B3:=e1.block B3;replace hE:=hE.trans e1;replace hsz:=q_l hsz e1.size;clear a0 a1 a2 a3 a4 a5;go_upto_region 2 with (fail);refine ql ?_;intro w2 e2 hsz2 B4;obtain⟨g8,hg8⟩:∃ g8,g8=w1.heap.size:=⟨_,rfl⟩
 rw [<-hg8] at B4 ⊢;replace B0:=e2.block B0;replace B1:=e2.block B1;replace B2:=e2.block B2;replace B3:=e2.block B3;have hx2:=HX.out.ext (hE.trans e2);have hy2:=HY.out.ext (hE.trans e2);have hs2:qm N w2 _ (G.st:Rat):=qm.mk hb3 (gw5.ext e2) (gw6.ext e2);replace hE:=hE.trans e2;obtain⟨a0,a1,a2,a3,a4,a5⟩:=qG B0;obtain⟨p0,p1,p2,p3,-⟩:=cells4 B1;obtain⟨q0,q1,q2,q3,-⟩:=cells4 B2;obtain⟨s0,s1,s2,s3,-⟩:=cells4 B4;have hg8':g8 < w2.heap.size:=qJ B4;have HST:Hid (((G.st:Int):Rat)≠0):=by rw [Hid,Ne,Rat.intCast_eq_zero_iff]; omega
 have HSS:Hid (Sz ((G.st:Int):Rat)):=zT (by omega);have HSX:Hid (Sz (x - (G.x0:Rat))):=(hkx.sub (qp (m:=21) (by omega) (by omega))).sz (by omega);have HSY:Hid (Sz (y - (G.y0:Rat))):=(hky.sub (qp (m:=21) (by omega) (by omega))).sz (by omega);have HSX0:Hid (Sz x):=hkx.sz (by omega);have HSY0:Hid (Sz y):=hky.sz (by omega);obtain⟨u,hu⟩:=qf (kJ x G.x0 G.st);obtain⟨v,hv⟩:=qf (kJ y G.y0 G.st);have HFX:Hid ((flo u).natAbs < 1000000000):=by rw [hu.out]; exact hfx
 have HFY:Hid ((flo v).natAbs < 1000000000):=by rw [hv.out]; exact hfy
 rw [<-hu.out] at HU;rw [<-hv.out] at HV;have HSU:Hid (Sz u/\Sz (u - (flo u:Rat))):=⟨HU.out.sz (by omega),(HU.out.sub (qp (m:=30) (by have:=HFX.out; omega) (by omega))).sz (by omega)⟩
 have HSV:Hid (Sz v/\Sz (v - (flo v:Rat))):=⟨HV.out.sz (by omega),(HV.out.sub (qp (m:=30) (by have:=HFY.out; omega) (by omega))).sz (by omega)⟩
 obtain⟨l1,hl1⟩:=qf (wu u G.wd);obtain⟨l2,hl2⟩:=qf (wu v G.ht);have HM1:Hid (∀ p,p < l1.length->0<=cI l1 p/\cI l1 p < G.wd - 1/\Ht (K+70) (cQ l1 p)):=by rw [hl1.out]; exact fun p hp=>q0R HU.out HFX.out hp
 have HM2:Hid (∀ p,p < l2.length->0<=cI l2 p/\cI l2 p < G.ht - 1/\Ht (K+70) (cQ l2 p)):=by rw [hl2.out]; exact fun p hp=>q0R HV.out HFY.out hp
 have HRES:Hid (res=q2g G l1 l2):=by rw [hres.out,hl1.out,hl2.out,hu.out,hv.out]; rfl
 clear hkx hky hfx hfy hg8 B4 gw5 gw6 hres;refine xe [Mn.rat N (x),Mn.q w.heap.size 0,Mn.i G.x0,Mn.rat N ((G.x0:Int):Rat),Mn.rat N (x - ((G.x0:Int):Rat)),Mn.rat N (((G.st:Int):Rat)),Mn.rat N u,Mn.q w.heap.size 3,Mn.i G.wd,Mn.cel N l1,Mn.cel N l1,Mn.iz N l1.length (cI l1),Mn.ls N l1.length (cQ l1),Mn.iz N l1.length (cI l1),Mn.ls N l1.length (cQ l1)] (sM [29,30,31,32,33,34,35,36,37,38,28,39,40,9,10]) [] (rQ 15 0) 0 (by kernel_rfl) ?_ ?_
 ·show ∀ i,i < 15->_
  iterate 15 refine fs ?_ ?_
  ·exact fz
  all_goals intro hl; clear hl; refine stp rfl ?_; intro ac wi eI hB hA K hK
  have o4:=oOf (hB 4) rfl;clear hB hA;have cc0:=eI.cell p0;have cc1:=eI.cell p1;have cc2:=eI.cell p2;have cc3:=eI.cell p3
  ·go_simp;exact q_k hK (hx2.ext eI)
  have o3:=oOf (hB 3) rfl
  rotate_left
  obtain⟨_,s30,rfl⟩:=hA 1 30;have cc0:=eI.cell a0
  rotate_left
  obtain⟨_,s31,rfl⟩:=hA 2 31;clear hB hA
  ·go_simp;refine (qQ (q_l (by omega:N<=w2.heap.size) eI.size) G.x0 (by omega) (by omega)).mono ?_;rintro e wj ⟨vj,rfl,hj,ej⟩;go_wp2_with fail;exact hK.out _ _ ej hj
  obtain⟨x29,s29,j29⟩:=hA 0 29;replace j29:Mn.p (Mn.rat N (x)) x29 wi:=j29;obtain⟨x32,s32,j32⟩:=hA 3 32;replace j32:Mn.p (Mn.rat N ((G.x0:Int):Rat)) x32 wi:=j32;clear hB hA
  ·go_simp;refine (vF j29 j32 HSX0.out (zT (by omega))).mono ?_;rintro e wj ⟨vj,rfl,hj,ej⟩;go_wp2_with fail;exact hK.out _ _ ej hj
  have o8:=oOf (hB 8) rfl;clear hB hA;have cc0:=eI.cell s0;have cc1:=eI.cell s1;have cc2:=eI.cell s2;have cc3:=eI.cell s3
  ·go_simp;exact q_k hK (hs2.ext eI)
  obtain⟨x33,s33,j33⟩:=hA 4 33;replace j33:Mn.p (Mn.rat N (x - ((G.x0:Int):Rat))) x33 wi:=j33;obtain⟨x34,s34,j34⟩:=hA 5 34;replace j34:Mn.p (Mn.rat N (((G.st:Int):Rat))) x34 wi:=j34;clear hB hA
  ·go_simp;refine (QQ j33 j34 HSX.out HSS.out HST.out).mono ?_;rw [show (x - ((G.x0:Int):Rat)) / ((G.st:Int):Rat)=u from hu.out.symm];rintro e wj ⟨vj,rfl,hj,ej⟩;go_wp2_with fail;exact hK.out _ _ ej hj
  have o3:=oOf (hB 3) rfl
  rotate_left
  obtain⟨_,s36,rfl⟩:=hA 7 36;have cc0:=eI.cell a3
  rotate_left
  obtain⟨x35,s35,j35⟩:=hA 6 35;replace j35:Mn.p (Mn.rat N u) x35 wi:=j35;obtain⟨_,s37,rfl⟩:=hA 8 37;clear hB hA
  ·go_simp;refine (WR j35 HSU.out.1 HSU.out.2 HFX.out (by omega) (by omega)).mono ?_;rw [<-hl1.out];rintro e wj ⟨u1,u2,rfl,hj,ej⟩;go_wp2_with fail;exact hK.out _ _ ej ⟨u1,u2,rfl,hj⟩
  obtain⟨x38,s38,j38⟩:=hA 9 38;replace j38:Mn.p (Mn.cel N l1) x38 wi:=j38;clear hB hA
  ·go_simp;exact q_k hK j38
  obtain⟨x28,s28,j28⟩:=hA 10 28;replace j28:Mn.p (Mn.cel N l1) x28 wi:=j28;clear hB hA
  ·obtain⟨u1,u2,rfl,hj⟩:=j28;go_simp;exact q_k hK hj.1
  obtain⟨x28,s28,j28⟩:=hA 10 28;replace j28:Mn.p (Mn.cel N l1) x28 wi:=j28;clear hB hA
  ·obtain⟨u1,u2,rfl,hj⟩:=j28;go_simp;exact q_k hK hj.2
  obtain⟨x39,s39,j39⟩:=hA 11 39;replace j39:Mn.p (Mn.iz N l1.length (cI l1)) x39 wi:=j39;clear hB hA
  ·go_simp;exact q_k hK j39
  obtain⟨x40,s40,j40⟩:=hA 12 40;replace j40:Mn.p (Mn.ls N l1.length (cQ l1)) x40 wi:=j40;clear hB hA
  ·go_simp;exact q_k hK j40
  all_goals clear hB hA; go_simp; exact q_k hK rfl
 intro vals wz eZ hJ;have J9:Mn.p (Mn.iz N l1.length (cI l1)) (vals 13) wz:=hJ 13 (by decide) (by decide);have J10:Mn.p (Mn.ls N l1.length (cQ l1)) (vals 14) wz:=hJ 14 (by decide) (by decide);clear hJ;simp only [pr,Nat.reduceAdd]
 generalize vals 13=z9 at J9 ⊢
 generalize vals 14=z10 at J10 ⊢
 refine qg (by kernel_rfl) ?_ _;have I9:IzV N 0 wz.heap.size wz z9 l1.length (cI l1):=J9;have I10:LsV N 0 wz.heap.size wz z10 l1.length (cQ l1):=J10;clear J9 J10;obtain⟨w3,hw3⟩:∃ w3,w3=wz:=⟨_,rfl⟩
 subst hw3;replace hE:=hE.trans eZ;replace B0:=eZ.block B0;replace B3:=eZ.block B3;replace hy2:=hy2.ext eZ;replace hs2:=hs2.ext eZ;replace q0:=eZ.cell q0;replace q1:=eZ.cell q1;replace q2:=eZ.cell q2;replace q3:=eZ.cell q3;replace s0:=eZ.cell s0;replace s1:=eZ.cell s1;replace s2:=eZ.cell s2;replace s3:=eZ.cell s3;have hN3:N<=w3.heap.size:=by have:=hE.size; omega
 clear eZ a0 a1 a2 a3 a4 a5 p0 p1 p2 p3 hx2 B1 B2;obtain⟨a0,a1,a2,a3,a4,a5⟩:=qG B0;go_upto_region 3 with (fail);refine xe [Mn.rat N (y),Mn.q w.heap.size 1,Mn.i G.y0,Mn.rat N ((G.y0:Int):Rat),Mn.rat N (y - ((G.y0:Int):Rat)),Mn.rat N (((G.st:Int):Rat)),Mn.rat N v,Mn.q w.heap.size 4,Mn.i G.ht,Mn.cel N l2,Mn.cel N l2,Mn.iz N l2.length (cI l2),Mn.ls N l2.length (cQ l2),Mn.iz N l2.length (cI l2),Mn.ls N l2.length (cQ l2)] (sM [42,43,44,45,46,47,48,49,50,51,41,52,53,11,12]) [] (rQ 15 0) 0 (by kernel_rfl) ?_ ?_
 ·show ∀ i,i < 15->_
  iterate 15 refine fs ?_ ?_
  ·exact fz
  all_goals intro hl; clear hl; refine stp rfl ?_; intro ac wi eI hB hA K hK
  have o5:=oOf (hB 5) rfl;clear hB hA;have cc0:=eI.cell q0;have cc1:=eI.cell q1;have cc2:=eI.cell q2;have cc3:=eI.cell q3
  ·go_simp;exact q_k hK (hy2.ext eI)
  have o3:=oOf (hB 3) rfl
  rotate_left
  obtain⟨_,s43,rfl⟩:=hA 1 43;have cc0:=eI.cell a1
  rotate_left
  obtain⟨_,s44,rfl⟩:=hA 2 44;clear hB hA
  ·go_simp;refine (qQ (q_l (by omega:N<=w3.heap.size) eI.size) G.y0 (by omega) (by omega)).mono ?_;rintro e wj ⟨vj,rfl,hj,ej⟩;go_wp2_with fail;exact hK.out _ _ ej hj
  obtain⟨x42,s42,j42⟩:=hA 0 42;replace j42:Mn.p (Mn.rat N (y)) x42 wi:=j42;obtain⟨x45,s45,j45⟩:=hA 3 45;replace j45:Mn.p (Mn.rat N ((G.y0:Int):Rat)) x45 wi:=j45;clear hB hA
  ·go_simp;refine (vF j42 j45 HSY0.out (zT (by omega))).mono ?_;rintro e wj ⟨vj,rfl,hj,ej⟩;go_wp2_with fail;exact hK.out _ _ ej hj
  have o8:=oOf (hB 8) rfl;clear hB hA;have cc0:=eI.cell s0;have cc1:=eI.cell s1;have cc2:=eI.cell s2;have cc3:=eI.cell s3
  ·go_simp;exact q_k hK (hs2.ext eI)
  obtain⟨x46,s46,j46⟩:=hA 4 46;replace j46:Mn.p (Mn.rat N (y - ((G.y0:Int):Rat))) x46 wi:=j46;obtain⟨x47,s47,j47⟩:=hA 5 47;replace j47:Mn.p (Mn.rat N (((G.st:Int):Rat))) x47 wi:=j47;clear hB hA
  ·go_simp;refine (QQ j46 j47 HSY.out HSS.out HST.out).mono ?_;rw [show (y - ((G.y0:Int):Rat)) / ((G.st:Int):Rat)=v from hv.out.symm];rintro e wj ⟨vj,rfl,hj,ej⟩;go_wp2_with fail;exact hK.out _ _ ej hj
  have o3:=oOf (hB 3) rfl
  rotate_left
  obtain⟨_,s49,rfl⟩:=hA 7 49;have cc0:=eI.cell a4
  rotate_left
  obtain⟨x48,s48,j48⟩:=hA 6 48;replace j48:Mn.p (Mn.rat N v) x48 wi:=j48;obtain⟨_,s50,rfl⟩:=hA 8 50;clear hB hA
  ·go_simp;refine (WR j48 HSV.out.1 HSV.out.2 HFY.out (by omega) (by omega)).mono ?_;rw [<-hl2.out];rintro e wj ⟨u1,u2,rfl,hj,ej⟩;go_wp2_with fail;exact hK.out _ _ ej ⟨u1,u2,rfl,hj⟩
  obtain⟨x51,s51,j51⟩:=hA 9 51;replace j51:Mn.p (Mn.cel N l2) x51 wi:=j51;clear hB hA
  ·go_simp;exact q_k hK j51
  obtain⟨x41,s41,j41⟩:=hA 10 41;replace j41:Mn.p (Mn.cel N l2) x41 wi:=j41;clear hB hA
  ·obtain⟨u1,u2,rfl,hj⟩:=j41;go_simp;exact q_k hK hj.1
  obtain⟨x41,s41,j41⟩:=hA 10 41;replace j41:Mn.p (Mn.cel N l2) x41 wi:=j41;clear hB hA
  ·obtain⟨u1,u2,rfl,hj⟩:=j41;go_simp;exact q_k hK hj.2
  obtain⟨x52,s52,j52⟩:=hA 11 52;replace j52:Mn.p (Mn.iz N l2.length (cI l2)) x52 wi:=j52;clear hB hA
  ·go_simp;exact q_k hK j52
  obtain⟨x53,s53,j53⟩:=hA 12 53;replace j53:Mn.p (Mn.ls N l2.length (cQ l2)) x53 wi:=j53;clear hB hA
  ·go_simp;exact q_k hK j53
  all_goals clear hB hA; go_simp; exact q_k hK rfl
 intro vals wz eZ hJ;have J11:Mn.p (Mn.iz N l2.length (cI l2)) (vals 13) wz:=hJ 13 (by decide) (by decide);have J12:Mn.p (Mn.ls N l2.length (cQ l2)) (vals 14) wz:=hJ 14 (by decide) (by decide);clear hJ;simp only [pr,Nat.reduceAdd]
 generalize vals 13=z11 at J11 ⊢
 generalize vals 14=z12 at J12 ⊢
 refine qg (by kernel_rfl) ?_ _;have I11:IzV N 0 wz.heap.size wz z11 l2.length (cI l2):=J11;have I12:LsV N 0 wz.heap.size wz z12 l2.length (cQ l2):=J12;replace I9:=I9.ext eZ;replace I10:=I10.ext eZ;clear J11 J12;obtain⟨w4,hw4⟩:∃ w4,w4=wz:=⟨_,rfl⟩
 subst hw4;replace hE:=hE.trans eZ;replace B0:=eZ.block B0;replace B3:=eZ.block B3;clear eZ a0 a1 a2 a3 a4 a5 q0 q1 q2 q3 s0 s1 s2 s3 hy2 hs2;obtain⟨A9,c9,rfl,hn9,hc9⟩:=I9.form;obtain⟨A10,c10,rfl,-,hc10⟩:=I10.form;obtain⟨A11',c11',rfl,hn11,hc11⟩:=I11.form;obtain⟨A12',c12',rfl,-,hc12⟩:=I12.form;unfold maxLen at hc9 hc10 hc11 hc12;have HBG:Hid (GBlk w4 w.heap.size G A c):=B0;have HBR:=q_h B3;have HGN:=HG.out.n;have hN4:N<=w4.heap.size:=by have:=hE.size; omega
 clear B0 B3;go_wp2
 go_loopw [57] (fun i wr=>∃ p:Nat,p<=l1.length/\i=.int .i64 p/\Hid ((l1.take p).findSome? (fun e=>q4L G e l2)=none)/\Ext w4 wr) (fun i _=>l1.length - (intOf i).toNat)
 case atStart=>exact⟨0,Nat.zero_le _,rfl,rfl,Ext.refl w4⟩
 case round =>
  obtain⟨p,hp,rfl,HA1,hEr⟩:=hrel
  by_cases hlt:p < l1.length
  case neg =>
   have HR:Hid (res=none):=by rw [Hid,HRES.out]; exact q3e HA1.out (by omega)
   have hBRH:=hEr.block HBR.out;obtain⟨u0,u1,u2,u3,u4,u5,u6,u7⟩:=cells4 hBRH;have hEr0:=hE.trans hEr;clear hEr;go_wp2;obtain⟨wR,ER,FR,UR⟩:=ex4 hBRH (.bool false) (.slice none 0 0) (.bool false) (.slice none 0 0);rw [ER];obtain⟨v0,v1,v2,v3,-⟩:=cells4 FR;refine bodyPost_ret (v:=.tuple #[.agg #[.bool false,.slice none 0 0,.bool false,.slice none 0 0],.bool false]) ?_ rfl ?_
   ·simp [results,Tryz.results51,v0,v1,v2,v3,go_sem]
   rw [HR.out];exact⟨rfl,UR.ext hEr0 (by omega)⟩
  obtain⟨b9,of9,rfl,hx9⟩:=(I9.ext hEr).addr (by omega);have u0:=hx9 p hlt;obtain⟨hi0,hi1,ha⟩:=HM1.out p hlt;obtain⟨i,hid⟩:=qf (cI l1 p);obtain⟨a,had⟩:=qf (cQ l1 p);rw [<-hid.out] at u0 hi0 hi1;rw [<-had.out] at ha;have HAT:Hid (l1[p]?=some (i,a)):=by rw [Hid,hid.out,had.out]; exact c_at hlt
  clear hx9;go_wp2;obtain⟨wq,hwq⟩:∃ wq,wq=wr:=⟨wr,rfl⟩
  subst hwq;clear u0
  go_loopw [64] (fun jv wr=>∃ q:Nat,q<=l2.length/\jv=.int .i64 q/\Hid ((l2.take q).findSome? (sqF G (i,a))=none)/\Ext w4 wr) (fun jv _=>l2.length - (intOf jv).toNat)
  case atStart=>exact⟨0,Nat.zero_le _,rfl,rfl,hEr⟩
  case round =>
   clear hEr;obtain⟨q,hq,rfl,HA2,hEr⟩:=hrel
   by_cases hlt2:q < l2.length
   case neg =>
    have HR:Hid (q4L G (i,a) l2=none):=q3e HA2.out (by omega);go_wp2;go_roundw
    case rel=>exact⟨p+1,by omega,by go_num,q0w HA1.out HAT.out HR.out,hEr⟩
    case measure=>simp [intOf]; omega
   obtain⟨b11,of11,rfl,hx11⟩:=(I11.ext hEr).addr (by omega);have v0:=hx11 q hlt2;obtain⟨hj0,hj1,hb⟩:=HM2.out q hlt2;obtain⟨j,hjd⟩:=qf (cI l2 q);obtain⟨b,hbd⟩:=qf (cQ l2 q);rw [<-hjd.out] at v0 hj0 hj1;rw [<-hbd.out] at hb;have HAT2:Hid (l2[q]?=some (j,b)):=by rw [Hid,hjd.out,hbd.out]; exact c_at hlt2
   obtain⟨b10,of10,rfl,-,-,hx10⟩:=(I10.ext hEr).addr (by omega);obtain⟨b12,of12,rfl,-,-,hx12⟩:=(I12.ext hEr).addr (by omega);obtain⟨nr,Ar,kr,cr,A'r,k'r,c'r,r0,r1,r2,r3,hRr⟩:=(hx10 p (by omega)).opn;obtain⟨nt,At,kt,ct,A't,k't,c't,t0,t1,t2,t3,hRt⟩:=(hx12 q (by omega)).opn;rw [<-had.out] at hRr;rw [<-hbd.out] at hRt;clear hx10 hx11 hx12;go_upto_region 11 with (fail);refine q4M [Mn.eq (.slice (some ⟨b10,of10,none⟩) l1.length c10),Mn.i (p:Int),Mn.q b10 (of10+p*4),Mn.rat N (a),Mn.eq (.slice (some ⟨b12,of12,none⟩) l2.length c12'),Mn.i (q:Int),Mn.q b12 (of12+q*4),Mn.rat N (b),Mn.blk wr.heap.size (.cells #[.bool false,.slice none 0 0,.bool false,.slice none 0 0] 29 (0,0)),Mn.blk wr.heap.size (.cells #[.bool false,.slice none 0 0,.bool false,.slice none 0 0] 29 (0,0)),Mn.any,Mn.any] [some 69,some 70,some 71,some 72,some 73,some 74,some 75,some 76,some 18,some 19,none,none] [10,11] [4,5,6,7] [8,9] (rQ 10 2) 2 (Ext.refl _) (by kernel_rfl) ?_ ?_ ?_ ?_
   ·show ∀ i,i < 12->_
    iterate 12 refine fs ?_ ?_
    ·exact fz
    all_goals intro hl hs hd; first | exact absurd hl (by decide) | exact absurd hs (by decide) | exact absurd hd (by decide) | (clear hl hs hd; refine stp rfl ?_; intro ac wi eI hB hA K hK)
    have o10:=oOf (hB 10) rfl
    rotate_left
    have o14:=oOf (hB 14) rfl
    rotate_left
    obtain⟨_,s69,rfl⟩:=hA 0 69;obtain⟨_,s70,rfl⟩:=hA 1 70
    rotate_left
    obtain⟨_,s71,rfl⟩:=hA 2 71;clear hB hA;have cc0:=eI.cell r0;have cc1:=eI.cell r1;have cc2:=eI.cell r2;have cc3:=eI.cell r3
    ·go_simp;exact q_k hK (hRr.ext eI)
    all_goals clear hB hA; go_simp; exact q_k hK rfl
   ·intro i hs;have hi':i=8\/i=9:=by simpa using hs
    clear hs
    rcases hi' with rfl | rfl
    ·refine q4w rfl ?_;intro ac wi eI hB hA K hK;clear hB hA;go_simp;refine ql ?_;intro wj ej hszj BJ;exact hK.out _ _ ej ⟨_,rfl,eI.size,BJ⟩ ⟨_,rfl,q_r,qJ BJ⟩
    ·refine q4w rfl ?_;intro ac wi eI hB hA K hK;clear hB hA;go_simp;refine ql ?_;intro wj ej hszj BJ;exact hK.out _ _ ej ⟨_,rfl,eI.size,BJ⟩ ⟨_,rfl,q_r,qJ BJ⟩
   ·intro i hs;have hi':i=4\/i=5\/i=6\/i=7:=by simpa using hs
    clear hs
    rcases hi' with rfl | rfl | rfl | rfl
    ·refine q1D rfl (fun _ _ _ _ h=>h) ?_;intro ac wi eI hB hA;have o12:=oOf (hB 12) rfl;clear hB hA;refine⟨(.slice (some ⟨b12,of12,none⟩) l2.length c12'),.inl ⟨rfl,fun w9 _=>?_⟩,rfl⟩;go_simp
    ·refine q1D rfl (fun _ _ _ _ h=>h) ?_;intro ac wi eI hB hA;have o16:=oOf (hB 16) rfl;clear hB hA;refine⟨(.int .i64 (q:Int)),.inl ⟨rfl,fun w9 _=>?_⟩,rfl⟩;go_simp
    ·refine q1D rfl (fun _ _ _ _ h=>h) ?_;intro ac wi eI hB hA;obtain⟨_,s73,rfl⟩:=hA 4 73;obtain⟨_,s74,rfl⟩:=hA 5 74;clear hB hA;refine⟨(.pointer (some ⟨b12,of12+q*4,none⟩)),.inl ⟨rfl,fun w9 _=>?_⟩,rfl⟩;go_simp
    ·refine q1D rfl (fun _ _ _ _ h=>h) ?_;intro ac wi eI hB hA;obtain⟨_,s75,rfl⟩:=hA 6 75;clear hB hA;refine⟨_,.inl ⟨rfl,fun w9 e9=>?_⟩,hRt.ext eI⟩;have cc0:=e9.cell t0;have cc1:=e9.cell t1;have cc2:=e9.cell t2;have cc3:=e9.cell t3;go_simp
   intro vals wz eZ hJ hD;have hD18_19:vals 8≠vals 9:=hD 8 9 (by decide) (by decide) (by decide);clear hD;have J72:Mn.p (Mn.rat N (a)) (vals 3) wz:=hJ 3 (by decide) (by decide);have J76:Mn.p (Mn.rat N (b)) (vals 7) wz:=hJ 7 (by decide) (by decide);have J18:Mn.p (Mn.blk wr.heap.size (.cells #[.bool false,.slice none 0 0,.bool false,.slice none 0 0] 29 (0,0))) (vals 8) wz:=hJ 8 (by decide) (by decide);have J19:Mn.p (Mn.blk wr.heap.size (.cells #[.bool false,.slice none 0 0,.bool false,.slice none 0 0] 29 (0,0))) (vals 9) wz:=hJ 9 (by decide) (by decide);clear hJ;simp only [pr,Nat.reduceAdd]
   generalize vals 3=z72 at J72 ⊢
   generalize vals 7=z76 at J76 ⊢
   generalize vals 8=z18 at J18 hD18_19 ⊢
   generalize vals 9=z19 at J19 hD18_19 ⊢
   obtain⟨gA,rfl,hgA,BA⟩:=J18;obtain⟨gB,rfl,hgB,BB⟩:=J19;have hAB:gA≠gB:=fun e=>hD18_19 (by rw [e])
   obtain⟨bz,Az,kz,cz,Az',kz',cz',rfl,hbz,gz1,gz2⟩:=qm.parts J72;obtain⟨by',Ay,ky,cy,Ay',ky',cy',rfl,hby,gy1,gy2⟩:=qm.parts J76;obtain⟨m0,m1,m2,m3,m4,m5,m6,m7⟩:=cells4 BA;obtain⟨n0,n1,n2,n3,n4,n5,n6,n7⟩:=cells4 BB;refine zg (i:=10) rfl (by kernel_rfl) (fun K hK=>?_);go_simp;refine hK.out _ _ (fun e9=>?_) ?_
   ·repeat (first | with_reducible exact e9 | refine Ext.setCell ?_ (by dsimp only; omega) _)
   clear hK K;try simp only [nr]
   refine zg (i:=11) rfl (by kernel_rfl) (fun K hK=>?_);go_simp;refine hK.out _ _ (fun e9=>?_) ?_
   ·repeat (first | with_reducible exact e9 | refine Ext.setCell ?_ (by dsimp only; omega) _)
   clear hK K;try simp only [nr]
   refine qg (by kernel_rfl) ?_ _;obtain⟨wA,EA,hBA,KA,hsA⟩:=zU (q:=a) BA (by have:=hEr.size; omega) hbz gz1 gz2;rw [EA];have hNA:N<=gA:=by have:=hEr.size; omega
   obtain⟨wB,EB,hBB,KB,hsB⟩:=zU (q:=b) (KA.blk BB (by omega)) (by have:=hEr.size; omega) hby (gy1.chg KA hNA) (gy2.chg KA hNA);rw [EB];replace hBA:=hBA.chg KB (by have:=hEr.size; omega) (by omega);have hE5:Ext w4 wB:=KB.ext (KA.ext (hEr.trans eZ) (by have:=hEr.size; omega)) (by have:=hEr.size; omega);have hlA:gA < wB.heap.size:=by have:=qJ BA; omega
   have hlB:gB < wB.heap.size:=by have:=qJ BB; omega
   have hlA4:w4.heap.size<=gA:=by have:=hEr.size; omega
   have hlB4:w4.heap.size<=gB:=by have:=hEr.size; omega
   clear m0 m1 m2 m3 m4 m5 m6 m7 n0 n1 n2 n3 n4 n5 n6 n7 EA EB KA KB BA BB hsA hsB hbz gz1 gz2 hby gy1 gy2 J72 J76 r0 r1 r2 r3 t0 t1 t2 t3 hRr hRt hD18_19 eZ v0 hEr hgA hgB;obtain⟨w5,hw5⟩:∃ w5,w5=wB:=⟨_,rfl⟩
   subst hw5;have HBA:=q_h hBA;have HBB:=q_h hBB;obtain⟨nm,Am,km,cm,A'm,k'm,c'm,Bm,hbm,ym,zm⟩:=hBA;obtain⟨m0,m1,m2,m3,-⟩:=cells4 Bm;have hRm:qm N w5 (.agg #[.bool nm,.slice Am km cm,.bool false,.slice A'm k'm c'm]) (a):=qm.mk hbm ym zm;obtain⟨nn,An,kn,cn,A'n,k'n,c'n,Bn,hbn,yn,zn⟩:=hBB;obtain⟨n0,n1,n2,n3,-⟩:=cells4 Bn;have hRn:qm N w5 (.agg #[.bool nn,.slice An kn cn,.bool false,.slice A'n k'n c'n]) (b):=qm.mk hbn yn zn;clear hbm ym zm hbn yn zn Bm Bn;have hwi:IntKind.i64.wrap (i+1)=i+1:=IntWalk.i64_in _ (by omega);have hwj:IntKind.i64.wrap (j+1)=j+1:=IntWalk.i64_in _ (by omega);have HZ4:Hid (IzV N lo hi w4 (.slice A G.n c) G.n G.z):=HZ.out.ext hE;have HZ00:Hid (ZC w5 w.heap.size i j (zAt G i j)):=q1i HBG.out HZ4.out hE5 HG.out (by omega) (by omega) (by omega) (by omega);have HZ10:Hid (ZC w5 w.heap.size (i+1) j (zAt G (i+1) j)):=q1i HBG.out HZ4.out hE5 HG.out (by omega) (by omega) (by omega) (by omega);have HZ01:Hid (ZC w5 w.heap.size i (j+1) (zAt G i (j+1))):=q1i HBG.out HZ4.out hE5 HG.out (by omega) (by omega) (by omega) (by omega);have HZ11:Hid (ZC w5 w.heap.size (i+1) (j+1) (zAt G (i+1) (j+1))):=q1i HBG.out HZ4.out hE5 HG.out (by omega) (by omega) (by omega) (by omega);have HL00:Hid (zAt G i j≠-2147483648->-1048576<=zAt G i j/\zAt G i j<=1048576):=q2L HG.out (by omega) (by omega) (by omega) (by omega);have HL10:Hid (zAt G (i+1) j≠-2147483648->-1048576<=zAt G (i+1) j/\zAt G (i+1) j<=1048576):=q2L HG.out (by omega) (by omega) (by omega) (by omega)
   have HL01:Hid (zAt G i (j+1)≠-2147483648->-1048576<=zAt G i (j+1)/\zAt G i (j+1)<=1048576):=q2L HG.out (by omega) (by omega) (by omega) (by omega);have HL11:Hid (zAt G (i+1) (j+1)≠-2147483648->-1048576<=zAt G (i+1) (j+1)/\zAt G (i+1) (j+1)<=1048576):=q2L HG.out (by omega) (by omega) (by omega) (by omega);obtain⟨z00,hz00⟩:=qf (zAt G i j);obtain⟨z10,hz10⟩:=qf (zAt G (i+1) j);obtain⟨z01,hz01⟩:=qf (zAt G i (j+1));obtain⟨z11,hz11⟩:=qf (zAt G (i+1) (j+1));rw [<-hz00.out] at HZ00 HL00;rw [<-hz10.out] at HZ10 HL10;rw [<-hz01.out] at HZ01 HL01;rw [<-hz11.out] at HZ11 HL11;go_upto_region 12 with (fail);refine q4M [Mn.eq (.func (.func 102) #[] #[.pointer (some ⟨w.heap.size,0,none⟩)]),Mn.i i,Mn.i (i+1),Mn.i j,Mn.i z10,Mn.rat N (a),Mn.rat N (b),Mn.blk w5.heap.size (.cells #[.bool false,.slice none 0 0,.bool false,.slice none 0 0] 29 (0,0)),Mn.blk w5.heap.size (.cells #[.bool false,.slice none 0 0,.bool false,.slice none 0 0] 29 (0,0)),Mn.i z10,Mn.any,Mn.any] [some 77,some 78,some 79,some 80,some 81,some 82,some 83,some 21,some 22,some 20,none,none] [10,11] [6] [7,8] (rQ 10 2) 2 (Ext.refl _) (by kernel_rfl) ?_ ?_ ?_ ?_
   ·show ∀ i,i < 12->_
    iterate 12 refine fs ?_ ?_
    ·exact fz
    all_goals intro hl hs hd; first | exact absurd hl (by decide) | exact absurd hs (by decide) | exact absurd hd (by decide) | (clear hl hs hd; refine stp rfl ?_; intro ac wi eI hB hA K hK)
    have o13:=oOf (hB 13) rfl
    rotate_left
    have o15:=oOf (hB 15) rfl
    rotate_left
    obtain⟨_,s78,rfl⟩:=hA 1 78
    rotate_left
    have o17:=oOf (hB 17) rfl
    rotate_left
    obtain⟨_,s77,rfl⟩:=hA 0 77;obtain⟨_,s79,rfl⟩:=hA 2 79;obtain⟨_,s80,rfl⟩:=hA 3 80;clear hB hA
    ·go_simp;refine (HZ10.out.v eI).mono ?_;rintro e wj ⟨rfl,ej⟩;go_wp2_with fail;exact hK.out _ _ ej rfl
    have o18:=oOf (hB 18) rfl;clear hB hA;have cc0:=eI.cell m0;have cc1:=eI.cell m1;have cc2:=eI.cell m2;have cc3:=eI.cell m3
    ·go_simp;exact q_k hK (hRm.ext eI)
    obtain⟨_,s81,rfl⟩:=hA 4 81
    rotate_left
    all_goals clear hB hA; go_simp; exact q_k hK rfl
   ·intro i hs;have hi':i=7\/i=8:=by simpa using hs
    clear hs
    rcases hi' with rfl | rfl
    ·refine q4w rfl ?_;intro ac wi eI hB hA K hK;clear hB hA;go_simp;refine ql ?_;intro wj ej hszj BJ;exact hK.out _ _ ej ⟨_,rfl,eI.size,BJ⟩ ⟨_,rfl,q_r,qJ BJ⟩
    ·refine q4w rfl ?_;intro ac wi eI hB hA K hK;clear hB hA;go_simp;refine ql ?_;intro wj ej hszj BJ;exact hK.out _ _ ej ⟨_,rfl,eI.size,BJ⟩ ⟨_,rfl,q_r,qJ BJ⟩
   ·intro i hs;have hi':i=6:=by simpa using hs
    clear hs
    rcases hi' with rfl
    ·refine q1D rfl (fun _ _ _ _ h=>h) ?_;intro ac wi eI hB hA;have o19:=oOf (hB 19) rfl;clear hB hA;refine⟨_,.inl ⟨rfl,fun w9 e9=>?_⟩,hRn.ext eI⟩;have cc0:=e9.cell n0;have cc1:=e9.cell n1;have cc2:=e9.cell n2;have cc3:=e9.cell n3;go_simp
   intro vals wz eZ hJ hD;have hD21_22:vals 7≠vals 8:=hD 7 8 (by decide) (by decide) (by decide);clear hD;have J82:Mn.p (Mn.rat N (a)) (vals 5) wz:=hJ 5 (by decide) (by decide);have J83:Mn.p (Mn.rat N (b)) (vals 6) wz:=hJ 6 (by decide) (by decide);have J21:Mn.p (Mn.blk w5.heap.size (.cells #[.bool false,.slice none 0 0,.bool false,.slice none 0 0] 29 (0,0))) (vals 7) wz:=hJ 7 (by decide) (by decide);have J22:Mn.p (Mn.blk w5.heap.size (.cells #[.bool false,.slice none 0 0,.bool false,.slice none 0 0] 29 (0,0))) (vals 8) wz:=hJ 8 (by decide) (by decide);have J20:vals 9=_:=hJ 9 (by decide) (by decide);clear hJ;simp only [pr,Nat.reduceAdd,J20];clear J20
   generalize vals 5=z82 at J82 ⊢
   generalize vals 6=z83 at J83 ⊢
   generalize vals 7=z21 at J21 hD21_22 ⊢
   generalize vals 8=z22 at J22 hD21_22 ⊢
   obtain⟨gF,rfl,hgF,BF⟩:=J21;obtain⟨gS,rfl,hgS,BS⟩:=J22;have hFS:gF≠gS:=fun e=>hD21_22 (by rw [e])
   obtain⟨bz,Az,kz,cz,Az',kz',cz',rfl,hbz,gz1,gz2⟩:=qm.parts J82;obtain⟨by',Ay,ky,cy,Ay',ky',cy',rfl,hby,gy1,gy2⟩:=qm.parts J83;obtain⟨x0,x1,x2,x3,x4,x5,x6,x7⟩:=cells4 BF;obtain⟨y0,y1,y2,y3,y4,y5,y6,y7⟩:=cells4 BS;refine zg (i:=10) rfl (by kernel_rfl) (fun K hK=>?_);go_simp;refine hK.out _ _ (fun e9=>?_) ?_
   ·repeat (first | with_reducible exact e9 | refine Ext.setCell ?_ (by dsimp only; omega) _)
   clear hK K;try simp only [nr]
   refine zg (i:=11) rfl (by kernel_rfl) (fun K hK=>?_);go_simp;refine hK.out _ _ (fun e9=>?_) ?_
   ·repeat (first | with_reducible exact e9 | refine Ext.setCell ?_ (by dsimp only; omega) _)
   clear hK K;try simp only [nr]
   refine qg (by kernel_rfl) ?_ _;obtain⟨wF,EF,hBF,KF,hsF⟩:=zU (q:=a) BF (by have:=hE5.size; omega) hbz gz1 gz2;rw [EF];have hNF:N<=gF:=by have:=hE5.size; omega
   obtain⟨wS,ES,hBS,KS,hsS⟩:=zU (q:=b) (KF.blk BS (by omega)) (by have:=hE5.size; omega) hby (gy1.chg KF hNF) (gy2.chg KF hNF);rw [ES];replace hBF:=hBF.chg KS (by omega) (by omega);have hE6:Ext w5 wS:=KS.ext (KF.ext eZ (by omega)) (by omega);have hlF5:w5.heap.size<=gF:=hgF;have hlS5:w5.heap.size<=gS:=hgS;have hNS:N<=gS:=by have:=hE5.size; omega
   have hlF:gF < wS.heap.size:=by have:=qJ BF; omega
   have hlS:gS < wS.heap.size:=by have:=qJ BS; omega
   clear x0 x1 x2 x3 x4 x5 x6 x7 y0 y1 y2 y3 y4 y5 y6 y7 EF ES KF KS BF BS hsF hsS hbz gz1 gz2 hby gy1 gy2 J82 J83 hD21_22 eZ;obtain⟨w6,hw6⟩:∃ w6,w6=wS:=⟨_,rfl⟩
   subst hw6;have HSA:Hid (Sz a):=ha.sz (by omega);have HSB:Hid (Sz b):=hb.sz (by omega);have HHA:=q_h ha;have HHB:=q_h hb;clear ha hb;have hRm6:=hRm.ext hE6;have hRn6:=hRn.ext hE6;have m0':=hE6.cell m0;have m1':=hE6.cell m1;have m2':=hE6.cell m2;have m3':=hE6.cell m3;have n0':=hE6.cell n0;have n1':=hE6.cell n1;have n2':=hE6.cell n2;have n3':=hE6.cell n3;obtain⟨c0,hc0⟩:=qf (Va a b);go_wp2_with (go_at_call 60; refine q_o ?_);refine (jX hRm6 hRn6 HSA.out HSB.out).mono ?_;rintro e w7 ⟨rfl,e7⟩;rw [show (a.num*b.den - b.num*a.den).sign=c0 from hc0.out.symm];replace hE6:=hE6.trans e7;replace hBF:=hBF.ext e7;replace hBS:=hBS.ext e7;clear hRm6 hRn6 m0' m1' m2' m3' n0' n1' n2' n3' hlA hlB;have hlF7:=Vf hBF;have hlS7:=Vf hBS;clear hlF hlS e7;go_wp2;have HMC:=q_h (And.intro (And.intro m0 (And.intro m1 (And.intro m2 m3))) (And.intro n0 (And.intro n1 (And.intro n2 n3))));clear m0 m1 m2 m3 n0 n1 n2 n3
   go_loopw [87,23,20] (fun iv v23 v20 wr=>∃ r:Nat,r<=2/\iv=.int .i64 r/\v23=.int .i64 (orR a b r)/\v20=.int .i64 (thR G i j r)/\jL N wr gF (fiR a b r)/\jL N wr gS (seR a b r)/\Hid (∀ s,s < r->Ze G i j a b s=none)/\Ext w5 wr) (fun iv _ _ _=>2 - (intOf iv).toNat)
   case atStart=>exact⟨0,by omega,rfl,by rw [hc0.out]; rfl,by rw [hz10.out]; rfl,hBF,hBS,fun s hs=>absurd hs (by omega),hE6⟩
   case round =>
    clear hBF hBS hE6 hlF7 hlS7;obtain⟨r,hr,rfl,rfl,rfl,hBF,hBS,HNO,hE6⟩:=hrel;have hlF7:=Vf hBF;have hlS7:=Vf hBS;have hEw:Ext w4 wr:=hE5.trans hE6
    by_cases hr2:r < 2
    case neg =>
     have HQ:Hid (sqF G (i,a) (j,b)=none):=sq_no (fun s hs=>HNO.out s (by omega));have hq1:decide ((r:Int) < 2)=false:=q_f (by omega);go_wp2;go_roundw
     case rel=>exact⟨q+1,by omega,by go_num,q0w HA2.out HAT2.out HQ.out,hEw⟩
     case measure=>simp [intOf]; omega
    have hq1:decide ((r:Int) < 2)=true:=q_t (by omega);obtain⟨ord,hord⟩:=qf (orR a b r);obtain⟨thd,hthd⟩:=qf (thR G i j r);obtain⟨fi,hfi⟩:=qf (fiR a b r);obtain⟨se,hse⟩:=qf (seR a b r);rw [<-hfi.out] at hBF;rw [<-hse.out] at hBS;rw [<-hord.out,<-hthd.out]
    have hwo:IntKind.i64.wrap (-ord) = -ord:=by
     have:=or_le a b r;rw [<-hord.out] at this;exact IntWalk.i64_in _ (by omega)
    obtain⟨tb,htb⟩:=qf (Ze G i j a b r).isSome;go_upto_region 16 with (fail)
    go_cut [110] (fun v wx=>v=.bool tb/\wx=wr)
    case first =>
     by_cases d1:0<=ord
     case neg =>
      have t1:decide (0<=ord)=false:=decide_eq_false d1;have HB:Hid (false=tb):=by rw [Hid,htb.out,Xg (fun h=>d1 (by rw [hord.out]; exact h.1))]; rfl
      go_wp2_with fail
      go_meet
      exact⟨by rw [<-HB.out],rfl⟩
     have t1:decide (0<=ord)=true:=decide_eq_true d1;go_wp2_with (go_at_call 102; refine q_o ?_);refine (HZ00.out wr hE6).mono ?_;rintro e wz ⟨rfl,rfl⟩
     by_cases d2:z00 = -2147483648
     case pos =>
      have HB:Hid (false=tb):=by rw [Hid,htb.out,Xg (fun h=>h.2.1 (by rw [<-hz00.out]; exact d2))]; rfl
      have t2:(z00 != -2147483648)=false:=by simpa using d2
      clear d2;go_wp2_with fail
      go_meet
      exact⟨by rw [<-HB.out],rfl⟩
     have t2:(z00 != -2147483648)=true:=by simpa using d2
     by_cases d3:thd = -2147483648
     case pos =>
      have HB:Hid (false=tb):=by rw [Hid,htb.out,Xg (fun h=>h.2.2.1 (by rw [<-hthd.out]; exact d3))]; rfl
      have t3:(thd != -2147483648)=false:=by simpa using d3
      clear d3;go_wp2_with fail
      go_meet
      exact⟨by rw [<-HB.out],rfl⟩
     have t3:(thd != -2147483648)=true:=by simpa using d3
     go_wp2_with (go_at_call 102; refine q_o ?_);refine (HZ11.out _ hE6).mono ?_;rintro e wz ⟨rfl,rfl⟩
     by_cases d4:z11 = -2147483648
     case pos =>
      have HB:Hid (false=tb):=by rw [Hid,htb.out,Xg (fun h=>h.2.2.2 (by rw [<-hz11.out]; exact d4))]; rfl
      have t4:(z11 != -2147483648)=false:=by simpa using d4
      clear d4;go_wp2_with fail
      go_meet
      exact⟨by rw [<-HB.out],rfl⟩
     have t4:(z11 != -2147483648)=true:=by simpa using d4
     have HB:Hid (true=tb):=by rw [Hid,htb.out,q3y (by rw [<-hord.out]; exact d1) (by rw [<-hz00.out]; exact d2) (by rw [<-hthd.out]; exact d3) (by rw [<-hz11.out]; exact d4)]; rfl
     go_wp2_with fail
     go_meet
     exact⟨by rw [<-HB.out],rfl⟩
    obtain⟨rfl,rfl⟩:=hcut;cases tb with
    | false =>
     have HT:Hid (Ze G i j a b r=none):=by
      have:=htb.out;rw [Hid];cases h9:Ze G i j a b r with
      | none=>rfl
      | some q=>rw [h9] at this; cases this
     clear htb;go_upto_region 19 with (fail);obtain⟨⟨m0,m1,m2,m3⟩,n0,n1,n2,n3⟩:=HMC.out;obtain⟨bF,AF,kF,cF,AF',kF',cF',BF,-⟩:=hBF;obtain⟨x0,x1,x2,x3,x4,x5,x6,x7⟩:=cells4 BF;obtain⟨bS,AS,kS,cS,AS',kS',cS',BS,-⟩:=hBS;obtain⟨y0,y1,y2,y3,y4,y5,y6,y7⟩:=cells4 BS;refine q4M [Mn.eq (.func (.func 102) #[] #[.pointer (some ⟨w.heap.size,0,none⟩)]),Mn.i i,Mn.i j,Mn.i (j+1),Mn.i z01,Mn.rat N (b),Mn.rat N (a),Mn.i ord,Mn.i (-ord),Mn.i z01,Mn.any,Mn.any,Mn.any] [some 139,some 140,some 141,some 142,some 143,some 144,some 145,some 146,some 147,some 20,none,none,some 23] [10,11,12] [6,7,8] [] (rQ 10 3) 3 hE6 (by kernel_rfl) ?_ ?_ ?_ ?_
     ·show ∀ i,i < 13->_
      iterate 13 refine fs ?_ ?_
      ·exact fz
      all_goals intro hl hs hd; first | exact absurd hl (by decide) | exact absurd hs (by decide) | (clear hl hs hd; refine stp rfl ?_; intro ac wi eI hB hA K hK)
      have o13:=oOf (hB 13) rfl
      rotate_left
      have o15:=oOf (hB 15) rfl
      rotate_left
      have o17:=oOf (hB 17) rfl
      rotate_left
      obtain⟨_,s141,rfl⟩:=hA 2 141
      rotate_left
      obtain⟨_,s139,rfl⟩:=hA 0 139;obtain⟨_,s140,rfl⟩:=hA 1 140;obtain⟨_,s142,rfl⟩:=hA 3 142;clear hB hA
      ·go_simp;refine (HZ01.out.v (hE6.trans eI)).mono ?_;rintro e wj ⟨rfl,ej⟩;go_wp2_with fail;exact hK.out _ _ ej rfl
      have o19:=oOf (hB 19) rfl;clear hB hA;have cc0:=(hE6.trans eI).cell n0;have cc1:=(hE6.trans eI).cell n1;have cc2:=(hE6.trans eI).cell n2;have cc3:=(hE6.trans eI).cell n3
      ·go_simp;exact q_k hK (hRn.ext (hE6.trans eI))
      obtain⟨_,s143,rfl⟩:=hA 4 143
      rotate_left
      all_goals clear hB hA; go_simp; exact q_k hK rfl
     ·intro i hs; exact absurd hs (by simp)
     ·intro i hs;have hi':i=6\/i=7\/i=8:=by simpa using hs
      clear hs
      rcases hi' with rfl | rfl | rfl
      ·refine q1D rfl (fun _ _ _ _ h=>h) ?_;intro ac wi eI hB hA;have o18:=oOf (hB 18) rfl;clear hB hA;refine⟨_,.inl ⟨rfl,fun w9 e9=>?_⟩,hRm.ext (hE6.trans eI)⟩;have cc0:=e9.cell m0;have cc1:=e9.cell m1;have cc2:=e9.cell m2;have cc3:=e9.cell m3;go_simp
      ·refine q1D rfl (fun _ _ _ _ h=>h) ?_;intro ac wi eI hB hA;have o23:=oOf (hB 23) rfl;clear hB hA;refine⟨(.int .i64 ord),.inl ⟨rfl,fun w9 _=>?_⟩,rfl⟩;go_simp
      ·refine q1D rfl (fun _ _ _ _ h=>h) ?_;intro ac wi eI hB hA;obtain⟨_,s146,rfl⟩:=hA 7 146;clear hB hA;refine⟨(.int .i64 (-ord)),.inl ⟨rfl,fun w9 _=>?_⟩,rfl⟩;go_simp
     intro vals wz eZ hJ hD;clear hD;have J144:Mn.p (Mn.rat N (b)) (vals 5) wz:=hJ 5 (by decide) (by decide);have J145:Mn.p (Mn.rat N (a)) (vals 6) wz:=hJ 6 (by decide) (by decide);have J147:vals 8=_:=hJ 8 (by decide) (by decide);have J20:vals 9=_:=hJ 9 (by decide) (by decide);clear hJ;simp only [pr,Nat.reduceAdd,J147,J20];clear J147 J20
     generalize vals 5=z144 at J144 ⊢
     generalize vals 6=z145 at J145 ⊢
     obtain⟨bz,Az,kz,cz,Az',kz',cz',rfl,hbz,gz1,gz2⟩:=qm.parts J144;obtain⟨by',Ay,ky,cy,Ay',ky',cy',rfl,hby,gy1,gy2⟩:=qm.parts J145;replace x0:=eZ.cell x0;replace x1:=eZ.cell x1;replace x2:=eZ.cell x2;replace x3:=eZ.cell x3;replace BF:=eZ.block BF;replace BS:=eZ.block BS;clear x0 x1 x2 x3 x4 x5 x6 x7 y0 y1 y2 y3 y4 y5 y6 y7;obtain⟨x0,x1,x2,x3,x4,x5,x6,x7⟩:=cells4 BF;obtain⟨y0,y1,y2,y3,y4,y5,y6,y7⟩:=cells4 BS;refine zg (i:=10) rfl (by kernel_rfl) (fun K hK=>?_);go_simp;refine hK.out _ _ (fun e9=>?_) ?_
     ·repeat (first | with_reducible exact e9 | refine Ext.setCell ?_ (by dsimp only; omega) _)
     clear hK K;try simp only [nr]
     refine zg (i:=11) rfl (by kernel_rfl) (fun K hK=>?_);go_simp;refine hK.out _ _ (fun e9=>?_) ?_
     ·repeat (first | with_reducible exact e9 | refine Ext.setCell ?_ (by dsimp only; omega) _)
     clear hK K;try simp only [nr]
     refine zg (i:=12) rfl (by kernel_rfl) (fun K hK=>?_);go_simp;refine hK.out _ _ (fun e9=>?_) ?_
     ·repeat (first | with_reducible exact e9 | refine Ext.setCell ?_ (by dsimp only; omega) _)
     clear hK K;try simp only [nr]
     refine qg (by kernel_rfl) ?_ _;obtain⟨wF,EF,hBF',KF,hsF⟩:=zU (q:=b) BF hNF hbz gz1 gz2;rw [EF];obtain⟨wS,ES,hBS',KS,hsS⟩:=zU (q:=a) (KF.blk BS (by omega)) hNS hby (gy1.chg KF hNF) (gy2.chg KF hNF);rw [ES];replace hBF':=hBF'.chg KS hNS (by omega);have hE9:Ext w5 wS:=KS.ext (KF.ext (hE6.trans eZ) hlF5) hlS5;go_wp2;go_roundw
     case rel=>exact⟨r+1,by omega,by go_num,by rw [<-q3P a b hr2,<-hord.out],by rw [<-q3A,hz01.out],by rw [<-q4d]; exact hBF',by rw [<-q3H]; exact hBS',xu (p:=fun s=>Ze G i j a b s=none) HNO.out HT.out,hE9⟩
     case measure=>simp [intOf]; omega
    | true =>
     obtain⟨q00,qth,q11,hval⟩:=q1o htb.out.symm;have hb00:=HL00.out (by rw [hz00.out]; exact q00);have hbth : -1048576<=thd/\thd<=1048576:=by rw [hthd.out]; exact q4C HG.out hi0 hi1 hj0 hj1 qth
     have hb11:=HL11.out (by rw [hz11.out]; exact q11);have hFiH:Ht (K+70) fi:=by rw [hfi.out]; exact q5m HHA.out HHB.out
     have hSeH:Ht (K+70) se:=by rw [hse.out]; exact q4J HHA.out HHB.out
     have HF1:Hid (Sz fi):=hFiH.sz (by omega);have HF2:Hid (Sz se):=hSeH.sz (by omega);have hH1:Ht (K+92) (fi*((thd - z00:Int):Rat)):=(hFiH.mul (qp (k:=thd - z00) (m:=22) (by omega) (by omega))).mono (by omega);have hH2:Ht (K+92) (se*((z11 - thd:Int):Rat)):=(hSeH.mul (qp (k:=z11 - thd) (m:=22) (by omega) (by omega))).mono (by omega);have HP1:Hid (Sz (fi*((thd - z00:Int):Rat))):=hH1.sz (by omega);have HP2:Hid (Sz (se*((z11 - thd:Int):Rat))):=hH2.sz (by omega);have HP3:Hid (Sz (((z00:Int):Rat)+fi*((thd - z00:Int):Rat))):=((qp (k:=z00) (m:=22) (by omega) (by omega)).add hH1).sz (by omega);have HV:Hid (Ze G i j a b r=some (((z00:Int):Rat)+fi*((thd - z00:Int):Rat)+se*((z11 - thd:Int):Rat))):=by rw [Hid,hz00.out,hthd.out,hz11.out,hfi.out,hse.out]; exact hval
     have HR:Hid (res=some (((z00:Int):Rat)+fi*((thd - z00:Int):Rat)+se*((z11 - thd:Int):Rat))):=by
      rw [Hid,HRES.out];exact q3d HA1.out HAT.out (q3d HA2.out HAT2.out (q4H hr2 HNO.out HV.out))
     clear q00 qth q11 hval hFiH hSeH hH1 hH2 HV htb;have hwd1:IntKind.i64.wrap (thd - z00)=thd - z00:=IntWalk.i64_in _ (by omega);have hwd2:IntKind.i64.wrap (z11 - thd)=z11 - thd:=IntWalk.i64_in _ (by omega);go_upto_region 17 with (fail);have hBF0:=hBF;have hBS0:=hBS;obtain⟨nx,Ax,kx,cx,A'x,k'x,c'x,Bx,hbx,yx,zx⟩:=hBF;obtain⟨x0,x1,x2,x3,-⟩:=cells4 Bx;have hRx:qm N wc (.agg #[.bool nx,.slice Ax kx cx,.bool false,.slice A'x k'x c'x]) (fi):=qm.mk hbx yx zx;refine xe [Mn.eq (.func (.func 102) #[] #[.pointer (some ⟨w.heap.size,0,none⟩)]),Mn.i i,Mn.i j,Mn.i z00,Mn.rat N ((z00:Int):Rat),Mn.rat N (fi),Mn.i thd,Mn.eq (.func (.func 102) #[] #[.pointer (some ⟨w.heap.size,0,none⟩)]),Mn.i i,Mn.i j,Mn.i z00,Mn.i (thd - z00),Mn.rat N ((thd - z00:Int):Rat),Mn.rat N (fi*((thd - z00:Int):Rat)),Mn.rat N (((z00:Int):Rat)+fi*((thd - z00:Int):Rat)),Mn.blk wc.heap.size (.cells #[.bool false,.slice none 0 0,.bool false,.slice none 0 0] 29 (0,0)),Mn.any] [some 111,some 112,some 113,some 114,some 115,some 116,some 117,some 118,some 119,some 120,some 121,some 122,some 123,some 124,some 125,some 24,none] [16] (rQ 16 1) 1 (by kernel_rfl) ?_ ?_
     ·show ∀ i,i < 17->_
      iterate 17 refine fs ?_ ?_
      ·exact fz
      all_goals intro hl; first | exact absurd hl (by decide) | (clear hl; refine stp rfl ?_; intro ac wi eI hB hA K hK)
      have o13:=oOf (hB 13) rfl
      rotate_left
      have o15:=oOf (hB 15) rfl
      rotate_left
      have o17:=oOf (hB 17) rfl
      rotate_left
      obtain⟨_,s111,rfl⟩:=hA 0 111;obtain⟨_,s112,rfl⟩:=hA 1 112;obtain⟨_,s113,rfl⟩:=hA 2 113;clear hB hA
      ·go_simp;refine (HZ00.out.v (hE6.trans eI)).mono ?_;rintro e wj ⟨rfl,ej⟩;go_wp2_with fail;exact hK.out _ _ ej rfl
      obtain⟨_,s114,rfl⟩:=hA 3 114;clear hB hA
      ·go_simp;refine (qQ (q_l (by have:=hE6.size; omega:N<=wc.heap.size) eI.size) z00 (by omega) (by omega)).mono ?_;rintro e wj ⟨vj,rfl,hj,ej⟩;go_wp2_with fail;exact hK.out _ _ ej hj
      have o21:=oOf (hB 21) rfl;clear hB hA;have cc0:=eI.cell x0;have cc1:=eI.cell x1;have cc2:=eI.cell x2;have cc3:=eI.cell x3
      ·go_simp;exact q_k hK (hRx.ext eI)
      have o20:=oOf (hB 20) rfl
      rotate_left
      have o13:=oOf (hB 13) rfl
      rotate_left
      have o15:=oOf (hB 15) rfl
      rotate_left
      have o17:=oOf (hB 17) rfl
      rotate_left
      obtain⟨_,s118,rfl⟩:=hA 7 118;obtain⟨_,s119,rfl⟩:=hA 8 119;obtain⟨_,s120,rfl⟩:=hA 9 120;clear hB hA
      ·go_simp;refine (HZ00.out.v (hE6.trans eI)).mono ?_;rintro e wj ⟨rfl,ej⟩;go_wp2_with fail;exact hK.out _ _ ej rfl
      obtain⟨_,s117,rfl⟩:=hA 6 117;obtain⟨_,s121,rfl⟩:=hA 10 121
      rotate_left
      obtain⟨_,s122,rfl⟩:=hA 11 122;clear hB hA
      ·go_simp;refine (qQ (q_l (by have:=hE6.size; omega:N<=wc.heap.size) eI.size) (thd - z00) (by omega) (by omega)).mono ?_;rintro e wj ⟨vj,rfl,hj,ej⟩;go_wp2_with fail;exact hK.out _ _ ej hj
      obtain⟨x116,s116,j116⟩:=hA 5 116;replace j116:Mn.p (Mn.rat N (fi)) x116 wi:=j116;obtain⟨x123,s123,j123⟩:=hA 12 123;replace j123:Mn.p (Mn.rat N ((thd - z00:Int):Rat)) x123 wi:=j123;clear hB hA
      ·go_simp;refine (QR j116 j123 HF1.out (zT (by omega))).mono ?_;rintro e wj ⟨vj,rfl,hj,ej⟩;go_wp2_with fail;exact hK.out _ _ ej hj
      obtain⟨x115,s115,j115⟩:=hA 4 115;replace j115:Mn.p (Mn.rat N ((z00:Int):Rat)) x115 wi:=j115;obtain⟨x124,s124,j124⟩:=hA 13 124;replace j124:Mn.p (Mn.rat N (fi*((thd - z00:Int):Rat))) x124 wi:=j124;clear hB hA
      ·go_simp;refine (XD j115 j124 (zT (by omega)) HP1.out).mono ?_;rintro e wj ⟨vj,rfl,hj,ej⟩;go_wp2_with fail;exact hK.out _ _ ej hj
      clear hB hA
      ·go_simp;refine ql ?_;intro wj ej hszj BJ;exact hK.out _ _ ej ⟨_,rfl,eI.size,BJ⟩
      all_goals clear hB hA; go_simp; exact q_k hK rfl
     intro vals wz eZ hJ;have J125:Mn.p (Mn.rat N (((z00:Int):Rat)+fi*((thd - z00:Int):Rat))) (vals 14) wz:=hJ 14 (by decide) (by decide);have J24:Mn.p (Mn.blk wc.heap.size (.cells #[.bool false,.slice none 0 0,.bool false,.slice none 0 0] 29 (0,0))) (vals 15) wz:=hJ 15 (by decide) (by decide);clear hJ;simp only [pr,Nat.reduceAdd]
     generalize vals 14=z125 at J125 ⊢
     generalize vals 15=z24 at J24 ⊢
     obtain⟨gH,rfl,hgH,BH⟩:=J24;obtain⟨bz,Az,kz,cz,Az',kz',cz',rfl,hbz,gz1,gz2⟩:=qm.parts J125;obtain⟨y0,y1,y2,y3,y4,y5,y6,y7⟩:=cells4 BH;refine qi (i:=16) rfl (by kernel_rfl) (by kernel_rfl) (fun K hK=>?_);go_simp;refine hK.out _ _ ?_;clear hK K;try simp only [nr]
     refine qg (by kernel_rfl) ?_ _;obtain⟨wH,EH,hBH,KH,hsH⟩:=zU (q:=((z00:Int):Rat)+fi*((thd - z00:Int):Rat)) BH (by have:=hE6.size; omega) hbz gz1 gz2;rw [EH];have hEH:Ext wc wH:=KH.ext eZ hgH;have hE8:Ext w5 wH:=hE6.trans hEH;replace hBS:=hBS0.ext hEH;clear x0 x1 x2 x3 hbx yx zx hRx Bx y0 y1 y2 y3 y4 y5 y6 y7 EH KH BH hsH hbz gz1 gz2 hBF0 hBS0 eZ;have hEw8:Ext w4 wH:=hE5.trans hE8;have hNH:N<=wH.heap.size:=q_l hN4 hEw8.size;have hBRH:=hEw8.block HBR.out;have hBR0:w.heap.size+1+1+1 < w4.heap.size:=qJ HBR.out;go_upto_region 18 with (fail);obtain⟨nx,Ax,kx,cx,A'x,k'x,c'x,Bx,hbx,yx,zx⟩:=hBH;obtain⟨x0,x1,x2,x3,-⟩:=cells4 Bx;have hRx:qm N wH (.agg #[.bool nx,.slice Ax kx cx,.bool false,.slice A'x k'x c'x]) (((z00:Int):Rat)+fi*((thd - z00:Int):Rat)):=qm.mk hbx yx zx;obtain⟨ny,Ay,ky,cy,A'y,k'y,c'y,By,hby,yy,zy⟩:=hBS;obtain⟨y0,y1,y2,y3,-⟩:=cells4 By;have hRy:qm N wH (.agg #[.bool ny,.slice Ay ky cy,.bool false,.slice A'y k'y c'y]) (se):=qm.mk hby yy zy;obtain⟨u0,u1,u2,u3,u4,u5,u6,u7⟩:=cells4 hBRH;refine xe [Mn.rat N (((z00:Int):Rat)+fi*((thd - z00:Int):Rat)),Mn.rat N (se),Mn.eq (.func (.func 102) #[] #[.pointer (some ⟨w.heap.size,0,none⟩)]),Mn.i i,Mn.i (i+1),Mn.i j,Mn.i (j+1),Mn.i z11,Mn.i thd,Mn.i (z11 - thd),Mn.rat N ((z11 - thd:Int):Rat),Mn.rat N (se*((z11 - thd:Int):Rat)),Mn.rat N (((z00:Int):Rat)+fi*((thd - z00:Int):Rat)+se*((z11 - thd:Int):Rat)),Mn.any,Mn.any] [some 126,some 127,some 128,some 129,some 130,some 131,some 132,some 133,some 134,some 135,some 136,some 137,some 138,none,some 7] [13,14] (rQ 13 2) 2 (by kernel_rfl) ?_ ?_
     ·show ∀ i,i < 15->_
      iterate 15 refine fs ?_ ?_
      ·exact fz
      all_goals intro hl; first | exact absurd hl (by decide) | (clear hl; refine stp rfl ?_; intro ac wi eI hB hA K hK)
      have o24:=oOf (hB 24) rfl;clear hB hA;have cc0:=eI.cell x0;have cc1:=eI.cell x1;have cc2:=eI.cell x2;have cc3:=eI.cell x3
      ·go_simp;exact q_k hK (hRx.ext eI)
      have o22:=oOf (hB 22) rfl;clear hB hA;have cc0:=eI.cell y0;have cc1:=eI.cell y1;have cc2:=eI.cell y2;have cc3:=eI.cell y3
      ·go_simp;exact q_k hK (hRy.ext eI)
      have o13:=oOf (hB 13) rfl
      rotate_left
      have o15:=oOf (hB 15) rfl
      rotate_left
      obtain⟨_,s129,rfl⟩:=hA 3 129
      rotate_left
      have o17:=oOf (hB 17) rfl
      rotate_left
      obtain⟨_,s131,rfl⟩:=hA 5 131
      rotate_left
      obtain⟨_,s128,rfl⟩:=hA 2 128;obtain⟨_,s130,rfl⟩:=hA 4 130;obtain⟨_,s132,rfl⟩:=hA 6 132;clear hB hA
      ·go_simp;refine (HZ11.out.v (hE8.trans eI)).mono ?_;rintro e wj ⟨rfl,ej⟩;go_wp2_with fail;exact hK.out _ _ ej rfl
      have o20:=oOf (hB 20) rfl
      rotate_left
      obtain⟨_,s133,rfl⟩:=hA 7 133;obtain⟨_,s134,rfl⟩:=hA 8 134
      rotate_left
      obtain⟨_,s135,rfl⟩:=hA 9 135;clear hB hA
      ·go_simp;refine (qQ (q_l hNH eI.size) (z11 - thd) (by omega) (by omega)).mono ?_;rintro e wj ⟨vj,rfl,hj,ej⟩;go_wp2_with fail;exact hK.out _ _ ej hj
      obtain⟨x127,s127,j127⟩:=hA 1 127;replace j127:Mn.p (Mn.rat N (se)) x127 wi:=j127;obtain⟨x136,s136,j136⟩:=hA 10 136;replace j136:Mn.p (Mn.rat N ((z11 - thd:Int):Rat)) x136 wi:=j136;clear hB hA
      ·go_simp;refine (QR j127 j136 HF2.out (zT (by omega))).mono ?_;rintro e wj ⟨vj,rfl,hj,ej⟩;go_wp2_with fail;exact hK.out _ _ ej hj
      obtain⟨x126,s126,j126⟩:=hA 0 126;replace j126:Mn.p (Mn.rat N (((z00:Int):Rat)+fi*((thd - z00:Int):Rat))) x126 wi:=j126;obtain⟨x137,s137,j137⟩:=hA 11 137;replace j137:Mn.p (Mn.rat N (se*((z11 - thd:Int):Rat))) x137 wi:=j137;clear hB hA
      ·go_simp;refine (XD j126 j137 HP3.out HP2.out).mono ?_;rintro e wj ⟨vj,rfl,hj,ej⟩;go_wp2_with fail;exact hK.out _ _ ej hj
      all_goals clear hB hA; go_simp; exact q_k hK rfl
     intro vals wz eZ hJ;have J138:Mn.p (Mn.rat N (((z00:Int):Rat)+fi*((thd - z00:Int):Rat)+se*((z11 - thd:Int):Rat))) (vals 12) wz:=hJ 12 (by decide) (by decide);clear hJ;simp only [pr,Nat.reduceAdd]
     generalize vals 12=z138 at J138 ⊢
     obtain⟨bz,Az,kz,cz,Az',kz',cz',rfl,hbz,gz1,gz2⟩:=qm.parts J138;replace hBRH:=eZ.block hBRH;clear u0 u1 u2 u3 u4 u5 u6 u7;obtain⟨u0,u1,u2,u3,u4,u5,u6,u7⟩:=cells4 hBRH;refine qi (i:=13) rfl (by kernel_rfl) (by kernel_rfl) (fun K hK=>?_);go_simp;refine hK.out _ _ ?_;clear hK K;try simp only [nr]
     refine qi (i:=14) rfl (by kernel_rfl) (by kernel_rfl) (fun K hK=>?_);go_simp;refine hK.out _ _ ?_;clear hK K;try simp only [nr]
     refine qg (by kernel_rfl) ?_ _;obtain⟨wR,ER,FR,UR⟩:=ex4 hBRH (.bool bz) (.slice Az kz cz) (.bool false) (.slice Az' kz' cz');rw [ER];have hTR:=NoU.mk hBRH (by decide);obtain⟨v0,v1,v2,v3,-⟩:=cells4 FR;have hEF:Ext w wR:=UR.ext ((hE.trans hEw8).trans eZ) (by omega);have hRR:qm N wR _ _:=qm.mk hbz (gz1.upd UR (by omega) hTR) (gz2.upd UR (by omega) hTR);go_wp2;refine bodyPost_ret (v:=.tuple #[.agg #[.bool bz,.slice Az kz cz,.bool false,.slice Az' kz' cz'],.bool true]) ?_ rfl ?_
     ·simp [results,Tryz.results51,v0,v1,v2,v3,go_sem]
     rw [HR.out];exact⟨_,rfl,hRR,hEF⟩
def Jl (N:Nat) (w:World) (v:Value) (q:Rat):Prop:=qm N w v q\/(v=jc/\q=0/\N<=w.heap.size)
theorem qm.w {w:World} {v:Value} (h:qm N w v q):Jl N w v q:=.inl h
theorem Jl.nil {w:World} (h:N<=w.heap.size):Jl N w jc 0:=.inr ⟨rfl,rfl,h⟩
theorem Jl.ext {w:World} {v:Value} (h:Jl N w v q) (e:Ext w w'):Jl N w' v q:=by
 rcases h with h | ⟨h1,h2,h3⟩
 ·exact .inl (h.ext e)
 ·exact .inr ⟨h1,h2,q_l h3 e.size⟩
theorem Jl.le {w:World} {v:Value} (h:Jl N w v q):N<=w.heap.size:=by
 rcases h with h | ⟨-,-,h⟩
 ·exact h.le
 ·exact h
theorem Jl.parts {w:World} {v:Value} (h:Jl N w v q):∃ (b:Bool) (A:Option Addr) (n c:Nat) (A':Option Addr) (n' c':Nat),v=.agg #[.bool b,.slice A n c,.bool false,.slice A' n' c']/\True/\True/\True:=by
 rcases h with h | ⟨rfl,-,-⟩
 ·obtain⟨b,A,n,c,A',n',c',rfl,-⟩:=h.parts;exact⟨b,A,n,c,A',n',c',rfl,trivial,trivial,trivial⟩
 ·exact⟨false,none,0,0,none,0,0,rfl,trivial,trivial,trivial⟩
theorem q3X {w:World} (h:N<=w.heap.size):xQ N w jc ⟨false,[],false,[]⟩:=⟨_,_,rfl,Gs.nil h _ (Nat.zero_le _),Gs.nil h _ (Nat.zero_le _)⟩
theorem q4V:okR ⟨false,[],false,[]⟩=false:=by decide
theorem V6 {w:World} {v:Value} (h:Jl N w v q) (hz:Sz q) :
  Calls Tryz.prog 111 #[v] w (yJ N w q):=by
 rcases h with h | ⟨rfl,rfl,hN⟩
 ·exact xE h hz
 clear hz;obtain⟨z,hzz⟩:=qf (0:Rat);rw [<-hzz.out];have HZ:Hid (((0:Int):Rat)=z):=by rw [Hid,hzz.out]; rfl
 clear hzz;have hI:xQ N w jc _:=q3X hN;unfold jc at hI ⊢;go_enter Tryz.func111,Tryz.ntmps111;go_wp2_with (go_at_call 98; refine q_o ?_);refine xG ?_;intro W hE hsz B0 B1;refine (Y8 (hI.ext hE) (by simp) (by simp)).mono ?_;rintro e w1 ⟨rfl,e1⟩;rw [q4V];replace hE:=hE.trans e1;replace B0:=e1.block B0;replace B1:=e1.block B1;go_wp2_with (go_at_call 114; refine q_o ?_);refine (f_whole (N:=N) (by have:=hE.size; omega) 0 (by omega) (by omega)).mono ?_;rw [HZ.out];intro e w2 hh;obtain⟨n3,A3,k3,c3,A4,k4,c4,rfl,hb3,g3,g4,e2⟩:=hh.form;replace B1:=e2.block B1;obtain⟨r0,r1,r2,r3,r4,r5,r6,r7⟩:=cells4 B1;go_wp2;exact qO rfl rfl rfl (hE.trans e2) B1 (by omega) hN g3 g4 hb3
theorem q5p {w:World} {v v':Value} {y:Rat} (h:Jl N w v x) (h':Jl N w v' y) (hz:Sz x) (hz':Sz y) :
  Calls Tryz.prog 154 #[v,v'] w (yJ N w (x+y)):=by
 obtain⟨q,hq⟩:=qf (x+y);rw [<-hq.out];have HQ:Hid (Rat.divInt (x.num*y.den+y.num*x.den) ((x.den:Int)*y.den)=q):=by rw [Hid,hq.out,yH]
 have L1:Hid (ln (x.num*(y.den:Int)).natAbs<=2000000000):=by rw [Hid,Int.natAbs_mul,Int.natAbs_natCast]; exact kC hz.1 hz'.2
 have L2:Hid (ln (y.num*(x.den:Int)).natAbs<=2000000000):=by rw [Hid,Int.natAbs_mul,Int.natAbs_natCast]; exact kC hz'.1 hz.2
 have L3:Hid (ln ((x.den:Int)*(y.den:Int)).natAbs<=2000000000):=by rw [Hid,Int.natAbs_mul,Int.natAbs_natCast,Int.natAbs_natCast]; exact kC hz.2 hz'.2
 have D0:Hid ((x.den:Int)*(y.den:Int)≠0):=by have h8:=x.den_pos; have h9:=y.den_pos; exact Int.mul_ne_zero (by omega) (by omega)
 clear hq;have hI:=h;have hI':=h';have hN:=h.le;obtain⟨m1,X1,i1,d1,X2,i2,d2,rfl,hm1,gx1,gx2⟩:=h.parts;obtain⟨m2,Y1,i3,d3,Y2,i4,d4,rfl,hm2,gy1,gy2⟩:=h'.parts;have HZ:=q_h hz;have HZ':=q_h hz';clear hz hz' h h' gx1 gx2 gy1 gy2;go_enter Tryz.func154,Tryz.ntmps154;go_wp2;refine zW ?_;intro W hE hsz B0 B1 B2;obtain⟨a0,a1,a2,a3,-⟩:=cells4 B0;obtain⟨b0,b1,b2,b3,-⟩:=cells4 B1
 go_cut [] (fun wx=>∃ n1 A1 k1 c1 A2 k2 c2 n2 A3 k3 c3 A4 k4 c4,Ext w wx/\w.heap.size+2<=wx.heap.size/\wx.heap[w.heap.size]?=some (.cells #[.bool n1,.slice A1 k1 c1,.bool false,.slice A2 k2 c2] 29 (0,0))/\wx.heap[w.heap.size+1]?=some (.cells #[.bool n2,.slice A3 k3 c3,.bool false,.slice A4 k4 c4] 29 (0,0))/\Hid (n1=decide (x.num < 0))/\Hid (n2=decide (y.num < 0))/\Gs N wx (.slice A1 k1 c1) (dg x.num.natAbs)/\Gs N wx (.slice A2 k2 c2) (dg x.den)/\Gs N wx (.slice A3 k3 c3) (dg y.num.natAbs)/\Gs N wx (.slice A4 k4 c4) (dg y.den)/\w.heap.size+3<=wx.heap.size/\wx.heap[w.heap.size+1+1]?=some (.cells #[.bool false,.slice none 0 0,.bool false,.slice none 0 0] 29 (0,0)))
 case first =>
  have eC:=(Ext.refl W).drew
  go_region_with (first
   | (go_at_call_of 111 X1; refine (V6 (by exact hI.ext (hE.trans eC)) HZ.out).mono ?_; intro e w1 hh; obtain⟨n1,A1,k1,c1,A2,k2,c2,rfl,hb1,g1,g2,e1⟩:=hh.form; replace eC:=eC.trans e1; have C0:=eC.block B0; have C1:=eC.block B1; obtain⟨p0,p1,p2,p3,p4,p5,p6,p7⟩:=cells4 C0; obtain⟨q0,q1,q2,q3,q4,q5,q6,q7⟩:=cells4 C1)
   | (go_at_call_of 111 Y1; refine (V6 (by exact hI'.ext (hE.trans eC)) HZ'.out).mono ?_; intro e w2 hh; obtain⟨n2,A3,k3,c3,A4,k4,c4,rfl,hb2,g3,g4,e2⟩:=hh.form; replace eC:=eC.trans e2; have C0:=eC.block B0; have C1:=eC.block B1; obtain⟨p0,p1,p2,p3,p4,p5,p6,p7⟩:=cells4 C0; obtain⟨q0,q1,q2,q3,q4,q5,q6,q7⟩:=cells4 C1))
  all_goals
   go_wp2_with fail
   go_meet
   obtain⟨w3,E3,D0,U⟩:=ex4 C0 (.bool n1) (.slice A1 k1 c1) (.bool false) (.slice A2 k2 c2);rw [E3];obtain⟨w4,E4,D1,U'⟩:=ex4 (U.blk C1 (by omega)) (.bool n2) (.slice A3 k3 c3) (.bool false) (.slice A4 k4 c4);rw [E4];have hT0:=NoU.mk C0 (by decide);have hT1:=NoU.mk (U.blk C1 (by omega)) (by decide);refine⟨n1,A1,k1,c1,A2,k2,c2,n2,A3,k3,c3,A4,k4,c4,U'.ext (U.ext (hE.trans eC) (q_r)) (by omega),?_,U'.blk D0 (by omega),D1,hb1,hb2,((g1.ext e2).upd U (by omega) hT0).upd U' (by omega) hT1,((g2.ext e2).upd U (by omega) hT0).upd U' (by omega) hT1,(g3.upd U (by omega) hT0).upd U' (by omega) hT1,(g4.upd U (by omega) hT0).upd U' (by omega) hT1,(by rw [U'.size,U.size]; have:=eC.size; omega),U'.blk (U.blk (eC.block B2) (by omega)) (by omega)⟩;rw [U'.size,U.size]; have:=eC.size; omega
 case rest =>
  clear a0 a1 a2 a3 b0 b1 b2 b3 B0 B1 B2 hE hsz hI hI';obtain⟨n1,A1,k1,c1,A2,k2,c2,n2,A3,k3,c3,A4,k4,c4,hE,-,B0,B1,hb1,hb2,g1,g2,g3,g4,hsz,B2⟩:=hcut;obtain⟨a0,a1,a2,a3,-⟩:=cells4 B0;obtain⟨b0,b1,b2,b3,-⟩:=cells4 B1;have eC:=(Ext.refl wc).drew;go_wp2
  go_region_held3 (fun w'=>(w'.cell? ⟨w.heap.size,0,none⟩=some (.bool n1)/\w'.cell? ⟨w.heap.size,1,none⟩=some (.slice A1 k1 c1)/\w'.cell? ⟨w.heap.size,2,none⟩=some (.bool false)/\w'.cell? ⟨w.heap.size,3,none⟩=some (.slice A2 k2 c2))/\(w'.cell? ⟨w.heap.size+1,0,none⟩=some (.bool n2)/\w'.cell? ⟨w.heap.size+1,1,none⟩=some (.slice A3 k3 c3)/\w'.cell? ⟨w.heap.size+1,2,none⟩=some (.bool false)/\w'.cell? ⟨w.heap.size+1,3,none⟩=some (.slice A4 k4 c4)))
   ((repeat' apply And.intro) <;> repeat with_reducible first | assumption | exact eC.cell (by assumption) | refine cell_far _ ?_ (by omega))
   (first
    | (go_at_call_of 113 A1; refine (Qj (by exact qR hb1 (g1.ext eC)) (by exact qP (g4.ext eC)) (by have:=HZ.out.1; omega) (by rw [Int.natAbs_natCast]; have:=HZ'.out.2; omega)).mono ?_; rintro e w5 ⟨v5,rfl,h5,e5⟩; replace eC:=eC.trans e5)
    | (go_at_call_of 113 A3; refine (Qj (by exact qR hb2 (g3.ext eC)) (by exact qP (g2.ext eC)) (by have:=HZ'.out.1; omega) (by rw [Int.natAbs_natCast]; have:=HZ.out.2; omega)).mono ?_; rintro e w6 ⟨v6,rfl,h6,e6⟩; replace eC:=eC.trans e6)
    | (go_at_call_of 113 A2; refine (Qj (by exact qP (g2.ext eC)) (by exact qP (g4.ext eC)) (by rw [Int.natAbs_natCast]; have:=HZ.out.2; omega) (by rw [Int.natAbs_natCast]; have:=HZ'.out.2; omega)).mono ?_; rintro e w9 ⟨v9,rfl,h9,e9⟩; replace eC:=eC.trans e9)
    | (go_at_call 201; refine (q5f (by exact h5.ext e6) (by exact h6) (by have:=L1.out; omega) (by have:=L2.out; omega)).mono ?_; rintro e w7 ⟨v7,rfl,h7,e7⟩; replace eC:=eC.trans e7)
    | (go_at_call 199; refine (jW (by exact h7.ext e9) (by exact h9) D0.out (q_l (JL L1.out L2.out) (by omega)) (by have:=L3.out; omega)).mono ?_; rw [HQ.out]; intro e w10 hh; obtain⟨n10,A10,k10,c10,A11,k11,c11,rfl,hb10,h10,h11,e10⟩:=hh.form; replace eC:=eC.trans e10; obtain⟨r0,r1,r2,r3,r4,r5,r6,r7⟩:=cells4 (eC.block B2)))
  go_wp2;exact qO rfl rfl rfl (hE.trans eC) (eC.block B2) (by omega) hN h10 h11 hb10
theorem q5n {w:World} {v v':Value} {y:Rat} (h:Jl N w v x) (h':qm N w v' y) (hz:Sz x) (hz':Sz y) :
  Calls Tryz.prog 153 #[v,v'] w (yJ N w (x - y)):=by
 obtain⟨q,hq⟩:=qf (x - y);rw [<-hq.out];have HQ:Hid (x + -y=q):=by rw [Hid,hq.out,Rat.sub_eq_add_neg]
 clear hq;have hI:=h;have hI':=h';have hN:=h.le;obtain⟨m1,X1,i1,d1,X2,i2,d2,rfl,hm1,gx1,gx2⟩:=h.parts;obtain⟨m2,Y1,i3,d3,Y2,i4,d4,rfl,hm2,gy1,gy2⟩:=h'.parts;have HZ:=q_h hz;have HZ':=q_h hz';clear hz hz' h h' gx1 gx2 gy1 gy2;go_enter Tryz.func153,Tryz.ntmps153;go_wp2;refine zW ?_;intro W hE hsz B0 B1 B2;obtain⟨a0,a1,a2,a3,-⟩:=cells4 B0;obtain⟨b0,b1,b2,b3,-⟩:=cells4 B1;have eC:=(Ext.refl W).drew
 go_region_held3 (fun w'=>(w'.cell? ⟨w.heap.size,0,none⟩=some (.bool m1)/\w'.cell? ⟨w.heap.size,1,none⟩=some (.slice X1 i1 d1)/\w'.cell? ⟨w.heap.size,2,none⟩=some (.bool false)/\w'.cell? ⟨w.heap.size,3,none⟩=some (.slice X2 i2 d2))/\(w'.cell? ⟨w.heap.size+1,0,none⟩=some (.bool m2)/\w'.cell? ⟨w.heap.size+1,1,none⟩=some (.slice Y1 i3 d3)/\w'.cell? ⟨w.heap.size+1,2,none⟩=some (.bool false)/\w'.cell? ⟨w.heap.size+1,3,none⟩=some (.slice Y2 i4 d4)))
  ((repeat' apply And.intro) <;> repeat with_reducible first | assumption | exact eC.cell (by assumption) | refine cell_far _ ?_ (by omega))
  (first
   | (go_at_call 200; refine (q5o (by exact hI'.ext (hE.trans eC)) HZ'.out).mono ?_; rintro e w5 ⟨v5,rfl,h5,e5⟩; replace eC:=eC.trans e5)
   | (go_at_call 154; refine (q5p (by exact hI.ext (hE.trans eC)) (by exact h5.w) HZ.out HZ'.out.neg).mono ?_; rw [HQ.out]; intro e w7 hh; obtain⟨n7,A7,k7,c7,A8,k8,c8,rfl,hb7,h7,h8,e7⟩:=hh.form; replace eC:=eC.trans e7; obtain⟨r0,r1,r2,r3,r4,r5,r6,r7⟩:=cells4 (eC.block B2)))
 go_wp2;exact qO rfl rfl rfl (hE.trans eC) (eC.block B2) (by omega) hN h7 h8 hb7
theorem q4S {w:World} {v v':Value} {y:Rat} (h:Jl N w v x) (h':qm N w v' y) (hz:Sz x) (hz':Sz y) :
  Calls Tryz.prog 101 #[v,v'] w (yJ N w (x - y)):=by
 obtain⟨q,hq⟩:=qf (x - y);rw [<-hq.out];have hN:=h.le;have hI:=h;have hI':=h';have HZ:=q_h hz;have HZ':=q_h hz';obtain⟨m1,X1,i1,d1,X2,i2,d2,rfl,hm1,gx1,gx2⟩:=h.parts;obtain⟨m2,Y1,i3,d3,Y2,i4,d4,rfl,hm2,gy1,gy2⟩:=h'.parts;clear hz hz' h h' gx1 gx2 gy1 gy2;go_enter Tryz.func101,Tryz.ntmps101;go_wp2_with (go_at_call 153; refine q_o ?_);refine kZ ?_;intro W hE hsz B0 B1 B2;refine (q5n (hI.ext hE) (hI'.ext hE) HZ.out HZ'.out).mono ?_;rw [<-hq.out];intro e w1 hh;obtain⟨n3,A3,k3,c3,A4,k4,c4,rfl,hb3,g3,g4,e1⟩:=hh.form;replace hE:=hE.trans e1;replace B2:=e1.block B2;obtain⟨t0,t1,t2,t3,t4,t5,t6,t7⟩:=cells4 B2;go_wp2;exact qO rfl rfl rfl hE B2 (by omega) hN g3 g4 hb3
end Go.Proofs.YtphpkhoeplcedaaGreat
namespace Go.Proofs.YtphpkhoeplcedaaGreat
variable {w':World} {N n lo hi k g i m c j K:Nat} {G:Grd} {q x:Rat} {z:Int} {A:Option Addr}
theorem jV (x:Rat):flo x=x.floor:=by
 rw [Rat.floor_def];unfold flo vV;have hd:0 < x.den:=x.den_pos;have h0:decide ((x.den:Int) < 0)=false:=q_f (by omega);rw [h0]
 by_cases hx:x.num < 0
 ·rw [if_neg (by rw [q_t hx]; decide)];obtain⟨n,hn⟩:∃ n:Nat,x.num = -(n:Int):=⟨x.num.natAbs,by omega⟩
  rw [hn,Int.neg_ediv,Int.natAbs_neg,Int.natAbs_natCast,Int.natAbs_natCast]
  by_cases hm:n % x.den=0
  ·rw [if_pos hm,if_pos (Int.natCast_dvd_natCast.2 (Nat.dvd_of_mod_eq_zero hm))]
   simp
  ·rw [if_neg hm,if_neg (fun h=>hm (Nat.mod_eq_zero_of_dvd (Int.natCast_dvd_natCast.1 h))),Int.sign_eq_one_of_pos (by omega)]
   simp
 ·rw [if_pos (by rw [q_f hx])];obtain⟨n,hn⟩:∃ n:Nat,x.num=(n:Int):=⟨x.num.natAbs,by omega⟩
  rw [hn,Int.natAbs_natCast,Int.natAbs_natCast]
  simp
theorem q3i (x:Rat):(flo x:Rat)<=x:=by rw [jV]; exact Rat.floor_le x
theorem q33 (x:Rat):x < (flo x:Rat)+1:=by
 have h:=Rat.lt_floor_add_one x;rw [jV];simpa [Rat.intCast_add] using h
theorem q3h {k:Int} (h0:(k:Rat)<=x) (h1:x < (k:Rat)+1):flo x=k:=by
 rw [jV];have h2:k<=x.floor:=Rat.le_floor_iff.2 h0;have h3:x.floor < k+1:=Rat.floor_lt_iff.2 (by simpa [Rat.intCast_add] using h1);omega
theorem vG:x.num.sign=0↔x=0:=by
 rw [Int.sign_eq_zero_iff_zero,Rat.num_eq_zero]
theorem Q7 {X:Rat} {n i:Int} {a:Rat}:(i,a)∈wu X n↔0<=i/\i < n - 1/\(i:Rat)<=X/\X<=(i:Rat)+1/\a=X - (i:Rat):=by
 have hl:=q3i X;have hu:=q33 X;unfold wu;rw [List.mem_append]
 constructor
 ·rintro (h | h)
  ·unfold q3o at h
   split at h
   ·rename_i hc
    rw [List.mem_singleton] at h;injection h with h1 h2
    subst h1 h2;exact⟨hc.1,hc.2,hl,by grind,rfl⟩
   ·cases h
  ·unfold Jc at h
   split at h
   ·rename_i hc
    rw [List.mem_singleton] at h;injection h with h1 h2
    have h3:=vG.1 hc.1;subst h1 h2;have h4:((flo X - 1:Int):Rat)=(flo X:Rat) - 1:=by rw [Rat.intCast_sub]; rfl
    have h5:((1:Int):Rat)=1:=rfl;refine⟨by omega,by omega,?_,?_,?_⟩ <;> rw [h4] <;> grind
   ·cases h
 ·rintro⟨h0,h1,h2,h3,rfl⟩
  by_cases hlt:X < (i:Rat)+1
  ·have hf:=q3h h2 hlt
   left
   unfold q3o;rw [hf,if_pos ⟨h0,h1⟩];exact List.mem_singleton.2 rfl
  ·right
   have hX:X=((i+1:Int):Rat):=by rw [Rat.intCast_add]; show X=(i:Rat)+1; grind
   have hf:flo X=i+1:=by rw [jV,hX,Rat.floor_intCast]
   unfold Jc;rw [hf,if_pos ⟨by rw [hX,vG]; grind,by omega,by omega⟩];refine List.mem_singleton.2 ?_;rw [show i+1 - 1=i by omega,hX,Rat.intCast_add]
   congr 1
   grind
theorem Q4 {y:Rat}:0<=Va x y↔y<=x:=by
 unfold Va;rw [Rat.le_iff]
 constructor
 ·intro h
  rcases Int.lt_trichotomy (x.num*y.den - y.num*x.den) 0 with h1 | h1 | h1
  ·rw [Int.sign_eq_neg_one_of_neg h1] at h; omega
  ·omega
  ·omega
 ·intro h
  rcases Int.lt_trichotomy (x.num*y.den - y.num*x.den) 0 with h1 | h1 | h1
  ·omega
  ·rw [h1]; decide
  ·rw [Int.sign_eq_one_of_pos h1]; omega
theorem ZH {y:Rat}:0<=-(Va x y)↔x<=y:=by
 unfold Va;rw [Rat.le_iff]
 constructor
 ·intro h
  rcases Int.lt_trichotomy (x.num*y.den - y.num*x.den) 0 with h1 | h1 | h1
  ·omega
  ·omega
  ·rw [Int.sign_eq_one_of_pos h1] at h; omega
 ·intro h
  rcases Int.lt_trichotomy (x.num*y.den - y.num*x.den) 0 with h1 | h1 | h1
  ·rw [Int.sign_eq_neg_one_of_neg h1]; decide
  ·rw [h1]; decide
  ·omega
structure InT (G:Grd) (X Y:Rat) (i j:Int) (r:Nat):Prop where
 i0:0<=i
 i1:i < G.wd - 1
 j0:0<=j
 j1:j < G.ht - 1
 a0:(i:Rat)<=X
 a1:X<=(i:Rat)+1
 b0:(j:Rat)<=Y
 b1:Y<=(j:Rat)+1
 d0:r=0->Y - (j:Rat)<=X - (i:Rat)
 d1:r=1->X - (i:Rat)<=Y - (j:Rat)
 z0:zAt G i j≠zK
 z1:thR G i j r≠zK
 z2:zAt G (i+1) (j+1)≠zK
def plT (G:Grd) (X Y:Rat) (i j:Int) (r:Nat):Rat :=
 ((zAt G i j:Int):Rat)+fiR (X - i) (Y - j) r*((thR G i j r - zAt G i j:Int):Rat)+seR (X - i) (Y - j) r*((zAt G (i+1) (j+1) - thR G i j r:Int):Rat)
def q4n (G:Grd) (X Y h:Rat):Prop:=∃ i j r,r < 2/\InT G X Y i j r/\plT G X Y i j r=h
theorem Jt {X Y:Rat} {i j:Int} {r:Nat} (hr:r < 2) {h:Rat} (hi:(i,X - (i:Rat))∈wu X G.wd) (hj:(j,Y - (j:Rat))∈wu Y G.ht) :
  Ze G i j (X - i) (Y - j) r=some h↔InT G X Y i j r/\plT G X Y i j r=h:=by
 obtain⟨i0,i1,a0,a1,-⟩:=Q7.1 hi;obtain⟨j0,j1,b0,b1,-⟩:=Q7.1 hj
 have hord:0<=orR (X - i) (Y - j) r↔(r=0->Y - (j:Rat)<=X - (i:Rat))/\(r=1->X - (i:Rat)<=Y - (j:Rat)):=by
  unfold orR;have hr':r=0\/r=1:=by omega
  rcases hr' with rfl | rfl
  ·rw [if_neg (by omega),Q4]; simp
  ·rw [if_pos rfl,ZH]; simp
 unfold Ze plT
 constructor
 ·intro h
  split at h
  ·rename_i hc
   injection h with h
   exact⟨⟨i0,i1,j0,j1,a0,a1,b0,b1,(hord.1 hc.1).1,(hord.1 hc.1).2,hc.2.1,hc.2.2.1,hc.2.2.2⟩,h⟩
  ·cases h
 ·rintro⟨hc,h⟩;rw [if_pos ⟨hord.2 ⟨hc.d0,hc.d1⟩,hc.z0,hc.z1,hc.z2⟩,h]
theorem Wj (a b:Int):((a - b:Int):Rat)=(a:Rat) - (b:Rat):=Rat.intCast_sub a b
theorem jy (a:Int):((a+1:Int):Rat)=(a:Rat)+1:=by rw [Rat.intCast_add]; rfl
theorem pl0 (G:Grd) (X Y:Rat) (i j:Int):plT G X Y i j 0=(zAt G i j:Rat)+(X - i)*((zAt G (i+1) j:Rat) - (zAt G i j:Rat))+(Y - j)*((zAt G (i+1) (j+1):Rat) - (zAt G (i+1) j:Rat)):=by
 unfold plT fiR seR thR;simp only [if_true,Wj]
theorem pl1 (G:Grd) (X Y:Rat) (i j:Int):plT G X Y i j 1=(zAt G i j:Rat)+(Y - j)*((zAt G i (j+1):Rat) - (zAt G i j:Rat))+(X - i)*((zAt G (i+1) (j+1):Rat) - (zAt G i (j+1):Rat)):=by
 unfold plT fiR seR thR;simp only [if_neg (show ¬ (1:Nat)=0 by omega),Wj]
theorem adj {i i':Int} {X:Rat} (h0:(i:Rat)<=X) (h1:X<=(i:Rat)+1) (h2:(i':Rat)<=X) (h3:X<=(i':Rat)+1):i'=i\/(i'=i+1/\X=(i:Rat)+1)\/(i=i'+1/\X=(i':Rat)+1):=by
 have k1:i'<=i+1:=by
  have:(i':Rat)<=((i+1:Int):Rat):=by rw [jy]; grind
  exact Rat.intCast_le_intCast.1 this
 have k2:i<=i'+1:=by
  have:(i:Rat)<=((i'+1:Int):Rat):=by rw [jy]; grind
  exact Rat.intCast_le_intCast.1 this
 have hc:i'=i\/i'=i+1\/i=i'+1:=by omega
 rcases hc with h | h | h
 ·exact .inl h
 ·subst h; rw [jy] at h2; exact .inr (.inl ⟨rfl,by grind⟩)
 ·subst h; rw [jy] at h0; exact .inr (.inr ⟨rfl,by grind⟩)
theorem q1R {X Y:Rat} {i j i' j':Int} {r r':Nat} (hr:r < 2) (hr':r' < 2) (h:InT G X Y i j r) (h':InT G X Y i' j' r'):plT G X Y i j r=plT G X Y i' j' r':=by
 have e1:=adj h.a0 h.a1 h'.a0 h'.a1;have e2:=adj h.b0 h.b1 h'.b0 h'.b1;have d0:=h.d0;have d1:=h.d1;have d0':=h'.d0;have d1':=h'.d1;have r0:r=0\/r=1:=by omega
 have r1:r'=0\/r'=1:=by omega
 have a0:=h.a0;have a1:=h.a1;have b0:=h.b0;have b1:=h.b1;clear h h' hr hr';have q1:Y - (j:Rat)=X - (i:Rat)\/Y - (j:Rat) < X - (i:Rat)\/X - (i:Rat) < Y - (j:Rat):=by grind
 have q2:Y - (j':Rat)=X - (i':Rat)\/Y - (j':Rat) < X - (i':Rat)\/X - (i':Rat) < Y - (j':Rat):=by grind
 have q3:X=(i:Rat)\/(i:Rat) < X:=by grind
 have q4:Y=(j:Rat)\/(j:Rat) < Y:=by grind
 have q5:X=(i:Rat)+1\/X < (i:Rat)+1:=by grind
 have q6:Y=(j:Rat)+1\/Y < (j:Rat)+1:=by grind
 rcases e1 with rfl | ⟨rfl,hX⟩ | ⟨rfl,hX⟩ <;> rcases e2 with rfl | ⟨rfl,hY⟩ | ⟨rfl,hY⟩ <;> rcases r0 with rfl | rfl <;> rcases r1 with rfl | rfl <;> simp only [pl0,pl1,jy,forall_const,Nat.zero_ne_one,Nat.one_ne_zero,true_imp_iff,reduceCtorEq,false_imp_iff] at * <;> grind
theorem Jv {X Y h h':Rat} (k:q4n G X Y h) (k':q4n G X Y h'):h=h':=by
 obtain⟨i,j,r,hr,ht,rfl⟩:=k;obtain⟨i',j',r',hr',ht',rfl⟩:=k';exact q1R hr hr' ht ht'
theorem q4G {X Y:Rat} {i j:Int} {h:Rat} (hi:(i,X - (i:Rat))∈wu X G.wd) (hj:(j,Y - (j:Rat))∈wu Y G.ht) (hs:sqF G (i,X - (i:Rat)) (j,Y - (j:Rat))=some h):q4n G X Y h:=by
 unfold sqF at hs;cases h0:Ze G i j (X - i) (Y - j) 0 with
 | some q =>
  rw [show Ze G (i,X - (i:Rat)).1 (j,Y - (j:Rat)).1 (i,X - (i:Rat)).2 (j,Y - (j:Rat)).2 0=some q from h0] at hs;obtain rfl:q=h:=by simpa using hs
  have:=(Jt (by omega) hi hj).1 h0;exact⟨i,j,0,by omega,this.1,this.2⟩
 | none =>
  rw [show Ze G (i,X - (i:Rat)).1 (j,Y - (j:Rat)).1 (i,X - (i:Rat)).2 (j,Y - (j:Rat)).2 0=none from h0] at hs;have h1:Ze G i j (X - i) (Y - j) 1=some h:=by simpa using hs
  have:=(Jt (by omega) hi hj).1 h1;exact⟨i,j,1,by omega,this.1,this.2⟩
theorem vN {y h:Rat} (hh:XN G x y=some h):q4n G (kJ x G.x0 G.st) (kJ y G.y0 G.st) h:=by
 unfold XN q2g at hh;obtain⟨⟨i,a⟩,hi,hh⟩:=List.exists_of_findSome?_eq_some hh;unfold q4L at hh;obtain⟨⟨j,b⟩,hj,hh⟩:=List.exists_of_findSome?_eq_some hh;have h1:=(Q7.1 hi).2.2.2.2;have h2:=(Q7.1 hj).2.2.2.2;subst h1 h2;exact q4G hi hj hh
theorem Qn {y h:Rat} (k:q4n G (kJ x G.x0 G.st) (kJ y G.y0 G.st) h):XN G x y=some h:=by
 cases hh:XN G x y with
 | some q=>rw [Jv (vN hh) k]
 | none =>
  exfalso
  obtain⟨i,j,r,hr,ht,-⟩:=k;unfold XN q2g at hh;have hi:=Q7.2 ⟨ht.i0,ht.i1,ht.a0,ht.a1,rfl⟩;have hj:=Q7.2 ⟨ht.j0,ht.j1,ht.b0,ht.b1,rfl⟩;have h1:=List.findSome?_eq_none_iff.1 hh _ hi;unfold q4L at h1;have h2:=List.findSome?_eq_none_iff.1 h1 _ hj;unfold sqF at h2;have h3:=(Jt hr hi hj).2 ⟨ht,rfl⟩;have hr':r=0\/r=1:=by omega
  rcases hr' with rfl | rfl
  ·simp only [h3] at h2;cases h2
  ·rcases hq:Ze G i j (kJ x G.x0 G.st - i) (kJ y G.y0 G.st - j) 0 with _ | q
   ·simp only [hq,h3] at h2;cases h2
   ·simp only [hq] at h2;cases h2
def lin (p q t:Rat):Rat:=p+t*(q - p)
theorem Kv (p q p' q' t:Rat):lin p q t - lin p' q' t=lin (p - p') (q - q') t:=by unfold lin; grind
theorem JM (p q t:Rat) : -(lin p q t)=lin (-p) (-q) t:=by unfold lin; grind
theorem q1X (p t:Rat):lin p p t=p:=by unfold lin; grind
theorem xY (p q t:Rat) (x0 st:Int):kJ (lin p q t) x0 st=lin (kJ p x0 st) (kJ q x0 st) t:=by
 unfold kJ lin;rw [Rat.div_def,Rat.div_def,Rat.div_def]
 grind
theorem kT {a b:Rat} (ha:0 < a) (hb:0 < b):0 < a*b:=Rat.mul_pos ha hb
theorem xx {a b:Rat} (ha:0<=a) (hb:0<=b):0<=a*b:=Rat.mul_nonneg ha hb
theorem q4c {a b:Rat} (ha:0<=a) (hb:a < b):0<=a / b/\a / b < 1/\a / b*b=a:=by
 have hb0:0 < b:=by grind
 have h1:a / b*b=a:=Rat.div_mul_cancel (by grind);refine⟨?_,?_,h1⟩
 ·apply Classical.byContradiction
  intro h;have:=kT (a:=-(a / b)) (b:=b) (by grind) hb0
  grind
 ·apply Classical.byContradiction
  intro h;have:=xx (a:=a / b - 1) (b:=b) (by grind) (by grind)
  grind
theorem Qu {p k s e m t:Rat} (hs:s < m) (he:m < e) (h0:s<=t) (h1:t<=e) (h:k<=lin p q m) (hno:∀ u,s < u->u < e->p≠q->lin p q u≠k):k<=lin p q t:=by
 apply Classical.byContradiction
 intro hlt;have hlt:lin p q t < k:=by grind
 have hpq:p≠q:=by rintro rfl; rw [q1X] at h hlt; grind
 obtain⟨k1,k2,k3⟩:=q4c (a:=lin p q m - k) (b:=lin p q m - lin p q t) (by grind) (by grind)
 generalize (lin p q m - k) / (lin p q m - lin p q t)=th at k1 k2 k3
 have hroot:lin p q (m+(t - m)*th)=k:=by
  have:lin p q (m+(t - m)*th)=lin p q m - th*(lin p q m - lin p q t):=by unfold lin; grind
  rw [this,k3]; grind
 refine hno _ ?_ ?_ hpq hroot
 ·rcases Rat.le_total (a:=t) (b:=m) with ht | ht
  ·have:=xx (a:=m - t) (b:=th) (by grind) k1;have:=xx (a:=m - t) (b:=1 - th) (by grind) (by grind)
   by_cases htm:t=m
   ·subst htm; grind
   ·have:=kT (a:=m - t) (b:=1 - th) (by grind) (by grind)
    grind
  ·have:=xx (a:=t - m) (b:=th) (by grind) k1
   grind
 ·rcases Rat.le_total (a:=t) (b:=m) with ht | ht
  ·have:=xx (a:=m - t) (b:=th) (by grind) k1
   grind
  ·by_cases htm:t=m
   ·subst htm; grind
   ·have:=kT (a:=t - m) (b:=1 - th) (by grind) (by grind)
    grind
theorem QS {p k s e m t:Rat} (hs:s < m) (he:m < e) (h0:s<=t) (h1:t<=e) (h:lin p q m<=k) (hno:∀ u,s < u->u < e->p≠q->lin p q u≠k):lin p q t<=k:=by
 have:=Qu (p:=-p) (q:=-q) (k:=-k) hs he h0 h1 (by rw [<-JM]; grind) (fun u h2 h3 h4 h5=>hno u h2 h3 (by grind) (by rw [<-JM] at h5; grind));rw [<-JM] at this
 grind
structure Quiet (G:Grd) (X0 X1 Y0 Y1 s e:Rat):Prop where
 x:∀ (k:Int),0<=k->k<=G.wd - 1->∀ u,s < u->u < e->X0≠X1->lin X0 X1 u≠(k:Rat)
 y:∀ (k:Int),0<=k->k<=G.ht - 1->∀ u,s < u->u < e->Y0≠Y1->lin Y0 Y1 u≠(k:Rat)
 d:∀ (k:Int),1 - G.ht<=k->k<=G.wd - 1->∀ u,s < u->u < e->X0 - Y0≠X1 - Y1->lin (X0 - Y0) (X1 - Y1) u≠(k:Rat)
theorem Quiet.tri {X0 X1 Y0 Y1 s e m t:Rat} (h:Quiet G X0 X1 Y0 Y1 s e) (hs:s < m) (he:m < e) (h0:s<=t) (h1:t<=e) {i j:Int} {r:Nat} (ht:InT G (lin X0 X1 m) (lin Y0 Y1 m) i j r):InT G (lin X0 X1 t) (lin Y0 Y1 t) i j r:=by
 have i0:=ht.i0;have i1:=ht.i1;have j0:=ht.j0;have j1:=ht.j1;have hd:lin X0 X1 m - lin Y0 Y1 m=lin (X0 - Y0) (X1 - Y1) m:=Kv _ _ _ _ _;have hd':lin X0 X1 t - lin Y0 Y1 t=lin (X0 - Y0) (X1 - Y1) t:=Kv _ _ _ _ _;have hk:((i - j:Int):Rat)=(i:Rat) - (j:Rat):=Wj i j;refine⟨i0,i1,j0,j1,?_,?_,?_,?_,fun hr=>?_,fun hr=>?_,ht.z0,ht.z1,ht.z2⟩
 ·exact Qu hs he h0 h1 ht.a0 (h.x i (by omega) (by omega))
 ·have:=QS hs he h0 h1 (k:=((i+1:Int):Rat)) (by rw [jy]; exact ht.a1) (h.x (i+1) (by omega) (by omega));rw [jy] at this;exact this
 ·exact Qu hs he h0 h1 ht.b0 (h.y j (by omega) (by omega))
 ·have:=QS hs he h0 h1 (k:=((j+1:Int):Rat)) (by rw [jy]; exact ht.b1) (h.y (j+1) (by omega) (by omega));rw [jy] at this;exact this
 ·have h9:=ht.d0 hr;have:=Qu hs he h0 h1 (k:=((i - j:Int):Rat)) (p:=X0 - Y0) (q:=X1 - Y1) (by rw [hk,<-hd]; grind) (h.d (i - j) (by omega) (by omega));rw [hk,<-hd'] at this
  grind
 ·have h9:=ht.d1 hr;have:=QS hs he h0 h1 (k:=((i - j:Int):Rat)) (p:=X0 - Y0) (q:=X1 - Y1) (by rw [hk,<-hd]; grind) (h.d (i - j) (by omega) (by omega));rw [hk,<-hd'] at this
  grind
theorem q2Z (G:Grd) (X0 X1 Y0 Y1 t:Rat) (i j:Int) {r:Nat} (hr:r < 2):plT G (lin X0 X1 t) (lin Y0 Y1 t) i j r=lin (plT G X0 Y0 i j r) (plT G X1 Y1 i j r) t:=by
 have r0:r=0\/r=1:=by omega
 rcases r0 with rfl | rfl
 ·simp only [pl0]; unfold lin; grind
 ·simp only [pl1]; unfold lin; grind
def exF (G:Grd) (a b:Nat->Rat) (t:Rat):Option Rat:=(XN G (lin (a 0) (b 0) t) (lin (a 1) (b 1) t)).map (fun h=>h - lin (a 2) (b 2) t)
def sx (G:Grd) (x:Rat):Rat:=kJ x G.x0 G.st
def sy (G:Grd) (y:Rat):Rat:=kJ y G.y0 G.st
def InS (G:Grd) (a b:Nat->Rat) (t:Rat) (i j:Int) (r:Nat):Prop:=InT G (lin (sx G (a 0)) (sx G (b 0)) t) (lin (sy G (a 1)) (sy G (b 1)) t) i j r
def exT (G:Grd) (a b:Nat->Rat) (i j:Int) (r:Nat) (t:Rat):Rat:=lin (plT G (sx G (a 0)) (sy G (a 1)) i j r - a 2) (plT G (sx G (b 0)) (sy G (b 1)) i j r - b 2) t
theorem X3 {a b:Nat->Rat} {t e:Rat}:exF G a b t=some e↔∃ i j r,r < 2/\InS G a b t i j r/\e=exT G a b i j r t:=by
 unfold exF InS exT
 constructor
 ·intro h;obtain⟨q,hq,he⟩:=Option.map_eq_some_iff.1 h;obtain⟨i,j,r,hr,ht,hp⟩:=vN hq;rw [xY,xY] at ht hp;rw [q2Z _ _ _ _ _ _ _ _ hr] at hp;exact⟨i,j,r,hr,ht,by rw [<-he,<-hp,Kv]; rfl⟩
 ·rintro⟨i,j,r,hr,ht,rfl⟩;refine Option.map_eq_some_iff.2 ⟨_,Qn ⟨i,j,r,hr,?_,rfl⟩,?_⟩
  ·rw [xY,xY]; exact ht
  ·rw [xY,xY,q2Z _ _ _ _ _ _ _ _ hr,Kv]; rfl
theorem q0F {a b:Nat->Rat} {t:Rat} {i j:Int} {r:Nat} (hr:r < 2) (h:InS G a b t i j r):exF G a b t=some (exT G a b i j r t):=X3.2 ⟨i,j,r,hr,h,rfl⟩
def Jm (G:Grd) (a b:Nat->Rat) (s e:Rat):Prop:=Quiet G (sx G (a 0)) (sx G (b 0)) (sy G (a 1)) (sy G (b 1)) s e
def ClrB (G:Grd) (a b:Nat->Rat) (s e:Rat):Prop:=∀ t,s < t->t < e->∀ x,exF G a b t=some x->x<=0
theorem q40 {a b:Nat->Rat} {s e m:Rat} (h:Jm G a b s e) (hs:s < m) (he:m < e) (hx:exF G a b m=none):ClrB G a b s e:=by
 intro t h0 h1 x hx';obtain⟨i,j,r,hr,ht,-⟩:=X3.1 hx';rw [q0F hr (h.tri h0 h1 (t:=m) (by grind) (by grind) ht)] at hx;cases hx
theorem q06 {p s e t:Rat} (h0:s < t) (h1:t < e) (hs:lin p q s<=0) (he:lin p q e<=0):lin p q t<=0:=by
 apply Classical.byContradiction
 intro h;have h:=kT (a:=e - s) (b:=lin p q t) (by grind) (by grind);have e1:(e - s)*lin p q t=(e - t)*lin p q s+(t - s)*lin p q e:=by unfold lin; grind
 have k1:=xx (a:=e - t) (b:=-(lin p q s)) (by grind) (by grind);have k2:=xx (a:=t - s) (b:=-(lin p q e)) (by grind) (by grind)
 grind
theorem q25 {a b:Nat->Rat} {s e:Rat} (h:Jm G a b s e) (h1:∀ x,exF G a b s=some x->x<=0) (h2:∀ x,exF G a b e=some x->x<=0):ClrB G a b s e:=by
 intro t k0 k1 x hx;obtain⟨i,j,r,hr,ht,rfl⟩:=X3.1 hx;have q1:=h1 _ (q0F hr (h.tri k0 k1 (t:=s) (by grind) (by grind) ht));have q2:=h2 _ (q0F hr (h.tri k0 k1 (t:=e) (by grind) (by grind) ht));exact q06 k0 k1 q1 q2
def KN (s m x f:Rat):Rat:=s+(1 / 2*(x / (x - f)))*(m - s)
theorem Y5 {p s m:Rat} (hx:0 < lin p q s) (hf:lin p q m<=0):0 < lin p q (KN s m (lin p q s) (lin p q m)):=by
 unfold KN;have h1:lin p q s / (lin p q s - lin p q m)*(lin p q s - lin p q m)=lin p q s:=Rat.div_mul_cancel (by grind)
 generalize lin p q s / (lin p q s - lin p q m)=th at h1
 have h2:lin p q (s+(1 / 2*th)*(m - s))=lin p q s - 1 / 2*(th*(lin p q s - lin p q m)):=by unfold lin; grind
 rw [h2,h1]
 grind
theorem KL {f:Rat} (hx:0 < x) (hf:f<=0):0 < 1 / 2*(x / (x - f))/\1 / 2*(x / (x - f)) < 1:=by
 have h1:x / (x - f)*(x - f)=x:=Rat.div_mul_cancel (by grind)
 generalize x / (x - f)=th at h1
 have h2:0 < th:=by
  apply Classical.byContradiction
  intro h;have:=xx (a:=-th) (b:=x - f) (by grind) (by grind)
  grind
 have h3:th < 2:=by
  apply Classical.byContradiction
  intro h;have:=xx (a:=th - 2) (b:=x - f) (by grind) (by grind)
  grind
 grind
theorem q58 {a b:Nat->Rat} {s e m c f:Rat} (h:Jm G a b s e) (hs:s < m) (he:m < e) (h0:0<=s) (h1:e<=1) (hc:c=s\/c=e) (hm:exF G a b m=some f) (hf:f<=0) (hx:exF G a b c=some x) (hx0:0 < x) :
  0 < KN c m x f/\KN c m x f < 1/\∃ y,exF G a b (KN c m x f)=some y/\0 < y:=by
 obtain⟨i,j,r,hr,ht,rfl⟩:=X3.1 hm;have hcs:s<=c/\c<=e:=by rcases hc with rfl | rfl <;> constructor <;> grind
 have hx':=q0F hr (h.tri hs he hcs.1 hcs.2 ht);rw [hx] at hx';injection hx' with hx'
 obtain⟨p1,p2⟩:=KL hx0 hf
 have hb:s<=KN c m x (exT G a b i j r m)/\KN c m x (exT G a b i j r m)<=e/\0 < KN c m x (exT G a b i j r m)/\KN c m x (exT G a b i j r m) < 1:=by
  unfold KN
  generalize 1 / 2*(x / (x - exT G a b i j r m))=th at p1 p2
  rcases hc with rfl | rfl
  ·have:=kT (a:=th) (b:=m - c) p1 (by grind);have:=kT (a:=1 - th) (b:=m - c) (by grind) (by grind);refine⟨?_,?_,?_,?_⟩ <;> grind
  ·have:=kT (a:=th) (b:=c - m) p1 (by grind);have:=kT (a:=1 - th) (b:=c - m) (by grind) (by grind);refine⟨?_,?_,?_,?_⟩ <;> grind
 refine⟨hb.2.2.1,hb.2.2.2,_,q0F hr (h.tri hs he hb.1 hb.2.1 ht),?_⟩;have:=Y5 (p:=plT G (sx G (a 0)) (sy G (a 1)) i j r - a 2) (q:=plT G (sx G (b 0)) (sy G (b 1)) i j r - b 2) (s:=c) (m:=m) (by rw [show lin _ _ c=exT G a b i j r c from rfl,<-hx']; exact hx0) hf;rw [show lin _ _ c=exT G a b i j r c from rfl,<-hx'] at this;exact this
structure Crs (G:Grd) (a b:Nat->Rat) (n:Nat) (l:Nat->Rat):Prop where
 n2:2<=n
 first:l 0=0
 last:l (n - 1)=1
 asc:∀ i,i+1 < n->l i < l (i+1)
 quiet:∀ i,i+1 < n->Jm G a b (l i) (l (i+1))
theorem Crs.mono {a b:Nat->Rat} {l:Nat->Rat} (h:Crs G a b n l) (hij:i<=j) (hj:j < n):l i<=l j:=by
 induction j with
 | zero =>
  obtain rfl:i=0:=by omega
  exact Rat.le_refl
 | succ j ih =>
  rcases Nat.lt_or_ge i (j+1) with h1 | h1
  ·have h2:=ih (by omega) (by omega);have h3:=h.asc j hj
   grind
  ·obtain rfl:i=j+1:=by omega
   exact Rat.le_refl
theorem Crs.pos {a b:Nat->Rat} {l:Nat->Rat} (h:Crs G a b n l) (hi:0 < i) (hn:i < n):0 < l i:=by
 have h1:=h.asc 0 (by omega);have h2:=h.mono (i:=1) (j:=i) (by omega) hn;rw [h.first] at h1;rw [Nat.zero_add] at h1
 grind
theorem Crs.lt1 {a b:Nat->Rat} {l:Nat->Rat} (h:Crs G a b n l) (hi:i+1 < n):l i < 1:=by
 have h1:=h.asc i hi;have h2:=h.mono (i:=i+1) (j:=n - 1) (by omega) (by omega);rw [h.last] at h2
 grind
def q5S (G:Grd) (a b:Nat->Rat) (e:Rat):Prop:=∀ t,0 < t->t<=e->t < 1->∀ x,exF G a b t=some x->x<=0
theorem q2t {a b:Nat->Rat} {s e:Rat} (h:q5S G a b s) (h':ClrB G a b s e):∀ t,0 < t->t < e->t < 1->∀ x,exF G a b t=some x->x<=0:=by
 intro t h0 h1 h2
 rcases Rat.le_total (a:=t) (b:=s) with k | k
 ·exact h t h0 k h2
 ·by_cases hts:t=s
  ·subst hts; exact h t h0 (by grind) h2
  ·exact h' t (by grind) h1
theorem q5u {a b:Nat->Rat} {e:Rat} (h:∀ t,0 < t->t < e->t < 1->∀ x,exF G a b t=some x->x<=0) (he:0 < e->e < 1->∀ x,exF G a b e=some x->x<=0):q5S G a b e:=by
 intro t h0 h1 h2
 by_cases hte:t=e
 ·subst hte; exact he h0 h2
 ·exact h t h0 (by grind) h2
def q1h (G:Grd) (a b:Nat->Rat):Prop:=∀ t,0 < t->t < 1->∀ x,exF G a b t=some x->x<=0
def VV (G:Grd) (a b:Nat->Rat) (t:Rat):Prop:=0 < t/\t < 1/\∃ x,exF G a b t=some x/\0 < x
theorem q4l {a b:Nat->Rat} {t:Rat} (h:VV G a b t):¬ q1h G a b:=by
 obtain⟨h0,h1,x,hx,h2⟩:=h;intro hc;have:=hc t h0 h1 x hx
 grind
end Go.Proofs.YtphpkhoeplcedaaGreat
