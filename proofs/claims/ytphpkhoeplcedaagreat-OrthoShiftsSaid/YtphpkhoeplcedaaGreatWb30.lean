import Derived.Test.YtphpkhoeplcedaaGreatWb28
import Derived.Test.YtphpkhoeplcedaaGreatWb29
import Derived.Test.YtphpkhoeplcedaaGreatWb24
set_option linter.all false
set_option maxHeartbeats 8000000
namespace Go.Proofs.YtphpkhoeplcedaaGreat
open Go.RowKit
theorem ht_int {k:Int} {m:Nat} (h:k.natAbs < 2 ^ m) (hm:0 < m):Ht m (k:Rat):=by
 refine⟨by rw [Rat.num_intCast]; exact h,?_⟩;rw [Rat.den_intCast];exact Nat.one_lt_two_pow (by omega)
theorem cel_mem {x:Rat} {n:Int} {K:Nat} (hk:Ht K x) (hf:(flo x).natAbs < 1000000000) {p:Nat} (hp:p < (celL x n).length):0≤cI (celL x n) p∧cI (celL x n) p < n - 1∧Ht (K+31) (cQ (celL x n) p):=by
 have h:∀ e∈celL x n,0≤e.1∧e.1 < n - 1∧Ht (K+31) e.2:=by
  intro e he;unfold celL at he
  rcases List.mem_append.1 he with he | he
  ·unfold cel1 at he
   split at he
   ·rename_i hc
    rw [List.mem_singleton] at he;subst he;exact⟨hc.1,hc.2,(hk.sub (ht_int (m:=30) (by omega) (by omega))).mono (by omega)⟩
   ·cases he
  ·unfold cel2 at he
   split at he
   ·rename_i hc
    rw [List.mem_singleton] at he;subst he;exact⟨by show 0≤flo x - 1; omega,by show flo x - 1 < n - 1; omega,(ht_int (m:=1) (by decide) (by omega)).mono (by omega)⟩
   ·cases he
 have hm:=h _ (List.getElem_mem hp);unfold cI cQ;rw [List.getElem?_eq_getElem hp];exact hm
theorem fs_hit {α β:Type} {f:α→Option β} {l:List α} {p:Nat} (h:(l.take p).findSome? f=none) {a:α} (ha:l[p]?=some a) {q:β} (hq:f a=some q):l.findSome? f=some q:=by
 obtain⟨hp,rfl⟩:=List.getElem?_eq_some_iff.1 ha;rw [←List.take_append_drop p l,List.findSome?_append,h,List.drop_eq_getElem_cons hp,List.findSome?_cons,hq]
 rfl
theorem fs_step {α β:Type} {f:α→Option β} {l:List α} {p:Nat} (h:(l.take p).findSome? f=none) {a:α} (ha:l[p]?=some a) (hq:f a=none):(l.take (p+1)).findSome? f=none:=by
 obtain⟨hp,rfl⟩:=List.getElem?_eq_some_iff.1 ha;rw [List.take_succ_eq_append_getElem hp,List.findSome?_append,h,List.findSome?_cons,hq]
 rfl
theorem fs_end {α β:Type} {f:α→Option β} {l:List α} {p:Nat} (h:(l.take p).findSome? f=none) (hp:l.length≤p):l.findSome? f=none:=by
 rw [List.take_of_length_le hp] at h;exact h
theorem c_at {l:List (Int×Rat)} {p:Nat} (hp:p < l.length):l[p]?=some (cI l p,cQ l p):=by
 unfold cI cQ;rw [List.getElem?_eq_getElem hp]
 rfl
theorem IzV.wide {N lo hi lo' hi':Nat} {w:World} {v:Value} {n:Nat} {z:Nat→Int} (h:IzV N lo hi w v n z):IzV N lo' hi' w v n z:=⟨rfl,h.2⟩
theorem Cel.ext {N:Nat} {w w':World} {v1 v2:Value} {l:List (Int×Rat)} (h:Cel N w v1 v2 l) (e:Ext w w'):Cel N w' v1 v2 l :=
 ⟨IzV.wide (h.1.ext e),LsR.wide (h.2.ext e) (Nat.le_refl _) e.size (Nat.le_refl _)⟩
def Mn.cel (N:Nat) (l:List (Int×Rat)):Mn:=⟨fun v w=>∃ v1 v2,v=.tuple #[v1,v2]∧Cel N w v1 v2 l,fun e h=>by
 obtain⟨v1,v2,h0,h1⟩:=h
 exact⟨v1,v2,h0,h1.ext e⟩⟩
def Mn.iz (N n:Nat) (z:Nat→Int):Mn:=⟨fun v w=>IzV N 0 w.heap.size w v n z,fun e h=>IzV.wide (h.ext e)⟩
theorem z_le {G:Grd} (h:GOk G) {i j:Int} (hi0:0≤i) (hi1:i < G.wd) (hj0:0≤j) (hj1:j < G.ht) (hn:zAt G i j≠-2147483648) : -1048576≤zAt G i j∧zAt G i j≤1048576:=by
 rcases h.z _ (zidx hi0 hi1 hj0 hj1 h.n).2.1 with h9 | h9
 ·exact absurd h9 hn
 ·exact h9
theorem tri_no {G:Grd} {i j:Int} {a b:Rat} {r:Nat} (h:¬(0≤orR a b r∧zAt G i j≠noneZ∧thR G i j r≠noneZ∧zAt G (i+1) (j+1)≠noneZ)):triF G i j a b r=none:=if_neg h
theorem tri_yes {G:Grd} {i j:Int} {a b:Rat} {r:Nat} (h:0≤orR a b r) (h1:zAt G i j≠noneZ) (h2:thR G i j r≠noneZ) (h3:zAt G (i+1) (j+1)≠noneZ):triF G i j a b r =
  some (((zAt G i j:Int):Rat)+fiR a b r*((thR G i j r - zAt G i j:Int):Rat)+seR a b r*((zAt G (i+1) (j+1) - thR G i j r:Int):Rat)):=if_pos ⟨h,h1,h2,h3⟩
theorem tri_cond {G:Grd} {i j:Int} {a b:Rat} {r:Nat} (h:(triF G i j a b r).isSome=true):zAt G i j≠-2147483648∧thR G i j r≠-2147483648∧zAt G (i+1) (j+1)≠-2147483648∧triF G i j a b r =
  some (((zAt G i j:Int):Rat)+fiR a b r*((thR G i j r - zAt G i j:Int):Rat)+seR a b r*((zAt G (i+1) (j+1) - thR G i j r:Int):Rat)):=by
 by_cases hc:0≤orR a b r∧zAt G i j≠noneZ∧thR G i j r≠noneZ∧zAt G (i+1) (j+1)≠noneZ
 ·exact⟨hc.2.1,hc.2.2.1,hc.2.2.2,if_pos hc⟩
 ·rw [tri_no hc] at h; cases h
theorem th_le {G:Grd} (h:GOk G) {i j:Int} {r:Nat} (hi0:0≤i) (hi1:i < G.wd - 1) (hj0:0≤j) (hj1:j < G.ht - 1) (hn:thR G i j r≠-2147483648) : -1048576≤thR G i j r∧thR G i j r≤1048576:=by
 unfold thR at hn ⊢
 split at hn <;> rename_i h9
 ·rw [if_pos h9]; exact z_le h (by omega) (by omega) (by omega) (by omega) hn
 ·rw [if_neg h9]; exact z_le h (by omega) (by omega) (by omega) (by omega) hn
theorem fi_ht {k:Nat} {a b:Rat} {r:Nat} (ha:Ht k a) (hb:Ht k b):Ht k (fiR a b r):=by unfold fiR; split <;> assumption
theorem se_ht {k:Nat} {a b:Rat} {r:Nat} (ha:Ht k a) (hb:Ht k b):Ht k (seR a b r):=by unfold seR; split <;> assumption
theorem sq_hit {G:Grd} {i j:Int} {a b:Rat} {r:Nat} (hr:r < 2) (hn:∀ s,s < r→triF G i j a b s=none) {q:Rat} (h:triF G i j a b r=some q):sqF G (i,a) (j,b)=some q:=by
 unfold sqF;have hr':r=0∨r=1:=by omega
 rcases hr' with rfl | rfl
 ·rw [h]; rfl
 ·rw [hn 0 (by omega),h]; rfl
theorem sq_no {G:Grd} {i j:Int} {a b:Rat} (hn:∀ s,s < 2→triF G i j a b s=none):sqF G (i,a) (j,b)=none:=by
 unfold sqF;rw [hn 0 (by omega),hn 1 (by omega)]; rfl
theorem or_next (a b:Rat) {r:Nat} (hr:r < 2) : -(orR a b r)=orR a b (r+1):=by
 unfold orR;have hr':r=0∨r=1:=by omega
 rcases hr' with rfl | rfl <;> simp
theorem or_le (a b:Rat) (r:Nat) : -1≤orR a b r∧orR a b r≤1:=by
 have h:∀ z:Int,-1≤z.sign∧z.sign≤1:=by
  intro z
  rcases Int.lt_trichotomy z 0 with h | h | h
  ·rw [Int.sign_eq_neg_one_of_neg h]; omega
  ·rw [h]; decide
  ·rw [Int.sign_eq_one_of_pos h]; omega
 have h1:=h (a.num*b.den - b.num*a.den);unfold orR cmpQ
 split <;> omega
theorem th_next (G:Grd) (i j:Int) (r:Nat):zAt G i (j+1)=thR G i j (r+1):=by unfold thR; rw [if_neg (by omega)]
theorem fi_next (a b:Rat) (r:Nat):b=fiR a b (r+1):=by unfold fiR; rw [if_neg (by omega)]
theorem se_next (a b:Rat) (r:Nat):a=seR a b (r+1):=by unfold seR; rw [if_neg (by omega)]
theorem box_lt {N:Nat} {w:World} {g:Nat} {q:Rat} (h:BoxR N w g q):g < w.heap.size:=by
 obtain⟨b,A,n,c,A',n',c',h,-⟩:=h;exact blk_lt h
def ZC (w5:World) (gG:Nat) (i j z:Int):Prop:=∀ wi,Ext w5 wi→Calls Tryz.prog 102 #[.int .i64 i,.int .i64 j,.pointer (some ⟨gG,0,none⟩)] wi (RetS wi (.int .i64 z))
theorem zc_mk {N lo hi gG:Nat} {w w5:World} {G:Grd} {A:Option Addr} {c:Nat} (hb:GBlk w gG G A c) (hz:IzV N lo hi w (.slice A G.n c) G.n G.z) (e5:Ext w w5) (hG:GOk G) {i j:Int} (hi0:0≤i) (hi1:i < G.wd) (hj0:0≤j) (hj1:j < G.ht):ZC w5 gG i j (zAt G i j) :=
 fun _ e=>o_z (show GBlk _ _ _ _ _ from (e5.trans e).block hb) (hz.ext (e5.trans e)) hi0 hi1 hj0 hj1 hG.w1 hG.h1 hG.n
theorem ZC.v {w5 w':World} {gG:Nat} {i j z:Int} (h:ZC w5 gG i j z) (e:Ext w5 w'):Calls Tryz.prog 102 #[.int .i64 i,.int .i64 j,.pointer (some ⟨gG,0,none⟩)] w' (RetV w' (.int .i64 z)):=(h w' e).mono fun _ _ h=>h.v
def RetHgt (N:Nat) (w:World) (o:Option Rat) (e:Ending) (w':World):Prop :=
 match o with
 | some q=>∃ v,e=.returned (.tuple #[v,.bool true])∧RatV N w' v q∧Ext w w'
 | none=>e=.returned (.tuple #[.agg #[.bool false,.slice none 0 0,.bool false,.slice none 0 0],.bool false])∧Ext w w'
set_option maxRecDepth 100000 in
theorem o_height {N lo hi:Nat} {w:World} {vg vx vy:Value} {G:Grd} {x y:Rat} (hg:GrdV N lo hi w vg G) (hG:GOk G) (hx:RatV N w vx x) (hy:RatV N w vy y) {K:Nat} (hkx:Ht K x) (hky:Ht K y) (hK:K≤1000000)
  (hfx:(flo (stepF x G.x0 G.st)).natAbs < 1000000000) (hfy:(flo (stepF y G.y0 G.st)).natAbs < 1000000000) :
  Calls Tryz.prog 51 #[vg,vx,vy] w (RetHgt N w (hgtF G x y)):=by
 have hN:=hx.le;obtain⟨A,c,rfl,-,-,hz⟩:=hg.parts;have HX:=Lib.hid hx;have HY:=Lib.hid hy;obtain⟨m1,X1,i1,d1,X2,i2,d2,rfl,hm1,gx1,gx2⟩:=hx.parts;obtain⟨m2,Y1,i3,d3,Y2,i4,d4,rfl,hm2,gy1,gy2⟩:=hy.parts;clear hx hy gx1 gx2 gy1 gy2;have HG:=Lib.hid hG;have HZ:=Lib.hid hz;obtain⟨res,hres⟩:=hid_eq (hgtF G x y);rw [←hres.out];obtain⟨⟨g1,g2,g3,g4,g5,g6,g7,g8,g9,g10⟩,-,-⟩:(2≤G.wd∧G.wd≤64∧2≤G.ht∧G.ht≤64∧2≤G.st∧G.st≤65536∧-1048576≤G.x0∧G.x0≤1048576∧-1048576≤G.y0∧G.y0≤1048576)∧True∧True:=⟨⟨hG.w0,hG.w1,hG.h0,hG.h1,hG.s0,hG.s1,hG.x0,hG.x1,hG.y0,hG.y1⟩,trivial,trivial⟩
 have HU:Hid (Ht (K+39) (stepF x G.x0 G.st)):=((hkx.sub (ht_int (m:=21) (by omega) (by omega))).div (ht_int (m:=17) (by omega) (by omega))).mono (by omega);have HV:Hid (Ht (K+39) (stepF y G.y0 G.st)):=((hky.sub (ht_int (m:=21) (by omega) (by omega))).div (ht_int (m:=17) (by omega) (by omega))).mono (by omega);clear hg hG hz;go_enter Tryz.func51,Tryz.ntmps51;go_wp2_with (go_at_call 61; refine Hid.out ?_);refine boxesC4 ?_;intro W hE hsz B0 B1 B2 B3;obtain⟨a0,a1,a2,a3,a4,a5⟩:=cells_g B0;refine (o_whole (N:=N) (by omega) G.st (by omega) (by omega)).mono ?_;rintro e w1 hh;obtain⟨b3,A11,k11,c11,A12,k12,c12,rfl,hb3,gw5,gw6,e1⟩:=hh.form;replace B0:=e1.block B0;replace B1:=e1.block B1;replace B2:=e1.block B2;replace B3:=e1.block B3;replace hE:=hE.trans e1;replace hsz:=Nat.le_trans hsz e1.size;clear a0 a1 a2 a3 a4 a5;go_upto_region 2 with (fail);refine boxes1 ?_;intro w2 e2 hsz2 B4;obtain⟨g8,hg8⟩:∃ g8,g8=w1.heap.size:=⟨_,rfl⟩
 rw [←hg8] at B4 ⊢;replace B0:=e2.block B0;replace B1:=e2.block B1;replace B2:=e2.block B2;replace B3:=e2.block B3;have hx2:=HX.out.ext (hE.trans e2);have hy2:=HY.out.ext (hE.trans e2);have hs2:RatV N w2 _ (G.st:Rat):=RatV.mk hb3 (gw5.ext e2) (gw6.ext e2);replace hE:=hE.trans e2;obtain⟨a0,a1,a2,a3,a4,a5⟩:=cells_g B0;obtain⟨p0,p1,p2,p3,-⟩:=cells4 B1;obtain⟨q0,q1,q2,q3,-⟩:=cells4 B2;obtain⟨s0,s1,s2,s3,-⟩:=cells4 B4;have hg8':g8 < w2.heap.size:=blk_lt B4;have HST:Hid (((G.st:Int):Rat)≠0):=by rw [Hid,Ne,Rat.intCast_eq_zero_iff]; omega
 have HSS:Hid (Sz ((G.st:Int):Rat)):=sz_int (by omega);have HSX:Hid (Sz (x - (G.x0:Rat))):=(hkx.sub (ht_int (m:=21) (by omega) (by omega))).sz (by omega);have HSY:Hid (Sz (y - (G.y0:Rat))):=(hky.sub (ht_int (m:=21) (by omega) (by omega))).sz (by omega);have HSX0:Hid (Sz x):=hkx.sz (by omega);have HSY0:Hid (Sz y):=hky.sz (by omega);obtain⟨u,hu⟩:=hid_eq (stepF x G.x0 G.st);obtain⟨v,hv⟩:=hid_eq (stepF y G.y0 G.st);have HFX:Hid ((flo u).natAbs < 1000000000):=by rw [hu.out]; exact hfx
 have HFY:Hid ((flo v).natAbs < 1000000000):=by rw [hv.out]; exact hfy
 rw [←hu.out] at HU;rw [←hv.out] at HV;have HSU:Hid (Sz u∧Sz (u - (flo u:Rat))):=⟨HU.out.sz (by omega),(HU.out.sub (ht_int (m:=30) (by have:=HFX.out; omega) (by omega))).sz (by omega)⟩
 have HSV:Hid (Sz v∧Sz (v - (flo v:Rat))):=⟨HV.out.sz (by omega),(HV.out.sub (ht_int (m:=30) (by have:=HFY.out; omega) (by omega))).sz (by omega)⟩
 obtain⟨l1,hl1⟩:=hid_eq (celL u G.wd);obtain⟨l2,hl2⟩:=hid_eq (celL v G.ht);have HM1:Hid (∀ p,p < l1.length→0≤cI l1 p∧cI l1 p < G.wd - 1∧Ht (K+70) (cQ l1 p)):=by rw [hl1.out]; exact fun p hp=>cel_mem HU.out HFX.out hp
 have HM2:Hid (∀ p,p < l2.length→0≤cI l2 p∧cI l2 p < G.ht - 1∧Ht (K+70) (cQ l2 p)):=by rw [hl2.out]; exact fun p hp=>cel_mem HV.out HFY.out hp
 have HRES:Hid (res=gridF G l1 l2):=by rw [hres.out,hl1.out,hl2.out,hu.out,hv.out]; rfl
 clear hkx hky hfx hfy hg8 B4 gw5 gw6 hres;refine regI [Mn.rat N (x),Mn.eq (.pointer (some ⟨w.heap.size,0,none⟩)),Mn.eq (.int .i64 G.x0),Mn.rat N ((G.x0:Int):Rat),Mn.rat N (x - ((G.x0:Int):Rat)),Mn.rat N (((G.st:Int):Rat)),Mn.rat N u,Mn.eq (.pointer (some ⟨w.heap.size,3,none⟩)),Mn.eq (.int .i64 G.wd),Mn.cel N l1,Mn.cel N l1,Mn.iz N l1.length (cI l1),Mn.ls N l1.length (cQ l1),Mn.iz N l1.length (cI l1),Mn.ls N l1.length (cQ l1)] [some 29,some 30,some 31,some 32,some 33,some 34,some 35,some 36,some 37,some 38,some 28,some 39,some 40,some 9,some 10] [] [true,true,true,true,true,true,true,true,true,true,true,true,true,true,true] 0 (by kernel_rfl) ?_ ?_
 ·show ∀ i,i < 15→_
  iterate 15 refine fs ?_ ?_
  ·exact fz
  all_goals intro hl
  all_goals clear hl
  all_goals refine stp rfl ?_
  all_goals intro ac wi eI hB hA K hK
  have o4:=oOf (hB 4 (by kernel_rfl)) rfl;clear hB hA;have cc0:=eI.cell p0;have cc1:=eI.cell p1;have cc2:=eI.cell p2;have cc3:=eI.cell p3
  ·go_simp;exact hK.out _ _ (Ext.refl _) (hx2.ext eI)
  have o3:=oOf (hB 3 (by kernel_rfl)) rfl
  rotate_left
  obtain⟨_,s30,rfl⟩:=hA 1 (by kernel_rfl) 30 rfl;have cc0:=eI.cell a0
  rotate_left
  obtain⟨_,s31,rfl⟩:=hA 2 (by kernel_rfl) 31 rfl;clear hB hA
  ·go_simp;refine (o_whole (Nat.le_trans (by omega:N≤w2.heap.size) eI.size) G.x0 (by omega) (by omega)).mono ?_;rintro e wj ⟨vj,rfl,hj,ej⟩;go_wp2_with fail;exact hK.out _ _ ej hj
  obtain⟨x29,s29,j29⟩:=hA 0 (by kernel_rfl) 29 rfl;replace j29:Mn.p (Mn.rat N (x)) x29 wi:=j29;obtain⟨x32,s32,j32⟩:=hA 3 (by kernel_rfl) 32 rfl;replace j32:Mn.p (Mn.rat N ((G.x0:Int):Rat)) x32 wi:=j32;clear hB hA
  ·go_simp;refine (o_sub j29 j32 HSX0.out (sz_int (by omega))).mono ?_;rintro e wj ⟨vj,rfl,hj,ej⟩;go_wp2_with fail;exact hK.out _ _ ej hj
  have o8:=oOf (hB 8 (by kernel_rfl)) rfl;clear hB hA;have cc0:=eI.cell s0;have cc1:=eI.cell s1;have cc2:=eI.cell s2;have cc3:=eI.cell s3
  ·go_simp;exact hK.out _ _ (Ext.refl _) (hs2.ext eI)
  obtain⟨x33,s33,j33⟩:=hA 4 (by kernel_rfl) 33 rfl;replace j33:Mn.p (Mn.rat N (x - ((G.x0:Int):Rat))) x33 wi:=j33;obtain⟨x34,s34,j34⟩:=hA 5 (by kernel_rfl) 34 rfl;replace j34:Mn.p (Mn.rat N (((G.st:Int):Rat))) x34 wi:=j34;clear hB hA
  ·go_simp;refine (o_over j33 j34 HSX.out HSS.out HST.out).mono ?_;rw [show (x - ((G.x0:Int):Rat)) / ((G.st:Int):Rat)=u from hu.out.symm];rintro e wj ⟨vj,rfl,hj,ej⟩;go_wp2_with fail;exact hK.out _ _ ej hj
  have o3:=oOf (hB 3 (by kernel_rfl)) rfl
  rotate_left
  obtain⟨_,s36,rfl⟩:=hA 7 (by kernel_rfl) 36 rfl;have cc0:=eI.cell a3
  rotate_left
  obtain⟨x35,s35,j35⟩:=hA 6 (by kernel_rfl) 35 rfl;replace j35:Mn.p (Mn.rat N u) x35 wi:=j35;obtain⟨_,s37,rfl⟩:=hA 8 (by kernel_rfl) 37 rfl;clear hB hA
  ·go_simp;refine (o_cells j35 HSU.out.1 HSU.out.2 HFX.out (by omega) (by omega)).mono ?_;rw [←hl1.out];rintro e wj ⟨u1,u2,rfl,hj,ej⟩;go_wp2_with fail;exact hK.out _ _ ej ⟨u1,u2,rfl,hj⟩
  obtain⟨x38,s38,j38⟩:=hA 9 (by kernel_rfl) 38 rfl;replace j38:Mn.p (Mn.cel N l1) x38 wi:=j38;clear hB hA
  ·go_simp;exact hK.out _ _ (Ext.refl _) j38
  obtain⟨x28,s28,j28⟩:=hA 10 (by kernel_rfl) 28 rfl;replace j28:Mn.p (Mn.cel N l1) x28 wi:=j28;clear hB hA
  ·obtain⟨u1,u2,rfl,hj⟩:=j28;go_simp;exact hK.out _ _ (Ext.refl _) hj.1
  obtain⟨x28,s28,j28⟩:=hA 10 (by kernel_rfl) 28 rfl;replace j28:Mn.p (Mn.cel N l1) x28 wi:=j28;clear hB hA
  ·obtain⟨u1,u2,rfl,hj⟩:=j28;go_simp;exact hK.out _ _ (Ext.refl _) hj.2
  obtain⟨x39,s39,j39⟩:=hA 11 (by kernel_rfl) 39 rfl;replace j39:Mn.p (Mn.iz N l1.length (cI l1)) x39 wi:=j39;clear hB hA
  ·go_simp;exact hK.out _ _ (Ext.refl _) j39
  obtain⟨x40,s40,j40⟩:=hA 12 (by kernel_rfl) 40 rfl;replace j40:Mn.p (Mn.ls N l1.length (cQ l1)) x40 wi:=j40;clear hB hA
  ·go_simp;exact hK.out _ _ (Ext.refl _) j40
  all_goals clear hB hA
  all_goals go_simp
  all_goals exact hK.out _ _ (Ext.refl _) rfl
 intro vals wz eZ hJ;have J9:Mn.p (Mn.iz N l1.length (cI l1)) (vals 13) wz:=hJ 13 (by decide) (by decide);have J10:Mn.p (Mn.ls N l1.length (cQ l1)) (vals 14) wz:=hJ 14 (by decide) (by decide);clear hJ;simp only [pr,Nat.reduceAdd]
 generalize vals 13=z9 at J9 ⊢
 generalize vals 14=z10 at J10 ⊢
 refine stepL_done (by kernel_rfl) ?_ _;have I9:IzV N 0 wz.heap.size wz z9 l1.length (cI l1):=J9;have I10:LsV N 0 wz.heap.size wz z10 l1.length (cQ l1):=J10;clear J9 J10;obtain⟨w3,hw3⟩:∃ w3,w3=wz:=⟨_,rfl⟩
 subst hw3;replace hE:=hE.trans eZ;replace B0:=eZ.block B0;replace B3:=eZ.block B3;replace hy2:=hy2.ext eZ;replace hs2:=hs2.ext eZ;replace q0:=eZ.cell q0;replace q1:=eZ.cell q1;replace q2:=eZ.cell q2;replace q3:=eZ.cell q3;replace s0:=eZ.cell s0;replace s1:=eZ.cell s1;replace s2:=eZ.cell s2;replace s3:=eZ.cell s3;have hN3:N≤w3.heap.size:=by have:=hE.size; omega
 clear eZ a0 a1 a2 a3 a4 a5 p0 p1 p2 p3 hx2 B1 B2;obtain⟨a0,a1,a2,a3,a4,a5⟩:=cells_g B0;go_upto_region 3 with (fail);refine regI [Mn.rat N (y),Mn.eq (.pointer (some ⟨w.heap.size,1,none⟩)),Mn.eq (.int .i64 G.y0),Mn.rat N ((G.y0:Int):Rat),Mn.rat N (y - ((G.y0:Int):Rat)),Mn.rat N (((G.st:Int):Rat)),Mn.rat N v,Mn.eq (.pointer (some ⟨w.heap.size,4,none⟩)),Mn.eq (.int .i64 G.ht),Mn.cel N l2,Mn.cel N l2,Mn.iz N l2.length (cI l2),Mn.ls N l2.length (cQ l2),Mn.iz N l2.length (cI l2),Mn.ls N l2.length (cQ l2)] [some 42,some 43,some 44,some 45,some 46,some 47,some 48,some 49,some 50,some 51,some 41,some 52,some 53,some 11,some 12] [] [true,true,true,true,true,true,true,true,true,true,true,true,true,true,true] 0 (by kernel_rfl) ?_ ?_
 ·show ∀ i,i < 15→_
  iterate 15 refine fs ?_ ?_
  ·exact fz
  all_goals intro hl
  all_goals clear hl
  all_goals refine stp rfl ?_
  all_goals intro ac wi eI hB hA K hK
  have o5:=oOf (hB 5 (by kernel_rfl)) rfl;clear hB hA;have cc0:=eI.cell q0;have cc1:=eI.cell q1;have cc2:=eI.cell q2;have cc3:=eI.cell q3
  ·go_simp;exact hK.out _ _ (Ext.refl _) (hy2.ext eI)
  have o3:=oOf (hB 3 (by kernel_rfl)) rfl
  rotate_left
  obtain⟨_,s43,rfl⟩:=hA 1 (by kernel_rfl) 43 rfl;have cc0:=eI.cell a1
  rotate_left
  obtain⟨_,s44,rfl⟩:=hA 2 (by kernel_rfl) 44 rfl;clear hB hA
  ·go_simp;refine (o_whole (Nat.le_trans (by omega:N≤w3.heap.size) eI.size) G.y0 (by omega) (by omega)).mono ?_;rintro e wj ⟨vj,rfl,hj,ej⟩;go_wp2_with fail;exact hK.out _ _ ej hj
  obtain⟨x42,s42,j42⟩:=hA 0 (by kernel_rfl) 42 rfl;replace j42:Mn.p (Mn.rat N (y)) x42 wi:=j42;obtain⟨x45,s45,j45⟩:=hA 3 (by kernel_rfl) 45 rfl;replace j45:Mn.p (Mn.rat N ((G.y0:Int):Rat)) x45 wi:=j45;clear hB hA
  ·go_simp;refine (o_sub j42 j45 HSY0.out (sz_int (by omega))).mono ?_;rintro e wj ⟨vj,rfl,hj,ej⟩;go_wp2_with fail;exact hK.out _ _ ej hj
  have o8:=oOf (hB 8 (by kernel_rfl)) rfl;clear hB hA;have cc0:=eI.cell s0;have cc1:=eI.cell s1;have cc2:=eI.cell s2;have cc3:=eI.cell s3
  ·go_simp;exact hK.out _ _ (Ext.refl _) (hs2.ext eI)
  obtain⟨x46,s46,j46⟩:=hA 4 (by kernel_rfl) 46 rfl;replace j46:Mn.p (Mn.rat N (y - ((G.y0:Int):Rat))) x46 wi:=j46;obtain⟨x47,s47,j47⟩:=hA 5 (by kernel_rfl) 47 rfl;replace j47:Mn.p (Mn.rat N (((G.st:Int):Rat))) x47 wi:=j47;clear hB hA
  ·go_simp;refine (o_over j46 j47 HSY.out HSS.out HST.out).mono ?_;rw [show (y - ((G.y0:Int):Rat)) / ((G.st:Int):Rat)=v from hv.out.symm];rintro e wj ⟨vj,rfl,hj,ej⟩;go_wp2_with fail;exact hK.out _ _ ej hj
  have o3:=oOf (hB 3 (by kernel_rfl)) rfl
  rotate_left
  obtain⟨_,s49,rfl⟩:=hA 7 (by kernel_rfl) 49 rfl;have cc0:=eI.cell a4
  rotate_left
  obtain⟨x48,s48,j48⟩:=hA 6 (by kernel_rfl) 48 rfl;replace j48:Mn.p (Mn.rat N v) x48 wi:=j48;obtain⟨_,s50,rfl⟩:=hA 8 (by kernel_rfl) 50 rfl;clear hB hA
  ·go_simp;refine (o_cells j48 HSV.out.1 HSV.out.2 HFY.out (by omega) (by omega)).mono ?_;rw [←hl2.out];rintro e wj ⟨u1,u2,rfl,hj,ej⟩;go_wp2_with fail;exact hK.out _ _ ej ⟨u1,u2,rfl,hj⟩
  obtain⟨x51,s51,j51⟩:=hA 9 (by kernel_rfl) 51 rfl;replace j51:Mn.p (Mn.cel N l2) x51 wi:=j51;clear hB hA
  ·go_simp;exact hK.out _ _ (Ext.refl _) j51
  obtain⟨x41,s41,j41⟩:=hA 10 (by kernel_rfl) 41 rfl;replace j41:Mn.p (Mn.cel N l2) x41 wi:=j41;clear hB hA
  ·obtain⟨u1,u2,rfl,hj⟩:=j41;go_simp;exact hK.out _ _ (Ext.refl _) hj.1
  obtain⟨x41,s41,j41⟩:=hA 10 (by kernel_rfl) 41 rfl;replace j41:Mn.p (Mn.cel N l2) x41 wi:=j41;clear hB hA
  ·obtain⟨u1,u2,rfl,hj⟩:=j41;go_simp;exact hK.out _ _ (Ext.refl _) hj.2
  obtain⟨x52,s52,j52⟩:=hA 11 (by kernel_rfl) 52 rfl;replace j52:Mn.p (Mn.iz N l2.length (cI l2)) x52 wi:=j52;clear hB hA
  ·go_simp;exact hK.out _ _ (Ext.refl _) j52
  obtain⟨x53,s53,j53⟩:=hA 12 (by kernel_rfl) 53 rfl;replace j53:Mn.p (Mn.ls N l2.length (cQ l2)) x53 wi:=j53;clear hB hA
  ·go_simp;exact hK.out _ _ (Ext.refl _) j53
  all_goals clear hB hA
  all_goals go_simp
  all_goals exact hK.out _ _ (Ext.refl _) rfl
 intro vals wz eZ hJ;have J11:Mn.p (Mn.iz N l2.length (cI l2)) (vals 13) wz:=hJ 13 (by decide) (by decide);have J12:Mn.p (Mn.ls N l2.length (cQ l2)) (vals 14) wz:=hJ 14 (by decide) (by decide);clear hJ;simp only [pr,Nat.reduceAdd]
 generalize vals 13=z11 at J11 ⊢
 generalize vals 14=z12 at J12 ⊢
 refine stepL_done (by kernel_rfl) ?_ _;have I11:IzV N 0 wz.heap.size wz z11 l2.length (cI l2):=J11;have I12:LsV N 0 wz.heap.size wz z12 l2.length (cQ l2):=J12;replace I9:=I9.ext eZ;replace I10:=I10.ext eZ;clear J11 J12;obtain⟨w4,hw4⟩:∃ w4,w4=wz:=⟨_,rfl⟩
 subst hw4;replace hE:=hE.trans eZ;replace B0:=eZ.block B0;replace B3:=eZ.block B3;clear eZ a0 a1 a2 a3 a4 a5 q0 q1 q2 q3 s0 s1 s2 s3 hy2 hs2;obtain⟨A9,c9,rfl,hn9,hc9⟩:=I9.form;obtain⟨A10,c10,rfl,-,hc10⟩:=I10.form;obtain⟨A11',c11',rfl,hn11,hc11⟩:=I11.form;obtain⟨A12',c12',rfl,-,hc12⟩:=I12.form;unfold maxLen at hc9 hc10 hc11 hc12;have HBG:Hid (GBlk w4 w.heap.size G A c):=B0;have HBR:=Lib.hid B3;have HGN:=HG.out.n;have hN4:N≤w4.heap.size:=by have:=hE.size; omega
 clear B0 B3;go_wp2
 go_loopw [57] (fun i wr=>∃ p:Nat,p≤l1.length∧i=.int .i64 p∧Hid ((l1.take p).findSome? (fun e=>rowF G e l2)=none)∧Ext w4 wr) (fun i _=>l1.length - (intOf i).toNat)
 case atStart=>exact⟨0,Nat.zero_le _,rfl,rfl,Ext.refl w4⟩
 case round =>
  obtain⟨p,hp,rfl,HA1,hEr⟩:=hrel
  by_cases hlt:p < l1.length
  case neg =>
   have HR:Hid (res=none):=by rw [Hid,HRES.out]; exact fs_end HA1.out (by omega)
   have hBRH:=hEr.block HBR.out;obtain⟨u0,u1,u2,u3,u4,u5,u6,u7⟩:=cells4 hBRH;have hEr0:=hE.trans hEr;clear hEr;go_wp2;obtain⟨wR,ER,FR,UR⟩:=ex4 hBRH (.bool false) (.slice none 0 0) (.bool false) (.slice none 0 0);rw [ER];obtain⟨v0,v1,v2,v3,-⟩:=cells4 FR;refine bodyPost_ret (v:=.tuple #[.agg #[.bool false,.slice none 0 0,.bool false,.slice none 0 0],.bool false]) ?_ rfl ?_
   ·simp [results,Tryz.results51,v0,v1,v2,v3,go_sem]
   rw [HR.out];exact⟨rfl,UR.ext hEr0 (by omega)⟩
  obtain⟨b9,of9,rfl,hx9⟩:=(I9.ext hEr).addr (by omega);have u0:=hx9 p hlt;obtain⟨hi0,hi1,ha⟩:=HM1.out p hlt;obtain⟨i,hid⟩:=hid_eq (cI l1 p);obtain⟨a,had⟩:=hid_eq (cQ l1 p);rw [←hid.out] at u0 hi0 hi1;rw [←had.out] at ha;have HAT:Hid (l1[p]?=some (i,a)):=by rw [Hid,hid.out,had.out]; exact c_at hlt
  clear hx9;go_wp2;obtain⟨wq,hwq⟩:∃ wq,wq=wr:=⟨wr,rfl⟩
  subst hwq;clear u0
  go_loopw [64] (fun jv wr=>∃ q:Nat,q≤l2.length∧jv=.int .i64 q∧Hid ((l2.take q).findSome? (sqF G (i,a))=none)∧Ext w4 wr) (fun jv _=>l2.length - (intOf jv).toNat)
  case atStart=>exact⟨0,Nat.zero_le _,rfl,rfl,hEr⟩
  case round =>
   clear hEr;obtain⟨q,hq,rfl,HA2,hEr⟩:=hrel
   by_cases hlt2:q < l2.length
   case neg =>
    have HR:Hid (rowF G (i,a) l2=none):=fs_end HA2.out (by omega);go_wp2;go_roundw
    case rel=>exact⟨p+1,by omega,by go_num,fs_step HA1.out HAT.out HR.out,hEr⟩
    case measure=>simp [intOf]; omega
   obtain⟨b11,of11,rfl,hx11⟩:=(I11.ext hEr).addr (by omega);have v0:=hx11 q hlt2;obtain⟨hj0,hj1,hb⟩:=HM2.out q hlt2;obtain⟨j,hjd⟩:=hid_eq (cI l2 q);obtain⟨b,hbd⟩:=hid_eq (cQ l2 q);rw [←hjd.out] at v0 hj0 hj1;rw [←hbd.out] at hb;have HAT2:Hid (l2[q]?=some (j,b)):=by rw [Hid,hjd.out,hbd.out]; exact c_at hlt2
   obtain⟨b10,of10,rfl,-,-,hx10⟩:=(I10.ext hEr).addr (by omega);obtain⟨b12,of12,rfl,-,-,hx12⟩:=(I12.ext hEr).addr (by omega);obtain⟨nr,Ar,kr,cr,A'r,k'r,c'r,r0,r1,r2,r3,hbr,yr,zr⟩:=(hx10 p (by omega)).open;have hRr:RatV N wr (.agg #[.bool nr,.slice Ar kr cr,.bool false,.slice A'r k'r c'r]) (cQ l1 p):=RatV.mk hbr yr zr;clear hbr yr zr;obtain⟨nt,At,kt,ct,A't,k't,c't,t0,t1,t2,t3,hbt,yt,zt⟩:=(hx12 q (by omega)).open;have hRt:RatV N wr (.agg #[.bool nt,.slice At kt ct,.bool false,.slice A't k't c't]) (cQ l2 q):=RatV.mk hbt yt zt;clear hbt yt zt;rw [←had.out] at hRr;rw [←hbd.out] at hRt;clear hx10 hx11 hx12;go_upto_region 11 with (fail);refine regL [Mn.eq (.slice (some ⟨b10,of10,none⟩) l1.length c10),Mn.eq (.int .i64 (p:Int)),Mn.eq (.pointer (some ⟨b10,of10+p*4,none⟩)),Mn.rat N (a),Mn.eq (.slice (some ⟨b12,of12,none⟩) l2.length c12'),Mn.eq (.int .i64 (q:Int)),Mn.eq (.pointer (some ⟨b12,of12+q*4,none⟩)),Mn.rat N (b),Mn.blk wr.heap.size (.cells #[.bool false,.slice none 0 0,.bool false,.slice none 0 0] 29 (0,0)),Mn.blk wr.heap.size (.cells #[.bool false,.slice none 0 0,.bool false,.slice none 0 0] 29 (0,0)),Mn.any,Mn.any] [some 69,some 70,some 71,some 72,some 73,some 74,some 75,some 76,some 18,some 19,none,none] [10,11] [4,5,6,7] [8,9] [true,true,true,true,true,true,true,true,true,true,false,false] 2 (Ext.refl _) (by kernel_rfl) ?_ ?_ ?_ ?_
   ·show ∀ i,i < 12→_
    iterate 12 refine fs ?_ ?_
    ·exact fz
    all_goals intro hl hs hd
    all_goals first | exact absurd hl (by decide) | exact absurd hs (by decide) | exact absurd hd (by decide) | skip
    all_goals clear hd hs
    all_goals clear hl
    all_goals refine stp rfl ?_
    all_goals intro ac wi eI hB hA K hK
    have o10:=oOf (hB 10 (by kernel_rfl)) rfl
    rotate_left
    have o14:=oOf (hB 14 (by kernel_rfl)) rfl
    rotate_left
    obtain⟨_,s69,rfl⟩:=hA 0 (by kernel_rfl) 69 rfl;obtain⟨_,s70,rfl⟩:=hA 1 (by kernel_rfl) 70 rfl
    rotate_left
    obtain⟨_,s71,rfl⟩:=hA 2 (by kernel_rfl) 71 rfl;clear hB hA;have cc0:=eI.cell r0;have cc1:=eI.cell r1;have cc2:=eI.cell r2;have cc3:=eI.cell r3
    ·go_simp;exact hK.out _ _ (Ext.refl _) (hRr.ext eI)
    all_goals clear hB hA
    all_goals go_simp
    all_goals exact hK.out _ _ (Ext.refl _) rfl
   ·intro i hs;have hi':i=8∨i=9:=by simpa using hs
    clear hs
    rcases hi' with rfl | rfl
    ·refine stpD rfl ?_;intro ac wi eI hB hA K hK;clear hB hA;go_simp;refine boxes1 ?_;intro wj ej hszj BJ;exact hK.out _ _ ej ⟨_,rfl,eI.size,BJ⟩ ⟨_,rfl,Nat.le_refl _,blk_lt BJ⟩
    ·refine stpD rfl ?_;intro ac wi eI hB hA K hK;clear hB hA;go_simp;refine boxes1 ?_;intro wj ej hszj BJ;exact hK.out _ _ ej ⟨_,rfl,eI.size,BJ⟩ ⟨_,rfl,Nat.le_refl _,blk_lt BJ⟩
   ·intro i hs;have hi':i=4∨i=5∨i=6∨i=7:=by simpa using hs
    clear hs
    rcases hi' with rfl | rfl | rfl | rfl
    ·refine sftL rfl (fun _ _ _ _ h=>h) ?_;intro ac wi eI hB hA;have o12:=oOf (hB 12 (by kernel_rfl)) rfl;clear hB hA;refine⟨(.slice (some ⟨b12,of12,none⟩) l2.length c12'),.inl ⟨rfl,fun w9 _=>?_⟩,rfl⟩;go_simp
    ·refine sftL rfl (fun _ _ _ _ h=>h) ?_;intro ac wi eI hB hA;have o16:=oOf (hB 16 (by kernel_rfl)) rfl;clear hB hA;refine⟨(.int .i64 (q:Int)),.inl ⟨rfl,fun w9 _=>?_⟩,rfl⟩;go_simp
    ·refine sftL rfl (fun _ _ _ _ h=>h) ?_;intro ac wi eI hB hA;obtain⟨_,s73,rfl⟩:=hA 4 (by kernel_rfl) 73 rfl;obtain⟨_,s74,rfl⟩:=hA 5 (by kernel_rfl) 74 rfl;clear hB hA;refine⟨(.pointer (some ⟨b12,of12+q*4,none⟩)),.inl ⟨rfl,fun w9 _=>?_⟩,rfl⟩;go_simp
    ·refine sftL rfl (fun _ _ _ _ h=>h) ?_;intro ac wi eI hB hA;obtain⟨_,s75,rfl⟩:=hA 6 (by kernel_rfl) 75 rfl;clear hB hA;refine⟨_,.inl ⟨rfl,fun w9 e9=>?_⟩,hRt.ext eI⟩;have cc0:=e9.cell t0;have cc1:=e9.cell t1;have cc2:=e9.cell t2;have cc3:=e9.cell t3;go_simp
   intro vals wz eZ hJ hD;have hD18_19:vals 8≠vals 9:=hD 8 9 (by decide) (by decide) (by decide);clear hD;have J72:Mn.p (Mn.rat N (a)) (vals 3) wz:=hJ 3 (by decide) (by decide);have J76:Mn.p (Mn.rat N (b)) (vals 7) wz:=hJ 7 (by decide) (by decide);have J18:Mn.p (Mn.blk wr.heap.size (.cells #[.bool false,.slice none 0 0,.bool false,.slice none 0 0] 29 (0,0))) (vals 8) wz:=hJ 8 (by decide) (by decide);have J19:Mn.p (Mn.blk wr.heap.size (.cells #[.bool false,.slice none 0 0,.bool false,.slice none 0 0] 29 (0,0))) (vals 9) wz:=hJ 9 (by decide) (by decide);clear hJ;simp only [pr,Nat.reduceAdd]
   generalize vals 3=z72 at J72 ⊢
   generalize vals 7=z76 at J76 ⊢
   generalize vals 8=z18 at J18 hD18_19 ⊢
   generalize vals 9=z19 at J19 hD18_19 ⊢
   obtain⟨gA,rfl,hgA,BA⟩:=J18;obtain⟨gB,rfl,hgB,BB⟩:=J19;have hAB:gA≠gB:=fun e=>hD18_19 (by rw [e])
   obtain⟨bz,Az,kz,cz,Az',kz',cz',rfl,hbz,gz1,gz2⟩:=RatV.parts J72;obtain⟨by',Ay,ky,cy,Ay',ky',cy',rfl,hby,gy1,gy2⟩:=RatV.parts J76;obtain⟨m0,m1,m2,m3,m4,m5,m6,m7⟩:=cells4 BA;obtain⟨n0,n1,n2,n3,n4,n5,n6,n7⟩:=cells4 BB;refine stepL_lateS (i:=10) rfl (by kernel_rfl) (fun K hK=>?_);go_simp;refine hK.out _ _ (fun e9=>?_) ?_
   ·repeat (first | with_reducible exact e9 | refine Ext.setCell ?_ (by dsimp only; omega) _)
   clear hK K;try simp only [nr]
   refine stepL_lateS (i:=11) rfl (by kernel_rfl) (fun K hK=>?_);go_simp;refine hK.out _ _ (fun e9=>?_) ?_
   ·repeat (first | with_reducible exact e9 | refine Ext.setCell ?_ (by dsimp only; omega) _)
   clear hK K;try simp only [nr]
   refine stepL_done (by kernel_rfl) ?_ _;obtain⟨wA,EA,hBA,KA,hsA⟩:=boxSet (q:=a) BA (by have:=hEr.size; omega) hbz gz1 gz2;rw [EA];have hNA:N≤gA:=by have:=hEr.size; omega
   obtain⟨wB,EB,hBB,KB,hsB⟩:=boxSet (q:=b) (KA.blk BB (by omega)) (by have:=hEr.size; omega) hby (gy1.chg KA hNA) (gy2.chg KA hNA);rw [EB];replace hBA:=hBA.chg KB (by have:=hEr.size; omega) (by omega);have hE5:Ext w4 wB:=KB.ext (KA.ext (hEr.trans eZ) (by have:=hEr.size; omega)) (by have:=hEr.size; omega);have hlA:gA < wB.heap.size:=by have:=blk_lt BA; omega
   have hlB:gB < wB.heap.size:=by have:=blk_lt BB; omega
   have hlA4:w4.heap.size≤gA:=by have:=hEr.size; omega
   have hlB4:w4.heap.size≤gB:=by have:=hEr.size; omega
   clear m0 m1 m2 m3 m4 m5 m6 m7 n0 n1 n2 n3 n4 n5 n6 n7 EA EB KA KB BA BB hsA hsB hbz gz1 gz2 hby gy1 gy2 J72 J76 r0 r1 r2 r3 t0 t1 t2 t3 hRr hRt hD18_19 eZ v0 hEr hgA hgB;obtain⟨w5,hw5⟩:∃ w5,w5=wB:=⟨_,rfl⟩
   subst hw5;have HBA:=Lib.hid hBA;have HBB:=Lib.hid hBB;obtain⟨nm,Am,km,cm,A'm,k'm,c'm,Bm,hbm,ym,zm⟩:=hBA;obtain⟨m0,m1,m2,m3,-⟩:=cells4 Bm;have hRm:RatV N w5 (.agg #[.bool nm,.slice Am km cm,.bool false,.slice A'm k'm c'm]) (a):=RatV.mk hbm ym zm;obtain⟨nn,An,kn,cn,A'n,k'n,c'n,Bn,hbn,yn,zn⟩:=hBB;obtain⟨n0,n1,n2,n3,-⟩:=cells4 Bn;have hRn:RatV N w5 (.agg #[.bool nn,.slice An kn cn,.bool false,.slice A'n k'n c'n]) (b):=RatV.mk hbn yn zn;clear hbm ym zm hbn yn zn Bm Bn;have hwi:IntKind.i64.wrap (i+1)=i+1:=IntWalk.i64_in _ (by omega);have hwj:IntKind.i64.wrap (j+1)=j+1:=IntWalk.i64_in _ (by omega);have HZ4:Hid (IzV N lo hi w4 (.slice A G.n c) G.n G.z):=HZ.out.ext hE;have HZ00:Hid (ZC w5 w.heap.size i j (zAt G i j)):=zc_mk HBG.out HZ4.out hE5 HG.out (by omega) (by omega) (by omega) (by omega);have HZ10:Hid (ZC w5 w.heap.size (i+1) j (zAt G (i+1) j)):=zc_mk HBG.out HZ4.out hE5 HG.out (by omega) (by omega) (by omega) (by omega);have HZ01:Hid (ZC w5 w.heap.size i (j+1) (zAt G i (j+1))):=zc_mk HBG.out HZ4.out hE5 HG.out (by omega) (by omega) (by omega) (by omega);have HZ11:Hid (ZC w5 w.heap.size (i+1) (j+1) (zAt G (i+1) (j+1))):=zc_mk HBG.out HZ4.out hE5 HG.out (by omega) (by omega) (by omega) (by omega);have HL00:Hid (zAt G i j≠-2147483648→-1048576≤zAt G i j∧zAt G i j≤1048576):=z_le HG.out (by omega) (by omega) (by omega) (by omega);have HL10:Hid (zAt G (i+1) j≠-2147483648→-1048576≤zAt G (i+1) j∧zAt G (i+1) j≤1048576):=z_le HG.out (by omega) (by omega) (by omega) (by omega)
   have HL01:Hid (zAt G i (j+1)≠-2147483648→-1048576≤zAt G i (j+1)∧zAt G i (j+1)≤1048576):=z_le HG.out (by omega) (by omega) (by omega) (by omega);have HL11:Hid (zAt G (i+1) (j+1)≠-2147483648→-1048576≤zAt G (i+1) (j+1)∧zAt G (i+1) (j+1)≤1048576):=z_le HG.out (by omega) (by omega) (by omega) (by omega);obtain⟨z00,hz00⟩:=hid_eq (zAt G i j);obtain⟨z10,hz10⟩:=hid_eq (zAt G (i+1) j);obtain⟨z01,hz01⟩:=hid_eq (zAt G i (j+1));obtain⟨z11,hz11⟩:=hid_eq (zAt G (i+1) (j+1));rw [←hz00.out] at HZ00 HL00;rw [←hz10.out] at HZ10 HL10;rw [←hz01.out] at HZ01 HL01;rw [←hz11.out] at HZ11 HL11;go_upto_region 12 with (fail);refine regL [Mn.eq (.func (.func 102) #[] #[.pointer (some ⟨w.heap.size,0,none⟩)]),Mn.eq (.int .i64 i),Mn.eq (.int .i64 (i+1)),Mn.eq (.int .i64 j),Mn.eq (.int .i64 z10),Mn.rat N (a),Mn.rat N (b),Mn.blk w5.heap.size (.cells #[.bool false,.slice none 0 0,.bool false,.slice none 0 0] 29 (0,0)),Mn.blk w5.heap.size (.cells #[.bool false,.slice none 0 0,.bool false,.slice none 0 0] 29 (0,0)),Mn.eq (.int .i64 z10),Mn.any,Mn.any] [some 77,some 78,some 79,some 80,some 81,some 82,some 83,some 21,some 22,some 20,none,none] [10,11] [6] [7,8] [true,true,true,true,true,true,true,true,true,true,false,false] 2 (Ext.refl _) (by kernel_rfl) ?_ ?_ ?_ ?_
   ·show ∀ i,i < 12→_
    iterate 12 refine fs ?_ ?_
    ·exact fz
    all_goals intro hl hs hd
    all_goals first | exact absurd hl (by decide) | exact absurd hs (by decide) | exact absurd hd (by decide) | skip
    all_goals clear hd hs
    all_goals clear hl
    all_goals refine stp rfl ?_
    all_goals intro ac wi eI hB hA K hK
    have o13:=oOf (hB 13 (by kernel_rfl)) rfl
    rotate_left
    have o15:=oOf (hB 15 (by kernel_rfl)) rfl
    rotate_left
    obtain⟨_,s78,rfl⟩:=hA 1 (by kernel_rfl) 78 rfl
    rotate_left
    have o17:=oOf (hB 17 (by kernel_rfl)) rfl
    rotate_left
    obtain⟨_,s77,rfl⟩:=hA 0 (by kernel_rfl) 77 rfl;obtain⟨_,s79,rfl⟩:=hA 2 (by kernel_rfl) 79 rfl;obtain⟨_,s80,rfl⟩:=hA 3 (by kernel_rfl) 80 rfl;clear hB hA
    ·go_simp;refine (HZ10.out.v eI).mono ?_;rintro e wj ⟨rfl,ej⟩;go_wp2_with fail;exact hK.out _ _ ej rfl
    have o18:=oOf (hB 18 (by kernel_rfl)) rfl;clear hB hA;have cc0:=eI.cell m0;have cc1:=eI.cell m1;have cc2:=eI.cell m2;have cc3:=eI.cell m3
    ·go_simp;exact hK.out _ _ (Ext.refl _) (hRm.ext eI)
    obtain⟨_,s81,rfl⟩:=hA 4 (by kernel_rfl) 81 rfl
    rotate_left
    all_goals clear hB hA
    all_goals go_simp
    all_goals exact hK.out _ _ (Ext.refl _) rfl
   ·intro i hs;have hi':i=7∨i=8:=by simpa using hs
    clear hs
    rcases hi' with rfl | rfl
    ·refine stpD rfl ?_;intro ac wi eI hB hA K hK;clear hB hA;go_simp;refine boxes1 ?_;intro wj ej hszj BJ;exact hK.out _ _ ej ⟨_,rfl,eI.size,BJ⟩ ⟨_,rfl,Nat.le_refl _,blk_lt BJ⟩
    ·refine stpD rfl ?_;intro ac wi eI hB hA K hK;clear hB hA;go_simp;refine boxes1 ?_;intro wj ej hszj BJ;exact hK.out _ _ ej ⟨_,rfl,eI.size,BJ⟩ ⟨_,rfl,Nat.le_refl _,blk_lt BJ⟩
   ·intro i hs;have hi':i=6:=by simpa using hs
    clear hs
    rcases hi' with rfl
    ·refine sftL rfl (fun _ _ _ _ h=>h) ?_;intro ac wi eI hB hA;have o19:=oOf (hB 19 (by kernel_rfl)) rfl;clear hB hA;refine⟨_,.inl ⟨rfl,fun w9 e9=>?_⟩,hRn.ext eI⟩;have cc0:=e9.cell n0;have cc1:=e9.cell n1;have cc2:=e9.cell n2;have cc3:=e9.cell n3;go_simp
   intro vals wz eZ hJ hD;have hD21_22:vals 7≠vals 8:=hD 7 8 (by decide) (by decide) (by decide);clear hD;have J82:Mn.p (Mn.rat N (a)) (vals 5) wz:=hJ 5 (by decide) (by decide);have J83:Mn.p (Mn.rat N (b)) (vals 6) wz:=hJ 6 (by decide) (by decide);have J21:Mn.p (Mn.blk w5.heap.size (.cells #[.bool false,.slice none 0 0,.bool false,.slice none 0 0] 29 (0,0))) (vals 7) wz:=hJ 7 (by decide) (by decide);have J22:Mn.p (Mn.blk w5.heap.size (.cells #[.bool false,.slice none 0 0,.bool false,.slice none 0 0] 29 (0,0))) (vals 8) wz:=hJ 8 (by decide) (by decide);have J20:vals 9=_:=hJ 9 (by decide) (by decide);clear hJ;simp only [pr,Nat.reduceAdd,J20];clear J20
   generalize vals 5=z82 at J82 ⊢
   generalize vals 6=z83 at J83 ⊢
   generalize vals 7=z21 at J21 hD21_22 ⊢
   generalize vals 8=z22 at J22 hD21_22 ⊢
   obtain⟨gF,rfl,hgF,BF⟩:=J21;obtain⟨gS,rfl,hgS,BS⟩:=J22;have hFS:gF≠gS:=fun e=>hD21_22 (by rw [e])
   obtain⟨bz,Az,kz,cz,Az',kz',cz',rfl,hbz,gz1,gz2⟩:=RatV.parts J82;obtain⟨by',Ay,ky,cy,Ay',ky',cy',rfl,hby,gy1,gy2⟩:=RatV.parts J83;obtain⟨x0,x1,x2,x3,x4,x5,x6,x7⟩:=cells4 BF;obtain⟨y0,y1,y2,y3,y4,y5,y6,y7⟩:=cells4 BS;refine stepL_lateS (i:=10) rfl (by kernel_rfl) (fun K hK=>?_);go_simp;refine hK.out _ _ (fun e9=>?_) ?_
   ·repeat (first | with_reducible exact e9 | refine Ext.setCell ?_ (by dsimp only; omega) _)
   clear hK K;try simp only [nr]
   refine stepL_lateS (i:=11) rfl (by kernel_rfl) (fun K hK=>?_);go_simp;refine hK.out _ _ (fun e9=>?_) ?_
   ·repeat (first | with_reducible exact e9 | refine Ext.setCell ?_ (by dsimp only; omega) _)
   clear hK K;try simp only [nr]
   refine stepL_done (by kernel_rfl) ?_ _;obtain⟨wF,EF,hBF,KF,hsF⟩:=boxSet (q:=a) BF (by have:=hE5.size; omega) hbz gz1 gz2;rw [EF];have hNF:N≤gF:=by have:=hE5.size; omega
   obtain⟨wS,ES,hBS,KS,hsS⟩:=boxSet (q:=b) (KF.blk BS (by omega)) (by have:=hE5.size; omega) hby (gy1.chg KF hNF) (gy2.chg KF hNF);rw [ES];replace hBF:=hBF.chg KS (by omega) (by omega);have hE6:Ext w5 wS:=KS.ext (KF.ext eZ (by omega)) (by omega);have hlF5:w5.heap.size≤gF:=hgF;have hlS5:w5.heap.size≤gS:=hgS;have hNS:N≤gS:=by have:=hE5.size; omega
   have hlF:gF < wS.heap.size:=by have:=blk_lt BF; omega
   have hlS:gS < wS.heap.size:=by have:=blk_lt BS; omega
   clear x0 x1 x2 x3 x4 x5 x6 x7 y0 y1 y2 y3 y4 y5 y6 y7 EF ES KF KS BF BS hsF hsS hbz gz1 gz2 hby gy1 gy2 J82 J83 hD21_22 eZ;obtain⟨w6,hw6⟩:∃ w6,w6=wS:=⟨_,rfl⟩
   subst hw6;have HSA:Hid (Sz a):=ha.sz (by omega);have HSB:Hid (Sz b):=hb.sz (by omega);have HHA:=Lib.hid ha;have HHB:=Lib.hid hb;clear ha hb;have hRm6:=hRm.ext hE6;have hRn6:=hRn.ext hE6;have m0':=hE6.cell m0;have m1':=hE6.cell m1;have m2':=hE6.cell m2;have m3':=hE6.cell m3;have n0':=hE6.cell n0;have n1':=hE6.cell n1;have n2':=hE6.cell n2;have n3':=hE6.cell n3;obtain⟨c0,hc0⟩:=hid_eq (cmpQ a b);go_wp2_with (go_at_call 60; refine Hid.out ?_);refine (f_compare hRm6 hRn6 HSA.out HSB.out).mono ?_;rintro e w7 ⟨rfl,e7⟩;rw [show (a.num*b.den - b.num*a.den).sign=c0 from hc0.out.symm];replace hE6:=hE6.trans e7;replace hBF:=hBF.ext e7;replace hBS:=hBS.ext e7;clear hRm6 hRn6 m0' m1' m2' m3' n0' n1' n2' n3' hlA hlB;have hlF7:=box_lt hBF;have hlS7:=box_lt hBS;clear hlF hlS e7;go_wp2;have HMC:=Lib.hid (And.intro (And.intro m0 (And.intro m1 (And.intro m2 m3))) (And.intro n0 (And.intro n1 (And.intro n2 n3))));clear m0 m1 m2 m3 n0 n1 n2 n3
   go_loopw [87,23,20] (fun iv v23 v20 wr=>∃ r:Nat,r≤2∧iv=.int .i64 r∧v23=.int .i64 (orR a b r)∧v20=.int .i64 (thR G i j r)∧BoxR N wr gF (fiR a b r)∧BoxR N wr gS (seR a b r)∧Hid (∀ s,s < r→triF G i j a b s=none)∧Ext w5 wr) (fun iv _ _ _=>2 - (intOf iv).toNat)
   case atStart=>exact⟨0,by omega,rfl,by rw [hc0.out]; rfl,by rw [hz10.out]; rfl,hBF,hBS,fun s hs=>absurd hs (by omega),hE6⟩
   case round =>
    clear hBF hBS hE6 hlF7 hlS7;obtain⟨r,hr,rfl,rfl,rfl,hBF,hBS,HNO,hE6⟩:=hrel;have hlF7:=box_lt hBF;have hlS7:=box_lt hBS;have hEw:Ext w4 wr:=hE5.trans hE6
    by_cases hr2:r < 2
    case neg =>
     have HQ:Hid (sqF G (i,a) (j,b)=none):=sq_no (fun s hs=>HNO.out s (by omega));have hq1:decide ((r:Int) < 2)=false:=decide_eq_false (by omega);go_wp2;go_roundw
     case rel=>exact⟨q+1,by omega,by go_num,fs_step HA2.out HAT2.out HQ.out,hEw⟩
     case measure=>simp [intOf]; omega
    have hq1:decide ((r:Int) < 2)=true:=decide_eq_true (by omega);obtain⟨ord,hord⟩:=hid_eq (orR a b r);obtain⟨thd,hthd⟩:=hid_eq (thR G i j r);obtain⟨fi,hfi⟩:=hid_eq (fiR a b r);obtain⟨se,hse⟩:=hid_eq (seR a b r);rw [←hfi.out] at hBF;rw [←hse.out] at hBS;rw [←hord.out,←hthd.out]
    have hwo:IntKind.i64.wrap (-ord) = -ord:=by
     have:=or_le a b r;rw [←hord.out] at this;exact IntWalk.i64_in _ (by omega)
    obtain⟨tb,htb⟩:=hid_eq (triF G i j a b r).isSome;go_upto_region 16 with (fail)
    go_cut [110] (fun v wx=>v=.bool tb∧wx=wr)
    case first =>
     by_cases d1:0≤ord
     case neg =>
      have t1:decide (0≤ord)=false:=decide_eq_false d1;have HB:Hid (false=tb):=by rw [Hid,htb.out,tri_no (fun h=>d1 (by rw [hord.out]; exact h.1))]; rfl
      go_wp2_with fail
      go_meet
      exact⟨by rw [←HB.out],rfl⟩
     have t1:decide (0≤ord)=true:=decide_eq_true d1;go_wp2_with (go_at_call 102; refine Hid.out ?_);refine (HZ00.out wr hE6).mono ?_;rintro e wz ⟨rfl,rfl⟩
     by_cases d2:z00 = -2147483648
     case pos =>
      have HB:Hid (false=tb):=by rw [Hid,htb.out,tri_no (fun h=>h.2.1 (by rw [←hz00.out]; exact d2))]; rfl
      have t2:(z00 != -2147483648)=false:=by simpa using d2
      clear d2;go_wp2_with fail
      go_meet
      exact⟨by rw [←HB.out],rfl⟩
     have t2:(z00 != -2147483648)=true:=by simpa using d2
     by_cases d3:thd = -2147483648
     case pos =>
      have HB:Hid (false=tb):=by rw [Hid,htb.out,tri_no (fun h=>h.2.2.1 (by rw [←hthd.out]; exact d3))]; rfl
      have t3:(thd != -2147483648)=false:=by simpa using d3
      clear d3;go_wp2_with fail
      go_meet
      exact⟨by rw [←HB.out],rfl⟩
     have t3:(thd != -2147483648)=true:=by simpa using d3
     go_wp2_with (go_at_call 102; refine Hid.out ?_);refine (HZ11.out _ hE6).mono ?_;rintro e wz ⟨rfl,rfl⟩
     by_cases d4:z11 = -2147483648
     case pos =>
      have HB:Hid (false=tb):=by rw [Hid,htb.out,tri_no (fun h=>h.2.2.2 (by rw [←hz11.out]; exact d4))]; rfl
      have t4:(z11 != -2147483648)=false:=by simpa using d4
      clear d4;go_wp2_with fail
      go_meet
      exact⟨by rw [←HB.out],rfl⟩
     have t4:(z11 != -2147483648)=true:=by simpa using d4
     have HB:Hid (true=tb):=by rw [Hid,htb.out,tri_yes (by rw [←hord.out]; exact d1) (by rw [←hz00.out]; exact d2) (by rw [←hthd.out]; exact d3) (by rw [←hz11.out]; exact d4)]; rfl
     go_wp2_with fail
     go_meet
     exact⟨by rw [←HB.out],rfl⟩
    obtain⟨rfl,rfl⟩:=hcut;cases tb with
    | false =>
     have HT:Hid (triF G i j a b r=none):=by
      have:=htb.out;rw [Hid];cases h9:triF G i j a b r with
      | none=>rfl
      | some q=>rw [h9] at this; cases this
     clear htb;go_upto_region 19 with (fail);obtain⟨⟨m0,m1,m2,m3⟩,n0,n1,n2,n3⟩:=HMC.out;obtain⟨bF,AF,kF,cF,AF',kF',cF',BF,-⟩:=hBF;obtain⟨x0,x1,x2,x3,x4,x5,x6,x7⟩:=cells4 BF;obtain⟨bS,AS,kS,cS,AS',kS',cS',BS,-⟩:=hBS;obtain⟨y0,y1,y2,y3,y4,y5,y6,y7⟩:=cells4 BS;refine regL [Mn.eq (.func (.func 102) #[] #[.pointer (some ⟨w.heap.size,0,none⟩)]),Mn.eq (.int .i64 i),Mn.eq (.int .i64 j),Mn.eq (.int .i64 (j+1)),Mn.eq (.int .i64 z01),Mn.rat N (b),Mn.rat N (a),Mn.eq (.int .i64 ord),Mn.eq (.int .i64 (-ord)),Mn.eq (.int .i64 z01),Mn.any,Mn.any,Mn.any] [some 139,some 140,some 141,some 142,some 143,some 144,some 145,some 146,some 147,some 20,none,none,some 23] [10,11,12] [6,7,8] [] [true,true,true,true,true,true,true,true,true,true,false,false,false] 3 hE6 (by kernel_rfl) ?_ ?_ ?_ ?_
     ·show ∀ i,i < 13→_
      iterate 13 refine fs ?_ ?_
      ·exact fz
      all_goals intro hl hs hd
      all_goals first | exact absurd hl (by decide) | exact absurd hs (by decide) | exact absurd hd (by decide) | skip
      all_goals clear hd hs
      all_goals clear hl
      all_goals refine stp rfl ?_
      all_goals intro ac wi eI hB hA K hK
      have o13:=oOf (hB 13 (by kernel_rfl)) rfl
      rotate_left
      have o15:=oOf (hB 15 (by kernel_rfl)) rfl
      rotate_left
      have o17:=oOf (hB 17 (by kernel_rfl)) rfl
      rotate_left
      obtain⟨_,s141,rfl⟩:=hA 2 (by kernel_rfl) 141 rfl
      rotate_left
      obtain⟨_,s139,rfl⟩:=hA 0 (by kernel_rfl) 139 rfl;obtain⟨_,s140,rfl⟩:=hA 1 (by kernel_rfl) 140 rfl;obtain⟨_,s142,rfl⟩:=hA 3 (by kernel_rfl) 142 rfl;clear hB hA
      ·go_simp;refine (HZ01.out.v (hE6.trans eI)).mono ?_;rintro e wj ⟨rfl,ej⟩;go_wp2_with fail;exact hK.out _ _ ej rfl
      have o19:=oOf (hB 19 (by kernel_rfl)) rfl;clear hB hA;have cc0:=(hE6.trans eI).cell n0;have cc1:=(hE6.trans eI).cell n1;have cc2:=(hE6.trans eI).cell n2;have cc3:=(hE6.trans eI).cell n3
      ·go_simp;exact hK.out _ _ (Ext.refl _) (hRn.ext (hE6.trans eI))
      obtain⟨_,s143,rfl⟩:=hA 4 (by kernel_rfl) 143 rfl
      rotate_left
      all_goals clear hB hA
      all_goals go_simp
      all_goals exact hK.out _ _ (Ext.refl _) rfl
     ·intro i hs; exact absurd hs (by simp)
     ·intro i hs;have hi':i=6∨i=7∨i=8:=by simpa using hs
      clear hs
      rcases hi' with rfl | rfl | rfl
      ·refine sftL rfl (fun _ _ _ _ h=>h) ?_;intro ac wi eI hB hA;have o18:=oOf (hB 18 (by kernel_rfl)) rfl;clear hB hA;refine⟨_,.inl ⟨rfl,fun w9 e9=>?_⟩,hRm.ext (hE6.trans eI)⟩;have cc0:=e9.cell m0;have cc1:=e9.cell m1;have cc2:=e9.cell m2;have cc3:=e9.cell m3;go_simp
      ·refine sftL rfl (fun _ _ _ _ h=>h) ?_;intro ac wi eI hB hA;have o23:=oOf (hB 23 (by kernel_rfl)) rfl;clear hB hA;refine⟨(.int .i64 ord),.inl ⟨rfl,fun w9 _=>?_⟩,rfl⟩;go_simp
      ·refine sftL rfl (fun _ _ _ _ h=>h) ?_;intro ac wi eI hB hA;obtain⟨_,s146,rfl⟩:=hA 7 (by kernel_rfl) 146 rfl;clear hB hA;refine⟨(.int .i64 (-ord)),.inl ⟨rfl,fun w9 _=>?_⟩,rfl⟩;go_simp
     intro vals wz eZ hJ hD;clear hD;have J144:Mn.p (Mn.rat N (b)) (vals 5) wz:=hJ 5 (by decide) (by decide);have J145:Mn.p (Mn.rat N (a)) (vals 6) wz:=hJ 6 (by decide) (by decide);have J147:vals 8=_:=hJ 8 (by decide) (by decide);have J20:vals 9=_:=hJ 9 (by decide) (by decide);clear hJ;simp only [pr,Nat.reduceAdd,J147,J20];clear J147 J20
     generalize vals 5=z144 at J144 ⊢
     generalize vals 6=z145 at J145 ⊢
     obtain⟨bz,Az,kz,cz,Az',kz',cz',rfl,hbz,gz1,gz2⟩:=RatV.parts J144;obtain⟨by',Ay,ky,cy,Ay',ky',cy',rfl,hby,gy1,gy2⟩:=RatV.parts J145;replace x0:=eZ.cell x0;replace x1:=eZ.cell x1;replace x2:=eZ.cell x2;replace x3:=eZ.cell x3;replace BF:=eZ.block BF;replace BS:=eZ.block BS;clear x0 x1 x2 x3 x4 x5 x6 x7 y0 y1 y2 y3 y4 y5 y6 y7;obtain⟨x0,x1,x2,x3,x4,x5,x6,x7⟩:=cells4 BF;obtain⟨y0,y1,y2,y3,y4,y5,y6,y7⟩:=cells4 BS;refine stepL_lateS (i:=10) rfl (by kernel_rfl) (fun K hK=>?_);go_simp;refine hK.out _ _ (fun e9=>?_) ?_
     ·repeat (first | with_reducible exact e9 | refine Ext.setCell ?_ (by dsimp only; omega) _)
     clear hK K;try simp only [nr]
     refine stepL_lateS (i:=11) rfl (by kernel_rfl) (fun K hK=>?_);go_simp;refine hK.out _ _ (fun e9=>?_) ?_
     ·repeat (first | with_reducible exact e9 | refine Ext.setCell ?_ (by dsimp only; omega) _)
     clear hK K;try simp only [nr]
     refine stepL_lateS (i:=12) rfl (by kernel_rfl) (fun K hK=>?_);go_simp;refine hK.out _ _ (fun e9=>?_) ?_
     ·repeat (first | with_reducible exact e9 | refine Ext.setCell ?_ (by dsimp only; omega) _)
     clear hK K;try simp only [nr]
     refine stepL_done (by kernel_rfl) ?_ _;obtain⟨wF,EF,hBF',KF,hsF⟩:=boxSet (q:=b) BF hNF hbz gz1 gz2;rw [EF];obtain⟨wS,ES,hBS',KS,hsS⟩:=boxSet (q:=a) (KF.blk BS (by omega)) hNS hby (gy1.chg KF hNF) (gy2.chg KF hNF);rw [ES];replace hBF':=hBF'.chg KS hNS (by omega);have hE9:Ext w5 wS:=KS.ext (KF.ext (hE6.trans eZ) hlF5) hlS5;go_wp2;go_roundw
     case rel=>exact⟨r+1,by omega,by go_num,by rw [←or_next a b hr2,←hord.out],by rw [←th_next,hz01.out],by rw [←fi_next]; exact hBF',by rw [←se_next]; exact hBS',all_succ (p:=fun s=>triF G i j a b s=none) HNO.out HT.out,hE9⟩
     case measure=>simp [intOf]; omega
    | true =>
     obtain⟨q00,qth,q11,hval⟩:=tri_cond htb.out.symm;have hb00:=HL00.out (by rw [hz00.out]; exact q00);have hbth : -1048576≤thd∧thd≤1048576:=by rw [hthd.out]; exact th_le HG.out hi0 hi1 hj0 hj1 qth
     have hb11:=HL11.out (by rw [hz11.out]; exact q11);have hFiH:Ht (K+70) fi:=by rw [hfi.out]; exact fi_ht HHA.out HHB.out
     have hSeH:Ht (K+70) se:=by rw [hse.out]; exact se_ht HHA.out HHB.out
     have HF1:Hid (Sz fi):=hFiH.sz (by omega);have HF2:Hid (Sz se):=hSeH.sz (by omega);have hH1:Ht (K+92) (fi*((thd - z00:Int):Rat)):=(hFiH.mul (ht_int (k:=thd - z00) (m:=22) (by omega) (by omega))).mono (by omega);have hH2:Ht (K+92) (se*((z11 - thd:Int):Rat)):=(hSeH.mul (ht_int (k:=z11 - thd) (m:=22) (by omega) (by omega))).mono (by omega);have HP1:Hid (Sz (fi*((thd - z00:Int):Rat))):=hH1.sz (by omega);have HP2:Hid (Sz (se*((z11 - thd:Int):Rat))):=hH2.sz (by omega);have HP3:Hid (Sz (((z00:Int):Rat)+fi*((thd - z00:Int):Rat))):=((ht_int (k:=z00) (m:=22) (by omega) (by omega)).add hH1).sz (by omega);have HV:Hid (triF G i j a b r=some (((z00:Int):Rat)+fi*((thd - z00:Int):Rat)+se*((z11 - thd:Int):Rat))):=by rw [Hid,hz00.out,hthd.out,hz11.out,hfi.out,hse.out]; exact hval
     have HR:Hid (res=some (((z00:Int):Rat)+fi*((thd - z00:Int):Rat)+se*((z11 - thd:Int):Rat))):=by
      rw [Hid,HRES.out];exact fs_hit HA1.out HAT.out (fs_hit HA2.out HAT2.out (sq_hit hr2 HNO.out HV.out))
     clear q00 qth q11 hval hFiH hSeH hH1 hH2 HV htb;have hwd1:IntKind.i64.wrap (thd - z00)=thd - z00:=IntWalk.i64_in _ (by omega);have hwd2:IntKind.i64.wrap (z11 - thd)=z11 - thd:=IntWalk.i64_in _ (by omega);go_upto_region 17 with (fail);have hBF0:=hBF;have hBS0:=hBS;obtain⟨nx,Ax,kx,cx,A'x,k'x,c'x,Bx,hbx,yx,zx⟩:=hBF;obtain⟨x0,x1,x2,x3,-⟩:=cells4 Bx;have hRx:RatV N wc (.agg #[.bool nx,.slice Ax kx cx,.bool false,.slice A'x k'x c'x]) (fi):=RatV.mk hbx yx zx;refine regI [Mn.eq (.func (.func 102) #[] #[.pointer (some ⟨w.heap.size,0,none⟩)]),Mn.eq (.int .i64 i),Mn.eq (.int .i64 j),Mn.eq (.int .i64 z00),Mn.rat N ((z00:Int):Rat),Mn.rat N (fi),Mn.eq (.int .i64 thd),Mn.eq (.func (.func 102) #[] #[.pointer (some ⟨w.heap.size,0,none⟩)]),Mn.eq (.int .i64 i),Mn.eq (.int .i64 j),Mn.eq (.int .i64 z00),Mn.eq (.int .i64 (thd - z00)),Mn.rat N ((thd - z00:Int):Rat),Mn.rat N (fi*((thd - z00:Int):Rat)),Mn.rat N (((z00:Int):Rat)+fi*((thd - z00:Int):Rat)),Mn.blk wc.heap.size (.cells #[.bool false,.slice none 0 0,.bool false,.slice none 0 0] 29 (0,0)),Mn.any] [some 111,some 112,some 113,some 114,some 115,some 116,some 117,some 118,some 119,some 120,some 121,some 122,some 123,some 124,some 125,some 24,none] [16] [true,true,true,true,true,true,true,true,true,true,true,true,true,true,true,true,false] 1 (by kernel_rfl) ?_ ?_
     ·show ∀ i,i < 17→_
      iterate 17 refine fs ?_ ?_
      ·exact fz
      all_goals intro hl
      all_goals first | exact absurd hl (by decide) | skip
      all_goals clear hl
      all_goals refine stp rfl ?_
      all_goals intro ac wi eI hB hA K hK
      have o13:=oOf (hB 13 (by kernel_rfl)) rfl
      rotate_left
      have o15:=oOf (hB 15 (by kernel_rfl)) rfl
      rotate_left
      have o17:=oOf (hB 17 (by kernel_rfl)) rfl
      rotate_left
      obtain⟨_,s111,rfl⟩:=hA 0 (by kernel_rfl) 111 rfl;obtain⟨_,s112,rfl⟩:=hA 1 (by kernel_rfl) 112 rfl;obtain⟨_,s113,rfl⟩:=hA 2 (by kernel_rfl) 113 rfl;clear hB hA
      ·go_simp;refine (HZ00.out.v (hE6.trans eI)).mono ?_;rintro e wj ⟨rfl,ej⟩;go_wp2_with fail;exact hK.out _ _ ej rfl
      obtain⟨_,s114,rfl⟩:=hA 3 (by kernel_rfl) 114 rfl;clear hB hA
      ·go_simp;refine (o_whole (Nat.le_trans (by have:=hE6.size; omega:N≤wc.heap.size) eI.size) z00 (by omega) (by omega)).mono ?_;rintro e wj ⟨vj,rfl,hj,ej⟩;go_wp2_with fail;exact hK.out _ _ ej hj
      have o21:=oOf (hB 21 (by kernel_rfl)) rfl;clear hB hA;have cc0:=eI.cell x0;have cc1:=eI.cell x1;have cc2:=eI.cell x2;have cc3:=eI.cell x3
      ·go_simp;exact hK.out _ _ (Ext.refl _) (hRx.ext eI)
      have o20:=oOf (hB 20 (by kernel_rfl)) rfl
      rotate_left
      have o13:=oOf (hB 13 (by kernel_rfl)) rfl
      rotate_left
      have o15:=oOf (hB 15 (by kernel_rfl)) rfl
      rotate_left
      have o17:=oOf (hB 17 (by kernel_rfl)) rfl
      rotate_left
      obtain⟨_,s118,rfl⟩:=hA 7 (by kernel_rfl) 118 rfl;obtain⟨_,s119,rfl⟩:=hA 8 (by kernel_rfl) 119 rfl;obtain⟨_,s120,rfl⟩:=hA 9 (by kernel_rfl) 120 rfl;clear hB hA
      ·go_simp;refine (HZ00.out.v (hE6.trans eI)).mono ?_;rintro e wj ⟨rfl,ej⟩;go_wp2_with fail;exact hK.out _ _ ej rfl
      obtain⟨_,s117,rfl⟩:=hA 6 (by kernel_rfl) 117 rfl;obtain⟨_,s121,rfl⟩:=hA 10 (by kernel_rfl) 121 rfl
      rotate_left
      obtain⟨_,s122,rfl⟩:=hA 11 (by kernel_rfl) 122 rfl;clear hB hA
      ·go_simp;refine (o_whole (Nat.le_trans (by have:=hE6.size; omega:N≤wc.heap.size) eI.size) (thd - z00) (by omega) (by omega)).mono ?_;rintro e wj ⟨vj,rfl,hj,ej⟩;go_wp2_with fail;exact hK.out _ _ ej hj
      obtain⟨x116,s116,j116⟩:=hA 5 (by kernel_rfl) 116 rfl;replace j116:Mn.p (Mn.rat N (fi)) x116 wi:=j116;obtain⟨x123,s123,j123⟩:=hA 12 (by kernel_rfl) 123 rfl;replace j123:Mn.p (Mn.rat N ((thd - z00:Int):Rat)) x123 wi:=j123;clear hB hA
      ·go_simp;refine (o_mul j116 j123 HF1.out (sz_int (by omega))).mono ?_;rintro e wj ⟨vj,rfl,hj,ej⟩;go_wp2_with fail;exact hK.out _ _ ej hj
      obtain⟨x115,s115,j115⟩:=hA 4 (by kernel_rfl) 115 rfl;replace j115:Mn.p (Mn.rat N ((z00:Int):Rat)) x115 wi:=j115;obtain⟨x124,s124,j124⟩:=hA 13 (by kernel_rfl) 124 rfl;replace j124:Mn.p (Mn.rat N (fi*((thd - z00:Int):Rat))) x124 wi:=j124;clear hB hA
      ·go_simp;refine (o_add j115 j124 (sz_int (by omega)) HP1.out).mono ?_;rintro e wj ⟨vj,rfl,hj,ej⟩;go_wp2_with fail;exact hK.out _ _ ej hj
      clear hB hA
      ·go_simp;refine boxes1 ?_;intro wj ej hszj BJ;exact hK.out _ _ ej ⟨_,rfl,eI.size,BJ⟩
      all_goals clear hB hA
      all_goals go_simp
      all_goals exact hK.out _ _ (Ext.refl _) rfl
     intro vals wz eZ hJ;have J125:Mn.p (Mn.rat N (((z00:Int):Rat)+fi*((thd - z00:Int):Rat))) (vals 14) wz:=hJ 14 (by decide) (by decide);have J24:Mn.p (Mn.blk wc.heap.size (.cells #[.bool false,.slice none 0 0,.bool false,.slice none 0 0] 29 (0,0))) (vals 15) wz:=hJ 15 (by decide) (by decide);clear hJ;simp only [pr,Nat.reduceAdd]
     generalize vals 14=z125 at J125 ⊢
     generalize vals 15=z24 at J24 ⊢
     obtain⟨gH,rfl,hgH,BH⟩:=J24;obtain⟨bz,Az,kz,cz,Az',kz',cz',rfl,hbz,gz1,gz2⟩:=RatV.parts J125;obtain⟨y0,y1,y2,y3,y4,y5,y6,y7⟩:=cells4 BH;refine stepL_late (i:=16) rfl (by kernel_rfl) (by kernel_rfl) (fun K hK=>?_);go_simp;refine hK.out _ _ ?_;clear hK K;try simp only [nr]
     refine stepL_done (by kernel_rfl) ?_ _;obtain⟨wH,EH,hBH,KH,hsH⟩:=boxSet (q:=((z00:Int):Rat)+fi*((thd - z00:Int):Rat)) BH (by have:=hE6.size; omega) hbz gz1 gz2;rw [EH];have hEH:Ext wc wH:=KH.ext eZ hgH;have hE8:Ext w5 wH:=hE6.trans hEH;replace hBS:=hBS0.ext hEH;clear x0 x1 x2 x3 hbx yx zx hRx Bx y0 y1 y2 y3 y4 y5 y6 y7 EH KH BH hsH hbz gz1 gz2 hBF0 hBS0 eZ;have hEw8:Ext w4 wH:=hE5.trans hE8;have hNH:N≤wH.heap.size:=Nat.le_trans hN4 hEw8.size;have hBRH:=hEw8.block HBR.out;have hBR0:w.heap.size+1+1+1 < w4.heap.size:=blk_lt HBR.out;go_upto_region 18 with (fail);obtain⟨nx,Ax,kx,cx,A'x,k'x,c'x,Bx,hbx,yx,zx⟩:=hBH;obtain⟨x0,x1,x2,x3,-⟩:=cells4 Bx;have hRx:RatV N wH (.agg #[.bool nx,.slice Ax kx cx,.bool false,.slice A'x k'x c'x]) (((z00:Int):Rat)+fi*((thd - z00:Int):Rat)):=RatV.mk hbx yx zx;obtain⟨ny,Ay,ky,cy,A'y,k'y,c'y,By,hby,yy,zy⟩:=hBS;obtain⟨y0,y1,y2,y3,-⟩:=cells4 By;have hRy:RatV N wH (.agg #[.bool ny,.slice Ay ky cy,.bool false,.slice A'y k'y c'y]) (se):=RatV.mk hby yy zy;obtain⟨u0,u1,u2,u3,u4,u5,u6,u7⟩:=cells4 hBRH;refine regI [Mn.rat N (((z00:Int):Rat)+fi*((thd - z00:Int):Rat)),Mn.rat N (se),Mn.eq (.func (.func 102) #[] #[.pointer (some ⟨w.heap.size,0,none⟩)]),Mn.eq (.int .i64 i),Mn.eq (.int .i64 (i+1)),Mn.eq (.int .i64 j),Mn.eq (.int .i64 (j+1)),Mn.eq (.int .i64 z11),Mn.eq (.int .i64 thd),Mn.eq (.int .i64 (z11 - thd)),Mn.rat N ((z11 - thd:Int):Rat),Mn.rat N (se*((z11 - thd:Int):Rat)),Mn.rat N (((z00:Int):Rat)+fi*((thd - z00:Int):Rat)+se*((z11 - thd:Int):Rat)),Mn.any,Mn.any] [some 126,some 127,some 128,some 129,some 130,some 131,some 132,some 133,some 134,some 135,some 136,some 137,some 138,none,some 7] [13,14] [true,true,true,true,true,true,true,true,true,true,true,true,true,false,false] 2 (by kernel_rfl) ?_ ?_
     ·show ∀ i,i < 15→_
      iterate 15 refine fs ?_ ?_
      ·exact fz
      all_goals intro hl
      all_goals first | exact absurd hl (by decide) | skip
      all_goals clear hl
      all_goals refine stp rfl ?_
      all_goals intro ac wi eI hB hA K hK
      have o24:=oOf (hB 24 (by kernel_rfl)) rfl;clear hB hA;have cc0:=eI.cell x0;have cc1:=eI.cell x1;have cc2:=eI.cell x2;have cc3:=eI.cell x3
      ·go_simp;exact hK.out _ _ (Ext.refl _) (hRx.ext eI)
      have o22:=oOf (hB 22 (by kernel_rfl)) rfl;clear hB hA;have cc0:=eI.cell y0;have cc1:=eI.cell y1;have cc2:=eI.cell y2;have cc3:=eI.cell y3
      ·go_simp;exact hK.out _ _ (Ext.refl _) (hRy.ext eI)
      have o13:=oOf (hB 13 (by kernel_rfl)) rfl
      rotate_left
      have o15:=oOf (hB 15 (by kernel_rfl)) rfl
      rotate_left
      obtain⟨_,s129,rfl⟩:=hA 3 (by kernel_rfl) 129 rfl
      rotate_left
      have o17:=oOf (hB 17 (by kernel_rfl)) rfl
      rotate_left
      obtain⟨_,s131,rfl⟩:=hA 5 (by kernel_rfl) 131 rfl
      rotate_left
      obtain⟨_,s128,rfl⟩:=hA 2 (by kernel_rfl) 128 rfl;obtain⟨_,s130,rfl⟩:=hA 4 (by kernel_rfl) 130 rfl;obtain⟨_,s132,rfl⟩:=hA 6 (by kernel_rfl) 132 rfl;clear hB hA
      ·go_simp;refine (HZ11.out.v (hE8.trans eI)).mono ?_;rintro e wj ⟨rfl,ej⟩;go_wp2_with fail;exact hK.out _ _ ej rfl
      have o20:=oOf (hB 20 (by kernel_rfl)) rfl
      rotate_left
      obtain⟨_,s133,rfl⟩:=hA 7 (by kernel_rfl) 133 rfl;obtain⟨_,s134,rfl⟩:=hA 8 (by kernel_rfl) 134 rfl
      rotate_left
      obtain⟨_,s135,rfl⟩:=hA 9 (by kernel_rfl) 135 rfl;clear hB hA
      ·go_simp;refine (o_whole (Nat.le_trans hNH eI.size) (z11 - thd) (by omega) (by omega)).mono ?_;rintro e wj ⟨vj,rfl,hj,ej⟩;go_wp2_with fail;exact hK.out _ _ ej hj
      obtain⟨x127,s127,j127⟩:=hA 1 (by kernel_rfl) 127 rfl;replace j127:Mn.p (Mn.rat N (se)) x127 wi:=j127;obtain⟨x136,s136,j136⟩:=hA 10 (by kernel_rfl) 136 rfl;replace j136:Mn.p (Mn.rat N ((z11 - thd:Int):Rat)) x136 wi:=j136;clear hB hA
      ·go_simp;refine (o_mul j127 j136 HF2.out (sz_int (by omega))).mono ?_;rintro e wj ⟨vj,rfl,hj,ej⟩;go_wp2_with fail;exact hK.out _ _ ej hj
      obtain⟨x126,s126,j126⟩:=hA 0 (by kernel_rfl) 126 rfl;replace j126:Mn.p (Mn.rat N (((z00:Int):Rat)+fi*((thd - z00:Int):Rat))) x126 wi:=j126;obtain⟨x137,s137,j137⟩:=hA 11 (by kernel_rfl) 137 rfl;replace j137:Mn.p (Mn.rat N (se*((z11 - thd:Int):Rat))) x137 wi:=j137;clear hB hA
      ·go_simp;refine (o_add j126 j137 HP3.out HP2.out).mono ?_;rintro e wj ⟨vj,rfl,hj,ej⟩;go_wp2_with fail;exact hK.out _ _ ej hj
      all_goals clear hB hA
      all_goals go_simp
      all_goals exact hK.out _ _ (Ext.refl _) rfl
     intro vals wz eZ hJ;have J138:Mn.p (Mn.rat N (((z00:Int):Rat)+fi*((thd - z00:Int):Rat)+se*((z11 - thd:Int):Rat))) (vals 12) wz:=hJ 12 (by decide) (by decide);clear hJ;simp only [pr,Nat.reduceAdd]
     generalize vals 12=z138 at J138 ⊢
     obtain⟨bz,Az,kz,cz,Az',kz',cz',rfl,hbz,gz1,gz2⟩:=RatV.parts J138;replace hBRH:=eZ.block hBRH;clear u0 u1 u2 u3 u4 u5 u6 u7;obtain⟨u0,u1,u2,u3,u4,u5,u6,u7⟩:=cells4 hBRH;refine stepL_late (i:=13) rfl (by kernel_rfl) (by kernel_rfl) (fun K hK=>?_);go_simp;refine hK.out _ _ ?_;clear hK K;try simp only [nr]
     refine stepL_late (i:=14) rfl (by kernel_rfl) (by kernel_rfl) (fun K hK=>?_);go_simp;refine hK.out _ _ ?_;clear hK K;try simp only [nr]
     refine stepL_done (by kernel_rfl) ?_ _;obtain⟨wR,ER,FR,UR⟩:=ex4 hBRH (.bool bz) (.slice Az kz cz) (.bool false) (.slice Az' kz' cz');rw [ER];have hTR:=NoU.mk hBRH (by decide);obtain⟨v0,v1,v2,v3,-⟩:=cells4 FR;have hEF:Ext w wR:=UR.ext ((hE.trans hEw8).trans eZ) (by omega);have hRR:RatV N wR _ _:=RatV.mk hbz (gz1.upd UR (by omega) hTR) (gz2.upd UR (by omega) hTR);go_wp2;refine bodyPost_ret (v:=.tuple #[.agg #[.bool bz,.slice Az kz cz,.bool false,.slice Az' kz' cz'],.bool true]) ?_ rfl ?_
     ·simp [results,Tryz.results51,v0,v1,v2,v3,go_sem]
     rw [HR.out];exact⟨_,rfl,hRR,hEF⟩
def RatW (N:Nat) (w:World) (v:Value) (q:Rat):Prop:=RatV N w v q∨(v=nilRat∧q=0∧N≤w.heap.size)
theorem RatV.w {N:Nat} {w:World} {v:Value} {q:Rat} (h:RatV N w v q):RatW N w v q:=.inl h
theorem RatW.nil {N:Nat} {w:World} (h:N≤w.heap.size):RatW N w nilRat 0:=.inr ⟨rfl,rfl,h⟩
theorem RatW.ext {N:Nat} {w w':World} {v:Value} {q:Rat} (h:RatW N w v q) (e:Ext w w'):RatW N w' v q:=by
 rcases h with h | ⟨h1,h2,h3⟩
 ·exact .inl (h.ext e)
 ·exact .inr ⟨h1,h2,Nat.le_trans h3 e.size⟩
theorem RatW.le {N:Nat} {w:World} {v:Value} {q:Rat} (h:RatW N w v q):N≤w.heap.size:=by
 rcases h with h | ⟨-,-,h⟩
 ·exact h.le
 ·exact h
theorem RatW.parts {N:Nat} {w:World} {v:Value} {q:Rat} (h:RatW N w v q):∃ (b:Bool) (A:Option Addr) (n c:Nat) (A':Option Addr) (n' c':Nat),v=.agg #[.bool b,.slice A n c,.bool false,.slice A' n' c']∧True∧True∧True:=by
 rcases h with h | ⟨rfl,-,-⟩
 ·obtain⟨b,A,n,c,A',n',c',rfl,-⟩:=h.parts;exact⟨b,A,n,c,A',n',c',rfl,trivial,trivial,trivial⟩
 ·exact⟨false,none,0,0,none,0,0,rfl,trivial,trivial,trivial⟩
theorem nil_raw {N:Nat} {w:World} (h:N≤w.heap.size):RawV N w nilRat ⟨false,[],false,[]⟩:=⟨_,_,rfl,Gs.nil h _ (Nat.zero_le _),Gs.nil h _ (Nat.zero_le _)⟩
theorem nil_ok:okR ⟨false,[],false,[]⟩=false:=by decide
theorem f_valueW {N:Nat} {w:World} {v:Value} {q:Rat} (h:RatW N w v q) (hz:Sz q) :
  Calls Tryz.prog 111 #[v] w (RetR N w q):=by
 rcases h with h | ⟨rfl,rfl,hN⟩
 ·exact f_value h hz
 clear hz;obtain⟨z,hzz⟩:=hid_eq (0:Rat);rw [←hzz.out];have HZ:Hid (((0:Int):Rat)=z):=by rw [Hid,hzz.out]; rfl
 clear hzz;have hI:RawV N w nilRat _:=nil_raw hN;unfold nilRat at hI ⊢;go_enter Tryz.func111,Tryz.ntmps111;go_wp2_with (go_at_call 98; refine Hid.out ?_);refine boxesC2 ?_;intro W hE hsz B0 B1;refine (f_valid (hI.ext hE) (by simp) (by simp)).mono ?_;rintro e w1 ⟨rfl,e1⟩;rw [nil_ok];replace hE:=hE.trans e1;replace B0:=e1.block B0;replace B1:=e1.block B1;go_wp2_with (go_at_call 114; refine Hid.out ?_);refine (f_whole (N:=N) (by have:=hE.size; omega) 0 (by omega) (by omega)).mono ?_;rw [HZ.out];intro e w2 hh;obtain⟨n3,A3,k3,c3,A4,k4,c4,rfl,hb3,g3,g4,e2⟩:=hh.form;replace B1:=e2.block B1;obtain⟨r0,r1,r2,r3,r4,r5,r6,r7⟩:=cells4 B1;go_wp2;exact fin_rat rfl rfl rfl (hE.trans e2) B1 (by omega) hN g3 g4 hb3
theorem f_addW {N:Nat} {w:World} {v v':Value} {x y:Rat} (h:RatW N w v x) (h':RatW N w v' y) (hz:Sz x) (hz':Sz y) :
  Calls Tryz.prog 154 #[v,v'] w (RetR N w (x+y)):=by
 obtain⟨q,hq⟩:=hid_eq (x+y);rw [←hq.out];have HQ:Hid (Rat.divInt (x.num*y.den+y.num*x.den) ((x.den:Int)*y.den)=q):=by rw [Hid,hq.out,add_divInt]
 have L1:Hid (ln (x.num*(y.den:Int)).natAbs≤2000000000):=by rw [Hid,Int.natAbs_mul,Int.natAbs_natCast]; exact ln_prod hz.1 hz'.2
 have L2:Hid (ln (y.num*(x.den:Int)).natAbs≤2000000000):=by rw [Hid,Int.natAbs_mul,Int.natAbs_natCast]; exact ln_prod hz'.1 hz.2
 have L3:Hid (ln ((x.den:Int)*(y.den:Int)).natAbs≤2000000000):=by rw [Hid,Int.natAbs_mul,Int.natAbs_natCast,Int.natAbs_natCast]; exact ln_prod hz.2 hz'.2
 have D0:Hid ((x.den:Int)*(y.den:Int)≠0):=by have h8:=x.den_pos; have h9:=y.den_pos; exact Int.mul_ne_zero (by omega) (by omega)
 clear hq;have hI:=h;have hI':=h';have hN:=h.le;obtain⟨m1,X1,i1,d1,X2,i2,d2,rfl,hm1,gx1,gx2⟩:=h.parts;obtain⟨m2,Y1,i3,d3,Y2,i4,d4,rfl,hm2,gy1,gy2⟩:=h'.parts;have HZ:=Lib.hid hz;have HZ':=Lib.hid hz';clear hz hz' h h' gx1 gx2 gy1 gy2;go_enter Tryz.func154,Tryz.ntmps154;go_wp2;refine boxes3 ?_;intro W hE hsz B0 B1 B2;obtain⟨a0,a1,a2,a3,-⟩:=cells4 B0;obtain⟨b0,b1,b2,b3,-⟩:=cells4 B1
 go_cut [] (fun wx=>∃ n1 A1 k1 c1 A2 k2 c2 n2 A3 k3 c3 A4 k4 c4,Ext w wx∧w.heap.size+2≤wx.heap.size∧wx.heap[w.heap.size]?=some (.cells #[.bool n1,.slice A1 k1 c1,.bool false,.slice A2 k2 c2] 29 (0,0))∧wx.heap[w.heap.size+1]?=some (.cells #[.bool n2,.slice A3 k3 c3,.bool false,.slice A4 k4 c4] 29 (0,0))∧Hid (n1=decide (x.num < 0))∧Hid (n2=decide (y.num < 0))∧Gs N wx (.slice A1 k1 c1) (dg x.num.natAbs)∧Gs N wx (.slice A2 k2 c2) (dg x.den)∧Gs N wx (.slice A3 k3 c3) (dg y.num.natAbs)∧Gs N wx (.slice A4 k4 c4) (dg y.den)∧w.heap.size+3≤wx.heap.size∧wx.heap[w.heap.size+1+1]?=some (.cells #[.bool false,.slice none 0 0,.bool false,.slice none 0 0] 29 (0,0)))
 case first =>
  have eC:=(Ext.refl W).drew
  go_region_with (first
   | (go_at_call_of 111 X1; refine (f_valueW (by exact hI.ext (hE.trans eC)) HZ.out).mono ?_; intro e w1 hh; obtain⟨n1,A1,k1,c1,A2,k2,c2,rfl,hb1,g1,g2,e1⟩:=hh.form; replace eC:=eC.trans e1; have C0:=eC.block B0; have C1:=eC.block B1; obtain⟨p0,p1,p2,p3,p4,p5,p6,p7⟩:=cells4 C0; obtain⟨q0,q1,q2,q3,q4,q5,q6,q7⟩:=cells4 C1)
   | (go_at_call_of 111 Y1; refine (f_valueW (by exact hI'.ext (hE.trans eC)) HZ'.out).mono ?_; intro e w2 hh; obtain⟨n2,A3,k3,c3,A4,k4,c4,rfl,hb2,g3,g4,e2⟩:=hh.form; replace eC:=eC.trans e2; have C0:=eC.block B0; have C1:=eC.block B1; obtain⟨p0,p1,p2,p3,p4,p5,p6,p7⟩:=cells4 C0; obtain⟨q0,q1,q2,q3,q4,q5,q6,q7⟩:=cells4 C1))
  all_goals
   go_wp2_with fail
   go_meet
   obtain⟨w3,E3,D0,U⟩:=ex4 C0 (.bool n1) (.slice A1 k1 c1) (.bool false) (.slice A2 k2 c2);rw [E3];obtain⟨w4,E4,D1,U'⟩:=ex4 (U.blk C1 (by omega)) (.bool n2) (.slice A3 k3 c3) (.bool false) (.slice A4 k4 c4);rw [E4];have hT0:=NoU.mk C0 (by decide);have hT1:=NoU.mk (U.blk C1 (by omega)) (by decide);refine⟨n1,A1,k1,c1,A2,k2,c2,n2,A3,k3,c3,A4,k4,c4,U'.ext (U.ext (hE.trans eC) (Nat.le_refl _)) (by omega),?_,U'.blk D0 (by omega),D1,hb1,hb2,((g1.ext e2).upd U (by omega) hT0).upd U' (by omega) hT1,((g2.ext e2).upd U (by omega) hT0).upd U' (by omega) hT1,(g3.upd U (by omega) hT0).upd U' (by omega) hT1,(g4.upd U (by omega) hT0).upd U' (by omega) hT1,(by rw [U'.size,U.size]; have:=eC.size; omega),U'.blk (U.blk (eC.block B2) (by omega)) (by omega)⟩;rw [U'.size,U.size]; have:=eC.size; omega
 case rest =>
  clear a0 a1 a2 a3 b0 b1 b2 b3 B0 B1 B2 hE hsz hI hI';obtain⟨n1,A1,k1,c1,A2,k2,c2,n2,A3,k3,c3,A4,k4,c4,hE,-,B0,B1,hb1,hb2,g1,g2,g3,g4,hsz,B2⟩:=hcut;obtain⟨a0,a1,a2,a3,-⟩:=cells4 B0;obtain⟨b0,b1,b2,b3,-⟩:=cells4 B1;have eC:=(Ext.refl wc).drew;go_wp2
  go_region_held3 (fun w'=>(w'.cell? ⟨w.heap.size,0,none⟩=some (.bool n1)∧w'.cell? ⟨w.heap.size,1,none⟩=some (.slice A1 k1 c1)∧w'.cell? ⟨w.heap.size,2,none⟩=some (.bool false)∧w'.cell? ⟨w.heap.size,3,none⟩=some (.slice A2 k2 c2))∧(w'.cell? ⟨w.heap.size+1,0,none⟩=some (.bool n2)∧w'.cell? ⟨w.heap.size+1,1,none⟩=some (.slice A3 k3 c3)∧w'.cell? ⟨w.heap.size+1,2,none⟩=some (.bool false)∧w'.cell? ⟨w.heap.size+1,3,none⟩=some (.slice A4 k4 c4)))
   (first | exact⟨⟨a0,a1,a2,a3⟩,⟨b0,b1,b2,b3⟩⟩ | exact⟨⟨eC.cell a0,eC.cell a1,eC.cell a2,eC.cell a3⟩,⟨eC.cell b0,eC.cell b1,eC.cell b2,eC.cell b3⟩⟩ | exact⟨⟨cell_far _ (cell_far _ (cell_far _ (cell_far _ (eC.cell a0) (by omega)) (by omega)) (by omega)) (by omega),cell_far _ (cell_far _ (cell_far _ (cell_far _ (eC.cell a1) (by omega)) (by omega)) (by omega)) (by omega),cell_far _ (cell_far _ (cell_far _ (cell_far _ (eC.cell a2) (by omega)) (by omega)) (by omega)) (by omega),cell_far _ (cell_far _ (cell_far _ (cell_far _ (eC.cell a3) (by omega)) (by omega)) (by omega)) (by omega)⟩,⟨cell_far _ (cell_far _ (cell_far _ (cell_far _ (eC.cell b0) (by omega)) (by omega)) (by omega)) (by omega),cell_far _ (cell_far _ (cell_far _ (cell_far _ (eC.cell b1) (by omega)) (by omega)) (by omega)) (by omega),cell_far _ (cell_far _ (cell_far _ (cell_far _ (eC.cell b2) (by omega)) (by omega)) (by omega)) (by omega),cell_far _ (cell_far _ (cell_far _ (cell_far _ (eC.cell b3) (by omega)) (by omega)) (by omega)) (by omega)⟩⟩)
   (first
    | (go_at_call_of 113 A1; refine (i_mul (by exact num_intV hb1 (g1.ext eC)) (by exact den_intV (g4.ext eC)) (by have:=HZ.out.1; omega) (by rw [Int.natAbs_natCast]; have:=HZ'.out.2; omega)).mono ?_; rintro e w5 ⟨v5,rfl,h5,e5⟩; replace eC:=eC.trans e5)
    | (go_at_call_of 113 A3; refine (i_mul (by exact num_intV hb2 (g3.ext eC)) (by exact den_intV (g2.ext eC)) (by have:=HZ'.out.1; omega) (by rw [Int.natAbs_natCast]; have:=HZ.out.2; omega)).mono ?_; rintro e w6 ⟨v6,rfl,h6,e6⟩; replace eC:=eC.trans e6)
    | (go_at_call_of 113 A2; refine (i_mul (by exact den_intV (g2.ext eC)) (by exact den_intV (g4.ext eC)) (by rw [Int.natAbs_natCast]; have:=HZ.out.2; omega) (by rw [Int.natAbs_natCast]; have:=HZ'.out.2; omega)).mono ?_; rintro e w9 ⟨v9,rfl,h9,e9⟩; replace eC:=eC.trans e9)
    | (go_at_call 201; refine (i_add (by exact h5.ext e6) (by exact h6) (by have:=L1.out; omega) (by have:=L2.out; omega)).mono ?_; rintro e w7 ⟨v7,rfl,h7,e7⟩; replace eC:=eC.trans e7)
    | (go_at_call 199; refine (f_reduced (by exact h7.ext e9) (by exact h9) D0.out (Nat.le_trans (ln_sum2 L1.out L2.out) (by omega)) (by have:=L3.out; omega)).mono ?_; rw [HQ.out]; intro e w10 hh; obtain⟨n10,A10,k10,c10,A11,k11,c11,rfl,hb10,h10,h11,e10⟩:=hh.form; replace eC:=eC.trans e10; obtain⟨r0,r1,r2,r3,r4,r5,r6,r7⟩:=cells4 (eC.block B2)))
  go_wp2;exact fin_rat rfl rfl rfl (hE.trans eC) (eC.block B2) (by omega) hN h10 h11 hb10
theorem f_subW {N:Nat} {w:World} {v v':Value} {x y:Rat} (h:RatW N w v x) (h':RatV N w v' y) (hz:Sz x) (hz':Sz y) :
  Calls Tryz.prog 153 #[v,v'] w (RetR N w (x - y)):=by
 obtain⟨q,hq⟩:=hid_eq (x - y);rw [←hq.out];have HQ:Hid (x + -y=q):=by rw [Hid,hq.out,Rat.sub_eq_add_neg]
 clear hq;have hI:=h;have hI':=h';have hN:=h.le;obtain⟨m1,X1,i1,d1,X2,i2,d2,rfl,hm1,gx1,gx2⟩:=h.parts;obtain⟨m2,Y1,i3,d3,Y2,i4,d4,rfl,hm2,gy1,gy2⟩:=h'.parts;have HZ:=Lib.hid hz;have HZ':=Lib.hid hz';clear hz hz' h h' gx1 gx2 gy1 gy2;go_enter Tryz.func153,Tryz.ntmps153;go_wp2;refine boxes3 ?_;intro W hE hsz B0 B1 B2;obtain⟨a0,a1,a2,a3,-⟩:=cells4 B0;obtain⟨b0,b1,b2,b3,-⟩:=cells4 B1;have eC:=(Ext.refl W).drew
 go_region_held3 (fun w'=>(w'.cell? ⟨w.heap.size,0,none⟩=some (.bool m1)∧w'.cell? ⟨w.heap.size,1,none⟩=some (.slice X1 i1 d1)∧w'.cell? ⟨w.heap.size,2,none⟩=some (.bool false)∧w'.cell? ⟨w.heap.size,3,none⟩=some (.slice X2 i2 d2))∧(w'.cell? ⟨w.heap.size+1,0,none⟩=some (.bool m2)∧w'.cell? ⟨w.heap.size+1,1,none⟩=some (.slice Y1 i3 d3)∧w'.cell? ⟨w.heap.size+1,2,none⟩=some (.bool false)∧w'.cell? ⟨w.heap.size+1,3,none⟩=some (.slice Y2 i4 d4)))
  (first | exact⟨⟨a0,a1,a2,a3⟩,⟨b0,b1,b2,b3⟩⟩ | exact⟨⟨eC.cell a0,eC.cell a1,eC.cell a2,eC.cell a3⟩,⟨eC.cell b0,eC.cell b1,eC.cell b2,eC.cell b3⟩⟩ | exact⟨⟨cell_far _ (cell_far _ (cell_far _ (cell_far _ (eC.cell a0) (by omega)) (by omega)) (by omega)) (by omega),cell_far _ (cell_far _ (cell_far _ (cell_far _ (eC.cell a1) (by omega)) (by omega)) (by omega)) (by omega),cell_far _ (cell_far _ (cell_far _ (cell_far _ (eC.cell a2) (by omega)) (by omega)) (by omega)) (by omega),cell_far _ (cell_far _ (cell_far _ (cell_far _ (eC.cell a3) (by omega)) (by omega)) (by omega)) (by omega)⟩,⟨cell_far _ (cell_far _ (cell_far _ (cell_far _ (eC.cell b0) (by omega)) (by omega)) (by omega)) (by omega),cell_far _ (cell_far _ (cell_far _ (cell_far _ (eC.cell b1) (by omega)) (by omega)) (by omega)) (by omega),cell_far _ (cell_far _ (cell_far _ (cell_far _ (eC.cell b2) (by omega)) (by omega)) (by omega)) (by omega),cell_far _ (cell_far _ (cell_far _ (cell_far _ (eC.cell b3) (by omega)) (by omega)) (by omega)) (by omega)⟩⟩)
  (first
   | (go_at_call 200; refine (f_neg (by exact hI'.ext (hE.trans eC)) HZ'.out).mono ?_; rintro e w5 ⟨v5,rfl,h5,e5⟩; replace eC:=eC.trans e5)
   | (go_at_call 154; refine (f_addW (by exact hI.ext (hE.trans eC)) (by exact h5.w) HZ.out HZ'.out.neg).mono ?_; rw [HQ.out]; intro e w7 hh; obtain⟨n7,A7,k7,c7,A8,k8,c8,rfl,hb7,h7,h8,e7⟩:=hh.form; replace eC:=eC.trans e7; obtain⟨r0,r1,r2,r3,r4,r5,r6,r7⟩:=cells4 (eC.block B2)))
 go_wp2;exact fin_rat rfl rfl rfl (hE.trans eC) (eC.block B2) (by omega) hN h7 h8 hb7
theorem o_subW {N:Nat} {w:World} {v v':Value} {x y:Rat} (h:RatW N w v x) (h':RatV N w v' y) (hz:Sz x) (hz':Sz y) :
  Calls Tryz.prog 101 #[v,v'] w (RetR N w (x - y)):=by
 obtain⟨q,hq⟩:=hid_eq (x - y);rw [←hq.out];have hN:=h.le;have hI:=h;have hI':=h';have HZ:=Lib.hid hz;have HZ':=Lib.hid hz';obtain⟨m1,X1,i1,d1,X2,i2,d2,rfl,hm1,gx1,gx2⟩:=h.parts;obtain⟨m2,Y1,i3,d3,Y2,i4,d4,rfl,hm2,gy1,gy2⟩:=h'.parts;clear hz hz' h h' gx1 gx2 gy1 gy2;go_enter Tryz.func101,Tryz.ntmps101;go_wp2_with (go_at_call 153; refine Hid.out ?_);refine boxesC3 ?_;intro W hE hsz B0 B1 B2;refine (f_subW (hI.ext hE) (hI'.ext hE) HZ.out HZ'.out).mono ?_;rw [←hq.out];intro e w1 hh;obtain⟨n3,A3,k3,c3,A4,k4,c4,rfl,hb3,g3,g4,e1⟩:=hh.form;replace hE:=hE.trans e1;replace B2:=e1.block B2;obtain⟨t0,t1,t2,t3,t4,t5,t6,t7⟩:=cells4 B2;go_wp2;exact fin_rat rfl rfl rfl hE B2 (by omega) hN g3 g4 hb3
end Go.Proofs.YtphpkhoeplcedaaGreat
namespace Go.Proofs.YtphpkhoeplcedaaGreat
theorem flo_floor (x:Rat):flo x=x.floor:=by
 rw [Rat.floor_def];unfold flo divF;have hd:0 < x.den:=x.den_pos;have h0:decide ((x.den:Int) < 0)=false:=decide_eq_false (by omega);rw [h0]
 by_cases hx:x.num < 0
 ·rw [if_neg (by rw [decide_eq_true hx]; decide)];obtain⟨n,hn⟩:∃ n:Nat,x.num = -(n:Int):=⟨x.num.natAbs,by omega⟩
  rw [hn,Int.neg_ediv,Int.natAbs_neg,Int.natAbs_natCast,Int.natAbs_natCast]
  by_cases hm:n % x.den=0
  ·rw [if_pos hm,if_pos (Int.natCast_dvd_natCast.2 (Nat.dvd_of_mod_eq_zero hm))]
   simp
  ·rw [if_neg hm,if_neg (fun h=>hm (Nat.mod_eq_zero_of_dvd (Int.natCast_dvd_natCast.1 h))),Int.sign_eq_one_of_pos (by omega)]
   simp
 ·rw [if_pos (by rw [decide_eq_false hx])];obtain⟨n,hn⟩:∃ n:Nat,x.num=(n:Int):=⟨x.num.natAbs,by omega⟩
  rw [hn,Int.natAbs_natCast,Int.natAbs_natCast]
  simp
theorem flo_le (x:Rat):(flo x:Rat)≤x:=by rw [flo_floor]; exact Rat.floor_le x
theorem lt_flo (x:Rat):x < (flo x:Rat)+1:=by
 have h:=Rat.lt_floor_add_one x;rw [flo_floor];simpa [Rat.intCast_add] using h
theorem flo_of {x:Rat} {k:Int} (h0:(k:Rat)≤x) (h1:x < (k:Rat)+1):flo x=k:=by
 rw [flo_floor];have h2:k≤x.floor:=Rat.le_floor_iff.2 h0;have h3:x.floor < k+1:=Rat.floor_lt_iff.2 (by simpa [Rat.intCast_add] using h1);omega
theorem num_sign0 {x:Rat}:x.num.sign=0↔x=0:=by
 rw [Int.sign_eq_zero_iff_zero,Rat.num_eq_zero]
theorem cel_iff {X:Rat} {n i:Int} {a:Rat}:(i,a)∈celL X n↔0≤i∧i < n - 1∧(i:Rat)≤X∧X≤(i:Rat)+1∧a=X - (i:Rat):=by
 have hl:=flo_le X;have hu:=lt_flo X;unfold celL;rw [List.mem_append]
 constructor
 ·rintro (h | h)
  ·unfold cel1 at h
   split at h
   ·rename_i hc
    rw [List.mem_singleton] at h;injection h with h1 h2
    subst h1 h2;exact⟨hc.1,hc.2,hl,by grind,rfl⟩
   ·cases h
  ·unfold cel2 at h
   split at h
   ·rename_i hc
    rw [List.mem_singleton] at h;injection h with h1 h2
    have h3:=num_sign0.1 hc.1;subst h1 h2;have h4:((flo X - 1:Int):Rat)=(flo X:Rat) - 1:=by rw [Rat.intCast_sub]; rfl
    have h5:((1:Int):Rat)=1:=rfl;refine⟨by omega,by omega,?_,?_,?_⟩ <;> rw [h4] <;> grind
   ·cases h
 ·rintro⟨h0,h1,h2,h3,rfl⟩
  by_cases hlt:X < (i:Rat)+1
  ·have hf:=flo_of h2 hlt
   left
   unfold cel1;rw [hf,if_pos ⟨h0,h1⟩];exact List.mem_singleton.2 rfl
  ·right
   have hX:X=((i+1:Int):Rat):=by rw [Rat.intCast_add]; show X=(i:Rat)+1; grind
   have hf:flo X=i+1:=by rw [flo_floor,hX,Rat.floor_intCast]
   unfold cel2;rw [hf,if_pos ⟨by rw [hX,num_sign0]; grind,by omega,by omega⟩];refine List.mem_singleton.2 ?_;rw [show i+1 - 1=i by omega,hX,Rat.intCast_add]
   congr 1
   grind
theorem cmp_nonneg {x y:Rat}:0≤cmpQ x y↔y≤x:=by
 unfold cmpQ;rw [Rat.le_iff]
 constructor
 ·intro h
  rcases Int.lt_trichotomy (x.num*y.den - y.num*x.den) 0 with h1 | h1 | h1
  ·rw [Int.sign_eq_neg_one_of_neg h1] at h; omega
  ·omega
  ·omega
 ·intro h
  rcases Int.lt_trichotomy (x.num*y.den - y.num*x.den) 0 with h1 | h1 | h1
  ·omega
  ·rw [h1]; decide
  ·rw [Int.sign_eq_one_of_pos h1]; omega
theorem cmp_nonpos {x y:Rat}:0≤-(cmpQ x y)↔x≤y:=by
 unfold cmpQ;rw [Rat.le_iff]
 constructor
 ·intro h
  rcases Int.lt_trichotomy (x.num*y.den - y.num*x.den) 0 with h1 | h1 | h1
  ·omega
  ·omega
  ·rw [Int.sign_eq_one_of_pos h1] at h; omega
 ·intro h
  rcases Int.lt_trichotomy (x.num*y.den - y.num*x.den) 0 with h1 | h1 | h1
  ·rw [Int.sign_eq_neg_one_of_neg h1]; decide
  ·rw [h1]; decide
  ·omega
structure InT (G:Grd) (X Y:Rat) (i j:Int) (r:Nat):Prop where
 i0:0≤i
 i1:i < G.wd - 1
 j0:0≤j
 j1:j < G.ht - 1
 a0:(i:Rat)≤X
 a1:X≤(i:Rat)+1
 b0:(j:Rat)≤Y
 b1:Y≤(j:Rat)+1
 d0:r=0→Y - (j:Rat)≤X - (i:Rat)
 d1:r=1→X - (i:Rat)≤Y - (j:Rat)
 z0:zAt G i j≠noneZ
 z1:thR G i j r≠noneZ
 z2:zAt G (i+1) (j+1)≠noneZ
def plT (G:Grd) (X Y:Rat) (i j:Int) (r:Nat):Rat :=
 ((zAt G i j:Int):Rat)+fiR (X - i) (Y - j) r*((thR G i j r - zAt G i j:Int):Rat)+seR (X - i) (Y - j) r*((zAt G (i+1) (j+1) - thR G i j r:Int):Rat)
def Surf (G:Grd) (X Y h:Rat):Prop:=∃ i j r,r < 2∧InT G X Y i j r∧plT G X Y i j r=h
theorem tri_iff {G:Grd} {X Y:Rat} {i j:Int} {r:Nat} (hr:r < 2) {h:Rat} (hi:(i,X - (i:Rat))∈celL X G.wd) (hj:(j,Y - (j:Rat))∈celL Y G.ht) :
  triF G i j (X - i) (Y - j) r=some h↔InT G X Y i j r∧plT G X Y i j r=h:=by
 obtain⟨i0,i1,a0,a1,-⟩:=cel_iff.1 hi;obtain⟨j0,j1,b0,b1,-⟩:=cel_iff.1 hj
 have hord:0≤orR (X - i) (Y - j) r↔(r=0→Y - (j:Rat)≤X - (i:Rat))∧(r=1→X - (i:Rat)≤Y - (j:Rat)):=by
  unfold orR;have hr':r=0∨r=1:=by omega
  rcases hr' with rfl | rfl
  ·rw [if_neg (by omega),cmp_nonneg]; simp
  ·rw [if_pos rfl,cmp_nonpos]; simp
 unfold triF plT
 constructor
 ·intro h
  split at h
  ·rename_i hc
   injection h with h
   exact⟨⟨i0,i1,j0,j1,a0,a1,b0,b1,(hord.1 hc.1).1,(hord.1 hc.1).2,hc.2.1,hc.2.2.1,hc.2.2.2⟩,h⟩
  ·cases h
 ·rintro⟨hc,h⟩;rw [if_pos ⟨hord.2 ⟨hc.d0,hc.d1⟩,hc.z0,hc.z1,hc.z2⟩,h]
theorem zc_sub (a b:Int):((a - b:Int):Rat)=(a:Rat) - (b:Rat):=Rat.intCast_sub a b
theorem zc_add1 (a:Int):((a+1:Int):Rat)=(a:Rat)+1:=by rw [Rat.intCast_add]; rfl
theorem pl0 (G:Grd) (X Y:Rat) (i j:Int):plT G X Y i j 0=(zAt G i j:Rat)+(X - i)*((zAt G (i+1) j:Rat) - (zAt G i j:Rat))+(Y - j)*((zAt G (i+1) (j+1):Rat) - (zAt G (i+1) j:Rat)):=by
 unfold plT fiR seR thR;simp only [if_true,zc_sub]
theorem pl1 (G:Grd) (X Y:Rat) (i j:Int):plT G X Y i j 1=(zAt G i j:Rat)+(Y - j)*((zAt G i (j+1):Rat) - (zAt G i j:Rat))+(X - i)*((zAt G (i+1) (j+1):Rat) - (zAt G i (j+1):Rat)):=by
 unfold plT fiR seR thR;simp only [if_neg (show ¬ (1:Nat)=0 by omega),zc_sub]
theorem adj {i i':Int} {X:Rat} (h0:(i:Rat)≤X) (h1:X≤(i:Rat)+1) (h2:(i':Rat)≤X) (h3:X≤(i':Rat)+1):i'=i∨(i'=i+1∧X=(i:Rat)+1)∨(i=i'+1∧X=(i':Rat)+1):=by
 have k1:i'≤i+1:=by
  have:(i':Rat)≤((i+1:Int):Rat):=by rw [zc_add1]; grind
  exact Rat.intCast_le_intCast.1 this
 have k2:i≤i'+1:=by
  have:(i:Rat)≤((i'+1:Int):Rat):=by rw [zc_add1]; grind
  exact Rat.intCast_le_intCast.1 this
 have hc:i'=i∨i'=i+1∨i=i'+1:=by omega
 rcases hc with h | h | h
 ·exact .inl h
 ·subst h; rw [zc_add1] at h2; exact .inr (.inl ⟨rfl,by grind⟩)
 ·subst h; rw [zc_add1] at h0; exact .inr (.inr ⟨rfl,by grind⟩)
theorem plT_same {G:Grd} {X Y:Rat} {i j i' j':Int} {r r':Nat} (hr:r < 2) (hr':r' < 2) (h:InT G X Y i j r) (h':InT G X Y i' j' r'):plT G X Y i j r=plT G X Y i' j' r':=by
 have e1:=adj h.a0 h.a1 h'.a0 h'.a1;have e2:=adj h.b0 h.b1 h'.b0 h'.b1;have d0:=h.d0;have d1:=h.d1;have d0':=h'.d0;have d1':=h'.d1;have r0:r=0∨r=1:=by omega
 have r1:r'=0∨r'=1:=by omega
 have a0:=h.a0;have a1:=h.a1;have b0:=h.b0;have b1:=h.b1;clear h h' hr hr';have q1:Y - (j:Rat)=X - (i:Rat)∨Y - (j:Rat) < X - (i:Rat)∨X - (i:Rat) < Y - (j:Rat):=by grind
 have q2:Y - (j':Rat)=X - (i':Rat)∨Y - (j':Rat) < X - (i':Rat)∨X - (i':Rat) < Y - (j':Rat):=by grind
 have q3:X=(i:Rat)∨(i:Rat) < X:=by grind
 have q4:Y=(j:Rat)∨(j:Rat) < Y:=by grind
 have q5:X=(i:Rat)+1∨X < (i:Rat)+1:=by grind
 have q6:Y=(j:Rat)+1∨Y < (j:Rat)+1:=by grind
 rcases e1 with rfl | ⟨rfl,hX⟩ | ⟨rfl,hX⟩ <;> rcases e2 with rfl | ⟨rfl,hY⟩ | ⟨rfl,hY⟩ <;> rcases r0 with rfl | rfl <;> rcases r1 with rfl | rfl <;> simp only [pl0,pl1,zc_add1,forall_const,Nat.zero_ne_one,Nat.one_ne_zero,true_imp_iff,reduceCtorEq,false_imp_iff] at * <;> grind
theorem surf_unique {G:Grd} {X Y h h':Rat} (k:Surf G X Y h) (k':Surf G X Y h'):h=h':=by
 obtain⟨i,j,r,hr,ht,rfl⟩:=k;obtain⟨i',j',r',hr',ht',rfl⟩:=k';exact plT_same hr hr' ht ht'
theorem sq_iff {G:Grd} {X Y:Rat} {i j:Int} {h:Rat} (hi:(i,X - (i:Rat))∈celL X G.wd) (hj:(j,Y - (j:Rat))∈celL Y G.ht) (hs:sqF G (i,X - (i:Rat)) (j,Y - (j:Rat))=some h):Surf G X Y h:=by
 unfold sqF at hs;cases h0:triF G i j (X - i) (Y - j) 0 with
 | some q =>
  rw [show triF G (i,X - (i:Rat)).1 (j,Y - (j:Rat)).1 (i,X - (i:Rat)).2 (j,Y - (j:Rat)).2 0=some q from h0] at hs;obtain rfl:q=h:=by simpa using hs
  have:=(tri_iff (by omega) hi hj).1 h0;exact⟨i,j,0,by omega,this.1,this.2⟩
 | none =>
  rw [show triF G (i,X - (i:Rat)).1 (j,Y - (j:Rat)).1 (i,X - (i:Rat)).2 (j,Y - (j:Rat)).2 0=none from h0] at hs;have h1:triF G i j (X - i) (Y - j) 1=some h:=by simpa using hs
  have:=(tri_iff (by omega) hi hj).1 h1;exact⟨i,j,1,by omega,this.1,this.2⟩
theorem hgt_surf {G:Grd} {x y h:Rat} (hh:hgtF G x y=some h):Surf G (stepF x G.x0 G.st) (stepF y G.y0 G.st) h:=by
 unfold hgtF gridF at hh;obtain⟨⟨i,a⟩,hi,hh⟩:=List.exists_of_findSome?_eq_some hh;unfold rowF at hh;obtain⟨⟨j,b⟩,hj,hh⟩:=List.exists_of_findSome?_eq_some hh;have h1:=(cel_iff.1 hi).2.2.2.2;have h2:=(cel_iff.1 hj).2.2.2.2;subst h1 h2;exact sq_iff hi hj hh
theorem surf_hgt {G:Grd} {x y h:Rat} (k:Surf G (stepF x G.x0 G.st) (stepF y G.y0 G.st) h):hgtF G x y=some h:=by
 cases hh:hgtF G x y with
 | some q=>rw [surf_unique (hgt_surf hh) k]
 | none =>
  exfalso
  obtain⟨i,j,r,hr,ht,-⟩:=k;unfold hgtF gridF at hh;have hi:=cel_iff.2 ⟨ht.i0,ht.i1,ht.a0,ht.a1,rfl⟩;have hj:=cel_iff.2 ⟨ht.j0,ht.j1,ht.b0,ht.b1,rfl⟩;have h1:=List.findSome?_eq_none_iff.1 hh _ hi;unfold rowF at h1;have h2:=List.findSome?_eq_none_iff.1 h1 _ hj;unfold sqF at h2;have h3:=(tri_iff hr hi hj).2 ⟨ht,rfl⟩;have hr':r=0∨r=1:=by omega
  rcases hr' with rfl | rfl
  ·simp only [h3] at h2;cases h2
  ·rcases hq:triF G i j (stepF x G.x0 G.st - i) (stepF y G.y0 G.st - j) 0 with _ | q
   ·simp only [hq,h3] at h2;cases h2
   ·simp only [hq] at h2;cases h2
theorem hgt_none {G:Grd} {x y:Rat}:hgtF G x y=none↔∀ h,¬ Surf G (stepF x G.x0 G.st) (stepF y G.y0 G.st) h:=by
 constructor
 ·intro h k hk;rw [surf_hgt hk] at h;cases h
 ·intro h;cases hh:hgtF G x y with
  | some q=>exact absurd (hgt_surf hh) (h q)
  | none=>rfl
end Go.Proofs.YtphpkhoeplcedaaGreat
