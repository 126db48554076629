import Derived.Test.YtphpkhoeplcedaaGreatWb19
set_option linter.all false
set_option maxHeartbeats 8000000
set_option maxRecDepth 100000
namespace Go.Proofs.YtphpkhoeplcedaaGreat
open Go.RowKit
variable {w w':World} {N n lo hi g b K:Nat} {G:Grd} {x:Rat} {z:Int}
def G49:Grd:=⟨0,0,2,3,2,6,fun k=>if k=1\/k=4 then 6 else 0⟩
def sp3 (x y z:Int) (i:Nat):Rat:=if i=0 then (x:Rat) else if i=1 then (y:Rat) else (z:Rat)
theorem vF:zC G49=0:=by decide
theorem q1D (x:Rat):sx G49 x=x / 2:=by
 show (x - ((0:Int):Rat)) / ((2:Int):Rat)=x / 2
 have h0:((0:Int):Rat)=0:=rfl;have h2:((2:Int):Rat)=2:=rfl;rw [h0,h2]
 grind
theorem q02:sy G49 0=0:=by decide +kernel
theorem g49_a:Jd G49 1 0=some 3:=by
 refine ZI ⟨0,0,0,by omega,⟨by decide,by decide,by decide,by decide,?_,?_,?_,?_,?_,?_,by decide,by decide,by decide⟩,?_⟩ <;> decide +kernel
theorem g49_b:Jd G49 2 0=some 6:=by
 refine ZI ⟨0,0,0,by omega,⟨by decide,by decide,by decide,by decide,?_,?_,?_,?_,?_,?_,by decide,by decide,by decide⟩,?_⟩ <;> decide +kernel
theorem q3t:¬ clrF G49 (sp3 0 0 0) (sp3 4 0 8):=by
 intro h
 have h1:=h (1 / 2) (by decide +kernel) (by decide +kernel) 2 (by
  unfold exF;rw [show lin (sp3 0 0 0 0) (sp3 4 0 8 0) (1 / 2)=2 by decide +kernel,show lin (sp3 0 0 0 1) (sp3 4 0 8 1) (1 / 2)=0 by decide +kernel,g49_b]
  decide +kernel)
 exact absurd h1 (by decide +kernel)
theorem q4D {X h:Rat} (hs:q3K G49 X 0 h) (h0:0<=X):h<=6*X:=by
 obtain⟨i,j,r,hr,hI,hp⟩:=hs;have i0:=hI.i0;have i1:=hI.i1;have j0:=hI.j0;have j1:=hI.j1;replace i1:i < 2:=i1;replace j1:j < 1:=j1;obtain rfl:j=0:=by omega
 have hi:i=0\/i=1:=by omega
 have hr':r=0\/r=1:=by omega
 have c0:((0:Int):Rat)=0:=rfl;have c1:((1:Int):Rat)=1:=rfl;have c6:((6:Int):Rat)=6:=rfl;have e00:zAt G49 0 0=0:=by decide
 have e10:zAt G49 1 0=6:=by decide
 have e20:zAt G49 2 0=0:=by decide
 have a0:=hI.a0;have d1:=hI.d1
 rcases hr' with rfl | rfl
 ·rw [pl0] at hp
  rcases hi with rfl | rfl
  ·rw [show (0:Int)+1=1 from rfl,e00,e10] at hp
   grind
  ·rw [show (1:Int)+1=2 from rfl,e10,e20] at hp
   grind
 ·rw [pl1] at hp;have d:=d1 rfl
  rcases hi with rfl | rfl
  ·rw [e00] at hp;have:X=0:=by grind
   grind
  ·rw [e10] at hp;have:X=1:=by grind
   rw [this,c1,show (1:Rat) - 1=0 by decide +kernel,show (0:Rat) - ((0:Int):Rat)=0 by decide +kernel,Rat.zero_mul,Rat.zero_mul] at hp
   grind
theorem q3v (t:Rat):¬ q0q G49 (sp3 0 0 0) (sp3 4 0 12) t:=by
 rintro⟨h0,h1,x,hx,h2⟩;unfold exF at hx;rw [Option.map_eq_some_iff] at hx;obtain⟨h,hh,rfl⟩:=hx;have e0:lin (sp3 0 0 0 0) (sp3 4 0 12 0) t=4*t:=by show (0:Rat)+t*(4 - 0)=_; grind
 have e1:lin (sp3 0 0 0 1) (sp3 4 0 12 1) t=0:=by show (0:Rat)+t*(0 - 0)=_; grind
 have e2:lin (sp3 0 0 0 2) (sp3 4 0 12 2) t=12*t:=by show (0:Rat)+t*(12 - 0)=_; grind
 rw [e0,e1] at hh;rw [e2] at h2;have hs:=Qu hh
 have hs':q3K G49 (2*t) 0 h:=by
  have:=hs;rw [show zX (4*t) G49.x0 G49.st=2*t by have:=q1D (4*t); unfold sx at this; rw [this]; grind,show zX 0 G49.y0 G49.st=0 from q02] at this;exact this
 have:=q4D hs' (by grind)
 grind
theorem q2b {x y:Int} (h:4<=K) (hx:0<=x/\x<=15) (hy:0<=y/\y<=15) (hz:0<=z/\z<=15) (i:Nat):Ht K (sp3 x y z i):=by
 unfold sp3
 split
 ·exact (qy (m:=4) (by omega) (by omega)).mono (by omega)
 ·split
  ·exact (qy (m:=4) (by omega) (by omega)).mono (by omega)
  ·exact (qy (m:=4) (by omega) (by omega)).mono (by omega)
theorem q2c {x y:Int} (hx:0<=x/\x<=15) (hy:0<=y/\y<=15) (hz:0<=z/\z<=15) (i:Nat) : -100000000<=sp3 x y z i/\sp3 x y z i<=100000000:=by
 have h:∀ n:Int,0<=n/\n<=15->-100000000<=(n:Rat)/\(n:Rat)<=100000000:=fun n hn=>by
  have h1:((-100000000:Int):Rat)<=(n:Rat):=Rat.intCast_le_intCast.2 (by omega);have h2:(n:Rat)<=((100000000:Int):Rat):=Rat.intCast_le_intCast.2 (by omega);exact⟨h1,h2⟩
 unfold sp3
 split
 ·exact h x hx
 ·split
  ·exact h y hy
  ·exact h z hz
theorem JX {c:Int} (hc:0<=c/\c<=15):SOk G49 4 (sp3 0 0 0) (sp3 4 0 c) :=
 ⟨q2p vF,fun i _=>q2b (by omega) (by omega) (by omega) (by omega) i,fun i _=>q2b (by omega) (by omega) (by omega) hc i,fun i _=>q2c (by omega) (by omega) (by omega) i,fun i _=>q2c (by omega) (by omega) hc i⟩
theorem q1U {a b:Nat->Rat} {t:Rat} (h:q0q G a b t):yK G a b t=0:=by
 obtain⟨h0,h1,x,hx,h2⟩:=h;unfold yK;rw [if_pos ⟨h0,h1⟩,hx]
 show (if 0 < x then (0:Int) else 12)=0
 rw [if_pos h2]
theorem q45 {x y:Int} {x0 x1 x2 x3 y0 y1 y2 y3 z0 z1 z2 z3:Value} (h0:qp N w (.agg #[x0,x1,x2,x3]) (x:Rat)) (h1:qp N w (.agg #[y0,y1,y2,y3]) (y:Rat)) (h2:qp N w (.agg #[z0,z1,z2,z3]) (z:Rat)):PtV N w #[x0,x1,x2,x3,y0,y1,y2,y3,z0,z1,z2,z3] 0 (sp3 x y z):=jk h0 h1 h2
theorem yg (hN:N<=w.heap.size) (x y z:Int) (hx : -1000000000<=x/\x<=1000000000) (hy : -1000000000<=y/\y<=1000000000) (hz : -1000000000<=z/\z<=1000000000) :
  Calls Tryz.prog 25 #[.int .i64 x,.int .i64 y,.int .i64 z] w (q3N N w (sp3 x y z)):=by
 go_enter Tryz.func25,Tryz.ntmps25;go_upto_region 1 with (fail);refine ql ?_;intro W hE hsz B0;refine wp_region_lit ?_;go_wp2_with (go_at_call 45; refine q_o ?_);refine (zA (N:=N) (by omega) x (by omega) (by omega)).mono ?_;rintro e w1 ⟨v,rfl,hv,e1⟩;obtain⟨ba,Aa,ka,ca,A'a,k'a,c'a,rfl,-,-,-⟩:=hv.parts;have hs1:=e1.size;go_wp2_with (go_at_call 45; refine q_o ?_);refine (zA (N:=N) (by omega) y (by omega) (by omega)).mono ?_;rintro e w2 ⟨v,rfl,hv2,e2⟩;obtain⟨bb,Ab,kb,cb,A'b,k'b,c'b,rfl,-,-,-⟩:=hv2.parts;have hs2:=e2.size;go_wp2_with (go_at_call 45; refine q_o ?_);refine (zA (N:=N) (by omega) z (by omega) (by omega)).mono ?_;rintro e w3 ⟨v,rfl,hv3,e3⟩;obtain⟨bd,Ad,kd,cd,A'd,k'd,c'd,rfl,-,-,-⟩:=hv3.parts
 rename_i K9 hK9
 refine hK9 _ _ ?_;clear hK9 K9;try simp only [nr]
 replace hE:=((hE.trans e1).trans e2).trans e3;replace B0:=e3.block (e2.block (e1.block B0));have hPT:=q45 ((hv.ext e2).ext e3) (hv2.ext e3) hv3;clear hv hv2 hv3 e1 e2 e3;refine xA rfl _ _ rfl (l:=[(0,.agg #[.bool ba,.slice Aa ka ca,.bool false,.slice A'a k'a c'a]),(1,.agg #[.bool bb,.slice Ab kb cb,.bool false,.slice A'b k'b c'b]),(2,.agg #[.bool bd,.slice Ad kd cd,.bool false,.slice A'd k'd c'd])]) (by simp only [List.map_toArray,List.map_cons,List.map_nil]; rfl) (q1T _ _ _ _ _ _ _ _ _ _ _ _) ?_;obtain⟨cs,hcs⟩:=qf (#[.bool ba,.slice Aa ka ca,.bool false,.slice A'a k'a c'a,.bool bb,.slice Ab kb cb,.bool false,.slice A'b k'b c'b,.bool bd,.slice Ad kd cd,.bool false,.slice A'd k'd c'd]:Array Value);have k1:cs.size=12:=by rw [hcs.out]; rfl
 have k2:cs.toList.all (·.oneCell')=true:=by rw [hcs.out]; rfl
 rw [<-hcs.out] at hPT ⊢;have KK:=q_h k1;clear hcs k1;refine zk rfl 43 _ _ rfl (by rfl) (by rfl) B0 kJ KK.out (Eq.trans ((by rfl:Array.size _=12)) (Eq.symm (KK.out))) k2 ?_;try simp only [nr]
 intro w4 D4 U4;have C4:=U4.chg (NoU.mk B0 (by decide));have HF:Hid (q3N N w (sp3 x y z) (.returned (.agg cs)) w4):=⟨cs,rfl,KK.out,k2,fun i hi=>(hPT i hi).chg C4 (by omega),U4.ext hE (by omega)⟩
 have hz:(Tryz.prog.info? 43).map (·.size)=some cs.size:=by rw [KK.out]; exact kJ
 clear hPT U4 C4 B0 k2;refine wpList_nil ?_;go_wp2;exact bodyPost_ret (results_cell_row rfl _ _ _ _ _ _ _ rfl D4 Tryz.underlying43 rfl hz) rfl HF.out
def Mn.pl (N:Nat) (x y:Rat):Mn:=⟨fun v w=>PlV N w v (raw x) (raw y),fun e h=>by
 obtain⟨x0,x1,x2,x3,y0,y1,y2,y3,h0,h1,h2⟩:=h
 exact⟨x0,x1,x2,x3,y0,y1,y2,y3,h0,h1.ext e,h2.ext e⟩⟩
def Mn.bl (N:Nat) (G:Grd) (a b:Nat->Rat) (K:Nat):Mn:=⟨fun v w=>∃ u t,v=.tuple #[.bool false,u,.int .i64 0]/\qp N w u t/\Ht K t/\q0q G a b t,fun e h=>by
 obtain⟨u,t,h0,h1,h2⟩:=h
 exact⟨u,t,h0,h1.ext e,h2⟩⟩
def Mn.blt (N:Nat) (G:Grd) (a b:Nat->Rat) (K:Nat):Mn:=⟨fun v w=>∃ t,qp N w v t/\Ht K t/\q0q G a b t,fun e h=>by
 obtain⟨t,h1,h2⟩:=h
 exact⟨t,h1.ext e,h2⟩⟩
def Mn.cl (N:Nat):Mn:=⟨fun v w=>∃ u,v=.tuple #[.bool true,u,.int .i64 0]/\qp N w u 0,fun e h=>by
 obtain⟨u,h0,h1⟩:=h
 exact⟨u,h0,h1.ext e⟩⟩
theorem Vm {vg vp:Value} (h:Ze N lo hi w vg G49) (hp:PlV N w vp (raw ((1:Int):Rat)) (raw ((0:Int):Rat))) (hN:N<=w.heap.size) :
  Calls Tryz.prog 12 #[vg,vp] w (fun e w'=>∃ v,e=.returned (.tuple #[v,.int .i64 0])/\qp N w' v ((3:Int):Rat)/\Ext w w'):=by
 have hh:=q1l (K:=4) h vF hp hN (qy (m:=1) (by decide) (by decide) |>.mono (by omega)) (qy (m:=1) (by decide) (by decide) |>.mono (by omega)) (by omega) (by decide +kernel) (by decide +kernel);have e:Jd G49 ((1:Int):Rat) ((0:Int):Rat)=some ((3:Int):Rat):=g49_a;rw [e] at hh;exact hh
theorem q4r {vg:Value} {ca cb:Array Value} (h:Ze N lo hi w vg G49) (hN:N<=w.heap.size) (a2:ca.size=12) (a3:ca.toList.all (·.oneCell')=true) (a4:PtV N w ca 0 (sp3 0 0 0)) (b2:cb.size=12) (b3:cb.toList.all (·.oneCell')=true) (b4:PtV N w cb 0 (sp3 4 0 8)) :
  Calls Tryz.prog 20 #[vg,.agg ca,.agg cb] w (fun e w'=>∃ u t,e=.returned (.tuple #[.bool false,u,.int .i64 0])/\qp N w' u t/\Ht (456*4+24000) t/\q0q G49 (sp3 0 0 0) (sp3 4 0 8) t/\Ext w w'):=by
 refine (WE h vF (JX (c:=8) (by omega)) (by omega) hN ⟨a4,a2,a3⟩ ⟨b4,b2,b3⟩).mono ?_;rintro e w' ⟨is,v,t,rfl,hv,hk,h1,h2,e'⟩;cases is with
 | true=>exact absurd (h1 rfl).1 q3t
 | false=>exact⟨v,t,rfl,hv,hk,h2 rfl,e'⟩
theorem q4q {vg:Value} {ca cb:Array Value} (h:Ze N lo hi w vg G49) (hN:N<=w.heap.size) (a2:ca.size=12) (a3:ca.toList.all (·.oneCell')=true) (a4:PtV N w ca 0 (sp3 0 0 0)) (b2:cb.size=12) (b3:cb.toList.all (·.oneCell')=true) (b4:PtV N w cb 0 (sp3 4 0 12)) :
  Calls Tryz.prog 20 #[vg,.agg ca,.agg cb] w (fun e w'=>∃ u,e=.returned (.tuple #[.bool true,u,.int .i64 0])/\qp N w' u 0/\Ext w w'):=by
 refine (WE h vF (JX (c:=12) (by omega)) (by omega) hN ⟨a4,a2,a3⟩ ⟨b4,b2,b3⟩).mono ?_;rintro e w' ⟨is,v,t,rfl,hv,hk,h1,h2,e'⟩;cases is with
 | true =>
  have:=(h1 rfl).2;subst this;exact⟨v,rfl,hv,e'⟩
 | false=>exact absurd (h2 rfl) (q3v t)
theorem JP {vg vt:Value} {ca cb:Array Value} {t:Rat} (h:Ze N lo hi w vg G49) (a2:ca.size=12) (a3:ca.toList.all (·.oneCell')=true) (a4:PtV N w ca 0 (sp3 0 0 0)) (b2:cb.size=12) (b3:cb.toList.all (·.oneCell')=true) (b4:PtV N w cb 0 (sp3 4 0 8)) (ht:qp N w vt t) (hk:Ht (456*4+24000) t) (hb:q0q G49 (sp3 0 0 0) (sp3 4 0 8) t) :
  Calls Tryz.prog 18 #[vg,.agg ca,.agg cb,vt] w (zG w (.int .i64 0)):=by
 have h0:=WF h vF ((JX (c:=8) (by omega)).mono (K':=456*4+24000) (by omega)) hk (by omega) ⟨a4,a2,a3⟩ ⟨b4,b2,b3⟩ ht;rw [q1U hb] at h0;exact h0
theorem q4E {t:TypeId} (h:w.heap[g]?=some (.cells #[.int .i64 0,.int .i64 6,.int .i64 0,.int .i64 0,.int .i64 6,.int .i64 0] t (0,0))):IzV N 0 0 w (.slice (some ⟨g,0,none⟩) 6 6) 6 G49.z:=by
 refine⟨rfl,some ⟨g,0,none⟩,6,rfl,q_r,by unfold maxLen; omega,fun _=>⟨g,0,rfl,fun i hi=>?_⟩⟩;rw [qg h];have hi':i=0\/i=1\/i=2\/i=3\/i=4\/i=5:=by omega
 rcases hi' with rfl | rfl | rfl | rfl | rfl | rfl <;> rfl
theorem q3u {t:TypeId} (h:w.heap[g]?=some (.cells #[.int .i64 0,.int .i64 6,.int .i64 0,.int .i64 0,.int .i64 6,.int .i64 0] t (0,0))):Ze N 0 0 w (.agg #[.int .i64 0,.int .i64 0,.int .i64 2,.int .i64 3,.int .i64 2,.slice (some ⟨g,0,none⟩) 6 6]) G49:=⟨_,rfl,q4E h⟩
theorem q2X {y:Rat} {x0 x1 x2 x3 y0 y1 y2 y3:Value} (h:qp N w (.agg #[x0,x1,x2,x3]) x) (h':qp N w (.agg #[y0,y1,y2,y3]) y):PlV N w (.agg #[x0,x1,x2,x3,y0,y1,y2,y3]) (raw x) (raw y):=⟨_,_,_,_,_,_,_,_,rfl,h,h'⟩
theorem q4o:Calls Tryz.prog 10 #[] w (zG w (.bool true)):=by
 obtain⟨N,hN⟩:∃ N,N=w.heap.size:=⟨_,rfl⟩
 go_enter Tryz.func10,Tryz.ntmps10;go_upto_region 2 with (fail);refine zT ?_;intro W hE hsz BZ BG;have BZ':W.heap[w.heap.size]?=some (.cells #[.int .i64 0,.int .i64 6,.int .i64 0,.int .i64 0,.int .i64 6,.int .i64 0] 3 (0,0)):=BZ;have BG':W.heap[w.heap.size+1]?=some (.cells #[.int .i64 0,.int .i64 0,.int .i64 2,.int .i64 3,.int .i64 2,.slice (some ⟨w.heap.size,0,none⟩) 6 6] 24 (0,0)):=BG;have HGR:Hid (Ze N 0 0 W _ G49):=q3u BZ';have HBG:=q_h BG';clear BZ BG BZ';have hNW:N<=W.heap.size:=by omega
 obtain⟨a0,a1,a2,a3,a4,a5⟩:=xk BG';clear BG';refine Wh [Mn.eq (.agg #[.int .i64 0,.int .i64 0,.int .i64 2,.int .i64 3,.int .i64 2,.slice (some ⟨w.heap.size,0,none⟩) 6 6]),Mn.rat N ((1:Int):Rat),Mn.rat N ((0:Int):Rat),Mn.pl N ((1:Int):Rat) ((0:Int):Rat),Mn.rc N ((3:Int):Rat),Mn.rc N ((3:Int):Rat),Mn.rat N ((3:Int):Rat),Mn.i 0,Mn.blk W.heap.size (.cells #[.bool false,.slice none 0 0,.bool false,.slice none 0 0] 29 (0,0)),Mn.any,Mn.any] [some 13,some 14,some 15,some 16,some 17,some 12,some 18,some 19,some 2,none,some 3] [9,10] [7] (rQ 9 2) 2 (by kernel_rfl) ?_ ?_ ?_
 ·show ∀ i,i < 11->_
  iterate 11 refine fs ?_ ?_
  ·exact fz
  all_goals intro hl hs; first | exact absurd hl (by decide) | exact absurd hs (by decide) | (clear hl hs; refine stp rfl ?_; intro ac wi eI hB hA K hK)
  have o1:=oOf (hB 1) rfl;have cc0:=eI.cell a0;have cc1:=eI.cell a1;have cc2:=eI.cell a2;have cc3:=eI.cell a3;have cc4:=eI.cell a4;have cc5:=eI.cell a5
  rotate_left
  clear hB hA
  ·go_simp;refine (zA (q_l hNW eI.size) 1 (by omega) (by omega)).mono ?_;rintro e wj ⟨vj,rfl,hj,ej⟩;go_wp2_with fail;exact hK.out _ _ ej hj
  clear hB hA
  ·go_simp;refine (zA (q_l hNW eI.size) 0 (by omega) (by omega)).mono ?_;rintro e wj ⟨vj,rfl,hj,ej⟩;go_wp2_with fail;exact hK.out _ _ ej hj
  obtain⟨x14,s14,j14⟩:=hA 1 14;replace j14:Mn.p (Mn.rat N ((1:Int):Rat)) x14 wi:=j14;obtain⟨x15,s15,j15⟩:=hA 2 15;replace j15:Mn.p (Mn.rat N ((0:Int):Rat)) x15 wi:=j15;clear hB hA
  ·obtain⟨ba,Aa,ka,ca,A'a,k'a,c'a,rfl,-,-,-⟩:=qp.parts j14;obtain⟨bb,Ab,kb,cb,A'b,k'b,c'b,rfl,-,-,-⟩:=qp.parts j15;go_simp;exact q_k hK (q2X j14 j15)
  obtain⟨_,s13,rfl⟩:=hA 0 13;obtain⟨x16,s16,j16⟩:=hA 3 16;replace j16:Mn.p (Mn.pl N ((1:Int):Rat) ((0:Int):Rat)) x16 wi:=j16;clear hB hA
  ·have hp:PlV N wi x16 _ _:=j16;obtain⟨y0,y1,y2,y3,y4,y5,y6,y7,rfl,-,-⟩:=hp;go_simp;refine (Vm (HGR.out.ext eI) j16 (q_l hNW eI.size)).mono ?_;rintro e wj ⟨vj,rfl,hj,ej⟩;go_wp2_with fail;exact hK.out _ _ ej ⟨vj,rfl,hj⟩
  obtain⟨x17,s17,j17⟩:=hA 4 17;replace j17:Mn.p (Mn.rc N ((3:Int):Rat)) x17 wi:=j17;clear hB hA
  ·go_simp;exact q_k hK j17
  obtain⟨x12,s12,j12⟩:=hA 5 12;replace j12:Mn.p (Mn.rc N ((3:Int):Rat)) x12 wi:=j12;clear hB hA
  ·obtain⟨vj,rfl,hj⟩:=j12;go_simp;exact q_k hK hj
  clear hB hA
  ·go_simp;refine ql ?_;intro wj ej hszj BJ;exact hK.out _ _ ej ⟨_,rfl,eI.size,BJ⟩
  all_goals clear hB hA; go_simp; exact q_k hK rfl
 ·intro i hs;have hi':i=7:=by simpa using hs
  clear hs
  rcases hi' with rfl
  ·refine sft rfl (fun _ _ _ _ h=>h) ?_;intro ac wi eI hB hA;obtain⟨x12,s12,j12⟩:=hA 5 12;replace j12:Mn.p (Mn.rc N ((3:Int):Rat)) x12 wi:=j12;clear hB hA;obtain⟨vj,rfl,hj⟩:=j12;refine⟨(.int .i64 0),.inl ⟨rfl,fun w9 _=>?_⟩,rfl⟩;go_simp
 intro vals wz eZ hJ;have J18:Mn.p (Mn.rat N ((3:Int):Rat)) (vals 6) wz:=hJ 6 (by decide) (by decide);have J19:vals 7=_:=hJ 7 (by decide) (by decide);have J2:Mn.p (Mn.blk W.heap.size (.cells #[.bool false,.slice none 0 0,.bool false,.slice none 0 0] 29 (0,0))) (vals 8) wz:=hJ 8 (by decide) (by decide);clear hJ;simp only [pr,Nat.reduceAdd,J19];clear J19
 generalize vals 6=z18 at J18 ⊢
 generalize vals 8=z2 at J2 ⊢
 obtain⟨gH,rfl,hgH,BH⟩:=J2;obtain⟨bz,Az,kz,cz,Az',kz',cz',rfl,hbz,gz1,gz2⟩:=qp.parts J18;obtain⟨y0,y1,y2,y3,y4,y5,y6,y7⟩:=cells4 BH;refine qh (i:=9) rfl (by kernel_rfl) (by kernel_rfl) (fun K hK=>?_);go_simp;refine hK.out _ _ ?_;clear hK K;try simp only [nr]
 refine qh (i:=10) rfl (by kernel_rfl) (by kernel_rfl) (fun K hK=>?_);go_simp;refine hK.out _ _ ?_;clear hK K;try simp only [nr]
 refine qi (by kernel_rfl) ?_ _;obtain⟨w2,E2,hB2,K2,hs2⟩:=kN (q:=((3:Int):Rat)) BH (by omega) hbz gz1 gz2;rw [E2];have hE2:Ext W w2:=K2.ext eZ hgH;have hN2:N<=w2.heap.size:=q_l hNW hE2.size;replace a0:=hE2.cell a0;replace a1:=hE2.cell a1;replace a2:=hE2.cell a2;replace a3:=hE2.cell a3;replace a4:=hE2.cell a4;replace a5:=hE2.cell a5;clear y0 y1 y2 y3 y4 y5 y6 y7 E2 K2 BH hs2 hbz gz1 gz2 eZ;go_upto_region 3 with (fail);refine Wh [Mn.eq (.agg #[.int .i64 0,.int .i64 0,.int .i64 2,.int .i64 3,.int .i64 2,.slice (some ⟨w.heap.size,0,none⟩) 6 6]),Mn.pt N (sp3 0 0 0),Mn.pt N (sp3 4 0 8),Mn.bl N G49 (sp3 0 0 0) (sp3 4 0 8) (456*4+24000),Mn.bl N G49 (sp3 0 0 0) (sp3 4 0 8) (456*4+24000),Mn.t false,Mn.blt N G49 (sp3 0 0 0) (sp3 4 0 8) (456*4+24000),Mn.i 0,Mn.blk w2.heap.size (.cells #[.bool false,.slice none 0 0,.bool false,.slice none 0 0] 29 (0,0)),Mn.t false,Mn.any,Mn.any] [some 21,some 22,some 23,some 24,some 20,some 25,some 26,some 27,some 5,some 4,none,some 6] [10,11] [7] (rQ 10 2) 2 (by kernel_rfl) ?_ ?_ ?_
 ·show ∀ i,i < 12->_
  iterate 12 refine fs ?_ ?_
  ·exact fz
  all_goals intro hl hs; first | exact absurd hl (by decide) | exact absurd hs (by decide) | (clear hl hs; refine stp rfl ?_; intro ac wi eI hB hA K hK)
  have o1:=oOf (hB 1) rfl;have cc0:=eI.cell a0;have cc1:=eI.cell a1;have cc2:=eI.cell a2;have cc3:=eI.cell a3;have cc4:=eI.cell a4;have cc5:=eI.cell a5
  rotate_left
  clear hB hA
  ·go_simp;refine (yg (q_l hN2 eI.size) 0 0 0 (by omega) (by omega) (by omega)).mono ?_;rintro e wj ⟨cs,rfl,h1,h2,h3,ej⟩;go_wp2_with fail;exact hK.out _ _ ej ⟨cs,rfl,h1,h2,h3⟩
  clear hB hA
  ·go_simp;refine (yg (q_l hN2 eI.size) 4 0 8 (by omega) (by omega) (by omega)).mono ?_;rintro e wj ⟨cs,rfl,h1,h2,h3,ej⟩;go_wp2_with fail;exact hK.out _ _ ej ⟨cs,rfl,h1,h2,h3⟩
  obtain⟨_,s21,rfl⟩:=hA 0 21;obtain⟨x22,s22,j22⟩:=hA 1 22;replace j22:Mn.p (Mn.pt N (sp3 0 0 0)) x22 wi:=j22;obtain⟨x23,s23,j23⟩:=hA 2 23;replace j23:Mn.p (Mn.pt N (sp3 4 0 8)) x23 wi:=j23;clear hB hA
  ·obtain⟨ca,rfl,k1,k2,k3⟩:=j22;obtain⟨cb,rfl,k4,k5,k6⟩:=j23;go_simp;refine (q4r (HGR.out.ext ((hE2).trans eI)) (q_l hN2 eI.size) k1 k2 k3 k4 k5 k6).mono ?_;rintro e wj ⟨vj,tj,rfl,hj,hk,hb,ej⟩;go_wp2_with fail;exact hK.out _ _ ej ⟨vj,tj,rfl,hj,hk,hb⟩
  obtain⟨x24,s24,j24⟩:=hA 3 24;replace j24:Mn.p (Mn.bl N G49 (sp3 0 0 0) (sp3 4 0 8) (456*4+24000)) x24 wi:=j24;clear hB hA
  ·go_simp;exact q_k hK j24
  obtain⟨x20,s20,j20⟩:=hA 4 20;replace j20:Mn.p (Mn.bl N G49 (sp3 0 0 0) (sp3 4 0 8) (456*4+24000)) x20 wi:=j20;clear hB hA
  ·obtain⟨vj,tj,rfl,-⟩:=j20;go_simp;exact q_k hK rfl
  obtain⟨x20,s20,j20⟩:=hA 4 20;replace j20:Mn.p (Mn.bl N G49 (sp3 0 0 0) (sp3 4 0 8) (456*4+24000)) x20 wi:=j20;clear hB hA
  ·obtain⟨vj,tj,rfl,hj⟩:=j20;go_simp;exact q_k hK ⟨tj,hj⟩
  clear hB hA
  ·go_simp;refine ql ?_;intro wj ej hszj BJ;exact hK.out _ _ ej ⟨_,rfl,eI.size,BJ⟩
  obtain⟨_,s25,rfl⟩:=hA 5 25
  rotate_left
  all_goals clear hB hA; go_simp; exact q_k hK rfl
 ·intro i hs;have hi':i=7:=by simpa using hs
  clear hs
  rcases hi' with rfl
  ·refine sft rfl (fun _ _ _ _ h=>h) ?_;intro ac wi eI hB hA;obtain⟨x20,s20,j20⟩:=hA 4 20;replace j20:Mn.p (Mn.bl N G49 (sp3 0 0 0) (sp3 4 0 8) (456*4+24000)) x20 wi:=j20;clear hB hA;obtain⟨vj,tj,rfl,-⟩:=j20;refine⟨(.int .i64 0),.inl ⟨rfl,fun w9 _=>?_⟩,rfl⟩;go_simp
 intro vals wz eZ hJ;have J26:Mn.p (Mn.blt N G49 (sp3 0 0 0) (sp3 4 0 8) (456*4+24000)) (vals 6) wz:=hJ 6 (by decide) (by decide);have J27:vals 7=_:=hJ 7 (by decide) (by decide);have J5:Mn.p (Mn.blk w2.heap.size (.cells #[.bool false,.slice none 0 0,.bool false,.slice none 0 0] 29 (0,0))) (vals 8) wz:=hJ 8 (by decide) (by decide);have J4:vals 9=_:=hJ 9 (by decide) (by decide);clear hJ;simp only [pr,Nat.reduceAdd,J27,J4];clear J27 J4
 generalize vals 6=z26 at J26 ⊢
 generalize vals 8=z5 at J5 ⊢
 obtain⟨t,JT,hkt,hbt⟩:=J26;obtain⟨gT,rfl,hgT,BB⟩:=J5;obtain⟨bz,Az,kz,cz,Az',kz',cz',rfl,hbz,gz1,gz2⟩:=qp.parts JT;obtain⟨y0,y1,y2,y3,y4,y5,y6,y7⟩:=cells4 BB;refine qh (i:=10) rfl (by kernel_rfl) (by kernel_rfl) (fun K hK=>?_);go_simp;refine hK.out _ _ ?_;clear hK K;try simp only [nr]
 refine qh (i:=11) rfl (by kernel_rfl) (by kernel_rfl) (fun K hK=>?_);go_simp;refine hK.out _ _ ?_;clear hK K;try simp only [nr]
 refine qi (by kernel_rfl) ?_ _;obtain⟨w3,E3,hB3,K3,hs3⟩:=kN (q:=t) BB (by omega) hbz gz1 gz2;rw [E3];have ew3:Ext w2 w3:=K3.ext eZ hgT;have hE3:Ext W w3:=hE2.trans ew3;have hN3:N<=w3.heap.size:=q_l hNW hE3.size;replace a0:=ew3.cell a0;replace a1:=ew3.cell a1;replace a2:=ew3.cell a2;replace a3:=ew3.cell a3;replace a4:=ew3.cell a4;replace a5:=ew3.cell a5;clear y0 y1 y2 y3 y4 y5 y6 y7 E3 K3 BB hs3 hbz gz1 gz2 eZ;have HB2:=q_h (hB2.ext ew3);clear hB2;go_upto_region 4 with (fail);refine Wh [Mn.eq (.agg #[.int .i64 0,.int .i64 0,.int .i64 2,.int .i64 3,.int .i64 2,.slice (some ⟨w.heap.size,0,none⟩) 6 6]),Mn.pt N (sp3 0 0 0),Mn.pt N (sp3 4 0 12),Mn.cl N,Mn.cl N,Mn.t true,Mn.rat N 0,Mn.i 0,Mn.blk w3.heap.size (.cells #[.bool false,.slice none 0 0,.bool false,.slice none 0 0] 29 (0,0)),Mn.t true,Mn.any,Mn.any] [some 29,some 30,some 31,some 32,some 28,some 33,some 34,some 35,some 8,some 7,none,some 9] [10,11] [7] (rQ 10 2) 2 (by kernel_rfl) ?_ ?_ ?_
 ·show ∀ i,i < 12->_
  iterate 12 refine fs ?_ ?_
  ·exact fz
  all_goals intro hl hs; first | exact absurd hl (by decide) | exact absurd hs (by decide) | (clear hl hs; refine stp rfl ?_; intro ac wi eI hB hA K hK)
  have o1:=oOf (hB 1) rfl;have cc0:=eI.cell a0;have cc1:=eI.cell a1;have cc2:=eI.cell a2;have cc3:=eI.cell a3;have cc4:=eI.cell a4;have cc5:=eI.cell a5
  rotate_left
  clear hB hA
  ·go_simp;refine (yg (q_l hN3 eI.size) 0 0 0 (by omega) (by omega) (by omega)).mono ?_;rintro e wj ⟨cs,rfl,h1,h2,h3,ej⟩;go_wp2_with fail;exact hK.out _ _ ej ⟨cs,rfl,h1,h2,h3⟩
  clear hB hA
  ·go_simp;refine (yg (q_l hN3 eI.size) 4 0 12 (by omega) (by omega) (by omega)).mono ?_;rintro e wj ⟨cs,rfl,h1,h2,h3,ej⟩;go_wp2_with fail;exact hK.out _ _ ej ⟨cs,rfl,h1,h2,h3⟩
  obtain⟨_,s29,rfl⟩:=hA 0 29;obtain⟨x30,s30,j30⟩:=hA 1 30;replace j30:Mn.p (Mn.pt N (sp3 0 0 0)) x30 wi:=j30;obtain⟨x31,s31,j31⟩:=hA 2 31;replace j31:Mn.p (Mn.pt N (sp3 4 0 12)) x31 wi:=j31;clear hB hA
  ·obtain⟨ca,rfl,k1,k2,k3⟩:=j30;obtain⟨cb,rfl,k4,k5,k6⟩:=j31;go_simp;refine (q4q (HGR.out.ext ((hE3).trans eI)) (q_l hN3 eI.size) k1 k2 k3 k4 k5 k6).mono ?_;rintro e wj ⟨vj,rfl,hj,ej⟩;go_wp2_with fail;exact hK.out _ _ ej ⟨vj,rfl,hj⟩
  obtain⟨x32,s32,j32⟩:=hA 3 32;replace j32:Mn.p (Mn.cl N) x32 wi:=j32;clear hB hA
  ·go_simp;exact q_k hK j32
  obtain⟨x28,s28,j28⟩:=hA 4 28;replace j28:Mn.p (Mn.cl N) x28 wi:=j28;clear hB hA
  ·obtain⟨vj,rfl,-⟩:=j28;go_simp;exact q_k hK rfl
  obtain⟨x28,s28,j28⟩:=hA 4 28;replace j28:Mn.p (Mn.cl N) x28 wi:=j28;clear hB hA
  ·obtain⟨vj,rfl,hj⟩:=j28;go_simp;exact q_k hK hj
  clear hB hA
  ·go_simp;refine ql ?_;intro wj ej hszj BJ;exact hK.out _ _ ej ⟨_,rfl,eI.size,BJ⟩
  obtain⟨_,s33,rfl⟩:=hA 5 33
  rotate_left
  all_goals clear hB hA; go_simp; exact q_k hK rfl
 ·intro i hs;have hi':i=7:=by simpa using hs
  clear hs
  rcases hi' with rfl
  ·refine sft rfl (fun _ _ _ _ h=>h) ?_;intro ac wi eI hB hA;obtain⟨x28,s28,j28⟩:=hA 4 28;replace j28:Mn.p (Mn.cl N) x28 wi:=j28;clear hB hA;obtain⟨vj,rfl,-⟩:=j28;refine⟨(.int .i64 0),.inl ⟨rfl,fun w9 _=>?_⟩,rfl⟩;go_simp
 intro vals wz eZ hJ;have J34:Mn.p (Mn.rat N 0) (vals 6) wz:=hJ 6 (by decide) (by decide);have J35:vals 7=_:=hJ 7 (by decide) (by decide);have J8:Mn.p (Mn.blk w3.heap.size (.cells #[.bool false,.slice none 0 0,.bool false,.slice none 0 0] 29 (0,0))) (vals 8) wz:=hJ 8 (by decide) (by decide);have J7:vals 9=_:=hJ 9 (by decide) (by decide);clear hJ;simp only [pr,Nat.reduceAdd,J35,J7];clear J35 J7
 generalize vals 6=z34 at J34 ⊢
 generalize vals 8=z8 at J8 ⊢
 obtain⟨gB,rfl,hgB,BB⟩:=J8;obtain⟨bz,Az,kz,cz,Az',kz',cz',rfl,hbz,gz1,gz2⟩:=qp.parts J34;obtain⟨y0,y1,y2,y3,y4,y5,y6,y7⟩:=cells4 BB;refine qh (i:=10) rfl (by kernel_rfl) (by kernel_rfl) (fun K hK=>?_);go_simp;refine hK.out _ _ ?_;clear hK K;try simp only [nr]
 refine qh (i:=11) rfl (by kernel_rfl) (by kernel_rfl) (fun K hK=>?_);go_simp;refine hK.out _ _ ?_;clear hK K;try simp only [nr]
 refine qi (by kernel_rfl) ?_ _;obtain⟨w4,E3,hB4,K3,hs3⟩:=kN (q:=(0:Rat)) BB (by omega) hbz gz1 gz2;rw [E3];have ew4:Ext w3 w4:=K3.ext eZ hgB;have hE4:Ext W w4:=hE3.trans ew4;have hN4:N<=w4.heap.size:=q_l hNW hE4.size;replace a0:=ew4.cell a0;replace a1:=ew4.cell a1;replace a2:=ew4.cell a2;replace a3:=ew4.cell a3;replace a4:=ew4.cell a4;replace a5:=ew4.cell a5;clear y0 y1 y2 y3 y4 y5 y6 y7 E3 K3 BB hs3 hbz gz1 gz2 eZ;have hBH:=HB2.out.ext ew4;have hBT:=hB3.ext ew4;clear HB2 hB3 hB4 ew3 ew4;go_upto_region 5 with (fail);obtain⟨nx,Ax,kx,cx,A'x,k'x,c'x,Bx,hbx,yx,zx⟩:=hBH;obtain⟨x0,x1,x2,x3,-⟩:=cells4 Bx;have hRx:qp N w4 (.agg #[.bool nx,.slice Ax kx cx,.bool false,.slice A'x k'x c'x]) (((3:Int):Rat)):=qp.mk hbx yx zx;obtain⟨ns,As,ks,cs,A's,k's,c's,Bs,hbs,ys,zs⟩:=hBT;obtain⟨s0,s1,s2,s3,-⟩:=cells4 Bs;have hRs:qp N w4 (.agg #[.bool ns,.slice As ks cs,.bool false,.slice A's k's c's]) (t):=qp.mk hbs ys zs;refine jE [Mn.i 0,Mn.t true,Mn.t true,Mn.rat N (((3:Int):Rat)),Mn.rat N ((3:Int):Rat),Mn.t true,Mn.t true,Mn.t true,Mn.i 0,Mn.t true,Mn.t true,Mn.t true,Mn.t false,Mn.t true,Mn.t true,Mn.t true,Mn.eq (.agg #[.int .i64 0,.int .i64 0,.int .i64 2,.int .i64 3,.int .i64 2,.slice (some ⟨w.heap.size,0,none⟩) 6 6]),Mn.pt N (sp3 0 0 0),Mn.pt N (sp3 4 0 8),Mn.rat N (t),Mn.i 0,Mn.t true,Mn.t true,Mn.t true,Mn.i 0,Mn.t true,Mn.t true,Mn.t true,Mn.t true,Mn.t true,Mn.t true] (sM [36,37,38,39,40,41,42,43,44,45,46,47,48,49,50,51,52,53,54,55,56,57,58,59,60,61,62,63,64,65,0]) [] (rQ 31 0) 0 (by kernel_rfl) ?_ ?_
 ·show ∀ i,i < 31->_
  iterate 31 refine fs ?_ ?_
  ·exact fz
  all_goals intro hl; clear hl; refine stp rfl ?_; intro ac wi eI hB hA K hK
  have o3:=oOf (hB 3) rfl
  rotate_left
  obtain⟨_,s36,rfl⟩:=hA 0 36
  rotate_left
  obtain⟨_,s37,rfl⟩:=hA 1 37
  rotate_left
  obtain⟨_,s38,rfl⟩:=hA 2 38;have o2:=oOf (hB 2) rfl;clear hB hA;rw [if_pos (by simp [Region.wanted,yielded,s38])];have cc0:=eI.cell x0;have cc1:=eI.cell x1;have cc2:=eI.cell x2;have cc3:=eI.cell x3
  ·go_simp;exact q_k hK (hRx.ext eI)
  obtain⟨_,s38,rfl⟩:=hA 2 38;clear hB hA;rw [if_pos (by simp [Region.wanted,yielded,s38])]
  ·go_simp;refine (zA (q_l hN4 eI.size) 3 (by omega) (by omega)).mono ?_;rintro e wj ⟨vj,rfl,hj,ej⟩;go_wp2_with fail;exact hK.out _ _ ej hj
  obtain⟨_,s38,rfl⟩:=hA 2 38;obtain⟨x39,s39,j39⟩:=hA 3 39;replace j39:Mn.p (Mn.rat N (((3:Int):Rat))) x39 wi:=j39;obtain⟨x40,s40,j40⟩:=hA 4 40;replace j40:Mn.p (Mn.rat N ((3:Int):Rat)) x40 wi:=j40;clear hB hA;rw [if_pos (by simp [Region.wanted,yielded,s38])]
  ·go_simp;refine (q2U j39 j40 (xn (by omega)) rfl).mono ?_;rintro e wj ⟨rfl,ej⟩;go_wp2_with fail;exact hK.out _ _ ej rfl
  obtain⟨_,s38,rfl⟩:=hA 2 38;obtain⟨_,s41,rfl⟩:=hA 5 41
  rotate_left
  obtain⟨_,s42,rfl⟩:=hA 6 42
  rotate_left
  obtain⟨_,s43,rfl⟩:=hA 7 43;have o6:=oOf (hB 6) rfl;rw [if_pos (by simp [Region.wanted,yielded,s43])]
  rotate_left
  obtain⟨_,s43,rfl⟩:=hA 7 43;obtain⟨_,s44,rfl⟩:=hA 8 44;rw [if_pos (by simp [Region.wanted,yielded,s43])]
  rotate_left
  obtain⟨_,s43,rfl⟩:=hA 7 43;obtain⟨_,s45,rfl⟩:=hA 9 45
  rotate_left
  obtain⟨_,s46,rfl⟩:=hA 10 46
  rotate_left
  obtain⟨_,s47,rfl⟩:=hA 11 47;have o4:=oOf (hB 4) rfl;rw [if_pos (by simp [Region.wanted,yielded,s47])]
  rotate_left
  obtain⟨_,s47,rfl⟩:=hA 11 47;obtain⟨_,s48,rfl⟩:=hA 12 48;rw [if_pos (by simp [Region.wanted,yielded,s47])]
  rotate_left
  obtain⟨_,s47,rfl⟩:=hA 11 47;obtain⟨_,s49,rfl⟩:=hA 13 49
  rotate_left
  obtain⟨_,s50,rfl⟩:=hA 14 50
  rotate_left
  obtain⟨_,s51,rfl⟩:=hA 15 51;have o1:=oOf (hB 1) rfl;rw [if_pos (by simp [Region.wanted,yielded,s51])];have cc0:=eI.cell a0;have cc1:=eI.cell a1;have cc2:=eI.cell a2;have cc3:=eI.cell a3;have cc4:=eI.cell a4;have cc5:=eI.cell a5
  rotate_left
  obtain⟨_,s51,rfl⟩:=hA 15 51;clear hB hA;rw [if_pos (by simp [Region.wanted,yielded,s51])]
  ·go_simp;refine (yg (q_l hN4 eI.size) 0 0 0 (by omega) (by omega) (by omega)).mono ?_;rintro e wj ⟨cs,rfl,h1,h2,h3,ej⟩;go_wp2_with fail;exact hK.out _ _ ej ⟨cs,rfl,h1,h2,h3⟩
  obtain⟨_,s51,rfl⟩:=hA 15 51;clear hB hA;rw [if_pos (by simp [Region.wanted,yielded,s51])]
  ·go_simp;refine (yg (q_l hN4 eI.size) 4 0 8 (by omega) (by omega) (by omega)).mono ?_;rintro e wj ⟨cs,rfl,h1,h2,h3,ej⟩;go_wp2_with fail;exact hK.out _ _ ej ⟨cs,rfl,h1,h2,h3⟩
  obtain⟨_,s51,rfl⟩:=hA 15 51;have o5:=oOf (hB 5) rfl;clear hB hA;rw [if_pos (by simp [Region.wanted,yielded,s51])];have cc0:=eI.cell s0;have cc1:=eI.cell s1;have cc2:=eI.cell s2;have cc3:=eI.cell s3
  ·go_simp;exact q_k hK (hRs.ext eI)
  obtain⟨_,s51,rfl⟩:=hA 15 51;obtain⟨_,s52,rfl⟩:=hA 16 52;obtain⟨x53,s53,j53⟩:=hA 17 53;replace j53:Mn.p (Mn.pt N (sp3 0 0 0)) x53 wi:=j53;obtain⟨x54,s54,j54⟩:=hA 18 54;replace j54:Mn.p (Mn.pt N (sp3 4 0 8)) x54 wi:=j54;obtain⟨x55,s55,j55⟩:=hA 19 55;replace j55:Mn.p (Mn.rat N (t)) x55 wi:=j55;clear hB hA;rw [if_pos (by simp [Region.wanted,yielded,s51])]
  ·obtain⟨ca,rfl,k1,k2,k3⟩:=j53;obtain⟨cb,rfl,k4,k5,k6⟩:=j54;go_simp;refine (JP (HGR.out.ext (hE4.trans eI)) k1 k2 k3 k4 k5 k6 j55 hkt hbt).mono ?_;rintro e wj ⟨rfl,ej⟩;go_wp2_with fail;exact hK.out _ _ ej rfl
  obtain⟨_,s51,rfl⟩:=hA 15 51;obtain⟨_,s56,rfl⟩:=hA 20 56;rw [if_pos (by simp [Region.wanted,yielded,s51])]
  rotate_left
  obtain⟨_,s51,rfl⟩:=hA 15 51;obtain⟨_,s57,rfl⟩:=hA 21 57
  rotate_left
  obtain⟨_,s58,rfl⟩:=hA 22 58
  rotate_left
  obtain⟨_,s59,rfl⟩:=hA 23 59;have o9:=oOf (hB 9) rfl;rw [if_pos (by simp [Region.wanted,yielded,s59])]
  rotate_left
  obtain⟨_,s59,rfl⟩:=hA 23 59;obtain⟨_,s60,rfl⟩:=hA 24 60;rw [if_pos (by simp [Region.wanted,yielded,s59])]
  rotate_left
  obtain⟨_,s59,rfl⟩:=hA 23 59;obtain⟨_,s61,rfl⟩:=hA 25 61
  rotate_left
  obtain⟨_,s62,rfl⟩:=hA 26 62
  rotate_left
  obtain⟨_,s63,rfl⟩:=hA 27 63;have o7:=oOf (hB 7) rfl;rw [if_pos (by simp [Region.wanted,yielded,s63])]
  rotate_left
  obtain⟨_,s63,rfl⟩:=hA 27 63;obtain⟨_,s64,rfl⟩:=hA 28 64
  rotate_left
  obtain⟨_,s65,rfl⟩:=hA 29 65
  rotate_left
  all_goals clear hB hA; go_simp; exact q_k hK rfl
 intro vals wz eZ hJ;have J0:vals 30=_:=hJ 30 (by decide) (by decide);clear hJ;simp only [pr,Nat.reduceAdd,J0];clear J0;refine qi (by kernel_rfl) ?_ _;go_wp2;go_ret;exact⟨rfl,(hE.trans hE4).trans eZ⟩
structure Sta where
 ax:Int
 ay:Int
 az:Int
 qa:Int
 qb:Int
 qc:Int
 qd:Int
 f:Int
 cx:Int
 cy:Int
def Sta.v (S:Sta):Value:=.agg #[.int .i64 S.ax,.int .i64 S.ay,.int .i64 S.az,.int .i64 S.qa,.int .i64 S.qb,.int .i64 S.qc,.int .i64 S.qd,.int .i64 S.f,.int .i64 S.cx,.int .i64 S.cy]
def quV (a b c d:Int):Value:=.agg #[.int .i64 a,.int .i64 b,.int .i64 c,.int .i64 d]
def xO (a b c d:Int):Int:=if a=0/\b=0/\c=0/\d=0 then 1 else if zo a || zo b || zo c || zo d then 3 else 0
def l5 (S:Sta) (i:Nat):Int:=if i=0 then S.ax else if i=1 then S.ay else if i=2 then S.az else if i=3 then S.cx else S.cy
def l4 (a b c d:Int) (i:Nat):Int:=if i=0 then a else if i=1 then b else if i=2 then c else d
def xJ (S:Sta):Int:=if (jf 5 (fun i=>zo (l5 S i)) || decide (S.f < 1)) || decide (1048576 < S.f) then 2 else xO S.qa S.qb S.qc S.qd
theorem VV {v:Value} {z:Nat->Int} (h:IzV N lo hi w v n z) (gb:Nat) (g:Nat->Bool)
  (hf:∀ i,i < n->∀ w' u,Ext w w'->IsI u (z i)->Calls Tryz.prog 213 #[u,.pointer (some ⟨gb,0,none⟩)] w' (zG w' (.bool (g i)))) :
  Calls Tryz.prog 146 #[v,.func (.func 213) #[] #[.pointer (some ⟨gb,0,none⟩)]] w (YW w (jf n g)):=by
 obtain⟨r,hr⟩:=qf (jf n g);rw [<-hr.out];obtain⟨A,c,rfl,hnc,hcm⟩:=h.form;unfold maxLen at hcm;have hI:=h;have HF:=q_h hf;clear h hf;go_enter Tryz.func146,Tryz.ntmps146;go_wp2
 go_loopw [8] (fun i wr=>∃ k:Nat,k<=n/\i=.int .i64 k/\Hid (∀ j,j < k->g j=false)/\Ext w wr) (fun i _=>n - (intOf i).toNat)
 case atStart=>exact⟨0,Nat.zero_le _,rfl,fun j hj=>absurd hj (by omega),Ext.refl w⟩
 case round =>
  obtain⟨k,hk,rfl,HA,hE⟩:=hrel
  by_cases hlt:k < n
  ·(obtain⟨b,off,rfl,hx⟩:=(hI.ext hE).addr (by omega)); (have p0:=hx k hlt); (have hv:IsI (Value.int .i64 (z k)) (z k):=rfl)
   clear hx;go_wp2_with (go_at_call 213; refine q_o ?_);refine (HF.out k hlt _ _ hE hv).mono ?_;rintro e w1 ⟨rfl,e1⟩;replace hE:=hE.trans e1;obtain⟨o,ho⟩:=qf (g k);rw [<-ho.out];cases o with
   | false =>
    go_wp2;go_roundw
    case rel=>exact⟨k+1,by omega,by go_num,xP (p:=fun j=>g j=false) HA.out ho.out.symm,hE⟩
    case measure=>simp [intOf]; omega
   | true =>
    have HT:Hid (r=true):=by rw [Hid,hr.out]; exact jR hlt ho.out.symm
    go_wp2;go_ret;exact⟨_,rfl,by rw [Hid,HT.out]; symm; simp,hE⟩
  ·have HT:Hid (r=false):=by rw [Hid,hr.out]; exact kD.2 (fun j hj=>HA.out j (by omega))
   go_wp2;go_ret;exact⟨_,rfl,by rw [Hid,HT.out]; rfl,hE⟩
theorem q0U {v:Value} {z:Nat->Int} (h:IzV N lo hi w v n z) (gb:Nat) (g:Nat->Bool)
  (hf:∀ i,i < n->∀ w' u,Ext w w'->IsI u (z i)->Calls Tryz.prog 213 #[u,.pointer (some ⟨gb,0,none⟩)] w' (zG w' (.bool (g i)))) :
  Calls Tryz.prog 95 #[v,.func (.func 213) #[] #[.pointer (some ⟨gb,0,none⟩)]] w (zG w (.bool (jf n g))):=by
 obtain⟨r,hr⟩:=qf (jf n g);rw [<-hr.out];obtain⟨A,c,rfl,hnc,hcm⟩:=h.form;have hI:=h;have HF:=q_h hf;clear h hf;go_enter Tryz.func95,Tryz.ntmps95;go_wp2_with (go_at_call 146; refine q_o ?_);refine (VV hI gb g HF.out).mono ?_;rintro e w1 ⟨z,rfl,hz,e1⟩;rw [<-hr.out] at hz;go_wp2;go_ret;exact⟨qo hz.out.symm,e1⟩
theorem q3a {gb:Nat} (hb:w.cell? ⟨gb,0,none⟩=some (.int .i64 1048576)) (z:Int) :
  Calls Tryz.prog 213 #[.int .i64 z,.pointer (some ⟨gb,0,none⟩)] w (zG w (.bool (zo z))):=by
 obtain⟨r,hr⟩:=qf (zo z);rw [<-hr.out]
 by_cases h0:z < -1048576
 ·have HR:Hid (true=r):=by rw [Hid,hr.out]; unfold zo; rw [q_t h0]; rfl
  have t0:decide (z < -1048576)=true:=q_t h0;clear h0;go_enter Tryz.func213,Tryz.ntmps213;go_wp2;go_ret;exact⟨qo HR.out,Ext.refl w⟩
 ·have t0:decide (z < -1048576)=false:=q_f h0
  by_cases h1:1048576 < z
  ·have HR:Hid (true=r):=by rw [Hid,hr.out]; unfold zo; rw [q_t h1,Bool.or_true]
   have t1:decide (1048576 < z)=true:=q_t h1;clear h0 h1;go_enter Tryz.func213,Tryz.ntmps213;go_wp2;go_ret;exact⟨qo HR.out,Ext.refl w⟩
  ·have HR:Hid (false=r):=by rw [Hid,hr.out]; unfold zo; rw [q_f h0,q_f h1]; rfl
   have t1:decide (1048576 < z)=false:=q_f h1;clear h0 h1;go_enter Tryz.func213,Tryz.ntmps213;go_wp2;go_ret;exact⟨qo HR.out,Ext.refl w⟩
theorem q4f {v:Value} {z:Nat->Int} (h:IzV N lo hi w v n z) :
  Calls Tryz.prog 174 #[.int .i64 1048576,v] w (zG w (.bool (jf n (fun i=>zo (z i))))):=by
 obtain⟨r,hr⟩:=qf (jf n (fun i=>zo (z i)));rw [<-hr.out];obtain⟨A,c,rfl,hnc,hcm⟩:=h.form;have HI:=q_h h;clear h;go_enter Tryz.func174,Tryz.ntmps174;go_wp2_with (go_at_call 95; refine q_o ?_);refine qF ?_;intro W hE hsz B0
 refine (q0U (HI.out.ext hE) w.heap.size (fun i=>zo (z i)) (fun i hi w' u e hu=>by
  have hu':u=.int .i64 (z i):=hu;rw [hu']
  exact q3a (e.cell (zF B0).1) (z i))).mono ?_
 rw [<-hr.out];rintro e w1 ⟨rfl,e1⟩;go_wp2;go_ret;exact⟨rfl,hE.trans e1⟩
theorem q0Z (a b c d:Int) :
  Calls Tryz.prog 238 #[quV a b c d] w (zG w (.agg #[.int .i64 a,.int .i64 b,.int .i64 c,.int .i64 d])):=by
 unfold quV;go_enter Tryz.func238,Tryz.ntmps238;go_upto_region 1 with (fail);refine zT ?_;intro W hE hsz B0 B1;obtain⟨p0,p1,p2,p3,-⟩:=cells4 B0;obtain⟨q0,q1,q2,q3,q4,q5,q6,q7⟩:=cells4 B1;go_wp2;obtain⟨wR,ER,FR,UR⟩:=ex4 B1 (.int .i64 a) (.int .i64 b) (.int .i64 c) (.int .i64 d);rw [ER];refine bodyPost_ret (results_cell_row rfl _ _ _ _ _ _ _ rfl FR Tryz.underlying216 rfl (by kernel_rfl)) rfl ?_;exact⟨rfl,UR.ext hE (by omega)⟩
theorem q14 (a b c d:Int) :
  Calls Tryz.prog 212 #[quV a b c d] w (zG w (.int .i64 (xO a b c d))):=by
 obtain⟨r,hr⟩:=qf (xO a b c d);rw [<-hr.out];unfold quV;go_enter Tryz.func212,Tryz.ntmps212;go_upto_region 1 with (fail);refine ql ?_;intro W hE hsz B0;obtain⟨p0,p1,p2,p3,-⟩:=cells4 B0;obtain⟨zb,hzb⟩:=qf (decide (a=0/\b=0/\c=0/\d=0))
 go_cut [7] (fun v wx=>v=.bool zb/\wx=W)
 case first =>
  by_cases ha:a=0
  case neg =>
   have HZ:Hid (false=zb):=by rw [Hid,hzb.out,q_f (fun h=>ha h.1)]
   go_wp2_with fail
   go_meet
   exact⟨by rw [<-HZ.out],rfl⟩
  subst ha
  by_cases hb:b=0
  case neg =>
   have HZ:Hid (false=zb):=by rw [Hid,hzb.out,q_f (fun h=>hb h.2.1)]
   go_wp2_with fail
   go_meet
   exact⟨by rw [<-HZ.out],rfl⟩
  subst hb
  by_cases hc:c=0
  case neg =>
   have HZ:Hid (false=zb):=by rw [Hid,hzb.out,q_f (fun h=>hc h.2.2.1)]
   go_wp2_with fail
   go_meet
   exact⟨by rw [<-HZ.out],rfl⟩
  subst hc
  by_cases hd:d=0
  case neg =>
   have HZ:Hid (false=zb):=by rw [Hid,hzb.out,q_f (fun h=>hd h.2.2.2)]
   go_wp2_with fail
   go_meet
   exact⟨by rw [<-HZ.out],rfl⟩
  subst hd;have HZ:Hid (true=zb):=by rw [Hid,hzb.out,decide_eq_true ⟨rfl,rfl,rfl,rfl⟩]
  go_wp2_with fail
  go_meet
  exact⟨by rw [<-HZ.out],rfl⟩
 obtain⟨rfl,rfl⟩:=hcut;obtain⟨W,hWc⟩:∃ x,x=wc:=⟨_,rfl⟩
 subst hWc;cases zb with
 | true =>
  have HR:Hid (r=1):=by
   rw [Hid,hr.out];unfold xO;rw [if_pos (of_decide_eq_true hzb.out.symm)]
  go_wp2;go_ret;rw [HR.out];exact⟨rfl,hE⟩
 | false =>
 have HR:Hid (r=if zo a || zo b || zo c || zo d then 3 else 0):=by
  rw [Hid,hr.out];unfold xO;rw [if_neg (of_decide_eq_false hzb.out.symm)]
 clear hzb;go_wp2_with (go_at_call 238; refine q_o ?_);refine (q0Z a b c d).mono ?_;rintro e w1 ⟨rfl,e1⟩;replace hE:=hE.trans e1;clear p0 p1 p2 p3 B0 e1;go_wp2
 go_loopw [10] (fun iv wr=>∃ i:Nat,i<=4/\iv=.int .i64 i/\Hid (∀ j,j < i->zo (l4 a b c d j)=false)/\wr=w1) (fun iv _=>4 - (intOf iv).toNat)
 case atStart=>exact⟨0,by omega,rfl,fun j hj=>absurd hj (by omega),rfl⟩
 case round =>
  obtain⟨i,hi,rfl,hA,rfl⟩:=hrel
  by_cases hi4:i < 4
  case neg =>
   obtain rfl:i=4:=by omega
   have HR2:Hid (r=0):=by
    have k0:=hA.out 0 (by omega);have k1:=hA.out 1 (by omega);have k2:=hA.out 2 (by omega);have k3:=hA.out 3 (by omega);have k0':zo a=false:=k0;have k1':zo b=false:=k1;have k2':zo c=false:=k2;have k3':zo d=false:=k3;rw [Hid,HR.out,k0',k1',k2',k3']
    rfl
   go_wp2;go_ret;rw [HR2.out];exact⟨rfl,hE⟩
  have x0:∀ w:World,(Instr.index 216 (.agg #[.int .i64 a,.int .i64 b,.int .i64 c,.int .i64 d]) (.int .i64 0)).run Tryz.prog w=.ok (.int .i64 a) w:=fun _=>by kernel_rfl
  have x1:∀ w:World,(Instr.index 216 (.agg #[.int .i64 a,.int .i64 b,.int .i64 c,.int .i64 d]) (.int .i64 1)).run Tryz.prog w=.ok (.int .i64 b) w:=fun _=>by kernel_rfl
  have x2:∀ w:World,(Instr.index 216 (.agg #[.int .i64 a,.int .i64 b,.int .i64 c,.int .i64 d]) (.int .i64 2)).run Tryz.prog w=.ok (.int .i64 c) w:=fun _=>by kernel_rfl
  have x3:∀ w:World,(Instr.index 216 (.agg #[.int .i64 a,.int .i64 b,.int .i64 c,.int .i64 d]) (.int .i64 3)).run Tryz.prog w=.ok (.int .i64 d) w:=fun _=>by kernel_rfl
  obtain⟨u,hu⟩:=qf (l4 a b c d i)
  have HFT:Hid (zo u=true->r=3):=fun h=>by
   rw [HR.out];have hi':i=0\/i=1\/i=2\/i=3:=by omega
   rw [hu.out] at h
   rcases hi' with rfl | rfl | rfl | rfl
   ·have h':zo a=true:=h;rw [h']
    rfl
   ·have h':zo b=true:=h;rw [h',Bool.or_true]
    rfl
   ·have h':zo c=true:=h;rw [h',Bool.or_true]
    rfl
   ·have h':zo d=true:=h;rw [h',Bool.or_true]
    rfl
  have hi4':(i:Int) < 4:=by omega
  go_upto_region 5 with (fail)
  go_cut [4] (fun v wx=>v=.int .i64 u/\wx=wr)
  case first =>
   have hi':i=0\/i=1\/i=2\/i=3:=by omega
   rcases hi' with rfl | rfl | rfl | rfl
   all_goals (go_wp2_with fail; go_meet; exact⟨by rw [hu.out]; rfl,by first | trivial | rfl⟩)
  obtain⟨rfl,rfl⟩:=hcut;clear x0 x1 x2 x3
  by_cases k0:u < -1048576
  ·have HR3:Hid (r=3):=HFT.out (by unfold zo; rw [decide_eq_true k0]; rfl);have t0:decide (u < -1048576)=true:=decide_eq_true k0;clear k0;go_wp2;go_ret;rw [HR3.out];exact⟨rfl,hE⟩
  have t0:decide (u < -1048576)=false:=decide_eq_false k0
  by_cases k1:1048576 < u
  ·have HR3:Hid (r=3):=HFT.out (by unfold zo; rw [decide_eq_true k1,Bool.or_true]);have t1:decide (1048576 < u)=true:=decide_eq_true k1;clear k0 k1;go_wp2;go_ret;rw [HR3.out];exact⟨rfl,hE⟩
  have t1:decide (1048576 < u)=false:=decide_eq_false k1
  have HA2:Hid (∀ j,j < i+1->zo (l4 a b c d j)=false):=fun j hj=>by
   by_cases hji:j=i
   ·rw [hji,<-hu.out];unfold zo;rw [t0,t1]
    rfl
   ·exact hA.out j (by omega)
  clear k0 k1;go_wp2;go_roundw
  case rel=>exact⟨i+1,by omega,by go_num,HA2.out,by first | trivial | rfl⟩
  case measure=>simp [intOf]; omega
theorem zD {t:TypeId} {x0 x1 x2 x3 x4 x5 x6 x7 x8 x9:Value} (h:w.heap[g]?=some (.cells #[x0,x1,x2,x3,x4,x5,x6,x7,x8,x9] t (0,0))):w.cell? ⟨g,0,none⟩=some x0/\w.cell? ⟨g,1,none⟩=some x1/\w.cell? ⟨g,2,none⟩=some x2/\w.cell? ⟨g,3,none⟩=some x3/\w.cell? ⟨g,4,none⟩=some x4/\w.cell? ⟨g,5,none⟩=some x5/\w.cell? ⟨g,6,none⟩=some x6/\w.cell? ⟨g,7,none⟩=some x7/\w.cell? ⟨g,8,none⟩=some x8/\w.cell? ⟨g,9,none⟩=some x9:=by
 refine⟨?_,?_,?_,?_,?_,?_,?_,?_,?_,?_⟩ <;> exact qg h _
theorem iz5 {t:TypeId} {S:Sta} (h:w.heap[g]?=some (.cells #[.int .i64 S.ax,.int .i64 S.ay,.int .i64 S.az,.int .i64 S.cx,.int .i64 S.cy] t (0,0))):IzV N 0 0 w (.slice (some ⟨g,0,none⟩) 5 5) 5 (l5 S):=by
 refine⟨rfl,some ⟨g,0,none⟩,5,rfl,q_r,by unfold maxLen; omega,fun _=>⟨g,0,rfl,fun i hi=>?_⟩⟩;rw [qg h];have hi':i=0\/i=1\/i=2\/i=3\/i=4:=by omega
 rcases hi' with rfl | rfl | rfl | rfl | rfl <;> rfl
theorem q2a {S:Sta} (h:jf 5 (fun i=>zo (l5 S i))=true):xJ S=2:=by
 unfold xJ;rw [h]
 rfl
theorem Yg {S:Sta} (h:S.f < 1\/1048576 < S.f):xJ S=2:=by
 unfold xJ
 rcases h with h | h
 ·rw [q_t h,Bool.or_true]; rfl
 ·rw [q_t h,Bool.or_true]; rfl
theorem VS {S:Sta} (h:jf 5 (fun i=>zo (l5 S i))=false) (h1:¬ S.f < 1) (h2:¬ 1048576 < S.f):xJ S=xO S.qa S.qb S.qc S.qd:=by
 unfold xJ;rw [h,q_f h1,q_f h2]
 rfl
theorem Vg (S:Sta) :
  Calls Tryz.prog 173 #[.int .i64 3,S.v] w (zG w (.int .i64 (xJ S))):=by
 obtain⟨r,hr⟩:=qf (xJ S);rw [<-hr.out];unfold Sta.v;go_enter Tryz.func173,Tryz.ntmps173;go_upto_region 1 with (fail);refine ql ?_;intro W hE hsz B0;obtain⟨p0,p1,p2,p3,p4,p5,p6,p7,p8,p9⟩:=zD B0;go_wp2_with (go_at_call 174; refine q_o ?_);refine qF ?_;intro W1 hE1 hsz1 B1;refine (q4f (N:=0) (iz5 B1)).mono ?_;obtain⟨b5,hb5⟩:=qf (jf 5 (fun i=>zo (l5 S i)));rw [<-hb5.out];rintro e w2 ⟨rfl,e2⟩;have E2:=hE1.trans e2;clear p0 p1 p2 p3 p4 p5 p6 p7 p8 p9 B1 e2 hsz1 hE1;replace B0:=E2.block B0;replace hE:=hE.trans E2;obtain⟨p0,p1,p2,p3,p4,p5,p6,p7,p8,p9⟩:=zD B0;cases b5 with
 | true =>
  have HR:Hid (r=2):=by rw [Hid,hr.out]; exact q2a hb5.out.symm
  go_wp2;go_ret;rw [HR.out];exact⟨rfl,hE⟩
 | false =>
 by_cases h1:S.f < 1
 ·have HR:Hid (r=2):=by rw [Hid,hr.out]; exact Yg (.inl h1)
  have t0:decide (S.f < 1)=true:=q_t h1;clear h1;go_wp2;go_ret;rw [HR.out];exact⟨rfl,hE⟩
 by_cases h2:1048576 < S.f
 ·have HR:Hid (r=2):=by rw [Hid,hr.out]; exact Yg (.inr h2)
  have t0:decide (S.f < 1)=false:=q_f h1;have t1:decide (1048576 < S.f)=true:=q_t h2;clear h1 h2;go_wp2;go_ret;rw [HR.out];exact⟨rfl,hE⟩
 have HR:Hid (r=xO S.qa S.qb S.qc S.qd):=by rw [Hid,hr.out]; exact VS hb5.out.symm h1 h2
 have t0:decide (S.f < 1)=false:=q_f h1;have t1:decide (1048576 < S.f)=false:=q_f h2;clear h1 h2 hr;go_wp2_with (go_at_call 212; refine q_o ?_);refine (q14 S.qa S.qb S.qc S.qd).mono ?_;rw [<-HR.out];rintro e w3 ⟨rfl,e3⟩;replace hE:=hE.trans e3;clear p0 p1 p2 p3 p4 p5 p6 p7 p8 p9 t0 t1 B0 HR
 by_cases hr0:r=0
 ·subst hr0;go_wp2;go_ret;exact⟨rfl,hE⟩
 ·have t2:(r != 0)=true:=by simpa using hr0
  clear hr0;go_wp2;go_ret;exact⟨rfl,hE⟩
theorem WG {gs:Nat} {t:TypeId} (S:Sta) (hb:w.heap[gs]?=some (.cells #[.int .i64 S.ax,.int .i64 S.ay,.int .i64 S.az,.int .i64 S.qa,.int .i64 S.qb,.int .i64 S.qc,.int .i64 S.qd,.int .i64 S.f,.int .i64 S.cx,.int .i64 S.cy] t (0,0))) :
  Calls Tryz.prog 128 #[.agg #[.int .i64 3,.slice (some ⟨gs,0,none⟩) 1 1,.slice none 0 0,.slice none 0 0]] w (zG w (.int .i64 (xJ S))):=by
 obtain⟨r,hr⟩:=qf (xJ S);rw [<-hr.out];have HB:=q_h hb;clear hb;go_enter Tryz.func128,Tryz.ntmps128;go_upto_region 1 with (fail);refine ql ?_;intro W hE hsz B0;obtain⟨p0,p1,p2,p3,-⟩:=cells4 B0;have HB0:=q_h B0;clear B0;go_wp2;clear p0 p1 p2 p3
 go_loopw [40] (fun iv wr=>∃ i:Nat,i<=1/\iv=.int .i64 i/\Hid (0 < i->r=0)/\Ext W wr) (fun iv _=>1 - (intOf iv).toNat)
 case atStart=>exact⟨0,by omega,rfl,fun h=>absurd h (by omega),Ext.refl W⟩
 case round =>
  obtain⟨i,hi,rfl,hA,hEr⟩:=hrel
  by_cases hi1:i < 1
  case neg =>
   obtain rfl:i=1:=by omega
   have HR:Hid (r=0):=hA.out (by omega);clear hA hi1;have B0:=hEr.block HB0.out;obtain⟨p0,p1,p2,p3,-⟩:=cells4 B0;replace hE:=hE.trans hEr;go_wp2;clear p0 p1 p2 p3;obtain⟨wa,hwa⟩:∃ wa,wa=wr:=⟨_,rfl⟩
   subst hwa
   go_loopw [55] (fun iv wr=>iv=.int .i64 0/\Ext wa wr) (fun iv _=>0)
   case atStart=>exact⟨rfl,Ext.refl _⟩
   case round =>
    obtain⟨rfl,hEv⟩:=hrel;replace B0:=hEv.block B0;obtain⟨p0,p1,p2,p3,-⟩:=cells4 B0;replace hE:=hE.trans hEv;have hmk:∀ w:World,(Instr.makeMap 208 none).run Tryz.prog w=.ok (.map (some w.heap.size)) (w.alloc (.map #[] 0)):=fun _=>rfl
    go_upto_region 21 with (fail);refine ql ?_;intro w8 e8 hsz8 BM;clear BM hmk;replace p0:=e8.cell p0;replace p1:=e8.cell p1;replace p2:=e8.cell p2;replace p3:=e8.cell p3;replace hE:=hE.trans e8;clear hEr hEv B0 hsz8 e8;go_wp2;clear p0 p1 p2 p3
    go_loopw [80] (fun iv wr=>iv=.int .i64 0/\Ext w8 wr) (fun iv _=>0)
    case atStart=>exact⟨rfl,Ext.refl _⟩
    case round =>
     obtain⟨rfl,hEv⟩:=hrel;go_wp2;go_ret;rw [HR.out];exact⟨rfl,hE.trans hEv⟩
  obtain rfl:i=0:=by omega
  clear hi1 hi;have B0:=hEr.block HB0.out;obtain⟨p0,p1,p2,p3,-⟩:=cells4 B0;obtain⟨q0,q1,q2,q3,q4,q5,q6,q7,q8,q9⟩:=zD ((hE.trans hEr).block HB.out);go_upto_region 8 with (fail);refine ql ?_;intro w3 e3 hsz3 B3;clear q0 q1 q2 q3 q4 q5 q6 q7 q8 q9;replace p0:=e3.cell p0;obtain⟨q0,q1,q2,q3,q4,q5,q6,q7,q8,q9⟩:=zD B3;go_wp2_with (go_at_call 173; refine q_o ?_);refine (Vg S).mono ?_;rw [<-hr.out];rintro e w4 ⟨rfl,e4⟩;have hE4:=(hEr.trans e3).trans e4;clear q0 q1 q2 q3 q4 q5 q6 q7 q8 q9 p0 p1 p2 p3 B3 e4 e3 hr
  by_cases hr0:r=0
  ·subst hr0;go_wp2;go_roundw
   case rel=>exact⟨1,by omega,by go_num,fun _=>(by first | trivial | rfl),hE4⟩
   case measure=>simp [intOf]
  ·have t2:(r != 0)=true:=by simpa using hr0
   clear hr0;go_wp2;go_ret;exact⟨rfl,hE.trans hE4⟩
def q51 (w:World) (b o:Nat) (S:Sta):Prop :=
 w.cell? ⟨b,o,none⟩=some (.int .i64 S.ax)/\w.cell? ⟨b,o+1,none⟩=some (.int .i64 S.ay)/\w.cell? ⟨b,o+2,none⟩=some (.int .i64 S.az)/\w.cell? ⟨b,o+3,none⟩=some (.int .i64 S.qa)/\w.cell? ⟨b,o+4,none⟩=some (.int .i64 S.qb)/\w.cell? ⟨b,o+5,none⟩=some (.int .i64 S.qc)/\w.cell? ⟨b,o+6,none⟩=some (.int .i64 S.qd)/\w.cell? ⟨b,o+7,none⟩=some (.int .i64 S.f)/\w.cell? ⟨b,o+8,none⟩=some (.int .i64 S.cx)/\w.cell? ⟨b,o+9,none⟩=some (.int .i64 S.cy)
theorem q51.ext {o:Nat} {S:Sta} (h:q51 w b o S) (e:Ext w w'):q51 w' b o S:=by
 obtain⟨h0,h1,h2,h3,h4,h5,h6,h7,h8,h9⟩:=h;exact⟨e.cell h0,e.cell h1,e.cell h2,e.cell h3,e.cell h4,e.cell h5,e.cell h6,e.cell h7,e.cell h8,e.cell h9⟩
def StsV (w:World) (v:Value) (n:Nat) (S:Nat->Sta):Prop :=
 ∃ A c,v=.slice A n c/\n<=c/\c<=maxLen/\(0 < n->∃ b off,A=some ⟨b,off,none⟩/\∀ i,i < n->q51 w b (off+i*10) (S i))
theorem StsV.ext {v:Value} {S:Nat->Sta} (h:StsV w v n S) (e:Ext w w'):StsV w' v n S:=by
 obtain⟨A,c,hv,h1,h2,h3⟩:=h;refine⟨A,c,hv,h1,h2,fun h0=>?_⟩;obtain⟨b,off,hA,hc⟩:=h3 h0;exact⟨b,off,hA,fun i hi=>(hc i hi).ext e⟩
theorem q1j (S:Sta) :
  Calls Tryz.prog 73 #[S.v] w (zG w (.int .i64 (xJ S))):=by
 obtain⟨r,hr⟩:=qf (xJ S);rw [<-hr.out];unfold Sta.v;go_enter Tryz.func73,Tryz.ntmps73;go_upto_region 1 with (fail);refine ql ?_;intro W hE hsz B0;obtain⟨p0,p1,p2,p3,p4,p5,p6,p7,p8,p9⟩:=zD B0;go_wp2_with (go_at_call 128; refine q_o ?_);refine qF ?_;intro W1 hE1 hsz1 B1;refine (WG S B1).mono ?_;rw [<-hr.out];rintro e w2 ⟨rfl,e2⟩;go_wp2;go_ret;exact⟨rfl,(hE.trans hE1).trans e2⟩
theorem q07:z < -1048576->zo z=true:=fun h=>by unfold zo; rw [q_t h]; rfl
theorem q05:1048576 < z->zo z=true:=fun h=>by unfold zo; rw [q_t h,Bool.or_true]
theorem q06 (h:¬ z < -1048576) (h':¬ 1048576 < z):zo z=false:=by unfold zo; rw [q_f h,q_f h']; rfl
theorem Wl {v:Value} {z:Nat->Int} (h:IzV N lo hi w v n z) :
  Calls Tryz.prog 75 #[v,.int .i64 1048576] w (zG w (.bool (!jf n (fun i=>zo (z i))))):=by
 obtain⟨r,hr⟩:=qf (jf n (fun i=>zo (z i)));rw [<-hr.out];have HI:=q_h h;obtain⟨A,c,rfl,hnc,hcm⟩:=h.form;unfold maxLen at hcm;clear h;go_enter Tryz.func75,Tryz.ntmps75;go_wp2
 go_loopw [5] (fun iv wr=>∃ i:Nat,i<=n/\iv=.int .i64 i/\Hid (∀ j,j < i->zo (z j)=false)/\Ext w wr) (fun iv _=>n - (intOf iv).toNat)
 case atStart=>exact⟨0,by omega,rfl,fun j hj=>absurd hj (by omega),Ext.refl w⟩
 case round =>
  obtain⟨i,hi,rfl,hA,hE⟩:=hrel
  by_cases hin:i < n
  case neg =>
   obtain rfl:i=n:=by omega
   have HR:Hid (false=r):=by rw [Hid,hr.out]; symm; exact kD.2 (fun j hj=>hA.out j hj)
   have hq:decide ((i:Int) < (i:Int))=false:=q_f (by omega);go_wp2;go_ret;rw [<-HR.out];exact⟨rfl,hE⟩
  have hin':(i:Int) < n:=by omega
  obtain⟨b,off,rfl,hx⟩:=(HI.out.ext hE).addr (by omega);have p0:=hx i hin;obtain⟨u,hu⟩:=qf (z i);rw [<-hu.out] at p0;clear hx
  have HT:Hid (zo u=true->true=r):=fun h=>by
   rw [hr.out]
   symm
   exact jR hin (by rw [<-hu.out]; exact h)
  by_cases k0:u < -1048576
  ·have HR:=HT.out (q07 k0);have t0:decide (u < -1048576)=true:=decide_eq_true k0;subst HR;clear k0;go_wp2;go_ret;exact⟨rfl,hE⟩
  have t0:decide (u < -1048576)=false:=decide_eq_false k0
  by_cases k1:1048576 < u
  ·have HR:=HT.out (q05 k1);have t1:decide (1048576 < u)=true:=decide_eq_true k1;subst HR;clear k0 k1;go_wp2;go_ret;exact⟨rfl,hE⟩
  have t1:decide (1048576 < u)=false:=decide_eq_false k1
  have HA2:Hid (∀ j,j < i+1->zo (z j)=false):=fun j hj=>by
   by_cases hji:j=i
   ·rw [hji,<-hu.out]; exact q06 k0 k1
   ·exact hA.out j (by omega)
  clear k0 k1;go_wp2;go_roundw
  case rel=>exact⟨i+1,by omega,by go_num,HA2.out,hE⟩
  case measure=>simp [intOf]; omega
theorem iz4 {t:TypeId} {a b c d:Int} (h:w.heap[g]?=some (.cells #[.int .i64 a,.int .i64 b,.int .i64 c,.int .i64 d] t (0,0))):IzV N 0 0 w (.slice (some ⟨g,0,none⟩) 4 4) 4 (l4 a b c d):=by
 refine⟨rfl,some ⟨g,0,none⟩,4,rfl,q_r,by unfold maxLen; omega,fun _=>⟨g,0,rfl,fun i hi=>?_⟩⟩;rw [qg h];have hi':i=0\/i=1\/i=2\/i=3:=by omega
 rcases hi' with rfl | rfl | rfl | rfl <;> rfl
theorem q2S (a b c d:Int) :
  Calls Tryz.prog 129 #[quV a b c d] w (fun e w'=>∃ g,e=.returned (.slice (some ⟨g,0,none⟩) 4 4)/\IzV 0 0 0 w' (.slice (some ⟨g,0,none⟩) 4 4) 4 (l4 a b c d)/\Ext w w'):=by
 unfold quV;go_enter Tryz.func129,Tryz.ntmps129;go_upto_region 1 with (fail);refine ql ?_;intro W hE hsz B0;obtain⟨p0,p1,p2,p3,-⟩:=cells4 B0;go_wp2;refine ql ?_;intro W1 hE1 hsz1 B1;have B1':W1.heap[W.heap.size]?=some (.cells #[.int .i64 a,.int .i64 b,.int .i64 c,.int .i64 d] 3 (0,0)):=B1
 first | go_ret | skip
 exact⟨_,rfl,iz4 B1',hE.trans hE1⟩
theorem Yj (a b c d:Int) :
  Calls Tryz.prog 76 #[quV a b c d] w (zG w (.int .i64 (xO a b c d))):=by
 obtain⟨r,hr⟩:=qf (xO a b c d);rw [<-hr.out];go_enter Tryz.func76,Tryz.ntmps76;unfold quV;go_upto_region 1 with (fail);refine ql ?_;intro W hE hsz B0;obtain⟨p0,p1,p2,p3,-⟩:=cells4 B0;obtain⟨zb,hzb⟩:=qf (decide (a=0/\b=0/\c=0/\d=0))
 go_cut [22] (fun v wx=>v=.bool zb/\wx=W)
 case first =>
  by_cases ha:a=0
  case neg =>
   have HZ:Hid (false=zb):=by rw [Hid,hzb.out,q_f (fun h=>ha h.1)]
   have t0:(a == 0)=false:=by simpa using ha
   clear ha;go_wp2_with fail
   go_meet
   exact⟨by rw [<-HZ.out],rfl⟩
  have t0:(a == 0)=true:=by simpa using ha
  by_cases hb:b=0
  case neg =>
   have HZ:Hid (false=zb):=by rw [Hid,hzb.out,q_f (fun h=>hb h.2.1)]
   have t1:(b == 0)=false:=by simpa using hb
   clear ha hb;go_wp2_with fail
   go_meet
   exact⟨by rw [<-HZ.out],rfl⟩
  have t1:(b == 0)=true:=by simpa using hb
  by_cases hc:c=0
  case neg =>
   have HZ:Hid (false=zb):=by rw [Hid,hzb.out,q_f (fun h=>hc h.2.2.1)]
   have t2:(c == 0)=false:=by simpa using hc
   clear ha hb hc;go_wp2_with fail
   go_meet
   exact⟨by rw [<-HZ.out],rfl⟩
  have t2:(c == 0)=true:=by simpa using hc
  by_cases hd:d=0
  case neg =>
   have HZ:Hid (false=zb):=by rw [Hid,hzb.out,q_f (fun h=>hd h.2.2.2)]
   have t3:(d == 0)=false:=by simpa using hd
   clear ha hb hc hd;go_wp2_with fail
   go_meet
   exact⟨by rw [<-HZ.out],rfl⟩
  have t3:(d == 0)=true:=by simpa using hd
  have HZ:Hid (true=zb):=by rw [Hid,hzb.out,decide_eq_true ⟨ha,hb,hc,hd⟩]
  clear ha hb hc hd;go_wp2_with fail
  go_meet
  exact⟨by rw [<-HZ.out],rfl⟩
 obtain⟨rfl,rfl⟩:=hcut;obtain⟨W,hWc⟩:∃ x,x=wc:=⟨_,rfl⟩
 subst hWc;cases zb with
 | true =>
  have HR:Hid (r=1):=by
   rw [Hid,hr.out];unfold xO;rw [if_pos (of_decide_eq_true hzb.out.symm)]
  go_wp2;go_ret;rw [HR.out];exact⟨rfl,hE⟩
 | false =>
 have HR:Hid (r=if zo a || zo b || zo c || zo d then 3 else 0):=by
  rw [Hid,hr.out];unfold xO;rw [if_neg (of_decide_eq_false hzb.out.symm)]
 clear hzb;go_wp2_with (go_at_call 129; refine q_o ?_);refine (q2S a b c d).mono ?_;rintro e w1 ⟨gl,rfl,hl,e1⟩;replace hE:=hE.trans e1;have HL:=q_h hl;clear p0 p1 p2 p3 B0 e1 hl;go_wp2
 go_loopw [4] (fun iv wr=>∃ i:Nat,i<=4/\iv=.int .i64 i/\Hid (∀ j,j < i->zo (l4 a b c d j)=false)/\Ext w1 wr) (fun iv _=>4 - (intOf iv).toNat)
 case atStart=>exact⟨0,by omega,rfl,fun j hj=>absurd hj (by omega),Ext.refl _⟩
 case round =>
  obtain⟨i,hi,rfl,hA,hEr⟩:=hrel
  by_cases hi4:i < 4
  case neg =>
   obtain rfl:i=4:=by omega
   have HR2:Hid (r=0):=by
    have k0:=hA.out 0 (by omega);have k1:=hA.out 1 (by omega);have k2:=hA.out 2 (by omega);have k3:=hA.out 3 (by omega);have k0':zo a=false:=k0;have k1':zo b=false:=k1;have k2':zo c=false:=k2;have k3':zo d=false:=k3;rw [Hid,HR.out,k0',k1',k2',k3']
    rfl
   go_wp2;go_ret;rw [HR2.out];exact⟨rfl,hE.trans hEr⟩
  have hi4':(i:Int) < 4:=by omega
  obtain⟨bb,off,hbo,hx⟩:=(HL.out.ext hEr).addr (by omega);injection hbo with hbo
  injection hbo with h1 h2
  subst h1 h2;have q0:=hx i hi4;rw [Nat.zero_add] at q0;obtain⟨u,hu⟩:=qf (l4 a b c d i);rw [<-hu.out] at q0;clear hx
  have HFT:Hid (zo u=true->r=3):=fun h=>by
   rw [HR.out];have hi':i=0\/i=1\/i=2\/i=3:=by omega
   rw [hu.out] at h
   rcases hi' with rfl | rfl | rfl | rfl
   ·have h':zo a=true:=h;rw [h']
    rfl
   ·have h':zo b=true:=h;rw [h',Bool.or_true]
    rfl
   ·have h':zo c=true:=h;rw [h',Bool.or_true]
    rfl
   ·have h':zo d=true:=h;rw [h',Bool.or_true]
    rfl
  by_cases k1:1048576 < u
  ·have HR3:Hid (r=3):=HFT.out (q05 k1);have t1:decide (1048576 < u)=true:=decide_eq_true k1;clear k1;go_wp2;go_ret;rw [HR3.out];exact⟨rfl,hE.trans hEr⟩
  have t1:decide (1048576 < u)=false:=decide_eq_false k1
  by_cases k0:u < -1048576
  ·have HR3:Hid (r=3):=HFT.out (q07 k0);have t0:decide (u < -1048576)=true:=decide_eq_true k0;clear k0 k1;go_wp2;go_ret;rw [HR3.out];exact⟨rfl,hE.trans hEr⟩
  have t0:decide (u < -1048576)=false:=decide_eq_false k0
  have HA2:Hid (∀ j,j < i+1->zo (l4 a b c d j)=false):=fun j hj=>by
   by_cases hji:j=i
   ·rw [hji,<-hu.out]; exact q06 k0 k1
   ·exact hA.out j (by omega)
  clear k0 k1;go_wp2;go_roundw
  case rel=>exact⟨i+1,by omega,by go_num,HA2.out,hEr⟩
  case measure=>simp [intOf]; omega
theorem q2T (S:Sta) :
  Calls Tryz.prog 28 #[.int .i64 3,S.v] w (zG w (.int .i64 (xJ S))):=by
 obtain⟨r,hr⟩:=qf (xJ S);rw [<-hr.out];unfold Sta.v;go_enter Tryz.func28,Tryz.ntmps28;go_upto_region 1 with (fail);refine ql ?_;intro W hE hsz B0;obtain⟨p0,p1,p2,p3,p4,p5,p6,p7,p8,p9⟩:=zD B0;go_wp2_with (go_at_call 75; refine q_o ?_);refine qF ?_;intro W1 hE1 hsz1 B1;refine (Wl (N:=0) (iz5 B1)).mono ?_;obtain⟨b5,hb5⟩:=qf (jf 5 (fun i=>zo (l5 S i)));rw [<-hb5.out];rintro e w2 ⟨rfl,e2⟩;have E2:=hE1.trans e2;clear p0 p1 p2 p3 p4 p5 p6 p7 p8 p9 B1 e2 hsz1 hE1;replace B0:=E2.block B0;replace hE:=hE.trans E2;obtain⟨p0,p1,p2,p3,p4,p5,p6,p7,p8,p9⟩:=zD B0;cases b5 with
 | true =>
  have HR:Hid (r=2):=by rw [Hid,hr.out]; exact q2a hb5.out.symm
  go_wp2;go_ret;rw [HR.out];exact⟨rfl,hE⟩
 | false =>
 by_cases h1:S.f < 1
 ·have HR:Hid (r=2):=by rw [Hid,hr.out]; exact Yg (.inl h1)
  have t0:decide (S.f < 1)=true:=q_t h1;clear h1;go_wp2;go_ret;rw [HR.out];exact⟨rfl,hE⟩
 by_cases h2:1048576 < S.f
 ·have HR:Hid (r=2):=by rw [Hid,hr.out]; exact Yg (.inr h2)
  have t0:decide (S.f < 1)=false:=q_f h1;have t1:decide (1048576 < S.f)=true:=q_t h2;clear h1 h2;go_wp2;go_ret;rw [HR.out];exact⟨rfl,hE⟩
 have HR:Hid (r=xO S.qa S.qb S.qc S.qd):=by rw [Hid,hr.out]; exact VS hb5.out.symm h1 h2
 have t0:decide (S.f < 1)=false:=q_f h1;have t1:decide (1048576 < S.f)=false:=q_f h2;clear h1 h2 hr;go_wp2_with (go_at_call 76; refine q_o ?_);refine (Yj S.qa S.qb S.qc S.qd).mono ?_;rw [<-HR.out];rintro e w3 ⟨rfl,e3⟩;replace hE:=hE.trans e3;clear p0 p1 p2 p3 p4 p5 p6 p7 p8 p9 t0 t1 B0 HR
 by_cases hr0:r=0
 ·subst hr0;go_wp2;go_ret;exact⟨rfl,hE⟩
 ·have t2:(r != 0)=true:=by simpa using hr0
  clear hr0;go_wp2;go_ret;exact⟨rfl,hE⟩
def jA (S:Sta) (i j:Nat):Int :=
 if i=0 then (if j=0 then S.qa*S.qa+S.qb*S.qb - S.qc*S.qc - S.qd*S.qd else if j=1 then 2*(S.qb*S.qc+S.qa*S.qd) else 2*(S.qb*S.qd - S.qa*S.qc))
 else if i=1 then (if j=0 then 2*(S.qb*S.qc - S.qa*S.qd) else if j=1 then S.qa*S.qa - S.qb*S.qb+S.qc*S.qc - S.qd*S.qd else 2*(S.qc*S.qd+S.qa*S.qb))
 else (if j=0 then 2*(S.qb*S.qd+S.qa*S.qc) else if j=1 then 2*(S.qc*S.qd - S.qa*S.qb) else S.qa*S.qa - S.qb*S.qb - S.qc*S.qc+S.qd*S.qd)
def ww (S:Sta) (j:Nat):Int:=if j=0 then S.ax else if j=1 then S.ay else S.az
def dS (S:Sta) (p:Nat->Rat) (i:Nat):Nat->Rat
 | 0=>0
 | n+1=>dS S p i n+(jA S i n:Rat)*(p n - (ww S n:Rat))
def q0H (S:Sta) (p:Nat->Rat):Rat:=(S.cx:Rat)+(S.f:Rat) / dS S p 2 3*dS S p 0 3
def q0G (S:Sta) (p:Nat->Rat):Rat:=(S.cy:Rat)+(S.f:Rat) / dS S p 2 3*dS S p 1 3
structure KZ (S:Sta):Prop where
 ax : -1048576<=S.ax/\S.ax<=1048576
 ay : -1048576<=S.ay/\S.ay<=1048576
 az : -1048576<=S.az/\S.az<=1048576
 cx : -1048576<=S.cx/\S.cx<=1048576
 cy : -1048576<=S.cy/\S.cy<=1048576
 f:1<=S.f/\S.f<=1048576
 qa : -1048576<=S.qa/\S.qa<=1048576
 qb : -1048576<=S.qb/\S.qb<=1048576
 qc : -1048576<=S.qc/\S.qc<=1048576
 qd : -1048576<=S.qd/\S.qd<=1048576
 q0:¬ (S.qa=0/\S.qb=0/\S.qc=0/\S.qd=0)
abbrev q4h:Value:=.agg #[.bool false,.slice none 0 0,.bool false,.slice none 0 0,.bool false,.slice none 0 0,.bool false,.slice none 0 0]
theorem qP {x y:Int} (hx : -1048576<=x/\x<=1048576) (hy : -1048576<=y/\y<=1048576) : -1099511627776<=x*y/\x*y<=1099511627776:=by
 have h1:(x*y).natAbs<=1048576*1048576:=by
  rw [Int.natAbs_mul];exact Nat.mul_le_mul (by omega) (by omega)
 omega
theorem Yi {S:Sta} (h:KZ S) (i j:Nat) : -8796093022208<=jA S i j/\jA S i j<=8796093022208:=by
 have aa:=qP h.qa h.qa;have bb:=qP h.qb h.qb;have cc:=qP h.qc h.qc;have dd:=qP h.qd h.qd;have ab:=qP h.qa h.qb;have ac:=qP h.qa h.qc;have ad:=qP h.qa h.qd;have bc:=qP h.qb h.qc;have bd:=qP h.qb h.qd;have cd:=qP h.qc h.qd;unfold jA
 split
 ·split
  ·omega
  ·split <;> omega
 ·split
  ·split
   ·omega
   ·split <;> omega
  ·split
   ·omega
   ·split <;> omega
theorem Yf {S:Sta} (h:KZ S) (j:Nat) : -1048576<=ww S j/\ww S j<=1048576:=by
 unfold ww
 split
 ·exact h.ax
 ·split
  ·exact h.ay
  ·exact h.az
theorem q0e {S:Sta} (h:KZ S) {K:Nat} {p:Nat->Rat} (hp:∀ i,i < 3->Ht K (p i)) (i:Nat):∀ n,n<=3->Ht (n*(K+68)+1) (dS S p i n)
 | 0,_=>(qy (k:=0) (m:=1) (by decide) (by decide)).mono (by omega)
 | n+1,hn=>by
  have h0:=q0e h hp i n (by omega);have h1:=Yi h i n;have h2:=Yf h n;have h3:=(qy (k:=jA S i n) (m:=44) (by omega) (by omega)).mul ((hp n (by omega)).sub (qy (k:=ww S n) (m:=21) (by omega) (by omega)));exact (h0.add h3).mono (by rw [Nat.succ_mul]; omega)
end Go.Proofs.YtphpkhoeplcedaaGreat
