import Derived.Test.YtphpkhoeplcedaaGreatWb16
import Derived.Laws.Rows
set_option linter.all false
set_option maxHeartbeats 8000000
set_option maxRecDepth 100000
namespace Go.Proofs.YtphpkhoeplcedaaGreat
variable {w w':World} {N n lo hi k g i c j K:Nat} {v s:Value} {G:Grd} {l:List Nat} {x:Rat} {R:Raw} {A:Option Addr}
theorem jJ (x:Rat):flo x=x.floor:=by
 rw [Rat.floor_def];unfold flo vK;have hd:0 < x.den:=x.den_pos;have h0:decide ((x.den:Int) < 0)=false:=q_f (by omega);rw [h0]
 by_cases hx:x.num < 0
 ·rw [if_neg (by rw [q_t hx]; decide)];obtain⟨n,hn⟩:∃ n:Nat,x.num = -(n:Int):=⟨x.num.natAbs,by omega⟩
  rw [hn,Int.neg_ediv,Int.natAbs_neg,Int.natAbs_natCast,Int.natAbs_natCast]
  by_cases hm:n % x.den=0
  ·rw [if_pos hm,if_pos (Int.natCast_dvd_natCast.2 (Nat.dvd_of_mod_eq_zero hm))]
   simp
  ·rw [if_neg hm,if_neg (fun h=>hm (Nat.mod_eq_zero_of_dvd (Int.natCast_dvd_natCast.1 h))),Int.sign_eq_one_of_pos (by omega)]
   simp
 ·rw [if_pos (by rw [q_f hx])];obtain⟨n,hn⟩:∃ n:Nat,x.num=(n:Int):=⟨x.num.natAbs,by omega⟩
  rw [hn,Int.natAbs_natCast,Int.natAbs_natCast]
  simp
theorem q4K (x:Rat):(flo x:Rat)<=x:=by rw [jJ]; exact Rat.floor_le x
theorem q4k (x:Rat):x < (flo x:Rat)+1:=by
 have h:=Rat.lt_floor_add_one x;rw [jJ];simpa [Rat.intCast_add] using h
theorem q4J {k:Int} (h0:(k:Rat)<=x) (h1:x < (k:Rat)+1):flo x=k:=by
 rw [jJ];have h2:k<=x.floor:=Rat.le_floor_iff.2 h0;have h3:x.floor < k+1:=Rat.floor_lt_iff.2 (by simpa [Rat.intCast_add] using h1);omega
theorem QJ:x.num.sign=0↔x=0:=by
 rw [Int.sign_eq_zero_iff_zero,Rat.num_eq_zero]
theorem wY {X:Rat} {n i:Int} {a:Rat}:(i,a)∈vW X n↔0<=i/\i < n - 1/\(i:Rat)<=X/\X<=(i:Rat)+1/\a=X - (i:Rat):=by
 have hl:=q4K X;have hu:=q4k X;unfold vW;rw [List.mem_append]
 constructor
 ·rintro (h | h)
  ·unfold q2w at h
   split at h
   ·rename_i hc
    rw [List.mem_singleton] at h;injection h with h1 h2
    subst h1 h2;exact⟨hc.1,hc.2,hl,by grind,rfl⟩
   ·cases h
  ·unfold XU at h
   split at h
   ·rename_i hc
    rw [List.mem_singleton] at h;injection h with h1 h2
    have h3:=QJ.1 hc.1;subst h1 h2;have h4:((flo X - 1:Int):Rat)=(flo X:Rat) - 1:=by rw [Rat.intCast_sub]; rfl
    have h5:((1:Int):Rat)=1:=rfl;refine⟨by omega,by omega,?_,?_,?_⟩ <;> rw [h4] <;> grind
   ·cases h
 ·rintro⟨h0,h1,h2,h3,rfl⟩
  by_cases hlt:X < (i:Rat)+1
  ·have hf:=q4J h2 hlt
   left
   unfold q2w;rw [hf,if_pos ⟨h0,h1⟩];exact List.mem_singleton.2 rfl
  ·right
   have hX:X=((i+1:Int):Rat):=by rw [Rat.intCast_add]; show X=(i:Rat)+1; grind
   have hf:flo X=i+1:=by rw [jJ,hX,Rat.floor_intCast]
   unfold XU;rw [hf,if_pos ⟨by rw [hX,QJ]; grind,by omega,by omega⟩];refine List.mem_singleton.2 ?_;rw [show i+1 - 1=i by omega,hX,Rat.intCast_add]
   congr 1
   grind
theorem wW {y:Rat}:0<=YP x y↔y<=x:=by
 unfold YP;rw [Rat.le_iff]
 constructor
 ·intro h
  rcases Int.lt_trichotomy (x.num*y.den - y.num*x.den) 0 with h1 | h1 | h1
  ·rw [Int.sign_eq_neg_one_of_neg h1] at h; omega
  ·omega
  ·omega
 ·intro h
  rcases Int.lt_trichotomy (x.num*y.den - y.num*x.den) 0 with h1 | h1 | h1
  ·omega
  ·rw [h1]; decide
  ·rw [Int.sign_eq_one_of_pos h1]; omega
theorem Zu {y:Rat}:0<=-(YP x y)↔x<=y:=by
 unfold YP;rw [Rat.le_iff]
 constructor
 ·intro h
  rcases Int.lt_trichotomy (x.num*y.den - y.num*x.den) 0 with h1 | h1 | h1
  ·omega
  ·omega
  ·rw [Int.sign_eq_one_of_pos h1] at h; omega
 ·intro h
  rcases Int.lt_trichotomy (x.num*y.den - y.num*x.den) 0 with h1 | h1 | h1
  ·rw [Int.sign_eq_neg_one_of_neg h1]; decide
  ·rw [h1]; decide
  ·omega
structure InT (G:Grd) (X Y:Rat) (i j:Int) (r:Nat):Prop where
 i0:0<=i
 i1:i < G.wd - 1
 j0:0<=j
 j1:j < G.ht - 1
 a0:(i:Rat)<=X
 a1:X<=(i:Rat)+1
 b0:(j:Rat)<=Y
 b1:Y<=(j:Rat)+1
 d0:r=0->Y - (j:Rat)<=X - (i:Rat)
 d1:r=1->X - (i:Rat)<=Y - (j:Rat)
 z0:zAt G i j≠jm
 z1:thR G i j r≠jm
 z2:zAt G (i+1) (j+1)≠jm
def plT (G:Grd) (X Y:Rat) (i j:Int) (r:Nat):Rat :=
 ((zAt G i j:Int):Rat)+fiR (X - i) (Y - j) r*((thR G i j r - zAt G i j:Int):Rat)+seR (X - i) (Y - j) r*((zAt G (i+1) (j+1) - thR G i j r:Int):Rat)
def q3K (G:Grd) (X Y h:Rat):Prop:=∃ i j r,r < 2/\InT G X Y i j r/\plT G X Y i j r=h
theorem Jn {X Y:Rat} {i j:Int} {r:Nat} (hr:r < 2) {h:Rat} (hi:(i,X - (i:Rat))∈vW X G.wd) (hj:(j,Y - (j:Rat))∈vW Y G.ht) :
  QZ G i j (X - i) (Y - j) r=some h↔InT G X Y i j r/\plT G X Y i j r=h:=by
 obtain⟨i0,i1,a0,a1,-⟩:=wY.1 hi;obtain⟨j0,j1,b0,b1,-⟩:=wY.1 hj
 have hord:0<=orR (X - i) (Y - j) r↔(r=0->Y - (j:Rat)<=X - (i:Rat))/\(r=1->X - (i:Rat)<=Y - (j:Rat)):=by
  unfold orR;have hr':r=0\/r=1:=by omega
  rcases hr' with rfl | rfl
  ·rw [if_neg (by omega),wW]; simp
  ·rw [if_pos rfl,Zu]; simp
 unfold QZ plT
 constructor
 ·intro h
  split at h
  ·rename_i hc
   injection h with h
   exact⟨⟨i0,i1,j0,j1,a0,a1,b0,b1,(hord.1 hc.1).1,(hord.1 hc.1).2,hc.2.1,hc.2.2.1,hc.2.2.2⟩,h⟩
  ·cases h
 ·rintro⟨hc,h⟩;rw [if_pos ⟨hord.2 ⟨hc.d0,hc.d1⟩,hc.z0,hc.z1,hc.z2⟩,h]
theorem VJ (a b:Int):((a - b:Int):Rat)=(a:Rat) - (b:Rat):=Rat.intCast_sub a b
theorem jg (a:Int):((a+1:Int):Rat)=(a:Rat)+1:=by rw [Rat.intCast_add]; rfl
theorem pl0 (G:Grd) (X Y:Rat) (i j:Int):plT G X Y i j 0=(zAt G i j:Rat)+(X - i)*((zAt G (i+1) j:Rat) - (zAt G i j:Rat))+(Y - j)*((zAt G (i+1) (j+1):Rat) - (zAt G (i+1) j:Rat)):=by
 unfold plT fiR seR thR;simp only [if_true,VJ]
theorem pl1 (G:Grd) (X Y:Rat) (i j:Int):plT G X Y i j 1=(zAt G i j:Rat)+(Y - j)*((zAt G i (j+1):Rat) - (zAt G i j:Rat))+(X - i)*((zAt G (i+1) (j+1):Rat) - (zAt G i (j+1):Rat)):=by
 unfold plT fiR seR thR;simp only [if_neg (show ¬ (1:Nat)=0 by omega),VJ]
theorem adj {i i':Int} {X:Rat} (h0:(i:Rat)<=X) (h1:X<=(i:Rat)+1) (h2:(i':Rat)<=X) (h3:X<=(i':Rat)+1):i'=i\/(i'=i+1/\X=(i:Rat)+1)\/(i=i'+1/\X=(i':Rat)+1):=by
 have k1:i'<=i+1:=by
  have:(i':Rat)<=((i+1:Int):Rat):=by rw [jg]; grind
  exact Rat.intCast_le_intCast.1 this
 have k2:i<=i'+1:=by
  have:(i:Rat)<=((i'+1:Int):Rat):=by rw [jg]; grind
  exact Rat.intCast_le_intCast.1 this
 have hc:i'=i\/i'=i+1\/i=i'+1:=by omega
 rcases hc with h | h | h
 ·exact .inl h
 ·subst h; rw [jg] at h2; exact .inr (.inl ⟨rfl,by grind⟩)
 ·subst h; rw [jg] at h0; exact .inr (.inr ⟨rfl,by grind⟩)
theorem q1e {X Y:Rat} {i j i' j':Int} {r r':Nat} (hr:r < 2) (hr':r' < 2) (h:InT G X Y i j r) (h':InT G X Y i' j' r'):plT G X Y i j r=plT G X Y i' j' r':=by
 have e1:=adj h.a0 h.a1 h'.a0 h'.a1;have e2:=adj h.b0 h.b1 h'.b0 h'.b1;have d0:=h.d0;have d1:=h.d1;have d0':=h'.d0;have d1':=h'.d1;have r0:r=0\/r=1:=by omega
 have r1:r'=0\/r'=1:=by omega
 have a0:=h.a0;have a1:=h.a1;have b0:=h.b0;have b1:=h.b1;clear h h' hr hr';have q1:Y - (j:Rat)=X - (i:Rat)\/Y - (j:Rat) < X - (i:Rat)\/X - (i:Rat) < Y - (j:Rat):=by grind
 have q2:Y - (j':Rat)=X - (i':Rat)\/Y - (j':Rat) < X - (i':Rat)\/X - (i':Rat) < Y - (j':Rat):=by grind
 have q3:X=(i:Rat)\/(i:Rat) < X:=by grind
 have q4:Y=(j:Rat)\/(j:Rat) < Y:=by grind
 have q5:X=(i:Rat)+1\/X < (i:Rat)+1:=by grind
 have q6:Y=(j:Rat)+1\/Y < (j:Rat)+1:=by grind
 rcases e1 with rfl | ⟨rfl,hX⟩ | ⟨rfl,hX⟩ <;> rcases e2 with rfl | ⟨rfl,hY⟩ | ⟨rfl,hY⟩ <;> rcases r0 with rfl | rfl <;> rcases r1 with rfl | rfl <;> simp only [pl0,pl1,jg,forall_const,Nat.zero_ne_one,Nat.one_ne_zero,true_imp_iff,reduceCtorEq,false_imp_iff] at * <;> grind
theorem Jo {X Y h h':Rat} (k:q3K G X Y h) (k':q3K G X Y h'):h=h':=by
 obtain⟨i,j,r,hr,ht,rfl⟩:=k;obtain⟨i',j',r',hr',ht',rfl⟩:=k';exact q1e hr hr' ht ht'
theorem q43 {X Y:Rat} {i j:Int} {h:Rat} (hi:(i,X - (i:Rat))∈vW X G.wd) (hj:(j,Y - (j:Rat))∈vW Y G.ht) (hs:sqF G (i,X - (i:Rat)) (j,Y - (j:Rat))=some h):q3K G X Y h:=by
 unfold sqF at hs;cases h0:QZ G i j (X - i) (Y - j) 0 with
 | some q =>
  rw [show QZ G (i,X - (i:Rat)).1 (j,Y - (j:Rat)).1 (i,X - (i:Rat)).2 (j,Y - (j:Rat)).2 0=some q from h0] at hs;obtain rfl:q=h:=by simpa using hs
  have:=(Jn (by omega) hi hj).1 h0;exact⟨i,j,0,by omega,this.1,this.2⟩
 | none =>
  rw [show QZ G (i,X - (i:Rat)).1 (j,Y - (j:Rat)).1 (i,X - (i:Rat)).2 (j,Y - (j:Rat)).2 0=none from h0] at hs;have h1:QZ G i j (X - i) (Y - j) 1=some h:=by simpa using hs
  have:=(Jn (by omega) hi hj).1 h1;exact⟨i,j,1,by omega,this.1,this.2⟩
theorem Qu {y h:Rat} (hh:Jd G x y=some h):q3K G (zX x G.x0 G.st) (zX y G.y0 G.st) h:=by
 unfold Jd q1C at hh;obtain⟨⟨i,a⟩,hi,hh⟩:=List.exists_of_findSome?_eq_some hh;unfold q48 at hh;obtain⟨⟨j,b⟩,hj,hh⟩:=List.exists_of_findSome?_eq_some hh;have h1:=(wY.1 hi).2.2.2.2;have h2:=(wY.1 hj).2.2.2.2;subst h1 h2;exact q43 hi hj hh
theorem ZI {y h:Rat} (k:q3K G (zX x G.x0 G.st) (zX y G.y0 G.st) h):Jd G x y=some h:=by
 cases hh:Jd G x y with
 | some q=>rw [Jo (Qu hh) k]
 | none =>
  exfalso
  obtain⟨i,j,r,hr,ht,-⟩:=k;unfold Jd q1C at hh;have hi:=wY.2 ⟨ht.i0,ht.i1,ht.a0,ht.a1,rfl⟩;have hj:=wY.2 ⟨ht.j0,ht.j1,ht.b0,ht.b1,rfl⟩;have h1:=List.findSome?_eq_none_iff.1 hh _ hi;unfold q48 at h1;have h2:=List.findSome?_eq_none_iff.1 h1 _ hj;unfold sqF at h2;have h3:=(Jn hr hi hj).2 ⟨ht,rfl⟩;have hr':r=0\/r=1:=by omega
  rcases hr' with rfl | rfl
  ·simp only [h3] at h2;cases h2
  ·rcases hq:QZ G i j (zX x G.x0 G.st - i) (zX y G.y0 G.st - j) 0 with _ | q
   ·simp only [hq,h3] at h2;cases h2
   ·simp only [hq] at h2;cases h2
def lin (p q t:Rat):Rat:=p+t*(q - p)
theorem ZX (p q p' q' t:Rat):lin p q t - lin p' q' t=lin (p - p') (q - q') t:=by unfold lin; grind
theorem JJ (p q t:Rat) : -(lin p q t)=lin (-p) (-q) t:=by unfold lin; grind
theorem q1o (p t:Rat):lin p p t=p:=by unfold lin; grind
theorem jU (p q t:Rat) (x0 st:Int):zX (lin p q t) x0 st=lin (zX p x0 st) (zX q x0 st) t:=by
 unfold zX lin;rw [Rat.div_def,Rat.div_def,Rat.div_def]
 grind
theorem xR {a b:Rat} (ha:0 < a) (hb:0 < b):0 < a*b:=Rat.mul_pos ha hb
theorem xu {a b:Rat} (ha:0<=a) (hb:0<=b):0<=a*b:=Rat.mul_nonneg ha hb
theorem q3x {a b:Rat} (ha:0<=a) (hb:a < b):0<=a / b/\a / b < 1/\a / b*b=a:=by
 have hb0:0 < b:=by grind
 have h1:a / b*b=a:=Rat.div_mul_cancel (by grind);refine⟨?_,?_,h1⟩
 ·apply Classical.byContradiction
  intro h;have:=xR (a:=-(a / b)) (b:=b) (by grind) hb0
  grind
 ·apply Classical.byContradiction
  intro h;have:=xu (a:=a / b - 1) (b:=b) (by grind) (by grind)
  grind
theorem Qr {p q k s e m t:Rat} (hs:s < m) (he:m < e) (h0:s<=t) (h1:t<=e) (h:k<=lin p q m) (hno:∀ u,s < u->u < e->p≠q->lin p q u≠k):k<=lin p q t:=by
 apply Classical.byContradiction
 intro hlt;have hlt:lin p q t < k:=by grind
 have hpq:p≠q:=by rintro rfl; rw [q1o] at h hlt; grind
 obtain⟨k1,k2,k3⟩:=q3x (a:=lin p q m - k) (b:=lin p q m - lin p q t) (by grind) (by grind)
 generalize (lin p q m - k) / (lin p q m - lin p q t)=th at k1 k2 k3
 have hroot:lin p q (m+(t - m)*th)=k:=by
  have:lin p q (m+(t - m)*th)=lin p q m - th*(lin p q m - lin p q t):=by unfold lin; grind
  rw [this,k3]; grind
 refine hno _ ?_ ?_ hpq hroot
 ·rcases Rat.le_total (a:=t) (b:=m) with ht | ht
  ·have:=xu (a:=m - t) (b:=th) (by grind) k1;have:=xu (a:=m - t) (b:=1 - th) (by grind) (by grind)
   by_cases htm:t=m
   ·subst htm; grind
   ·have:=xR (a:=m - t) (b:=1 - th) (by grind) (by grind)
    grind
  ·have:=xu (a:=t - m) (b:=th) (by grind) k1
   grind
 ·rcases Rat.le_total (a:=t) (b:=m) with ht | ht
  ·have:=xu (a:=m - t) (b:=th) (by grind) k1
   grind
  ·by_cases htm:t=m
   ·subst htm; grind
   ·have:=xR (a:=t - m) (b:=1 - th) (by grind) (by grind)
    grind
theorem QK {p q k s e m t:Rat} (hs:s < m) (he:m < e) (h0:s<=t) (h1:t<=e) (h:lin p q m<=k) (hno:∀ u,s < u->u < e->p≠q->lin p q u≠k):lin p q t<=k:=by
 have:=Qr (p:=-p) (q:=-q) (k:=-k) hs he h0 h1 (by rw [<-JJ]; grind) (fun u h2 h3 h4 h5=>hno u h2 h3 (by grind) (by rw [<-JJ] at h5; grind));rw [<-JJ] at this
 grind
structure Quiet (G:Grd) (X0 X1 Y0 Y1 s e:Rat):Prop where
 x:∀ (k:Int),0<=k->k<=G.wd - 1->∀ u,s < u->u < e->X0≠X1->lin X0 X1 u≠(k:Rat)
 y:∀ (k:Int),0<=k->k<=G.ht - 1->∀ u,s < u->u < e->Y0≠Y1->lin Y0 Y1 u≠(k:Rat)
 d:∀ (k:Int),1 - G.ht<=k->k<=G.wd - 1->∀ u,s < u->u < e->X0 - Y0≠X1 - Y1->lin (X0 - Y0) (X1 - Y1) u≠(k:Rat)
theorem Quiet.tri {X0 X1 Y0 Y1 s e m t:Rat} (h:Quiet G X0 X1 Y0 Y1 s e) (hs:s < m) (he:m < e) (h0:s<=t) (h1:t<=e) {i j:Int} {r:Nat} (ht:InT G (lin X0 X1 m) (lin Y0 Y1 m) i j r):InT G (lin X0 X1 t) (lin Y0 Y1 t) i j r:=by
 have i0:=ht.i0;have i1:=ht.i1;have j0:=ht.j0;have j1:=ht.j1;have hd:lin X0 X1 m - lin Y0 Y1 m=lin (X0 - Y0) (X1 - Y1) m:=ZX _ _ _ _ _;have hd':lin X0 X1 t - lin Y0 Y1 t=lin (X0 - Y0) (X1 - Y1) t:=ZX _ _ _ _ _;have hk:((i - j:Int):Rat)=(i:Rat) - (j:Rat):=VJ i j;refine⟨i0,i1,j0,j1,?_,?_,?_,?_,fun hr=>?_,fun hr=>?_,ht.z0,ht.z1,ht.z2⟩
 ·exact Qr hs he h0 h1 ht.a0 (h.x i (by omega) (by omega))
 ·have:=QK hs he h0 h1 (k:=((i+1:Int):Rat)) (by rw [jg]; exact ht.a1) (h.x (i+1) (by omega) (by omega));rw [jg] at this;exact this
 ·exact Qr hs he h0 h1 ht.b0 (h.y j (by omega) (by omega))
 ·have:=QK hs he h0 h1 (k:=((j+1:Int):Rat)) (by rw [jg]; exact ht.b1) (h.y (j+1) (by omega) (by omega));rw [jg] at this;exact this
 ·have h9:=ht.d0 hr;have:=Qr hs he h0 h1 (k:=((i - j:Int):Rat)) (p:=X0 - Y0) (q:=X1 - Y1) (by rw [hk,<-hd]; grind) (h.d (i - j) (by omega) (by omega));rw [hk,<-hd'] at this
  grind
 ·have h9:=ht.d1 hr;have:=QK hs he h0 h1 (k:=((i - j:Int):Rat)) (p:=X0 - Y0) (q:=X1 - Y1) (by rw [hk,<-hd]; grind) (h.d (i - j) (by omega) (by omega));rw [hk,<-hd'] at this
  grind
theorem q2l (G:Grd) (X0 X1 Y0 Y1 t:Rat) (i j:Int) {r:Nat} (hr:r < 2):plT G (lin X0 X1 t) (lin Y0 Y1 t) i j r=lin (plT G X0 Y0 i j r) (plT G X1 Y1 i j r) t:=by
 have r0:r=0\/r=1:=by omega
 rcases r0 with rfl | rfl
 ·simp only [pl0]; unfold lin; grind
 ·simp only [pl1]; unfold lin; grind
def exF (G:Grd) (a b:Nat->Rat) (t:Rat):Option Rat:=(Jd G (lin (a 0) (b 0) t) (lin (a 1) (b 1) t)).map (fun h=>h - lin (a 2) (b 2) t)
def sx (G:Grd) (x:Rat):Rat:=zX x G.x0 G.st
def sy (G:Grd) (y:Rat):Rat:=zX y G.y0 G.st
def InS (G:Grd) (a b:Nat->Rat) (t:Rat) (i j:Int) (r:Nat):Prop:=InT G (lin (sx G (a 0)) (sx G (b 0)) t) (lin (sy G (a 1)) (sy G (b 1)) t) i j r
def exT (G:Grd) (a b:Nat->Rat) (i j:Int) (r:Nat) (t:Rat):Rat:=lin (plT G (sx G (a 0)) (sy G (a 1)) i j r - a 2) (plT G (sx G (b 0)) (sy G (b 1)) i j r - b 2) t
theorem KE {a b:Nat->Rat} {t e:Rat}:exF G a b t=some e↔∃ i j r,r < 2/\InS G a b t i j r/\e=exT G a b i j r t:=by
 unfold exF InS exT
 constructor
 ·intro h;obtain⟨q,hq,he⟩:=Option.map_eq_some_iff.1 h;obtain⟨i,j,r,hr,ht,hp⟩:=Qu hq;rw [jU,jU] at ht hp;rw [q2l _ _ _ _ _ _ _ _ hr] at hp;exact⟨i,j,r,hr,ht,by rw [<-he,<-hp,ZX]; rfl⟩
 ·rintro⟨i,j,r,hr,ht,rfl⟩;refine Option.map_eq_some_iff.2 ⟨_,ZI ⟨i,j,r,hr,?_,rfl⟩,?_⟩
  ·rw [jU,jU]; exact ht
  ·rw [jU,jU,q2l _ _ _ _ _ _ _ _ hr,ZX]; rfl
theorem q09 {a b:Nat->Rat} {t:Rat} {i j:Int} {r:Nat} (hr:r < 2) (h:InS G a b t i j r):exF G a b t=some (exT G a b i j r t):=KE.2 ⟨i,j,r,hr,h,rfl⟩
def Ja (G:Grd) (a b:Nat->Rat) (s e:Rat):Prop:=Quiet G (sx G (a 0)) (sx G (b 0)) (sy G (a 1)) (sy G (b 1)) s e
def ClrB (G:Grd) (a b:Nat->Rat) (s e:Rat):Prop:=∀ t,s < t->t < e->∀ x,exF G a b t=some x->x<=0
theorem q3i {a b:Nat->Rat} {s e m:Rat} (h:Ja G a b s e) (hs:s < m) (he:m < e) (hx:exF G a b m=none):ClrB G a b s e:=by
 intro t h0 h1 x hx';obtain⟨i,j,r,hr,ht,-⟩:=KE.1 hx';rw [q09 hr (h.tri h0 h1 (t:=m) (by grind) (by grind) ht)] at hx;cases hx
theorem q3d {p q s e t:Rat} (h0:s < t) (h1:t < e) (hs:lin p q s<=0) (he:lin p q e<=0):lin p q t<=0:=by
 apply Classical.byContradiction
 intro h;have h:=xR (a:=e - s) (b:=lin p q t) (by grind) (by grind);have e1:(e - s)*lin p q t=(e - t)*lin p q s+(t - s)*lin p q e:=by unfold lin; grind
 have k1:=xu (a:=e - t) (b:=-(lin p q s)) (by grind) (by grind);have k2:=xu (a:=t - s) (b:=-(lin p q e)) (by grind) (by grind)
 grind
theorem q1s {a b:Nat->Rat} {s e:Rat} (h:Ja G a b s e) (h1:∀ x,exF G a b s=some x->x<=0) (h2:∀ x,exF G a b e=some x->x<=0):ClrB G a b s e:=by
 intro t k0 k1 x hx;obtain⟨i,j,r,hr,ht,rfl⟩:=KE.1 hx;have q1:=h1 _ (q09 hr (h.tri k0 k1 (t:=s) (by grind) (by grind) ht));have q2:=h2 _ (q09 hr (h.tri k0 k1 (t:=e) (by grind) (by grind) ht));exact q3d k0 k1 q1 q2
def JV (s m x f:Rat):Rat:=s+(1 / 2*(x / (x - f)))*(m - s)
theorem q3r {p q s m:Rat} (hx:0 < lin p q s) (hf:lin p q m<=0):0 < lin p q (JV s m (lin p q s) (lin p q m)):=by
 unfold JV;have h1:lin p q s / (lin p q s - lin p q m)*(lin p q s - lin p q m)=lin p q s:=Rat.div_mul_cancel (by grind)
 generalize lin p q s / (lin p q s - lin p q m)=th at h1
 have h2:lin p q (s+(1 / 2*th)*(m - s))=lin p q s - 1 / 2*(th*(lin p q s - lin p q m)):=by unfold lin; grind
 rw [h2,h1]
 grind
theorem q1x {f:Rat} (hx:0 < x) (hf:f<=0):0 < 1 / 2*(x / (x - f))/\1 / 2*(x / (x - f)) < 1:=by
 have h1:x / (x - f)*(x - f)=x:=Rat.div_mul_cancel (by grind)
 generalize x / (x - f)=th at h1
 have h2:0 < th:=by
  apply Classical.byContradiction
  intro h;have:=xu (a:=-th) (b:=x - f) (by grind) (by grind)
  grind
 have h3:th < 2:=by
  apply Classical.byContradiction
  intro h;have:=xu (a:=th - 2) (b:=x - f) (by grind) (by grind)
  grind
 grind
theorem q4s {a b:Nat->Rat} {s e m c f:Rat} (h:Ja G a b s e) (hs:s < m) (he:m < e) (h0:0<=s) (h1:e<=1) (hc:c=s\/c=e) (hm:exF G a b m=some f) (hf:f<=0) (hx:exF G a b c=some x) (hx0:0 < x) :
  0 < JV c m x f/\JV c m x f < 1/\∃ y,exF G a b (JV c m x f)=some y/\0 < y:=by
 obtain⟨i,j,r,hr,ht,rfl⟩:=KE.1 hm;have hcs:s<=c/\c<=e:=by rcases hc with rfl | rfl <;> constructor <;> grind
 have hx':=q09 hr (h.tri hs he hcs.1 hcs.2 ht);rw [hx] at hx';injection hx' with hx'
 obtain⟨p1,p2⟩:=q1x hx0 hf
 have hb:s<=JV c m x (exT G a b i j r m)/\JV c m x (exT G a b i j r m)<=e/\0 < JV c m x (exT G a b i j r m)/\JV c m x (exT G a b i j r m) < 1:=by
  unfold JV
  generalize 1 / 2*(x / (x - exT G a b i j r m))=th at p1 p2
  rcases hc with rfl | rfl
  ·have:=xR (a:=th) (b:=m - c) p1 (by grind);have:=xR (a:=1 - th) (b:=m - c) (by grind) (by grind);refine⟨?_,?_,?_,?_⟩ <;> grind
  ·have:=xR (a:=th) (b:=c - m) p1 (by grind);have:=xR (a:=1 - th) (b:=c - m) (by grind) (by grind);refine⟨?_,?_,?_,?_⟩ <;> grind
 refine⟨hb.2.2.1,hb.2.2.2,_,q09 hr (h.tri hs he hb.1 hb.2.1 ht),?_⟩;have:=q3r (p:=plT G (sx G (a 0)) (sy G (a 1)) i j r - a 2) (q:=plT G (sx G (b 0)) (sy G (b 1)) i j r - b 2) (s:=c) (m:=m) (by rw [show lin _ _ c=exT G a b i j r c from rfl,<-hx']; exact hx0) hf;rw [show lin _ _ c=exT G a b i j r c from rfl,<-hx'] at this;exact this
structure Crs (G:Grd) (a b:Nat->Rat) (n:Nat) (l:Nat->Rat):Prop where
 n2:2<=n
 first:l 0=0
 last:l (n - 1)=1
 asc:∀ i,i+1 < n->l i < l (i+1)
 quiet:∀ i,i+1 < n->Ja G a b (l i) (l (i+1))
theorem Crs.mono {a b:Nat->Rat} {l:Nat->Rat} (h:Crs G a b n l) (hij:i<=j) (hj:j < n):l i<=l j:=by
 induction j with
 | zero =>
  obtain rfl:i=0:=by omega
  exact Rat.le_refl
 | succ j ih =>
  rcases Nat.lt_or_ge i (j+1) with h1 | h1
  ·have h2:=ih (by omega) (by omega);have h3:=h.asc j hj
   grind
  ·obtain rfl:i=j+1:=by omega
   exact Rat.le_refl
theorem Crs.pos {a b:Nat->Rat} {l:Nat->Rat} (h:Crs G a b n l) (hi:0 < i) (hn:i < n):0 < l i:=by
 have h1:=h.asc 0 (by omega);have h2:=h.mono (i:=1) (j:=i) (by omega) hn;rw [h.first] at h1;rw [Nat.zero_add] at h1
 grind
theorem Crs.lt1 {a b:Nat->Rat} {l:Nat->Rat} (h:Crs G a b n l) (hi:i+1 < n):l i < 1:=by
 have h1:=h.asc i hi;have h2:=h.mono (i:=i+1) (j:=n - 1) (by omega) (by omega);rw [h.last] at h2
 grind
def q5h (G:Grd) (a b:Nat->Rat) (e:Rat):Prop:=∀ t,0 < t->t<=e->t < 1->∀ x,exF G a b t=some x->x<=0
theorem q1S {a b:Nat->Rat} {s e:Rat} (h:q5h G a b s) (h':ClrB G a b s e):∀ t,0 < t->t < e->t < 1->∀ x,exF G a b t=some x->x<=0:=by
 intro t h0 h1 h2
 rcases Rat.le_total (a:=t) (b:=s) with k | k
 ·exact h t h0 k h2
 ·by_cases hts:t=s
  ·subst hts; exact h t h0 (by grind) h2
  ·exact h' t (by grind) h1
theorem q4U {a b:Nat->Rat} {e:Rat} (h:∀ t,0 < t->t < e->t < 1->∀ x,exF G a b t=some x->x<=0) (he:0 < e->e < 1->∀ x,exF G a b e=some x->x<=0):q5h G a b e:=by
 intro t h0 h1 h2
 by_cases hte:t=e
 ·subst hte; exact he h0 h2
 ·exact h t h0 (by grind) h2
def clrF (G:Grd) (a b:Nat->Rat):Prop:=∀ t,0 < t->t < 1->∀ x,exF G a b t=some x->x<=0
def q0q (G:Grd) (a b:Nat->Rat) (t:Rat):Prop:=0 < t/\t < 1/\∃ x,exF G a b t=some x/\0 < x
end Go.Proofs.YtphpkhoeplcedaaGreat
namespace Go.Proofs.YtphpkhoeplcedaaGreat
open Go.RowKit
variable {w w':World} {N n lo hi k g i c j K:Nat} {v s:Value} {G:Grd} {l:List Nat} {x:Rat} {R:Raw} {A:Option Addr}
def ArV (N:Nat) (w:World) (cs:Array Value) (o:Nat) (R:Raw):Prop :=
 ∃ s t,cs[o]?=some (.bool R.b1)/\cs[o+1]?=some s/\cs[o+2]?=some (.bool R.b2)/\cs[o+3]?=some t/\Gs N w s R.l1/\Gs N w t R.l2
theorem ArV.ext {cs:Array Value} {o:Nat} (h:ArV N w cs o R) (e:Ext w w'):ArV N w' cs o R:=by
 obtain⟨s,t,h1,h2,h3,h4,h5,h6⟩:=h;exact⟨s,t,h1,h2,h3,h4,h5.ext e,h6.ext e⟩
theorem ArV.chg {cs:Array Value} {o:Nat} (h:ArV N w cs o R) (c:Chg lo hi w w') (hN:N<=lo):ArV N w' cs o R:=by
 obtain⟨s,t,h1,h2,h3,h4,h5,h6⟩:=h;exact⟨s,t,h1,h2,h3,h4,h5.chg c hN,h6.chg c hN⟩
theorem ArV.at4 {cs:Array Value} {o:Nat} (h:ArV N w cs o R) {b:Nat} {t:TypeId} {fr:Nat×Nat} (hb:w.heap[b]?=some (.cells cs t fr)):At4 N w b o R:=by
 obtain⟨s,u,h1,h2,h3,h4,h5,h6⟩:=h;exact⟨s,u,by rw [qg hb]; exact h1,by rw [qg hb]; exact h2,by rw [qg hb]; exact h3,by rw [qg hb]; exact h4,h5,h6⟩
def PtV (N:Nat) (w:World) (cs:Array Value) (o:Nat) (p:Nat->Rat):Prop:=∀ i,i < 3->ArV N w cs (o+i*4) (raw (p i))
theorem PtV.ext {cs:Array Value} {o:Nat} {p:Nat->Rat} (h:PtV N w cs o p) (e:Ext w w'):PtV N w' cs o p:=fun i hi=>(h i hi).ext e
structure q0K (N lo hi:Nat) (w:World) (cs:Array Value) (G:Grd) (a b:Nat->Rat):Prop where
 size:cs.size=30
 one:cs.toList.all (·.oneCell')=true
 grid:∃ A c,cs[0]?=some (.int .i64 G.x0)/\cs[1]?=some (.int .i64 G.y0)/\cs[2]?=some (.int .i64 G.st)/\cs[3]?=some (.int .i64 G.wd)/\cs[4]?=some (.int .i64 G.ht)/\cs[5]?=some (.slice A G.n c)/\Ze N lo hi w (.agg #[.int .i64 G.x0,.int .i64 G.y0,.int .i64 G.st,.int .i64 G.wd,.int .i64 G.ht,.slice A G.n c]) G
 a:PtV N w cs 6 a
 b:PtV N w cs 18 b
 le:N<=w.heap.size
theorem q0K.ext {cs:Array Value} {a b:Nat->Rat} (h:q0K N lo hi w cs G a b) (e:Ext w w'):q0K N lo hi w' cs G a b:=by
 obtain⟨h1,h2,⟨A,c,g1,g2,g3,g4,g5,g6,g7⟩,h4,h5,h6⟩:=h;exact⟨h1,h2,⟨A,c,g1,g2,g3,g4,g5,g6,g7.ext e⟩,h4.ext e,h5.ext e,q_l h6 e.size⟩
def q3N (N:Nat) (w:World) (p:Nat->Rat) (e:Ending) (w':World):Prop :=
 ∃ cs,e=.returned (.agg cs)/\cs.size=12/\cs.toList.all (·.oneCell')=true/\PtV N w' cs 0 p/\Ext w w'
theorem vk:(Tryz.prog.info? 116).map (·.size)=some 30:=by kernel_rfl
theorem kJ:(Tryz.prog.info? 43).map (·.size)=some 12:=by kernel_rfl
theorem zk {ops:Array Oper} {rest:List Oper} {o:Oper} {a:Act} {Q:Exit->Act->World->Prop} (hgd:o.guard=none) (ty:TypeId) (x y:Operand) (ho:o.op=.store ty x y) {cs old:Array Value} {t:TypeId} (hx:a.eval x=.pointer (some ⟨g,0,none⟩)) (hy:a.eval y=.agg cs)
  (hg:w.heap[g]?=some (.cells old t (0,0))) {sz:Nat} (hi:(Tryz.prog.info? ty).map (·.size)=some sz) (hsz:cs.size=sz) (hold:old.size=cs.size) (h1:cs.toList.all (·.oneCell')=true)
  (h:∀ w',w'.heap[g]?=some (.cells cs t (0,0))->Upd g w w'->wpList Tryz.prog ops Q rest (a.put o.dst undef) w'):wpList Tryz.prog ops Q (o :: rest) a w :=
 wpList_plain hgd fun _ hK=>wp_store_row ty x y ho g _ hx hy t _ hg (by rw [hsz]; exact hi) hold (by rw [<-Array.all_toList]; exact h1) (hK _ _ (h _ (setRow_heap w g old cs t (0,0) hg) ⟨rfl,rfl,rfl,by simp [World.setRow],fun k hk=>setRow_other w g k cs hk⟩))
theorem WA {cs:Array Value}:cs.toList.all (·.oneCell')=true↔∀ (k:Nat) (v:Value),cs[k]?=some v->v.oneCell'=true:=by
 rw [List.all_eq_true]
 constructor
 ·intro h k v hv;exact h v (by rw [<-Array.getElem?_toList] at hv; exact List.mem_of_getElem? hv)
 ·intro h v hv;obtain⟨k,hk⟩:=List.getElem?_of_mem hv;exact h k v (by rw [<-Array.getElem?_toList]; exact hk)
theorem YT (h:Gs N w v l):v.oneCell'=true:=by
 obtain⟨A,n,c,rfl,-⟩:=h.form
 rfl
def vS (N:Nat) (w:World) (b i:Nat) (p:Nat->Rat):Prop :=
 ∃ cs,w.heap[b]?=some (.cells cs 43 (0,0))/\cs.size=12/\cs.toList.all (·.oneCell')=true/\∀ j,j < i->ArV N w cs (j*4) (raw (p j))
theorem vS.ext {b:Nat} {p:Nat->Rat} (h:vS N w b i p) (e:Ext w w'):vS N w' b i p:=by
 obtain⟨cs,h1,h2,h3,h4⟩:=h;exact⟨cs,e.block h1,h2,h3,fun j hj=>(h4 j hj).ext e⟩
theorem vS.lt {b:Nat} {p:Nat->Rat} (h:vS N w b i p):b < w.heap.size:=by
 obtain⟨cs,h1,-⟩:=h;exact qI h1
theorem vS.there {b:Nat} {p:Nat->Rat} (h:vS N w b i p) {o:Nat} (ho:o < 12):∃ u,w.cell? ⟨b,o,none⟩=some u:=by
 obtain⟨cs,h1,h2,-⟩:=h;rw [qg h1];exact⟨_,Array.getElem?_eq_getElem (by omega)⟩
theorem vS.frozen {b:Nat} {p:Nat->Rat} (h:vS N w b i p) (o:Nat):w.frozen? ⟨b,o,none⟩=false:=by
 obtain⟨cs,h1,-⟩:=h;simp [World.frozen?,h1]
theorem vS.set {b:Nat} {p:Nat->Rat} (h:vS N w b i p) (hi:i < 3) (hN:N<=b) {neg:Bool} {t:Value} (hneg:Hid (neg=decide ((p i).num < 0))) (hs:Gs N w s (dg (p i).num.natAbs)) (ht:Gs N w t (dg (p i).den)) :
  ∃ w',(((w.setCell ⟨b,i*4,none⟩ (.bool neg)).setCell ⟨b,i*4+1,none⟩ s).setCell ⟨b,i*4+2,none⟩ (.bool false)).setCell ⟨b,i*4+3,none⟩ t=w'/\Chg b (b+1) w w'/\w'.heap.size=w.heap.size/\vS N w' b (i+1) p:=by
 obtain⟨cs,h1,h2,h3,h4⟩:=h;obtain⟨w',cs',e1,u,k1,k2,k3,k4,k5,k6,k7⟩:=st4 h1 (o:=i*4) (by omega) (.bool neg) s (.bool false) t;have hc:Chg b (b+1) w w':=u.chg (NoU.mk h1 (by decide));refine⟨w',e1,hc,u.size,cs',k1,by omega,?_,fun j hj=>?_⟩
 ·rw [WA] at h3 ⊢;intro k v hv
  by_cases hk:k < i*4\/i*4+4<=k
  ·rw [k3 k hk] at hv; exact h3 k v hv
  ·have hk':k=i*4\/k=i*4+1\/k=i*4+2\/k=i*4+3:=by omega
   rcases hk' with rfl | rfl | rfl | rfl
   ·rw [k4] at hv; cases hv; rfl
   ·rw [k5] at hv; cases hv; exact YT hs
   ·rw [k6] at hv; cases hv; rfl
   ·rw [k7] at hv; cases hv; exact YT ht
 ·rcases Nat.lt_or_ge j i with hji | hji
  ·obtain⟨s',t',q1,q2,q3,q4,q5,q6⟩:=h4 j hji;exact⟨s',t',by rw [k3 _ (.inl (by omega))]; exact q1,by rw [k3 _ (.inl (by omega))]; exact q2,by rw [k3 _ (.inl (by omega))]; exact q3,by rw [k3 _ (.inl (by omega))]; exact q4,q5.chg hc hN,q6.chg hc hN⟩
  ·obtain rfl:j=i:=by omega
   exact⟨s,t,by rw [k4,hneg.out]; rfl,k5,k6,k7,hs.chg hc hN,ht.chg hc hN⟩
theorem o_at {cs:Array Value} {vt:Value} {a b:Nat->Rat} {t:Rat} (hs:q0K N lo hi w cs G a b) (ht:qp N w vt t) (hka:∀ i,i < 3->Ht K (a i)) (hkb:∀ i,i < 3->Ht K (b i)) (hkt:Ht K t) (hK:K<=10000000) :
  Calls Tryz.prog 115 #[.agg cs,vt] w (q3N N w (fun i=>lin (a i) (b i) t)):=by
 have hN:=ht.le;have HS:=q_h hs;have HT:=q_h ht;obtain⟨m1,X1,i1,d1,X2,i2,d2,rfl,hm1,gx1,gx2⟩:=ht.parts;obtain⟨p,hp⟩:=qf (fun i=>lin (a i) (b i) t);rw [<-hp.out];clear ht gx1 gx2;have HA:=q_h hka;have HB:=q_h hkb;have HKT:=q_h hkt;clear hka hkb hs hkt;go_enter Tryz.func115,Tryz.ntmps115;go_upto_region 1 with (fail);refine zK ?_;intro W hE hsz B0 B1 B2;have hU:vS N W (w.heap.size+1+1) 0 p:=⟨_,B2,rfl,rfl,fun j hj=>absurd hj (by omega)⟩
 clear B2;have HC:=q_h B0;have HD:=q_h B1;clear B0 B1;go_wp2
 go_loopw [6] (fun iv wr=>∃ i:Nat,i<=3/\iv=.int .i64 i/\vS N wr (w.heap.size+1+1) i p/\Chg (w.heap.size+1+1) (w.heap.size+1+1+1) W wr) (fun iv _=>3 - (intOf iv).toNat)
 case atStart=>exact⟨0,by omega,rfl,hU,Chg.refl _ _ _⟩
 case round =>
  clear hU;obtain⟨i,hi,rfl,hU,hC⟩:=hrel;have hEr:Ext w wr:=hC.ext hE (by omega);have hlt:w.heap.size+1+1 < wr.heap.size:=hU.lt
  by_cases hi3:i < 3
  case neg =>
   obtain rfl:i=3:=by omega
   obtain⟨c0,k1,k2,k3,k4⟩:=hU;have HK4:=q_h k4;have K2:=q_h k2;have hq1:decide (((3:Nat):Int) < 3)=false:=by decide
   clear k4 k2;go_upto_region 6 with (fail);refine wp_region_lit ?_;refine wpList_load_row rfl 43 _ rfl _ (by rfl) _ c0 _ _ k1 Tryz.underlying43 rfl (by rw [K2.out]; exact kJ) ?_;try simp only [nr]
   refine zk rfl 43 _ _ rfl (by rfl) (by rfl) k1 kJ K2.out (Eq.trans (K2.out) (Eq.symm (K2.out))) k3 ?_;try simp only [nr]
   intro w9 B9 U9;go_wp2;refine bodyPost_ret (results_cell_row rfl _ _ _ _ _ _ _ rfl B9 Tryz.underlying43 rfl (by rw [K2.out]; exact kJ)) rfl ?_;exact⟨c0,rfl,K2.out,k3,fun j hj=>by rw [Nat.zero_add]; exact (HK4.out j hj).chg (U9.chg (NoU.mk k1 (by decide))) (by omega),U9.ext hEr (by omega)⟩
  have B0:=hC.blk HC.out (.inl (by omega));have B1:=hC.blk HD.out (.inl (by omega));have hi3':(i:Int) < 3:=by omega
  obtain⟨x0,x1,x2,x3,-⟩:=cells4 B1;have hRx:=HT.out.ext hEr;have hPa:At4 N wr w.heap.size (6+i*4) (raw (a i)):=((HS.out.a i hi3).ext hEr).at4 B0;have hPb:At4 N wr w.heap.size (18+i*4) (raw (b i)):=((HS.out.b i hi3).ext hEr).at4 B0;obtain⟨Ap,np,cp,A'p,n'p,c'p,p0,p1,p2,p3,hRp⟩:=hPa.val;obtain⟨Aq,nq,cq,A'q,n'q,c'q,q0,q1,q2,q3,hRq⟩:=hPb.val;have hAi:=HA.out i hi3;have hBi:=HB.out i hi3;have hD1:Ht (K+K+1) (b i - a i):=hBi.sub hAi;have hM1:Ht (K+(K+K+1)) (t*(b i - a i)):=HKT.out.mul hD1;have HSA:Hid (Sz (a i)):=hAi.sz (by omega);have HSB:Hid (Sz (b i)):=hBi.sz (by omega);have HST:Hid (Sz t):=HKT.out.sz (by omega);have HSD:Hid (Sz (b i - a i)):=hD1.sz (by omega);have HSM:Hid (Sz (t*(b i - a i))):=hM1.sz (by omega);have HPI:Hid (p i=a i+t*(b i - a i)):=by rw [hp.out]; rfl
  clear hAi hBi hD1 hM1 hPa hPb B0 B1;go_upto_region 4 with (fail);refine jE [Mn.i (i:Int),Mn.i (i:Int),Mn.q w.heap.size 6,Mn.q w.heap.size (6+i*4),Mn.rat N (a i),Mn.rat N (t),Mn.i (i:Int),Mn.q w.heap.size 18,Mn.q w.heap.size (18+i*4),Mn.rat N (b i),Mn.i (i:Int),Mn.q w.heap.size 6,Mn.q w.heap.size (6+i*4),Mn.rat N (a i),Mn.rat N (b i - a i),Mn.rat N (t*(b i - a i)),Mn.rat N (a i+t*(b i - a i)),Mn.q (w.heap.size+1+1) (i*4),Mn.any] [some 9,some 10,some 11,some 12,some 13,some 14,some 15,some 16,some 17,some 18,some 19,some 20,some 21,some 22,some 23,some 24,some 25,some 26,none] [18] (rQ 18 1) 1 (by kernel_rfl) ?_ ?_
  ·show ∀ i,i < 19->_
   iterate 19 refine fs ?_ ?_
   ·exact fz
   all_goals intro hl; first | exact absurd hl (by decide) | (clear hl; refine stp rfl ?_; intro ac wi eI hB hA K hK)
   have o5:=oOf (hB 5) rfl
   rotate_left
   have o5:=oOf (hB 5) rfl
   rotate_left
   have o2:=oOf (hB 2) rfl
   rotate_left
   obtain⟨_,s11,rfl⟩:=hA 2 11;obtain⟨_,s10,rfl⟩:=hA 1 10
   rotate_left
   obtain⟨_,s12,rfl⟩:=hA 3 12;clear hB hA;have cc0:=eI.cell p0;have cc1:=eI.cell p1;have cc2:=eI.cell p2;have cc3:=eI.cell p3
   ·go_simp;exact q_k hK (hRp.ext eI)
   have o3:=oOf (hB 3) rfl;clear hB hA;have cc0:=eI.cell x0;have cc1:=eI.cell x1;have cc2:=eI.cell x2;have cc3:=eI.cell x3
   ·go_simp;exact q_k hK (hRx.ext eI)
   have o5:=oOf (hB 5) rfl
   rotate_left
   have o2:=oOf (hB 2) rfl
   rotate_left
   obtain⟨_,s16,rfl⟩:=hA 7 16;obtain⟨_,s15,rfl⟩:=hA 6 15
   rotate_left
   obtain⟨_,s17,rfl⟩:=hA 8 17;clear hB hA;have cc0:=eI.cell q0;have cc1:=eI.cell q1;have cc2:=eI.cell q2;have cc3:=eI.cell q3
   ·go_simp;exact q_k hK (hRq.ext eI)
   have o5:=oOf (hB 5) rfl
   rotate_left
   have o2:=oOf (hB 2) rfl
   rotate_left
   obtain⟨_,s20,rfl⟩:=hA 11 20;obtain⟨_,s19,rfl⟩:=hA 10 19
   rotate_left
   obtain⟨_,s21,rfl⟩:=hA 12 21;clear hB hA;have cc0:=eI.cell p0;have cc1:=eI.cell p1;have cc2:=eI.cell p2;have cc3:=eI.cell p3
   ·go_simp;exact q_k hK (hRp.ext eI)
   obtain⟨x18,s18,j18⟩:=hA 9 18;replace j18:Mn.p (Mn.rat N (b i)) x18 wi:=j18;obtain⟨x22,s22,j22⟩:=hA 13 22;replace j22:Mn.p (Mn.rat N (a i)) x22 wi:=j22;clear hB hA
   ·go_simp;refine (yY j18 j22 HSB.out HSA.out).mono ?_;rintro e wj ⟨vj,rfl,hj,ej⟩;go_wp2_with fail;exact hK.out _ _ ej hj
   obtain⟨x14,s14,j14⟩:=hA 5 14;replace j14:Mn.p (Mn.rat N (t)) x14 wi:=j14;obtain⟨x23,s23,j23⟩:=hA 14 23;replace j23:Mn.p (Mn.rat N (b i - a i)) x23 wi:=j23;clear hB hA
   ·go_simp;refine (ZW j14 j23 HST.out HSD.out).mono ?_;rintro e wj ⟨vj,rfl,hj,ej⟩;go_wp2_with fail;exact hK.out _ _ ej hj
   obtain⟨x13,s13,j13⟩:=hA 4 13;replace j13:Mn.p (Mn.rat N (a i)) x13 wi:=j13;obtain⟨x24,s24,j24⟩:=hA 15 24;replace j24:Mn.p (Mn.rat N (t*(b i - a i))) x24 wi:=j24;clear hB hA
   ·go_simp;refine (Xy j13 j24 HSA.out HSM.out).mono ?_;rintro e wj ⟨vj,rfl,hj,ej⟩;go_wp2_with fail;exact hK.out _ _ ej hj
   have o4:=oOf (hB 4) rfl;obtain⟨_,s9,rfl⟩:=hA 0 9
   rotate_left
   all_goals clear hB hA; go_simp; exact q_k hK rfl
  intro vals wz eZ hJ;have J25:Mn.p (Mn.rat N (a i+t*(b i - a i))) (vals 16) wz:=hJ 16 (by decide) (by decide);have J26:vals 17=_:=hJ 17 (by decide) (by decide);clear hJ;simp only [pr,Nat.reduceAdd,J26];clear J26
  generalize vals 16=z25 at J25 ⊢
  obtain⟨bz,Az,kz,cz,Az',kz',cz',rfl,hbz,gz1,gz2⟩:=qp.parts J25;replace hU:=hU.ext eZ;obtain⟨u0,v0⟩:=hU.there (o:=i*4) (by omega);obtain⟨u1,v1⟩:=hU.there (o:=i*4+1) (by omega);obtain⟨u2,v2⟩:=hU.there (o:=i*4+2) (by omega);obtain⟨u3,v3⟩:=hU.there (o:=i*4+3) (by omega);have f0:=hU.frozen (i*4);have f1:=hU.frozen (i*4+1);have f2:=hU.frozen (i*4+2);have f3:=hU.frozen (i*4+3);refine qh (i:=18) rfl (by kernel_rfl) (by kernel_rfl) (fun K hK=>?_);go_simp;refine hK.out _ _ ?_;clear hK K;try simp only [nr]
  refine qi (by kernel_rfl) ?_ _;rw [<-HPI.out] at hbz gz1 gz2;obtain⟨w9,E9,C9,S9,hU9⟩:=hU.set hi3 (by omega) hbz gz1 gz2;rw [E9];go_wp2;go_roundw
  case rel=>exact⟨i+1,by omega,by go_num,hU9,(hC.trans (eZ.chg _ _)).trans C9⟩
  case measure=>simp [intOf]; omega
theorem YL {x0 st:Int} (h0 : -100000000<=x) (h1:x<=100000000) (hx0 : -1048576<=x0) (hx1:x0<=1048576) (hst:2<=st):(flo (zX x x0 st)).natAbs < 1000000000:=by
 rw [jJ];have k0:((-1048576:Int):Rat)<=(x0:Rat):=Rat.intCast_le_intCast.2 hx0;have k1:(x0:Rat)<=((1048576:Int):Rat):=Rat.intCast_le_intCast.2 hx1;have k2:((2:Int):Rat)<=(st:Rat):=Rat.intCast_le_intCast.2 hst;have e0:((-1048576:Int):Rat) = -1048576:=rfl;have e1:((1048576:Int):Rat)=1048576:=rfl;have e2:((2:Int):Rat)=2:=rfl;rw [e0] at k0;rw [e1] at k1;rw [e2] at k2;have hq:zX x x0 st*(st:Rat)=x - (x0:Rat):=by unfold zX; exact Rat.div_mul_cancel (by grind)
 generalize zX x x0 st=q at hq
 have u:q < ((200000000:Int):Rat):=by
  have e3:((200000000:Int):Rat)=200000000:=rfl;rw [e3]
  apply Classical.byContradiction
  intro h;have:=xu (a:=q - 200000000) (b:=(st:Rat)) (by grind) (by grind)
  grind
 have l:((-200000000:Int):Rat)<=q:=by
  have e3:((-200000000:Int):Rat) = -200000000:=rfl;rw [e3]
  apply Classical.byContradiction
  intro h;have:=xu (a:=-200000000 - q) (b:=(st:Rat)) (by grind) (by grind)
  grind
 have h2:=Rat.floor_lt_iff.2 u;have h3:=Rat.le_floor_iff.2 l;omega
theorem q4n {p q t B:Rat} (h0:0<=t) (h1:t<=1) (hp : -B<=p/\p<=B) (hq : -B<=q/\q<=B) : -B<=lin p q t/\lin p q t<=B:=by
 have e:lin p q t=(1 - t)*p+t*q:=by unfold lin; grind
 have k1:=xu (a:=1 - t) (b:=B - p) (by grind) (by grind);have k2:=xu (a:=t) (b:=B - q) h0 (by grind);have k3:=xu (a:=1 - t) (b:=p+B) (by grind) (by grind);have k4:=xu (a:=t) (b:=q+B) h0 (by grind)
 constructor <;> grind
theorem YD {p q t:Rat} (hp:Ht K p) (hq:Ht K q) (ht:Ht K t):Ht (4*K+2) (lin p q t):=by
 unfold lin;exact (hp.add (ht.mul (hq.sub hp))).mono (by omega)
theorem WX (hG:GOk G) {y h:Rat} (hx:Ht K x) (hy:Ht K y) (hh:Jd G x y=some h):Ht (2*K+200) h:=by
 obtain⟨i,j,r,hr,ht,rfl⟩:=Qu hh;have hX:Ht (K+39) (zX x G.x0 G.st):=((hx.sub (qy (m:=21) (by have:=hG.x0; have:=hG.x1; omega) (by omega))).div (qy (m:=17) (by have:=hG.s0; have:=hG.s1; omega) (by omega))).mono (by omega);have hY:Ht (K+39) (zX y G.y0 G.st):=((hy.sub (qy (m:=21) (by have:=hG.y0; have:=hG.y1; omega) (by omega))).div (qy (m:=17) (by have:=hG.s0; have:=hG.s1; omega) (by omega))).mono (by omega);have hI:Ht 7 (i:Rat):=qy (m:=7) (by have:=ht.i0; have:=ht.i1; have:=hG.w1; omega) (by omega);have hJ:Ht 7 (j:Rat):=qy (m:=7) (by have:=ht.j0; have:=ht.j1; have:=hG.h1; omega) (by omega);have b0:=q29 hG ht.i0 (by have:=ht.i1; omega) ht.j0 (by have:=ht.j1; omega) ht.z0;have b1:=q40 hG (r:=r) ht.i0 ht.i1 ht.j0 ht.j1 ht.z1;have b2:=q29 hG (i:=i+1) (j:=j+1) (by have:=ht.i0; omega) (by have:=ht.i1; omega) (by have:=ht.j0; omega) (by have:=ht.j1; omega) ht.z2;unfold plT;have k1:Ht (K+47) (fiR (zX x G.x0 G.st - i) (zX y G.y0 G.st - j) r):=q4L ((hX.sub hI).mono (by omega)) ((hY.sub hJ).mono (by omega));have k2:Ht (K+47) (seR (zX x G.x0 G.st - i) (zX y G.y0 G.st - j) r):=q46 ((hX.sub hI).mono (by omega)) ((hY.sub hJ).mono (by omega));have q1:=k1.mul (qy (k:=thR G i j r - zAt G i j) (m:=22) (by omega) (by omega));have q2:=k2.mul (qy (k:=zAt G (i+1) (j+1) - thR G i j r) (m:=22) (by omega) (by omega))
 exact (((qy (k:=zAt G i j) (m:=22) (by omega) (by omega)).add q1).add q2).mono (by omega)
theorem q1I (hG:GOk G) {a b:Nat->Rat} (ha:∀ i,i < 3->Ht K (a i)) (hb:∀ i,i < 3->Ht K (b i)) {t:Rat} (ht:Ht K t) (h:exF G a b t=some x):Ht (12*K+300) x:=by
 unfold exF at h;obtain⟨q,hq,rfl⟩:=Option.map_eq_some_iff.1 h;exact ((WX hG (YD (ha 0 (by omega)) (hb 0 (by omega)) ht) (YD (ha 1 (by omega)) (hb 1 (by omega)) ht) hq).sub (YD (ha 2 (by omega)) (hb 2 (by omega)) ht)).mono (by omega)
structure SOk (G:Grd) (K:Nat) (a b:Nat->Rat):Prop where
 g:GOk G
 ka:∀ i,i < 3->Ht K (a i)
 kb:∀ i,i < 3->Ht K (b i)
 ba:∀ i,i < 3->-100000000<=a i/\a i<=100000000
 bb:∀ i,i < 3->-100000000<=b i/\b i<=100000000
def RetEx (N:Nat) (w:World) (o:Option Rat) (e:Ending) (w':World):Prop:=∃ v q,e=.returned (.tuple #[v,.bool o.isSome])/\(∀ x,o=some x->x=q)/\qp N w' v q/\Ext w w'
theorem Qq {cs:Array Value} {vt:Value} {a b:Nat->Rat} {t:Rat} (hs:q0K N lo hi w cs G a b) (ht:qp N w vt t) (hok:SOk G K a b) (hkt:Ht K t) (hK:K<=100000) (h0:0<=t) (h1:t<=1) :
  Calls Tryz.prog 62 #[.agg cs,vt] w (RetEx N w (exF G a b t)):=by
 have hN:=ht.le;have HS:=q_h hs;have HT:=q_h ht;obtain⟨m1,X1,i1,d1,X2,i2,d2,rfl,hm1,gx1,gx2⟩:=ht.parts;obtain⟨o,ho⟩:=qf (exF G a b t);obtain⟨p,hp⟩:=qf (fun i=>lin (a i) (b i) t);rw [<-ho.out];clear ht gx1 gx2;have HO:=q_h hok
 have HP:Hid (∀ i,i < 3->Ht (4*K+2) (p i)/\-100000000<=p i/\p i<=100000000):=by
  rw [hp.out];exact fun i hi=>⟨YD (hok.ka i hi) (hok.kb i hi) hkt,q4n h0 h1 (hok.ba i hi) (hok.bb i hi)⟩
 have HH:Hid (o=(Jd G (p 0) (p 1)).map (fun h=>h - p 2)):=by rw [Hid,ho.out,hp.out]; rfl
 have HKT:=q_h hkt;clear hs hok hkt ho h0 h1;go_enter Tryz.func62,Tryz.ntmps62;go_upto_region 1 with (fail);refine zK ?_;intro W hE hsz B0 B1 B2;obtain⟨x0,x1,x2,x3,-⟩:=cells4 B1;have SZ:=q_h HS.out.size;refine wp_region_lit ?_;refine wpList_load_row rfl 116 _ rfl _ (by rfl) _ cs _ _ B0 Tryz.underlying116 rfl (by rw [SZ.out]; exact vk) ?_;try simp only [nr]
 go_wp2_with (go_at_call 115; refine q_o ?_);refine (o_at (HS.out.ext hE) (HT.out.ext hE) HO.out.ka HO.out.kb HKT.out (by omega)).mono ?_;rw [<-hp.out];rintro e w1 ⟨ca,rfl,hcp,hco,hpt,e1⟩
 rename_i K9 hK9
 refine hK9 _ _ ?_;clear hK9 K9;try simp only [nr]
 have HCP:=q_h hcp;clear hcp;replace B0:=e1.block B0;replace B1:=e1.block B1;replace B2:=e1.block B2;replace hE:=hE.trans e1;replace hsz:=q_l hsz e1.size;clear x0 x1 x2 x3 e1;refine wpList_plain rfl (fun K hK=>?_);go_simp;refine hK _ _ ?_;clear hK K;try simp only [nr]
 refine ql ?_;intro w2 e2 hsz2 B3;refine zk rfl 43 _ _ rfl (by rfl) (by rfl) B3 kJ HCP.out (Eq.trans ((by rfl:Array.size _=12)) (Eq.symm (HCP.out))) hco ?_;try simp only [nr]
 intro w3 B3' U3;obtain⟨g6,hg6⟩:∃ g6,g6=w1.heap.size:=⟨_,rfl⟩
 rw [<-hg6] at B3' U3 hsz2 ⊢;have C3:=U3.chg (NoU.mk (hg6 ▸ B3) (by decide));have hg6':w.heap.size+3<=g6:=by omega
 have hE3:Ext w1 w3:=C3.ext e2 (by omega);replace B0:=hE3.block B0;replace B1:=hE3.block B1;replace B2:=hE3.block B2;replace hpt:=hpt.ext hE3;replace hE:=hE.trans hE3;have hl3:g6 < w3.heap.size:=qI B3';clear B3 U3 C3 e2 hg6 hE3 hsz hsz2;refine wpList_nil ?_;go_upto_region 2 with (fail);obtain⟨Ag,cg,g0,g1,g2,g3,g4,g5,hgr⟩:=HS.out.grid;replace hgr:=hgr.ext hE;obtain⟨np,Ap,kp,cp,A'p,k'p,c'p,p0,p1,p2,p3,hRp⟩:=((hpt 0 (by omega)).at4 B3').opn;obtain⟨nq,Aq,kq,cq,A'q,k'q,c'q,q0,q1,q2,q3,hRq⟩:=((hpt 1 (by omega)).at4 B3').opn;simp only [Nat.zero_add,Nat.zero_mul,Nat.one_mul,Nat.reduceAdd] at p0 p1 p2 p3 q0 q1 q2 q3;rw [<-qg B0] at g0 g1 g2 g3 g4 g5;obtain⟨h,hh⟩:=qf (Jd G (p 0) (p 1));rw [<-hh.out] at HH;go_wp2_with (go_at_call 51; refine q_o ?_);refine (Yr hgr HO.out.g hRp hRq (HP.out 0 (by omega)).1 (HP.out 1 (by omega)).1 (by omega) (YL (HP.out 0 (by omega)).2.1 (HP.out 0 (by omega)).2.2 HO.out.g.x0 HO.out.g.x1 HO.out.g.s0) (YL (HP.out 1 (by omega)).2.1 (HP.out 1 (by omega)).2.2 HO.out.g.y0 HO.out.g.y1 HO.out.g.s0)).mono ?_;rw [<-hh.out];cases h with
 | some x =>
  have HO2:Hid (o=some (x - p 2)):=HH.out;rintro e w4 ⟨v,rfl,hv,e4⟩;obtain⟨bv,Av,kv,cv,A'v,k'v,c'v,rfl,hbv,yv,zv⟩:=hv.parts;have HX:Hid (Sz x):=(WX HO.out.g (HP.out 0 (by omega)).1 (HP.out 1 (by omega)).1 hh.out.symm).sz (by omega);go_upto_region 3 with (fail);refine ql ?_;intro w5 e5 hsz5 B4;have B3'':=e5.block (e4.block B3');have B2':=e5.block (e4.block B2);obtain⟨r0,r1,r2,r3,-⟩:=cells4 B4;obtain⟨nm,Am,km,cm,A'm,k'm,c'm,m0,m1,m2,m3,hRm⟩:=(((hpt 2 (by omega)).ext (e4.trans e5)).at4 B3'').opn;simp only [Nat.zero_add,Nat.reduceMul,Nat.reduceAdd] at m0 m1 m2 m3;go_wp2_with (go_at_call 101; refine q_o ?_);refine (yY (hv.ext e5) hRm HX.out ((HP.out 2 (by omega)).1.sz (by omega))).mono ?_;intro e w6 hh6;obtain⟨br,Ar,kr,cr,A'r,k'r,c'r,rfl,hbr,yr,zr,e6⟩:=hh6.form;replace B2':=e6.block B2';have hE6:=((hE.trans e4).trans e5).trans e6;clear r0 r1 r2 r3 m0 m1 m2 m3;obtain⟨s0,s1,s2,s3,t0,t1,t2,t3⟩:=cells4 B2';go_wp2;obtain⟨wR,ER,FR,UR⟩:=ex4 B2' (.bool br) (.slice Ar kr cr) (.bool false) (.slice A'r k'r c'r);rw [ER];have hTR:=NoU.mk B2' (by decide);obtain⟨v0,v1,v2,v3,-⟩:=cells4 FR;have hEF:Ext w wR:=UR.ext hE6 (by omega);have hRR:qp N wR _ _:=qp.mk hbr (yr.upd UR (by omega) hTR) (zr.upd UR (by omega) hTR);refine bodyPost_ret (v:=.tuple #[.agg #[.bool br,.slice Ar kr cr,.bool false,.slice A'r k'r c'r],.bool true]) ?_ rfl ?_
  ·simp [results,Tryz.results62,v0,v1,v2,v3,go_sem]
  rw [HO2.out];exact⟨_,_,rfl,fun y hy=>(Option.some.inj hy).symm,hRR,hEF⟩
 | none =>
  have HO2:Hid (o=none):=HH.out;rintro e w4 ⟨rfl,e4⟩;have hv:J3 N w4 jd 0:=J3.nil (q_l (by have:=hE.size; omega:N<=w3.heap.size) e4.size);go_upto_region 3 with (fail);refine ql ?_;intro w5 e5 hsz5 B4;have B3'':=e5.block (e4.block B3');have B2':=e5.block (e4.block B2);obtain⟨r0,r1,r2,r3,-⟩:=cells4 B4;obtain⟨nm,Am,km,cm,A'm,k'm,c'm,m0,m1,m2,m3,hRm⟩:=(((hpt 2 (by omega)).ext (e4.trans e5)).at4 B3'').opn;simp only [Nat.zero_add,Nat.reduceMul,Nat.reduceAdd] at m0 m1 m2 m3;go_wp2_with (go_at_call 101; refine q_o ?_);refine (q4e (hv.ext e5) hRm (xn (k:=0) (by decide)) ((HP.out 2 (by omega)).1.sz (by omega))).mono ?_;intro e w6 hh6;obtain⟨br,Ar,kr,cr,A'r,k'r,c'r,rfl,hbr,yr,zr,e6⟩:=hh6.form;replace B2':=e6.block B2';have hE6:=((hE.trans e4).trans e5).trans e6;clear r0 r1 r2 r3 m0 m1 m2 m3;obtain⟨s0,s1,s2,s3,t0,t1,t2,t3⟩:=cells4 B2';go_wp2;obtain⟨wR,ER,FR,UR⟩:=ex4 B2' (.bool br) (.slice Ar kr cr) (.bool false) (.slice A'r k'r c'r);rw [ER];have hTR:=NoU.mk B2' (by decide);obtain⟨v0,v1,v2,v3,-⟩:=cells4 FR;have hEF:Ext w wR:=UR.ext hE6 (by omega);have hRR:qp N wR _ _:=qp.mk hbr (yr.upd UR (by omega) hTR) (zr.upd UR (by omega) hTR);refine bodyPost_ret (v:=.tuple #[.agg #[.bool br,.slice Ar kr cr,.bool false,.slice A'r k'r c'r],.bool false]) ?_ rfl ?_
  ·simp [results,Tryz.results62,v0,v1,v2,v3,go_sem]
  rw [HO2.out];exact⟨_,_,rfl,fun y hy=>(by cases hy),hRR,hEF⟩
theorem jk {p:Nat->Rat} {x0 x1 x2 x3 y0 y1 y2 y3 z0 z1 z2 z3:Value} (h0:qp N w (.agg #[x0,x1,x2,x3]) (p 0)) (h1:qp N w (.agg #[y0,y1,y2,y3]) (p 1)) (h2:qp N w (.agg #[z0,z1,z2,z3]) (p 2)) :
  PtV N w #[x0,x1,x2,x3,y0,y1,y2,y3,z0,z1,z2,z3] 0 p:=by
 obtain⟨s,t,e,g1,g2⟩:=h0;injection e with e
 simp only [Array.mk.injEq,List.cons.injEq,and_true] at e;obtain⟨rfl,rfl,rfl,rfl⟩:=e;obtain⟨s',t',e,g3,g4⟩:=h1;injection e with e
 simp only [Array.mk.injEq,List.cons.injEq,and_true] at e;obtain⟨rfl,rfl,rfl,rfl⟩:=e;obtain⟨s'',t'',e,g5,g6⟩:=h2;injection e with e
 simp only [Array.mk.injEq,List.cons.injEq,and_true] at e;obtain⟨rfl,rfl,rfl,rfl⟩:=e;intro i hi;have hi':i=0\/i=1\/i=2:=by omega
 rcases hi' with rfl | rfl | rfl
 ·exact⟨_,_,rfl,rfl,rfl,rfl,g1,g2⟩
 ·exact⟨_,_,rfl,rfl,rfl,rfl,g3,g4⟩
 ·exact⟨_,_,rfl,rfl,rfl,rfl,g5,g6⟩
structure UV (N:Nat) (w:World) (gS gT:Nat) (G:Grd):Prop where
 cs:∃ cs:Array Value,w.heap[gS]?=some (.cells cs 116 (0,0))/\cs[0]?=some (.int .i64 G.x0)/\cs[1]?=some (.int .i64 G.y0)
 st:Ji N w gT ((G.st:Int):Rat)
theorem UV.ext {gS gT:Nat} (h:UV N w gS gT G) (e:Ext w w'):UV N w' gS gT G:=by
 obtain⟨⟨cs,h1,h2,h3⟩,h4⟩:=h;exact⟨⟨cs,e.block h1,h2,h3⟩,h4.ext e⟩
theorem UV.chg {gS gT:Nat} (h:UV N w gS gT G) (c:Chg lo hi w w') (hN:N<=lo) (h1:gS < lo) (h2:gT < lo):UV N w' gS gT G:=by
 obtain⟨⟨cs,k1,k2,k3⟩,k4⟩:=h;exact⟨⟨cs,c.blk k1 (.inl h1),k2,k3⟩,k4.chg c hN (.inl h2)⟩
theorem o_u {gS gT:Nat} {cp:Array Value} {p:Nat->Rat} (h:UV N w gS gT G) (hp:PtV N w cp 0 p) (hsz:cp.size=12) (hG:GOk G) (hk:Ht K (p 0)) (hK:K<=1000000) :
  Calls Tryz.prog 165 #[.agg cp,.pointer (some ⟨gS,0,none⟩),.pointer (some ⟨gT,0,none⟩)] w (yM N w (sx G (p 0))):=by
 have hN:N<=w.heap.size:=by obtain⟨s,t,-,-,-,-,hs,-⟩:=hp 0 (by omega); exact hs.1
 have HU:=q_h h;have HP:=q_h hp;have HZ:=q_h hsz;have HST:Hid (((G.st:Int):Rat)≠0):=by have:=hG.s0; rw [Hid,Ne,Rat.intCast_eq_zero_iff]; omega
 have HSS:Hid (Sz ((G.st:Int):Rat)):=xn (by have:=hG.s0; have:=hG.s1; omega);have HS0:Hid (Sz (p 0)):=hk.sz (by omega);have HS1:Hid (Sz (p 0 - ((G.x0:Int):Rat))):=(hk.sub (qy (m:=21) (by have:=hG.x0; have:=hG.x1; omega) (by omega))).sz (by omega);have b0:=hG.x0;have b1:=hG.x1;obtain⟨q,hq⟩:=qf (sx G (p 0));rw [<-hq.out];clear h hp hsz hG hk;go_enter Tryz.func165,Tryz.ntmps165;go_upto_region 1 with (fail);refine zT ?_;intro W hE hsz B0 B1;obtain⟨⟨cs,c0,c1,c2⟩,hB⟩:=HU.out.ext hE;rw [<-qg c0] at c1 c2;obtain⟨ns,As,ks,cs,A's,k's,c's,Bs,hbs,ys,zs⟩:=hB;obtain⟨s0,s1,s2,s3,-⟩:=cells4 Bs;have hRs:qp N W (.agg #[.bool ns,.slice As ks cs,.bool false,.slice A's k's c's]) (((G.st:Int):Rat)):=qp.mk hbs ys zs;obtain⟨na,Aa,ka,ca,A'a,k'a,c'a,a0,a1,a2,a3,hRa⟩:=(((HP.out 0 (by omega)).ext hE).at4 B0).opn;simp only [Nat.zero_add,Nat.zero_mul,Nat.one_mul,Nat.reduceAdd] at a0 a1 a2 a3;clear hbs ys zs Bs c0;obtain⟨r0,r1,r2,r3,r4,r5,r6,r7⟩:=cells4 B1;refine jE [Mn.q w.heap.size 0,Mn.rat N (p 0),Mn.q gS 0,Mn.q gS 0,Mn.i G.x0,Mn.rat N ((G.x0:Int):Rat),Mn.rat N (p 0 - ((G.x0:Int):Rat)),Mn.rat N (((G.st:Int):Rat)),Mn.rat N q,Mn.any] [some 5,some 6,some 7,some 8,some 9,some 10,some 11,some 12,some 13,none] [9] (rQ 9 1) 1 (by kernel_rfl) ?_ ?_
 ·show ∀ i,i < 10->_
  iterate 10 refine fs ?_ ?_
  ·exact fz
  all_goals intro hl; first | exact absurd hl (by decide) | (clear hl; refine stp rfl ?_; intro ac wi eI hB hA K hK)
  have o3:=oOf (hB 3) rfl
  rotate_left
  obtain⟨_,s5,rfl⟩:=hA 0 5;clear hB hA;have cc0:=eI.cell a0;have cc1:=eI.cell a1;have cc2:=eI.cell a2;have cc3:=eI.cell a3
  ·go_simp;exact q_k hK (hRa.ext eI)
  have o1:=oOf (hB 1) rfl
  rotate_left
  obtain⟨_,s7,rfl⟩:=hA 2 7
  rotate_left
  obtain⟨_,s8,rfl⟩:=hA 3 8;have cc0:=eI.cell c1
  rotate_left
  obtain⟨_,s9,rfl⟩:=hA 4 9;clear hB hA
  ·go_simp;refine (qW (q_l (by omega:N<=W.heap.size) eI.size) G.x0 (by omega) (by omega)).mono ?_;rintro e wj ⟨vj,rfl,hj,ej⟩;go_wp2_with fail;exact hK.out _ _ ej hj
  obtain⟨x6,s6,j6⟩:=hA 1 6;replace j6:Mn.p (Mn.rat N (p 0)) x6 wi:=j6;obtain⟨x10,s10,j10⟩:=hA 5 10;replace j10:Mn.p (Mn.rat N ((G.x0:Int):Rat)) x10 wi:=j10;clear hB hA
  ·go_simp;refine (yY j6 j10 HS0.out (xn (by omega))).mono ?_;rintro e wj ⟨vj,rfl,hj,ej⟩;go_wp2_with fail;exact hK.out _ _ ej hj
  have o2:=oOf (hB 2) rfl;clear hB hA;have cc0:=eI.cell s0;have cc1:=eI.cell s1;have cc2:=eI.cell s2;have cc3:=eI.cell s3
  ·go_simp;exact q_k hK (hRs.ext eI)
  obtain⟨x11,s11,j11⟩:=hA 6 11;replace j11:Mn.p (Mn.rat N (p 0 - ((G.x0:Int):Rat))) x11 wi:=j11;obtain⟨x12,s12,j12⟩:=hA 7 12;replace j12:Mn.p (Mn.rat N (((G.st:Int):Rat))) x12 wi:=j12;clear hB hA
  ·go_simp;refine (QI j11 j12 HS1.out HSS.out HST.out).mono ?_;rw [show (p 0 - ((G.x0:Int):Rat)) / ((G.st:Int):Rat)=q from hq.out.symm];rintro e wj ⟨vj,rfl,hj,ej⟩;go_wp2_with fail;exact hK.out _ _ ej hj
  all_goals clear hB hA; go_simp; exact q_k hK rfl
 intro vals wz eZ hJ;have J13:Mn.p (Mn.rat N q) (vals 8) wz:=hJ 8 (by decide) (by decide);clear hJ;simp only [pr,Nat.reduceAdd]
 generalize vals 8=z13 at J13 ⊢
 obtain⟨bz,Az,kz,cz,Az',kz',cz',rfl,hbz,gz1,gz2⟩:=qp.parts J13;replace B1:=eZ.block B1;clear r0 r1 r2 r3 r4 r5 r6 r7;obtain⟨r0,r1,r2,r3,r4,r5,r6,r7⟩:=cells4 B1;refine qh (i:=9) rfl (by kernel_rfl) (by kernel_rfl) (fun K hK=>?_);go_simp;refine hK.out _ _ ?_;clear hK K;try simp only [nr]
 refine qi (by kernel_rfl) ?_ _;go_wp2;exact qM rfl rfl rfl (hE.trans eZ) B1 (by omega) hN gz1 gz2 hbz
theorem o_v {gS gT:Nat} {cp:Array Value} {p:Nat->Rat} (h:UV N w gS gT G) (hp:PtV N w cp 0 p) (hsz:cp.size=12) (hG:GOk G) (hk:Ht K (p 1)) (hK:K<=1000000) :
  Calls Tryz.prog 166 #[.agg cp,.pointer (some ⟨gS,0,none⟩),.pointer (some ⟨gT,0,none⟩)] w (yM N w (sy G (p 1))):=by
 have hN:N<=w.heap.size:=by obtain⟨s,t,-,-,-,-,hs,-⟩:=hp 0 (by omega); exact hs.1
 have HU:=q_h h;have HP:=q_h hp;have HZ:=q_h hsz;have HST:Hid (((G.st:Int):Rat)≠0):=by have:=hG.s0; rw [Hid,Ne,Rat.intCast_eq_zero_iff]; omega
 have HSS:Hid (Sz ((G.st:Int):Rat)):=xn (by have:=hG.s0; have:=hG.s1; omega);have HS0:Hid (Sz (p 1)):=hk.sz (by omega);have HS1:Hid (Sz (p 1 - ((G.y0:Int):Rat))):=(hk.sub (qy (m:=21) (by have:=hG.y0; have:=hG.y1; omega) (by omega))).sz (by omega);have b0:=hG.y0;have b1:=hG.y1;obtain⟨q,hq⟩:=qf (sy G (p 1));rw [<-hq.out];clear h hp hsz hG hk;go_enter Tryz.func166,Tryz.ntmps166;go_upto_region 1 with (fail);refine zT ?_;intro W hE hsz B0 B1;obtain⟨⟨cs,c0,c1,c2⟩,hB⟩:=HU.out.ext hE;rw [<-qg c0] at c1 c2;obtain⟨ns,As,ks,cs,A's,k's,c's,Bs,hbs,ys,zs⟩:=hB;obtain⟨s0,s1,s2,s3,-⟩:=cells4 Bs;have hRs:qp N W (.agg #[.bool ns,.slice As ks cs,.bool false,.slice A's k's c's]) (((G.st:Int):Rat)):=qp.mk hbs ys zs;obtain⟨na,Aa,ka,ca,A'a,k'a,c'a,a0,a1,a2,a3,hRa⟩:=(((HP.out 1 (by omega)).ext hE).at4 B0).opn;simp only [Nat.zero_add,Nat.zero_mul,Nat.one_mul,Nat.reduceAdd] at a0 a1 a2 a3;clear hbs ys zs Bs c0;obtain⟨r0,r1,r2,r3,r4,r5,r6,r7⟩:=cells4 B1;refine jE [Mn.q w.heap.size 4,Mn.rat N (p 1),Mn.q gS 0,Mn.q gS 1,Mn.i G.y0,Mn.rat N ((G.y0:Int):Rat),Mn.rat N (p 1 - ((G.y0:Int):Rat)),Mn.rat N (((G.st:Int):Rat)),Mn.rat N q,Mn.any] [some 5,some 6,some 7,some 8,some 9,some 10,some 11,some 12,some 13,none] [9] (rQ 9 1) 1 (by kernel_rfl) ?_ ?_
 ·show ∀ i,i < 10->_
  iterate 10 refine fs ?_ ?_
  ·exact fz
  all_goals intro hl; first | exact absurd hl (by decide) | (clear hl; refine stp rfl ?_; intro ac wi eI hB hA K hK)
  have o3:=oOf (hB 3) rfl
  rotate_left
  obtain⟨_,s5,rfl⟩:=hA 0 5;clear hB hA;have cc0:=eI.cell a0;have cc1:=eI.cell a1;have cc2:=eI.cell a2;have cc3:=eI.cell a3
  ·go_simp;exact q_k hK (hRa.ext eI)
  have o1:=oOf (hB 1) rfl
  rotate_left
  obtain⟨_,s7,rfl⟩:=hA 2 7
  rotate_left
  obtain⟨_,s8,rfl⟩:=hA 3 8;have cc0:=eI.cell c2
  rotate_left
  obtain⟨_,s9,rfl⟩:=hA 4 9;clear hB hA
  ·go_simp;refine (qW (q_l (by omega:N<=W.heap.size) eI.size) G.y0 (by omega) (by omega)).mono ?_;rintro e wj ⟨vj,rfl,hj,ej⟩;go_wp2_with fail;exact hK.out _ _ ej hj
  obtain⟨x6,s6,j6⟩:=hA 1 6;replace j6:Mn.p (Mn.rat N (p 1)) x6 wi:=j6;obtain⟨x10,s10,j10⟩:=hA 5 10;replace j10:Mn.p (Mn.rat N ((G.y0:Int):Rat)) x10 wi:=j10;clear hB hA
  ·go_simp;refine (yY j6 j10 HS0.out (xn (by omega))).mono ?_;rintro e wj ⟨vj,rfl,hj,ej⟩;go_wp2_with fail;exact hK.out _ _ ej hj
  have o2:=oOf (hB 2) rfl;clear hB hA;have cc0:=eI.cell s0;have cc1:=eI.cell s1;have cc2:=eI.cell s2;have cc3:=eI.cell s3
  ·go_simp;exact q_k hK (hRs.ext eI)
  obtain⟨x11,s11,j11⟩:=hA 6 11;replace j11:Mn.p (Mn.rat N (p 1 - ((G.y0:Int):Rat))) x11 wi:=j11;obtain⟨x12,s12,j12⟩:=hA 7 12;replace j12:Mn.p (Mn.rat N (((G.st:Int):Rat))) x12 wi:=j12;clear hB hA
  ·go_simp;refine (QI j11 j12 HS1.out HSS.out HST.out).mono ?_;rw [show (p 1 - ((G.y0:Int):Rat)) / ((G.st:Int):Rat)=q from hq.out.symm];rintro e wj ⟨vj,rfl,hj,ej⟩;go_wp2_with fail;exact hK.out _ _ ej hj
  all_goals clear hB hA; go_simp; exact q_k hK rfl
 intro vals wz eZ hJ;have J13:Mn.p (Mn.rat N q) (vals 8) wz:=hJ 8 (by decide) (by decide);clear hJ;simp only [pr,Nat.reduceAdd]
 generalize vals 8=z13 at J13 ⊢
 obtain⟨bz,Az,kz,cz,Az',kz',cz',rfl,hbz,gz1,gz2⟩:=qp.parts J13;replace B1:=eZ.block B1;clear r0 r1 r2 r3 r4 r5 r6 r7;obtain⟨r0,r1,r2,r3,r4,r5,r6,r7⟩:=cells4 B1;refine qh (i:=9) rfl (by kernel_rfl) (by kernel_rfl) (fun K hK=>?_);go_simp;refine hK.out _ _ ?_;clear hK K;try simp only [nr]
 refine qi (by kernel_rfl) ?_ _;go_wp2;exact qM rfl rfl rfl (hE.trans eZ) B1 (by omega) hN gz1 gz2 hbz
def VE (N base:Nat) (w:World) (v:Value) (l:List Rat):Prop:=Grow N base w v l.length (fun i=>l[i]?.getD 0)
structure YY (N lo:Nat) (w:World) (gO:Nat) (l:List Rat):Prop where
 out:∃ A c,w.heap[gO]?=some (.cells #[.slice A l.length c] 45 (0,0))/\VE N lo w (.slice A l.length c) l
 le:N<=lo
 lo:lo<=gO
theorem YY.lt {gO:Nat} {l:List Rat} (h:YY N lo w gO l):gO < w.heap.size:=by
 obtain⟨⟨A,c,h1,-⟩,-,-⟩:=h;exact qI h1
theorem YY.ext {gO:Nat} {l:List Rat} (h:YY N lo w gO l) (e:Ext w w'):YY N lo w' gO l:=by
 obtain⟨⟨A,c,h1,h2⟩,h3,h4⟩:=h;exact⟨⟨A,c,e.block h1,Grow.ext h2 e⟩,h3,h4⟩
theorem YY.apart {gO:Nat} {l:List Rat} (h:YY N lo w gO l) (hb:w.heap[gO]?=some (.cells #[.slice A l.length c] 45 (0,0))) (hg:VE N lo w (.slice A l.length c) l) (hk:(Value.slice A l.length c).ownBlock=some k):k≠gO:=by
 rintro rfl;obtain⟨-,-,⟨e,-⟩ | ⟨g,cap,e,-,-,hr⟩⟩:=hg
 ·rw [e] at hk; cases hk
 ·rw [e] at hk;obtain rfl:g=k:=by simpa [Value.ownBlock] using hk
  obtain⟨-,-,⟨cs,hc,-⟩,-⟩:=hr;rw [hb] at hc;injection hc with hc
  injection hc with _ hc _
  exact absurd hc (by decide)
structure q3T (N lo a b:Nat) (w:World) (gO:Nat) (l:List Rat):Prop where
 out:∃ A c,w.heap[gO]?=some (.cells #[.slice A l.length c] 45 (0,0))/\VE N lo w (.slice A l.length c) l/\∀ k,(Value.slice A l.length c).ownBlock=some k->k < a\/b<=k
 le:N<=lo
 lo:lo<=gO
theorem q3T.ext {a b gO:Nat} {l:List Rat} (h:q3T N lo a b w gO l) (e:Ext w w'):q3T N lo a b w' gO l:=by
 obtain⟨⟨A,c,h1,h2,h5⟩,h3,h4⟩:=h;exact⟨⟨A,c,e.block h1,Grow.ext h2 e,h5⟩,h3,h4⟩
theorem q3T.b {a b gO:Nat} {l:List Rat} (h:q3T N lo a b w gO l):YY N lo w gO l:=by
 obtain⟨⟨A,c,h1,h2,-⟩,h3,h4⟩:=h;exact⟨⟨A,c,h1,h2⟩,h3,h4⟩
theorem YY.q {gO:Nat} {l:List Rat} (h:YY N lo w gO l) (e:Ext w w') (b:Nat):q3T N lo w.heap.size b w' gO l:=by
 obtain⟨⟨A,c,h1,h2⟩,h3,h4⟩:=h;exact⟨⟨A,c,e.block h1,Grow.ext h2 e,fun k hk=>.inl (WY h2 hk).2⟩,h3,h4⟩
def Mid (a b:Nat) (w w':World):Prop:=∀ k,a<=k->k < b->w'.heap[k]?=w.heap[k]?
def Qy (lo:Nat) (w w':World):Prop:=∃ hi,Chg lo hi w w'
theorem Qy.refl (lo:Nat) (w:World):Qy lo w w:=⟨0,Chg.refl _ _ _⟩
theorem Qy.trans {a b c:World} (h:Qy lo a b) (h':Qy lo b c):Qy lo a c:=by
 obtain⟨h1,k1⟩:=h;obtain⟨h2,k2⟩:=h';exact⟨h1+h2,(k1.wide (q_r) (by omega)).trans (k2.wide (q_r) (by omega))⟩
theorem Ext.chgU (h:Ext w w') (lo:Nat):Qy lo w w':=⟨0,h.chg _ _⟩
theorem Chg.u {lo':Nat} (h:Chg lo hi w w') (hl:lo'<=lo):Qy lo' w w':=⟨hi,h.wide hl (q_r)⟩
theorem Qy.ext {a:World} (h:Qy lo w w') (e:Ext a w) (hl:a.heap.size<=lo):Ext a w':=by
 obtain⟨hi,k⟩:=h;exact k.ext e hl
theorem Qy.size (h:Qy lo w w'):w.heap.size<=w'.heap.size:=by
 obtain⟨hi,k⟩:=h;exact k.size
theorem Qy.blk (h:Qy lo w w') {o:Obj} (hk:w.heap[k]?=some o) (hc:k < lo):w'.heap[k]?=some o:=by
 obtain⟨hi,c⟩:=h;exact c.blk hk (.inl hc)
theorem qp.chgU {q:Rat} (h:qp N w v q) (c:Qy lo w w') (hN:N<=lo):qp N w' v q:=by
 obtain⟨hi,c⟩:=c;exact h.chg c hN
theorem Mid.trans {a b:Nat} {w'':World} (h:Mid a b w w') (h':Mid a b w' w''):Mid a b w w'':=fun k h1 h2=>(h' k h1 h2).trans (h k h1 h2)
theorem Ext.mid {a b:Nat} (h:Ext w w') (hb:b<=w.heap.size):Mid a b w w':=fun k _ h2=>Below.block h k (by omega)
def q1p (p q:Rat) (low:Int) (i:Nat):Rat:=(((low+(i:Int):Int):Rat) - p) / (q - p)
def XC (p q:Rat) (low:Int) (n:Nat):List Rat:=((List.range n).map (q1p p q low)).filter fun t=>decide (0 < t/\t < 1)
def KY (p q:Rat) (low high:Int):List Rat:=if q - p=0 then [] else XC p q low (high+1 - low).toNat
theorem WQ (p q:Rat) (low:Int) (n:Nat):XC p q low (n+1)=XC p q low n ++ if 0 < q1p p q low n/\q1p p q low n < 1 then [q1p p q low n] else []:=by
 unfold XC;rw [List.range_succ,List.map_append,List.filter_append]
 congr 1
 by_cases h:0 < q1p p q low n/\q1p p q low n < 1
 ·rw [if_pos h]; simp [h]
 ·rw [if_neg h]; simp [h]
theorem YE (p q:Rat) (low:Int) (n:Nat):(XC p q low n).length<=n:=by
 unfold XC;exact q_l (List.length_filter_le _ _) (by simp)
def RetLn (N lo gO:Nat) (w:World) (l:List Rat) (e:Ending) (w':World):Prop:=e=.returned (.tuple #[])/\YY N lo w' gO l/\Qy lo w w'
theorem zi {t:Rat}:0 < t.num.sign↔0 < t:=by
 rw [Int.sign_pos_iff,Rat.lt_iff]
 simp
theorem cmp_neg {y:Rat}:YP x y < 0↔x < y:=by
 have:=wW (x:=x) (y:=y)
 constructor
 ·intro h
  apply Classical.byContradiction
  intro h';exact absurd (this.2 (by grind)) (by omega)
 ·intro h
  apply Classical.byContradiction
  intro h';have:=this.1 (by omega)
  grind
theorem JG {gO:Nat} {vf vt:Value} {p q:Rat} {low high:Int} {l:List Rat} (hf:qp N w vf p) (ht:qp N w vt q) (hO:YY N lo w gO l) (hlen:l.length<=1000) (hkp:Ht K p) (hkq:Ht K q) (hK:K<=1000000) (hl0 : -100<=low) (hh0:high<=100) (hlh:low<=high+1) :
  Calls Tryz.prog 167 #[vf,vt,.int .i64 low,.int .i64 high,.pointer (some ⟨gO,0,none⟩)] w (RetLn N lo gO w (l ++ KY p q low high)):=by
 have hN:=hf.le;have HF:=q_h hf;have HT:=q_h ht;obtain⟨m1,X1,i1,d1,X2,i2,d2,rfl,hm1,gx1,gx2⟩:=hf.parts;obtain⟨m2,Y1,i3,d3,Y2,i4,d4,rfl,hm2,gy1,gy2⟩:=ht.parts;obtain⟨res,hres⟩:=qf (l ++ KY p q low high);rw [<-hres.out];have HSP:Hid (Sz p):=hkp.sz (by omega);have HSQ:Hid (Sz q):=hkq.sz (by omega);have hkd:Ht (2*K+1) (q - p):=(hkq.sub hkp).mono (by omega);have HKP:=q_h hkp;have HKD:=q_h hkd;have HSD:Hid (Sz (q - p)):=hkd.sz (by omega);have HOB:=q_h hO;have hgO:=hO.lt;have hlo:=hO.lo;have HLN:=q_h hlen;clear hf ht hO hkp hkq hkd gx1 gx2 gy1 gy2 hlen;go_enter Tryz.func167,Tryz.ntmps167;go_upto_region 1 with (fail);refine zT ?_;intro W hE hsz B0 B1;obtain⟨a0,a1,a2,a3,-⟩:=cells4 B0;obtain⟨b0,b1,b2,b3,-⟩:=cells4 B1;obtain⟨d,hd⟩:=qf (q - p);go_wp2_with (go_at_call 101; refine q_o ?_);refine (yY (HT.out.ext hE) (HF.out.ext hE) HSQ.out HSP.out).mono ?_;rw [<-hd.out] at HSD HKD ⊢;intro e w1 hh;obtain⟨b3',A3,k3,c3,A4,k4,c4,rfl,hb3,g3,g4,e1⟩:=hh.form;clear a0 a1 a2 a3 b0 b1 b2 b3;go_upto_region 2 with (fail);refine ql ?_;intro w2 e2 hsz2 B2;obtain⟨gD,hgD⟩:∃ gD,gD=w1.heap.size:=⟨_,rfl⟩
 rw [<-hgD] at B2 ⊢;have hsD:w.heap.size+2<=gD:=by have:=e1.size; omega
 have hsD2:gD < w2.heap.size:=qI B2;clear hgD;replace B0:=e2.block (e1.block B0);replace hE:=(hE.trans e1).trans e2;have hRD:qp N w2 _ d:=qp.mk hb3 (g3.ext e2) (g4.ext e2);obtain⟨s0,s1,s2,s3,-⟩:=cells4 B2;obtain⟨sg,hsg⟩:=qf d.num.sign;go_wp2_with (go_at_call 59; refine q_o ?_);refine (kY hRD HSD.out).mono ?_;rw [<-hsg.out];rintro e w3 ⟨rfl,e3⟩;replace B0:=e3.block B0;replace B2:=e3.block B2;replace hE:=hE.trans e3;replace hRD:=hRD.ext e3;replace hsD2:=Nat.lt_of_lt_of_le hsD2 e3.size;clear s0 s1 s2 s3 e1 e2 e3 hsz hsz2 B1 g3 g4 hb3
 by_cases h0:sg=0
 case pos =>
  have HR:Hid (l=res):=by
   have h1:d=0:=QJ.1 (by rw [<-hsg.out]; exact h0);rw [Hid,hres.out];unfold KY;rw [if_pos (by rw [<-hd.out]; exact h1),List.append_nil]
  have t0:(sg == 0)=true:=beq_iff_eq.2 h0;clear h0;go_wp2;refine bodyPost_ret (results_none rfl _ _ _) rfl ?_;exact⟨rfl,by rw [<-HR.out]; exact HOB.out.ext hE,hE.chgU _⟩
 have t0:(sg == 0)=false:=beq_eq_false_iff_ne.2 h0;have HD0:Hid (d≠0):=fun h1=>h0 (by rw [hsg.out,h1]; rfl)
 obtain⟨n,hn⟩:=qf (high+1 - low).toNat;have hn1:(n:Int)=high+1 - low:=by rw [hn.out]; omega
 have hn2:n<=201:=by omega
 have HR:Hid (l ++ XC p q low n=res):=by
  rw [Hid,hres.out,hn.out];unfold KY;rw [if_neg (by rw [<-hd.out]; exact HD0.out)]
 have HC:=q_h B0;have HE:=q_h B2;have HRD:=q_h hRD;have HX:=HOB.out.ext hE;clear h0 hres B0 B2 hRD hn;go_wp2
 go_loopw [10] (fun iv wr=>∃ i:Nat,i<=n/\iv=.int .i64 (low+i)/\q3T N lo w.heap.size w3.heap.size wr gO (l ++ XC p q low i)/\Qy lo w3 wr/\Mid w.heap.size w3.heap.size w3 wr) (fun iv _=>n - (intOf iv - low).toNat)
 case atStart=>exact⟨0,by omega,by simp,by rw [show XC p q low 0=[] from rfl,List.append_nil]; exact HOB.out.q hE _,Qy.refl _ _,fun _ _ _=>rfl⟩
 case round =>
  clear HX;obtain⟨i,hi,rfl,hO,hC,hM⟩:=hrel;have hsr:=hC.size;obtain⟨kk,hkk⟩:=qf (low+(i:Int));have hk1:kk=low+i:=hkk.out;have hw1:IntKind.i64.wrap (kk+1)=kk+1:=IntWalk.i64_in _ (by omega);rw [<-hkk.out]
  by_cases hlt:i < n
  case neg =>
   obtain rfl:i=n:=by omega
   have t1:decide (kk<=high)=false:=q_f (by omega);have hF:Qy lo w wr:=(hE.chgU lo).trans hC;clear hk1;go_wp2;refine bodyPost_end (results_none rfl _ _ _) rfl ?_;exact⟨rfl,by rw [<-HR.out]; exact hO.b,hF⟩
  have t1:decide (kk<=high)=true:=q_t (by omega);have kb0 : -301<=kk:=by omega
  have kb1:kk<=301:=by omega
  have hnk:kk+1=low+((i+1:Nat):Int):=by omega
  have HNK:=q_h hnk;clear hk1 hnk;have hNl:N<=lo:=hO.le;have hRf:qp N wr _ p:=(HF.out.ext hE).chgU hC hNl;have hRD:qp N wr _ d:=HRD.out.chgU hC hNl;have B0:=(hM w.heap.size (q_r) (by omega)).trans HC.out;have B2:=(hM gD (by omega) hsD2).trans HE.out;obtain⟨a0,a1,a2,a3,-⟩:=cells4 B0;obtain⟨s0,s1,s2,s3,-⟩:=cells4 B2;obtain⟨t,ht⟩:=qf (q1p p q low i);have HTE:Hid ((((kk:Int):Rat) - p) / d=t):=by rw [Hid,ht.out,hd.out,hkk.out]; rfl
  have hk9:Ht (K+10) (((kk:Int):Rat) - p):=((qy (k:=kk) (m:=9) (by omega) (by omega)).sub HKP.out).mono (by omega);have HS9:Hid (Sz (((kk:Int):Rat) - p)):=hk9.sz (by omega);have hkt:Ht (3*K+11) t:=by rw [<-HTE.out]; exact (hk9.div HKD.out).mono (by omega)
  have HSt:Hid (Sz t):=hkt.sz (by omega);clear hk9 hkt;go_upto_region 6 with (fail);refine jE [Mn.i kk,Mn.rat N ((kk:Int):Rat),Mn.rat N (p),Mn.rat N (((kk:Int):Rat) - p),Mn.rat N (d),Mn.rat N t,Mn.blk wr.heap.size (.cells #[.bool false,.slice none 0 0,.bool false,.slice none 0 0] 29 (0,0)),Mn.any] [some 24,some 25,some 26,some 27,some 28,some 29,some 11,none] [7] (rQ 7 1) 1 (by kernel_rfl) ?_ ?_
  ·show ∀ i,i < 8->_
   iterate 8 refine fs ?_ ?_
   ·exact fz
   all_goals intro hl; first | exact absurd hl (by decide) | (clear hl; refine stp rfl ?_; intro ac wi eI hB hA K hK)
   have o10:=oOf (hB 10) rfl
   rotate_left
   obtain⟨_,s24,rfl⟩:=hA 0 24;clear hB hA
   ·go_simp;refine (qW (q_l (by omega:N<=wr.heap.size) eI.size) kk (by omega) (by omega)).mono ?_;rintro e wj ⟨vj,rfl,hj,ej⟩;go_wp2_with fail;exact hK.out _ _ ej hj
   have o5:=oOf (hB 5) rfl;clear hB hA;have cc0:=eI.cell a0;have cc1:=eI.cell a1;have cc2:=eI.cell a2;have cc3:=eI.cell a3
   ·go_simp;exact q_k hK (hRf.ext eI)
   obtain⟨x25,s25,j25⟩:=hA 1 25;replace j25:Mn.p (Mn.rat N ((kk:Int):Rat)) x25 wi:=j25;obtain⟨x26,s26,j26⟩:=hA 2 26;replace j26:Mn.p (Mn.rat N (p)) x26 wi:=j26;clear hB hA
   ·go_simp;refine (yY j25 j26 (xn (by omega)) HSP.out).mono ?_;rintro e wj ⟨vj,rfl,hj,ej⟩;go_wp2_with fail;exact hK.out _ _ ej hj
   have o9:=oOf (hB 9) rfl;clear hB hA;have cc0:=eI.cell s0;have cc1:=eI.cell s1;have cc2:=eI.cell s2;have cc3:=eI.cell s3
   ·go_simp;exact q_k hK (hRD.ext eI)
   obtain⟨x27,s27,j27⟩:=hA 3 27;replace j27:Mn.p (Mn.rat N (((kk:Int):Rat) - p)) x27 wi:=j27;obtain⟨x28,s28,j28⟩:=hA 4 28;replace j28:Mn.p (Mn.rat N (d)) x28 wi:=j28;clear hB hA
   ·go_simp;refine (QI j27 j28 HS9.out HSD.out HD0.out).mono ?_;rw [HTE.out];rintro e wj ⟨vj,rfl,hj,ej⟩;go_wp2_with fail;exact hK.out _ _ ej hj
   clear hB hA
   ·go_simp;refine ql ?_;intro wj ej hszj BJ;exact hK.out _ _ ej ⟨_,rfl,eI.size,BJ⟩
   all_goals clear hB hA; go_simp; exact q_k hK rfl
  intro vals wz eZ hJ;have J29:Mn.p (Mn.rat N t) (vals 5) wz:=hJ 5 (by decide) (by decide);have J11:Mn.p (Mn.blk wr.heap.size (.cells #[.bool false,.slice none 0 0,.bool false,.slice none 0 0] 29 (0,0))) (vals 6) wz:=hJ 6 (by decide) (by decide);clear hJ;simp only [pr,Nat.reduceAdd]
  generalize vals 5=z29 at J29 ⊢
  generalize vals 6=z11 at J11 ⊢
  obtain⟨gt,rfl,hgt,BT⟩:=J11;obtain⟨bz,Az,kz,cz,Az',kz',cz',rfl,hbz,gz1,gz2⟩:=qp.parts J29;obtain⟨y0,y1,y2,y3,y4,y5,y6,y7⟩:=cells4 BT;refine qh (i:=7) rfl (by kernel_rfl) (by kernel_rfl) (fun K hK=>?_);go_simp;refine hK.out _ _ ?_;clear hK K;try simp only [nr]
  refine qi (by kernel_rfl) ?_ _;obtain⟨wT,ET,hBT,KT,hsT⟩:=kN (q:=t) BT (by omega) hbz gz1 gz2;rw [ET];have hET:Ext wr wT:=KT.ext eZ hgt;have hgtl:gt < wT.heap.size:=by have:=qI BT; omega
  clear a0 a1 a2 a3 s0 s1 s2 s3 hRf hRD B0 B2 y0 y1 y2 y3 y4 y5 y6 y7 ET KT BT hsT hbz gz1 gz2 eZ;have hgt3:w3.heap.size<=gt:=q_l hsr hgt;replace hO:=hO.ext hET;replace hC:=hC.trans (hET.chgU lo);replace hM:=hM.trans (hET.mid hsr);replace hsr:=q_l hsr hET.size;obtain⟨w6,hw6⟩:∃ w6,w6=wT:=⟨_,rfl⟩
  subst hw6;clear hET;clear hgt;go_upto_region 7 with (fail);obtain⟨nx,Ax,kx,cx,A'x,k'x,c'x,Bx,hbx,yx,zx⟩:=hBT;obtain⟨x0,x1,x2,x3,-⟩:=cells4 Bx;have hRx:qp N w6 (.agg #[.bool nx,.slice Ax kx cx,.bool false,.slice A'x k'x c'x]) (t):=qp.mk hbx yx zx;obtain⟨st,hst⟩:=qf t.num.sign;have hx1:Hid (Sz (1:Rat)):=Ht.one.sz (by omega);obtain⟨l9,hl9⟩:=qf (l ++ XC p q low i)
  have HL9:Hid (l9.length<=1300):=by
   have h1:=HLN.out;have h2:=YE p q low i;rw [Hid,hl9.out,List.length_append];omega
  have HNX:Hid (l ++ XC p q low (i+1)=l9 ++ if 0 < t/\t < 1 then [t] else []):=by rw [Hid,WQ,<-List.append_assoc,<-hl9.out,<-ht.out]
  rw [<-hl9.out] at hO
  by_cases hs1:0 < st
  case neg =>
   have p1:decide (0 < st)=false:=q_f hs1
   have HN2:Hid (l9=l ++ XC p q low (i+1)):=by
    rw [Hid,HNX.out,if_neg (fun h=>hs1 (by rw [hst.out]; exact zi.2 h.1)),List.append_nil]
   refine jE [Mn.rat N (t),Mn.i st,Mn.t false,Mn.t false,Mn.eq undef,Mn.eq undef,Mn.eq undef,Mn.eq undef,Mn.t false] (sM [30,31,32,33,34,35,36,37,38]) [] (rQ 9 0) 0 (by kernel_rfl) ?_ ?_
   ·show ∀ i,i < 9->_
    iterate 9 refine fs ?_ ?_
    ·exact fz
    all_goals intro hl; clear hl; refine stp rfl ?_; intro ac wi eI hB hA K hK
    have o11:=oOf (hB 11) rfl;clear hB hA;have cc0:=eI.cell x0;have cc1:=eI.cell x1;have cc2:=eI.cell x2;have cc3:=eI.cell x3
    ·go_simp;exact q_k hK (hRx.ext eI)
    obtain⟨x30,s30,j30⟩:=hA 0 30;replace j30:Mn.p (Mn.rat N (t)) x30 wi:=j30;clear hB hA
    ·go_simp;refine (kY j30 HSt.out).mono ?_;rw [<-hst.out];rintro e wj ⟨rfl,ej⟩;go_wp2_with fail;exact hK.out _ _ ej rfl
    obtain⟨_,s31,rfl⟩:=hA 1 31
    rotate_left
    obtain⟨_,s32,rfl⟩:=hA 2 32
    rotate_left
    iterate 4 (obtain⟨_,s33,rfl⟩:=hA 3 33; clear hB hA; rw [if_neg (by simp [Region.wanted,yielded,s33,undef])]; exact q_k hK rfl)
    obtain⟨_,s33,rfl⟩:=hA 3 33;obtain⟨_,s37,rfl⟩:=hA 7 37
    rotate_left
    all_goals clear hB hA; go_simp; exact q_k hK rfl
   intro vals wz eZ hJ;have J38:vals 8=_:=hJ 8 (by decide) (by decide);clear hJ;simp only [pr,Nat.reduceAdd,J38];clear J38;refine qi (by kernel_rfl) ?_ _;rw [HN2.out] at hO;have e1:Ext w6 wz:=eZ;clear x0 x1 x2 x3 hbx yx zx Bx hRx hs1;go_wp2;go_roundw
   case rel=>exact⟨i+1,by omega,by rw [HNK.out],hO.ext e1,hC.trans (e1.chgU lo),hM.trans (e1.mid hsr)⟩
   case measure=>have:=HNK.out; simp [intOf]; omega
  have p1:decide (0 < st)=true:=q_t hs1;obtain⟨ct,hct⟩:=qf (YP t 1);obtain⟨pc,hpc⟩:=qf (decide (ct < 0));have p2:decide (ct < 0)=pc:=hpc.out.symm;refine jE [Mn.rat N (t),Mn.i st,Mn.t true,Mn.t true,Mn.rat N (t),Mn.rat N (((1:Int):Rat)),Mn.i ct,Mn.t pc,Mn.t pc] (sM [30,31,32,33,34,35,36,37,38]) [] (rQ 9 0) 0 (by kernel_rfl) ?_ ?_
  ·show ∀ i,i < 9->_
   iterate 9 refine fs ?_ ?_
   ·exact fz
   all_goals intro hl; clear hl; refine stp rfl ?_; intro ac wi eI hB hA K hK
   have o11:=oOf (hB 11) rfl;clear hB hA;have cc0:=eI.cell x0;have cc1:=eI.cell x1;have cc2:=eI.cell x2;have cc3:=eI.cell x3
   ·go_simp;exact q_k hK (hRx.ext eI)
   obtain⟨x30,s30,j30⟩:=hA 0 30;replace j30:Mn.p (Mn.rat N (t)) x30 wi:=j30;clear hB hA
   ·go_simp;refine (kY j30 HSt.out).mono ?_;rw [<-hst.out];rintro e wj ⟨rfl,ej⟩;go_wp2_with fail;exact hK.out _ _ ej rfl
   obtain⟨_,s31,rfl⟩:=hA 1 31
   rotate_left
   obtain⟨_,s32,rfl⟩:=hA 2 32
   rotate_left
   obtain⟨_,s33,rfl⟩:=hA 3 33;have o11:=oOf (hB 11) rfl;clear hB hA;rw [if_pos (by simp [Region.wanted,yielded,s33])];have cc0:=eI.cell x0;have cc1:=eI.cell x1;have cc2:=eI.cell x2;have cc3:=eI.cell x3
   ·go_simp;exact q_k hK (hRx.ext eI)
   obtain⟨_,s33,rfl⟩:=hA 3 33;clear hB hA;rw [if_pos (by simp [Region.wanted,yielded,s33])]
   ·go_simp;refine (qW (q_l (by omega:N<=w6.heap.size) eI.size) 1 (by omega) (by omega)).mono ?_;rintro e wj ⟨vj,rfl,hj,ej⟩;go_wp2_with fail;exact hK.out _ _ ej hj
   obtain⟨_,s33,rfl⟩:=hA 3 33;obtain⟨x34,s34,j34⟩:=hA 4 34;replace j34:Mn.p (Mn.rat N (t)) x34 wi:=j34;obtain⟨x35,s35,j35⟩:=hA 5 35;replace j35:Mn.p (Mn.rat N (((1:Int):Rat))) x35 wi:=j35;clear hB hA;rw [if_pos (by simp [Region.wanted,yielded,s33])]
   ·go_simp;refine (jL j34 j35 HSt.out (xn (by decide))).mono ?_;rw [show (t.num*(((1:Int):Rat)).den - (((1:Int):Rat)).num*t.den).sign=ct from hct.out.symm];rintro e wj ⟨rfl,ej⟩;go_wp2_with fail;exact hK.out _ _ ej rfl
   obtain⟨_,s33,rfl⟩:=hA 3 33;obtain⟨_,s36,rfl⟩:=hA 6 36;rw [if_pos (by simp [Region.wanted,yielded,s33])]
   rotate_left
   obtain⟨_,s33,rfl⟩:=hA 3 33;obtain⟨_,s37,rfl⟩:=hA 7 37
   rotate_left
   all_goals clear hB hA; go_simp; exact q_k hK rfl
  intro vals wz eZ hJ;have J38:vals 8=_:=hJ 8 (by decide) (by decide);clear hJ;simp only [pr,Nat.reduceAdd,J38];clear J38;refine qi (by kernel_rfl) ?_ _;have e1:Ext w6 wz:=eZ;clear eZ;have hTp:0 < t:=zi.1 (by rw [<-hst.out]; exact hs1);have hO2:=hO.ext e1;have hC2:=hC.trans (e1.chgU lo);have hM2:=hM.trans (e1.mid hsr);replace hsr:=q_l hsr e1.size;cases pc with
  | false =>
   have HN2:Hid (l9=l ++ XC p q low (i+1)):=by
    rw [Hid,HNX.out,if_neg (fun h=>absurd (cmp_neg.2 h.2) (by rw [<-hct.out]; exact of_decide_eq_false p2)),List.append_nil]
   rw [HN2.out] at hO2;clear x0 x1 x2 x3 hbx yx zx Bx hRx hs1 hO hC hM e1 hTp;go_wp2;go_roundw
   case rel=>exact⟨i+1,by omega,by rw [HNK.out],hO2,hC2,hM2⟩
   case measure=>have:=HNK.out; simp [intOf]; omega
  | true =>
   have HN2:Hid (l9 ++ [t]=l ++ XC p q low (i+1)):=by
    rw [Hid,HNX.out,if_pos ⟨hTp,cmp_neg.1 (by rw [<-hct.out]; exact of_decide_eq_true p2)⟩]
   clear hO hC hM hTp;obtain⟨⟨A,c,BO,hG,hown⟩,-,-⟩:=hO2;have hap:=fun k=>YY.apart ⟨⟨A,c,BO,hG⟩,hNl,hlo⟩ BO hG (k:=k)
   have hgOl:gO < w6.heap.size:=by omega
   replace x0:=e1.cell x0;replace x1:=e1.cell x1;replace x2:=e1.cell x2;replace x3:=e1.cell x3;replace yx:=yx.ext e1;replace zx:=zx.ext e1;obtain⟨o0,-⟩:=zF BO;have HG:=q_h hG;have HAP:=q_h hap;have HOW:=q_h hown;have HBO:=q_h BO;obtain⟨n9,hn9⟩:=qf l9.length;rw [<-hn9.out] at o0 HL9;clear hG hap hown BO hs1 p1 p2;go_wp2_with (at_builtin; refine q_o ?_);refine ql ?_;intro w8 e8 hsz8 BX;have hG8:Grow N lo w8 (.slice A n9 c) n9 (fun i=>l9[i]?.getD 0):=by rw [hn9.out]; exact Grow.ext HG.out e8
   refine zU rfl _ _ 45 Tryz.underlying45 rfl rfl hG8 rfl BX hbx (yx.ext e8) (zx.ext e8) (by have:=HL9.out; omega) ?_;rintro g' cap w9 gp hG9 hlo9 C9 hp9 ho9
   have hown:∀ k,((Value.slice A n9 c).ownBlock=some k\/k=w8.heap.size)->k≠gO/\(k < w.heap.size\/w3.heap.size<=k):=by
    rintro k (hk | rfl)
    ·rw [hn9.out] at hk;exact⟨HAP.out k hk,HOW.out k hk⟩
    ·exact⟨by omega,.inr (by omega)⟩
   have hgp:=hown _ hp9;have hg':=hown _ ho9;have BO9:=C9.blk (e8.block HBO.out) (by omega);obtain⟨o9,f9⟩:=zF BO9
   have hGL:VE N lo w9 (.slice (some ⟨g',0,none⟩) (n9+1) cap) (l9 ++ [t]):=by
    unfold VE;rw [List.length_append,<-hn9.out];refine hG9.congr (fun j hj=>?_);unfold upd
    rcases Nat.lt_or_ge j n9 with h | h
    ·rw [if_neg (by omega),List.getElem?_append_left (by rw [<-hn9.out]; exact h)]
    ·have h9:j=l9.length:=by rw [<-hn9.out]; omega
     rw [if_pos (by omega),h9]
     simp
   clear hG8 hG9 x0 x1 x2 x3 yx zx BX hbx o0 hRx Bx hp9 ho9 hown;have hs8:=e8.size;have hs9:=C9.size;go_wp2;obtain⟨wS,ES,FS,US⟩:=ex1 BO9 (.slice (some ⟨g',0,none⟩) (n9+1) cap);rw [ES];have CS:=US.chg (NoU.mk BO9 (by decide));go_roundw
   case rel =>
    refine⟨i+1,by omega,by rw [HNK.out],?_,hC2.trans ((e8.chgU lo).trans ((C9.u hlo9).trans (CS.u hlo))),(hM2.trans (e8.mid hsr)).trans (Mid.trans (w':=w9) (fun k h1 h2=>?_) (fun k h1 h2=>US.block k (by omega)))⟩
    ·rw [<-HN2.out];refine⟨⟨some ⟨g',0,none⟩,cap,?_,XG ?_ CS (by omega) ?_,fun k hk=>?_⟩,hNl,hlo⟩
     ·rw [FS,List.length_append,<-hn9.out]; rfl
     ·have:=hGL;unfold VE at this;rw [List.length_append,<-hn9.out] at this ⊢;exact this
     ·simp only [Value.ownBlock,ne_eq,Option.some.injEq]; exact hg'.1
     ·obtain rfl:g'=k:=by simpa [Value.ownBlock] using hk
      exact hg'.2
    ·have hkl:k < w8.heap.size:=by omega
     exact C9.block k hkl (by have:=hgp.2; omega)
   case measure=>have:=HNK.out; simp [intOf]; omega
end Go.Proofs.YtphpkhoeplcedaaGreat
