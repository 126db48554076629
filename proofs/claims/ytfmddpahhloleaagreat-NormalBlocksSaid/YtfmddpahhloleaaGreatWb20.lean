import Derived.Test.YtfmddpahhloleaaGreatWb13
set_option linter.all false
set_option maxHeartbeats 8000000
namespace Go.Proofs.YtfmddpahhloleaaGreat
open Go.RowKit
variable {w:World} {N n lo hi k g i b K:Nat}
structure EqO (N b lo hi:Nat) (w:World) (ge h cap n:Nat) (β κ:Nat->Nat) (g:Nat) (M:Nat->Nat->Rat) (r:Nat->Rat):Prop where
 le:N<=b
 bg:b<=g
 gl:g < lo
 be:b<=ge
 el:ge < lo
 ne:ge≠g
 rec_:w.heap[ge]?=some (.cells #[.slice (some ⟨h,0,none⟩) n cap,.slice (some ⟨g,0,none⟩) n n] 102 (0,0))
 own:zu N lo hi w h cap n n β κ M
 row:zC N w g n n r
 capm:cap<=maxLen
section
variable {N b lo hi:Nat} {w w':World} {ge h cap n:Nat} {β κ:Nat->Nat} {g:Nat} {M M':Nat->Nat->Rat} {r r':Nat->Rat}
theorem EqO.ext (q:EqO N b lo hi w ge h cap n β κ g M r) (e:Ext w w'):EqO N b lo hi w' ge h cap n β κ g M r :=
 ⟨q.le,q.bg,q.gl,q.be,q.el,q.ne,e.block q.rec_,q.own.ext e,q.row.ext e,q.capm⟩
theorem EqO.congr (q:EqO N b lo hi w ge h cap n β κ g M r) (h1:∀ i,i < n->∀ j,j < n->M i j=M' i j) (h2:∀ j,j < n->r j=r' j):EqO N b lo hi w ge h cap n β κ g M' r' :=
 ⟨q.le,q.bg,q.gl,q.be,q.el,q.ne,q.rec_,q.own.congr h1,q.row.congr h2,q.capm⟩
theorem EqO.setR (q:EqO N b lo hi w ge h cap n β κ g M r) (c:Chg g (g+1) w w') (hr:zC N w' g n n r'):EqO N b lo hi w' ge h cap n β κ g M r':=by
 have h1:=q.le;have h2:=q.bg;have h3:=q.gl;have h4:=q.ne;exact⟨q.le,q.bg,q.gl,q.be,q.el,q.ne,c.blk q.rec_ (by omega),q.own.chg c (by omega) (.inr (by omega)),hr,q.capm⟩
theorem EqO.setM (q:EqO N b lo hi w ge h cap n β κ g M r) (hi':i < n) (c:Chg (β i) (β i+1) w w') {x:Nat->Rat} (hx:zC N w' (β i) (κ i) n x):EqO N b lo hi w' ge h cap n β κ g (xK M i x) r:=by
 have h1:=q.le;have h2:=q.bg;have h3:=q.gl;have h4:=q.el;have h5:=q.own.lo_ i hi';exact⟨q.le,q.bg,q.gl,q.be,q.el,q.ne,c.blk q.rec_ (.inl (by omega)),q.own.setRow hi' c hx,q.row.chg c (by omega) (.inl (by omega)),q.capm⟩
end
def Jf (p:Rat) (x:Nat->Rat) (M:Nat->Nat->Rat) (i a b:Nat):Rat:=if a < i then M a b+p*x a*x b else M a b
def Y6 (p:Rat) (x:Nat->Rat) (y:Rat) (r:Nat->Rat) (i a:Nat):Rat:=if a < i then r a+p*x a*y else r a
def jD (k:Rat) (x z:Nat->Rat) (j b:Nat):Rat:=if b < j then z b+k*x b else z b
theorem Jp (k:Rat) (x z:Nat->Rat) (j b:Nat):jD k x z (j+1) b=upd (jD k x z j) j (z j+k*x j) b:=by
 unfold jD upd
 by_cases e:b=j
 ·subst e; rw [if_pos (by omega),if_pos rfl]
 ·rw [if_neg e]
  show (if b < j+1 then z b+k*x b else z b)=(if b < j then z b+k*x b else z b)
  by_cases e2:b < j
  ·rw [if_pos e2,if_pos (by omega)]
  ·rw [if_neg e2,if_neg (by omega)]
theorem q17 (p:Rat) (x:Nat->Rat) (y:Rat) (r:Nat->Rat) (i a:Nat):Y6 p x y r (i+1) a=upd (Y6 p x y r i) i (r i+p*x i*y) a:=by
 unfold Y6 upd
 by_cases e:a=i
 ·subst e; rw [if_pos (by omega),if_pos rfl]
 ·rw [if_neg e]
  show (if a < i+1 then r a+p*x a*y else r a)=(if a < i then r a+p*x a*y else r a)
  by_cases e2:a < i
  ·rw [if_pos e2,if_pos (by omega)]
  ·rw [if_neg e2,if_neg (by omega)]
theorem q19 (p:Rat) (x:Nat->Rat) (M:Nat->Nat->Rat) (a:Nat) (hb:b < n):Jf p x M (i+1) a b=xK (Jf p x M i) i (jD (p*x i) x (M i) n) a b:=by
 unfold Jf xK
 by_cases e:a=i
 ·subst e; rw [if_pos (by omega),if_pos rfl]; unfold jD; rw [if_pos hb]
 ·rw [if_neg e]
  show (if a < i+1 then M a b+p*x a*x b else M a b)=(if a < i then M a b+p*x a*x b else M a b)
  by_cases e2:a < i
  ·rw [if_pos e2,if_pos (by omega)]
  ·rw [if_neg e2,if_neg (by omega)]
theorem q15 {p:Rat} {x:Nat->Rat} {y:Rat} {r:Nat->Rat} (h:p*x i=0) (a:Nat):Y6 p x y r (i+1) a=Y6 p x y r i a:=by
 unfold Y6
 by_cases e:a=i
 ·subst e; rw [if_pos (by omega),if_neg (by omega),h]; grind
 ·by_cases e2:a < i
  ·rw [if_pos e2,if_pos (by omega)]
  ·rw [if_neg e2,if_neg (by omega)]
theorem q18 {p:Rat} {x:Nat->Rat} {M:Nat->Nat->Rat} (h:p*x i=0) (a b:Nat):Jf p x M (i+1) a b=Jf p x M i a b:=by
 unfold Jf
 by_cases e:a=i
 ·subst e; rw [if_pos (by omega),if_neg (by omega),h]; grind
 ·by_cases e2:a < i
  ·rw [if_pos e2,if_pos (by omega)]
  ·rw [if_neg e2,if_neg (by omega)]
def q3t (N b lo hi:Nat) (w:World) (ge h cap n:Nat) (β κ:Nat->Nat) (g:Nat) (M:Nat->Nat->Rat) (r:Nat->Rat) (e:Ending) (w':World):Prop :=
 e=.returned (.tuple #[])/\EqO N b lo hi w' ge h cap n β κ g M r/\Chg b hi w w'
set_option maxRecDepth 100000 in
theorem q58 {ge h cap:Nat} {β κ:Nat->Nat} {M:Nat->Nat->Rat} {r:Nat->Rat} (q:EqO N b lo hi w ge h cap n β κ g M r) {lo' hi':Nat} {vx vy vp:Value} {x:Nat->Rat} {y p:Rat} (hx:LsV N lo' hi' w vx n x) (hd:hi'<=b) (hy:qY N w vy y) (hp:qY N w vp p) (hn:n < 1000000)
 (hM:HtM n n K M) (hr:HtL n K r) (hkx:HtL n k x) (hky:Ht k y) (hkp:Ht k p) (hK:K+3*k+1<=29000000000) :
  Calls Tryz.prog 125 #[.pointer (some ⟨ge,0,none⟩),vx,vy,vp] w (q3t N b lo hi w ge h cap n β κ g (Jf p x M n) (Y6 p x y r n)):=by
 have HM:=q_h hM;have HR:=q_h hr;have HX:=q_h hkx;have HY:=q_h hky;have HP:=q_h hkp;have HK:=q_h hK;obtain⟨Rf,hRf⟩:=qc (q3t N b lo hi w ge h cap n β κ g (Jf p x M n) (Y6 p x y r n));rw [<-hRf.out];obtain⟨A,c,rfl,hnc,hcm⟩:=hx.form;obtain⟨m1,X1,i1,d1,X2,i2,d2,rfl,hm1,gx1,gx2⟩:=hy.parts;obtain⟨m2,Y1,i3,d3,Y2,i4,d4,rfl,hm2,gy1,gy2⟩:=hp.parts;have hN:=q.le;have hbg:=q.bg;have hgl:=q.gl;have hbe:=q.be;have hel:=q.el;have hlo:=q.own.hlo;have hhi:=q.own.hhi;have his:=q.own.his;have hI:=hx;clear hx hy hp hM hr hkx hky hkp hK hcm;go_enter Tryz.func125,Tryz.ntmps125;go_upto_region 1 with (fail);refine kG ?_;intro W hE hsz B0 B1;have hBy:kW N W w.heap.size y:=kW.mk B0 hm1 (gx1.ext hE) (gx2.ext hE);have hBp:kW N W (w.heap.size+1) p:=kW.mk B1 hm2 (gy1.ext hE) (gy2.ext hE);obtain⟨gv,hgv⟩:∃ gv,gv=w.heap.size:=⟨_,rfl⟩
 rw [<-hgv] at hBy hBp hsz his ⊢;have q0:=q.ext hE;have hC:=hE.chg b hi;clear q B0 B1 hm1 hm2 gx1 gx2 gy1 gy2 hgv;go_wp2
 go_loopw [15] (fun i wr=>∃ a:Nat,a<=n/\i=.int .i64 a/\Chg b hi w wr/\gv+2<=wr.heap.size/\EqO N b lo hi wr ge h cap n β κ g (Jf p x M a) (Y6 p x y r a)/\kW N wr gv y/\kW N wr (gv+1) p) (fun i _=>n - (intOf i).toNat)
 case atStart=>exact⟨0,Nat.zero_le _,rfl,hC,by omega,q0,hBy,hBp⟩
 case round =>
  clear q0 hBy hBp hC hE hsz;obtain⟨a,ha,rfl,hC,hsz,q,hBy,hBp⟩:=hrel
  by_cases hlt:a < n
  ·have hl:=hI.chg hC (by omega) (.inl hd);obtain⟨bx,ox,rfl,-,hbx,hx⟩:=hl.addr (by omega);obtain⟨n1,A3,k3,c3,A4,k4,c4,p0,p1,p2,p3,hb1,g1,g2⟩:=(hx a hlt).open;clear hx;go_upto_region 4 with (fail);refine qo ?_;intro w3 e3 hsz3 B3;have hBx:=kW.mk B3 hb1 (g1.ext e3) (g2.ext e3);replace hC:=hC.trans (e3.chg _ _);replace q:=q.ext e3;replace hBy:=hBy.ext e3;replace hBp:=hBp.ext e3
   generalize hg9:wr.heap.size=g9 at *
   clear e3 hg9 p0 p1 p2 p3 g1 g2 hb1 B3 hl;obtain⟨b1,A1,k1,c1,A2,k2,c2,BS,hb1,g1,g2⟩:=hBx;obtain⟨s0,s1,s2,s3,-⟩:=cells4 BS;obtain⟨b5,A5,k5,c5,A6,k6,c6,BT,hb5,g5,g6⟩:=hBp;obtain⟨t0,t1,t2,t3,-⟩:=cells4 BT;have HS1:Hid (Sz p):=HP.out.sz (by have:=HK.out; omega);have HS2:Hid (Sz (x a)):=(HX.out a hlt).sz (by have:=HK.out; omega);have HTK:Hid (Ht (k+k) (p*x a)):=HP.out.mul (HX.out a hlt);obtain⟨kk,hkk⟩:=qc (p*x a);go_wp2_with (go_at_call 112; refine q_o ?_);refine (KY (qY.mk hb5 g5 g6) (qY.mk hb1 g1 g2) HS1.out HS2.out).mono ?_;rw [<-hkk.out];rw [<-hkk.out] at HTK;intro e w4 hh;obtain⟨b7,A7,k7,c7,A8,k8,c8,rfl,hb7,g7,g8,e4⟩:=hh.form;replace hC:=hC.trans (e4.chg _ _);replace q:=q.ext e4;replace hBy:=hBy.ext e4;have hBp:=(kW.mk BT hb5 g5 g6).ext e4;have hsz4:=e4.size;clear s0 s1 s2 s3 t0 t1 t2 t3 BS BT g1 g2 g5 g6 hb1 hb5 e4;go_upto_region 5 with (fail);refine qo ?_;intro w5 e5 hsz5 B5;replace hC:=hC.trans (e5.chg _ _);replace q:=q.ext e5;replace hBy:=hBy.ext e5;replace hBp:=hBp.ext e5;have hBk:=kW.mk B5 hb7 (g7.ext e5) (g8.ext e5);obtain⟨gk,hgk⟩:∃ gk,gk=w4.heap.size:=⟨_,rfl⟩
   rw [<-hgk] at hsz4 hsz5 hBk ⊢;clear e5 B5 g7 g8 hb7 hgk;have hBk':=hBk;obtain⟨b1,A1,k1,c1,A2,k2,c2,BS,hb1,g1,g2⟩:=hBk;obtain⟨s0,s1,s2,s3,-⟩:=cells4 BS;have HSK:Hid (Sz kk):=HTK.out.sz (by have:=HK.out; omega);obtain⟨s,hs⟩:=qc kk.num.sign;go_wp2_with (go_at_call 124; refine q_o ?_);refine (yY (qY.mk hb1 g1 g2) HSK.out).mono ?_;rintro e w6 ⟨rfl,e6⟩;rw [<-hs.out];replace hC:=hC.trans (e6.chg _ _);replace q:=q.ext e6;replace hBy:=hBy.ext e6;replace hBp:=hBp.ext e6;have hBk:=hBk'.ext e6;have hsz6:=q_l hsz5 e6.size;clear e6 s0 s1 s2 s3 BS g1 g2 hb1 hBk' hsz5
   by_cases hz:kk=0
   ·have hs0:s=0:=by rw [hs.out,hz]; rfl
    have HZ:Hid (p*x a=0):=by rw [Hid,<-hkk.out]; exact hz
    clear hz hs;subst hs0;go_wp2;go_roundw
    case rel=>exact⟨a+1,by omega,by go_num,hC,by omega,q.congr (fun i _ j _=>(q18 HZ.out i j).symm) (fun j _=>(q15 HZ.out j).symm),hBy,hBp⟩
    case measure=>simp [intOf]; omega
   ·have hs0:(s == 0)=false:=by
     have:s≠0:=by rw [hs.out]; intro e; exact hz (Rat.num_eq_zero.1 (Int.sign_eq_zero_iff_zero.1 e))
     simpa using this
    clear hz hs;have HR0:Hid (Y6 p x y r a a=r a):=by rw [Hid]; unfold Y6; rw [if_neg (by omega)]
    obtain⟨n1,A3,k3,c3,A4,k4,c4,r0,r1,r2,r3,r4,r5,r6,r7,hb3,g3,g4⟩:=q.row.at_ hlt;rw [HR0.out] at hb3 g3 g4;obtain⟨d0,d1,-⟩:=cells2 q.rec_;obtain⟨b1,A1,k1,c1,A2,k2,c2,BS,hb1,g1,g2⟩:=hBk;obtain⟨s0,s1,s2,s3,-⟩:=cells4 BS;obtain⟨b5,A5,k5,c5,A6,k6,c6,BT,hb5,g5,g6⟩:=hBy;obtain⟨t0,t1,t2,t3,-⟩:=cells4 BT;have HSy:Hid (Sz y):=HY.out.sz (by have:=HK.out; omega);have HSr:Hid (Sz (r a)):=(HR.out a hlt).sz (by have:=HK.out; omega);have HSky:Hid (Sz (kk*y)):=(HTK.out.mul HY.out).sz (by have:=HK.out; omega);go_upto_region 6 with (fail);have eC:=(Ext.refl w6).drew;refine qm (fun w'=>w'.cell? ⟨ge,1,none⟩=some (.slice (some ⟨g,0,none⟩) n n)/\w'.cell? ⟨g,a*4,none⟩=some (.bool n1)/\w'.cell? ⟨g,a*4+1,none⟩=some (.slice A3 k3 c3)/\w'.cell? ⟨g,a*4+2,none⟩=some (.bool false)/\w'.cell? ⟨g,a*4+3,none⟩=some (.slice A4 k4 c4)/\w'.cell? ⟨gk,0,none⟩=some (.bool b1)/\w'.cell? ⟨gk,1,none⟩=some (.slice A1 k1 c1)/\w'.cell? ⟨gk,2,none⟩=some (.bool false)/\w'.cell? ⟨gk,3,none⟩=some (.slice A2 k2 c2)/\w'.cell? ⟨gv,0,none⟩=some (.bool b5)/\w'.cell? ⟨gv,1,none⟩=some (.slice A5 k5 c5)/\w'.cell? ⟨gv,2,none⟩=some (.bool false)/\w'.cell? ⟨gv,3,none⟩=some (.slice A6 k6 c6)) [17] (by kernel_rfl) (by exact⟨eC.cell d1,eC.cell r0,eC.cell r1,eC.cell r2,eC.cell r3,eC.cell s0,eC.cell s1,eC.cell s2,eC.cell s3,eC.cell t0,eC.cell t1,eC.cell t2,eC.cell t3⟩) (fun hHeld=>?_)
    refine sP 0 (h:=?_);try simp only [nr]
    refine sP 1 (h:=?_);try simp only [nr]
    refine sP 2 (h:=?_);try simp only [nr]
    refine sT 3 (h:=?_);try simp only [nr]
    refine sP 4 (h:=?_);try simp only [nr]
    refine sP 5 (h:=?_);try simp only [nr]
    refine sP 6 (h:=?_);try simp only [nr]
    refine sP 7 (h:=?_);try simp only [nr]
    refine sT 8 (h:=?_);try simp only [nr]
    refine sP 9 (h:=?_);try simp only [nr]
    refine sP 10 (h:=?_);try simp only [nr]
    refine sT 11 (h:=?_);try simp only [nr]
    refine sT 12 (h:=?_);try simp only [nr]
    refine sT 13 (h:=?_);try simp only [nr]
    refine qj (i:=14) rfl (by kernel_rfl) (fun K hK=>?_);go_simp;refine (KY (x:=kk) (y:=y) (by exact (qY.mk hb1 g1 g2).ext eC) (by exact (qY.mk hb5 g5 g6).ext eC) HSK.out HSy.out).mono ?_;rintro e w7 ⟨v7,rfl,h7,e7⟩;replace eC:=eC.trans e7;go_wp2_with fail;clear hHeld;refine hK.out _ _ (by exact⟨eC.cell d1,eC.cell r0,eC.cell r1,eC.cell r2,eC.cell r3,eC.cell s0,eC.cell s1,eC.cell s2,eC.cell s3,eC.cell t0,eC.cell t1,eC.cell t2,eC.cell t3⟩) fun hHeld=>?_
    clear hK K;try simp only [nr]
    refine qj (i:=15) rfl (by kernel_rfl) (fun K hK=>?_);go_simp;refine (f_add (x:=r a) (y:=kk*y) (by exact (qY.mk hb3 g3 g4).ext eC) (by exact h7) HSr.out HSky.out).mono ?_;intro e w8 hh;obtain⟨b9,A9,k9,c9,A10,k10,c10,rfl,hb9,g9',g10,e8⟩:=hh.form;replace eC:=eC.trans e8;have hR8:=q.row.ext eC;obtain⟨zb,zA,zn,zc,zA2,zn2,zc2,u0,u1,u2,u3,u4,u5,u6,u7,-⟩:=hR8.at_ hlt;go_wp2_with fail;clear hHeld;refine hK.out _ _ (by exact⟨eC.cell d1,eC.cell r0,eC.cell r1,eC.cell r2,eC.cell r3,eC.cell s0,eC.cell s1,eC.cell s2,eC.cell s3,eC.cell t0,eC.cell t1,eC.cell t2,eC.cell t3⟩) fun hHeld=>?_
    clear hK K;try simp only [nr]
    refine sP 16 (h:=?_);try simp only [nr]
    refine ql (i:=17) rfl (by kernel_rfl) (by kernel_rfl) (fun K hK=>?_);go_simp;refine hK.out _ _ ?_;clear hK K;try simp only [nr]
    refine qh (by kernel_rfl) ?_ _;clear hHeld;obtain⟨w9,E9,C9,hs9,hr9⟩:=hR8.set (i:=a) (q:=r a+kk*y) hlt (by omega) hb9 g9' g10;rw [E9];have hBk:=(kW.mk (eC.block BS) hb1 (g1.ext eC) (g2.ext eC)).chg C9 (by omega) (.inr (by omega));have hBy:=(kW.mk (eC.block BT) hb5 (g5.ext eC) (g6.ext eC)).chg C9 (by omega) (.inr (by omega));replace hBp:=(hBp.ext eC).chg C9 (by omega) (.inr (by omega));replace hC:=(hC.trans (eC.chg _ _)).trans (C9.wide hbg (by omega));replace q:=(q.ext eC).setR C9 (hr9.less (n':=n) (by omega));have hsz9:gk+1<=w9.heap.size:=by have:=eC.size; omega
    have q1:=q.congr (M':=xK (Jf p x M a) a (jD kk x (M a) 0)) (r':=Y6 p x y r (a+1)) (fun i _ j _=>by unfold xK; split; (rename_i e; subst e; unfold jD Jf; rw [if_neg (by omega),if_neg (by omega)]); rfl) (fun j _=>by rw [q17,hkk.out]);clear q E9 C9 hs9 hr9 hR8 u0 u1 u2 u3 u4 u5 u6 u7 r0 r1 r2 r3 r4 r5 r6 r7 d0 d1 s0 s1 s2 s3 t0 t1 t2 t3 BS BT hb1 hb3 hb5 hb9 g1 g2 g3 g4 g5 g6 g9' g10 hsz6 HSky HSr HSy HS1 HS2;go_wp2
    go_loopw [45] (fun i wr=>∃ j:Nat,j<=n/\i=.int .i64 j/\Chg b hi w wr/\gk+1<=wr.heap.size/\EqO N b lo hi wr ge h cap n β κ g (xK (Jf p x M a) a (jD kk x (M a) j)) (Y6 p x y r (a+1))/\kW N wr gv y/\kW N wr (gv+1) p/\kW N wr gk kk) (fun i _=>n - (intOf i).toNat)
    case atStart=>exact⟨0,Nat.zero_le _,rfl,hC,hsz9,q1,hBy,hBp,hBk⟩
    case round =>
     clear q1 hBy hBp hBk hC hsz9 eC;obtain⟨j,hj,rfl,hC,hsz9,q,hBy,hBp,hBk⟩:=hrel
     by_cases hltj:j < n
     ·have hl:=hI.chg hC (by omega) (.inl hd);obtain⟨bx',ox',hA,-,-,hx⟩:=hl.addr (by omega);obtain⟨rfl,rfl⟩:bx=bx'/\ox=ox':=by injection hA with hA; injection hA with e1 e2; exact⟨e1,e2⟩
      obtain⟨n1,A3,k3,c3,A4,k4,c4,p0,p1,p2,p3,hb1,g1,g2⟩:=(hx j hltj).open;clear hx hA;go_upto_region 10 with (fail);refine qo ?_;intro w3 e3 hsz3 B3;have hBx:=kW.mk B3 hb1 (g1.ext e3) (g2.ext e3);replace hC:=hC.trans (e3.chg _ _);replace q:=q.ext e3;replace hBy:=hBy.ext e3;replace hBp:=hBp.ext e3;replace hBk:=hBk.ext e3;obtain⟨gj,hgj⟩:∃ gj,gj=wr.heap.size:=⟨_,rfl⟩
      rw [<-hgj] at hsz9 hsz3 hBx ⊢;clear e3 hgj p0 p1 p2 p3 g1 g2 hb1 B3 hl;have HM0:Hid (xK (Jf p x M a) a (jD kk x (M a) j) a j=M a j):=by rw [Hid,xJ]; unfold jD; rw [if_neg (by omega)]
      have r0:=q.own.hcell hlt;obtain⟨n1,A3,k3,c3,A4,k4,c4,o0,o1,o2,o3,o4,o5,o6,o7,hb3,g3,g4⟩:=(q.own.row a hlt).at_ hltj;rw [HM0.out] at hb3 g3 g4;obtain⟨d0,d1,-⟩:=cells2 q.rec_;obtain⟨b1,A1,k1,c1,A2,k2,c2,BS,hb1,g1,g2⟩:=hBk;obtain⟨s0,s1,s2,s3,-⟩:=cells4 BS;obtain⟨b5,A5,k5,c5,A6,k6,c6,BT,hb5,g5,g6⟩:=hBx;obtain⟨t0,t1,t2,t3,-⟩:=cells4 BT;have HSx:Hid (Sz (x j)):=(HX.out j hltj).sz (by have:=HK.out; omega);have HSm:Hid (Sz (M a j)):=(HM.out a hlt j hltj).sz (by have:=HK.out; omega);have HSkx:Hid (Sz (kk*x j)):=(HTK.out.mul (HX.out j hltj)).sz (by have:=HK.out; omega);have eC:=(Ext.refl w3).drew;refine qm (fun w'=>w'.cell? ⟨ge,0,none⟩=some (.slice (some ⟨h,0,none⟩) n cap)/\w'.cell? ⟨h,a,none⟩=some (.slice (some ⟨β a,0,none⟩) n (κ a))/\w'.cell? ⟨β a,j*4,none⟩=some (.bool n1)/\w'.cell? ⟨β a,j*4+1,none⟩=some (.slice A3 k3 c3)/\w'.cell? ⟨β a,j*4+2,none⟩=some (.bool false)/\w'.cell? ⟨β a,j*4+3,none⟩=some (.slice A4 k4 c4)/\w'.cell? ⟨gk,0,none⟩=some (.bool b1)/\w'.cell? ⟨gk,1,none⟩=some (.slice A1 k1 c1)/\w'.cell? ⟨gk,2,none⟩=some (.bool false)/\w'.cell? ⟨gk,3,none⟩=some (.slice A2 k2 c2)/\w'.cell? ⟨gj,0,none⟩=some (.bool b5)/\w'.cell? ⟨gj,1,none⟩=some (.slice A5 k5 c5)/\w'.cell? ⟨gj,2,none⟩=some (.bool false)/\w'.cell? ⟨gj,3,none⟩=some (.slice A6 k6 c6)) [23] (by kernel_rfl) (by exact⟨eC.cell d0,eC.cell r0,eC.cell o0,eC.cell o1,eC.cell o2,eC.cell o3,eC.cell s0,eC.cell s1,eC.cell s2,eC.cell s3,eC.cell t0,eC.cell t1,eC.cell t2,eC.cell t3⟩) (fun hHeld=>?_)
      refine sP 0 (h:=?_);try simp only [nr]
      refine sP 1 (h:=?_);try simp only [nr]
      refine sP 2 (h:=?_);try simp only [nr]
      refine sT 3 (h:=?_);try simp only [nr]
      refine sP 4 (h:=?_);try simp only [nr]
      refine sP 5 (h:=?_);try simp only [nr]
      refine sT 6 (h:=?_);try simp only [nr]
      refine sP 7 (h:=?_);try simp only [nr]
      refine sP 8 (h:=?_);try simp only [nr]
      refine sP 9 (h:=?_);try simp only [nr]
      refine sP 10 (h:=?_);try simp only [nr]
      refine sT 11 (h:=?_);try simp only [nr]
      refine sP 12 (h:=?_);try simp only [nr]
      refine sP 13 (h:=?_);try simp only [nr]
      refine sT 14 (h:=?_);try simp only [nr]
      refine sP 15 (h:=?_);try simp only [nr]
      refine sP 16 (h:=?_);try simp only [nr]
      refine sT 17 (h:=?_);try simp only [nr]
      refine sT 18 (h:=?_);try simp only [nr]
      refine sT 19 (h:=?_);try simp only [nr]
      refine qj (i:=20) rfl (by kernel_rfl) (fun K hK=>?_);go_simp;refine (KY (x:=kk) (y:=x j) (by exact (qY.mk hb1 g1 g2).ext eC) (by exact (qY.mk hb5 g5 g6).ext eC) HSK.out HSx.out).mono ?_;rintro e w7 ⟨v7,rfl,h7,e7⟩;replace eC:=eC.trans e7;go_wp2_with fail;clear hHeld;refine hK.out _ _ (by exact⟨eC.cell d0,eC.cell r0,eC.cell o0,eC.cell o1,eC.cell o2,eC.cell o3,eC.cell s0,eC.cell s1,eC.cell s2,eC.cell s3,eC.cell t0,eC.cell t1,eC.cell t2,eC.cell t3⟩) fun hHeld=>?_
      clear hK K;try simp only [nr]
      refine qj (i:=21) rfl (by kernel_rfl) (fun K hK=>?_);go_simp;refine (f_add (x:=M a j) (y:=kk*x j) (by exact (qY.mk hb3 g3 g4).ext eC) (by exact h7) HSm.out HSkx.out).mono ?_;intro e w8 hh;obtain⟨b9,A9,k9,c9,A10,k10,c10,rfl,hb9,g9',g10,e8⟩:=hh.form;replace eC:=eC.trans e8;have q8:=q.ext eC;obtain⟨zb,zA,zn,zc,zA2,zn2,zc2,u0,u1,u2,u3,u4,u5,u6,u7,-⟩:=(q8.own.row a hlt).at_ hltj;go_wp2_with fail;clear hHeld;refine hK.out _ _ (by exact⟨eC.cell d0,eC.cell r0,eC.cell o0,eC.cell o1,eC.cell o2,eC.cell o3,eC.cell s0,eC.cell s1,eC.cell s2,eC.cell s3,eC.cell t0,eC.cell t1,eC.cell t2,eC.cell t3⟩) fun hHeld=>?_
      clear hK K;try simp only [nr]
      refine sP 22 (h:=?_);try simp only [nr]
      refine ql (i:=23) rfl (by kernel_rfl) (by kernel_rfl) (fun K hK=>?_);go_simp;refine hK.out _ _ ?_;clear hK K;try simp only [nr]
      refine qh (by kernel_rfl) ?_ _;clear hHeld;obtain⟨w9,E9,C9,hs9,hr9⟩:=(q8.own.row a hlt).set (i:=j) (q:=M a j+kk*x j) (by have:=(q8.own.row a hlt).2.1; omega) (by omega) hb9 g9' g10;rw [E9];have hlo9:=q8.own.lo_ a hlt;have hhi9:=q8.own.hi_ a hlt;have hBk:=(kW.mk (eC.block BS) hb1 (g1.ext eC) (g2.ext eC)).chg C9 (by omega) (.inr (by omega));replace hBy:=(hBy.ext eC).chg C9 (by omega) (.inr (by omega));replace hBp:=(hBp.ext eC).chg C9 (by omega) (.inr (by omega));replace hC:=(hC.trans (eC.chg _ _)).trans (C9.wide (by omega) (by omega))
      have q9:=(q8.setM hlt C9 (hr9.less (n':=n) (by omega))).congr (M':=xK (Jf p x M a) a (jD kk x (M a) (j+1))) (fun i _ c _=>by
       unfold xK
       split
       ·rename_i e; subst e; rw [if_pos rfl]; exact (Jp _ _ _ _ _).symm
       ·rfl) (fun _ _=>rfl)
      have hsz10:gk+1<=w9.heap.size:=by have:=eC.size; omega
      clear q q8 E9 C9 hs9 hr9 u0 u1 u2 u3 u4 u5 u6 u7 o0 o1 o2 o3 o4 o5 o6 o7 r0 d0 d1 s0 s1 s2 s3 t0 t1 t2 t3 BS BT hb1 hb3 hb5 hb9 g1 g2 g3 g4 g5 g6 g9' g10;go_wp2;go_roundw
      case rel=>exact⟨j+1,by omega,by go_num,hC,hsz10,q9,hBy,hBp,hBk⟩
      case measure=>simp [intOf]; omega
     ·obtain rfl:j=n:=by omega
      go_wp2;go_roundw
      case rel=>exact⟨a+1,by omega,by go_num,hC,by omega,q.congr (fun i _ c hc=>(by rw [q19 (n:=j) p x M i hc,hkk.out])) (fun _ _=>rfl),hBy,hBp⟩
      case measure=>simp [intOf]; omega
  ·obtain rfl:a=n:=by omega
   go_wp2
   go_end0
   rw [hRf.out];exact⟨rfl,q,hC⟩
end Go.Proofs.YtfmddpahhloleaaGreat
