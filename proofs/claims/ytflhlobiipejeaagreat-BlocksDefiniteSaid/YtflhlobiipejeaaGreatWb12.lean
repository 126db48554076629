import Derived.Test.YtflhlobiipejeaaGreatWb11
import Derived.Deep.AppendLies
set_option linter.all false
set_option maxHeartbeats 8000000
namespace Go.Proofs.YtflhlobiipejeaaGreat
variable {w w':World} {N n lo hi k g i m base c b j K:Nat} {v s:Value} {l:List Nat} {q x:Rat} {R:Raw} {A:Option Addr}
section
open Go.RowKit
def q45 (N:Nat) (w:World) (q:Rat) (e:Ending) (w':World):Prop:=∃v,e=.returned (.tuple #[v,.int .i64 0])/\qX N w' v q/\Ext w w'
theorem q5l{v':Value}{y:Rat}(h:qX N w v x) (h':qX N w v' y) (hz:Sz x) (hz':Sz y) (hy:y≠0) :
  Calls Tryz.prog 163 #[v,v'] w (q45 N w (x / y)):=by
 obtain⟨q,hq⟩:=qc (x / y);rw[<-hq.out];have HQ:Hid (Rat.divInt (x.num*y.den) ((x.den:Int)*y.num)=q):=by rw[Hid,hq.out,Xv]
 have L1:Hid (ln (x.num*(y.den:Int)).natAbs<=2000000000):=by rw[Hid,Int.natAbs_mul,Int.natAbs_natCast];exact xC hz.1 hz'.2
 have L3:Hid (ln ((x.den:Int)*y.num).natAbs<=2000000000):=by rw[Hid,Int.natAbs_mul,Int.natAbs_natCast];exact xC hz.2 hz'.1
 have Y0:Hid (y.num≠0):=by unfold Hid;intro e;exact hy (Rat.num_eq_zero.1 e)
 have D0:Hid ((x.den:Int)*y.num≠0):=by have h8:=x.den_pos;exact Int.mul_ne_zero (by omega) Y0.out
 clear hq hy;have hI:=h;have hI':=h';have hN:=h.le;obtain⟨m1,X1,i1,d1,X2,i2,d2,rfl,hm1,gx1,gx2⟩:=h.parts;obtain⟨m2,Y1,i3,d3,Y2,i4,d4,rfl,hm2,gy1,gy2⟩:=h'.parts;have HZ:=q_h hz;have HZ':=q_h hz';clear hz hz' h h' gx1 gx2 gy1 gy2;go_enter Tryz.func163,Tryz.ntmps163;go_wp2;refine xX ?_;intro W hE hsz B0 B1 B2;obtain⟨a0,a1,a2,a3,-⟩:=cells4 B0;obtain⟨b0,b1,b2,b3,-⟩:=cells4 B1
 go_cut [] (fun wx=>∃n1 A1 k1 c1 A2 k2 c2 n2 A3 k3 c3 A4 k4 c4,Ext w wx/\w.heap.size+2<=wx.heap.size/\wx.heap[w.heap.size]?=some (.cells #[.bool n1,.slice A1 k1 c1,.bool false,.slice A2 k2 c2] 35 (0,0))/\wx.heap[w.heap.size+1]?=some (.cells #[.bool n2,.slice A3 k3 c3,.bool false,.slice A4 k4 c4] 35 (0,0))/\Hid (n1=decide (x.num<0))/\Hid (n2=decide (y.num<0))/\Gs N wx (.slice A1 k1 c1) (dg x.num.natAbs)/\Gs N wx (.slice A2 k2 c2) (dg x.den)/\Gs N wx (.slice A3 k3 c3) (dg y.num.natAbs)/\Gs N wx (.slice A4 k4 c4) (dg y.den)/\w.heap.size+3<=wx.heap.size/\wx.heap[w.heap.size+1+1]?=some (.cells #[.bool false,.slice none 0 0,.bool false,.slice none 0 0] 35 (0,0)))
 case first =>
  have eC:=(Ext.refl W).drew
  go_region_with (first
   | (go_at_call_of 135 X1;refine (jb (by exact hI.ext (hE.trans eC)) HZ.out).mono ?_;intro e w1 hh;obtain⟨n1,A1,k1,c1,A2,k2,c2,rfl,hb1,g1,g2,e1⟩:=hh.form;replace eC:=eC.trans e1;have C0:=eC.block B0;have C1:=eC.block B1;obtain⟨p0,p1,p2,p3,p4,p5,p6,p7⟩:=cells4 C0;obtain⟨q0,q1,q2,q3,q4,q5,q6,q7⟩:=cells4 C1)
   | (go_at_call_of 135 Y1;refine (jb (by exact hI'.ext (hE.trans eC)) HZ'.out).mono ?_;intro e w2 hh;obtain⟨n2,A3,k3,c3,A4,k4,c4,rfl,hb2,g3,g4,e2⟩:=hh.form;replace eC:=eC.trans e2;have C0:=eC.block B0;have C1:=eC.block B1;obtain⟨p0,p1,p2,p3,p4,p5,p6,p7⟩:=cells4 C0;obtain⟨q0,q1,q2,q3,q4,q5,q6,q7⟩:=cells4 C1))
  all_goals
   go_wp2_with fail
   go_meet
   obtain⟨w3,E3,D0,U⟩:=ex4 C0 (.bool n1) (.slice A1 k1 c1) (.bool false) (.slice A2 k2 c2);rw[E3];obtain⟨w4,E4,D1,U'⟩:=ex4 (U.blk C1 (by omega)) (.bool n2) (.slice A3 k3 c3) (.bool false) (.slice A4 k4 c4);rw[E4];have hT0:=NoU.mk C0 (by decide);have hT1:=NoU.mk (U.blk C1 (by omega)) (by decide);refine⟨n1,A1,k1,c1,A2,k2,c2,n2,A3,k3,c3,A4,k4,c4,U'.ext (U.ext (hE.trans eC) (q_r)) (by omega),?_,U'.blk D0 (by omega),D1,hb1,hb2,((g1.ext e2).upd U (by omega) hT0).upd U' (by omega) hT1,((g2.ext e2).upd U (by omega) hT0).upd U' (by omega) hT1,(g3.upd U (by omega) hT0).upd U' (by omega) hT1,(g4.upd U (by omega) hT0).upd U' (by omega) hT1,(by rw[U'.size,U.size];have:=eC.size;omega),U'.blk (U.blk (eC.block B2) (by omega)) (by omega)⟩;rw[U'.size,U.size];have:=eC.size;omega
 case rest =>
  clear a0 a1 a2 a3 b0 b1 b2 b3 B0 B1 B2 hE hsz hI hI';obtain⟨n1,A1,k1,c1,A2,k2,c2,n2,A3,k3,c3,A4,k4,c4,hE,-,B0,B1,hb1,hb2,g1,g2,g3,g4,hsz,B2⟩:=hcut;obtain⟨a0,a1,a2,a3,-⟩:=cells4 B0;obtain⟨b0,b1,b2,b3,-⟩:=cells4 B1;obtain⟨sy,hsy⟩:=qc y.num.sign
  have t1:(sy == 0)=false:=by
   have:sy≠0:=by rw[hsy.out];intro e;exact Y0.out (Int.sign_eq_zero_iff_zero.1 e)
   simpa using this
  go_wp2_with (go_at_call 134;refine q_o ?_);refine (Xl (zF hb2 g3)).mono ?_;rintro e w4 ⟨rfl,e4⟩;rw[<-hsy.out];replace hE:=hE.trans e4;replace B0:=e4.block B0;replace B1:=e4.block B1;replace B2:=e4.block B2;replace hsz:=q_l hsz e4.size;replace g1:=g1.ext e4;replace g2:=g2.ext e4;replace g3:=g3.ext e4;replace g4:=g4.ext e4;clear a0 a1 a2 a3 b0 b1 b2 b3;obtain⟨a0,a1,a2,a3,-⟩:=cells4 B0;obtain⟨b0,b1,b2,b3,-⟩:=cells4 B1;go_wp2;have eC:=(Ext.refl w4).drew
  go_region_held3 (fun w'=>(w'.cell? ⟨w.heap.size,0,none⟩=some (.bool n1)/\w'.cell? ⟨w.heap.size,1,none⟩=some (.slice A1 k1 c1)/\w'.cell? ⟨w.heap.size,2,none⟩=some (.bool false)/\w'.cell? ⟨w.heap.size,3,none⟩=some (.slice A2 k2 c2))/\(w'.cell? ⟨w.heap.size+1,0,none⟩=some (.bool n2)/\w'.cell? ⟨w.heap.size+1,1,none⟩=some (.slice A3 k3 c3)/\w'.cell? ⟨w.heap.size+1,2,none⟩=some (.bool false)/\w'.cell? ⟨w.heap.size+1,3,none⟩=some (.slice A4 k4 c4)))
   ((repeat' apply And.intro)<;>repeat with_reducible first|assumption|exact eC.cell (by assumption)|refine cell_far _ ?_ (by omega))
   (first
    | (go_at_call_of 156 A1;refine (Jn (by exact zF hb1 (g1.ext eC)) (by exact zM (g4.ext eC)) (by have:=HZ.out.1;omega) (by rw[Int.natAbs_natCast];have:=HZ'.out.2;omega)).mono ?_;rintro e w5 ⟨v5,rfl,h5,e5⟩;replace eC:=eC.trans e5)
    | (go_at_call_of 156 A2;refine (Jn (by exact zM (g2.ext eC)) (by exact zF hb2 (g3.ext eC)) (by rw[Int.natAbs_natCast];have:=HZ.out.2;omega) (by have:=HZ'.out.1;omega)).mono ?_;rintro e w6 ⟨v6,rfl,h6,e6⟩;replace eC:=eC.trans e6)
    | (go_at_call 160;refine (ZN (by exact h5.ext e6) (by exact h6) D0.out (by have:=L1.out;omega) (by have:=L3.out;omega)).mono ?_;rw[HQ.out];intro e w10 hh;obtain⟨n10,A10,k10,c10,A11,k11,c11,rfl,hb10,h10,h11,e10⟩:=hh.form;replace eC:=eC.trans e10;have D2:=eC.block B2;obtain⟨r0,r1,r2,r3,r4,r5,r6,r7⟩:=cells4 D2))
  go_wp2;obtain⟨w12,E12,F2,U⟩:=ex4 D2 (.bool n10) (.slice A10 k10 c10) (.bool false) (.slice A11 k11 c11);rw[E12];obtain⟨z0,z1,z2,z3,-⟩:=cells4 F2;refine bodyPost_ret (v:=.tuple #[.agg #[.bool n10,.slice A10 k10 c10,.bool false,.slice A11 k11 c11],.int .i64 0]) ?_ rfl ⟨_,rfl,qX.mk hb10 (h10.upd U (by omega) (NoU.mk D2 (by decide))) (h11.upd U (by omega) (NoU.mk D2 (by decide))),U.ext (hE.trans eC) (by omega)⟩;simp[results,Tryz.results163,z0,z1,z2,z3,go_sem]
theorem Sz.neg(h:Sz q):Sz (-q):=⟨by rw[Rat.neg_num,Int.natAbs_neg];exact h.1,by rw[Rat.neg_den];exact h.2⟩
theorem q7C{v':Value}{y:Rat}(h:qX N w v x) (h':qX N w v' y) (hz:Sz x) (hz':Sz y) :
  Calls Tryz.prog 84 #[v,v'] w (jP N w (x-y)):=by
 obtain⟨q,hq⟩:=qc (x-y);rw[<-hq.out];have HQ:Hid (x + -y=q):=by rw[Hid,hq.out,Rat.sub_eq_add_neg]
 clear hq;have hI:=h;have hI':=h';have hN:=h.le;obtain⟨m1,X1,i1,d1,X2,i2,d2,rfl,hm1,gx1,gx2⟩:=h.parts;obtain⟨m2,Y1,i3,d3,Y2,i4,d4,rfl,hm2,gy1,gy2⟩:=h'.parts;have HZ:=q_h hz;have HZ':=q_h hz';clear hz hz' h h' gx1 gx2 gy1 gy2;go_enter Tryz.func84,Tryz.ntmps84;go_wp2;refine xX ?_;intro W hE hsz B0 B1 B2;obtain⟨a0,a1,a2,a3,-⟩:=cells4 B0;obtain⟨b0,b1,b2,b3,-⟩:=cells4 B1;have eC:=(Ext.refl W).drew
 go_region_held3 (fun w'=>(w'.cell? ⟨w.heap.size,0,none⟩=some (.bool m1)/\w'.cell? ⟨w.heap.size,1,none⟩=some (.slice X1 i1 d1)/\w'.cell? ⟨w.heap.size,2,none⟩=some (.bool false)/\w'.cell? ⟨w.heap.size,3,none⟩=some (.slice X2 i2 d2))/\(w'.cell? ⟨w.heap.size+1,0,none⟩=some (.bool m2)/\w'.cell? ⟨w.heap.size+1,1,none⟩=some (.slice Y1 i3 d3)/\w'.cell? ⟨w.heap.size+1,2,none⟩=some (.bool false)/\w'.cell? ⟨w.heap.size+1,3,none⟩=some (.slice Y2 i4 d4)))
  ((repeat' apply And.intro)<;>repeat with_reducible first|assumption|exact eC.cell (by assumption)|refine cell_far _ ?_ (by omega))
  (first
   | (go_at_call 126;refine (f_neg (by exact hI'.ext (hE.trans eC)) HZ'.out).mono ?_;rintro e w5 ⟨v5,rfl,h5,e5⟩;replace eC:=eC.trans e5)
   | (go_at_call 125;refine (f_add (by exact hI.ext (hE.trans eC)) (by exact h5) HZ.out HZ'.out.neg).mono ?_;rw[HQ.out];intro e w7 hh;obtain⟨n7,A7,k7,c7,A8,k8,c8,rfl,hb7,h7,h8,e7⟩:=hh.form;replace eC:=eC.trans e7;obtain⟨r0,r1,r2,r3,r4,r5,r6,r7⟩:=cells4 (eC.block B2)))
 go_wp2;exact qQ rfl rfl rfl (hE.trans eC) (eC.block B2) (by omega) hN h7 h8 hb7
structure Chg (lo hi:Nat) (w w':World):Prop where
 os:w'.os=w.os
 tape:w'.tape=w.tape
 output:w'.output=w.output
 size:w.heap.size<=w'.heap.size
 block:∀k,k<w.heap.size->(k<lo\/hi<=k\/∃cs fr,w.heap[k]?=some (.cells cs 119 fr))->w'.heap[k]?=w.heap[k]?
theorem Ext.chg(h:Ext w w') (lo hi:Nat):Chg lo hi w w':=by
 have h':Below w.heap.size w w':=h;exact⟨h'.os,h'.tape,h'.output,h'.size,fun k hk _=>h'.block k hk⟩
theorem Chg.refl (lo hi:Nat) (w:World):Chg lo hi w w:=(Ext.refl w).chg lo hi
theorem Chg.trans{a b c:World}(h:Chg lo hi a b) (h':Chg lo hi b c):Chg lo hi a c :=
 ⟨h'.os.trans h.os,h'.tape.trans h.tape,h'.output.trans h.output,q_l h.size h'.size,fun k hk hc=>by
  have e:=h.block k hk hc;rw[<-e];refine h'.block k (Nat.lt_of_lt_of_le hk h.size) ?_
  rcases hc with hc|hc|⟨cs,fr,hc⟩
  ·exact .inl hc
  ·exact .inr (.inl hc)
  ·exact .inr (.inr ⟨cs,fr,e.trans hc⟩)⟩
theorem Chg.wide {lo' hi':Nat}(h:Chg lo hi w w') (h1:lo'<=lo) (h2:hi<=hi'):Chg lo' hi' w w' :=
 ⟨h.os,h.tape,h.output,h.size,fun k hk hc=>h.block k hk (hc.imp (fun h=>by omega) (fun h=>h.imp (fun h=>by omega) id))⟩
theorem Upd.chg(h:Upd g w w') (ht:NoU w g):Chg g (g+1) w w' :=
 ⟨h.os,h.tape,h.output,by rw[h.size];exact q_r,fun k _ hc=>h.block k (by
  rintro rfl
  rcases hc with hc|hc|⟨cs,fr,hc⟩
  ·omega
  ·omega
  ·exact ht cs fr hc)⟩
theorem Chg.ext{a:World}(h:Chg lo hi w w') (e:Ext a w) (hl:a.heap.size<=lo):Ext a w':=by
 have e':Below a.heap.size a w:=e;exact⟨h.os.trans e'.os,h.tape.trans e'.tape,h.output.trans e'.output,q_l e'.size h.size,fun k hk=>(h.block k (Nat.lt_of_lt_of_le hk e'.size) (.inl (by omega))).trans (e'.block k hk)⟩
theorem qF{o:Obj}(h:w.heap[k]?=some o):k<w.heap.size:=by
 rcases Nat.lt_or_ge k w.heap.size with h1|h1
 ·exact h1
 ·rw[Array.getElem?_eq_none h1] at h;cases h
theorem Chg.blk(h:Chg lo hi w w'){o:Obj}(hk:w.heap[k]?=some o) (hc:k<lo\/hi<=k):w'.heap[k]?=some o :=
 (h.block k (qF hk) (hc.imp id .inl)).trans hk
theorem cell_lt{p:Addr}(h:w.cell? p=some v):p.block<w.heap.size:=World.block_lt_of_cell? w p h
theorem Chg.cell(h:Chg lo hi w w'){p:Addr}(hp:w.cell? p=some v) (hc:p.block<lo\/hi<=p.block):w'.cell? p=some v:=by
 have e:=h.block p.block (cell_lt hp) (hc.imp id .inl);rw[World.cell?_of_block (w:=w) e];exact hp
theorem Gs.chg(h:Gs N w v l) (c:Chg lo hi w w') (hN:N<=lo):Gs N w' v l:=by
 obtain⟨hN',A,n,k,hv,h1,h2,h3,h4,h5⟩:=h;refine⟨q_l hN' c.size,A,n,k,hv,h1,h2,h3,h4,fun hn=>?_⟩;obtain⟨b,off,hA,⟨hs1,hs2⟩,hc⟩:=h5 hn;have e:w'.heap[b]?=w.heap[b]?:=c.block b hs1 (hs2.imp (fun h=>by omega) (fun h=>.inr h));refine⟨b,off,hA,⟨Nat.lt_of_lt_of_le hs1 c.size,?_⟩,fun i hi=>by rw[World.cell?_of_block (w:=w) e];exact hc i hi⟩
 rcases hs2 with hs2|⟨cs,fr,hs2⟩
 ·exact .inl hs2
 ·exact .inr ⟨cs,fr,e.trans hs2⟩
def At4 (N:Nat) (w:World) (b o:Nat) (R:Raw):Prop :=
 ∃s t,w.cell? ⟨b,o,none⟩=some (.bool R.b1)/\w.cell? ⟨b,o+1,none⟩=some s/\w.cell? ⟨b,o+2,none⟩=some (.bool R.b2)/\w.cell? ⟨b,o+3,none⟩=some t/\Gs N w s R.l1/\Gs N w t R.l2
theorem At4.move{o:Nat}(h:At4 N w b o R) (hc:∀k v,w.cell? ⟨b,k,none⟩=some v->w'.cell? ⟨b,k,none⟩=some v) (hg:∀v l,Gs N w v l->Gs N w' v l):At4 N w' b o R:=by
 obtain⟨s,t,h0,h1,h2,h3,g1,g2⟩:=h;exact⟨s,t,hc _ _ h0,hc _ _ h1,hc _ _ h2,hc _ _ h3,hg _ _ g1,hg _ _ g2⟩
theorem At4.ext{o:Nat}(h:At4 N w b o R) (e:Ext w w'):At4 N w' b o R:=h.move (fun _ _ h=>e.cell h) (fun _ _ h=>h.ext e)
theorem At4.chg{o:Nat}(h:At4 N w b o R) (c:Chg lo hi w w') (hN:N<=lo) (hb:b<lo\/hi<=b):At4 N w' b o R :=
 h.move (fun k _ h=>c.cell (p:=⟨b,k,none⟩) h hb) (fun _ _ h=>h.chg c hN)
theorem At4.val{o:Nat}(h:At4 N w b o R):∃(A:Option Addr) (n c:Nat) (A':Option Addr) (n' c':Nat),w.cell? ⟨b,o,none⟩=some (.bool R.b1)/\w.cell? ⟨b,o+1,none⟩=some (.slice A n c)/\w.cell? ⟨b,o+2,none⟩=some (.bool R.b2)/\w.cell? ⟨b,o+3,none⟩=some (.slice A' n' c')/\KL N w (.agg #[.bool R.b1,.slice A n c,.bool R.b2,.slice A' n' c']) R:=by
 obtain⟨s,t,h0,h1,h2,h3,g1,g2⟩:=h;obtain⟨A,n,c,rfl,-,-,-⟩:=g1.form;obtain⟨A',n',c',rfl,-,-,-⟩:=g2.form;exact⟨A,n,c,A',n',c',h0,h1,h2,h3,_,_,rfl,g1,g2⟩
def LsR (N lo hi:Nat) (w:World) (v:Value) (n:Nat) (R:Nat->Raw):Prop :=
 N<=w.heap.size/\hi<=w.heap.size/\∃(A:Option Addr) (c:Nat),v=.slice A n c/\n<=c/\c<=maxLen /\
  (0<n->∃b off,A=some ⟨b,off,none⟩/\lo<=b/\b<hi/\∀i,i<n->At4 N w b (off+i*4) (R i))
theorem LsR.le{R:Nat->Raw}(h:LsR N lo hi w v n R):N<=w.heap.size:=h.1
theorem LsR.ext{R:Nat->Raw}(h:LsR N lo hi w v n R) (e:Ext w w'):LsR N lo hi w' v n R:=by
 obtain⟨h1,h2,A,c,hv,h3,h4,h5⟩:=h;refine⟨q_l h1 e.size,q_l h2 e.size,A,c,hv,h3,h4,fun hn=>?_⟩;obtain⟨b,off,hA,hl,hh,hx⟩:=h5 hn;exact⟨b,off,hA,hl,hh,fun i hi=>(hx i hi).ext e⟩
theorem LsR.chg {l h:Nat}{R:Nat->Raw}(hx:LsR N lo hi w v n R) (c:Chg l h w w') (hN:N<=l) (hd:hi<=l\/h<=lo):LsR N lo hi w' v n R:=by
 obtain⟨h1,h2,A,k,hv,h3,h4,h5⟩:=hx;refine⟨q_l h1 c.size,q_l h2 c.size,A,k,hv,h3,h4,fun hn=>?_⟩;obtain⟨b,off,hA,hl,hh,hx⟩:=h5 hn;exact⟨b,off,hA,hl,hh,fun i hi=>(hx i hi).chg c hN (by omega)⟩
theorem LsR.wide {lo' hi':Nat}{R:Nat->Raw}(h:LsR N lo hi w v n R) (h1:lo'<=lo) (h2:hi<=hi') (h3:hi'<=w.heap.size):LsR N lo' hi' w v n R:=by
 obtain⟨a1,a2,A,c,hv,a3,a4,a5⟩:=h;refine⟨a1,h3,A,c,hv,a3,a4,fun hn=>?_⟩;obtain⟨b,off,hA,hl,hh,hx⟩:=a5 hn;exact⟨b,off,hA,by omega,by omega,hx⟩
theorem LsR.form{R:Nat->Raw}(h:LsR N lo hi w v n R):∃(A:Option Addr) (c:Nat),v=.slice A n c/\n<=c/\c<=maxLen:=by
 obtain⟨a1,a2,A,c,hv,a3,a4,a5⟩:=h;exact⟨A,c,hv,a3,a4⟩
theorem LsR.addr{R:Nat->Raw}(h:LsR N lo hi w (.slice A n c) n R) (hn:0<n):∃b off,A=some ⟨b,off,none⟩/\lo<=b/\b<hi/\∀i,i<n->At4 N w b (off+i*4) (R i):=by
 obtain⟨a1,a2,A,c,hv,a3,a4,a5⟩:=h;injection hv with e1 e2 e3
 subst e1;exact a5 hn
theorem LsR.congr{R R':Nat->Raw}(h:LsR N lo hi w v n R) (he:∀i,i<n->R i=R' i):LsR N lo hi w v n R':=by
 obtain⟨a1,a2,A,c,hv,a3,a4,a5⟩:=h;refine⟨a1,a2,A,c,hv,a3,a4,fun hn=>?_⟩;obtain⟨b,off,hA,hl,hh,hx⟩:=a5 hn;exact⟨b,off,hA,hl,hh,fun i hi=>by rw[<-he i hi];exact hx i hi⟩
def LsV (N lo hi:Nat) (w:World) (v:Value) (n:Nat) (x:q_v):Prop:=LsR N lo hi w v n (fun i=>raw (x i))
def MtR (N lo hi:Nat) (w:World) (v:Value) (m:Nat) (L:Nat->Nat) (R:Nat->Nat->Raw):Prop :=
 N<=w.heap.size/\hi<=w.heap.size/\∃(A:Option Addr) (c:Nat),v=.slice A m c/\m<=c/\c<=maxLen /\
  (0<m->∃b off,A=some ⟨b,off,none⟩/\lo<=b/\b<hi/\∀i,i<m->∃u,w.cell? ⟨b,off+i,none⟩=some u/\LsR N lo hi w u (L i) (R i))
theorem MtR.le{L:Nat->Nat}{R:Nat->Nat->Raw}(h:MtR N lo hi w v m L R):N<=w.heap.size:=h.1
theorem MtR.ext{L:Nat->Nat}{R:Nat->Nat->Raw}(h:MtR N lo hi w v m L R) (e:Ext w w'):MtR N lo hi w' v m L R:=by
 obtain⟨h1,h2,A,c,hv,h3,h4,h5⟩:=h;refine⟨q_l h1 e.size,q_l h2 e.size,A,c,hv,h3,h4,fun hn=>?_⟩;obtain⟨b,off,hA,hl,hh,hx⟩:=h5 hn;refine⟨b,off,hA,hl,hh,fun i hi=>?_⟩;obtain⟨u,hu,hr⟩:=hx i hi;exact⟨u,e.cell hu,hr.ext e⟩
theorem MtR.chg {l h:Nat}{L:Nat->Nat}{R:Nat->Nat->Raw}(hx:MtR N lo hi w v m L R) (c:Chg l h w w') (hN:N<=l) (hd:hi<=l\/h<=lo):MtR N lo hi w' v m L R:=by
 obtain⟨h1,h2,A,k,hv,h3,h4,h5⟩:=hx;refine⟨q_l h1 c.size,q_l h2 c.size,A,k,hv,h3,h4,fun hn=>?_⟩;obtain⟨b,off,hA,hl,hh,hx⟩:=h5 hn;refine⟨b,off,hA,hl,hh,fun i hi=>?_⟩;obtain⟨u,hu,hr⟩:=hx i hi;exact⟨u,c.cell (p:=⟨b,off+i,none⟩) hu (by simp only;omega),hr.chg c hN hd⟩
theorem MtR.wide {lo' hi':Nat}{L:Nat->Nat}{R:Nat->Nat->Raw}(h:MtR N lo hi w v m L R) (h1:lo'<=lo) (h2:hi<=hi') (h3:hi'<=w.heap.size):MtR N lo' hi' w v m L R:=by
 obtain⟨a1,a2,A,c,hv,a3,a4,a5⟩:=h;refine⟨a1,h3,A,c,hv,a3,a4,fun hn=>?_⟩;obtain⟨b,off,hA,hl,hh,hx⟩:=a5 hn;refine⟨b,off,hA,by omega,by omega,fun i hi=>?_⟩;obtain⟨u,hu,hr⟩:=hx i hi;exact⟨u,hu,hr.wide h1 h2 h3⟩
theorem MtR.form{L:Nat->Nat}{R:Nat->Nat->Raw}(h:MtR N lo hi w v m L R):∃(A:Option Addr) (c:Nat),v=.slice A m c/\m<=c/\c<=maxLen:=by
 obtain⟨a1,a2,A,c,hv,a3,a4,a5⟩:=h;exact⟨A,c,hv,a3,a4⟩
theorem MtR.addr{L:Nat->Nat}{R:Nat->Nat->Raw}(h:MtR N lo hi w (.slice A m c) m L R) (hm:0<m):∃b off,A=some ⟨b,off,none⟩/\lo<=b/\b<hi/\∀i,i<m->∃(A':Option Addr) (c':Nat),w.cell? ⟨b,off+i,none⟩=some (.slice A' (L i) c')/\L i<=c'/\c'<=maxLen/\LsR N lo hi w (.slice A' (L i) c') (L i) (R i):=by
 obtain⟨a1,a2,A,c,hv,a3,a4,a5⟩:=h;injection hv with e1 e2 e3
 subst e1;obtain⟨b,off,hA,hl,hh,hx⟩:=a5 hm;refine⟨b,off,hA,hl,hh,fun i hi=>?_⟩;obtain⟨u,hu,hr⟩:=hx i hi;obtain⟨A',c',rfl,h6,h7⟩:=hr.form;exact⟨A',c',hu,h6,h7,hr⟩
theorem MtR.congr{L L':Nat->Nat}{R R':Nat->Nat->Raw}(h:MtR N lo hi w v m L R) (hl:∀i,i<m->L i=L' i) (he:∀i,i<m->∀j,j<L i->R i j=R' i j):MtR N lo hi w v m L' R':=by
 obtain⟨a1,a2,A,c,hv,a3,a4,a5⟩:=h;refine⟨a1,a2,A,c,hv,a3,a4,fun hn=>?_⟩;obtain⟨b,off,hA,hlo,hh,hx⟩:=a5 hn;refine⟨b,off,hA,hlo,hh,fun i hi=>?_⟩;obtain⟨u,hu,hr⟩:=hx i hi;exact⟨u,hu,by rw[<-hl i hi];exact hr.congr (he i hi)⟩
def MtV (N lo hi:Nat) (w:World) (v:Value) (m n:Nat) (A:q_m):Prop:=MtR N lo hi w v m (fun _=>n) (fun i j=>raw (A i j))
theorem zT{row:Option Nat}(h:w.grownBy w' row)(hg:∀k,row=some k->k=g) (ht:NoU w g):Chg g (g+1) w w':=by
 have hb:=(Below.refl w.heap.size w)
 refine⟨h.os,h.tape,h.output,h.size,fun k hk hc=>h.block k hk (fun e=>?_)⟩;have:=hg k e.symm;subst this
 rcases hc with hc|hc|⟨cs,fr,hc⟩
 ·omega
 ·omega
 ·exact ht cs fr hc
theorem st4{o:Nat}{cs:Array Value}{t:TypeId}(hb:w.heap[b]?=some (.cells cs t (0,0))) (ho:o+4<=cs.size) (v0 v1 v2 v3:Value) :
  ∃w' cs',(((w.setCell ⟨b,o,none⟩ v0).setCell ⟨b,o+1,none⟩ v1).setCell ⟨b,o+2,none⟩ v2).setCell ⟨b,o+3,none⟩ v3=w'/\Upd b w w'/\w'.heap[b]?=some (.cells cs' t (0,0))/\cs'.size=cs.size /\
   (∀k,k<o\/o+4<=k->cs'[k]?=cs[k]?)/\cs'[o]?=some v0/\cs'[o+1]?=some v1/\cs'[o+2]?=some v2/\cs'[o+3]?=some v3:=by
 refine⟨_,_,rfl,((((Upd.refl b w).set o v0).set (o+1) v1).set (o+2) v2).set (o+3) v3,heap_set (heap_set (heap_set (heap_set hb o v0) (o+1) v1) (o+2) v2) (o+3) v3,by simp,fun k hk=>?_,?_,?_,?_,?_⟩
 ·rw[Array.getElem?_setIfInBounds_ne (by omega),Array.getElem?_setIfInBounds_ne (by omega),Array.getElem?_setIfInBounds_ne (by omega),Array.getElem?_setIfInBounds_ne (by omega)]
 ·rw[Array.getElem?_setIfInBounds_ne (by omega),Array.getElem?_setIfInBounds_ne (by omega),Array.getElem?_setIfInBounds_ne (by omega),Array.getElem?_setIfInBounds_self_of_lt (by omega)]
 ·rw[Array.getElem?_setIfInBounds_ne (by omega),Array.getElem?_setIfInBounds_ne (by omega),Array.getElem?_setIfInBounds_self_of_lt (by simp;omega)]
 ·rw[Array.getElem?_setIfInBounds_ne (by omega),Array.getElem?_setIfInBounds_self_of_lt (by simp;omega)]
 ·rw[Array.getElem?_setIfInBounds_self_of_lt (by simp;omega)]
def kS (N:Nat) (w:World) (b k n:Nat) (x:q_v):Prop :=
 N<=b/\n<=k/\(∃cs,w.heap[b]?=some (.cells cs 35 (0,0))/\cs.size=k*4)/\∀j,j<n->At4 N w b (j*4) (raw (x j))
theorem kS.lt{x:q_v}(h:kS N w b k n x):b<w.heap.size:=by
 obtain⟨-,-,⟨cs,h2,-⟩,-⟩:=h;exact qF h2
theorem kS.noU{x:q_v}(h:kS N w b k n x):NoU w b:=by
 obtain⟨-,-,⟨cs,h2,-⟩,-⟩:=h;exact NoU.mk h2 (by decide)
theorem kS.frozen{x:q_v}(h:kS N w b k n x) (o:Nat):w.frozen? ⟨b,o,none⟩=false:=by
 obtain⟨-,-,⟨cs,h2,-⟩,-⟩:=h;exact qY h2 o
theorem kS.there{x:q_v}(h:kS N w b k n x){o:Nat}(ho:o<k*4):∃u,w.cell? ⟨b,o,none⟩=some u:=by
 obtain⟨-,-,⟨cs,h2,h3⟩,-⟩:=h;rw[qh h2];exact⟨_,Array.getElem?_eq_getElem (by omega)⟩
theorem kS.ext{x:q_v}(h:kS N w b k n x) (e:Ext w w'):kS N w' b k n x:=by
 obtain⟨h1,h0,⟨cs,h2,h3⟩,h4⟩:=h;exact⟨h1,h0,⟨cs,e.block h2,h3⟩,fun j hj=>(h4 j hj).ext e⟩
theorem kS.chg{x:q_v}(h:kS N w b k n x) (c:Chg lo hi w w') (hN:N<=lo) (hb:b<lo\/hi<=b):kS N w' b k n x:=by
 obtain⟨h1,h0,⟨cs,h2,h3⟩,h4⟩:=h;exact⟨h1,h0,⟨cs,c.blk h2 hb,h3⟩,fun j hj=>(h4 j hj).chg c hN hb⟩
theorem kS.congr{x y:q_v}(h:kS N w b k n x) (he:∀j,j<n->x j=y j):kS N w b k n y:=by
 obtain⟨h1,h0,h2,h4⟩:=h;exact⟨h1,h0,h2,fun j hj=>by rw[<-he j hj];exact h4 j hj⟩
theorem kS.less{n':Nat}{x:q_v}(h:kS N w b k n x) (hn:n'<=n):kS N w b k n' x:=by
 obtain⟨h1,h0,h2,h4⟩:=h;exact⟨h1,by omega,h2,fun j hj=>h4 j (by omega)⟩
def upd (x:q_v) (i:Nat) (q:Rat) (j:Nat):Rat:=if j=i then q else x j
theorem upd_same (x:q_v) (i:Nat) (q:Rat):upd x i q i=q:=by simp[upd]
theorem upd_ne (x:q_v)(q:Rat) (h:j≠i):upd x i q j=x j:=by simp[upd,h]
theorem kS.set{x:q_v}(h:kS N w b k n x)(hi:i<k) (hin:i<=n){neg:Bool}{t:Value}(hneg:Hid (neg=decide (q.num<0))) (hs:Gs N w s (dg q.num.natAbs)) (ht:Gs N w t (dg q.den)) :
  ∃w',(((w.setCell ⟨b,i*4,none⟩ (.bool neg)).setCell ⟨b,i*4+1,none⟩ s).setCell ⟨b,i*4+2,none⟩ (.bool false)).setCell ⟨b,i*4+3,none⟩ t=w'/\Chg b (b+1) w w'/\w'.heap.size=w.heap.size/\kS N w' b k (max n (i+1)) (upd x i q):=by
 obtain⟨h1,h0,⟨cs,h2,h3⟩,h4⟩:=h;obtain⟨w',cs',E,U,hb,hsz,hoth,c0,c1,c2,c3⟩:=st4 (o:=i*4) h2 (by omega) (.bool neg) s (.bool false) t;have c:=U.chg (NoU.mk h2 (by decide));refine⟨w',E,c,U.size,h1,by omega,⟨cs',hb,by omega⟩,fun j hj=>?_⟩
 by_cases hji:j=i
 ·subst hji;rw[upd_same];refine⟨s,t,?_,?_,?_,?_,hs.chg c (by omega),ht.chg c (by omega)⟩
  ·rw[qh hb,c0,hneg.out];rfl
  ·rw[qh hb,c1]
  ·rw[qh hb,c2];rfl
  ·rw[qh hb,c3]
 ·rw[upd_ne x q hji];obtain⟨s',t',d0,d1,d2,d3,g1,g2⟩:=h4 j (by omega);rw[qh h2] at d0 d1 d2 d3;refine⟨s',t',?_,?_,?_,?_,g1.chg c (by omega),g2.chg c (by omega)⟩<;>rw[qh hb,hoth _ (by omega)]<;>assumption
theorem kS.lsv{x:q_v}(h:kS N w b k n x)(hc:n<=c) (hm:c<=maxLen) (h1:lo<=b) (h2:b<hi) (h3:hi<=w.heap.size):LsV N lo hi w (.slice (some ⟨b,0,none⟩) n c) n x:=by
 have hl:=h.lt;obtain⟨a1,a0,-,a4⟩:=h;refine⟨by omega,h3,_,c,rfl,hc,hm,fun _=>⟨b,0,rfl,h1,h2,fun i hi=>?_⟩⟩;rw[Nat.zero_add];exact a4 i hi
theorem yJ:(Tryz.prog.info? 35).map (fun i=>(i.zero,i.size,i.bytes))=some (some (.agg #[.bool false,.slice none 0 0,.bool false,.slice none 0 0]),4,64):=by kernel_rfl
theorem Jk:(Tryz.prog.info? 37).map (fun i=>(i.zero,i.size,i.bytes))=some (some (.slice none 0 0),1,24):=by kernel_rfl
def Grow (N base:Nat) (w:World) (v:Value) (n:Nat) (x:q_v):Prop :=
 N<=base/\base<=w.heap.size/\((v=.slice none 0 0/\n=0)\/∃g cap,v=.slice (some ⟨g,0,none⟩) n cap/\base<=g/\cap<=maxLen/\kS N w g cap n x)
theorem Grow.nil(h1:N<=base) (h2:base<=w.heap.size) (x:q_v):Grow N base w (.slice none 0 0) 0 x:=⟨h1,h2,.inl ⟨rfl,rfl⟩⟩
theorem Grow.form{x:q_v}(h:Grow N base w v n x):∃A c,v=.slice A n c/\n<=c:=by
 obtain⟨-,-,⟨rfl,rfl⟩|⟨g,cap,rfl,-,-,hr⟩⟩:=h
 ·exact⟨_,_,rfl,q_r⟩
 ·exact⟨_,_,rfl,hr.2.1⟩
theorem Grow.ext{x:q_v}(h:Grow N base w v n x) (e:Ext w w'):Grow N base w' v n x:=by
 obtain⟨h1,h2,h3⟩:=h;refine⟨h1,q_l h2 e.size,?_⟩
 rcases h3 with h3|⟨g,cap,hv,hg,hm,hr⟩
 ·exact .inl h3
 ·exact .inr ⟨g,cap,hv,hg,hm,hr.ext e⟩
theorem Grow.chg{x:q_v}(h:Grow N base w v n x) (c:Chg lo hi w w') (hN:N<=lo) (hb:hi<=base):Grow N base w' v n x:=by
 obtain⟨h1,h2,h3⟩:=h;refine⟨h1,q_l h2 c.size,?_⟩
 rcases h3 with h3|⟨g,cap,hv,hg,hm,hr⟩
 ·exact .inl h3
 ·exact .inr ⟨g,cap,hv,hg,hm,hr.chg c hN (by omega)⟩
theorem Grow.congr{x y:q_v}(h:Grow N base w v n x) (he:∀j,j<n->x j=y j):Grow N base w v n y:=by
 obtain⟨h1,h2,h3⟩:=h;refine⟨h1,h2,?_⟩
 rcases h3 with h3|⟨g,cap,hv,hg,hm,hr⟩
 ·exact .inl h3
 ·exact .inr ⟨g,cap,hv,hg,hm,hr.congr he⟩
theorem Grow.lsv{x:q_v}(h:Grow N base w v n x)(h1:lo<=base) (h2:hi=w.heap.size):LsV N lo hi w v n x:=by
 subst h2;obtain⟨a1,a2,⟨rfl,rfl⟩|⟨g,cap,rfl,hg,hm,hr⟩⟩:=h
 ·exact⟨by omega,q_r,none,0,rfl,q_r,Nat.zero_le _,fun h=>absurd h (by omega)⟩
 ·exact hr.lsv hr.2.1 hm (by omega) hr.lt (q_r)
theorem Zx{cap:Nat}{x:q_v}(h:kS N w g cap n x) (hm:cap<=maxLen)(hb:base<=g):∃xs,w.ownsRow base 35 4 (.slice (some ⟨g,0,none⟩) n cap) n xs/\∀k,k<n*4->xs[k]?=w.cell? ⟨g,k,none⟩:=by
 obtain⟨h1,h0,⟨cs,h2,h3⟩,h4⟩:=h;refine⟨cs.toList.take (n*4),⟨by rw[List.length_take];simp;omega,.inr ⟨g,cap,cs,rfl,hb,h2,h0,hm,h3,rfl⟩⟩,fun k hk=>?_⟩;rw[List.getElem?_take,if_pos hk,qh h2];simp
theorem yO(t ty:TypeId) (ht:Tryz.prog.underlying t=some (.slice 35)){x:q_v}(h:Grow N base w v n x)
{neg:Bool}{u:Value}{fr:Nat×Nat}(hb:w.heap[b]?=some (.cells #[.bool neg,s,.bool false,u] 35 fr)) (hneg:Hid (neg=decide (q.num<0))) (hs:Gs N w s (dg q.num.natAbs)) (hu:Gs N w u (dg q.den)) (hn:n<1000000000) :
  ∃g cap w',(Builtin.append_ #[t,t] ty #[v,.slice (some ⟨b,0,none⟩) 1 1]).run Tryz.prog w=.ok (.slice (some ⟨g,0,none⟩) (n+1) cap) w'/\Grow N base w' (.slice (some ⟨g,0,none⟩) (n+1) cap) (n+1) (upd x n q)/\(∃g',base<=g'/\Chg g' (g'+1) w w'/\NoU w g')/\g<w'.heap.size:=by
 obtain⟨i0,hi0,hz0,hz1,hz2⟩:=info_parts yJ;obtain⟨h1,h2,h3⟩:=h
 have hown:∃xs,w.ownsRow base 35 4 v n xs/\∀g k,v.ownBlock=some g->k<n*4->xs[k]?=w.cell? ⟨g,k,none⟩:=by
  rcases h3 with ⟨rfl,rfl⟩|⟨g,cap,rfl,hg,hm,hr⟩
  ·exact⟨[],⟨by simp,.inl ⟨rfl,rfl⟩⟩,fun g k hg hk=>by omega⟩
  ·obtain⟨xs,hx,hc⟩:=Zx hr hm hg
   exact⟨xs,hx,fun g' k hg' hk=>by
    have:g=g':=by simpa[Value.ownBlock] using hg'
    subst this;exact hc k hk⟩
 obtain⟨xs,hown,hcell⟩:=hown;obtain⟨As,ns,cs0,rfl,-,-,-⟩:=hs.form;obtain⟨Au,nu,cu,rfl,-,-,-⟩:=hu.form
 obtain⟨g,cap,w',hrun,ho,hgr,hat,hlt⟩:=run_append_lies (P:=Tryz.prog) w t ty base 35 i0 _ 4 64 ht hi0 hz0 hz1 hz2 rfl (by omega) v n xs hown ⟨b,0,none⟩ 1 1 [.bool neg,.slice As ns cs0,.bool false,.slice Au nu cu] rfl
  (fun j u hj=>by
   have e:(⟨b,0,none⟩:Addr).add j=⟨b,j,none⟩:=by
    unfold Addr.add;split
    ·rename_i e;subst e;rfl
    ·simp
   rw[e,qh hb]
   simpa using hj)
  (fun u hu=>by simp at hu;rcases hu with rfl|rfl|rfl|rfl<;>rfl) (by omega) (by unfold maxLen;omega) (by omega) h2 w.heap.size rfl
 have hchg:∃g',base<=g'/\Chg g' (g'+1) w w'/\NoU w g':=by
  rcases h3 with ⟨rfl,rfl⟩|⟨g0,cap0,rfl,hg,hm,hr⟩
  ·have hT:NoU w w.heap.size:=fun cs fr h=>by rw[Array.getElem?_eq_none (q_r)] at h;cases h
   exact⟨w.heap.size,h2,zT hgr (fun k hk=>by simp[Value.ownBlock] at hk) hT,hT⟩
  ·exact⟨g0,hg,zT hgr (fun k hk=>by simpa[Value.ownBlock] using hk.symm) hr.noU,hr.noU⟩
 refine⟨g,cap,w',hrun,⟨h1,q_l h2 hgr.size,.inr ⟨g,cap,rfl,?_,?_,?_⟩⟩,hchg,hlt⟩
 ·rcases ho.2 with ⟨h,_⟩|⟨g2,cap2,cur,hv,hbg,_⟩
  ·cases h
  ·injection hv with e1 _ _;injection e1 with e1;injection e1 with e1 _;omega
 ·rcases ho.2 with ⟨h,_⟩|⟨g2,cap2,cur,hv,hbg,_,_,hcm,_⟩
  ·cases h
  ·injection hv with _ _ e3;subst e3;exact hcm
 ·rcases ho.2 with ⟨h,_⟩|⟨g2,cap2,cur,hv,hbg,hh,hnc,hcm,hcs,htk⟩
  ·cases h
  ·injection hv with e1 _ e3
   injection e1 with e1
   injection e1 with e1 _
   subst e1 e3;obtain⟨g',hg',hc,hT⟩:=hchg;have hNg:N<=g':=by omega
   have hx:∀k,k<(n+1)*4->w'.cell? ⟨g,k,none⟩=(xs ++ [.bool neg,.slice As ns cs0,.bool false,.slice Au nu cu])[k]?:=by
    intro k hk;rw[qh hh,<-htk,List.getElem?_take,if_pos hk];simp
   have hxl:xs.length=n*4:=hown.1;refine⟨by omega,hnc,⟨cur,hh,hcs⟩,fun j hj=>?_⟩
   by_cases hjn:j=n
   ·subst hjn;rw[upd_same];refine⟨.slice As ns cs0,.slice Au nu cu,?_,?_,?_,?_,hs.chg hc hNg,hu.chg hc hNg⟩
    ·rw[hx _ (by omega),List.getElem?_append_right (by omega),show j*4-xs.length=0 by omega,hneg.out];rfl
    ·rw[hx _ (by omega),List.getElem?_append_right (by omega),show j*4+1-xs.length=1 by omega];rfl
    ·rw[hx _ (by omega),List.getElem?_append_right (by omega),show j*4+2-xs.length=2 by omega];rfl
    ·rw[hx _ (by omega),List.getElem?_append_right (by omega),show j*4+3-xs.length=3 by omega];rfl
   ·rw[upd_ne x q hjn]
    rcases h3 with ⟨rfl,rfl⟩|⟨g0,cap0,rfl,hg,hm,hr⟩
    ·omega
    ·obtain⟨s',t',d0,d1,d2,d3,g1,g2⟩:=hr.2.2.2 j (by omega)
     have hy:∀k,k<n*4->w'.cell? ⟨g,k,none⟩=w.cell? ⟨g0,k,none⟩:=fun k hk=>by
      rw[hx k (by omega),List.getElem?_append_left (by omega),hcell g0 k rfl hk]
     exact⟨s',t',(hy _ (by omega)).trans d0,(hy _ (by omega)).trans d1,(hy _ (by omega)).trans d2,(hy _ (by omega)).trans d3,g1.chg hc hNg,g2.chg hc hNg⟩
end
section
section
variable {P:Program}{ops:Array Oper}{Q:Exit->Act->World->Prop}{S:World->Prop}{late:List Nat}
def jw (ops:Array Oper) (i:Nat):List Nat :=
 match ops[i]? with
 | some o=>(o.after.toList.filter (fun e=>Region.binds .any e)).map (·.on)
 | none=>[]
def sweep (ops:Array Oper):Nat->List Nat->List Nat
 | 0,s=>s
 | i+1,s=>sweep ops i (if s.contains i then jw ops i++s else s)
def vK (ops:Array Oper) (late:List Nat) (i:Nat):Bool :=
 !late.contains i&&late.all fun t=>(sweep ops t (jw ops t)).contains i
def Closed (ops:Array Oper) (listed:Array Bool):Prop:=∀i,listed.getD i false=true->∀j∈jw ops i,listed.getD j false=true
theorem xN {listed:Array Bool}(h:i∈Region.ready .any ops listed):∀j∈jw ops i,listed.getD j false=true:=by
 obtain⟨_,o,ho,hall⟩:=mem_ready.1 h;intro j hj;unfold jw at hj;rw[ho] at hj;simp only[List.mem_map,List.mem_filter] at hj;obtain⟨e,⟨he,hb⟩,rfl⟩:=hj;exact hall e (by simpa using he) hb
theorem Closed.start (n:Nat):Closed ops (Array.replicate n false):=by
 intro i hi
 exfalso
 rw[Array.getD_eq_getD_getElem?,Array.getElem?_replicate] at hi
 split at hi<;>simp at hi
theorem Closed.set {listed:Array Bool}(h:Closed ops listed)(hi:i∈Region.ready .any ops listed):Closed ops (listed.setIfInBounds i true):=by
 intro k hk j hj
 by_cases hki:i=k
 ·subst hki;exact getD_set_true (xN hi j hj)
 ·rw[Go.getD_set_ne false hki] at hk;exact getD_set_true (h k hk j hj)
theorem jU {listed:Array Bool}(h:Closed ops listed):∀(n:Nat) (s:List Nat),(∀j∈s,listed.getD j false=true)->∀j∈sweep ops n s,listed.getD j false=true
 | 0,_,hs=>hs
 | n+1,s,hs=>by
  unfold sweep;refine jU h n _ ?_
  split
  ·rename_i hc
   intro j hj
   rcases List.mem_append.1 hj with h1|h1
   ·exact h n (hs n (by simpa using hc)) j h1
   ·exact hs j h1
  ·exact hs
theorem jC(hl:vK ops late i=true){listed:Array Bool}(h:Closed ops listed){t:Nat}(ht:t∈Region.ready .any ops listed) (htl:late.contains t=true):listed.getD i false=true:=by
 unfold vK at hl;rw[Bool.and_eq_true] at hl;have h2:=List.all_eq_true.1 hl.2 t (by simpa using htl);exact jU h t _ (xN ht) i (by simpa using h2)
def q0w (P:Program) (ops:Array Oper) (Q:Exit->Act->World->Prop) (S:World->Prop) (late:List Nat):Nat->Array Bool->Act->World->Prop
 | 0,listed,a,w=>Region.ready .any ops listed=[]/\Q .normal a w
 | fuel+1,listed,a,w =>
  (Region.ready .any ops listed=[]->Q .normal a w) /\
  ∀i∈Region.ready .any ops listed,wpOp P ops Q i (fun a' w'=>(late.contains i=false->S w->S w')/\q0w P ops Q S late fuel (listed.setIfInBounds i true) a' w') a w
theorem jG:∀(fuel:Nat) (listed:Array Bool) (a:Act) (w:World),q0w P ops Q S late fuel listed a w->wpAny P .any ops Q fuel listed a w
 | 0,_,_,_,h=>h
 | fuel+1,_,_,_,h=>⟨h.1,fun i hi=>wpOp_mono (fun a' w' h'=>jG fuel _ a' w' h'.2) (h.2 i hi)⟩
theorem vZ {listed:Array Bool}(h:i∈Region.ready .any ops listed):listed.getD i false=false:=by
 have h0:=(mem_ready.1 h).1
 rcases Nat.lt_or_ge i listed.size with h'|h'
 ·simp[h'] at h0 ⊢;exact h0
 ·simp[Array.getElem?_eq_none h']
theorem q1l{oi:Oper}(hi:ops[i]?=some oi) (hl:vK ops late i=true) (hsel:∀(j:Nat) (o:Oper) cs b,ops[j]?=some o->o.op≠.select cs b)
  (hQ:∀c a w,Q (.panic c) (a.put oi.dst v) w->Q (.panic c) a w) :
  ∀(fuel:Nat) (listed:Array Bool) (a:Act) (w:World),Closed ops listed ->
   (∀j oj,ops[j]?=some oj->j≠i->listed.getD j true=false->(∀e∈oj.after,Region.binds .any e=true->e.on≠i)->oi.apart ops oj=true) ->
   i∈Region.ready .any ops listed->YieldsIf P ops S oi v a->S w ->
   q0w P ops Q S late fuel (listed.setIfInBounds i true) (a.put oi.dst v) w->q0w P ops Q S late (fuel+1) listed a w:=by
 intro fuel
 induction fuel with
 | zero =>
  intro listed a w _ _ hr hy hS H;refine⟨fun h=>(by rw[h] at hr;cases hr),fun j hj=>?_⟩
  by_cases hji:j=i
  ·subst hji;exact hy.wpOp hi hS ⟨fun _ h=>h,H⟩
  ·have:=ready_mono hj hji;rw[H.1] at this;cases this
 | succ fuel ih =>
  intro listed a w hcl hfree hr hy hS H;refine⟨fun h=>(by rw[h] at hr;cases hr),fun j hj=>?_⟩
  by_cases hji:j=i
  ·subst hji;exact hy.wpOp hi hS ⟨fun _ h=>h,H⟩
  ·have h1:=H.2 j (ready_mono hj hji);obtain⟨hjun,oj,hoj,hall⟩:=mem_ready.1 hj;have hun:=vZ hr
   have hjt:late.contains j=false:=by
    cases hc:late.contains j with
    | false=>rfl
    | true =>
     have:=jC hl hcl hj hc;rw[hun] at this;cases this
   have hnot:∀e∈oj.after,Region.binds .any e=true->e.on≠i:=fun e he hb heq=>by
    have h2:=hall e he hb;rw[heq,hun] at h2;cases h2
   have h2:=wpOp_putIf hoj (hfree j oj hoj hji hjun hnot) (fun cs b=>hsel i oi cs b hi) (fun cs b=>hsel j oj cs b hoj) hQ hy h1
   have hfree':∀k ok,ops[k]?=some ok->k≠i->(listed.setIfInBounds j true).getD k true=false ->
     (∀e∈ok.after,Region.binds .any e=true->e.on≠i)->oi.apart ops ok=true:=fun k ok hk hki hun' hno=>by
    refine hfree k ok hk hki ?_ hno
    by_cases hjk:j=k
    ·subst hjk;exact hjun
    ·rw[Go.getD_set_ne true hjk] at hun';exact hun'
   refine wpOp_mono (fun a' w' h3=>⟨h3.2.1,ih (listed.setIfInBounds j true) a' w' (hcl.set hj) hfree' (ready_mono hr (Ne.symm hji)) h3.1 (h3.2.1 hjt hS) ?_⟩) h2;rw[Array.setIfInBounds_comm _ _ hji];exact h3.2.2
theorem YY{oi:Oper}(hi:ops[i]?=some oi) (hsel:∀(j:Nat) (o:Oper) cs b,ops[j]?=some o->o.op≠.select cs b)
  (hQ:∀c a w,Q (.panic c) (a.put oi.dst v) w->Q (.panic c) a w) :
  ∀(fuel:Nat) (listed:Array Bool) (a:Act) (w:World),
   (∀j oj,ops[j]?=some oj->j≠i->listed.getD j true=false->(∀e∈oj.after,Region.binds .any e=true->e.on≠i)->oi.apart ops oj=true) ->
   i∈Region.ready .any ops listed->YieldsIf P ops (fun _=>True) oi v a ->
   q0w P ops Q S late fuel (listed.setIfInBounds i true) (a.put oi.dst v) w->q0w P ops Q S late (fuel+1) listed a w:=by
 intro fuel
 induction fuel with
 | zero =>
  intro listed a w _ hr hy H;refine⟨fun h=>(by rw[h] at hr;cases hr),fun j hj=>?_⟩
  by_cases hji:j=i
  ·subst hji;exact hy.wpOp hi trivial ⟨fun _ h=>h,H⟩
  ·have:=ready_mono hj hji;rw[H.1] at this;cases this
 | succ fuel ih =>
  intro listed a w hfree hr hy H;refine⟨fun h=>(by rw[h] at hr;cases hr),fun j hj=>?_⟩
  by_cases hji:j=i
  ·subst hji;exact hy.wpOp hi trivial ⟨fun _ h=>h,H⟩
  ·have h1:=H.2 j (ready_mono hj hji);obtain⟨hjun,oj,hoj,hall⟩:=mem_ready.1 hj;have hun:=vZ hr
   have hnot:∀e∈oj.after,Region.binds .any e=true->e.on≠i:=fun e he hb heq=>by
    have h2:=hall e he hb;rw[heq,hun] at h2;cases h2
   have h2:=wpOp_putIf hoj (hfree j oj hoj hji hjun hnot) (fun cs b=>hsel i oi cs b hi) (fun cs b=>hsel j oj cs b hoj) hQ hy h1
   have hfree':∀k ok,ops[k]?=some ok->k≠i->(listed.setIfInBounds j true).getD k true=false ->
     (∀e∈ok.after,Region.binds .any e=true->e.on≠i)->oi.apart ops ok=true:=fun k ok hk hki hun' hno=>by
    refine hfree k ok hk hki ?_ hno
    by_cases hjk:j=k
    ·subst hjk;exact hjun
    ·rw[Go.getD_set_ne true hjk] at hun';exact hun'
   refine wpOp_mono (fun a' w' h3=>⟨h3.2.1,ih (listed.setIfInBounds j true) a' w' hfree' (ready_mono hr (Ne.symm hji)) h3.1 ?_⟩) h2;rw[Array.setIfInBounds_comm _ _ hji];exact h3.2.2
def xB (P:Program) (ops:Array Oper) (Q:Exit->Act->World->Prop) (S:World->Prop) (late:List Nat) (fuel:Nat) (listed:Array Bool) (a:Act) (w:World):Prop:=Closed ops listed->q0w P ops Q S late fuel listed a w
theorem q0E{oi:Oper}{fuel:Nat}{listed:Array Bool}{a:Act}(hi:ops.toList[i]?=some oi) (hl:vK ops late i=true)
  (hs:Region.noSelect ops=true) (hf:Region.free .any ops listed i=true) (hr:(Region.ready .any ops listed).contains i=true)
  (hQ:∀c a w,Q (.panic c) (a.put oi.dst v) w->Q (.panic c) a w) (hy:YieldsIf P ops S oi v a) (hS:S w)
  (h:xB P ops Q S late fuel (listed.setIfInBounds i true) (a.put oi.dst v) w):xB P ops Q S late (fuel+1) listed a w:=fun hcl =>
 have hi':ops[i]?=some oi:=by rw[<-Array.getElem?_toList];exact hi
 q1l hi' hl (Region.noSelect_spec hs) hQ fuel listed a w hcl (Region.free_spec hi' hf) (by simpa using hr) hy hS (h (hcl.set (by simpa using hr)))
theorem KW{oi:Oper}{fuel:Nat}{listed:Array Bool}{a:Act}(hi:ops.toList[i]?=some oi)
  (hs:Region.noSelect ops=true) (hf:Region.free .any ops listed i=true) (hr:(Region.ready .any ops listed).contains i=true)
  (hQ:∀c a w,Q (.panic c) (a.put oi.dst v) w->Q (.panic c) a w) (hy:YieldsIf P ops (fun _=>True) oi v a)
  (h:xB P ops Q S late fuel (listed.setIfInBounds i true) (a.put oi.dst v) w):xB P ops Q S late (fuel+1) listed a w:=fun hcl =>
 have hi':ops[i]?=some oi:=by rw[<-Array.getElem?_toList];exact hi
 YY hi' (Region.noSelect_spec hs) hQ fuel listed a w (Region.free_spec hi' hf) (by simpa using hr) hy (h (hcl.set (by simpa using hr)))
theorem nr:(∀(a:Act) (d:Tmp) (v:Value),a.put (some d) v={ a with tmps:=a.tmps.setIfInBounds d v })/\(∀(a:Act) (v:Value),a.put none v=a)/\(∀(l:List Value) (i:Nat) (v:Value),l.toArray.setIfInBounds i v=(l.set i v).toArray)/\(∀(x:Value) (l:List Value) (v:Value),(x :: l).set 0 v=v :: l)/\(∀(x:Value) (l:List Value) (i:Nat) (v:Value),(x :: l).set (i+1) v=x :: l.set i v) :=
 ⟨fun _ _ _=>rfl,fun _ _=>rfl,fun _ _ _=>by simp,fun _ _ _=>rfl,fun _ _ _ _=>rfl⟩
theorem sP (i:Nat){oi:Oper}{fuel:Nat}{listed:Array Bool}{a:Act}(hi:ops.toList[i]?=some oi:=by rfl)
  (hs:Region.noSelect ops=true:=by kernel_rfl) (hf:Region.free .any ops listed i=true:=by kernel_rfl) (hr:(Region.ready .any ops listed).contains i=true:=by kernel_rfl)
  (hQ:∀c a w,Q (.panic c) (a.put oi.dst v) w->Q (.panic c) a w:=by exact fun _ _ _ h=>h) (hg:Region.wanted oi (yielded ops a.tmps)=true:=by rfl)
  (hy:∀w,True->(execOp a.eval oi).run P w=.ok (.value v) w:=by (intro w hSw;(try dsimp only at hSw);go_simp;(try (rw[if_pos (by omega)]));(try with_reducible rfl)))
  {L':Array Bool}{A':Act}(hL:listed.setIfInBounds i true=L':=by first|(simp only[nr];done)|(simp only[nr];rfl)|rfl) (hA:a.put oi.dst v=A':=by first|(simp only[nr];done)|(simp only[nr];rfl)|rfl)
  (h:xB P ops Q S late fuel L' A' w):xB P ops Q S late (fuel+1) listed a w :=
 KW hi hs hf hr hQ (Or.inl ⟨hg,hy⟩) (by rw[hL,hA];exact h)
theorem sT (i:Nat){oi:Oper}{fuel:Nat}{listed:Array Bool}{a:Act}(hi:ops.toList[i]?=some oi:=by rfl) (hl:vK ops late i=true:=by kernel_rfl)
  (hs:Region.noSelect ops=true:=by kernel_rfl) (hf:Region.free .any ops listed i=true:=by kernel_rfl) (hr:(Region.ready .any ops listed).contains i=true:=by kernel_rfl)
  (hQ:∀c a w,Q (.panic c) (a.put oi.dst v) w->Q (.panic c) a w:=by exact fun _ _ _ h=>h) (hg:Region.wanted oi (yielded ops a.tmps)=true:=by rfl)
  (hy:∀w,S w->(execOp a.eval oi).run P w=.ok (.value v) w:=by (intro w hSw;(try dsimp only at hSw);go_simp;(try (rw[if_pos (by omega)]));(try with_reducible rfl))) (hS:S w:=by assumption)
  {L':Array Bool}{A':Act}(hL:listed.setIfInBounds i true=L':=by first|(simp only[nr];done)|(simp only[nr];rfl)|rfl) (hA:a.put oi.dst v=A':=by first|(simp only[nr];done)|(simp only[nr];rfl)|rfl)
  (h:xB P ops Q S late fuel L' A' w):xB P ops Q S late (fuel+1) listed a w :=
 q0E hi hl hs hf hr hQ (Or.inl ⟨hg,hy⟩) hS (by rw[hL,hA];exact h)
theorem qp{o:Oper}{fuel:Nat}{listed:Array Bool}{a:Act}(hi:ops.toList[i]?=some o) (hr:Region.ready .any ops listed=[i])
  (h:∀K':Act->World->Prop,Shut (∀a w,S w->(S w->xB P ops Q S late fuel (listed.setIfInBounds i true) a w)->K' a w)->if Region.wanted o (yielded ops a.tmps)=true then Oper.wp P o a w K' Q else K' (a.put o.dst undef) w) :
  xB P ops Q S late (fuel+1) listed a w:=fun hcl=>by
 refine⟨fun h0=>(by rw[hr] at h0;cases h0),fun j hj=>?_⟩;have hj':j=i:=by rw[hr] at hj;simpa using hj
 subst hj';have hi':ops[j]?=some o:=by rw[<-Array.getElem?_toList];exact hi
 exact wpOp_step hi' (fun K' hK=>h K' (fun a w hS hW=>hK a w ⟨fun _ _=>hS,hW hS (hcl.set hj)⟩))
theorem jW{o o':Oper}{fuel:Nat}{listed:Array Bool}{a:Act}(hi:ops.toList[i]?=some o) (hj:ops.toList[j]?=some o') (hr:Region.ready .any ops listed=[i,j])
  (h:∀K':Act->World->Prop,Shut (∀a w,S w->(S w->xB P ops Q S late fuel (listed.setIfInBounds i true) a w)->K' a w)->if Region.wanted o (yielded ops a.tmps)=true then Oper.wp P o a w K' Q else K' (a.put o.dst undef) w)
  (h':∀K':Act->World->Prop,Shut (∀a w,S w->(S w->xB P ops Q S late fuel (listed.setIfInBounds j true) a w)->K' a w)->if Region.wanted o' (yielded ops a.tmps)=true then Oper.wp P o' a w K' Q else K' (a.put o'.dst undef) w) :
  xB P ops Q S late (fuel+1) listed a w:=fun hcl=>by
 refine⟨fun h0=>(by rw[hr] at h0;cases h0),fun k hk=>?_⟩;have hk':k=i\/k=j:=by rw[hr] at hk;simpa using hk
 rcases hk' with rfl|rfl
 ·have hi':ops[k]?=some o:=by rw[<-Array.getElem?_toList];exact hi
  exact wpOp_step hi' (fun K' hK=>h K' (fun a w hS hW=>hK a w ⟨fun _ _=>hS,hW hS (hcl.set hk)⟩))
 ·have hj':ops[k]?=some o':=by rw[<-Array.getElem?_toList];exact hj
  exact wpOp_step hj' (fun K' hK=>h' K' (fun a w hS hW=>hK a w ⟨fun _ _=>hS,hW hS (hcl.set hk)⟩))
theorem qj{o:Oper}{fuel:Nat}{listed:Array Bool}{a:Act}(hi:ops.toList[i]?=some o) (hr:Region.ready .any ops listed=[i]) (hc:late.contains i=true)
  (h:∀K':Act->World->Prop,Shut (∀a w,xB P ops Q S late fuel (listed.setIfInBounds i true) a w->K' a w)->if Region.wanted o (yielded ops a.tmps)=true then Oper.wp P o a w K' Q else K' (a.put o.dst undef) w) :
  xB P ops Q S late (fuel+1) listed a w:=fun hcl=>by
 refine⟨fun h0=>(by rw[hr] at h0;cases h0),fun j hj=>?_⟩;have hj':j=i:=by rw[hr] at hj;simpa using hj
 subst hj';have hi':ops[j]?=some o:=by rw[<-Array.getElem?_toList];exact hi
 exact wpOp_step hi' (fun K' hK=>h K' (fun a w hW=>hK a w ⟨fun h0=>(by rw[hc] at h0;cases h0),hW (hcl.set hj)⟩))
theorem qg {listed:Array Bool}{a:Act}(hr:Region.ready .any ops listed=[]) (h:Q .normal a w):∀fuel,xB P ops Q S late fuel listed a w
 | 0=>fun _=>⟨hr,h⟩
 | _+1=>fun _=>⟨fun _=>h,by rw[hr];simp⟩
theorem qw (S:World->Prop) (late:List Nat){id:Nat}{a:Act}(hm:P.follows .mixedOrders=true) (hS:S w.drew)
  (h:S w.drew->xB P ops Q S late ops.size (Array.replicate ops.size false) a w.drew):(Code.region id ops true).wp P Q a w :=
 wp_region_any hm (jG _ _ _ _ (h hS (Closed.start _)))
end
end
section
open Go.RowKit
theorem q5i {fn:Func}{k t:Tmp}(hres:fn.results=#[.cell k 35,.tmp t]){a:Act}(hp:a.tmps.getD k undef=.pointer (some ⟨g,0,none⟩)) (hq:a.tmps.getD t undef=.int .i64 0) (hd:a.defers=[])
{W:World}{o1 o2 o3 o4:Value}{neg:Bool}{A':Option Addr}{n' c':Nat}(hE:Ext w W) (hb:W.heap[g]?=some (.cells #[o1,o2,o3,o4] 35 (0,0))) (hg:w.heap.size<=g) (hN:N<=w.heap.size)
  (hG:Gs N W (.slice A n c) (dg q.num.natAbs)) (hG':Gs N W (.slice A' n' c') (dg q.den)) (hneg:Hid (neg=decide (q.num<0))) :
  bodyPost Tryz.prog fn (q45 N w q) .ret a ((((W.setCell ⟨g,0,none⟩ (.bool neg)).setCell ⟨g,1,none⟩ (.slice A n c)).setCell ⟨g,2,none⟩ (.bool false)).setCell ⟨g,3,none⟩ (.slice A' n' c')):=by
 obtain⟨w1,E1,B1,U⟩:=ex4 hb (.bool neg) (.slice A n c) (.bool false) (.slice A' n' c');rw[E1];obtain⟨c0,c1,c2,c3,-⟩:=cells4 B1;have hT:NoU W g:=NoU.mk hb (by decide);refine bodyPost_ret (v:=.tuple #[.agg #[.bool neg,.slice A n c,.bool false,.slice A' n' c'],.int .i64 0]) ?_ hd ⟨_,rfl,qX.mk hneg (hG.upd U (by omega) hT) (hG'.upd U (by omega) hT),U.ext hE hg⟩;have hp':a.tmps[k]?.getD undef=.pointer (some ⟨g,0,none⟩):=by simpa using hp
 have hq':a.tmps[t]?.getD undef=.int .i64 0:=by simpa using hq
 simp[results,hres,hp',hq',c0,c1,c2,c3,go_sem]
theorem q45.form{e:Ending}(h:q45 N w q e w'):∃(b:Bool) (A:Option Addr) (n c:Nat) (A':Option Addr) (n' c':Nat),e=.returned (.tuple #[.agg #[.bool b,.slice A n c,.bool false,.slice A' n' c'],.int .i64 0])/\Hid (b=decide (q.num<0))/\Gs N w' (.slice A n c) (dg q.num.natAbs)/\Gs N w' (.slice A' n' c') (dg q.den)/\Ext w w':=by
 obtain⟨v,rfl,hv,he⟩:=h;obtain⟨b,A,n,c,A',n',c',rfl,hb,h1,h2⟩:=hv.parts;exact⟨b,A,n,c,A',n',c',rfl,hb,h1,h2,he⟩
theorem q8z{v':Value}{y:Rat}(h:qX N w v x) (h':qX N w v' y) (hz:Sz x) (hz':Sz y) :
  Calls Tryz.prog 116 #[v,v'] w (jP N w (x-y)):=by
 obtain⟨q,hq⟩:=qc (x-y);rw[<-hq.out];have HQ:Hid (x + -y=q):=by rw[Hid,hq.out,Rat.sub_eq_add_neg]
 clear hq;have hI:=h;have hI':=h';have hN:=h.le;obtain⟨m1,X1,i1,d1,X2,i2,d2,rfl,hm1,gx1,gx2⟩:=h.parts;obtain⟨m2,Y1,i3,d3,Y2,i4,d4,rfl,hm2,gy1,gy2⟩:=h'.parts;have HZ:=q_h hz;have HZ':=q_h hz';clear hz hz' h h' gx1 gx2 gy1 gy2;go_enter Tryz.func116,Tryz.ntmps116;go_wp2;refine xX ?_;intro W hE hsz B0 B1 B2;obtain⟨a0,a1,a2,a3,-⟩:=cells4 B0;obtain⟨b0,b1,b2,b3,-⟩:=cells4 B1;have eC:=(Ext.refl W).drew;refine qw (fun w'=>w'.cell? ⟨w.heap.size,0,none⟩=some (.bool m1)/\w'.cell? ⟨w.heap.size,1,none⟩=some (.slice X1 i1 d1)/\w'.cell? ⟨w.heap.size,2,none⟩=some (.bool false)/\w'.cell? ⟨w.heap.size,3,none⟩=some (.slice X2 i2 d2)/\w'.cell? ⟨w.heap.size+1,0,none⟩=some (.bool m2)/\w'.cell? ⟨w.heap.size+1,1,none⟩=some (.slice Y1 i3 d3)/\w'.cell? ⟨w.heap.size+1,2,none⟩=some (.bool false)/\w'.cell? ⟨w.heap.size+1,3,none⟩=some (.slice Y2 i4 d4)) [4] (by kernel_rfl) (by exact⟨eC.cell a0,eC.cell a1,eC.cell a2,eC.cell a3,eC.cell b0,eC.cell b1,eC.cell b2,eC.cell b3⟩) (fun hHeld=>?_);refine sT 0 (h:=?_);refine sT 1 (h:=?_);refine qp (i:=2) rfl (by kernel_rfl) (fun K hK=>?_);go_simp;refine (q69 (by exact hI'.ext (hE.trans eC)) HZ'.out).mono ?_;rintro e w5 ⟨v5,rfl,h5,e5⟩;replace eC:=eC.trans e5;go_wp2_with fail;clear hHeld;refine hK.out _ _ (by exact⟨eC.cell a0,eC.cell a1,eC.cell a2,eC.cell a3,eC.cell b0,eC.cell b1,eC.cell b2,eC.cell b3⟩) fun hHeld=>?_
 clear hK K;try simp only[nr]
 refine qp (i:=3) rfl (by kernel_rfl) (fun K hK=>?_);go_simp;refine (WB (by exact hI.ext (hE.trans eC)) (by exact h5) HZ.out HZ'.out.neg).mono ?_;rw[HQ.out];intro e w7 hh;obtain⟨n7,A7,k7,c7,A8,k8,c8,rfl,hb7,h7,h8,e7⟩:=hh.form;replace eC:=eC.trans e7;obtain⟨r0,r1,r2,r3,r4,r5,r6,r7⟩:=cells4 (eC.block B2);go_wp2_with fail;clear hHeld;refine hK.out _ _ (by exact⟨eC.cell a0,eC.cell a1,eC.cell a2,eC.cell a3,eC.cell b0,eC.cell b1,eC.cell b2,eC.cell b3⟩) fun hHeld=>?_
 clear hK K;try simp only[nr]
 refine qj (i:=4) rfl (by kernel_rfl) (by kernel_rfl) (fun K hK=>?_);go_simp;refine hK.out _ _ ?_;clear hK K;try simp only[nr]
 refine qg (by kernel_rfl) ?_ _;clear hHeld;go_wp2;exact qQ rfl rfl rfl (hE.trans eC) (eC.block B2) (by omega) hN h7 h8 hb7
theorem X0{v':Value}{y:Rat}(h:qX N w v x) (h':qX N w v' y) (hz:Sz x) (hz':Sz y) (hd:Sz (x-y)) :
  Calls Tryz.prog 66 #[v,v'] w (zH w (.int .i64 (x-y).num.sign)):=by
 obtain⟨s,hs⟩:=qc (x-y).num.sign;rw[<-hs.out];have HD:=q_h hd;clear hd;have hI:=h;have hI':=h';have HZ:=q_h hz;have HZ':=q_h hz';obtain⟨m1,X1,i1,d1,X2,i2,d2,rfl,hm1,gx1,gx2⟩:=h.parts;obtain⟨m2,Y1,i3,d3,Y2,i4,d4,rfl,hm2,gy1,gy2⟩:=h'.parts;clear hz hz' h h' gx1 gx2 gy1 gy2;go_enter Tryz.func66,Tryz.ntmps66;go_wp2_with (go_at_call 116;refine q_o ?_);refine jF ?_;intro W hE hsz B0 B1;refine (q8z (hI.ext hE) (hI'.ext hE) HZ.out HZ'.out).mono ?_;rintro e w1 ⟨v1,rfl,h1,e1⟩;go_wp2_with (go_at_call 56;refine q_o ?_);refine (XW h1 HD.out).mono ?_;rintro e w2 ⟨rfl,e2⟩;rw[<-hs.out];go_wp2;go_ret;exact⟨rfl,(hE.trans e1).trans e2⟩
def allB (n:Nat) (p:Nat->Bool):Bool:=(List.range n).all p
theorem qm{p:Nat->Bool}:allB n p=true↔∀i,i<n->p i=true:=by simp[allB]
theorem qL{p:Nat->Bool}(hi:i<n) (h:p i=false):allB n p=false:=by
 cases hb:allB n p with
 | false=>rfl
 | true=>rw[qm.1 hb i hi] at h;cases h
theorem xn {p:Nat->Prop}(h:∀j,j<k->p j) (hk:p k):∀j,j<k+1->p j:=by
 intro j hj
 rcases Nat.lt_or_ge j k with h1|h1
 ·exact h j h1
 ·obtain rfl:j=k:=by omega
  exact hk
def jJ (R:Raw):Prop:=R.l1.length<=10000000000/\R.l2.length<=10000000000
def RawL (R:Raw):Prop:=R.l1.length<=35184372088700/\R.l2.length<=35184372088700
theorem jJ.big(h:jJ R):RawL R:=⟨q_l h.1 (by omega),q_l h.2 (by omega)⟩
theorem XV{R:Nat->Raw}(h:LsR N lo hi w v n R) (hs:∀i,i<n->RawL (R i)) :
  Calls Tryz.prog 10 #[v] w (zH w (.bool (allB n (fun i=>okR (R i))))):=by
 obtain⟨r,hr⟩:=qc (allB n (fun i=>okR (R i)));rw[<-hr.out];obtain⟨A,c,rfl,hnc,hcm⟩:=h.form;unfold maxLen at hcm;have hI:=h;have HS:=q_h hs;clear hs h;go_enter Tryz.func10,Tryz.ntmps10;go_wp2
 go_loopw [3] (fun i wr=>∃k:Nat,k<=n/\i=.int .i64 k/\Hid (∀j,j<k->okR (R j)=true)/\Ext w wr) (fun i _=>n-(intOf i).toNat)
 case atStart=>exact⟨0,Nat.zero_le _,rfl,fun j hj=>absurd hj (by omega),Ext.refl w⟩
 case round =>
  obtain⟨k,hk,rfl,HA,hE⟩:=hrel
  by_cases hlt:k<n
  ·obtain⟨b,off,rfl,-,-,hx⟩:=(hI.ext hE).addr (by omega);obtain⟨A1,n1,c1,A2,n2,c2,p0,p1,p2,p3,hv⟩:=(hx k hlt).val;clear hx;go_wp2_with (go_at_call 41;refine q_o ?_);refine (Ye hv (HS.out k hlt).1 (HS.out k hlt).2).mono ?_;rintro e w1 ⟨rfl,e1⟩;replace hE:=hE.trans e1;obtain⟨o,ho⟩:=qc (okR (R k));rw[<-ho.out];cases o with
   | true =>
    go_wp2;go_roundw
    case rel=>exact⟨k+1,by omega,by go_num,xn HA.out ho.out.symm,hE⟩
    case measure=>simp[intOf];omega
   | false =>
    have HF:Hid (r=false):=by rw[Hid,hr.out];exact qL hlt ho.out.symm
    go_wp2;go_ret;exact⟨qB HF.out.symm,hE⟩
  ·have HF:Hid (r=true):=by rw[Hid,hr.out];exact qm.2 (fun j hj=>HA.out j (by omega))
   go_wp2;go_ret;exact⟨qB HF.out.symm,hE⟩
theorem jY{R:Nat->Raw}(h:LsR N lo hi w v n R) (hs:∀i,i<n->jJ (R i)) :
  Calls Tryz.prog 10 #[v] w (zH w (.bool (allB n (fun i=>okR (R i))))):=XV h (fun i hi=>(hs i hi).big)
theorem q2h{v':Value}{y:Rat}(h:qX N w v x) (h':qX N w v' y) (hz:Sz x) (he:x=y) :
  Calls Tryz.prog 21 #[v,v'] w (zH w (.bool true)):=by
 subst he;have hd:Sz (x-x):=by rw[Rat.sub_self];exact Ht.zero.sz (by omega)
 have hs:(x-x).num.sign=0:=by rw[Rat.sub_self];rfl
 have HD:=q_h hd;have HS:=q_h hs;clear hd hs;have hI:=h;have hI':=h';have HZ:=q_h hz;obtain⟨m1,X1,i1,d1,X2,i2,d2,rfl,hm1,gx1,gx2⟩:=h.parts;obtain⟨m2,Y1,i3,d3,Y2,i4,d4,rfl,hm2,gy1,gy2⟩:=h'.parts;clear hz h h' gx1 gx2 gy1 gy2;go_enter Tryz.func21,Tryz.ntmps21;go_wp2_with (go_at_call 41;refine q_o ?_);refine jF ?_;intro W hE hsz B0 B1;refine (ww (R:=raw x) (hI.ext hE) (jL HZ.out).1 (jL HZ.out).2).mono ?_;rintro e w1 ⟨rfl,e1⟩;rw[ja];replace hE:=hE.trans e1;replace B0:=e1.block B0;replace B1:=e1.block B1;obtain⟨b0,b1,b2,b3,-⟩:=cells4 B1;go_wp2_with (go_at_call 41;refine q_o ?_);refine (ww (R:=raw x) (hI'.ext hE) (jL HZ.out).1 (jL HZ.out).2).mono ?_;rintro e w2 ⟨rfl,e2⟩;rw[ja];replace hE:=hE.trans e2;replace B0:=e2.block B0;replace B1:=e2.block B1;clear b0 b1 b2 b3;obtain⟨a0,a1,a2,a3,-⟩:=cells4 B0;obtain⟨b0,b1,b2,b3,-⟩:=cells4 B1;go_wp2_with (go_at_call 66;refine q_o ?_);refine (X0 (hI.ext hE) (hI'.ext hE) HZ.out HZ.out HD.out).mono ?_;rintro e w3 ⟨rfl,e3⟩;rw[HS.out];go_wp2;go_ret;exact⟨rfl,hE.trans e3⟩
theorem vC {lo' hi':Nat}{v':Value}{x y:q_v}(h:LsV N lo hi w v n x) (h':LsV N lo' hi' w v' n y) (hz:∀i,i<n->Sz (x i)) (he:∀i,i<n->x i=y i) :
  Calls Tryz.prog 11 #[v,v'] w (zH w (.bool true)):=by
 obtain⟨A,c,rfl,hnc,hcm⟩:=h.form;obtain⟨A',c',rfl,hnc',hcm'⟩:=h'.form;unfold maxLen at hcm hcm';have hI:=h;have hI':=h';have HZ:=q_h hz;have HE:=q_h he;clear hz he h h';go_enter Tryz.func11,Tryz.ntmps11;go_wp2
 go_loopw [5] (fun i wr=>∃k:Nat,k<=n/\i=.int .i64 k/\Ext w wr) (fun i _=>n-(intOf i).toNat)
 case atStart=>exact⟨0,Nat.zero_le _,rfl,Ext.refl w⟩
 case round =>
  obtain⟨k,hk,rfl,hE⟩:=hrel
  by_cases hlt:k<n
  ·obtain⟨b,off,rfl,-,-,hx⟩:=(hI.ext hE).addr (by omega);obtain⟨b',off',rfl,-,-,hx'⟩:=(hI'.ext hE).addr (by omega);obtain⟨A1,n1,c1,A2,n2,c2,p0,p1,p2,p3,hv⟩:=(hx k hlt).val;obtain⟨A3,n3,c3,A4,n4,c4,q0,q1,q2,q3,hv'⟩:=(hx' k hlt).val;clear hx hx';go_wp2;have eC:=(Ext.refl wr).drew;refine qw (fun w'=>w'.cell? ⟨b,off+k*4,none⟩=some (.bool (raw (x k)).b1)/\w'.cell? ⟨b,off+k*4+1,none⟩=some (.slice A1 n1 c1)/\w'.cell? ⟨b,off+k*4+2,none⟩=some (.bool (raw (x k)).b2)/\w'.cell? ⟨b,off+k*4+3,none⟩=some (.slice A2 n2 c2)/\w'.cell? ⟨b',off'+k*4,none⟩=some (.bool (raw (y k)).b1)/\w'.cell? ⟨b',off'+k*4+1,none⟩=some (.slice A3 n3 c3)/\w'.cell? ⟨b',off'+k*4+2,none⟩=some (.bool (raw (y k)).b2)/\w'.cell? ⟨b',off'+k*4+3,none⟩=some (.slice A4 n4 c4)) [] (by kernel_rfl) (by exact⟨eC.cell p0,eC.cell p1,eC.cell p2,eC.cell p3,eC.cell q0,eC.cell q1,eC.cell q2,eC.cell q3⟩) (fun hHeld=>?_);refine sP 0 (h:=?_);refine sP 1 (h:=?_);refine sP 2 (h:=?_);refine sT 3 (h:=?_);refine sP 4 (h:=?_);refine sP 5 (h:=?_);refine sP 6 (h:=?_);refine sT 7 (h:=?_);refine qp (i:=8) rfl (by kernel_rfl) (fun K hK=>?_);go_simp;refine (q2h (x:=x k) (y:=y k) (by exact hv.ext eC) (by exact hv'.ext eC) (HZ.out k hlt) (HE.out k hlt)).mono ?_;rintro e w1 ⟨rfl,e1⟩;replace eC:=eC.trans e1;go_wp2_with fail;clear hHeld;refine hK.out _ _ (by exact⟨eC.cell p0,eC.cell p1,eC.cell p2,eC.cell p3,eC.cell q0,eC.cell q1,eC.cell q2,eC.cell q3⟩) fun hHeld=>?_
   clear hK K;try simp only[nr]
   refine sP 9 (h:=?_);refine qg (by kernel_rfl) ?_ _;clear hHeld;go_wp2;go_roundw
   case rel=>exact⟨k+1,by omega,by go_num,hE.trans eC⟩
   case measure=>simp[intOf];omega
  ·go_wp2;go_ret;exact⟨rfl,hE⟩
end
section
theorem JO.null{a b:q_m}{x:q_v}(h:JO m a b) (hx:∀i,i<m->sum n (fun c=>a i c*x c)=0):∀i,i<m->sum n (fun c=>b i c*x c)=0:=by
 obtain⟨T,hT⟩:=h;intro i hi
 have e:∀c,b i c*x c=sum m (fun k=>T i k*(a k c*x c)):=by
  intro c;rw[hT i hi c,mm,<-qE];exact qf fun k _=>by grind
 rw[qf (fun c _=>e c),zu];refine qy fun k hk=>?_
 rw[zN,hx k hk];grind
def aug (n:Nat) (N:q_m) (b:q_v) (i c:Nat):Rat:=if c<n then N i c else b i
theorem q5K{N:q_m}{b x:q_v}(i:Nat):sum (n+1) (fun c=>aug n N b i c*(if c<n then x c else -1))=sum n (fun c=>N i c*x c)-b i:=by
 rw[qN,qf (g:=fun c=>N i c*x c) (fun c hc=>by unfold aug;rw[if_pos hc,if_pos hc])];unfold aug;rw[if_neg (Nat.lt_irrefl n),if_neg (Nat.lt_irrefl n)]
 grind
def sol (n:Nat) (M:q_m) (p:List Nat) (c:Nat):Rat:=sum p.length (fun s=>dlt (p[s]?.getD 0) c*M s n)
theorem q6N{M:q_m}{p:List Nat}(hp:∀s,s<p.length->p[s]?.getD 0<n) (f:q_v):sum n (fun c=>f c*sol n M p c)=sum p.length (fun s=>f (p[s]?.getD 0)*M s n):=by
 unfold sol;have e:∀c,f c*sum p.length (fun s=>dlt (p[s]?.getD 0) c*M s n)=sum p.length (fun s=>f c*(dlt (p[s]?.getD 0) c*M s n)):=fun c=>(zN _ _ _).symm
 rw[qf (fun c _=>e c),zu];refine qf fun s hs=>?_
 have e2:∀c,f c*(dlt (p[s]?.getD 0) c*M s n)=dlt (p[s]?.getD 0) c*(f c*M s n):=fun c=>by grind
 rw[qf (fun c _=>e2 c),zi (hp s hs) (fun c=>f c*M s n)]
theorem q4i{N M:q_m}{b:q_v}{p:List Nat}(h:q1s m (n+1) (aug n N b) M p) (hn:∀s,s<p.length->p[s]?.getD 0≠n) :
  ∀i,i<m->sum n (fun c=>N i c*sol n M p c)=b i:=by
 have hp:∀s,s<p.length->p[s]?.getD 0<n:=fun s hs=>by have:=h.low s hs;have:=hn s hs;omega
 have hz:∀i,i<m->sum (n+1) (fun c=>M i c*(if c<n then sol n M p c else -1))=0:=by
  intro i hi;rw[qN,if_neg (Nat.lt_irrefl n),qf (g:=fun c=>M i c*sol n M p c) (fun c hc=>by rw[if_pos hc]),q6N hp];rw[qf (g:=fun s=>dlt i s*M s n) (fun s hs=>by rw[h.unit s hs i hi])]
  rcases Nat.lt_or_ge i p.length with h1|h1
  ·rw[zi h1 (fun s=>M s n)];grind
  ·rw[h.zero i h1 hi n (by omega),qy (fun s hs=>by rw[kY (by omega)];grind)];grind
 intro i hi;have:=h.back.null hz i hi;rw[q5K] at this
 grind
theorem q4j{N M:q_m}{b:q_v}{p:List Nat}(h:q1s m (n+1) (aug n N b) M p){s:Nat}(hs:s<p.length) (hn:p[s]?.getD 0=n) :
  ∃y:Nat->Rat,(∀c,c<n->sum m (fun i=>y i*N i c)=0)/\sum m (fun i=>y i*b i)=1:=by
 obtain⟨T,hT⟩:=h.there;have hsm:s<m:=Nat.lt_of_lt_of_le hs h.len;refine⟨T s,fun c hc=>?_,?_⟩
 ·have h1:=hT s hsm c;rw[h.left s hs c (by omega),mm] at h1;rw[h1];exact qf fun k _=>by unfold aug;rw[if_pos hc]
 ·have h1:=hT s hsm n;have h2:=h.unit s hs s hsm;rw[hn,kX] at h2;rw[h2,mm] at h1;rw[h1];exact qf fun k _=>by unfold aug;rw[if_neg (Nat.lt_irrefl n)]
theorem q2Z {p:List Nat}(h:∀s t,s<t->t<p.length->p[s]?.getD 0<p[t]?.getD 0):∀s,s<p.length->s<=p[s]?.getD 0:=by
 intro s
 induction s with
 | zero=>intro _;exact Nat.zero_le _
 | succ s ih=>intro hs;have:=h s (s+1) (by omega) hs;have:=ih (by omega);omega
theorem q31 {p:List Nat}(h:∀s t,s<t->t<p.length->p[s]?.getD 0<p[t]?.getD 0) (hn:p.length<n):∃c,c<n/\∀s,s<p.length->p[s]?.getD 0≠c:=by
 have key:∀k,k<=p.length->(∀s,s<k->p[s]?.getD 0=s)\/∃c,c<n/\∀s,s<p.length->p[s]?.getD 0≠c:=by
  intro k
  induction k with
  | zero=>intro _;exact .inl fun s hs=>by omega
  | succ k ih =>
   intro hk
   rcases ih (by omega) with h1|h1
   ·by_cases h2:p[k]?.getD 0=k
    ·refine .inl fun s hs=>?_
     rcases Nat.lt_or_ge s k with h3|h3
     ·exact h1 s h3
     ·obtain rfl:s=k:=by omega
      exact h2
    ·refine .inr ⟨k,by omega,fun s hs=>?_⟩;have h3:=q2Z h k (by omega)
     rcases Nat.lt_trichotomy s k with h4|h4|h4
     ·rw[h1 s h4];omega
     ·rw[h4];exact h2
     ·have:=h k s h4 hs;omega
   ·exact .inr h1
 rcases key p.length (q_r) with h1|h1
 ·exact⟨p.length,hn,fun s hs=>by rw[h1 s hs];omega⟩
 ·exact h1
theorem q33 {p:List Nat}(h:∀s t,s<t->t<p.length->p[s]?.getD 0<p[t]?.getD 0) (hl:∀s,s<p.length->p[s]?.getD 0<n) (hn:p.length=n):∀s,s<n->p[s]?.getD 0=s:=by
 have up:∀d s,s+d<n->p[s]?.getD 0+d<=p[s+d]?.getD 0:=by
  intro d
  induction d with
  | zero=>intro s _;exact q_r
  | succ d ih=>intro s hs;have h1:=ih s (by omega);have h2:=h (s+d) (s+(d+1)) (by omega) (by omega);omega
 intro s hs;have h1:=q2Z h s (by omega);have h2:=up (n-1-s) s (by omega);have h3:=hl (s+(n-1-s)) (by omega);omega
def nul (M:q_m) (p:List Nat) (c k:Nat):Rat:=dlt c k-sum p.length (fun s=>dlt (p[s]?.getD 0) k*M s c)
theorem WN{A M:q_m}{p:List Nat}(h:q1s m n A M p)(hc:c<n):∀i,i<m->sum n (fun k=>A i k*nul M p c k)=0:=by
 refine h.back.null (fun i hi=>?_)
 have e:∀k,M i k*nul M p c k=dlt c k*M i k-sum p.length (fun s=>dlt (p[s]?.getD 0) k*(M i k*M s c)):=by
  intro k;unfold nul
  have:M i k*sum p.length (fun s=>dlt (p[s]?.getD 0) k*M s c)=sum p.length (fun s=>dlt (p[s]?.getD 0) k*(M i k*M s c)):=by
   rw[<-zN];exact qf fun s _=>by grind
  rw[<-this];grind
 rw[qf (fun k _=>e k),XE,zi hc (fun k=>M i k),zu];rw[qf (g:=fun s=>dlt i s*M s c) (fun s hs=>by rw[zi (h.low s hs) (fun k=>M i k*M s c),h.unit s hs i hi])]
 rcases Nat.lt_or_ge i p.length with h1|h1
 ·rw[zi h1 (fun s=>M s c)];grind
 ·rw[h.zero i h1 hi c hc,qy (fun s hs=>by rw[kY (by omega)];grind)];grind
theorem WM {M:q_m}{p:List Nat}(hc:∀s,s<p.length->p[s]?.getD 0≠c):nul M p c c=1:=by
 unfold nul;rw[kX,qy (fun s hs=>by rw[kY (hc s hs)];grind)];grind
def Reg (n:Nat) (K:q_m):Prop:=∀x:Nat->Rat,(∀i,i<n->sum n (fun c=>K i c*x c)=0)->∀c,c<n->x c=0
def zg (n:Nat) (K:q_m) (i c:Nat):Rat:=if c<n then K i c else dlt i (c-n)
theorem VE{K M:q_m}{p:List Nat}(h:q1s n n (zg n K) M p) (hK:Reg n K):p.length=n:=by
 rcases Nat.lt_or_ge p.length n with h1|h1
 ·exfalso
  obtain⟨c,hc,hg⟩:=q31 h.inc h1;have h2:=WN h hc
  have h3:=hK (nul M p c) (fun i hi=>by
   rw[<-h2 i hi]
   exact qf fun k hk=>by unfold zg;rw[if_pos hk]) c hc
  rw[WM hg] at h3;exact absurd h3 (by decide)
 ·have:=h.len;omega
theorem WZ{K M:q_m}{p:List Nat}(h:q1s n n (zg n K) M p) (hl:p.length=n) :
  (∀i,i<n->∀c,c<n->mm n K (fun a b=>M a (n+b)) i c=dlt i c)/\(∀i,i<n->∀c,c<n->mm n (fun a b=>M a (n+b)) K i c=dlt i c):=by
 have hp:=q33 h.inc h.low hl;have hu:∀i,i<n->∀c,c<n->M i c=dlt i c:=fun i hi c hc=>by have:=h.unit c (by omega) i hi;rwa [hp c hc] at this
 obtain⟨T,hT⟩:=h.there;obtain⟨S,hS⟩:=h.back
 have hTX:∀i,i<n->∀c,c<n->M i (n+c)=T i c:=fun i hi c hc=>by
  rw[hT i hi,mm];rw[qf (g:=fun k=>T i k*dlt k c) (fun k _=>by unfold zg;rw[if_neg (by omega),Nat.add_sub_cancel_left])];exact vP hc (T i)
 have hSK:∀i,i<n->∀c,c<n->K i c=S i c:=fun i hi c hc=>by
  have h1:=hS i hi c;unfold zg at h1;rw[if_pos hc,mm,qf (g:=fun k=>S i k*dlt k c) (fun k hk=>by rw[hu k hk c hc])] at h1;rw[h1];exact vP hc (S i)
 constructor
 ·intro i hi c hc;have h1:=hS i hi (n+c);unfold zg at h1;rw[if_neg (by omega),Nat.add_sub_cancel_left] at h1;rw[h1];exact xH (fun k hk=>hSK i hi k hk) (fun _ _=>rfl)
 ·intro i hi c hc;have h1:=hT i hi c;rw[hu i hi c hc] at h1;rw[h1];refine xH (fun k hk=>hTX i hi k hk) (fun k hk=>?_);unfold zg;rw[if_pos hc]
def HtM (m n k:Nat) (A:q_m):Prop:=∀i,i<m->∀c,c<n->Ht k (A i c)
def HtL (n k:Nat) (x:q_v):Prop:=∀i,i<n->Ht k (x i)
theorem HtM.mono {k':Nat}{A:q_m}(h:HtM m n k A) (hk:k<=k'):HtM m n k' A:=fun i hi c hc=>(h i hi c hc).mono hk
theorem HtL.mono {k':Nat}{x:q_v}(h:HtL n k x) (hk:k<=k'):HtL n k' x:=fun i hi=>(h i hi).mono hk
theorem HtM.swp {q r:Nat}{M:q_m}(h:HtM m n q M) (hr:r<m) (hk:k<m):HtM m n q (swp M r k):=by
 intro i hi c hc;unfold Go.Proofs.YtflhlobiipejeaaGreat.swp
 split
 ·exact h k hk c hc
 ·split
  ·exact h r hr c hc
  ·exact h i hi c hc
theorem HtM.clr_nrm {q r:Nat}{M:q_m}(h:HtM m n q M) (hr:r<m) (hj:j<n):HtM m n (5*q) (clr (nrm M r j) r j):=by
 intro i hi c hc;have hq:=(h i hi c hc).pos;unfold clr nrm
 by_cases h1:i=r
 ·subst h1;simp only[if_true];exact ((h i hi c hc).div (h i hi j hj)).mono (by omega)
 ·simp only[h1,if_false,if_true];exact ((h i hi c hc).sub ((h i hi j hj).mul ((h r hr c hc).div (h r hr j hj)))).mono (by omega)
theorem q6Z {q:Nat}{M:q_m}(h:HtM m n q M):∀j,j<=n->HtM m n (5 ^ (zI m M j).2.length*q) (zI m M j).1:=by
 intro j
 induction j with
 | zero=>intro _;simpa[zI] using h
 | succ j ih =>
  intro hj;have ih:=ih (by omega);unfold zI Vg;simp only
  generalize zI m M j=st at ih ⊢
  obtain⟨M',p⟩:=st;simp only at ih ⊢
  by_cases hr:p.length<=m
  ·have hs:=vV M' m j (m-p.length) p.length (q_r) hr
   split
   ·rename_i hk
    have h1:=(ih.swp (r:=p.length) (k:=XJ M' m j (m-p.length) p.length) (by omega) hk).clr_nrm (r:=p.length) (j:=j) (by omega) (by omega);refine h1.mono ?_;simp only[List.length_append,List.length_singleton];rw[Nat.pow_succ,Nat.mul_comm (5 ^ p.length) 5,Nat.mul_assoc];exact q_r
   ·exact ih
  ·have:XJ M' m j (m-p.length) p.length=p.length:=by
    rw[show m-p.length=0 by omega];rfl
   rw[this,if_neg (by omega)];exact ih
theorem vX (m:Nat) (M:q_m) (n:Nat):(zI m M n).2.length<=m/\(zI m M n).2.length<=n:=by
 have h:=xY m M n;refine⟨h.len,?_⟩
 rcases Nat.lt_or_ge n (zI m M n).2.length with h1|h1
 ·exfalso
  have h2:=q2Z h.inc n h1;have h3:=h.low n h1;omega
 ·exact h1
theorem XO {q p:Nat}{M:q_m}(h:HtM m n q M)(hj:j<=n) (hp:m<=p\/j<=p):HtM m n (5 ^ p*q) (zI m M j).1:=by
 refine (q6Z h j hj).mono (Nat.mul_le_mul_right _ (Nat.pow_le_pow_right (by omega) ?_));have:=vX m M j;omega
end
section
open Go.RowKit
def je (N:Nat) (w:World) (g:Nat) (q:Rat):Prop :=
 ∃(b:Bool) (A:Option Addr) (n c:Nat) (A':Option Addr) (n' c':Nat),w.heap[g]?=some (.cells #[.bool b,.slice A n c,.bool false,.slice A' n' c'] 35 (0,0))/\Hid (b=decide (q.num<0))/\Gs N w (.slice A n c) (dg q.num.natAbs)/\Gs N w (.slice A' n' c') (dg q.den)
theorem je.mk{b:Bool}{A':Option Addr}{n' c':Nat}(h:w.heap[g]?=some (.cells #[.bool b,.slice A n c,.bool false,.slice A' n' c'] 35 (0,0))) (hb:Hid (b=decide (q.num<0))) (h1:Gs N w (.slice A n c) (dg q.num.natAbs)) (h2:Gs N w (.slice A' n' c') (dg q.den)):je N w g q :=
 ⟨b,A,n,c,A',n',c',h,hb,h1,h2⟩
theorem je.ext(h:je N w g q) (e:Ext w w'):je N w' g q:=by
 obtain⟨b,A,n,c,A',n',c',h0,hb,h1,h2⟩:=h;exact⟨b,A,n,c,A',n',c',e.block h0,hb,h1.ext e,h2.ext e⟩
theorem je.chg(h:je N w g q) (k:Chg lo hi w w') (hN:N<=lo) (hg:g<lo\/hi<=g):je N w' g q:=by
 obtain⟨b,A,n,c,A',n',c',h0,hb,h1,h2⟩:=h;exact⟨b,A,n,c,A',n',c',k.blk h0 hg,hb,h1.chg k hN,h2.chg k hN⟩
theorem je.open(h:je N w g q):∃(b:Bool) (A:Option Addr) (n c:Nat) (A':Option Addr) (n' c':Nat),
  w.cell? ⟨g,0,none⟩=some (.bool b)/\w.cell? ⟨g,1,none⟩=some (.slice A n c)/\w.cell? ⟨g,2,none⟩=some (.bool false)/\w.cell? ⟨g,3,none⟩=some (.slice A' n' c') /\
  w.frozen? ⟨g,0,none⟩=false/\w.frozen? ⟨g,1,none⟩=false/\w.frozen? ⟨g,2,none⟩=false/\w.frozen? ⟨g,3,none⟩=false /\
  qX N w (.agg #[.bool b,.slice A n c,.bool false,.slice A' n' c']) q/\w.heap[g]?=some (.cells #[.bool b,.slice A n c,.bool false,.slice A' n' c'] 35 (0,0)):=by
 obtain⟨b,A,n,c,A',n',c',h0,hb,h1,h2⟩:=h;obtain⟨c0,c1,c2,c3,f0,f1,f2,f3⟩:=cells4 h0;exact⟨b,A,n,c,A',n',c',c0,c1,c2,c3,f0,f1,f2,f3,qX.mk hb h1 h2,h0⟩
theorem Q7{y0 y1 y2 y3:Value}(h0:w.heap[g]?=some (.cells #[y0,y1,y2,y3] 35 (0,0))) (hN:N<=g){b:Bool}{A':Option Addr}{n' c':Nat}(hb:Hid (b=decide (q.num<0))) (h1:Gs N w (.slice A n c) (dg q.num.natAbs)) (h2:Gs N w (.slice A' n' c') (dg q.den)) :
  ∃w1,(((w.setCell ⟨g,0,none⟩ (.bool b)).setCell ⟨g,1,none⟩ (.slice A n c)).setCell ⟨g,2,none⟩ (.bool false)).setCell ⟨g,3,none⟩ (.slice A' n' c')=w1/\je N w1 g q/\Chg g (g+1) w w1/\w1.heap.size=w.heap.size:=by
 obtain⟨w1,E,F,U⟩:=ex4 h0 (.bool b) (.slice A n c) (.bool false) (.slice A' n' c');have k:=U.chg (NoU.mk h0 (by decide));exact⟨w1,E,⟨b,A,n,c,A',n',c',F,hb,h1.chg k hN,h2.chg k hN⟩,k,U.size⟩
theorem q09 {fn:Func}{k:Tmp}(hres:fn.results=#[.cell k 35]){a:Act}(hp:a.tmps.getD k undef=.pointer (some ⟨g,0,none⟩)) (hd:a.defers=[]){W:World}(hE:Ext w W) (hB:je N W g q) :
  bodyPost Tryz.prog fn (jP N w q) .ret a W:=by
 obtain⟨b,A,n,c,A',n',c',c0,c1,c2,c3,-,-,-,-,hv,-⟩:=hB.open;refine bodyPost_ret (v:=.agg #[.bool b,.slice A n c,.bool false,.slice A' n' c']) ?_ hd ⟨_,rfl,hv,hE⟩;have hp':a.tmps[k]?.getD undef=.pointer (some ⟨g,0,none⟩):=by simpa using hp
 simp[results,hres,hp',c0,c1,c2,c3,go_sem]
theorem JV{x:q_v}(h:HtL n k x)(hi:i<=n) (hK:n*(k+1)+1<=K):Ht K (sum i x):=by
 refine (wR (k:=k) (fun j hj=>h j (by omega))).mono ?_;have:=Nat.mul_le_mul_right (k+1) hi;omega
theorem f_dot {lo' hi':Nat}{v':Value}{x y:q_v}(h:LsV N lo hi w v n x) (h':LsV N lo' hi' w v' n y){k':Nat}(hk:HtL n k x) (hk':HtL n k' y) (hK:n*(k+k'+1)+1<=29000000000) :
  Calls Tryz.prog 85 #[v,v'] w (q45 N w (sum n (fun j=>x j*y j))):=by
 obtain⟨A,c,rfl,hnc,hcm⟩:=h.form;obtain⟨A',c',rfl,hnc',hcm'⟩:=h'.form;unfold maxLen at hcm hcm';have hN:=h.le;have hI:=h;have hI':=h'
 have HZ:Hid (∀i,i<n->Sz (x i)/\Sz (y i)/\Sz (x i*y i)):=fun i hi=>by
  have h1:=Nat.le_mul_of_pos_left (k+k'+1) (show 0<n by omega);exact⟨(hk i hi).sz (by omega),(hk' i hi).sz (by omega),((hk i hi).mul (hk' i hi)).sz (by omega)⟩
 have HS:Hid (∀i,i<=n->Sz (sum i (fun j=>x j*y j))):=fun i hi=>(JV (k:=k+k') (fun j hj=>(hk j hj).mul (hk' j hj)) hi hK).sz (q_r)
 obtain⟨q,hq⟩:=qc (sum n (fun j=>x j*y j));rw[<-hq.out];clear h h' hk hk' hK;go_enter Tryz.func85,Tryz.ntmps85;go_wp2_with (go_at_call 127;refine q_o ?_);refine qW ?_;intro W hE hsz B0;refine (f_whole (N:=N) (by have:=hE.size;omega) 0 (by omega) (by omega)).mono ?_;intro e w1 hh;obtain⟨b1,A1,k1,c1,A2,k2,c2,rfl,hb1,g1,g2,e1⟩:=hh.form;replace hE:=hE.trans e1;replace B0:=e1.block B0;replace hsz:=q_l hsz e1.size;go_upto_region 4 with (fail);refine qo ?_;intro w2 e2 hsz2 BS;have hB:je N w2 w1.heap.size (sum 0 (fun j=>x j*y j)):=je.mk BS hb1 (g1.ext e2) (g2.ext e2);replace hE:=hE.trans e2;replace B0:=e2.block B0;clear g1 g2 hb1 BS e2 e1;go_wp2
 go_loopw [18] (fun i wr=>∃k:Nat,k<=n/\i=.int .i64 k/\Ext w wr/\w1.heap.size<wr.heap.size/\wr.heap[w.heap.size]?=some (.cells #[.bool false,.slice none 0 0,.bool false,.slice none 0 0] 35 (0,0))/\je N wr w1.heap.size (sum k (fun j=>x j*y j))) (fun i _=>n-(intOf i).toNat)
 case atStart=>exact⟨0,Nat.zero_le _,rfl,hE,by omega,B0,hB⟩
 case round =>
  clear hB hE B0 hsz2;obtain⟨k,hk,rfl,hE,hsz2,B0,hB⟩:=hrel
  by_cases hlt:k<n
  ·obtain⟨b,off,rfl,-,-,hx⟩:=(hI.ext hE).addr (by omega);obtain⟨A3,n3,c3,A4,n4,c4,p0,p1,p2,p3,hv'⟩:=(hx k hlt).val;clear hx;go_upto_region 7 with (fail);refine qo ?_;intro w3 e3 hsz3 BX;replace hE:=hE.trans e3;replace B0:=e3.block B0;replace hB:=hB.ext e3;replace hv':=hv'.ext e3;clear p0 p1 p2 p3;obtain⟨p0,p1,p2,p3,-⟩:=cells4 BX;obtain⟨b1,A1,k1,c1,A2,k2,c2,BS,hb1,g1,g2⟩:=hB;obtain⟨s0,s1,s2,s3,s4,s5,s6,s7⟩:=cells4 BS;have hv:=qX.mk hb1 g1 g2;obtain⟨b',off',rfl,-,-,hx'⟩:=(hI'.ext hE).addr (by omega);obtain⟨A5,n5,c5,A6,n6,c6,q0,q1,q2,q3,hv''⟩:=(hx' k hlt).val;clear hx';have eC:=(Ext.refl w3).drew;refine qw (fun w'=>w'.cell? ⟨w1.heap.size,0,none⟩=some (.bool b1)/\w'.cell? ⟨w1.heap.size,1,none⟩=some (.slice A1 k1 c1)/\w'.cell? ⟨w1.heap.size,2,none⟩=some (.bool false)/\w'.cell? ⟨w1.heap.size,3,none⟩=some (.slice A2 k2 c2)/\w'.cell? ⟨wr.heap.size,0,none⟩=some (.bool (raw (x k)).b1)/\w'.cell? ⟨wr.heap.size,1,none⟩=some (.slice A3 n3 c3)/\w'.cell? ⟨wr.heap.size,2,none⟩=some (.bool (raw (x k)).b2)/\w'.cell? ⟨wr.heap.size,3,none⟩=some (.slice A4 n4 c4)/\w'.cell? ⟨b',off'+k*4,none⟩=some (.bool (raw (y k)).b1)/\w'.cell? ⟨b',off'+k*4+1,none⟩=some (.slice A5 n5 c5)/\w'.cell? ⟨b',off'+k*4+2,none⟩=some (.bool (raw (y k)).b2)/\w'.cell? ⟨b',off'+k*4+3,none⟩=some (.slice A6 n6 c6)) [8] (by kernel_rfl) (by exact⟨eC.cell s0,eC.cell s1,eC.cell s2,eC.cell s3,eC.cell p0,eC.cell p1,eC.cell p2,eC.cell p3,eC.cell q0,eC.cell q1,eC.cell q2,eC.cell q3⟩) (fun hHeld=>?_)
   refine sT 0 (h:=?_);refine sT 1 (h:=?_);refine sP 2 (h:=?_);refine sP 3 (h:=?_);refine sP 4 (h:=?_);refine sT 5 (h:=?_);refine qp (i:=6) rfl (by kernel_rfl) (fun K hK=>?_);go_simp;refine (q5k (x:=x k) (y:=y k) (by exact hv'.ext eC) (by exact hv''.ext eC) (HZ.out k hlt).1 (HZ.out k hlt).2.1).mono ?_;rintro e w4 ⟨v4,rfl,h4,e4⟩;replace eC:=eC.trans e4;go_wp2_with fail;clear hHeld;refine hK.out _ _ (by exact⟨eC.cell s0,eC.cell s1,eC.cell s2,eC.cell s3,eC.cell p0,eC.cell p1,eC.cell p2,eC.cell p3,eC.cell q0,eC.cell q1,eC.cell q2,eC.cell q3⟩) fun hHeld=>?_
   clear hK K;try simp only[nr]
   refine qp (i:=7) rfl (by kernel_rfl) (fun K hK=>?_);go_simp;refine (f_add (x:=sum k (fun j=>x j*y j)) (y:=x k*y k) (by exact hv.ext eC) (by exact h4) (HS.out k (by omega)) (HZ.out k hlt).2.2).mono ?_;intro e w5 hh;obtain⟨b5,A5,k5,c5,A6,k6,c6,rfl,hb5,g5,g6,e5⟩:=hh.form;replace eC:=eC.trans e5;have D0:=eC.block BS;obtain⟨t0,t1,t2,t3,t4,t5,t6,t7⟩:=cells4 D0;go_wp2_with fail;clear hHeld;refine hK.out _ _ (by exact⟨eC.cell s0,eC.cell s1,eC.cell s2,eC.cell s3,eC.cell p0,eC.cell p1,eC.cell p2,eC.cell p3,eC.cell q0,eC.cell q1,eC.cell q2,eC.cell q3⟩) fun hHeld=>?_
   clear hK K;try simp only[nr]
   refine qj (i:=8) rfl (by kernel_rfl) (by kernel_rfl) (fun K hK=>?_);go_simp;refine hK.out _ _ ?_;clear hK K;try simp only[nr]
   refine qg (by kernel_rfl) ?_ _;clear hHeld;obtain⟨w6,E6,hB6,K6,hs6⟩:=Q7 D0 (by omega) (q:=sum (k+1) (fun j=>x j*y j)) hb5 g5 g6;rw[E6];clear E6;go_wp2;go_roundw
   case rel=>exact⟨k+1,by omega,by go_num,K6.ext (hE.trans eC) (by omega),by have:=eC.size;omega,K6.blk (eC.block B0) (by omega),hB6⟩
   case measure=>simp[intOf];omega
  ·obtain rfl:k=n:=by omega
   obtain⟨b1,A1,k1,c1,A2,k2,c2,BS,hb1,g1,g2⟩:=hB;obtain⟨s0,s1,s2,s3,s4,s5,s6,s7⟩:=cells4 BS;have hv:=qX.mk hb1 g1 g2;obtain⟨r0,r1,r2,r3,r4,r5,r6,r7⟩:=cells4 B0;go_wp2;rw[<-hq.out] at hb1 g1 g2;exact q5i rfl rfl rfl rfl hE B0 (by omega) hN g1 g2 hb1
structure qU (N lo hi:Nat) (w:World) (h k m n:Nat) (β κ:Nat->Nat) (A:q_m):Prop where
 le:N<=lo
 hh:∃hs,w.heap[h]?=some (.cells hs 37 (0,0))/\hs.size=k/\∀i,i<m->hs[i]?=some (.slice (some ⟨β i,0,none⟩) n (κ i))
 mle:m<=k
 hlo:lo<=h
 hhi:h<hi
 his:hi<=w.heap.size
 lo_:∀i,i<m->lo<=β i
 hi_:∀i,i<m->β i<hi
 cap:∀i,i<m->κ i<=maxLen
 row:∀i,i<m->kS N w (β i) (κ i) n (A i)
 inj:∀i j,i<m->j<m->i≠j->β i≠β j
section
variable {N lo hi:Nat}{w w':World}{h k m n:Nat}{β κ:Nat->Nat}{A:q_m}
theorem qU.ne (o:qU N lo hi w h k m n β κ A)(hi':i<m):β i≠h:=by
 obtain⟨hs,h1,-,-⟩:=o.hh;obtain⟨-,-,⟨cs,h2,-⟩,-⟩:=o.row i hi';intro e;rw[e,h1] at h2;injection h2 with h2
 injection h2 with _ h2
 exact absurd h2 (by decide)
theorem qU.noU (o:qU N lo hi w h k m n β κ A):NoU w h:=by
 obtain⟨hs,h1,-,-⟩:=o.hh;exact NoU.mk h1 (by decide)
theorem qU.hcell (o:qU N lo hi w h k m n β κ A)(hi':i<m):w.cell? ⟨h,i,none⟩=some (.slice (some ⟨β i,0,none⟩) n (κ i)):=by
 obtain⟨hs,h1,-,h3⟩:=o.hh;rw[qh h1,h3 i hi']
theorem qU.hfrozen (o:qU N lo hi w h k m n β κ A) (i:Nat):w.frozen? ⟨h,i,none⟩=false:=by
 obtain⟨hs,h1,-,-⟩:=o.hh;exact qY h1 i
theorem qU.ext (o:qU N lo hi w h k m n β κ A) (e:Ext w w'):qU N lo hi w' h k m n β κ A:=by
 obtain⟨hs,h1,h2,h3⟩:=o.hh;exact⟨o.le,⟨hs,e.block h1,h2,h3⟩,o.mle,o.hlo,o.hhi,q_l o.his e.size,o.lo_,o.hi_,o.cap,fun i hi'=>(o.row i hi').ext e,o.inj⟩
theorem qU.chg (o:qU N lo hi w h k m n β κ A){l u:Nat}(c:Chg l u w w') (hN:N<=l) (hd:hi<=l\/u<=lo):qU N lo hi w' h k m n β κ A:=by
 obtain⟨hs,h1,h2,h3⟩:=o.hh;have:=o.hlo;have:=o.hhi;exact⟨o.le,⟨hs,c.blk h1 (by omega),h2,h3⟩,o.mle,o.hlo,o.hhi,q_l o.his c.size,o.lo_,o.hi_,o.cap,fun i hi'=>(o.row i hi').chg c hN (by have:=o.lo_ i hi';have:=o.hi_ i hi';omega),o.inj⟩
theorem qU.congr {B:q_m}(o:qU N lo hi w h k m n β κ A) (he:∀i,i<m->∀j,j<n->A i j=B i j):qU N lo hi w h k m n β κ B :=
 ⟨o.le,o.hh,o.mle,o.hlo,o.hhi,o.his,o.lo_,o.hi_,o.cap,fun i hi'=>(o.row i hi').congr (he i hi'),o.inj⟩
theorem qU.wide {lo' hi':Nat}(o:qU N lo hi w h k m n β κ A) (h1:lo'<=lo) (h2:N<=lo') (h3:hi<=hi') (h4:hi'<=w.heap.size):qU N lo' hi' w h k m n β κ A :=
 ⟨h2,o.hh,o.mle,by have:=o.hlo;omega,by have:=o.hhi;omega,h4,fun i hi=>by have:=o.lo_ i hi;omega,fun i hi=>by have:=o.hi_ i hi;omega,o.cap,o.row,o.inj⟩
theorem qU.mtv (o:qU N lo hi w h k m n β κ A)(hc:m<=c) (hm:c<=maxLen):MtV N lo hi w (.slice (some ⟨h,0,none⟩) m c) m n A:=by
 have h1:=o.hlo;have h2:=o.hhi;have h3:=o.his;refine⟨by have:=o.le;omega,o.his,_,c,rfl,hc,hm,fun _=>⟨h,0,rfl,h1,h2,fun i hi'=>⟨_,by rw[Nat.zero_add];exact o.hcell hi',?_⟩⟩⟩;exact (o.row i hi').lsv (o.row i hi').2.1 (o.cap i hi') (o.lo_ i hi') (o.hi_ i hi') h3
def xE (A:q_m) (r:Nat) (x:q_v) (i:Nat):Nat->Rat:=if i=r then x else A i
theorem xq (A:q_m) (r:Nat) (x:q_v):xE A r x r=x:=by simp[xE]
theorem Zj (A:q_m){r:Nat}(x:q_v) (h:i≠r):xE A r x i=A i:=by simp[xE,h]
theorem qU.setRow (o:qU N lo hi w h k m n β κ A){r:Nat}(hr:r<m) (c:Chg (β r) (β r+1) w w'){x:q_v}(hx:kS N w' (β r) (κ r) n x):qU N lo hi w' h k m n β κ (xE A r x):=by
 obtain⟨hs,h1,h2,h3⟩:=o.hh;have hN:=o.le;have hl:=o.lo_ r hr;have hne:=o.ne hr;refine⟨o.le,⟨hs,c.blk h1 (by omega),h2,h3⟩,o.mle,o.hlo,o.hhi,q_l o.his c.size,o.lo_,o.hi_,o.cap,fun i hi'=>?_,o.inj⟩
 by_cases hir:i=r
 ·subst hir;rw[xq];exact hx
 ·rw[Zj A x hir];have:=o.inj i r hi' hr hir;exact (o.row i hi').chg c (by omega) (by omega)
theorem qU.swap (o:qU N lo hi w h k m n β κ A){r s:Nat}(hr:r<m) (hs':s<m) :
  ∃w',(w.setCell ⟨h,r,none⟩ (.slice (some ⟨β s,0,none⟩) n (κ s))).setCell ⟨h,s,none⟩ (.slice (some ⟨β r,0,none⟩) n (κ r))=w'/\Chg h (h+1) w w'/\w'.heap.size=w.heap.size /\
   qU N lo hi w' h k m n (fun i=>if i=r then β s else if i=s then β r else β i) (fun i=>if i=r then κ s else if i=s then κ r else κ i) (swp A r s):=by
 obtain⟨hs,h1,h2,h3⟩:=o.hh;have hN:=o.le;have hl:=o.hlo;have hmk:=o.mle;have b1:=heap_set h1 r (.slice (some ⟨β s,0,none⟩) n (κ s));have b2:=heap_set b1 s (.slice (some ⟨β r,0,none⟩) n (κ r));have U:Upd h w ((w.setCell ⟨h,r,none⟩ (.slice (some ⟨β s,0,none⟩) n (κ s))).setCell ⟨h,s,none⟩ (.slice (some ⟨β r,0,none⟩) n (κ r))):=((Upd.refl h w).set r _).set s _;have c:=U.chg o.noU;refine⟨_,rfl,c,U.size,o.le,⟨_,b2,by simp[h2],fun i hi'=>?_⟩,o.mle,o.hlo,o.hhi,q_l o.his c.size,?_,?_,?_,?_,?_⟩
 ·by_cases e1:i=s
  ·subst e1;rw[Array.getElem?_setIfInBounds_self_of_lt (by simp;omega)]
   by_cases e2:i=r
   ·subst e2;simp
   ·simp[e2]
  ·rw[Array.getElem?_setIfInBounds_ne (by omega)]
   by_cases e2:i=r
   ·subst e2;rw[Array.getElem?_setIfInBounds_self_of_lt (by omega)];simp
   ·rw[Array.getElem?_setIfInBounds_ne (by omega),h3 i hi'];simp[e1,e2]
 ·intro i hi';try dsimp only
  split
  ·exact o.lo_ s hs'
  ·split
   ·exact o.lo_ r hr
   ·exact o.lo_ i hi'
 ·intro i hi';try dsimp only
  split
  ·exact o.hi_ s hs'
  ·split
   ·exact o.hi_ r hr
   ·exact o.hi_ i hi'
 ·intro i hi';try dsimp only
  split
  ·exact o.cap s hs'
  ·split
   ·exact o.cap r hr
   ·exact o.cap i hi'
 ·intro i hi';have hrow:∀j,j<m->kS N _ (β j) (κ j) n (A j):=fun j hj=>(o.row j hj).chg c (by omega) (by have:=o.ne hj;omega)
  try dsimp only
  by_cases e1:i=r
  ·simp only[e1,if_true];exact (hrow s hs').congr (fun j _=>by simp[swp])
  ·simp only[e1,if_false]
   by_cases e2:i=s
   ·simp only[e2,if_true];exact (hrow r hr).congr (fun j _=>by subst e2;simp[swp,e1])
   ·simp only[e2,if_false];exact (hrow i hi').congr (fun j _=>by simp[swp,e1,e2])
 ·intro i j hi' hj' hij
  have hσ:∀i,(if i=r then β s else if i=s then β r else β i)=β (if i=r then s else if i=s then r else i):=by
   intro i
   by_cases e1:i=r
   ·simp only[e1,if_true]
   ·by_cases e2:i=s
    ·simp only[e1,e2,if_true,if_false]
     by_cases e3:s=r<;>simp[e3]
    ·simp only[e1,e2,if_false]
  simp only[hσ];refine o.inj _ _ ?_ ?_ ?_
  ·split
   ·exact hs'
   ·split
    ·exact hr
    ·exact hi'
  ·split
   ·exact hs'
   ·split
    ·exact hr
    ·exact hj'
  ·split<;>split<;>(try split)<;>(try split)<;>omega
end
end
end Go.Proofs.YtflhlobiipejeaaGreat
