import Derived.Test.YtphpkhoeplcedaaGreatWoi03
set_option linter.all false
set_option maxHeartbeats 8000000
namespace Go.Proofs.YtphpkhoeplcedaaGreat
open Go.RowKit
variable {w w':World} {N g:Nat} {v:Value} {S:Sta}
def nulG:Grd:=⟨0,0,0,0,0,0,fun _=>0⟩
theorem q66:Ze N 0 0 w (.agg #[.int .i64 0,.int .i64 0,.int .i64 0,.int .i64 0,.int .i64 0,.slice none 0 0]) nulG :=
 ⟨_,rfl,rfl,none,0,rfl,q_r,Nat.zero_le _,fun h=>absurd h (by decide)⟩
theorem q69 {R:Nat->Raw} (h:q1E nulG 3 R=true):∀ i,i < 3->Qc (R i)=true:=by
 unfold q1E at h;rw [Bool.and_eq_true] at h;exact fun i hi=>xe.1 h.2 i hi
theorem q5q.form {R:Nat->Raw} {e:Ending} (h:q5q N w S R e w'):∃ (b1:Bool) (A1:Option Addr) (n1 c1:Nat) (b2:Bool) (A2:Option Addr) (n2 c2:Nat) (b3:Bool) (A3:Option Addr) (n3 c3:Nat) (b4:Bool) (A4:Option Addr) (n4 c4:Nat),
  e=.returned (.tuple #[.agg #[.bool b1,.slice A1 n1 c1,.bool b2,.slice A2 n2 c2,.bool b3,.slice A3 n3 c3,.bool b4,.slice A4 n4 c4],.int .i64 (imC S R)]) /\
  (imC S R=0->qp N w' (.agg #[.bool b1,.slice A1 n1 c1,.bool b2,.slice A2 n2 c2]) (q0H S (ptR R))/\qp N w' (.agg #[.bool b3,.slice A3 n3 c3,.bool b4,.slice A4 n4 c4]) (q0G S (ptR R))) /\
  (imC S R≠0->Value.agg #[.bool b1,.slice A1 n1 c1,.bool b2,.slice A2 n2 c2]=.agg #[.bool false,.slice none 0 0,.bool false,.slice none 0 0]/\Value.agg #[.bool b3,.slice A3 n3 c3,.bool b4,.slice A4 n4 c4]=.agg #[.bool false,.slice none 0 0,.bool false,.slice none 0 0])/\Ext w w':=by
 obtain⟨v,rfl,h0,h1,e⟩:=h
 by_cases hc:imC S R=0
 ·obtain⟨I1,i1,c1',I2,i2,c2',I3,i3,c3',I4,i4,c4',rfl,hx,hy⟩:=PlV.parts (h0 hc);exact⟨_,_,_,_,_,_,_,_,_,_,_,_,_,_,_,_,rfl,fun _=>⟨hx,hy⟩,fun h=>absurd hc h,e⟩
 ·rw [h1 hc];exact⟨_,_,_,_,_,_,_,_,_,_,_,_,_,_,_,_,rfl,fun h=>absurd h hc,fun _=>⟨rfl,rfl⟩,e⟩
theorem ex8 {t:TypeId} {y0 y1 y2 y3 y4 y5 y6 y7:Value} (hb:w.heap[g]?=some (.cells #[y0,y1,y2,y3,y4,y5,y6,y7] t (0,0))) (x0 x1 x2 x3 x4 x5 x6 x7:Value) :
  ∃ w1,(((((((w.setCell ⟨g,0,none⟩ x0).setCell ⟨g,1,none⟩ x1).setCell ⟨g,2,none⟩ x2).setCell ⟨g,3,none⟩ x3).setCell ⟨g,4,none⟩ x4).setCell ⟨g,5,none⟩ x5).setCell ⟨g,6,none⟩ x6).setCell ⟨g,7,none⟩ x7=w1/\w1.heap[g]?=some (.cells #[x0,x1,x2,x3,x4,x5,x6,x7] t (0,0))/\Upd g w w1:=by
 refine⟨_,rfl,?_,(((((((Upd.refl g w).set 0 x0).set 1 x1).set 2 x2).set 3 x3).set 4 x4).set 5 x5).set 6 x6 |>.set 7 x7⟩;have h1:=heap_set (heap_set (heap_set (heap_set (heap_set (heap_set (heap_set (heap_set hb 0 x0) 1 x1) 2 x2) 3 x3) 4 x4) 5 x5) 6 x6) 7 x7;simpa using h1
theorem q5Y {t:TypeId} {x0 x1 x2 x3 x4 x5 x6 x7:Value} (h:w.heap[g]?=some (.cells #[x0,x1,x2,x3,x4,x5,x6,x7] t (0,0))):w.frozen? ⟨g,0,none⟩=false/\w.frozen? ⟨g,1,none⟩=false/\w.frozen? ⟨g,2,none⟩=false/\w.frozen? ⟨g,3,none⟩=false/\w.frozen? ⟨g,4,none⟩=false/\w.frozen? ⟨g,5,none⟩=false/\w.frozen? ⟨g,6,none⟩=false/\w.frozen? ⟨g,7,none⟩=false:=by
 refine⟨?_,?_,?_,?_,?_,?_,?_,?_⟩ <;> exact zB h _
theorem q68 {R:Nat->Raw} (h:xJ S≠0):imC S R=xJ S:=by unfold imC; rw [if_neg h]
theorem q67 {R:Nat->Raw} (h:xJ S=0) (hb:allB 3 (fun i=>okR (R i))=false):imC S R=1:=by unfold imC; rw [if_pos h,hb,if_neg (by decide)]
theorem q5X {R:Nat->Raw} (h:xJ S=0) (hb:allB 3 (fun i=>okR (R i))=true):imC S R=if 0 < dS S (ptR R) 2 3 then 0 else 20:=by unfold imC; rw [if_pos h,hb,if_pos rfl]
theorem q5S {R:Nat->Raw} (h:imC S R=0):KZ S/\(∀ i,i < 3->okR (R i)=true)/\0 < dS S (ptR R) 2 3:=by
 unfold imC at h
 by_cases h1:xJ S=0
 ·rw [if_pos h1] at h
  by_cases h2:allB 3 (fun i=>okR (R i))=true
  ·rw [if_pos h2] at h
   by_cases h3:0 < dS S (ptR R) 2 3
   ·exact⟨q5N h1,xe.1 h2,h3⟩
   ·rw [if_neg h3] at h; exact absurd h (by decide)
  ·rw [if_neg h2] at h; exact absurd h (by decide)
 ·rw [if_neg h1] at h; exact absurd h h1
def q60 (N:Nat) (w:World) (x y:Rat) (e:Ending) (w':World):Prop:=∃ v,e=.returned (.tuple #[v,.int .i64 0])/\PlV N w' v (raw x) (raw y)/\Ext w w'
def Mn.plc (N:Nat) (x y:Rat):Mn:=⟨fun v w=>∃ u,v=.tuple #[u,.int .i64 0]/\PlV N w u (raw x) (raw y),fun e h=>by
 obtain⟨u,h0,h1⟩:=h
 exact⟨u,h0,(Mn.pl N x y).2 e h1⟩⟩
theorem q5Q {p:Nat->Rat} (h:∃ cs:Array Value,v=.agg cs/\cs.size=12/\cs.toList.all (·.oneCell')=true/\PtV N w cs 0 p) (hS:xJ S=0) (hk:∀ i,i < 3->Ht 200 (p i)) (hf:0 < dS S p 2 3) (hN:N<=w.heap.size) :
  Calls Tryz.prog 27 #[S.v,v] w (q60 N w (q0H S p) (q0G S p)):=by
 obtain⟨cs,rfl,h1,h2,h3⟩:=h;have e:ptR (fun i=>raw (p i))=p:=funext fun i=>q5p _
 refine (q5I (R:=fun i=>raw (p i)) ⟨h3,h1,h2⟩ (fun i hi=>zW ((hk i hi).sz (by decide))) (fun i hi _=>by rw [q5p]; exact hk i hi) hN).mono ?_;rintro e9 w9 ⟨u,rfl,h4,-,h6⟩
 have hc:imC S (fun i=>raw (p i))=0:=by
  rw [q5X hS (xe.2 fun i _=>kT _),e,if_pos hf]
 rw [hc];rw [e] at h4;exact⟨u,rfl,h4 hc,h6⟩
def spP (X Y Z:Int) (k:Nat):Int:=if k=0 then X else if k=1 then Y else Z
theorem q5R {X Y Z:Int} (h:ntC S (spP X Y Z)=0):xJ S=0/\(-1048576<=X/\X<=1048576)/\(-1048576<=Y/\Y<=1048576)/\(-1048576<=Z/\Z<=1048576):=by
 unfold ntC at h
 by_cases h1:xJ S=0
 ·rw [if_pos h1] at h;unfold ptC at h;cases h2:jf 3 (fun i=>zo (spP X Y Z i)) with
  | true=>rw [h2,if_pos rfl] at h; exact absurd h (by decide)
  | false =>
   have h3:=kD.1 h2;exact⟨h1,q5m (h3 0 (by decide)),q5m (h3 1 (by decide)),q5m (h3 2 (by decide))⟩
 ·rw [if_neg h1] at h; exact absurd h h1
theorem q61 (X Y Z:Int):(fun j=>((spP X Y Z j:Int):Rat))=sp3 X Y Z:=by
 funext j
 unfold spP sp3
 split
 ·rfl
 ·split <;> rfl
theorem q0B.chg' {gs gp go:Nat} {P:Nat->Int} (h:q0B w gs gp go S P) (C:Chg g (g+1) w w') (h1:g < gs) (h2:g < gp) (h3:g < go):q0B w' gs gp go S P:=by
 obtain⟨⟨s0,s1,s2,s3,s4,s5,s6,s7,s8,s9⟩,p0,p1,p2,o0,o1,o2,o3,o4,o5,o6⟩:=h;exact⟨⟨C.cell s0 (.inr h1),C.cell s1 (.inr h1),C.cell s2 (.inr h1),C.cell s3 (.inr h1),C.cell s4 (.inr h1),C.cell s5 (.inr h1),C.cell s6 (.inr h1),C.cell s7 (.inr h1),C.cell s8 (.inr h1),C.cell s9 (.inr h1)⟩,C.cell p0 (.inr h2),C.cell p1 (.inr h2),C.cell p2 (.inr h2),C.cell o0 (.inr h3),C.cell o1 (.inr h3),C.cell o2 (.inr h3),C.cell o3 (.inr h3),C.cell o4 (.inr h3),C.cell o5 (.inr h3),C.cell o6 (.inr h3)⟩
theorem q0B.chg {gs gp go:Nat} {P:Nat->Int} (h:q0B w gs gp go S P) (C:Chg g (g+1) w w') (h1:gs < g) (h2:gp < g) (h3:go < g):q0B w' gs gp go S P:=by
 obtain⟨⟨s0,s1,s2,s3,s4,s5,s6,s7,s8,s9⟩,p0,p1,p2,o0,o1,o2,o3,o4,o5,o6⟩:=h;exact⟨⟨C.cell s0 (.inl h1),C.cell s1 (.inl h1),C.cell s2 (.inl h1),C.cell s3 (.inl h1),C.cell s4 (.inl h1),C.cell s5 (.inl h1),C.cell s6 (.inl h1),C.cell s7 (.inl h1),C.cell s8 (.inl h1),C.cell s9 (.inl h1)⟩,C.cell p0 (.inl h2),C.cell p1 (.inl h2),C.cell p2 (.inl h2),C.cell o0 (.inl h3),C.cell o1 (.inl h3),C.cell o2 (.inl h3),C.cell o3 (.inl h3),C.cell o4 (.inl h3),C.cell o5 (.inl h3),C.cell o6 (.inl h3)⟩
set_option maxRecDepth 100000 in
theorem q5B {cp:Array Value} {R:Nat->Raw} {X Y Z:Int} (hp:PtA N w cp R) (hN:N<=w.heap.size) :
  Calls Tryz.prog 7 #[S.v,.agg cp,.agg #[.int .i64 X,.int .i64 Y,.int .i64 Z]] w (zG w (.bool true)):=by
 have HP:=q_h hp;have HZ:Hid (cp.size=12):=hp.size;have HIMG:Hid (∀ w':World,Ext w w'->(∀ i,i < 3->Q3 (R i))->(∀ i,i < 3->okR (R i)=true->Ht 200 (q5u (R i)))->Calls Tryz.prog 27 #[S.v,.agg cp] w' (q5q N w' S R)):=fun w' e h1 h2=>q5I (HP.out.ext e) h1 h2 (q_l hN e.size)
 have HST:Hid (∀ w:World,Calls Tryz.prog 28 #[.int .i64 3,S.v] w (zG w (.int .i64 (xJ S)))):=fun w=>q2T S
 unfold Sta.v at HIMG HST ⊢;clear hp;go_enter Tryz.func7,Tryz.ntmps7;go_upto_region 1 with (fail);refine zK ?_;intro W0 hE hsz B3 B4 B5;obtain⟨g4,hg4⟩:=qf (w.heap.size+1);have hg4':w.heap.size < g4:=by rw [hg4.out]; omega
 rw [<-hg4.out] at B4 B5 ⊢;obtain⟨g5,hg5⟩:=qf (g4+1);have hg5':g4 < g5:=by rw [hg5.out]; omega
 rw [<-hg5.out] at B5 ⊢;obtain⟨g3,hg3⟩:=qf w.heap.size;have hg3':w.heap.size<=g3:=by rw [hg3.out]; exact q_r
 rw [<-hg3.out] at B3 ⊢;have hg34:g3 < g4:=by rw [hg3.out]; exact hg4'
 clear hg3 hg4 hg5 hsz;go_wp2_with (go_at_call 10; refine q_o ?_);refine (q4o).mono ?_;rintro e w1 ⟨rfl,e1⟩;replace B3:=(e1).block B3;replace B4:=(e1).block B4;replace B5:=(e1).block B5;replace hE:=hE.trans e1;have hN1:N<=w1.heap.size:=by have:=hE.size; omega
 obtain⟨fw,hfw⟩:=qf (q1E nulG 3 R);have hL1:=q_h ((HP.out.ext hE).ls hN1 B4);go_wp2_with (go_at_call 11; refine q_o ?_);refine (l49_few q66 hL1.out).mono ?_;rw [<-hfw.out];rintro e w2 ⟨rfl,e2⟩;replace B3:=(e2).block B3;replace B4:=(e2).block B4;replace B5:=(e2).block B5;replace hE:=hE.trans e2;clear e1 e2 hL1 hN1;cases fw with
 | false =>
  go_wp2;go_ret;exact⟨rfl,hE⟩
 | true =>
 have HBR:=q_h (q69 hfw.out.symm);have HRS:Hid (∀ i,i < 3->Q3 (R i)):=fun i hi=>(q5L (HBR.out i hi)).1
 have HRH:Hid (∀ i,i < 3->okR (R i)=true->Ht 200 (q5u (R i))):=fun i hi ho=>(q5V (by rw [<-q5t ho]; exact HBR.out i hi)).mono (by decide)
 clear hfw;obtain⟨sc,hsc⟩:=qf (xJ S);obtain⟨bc,hbc⟩:=qf (allB 3 (fun i=>okR (R i)));obtain⟨s0,s1,s2,s3,s4,s5,s6,s7,s8,s9⟩:=zD B3;go_upto_region 5 with (fail);refine wp_region_lit ?_;refine wpList_plain rfl (fun K hK=>?_);go_simp;refine hK _ _ ?_;clear hK K;try simp only [nr]
 refine wpList_load_row rfl 43 _ rfl _ (by rfl) _ cp _ _ B4 Tryz.underlying43 rfl (by rw [HZ.out]; exact kJ) ?_;try simp only [nr]
 go_wp2_with (go_at_call 27; refine q_o ?_);refine (HIMG.out w2 hE HRS.out HRH.out).mono ?_;intro e w3 hh;obtain⟨b1,A1,n1,c1,b2,A2,n2,c2,b3,A3,n3,c3,b4,A4,n4,c4,rfl,hq0,hqn,e3⟩:=hh.form;obtain⟨k,hk⟩:=qf (imC S R);rw [<-hk.out] at hq0 hqn ⊢;have HQ0:=q_h hq0;have HQN:=q_h hqn;replace B3:=(e3).block B3;replace B4:=(e3).block B4;replace B5:=(e3).block B5;replace hE:=hE.trans e3;clear hq0 hqn hh HIMG;clear s0 s1 s2 s3 s4 s5 s6 s7 s8 s9;go_upto_region 6 with (fail);refine ql ?_;intro w4 e4 hsz4 BQ;obtain⟨gQ,hgQ⟩:=qf w3.heap.size;have hgQ':w.heap.size<=gQ:=by have:=hE.size; rw [hgQ.out]; exact this
 rw [<-hgQ.out] at BQ ⊢;replace B3:=(e4).block B3;replace B4:=(e4).block B4;replace B5:=(e4).block B5;replace hE:=hE.trans e4;have HQ4:Hid (k=0->qp N w4 (.agg #[.bool b1,.slice A1 n1 c1,.bool b2,.slice A2 n2 c2]) (q0H S (ptR R))/\qp N w4 (.agg #[.bool b3,.slice A3 n3 c3,.bool b4,.slice A4 n4 c4]) (q0G S (ptR R))):=fun h=>⟨(HQ0.out h).1.ext e4,(HQ0.out h).2.ext e4⟩
 clear HQ0 e3 e4 hgQ hsz4;obtain⟨s0,s1,s2,s3,s4,s5,s6,s7,s8,s9⟩:=zD B3;go_wp2_with (go_at_call 28; refine q_o ?_);refine (HST.out _).mono ?_;rw [<-hsc.out];rintro e w5 ⟨rfl,e5⟩;clear s0 s1 s2 s3 s4 s5 s6 s7 s8 s9;replace B3:=(e5).block B3;replace B4:=(e5).block B4;replace B5:=(e5).block B5;replace hE:=hE.trans e5;replace BQ:=e5.block BQ;have HQ5:Hid (k=0->qp N w5 (.agg #[.bool b1,.slice A1 n1 c1,.bool b2,.slice A2 n2 c2]) (q0H S (ptR R))/\qp N w5 (.agg #[.bool b3,.slice A3 n3 c3,.bool b4,.slice A4 n4 c4]) (q0G S (ptR R))):=fun h=>⟨(HQ4.out h).1.ext e5,(HQ4.out h).2.ext e5⟩
 clear e5 HQ4;have hN5:N<=w5.heap.size:=by have:=hE.size; omega
 obtain⟨tf,htf⟩:=qf (decide (sc=0/\bc=false));go_upto_region 7 with (fail)
 go_cut [35] (fun sv wx=>sv=.bool tf/\Ext w5 wx)
 case first =>
  by_cases h0:sc=0
  ·subst h0;have hL5:=q_h ((HP.out.ext hE).ls hN5 B4);go_wp2_with (go_at_call 29; refine q_o ?_);refine (q2g hL5.out HRS.out).mono ?_;rw [<-hbc.out];rintro e w6 ⟨rfl,e6⟩;have HT:Hid (tf=!bc):=by rw [Hid,htf.out]; cases bc <;> rfl
   clear htf hL5;go_wp2
   go_meet
   exact⟨by rw [HT.out],e6⟩
  ·have t0:(sc == 0)=false:=by simpa using h0
   have HT:Hid (tf=false):=by rw [Hid,htf.out]; exact decide_eq_false fun h=>h0 h.1
   clear htf h0;go_wp2
   go_meet
   exact⟨by rw [HT.out],Ext.refl _⟩
 obtain⟨rfl,e6⟩:=hcut;obtain⟨w6,hwx⟩:∃ w6,w6=wc:=⟨_,rfl⟩
 subst hwx;replace B3:=(e6).block B3;replace B4:=(e6).block B4;replace B5:=(e6).block B5;replace hE:=hE.trans e6;replace BQ:=e6.block BQ;have HQ6:Hid (k=0->qp N w6 (.agg #[.bool b1,.slice A1 n1 c1,.bool b2,.slice A2 n2 c2]) (q0H S (ptR R))/\qp N w6 (.agg #[.bool b3,.slice A3 n3 c3,.bool b4,.slice A4 n4 c4]) (q0G S (ptR R))):=fun h=>⟨(HQ5.out h).1.ext e6,(HQ5.out h).2.ext e6⟩
 clear e6 HQ5 hN5;obtain⟨c,hc⟩:=qf (if tf=true then 1 else sc)
 go_upto_if 35 with (fail)
 go_cut [9] (fun sv wx=>sv=.int .i64 c/\wx=w6)
 case first =>
  cases tf with
  | true =>
   go_wp2
   go_meet
   exact⟨by rw [hc.out]; rfl,rfl⟩
  | false =>
   go_wp2
   go_meet
   exact⟨by rw [hc.out]; rfl,rfl⟩
 obtain⟨rfl,rfl⟩:=hcut;obtain⟨w7,hwx⟩:∃ w7,w7=wc:=⟨_,rfl⟩
 subst hwx
 have HC:Hid (c=if sc=0/\bc=false then 1 else sc):=by
  rw [Hid,hc.out,htf.out]
  by_cases h:sc=0/\bc=false
  ·rw [if_pos h,if_pos (q_t h)]
  ·rw [if_neg h,if_neg (by simpa using h)]
 clear hc htf;go_upto_region 10 with (fail);refine ql ?_;intro w8 e8 hsz8 BW;obtain⟨gW,hgW⟩:=qf w7.heap.size;have hgW':gQ < gW/\g5 < gW:=by have:=qI BQ; have:=qI B5; rw [hgW.out]; exact⟨by omega,by omega⟩
 rw [<-hgW.out] at BW ⊢;replace B3:=(e8).block B3;replace B4:=(e8).block B4;replace B5:=(e8).block B5;replace hE:=hE.trans e8;replace BQ:=e8.block BQ;have HQ8:Hid (k=0->qp N w8 (.agg #[.bool b1,.slice A1 n1 c1,.bool b2,.slice A2 n2 c2]) (q0H S (ptR R))/\qp N w8 (.agg #[.bool b3,.slice A3 n3 c3,.bool b4,.slice A4 n4 c4]) (q0G S (ptR R))):=fun h=>⟨(HQ6.out h).1.ext e8,(HQ6.out h).2.ext e8⟩
 have hN8:N<=w8.heap.size:=by have:=hE.size; omega
 clear e8 HQ6 hgW hsz8
 go_upto_if 38 with (fail)
 go_cut [9] (fun sv wx=>sv=.int .i64 k/\Chg gW (gW+1) w8 wx/\∃ y0 y1 y2 y3 y4 y5 y6 y7:Value,wx.heap[gW]?=some (.cells #[y0,y1,y2,y3,y4,y5,y6,y7] 31 (0,0))/\Hid (k=0->qp N wx (.agg #[y0,y1,y2,y3]) (q0H S (ptR R))/\qp N wx (.agg #[y4,y5,y6,y7]) (q0G S (ptR R))))
 case first =>
  by_cases h0:sc=0/\bc=true
  case neg =>
   have hkc:k=c/\k≠0:=by
    by_cases h1:sc=0
    ·have h2:bc=false:=by
      cases bc with
      | false=>rfl
      | true=>exact absurd ⟨h1,rfl⟩ h0
     have h3:k=1:=by rw [hk.out]; exact q67 (by rw [<-hsc.out]; exact h1) (by rw [<-hbc.out]; exact h2)
     rw [HC.out,if_pos ⟨h1,h2⟩,h3];exact⟨rfl,by decide⟩
    ·have h3:k=sc:=by rw [hk.out,hsc.out]; exact q68 (by rw [<-hsc.out]; exact h1)
     rw [HC.out,if_neg (fun h=>h1 h.1),h3];exact⟨rfl,h1⟩
   obtain⟨hk1,hk2⟩:=hkc;have t0:(c == 0)=false:=by rw [<-hk1]; simpa using hk2
   have HK1:=q_h hk1;have HK2:=q_h hk2;clear hk1 hk2 h0;go_wp2
   go_meet
   exact⟨by rw [HK1.out],Chg.refl _ _ _,_,_,_,_,_,_,_,_,BW,fun h=>absurd h HK2.out⟩
  obtain⟨h1,h2⟩:=h0;have hc0:c=0:=by rw [HC.out,if_neg (by rw [h2]; simp),h1]
  have HKK:Hid (k=if 0 < dS S (ptR R) 2 3 then 0 else 20):=by rw [Hid,hk.out]; exact q5X (by rw [<-hsc.out]; exact h1) (by rw [<-hbc.out]; exact h2)
  have HPV:=q_h ((HP.out.ptv (by rw [<-hbc.out]; exact h2)).ext hE);have HOK:Hid (KZ S):=q5N (by rw [<-hsc.out]; exact h1);have HPH:Hid (∀ i,i < 3->Ht 200 (ptR R i)):=fun i hi=>HRH.out i hi (xe.1 (by rw [<-hbc.out]; exact h2) i hi)
  subst hc0;clear HC h1 h2;obtain⟨s0,s1,s2,s3,s4,s5,s6,s7,s8,s9⟩:=zD B3;go_upto_region 11 with (fail);refine wp_region_lit ?_;refine wpList_plain rfl (fun K hK=>?_);go_simp;refine hK _ _ ?_;clear hK K;try simp only [nr]
  refine wpList_load_row rfl 43 _ rfl _ (by rfl) _ cp _ _ B4 Tryz.underlying43 rfl (by rw [HZ.out]; exact kJ) ?_;try simp only [nr]
  go_wp2_with (go_at_call 30; refine q_o ?_);refine (q4p (S:=S) HOK.out HZ.out HPV.out HPH.out (q_r) hN8).mono ?_;rintro e w9 ⟨vi,rfl,hpl,hnl,e9⟩;clear s0 s1 s2 s3 s4 s5 s6 s7 s8 s9;replace BW:=e9.block BW;obtain⟨v0,v1,v2,v3,v4,v5,v6,v7⟩:=Zv BW;obtain⟨f0,f1,f2,f3,f4,f5,f6,f7⟩:=q5Y BW
  by_cases hf:0 < dS S (ptR R) 2 3
  ·obtain⟨I1,i1,d1,I2,i2,d2,I3,i3,d3,I4,i4,d4,rfl,hkx,hky⟩:=PlV.parts (hpl hf);rw [if_pos hf] at HKK ⊢;have HKX:=q_h hkx;have HKY:=q_h hky;clear hpl hnl hf hkx hky;go_wp2;obtain⟨w10,E10,D10,U10⟩:=ex8 BW (.bool (raw (q0H S (ptR R))).b1) (.slice I1 i1 d1) (.bool (raw (q0H S (ptR R))).b2) (.slice I2 i2 d2) (.bool (raw (q0G S (ptR R))).b1) (.slice I3 i3 d3) (.bool (raw (q0G S (ptR R))).b2) (.slice I4 i4 d4);rw [E10];have hT:=NoU.mk BW (by decide);have hg9:N<=gW:=by omega
   have hX:=HKX.out.upd U10 hg9 hT;have hY:=HKY.out.upd U10 hg9 hT;have C10:=(e9.chg gW (gW+1)).trans (U10.chg hT)
   go_meet
   exact⟨by rw [HKK.out],C10,_,_,_,_,_,_,_,_,D10,fun _=>⟨hX,hY⟩⟩
  ·obtain rfl:=hnl hf;rw [if_neg hf] at HKK ⊢;have HK2:Hid (k≠0):=by rw [Hid,HKK.out]; decide
   clear hpl hnl hf;go_wp2;obtain⟨w10,E10,D10,U10⟩:=ex8 BW (.bool false) (.slice none 0 0) (.bool false) (.slice none 0 0) (.bool false) (.slice none 0 0) (.bool false) (.slice none 0 0);rw [E10];have C10:=(e9.chg gW (gW+1)).trans (U10.chg (NoU.mk BW (by decide)))
   go_meet
   exact⟨by rw [HKK.out],C10,_,_,_,_,_,_,_,_,D10,fun h=>absurd h HK2.out⟩
 obtain⟨rfl,C9,y0,y1,y2,y3,y4,y5,y6,y7,BW9,HW9⟩:=hcut;obtain⟨w9,hwx⟩:∃ w9,w9=wc:=⟨_,rfl⟩
 subst hwx;have hQ9:Hid (k=0->qp N w9 (.agg #[.bool b1,.slice A1 n1 c1,.bool b2,.slice A2 n2 c2]) (q0H S (ptR R))/\qp N w9 (.agg #[.bool b3,.slice A3 n3 c3,.bool b4,.slice A4 n4 c4]) (q0G S (ptR R))):=fun h=>⟨xy.chg (HQ8.out h).1 C9 (by omega),xy.chg (HQ8.out h).2 C9 (by omega)⟩
 replace B3:=C9.blk B3 (.inl (by omega));replace B4:=C9.blk B4 (.inl (by omega));replace B5:=C9.blk B5 (.inl (by omega));replace BQ:=C9.blk BQ (.inl (by omega));replace hE:=C9.ext hE (by omega);clear HQ8 hN8 BW C9 HC hbc;have hN9:N<=w9.heap.size:=by have:=hE.size; omega
 have t1:(k != k)=false:=by simp
 go_upto_if 49 with (fail)
 go_cut [] (fun wx=>Ext w9 wx)
 case first =>
  by_cases h0:k=0
  ·obtain⟨h1,h2,h3⟩:=q5S (S:=S) (R:=R) (by rw [<-hk.out]; exact h0);have hh:=q5W h1 (K:=200) (fun i hi=>HRH.out i hi (h2 i hi));have HSX:Hid (Sz (q0H S (ptR R))/\Sz (q0G S (ptR R))):=⟨hh.1.sz (by decide),hh.2.sz (by decide)⟩
   obtain⟨hX,hY⟩:=hQ9 h0;obtain⟨hX',hY'⟩:=HW9.out h0;have HX:=q_h hX;have HY:=q_h hY;have HX':=q_h hX';have HY':=q_h hY';have t2:(k != 0)=false:=by simp [h0]
   obtain⟨v0,v1,v2,v3,v4,v5,v6,v7⟩:=Zv BQ;obtain⟨z0,z1,z2,z3,z4,z5,z6,z7⟩:=Zv BW9;clear hX hY hX' hY' h0 h1 h2 h3 hh hQ9 HQN hk;go_wp2_with (go_at_call 15; refine q_o ?_);refine (q2U HX.out HX'.out HSX.out.1 rfl).mono ?_;rintro e wA ⟨rfl,eA⟩;clear v0 v1 v2 v3 v4 v5 v6 v7 z0 z1 z2 z3 z4 z5 z6 z7;obtain⟨v0,v1,v2,v3,v4,v5,v6,v7⟩:=Zv (eA.block BQ);obtain⟨z0,z1,z2,z3,z4,z5,z6,z7⟩:=Zv (eA.block BW9);go_wp2_with (go_at_call 15; refine q_o ?_);refine (q2U (HY.out.ext eA) (HY'.out.ext eA) HSX.out.2 rfl).mono ?_;rintro e wB ⟨rfl,eB⟩;go_wp2
   go_meet
   exact eA.trans eB
  ·obtain⟨e1,e2⟩:=HQN.out h0;simp only [Value.agg.injEq,Array.mk.injEq,List.cons.injEq,Value.bool.injEq,Value.slice.injEq,and_true] at e1 e2;obtain⟨rfl,⟨rfl,rfl,rfl⟩,rfl,rfl,rfl,rfl⟩:=e1;obtain⟨rfl,⟨rfl,rfl,rfl⟩,rfl,rfl,rfl,rfl⟩:=e2;have t2:(k != 0)=true:=by simpa using h0
   obtain⟨v0,v1,v2,v3,v4,v5,v6,v7⟩:=Zv BQ;clear h0 hQ9 HQN hk HW9 BW9;go_wp2_with (go_at_call 16; refine q_o ?_);refine (q5H).mono ?_;rintro e wA ⟨rfl,eA⟩;clear v0 v1 v2 v3 v4 v5 v6 v7;obtain⟨v0,v1,v2,v3,v4,v5,v6,v7⟩:=Zv (eA.block BQ);go_wp2_with (go_at_call 16; refine q_o ?_);refine (q5H).mono ?_;rintro e wB ⟨rfl,eB⟩;go_wp2
   go_meet
   exact eA.trans eB
 obtain⟨wA,hwx⟩:∃ wA,wA=wc:=⟨_,rfl⟩
 subst hwx;replace B3:=hcut.block B3;replace B5:=hcut.block B5;replace BQ:=hcut.block BQ;replace hE:=hE.trans hcut;clear hcut hQ9 HQN HW9 hN9 BW9 B4 hsc hk t1 HP HZ HRS HRH HBR HST;obtain⟨s0,s1,s2,s3,s4,s5,s6,s7,s8,s9⟩:=zD B3;obtain⟨p0,p1,p2,-⟩:=cells3 B5;have hl5:g5 < wA.heap.size:=qI B5;go_upto_region 20 with (fail);refine Zx ?_;intro wB eB hszB C0 C1 C2 C3;obtain⟨gs,hgs⟩:=qf wA.heap.size;have hgs':w.heap.size<=gs:=by rw [hgs.out]; exact hE.size
 have hgs2:gQ < gs:=by rw [hgs.out]; exact qI BQ
 rw [<-hgs.out] at C0 C1 C2 C3 hszB ⊢;clear s0 s1 s2 s3 s4 s5 s6 s7 s8 s9 p0 p1 p2 hgs
 have HNB:Hid (q0B wB gs (gs+1) (gs+1+1) S (spP X Y Z)):=by
  obtain⟨s0,s1,s2,s3,s4,s5,s6,s7,s8,s9⟩:=zD C0;obtain⟨p0,p1,p2,-⟩:=cells3 C1;obtain⟨o0,o1,o2,o3,o4,o5,o6⟩:=kC C2;exact⟨⟨s0,s1,s2,s3,s4,s5,s6,s7,s8,s9⟩,p0,p1,p2,o0,o1,o2,o3,o4,o5,o6⟩
 replace B3:=eB.block B3;replace B5:=eB.block B5;replace BQ:=eB.block BQ;replace hE:=hE.trans eB;have hNB:N<=wB.heap.size:=by have:=hE.size; omega
 clear eB C0 C1 C2;go_wp2_with (at_make; refine q_o ?_);refine q5o rfl _ _ rfl .i64 .i64 _ _ 9 rfl rfl rfl rfl (by decide) ?_;intro wC csC BC hcsC eC;obtain⟨gX,hgX⟩:=qf wB.heap.size
 have hgX':gs+1+1+1 < gX/\N<=gX/\gQ < gX/\g5 < gX:=by
  have:=qI BQ;have:=qI B5;rw [hgX.out];exact⟨by omega,hNB,by omega,by omega⟩
 rw [<-hgX.out] at BC ⊢;have hR:xG N wC gX 9 0 (fun _=>0):=⟨by omega,Nat.zero_le _,⟨csC,BC,hcsC⟩,fun j hj=>by omega⟩
 replace B3:=eC.block B3;replace B5:=eC.block B5;replace BQ:=eC.block BQ;replace C3:=eC.block C3;replace HNB:=q_h (HNB.out.ext eC);replace hE:=hE.trans eC;clear eC BC hcsC hgX hNB hszB;go_wp2_with fail
 go_loopw [84] (fun iv wr=>∃ j:Nat,j<=9/\iv=.int .i64 (j:Int)/\xG N wr gX 9 j (fun _=>0)/\Chg gX (gX+1) wC wr) (fun iv _=>9 - (intOf iv).toNat)
 case atStart=>exact⟨0,Nat.zero_le _,rfl,hR,Chg.refl _ _ _⟩
 case round =>
  clear hR;obtain⟨j,hj,rfl,hR,hC⟩:=hrel
  by_cases hlt:j < 9
  case pos =>
   have t1:decide ((j:Int) < 9)=true:=q_t (by omega);have t2:(j:Int) < 9:=by omega
   obtain⟨wq,hwq⟩:∃ wq,wq=wr:=⟨_,rfl⟩
   subst hwq;go_wp2_with (go_at_call 31; refine q_o ?_);refine (Ym (N:=N) (by have:=hE.size; have:=hC.size; omega) 0 (by omega) (by omega)).mono ?_;intro e w5 hh;obtain⟨b9,A9,k9,c9,A10,k10,c10,rfl,hb9,g9,g10,e5⟩:=hh.form;have hR5:=hR.ext e5;obtain⟨x0,v0⟩:=hR5.there (o:=j*4) (by omega);obtain⟨x1,v1⟩:=hR5.there (o:=j*4+1) (by omega);obtain⟨x2,v2⟩:=hR5.there (o:=j*4+2) (by omega);obtain⟨x3,v3⟩:=hR5.there (o:=j*4+3) (by omega);have f0:=hR5.frozen (j*4);have f1:=hR5.frozen (j*4+1);have f2:=hR5.frozen (j*4+2);have f3:=hR5.frozen (j*4+3);go_upto_region 25 with (fail);obtain⟨w6,E6,C6,hs6,hr6⟩:=hR5.set (i:=j) (q:=((0:Int):Rat)) hlt (q_r) hb9 g9 g10;rw [E6];have hC6:=(hC.trans (e5.chg gX (gX+1))).trans C6;have hr7:=(hr6.less (n':=j+1) (by omega)).congr (y:=fun _=>0) (fun c hc=>by unfold upd; split <;> rfl);clear E6 C6 hs6 hr6 hR hR5 v0 v1 v2 v3 f0 f1 f2 f3 hh e5 g9 g10;go_wp2;go_roundw
   case rel=>exact⟨j+1,by omega,by go_num,hr7,hC6⟩
   case measure=>simp [intOf]; omega
  have t1:decide ((j:Int) < 9)=false:=q_f (by omega);have hj9:j=9:=by omega
  rw [hj9] at hR;have HLX:Hid (LsV N (gQ+1) wr.heap.size wr (.slice (some ⟨gX,0,none⟩) 9 9) 9 (fun _=>0)):=hR.lsv (q_r) (by unfold maxLen; omega) (by omega) hR.lt (q_r);replace HNB:=q_h (HNB.out.chg hC (by omega) (by omega) (by omega));replace B3:=hC.blk B3 (.inl (by omega));replace B5:=hC.blk B5 (.inl (by omega));replace BQ:=hC.blk BQ (.inl (by omega));replace C3:=hC.blk C3 (.inl (by omega));replace hE:=hC.ext hE (by omega);clear hR hC hj hlt hj9;obtain⟨wD,hwD⟩:∃ wD,wD=wr:=⟨_,rfl⟩
  subst hwD;obtain⟨n0,n1,n2,n3,-⟩:=cells4 C3;obtain⟨nc,hnc⟩:=qf (ntC S (spP X Y Z));go_wp2_with (go_at_call 32; refine q_o ?_);refine (q5G HNB.out).mono ?_;rw [<-hnc.out];rintro e w10 ⟨rfl,e10⟩
  by_cases h0:nc=0
  case neg =>
   have t2:(nc != 0)=true:=by simpa using h0
   clear h0;go_wp2;go_ret;exact⟨rfl,hE.trans e10⟩
  obtain⟨hs0,hX,hY,hZ⟩:=q5R (S:=S) (X:=X) (Y:=Y) (Z:=Z) (by rw [<-hnc.out]; exact h0);subst h0;have HS0:=q_h hs0;have HS:=q_h (q5N hs0)
  have HB:Hid (∀ what k,-1048576<=Zb S (spP X Y Z) what k/\Zb S (spP X Y Z) what k<=1048576):=fun what k=>by
   unfold Zb
   split
   ·exact Yf HS.out k
   ·unfold spP
    split
    ·exact hX
    ·split <;> assumption
  have HKP:Hid (∀ i,i < 3->Ht 200 (sp3 X Y Z i)):=fun i _=>q62 ((qy (k:=X) (m:=21) (by omega) (by omega)).mono (by decide)) ((qy (k:=Y) (m:=21) (by omega) (by omega)).mono (by decide)) ((qy (k:=Z) (m:=21) (by omega) (by omega)).mono (by decide)) i
  clear hs0 hnc n0 n1 n2 n3;replace HNB:=q_h (HNB.out.ext e10);replace HLX:=q_h (HLX.out.ext e10);replace B3:=e10.block B3;replace B5:=e10.block B5;replace BQ:=e10.block BQ;replace C3:=e10.block C3;replace hE:=hE.trans e10;clear e10;have hN10:N<=w10.heap.size:=by have:=hE.size; omega
  obtain⟨n0,n1,n2,n3,-⟩:=cells4 C3;obtain⟨fb,hfb⟩:=qf (decide (0 < dS S (fun j=>((spP X Y Z j:Int):Rat)) 2 3));go_wp2_with (go_at_call 33; refine q_o ?_);refine (q5F hN10 HNB.out HS.out HB.out HLX.out).mono ?_;rw [<-hfb.out];rintro e w11 ⟨rfl,e11⟩;clear n0 n1 n2 n3;replace HNB:=q_h (HNB.out.ext e11);replace HLX:=q_h (HLX.out.ext e11);replace B3:=e11.block B3;replace B5:=e11.block B5;replace BQ:=e11.block BQ;replace C3:=e11.block C3;replace hE:=hE.trans e11;clear e11 hN10;have hN11:N<=w11.heap.size:=by have:=hE.size; omega
  cases fb with
  | false =>
   go_wp2;go_ret;exact⟨rfl,hE⟩
  | true =>
  have hfp:0 < dS S (fun j=>((spP X Y Z j:Int):Rat)) 2 3:=of_decide_eq_true hfb.out.symm;have HFP:=q_h hfp;clear hfp;have HF:Hid (0 < dS S (sp3 X Y Z) 2 3):=by rw [Hid,<-q61]; exact HFP.out
  have HSX:Hid (Sz (q0H S (sp3 X Y Z))/\Sz (q0G S (sp3 X Y Z))):=by
   have hh:=q5W HS.out (K:=200) HKP.out;exact⟨hh.1.sz (by decide),hh.2.sz (by decide)⟩
  clear hfb;have HIV:Hid (∀ {w':World} {v:Value},N<=w'.heap.size->(∃ cs:Array Value,v=.agg cs/\cs.size=12/\cs.toList.all (·.oneCell')=true/\PtV N w' cs 0 (sp3 X Y Z))->Calls Tryz.prog 27 #[S.v,v] w' (q60 N w' (q0H S (sp3 X Y Z)) (q0G S (sp3 X Y Z)))):=fun hN' h=>q5Q h HS0.out HKP.out HF.out hN'
  unfold Sta.v at HIV;obtain⟨qx,hqx⟩:=qf (q0H S (sp3 X Y Z));obtain⟨qy,hqy⟩:=qf (q0G S (sp3 X Y Z));rw [<-hqx.out,<-hqy.out] at HIV HSX;obtain⟨s0,s1,s2,s3,s4,s5,s6,s7,s8,s9⟩:=zD B3;obtain⟨p0,p1,p2,-⟩:=cells3 B5;go_upto_region 28 with (fail);refine Wh [Mn.eq (.agg #[.int .i64 S.ax,.int .i64 S.ay,.int .i64 S.az,.int .i64 S.qa,.int .i64 S.qb,.int .i64 S.qc,.int .i64 S.qd,.int .i64 S.f,.int .i64 S.cx,.int .i64 S.cy]),Mn.q g5 0,Mn.i X,Mn.q g5 1,Mn.i Y,Mn.q g5 2,Mn.i Z,Mn.pt N (sp3 X Y Z),Mn.plc N qx qy,Mn.plc N qx qy,Mn.pl N qx qy,Mn.i 0,Mn.any,Mn.any] [some 102,some 103,some 104,some 105,some 106,some 107,some 108,some 109,some 110,some 101,some 111,some 112,none,some 8] [12,13] [11] (rQ 12 2) 2 (by kernel_rfl) ?_ ?_ ?_
  ·show ∀ i,i < 14->_
   iterate 14 refine fs ?_ ?_
   ·exact fz
   all_goals intro hl hs; first | exact absurd hl (by decide) | exact absurd hs (by decide) | (clear hl hs; refine stp rfl ?_; intro ac wi eI hB hA K hK)
   have o3:=oOf (hB 3) rfl;have cc0:=eI.cell s0;have cc1:=eI.cell s1;have cc2:=eI.cell s2;have cc3:=eI.cell s3;have cc4:=eI.cell s4;have cc5:=eI.cell s5;have cc6:=eI.cell s6;have cc7:=eI.cell s7;have cc8:=eI.cell s8;have cc9:=eI.cell s9
   rotate_left
   have o5:=oOf (hB 5) rfl
   rotate_left
   obtain⟨_,s103,rfl⟩:=hA 1 103;have cc0:=eI.cell p0
   rotate_left
   have o5:=oOf (hB 5) rfl
   rotate_left
   obtain⟨_,s105,rfl⟩:=hA 3 105;have cc0:=eI.cell p1
   rotate_left
   have o5:=oOf (hB 5) rfl
   rotate_left
   obtain⟨_,s107,rfl⟩:=hA 5 107;have cc0:=eI.cell p2
   rotate_left
   obtain⟨_,s104,rfl⟩:=hA 2 104;obtain⟨_,s106,rfl⟩:=hA 4 106;obtain⟨_,s108,rfl⟩:=hA 6 108;clear hB hA
   ·go_simp;refine (yg (q_l hN11 eI.size) X Y Z (by omega) (by omega) (by omega)).mono ?_;rintro e wj ⟨cs,rfl,h1,h2,h3,ej⟩;go_wp2_with fail;exact hK.out _ _ ej ⟨cs,rfl,h1,h2,h3⟩
   obtain⟨_,s102,rfl⟩:=hA 0 102;obtain⟨x109,s109,j109⟩:=hA 7 109;replace j109:Mn.p (Mn.pt N (sp3 X Y Z)) x109 wi:=j109;clear hB hA
   ·go_simp;refine (HIV.out (q_l hN11 eI.size) j109).mono ?_;rintro e wj ⟨vj,rfl,hj,ej⟩;go_wp2_with fail;exact hK.out _ _ ej ⟨vj,rfl,hj⟩
   obtain⟨x110,s110,j110⟩:=hA 8 110;replace j110:Mn.p (Mn.plc N qx qy) x110 wi:=j110;clear hB hA
   ·go_simp;exact q_k hK j110
   obtain⟨x101,s101,j101⟩:=hA 9 101;replace j101:Mn.p (Mn.plc N qx qy) x101 wi:=j101;clear hB hA
   ·obtain⟨vj,rfl,hj⟩:=j101;go_simp;exact q_k hK hj
   all_goals clear hB hA; go_simp; exact q_k hK rfl
  ·intro i hs;have hi':i=11:=by simpa using hs
   clear hs
   rcases hi' with rfl
   ·refine sft rfl (fun _ _ _ _ h=>h) ?_;intro ac wi eI hB hA;obtain⟨x101,s101,j101⟩:=hA 9 101;replace j101:Mn.p (Mn.plc N qx qy) x101 wi:=j101;clear hB hA;obtain⟨vj,rfl,hj⟩:=j101;refine⟨(.int .i64 0),.inl ⟨rfl,fun w9 _=>?_⟩,rfl⟩;go_simp
  intro vals wz eZ hJ;have J111:Mn.p (Mn.pl N qx qy) (vals 10) wz:=hJ 10 (by decide) (by decide);have J112:vals 11=_:=hJ 11 (by decide) (by decide);clear hJ;simp only [pr,Nat.reduceAdd,J112];clear J112
  generalize vals 10=z111 at J111 ⊢
  obtain⟨I1,i1,d1,I2,i2,d2,I3,i3,d3,I4,i4,d4,rfl,hkx,hky⟩:=PlV.parts J111;have BQ2:=eZ.block BQ;obtain⟨v0,v1,v2,v3,v4,v5,v6,v7⟩:=Zv BQ2;obtain⟨f0,f1,f2,f3,f4,f5,f6,f7⟩:=q5Y BQ2;refine qh (i:=12) rfl (by kernel_rfl) (by kernel_rfl) (fun K hK=>?_);go_simp;refine hK.out _ _ ?_;clear hK K;try simp only [nr]
  refine qh (i:=13) rfl (by kernel_rfl) (by kernel_rfl) (fun K hK=>?_);go_simp;refine hK.out _ _ ?_;clear hK K;try simp only [nr]
  refine qi (by kernel_rfl) ?_ _;have HKX:=q_h hkx;have HKY:=q_h hky;obtain⟨w12,E12,D12,U12⟩:=ex8 BQ2 (.bool (raw qx).b1) (.slice I1 i1 d1) (.bool (raw qx).b2) (.slice I2 i2 d2) (.bool (raw qy).b1) (.slice I3 i3 d3) (.bool (raw qy).b2) (.slice I4 i4 d4);rw [E12];have hT:=NoU.mk BQ2 (by decide);have hgQN:N<=gQ:=by omega
  have hX2:=HKX.out.upd U12 hgQN hT;have hY2:=HKY.out.upd U12 hgQN hT;have C12:=(eZ.chg gQ (gQ+1)).trans (U12.chg hT);have HX2:=q_h hX2;have HY2:=q_h hY2;clear hX2 hY2 hkx hky HKX HKY hT U12 E12 BQ2 BQ v0 v1 v2 v3 v4 v5 v6 v7 f0 f1 f2 f3 f4 f5 f6 f7 s0 s1 s2 s3 s4 s5 s6 s7 s8 s9 p0 p1 p2 B3 B5 eZ HIV;replace HNB:=q_h (HNB.out.chg' C12 (by omega) (by omega) (by omega));replace C3:=C12.blk C3 (.inr (by omega));have HLX2:=q_h (HLX.out.chg C12 hgQN (.inr (q_r)));replace hE:=C12.ext hE (by omega);have hN12:N<=w12.heap.size:=by have:=hE.size; omega
  obtain⟨n0,n1,n2,n3,-⟩:=cells4 C3;go_wp2_with (go_at_call 34; refine q_o ?_);refine (q5s hN12 HNB.out HS.out HB.out HLX2.out (by have:=HFP.out; grind)).mono ?_;rintro e w13 ⟨vr,rfl,hLR,e13⟩;obtain⟨Ar,cr,rfl,hcr,-⟩:=LsV.form hLR;obtain⟨br,or,rfl,-,-,hx⟩:=LsV.addr hLR (by decide);have hx0:=hx 0 (by decide);have hx1:=hx 1 (by decide);rw [q6d,q61,<-hqx.out,Nat.zero_mul,Nat.add_zero] at hx0;rw [q6c,q61,<-hqy.out,Nat.one_mul] at hx1;obtain⟨nx,Ax,kx,cx,A'x,k'x,c'x,x0,x1,x2,x3,hbx,hgx,hhx⟩:=hx0.open;obtain⟨ny,Ay,ky,cy,A'y,k'y,c'y,y0,y1,y2,y3,hby,hgy,hhy⟩:=hx1.open;have hRx:qp N w13 (.agg #[.bool nx,.slice Ax kx cx,.bool false,.slice A'x k'x c'x]) qx:=qp.mk hbx hgx hhx;have hRy:qp N w13 (.agg #[.bool ny,.slice Ay ky cy,.bool false,.slice A'y k'y c'y]) qy:=qp.mk hby hgy hhy;obtain⟨v0,v1,v2,v3,z0,z1,z2,z3⟩:=Zv (e13.block D12);have hRv:qp N w13 (.agg #[.bool (raw qx).b1,.slice I1 i1 d1,.bool (raw qx).b2,.slice I2 i2 d2]) qx:=HX2.out.ext e13;have hRz:qp N w13 (.agg #[.bool (raw qy).b1,.slice I3 i3 d3,.bool (raw qy).b2,.slice I4 i4 d4]) qy:=HY2.out.ext e13;clear n0 n1 n2 n3 hx hx0 hx1 hLR hbx hgx hhx hby hgy hhy C3 D12 C12;go_upto_region 30 with (fail);refine jE [Mn.i 0,Mn.t true,Mn.t true,Mn.q gQ 0,Mn.rat N (qx),Mn.eq (.slice (some ⟨br,or,none⟩) 2 cr),Mn.q br or,Mn.rat N (qx),Mn.t true,Mn.t true,Mn.t true,Mn.q gQ 4,Mn.rat N (qy),Mn.eq (.slice (some ⟨br,or,none⟩) 2 cr),Mn.q br (or+4),Mn.rat N (qy),Mn.t true,Mn.t true,Mn.t true] (sM [116,117,118,119,120,121,122,123,124,125,126,127,128,129,130,131,132,133,6]) [] (rQ 19 0) 0 (by kernel_rfl) ?_ ?_
  ·show ∀ i,i < 19->_
   iterate 19 refine fs ?_ ?_
   ·exact fz
   all_goals intro hl; clear hl; refine stp rfl ?_; intro ac wi eI hB hA K hK
   have o8:=oOf (hB 8) rfl
   rotate_left
   obtain⟨_,s116,rfl⟩:=hA 0 116
   rotate_left
   obtain⟨_,s117,rfl⟩:=hA 1 117
   rotate_left
   obtain⟨_,s118,rfl⟩:=hA 2 118;have o7:=oOf (hB 7) rfl;rw [if_pos (by simp [Region.wanted,yielded,s118])]
   rotate_left
   obtain⟨_,s118,rfl⟩:=hA 2 118;obtain⟨_,s119,rfl⟩:=hA 3 119;clear hB hA;rw [if_pos (by simp [Region.wanted,yielded,s118])];have cc0:=eI.cell v0;have cc1:=eI.cell v1;have cc2:=eI.cell v2;have cc3:=eI.cell v3
   ·go_simp;exact q_k hK (hRv.ext eI)
   obtain⟨_,s118,rfl⟩:=hA 2 118;have o14:=oOf (hB 14) rfl;rw [if_pos (by simp [Region.wanted,yielded,s118])]
   rotate_left
   obtain⟨_,s118,rfl⟩:=hA 2 118;obtain⟨_,s121,rfl⟩:=hA 5 121;rw [if_pos (by simp [Region.wanted,yielded,s118])]
   rotate_left
   obtain⟨_,s118,rfl⟩:=hA 2 118;obtain⟨_,s122,rfl⟩:=hA 6 122;clear hB hA;rw [if_pos (by simp [Region.wanted,yielded,s118])];have cc0:=eI.cell x0;have cc1:=eI.cell x1;have cc2:=eI.cell x2;have cc3:=eI.cell x3
   ·go_simp;exact q_k hK (hRx.ext eI)
   obtain⟨_,s118,rfl⟩:=hA 2 118;obtain⟨x120,s120,j120⟩:=hA 4 120;replace j120:Mn.p (Mn.rat N (qx)) x120 wi:=j120;obtain⟨x123,s123,j123⟩:=hA 7 123;replace j123:Mn.p (Mn.rat N (qx)) x123 wi:=j123;clear hB hA;rw [if_pos (by simp [Region.wanted,yielded,s118])]
   ·go_simp;refine (q2U j120 j123 HSX.out.1 rfl).mono ?_;rintro e wj ⟨rfl,ej⟩;go_wp2_with fail;exact hK.out _ _ ej rfl
   obtain⟨_,s118,rfl⟩:=hA 2 118;obtain⟨_,s124,rfl⟩:=hA 8 124
   rotate_left
   obtain⟨_,s125,rfl⟩:=hA 9 125
   rotate_left
   obtain⟨_,s126,rfl⟩:=hA 10 126;have o7:=oOf (hB 7) rfl;rw [if_pos (by simp [Region.wanted,yielded,s126])]
   rotate_left
   obtain⟨_,s126,rfl⟩:=hA 10 126;obtain⟨_,s127,rfl⟩:=hA 11 127;clear hB hA;rw [if_pos (by simp [Region.wanted,yielded,s126])];have cc0:=eI.cell z0;have cc1:=eI.cell z1;have cc2:=eI.cell z2;have cc3:=eI.cell z3
   ·go_simp;exact q_k hK (hRz.ext eI)
   obtain⟨_,s126,rfl⟩:=hA 10 126;have o14:=oOf (hB 14) rfl;rw [if_pos (by simp [Region.wanted,yielded,s126])]
   rotate_left
   obtain⟨_,s126,rfl⟩:=hA 10 126;obtain⟨_,s129,rfl⟩:=hA 13 129;rw [if_pos (by simp [Region.wanted,yielded,s126])]
   rotate_left
   obtain⟨_,s126,rfl⟩:=hA 10 126;obtain⟨_,s130,rfl⟩:=hA 14 130;clear hB hA;rw [if_pos (by simp [Region.wanted,yielded,s126])];have cc0:=eI.cell y0;have cc1:=eI.cell y1;have cc2:=eI.cell y2;have cc3:=eI.cell y3
   ·go_simp;exact q_k hK (hRy.ext eI)
   obtain⟨_,s126,rfl⟩:=hA 10 126;obtain⟨x128,s128,j128⟩:=hA 12 128;replace j128:Mn.p (Mn.rat N (qy)) x128 wi:=j128;obtain⟨x131,s131,j131⟩:=hA 15 131;replace j131:Mn.p (Mn.rat N (qy)) x131 wi:=j131;clear hB hA;rw [if_pos (by simp [Region.wanted,yielded,s126])]
   ·go_simp;refine (q2U j128 j131 HSX.out.2 rfl).mono ?_;rintro e wj ⟨rfl,ej⟩;go_wp2_with fail;exact hK.out _ _ ej rfl
   obtain⟨_,s126,rfl⟩:=hA 10 126;obtain⟨_,s132,rfl⟩:=hA 16 132
   rotate_left
   obtain⟨_,s133,rfl⟩:=hA 17 133
   rotate_left
   all_goals clear hB hA; go_simp; exact q_k hK rfl
  intro vals wz eZ hJ;have J6:vals 18=_:=hJ 18 (by decide) (by decide);clear hJ;simp only [pr,Nat.reduceAdd,J6];clear J6;refine qi (by kernel_rfl) ?_ _;go_wp2;go_ret;exact⟨rfl,hE.trans (e13.trans eZ)⟩
end Go.Proofs.YtphpkhoeplcedaaGreat
set_option maxRecDepth 100000
namespace Go.Proofs.YtphpkhoeplcedaaGreat
open Go.ChangeShapes Go.WideShapes Go.ChangeAt Go.RowKit Go.Joins
variable {w w':World} {N g:Nat} {v:Value} {S:Sta}
theorem q5K:Tryz.prog.cellsOf 69=10:=by kernel_rfl
section
variable {H:Type} {enc:TypeId×Value->H} {w:World} {spare:Nat->Bool} {held:Bool}
instance:Inhabited Sta:=⟨⟨0,0,0,0,0,0,0,0,0,0⟩⟩
end
end Go.Proofs.YtphpkhoeplcedaaGreat
