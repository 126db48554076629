import Derived.Test.YtflhlobiipejeaaGreatWb26
import Derived.Test.YtflhlobiipejeaaGreatWb27
set_option linter.all false
set_option maxHeartbeats 8000000
set_option maxRecDepth 100000
namespace Go.Proofs.YtflhlobiipejeaaGreat
variable {w:World} {N n lo hi k g i m c b:Nat} {v s:Value} {q x:Rat}
section
open Go.RowKit
theorem ZF(hN:N<=w.heap.size){n:Int}(h1:0<=n) (h2:n<=100) :
  Calls Tryz.prog 58 #[.int .i64 n] w (q6v N w 1 1 (fun _ _=>(n:Rat))):=by
 obtain⟨Q,hQ⟩:=qc (q6v N w 1 1 (fun _ _=>(n:Rat)));rw[<-hQ.out];go_enter Tryz.func58,Tryz.ntmps58;go_wp2_with (go_at_call 7;refine q_o ?_);refine (kV hN n (by omega) (by omega)).mono ?_;rintro e w1 ⟨v1,rfl,hv,e1⟩;obtain⟨b,A,k,c,A',k',c',rfl,hb,y1,y2⟩:=qX.parts hv;have HY1:=q_h y1;have HY2:=q_h y2;clear hv y1 y2;go_wp2_with fail;refine kD ?_;intro w2 e2 hsz2 B0 B1
 first|go_ret|skip
 rw[hQ.out];have hl:=q7c (N:=N) (q:=(n:Rat)) (by have:=e1.size;have:=e2.size;omega) B0 hb (HY1.out.ext e2) (HY2.out.ext e2);exact⟨_,_,rfl,q4S B1 hl,e1.trans e2⟩
theorem KQ{b b' b'':Bool}{t s' t' s'' t'':Value}{q' q'':Rat}{x:q_v}(hN:N<=w.heap.size) (h:w.heap[g]?=some (.cells #[.bool b,s,.bool false,t,.bool b',s',.bool false,t',.bool b'',s'',.bool false,t''] 35 (0,0)))
  (hb:Hid (b=decide (q.num<0))) (h1:Gs N w s (dg q.num.natAbs)) (h2:Gs N w t (dg q.den)) (hb':Hid (b'=decide (q'.num<0))) (h1':Gs N w s' (dg q'.num.natAbs)) (h2':Gs N w t' (dg q'.den)) (hb'':Hid (b''=decide (q''.num<0))) (h1'':Gs N w s'' (dg q''.num.natAbs)) (h2'':Gs N w t'' (dg q''.den)) (hx:x 0=q/\x 1=q'/\x 2=q'') :
  LsV N 0 w.heap.size w (.slice (some ⟨g,0,none⟩) 3 3) 3 x:=by
 obtain⟨x0,x1,x2⟩:=hx;refine⟨hN,q_r,_,3,rfl,q_r,by unfold maxLen;omega,fun _=>⟨g,0,rfl,Nat.zero_le _,qF h,fun i hi=>?_⟩⟩;have hi':i=0\/i=1\/i=2:=by omega
 rcases hi' with rfl|rfl|rfl
 ·show At4 N w g (0+0*4) (raw (x 0))
  rw[x0];refine⟨s,t,?_,qh h 1,qh h 2,qh h 3,h1,h2⟩
  show w.cell? ⟨g,0,none⟩=some (.bool (decide (q.num<0)))
  rw[<-hb.out];exact qh h 0
 ·show At4 N w g (0+1*4) (raw (x 1))
  rw[x1];refine⟨s',t',?_,qh h 5,qh h 6,qh h 7,h1',h2'⟩
  show w.cell? ⟨g,4,none⟩=some (.bool (decide (q'.num<0)))
  rw[<-hb'.out];exact qh h 4
 ·show At4 N w g (0+2*4) (raw (x 2))
  rw[x2];refine⟨s'',t'',?_,qh h 9,qh h 10,qh h 11,h1'',h2''⟩
  show w.cell? ⟨g,8,none⟩=some (.bool (decide (q''.num<0)))
  rw[<-hb''.out];exact qh h 8
def q9l (N:Nat) (w:World) (e:Ending) (w':World):Prop:=∃v,e=.returned v/\jI N 0 w'.heap.size w' v exZ/\Ext w w'
theorem VA(hN:N<=w.heap.size):Calls Tryz.prog 18 #[] w (q9l N w):=by
 obtain⟨Q,hQ⟩:=qc (q9l N w);rw[<-hQ.out];go_enter Tryz.func18,Tryz.ntmps18;go_upto_region 1 with (fail);refine qo ?_;intro w1 hE hsz B0;obtain⟨g0,hg0⟩:=qc w.heap.size;have hg0w:w.heap.size<=g0:=by rw[hg0.out];exact q_r
 rw[<-hg0.out] at B0 hsz ⊢;have HB0:=q_h B0;have hN1:N<=w1.heap.size:=q_l hN hE.size;go_wp2_with (go_at_call 58;refine q_o ?_);refine (ZF (N:=N) (by simp;omega) (n:=2) (by omega) (by omega)).mono ?_;rintro e w3 ⟨A3,c3,rfl,h3,e3'⟩;obtain⟨e3,hsz3,B3⟩:=yU e3';obtain⟨gs,hgs⟩:=qc w1.heap.size;rw[<-hgs.out] at B3 ⊢;have HS3:=q_h B3;have HM3:=q_h h3;have HE3:Hid (Ext w w3):=hE.trans e3;have HX3:Hid (Ext w1 w3):=e3;clear B3 hgs e3 e3' hsz3 h3 B0;go_wp2_with (go_at_call 58;refine q_o ?_);refine (ZF (N:=N) (q_l hN HE3.out.size) (n:=1) (by omega) (by omega)).mono ?_;rintro e w4 ⟨A4,c4,rfl,h4,e4⟩;have HM4:=q_h h4;have HE4:Hid (Ext w w4):=HE3.out.trans e4;have HX4:Hid (Ext w3 w4):=e4;clear h4 e4;go_wp2_with (go_at_call 58;refine q_o ?_);refine (ZF (N:=N) (q_l hN HE4.out.size) (n:=2) (by omega) (by omega)).mono ?_;rintro e w5 ⟨A5,c5,rfl,h5,e5⟩;have HM5:=q_h h5;have HE5:Hid (Ext w w5):=HE4.out.trans e5;have HX5:Hid (Ext w4 w5):=e5;clear h5 e5;go_wp2_with (go_at_call 58;refine q_o ?_);refine (ZF (N:=N) (q_l hN HE5.out.size) (n:=1) (by omega) (by omega)).mono ?_;rintro e w6 ⟨A6,c6,rfl,h6,e6⟩;have HM6:=q_h h6;have HE6:Hid (Ext w w6):=HE5.out.trans e6;have HX6:Hid (Ext w5 w6):=e6;clear h6 e6;go_wp2_with (go_at_call 58;refine q_o ?_);refine (ZF (N:=N) (q_l hN HE6.out.size) (n:=3) (by omega) (by omega)).mono ?_;rintro e w7 ⟨A7,c7,rfl,h7,e7⟩;have HM7:=q_h h7;have HE7:Hid (Ext w w7):=HE6.out.trans e7
 have HX7:Hid (Ext w6 w7):=e7;clear h7 e7;go_wp2_with (go_at_call 7;refine q_o ?_);refine (kV (N:=N) (by have:=HE7.out.size;simp;omega) 3 (by omega) (by omega)).mono ?_;rintro e w8 ⟨v8,rfl,h8,e8'⟩;obtain⟨e8,hsz8,B8⟩:=yU e8';obtain⟨gb,hgb⟩:=qc w7.heap.size;rw[<-hgb.out] at B8 ⊢;have HB8:=q_h B8;obtain⟨b8,P8,k8,d8,Q8,l8,f8,rfl,hb8,y8,z8⟩:=qX.parts h8;have HY8:=q_h y8;have HZ8:=q_h z8;have HE8:Hid (Ext w w8):=HE7.out.trans e8;have HX8:Hid (Ext w7 w8):=e8;clear B8 hgb e8 e8' hsz8 h8 y8 z8;go_wp2_with (go_at_call 7;refine q_o ?_);refine (kV (N:=N) (q_l hN HE8.out.size) 4 (by omega) (by omega)).mono ?_;rintro e w9 ⟨v9,rfl,h9,e9⟩;obtain⟨b9,P9,k9,d9,Q9,l9,f9,rfl,hb9,y9,z9⟩:=qX.parts h9;have HY9:=q_h y9;have HZ9:=q_h z9;have HE9:Hid (Ext w w9):=HE8.out.trans e9;have HX9:Hid (Ext w8 w9):=e9;clear h9 e9 y9 z9;go_wp2_with (go_at_call 7;refine q_o ?_);refine (kV (N:=N) (q_l hN HE9.out.size) 4 (by omega) (by omega)).mono ?_;rintro e w10 ⟨v10,rfl,h10,e10⟩;obtain⟨b10,P10,k10,d10,Q10,l10,f10,rfl,hb10,y10,z10⟩:=qX.parts h10;have HY10:=q_h y10;have HZ10:=q_h z10;have HE10:Hid (Ext w w10):=HE9.out.trans e10;have HX10:Hid (Ext w9 w10):=e10;clear h10 e10 y10 z10;have HB09:=q_h (HX10.out.block (HX9.out.block (HX8.out.block (HX7.out.block (HX6.out.block (HX5.out.block (HX4.out.block (HX3.out.block HB0.out))))))));obtain⟨x0,x1,x2,u0,u1,u2⟩:=cells3 HB09.out
 have hg10:g0<w10.heap.size:=qF HB09.out;go_wp2;obtain⟨w11,E11,D11,U11⟩:=ex3 HB09.out (.slice (some ⟨gs,0,none⟩) 3 3) (.slice (some ⟨gb,0,none⟩) 5 5) (.slice (some ⟨w10.heap.size,0,none⟩) 3 3);rw[E11];have C11:=U11.chg (NoU.mk HB09.out (by decide));have hs11:w11.heap.size=w10.heap.size:=U11.size;refine qo ?_;intro w12 e12 hsz12 B12;rw[hs11] at B12;have hE12:Ext w w12:=(C11.ext HE10.out hg0w).trans e12;have hNg:N<=g0:=by omega
 have X9:Ext w9 w10:=HX10.out;have X8:Ext w8 w10:=HX9.out.trans X9;have X7:Ext w7 w10:=HX8.out.trans X8;have X6:Ext w6 w10:=HX7.out.trans X7;have X5:Ext w5 w10:=HX6.out.trans X6;have X4:Ext w4 w10:=HX5.out.trans X5;have X3:Ext w3 w10:=HX4.out.trans X4;have hL:=KQ (N:=N) (x:=exY) (by have:=hE12.size;omega) B12 hb8 (((HY8.out.ext X8).chg C11 hNg).ext e12) (((HZ8.out.ext X8).chg C11 hNg).ext e12) hb9 (((HY9.out.ext X9).chg C11 hNg).ext e12) (((HZ9.out.ext X9).chg C11 hNg).ext e12) hb10 ((HY10.out.chg C11 hNg).ext e12) ((HZ10.out.chg C11 hNg).ext e12) ⟨rfl,rfl,rfl⟩
 have hB:q4c N 0 w10.heap.size w10 (.slice (some ⟨gb,0,none⟩) 5 5) 5 exB:=by
  have hb:=X8.block HB8.out;refine⟨_,_,rfl,q_r,by unfold maxLen;omega,fun _=>⟨gb,0,rfl,fun i hi=>?_⟩⟩
  rcases q3q hi with rfl|rfl|rfl|rfl|rfl
  ·exact⟨qh hb 0,qh hb 1,A3,c3,qh hb 2,MtR.wide (HM3.out.ext X3) (q_r) X3.size (q_r)⟩
  ·exact⟨qh hb 3,qh hb 4,A4,c4,qh hb 5,MtR.wide (HM4.out.ext X4) (q_r) X4.size (q_r)⟩
  ·exact⟨qh hb 6,qh hb 7,A5,c5,qh hb 8,MtR.wide (HM5.out.ext X5) (q_r) X5.size (q_r)⟩
  ·exact⟨qh hb 9,qh hb 10,A6,c6,qh hb 11,MtR.wide (HM6.out.ext X6) (q_r) X6.size (q_r)⟩
  ·exact⟨qh hb 12,qh hb 13,A7,c7,qh hb 14,MtR.wide (HM7.out.ext X7) (q_r) X7.size (q_r)⟩
 have hI:IzV N 0 w10.heap.size w10 (.slice (some ⟨gs,0,none⟩) 3 3) 3 (fun _=>1):=by
  have hb:=X3.block HS3.out;refine⟨rfl,_,_,rfl,q_r,by unfold maxLen;omega,fun _=>⟨gs,0,rfl,fun i hi=>?_⟩⟩
  rcases (by omega:i=0\/i=1\/i=2) with rfl|rfl|rfl
  ·exact qh hb 0
  ·exact qh hb 1
  ·exact qh hb 2
 have hS:jI N 0 w10.heap.size w10 (.agg #[.slice (some ⟨gs,0,none⟩) 3 3,.slice (some ⟨gb,0,none⟩) 5 5,.slice none 0 0]) ⟨3,fun _=>1,5,exB,0,fun i=>raw (exY i)⟩:=⟨_,_,_,rfl,hI,hB,by have:=HE10.out.size;omega,q_r,none,0,rfl,q_r,Nat.zero_le _,fun h=>absurd h (Nat.lt_irrefl 0)⟩
 obtain⟨v1,v2,v3,hv,s1,s2,-⟩:=(hS.off C11 hNg (q5X.three HB09.out) (fun _ _ _ _=>Nat.one_pos)).ext e12;simp only[Value.agg.injEq,Array.mk.injEq,List.cons.injEq,and_true] at hv;obtain⟨rfl,rfl,rfl⟩:=hv;have hs12:w10.heap.size<=w12.heap.size:=by omega
 have s2':q4c N 0 w12.heap.size w12 (.slice (some ⟨gb,0,none⟩) 5 5) 5 exB:=by
  obtain⟨A9,k9,h9,h10,h11,h12⟩:=s2;refine⟨A9,k9,h9,h10,h11,fun h=>?_⟩;obtain⟨b,off,hA,hx⟩:=h12 h;refine⟨b,off,hA,fun i hi=>?_⟩;obtain⟨a1,a2,A',c',a3,a4⟩:=hx i hi;exact⟨a1,a2,A',c',a3,MtR.wide a4 (q_r) hs12 (q_r)⟩
 obtain⟨y0,y1,y2,-⟩:=cells3 (e12.block D11);clear x0 x1 x2 u0 u1 u2;refine bodyPost_ret (v:=.agg #[.slice (some ⟨gs,0,none⟩) 3 3,.slice (some ⟨gb,0,none⟩) 5 5,.slice (some ⟨w10.heap.size,0,none⟩) 3 3]) ?_ rfl ?_
 ·simp[results,y0,y1,y2,go_sem]
 ·rw[hQ.out];exact⟨_,rfl,⟨_,_,_,rfl,⟨rfl,s1.2⟩,s2',hL⟩,hE12⟩
theorem q1O {lo' hi':Nat}{u:Value}{z z':Nat->Int}(h:IzV N lo hi w v n z) (h':IzV N lo' hi' w u m z') :
  Calls Tryz.prog 23 #[v,u] w (zH w (.bool (decide (n=m)&&allB n (fun i=>decide (z i=z' i))))):=by
 obtain⟨Q,hQ⟩:=qc (zH w (.bool (decide (n=m)&&allB n (fun i=>decide (z i=z' i)))));rw[<-hQ.out];obtain⟨A1,c1,rfl,k1,k2⟩:=h.form;obtain⟨A2,c2,rfl,k3,k4⟩:=h'.form;unfold maxLen at k2 k4;have HI:=q_h h;have HJ:=q_h h';clear h h'
 by_cases hnm:n=m
 case neg =>
  have t1:((n:Int) != (m:Int))=true:=by simpa using fun e:(n:Int)=(m:Int)=>hnm (by omega)
  have HF:Hid (decide (n=m)=false):=q_f hnm;clear hnm;go_enter Tryz.func23,Tryz.ntmps23;go_wp2
  first|go_ret|skip
  rw[hQ.out,HF.out,Bool.false_and];exact⟨rfl,Ext.refl _⟩
 subst hnm;have t1:((n:Int) != (n:Int))=false:=by simp
 obtain⟨w1,hw1⟩:∃w1,w1=w:=⟨_,rfl⟩
 have hw1':=q_h hw1;subst hw1;go_enter Tryz.func23,Tryz.ntmps23;go_wp2_with fail
 go_loopw [13] (fun iv wr=>∃i:Nat,i<=n/\iv=.int .i64 (i:Int)/\Hid (∀j,j<i->z j=z' j)/\Hid (Ext w1 wr)) (fun iv _=>n-(intOf iv).toNat)
 case atStart=>exact⟨0,Nat.zero_le _,rfl,fun j hj=>absurd hj (Nat.not_lt_zero j),Ext.refl _⟩
 case round =>
  obtain⟨i,hi9,rfl,HE,HX⟩:=hrel;clear t1
  by_cases hlt:i<n
  case neg =>
   have t1:decide ((i:Int)<(n:Int))=false:=q_f (by omega);obtain rfl:n=i:=by omega
   go_wp2
   first|go_ret|skip
   rw[hQ.out,qm.2 (fun j hj=>q_t (HE.out j hj))];simp only[decide_true,Bool.and_true,Bool.true_and];exact⟨rfl,HX.out⟩
  have t1:decide ((i:Int)<(n:Int))=true:=q_t (by omega);have t2:(i:Int)<(n:Int):=by omega
  obtain⟨b,off,rfl,hx⟩:=(HI.out.ext HX.out).addr (by omega);obtain⟨b',off',rfl,hx'⟩:=(HJ.out.ext HX.out).addr (by omega);have p0:=hx i hlt;have q0:=hx' i hlt;obtain⟨x,hx1⟩:=qc (z i);obtain⟨y,hy1⟩:=qc (z' i);rw[<-hx1.out] at p0;rw[<-hy1.out] at q0;clear hx hx';obtain⟨wq,hwq⟩:∃wq,wq=wr:=⟨_,rfl⟩
  subst hwq;obtain⟨b9,hb9⟩:=qc (x != y);have t3:(x != y)=b9:=hb9.out.symm;go_upto_region 6 with (fail);refine yB [Mn.eq (.slice (some ⟨b,off,none⟩) n c1),Mn.i (i:Int),Mn.q b (off+i),Mn.i x,Mn.eq (.slice (some ⟨b',off',none⟩) n c2),Mn.i (i:Int),Mn.q (b') (off'+i),Mn.i y,Mn.t b9] (sM [16,17,18,19,20,21,22,23,24]) [] (rQ 9 0) 0 (by kernel_rfl) ?_ ?_
  ·show ∀i,i<9->_
   iterate 9 refine fs ?_ ?_
   ·exact fz
   all_goals intro hl;clear hl;refine stp rfl ?_;intro ac wi eI hB hA K hK
   have o0:=oOf (hB 0) rfl;rotate_left;have o5:=oOf (hB 5) rfl;rotate_left;obtain⟨_,s16,rfl⟩:=hA 0 16;obtain⟨_,s17,rfl⟩:=hA 1 17;rotate_left;obtain⟨_,s18,rfl⟩:=hA 2 18;have cc0:=eI.cell p0;rotate_left;have o1:=oOf (hB 1) rfl;rotate_left;have o5:=oOf (hB 5) rfl;rotate_left;obtain⟨_,s20,rfl⟩:=hA 4 20;obtain⟨_,s21,rfl⟩:=hA 5 21;rotate_left;obtain⟨_,s22,rfl⟩:=hA 6 22;have cc0:=eI.cell q0;rotate_left;obtain⟨_,s19,rfl⟩:=hA 3 19;obtain⟨_,s23,rfl⟩:=hA 7 23;rotate_left
   all_goals clear hB hA;go_simp;exact q_k hK rfl
  intro vals wz eZ hJ;have J24:vals 8=_:=hJ 8 (by decide) (by decide);clear hJ;simp only[pr,Nat.reduceAdd,J24];clear J24;refine qg (by kernel_rfl) ?_ _;have HX2:Hid (Ext w1 wz):=HX.out.trans eZ;clear p0 q0 eZ t3;cases b9 with
  | true =>
   have HN:Hid (allB n (fun i=>decide (z i=z' i))=false):=qL hlt (by
    have h9:x≠y:=by simpa using hb9.out.symm
    rw[<-hx1.out,<-hy1.out]
    exact q_f h9)
   go_wp2
   first|go_ret|skip
   rw[hQ.out,HN.out,Bool.and_false];exact⟨rfl,HX2.out⟩
  | false =>
   have HE2:Hid (∀j,j<i+1->z j=z' j):=fun j hj=>by
    by_cases hji:j=i
    ·have h9:x=y:=by simpa using hb9.out.symm
     rw[hji,<-hx1.out,<-hy1.out,h9]
    ·exact HE.out j (by omega)
   go_wp2;go_roundw
   case rel=>exact⟨i+1,by omega,by go_num,HE2,HX2⟩
   case measure=>simp[intOf];omega
theorem q6Y (w:World) (r c r' c':Int):(Op.equalIn 10000 64 (.agg #[.int .i64 r,.int .i64 c]) (.agg #[.int .i64 r',.int .i64 c'])).run Tryz.prog w=.ok (decide (r=r'/\c=c')) w:=KX w r c r' c'
theorem PrV.at2{l:List (Nat×Nat)}(h:PrV w v l)(hi:i<l.length):∃g c,v=.slice (some ⟨g,0,none⟩) l.length c/\l.length<=c/\w.cell? ⟨g,i*2,none⟩=some (.int .i64 ((l[i]?.getD (0,0)).1:Int))/\w.cell? ⟨g,i*2+1,none⟩=some (.int .i64 ((l[i]?.getD (0,0)).2:Int)):=by
 obtain⟨A,c,hv,h1,h2,h3⟩:=h;obtain⟨g,rfl,hx⟩:=h3 (by omega);have e1:l[i]! = l[i]?.getD (0,0):=by rw[List.getElem!_eq_getElem?_getD];rfl
 refine⟨g,c,hv,h1,hx _ _ ?_,hx _ _ ?_⟩
 ·rw[Xd l (i*2) (by omega),Nat.mul_div_cancel i (by omega),Nat.mul_mod_left,e1]
  rfl
 ·rw[Xd l (i*2+1) (by omega),show (i*2+1) / 2=i by omega,show (i*2+1) % 2=1 by omega,e1]
  rfl
theorem q1N{u:Value}{l l':List (Nat×Nat)}(h:PrV w v l) (h':PrV w u l') :
  Calls Tryz.prog 22 #[v,u] w (zH w (.bool (decide (l=l')))):=by
 obtain⟨Q,hQ⟩:=qc (zH w (.bool (decide (l=l'))));rw[<-hQ.out];have HI:=q_h h;have HJ:=q_h h';obtain⟨A1,c1,rfl,k1,k2,-⟩:=h;obtain⟨A2,c2,rfl,k3,k4,-⟩:=h';unfold maxLen at k2 k4;obtain⟨n,hn⟩:=qc l.length;obtain⟨m,hm⟩:=qc l'.length;rw[<-hn.out] at k1 HI ⊢;rw[<-hm.out] at k3 HJ ⊢
 by_cases hnm:n=m
 case neg =>
  have t1:((n:Int) != (m:Int))=true:=by simpa using fun e:(n:Int)=(m:Int)=>hnm (by omega)
  have HF:Hid (decide (l=l')=false):=decide_eq_false fun e=>hnm (by rw[hn.out,hm.out,e])
  clear hnm;go_enter Tryz.func22,Tryz.ntmps22;go_wp2
  first|go_ret|skip
  rw[hQ.out,HF.out];exact⟨rfl,Ext.refl _⟩
 subst hnm;have t1:((n:Int) != (n:Int))=false:=by simp
 obtain⟨w1,hw1⟩:∃w1,w1=w:=⟨_,rfl⟩
 have hw1':=q_h hw1;subst hw1;go_enter Tryz.func22,Tryz.ntmps22;go_wp2_with fail
 go_loopw [13] (fun iv wr=>∃i:Nat,i<=n/\iv=.int .i64 (i:Int)/\Hid (∀j,j<i->l[j]?.getD (0,0)=l'[j]?.getD (0,0))/\Hid (Ext w1 wr)) (fun iv _=>n-(intOf iv).toNat)
 case atStart=>exact⟨0,Nat.zero_le _,rfl,fun j hj=>absurd hj (Nat.not_lt_zero j),Ext.refl _⟩
 case round =>
  obtain⟨i,hi9,rfl,HE,HX⟩:=hrel;clear t1
  by_cases hlt:i<n
  case neg =>
   have t1:decide ((i:Int)<(n:Int))=false:=q_f (by omega);obtain rfl:n=i:=by omega
   have HL:Hid (l=l'):=by
    refine List.ext_getElem (by rw[<-hn.out,<-hm.out]) fun j h1 h2=>?_
    have h3:=HE.out j (by rw[hn.out];exact h1);rw[List.getElem?_eq_getElem h1,List.getElem?_eq_getElem h2] at h3;exact h3
   go_wp2
   first|go_ret|skip
   rw[hQ.out,decide_eq_true HL.out];exact⟨rfl,HX.out⟩
  have t1:decide ((i:Int)<(n:Int))=true:=q_t (by omega);have t2:(i:Int)<(n:Int):=by omega
  have h1:=HI.out.ext HX.out;have h2:=HJ.out.ext HX.out;rw[hn.out] at h1;rw[hm.out] at h2;obtain⟨g,cg,hv,-,p0,p1⟩:=h1.at2 (i:=i) (by rw[<-hn.out];exact hlt);obtain⟨g',cg',hv',-,q0,q1⟩:=h2.at2 (i:=i) (by rw[<-hm.out];exact hlt);simp only[Value.slice.injEq] at hv hv';obtain⟨rfl,-,rfl⟩:=hv;obtain⟨rfl,-,rfl⟩:=hv';obtain⟨x,hx⟩:=qc (l[i]?.getD (0,0)).1;obtain⟨y,hy⟩:=qc (l[i]?.getD (0,0)).2;obtain⟨x',hx'⟩:=qc (l'[i]?.getD (0,0)).1;obtain⟨y',hy'⟩:=qc (l'[i]?.getD (0,0)).2;rw[<-hx.out] at p0;rw[<-hy.out] at p1;rw[<-hx'.out] at q0;rw[<-hy'.out] at q1;clear h1 h2;obtain⟨wq,hwq⟩:∃wq,wq=wr:=⟨_,rfl⟩
  subst hwq;obtain⟨b9,hb9⟩:=qc (!decide ((x:Int)=(x':Int)/\(y:Int)=(y':Int)));have HB9:Hid (decide ((x:Int)=(x':Int)/\(y:Int)=(y':Int))=!b9):=by rw[hb9.out,Bool.not_not];rfl
  go_upto_region 6 with (fail);refine yB [Mn.eq (.slice (some ⟨g,0,none⟩) n c1),Mn.i (i:Int),Mn.q g (i*2),Mn.eq (.agg #[.int .i64 (x:Int),.int .i64 (y:Int)]),Mn.eq (.slice (some ⟨g',0,none⟩) n c2),Mn.i (i:Int),Mn.q (g') (i*2),Mn.eq (.agg #[.int .i64 (x':Int),.int .i64 (y':Int)]),Mn.t b9] (sM [16,17,18,19,20,21,22,23,24]) [] (rQ 9 0) 0 (by kernel_rfl) ?_ ?_
  ·show ∀i,i<9->_
   iterate 9 refine fs ?_ ?_
   ·exact fz
   all_goals intro hl;clear hl;refine stp rfl ?_;intro ac wi eI hB hA K hK
   have o0:=oOf (hB 0) rfl;rotate_left;have o5:=oOf (hB 5) rfl;rotate_left;obtain⟨_,s16,rfl⟩:=hA 0 16;obtain⟨_,s17,rfl⟩:=hA 1 17;rotate_left;obtain⟨_,s18,rfl⟩:=hA 2 18;clear hB hA
   ·have a0:=eI.cell p0;have a1:=eI.cell p1;go_simp;exact q_k hK rfl
   have o1:=oOf (hB 1) rfl;rotate_left;have o5:=oOf (hB 5) rfl;rotate_left;obtain⟨_,s20,rfl⟩:=hA 4 20;obtain⟨_,s21,rfl⟩:=hA 5 21;rotate_left;obtain⟨_,s22,rfl⟩:=hA 6 22;clear hB hA
   ·have a0:=eI.cell q0;have a1:=eI.cell q1;go_simp;exact q_k hK rfl
   obtain⟨_,s19,rfl⟩:=hA 3 19;obtain⟨_,s23,rfl⟩:=hA 7 23;clear hB hA
   ·have t9:=q6Y wi x y x' y';rw[HB9.out] at t9;go_simp;exact q_k hK rfl
   all_goals clear hB hA;go_simp;exact q_k hK rfl
  intro vals wz eZ hJ;have J24:vals 8=_:=hJ 8 (by decide) (by decide);clear hJ;simp only[pr,Nat.reduceAdd,J24];clear J24;refine qg (by kernel_rfl) ?_ _;have HX2:Hid (Ext w1 wz):=HX.out.trans eZ;clear p0 p1 q0 q1 eZ;cases b9 with
  | true =>
   have HN:Hid (decide (l=l')=false):=decide_eq_false fun e=>by
    have h9:=HB9.out;rw[hx.out,hy.out,hx'.out,hy'.out,e] at h9;simp at h9
   go_wp2
   first|go_ret|skip
   rw[hQ.out,HN.out];exact⟨rfl,HX2.out⟩
  | false =>
   have HE2:Hid (∀j,j<i+1->l[j]?.getD (0,0)=l'[j]?.getD (0,0)):=fun j hj=>by
    by_cases hji:j=i
    ·subst hji;have h9:=of_decide_eq_true (HB9.out.trans (by rfl:(!false)=true));exact Prod.ext (by have:=hx.out;have:=hx'.out;omega) (by have:=hy.out;have:=hy'.out;omega)
    ·exact HE.out j (by omega)
   go_wp2;go_roundw
   case rel=>exact⟨i+1,by omega,by go_num,HE2,HX2⟩
   case measure=>simp[intOf];omega
def Mn.prv (l:List (Nat×Nat)):Mn:=⟨fun v w=>PrV w v l,fun e h=>h.ext e⟩
theorem q75{a:Nat}(h:w.heap[g]?=some (.cells #[.int .i64 (a:Int),.int .i64 (b:Int)] 64 (0,0))):PrV w (.slice (some ⟨g,0,none⟩) 1 1) [(a,b)] :=
 ⟨_,_,rfl,q_r,by unfold maxLen;omega,fun _=>⟨g,rfl,fun j u hj=>by rw[qh h];simpa[Go.Proofs.YtflhlobiipejeaaGreat.prv] using hj⟩⟩
theorem Sz4:Sz 4:=(show Ht 4 4 from ⟨by decide,by decide⟩).sz (by omega)
def exz:Nat->Nat:=fun _=>1
def q3s:Nat->Int:=fun _=>0
theorem q0e:Xp (kK exZ exz) (goE exZ exz q3s 1) 3 0 0≠0/\Xp (kK exZ exz) (goE exZ exz q3s 1) 3 1 0≠0/\Xp (kK exZ exz) (goE exZ exz q3s 1) 3 1 1≠0/\q1b (kK exZ exz) exY (goE exZ exz q3s 1) 3 1=4:=by decide +kernel
theorem q6j:HtM 3 3 3 exM:=by unfold HtM Ht;decide +kernel
theorem q7J:HtM 3 3 3 (kK exZ exz):=by unfold HtM Ht;decide +kernel
theorem q3r:HtL 3 3 exY:=by unfold HtL Ht;decide +kernel
def exo:Nat->Nat:=fun t=>if t=0 then 2 else if t=1 then 0 else 1
theorem q3m:∀t,t<3->exo t<3:=by decide
theorem q3n:∀a,a<3->∀b,b<3->exo a=exo b->a=b:=by decide
theorem q8W:SvH exZ exz exo (blF exz exM) (blR exz exY) (KS exz exo 3) 7400000 (nsv 3 exM exY) :=
 q8p q5o (fun t ht=>q3m t ht) (fun a b ha hb h=>q3n a ha b hb h) (fun _ _=>Nat.one_pos) (by decide) q3o (by omega) q6j q3r
theorem q8X:∀t,t<3->PvF exz exo 3 (blF exz exM) t:=q2s (q0r (y:=exY) q3m (fun a b ha hb h=>q3n a ha b hb h) q3o) q7F
theorem q0f:∀i,i<exZ.nb->q6C (exZ.b i):=q1F q5o q6j (by omega)
theorem q0d:∀i,i<exZ.k->jJ (exZ.R i):=q63 q5o q3r (by omega)
theorem q7E:yN (fun t=>(exo t:Int)) 3 3=true:=by decide
def exp:Nat->Int:=fun t=>if t=0 then 1 else if t=1 then 0 else 2
theorem q5p:yN exp 3 3=true:=by decide
theorem q7I:q8T exZ exp=[(0,2)]:=by
 have h:(QU (yL exZ exZ.nb) exZ.ns (fun t=>(exp t).toNat) exZ.ns).2=[(0,2)]:=by decide +kernel
 unfold q8T Ky;rw[h]
 simp
theorem q7G:(Qg (yL exZ exZ.nb) exZ.ns exZ.ns).2=[0,1,2]:=q8Y
theorem q0c:xe (kJ (goE exZ exz q3s 1)) 3=2/\(xQ (fun k=>!inL q3s 1 k) exZ.ns)=[1,2]/\yG q3s 1 exZ.ns=0:=by decide +kernel
theorem q7D:Reg (xe (goE exZ exz q3s 1) 3) (x9 (kK exZ exz) (enF (goE exZ exz q3s 1) 3)):=(q4F _ _).1 (by decide +kernel)
theorem ex_ks:∀k,k<=3->5*(5 ^ k*(3+1))<=29000000000/\gK k 3<=29000000000:=by decide
theorem q2S (w:World):Calls Tryz.prog 4 #[] w (zH w (.bool true)):=by
 obtain⟨N,hN⟩:∃N,N=w.heap.size:=⟨_,rfl⟩
 go_enter Tryz.func4,Tryz.ntmps4;go_wp2_with (go_at_call 18;refine q_o ?_);refine (VA (N:=N) (by omega)).mono ?_;rintro e w1 ⟨v1,rfl,h1,e1⟩
 obtain⟨Q1,q1,Q2,q2,Q3,q3,rfl⟩:∃Q1 q1 Q2 q2 Q3 q3,v1=.agg #[.slice Q1 3 q1,.slice Q2 5 q2,.slice Q3 3 q3]:=by
  obtain⟨Q1,q1,Q2,q2,Q3,q3,hv,-⟩:=h1.parts;exact⟨Q1,q1,Q2,q2,Q3,q3,hv⟩
 have HS1:=q_h h1;go_upto_region 2 with (fail);refine qo ?_;intro w2 e2 hsz2 B0;obtain⟨g1,hg1⟩:=qc w1.heap.size;rw[<-hg1.out] at B0 ⊢;have hg1w:w.heap.size<=g1:=by rw[hg1.out];exact e1.size
 have HS2:=q_h (HS1.out.ext e2);have HE2:Hid (Ext w w2):=e1.trans e2;have HB2:=q_h B0;obtain⟨a0,a1,a2,-⟩:=cells3 B0;have hg2:g1<w2.heap.size:=qF B0;clear h1 e1 e2 hsz2 B0 HS1;go_wp2_with (go_at_call 9;refine q_o ?_);unfold Hid;refine qo (F:=fun W=>Calls _ _ _ W _) ?_;intro w3 e3 hsz3 B3
 have HI3:IzV N 0 0 w3 (.slice (some ⟨w2.heap.size,0,none⟩) 3 3) 3 (fun t=>(exo t:Int)):=⟨rfl,_,_,rfl,q_r,by unfold maxLen;omega,fun _=>⟨_,0,rfl,fun i hi=>by
  rcases (by omega:i=0\/i=1\/i=2) with rfl|rfl|rfl
  ·exact qh B3 0
  ·exact qh B3 1
  ·exact qh B3 2⟩⟩
 refine (q3X (HS2.out.ext e3) q0f q0d Jt HI3 q7E (fun t _=>rfl) q8W).mono ?_;rintro e w4 ⟨e4,⟨-,t,ht,-,hp⟩|⟨A4,c4,lo4,hi4,rfl,-,hx⟩⟩
 ·exact absurd (q8X t ht) hp
 have HL4:Hid (LsV N lo4 hi4 w4 (.slice A4 3 c4) 3 (fun _=>1)):=LsV.congr hx fun i hi=>by
  have hi3:i<3:=hi
  rcases (by omega:i=0\/i=1\/i=2) with rfl|rfl|rfl
  ·exact q3p.1
  ·exact q3p.2.1
  ·exact q3p.2.2
 have HE4:Hid (Ext w w4):=(HE2.out.trans e3).trans e4;have HX24:Hid (Ext w2 w4):=e3.trans e4;have HB4:=q_h (HX24.out.block HB2.out);have HS4:=q_h (HS2.out.ext HX24.out);clear e3 hsz3 B3 HI3 e4 hx a0 a1 a2 HB2 HS2;obtain⟨a0,a1,a2,-⟩:=cells3 HB4.out;have hg4:g1<w4.heap.size:=qF HB4.out;go_wp2_with (go_at_call 14;refine q_o ?_);unfold Hid;refine qo (F:=fun W=>Calls _ _ _ W _) ?_;intro w5 e5 hsz5 B5
 have HI5:IzV N 0 0 w5 (.slice (some ⟨w4.heap.size,0,none⟩) 1 1) 1 q3s:=⟨rfl,_,_,rfl,q_r,by unfold maxLen;omega,fun _=>⟨_,0,rfl,fun i hi=>by
  obtain rfl:i=0:=by omega
  exact qh B5 0⟩⟩
 refine (ZZ (HS4.out.ext e5) q0f q0d Jt (z:=exz) (fun _ _=>rfl) HI5 (by omega) (n:=3) rfl (y:=exY) (fun _ _=>rfl) (K0:=3) q7J q3r ex_ks).mono ?_;rintro e w6 ⟨e6,⟨h9,-⟩|⟨-,h9,-⟩|⟨-,-,h9,-⟩|⟨-,-,-,v6,Z6,rfl,h6,hn6,hk6,ho6,-⟩⟩
 ·exact absurd q0c.2.2 h9
 ·rw[q0c.1] at h9;exact absurd h9 (by omega)
 ·exact absurd q7D h9
 rw[q0c.2.1] at hn6;rw[q0c.1] at hk6;have hb6:Z6.nb=3:=ex_nb ho6 hn6 rfl rfl q0e.1 q0e.2.1 q0e.2.2.1
 obtain⟨D1,f1,D2,f2,D3,f3,rfl,hL6⟩:∃D1 f1 D2 f2 D3 f3,v6=.agg #[.slice D1 2 f1,.slice D2 3 f2,.slice D3 2 f3]/\LsV N 0 w6.heap.size w6 (.slice D3 2 f3) 2 (q1b (kK exZ exz) exY (goE exZ exz q3s 1) 3):=by
  obtain⟨D1,f1,D2,f2,D3,f3,hv,-,-,hl,-⟩:=h6.parts;have hR:=ho6.R;rw[hn6,hb6,hk6] at hv;rw[hk6] at hl hR;exact⟨D1,f1,D2,f2,D3,f3,hv,LsR.congr hl fun i hi=>hR i hi⟩
 have HL6:=q_h hL6;have HE6:Hid (Ext w w6):=(HE4.out.trans e5).trans e6;have HX46:Hid (Ext w4 w6):=e5.trans e6;have HB6:=q_h (HX46.out.block HB4.out);have HS6:=q_h (HS4.out.ext HX46.out);have HL46:=q_h (HL4.out.ext HX46.out);clear e5 hsz5 B5 HI5 e6 h6 hn6 hk6 ho6 hb6 hL6 a0 a1 a2 HB4 HS4 HL4 hg4;go_upto_region 4 with (fail);refine qo ?_;intro w7 e7 hsz7 B7;obtain⟨g4,hg4⟩:=qc w6.heap.size;rw[<-hg4.out] at B7 ⊢;have HE7:Hid (Ext w w7):=HE6.out.trans e7;have HB7:=q_h (e7.block HB6.out);have HB47:=q_h B7;have HS7:=q_h (HS6.out.ext e7);have HL7:=q_h (HL6.out.ext e7);have HL47:=q_h (HL46.out.ext e7);clear e7 hsz7 B7 HB6 HS6 HL6 HL46;obtain⟨a0,a1,a2,-⟩:=cells3 HB7.out;have hg7:g1<w7.heap.size:=qF HB7.out;go_wp2_with (go_at_call 19;refine q_o ?_);unfold Hid;refine qo (F:=fun W=>Calls _ _ _ W _) ?_;intro w8 e8 hsz8 B8
 have HI8:IzV N 0 0 w8 (.slice (some ⟨w7.heap.size,0,none⟩) 3 3) 3 exp:=⟨rfl,_,_,rfl,q_r,by unfold maxLen;omega,fun _=>⟨_,0,rfl,fun i hi=>by
  rcases (by omega:i=0\/i=1\/i=2) with rfl|rfl|rfl
  ·exact qh B8 0
  ·exact qh B8 1
  ·exact qh B8 2⟩⟩
 refine (q9c (HS7.out.ext e8) q0f q0d HI8).mono ?_;rintro e w9 ⟨e9,⟨h9,-⟩|⟨-,h9,-⟩|⟨-,-,v9,rfl,hp9⟩⟩
 ·exact absurd Jt h9
 ·rw[show yN exp 3 exZ.ns=true from q5p] at h9;cases h9
 rw[q7I] at hp9;have HP9:=q_h hp9;obtain⟨A9,c9,rfl,-⟩:=hp9;have HE9:Hid (Ext w w9):=(HE7.out.trans e8).trans e9;have HX79:Hid (Ext w7 w9):=e8.trans e9;have HB9:=q_h (HX79.out.block HB7.out);have HB49:=q_h (HX79.out.block HB47.out);have HS9:=q_h (HS7.out.ext HX79.out);have HL9:=q_h (HL7.out.ext HX79.out);have HL49:=q_h (HL47.out.ext HX79.out);clear e8 hsz8 B8 HI8 e9 a0 a1 a2 HB7 HB47 HS7 HL7 HL47 hg7;obtain⟨a0,a1,a2,-⟩:=cells3 HB9.out;go_wp2_with (go_at_call 20;refine q_o ?_);refine (q84 HS9.out q0f q0d).mono ?_;rintro e w10 ⟨e10,⟨h9,-⟩|⟨-,A10,c10,rfl,h10⟩⟩
 ·exact absurd Jt h9
 have HO10:Hid (IzV N 0 0 w10 (.slice A10 3 c10) 3 (fun t=>(t:Int))):=by
  obtain⟨-,A,c,hv,h1,h2,h3⟩:=h10.1;refine⟨rfl,A,c,hv,h1,h2,fun hn=>?_⟩;obtain⟨b,off,hA,hx⟩:=h3 hn;refine⟨b,off,hA,fun i hi=>?_⟩;have h11:=hx i hi;rw[q7G] at h11;have hi3:i<3:=hi
  rcases (by omega:i=0\/i=1\/i=2) with rfl|rfl|rfl<;>exact h11
 have HE10:Hid (Ext w w10):=HE9.out.trans e10;have HP10:=q_h (HP9.out.ext e10);have HB410:=q_h (e10.block HB49.out);have HL10:=q_h (HL9.out.ext e10);have HL410:=q_h (HL49.out.ext e10);clear e10 h10 a0 a1 a2 HB9 HB49 HS9 HL9 HL49 HP9;obtain⟨b0,b1,b2,-⟩:=cells3 HB410.out;obtain⟨bD,oD,rfl,-,-,hx⟩:=LsV.addr HL10.out (by omega);obtain⟨n1,P3,k3,c3,P4,k4,c5,r0,r1,r2,r3,hb1,y1,y2⟩:=(hx 1 (by omega)).open;rw[q0e.2.2.2] at hb1 y1 y2;have HR1:qX N w10 (.agg #[.bool n1,.slice P3 k3 c3,.bool false,.slice P4 k4 c5]) 4:=qX.mk hb1 y1 y2;have t00:IntKind.i64.wrap 0=0:=rfl;have hNw:N<=w10.heap.size:=by have:=HE10.out.size;omega
 clear hx b0 b1 b2;obtain⟨b0,b1,b2,-⟩:=cells3 HB410.out;go_upto_region 7 with (fail);refine yB [Mn.i 0,Mn.i 0,Mn.i 0,Mn.i 0,Mn.i 0,Mn.i 0,Mn.i 0,Mn.t true,Mn.t true,Mn.eq (.slice A4 3 c4),Mn.eq (.func (.func 7) #[] #[]),Mn.rat N ((1:Int):Rat),Mn.eq (.func (.func 7) #[] #[]),Mn.rat N ((1:Int):Rat),Mn.eq (.func (.func 7) #[] #[]),Mn.rat N ((1:Int):Rat),Mn.ls N 3 (fun _=>1),Mn.t true,Mn.t true,Mn.t true,Mn.q g4 1,Mn.eq (.slice D2 3 f2),Mn.i 3,Mn.t true,Mn.t true,Mn.t true,Mn.q g4 2,Mn.eq (.slice (some ⟨bD,oD,none⟩) 2 f3),Mn.i 2,Mn.t true,Mn.t true,Mn.t true,Mn.q g4 2,Mn.eq (.slice (some ⟨bD,oD,none⟩) 2 f3),Mn.q bD (oD+4),Mn.rat N (4),Mn.eq (.func (.func 7) #[] #[]),Mn.rat N ((4:Int):Rat),Mn.t true,Mn.t true,Mn.t true,Mn.eq (.slice A9 1 c9),Mn.eq (.agg #[.int .i64 0,.int .i64 2]),Mn.prv [(0,2)],Mn.t true,Mn.t true,Mn.t true,Mn.eq (.slice A10 3 c10),Mn.sb 3 #[.int .i64 0,.int .i64 1,.int .i64 2] 3,Mn.t true,Mn.t true,Mn.t true] (sM [35,36,37,38,39,40,41,42,43,44,45,46,47,48,49,50,51,52,53,54,55,56,57,58,59,60,61,62,63,64,65,66,67,68,69,70,71,72,73,74,75,76,77,78,79,80,81,82,83,84,85,0]) [] (rQ 52 0) 0 (by kernel_rfl) ?_ ?_
 ·show ∀i,i<52->_
  iterate 52 refine fs ?_ ?_
  ·exact fz
  all_goals intro hl;clear hl;refine stp rfl ?_;intro ac wi eI hB hA K hK
  have o3:=oOf (hB 3) rfl;rotate_left;have o5:=oOf (hB 5) rfl;rotate_left;obtain⟨_,s35,rfl⟩:=hA 0 35;obtain⟨_,s36,rfl⟩:=hA 1 36;rotate_left;have o7:=oOf (hB 7) rfl;rotate_left;obtain⟨_,s37,rfl⟩:=hA 2 37;obtain⟨_,s38,rfl⟩:=hA 3 38;rotate_left;have o9:=oOf (hB 9) rfl;rotate_left;obtain⟨_,s39,rfl⟩:=hA 4 39;obtain⟨_,s40,rfl⟩:=hA 5 40;rotate_left;obtain⟨_,s41,rfl⟩:=hA 6 41;rotate_left;obtain⟨_,s42,rfl⟩:=hA 7 42;rotate_left;obtain⟨_,s43,rfl⟩:=hA 8 43;have o2:=oOf (hB 2) rfl;rw[if_pos (by simp[Region.wanted,yielded,s43])];rotate_left;obtain⟨_,s43,rfl⟩:=hA 8 43;have o10:=oOf (hB 10) rfl;rw[if_pos (by simp[Region.wanted,yielded,s43])];rotate_left;obtain⟨_,s43,rfl⟩:=hA 8 43;obtain⟨_,s45,rfl⟩:=hA 10 45;clear hB hA;rw[if_pos (by simp[Region.wanted,yielded,s43])]
  ·go_simp;refine (kV (N:=N) (q_l hNw eI.size) 1 (by omega) (by omega)).mono ?_;rintro e wj ⟨vj,rfl,hj,ej⟩;go_wp2_with fail;exact hK.out _ _ ej hj
  obtain⟨_,s43,rfl⟩:=hA 8 43;have o10:=oOf (hB 10) rfl;rw[if_pos (by simp[Region.wanted,yielded,s43])];rotate_left;obtain⟨_,s43,rfl⟩:=hA 8 43;obtain⟨_,s47,rfl⟩:=hA 12 47;clear hB hA;rw[if_pos (by simp[Region.wanted,yielded,s43])]
  ·go_simp;refine (kV (N:=N) (q_l hNw eI.size) 1 (by omega) (by omega)).mono ?_;rintro e wj ⟨vj,rfl,hj,ej⟩;go_wp2_with fail;exact hK.out _ _ ej hj
  obtain⟨_,s43,rfl⟩:=hA 8 43;have o10:=oOf (hB 10) rfl;rw[if_pos (by simp[Region.wanted,yielded,s43])];rotate_left;obtain⟨_,s43,rfl⟩:=hA 8 43;obtain⟨_,s49,rfl⟩:=hA 14 49;clear hB hA;rw[if_pos (by simp[Region.wanted,yielded,s43])]
  ·go_simp;refine (kV (N:=N) (q_l hNw eI.size) 1 (by omega) (by omega)).mono ?_;rintro e wj ⟨vj,rfl,hj,ej⟩;go_wp2_with fail;exact hK.out _ _ ej hj
  obtain⟨_,s43,rfl⟩:=hA 8 43;obtain⟨x46,s46,j46⟩:=hA 11 46;replace j46:Mn.p (Mn.rat N ((1:Int):Rat)) x46 wi:=j46;obtain⟨x48,s48,j48⟩:=hA 13 48;replace j48:Mn.p (Mn.rat N ((1:Int):Rat)) x48 wi:=j48;obtain⟨x50,s50,j50⟩:=hA 15 50;replace j50:Mn.p (Mn.rat N ((1:Int):Rat)) x50 wi:=j50;clear hB hA;rw[if_pos (by simp[Region.wanted,yielded,s43])]
  ·obtain⟨p1,P5,k5,c6,P6,k6,c7,rfl,hp1,z1,z2⟩:=qX.parts j46;obtain⟨p2,P7,k7,c8,P8,k8,c11,rfl,hp2,z3,z4⟩:=qX.parts j48;obtain⟨p3,P9,k9,c12,P10,k10,c13,rfl,hp3,z5,z6⟩:=qX.parts j50;go_simp;refine qo ?_;intro wj ej hszj BJ;exact hK.out _ _ ej (KQ (q_l (q_l hNw eI.size) ej.size) BJ hp1 (z1.ext ej) (z2.ext ej) hp2 (z3.ext ej) (z4.ext ej) hp3 (z5.ext ej) (z6.ext ej) ⟨rfl,rfl,rfl⟩)
  obtain⟨_,s43,rfl⟩:=hA 8 43;obtain⟨_,s44,rfl⟩:=hA 9 44;obtain⟨x51,s51,j51⟩:=hA 16 51;replace j51:Mn.p (Mn.ls N 3 (fun _=>1)) x51 wi:=j51;clear hB hA;rw[if_pos (by simp[Region.wanted,yielded,s43])]
  ·go_simp;refine (vC (HL410.out.ext eI) j51 (fun _ _=>Ht.one.sz (by omega)) (fun _ _=>rfl)).mono ?_;rintro e wj ⟨rfl,ej⟩;go_wp2_with fail;exact hK.out _ _ ej rfl
  obtain⟨_,s43,rfl⟩:=hA 8 43;obtain⟨_,s52,rfl⟩:=hA 17 52;rotate_left;obtain⟨_,s53,rfl⟩:=hA 18 53;rotate_left;obtain⟨_,s54,rfl⟩:=hA 19 54;have o4:=oOf (hB 4) rfl;rw[if_pos (by simp[Region.wanted,yielded,s54])];rotate_left;obtain⟨_,s54,rfl⟩:=hA 19 54;obtain⟨_,s55,rfl⟩:=hA 20 55;rw[if_pos (by simp[Region.wanted,yielded,s54])];have cc0:=eI.cell b1;rotate_left;obtain⟨_,s54,rfl⟩:=hA 19 54;obtain⟨_,s56,rfl⟩:=hA 21 56;rw[if_pos (by simp[Region.wanted,yielded,s54])];rotate_left;obtain⟨_,s54,rfl⟩:=hA 19 54;obtain⟨_,s57,rfl⟩:=hA 22 57;rw[if_pos (by simp[Region.wanted,yielded,s54])];rotate_left;obtain⟨_,s54,rfl⟩:=hA 19 54;obtain⟨_,s58,rfl⟩:=hA 23 58;rotate_left;obtain⟨_,s59,rfl⟩:=hA 24 59;rotate_left;obtain⟨_,s60,rfl⟩:=hA 25 60;have o4:=oOf (hB 4) rfl;rw[if_pos (by simp[Region.wanted,yielded,s60])];rotate_left;obtain⟨_,s60,rfl⟩:=hA 25 60;obtain⟨_,s61,rfl⟩:=hA 26 61;rw[if_pos (by simp[Region.wanted,yielded,s60])];have cc0:=eI.cell b2;rotate_left;obtain⟨_,s60,rfl⟩:=hA 25 60;obtain⟨_,s62,rfl⟩:=hA 27 62;rw[if_pos (by simp[Region.wanted,yielded,s60])];rotate_left;obtain⟨_,s60,rfl⟩:=hA 25 60;obtain⟨_,s63,rfl⟩:=hA 28 63;rw[if_pos (by simp[Region.wanted,yielded,s60])];rotate_left;obtain⟨_,s60,rfl⟩:=hA 25 60;obtain⟨_,s64,rfl⟩:=hA 29 64;rotate_left;obtain⟨_,s65,rfl⟩:=hA 30 65;rotate_left;obtain⟨_,s66,rfl⟩:=hA 31 66;have o4:=oOf (hB 4) rfl
  rw[if_pos (by simp[Region.wanted,yielded,s66])];rotate_left;obtain⟨_,s66,rfl⟩:=hA 31 66;obtain⟨_,s67,rfl⟩:=hA 32 67;rw[if_pos (by simp[Region.wanted,yielded,s66])];have cc0:=eI.cell b2;rotate_left;obtain⟨_,s66,rfl⟩:=hA 31 66;obtain⟨_,s68,rfl⟩:=hA 33 68;rw[if_pos (by simp[Region.wanted,yielded,s66])];rotate_left;obtain⟨_,s66,rfl⟩:=hA 31 66;obtain⟨_,s69,rfl⟩:=hA 34 69;clear hB hA;rw[if_pos (by simp[Region.wanted,yielded,s66])];have cc0:=eI.cell r0;have cc1:=eI.cell r1;have cc2:=eI.cell r2;have cc3:=eI.cell r3
  ·go_simp;exact q_k hK (HR1.ext eI)
  obtain⟨_,s66,rfl⟩:=hA 31 66;have o10:=oOf (hB 10) rfl;rw[if_pos (by simp[Region.wanted,yielded,s66])];rotate_left;obtain⟨_,s66,rfl⟩:=hA 31 66;obtain⟨_,s71,rfl⟩:=hA 36 71;clear hB hA;rw[if_pos (by simp[Region.wanted,yielded,s66])]
  ·go_simp;refine (kV (N:=N) (q_l hNw eI.size) 4 (by omega) (by omega)).mono ?_;rintro e wj ⟨vj,rfl,hj,ej⟩;go_wp2_with fail;exact hK.out _ _ ej hj
  obtain⟨_,s66,rfl⟩:=hA 31 66;obtain⟨x70,s70,j70⟩:=hA 35 70;replace j70:Mn.p (Mn.rat N (4)) x70 wi:=j70;obtain⟨x72,s72,j72⟩:=hA 37 72;replace j72:Mn.p (Mn.rat N ((4:Int):Rat)) x72 wi:=j72;clear hB hA;rw[if_pos (by simp[Region.wanted,yielded,s66])]
  ·go_simp;refine (q2h j70 j72 (Sz4) rfl).mono ?_;rintro e wj ⟨rfl,ej⟩;go_wp2_with fail;exact hK.out _ _ ej rfl
  obtain⟨_,s66,rfl⟩:=hA 31 66;obtain⟨_,s73,rfl⟩:=hA 38 73;rotate_left;obtain⟨_,s74,rfl⟩:=hA 39 74;rotate_left;obtain⟨_,s75,rfl⟩:=hA 40 75;have o6:=oOf (hB 6) rfl;rw[if_pos (by simp[Region.wanted,yielded,s75])];rotate_left;obtain⟨_,s75,rfl⟩:=hA 40 75;rw[if_pos (by simp[Region.wanted,yielded,s75])];rotate_left;obtain⟨_,s75,rfl⟩:=hA 40 75;obtain⟨_,s77,rfl⟩:=hA 42 77;clear hB hA;rw[if_pos (by simp[Region.wanted,yielded,s75])]
  ·go_simp;refine qo ?_;intro wj ej hszj BJ;exact hK.out _ _ ej (q75 BJ)
  obtain⟨_,s75,rfl⟩:=hA 40 75;obtain⟨_,s76,rfl⟩:=hA 41 76;obtain⟨x78,s78,j78⟩:=hA 43 78;replace j78:Mn.p (Mn.prv [(0,2)]) x78 wi:=j78;clear hB hA;rw[if_pos (by simp[Region.wanted,yielded,s75])]
  ·go_simp;refine (q1N (HP10.out.ext eI) j78).mono ?_;rintro e wj ⟨rfl,ej⟩;go_wp2_with fail;exact hK.out _ _ ej rfl
  obtain⟨_,s75,rfl⟩:=hA 40 75;obtain⟨_,s79,rfl⟩:=hA 44 79;rotate_left;obtain⟨_,s80,rfl⟩:=hA 45 80;rotate_left;obtain⟨_,s81,rfl⟩:=hA 46 81;have o8:=oOf (hB 8) rfl;rw[if_pos (by simp[Region.wanted,yielded,s81])];rotate_left;obtain⟨_,s81,rfl⟩:=hA 46 81;clear hB hA;rw[if_pos (by simp[Region.wanted,yielded,s81])]
  ·go_simp;refine qo ?_;intro wj ej hszj BJ;exact hK.out _ _ ej ⟨_,rfl,BJ⟩
  obtain⟨_,s81,rfl⟩:=hA 46 81;obtain⟨_,s82,rfl⟩:=hA 47 82;obtain⟨x83,s83,j83⟩:=hA 48 83;replace j83:Mn.p (Mn.sb 3 #[.int .i64 0,.int .i64 1,.int .i64 2] 3) x83 wi:=j83;clear hB hA;rw[if_pos (by simp[Region.wanted,yielded,s81])]
  ·obtain⟨gb,rfl,BB⟩:=j83;go_simp;refine (q1O (N:=N) (lo':=0) (hi':=0) (z':=fun t=>(t:Int)) (HO10.out.ext eI) ⟨rfl,_,_,rfl,q_r,by unfold maxLen;omega,fun _=>⟨gb,0,rfl,fun i hi=>?_⟩⟩).mono ?_
   ·rcases (by omega:i=0\/i=1\/i=2) with rfl|rfl|rfl
    ·exact qh BB 0
    ·exact qh BB 1
    ·exact qh BB 2
   rintro e wj ⟨rfl,ej⟩;rw[qm.2 (fun i _=>decide_eq_true rfl)];go_wp2_with fail;exact hK.out _ _ ej rfl
  obtain⟨_,s81,rfl⟩:=hA 46 81;obtain⟨_,s84,rfl⟩:=hA 49 84;rotate_left;obtain⟨_,s85,rfl⟩:=hA 50 85;rotate_left
  all_goals clear hB hA;go_simp;exact q_k hK rfl
 intro vals wz eZ hJ;have J0:vals 51=_:=hJ 51 (by decide) (by decide);clear hJ;simp only[pr,Nat.reduceAdd,J0];clear J0;refine qg (by kernel_rfl) ?_ _;go_wp2
 first|go_ret|skip
 exact⟨rfl,HE10.out.trans eZ⟩
theorem q8x{z:Nat->Int}(h:IzV N lo hi w v n z) (k:Int) :
  Calls Tryz.prog 89 #[v,.int .i64 k] w (zH w (.bool (kT n (fun t=>decide (z t=k))))):=by
 obtain⟨Q,hQ⟩:=qc (zH w (.bool (kT n (fun t=>decide (z t=k)))));rw[<-hQ.out];obtain⟨A1,c1,rfl,k1,k2⟩:=h.form;unfold maxLen at k2;have HI:=q_h h;clear h;obtain⟨w1,hw1⟩:∃w1,w1=w:=⟨_,rfl⟩
 have hw1':=q_h hw1;subst hw1;go_enter Tryz.func89,Tryz.ntmps89;go_wp2_with fail
 go_loopw [5] (fun iv wr=>∃i:Nat,i<=n/\iv=.int .i64 (i:Int)/\Hid (∀j,j<i->z j≠k)/\wr=w1) (fun iv _=>n-(intOf iv).toNat)
 case atStart=>exact⟨0,Nat.zero_le _,rfl,fun j hj=>absurd hj (Nat.not_lt_zero j),rfl⟩
 case round =>
  obtain⟨i,hi9,rfl,HE,rfl⟩:=hrel
  by_cases hlt:i<n
  case neg =>
   have t1:decide ((i:Int)<(n:Int))=false:=q_f (by omega);obtain rfl:n=i:=by omega
   have HF:Hid (kT n (fun t=>decide (z t=k))=false):=qZ.2 fun j hj=>q_f (HE.out j hj)
   go_wp2
   first|go_ret|skip
   rw[hQ.out,HF.out];exact⟨rfl,Ext.refl _⟩
  have t1:decide ((i:Int)<(n:Int))=true:=q_t (by omega);have t2:(i:Int)<(n:Int):=by omega
  obtain⟨b,off,rfl,hx⟩:=HI.out.addr (by omega);have p0:=hx i hlt;obtain⟨x,hx1⟩:=qc (z i);rw[<-hx1.out] at p0;clear hx
  by_cases h9:x=k
  ·have t3:(x == k)=true:=by simpa using h9
   have HT:Hid (kT n (fun t=>decide (z t=k))=true):=yw hlt (q_t (by rw[<-hx1.out];exact h9));clear h9;go_wp2
   first|go_ret|skip
   rw[hQ.out,HT.out];exact⟨rfl,Ext.refl _⟩
  have t3:(x == k)=false:=by simpa using h9
  have HE2:Hid (∀j,j<i+1->z j≠k):=fun j hj=>by
   by_cases hji:j=i
   ·rw[hji,<-hx1.out];exact h9
   ·exact HE.out j (by omega)
  clear h9;go_wp2;go_roundw
  case rel=>exact⟨i+1,by omega,by go_num,HE2,by first|rfl|trivial⟩
  case measure=>simp[intOf];omega
def Y3 (n:Nat) (z:Nat->Int):Bool:=decide (1<=n)&&decide (n<=12)&&allB n (fun i=>sz1 (z i))&&decide (jK z n<=64)
theorem q4x{z:Nat->Int}(h:IzV N lo hi w v n z) :
  Calls Tryz.prog 53 #[v] w (zH w (.int .i64 (if Y3 n z=true then jK z n else -1))):=by
 obtain⟨Q,hQ⟩:=qc (zH w (.int .i64 (if Y3 n z=true then jK z n else -1)));rw[<-hQ.out];obtain⟨A1,c1,rfl,k1,k2⟩:=h.form;unfold maxLen at k2;have HI:=q_h h;clear h;have HB:Hid (Y3 n z=false->Q=zH w (.int .i64 (-1))):=fun h=>by rw[hQ.out,h];rfl
 obtain⟨w1,hw1⟩:∃w1,w1=w:=⟨_,rfl⟩
 have hw1':=q_h hw1;subst hw1
 by_cases h1:n<1
 ·have t1:decide ((n:Int)<1)=true:=q_t (by omega);have HF:Hid (Y3 n z=false):=by unfold Y3;rw[q_f (by omega)];rfl
  clear h1;go_enter Tryz.func53,Tryz.ntmps53;go_wp2
  first|go_ret|skip
  rw[HB.out HF.out];exact⟨rfl,Ext.refl _⟩
 have t1:decide ((n:Int)<1)=false:=q_f (by omega)
 by_cases h2:12<n
 ·have t2:decide ((12:Int)<(n:Int))=true:=q_t (by omega);have HF:Hid (Y3 n z=false):=by unfold Y3;rw[q_f (show ¬n<=12 by omega),Bool.and_false];rfl
  clear h2;go_enter Tryz.func53,Tryz.ntmps53;go_wp2
  first|go_ret|skip
  rw[HB.out HF.out];exact⟨rfl,Ext.refl _⟩
 have t2:decide ((12:Int)<(n:Int))=false:=q_f (by omega);have hn1:1<=n:=by omega
 have hn12:n<=12:=by omega
 clear h1 h2;go_enter Tryz.func53,Tryz.ntmps53;go_wp2_with fail
 go_loopw [4,3] (fun iv sv wr=>∃(i:Nat) (s:Int),i<=n/\iv=.int .i64 (i:Int)/\sv=.int .i64 s/\Hid (s=jK z i)/\(i:Int)<=s/\s<=12*(i:Int)/\Hid (∀j,j<i->sz1 (z j)=true)/\wr=w1) (fun iv _ _=>n-(intOf iv).toNat)
 case atStart=>exact⟨0,0,Nat.zero_le _,rfl,rfl,rfl,by omega,by omega,fun j hj=>absurd hj (Nat.not_lt_zero j),rfl⟩
 case round =>
  clear t1 t2;obtain⟨i,s,hi9,rfl,rfl,HS,hs1,hs2,HE,rfl⟩:=hrel
  by_cases hlt:i<n
  case neg =>
   have t1:decide ((i:Int)<(n:Int))=false:=q_f (by omega);obtain rfl:n=i:=by omega
   by_cases h64:(64:Int)<s
   ·have t3:decide ((64:Int)<s)=true:=q_t h64;have HF:Hid (Y3 n z=false):=by unfold Y3;rw[q_f (show ¬jK z n<=64 by rw[<-HS.out];omega),Bool.and_false];rfl
    clear h64;go_wp2
    first|go_ret|skip
    rw[HB.out HF.out];exact⟨rfl,Ext.refl _⟩
   have t3:decide ((64:Int)<s)=false:=q_f h64
   have HT:Hid (Y3 n z=true):=by
    unfold Y3;rw[q_t hn1,q_t hn12,qm.2 HE.out,q_t (by rw[<-HS.out];omega)]
    rfl
   clear h64;go_wp2
   first|go_ret|skip
   rw[hQ.out,HT.out,if_pos rfl,<-HS.out];exact⟨rfl,Ext.refl _⟩
  have t1:decide ((i:Int)<(n:Int))=true:=q_t (by omega);have t2:(i:Int)<(n:Int):=by omega
  obtain⟨b,off,rfl,hx⟩:=HI.out.addr (by omega);have p0:=hx i hlt;obtain⟨x,hx1⟩:=qc (z i);rw[<-hx1.out] at p0;clear hx
  by_cases h9:1<=x/\x<=12
  case neg =>
   have HF:Hid (Y3 n z=false):=by
    unfold Y3;rw[qL hlt (show sz1 (z i)=false by rw[Bool.eq_false_iff];intro h;have:=kU.1 h;rw[<-hx1.out] at this;exact h9 this),Bool.and_false]
    rfl
   by_cases hx0:x<1
   ·have t3:decide (x<1)=true:=q_t hx0;clear h9 hx0;go_wp2
    first|go_ret|skip
    rw[HB.out HF.out];exact⟨rfl,Ext.refl _⟩
   have t3:decide (x<1)=false:=q_f hx0;have t4:decide (12<x)=true:=q_t (by omega);clear h9 hx0;go_wp2
   first|go_ret|skip
   rw[HB.out HF.out];exact⟨rfl,Ext.refl _⟩
  have t3:decide (x<1)=false:=q_f (by omega);have t4:decide (12<x)=false:=q_f (by omega);have t5:IntKind.i64.wrap (s+x)=s+x:=wrp (by omega) (by omega)
  have HE2:Hid (∀j,j<i+1->sz1 (z j)=true):=fun j hj=>by
   by_cases hji:j=i
   ·rw[hji,kU,<-hx1.out];exact h9
   ·exact HE.out j (by omega)
  have HS2:Hid (s+x=jK z (i+1)):=by rw[HS.out,hx1.out];rfl
  obtain⟨h9a,h9b⟩:=h9;go_wp2;go_roundw
  case rel=>exact⟨i+1,_,by omega,by go_num,rfl,HS2,by omega,by omega,HE2,by first|rfl|trivial⟩
  case measure=>simp[intOf];omega
theorem Zy{L:Nat->Nat}{A:Nat->Nat->Raw}(h:MtR N lo hi w v m L A) (r c:Int) :
  Calls Tryz.prog 54 #[v,.int .i64 r,.int .i64 c] w (zH w (.bool (decide ((m:Int)=r)&&allB m (fun i=>decide ((L i:Int)=c))))):=by
 obtain⟨Q,hQ⟩:=qc (zH w (.bool (decide ((m:Int)=r)&&allB m (fun i=>decide ((L i:Int)=c)))));rw[<-hQ.out];obtain⟨A1,c1,rfl,k1,k2⟩:=h.form;unfold maxLen at k2;have HI:=q_h h;clear h;obtain⟨w1,hw1⟩:∃w1,w1=w:=⟨_,rfl⟩
 have hw1':=q_h hw1;subst hw1
 by_cases h1:(m:Int)=r
 case neg =>
  have t1:((m:Int) != r)=true:=by simpa using h1
  have HF:Hid (decide ((m:Int)=r)=false):=q_f h1;clear h1;go_enter Tryz.func54,Tryz.ntmps54;go_wp2
  first|go_ret|skip
  rw[hQ.out,HF.out,Bool.false_and];exact⟨rfl,Ext.refl _⟩
 have t1:((m:Int) != r)=false:=by simpa using h1
 have HT:Hid (decide ((m:Int)=r)=true):=q_t h1;clear h1;go_enter Tryz.func54,Tryz.ntmps54;go_wp2_with fail
 go_loopw [7] (fun iv wr=>∃i:Nat,i<=m/\iv=.int .i64 (i:Int)/\Hid (∀j,j<i->(L j:Int)=c)/\wr=w1) (fun iv _=>m-(intOf iv).toNat)
 case atStart=>exact⟨0,Nat.zero_le _,rfl,fun j hj=>absurd hj (Nat.not_lt_zero j),rfl⟩
 case round =>
  clear t1;obtain⟨i,hi9,rfl,HE,rfl⟩:=hrel
  by_cases hlt:i<m
  case neg =>
   have t1:decide ((i:Int)<(m:Int))=false:=q_f (by omega);obtain rfl:m=i:=by omega
   go_wp2
   first|go_ret|skip
   rw[hQ.out,HT.out,qm.2 (fun j hj=>q_t (HE.out j hj))];exact⟨rfl,Ext.refl _⟩
  have t1:decide ((i:Int)<(m:Int))=true:=q_t (by omega);have t2:(i:Int)<(m:Int):=by omega
  obtain⟨b,off,rfl,-,-,hx⟩:=MtR.addr HI.out (by omega);obtain⟨A7,c7,p0,-,-,-⟩:=hx i hlt;obtain⟨x,hx1⟩:=qc (L i);rw[<-hx1.out] at p0;clear hx
  by_cases h9:(x:Int)=c
  case neg =>
   have t3:((x:Int) != c)=true:=by simpa using h9
   have HF:Hid (allB m (fun i=>decide ((L i:Int)=c))=false):=qL hlt (q_f (by rw[<-hx1.out];exact h9));clear h9;go_wp2
   first|go_ret|skip
   rw[hQ.out,HF.out,Bool.and_false];exact⟨rfl,Ext.refl _⟩
  have t3:((x:Int) != c)=false:=by simpa using h9
  have HE2:Hid (∀j,j<i+1->(L j:Int)=c):=fun j hj=>by
   by_cases hji:j=i
   ·rw[hji,<-hx1.out];exact h9
   ·exact HE.out j (by omega)
  clear h9;go_wp2;go_roundw
  case rel=>exact⟨i+1,by omega,by go_num,HE2,by first|rfl|trivial⟩
  case measure=>simp[intOf];omega
theorem sign_zero {y:Rat}:(x-y).num.sign=0↔x=y:=by
 constructor
 ·intro h;have h1:=Int.sign_eq_zero_iff_zero.1 h;have h2:=Rat.num_eq_zero.1 h1
  grind
 ·rintro rfl;rw[Rat.sub_self];rfl
theorem q4I{v':Value}{y:Rat}(h:qX N w v x) (h':qX N w v' y) (hz:Sz x) (hz':Sz y) (hd:Sz (x-y)) :
  Calls Tryz.prog 21 #[v,v'] w (zH w (.bool (decide (x=y)))):=by
 obtain⟨r,hr⟩:=qc (decide (x=y));obtain⟨s,hs⟩:=qc (x-y).num.sign
 have hrs:r=decide (s=0):=by
  rw[hr.out,hs.out]
  by_cases he:x=y
  ·rw[q_t he,q_t (sign_zero.2 he)]
  ·rw[q_f he,q_f (fun h=>he (sign_zero.1 h))]
 rw[<-hr.out];have HD:=q_h hd;have hI:=h;have hI':=h';have HZ:=q_h hz;have HZ':=q_h hz';have HR:=q_h hrs;obtain⟨m1,X1,i1,d1,X2,i2,d2,rfl,hm1,gx1,gx2⟩:=h.parts;obtain⟨m2,Y1,i3,d3,Y2,i4,d4,rfl,hm2,gy1,gy2⟩:=h'.parts;clear hz hz' hd h h' gx1 gx2 gy1 gy2 hrs;go_enter Tryz.func21,Tryz.ntmps21;go_wp2_with (go_at_call 41;refine q_o ?_);refine jF ?_;intro W hE hsz B0 B1;refine (ww (R:=raw x) (hI.ext hE) (jL HZ.out).1 (jL HZ.out).2).mono ?_;rintro e w1 ⟨rfl,e1⟩;rw[ja];replace hE:=hE.trans e1;replace B0:=e1.block B0;replace B1:=e1.block B1;obtain⟨b0,b1,b2,b3,-⟩:=cells4 B1;go_wp2_with (go_at_call 41;refine q_o ?_);refine (ww (R:=raw y) (hI'.ext hE) (jL HZ'.out).1 (jL HZ'.out).2).mono ?_;rintro e w2 ⟨rfl,e2⟩;rw[ja];replace hE:=hE.trans e2;replace B0:=e2.block B0;replace B1:=e2.block B1;clear b0 b1 b2 b3;obtain⟨a0,a1,a2,a3,-⟩:=cells4 B0;obtain⟨b0,b1,b2,b3,-⟩:=cells4 B1;go_wp2_with (go_at_call 66;refine q_o ?_);refine (X0 (hI.ext hE) (hI'.ext hE) HZ.out HZ'.out HD.out).mono ?_;rintro e w3 ⟨rfl,e3⟩;rw[<-hs.out]
 by_cases h0:s=0
 ·have HR1:Hid (r=true):=by rw[Hid,HR.out,q_t h0]
  subst h0;go_wp2;go_ret;exact⟨qB HR1.out.symm,hE.trans e3⟩
 ·have HR1:Hid (r=false):=by rw[Hid,HR.out,q_f h0]
  have hs0:(s == 0)=false:=by simpa using h0
  go_wp2;go_ret;exact⟨qB HR1.out.symm,hE.trans e3⟩
theorem Yf {lo' hi':Nat}{v':Value}{x y:q_v}(h:LsV N lo hi w v n x) (h':LsV N lo' hi' w v' n y) (hz:∀i,i<n->Sz (x i)/\Sz (y i)/\Sz (x i-y i)) :
  Calls Tryz.prog 11 #[v,v'] w (zH w (.bool (allB n (fun i=>decide (x i=y i))))):=by
 obtain⟨r,hr⟩:=qc (allB n (fun i=>decide (x i=y i)));rw[<-hr.out];obtain⟨A,c,rfl,hnc,hcm⟩:=h.form;obtain⟨A',c',rfl,hnc',hcm'⟩:=h'.form;unfold maxLen at hcm hcm';have hI:=h;have hI':=h';have HZ:=q_h hz;clear hz h h';go_enter Tryz.func11,Tryz.ntmps11;go_wp2
 go_loopw [5] (fun i wr=>∃k:Nat,k<=n/\i=.int .i64 k/\Ext w wr/\Hid (∀j,j<k->decide (x j=y j)=true)) (fun i _=>n-(intOf i).toNat)
 case atStart=>exact⟨0,Nat.zero_le _,rfl,Ext.refl w,fun j hj=>absurd hj (by omega)⟩
 case round =>
  obtain⟨k,hk,rfl,hE,HA⟩:=hrel
  by_cases hlt:k<n
  ·obtain⟨b,off,rfl,-,-,hx⟩:=(hI.ext hE).addr (by omega);obtain⟨b',off',rfl,-,-,hx'⟩:=(hI'.ext hE).addr (by omega);obtain⟨A1,n1,c1,A2,n2,c2,p0,p1,p2,p3,hv⟩:=(hx k hlt).val;obtain⟨A3,n3,c3,A4,n4,c4,q0,q1,q2,q3,hv'⟩:=(hx' k hlt).val;obtain⟨o,ho⟩:=qc (decide (x k=y k));clear hx hx';go_wp2
   go_cut [26] (fun pb wx=>pb=.bool (!o)/\Ext wr wx)
   case first =>
    have eC:=(Ext.refl wr).drew;refine qw (fun w'=>w'.cell? ⟨b,off+k*4,none⟩=some (.bool (raw (x k)).b1)/\w'.cell? ⟨b,off+k*4+1,none⟩=some (.slice A1 n1 c1)/\w'.cell? ⟨b,off+k*4+2,none⟩=some (.bool (raw (x k)).b2)/\w'.cell? ⟨b,off+k*4+3,none⟩=some (.slice A2 n2 c2)/\w'.cell? ⟨b',off'+k*4,none⟩=some (.bool (raw (y k)).b1)/\w'.cell? ⟨b',off'+k*4+1,none⟩=some (.slice A3 n3 c3)/\w'.cell? ⟨b',off'+k*4+2,none⟩=some (.bool (raw (y k)).b2)/\w'.cell? ⟨b',off'+k*4+3,none⟩=some (.slice A4 n4 c4)) [] (by kernel_rfl) (by exact⟨eC.cell p0,eC.cell p1,eC.cell p2,eC.cell p3,eC.cell q0,eC.cell q1,eC.cell q2,eC.cell q3⟩) (fun hHeld=>?_);refine sP 0 (h:=?_);refine sP 1 (h:=?_);refine sP 2 (h:=?_);refine sT 3 (h:=?_);refine sP 4 (h:=?_);refine sP 5 (h:=?_);refine sP 6 (h:=?_);refine sT 7 (h:=?_);refine qp (i:=8) rfl (by kernel_rfl) (fun K hK=>?_);go_simp;refine (q4I (x:=x k) (y:=y k) (by exact hv.ext eC) (by exact hv'.ext eC) (HZ.out k hlt).1 (HZ.out k hlt).2.1 (HZ.out k hlt).2.2).mono ?_;rw[<-ho.out];rintro e w1 ⟨rfl,e1⟩;replace eC:=eC.trans e1;go_wp2_with fail;clear hHeld;refine hK.out _ _ (by exact⟨eC.cell p0,eC.cell p1,eC.cell p2,eC.cell p3,eC.cell q0,eC.cell q1,eC.cell q2,eC.cell q3⟩) fun hHeld=>?_
    clear hK K;try simp only[nr]
    refine sP 9 (h:=?_);refine qg (by kernel_rfl) ?_ _;clear hHeld;go_wp2_with fail
    go_meet
    exact⟨rfl,eC⟩
   case rest =>
    obtain⟨rfl,e1⟩:=hcut;replace hE:=hE.trans e1;have HO:Hid (decide (x k=y k)=o):=ho.out.symm;clear p0 p1 p2 p3 q0 q1 q2 q3 hv hv' ho;cases ho':o with
    | true =>
     subst ho';go_wp2;go_roundw
     case rel=>exact⟨k+1,by omega,by go_num,hE,xn (p:=fun j=>decide (x j=y j)=true) HA.out HO.out⟩
     case measure=>simp[intOf];omega
    | false =>
     subst ho';have HF:Hid (r=false):=by rw[Hid,hr.out];exact qL hlt HO.out
     go_wp2;go_ret;exact⟨qB HF.out.symm,hE⟩
  ·have HF:Hid (r=true):=by rw[Hid,hr.out];exact qm.2 (fun j hj=>HA.out j (by omega))
   go_wp2;go_ret;exact⟨qB HF.out.symm,hE⟩
theorem KE {lo' hi':Nat}{v':Value}{x y:q_m}(h:MtV N lo hi w v m n x) (h':MtV N lo' hi' w v' m n y) (hz:∀i,i<m->∀j,j<n->Sz (x i j)/\Sz (y i j)/\Sz (x i j-y i j)) :
  Calls Tryz.prog 107 #[v,v'] w (zH w (.bool (allB m (fun i=>allB n (fun j=>decide (x i j=y i j)))))):=by
 obtain⟨Q,hQ⟩:=qc (zH w (.bool (allB m (fun i=>allB n (fun j=>decide (x i j=y i j))))));rw[<-hQ.out];obtain⟨A,c,rfl,hnc,hcm⟩:=h.form;obtain⟨A',c',rfl,hnc',hcm'⟩:=h'.form;unfold maxLen at hcm hcm';have hI:=q_h h;have hI':=q_h h';have HZ:=q_h hz;clear hz h h';obtain⟨w1,hw1⟩:∃w1,w1=w:=⟨_,rfl⟩
 have hw1':=q_h hw1;subst hw1;go_enter Tryz.func107,Tryz.ntmps107;go_wp2
 go_loopw [5] (fun i wr=>∃k:Nat,k<=m/\i=.int .i64 k/\Hid (Ext w1 wr)/\Hid (∀j,j<k->allB n (fun c=>decide (x j c=y j c))=true)) (fun i _=>m-(intOf i).toNat)
 case atStart=>exact⟨0,Nat.zero_le _,rfl,Ext.refl w1,fun j hj=>absurd hj (Nat.not_lt_zero j)⟩
 case round =>
  obtain⟨k,hk,rfl,hE,HA⟩:=hrel
  by_cases hlt:k<m
  case neg =>
   obtain rfl:m=k:=by omega
   go_wp2
   first|go_ret|skip
   rw[hQ.out,qm.2 HA.out];exact⟨rfl,hE.out⟩
  obtain⟨b,off,rfl,-,-,hx⟩:=(MtR.ext hI.out hE.out).addr (by omega);obtain⟨b',off',rfl,-,-,hx'⟩:=(MtR.ext hI'.out hE.out).addr (by omega);obtain⟨A1,c1,p0,-,-,hv⟩:=hx k hlt;obtain⟨A3,c3,q0,-,-,hv'⟩:=hx' k hlt;have HV:=q_h hv;have HV':=q_h hv';obtain⟨o,ho⟩:=qc (allB n (fun c=>decide (x k c=y k c)));obtain⟨wq,hwq⟩:∃wq,wq=wr:=⟨_,rfl⟩
  subst hwq;clear hx hx' hv hv';go_upto_region 6 with (fail);refine yB [Mn.eq (.slice (some ⟨b,off,none⟩) m c),Mn.i (k:Int),Mn.q b (off+k),Mn.eq (.slice A1 n c1),Mn.eq (.slice (some ⟨b',off',none⟩) m c'),Mn.i (k:Int),Mn.q (b') (off'+k),Mn.eq (.slice A3 n c3),Mn.t o,Mn.t (!o)] (sM [17,18,19,20,21,22,23,24,25,26]) [] (rQ 10 0) 0 (by kernel_rfl) ?_ ?_
  ·show ∀i,i<10->_
   iterate 10 refine fs ?_ ?_
   ·exact fz
   all_goals intro hl;clear hl;refine stp rfl ?_;intro ac wi eI hB hA K hK
   have o0:=oOf (hB 0) rfl;rotate_left;have o5:=oOf (hB 5) rfl;rotate_left;obtain⟨_,s17,rfl⟩:=hA 0 17;obtain⟨_,s18,rfl⟩:=hA 1 18;rotate_left;obtain⟨_,s19,rfl⟩:=hA 2 19;have cc0:=eI.cell p0;rotate_left;have o1:=oOf (hB 1) rfl;rotate_left;have o5:=oOf (hB 5) rfl;rotate_left;obtain⟨_,s21,rfl⟩:=hA 4 21;obtain⟨_,s22,rfl⟩:=hA 5 22;rotate_left;obtain⟨_,s23,rfl⟩:=hA 6 23;have cc0:=eI.cell q0;rotate_left;obtain⟨_,s20,rfl⟩:=hA 3 20;obtain⟨_,s24,rfl⟩:=hA 7 24;clear hB hA
   ·go_simp;refine (Yf (HV.out.ext eI) (HV'.out.ext eI) (HZ.out k hlt)).mono ?_;rw[<-ho.out];rintro e wj ⟨rfl,ej⟩;go_wp2_with fail;exact hK.out _ _ ej rfl
   obtain⟨_,s25,rfl⟩:=hA 8 25;rotate_left
   all_goals clear hB hA;go_simp;exact q_k hK rfl
  intro vals wz eZ hJ;have J26:vals 9=_:=hJ 9 (by decide) (by decide);clear hJ;simp only[pr,Nat.reduceAdd,J26];clear J26;refine qg (by kernel_rfl) ?_ _;have HE2:Hid (Ext w1 wz):=hE.out.trans eZ;clear p0 q0 eZ;cases o with
  | true =>
   have HA2:Hid (∀j,j<k+1->allB n (fun c=>decide (x j c=y j c))=true):=fun j hj=>by
    by_cases hjk:j=k
    ·rw[hjk];exact ho.out.symm
    ·exact HA.out j (by omega)
   go_wp2;go_roundw
   case rel=>exact⟨k+1,by omega,by go_num,HE2,HA2⟩
   case measure=>simp[intOf];omega
  | false =>
   go_wp2
   first|go_ret|skip
   rw[hQ.out,qL (p:=fun i=>allB n (fun j=>decide (x i j=y i j))) hlt ho.out.symm];exact⟨rfl,HE2.out⟩
theorem Y9{X:q_m}(h:MtV N lo hi w v n n X) (hn0:0<n) (hn:n<1000000) (hz:∀i,i<n->∀j,j<n->Sz (X i j)/\Sz (X j i)/\Sz (X i j-X j i)) :
  Calls Tryz.prog 55 #[v] w (zH w (.bool (allB n (fun i=>allB n (fun j=>decide (X i j=X j i)))))):=by
 obtain⟨Q,hQ⟩:=qc (zH w (.bool (allB n (fun i=>allB n (fun j=>decide (X i j=X j i))))));rw[<-hQ.out];obtain⟨A,c,rfl,hnc,hcm⟩:=h.form;unfold maxLen at hcm;have HI:=q_h h;have HZ:=q_h hz;clear h hz;go_enter Tryz.func55,Tryz.ntmps55;go_wp2_with (go_at_call 108;refine q_o ?_);refine (Yc HI.out hn0 hn hn).mono ?_;rintro e w1 ⟨g,c1,β,κ,rfl,hc1,ho,e1⟩;have HM:=q_h (ho.mtv ho.mle hc1);have HE:=q_h e1;clear ho e1;go_wp2_with (go_at_call 107;refine q_o ?_);refine (KE (MtR.ext HI.out HE.out) HM.out HZ.out).mono ?_;rintro e w2 ⟨rfl,e2⟩;go_wp2
 first|go_ret|skip
 rw[hQ.out];exact⟨rfl,HE.out.trans e2⟩
theorem XP{ns:Nat}{y:Nat->Int}{z:Nat->Nat}(h:IzV N lo hi w v ns y) (hz:∀i,i<ns->y i=(z i:Int))(hk:k<=ns) (hb:ql z ns<=1000000) (hn:ns<=1000000) :
  Calls Tryz.prog 31 #[v,.int .i64 (k:Int)] w (zH w (.int .i64 (ql z k:Int))):=by
 obtain⟨Q,hQ⟩:=qc (zH w (.int .i64 (ql z k:Int)));rw[<-hQ.out];obtain⟨A1,c1,rfl,k1,k2⟩:=h.form;unfold maxLen at k2;have HI:=q_h h;have HZ:=q_h hz;have HB:=q_h hb;obtain⟨w1,hw1⟩:∃w1,w1=w:=⟨_,rfl⟩
 have hw1':=q_h hw1;subst hw1;clear h hz hb;go_enter Tryz.func31,Tryz.ntmps31;go_wp2_with fail
 go_loopw [6,5] (fun iv sv wr=>∃(i s:Nat),i<=k/\iv=.int .i64 (i:Int)/\sv=.int .i64 (s:Int)/\Hid (s=ql z i)/\wr=w1) (fun iv _ _=>k-(intOf iv).toNat)
 case atStart=>exact⟨0,0,Nat.zero_le _,rfl,rfl,rfl,rfl⟩
 case round =>
  obtain⟨i,s,hi9,rfl,rfl,HS,rfl⟩:=hrel
  by_cases hlt:i<k
  case neg =>
   have t1:decide ((i:Int)<(k:Int))=false:=q_f (by omega);obtain rfl:k=i:=by omega
   go_wp2
   first|go_ret|skip
   rw[hQ.out,<-HS.out];exact⟨rfl,Ext.refl _⟩
  have t1:decide ((i:Int)<(k:Int))=true:=q_t (by omega);have t2:(i:Int)<(ns:Int):=by omega
  obtain⟨b,off,rfl,hx⟩:=HI.out.addr (by omega);have p0:=hx i (by omega);rw[HZ.out i (by omega)] at p0;obtain⟨q,hq⟩:=qc (z i);rw[<-hq.out] at p0
  have hb1:s+q<=1000000:=by
   have h1:=qK z (show i+1<=ns by omega);have h2:ql z (i+1)=ql z i+z i:=rfl;have h3:=HS.out;have h4:=hq.out;have h5:=HB.out;omega
  have t3:IntKind.i64.wrap ((s:Int)+(q:Int))=((s+q:Nat):Int):=by rw[wrp (by omega) (by omega)];omega
  have HS2:Hid (s+q=ql z (i+1)):=by rw[Hid,HS.out,hq.out];rfl
  clear hx;go_wp2;go_roundw
  case rel=>exact⟨i+1,s+q,by omega,by go_num,rfl,HS2,by first|rfl|trivial⟩
  case measure=>simp[intOf];omega
theorem q2Y {lo' hi':Nat}{off:Nat}{z:Nat->Int}(h:IzV N lo hi w (.slice (some ⟨b,off,none⟩) n c) n z) (hk:k<=n):IzV N lo' hi' w (.slice (some ⟨b,off,none⟩) k c) k z:=by
 obtain⟨-,A,c',hv,h1,h2,h3⟩:=h;simp only[Value.slice.injEq] at hv;obtain⟨rfl,-,rfl⟩:=hv;refine⟨rfl,_,_,rfl,by omega,h2,fun h9=>?_⟩;obtain⟨b',off',hbb,hx⟩:=h3 (by omega);exact⟨b',off',hbb,fun j hj=>hx j (by omega)⟩
theorem q21 {lo' hi':Nat}{u:Value}{Z:Sys}(h:jI N lo hi w v Z){nl:Nat}{L:Nat->Int}(hu:IzV N lo' hi' w u nl L) :
  Calls Tryz.prog 45 #[v,u] w (zH w (.int .i64 (yG L nl Z.ns))):=by
 obtain⟨Q,hQ⟩:=qc (zH w (.int .i64 (yG L nl Z.ns)));rw[<-hQ.out];have HU:=q_h hu;obtain⟨A1,c1,A2,c2,A3,c3,rfl,s1,s2,s3,k1,k2,k3⟩:=h.parts;obtain⟨A4,c4,rfl,hnc,hcn⟩:=hu.form;unfold maxLen at hcn;obtain⟨m,hm⟩:=qc Z.ns;obtain⟨cd,hcd⟩:=qc (yG L nl Z.ns);rw[<-hcd.out] at hQ;rw[<-hm.out] at hcd k1 ⊢;clear h s1 s2 s3 hu;go_enter Tryz.func45,Tryz.ntmps45;go_upto_region 1 with (fail);refine qo ?_;intro W hE hsz B0;obtain⟨g0,hg0⟩:=qc w.heap.size;rw[<-hg0.out] at B0 ⊢;have HB0:=q_h B0;have HEW:=q_h hE;clear hg0 B0 hE hsz;obtain⟨w1,hw1⟩:∃w1,w1=W:=⟨_,rfl⟩
 subst hw1;go_wp2_with fail
 go_loopw [5] (fun iv wr=>∃i:Nat,i<=nl/\iv=.int .i64 (i:Int)/\Hid (∀j,j<i->lsC L m j=0)/\Hid (Ext w1 wr)) (fun iv _=>nl-(intOf iv).toNat)
 case atStart=>exact⟨0,Nat.zero_le _,rfl,fun j hj=>absurd hj (Nat.not_lt_zero j),Ext.refl _⟩
 case round =>
  obtain⟨i,hi9,rfl,HA,HE⟩:=hrel;obtain⟨a0,a1,a2,-⟩:=cells3 (HE.out.block HB0.out)
  by_cases hlt:i<nl
  case neg =>
   have t1:decide ((i:Int)<(nl:Int))=false:=q_f (by omega);obtain rfl:nl=i:=by omega
   have HF:Hid (cd=0):=by rw[Hid,hcd.out];exact jk HA.out
   go_wp2
   first|go_ret|skip
   rw[hQ.out,HF.out];exact⟨rfl,HEW.out.trans HE.out⟩
  have t1:decide ((i:Int)<(nl:Int))=true:=q_t (by omega);have t2:(i:Int)<(nl:Int):=by omega
  have HIZ:Hid (IzV N lo' hi' wr (.slice A4 nl c4) nl L):=HU.out.ext (HEW.out.trans HE.out);obtain⟨b,off,rfl,hx⟩:=HIZ.out.addr (by omega);have p0:=hx i hlt
  have HCI:Hid (lsC L m i≠0->cd=lsC L m i):=fun h9=>by
   rw[hcd.out];unfold yG;exact ZM hlt HA.out h9
  obtain⟨u,hu⟩:=qc (L i);rw[<-hu.out] at p0
  have HLS:Hid (lsC L m i=if u<0\/(m:Int)<=u then 2 else if kT i (fun t=>decide (L t=u))=true then 7 else 0):=by
   rw[hu.out];rfl
  clear hx;obtain⟨bd,hbd⟩:=qc (decide (u<0)||decide ((m:Int)<=u));go_upto_region 4 with (fail)
  go_cut [26] (fun bv wx=>bv=.bool bd/\Ext wr wx)
  case first =>
   by_cases hu0:u<0
   ·have t3:decide (u<0)=true:=q_t hu0;have HB9:Hid (bd=true):=by rw[Hid,hbd.out,t3];rfl
    clear hu0
    go_quiet (fail)
    go_wp2
    go_meet
    exact⟨by rw[HB9.out],(Ext.refl _).drewN _⟩
   ·have t3:decide (u<0)=false:=q_f hu0;have HB9:Hid (decide ((m:Int)<=u)=bd):=by rw[Hid,hbd.out,t3];rfl
    have t4:=HB9.out;clear hu0
    go_quiet (fail)
    go_wp2
    go_meet
    exact⟨rfl,(Ext.refl _).drewN _⟩
  obtain⟨rfl,hcut⟩:=hcut;cases bd with
  | true =>
   have HF:Hid (cd=2):=by
    have h9:=HLS.out;have h8:=hbd.out.symm;rw[Bool.or_eq_true,decide_eq_true_eq,decide_eq_true_eq] at h8;rw[if_pos h8] at h9;have:=HCI.out (by rw[h9];decide);rw[Hid,this,h9]
   go_wp2
   first|go_ret|skip
   rw[hQ.out,HF.out];exact⟨rfl,(HEW.out.trans HE.out).trans hcut⟩
  | false =>
  have hbad:¬(u<0\/(m:Int)<=u):=fun h8=>by
   rw[<-decide_eq_true_eq (p:=u<0),<-decide_eq_true_eq (p:=(m:Int)<=u),<-Bool.or_eq_true,<-hbd.out] at h8;cases h8
  replace a0:=hcut.cell a0;replace p0:=hcut.cell p0;have HIZ':=q_h (HIZ.out.ext hcut);have HEC:Hid (Ext w1 wc):=HE.out.trans hcut;clear hcut a1 a2
  have HL2:Hid (lsC L m i=if kT i (fun t=>decide (L t=u))=true then 7 else 0):=by
   have h9:=HLS.out
   rwa [if_neg hbad] at h9
  have hc40:¬c4=0:=by omega
  have t5:(i:Int)<=(c4:Int):=by omega
  have t6:i<=c4:=by omega
  obtain⟨r,hr⟩:=qc (kT i (fun t=>decide (L t=u)));rw[<-hr.out] at HL2;clear hbad;go_upto_region 6 with (fail);refine yB [Mn.eq (.slice (some ⟨b,off,none⟩) nl c4),Mn.i (i:Int),Mn.eq (.slice (some ⟨b,off,none⟩) i c4),Mn.eq (.slice (some ⟨b,off,none⟩) nl c4),Mn.i (i:Int),Mn.q b (off+i),Mn.i u,Mn.t r] (sM [27,28,29,30,31,32,33,34]) [] (rQ 8 0) 0 (by kernel_rfl) ?_ ?_
  ·show ∀i,i<8->_
   iterate 8 refine fs ?_ ?_
   ·exact fz
   all_goals intro hl;clear hl;refine stp rfl ?_;intro ac wi eI hB hA K hK
   have o1:=oOf (hB 1) rfl;rotate_left;have o5:=oOf (hB 5) rfl;rotate_left;obtain⟨_,s27,rfl⟩:=hA 0 27;obtain⟨_,s28,rfl⟩:=hA 1 28;rotate_left;have o1:=oOf (hB 1) rfl;rotate_left;have o5:=oOf (hB 5) rfl;rotate_left;obtain⟨_,s30,rfl⟩:=hA 3 30;obtain⟨_,s31,rfl⟩:=hA 4 31;rotate_left;obtain⟨_,s32,rfl⟩:=hA 5 32;have cc0:=eI.cell p0;rotate_left;obtain⟨_,s29,rfl⟩:=hA 2 29;obtain⟨_,s33,rfl⟩:=hA 6 33;clear hB hA
   ·go_simp;refine (q8x (q2Y (lo':=0) (hi':=0) (HIZ'.out.ext eI) (by omega)) u).mono ?_;rw[<-hr.out];rintro e wj ⟨rfl,ej⟩;go_wp2_with fail;exact hK.out _ _ ej rfl
   all_goals clear hB hA;go_simp;exact q_k hK rfl
  intro vals wz eZ hJ;have J34:vals 7=_:=hJ 7 (by decide) (by decide);clear hJ;simp only[pr,Nat.reduceAdd,J34];clear J34;refine qg (by kernel_rfl) ?_ _;cases r with
  | true =>
   have HF:Hid (cd=7):=by
    have h9:=HL2.out;rw[if_pos rfl] at h9;have:=HCI.out (by rw[h9];decide);rw[Hid,this,h9]
   clear a0 p0;go_wp2
   first|go_ret|skip
   rw[hQ.out,HF.out];exact⟨rfl,(HEW.out.trans HEC.out).trans eZ⟩
  | false =>
   have HN:Hid (∀j,j<i+1->lsC L m j=0):=fun j hj=>by
    by_cases hji:j=i
    ·rw[hji,HL2.out,if_neg (by decide)]
    ·exact HA.out j (by omega)
   have HE3:Hid (Ext w1 wz):=HEC.out.trans eZ;clear a0 p0 eZ;go_wp2;go_roundw
   case rel=>exact⟨i+1,by omega,by go_num,HN,HE3⟩
   case measure=>simp[intOf];omega
theorem KD {lo' hi':Nat}{u:Value}{Z:Sys}(h:jI N lo hi w v Z){nl:Nat}{L:Nat->Int}(hu:IzV N lo' hi' w u nl L) :
  Calls Tryz.prog 13 #[v,u] w (zH w (.bool (decide (nl=Z.ns)&&decide (yG L nl Z.ns=0)))):=by
 obtain⟨Q,hQ⟩:=qc (zH w (.bool (decide (nl=Z.ns)&&decide (yG L nl Z.ns=0))));rw[<-hQ.out];have HLI:=fun (w':World) (e:Ext w w')=>q21 (h.ext e) (hu.ext e)
 obtain⟨A1,c1,A2,c2,A3,c3,rfl,s1,s2,s3,k1,k2,k3⟩:=h.parts;obtain⟨A4,c4,rfl,hnc,hcn⟩:=hu.form;unfold maxLen at hcn;have HLI':=q_h HLI;clear h s1 s2 s3 hu HLI
 by_cases hne:nl=Z.ns
 ·have t1:((nl:Int) == (Z.ns:Int))=true:=by rw[hne];simp
  have HT:Hid (decide (nl=Z.ns)=true):=q_t hne;clear hne;go_enter Tryz.func13,Tryz.ntmps13;go_upto_region 1 with (fail);refine qo ?_;intro W hE hsz B0;obtain⟨a0,a1,a2,-⟩:=cells3 B0;go_wp2_with (go_at_call 45;refine q_o ?_);refine (HLI'.out _ hE).mono ?_;rintro e w3 ⟨rfl,e3⟩;obtain⟨cd,hcd⟩:=qc (yG L nl Z.ns);rw[<-hcd.out] at hQ ⊢;have HR:Hid (∀b,(cd == 0)=b->decide (cd=0)=b):=fun b hb=>by rw[<-hb];by_cases h:cd=0<;>simp[h]
  clear a0 a1 a2
  by_cases h0:cd=0
  ·have t2:(cd == 0)=true:=by simpa using h0
   clear h0;go_wp2
   first|go_ret|skip
   rw[hQ.out,HT.out,HR.out true t2];exact⟨rfl,hE.trans e3⟩
  ·have t2:(cd == 0)=false:=by simpa using h0
   clear h0;go_wp2
   first|go_ret|skip
   rw[hQ.out,HT.out,HR.out false t2];exact⟨rfl,hE.trans e3⟩
 ·have t1:((nl:Int) == (Z.ns:Int))=false:=by simp;omega
  have HT:Hid (decide (nl=Z.ns)=false):=q_f hne;clear hne;go_enter Tryz.func13,Tryz.ntmps13;go_upto_region 1 with (fail);refine qo ?_;intro W hE hsz B0;obtain⟨a0,a1,a2,-⟩:=cells3 B0;go_wp2
  first|go_ret|skip
  rw[hQ.out,HT.out];exact⟨rfl,hE⟩
end
section
open Go.RowKit
section
variable {Z Z':Sys}{z z':Nat->Nat}{M M':q_m}{y y':q_v}
theorem q8o (H:V4 Z z M y) (h0:Okk Z) (hs:∀i j,i<ql z Z.ns->j<ql z Z.ns->M i j=M j i):∀a,a<ql z Z.ns->∀b,b<ql z Z.ns->kK Z z a b=M a b:=by
 have low:∀a b,b<=a->a<ql z Z.ns->kK Z z a b=M a b:=by
  intro a b hab ha;unfold kK;rw[Nat.max_eq_left hab,Nat.min_eq_right hab];unfold q8j;obtain⟨r1,r2,r3⟩:=QQ ha;obtain⟨c1,c2,c3⟩:=QQ (show b<ql z Z.ns by omega);obtain⟨r,hr⟩:∃r,r=yT z Z.ns a:=⟨_,rfl⟩
  obtain⟨c,hc⟩:∃c,c=yT z Z.ns b:=⟨_,rfl⟩
  rw[<-hr] at r1 r2 r3 ⊢;rw[<-hc] at c1 c2 c3 ⊢
  have hcr:c<=r:=by
   rcases Nat.lt_or_ge r c with h|h
   ·have:=qK z (show r+1<=c by omega);omega
   ·exact h
  have e3:ql z (r+1)=ql z r+z r:=rfl;have e4:ql z (c+1)=ql z c+z c:=rfl
  by_cases hex:∃i,i<Z.nb/\(Z.b i).r=(r:Int)/\(Z.b i).c=(c:Int)
  ·obtain⟨i,hi,h1,h2⟩:=hex;obtain⟨r',c',-,-,g1,g2,g3,g4,g5⟩:=H.bk i hi;obtain rfl:r'=r:=by omega
   obtain rfl:c'=c:=by omega
   rw[Jv h0 hi h1 h2,g5 _ (by omega) _ (by omega),kw,show ql z r'+(a-ql z r')=a by omega,show ql z c'+(b-ql z c')=b by omega]
  ·have hno:∀i,i<Z.nb->¬((Z.b i).r=(r:Int)/\(Z.b i).c=(c:Int)):=fun i hi hh=>hex ⟨i,hi,hh.1,hh.2⟩
   rw[Ju hno];have h3:=H.zero r c hcr r1 hno (a-ql z r) (by omega) (b-ql z c) (by omega);rw[show ql z r+(a-ql z r)=a by omega,show ql z c+(b-ql z c)=b by omega] at h3;exact h3.symm
 intro a ha b hb
 rcases Nat.lt_or_ge a b with h|h
 ·rw[Zg,hs a b ha hb];exact low b a (by omega) hb
 ·exact low a b h ha
end
end
section
open Go.RowKit
theorem ZO (E:Nat->Bool) (n:Nat):Enm n (xe E n) E (enF E n):=Xo E n
section
variable {M:q_m}{y:q_v}{E:Nat->Bool}{n:Nat}
end
end
section
open Go.RowKit
section
variable {z:Nat->Nat}{g:Nat->Bool}{ns:Nat}
theorem q3I:ql (fun a=>z (enF g ns a)) (xe g ns)=xe (fun x=>g (yT z ns x)) (ql z ns):=by
 have h1:=V8 z g ns;rw[vN (m:=ns) ns (q_r)] at h1;exact h1.symm
end
def q5w (L:Nat->Int):Nat->Nat->Nat
 | 0,_=>0
 | n+1,K=>q5w L n K+(if L n<(K:Int) then 1 else 0)
theorem YR (L:Nat->Int) (K:Nat):∀n,(∀t,t<n->(K:Int)<=L t)->q5w L n K=0
 | 0,_=>rfl
 | n+1,h=>by
  unfold q5w;rw[YR L K n (fun t ht=>h t (by omega)),if_neg (by have:=h n (by omega);omega)]
theorem YS (L:Nat->Int) (K:Nat):∀n,(∀a b,a<n->b<n->L a=L b->a=b)->q5w L n (K+1)=q5w L n K+(if inL L n K=true then 1 else 0)
 | 0,_=>rfl
 | n+1,h=>by
  have ih:=YS L K n (fun a b ha hb=>h a b (by omega) (by omega));have hin:inL L (n+1) K=(inL L n K||decide (L n=(K:Int))):=by unfold inL;rw[JK]
  unfold q5w;rw[ih,hin]
  by_cases h1:L n=(K:Int)
  ·have h2:inL L n K=false:=by
    unfold inL
    exact qZ.2 fun t ht=>decide_eq_false fun h3=>by
     have:=h t n (by omega) (by omega) (by rw[h3,h1]);omega
   rw[h2,q_t h1,if_pos (show L n<((K+1:Nat):Int) by omega),if_neg (show ¬L n<(K:Int) by omega)]
   simp
  ·rw[q_f h1,Bool.or_false]
   by_cases h2:L n<(K:Int)
   ·rw[if_pos (show L n<((K+1:Nat):Int) by omega),if_pos h2];omega
   ·rw[if_neg (show ¬L n<((K+1:Nat):Int) by omega),if_neg h2];omega
theorem XT {L:Nat->Int}{nl:Nat}(h0:∀t,t<nl->0<=L t) (hd:∀a b,a<nl->b<nl->L a=L b->a=b):∀K,xe (fun k=>!inL L nl k) K+q5w L nl K=K
 | 0=>by rw[YR L 0 nl (fun t ht=>by have:=h0 t ht;omega)];rfl
 | K+1=>by
  have ih:=XT h0 hd K;rw[YS L K nl hd];unfold xe at ih ⊢;rw[wS];cases h:inL L nl K with
  | true =>
   rw[if_neg (by decide),List.append_nil,if_pos rfl];omega
  | false =>
   rw[if_pos (by decide),List.length_append,if_neg (by decide)]
   show _+1+_=_
   omega
end
section
section
variable {P:Program}{ops:Array Oper}{Q:Exit->Act->World->Prop}{S:World->Prop}{late:List Nat}
theorem sF (i:Nat){oi:Oper}{fuel:Nat}{listed:Array Bool}{a:Act}(hi:ops.toList[i]?=some oi:=by rfl)
  (hs:Region.noSelect ops=true:=by kernel_rfl) (hf:Region.free .any ops listed i=true:=by kernel_rfl) (hr:(Region.ready .any ops listed).contains i=true:=by kernel_rfl)
  (hQ:∀c a w,Q (.panic c) (a.put oi.dst undef) w->Q (.panic c) a w:=by exact fun _ _ _ h=>h) (hg:Region.wanted oi (yielded ops a.tmps)=false:=by rfl)
  {L':Array Bool}{A':Act}(hL:listed.setIfInBounds i true=L':=by first|(simp only[nr];done)|(simp only[nr];rfl)|rfl) (hA:a.put oi.dst undef=A':=by first|(simp only[nr];done)|(simp only[nr];rfl)|rfl)
  (h:xB P ops Q S late fuel L' A' w):xB P ops Q S late (fuel+1) listed a w :=
 KW hi hs hf hr hQ (Or.inr ⟨hg,rfl⟩) (by rw[hL,hA];exact h)
end
end
end Go.Proofs.YtflhlobiipejeaaGreat
