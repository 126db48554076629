import Derived.Test.YtpkmjhmmmdkodaaGreatWx27
import Derived.Test.YtpkmjhmmmdkodaaGreatWx28
set_option linter.all false
set_option maxHeartbeats 8000000
set_option maxRecDepth 100000
namespace Go.Proofs.YtpkmjhmmmdkodaaGreat
open Go.RowKit
variable {w:World} {N n lo hi k g i m c b:Nat} {v s:Value} {q x:Rat}
theorem Zj(hN:N<=w.heap.size){n:Int}(h1:0<=n) (h2:n<=100) :
  Calls Tryz.prog 92 #[.int .i64 n] w (q50 N w 1 1 (fun _ _=>(n:Rat))):=by
 obtain⟨Q,hQ⟩:=qc (q50 N w 1 1 (fun _ _=>(n:Rat)));rw[<-hQ.out];go_enter Tryz.func92,Tryz.ntmps92;go_wp2_with (go_at_call 17;refine q_o ?_);refine (xq hN n (by omega) (by omega)).mono ?_;rintro e w1 ⟨v1,rfl,hv,e1⟩;obtain⟨b,A,k,c,A',k',c',rfl,hb,y1,y2⟩:=zq.parts hv;have HY1:=q_h y1;have HY2:=q_h y2;clear hv y1 y2;go_wp2_with fail;refine kL ?_;intro w2 e2 hsz2 B0 B1
 first|go_ret|skip
 rw[hQ.out];have hl:=q5E (N:=N) (q:=(n:Rat)) (by have:=e1.size;have:=e2.size;omega) B0 hb (HY1.out.ext e2) (HY2.out.ext e2);exact⟨_,_,rfl,q3w B1 hl,e1.trans e2⟩
theorem ZX{b b' b'':Bool}{t s' t' s'' t'':Value}{q' q'':Rat}{x:q_v}(hN:N<=w.heap.size) (h:w.heap[g]?=some (.cells #[.bool b,s,.bool false,t,.bool b',s',.bool false,t',.bool b'',s'',.bool false,t''] 48 (0,0)))
  (hb:Hid (b=decide (q.num<0))) (h1:Gs N w s (dg q.num.natAbs)) (h2:Gs N w t (dg q.den)) (hb':Hid (b'=decide (q'.num<0))) (h1':Gs N w s' (dg q'.num.natAbs)) (h2':Gs N w t' (dg q'.den)) (hb'':Hid (b''=decide (q''.num<0))) (h1'':Gs N w s'' (dg q''.num.natAbs)) (h2'':Gs N w t'' (dg q''.den)) (hx:x 0=q/\x 1=q'/\x 2=q'') :
  LsV N 0 w.heap.size w (.slice (some ⟨g,0,none⟩) 3 3) 3 x:=by
 obtain⟨x0,x1,x2⟩:=hx;refine⟨hN,q_r,_,3,rfl,q_r,by unfold maxLen;omega,fun _=>⟨g,0,rfl,Nat.zero_le _,qF h,fun i hi=>?_⟩⟩;have hi':i=0\/i=1\/i=2:=by omega
 rcases hi' with rfl|rfl|rfl
 ·show At4 N w g (0+0*4) (raw (x 0))
  rw[x0];refine⟨s,t,?_,qh h 1,qh h 2,qh h 3,h1,h2⟩
  show w.cell? ⟨g,0,none⟩=some (.bool (decide (q.num<0)))
  rw[<-hb.out];exact qh h 0
 ·show At4 N w g (0+1*4) (raw (x 1))
  rw[x1];refine⟨s',t',?_,qh h 5,qh h 6,qh h 7,h1',h2'⟩
  show w.cell? ⟨g,4,none⟩=some (.bool (decide (q'.num<0)))
  rw[<-hb'.out];exact qh h 4
 ·show At4 N w g (0+2*4) (raw (x 2))
  rw[x2];refine⟨s'',t'',?_,qh h 9,qh h 10,qh h 11,h1'',h2''⟩
  show w.cell? ⟨g,8,none⟩=some (.bool (decide (q''.num<0)))
  rw[<-hb''.out];exact qh h 8
def q7P (N:Nat) (w:World) (e:Ending) (w':World):Prop:=∃v,e=.returned v/\Qn N 0 w'.heap.size w' v exZ/\Ext w w'
theorem YL(hN:N<=w.heap.size):Calls Tryz.prog 38 #[] w (q7P N w):=by
 obtain⟨Q,hQ⟩:=qc (q7P N w);rw[<-hQ.out];go_enter Tryz.func38,Tryz.ntmps38;go_upto_region 1 with (fail);refine qp ?_;intro w1 hE hsz B0;obtain⟨g0,hg0⟩:=qc w.heap.size;have hg0w:w.heap.size<=g0:=by rw[hg0.out];exact q_r
 rw[<-hg0.out] at B0 hsz ⊢;have HB0:=q_h B0;have hN1:N<=w1.heap.size:=q_l hN hE.size;go_wp2_with (go_at_call 92;refine q_o ?_);refine (Zj (N:=N) (by simp;omega) (n:=2) (by omega) (by omega)).mono ?_;rintro e w3 ⟨A3,c3,rfl,h3,e3'⟩;obtain⟨e3,hsz3,B3⟩:=yB e3';obtain⟨gs,hgs⟩:=qc w1.heap.size;rw[<-hgs.out] at B3 ⊢;have HS3:=q_h B3;have HM3:=q_h h3;have HE3:Hid (Ext w w3):=hE.trans e3;have HX3:Hid (Ext w1 w3):=e3;clear B3 hgs e3 e3' hsz3 h3 B0;go_wp2_with (go_at_call 92;refine q_o ?_);refine (Zj (N:=N) (q_l hN HE3.out.size) (n:=1) (by omega) (by omega)).mono ?_;rintro e w4 ⟨A4,c4,rfl,h4,e4⟩;have HM4:=q_h h4;have HE4:Hid (Ext w w4):=HE3.out.trans e4;have HX4:Hid (Ext w3 w4):=e4;clear h4 e4;go_wp2_with (go_at_call 92;refine q_o ?_);refine (Zj (N:=N) (q_l hN HE4.out.size) (n:=2) (by omega) (by omega)).mono ?_;rintro e w5 ⟨A5,c5,rfl,h5,e5⟩;have HM5:=q_h h5;have HE5:Hid (Ext w w5):=HE4.out.trans e5;have HX5:Hid (Ext w4 w5):=e5;clear h5 e5;go_wp2_with (go_at_call 92;refine q_o ?_);refine (Zj (N:=N) (q_l hN HE5.out.size) (n:=1) (by omega) (by omega)).mono ?_;rintro e w6 ⟨A6,c6,rfl,h6,e6⟩;have HM6:=q_h h6;have HE6:Hid (Ext w w6):=HE5.out.trans e6;have HX6:Hid (Ext w5 w6):=e6;clear h6 e6;go_wp2_with (go_at_call 92;refine q_o ?_);refine (Zj (N:=N) (q_l hN HE6.out.size) (n:=3) (by omega) (by omega)).mono ?_;rintro e w7 ⟨A7,c7,rfl,h7,e7⟩;have HM7:=q_h h7;have HE7:Hid (Ext w w7):=HE6.out.trans e7
 have HX7:Hid (Ext w6 w7):=e7;clear h7 e7;go_wp2_with (go_at_call 17;refine q_o ?_);refine (xq (N:=N) (by have:=HE7.out.size;simp;omega) 3 (by omega) (by omega)).mono ?_;rintro e w8 ⟨v8,rfl,h8,e8'⟩;obtain⟨e8,hsz8,B8⟩:=yB e8';obtain⟨gb,hgb⟩:=qc w7.heap.size;rw[<-hgb.out] at B8 ⊢;have HB8:=q_h B8;obtain⟨b8,P8,k8,d8,Q8,l8,f8,rfl,hb8,y8,z8⟩:=zq.parts h8;have HY8:=q_h y8;have HZ8:=q_h z8;have HE8:Hid (Ext w w8):=HE7.out.trans e8;have HX8:Hid (Ext w7 w8):=e8;clear B8 hgb e8 e8' hsz8 h8 y8 z8;go_wp2_with (go_at_call 17;refine q_o ?_);refine (xq (N:=N) (q_l hN HE8.out.size) 4 (by omega) (by omega)).mono ?_;rintro e w9 ⟨v9,rfl,h9,e9⟩;obtain⟨b9,P9,k9,d9,Q9,l9,f9,rfl,hb9,y9,z9⟩:=zq.parts h9;have HY9:=q_h y9;have HZ9:=q_h z9;have HE9:Hid (Ext w w9):=HE8.out.trans e9;have HX9:Hid (Ext w8 w9):=e9;clear h9 e9 y9 z9;go_wp2_with (go_at_call 17;refine q_o ?_);refine (xq (N:=N) (q_l hN HE9.out.size) 4 (by omega) (by omega)).mono ?_;rintro e w10 ⟨v10,rfl,h10,e10⟩;obtain⟨b10,P10,k10,d10,Q10,l10,f10,rfl,hb10,y10,z10⟩:=zq.parts h10;have HY10:=q_h y10;have HZ10:=q_h z10;have HE10:Hid (Ext w w10):=HE9.out.trans e10;have HX10:Hid (Ext w9 w10):=e10;clear h10 e10 y10 z10;have HB09:=q_h (HX10.out.block (HX9.out.block (HX8.out.block (HX7.out.block (HX6.out.block (HX5.out.block (HX4.out.block (HX3.out.block HB0.out))))))));obtain⟨x0,x1,x2,u0,u1,u2⟩:=cells3 HB09.out
 have hg10:g0<w10.heap.size:=qF HB09.out;go_wp2;obtain⟨w11,E11,D11,U11⟩:=ex3 HB09.out (.slice (some ⟨gs,0,none⟩) 3 3) (.slice (some ⟨gb,0,none⟩) 5 5) (.slice (some ⟨w10.heap.size,0,none⟩) 3 3);rw[E11];have C11:=U11.chg (NoU.mk HB09.out (by decide));have hs11:w11.heap.size=w10.heap.size:=U11.size;refine qp ?_;intro w12 e12 hsz12 B12;rw[hs11] at B12;have hE12:Ext w w12:=(C11.ext HE10.out hg0w).trans e12;have hNg:N<=g0:=by omega
 have X9:Ext w9 w10:=HX10.out;have X8:Ext w8 w10:=HX9.out.trans X9;have X7:Ext w7 w10:=HX8.out.trans X8;have X6:Ext w6 w10:=HX7.out.trans X7;have X5:Ext w5 w10:=HX6.out.trans X6;have X4:Ext w4 w10:=HX5.out.trans X5;have X3:Ext w3 w10:=HX4.out.trans X4;have hL:=ZX (N:=N) (x:=exY) (by have:=hE12.size;omega) B12 hb8 (((HY8.out.ext X8).chg C11 hNg).ext e12) (((HZ8.out.ext X8).chg C11 hNg).ext e12) hb9 (((HY9.out.ext X9).chg C11 hNg).ext e12) (((HZ9.out.ext X9).chg C11 hNg).ext e12) hb10 ((HY10.out.chg C11 hNg).ext e12) ((HZ10.out.chg C11 hNg).ext e12) ⟨rfl,rfl,rfl⟩
 have hB:q2R N 0 w10.heap.size w10 (.slice (some ⟨gb,0,none⟩) 5 5) 5 exB:=by
  have hb:=X8.block HB8.out;refine⟨_,_,rfl,q_r,by unfold maxLen;omega,fun _=>⟨gb,0,rfl,fun i hi=>?_⟩⟩
  rcases q2d hi with rfl|rfl|rfl|rfl|rfl
  ·exact⟨qh hb 0,qh hb 1,A3,c3,qh hb 2,MtR.wide (HM3.out.ext X3) (q_r) X3.size (q_r)⟩
  ·exact⟨qh hb 3,qh hb 4,A4,c4,qh hb 5,MtR.wide (HM4.out.ext X4) (q_r) X4.size (q_r)⟩
  ·exact⟨qh hb 6,qh hb 7,A5,c5,qh hb 8,MtR.wide (HM5.out.ext X5) (q_r) X5.size (q_r)⟩
  ·exact⟨qh hb 9,qh hb 10,A6,c6,qh hb 11,MtR.wide (HM6.out.ext X6) (q_r) X6.size (q_r)⟩
  ·exact⟨qh hb 12,qh hb 13,A7,c7,qh hb 14,MtR.wide (HM7.out.ext X7) (q_r) X7.size (q_r)⟩
 have hI:IzV N 0 w10.heap.size w10 (.slice (some ⟨gs,0,none⟩) 3 3) 3 (fun _=>1):=by
  have hb:=X3.block HS3.out;refine⟨rfl,_,_,rfl,q_r,by unfold maxLen;omega,fun _=>⟨gs,0,rfl,fun i hi=>?_⟩⟩
  rcases (by omega:i=0\/i=1\/i=2) with rfl|rfl|rfl
  ·exact qh hb 0
  ·exact qh hb 1
  ·exact qh hb 2
 have hS:Qn N 0 w10.heap.size w10 (.agg #[.slice (some ⟨gs,0,none⟩) 3 3,.slice (some ⟨gb,0,none⟩) 5 5,.slice none 0 0]) ⟨3,fun _=>1,5,exB,0,fun i=>raw (exY i)⟩:=⟨_,_,_,rfl,hI,hB,by have:=HE10.out.size;omega,q_r,none,0,rfl,q_r,Nat.zero_le _,fun h=>absurd h (Nat.lt_irrefl 0)⟩
 obtain⟨v1,v2,v3,hv,s1,s2,-⟩:=(hS.off C11 hNg (q54.three HB09.out) (fun _ _ _ _=>Nat.one_pos)).ext e12;simp only[Value.agg.injEq,Array.mk.injEq,List.cons.injEq,and_true] at hv;obtain⟨rfl,rfl,rfl⟩:=hv;have hs12:w10.heap.size<=w12.heap.size:=by omega
 have s2':q2R N 0 w12.heap.size w12 (.slice (some ⟨gb,0,none⟩) 5 5) 5 exB:=by
  obtain⟨A9,k9,h9,h10,h11,h12⟩:=s2;refine⟨A9,k9,h9,h10,h11,fun h=>?_⟩;obtain⟨b,off,hA,hx⟩:=h12 h;refine⟨b,off,hA,fun i hi=>?_⟩;obtain⟨a1,a2,A',c',a3,a4⟩:=hx i hi;exact⟨a1,a2,A',c',a3,MtR.wide a4 (q_r) hs12 (q_r)⟩
 obtain⟨y0,y1,y2,-⟩:=cells3 (e12.block D11);clear x0 x1 x2 u0 u1 u2;refine bodyPost_ret (v:=.agg #[.slice (some ⟨gs,0,none⟩) 3 3,.slice (some ⟨gb,0,none⟩) 5 5,.slice (some ⟨w10.heap.size,0,none⟩) 3 3]) ?_ rfl ?_
 ·simp[results,y0,y1,y2,go_sem]
 ·rw[hQ.out];exact⟨_,rfl,⟨_,_,_,rfl,⟨rfl,s1.2⟩,s2',hL⟩,hE12⟩
theorem q0U {lo' hi':Nat}{u:Value}{z z':Nat->Int}(h:IzV N lo hi w v n z) (h':IzV N lo' hi' w u m z') :
  Calls Tryz.prog 31 #[v,u] w (zI w (.bool (decide (n=m)&&allB n (fun i=>decide (z i=z' i))))):=by
 obtain⟨Q,hQ⟩:=qc (zI w (.bool (decide (n=m)&&allB n (fun i=>decide (z i=z' i)))));rw[<-hQ.out];obtain⟨A1,c1,rfl,k1,k2⟩:=h.form;obtain⟨A2,c2,rfl,k3,k4⟩:=h'.form;unfold maxLen at k2 k4;have HI:=q_h h;have HJ:=q_h h';clear h h'
 by_cases hnm:n=m
 case neg =>
  have t1:((n:Int) != (m:Int))=true:=by simpa using fun e:(n:Int)=(m:Int)=>hnm (by omega)
  have HF:Hid (decide (n=m)=false):=q_f hnm;clear hnm;go_enter Tryz.func31,Tryz.ntmps31;go_wp2
  first|go_ret|skip
  rw[hQ.out,HF.out,Bool.false_and];exact⟨rfl,Ext.refl _⟩
 subst hnm;have t1:((n:Int) != (n:Int))=false:=by simp
 obtain⟨w1,hw1⟩:∃w1,w1=w:=⟨_,rfl⟩
 have hw1':=q_h hw1;subst hw1;go_enter Tryz.func31,Tryz.ntmps31;go_wp2_with fail
 go_loopw [13] (fun iv wr=>∃i:Nat,i<=n/\iv=.int .i64 (i:Int)/\Hid (∀j,j<i->z j=z' j)/\Hid (Ext w1 wr)) (fun iv _=>n-(intOf iv).toNat)
 case atStart=>exact⟨0,Nat.zero_le _,rfl,fun j hj=>absurd hj (Nat.not_lt_zero j),Ext.refl _⟩
 case round =>
  obtain⟨i,hi9,rfl,HE,HX⟩:=hrel;clear t1
  by_cases hlt:i<n
  case neg =>
   have t1:decide ((i:Int)<(n:Int))=false:=q_f (by omega);obtain rfl:n=i:=by omega
   go_wp2
   first|go_ret|skip
   rw[hQ.out,ql.2 (fun j hj=>q_t (HE.out j hj))];simp only[decide_true,Bool.and_true,Bool.true_and];exact⟨rfl,HX.out⟩
  have t1:decide ((i:Int)<(n:Int))=true:=q_t (by omega);have t2:(i:Int)<(n:Int):=by omega
  obtain⟨b,off,rfl,hx⟩:=(HI.out.ext HX.out).addr (by omega);obtain⟨b',off',rfl,hx'⟩:=(HJ.out.ext HX.out).addr (by omega);have p0:=hx i hlt;have q0:=hx' i hlt;obtain⟨x,hx1⟩:=qc (z i);obtain⟨y,hy1⟩:=qc (z' i);rw[<-hx1.out] at p0;rw[<-hy1.out] at q0;clear hx hx';obtain⟨wq,hwq⟩:∃wq,wq=wr:=⟨_,rfl⟩
  subst hwq;obtain⟨b9,hb9⟩:=qc (x != y);have t3:(x != y)=b9:=hb9.out.symm;go_upto_region 6 with (fail);refine jL [Mn.eq (.slice (some ⟨b,off,none⟩) n c1),Mn.i (i:Int),Mn.q b (off+i),Mn.i x,Mn.eq (.slice (some ⟨b',off',none⟩) n c2),Mn.i (i:Int),Mn.q (b') (off'+i),Mn.i y,Mn.t b9] (sM [16,17,18,19,20,21,22,23,24]) [] (rQ 9 0) 0 (by kernel_rfl) ?_ ?_
  ·show ∀i,i<9->_
   iterate 9 refine fs ?_ ?_
   ·exact fz
   all_goals intro hl;clear hl;refine stp rfl ?_;intro ac wi eI hB hA K hK
   have o0:=oOf (hB 0) rfl;rotate_left;have o5:=oOf (hB 5) rfl;rotate_left;obtain⟨_,s16,rfl⟩:=hA 0 16;obtain⟨_,s17,rfl⟩:=hA 1 17;rotate_left;obtain⟨_,s18,rfl⟩:=hA 2 18;have cc0:=eI.cell p0;rotate_left;have o1:=oOf (hB 1) rfl;rotate_left;have o5:=oOf (hB 5) rfl;rotate_left;obtain⟨_,s20,rfl⟩:=hA 4 20;obtain⟨_,s21,rfl⟩:=hA 5 21;rotate_left;obtain⟨_,s22,rfl⟩:=hA 6 22;have cc0:=eI.cell q0;rotate_left;obtain⟨_,s19,rfl⟩:=hA 3 19;obtain⟨_,s23,rfl⟩:=hA 7 23;rotate_left
   all_goals clear hB hA;go_simp;exact q_k hK rfl
  intro vals wz eZ hJ;have J24:vals 8=_:=hJ 8 (by decide) (by decide);clear hJ;simp only[pr,Nat.reduceAdd,J24];clear J24;refine qg (by kernel_rfl) ?_ _;have HX2:Hid (Ext w1 wz):=HX.out.trans eZ;clear p0 q0 eZ t3;cases b9 with
  | true =>
   have HN:Hid (allB n (fun i=>decide (z i=z' i))=false):=qE hlt (by
    have h9:x≠y:=by simpa using hb9.out.symm
    rw[<-hx1.out,<-hy1.out]
    exact q_f h9)
   go_wp2
   first|go_ret|skip
   rw[hQ.out,HN.out,Bool.and_false];exact⟨rfl,HX2.out⟩
  | false =>
   have HE2:Hid (∀j,j<i+1->z j=z' j):=fun j hj=>by
    by_cases hji:j=i
    ·have h9:x=y:=by simpa using hb9.out.symm
     rw[hji,<-hx1.out,<-hy1.out,h9]
    ·exact HE.out j (by omega)
   go_wp2;go_roundw
   case rel=>exact⟨i+1,by omega,by go_num,HE2,HX2⟩
   case measure=>simp[intOf];omega
theorem q5r (w:World) (r c r' c':Int):(Op.equalIn 10000 69 (.agg #[.int .i64 r,.int .i64 c]) (.agg #[.int .i64 r',.int .i64 c'])).run Tryz.prog w=.ok (decide (r=r'/\c=c')) w:=Kq w r c r' c'
theorem PrV.at2{l:List (Nat×Nat)}(h:PrV w v l)(hi:i<l.length):∃g c,v=.slice (some ⟨g,0,none⟩) l.length c/\l.length<=c/\w.cell? ⟨g,i*2,none⟩=some (.int .i64 ((l[i]?.getD (0,0)).1:Int))/\w.cell? ⟨g,i*2+1,none⟩=some (.int .i64 ((l[i]?.getD (0,0)).2:Int)):=by
 obtain⟨A,c,hv,h1,h2,h3⟩:=h;obtain⟨g,rfl,hx⟩:=h3 (by omega);have e1:l[i]! = l[i]?.getD (0,0):=by rw[List.getElem!_eq_getElem?_getD];rfl
 refine⟨g,c,hv,h1,hx _ _ ?_,hx _ _ ?_⟩
 ·rw[Kz l (i*2) (by omega),Nat.mul_div_cancel i (by omega),Nat.mul_mod_left,e1]
  rfl
 ·rw[Kz l (i*2+1) (by omega),show (i*2+1) / 2=i by omega,show (i*2+1) % 2=1 by omega,e1]
  rfl
theorem q0T{u:Value}{l l':List (Nat×Nat)}(h:PrV w v l) (h':PrV w u l') :
  Calls Tryz.prog 37 #[v,u] w (zI w (.bool (decide (l=l')))):=by
 obtain⟨Q,hQ⟩:=qc (zI w (.bool (decide (l=l'))));rw[<-hQ.out];have HI:=q_h h;have HJ:=q_h h';obtain⟨A1,c1,rfl,k1,k2,-⟩:=h;obtain⟨A2,c2,rfl,k3,k4,-⟩:=h';unfold maxLen at k2 k4;obtain⟨n,hn⟩:=qc l.length;obtain⟨m,hm⟩:=qc l'.length;rw[<-hn.out] at k1 HI ⊢;rw[<-hm.out] at k3 HJ ⊢
 by_cases hnm:n=m
 case neg =>
  have t1:((n:Int) != (m:Int))=true:=by simpa using fun e:(n:Int)=(m:Int)=>hnm (by omega)
  have HF:Hid (decide (l=l')=false):=decide_eq_false fun e=>hnm (by rw[hn.out,hm.out,e])
  clear hnm;go_enter Tryz.func37,Tryz.ntmps37;go_wp2
  first|go_ret|skip
  rw[hQ.out,HF.out];exact⟨rfl,Ext.refl _⟩
 subst hnm;have t1:((n:Int) != (n:Int))=false:=by simp
 obtain⟨w1,hw1⟩:∃w1,w1=w:=⟨_,rfl⟩
 have hw1':=q_h hw1;subst hw1;go_enter Tryz.func37,Tryz.ntmps37;go_wp2_with fail
 go_loopw [13] (fun iv wr=>∃i:Nat,i<=n/\iv=.int .i64 (i:Int)/\Hid (∀j,j<i->l[j]?.getD (0,0)=l'[j]?.getD (0,0))/\Hid (Ext w1 wr)) (fun iv _=>n-(intOf iv).toNat)
 case atStart=>exact⟨0,Nat.zero_le _,rfl,fun j hj=>absurd hj (Nat.not_lt_zero j),Ext.refl _⟩
 case round =>
  obtain⟨i,hi9,rfl,HE,HX⟩:=hrel;clear t1
  by_cases hlt:i<n
  case neg =>
   have t1:decide ((i:Int)<(n:Int))=false:=q_f (by omega);obtain rfl:n=i:=by omega
   have HL:Hid (l=l'):=by
    refine List.ext_getElem (by rw[<-hn.out,<-hm.out]) fun j h1 h2=>?_
    have h3:=HE.out j (by rw[hn.out];exact h1);rw[List.getElem?_eq_getElem h1,List.getElem?_eq_getElem h2] at h3;exact h3
   go_wp2
   first|go_ret|skip
   rw[hQ.out,decide_eq_true HL.out];exact⟨rfl,HX.out⟩
  have t1:decide ((i:Int)<(n:Int))=true:=q_t (by omega);have t2:(i:Int)<(n:Int):=by omega
  have h1:=HI.out.ext HX.out;have h2:=HJ.out.ext HX.out;rw[hn.out] at h1;rw[hm.out] at h2;obtain⟨g,cg,hv,-,p0,p1⟩:=h1.at2 (i:=i) (by rw[<-hn.out];exact hlt);obtain⟨g',cg',hv',-,q0,q1⟩:=h2.at2 (i:=i) (by rw[<-hm.out];exact hlt);simp only[Value.slice.injEq] at hv hv';obtain⟨rfl,-,rfl⟩:=hv;obtain⟨rfl,-,rfl⟩:=hv';obtain⟨x,hx⟩:=qc (l[i]?.getD (0,0)).1;obtain⟨y,hy⟩:=qc (l[i]?.getD (0,0)).2;obtain⟨x',hx'⟩:=qc (l'[i]?.getD (0,0)).1;obtain⟨y',hy'⟩:=qc (l'[i]?.getD (0,0)).2;rw[<-hx.out] at p0;rw[<-hy.out] at p1;rw[<-hx'.out] at q0;rw[<-hy'.out] at q1;clear h1 h2;obtain⟨wq,hwq⟩:∃wq,wq=wr:=⟨_,rfl⟩
  subst hwq;obtain⟨b9,hb9⟩:=qc (!decide ((x:Int)=(x':Int)/\(y:Int)=(y':Int)));have HB9:Hid (decide ((x:Int)=(x':Int)/\(y:Int)=(y':Int))=!b9):=by rw[hb9.out,Bool.not_not];rfl
  go_upto_region 6 with (fail);refine jL [Mn.eq (.slice (some ⟨g,0,none⟩) n c1),Mn.i (i:Int),Mn.q g (i*2),Mn.eq (.agg #[.int .i64 (x:Int),.int .i64 (y:Int)]),Mn.eq (.slice (some ⟨g',0,none⟩) n c2),Mn.i (i:Int),Mn.q (g') (i*2),Mn.eq (.agg #[.int .i64 (x':Int),.int .i64 (y':Int)]),Mn.t b9] (sM [16,17,18,19,20,21,22,23,24]) [] (rQ 9 0) 0 (by kernel_rfl) ?_ ?_
  ·show ∀i,i<9->_
   iterate 9 refine fs ?_ ?_
   ·exact fz
   all_goals intro hl;clear hl;refine stp rfl ?_;intro ac wi eI hB hA K hK
   have o0:=oOf (hB 0) rfl;rotate_left;have o5:=oOf (hB 5) rfl;rotate_left;obtain⟨_,s16,rfl⟩:=hA 0 16;obtain⟨_,s17,rfl⟩:=hA 1 17;rotate_left;obtain⟨_,s18,rfl⟩:=hA 2 18;clear hB hA
   ·have a0:=eI.cell p0;have a1:=eI.cell p1;go_simp;exact q_k hK rfl
   have o1:=oOf (hB 1) rfl;rotate_left;have o5:=oOf (hB 5) rfl;rotate_left;obtain⟨_,s20,rfl⟩:=hA 4 20;obtain⟨_,s21,rfl⟩:=hA 5 21;rotate_left;obtain⟨_,s22,rfl⟩:=hA 6 22;clear hB hA
   ·have a0:=eI.cell q0;have a1:=eI.cell q1;go_simp;exact q_k hK rfl
   obtain⟨_,s19,rfl⟩:=hA 3 19;obtain⟨_,s23,rfl⟩:=hA 7 23;clear hB hA
   ·have t9:=q5r wi x y x' y';rw[HB9.out] at t9;go_simp;exact q_k hK rfl
   all_goals clear hB hA;go_simp;exact q_k hK rfl
  intro vals wz eZ hJ;have J24:vals 8=_:=hJ 8 (by decide) (by decide);clear hJ;simp only[pr,Nat.reduceAdd,J24];clear J24;refine qg (by kernel_rfl) ?_ _;have HX2:Hid (Ext w1 wz):=HX.out.trans eZ;clear p0 p1 q0 q1 eZ;cases b9 with
  | true =>
   have HN:Hid (decide (l=l')=false):=decide_eq_false fun e=>by
    have h9:=HB9.out;rw[hx.out,hy.out,hx'.out,hy'.out,e] at h9;simp at h9
   go_wp2
   first|go_ret|skip
   rw[hQ.out,HN.out];exact⟨rfl,HX2.out⟩
  | false =>
   have HE2:Hid (∀j,j<i+1->l[j]?.getD (0,0)=l'[j]?.getD (0,0)):=fun j hj=>by
    by_cases hji:j=i
    ·subst hji;have h9:=of_decide_eq_true (HB9.out.trans (by rfl:(!false)=true));exact Prod.ext (by have:=hx.out;have:=hx'.out;omega) (by have:=hy.out;have:=hy'.out;omega)
    ·exact HE.out j (by omega)
   go_wp2;go_roundw
   case rel=>exact⟨i+1,by omega,by go_num,HE2,HX2⟩
   case measure=>simp[intOf];omega
def Mn.prv (l:List (Nat×Nat)):Mn:=⟨fun v w=>PrV w v l,fun e h=>h.ext e⟩
theorem q5x{a:Nat}(h:w.heap[g]?=some (.cells #[.int .i64 (a:Int),.int .i64 (b:Int)] 69 (0,0))):PrV w (.slice (some ⟨g,0,none⟩) 1 1) [(a,b)] :=
 ⟨_,_,rfl,q_r,by unfold maxLen;omega,fun _=>⟨g,rfl,fun j u hj=>by rw[qh h];simpa[Go.Proofs.YtpkmjhmmmdkodaaGreat.prv] using hj⟩⟩
theorem Sz4:Sz 4:=(show Ht 4 4 from ⟨by decide,by decide⟩).sz (by omega)
def exz:Nat->Nat:=fun _=>1
def q2f:Nat->Int:=fun _=>0
theorem Wh:Wj (xM exZ exz) (goE exZ exz q2f 1) 3 0 0≠0/\Wj (xM exZ exz) (goE exZ exz q2f 1) 3 1 0≠0/\Wj (xM exZ exz) (goE exZ exz q2f 1) 3 1 1≠0/\q2V (xM exZ exz) exY (goE exZ exz q2f 1) 3 1=4:=by decide +kernel
theorem q4P:HtM 3 3 3 exM:=by unfold HtM Ht;decide +kernel
theorem q67:HtM 3 3 3 (xM exZ exz):=by unfold HtM Ht;decide +kernel
theorem q2e:HtL 3 3 exY:=by unfold HtL Ht;decide +kernel
def exo:Nat->Nat:=fun t=>if t=0 then 2 else if t=1 then 0 else 1
theorem q29:∀t,t<3->exo t<3:=by decide
theorem q2a:∀a,a<3->∀b,b<3->exo a=exo b->a=b:=by decide
theorem q7p:SvH exZ exz exo (blF exz exM) (blR exz exY) (KS exz exo 3) 7400000 (nsv 3 exM exY) :=
 q6Q q43 (fun t ht=>q29 t ht) (fun a b ha hb h=>q2a a ha b hb h) (fun _ _=>Nat.one_pos) (by decide) q2b (by omega) q4P q2e
theorem q7q:∀t,t<3->PvF exz exo 3 (blF exz exM) t:=q5A (q4U (y:=exY) q29 (fun a b ha hb h=>q2a a ha b hb h) q2b) q63
theorem Wi:∀i,i<exZ.nb->q57 (exZ.b i):=q5f q43 q4P (by omega)
theorem We:∀i,i<exZ.k->jD (exZ.R i):=q6P q43 q2e (by omega)
theorem q62:vK (fun t=>(exo t:Int)) 3 3=true:=by decide
def exp:Nat->Int:=fun t=>if t=0 then 1 else if t=1 then 0 else 2
theorem q44:vK exp 3 3=true:=by decide
theorem q66:q7m exZ exp=[(0,2)]:=by
 have h:(QC (yg exZ exZ.nb) exZ.ns (fun t=>(exp t).toNat) exZ.ns).2=[(0,2)]:=by decide +kernel
 unfold q7m ZJ;rw[h]
 simp
theorem q64:(wO (yg exZ exZ.nb) exZ.ns exZ.ns).2=[0,1,2]:=q7r
theorem W9:vZ (xE (goE exZ exz q2f 1)) 3=2/\(xH (fun k=>!inL q2f 1 k) exZ.ns)=[1,2]/\q05 q2f 1 exZ.ns=0:=by decide +kernel
theorem q61:Reg (vZ (goE exZ exz q2f 1) 3) (xm (xM exZ exz) (enF (goE exZ exz q2f 1) 3)):=(q3k _ _).1 (by decide +kernel)
theorem ex_ks:∀k,k<=3->5*(5 ^ k*(3+1))<=29000000000/\gK k 3<=29000000000:=by decide
theorem q7d (w:World):Calls Tryz.prog 8 #[] w (zI w (.bool true)):=by
 obtain⟨N,hN⟩:∃N,N=w.heap.size:=⟨_,rfl⟩
 go_enter Tryz.func8,Tryz.ntmps8;go_wp2_with (go_at_call 38;refine q_o ?_);refine (YL (N:=N) (by omega)).mono ?_;rintro e w1 ⟨v1,rfl,h1,e1⟩
 obtain⟨Q1,q1,Q2,q2,Q3,q3,rfl⟩:∃Q1 q1 Q2 q2 Q3 q3,v1=.agg #[.slice Q1 3 q1,.slice Q2 5 q2,.slice Q3 3 q3]:=by
  obtain⟨Q1,q1,Q2,q2,Q3,q3,hv,-⟩:=h1.parts;exact⟨Q1,q1,Q2,q2,Q3,q3,hv⟩
 have HS1:=q_h h1;go_upto_region 2 with (fail);refine qp ?_;intro w2 e2 hsz2 B0;obtain⟨g1,hg1⟩:=qc w1.heap.size;rw[<-hg1.out] at B0 ⊢;have hg1w:w.heap.size<=g1:=by rw[hg1.out];exact e1.size
 have HS2:=q_h (HS1.out.ext e2);have HE2:Hid (Ext w w2):=e1.trans e2;have HB2:=q_h B0;obtain⟨a0,a1,a2,-⟩:=cells3 B0;have hg2:g1<w2.heap.size:=qF B0;clear h1 e1 e2 hsz2 B0 HS1;go_wp2_with (go_at_call 19;refine q_o ?_);unfold Hid;refine qp (F:=fun W=>Calls _ _ _ W _) ?_;intro w3 e3 hsz3 B3
 have HI3:IzV N 0 0 w3 (.slice (some ⟨w2.heap.size,0,none⟩) 3 3) 3 (fun t=>(exo t:Int)):=⟨rfl,_,_,rfl,q_r,by unfold maxLen;omega,fun _=>⟨_,0,rfl,fun i hi=>by
  rcases (by omega:i=0\/i=1\/i=2) with rfl|rfl|rfl
  ·exact qh B3 0
  ·exact qh B3 1
  ·exact qh B3 2⟩⟩
 refine (q6u (HS2.out.ext e3) Wi We XT HI3 q62 (fun t _=>rfl) q7p).mono ?_;rintro e w4 ⟨e4,⟨-,t,ht,-,hp⟩|⟨A4,c4,lo4,hi4,rfl,-,hx⟩⟩
 ·exact absurd (q7q t ht) hp
 have HL4:Hid (LsV N lo4 hi4 w4 (.slice A4 3 c4) 3 (fun _=>1)):=LsV.congr hx fun i hi=>by
  have hi3:i<3:=hi
  rcases (by omega:i=0\/i=1\/i=2) with rfl|rfl|rfl
  ·exact q2c.1
  ·exact q2c.2.1
  ·exact q2c.2.2
 have HE4:Hid (Ext w w4):=(HE2.out.trans e3).trans e4;have HX24:Hid (Ext w2 w4):=e3.trans e4;have HB4:=q_h (HX24.out.block HB2.out);have HS4:=q_h (HS2.out.ext HX24.out);clear e3 hsz3 B3 HI3 e4 hx a0 a1 a2 HB2 HS2;obtain⟨a0,a1,a2,-⟩:=cells3 HB4.out;have hg4:g1<w4.heap.size:=qF HB4.out;go_wp2_with (go_at_call 13;refine q_o ?_);unfold Hid;refine qp (F:=fun W=>Calls _ _ _ W _) ?_;intro w5 e5 hsz5 B5
 have HI5:IzV N 0 0 w5 (.slice (some ⟨w4.heap.size,0,none⟩) 1 1) 1 q2f:=⟨rfl,_,_,rfl,q_r,by unfold maxLen;omega,fun _=>⟨_,0,rfl,fun i hi=>by
  obtain rfl:i=0:=by omega
  exact qh B5 0⟩⟩
 refine (Vm (HS4.out.ext e5) Wi We XT (z:=exz) (fun _ _=>rfl) HI5 (by omega) (n:=3) rfl (y:=exY) (fun _ _=>rfl) (K0:=3) q67 q2e ex_ks).mono ?_;rintro e w6 ⟨e6,⟨h9,-⟩|⟨-,h9,-⟩|⟨-,-,h9,-⟩|⟨-,-,-,v6,Z6,rfl,h6,hn6,hk6,ho6,-⟩⟩
 ·exact absurd W9.2.2 h9
 ·rw[W9.1] at h9;exact absurd h9 (by omega)
 ·exact absurd q61 h9
 rw[W9.2.1] at hn6;rw[W9.1] at hk6;have hb6:Z6.nb=3:=ex_nb ho6 hn6 rfl rfl Wh.1 Wh.2.1 Wh.2.2.1
 obtain⟨D1,f1,D2,f2,D3,f3,rfl,hL6⟩:∃D1 f1 D2 f2 D3 f3,v6=.agg #[.slice D1 2 f1,.slice D2 3 f2,.slice D3 2 f3]/\LsV N 0 w6.heap.size w6 (.slice D3 2 f3) 2 (q2V (xM exZ exz) exY (goE exZ exz q2f 1) 3):=by
  obtain⟨D1,f1,D2,f2,D3,f3,hv,-,-,hl,-⟩:=h6.parts;have hR:=ho6.R;rw[hn6,hb6,hk6] at hv;rw[hk6] at hl hR;exact⟨D1,f1,D2,f2,D3,f3,hv,LsR.congr hl fun i hi=>hR i hi⟩
 have HL6:=q_h hL6;have HE6:Hid (Ext w w6):=(HE4.out.trans e5).trans e6;have HX46:Hid (Ext w4 w6):=e5.trans e6;have HB6:=q_h (HX46.out.block HB4.out);have HS6:=q_h (HS4.out.ext HX46.out);have HL46:=q_h (HL4.out.ext HX46.out);clear e5 hsz5 B5 HI5 e6 h6 hn6 hk6 ho6 hb6 hL6 a0 a1 a2 HB4 HS4 HL4 hg4;go_upto_region 4 with (fail);refine qp ?_;intro w7 e7 hsz7 B7;obtain⟨g4,hg4⟩:=qc w6.heap.size;rw[<-hg4.out] at B7 ⊢;have HE7:Hid (Ext w w7):=HE6.out.trans e7;have HB7:=q_h (e7.block HB6.out);have HB47:=q_h B7;have HS7:=q_h (HS6.out.ext e7);have HL7:=q_h (HL6.out.ext e7);have HL47:=q_h (HL46.out.ext e7);clear e7 hsz7 B7 HB6 HS6 HL6 HL46;obtain⟨a0,a1,a2,-⟩:=cells3 HB7.out;have hg7:g1<w7.heap.size:=qF HB7.out;go_wp2_with (go_at_call 26;refine q_o ?_);unfold Hid;refine qp (F:=fun W=>Calls _ _ _ W _) ?_;intro w8 e8 hsz8 B8
 have HI8:IzV N 0 0 w8 (.slice (some ⟨w7.heap.size,0,none⟩) 3 3) 3 exp:=⟨rfl,_,_,rfl,q_r,by unfold maxLen;omega,fun _=>⟨_,0,rfl,fun i hi=>by
  rcases (by omega:i=0\/i=1\/i=2) with rfl|rfl|rfl
  ·exact qh B8 0
  ·exact qh B8 1
  ·exact qh B8 2⟩⟩
 refine (q7F (HS7.out.ext e8) Wi We HI8).mono ?_;rintro e w9 ⟨e9,⟨h9,-⟩|⟨-,h9,-⟩|⟨-,-,v9,rfl,hp9⟩⟩
 ·exact absurd XT h9
 ·rw[show vK exp 3 exZ.ns=true from q44] at h9;cases h9
 rw[q66] at hp9;have HP9:=q_h hp9;obtain⟨A9,c9,rfl,-⟩:=hp9;have HE9:Hid (Ext w w9):=(HE7.out.trans e8).trans e9;have HX79:Hid (Ext w7 w9):=e8.trans e9;have HB9:=q_h (HX79.out.block HB7.out);have HB49:=q_h (HX79.out.block HB47.out);have HS9:=q_h (HS7.out.ext HX79.out);have HL9:=q_h (HL7.out.ext HX79.out);have HL49:=q_h (HL47.out.ext HX79.out);clear e8 hsz8 B8 HI8 e9 a0 a1 a2 HB7 HB47 HS7 HL7 HL47 hg7;obtain⟨a0,a1,a2,-⟩:=cells3 HB9.out;go_wp2_with (go_at_call 30;refine q_o ?_);refine (q6v HS9.out Wi We).mono ?_;rintro e w10 ⟨e10,⟨h9,-⟩|⟨-,A10,c10,rfl,h10⟩⟩
 ·exact absurd XT h9
 have HO10:Hid (IzV N 0 0 w10 (.slice A10 3 c10) 3 (fun t=>(t:Int))):=by
  obtain⟨-,A,c,hv,h1,h2,h3⟩:=h10.1;refine⟨rfl,A,c,hv,h1,h2,fun hn=>?_⟩;obtain⟨b,off,hA,hx⟩:=h3 hn;refine⟨b,off,hA,fun i hi=>?_⟩;have h11:=hx i hi;rw[q64] at h11;have hi3:i<3:=hi
  rcases (by omega:i=0\/i=1\/i=2) with rfl|rfl|rfl<;>exact h11
 have HE10:Hid (Ext w w10):=HE9.out.trans e10;have HP10:=q_h (HP9.out.ext e10);have HB410:=q_h (e10.block HB49.out);have HL10:=q_h (HL9.out.ext e10);have HL410:=q_h (HL49.out.ext e10);clear e10 h10 a0 a1 a2 HB9 HB49 HS9 HL9 HL49 HP9;obtain⟨b0,b1,b2,-⟩:=cells3 HB410.out;obtain⟨bD,oD,rfl,-,-,hx⟩:=LsV.addr HL10.out (by omega);obtain⟨n1,P3,k3,c3,P4,k4,c5,r0,r1,r2,r3,hb1,y1,y2⟩:=(hx 1 (by omega)).open;rw[Wh.2.2.2] at hb1 y1 y2;have HR1:zq N w10 (.agg #[.bool n1,.slice P3 k3 c3,.bool false,.slice P4 k4 c5]) 4:=zq.mk hb1 y1 y2;have t00:IntKind.i64.wrap 0=0:=rfl;have hNw:N<=w10.heap.size:=by have:=HE10.out.size;omega
 clear hx b0 b1 b2;obtain⟨b0,b1,b2,-⟩:=cells3 HB410.out;go_upto_region 7 with (fail);refine jL [Mn.i 0,Mn.i 0,Mn.i 0,Mn.i 0,Mn.i 0,Mn.i 0,Mn.i 0,Mn.t true,Mn.t true,Mn.eq (.slice A4 3 c4),Mn.eq (.func (.func 17) #[] #[]),Mn.rat N ((1:Int):Rat),Mn.eq (.func (.func 17) #[] #[]),Mn.rat N ((1:Int):Rat),Mn.eq (.func (.func 17) #[] #[]),Mn.rat N ((1:Int):Rat),Mn.ls N 3 (fun _=>1),Mn.t true,Mn.t true,Mn.t true,Mn.q g4 1,Mn.eq (.slice D2 3 f2),Mn.i 3,Mn.t true,Mn.t true,Mn.t true,Mn.q g4 2,Mn.eq (.slice (some ⟨bD,oD,none⟩) 2 f3),Mn.i 2,Mn.t true,Mn.t true,Mn.t true,Mn.q g4 2,Mn.eq (.slice (some ⟨bD,oD,none⟩) 2 f3),Mn.q bD (oD+4),Mn.rat N (4),Mn.eq (.func (.func 17) #[] #[]),Mn.rat N ((4:Int):Rat),Mn.t true,Mn.t true,Mn.t true,Mn.eq (.slice A9 1 c9),Mn.eq (.agg #[.int .i64 0,.int .i64 2]),Mn.prv [(0,2)],Mn.t true,Mn.t true,Mn.t true,Mn.eq (.slice A10 3 c10),Mn.sb 3 #[.int .i64 0,.int .i64 1,.int .i64 2] 3,Mn.t true,Mn.t true,Mn.t true] (sM [35,36,37,38,39,40,41,42,43,44,45,46,47,48,49,50,51,52,53,54,55,56,57,58,59,60,61,62,63,64,65,66,67,68,69,70,71,72,73,74,75,76,77,78,79,80,81,82,83,84,85,0]) [] (rQ 52 0) 0 (by kernel_rfl) ?_ ?_
 ·show ∀i,i<52->_
  iterate 52 refine fs ?_ ?_
  ·exact fz
  all_goals intro hl;clear hl;refine stp rfl ?_;intro ac wi eI hB hA K hK
  have o3:=oOf (hB 3) rfl;rotate_left;have o5:=oOf (hB 5) rfl;rotate_left;obtain⟨_,s35,rfl⟩:=hA 0 35;obtain⟨_,s36,rfl⟩:=hA 1 36;rotate_left;have o7:=oOf (hB 7) rfl;rotate_left;obtain⟨_,s37,rfl⟩:=hA 2 37;obtain⟨_,s38,rfl⟩:=hA 3 38;rotate_left;have o9:=oOf (hB 9) rfl;rotate_left;obtain⟨_,s39,rfl⟩:=hA 4 39;obtain⟨_,s40,rfl⟩:=hA 5 40;rotate_left;obtain⟨_,s41,rfl⟩:=hA 6 41;rotate_left;obtain⟨_,s42,rfl⟩:=hA 7 42;rotate_left;obtain⟨_,s43,rfl⟩:=hA 8 43;have o2:=oOf (hB 2) rfl;rw[if_pos (by simp[Region.wanted,yielded,s43])];rotate_left;obtain⟨_,s43,rfl⟩:=hA 8 43;have o10:=oOf (hB 10) rfl;rw[if_pos (by simp[Region.wanted,yielded,s43])];rotate_left;obtain⟨_,s43,rfl⟩:=hA 8 43;obtain⟨_,s45,rfl⟩:=hA 10 45;clear hB hA;rw[if_pos (by simp[Region.wanted,yielded,s43])]
  ·go_simp;refine (xq (N:=N) (q_l hNw eI.size) 1 (by omega) (by omega)).mono ?_;rintro e wj ⟨vj,rfl,hj,ej⟩;go_wp2_with fail;exact hK.out _ _ ej hj
  obtain⟨_,s43,rfl⟩:=hA 8 43;have o10:=oOf (hB 10) rfl;rw[if_pos (by simp[Region.wanted,yielded,s43])];rotate_left;obtain⟨_,s43,rfl⟩:=hA 8 43;obtain⟨_,s47,rfl⟩:=hA 12 47;clear hB hA;rw[if_pos (by simp[Region.wanted,yielded,s43])]
  ·go_simp;refine (xq (N:=N) (q_l hNw eI.size) 1 (by omega) (by omega)).mono ?_;rintro e wj ⟨vj,rfl,hj,ej⟩;go_wp2_with fail;exact hK.out _ _ ej hj
  obtain⟨_,s43,rfl⟩:=hA 8 43;have o10:=oOf (hB 10) rfl;rw[if_pos (by simp[Region.wanted,yielded,s43])];rotate_left;obtain⟨_,s43,rfl⟩:=hA 8 43;obtain⟨_,s49,rfl⟩:=hA 14 49;clear hB hA;rw[if_pos (by simp[Region.wanted,yielded,s43])]
  ·go_simp;refine (xq (N:=N) (q_l hNw eI.size) 1 (by omega) (by omega)).mono ?_;rintro e wj ⟨vj,rfl,hj,ej⟩;go_wp2_with fail;exact hK.out _ _ ej hj
  obtain⟨_,s43,rfl⟩:=hA 8 43;obtain⟨x46,s46,j46⟩:=hA 11 46;replace j46:Mn.p (Mn.rat N ((1:Int):Rat)) x46 wi:=j46;obtain⟨x48,s48,j48⟩:=hA 13 48;replace j48:Mn.p (Mn.rat N ((1:Int):Rat)) x48 wi:=j48;obtain⟨x50,s50,j50⟩:=hA 15 50;replace j50:Mn.p (Mn.rat N ((1:Int):Rat)) x50 wi:=j50;clear hB hA;rw[if_pos (by simp[Region.wanted,yielded,s43])]
  ·obtain⟨p1,P5,k5,c6,P6,k6,c7,rfl,hp1,z1,z2⟩:=zq.parts j46;obtain⟨p2,P7,k7,c8,P8,k8,c11,rfl,hp2,z3,z4⟩:=zq.parts j48;obtain⟨p3,P9,k9,c12,P10,k10,c13,rfl,hp3,z5,z6⟩:=zq.parts j50;go_simp;refine qp ?_;intro wj ej hszj BJ;exact hK.out _ _ ej (ZX (q_l (q_l hNw eI.size) ej.size) BJ hp1 (z1.ext ej) (z2.ext ej) hp2 (z3.ext ej) (z4.ext ej) hp3 (z5.ext ej) (z6.ext ej) ⟨rfl,rfl,rfl⟩)
  obtain⟨_,s43,rfl⟩:=hA 8 43;obtain⟨_,s44,rfl⟩:=hA 9 44;obtain⟨x51,s51,j51⟩:=hA 16 51;replace j51:Mn.p (Mn.ls N 3 (fun _=>1)) x51 wi:=j51;clear hB hA;rw[if_pos (by simp[Region.wanted,yielded,s43])]
  ·go_simp;refine (YB (HL410.out.ext eI) j51 (fun _ _=>Ht.one.sz (by omega)) (fun _ _=>rfl)).mono ?_;rintro e wj ⟨rfl,ej⟩;go_wp2_with fail;exact hK.out _ _ ej rfl
  obtain⟨_,s43,rfl⟩:=hA 8 43;obtain⟨_,s52,rfl⟩:=hA 17 52;rotate_left;obtain⟨_,s53,rfl⟩:=hA 18 53;rotate_left;obtain⟨_,s54,rfl⟩:=hA 19 54;have o4:=oOf (hB 4) rfl;rw[if_pos (by simp[Region.wanted,yielded,s54])];rotate_left;obtain⟨_,s54,rfl⟩:=hA 19 54;obtain⟨_,s55,rfl⟩:=hA 20 55;rw[if_pos (by simp[Region.wanted,yielded,s54])];have cc0:=eI.cell b1;rotate_left;obtain⟨_,s54,rfl⟩:=hA 19 54;obtain⟨_,s56,rfl⟩:=hA 21 56;rw[if_pos (by simp[Region.wanted,yielded,s54])];rotate_left;obtain⟨_,s54,rfl⟩:=hA 19 54;obtain⟨_,s57,rfl⟩:=hA 22 57;rw[if_pos (by simp[Region.wanted,yielded,s54])];rotate_left;obtain⟨_,s54,rfl⟩:=hA 19 54;obtain⟨_,s58,rfl⟩:=hA 23 58;rotate_left;obtain⟨_,s59,rfl⟩:=hA 24 59;rotate_left;obtain⟨_,s60,rfl⟩:=hA 25 60;have o4:=oOf (hB 4) rfl;rw[if_pos (by simp[Region.wanted,yielded,s60])];rotate_left;obtain⟨_,s60,rfl⟩:=hA 25 60;obtain⟨_,s61,rfl⟩:=hA 26 61;rw[if_pos (by simp[Region.wanted,yielded,s60])];have cc0:=eI.cell b2;rotate_left;obtain⟨_,s60,rfl⟩:=hA 25 60;obtain⟨_,s62,rfl⟩:=hA 27 62;rw[if_pos (by simp[Region.wanted,yielded,s60])];rotate_left;obtain⟨_,s60,rfl⟩:=hA 25 60;obtain⟨_,s63,rfl⟩:=hA 28 63;rw[if_pos (by simp[Region.wanted,yielded,s60])];rotate_left;obtain⟨_,s60,rfl⟩:=hA 25 60;obtain⟨_,s64,rfl⟩:=hA 29 64;rotate_left;obtain⟨_,s65,rfl⟩:=hA 30 65;rotate_left;obtain⟨_,s66,rfl⟩:=hA 31 66;have o4:=oOf (hB 4) rfl
  rw[if_pos (by simp[Region.wanted,yielded,s66])];rotate_left;obtain⟨_,s66,rfl⟩:=hA 31 66;obtain⟨_,s67,rfl⟩:=hA 32 67;rw[if_pos (by simp[Region.wanted,yielded,s66])];have cc0:=eI.cell b2;rotate_left;obtain⟨_,s66,rfl⟩:=hA 31 66;obtain⟨_,s68,rfl⟩:=hA 33 68;rw[if_pos (by simp[Region.wanted,yielded,s66])];rotate_left;obtain⟨_,s66,rfl⟩:=hA 31 66;obtain⟨_,s69,rfl⟩:=hA 34 69;clear hB hA;rw[if_pos (by simp[Region.wanted,yielded,s66])];have cc0:=eI.cell r0;have cc1:=eI.cell r1;have cc2:=eI.cell r2;have cc3:=eI.cell r3
  ·go_simp;exact q_k hK (HR1.ext eI)
  obtain⟨_,s66,rfl⟩:=hA 31 66;have o10:=oOf (hB 10) rfl;rw[if_pos (by simp[Region.wanted,yielded,s66])];rotate_left;obtain⟨_,s66,rfl⟩:=hA 31 66;obtain⟨_,s71,rfl⟩:=hA 36 71;clear hB hA;rw[if_pos (by simp[Region.wanted,yielded,s66])]
  ·go_simp;refine (xq (N:=N) (q_l hNw eI.size) 4 (by omega) (by omega)).mono ?_;rintro e wj ⟨vj,rfl,hj,ej⟩;go_wp2_with fail;exact hK.out _ _ ej hj
  obtain⟨_,s66,rfl⟩:=hA 31 66;obtain⟨x70,s70,j70⟩:=hA 35 70;replace j70:Mn.p (Mn.rat N (4)) x70 wi:=j70;obtain⟨x72,s72,j72⟩:=hA 37 72;replace j72:Mn.p (Mn.rat N ((4:Int):Rat)) x72 wi:=j72;clear hB hA;rw[if_pos (by simp[Region.wanted,yielded,s66])]
  ·go_simp;refine (q1h j70 j72 (Sz4) rfl).mono ?_;rintro e wj ⟨rfl,ej⟩;go_wp2_with fail;exact hK.out _ _ ej rfl
  obtain⟨_,s66,rfl⟩:=hA 31 66;obtain⟨_,s73,rfl⟩:=hA 38 73;rotate_left;obtain⟨_,s74,rfl⟩:=hA 39 74;rotate_left;obtain⟨_,s75,rfl⟩:=hA 40 75;have o6:=oOf (hB 6) rfl;rw[if_pos (by simp[Region.wanted,yielded,s75])];rotate_left;obtain⟨_,s75,rfl⟩:=hA 40 75;rw[if_pos (by simp[Region.wanted,yielded,s75])];rotate_left;obtain⟨_,s75,rfl⟩:=hA 40 75;obtain⟨_,s77,rfl⟩:=hA 42 77;clear hB hA;rw[if_pos (by simp[Region.wanted,yielded,s75])]
  ·go_simp;refine qp ?_;intro wj ej hszj BJ;exact hK.out _ _ ej (q5x BJ)
  obtain⟨_,s75,rfl⟩:=hA 40 75;obtain⟨_,s76,rfl⟩:=hA 41 76;obtain⟨x78,s78,j78⟩:=hA 43 78;replace j78:Mn.p (Mn.prv [(0,2)]) x78 wi:=j78;clear hB hA;rw[if_pos (by simp[Region.wanted,yielded,s75])]
  ·go_simp;refine (q0T (HP10.out.ext eI) j78).mono ?_;rintro e wj ⟨rfl,ej⟩;go_wp2_with fail;exact hK.out _ _ ej rfl
  obtain⟨_,s75,rfl⟩:=hA 40 75;obtain⟨_,s79,rfl⟩:=hA 44 79;rotate_left;obtain⟨_,s80,rfl⟩:=hA 45 80;rotate_left;obtain⟨_,s81,rfl⟩:=hA 46 81;have o8:=oOf (hB 8) rfl;rw[if_pos (by simp[Region.wanted,yielded,s81])];rotate_left;obtain⟨_,s81,rfl⟩:=hA 46 81;clear hB hA;rw[if_pos (by simp[Region.wanted,yielded,s81])]
  ·go_simp;refine qp ?_;intro wj ej hszj BJ;exact hK.out _ _ ej ⟨_,rfl,BJ⟩
  obtain⟨_,s81,rfl⟩:=hA 46 81;obtain⟨_,s82,rfl⟩:=hA 47 82;obtain⟨x83,s83,j83⟩:=hA 48 83;replace j83:Mn.p (Mn.sb 3 #[.int .i64 0,.int .i64 1,.int .i64 2] 3) x83 wi:=j83;clear hB hA;rw[if_pos (by simp[Region.wanted,yielded,s81])]
  ·obtain⟨gb,rfl,BB⟩:=j83;go_simp;refine (q0U (N:=N) (lo':=0) (hi':=0) (z':=fun t=>(t:Int)) (HO10.out.ext eI) ⟨rfl,_,_,rfl,q_r,by unfold maxLen;omega,fun _=>⟨gb,0,rfl,fun i hi=>?_⟩⟩).mono ?_
   ·rcases (by omega:i=0\/i=1\/i=2) with rfl|rfl|rfl
    ·exact qh BB 0
    ·exact qh BB 1
    ·exact qh BB 2
   rintro e wj ⟨rfl,ej⟩;rw[ql.2 (fun i _=>decide_eq_true rfl)];go_wp2_with fail;exact hK.out _ _ ej rfl
  obtain⟨_,s81,rfl⟩:=hA 46 81;obtain⟨_,s84,rfl⟩:=hA 49 84;rotate_left;obtain⟨_,s85,rfl⟩:=hA 50 85;rotate_left
  all_goals clear hB hA;go_simp;exact q_k hK rfl
 intro vals wz eZ hJ;have J0:vals 51=_:=hJ 51 (by decide) (by decide);clear hJ;simp only[pr,Nat.reduceAdd,J0];clear J0;refine qg (by kernel_rfl) ?_ _;go_wp2
 first|go_ret|skip
 exact⟨rfl,HE10.out.trans eZ⟩
theorem rf_has{z:Nat->Int}(h:IzV N lo hi w v n z) (k:Int) :
  Calls Tryz.prog 45 #[v,.int .i64 k] w (zI w (.bool (xg n (fun t=>decide (z t=k))))):=by
 obtain⟨Q,hQ⟩:=qc (zI w (.bool (xg n (fun t=>decide (z t=k)))));rw[<-hQ.out];obtain⟨A1,c1,rfl,k1,k2⟩:=h.form;unfold maxLen at k2;have HI:=q_h h;clear h;obtain⟨w1,hw1⟩:∃w1,w1=w:=⟨_,rfl⟩
 have hw1':=q_h hw1;subst hw1;go_enter Tryz.func45,Tryz.ntmps45;go_wp2_with fail
 go_loopw [5] (fun iv wr=>∃i:Nat,i<=n/\iv=.int .i64 (i:Int)/\Hid (∀j,j<i->z j≠k)/\wr=w1) (fun iv _=>n-(intOf iv).toNat)
 case atStart=>exact⟨0,Nat.zero_le _,rfl,fun j hj=>absurd hj (Nat.not_lt_zero j),rfl⟩
 case round =>
  obtain⟨i,hi9,rfl,HE,rfl⟩:=hrel
  by_cases hlt:i<n
  case neg =>
   have t1:decide ((i:Int)<(n:Int))=false:=q_f (by omega);obtain rfl:n=i:=by omega
   have HF:Hid (xg n (fun t=>decide (z t=k))=false):=zT.2 fun j hj=>q_f (HE.out j hj)
   go_wp2
   first|go_ret|skip
   rw[hQ.out,HF.out];exact⟨rfl,Ext.refl _⟩
  have t1:decide ((i:Int)<(n:Int))=true:=q_t (by omega);have t2:(i:Int)<(n:Int):=by omega
  obtain⟨b,off,rfl,hx⟩:=HI.out.addr (by omega);have p0:=hx i hlt;obtain⟨x,hx1⟩:=qc (z i);rw[<-hx1.out] at p0;clear hx
  by_cases h9:x=k
  ·have t3:(x == k)=true:=by simpa using h9
   have HT:Hid (xg n (fun t=>decide (z t=k))=true):=jT hlt (q_t (by rw[<-hx1.out];exact h9));clear h9;go_wp2
   first|go_ret|skip
   rw[hQ.out,HT.out];exact⟨rfl,Ext.refl _⟩
  have t3:(x == k)=false:=by simpa using h9
  have HE2:Hid (∀j,j<i+1->z j≠k):=fun j hj=>by
   by_cases hji:j=i
   ·rw[hji,<-hx1.out];exact h9
   ·exact HE.out j (by omega)
  clear h9;go_wp2;go_roundw
  case rel=>exact⟨i+1,by omega,by go_num,HE2,by first|rfl|trivial⟩
  case measure=>simp[intOf];omega
def QI (n:Nat) (z:Nat->Int):Bool:=decide (1<=n)&&decide (n<=12)&&allB n (fun i=>sz1 (z i))&&decide (xZ z n<=64)
theorem Vu{z:Nat->Int}(h:IzV N lo hi w v n z) :
  Calls Tryz.prog 41 #[v] w (zI w (.int .i64 (if QI n z=true then xZ z n else -1))):=by
 obtain⟨Q,hQ⟩:=qc (zI w (.int .i64 (if QI n z=true then xZ z n else -1)));rw[<-hQ.out];obtain⟨A1,c1,rfl,k1,k2⟩:=h.form;unfold maxLen at k2;have HI:=q_h h;clear h;have HB:Hid (QI n z=false->Q=zI w (.int .i64 (-1))):=fun h=>by rw[hQ.out,h];rfl
 obtain⟨w1,hw1⟩:∃w1,w1=w:=⟨_,rfl⟩
 have hw1':=q_h hw1;subst hw1
 by_cases h1:n<1
 ·have t1:decide ((n:Int)<1)=true:=q_t (by omega);have HF:Hid (QI n z=false):=by unfold QI;rw[q_f (by omega)];rfl
  clear h1;go_enter Tryz.func41,Tryz.ntmps41;go_wp2
  first|go_ret|skip
  rw[HB.out HF.out];exact⟨rfl,Ext.refl _⟩
 have t1:decide ((n:Int)<1)=false:=q_f (by omega)
 by_cases h2:12<n
 ·have t2:decide ((12:Int)<(n:Int))=true:=q_t (by omega);have HF:Hid (QI n z=false):=by unfold QI;rw[q_f (show ¬n<=12 by omega),Bool.and_false];rfl
  clear h2;go_enter Tryz.func41,Tryz.ntmps41;go_wp2
  first|go_ret|skip
  rw[HB.out HF.out];exact⟨rfl,Ext.refl _⟩
 have t2:decide ((12:Int)<(n:Int))=false:=q_f (by omega);have hn1:1<=n:=by omega
 have hn12:n<=12:=by omega
 clear h1 h2;go_enter Tryz.func41,Tryz.ntmps41;go_wp2_with fail
 go_loopw [4,3] (fun iv sv wr=>∃(i:Nat) (s:Int),i<=n/\iv=.int .i64 (i:Int)/\sv=.int .i64 s/\Hid (s=xZ z i)/\(i:Int)<=s/\s<=12*(i:Int)/\Hid (∀j,j<i->sz1 (z j)=true)/\wr=w1) (fun iv _ _=>n-(intOf iv).toNat)
 case atStart=>exact⟨0,0,Nat.zero_le _,rfl,rfl,rfl,by omega,by omega,fun j hj=>absurd hj (Nat.not_lt_zero j),rfl⟩
 case round =>
  clear t1 t2;obtain⟨i,s,hi9,rfl,rfl,HS,hs1,hs2,HE,rfl⟩:=hrel
  by_cases hlt:i<n
  case neg =>
   have t1:decide ((i:Int)<(n:Int))=false:=q_f (by omega);obtain rfl:n=i:=by omega
   by_cases h64:(64:Int)<s
   ·have t3:decide ((64:Int)<s)=true:=q_t h64;have HF:Hid (QI n z=false):=by unfold QI;rw[q_f (show ¬xZ z n<=64 by rw[<-HS.out];omega),Bool.and_false];rfl
    clear h64;go_wp2
    first|go_ret|skip
    rw[HB.out HF.out];exact⟨rfl,Ext.refl _⟩
   have t3:decide ((64:Int)<s)=false:=q_f h64
   have HT:Hid (QI n z=true):=by
    unfold QI;rw[q_t hn1,q_t hn12,ql.2 HE.out,q_t (by rw[<-HS.out];omega)]
    rfl
   clear h64;go_wp2
   first|go_ret|skip
   rw[hQ.out,HT.out,if_pos rfl,<-HS.out];exact⟨rfl,Ext.refl _⟩
  have t1:decide ((i:Int)<(n:Int))=true:=q_t (by omega);have t2:(i:Int)<(n:Int):=by omega
  obtain⟨b,off,rfl,hx⟩:=HI.out.addr (by omega);have p0:=hx i hlt;obtain⟨x,hx1⟩:=qc (z i);rw[<-hx1.out] at p0;clear hx
  by_cases h9:1<=x/\x<=12
  case neg =>
   have HF:Hid (QI n z=false):=by
    unfold QI;rw[qE hlt (show sz1 (z i)=false by rw[Bool.eq_false_iff];intro h;have:=zQ.1 h;rw[<-hx1.out] at this;exact h9 this),Bool.and_false]
    rfl
   by_cases hx0:x<1
   ·have t3:decide (x<1)=true:=q_t hx0;clear h9 hx0;go_wp2
    first|go_ret|skip
    rw[HB.out HF.out];exact⟨rfl,Ext.refl _⟩
   have t3:decide (x<1)=false:=q_f hx0;have t4:decide (12<x)=true:=q_t (by omega);clear h9 hx0;go_wp2
   first|go_ret|skip
   rw[HB.out HF.out];exact⟨rfl,Ext.refl _⟩
  have t3:decide (x<1)=false:=q_f (by omega);have t4:decide (12<x)=false:=q_f (by omega);have t5:IntKind.i64.wrap (s+x)=s+x:=wrp (by omega) (by omega)
  have HE2:Hid (∀j,j<i+1->sz1 (z j)=true):=fun j hj=>by
   by_cases hji:j=i
   ·rw[hji,zQ,<-hx1.out];exact h9
   ·exact HE.out j (by omega)
  have HS2:Hid (s+x=xZ z (i+1)):=by rw[HS.out,hx1.out];rfl
  obtain⟨h9a,h9b⟩:=h9;go_wp2;go_roundw
  case rel=>exact⟨i+1,_,by omega,by go_num,rfl,HS2,by omega,by omega,HE2,by first|rfl|trivial⟩
  case measure=>simp[intOf];omega
theorem vw{L:Nat->Nat}{A:Nat->Nat->Raw}(h:MtR N lo hi w v m L A) (r c:Int) :
  Calls Tryz.prog 43 #[v,.int .i64 r,.int .i64 c] w (zI w (.bool (decide ((m:Int)=r)&&allB m (fun i=>decide ((L i:Int)=c))))):=by
 obtain⟨Q,hQ⟩:=qc (zI w (.bool (decide ((m:Int)=r)&&allB m (fun i=>decide ((L i:Int)=c)))));rw[<-hQ.out];obtain⟨A1,c1,rfl,k1,k2⟩:=h.form;unfold maxLen at k2;have HI:=q_h h;clear h;obtain⟨w1,hw1⟩:∃w1,w1=w:=⟨_,rfl⟩
 have hw1':=q_h hw1;subst hw1
 by_cases h1:(m:Int)=r
 case neg =>
  have t1:((m:Int) != r)=true:=by simpa using h1
  have HF:Hid (decide ((m:Int)=r)=false):=q_f h1;clear h1;go_enter Tryz.func43,Tryz.ntmps43;go_wp2
  first|go_ret|skip
  rw[hQ.out,HF.out,Bool.false_and];exact⟨rfl,Ext.refl _⟩
 have t1:((m:Int) != r)=false:=by simpa using h1
 have HT:Hid (decide ((m:Int)=r)=true):=q_t h1;clear h1;go_enter Tryz.func43,Tryz.ntmps43;go_wp2_with fail
 go_loopw [7] (fun iv wr=>∃i:Nat,i<=m/\iv=.int .i64 (i:Int)/\Hid (∀j,j<i->(L j:Int)=c)/\wr=w1) (fun iv _=>m-(intOf iv).toNat)
 case atStart=>exact⟨0,Nat.zero_le _,rfl,fun j hj=>absurd hj (Nat.not_lt_zero j),rfl⟩
 case round =>
  clear t1;obtain⟨i,hi9,rfl,HE,rfl⟩:=hrel
  by_cases hlt:i<m
  case neg =>
   have t1:decide ((i:Int)<(m:Int))=false:=q_f (by omega);obtain rfl:m=i:=by omega
   go_wp2
   first|go_ret|skip
   rw[hQ.out,HT.out,ql.2 (fun j hj=>q_t (HE.out j hj))];exact⟨rfl,Ext.refl _⟩
  have t1:decide ((i:Int)<(m:Int))=true:=q_t (by omega);have t2:(i:Int)<(m:Int):=by omega
  obtain⟨b,off,rfl,-,-,hx⟩:=MtR.addr HI.out (by omega);obtain⟨A7,c7,p0,-,-,-⟩:=hx i hlt;obtain⟨x,hx1⟩:=qc (L i);rw[<-hx1.out] at p0;clear hx
  by_cases h9:(x:Int)=c
  case neg =>
   have t3:((x:Int) != c)=true:=by simpa using h9
   have HF:Hid (allB m (fun i=>decide ((L i:Int)=c))=false):=qE hlt (q_f (by rw[<-hx1.out];exact h9));clear h9;go_wp2
   first|go_ret|skip
   rw[hQ.out,HF.out,Bool.and_false];exact⟨rfl,Ext.refl _⟩
  have t3:((x:Int) != c)=false:=by simpa using h9
  have HE2:Hid (∀j,j<i+1->(L j:Int)=c):=fun j hj=>by
   by_cases hji:j=i
   ·rw[hji,<-hx1.out];exact h9
   ·exact HE.out j (by omega)
  clear h9;go_wp2;go_roundw
  case rel=>exact⟨i+1,by omega,by go_num,HE2,by first|rfl|trivial⟩
  case measure=>simp[intOf];omega
def Yn (z:Nat->Int):Nat->Int
 | 0=>0
 | n+1=>Yn z n+(if sz1 (z n)=true then z n else 0)
theorem q0L {z:Nat->Int}:∀n,0<=Yn z n/\Yn z n<=12*(n:Int)
 | 0=>⟨Int.le_refl _,by show (0:Int)<=12*((0:Nat):Int);omega⟩
 | n+1=>by
  have h:=q0L (z:=z) n;unfold Yn
  split
  ·have:=zQ.1 ‹_›
   constructor<;>omega
  ·constructor<;>omega
theorem Vq {z:Nat->Int}:∀n,(∀i,i<n->sz1 (z i)=true)->Yn z n=xZ z n
 | 0,_=>rfl
 | n+1,h=>by
  unfold Yn xZ;rw[Vq n (fun i hi=>h i (by omega)),if_pos (h n (by omega))]
def q5Y (Z:Sys):Bool:=decide (Z.ns<=14)&&decide (Z.nb<=20)&&shB 70 Z.k Z.R && !(QI Z.ns Z.z&&decide (7<Yn Z.z Z.ns))&&allB Z.nb (fun i=>shM 13 (Z.b i).m (Z.b i).L (Z.b i).A)
theorem rf_Few{Z:Sys}(h:Qn N lo hi w v Z) :
  Calls Tryz.prog 9 #[v] w (zI w (.bool (q5Y Z))):=by
 obtain⟨Q,hQ⟩:=qc (zI w (.bool (q5Y Z)));rw[<-hQ.out];obtain⟨A1,c1,A2,c2,A3,c3,rfl,s1,s2,s3,k1,k2,k3⟩:=h.parts;have HI:=q_h s1;have HB:=q_h s2;have HR:=q_h s3;obtain⟨m,hm⟩:=qc Z.ns;obtain⟨nb,hnb⟩:=qc Z.nb;obtain⟨kk,hkk⟩:=qc Z.k;obtain⟨z,hz⟩:=qc Z.z;rw[<-hm.out,<-hz.out] at HI;rw[<-hnb.out] at HB;rw[<-hkk.out] at HR;rw[<-hm.out,<-hnb.out,<-hkk.out];rw[<-hm.out] at k1;rw[<-hnb.out] at k2;rw[<-hkk.out] at k3;obtain⟨f1,hf1⟩:=qc (decide (m<=14));obtain⟨f2,hf2⟩:=qc (decide (nb<=20));obtain⟨f3,hf3⟩:=qc (shB 70 kk Z.R);obtain⟨f4,hf4⟩:=qc (QI m z&&decide (7<Yn z m));obtain⟨f5,hf5⟩:=qc (allB nb (fun i=>shM 13 (Z.b i).m (Z.b i).L (Z.b i).A))
 have HF:Hid (q5Y Z=(f1&&f2&&f3 && !f4&&f5)):=by
  unfold q5Y;rw[<-hm.out,<-hnb.out,<-hkk.out,<-hz.out,<-hf1.out,<-hf2.out,<-hf3.out,<-hf4.out,<-hf5.out]
  rfl
 clear h s1 s2 s3;go_enter Tryz.func9,Tryz.ntmps9;go_upto_region 1 with (fail);refine qp ?_;intro w1 hE hsz B0;obtain⟨g1,hg1⟩:=qc w.heap.size;rw[<-hg1.out] at B0 ⊢;have hg1s:g1<w1.heap.size:=qF B0;have HB0:=q_h B0;obtain⟨a0,a1,a2,-⟩:=cells3 B0;clear hsz B0;cases f1 with
 | false =>
  have h9:=of_decide_eq_false hf1.out.symm;have t1:decide ((14:Int)<(m:Int))=true:=q_t (by omega);clear h9;go_wp2
  first|go_ret|skip
  rw[hQ.out,HF.out];exact⟨rfl,hE⟩
 | true =>
 have hm14:=of_decide_eq_true hf1.out.symm;have t1:decide ((14:Int)<(m:Int))=false:=q_f (by omega);cases f2 with
 | false =>
  have h9:=of_decide_eq_false hf2.out.symm;have t2:decide ((20:Int)<(nb:Int))=true:=q_t (by omega);clear h9;go_wp2
  first|go_ret|skip
  rw[hQ.out,HF.out];exact⟨rfl,hE⟩
 | true =>
 have hn20:=of_decide_eq_true hf2.out.symm;have t2:decide ((20:Int)<(nb:Int))=false:=q_f (by omega);go_wp2_with (go_at_call 40;refine q_o ?_);refine (Vw (HR.out.ext hE) 70 (mz:=70) rfl (by omega)).mono ?_;rintro e w2 ⟨rfl,e2⟩;rw[<-hf3.out];have HE2:Hid (Ext w w2):=hE.trans e2;have HB2:=q_h (e2.block HB0.out);clear hE e2 a0 a1 a2 HB0 t1 t2;obtain⟨a0,a1,a2,-⟩:=cells3 HB2.out;cases f3 with
 | false =>
  go_wp2
  first|go_ret|skip
  rw[hQ.out,HF.out];exact⟨rfl,HE2.out⟩
 | true =>
 obtain⟨wA,hwA⟩:∃wA,wA=w2:=⟨_,rfl⟩
 subst hwA;go_wp2_with fail
 go_loopw [4,3] (fun iv sv wr=>∃i:Nat,i<=m/\iv=.int .i64 (i:Int)/\sv=.int .i64 (Yn z i)/\wr=wA) (fun iv _ _=>m-(intOf iv).toNat)
 case atStart=>exact⟨0,Nat.zero_le _,rfl,rfl,rfl⟩
 case round =>
  obtain⟨i,hi9,rfl,rfl,rfl⟩:=hrel;have hsb:=q0L (z:=z) i
  by_cases hlt:i<m
  case pos =>
   have t1:decide ((i:Int)<(m:Int))=true:=q_t (by omega);have t2:(i:Int)<(m:Int):=by omega
   obtain⟨b,off,rfl,hx⟩:=(HI.out.ext HE2.out).addr (by omega);have p0:=hx i hlt;obtain⟨x,hx1⟩:=qc (z i);rw[<-hx1.out] at p0;clear hx;have HS:Hid (Yn z (i+1)=Yn z i+(if sz1 x=true then x else 0)):=by rw[hx1.out];rfl
   obtain⟨s,hs⟩:=qc (Yn z i);rw[<-hs.out] at hsb HS ⊢
   by_cases h0:0<x
   case neg =>
    have t3:decide (0<x)=false:=q_f h0
    have HN:Hid (Yn z (i+1)=s):=by
     rw[HS.out,if_neg (fun h=>by have:=zQ.1 h;omega),Int.add_zero];rfl
    clear h0;go_wp2;go_roundw
    case rel=>exact⟨i+1,by omega,by go_num,by rw[HN.out],by first|rfl|trivial⟩
    case measure=>simp[intOf];omega
   have t3:decide (0<x)=true:=q_t h0
   by_cases h1:x<=12
   case neg =>
    have t4:decide (x<=12)=false:=q_f h1
    have HN:Hid (Yn z (i+1)=s):=by
     rw[HS.out,if_neg (fun h=>by have:=zQ.1 h;omega),Int.add_zero];rfl
    clear h0 h1;go_wp2;go_roundw
    case rel=>exact⟨i+1,by omega,by go_num,by rw[HN.out],by first|rfl|trivial⟩
    case measure=>simp[intOf];omega
   have t4:decide (x<=12)=true:=q_t h1;have HN:Hid (Yn z (i+1)=s+x):=by rw[HS.out,if_pos (zQ.2 ⟨by omega,h1⟩)];rfl
   have t5:IntKind.i64.wrap (s+x)=s+x:=wrp (by omega) (by omega);go_wp2;go_roundw
   case rel=>exact⟨i+1,by omega,by go_num,by rw[HN.out],by first|rfl|trivial⟩
   case measure=>simp[intOf];omega
  have t1:decide ((i:Int)<(m:Int))=false:=q_f (by omega);obtain rfl:m=i:=by omega
  obtain⟨s,hs⟩:=qc (Yn z m);rw[<-hs.out] at hsb hf4 ⊢;obtain⟨sz,hsz9⟩:=qc (QI m z);obtain⟨b7,hb7⟩:=qc (decide (7<s));obtain⟨T,hT⟩:=qc (if QI m z=true then xZ z m else -1)
  have HT0:Hid (decide (0<=T)=sz):=by
   rw[hT.out,<-hsz9.out];cases sz with
   | true =>
    have h9:=hsz9.out.symm;unfold QI at h9;rw[Bool.and_eq_true,Bool.and_eq_true,ql] at h9;have:=(QW m h9.1.2).1;rw[if_pos rfl];exact q_t (by omega)
   | false =>
    rw[if_neg (by decide)]
    rfl
  have HF4:Hid (f4=(sz&&b7)):=by rw[hf4.out,hsz9.out,hb7.out];rfl
  obtain⟨wB,hwB⟩:∃wB,wB=wr:=⟨_,rfl⟩
  subst hwB;go_upto_region 9 with (fail)
  go_cut [57] (fun bv wx=>bv=.bool f4/\Ext wB wx)
  case first =>
   go_wp2_with (go_at_call 41;refine q_o ?_);refine (Vu (HI.out.ext HE2.out)).mono ?_;rintro e w3 ⟨rfl,e3⟩;rw[<-hT.out];have t3:=HT0.out;have t4:decide (7<s)=b7:=hb7.out.symm;have HX3:=q_h e3;clear e3;cases sz with
   | true =>
    have HF4':Hid (b7=f4):=by rw[HF4.out];rfl
    go_wp2
    go_meet
    exact⟨by rw[HF4'.out],HX3.out⟩
   | false =>
    have HF4':Hid (false=f4):=by rw[HF4.out];rfl
    go_wp2
    go_meet
    exact⟨by rw[HF4'.out],HX3.out⟩
  obtain⟨rfl,hcut⟩:=hcut
  have HFF:Hid (q5Y Z=(!f4&&f5)):=by
   rw[HF.out];cases f4<;>cases f5<;>rfl
  have HE3:=HE2;have HB3:=HB2;cases f4 with
  | true =>
   have HE4:Hid (Ext w wc):=HE3.out.trans hcut;go_wp2
   first|go_ret|skip
   rw[hQ.out,HFF.out];exact⟨rfl,HE4.out⟩
  | false =>
  rw[Bool.not_false,Bool.true_and] at HFF;replace hcut:=q_h hcut;obtain⟨w4,hw4⟩:∃w4,w4=wc:=⟨_,rfl⟩
  subst hw4;have HE4:Hid (Ext w w4):=HE3.out.trans hcut.out;have HB4:=q_h (hcut.out.block HB3.out);clear a0 a1 a2 HB3 HE3 hcut t1;obtain⟨a0,a1,a2,-⟩:=cells3 HB4.out;go_wp2_with fail
  go_loopw [5] (fun iv wr=>∃i:Nat,i<=nb/\iv=.int .i64 (i:Int)/\Hid (∀j,j<i->shM 13 (Z.b j).m (Z.b j).L (Z.b j).A=true)/\Hid (Ext w4 wr)) (fun iv _=>nb-(intOf iv).toNat)
  case atStart=>exact⟨0,Nat.zero_le _,rfl,fun j hj=>absurd hj (Nat.not_lt_zero j),Ext.refl _⟩
  case round =>
   clear a0 a1 a2;obtain⟨i,hi9,rfl,HS,HX⟩:=hrel;obtain⟨a0,a1,a2,-⟩:=cells3 (HX.out.block HB4.out)
   by_cases hlt:i<nb
   case neg =>
    have t1:decide ((i:Int)<(nb:Int))=false:=q_f (by omega);obtain rfl:nb=i:=by omega
    have HT5:Hid (f5=true):=by rw[Hid,hf5.out];exact ql.2 HS.out
    have HEr:Hid (Ext w wr):=HE4.out.trans HX.out;go_wp2
    first|go_ret|skip
    rw[hQ.out,HFF.out,HT5.out];exact⟨rfl,HEr.out⟩
   have t1:decide ((i:Int)<(nb:Int))=true:=q_t (by omega);have t2:(i:Int)<(nb:Int):=by omega
   have HEr:Hid (Ext w wr):=HE4.out.trans HX.out;obtain⟨b,off,rfl,hx⟩:=(HB.out.ext HEr.out).addr (by omega);obtain⟨Ab,cb,p0,p1,p2,hM,hm9⟩:=(hx i hlt).box;obtain⟨mb,hmb⟩:=qc (Z.b i).m;have HM:=q_h hM;rw[<-hmb.out] at p2 HM;obtain⟨sb,hsb⟩:=qc (shM 13 mb (Z.b i).L (Z.b i).A);clear hx hM p0 p1;go_wp2_with (go_at_call 42;refine q_o ?_);refine (ZN HM.out 13 (mz:=13) rfl (by omega)).mono ?_;rintro e w5 ⟨rfl,e5⟩;rw[<-hsb.out];have HX5:Hid (Ext w4 w5):=HX.out.trans e5;have HE5:Hid (Ext w w5):=HEr.out.trans e5;clear a0 a1 a2 p2 e5 HX;cases sb with
   | false =>
    have HN:Hid (f5=false):=by rw[Hid,hf5.out];exact qE hlt (by rw[<-hmb.out];exact hsb.out.symm)
    go_wp2
    first|go_ret|skip
    rw[hQ.out,HFF.out,HN.out];exact⟨rfl,HE5.out⟩
   | true =>
    have HS2:Hid (∀j,j<i+1->shM 13 (Z.b j).m (Z.b j).L (Z.b j).A=true):=fun j hj=>by
     by_cases hji:j=i
     ·rw[hji,<-hmb.out];exact hsb.out.symm
     ·exact HS.out j (by omega)
    go_wp2;go_roundw
    case rel=>exact⟨i+1,by omega,by go_num,HS2,HX5⟩
    case measure=>simp[intOf];omega
theorem sign_zero {y:Rat}:(x-y).num.sign=0↔x=y:=by
 constructor
 ·intro h;have h1:=Int.sign_eq_zero_iff_zero.1 h;have h2:=Rat.num_eq_zero.1 h1
  grind
 ·rintro rfl;rw[Rat.sub_self];rfl
theorem q3n{v':Value}{y:Rat}(h:zq N w v x) (h':zq N w v' y) (hz:Sz x) (hz':Sz y) (hd:Sz (x-y)) :
  Calls Tryz.prog 39 #[v,v'] w (zI w (.bool (decide (x=y)))):=by
 obtain⟨r,hr⟩:=qc (decide (x=y));obtain⟨s,hs⟩:=qc (x-y).num.sign
 have hrs:r=decide (s=0):=by
  rw[hr.out,hs.out]
  by_cases he:x=y
  ·rw[q_t he,q_t (sign_zero.2 he)]
  ·rw[q_f he,q_f (fun h=>he (sign_zero.1 h))]
 rw[<-hr.out];have HD:=q_h hd;have hI:=h;have hI':=h';have HZ:=q_h hz;have HZ':=q_h hz';have HR:=q_h hrs;obtain⟨m1,X1,i1,d1,X2,i2,d2,rfl,hm1,gx1,gx2⟩:=h.parts;obtain⟨m2,Y1,i3,d3,Y2,i4,d4,rfl,hm2,gy1,gy2⟩:=h'.parts;clear hz hz' hd h h' gx1 gx2 gy1 gy2 hrs;go_enter Tryz.func39,Tryz.ntmps39;go_wp2_with (go_at_call 69;refine q_o ?_);refine jw ?_;intro W hE hsz B0 B1;refine (vH (R:=raw x) (hI.ext hE) (jA HZ.out).1 (jA HZ.out).2).mono ?_;rintro e w1 ⟨rfl,e1⟩;rw[jk];replace hE:=hE.trans e1;replace B0:=e1.block B0;replace B1:=e1.block B1;obtain⟨b0,b1,b2,b3,-⟩:=cells4 B1;go_wp2_with (go_at_call 69;refine q_o ?_);refine (vH (R:=raw y) (hI'.ext hE) (jA HZ'.out).1 (jA HZ'.out).2).mono ?_;rintro e w2 ⟨rfl,e2⟩;rw[jk];replace hE:=hE.trans e2;replace B0:=e2.block B0;replace B1:=e2.block B1;clear b0 b1 b2 b3;obtain⟨a0,a1,a2,a3,-⟩:=cells4 B0;obtain⟨b0,b1,b2,b3,-⟩:=cells4 B1;go_wp2_with (go_at_call 93;refine q_o ?_);refine (Kt (hI.ext hE) (hI'.ext hE) HZ.out HZ'.out HD.out).mono ?_;rintro e w3 ⟨rfl,e3⟩;rw[<-hs.out]
 by_cases h0:s=0
 ·have HR1:Hid (r=true):=by rw[Hid,HR.out,q_t h0]
  subst h0;go_wp2;go_ret;exact⟨qw HR1.out.symm,hE.trans e3⟩
 ·have HR1:Hid (r=false):=by rw[Hid,HR.out,q_f h0]
  have hs0:(s == 0)=false:=by simpa using h0
  go_wp2;go_ret;exact⟨qw HR1.out.symm,hE.trans e3⟩
theorem Jw {lo' hi':Nat}{v':Value}{x y:q_v}(h:LsV N lo hi w v n x) (h':LsV N lo' hi' w v' n y) (hz:∀i,i<n->Sz (x i)/\Sz (y i)/\Sz (x i-y i)) :
  Calls Tryz.prog 21 #[v,v'] w (zI w (.bool (allB n (fun i=>decide (x i=y i))))):=by
 obtain⟨r,hr⟩:=qc (allB n (fun i=>decide (x i=y i)));rw[<-hr.out];obtain⟨A,c,rfl,hnc,hcm⟩:=h.form;obtain⟨A',c',rfl,hnc',hcm'⟩:=h'.form;unfold maxLen at hcm hcm';have hI:=h;have hI':=h';have HZ:=q_h hz;clear hz h h';go_enter Tryz.func21,Tryz.ntmps21;go_wp2
 go_loopw [5] (fun i wr=>∃k:Nat,k<=n/\i=.int .i64 k/\Ext w wr/\Hid (∀j,j<k->decide (x j=y j)=true)) (fun i _=>n-(intOf i).toNat)
 case atStart=>exact⟨0,Nat.zero_le _,rfl,Ext.refl w,fun j hj=>absurd hj (by omega)⟩
 case round =>
  obtain⟨k,hk,rfl,hE,HA⟩:=hrel
  by_cases hlt:k<n
  ·obtain⟨b,off,rfl,-,-,hx⟩:=(hI.ext hE).addr (by omega);obtain⟨b',off',rfl,-,-,hx'⟩:=(hI'.ext hE).addr (by omega);obtain⟨A1,n1,c1,A2,n2,c2,p0,p1,p2,p3,hv⟩:=(hx k hlt).val;obtain⟨A3,n3,c3,A4,n4,c4,q0,q1,q2,q3,hv'⟩:=(hx' k hlt).val;obtain⟨o,ho⟩:=qc (decide (x k=y k));clear hx hx';go_wp2
   go_cut [26] (fun pb wx=>pb=.bool (!o)/\Ext wr wx)
   case first =>
    have eC:=(Ext.refl wr).drew;refine qx (fun w'=>w'.cell? ⟨b,off+k*4,none⟩=some (.bool (raw (x k)).b1)/\w'.cell? ⟨b,off+k*4+1,none⟩=some (.slice A1 n1 c1)/\w'.cell? ⟨b,off+k*4+2,none⟩=some (.bool (raw (x k)).b2)/\w'.cell? ⟨b,off+k*4+3,none⟩=some (.slice A2 n2 c2)/\w'.cell? ⟨b',off'+k*4,none⟩=some (.bool (raw (y k)).b1)/\w'.cell? ⟨b',off'+k*4+1,none⟩=some (.slice A3 n3 c3)/\w'.cell? ⟨b',off'+k*4+2,none⟩=some (.bool (raw (y k)).b2)/\w'.cell? ⟨b',off'+k*4+3,none⟩=some (.slice A4 n4 c4)) [] (by kernel_rfl) (by exact⟨eC.cell p0,eC.cell p1,eC.cell p2,eC.cell p3,eC.cell q0,eC.cell q1,eC.cell q2,eC.cell q3⟩) (fun hHeld=>?_);refine sP 0 (h:=?_);try simp only[nr]
    refine sP 1 (h:=?_);try simp only[nr]
    refine sP 2 (h:=?_);try simp only[nr]
    refine sT 3 (h:=?_);try simp only[nr]
    refine sP 4 (h:=?_);try simp only[nr]
    refine sP 5 (h:=?_);try simp only[nr]
    refine sP 6 (h:=?_);try simp only[nr]
    refine sT 7 (h:=?_);try simp only[nr]
    refine qA (i:=8) rfl (by kernel_rfl) (fun K hK=>?_);go_simp;refine (q3n (x:=x k) (y:=y k) (by exact hv.ext eC) (by exact hv'.ext eC) (HZ.out k hlt).1 (HZ.out k hlt).2.1 (HZ.out k hlt).2.2).mono ?_;rw[<-ho.out];rintro e w1 ⟨rfl,e1⟩;replace eC:=eC.trans e1;go_wp2_with fail;clear hHeld;refine hK.out _ _ (by exact⟨eC.cell p0,eC.cell p1,eC.cell p2,eC.cell p3,eC.cell q0,eC.cell q1,eC.cell q2,eC.cell q3⟩) fun hHeld=>?_
    clear hK K;try simp only[nr]
    refine sP 9 (h:=?_);try simp only[nr]
    refine qg (by kernel_rfl) ?_ _;clear hHeld;go_wp2_with fail
    go_meet
    exact⟨rfl,eC⟩
   case rest =>
    obtain⟨rfl,e1⟩:=hcut;replace hE:=hE.trans e1;have HO:Hid (decide (x k=y k)=o):=ho.out.symm;clear p0 p1 p2 p3 q0 q1 q2 q3 hv hv' ho;cases ho':o with
    | true =>
     subst ho';go_wp2;go_roundw
     case rel=>exact⟨k+1,by omega,by go_num,hE,kY (p:=fun j=>decide (x j=y j)=true) HA.out HO.out⟩
     case measure=>simp[intOf];omega
    | false =>
     subst ho';have HF:Hid (r=false):=by rw[Hid,hr.out];exact qE hlt HO.out
     go_wp2;go_ret;exact⟨qw HF.out.symm,hE⟩
  ·have HF:Hid (r=true):=by rw[Hid,hr.out];exact ql.2 (fun j hj=>HA.out j (by omega))
   go_wp2;go_ret;exact⟨qw HF.out.symm,hE⟩
theorem ZO {lo' hi':Nat}{v':Value}{x y:q_m}(h:MtV N lo hi w v m n x) (h':MtV N lo' hi' w v' m n y) (hz:∀i,i<m->∀j,j<n->Sz (x i j)/\Sz (y i j)/\Sz (x i j-y i j)) :
  Calls Tryz.prog 36 #[v,v'] w (zI w (.bool (allB m (fun i=>allB n (fun j=>decide (x i j=y i j)))))):=by
 obtain⟨Q,hQ⟩:=qc (zI w (.bool (allB m (fun i=>allB n (fun j=>decide (x i j=y i j))))));rw[<-hQ.out];obtain⟨A,c,rfl,hnc,hcm⟩:=h.form;obtain⟨A',c',rfl,hnc',hcm'⟩:=h'.form;unfold maxLen at hcm hcm';have hI:=q_h h;have hI':=q_h h';have HZ:=q_h hz;clear hz h h';obtain⟨w1,hw1⟩:∃w1,w1=w:=⟨_,rfl⟩
 have hw1':=q_h hw1;subst hw1;go_enter Tryz.func36,Tryz.ntmps36;go_wp2
 go_loopw [5] (fun i wr=>∃k:Nat,k<=m/\i=.int .i64 k/\Hid (Ext w1 wr)/\Hid (∀j,j<k->allB n (fun c=>decide (x j c=y j c))=true)) (fun i _=>m-(intOf i).toNat)
 case atStart=>exact⟨0,Nat.zero_le _,rfl,Ext.refl w1,fun j hj=>absurd hj (Nat.not_lt_zero j)⟩
 case round =>
  obtain⟨k,hk,rfl,hE,HA⟩:=hrel
  by_cases hlt:k<m
  case neg =>
   obtain rfl:m=k:=by omega
   go_wp2
   first|go_ret|skip
   rw[hQ.out,ql.2 HA.out];exact⟨rfl,hE.out⟩
  obtain⟨b,off,rfl,-,-,hx⟩:=(MtR.ext hI.out hE.out).addr (by omega);obtain⟨b',off',rfl,-,-,hx'⟩:=(MtR.ext hI'.out hE.out).addr (by omega);obtain⟨A1,c1,p0,-,-,hv⟩:=hx k hlt;obtain⟨A3,c3,q0,-,-,hv'⟩:=hx' k hlt;have HV:=q_h hv;have HV':=q_h hv';obtain⟨o,ho⟩:=qc (allB n (fun c=>decide (x k c=y k c)));obtain⟨wq,hwq⟩:∃wq,wq=wr:=⟨_,rfl⟩
  subst hwq;clear hx hx' hv hv';go_upto_region 6 with (fail);refine jL [Mn.eq (.slice (some ⟨b,off,none⟩) m c),Mn.i (k:Int),Mn.q b (off+k),Mn.eq (.slice A1 n c1),Mn.eq (.slice (some ⟨b',off',none⟩) m c'),Mn.i (k:Int),Mn.q (b') (off'+k),Mn.eq (.slice A3 n c3),Mn.t o,Mn.t (!o)] (sM [17,18,19,20,21,22,23,24,25,26]) [] (rQ 10 0) 0 (by kernel_rfl) ?_ ?_
  ·show ∀i,i<10->_
   iterate 10 refine fs ?_ ?_
   ·exact fz
   all_goals intro hl;clear hl;refine stp rfl ?_;intro ac wi eI hB hA K hK
   have o0:=oOf (hB 0) rfl;rotate_left;have o5:=oOf (hB 5) rfl;rotate_left;obtain⟨_,s17,rfl⟩:=hA 0 17;obtain⟨_,s18,rfl⟩:=hA 1 18;rotate_left;obtain⟨_,s19,rfl⟩:=hA 2 19;have cc0:=eI.cell p0;rotate_left;have o1:=oOf (hB 1) rfl;rotate_left;have o5:=oOf (hB 5) rfl;rotate_left;obtain⟨_,s21,rfl⟩:=hA 4 21;obtain⟨_,s22,rfl⟩:=hA 5 22;rotate_left;obtain⟨_,s23,rfl⟩:=hA 6 23;have cc0:=eI.cell q0;rotate_left;obtain⟨_,s20,rfl⟩:=hA 3 20;obtain⟨_,s24,rfl⟩:=hA 7 24;clear hB hA
   ·go_simp;refine (Jw (HV.out.ext eI) (HV'.out.ext eI) (HZ.out k hlt)).mono ?_;rw[<-ho.out];rintro e wj ⟨rfl,ej⟩;go_wp2_with fail;exact hK.out _ _ ej rfl
   obtain⟨_,s25,rfl⟩:=hA 8 25;rotate_left
   all_goals clear hB hA;go_simp;exact q_k hK rfl
  intro vals wz eZ hJ;have J26:vals 9=_:=hJ 9 (by decide) (by decide);clear hJ;simp only[pr,Nat.reduceAdd,J26];clear J26;refine qg (by kernel_rfl) ?_ _;have HE2:Hid (Ext w1 wz):=hE.out.trans eZ;clear p0 q0 eZ;cases o with
  | true =>
   have HA2:Hid (∀j,j<k+1->allB n (fun c=>decide (x j c=y j c))=true):=fun j hj=>by
    by_cases hjk:j=k
    ·rw[hjk];exact ho.out.symm
    ·exact HA.out j (by omega)
   go_wp2;go_roundw
   case rel=>exact⟨k+1,by omega,by go_num,HE2,HA2⟩
   case measure=>simp[intOf];omega
  | false =>
   go_wp2
   first|go_ret|skip
   rw[hQ.out,qE (p:=fun i=>allB n (fun j=>decide (x i j=y i j))) hlt ho.out.symm];exact⟨rfl,HE2.out⟩
theorem Qq{X:q_m}(h:MtV N lo hi w v n n X) (hn0:0<n) (hn:n<1000000) (hz:∀i,i<n->∀j,j<n->Sz (X i j)/\Sz (X j i)/\Sz (X i j-X j i)) :
  Calls Tryz.prog 44 #[v] w (zI w (.bool (allB n (fun i=>allB n (fun j=>decide (X i j=X j i)))))):=by
 obtain⟨Q,hQ⟩:=qc (zI w (.bool (allB n (fun i=>allB n (fun j=>decide (X i j=X j i))))));rw[<-hQ.out];obtain⟨A,c,rfl,hnc,hcm⟩:=h.form;unfold maxLen at hcm;have HI:=q_h h;have HZ:=q_h hz;clear h hz;go_enter Tryz.func44,Tryz.ntmps44;go_wp2_with (go_at_call 96;refine q_o ?_);refine (Ju HI.out hn0 hn hn).mono ?_;rintro e w1 ⟨g,c1,β,κ,rfl,hc1,ho,e1⟩;have HM:=q_h (ho.mtv ho.mle hc1);have HE:=q_h e1;clear ho e1;go_wp2_with (go_at_call 36;refine q_o ?_);refine (ZO (MtR.ext HI.out HE.out) HM.out HZ.out).mono ?_;rintro e w2 ⟨rfl,e2⟩;go_wp2
 first|go_ret|skip
 rw[hQ.out];exact⟨rfl,HE.out.trans e2⟩
theorem iz_take {lo' hi':Nat}{off:Nat}{z:Nat->Int}(h:IzV N lo hi w (.slice (some ⟨b,off,none⟩) n c) n z) (hk:k<=n):IzV N lo' hi' w (.slice (some ⟨b,off,none⟩) k c) k z:=by
 obtain⟨-,A,c',hv,h1,h2,h3⟩:=h;simp only[Value.slice.injEq] at hv;obtain⟨rfl,-,rfl⟩:=hv;refine⟨rfl,_,_,rfl,by omega,h2,fun h9=>?_⟩;obtain⟨b',off',hbb,hx⟩:=h3 (by omega);exact⟨b',off',hbb,fun j hj=>hx j (by omega)⟩
end Go.Proofs.YtpkmjhmmmdkodaaGreat
