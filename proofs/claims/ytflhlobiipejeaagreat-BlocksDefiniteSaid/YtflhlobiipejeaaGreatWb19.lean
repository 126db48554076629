import Derived.Test.YtflhlobiipejeaaGreatWb18
import Derived.OwnWalk
import Derived.Deep.RegionLaw
import Derived.Lib.SliceRun
set_option linter.all false
set_option maxHeartbeats 8000000
set_option maxRecDepth 100000
namespace Go.Proofs.YtflhlobiipejeaaGreat
variable {w w':World} {N n lo hi k g i m base c b j K:Nat} {v s:Value} {q:Rat} {A:Option Addr}
section
open Go.RowKit
theorem q3c{cap:Nat}(h:w.ownsRow base 35 4 (.slice (some ⟨g,0,none⟩) 0 cap) 0 []) (hN:N<=base) (hb:base<=w.heap.size) (x:q_v):Grow N base w (.slice (some ⟨g,0,none⟩) 0 cap) 0 x:=by
 rcases h.2 with ⟨h0,-⟩|⟨g',cap',cur,hv,hg,hh,hnc,hcm,hcs,-⟩
 ·cases h0
 ·simp only[Value.slice.injEq,Option.some.injEq,Addr.mk.injEq,and_true,true_and] at hv;obtain⟨rfl,rfl⟩:=hv;exact⟨hN,hb,.inr ⟨_,_,rfl,hg,hcm,by omega,Nat.zero_le _,⟨cur,hh,hcs⟩,fun j hj=>absurd hj (Nat.not_lt_zero j)⟩⟩
theorem xy{ops:Array Oper}{rest:List Oper}{o:Oper}{a:Act}{Q:Exit->Act->World->Prop}(hg:o.guard=none) (l c:Operand) (hop:o.op=Op.makeSlice 37 l c)
  (kl kc:IntKind) (C:Int) (n:Nat) (hl:a.eval l=.int kl 0) (hc:a.eval c=.int kc C) (hC:C=(n:Int)) (hn:n<1000000) (hN:N<=base) (hb:base<=w.heap.size)
  (hK:∀w',(∀x,Grow N base w' (.slice (some ⟨w.heap.size,0,none⟩) 0 n) 0 x)->Ext w w'->wpList Tryz.prog ops Q rest (a.put o.dst (.slice (some ⟨w.heap.size,0,none⟩) 0 n)) w'):wpList Tryz.prog ops Q (o :: rest) a w:=by
 obtain⟨i0,hi0,hz0,hz1,hz2⟩:=info_parts yJ;refine wpList_make_own w hg l c 37 hop base 35 i0 _ 4 Tryz.underlying37 hi0 hz0 hz1 kl kc C n hl hc hC (by rw[hz2];omega) (by unfold maxLen;omega) hb ?_;intro w' h1 h2;have hx:=(Ext.refl w).grown h2 (fun k hk=>by cases hk);exact hK w' (fun x=>q3c h1 hN (q_l hb hx.size) x) hx
theorem q3W {lo' hi':Nat}{u:Value}{x y:q_v}(h:LsV N lo hi w v n x) (h':LsV N lo' hi' w u n y) (hs:∀i,i<n->Sz (x i)/\Sz (y i)) (hn:n<1000000) :
  Calls Tryz.prog 39 #[v,u] w (q6w N w n (fun i=>x i-y i)):=by
 have hN:N<=w.heap.size:=LsV.le h;obtain⟨R,hR⟩:=qc (q6w N w n (fun i=>x i-y i));rw[<-hR.out];have HX:=q_h h;have HY:=q_h h';have HS:=q_h hs;obtain⟨A1,c1,rfl,k1,-⟩:=h.form;obtain⟨A2,c2,rfl,k2,-⟩:=h'.form;clear h h' hs;go_enter Tryz.func39,Tryz.ntmps39;go_wp2_with (at_make;refine q_o ?_);refine xy (N:=N) (base:=w.heap.size) rfl _ _ rfl .i64 .i64 _ n rfl rfl rfl hn hN (q_r) ?_;intro w1 hG e1;have HG0:=q_h (hG (fun i=>x i-y i));clear hG;go_wp2_with fail
 go_loopw [12,5] (fun iv ov wr=>∃(i:Nat) (g c:Nat),i<=n/\iv=.int .i64 (i:Int)/\ov=.slice (some ⟨g,0,none⟩) i c/\Grow N w.heap.size wr ov i (fun i=>x i-y i)/\Ext w wr) (fun iv _ _=>n-(intOf iv).toNat)
 case atStart=>exact⟨0,_,_,Nat.zero_le _,rfl,rfl,HG0.out,e1⟩
 case round =>
  obtain⟨i,g,c,hi,rfl,rfl,HG,hE⟩:=hrel
  by_cases hlt:i<n
  case neg =>
   have t1:decide ((i:Int)<(n:Int))=false:=q_f (by omega);obtain rfl:n=i:=by omega
   go_wp2
   first|go_ret|skip
   rw[hR.out];exact⟨_,_,rfl,HG.lsv (q_r) rfl,hE⟩
  have t1:decide ((i:Int)<(n:Int))=true:=q_t (by omega);have t2:(i:Int)<(n:Int):=by omega
  obtain⟨b1,o1,rfl,-,-,hx⟩:=LsV.addr (HX.out.ext hE) (by omega);obtain⟨b2,o2,rfl,-,-,hy⟩:=LsV.addr (HY.out.ext hE) (by omega);obtain⟨n1,A3,k3,c3,A4,k4,c4,p0,p1,p2,p3,hb1,g1,g2⟩:=(hx i hlt).open;obtain⟨n2,A5,k5,c5,A6,k6,c6,q0,q1,q2,q3,hb2,g3,g4⟩:=(hy i hlt).open;have hRp:qX N wr (.agg #[.bool n1,.slice A3 k3 c3,.bool false,.slice A4 k4 c4]) (x i):=qX.mk hb1 g1 g2;have hRq:qX N wr (.agg #[.bool n2,.slice A5 k5 c5,.bool false,.slice A6 k6 c6]) (y i):=qX.mk hb2 g3 g4;have HSI:=q_h (HS.out i hlt);obtain⟨xi,hxi⟩:=qc (x i);obtain⟨yi,hyi⟩:=qc (y i);rw[<-hxi.out] at hRp HSI;rw[<-hyi.out] at hRq HSI;obtain⟨wq,hwq⟩:∃wq,wq=wr:=⟨_,rfl⟩
  subst hwq;clear hx hy hb1 hb2 g1 g2 g3 g4 HG0;go_upto_region 5 with (fail);refine yB [Mn.eq (.slice (some ⟨g,0,none⟩) i c),Mn.eq (.slice (some ⟨b1,o1,none⟩) n c1),Mn.i (i:Int),Mn.q b1 (o1+i*4),Mn.rat N (xi),Mn.eq (.slice (some ⟨b2,o2,none⟩) n c2),Mn.i (i:Int),Mn.q b2 (o2+i*4),Mn.rat N (yi),Mn.rat N (xi-yi),Mn.rbk N (xi-yi),Mn.any,Mn.any] (sM [15,16,17,18,19,20,21,22,23,24,25,26,5]) [11,12] (rQ 11 2) 2 (by kernel_rfl) ?_ ?_
  ·show ∀i,i<13->_
   iterate 13 refine fs ?_ ?_
   ·exact fz
   all_goals intro hl;first|exact absurd hl (by decide)|(clear hl;refine stp rfl ?_;intro ac wi eI hB hA K hK)
   have o5:=oOf (hB 5) rfl;rotate_left;have o0:=oOf (hB 0) rfl;rotate_left;have o6:=oOf (hB 6) rfl;rotate_left;obtain⟨_,s16,rfl⟩:=hA 1 16;obtain⟨_,s17,rfl⟩:=hA 2 17;rotate_left;obtain⟨_,s18,rfl⟩:=hA 3 18;clear hB hA;have cc0:=eI.cell p0;have cc1:=eI.cell p1;have cc2:=eI.cell p2;have cc3:=eI.cell p3
   ·go_simp;exact q_k hK (hRp.ext eI)
   have o1:=oOf (hB 1) rfl;rotate_left;have o6:=oOf (hB 6) rfl;rotate_left;obtain⟨_,s20,rfl⟩:=hA 5 20;obtain⟨_,s21,rfl⟩:=hA 6 21;rotate_left;obtain⟨_,s22,rfl⟩:=hA 7 22;clear hB hA;have cc0:=eI.cell q0;have cc1:=eI.cell q1;have cc2:=eI.cell q2;have cc3:=eI.cell q3
   ·go_simp;exact q_k hK (hRq.ext eI)
   obtain⟨x19,s19,j19⟩:=hA 4 19;replace j19:Mn.p (Mn.rat N (xi)) x19 wi:=j19;obtain⟨x23,s23,j23⟩:=hA 8 23;replace j23:Mn.p (Mn.rat N (yi)) x23 wi:=j23;clear hB hA
   ·go_simp;refine (q7C j19 j23 HSI.out.1 HSI.out.2).mono ?_;rintro e wj ⟨vj,rfl,hj,ej⟩;go_wp2_with fail;exact hK.out _ _ ej hj
   obtain⟨x24,s24,j24⟩:=hA 9 24;replace j24:Mn.p (Mn.rat N (xi-yi)) x24 wi:=j24;clear hB hA
   ·obtain⟨bj,Aj,kj,cj,Aj',kj',cj',rfl,hbj,gj1,gj2⟩:=qX.parts j24;go_simp;refine qo ?_;intro wj ej hszj BJ;exact hK.out _ _ ej ⟨_,rfl,je.mk BJ hbj (gj1.ext ej) (gj2.ext ej)⟩
   all_goals clear hB hA;go_simp;exact q_k hK rfl
  intro vals wz eZ hJ;have J15:vals 0=_:=hJ 0 (by decide) (by decide);have J25:Mn.p (Mn.rbk N (xi-yi)) (vals 10) wz:=hJ 10 (by decide) (by decide);clear hJ;simp only[pr,Nat.reduceAdd,J15];clear J15
  generalize vals 10=z25 at J25 ⊢
  obtain⟨gb,rfl,bj,Aj,kj,cj,Aj',kj',cj',BX,hbj,gj1,gj2⟩:=J25;have hGz:=HG.ext eZ;refine qj (i:=11) rfl (by kernel_rfl) (by kernel_rfl) (fun K hK=>?_);refine zZ rfl _ _ 37 Tryz.underlying37 rfl (by rfl) hGz (by rfl) BX hbj gj1 gj2 (by omega) ?_;rintro gq cq w17 g' hG8 hb9 c17 u1' u2';refine hK.out _ _ ?_;clear hK K;try simp only[nr]
  refine qj (i:=12) rfl (by kernel_rfl) (by kernel_rfl) (fun K hK=>?_);go_simp;refine hK.out _ _ ?_;clear hK K;try simp only[nr]
  refine qg (by kernel_rfl) ?_ _;have hE8:=c17.ext (hE.trans eZ) hb9
  have HG8:=q_h (hG8.congr (y:=fun i=>x i-y i) (fun j _=>by
   unfold upd
   by_cases h9:j=i
   ·rw[if_pos h9,h9,hxi.out,hyi.out]
   ·rw[if_neg h9]))
  clear hG8 c17 hGz BX hbj gj1 gj2 eZ p0 p1 p2 p3 q0 q1 q2 q3 hRp hRq u1' u2' HG;go_wp2;go_roundw
  case rel=>exact⟨i+1,gq,cq,by omega,by go_num,rfl,HG8.out,hE8⟩
  case measure=>simp[intOf];omega
theorem JG {lo' hi':Nat}{u:Value}{M:q_m}{x:q_v}(h:MtV N lo hi w v m n M) (h':LsV N lo' hi' w u n x){k':Nat}(hk:HtM m n k M) (hk':HtL n k' x) (hK:n*(k+k'+1)+1<=29000000000) (hm:m<1000000) :
  Calls Tryz.prog 40 #[v,u] w (q6w N w m (av n M x)):=by
 have hN:N<=w.heap.size:=LsV.le h';obtain⟨R,hR⟩:=qc (q6w N w m (av n M x));rw[<-hR.out];have HX:=q_h h;have HY:=q_h h';have HK:=q_h hk;have HK':=q_h hk';have HKK:=q_h hK;obtain⟨A1,c1,rfl,k1,-⟩:=h.form;obtain⟨A2,c2,rfl,k2,-⟩:=h'.form;clear h h' hk hk' hK;go_enter Tryz.func40,Tryz.ntmps40;go_wp2_with (at_make;refine q_o ?_);refine xy (N:=N) (base:=w.heap.size) rfl _ _ rfl .i64 .i64 _ m rfl rfl rfl hm hN (q_r) ?_;intro w1 hG e1;have HG0:=q_h (hG (av n M x));clear hG;go_wp2_with fail
 go_loopw [15,5] (fun iv ov wr=>∃(i:Nat) (g c:Nat),i<=m/\iv=.int .i64 (i:Int)/\ov=.slice (some ⟨g,0,none⟩) i c/\Grow N w.heap.size wr ov i (av n M x)/\Ext w wr) (fun iv _ _=>m-(intOf iv).toNat)
 case atStart=>exact⟨0,_,_,Nat.zero_le _,rfl,rfl,HG0.out,e1⟩
 case round =>
  obtain⟨i,g,c,hi,rfl,rfl,HG,hE⟩:=hrel
  by_cases hlt:i<m
  case neg =>
   have t1:decide ((i:Int)<(m:Int))=false:=q_f (by omega);obtain rfl:m=i:=by omega
   go_wp2
   first|go_ret|skip
   rw[hR.out];exact⟨_,_,rfl,HG.lsv (q_r) rfl,hE⟩
  have t1:decide ((i:Int)<(m:Int))=true:=q_t (by omega);have t2:(i:Int)<(m:Int):=by omega
  obtain⟨b1,o1,rfl,-,-,hx⟩:=MtV.addr (HX.out.ext hE) (by omega);obtain⟨A3,c3,p0,-,-,hrow⟩:=hx i hlt;have HROW:=q_h hrow;have HYR:=q_h (HY.out.ext hE);have HGH:=q_h HG;obtain⟨wq,hwq⟩:∃wq,wq=wr:=⟨_,rfl⟩
  subst hwq;clear hx hrow HG0 HG;go_wp2_with (go_at_call 85;refine q_o ?_);refine (f_dot HROW.out HYR.out (fun j hj=>HK.out i hlt j hj) HK'.out HKK.out).mono ?_;intro e w5 hh;obtain⟨b,A,n9,c9,A',n',c',rfl,hb,g1,g2,e5⟩:=hh.form;go_upto_region 6 with (fail);refine qo ?_;intro w6 e6 hsz6 B6;obtain⟨s0,s1,s2,s3,-⟩:=cells4 B6;clear p0;go_wp2_with (at_builtin;refine q_o ?_);refine qo ?_;intro w7 e7 hsz7 B7;have E7:=(e5.trans e6).trans e7;refine zx rfl _ _ 37 Tryz.underlying37 rfl (by rfl) (HGH.out.ext E7) (by rfl) B7 hb (g1.ext (e6.trans e7)) (g2.ext (e6.trans e7)) (by omega) ?_;rintro gq cq w8 hG8 ⟨g',hg',C8,-⟩ hlt8;have hE8:=C8.ext (hE.trans E7) hg'
  have HG8:=q_h (hG8.congr (y:=av n M x) (fun j _=>by
   unfold upd
   by_cases h9:j=i
   ·rw[if_pos h9,h9];rfl
   ·rw[if_neg h9]))
  clear hG8 C8 E7 B7 B6 s0 s1 s2 s3 e5 e6 e7 g1 g2 hh;go_wp2;go_roundw
  case rel=>exact⟨i+1,gq,cq,by omega,by go_num,rfl,HG8.out,hE8⟩
  case measure=>simp[intOf];omega
theorem q28{b c:Bool}(h:b=c) (e:Ext w w'):zH w (.bool c) (.returned (.bool b)) w':=by rw[h];exact⟨rfl,e⟩
theorem q1M{z:Nat->Int}(h:IzV N lo hi w v n z) (k:Int) :
  Calls Tryz.prog 113 #[v,.int .i64 k] w (q0B w (kT n (fun t=>decide (z t=k)))):=by
 obtain⟨r,hr⟩:=qc (kT n (fun t=>decide (z t=k)));rw[<-hr.out];obtain⟨A,c,rfl,hnc,hcm⟩:=h.form;unfold maxLen at hcm;have HI:=q_h h;clear h;go_enter Tryz.func113,Tryz.ntmps113;go_wp2
 go_loopw [8] (fun i wr=>∃j:Nat,j<=n/\i=.int .i64 j/\Hid (∀t,t<j->¬z t=k)/\Ext w wr) (fun i _=>n-(intOf i).toNat)
 case atStart=>exact⟨0,Nat.zero_le _,rfl,fun j hj=>absurd hj (by omega),Ext.refl w⟩
 case round =>
  obtain⟨j,hj,rfl,HA,hE⟩:=hrel
  by_cases hlt:j<n
  ·have t1:decide ((j:Int)<(n:Int))=true:=q_t (by omega);have t2:(j:Int)<(n:Int):=by omega
   obtain⟨b,off,rfl,hx⟩:=(HI.out.ext hE).addr (by omega);have p0:=hx j hlt;obtain⟨u,hu⟩:=qc (z j);rw[<-hu.out] at p0;clear hx
   by_cases hku:u=k
   ·have t3:(k == u)=true:=by rw[hku];simp
    have HT:Hid (r=true):=by rw[Hid,hr.out];exact yw hlt (q_t (by rw[<-hu.out,hku]))
    clear hku;go_wp2;go_ret;exact⟨_,rfl,by rw[Hid,HT.out];symm;simp,hE⟩
   ·have t3:(k == u)=false:=beq_eq_false_iff_ne.2 (fun e=>hku e.symm)
    have HN:Hid (∀t,t<j+1->¬z t=k):=fun t ht=>by
     by_cases htj:t=j
     ·rw[htj,<-hu.out];exact hku
     ·exact HA.out t (by omega)
    clear hku;go_wp2;go_roundw
    case rel=>exact⟨j+1,by omega,by go_num,HN,hE⟩
    case measure=>simp[intOf];omega
  ·have t1:decide ((j:Int)<(n:Int))=false:=q_f (by omega);have HT:Hid (r=false):=by rw[Hid,hr.out];exact qZ.2 (fun t ht=>q_f (HA.out t (by omega)))
   go_wp2;go_ret;exact⟨_,rfl,by rw[Hid,HT.out];rfl,hE⟩
theorem kP{z:Nat->Int}(h:IzV N lo hi w v n z) (k:Int) :
  Calls Tryz.prog 64 #[v,.int .i64 k] w (zH w (.bool (kT n (fun t=>decide (z t=k))))):=by
 obtain⟨r,hr⟩:=qc (kT n (fun t=>decide (z t=k)));rw[<-hr.out];obtain⟨A,c,rfl,hnc,hcm⟩:=h.form;have HI:=q_h h;clear h;go_enter Tryz.func64,Tryz.ntmps64;go_wp2_with (go_at_call 113;refine q_o ?_);refine (q1M HI.out k).mono ?_;rintro e w1 ⟨q,rfl,hq,e1⟩;rw[<-hr.out] at hq;go_wp2;go_ret;exact q28 hq.out.symm e1
def IxV (N lo hi:Nat) (w:World) (v:Value) (n k:Nat) (e:Nat->Nat):Prop:=IzV N lo hi w v n (fun i=>(e i:Int))/\∀i,i<n->e i<k
theorem IxV.ext{e:Nat->Nat}(h:IxV N lo hi w v n k e) (x:Ext w w'):IxV N lo hi w' v n k e:=⟨h.1.ext x,h.2⟩
theorem YX {lo' hi':Nat}{u:Value}{x:q_v}{e:Nat->Nat}(h:LsV N lo hi w v k x) (h':IxV N lo' hi' w u n k e) (hn:n<1000000) :
  Calls Tryz.prog 48 #[v,u] w (q6w N w n (fun i=>x (e i))):=by
 have hN:N<=w.heap.size:=LsV.le h;obtain⟨R,hR⟩:=qc (q6w N w n (fun i=>x (e i)));rw[<-hR.out];have HX:=q_h h;have HY:=q_h h'.1;have HL:=q_h h'.2;obtain⟨A1,c1,rfl,k1,-⟩:=h.form;obtain⟨A2,c2,rfl,k2,k3⟩:=h'.1.form;unfold maxLen at k3;clear h h';go_enter Tryz.func48,Tryz.ntmps48;go_wp2_with (at_make;refine q_o ?_);refine xy (N:=N) (base:=w.heap.size) rfl _ _ rfl .i64 .i64 _ n rfl rfl rfl hn hN (q_r) ?_;intro w1 hG e1;have HG0:=q_h (hG (fun i=>x (e i)));clear hG;go_wp2_with fail
 go_loopw [13,5] (fun iv ov wr=>∃(i:Nat) (g c:Nat),i<=n/\iv=.int .i64 (i:Int)/\ov=.slice (some ⟨g,0,none⟩) i c/\Grow N w.heap.size wr ov i (fun i=>x (e i))/\Ext w wr) (fun iv _ _=>n-(intOf iv).toNat)
 case atStart=>exact⟨0,_,_,Nat.zero_le _,rfl,rfl,HG0.out,e1⟩
 case round =>
  obtain⟨i,g,c,hi9,rfl,rfl,HG,hE⟩:=hrel
  by_cases hlt:i<n
  case neg =>
   have t1:decide ((i:Int)<(n:Int))=false:=q_f (by omega);obtain rfl:n=i:=by omega
   go_wp2
   first|go_ret|skip
   rw[hR.out];exact⟨_,_,rfl,HG.lsv (q_r) rfl,hE⟩
  have t1:decide ((i:Int)<(n:Int))=true:=q_t (by omega);have t2:(i:Int)<(n:Int):=by omega
  obtain⟨b2,o2,rfl,hy⟩:=(HY.out.ext hE).addr (by omega);have q0:=hy i hlt;have hek:=HL.out i hlt;obtain⟨b1,o1,rfl,-,-,hx⟩:=LsV.addr (HX.out.ext hE) (by omega);obtain⟨n1,A3,k3,c3,A4,k4,c4,p0,p1,p2,p3,hb1,g1,g2⟩:=(hx (e i) hek).open;obtain⟨E,hEE⟩:=qc (e i);rw[<-hEE.out] at q0 hek p0 p1 p2 p3 hb1 g1 g2;have t3:(E:Int)<(k:Int):=by omega
  obtain⟨xi,hxi⟩:=qc (x E);rw[<-hxi.out] at hb1 g1 g2;obtain⟨wq,hwq⟩:∃wq,wq=wr:=⟨_,rfl⟩
  subst hwq;clear hx hy HG0;go_wp2_with (at_builtin;refine q_o ?_);refine qo ?_;intro w7 e7 hsz7 BX;refine zx rfl _ _ 37 Tryz.underlying37 rfl (by rfl) (HG.ext e7) (by rfl) BX hb1 (g1.ext e7) (g2.ext e7) (by omega) ?_;rintro g9 c9 w9 hG9 ⟨g',hg',C9,-⟩ hg9;have hE9:=C9.ext (hE.trans e7) hg'
  have HG9:=q_h (hG9.congr (y:=fun i=>x (e i)) (fun j _=>by
   unfold upd
   by_cases h9:j=i
   ·rw[if_pos h9,h9,hxi.out,hEE.out]
   ·rw[if_neg h9]))
  clear hG9 C9 BX e7 hb1 g1 g2 p0 p1 p2 p3 q0 HG hE;go_wp2;go_roundw
  case rel=>exact⟨i+1,g9,c9,by omega,by go_num,rfl,HG9.out,hE9⟩
  case measure=>simp[intOf];omega
def nzL (n:Nat) (x:q_v):Bool:=kT n fun i=>decide (x i≠0)
def nzM (m n:Nat) (X:q_m):Bool:=kT m fun i=>nzL n (X i)
theorem Vk{x:q_v}(h:LsV N lo hi w v n x) (hs:∀i,i<n->Sz (x i)) :
  Calls Tryz.prog 77 #[v] w (zH w (.bool (nzL n x))):=by
 obtain⟨A,c,rfl,hnc,hcm⟩:=h.form;unfold maxLen at hcm;have hI:=h;have HS:=q_h hs;obtain⟨r,hr⟩:=qc (nzL n x);rw[<-hr.out];clear hs h;go_enter Tryz.func77,Tryz.ntmps77;go_wp2
 go_loopw [3] (fun i wr=>∃k:Nat,k<=n/\i=.int .i64 k/\Hid (Ext w wr)/\Hid (∀j,j<k->decide (x j≠0)=false)) (fun i _=>n-(intOf i).toNat)
 case atStart=>exact⟨0,Nat.zero_le _,rfl,Ext.refl w,fun j hj=>absurd hj (Nat.not_lt_zero j)⟩
 case round =>
  obtain⟨k,hk,rfl,HE,HZ⟩:=hrel
  by_cases hlt:k<n
  case neg =>
   have t1:decide ((k:Int)<(n:Int))=false:=q_f (by omega);have HR:Hid (r=false):=by rw[Hid,hr.out];exact qZ.2 fun j hj=>HZ.out j (by omega)
   go_wp2
   first|go_ret|skip
   exact⟨by rw[HR.out];rfl,HE.out⟩
  have t1:decide ((k:Int)<(n:Int))=true:=q_t (by omega);have t2:(k:Int)<(n:Int):=by omega
  obtain⟨b,off,rfl,-,-,hx⟩:=(hI.ext HE.out).addr (by omega);obtain⟨n1,A1,k1,c1,A2,k2,c2,p0,p1,p2,p3,hb1,g1,g2⟩:=(hx k hlt).open;obtain⟨sg,hsg⟩:=qc (x k).num.sign
  have HSG:Hid (sg=0↔x k=0):=by
   rw[Hid,hsg.out,Int.sign_eq_zero_iff_zero];exact Rat.num_eq_zero
  clear hx;go_wp2_with (go_at_call 56;refine q_o ?_);refine (XW (qX.mk hb1 g1 g2) (HS.out k hlt)).mono ?_;rintro e w1 ⟨rfl,e1⟩;rw[<-hsg.out];have HE1:Hid (Ext w w1):=HE.out.trans e1;clear p0 p1 p2 p3 e1 g1 g2 hb1
  by_cases h0:sg=0
  ·have t3:(sg != 0)=false:=by simpa using h0
   have HZ1:Hid (∀j,j<k+1->decide (x j≠0)=false):=fun j hj=>by
    by_cases hjk:j=k
    ·rw[hjk];exact decide_eq_false fun h9=>h9 (HSG.out.1 h0)
    ·exact HZ.out j (by omega)
   clear h0;go_wp2;go_roundw
   case rel=>exact⟨k+1,by omega,by go_num,HE1,HZ1⟩
   case measure=>simp[intOf];omega
  ·have t3:(sg != 0)=true:=by simpa using h0
   have HR:Hid (r=true):=by
    rw[Hid,hr.out];unfold nzL kT;rw[List.any_eq_true];exact⟨k,List.mem_range.2 hlt,decide_eq_true fun h9=>h0 (HSG.out.2 h9)⟩
   clear h0;go_wp2
   first|go_ret|skip
   exact⟨by rw[HR.out];rfl,HE1.out⟩
theorem q0O{X:q_m}(h:MtV N lo hi w v m n X) (hs:∀i,i<m->∀j,j<n->Sz (X i j)) :
  Calls Tryz.prog 33 #[v] w (zH w (.bool (nzM m n X))):=by
 obtain⟨A,c,rfl,hnc,hcm⟩:=h.form;unfold maxLen at hcm;have hI:=h;have HS:=q_h hs;obtain⟨r,hr⟩:=qc (nzM m n X);rw[<-hr.out];clear hs h;go_enter Tryz.func33,Tryz.ntmps33;go_wp2
 go_loopw [3] (fun i wr=>∃k:Nat,k<=m/\i=.int .i64 k/\Hid (Ext w wr)/\Hid (∀j,j<k->nzL n (X j)=false)) (fun i _=>m-(intOf i).toNat)
 case atStart=>exact⟨0,Nat.zero_le _,rfl,Ext.refl w,fun j hj=>absurd hj (Nat.not_lt_zero j)⟩
 case round =>
  obtain⟨k,hk,rfl,HE,HZ⟩:=hrel
  by_cases hlt:k<m
  case neg =>
   have t1:decide ((k:Int)<(m:Int))=false:=q_f (by omega);have HR:Hid (r=false):=by rw[Hid,hr.out];exact qZ.2 fun j hj=>HZ.out j (by omega)
   go_wp2
   first|go_ret|skip
   exact⟨by rw[HR.out];rfl,HE.out⟩
  have t1:decide ((k:Int)<(m:Int))=true:=q_t (by omega);have t2:(k:Int)<(m:Int):=by omega
  obtain⟨b,off,rfl,-,-,hx⟩:=(hI.ext HE.out).addr (by omega);obtain⟨A2,c2,q0,hc2,hd2,hl⟩:=hx k hlt;have HL:=q_h hl;obtain⟨rr,hrr⟩:=qc (nzL n (X k));clear hx hl;go_wp2_with (go_at_call 77;refine q_o ?_);refine (Vk HL.out (HS.out k hlt)).mono ?_;rintro e w1 ⟨rfl,e1⟩;rw[<-hrr.out];have HE1:Hid (Ext w w1):=HE.out.trans e1;clear q0 e1 HL;cases rr with
  | false =>
   have HZ1:Hid (∀j,j<k+1->nzL n (X j)=false):=fun j hj=>by
    by_cases hjk:j=k
    ·rw[hjk];exact hrr.out.symm
    ·exact HZ.out j (by omega)
   go_wp2;go_roundw
   case rel=>exact⟨k+1,by omega,by go_num,HE1,HZ1⟩
   case measure=>simp[intOf];omega
  | true =>
   have HR:Hid (r=true):=by
    rw[Hid,hr.out];unfold nzM kT;rw[List.any_eq_true];exact⟨k,List.mem_range.2 hlt,hrr.out.symm⟩
   go_wp2
   first|go_ret|skip
   exact⟨by rw[HR.out];rfl,HE1.out⟩
theorem q70 {la ha lb hb:Nat}{u u':Value}{M nr nc:Nat}{X:q_m}(h:MtV N lo hi w v M n X){ro co:Nat->Nat}(hu:IzV N la ha w u nr (fun i=>(ro i:Int))) (hu':IzV N lb hb w u' nc (fun i=>(co i:Int))) (hro:∀i,i<nr->ro i<M) (hco:∀j,j<nc->co j<n) (hM:0<M) (hr0:nr<1000) (hc0:0<nc) (hc1:nc<1000) :
  Calls Tryz.prog 32 #[v,u,u'] w (zY N w nr nc (fun i j=>X (ro i) (co j))):=by
 have hN:=h.le;obtain⟨A,cA,rfl,hmc,hcm⟩:=h.form;obtain⟨A4,c4,rfl,hnc4,hcn4⟩:=hu.form;obtain⟨A5,c5,rfl,hnc5,hcn5⟩:=hu'.form;unfold maxLen at hcm hcn4 hcn5;have hI:=h;have HU:=q_h hu;have HV:=q_h hu';have HRO:=q_h hro;have HCO:=q_h hco;obtain⟨Z,hZ⟩:=qc (fun i j=>X (ro i) (co j));rw[<-hZ.out];obtain⟨b,off,rfl,-,-,-⟩:=h.addr (by omega);clear h hu hu' hro hco;go_enter Tryz.func32,Tryz.ntmps32
 go_upto_block 0 with (fail)
 refine qo ?_;intro W hE hsz B0;have hG0:zX N w.heap.size W.heap.size W (.slice (some ⟨w.heap.size,0,none⟩) 0 0) 0 nc Z:=zX.empty hN (q_r) (by omega) (q_r) B0 _;clear B0;go_wp2
 go_loopw [7,8] (fun v i wr=>∃k:Nat,k<=nr/\i=.int .i64 k/\Ext w wr/\∃h c,v=.slice (some ⟨h,0,none⟩) k c/\zX N w.heap.size wr.heap.size wr (.slice (some ⟨h,0,none⟩) k c) k nc Z) (fun _ i _=>nr-(intOf i).toNat)
 case atStart=>exact⟨0,Nat.zero_le _,rfl,hE,_,_,rfl,hG0⟩
 case round =>
  clear hG0 hE hsz;obtain⟨k,hk,rfl,hE,h,cv,rfl,hG⟩:=hrel;have hsz:=hE.size
  by_cases hlt:k<nr
  case neg =>
   obtain rfl:k=nr:=by omega
   obtain⟨β,κ,hc9,ho⟩:=hG.own';go_wp2;go_ret;exact⟨h,cv,β,κ,rfl,hc9,ho,hE⟩
  go_upto_block 2 with (fail)
  refine qo ?_;intro W1 e1 hsz1 B1;have hR:Grow N wr.heap.size W1 (.slice (some ⟨wr.heap.size,0,none⟩) 0 0) 0 (Z k):=Grow.empty (by omega) (q_r) B1 _;replace hG:=hG.ext e1;replace hE:=hE.trans e1;obtain⟨s0,hs0⟩:=qc wr.heap.size;rw[<-hs0.out] at hG hR hsz hsz1;clear B1 e1;go_wp2
  go_loopw [9,10] (fun v i ws=>∃j:Nat,j<=nc/\i=.int .i64 j/\Ext w ws/\s0<=ws.heap.size/\zX N w.heap.size s0 ws (.slice (some ⟨h,0,none⟩) k cv) k nc Z/\∃A' c',v=.slice A' j c'/\Grow N s0 ws (.slice A' j c') j (Z k)) (fun _ i _=>nc-(intOf i).toNat)
  case atStart=>exact⟨0,Nat.zero_le _,rfl,hE,by omega,hG,_,_,by rw[<-hs0.out],hR⟩
  case round =>
   clear hG hE hR hsz1;obtain⟨j,hj,rfl,hE,hsz1,hG,A',c',rfl,hR⟩:=hrel
   by_cases hlt':j<nc
   case pos =>
    have HZL:Hid (Z k j=X (ro k) (co j)):=by rw[Hid,hZ.out]
    obtain⟨b4,o4,rfl,hx4⟩:=(HU.out.ext hE).addr (by omega);have q4:=hx4 k hlt;obtain⟨b5,o5,rfl,hx5⟩:=(HV.out.ext hE).addr (by omega);have q5:=hx5 j hlt';obtain⟨r,hr⟩:=qc (ro k);obtain⟨s,hs⟩:=qc (co j);rw[<-hr.out,<-hs.out] at HZL;rw[<-hr.out] at q4;rw[<-hs.out] at q5;have hrM:r<M:=by rw[hr.out];exact HRO.out k hlt
    have hsn:s<n:=by rw[hs.out];exact HCO.out j hlt'
    obtain⟨b',off',hA,-,-,hx⟩:=(hI.ext hE).addr (by omega);obtain⟨rfl,rfl⟩:b=b'/\off=off':=by injection hA with hA;injection hA with e1 e2;exact⟨e1,e2⟩
    obtain⟨A2,c2,q0,hc2,hd2,hl3⟩:=hx r hrM;unfold maxLen at hd2;obtain⟨b2,off2,rfl,-,-,hx2⟩:=hl3.addr (by omega);obtain⟨n1,A3,k3,c3,A6,k6,c6,p0,p1,p2,p3,hb1,g1,g2⟩:=(hx2 s hsn).open;obtain⟨wq,hwq⟩:∃wq,wq=wr:=⟨_,rfl⟩
    subst hwq;clear hx hA hl3 hx2 hx4 hx5;go_upto_region 9 with (fail);have eC:=(Ext.refl wq).drew;refine qw (fun w'=>w'.cell? ⟨b4,o4+k,none⟩=some (.int .i64 (r:Int))/\w'.cell? ⟨b5,o5+j,none⟩=some (.int .i64 (s:Int))/\w'.cell? ⟨b,off+r,none⟩=some (.slice (some ⟨b2,off2,none⟩) n c2)/\w'.cell? ⟨b2,off2+s*4,none⟩=some (.bool n1)/\w'.cell? ⟨b2,off2+s*4+1,none⟩=some (.slice A3 k3 c3)/\w'.cell? ⟨b2,off2+s*4+2,none⟩=some (.bool false)/\w'.cell? ⟨b2,off2+s*4+3,none⟩=some (.slice A6 k6 c6)) [15,16] (by kernel_rfl) (by exact⟨eC.cell q4,eC.cell q5,eC.cell q0,eC.cell p0,eC.cell p1,eC.cell p2,eC.cell p3⟩) (fun hHeld=>?_);refine sP 0 (h:=?_);refine sP 1 (h:=?_);refine sP 2 (h:=?_);refine sP 3 (h:=?_);refine sP 4 (h:=?_);refine sT 5 (h:=?_);refine sP 6 (h:=?_);refine sT 7 (h:=?_);refine sP 8 (h:=?_);refine sP 9 (h:=?_);refine sP 10 (h:=?_);refine sT 11 (h:=?_);refine sP 12 (h:=?_);refine sT 13 (h:=?_);refine qp (i:=14) rfl (by kernel_rfl) (fun K hK=>?_);go_simp
    first|refine qo ?_|refine yu ?_
    intro w2 e2 hsz2 BX;replace eC:Ext wq w2:=by first|exact eC.trans e2|exact e2
    clear hHeld;refine hK.out _ _ (by exact⟨eC.cell q4,eC.cell q5,eC.cell q0,eC.cell p0,eC.cell p1,eC.cell p2,eC.cell p3⟩) fun hHeld=>?_
    clear hK K;try simp only[nr]
    refine qj (i:=15) rfl (by kernel_rfl) (by kernel_rfl) (fun K hK=>?_);refine Zn rfl _ _ 37 Tryz.underlying37 rfl (by rfl) (hR.ext eC) (by rfl) BX hb1 (g1.ext eC) (g2.ext eC) (by omega) ?_;rintro g cap w3 hR3 ⟨g',hg',c3',-⟩ hlt3;refine hK.out _ _ ?_;clear hK K;try simp only[nr]
    refine qj (i:=16) rfl (by kernel_rfl) (by kernel_rfl) (fun K hK=>?_);go_simp;refine hK.out _ _ ?_;clear hK K;try simp only[nr]
    refine qg (by kernel_rfl) ?_ _;clear hHeld;replace hE:=c3'.ext (hE.trans eC) (by omega);replace hG:=(hG.ext eC).chg c3' (by omega) (.inl hg')
    have hR4:=hR3.congr (y:=Z k) (fun i hi=>by
     unfold upd
     split
     ·rename_i e9;subst e9;exact HZL.out.symm
     ·rfl)
    replace hsz1:=q_l hsz1 (q_l eC.size c3'.size);clear hR hR3 c3' g1 g2 BX hlt3 p0 p1 p2 p3 q0 q4 q5;go_wp2;go_roundw
    case rel=>exact⟨j+1,by omega,by go_num,hE,hsz1,hG,_,_,rfl,hR4⟩
    case measure=>simp[intOf];omega
   obtain rfl:j=nc:=by omega
   obtain⟨g,cap,hv,hg,hgs,hcm9,hnc,hrow⟩:=hR.some hc0;injection hv with e1 e2 e3
   subst e1 e3;go_wp2_with (at_builtin;refine q_o ?_);refine qo ?_;intro w2 e2 hsz2 BX;replace hE:=hE.trans e2;replace hG:=hG.ext e2;refine zS rfl _ _ 29 Tryz.underlying29 rfl rfl hG rfl (hrow.ext e2) hg hcm9 BX (by omega) ?_;rintro h' cap' w3 hG3 ⟨g',hg',c3,-⟩;replace hE:=c3.ext hE (by omega)
   have hG4:=hG3.congr (B:=Z) (fun i _ j _=>by
    unfold xE
    split
    ·rename_i e9;subst e9;rfl
    ·rfl)
   clear hG hG3 hR c3 hrow BX e2;go_wp2;go_roundw
   case rel=>exact⟨k+1,by omega,by go_num,hE,_,_,rfl,hG4⟩
   case measure=>simp[intOf];omega
theorem q6S:(q.num.sign != 0)=!decide (q=0):=by
 by_cases h:q=0
 ·subst h;rfl
 ·have h1:q.num≠0:=fun h2=>h (Rat.num_eq_zero.1 h2)
  have h2:q.num.sign≠0:=fun h3=>h1 (Int.sign_eq_zero_iff_zero.1 h3)
  simp[h,h2]
structure Cls (ET:TypeId) (k:Nat) (z0:Value) (bz:Nat):Prop where
 inf:(Tryz.prog.info? ET).map (fun i=>(i.zero,i.size,i.bytes))=some (some z0,k,bz)
 cells:z0.cells.size=k
 pos:0<k
 lk:k<=10
 le:bz<=100
 ne:ET≠119
def zV (ET:TypeId) (k base:Nat) (w:World) (v:Value) (n:Nat) (xs:List Value):Prop:=base<=w.heap.size/\w.ownsRow base ET k v n xs
section
variable {ET:TypeId}{k:Nat}{z0:Value}{bz:Nat}
theorem zV.ext{xs:List Value}(h:zV ET k base w v n xs) (e:Ext w w'):zV ET k base w' v n xs:=by
 refine⟨q_l h.1 e.size,h.2.1,?_⟩
 rcases h.2.2 with h0|⟨g,cap,cur,hv,hb,hh,h1,h2,h3,h4⟩
 ·exact .inl h0
 ·exact .inr ⟨g,cap,cur,hv,hb,e.block hh,h1,h2,h3,h4⟩
theorem QI (hc:Cls ET k z0 bz){xs:List Value}(t ty:TypeId) (ht:Tryz.prog.underlying t=some (.slice ET)) (h:zV ET k base w v n xs){a:Addr}{news:List Value}(hl:news.length=m*k)
  (hnews:∀j u,news[j]?=some u->w.cell? (a.add j)=some u) (h1:∀u∈news,u.oneCell'=true) (hn:n+m<=1000000) :
  ∃v' w',(Builtin.append_ #[t,t] ty #[v,.slice (some a) m c]).run Tryz.prog w=.ok v' w'/\zV ET k base w' v' (n+m) (xs++news)/\(v'.ownBlock=v.ownBlock\/v'.ownBlock=some w.heap.size)/\(∃g',base<=g'/\(v.ownBlock=some g'\/g'=w.heap.size)/\Chg g' (g'+1) w w'):=by
 obtain⟨i0,hi0,hz0,hz1,hz2⟩:=info_parts hc.inf;obtain⟨hb0,hown⟩:=h;have hle:=hc.le
 obtain⟨v',w',hrun,hO,hgr,-,hat⟩:=run_append_own_at (P:=Tryz.prog) w base t ty ET i0 _ k bz ht hi0 hz0 hz1 hz2 hc.cells hc.pos v n xs hown a m c news (by omega) hnews h1 (by unfold maxLen;omega)
  (q_l (Nat.mul_le_mul hn hc.le) (by decide)) hb0
 refine⟨v',w',hrun,⟨q_l hb0 hgr.size,hO⟩,hat,?_⟩;have hT:NoU w w.heap.size:=fun cs fr h=>by rw[Array.getElem?_eq_none (q_r)] at h;cases h
 rcases hown.2 with ⟨rfl,h0⟩|⟨g0,cap0,cur,rfl,hbb,hh,_⟩
 ·exact⟨w.heap.size,hb0,.inr rfl,zT hgr (fun k hk=>by simp[Value.ownBlock] at hk) hT⟩
 ·have hT0:NoU w g0:=NoU.mk hh hc.ne;exact⟨g0,hbb,.inl rfl,zT hgr (fun k hk=>by simpa[Value.ownBlock] using hk.symm) hT0⟩
theorem xI (hc:Cls ET k z0 bz){xs:List Value}{ops:Array Oper}{rest:List Oper}{o:Oper}{a:Act}{Q:Exit->Act->World->Prop}(hgd:o.guard=none) (s x:Operand) (t:TypeId) (ht:Tryz.prog.underlying t=some (.slice ET))
  (ho:o.op=.call { callee:=.builtin .append,args:=#[s,x],argTypes:=#[t,t] }) (hs:a.eval s=v) (h:zV ET k base w v n xs){ad:Addr}{news:List Value}(hx:a.eval x=.slice (some ad) m c) (hl:news.length=m*k)
  (hnews:∀j u,news[j]?=some u->w.cell? (ad.add j)=some u) (h1:∀u∈news,u.oneCell'=true) (hn:n+m<=1000000)
  (hK:∀v' w',zV ET k base w' v' (n+m) (xs++news)->(v'.ownBlock=v.ownBlock\/v'.ownBlock=some w.heap.size)->(∃g',base<=g'/\(v.ownBlock=some g'\/g'=w.heap.size)/\Chg g' (g'+1) w w')->wpList Tryz.prog ops Q rest (a.put o.dst v') w'):wpList Tryz.prog ops Q (o :: rest) a w:=by
 refine wpList_plain hgd fun _ hK'=>?_
 obtain⟨v',w',hrun,h2,h3,h4⟩:=QI hc t o.type ht h hl hnews h1 hn (c:=c);unfold Oper.wp execOp;simp only[ho,resolve,invoke,builtin,Sem.run_bind,Sem.run_pure,Result.andThen_ok,List.map_toArray,List.map_cons,List.map_nil,hs,hx,hrun];exact hK' _ _ (hK v' w' h2 h3 h4)
theorem zV.at_{xs:List Value}(h:zV ET k base w v n xs) (hn:0<n):∃g cap,v=.slice (some ⟨g,0,none⟩) n cap/\base<=g/\n<=cap/\cap<=maxLen/\∀j u,xs[j]?=some u->w.cell? ⟨g,j,none⟩=some u:=by
 have hl:=h.2.1
 rcases h.2.2 with ⟨-,h⟩|⟨g,cap,cur,hv,hb,hg,hnc,hcm,hcs,htk⟩
 ·omega
 ·refine⟨g,cap,hv,hb,hnc,hcm,fun j u hj=>?_⟩;rw[qh hg]
  have hjl:j<n*k:=by
   rw[<-hl];exact (List.getElem?_eq_some_iff.1 hj).1
  have h9:(cur.toList.take (n*k))[j]?=some u:=by rw[htk];exact hj
  rw[List.getElem?_take,if_pos hjl] at h9;simpa using h9
theorem zV.own_lt{xs:List Value}(h:zV ET k base w v n xs):∀k,v.ownBlock=some k->base<=k/\k<w.heap.size:=by
 rcases h.2.2 with ⟨rfl,h0⟩|⟨g,cap,cur,rfl,hb,hh,-⟩
 ·intro k hk;simp[Value.ownBlock] at hk
 ·intro k hk;obtain rfl:g=k:=by simpa[Value.ownBlock] using hk
  exact⟨hb,qF hh⟩
theorem zV.form{xs:List Value}(h:zV ET k base w v n xs):∃A c,v=.slice A n c:=by
 rcases h.2.2 with ⟨rfl,h0⟩|⟨g,cap,cur,rfl,_⟩
 ·exact⟨_,_,by rw[h0]⟩
 ·exact⟨_,_,rfl⟩
end
theorem Y6 {ET:TypeId}{z0:Value}{bz:Nat}(ho:One ET z0 bz) (hz:z0.cells=#[z0]) (t:TypeId) (ht:Tryz.prog.underlying t=some (.slice ET)) (w:World) (kl kc:IntKind) (n:Nat) (hn:n<1000000) :
  ∃w' cs,(Instr.makeSlice t (.int kl n) (.int kc n)).run Tryz.prog w=.ok (.slice (some ⟨w.heap.size,0,none⟩) n n) w'/\w'.heap[w.heap.size]?=some (.cells cs ET (0,0))/\cs.size=n/\(∀i,i<n->cs[i]?=some z0)/\Ext w w':=by
 obtain⟨i0,hi0,hz0,hz1,hz2⟩:=info_parts ho.inf;have hle:=ho.le;obtain⟨w',hrun,hown,hgr⟩:=run_make_full (P:=Tryz.prog) w w.heap.size t ET i0 _ 1 ht hi0 hz0 hz1 kl kc n (by rw[hz2];exact q_l (Nat.mul_le_mul hle (Nat.le_of_lt hn)) (by decide)) (by unfold maxLen;omega) (q_r);have hx:=(Ext.refl w).grown hgr (fun k hk=>by cases hk)
 rcases hown.2 with ⟨h,_⟩|⟨g,cap,cur,hv,hg,hh,hnc,hcm,hcs,htk⟩
 ·cases h
 ·have e1:w.heap.size=g:=Option.some.inj (congrArg Value.ownBlock hv);have e3:n=cap:=congrArg (fun v:Value=>match v with|.slice _ _ c=>c|_=>0) hv;subst e1 e3;refine⟨w',cur,hrun,hh,by omega,fun i hi=>?_,hx⟩;rw[hz,toList_madeCells_one] at htk;have h1:(cur.toList.take (n*1))[i]?=(List.replicate (n*1) z0)[i]?:=by rw[htk]
  rw[List.getElem?_take,if_pos (by omega),List.getElem?_replicate,if_pos (by omega)] at h1;simpa using h1
theorem zQ {ET:TypeId}{z0:Value}{bz:Nat}(ho:One ET z0 bz) (hz:z0.cells=#[z0]){ops:Array Oper}{rest:List Oper}{o:Oper}{a:Act}{Q:Exit->Act->World->Prop}(hg:o.guard=none) (l c:Operand) (t:TypeId) (ht:Tryz.prog.underlying t=some (.slice ET)) (hop:o.op=Op.makeSlice t l c)
  (kl kc:IntKind) (L C:Int) (n:Nat) (hl:a.eval l=.int kl L) (hc:a.eval c=.int kc C) (hL:L=(n:Int)) (hC:C=(n:Int)) (hn:n<1000000)
  (hK:∀w' cs,w'.heap[w.heap.size]?=some (.cells cs ET (0,0))->cs.size=n->(∀i,i<n->cs[i]?=some z0)->Ext w w'->wpList Tryz.prog ops Q rest (a.put o.dst (.slice (some ⟨w.heap.size,0,none⟩) n n)) w'):wpList Tryz.prog ops Q (o :: rest) a w:=by
 refine wpList_plain hg fun K hK'=>?_
 obtain⟨w',cs,hrun,r1,r2,r3,r4⟩:=Y6 ho hz t ht w kl kc n hn;subst hL;subst hC;unfold Oper.wp;simp[execOp,hop,hl,hc,hrun,Result.andThen]
 exact hK' _ _ (hK w' cs r1 r2 r3 r4)
def FlB (ET:TypeId) (w:World) (g m:Nat) (f:Nat->Value):Prop:=∃cs,w.heap[g]?=some (.cells cs ET (0,0))/\cs.size=m/\∀i,i<m->cs[i]?=some (f i)
theorem FlB.ext {ET:TypeId}{f:Nat->Value}(h:FlB ET w g m f) (e:Ext w w'):FlB ET w' g m f:=by
 obtain⟨cs,h1,h2,h3⟩:=h;exact⟨cs,e.block h1,h2,h3⟩
theorem FlB.chg {ET:TypeId}{f:Nat->Value}(h:FlB ET w g m f) (c:Chg lo hi w w') (hd:g<lo\/hi<=g):FlB ET w' g m f:=by
 obtain⟨cs,h1,h2,h3⟩:=h;exact⟨cs,c.blk h1 hd,h2,h3⟩
theorem FlB.cell {ET:TypeId}{f:Nat->Value}(h:FlB ET w g m f)(hi:i<m):w.cell? ⟨g,i,none⟩=some (f i)/\w.frozen? ⟨g,i,none⟩=false:=by
 obtain⟨cs,h1,h2,h3⟩:=h;exact⟨by rw[qh h1];exact h3 i hi,qY h1 i⟩
theorem FlB.lt {ET:TypeId}{f:Nat->Value}(h:FlB ET w g m f):g<w.heap.size:=by
 obtain⟨cs,h1,-⟩:=h;exact qF h1
theorem FlB.set {ET:TypeId}{f:Nat->Value}(h:FlB ET w g m f) (hne:ET≠119)(hi:i<m) (v:Value):∃w',w.setCell ⟨g,i,none⟩ v=w'/\FlB ET w' g m (fun j=>if j=i then v else f j)/\Chg g (g+1) w w'/\w'.heap.size=w.heap.size:=by
 obtain⟨cs,h1,h2,h3⟩:=h;have U:=(Upd.refl g w).set i v;refine⟨_,rfl,⟨_,heap_set h1 i v,by simpa using h2,fun j hj=>?_⟩,U.chg (NoU.mk h1 hne),U.size⟩;rw[Array.getElem?_setIfInBounds]
 by_cases hij:i=j
 ·subst hij;rw[if_pos rfl,if_pos (by omega)]
  show _=some (if i=i then v else f i)
  rw[if_pos rfl]
 ·rw[if_neg hij]
  show _=some (if j=i then v else f j)
  rw[if_neg (fun e:j=i=>hij e.symm)];exact h3 j hj
theorem q7j:4≠119:=by decide
def yN (o:Nat->Int) (n m:Nat):Bool:=decide (n=m)&&allB n (fun i=>(decide (0<=o i)&&decide (o i<(m:Int)))&&allB i (fun j=>!decide (o j=o i)))
theorem q4P {o:Nat->Int}(hi:i<n) (h:¬(0<=o i/\o i<(m:Int))\/∃j,j<i/\o j=o i):yN o n m=false:=by
 unfold yN;rw[qL hi,Bool.and_false]
 rcases h with h|⟨j,h1,h2⟩
 ·by_cases h0:0<=o i
  ·rw[q_f (show ¬o i<(m:Int) by omega),Bool.and_false,Bool.false_and]
  ·rw[q_f h0,Bool.false_and,Bool.false_and]
 ·rw[qL h1 (by rw[q_t h2];rfl),Bool.and_false]
def Kz (o:Nat->Int) (i j:Nat):Bool:=kT i (fun k=>decide (o k=(j:Int)))
theorem Qb{o:Nat->Int}(h:IzV N lo hi w v n o) (hm:m<1000000) :
  Calls Tryz.prog 35 #[v,.int .i64 (m:Int)] w (zH w (.bool (yN o n m))):=by
 have HI:=q_h h;obtain⟨A,c,rfl,hnc,hcm⟩:=h.form;unfold maxLen at hcm;obtain⟨r,hr⟩:=qc (yN o n m);rw[<-hr.out];clear h;go_enter Tryz.func35,Tryz.ntmps35;go_wp2_with (at_make;refine q_o ?_);refine zQ q4T rfl rfl _ _ 122 Tryz.underlying122 rfl .i64 .i64 _ _ m rfl rfl rfl rfl hm ?_;intro w1 cs B1 hcs hz e1;have HF:Hid (FlB 4 w1 w.heap.size m (fun j=>.bool (Kz o 0 j))):=⟨cs,B1,hcs,hz⟩
 clear B1 hcs hz;go_wp2_with fail
 go_loopw [12] (fun iv wr=>∃i:Nat,i<=n/\iv=.int .i64 (i:Int)/\Hid (FlB 4 wr w.heap.size m (fun j=>.bool (Kz o i j)))/\Ext w wr/\Hid (∀j,j<i->(0<=o j/\o j<(m:Int))/\∀k,k<j->o k≠o j)) (fun iv _=>n-(intOf iv).toNat)
 case atStart=>exact⟨0,Nat.zero_le _,rfl,HF,e1,fun j hj=>absurd hj (Nat.not_lt_zero j)⟩
 case round =>
  clear HF e1;obtain⟨i,hi,rfl,HF,hE,HO⟩:=hrel
  by_cases hlt:i<n
  case neg =>
   have t1:decide ((i:Int)<(n:Int))=false:=q_f (by omega)
   have HR:Hid (r=decide (n=m)):=by
    rw[Hid,hr.out];unfold yN;rw[qm.2,Bool.and_true];intro j hj;obtain⟨⟨h1,h2⟩,h3⟩:=HO.out j (by omega);rw[q_t h1,q_t h2,qm.2]
    ·rfl
    ·intro k hk;rw[q_f (h3 k hk)]
     rfl
   by_cases hnm:n=m
   ·obtain rfl:r=true:=by rw[HR.out,q_t hnm]
    have t2:((n:Int) == (m:Int))=true:=by simp[hnm]
    clear hnm;go_wp2;go_ret;exact⟨rfl,hE⟩
   ·obtain rfl:r=false:=by rw[HR.out,q_f hnm]
    have t2:((n:Int) == (m:Int))=false:=by simp;omega
    clear hnm;go_wp2;go_ret;exact⟨rfl,hE⟩
  have t1:decide ((i:Int)<(n:Int))=true:=q_t (by omega);have t2:(i:Int)<(n:Int):=by omega
  obtain⟨b,off,rfl,hx⟩:=(HI.out.ext hE).addr (by omega);have p0:=hx i hlt;obtain⟨u,hu⟩:=qc (o i);rw[<-hu.out] at p0
  have HB:Hid (¬(0<=u/\u<(m:Int))\/(∃j,j<i/\o j=u)->r=false):=fun h9=>by
   rw[hr.out];exact q4P hlt (by rw[<-hu.out];exact h9)
  clear hx
  by_cases k0:u<0
  ·have t3:decide (u<0)=true:=decide_eq_true k0;obtain rfl:r=false:=HB.out (.inl (by omega));clear k0;go_wp2;go_ret;exact⟨rfl,hE⟩
  have t3:decide (u<0)=false:=decide_eq_false k0
  by_cases k1:(m:Int)<=u
  ·have t4:decide ((m:Int)<=u)=true:=decide_eq_true k1;obtain rfl:r=false:=HB.out (.inl (by omega));clear k0 k1;go_wp2;go_ret;exact⟨rfl,hE⟩
  have t4:decide ((m:Int)<=u)=false:=decide_eq_false k1;obtain⟨j,rfl⟩:∃j:Nat,u=(j:Int):=⟨u.toNat,by omega⟩
  have hj:j<m:=by omega
  have hj':(j:Int)<(m:Int):=by omega
  obtain⟨q0,q1⟩:=HF.out.cell hj;obtain⟨s,hs⟩:=qc (Kz o i j);rw[<-hs.out] at q0;cases s with
  | true =>
   obtain rfl:r=false:=HB.out (.inr (by
    have h9:=hs.out.symm;unfold Kz kT at h9;simp only[List.any_eq_true,List.mem_range,decide_eq_true_eq] at h9
    exact h9))
   clear k0 k1;go_wp2;go_ret;exact⟨rfl,hE⟩
  | false =>
   have HO2:Hid (∀k,k<i+1->(0<=o k/\o k<(m:Int))/\∀l,l<k->o l≠o k):=fun k hk=>by
    by_cases hki:k=i
    ·subst hki;refine⟨by rw[<-hu.out];omega,fun l hl h9=>?_⟩;have h8:=qZ.1 hs.out.symm l hl;rw[decide_eq_false_iff_not] at h8;exact h8 (by rw[h9,<-hu.out])
    ·exact HO.out k (by omega)
   clear k0 k1;go_upto_region 8 with (fail);obtain⟨w5,E5,F5,C5,hs5⟩:=HF.out.set q7j hj (.bool true);rw[E5]
   have HF5:Hid (FlB 4 w5 w.heap.size m (fun k=>.bool (Kz o (i+1) k))):=by
    obtain⟨cs5,h1,h2,h3⟩:=F5;refine⟨cs5,h1,h2,fun k hk=>?_⟩;rw[h3 k hk]
    have h7:Kz o (i+1) k=(Kz o i k||decide (o i=(k:Int))):=by
     unfold Kz kT;rw[List.range_succ,List.any_append]
     simp
    show some (if k=j then Value.bool true else Value.bool (Kz o i k))=some (Value.bool (Kz o (i+1) k))
    by_cases hkj:k=j
    ·rw[if_pos hkj,h7,<-hu.out,hkj,decide_eq_true rfl,Bool.or_true]
    ·rw[if_neg hkj,h7,<-hu.out,q_f (by omega),Bool.or_false]
   have hE5:=C5.ext hE (q_r);clear E5 F5 C5 q0 q1 HF p0;go_wp2;go_roundw
   case rel=>exact⟨i+1,by omega,by go_num,HF5,hE5,HO2⟩
   case measure=>simp[intOf];omega
section
variable {P:Program}{ops:Array Oper}{Q:Exit->Act->World->Prop}{late:List Nat}
def q7p (ops:Array Oper) (late soft:List Nat):Bool:=(List.range ops.size).all fun i=>late.contains i||soft.contains i||vK ops late i
def apartB (ops:Array Oper) (i:Nat):Bool :=
 match ops[i]? with
 | some oi=>(List.range ops.size).all fun j=>j == i||(jw ops j).contains i||(sweep ops i (jw ops i)).contains j||(match ops[j]? with|some oj=>oi.apart ops oj|none=>true)
 | none=>false
def q6Q (ops:Array Oper) (late soft:List Nat):Bool:=soft.all fun i=>decide (i<ops.size) && !late.contains i&&apartB ops i&&(jw ops i).all fun j=>vK ops late j
def Sft (P:Program) (ops:Array Oper) (Q:Exit->Act->World->Prop) (Js:List Mn) (ds:List (Option Tmp)) (a0:Act) (W:World) (i:Nat):Prop :=
 ∀o,ops.toList[i]?=some o->(∀c a v w,Q (.panic c) (Act.put a o.dst v) w->Q (.panic c) a w)/\∀a w,Ext W w->(∀t,ds.contains (some t)=false->a.tmps[t]?=a0.tmps[t]?) ->
  (∀j,(jw ops i).contains j=true->∀t,ds[j]?=some (some t)->∃v,a.tmps[t]?=some v/\(Js[j]?.getD Mn.any).p v w) ->
  ∃v,YieldsIf P ops (fun _=>True) o v a/\(Js[i]?.getD Mn.any).p v w
theorem sft {Js:List Mn}{ds:List (Option Tmp)}{a0:Act}{W:World}{o:Oper}(hi:ops.toList[i]?=some o) (hQ:∀c a v w,Q (.panic c) (Act.put a o.dst v) w->Q (.panic c) a w)
  (h:∀a w,Ext W w->(∀(t:Nat) (_:ds.contains (some t)=false:=by kernel_rfl),a.tmps[t]?=a0.tmps[t]?) ->
   (∀(j t:Nat) (_:(jw ops i).contains j=true:=by kernel_rfl) (_:ds[j]?=some (some t):=by rfl),∃v,a.tmps[t]?=some v/\(Js[j]?.getD Mn.any).p v w) ->
   ∃v,YieldsIf P ops (fun _=>True) o v a/\(Js[i]?.getD Mn.any).p v w):Sft P ops Q Js ds a0 W i:=by
 intro o' ho';rw[hi] at ho';cases ho'
 exact⟨hQ,fun a w e hB hA=>h a w e hB (fun j t h1 h2=>hA j h1 t h2)⟩
theorem q7t {soft:List Nat}{Js:List Mn}{ds:List (Option Tmp)}{a0:Act}{W:World}(hd:ops.toList.map (·.dst)=ds) (hnd:nodupB ds=true) (hsz:q19 ds a0.tmps.size=true) (hlow:q7o ops=true) (hlate:q7p ops late soft=true) (hsoft:q6Q ops late soft=true) (hns:Region.noSelect ops=true)
  (hstep:∀i,i<ops.size->late.contains i=false->soft.contains i=false->Stp P ops Q late Js ds a0 W i) (hsft:∀i,soft.contains i=true->Sft P ops Q Js ds a0 W i)(hk:cnt (lastB ops late).toArray ops.size=k)
  (hdone:∀vals w,Ext W w->(∀j,j<ops.size->late.contains j=false->(Js[j]?.getD Mn.any).p (vals j) w)->xB P ops Q (fun _=>True) late k (lastB ops late).toArray (qH ds (lastB ops late) vals 0 a0) w) :
  ∀(fuel:Nat) (listed:Array Bool) (vals:Nat->Value) (w:World),listed.size=ops.size->Closed ops listed->(∀t,late.contains t=true->t<ops.size->listed.getD t false=false)->cnt listed ops.size<=fuel->Ext W w ->
   (∀j,listed.getD j false=true->(Js[j]?.getD Mn.any).p (vals j) w)->q0w P ops Q (fun _=>True) late fuel listed (qH ds listed.toList vals 0 a0) w:=by
 intro fuel
 induction fuel with
 | zero =>
  intro listed vals w h1 h2 h3 h4 h5 h6
  by_cases hall:∀i,i<ops.size->late.contains i=false->listed.getD i false=true
  ·have hL:listed=(lastB ops late).toArray:=by
    apply Array.ext
    ·simp[lastB,h1]
    ·intro i hi _;have hio:i<ops.size:=by omega
     have e1:listed[i]=listed.getD i false:=by simp[hi]
     rw[e1];simp only[lastB,List.getElem_toArray,List.getElem_map,List.getElem_range];cases hc:late.contains i with
     | false=>exact hall i hio hc
     | true=>exact h3 i hc hio
   subst hL;have:=hdone vals w h5 (fun j hj hc=>h6 j (hall j hj hc)) h2;rw[hk] at h4;exact JJ h4 this
  ·exfalso
   apply hall
   intro i hi _
   have hz:∀n,n<=ops.size->cnt listed n=0->∀i,i<n->listed.getD i false=true:=by
    intro n
    induction n with
    | zero=>intro _ _ i hi;omega
    | succ n ih =>
     intro hn hc i hi;unfold cnt at hc
     by_cases e:i=n
     ·subst e
      by_cases hg:listed.getD i false=true
      ·exact hg
      ·rw[if_neg hg] at hc;omega
     ·exact ih (by omega) (by omega) i (by omega)
   exact hz ops.size (q_r) (by omega) i hi
 | succ fuel ih =>
  intro listed vals w h1 h2 h3 h4 h5 h6
  by_cases hall:∀i,i<ops.size->late.contains i=false->listed.getD i false=true
  ·have hL:listed=(lastB ops late).toArray:=by
    apply Array.ext
    ·simp[lastB,h1]
    ·intro i hi _;have hio:i<ops.size:=by omega
     have e1:listed[i]=listed.getD i false:=by simp[hi]
     rw[e1];simp only[lastB,List.getElem_toArray,List.getElem_map,List.getElem_range];cases hc:late.contains i with
     | false=>exact hall i hio hc
     | true=>exact h3 i hc hio
   subst hL;have:=hdone vals w h5 (fun j hj hc=>h6 j (hall j hj hc)) h2;rw[hk] at h4;exact JJ h4 this
  ·have hfacts:∀i,i∈Region.ready .any ops listed->∀j,(jw ops i).contains j=true->∀t,ds[j]?=some (some t)->∃v,(qH ds listed.toList vals 0 a0).tmps[t]?=some v/\(Js[j]?.getD Mn.any).p v w:=by
    intro i hi j hj t ht;have hjl:=xN hi j (by simpa using hj);refine⟨vals j,?_,h6 j hjl⟩
    have hjs:j<listed.size:=by
     rcases Nat.lt_or_ge j listed.size with h|h
     ·exact h
     ·simp[Array.getElem?_eq_none h] at hjl
    have:=Qu ds listed.toList vals 0 j a0 hnd (by rw[Array.getElem?_toList];simp[hjs] at hjl ⊢;exact hjl) ht (by
     have:=List.all_eq_true.1 hsz (some t) (List.mem_of_getElem? ht)
     simpa using this)
    rw[Nat.zero_add] at this;exact this
   have hnext:∀i,i∈Region.ready .any ops listed->late.contains i=false->∀(o:Oper),ops.toList[i]?=some o->∀v w',Ext w w'->(Js[i]?.getD Mn.any).p v w'->q0w P ops Q (fun _=>True) late fuel (listed.setIfInBounds i true) ((qH ds listed.toList vals 0 a0).put o.dst v) w':=by
    intro i hi hic o ho' v w' e hJ;have hun:=vZ hi
    have hio:i<ops.size:=by
     rw[Array.getElem?_toList] at ho';exact (Array.getElem?_eq_some_iff.1 ho').1
    have hdi:ds[i]?=some o.dst:=by rw[<-hd,List.getElem?_map,ho'];rfl
    have hbi:listed.toList[i]?=some false:=by
     rw[Array.getElem?_toList];have:i<listed.size:=by omega
     simp[this] at hun ⊢;exact hun
    have hc:=VX (by omega:i<listed.size) hun ops.size;rw[if_pos hio] at hc;have hps:=Qr (v:=v) ds listed.toList vals 0 i a0 hnd hbi hdi;rw[Nat.zero_add] at hps;rw[<-hps,<-Array.toList_setIfInBounds];refine ih (listed.setIfInBounds i true) (KO vals i v) w' (by simpa using h1) (h2.set hi) (fun t htl htn=>?_) (by omega) (h5.trans e) (fun j hj=>?_)
    ·rw[Go.getD_set_ne false (fun e=>by subst e;rw[hic] at htl;cases htl)];exact h3 t htl htn
    ·by_cases hji:i=j
     ·subst hji;have:KO vals i v i=v:=by simp[KO]
      rw[this];exact hJ
     ·rw[Go.getD_set_ne false hji] at hj;have:KO vals i v j=vals j:=by unfold KO;rw[if_neg (fun e=>hji e.symm)]
      rw[this];exact (Js[j]?.getD Mn.any).mono e (h6 j hj)
   by_cases hsr:∃i,soft.contains i=true/\i∈Region.ready .any ops listed
   ·obtain⟨i,his,hi⟩:=hsr;have hsb:=List.all_eq_true.1 hsoft i (by simpa using his);simp only[Bool.and_eq_true,decide_eq_true_eq,Bool.not_eq_true'] at hsb;obtain⟨⟨⟨hio,hic⟩,hap⟩,-⟩:=hsb;obtain⟨-,o,ho,-⟩:=mem_ready.1 hi;have ho':ops.toList[i]?=some o:=by rw[Array.getElem?_toList];exact ho
    obtain⟨hQ,hsf⟩:=hsft i his o ho';obtain⟨v,hy,hJ⟩:=hsf _ w h5 (fun t ht=>Qs ds _ vals 0 a0 ht) (hfacts i hi);refine YY ho (Region.noSelect_spec hns) (fun c a w=>hQ c a v w) fuel listed _ w (fun j oj hoj hji hjl hno=>?_) hi hy (hnext i hi hic o ho' v w (Ext.refl _) hJ);unfold apartB at hap;rw[ho] at hap;have hjo:j<ops.size:=(Array.getElem?_eq_some_iff.1 hoj).1;have h9:=List.all_eq_true.1 hap j (by simpa using hjo);rw[hoj] at h9;simp only[Bool.or_eq_true,beq_iff_eq] at h9
    rcases h9 with ((h9|h9)|h9)|h9
    ·exact absurd h9 hji
    ·exfalso
     have h8:i∈jw ops j:=by simpa using h9
     unfold jw at h8;rw[hoj] at h8;simp only[List.mem_map,List.mem_filter] at h8;obtain⟨e,⟨he,hb⟩,hon⟩:=h8;exact hno e (by simpa using he) hb hon
    ·exfalso
     have h7:=jU h2 i (jw ops i) (fun x hx=>xN hi x hx) j (by simpa using h9);have h6':j<listed.size:=by omega
     simp[h6'] at h7 hjl
     rw[h7] at hjl;cases hjl
    ·exact h9
   ·have hex:∃i,i<ops.size/\late.contains i=false/\listed.getD i false=false:=by
     apply Classical.byContradiction
     intro hno
     apply hall
     intro i hi hc;cases hl:listed.getD i false with
     | true=>rfl
     | false=>exact absurd ⟨i,hi,hc,hl⟩ hno
    obtain⟨u,hu,huc,hul⟩:=hex;have hne:=Yb hlow h1 0 (Nat.zero_le _) (fun i hi=>by omega) ⟨u,hu,hul⟩;refine⟨fun h0=>?_,fun i hi=>?_⟩
    ·obtain⟨i,hi⟩:=hne;rw[h0] at hi;cases hi
    ·obtain⟨-,o,ho,-⟩:=mem_ready.1 hi;have hio:i<ops.size:=(Array.getElem?_eq_some_iff.1 ho).1
     have hsi:soft.contains i=false:=by
      cases hc:soft.contains i with
      | false=>rfl
      | true=>exact absurd ⟨i,hc,hi⟩ hsr
     have hic:late.contains i=false:=by
      cases hc:late.contains i with
      | false=>rfl
      | true =>
       exfalso
       have hw:=List.all_eq_true.1 hlate u (by simpa using hu);rw[huc,Bool.false_or] at hw
       rcases (by simpa using hw:soft.contains u=true\/vK ops late u=true) with hs|hs
       ·have hsb:=List.all_eq_true.1 hsoft u (by simpa using hs);rw[Bool.and_eq_true] at hsb;have hpr:=List.all_eq_true.1 hsb.2;refine hsr ⟨u,hs,mem_ready.2 ⟨?_,ops[u],by simp[hu],fun e he hb=>?_⟩⟩
        ·have:u<listed.size:=by omega
         simp[this] at hul ⊢;exact hul
        ·have h8:=hpr e.on (by
          unfold jw;rw[Array.getElem?_eq_getElem hu];simp only[List.mem_map,List.mem_filter]
          exact⟨e,⟨by simpa using he,hb⟩,rfl⟩)
         exact jC h8 h2 hi hc
       ·have:=jC hs h2 hi hc;rw[hul] at this;cases this
     have ho':ops.toList[i]?=some o:=by rw[Array.getElem?_toList];exact ho
     refine wpOp_step ho (fun K' hK=>?_);exact hstep i hio hic hsi o ho' _ w h5 (fun t ht=>ZA (by rw[<-hd];simp) h3 vals a0 ht) (hfacts i hi) K' (fun v w' e hJ=>hK _ _ ⟨fun _ _=>trivial,hnext i hi hic o ho' v w' e hJ⟩)
theorem Vj (Js:List Mn) (ds:List (Option Tmp)) (late soft:List Nat) (bs:List Bool) (k:Nat){id:Nat}{a0:Act}{W:World}(hm:P.follows .mixedOrders=true) (hd:ops.toList.map (·.dst)=ds) (hnd:nodupB ds=true) (hsz:q19 ds a0.tmps.size=true) (hlow:q7o ops=true) (hlate:q7p ops late soft=true) (hsoft:q6Q ops late soft=true) (hns:Region.noSelect ops=true)
  (hb:lastB ops late=bs) (hk:cnt bs.toArray ops.size=k) (hstep:∀i,i<ops.size->late.contains i=false->soft.contains i=false->Stp P ops Q late Js ds a0 W i) (hsft:∀i,soft.contains i=true->Sft P ops Q Js ds a0 W i)
  (hdone:∀vals w,Ext W w->(∀j,j<ops.size->late.contains j=false->(Js[j]?.getD Mn.any).p (vals j) w)->xB P ops Q (fun _=>True) late k bs.toArray (qH ds bs vals 0 a0) w) :
  (Code.region id ops true).wp P Q a0 W:=by
 subst hb
 have h0:∀n,qH ds (Array.replicate n false).toList (fun _=>undef) 0 a0=a0:=by
  intro n;simp only[Array.toList_replicate]
  have:∀(ds:List (Option Tmp)) (n k:Nat),qH ds (List.replicate n false) (fun _=>undef) k a0=a0:=by
   intro ds
   induction ds with
   | nil=>intro n k;unfold qH;rfl
   | cons d ds ih =>
    intro n k;cases n with
    | zero=>rfl
    | succ n=>exact ih n (k+1)
  exact this ds n 0
 have hc0:∀(n:Nat) (l:Array Bool),cnt l n<=n:=by
  intro n l
  induction n with
  | zero=>exact q_r
  | succ n ih=>unfold cnt;split<;>omega
 have hf0:∀j,(Array.replicate ops.size false).getD j false=false:=fun j=>by
  rw[Array.getD_eq_getD_getElem?,Array.getElem?_replicate];split<;>rfl
 have:=q7t (P:=P) (Q:=Q) (late:=late) hd hnd hsz hlow hlate hsoft hns hstep hsft hk hdone ops.size (Array.replicate ops.size false) (fun _=>undef) W.drew (by simp) (Closed.start _) (fun t _ _=>hf0 t) (hc0 _ _) (Ext.refl W).drew (fun j hj=>by rw[hf0 j] at hj;cases hj);rw[h0] at this;exact wp_region_any hm (jG _ _ _ _ this)
theorem q8h (Js:List Mn) (ds:List (Option Tmp)) (late soft:List Nat) (bs:List Bool) (k:Nat){id:Nat}{a0:Act}{W:World}(h:(P.follows .mixedOrders&&(decide (ops.toList.map (·.dst)=ds)&&(nodupB ds&&(q19 ds a0.tmps.size&&(q7o ops&&(q7p ops late soft&&(q6Q ops late soft&&(Region.noSelect ops&&(decide (lastB ops late=bs)&&decide (cnt bs.toArray ops.size=k))))))))))=true) (hstep:∀i,i<ops.size->late.contains i=false->soft.contains i=false->Stp P ops Q late Js ds a0 W i) (hsft:∀i,soft.contains i=true->Sft P ops Q Js ds a0 W i)
  (hdone:∀vals w,Ext W w->(∀j,j<ops.size->late.contains j=false->(Js[j]?.getD Mn.any).p (vals j) w)->xB P ops Q (fun _=>True) late k bs.toArray (qH ds bs vals 0 a0) w) :
  (Code.region id ops true).wp P Q a0 W:=by
 simp only[Bool.and_eq_true,decide_eq_true_eq] at h;obtain⟨h1,h2,h3,h4,h5,h6,h7,h8,h9,h10⟩:=h;exact Vj Js ds late soft bs k h1 h2 h3 h4 h5 h6 h7 h8 h9 h10 hstep hsft hdone
end
def stL (z:Nat->Int) (k:Nat):List Value:=(List.range k).map fun i=>.int .i64 (jK z i)
theorem q4g (z:Nat->Int) (k:Nat):stL z (k+1)=stL z k ++ [.int .i64 (jK z k)]:=by unfold stL;rw[List.range_succ,List.map_append];rfl
theorem jr (z:Nat->Int) (k:Nat):(stL z k).length=k:=by unfold stL;rw[List.length_map,List.length_range]
theorem q5e {ET:TypeId}{x:Value}(hb:base<=g) (h:w.heap[g]?=some (.cells #[x] ET (0,0))):qO ET base w (.slice (some ⟨g,0,none⟩) 1 1) [x] :=
 ⟨by have:=qF h;omega,by simp,.inr ⟨g,1,#[x],rfl,hb,h,q_r,by unfold maxLen;omega,by simp,by simp⟩⟩
def q9j (w:World) (n:Nat) (z:Nat->Int) (e:Ending) (w':World):Prop :=
 ∃g c,e=.returned (.slice (some ⟨g,0,none⟩) (n+1) c)/\(n+1<=c/\c<=maxLen)/\w.heap.size<=g/\g<w'.heap.size/\(∀i,i<n+1->w'.cell? ⟨g,i,none⟩=some (.int .i64 (jK z i)))/\Ext w w'
theorem Zh{Z:Sys}(h:jI N lo hi w v Z) (h1:Z.ns<=12) (hz:∀i,i<Z.ns->sz1 (Z.z i)=true) :
  Calls Tryz.prog 36 #[v] w (q9j w Z.ns Z.z):=by
 obtain⟨R,hR⟩:=qc (q9j w Z.ns Z.z);rw[<-hR.out];obtain⟨A1,c1,A2,c2,A3,c3,rfl,s1,s2,s3,-⟩:=h.parts;have HI:=q_h s1;have HZ:=q_h hz;obtain⟨n,hn⟩:=qc Z.ns;rw[<-hn.out] at HI h1 HZ hR;obtain⟨z,hz9⟩:=qc Z.z;rw[<-hz9.out] at HI HZ hR;clear h s1 s2 s3 hz hz9;go_enter Tryz.func36,Tryz.ntmps36;go_upto_region 1 with (fail);refine qo ?_;intro w1 hE hsz B0;go_upto_region 2 with (fail);refine qo ?_;intro w2 e2 hsz2 B2;obtain⟨a0,a1,a2,-⟩:=cells3 (e2.block B0);rw[<-hn.out] at a0;replace hE:=hE.trans e2;have HG0:Hid (qO 3 w1.heap.size w2 (.slice (some ⟨w1.heap.size,0,none⟩) 1 1) (stL z 1)):=q5e (q_r) B2;have hw1:w.heap.size<=w1.heap.size:=by omega
 clear e2 B0 B2 hsz hsz2;go_wp2_with fail
 go_loopw [10,3] (fun iv ov wr=>∃(i:Nat) (A:Option Addr) (c:Nat),i<=n/\iv=.int .i64 (i:Int)/\ov=.slice A (i+1) c/\qO 3 w1.heap.size wr ov (stL z (i+1))/\Ext w wr) (fun iv _ _=>n-(intOf iv).toNat)
 case atStart=>exact⟨0,_,_,Nat.zero_le _,rfl,rfl,HG0.out,hE⟩
 case round =>
  obtain⟨i,A,c,hi,rfl,rfl,HG1,hE1⟩:=hrel;clear HG0 hE
  by_cases hlt:i<n
  case neg =>
   have t1:decide ((i:Int)<(n:Int))=false:=q_f (by omega);obtain rfl:n=i:=by omega
   obtain⟨g,cap,hv,hb,hgs,hcm,hnc,-,hc⟩:=HG1.at_ (by rw[jr];omega);rw[jr] at hv hnc;simp only[Value.slice.injEq] at hv;obtain⟨rfl,-,rfl⟩:=hv
   have HC:Hid (∀i,i<n+1->wr.cell? ⟨g,i,none⟩=some (.int .i64 (jK z i))):=fun i hi=>by
    rw[hc i (by rw[jr];exact hi)];unfold stL
    simp
   clear hc a0 a1 a2;go_wp2
   first|go_ret|skip
   rw[hR.out];exact⟨g,_,rfl,⟨hnc,hcm⟩,by omega,hgs,HC.out,hE1⟩
  have t1:decide ((i:Int)<(n:Int))=true:=q_t (by omega);have t2:(i:Int)<(n:Int):=by omega
  have t3:(i:Int)<(i:Int)+1:=by omega
  obtain⟨g,cap,hv,hb,hgs,hcm,hnc,-,hc⟩:=HG1.at_ (by rw[jr];omega);rw[jr] at hv hnc;simp only[Value.slice.injEq] at hv;obtain⟨rfl,-,rfl⟩:=hv
  have p0:wr.cell? ⟨g,i,none⟩=some (.int .i64 (jK z i)):=by
   rw[hc i (by rw[jr];omega)];unfold stL
   simp
  obtain⟨b,off,rfl,hx⟩:=(HI.out.ext hE1).addr (by omega);have q0:=hx i hlt;have hb9:=Zk i (fun j hj=>HZ.out j (by omega));have hu:=kU.1 (HZ.out i hlt);obtain⟨u,hU⟩:=qc (z i);obtain⟨T,hT⟩:=qc (jK z i);rw[<-hU.out] at q0 hu;rw[<-hT.out] at hb9 p0;have HN:Hid (T+u=jK z (i+1)):=by rw[Hid,hT.out,hU.out];rfl
  have HG:=q_h HG1;have hxl:(stL z (i+1)).length+1<=1000000000:=by rw[jr];omega
  clear hx hc HG1 a0 a1 a2;go_wp2_with (at_builtin;refine q_o ?_);refine qo ?_;intro w6 e6 hsz6 B6;refine zB jZ rfl _ _ 25 Tryz.underlying25 rfl (by first|rfl|(rw[jr])) (HG.out.ext e6) (m:=1) (c:=1) (news:=[.int .i64 (T+u)]) (by rfl) rfl (xZ B6) (fun x hx=>by rw[List.mem_singleton.1 hx];rfl) (by omega) hxl ?_;rintro g14 cap14 w14 hG14 hat14 ⟨g9,hlo,hw9,C9,-⟩;rw[HN.out,<-q4g] at hG14;rw[jr] at hG14 ⊢;have hE14:=C9.ext (hE1.trans e6) (by omega);have HG14:=q_h hG14;clear hG14 C9 B6 e6 hat14 hw9 hlo HG hxl p0 q0;go_wp2;go_roundw
  case rel=>exact⟨i+1,_,_,by omega,by go_num,rfl,HG14.out,hE14⟩
  case measure=>simp[intOf];omega
theorem WP:37≠119:=by decide
theorem Yw{r:Nat}{f:Nat->Value}{X:q_m}(hN:N<=w.heap.size) (hF:FlB 37 w g r f) (hl:lo<=g) (hg:g<hi) (hh:hi<=w.heap.size) (hr:r<1000000) (h:∀a,a<r->LsV N lo hi w (f a) c (X a)):MtV N lo hi w (.slice (some ⟨g,0,none⟩) r r) r c X :=
 ⟨hN,hh,some ⟨g,0,none⟩,r,rfl,q_r,by unfold maxLen;omega,fun _=>⟨g,0,rfl,hl,hg,fun i hi=>⟨f i,by rw[Nat.zero_add];exact (hF.cell hi).1,h i hi⟩⟩⟩
theorem q80(hN:N<=w.heap.size){r:Nat}(hr:r<1000) (hc:c<1000) :
  Calls Tryz.prog 123 #[.int .i64 (r:Int),.int .i64 (c:Int)] w (q46 N w r c (fun _ _=>0)):=by
 obtain⟨R,hR⟩:=qc (q46 N w r c (fun _ _=>0));rw[<-hR.out];go_enter Tryz.func123,Tryz.ntmps123;go_wp2_with (at_make;refine q_o ?_);refine zQ Z8 rfl rfl _ _ 29 Tryz.underlying29 rfl .i64 .i64 _ _ r rfl rfl rfl rfl (by omega) ?_;intro w1 cs B1 hcs hz e1;obtain⟨g,hg⟩:=qc w.heap.size;have hg1:w.heap.size<=g:=by rw[hg.out];exact q_r
 rw[<-hg.out] at B1 ⊢;have hg2:g<w1.heap.size:=qF B1;have HF:Hid (FlB 37 w1 g r (fun _=>.slice none 0 0)):=⟨cs,B1,hcs,hz⟩
 clear B1 hcs hz hg;go_wp2_with fail
 go_loopw [11] (fun iv wr=>∃(i:Nat) (f:Nat->Value),i<=r/\iv=.int .i64 (i:Int)/\Hid (FlB 37 wr g r f)/\Hid (∀a,a<i->LsV N (g+1) wr.heap.size wr (f a) c (fun _=>0))/\Hid (∀a,i<=a->f a=.slice none 0 0)/\g<wr.heap.size/\Ext w wr) (fun iv _=>r-(intOf iv).toNat)
 case atStart=>exact⟨0,_,Nat.zero_le _,rfl,HF,fun a ha=>absurd ha (Nat.not_lt_zero a),fun _ _=>rfl,hg2,e1⟩
 case round =>
  clear HF e1 hg2;obtain⟨i,f,hi,rfl,HF,HL,HZ,hg2,hE⟩:=hrel
  by_cases hlt:i<r
  case neg =>
   have t1:decide ((i:Int)<(r:Int))=false:=q_f (by omega);obtain rfl:r=i:=by omega
   go_wp2
   first|go_ret|skip
   rw[hR.out];exact⟨_,_,rfl,Yw (by have:=hE.size;omega) HF.out hg1 hg2 (q_r) (by omega) (fun a ha=>(LsR.wide (HL.out a ha) (by omega) (q_r) (q_r))),hE⟩
  have t1:decide ((i:Int)<(r:Int))=true:=q_t (by omega);have t2:(i:Int)<(r:Int):=by omega
  obtain⟨wq,hwq⟩:∃wq,wq=wr:=⟨_,rfl⟩
  subst hwq;have HI:Hid (Grow N wq.heap.size wq (.slice none 0 0) 0 (fun _=>0)):=Grow.nil (by have:=hE.size;omega) (q_r) _
  have HF0:Hid (FlB 37 wq g r (fun a=>if a=i then .slice none 0 0 else f a)):=by
   obtain⟨cs,h1,h2,h3⟩:=HF.out;refine⟨cs,h1,h2,fun a ha=>?_⟩;rw[h3 a ha]
   show some (f a)=some (if a=i then .slice none 0 0 else f a)
   by_cases hai:a=i
   ·rw[if_pos hai,HZ.out a (by omega)]
   ·rw[if_neg hai]
  go_wp2_with fail
  go_loopw [15] (fun jv wr=>∃(j:Nat) (A:Option Addr) (k:Nat),j<=c/\jv=.int .i64 (j:Int)/\Hid (FlB 37 wr g r (fun a=>if a=i then .slice A j k else f a))/\Hid (∀a,a<i->LsV N (g+1) wq.heap.size wr (f a) c (fun _=>0))/\Hid (Grow N wq.heap.size wr (.slice A j k) j (fun _=>0))/\Hid (Ext w wr)/\wq.heap.size<=wr.heap.size) (fun jv _=>c-(intOf jv).toNat)
  case atStart=>exact⟨0,_,_,Nat.zero_le _,rfl,HF0,HL,HI,hE,q_r⟩
  case round =>
   clear HF0 HI;obtain⟨j,A,k,hj,rfl,HF1,HL1,HG1,HC1,hs1⟩:=hrel
   by_cases hlt2:j<c
   case neg =>
    have t3:decide ((j:Int)<(c:Int))=false:=q_f (by omega);obtain rfl:c=j:=by omega
    have HL2:Hid (∀a,a<i+1->LsV N (g+1) wr.heap.size wr (if a=i then .slice A c k else f a) c (fun _=>0)):=fun a ha=>by
     by_cases hai:a=i
     ·rw[if_pos hai];exact HG1.out.lsv (by omega) rfl
     ·rw[if_neg hai];exact LsR.wide (HL1.out a (by omega)) (q_r) hs1 (q_r)
    have HZ2:Hid (∀a,i+1<=a->(if a=i then Value.slice A c k else f a)=.slice none 0 0):=fun a ha=>by
     rw[if_neg (by omega)];exact HZ.out a (by omega)
    have hE2:=HC1.out;go_wp2;go_roundw
    case rel=>exact⟨i+1,_,by omega,by go_num,HF1,HL2,HZ2,by omega,hE2⟩
    case measure=>simp[intOf];omega
   have t3:decide ((j:Int)<(c:Int))=true:=q_t (by omega);have t4:(j:Int)<(c:Int):=by omega
   have p0:=(HF1.out.cell hlt).1;rw[if_pos rfl] at p0;have hNr:N<=wr.heap.size:=by have:=hE.size;omega
   obtain⟨wx,hwx⟩:∃wx,wx=wr:=⟨_,rfl⟩
   subst hwx;have HGA:=HG1;go_upto_region 7 with (fail);refine q8h [Mn.eq (.slice (some ⟨g,0,none⟩) r r),Mn.i (i:Int),Mn.eq (.slice (some ⟨g,0,none⟩) r r),Mn.i (i:Int),Mn.q g i,Mn.eq (.slice A j k),Mn.rat N (0:Rat),Mn.rbk N (0:Rat),Mn.any,Mn.any,Mn.any] [some 17,some 18,some 19,some 20,some 21,some 22,some 23,some 24,some 25,some 26,none] [8,9,10] [0,1] (rQ 8 3) 3 (by kernel_rfl) ?_ ?_ ?_
   ·show ∀i,i<11->_
    iterate 11 refine fs ?_ ?_
    ·exact fz
    all_goals intro hl hs;first|exact absurd hl (by decide)|exact absurd hs (by decide)|(clear hl hs;refine stp rfl ?_;intro ac wi eI hB hA K hK)
    have o5:=oOf (hB 5) rfl;rotate_left;have o6:=oOf (hB 6) rfl;rotate_left;obtain⟨_,s19,rfl⟩:=hA 2 19;obtain⟨_,s20,rfl⟩:=hA 3 20;rotate_left;obtain⟨_,s21,rfl⟩:=hA 4 21;have cc0:=eI.cell p0;rotate_left;clear hB hA
    ·go_simp;refine (f_whole (q_l hNr eI.size) 0 (by decide) (by decide)).mono ?_;rintro e wj ⟨vj,rfl,hj,ej⟩;go_wp2_with fail;exact hK.out _ _ ej hj
    obtain⟨x23,s23,j23⟩:=hA 6 23;replace j23:Mn.p (Mn.rat N (0:Rat)) x23 wi:=j23;clear hB hA
    ·obtain⟨bj,Aj,kj,cj,Aj',kj',cj',rfl,hbj,gj1,gj2⟩:=qX.parts j23;go_simp;refine qo ?_;intro wj ej hszj BJ;exact hK.out _ _ ej ⟨_,rfl,je.mk BJ hbj (gj1.ext ej) (gj2.ext ej)⟩
    all_goals clear hB hA;go_simp;exact q_k hK rfl
   ·intro i hs;have hi':i=0\/i=1:=by simpa using hs
    clear hs
    rcases hi' with rfl|rfl
    ·refine sft rfl (fun _ _ _ _ h=>h) ?_;intro ac wi eI hB hA;have o5:=oOf (hB 5) rfl;clear hB hA;refine⟨(.slice (some ⟨g,0,none⟩) r r),.inl ⟨rfl,fun w9 _=>?_⟩,rfl⟩;go_simp
    ·refine sft rfl (fun _ _ _ _ h=>h) ?_;intro ac wi eI hB hA;have o6:=oOf (hB 6) rfl;clear hB hA;refine⟨(.int .i64 (i:Int)),.inl ⟨rfl,fun w9 _=>?_⟩,rfl⟩;go_simp
   intro vals wz eZ hJ;have J17:vals 0=_:=hJ 0 (by decide) (by decide);have J18:vals 1=_:=hJ 1 (by decide) (by decide);have J22:vals 5=_:=hJ 5 (by decide) (by decide);have J24:Mn.p (Mn.rbk N (0:Rat)) (vals 7) wz:=hJ 7 (by decide) (by decide);clear hJ;simp only[pr,Nat.reduceAdd,J17,J18,J22];clear J17 J18 J22
   generalize vals 7=z24 at J24 ⊢
   obtain⟨gb,rfl,bj,Aj,kj,cj,Aj',kj',cj',BX,hbj,gj1,gj2⟩:=J24;have hGz:=HG1.out.ext eZ;refine qj (i:=8) rfl (by kernel_rfl) (by kernel_rfl) (fun K hK=>?_);refine zZ rfl _ _ 37 Tryz.underlying37 rfl (by rfl) hGz (by rfl) BX hbj gj1 gj2 (by omega) ?_;rintro gq cq w17 g' hG8 hb9 c17 u1' u2';obtain⟨q0,q1⟩:=((HF1.out.ext eZ).chg c17 (.inl (by omega))).cell hlt;refine hK.out _ _ ?_;clear hK K;try simp only[nr]
   refine qj (i:=9) rfl (by kernel_rfl) (by kernel_rfl) (fun K hK=>?_);go_simp;refine hK.out _ _ ?_;clear hK K;try simp only[nr]
   refine qj (i:=10) rfl (by kernel_rfl) (by kernel_rfl) (fun K hK=>?_);go_simp;refine hK.out _ _ ?_;clear hK K;try simp only[nr]
   refine qg (by kernel_rfl) ?_ _;have F17:=(HF1.out.ext eZ).chg c17 (.inl (by omega));obtain⟨w18,E18,F18,C18,hs18⟩:=F17.set WP hlt (.slice (some ⟨gq,0,none⟩) (j+1) cq);rw[E18]
   have HF8:Hid (FlB 37 w18 g r (fun a=>if a=i then .slice (some ⟨gq,0,none⟩) (j+1) cq else f a)):=by
    obtain⟨cs,h1,h2,h3⟩:=F18;refine⟨cs,h1,h2,fun a ha=>?_⟩;rw[h3 a ha]
    show some (if a=i then _ else (if a=i then Value.slice A j k else f a))=some (if a=i then _ else f a)
    by_cases hai:a=i
    ·rw[if_pos hai,if_pos hai]
    ·rw[if_neg hai,if_neg hai,if_neg hai]
   have hNg:N<=g:=by omega
   have hNg':N<=g':=by omega
   have HL8:Hid (∀a,a<i->LsV N (g+1) wq.heap.size w18 (f a) c (fun _=>0)):=fun a ha=>LsR.chg (LsR.chg ((HL1.out a ha).ext eZ) c17 hNg' (.inl hb9)) C18 hNg (.inr (q_r))
   have HG8:Hid (Grow N wq.heap.size w18 (.slice (some ⟨gq,0,none⟩) (j+1) cq) (j+1) (fun _=>0)):=(hG8.congr (y:=fun _=>0) (fun a _=>by unfold upd;split<;>rfl)).chg C18 hNg (by omega);have hE8:Hid (Ext w w18):=C18.ext (c17.ext (HC1.out.trans eZ) (by have:=hE.size;omega)) hg1;have hs8:wq.heap.size<=w18.heap.size:=by have:=eZ.size;have:=c17.size;omega
   clear E18 F18 C18 F17 hG8 c17 hGz BX hbj gj1 gj2 eZ p0 q0 q1 HGA HG1 HL1 HF1 HC1;go_wp2;go_roundw
   case rel=>exact⟨j+1,_,_,by omega,by go_num,HF8,HL8,HG8,hE8,hs8⟩
   case measure=>simp[intOf];omega
theorem Jc(hN:N<=w.heap.size) (m n:Nat){M' N':Int}(hM':M'=(m:Int)) (hN':N'=(n:Int)) (hm:m<1000000) (hn:n<1000000) (X:q_m){gb:Nat}
  (hf:∀i,i<m->∀j,j<n->∀w',Ext w w'->Calls Tryz.prog 132 #[.int .i64 (i:Int),.int .i64 (j:Int),.pointer (some ⟨gb,0,none⟩)] w' (jP N w' (X i j))) :
  Calls Tryz.prog 93 #[.int .i64 M',.int .i64 N',.func (.func 132) #[] #[.pointer (some ⟨gb,0,none⟩)]] w (zY N w m n X):=by
 subst hM' hN';have HF:=q_h hf;clear hf;go_enter Tryz.func93,Tryz.ntmps93;go_wp2_with (at_make;refine q_o ?_);refine zK rfl _ _ rfl .i64 .i64 _ _ m rfl rfl rfl rfl hm ?_;intro w1 cs B0 hcs e1;have ho:qU N w.heap.size w1.heap.size w1 w.heap.size m 0 n (fun _=>0) (fun _=>0) X:=qU.start hN (q_r) B0 hcs X (qF B0) (q_r);have hs1:w.heap.size<w1.heap.size:=qF B0;clear B0;have HCS:=q_h hcs;clear hcs;go_wp2
 go_loopw [14] (fun i wr=>∃k:Nat,k<=m/\i=.int .i64 k/\Ext w wr/\∃β κ,qU N w.heap.size wr.heap.size wr w.heap.size m k n β κ X) (fun i _=>m-(intOf i).toNat)
 case atStart=>exact⟨0,Nat.zero_le _,rfl,e1,_,_,ho⟩
 case round =>
  clear ho e1;obtain⟨k,hk,rfl,hE,β,κ,ho⟩:=hrel;have hsr:w.heap.size<wr.heap.size:=by have:=ho.hhi;omega
  by_cases hlt:k<m
  ·go_wp2_with (at_make;refine q_o ?_);refine zh rfl _ _ rfl .i64 .i64 _ _ n rfl rfl rfl rfl hn ?_;intro w2 cs2 B2 hcs2 e2;have ho2:=ho.ext e2;have hR:kS N w2 wr.heap.size n 0 (X k):=⟨by omega,Nat.zero_le _,⟨cs2,B2,hcs2⟩,fun j hj=>by omega⟩
   obtain⟨u0,z0⟩:=ho2.hthere hlt;have z1:=ho2.hfrozen k;have hs2:wr.heap.size<w2.heap.size:=qF B2;have HCS2:=q_h hcs2;clear B2 hcs2 ho;go_upto_region 6 with (fail);obtain⟨w3,E3,C3,hs3,y0,ho3⟩:=ho2.setHead (Nat.le_refl k) hlt (.slice (some ⟨wr.heap.size,0,none⟩) n n);rw[E3];replace hE:=C3.ext (hE.trans e2) (q_r);replace hR:=hR.chg C3 (by omega) (by omega);have hs4:wr.heap.size<w3.heap.size:=by omega
   generalize hgr:wr.heap.size=gr at *
   clear hgr E3 C3 hs3 ho2 z0 z1 e2 hs2;have Y0:=y0;go_wp2
   go_loopw [27] (fun i ws=>∃j:Nat,j<=n/\i=.int .i64 j/\Ext w ws/\gr<ws.heap.size/\ws.cell? ⟨w.heap.size,k,none⟩=some (.slice (some ⟨gr,0,none⟩) n n)/\qU N w.heap.size gr ws w.heap.size m k n β κ X/\kS N ws gr n j (X k)) (fun i _=>n-(intOf i).toNat)
   case atStart=>exact⟨0,Nat.zero_le _,rfl,hE,hs4,y0,ho3,hR⟩
   case round =>
    clear hE y0 ho3 hR hs4 Y0;obtain⟨j,hj,rfl,hE,hs4,y0,ho3,hR⟩:=hrel
    by_cases hlt':j<n
    ·go_upto_region 9 with (fail);have eC:=(Ext.refl wr).drew;refine qw (fun w'=>w'.cell? ⟨w.heap.size,k,none⟩=some (.slice (some ⟨gr,0,none⟩) n n)) [10] (by kernel_rfl) (by exact eC.cell y0) (fun hHeld=>?_);refine sP 0 (h:=?_);refine sP 1 (h:=?_);refine sP 2 (h:=?_);refine sT 3 (h:=?_);refine sP 4 (h:=?_);refine sP 5 (h:=?_);refine sP 6 (h:=?_);refine sP 7 (h:=?_);refine qp (i:=8) rfl (by kernel_rfl) (fun K hK=>?_);go_simp;refine (HF.out k hlt j hlt' _ (hE.trans eC)).mono ?_;intro e w5 hh;obtain⟨b9,A9,k9,c9,A10,k10,c10,rfl,hb9,g9,g10,e5⟩:=hh.form;replace eC:=eC.trans e5;have hR5:=hR.ext eC;obtain⟨x0,v0⟩:=hR5.there (o:=j*4) (by omega);obtain⟨x1,v1⟩:=hR5.there (o:=j*4+1) (by omega);obtain⟨x2,v2⟩:=hR5.there (o:=j*4+2) (by omega);obtain⟨x3,v3⟩:=hR5.there (o:=j*4+3) (by omega);have f0:=hR5.frozen (j*4);have f1:=hR5.frozen (j*4+1);have f2:=hR5.frozen (j*4+2);have f3:=hR5.frozen (j*4+3);go_wp2_with fail;clear hHeld;refine hK.out _ _ (by exact eC.cell y0) fun hHeld=>?_
     clear hK K;try simp only[nr]
     refine sP 9 (h:=?_);refine qj (i:=10) rfl (by kernel_rfl) (by kernel_rfl) (fun K hK=>?_);go_simp;refine hK.out _ _ ?_;clear hK K;try simp only[nr]
     refine qg (by kernel_rfl) ?_ _;clear hHeld;obtain⟨w6,E6,C6,hs6,hr6⟩:=hR5.set (i:=j) (q:=X k j) hlt' (q_r) hb9 g9 g10;rw[E6];replace hE:=C6.ext (hE.trans eC) (by omega);replace ho3:=(ho3.ext eC).chg C6 (by omega) (.inl (q_r));replace y0:=C6.cell (p:=⟨w.heap.size,k,none⟩) (eC.cell y0) (.inl (by simp only;omega));have hr7:=(hr6.less (n':=j+1) (by omega)).congr (y:=X k) (fun c hc=>by unfold upd;split;(rename_i e;rw[e]);rfl);have hs7:gr<w6.heap.size:=by have:=eC.size;omega
     clear E6 C6 hs6 hr6 hR hR5 v0 v1 v2 v3 f0 f1 f2 f3;go_wp2;go_roundw
     case rel=>exact⟨j+1,by omega,by go_num,hE,hs7,y0,ho3,hr7⟩
     case measure=>simp[intOf];omega
    ·obtain rfl:j=n:=by omega
     have ho4:=(ho3.more hlt y0 hR (q_r) (by unfold maxLen;omega)).congr (B:=X) (fun i _ c _=>by unfold xE;split;(rename_i e;rw[e]);rfl);go_wp2;go_roundw
     case rel=>exact⟨k+1,by omega,by go_num,hE,_,_,ho4⟩
     case measure=>simp[intOf];omega
  ·obtain rfl:k=m:=by omega
   go_wp2;go_ret;exact⟨_,_,β,κ,rfl,by unfold maxLen;omega,ho,hE⟩
theorem q2M{gb:Nat}{X:q_m}(hb:w.cell? ⟨gb,0,none⟩=some (.slice A m c)) (h:MtV N lo hi w (.slice A m c) m n X)(hi':i<n) (hj:j<m) (hm:m<1000000) (hn:n<1000000) :
  Calls Tryz.prog 132 #[.int .i64 (i:Int),.int .i64 (j:Int),.pointer (some ⟨gb,0,none⟩)] w (jP N w (X j i)):=by
 have hN:=h.le;obtain⟨b,off,rfl,-,-,hx⟩:=h.addr (by omega);obtain⟨A1,c1,p0,-,-,hl⟩:=hx j hj;obtain⟨b2,off2,rfl,-,-,hx⟩:=hl.addr (by omega);obtain⟨n1,A3,k3,c3,A4,k4,c4,q0,q1,q2,q3,hb1,g1,g2⟩:=(hx i hi').open;have l0:=cell_lt hb;have l1:=cell_lt p0;have l2:=cell_lt q0;simp only at l0 l1 l2;obtain⟨q,hq⟩:=qc (X j i);rw[<-hq.out] at hb1 g1 g2 ⊢;clear hx hl h;go_enter Tryz.func132,Tryz.ntmps132;go_wp2;have eA:=(Ext.refl w).alloc (Obj.cells #[Value.bool n1,Value.slice A3 k3 c3,Value.bool false,Value.slice A4 k4 c4] 35);exact q09 rfl rfl rfl eA (je.mk (heap_alloc_new w _) hb1 (g1.ext eA) (g2.ext eA))
theorem WT{X:q_m}(h:MtV N lo hi w v m n X) (hm0:0<m) (hm:m<1000000) (hn:n<1000000) :
  Calls Tryz.prog 98 #[v] w (zY N w n m (fun i j=>X j i)):=by
 have hN:=h.le;obtain⟨A,c,rfl,hmc,hcm⟩:=h.form;have hI:=h;obtain⟨Z,hZ⟩:=qc (fun i j=>X j i);have HZ:Hid (∀i j,X j i=Z i j):=fun i j=>by rw[hZ.out]
 rw[<-hZ.out];obtain⟨b,off,rfl,-,-,hx⟩:=h.addr hm0;obtain⟨A1,c1,p0,hnc,hcm1,-⟩:=hx 0 hm0;rw[Nat.add_zero] at p0;have l0:=cell_lt p0;simp only at l0;clear h hx;go_enter Tryz.func98,Tryz.ntmps98;go_upto_region 1 with (fail);refine qo ?_;intro W hE hsz B0;obtain⟨a0,-⟩:=zG B0;replace p0:=hE.cell p0;have eC:=(Ext.refl W).drew;refine qw (fun w'=>w'.cell? ⟨w.heap.size,0,none⟩=some (.slice (some ⟨b,off,none⟩) m c)/\w'.cell? ⟨b,off,none⟩=some (.slice A1 n c1)) [] (by kernel_rfl) (by exact⟨eC.cell a0,eC.cell p0⟩) (fun hHeld=>?_);refine sT 0 (h:=?_);refine sP 1 (h:=?_);refine sT 2 (h:=?_);refine sP 3 (h:=?_);refine sT 4 (h:=?_);refine sP 5 (h:=?_);refine sP 6 (h:=?_);refine qp (i:=7) rfl (by kernel_rfl) (fun K hK=>?_);go_simp;refine (Jc (N:=N) (by have:=hE.size;show N<=W.heap.size;omega) n m rfl rfl hn hm Z (fun i hi' j hj w' e=>by rw[<-HZ.out i j];exact q2M ((eC.trans e).cell a0) (hI.ext (hE.trans (eC.trans e))) hi' hj hm hn)).mono ?_;rintro e w2 ⟨h2,cap2,β2,κ2,rfl,hcap2,ho2,e2⟩;replace eC:=eC.trans e2;go_wp2_with fail;clear hHeld;refine hK.out _ _ (by exact⟨eC.cell a0,eC.cell p0⟩) fun hHeld=>?_
 clear hK K;try simp only[nr]
 refine sP 8 (h:=?_);refine qg (by kernel_rfl) ?_ _;clear hHeld;go_wp2;go_ret;exact⟨h2,cap2,β2,κ2,rfl,hcap2,ho2.wide (by have:=hE.size;show w.heap.size<=W.heap.size;omega) hN (q_r) (q_r),hE.trans eC⟩
def Kq (N:Nat) (w:World) (m n:Nat) (A:q_m) (e:Ending) (w':World):Prop:=∃h cap β κ,e=.returned (.tuple #[.slice (some ⟨h,0,none⟩) m cap,.int .i64 0])/\cap<=maxLen/\qU N w.heap.size w'.heap.size w' h cap m n β κ A/\Ext w w'
theorem Vu{X:q_m}(h:MtV N lo hi w v m n X) (hm0:0<m) (hm:m<=64) (hn0:0<n) (hn:n<=64) (hs:∀i,i<m->∀j,j<n->Sz (X i j)) :
  Calls Tryz.prog 83 #[v] w (Kq N w n m (fun i j=>X j i)):=by
 obtain⟨A,c,rfl,hmc,hcm⟩:=h.form;have hI:=h;have HS:=q_h hs;obtain⟨Z,hZ⟩:=qc (fun i j=>X j i);rw[<-hZ.out];clear h hs hcm;go_enter Tryz.func83,Tryz.ntmps83;go_wp2_with (go_at_call 124;refine q_o ?_);refine (Je hI hm0 hm hn0 hn HS.out).mono ?_;rintro e w1 ⟨rfl,hE⟩;go_wp2_with (go_at_call 98;refine q_o ?_);refine (WT (hI.ext hE) hm0 (by omega) (by omega)).mono ?_;rw[<-hZ.out];rintro e w2 ⟨h2,cap2,β2,κ2,rfl,hcap2,ho2,e2⟩;have hs1:=hE.size;have hN:=hI.le;go_wp2;go_ret2;exact⟨h2,cap2,β2,κ2,rfl,hcap2,ho2.wide hs1 hN (q_r) (q_r),hE.trans e2⟩
def Mx (N B0 B1:Nat) (w:World) (v:Value) (m n:Nat) (X:q_m):Prop :=
 ∃(A:Addr) (k lo hi:Nat),v=.slice (some A) m k/\MtV N lo hi w v m n X/\(hi<=B0\/B1<=lo)
theorem Mx.ext {B0 B1:Nat}{X:q_m}(h:Mx N B0 B1 w v m n X) (e:Ext w w'):Mx N B0 B1 w' v m n X:=by
 obtain⟨A,k,lo,hi,hv,h1,h2⟩:=h;exact⟨A,k,lo,hi,hv,h1.ext e,h2⟩
theorem Mx.chg {B0 B1 l u:Nat}{X:q_m}(h:Mx N B0 B1 w v m n X) (c:Chg l u w w') (hN:N<=l) (hl:B0<=l) (hu:u<=B1):Mx N B0 B1 w' v m n X:=by
 obtain⟨A,k,lo,hi,hv,h1,h2⟩:=h;exact⟨A,k,lo,hi,hv,MtR.chg h1 c hN (by omega),h2⟩
theorem Mx.mtv {B0 B1:Nat}{X:q_m}(h:Mx N B0 B1 w v m n X):∃(A:Addr) (k lo hi:Nat),v=.slice (some A) m k/\MtV N lo hi w v m n X:=by
 obtain⟨A,k,lo,hi,hv,h1,-⟩:=h;exact⟨A,k,lo,hi,hv,h1⟩
def MpC (N B0 B1:Nat) (w:World) (m n:Nat) (X:q_m):Option Value->Prop
 | none=>∀a b,a<m->b<n->X a b=0
 | some v=>Mx N B0 B1 w v m n X
theorem MpC.ext {B0 B1:Nat}{X:q_m}{o:Option Value}(h:MpC N B0 B1 w m n X o) (e:Ext w w'):MpC N B0 B1 w' m n X o:=by
 cases o with
 | none=>exact h
 | some v=>exact Mx.ext h e
theorem MpC.chg {B0 B1 l u:Nat}{X:q_m}{o:Option Value}(h:MpC N B0 B1 w m n X o) (c:Chg l u w w') (hN:N<=l) (hl:B0<=l) (hu:u<=B1):MpC N B0 B1 w' m n X o:=by
 cases o with
 | none=>exact h
 | some v=>exact Mx.chg h c hN hl hu
def Lx (N B0 B1:Nat) (w:World) (v:Value) (n:Nat) (x:q_v):Prop :=
 ∃(A:Option Addr) (c lo hi:Nat),v=.slice A n c/\LsV N lo hi w v n x/\(hi<=B0\/B1<=lo)
theorem Lx.ext {B0 B1:Nat}{x:q_v}(h:Lx N B0 B1 w v n x) (e:Ext w w'):Lx N B0 B1 w' v n x:=by
 obtain⟨A,k,lo,hi,hv,h1,h2⟩:=h;exact⟨A,k,lo,hi,hv,h1.ext e,h2⟩
theorem Lx.chg {B0 B1 l u:Nat}{x:q_v}(h:Lx N B0 B1 w v n x) (c:Chg l u w w') (hN:N<=l) (hl:B0<=l) (hu:u<=B1):Lx N B0 B1 w' v n x:=by
 obtain⟨A,k,lo,hi,hv,h1,h2⟩:=h;exact⟨A,k,lo,hi,hv,LsR.chg h1 c hN (by omega),h2⟩
structure StM (N B0 B1:Nat) (w:World) (bz oz gm gr m:Nat) (z:Nat->Nat) (F:Nat->Nat->Nat->Nat->Rat) (R:q_m):Prop where
 sz:bz<B0/\∀i,i<m->w.cell? ⟨bz,oz+i,none⟩=some (.int .i64 ((z i:Nat):Int))
 mp:∃l,MpE w gm l/\∀r c,c<=r->r<m->MpC N B0 B1 w (z r) (z c) (F r c) (lkp l (r:Int) (c:Int))
 rt:∃cs,w.heap[gr]?=some (.cells cs 37 (0,0))/\∀i,i<m->∃v,cs[i]?=some v/\Lx N B0 B1 w v (z i) (R i)
 mb:B0<=gm/\gm<B1
 rb:B0<=gr/\gr<B1
 nb:N<=B0
 bw:B1<=w.heap.size
theorem StM.ext {B0 B1:Nat}{bz oz gm gr:Nat}{z:Nat->Nat}{F:Nat->Nat->Nat->Nat->Rat}{R:q_m}(h:StM N B0 B1 w bz oz gm gr m z F R) (e:Ext w w'):StM N B0 B1 w' bz oz gm gr m z F R:=by
 obtain⟨⟨s1,s2⟩,⟨l,h1,h2⟩,⟨cs,h3,h4⟩,h5,h6,h7,h8⟩:=h;refine⟨⟨s1,fun i hi=>e.cell (s2 i hi)⟩,⟨l,h1.ext e,fun r c hc hr=>(h2 r c hc hr).ext e⟩,⟨cs,e.block h3,fun i hi=>?_⟩,h5,h6,h7,q_l h8 e.size⟩;obtain⟨v,h9,h10⟩:=h4 i hi;exact⟨v,h9,h10.ext e⟩
def stV (bz oz cz gm gr cr m:Nat):Value:=.agg #[.slice (some ⟨bz,oz,none⟩) m cz,.map (some gm),.slice (some ⟨gr,0,none⟩) m cr]
def Fsy (F:Nat->Nat->Nat->Nat->Rat) (r c a b:Nat):Rat:=if c<=r then F r c a b else F c r b a
def q9n (N B0 B1:Nat) (w:World) (m n:Nat) (X:q_m) (e:Ending) (w':World):Prop :=
 ∃v,e=.returned v/\Ext w w'/\((v=.slice none 0 0/\∀a b,a<m->b<n->X a b=0)\/Mx N B0 B1 w' v m n X)
theorem JH {B0 B1:Nat}{bz oz cz gm gr cr:Nat}{z:Nat->Nat}{F:Nat->Nat->Nat->Nat->Rat}{R:q_m}(h:StM N B0 B1 w bz oz gm gr m z F R) (hm:m<=12) (hz:∀i,i<m->0<z i/\z i<=64)(hF:∀r c,c<=r->r<m->HtM (z r) (z c) K (F r c)) (hK:K<=29000000000){r:Nat}(hr:r<m) (hc:c<m) :
  Calls Tryz.prog 38 #[stV bz oz cz gm gr cr m,.int .i64 (r:Int),.int .i64 (c:Int)] w (q9n N B0 B1 w (z r) (z c) (Fsy F r c)):=by
 obtain⟨Q,hQ⟩:=qc (q9n N B0 B1 w (z r) (z c) (Fsy F r c));rw[<-hQ.out];have HS:=q_h h;obtain⟨l,hml,hmc⟩:=h.mp;have HBW:Hid (B1<=w.heap.size):=h.bw;have HNB:Hid (N<=B0/\B0<=B1):=⟨h.nb,by have:=h.mb;omega⟩
 have hkr:V7 (r:Int):=⟨by omega,by omega⟩
 have hkc:V7 (c:Int):=⟨by omega,by omega⟩
 have HZr:=q_h (hz r hr);have HZc:=q_h (hz c hc);have hnl:=fun (w:World) (a:Option Addr) (n c:Nat)=>Lib.run_eql_slice_nil (P:=Tryz.prog) w 29 37 a n c 0 0 Tryz.underlying29
 unfold stV
 by_cases hcr:c<=r
 ·have hl0:=fun (w':World) (e:Ext w w')=>vw (hml.ext e) hkr hkc
  have HL0:=q_h hl0;have HMC:=q_h (hmc r c hcr hr);have HFS:Hid (Fsy F r c=F r c):=by funext a b;unfold Fsy;rw[if_pos hcr]
  have t1:decide ((c:Int)<=(r:Int))=true:=q_t (by omega);obtain⟨o,ho⟩:=qc (lkp l (r:Int) (c:Int));rw[<-ho.out] at HL0 HMC;clear h hml hmc hz hF hl0 hnl;go_enter Tryz.func38,Tryz.ntmps38;go_upto_region 1 with (fail);refine qo ?_;intro w1 hE hsz B0';obtain⟨a0,a1,a2,-⟩:=cells3 B0';have hl:=HL0.out w1 hE;unfold kyV at hl;cases o with
  | none =>
   have HM2:Hid (∀a b,a<z r->b<z c->F r c a b=0):=HMC.out;simp only[Option.getD_none] at hl;clear HL0 HMC;go_wp2
   first|go_ret|skip
   rw[hQ.out];exact⟨_,rfl,hE,.inl ⟨rfl,by rw[HFS.out];exact HM2.out⟩⟩
  | some v =>
   have HM2:Hid (Mx N B0 B1 w v (z r) (z c) (F r c)):=HMC.out;simp only[Option.getD_some] at hl;clear HL0 HMC;go_wp2
   first|go_ret|skip
   rw[hQ.out];exact⟨_,rfl,hE,.inr (by rw[HFS.out];exact HM2.out.ext hE)⟩
 ·have hl0:=fun (w':World) (e:Ext w w')=>vw (hml.ext e) hkc hkr
  have HL0:=q_h hl0;have HMC:=q_h (hmc c r (by omega) hc);have HFS:Hid (Fsy F r c=fun a b=>F c r b a):=by funext a b;unfold Fsy;rw[if_neg hcr]
  have HHT:Hid (∀i,i<z c->∀j,j<z r->Sz (F c r i j)):=fun i hi j hj=>(hF c r (by omega) hc i hi j hj).sz hK
  have t1:decide ((c:Int)<=(r:Int))=false:=q_f (by omega);obtain⟨o,ho⟩:=qc (lkp l (c:Int) (r:Int));rw[<-ho.out] at HL0 HMC;clear h hml hmc hz hF hl0;go_enter Tryz.func38,Tryz.ntmps38;go_upto_region 1 with (fail);refine qo ?_;intro w1 hE hsz B0';obtain⟨a0,a1,a2,-⟩:=cells3 B0';have hl:=HL0.out w1 hE;unfold kyV at hl;cases o with
  | none =>
   have HM2:Hid (∀a b,a<z c->b<z r->F c r a b=0):=HMC.out;simp only[Option.getD_none] at hl;clear HL0 HMC;go_wp2
   first|go_ret|skip
   rw[hQ.out];exact⟨_,rfl,hE,.inl ⟨rfl,by rw[HFS.out];exact fun a b ha hb=>HM2.out b a hb ha⟩⟩
  | some v =>
   have HM2:Hid (Mx N B0 B1 w v (z c) (z r) (F c r)):=HMC.out;simp only[Option.getD_some] at hl;obtain⟨A,k,lo,hi,rfl,hmt⟩:=HM2.out.mtv;have HMT:=q_h (hmt.ext hE);clear HL0 HMC hmt;go_wp2_with (go_at_call 83;refine q_o ?_);refine (Vu HMT.out HZc.out.1 HZc.out.2 HZr.out.1 HZr.out.2 HHT.out).mono ?_;rintro e w2 ⟨g,cap,β,κ,rfl,hcap,ho2,e2⟩;have HO2:=q_h ho2;clear ho2;go_wp2
   first|go_ret|skip
   rw[hQ.out];refine⟨_,rfl,hE.trans e2,.inr ⟨_,_,_,_,rfl,by rw[HFS.out];exact HO2.out.mtv HO2.out.mle hcap,.inr ?_⟩⟩;have:=HBW.out;have:=hE.size;omega
end
section
theorem q4E{K M:q_m}{p:List Nat}(h:q1s n n K M p) (hl:p.length=n):Reg n K:=by
 intro x hx c hc;have h1:=JO.null (n:=n) h.there hx c hc;have hp:=q33 h.inc h.low hl
 have h2:sum n (fun d=>M c d*x d)=sum n (fun d=>dlt c d*x d):=qf fun d hd=>by
  have h3:=h.unit d (by omega) c hc;rw[hp d hd] at h3;rw[h3]
 rw[h2,zi hc] at h1;exact h1
theorem q4C{K M:q_m}{p:List Nat}(h:q1s n n K M p) (hK:Reg n K):p.length=n:=by
 have h1:=h.len
 rcases Nat.lt_or_ge p.length n with h2|h2
 ·obtain⟨c,hc,hg⟩:=q31 h.inc h2;have h3:=hK _ (WN h hc) c hc;rw[WM hg] at h3;exact absurd h3 (by decide)
 ·omega
theorem q4F (n:Nat) (K:q_m):(zI n K n).2.length=n↔Reg n K:=⟨q4E (xY n K n),q4C (xY n K n)⟩
theorem q7s (n:Nat) (K:q_m):(zI n (zg n K) n).2.length=n↔Reg n K:=by
 constructor
 ·intro h x hx c hc;obtain⟨-,h2⟩:=WZ (xY n (zg n K) n) h
  have e:sum n (fun i=>(zI n (zg n K) n).1 c (n+i)*sum n (fun d=>K i d*x d))=x c:=by
   have e1:sum n (fun i=>(zI n (zg n K) n).1 c (n+i)*sum n (fun d=>K i d*x d))=sum n (fun d=>mm n (fun a b=>(zI n (zg n K) n).1 a (n+b)) K c d*x d):=by
    rw[show sum n (fun i=>(zI n (zg n K) n).1 c (n+i)*sum n (fun d=>K i d*x d))=sum n (fun i=>sum n (fun d=>(zI n (zg n K) n).1 c (n+i)*K i d*x d)) from qf fun i _=>by rw[<-zN];exact qf fun d _=>by grind,zu];exact qf fun d _=>by unfold mm;rw[qE]
   rw[e1,show sum n (fun d=>mm n (fun a b=>(zI n (zg n K) n).1 a (n+b)) K c d*x d)=sum n (fun d=>dlt c d*x d) from qf fun d hd=>by rw[h2 c hc d hd]];exact zi hc x
  rw[<-e];exact qy fun i hi=>by rw[hx i hi];grind
 ·intro h;exact VE (xY n (zg n K) n) h
theorem q29{K:q_m}(hK:Reg n K) (b:q_v):(zI n (aug n K b) (n+1)).2.contains n=false/\∀i,i<n->sum n (fun c=>K i c*sol n (zI n (aug n K b) (n+1)).1 (zI n (aug n K b) (n+1)).2 c)=b i:=by
 have hR:=xY n (aug n K b) (n+1)
 have hno:∀s,s<(zI n (aug n K b) (n+1)).2.length->(zI n (aug n K b) (n+1)).2[s]?.getD 0≠n:=by
  intro s hs he;obtain⟨y,h1,h2⟩:=q4j hR hs he;obtain⟨h3,-⟩:=WZ (xY n (zg n K) n) ((q7s n K).2 hK)
  have hy:∀c,c<n->y c=0:=by
   intro c hc
   have e:sum n (fun d=>sum n (fun i=>y i*K i d)*(zI n (zg n K) n).1 d (n+c))=y c:=by
    have e1:sum n (fun d=>sum n (fun i=>y i*K i d)*(zI n (zg n K) n).1 d (n+c))=sum n (fun i=>y i*mm n K (fun a b=>(zI n (zg n K) n).1 a (n+b)) i c):=by
     rw[show sum n (fun d=>sum n (fun i=>y i*K i d)*(zI n (zg n K) n).1 d (n+c))=sum n (fun d=>sum n (fun i=>y i*(K i d*(zI n (zg n K) n).1 d (n+c)))) from qf fun d _=>by rw[<-qE];exact qf fun i _=>by grind,zu];exact qf fun i _=>by unfold mm;rw[zN]
    rw[e1,show sum n (fun i=>y i*mm n K (fun a b=>(zI n (zg n K) n).1 a (n+b)) i c)=sum n (fun i=>y i*dlt i c) from qf fun i hi=>by rw[h3 i hi c hc]];exact vP hc y
   rw[<-e];exact qy fun d hd=>by rw[h1 d hd];grind
  rw[qy (fun i hi=>by rw[hy i hi];grind)] at h2;exact absurd h2 (by decide)
 refine⟨?_,q4i hR hno⟩;cases hc:(zI n (aug n K b) (n+1)).2.contains n with
 | false=>rfl
 | true =>
  rw[List.contains_iff_mem] at hc;obtain⟨s,hs,he⟩:=List.getElem_of_mem hc;exact absurd (by rw[List.getElem?_eq_getElem hs];simpa using he) (hno s hs)
theorem Zm (n k:Nat) (f:q_v):sum (n+k) f=sum n f+sum k (fun j=>f (n+j)):=by
 induction k with
 | zero=>show sum n f=sum n f+0;grind
 | succ k ih=>show sum (n+k) f+f (n+k)=_;rw[ih,qN];grind
def gq (n:Nat) (A Q:q_m) (i j:Nat):Rat:=sum n (fun s=>A i s*sum n (fun t=>Q s t*A j t))
end
section
open Go.RowKit
def Mn.own (N lo m n:Nat) (X:q_m):Mn:=⟨fun v w=>∃h cap β κ hi,v=.slice (some ⟨h,0,none⟩) m cap/\cap<=maxLen/\qU N lo hi w h cap m n β κ X,fun e h=>by
  obtain⟨h,cap,β,κ,hi,h0,h1,h2⟩:=h
  exact⟨h,cap,β,κ,hi,h0,h1,h2.ext e⟩⟩
def nsv (n:Nat) (K:q_m) (b:q_v):Nat->Rat:=sol n (zI n (aug n K b) (n+1)).1 (zI n (aug n K b) (n+1)).2
theorem q4S{x:q_v}(h:w.heap[g]?=some (.cells #[s] 37 (0,0))) (h1:LsV N 0 w.heap.size w s n x) :
  MtV N 0 w.heap.size w (.slice (some ⟨g,0,none⟩) 1 1) 1 n (fun _=>x):=by
 have hl:=qF h;obtain⟨c0,-⟩:=zG h;refine⟨h1.le,q_r,_,1,rfl,q_r,by unfold maxLen;omega,fun _=>⟨g,0,rfl,Nat.zero_le _,hl,fun i hi=>?_⟩⟩;obtain rfl:i=0:=by omega
 exact⟨s,c0,h1⟩
theorem LsV.all{x:q_v}(h:LsV N lo hi w v n x):LsV N 0 w.heap.size w v n x:=LsR.wide h (Nat.zero_le _) h.2.1 (q_r)
theorem MtV.all{X:q_m}(h:MtV N lo hi w v m n X):MtV N 0 w.heap.size w v m n X:=MtR.wide h (Nat.zero_le _) h.2.1 (q_r)
def q44 (N:Nat) (w:World) (n:Nat) (x:q_v) (e:Ending) (w':World):Prop :=
 ∃g cap,e=.returned (.slice (some ⟨g,0,none⟩) n cap)/\w.heap.size<=g/\cap<=maxLen/\n<=cap/\kS N w' g cap n x/\Ext w w'
theorem q4l{x:q_v}(h:LsV N lo hi w v n x) (hn0:0<n) (hn:n<1000000) :
  Calls Tryz.prog 103 #[v] w (q44 N w n x):=by
 obtain⟨Rf,hRf⟩:=qc (q44 N w n x);rw[<-hRf.out];have hN:=h.le;obtain⟨A1,c1,rfl,hmc,hcm⟩:=h.form;obtain⟨b,off,rfl,-⟩:=LsV.addr h hn0;have hI:=h;clear h;have hnl:=fun (w:World) (a:Option Addr) (n c:Nat)=>Lib.run_eql_slice_nil (P:=Tryz.prog) w 37 35 a n c 0 0 Tryz.underlying37
 go_enter Tryz.func103,Tryz.ntmps103;go_wp2_with (at_builtin;refine q_o ?_);refine qo ?_;intro W hE hsz B0;refine vJ rfl _ _ 37 Tryz.underlying37 rfl (by rfl) (Grow.empty hN (q_r) B0 x) (by rfl) (hI.ext hE) (by omega:0+n<1000000000) ?_;rintro A' c' w2 hG ⟨g',hg',C2,-⟩;have hE2:=C2.ext hE hg';rw[Nat.zero_add] at hG ⊢;obtain⟨g,cap,hv,hg,hgs,hcm2,hnc,hrw⟩:=hG.some hn0;injection hv with e1 e2 e3
 subst e1 e3;go_wp2
 first|go_ret|skip
 rw[hRf.out];exact⟨g,c',rfl,hg,hcm2,hnc,hrw.congr (fun j hj=>by unfold cat;rw[if_neg (by omega)];rfl),hE2⟩
theorem LsV.sub{off:Nat}{x:q_v}(h:LsV N lo hi w (.slice (some ⟨b,off,none⟩) n c) n x){l r:Nat}(hl:l<r) (hr:r<=n){c':Nat}(hc:r-l<=c') (hm:c'<=maxLen) :
  LsV N lo hi w (.slice (some ⟨b,off+l*4,none⟩) (r-l) c') (r-l) (fun j=>x (l+j)):=by
 obtain⟨b',off',hA,h1,h2,hx⟩:=LsV.addr h (by omega);obtain⟨rfl,rfl⟩:b=b'/\off=off':=by injection hA with hA;injection hA with e1 e2;exact⟨e1,e2⟩
 refine⟨h.1,h.2.1,_,c',rfl,hc,hm,fun _=>⟨b,off+l*4,rfl,h1,h2,fun i hi=>?_⟩⟩;have h9:=hx (l+i) (by omega);rw[show off+(l+i)*4=off+l*4+i*4 by omega] at h9;exact h9
end
end Go.Proofs.YtflhlobiipejeaaGreat
