import Derived.Test.YtphpkhoeplcedaaGreatWoi02
set_option linter.all false
set_option maxHeartbeats 8000000
set_option maxRecDepth 100000
namespace Go.Proofs.YtphpkhoeplcedaaGreat
open Go.RowKit
variable {w w':World} {N n lo hi g i c b K:Nat} {v:Value} {l:List Nat} {q:Rat} {z:Int} {S:Sta} {R:Raw}
theorem q5m (h:zo z=false) : -1048576<=z/\z<=1048576:=by
 unfold zo at h;rw [Bool.or_eq_false_iff,decide_eq_false_iff_not,decide_eq_false_iff_not] at h;omega
theorem q5N (h:xJ S=0):KZ S:=by
 unfold xJ at h
 split at h
 ·cases h
 ·rename_i h1
  rw [Bool.or_eq_true,Bool.or_eq_true,decide_eq_true_eq,decide_eq_true_eq] at h1
  have h5:jf 5 (fun i=>zo (l5 S i))=false:=by
   cases e:jf 5 (fun i=>zo (l5 S i)) with
   | false=>rfl
   | true=>exact absurd (.inl (.inl e)) h1
  have h6:=kD.1 h5;unfold xO at h
  split at h
  ·cases h
  ·rename_i h2
   split at h
   ·cases h
   ·rename_i h3
    simp only [Bool.or_eq_true,not_or,Bool.not_eq_true] at h3;exact⟨q5m (h6 0 (by omega)),q5m (h6 1 (by omega)),q5m (h6 2 (by omega)),q5m (h6 3 (by omega)),q5m (h6 4 (by omega)),⟨by omega,by omega⟩,q5m h3.1.1.1,q5m h3.1.1.2,q5m h3.1.2,q5m h3.2,h2⟩
theorem q5C (h:l.length<=1):val l=l[0]?.getD 0:=by
 rcases l with _ | ⟨x,l⟩
 ·rfl
 ·have h2:l=[]:=List.eq_nil_of_length_eq_zero (by simpa using h);subst h2;simp [val]
theorem q5U (h:Qc R=true):R.l1.length<=1/\R.l2.length<=1:=by
 unfold Qc at h;simp only [Bool.and_eq_true,decide_eq_true_eq] at h;exact⟨h.1.1.1,h.1.1.2⟩
theorem q5V (h:Qc (raw q)=true):Ht 17 q:=by
 unfold Qc raw at h;simp only [Bool.and_eq_true,decide_eq_true_eq] at h;obtain⟨⟨⟨h1,h2⟩,h3⟩,h4⟩:=h;rw [<-q5C h1,qB] at h3;rw [<-q5C h2,qB] at h4;have h5:(2:Nat) ^ 17=131072:=by decide
 exact⟨by omega,by omega⟩
theorem q5L (h:Qc R=true):Q3 R/\RawS R:=by
 obtain⟨h1,h2⟩:=q5U h;exact⟨⟨by omega,by omega⟩,⟨by omega,by omega⟩⟩
def q5u (R:Raw):Rat:=Rat.divInt (Qk R.b1 R.l1) (Qk R.b2 R.l2)
theorem q5p (q:Rat):q5u (raw q)=q:=by
 unfold q5u raw;have h4:Qk false (dg q.den)=(q.den:Int):=by unfold Qk; rw [qB]; simp
 simp only [YZ,h4];exact Rat.num_divInt_den q
theorem q5t (h:okR R=true):R=raw (q5u R):=by
 obtain⟨q,rfl⟩:=q5P h;rw [q5p]
theorem q62 {P:Rat->Prop} {x y:Int} (hx:P (x:Rat)) (hy:P (y:Rat)) (hz:P (z:Rat)) (i:Nat):P (sp3 x y z i):=by
 unfold sp3
 split
 ·exact hx
 ·split
  ·exact hy
  ·exact hz
theorem q5W (h:KZ S) {p:Nat->Rat} (hp:∀ i,i < 3->Ht K (p i)):Ht (6*K+600) (q0H S p)/\Ht (6*K+600) (q0G S p):=by
 have h0:=q0e h hp 0 3 (by omega);have h1:=q0e h hp 1 3 (by omega);have h2:=q0e h hp 2 3 (by omega);have c1:=h.cx;have c2:=h.cy;have c3:=h.f;have hf:Ht 21 (S.f:Rat):=qy (by omega) (by omega);have hx:Ht 21 (S.cx:Rat):=qy (by omega) (by omega);have hy:Ht 21 (S.cy:Rat):=qy (by omega) (by omega);exact⟨(hx.add ((hf.div h2).mul h0)).mono (by omega),(hy.add ((hf.div h2).mul h1)).mono (by omega)⟩
theorem q6d (S:Sta) (P:Nat->Int):q3l S P 0=q0H S (fun j=>(P j:Rat)):=by
 unfold q3l q0H;rw [if_pos rfl,Rat.div_def,Rat.div_def]
 grind
theorem q6c (S:Sta) (P:Nat->Int):q3l S P 1=q0G S (fun j=>(P j:Rat)):=by
 unfold q3l q0G;rw [if_neg (by decide),Rat.div_def,Rat.div_def]
 grind
def q5y (L:List (Rat×Nat)) (i:Nat):Rat:=(L[i]?.getD (0,0)).1
theorem q5n {L:List (Rat×Nat)} {x:Rat×Nat} (h:L[i]?=some x):q5y L i=x.1:=by unfold q5y; rw [h]; rfl
theorem q5O {u:Value} {L:List (Rat×Nat)} {s:Nat} (h:Trm N w v L) (hl:L.length<=400) (hl0:0 < L.length) (hq:L[L.length - 1]?=some (q,s)) (ha:LsV N lo hi w u 9 (fun _=>0)) (hN:N<=w.heap.size) :
  Calls Tryz.prog 82 #[v,u] w (XZ N w q):=by
 obtain⟨R,hR⟩:=qf (XZ N w q);rw [<-hR.out];have HT:=q_h h;obtain⟨d,hd,hok⟩:=h;obtain⟨-,gb,gc,rfl,hnc,hcm,hnd⟩:=hd;have HNDS:=q_h hnd;have HOK:=q_h hok;have HHT:=q_h (nd_ht hok);have HQL:=q_h (q5n hq);have HQH:=q_h (nd_ht hok _ _ hq);have HLL:Hid (0 < L.length/\L.length<=400):=⟨hl0,hl⟩
 obtain⟨n,hn⟩:=qf L.length;have hl0':0 < n:=by rw [hn.out]; exact hl0
 have hl':n<=400:=by rw [hn.out]; exact hl
 rw [<-hn.out] at HNDS hnc HQL HT ⊢;obtain⟨Aa,ca,rfl,-⟩:=LsR.form ha;have HA:=q_h ha;obtain⟨ba,oa,rfl,-,-,hza⟩:=LsV.addr ha (by decide);have HZA:=q_h hza;clear ha hza hnd hok hq hl hl0;go_enter Tryz.func82,Tryz.ntmps82;go_upto_region 1 with (fail);refine ql ?_;intro w1 e1 hsz1 B4;go_wp2_with (go_at_call 29; refine q_o ?_);refine (q2g (R:=fun _=>raw (0:Rat)) (HA.out.ext e1) (fun _ _=>by exact (zW (Ht.zero.sz (by decide))))).mono ?_;rw [show allB 9 (fun _=>okR (raw (0:Rat)))=true from xe.2 (fun _ _=>kT _)];rintro e w2 ⟨rfl,e2⟩;have HE2:=q_h (e1.trans e2);replace B4:=e2.block B4;clear e1 e2;go_wp2_with (go_at_call 134; refine q_o ?_);refine (r7_Check (HT.out.ext HE2.out) HLL.out.1 HLL.out.2).mono ?_;rintro e w3 ⟨rfl,e3⟩;replace HE2:=q_h (HE2.out.trans e3);replace B4:=e3.block B4;have HW3:Hid (w.heap.size < w3.heap.size):=qI B4;clear e3 HT;go_upto_region 6 with (fail);go_wp2_with fail;refine ql ?_;intro w4 e4 hsz4 BE;go_wp2_with fail
 go_loopw [28,7] (fun iv lv wr=>∃ i:Nat,i<=n/\iv=.int .i64 (i:Int)/\∃ u,lv=u/\Grow N w3.heap.size wr u i (q5y L)/\Ext w3 wr) (fun iv _ _=>n - (intOf iv).toNat)
 case atStart=>exact⟨0,Nat.zero_le _,rfl,_,rfl,Grow.empty (by have:=HE2.out.size; omega) (q_r) BE _,e4⟩
 case round =>
  obtain⟨i,hi,rfl,u,rfl,HG1,hE1⟩:=hrel
  by_cases hlt:i < n
  case neg =>
   have t1:decide ((i:Int) < (n:Int))=false:=q_f (by omega);obtain rfl:n=i:=by omega
   obtain⟨m,hm⟩:∃ m,m+1=n:=⟨n - 1,by omega⟩
   have e1:(n:Int) - 1=(m:Int):=by omega
   have e2:(m:Int) < (n:Int):=by omega
   obtain⟨Au,cu,rfl,-⟩:=HG1.form;obtain⟨gv,ov,rfl,-,-,hx⟩:=LsV.addr (Grow.lsv HG1 (lo:=0) (Nat.zero_le _) rfl) hl0';have hat:=hx m (by omega);rw [show q5y L m=q by rw [show m=n - 1 by omega]; exact HQL.out] at hat;obtain⟨bx,Ax,nx,cx,A'x,n'x,c'x,x0,x1,x2,x3,hbx,hgx,hhx⟩:=hat.open;have B4r:=hE1.block B4;obtain⟨u0,u1,u2,u3,u4,u5,u6,u7⟩:=cells4 B4r;have hE9:=HE2.out.trans hE1;clear hat hx HG1 B4 BE hm;go_wp2;rw [hR.out];exact q5T rfl rfl rfl rfl hE9 B4r (by omega) hN hgx hhx hbx
  have t1:decide ((i:Int) < (n:Int))=true:=q_t (by omega);obtain⟨wq,hwq⟩:∃ wq,wq=wr:=⟨_,rfl⟩
  subst hwq;obtain⟨Au,cu,rfl,-⟩:=HG1.form;have HG:=q_h HG1;obtain⟨x,hx⟩:∃ x,L[i]?=some x:=⟨_,List.getElem?_eq_getElem (by rw [<-hn.out]; exact hlt)⟩
  have HXX:=q_h hx;have hok:=HOK.out i x hx;obtain⟨A1,n1,k1,A2,n2,k2,c0,c1,c2,c3,c4,c5,c6,hrv⟩:=Jg.open ((HNDS.out i hlt).ext (HE2.out.trans hE1));have HRV:=q_h hrv;obtain⟨dd,hdd⟩:∃ dd,dd=d i:=⟨_,rfl⟩
  rw [<-hdd] at hok c0 c1 c2 c3 c5 HRV;have hN3:N<=w3.heap.size:=by have:=HE2.out.size; omega
  clear hrv hx hdd B4 BE e4 hsz4;go_upto_region 10 with (fail);refine ql ?_;intro w5 e5 hsz5 B5;obtain⟨gn,hgn⟩:=qf wq.heap.size;rw [<-hgn.out] at B5 ⊢;have hgn1:wq.heap.size<=gn:=by rw [hgn.out]; exact q_r
  have hgn2:gn < w5.heap.size:=qI B5;obtain⟨f0,f1,f2,f3,f4,f5,f6⟩:=kC B5;go_upto_region 11 with (fail);refine ql ?_;intro w6 e6 hsz6 B6;obtain⟨gx,hgx⟩:=qf w5.heap.size;rw [<-hgx.out] at B6 ⊢;have hgx1:w5.heap.size<=gx:=by rw [hgx.out]; exact q_r
  have hsq:w3.heap.size<=wq.heap.size:=hE1.size;have hs5:wq.heap.size<=w5.heap.size:=e5.size;replace f0:=e6.cell f0;replace f1:=e6.cell f1;replace f2:=e6.cell f2;have HE6:=q_h (e5.trans e6);have hne:(Value.slice Au i cu).ownBlock≠some gx:=fun h=>by have:=(WY HG1 h).2; omega
  clear f3 f4 f5 f6 B5 c0 c1 c2 c3 c4 c5 c6 hgn hgx e6 e5;cases hok with
  | con k h1 h2 =>
   dsimp only at HRV f0 f1 f2
   have hB9:Ji N w6 gx (k:Rat):=by
    obtain⟨s1,t1,hv,z1,z2⟩:=HRV.out.ext HE6.out;simp only [Value.agg.injEq,Array.mk.injEq,List.cons.injEq,and_true] at hv;obtain⟨-,rfl,-,rfl⟩:=hv;exact Ji.mk B6 rfl z1 z2
   have hC9:Chg gx (gx+1) w6 w6:=Chg.refl _ _ _;clear B6 HRV;have hq9:=q_h (q5n HXX.out)
   dsimp only at hq9
   have HGq:=q_h (XG (HG.out.ext HE6.out) hC9 (by omega) hne);have hE9:=hC9.ext (hE1.trans HE6.out) (by omega);have f09:=hC9.cell f0 (by show gn < gx\/gx+1<=gn; omega);clear hne HG f0 f1 f2 hC9;obtain⟨b9,A9,k9,c9,A9',k9',c9',B9,hb9,z1,z2⟩:=hB9;obtain⟨s0,s1,s2,s3,-⟩:=cells4 B9;go_wp2_with (at_builtin; refine q_o ?_);refine ql ?_;intro wA eA hszA BA;refine vY rfl _ _ 45 Tryz.underlying45 rfl rfl (HGq.out.ext eA) rfl BA hb9 (z1.ext eA) (z2.ext eA) (by omega) ?_;rintro gB cap wB hGB ⟨g',hg',cB,-⟩ hltB;have hEB:=cB.ext (hE9.trans eA) (by have:=HW3.out; omega)
   have HGB:=q_h (hGB.congr (y:=q5y L) (fun j _=>by
    unfold upd
    by_cases h9:j=i
    ·rw [if_pos h9,h9]; exact hq9.out.symm
    ·rw [if_neg h9]))
   clear hGB cB BA eA s0 s1 s2 s3 z1 z2 B9 HGq;go_wp2;go_roundw
   case rel=>exact⟨i+1,by omega,by go_num,_,rfl,HGB.out,hEB⟩
   case measure=>simp [intOf]; omega
  | var k h1 =>
   dsimp only at HRV f0 f1 f2
   have hat:=(HZA.out k h1).ext ((HE2.out.trans hE1).trans HE6.out);obtain⟨bx,Ax,nx,cx,A'x,n'x,c'x,x0,x1,x2,x3,hbx,hgx,hhx⟩:=hat.open;obtain⟨u0,u1,u2,u3,u4,u5,u6,u7⟩:=cells4 B6;clear hat HRV;go_upto_region 29 with (fail);obtain⟨w9,E9,hB9,K9,hs9⟩:=kN (q:=0) B6 (by omega) hbx hgx hhx;rw [E9];have hC9:=K9;clear E9 K9 hs9 u0 u1 u2 u3 u4 u5 u6 u7 x0 x1 x2 x3 hbx hgx hhx B6;have hq9:=q_h (q5n HXX.out)
   dsimp only at hq9
   have HGq:=q_h (XG (HG.out.ext HE6.out) hC9 (by omega) hne);have hE9:=hC9.ext (hE1.trans HE6.out) (by omega);have f09:=hC9.cell f0 (by show gn < gx\/gx+1<=gn; omega);clear hne HG f0 f1 f2 hC9;obtain⟨b9,A9,k9,c9,A9',k9',c9',B9,hb9,z1,z2⟩:=hB9;obtain⟨s0,s1,s2,s3,-⟩:=cells4 B9;go_wp2_with (at_builtin; refine q_o ?_);refine ql ?_;intro wA eA hszA BA;refine vY rfl _ _ 45 Tryz.underlying45 rfl rfl (HGq.out.ext eA) rfl BA hb9 (z1.ext eA) (z2.ext eA) (by omega) ?_;rintro gB cap wB hGB ⟨g',hg',cB,-⟩ hltB;have hEB:=cB.ext (hE9.trans eA) (by have:=HW3.out; omega)
   have HGB:=q_h (hGB.congr (y:=q5y L) (fun j _=>by
    unfold upd
    by_cases h9:j=i
    ·rw [if_pos h9,h9]; exact hq9.out.symm
    ·rw [if_neg h9]))
   clear hGB cB BA eA s0 s1 s2 s3 z1 z2 B9 HGq;go_wp2;go_roundw
   case rel=>exact⟨i+1,by omega,by go_num,_,rfl,HGB.out,hEB⟩
   case measure=>simp [intOf]; omega
  | bin op j k x y h1 h2 h3 h4 h5 h6 h7 h8 =>
   obtain⟨xq,xs⟩:=x;obtain⟨yq,ys⟩:=y
   dsimp only at HRV f0 f1 f2 h7
   obtain⟨gv,ov,rfl,-,-,hx⟩:=LsV.addr (Grow.lsv HG.out (lo:=0) (Nat.zero_le _) rfl) (by omega);have HX:=q_h hx;clear hx HRV;have hatx:=(HX.out j (by omega)).ext HE6.out;rw [show q5y L j=xq from q5n h5] at hatx;obtain⟨nbx,Ax,nx,cx,A'x,n'x,c'x,x0,x1,x2,x3,hbx,hgx,hhx⟩:=hatx.open;have hRx:qp N w6 (.agg #[.bool nbx,.slice Ax nx cx,.bool false,.slice A'x n'x c'x]) xq:=qp.mk hbx hgx hhx;have HSx:Hid (Sz xq):=(HHT.out j _ h5).2.2.sz (by have:=(HHT.out j _ h5).2.1; dsimp only at this ⊢; omega);clear hatx hbx hgx hhx;have haty:=(HX.out k (by omega)).ext HE6.out;rw [show q5y L k=yq from q5n h6] at haty;obtain⟨nby,Ay,ny,cy,A'y,n'y,c'y,y0,y1,y2,y3,hby,hgy,hhy⟩:=haty.open;have hRy:qp N w6 (.agg #[.bool nby,.slice Ay ny cy,.bool false,.slice A'y n'y c'y]) yq:=qp.mk hby hgy hhy;have HSy:Hid (Sz yq):=(HHT.out k _ h6).2.2.sz (by have:=(HHT.out k _ h6).2.1; dsimp only at this ⊢; omega);clear haty hby hgy hhy;clear h5 h6 HX;have:op=2\/op=3\/op=4\/op=5:=by omega
   rcases this with rfl | rfl | rfl | rfl
   ·rw [show opF 2 (xq,xs).1 (yq,ys).1=xq+yq from rfl] at HXX;clear h7;go_upto_region 15 with (fail);refine jE [Mn.eq (.slice (some ⟨gv,ov,none⟩) i cu),Mn.q gn 1,Mn.i (j:Int),Mn.q gv (ov+j*4),Mn.rat N (xq),Mn.eq (.slice (some ⟨gv,ov,none⟩) i cu),Mn.q gn 2,Mn.i (k:Int),Mn.q gv (ov+k*4),Mn.rat N (yq),Mn.rat N (xq+yq),Mn.any] [some 45,some 46,some 47,some 48,some 49,some 50,some 51,some 52,some 53,some 54,some 55,none] [11] (rQ 11 1) 1 (by kernel_rfl) ?_ ?_
    ·show ∀ i,i < 12->_
     iterate 12 refine fs ?_ ?_
     ·exact fz
     all_goals intro hl; first | exact absurd hl (by decide) | (clear hl; refine stp rfl ?_; intro ac wi eI hB hA K hK)
     have o7:=oOf (hB 7) rfl
     rotate_left
     have o9:=oOf (hB 9) rfl
     rotate_left
     obtain⟨_,s46,rfl⟩:=hA 1 46;have cc0:=eI.cell f1
     rotate_left
     obtain⟨_,s45,rfl⟩:=hA 0 45;obtain⟨_,s47,rfl⟩:=hA 2 47
     rotate_left
     obtain⟨_,s48,rfl⟩:=hA 3 48;clear hB hA;have cc0:=eI.cell x0;have cc1:=eI.cell x1;have cc2:=eI.cell x2;have cc3:=eI.cell x3
     ·go_simp;exact q_k hK (hRx.ext eI)
     have o7:=oOf (hB 7) rfl
     rotate_left
     have o9:=oOf (hB 9) rfl
     rotate_left
     obtain⟨_,s51,rfl⟩:=hA 6 51;have cc0:=eI.cell f2
     rotate_left
     obtain⟨_,s50,rfl⟩:=hA 5 50;obtain⟨_,s52,rfl⟩:=hA 7 52
     rotate_left
     obtain⟨_,s53,rfl⟩:=hA 8 53;clear hB hA;have cc0:=eI.cell y0;have cc1:=eI.cell y1;have cc2:=eI.cell y2;have cc3:=eI.cell y3
     ·go_simp;exact q_k hK (hRy.ext eI)
     obtain⟨x49,s49,j49⟩:=hA 4 49;replace j49:Mn.p (Mn.rat N (xq)) x49 wi:=j49;obtain⟨x54,s54,j54⟩:=hA 9 54;replace j54:Mn.p (Mn.rat N (yq)) x54 wi:=j54;clear hB hA
     ·go_simp;refine (Yl j49 j54 HSx.out HSy.out).mono ?_;rintro e wj ⟨vj,rfl,hj,ej⟩;go_wp2_with fail;exact hK.out _ _ ej hj
     all_goals clear hB hA; go_simp; exact q_k hK rfl
    intro vals wz eZ hJ;have J55:Mn.p (Mn.rat N (xq+yq)) (vals 10) wz:=hJ 10 (by decide) (by decide);clear hJ;simp only [pr,Nat.reduceAdd]
    generalize vals 10=z55 at J55 ⊢
    obtain⟨bz,Az,kz,cz,Az',kz',cz',rfl,hbz,gz1,gz2⟩:=qp.parts J55;have D0:=eZ.block B6;obtain⟨u0,u1,u2,u3,u4,u5,u6,u7⟩:=cells4 D0;refine qh (i:=11) rfl (by kernel_rfl) (by kernel_rfl) (fun K hK=>?_);go_simp;refine hK.out _ _ ?_;clear hK K;try simp only [nr]
    refine qi (by kernel_rfl) ?_ _;obtain⟨w9,E9,hB9,K9,hs9⟩:=kN (q:=xq+yq) D0 (by omega) hbz gz1 gz2;rw [E9];have hC9:=(eZ.chg gx (gx+1)).trans K9;clear E9 K9 hs9 D0 u0 u1 u2 u3 u4 u5 u6 u7 gz1 gz2 hbz x0 x1 x2 x3 y0 y1 y2 y3 hRx hRy HSx HSy B6;have hq9:=q_h (q5n HXX.out)
    dsimp only at hq9
    have HGq:=q_h (XG (HG.out.ext HE6.out) hC9 (by omega) hne);have hE9:=hC9.ext (hE1.trans HE6.out) (by omega);have f09:=hC9.cell f0 (by show gn < gx\/gx+1<=gn; omega);clear hne HG f0 f1 f2 hC9;obtain⟨b9,A9,k9,c9,A9',k9',c9',B9,hb9,z1,z2⟩:=hB9;obtain⟨s0,s1,s2,s3,-⟩:=cells4 B9;go_wp2_with (at_builtin; refine q_o ?_);refine ql ?_;intro wA eA hszA BA;refine vY rfl _ _ 45 Tryz.underlying45 rfl rfl (HGq.out.ext eA) rfl BA hb9 (z1.ext eA) (z2.ext eA) (by omega) ?_;rintro gB cap wB hGB ⟨g',hg',cB,-⟩ hltB;have hEB:=cB.ext (hE9.trans eA) (by have:=HW3.out; omega)
    have HGB:=q_h (hGB.congr (y:=q5y L) (fun j _=>by
     unfold upd
     by_cases h9:j=i
     ·rw [if_pos h9,h9]; exact hq9.out.symm
     ·rw [if_neg h9]))
    clear hGB cB BA eA s0 s1 s2 s3 z1 z2 B9 HGq;go_wp2;go_roundw
    case rel=>exact⟨i+1,by omega,by go_num,_,rfl,HGB.out,hEB⟩
    case measure=>simp [intOf]; omega
   ·rw [show opF 3 (xq,xs).1 (yq,ys).1=xq - yq from rfl] at HXX;clear h7;go_upto_region 17 with (fail);refine jE [Mn.eq (.slice (some ⟨gv,ov,none⟩) i cu),Mn.q gn 1,Mn.i (j:Int),Mn.q gv (ov+j*4),Mn.rat N (xq),Mn.eq (.slice (some ⟨gv,ov,none⟩) i cu),Mn.q gn 2,Mn.i (k:Int),Mn.q gv (ov+k*4),Mn.rat N (yq),Mn.rat N (xq - yq),Mn.any] [some 58,some 59,some 60,some 61,some 62,some 63,some 64,some 65,some 66,some 67,some 68,none] [11] (rQ 11 1) 1 (by kernel_rfl) ?_ ?_
    ·show ∀ i,i < 12->_
     iterate 12 refine fs ?_ ?_
     ·exact fz
     all_goals intro hl; first | exact absurd hl (by decide) | (clear hl; refine stp rfl ?_; intro ac wi eI hB hA K hK)
     have o7:=oOf (hB 7) rfl
     rotate_left
     have o9:=oOf (hB 9) rfl
     rotate_left
     obtain⟨_,s59,rfl⟩:=hA 1 59;have cc0:=eI.cell f1
     rotate_left
     obtain⟨_,s58,rfl⟩:=hA 0 58;obtain⟨_,s60,rfl⟩:=hA 2 60
     rotate_left
     obtain⟨_,s61,rfl⟩:=hA 3 61;clear hB hA;have cc0:=eI.cell x0;have cc1:=eI.cell x1;have cc2:=eI.cell x2;have cc3:=eI.cell x3
     ·go_simp;exact q_k hK (hRx.ext eI)
     have o7:=oOf (hB 7) rfl
     rotate_left
     have o9:=oOf (hB 9) rfl
     rotate_left
     obtain⟨_,s64,rfl⟩:=hA 6 64;have cc0:=eI.cell f2
     rotate_left
     obtain⟨_,s63,rfl⟩:=hA 5 63;obtain⟨_,s65,rfl⟩:=hA 7 65
     rotate_left
     obtain⟨_,s66,rfl⟩:=hA 8 66;clear hB hA;have cc0:=eI.cell y0;have cc1:=eI.cell y1;have cc2:=eI.cell y2;have cc3:=eI.cell y3
     ·go_simp;exact q_k hK (hRy.ext eI)
     obtain⟨x62,s62,j62⟩:=hA 4 62;replace j62:Mn.p (Mn.rat N (xq)) x62 wi:=j62;obtain⟨x67,s67,j67⟩:=hA 9 67;replace j67:Mn.p (Mn.rat N (yq)) x67 wi:=j67;clear hB hA
     ·go_simp;refine (q2h j62 j67 HSx.out HSy.out).mono ?_;rintro e wj ⟨vj,rfl,hj,ej⟩;go_wp2_with fail;exact hK.out _ _ ej hj
     all_goals clear hB hA; go_simp; exact q_k hK rfl
    intro vals wz eZ hJ;have J68:Mn.p (Mn.rat N (xq - yq)) (vals 10) wz:=hJ 10 (by decide) (by decide);clear hJ;simp only [pr,Nat.reduceAdd]
    generalize vals 10=z68 at J68 ⊢
    obtain⟨bz,Az,kz,cz,Az',kz',cz',rfl,hbz,gz1,gz2⟩:=qp.parts J68;have D0:=eZ.block B6;obtain⟨u0,u1,u2,u3,u4,u5,u6,u7⟩:=cells4 D0;refine qh (i:=11) rfl (by kernel_rfl) (by kernel_rfl) (fun K hK=>?_);go_simp;refine hK.out _ _ ?_;clear hK K;try simp only [nr]
    refine qi (by kernel_rfl) ?_ _;obtain⟨w9,E9,hB9,K9,hs9⟩:=kN (q:=xq - yq) D0 (by omega) hbz gz1 gz2;rw [E9];have hC9:=(eZ.chg gx (gx+1)).trans K9;clear E9 K9 hs9 D0 u0 u1 u2 u3 u4 u5 u6 u7 gz1 gz2 hbz x0 x1 x2 x3 y0 y1 y2 y3 hRx hRy HSx HSy B6;have hq9:=q_h (q5n HXX.out)
    dsimp only at hq9
    have HGq:=q_h (XG (HG.out.ext HE6.out) hC9 (by omega) hne);have hE9:=hC9.ext (hE1.trans HE6.out) (by omega);have f09:=hC9.cell f0 (by show gn < gx\/gx+1<=gn; omega);clear hne HG f0 f1 f2 hC9;obtain⟨b9,A9,k9,c9,A9',k9',c9',B9,hb9,z1,z2⟩:=hB9;obtain⟨s0,s1,s2,s3,-⟩:=cells4 B9;go_wp2_with (at_builtin; refine q_o ?_);refine ql ?_;intro wA eA hszA BA;refine vY rfl _ _ 45 Tryz.underlying45 rfl rfl (HGq.out.ext eA) rfl BA hb9 (z1.ext eA) (z2.ext eA) (by omega) ?_;rintro gB cap wB hGB ⟨g',hg',cB,-⟩ hltB;have hEB:=cB.ext (hE9.trans eA) (by have:=HW3.out; omega)
    have HGB:=q_h (hGB.congr (y:=q5y L) (fun j _=>by
     unfold upd
     by_cases h9:j=i
     ·rw [if_pos h9,h9]; exact hq9.out.symm
     ·rw [if_neg h9]))
    clear hGB cB BA eA s0 s1 s2 s3 z1 z2 B9 HGq;go_wp2;go_roundw
    case rel=>exact⟨i+1,by omega,by go_num,_,rfl,HGB.out,hEB⟩
    case measure=>simp [intOf]; omega
   ·rw [show opF 4 (xq,xs).1 (yq,ys).1=xq*yq from rfl] at HXX;clear h7;go_upto_region 19 with (fail);refine jE [Mn.eq (.slice (some ⟨gv,ov,none⟩) i cu),Mn.q gn 1,Mn.i (j:Int),Mn.q gv (ov+j*4),Mn.rat N (xq),Mn.eq (.slice (some ⟨gv,ov,none⟩) i cu),Mn.q gn 2,Mn.i (k:Int),Mn.q gv (ov+k*4),Mn.rat N (yq),Mn.rat N (xq*yq),Mn.any] [some 71,some 72,some 73,some 74,some 75,some 76,some 77,some 78,some 79,some 80,some 81,none] [11] (rQ 11 1) 1 (by kernel_rfl) ?_ ?_
    ·show ∀ i,i < 12->_
     iterate 12 refine fs ?_ ?_
     ·exact fz
     all_goals intro hl; first | exact absurd hl (by decide) | (clear hl; refine stp rfl ?_; intro ac wi eI hB hA K hK)
     have o7:=oOf (hB 7) rfl
     rotate_left
     have o9:=oOf (hB 9) rfl
     rotate_left
     obtain⟨_,s72,rfl⟩:=hA 1 72;have cc0:=eI.cell f1
     rotate_left
     obtain⟨_,s71,rfl⟩:=hA 0 71;obtain⟨_,s73,rfl⟩:=hA 2 73
     rotate_left
     obtain⟨_,s74,rfl⟩:=hA 3 74;clear hB hA;have cc0:=eI.cell x0;have cc1:=eI.cell x1;have cc2:=eI.cell x2;have cc3:=eI.cell x3
     ·go_simp;exact q_k hK (hRx.ext eI)
     have o7:=oOf (hB 7) rfl
     rotate_left
     have o9:=oOf (hB 9) rfl
     rotate_left
     obtain⟨_,s77,rfl⟩:=hA 6 77;have cc0:=eI.cell f2
     rotate_left
     obtain⟨_,s76,rfl⟩:=hA 5 76;obtain⟨_,s78,rfl⟩:=hA 7 78
     rotate_left
     obtain⟨_,s79,rfl⟩:=hA 8 79;clear hB hA;have cc0:=eI.cell y0;have cc1:=eI.cell y1;have cc2:=eI.cell y2;have cc3:=eI.cell y3
     ·go_simp;exact q_k hK (hRy.ext eI)
     obtain⟨x75,s75,j75⟩:=hA 4 75;replace j75:Mn.p (Mn.rat N (xq)) x75 wi:=j75;obtain⟨x80,s80,j80⟩:=hA 9 80;replace j80:Mn.p (Mn.rat N (yq)) x80 wi:=j80;clear hB hA
     ·go_simp;refine (Ws j75 j80 HSx.out HSy.out).mono ?_;rintro e wj ⟨vj,rfl,hj,ej⟩;go_wp2_with fail;exact hK.out _ _ ej hj
     all_goals clear hB hA; go_simp; exact q_k hK rfl
    intro vals wz eZ hJ;have J81:Mn.p (Mn.rat N (xq*yq)) (vals 10) wz:=hJ 10 (by decide) (by decide);clear hJ;simp only [pr,Nat.reduceAdd]
    generalize vals 10=z81 at J81 ⊢
    obtain⟨bz,Az,kz,cz,Az',kz',cz',rfl,hbz,gz1,gz2⟩:=qp.parts J81;have D0:=eZ.block B6;obtain⟨u0,u1,u2,u3,u4,u5,u6,u7⟩:=cells4 D0;refine qh (i:=11) rfl (by kernel_rfl) (by kernel_rfl) (fun K hK=>?_);go_simp;refine hK.out _ _ ?_;clear hK K;try simp only [nr]
    refine qi (by kernel_rfl) ?_ _;obtain⟨w9,E9,hB9,K9,hs9⟩:=kN (q:=xq*yq) D0 (by omega) hbz gz1 gz2;rw [E9];have hC9:=(eZ.chg gx (gx+1)).trans K9;clear E9 K9 hs9 D0 u0 u1 u2 u3 u4 u5 u6 u7 gz1 gz2 hbz x0 x1 x2 x3 y0 y1 y2 y3 hRx hRy HSx HSy B6;have hq9:=q_h (q5n HXX.out)
    dsimp only at hq9
    have HGq:=q_h (XG (HG.out.ext HE6.out) hC9 (by omega) hne);have hE9:=hC9.ext (hE1.trans HE6.out) (by omega);have f09:=hC9.cell f0 (by show gn < gx\/gx+1<=gn; omega);clear hne HG f0 f1 f2 hC9;obtain⟨b9,A9,k9,c9,A9',k9',c9',B9,hb9,z1,z2⟩:=hB9;obtain⟨s0,s1,s2,s3,-⟩:=cells4 B9;go_wp2_with (at_builtin; refine q_o ?_);refine ql ?_;intro wA eA hszA BA;refine vY rfl _ _ 45 Tryz.underlying45 rfl rfl (HGq.out.ext eA) rfl BA hb9 (z1.ext eA) (z2.ext eA) (by omega) ?_;rintro gB cap wB hGB ⟨g',hg',cB,-⟩ hltB;have hEB:=cB.ext (hE9.trans eA) (by have:=HW3.out; omega)
    have HGB:=q_h (hGB.congr (y:=q5y L) (fun j _=>by
     unfold upd
     by_cases h9:j=i
     ·rw [if_pos h9,h9]; exact hq9.out.symm
     ·rw [if_neg h9]))
    clear hGB cB BA eA s0 s1 s2 s3 z1 z2 B9 HGq;go_wp2;go_roundw
    case rel=>exact⟨i+1,by omega,by go_num,_,rfl,HGB.out,hEB⟩
    case measure=>simp [intOf]; omega
   ·rw [show opF 5 (xq,xs).1 (yq,ys).1=xq / yq from rfl] at HXX;have H0:Hid (yq≠0):=h7 rfl;clear h7;go_upto_region 25 with (fail);refine Wh [Mn.eq (.slice (some ⟨gv,ov,none⟩) i cu),Mn.q gn 1,Mn.i (j:Int),Mn.q gv (ov+j*4),Mn.rat N (xq),Mn.eq (.slice (some ⟨gv,ov,none⟩) i cu),Mn.q gn 2,Mn.i (k:Int),Mn.q gv (ov+k*4),Mn.rat N (yq),Mn.rc N (xq / yq),Mn.rc N (xq / yq),Mn.rat N (xq / yq),Mn.i 0,Mn.blk w6.heap.size (.cells #[.bool false,.slice none 0 0,.bool false,.slice none 0 0] 29 (0,0)),Mn.any,Mn.any] [some 106,some 107,some 108,some 109,some 110,some 111,some 112,some 113,some 114,some 115,some 116,some 105,some 117,some 118,some 11,none,some 12] [15,16] [13] (rQ 15 2) 2 (by kernel_rfl) ?_ ?_ ?_
    ·show ∀ i,i < 17->_
     iterate 17 refine fs ?_ ?_
     ·exact fz
     all_goals intro hl hs; first | exact absurd hl (by decide) | exact absurd hs (by decide) | (clear hl hs; refine stp rfl ?_; intro ac wi eI hB hA K hK)
     have o7:=oOf (hB 7) rfl
     rotate_left
     have o9:=oOf (hB 9) rfl
     rotate_left
     obtain⟨_,s107,rfl⟩:=hA 1 107;have cc0:=eI.cell f1
     rotate_left
     obtain⟨_,s106,rfl⟩:=hA 0 106;obtain⟨_,s108,rfl⟩:=hA 2 108
     rotate_left
     obtain⟨_,s109,rfl⟩:=hA 3 109;clear hB hA;have cc0:=eI.cell x0;have cc1:=eI.cell x1;have cc2:=eI.cell x2;have cc3:=eI.cell x3
     ·go_simp;exact q_k hK (hRx.ext eI)
     have o7:=oOf (hB 7) rfl
     rotate_left
     have o9:=oOf (hB 9) rfl
     rotate_left
     obtain⟨_,s112,rfl⟩:=hA 6 112;have cc0:=eI.cell f2
     rotate_left
     obtain⟨_,s111,rfl⟩:=hA 5 111;obtain⟨_,s113,rfl⟩:=hA 7 113
     rotate_left
     obtain⟨_,s114,rfl⟩:=hA 8 114;clear hB hA;have cc0:=eI.cell y0;have cc1:=eI.cell y1;have cc2:=eI.cell y2;have cc3:=eI.cell y3
     ·go_simp;exact q_k hK (hRy.ext eI)
     obtain⟨x110,s110,j110⟩:=hA 4 110;replace j110:Mn.p (Mn.rat N (xq)) x110 wi:=j110;obtain⟨x115,s115,j115⟩:=hA 9 115;replace j115:Mn.p (Mn.rat N (yq)) x115 wi:=j115;clear hB hA
     ·go_simp;refine (Xk j110 j115 HSx.out HSy.out H0.out).mono ?_;rintro e wj ⟨vj,rfl,hj,ej⟩;go_wp2_with fail;exact hK.out _ _ ej ⟨vj,rfl,hj⟩
     obtain⟨x116,s116,j116⟩:=hA 10 116;replace j116:Mn.p (Mn.rc N (xq / yq)) x116 wi:=j116;clear hB hA
     ·go_simp;exact q_k hK j116
     obtain⟨x105,s105,j105⟩:=hA 11 105;replace j105:Mn.p (Mn.rc N (xq / yq)) x105 wi:=j105;clear hB hA
     ·obtain⟨vj,rfl,hj⟩:=j105;go_simp;exact q_k hK hj
     clear hB hA
     ·go_simp;refine ql ?_;intro wj ej hszj BJ;exact hK.out _ _ ej ⟨_,rfl,eI.size,BJ⟩
     all_goals clear hB hA; go_simp; exact q_k hK rfl
    ·intro i hs;have hi':i=13:=by simpa using hs
     clear hs
     rcases hi' with rfl
     ·refine sft rfl (fun _ _ _ _ h=>h) ?_;intro ac wi eI hB hA;obtain⟨x105,s105,j105⟩:=hA 11 105;replace j105:Mn.p (Mn.rc N (xq / yq)) x105 wi:=j105;clear hB hA;obtain⟨vj,rfl,hj⟩:=j105;refine⟨(.int .i64 0),.inl ⟨rfl,fun w9 _=>?_⟩,rfl⟩;go_simp
    intro vals wz eZ hJ;have J117:Mn.p (Mn.rat N (xq / yq)) (vals 12) wz:=hJ 12 (by decide) (by decide);have J118:vals 13=_:=hJ 13 (by decide) (by decide);have J11:Mn.p (Mn.blk w6.heap.size (.cells #[.bool false,.slice none 0 0,.bool false,.slice none 0 0] 29 (0,0))) (vals 14) wz:=hJ 14 (by decide) (by decide);clear hJ;simp only [pr,Nat.reduceAdd,J118];clear J118
    generalize vals 12=z117 at J117 ⊢
    generalize vals 14=z11 at J11 ⊢
    obtain⟨gX,rfl,hgX,BX⟩:=J11;obtain⟨bz,Az,kz,cz,Az',kz',cz',rfl,hbz,gz1,gz2⟩:=qp.parts J117;obtain⟨u0,u1,u2,u3,u4,u5,u6,u7⟩:=cells4 BX;refine qh (i:=15) rfl (by kernel_rfl) (by kernel_rfl) (fun K hK=>?_);go_simp;refine hK.out _ _ ?_;clear hK K;try simp only [nr]
    refine qh (i:=16) rfl (by kernel_rfl) (by kernel_rfl) (fun K hK=>?_);go_simp;refine hK.out _ _ ?_;clear hK K;try simp only [nr]
    refine qi (by kernel_rfl) ?_ _;obtain⟨w7,E7,hBX,K7,hs7⟩:=kN (q:=xq / yq) BX (by omega) hbz gz1 gz2;rw [E7];have E67:Ext w6 w7:=K7.ext eZ hgX;have D0:=E67.block B6;clear E7 K7 hs7 BX u0 u1 u2 u3 u4 u5 u6 u7 gz1 gz2 hbz x0 x1 x2 x3 y0 y1 y2 y3 hRx hRy HSx HSy B6 eZ H0;obtain⟨nz,Az,kz,cz,A'z,k'z,c'z,Bz,hbz,yz,zz⟩:=hBX;obtain⟨z0,z1,z2,z3,-⟩:=cells4 Bz;have hRz:qp N w7 (.agg #[.bool nz,.slice Az kz cz,.bool false,.slice A'z k'z c'z]) (xq / yq):=qp.mk hbz yz zz;obtain⟨u0,u1,u2,u3,u4,u5,u6,u7⟩:=cells4 D0;go_upto_region 29 with (fail);obtain⟨w9,E9,hB9,K9,hs9⟩:=kN (q:=xq / yq) D0 (by omega) hbz yz zz;rw [E9];have hC9:=(E67.chg gx (gx+1)).trans K9;clear E9 K9 hs9 D0 u0 u1 u2 u3 u4 u5 u6 u7 z0 z1 z2 z3 Bz hbz yz zz hRz;have hq9:=q_h (q5n HXX.out)
    dsimp only at hq9
    have HGq:=q_h (XG (HG.out.ext HE6.out) hC9 (by omega) hne);have hE9:=hC9.ext (hE1.trans HE6.out) (by omega);have f09:=hC9.cell f0 (by show gn < gx\/gx+1<=gn; omega);clear hne HG f0 f1 f2 hC9;obtain⟨b9,A9,k9,c9,A9',k9',c9',B9,hb9,z1,z2⟩:=hB9;obtain⟨s0,s1,s2,s3,-⟩:=cells4 B9;go_wp2_with (at_builtin; refine q_o ?_);refine ql ?_;intro wA eA hszA BA;refine vY rfl _ _ 45 Tryz.underlying45 rfl rfl (HGq.out.ext eA) rfl BA hb9 (z1.ext eA) (z2.ext eA) (by omega) ?_;rintro gB cap wB hGB ⟨g',hg',cB,-⟩ hltB;have hEB:=cB.ext (hE9.trans eA) (by have:=HW3.out; omega)
    have HGB:=q_h (hGB.congr (y:=q5y L) (fun j _=>by
     unfold upd
     by_cases h9:j=i
     ·rw [if_pos h9,h9]; exact hq9.out.symm
     ·rw [if_neg h9]))
    clear hGB cB BA eA s0 s1 s2 s3 z1 z2 B9 HGq;go_wp2;go_roundw
    case rel=>exact⟨i+1,by omega,by go_num,_,rfl,HGB.out,hEB⟩
    case measure=>simp [intOf]; omega
  | sq j x h1 h2 h3 =>
   obtain⟨xq,xs⟩:=x
   dsimp only at HRV f0 f1 f2
   obtain⟨gv,ov,rfl,-,-,hx⟩:=LsV.addr (Grow.lsv HG.out (lo:=0) (Nat.zero_le _) rfl) (by omega);have HX:=q_h hx;clear hx HRV;have hatx:=(HX.out j (by omega)).ext HE6.out;rw [show q5y L j=xq from q5n h2] at hatx;obtain⟨nbx,Ax,nx,cx,A'x,n'x,c'x,x0,x1,x2,x3,hbx,hgx,hhx⟩:=hatx.open;have hRx:qp N w6 (.agg #[.bool nbx,.slice Ax nx cx,.bool false,.slice A'x n'x c'x]) xq:=qp.mk hbx hgx hhx;have HSx:Hid (Sz xq):=(HHT.out j _ h2).2.2.sz (by have:=(HHT.out j _ h2).2.1; dsimp only at this ⊢; omega);clear hatx hbx hgx hhx;clear h2 HX;go_upto_region 23 with (fail);refine jE [Mn.eq (.slice (some ⟨gv,ov,none⟩) i cu),Mn.q gn 1,Mn.i (j:Int),Mn.q gv (ov+j*4),Mn.rat N (xq),Mn.eq (.slice (some ⟨gv,ov,none⟩) i cu),Mn.q gn 1,Mn.i (j:Int),Mn.q gv (ov+j*4),Mn.rat N (xq),Mn.rat N (xq*xq),Mn.any] [some 92,some 93,some 94,some 95,some 96,some 97,some 98,some 99,some 100,some 101,some 102,none] [11] (rQ 11 1) 1 (by kernel_rfl) ?_ ?_
   ·show ∀ i,i < 12->_
    iterate 12 refine fs ?_ ?_
    ·exact fz
    all_goals intro hl; first | exact absurd hl (by decide) | (clear hl; refine stp rfl ?_; intro ac wi eI hB hA K hK)
    have o7:=oOf (hB 7) rfl
    rotate_left
    have o9:=oOf (hB 9) rfl
    rotate_left
    obtain⟨_,s93,rfl⟩:=hA 1 93;have cc0:=eI.cell f1
    rotate_left
    obtain⟨_,s92,rfl⟩:=hA 0 92;obtain⟨_,s94,rfl⟩:=hA 2 94
    rotate_left
    obtain⟨_,s95,rfl⟩:=hA 3 95;clear hB hA;have cc0:=eI.cell x0;have cc1:=eI.cell x1;have cc2:=eI.cell x2;have cc3:=eI.cell x3
    ·go_simp;exact q_k hK (hRx.ext eI)
    have o7:=oOf (hB 7) rfl
    rotate_left
    have o9:=oOf (hB 9) rfl
    rotate_left
    obtain⟨_,s98,rfl⟩:=hA 6 98;have cc0:=eI.cell f1
    rotate_left
    obtain⟨_,s97,rfl⟩:=hA 5 97;obtain⟨_,s99,rfl⟩:=hA 7 99
    rotate_left
    obtain⟨_,s100,rfl⟩:=hA 8 100;clear hB hA;have cc0:=eI.cell x0;have cc1:=eI.cell x1;have cc2:=eI.cell x2;have cc3:=eI.cell x3
    ·go_simp;exact q_k hK (hRx.ext eI)
    obtain⟨x96,s96,j96⟩:=hA 4 96;replace j96:Mn.p (Mn.rat N (xq)) x96 wi:=j96;obtain⟨x101,s101,j101⟩:=hA 9 101;replace j101:Mn.p (Mn.rat N (xq)) x101 wi:=j101;clear hB hA
    ·go_simp;refine (Ws j96 j101 HSx.out HSx.out).mono ?_;rintro e wj ⟨vj,rfl,hj,ej⟩;go_wp2_with fail;exact hK.out _ _ ej hj
    all_goals clear hB hA; go_simp; exact q_k hK rfl
   intro vals wz eZ hJ;have J102:Mn.p (Mn.rat N (xq*xq)) (vals 10) wz:=hJ 10 (by decide) (by decide);clear hJ;simp only [pr,Nat.reduceAdd]
   generalize vals 10=z102 at J102 ⊢
   obtain⟨bz,Az,kz,cz,Az',kz',cz',rfl,hbz,gz1,gz2⟩:=qp.parts J102;have D0:=eZ.block B6;obtain⟨u0,u1,u2,u3,u4,u5,u6,u7⟩:=cells4 D0;refine qh (i:=11) rfl (by kernel_rfl) (by kernel_rfl) (fun K hK=>?_);go_simp;refine hK.out _ _ ?_;clear hK K;try simp only [nr]
   refine qi (by kernel_rfl) ?_ _;obtain⟨w9,E9,hB9,K9,hs9⟩:=kN (q:=xq*xq) D0 (by omega) hbz gz1 gz2;rw [E9];have hC9:=(eZ.chg gx (gx+1)).trans K9;clear E9 K9 hs9 D0 u0 u1 u2 u3 u4 u5 u6 u7 gz1 gz2 hbz x0 x1 x2 x3 hRx HSx B6;have hq9:=q_h (q5n HXX.out)
   dsimp only at hq9
   have HGq:=q_h (XG (HG.out.ext HE6.out) hC9 (by omega) hne);have hE9:=hC9.ext (hE1.trans HE6.out) (by omega);have f09:=hC9.cell f0 (by show gn < gx\/gx+1<=gn; omega);clear hne HG f0 f1 f2 hC9;obtain⟨b9,A9,k9,c9,A9',k9',c9',B9,hb9,z1,z2⟩:=hB9;obtain⟨s0,s1,s2,s3,-⟩:=cells4 B9;go_wp2_with (at_builtin; refine q_o ?_);refine ql ?_;intro wA eA hszA BA;refine vY rfl _ _ 45 Tryz.underlying45 rfl rfl (HGq.out.ext eA) rfl BA hb9 (z1.ext eA) (z2.ext eA) (by omega) ?_;rintro gB cap wB hGB ⟨g',hg',cB,-⟩ hltB;have hEB:=cB.ext (hE9.trans eA) (by have:=HW3.out; omega)
   have HGB:=q_h (hGB.congr (y:=q5y L) (fun j _=>by
    unfold upd
    by_cases h9:j=i
    ·rw [if_pos h9,h9]; exact hq9.out.symm
    ·rw [if_neg h9]))
   clear hGB cB BA eA s0 s1 s2 s3 z1 z2 B9 HGq;go_wp2;go_roundw
   case rel=>exact⟨i+1,by omega,by go_num,_,rfl,HGB.out,hEB⟩
   case measure=>simp [intOf]; omega
def Mn.endt (N:Nat) (x:Rat×Nat):Mn:=⟨fun v w=>Jh N w v x,fun e h=>h.ext e⟩
theorem q5v {u:Value} {s:Nat} (h:Jh N w v (q,s)) (ha:LsV N lo hi w u 9 (fun _=>0)) (hN:N<=w.heap.size) :
  Calls Tryz.prog 82 #[v,u] w (XZ N w q):=by
 obtain⟨L,h1,h2,h3,h4⟩:=h;exact q5O h1 (by omega) h3 h4 ha hN
theorem q6b {P:Nat->Int} (hb:∀ what k,-1048576<=Zb S P what k/\Zb S P what k<=1048576):∀ i,i < 3->Ht 21 ((P i:Int):Rat):=fun i _=>by
 have:=hb 1 i;have e:Zb S P 1 i=P i:=rfl;rw [e] at this;exact qy (by omega) (by omega)
theorem q5F {u:Value} (hN:N<=w.heap.size) {gs gp go:Nat} {P:Nat->Int} (hn:q0B w gs gp go S P) (hS:KZ S) (hb:∀ what k,-1048576<=Zb S P what k/\Zb S P what k<=1048576) (ha:LsV N lo hi w u 9 (fun _=>0)) :
  Calls Tryz.prog 33 #[Jc gs gp go,u] w (zG w (.bool (decide (0 < dS S (fun j=>(P j:Rat)) 2 3)))):=by
 have HN:=q_h hn;have HS:=q_h hS;have HB:=q_h hb;have HA:=q_h ha;obtain⟨Aa,ca,rfl,-⟩:=ha.form;have HSD:Hid (Sz (dS S (fun j=>(P j:Rat)) 2 3)):=(q0e hS (q6b hb) 2 3 (q_r)).sz (by decide);unfold Jc;clear hn hS hb ha;obtain⟨D,hD⟩:=qf (dS S (fun j=>(P j:Rat)) 2 3);rw [<-hD.out] at HSD ⊢;obtain⟨B,hB⟩:=qf (decide (0 < D));rw [<-hB.out];go_enter Tryz.func33,Tryz.ntmps33;go_upto_region 1 with (fail);refine ql ?_;intro w1 hE hsz B0;go_wp2_with fail
 go_loopw [5] (fun iv wr=>∃ i:Nat,i<=1/\iv=.int .i64 (i:Int)/\Ext w1 wr/\(i=1->B=true)) (fun iv _=>1 - (intOf iv).toNat)
 case atStart=>exact⟨0,Nat.zero_le _,rfl,Ext.refl _,fun h=>absurd h (by decide)⟩
 case round =>
  obtain⟨i,hi,rfl,hE1,hI⟩:=hrel;obtain⟨a0,a1,a2,a3,-⟩:=cells4 (hE1.block B0)
  by_cases hlt:i < 1
  case neg =>
   have t1:decide ((i:Int) < 1)=false:=q_f (by omega);obtain rfl:=hI (by omega);clear hI;go_wp2;go_ret;exact⟨rfl,hE.trans hE1⟩
  have t1:decide ((i:Int) < 1)=true:=q_t (by omega);clear hI;obtain rfl:i=0:=by omega
  have HNR:=HN.out.ext (hE.trans hE1);obtain⟨-,-,-,-,o0,o1,o2,o3,o4,o5,o6⟩:=HNR;have HN2:=q_h (HN.out.ext (hE.trans hE1));have HA2:=q_h (HA.out.ext (hE.trans hE1));have hN2:N<=wr.heap.size:=by have:=(hE.trans hE1).size; omega
  obtain⟨wq,hwq⟩:∃ wq,wq=wr:=⟨_,rfl⟩
  subst hwq;go_upto_region 5 with (fail);refine Wh [Mn.eq (.agg #[.int .i64 3,.slice (some ⟨gs,0,none⟩) 1 1,.slice (some ⟨gp,0,none⟩) 1 1,.slice (some ⟨go,0,none⟩) 1 1]),Mn.q w.heap.size 3,Mn.eq (.slice (some ⟨go,0,none⟩) 1 1),Mn.i 0,Mn.q go 0,Mn.eq (.agg #[.int .i64 0,.int .i64 0,.int .i64 0,.int .i64 0,.int .i64 0,.int .i64 0,.int .i64 1]),Mn.endt N (D,126),Mn.eq (.slice Aa 9 ca),Mn.rc N D,Mn.rc N D,Mn.rat N D,Mn.i 0,Mn.blk wq.heap.size (.cells #[.bool false,.slice none 0 0,.bool false,.slice none 0 0] 29 (0,0)),Mn.any,Mn.any] [some 23,some 24,some 25,some 26,some 27,some 28,some 29,some 30,some 31,some 22,some 32,some 33,some 6,none,some 7] [13,14] [11] (rQ 13 2) 2 (by kernel_rfl) ?_ ?_ ?_
  ·show ∀ i,i < 15->_
   iterate 15 refine fs ?_ ?_
   ·exact fz
   all_goals intro hl hs; first | exact absurd hl (by decide) | exact absurd hs (by decide) | (clear hl hs; refine stp rfl ?_; intro ac wi eI hB hA K hK)
   have o2:=oOf (hB 2) rfl;have cc0:=eI.cell a0;have cc1:=eI.cell a1;have cc2:=eI.cell a2;have cc3:=eI.cell a3
   rotate_left
   have o2:=oOf (hB 2) rfl
   rotate_left
   obtain⟨_,s24,rfl⟩:=hA 1 24;have cc0:=eI.cell a3
   rotate_left
   have o5:=oOf (hB 5) rfl
   rotate_left
   obtain⟨_,s25,rfl⟩:=hA 2 25;obtain⟨_,s26,rfl⟩:=hA 3 26
   rotate_left
   obtain⟨_,s27,rfl⟩:=hA 4 27;have cc0:=eI.cell o0;have cc1:=eI.cell o1;have cc2:=eI.cell o2;have cc3:=eI.cell o3;have cc4:=eI.cell o4;have cc5:=eI.cell o5;have cc6:=eI.cell o6
   rotate_left
   obtain⟨_,s23,rfl⟩:=hA 0 23;obtain⟨_,s28,rfl⟩:=hA 5 28;clear hB hA
   ·go_simp;refine (q4a (q_l hN2 eI.size) (HN2.out.ext eI) HS.out HB.out).mono ?_;rw [<-hD.out];rintro e wj ⟨vj,Lj,rfl,hj,hjl,hj0,hjx,ej⟩;go_wp2_with fail;exact hK.out _ _ ej ⟨Lj,hj,by omega,hj0,hjx⟩
   have o1:=oOf (hB 1) rfl
   rotate_left
   obtain⟨x29,s29,j29⟩:=hA 6 29;replace j29:Mn.p (Mn.endt N (D,126)) x29 wi:=j29;obtain⟨_,s30,rfl⟩:=hA 7 30;clear hB hA
   ·go_simp;refine (q5v j29 (HA2.out.ext eI) (q_l hN2 eI.size)).mono ?_;rintro e wj ⟨vj,rfl,hj,ej⟩;go_wp2_with fail;exact hK.out _ _ ej ⟨vj,rfl,hj⟩
   obtain⟨x31,s31,j31⟩:=hA 8 31;replace j31:Mn.p (Mn.rc N D) x31 wi:=j31;clear hB hA
   ·go_simp;exact q_k hK j31
   obtain⟨x22,s22,j22⟩:=hA 9 22;replace j22:Mn.p (Mn.rc N D) x22 wi:=j22;clear hB hA
   ·obtain⟨vj,rfl,hj⟩:=j22;go_simp;exact q_k hK hj
   clear hB hA
   ·go_simp;refine ql ?_;intro wj ej hszj BJ;exact hK.out _ _ ej ⟨_,rfl,eI.size,BJ⟩
   all_goals clear hB hA; go_simp; exact q_k hK rfl
  ·intro i hs;have hi':i=11:=by simpa using hs
   clear hs
   rcases hi' with rfl
   ·refine sft rfl (fun _ _ _ _ h=>h) ?_;intro ac wi eI hB hA;obtain⟨x22,s22,j22⟩:=hA 9 22;replace j22:Mn.p (Mn.rc N D) x22 wi:=j22;clear hB hA;obtain⟨vj,rfl,hj⟩:=j22;refine⟨(.int .i64 0),.inl ⟨rfl,fun w9 _=>?_⟩,rfl⟩;go_simp
  intro vals wz eZ hJ;have J32:Mn.p (Mn.rat N D) (vals 10) wz:=hJ 10 (by decide) (by decide);have J33:vals 11=_:=hJ 11 (by decide) (by decide);have J6:Mn.p (Mn.blk wq.heap.size (.cells #[.bool false,.slice none 0 0,.bool false,.slice none 0 0] 29 (0,0))) (vals 12) wz:=hJ 12 (by decide) (by decide);clear hJ;simp only [pr,Nat.reduceAdd,J33];clear J33
  generalize vals 10=z32 at J32 ⊢
  generalize vals 12=z6 at J6 ⊢
  obtain⟨gX,rfl,hgX,BX⟩:=J6;obtain⟨bz,Az,kz,cz,Az',kz',cz',rfl,hbz,gz1,gz2⟩:=qp.parts J32;obtain⟨u0,u1,u2,u3,u4,u5,u6,u7⟩:=cells4 BX;refine qh (i:=13) rfl (by kernel_rfl) (by kernel_rfl) (fun K hK=>?_);go_simp;refine hK.out _ _ ?_;clear hK K;try simp only [nr]
  refine qh (i:=14) rfl (by kernel_rfl) (by kernel_rfl) (fun K hK=>?_);go_simp;refine hK.out _ _ ?_;clear hK K;try simp only [nr]
  refine qi (by kernel_rfl) ?_ _;obtain⟨w7,E7,hBX,K7,hs7⟩:=kN (q:=D) BX (by omega) hbz gz1 gz2;rw [E7];have E67:=q_h (K7.ext eZ hgX);clear E7 K7 hs7 BX u0 u1 u2 u3 u4 u5 u6 u7 gz1 gz2 hbz eZ a0 a1 a2 a3 o0 o1 o2 o3 o4 o5 o6;obtain⟨nz,Az,kz,cz,A'z,k'z,c'z,Bz,hbz,yz,zz⟩:=hBX;obtain⟨z0,z1,z2,z3,-⟩:=cells4 Bz;have hRz:qp N w7 (.agg #[.bool nz,.slice Az kz cz,.bool false,.slice A'z k'z c'z]) (D):=qp.mk hbz yz zz;go_wp2_with (go_at_call 54; refine q_o ?_);refine (Wq hRz HSD.out).mono ?_;obtain⟨sg,hsg⟩:=qf D.num.sign;rw [<-hsg.out];rintro e w8 ⟨rfl,e8⟩;have hE8:=hE1.trans (E67.out.trans e8);clear z0 z1 z2 z3 Bz hbz yz zz hRz e8
  by_cases hpos:0 < D
  case neg =>
   have t0:decide (sg<=0)=true:=q_t (by have:=mt zi.1 hpos; rw [<-hsg.out] at this; omega);obtain rfl:B=false:=by rw [hB.out]; exact q_f hpos
   clear hpos;go_wp2;go_ret;exact⟨rfl,hE.trans hE8⟩
  have t0:decide (sg<=0)=false:=q_f (by have:=zi.2 hpos; rw [<-hsg.out] at this; omega);have HBT:Hid (B=true):=by rw [Hid,hB.out]; exact q_t hpos
  clear hpos;go_wp2;go_roundw
  case rel=>exact⟨1,by omega,by go_num,hE8,fun _=>HBT.out⟩
  case measure=>simp [intOf]
theorem q6a {x:Rat×Nat} {t:TypeId} {fr:Nat×Nat} (h:Jh N w (.slice (some ⟨b,0,none⟩) n c) x) (hg:w.heap[g]?=some (.cells #[] t fr)):b≠g:=by
 rintro rfl;obtain⟨L,⟨d,⟨h0,b',c',hv,h1,h2,h3⟩,-⟩,hl,hl0,-⟩:=h;simp only [Value.slice.injEq,Option.some.injEq,Addr.mk.injEq,and_true,true_and] at hv;obtain⟨rfl,-⟩:=hv;have:=(h3 0 hl0).1;rw [qg hg] at this;simp at this
def q5Z (N:Nat) (w:World) (x:Nat->Rat) (e:Ending) (w':World):Prop:=∃ v,e=.returned v/\LsV N 0 w'.heap.size w' v 2 x/\Ext w w'
theorem q5s {u:Value} (hN:N<=w.heap.size) {gs gp go:Nat} {P:Nat->Int} (hn:q0B w gs gp go S P) (hS:KZ S) (hb:∀ what k,-1048576<=Zb S P what k/\Zb S P what k<=1048576) (ha:LsV N lo hi w u 9 (fun _=>0)) (hz:dS S (fun j=>(P j:Rat)) 2 3≠0) :
  Calls Tryz.prog 34 #[Jc gs gp go,u] w (q5Z N w (q3l S P)):=by
 obtain⟨R,hR⟩:=qf (q5Z N w (q3l S P));rw [<-hR.out];have HN:=q_h hn;have HA:=q_h ha;have HS:=q_h hS;have HB:=q_h hb;have HZ:=q_h hz;obtain⟨Aa,ca,rfl,-⟩:=ha.form;unfold Jc;clear hn hS hb ha hz;go_enter Tryz.func34,Tryz.ntmps34;go_upto_region 1 with (fail);refine ql ?_;intro w1 hE hsz B0;go_upto_region 2 with (fail);refine ql ?_;intro w2 e2 hsz2 BE;obtain⟨a0,a1,a2,a3,-⟩:=cells4 (e2.block B0);replace hE:=hE.trans e2;go_wp2_with (go_at_call 84; refine q_o ?_);refine (q49 (N:=N) (by have:=hE.size; omega) (HN.out.ext hE) HS.out HB.out HZ.out).mono ?_;rintro e w3 ⟨gt,ct,ut,rfl,hu,e3⟩;have HU:=q_h hu;have BE3:=e3.block BE
 have HO0:Hid (∀ g,(Value.slice (some ⟨w1.heap.size,0,none⟩) 0 0).ownBlock=some g->g≠gt/\∀ k,k < 2->(ut k).ownBlock≠some g):=fun g hg=>by
  obtain rfl:w1.heap.size=g:=by simpa [Value.ownBlock] using hg
  refine⟨fun h=>?_,fun k hk h=>?_⟩
  ·have h9:=(hu 0 (by decide)).1;rw [<-h,qg BE3] at h9;simp at h9
  ·obtain⟨b,c,n,hv,-⟩:=(hu k hk).2.form;have h9:=(hu k hk).2;rw [hv] at h h9;obtain rfl:b=w1.heap.size:=by simpa [Value.ownBlock] using h
   exact q6a h9 BE3 rfl
 have HGT:Hid (gt < w3.heap.size):=cell_lt (hu 0 (by decide)).1;have HG0:Hid (Grow N w1.heap.size w3 (.slice (some ⟨w1.heap.size,0,none⟩) 0 0) 0 (q3l S P)):=Grow.empty (by have:=e2.size; have:=hE.size; omega) (q_r) (e3.block BE) _;replace hE:=hE.trans e3;have hN3:N<=w3.heap.size:=by have:=hE.size; omega
 have hw13:w.heap.size<=w1.heap.size:=by omega
 clear hu e3 e2 a0 a1 a2 a3 B0 BE BE3 hsz hsz2;go_wp2_with fail
 go_loopw [7,5] (fun iv lv wr=>∃ i:Nat,i<=2/\iv=.int .i64 (i:Int)/\∃ u,lv=u/\Grow N w1.heap.size wr u i (q3l S P)/\Hid (∀ k,k < 2->wr.cell? ⟨gt,k,none⟩=some (ut k)/\Jh N wr (ut k) (q3l S P k,255))/\Hid (∀ g,lv.ownBlock=some g->g≠gt/\∀ k,k < 2->(ut k).ownBlock≠some g)/\Ext w wr/\w3.heap.size<=wr.heap.size) (fun iv _ _=>2 - (intOf iv).toNat)
 case atStart=>exact⟨0,Nat.zero_le _,rfl,_,rfl,HG0.out,HU,HO0,hE,q_r⟩
 case round =>
  obtain⟨i,hi,rfl,u,rfl,HG1,HU1,HO1,hE1,hs1⟩:=hrel
  by_cases hlt:i < 2
  case neg =>
   have t1:decide ((i:Int) < 2)=false:=q_f (by omega);obtain rfl:i=2:=by omega
   go_wp2
   first | go_ret | skip
   rw [hR.out];exact⟨_,rfl,HG1.lsv (Nat.zero_le _) rfl,hE1⟩
  have t1:decide ((i:Int) < 2)=true:=q_t (by omega);have hi2:(i:Int) < 2:=by omega
  obtain⟨hc,ht⟩:=HU1.out i hlt;obtain⟨q,hq⟩:=qf (q3l S P i);rw [<-hq.out] at ht;have HTI:=q_h ht;obtain⟨Au,cu,rfl,-⟩:=HG1.form;have HG:=q_h HG1;have hNr:N<=wr.heap.size:=by have:=hE1.size; omega
  have HA2:=q_h (HA.out.ext hE1);obtain⟨wq,hwq⟩:∃ wq,wq=wr:=⟨_,rfl⟩
  subst hwq;clear ht HG1;obtain⟨v9,hv9⟩:=qf (ut i);rw [<-hv9.out] at hc HTI;go_wp2_with (go_at_call 82; refine q_o ?_);refine (q5v HTI.out HA2.out hNr).mono ?_;intro e w5 hh;obtain⟨b,A,n,c,A',n',c',rfl,hb,g1,g2,e5⟩:=hh.form;go_upto_region 7 with (fail);refine ql ?_;intro w6 e6 hsz6 B6;obtain⟨s0,s1,s2,s3,-⟩:=cells4 B6;clear hc;go_wp2_with (at_builtin; refine q_o ?_);refine ql ?_;intro w7 e7 hsz7 B7;have E7:=(e5.trans e6).trans e7;refine zU rfl _ _ 45 Tryz.underlying45 rfl (by rfl) (HG.out.ext E7) (by rfl) B7 hb (g1.ext (e6.trans e7)) (g2.ext (e6.trans e7)) (by omega) ?_;rintro g cap w8 g' hG8 hg' C8 hw8 hat;have hs7:=E7.size;have hgt:=HGT.out
  have hOg:g'≠gt/\∀ k,k < 2->(ut k).ownBlock≠some g':=by
   rcases hw8 with h9 | h9
   ·exact HO1.out g' h9
   ·refine⟨by omega,fun k hk h=>?_⟩;have h8:=(HU1.out k hk).2;obtain⟨b,c,n,hv,-⟩:=h8.form;rw [hv] at h8 h;obtain rfl:b=g':=by simpa [Value.ownBlock] using h
    have:=h8.lt;omega
  have hN8:N<=g':=by omega
  have HU8:Hid (∀ k,k < 2->w8.cell? ⟨gt,k,none⟩=some (ut k)/\Jh N w8 (ut k) (q3l S P k,255)):=fun k hk=>by
   obtain⟨h1,h2⟩:=HU1.out k hk;refine⟨C8.cell (E7.cell h1) (by have:=hOg.1; show gt < g'\/g'+1<=gt; omega),?_⟩;have h3:=h2.ext E7;obtain⟨b,c,n,hv,-⟩:=h2.form;have h4:=hOg.2 k hk;rw [hv] at h3 h4 ⊢;exact h3.chg C8 hN8 (fun e=>h4 (by rw [e]; rfl))
  have HO8:Hid (∀ j,(Value.slice (some ⟨g,0,none⟩) (i+1) cap).ownBlock=some j->j≠gt/\∀ k,k < 2->(ut k).ownBlock≠some j):=fun j hj=>by
   obtain rfl:g=j:=by simpa [Value.ownBlock] using hj
   rcases hat with h9 | h9
   ·exact HO1.out g h9
   ·refine⟨by omega,fun k hk h=>?_⟩;have h8:=(HU1.out k hk).2;obtain⟨b,c,n,hv,-⟩:=h8.form;rw [hv] at h8 h;obtain rfl:b=g:=by simpa [Value.ownBlock] using h
    have:=h8.lt;omega
  have HE8:Ext w w8:=C8.ext (hE1.trans E7) (by omega);have hs8:w3.heap.size<=w8.heap.size:=q_l (q_l hs1 hs7) C8.size
  have HG8:=q_h (hG8.congr (y:=q3l S P) (fun j _=>by
   unfold upd
   by_cases h9:j=i
   ·rw [if_pos h9,h9]; exact hq.out
   ·rw [if_neg h9]))
  clear hG8 C8 hw8 hat hOg E7 B7 B6 s0 s1 s2 s3 e5 e6 e7 g1 g2;go_wp2;go_roundw
  case rel=>exact⟨i+1,by omega,by go_num,_,rfl,HG8.out,HU8,HO8,HE8,hs8⟩
  case measure=>simp [intOf]; omega
theorem q5A (h:IzV N lo hi w v n (fun _=>0)) (hn:n<=10) :
  Calls Tryz.prog 75 #[v,.int .i64 1099511627776] w (zG w (.bool true)):=by
 have HI:=q_h h;obtain⟨A,c,rfl,hnc,hcm⟩:=h.form;unfold maxLen at hcm;clear h;go_enter Tryz.func75,Tryz.ntmps75;go_wp2
 go_loopw [5] (fun iv wr=>∃ i:Nat,i<=n/\iv=.int .i64 i/\Ext w wr) (fun iv _=>n - (intOf iv).toNat)
 case atStart=>exact⟨0,by omega,rfl,Ext.refl w⟩
 case round =>
  obtain⟨i,hi,rfl,hE⟩:=hrel
  by_cases hin:i < n
  case neg =>
   have hq:decide ((i:Int) < (n:Int))=false:=q_f (by omega);go_wp2;go_ret;exact⟨rfl,hE⟩
  have hin':(i:Int) < n:=by omega
  obtain⟨b,off,rfl,hx⟩:=(HI.out.ext hE).addr (by omega);have p0:=hx i hin;clear hx;go_wp2;go_roundw
  case rel=>exact⟨i+1,by omega,by go_num,hE⟩
  case measure=>simp [intOf]; omega
theorem iz3 {t:TypeId} {P:Nat->Int} (h:w.heap[g]?=some (.cells #[.int .i64 (P 0),.int .i64 (P 1),.int .i64 (P 2)] t (0,0))):IzV N 0 0 w (.slice (some ⟨g,0,none⟩) 3 3) 3 P:=by
 refine⟨rfl,some ⟨g,0,none⟩,3,rfl,q_r,by unfold maxLen; omega,fun _=>⟨g,0,rfl,fun i hi=>?_⟩⟩;rw [qg h];have hi':i=0\/i=1\/i=2:=by omega
 rcases hi' with rfl | rfl | rfl <;> rfl
theorem iz2 {t:TypeId} (h:w.heap[g]?=some (.cells #[.int .i64 0,.int .i64 0] t (0,0))):IzV N 0 0 w (.slice (some ⟨g,0,none⟩) 2 2) 2 (fun _=>0):=by
 refine⟨rfl,some ⟨g,0,none⟩,2,rfl,q_r,by unfold maxLen; omega,fun _=>⟨g,0,rfl,fun i hi=>?_⟩⟩;rw [qg h];have hi':i=0\/i=1:=by omega
 rcases hi' with rfl | rfl <;> rfl
def ptC (P:Nat->Int):Int:=if jf 3 (fun i=>zo (P i))=true then 2 else 0
theorem q5E (P:Nat->Int) :
  Calls Tryz.prog 79 #[.int .i64 3,.agg #[.int .i64 (P 0),.int .i64 (P 1),.int .i64 (P 2)]] w (zG w (.int .i64 (ptC P))):=by
 obtain⟨r,hr⟩:=qf (ptC P);rw [<-hr.out];go_enter Tryz.func79,Tryz.ntmps79;go_upto_region 1 with (fail);refine ql ?_;intro W hE hsz B0;obtain⟨p0,p1,p2,-⟩:=cells3 B0;go_wp2_with (go_at_call 75; refine q_o ?_);refine qF ?_;intro W1 hE1 hsz1 B1;refine (Wl (N:=0) (iz3 (P:=P) B1)).mono ?_;obtain⟨b,hb⟩:=qf (jf 3 (fun i=>zo (P i)));rw [<-hb.out];rintro e w2 ⟨rfl,e2⟩;have hE2:=hE.trans (hE1.trans e2);obtain⟨p0,p1,p2,-⟩:=cells3 ((hE1.trans e2).block B0);clear B1 e2 hsz1 hE1;have HR:Hid (r=if b=true then 2 else 0):=by rw [Hid,hr.out,hb.out]; rfl
 clear hr hb;cases b with
 | true =>
  obtain rfl:r=2:=HR.out;go_wp2;go_ret;exact⟨rfl,hE2⟩
 | false =>
  obtain rfl:r=0:=HR.out;go_wp2;go_ret;exact⟨rfl,hE2⟩
theorem q5w:Calls Tryz.prog 131 #[.int .i64 0,.int .i64 1] w (zG w (.bool true)):=by
 go_enter Tryz.func131,Tryz.ntmps131;go_wp2;go_ret;exact⟨rfl,Ext.refl _⟩
abbrev obV:Value:=.agg #[.int .i64 0,.int .i64 0,.int .i64 0,.int .i64 0,.int .i64 0,.int .i64 0,.int .i64 1]
theorem q5x {gs gp go:Nat}:Calls Tryz.prog 80 #[Jc gs gp go,obV] w (zG w (.bool false)):=by
 unfold Jc obV;go_enter Tryz.func80,Tryz.ntmps80;go_upto_region 1 with (fail);refine zT ?_;intro w1 hE hsz B0 B1;obtain⟨a0,a1,a2,a3,-⟩:=cells4 B0;obtain⟨b0,b1,b2,b3,b4,b5,b6⟩:=kC B1;refine jE [Mn.q w.heap.size 1,Mn.eq (.slice (some ⟨gs,0,none⟩) 1 1),Mn.i 1,Mn.q w.heap.size 2,Mn.eq (.slice (some ⟨gp,0,none⟩) 1 1),Mn.i 1,Mn.i 1,Mn.i 1] (sM [7,8,9,10,11,12,5,6]) [] (rQ 8 0) 0 (by kernel_rfl) ?_ ?_
 ·show ∀ i,i < 8->_
  iterate 8 refine fs ?_ ?_
  ·exact fz
  all_goals intro hl; clear hl; refine stp rfl ?_; intro ac wi eI hB hA K hK
  have o2:=oOf (hB 2) rfl
  rotate_left
  obtain⟨_,s7,rfl⟩:=hA 0 7;have cc0:=eI.cell a1
  rotate_left
  obtain⟨_,s8,rfl⟩:=hA 1 8
  rotate_left
  have o2:=oOf (hB 2) rfl
  rotate_left
  obtain⟨_,s10,rfl⟩:=hA 3 10;have cc0:=eI.cell a2
  rotate_left
  obtain⟨_,s11,rfl⟩:=hA 4 11
  rotate_left
  obtain⟨_,s9,rfl⟩:=hA 2 9
  rotate_left
  obtain⟨_,s12,rfl⟩:=hA 5 12
  rotate_left
  all_goals clear hB hA; go_simp; exact q_k hK rfl
 intro vals wz eZ hJ;have J5:vals 6=_:=hJ 6 (by decide) (by decide);have J6:vals 7=_:=hJ 7 (by decide) (by decide);clear hJ;simp only [pr,Nat.reduceAdd,J5,J6];clear J5 J6;refine qi (by kernel_rfl) ?_ _;obtain⟨b0,b1,b2,b3,b4,b5,b6⟩:=kC (eZ.block B1);clear a0 a1 a2 a3;go_wp2_with (go_at_call 131; refine q_o ?_);refine (q5w).mono ?_;rintro e w3 ⟨rfl,e3⟩;obtain⟨b0,b1,b2,b3,b4,b5,b6⟩:=kC ((eZ.trans e3).block B1);go_wp2_with (go_at_call 131; refine q_o ?_);refine (q5w).mono ?_;rintro e w4 ⟨rfl,e4⟩;go_wp2;go_ret;exact⟨rfl,hE.trans ((eZ.trans e3).trans e4)⟩
theorem q63:Calls Tryz.prog 81 #[.int .i64 3,obV] w (zG w (.bool false)):=by
 unfold obV;go_enter Tryz.func81,Tryz.ntmps81;go_upto_region 1 with (fail);refine ql ?_;intro w1 hE hsz B1;obtain⟨b0,b1,b2,b3,b4,b5,b6⟩:=kC B1;go_wp2;go_ret;exact⟨rfl,hE⟩
def ntC (S:Sta) (P:Nat->Int):Int:=if xJ S=0 then ptC P else xJ S
theorem q5G {gs gp go:Nat} {P:Nat->Int} (h:q0B w gs gp go S P) :
  Calls Tryz.prog 32 #[Jc gs gp go] w (zG w (.int .i64 (ntC S P))):=by
 unfold Jc;have HN:=q_h h;have HST:Hid (∀ w:World,Calls Tryz.prog 28 #[.int .i64 3,S.v] w (zG w (.int .i64 (xJ S)))):=fun w=>q2T S
 unfold Sta.v at HST;have HPT:Hid (∀ w:World,Calls Tryz.prog 79 #[.int .i64 3,.agg #[.int .i64 (P 0),.int .i64 (P 1),.int .i64 (P 2)]] w (zG w (.int .i64 (ptC P)))):=fun w=>q5E P
 obtain⟨r,hr⟩:=qf (ntC S P);rw [<-hr.out];obtain⟨sc,hsc⟩:=qf (xJ S);obtain⟨pc,hpc⟩:=qf (ptC P);have HR:Hid (r=if sc=0 then pc else sc):=by rw [Hid,hr.out,hsc.out,hpc.out]; rfl
 rw [<-hsc.out] at HST;rw [<-hpc.out] at HPT;clear h hr hsc hpc;go_enter Tryz.func32,Tryz.ntmps32;go_upto_region 1 with (fail);refine ql ?_;intro w1 hE hsz B0;obtain⟨a0,a1,a2,a3,-⟩:=cells4 B0;go_wp2_with fail
 go_loopw [3] (fun iv wr=>∃ i:Nat,i<=1/\iv=.int .i64 (i:Int)/\Ext w1 wr/\Hid (i=1->sc=0)) (fun iv _=>1 - (intOf iv).toNat)
 case atStart=>exact⟨0,Nat.zero_le _,rfl,Ext.refl _,fun h=>absurd h (by decide)⟩
 case round =>
  obtain⟨i,hi,rfl,hE1,hI⟩:=hrel;clear a0 a1 a2 a3;obtain⟨a0,a1,a2,a3,-⟩:=cells4 ((hE1).block B0)
  by_cases hlt:i < 1
  case pos =>
   have t1:decide ((i:Int) < 1)=true:=q_t (by omega);clear hI;obtain rfl:i=0:=by omega
   obtain⟨s0,s1,s2,s3,s4,s5,s6,s7,s8,s9⟩:=(HN.out.ext (hE.trans hE1)).st;simp only [Nat.zero_add] at s0 s1 s2 s3 s4 s5 s6 s7 s8 s9;obtain⟨wq,hwq⟩:∃ wq,wq=wr:=⟨_,rfl⟩
   subst hwq;go_upto_region 8 with (fail);refine jE [Mn.q w.heap.size 0,Mn.i 3,Mn.q w.heap.size 1,Mn.eq (.slice (some ⟨gs,0,none⟩) 1 1),Mn.i 0,Mn.q gs 0,Mn.eq (.agg #[.int .i64 S.ax,.int .i64 S.ay,.int .i64 S.az,.int .i64 S.qa,.int .i64 S.qb,.int .i64 S.qc,.int .i64 S.qd,.int .i64 S.f,.int .i64 S.cx,.int .i64 S.cy]),Mn.i sc,Mn.i sc] (sM [41,42,43,44,45,46,47,48,4]) [] (rQ 9 0) 0 (by kernel_rfl) ?_ ?_
   ·show ∀ i,i < 9->_
    iterate 9 refine fs ?_ ?_
    ·exact fz
    all_goals intro hl; clear hl; refine stp rfl ?_; intro ac wi eI hB hA K hK
    have o1:=oOf (hB 1) rfl
    rotate_left
    obtain⟨_,s41,rfl⟩:=hA 0 41;have cc0:=eI.cell a0
    rotate_left
    have o1:=oOf (hB 1) rfl
    rotate_left
    obtain⟨_,s43,rfl⟩:=hA 2 43;have cc0:=eI.cell a1
    rotate_left
    have o3:=oOf (hB 3) rfl
    rotate_left
    obtain⟨_,s44,rfl⟩:=hA 3 44;obtain⟨_,s45,rfl⟩:=hA 4 45
    rotate_left
    obtain⟨_,s46,rfl⟩:=hA 5 46;have cc0:=eI.cell s0;have cc1:=eI.cell s1;have cc2:=eI.cell s2;have cc3:=eI.cell s3;have cc4:=eI.cell s4;have cc5:=eI.cell s5;have cc6:=eI.cell s6;have cc7:=eI.cell s7;have cc8:=eI.cell s8;have cc9:=eI.cell s9
    rotate_left
    obtain⟨_,s42,rfl⟩:=hA 1 42;obtain⟨_,s47,rfl⟩:=hA 6 47;clear hB hA
    ·go_simp;refine (HST.out _).mono ?_;rintro e wj ⟨rfl,ej⟩;go_wp2_with fail;exact hK.out _ _ ej rfl
    obtain⟨_,s48,rfl⟩:=hA 7 48
    rotate_left
    all_goals clear hB hA; go_simp; exact q_k hK rfl
   intro vals wz eZ hJ;have J4:vals 8=_:=hJ 8 (by decide) (by decide);clear hJ;simp only [pr,Nat.reduceAdd,J4];clear J4;refine qi (by kernel_rfl) ?_ _;have hE2:=hE1.trans eZ;clear s0 s1 s2 s3 s4 s5 s6 s7 s8 s9 a0 a1 a2 a3
   by_cases h0:sc=0
   case neg =>
    have t2:(sc == 0)=false:=by simpa using h0
    have HR':Hid (r=sc):=by rw [Hid,HR.out,if_neg h0]
    clear h0;go_wp2;go_ret;rw [HR'.out];exact⟨rfl,hE.trans hE2⟩
   subst h0;go_wp2;go_roundw
   case rel=>exact⟨1,by omega,by go_num,hE2,fun _=>(by first | trivial | rfl)⟩
   case measure=>simp [intOf]
  have t1:decide ((i:Int) < 1)=false:=q_f (by omega);have hs0:sc=0:=hI.out (by omega);rw [hs0,if_pos rfl] at HR;clear hI hs0 HST hlt hi;obtain⟨wA,hwA⟩:∃ wA,wA=wr:=⟨_,rfl⟩
  subst hwA;go_wp2_with fail
  go_loopw [5] (fun iv wr=>∃ i:Nat,i<=1/\iv=.int .i64 (i:Int)/\Ext w1 wr/\Hid (i=1->pc=0)) (fun iv _=>1 - (intOf iv).toNat)
  case atStart=>exact⟨0,Nat.zero_le _,rfl,hE1,fun h=>absurd h (by decide)⟩
  case round =>
   obtain⟨i,hi,rfl,hE2,hI⟩:=hrel;clear a0 a1 a2 a3 t1;obtain⟨a0,a1,a2,a3,-⟩:=cells4 ((hE2).block B0)
   by_cases hlt:i < 1
   case pos =>
    have t1:decide ((i:Int) < 1)=true:=q_t (by omega);clear hI;obtain rfl:i=0:=by omega
    have HNB:=HN.out.ext (hE.trans hE2);have s0:=HNB.p0;have s1:=HNB.p1;have s2:=HNB.p2;obtain⟨wq,hwq⟩:∃ wq,wq=wr:=⟨_,rfl⟩
    subst hwq;clear HNB;go_upto_region 14 with (fail);refine jE [Mn.q w.heap.size 0,Mn.i 3,Mn.q w.heap.size 2,Mn.eq (.slice (some ⟨gp,0,none⟩) 1 1),Mn.i 0,Mn.q gp 0,Mn.eq (.agg #[.int .i64 (P 0),.int .i64 (P 1),.int .i64 (P 2)]),Mn.i pc,Mn.i pc] (sM [59,60,61,62,63,64,65,66,6]) [] (rQ 9 0) 0 (by kernel_rfl) ?_ ?_
    ·show ∀ i,i < 9->_
     iterate 9 refine fs ?_ ?_
     ·exact fz
     all_goals intro hl; clear hl; refine stp rfl ?_; intro ac wi eI hB hA K hK
     have o1:=oOf (hB 1) rfl
     rotate_left
     obtain⟨_,s59,rfl⟩:=hA 0 59;have cc0:=eI.cell a0
     rotate_left
     have o1:=oOf (hB 1) rfl
     rotate_left
     obtain⟨_,s61,rfl⟩:=hA 2 61;have cc0:=eI.cell a2
     rotate_left
     have o5:=oOf (hB 5) rfl
     rotate_left
     obtain⟨_,s62,rfl⟩:=hA 3 62;obtain⟨_,s63,rfl⟩:=hA 4 63
     rotate_left
     obtain⟨_,s64,rfl⟩:=hA 5 64;have cc0:=eI.cell s0;have cc1:=eI.cell s1;have cc2:=eI.cell s2
     rotate_left
     obtain⟨_,s60,rfl⟩:=hA 1 60;obtain⟨_,s65,rfl⟩:=hA 6 65;clear hB hA
     ·go_simp;refine (HPT.out _).mono ?_;rintro e wj ⟨rfl,ej⟩;go_wp2_with fail;exact hK.out _ _ ej rfl
     obtain⟨_,s66,rfl⟩:=hA 7 66
     rotate_left
     all_goals clear hB hA; go_simp; exact q_k hK rfl
    intro vals wz eZ hJ;have J6:vals 8=_:=hJ 8 (by decide) (by decide);clear hJ;simp only [pr,Nat.reduceAdd,J6];clear J6;refine qi (by kernel_rfl) ?_ _;have hE3:=hE2.trans eZ;clear s0 s1 s2 a0 a1 a2 a3
    by_cases h0:pc=0
    case neg =>
     have t2:(pc == 0)=false:=by simpa using h0
     clear h0;go_wp2;go_ret;rw [HR.out];exact⟨rfl,hE.trans hE3⟩
    subst h0;go_wp2;go_roundw
    case rel=>exact⟨1,by omega,by go_num,hE3,fun _=>(by first | trivial | rfl)⟩
    case measure=>simp [intOf]
   have t1:decide ((i:Int) < 1)=false:=q_f (by omega);have hs0:pc=0:=hI.out (by omega);rw [hs0] at HR;obtain rfl:=HR.out;clear hI hs0 HPT HR hlt hi;obtain⟨wB,hwB⟩:∃ wB,wB=wr:=⟨_,rfl⟩
   subst hwB;go_wp2_with fail
   go_loopw [7] (fun iv wr=>∃ i:Nat,i<=1/\iv=.int .i64 (i:Int)/\Ext w1 wr) (fun iv _=>1 - (intOf iv).toNat)
   case atStart=>exact⟨0,Nat.zero_le _,rfl,hE2⟩
   case round =>
    obtain⟨i,hi,rfl,hE3⟩:=hrel;clear a0 a1 a2 a3 t1;obtain⟨a0,a1,a2,a3,-⟩:=cells4 ((hE3).block B0)
    by_cases hlt:i < 1
    case neg =>
     have t1:decide ((i:Int) < 1)=false:=q_f (by omega);go_wp2;go_ret;exact⟨rfl,hE.trans hE3⟩
    have t1:decide ((i:Int) < 1)=true:=q_t (by omega);obtain rfl:i=0:=by omega
    obtain⟨-,-,-,-,o0,o1,o2,o3,o4,o5,o6⟩:=HN.out.ext (hE.trans hE3);obtain⟨wq,hwq⟩:∃ wq,wq=wr:=⟨_,rfl⟩
    subst hwq;go_upto_region 21 with (fail);refine ql ?_;intro w5 e5 hsz5 B5;clear o0 o1 o2 o3 o4 o5 o6 a0 a1 a2 a3;obtain⟨b0,b1,b2,b3,b4,b5,b6⟩:=kC B5;obtain⟨a0,a1,a2,a3,-⟩:=cells4 ((hE3.trans e5).block B0);go_wp2_with (go_at_call 80; refine q_o ?_);refine (q5x (gs:=gs) (gp:=gp) (go:=go)).mono ?_;rintro e w6 ⟨rfl,e6⟩;clear b0 b1 b2 b3 b4 b5 b6 a0 a1 a2 a3;obtain⟨b0,b1,b2,b3,b4,b5,b6⟩:=kC (e6.block B5);obtain⟨a0,a1,a2,a3,-⟩:=cells4 (((hE3.trans e5).trans e6).block B0);go_wp2_with (go_at_call 81; refine q_o ?_);refine (q63).mono ?_;rintro e w7 ⟨rfl,e7⟩;clear b0 b1 b2 b3 b4 b5 b6 a0 a1 a2 a3;have E7:=e6.trans e7;obtain⟨b0,b1,b2,b3,b4,b5,b6⟩:=kC (E7.block B5);go_wp2_with (go_at_call 75; refine q_o ?_);refine qF ?_;intro w8 e8 hsz8 B8;refine (q5A (N:=0) (iz2 B8) (by decide)).mono ?_;rintro e w9 ⟨rfl,e9⟩;clear b0 b1 b2 b3 b4 b5 b6;have E9:=E7.trans (e8.trans e9);obtain⟨b0,b1,b2,b3,b4,b5,b6⟩:=kC (E9.block B5);have hE9:=(hE3.trans e5).trans E9;clear B8 e5 e6 e7 e8 e9 E7 E9 hsz5 hsz8 B5;go_wp2_with fail
    go_loopw [9] (fun kv wr=>kv=.int .i64 0/\wr=w9) (fun _ _=>0)
    case atStart=>exact⟨rfl,rfl⟩
    case round =>
     obtain⟨rfl,rfl⟩:=hrel;go_wp2;go_roundw
     case rel=>exact⟨1,by omega,by go_num,hE9⟩
     case measure=>simp [intOf]
def ptR (R:Nat->Raw) (i:Nat):Rat:=q5u (R i)
def imC (S:Sta) (R:Nat->Raw):Int:=if xJ S=0 then (if allB 3 (fun i=>okR (R i))=true then (if 0 < dS S (ptR R) 2 3 then 0 else 20) else 1) else xJ S
def q5q (N:Nat) (w:World) (S:Sta) (R:Nat->Raw) (e:Ending) (w':World):Prop :=
 ∃ v,e=.returned (.tuple #[v,.int .i64 (imC S R)])/\(imC S R=0->PlV N w' v (raw (q0H S (ptR R))) (raw (q0G S (ptR R))))/\(imC S R≠0->v=q4h)/\Ext w w'
theorem q5q.bad {R:Nat->Raw} {c:Int} (h:imC S R=c) (h0:c≠0) (e:Ext w w'):q5q N w S R (.returned (.tuple #[q4h,.int .i64 c])) w' :=
 ⟨_,by rw [h],fun h9=>absurd (h.symm.trans h9) h0,fun _=>rfl,e⟩
theorem PtA.ptv {cs:Array Value} {R:Nat->Raw} (h:PtA N w cs R) (hb:allB 3 (fun i=>okR (R i))=true):PtV N w cs 0 (ptR R):=fun i hi=>by
 show ArV N w cs (0+i*4) (raw (q5u (R i)))
 rw [<-q5t (xe.1 hb i hi)];exact h.pt i hi
theorem q5I {cp:Array Value} {R:Nat->Raw} (hp:PtA N w cp R) (hs:∀ i,i < 3->Q3 (R i)) (hk:∀ i,i < 3->okR (R i)=true->Ht 200 (q5u (R i))) (hN:N<=w.heap.size) :
  Calls Tryz.prog 27 #[S.v,.agg cp] w (q5q N w S R):=by
 obtain⟨RR,hR⟩:=qf (q5q N w S R);rw [<-hR.out];have HP:=q_h hp;have HS:=q_h hs;have HK:=q_h hk;have HZ:Hid (cp.size=12):=hp.size;have HSC:Hid (∀ w:World,Calls Tryz.prog 73 #[S.v] w (zG w (.int .i64 (xJ S)))):=fun w=>q1j S
 unfold Sta.v at HSC ⊢;obtain⟨sc,hsc⟩:=qf (xJ S);rw [<-hsc.out] at HSC;clear hp hs hk;go_enter Tryz.func27,Tryz.ntmps27;go_upto_region 1 with (fail);refine zK ?_;intro W0 hE hsz B0 B1 B2;obtain⟨s0,s1,s2,s3,s4,s5,s6,s7,s8,s9⟩:=zD B0;go_wp2_with (go_at_call 73; refine q_o ?_);refine (HSC.out _).mono ?_;rintro e w1 ⟨rfl,e1⟩;clear s0 s1 s2 s3 s4 s5 s6 s7 s8 s9 HSC;replace B0:=e1.block B0;replace B1:=e1.block B1;replace B2:=e1.block B2;replace hE:=hE.trans e1;clear e1
 by_cases h0:sc=0
 case neg =>
  have t0:(sc == 0)=false:=by simpa using h0
  have HC:Hid (imC S R=sc/\sc≠0):=⟨by unfold imC; rw [<-hsc.out,if_neg h0],h0⟩
  clear h0 B0 B1;go_upto_region 3 with (fail);refine wp_region_lit ?_;refine wpList_plain rfl (fun K hK=>?_);go_simp;refine hK _ _ ?_;clear hK K;try simp only [nr]
  refine wpList_plain rfl (fun K hK=>?_);go_simp;refine hK _ _ ?_;clear hK K;try simp only [nr]
  refine zk rfl 31 _ _ rfl (by rfl) (by rfl) B2 Kr (by rfl:Array.size _=8) (Eq.trans ((by rfl:Array.size _=8)) (Eq.symm ((by rfl:Array.size _=8)))) (by rfl) ?_;try simp only [nr]
  intro w6 D6 U6;refine wpList_plain rfl (fun K hK=>?_);go_simp;refine hK _ _ ?_;clear hK K;try simp only [nr]
  refine wpList_nil ?_;have E6:=U6.ext hE (by omega);clear U6 B2;obtain⟨c0,c1,c2,c3,c4,c5,c6,c7⟩:=Zv D6;go_wp2;refine bodyPost_ret (v:=.tuple #[.agg #[.bool false,.slice none 0 0,.bool false,.slice none 0 0,.bool false,.slice none 0 0,.bool false,.slice none 0 0],.int .i64 sc]) ?_ rfl ?_
  ·simp [results,Tryz.results27,c0,c1,c2,c3,c4,c5,c6,c7,go_sem]
  rw [hR.out];exact q5q.bad HC.out.1 HC.out.2 E6
 subst h0;have hN1:N<=w1.heap.size:=by have:=hE.size; omega
 obtain⟨b,hb⟩:=qf (allB 3 (fun i=>okR (R i)));have hLA:=(HP.out.ext hE).ls hN1 B1;go_wp2_with (go_at_call 50; refine q_o ?_);refine (jl hLA HS.out).mono ?_;rw [<-hb.out];rintro e w2 ⟨rfl,e2⟩;replace B0:=e2.block B0;replace B1:=e2.block B1;replace B2:=e2.block B2;replace hE:=hE.trans e2;clear e2 hLA hN1;cases b with
 | false =>
  have HC:Hid (imC S R=1):=by unfold imC; rw [Hid,<-hsc.out,if_pos rfl,<-hb.out,if_neg (by decide)]
  clear B0 B1;go_upto_region 5 with (fail);refine wp_region_lit ?_;refine wpList_plain rfl (fun K hK=>?_);go_simp;refine hK _ _ ?_;clear hK K;try simp only [nr]
  refine zk rfl 31 _ _ rfl (by rfl) (by rfl) B2 Kr (by rfl:Array.size _=8) (Eq.trans ((by rfl:Array.size _=8)) (Eq.symm ((by rfl:Array.size _=8)))) (by rfl) ?_;try simp only [nr]
  intro w6 D6 U6;refine wpList_plain rfl (fun K hK=>?_);go_simp;refine hK _ _ ?_;clear hK K;try simp only [nr]
  refine wpList_nil ?_;have E6:=U6.ext hE (by omega);clear U6 B2;obtain⟨c0,c1,c2,c3,c4,c5,c6,c7⟩:=Zv D6;go_wp2;refine bodyPost_ret (v:=.tuple #[.agg #[.bool false,.slice none 0 0,.bool false,.slice none 0 0,.bool false,.slice none 0 0,.bool false,.slice none 0 0],.int .i64 1]) ?_ rfl ?_
  ·simp [results,Tryz.results27,c0,c1,c2,c3,c4,c5,c6,c7,go_sem]
  rw [hR.out];exact q5q.bad HC.out (by decide) E6
 | true =>
 have HPV:=q_h ((HP.out.ptv hb.out.symm).ext hE);have HOK:Hid (KZ S):=q5N hsc.out.symm;have HKK:Hid (∀ i,i < 3->Ht 200 (ptR R i)):=fun i hi=>HK.out i hi (xe.1 hb.out.symm i hi)
 have hN2:N<=w2.heap.size:=by have:=hE.size; omega
 obtain⟨s0,s1,s2,s3,s4,s5,s6,s7,s8,s9⟩:=zD B0;obtain⟨f,hf⟩:=qf (decide (0 < dS S (ptR R) 2 3));go_upto_region 6 with (fail);refine wp_region_lit ?_;refine wpList_plain rfl (fun K hK=>?_);go_simp;refine hK _ _ ?_;clear hK K;try simp only [nr]
 refine wpList_load_row rfl 43 _ rfl _ (by rfl) _ cp _ _ B1 Tryz.underlying43 rfl (by rw [HZ.out]; exact kJ) ?_;try simp only [nr]
 go_wp2_with (go_at_call 74; refine q_o ?_);refine (o_image (S:=S) HOK.out HZ.out HPV.out HKK.out (q_r) hN2).mono ?_;rw [<-hf.out];rintro e w3 ⟨vi,rfl,hpl,hnl,e3⟩;clear s0 s1 s2 s3 s4 s5 s6 s7 s8 s9 B0 B1;replace B2:=e3.block B2;replace hE:=hE.trans e3;cases f with
 | false =>
  have hf9:¬ 0 < dS S (ptR R) 2 3:=of_decide_eq_false hf.out.symm;obtain rfl:=hnl hf9;have HC:Hid (imC S R=20):=by unfold imC; rw [Hid,<-hsc.out,if_pos rfl,<-hb.out,if_pos rfl,if_neg hf9]
  clear hpl hnl hf9;go_upto_region 7 with (fail);refine ql ?_;intro w4 e4 hsz4 BI;replace B2:=e4.block B2;replace hE:=hE.trans e4;clear BI;go_upto_region 8 with (fail);refine wp_region_lit ?_;refine wpList_plain rfl (fun K hK=>?_);go_simp;refine hK _ _ ?_;clear hK K;try simp only [nr]
  refine zk rfl 31 _ _ rfl (by rfl) (by rfl) B2 Kr (by rfl:Array.size _=8) (Eq.trans ((by rfl:Array.size _=8)) (Eq.symm ((by rfl:Array.size _=8)))) (by rfl) ?_;try simp only [nr]
  intro w6 D6 U6;refine wpList_plain rfl (fun K hK=>?_);go_simp;refine hK _ _ ?_;clear hK K;try simp only [nr]
  refine wpList_nil ?_;have E6:=U6.ext hE (by omega);clear U6 B2;obtain⟨c0,c1,c2,c3,c4,c5,c6,c7⟩:=Zv D6;go_wp2;refine bodyPost_ret (v:=.tuple #[.agg #[.bool false,.slice none 0 0,.bool false,.slice none 0 0,.bool false,.slice none 0 0,.bool false,.slice none 0 0],.int .i64 20]) ?_ rfl ?_
  ·simp [results,Tryz.results27,c0,c1,c2,c3,c4,c5,c6,c7,go_sem]
  rw [hR.out];exact q5q.bad HC.out (by decide) E6
 | true =>
  have hf9:0 < dS S (ptR R) 2 3:=of_decide_eq_true hf.out.symm;obtain⟨I1,i1,c1',I2,i2,c2',I3,i3,c3',I4,i4,c4',rfl,hkx,hky⟩:=PlV.parts (hpl hf9);have HC:Hid (imC S R=0):=by unfold imC; rw [Hid,<-hsc.out,if_pos rfl,<-hb.out,if_pos rfl,if_pos hf9]
  clear hpl hnl hf9;have HKX:=q_h hkx;have HKY:=q_h hky;clear hkx hky;go_upto_region 7 with (fail);refine ql ?_;intro w4 e4 hsz4 BI;replace B2:=e4.block B2;replace hE:=hE.trans e4;obtain⟨v0,v1,v2,v3,v4,v5,v6,v7⟩:=Zv BI;go_upto_region 9 with (fail);refine wp_region_lit ?_;refine wpList_plain rfl (fun K hK=>?_);go_simp;refine hK _ _ ?_;clear hK K;try simp only [nr]
  clear v0 v1 v2 v3 v4 v5 v6 v7;refine zk rfl 31 _ _ rfl (by rfl) (by rfl) B2 Kr (by rfl:Array.size _=8) (Eq.trans ((by rfl:Array.size _=8)) (Eq.symm ((by rfl:Array.size _=8)))) (by rfl) ?_;try simp only [nr]
  intro w6 D6 U6;refine wpList_plain rfl (fun K hK=>?_);go_simp;refine hK _ _ ?_;clear hK K;try simp only [nr]
  refine wpList_nil ?_;have hT:=NoU.mk B2 (by decide);have hX:=(HKX.out.ext e4).upd U6 (by omega) hT;have hY:=(HKY.out.ext e4).upd U6 (by omega) hT;have E6:=U6.ext hE (by omega);clear U6 B2 BI hT;obtain⟨c0,c1,c2,c3,c4,c5,c6,c7⟩:=Zv D6;have HX:=q_h hX;have HY:=q_h hY;clear hX hY;go_wp2;refine bodyPost_ret (v:=.tuple #[.agg #[.bool (raw (q0H S (ptR R))).b1,.slice I1 i1 c1',.bool (raw (q0H S (ptR R))).b2,.slice I2 i2 c2',.bool (raw (q0G S (ptR R))).b1,.slice I3 i3 c3',.bool (raw (q0G S (ptR R))).b2,.slice I4 i4 c4'],.int .i64 0]) ?_ rfl ?_
  ·simp [results,Tryz.results27,c0,c1,c2,c3,c4,c5,c6,c7,go_sem]
  rw [hR.out];exact⟨_,by rw [HC.out],fun _=>⟨_,_,_,_,_,_,_,_,rfl,HX.out,HY.out⟩,fun h=>absurd HC.out h,E6⟩
end Go.Proofs.YtphpkhoeplcedaaGreat
