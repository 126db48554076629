import Derived.Test.YtphpkhoeplcedaaGreatWb20
import Derived.Deep.MidRow
set_option linter.all false
set_option maxHeartbeats 8000000
set_option maxRecDepth 100000
namespace Go.Proofs.YtphpkhoeplcedaaGreat
open Go.RowKit
variable {w w':World} {N n k i base c b j K:Nat} {v:Value} {S:Sta} {A:Option Addr}
theorem vS.mono {i':Nat} {p p':Nat->Rat} (h:vS N w b i p) (hi:i'<=i) (e:∀ j,j < i'->p j=p' j):vS N w b i' p':=by
 obtain⟨cs,h1,h2,h3,h4⟩:=h;exact⟨cs,h1,h2,h3,fun j hj=>by rw [<-e j hj]; exact h4 j (by omega)⟩
theorem zV {n:Int} (h : -9223372036854775808<=n) (h':n<=9223372036854775807):IntKind.i64.wrap n=n:=by
 rw [IntKind.wrap_i64];omega
def upD (S:Sta) (p:Nat->Rat) (i j k:Nat):Rat:=if k=i then dS S p i j else dS S p k 3
theorem ZH (S:Sta) (p:Nat->Rat) (i j:Nat):upD S p i j i=dS S p i j:=if_pos rfl
theorem Jl {p:Nat->Rat} (h:k < i):upD S p i j k=dS S p k 3:=if_neg (by omega)
theorem q0P {p:Nat->Rat} (h:k < i+1):upD S p i 3 k=dS S p k 3:=by
 unfold upD
 split
 ·rename_i e; rw [e]
 ·rfl
theorem vS.at4 {p:Nat->Rat} (h:vS N w b i p) (hk:k < i):At4 N w b (k*4) (raw (p k)):=by
 obtain⟨cs,h1,h2,h3,h4⟩:=h;exact (h4 k hk).at4 h1
theorem Kr:(Tryz.prog.info? 31).map (·.size)=some 8:=by kernel_rfl
theorem o_image {cp:Array Value} {p:Nat->Rat} (hS:KZ S) (hp2:cp.size=12) (hp4:PtV N w cp 0 p) (hkp:∀ i,i < 3->Ht K (p i)) (hK:K<=200) (hN:N<=w.heap.size) :
  Calls Tryz.prog 74 #[S.v,.agg cp] w (fun e w'=>∃ v,e=.returned (.tuple #[v,.bool (decide (0 < dS S p 2 3))])/\(0 < dS S p 2 3->PlV N w' v (raw (q0H S p)) (raw (q0G S p)))/\(¬ 0 < dS S p 2 3->v=q4h)/\Ext w w'):=by
 have HS:=q_h hS;have ZP:=q_h hp2;have HP:=q_h hp4;have HK:=q_h hkp;have HRB:Hid (∀ i j,-8796093022208<=jA S i j/\jA S i j<=8796093022208):=Yi hS;have HCB:Hid (∀ j,-1048576<=ww S j/\ww S j<=1048576):=Yf hS;have aa:=qP hS.qa hS.qa;have bb:=qP hS.qb hS.qb;have cc:=qP hS.qc hS.qc;have dd:=qP hS.qd hS.qd;have ab:=qP hS.qa hS.qb;have ac:=qP hS.qa hS.qc;have ad:=qP hS.qa hS.qd;have bc:=qP hS.qb hS.qc;have bd:=qP hS.qb hS.qd;have cd:=qP hS.qc hS.qd;have w1:IntKind.i64.wrap (S.qa*S.qa)=S.qa*S.qa:=zV (by omega) (by omega);have w2:IntKind.i64.wrap (S.qb*S.qb)=S.qb*S.qb:=zV (by omega) (by omega);have w3:IntKind.i64.wrap (S.qc*S.qc)=S.qc*S.qc:=zV (by omega) (by omega);have w4:IntKind.i64.wrap (S.qd*S.qd)=S.qd*S.qd:=zV (by omega) (by omega);have w5:IntKind.i64.wrap (S.qa*S.qb)=S.qa*S.qb:=zV (by omega) (by omega);have w6:IntKind.i64.wrap (S.qa*S.qc)=S.qa*S.qc:=zV (by omega) (by omega);have w7:IntKind.i64.wrap (S.qa*S.qd)=S.qa*S.qd:=zV (by omega) (by omega);have w8:IntKind.i64.wrap (S.qb*S.qc)=S.qb*S.qc:=zV (by omega) (by omega);have w9:IntKind.i64.wrap (S.qb*S.qd)=S.qb*S.qd:=zV (by omega) (by omega);have w10:IntKind.i64.wrap (S.qc*S.qd)=S.qc*S.qd:=zV (by omega) (by omega);have v1:IntKind.i64.wrap (S.qa*S.qa+S.qb*S.qb)=S.qa*S.qa+S.qb*S.qb:=zV (by omega) (by omega)
 have v2:IntKind.i64.wrap (S.qa*S.qa+S.qb*S.qb - S.qc*S.qc)=S.qa*S.qa+S.qb*S.qb - S.qc*S.qc:=zV (by omega) (by omega);have v3:IntKind.i64.wrap (S.qa*S.qa+S.qb*S.qb - S.qc*S.qc - S.qd*S.qd)=S.qa*S.qa+S.qb*S.qb - S.qc*S.qc - S.qd*S.qd:=zV (by omega) (by omega);have v4:IntKind.i64.wrap (S.qa*S.qa - S.qb*S.qb)=S.qa*S.qa - S.qb*S.qb:=zV (by omega) (by omega);have v5:IntKind.i64.wrap (S.qa*S.qa - S.qb*S.qb+S.qc*S.qc)=S.qa*S.qa - S.qb*S.qb+S.qc*S.qc:=zV (by omega) (by omega);have v6:IntKind.i64.wrap (S.qa*S.qa - S.qb*S.qb+S.qc*S.qc - S.qd*S.qd)=S.qa*S.qa - S.qb*S.qb+S.qc*S.qc - S.qd*S.qd:=zV (by omega) (by omega);have v7:IntKind.i64.wrap (S.qa*S.qa - S.qb*S.qb - S.qc*S.qc)=S.qa*S.qa - S.qb*S.qb - S.qc*S.qc:=zV (by omega) (by omega);have v8:IntKind.i64.wrap (S.qa*S.qa - S.qb*S.qb - S.qc*S.qc+S.qd*S.qd)=S.qa*S.qa - S.qb*S.qb - S.qc*S.qc+S.qd*S.qd:=zV (by omega) (by omega);have x1:IntKind.i64.wrap (S.qb*S.qc+S.qa*S.qd)=S.qb*S.qc+S.qa*S.qd:=zV (by omega) (by omega);have x2:IntKind.i64.wrap (S.qb*S.qd - S.qa*S.qc)=S.qb*S.qd - S.qa*S.qc:=zV (by omega) (by omega);have x3:IntKind.i64.wrap (S.qb*S.qc - S.qa*S.qd)=S.qb*S.qc - S.qa*S.qd:=zV (by omega) (by omega);have x4:IntKind.i64.wrap (S.qc*S.qd+S.qa*S.qb)=S.qc*S.qd+S.qa*S.qb:=zV (by omega) (by omega);have x5:IntKind.i64.wrap (S.qb*S.qd+S.qa*S.qc)=S.qb*S.qd+S.qa*S.qc:=zV (by omega) (by omega)
 have x6:IntKind.i64.wrap (S.qc*S.qd - S.qa*S.qb)=S.qc*S.qd - S.qa*S.qb:=zV (by omega) (by omega);have y1:IntKind.i64.wrap (2*(S.qb*S.qc+S.qa*S.qd))=2*(S.qb*S.qc+S.qa*S.qd):=zV (by omega) (by omega);have y2:IntKind.i64.wrap (2*(S.qb*S.qd - S.qa*S.qc))=2*(S.qb*S.qd - S.qa*S.qc):=zV (by omega) (by omega);have y3:IntKind.i64.wrap (2*(S.qb*S.qc - S.qa*S.qd))=2*(S.qb*S.qc - S.qa*S.qd):=zV (by omega) (by omega);have y4:IntKind.i64.wrap (2*(S.qc*S.qd+S.qa*S.qb))=2*(S.qc*S.qd+S.qa*S.qb):=zV (by omega) (by omega);have y5:IntKind.i64.wrap (2*(S.qb*S.qd+S.qa*S.qc))=2*(S.qb*S.qd+S.qa*S.qc):=zV (by omega) (by omega);have y6:IntKind.i64.wrap (2*(S.qc*S.qd - S.qa*S.qb))=2*(S.qc*S.qd - S.qa*S.qb):=zV (by omega) (by omega);clear aa bb cc dd ab ac ad bc bd cd hS hp2 hp4 hkp;obtain⟨d2,hd2⟩:=qf (dS S p 2 3);rw [<-hd2.out];unfold Sta.v;go_enter Tryz.func74,Tryz.ntmps74;go_upto_region 1 with (fail);refine zK ?_;intro W hE hsz B0 B1 B2;obtain⟨p0,p1,p2,p3,p4,p5,p6,p7,p8,p9⟩:=zD B0;go_upto_region 2 with (fail);refine ql ?_;intro W1 hE1 hsz1 B3;obtain⟨q0,q1,q2,q3,-⟩:=cells4 B3;go_upto_region 3 with (fail);refine ql ?_;intro W2 hE2 hsz2 B4;have B4':W2.heap[W1.heap.size]?=some (.cells #[.int .i64 (jA S 0 0),.int .i64 (jA S 0 1),.int .i64 (jA S 0 2),.int .i64 (jA S 1 0),.int .i64 (jA S 1 1),.int .i64 (jA S 1 2),.int .i64 (jA S 2 0),.int .i64 (jA S 2 1),.int .i64 (jA S 2 2)] 173 (0,0)):=B4
 obtain⟨g7,hg7⟩:∃ g7,g7=W1.heap.size:=⟨_,rfl⟩
 rw [<-hg7] at B4' ⊢;have hg7l:w.heap.size+3<=g7:=by omega
 have E02:=hE1.trans hE2;replace B0:=E02.block B0;replace B1:=E02.block B1;replace B2:=E02.block B2;replace hE:=hE.trans E02;clear p0 p1 p2 p3 p4 p5 p6 p7 p8 p9 q0 q1 q2 q3 B3 B4 hE1 hE2 E02 hsz1 w1 w2 w3 w4 w5 w6 w7 w8 w9 w10 v1 v2 v3 v4 v5 v6 v7 v8 x1 x2 x3 x4 x5 x6 y1 y2 y3 y4 y5 y6;obtain⟨p0,p1,p2,p3,p4,p5,p6,p7,p8,p9⟩:=zD B0;go_upto_region 4 with (fail);refine ql ?_;intro W3 hE3 hsz3 B5;have B5':W3.heap[W2.heap.size]?=some (.cells #[.int .i64 (ww S 0),.int .i64 (ww S 1),.int .i64 (ww S 2)] 107 (0,0)):=B5;obtain⟨g8,hg8⟩:∃ g8,g8=W2.heap.size:=⟨_,rfl⟩
 rw [<-hg8] at B5' ⊢;clear p0 p1 p2 p3 p4 p5 p6 p7 p8 p9 B5;go_upto_region 5 with (fail);refine ql ?_;intro W4 hE4 hsz4 B6;obtain⟨g9,hg9⟩:∃ g9,g9=W3.heap.size:=⟨_,rfl⟩
 rw [<-hg9] at B6 ⊢;have E24:=hE3.trans hE4;have HB0:=q_h (E24.block B0);have HB1:=q_h (E24.block B1);have HB2:=q_h (E24.block B2);have HB4:=q_h (E24.block B4');have HB5:=q_h (hE4.block B5');replace hE:=hE.trans E24;have hgl:w.heap.size+3<=g7/\g7 < g8/\g8 < g9:=by have:=qI B4'; have:=qI B5'; omega
 have hU:vS N W4 g9 0 (fun k=>dS S p k 3):=⟨_,B6,rfl,rfl,fun j hj=>absurd hj (by omega)⟩
 have hg9l:g9 < W4.heap.size:=qI B6;have hN4:N<=W4.heap.size:=by have:=hE.size; omega
 clear B0 B1 B2 B4' B5' B6 hE3 hE4 E24 hg7 hg8 hg9 hsz2 hsz3 hsz4;go_wp2
 go_loopw [170] (fun iv wr=>∃ i:Nat,i<=3/\iv=.int .i64 i/\vS N wr g9 i (fun k=>dS S p k 3)/\Chg g9 (g9+1) W4 wr) (fun iv _=>3 - (intOf iv).toNat)
 case atStart=>exact⟨0,by omega,rfl,hU,Chg.refl _ _ _⟩
 case round =>
  clear hU;obtain⟨i,hi,rfl,hU,hC⟩:=hrel
  by_cases hi3:i < 3
  case neg =>
   obtain rfl:i=3:=by omega
   have hq3:decide (((3:Nat):Int) < 3)=false:=by decide
   have hEr:Ext w wr:=hC.ext hE (by omega);have hsr:=hC.size;have hNr:N<=wr.heap.size:=by omega
   obtain⟨d0,hd0⟩:=qf (dS S p 0 3);obtain⟨d1,hd1⟩:=qf (dS S p 1 3);have hP0:=hU.at4 (k:=0) (by omega);have hP1:=hU.at4 (k:=1) (by omega);have hP2:=hU.at4 (k:=2) (by omega);rw [<-hd0.out] at hP0;rw [<-hd1.out] at hP1;rw [<-hd2.out] at hP2;have HP0:=q_h hP0;have HP1:=q_h hP1;have HP2:=q_h hP2;have hk0:Ht (3*K+205) d0:=by rw [hd0.out]; exact (q0e HS.out HK.out 0 3 (by omega)).mono (by omega)
   have hk1:Ht (3*K+205) d1:=by rw [hd1.out]; exact (q0e HS.out HK.out 1 3 (by omega)).mono (by omega)
   have hk2:Ht (3*K+205) d2:=by rw [hd2.out]; exact (q0e HS.out HK.out 2 3 (by omega)).mono (by omega)
   have HKS:Hid (Ht (3*K+205) d0/\Ht (3*K+205) d1/\Ht (3*K+205) d2):=⟨hk0,hk1,hk2⟩
   have HS2:Hid (Sz d2):=hk2.sz (by omega);have B0:=hC.blk HB0.out (.inl (by omega));have B2:=hC.blk HB2.out (.inl (by omega));clear hU hP0 hP1 hP2 hk0 hk1 hk2 hC HB0 HB1 HB2 HB4 HB5;obtain⟨ns,As,ks,cs,A's,k's,c's,s0,s1,s2,s3,hRs⟩:=(HP2.out).opn;obtain⟨sg,hsg⟩:=qf d2.num.sign;go_wp2_with (go_at_call 59; refine q_o ?_);refine (kY hRs HS2.out).mono ?_;rw [<-hsg.out];rintro e w5 ⟨rfl,e5⟩;clear s0 s1 s2 s3 hRs;replace B0:=e5.block B0;replace B2:=e5.block B2;have hE5:=hEr.trans e5;have hN5:N<=w5.heap.size:=by have:=e5.size; omega
   by_cases hpos:0 < d2
   case neg =>
    have t0:decide (sg<=0)=true:=q_t (by have:=mt zi.1 hpos; rw [<-hsg.out] at this; omega);have HN:=q_h hpos;clear hpos;go_upto_region 16 with (fail);clear t0;refine wp_region_lit ?_;refine wpList_plain rfl (fun K hK=>?_);go_simp;refine hK _ _ ?_;clear hK K;try simp only [nr]
    refine zk rfl 31 _ _ rfl (by rfl) (by rfl) B2 Kr (by rfl:Array.size _=8) (Eq.trans ((by rfl:Array.size _=8)) (Eq.symm ((by rfl:Array.size _=8)))) (by rfl) ?_;try simp only [nr]
    intro w6 D6 U6;refine wpList_plain rfl (fun K hK=>?_);go_simp;refine hK _ _ ?_;clear hK K;try simp only [nr]
    refine wpList_nil ?_;have E6:=U6.ext hE5 (by omega);clear U6 B0 B2;obtain⟨c0,c1,c2,c3,c4,c5,c6,c7⟩:=Zv D6;go_wp2;refine bodyPost_ret (v:=.tuple #[.agg #[.bool false,.slice none 0 0,.bool false,.slice none 0 0,.bool false,.slice none 0 0,.bool false,.slice none 0 0],.bool false]) ?_ rfl ?_
    ·simp [results,Tryz.results74,c0,c1,c2,c3,c4,c5,c6,c7,go_sem]
    exact⟨_,by rw [decide_eq_false HN.out],fun h=>absurd h HN.out,fun _=>rfl,E6⟩
   have t0:decide (sg<=0)=false:=q_f (by have:=zi.2 hpos; rw [<-hsg.out] at this; omega);have HPO:=q_h hpos;have HD2:Hid (d2≠0):=by rw [Hid]; grind
   clear hpos;go_upto_region 17 with (fail);clear t0;obtain⟨p0,p1,p2,p3,p4,p5,p6,p7,p8,p9⟩:=zD B0;obtain⟨ns,As,ks,cs,A's,k's,c's,s0,s1,s2,s3,hRs⟩:=((HP2.out.ext e5)).opn;have HSF:Hid (Sz (S.f:Rat)):=(qy (k:=S.f) (m:=21) (by have:=HS.out.f; omega) (by omega)).sz (by omega);have hfb:=HS.out.f;refine jE [Mn.q w.heap.size 7,Mn.i S.f,Mn.rat N ((S.f:Int):Rat),Mn.q g9 8,Mn.rat N (d2),Mn.rat N ((S.f:Rat) / d2),Mn.blk w5.heap.size (.cells #[.bool false,.slice none 0 0,.bool false,.slice none 0 0] 29 (0,0)),Mn.any] [some 207,some 208,some 209,some 210,some 211,some 212,some 12,none] [7] (rQ 7 1) 1 (by kernel_rfl) ?_ ?_
   ·show ∀ i,i < 8->_
    iterate 8 refine fs ?_ ?_
    ·exact fz
    all_goals intro hl; first | exact absurd hl (by decide) | (clear hl; refine stp rfl ?_; intro ac wi eI hB hA K hK)
    have o2:=oOf (hB 2) rfl
    rotate_left
    obtain⟨_,s207,rfl⟩:=hA 0 207;have cc0:=eI.cell p7
    rotate_left
    obtain⟨_,s208,rfl⟩:=hA 1 208;clear hB hA
    ·go_simp;refine (qW (q_l hN5 eI.size) S.f (by omega) (by omega)).mono ?_;rintro e wj ⟨vj,rfl,hj,ej⟩;go_wp2_with fail;exact hK.out _ _ ej hj
    have o9:=oOf (hB 9) rfl
    rotate_left
    obtain⟨_,s210,rfl⟩:=hA 3 210;clear hB hA;have cc0:=eI.cell s0;have cc1:=eI.cell s1;have cc2:=eI.cell s2;have cc3:=eI.cell s3
    ·go_simp;exact q_k hK (hRs.ext eI)
    obtain⟨x209,s209,j209⟩:=hA 2 209;replace j209:Mn.p (Mn.rat N ((S.f:Int):Rat)) x209 wi:=j209;obtain⟨x211,s211,j211⟩:=hA 4 211;replace j211:Mn.p (Mn.rat N (d2)) x211 wi:=j211;clear hB hA
    ·go_simp;refine (QI j209 j211 HSF.out HS2.out HD2.out).mono ?_;rintro e wj ⟨vj,rfl,hj,ej⟩;go_wp2_with fail;exact hK.out _ _ ej hj
    clear hB hA
    ·go_simp;refine ql ?_;intro wj ej hszj BJ;exact hK.out _ _ ej ⟨_,rfl,eI.size,BJ⟩
    all_goals clear hB hA; go_simp; exact q_k hK rfl
   intro vals wz eZ hJ;have J212:Mn.p (Mn.rat N ((S.f:Rat) / d2)) (vals 5) wz:=hJ 5 (by decide) (by decide);have J12:Mn.p (Mn.blk w5.heap.size (.cells #[.bool false,.slice none 0 0,.bool false,.slice none 0 0] 29 (0,0))) (vals 6) wz:=hJ 6 (by decide) (by decide);clear hJ;simp only [pr,Nat.reduceAdd]
   generalize vals 5=z212 at J212 ⊢
   generalize vals 6=z12 at J12 ⊢
   obtain⟨gF,rfl,hgF,BF⟩:=J12;obtain⟨bz,Az,kz,cz,Az',kz',cz',rfl,hbz,gz1,gz2⟩:=qp.parts J212;obtain⟨y0,y1,y2,y3,y4,y5,y6,y7⟩:=cells4 BF;refine qh (i:=7) rfl (by kernel_rfl) (by kernel_rfl) (fun K hK=>?_);go_simp;refine hK.out _ _ ?_;clear hK K;try simp only [nr]
   refine qi (by kernel_rfl) ?_ _;obtain⟨w7,E7,hBF,K7,hs7⟩:=kN (q:=(S.f:Rat) / d2) BF (by omega) hbz gz1 gz2;rw [E7];have E57:Ext w5 w7:=K7.ext eZ hgF;obtain⟨fr,hfr⟩:=qf ((S.f:Rat) / d2);rw [<-hfr.out] at hBF;clear y0 y1 y2 y3 y4 y5 y6 y7 E7 K7 BF hs7 hbz gz1 gz2 eZ s0 s1 s2 s3 hRs p0 p1 p2 p3 p4 p5 p6 p7 p8 p9;have E7r:=e5.trans E57;have hE7:=hE5.trans E57;have hN7:N<=w7.heap.size:=by have:=E57.size; omega
   replace B2:=E57.block B2;obtain⟨p0,p1,p2,p3,p4,p5,p6,p7,p8,p9⟩:=zD (E57.block B0);have hkf:Ht (3*K+226) fr:=by rw [hfr.out]; exact ((qy (k:=S.f) (m:=21) (by omega) (by omega)).div HKS.out.2.2).mono (by omega)
   have h0:=hkf.mul HKS.out.1;have h1:=hkf.mul HKS.out.2.1;have HSZ:Hid (Sz fr/\Sz d0/\Sz d1/\Sz (fr*d0)/\Sz (fr*d1)):=⟨hkf.sz (by omega),HKS.out.1.sz (by omega),HKS.out.2.1.sz (by omega),h0.sz (by omega),h1.sz (by omega)⟩
   have hcx:=HS.out.cx;have hcy:=HS.out.cy;have HSC:Hid (Sz (S.cx:Rat)/\Sz (S.cy:Rat)):=⟨(qy (k:=S.cx) (m:=21) (by omega) (by omega)).sz (by omega),(qy (k:=S.cy) (m:=21) (by omega) (by omega)).sz (by omega)⟩
   have HX:Hid ((S.cx:Rat)+fr*d0=q0H S p/\(S.cy:Rat)+fr*d1=q0G S p):=by
    unfold q0H q0G;rw [Hid,hfr.out,hd0.out,hd1.out,hd2.out];exact⟨rfl,rfl⟩
   clear hkf h0 h1;obtain⟨ns,As,ks,cs,A's,k's,c's,s0,s1,s2,s3,hRs⟩:=((HP0.out.ext E7r)).opn;obtain⟨nt,At,kt,ct,A't,k't,c't,t0,t1,t2,t3,hRt⟩:=((HP1.out.ext E7r)).opn;obtain⟨nq,Aq,kq,cq,A'q,k'q,c'q,Bq,hbq,yq,zq⟩:=hBF;obtain⟨q0,q1,q2,q3,-⟩:=cells4 Bq;have hRq:qp N w7 (.agg #[.bool nq,.slice Aq kq cq,.bool false,.slice A'q k'q c'q]) (fr):=qp.mk hbq yq zq;simp only [Nat.zero_mul,Nat.one_mul,Nat.reduceMul,Nat.reduceAdd,Nat.add_zero,Nat.zero_add] at s0 s1 s2 s3 t0 t1 t2 t3;go_upto_region 18 with (fail);refine jE [Mn.q w.heap.size 8,Mn.q w.heap.size 8,Mn.i S.cx,Mn.rat N ((S.cx:Int):Rat),Mn.rat N (fr),Mn.q g9 0,Mn.rat N (d0),Mn.rat N (fr*d0),Mn.rat N ((S.cx:Rat)+fr*d0),Mn.q w.heap.size 8,Mn.q w.heap.size 9,Mn.i S.cy,Mn.rat N ((S.cy:Int):Rat),Mn.rat N (fr),Mn.q g9 4,Mn.rat N (d1),Mn.rat N (fr*d1),Mn.rat N ((S.cy:Rat)+fr*d1),Mn.pl N ((S.cx:Rat)+fr*d0) ((S.cy:Rat)+fr*d1),Mn.any,Mn.any] [some 213,some 214,some 215,some 216,some 217,some 218,some 219,some 220,some 221,some 222,some 223,some 224,some 225,some 226,some 227,some 228,some 229,some 230,some 231,none,some 5] [19,20] (rQ 19 2) 2 (by kernel_rfl) ?_ ?_
   ·show ∀ i,i < 21->_
    iterate 21 refine fs ?_ ?_
    ·exact fz
    all_goals intro hl; first | exact absurd hl (by decide) | (clear hl; refine stp rfl ?_; intro ac wi eI hB hA K hK)
    have o2:=oOf (hB 2) rfl
    rotate_left
    obtain⟨_,s213,rfl⟩:=hA 0 213
    rotate_left
    obtain⟨_,s214,rfl⟩:=hA 1 214;have cc0:=eI.cell p8
    rotate_left
    obtain⟨_,s215,rfl⟩:=hA 2 215;clear hB hA
    ·go_simp;refine (qW (q_l hN7 eI.size) S.cx (by omega) (by omega)).mono ?_;rintro e wj ⟨vj,rfl,hj,ej⟩;go_wp2_with fail;exact hK.out _ _ ej hj
    have o12:=oOf (hB 12) rfl;clear hB hA;have cc0:=eI.cell q0;have cc1:=eI.cell q1;have cc2:=eI.cell q2;have cc3:=eI.cell q3
    ·go_simp;exact q_k hK (hRq.ext eI)
    have o9:=oOf (hB 9) rfl
    rotate_left
    obtain⟨_,s218,rfl⟩:=hA 5 218;clear hB hA;have cc0:=eI.cell s0;have cc1:=eI.cell s1;have cc2:=eI.cell s2;have cc3:=eI.cell s3
    ·go_simp;exact q_k hK (hRs.ext eI)
    obtain⟨x217,s217,j217⟩:=hA 4 217;replace j217:Mn.p (Mn.rat N (fr)) x217 wi:=j217;obtain⟨x219,s219,j219⟩:=hA 6 219;replace j219:Mn.p (Mn.rat N (d0)) x219 wi:=j219;clear hB hA
    ·go_simp;refine (ZW j217 j219 HSZ.out.1 HSZ.out.2.1).mono ?_;rintro e wj ⟨vj,rfl,hj,ej⟩;go_wp2_with fail;exact hK.out _ _ ej hj
    obtain⟨x216,s216,j216⟩:=hA 3 216;replace j216:Mn.p (Mn.rat N ((S.cx:Int):Rat)) x216 wi:=j216;obtain⟨x220,s220,j220⟩:=hA 7 220;replace j220:Mn.p (Mn.rat N (fr*d0)) x220 wi:=j220;clear hB hA
    ·go_simp;refine (Xy j216 j220 HSC.out.1 HSZ.out.2.2.2.1).mono ?_;rintro e wj ⟨vj,rfl,hj,ej⟩;go_wp2_with fail;exact hK.out _ _ ej hj
    have o2:=oOf (hB 2) rfl
    rotate_left
    obtain⟨_,s222,rfl⟩:=hA 9 222
    rotate_left
    obtain⟨_,s223,rfl⟩:=hA 10 223;have cc0:=eI.cell p9
    rotate_left
    obtain⟨_,s224,rfl⟩:=hA 11 224;clear hB hA
    ·go_simp;refine (qW (q_l hN7 eI.size) S.cy (by omega) (by omega)).mono ?_;rintro e wj ⟨vj,rfl,hj,ej⟩;go_wp2_with fail;exact hK.out _ _ ej hj
    have o12:=oOf (hB 12) rfl;clear hB hA;have cc0:=eI.cell q0;have cc1:=eI.cell q1;have cc2:=eI.cell q2;have cc3:=eI.cell q3
    ·go_simp;exact q_k hK (hRq.ext eI)
    have o9:=oOf (hB 9) rfl
    rotate_left
    obtain⟨_,s227,rfl⟩:=hA 14 227;clear hB hA;have cc0:=eI.cell t0;have cc1:=eI.cell t1;have cc2:=eI.cell t2;have cc3:=eI.cell t3
    ·go_simp;exact q_k hK (hRt.ext eI)
    obtain⟨x226,s226,j226⟩:=hA 13 226;replace j226:Mn.p (Mn.rat N (fr)) x226 wi:=j226;obtain⟨x228,s228,j228⟩:=hA 15 228;replace j228:Mn.p (Mn.rat N (d1)) x228 wi:=j228;clear hB hA
    ·go_simp;refine (ZW j226 j228 HSZ.out.1 HSZ.out.2.2.1).mono ?_;rintro e wj ⟨vj,rfl,hj,ej⟩;go_wp2_with fail;exact hK.out _ _ ej hj
    obtain⟨x225,s225,j225⟩:=hA 12 225;replace j225:Mn.p (Mn.rat N ((S.cy:Int):Rat)) x225 wi:=j225;obtain⟨x229,s229,j229⟩:=hA 16 229;replace j229:Mn.p (Mn.rat N (fr*d1)) x229 wi:=j229;clear hB hA
    ·go_simp;refine (Xy j225 j229 HSC.out.2 HSZ.out.2.2.2.2).mono ?_;rintro e wj ⟨vj,rfl,hj,ej⟩;go_wp2_with fail;exact hK.out _ _ ej hj
    obtain⟨x221,s221,j221⟩:=hA 8 221;replace j221:Mn.p (Mn.rat N ((S.cx:Rat)+fr*d0)) x221 wi:=j221;obtain⟨x230,s230,j230⟩:=hA 17 230;replace j230:Mn.p (Mn.rat N ((S.cy:Rat)+fr*d1)) x230 wi:=j230;clear hB hA
    ·obtain⟨ba,Aa,ka,ca,A'a,k'a,c'a,rfl,-,-,-⟩:=qp.parts j221;obtain⟨bb,Ab,kb,cb,A'b,k'b,c'b,rfl,-,-,-⟩:=qp.parts j230;go_simp;exact q_k hK (q2X j221 j230)
    all_goals clear hB hA; go_simp; exact q_k hK rfl
   intro vals wz eZ hJ;have J231:Mn.p (Mn.pl N ((S.cx:Rat)+fr*d0) ((S.cy:Rat)+fr*d1)) (vals 18) wz:=hJ 18 (by decide) (by decide);clear hJ;simp only [pr,Nat.reduceAdd]
   generalize vals 18=z231 at J231 ⊢
   obtain⟨A1,n1,r1,A2,n2,r2,A3,n3,r3,A4,n4,r4,rfl,hX,hY⟩:=PlV.parts J231;replace B2:=eZ.block B2;refine qh (i:=19) rfl (by kernel_rfl) (by kernel_rfl) (fun K hK=>?_);rw [if_pos (by rfl)];refine yN 31 _ _ rfl (by rfl) (by rfl) B2 Kr (by rfl) (by rfl) (by rfl) ?_;intro w8 D8 U8;refine hK.out _ _ ?_;clear hK K;try simp only [nr]
   refine qh (i:=20) rfl (by kernel_rfl) (by kernel_rfl) (fun K hK=>?_);go_simp;refine hK.out _ _ ?_;clear hK K;try simp only [nr]
   refine qi (by kernel_rfl) ?_ _;have C8:=U8.chg (NoU.mk B2 (by decide));have HF:Hid (PlV N w8 (.agg #[.bool (raw ((S.cx:Rat)+fr*d0)).b1,.slice A1 n1 r1,.bool (raw ((S.cx:Rat)+fr*d0)).b2,.slice A2 n2 r2,.bool (raw ((S.cy:Rat)+fr*d1)).b1,.slice A3 n3 r3,.bool (raw ((S.cy:Rat)+fr*d1)).b2,.slice A4 n4 r4]) (raw ((S.cx:Rat)+fr*d0)) (raw ((S.cy:Rat)+fr*d1))):=⟨_,_,_,_,_,_,_,_,rfl,xy.upd hX U8 (by omega) (NoU.mk B2 (by decide)),xy.upd hY U8 (by omega) (NoU.mk B2 (by decide))⟩
   rw [HX.out.1,HX.out.2] at HF D8;have E8:=U8.ext (hE7.trans eZ) (by omega);clear U8 C8 B2 hX hY s0 s1 s2 s3 t0 t1 t2 t3 q0 q1 q2 q3 hRs hRt hRq Bq hbq yq zq p0 p1 p2 p3 p4 p5 p6 p7 p8 p9;obtain⟨c0,c1,c2,c3,c4,c5,c6,c7⟩:=Zv D8;go_wp2;refine bodyPost_ret (v:=.tuple #[.agg #[.bool (raw (q0H S p)).b1,.slice A1 n1 r1,.bool (raw (q0H S p)).b2,.slice A2 n2 r2,.bool (raw (q0G S p)).b1,.slice A3 n3 r3,.bool (raw (q0G S p)).b2,.slice A4 n4 r4],.bool true]) ?_ rfl ?_
   ·simp [results,Tryz.results74,c0,c1,c2,c3,c4,c5,c6,c7,go_sem]
   exact⟨_,by rw [decide_eq_true HPO.out],fun _=>HF.out,fun h=>absurd HPO.out h,E8⟩
  have hi3':(i:Int) < 3:=by omega
  have hEr:Ext w wr:=hC.ext hE (by omega);have hsr:=hC.size;go_upto_region 8 with (fail);go_wp2_with (go_at_call 61; refine q_o ?_);refine (qW (N:=N) (by omega) 0 (by omega) (by omega)).mono ?_;rintro e w5 ⟨vz,rfl,hvz,e5⟩;obtain⟨bz,Az,kz,cz,Az',kz',cz',rfl,hbz,gz1,gz2⟩:=qp.parts hvz;have hU5:vS N w5 g9 i (upD S p i 0):=(hU.ext e5).mono (q_r) (fun j hj=>(Jl hj).symm);obtain⟨u0,v0⟩:=hU5.there (o:=i*4) (by omega);obtain⟨u1,v1⟩:=hU5.there (o:=i*4+1) (by omega);obtain⟨u2,v2⟩:=hU5.there (o:=i*4+2) (by omega);obtain⟨u3,v3⟩:=hU5.there (o:=i*4+3) (by omega);have f0:=hU5.frozen (i*4);have f1:=hU5.frozen (i*4+1);have f2:=hU5.frozen (i*4+2);have f3:=hU5.frozen (i*4+3);go_upto_region 9 with (fail);have HZ0:Hid (upD S p i 0 i=((0:Int):Rat)):=ZH S p i 0;obtain⟨w6,E6,C6,S6,hU6⟩:=hU5.set hi3 (by omega) (by rw [HZ0.out]; exact hbz) (by rw [HZ0.out]; exact gz1) (by rw [HZ0.out]; exact gz2);rw [E6];have C46:=(hC.trans (e5.chg _ _)).trans C6;clear u0 u1 u2 u3 v0 v1 v2 v3 f0 f1 f2 f3 E6 C6 S6 hU5 hU hbz gz1 gz2 hvz hC e5;go_wp2
  go_loopw [176] (fun iv wr=>∃ j:Nat,j<=3/\iv=.int .i64 j/\vS N wr g9 (i+1) (upD S p i j)/\Chg g9 (g9+1) W4 wr) (fun iv _=>3 - (intOf iv).toNat)
  case atStart=>exact⟨0,by omega,rfl,hU6,C46⟩
  case round =>
   clear hU6 C46;obtain⟨j,hj,rfl,hU,hC⟩:=hrel
   by_cases hj3:j < 3
   case neg =>
    obtain rfl:j=3:=by omega
    have hq3:decide (((3:Nat):Int) < 3)=false:=by decide
    have HU2:=q_h (hU.mono (p':=fun k=>dS S p k 3) (q_r) (fun k hk=>q0P hk));clear hU;go_wp2;go_roundw
    case rel=>exact⟨i+1,by omega,by go_num,HU2.out,hC⟩
    case measure=>simp [intOf]; omega
   have hj3':(j:Int) < 3:=by omega
   have hi3':(i:Int) < 3:=by omega
   have hEr:Ext w wr:=hC.ext hE (by omega);have hsr:=hC.size;have hNr:N<=wr.heap.size:=by omega
   obtain⟨u,hu⟩:=qf (dS S p i j);obtain⟨x,hx⟩:=qf (p j);obtain⟨m,hm⟩:=qf (jA S i j);obtain⟨c,hc⟩:=qf (ww S j);have hmb:=HRB.out i j;rw [<-hm.out] at hmb;have hcb:=HCB.out j;rw [<-hc.out] at hcb
   have q0:wr.cell? ⟨g7,i*3+j,none⟩=some (.int .i64 m):=by
    rw [qg (hC.blk HB4.out (.inl (by omega))),hm.out];have hi':i=0\/i=1\/i=2:=by omega
    have hj':j=0\/j=1\/j=2:=by omega
    rcases hi' with rfl | rfl | rfl <;> rcases hj' with rfl | rfl | rfl <;> rfl
   have q1:wr.cell? ⟨g8,j,none⟩=some (.int .i64 c):=by
    rw [qg (hC.blk HB5.out (.inl (by omega))),hc.out];have hj':j=0\/j=1\/j=2:=by omega
    rcases hj' with rfl | rfl | rfl <;> rfl
   have hPd:=hU.at4 (k:=i) (by omega);rw [ZH,<-hu.out] at hPd;have hPx:=((HP.out j hj3).ext hEr).at4 (hC.blk HB1.out (.inl (by omega)));rw [Nat.zero_add,<-hx.out] at hPx;have hkx:Ht K x:=by rw [hx.out]; exact HK.out j hj3
   have hku:Ht (3*(K+68)+1) u:=by rw [hu.out]; exact (q0e HS.out HK.out i j (by omega)).mono (by have:j*(K+68)<=3*(K+68):=Nat.mul_le_mul_right _ (by omega); omega)
   have hk1:=hkx.sub (qy (k:=c) (m:=21) (by omega) (by omega));have hk2:=(qy (k:=m) (m:=44) (by omega) (by omega)).mul hk1;have HSU:Hid (Sz u/\Sz x/\Sz (x - (c:Rat))/\Sz ((m:Rat)*(x - (c:Rat)))/\Sz (m:Rat)/\Sz (c:Rat)):=⟨hku.sz (by omega),hkx.sz (by omega),hk1.sz (by omega),hk2.sz (by omega),(qy (k:=m) (m:=44) (by omega) (by omega)).sz (by omega),(qy (k:=c) (m:=21) (by omega) (by omega)).sz (by omega)⟩
   have HNX:Hid (upD S p i (j+1) i=u+(m:Rat)*(x - (c:Rat))):=by rw [Hid,ZH,hu.out,hm.out,hc.out,hx.out]; rfl
   clear hkx hku hk1 hk2;obtain⟨ns,As,ks,cs,A's,k's,c's,s0,s1,s2,s3,hRs⟩:=(hPd).opn;obtain⟨nt,At,kt,ct,A't,k't,c't,t0,t1,t2,t3,hRt⟩:=(hPx).opn;go_upto_region 12 with (fail);refine jE [Mn.i (i:Int),Mn.i (i:Int),Mn.q g9 (i*4),Mn.rat N (u),Mn.i (i:Int),Mn.i (j:Int),Mn.q g7 (i*3),Mn.q g7 (i*3+j),Mn.i m,Mn.rat N ((m:Int):Rat),Mn.i (j:Int),Mn.q (w.heap.size+1) (j*4),Mn.rat N (x),Mn.i (j:Int),Mn.q g8 j,Mn.i c,Mn.rat N ((c:Int):Rat),Mn.rat N (x - (c:Rat)),Mn.rat N ((m:Rat)*(x - (c:Rat))),Mn.rat N (u+(m:Rat)*(x - (c:Rat))),Mn.q g9 (i*4),Mn.any] [some 179,some 180,some 181,some 182,some 183,some 184,some 185,some 186,some 187,some 188,some 189,some 190,some 191,some 192,some 193,some 194,some 195,some 196,some 197,some 198,some 199,none] [21] (rQ 21 1) 1 (by kernel_rfl) ?_ ?_
   ·show ∀ i,i < 22->_
    iterate 22 refine fs ?_ ?_
    ·exact fz
    all_goals intro hl; first | exact absurd hl (by decide) | (clear hl; refine stp rfl ?_; intro ac wi eI hB hA K hK)
    have o10:=oOf (hB 10) rfl
    rotate_left
    have o10:=oOf (hB 10) rfl
    rotate_left
    have o9:=oOf (hB 9) rfl;obtain⟨_,s180,rfl⟩:=hA 1 180
    rotate_left
    obtain⟨_,s181,rfl⟩:=hA 2 181;clear hB hA;have cc0:=eI.cell s0;have cc1:=eI.cell s1;have cc2:=eI.cell s2;have cc3:=eI.cell s3
    ·go_simp;exact q_k hK (hRs.ext eI)
    have o10:=oOf (hB 10) rfl
    rotate_left
    have o11:=oOf (hB 11) rfl
    rotate_left
    have o7:=oOf (hB 7) rfl;obtain⟨_,s183,rfl⟩:=hA 4 183
    rotate_left
    obtain⟨_,s185,rfl⟩:=hA 6 185;obtain⟨_,s184,rfl⟩:=hA 5 184
    rotate_left
    obtain⟨_,s186,rfl⟩:=hA 7 186;have cc0:=eI.cell q0
    rotate_left
    obtain⟨_,s187,rfl⟩:=hA 8 187;clear hB hA
    ·go_simp;refine (qW (q_l hNr eI.size) m (by omega) (by omega)).mono ?_;rintro e wj ⟨vj,rfl,hj,ej⟩;go_wp2_with fail;exact hK.out _ _ ej hj
    have o11:=oOf (hB 11) rfl
    rotate_left
    have o3:=oOf (hB 3) rfl;obtain⟨_,s189,rfl⟩:=hA 10 189
    rotate_left
    obtain⟨_,s190,rfl⟩:=hA 11 190;clear hB hA;have cc0:=eI.cell t0;have cc1:=eI.cell t1;have cc2:=eI.cell t2;have cc3:=eI.cell t3
    ·go_simp;exact q_k hK (hRt.ext eI)
    have o11:=oOf (hB 11) rfl
    rotate_left
    have o8:=oOf (hB 8) rfl;obtain⟨_,s192,rfl⟩:=hA 13 192
    rotate_left
    obtain⟨_,s193,rfl⟩:=hA 14 193;have cc0:=eI.cell q1
    rotate_left
    obtain⟨_,s194,rfl⟩:=hA 15 194;clear hB hA
    ·go_simp;refine (qW (q_l hNr eI.size) c (by omega) (by omega)).mono ?_;rintro e wj ⟨vj,rfl,hj,ej⟩;go_wp2_with fail;exact hK.out _ _ ej hj
    obtain⟨x191,s191,j191⟩:=hA 12 191;replace j191:Mn.p (Mn.rat N (x)) x191 wi:=j191;obtain⟨x195,s195,j195⟩:=hA 16 195;replace j195:Mn.p (Mn.rat N ((c:Int):Rat)) x195 wi:=j195;clear hB hA
    ·go_simp;refine (yY j191 j195 HSU.out.2.1 HSU.out.2.2.2.2.2).mono ?_;rintro e wj ⟨vj,rfl,hj,ej⟩;go_wp2_with fail;exact hK.out _ _ ej hj
    obtain⟨x188,s188,j188⟩:=hA 9 188;replace j188:Mn.p (Mn.rat N ((m:Int):Rat)) x188 wi:=j188;obtain⟨x196,s196,j196⟩:=hA 17 196;replace j196:Mn.p (Mn.rat N (x - (c:Rat))) x196 wi:=j196;clear hB hA
    ·go_simp;refine (ZW j188 j196 HSU.out.2.2.2.2.1 HSU.out.2.2.1).mono ?_;rintro e wj ⟨vj,rfl,hj,ej⟩;go_wp2_with fail;exact hK.out _ _ ej hj
    obtain⟨x182,s182,j182⟩:=hA 3 182;replace j182:Mn.p (Mn.rat N (u)) x182 wi:=j182;obtain⟨x197,s197,j197⟩:=hA 18 197;replace j197:Mn.p (Mn.rat N ((m:Rat)*(x - (c:Rat)))) x197 wi:=j197;clear hB hA
    ·go_simp;refine (Xy j182 j197 HSU.out.1 HSU.out.2.2.2.1).mono ?_;rintro e wj ⟨vj,rfl,hj,ej⟩;go_wp2_with fail;exact hK.out _ _ ej hj
    have o9:=oOf (hB 9) rfl;obtain⟨_,s179,rfl⟩:=hA 0 179
    rotate_left
    all_goals clear hB hA; go_simp; exact q_k hK rfl
   intro vals wz eZ hJ;have J198:Mn.p (Mn.rat N (u+(m:Rat)*(x - (c:Rat)))) (vals 19) wz:=hJ 19 (by decide) (by decide);have J199:vals 20=_:=hJ 20 (by decide) (by decide);clear hJ;simp only [pr,Nat.reduceAdd,J199];clear J199
   generalize vals 19=z198 at J198 ⊢
   obtain⟨bz,Az,kz,cz,Az',kz',cz',rfl,hbz,gz1,gz2⟩:=qp.parts J198;have hU2:vS N wz g9 i (upD S p i (j+1)):=(hU.ext eZ).mono (by omega) (fun k hk=>by rw [Jl hk,Jl hk]);obtain⟨u0,v0⟩:=hU2.there (o:=i*4) (by omega);obtain⟨u1,v1⟩:=hU2.there (o:=i*4+1) (by omega);obtain⟨u2,v2⟩:=hU2.there (o:=i*4+2) (by omega);obtain⟨u3,v3⟩:=hU2.there (o:=i*4+3) (by omega);have f0:=hU2.frozen (i*4);have f1:=hU2.frozen (i*4+1);have f2:=hU2.frozen (i*4+2);have f3:=hU2.frozen (i*4+3);refine qh (i:=21) rfl (by kernel_rfl) (by kernel_rfl) (fun K hK=>?_);go_simp;refine hK.out _ _ ?_;clear hK K;try simp only [nr]
   refine qi (by kernel_rfl) ?_ _;rw [<-HNX.out] at hbz gz1 gz2;obtain⟨w9,E9,C9,S9,hU9⟩:=hU2.set hi3 (by omega) hbz gz1 gz2;rw [E9];have CN:=(hC.trans (eZ.chg _ _)).trans C9;clear u0 u1 u2 u3 v0 v1 v2 v3 f0 f1 f2 f3 s0 s1 s2 s3 t0 t1 t2 t3 q0 q1 E9 C9 S9 hU hU2 hbz gz1 gz2 eZ hC;go_wp2;go_roundw
   case rel=>exact⟨j+1,by omega,by go_num,hU9,CN⟩
   case measure=>simp [intOf]; omega
def nS (S:Sta):Int:=S.qa*S.qa+S.qb*S.qb+S.qc*S.qc+S.qd*S.qd
def Yw (S:Sta) (i k:Nat):Rat:=Rat.divInt (jA S k i) (nS S)
theorem q0T (x:Int):0<=x*x:=by
 rcases Int.le_total 0 x with h | h
 ·exact Int.mul_nonneg h h
 ·exact Int.mul_nonneg_of_nonpos_of_nonpos h h
theorem Yh {x:Int} (h:x≠0):0 < x*x:=by
 rcases Int.lt_or_gt_of_ne h with h | h
 ·exact Int.mul_pos_of_neg_of_neg h h
 ·exact Int.mul_pos h h
theorem Yt (h:KZ S):0 < nS S/\nS S<=4398046511104:=by
 have aa:=qP h.qa h.qa;have bb:=qP h.qb h.qb;have cc:=qP h.qc h.qc;have dd:=qP h.qd h.qd;have ka:=q0T S.qa;have kb:=q0T S.qb;have kc:=q0T S.qc;have kd:=q0T S.qd;unfold nS;refine⟨?_,by omega⟩
 by_cases h1:S.qa=0
 ·by_cases h2:S.qb=0
  ·by_cases h3:S.qc=0
   ·have h4:S.qd≠0:=fun h4=>h.q0 ⟨h1,h2,h3,h4⟩
    have:=Yh h4;omega
   ·have:=Yh h3;omega
  ·have:=Yh h2;omega
 ·have:=Yh h1;omega
theorem qu_ok (h:KZ S):xO S.qa S.qb S.qc S.qd=0:=by
 unfold xO;have f:∀ {z:Int},-1048576<=z/\z<=1048576->zo z=false:=fun h=>q06 (by omega) (by omega)
 rw [if_neg h.q0,f h.qa,f h.qb,f h.qc,f h.qd]
 rfl
theorem WO (h:KZ S) (i k:Nat):Ht 90 (Yw S i k):=by
 have h1:=Yi h k i;have h2:=Yt h;have e:Yw S i k=(jA S k i:Rat) / (nS S:Rat):=Rat.divInt_eq_div ..;rw [e];exact (Ht.div (qy (k:=jA S k i) (m:=44) (by omega) (by omega)) (qy (k:=nS S) (m:=43) (by omega) (by omega))).mono (by omega)
theorem q2R (hS:KZ S) :
  Calls Tryz.prog 130 #[quV S.qa S.qb S.qc S.qd] w (zG w (.int .i64 (nS S))):=by
 have aa:=qP hS.qa hS.qa;have bb:=qP hS.qb hS.qb;have cc:=qP hS.qc hS.qc;have dd:=qP hS.qd hS.qd;have w1:IntKind.i64.wrap (S.qa*S.qa)=S.qa*S.qa:=zV (by omega) (by omega);have w2:IntKind.i64.wrap (S.qb*S.qb)=S.qb*S.qb:=zV (by omega) (by omega);have w3:IntKind.i64.wrap (S.qc*S.qc)=S.qc*S.qc:=zV (by omega) (by omega);have w4:IntKind.i64.wrap (S.qd*S.qd)=S.qd*S.qd:=zV (by omega) (by omega);have v1:IntKind.i64.wrap (S.qa*S.qa+S.qb*S.qb)=S.qa*S.qa+S.qb*S.qb:=zV (by omega) (by omega);have v2:IntKind.i64.wrap (S.qa*S.qa+S.qb*S.qb+S.qc*S.qc)=S.qa*S.qa+S.qb*S.qb+S.qc*S.qc:=zV (by omega) (by omega);have v3:IntKind.i64.wrap (S.qa*S.qa+S.qb*S.qb+S.qc*S.qc+S.qd*S.qd)=S.qa*S.qa+S.qb*S.qb+S.qc*S.qc+S.qd*S.qd:=zV (by omega) (by omega);clear aa bb cc dd hS;unfold quV nS;go_enter Tryz.func130,Tryz.ntmps130;go_upto_region 1 with (fail);refine ql ?_;intro W hE hsz B0;obtain⟨p0,p1,p2,p3,-⟩:=cells4 B0;go_wp2;go_ret;exact⟨rfl,hE⟩
theorem Wj (hS:KZ S) (hN:N<=w.heap.size) :
  Calls Tryz.prog 77 #[quV S.qa S.qb S.qc S.qd] w (fun e w'=>∃ A c,e=.returned (.tuple #[.slice A 3 c,.int .i64 0])/\MtV N 0 w'.heap.size w' (.slice A 3 c) 3 3 (Yw S)/\Ext w w'):=by
 have HS:=q_h hS;have HRB:Hid (∀ i j,-8796093022208<=jA S i j/\jA S i j<=8796093022208):=Yi hS;have aa:=qP hS.qa hS.qa;have bb:=qP hS.qb hS.qb;have cc:=qP hS.qc hS.qc;have dd:=qP hS.qd hS.qd;have ab:=qP hS.qa hS.qb;have ac:=qP hS.qa hS.qc;have ad:=qP hS.qa hS.qd;have bc:=qP hS.qb hS.qc;have bd:=qP hS.qb hS.qd;have cd:=qP hS.qc hS.qd;have w1:IntKind.i64.wrap (S.qa*S.qa)=S.qa*S.qa:=zV (by omega) (by omega);have w2:IntKind.i64.wrap (S.qb*S.qb)=S.qb*S.qb:=zV (by omega) (by omega);have w3:IntKind.i64.wrap (S.qc*S.qc)=S.qc*S.qc:=zV (by omega) (by omega);have w4:IntKind.i64.wrap (S.qd*S.qd)=S.qd*S.qd:=zV (by omega) (by omega);have w5:IntKind.i64.wrap (S.qa*S.qb)=S.qa*S.qb:=zV (by omega) (by omega);have w6:IntKind.i64.wrap (S.qa*S.qc)=S.qa*S.qc:=zV (by omega) (by omega);have w7:IntKind.i64.wrap (S.qa*S.qd)=S.qa*S.qd:=zV (by omega) (by omega);have w8:IntKind.i64.wrap (S.qb*S.qc)=S.qb*S.qc:=zV (by omega) (by omega);have w9:IntKind.i64.wrap (S.qb*S.qd)=S.qb*S.qd:=zV (by omega) (by omega);have w10:IntKind.i64.wrap (S.qc*S.qd)=S.qc*S.qd:=zV (by omega) (by omega);have v1:IntKind.i64.wrap (S.qa*S.qa+S.qb*S.qb)=S.qa*S.qa+S.qb*S.qb:=zV (by omega) (by omega);have v2:IntKind.i64.wrap (S.qa*S.qa+S.qb*S.qb - S.qc*S.qc)=S.qa*S.qa+S.qb*S.qb - S.qc*S.qc:=zV (by omega) (by omega)
 have v3:IntKind.i64.wrap (S.qa*S.qa+S.qb*S.qb - S.qc*S.qc - S.qd*S.qd)=S.qa*S.qa+S.qb*S.qb - S.qc*S.qc - S.qd*S.qd:=zV (by omega) (by omega);have v4:IntKind.i64.wrap (S.qa*S.qa - S.qb*S.qb)=S.qa*S.qa - S.qb*S.qb:=zV (by omega) (by omega);have v5:IntKind.i64.wrap (S.qa*S.qa - S.qb*S.qb+S.qc*S.qc)=S.qa*S.qa - S.qb*S.qb+S.qc*S.qc:=zV (by omega) (by omega);have v6:IntKind.i64.wrap (S.qa*S.qa - S.qb*S.qb+S.qc*S.qc - S.qd*S.qd)=S.qa*S.qa - S.qb*S.qb+S.qc*S.qc - S.qd*S.qd:=zV (by omega) (by omega);have v7:IntKind.i64.wrap (S.qa*S.qa - S.qb*S.qb - S.qc*S.qc)=S.qa*S.qa - S.qb*S.qb - S.qc*S.qc:=zV (by omega) (by omega);have v8:IntKind.i64.wrap (S.qa*S.qa - S.qb*S.qb - S.qc*S.qc+S.qd*S.qd)=S.qa*S.qa - S.qb*S.qb - S.qc*S.qc+S.qd*S.qd:=zV (by omega) (by omega);have x1:IntKind.i64.wrap (S.qb*S.qc+S.qa*S.qd)=S.qb*S.qc+S.qa*S.qd:=zV (by omega) (by omega);have x2:IntKind.i64.wrap (S.qb*S.qd - S.qa*S.qc)=S.qb*S.qd - S.qa*S.qc:=zV (by omega) (by omega);have x3:IntKind.i64.wrap (S.qb*S.qc - S.qa*S.qd)=S.qb*S.qc - S.qa*S.qd:=zV (by omega) (by omega);have x4:IntKind.i64.wrap (S.qc*S.qd+S.qa*S.qb)=S.qc*S.qd+S.qa*S.qb:=zV (by omega) (by omega);have x5:IntKind.i64.wrap (S.qb*S.qd+S.qa*S.qc)=S.qb*S.qd+S.qa*S.qc:=zV (by omega) (by omega);have x6:IntKind.i64.wrap (S.qc*S.qd - S.qa*S.qb)=S.qc*S.qd - S.qa*S.qb:=zV (by omega) (by omega)
 have y1:IntKind.i64.wrap (2*(S.qb*S.qc+S.qa*S.qd))=2*(S.qb*S.qc+S.qa*S.qd):=zV (by omega) (by omega);have y2:IntKind.i64.wrap (2*(S.qb*S.qd - S.qa*S.qc))=2*(S.qb*S.qd - S.qa*S.qc):=zV (by omega) (by omega);have y3:IntKind.i64.wrap (2*(S.qb*S.qc - S.qa*S.qd))=2*(S.qb*S.qc - S.qa*S.qd):=zV (by omega) (by omega);have y4:IntKind.i64.wrap (2*(S.qc*S.qd+S.qa*S.qb))=2*(S.qc*S.qd+S.qa*S.qb):=zV (by omega) (by omega);have y5:IntKind.i64.wrap (2*(S.qb*S.qd+S.qa*S.qc))=2*(S.qb*S.qd+S.qa*S.qc):=zV (by omega) (by omega);have y6:IntKind.i64.wrap (2*(S.qc*S.qd - S.qa*S.qb))=2*(S.qc*S.qd - S.qa*S.qb):=zV (by omega) (by omega);clear aa bb cc dd ab ac ad bc bd cd hS;unfold quV;go_enter Tryz.func77,Tryz.ntmps77;go_upto_region 1 with (fail);refine ql ?_;intro W hE hsz B0;obtain⟨p0,p1,p2,p3,-⟩:=cells4 B0;have HQC:=q_h (Yj (w:=W) S.qa S.qb S.qc S.qd);rw [qu_ok HS.out] at HQC;unfold quV at HQC;go_wp2_with (go_at_call 76; refine q_o ?_);refine (HQC.out).mono ?_;rintro e w1' ⟨rfl,e1⟩;replace B0:=e1.block B0;replace hE:=hE.trans e1;clear p0 p1 p2 p3 HQC e1;obtain⟨p0,p1,p2,p3,-⟩:=cells4 B0;go_upto_region 9 with (fail);refine Zx ?_;intro W2 hE2 hsz2 B1 B2 B3 B4;have B1':W2.heap[w1'.heap.size]?=some (.cells #[.int .i64 (jA S 0 0),.int .i64 (jA S 1 0),.int .i64 (jA S 2 0)] 3 (0,0)):=B1;have B2':W2.heap[w1'.heap.size+1]?=some (.cells #[.int .i64 (jA S 0 1),.int .i64 (jA S 1 1),.int .i64 (jA S 2 1)] 3 (0,0)):=B2
 have B3':W2.heap[w1'.heap.size+1+1]?=some (.cells #[.int .i64 (jA S 0 2),.int .i64 (jA S 1 2),.int .i64 (jA S 2 2)] 3 (0,0)):=B3;have B4':W2.heap[w1'.heap.size+1+1+1]?=some (.cells #[.slice (some ⟨w1'.heap.size,0,none⟩) 3 3,.slice (some ⟨w1'.heap.size+1,0,none⟩) 3 3,.slice (some ⟨w1'.heap.size+1+1,0,none⟩) 3 3] 22 (0,0)):=B4;obtain⟨g1,hg1⟩:∃ g1,g1=w1'.heap.size:=⟨_,rfl⟩
 rw [<-hg1] at B1' B2' B3' B4' ⊢;replace B0:=hE2.block B0;replace hE:=hE.trans hE2;clear B1 B2 B3 B4 p0 p1 p2 p3 w1 w2 w3 w4 w5 w6 w7 w8 w9 w10 v1 v2 v3 v4 v5 v6 v7 v8 x1 x2 x3 x4 x5 x6 y1 y2 y3 y4 y5 y6 hE2 hg1;go_upto_region 10 with (fail);refine ql ?_;intro W3 hE3 hsz3 BE;have HB0:=q_h B0;have HB1:=q_h B1';have HB2:=q_h B2';have HB3:=q_h B3';have HB4:=q_h B4';have hN2:N<=W2.heap.size:=by have:=hE.size; omega
 have hW2:=hE.size;have hg4:g1+1+1+1 < W2.heap.size:=qI B4';have hG:xm N W2.heap.size W3.heap.size W3 (.slice (some ⟨W2.heap.size,0,none⟩) 0 0) 0 3 (Yw S):=xm.empty hN2 (by omega) (qI BE) (q_r) BE _;clear B0 B1' B2' B3' B4' BE;go_wp2
 go_loopw [10,11] (fun vo iv wr=>∃ i:Nat,i<=3/\iv=.int .i64 i/\(∃ M,xm N W2.heap.size wr.heap.size wr vo i 3 M/\Hid (∀ i',i' < i->∀ k,k < 3->M i' k=Yw S i' k))/\Ext W2 wr) (fun vo iv _=>3 - (intOf iv).toNat)
 case atStart=>exact⟨0,by omega,rfl,⟨_,hG,fun i' hi'=>absurd hi' (by omega)⟩,hE3⟩
 case round =>
  clear hG hE3;obtain⟨i,hi,rfl,⟨M,hG,hM⟩,hEr⟩:=hrel;obtain⟨Ao,co,rfl,-⟩:=hG.form
  by_cases hi3:i < 3
  case neg =>
   obtain rfl:i=3:=by omega
   have hq3:decide (((3:Nat):Int) < 3)=false:=by decide
   have HF:=q_h ((hG.congr (fun i' hi' k hk=>hM.out i' hi' k hk)).mtv.all);clear hG hM;go_wp2
   first | go_ret2 | skip
   exact⟨_,_,rfl,HF.out,hE.trans hEr⟩
  have hi3':(i:Int) < 3:=by omega
  go_upto_region 14 with (fail);refine ql ?_;intro w5 e5 hsz5 BR;have hEr5:=hEr.trans e5;have hR:Grow N wr.heap.size w5 (.slice (some ⟨wr.heap.size,0,none⟩) 0 0) 0 (Yw S i):=Grow.empty (by have:=hEr.size; omega) (q_r) BR _;have hG5:=hG.ext e5;have hbw:W2.heap.size<=wr.heap.size:=hEr.size;obtain⟨B,hB⟩:∃ B,B=wr.heap.size:=⟨_,rfl⟩
  rw [<-hB] at hR hG5 hbw ⊢;clear BR hG hEr e5 hsz5 hB;obtain⟨wq,hwq⟩:∃ wq,wq=wr:=⟨wr,rfl⟩
  subst hwq;go_wp2
  go_loopw [12,13] (fun vr kv wr=>∃ k:Nat,k<=3/\kv=.int .i64 k/\(∃ x,Grow N B wr vr k x/\Hid (∀ k',k' < k->x k'=Yw S i k'))/\xm N W2.heap.size B wr (.slice Ao i co) i 3 M/\Ext W2 wr) (fun vr kv _=>3 - (intOf kv).toNat)
  case atStart=>exact⟨0,by omega,rfl,⟨_,hR,fun k' hk'=>absurd hk' (by omega)⟩,hG5,hEr5⟩
  case round =>
   clear hR hG5 hEr5;obtain⟨k,hk,rfl,⟨x,hR,hx⟩,hG,hEs⟩:=hrel;obtain⟨Ar,cr,rfl,-⟩:=hR.form;have hBs:B<=wr.heap.size:=hR.2.1
   by_cases hk3:k < 3
   case neg =>
    obtain rfl:k=3:=by omega
    have hq3:decide (((3:Nat):Int) < 3)=false:=by decide
    obtain⟨g,cap,hv,hgB,hgl,hcm,hnc,hrow⟩:=hR.some (by omega);injection hv with h1 h2 h3
    subst h1 h3;have hHX:=hx.out;have HX:=q_h hHX;clear hHX hx h2;go_wp2_with (at_builtin; refine q_o ?_);refine ql ?_;intro w7 e7 hsz7 BX;refine vX rfl _ _ 130 Tryz.underlying130 rfl (by rfl) (hG.ext e7) (by rfl) (hrow.ext e7) hgB hcm BX (by omega) ?_;rintro h' cap' w8 hG8 ⟨g',hg',C8,-⟩;have hE8:=C8.ext (hEs.trans e7) (by omega)
    have HM2:Hid (∀ i',i' < i+1->∀ k,k < 3->q0N M i x i' k=Yw S i' k):=fun i' hi' k hk=>by
     by_cases e:i'=i
     ·subst e;rw [yP];exact HX.out k hk
     ·rw [Jj _ _ e];exact hM.out i' (by omega) k hk
    clear hR hG hrow BX e7 hEs C8;go_wp2;go_roundw
    case rel=>exact⟨i+1,by omega,by go_num,⟨_,hG8,HM2.out⟩,hE8⟩
    case measure=>simp [intOf]; omega
   have hk3':(k:Int) < 3:=by omega
   have hi3':(i:Int) < 3:=by omega
   obtain⟨m,hm⟩:=qf (jA S k i);have hmb:=HRB.out k i;rw [<-hm.out] at hmb;obtain⟨n,hn⟩:=qf (nS S);have hnb:=Yt HS.out;rw [<-hn.out] at hnb
   have hrowq:∃ gr,wr.cell? ⟨g1+1+1+1,i,none⟩=some (.slice (some ⟨gr,0,none⟩) 3 3)/\wr.cell? ⟨gr,k,none⟩=some (.int .i64 m):=by
    have hi':i=0\/i=1\/i=2:=by omega
    have hk':k=0\/k=1\/k=2:=by omega
    rw [hm.out];have b1:=hEs.block HB1.out;have b2:=hEs.block HB2.out;have b3:=hEs.block HB3.out;have b4:=hEs.block HB4.out
    rcases hi' with rfl | rfl | rfl
    ·refine⟨g1,by rw [qg b4]; rfl,?_⟩;rw [qg b1]
     rcases hk' with rfl | rfl | rfl <;> rfl
    ·refine⟨g1+1,by rw [qg b4]; rfl,?_⟩;rw [qg b2]
     rcases hk' with rfl | rfl | rfl <;> rfl
    ·refine⟨g1+1+1,by rw [qg b4]; rfl,?_⟩;rw [qg b3]
     rcases hk' with rfl | rfl | rfl <;> rfl
   obtain⟨gr,q0,q1⟩:=hrowq;obtain⟨p0,p1,p2,p3,-⟩:=cells4 (hEs.block HB0.out);have HNM:Hid (∀ W9:World,Calls Tryz.prog 130 #[.agg #[.int .i64 S.qa,.int .i64 S.qb,.int .i64 S.qc,.int .i64 S.qd]] W9 (zG W9 (.int .i64 n))):=fun W9=>by rw [hn.out]; exact q2R HS.out
   have HAQ:Hid (Rat.divInt m n=Yw S i k):=by rw [Hid,hm.out,hn.out]; rfl
   obtain⟨q,hq⟩:=qf (Yw S i k);rw [<-hq.out] at HAQ;have hNs:N<=wr.heap.size:=by have:=hEs.size; omega
   go_upto_region 17 with (fail);refine Wh [Mn.eq (.slice (some ⟨g1+1+1+1,0,none⟩) 3 3),Mn.i (i:Int),Mn.q (g1+1+1+1) i,Mn.eq (.slice (some ⟨gr,0,none⟩) 3 3),Mn.i (k:Int),Mn.q gr k,Mn.i m,Mn.eq (.agg #[.int .i64 S.qa,.int .i64 S.qb,.int .i64 S.qc,.int .i64 S.qd]),Mn.i n,Mn.rc N q,Mn.rc N q,Mn.rat N q,Mn.i 0,Mn.blk wr.heap.size (.cells #[.bool false,.slice none 0 0,.bool false,.slice none 0 0] 29 (0,0)),Mn.any,Mn.any] [some 137,some 138,some 139,some 140,some 141,some 142,some 143,some 144,some 145,some 146,some 136,some 147,some 148,some 14,none,some 15] [14,15] [12] (rQ 14 2) 2 (by kernel_rfl) ?_ ?_ ?_
   ·show ∀ i,i < 16->_
    iterate 16 refine fs ?_ ?_
    ·exact fz
    all_goals intro hl hs; first | exact absurd hl (by decide) | exact absurd hs (by decide) | (clear hl hs; refine stp rfl ?_; intro ac wi eI hB hA K hK)
    have o9:=oOf (hB 9) rfl
    rotate_left
    have o11:=oOf (hB 11) rfl
    rotate_left
    obtain⟨_,s137,rfl⟩:=hA 0 137;obtain⟨_,s138,rfl⟩:=hA 1 138
    rotate_left
    obtain⟨_,s139,rfl⟩:=hA 2 139;have cc0:=eI.cell q0
    rotate_left
    have o13:=oOf (hB 13) rfl
    rotate_left
    obtain⟨_,s140,rfl⟩:=hA 3 140;obtain⟨_,s141,rfl⟩:=hA 4 141
    rotate_left
    obtain⟨_,s142,rfl⟩:=hA 5 142;have cc0:=eI.cell q1
    rotate_left
    have o1:=oOf (hB 1) rfl;have cc0:=eI.cell p0;have cc1:=eI.cell p1;have cc2:=eI.cell p2;have cc3:=eI.cell p3
    rotate_left
    obtain⟨_,s144,rfl⟩:=hA 7 144;clear hB hA
    ·go_simp;refine (HNM.out _).mono ?_;rintro e wj ⟨rfl,ej⟩;go_wp2_with fail;exact hK.out _ _ ej rfl
    obtain⟨_,s143,rfl⟩:=hA 6 143;obtain⟨_,s145,rfl⟩:=hA 8 145;clear hB hA
    ·go_simp;refine (r2_of (N:=N) (q_l hNs eI.size) m n (by omega) (by omega) (by omega) (by omega) (by omega)).mono ?_;rw [HAQ.out];rintro e wj ⟨vj,rfl,hj,ej⟩;go_wp2_with fail;exact hK.out _ _ ej ⟨vj,rfl,hj⟩
    obtain⟨x146,s146,j146⟩:=hA 9 146;replace j146:Mn.p (Mn.rc N q) x146 wi:=j146;clear hB hA
    ·go_simp;exact q_k hK j146
    obtain⟨x136,s136,j136⟩:=hA 10 136;replace j136:Mn.p (Mn.rc N q) x136 wi:=j136;clear hB hA
    ·obtain⟨vj,rfl,hj⟩:=j136;go_simp;exact q_k hK hj
    clear hB hA
    ·go_simp;refine ql ?_;intro wj ej hszj BJ;exact hK.out _ _ ej ⟨_,rfl,eI.size,BJ⟩
    all_goals clear hB hA; go_simp; exact q_k hK rfl
   ·intro i hs;have hi':i=12:=by simpa using hs
    clear hs
    rcases hi' with rfl
    ·refine sft rfl (fun _ _ _ _ h=>h) ?_;intro ac wi eI hB hA;obtain⟨x136,s136,j136⟩:=hA 10 136;replace j136:Mn.p (Mn.rc N q) x136 wi:=j136;clear hB hA;obtain⟨vj,rfl,hj⟩:=j136;refine⟨(.int .i64 0),.inl ⟨rfl,fun w9 _=>?_⟩,rfl⟩;go_simp
   intro vals wz eZ hJ;have J147:Mn.p (Mn.rat N q) (vals 11) wz:=hJ 11 (by decide) (by decide);have J148:vals 12=_:=hJ 12 (by decide) (by decide);have J14:Mn.p (Mn.blk wr.heap.size (.cells #[.bool false,.slice none 0 0,.bool false,.slice none 0 0] 29 (0,0))) (vals 13) wz:=hJ 13 (by decide) (by decide);clear hJ;simp only [pr,Nat.reduceAdd,J148];clear J148
   generalize vals 11=z147 at J147 ⊢
   generalize vals 13=z14 at J14 ⊢
   obtain⟨gX,rfl,hgX,BX⟩:=J14;obtain⟨bz,Az,kz,cz,Az',kz',cz',rfl,hbz,gz1,gz2⟩:=qp.parts J147;obtain⟨y0,y1,y2,y3,y4,y5,y6,y7⟩:=cells4 BX;refine qh (i:=14) rfl (by kernel_rfl) (by kernel_rfl) (fun K hK=>?_);go_simp;refine hK.out _ _ ?_;clear hK K;try simp only [nr]
   refine qh (i:=15) rfl (by kernel_rfl) (by kernel_rfl) (fun K hK=>?_);go_simp;refine hK.out _ _ ?_;clear hK K;try simp only [nr]
   refine qi (by kernel_rfl) ?_ _;obtain⟨w9,E9,hBX,K9,hs9⟩:=kN (q:=q) BX (by omega) hbz gz1 gz2;rw [E9];have E9s:Ext wr w9:=K9.ext eZ hgX;replace hR:=hR.ext E9s;replace hG:=hG.ext E9s;replace hEs:=hEs.trans E9s;clear y0 y1 y2 y3 y4 y5 y6 y7 E9 K9 BX hs9 hbz gz1 gz2 eZ p0 p1 p2 p3 q0 q1 HNM E9s;obtain⟨ns,As,ks,cs,A's,k's,c's,Bs,hbs,ys,zs⟩:=hBX;obtain⟨s0,s1,s2,s3,-⟩:=cells4 Bs;have hRs:qp N w9 (.agg #[.bool ns,.slice As ks cs,.bool false,.slice A's k's c's]) (q):=qp.mk hbs ys zs;go_wp2_with (at_builtin; refine q_o ?_);refine ql ?_;intro w10 e10 hsz10 BN;refine vY rfl _ _ 45 Tryz.underlying45 rfl (by rfl) (hR.ext e10) (by rfl) BN hbs (ys.ext e10) (zs.ext e10) (by omega) ?_;rintro g cap w11 hR11 ⟨g',hg',C11,-⟩ hgl;have hE11:=C11.ext (hEs.trans e10) (by omega);have hG11:=(hG.ext e10).chg C11 (by omega) (.inl hg')
   have HX2:Hid (∀ k',k' < k+1->upd x k q k'=Yw S i k'):=fun k' hk'=>by
    by_cases e:k'=k
    ·subst e;rw [upd_same];exact hq.out
    ·rw [upd_ne _ _ e];exact hx.out k' (by omega)
   clear hR hG s0 s1 s2 s3 Bs hbs ys zs hRs BN e10 hEs C11;go_wp2;go_roundw
   case rel=>exact⟨k+1,by omega,by go_num,⟨_,hR11,HX2.out⟩,hG11,hE11⟩
   case measure=>simp [intOf]; omega
def dL (S:Sta) (p:Nat->Rat) (i:Nat):Nat->Rat
 | 0=>0
 | n+1=>dL S p i n+Yw S n i*(p n - (ww S n:Rat))
theorem q1K {S:Sta} (hS:KZ S) (p:Nat->Rat) (i:Nat):∀ n,dL S p i n=dS S p i n / (nS S:Rat)
 | 0=>by unfold dL dS; grind
 | n+1=>by
  have hn:(nS S:Rat)≠0:=by
   have:=Rat.intCast_lt_intCast.2 (Yt hS).1;have c0:((0:Int):Rat)=0:=rfl;rw [c0] at this
   grind
  have e:Yw S n i=(jA S i n:Rat) / (nS S:Rat):=Rat.divInt_eq_div ..;unfold dL dS;rw [q1K hS p i n,e]
  grind
theorem q2m (hS:KZ S):(0:Rat) < (nS S:Rat):=by
 have:=Rat.intCast_lt_intCast.2 (Yt hS).1;exact this
theorem q4Q (hS:KZ S) (p:Nat->Rat) (i:Nat):0 < dL S p i 3↔0 < dS S p i 3:=by
 have hn:=q2m hS;rw [q1K hS]
 constructor
 ·intro h;have:=xR h hn;have e:dS S p i 3 / (nS S:Rat)*(nS S:Rat)=dS S p i 3:=by grind
  rw [e] at this;exact this
 ·intro h
  have h1:0 < 1 / (nS S:Rat):=by
   by_cases k:0 < 1 / (nS S:Rat)
   ·exact k
   ·exfalso
    have h2:=xu (show 0<=-(1 / (nS S:Rat)) by grind) (show 0<=(nS S:Rat) by grind);have e : -(1 / (nS S:Rat))*(nS S:Rat) = -1:=by grind
    rw [e] at h2;exact absurd h2 (by decide)
  have:=xR h h1
  grind
theorem q4u (hS:KZ S) (p:Nat->Rat) (h:dS S p 2 3≠0) (i:Nat):(S.f:Rat)*dL S p i 3 / dL S p 2 3=(S.f:Rat) / dS S p 2 3*dS S p i 3:=by
 have hn:=q2m hS;rw [q1K hS,q1K hS]
 grind
theorem q0f {S:Sta} (h:KZ S) {K:Nat} {p:Nat->Rat} (hp:∀ i,i < 3->Ht K (p i)) (i:Nat):∀ n,n<=3->Ht (n*(K+120)+1) (dL S p i n)
 | 0,_=>(qy (k:=0) (m:=1) (by decide) (by decide)).mono (by omega)
 | n+1,hn=>by
  have h0:=q0f h hp i n (by omega);have h2:=Yf h n;have h3:=(WO h n i).mul ((hp n (by omega)).sub (qy (k:=ww S n) (m:=21) (by omega) (by omega)));exact (h0.add h3).mono (by rw [Nat.succ_mul]; omega)
def upL (S:Sta) (p:Nat->Rat) (i j k:Nat):Rat:=if k=i then dL S p i j else dL S p k 3
theorem ZG (S:Sta) (p:Nat->Rat) (i j:Nat):upL S p i j i=dL S p i j:=if_pos rfl
theorem Jk {p:Nat->Rat} (h:k < i):upL S p i j k=dL S p k 3:=if_neg (by omega)
theorem q0O {p:Nat->Rat} (h:k < i+1):upL S p i 3 k=dL S p k 3:=by
 unfold upL
 split
 ·rename_i e; rw [e]
 ·rfl
theorem q4p {cp:Array Value} {p:Nat->Rat} (hS:KZ S) (hp2:cp.size=12) (hp4:PtV N w cp 0 p) (hkp:∀ i,i < 3->Ht K (p i)) (hK:K<=200) (hN:N<=w.heap.size) :
  Calls Tryz.prog 30 #[S.v,.agg cp] w (fun e w'=>∃ v,e=.returned (.tuple #[v,.int .i64 (if 0 < dS S p 2 3 then 0 else 20)])/\(0 < dS S p 2 3->PlV N w' v (raw (q0H S p)) (raw (q0G S p)))/\(¬ 0 < dS S p 2 3->v=q4h)/\Ext w w'):=by
 have HS:=q_h hS;have ZP:=q_h hp2;have HP:=q_h hp4;have HK:=q_h hkp;have HCB:Hid (∀ j,-1048576<=ww S j/\ww S j<=1048576):=Yf hS;have HMT:=q_h (fun (W9:World) (e:Ext w W9)=>Wj (N:=N) (w:=W9) hS (q_l hN e.size));unfold quV at HMT;clear hS hp2 hp4 hkp;obtain⟨dd,hdd⟩:=qf (dS S p 2 3);rw [<-hdd.out];obtain⟨cd,hcd⟩:=qf (if 0 < dd then (0:Int) else 20);rw [<-hcd.out];unfold Sta.v;go_enter Tryz.func30,Tryz.ntmps30;go_upto_region 1 with (fail);refine zK ?_;intro W hE hsz B0 B1 B2;obtain⟨p0,p1,p2,p3,p4,p5,p6,p7,p8,p9⟩:=zD B0;go_wp2_with (go_at_call 77; refine q_o ?_);refine (HMT.out W hE).mono ?_;rintro e W1 ⟨Am,cm,rfl,hMt,e1⟩;obtain⟨bm,om,rfl,-,-,hmr⟩:=hMt.addr (by omega);have HMR:=q_h hmr;replace B0:=e1.block B0;replace B1:=e1.block B1;replace B2:=e1.block B2;replace hE:=hE.trans e1;have hs1:=e1.size;clear p0 p1 p2 p3 p4 p5 p6 p7 p8 p9 hMt hmr HMT e1;obtain⟨p0,p1,p2,p3,p4,p5,p6,p7,p8,p9⟩:=zD B0;go_upto_region 3 with (fail);refine ql ?_;intro W2 hE2 hsz2 B5;have B5':W2.heap[W1.heap.size]?=some (.cells #[.int .i64 (ww S 0),.int .i64 (ww S 1),.int .i64 (ww S 2)] 3 (0,0)):=B5;obtain⟨g8,hg8⟩:∃ g8,g8=W1.heap.size:=⟨_,rfl⟩
 rw [<-hg8] at B5' ⊢;clear p0 p1 p2 p3 p4 p5 p6 p7 p8 p9 B5;go_upto_region 4 with (fail);refine ql ?_;intro W4 hE4 hsz4 B6;obtain⟨g9,hg9⟩:∃ g9,g9=W2.heap.size:=⟨_,rfl⟩
 rw [<-hg9] at B6 ⊢;have E24:=hE2.trans hE4;have HB0:=q_h (E24.block B0);have HB1:=q_h (E24.block B1);have HB2:=q_h (E24.block B2);have HB5:=q_h (hE4.block B5');have HE14:=q_h E24;replace hE:=hE.trans E24;have hgl:w.heap.size+3<=g8/\g8 < g9:=by have:=qI B5'; omega
 have hgW:W1.heap.size<=g9:=by omega
 have hU:vS N W4 g9 0 (fun k=>dL S p k 3):=⟨_,B6,rfl,rfl,fun j hj=>absurd hj (by omega)⟩
 have hg9l:g9 < W4.heap.size:=qI B6;have hN4:N<=W4.heap.size:=by have:=hE.size; omega
 clear B0 B1 B2 B5' B6 hE2 hE4 E24 hg8 hg9 hsz2 hsz4;go_wp2
 go_loopw [32] (fun iv wr=>∃ i:Nat,i<=3/\iv=.int .i64 i/\vS N wr g9 i (fun k=>dL S p k 3)/\Chg g9 (g9+1) W4 wr) (fun iv _=>3 - (intOf iv).toNat)
 case atStart=>exact⟨0,by omega,rfl,hU,Chg.refl _ _ _⟩
 case round =>
  clear hU;obtain⟨i,hi,rfl,hU,hC⟩:=hrel
  by_cases hi3:i < 3
  case neg =>
   obtain rfl:i=3:=by omega
   have hq3:decide (((3:Nat):Int) < 3)=false:=by decide
   have hEr:Ext w wr:=hC.ext hE (by omega);have hsr:=hC.size;have hNr:N<=wr.heap.size:=by omega
   obtain⟨d0,hd0⟩:=qf (dL S p 0 3);obtain⟨d1,hd1⟩:=qf (dL S p 1 3);obtain⟨d2,hd2⟩:=qf (dL S p 2 3);have hP0:=hU.at4 (k:=0) (by omega);have hP1:=hU.at4 (k:=1) (by omega);have hP2:=hU.at4 (k:=2) (by omega);rw [<-hd0.out] at hP0;rw [<-hd1.out] at hP1;rw [<-hd2.out] at hP2;have HP0:=q_h hP0;have HP1:=q_h hP1;have HP2:=q_h hP2;have hk0:Ht (3*K+361) d0:=by rw [hd0.out]; exact (q0f HS.out HK.out 0 3 (by omega)).mono (by omega)
   have hk1:Ht (3*K+361) d1:=by rw [hd1.out]; exact (q0f HS.out HK.out 1 3 (by omega)).mono (by omega)
   have hk2:Ht (3*K+361) d2:=by rw [hd2.out]; exact (q0f HS.out HK.out 2 3 (by omega)).mono (by omega)
   have hfb:=HS.out.f;have hcx:=HS.out.cx;have hcy:=HS.out.cy;have hkf:Ht 21 (S.f:Rat):=qy (k:=S.f) (by omega) (by omega);have hm0:=hkf.mul hk0;have hm1:=hkf.mul hk1;have hv0:=hm0.div hk2;have hv1:=hm1.div hk2;have HSZ:Hid (Sz (S.f:Rat)/\Sz d0/\Sz d1/\Sz ((S.f:Rat)*d0)/\Sz ((S.f:Rat)*d1)):=⟨hkf.sz (by omega),hk0.sz (by omega),hk1.sz (by omega),hm0.sz (by omega),hm1.sz (by omega)⟩
   have HSV:Hid (Sz ((S.f:Rat)*d0 / d2)/\Sz ((S.f:Rat)*d1 / d2)):=⟨hv0.sz (by omega),hv1.sz (by omega)⟩
   have HSC:Hid (Sz (S.cx:Rat)/\Sz (S.cy:Rat)):=⟨(qy (k:=S.cx) (m:=21) (by omega) (by omega)).sz (by omega),(qy (k:=S.cy) (m:=21) (by omega) (by omega)).sz (by omega)⟩
   have HS2:Hid (Sz d2):=hk2.sz (by omega);have HDP:Hid (0 < d2↔0 < dd):=by rw [Hid,hd2.out,hdd.out]; exact q4Q HS.out p 2
   have B0:=hC.blk HB0.out (.inl (by omega));have B2:=hC.blk HB2.out (.inl (by omega));clear hU hP0 hP1 hP2 hk0 hk1 hk2 hkf hm0 hm1 hv0 hv1 hC HB0 HB1 HB2 HB5 HE14 HMR;obtain⟨ns,As,ks,cs,A's,k's,c's,s0,s1,s2,s3,hRs⟩:=(HP2.out).opn;obtain⟨sg,hsg⟩:=qf d2.num.sign;go_wp2_with (go_at_call 54; refine q_o ?_);refine (Wq hRs HS2.out).mono ?_;rw [<-hsg.out];rintro e w5 ⟨rfl,e5⟩;clear s0 s1 s2 s3 hRs;replace B0:=e5.block B0;replace B2:=e5.block B2;have hE5:=hEr.trans e5;have hN5:N<=w5.heap.size:=by have:=e5.size; omega
   by_cases hpos:0 < d2
   case neg =>
    have t0:decide (sg<=0)=true:=q_t (by have:=mt zi.1 hpos; rw [<-hsg.out] at this; omega);have HN:Hid (¬ 0 < dd):=fun h=>hpos (HDP.out.2 h)
    clear hpos;go_upto_region 15 with (fail);clear t0;refine wp_region_lit ?_;refine wpList_plain rfl (fun K hK=>?_);go_simp;refine hK _ _ ?_;clear hK K;try simp only [nr]
    refine zk rfl 31 _ _ rfl (by rfl) (by rfl) B2 Kr (by rfl:Array.size _=8) (Eq.trans ((by rfl:Array.size _=8)) (Eq.symm ((by rfl:Array.size _=8)))) (by rfl) ?_;try simp only [nr]
    intro w6 D6 U6;refine wpList_plain rfl (fun K hK=>?_);go_simp;refine hK _ _ ?_;clear hK K;try simp only [nr]
    refine wpList_nil ?_;have E6:=U6.ext hE5 (by omega);clear U6 B0 B2;obtain⟨c0,c1,c2,c3,c4,c5,c6,c7⟩:=Zv D6;go_wp2;refine bodyPost_ret (v:=.tuple #[.agg #[.bool false,.slice none 0 0,.bool false,.slice none 0 0,.bool false,.slice none 0 0,.bool false,.slice none 0 0],.int .i64 20]) ?_ rfl ?_
    ·simp [results,Tryz.results30,c0,c1,c2,c3,c4,c5,c6,c7,go_sem]
    exact⟨_,by rw [hcd.out,if_neg HN.out],fun h=>absurd h HN.out,fun _=>rfl,E6⟩
   have t0:decide (sg<=0)=false:=q_f (by have:=zi.2 hpos; rw [<-hsg.out] at this; omega);have HPO:Hid (0 < dd):=HDP.out.1 hpos;have HD2:Hid (d2≠0):=by rw [Hid]; grind
   have HX:Hid ((S.f:Rat)*d0 / d2+(S.cx:Rat)=q0H S p/\(S.f:Rat)*d1 / d2+(S.cy:Rat)=q0G S p):=by
    have hne:dS S p 2 3≠0:=by
     have:=HPO.out;rw [hdd.out] at this
     grind
    unfold q0H q0G;rw [Hid,hd0.out,hd1.out,hd2.out,q4u HS.out p hne 0,q4u HS.out p hne 1];exact⟨by grind,by grind⟩
   clear hpos;go_upto_region 16 with (fail);clear t0;obtain⟨p0,p1,p2,p3,p4,p5,p6,p7,p8,p9⟩:=zD B0;obtain⟨ns,As,ks,cs,A's,k's,c's,s0,s1,s2,s3,hRs⟩:=((HP2.out.ext e5)).opn;obtain⟨nt,At,kt,ct,A't,k't,c't,t0,t1,t2,t3,hRt⟩:=((HP0.out.ext e5)).opn;simp only [Nat.zero_mul,Nat.one_mul,Nat.reduceMul,Nat.reduceAdd,Nat.add_zero,Nat.zero_add] at s0 s1 s2 s3 t0 t1 t2 t3;refine Wh [Mn.q w.heap.size 7,Mn.i S.f,Mn.rat N ((S.f:Int):Rat),Mn.q g9 0,Mn.rat N (d0),Mn.rat N ((S.f:Rat)*d0),Mn.q g9 8,Mn.rat N (d2),Mn.rc N ((S.f:Rat)*d0 / d2),Mn.rc N ((S.f:Rat)*d0 / d2),Mn.rat N ((S.f:Rat)*d0 / d2),Mn.i 0,Mn.blk w5.heap.size (.cells #[.bool false,.slice none 0 0,.bool false,.slice none 0 0] 29 (0,0)),Mn.any,Mn.any] [some 74,some 75,some 76,some 77,some 78,some 79,some 80,some 81,some 82,some 73,some 83,some 84,some 12,none,some 13] [13,14] [11] (rQ 13 2) 2 (by kernel_rfl) ?_ ?_ ?_
   ·show ∀ i,i < 15->_
    iterate 15 refine fs ?_ ?_
    ·exact fz
    all_goals intro hl hs; first | exact absurd hl (by decide) | exact absurd hs (by decide) | (clear hl hs; refine stp rfl ?_; intro ac wi eI hB hA K hK)
    have o2:=oOf (hB 2) rfl
    rotate_left
    obtain⟨_,s74,rfl⟩:=hA 0 74;have cc0:=eI.cell p7
    rotate_left
    obtain⟨_,s75,rfl⟩:=hA 1 75;clear hB hA
    ·go_simp;refine (zA (q_l (hN5) eI.size) S.f (by omega) (by omega)).mono ?_;rintro e wj ⟨vj,rfl,hj,ej⟩;go_wp2_with fail;exact hK.out _ _ ej hj
    have o9:=oOf (hB 9) rfl
    rotate_left
    obtain⟨_,s77,rfl⟩:=hA 3 77;clear hB hA;have cc0:=eI.cell t0;have cc1:=eI.cell t1;have cc2:=eI.cell t2;have cc3:=eI.cell t3
    ·go_simp;exact q_k hK (hRt.ext eI)
    obtain⟨x76,s76,j76⟩:=hA 2 76;replace j76:Mn.p (Mn.rat N ((S.f:Int):Rat)) x76 wi:=j76;obtain⟨x78,s78,j78⟩:=hA 4 78;replace j78:Mn.p (Mn.rat N (d0)) x78 wi:=j78;clear hB hA
    ·go_simp;refine (Ws j76 j78 HSZ.out.1 HSZ.out.2.1).mono ?_;rintro e wj ⟨vj,rfl,hj,ej⟩;go_wp2_with fail;exact hK.out _ _ ej hj
    have o9:=oOf (hB 9) rfl
    rotate_left
    obtain⟨_,s80,rfl⟩:=hA 6 80;clear hB hA;have cc0:=eI.cell s0;have cc1:=eI.cell s1;have cc2:=eI.cell s2;have cc3:=eI.cell s3
    ·go_simp;exact q_k hK (hRs.ext eI)
    obtain⟨x79,s79,j79⟩:=hA 5 79;replace j79:Mn.p (Mn.rat N ((S.f:Rat)*d0)) x79 wi:=j79;obtain⟨x81,s81,j81⟩:=hA 7 81;replace j81:Mn.p (Mn.rat N (d2)) x81 wi:=j81;clear hB hA
    ·go_simp;refine (Xk j79 j81 HSZ.out.2.2.2.1 HS2.out HD2.out).mono ?_;rintro e wj ⟨vj,rfl,hj,ej⟩;go_wp2_with fail;exact hK.out _ _ ej ⟨vj,rfl,hj⟩
    obtain⟨x82,s82,j82⟩:=hA 8 82;replace j82:Mn.p (Mn.rc N ((S.f:Rat)*d0 / d2)) x82 wi:=j82;clear hB hA
    ·go_simp;exact q_k hK j82
    obtain⟨x73,s73,j73⟩:=hA 9 73;replace j73:Mn.p (Mn.rc N ((S.f:Rat)*d0 / d2)) x73 wi:=j73;clear hB hA
    ·obtain⟨vj,rfl,hj⟩:=j73;go_simp;exact q_k hK hj
    clear hB hA
    ·go_simp;refine ql ?_;intro wj ej hszj BJ;exact hK.out _ _ ej ⟨_,rfl,eI.size,BJ⟩
    all_goals clear hB hA; go_simp; exact q_k hK rfl
   ·intro i hs;have hi':i=11:=by simpa using hs
    clear hs
    rcases hi' with rfl
    ·refine sft rfl (fun _ _ _ _ h=>h) ?_;intro ac wi eI hB hA;obtain⟨x73,s73,j73⟩:=hA 9 73;replace j73:Mn.p (Mn.rc N ((S.f:Rat)*d0 / d2)) x73 wi:=j73;clear hB hA;obtain⟨vj,rfl,hj⟩:=j73;refine⟨(.int .i64 0),.inl ⟨rfl,fun w9 _=>?_⟩,rfl⟩;go_simp
   intro vals wz eZ hJ;have J83:Mn.p (Mn.rat N ((S.f:Rat)*d0 / d2)) (vals 10) wz:=hJ 10 (by decide) (by decide);have J84:vals 11=_:=hJ 11 (by decide) (by decide);have J12:Mn.p (Mn.blk w5.heap.size (.cells #[.bool false,.slice none 0 0,.bool false,.slice none 0 0] 29 (0,0))) (vals 12) wz:=hJ 12 (by decide) (by decide);clear hJ;simp only [pr,Nat.reduceAdd,J84];clear J84
   generalize vals 10=z83 at J83 ⊢
   generalize vals 12=z12 at J12 ⊢
   obtain⟨gF,rfl,hgF,BF⟩:=J12;obtain⟨bz,Az,kz,cz,Az',kz',cz',rfl,hbz,gz1,gz2⟩:=qp.parts J83;obtain⟨y0,y1,y2,y3,y4,y5,y6,y7⟩:=cells4 BF;refine qh (i:=13) rfl (by kernel_rfl) (by kernel_rfl) (fun K hK=>?_);go_simp;refine hK.out _ _ ?_;clear hK K;try simp only [nr]
   refine qh (i:=14) rfl (by kernel_rfl) (by kernel_rfl) (fun K hK=>?_);go_simp;refine hK.out _ _ ?_;clear hK K;try simp only [nr]
   refine qi (by kernel_rfl) ?_ _;obtain⟨w7,E7,hBF,K7,hs7⟩:=kN (q:=(S.f:Rat)*d0 / d2) BF (by omega) hbz gz1 gz2;rw [E7];have E57:Ext w5 w7:=K7.ext eZ hgF;clear y0 y1 y2 y3 y4 y5 y6 y7 E7 K7 BF hs7 hbz gz1 gz2 eZ s0 s1 s2 s3 t0 t1 t2 t3 hRs hRt p0 p1 p2 p3 p4 p5 p6 p7 p8 p9;obtain⟨gX,hgX⟩:∃ gX,gX=gF:=⟨_,rfl⟩
   rw [<-hgX] at hBF hgF ⊢;clear hgX;have E7r:=e5.trans E57;have hE7:=hE5.trans E57;have hN7:N<=w7.heap.size:=by have:=E57.size; omega
   have hgX5:w5.heap.size<=gX:=hgF;replace B0:=E57.block B0;replace B2:=E57.block B2;obtain⟨p0,p1,p2,p3,p4,p5,p6,p7,p8,p9⟩:=zD B0;obtain⟨ns,As,ks,cs,A's,k's,c's,s0,s1,s2,s3,hRs⟩:=((HP2.out.ext E7r)).opn;obtain⟨nt,At,kt,ct,A't,k't,c't,t0,t1,t2,t3,hRt⟩:=((HP1.out.ext E7r)).opn;simp only [Nat.zero_mul,Nat.one_mul,Nat.reduceMul,Nat.reduceAdd,Nat.add_zero,Nat.zero_add] at s0 s1 s2 s3 t0 t1 t2 t3;clear hgF;go_upto_region 17 with (fail);refine Wh [Mn.q w.heap.size 7,Mn.i S.f,Mn.rat N ((S.f:Int):Rat),Mn.q g9 4,Mn.rat N (d1),Mn.rat N ((S.f:Rat)*d1),Mn.q g9 8,Mn.rat N (d2),Mn.rc N ((S.f:Rat)*d1 / d2),Mn.rc N ((S.f:Rat)*d1 / d2),Mn.rat N ((S.f:Rat)*d1 / d2),Mn.i 0,Mn.blk w7.heap.size (.cells #[.bool false,.slice none 0 0,.bool false,.slice none 0 0] 29 (0,0)),Mn.any,Mn.any] [some 86,some 87,some 88,some 89,some 90,some 91,some 92,some 93,some 94,some 85,some 95,some 96,some 14,none,some 15] [13,14] [11] (rQ 13 2) 2 (by kernel_rfl) ?_ ?_ ?_
   ·show ∀ i,i < 15->_
    iterate 15 refine fs ?_ ?_
    ·exact fz
    all_goals intro hl hs; first | exact absurd hl (by decide) | exact absurd hs (by decide) | (clear hl hs; refine stp rfl ?_; intro ac wi eI hB hA K hK)
    have o2:=oOf (hB 2) rfl
    rotate_left
    obtain⟨_,s86,rfl⟩:=hA 0 86;have cc0:=eI.cell p7
    rotate_left
    obtain⟨_,s87,rfl⟩:=hA 1 87;clear hB hA
    ·go_simp;refine (zA (q_l (hN7) eI.size) S.f (by omega) (by omega)).mono ?_;rintro e wj ⟨vj,rfl,hj,ej⟩;go_wp2_with fail;exact hK.out _ _ ej hj
    have o9:=oOf (hB 9) rfl
    rotate_left
    obtain⟨_,s89,rfl⟩:=hA 3 89;clear hB hA;have cc0:=eI.cell t0;have cc1:=eI.cell t1;have cc2:=eI.cell t2;have cc3:=eI.cell t3
    ·go_simp;exact q_k hK (hRt.ext eI)
    obtain⟨x88,s88,j88⟩:=hA 2 88;replace j88:Mn.p (Mn.rat N ((S.f:Int):Rat)) x88 wi:=j88;obtain⟨x90,s90,j90⟩:=hA 4 90;replace j90:Mn.p (Mn.rat N (d1)) x90 wi:=j90;clear hB hA
    ·go_simp;refine (Ws j88 j90 HSZ.out.1 HSZ.out.2.2.1).mono ?_;rintro e wj ⟨vj,rfl,hj,ej⟩;go_wp2_with fail;exact hK.out _ _ ej hj
    have o9:=oOf (hB 9) rfl
    rotate_left
    obtain⟨_,s92,rfl⟩:=hA 6 92;clear hB hA;have cc0:=eI.cell s0;have cc1:=eI.cell s1;have cc2:=eI.cell s2;have cc3:=eI.cell s3
    ·go_simp;exact q_k hK (hRs.ext eI)
    obtain⟨x91,s91,j91⟩:=hA 5 91;replace j91:Mn.p (Mn.rat N ((S.f:Rat)*d1)) x91 wi:=j91;obtain⟨x93,s93,j93⟩:=hA 7 93;replace j93:Mn.p (Mn.rat N (d2)) x93 wi:=j93;clear hB hA
    ·go_simp;refine (Xk j91 j93 HSZ.out.2.2.2.2 HS2.out HD2.out).mono ?_;rintro e wj ⟨vj,rfl,hj,ej⟩;go_wp2_with fail;exact hK.out _ _ ej ⟨vj,rfl,hj⟩
    obtain⟨x94,s94,j94⟩:=hA 8 94;replace j94:Mn.p (Mn.rc N ((S.f:Rat)*d1 / d2)) x94 wi:=j94;clear hB hA
    ·go_simp;exact q_k hK j94
    obtain⟨x85,s85,j85⟩:=hA 9 85;replace j85:Mn.p (Mn.rc N ((S.f:Rat)*d1 / d2)) x85 wi:=j85;clear hB hA
    ·obtain⟨vj,rfl,hj⟩:=j85;go_simp;exact q_k hK hj
    clear hB hA
    ·go_simp;refine ql ?_;intro wj ej hszj BJ;exact hK.out _ _ ej ⟨_,rfl,eI.size,BJ⟩
    all_goals clear hB hA; go_simp; exact q_k hK rfl
   ·intro i hs;have hi':i=11:=by simpa using hs
    clear hs
    rcases hi' with rfl
    ·refine sft rfl (fun _ _ _ _ h=>h) ?_;intro ac wi eI hB hA;obtain⟨x85,s85,j85⟩:=hA 9 85;replace j85:Mn.p (Mn.rc N ((S.f:Rat)*d1 / d2)) x85 wi:=j85;clear hB hA;obtain⟨vj,rfl,hj⟩:=j85;refine⟨(.int .i64 0),.inl ⟨rfl,fun w9 _=>?_⟩,rfl⟩;go_simp
   intro vals wz eZ hJ;have J95:Mn.p (Mn.rat N ((S.f:Rat)*d1 / d2)) (vals 10) wz:=hJ 10 (by decide) (by decide);have J96:vals 11=_:=hJ 11 (by decide) (by decide);have J14:Mn.p (Mn.blk w7.heap.size (.cells #[.bool false,.slice none 0 0,.bool false,.slice none 0 0] 29 (0,0))) (vals 12) wz:=hJ 12 (by decide) (by decide);clear hJ;simp only [pr,Nat.reduceAdd,J96];clear J96
   generalize vals 10=z95 at J95 ⊢
   generalize vals 12=z14 at J14 ⊢
   obtain⟨gF,rfl,hgF,BF⟩:=J14;obtain⟨bz,Az,kz,cz,Az',kz',cz',rfl,hbz,gz1,gz2⟩:=qp.parts J95;obtain⟨y0,y1,y2,y3,y4,y5,y6,y7⟩:=cells4 BF;refine qh (i:=13) rfl (by kernel_rfl) (by kernel_rfl) (fun K hK=>?_);go_simp;refine hK.out _ _ ?_;clear hK K;try simp only [nr]
   refine qh (i:=14) rfl (by kernel_rfl) (by kernel_rfl) (fun K hK=>?_);go_simp;refine hK.out _ _ ?_;clear hK K;try simp only [nr]
   refine qi (by kernel_rfl) ?_ _;obtain⟨w8,E8,hBG,K8,hs8⟩:=kN (q:=(S.f:Rat)*d1 / d2) BF (by omega) hbz gz1 gz2;rw [E8];have E78:Ext w7 w8:=K8.ext eZ hgF;clear y0 y1 y2 y3 y4 y5 y6 y7 E8 K8 BF hs8 hbz gz1 gz2 eZ s0 s1 s2 s3 t0 t1 t2 t3 hRs hRt p0 p1 p2 p3 p4 p5 p6 p7 p8 p9;replace hBF:=hBF.ext E78;replace B0:=E78.block B0;replace B2:=E78.block B2;have hE8:=hE7.trans E78;have hN8:N<=w8.heap.size:=by have:=E78.size; omega
   obtain⟨p0,p1,p2,p3,p4,p5,p6,p7,p8,p9⟩:=zD B0;obtain⟨ns,As,ks,cs,A's,k's,c's,Bs,hbs,ys,zs⟩:=hBF;obtain⟨s0,s1,s2,s3,-⟩:=cells4 Bs;have hRs:qp N w8 (.agg #[.bool ns,.slice As ks cs,.bool false,.slice A's k's c's]) ((S.f:Rat)*d0 / d2):=qp.mk hbs ys zs;obtain⟨nt,At,kt,ct,A't,k't,c't,Bt,hbt,yt,zt⟩:=hBG;obtain⟨t0,t1,t2,t3,-⟩:=cells4 Bt;have hRt:qp N w8 (.agg #[.bool nt,.slice At kt ct,.bool false,.slice A't k't c't]) ((S.f:Rat)*d1 / d2):=qp.mk hbt yt zt;go_upto_region 18 with (fail);refine jE [Mn.rat N ((S.f:Rat)*d0 / d2),Mn.q w.heap.size 8,Mn.q w.heap.size 8,Mn.i S.cx,Mn.rat N ((S.cx:Int):Rat),Mn.rat N ((S.f:Rat)*d0 / d2+(S.cx:Rat)),Mn.rat N ((S.f:Rat)*d1 / d2),Mn.q w.heap.size 8,Mn.q w.heap.size 9,Mn.i S.cy,Mn.rat N ((S.cy:Int):Rat),Mn.rat N ((S.f:Rat)*d1 / d2+(S.cy:Rat)),Mn.pl N ((S.f:Rat)*d0 / d2+(S.cx:Rat)) ((S.f:Rat)*d1 / d2+(S.cy:Rat)),Mn.any,Mn.any] [some 97,some 98,some 99,some 100,some 101,some 102,some 103,some 104,some 105,some 106,some 107,some 108,some 109,none,some 5] [13,14] (rQ 13 2) 2 (by kernel_rfl) ?_ ?_
   ·show ∀ i,i < 15->_
    iterate 15 refine fs ?_ ?_
    ·exact fz
    all_goals intro hl; first | exact absurd hl (by decide) | (clear hl; refine stp rfl ?_; intro ac wi eI hB hA K hK)
    have o12:=oOf (hB 12) rfl;clear hB hA;have cc0:=eI.cell s0;have cc1:=eI.cell s1;have cc2:=eI.cell s2;have cc3:=eI.cell s3
    ·go_simp;exact q_k hK (hRs.ext eI)
    have o2:=oOf (hB 2) rfl
    rotate_left
    obtain⟨_,s98,rfl⟩:=hA 1 98
    rotate_left
    obtain⟨_,s99,rfl⟩:=hA 2 99;have cc0:=eI.cell p8
    rotate_left
    obtain⟨_,s100,rfl⟩:=hA 3 100;clear hB hA
    ·go_simp;refine (zA (q_l hN8 eI.size) S.cx (by omega) (by omega)).mono ?_;rintro e wj ⟨vj,rfl,hj,ej⟩;go_wp2_with fail;exact hK.out _ _ ej hj
    obtain⟨x97,s97,j97⟩:=hA 0 97;replace j97:Mn.p (Mn.rat N ((S.f:Rat)*d0 / d2)) x97 wi:=j97;obtain⟨x101,s101,j101⟩:=hA 4 101;replace j101:Mn.p (Mn.rat N ((S.cx:Int):Rat)) x101 wi:=j101;clear hB hA
    ·go_simp;refine (Yl j97 j101 HSV.out.1 HSC.out.1).mono ?_;rintro e wj ⟨vj,rfl,hj,ej⟩;go_wp2_with fail;exact hK.out _ _ ej hj
    have o14:=oOf (hB 14) rfl;clear hB hA;have cc0:=eI.cell t0;have cc1:=eI.cell t1;have cc2:=eI.cell t2;have cc3:=eI.cell t3
    ·go_simp;exact q_k hK (hRt.ext eI)
    have o2:=oOf (hB 2) rfl
    rotate_left
    obtain⟨_,s104,rfl⟩:=hA 7 104
    rotate_left
    obtain⟨_,s105,rfl⟩:=hA 8 105;have cc0:=eI.cell p9
    rotate_left
    obtain⟨_,s106,rfl⟩:=hA 9 106;clear hB hA
    ·go_simp;refine (zA (q_l hN8 eI.size) S.cy (by omega) (by omega)).mono ?_;rintro e wj ⟨vj,rfl,hj,ej⟩;go_wp2_with fail;exact hK.out _ _ ej hj
    obtain⟨x103,s103,j103⟩:=hA 6 103;replace j103:Mn.p (Mn.rat N ((S.f:Rat)*d1 / d2)) x103 wi:=j103;obtain⟨x107,s107,j107⟩:=hA 10 107;replace j107:Mn.p (Mn.rat N ((S.cy:Int):Rat)) x107 wi:=j107;clear hB hA
    ·go_simp;refine (Yl j103 j107 HSV.out.2 HSC.out.2).mono ?_;rintro e wj ⟨vj,rfl,hj,ej⟩;go_wp2_with fail;exact hK.out _ _ ej hj
    obtain⟨x102,s102,j102⟩:=hA 5 102;replace j102:Mn.p (Mn.rat N ((S.f:Rat)*d0 / d2+(S.cx:Rat))) x102 wi:=j102;obtain⟨x108,s108,j108⟩:=hA 11 108;replace j108:Mn.p (Mn.rat N ((S.f:Rat)*d1 / d2+(S.cy:Rat))) x108 wi:=j108;clear hB hA
    ·obtain⟨ba,Aa,ka,ca,A'a,k'a,c'a,rfl,-,-,-⟩:=qp.parts j102;obtain⟨bb,Ab,kb,cb,A'b,k'b,c'b,rfl,-,-,-⟩:=qp.parts j108;go_simp;exact q_k hK (q2X j102 j108)
    all_goals clear hB hA; go_simp; exact q_k hK rfl
   intro vals wz eZ hJ;have J109:Mn.p (Mn.pl N ((S.f:Rat)*d0 / d2+(S.cx:Rat)) ((S.f:Rat)*d1 / d2+(S.cy:Rat))) (vals 12) wz:=hJ 12 (by decide) (by decide);clear hJ;simp only [pr,Nat.reduceAdd]
   generalize vals 12=z109 at J109 ⊢
   obtain⟨A1,n1,r1,A2,n2,r2,A3,n3,r3,A4,n4,r4,rfl,hX,hY⟩:=PlV.parts J109;replace B2:=eZ.block B2;refine qh (i:=13) rfl (by kernel_rfl) (by kernel_rfl) (fun K hK=>?_);rw [if_pos (by rfl)];refine yN 31 _ _ rfl (by rfl) (by rfl) B2 Kr (by rfl) (by rfl) (by rfl) ?_;intro w9 D9 U9;refine hK.out _ _ ?_;clear hK K;try simp only [nr]
   refine qh (i:=14) rfl (by kernel_rfl) (by kernel_rfl) (fun K hK=>?_);go_simp;refine hK.out _ _ ?_;clear hK K;try simp only [nr]
   refine qi (by kernel_rfl) ?_ _;have HF:Hid (PlV N w9 (.agg #[.bool (raw ((S.f:Rat)*d0 / d2+(S.cx:Rat))).b1,.slice A1 n1 r1,.bool (raw ((S.f:Rat)*d0 / d2+(S.cx:Rat))).b2,.slice A2 n2 r2,.bool (raw ((S.f:Rat)*d1 / d2+(S.cy:Rat))).b1,.slice A3 n3 r3,.bool (raw ((S.f:Rat)*d1 / d2+(S.cy:Rat))).b2,.slice A4 n4 r4]) (raw ((S.f:Rat)*d0 / d2+(S.cx:Rat))) (raw ((S.f:Rat)*d1 / d2+(S.cy:Rat)))):=⟨_,_,_,_,_,_,_,_,rfl,xy.upd hX U9 (by omega) (NoU.mk B2 (by decide)),xy.upd hY U9 (by omega) (NoU.mk B2 (by decide))⟩
   rw [HX.out.1,HX.out.2] at HF D9;have E9:=U9.ext (hE8.trans eZ) (by omega);clear U9 B2 hX hY s0 s1 s2 s3 t0 t1 t2 t3 hRs hRt Bs hbs ys zs Bt hbt yt zt p0 p1 p2 p3 p4 p5 p6 p7 p8 p9;obtain⟨c0,c1,c2,c3,c4,c5,c6,c7⟩:=Zv D9;go_wp2;refine bodyPost_ret (v:=.tuple #[.agg #[.bool (raw (q0H S p)).b1,.slice A1 n1 r1,.bool (raw (q0H S p)).b2,.slice A2 n2 r2,.bool (raw (q0G S p)).b1,.slice A3 n3 r3,.bool (raw (q0G S p)).b2,.slice A4 n4 r4],.int .i64 0]) ?_ rfl ?_
   ·simp [results,Tryz.results30,c0,c1,c2,c3,c4,c5,c6,c7,go_sem]
   exact⟨_,by rw [hcd.out,if_pos HPO.out],fun _=>HF.out,fun h=>absurd HPO.out h,E9⟩
  have hi3':(i:Int) < 3:=by omega
  have hEr:Ext w wr:=hC.ext hE (by omega);have hsr:=hC.size;go_upto_region 7 with (fail);go_wp2_with (go_at_call 45; refine q_o ?_);refine (zA (N:=N) (by omega) 0 (by omega) (by omega)).mono ?_;rintro e w5 ⟨vz,rfl,hvz,e5⟩;obtain⟨bz,Az,kz,cz,Az',kz',cz',rfl,hbz,gz1,gz2⟩:=qp.parts hvz;have hU5:vS N w5 g9 i (upL S p i 0):=(hU.ext e5).mono (q_r) (fun j hj=>(Jk hj).symm);obtain⟨u0,v0⟩:=hU5.there (o:=i*4) (by omega);obtain⟨u1,v1⟩:=hU5.there (o:=i*4+1) (by omega);obtain⟨u2,v2⟩:=hU5.there (o:=i*4+2) (by omega);obtain⟨u3,v3⟩:=hU5.there (o:=i*4+3) (by omega);have f0:=hU5.frozen (i*4);have f1:=hU5.frozen (i*4+1);have f2:=hU5.frozen (i*4+2);have f3:=hU5.frozen (i*4+3);go_upto_region 8 with (fail);have HZ0:Hid (upL S p i 0 i=((0:Int):Rat)):=ZG S p i 0;obtain⟨w6,E6,C6,S6,hU6⟩:=hU5.set hi3 (by omega) (by rw [HZ0.out]; exact hbz) (by rw [HZ0.out]; exact gz1) (by rw [HZ0.out]; exact gz2);rw [E6];have C46:=(hC.trans (e5.chg _ _)).trans C6;clear u0 u1 u2 u3 v0 v1 v2 v3 f0 f1 f2 f3 E6 C6 S6 hU5 hU hbz gz1 gz2 hvz hC e5;go_wp2
  go_loopw [40] (fun iv wr=>∃ j:Nat,j<=3/\iv=.int .i64 j/\vS N wr g9 (i+1) (upL S p i j)/\Chg g9 (g9+1) W4 wr) (fun iv _=>3 - (intOf iv).toNat)
  case atStart=>exact⟨0,by omega,rfl,hU6,C46⟩
  case round =>
   clear hU6 C46;obtain⟨j,hj,rfl,hU,hC⟩:=hrel
   by_cases hj3:j < 3
   case neg =>
    obtain rfl:j=3:=by omega
    have hq3:decide (((3:Nat):Int) < 3)=false:=by decide
    have HU2:=q_h (hU.mono (p':=fun k=>dL S p k 3) (q_r) (fun k hk=>q0O hk));clear hU;go_wp2;go_roundw
    case rel=>exact⟨i+1,by omega,by go_num,HU2.out,hC⟩
    case measure=>simp [intOf]; omega
   have hj3':(j:Int) < 3:=by omega
   have hi3':(i:Int) < 3:=by omega
   have hEr:Ext w wr:=hC.ext hE (by omega);have hsr:=hC.size;have hNr:N<=wr.heap.size:=by omega
   obtain⟨u,hu⟩:=qf (dL S p i j);obtain⟨x,hx⟩:=qf (p j);obtain⟨m,hm⟩:=qf (Yw S j i);obtain⟨c,hc⟩:=qf (ww S j);have hcb:=HCB.out j;rw [<-hc.out] at hcb;have E1r:=hC.ext HE14.out hgW;obtain⟨Aj,cj,qj,-,-,hrow⟩:=HMR.out j hj3;obtain⟨b2,off2,rfl,-,-,hat⟩:=hrow.addr (by omega);have q0:=E1r.cell qj;have hPm:=(hat i hi3).ext E1r;rw [<-hm.out] at hPm
   have q1:wr.cell? ⟨g8,j,none⟩=some (.int .i64 c):=by
    rw [qg (hC.blk HB5.out (.inl (by omega))),hc.out];have hj':j=0\/j=1\/j=2:=by omega
    rcases hj' with rfl | rfl | rfl <;> rfl
   have hPd:=hU.at4 (k:=i) (by omega);rw [ZG,<-hu.out] at hPd;have hPx:=((HP.out j hj3).ext hEr).at4 (hC.blk HB1.out (.inl (by omega)));rw [Nat.zero_add,<-hx.out] at hPx;have hkx:Ht K x:=by rw [hx.out]; exact HK.out j hj3
   have hkm:Ht 90 m:=by rw [hm.out]; exact WO HS.out j i
   have hku:Ht (3*(K+120)+1) u:=by rw [hu.out]; exact (q0f HS.out HK.out i j (by omega)).mono (by have:j*(K+120)<=3*(K+120):=Nat.mul_le_mul_right _ (by omega); omega)
   have hk1:=hkx.sub (qy (k:=c) (m:=21) (by omega) (by omega));have hk2:=hkm.mul hk1;have HSU:Hid (Sz u/\Sz x/\Sz (x - (c:Rat))/\Sz (m*(x - (c:Rat)))/\Sz m/\Sz (c:Rat)):=⟨hku.sz (by omega),hkx.sz (by omega),hk1.sz (by omega),hk2.sz (by omega),hkm.sz (by omega),(qy (k:=c) (m:=21) (by omega) (by omega)).sz (by omega)⟩
   have HNX:Hid (upL S p i (j+1) i=u+m*(x - (c:Rat))):=by rw [Hid,ZG,hu.out,hm.out,hc.out,hx.out]; rfl
   clear hkx hku hk1 hk2 hkm hat hrow qj;obtain⟨ns,As,ks,cs,A's,k's,c's,s0,s1,s2,s3,hRs⟩:=(hPd).opn;obtain⟨nt,At,kt,ct,A't,k't,c't,t0,t1,t2,t3,hRt⟩:=(hPx).opn;obtain⟨nr,Ar,kr,cr,A'r,k'r,c'r,r0,r1,r2,r3,hRr⟩:=(hPm).opn;go_upto_region 11 with (fail);refine jE [Mn.i (i:Int),Mn.i (i:Int),Mn.q g9 (i*4),Mn.rat N (u),Mn.eq (.slice (some ⟨bm,om,none⟩) 3 cm),Mn.i (j:Int),Mn.q bm (om+j),Mn.eq (.slice (some ⟨b2,off2,none⟩) 3 cj),Mn.i (i:Int),Mn.q b2 (off2+i*4),Mn.rat N (m),Mn.i (j:Int),Mn.q (w.heap.size+1) (j*4),Mn.rat N (x),Mn.eq (.slice (some ⟨g8,0,none⟩) 3 3),Mn.i (j:Int),Mn.q g8 j,Mn.i c,Mn.rat N ((c:Int):Rat),Mn.rat N (x - (c:Rat)),Mn.rat N (m*(x - (c:Rat))),Mn.rat N (u+m*(x - (c:Rat))),Mn.q g9 (i*4),Mn.any] [some 43,some 44,some 45,some 46,some 47,some 48,some 49,some 50,some 51,some 52,some 53,some 54,some 55,some 56,some 57,some 58,some 59,some 60,some 61,some 62,some 63,some 64,some 65,none] [23] (rQ 23 1) 1 (by kernel_rfl) ?_ ?_
   ·show ∀ i,i < 24->_
    iterate 24 refine fs ?_ ?_
    ·exact fz
    all_goals intro hl; first | exact absurd hl (by decide) | (clear hl; refine stp rfl ?_; intro ac wi eI hB hA K hK)
    have o10:=oOf (hB 10) rfl
    rotate_left
    have o10:=oOf (hB 10) rfl
    rotate_left
    have o9:=oOf (hB 9) rfl;obtain⟨_,s44,rfl⟩:=hA 1 44
    rotate_left
    obtain⟨_,s45,rfl⟩:=hA 2 45;clear hB hA;have cc0:=eI.cell s0;have cc1:=eI.cell s1;have cc2:=eI.cell s2;have cc3:=eI.cell s3
    ·go_simp;exact q_k hK (hRs.ext eI)
    have o6:=oOf (hB 6) rfl
    rotate_left
    have o11:=oOf (hB 11) rfl
    rotate_left
    obtain⟨_,s47,rfl⟩:=hA 4 47;obtain⟨_,s48,rfl⟩:=hA 5 48
    rotate_left
    obtain⟨_,s49,rfl⟩:=hA 6 49;have cc0:=eI.cell q0
    rotate_left
    have o10:=oOf (hB 10) rfl
    rotate_left
    obtain⟨_,s50,rfl⟩:=hA 7 50;obtain⟨_,s51,rfl⟩:=hA 8 51
    rotate_left
    obtain⟨_,s52,rfl⟩:=hA 9 52;clear hB hA;have cc0:=eI.cell r0;have cc1:=eI.cell r1;have cc2:=eI.cell r2;have cc3:=eI.cell r3
    ·go_simp;exact q_k hK (hRr.ext eI)
    have o11:=oOf (hB 11) rfl
    rotate_left
    have o3:=oOf (hB 3) rfl;obtain⟨_,s54,rfl⟩:=hA 11 54
    rotate_left
    obtain⟨_,s55,rfl⟩:=hA 12 55;clear hB hA;have cc0:=eI.cell t0;have cc1:=eI.cell t1;have cc2:=eI.cell t2;have cc3:=eI.cell t3
    ·go_simp;exact q_k hK (hRt.ext eI)
    have o8:=oOf (hB 8) rfl
    rotate_left
    have o11:=oOf (hB 11) rfl
    rotate_left
    obtain⟨_,s57,rfl⟩:=hA 14 57;obtain⟨_,s58,rfl⟩:=hA 15 58
    rotate_left
    obtain⟨_,s59,rfl⟩:=hA 16 59;have cc0:=eI.cell q1
    rotate_left
    obtain⟨_,s60,rfl⟩:=hA 17 60;clear hB hA
    ·go_simp;refine (zA (q_l hNr eI.size) c (by omega) (by omega)).mono ?_;rintro e wj ⟨vj,rfl,hj,ej⟩;go_wp2_with fail;exact hK.out _ _ ej hj
    obtain⟨x56,s56,j56⟩:=hA 13 56;replace j56:Mn.p (Mn.rat N (x)) x56 wi:=j56;obtain⟨x61,s61,j61⟩:=hA 18 61;replace j61:Mn.p (Mn.rat N ((c:Int):Rat)) x61 wi:=j61;clear hB hA
    ·go_simp;refine (q2h j56 j61 HSU.out.2.1 HSU.out.2.2.2.2.2).mono ?_;rintro e wj ⟨vj,rfl,hj,ej⟩;go_wp2_with fail;exact hK.out _ _ ej hj
    obtain⟨x53,s53,j53⟩:=hA 10 53;replace j53:Mn.p (Mn.rat N (m)) x53 wi:=j53;obtain⟨x62,s62,j62⟩:=hA 19 62;replace j62:Mn.p (Mn.rat N (x - (c:Rat))) x62 wi:=j62;clear hB hA
    ·go_simp;refine (Ws j53 j62 HSU.out.2.2.2.2.1 HSU.out.2.2.1).mono ?_;rintro e wj ⟨vj,rfl,hj,ej⟩;go_wp2_with fail;exact hK.out _ _ ej hj
    obtain⟨x46,s46,j46⟩:=hA 3 46;replace j46:Mn.p (Mn.rat N (u)) x46 wi:=j46;obtain⟨x63,s63,j63⟩:=hA 20 63;replace j63:Mn.p (Mn.rat N (m*(x - (c:Rat)))) x63 wi:=j63;clear hB hA
    ·go_simp;refine (Yl j46 j63 HSU.out.1 HSU.out.2.2.2.1).mono ?_;rintro e wj ⟨vj,rfl,hj,ej⟩;go_wp2_with fail;exact hK.out _ _ ej hj
    have o9:=oOf (hB 9) rfl;obtain⟨_,s43,rfl⟩:=hA 0 43
    rotate_left
    all_goals clear hB hA; go_simp; exact q_k hK rfl
   intro vals wz eZ hJ;have J64:Mn.p (Mn.rat N (u+m*(x - (c:Rat)))) (vals 21) wz:=hJ 21 (by decide) (by decide);have J65:vals 22=_:=hJ 22 (by decide) (by decide);clear hJ;simp only [pr,Nat.reduceAdd,J65];clear J65
   generalize vals 21=z64 at J64 ⊢
   obtain⟨bz,Az,kz,cz,Az',kz',cz',rfl,hbz,gz1,gz2⟩:=qp.parts J64;have hU2:vS N wz g9 i (upL S p i (j+1)):=(hU.ext eZ).mono (by omega) (fun k hk=>by rw [Jk hk,Jk hk]);obtain⟨u0,v0⟩:=hU2.there (o:=i*4) (by omega);obtain⟨u1,v1⟩:=hU2.there (o:=i*4+1) (by omega);obtain⟨u2,v2⟩:=hU2.there (o:=i*4+2) (by omega);obtain⟨u3,v3⟩:=hU2.there (o:=i*4+3) (by omega);have f0:=hU2.frozen (i*4);have f1:=hU2.frozen (i*4+1);have f2:=hU2.frozen (i*4+2);have f3:=hU2.frozen (i*4+3);refine qh (i:=23) rfl (by kernel_rfl) (by kernel_rfl) (fun K hK=>?_);go_simp;refine hK.out _ _ ?_;clear hK K;try simp only [nr]
   refine qi (by kernel_rfl) ?_ _;rw [<-HNX.out] at hbz gz1 gz2;obtain⟨w9,E9,C9,S9,hU9⟩:=hU2.set hi3 (by omega) hbz gz1 gz2;rw [E9];have CN:=(hC.trans (eZ.chg _ _)).trans C9;clear u0 u1 u2 u3 v0 v1 v2 v3 f0 f1 f2 f3 s0 s1 s2 s3 t0 t1 t2 t3 r0 r1 r2 r3 q0 q1 E9 C9 S9 hU hU2 hbz gz1 gz2 eZ hC;go_wp2;go_roundw
   case rel=>exact⟨j+1,by omega,by go_num,hU9,CN⟩
   case measure=>simp [intOf]; omega
structure Chs where
 best:Int
 u:Int
 v:Int
 least:Int
def Chs.cells (c:Chs):List Value:=[.int .i64 c.best,.int .i64 c.u,.int .i64 c.v]
def Qj (base:Nat) (w:World) (v:Value) (ts:List Chs):Prop:=base<=w.heap.size/\w.ownsRow base 146 3 v ts.length (ts.flatMap Chs.cells)
theorem XI:∀ (ts:List Chs) (k:Nat) (t:Chs) (r:Nat),ts[k]?=some t->r < 3->(ts.flatMap Chs.cells)[k*3+r]?=t.cells[r]?
 | [],_,_,_,h,_=>by simp at h
 | a :: ts,0,t,r,h,hr=>by
  simp only [List.getElem?_cons_zero,Option.some.injEq] at h;subst h;rw [List.flatMap_cons,Nat.zero_mul,Nat.zero_add,List.getElem?_append_left (by show r < 3; exact hr)]
 | a :: ts,k+1,t,r,h,hr=>by
  rw [List.getElem?_cons_succ] at h;rw [List.flatMap_cons,List.getElem?_append_right (by show 3<=_; omega)];have:=XI ts k t r h hr;rw [<-this]
  show (ts.flatMap Chs.cells)[(k+1)*3+r - 3]?=_
  congr 1
  omega
theorem Qj.nil (h:base<=w.heap.size):Qj base w (.slice none 0 0) []:=⟨h,by simp,.inl ⟨rfl,rfl⟩⟩
theorem Qj.form {ts:List Chs} (h:Qj base w v ts):∃ A c,v=.slice A ts.length c:=by
 rcases h.2.2 with ⟨rfl,h0⟩ | ⟨g,cap,cur,rfl,_⟩
 ·exact⟨_,_,by rw [h0]⟩
 ·exact⟨_,_,rfl⟩
theorem Qj.ext {ts:List Chs} (h:Qj base w v ts) (e:Ext w w'):Qj base w' v ts:=by
 refine⟨q_l h.1 e.size,h.2.1,?_⟩
 rcases h.2.2 with h0 | ⟨g,cap,cur,hv,hb,hh,h1,h2,h3,h4⟩
 ·exact .inl h0
 ·exact .inr ⟨g,cap,cur,hv,hb,e.block hh,h1,h2,h3,h4⟩
theorem Qj.mono {base':Nat} {ts:List Chs} (h:Qj base w v ts) (hb:base'<=base):Qj base' w v ts:=by
 refine⟨q_l hb h.1,h.2.1,?_⟩
 rcases h.2.2 with h0 | ⟨g,cap,cur,hv,hB,hh,h1,h2,h3,h4⟩
 ·exact .inl h0
 ·exact .inr ⟨g,cap,cur,hv,q_l hb hB,hh,h1,h2,h3,h4⟩
theorem Qj.cell {ts:List Chs} (h:Qj base w (.slice A n c) ts) {t:Chs} (ht:ts[k]?=some t):∃ g,A=some ⟨g,0,none⟩/\∀ r,r < 3->w.cell? ⟨g,k*3+r,none⟩=t.cells[r]?:=by
 have hk:=(List.getElem?_eq_some_iff.1 ht).1
 rcases h.2.2 with ⟨-,h⟩ | ⟨g,cap,cur,hv,hb,hg,hnc,hcm,hcs,htk⟩
 ·omega
 ·injection hv with e1 e2 e3
  refine⟨g,e1,fun r hr=>?_⟩;rw [qg hg,<-XI ts k t r ht hr,<-htk];rw [List.getElem?_take,if_pos (by omega)]
  simp
end Go.Proofs.YtphpkhoeplcedaaGreat
