import Derived.Test.YtphpkhoeplcedaaGreatWb23
import Derived.Deep.Slices
import Derived.Deep.Strs
import Derived.Lib.SmallJoins
import Derived.ProofKit
import Derived.OpenShut
import Derived.Below
import Derived.WideKeyPair
set_option linter.all false
set_option maxHeartbeats 8000000
namespace Go.Proofs.YtphpkhoeplcedaaGreat
open Go.RowKit
variable {w:World} {N n i m:Nat} {v:Value} {G:Grd} {x:Rat} {z:Int} {S:Sta}
def RetOp (w:World) (n:Nat) (z y:Nat->Int) (e:Ending) (w':World):Prop :=
 ∃ A1 c1 A2 c2,e=.returned (.tuple #[.slice A1 n c1,.slice A2 n c2])/\TwI w.heap.size w' (.slice A1 n c1) (.slice A2 n c2) (izL z n) (izL y n)/\Ext w w'
theorem q0t {I:Nat->Ras} {W u v l:Int} (h:¬ i < m):wX m I W ⟨i,u,v,l⟩=0:=by
 unfold wX;rw [if_neg (by simp only; omega),if_neg (by simp only; omega)]
theorem q2h {I:Nat->Ras} {W u v l:Int} (h:i < m):wX m I W ⟨i,u,v,l⟩=(I i).px (v*W+u).toNat:=by
 unfold wX;rw [if_neg (by simp only; omega),if_pos (by simp only; omega)]
 rfl
theorem q2v {S:Nat->Sta} {W H X Y:Int} (h:z=zK\/(0<=(jG G S W H X Y z n).best/\(jG G S W H X Y z n).least<=q3j (S n) X Y)):jG G S W H X Y z (n+1)=jG G S W H X Y z n:=by
 rw [jG,if_pos h]
theorem Vu {p:Nat->Rat} {W H:Int} (h:xM G S p W H=true):0 < dS S p 2 3/\0<=kL (jU S p) W/\0<=kL (jT S p) H:=by
 unfold xM at h;rw [Bool.and_eq_true,Bool.and_eq_true] at h;exact⟨of_decide_eq_true h.1,(of_decide_eq_true h.2.1).1,(of_decide_eq_true h.2.1).2⟩
theorem q3n {n:Int} (h:0<=kL x n):kL x n < n:=by
 have h1:=Zb.1 h;rw [q0S h1];exact h1.2
set_option maxRecDepth 100000 in
theorem q1f {lo0 hi0:Nat} {vg vs vi:Value} {S:Nat->Sta} {I:Nat->Ras} (h:yg N lo0 hi0 w vg G) (hG:GOk G) (hs:StsV w vs n S) (hok:∀ i,i < n->ZK (S i)) (him:ImV w vi m I) (W H:Int) (hI:∀ i,i < m->(I i).wd=W/\(I i).ht=H/\((I i).n:Int)=W*H) (hW0:0<=W) (hH0:0<=H) (hW:W<=64) (hH:H<=64) (hN:N<=w.heap.size) :
  Calls Tryz.prog 37 #[vg,vs,.int .i64 W,.int .i64 H,vi] w (RetOp w G.n (q5x G S n W H) (q5j G S n W H m I)):=by
 obtain⟨A,c,rfl,hnc,hcm,hz⟩:=h.parts;obtain⟨As,cs,rfl,hsc,hscm,hst⟩:=hs;obtain⟨Ai,ci,rfl,hic,hicm,hig⟩:=him;unfold maxLen at hscm hicm;have HG:=q_h h;have HGO:=q_h hG;have HOK:=q_h hok;have HST:=q_h hst;have HIG:=q_h hig;have HIW:=q_h hI;have g1:=hG.w0;have g2:=hG.w1;have g3:=hG.h0;have g4:=hG.h1;have g5:=hG.s0;have g6:=hG.s1;have g7:=hG.x0;have g8:=hG.x1;have g9:=hG.y0;have g10:=hG.y1;have h3:G.wd*G.ht<=64*64:=Int.mul_le_mul g2 g4 (by omega) (by omega);have HN:=q_h hG.n;have hn4:G.n<=4096:=by have:=hG.n; omega
 obtain⟨bz,oz,rfl,hzc⟩:=hz.addr (by have:0 < G.wd*G.ht:=Int.mul_pos (by omega) (by omega); have:=hG.n; omega);have HZ:=q_h hzc;obtain⟨zb,hzb⟩:=qf (q5x G S n W H);obtain⟨zy,hzy⟩:=qf (q5j G S n W H m I);rw [<-hzb.out,<-hzy.out];clear h hG hz h3 hzc hok hst hig hI;go_enter Tryz.func37,Tryz.ntmps37;go_upto_region 1 with (fail);refine ql ?_;intro W0 hE hsz B0;obtain⟨a0,a1,a2,a3,a4,a5⟩:=qG B0;have HB0:=q_h B0;clear B0;go_wp2_with fail
 go_loopw [28,10,11] (fun kv l1 l2 wr=>∃ k:Nat,k<=G.n/\kv=.int .i64 (k:Int)/\TwI W0.heap.size wr l1 l2 (izL zb k) (izL zy k)/\Ext W0 wr) (fun kv _ _ _=>G.n - (intOf kv).toNat)
 case atStart=>exact⟨0,Nat.zero_le _,rfl,TwI.nil (q_r),Ext.refl _⟩
 case round =>
  clear a0 a1 a2 a3 a4 a5;obtain⟨k,hk,rfl,HT1,hE1⟩:=hrel;obtain⟨A1,c1,rfl,-⟩:=HT1.1.form;obtain⟨A2,c2,rfl,-⟩:=HT1.2.1.form;have hl1:(izL zb k).length=k:=Kz zb k;have hl2:(izL zy k).length=k:=Kz zy k;rw [hl1,hl2] at HT1 ⊢
  by_cases hlt:k < G.n
  case neg =>
   have hke:k=G.n:=by omega
   have HG9:Hid (TwI W0.heap.size wr (.slice A1 G.n c1) (.slice A2 G.n c2) (izL zb G.n) (izL zy G.n)):=by rw [Hid,<-hke]; exact HT1
   have t1:decide ((k:Int) < (G.n:Int))=false:=q_f (by omega);rw [hke] at t1 ⊢;clear hke hlt HT1 hl1 hl2;go_wp2;go_ret2;refine⟨A1,c1,A2,c2,rfl,⟨HG9.out.1.low (by omega),HG9.out.2.1.low (by omega),HG9.out.2.2⟩,hE.trans hE1⟩
  have t1:decide ((k:Int) < (G.n:Int))=true:=q_t (by omega);have HT1':=q_h HT1;clear HT1 hl1 hl2;have B0:=hE1.block HB0.out;obtain⟨a0,a1,a2,a3,a4,a5⟩:=qG B0;obtain⟨z,hz⟩:=qf (G.z k);have p0:=(hE.trans hE1).cell (HZ.out k hlt);rw [<-hz.out] at p0;go_upto_region 5 with (fail);clear p0;obtain⟨W1,hwx⟩:∃ W1,W1=wr:=⟨_,rfl⟩
  subst hwx;obtain⟨wdn,hwdn⟩:∃ wdn:Nat,(wdn:Int)=G.wd:=⟨G.wd.toNat,by omega⟩
  have hwt:G.wd.toNat=wdn:=by omega
  have hwp:0 < wdn:=by omega
  obtain⟨kx,hkx⟩:=qf (k % wdn);obtain⟨ky,hky⟩:=qf (k / wdn);have hkxb:kx < wdn:=by rw [hkx.out]; exact Nat.mod_lt _ hwp
  have hkyb:ky < 64:=by
   rw [hky.out];refine Nat.div_lt_of_lt_mul ?_;have e1:((wdn*G.ht.toNat:Nat):Int)=G.wd*G.ht:=by rw [Int.natCast_mul,hwdn]; congr 1; omega
   have e2:wdn*G.ht.toNat<=wdn*64:=Nat.mul_le_mul_left _ (by omega);have:=HN.out;omega
  have q1:((k:Int).tmod G.wd)=(kx:Int):=by rw [<-hwdn,hkx.out]; exact (Int.ofNat_tmod k wdn).symm
  have q2:((k:Int).tdiv G.wd)=(ky:Int):=by rw [<-hwdn,hky.out]; exact (Int.ofNat_tdiv k wdn).symm
  have q3:(G.wd == 0)=false:=by rw [beq_eq_false_iff_ne]; omega
  have q8:¬ G.wd=0:=by omega
  have q9:IntKind.i64.wrap (ky:Int)=(ky:Int):=IntWalk.i64_in _ (by omega);have mx:0<=(kx:Int)*G.st/\(kx:Int)*G.st<=64*65536:=⟨Int.mul_nonneg (by omega) (by omega),Int.mul_le_mul (by omega) g6 (by omega) (by omega)⟩
  have my:0<=(ky:Int)*G.st/\(ky:Int)*G.st<=64*65536:=⟨Int.mul_nonneg (by omega) (by omega),Int.mul_le_mul (by omega) g6 (by omega) (by omega)⟩
  obtain⟨X,hX⟩:=qf (G.x0+(kx:Int)*G.st);obtain⟨Y,hY⟩:=qf (G.y0+(ky:Int)*G.st);have hXb : -1048576<=X/\X<=5242880:=by rw [hX.out]; omega
  have hYb : -1048576<=Y/\Y<=5242880:=by rw [hY.out]; omega
  have HXY:Hid (q1t G S n W H k=jG G S W H X Y z n):=by
   rw [Hid,hX.out,hY.out,hkx.out,hky.out,hz.out,<-hwt]; rfl
  obtain⟨px,hpx⟩:=qf ((kx:Int)*G.st);obtain⟨py,hpy⟩:=qf ((ky:Int)*G.st);have q4:IntKind.i64.wrap ((kx:Int)*G.st)=px:=by rw [hpx.out]; exact IntWalk.i64_in _ (by omega)
  have q5:IntKind.i64.wrap ((ky:Int)*G.st)=py:=by rw [hpy.out]; exact IntWalk.i64_in _ (by omega)
  have q6:IntKind.i64.wrap (G.x0+px)=X:=by rw [hpx.out,<-hX.out]; exact IntWalk.i64_in _ (by omega)
  have q7:IntKind.i64.wrap (G.y0+py)=Y:=by rw [hpy.out,<-hY.out]; exact IntWalk.i64_in _ (by omega)
  have HZk:=q_h hz.out;clear mx my hkxb hkyb hwt hwp hwdn hz;refine xe [Mn.q w.heap.size 0,Mn.i G.x0,Mn.i (k:Int),Mn.q w.heap.size 3,Mn.i G.wd,Mn.i (kx:Int),Mn.q w.heap.size 2,Mn.i G.st,Mn.i px,Mn.i X,Mn.q w.heap.size 1,Mn.i G.y0,Mn.i (k:Int),Mn.q w.heap.size 3,Mn.i G.wd,Mn.i (ky:Int),Mn.q w.heap.size 2,Mn.i G.st,Mn.i py,Mn.i Y,Mn.i X,Mn.i Y] (sM [33,34,35,36,37,38,39,40,41,42,43,44,45,46,47,48,49,50,51,52,17,18]) [] (rQ 22 0) 0 (by kernel_rfl) ?_ ?_
  ·show ∀ i,i < 22->_
   iterate 22 refine fs ?_ ?_
   ·exact fz
   all_goals intro hl; clear hl; refine stp rfl ?_; intro ac wi eI hB hA K hK
   have o5:=oOf (hB 5) rfl
   rotate_left
   obtain⟨_,s33,rfl⟩:=hA 0 33;have cc0:=eI.cell a0
   rotate_left
   have o12:=oOf (hB 12) rfl
   rotate_left
   have o5:=oOf (hB 5) rfl
   rotate_left
   obtain⟨_,s36,rfl⟩:=hA 3 36;have cc0:=eI.cell a3
   rotate_left
   obtain⟨_,s35,rfl⟩:=hA 2 35;obtain⟨_,s37,rfl⟩:=hA 4 37
   rotate_left
   have o5:=oOf (hB 5) rfl
   rotate_left
   obtain⟨_,s39,rfl⟩:=hA 6 39;have cc0:=eI.cell a2
   rotate_left
   obtain⟨_,s38,rfl⟩:=hA 5 38;obtain⟨_,s40,rfl⟩:=hA 7 40
   rotate_left
   obtain⟨_,s34,rfl⟩:=hA 1 34;obtain⟨_,s41,rfl⟩:=hA 8 41
   rotate_left
   have o5:=oOf (hB 5) rfl
   rotate_left
   obtain⟨_,s43,rfl⟩:=hA 10 43;have cc0:=eI.cell a1
   rotate_left
   have o12:=oOf (hB 12) rfl
   rotate_left
   have o5:=oOf (hB 5) rfl
   rotate_left
   obtain⟨_,s46,rfl⟩:=hA 13 46;have cc0:=eI.cell a3
   rotate_left
   obtain⟨_,s45,rfl⟩:=hA 12 45;obtain⟨_,s47,rfl⟩:=hA 14 47
   rotate_left
   have o5:=oOf (hB 5) rfl
   rotate_left
   obtain⟨_,s49,rfl⟩:=hA 16 49;have cc0:=eI.cell a2
   rotate_left
   obtain⟨_,s48,rfl⟩:=hA 15 48;obtain⟨_,s50,rfl⟩:=hA 17 50
   rotate_left
   obtain⟨_,s44,rfl⟩:=hA 11 44;obtain⟨_,s51,rfl⟩:=hA 18 51
   rotate_left
   obtain⟨_,s42,rfl⟩:=hA 9 42
   rotate_left
   obtain⟨_,s52,rfl⟩:=hA 19 52
   rotate_left
   all_goals clear hB hA; go_simp; exact q_k hK rfl
  intro vals wz eZ hJ;have J17:vals 20=_:=hJ 20 (by decide) (by decide);have J18:vals 21=_:=hJ 21 (by decide) (by decide);clear hJ;simp only [pr,Nat.reduceAdd,J17,J18];clear J17 J18;refine qg (by kernel_rfl) ?_ _;obtain⟨W2,hwx⟩:∃ W2,W2=wz:=⟨_,rfl⟩
  subst hwx;have HXb:=q_h hXb;have HYb:=q_h hYb;have hE02:=hE1.trans eZ;have HTX:=q_h (HT1'.out.ext eZ);have hEw:Ext w W2:=hE.trans hE02;have HBG:=q_h (eZ.block B0);have hN2:N<=W2.heap.size:=by have:=hEw.size; omega
  clear q1 q2 q3 q4 q5 q6 q7 q8 q9 a0 a1 a2 a3 a4 a5 B0 HB0 hkx hky hX hY hpx hpy hE1 HT1' hXb hYb eZ
  go_upto_block 2 with (fail)
  go_cut [10,11,14,15] (fun l1 l2 bv yv wx=>∃ b u v l:Int,l1=.slice A1 k c1/\l2=.slice A2 k c2/\bv=.int .i64 b/\yv=.int .i64 (wX m I W ⟨b,u,v,l⟩)/\Hid (jG G S W H X Y z n=⟨b,u,v,l⟩)/\Ext W2 wx)
  case first =>
   go_wp2_with fail
   go_loopw [55,14,15,16] (fun iv bv yv lv wx=>∃ (i:Nat) (b u v l:Int),i<=n/\iv=.int .i64 (i:Int)/\bv=.int .i64 b/\yv=.int .i64 (wX m I W ⟨b,u,v,l⟩)/\lv=.int .i64 l/\Hid (jG G S W H X Y z i=⟨b,u,v,l⟩)/\Ext W2 wx) (fun iv _ _ _ _=>n - (intOf iv).toNat)
   case atStart=>exact⟨0,-1,0,0,0,Nat.zero_le _,rfl,rfl,rfl,rfl,rfl,Ext.refl _⟩
   case round =>
    obtain⟨i,b,u,v,l,hi,rfl,rfl,rfl,rfl,HC,hC⟩:=hrel
    by_cases hin:i < n
    case neg =>
     obtain rfl:i=n:=by omega
     have t2:decide ((i:Int) < (i:Int))=false:=q_f (by omega);go_wp2_with fail
     go_meet
     exact⟨b,u,v,l,rfl,rfl,rfl,rfl,HC,hC⟩
    have t2:decide ((i:Int) < (n:Int))=true:=q_t (by omega);obtain⟨yv,hyv⟩:=qf (wX m I W ⟨b,u,v,l⟩);rw [<-hyv.out];obtain⟨bs,os,rfl,hsa⟩:=HST.out (by omega);have hEr:Ext w _:=hEw.trans hC;obtain⟨s0,s1,s2,s3,s4,s5,s6,s7,s8,s9⟩:=(hsa i hin).ext hEr;have HOKi:=q_h (HOK.out i hin);obtain⟨T,hT⟩:=qf (S i);rw [<-hT.out] at s0 s1 s2 s3 s4 s5 s6 s7 s8 s9 HOKi;clear hsa HST;go_upto_region 9 with (fail);refine ql ?_;intro w3 e3 hsz3 B3;clear s0 s1 s2 s3 s4 s5 s6 s7 s8 s9;obtain⟨g7,hg7⟩:∃ g7,g7=wr.heap.size:=⟨_,rfl⟩
    rw [<-hg7] at B3 ⊢;have C3:=hC.trans e3;have HS3:=q_h B3;have hE3:Ext w w3:=hEr.trans e3;have HBG3:=q_h (C3.block HBG.out);have hN3:N<=w3.heap.size:=by have:=hE3.size; omega
    clear hC hg7 B3 e3 hEr hsz3;obtain⟨s0,s1,s2,s3,s4,s5,s6,s7,s8,s9⟩:=zi HS3.out;have ab:=HOKi.out.ax;have ac:=HOKi.out.ay;have ad:=HOKi.out.az;have hXb:=HXb.out;have hYb:=HYb.out;obtain⟨d1,hd1⟩:=qf (T.ax - X);obtain⟨d2,hd2⟩:=qf (T.ay - Y);have r1 : -6291456<=d1/\d1<=6291456:=by rw [hd1.out]; omega
    have r2 : -6291456<=d2/\d2<=6291456:=by rw [hd2.out]; omega
    obtain⟨f1,hf1⟩:=qf (d1*d1);obtain⟨f2,hf2⟩:=qf (d2*d2);have r3 : -39582418599936<=f1/\f1<=39582418599936:=by rw [hf1.out]; exact q1v r1
    have r4 : -39582418599936<=f2/\f2<=39582418599936:=by rw [hf2.out]; exact q1v r2
    have m1:IntKind.i64.wrap (T.ax - X)=d1:=by rw [<-hd1.out]; exact zM (by omega) (by omega)
    have m2:IntKind.i64.wrap (T.ay - Y)=d2:=by rw [<-hd2.out]; exact zM (by omega) (by omega)
    have m3:IntKind.i64.wrap (d1*d1)=f1:=by rw [<-hf1.out]; exact zM (by omega) (by omega)
    have m4:IntKind.i64.wrap (d2*d2)=f2:=by rw [<-hf2.out]; exact zM (by omega) (by omega)
    obtain⟨fr,hfr⟩:=qf (f1+f2);have m5:IntKind.i64.wrap (f1+f2)=fr:=by rw [hfr.out]; exact zM (by omega) (by omega)
    have HFR:Hid (fr=q3j (S i) X Y):=by
     rw [Hid,hfr.out,hf1.out,hf2.out,hd1.out,hd2.out,hT.out]; rfl
    clear r1 r2 r3 r4;go_upto_region 10 with (fail);clear m1 m2 m3 m4 m5 hd1 hd2 hf1 hf2 hfr hXb hYb s0 s1 s2 s3 s4 s5 s6 s7 s8 s9;obtain⟨tf,htf⟩:=qf (decide (z=zK\/(0<=b/\l<=fr)))
    go_cut [93] (fun sv wx=>sv=.bool tf/\wx=w3)
    case first =>
     by_cases hzn:z = -2147483648
     case pos =>
      have tz:(z == -2147483648)=true:=by simpa using hzn
      have HT:Hid (true=tf):=by rw [Hid,htf.out]; exact (q_t (.inl hzn)).symm
      clear hzn;go_wp2_with fail
      go_meet
      exact⟨by rw [<-HT.out],rfl⟩
     have tz:(z == -2147483648)=false:=by simpa using hzn
     by_cases k1:0<=b
     case neg =>
      have HT:Hid (false=tf):=by rw [Hid,htf.out]; exact (q_f (fun h=>h.elim hzn (fun h=>k1 h.1))).symm
      have d1:decide (0<=b)=false:=decide_eq_false k1;clear k1 hzn;go_wp2_with fail
      go_meet
      exact⟨by rw [<-HT.out],rfl⟩
     have d1:decide (0<=b)=true:=decide_eq_true k1
     by_cases k2:l<=fr
     case neg =>
      have HT:Hid (false=tf):=by rw [Hid,htf.out]; exact (q_f (fun h=>h.elim hzn (fun h=>k2 h.2))).symm
      have d2:decide (l<=fr)=false:=decide_eq_false k2;clear k1 k2 hzn;go_wp2_with fail
      go_meet
      exact⟨by rw [<-HT.out],rfl⟩
     have HT:Hid (true=tf):=by rw [Hid,htf.out]; exact (q_t (.inr ⟨k1,k2⟩)).symm
     have d2:decide (l<=fr)=true:=decide_eq_true k2;clear k1 k2 hzn;go_wp2_with fail
     go_meet
     exact⟨by rw [<-HT.out],rfl⟩
    obtain⟨rfl,rfl⟩:=hcut;obtain⟨w3,hwx⟩:∃ w3,w3=wc:=⟨_,rfl⟩
    subst hwx;cases tf with
    | true =>
     have HCN:Hid (jG G S W H X Y z (i+1)=⟨b,u,v,l⟩):=by
      have h9:z=zK\/(0<=b/\l<=fr):=of_decide_eq_true htf.out.symm;rw [Hid,<-HC.out];refine q2v ?_;rw [HC.out,<-HFR.out];exact h9
     rw [hyv.out];go_wp2_with fail;go_roundw
     case rel=>exact⟨i+1,b,u,v,l,by omega,by go_num,rfl,rfl,rfl,HCN.out,C3⟩
     case measure=>simp [intOf]; omega
    | false =>
    have HNF:Hid (¬ (z=zK\/(0<=b/\l<=fr))):=of_decide_eq_false htf.out.symm
    have HZN:Hid (-1048576<=z/\z<=1048576):=by
     have:=HGO.out.z k hlt;rw [<-HZk.out] at this;exact this.resolve_left (fun h=>HNF.out (.inl h))
    clear htf;have hXb:=HXb.out;have hYb:=HYb.out;have hZb:=HZN.out;obtain⟨su,hsu⟩:=qf (snZ T (sp3 X Y z) W H (kL (jU T (sp3 X Y z)) W));obtain⟨sv,hsv⟩:=qf (snZ T (sp3 X Y z) W H (kL (jT T (sp3 X Y z)) H));obtain⟨sb,hsb⟩:=qf (xM G T (sp3 X Y z) W H);obtain⟨a0,a1,a2,a3,a4,a5⟩:=qG HBG3.out;obtain⟨s0,s1,s2,s3,s4,s5,s6,s7,s8,s9⟩:=zi HS3.out;go_upto_region 11 with (fail);refine xe [Mn.eq (.agg #[.int .i64 G.x0,.int .i64 G.y0,.int .i64 G.st,.int .i64 G.wd,.int .i64 G.ht,.slice (some ⟨bz,oz,none⟩) G.n c]),Mn.eq (.agg #[.int .i64 T.ax,.int .i64 T.ay,.int .i64 T.az,.int .i64 T.qa,.int .i64 T.qb,.int .i64 T.qc,.int .i64 T.qd,.int .i64 T.f,.int .i64 T.cx,.int .i64 T.cy]),Mn.i X,Mn.rat N ((X:Int):Rat),Mn.i Y,Mn.rat N ((Y:Int):Rat),Mn.i z,Mn.rat N ((z:Int):Rat),Mn.pt N (sp3 X Y z),Mn.i W,Mn.i H,Mn.eq (.tuple #[.int .i64 su,.int .i64 sv,.bool sb]),Mn.eq (.tuple #[.int .i64 su,.int .i64 sv,.bool sb]),Mn.i su,Mn.i sv,Mn.t sb,Mn.i su,Mn.i sv,Mn.t sb] (sM [95,96,97,98,99,100,101,102,103,104,105,106,94,107,108,109,22,23,24]) [] (rQ 19 0) 0 (by kernel_rfl) ?_ ?_
    ·show ∀ i,i < 19->_
     iterate 19 refine fs ?_ ?_
     ·exact fz
     all_goals intro hl; clear hl; refine stp rfl ?_; intro ac wi eI hB hA K hK
     have o5:=oOf (hB 5) rfl;have cc0:=eI.cell a0;have cc1:=eI.cell a1;have cc2:=eI.cell a2;have cc3:=eI.cell a3;have cc4:=eI.cell a4;have cc5:=eI.cell a5
     rotate_left
     have o20:=oOf (hB 20) rfl;have cc0:=eI.cell s0;have cc1:=eI.cell s1;have cc2:=eI.cell s2;have cc3:=eI.cell s3;have cc4:=eI.cell s4;have cc5:=eI.cell s5;have cc6:=eI.cell s6;have cc7:=eI.cell s7;have cc8:=eI.cell s8;have cc9:=eI.cell s9
     rotate_left
     have o17:=oOf (hB 17) rfl
     rotate_left
     obtain⟨_,s97,rfl⟩:=hA 2 97;clear hB hA
     ·go_simp;refine (qB (q_l hN3 eI.size) X (by omega) (by omega)).mono ?_;rintro e wj ⟨vj,rfl,hj,ej⟩;go_wp2_with fail;exact hK.out _ _ ej hj
     have o18:=oOf (hB 18) rfl
     rotate_left
     obtain⟨_,s99,rfl⟩:=hA 4 99;clear hB hA
     ·go_simp;refine (qB (q_l hN3 eI.size) Y (by omega) (by omega)).mono ?_;rintro e wj ⟨vj,rfl,hj,ej⟩;go_wp2_with fail;exact hK.out _ _ ej hj
     have o13:=oOf (hB 13) rfl
     rotate_left
     obtain⟨_,s101,rfl⟩:=hA 6 101;clear hB hA
     ·go_simp;refine (qB (q_l hN3 eI.size) z (by omega) (by omega)).mono ?_;rintro e wj ⟨vj,rfl,hj,ej⟩;go_wp2_with fail;exact hK.out _ _ ej hj
     obtain⟨x98,s98,j98⟩:=hA 3 98;replace j98:Mn.p (Mn.rat N ((X:Int):Rat)) x98 wi:=j98;obtain⟨x100,s100,j100⟩:=hA 5 100;replace j100:Mn.p (Mn.rat N ((Y:Int):Rat)) x100 wi:=j100;obtain⟨x102,s102,j102⟩:=hA 7 102;replace j102:Mn.p (Mn.rat N ((z:Int):Rat)) x102 wi:=j102;clear hB hA
     ·obtain⟨ba,Aa,ka,ca,A'a,k'a,c'a,rfl,-,-,-⟩:=qm.parts j98;obtain⟨bb,Ab,kb,cb,A'b,k'b,c'b,rfl,-,-,-⟩:=qm.parts j100;obtain⟨bd,Ad,kd,cd,A'd,k'd,c'd,rfl,-,-,-⟩:=qm.parts j102;rw [if_pos (by rfl)];refine xJ 43 _ rfl (l:=[(0,.agg #[.bool ba,.slice Aa ka ca,.bool false,.slice A'a k'a c'a]),(1,.agg #[.bool bb,.slice Ab kb cb,.bool false,.slice A'b k'b c'b]),(2,.agg #[.bool bd,.slice Ad kd cd,.bool false,.slice A'd k'd c'd])]) (by simp only [List.map_toArray,List.map_cons,List.map_nil]; simp [Act.eval,s98,s100,s102]) (yF _ _ _ _ _ _ _ _ _ _ _ _) ?_;exact q_k hK ⟨_,rfl,rfl,rfl,Xk j98 j100 j102⟩
     have o2:=oOf (hB 2) rfl
     rotate_left
     have o3:=oOf (hB 3) rfl
     rotate_left
     obtain⟨_,s95,rfl⟩:=hA 0 95;obtain⟨_,s96,rfl⟩:=hA 1 96;obtain⟨x103,s103,j103⟩:=hA 8 103;replace j103:Mn.p (Mn.pt N (sp3 X Y z)) x103 wi:=j103;obtain⟨_,s104,rfl⟩:=hA 9 104;obtain⟨_,s105,rfl⟩:=hA 10 105;clear hB hA
     ·obtain⟨pb,rfl,kb1,kb2,kb3⟩:=j103;go_simp;refine (q1Z (T:=T) (HG.out.ext (hE3.trans eI)) HGO.out HOKi.out kb1 kb3 (by omega) (by omega) (by omega) W H hW0 hH0 hW hH (q_l hN3 eI.size)).mono ?_;rintro e wj ⟨rfl,ej⟩;rw [<-hsu.out,<-hsv.out,<-hsb.out];go_wp2_with fail;exact hK.out _ _ ej rfl
     obtain⟨_,s106,rfl⟩:=hA 11 106
     rotate_left
     obtain⟨_,s94,rfl⟩:=hA 12 94
     rotate_left
     obtain⟨_,s94,rfl⟩:=hA 12 94
     rotate_left
     obtain⟨_,s94,rfl⟩:=hA 12 94
     rotate_left
     obtain⟨_,s107,rfl⟩:=hA 13 107
     rotate_left
     obtain⟨_,s108,rfl⟩:=hA 14 108
     rotate_left
     obtain⟨_,s109,rfl⟩:=hA 15 109
     rotate_left
     all_goals clear hB hA; go_simp; exact q_k hK rfl
    intro vals wz eZ hJ;have J22:vals 16=_:=hJ 16 (by decide) (by decide);have J23:vals 17=_:=hJ 17 (by decide) (by decide);have J24:vals 18=_:=hJ 18 (by decide) (by decide);clear hJ;simp only [pr,Nat.reduceAdd,J22,J23,J24];clear J22 J23 J24;refine qg (by kernel_rfl) ?_ _;obtain⟨w4,hwx⟩:∃ w4,w4=wz:=⟨_,rfl⟩
    subst hwx;replace C3:=C3.trans eZ;replace hE3:=hE3.trans eZ;clear a0 a1 a2 a3 a4 a5 s0 s1 s2 s3 s4 s5 s6 s7 s8 s9 HS3 HBG3 eZ hN3;cases sb with
    | false =>
     have HCN:Hid (jG G S W H X Y z (i+1)=⟨b,u,v,l⟩):=by
      rw [Hid,<-HC.out];exact X9 (by rw [<-hT.out]; exact hsb.out.symm)
     rw [hyv.out];go_wp2_with fail;go_roundw
     case rel=>exact⟨i+1,b,u,v,l,by omega,by go_num,rfl,rfl,rfl,HCN.out,C3⟩
     case measure=>simp [intOf]; omega
    | true =>
    obtain⟨k1,k2,k3⟩:=Vu hsb.out.symm;have HUV:Hid (su=kL (jU T (sp3 X Y z)) W/\sv=kL (jT T (sp3 X Y z)) H):=⟨hsu.out.trans (if_pos ⟨k1,k2,k3⟩),hsv.out.trans (if_pos ⟨k1,k2,k3⟩)⟩
    have k4:0<=su/\su < W:=by rw [HUV.out.1]; exact⟨k2,q3n k2⟩
    have k5:0<=sv/\sv < H:=by rw [HUV.out.2]; exact⟨k3,q3n k3⟩
    have HCN:Hid (jG G S W H X Y z (i+1)=⟨i,su,sv,fr⟩):=by
     rw [Hid,HUV.out.1,HUV.out.2,HFR.out,hT.out];refine q0Q (fun h=>HNF.out (.inl h)) ?_ (by rw [<-hT.out]; exact hsb.out.symm);rw [HC.out,<-HFR.out];exact fun h=>HNF.out (.inr h)
    clear hsu hsv hsb HUV k1 k2 k3
    by_cases him:i < m
    case neg =>
     have HGY:Hid (0=wX m I W ⟨i,su,sv,fr⟩):=(q0t him).symm;have t3:decide ((i:Int) < (m:Int))=false:=q_f (by omega);have him':¬ (i:Int) < (m:Int):=by omega
     clear him;go_wp2_with fail;go_roundw
     case rel=>exact⟨i+1,i,su,sv,fr,by omega,by go_num,rfl,by rw [<-HGY.out],rfl,HCN.out,C3⟩
     case measure=>simp [intOf]; omega
    have t3:decide ((i:Int) < (m:Int))=true:=q_t (by omega);obtain⟨bi,oi,rfl,hia⟩:=HIG.out (by omega);obtain⟨Ap,cp,x0,x1,x2,x3,hpx⟩:=(hia i him).ext hE3;have HGY:Hid ((I i).px (sv*W+su).toNat=wX m I W ⟨i,su,sv,fr⟩):=(q2h him).symm;obtain⟨w1',w2',w3'⟩:=HIW.out i him;obtain⟨R,hR⟩:=qf (I i);rw [<-hR.out] at x0 x1 x2 x3 hpx HGY w1' w2' w3';clear hia HIG;have HAT:=q_h (q4O (w:=w4) (c:=cp) hpx su sv k4.1 (by rw [w1']; exact k4.2) k5.1 (by rw [w2']; exact k5.2) (by rw [w1',w2']; exact w3') (by rw [w1']; exact hW) (by rw [w2']; exact hH));rw [w1'] at HAT;obtain⟨gy,hgy⟩:=qf (R.px (sv*W+su).toNat);rw [<-hgy.out] at HAT HGY;rw [w1'] at x0;clear w1' w2' w3' hpx hgy;go_wp2_with (go_at_call 88; refine q_o ?_);refine (HAT.out).mono ?_;rintro e w5 ⟨rfl,e5⟩;replace C3:=C3.trans e5;clear x0 x1 x2 x3 HAT e5;go_wp2_with fail;go_roundw
    case rel=>exact⟨i+1,i,su,sv,fr,by omega,by go_num,rfl,by rw [<-HGY.out],rfl,HCN.out,C3⟩
    case measure=>simp [intOf]; omega
  obtain⟨b,u,v,l,rfl,rfl,rfl,rfl,HC,hC⟩:=hcut;have HZB:Hid (zb k=b):=by rw [Hid,hzb.out]; show (q1t G S n W H k).best=b; rw [HXY.out,HC.out]
  have HZY:Hid (zy k=wX m I W ⟨b,u,v,l⟩):=by rw [Hid,hzy.out]; show wX m I W (q1t G S n W H k)=_; rw [HXY.out,HC.out]
  obtain⟨yv,hyv⟩:=qf (wX m I W ⟨b,u,v,l⟩);rw [<-hyv.out] at HZY ⊢;have HTY:=q_h (HTX.out.ext hC);have HL1:Hid ((izL zb k).length=k):=Kz zb k;have HL2:Hid ((izL zy k).length=k):=Kz zy k;have HNX:Hid (izL zb k ++ [.int .i64 b]=izL zb (k+1)):=by rw [Hid,YR,HZB.out]
  have HNY:Hid (izL zy k ++ [.int .i64 yv]=izL zy (k+1)):=by rw [Hid,YR,HZY.out]
  have E0:=hE02.trans hC;clear HTX HBG hEw hE02 hC HC hyv HXY HZB HZY HZk;obtain⟨L1,hL1⟩:=qf (izL zb k);obtain⟨L2,hL2⟩:=qf (izL zy k);rw [<-hL1.out] at HTY HL1 HNX;rw [<-hL2.out] at HTY HL2 HNY;have hx1:L1.length+1<=1000000000:=by have:=HL1.out; omega
  have hx2:L2.length+1<=1000000000:=by have:=HL2.out; omega
  clear hL1 hL2;go_wp2_with (at_builtin; refine q_o ?_);refine ql ?_;intro w6 e6 hsz6 B6;have HT6:=q_h (HTY.out.ext e6);refine kX QP rfl _ _ 22 Tryz.underlying22 rfl rfl HT6.out.1 (m:=1) (c:=1) (news:=[.int .i64 b]) (by rfl) rfl (QO B6) (fun u hu=>by rw [List.mem_singleton.1 hu]; rfl) (by omega) hx1 ?_;rintro g' cap w7 hG7 hat7 ⟨g9,hlo,hat9,C7,-⟩;rw [HL1.out,HNX.out] at hG7;rw [HL1.out];have HT7:=q_h (HT6.out.left hG7 hat7 hat9 C7);have E7:=C7.ext (E0.trans e6) hlo;clear hG7 hat7 hat9 C7 hlo B6 HT6 HTY HNX HL1 E0 e6 hsz6;go_wp2_with (at_builtin; refine q_o ?_);refine ql ?_;intro w8 e8 hsz8 B8;have HT8:=q_h (HT7.out.ext e8);refine kX QP rfl _ _ 22 Tryz.underlying22 rfl rfl HT8.out.2.1 (m:=1) (c:=1) (news:=[.int .i64 yv]) (by rfl) rfl (QO B8) (fun u hu=>by rw [List.mem_singleton.1 hu]; rfl) (by omega) hx2 ?_;rintro g2' cap2 w9 hG9 hat9 ⟨g10,hlo,hat10,C9,-⟩;rw [HL2.out,HNY.out] at hG9;rw [HL2.out];have HT9:=q_h ((HT8.out.swap.left hG9 hat9 hat10 C9).swap);have E9:=C9.ext (E7.trans e8) hlo;clear hG9 hat9 hat10 C9 hlo B8 HT8 HT7 HNY HL2 E7 e8 hsz8;go_wp2_with fail;go_roundw
  case rel=>exact⟨k+1,by omega,by go_num,HT9.out,E9⟩
  case measure=>simp [intOf]; omega
end Go.Proofs.YtphpkhoeplcedaaGreat
namespace Go.Proofs.YtphpkhoeplcedaaGreat
open Go.RowKit Go.ChangeShapes Go.ChangeAt
variable {w:World} {N n i m:Nat} {v:Value} {G:Grd} {x:Rat} {z:Int} {S:Sta}
section
variable {H:Type} {enc:TypeId×Value->H} {w:World} {spare:Nat->Bool} {held:Bool}
instance:Inhabited Raw:=⟨⟨false,[],false,[]⟩⟩
theorem WA (a:Addr) (h:w.cell? (a.add 0)=some v):a=⟨a.block,a.off,none⟩:=by
 obtain⟨b,off,spot⟩:=a;have hs:=World.cell?_spot h;have h2:spot=none:=by simpa [Addr.add] using hs
 subst h2; rfl
end
theorem own:ownKnob Tryz.prog.godebug=none:=by kernel_rfl
theorem laidOut:laidOutB Tryz.prog=true:=by kernel_rfl
end Go.Proofs.YtphpkhoeplcedaaGreat
set_option maxRecDepth 100000
namespace Go.Proofs.YtphpkhoeplcedaaGreat
open Go.ChangeShapes Go.WideShapes Go.ChangeAt Go.RowKit Go.Joins
variable {w:World} {N n i m:Nat} {v:Value} {G:Grd} {x:Rat} {z:Int} {S:Sta}
theorem Jb:Tryz.prog.cellsOf 3=1:=by kernel_rfl
theorem VT:Tryz.prog.cellsOf 22=1:=by kernel_rfl
theorem VU:Tryz.prog.cellsOf 24=6:=by kernel_rfl
theorem q5A {α:Type} {cs:Array α} (h:cs.size=6):∃ c0 c1 c2 c3 c4 c5,cs=#[c0,c1,c2,c3,c4,c5]:=by
 obtain⟨l⟩:=cs
 match l,h with
 | [c0,c1,c2,c3,c4,c5],_=>exact⟨c0,c1,c2,c3,c4,c5,rfl⟩
section
variable {H:Type} {enc:TypeId×Value->H} {w:World} {spare:Nat->Bool} {held:Bool}
theorem VJ {x:DataW H×List MemPlace} (h:DataW.trod enc Tryz.prog w 0 spare held n 22 [v]=some x):∃ k z,IzV w.heap.size 0 0 w v k z:=by
 rcases Go.Deep.open_slice1 Tryz.underlying22 Jb h with ⟨hcs,-⟩ | ⟨a,len,cap,m,n',V,D,Pl,hcs,-,hl,hm,hmm,-,hx⟩
 ·simp only [List.cons.injEq,and_true] at hcs;subst hcs;exact⟨0,fun _=>0,rfl,_,_,rfl,q_r,Nat.zero_le _,fun h0=>absurd h0 (by omega)⟩
 ·simp only [List.cons.injEq,and_true] at hcs;subst hcs;have hlm:len<=m:=by rw [hmm]; split <;> omega
  have hv:∀ i,i < len->∃ z:Int,V i=.int .i64 z:=fun i hi=>by
   obtain⟨-,h2⟩:=hx i (by omega);obtain⟨z,hz,-,-⟩:=DataW.trod_int Tryz.underlying3 h2;simp only [List.cons.injEq,and_true] at hz;exact⟨z,hz⟩
  obtain⟨f,hf⟩:=Go.Deep.choose_lt (α:=Int) hv;refine⟨len,f,rfl,_,cap,rfl,hl,hm,fun h0=>?_⟩;have h1:=(hx 0 (by omega)).1;have ha:=WA a h1;refine⟨a.block,a.off,by rw [<-ha],fun i hi=>?_⟩;have h2:=(hx i (by omega)).1;rw [ha,q2B,hf i hi] at h2;exact h2
theorem grd_open {r:Reach} {b0:Nat} {d:DataW H} {p:List MemPlace} (hv:Value.okWide Tryz.prog w r b0 24 v) (h:DataW.Trod enc Tryz.prog w 0 spare held 24 v d p):∃ G,yg w.heap.size 0 0 w v G:=by
 obtain⟨cs,rfl,hsz⟩:=okWide_struct Tryz.underlying24 hv;obtain⟨c0,c1,c2,c3,c4,c5,rfl⟩:=q5A (hsz.trans VU);obtain⟨fuel,hf⟩:=h;obtain⟨xs,n,-,-,-,hlen,hq⟩:=DataW.trod_struct Tryz.underlying24 hf
 match xs,hlen with
 | [y0,y1,y2,y3,y4,y5],_ =>
  have h0:DataW.trod enc Tryz.prog w 0 spare held n 3 (List.take (Tryz.prog.cellsOf 3) (List.drop 0 [c0,c1,c2,c3,c4,c5]))=some y0:=hq 0 _ rfl;have h1:DataW.trod enc Tryz.prog w 0 spare held n 3 (List.take (Tryz.prog.cellsOf 3) (List.drop 1 [c0,c1,c2,c3,c4,c5]))=some y1:=hq 1 _ rfl;have h2:DataW.trod enc Tryz.prog w 0 spare held n 3 (List.take (Tryz.prog.cellsOf 3) (List.drop 2 [c0,c1,c2,c3,c4,c5]))=some y2:=hq 2 _ rfl;have h3:DataW.trod enc Tryz.prog w 0 spare held n 3 (List.take (Tryz.prog.cellsOf 3) (List.drop 3 [c0,c1,c2,c3,c4,c5]))=some y3:=hq 3 _ rfl;have h4:DataW.trod enc Tryz.prog w 0 spare held n 3 (List.take (Tryz.prog.cellsOf 3) (List.drop 4 [c0,c1,c2,c3,c4,c5]))=some y4:=hq 4 _ rfl;have h5:DataW.trod enc Tryz.prog w 0 spare held n 22 (List.take (Tryz.prog.cellsOf 22) (List.drop 5 [c0,c1,c2,c3,c4,c5]))=some y5:=hq 5 _ rfl;simp only [Jb,VT,List.drop_zero,List.take_succ_cons,List.take_zero,List.drop_succ_cons] at h0 h1 h2 h3 h4 h5;obtain⟨z0,e0,-⟩:=DataW.trod_int Tryz.underlying3 h0;obtain⟨z1,e1,-⟩:=DataW.trod_int Tryz.underlying3 h1;obtain⟨z2,e2,-⟩:=DataW.trod_int Tryz.underlying3 h2;obtain⟨z3,e3,-⟩:=DataW.trod_int Tryz.underlying3 h3;obtain⟨z4,e4,-⟩:=DataW.trod_int Tryz.underlying3 h4;obtain⟨k,z,hz⟩:=VJ h5;simp only [List.cons.injEq,and_true] at e0 e1 e2 e3 e4;subst e0 e1 e2 e3 e4;exact⟨⟨z0,z1,z2,z3,z4,k,z⟩,_,rfl,hz⟩
end
end Go.Proofs.YtphpkhoeplcedaaGreat
