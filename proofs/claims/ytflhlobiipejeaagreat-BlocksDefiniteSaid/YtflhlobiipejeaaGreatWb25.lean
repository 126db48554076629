import Derived.Test.YtflhlobiipejeaaGreatWb24
import Derived.RunT
import Derived.Calls
import Derived.Shelf.SlSortCmp.NoneTotal
set_option linter.all false
set_option maxHeartbeats 8000000
set_option maxRecDepth 100000
namespace Go.Proofs.YtflhlobiipejeaaGreat
variable {w w':World} {N n lo hi k g m base d:Nat} {v:Value}
section
open Go.RowKit
theorem Zz (G:Nat->Nat->Bool) (k i:Nat):vY G k (i+1)=vY G k i++(if G k i=true then rowP G k i i else []):=rfl
theorem q6K{u:Value}{t:TypeId}{fr:Nat×Nat}(h:w.heap[g]?=some (.cells #[u,v] t fr)):∀j x,[u,v][j]?=some x->w.cell? ((⟨g,0,none⟩:Addr).add j)=some x:=by
 intro j x hj;have h0:(⟨g,0,none⟩:Addr).add j=⟨g,j,none⟩:=by simp[Addr.add];omega
 rw[h0,qh h];simpa using hj
def q6t (w:World) (g n:Nat) (G:Nat->Nat->Bool) (k:Nat) (e:Ending) (w':World):Prop :=
 ∃v,e=.returned v/\zV 64 2 w.heap.size w' v (vY G k n).length (prv (vY G k n))/\NrB w' g n (q0L G k)/\Chg g (g+1) w w'
theorem NrB.congr{G G':Nat->Nat->Bool}(h:NrB w g n G) (hG:∀a,a<n->∀b,b<n->G a b=G' a b):NrB w g n G' :=
 FlB.congr h fun a ha=>wdv fun b hb=>hG a ha b hb
theorem q0t{G:Nat->Nat->Bool}(h:NrB w g n G) (hn:n<=12) (hk:k<n) (hs:∀a b,a<n->b<n->G a b=G b a) (hd:∀a,a<n->G a a=false) :
  Calls Tryz.prog 60 #[.slice (some ⟨g,0,none⟩) n n,.int .i64 (k:Int)] w (q6t w g n G k):=by
 obtain⟨Q,hQ⟩:=qc (q6t w g n G k);rw[<-hQ.out];have HS:=q_h hs;have HD:=q_h hd;have hgs:g<w.heap.size:=FlB.lt h;have HN0:Hid (NrB w g n (adG G k 0 0)):=h.congr fun a _ b _=>q40.symm
 have HK:Hid (G k k=false):=hd k hk;obtain⟨x0,f0⟩:=FlB.cell h hk;obtain⟨W,hW⟩:=qc (wd (G k) n);rw[<-hW.out] at x0;have hW12:W<4096:=by rw[hW.out];exact yX _ hn
 have t0:(k:Int)<(n:Int):=by omega
 have HG0:Hid (zV 64 2 w.heap.size w (.slice none 0 0) (vY G k 0).length (prv (vY G k 0))):=zV.nil (q_r);obtain⟨w1,hw1⟩:∃w1,w1=w:=⟨_,rfl⟩
 have hw1':=q_h hw1;subst hw1;clear h hs hd;go_enter Tryz.func60,Tryz.ntmps60;go_wp2_with fail
 go_loopw [16,5] (fun iv ov wr=>∃(i:Nat) (A:Option Addr) (c:Nat),i<=n/\iv=.int .i64 (i:Int)/\ov=.slice A (vY G k i).length c/\Hid (zV 64 2 w1.heap.size wr (.slice A (vY G k i).length c) (vY G k i).length (prv (vY G k i)))/\Hid (NrB wr g n (adG G k i 0))/\Hid (Chg g (g+1) w1 wr)) (fun iv _ _=>n-(intOf iv).toNat)
 case atStart=>exact⟨0,none,0,Nat.zero_le _,rfl,rfl,HG0,HN0,Chg.refl _ _ _⟩
 case round =>
  clear HG0 HN0 x0 f0;obtain⟨i,A,c,hi9,rfl,rfl,HG,HN,HC⟩:=hrel
  by_cases hlt:i<n
  case pos =>
   have t1:decide ((i:Int)<(n:Int))=true:=q_t (by omega);have t2:(i:Int)<(n:Int):=by omega
   have hle:=QZ G k i;have hii:i*i<=144:=Nat.mul_le_mul (show i<=12 by omega) (show i<=12 by omega);obtain⟨bi,hbi⟩:=qc (G k i);cases bi with
   | false =>
    have t3:=Qa hn hlt hbi.out.symm;rw[<-hW.out,if_neg (by decide)] at t3
    have HG1:Hid (zV 64 2 w1.heap.size wr (.slice A (vY G k (i+1)).length c) (vY G k (i+1)).length (prv (vY G k (i+1)))):=by
     have h9:vY G k (i+1)=vY G k i:=by rw[Zz,<-hbi.out,if_neg (by decide),List.append_nil]
     rw[h9];exact HG.out
    have HL1:Hid ((vY G k (i+1)).length=(vY G k i).length):=by
     have h9:vY G k (i+1)=vY G k i:=by rw[Zz,<-hbi.out,if_neg (by decide),List.append_nil]
     rw[h9];rfl
    have HN1:Hid (NrB wr g n (adG G k (i+1) 0)):=NrB.congr HN.out fun a _ b _=>(q5O hbi.out.symm).symm
    go_wp2;go_roundw
    case rel=>exact⟨i+1,A,c,by omega,by go_num,by rw[HL1.out],HG1,HN1,HC⟩
    case measure=>simp[intOf];omega
   | true =>
    have t3:=Qa hn hlt hbi.out.symm;rw[<-hW.out,if_pos rfl] at t3;obtain⟨l,hl⟩:=qc (vY G k i);rw[<-hl.out] at HG hle ⊢
    have HG0:Hid (zV 64 2 w1.heap.size wr (.slice A (l++rowP G k i 0).length c) (l++rowP G k i 0).length (prv (l++rowP G k i 0))):=by
     rw[show rowP G k i 0=[] from rfl,List.append_nil];exact HG.out
    have HC0:=HC;have HN0:=HN;obtain⟨wQ,hwQ⟩:∃wQ,wQ=wr:=⟨_,rfl⟩
    subst hwQ;have HA0:Hid (A=A/\l.length=(l++rowP G k i 0).length):=⟨rfl,by rw[show rowP G k i 0=[] from rfl,List.append_nil]⟩
    clear HG HC HN;go_wp2_with fail
    go_loopw [25,5] (fun jv ov wr=>∃(j:Nat) (A:Option Addr) (c:Nat),j<=i/\jv=.int .i64 (j:Int)/\ov=.slice A (l++rowP G k i j).length c/\Hid (zV 64 2 w1.heap.size wr (.slice A (l++rowP G k i j).length c) (l++rowP G k i j).length (prv (l++rowP G k i j)))/\Hid (NrB wr g n (adG G k i j))/\Hid (Chg g (g+1) w1 wr)) (fun jv _ _=>i-(intOf jv).toNat)
    case atStart=>exact⟨0,A,c,Nat.zero_le _,rfl,by rw[<-HA0.out.2],HG0,HN0,HC0⟩
    case round =>
     clear HG0 HN0 HC0 HA0 t3;obtain⟨j,A,c,hj9,rfl,rfl,HG,HN,HC⟩:=hrel
     by_cases hjl:j<i
     case neg =>
      have t4:decide ((j:Int)<(i:Int))=false:=q_f (by omega);obtain rfl:i=j:=by omega
      have HLL:Hid (l++rowP G k i i=vY G k (i+1)):=by
       rw[Hid,Zz,<-hbi.out,if_pos rfl,<-hl.out]
      rw[HLL.out] at HG ⊢;have HN1:Hid (NrB wr g n (adG G k (i+1) 0)):=NrB.congr HN.out fun a _ b _=>q88.symm
      go_wp2;go_roundw
      case rel=>exact⟨i+1,A,c,by omega,by go_num,rfl,HG,HN1,HC⟩
      case measure=>simp[intOf];omega
     have t4:decide ((j:Int)<(i:Int))=true:=q_t (by omega);have t5:(j:Int)<(i:Int):=by omega
     have hjn:j<n:=by omega
     obtain⟨bj,hbj⟩:=qc (G k j);have hrl:=Wx G k i j;cases bj with
     | false =>
      have t6:=Qa hn hjn hbj.out.symm;rw[<-hW.out,if_neg (by decide)] at t6
      have HPN:Hid (rowP G k i (j+1)=rowP G k i j):=by
       rw[Hid,rowP_step,<-hbj.out,Bool.false_and,if_neg (by decide),List.append_nil]
      have HN1:Hid (NrB wr g n (adG G k i (j+1))):=NrB.congr HN.out fun a _ b _=>(q6q (HS.out _ _ hlt hjn) (by rw[<-hbj.out];rfl)).symm
      rw[<-HPN.out] at HG ⊢;go_wp2;go_roundw
      case rel=>exact⟨j+1,A,c,by omega,by go_num,rfl,HG,HN1,HC⟩
      case measure=>simp[intOf];omega
     | true =>
      have t6:=Qa hn hjn hbj.out.symm;rw[<-hW.out,if_pos rfl] at t6;obtain⟨y0,f0⟩:=FlB.cell HN.out hlt;obtain⟨V,hV⟩:=qc (wd (adG G k i j i) n);have hV12:V<4096:=by rw[hV.out];exact yX _ hn
      obtain⟨bb,hbb⟩:=qc (G i j);have t7:=Qa (f:=adG G k i j i) (b:=bb) hn hjn (by rw[q9f hjl];exact hbb.out.symm);rw[<-hV.out] at t7 y0;cases bb with
      | true =>
       rw[if_pos rfl] at t7
       have HPN:Hid (rowP G k i (j+1)=rowP G k i j):=by
        rw[Hid,rowP_step,<-hbj.out,<-hbb.out,Bool.not_true,Bool.and_false,if_neg (by decide),List.append_nil]
       have HN1:Hid (NrB wr g n (adG G k i (j+1))):=NrB.congr HN.out fun a _ b _=>(q6q (HS.out _ _ hlt hjn) (by rw[<-hbj.out,<-hbb.out];rfl)).symm
       rw[<-HPN.out] at HG ⊢;go_wp2;go_roundw
       case rel=>exact⟨j+1,A,c,by omega,by go_num,rfl,HG,HN1,HC⟩
       case measure=>simp[intOf];omega
      | false =>
       rw[if_neg (by decide)] at t7
       have HPY:Hid (rowP G k i (j+1)=rowP G k i j ++ [(j,i)]):=by
        rw[Hid,rowP_step,<-hbj.out,<-hbb.out,Bool.not_false,Bool.and_true,if_pos rfl]
       obtain⟨lx,hlx⟩:=qc (l++rowP G k i j);have HPX:Hid (l++rowP G k i (j+1)=lx ++ [(j,i)]):=by rw[Hid,HPY.out,<-List.append_assoc,hlx.out]
       have hlxl:lx.length<=200:=by rw[hlx.out,List.length_append];omega
       rw[<-hlx.out] at HG ⊢;go_wp2_with (at_builtin;refine q_o ?_);refine qo ?_;intro w5 e5 hsz5 B5;refine xI q0m rfl _ _ 57 Tryz.underlying57 rfl (by rfl) (HG.out.ext e5) (m:=1) (c:=1) (news:=[.int .i64 (j:Int),.int .i64 (i:Int)]) (by rfl) rfl (q6K B5) (by simp[Value.oneCell']) (by omega) ?_;rintro v6 w6 hG6 hat6 ⟨g6,hlo6,hw6,C6⟩;obtain⟨A6,c6,rfl⟩:=hG6.form
       have HG6:Hid (zV 64 2 w1.heap.size w6 (.slice A6 (lx.length+1) c6) (lx.length+1) (prv (lx ++ [(j,i)]))):=by
        rw[Hid,q2n];exact hG6
       have HN6:Hid (NrB w6 g n (adG G k i j)):=FlB.chg (HN.out.ext e5) C6 (.inl (by omega));have HC6:Hid (Chg g (g+1) w1 w6):=(HC.out.trans (e5.chg _ _)).newer C6 hlo6;clear hG6 hat6 hw6 hlo6 C6 B5 hsz5 e5 HG HN HC y0 f0 t6 t7;have t2i:=Zr (show i<12 by omega);have t2j:=Zr (show j<12 by omega);have o1:=J7 (f:=adG G k i j j) hn hlt;have o2:=J7 (f:=adG G k i j i) hn hjn;obtain⟨X,hX⟩:=qc (wd (adG G k i j j) n);obtain⟨X1,hX1⟩:=qc (wd (fun b=>adG G k i j j b||decide (b=i)) n);obtain⟨V1,hV1⟩:=qc (wd (fun b=>adG G k i j i b||decide (b=j)) n);obtain⟨S,hS⟩:=qc (2 ^ i);obtain⟨T,hT⟩:=qc (2 ^ j);rw[<-hS.out] at t2i;rw[<-hT.out] at t2j;rw[<-hS.out,<-hX.out,<-hX1.out] at o1;rw[<-hT.out,<-hV.out,<-hV1.out] at o2;obtain⟨x0,f0⟩:=FlB.cell HN6.out hjn;rw[<-hX.out] at x0;go_upto_region 12 with (fail);refine yB [Mn.eq (.slice (some ⟨g,0,none⟩) n n),Mn.i (j:Int),Mn.q g j,Mn.eq (.int .u64 (X:Int)),Mn.i (i:Int),Mn.eq (.int .u64 (S:Int)),Mn.eq (.int .u64 (X1:Int)),Mn.any,Mn.any] [some 49,some 50,some 51,some 52,some 53,some 54,some 55,some 56,none] [7,8] (rQ 7 2) 2 (by kernel_rfl) ?_ ?_
       ·show ∀i,i<9->_
        iterate 9 refine fs ?_ ?_
        ·exact fz
        all_goals intro hl;first|exact absurd hl (by decide)|(clear hl;refine stp rfl ?_;intro ac wi eI hB hA K hK)
        have o0:=oOf (hB 0) rfl;rotate_left;have o8:=oOf (hB 8) rfl;rotate_left;obtain⟨_,s49,rfl⟩:=hA 0 49;obtain⟨_,s50,rfl⟩:=hA 1 50;rotate_left;obtain⟨_,s51,rfl⟩:=hA 2 51;have cc0:=eI.cell x0;rotate_left;have o7:=oOf (hB 7) rfl;rotate_left;obtain⟨_,s53,rfl⟩:=hA 4 53;rotate_left;obtain⟨_,s52,rfl⟩:=hA 3 52;obtain⟨_,s54,rfl⟩:=hA 5 54;rotate_left
        all_goals clear hB hA;go_simp;exact q_k hK rfl
       intro vals wz eZ hJ;have J49:vals 0=_:=hJ 0 (by decide) (by decide);have J50:vals 1=_:=hJ 1 (by decide) (by decide);have J55:vals 6=_:=hJ 6 (by decide) (by decide);clear hJ;simp only[pr,Nat.reduceAdd,J49,J50,J55];clear J49 J50 J55;have hFz:=FlB.ext HN6.out eZ;obtain⟨z0,v0⟩:=hFz.cell hjn;refine qj (i:=7) rfl (by kernel_rfl) (by kernel_rfl) (fun K hK=>?_);go_simp;refine hK.out _ _ ?_;clear hK K;try simp only[nr]
       refine qj (i:=8) rfl (by kernel_rfl) (by kernel_rfl) (fun K hK=>?_);go_simp;refine hK.out _ _ ?_;clear hK K;try simp only[nr]
       refine qg (by kernel_rfl) ?_ _;obtain⟨w7,E7,F7,C7,hs7⟩:=FlB.set hFz Qv hjn (.int .u64 (X1:Int));rw[E7];have HF7:Hid (FlB 109 w7 g n (fun a=>if a=j then .int .u64 (X1:Int) else .int .u64 ((wd (adG G k i j a) n:Nat):Int))):=F7;have HC7:Hid (Chg g (g+1) w1 w7):=(HC6.out.trans (eZ.chg _ _)).trans C7;have HG7:=q_h ((HG6.out.ext eZ).chg C7 (by omega));clear E7 F7 C7 hs7 hFz z0 v0 eZ x0 f0 HG6 HN6 HC6;obtain⟨x0,f0⟩:=HF7.out.cell hlt;rw[if_neg (show ¬i=j by omega),<-hV.out] at x0;go_upto_region 13 with (fail);refine yB [Mn.eq (.slice (some ⟨g,0,none⟩) n n),Mn.i (i:Int),Mn.q g i,Mn.eq (.int .u64 (V:Int)),Mn.i (j:Int),Mn.eq (.int .u64 (T:Int)),Mn.eq (.int .u64 (V1:Int)),Mn.any,Mn.any] [some 57,some 58,some 59,some 60,some 61,some 62,some 63,some 64,none] [7,8] (rQ 7 2) 2 (by kernel_rfl) ?_ ?_
       ·show ∀i,i<9->_
        iterate 9 refine fs ?_ ?_
        ·exact fz
        all_goals intro hl;first|exact absurd hl (by decide)|(clear hl;refine stp rfl ?_;intro ac wi eI hB hA K hK)
        have o0:=oOf (hB 0) rfl;rotate_left;have o7:=oOf (hB 7) rfl;rotate_left;obtain⟨_,s57,rfl⟩:=hA 0 57;obtain⟨_,s58,rfl⟩:=hA 1 58;rotate_left;obtain⟨_,s59,rfl⟩:=hA 2 59;have cc0:=eI.cell x0;rotate_left;have o8:=oOf (hB 8) rfl;rotate_left;obtain⟨_,s61,rfl⟩:=hA 4 61;rotate_left;obtain⟨_,s60,rfl⟩:=hA 3 60;obtain⟨_,s62,rfl⟩:=hA 5 62;rotate_left
        all_goals clear hB hA;go_simp;exact q_k hK rfl
       intro vals wz eZ hJ;have J57:vals 0=_:=hJ 0 (by decide) (by decide);have J58:vals 1=_:=hJ 1 (by decide) (by decide);have J63:vals 6=_:=hJ 6 (by decide) (by decide);clear hJ;simp only[pr,Nat.reduceAdd,J57,J58,J63];clear J57 J58 J63;have hFz:=FlB.ext HF7.out eZ;obtain⟨z0,v0⟩:=hFz.cell hlt;refine qj (i:=7) rfl (by kernel_rfl) (by kernel_rfl) (fun K hK=>?_);go_simp;refine hK.out _ _ ?_;clear hK K;try simp only[nr]
       refine qj (i:=8) rfl (by kernel_rfl) (by kernel_rfl) (fun K hK=>?_);go_simp;refine hK.out _ _ ?_;clear hK K;try simp only[nr]
       refine qg (by kernel_rfl) ?_ _;obtain⟨w8,E8,F8,C8,hs8⟩:=FlB.set hFz Qv hlt (.int .u64 (V1:Int));rw[E8]
       have HN8:Hid (NrB w8 g n (adG G k i (j+1))):=F8.congr fun x hx=>by
        have h2:=fun b=>q87 (a:=x) (b:=b) hjl hbi.out.symm hbj.out.symm
        show (if x=i then Value.int .u64 (V1:Int) else if x=j then .int .u64 (X1:Int) else .int .u64 ((wd (adG G k i j x) n:Nat):Int))=.int .u64 ((wd (adG G k i (j+1) x) n:Nat):Int)
        by_cases hxi:x=i
        ·subst hxi;rw[if_pos rfl,hV1.out];refine wdv fun b hb=>?_
         rw[h2,q_t (rfl:x=x),q_f (show ¬x=j by omega),Bool.true_and,Bool.false_and,Bool.or_false]
        rw[if_neg hxi]
        by_cases hxj:x=j
        ·subst hxj;rw[if_pos rfl,hX1.out];refine wdv fun b hb=>?_
         rw[h2,q_t (rfl:x=x),q_f hxi,Bool.true_and,Bool.false_and,Bool.false_or]
        rw[if_neg hxj];refine wdv fun b hb=>?_
        rw[h2,q_f hxi,q_f hxj,Bool.false_and,Bool.false_and,Bool.or_false,Bool.or_false]
       have HC8:Hid (Chg g (g+1) w1 w8):=(HC7.out.trans (eZ.chg _ _)).trans C8
       have HG8:Hid (zV 64 2 w1.heap.size w8 (.slice A6 (l++rowP G k i (j+1)).length c6) (l++rowP G k i (j+1)).length (prv (l++rowP G k i (j+1)))):=by
        rw[HPX.out,List.length_append];exact (HG7.out.ext eZ).chg C8 (by omega)
       have HLX:Hid (lx.length+1=(l++rowP G k i (j+1)).length):=by rw[HPX.out,List.length_append];rfl
       clear E8 F8 C8 hs8 hFz z0 v0 eZ x0 f0 HG7 HF7 HC7 t2i t2j o1 o2;go_wp2;go_roundw
       case rel=>exact⟨j+1,A6,c6,by omega,by go_num,by rw[<-HLX.out],HG8,HN8,HC8⟩
       case measure=>simp[intOf];omega
  have t1:decide ((i:Int)<(n:Int))=false:=q_f (by omega);obtain rfl:n=i:=by omega
  have HN0:Hid (NrB wr g n (clG G k n 0)):=NrB.congr HN.out fun a _ b _=>by
   unfold clG;rw[q_f (Nat.not_lt_zero a),Bool.false_and,Bool.not_false,Bool.and_true]
  obtain⟨wQ,hwQ⟩:∃wQ,wQ=wr:=⟨_,rfl⟩
  subst hwQ;have HC0:=HC;have HG0:=HG;clear HN HC HG;go_wp2_with fail
  go_loopw [69] (fun iv wr=>∃i:Nat,i<=n/\iv=.int .i64 (i:Int)/\Hid (NrB wr g n (clG G k n i))/\Hid (zV 64 2 w1.heap.size wr (.slice A (vY G k n).length c) (vY G k n).length (prv (vY G k n)))/\Hid (Chg g (g+1) w1 wr)) (fun iv _=>n-(intOf iv).toNat)
  case atStart=>exact⟨0,Nat.zero_le _,rfl,HN0,HG0,HC0⟩
  case round =>
   clear HN0 HC0 HG0;obtain⟨i,hi9,rfl,HN,HG,HC⟩:=hrel
   by_cases hlt:i<n
   case neg =>
    have t1:decide ((i:Int)<(n:Int))=false:=q_f (by omega);obtain rfl:n=i:=by omega
    obtain⟨x0,f0⟩:=FlB.cell HN.out hk;go_wp2;obtain⟨w7,E7,F7,C7,hs7⟩:=FlB.set HN.out Qv hk (.int .u64 0);rw[E7,hQ.out];refine⟨_,rfl,HG.out.chg C7 (by omega),F7.congr fun x hx=>?_,HC.out.trans C7⟩
    show (if x=k then Value.int .u64 0 else .int .u64 ((wd (clG G k n n x) n:Nat):Int))=.int .u64 ((wd (q0L G k x) n:Nat):Int)
    by_cases hxk:x=k
    ·subst hxk
     have h9:wd (q0L G x x) n=0:=q1A fun j _=>by
      unfold q0L;rw[q_t (rfl:x=x),Bool.not_true,Bool.false_and,Bool.false_and]
     rw[if_pos rfl,h9]
     rfl
    rw[if_neg hxk];exact wdv fun b hb=>q5C hx hb HS.out hk HD.out hxk
   have t1:decide ((i:Int)<(n:Int))=true:=q_t (by omega);have t2:(i:Int)<(n:Int):=by omega
   have t2k:=Zr (show k<12 by omega);have o1:=q5B (f:=clG G k n i i) hn hk;obtain⟨X,hX⟩:=qc (wd (clG G k n i i) n);obtain⟨X1,hX1⟩:=qc (wd (fun b=>clG G k n i i b && !decide (b=k)) n);obtain⟨S,hS⟩:=qc (2 ^ k);rw[<-hS.out] at t2k;rw[<-hS.out,<-hX.out,<-hX1.out] at o1;obtain⟨x0,f0⟩:=FlB.cell HN.out hlt;rw[<-hX.out] at x0;go_upto_region 19 with (fail);refine yB [Mn.eq (.slice (some ⟨g,0,none⟩) n n),Mn.i (i:Int),Mn.q g i,Mn.eq (.int .u64 (X:Int)),Mn.i (k:Int),Mn.eq (.int .u64 (S:Int)),Mn.eq (.int .u64 (X1:Int)),Mn.any,Mn.any] [some 72,some 73,some 74,some 75,some 76,some 77,some 78,some 79,none] [7,8] (rQ 7 2) 2 (by kernel_rfl) ?_ ?_
   ·show ∀i,i<9->_
    iterate 9 refine fs ?_ ?_
    ·exact fz
    all_goals intro hl;first|exact absurd hl (by decide)|(clear hl;refine stp rfl ?_;intro ac wi eI hB hA K hK)
    have o0:=oOf (hB 0) rfl;rotate_left;have o9:=oOf (hB 9) rfl;rotate_left;obtain⟨_,s72,rfl⟩:=hA 0 72;obtain⟨_,s73,rfl⟩:=hA 1 73;rotate_left;obtain⟨_,s74,rfl⟩:=hA 2 74;have cc0:=eI.cell x0;rotate_left;have o1:=oOf (hB 1) rfl;rotate_left;obtain⟨_,s76,rfl⟩:=hA 4 76;rotate_left;obtain⟨_,s75,rfl⟩:=hA 3 75;obtain⟨_,s77,rfl⟩:=hA 5 77;rotate_left
    all_goals clear hB hA;go_simp;exact q_k hK rfl
   intro vals wz eZ hJ;have J72:vals 0=_:=hJ 0 (by decide) (by decide);have J73:vals 1=_:=hJ 1 (by decide) (by decide);have J78:vals 6=_:=hJ 6 (by decide) (by decide);clear hJ;simp only[pr,Nat.reduceAdd,J72,J73,J78];clear J72 J73 J78;have hFz:=FlB.ext HN.out eZ;obtain⟨z0,v0⟩:=hFz.cell hlt;refine qj (i:=7) rfl (by kernel_rfl) (by kernel_rfl) (fun K hK=>?_);go_simp;refine hK.out _ _ ?_;clear hK K;try simp only[nr]
   refine qj (i:=8) rfl (by kernel_rfl) (by kernel_rfl) (fun K hK=>?_);go_simp;refine hK.out _ _ ?_;clear hK K;try simp only[nr]
   refine qg (by kernel_rfl) ?_ _;obtain⟨w7,E7,F7,C7,hs7⟩:=FlB.set hFz Qv hlt (.int .u64 (X1:Int));rw[E7]
   have HN7:Hid (NrB w7 g n (clG G k n (i+1))):=F7.congr fun x hx=>by
    show (if x=i then Value.int .u64 (X1:Int) else .int .u64 ((wd (clG G k n i x) n:Nat):Int))=.int .u64 ((wd (clG G k n (i+1) x) n:Nat):Int)
    by_cases hxi:x=i
    ·subst hxi;rw[if_pos rfl,hX1.out];refine wdv fun b hb=>?_
     unfold clG;rw[q_f (show ¬x<x by omega),q_t (show x<x+1 by omega),Bool.false_and,Bool.not_false,Bool.and_true,Bool.true_and]
    rw[if_neg hxi];refine wdv fun b hb=>?_
    unfold clG;rw[show decide (x<i)=decide (x<i+1) by rw[decide_eq_decide];omega]
   have HC7:Hid (Chg g (g+1) w1 w7):=(HC.out.trans (eZ.chg _ _)).trans C7;have HG7:=q_h ((HG.out.ext eZ).chg C7 (by omega));clear E7 F7 C7 hs7 hFz z0 v0 eZ x0 f0 HG HN HC t2k o1;go_wp2;go_roundw
   case rel=>exact⟨i+1,by omega,by go_num,HN7,HG7,HC7⟩
   case measure=>simp[intOf];omega
def pp1 (x:Nat):Nat:=(x / 2 &&& 6148914691236517205)+(x &&& 6148914691236517205)
def pp2 (x:Nat):Nat:=(x / 4 &&& 3689348814741910323)+(x &&& 3689348814741910323)
def pp3 (x:Nat):Nat:=(x / 16+x) &&& 1085102592571150095
def pp4 (x:Nat):Nat:=x+x / 256
def pp5 (x:Nat):Nat:=x+x / 65536
def pp6 (x:Nat):Nat:=x+x / 4294967296
def ppc (x:Nat):Nat:=pp6 (pp5 (pp4 (pp3 (pp2 (pp1 x))))) % 128
theorem q3Y (a C:Nat) (ha:a<1000000) (hC:C<18446744073709551616):bits .and .u64 (a:Int) (C:Int)=((a &&& C:Nat):Int):=u64_and_nat a C (by omega) hC
theorem wrap64 (a:Nat) (ha:a<1000000):IntKind.u64.wrap (a:Int)=(a:Int):=by
 rw[show IntKind.u64.wrap (a:Int)=(a:Int) % 18446744073709551616 by simp[IntKind.wrap,IntKind.bits,IntKind.signed]];omega
theorem pp1_f {x:Nat}(h:x<4096):IntKind.u64.wrap (bits .and .u64 ((x:Int) / 2) 6148914691236517205+bits .and .u64 (x:Int) 6148914691236517205)=(pp1 x:Int)/\pp1 x<8192:=by
 have h1:=q3Y (x / 2) 6148914691236517205 (by omega) (by omega);have h2:=q3Y x 6148914691236517205 (by omega) (by omega);have h3:x / 2 &&& 6148914691236517205<=x / 2:=Nat.and_le_left;have h4:x &&& 6148914691236517205<=x:=Nat.and_le_left;have h5:(((x / 2:Nat):Int))=(x:Int) / 2:=by omega
 rw[h5] at h1;have h6:pp1 x<8192:=by unfold pp1;omega
 refine⟨?_,h6⟩;refine Eq.trans (congrArg IntKind.u64.wrap (?_:_=((pp1 x:Nat):Int))) (wrap64 _ (by omega))
 show bits .and .u64 ((x:Int) / 2) ((6148914691236517205:Nat):Int)+bits .and .u64 (x:Int) ((6148914691236517205:Nat):Int)=_
 rw[h1,h2];unfold pp1;omega
theorem pp2_f {x:Nat}(h:x<8192):IntKind.u64.wrap (bits .and .u64 ((x:Int) / 4) 3689348814741910323+bits .and .u64 (x:Int) 3689348814741910323)=(pp2 x:Int)/\pp2 x<16384:=by
 have h1:=q3Y (x / 4) 3689348814741910323 (by omega) (by omega);have h2:=q3Y x 3689348814741910323 (by omega) (by omega);have h3:x / 4 &&& 3689348814741910323<=x / 4:=Nat.and_le_left;have h4:x &&& 3689348814741910323<=x:=Nat.and_le_left;have h5:(((x / 4:Nat):Int))=(x:Int) / 4:=by omega
 rw[h5] at h1;have h6:pp2 x<16384:=by unfold pp2;omega
 refine⟨?_,h6⟩;refine Eq.trans (congrArg IntKind.u64.wrap (?_:_=((pp2 x:Nat):Int))) (wrap64 _ (by omega))
 show bits .and .u64 ((x:Int) / 4) ((3689348814741910323:Nat):Int)+bits .and .u64 (x:Int) ((3689348814741910323:Nat):Int)=_
 rw[h1,h2];unfold pp2;omega
theorem pp3_f {x:Nat}(h:x<16384):IntKind.u64.wrap ((x:Int) / 16+(x:Int))=((x / 16+x:Nat):Int)/\bits .and .u64 ((x / 16+x:Nat):Int) 1085102592571150095=(pp3 x:Int)/\pp3 x<32768:=by
 have h3:pp3 x<=x / 16+x:=Nat.and_le_left;refine⟨?_,q3Y _ _ (by omega) (by decide),by omega⟩;rw[<-wrap64 (x / 16+x) (by omega)]
 congr 1
theorem pp4_f {x:Nat}(h:x<32768):IntKind.u64.wrap ((x:Int)+(x:Int) / 256)=(pp4 x:Int)/\pp4 x<65536:=by
 unfold pp4;refine⟨?_,by omega⟩;rw[<-wrap64 (x+x / 256) (by omega)]
 congr 1
theorem pp5_f {x:Nat}(h:x<65536):IntKind.u64.wrap ((x:Int)+(x:Int) / 65536)=(pp5 x:Int)/\pp5 x<131072:=by
 unfold pp5;refine⟨?_,by omega⟩;rw[<-wrap64 (x+x / 65536) (by omega)]
 congr 1
theorem pp6_f {x:Nat}(h:x<131072):IntKind.u64.wrap ((x:Int)+(x:Int) / 4294967296)=(pp6 x:Int)/\pp6 x<262144:=by
 unfold pp6;refine⟨?_,by omega⟩;rw[<-wrap64 (x+x / 4294967296) (by omega)]
 congr 1
theorem q3S{x:Nat}(h:x<4096) :
  Calls Tryz.prog 115 #[.int .u64 (x:Int)] w (zH w (.int .i64 (ppc x:Int))):=by
 obtain⟨Q,hQ⟩:=qc (zH w (.int .i64 (ppc x:Int)));rw[<-hQ.out];obtain⟨y1,hy1⟩:=qc (pp1 x);obtain⟨y2,hy2⟩:=qc (pp2 y1);obtain⟨y3,hy3⟩:=qc (pp3 y2);obtain⟨y4,hy4⟩:=qc (pp4 y3);obtain⟨y5,hy5⟩:=qc (pp5 y4);obtain⟨y6,hy6⟩:=qc (pp6 y5);obtain⟨f1,b1⟩:=pp1_f h;rw[<-hy1.out] at f1 b1;obtain⟨f2,b2⟩:=pp2_f b1;rw[<-hy2.out] at f2 b2;obtain⟨f3,f3',b3⟩:=pp3_f b2;obtain⟨y9,hy9⟩:=qc (y2 / 16+y2);rw[<-hy9.out] at f3 f3';rw[<-hy3.out] at f3' b3;obtain⟨f4,b4⟩:=pp4_f b3;rw[<-hy4.out] at f4 b4;obtain⟨f5,b5⟩:=pp5_f b4;rw[<-hy5.out] at f5 b5;obtain⟨f6,b6⟩:=pp6_f b5;rw[<-hy6.out] at f6 b6;go_enter Tryz.func115,Tryz.ntmps115;go_wp2;rw[hQ.out];refine⟨?_,Ext.refl _⟩
 show Ending.returned (.int .i64 (bits .and .i64 (y6:Int) 127))=_
 rw[i64_and127]
 have h9:ppc x=y6 % 128:=by
  unfold ppc;rw[<-hy1.out,<-hy2.out,<-hy3.out,<-hy4.out,<-hy5.out,<-hy6.out]
 rw[h9,show ((y6 % 128:Nat):Int)=(y6:Int) % 128 by omega]
theorem q76:∀a:Fin 64,∀b:Fin 64,ppc (a.val*64+b.val)=KJ (fun j=>(a.val*64+b.val).testBit j) 12:=by decide +kernel
theorem Xx {f f':Nat->Bool}:∀ {n:Nat},(∀j,j<n->f j=f' j)->KJ f n=KJ f' n
 | 0,_=>rfl
 | n+1,h=>by
  unfold KJ;rw[Xx (fun j hj=>h j (by omega)),h n (by omega)]
theorem YT {f:Nat->Bool}{n:Nat}:∀d,(∀j,n<=j->f j=false)->KJ f (n+d)=KJ f n
 | 0,_=>rfl
 | d+1,h=>by
  show KJ f (n+d)+(if f (n+d)=true then 1 else 0)=_
  rw[YT d h,h (n+d) (by omega),if_neg (by decide)]
  rfl
theorem q8B {f:Nat->Bool}(hn:n<=12):ppc (wd f n)=KJ f n:=by
 have h0:=yX f hn;have h1:=q76 ⟨wd f n / 64,by omega⟩ ⟨wd f n % 64,by omega⟩;simp only[show wd f n / 64*64+wd f n % 64=wd f n by omega] at h1
 have h2:KJ (fun j=>(wd f n).testBit j) (n+(12-n))=KJ (fun j=>(wd f n).testBit j) n:=YT _ fun j hj=>by
  rw[xA,q_f (by omega),Bool.false_and]
 rw[show n+(12-n)=12 by omega] at h2;rw[h1,h2];exact Xx fun j hj=>by rw[xA,q_t hj,Bool.true_and]
theorem q3T{f:Nat->Bool}(hn:n<=12) :
  Calls Tryz.prog 65 #[.int .u64 ((wd f n:Nat):Int)] w (zH w (.int .i64 (KJ f n:Int))):=by
 obtain⟨Q,hQ⟩:=qc (zH w (.int .i64 (KJ f n:Int)));rw[<-hQ.out];have HF:=q_h (q8B (f:=f) hn);obtain⟨x,hx⟩:=qc (wd f n);have hx9:x<4096:=by rw[hx.out];exact yX f hn
 rw[<-hx.out] at HF ⊢;go_enter Tryz.func65,Tryz.ntmps65;go_wp2_with (go_at_call 115;refine q_o ?_);refine (q3S hx9).mono ?_;rintro e w1 ⟨rfl,e1⟩;rw[HF.out];go_wp2;rw[hQ.out];exact⟨rfl,e1⟩
end
section
open Go.RowKit
def inO (o:List Nat) (k:Nat):Bool:=kT o.length fun t=>decide (((o[t]?.getD 0:Nat):Int)=(k:Int))
theorem q34 {o:List Nat}:inO o k=true↔k∈o:=by
 unfold inO kT;rw[List.any_eq_true]
 constructor
 ·rintro⟨t,ht,h⟩;have h1:=List.mem_range.1 ht;rw[List.getElem?_eq_getElem h1] at h
  have h2:o[t]=k:=by
   have h3:=of_decide_eq_true h;exact Int.ofNat_inj.1 h3
  rw[<-h2];exact List.getElem_mem h1
 ·intro h;obtain⟨t,ht,rfl⟩:=List.getElem_of_mem h;exact⟨t,List.mem_range.2 ht,by rw[List.getElem?_eq_getElem ht];simp⟩
def QP (G:Nat->Nat->Bool) (n:Nat) (o:List Nat):Nat->Int
 | 0=>-1
 | k+1=>if (!inO o k&&(decide (QP G n o k<0)||decide (KJ (G k) n<KJ (G (QP G n o k).toNat) n)))=true then (k:Int) else QP G n o k
def Qg (G:Nat->Nat->Bool) (n:Nat):Nat->(Nat->Nat->Bool)×List Nat
 | 0=>(G,[])
 | t+1=>(q0L (Qg G n t).1 (QP (Qg G n t).1 n (Qg G n t).2 n).toNat,(Qg G n t).2 ++ [(QP (Qg G n t).1 n (Qg G n t).2 n).toNat])
structure Gok (G:Nat->Nat->Bool) (n:Nat):Prop where
 sym:∀a b,a<n->b<n->G a b=G b a
 irr:∀a,a<n->G a a=false
section
variable {G:Nat->Nat->Bool}{n k:Nat}{o:List Nat}
theorem Gok.rem (h:Gok G n):Gok (q0L G k) n:=by
 refine⟨fun a b ha hb=>?_,fun a ha=>?_⟩
 ·unfold q0L;rw[h.sym a b ha hb,show decide (a=b)=decide (b=a) by rw[decide_eq_decide];exact eq_comm];cases decide (a=k)<;>cases decide (b=k)<;>cases G k a<;>cases G k b<;>simp
 ·unfold q0L;rw[h.irr a ha]
  simp
theorem q3O (k:Nat) : -1<=QP G n o k/\QP G n o k<k:=by
 induction k with
 | zero=>exact⟨Int.le_refl _,by show (-1:Int)<0;omega⟩
 | succ k ih =>
  unfold QP
  split
  ·constructor<;>omega
  ·constructor<;>omega
theorem q97 (k:Nat) (h:0<=QP G n o k):inO o (QP G n o k).toNat=false:=by
 induction k with
 | zero=>exact absurd h (by show ¬(0:Int)<=-1;omega)
 | succ k ih =>
  unfold QP at h ⊢
  split
  ·rename_i h1
   rw[Bool.and_eq_true,Bool.not_eq_true'] at h1;exact h1.1
  ·rename_i h1
   rw[if_neg h1] at h;exact ih h
theorem q3N (k:Nat) (h:∃j,j<k/\inO o j=false):0<=QP G n o k:=by
 induction k with
 | zero=>obtain⟨j,hj,-⟩:=h;omega
 | succ k ih =>
  unfold QP
  split
  ·omega
  ·rename_i h1
   by_cases h2:0<=QP G n o k
   ·exact h2
   obtain⟨j,hj,h3⟩:=h
   by_cases hjk:j<k
   ·exact ih ⟨j,hjk,h3⟩
   ·obtain rfl:j=k:=by omega
    rw[h3,q_t (show QP G n o j<0 by omega)] at h1;simp at h1
theorem YJ (hl:o.length<n):∃j,j<n/\inO o j=false:=by
 refine Classical.byContradiction fun h=>?_
 have h1:∀j,j<n->j∈o:=fun j hj=>by
  refine Classical.byContradiction fun h2=>h ⟨j,hj,?_⟩
  rw[Bool.eq_false_iff];exact fun h3=>h2 (q34.1 h3)
 have h2:∀j:Fin n,∃t,t<o.length/\o[t]?.getD 0=j.1:=fun j=>by
  obtain⟨t,ht,hx⟩:=List.getElem_of_mem (h1 j.1 j.2);exact⟨t,ht,by rw[List.getElem?_eq_getElem ht];exact hx⟩
 obtain⟨f,hf⟩:=Classical.axiomOfChoice h2
 obtain⟨a,ha,hfa⟩:=yI (m:=n) (o:=fun a=>if h:a<n then f ⟨a,h⟩ else 0) (fun t ht=>by
  show (if h:t<n then f ⟨t,h⟩ else 0)<n
  rw[dif_pos ht];have:=(hf ⟨t,ht⟩).1;omega) (fun a b ha hb hab=>by
  simp only[dif_pos ha,dif_pos hb] at hab;have h3:=(hf ⟨a,ha⟩).2;have h4:=(hf ⟨b,hb⟩).2;rw[hab] at h3;simp only at h3 h4
  omega) (n-1) (by omega)
 simp only[dif_pos ha] at hfa;have:=(hf ⟨a,ha⟩).1;omega
theorem q2w (hG:Gok G n):∀t,t<=n->Gok (Qg G n t).1 n/\(Qg G n t).2.length=t/\(∀x∈(Qg G n t).2,x<n)/\(Qg G n t).2.Nodup
 | 0,_=>⟨hG,rfl,fun x (hx:x∈([]:List Nat))=>absurd hx List.not_mem_nil,List.nodup_nil⟩
 | t+1,ht=>by
  obtain⟨h1,h2,h3,h4⟩:=q2w hG t (by omega);have h5:=q3N (G:=(Qg G n t).1) (n:=n) n (YJ (o:=(Qg G n t).2) (by omega));have h6:=(q3O (G:=(Qg G n t).1) (n:=n) (o:=(Qg G n t).2) n).2;have h7:=q97 n h5;refine⟨h1.rem,?_,fun x hx=>?_,?_⟩
  ·show ((Qg G n t).2 ++ [_]).length=_
   rw[List.length_append,h2]
   rfl
  ·rcases List.mem_append.1 hx with h|h
   ·exact h3 x h
   ·rw[List.mem_singleton.1 h];omega
  ·refine List.nodup_append.2 ⟨h4,by simp,fun a ha b hb hab=>?_⟩;rw[List.mem_singleton.1 hb] at hab;subst hab;rw[q34.2 ha] at h7;cases h7
end
end
section
open Go.RowKit
def q0A (w:World) (Z:Sys) (e:Ending) (w':World):Prop :=
 Ext w w'/\((vH Z≠0/\e=.returned (.tuple #[.slice none 0 0,.int .i64 (vH Z)])) \/
  (vH Z=0/\∃A c,e=.returned (.tuple #[.slice A Z.ns c,.int .i64 0])/\IxV 0 0 w'.heap.size w' (.slice A Z.ns c) Z.ns Z.ns (fun t=>(Qg (yL Z Z.nb) Z.ns Z.ns).2[t]?.getD 0)))
theorem q6l {Z:Sys}{q:Nat}:Gok (yL Z q) n:=by
 refine⟨fun a b _ _=>?_,fun a _=>?_⟩
 ·unfold yL
  congr 1
  funext p
  unfold edg;cases decide ((Z.b p).r=(a:Int))<;>cases decide ((Z.b p).c=(a:Int))<;>cases decide ((Z.b p).r=(b:Int))<;>cases decide ((Z.b p).c=(b:Int))<;>simp
 ·unfold yL;rw[qZ];intro p _;unfold edg
  by_cases h:(Z.b p).r=(Z.b p).c
  ·rw[q_t h];simp
  ·rw[q_f h];have:¬((Z.b p).r=(a:Int)/\(Z.b p).c=(a:Int)):=fun ⟨h1,h2⟩=>h (h1.trans h2.symm)
   by_cases h1:(Z.b p).r=(a:Int)
   ·rw[q_f (show ¬(Z.b p).c=(a:Int) from fun h2=>this ⟨h1,h2⟩)];simp
   ·rw[q_f h1];simp
theorem q84{Z:Sys}(h:jI N lo hi w v Z) (hBz:∀i,i<Z.nb->q6C (Z.b i)) (hkz:∀i,i<Z.k->jJ (Z.R i)) :
  Calls Tryz.prog 20 #[v] w (q0A w Z):=by
 obtain⟨Q,hQ⟩:=qc (q0A w Z);rw[<-hQ.out];obtain⟨A1,c1,A2,c2,A3,c3,rfl,s1,s2,s3,k1,k2,k3⟩:=h.parts;have HCK:=fun (w':World) (e:Ext w w')=>JI (h.ext e) hBz hkz
 have HNB:=fun (w':World) (e:Ext w w') (h0:Okk Z)=>QR (h.ext e) h0
 obtain⟨m,hm⟩:=qc Z.ns;obtain⟨nb,hnb⟩:=qc Z.nb;obtain⟨kk,hkk⟩:=qc Z.k;obtain⟨cd,hcd⟩:=qc (vH Z);rw[<-hm.out,<-hnb.out,<-hkk.out] at HCK HNB ⊢;rw[<-hcd.out] at HCK;rw[<-hm.out] at k1;rw[<-hnb.out] at k2;rw[<-hkk.out] at k3;have HCK':=q_h HCK;have HNB':=q_h HNB;clear h s1 s2 s3 HCK HNB hBz hkz;go_enter Tryz.func20,Tryz.ntmps20;go_upto_region 1 with (fail);refine qo ?_;intro w1 hE hsz B0;obtain⟨g1,hg1⟩:=qc w.heap.size;have hg1s:g1<w1.heap.size:=qF (by rw[<-hg1.out] at B0;exact B0);rw[<-hg1.out] at B0 ⊢;obtain⟨a0,a1,a2,-⟩:=cells3 B0;go_wp2_with (go_at_call 34;refine q_o ?_);refine (HCK'.out _ hE).mono ?_;rintro e w2 ⟨rfl,e2⟩;replace hE:=hE.trans e2;replace B0:=e2.block B0;clear a0 a1 a2 e2 HCK'
 by_cases h0:cd=0
 case neg =>
  have t1:(cd != 0)=true:=by simpa using h0
  have HC:=q_h h0;clear h0;go_wp2
  first|go_ret|skip
  rw[hQ.out];unfold q0A;rw[<-hcd.out];exact⟨hE,.inl ⟨HC.out,rfl⟩⟩
 have t1:(cd != 0)=false:=by simp[h0]
 have HOK:Hid (Okk Z):=QG (by rw[<-hcd.out];exact h0);have HC0:=q_h h0;have hm12:m<=12:=by rw[hm.out];exact HOK.out.n2
 clear h0;obtain⟨a0,a1,a2,-⟩:=cells3 B0;go_wp2_with (go_at_call 59;refine q_o ?_);refine (HNB'.out _ hE HOK.out).mono ?_;rintro e w3 ⟨g,rfl,hg,hN,e3⟩;obtain⟨G,hG⟩:=qc (yL Z nb);have HG0:Hid (Gok G m):=by rw[hG.out];exact q6l
 rw[<-hG.out] at hN;have HE3:=q_h (hE.trans e3);have hgw:w.heap.size<=g:=q_l hE.size hg;have hg3:g<w3.heap.size:=FlB.lt hN;have HN0:Hid (NrB w3 g m (Qg G m 0).1):=hN;have HO0:Hid (qO 3 w3.heap.size w3 (.slice none 0 0) (ivs (Qg G m 0).2)):=qO.nil (q_r);clear hN e3 hE B0 a0 a1 a2 t1 HNB';go_wp2_with fail
 go_loopw [18,6] (fun iv ov wr=>∃(t:Nat) (A:Option Addr) (c:Nat),t<=m/\iv=.int .i64 (t:Int)/\ov=.slice A t c/\Hid (qO 3 w3.heap.size wr (.slice A t c) (ivs (Qg G m t).2))/\Hid (NrB wr g m (Qg G m t).1)/\Hid (Chg g (g+1) w3 wr)) (fun iv _ _=>m-(intOf iv).toNat)
 case atStart=>exact⟨0,none,0,Nat.zero_le _,rfl,rfl,HO0,HN0,Chg.refl _ _ _⟩
 case round =>
  clear HO0 HN0;obtain⟨t,A,c,ht9,rfl,rfl,HO,HN,HC⟩:=hrel;have HT:=q_h (q2w HG0.out t ht9)
  by_cases hlt:t<m
  case neg =>
   have t1:decide ((t:Int)<(m:Int))=false:=q_f (by omega);obtain rfl:m=t:=by omega
   have HIX:Hid (IxV 0 0 wr.heap.size wr (.slice A m c) m m (fun t=>(Qg G m m).2[t]?.getD 0)):=by
    have h1:=Qz (N:=0) HO.out HT.out.2.2.1;rw[HT.out.2.1] at h1;exact h1
   have HE9:Hid (Ext w wr):=HC.out.ext HE3.out hgw;go_wp2
   first|go_ret|skip
   rw[hQ.out];unfold q0A;rw[<-hcd.out,<-hm.out,<-hnb.out,<-hG.out];exact⟨HE9.out,.inr ⟨HC0.out,A,c,rfl,HIX.out⟩⟩
  have t1:decide ((t:Int)<(m:Int))=true:=q_t (by omega);have t2:(t:Int)<(m:Int):=by omega
  obtain⟨H,hH⟩:=qc (Qg G m t).1;obtain⟨o,ho⟩:=qc (Qg G m t).2;rw[<-hH.out,<-ho.out] at HT;rw[<-ho.out] at HO;rw[<-hH.out] at HN
  have HIX:Hid (IxV 0 0 wr.heap.size wr (.slice A t c) t m (fun t=>o[t]?.getD 0)):=by
   have h1:=Qz (N:=0) HO.out HT.out.2.2.1;rw[HT.out.2.1] at h1;exact h1
  obtain⟨wq,hwq⟩:∃wq,wq=wr:=⟨_,rfl⟩
  subst hwq;go_wp2_with fail
  go_loopw [22,7] (fun iv bv wr=>∃k:Nat,k<=m/\iv=.int .i64 (k:Int)/\bv=.int .i64 (QP H m o k)/\Hid (Ext wq wr)) (fun iv _ _=>m-(intOf iv).toNat)
  case atStart=>exact⟨0,Nat.zero_le _,rfl,rfl,Ext.refl _⟩
  case round =>
   obtain⟨k,hk9,rfl,rfl,HE⟩:=hrel
   by_cases hlk:k<m
   case neg =>
    have t3:decide ((k:Int)<(m:Int))=false:=q_f (by omega);obtain rfl:m=k:=by omega
    have hb0:=q3N (G:=H) (n:=m) (o:=o) m (YJ (by rw[HT.out.2.1];exact hlt));have hb1:=(q3O (G:=H) (n:=m) (o:=o) m).2;obtain⟨b,hb⟩:=qc (QP H m o m).toNat;rw[show QP H m o m=(b:Int) by have:=hb.out;omega];have hbm:b<m:=by have:=hb.out;omega
    have HNr:Hid (NrB wr g m H):=FlB.ext HN.out HE.out;have HOr:=q_h (HO.out.ext HE.out);have HCr:Hid (Chg g (g+1) w3 wr):=HC.out.trans (HE.out.chg _ _);clear HN HO HC HE HIX t1 t2 hb0 hb1;go_wp2_with (go_at_call 60;refine q_o ?_);refine (q0t HNr.out hm12 hbm HT.out.1.sym HT.out.1.irr).mono ?_;rintro e w5 ⟨v5,rfl,-,h5,C5⟩;have HN5:=q_h h5;have HO5:=q_h (HOr.out.chg C5 (by omega));have HC5:=q_h (HCr.out.trans C5);have hol:o.length=t:=HT.out.2.1;clear h5 C5 HNr HOr HCr;have HP1:Hid ((Qg G m (t+1)).1=q0L H b):=by rw[hb.out,hH.out,ho.out];rfl
    have HP2:Hid ((Qg G m (t+1)).2=o ++ [b]):=by rw[hb.out,hH.out,ho.out];rfl
    have hivl:(ivs o).length=t:=by rw[kM];exact hol
    have hxl1:(ivs o).length+1<=1000000000:=by omega
    go_wp2_with (at_builtin;refine q_o ?_);refine qo ?_;intro w6 e6 hsz6 B6;refine zB jZ rfl _ _ 25 Tryz.underlying25 rfl (by first|rfl|(rw[hivl])) (HO5.out.ext e6) (m:=1) (c:=1) (news:=[.int .i64 (b:Int)]) (by rfl) rfl (xZ B6) (fun x hx=>by rw[List.mem_singleton.1 hx];rfl) (by omega) hxl1 ?_;rintro g18 cap18 w18 hG18 hat18 ⟨g9,hlo,hw9,C9,-⟩;rw[ZG,<-HP2.out] at hG18;rw[hivl] at hG18 ⊢;have HG18:=q_h hG18
    have HN18:Hid (NrB w18 g m (Qg G m (t+1)).1):=by
     rw[HP1.out];exact FlB.chg (FlB.ext HN5.out e6) C9 (.inl (by omega))
    have HC18:Hid (Chg g (g+1) w3 w18):=(HC5.out.trans (e6.chg _ _)).newer C9 hlo;clear hG18 hat18 hlo hw9 C9 B6 e6 hsz6 HN5 HO5 HC5 hxl1 hivl hol;go_wp2;go_roundw
    case rel=>exact⟨t+1,_,_,by omega,by go_num,rfl,HG18,HN18,HC18⟩
    case measure=>simp[intOf];omega
   have t3:decide ((k:Int)<(m:Int))=true:=q_t (by omega);have t4:(k:Int)<(m:Int):=by omega
   have HNr:Hid (NrB wr g m H):=FlB.ext HN.out HE.out;have HIr:=q_h (HIX.out.ext HE.out);obtain⟨r,hr⟩:=qc (inO o k)
   have HRI:Hid (kT t (fun t=>decide (((o[t]?.getD 0:Nat):Int)=(k:Int)))=r):=by
    rw[Hid,hr.out];unfold inO;rw[HT.out.2.1]
   have hbd:=(q3O (G:=H) (n:=m) (o:=o) k)
   have HST:Hid (QP H m o (k+1)=if (!r&&(decide (QP H m o k<0)||decide (KJ (H k) m<KJ (H (QP H m o k).toNat) m)))=true then (k:Int) else QP H m o k):=by
    rw[hr.out];rfl
   obtain⟨B,hB⟩:=qc (QP H m o k);rw[<-hB.out] at HST hbd ⊢;cases r with
   | true =>
    have HS1:Hid (QP H m o (k+1)=B):=by rw[HST.out,Bool.not_true,Bool.false_and,if_neg (by decide)];rfl
    go_upto_region 12 with (fail);refine yB [Mn.eq (.slice A t c),Mn.i (k:Int),Mn.t true,Mn.t false,Mn.t false,Mn.eq undef,Mn.eq undef,Mn.eq undef,Mn.eq undef,Mn.eq undef,Mn.eq undef,Mn.eq undef,Mn.eq undef,Mn.eq undef,Mn.eq undef,Mn.eq undef,Mn.eq undef,Mn.eq undef,Mn.eq undef,Mn.eq undef,Mn.t false] (sM [25,26,27,28,29,30,31,32,33,34,35,36,37,38,39,40,41,42,43,44,45]) [] (rQ 21 0) 0 (by kernel_rfl) ?_ ?_
    ·show ∀i,i<21->_
     iterate 21 refine fs ?_ ?_
     ·exact fz
     all_goals intro hl;clear hl;refine stp rfl ?_;intro ac wi eI hB hA K hK
     have o6:=oOf (hB 6) rfl;rotate_left;have o8:=oOf (hB 8) rfl;rotate_left;obtain⟨_,s25,rfl⟩:=hA 0 25;obtain⟨_,s26,rfl⟩:=hA 1 26;clear hB hA
     ·go_simp;refine (kP (HIr.out.ext eI).1 (k:Int)).mono ?_;rw[HRI.out];rintro e wj ⟨rfl,ej⟩;go_wp2_with fail;exact hK.out _ _ ej rfl
     obtain⟨_,s27,rfl⟩:=hA 2 27;rotate_left;obtain⟨_,s28,rfl⟩:=hA 3 28;rotate_left
     iterate 3 (obtain⟨_,s29,rfl⟩:=hA 4 29;clear hB hA;rw[if_neg (by simp[Region.wanted,yielded,s29,undef])];exact q_k hK rfl)
     iterate 11 (obtain⟨_,s32,rfl⟩:=hA 7 32;clear hB hA;rw[if_neg (by simp[Region.wanted,yielded,s32,undef])];exact q_k hK rfl)
     obtain⟨_,s29,rfl⟩:=hA 4 29;clear hB hA;rw[if_neg (by simp[Region.wanted,yielded,s29,undef])];exact q_k hK rfl;obtain⟨_,s29,rfl⟩:=hA 4 29;obtain⟨_,s44,rfl⟩:=hA 19 44;rotate_left
     all_goals clear hB hA;go_simp;exact q_k hK rfl
    intro vals wz eZ hJ;have J45:vals 20=_:=hJ 20 (by decide) (by decide);clear hJ;simp only[pr,Nat.reduceAdd,J45];clear J45;refine qg (by kernel_rfl) ?_ _;have HEz:Hid (Ext wq wz):=HE.out.trans eZ;clear eZ HNr HIr;go_wp2;go_roundw
    case rel=>exact⟨k+1,by omega,by go_num,by rw[HS1.out],HEz⟩
    case measure=>simp[intOf];omega
   | false =>
    obtain⟨x0,-⟩:=FlB.cell HNr.out hlk
    by_cases hB0:B<0
    ·have t5:decide (B<0)=true:=q_t hB0;have HS1:Hid (QP H m o (k+1)=(k:Int)):=by rw[HST.out,t5,Bool.true_or,Bool.not_false,Bool.true_and,if_pos rfl];rfl
     clear x0;go_upto_region 12 with (fail);refine yB [Mn.eq (.slice A t c),Mn.i (k:Int),Mn.t false,Mn.t true,Mn.t true,Mn.i B,Mn.t true,Mn.t true,Mn.eq undef,Mn.eq undef,Mn.eq undef,Mn.eq undef,Mn.eq undef,Mn.eq undef,Mn.eq undef,Mn.eq undef,Mn.eq undef,Mn.eq undef,Mn.eq undef,Mn.t true,Mn.t true] (sM [25,26,27,28,29,30,31,32,33,34,35,36,37,38,39,40,41,42,43,44,45]) [] (rQ 21 0) 0 (by kernel_rfl) ?_ ?_
     ·show ∀i,i<21->_
      iterate 21 refine fs ?_ ?_
      ·exact fz
      all_goals intro hl;clear hl;refine stp rfl ?_;intro ac wi eI hB hA K hK
      have o6:=oOf (hB 6) rfl;rotate_left;have o8:=oOf (hB 8) rfl;rotate_left;obtain⟨_,s25,rfl⟩:=hA 0 25;obtain⟨_,s26,rfl⟩:=hA 1 26;clear hB hA
      ·go_simp;refine (kP (HIr.out.ext eI).1 (k:Int)).mono ?_;rw[HRI.out];rintro e wj ⟨rfl,ej⟩;go_wp2_with fail;exact hK.out _ _ ej rfl
      obtain⟨_,s27,rfl⟩:=hA 2 27;rotate_left;obtain⟨_,s28,rfl⟩:=hA 3 28;rotate_left;obtain⟨_,s29,rfl⟩:=hA 4 29;have o7:=oOf (hB 7) rfl;rw[if_pos (by simp[Region.wanted,yielded,s29])];rotate_left;obtain⟨_,s29,rfl⟩:=hA 4 29;obtain⟨_,s30,rfl⟩:=hA 5 30;rw[if_pos (by simp[Region.wanted,yielded,s29])];rotate_left;obtain⟨_,s29,rfl⟩:=hA 4 29;obtain⟨_,s31,rfl⟩:=hA 6 31;rw[if_pos (by simp[Region.wanted,yielded,s29])];rotate_left
      iterate 11 (obtain⟨_,s32,rfl⟩:=hA 7 32;clear hB hA;rw[if_neg (by simp[Region.wanted,yielded,s32,undef])];exact q_k hK rfl)
      obtain⟨_,s29,rfl⟩:=hA 4 29;obtain⟨_,s32,rfl⟩:=hA 7 32;obtain⟨_,s43,rfl⟩:=hA 18 43;rw[if_pos (by simp[Region.wanted,yielded,s29])];rotate_left;obtain⟨_,s29,rfl⟩:=hA 4 29;obtain⟨_,s44,rfl⟩:=hA 19 44;rotate_left
      all_goals clear hB hA;go_simp;exact q_k hK rfl
     intro vals wz eZ hJ;have J45:vals 20=_:=hJ 20 (by decide) (by decide);clear hJ;simp only[pr,Nat.reduceAdd,J45];clear J45;refine qg (by kernel_rfl) ?_ _;have HEz:Hid (Ext wq wz):=HE.out.trans eZ;clear eZ HNr HIr;go_wp2;go_roundw
     case rel=>exact⟨k+1,by omega,by go_num,by rw[HS1.out],HEz⟩
     case measure=>simp[intOf];omega
    have t5:decide (B<0)=false:=q_f hB0;obtain⟨b,hb⟩:=qc B.toNat;have hBb:B=(b:Int):=by have:=hb.out;omega
    subst hBb;have hbm:b<m:=by omega
    have HS0:Hid (QP H m o (k+1)=if decide (KJ (H k) m<KJ (H b) m)=true then (k:Int) else (b:Int)):=by
     rw[HST.out,t5,Bool.not_false,Bool.true_and,Bool.false_or,Int.toNat_natCast]
     rfl
    obtain⟨y0,-⟩:=FlB.cell HNr.out hbm;obtain⟨P,hP⟩:=qc (KJ (H k) m);obtain⟨R,hR⟩:=qc (KJ (H b) m);rw[<-hP.out,<-hR.out] at HS0;obtain⟨tf,htf⟩:=qc (decide (P<R));rw[<-htf.out] at HS0;have t6:decide ((P:Int)<(R:Int))=tf:=by rw[htf.out,decide_eq_decide];omega
    have t6':decide (P<R)=tf:=htf.out.symm;have t7:(b:Int)<(m:Int):=by omega
    obtain⟨X,hX⟩:=qc (wd (H k) m);obtain⟨Y,hY⟩:=qc (wd (H b) m)
    have HCX:Hid (∀w',Calls Tryz.prog 65 #[.int .u64 (X:Int)] w' (zH w' (.int .i64 (P:Int)))):=fun w'=>by
     rw[hX.out,hP.out];exact q3T hm12
    have HCY:Hid (∀w',Calls Tryz.prog 65 #[.int .u64 (Y:Int)] w' (zH w' (.int .i64 (R:Int)))):=fun w'=>by
     rw[hY.out,hR.out];exact q3T hm12
    rw[<-hX.out] at x0;rw[<-hY.out] at y0;go_upto_region 12 with (fail);refine yB [Mn.eq (.slice A t c),Mn.i (k:Int),Mn.t false,Mn.t true,Mn.t true,Mn.i (b:Int),Mn.t false,Mn.t false,Mn.eq (.slice (some ⟨g,0,none⟩) m m),Mn.i (k:Int),Mn.q g k,Mn.eq (.int .u64 (X:Int)),Mn.i (P:Int),Mn.eq (.slice (some ⟨g,0,none⟩) m m),Mn.i (b:Int),Mn.q g b,Mn.eq (.int .u64 (Y:Int)),Mn.i (R:Int),Mn.t tf,Mn.t tf,Mn.t tf] (sM [25,26,27,28,29,30,31,32,33,34,35,36,37,38,39,40,41,42,43,44,45]) [] (rQ 21 0) 0 (by kernel_rfl) ?_ ?_
    ·show ∀i,i<21->_
     iterate 21 refine fs ?_ ?_
     ·exact fz
     all_goals intro hl;clear hl;refine stp rfl ?_;intro ac wi eI hB hA K hK
     have o6:=oOf (hB 6) rfl;rotate_left;have o8:=oOf (hB 8) rfl;rotate_left;obtain⟨_,s25,rfl⟩:=hA 0 25;obtain⟨_,s26,rfl⟩:=hA 1 26;clear hB hA
     ·go_simp;refine (kP (HIr.out.ext eI).1 (k:Int)).mono ?_;rw[HRI.out];rintro e wj ⟨rfl,ej⟩;go_wp2_with fail;exact hK.out _ _ ej rfl
     obtain⟨_,s27,rfl⟩:=hA 2 27;rotate_left;obtain⟨_,s28,rfl⟩:=hA 3 28;rotate_left;obtain⟨_,s29,rfl⟩:=hA 4 29;have o7:=oOf (hB 7) rfl;rw[if_pos (by simp[Region.wanted,yielded,s29])];rotate_left;obtain⟨_,s29,rfl⟩:=hA 4 29;obtain⟨_,s30,rfl⟩:=hA 5 30;rw[if_pos (by simp[Region.wanted,yielded,s29])];rotate_left;obtain⟨_,s29,rfl⟩:=hA 4 29;obtain⟨_,s31,rfl⟩:=hA 6 31;rw[if_pos (by simp[Region.wanted,yielded,s29])];rotate_left;obtain⟨_,s32,rfl⟩:=hA 7 32;have o5:=oOf (hB 5) rfl;rw[if_pos (by simp[Region.wanted,yielded,s32])];rotate_left;obtain⟨_,s32,rfl⟩:=hA 7 32;have o8:=oOf (hB 8) rfl;rw[if_pos (by simp[Region.wanted,yielded,s32])];rotate_left;obtain⟨_,s32,rfl⟩:=hA 7 32;obtain⟨_,s33,rfl⟩:=hA 8 33;obtain⟨_,s34,rfl⟩:=hA 9 34;rw[if_pos (by simp[Region.wanted,yielded,s32])];rotate_left;obtain⟨_,s32,rfl⟩:=hA 7 32;obtain⟨_,s35,rfl⟩:=hA 10 35;rw[if_pos (by simp[Region.wanted,yielded,s32])];have cc0:=eI.cell x0;rotate_left;obtain⟨_,s32,rfl⟩:=hA 7 32;obtain⟨_,s36,rfl⟩:=hA 11 36;clear hB hA;rw[if_pos (by simp[Region.wanted,yielded,s32])]
     ·go_simp;refine (HCX.out _).mono ?_;rintro e wj ⟨rfl,ej⟩;go_wp2_with fail;exact hK.out _ _ ej rfl
     obtain⟨_,s32,rfl⟩:=hA 7 32;have o5:=oOf (hB 5) rfl;rw[if_pos (by simp[Region.wanted,yielded,s32])];rotate_left;obtain⟨_,s32,rfl⟩:=hA 7 32;have o7:=oOf (hB 7) rfl;rw[if_pos (by simp[Region.wanted,yielded,s32])];rotate_left;obtain⟨_,s32,rfl⟩:=hA 7 32;obtain⟨_,s38,rfl⟩:=hA 13 38;obtain⟨_,s39,rfl⟩:=hA 14 39;rw[if_pos (by simp[Region.wanted,yielded,s32])];rotate_left;obtain⟨_,s32,rfl⟩:=hA 7 32;obtain⟨_,s40,rfl⟩:=hA 15 40;rw[if_pos (by simp[Region.wanted,yielded,s32])];have cc0:=eI.cell y0;rotate_left;obtain⟨_,s32,rfl⟩:=hA 7 32;obtain⟨_,s41,rfl⟩:=hA 16 41;clear hB hA;rw[if_pos (by simp[Region.wanted,yielded,s32])]
     ·go_simp;refine (HCY.out _).mono ?_;rintro e wj ⟨rfl,ej⟩;go_wp2_with fail;exact hK.out _ _ ej rfl
     obtain⟨_,s32,rfl⟩:=hA 7 32;obtain⟨_,s37,rfl⟩:=hA 12 37;obtain⟨_,s42,rfl⟩:=hA 17 42;rw[if_pos (by simp[Region.wanted,yielded,s32])];rotate_left;obtain⟨_,s29,rfl⟩:=hA 4 29;obtain⟨_,s32,rfl⟩:=hA 7 32;obtain⟨_,s43,rfl⟩:=hA 18 43;rw[if_pos (by simp[Region.wanted,yielded,s29])];rotate_left;obtain⟨_,s29,rfl⟩:=hA 4 29;obtain⟨_,s44,rfl⟩:=hA 19 44;rotate_left
     all_goals clear hB hA;go_simp;exact q_k hK rfl
    intro vals wz eZ hJ;have J45:vals 20=_:=hJ 20 (by decide) (by decide);clear hJ;simp only[pr,Nat.reduceAdd,J45];clear J45;refine qg (by kernel_rfl) ?_ _;have HEz:Hid (Ext wq wz):=HE.out.trans eZ;clear eZ HNr HIr x0 y0;cases tf with
    | true =>
     rw[if_pos rfl] at HS0;go_wp2;go_roundw
     case rel=>exact⟨k+1,by omega,by go_num,by rw[HS0.out],HEz⟩
     case measure=>simp[intOf];omega
    | false =>
     rw[if_neg (by decide)] at HS0;go_wp2;go_roundw
     case rel=>exact⟨k+1,by omega,by go_num,by rw[HS0.out],HEz⟩
     case measure=>simp[intOf];omega
theorem Zu {P:Program}{t e ty:TypeId}{i:TypeInfo}(ht:P.underlying t=some (.slice e)) (hi:P.info? e=some i) (b:Option Addr) (n k:Nat) (hle:n<=k) (A:Option Addr) (c:Nat) (w:World) :
  (Builtin.append_ #[t,t] ty #[.slice b n k,.slice A 0 c]).run P w=.ok (.slice b n k) w:=by
 cases A<;>cases b<;>simp[Builtin.append_,run_underlying ht,Builtin.lenOf,Builtin.firstCells,sizeOf,typeInfo,hi,storeCells,loadCells,loadCellsFrom,hle]
theorem XN {ET:TypeId}{z0:Value}{bz:Nat}(hc:Cls ET k z0 bz){base':Nat}{u:Value}{xs ys:List Value}(t ty:TypeId) (ht:Tryz.prog.underlying t=some (.slice ET)) (h:zV ET k base w v n xs) (h':zV ET k base' w u m ys) (h1:∀y∈ys,y.oneCell'=true) (hn:n+m<=1000000) :
  ∃v' w',(Builtin.append_ #[t,t] ty #[v,u]).run Tryz.prog w=.ok v' w'/\zV ET k base w' v' (n+m) (xs++ys)/\(∃g',base<=g'/\(v.ownBlock=some g'\/g'=w.heap.size)/\Chg g' (g'+1) w w'):=by
 rcases Nat.eq_zero_or_pos m with hm|hm
 ·obtain⟨i0,hi0,-,-,-⟩:=info_parts hc.inf;subst hm;have hys:ys=[]:=List.eq_nil_of_length_eq_zero (by have:=h'.2.1;omega);subst hys;obtain⟨A',c',rfl⟩:=h'.form
  have hf:∃A c,v=.slice A n c/\n<=c:=by
   rcases h.2.2 with ⟨rfl,h0⟩|⟨g,cap,cur,rfl,hb,hh,hnc,-⟩
   ·exact⟨_,_,by rw[h0],by omega⟩
   ·exact⟨_,_,rfl,hnc⟩
  obtain⟨A,c,rfl,hnc⟩:=hf;refine⟨_,w,Zu ht hi0 A n c hnc A' c' w,by rw[List.append_nil];exact h,?_⟩
  rcases h.2.2 with ⟨hv,h0⟩|⟨g,cap,cur,hv,hb,hh,-⟩
  ·exact⟨w.heap.size,h.1,.inr rfl,Chg.refl _ _ _⟩
  ·exact⟨g,hb,.inl (by rw[hv];rfl),Chg.refl _ _ _⟩
 ·obtain⟨g,cap,rfl,-,-,-,hx⟩:=h'.at_ hm
  obtain⟨v',w',hrun,h2,-,h4⟩:=QI hc t ty ht h (a:=⟨g,0,none⟩) (m:=m) (c:=cap) (news:=ys) h'.2.1 (fun j y hj=>by
   rw[Qc,Nat.zero_add]
   exact hx j y hj) h1 hn
  exact⟨v',w',hrun,h2,h4⟩
theorem Kw {ET:TypeId}{z0:Value}{bz:Nat}(hc:Cls ET k z0 bz){base':Nat}{u:Value}{xs ys:List Value}{ops:Array Oper}{rest:List Oper}{o:Oper}{a:Act}{Q:Exit->Act->World->Prop}(hgd:o.guard=none) (s x:Operand) (t:TypeId) (ht:Tryz.prog.underlying t=some (.slice ET))
  (ho:o.op=.call { callee:=.builtin .append,args:=#[s,x],argTypes:=#[t,t] }) (hs:a.eval s=v) (hx:a.eval x=u) (h:zV ET k base w v n xs) (h':zV ET k base' w u m ys) (h1:∀y∈ys,y.oneCell'=true) (hn:n+m<=1000000)
  (hK:∀v' w',zV ET k base w' v' (n+m) (xs++ys)->(∃g',base<=g'/\(v.ownBlock=some g'\/g'=w.heap.size)/\Chg g' (g'+1) w w')->wpList Tryz.prog ops Q rest (a.put o.dst v') w'):wpList Tryz.prog ops Q (o :: rest) a w:=by
 refine wpList_plain hgd fun _ hK'=>?_
 obtain⟨v',w',hrun,h2,h4⟩:=XN hc t o.type ht h h' h1 hn;unfold Oper.wp execOp;simp only[ho,resolve,invoke,builtin,Sem.run_bind,Sem.run_pure,Result.andThen_ok,List.map_toArray,List.map_cons,List.map_nil,hs,hx,hrun];exact hK' _ _ (hK v' w' h2 h4)
theorem q74 (l:List (Nat×Nat)):∀u∈prv l,u.oneCell'=true:=by
 intro u hu;unfold prv at hu;rw[List.mem_flatMap] at hu;obtain⟨p,-,h⟩:=hu;simp at h
 rcases h with rfl|rfl<;>rfl
def QU (G:Nat->Nat->Bool) (n:Nat) (r:Nat->Nat):Nat->(Nat->Nat->Bool)×List (Nat×Nat)
 | 0=>(G,[])
 | t+1=>(q0L (QU G n r t).1 (r t),(QU G n r t).2++vY (QU G n r t).1 (r t) n)
theorem q3i {G:Nat->Nat->Bool}{n:Nat}{r:Nat->Nat}(hG:Gok G n):∀t,Gok (QU G n r t).1 n/\(QU G n r t).2.length<=t*(n*n)
 | 0=>⟨hG,by show 0<=0*(n*n);omega⟩
 | t+1=>by
  obtain⟨h1,h2⟩:=q3i hG t;refine⟨h1.rem,?_⟩
  show ((QU G n r t).2++_).length<=_
  rw[List.length_append,Nat.succ_mul];exact Nat.add_le_add h2 (QZ _ _ _)
def PrV (w:World) (v:Value) (l:List (Nat×Nat)):Prop :=
 ∃A c,v=.slice A l.length c/\l.length<=c/\c<=maxLen/\(0<l.length->∃g,A=some ⟨g,0,none⟩/\∀(j:Nat) (u:Value),(prv l)[j]?=some u->w.cell? ⟨g,j,none⟩=some u)
theorem PrV.ext{l:List (Nat×Nat)}(h:PrV w v l) (e:Ext w w'):PrV w' v l:=by
 obtain⟨A,c,hv,h1,h2,h3⟩:=h;refine⟨A,c,hv,h1,h2,fun hl=>?_⟩;obtain⟨g,hA,hx⟩:=h3 hl;exact⟨g,hA,fun j u hj=>e.cell (hx j u hj)⟩
end
section
open Go
theorem JB {p:Program}{a:Addr}{u:TypeId}{k:Addr}{at_:Bool}{r:World×List Addr}(h:World.viewStore p w a u k v at_=.ok r):r.1.drawn=w.drawn:=by
 unfold World.viewStore at h;simp only[bind,Except.bind,pure,Except.pure] at h
 repeat' split at h
 all_goals first|(cases h;rfl)|(cases h)
theorem YN {p:Program}{a:Addr}{at_:Bool}{l:List Addr}(h:World.farStore p w a v at_=.ok (w',l)):w'.drawn=w.drawn:=by
 unfold World.farStore at h
 split at h
 ·split at h
  ·rename_i r hr
   cases h
   exact JB hr
  ·cases h
 ·cases h
theorem ZR (w:World) (a:Addr) (n:Nat):(w.freeze a n).drawn=w.drawn:=by
 unfold World.freeze
 split<;>rfl
theorem YP {α:Type}(x:Ask α):∀w:World,w.drawn<=(w.ask x).2.drawn:=by
 induction x with
 | done a=>intro w;exact q_r
 | ask what range k ih =>
  intro w;unfold World.ask
  dsimp only
  split
  ·exact ih _ _
  ·exact q_l (Nat.le_succ _) (ih _ { w with drawn:=w.drawn+1 })
theorem YL (w:World) (c:Go.Sys):w.drawn<=(w.sys c).2.drawn:=by
 unfold World.sys;have h:=YP (Kernel.perform c w.os) w
 split
 ·exact q_r
 ·rename_i r os w' _ heq
  rw[heq] at h;exact h
def q92 {α:Type}:Result α->World
 | .ok _ w=>w
 | .halt _ w=>w
theorem yh {α:Type}(p:Program) (x:Sem α):∀w:World,w.drawn<=(q92 (x.run p w)).drawn:=by
 induction x with
 | pure a=>intro w;exact q_r
 | halt h=>intro w;exact q_r
 | load m a k ih =>
  intro w;simp only[Sem.run]
  split
  ·exact ih _ _
  ·split
   ·exact ih _ _
   ·exact q_r
 | store m a v k ih =>
  intro w
  by_cases hv:(∃c,v=.agg c)\/(∃c,v=.tuple c)
  ·rcases hv with ⟨c,rfl⟩|⟨c,rfl⟩<;>exact q_r
  ·rw[Sem.run]
   ·split
    ·split
     ·exact q_r
     ·exact ih (w.setCell a v)
    ·split
     ·rename_i h
      rw[<-YN h];exact ih _
     ·exact q_r
   ·intro c h;exact hv (.inl ⟨c,h⟩)
   ·intro c h;exact hv (.inr ⟨c,h⟩)
 | new o k ih=>intro w;exact ih w.heap.size { w with heap:=w.heap.push o }
 | shape r k ih=>intro w;exact ih _ _
 | freeze a n k ih=>intro w;rw[<-ZR w a n];exact ih _
 | frozen a k ih=>intro w;exact ih _ _
 | getObj r k ih =>
  intro w;simp only[Sem.run]
  split
  ·exact q_r
  ·exact ih _ _
  ·exact q_r
 | setObj r o k ih =>
  intro w;simp only[Sem.run]
  split
  ·exact q_r
  ·exact ih { w with heap:=w.heap.setIfInBounds r o }
  ·exact q_r
 | choose q k ih =>
  intro w;simp only[Sem.run]
  split
  ·exact ih _ _
  ·exact q_l (Nat.le_succ _) (ih _ { w with drawn:=w.drawn+1 })
 | sys c k ih=>intro w;exact q_l (YL w c) (ih _ _)
 | program k ih=>intro w;exact ih _ _
 | mark m k ih=>intro w;exact ih _
theorem qR {α:Type}{p:Program}{x:Sem α}{a:α}(h:x.run p w=.ok a w'):w.drawn<=w'.drawn:=by
 have k:=yh p x w;rw[h] at k;exact k
theorem ZP {α:Type}{p:Program}{x:Sem α}{a:Halt}(h:x.run p w=.halt a w'):w.drawn<=w'.drawn:=by
 have k:=yh p x w;rw[h] at k;exact k
theorem kH {α:Type}{p:Program}{x:Sem α}{a:α}{es es':Array Event}(h:x.runT p w es=(.ok a w',es')):w.drawn<=w'.drawn :=
 qR (x:=x) (a:=a) (by rw[<-Sem.runT_fst p x w es,h])
theorem kR {α:Type}{p:Program}{x:Sem α}{a:Halt}{es es':Array Event}(h:x.runT p w es=(.halt a w',es')):w.drawn<=w'.drawn :=
 ZP (x:=x) (a:=a) (by rw[<-Sem.runT_fst p x w es,h])
theorem VS {α:Type}{p:Program}{x:Sem α}{a:α}{es:Array Event}(h:(x.runT p w es).1=.ok a w'):w.drawn<=w'.drawn :=
 qR (x:=x) (a:=a) (by rw[<-Sem.runT_fst p x w es,h])
def qM (d:Nat):GStep->Prop
 | .go _ w _=>d<=w.drawn
 | .comm _ _ _ _ w _=>d<=w.drawn
 | .spawn _ _ w _=>d<=w.drawn
 | .count _ w _=>d<=w.drawn
 | .timer _ _ w _=>d<=w.drawn
 | .alone _ _ w _=>d<=w.drawn
 | .newcoro _ _ _ w _=>d<=w.drawn
 | .coroswitch _ _ _ w _=>d<=w.drawn
 | .collect _ w _=>d<=w.drawn
 | .watch _ w _=>d<=w.drawn
 | .ended _ _ _=>True
theorem qM.after{s:GStep}(h:qM d s) (es:Array Event):qM d (GStep.after es s):=by
 cases s<;>exact h
theorem YM {c:Prop} [Decidable c]{a b:GStep}(ha:qM d a) (hb:qM d b):qM d (if c then a else b):=by
 split
 ·exact ha
 ·exact hb
theorem JC (w:World) (fd:Nat) (t:ByteArray) (o:Outcome) (d:Nat):qM d (endWith w fd t o):=by
 unfold endWith
 dsimp only
 repeat' split
 all_goals trivial
theorem VU (fr:Frame) (ahead:List ByteArray) (m:String) (b:Bool) (w:World):qM w.drawn (dieOf fr ahead m b w):=q_r
theorem jc (fr:Frame) (m:String) (w:World):qM w.drawn (endThrow fr m w):=q_r
theorem jl (p:Program) (fr:Frame) (v:Value) (w:World):qM w.drawn (endPrinting p fr v w):=by
 unfold endPrinting
 dsimp only
 split
 ·exact jc _ _ _
 ·trivial
theorem qM.le {d':Nat}{s:GStep}(h:qM d s) (hd:d'<=d):qM d' s:=by
 cases s<;>first|trivial|exact q_l hd h
theorem yR (p:Program) (fr:Frame) (callers:List Frame) (dying:Option Dying) (m:String) (w:World):qM w.drawn (endFatal p fr callers dying m w):=by
 unfold endFatal
 extract_lets chain raw shown
 split
 ·exact (VU _ _ _ _ _).le (qR (by assumption))
 ·trivial
 ·trivial
theorem JA (p:Program) (fr:Frame) (d:Dying) (f:Fatal) (w:World):qM w.drawn (writeOn p fr d f w):=by
 unfold writeOn
 extract_lets on
 split
 ·trivial
 ·extract_lets write
  split
  ·exact kH (by assumption)
  ·exact kR (by assumption)
  ·trivial
  ·trivial
theorem q3w (p:Program) (fr:Frame) (d:Dying) (w:World):qM w.drawn (die p fr d w):=by
 unfold die
 split
 ·exact JA _ _ _ _ _
 ·split
  ·split
   ·exact q_r
   ·exact JC _ _ _ _ _
  ·extract_lets d'
   split
   ·exact q_r
   ·split
    ·exact qR (by assumption)
    ·trivial
   ·split
    rename_i r es hr
    refine qM.after ?_ _
    split
    ·exact kH (by assumption)
    ·exact kH (by assumption)
    ·trivial
    ·exact (jl _ _ _ _).le (kR (by assumption))
    ·trivial
   ·trivial
theorem VT (p:Program) (fr:Frame) (callers:List Frame) (dying:Option Dying) (g:Nat) (w:World):qM w.drawn (early p fr callers dying g w):=by
 unfold early
 extract_lets refuse notYet
 have hn:∀w,qM w.drawn (notYet w):=by
  intro w
  dsimp only[notYet]
  split
  ·exact q_r
  ·trivial
 split
 ·exact hn _
 ·split
  ·trivial
  ·extract_lets there
   have ht:∀w,qM w.drawn (there w):=fun w=>q_r
   repeat' split
   all_goals first
    | trivial
    | exact hn _
    | exact ht _
    | exact (hn _).le (qR (by assumption))
    | exact (ht _).le (qR (by assumption))
theorem jd (p:Program) (main:Bool) (fr:Frame) (callers:List Frame) (dying:Option Dying) (v:Value) (w:World):qM w.drawn (doReturn p main fr callers dying v w):=by
 unfold doReturn
 repeat' split
 all_goals first|trivial|exact q_r
theorem wW (p:Program) (fr:Frame) (callers:List Frame) (dying:Option Dying) (d:Deferred) (w:World):qM w.drawn (callDeferred p fr callers dying d w):=by
 unfold callDeferred;refine YM trivial ?_
 ·split
  rename_i r es hr
  extract_lets es'
  refine qM.after ?_ _
  split
  all_goals first
   | trivial
   | exact kH (by assumption)
   | exact kR (by assumption)
   | exact (yR _ _ _ _ _ _).le (kR (by assumption))
   | exact (jc _ _ _).le (kR (by assumption))
   | (split<;>exact kH (by assumption))
theorem YK (p:Program) (main:Bool) (fr:Frame) (callers:List Frame) (dying:Option Dying) (w:World):qM w.drawn (unwind p main fr callers dying w):=by
 unfold unwind
 split
 ·split
  refine qM.after ?_ _
  split
  ·exact kH (by assumption)
  ·trivial
 ·exact wW _ _ _ _ _ _
 ·split
  ·trivial
  ·split
   ·trivial
   ·split
    ·exact q_r
    ·split
     ·split
      ·exact q_r
      ·split
       ·exact qR (by assumption)
       ·trivial
       ·trivial
     ·split
      ·exact jl _ _ _ _
      ·trivial
  ·split
   ·exact jd _ _ _ _ _ _ _
   ·split
    refine qM.after ?_ _
    split
    ·exact (jd _ _ _ _ _ _ _).le (kH (by assumption))
    ·trivial
    ·trivial
theorem jE (p:Program) (fr:Frame) (callers:List Frame) (dying:Option Dying) (s:Sem Next) (w:World) (listen:Bool):qM w.drawn (stepG.apply p listen fr callers dying s w):=by
 unfold stepG.apply
 extract_lets go kind
 have hgo:∀fr w,qM w.drawn (go fr w):=fun fr w=>q_r
 split
 rename_i r es hr
 extract_lets es1 es2 es3
 refine qM.after ?_ _
 have hk:w.drawn<=(q92 r).drawn:=by
  have h:=yh p s w
  split at hr
  ·rw[<-Sem.runT_fst p s w #[],hr] at h;exact h
  ·cases hr;exact h
 clear hr
 repeat' split
 all_goals first
  | trivial
  | exact hk
  | exact (hgo _ _).le hk
  | exact (yR _ _ _ _ _ _).le hk
  | exact (jc _ _ _).le hk
  | exact (VT _ _ _ _ _ _).le hk
theorem q1d (p:Program) (fr:Frame) (callers:List Frame) (dying:Option Dying) (w:World) (listen:Bool):qM w.drawn (stepG.oper p listen fr callers dying w):=by
 unfold stepG.oper
 split
 ·trivial
 ·split<;>exact jE _ _ _ _ _ _ _
theorem Xt {α:Type}{o:Option α}{a:GStep}{f:α->GStep}(h:qM d a) (h':∀x,qM d (f x)):qM d (o.elim a f):=by
 cases o<;>first|exact h|exact h' _
theorem q1f (p:Program) (main:Bool) (fr:Frame) (callers:List Frame) (dying:Option Dying) (w:World) (listen:Bool):qM w.drawn (stepG.exec p main listen fr callers dying w):=by
 unfold stepG.exec
 extract_lets go tox lost leave
 have hgo:∀fr w,qM w.drawn (go fr w):=fun fr w=>q_r
 have hto:∀t,qM w.drawn (tox t):=fun t=>q_r
 have hlost:∀t,qM w.drawn (lost t):=fun t=>trivial
 have hleave:∀j,qM w.drawn (leave j):=by
  intro j
  dsimp only[leave]
  split
  ·exact YM (hgo _ _) (hlost _)
  ·refine qM.after ?_ _
   split
   ·exact (jd _ _ _ _ _ _ _).le (VS (by assumption))
   ·trivial
 clear_value tox lost leave
 split
 all_goals first
  | trivial
  | exact hto _
  | exact hleave _
  | exact hgo _ _
  | exact jE _ _ _ _ _ _ _
  | exact Xt (hleave _) (fun _=>hto _)
  | exact Xt (hlost _) (fun _=>jE _ _ _ _ _ _ _)
  | (split<;>first|exact hto _|exact hlost _)
  | (split;exact q1d _ _ _ _ _ _;exact hgo _ _)
  | (
   split
   refine qM.after ?_ _
   split
   ·exact (jE _ _ _ _ _ _ _).le (kH (by assumption))
   ·trivial)
  | (
   split
   refine qM.after ?_ _
   split
   ·exact (hgo _ _).le (kH (by assumption))
   ·exact (hgo _ _).le (kR (by assumption))
   ·trivial)
  | (
   split
   ·exact hto _
   ·split
    ·exact (hgo _ _).le (qR (by assumption))
    ·trivial)
theorem VQ (p:Program) (main:Bool) (g:Goroutine) (w:World) (listen:Bool):qM w.drawn (stepG p main g w listen):=by
 unfold stepG
 split
 split
 ·exact q3w _ _ _ _
 ·exact q1f _ _ _ _ _ _ _
 ·exact YK _ _ _ _ _ _
def jO (d:Nat):Stepped->Prop
 | .next m=>d<=m.world.drawn
 | .ended _ _=>True
theorem jO.le {d':Nat}{s:Stepped}(h:jO d s) (hd:d'<=d):jO d' s:=by
 cases s<;>first|trivial|exact q_l hd h
theorem Xr (p:Program) (gs:Array Goroutine) (rest:Rest) (w:World):jO w.drawn (look p gs rest w):=by
 unfold look
 split
 ·dsimp only
  split
  ·trivial
  ·split
   ·trivial
   ·split
    ·rename_i hrun
     have hk:=qR hrun;exact hk
    ·trivial
    ·trivial
 ·trivial
theorem KI (w:World) (c:Nat):(drain w c).2.drawn=w.drawn:=by
 unfold drain
 split<;>rfl
theorem yj (m:Machine) (k:Nat) (t:Timer) (a b:Nat):(retime m k t a b).2.world.drawn=m.world.drawn:=by
 unfold retime;cases t.chan with
 | none=>rfl
 | some c=>exact KI _ _
theorem QV {m m':Machine}{op:TimerOp}(h:timerOp m op=.ok (v,m')):m'.world.drawn=m.world.drawn:=by
 unfold timerOp at h
 split at h
 ·split at h
  ·cases h;rfl
  ·split at h
   ·split at h
    ·cases h
    ·cases h;rfl
   ·cases h
 ·unfold timerOp.named at h
  split at h
  ·simp only[Except.ok.injEq] at h
   rename_i cc _
   have hk:=yj m cc _ _ _ |>.symm.trans (congrArg (fun z=>z.2.world.drawn) h)
   exact hk.symm
  ·cases h
 ·split at h
  ·rename_i m2 ho
   have hm:m2.world.drawn=m.world.drawn:=by
    unfold timerOp.opened at ho
    split at ho
    ·split at ho
     ·cases ho;rfl
     ·cases ho
    ·cases ho;rfl
   unfold timerOp.named at h
   split at h
   ·simp only[Except.ok.injEq] at h
    rename_i cc _
    have hk:=yj m2 cc _ _ _ |>.symm.trans (congrArg (fun z=>z.2.world.drawn) h)
    exact hk.symm.trans hm
   ·cases h
  ·cases h
 ·cases h;rfl
theorem wV {rest:Rest}{cases:Array CommCase}(h:waitingAt rest cases w=some w'):w'.drawn=w.drawn:=by
 unfold waitingAt at h
 split at h
 ·split at h
  ·cases h;rfl
  ·cases h
 ·cases h;rfl
theorem QA (p:Program) (rest:Rest) (gs:Array Goroutine) (i:Nat) (g:Goroutine) (cases:Array CommCase) (blocking:Bool) (shape:CommShape) (w:World):jO w.drawn (communicate p rest gs i g cases blocking shape w).1:=by
 unfold communicate
 extract_lets put illMade me other
 split
 ·trivial
 ·split
  ·split
   ·split
    ·exact Nat.le_of_eq (wV (by assumption)).symm
    ·trivial
   ·exact q_r
  ·split
   ·trivial
   ·rename_i hw
    have hk:=qR hw
    dsimp only
    split
    ·split
     ·exact q_l hk (ZP (by assumption))
     ·trivial
    ·exact hk
    ·exact hk
    ·split
     ·exact hk
     ·split
      ·rename_i h2
       have hk2:=qR h2;exact q_l hk hk2
      ·trivial
    ·exact hk
    ·exact hk
    ·trivial
theorem VR (p:Program) (m:Machine) (k:Nat):jO m.world.drawn (serve p m k):=by
 unfold serve
 split
 ·trivial
 ·exact q_r
 ·dsimp only
  split
  ·trivial
  ·exact q_r
theorem ZQ (p:Program) (m:Machine) (i:Nat) (listen:Bool):jO m.world.drawn (runT p m i listen).1:=by
 unfold runT
 extract_lets rest world
 split
 extract_lets wake fn pos s ops done
 have hs:qM world.drawn s:=VQ _ _ _ _ _
 clear_value s
 cases s with
 | ended o w e=>trivial
 | comm g c b sh w e=>exact (QA _ _ _ _ _ _ _ _ _).le hs
 | go g w e=>exact hs
 | spawn g c w e=>exact hs
 | count g w e =>
  dsimp only[done]
  split
  ·trivial
  ·exact hs
 | alone g o w e=>exact hs
 | collect g w e=>exact (Xr _ _ _ _).le hs
 | watch g w e=>exact hs
 | newcoro g c d w e=>exact hs
 | coroswitch g c x w e =>
  dsimp only[done]
  split
  ·exact hs
  ·exact hs
  ·trivial
 | timer g op w e =>
  dsimp only[done]
  split
  ·rename_i h
   exact q_l hs (Nat.le_of_eq (QV h).symm)
  ·exact hs
  ·trivial
  ·trivial
def ZT (d:Nat):Move->Prop
 | .goroutine m _=>d<=m.world.drawn
 | .machine s _=>jO d s
theorem ZT.le {d':Nat}{s:Move}(h:ZT d s) (hd:d'<=d):ZT d' s:=by
 cases s with
 | goroutine m i=>exact q_l hd h
 | machine s o=>exact jO.le h hd
theorem vF (p:Program) (m:Machine):ZT m.world.drawn (askOn p m):=by
 unfold askOn
 extract_lets mono rs ds pick
 have hpick:∀m,ZT m.world.drawn (pick m):=by
  intro m
  dsimp only[pick]
  split
  ·trivial
  ·rename_i h1
   have k1:=qR h1
   split
   ·exact k1
   ·split
    ·trivial
    ·rename_i h2
     have k2:=qR h2;exact q_l k1 k2
 clear_value pick
 split
 ·trivial
 ·rename_i h1
  have k1:=qR h1;clear h1
  extract_lets m1
  split
  ·exact (VR _ _ _).le k1
  ·clear_value rs
   cases rs with
   | nil =>
    dsimp only
    split
    ·exact k1
    ·split
     ·exact k1
     ·split
      ·trivial
      ·trivial
   | cons r0 rs' =>
    dsimp only
    split
    ·exact (hpick _).le k1
    ·split
     ·trivial
     ·rename_i h2
      have k2:=qR h2;exact (hpick _).le (q_l k1 k2)
     ·rename_i h2
      have k2:=qR h2;exact q_l k1 k2
     ·rename_i h2
      have k2:=qR h2;exact (hpick _).le (q_l k1 k2)
theorem YO (p:Program) (m:Machine):ZT m.world.drawn (ask p m):=by
 unfold ask
 split
 ·split
  ·trivial
  ·rename_i W h1
   have k1:=qR h1;have k2:=Xr p m.gs m.rest W
   split
   ·rename_i m' h3
    rw[h3] at k2;exact (vF _ _).le (q_l k1 k2)
   ·exact jO.le k2 k1
  ·rename_i h1
   exact (vF _ _).le (qR h1)
 ·exact vF _ _
theorem q1e (p:Program) (m:Machine):ZT m.world.drawn (move p m):=by
 unfold move
 split
 ·split
  ·exact q_r
  ·trivial
 ·split
  ·split
   ·exact q_r
   ·exact YO p { m with rest:={ m.rest with slice:=none } }
  ·exact YO _ _
theorem q1c (p:Program) (m:Machine):jO m.world.drawn (step p m):=by
 unfold step stepT;have h:=q1e p m
 split
 ·rename_i m' i hm
  rw[hm] at h;exact (ZQ p m' i true).le h
 ·rename_i s o hm
  rw[hm] at h;exact h
theorem Xq (p:Program):∀(n:Nat) (m:Machine),jO m.world.drawn (runN p n m)
 | 0,m=>q_r
 | n+1,m=>by
  unfold runN;have h:=q1c p m
  split
  ·rename_i m' hm
   rw[hm] at h;exact (Xq p n m').le h
  ·exact h
theorem yQ {p:Program}{m m':Machine}(h:Steps p m m'):m.world.drawn<=m'.world.drawn:=by
 obtain⟨n,hn⟩:=h;have k:=Xq p n m;rw[hn] at k;exact k
theorem We {P:Program}{f:FuncId}{args:Array Value}{R:Ending->World->Prop}(h:Calls P f args w R) (hr:∀e w',R e w'->e≠.outgrown):Calls P f args w fun e w'=>R e w'/\w.drawn<=w'.drawn:=by
 intro cs;obtain⟨e,w',fr,h1,h2,h3⟩:=h cs;refine⟨e,w',fr,⟨h1,?_⟩,h2,h3⟩;cases e with
 | outgrown=>exact absurd rfl (hr _ _ h1)
 | returned v=>exact yQ h2
 | panicked c=>exact yQ h2
end
section
open Go.RowKit Go.Shelf
def q0F:Go.Shelf.Ren:=⟨fun|6=>61|15=>111|14=>110|28=>146|29=>147|20=>138|21=>139|22=>140|23=>141|24=>142|25=>143|26=>144|27=>145|46=>166|47=>167|48=>168|49=>169|50=>170|57=>184|n=>n,fun|22=>57|24=>64|25=>107|3=>3|39=>109|0=>0|53=>119|55=>118|4=>4|46=>153|45=>152|50=>157|5=>5|9=>9|66=>167|70=>171|76=>181|77=>182|n=>n,fun|n=>n⟩
theorem q65:Go.Proofs.SlLaysF0.n6 Tryz.prog q0F:={
 mixed:=by kernel_rfl,
 f6:=⟨Tryz.f61.name,by decide,Tryz.func61.trans (congrArg some (by kernel_rfl))⟩,
 f14:=⟨Tryz.f110.name,by decide,Tryz.func110.trans (congrArg some (by kernel_rfl))⟩,
 f15:=Tryz.func111.trans (congrArg some (by kernel_rfl)),
 f20:=⟨Tryz.f138.name,by decide,Tryz.func138.trans (congrArg some (by kernel_rfl))⟩,
 f21:=⟨Tryz.f139.name,by decide,Tryz.func139.trans (congrArg some (by kernel_rfl))⟩,
 f22:=⟨Tryz.f140.name,by decide,Tryz.func140.trans (congrArg some (by kernel_rfl))⟩,
 f23:=⟨Tryz.f141.name,by decide,Tryz.func141.trans (congrArg some (by kernel_rfl))⟩,
 f24:=⟨Tryz.f142.name,by decide,Tryz.func142.trans (congrArg some (by kernel_rfl))⟩,
 f25:=⟨Tryz.f143.name,by decide,Tryz.func143.trans (congrArg some (by kernel_rfl))⟩,
 f26:=⟨Tryz.f144.name,by decide,Tryz.func144.trans (congrArg some (by kernel_rfl))⟩,
 f27:=⟨Tryz.f145.name,by decide,Tryz.func145.trans (congrArg some (by kernel_rfl))⟩,
 f28:=Tryz.func146.trans (congrArg some (by kernel_rfl)),
 f29:=Tryz.func147.trans (congrArg some (by kernel_rfl)),
 f46:=⟨Tryz.f166.name,by decide,Tryz.func166.trans (congrArg some (by kernel_rfl))⟩,
 f47:=Tryz.func167.trans (congrArg some (by kernel_rfl)),
 f48:=Tryz.func168.trans (congrArg some (by kernel_rfl)),
 f49:=⟨Tryz.f169.name,by decide,Tryz.func169.trans (congrArg some (by kernel_rfl))⟩,
 f50:=⟨Tryz.f170.name,by decide,Tryz.func170.trans (congrArg some (by kernel_rfl))⟩,
 f57:=⟨Tryz.f184.name,by decide,Tryz.func184.trans (congrArg some (by kernel_rfl))⟩,
 t0:=Tryz.underlying0,
 a0:=Tryz.isAgg0,
 z0:=Tryz.sizeOf0,
 v0:=Tryz.zeroValue0,
 t3:=Tryz.underlying3,
 a3:=Tryz.isAgg3,
 z3:=Tryz.sizeOf3,
 v3:=Tryz.zeroValue3,
 t4:=Tryz.underlying4,
 a4:=Tryz.isAgg4,
 z4:=Tryz.sizeOf4,
 v4:=Tryz.zeroValue4,
 t5:=Tryz.underlying5,
 a5:=Tryz.isAgg5,
 z5:=Tryz.sizeOf5,
 v5:=Tryz.zeroValue5,
 t9:=Tryz.underlying9,
 a9:=Tryz.isAgg9,
 z9:=Tryz.sizeOf9,
 v9:=Tryz.zeroValue9,
 t22:=Tryz.underlying57,
 a22:=Tryz.isAgg57,
 z22:=Tryz.sizeOf57,
 v22:=Tryz.zeroValue57,
 t25:=Tryz.underlying107,
 a25:=Tryz.isAgg107,
 z25:=Tryz.sizeOf107,
 v25:=Tryz.zeroValue107,
 t39:=Tryz.underlying109,
 a39:=Tryz.isAgg109,
 z39:=Tryz.sizeOf109,
 v39:=Tryz.zeroValue109,
 t45:=Tryz.underlying152,
 a45:=Tryz.isAgg152,
 z45:=Tryz.sizeOf152,
 v45:=Tryz.zeroValue152,
 t46:=Tryz.underlying153,
 a46:=Tryz.isAgg153,
 z46:=Tryz.sizeOf153,
 v46:=Tryz.zeroValue153,
 t50:=Tryz.underlying157,
 a50:=Tryz.isAgg157,
 z50:=Tryz.sizeOf157,
 v50:=Tryz.zeroValue157,
 t53:=Tryz.underlying119,
 a53:=Tryz.isAgg119,
 z53:=Tryz.sizeOf119,
 v53:=Tryz.zeroValue119,
 t55:=Tryz.underlying118,
 a55:=Tryz.isAgg118,
 z55:=Tryz.sizeOf118,
 v55:=Tryz.zeroValue118,
 t66:=Tryz.underlying167,
 a66:=Tryz.isAgg167,
 z66:=Tryz.sizeOf167,
 v66:=Tryz.zeroValue167,
 t70:=Tryz.underlying171,
 a70:=Tryz.isAgg171,
 z70:=Tryz.sizeOf171,
 v70:=Tryz.zeroValue171,
 t76:=Tryz.underlying181,
 a76:=Tryz.isAgg181,
 z76:=Tryz.sizeOf181,
 v76:=Tryz.zeroValue181,
 t77:=Tryz.underlying182,
 a77:=Tryz.isAgg182,
 z77:=Tryz.sizeOf182,
 v77:=Tryz.zeroValue182 }
open Go.Sort
theorem q5n {W:World}(h:Ext W w') (hd:W.drawn<=w'.drawn):∃q os',w'=grow (W.drewN q) os':=by
 have hb:Below W.heap.size W w':=h;refine⟨w'.drawn-W.drawn,w'.heap.extract W.heap.size w'.heap.size,?_⟩
 have hheap:w'.heap=W.heap++w'.heap.extract W.heap.size w'.heap.size:=by
  apply Array.ext_getElem?
  intro i
  rcases Nat.lt_or_ge i W.heap.size with hi|hi
  ·rw[Array.getElem?_append_left hi];exact hb.block i hi
  ·rw[Array.getElem?_append_right hi,Array.getElem?_extract]
   split
   ·congr 1;omega
   ·rename_i h9
    rw[Array.getElem?_eq_none];omega
 have hdr:w'.drawn=W.drawn+(w'.drawn-W.drawn):=by omega
 show w'={ heap:=W.heap++w'.heap.extract W.heap.size w'.heap.size,tape:=W.tape,drawn:=W.drawn+(w'.drawn-W.drawn),os:=W.os,output:=W.output }
 cases w' with
 | mk heap tape drawn os output =>
  simp only at hheap hdr;rw[<-hheap,<-hdr];have h1:=hb.os;have h2:=hb.tape;have h3:=hb.output;simp only at h1 h2 h3;rw[h1,h2,h3]
theorem q3x (w:World) (m:Nat) (lo hi:Nat):Chg lo hi w (Sort.ahead w m):=⟨rfl,rfl,rfl,q_r,fun _ _ _=>rfl⟩
theorem q0U{f:Array Value->Array Value}(h:k≠g):(mapBlock w g f).heap[k]?=w.heap[k]?:=by
 show (w.heap.modify g (onCells f))[k]?=_
 rw[Array.getElem?_modify,if_neg (fun e=>h e.symm)]
theorem q2G{f:Array Value->Array Value}{cs:Array Value}{t:TypeId}{fr:Nat×Nat}(h:w.heap[g]?=some (.cells cs t fr)):(mapBlock w g f).heap[g]?=some (.cells (f cs) t fr):=by
 show (w.heap.modify g (onCells f))[g]?=_
 rw[Array.getElem?_modify,if_pos rfl,h]
 rfl
theorem q07 (w:World) (os:Array Obj) (lo hi:Nat):Chg lo hi w (grow w os):=⟨rfl,rfl,rfl,by show w.heap.size<=(w.heap++os).size;simp,fun k hk _=>by show (w.heap++os)[k]?=_;rw[Array.getElem?_append_left hk]⟩
theorem q1I {α:Type} [Inhabited α] (enc:α->List Value) (k:Nat) (w:World) (g off m:Nat) (d:Array α) (os:Array Obj) (hnu:NoU w g):Chg g (g+1) w (sortWorldK enc k w g off m d os):=by
 refine ((q3x w m _ _).trans ?_).trans (q07 _ os _ _);refine⟨rfl,rfl,rfl,?_,fun j hj h=>q0U ?_⟩
 ·show _<=((Sort.ahead w m).heap.modify g _).size
  simp
 ·rintro rfl
  rcases h with h|h|⟨cs,fr,h⟩
  ·omega
  ·omega
  ·exact hnu cs fr h
end
section
open Go.RowKit Go.Shelf Go.Sort
def Jw (p:Nat×Nat):List Value:=[.int .i64 (p.1:Int),.int .i64 (p.2:Int)]
def cfP (x y:Nat×Nat):Int:=Vz (x.1:Int) (x.2:Int) (y.1:Int) (y.2:Int)
def q7l (x y:Nat×Nat):Bool:=decide (x.1<y.1)||decide (x.1=y.1)&&decide (x.2<y.2)
theorem YU (x y:Nat×Nat):ltOf cfP x y=q7l x y:=by
 unfold ltOf cfP q7l Vz Q4;rw[Bool.eq_iff_iff];simp only[Bool.and_eq_true,Bool.or_eq_true,decide_eq_true_eq]
 constructor
 ·intro h
  split at h
  ·split at h<;>omega
  ·split at h<;>omega
 ·intro h
  split
  ·split<;>omega
  ·split<;>omega
theorem q7V:SWO (ltOf cfP) where
 irrefl x:=by rw[YU];unfold q7l;simp
 trans x y z h1 h2:=by
  rw[YU] at *;unfold q7l at *;simp only[Bool.and_eq_true,Bool.or_eq_true,decide_eq_true_eq] at *;omega
 ntrans x y z h1 h2:=by
  rw[YU] at *;unfold q7l at *;rw[Bool.eq_false_iff] at *;simp only[ne_eq,Bool.and_eq_true,Bool.or_eq_true,decide_eq_true_eq] at *;omega
theorem q7U (x y:Nat×Nat) (h1:ltOf cfP x y=false) (h2:ltOf cfP y x=false):x=y:=by
 rw[YU] at *;unfold q7l at *;rw[Bool.eq_false_iff] at *;simp only[ne_eq,Bool.and_eq_true,Bool.or_eq_true,decide_eq_true_eq] at *
 apply Prod.ext<;>omega
def Ky (l:List (Nat×Nat)):List (Nat×Nat):=l.mergeSort fun x y=>!q7l y x
theorem q82{a b c d:Int} :
  Calls Tryz.prog 62 #[.agg #[.int .i64 a,.int .i64 b],.agg #[.int .i64 c,.int .i64 d]] w (zH w (.int .i64 (Vz a b c d))):=by
 obtain⟨r,hr⟩:=qc (Vz a b c d);rw[<-hr.out];go_enter Tryz.func62,Tryz.ntmps62;go_upto_region 1 with (fail);refine kD ?_;intro w1 hE hsz B0 B1;obtain⟨G0,hG0⟩:=qc w.heap.size;obtain⟨G1,hG1⟩:=qc (w.heap.size+1);rw[<-hG1.out] at B1 ⊢;rw[<-hG0.out] at B0 ⊢;obtain⟨p0,p1,-⟩:=cells2 B0;obtain⟨q0,q1,-⟩:=cells2 B1;clear B0 B1 hsz hG0 hG1;refine yB [Mn.eq (.slice (some ⟨G0,0,none⟩) 2 2),Mn.eq (.slice (some ⟨G1,0,none⟩) 2 2),Mn.i r,Mn.i r] (sM [5,6,7,4]) [] (rQ 4 0) 0 (by kernel_rfl) ?_ ?_
 ·show ∀i,i<4->_
  iterate 4 refine fs ?_ ?_
  ·exact fz
  all_goals intro hl;clear hl;refine stp rfl ?_;intro ac wi eI hB hA K hK
  have o2:=oOf (hB 2) rfl;rotate_left;have o3:=oOf (hB 3) rfl;rotate_left;obtain⟨_,s5,rfl⟩:=hA 0 5;obtain⟨_,s6,rfl⟩:=hA 1 6;clear hB hA
  ·go_simp;refine (q1P (eI.cell p0) (eI.cell p1) (eI.cell q0) (eI.cell q1)).mono ?_;rw[<-hr.out];rintro e wj ⟨rfl,ej⟩;go_wp2_with fail;exact hK.out _ _ ej rfl
  obtain⟨_,s7,rfl⟩:=hA 2 7;rotate_left
  all_goals clear hB hA;go_simp;exact q_k hK rfl
 intro vals wz eZ hJ;have J4:vals 3=_:=hJ 3 (by decide) (by decide);clear hJ;simp only[pr,Nat.reduceAdd,J4];clear J4;refine qg (by kernel_rfl) ?_ _;go_wp2
 first|go_ret|skip
 exact⟨rfl,hE.trans eZ⟩
theorem Xd:∀(l:List (Nat×Nat)) (j:Nat),j<l.length*2->(prv l)[j]?=some ((Jw (l[j / 2]!))[j % 2]!)
 | [],j,h=>absurd h (by simp)
 | p :: l,0,_=>rfl
 | p :: l,1,_=>rfl
 | p :: l,j+2,h=>by
  have h1:(prv (p :: l))[j+2]?=(prv l)[j]?:=by
   show (Jw p++prv l)[j+2]?=_
   rw[List.getElem?_append_right (by show 2<=j+2;omega)]
   rfl
  have h2:(j+2) / 2=j / 2+1:=by omega
  have h3:(j+2) % 2=j % 2:=by omega
  rw[h1,Xd l j (by simp at h;omega),h2,h3]
  rfl
theorem flat_get (l:List (Nat×Nat)) (j:Nat) (hj:j<l.length*2):some ((flatK Jw 2 l.toArray)[j]!)=(prv l)[j]?:=by
 have h1:l.toArray[j / 2]! = l[j / 2]!:=by simp
 rw[get_flatK Jw 2 l.toArray j (by simpa using hj),Xd l j hj,h1]
theorem q4k {cap:Nat}{cs:Array Value}{l:List (Nat×Nat)}(h:w.heap[g]?=some (.cells cs 64 (0,0))) (hl:∀(j:Nat) (u:Value),(prv l)[j]?=some u->cs[j]?=some u) (hn2:l.length<=100000) :
  Calls Tryz.prog 61 #[.slice (some ⟨g,0,none⟩) l.length cap,.func (.func 62) #[] #[]] w (fun e w'=>e=.returned (.tuple #[])/\(∃cs',w'.heap[g]?=some (.cells cs' 64 (0,0))/\cs'.size=cs.size/\∀(j:Nat) (u:Value),(prv (Ky l))[j]?=some u->cs'[j]?=some u)/\Chg g (g+1) w w'):=by
 have hglt:g<w.heap.size:=qF h;have hnu:NoU w g:=NoU.mk h (by decide)
 let d:Array (Nat×Nat):=l.toArray
 have hds:d.size=l.length:=by simp[d]
 have hH:HoldsK Jw 2 w g 0 d:=by
  intro j hj;rw[size_flatK,hds] at hj;refine⟨?_,by rw[Nat.zero_add];exact qY h j⟩
  show _=some ((flatK Jw 2 d)[j]!)
  rw[flat_get l j hj,Nat.zero_add,qh h,Xd l j hj];exact hl j _ (Xd l j hj)
 have hcmp:CmpLays Tryz.prog 62 #[] Jw 2 cfP g 0 d.size w:=by
  intro m os dk hdk u v;refine (We q82 (fun e w' h9=>by obtain⟨rfl,-⟩:=h9;exact Ending.noConfusion)).mono ?_;rintro e w' ⟨⟨rfl,e1⟩,hdr⟩;exact⟨rfl,q5n e1 hdr⟩
 have hcon:=AnyQ.slices_SortFunc_total q65 2 Tryz.isAgg64 Tryz.sizeOf64 Jw (fun _=>rfl) (fun x v hv=>by simp[Jw] at hv;rcases hv with rfl|rfl<;>rfl) cfP q7V 62 #[] g 0 cap d w (enters_of Tryz.func62 (by kernel_rfl) rfl) hcmp hH hglt (by omega) q7U;rw[hds] at hcon;refine Calls.mono hcon ?_
 have hsr:(d.toList.mergeSort fun x y=>!(ltOf cfP) y x)=Ky l:=by
  unfold Ky
  congr 1
  funext x y
  rw[YU]
 rw[hsr];have hsl:(Ky l).length=l.length:=List.length_mergeSort l;rintro e w' ⟨rfl,m,os,rfl⟩;have hC:=q1I Jw 2 w g 0 m (Ky l).toArray os hnu;have hHK:=holdsK_sortWorldK_c Jw 2 w g 0 d (Ky l).toArray m os hH hglt (by rw[hds];simpa using hsl);have h1:(Sort.ahead w m).heap[g]?=some (.cells cs 64 (0,0)):=h;have h2:(putRowK Jw 2 (Sort.ahead w m) g 0 (Ky l).toArray).heap[g]?=some (.cells (putCells id 0 (flatK Jw 2 (Ky l).toArray) cs) 64 (0,0)):=q2G h1
 have h3:(grow (putRowK Jw 2 (Sort.ahead w m) g 0 (Ky l).toArray) os).heap[g]?=some (.cells (putCells id 0 (flatK Jw 2 (Ky l).toArray) cs) 64 (0,0)):=by
  rw[<-h2];exact (q07 (putRowK Jw 2 (Sort.ahead w m) g 0 (Ky l).toArray) os 0 0).block g (qF h2) (.inr (.inl (Nat.zero_le _)))
 refine⟨rfl,⟨_,h3,by unfold putCells;rw[Array.size_mapIdx],fun j u hj=>?_⟩,hC⟩
 have hjl:j<(Ky l).length*2:=by
  rw[<-q2m];exact (List.getElem?_eq_some_iff.1 hj).1
 have h9:=(hHK j (by rw[size_flatK];simpa using hjl)).1;have h10:some ((flatK Jw 2 (Ky l).toArray)[j]!)=some u:=by rw[flat_get (Ky l) j hjl,hj]
 rw[Nat.zero_add] at h9;have h11:(sortWorldK Jw 2 w g 0 m (Ky l).toArray os).cell? ⟨g,j,none⟩=some u:=h9.trans h10;rw[qh (show (sortWorldK Jw 2 w g 0 m (Ky l).toArray os).heap[g]?=_ from h3)] at h11;exact h11
theorem q1J {p:Option Addr}{cap:Nat}{fv:Value} :
  Calls Tryz.prog 61 #[.slice p 0 cap,fv] w (fun e w'=>e=.returned (.tuple #[])/\w'=w) :=
 AnyF.slices_SortFunc_none q65 p cap fv w
end
section
open Go.RowKit
def q8T (Z:Sys) (o:Nat->Int):List (Nat×Nat):=Ky (QU (yL Z Z.nb) Z.ns (fun t=>(o t).toNat) Z.ns).2
def V5 (w:World) (Z:Sys) (o:Nat->Int) (n:Nat) (e:Ending) (w':World):Prop :=
 Ext w w'/\((vH Z≠0/\e=.returned (.tuple #[.slice none 0 0,.int .i64 (vH Z)])) \/
  (vH Z=0/\yN o n Z.ns=false/\e=.returned (.tuple #[.slice none 0 0,.int .i64 5])) \/
  (vH Z=0/\yN o n Z.ns=true/\∃v,e=.returned (.tuple #[v,.int .i64 0])/\PrV w' v (q8T Z o)))
theorem vS (l:List (Nat×Nat)):(Ky l).length=l.length:=List.length_mergeSort l
theorem q9c {lo' hi':Nat}{u:Value}{Z:Sys}(h:jI N lo hi w v Z) (hBz:∀i,i<Z.nb->q6C (Z.b i)) (hkz:∀i,i<Z.k->jJ (Z.R i)){o:Nat->Int}(hu:IzV N lo' hi' w u n o) :
  Calls Tryz.prog 19 #[v,u] w (V5 w Z o n):=by
 obtain⟨Q,hQ⟩:=qc (V5 w Z o n);rw[<-hQ.out];obtain⟨A1,c1,A2,c2,A3,c3,rfl,s1,s2,s3,k1,k2,k3⟩:=h.parts;obtain⟨A4,c4,rfl,hnc,hcn⟩:=hu.form;unfold maxLen at hcn;have HU:=q_h hu;have HCK:=fun (w':World) (e:Ext w w')=>JI (h.ext e) hBz hkz
 have HNB:=fun (w':World) (e:Ext w w') (h0:Okk Z)=>QR (h.ext e) h0
 obtain⟨m,hm⟩:=qc Z.ns;obtain⟨nb,hnb⟩:=qc Z.nb;obtain⟨kk,hkk⟩:=qc Z.k;obtain⟨cd,hcd⟩:=qc (vH Z);obtain⟨pb,hpb⟩:=qc (yN o n m);rw[<-hm.out,<-hnb.out,<-hkk.out] at HCK HNB ⊢;rw[<-hcd.out] at HCK;rw[<-hm.out] at k1;rw[<-hnb.out] at k2;rw[<-hkk.out] at k3;have HCK':=q_h HCK;have HNB':=q_h HNB;clear h s1 s2 s3 HCK HNB hBz hkz hu;go_enter Tryz.func19,Tryz.ntmps19;go_upto_region 1 with (fail);refine qo ?_;intro w1 hE hsz B0;obtain⟨g1,hg1⟩:=qc w.heap.size;have hg1s:g1<w1.heap.size:=qF (by rw[<-hg1.out] at B0;exact B0);rw[<-hg1.out] at B0 ⊢;obtain⟨a0,a1,a2,-⟩:=cells3 B0;go_wp2_with (go_at_call 34;refine q_o ?_);refine (HCK'.out _ hE).mono ?_;rintro e w2 ⟨rfl,e2⟩;replace hE:=hE.trans e2;replace B0:=e2.block B0;clear a0 a1 a2 e2 HCK'
 by_cases h0:cd=0
 case neg =>
  have t1:(cd != 0)=true:=by simpa using h0
  have HC:=q_h h0;clear h0;go_wp2
  first|go_ret|skip
  rw[hQ.out];unfold V5;rw[<-hcd.out];exact⟨hE,.inl ⟨HC.out,rfl⟩⟩
 have t1:(cd != 0)=false:=by simp[h0]
 have HOK:Hid (Okk Z):=QG (by rw[<-hcd.out];exact h0);have HC0:=q_h h0;have hm12:m<=12:=by rw[hm.out];exact HOK.out.n2
 clear h0;obtain⟨a0,a1,a2,-⟩:=cells3 B0;go_wp2_with (go_at_call 35;refine q_o ?_);refine (Qb (HU.out.ext hE) (by omega)).mono ?_;rintro e w3 ⟨rfl,e3⟩;rw[<-hpb.out];replace hE:=hE.trans e3;replace B0:=e3.block B0;clear a0 a1 a2 e3 t1;cases pb with
 | false =>
  go_wp2
  first|go_ret|skip
  rw[hQ.out];unfold V5;rw[<-hcd.out,<-hm.out];exact⟨hE,.inr (.inl ⟨HC0.out,hpb.out.symm,rfl⟩)⟩
 | true =>
  obtain⟨hnm,hp1,hp2⟩:=Yq hpb.out.symm;obtain rfl:n=m:=hnm;have HP1:=q_h hp1;clear hp1 hp2;obtain⟨r,hr⟩:=qc (fun t=>(o t).toNat);have HR:Hid (∀t,t<n->o t=(r t:Int)/\r t<n):=fun t ht=>by rw[hr.out];exact HP1.out t ht
  obtain⟨a0,a1,a2,-⟩:=cells3 B0;go_wp2_with (go_at_call 59;refine q_o ?_);refine (HNB'.out _ hE HOK.out).mono ?_;rintro e w4 ⟨g,rfl,hg,hN,e4⟩;obtain⟨G,hG⟩:=qc (yL Z nb);have HG0:Hid (Gok G n):=by rw[hG.out];exact q6l
  rw[<-hG.out] at hN;have HE4:=q_h (hE.trans e4);have hgw:w.heap.size<=g:=q_l hE.size hg;have hg4:g<w4.heap.size:=FlB.lt hN;have HN0:Hid (NrB w4 g n (QU G n r 0).1):=hN;have HO0:Hid (zV 64 2 w4.heap.size w4 (.slice none 0 0) (QU G n r 0).2.length (prv (QU G n r 0).2)):=zV.nil (q_r);clear hN e4 hE B0 a0 a1 a2 HNB' HP1;go_wp2_with fail
  go_loopw [26,8] (fun iv ov wr=>∃(t:Nat) (A:Option Addr) (c:Nat),t<=n/\iv=.int .i64 (t:Int)/\ov=.slice A (QU G n r t).2.length c/\Hid (zV 64 2 w4.heap.size wr (.slice A (QU G n r t).2.length c) (QU G n r t).2.length (prv (QU G n r t).2))/\Hid (NrB wr g n (QU G n r t).1)/\Hid (Chg g (g+1) w4 wr)/\Hid (Ext w wr)) (fun iv _ _=>n-(intOf iv).toNat)
  case atStart=>exact⟨0,none,0,Nat.zero_le _,rfl,rfl,HO0,HN0,Chg.refl _ _ _,HE4⟩
  case round =>
   clear HO0 HN0;obtain⟨t,A,c,ht9,rfl,rfl,HO,HN,HC,HE⟩:=hrel;have HT:=q_h (q3i (r:=r) HG0.out t);have htt:t*(n*n)<=1728:=Nat.mul_le_mul (show t<=12 by omega) (Nat.mul_le_mul (show n<=12 by omega) (show n<=12 by omega));have hll:=HT.out.2;obtain⟨l,hl⟩:=qc (QU G n r t).2;rw[<-hl.out] at HO hll ⊢
   by_cases hlt:t<n
   case pos =>
    have t1:decide ((t:Int)<(n:Int))=true:=q_t (by omega);have t2:(t:Int)<(n:Int):=by omega
    obtain⟨b,off,rfl,hx⟩:=(HU.out.ext HE.out).addr (by omega);have p0:=hx t hlt;obtain⟨hr1,hr2⟩:=HR.out t hlt;rw[hr1] at p0;obtain⟨k,hk⟩:=qc (r t);rw[<-hk.out] at p0 hr2;obtain⟨H,hH⟩:=qc (QU G n r t).1;rw[<-hH.out] at HT HN;have HR1:=q_h hr1;clear hx hr1;go_wp2_with (go_at_call 60;refine q_o ?_);refine (q0t HN.out hm12 hr2 HT.out.1.sym HT.out.1.irr).mono ?_;rintro e w5 ⟨v5,rfl,h4,h5,C5⟩;have HN5:=q_h h5;have HO5:=q_h (HO.out.chg C5 (by omega));have HC5:=q_h (HC.out.trans C5);have HE5:Hid (Ext w w5):=C5.ext HE.out hgw;obtain⟨A5,c5,rfl⟩:=h4.form;have HR5:=q_h h4;have hrl:=QZ H k n;have hnn:n*n<=144:=Nat.mul_le_mul (show n<=12 by omega) (show n<=12 by omega);obtain⟨lr,hlr⟩:=qc (vY H k n);rw[<-hlr.out] at HR5 hrl;have HP1:Hid ((QU G n r (t+1)).1=q0L H k):=by rw[hk.out,hH.out];rfl
    have HP2:Hid ((QU G n r (t+1)).2=l++lr):=by rw[hl.out,hlr.out,hk.out,hH.out];rfl
    clear h4 h5 C5 HN HO HC HE p0;rw[<-hlr.out];go_wp2_with (at_builtin;refine q_o ?_);refine Kw (n:=l.length) (m:=lr.length) q0m rfl _ _ 57 Tryz.underlying57 rfl (by rfl) rfl HO5.out HR5.out (q74 lr) (by omega) ?_;rintro v6 w6 hG6 ⟨g6,hlo6,hw6,C6⟩;obtain⟨A6,c6,rfl⟩:=hG6.form
    have HG6:Hid (zV 64 2 w4.heap.size w6 (.slice A6 (QU G n r (t+1)).2.length c6) (QU G n r (t+1)).2.length (prv (QU G n r (t+1)).2)):=by
     rw[HP2.out,List.length_append,q2n];exact hG6
    have HN6:Hid (NrB w6 g n (QU G n r (t+1)).1):=by
     rw[HP1.out];exact FlB.chg HN5.out C6 (.inl (by omega))
    have HC6:Hid (Chg g (g+1) w4 w6):=HC5.out.newer C6 hlo6;have HE6:Hid (Ext w w6):=C6.ext HE5.out (by omega);have HLE:Hid (l.length+lr.length=(QU G n r (t+1)).2.length):=by rw[HP2.out,List.length_append];rfl
    clear hG6 hlo6 hw6 C6 HN5 HO5 HC5 HE5 HR5;go_wp2;go_roundw
    case rel=>exact⟨t+1,A6,c6,by omega,by go_num,by rw[HLE.out],HG6,HN6,HC6,HE6⟩
    case measure=>simp[intOf];omega
   have t1:decide ((t:Int)<(n:Int))=false:=q_f (by omega);obtain rfl:n=t:=by omega
   have HFL:Hid (q8T Z o=Ky l):=by
    rw[hl.out];unfold q8T;rw[<-hm.out,<-hnb.out,<-hG.out,<-hr.out]
    rfl
   have HFIN:Hid (∀(w':World) (v:Value),Ext w w'->PrV w' v (Ky l)->Q (.returned (.tuple #[v,.int .i64 0])) w'):=by
    intro w' v e h;rw[hQ.out];unfold V5;rw[<-hcd.out,<-hm.out,HFL.out];exact⟨e,.inr (.inr ⟨HC0.out,hpb.out.symm,v,rfl,h⟩)⟩
   rcases Nat.eq_zero_or_pos l.length with hl0|hl0
   ·have HL0:=q_h hl0;rw[hl0];clear hl0;go_wp2_with (go_at_call 61;refine q_o ?_);refine q1J.mono ?_;rintro e w5 ⟨rfl,rfl⟩;go_wp2
    first|go_ret|skip
    refine HFIN.out _ _ HE.out ⟨A,c,?_,?_,?_,fun h=>?_⟩
    ·rw[vS,HL0.out];rfl
    ·rw[vS,HL0.out];exact Nat.zero_le _
    ·rcases HO.out.2.2 with ⟨hv0,-⟩|⟨gl,cap,cur,hv,hbb,hh,hncl,hcml,-⟩
     ·injection hv0 with e1 e2 e3
      rw[e3];exact Nat.zero_le _
     ·injection hv with e1 e2 e3
      rw[e3];exact hcml
    ·rw[vS,HL0.out] at h;omega
   ·have hO:=HO.out;obtain⟨hb0,hol,⟨hv0,-⟩|⟨gl,cap,cur,hv,hbb,hh,hncl,hcml,hcs,htk⟩⟩:=hO
    ·injection hv0 with e1 e2 e3
     omega
    ·injection hv with e1 e2 e3
     subst e1 e3
     have HHH:Hid (∀(j:Nat) (u:Value),(prv l)[j]?=some u->cur[j]?=some u):=fun j u hj=>by
      have hjl:j<l.length*2:=by
       rw[<-q2m];exact (List.getElem?_eq_some_iff.1 hj).1
      have h9:(cur.toList.take (l.length*2))[j]?=some u:=by rw[htk];exact hj
      rw[List.getElem?_take,if_pos hjl] at h9;simpa using h9
     have HH:=q_h hh;clear hb0 hol hcs htk hh;go_wp2_with (go_at_call 61;refine q_o ?_);refine (q4k HH.out HHH.out (by omega)).mono ?_;rintro e w5 ⟨rfl,⟨cs',hB,-,hx⟩,C5⟩;have HB:=q_h hB;have HX:=q_h hx;have HE5:Hid (Ext w w5):=C5.ext HE.out (by omega);clear hB hx C5;go_wp2
     first|go_ret|skip
     refine HFIN.out _ _ HE5.out ⟨_,_,?_,?_,hcml,fun h=>⟨gl,rfl,fun j u hj=>?_⟩⟩
     ·rw[vS];rfl
     ·rw[vS];exact hncl
     ·rw[qh HB.out];exact HX.out j u hj
end
end Go.Proofs.YtflhlobiipejeaaGreat
