import Derived.Test.YtfmddpahhloleaaGreatWb31
set_option linter.all false
set_option maxHeartbeats 8000000
namespace Go.Proofs.YtfmddpahhloleaaGreat
open Go.RowKit
variable {w w':World} {N n lo hi k g m:Nat}
def tcl (z:Nat->Int):Nat->Int
 | 0=>0
 | n+1=>tcl z n+max 0 (min (z n) 25)
theorem q2Z (z:Nat->Int):∀ n,0<=tcl z n/\tcl z n<=25*(n:Int)
 | 0=>by unfold tcl; omega
 | n+1=>by
  have h:=q2Z z n;unfold tcl;omega
theorem VZ {z:Nat->Int}:∀ n,(∀ i,i < n->sz1 (z i)=true)->tcl z n=jX z n
 | 0,_=>rfl
 | n+1,h=>by
  have h1:=VZ n (fun i hi=>h i (by omega));have h2:=xZ.1 (h n (by omega));unfold tcl jX;omega
def Mn.bx (B:Nat):Mn:=⟨fun v w=>∃ g,v=.pointer (some ⟨g,0,none⟩)/\B<=g/\w.heap[g]?=some (.cells #[.slice none 0 0,.slice none 0 0,.slice none 0 0] 34 (0,0)),fun e h=>by
 obtain⟨g,hv,h0,h1⟩:=h
 exact⟨g,hv,h0,e.block h1⟩⟩
def Mn.izb (B n:Nat) (z:Nat->Int):Mn:=⟨fun v w=>∃ g cap,v=.slice (some ⟨g,0,none⟩) n cap/\B<=g/\IzB w g cap n z,fun e h=>by
 obtain⟨g,cap,hv,h0,h1⟩:=h
 exact⟨g,cap,hv,h0,h1.ext e⟩⟩
def Mn.sy (B n:Nat) (z:Nat->Int) (r:Value):Mn:=⟨fun v w=>∃ g cap,v=.agg #[.slice (some ⟨g,0,none⟩) n cap,.slice none 0 0,r]/\B<=g/\IzB w g cap n z,fun e h=>by
 obtain⟨g,cap,hv,h0,h1⟩:=h
 exact⟨g,cap,hv,h0,h1.ext e⟩⟩
theorem IzB.apart {g' cap:Nat} {z:Nat->Int} {xs:Array Value} (h:IzB w g cap n z) (h':w.heap[g']?=some (.cells xs 34 (0,0))):g≠g':=fun e=>by
 obtain⟨cs,h1,-⟩:=h;rw [e,h'] at h1;simp only [Option.some.injEq,Obj.cells.injEq] at h1;exact absurd h1.2.1 (by decide)
theorem IzB.chg {cap l u:Nat} {z:Nat->Int} (h:IzB w g cap n z) (C:Chg l u w w') (hd:g < l\/u<=g):IzB w' g cap n z:=by
 obtain⟨cs,h1,h2⟩:=h;exact⟨cs,C.blk h1 hd,h2⟩
def q5S (N:Nat) (w:World) (n ns:Nat) (zi:Nat->Int) (M:Nat->Nat->Rat) (y:Nat->Rat) (e:Ending) (w':World):Prop :=
 Ext w w'/\(e=.returned (.tuple #[.agg #[.slice none 0 0,.slice none 0 0,.slice none 0 0],.int .i64 4]) \/
  ∃ (v:Value) (Z:Sys),e=.returned (.tuple #[v,.int .i64 0])/\VL N 0 w'.heap.size w' v Z/\Z.ns=ns/\1<=ns/\(∀ i,i < ns->1<=zi i/\zi i<=12)/\qC (fun i=>(zi i).toNat) ns=n/\q4R Z (fun i=>(zi i).toNat) M y)
set_option maxRecDepth 100000 in
theorem n_System {lo' hi':Nat} {v1 v2 v3 u:Value} {X:Nat->Nat->Rat} {y p:Nat->Rat} (h1:MtV N lo hi w v1 m n X) (h2:LsV N lo hi w v2 m y) (h3:LsV N lo hi w v3 m p) (hm0:0 < m) (hm:m<=64) (hn0:0 < n) (hn:n<=24) (hp:∀ i,i < m->0 < p i)
  {ns:Nat} {zi:Nat->Int} (hu:IzV N lo' hi' w u ns zi) (hns:ns<=12) (hkx:HtM m n k X) (hky:HtL m k y) (hkp:HtL m k p) (hK:m*(3*k+1)+3*k+2<=29000000000) :
  Calls Tryz.prog 12 #[.agg #[v1,v2,v3],u] w (q5S N w n ns zi (xE X p m) (yx X y p m)):=by
 obtain⟨Q,hQ⟩:=qc (q5S N w n ns zi (xE X p m) (yx X y p m));rw [<-hQ.out];have HX:=q_h hkx;have HY:=q_h hky;have HP:=q_h hkp;have HK:=q_h hK;have HC:Hid (codeOf (Q7 m n X y p)=0):=xU hm0 hm hn0 hn hp;have HMH:Hid (HtM n n (m*(3*k+1)+1) (xE X p m)):=ww hkx hkp (q_r) (q_r);have hN:=h1.le;obtain⟨A1,c1,rfl,hmc,hcm⟩:=h1.form;obtain⟨A2,c2,rfl,hmc2,hcm2⟩:=h2.form;obtain⟨A3,c3,rfl,hmc3,hcm3⟩:=h3.form;obtain⟨A4,c4,rfl,hnc,hcn⟩:=hu.form;unfold maxLen at hcn;have HI1:=q_h h1;have HI2:=q_h h2;have HI3:=q_h h3;have HU:=q_h hu;clear h1 h2 h3 hu hkx hky hkp hK hp;go_enter Tryz.func12,Tryz.ntmps12;go_upto_region 1 with (fail);refine kG ?_;intro W hE hsz B0 B4;obtain⟨g0,hg0⟩:=qc w.heap.size;have hgw:w.heap.size<=g0:=by rw [hg0.out]; exact q_r
 rw [<-hg0.out] at B0 B4 hsz ⊢;obtain⟨a0,a1,a2,-⟩:=cells3 B0;clear hg0;go_wp2_with (go_at_call 52; refine q_o ?_);refine (QL (QN (HI1.out.ext hE) (HI2.out.ext hE) (HI3.out.ext hE)) (yT HX.out HY.out HP.out (by have:=HK.out; omega)) (fun i hi=>(HP.out i hi).sz (by have:=HK.out; omega))).mono ?_;rintro e w1 ⟨rfl,e1⟩;rw [HC.out];replace hE:=hE.trans e1;replace B0:=e1.block B0;replace B4:=e1.block B4;replace hsz:=q_l hsz e1.size;clear a0 a1 a2 e1;obtain⟨g,hg⟩:=qc (decide (1<=ns));go_upto_region 5 with (fail)
 go_cut [8] (fun gv wx=>gv=.bool g/\wx=w1)
 case first =>
  rcases Nat.eq_zero_or_pos ns with h0 | h0
  ·have hgf:g=false:=by rw [hg.out]; exact q_f (by omega)
   have t1:decide (1<=(ns:Int))=false:=q_f (by omega);have t2:decide ((ns:Int)<=12)=true:=q_t (by omega);subst hgf;clear hg;go_wp2
   go_meet
   exact⟨rfl,rfl⟩
  ·have hgf:g=true:=by rw [hg.out]; exact q_t (by omega)
   have t1:decide (1<=(ns:Int))=true:=q_t (by omega);have t2:decide ((ns:Int)<=12)=true:=q_t (by omega);subst hgf;clear hg;go_wp2
   go_meet
   exact⟨rfl,rfl⟩
 obtain⟨rfl,rfl⟩:=hcut;obtain⟨w1,hw1⟩:∃ w1,w1=wc:=⟨_,rfl⟩
 subst hw1;have HB0:=q_h B0;have HB4:=q_h B4;clear B0 B4
 have HAL:Hid (∀ i gg,gg=(decide (1<=ns) && allB i (fun j=>sz1 (zi j)))->(gg && sz1 (zi i))=(decide (1<=ns) && allB (i+1) (fun j=>sz1 (zi j)))):=fun i gg h=>by
  rw [h,Bool.and_assoc]
  congr 1
  cases h1:sz1 (zi i) with
  | false=>rw [Bool.and_false,qL (Nat.lt_succ_self i) h1]
  | true =>
   rw [Bool.and_true];cases h2:allB i (fun j=>sz1 (zi j)) with
   | true =>
    refine (qg.2 fun j hj=>?_).symm
    by_cases hji:j=i
    ·rw [hji]; exact h1
    ·exact qg.1 h2 j (by omega)
   | false =>
    cases h3:allB (i+1) (fun j=>sz1 (zi j)) with
    | false=>rfl
    | true =>
     rw [qg.2 (fun j hj=>qg.1 h3 j (by omega))] at h2;cases h2
 go_wp2_with fail
 go_loopw [36,8,7] (fun iv gv tv wr=>∃ (i:Nat) (gg:Bool),i<=ns/\iv=.int .i64 (i:Int)/\gv=.bool gg/\tv=.int .i64 (tcl zi i)/\Hid (gg=(decide (1<=ns) && allB i (fun j=>sz1 (zi j))))/\wr=w1) (fun iv _ _ _=>ns - (intOf iv).toNat)
 case atStart=>exact⟨0,g,Nat.zero_le _,rfl,rfl,rfl,by rw [Hid,hg.out,show allB 0 (fun j=>sz1 (zi j))=true from rfl,Bool.and_true],rfl⟩
 case round =>
  clear hg;obtain⟨i,gg,hi9,rfl,rfl,rfl,HG,hwr⟩:=hrel;subst hwr
  by_cases hlt:i < ns
  case pos =>
   have t1:decide ((i:Int) < (ns:Int))=true:=q_t (by omega);have t2:(i:Int) < (ns:Int):=by omega
   obtain⟨b,off,rfl,hx⟩:=(HU.out.ext hE).addr (by omega);have p0:=hx i hlt;obtain⟨T,hT⟩:=qc (tcl zi i);have hTb:=q2Z zi i;have hTn:tcl zi (i+1)=T+max 0 (min (zi i) 25):=by rw [hT.out]; rfl
   rw [<-hT.out] at hTb ⊢;obtain⟨g2,hg2⟩:=qc (gg && sz1 (zi i));have HG2:Hid (g2=(decide (1<=ns) && allB (i+1) (fun j=>sz1 (zi j)))):=by rw [Hid,hg2.out]; exact HAL.out i gg HG.out
   obtain⟨u,hu⟩:=qc (zi i);rw [<-hu.out] at p0 hg2 hTn;obtain⟨v1,hv1⟩:∃ v,min u 25=v:=⟨_,rfl⟩
   rw [hv1] at hTn;obtain⟨v2,hv2⟩:∃ v,max 0 v1=v:=⟨_,rfl⟩
   rw [hv2] at hTn;have hvb:0<=v2/\v2<=25:=by omega
   have t3:IntKind.i64.wrap (T+v2)=T+v2:=by rw [IntKind.wrap_i64]; omega
   have HTN:=q_h hTn;clear hx hTn;go_upto_region 9 with (fail)
   go_cut [8] (fun gv wx=>gv=.bool g2/\wx=wr)
   case first =>
    have hsz:sz1 u=(decide (1<=u) && decide (u<=12)):=rfl;rw [hsz] at hg2;cases gg with
    | false =>
     rw [Bool.false_and] at hg2;obtain rfl:=hg2.out;clear hg2;go_wp2
     go_meet
     exact⟨rfl,rfl⟩
    | true =>
     rw [Bool.true_and] at hg2
     by_cases k1:1<=u
     ·have u1:decide (1<=u)=true:=decide_eq_true k1;rw [u1,Bool.true_and] at hg2
      by_cases k2:u<=12
      ·have u2:decide (u<=12)=true:=decide_eq_true k2;rw [u2] at hg2;obtain rfl:=hg2.out;clear hg2;go_wp2
       go_meet
       exact⟨rfl,rfl⟩
      ·have u2:decide (u<=12)=false:=decide_eq_false k2;rw [u2] at hg2;obtain rfl:=hg2.out;clear hg2;go_wp2
       go_meet
       exact⟨rfl,rfl⟩
     ·have u1:decide (1<=u)=false:=decide_eq_false k1;rw [u1,Bool.false_and] at hg2;obtain rfl:=hg2.out;clear hg2;go_wp2
      go_meet
      exact⟨rfl,rfl⟩
   obtain⟨rfl,rfl⟩:=hcut;clear hg2;go_wp2;go_roundw
   case rel=>exact⟨i+1,_,by omega,by go_num,rfl,by rw [HTN.out]; congr 1; (repeat' split) <;> omega,HG2,by first | rfl | trivial⟩
   case measure=>simp [intOf]; omega
  have t1:decide ((i:Int) < (ns:Int))=false:=q_f (by omega);obtain rfl:ns=i:=by omega
  obtain⟨a0,a1,a2,-⟩:=cells3 HB0.out;obtain⟨x0,x1,x2,u0,u1,u2⟩:=cells3 HB4.out;cases gg with
  | false =>
   clear HG;go_wp2;obtain⟨w10,E10,D10,U10⟩:=ex3 HB4.out (.slice none 0 0) (.slice none 0 0) (.slice none 0 0);rw [E10];have C10:=U10.chg (NoU.mk HB4.out (by decide));have hE10:=C10.ext hE (by omega);clear x0 x1 x2;obtain⟨x0,x1,x2,-⟩:=cells3 D10;refine bodyPost_ret (v:=.tuple #[.agg #[.slice none 0 0,.slice none 0 0,.slice none 0 0],.int .i64 4]) ?_ rfl ?_
   ·simp [results,x0,x1,x2,go_sem]
   ·rw [hQ.out];exact⟨hE10,.inl rfl⟩
  | true =>
  have hgd:=HG.out.symm;rw [Bool.and_eq_true,decide_eq_true_eq,qg] at hgd;obtain⟨hn1,hszs⟩:=hgd;have HSZ:Hid (∀ i,i < ns->1<=zi i/\zi i<=12):=fun i hi=>xZ.1 (hszs i hi)
  have HTT:Hid (tcl zi ns=jX zi ns):=VZ ns hszs;obtain⟨z,hz⟩:=qc (fun i=>(zi i).toNat)
  have HZI:Hid (∀ i,i < ns->zi i=(z i:Int)):=fun i hi=>by
   rw [hz.out];have:=HSZ.out i hi
   show zi i=((zi i).toNat:Int)
   omega
  have HTO:Hid (tcl zi ns=(qC z ns:Int)):=by rw [Hid,HTT.out]; exact yl HZI.out
  obtain⟨T,hT⟩:=qc (qC z ns);rw [<-hT.out] at HTO;rw [HTO.out];obtain⟨b1,off1,rfl,-,-,hx1⟩:=MtR.addr (HI1.out.ext hE) hm0;obtain⟨Ar,cr,p0,-,-,-⟩:=hx1 0 hm0;rw [Nat.add_zero] at p0;clear hx1 hszs HG HTT
  by_cases hTn:T=n
  case neg =>
   have t2:((T:Int) != (n:Int))=true:=by rw [bne_iff_ne]; omega
   clear hTn;go_wp2;obtain⟨w10,E10,D10,U10⟩:=ex3 HB4.out (.slice none 0 0) (.slice none 0 0) (.slice none 0 0);rw [E10];have C10:=U10.chg (NoU.mk HB4.out (by decide));have hE10:=C10.ext hE (by omega);clear x0 x1 x2;obtain⟨x0,x1,x2,-⟩:=cells3 D10;refine bodyPost_ret (v:=.tuple #[.agg #[.slice none 0 0,.slice none 0 0,.slice none 0 0],.int .i64 4]) ?_ rfl ?_
   ·simp [results,x0,x1,x2,go_sem]
   ·rw [hQ.out];exact⟨hE10,.inl rfl⟩
  have t2:((T:Int) != (n:Int))=false:=by rw [hTn]; simp
  have HTN:=q_h hTn;clear hTn;go_wp2_with (go_at_call 53; refine q_o ?_);refine (JB (lo:=0) (hi:=wr.heap.size) (MtR.wide (HI1.out.ext hE) (Nat.zero_le _) (HI1.out.ext hE).2.1 (q_r)) (LsR.wide (HI2.out.ext hE) (Nat.zero_le _) (HI2.out.ext hE).2.1 (q_r)) (LsR.wide (HI3.out.ext hE) (Nat.zero_le _) (HI3.out.ext hE).2.1 (q_r)) hm0 (by omega) hn0 (by omega) HX.out HY.out HP.out HK.out).mono ?_;rintro e w2 ⟨h,cap,g2,rfl,hM,hr2,e2⟩;have hE2:=hE.trans e2;have hN2:N<=wr.heap.size:=q_l hN hE.size;go_upto_region 15 with (fail);refine qo ?_;intro w3 e3 hsz3 BE;obtain⟨gE,hgE⟩:=qc w2.heap.size;have hgE2:w2.heap.size<=gE:=by rw [hgE.out]; exact q_r
  rw [<-hgE.out] at BE ⊢;have HM3:=q_h (hM.ext e3);have HR3:=q_h (hr2.ext e3);have HE3:=q_h (hE2.trans e3);have HB3:=q_h (e3.block (e2.block HB4.out));have HBE:=q_h BE;have hs23:=e2.size;have hE3s:gE < w3.heap.size:=qG BE;obtain⟨d0,d1,-⟩:=cells2 BE;clear hM hr2 hE2 e2 e3 BE a0 a1 a2 x0 x1 x2 u0 u1 u2 p0 hgE t2 hsz3;refine Je [Mn.eq (.slice A4 ns c4),Mn.izb w3.heap.size ns zi,Mn.q gE 1,Mn.eq (.slice (some ⟨g2,0,none⟩) n n),Mn.sy w3.heap.size ns zi (.slice (some ⟨g2,0,none⟩) n n),Mn.bx w3.heap.size,Mn.any] [some 69,some 70,some 71,some 72,some 73,some 12,none] [6] (rQ 6 1) 1 (by kernel_rfl) ?_ ?_
  ·show ∀ i,i < 7->_
   iterate 7 refine fs ?_ ?_
   ·exact fz
   all_goals intro hl; first | exact absurd hl (by decide) | (clear hl; refine stp rfl ?_; intro ac wi eI hB hA K hK)
   have o1:=oOf (hB 1) rfl
   rotate_left
   obtain⟨_,s69,rfl⟩:=hA 0 69;clear hB hA
   ·go_simp;refine (Wu (HU.out.ext (HE3.out.trans eI)) hn1 (by omega)).mono ?_;rintro e wj ⟨gj,cj,rfl,hgj,hj,ej⟩;go_wp2_with fail;exact hK.out _ _ ej ⟨gj,cj,rfl,q_l eI.size hgj,hj⟩
   have o11:=oOf (hB 11) rfl
   rotate_left
   obtain⟨_,s71,rfl⟩:=hA 2 71;have cc0:=eI.cell d1
   rotate_left
   obtain⟨x70,s70,j70⟩:=hA 1 70;replace j70:Mn.p (Mn.izb w3.heap.size ns zi) x70 wi:=j70;obtain⟨_,s72,rfl⟩:=hA 3 72;clear hB hA
   ·obtain⟨gq,cq,rfl,hgq,hq⟩:=j70;go_simp;exact q_k hK ⟨gq,cq,rfl,hgq,hq⟩
   clear hB hA
   ·go_simp;refine qo ?_;intro wj ej hszj BJ;exact hK.out _ _ ej ⟨_,rfl,eI.size,BJ⟩
   all_goals clear hB hA; go_simp; exact q_k hK rfl
  intro vals wz eZ hJ;have J73:Mn.p (Mn.sy w3.heap.size ns zi (.slice (some ⟨g2,0,none⟩) n n)) (vals 4) wz:=hJ 4 (by decide) (by decide);have J12:Mn.p (Mn.bx w3.heap.size) (vals 5) wz:=hJ 5 (by decide) (by decide);clear hJ;simp only [pr,Nat.reduceAdd]
  generalize vals 4=z73 at J73 ⊢
  generalize vals 5=z12 at J12 ⊢
  obtain⟨gq,cq,rfl,hgq,hq⟩:=J73;obtain⟨gS,rfl,hgS,BS⟩:=J12;refine ql (i:=6) rfl (by kernel_rfl) (by kernel_rfl) (fun K hK=>?_);obtain⟨r0,r1,r2,v0,v1,v2⟩:=cells3 BS;go_simp;obtain⟨w5,E5,B5,U5⟩:=ex3 BS (.slice (some ⟨gq,0,none⟩) ns cq) (.slice none 0 0) (.slice (some ⟨g2,0,none⟩) n n);rw [E5];refine hK.out _ _ ?_;clear hK K;try simp only [nr]
  refine qh (by kernel_rfl) ?_ _;have C5:=U5.chg (NoU.mk BS (by decide));have hqS:gq≠gS:=hq.apart BS;have HE5:Hid (Ext w w5):=C5.ext (HE3.out.trans eZ) (by have:=HE3.out.size; omega);obtain⟨M,hMM⟩:=qc (xE X p m)
  have HM5:Hid (MtV N wr.heap.size w2.heap.size w5 (.slice (some ⟨h,0,none⟩) n cap) n n M):=by
   rw [Hid,hMM.out];exact MtR.chg (HM3.out.ext eZ) C5 (by omega) (.inl (by omega))
  rw [<-hMM.out] at HMH;have HR5:Hid (LsV N wr.heap.size w2.heap.size w5 (.slice (some ⟨g2,0,none⟩) n n) n (yx X y p m)):=LsR.chg (HR3.out.ext eZ) C5 (by omega) (.inl (by omega));have HQ5:Hid (IzB w5 gq cq ns zi):=hq.chg C5 (by omega);have HB5:=q_h (C5.blk (eZ.block HB3.out) (.inl (by have:=hsz; omega)));have HE9:=q_h (C5.blk (eZ.block HBE.out) (.inl (by omega)));have HS5:=q_h B5;have hS5:gS < w5.heap.size:=qG B5;have hq5:gq < w5.heap.size:=HQ5.out.lt;have h35:w3.heap.size<=w5.heap.size:=q_l eZ.size C5.size;have HNB:Hid (BlG N w5.heap.size w5 (.slice none 0 0) 0 (fun _=>q4N z M 0 0)):=BlG.nil (by omega) (q_r);clear HM3 HR3 HB3 HBE hq BS E5 B5 U5 C5 eZ v0 v1 v2 d0 d1 HB0 HB4 HE3 t1 hlt HAL;obtain⟨wB,hwB⟩:∃ wB,wB=wr:=⟨_,rfl⟩
  subst hwB;go_wp2_with fail
  go_loopw [76,13] (fun iv tv wr'=>∃ (i nb:Nat) (bs:Nat->Bkk) (Ab:Option Addr) (cb:Nat),i<=ns/\iv=.int .i64 (i:Int)/\tv=.int .i64 (qC z i:Int)/\nb<=13*i/\Hid (wr'.heap[gS]?=some (.cells #[.slice (some ⟨gq,0,none⟩) ns cq,.slice Ab nb cb,.slice (some ⟨g2,0,none⟩) n n] 34 (0,0)))/\Hid (BlG N w5.heap.size wr' (.slice Ab nb cb) nb bs)/\Hid (SyI z M bs nb i 0)/\Hid (Chg gS (gS+1) w5 wr')) (fun iv _ _=>ns - (intOf iv).toNat)
  case atStart=>exact⟨0,0,_,none,0,Nat.zero_le _,rfl,rfl,Nat.zero_le _,HS5,HNB,SyI.start,Chg.refl _ _ _⟩
  case round =>
   clear HS5 HNB;obtain⟨i,nb,bs,Ab,cb,hi9,rfl,rfl,hnb,HSB,HBG,HSI,HCI⟩:=hrel
   by_cases hlt:i < ns
   case pos =>
    have t1:decide ((i:Int) < (ns:Int))=true:=q_t (by omega);have t2:(i:Int) < (ns:Int):=by omega
    have hEi:=HCI.out.ext HE5.out (by have:=HE5.out.size; omega);obtain⟨b,off,rfl,hx⟩:=(HU.out.ext hEi).addr (by omega);have p0:=hx i hlt;rw [HZI.out i hlt] at p0
    have hzi:0 < z i/\z i<=12:=by
     have:=HSZ.out i hlt;have:=HZI.out i hlt;omega
    obtain⟨P,hP⟩:=qc (qC z i);obtain⟨S,hS⟩:=qc (z i);rw [<-hS.out] at p0 hzi
    have hPS:P+S<=n:=by
     have h1:=zV z (show i+1<=ns by omega);have h2:qC z (i+1)=qC z i+z i:=rfl;have h3:=hT.out;have h4:=HTN.out;rw [hP.out,hS.out];omega
    rw [<-hP.out];have t3:IntKind.i64.wrap ((P:Int)+(S:Int))=(P:Int)+(S:Int):=wrp (by omega) (by omega);have t4:IntKind.i64.wrap ((i:Int)+1)=(i:Int)+1:=wrp (by omega) (by omega);have t5:(i:Int)+1<=(c4:Int):=by omega
    have t6:¬ c4=0:=by omega
    obtain⟨wQ,hwQ⟩:∃ wQ,wQ=wr:=⟨_,rfl⟩
    subst hwQ;clear hx hEi;go_wp2_with fail
    go_loopw [86,16] (fun jv lv wr=>∃ (j nb:Nat) (bs:Nat->Bkk) (Ab:Option Addr) (cb:Nat),j<=i+1/\jv=.int .i64 (j:Int)/\lv=.int .i64 (qC z j:Int)/\nb<=13*i+j/\Hid (wr.heap[gS]?=some (.cells #[.slice (some ⟨gq,0,none⟩) ns cq,.slice Ab nb cb,.slice (some ⟨g2,0,none⟩) n n] 34 (0,0)))/\Hid (BlG N w5.heap.size wr (.slice Ab nb cb) nb bs)/\Hid (SyI z M bs nb i j)/\Hid (Chg gS (gS+1) w5 wr)) (fun jv _ _=>i+1 - (intOf jv).toNat)
    case atStart=>exact⟨0,nb,bs,Ab,cb,Nat.zero_le _,rfl,rfl,hnb,HSB,HBG,HSI,HCI⟩
    case round =>
     clear HSB HBG HSI HCI hnb p0;obtain⟨j,nb,bs,Ab,cb,hj9,rfl,rfl,hnb,HSB,HBG,HSI,HCI⟩:=hrel
     by_cases hlj:j < i+1
     case neg =>
      have u1:decide ((j:Int) < (i:Int)+1)=false:=q_f (by omega);have u1':decide ((j:Int) < ((i+1:Nat):Int))=false:=q_f (by omega);obtain rfl:j=i+1:=by omega
      have HSN:=q_h HSI.out.row
      have HPN:Hid ((P:Int)+(S:Int)=(qC z (i+1):Int)):=by
       rw [hP.out,hS.out,Hid]
       show _=((qC z i+z i:Nat):Int)
       omega
      clear HSI hlj;go_wp2;go_roundw
      case rel=>exact⟨i+1,nb,bs,Ab,cb,by omega,by go_num,by rw [<-HPN.out],by omega,HSB,HBG,HSN,HCI⟩
      case measure=>simp [intOf]; omega
     have u1:decide ((j:Int) < (i:Int)+1)=true:=q_t (by omega);have u1':decide ((j:Int) < ((i+1:Nat):Int))=true:=q_t (by omega);have u2:(j:Int) < (i:Int)+1:=by omega
     have hEj:=HCI.out.ext HE5.out (by have:=HE5.out.size; omega);have hjn:j < ns:=by omega
     obtain⟨b',off',hbb,hx⟩:=(HU.out.ext hEj).addr (by omega);simp only [Option.some.injEq,Addr.mk.injEq,and_true] at hbb;obtain⟨rfl,rfl⟩:=hbb;have p0:=hx j hjn;rw [HZI.out j hjn] at p0
     have hzj:0 < z j/\z j<=12:=by
      have:=HSZ.out j hjn;have:=HZI.out j hjn;omega
     have hLC:qC z j+z j<=n:=by
      have h1:=zV z (show j+1<=ns by omega);have h2:qC z (j+1)=qC z j+z j:=rfl;have h3:=hT.out;have h4:=HTN.out;omega
     have HLN:Hid ((qC z j:Int)+(z j:Int)=(qC z (j+1):Int)):=by
      rw [Hid]
      show _=((qC z j+z j:Nat):Int)
      omega
     have HSK:=HSI.out.skip;rw [<-hP.out,<-hS.out] at HSK;have HSK':=q_h HSK;have HSA:=HSI.out.add (by omega)
     have HNB:Hid (q4N z M i j=⟨(i:Int),(j:Int),S,fun _=>z j,fun a e=>raw (M (P+a) (qC z j+e))⟩):=by
      rw [hP.out,hS.out]
      rfl
     rw [HNB.out] at HSA;obtain⟨L,hL⟩:=qc (qC z j);obtain⟨C,hC⟩:=qc (z j);rw [<-hL.out,<-hC.out] at HSA HSK' hLC HLN;rw [<-hC.out] at p0 hzj;rw [<-hL.out];have HSA':=q_h HSA;have u3:IntKind.i64.wrap ((L:Int)+(C:Int))=(L:Int)+(C:Int):=wrp (by omega) (by omega);obtain⟨d0,d1,-⟩:=cells2 (HCI.out.blk HE9.out (.inl (by omega)));have HMJ:Hid (MtV N wB.heap.size w2.heap.size wr (.slice (some ⟨h,0,none⟩) n cap) n n M):=MtR.chg HM5.out HCI.out (by omega) (.inl (by omega));have HEj:=q_h hEj;clear hx HSK HSI HNB HSA hEj;go_wp2_with (go_at_call 54; refine q_o ?_);refine (XI HMJ.out P (P+S) L (L+C) rfl (by omega) rfl (by omega) (by omega) (by omega) (by omega) (by omega) (by omega) (by omega)).mono ?_;rintro e w6 ⟨A6,c6,rfl,h6,e6⟩;rw [Nat.add_sub_cancel_left] at h6 ⊢;rw [Nat.add_sub_cancel_left] at h6
     have HGO:Hid (∀ g,(Value.slice Ab nb cb).ownBlock=some g->w5.heap.size<=g/\g < wr.heap.size):=by
      obtain⟨xs,hG,-⟩:=HBG.out;exact hG.own_lt
     have H6:=q_h h6;have HSS:Hid (∀ a,a < S->∀ e,e < C->Sz (M (P+a) (L+e))):=fun a ha e he=>(HMH.out (P+a) (by omega) (L+e) (by omega)).sz (by have:=HK.out; omega)
     have hw56:w5.heap.size<=wr.heap.size:=HCI.out.size;clear p0 d0 d1 h6 HMJ;go_wp2_with (go_at_call 55; refine q_o ?_);refine (q49 H6.out HSS.out).mono ?_;rintro e w7 ⟨rfl,e7⟩;obtain⟨r,hr⟩:=qc (allB S (fun a=>allB C (fun e=>decide (M (P+a) (L+e)=0))));rw [<-hr.out];have HC7:Hid (Chg gS (gS+1) w5 w7):=(HCI.out.trans (e6.chg _ _)).trans (e7.chg _ _);have HG7:=q_h ((HBG.out.ext e6).ext e7);have HS7:=q_h (e7.block (e6.block HSB.out));have H7:=q_h (MtR.ext H6.out e7);have hs67:=e7.size;have hsr6:=e6.size;clear HCI HBG HSB H6 HSS e6 e7;cases r with
     | true =>
      have HSN:=q_h (HSK'.out fun a ha e he=>by
       have h1:=qg.1 (qg.1 hr.out.symm a ha) e he
       exact of_decide_eq_true h1)
      clear HSK' HSA' hr H7;go_wp2;go_roundw
      case rel=>exact⟨j+1,nb,bs,Ab,cb,by omega,by go_num,by rw [HLN.out],by omega,HS7,HG7,HSN,HC7⟩
      case measure=>simp [intOf]; omega
     | false =>
      clear HSK' hr;obtain⟨m0,m1,m2,f0,f1,f2⟩:=cells3 HS7.out;obtain⟨xs,hG,hBX⟩:=HG7.out;have hxl:=hG.2.1;have HBX:=q_h hBX;clear hBX;go_wp2_with (at_builtin; refine q_o ?_);refine qo ?_;intro w8 e8 hsz8 B8;refine Qq q4w rfl _ _ 32 Tryz.underlying32 rfl (by rfl) (hG.ext e8) (by rfl) (m:=1) (news:=[.int .i64 (i:Int),.int .i64 (j:Int),.slice A6 S c6]) rfl (fun j u hj=>by rw [kH,qx B8,Nat.zero_add]; simpa using hj) (fun u hu=>by simp at hu; rcases hu with rfl | rfl | rfl <;> rfl) (by omega) ?_;rintro v9 w9 hG9 ho9 ⟨g9,hg9,hgo9,C9⟩;have HX9:=q_h (BlX.snoc (B:=⟨(i:Int),(j:Int),S,fun _=>C,fun a e=>raw (M (P+a) (L+e))⟩) (v':=v9) hxl (HBX.out.ext e8) (MtR.ext H7.out e8) (by omega) (fun g hg=>(HGO.out g hg).2) ho9 ⟨g9,hg9,hgo9,C9⟩);obtain⟨A9,c9,rfl⟩:=hG9.form;have HG9:Hid (BlG N w5.heap.size w9 (.slice A9 (nb+1) c9) (nb+1) (q1a bs nb ⟨(i:Int),(j:Int),S,fun _=>C,fun a e=>raw (M (P+a) (L+e))⟩)):=⟨_,hG9,HX9.out⟩
      have hS9:=C9.blk (e8.block HS7.out) (.inl (by omega));have HC9:Hid (Chg gS (gS+1) w5 w9):=(HC7.out.trans (e8.chg _ _)).fresh C9 (by omega);clear m0 m1 m2 f0 f1 f2 HX9 HBX hG hG9 ho9 hgo9 C9 B8 e8 HS7 HC7 HG7 H7 HGO hxl;obtain⟨m0,m1,m2,f0,f1,f2⟩:=cells3 hS9;go_wp2_with fail;obtain⟨w10,E10,D10,U10⟩:=set31 hS9 (.slice A9 (nb+1) c9);rw [E10];have C10:=U10.chg (NoU.mk hS9 (by decide));have HG10:=q_h (HG9.out.chg C10 (by omega) (by omega));have HC10:Hid (Chg gS (gS+1) w5 w10):=HC9.out.trans C10;have HD10:=q_h D10;clear m0 m1 m2 f0 f1 f2 hS9 E10 D10 U10 C10 HG9 HC9;go_roundw
      case rel=>exact⟨j+1,nb+1,_,A9,c9,by omega,by go_num,by rw [HLN.out],by omega,HD10,HG10,HSA',HC10⟩
      case measure=>simp [intOf]; omega
   have t1:decide ((i:Int) < (ns:Int))=false:=q_f (by omega);obtain rfl:ns=i:=by omega
   have hB9:=HCI.out.blk HB5.out (.inl (by omega));obtain⟨m0,m1,m2,-⟩:=cells3 HSB.out;obtain⟨x0,x1,x2,u0,u1,u2⟩:=cells3 hB9;go_wp2;obtain⟨w10,E10,D10,U10⟩:=ex3 hB9 (.slice (some ⟨gq,0,none⟩) ns cq) (.slice Ab nb cb) (.slice (some ⟨g2,0,none⟩) n n);rw [E10];have C10:=U10.chg (NoU.mk hB9 (by decide));have hE10:Ext w w10:=C10.ext (HCI.out.ext HE5.out (by have:=HE5.out.size; omega)) (by omega);have HG10:=HBG.out.chg C10 (by omega) (by omega);have HQ10:=(HQ5.out.chg HCI.out (by omega)).chg C10 (.inr (by omega));have HR10:=LsR.chg (LsR.chg HR5.out HCI.out (by omega) (.inl (by omega))) C10 (by omega) (.inr (by omega));clear x0 x1 x2 u0 u1 u2 m0 m1 m2 E10;obtain⟨x0,x1,x2,-⟩:=cells3 D10;refine bodyPost_ret (v:=.tuple #[.agg #[.slice (some ⟨gq,0,none⟩) ns cq,.slice Ab nb cb,.slice (some ⟨g2,0,none⟩) n n],.int .i64 0]) ?_ rfl ?_
   ·simp [results,x0,x1,x2,go_sem]
   ·rw [hQ.out];refine⟨hE10,.inr ⟨_,⟨ns,zi,nb,bs,n,fun i=>raw (yx X y p m i)⟩,rfl,⟨_,_,_,rfl,⟨rfl,(HQ10.iz (N:=N)).2⟩,HG10.bks,LsR.wide HR10 (Nat.zero_le _) HR10.2.1 (q_r)⟩,rfl,hn1,HSZ.out,?_,?_⟩⟩
    ·rw [<-hz.out,<-hT.out];exact HTN.out
    ·rw [<-hz.out,<-hMM.out];exact SyI.done (Z:=⟨ns,zi,nb,bs,n,fun i=>raw (yx X y p m i)⟩) HSI.out HZI.out (by rw [<-hT.out]; exact HTN.out.symm) (fun _ _=>rfl)
end Go.Proofs.YtfmddpahhloleaaGreat
