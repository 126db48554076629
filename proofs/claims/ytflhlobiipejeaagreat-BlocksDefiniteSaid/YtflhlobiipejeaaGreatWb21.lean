import Derived.Test.YtflhlobiipejeaaGreatWb20
set_option linter.all false
set_option maxHeartbeats 8000000
set_option maxRecDepth 100000
namespace Go.Proofs.YtflhlobiipejeaaGreat
variable {w w':World} {N n lo hi k g i m c b j K:Nat} {v:Value} {x:Rat} {R:Raw} {A:Option Addr}
section
open Go.RowKit
def Mn.lf (N B n:Nat) (x:q_v):Mn:=⟨fun v w=>LsV N B w.heap.size w v n x,fun e h=>LsR.wide (h.ext e) (q_r) e.size (q_r)⟩
theorem q3k{z:Nat->Nat}{F:Nat->Nat->Nat->Nat->Rat}{X:q_m}{lf:Nat->Nat}{nl:Nat}{p:Nat->Nat->Bool}(hF:∀r c,c<=r->r<m->HtM (z r) (z c) K (F r c)) (hF':∀r c,c<=r->r<m->xk lf nl r=true->xk lf nl c=true->HtM (z r) (z c) K (fun a b=>F r c a b-Gx k (z k) F X r c a b)) (hp:∀r c,p r c=true->xk lf nl r=true/\xk lf nl c=true):∀r c,c<=r->r<m->HtM (z r) (z c) K (Fel k (z k) F X p r c):=fun r c hc hr a ha b hb=>by
 unfold Fel
 split
 ·rename_i h
  exact hF' r c hc hr (hp r c h).1 (hp r c h).2 a ha b hb
 ·exact hF r c hc hr a ha b hb
theorem Yz {lf:Nat->Nat}{a nl r:Nat}(ha:a<=nl) (h:xk lf a r=true):xk lf nl r=true:=by
 obtain⟨t,h1,h2⟩:=yF.1 h;exact yF.2 ⟨t,by omega,h2⟩
theorem q8F {lf:Nat->Nat}{nl a r:Nat}(ha:a<=nl) (h:pA lf nl a r c=true):xk lf nl r=true/\xk lf nl c=true:=by
 unfold pA at h;rw[Bool.and_eq_true] at h;exact⟨Yz ha h.1,h.2⟩
theorem q8E {lf:Nat->Nat}{nl a r:Nat}(ha:a<nl) (hb:b<=nl) (h:pB lf nl a b r c=true):xk lf nl r=true/\xk lf nl c=true:=by
 unfold pB at h;rw[Bool.or_eq_true,Bool.and_eq_true,decide_eq_true_eq] at h
 rcases h with h|⟨h1,h2⟩
 ·exact q8F (Nat.le_of_lt ha) h
 ·exact⟨yF.2 ⟨a,ha,h1.symm⟩,Yz hb h2⟩
theorem q2v {lf:Nat->Nat}{nl a:Nat}(r c:Nat):pA lf nl (a+1) r c=pB lf nl a nl r c:=by
 unfold pB pA;rw[wM,show decide (lf a=r)=decide (r=lf a) by simp[eq_comm]];cases xk lf a r<;>cases xk lf nl c<;>cases decide (r=lf a)<;>rfl
theorem q79 {lf:Nat->Nat}{nl a:Nat}(r c:Nat):pB lf nl a 0 r c=pA lf nl a r c:=by
 unfold pB;rw[show xk lf 0 c=false from rfl,Bool.and_false,Bool.or_false]
theorem J6 {lf:Nat->Nat}{nl a:Nat}(r c:Nat):pB lf nl a (b+1) r c=(pB lf nl a b r c||(decide (r=lf a)&&decide (lf b=c))):=by
 unfold pB;rw[wM];cases pA lf nl a r c<;>cases xk lf b c<;>cases decide (r=lf a)<;>cases decide (lf b=c)<;>rfl
theorem q5j {zk a nl:Nat}{z lf:Nat->Nat}{F:Nat->Nat->Nat->Nat->Rat}{X:q_m}(h0:∀x y,x<z i->y<zk->Fsy F i k x y=0) (hi:i=lf a) (r c:Nat){x:Nat}(hx:x<z r) (y:Nat):Fel k zk F X (pA lf nl a) r c x y=Fel k zk F X (pA lf nl (a+1)) r c x y:=by
 unfold Fel;rw[q2v];unfold pB
 by_cases hp:pA lf nl a r c=true
 ·rw[if_pos hp,if_pos (by rw[hp];rfl)]
 ·rw[if_neg hp]
  split
  ·rename_i h
   rw[Bool.or_eq_true,Bool.and_eq_true,decide_eq_true_eq] at h
   rcases h with h|⟨h,-⟩
   ·exact absurd h hp
   ·have hG:Gx k zk F X r c x y=0:=by
     unfold Gx;refine ZE (m:=z r) (p:=0) (fun x' y' hx' _=>?_) hx;unfold Fct;exact ZE (m:=z r) (p:=0) (fun x'' y'' hx'' hy''=>by rw[h,<-hi] at hx'' ⊢;exact h0 x'' y'' hx'' hy'') hx'
    rw[hG];grind
  ·rfl
theorem q4A {zk a:Nat}{z lf:Nat->Nat}{F:Nat->Nat->Nat->Nat->Rat}{X:q_m}{R:q_m}(h0:∀x y,x<z i->y<zk->Fsy F i k x y=0) (hi:i=lf a) (r:Nat){x:Nat}(hx:x<z r):Rel k zk F X R (xk lf a) r x=Rel k zk F X R (xk lf (a+1)) r x:=by
 unfold Rel;rw[wM]
 by_cases hp:xk lf a r=true
 ·rw[if_pos hp,if_pos (by rw[hp];rfl)]
 ·rw[if_neg hp]
  split
  ·rename_i h
   rw[Bool.or_eq_true,decide_eq_true_eq] at h
   rcases h with h|h
   ·exact absurd h hp
   ·have hG:av zk (Fct k zk F X r) (R k) x=0:=by
     unfold av;refine qy fun c hc=>?_
     have h1:Fct k zk F X r x c=0:=by
      unfold Fct;exact ZE (m:=z r) (p:=0) (fun x'' y'' hx'' hy''=>by rw[<-h,<-hi] at hx'' ⊢;exact h0 x'' y'' hx'' hy'') hx
     rw[h1];grind
    rw[hG];grind
  ·rfl
theorem q1a {zk a nl:Nat}{z lf:Nat->Nat}{F:Nat->Nat->Nat->Nat->Rat}{X:q_m}(h0:∀x y,x<zk->y<z j->Fsy F k j x y=0) (hj:j=lf b) (r c x:Nat){y:Nat}(hy:y<z c):Fel k zk F X (pB lf nl a b) r c x y=Fel k zk F X (pB lf nl a (b+1)) r c x y:=by
 unfold Fel;rw[J6]
 by_cases hp:pB lf nl a b r c=true
 ·rw[if_pos hp,if_pos (by rw[hp];rfl)]
 ·rw[if_neg hp]
  split
  ·rename_i h
   rw[Bool.or_eq_true,Bool.and_eq_true,decide_eq_true_eq,decide_eq_true_eq] at h
   rcases h with h|⟨-,h⟩
   ·exact absurd h hp
   ·have hG:Gx k zk F X r c x y=0:=by
     unfold Gx;exact q2K (p:=z c) (fun x'' y'' hx'' hy''=>by rw[<-h,<-hj] at hy'' ⊢;exact h0 x'' y'' hx'' hy'') hy
    rw[hG];grind
  ·rfl
theorem q8V {zk a nl:Nat}{lf:Nat->Nat}{F:Nat->Nat->Nat->Nat->Rat}{X:q_m}(hi:i=lf a) (hj:j=lf b) (hij:¬j<=i){r:Nat}(hcr:c<=r) (x y:Nat):Fel k zk F X (pB lf nl a b) r c x y=Fel k zk F X (pB lf nl a (b+1)) r c x y:=by
 unfold Fel
 rw[J6,show (decide (r=lf a)&&decide (lf b=c))=false by
  rw[<-hi,<-hj];cases h1:decide (r=i) with
  | false=>rfl
  | true =>
   rw[decide_eq_true_eq] at h1;rw[Bool.true_and]
   exact q_f (by omega),Bool.or_false]
theorem q7B {zk a nl:Nat}{lf:Nat->Nat}{F:Nat->Nat->Nat->Nat->Rat}{X:q_m}(hi:i=lf a) (hj:j=lf b) (hnot:pB lf nl a b i j=false) (r c x y:Nat):q60 (Fel k zk F X (pB lf nl a b)) i j (fun x y=>Fel k zk F X (pB lf nl a b) i j x y-Gx k zk F X i j x y) r c x y=Fel k zk F X (pB lf nl a (b+1)) r c x y:=by
 unfold q60
 by_cases h:r=i/\c=j
 ·rw[if_pos h];obtain⟨rfl,rfl⟩:=h;unfold Fel;rw[J6,hnot,<-hi,<-hj,decide_eq_true rfl,decide_eq_true rfl]
  rfl
 ·rw[if_neg h];unfold Fel
  rw[J6,show (decide (r=lf a)&&decide (lf b=c))=false by
   rw[<-hi,<-hj];cases h1:decide (r=i) with
   | false=>rfl
   | true =>
    rw[decide_eq_true_eq] at h1;rw[Bool.true_and]
    exact decide_eq_false fun h2=>h ⟨h1,h2.symm⟩,Bool.or_false]
def q5V (N B0 B1 C1 q:Nat) (kb:Obj) (w:World) (bz oz gm gr m:Nat) (z:Nat->Nat) (F:Nat->Nat->Nat->Nat->Rat) (R:q_m) (k:Nat) (lf:Nat->Nat) (nl:Nat) (e:Ending) (w':World):Prop :=
 (e=.returned (.tuple #[.slice none 0 0,.bool false])/\¬Reg (z k) (F k k)/\Ext w w') \/
 (∃(A:Addr) (cap:Nat),e=.returned (.tuple #[.slice (some A) (z k) cap,.bool true])/\Reg (z k) (F k k)/\MtV N B1 w'.heap.size w' (.slice (some A) (z k) cap) (z k) (z k) (x8 (z k) (F k k)) /\
  StM N B0 B1 w' bz oz gm gr m z (Fel k (z k) F (x8 (z k) (F k k)) (pA lf nl nl)) (Rel k (z k) F (x8 (z k) (F k k)) R (xk lf nl))/\Chg B0 C1 w w'/\w'.heap[q]?=some kb)
theorem Wj {B0 B1 C1:Nat}{bz oz cz gm gr cr:Nat}{z:Nat->Nat}{F:Nat->Nat->Nat->Nat->Rat}{R:q_m}(h:StM N B0 B1 w bz oz gm gr m z F R) (hne:gm≠gr) (hC1:gm<C1/\gr<C1/\C1<=B1){q:Nat}{kb:Obj}(hq:w.heap[q]?=some kb) (hqn:q≠gm/\q≠gr) (hm:m<=12) (hz:∀i,i<m->0<z i/\z i<=64)
(hk:k<m){bl ol nl cl:Nat}{lf:Nat->Nat}(hl:∀t,t<nl->lf t<m/\lf t≠k) (hinj:∀s t,s<nl->t<nl->lf s=lf t->s=t) (hnl:nl<=12) (hbl:bl<B0) (hc:∀t,t<nl->w.cell? ⟨bl,ol+t,none⟩=some (.int .i64 (lf t:Int)))
  {K':Nat}(hKL:K<=K'/\K'<=29000000000) (hF:∀r c,c<=r->r<m->HtM (z r) (z c) K (F r c)) (hF':∀r c,c<=r->r<m->xk lf nl r=true->xk lf nl c=true->HtM (z r) (z c) K' (fun a b=>F r c a b-Gx k (z k) F (x8 (z k) (F k k)) r c a b)) (hR:∀i,i<m->HtL (z i) K (R i))
  (hB1:5*(5 ^ z k*(K+1))<=29000000000) (hB2:z k*(z k*(K+5 ^ z k*(K+1)+1)+1+K+1)+1<=29000000000) :
  Calls Tryz.prog 37 #[stV bz oz cz gm gr cr m,.int .i64 (k:Int),.slice (some ⟨bl,ol,none⟩) nl cl] w (q5V N B0 B1 C1 q kb w bz oz gm gr m z F R k lf nl):=by
 obtain⟨Q,hQ⟩:=qc (q5V N B0 B1 C1 q kb w bz oz gm gr m z F R k lf nl);rw[<-hQ.out];have hzk:=hz k hk
 have hKK:K<=29000000000:=by
  have h1:K+1<=5 ^ z k*(K+1):=Nat.le_mul_of_pos_left _ (Nat.pow_pos (by decide));omega
 have HS:=q_h h;have HNE:=q_h hne;have HCC:=q_h hC1;have HQB:=q_h hq;have HQN:=q_h hqn;have HZ:=q_h hz;have HL:=q_h hl;have HINJ:=q_h hinj;have HC:=q_h hc;have HF:=q_h hF;have HF':=q_h hF';have HKL:=q_h hKL.2;have HFM:Hid (∀r c,c<=r->r<m->HtM (z r) (z c) K' (F r c)):=fun r c h1 h2 a ha b hb=>(hF r c h1 h2 a ha b hb).mono hKL.1
 have HR:=q_h hR;have HB1:=q_h hB1;have HB2:=q_h hB2;have HKK:=q_h hKK;have HBW:Hid (B1<=w.heap.size):=h.bw;have HMB:Hid (B0<=gm/\gm<B1):=h.mb;have HRB:Hid (B0<=gr/\gr<B1):=h.rb;have HNB:Hid (N<=B0):=h.nb;have HKI:Hid (HtM (z k) (z k) K (F k k)):=hF k k (q_r) hk
 have HKN:Hid (∀a,xk lf a k=true->nl<a):=fun a ha=>by
  obtain⟨t,h1,h2⟩:=yF.1 ha
  rcases Nat.lt_or_ge t nl with h3|h3
  ·exact absurd h2 (hl t h3).2
  ·omega
 have hnlE:=fun (w:World) (a:Option Addr) (n c:Nat)=>Lib.run_eql_slice_nil (P:=Tryz.prog) w 29 37 a n c 0 0 Tryz.underlying29
 have hnlN:=fun (w:World) (a:Option Addr) (n c:Nat)=>run_neq_slice_nil_any (P:=Tryz.prog) w 29 37 a n c 0 0 Tryz.underlying29
 unfold stV;clear h hne hz hl hinj hc hF hF' hR hB1 hB2 hKK hKL hq hqn;go_enter Tryz.func37,Tryz.ntmps37;go_upto_region 1 with (fail);refine qo ?_;intro w1 e1 hsz1 B0';obtain⟨a0,a1,a2,-⟩:=cells3 B0';go_wp2_with (go_at_call 38;refine q_o ?_);refine (JH (cz:=cz) (cr:=cr) (HS.out.ext e1) hm HZ.out HF.out HKK.out hk hk).mono ?_;rintro e w2 ⟨v,rfl,e2,hv⟩;have HFK:Hid (Fsy F k k=F k k):=by funext a b;unfold Fsy;rw[if_pos (q_r)]
 rw[HFK.out] at hv;have hE2:=e1.trans e2;replace B0':=e2.block B0';clear a0 a1 a2 e1 e2
 rcases hv with ⟨rfl,h0⟩|hmx
 ·have HNR:=q_h (Yu hzk.1 h0);clear h0;go_wp2
  first|go_ret2|skip
  rw[hQ.out];exact .inl ⟨rfl,HNR.out,hE2⟩
 obtain⟨A2,k2,lo2,hi2,rfl,hmt⟩:=hmx.mtv;have HMT:=q_h hmt;clear hmx hmt;go_wp2_with (go_at_call 49;refine q_o ?_);refine (YA HMT.out hzk.1 hzk.2 HKI.out HB1.out).mono ?_;rintro e w3 ⟨e3,⟨h1,rfl⟩|⟨h1,g3,cap3,β3,κ3,rfl,hcap3,ho3⟩⟩
 ·have HNR:Hid (¬Reg (z k) (F k k)):=fun hr=>by
   have:=Za.2 hr;omega
  clear h1;go_wp2
  first|go_ret2|skip
  rw[hQ.out];exact .inl ⟨rfl,HNR.out,hE2.trans e3⟩
 have HREG:Hid (Reg (z k) (F k k)):=Za.1 (by have:=vX (z k) (Qh (z k) (F k k)) (z k);omega);have hE3:=hE2.trans e3;have HX3:Hid (MtV N B1 w3.heap.size w3 (.slice (some ⟨g3,0,none⟩) (z k) cap3) (z k) (z k) (x8 (z k) (F k k))):=MtR.wide (ho3.mtv ho3.mle hcap3) (by have:=HBW.out;have:=hE2.size;omega) (q_r) (q_r);obtain⟨X,hX⟩:=qc (x8 (z k) (F k k));have HXH:Hid (HtM (z k) (z k) (5 ^ z k*(K+1)) X):=by rw[Hid,hX.out];exact ZJ HKI.out
 rw[<-hX.out] at HX3 HF'
 have HQ2:Hid (Q=fun e w'=>(e=.returned (.tuple #[.slice none 0 0,.bool false])/\¬Reg (z k) (F k k)/\Ext w w') \/
  (∃(A:Addr) (cap:Nat),e=.returned (.tuple #[.slice (some A) (z k) cap,.bool true])/\Reg (z k) (F k k)/\MtV N B1 w'.heap.size w' (.slice (some A) (z k) cap) (z k) (z k) X/\StM N B0 B1 w' bz oz gm gr m z (Fel k (z k) F X (pA lf nl nl)) (Rel k (z k) F X R (xk lf nl))/\Chg B0 C1 w w'/\w'.heap[q]?=some kb)):=by rw[Hid,hQ.out,hX.out];rfl
 have HQ3:=q_h (hE3.block HQB.out);have HB3:=q_h (e3.block B0');have HS3:Hid (StM N B0 B1 w3 bz oz gm gr m z (Fel k (z k) F X (pA lf nl 0)) (Rel k (z k) F X R (xk lf 0))):=(HS.out.ext hE3).congr (fun r c _ _ a _ b _=>by unfold Fel;rw[show pA lf nl 0 r c=false from rfl];rfl) (fun i _ a _=>by unfold Rel;rw[show xk lf 0 i=false from rfl];rfl);have HC3:Hid (∀t,t<nl->w3.cell? ⟨bl,ol+t,none⟩=some (.int .i64 (lf t:Int))):=fun t ht=>hE3.cell (HC.out t ht)
 have HE3:=q_h hE3;have HN3:Hid (N<=w3.heap.size):=by have:=HBW.out;have:=HNB.out;have:=HMB.out;have:=hE3.size;rw[Hid];omega
 have hbw3:C1<=w.heap.size:=q_l HCC.out.2.2 HBW.out;clear hQ hX HMT ho3 hcap3 h1 B0' e3 hE2 hE3 HC HS;go_wp2_with fail
 go_loopw [36] (fun iv wr=>∃a:Nat,a<=nl/\iv=.int .i64 (a:Int)/\Hid (StM N B0 B1 wr bz oz gm gr m z (Fel k (z k) F X (pA lf nl a)) (Rel k (z k) F X R (xk lf a)))/\Hid (Chg B0 C1 w3 wr)/\Hid (wr.heap[q]?=some kb)) (fun iv _=>nl-(intOf iv).toNat)
 case atStart=>exact⟨0,Nat.zero_le _,rfl,HS3,Chg.refl _ _ _,HQ3⟩
 case round =>
  clear HS3 HQ3;obtain⟨a,ha,rfl,HSA,HCA,HQA⟩:=hrel
  by_cases hlt:a<nl
  case neg =>
   have t1:decide ((a:Int)<(nl:Int))=false:=q_f (by omega);obtain rfl:nl=a:=by omega
   go_wp2
   first|go_ret2|skip
   rw[HQ2.out];refine .inr ⟨_,_,rfl,HREG.out,?_,HSA.out,(HE3.out.chg B0 C1).trans HCA.out,HQA.out⟩;exact MtR.wide (MtR.chg HX3.out HCA.out HNB.out (.inr HCC.out.2.2)) (q_r) HCA.out.size (q_r)
  have t1:decide ((a:Int)<(nl:Int))=true:=q_t (by omega);have t2:(a:Int)<(nl:Int):=by omega
  obtain⟨i,hi⟩:=qc (lf a);obtain⟨him,hik⟩:=HL.out a hlt;have c0:=HCA.out.cell (HC3.out a hlt) (.inl hbl);rw[<-hi.out] at c0 him hik;have HK0:Hid (xk lf nl k=false):=Qx fun t ht=>(HL.out t ht).2
  have HKA:Hid (xk lf a k=false):=Qx fun t ht=>(HL.out t (by omega)).2
  have HIA:Hid (xk lf a i=false):=Qx fun t ht h9=>by
   have:=HINJ.out t a (by omega) hlt (by rw[h9,hi.out]);omega
  have HPK:Hid (∀r,pA lf nl a r k=false/\pA lf nl a k r=false):=fun r=>by
   unfold pA;rw[HK0.out,HKA.out,Bool.and_false,Bool.false_and];exact⟨rfl,rfl⟩
  obtain⟨wq,hwq⟩:∃wq,wq=wr:=⟨_,rfl⟩
  subst hwq;have HBA:=q_h (HCA.out.blk HB3.out (.inr hbw3));obtain⟨a0,a1,a2,-⟩:=cells3 HBA.out;go_wp2_with (go_at_call 38;refine q_o ?_);refine (JH (cz:=cz) (cr:=cr) HSA.out hm HZ.out (q3k HFM.out HF'.out (fun r c h=>q8F ha h)) HKL.out him hk).mono ?_;rintro e w4 ⟨v,rfl,e4,hv⟩;rw[(q9s (HPK.out i).1 (HPK.out i).2).1] at hv;have HS4:=q_h (HSA.out.ext e4);have HC4:Hid (Chg B0 C1 w3 w4):=HCA.out.trans (e4.chg B0 C1);have HB4:=q_h (e4.block HBA.out);have HQ4:=q_h (e4.block HQA.out);clear a0 a1 a2 c0 HSA HCA HBA HQA e4
  rcases hv with ⟨rfl,h0⟩|hmx
  ·have HSN:Hid (StM N B0 B1 w4 bz oz gm gr m z (Fel k (z k) F X (pA lf nl (a+1))) (Rel k (z k) F X R (xk lf (a+1)))):=HS4.out.congr (fun r c _ _ x hx y _=>q5j h0 hi.out r c hx y) (fun r _ x hx=>q4A h0 hi.out r hx);clear h0;go_wp2;go_roundw
   case rel=>exact⟨a+1,by omega,by go_num,HSN,HC4,HQ4⟩
   case measure=>simp[intOf];omega
  obtain⟨A4,k4,lo4,hi4,rfl,hmt4⟩:=hmx.mtv;have HM4:=q_h hmt4;have HX4:Hid (MtV N B1 w3.heap.size w4 (.slice (some ⟨g3,0,none⟩) (z k) cap3) (z k) (z k) X):=MtR.chg HX3.out HC4.out HNB.out (.inr HCC.out.2.2);have hzi:=HZ.out i him;have HSH:Hid (HtM (z i) (z k) K (Fsy F i k)):=Xm HF.out him hk
  have hbf:z k*(K+5 ^ z k*(K+1)+1)+1<=29000000000:=by
   have h1:=HB2.out;have h2:z k*(K+5 ^ z k*(K+1)+1)+1<=z k*(z k*(K+5 ^ z k*(K+1)+1)+1+K+1)+1:=Nat.add_le_add_right (q_l (Nat.mul_le_mul_left _ (by have:=Nat.le_mul_of_pos_left (K+5 ^ z k*(K+1)+1) hzk.1;omega)) (q_r)) 1;omega
  have HBF:=q_h hbf;clear hmx hmt4 hbf;go_wp2_with (go_at_call 50;refine q_o ?_);refine (q53 HM4.out HX4.out hzi.1 hzi.2 hzk.1 hzk.2 hzk.1 hzk.2 HSH.out HXH.out HBF.out).mono ?_;rintro e w5 ⟨g5,cap5,β5,κ5,rfl,hcap5,ho5,e5⟩;have hw35:B1<=w4.heap.size:=by have:=HBW.out;have:=HC4.out.size;have:=HE3.out.size;omega
  have HF5:Hid (MtV N B1 w5.heap.size w5 (.slice (some ⟨g5,0,none⟩) (z i) cap5) (z i) (z k) (Fct k (z k) F X i)):=MtR.wide (ho5.mtv ho5.mle hcap5) hw35 (q_r) (q_r);have HFH:Hid (HtM (z i) (z k) (z k*(K+5 ^ z k*(K+1)+1)+1) (Fct k (z k) F X i)):=QL HSH.out HXH.out;have HS5:Hid (StM N B0 B1 w5 bz oz gm gr m z (Fel k (z k) F X (pB lf nl a 0)) (Rel k (z k) F X R (xk lf a))):=(HS4.out.ext e5).congr (fun r c _ _ x _ y _=>by unfold Fel;rw[q79]) (fun _ _ _ _=>rfl);have HC5:Hid (Chg B0 C1 w3 w5):=HC4.out.trans (e5.chg B0 C1);have HB5:=q_h (e5.block HB4.out);have HQ5:=q_h (e5.block HQ4.out);have hw5:B1<=w5.heap.size:=q_l hw35 e5.size;clear ho5 hcap5 e5 HM4 HX4 HS4 HC4 HB4 HQ4 hw35;go_wp2_with fail
  go_loopw [54] (fun jv wr=>∃b:Nat,b<=nl/\jv=.int .i64 (b:Int)/\Hid (StM N B0 B1 wr bz oz gm gr m z (Fel k (z k) F X (pB lf nl a b)) (Rel k (z k) F X R (xk lf a)))/\Hid (Chg B0 C1 w5 wr)/\Hid (wr.heap[q]?=some kb)) (fun jv _=>nl-(intOf jv).toNat)
  case atStart=>exact⟨0,Nat.zero_le _,rfl,HS5,Chg.refl _ _ _,HQ5⟩
  case round =>
   clear HS5 HQ5;obtain⟨b,hb,rfl,HSB,HCB,HQB'⟩:=hrel
   by_cases hltb:b<nl
   case neg =>
    have t3:decide ((b:Int)<(nl:Int))=false:=q_f (by omega);obtain rfl:nl=b:=by omega
    have HSQ:Hid (StM N B0 B1 wr bz oz gm gr m z (Fel k (z k) F X (pA lf nl (a+1))) (Rel k (z k) F X R (xk lf a))):=HSB.out.congr (fun r c _ _ x _ y _=>by unfold Fel;rw[q2v]) (fun _ _ _ _=>rfl);have HBB:=q_h (HCB.out.blk HB5.out (.inr hbw3));obtain⟨a0,a1,a2,-⟩:=cells3 HBB.out;obtain⟨cs,hgr,hrt⟩:=HSB.out.rt;obtain⟨vi,hvi,hLi⟩:=hrt i him;obtain⟨vk,hvk,hLk⟩:=hrt k hk;rw[show Rel k (z k) F X R (xk lf a) i=R i by funext x;unfold Rel;rw[HIA.out];rfl] at hLi;rw[show Rel k (z k) F X R (xk lf a) k=R k by funext x;unfold Rel;rw[HKA.out];rfl] at hLk;obtain⟨Ai,ci,loi,hii,rfl,hli,-⟩:=hLi;obtain⟨Ak,ck,lok,hik',rfl,hlk,-⟩:=hLk;have q0:wr.cell? ⟨gr,i,none⟩=some (.slice Ai (z i) ci):=by rw[qh hgr];exact hvi
    have q1:wr.cell? ⟨gr,k,none⟩=some (.slice Ak (z k) ck):=by rw[qh hgr];exact hvk
    have HLi:=q_h hli;have HLk:=q_h hlk;have HGR:=q_h hgr;have HFw:Hid (MtV N B1 w5.heap.size wr (.slice (some ⟨g5,0,none⟩) (z i) cap5) (z i) (z k) (Fct k (z k) F X i)):=MtR.chg HF5.out HCB.out HNB.out (.inr HCC.out.2.2);have HRK:Hid (HtL (z k) K (R k)):=HR.out k hk
    have HSZ:Hid (∀x,x<z i->Sz (R i x)/\Sz (av (z k) (Fct k (z k) F X i) (R k) x)):=fun x hx=>⟨(HR.out i him x hx).sz HKK.out,Ht.sz (k:=z k*(z k*(K+5 ^ z k*(K+1)+1)+1+K+1)+1) (by
     unfold av
     exact wR fun c hc=>(HFH.out x hx c hc).mul (HRK.out c hc)) HB2.out⟩
    have HBI:Hid (∀ {w':World},Ext wr w'->B1<=w'.heap.size):=fun e=>q_l hw5 (q_l HCB.out.size e.size)
    have him':(i:Int)<(m:Int):=by omega
    have hkm':(k:Int)<(m:Int):=by omega
    obtain⟨wx,hwx⟩:∃wx,wx=wr:=⟨_,rfl⟩
    subst hwx;clear hrt hvi hvk hli hlk hgr HSB;go_upto_region 21 with (fail);refine yB [Mn.q w.heap.size 2,Mn.eq (.slice (some ⟨gr,0,none⟩) m cr),Mn.i (i:Int),Mn.q w.heap.size 2,Mn.eq (.slice (some ⟨gr,0,none⟩) m cr),Mn.i (i:Int),Mn.q gr i,Mn.eq (.slice Ai (z i) ci),Mn.eq (.slice (some ⟨g5,0,none⟩) (z i) cap5),Mn.q w.heap.size 2,Mn.eq (.slice (some ⟨gr,0,none⟩) m cr),Mn.i (k:Int),Mn.q gr k,Mn.eq (.slice Ak (z k) ck),Mn.lf N B1 (z i) (av (z k) (Fct k (z k) F X i) (R k)),Mn.lf N B1 (z i) (fun x=>R i x-av (z k) (Fct k (z k) F X i) (R k) x),Mn.q gr i,Mn.any] [some 81,some 82,some 83,some 84,some 85,some 86,some 87,some 88,some 89,some 90,some 91,some 92,some 93,some 94,some 95,some 96,some 97,none] [17] (rQ 17 1) 1 (by kernel_rfl) ?_ ?_
    ·show ∀i,i<18->_
     iterate 18 refine fs ?_ ?_
     ·exact fz
     all_goals intro hl;first|exact absurd hl (by decide)|(clear hl;refine stp rfl ?_;intro ac wi eI hB hA K hK)
     have o3:=oOf (hB 3) rfl;rotate_left;obtain⟨_,s81,rfl⟩:=hA 0 81;have cc0:=eI.cell a2;rotate_left;have o12:=oOf (hB 12) rfl;rotate_left;have o3:=oOf (hB 3) rfl;rotate_left;obtain⟨_,s84,rfl⟩:=hA 3 84;have cc0:=eI.cell a2;rotate_left;have o12:=oOf (hB 12) rfl;rotate_left;obtain⟨_,s85,rfl⟩:=hA 4 85;obtain⟨_,s86,rfl⟩:=hA 5 86;rotate_left;obtain⟨_,s87,rfl⟩:=hA 6 87;have cc0:=eI.cell q0;rotate_left;have o14:=oOf (hB 14) rfl;rotate_left;have o3:=oOf (hB 3) rfl;rotate_left;obtain⟨_,s90,rfl⟩:=hA 9 90;have cc0:=eI.cell a2;rotate_left;have o1:=oOf (hB 1) rfl;rotate_left;obtain⟨_,s91,rfl⟩:=hA 10 91;obtain⟨_,s92,rfl⟩:=hA 11 92;rotate_left;obtain⟨_,s93,rfl⟩:=hA 12 93;have cc0:=eI.cell q1;rotate_left;obtain⟨_,s89,rfl⟩:=hA 8 89;obtain⟨_,s94,rfl⟩:=hA 13 94;clear hB hA
     ·go_simp;refine (JG (HFw.out.ext eI) (HLk.out.ext eI) HFH.out HRK.out HB2.out (by omega)).mono ?_;rintro e wj ⟨Aj,cj,rfl,hj9,ej⟩;go_wp2_with fail;exact hK.out _ _ ej (LsR.wide hj9 (HBI.out eI) (q_r) (q_r))
     obtain⟨_,s88,rfl⟩:=hA 7 88;obtain⟨x95,s95,j95⟩:=hA 14 95;replace j95:Mn.p (Mn.lf N B1 (z i) (av (z k) (Fct k (z k) F X i) (R k))) x95 wi:=j95;clear hB hA
     ·go_simp;refine (q3W (HLi.out.ext eI) j95 HSZ.out (by omega)).mono ?_;rintro e wj ⟨Aj,cj,rfl,hj9,ej⟩;go_wp2_with fail;exact hK.out _ _ ej (LsR.wide hj9 (HBI.out eI) (q_r) (q_r))
     obtain⟨_,s82,rfl⟩:=hA 1 82;obtain⟨_,s83,rfl⟩:=hA 2 83;rotate_left
     all_goals clear hB hA;go_simp;exact q_k hK rfl
    intro vals wz eZ hJ;have J96:Mn.p (Mn.lf N B1 (z i) (fun x=>R i x-av (z k) (Fct k (z k) F X i) (R k) x)) (vals 15) wz:=hJ 15 (by decide) (by decide);have J97:vals 16=_:=hJ 16 (by decide) (by decide);clear hJ;simp only[pr,Nat.reduceAdd,J97];clear J97
    generalize vals 15=z96 at J96 ⊢
    have hlz:=J96;obtain⟨Av,cv,hvv,-,-⟩:=LsR.form hlz;rw[hvv] at hlz ⊢;have q2:=eZ.cell q0;have f2:wz.frozen? ⟨gr,i,none⟩=false:=qY (eZ.block HGR.out) i;refine qj (i:=17) rfl (by kernel_rfl) (by kernel_rfl) (fun K hK=>?_);go_simp;refine hK.out _ _ ?_;clear hK K;try simp only[nr]
    refine qg (by kernel_rfl) ?_ _;obtain⟨w9,E9,hs9,C9⟩:=(HSQ.out.ext eZ).setR HNE.out him (v:=.slice Av (z i) cv) (y:=fun x=>R i x-av (z k) (Fct k (z k) F X i) (R k) x) ⟨_,_,B1,_,rfl,hlz,.inr (q_r)⟩;rw[E9]
    have HSN:Hid (StM N B0 B1 w9 bz oz gm gr m z (Fel k (z k) F X (pA lf nl (a+1))) (Rel k (z k) F X R (xk lf (a+1)))):=hs9.congr (fun _ _ _ _ _ _ _ _=>rfl) (fun r _ x _=>by
     show (if r=i then (fun x=>R i x-av (z k) (Fct k (z k) F X i) (R k) x) else Rel k (z k) F X R (xk lf a) r) x=_
     unfold Rel;rw[wM,<-hi.out]
     by_cases hri:r=i
     ·rw[if_pos hri,hri,decide_eq_true rfl,Bool.or_true]
      rfl
     ·rw[if_neg hri,q_f (fun e:i=r=>hri e.symm),Bool.or_false])
    have HQZ:Hid (w9.heap[q]?=some kb):=C9.blk (eZ.block HQB'.out) (by have:=HQN.out;omega);have HCN:Hid (Chg B0 C1 w3 w9):=(HC5.out.trans (HCB.out.trans (eZ.chg B0 C1))).trans (C9.wide (by have:=HRB.out;omega) (by have:=HCC.out;omega));clear E9 hs9 C9 hlz q2 f2 q0 q1 a0 a1 a2 eZ hvv;go_wp2;go_roundw
    case rel=>exact⟨a+1,by omega,by go_num,HSN,HCN,HQZ⟩
    case measure=>simp[intOf];omega
   have t3:decide ((b:Int)<(nl:Int))=true:=q_t (by omega);have t4:(b:Int)<(nl:Int):=by omega
   obtain⟨j,hj⟩:=qc (lf b);obtain⟨hjm,hjk⟩:=HL.out b hltb;have c1:=HCB.out.cell (HC5.out.cell (HC3.out b hltb) (.inl hbl)) (.inl hbl);rw[<-hj.out] at c1 hjm hjk
   have HPB:Hid (∀r,pB lf nl a b r k=false/\pB lf nl a b k r=false):=fun r=>by
    have hbk:xk lf b k=false:=Qx fun t ht=>(HL.out t (by omega)).2
    unfold pB;rw[(HPK.out r).1,(HPK.out r).2,hbk,<-hi.out,q_f (fun e:k=i=>hik e.symm),Bool.and_false,Bool.false_and];exact⟨rfl,rfl⟩
   have HBJ:Hid (pB lf nl a b i j=false):=by
    have h1:xk lf b j=false:=Qx fun t ht h9=>by
     have:=HINJ.out t b (by omega) hltb (by rw[h9,hj.out]);omega
    rw[Hid];unfold pB pA;rw[HIA.out,h1,Bool.false_and,Bool.and_false]
    rfl
   have HBB:=q_h (HCB.out.blk HB5.out (.inr hbw3));obtain⟨a0,a1,a2,-⟩:=cells3 HBB.out;obtain⟨wx,hwx⟩:∃wx,wx=wr:=⟨_,rfl⟩
   subst hwx;go_wp2_with (go_at_call 38;refine q_o ?_);refine (JH (cz:=cz) (cr:=cr) HSB.out hm HZ.out (q3k HFM.out HF'.out (fun r c h=>q8E hlt hb h)) HKL.out hk hjm).mono ?_;rintro e w6 ⟨v,rfl,e6,hv⟩;rw[(q9s (HPB.out j).1 (HPB.out j).2).2] at hv;have HS6:=q_h (HSB.out.ext e6);have HC6:Hid (Chg B0 C1 w5 w6):=HCB.out.trans (e6.chg B0 C1);have HB6:=q_h (e6.block HBB.out);have HQ6:=q_h (e6.block HQB'.out);clear a0 a1 a2 c1 HSB HCB HBB HQB' e6
   by_cases hji:j<=i
   case neg =>
    have t5:decide ((j:Int)<=(i:Int))=false:=q_f (by omega);have HSN:Hid (StM N B0 B1 w6 bz oz gm gr m z (Fel k (z k) F X (pB lf nl a (b+1))) (Rel k (z k) F X R (xk lf a))):=HS6.out.congr (fun r c hcr _ x _ y _=>q8V hi.out hj.out hji hcr x y) (fun _ _ _ _=>rfl)
    obtain⟨vA,vn,vc,rfl⟩:∃A n c,v=.slice A n c:=by
     rcases hv with ⟨rfl,-⟩|⟨A,k9,-,-,rfl,-⟩
     ·exact⟨_,_,_,rfl⟩
     ·exact⟨_,_,_,rfl⟩
    have hji':¬(j:Int)<=(i:Int):=by omega
    clear hv hji;go_wp2;go_roundw
    case rel=>exact⟨b+1,by omega,by go_num,HSN,HC6,HQ6⟩
    case measure=>simp[intOf];omega
   have t5:decide ((j:Int)<=(i:Int))=true:=q_t (by omega)
   rcases hv with ⟨rfl,h0⟩|hmx
   ·have HSN:Hid (StM N B0 B1 w6 bz oz gm gr m z (Fel k (z k) F X (pB lf nl a (b+1))) (Rel k (z k) F X R (xk lf a))):=HS6.out.congr (fun r c _ _ x _ y hy=>q1a h0 hj.out r c x hy) (fun _ _ _ _=>rfl);clear h0;go_wp2;go_roundw
    case rel=>exact⟨b+1,by omega,by go_num,HSN,HC6,HQ6⟩
    case measure=>simp[intOf];omega
   obtain⟨A6,k6,lo6,hi6,rfl,hmt6⟩:=hmx.mtv;have HM6:=q_h hmt6;have hzj:=HZ.out j hjm;have HOH:Hid (HtM (z k) (z j) K (Fsy F k j)):=Xm HF.out hk hjm;have HF6:Hid (MtV N B1 w5.heap.size w6 (.slice (some ⟨g5,0,none⟩) (z i) cap5) (z i) (z k) (Fct k (z k) F X i)):=MtR.chg HF5.out HC6.out HNB.out (.inr HCC.out.2.2);have HGH:Hid (∀x,x<z i->∀y,y<z j->Sz (Gx k (z k) F X i j x y)):=fun x hx y hy=>(QL HFH.out HOH.out x hx y hy).sz HB2.out
   have HFS:Hid (∀x,x<z i->∀y,y<z j->Sz (Fel k (z k) F X (pB lf nl a b) i j x y)):=fun x hx y hy=>(q3k HFM.out HF'.out (fun r c h=>q8E hlt hb h) i j hji him x hx y hy).sz HKL.out
   clear hmx hmt6;go_wp2_with (go_at_call 50;refine q_o ?_);refine (q53 HF6.out HM6.out hzi.1 hzi.2 hzk.1 hzk.2 hzj.1 hzj.2 HFH.out HOH.out HB2.out).mono ?_;rintro e w7 ⟨g7,cap7,β7,κ7,rfl,hcap7,ho7,e7⟩;have HG7:Hid (MtV N w6.heap.size w7.heap.size w7 (.slice (some ⟨g7,0,none⟩) (z i) cap7) (z i) (z j) (Gx k (z k) F X i j)):=ho7.mtv ho7.mle hcap7;have HS7:=q_h (HS6.out.ext e7);have HB7:=q_h (e7.block HB6.out);have HQ7:=q_h (e7.block HQ6.out);have HC7:Hid (Chg B0 C1 w5 w7):=HC6.out.trans (e7.chg B0 C1);obtain⟨a0,a1,a2,-⟩:=cells3 HB7.out;clear ho7 hcap7 e7 HM6 HF6 HS6 HC6 HB6 HQ6;go_wp2_with (go_at_call 82;refine q_o ?_);refine (q1k (cz:=cz) (cr:=cr) HS7.out HNE.out hm HZ.out him hji HFS.out HG7.out HGH.out).mono ?_;rintro e w8 ⟨rfl,hs8,hc8⟩;have HSN:Hid (StM N B0 B1 w8 bz oz gm gr m z (Fel k (z k) F X (pB lf nl a (b+1))) (Rel k (z k) F X R (xk lf a))):=hs8.congr (fun r c _ _ x _ y _=>q7B hi.out hj.out HBJ.out r c x y) (fun _ _ _ _=>rfl);have HC8:Hid (Chg B0 C1 w5 w8):=HC7.out.trans (hc8.wide HMB.out.1 (by have:=HCC.out;omega));have HQ8:=q_h (hc8.blk HQ7.out (by have:=HQN.out;omega));clear hs8 hc8 HQ7 HS7 HC7 HB7 HG7 a0 a1 a2;go_wp2;go_roundw
   case rel=>exact⟨b+1,by omega,by go_num,HSN,HC8,HQ8⟩
   case measure=>simp[intOf];omega
end
section
open Go.RowKit
def q1q (o:Nat->Nat) (t s:Nat):Nat:=o (t+1+s)
section
variable (z o:Nat->Nat) (m:Nat) (F:Nat->Nat->Nat->Nat->Rat) (R:q_m)
noncomputable def fsS:Nat->Nat->Nat->Nat->Nat->Rat
 | 0=>F
 | t+1=>Fel (o t) (z (o t)) (fsS t) (x8 (z (o t)) (fsS t (o t) (o t))) (pA (q1q o t) (m-(t+1)) (m-(t+1)))
noncomputable def rsS:Nat->Nat->Nat->Rat
 | 0=>R
 | t+1=>Rel (o t) (z (o t)) (fsS z o m F t) (x8 (z (o t)) (fsS z o m F t (o t) (o t))) (rsS t) (xk (q1q o t) (m-(t+1)))
def PvF (t:Nat):Prop:=Reg (z (o t)) (fsS z o m F t (o t) (o t))
noncomputable def yS (x:q_m) (t:Nat):Nat->Nat->Rat
 | 0=>rsS z o m F R t (o t)
 | j+1=>fun a=>yS x t j a-av (z (o (t+1+j))) (Fsy (fsS z o m F t) (o t) (o (t+1+j))) (x (o (t+1+j))) a
noncomputable def xS (x:q_m) (t:Nat):Nat->Rat:=av (z (o t)) (x8 (z (o t)) (fsS z o m F t (o t) (o t))) (yS z o m F R x t (m-(t+1)))
def yH (K Kx:Nat) (t:Nat):Nat->Nat
 | 0=>K
 | j+1=>yH K Kx t j+(z (o (t+1+j))*(K+Kx+1)+1)+1
end
variable {z o:Nat->Nat}{m:Nat}{F:Nat->Nat->Nat->Nat->Rat}{R:q_m}
theorem q1W (hinj:∀a b,a<m->b<m->o a=o b->a=b){t s:Nat}(ht:t<=s) (hs:s<m):xk (q1q o s) (m-(s+1)) (o t)=false :=
 Qx fun q hq h=>by
  have:=hinj (s+1+q) t (by omega) (by omega) h;omega
theorem q3h (hinj:∀a b,a<m->b<m->o a=o b->a=b){t:Nat}(c:Nat):∀d,t+d<=m->Fsy (fsS z o m F (t+d)) (o t) c=Fsy (fsS z o m F t) (o t) c
 | 0,_=>rfl
 | d+1,h=>by
  have ih:=q3h (t:=t) hinj c d (by omega);rw[<-ih];have h1:=q1W (m:=m) (o:=o) hinj (Nat.le_add_right t d) (show t+d<m by omega)
  funext a b
  show Fsy (fsS z o m F ((t+d)+1)) (o t) c a b=_
  generalize t+d=u at h1
  rw[fsS];unfold Fsy Fel pA;rw[h1]
  by_cases hc:c<=o t
  ·rw[if_pos hc,if_pos hc,Bool.false_and,if_neg (by decide)]
  ·rw[if_neg hc,if_neg hc,Bool.and_false,if_neg (by decide)]
theorem q8S (hinj:∀a b,a<m->b<m->o a=o b->a=b){t:Nat}(ht:t<=m) (c:Nat):Fsy (fsS z o m F m) (o t) c=Fsy (fsS z o m F t) (o t) c:=by
 have h:=q3h (z:=z) (F:=F) hinj (t:=t) c (m-t) (by omega)
 rwa [show t+(m-t)=m by omega] at h
theorem q1X (hinj:∀a b,a<m->b<m->o a=o b->a=b){t:Nat}:∀d,t+d<=m->rsS z o m F R (t+d) (o t)=rsS z o m F R t (o t)
 | 0,_=>rfl
 | d+1,h=>by
  have ih:=q1X (t:=t) hinj d (by omega);rw[<-ih];have h1:=q1W (m:=m) (o:=o) hinj (Nat.le_add_right t d) (show t+d<m by omega)
  funext a
  show rsS z o m F R ((t+d)+1) (o t) a=_
  generalize t+d=u at h1
  rw[rsS];unfold Rel;rw[h1,if_neg (by decide)]
theorem q8w (hinj:∀a b,a<m->b<m->o a=o b->a=b){t:Nat}(ht:t<=m):rsS z o m F R m (o t)=rsS z o m F R t (o t):=by
 have h:=q1X (z:=z) (F:=F) (R:=R) hinj (t:=t) (m-t) (by omega)
 rwa [show t+(m-t)=m by omega] at h
theorem q1x {K Kx t:Nat}:∀ {a b:Nat},a<=b->yH z o K Kx t a<=yH z o K Kx t b
 | a,0,h=>by
  obtain rfl:a=0:=by omega
  exact q_r
 | a,b+1,h=>by
  by_cases h1:a=b+1
  ·rw[h1];exact q_r
  ·refine q_l (q1x (K:=K) (Kx:=Kx) (t:=t) (show a<=b by omega)) ?_
   show _<=yH z o K Kx t b+(z (o (t+1+b))*(K+Kx+1)+1)+1
   omega
theorem q8k {x:q_m}{K Kx t:Nat}(h0:HtL (z (o t)) K (rsS z o m F R t (o t))) (hF:∀s,t<s->s<m->HtM (z (o t)) (z (o s)) K (Fsy (fsS z o m F t) (o t) (o s))) (hx:∀s,t<s->s<m->HtL (z (o s)) Kx (x (o s))) :
  ∀j,t+1+j<=m->HtL (z (o t)) (yH z o K Kx t j) (yS z o m F R x t j)
 | 0,_=>h0
 | j+1,h=>fun a ha=>by
  have ih:=q8k h0 hF hx j (by omega) a ha;unfold yS yH;refine (ih.sub (?_:Ht (z (o (t+1+j))*(K+Kx+1)+1) _)).mono (q_r);unfold av;exact wR fun c hc=>(hF _ (by omega) (by omega) a ha c hc).mul (hx _ (by omega) (by omega) c hc)
end
section
open Go.RowKit
def q6v (N:Nat) (w:World) (m n:Nat) (X:q_m) (e:Ending) (w':World):Prop:=∃A c,e=.returned (.slice A m c)/\MtV N 0 w'.heap.size w' (.slice A m c) m n X/\Ext w w'
theorem q8u{t:TypeId}{y0 y1 y2:Value}(hb:w.heap[g]?=some (.cells #[y0,y1,y2] t (0,0))) (x0:Value):∃w1,w.setCell ⟨g,1,none⟩ x0=w1/\w1.heap[g]?=some (.cells #[y0,x0,y2] t (0,0))/\Upd g w w1 :=
 ⟨_,rfl,by have h1:=heap_set hb 1 x0;simpa using h1,(Upd.refl g w).set 1 x0⟩
theorem q3l{v':Value}{y:Rat}(h:qX N w v x) (h':qX N w v' y) (hz:Sz x) (hz':Sz y) :
  Calls Tryz.prog 122 #[v,v'] w (zH w (.int .i64 (x.num*y.den-y.num*x.den).sign)):=by
 obtain⟨s,hs⟩:=qc (x.num*y.den-y.num*x.den).sign;rw[<-hs.out];have hI:=h;have hI':=h';have hN:=h.le;obtain⟨m1,X1,i1,d1,X2,i2,d2,rfl,hm1,gx1,gx2⟩:=h.parts;obtain⟨m2,Y1,i3,d3,Y2,i4,d4,rfl,hm2,gy1,gy2⟩:=h'.parts;have HZ:=q_h hz;have HZ':=q_h hz';clear hz hz' h h' gx1 gx2 gy1 gy2;go_enter Tryz.func122,Tryz.ntmps122;go_wp2;refine kD ?_;intro W hE hsz B0 B1;obtain⟨a0,a1,a2,a3,-⟩:=cells4 B0;obtain⟨b0,b1,b2,b3,-⟩:=cells4 B1
 go_cut [] (fun wx=>∃n1 A1 k1 c1 A2 k2 c2 n2 A3 k3 c3 A4 k4 c4,Ext w wx/\w.heap.size+2<=wx.heap.size/\wx.heap[w.heap.size]?=some (.cells #[.bool n1,.slice A1 k1 c1,.bool false,.slice A2 k2 c2] 35 (0,0))/\wx.heap[w.heap.size+1]?=some (.cells #[.bool n2,.slice A3 k3 c3,.bool false,.slice A4 k4 c4] 35 (0,0))/\Hid (n1=decide (x.num<0))/\Hid (n2=decide (y.num<0))/\Gs N wx (.slice A1 k1 c1) (dg x.num.natAbs)/\Gs N wx (.slice A2 k2 c2) (dg x.den)/\Gs N wx (.slice A3 k3 c3) (dg y.num.natAbs)/\Gs N wx (.slice A4 k4 c4) (dg y.den)/\w.heap.size+2<=wx.heap.size)
 case first =>
  have eC:=(Ext.refl W).drew
  go_region_with (first
   | (go_at_call_of 135 X1;refine (jb (by exact hI.ext (hE.trans eC)) HZ.out).mono ?_;intro e w1 hh;obtain⟨n1,A1,k1,c1,A2,k2,c2,rfl,hb1,g1,g2,e1⟩:=hh.form;replace eC:=eC.trans e1;have C0:=eC.block B0;have C1:=eC.block B1;obtain⟨p0,p1,p2,p3,p4,p5,p6,p7⟩:=cells4 C0;obtain⟨q0,q1,q2,q3,q4,q5,q6,q7⟩:=cells4 C1)
   | (go_at_call_of 135 Y1;refine (jb (by exact hI'.ext (hE.trans eC)) HZ'.out).mono ?_;intro e w2 hh;obtain⟨n2,A3,k3,c3,A4,k4,c4,rfl,hb2,g3,g4,e2⟩:=hh.form;replace eC:=eC.trans e2;have C0:=eC.block B0;have C1:=eC.block B1;obtain⟨p0,p1,p2,p3,p4,p5,p6,p7⟩:=cells4 C0;obtain⟨q0,q1,q2,q3,q4,q5,q6,q7⟩:=cells4 C1))
  all_goals
   go_wp2_with fail
   go_meet
   obtain⟨w3,E3,D0,U⟩:=ex4 C0 (.bool n1) (.slice A1 k1 c1) (.bool false) (.slice A2 k2 c2);rw[E3];obtain⟨w4,E4,D1,U'⟩:=ex4 (U.blk C1 (by omega)) (.bool n2) (.slice A3 k3 c3) (.bool false) (.slice A4 k4 c4);rw[E4];have hT0:=NoU.mk C0 (by decide);have hT1:=NoU.mk (U.blk C1 (by omega)) (by decide);refine⟨n1,A1,k1,c1,A2,k2,c2,n2,A3,k3,c3,A4,k4,c4,U'.ext (U.ext (hE.trans eC) (q_r)) (by omega),?_,U'.blk D0 (by omega),D1,hb1,hb2,((g1.ext e2).upd U (by omega) hT0).upd U' (by omega) hT1,((g2.ext e2).upd U (by omega) hT0).upd U' (by omega) hT1,(g3.upd U (by omega) hT0).upd U' (by omega) hT1,(g4.upd U (by omega) hT0).upd U' (by omega) hT1,(by rw[U'.size,U.size];have:=eC.size;omega)⟩;rw[U'.size,U.size];have:=eC.size;omega
 case rest =>
  clear a0 a1 a2 a3 b0 b1 b2 b3 B0 B1 hE hsz hI hI';obtain⟨n1,A1,k1,c1,A2,k2,c2,n2,A3,k3,c3,A4,k4,c4,hE,-,B0,B1,hb1,hb2,g1,g2,g3,g4,hsz⟩:=hcut;obtain⟨a0,a1,a2,a3,-⟩:=cells4 B0;obtain⟨b0,b1,b2,b3,-⟩:=cells4 B1;have eC:=(Ext.refl wc).drew;go_wp2
  go_region_held3 (fun w'=>(w'.cell? ⟨w.heap.size,0,none⟩=some (.bool n1)/\w'.cell? ⟨w.heap.size,1,none⟩=some (.slice A1 k1 c1)/\w'.cell? ⟨w.heap.size,2,none⟩=some (.bool false)/\w'.cell? ⟨w.heap.size,3,none⟩=some (.slice A2 k2 c2))/\(w'.cell? ⟨w.heap.size+1,0,none⟩=some (.bool n2)/\w'.cell? ⟨w.heap.size+1,1,none⟩=some (.slice A3 k3 c3)/\w'.cell? ⟨w.heap.size+1,2,none⟩=some (.bool false)/\w'.cell? ⟨w.heap.size+1,3,none⟩=some (.slice A4 k4 c4)))
   ((repeat' apply And.intro)<;>repeat with_reducible first|assumption|exact eC.cell (by assumption)|refine cell_far _ ?_ (by omega))
   (first
    | (go_at_call_of 156 A1;refine (Jn (by exact zF hb1 (g1.ext eC)) (by exact zM (g4.ext eC)) (by have:=HZ.out.1;omega) (by rw[Int.natAbs_natCast];have:=HZ'.out.2;omega)).mono ?_;rintro e w5 ⟨v5,rfl,h5,e5⟩;replace eC:=eC.trans e5)
    | (go_at_call_of 156 A3;refine (Jn (by exact zF hb2 (g3.ext eC)) (by exact zM (g2.ext eC)) (by have:=HZ'.out.1;omega) (by rw[Int.natAbs_natCast];have:=HZ.out.2;omega)).mono ?_;rintro e w6 ⟨v6,rfl,h6,e6⟩;replace eC:=eC.trans e6)
    | (go_at_call 153;refine (q8Q (by exact h5.ext e6) (by exact h6)).mono ?_;rintro e w7 ⟨rfl,e7⟩;rw[<-hs.out];replace eC:=eC.trans e7))
  go_wp2;go_ret;exact⟨rfl,hE.trans eC⟩
theorem Xw {y:Rat}:(x.num*y.den-y.num*x.den).sign=0↔x=y:=by
 rw[Int.sign_eq_zero_iff_zero]
 constructor
 ·intro h;have h1:x.num*(y.den:Int)=y.num*(x.den:Int):=by omega
  have h2:Rat.divInt x.num x.den=Rat.divInt y.num y.den:=(Rat.divInt_eq_divInt_iff (by have:=x.den_nz;omega) (by have:=y.den_nz;omega)).2 h1;rw[Rat.num_divInt_den,Rat.num_divInt_den] at h2;exact h2
 ·rintro rfl;omega
theorem ZY{R:Nat->Raw}(h:LsR N lo hi w v n R) (hs:∀i,i<n->jJ (R i)) :
  Calls Tryz.prog 78 #[v] w (zH w (.bool (allB n (fun i=>okR (R i))))):=by
 obtain⟨r,hr⟩:=qc (allB n (fun i=>okR (R i)));rw[<-hr.out];obtain⟨A,c,rfl,hnc,hcm⟩:=h.form;unfold maxLen at hcm;have HI:=q_h h;have HS:=q_h hs;clear hs h;go_enter Tryz.func78,Tryz.ntmps78;go_wp2_with fail
 go_loopw [7] (fun i wr=>∃k:Nat,k<=n/\i=.int .i64 k/\Hid (∀j,j<k->okR (R j)=true)/\Ext w wr) (fun i _=>n-(intOf i).toNat)
 case atStart=>exact⟨0,Nat.zero_le _,rfl,fun j hj=>absurd hj (by omega),Ext.refl w⟩
 case round =>
  obtain⟨k,hk,rfl,HA,hE⟩:=hrel
  by_cases hlt:k<n
  case neg =>
   have t1:decide ((k:Int)<(n:Int))=false:=q_f (by omega);have HF:Hid (r=true):=by rw[Hid,hr.out];exact qm.2 (fun j hj=>HA.out j (by omega))
   go_wp2;go_ret;exact⟨qB HF.out.symm,hE⟩
  have t1:decide ((k:Int)<(n:Int))=true:=q_t (by omega);have t2:(k:Int)<(n:Int):=by omega
  obtain⟨b,off,rfl,-,-,hx⟩:=(HI.out.ext hE).addr (by omega);obtain⟨A1,n1,c1,A2,n2,c2,p0,p1,p2,p3,hv⟩:=(hx k hlt).val;have HV:=q_h hv;clear hx hv;go_upto_region 4 with (fail);refine qo ?_;intro w3 e3 hsz3 B3;clear p0 p1 p2 p3;obtain⟨q0,q1,q2,q3,-⟩:=cells4 B3;go_wp2_with (go_at_call 121;refine q_o ?_);refine (VN (HV.out.ext e3) (HS.out k hlt).1 (HS.out k hlt).2).mono ?_;rintro e w4 ⟨rfl,e4⟩;have hE4:=hE.trans (e3.trans e4);obtain⟨o,ho⟩:=qc (okR (R k));rw[<-ho.out];clear q0 q1 q2 q3 B3 e3 e4;cases o with
  | true =>
   go_wp2;go_roundw
   case rel=>exact⟨k+1,by omega,by go_num,xn HA.out ho.out.symm,hE4⟩
   case measure=>simp[intOf];omega
  | false =>
   have HF:Hid (r=false):=by rw[Hid,hr.out];exact qL hlt ho.out.symm
   go_wp2;go_ret;exact⟨qB HF.out.symm,hE4⟩
theorem Jb{L:Nat->Nat}{R:Nat->Nat->Raw}(h:MtR N lo hi w (.slice A m c) m L R)(hi':i<m):∃b off A' c',A=some ⟨b,off,none⟩/\w.cell? ⟨b,off+i,none⟩=some (.slice A' (L i) c')/\LsR N lo hi w (.slice A' (L i) c') (L i) (R i)/\L i<=9223372036854775807:=by
 obtain⟨-,-,A9,c9,hv,-,-,hx⟩:=h;injection hv with e1 e2 e3
 subst e1;obtain⟨b,off,hA,-,-,hc⟩:=hx (by omega);obtain⟨u,h1,h2⟩:=hc i hi';obtain⟨A',c',rfl,h3,h4⟩:=h2.form;unfold maxLen at h4;exact⟨b,off,A',c',hA,h1,h2,by omega⟩
theorem q6U {z:Nat->Int}{B:Bkk}(hi:i<B.m) (h:¬(B.L i:Int)=z B.c.toNat):Qn z B=false:=by
 unfold Qn;rw[qL hi (q_f h),Bool.false_and,Bool.and_false]
theorem q6T {z:Nat->Int}{B:Bkk}(hi:i<B.m) (hj:j<i) (h0:B.r=B.c) (h:¬zl (B.A i j)=zl (B.A j i)):Qn z B=false:=by
 unfold Qn q4f;rw[show allB B.m (fun i=>allB i (fun j=>decide (zl (B.A i j)=zl (B.A j i))))=false from qL hi (qL hj (q_f h)),q_t h0]
 simp
theorem Wv {z:Nat->Int}{B:Bkk}(h1:(B.m:Int)=z B.r.toNat) (h2:∀i,i<B.m->(B.L i:Int)=z B.c.toNat) (h3:B.r=B.c->∀i,i<B.m->∀j,j<i->zl (B.A i j)=zl (B.A j i)):Qn z B=true:=by
 unfold Qn q4f;rw[q_t h1,qm.2 (fun i hi=>q_t (h2 i hi)),Bool.true_and,Bool.true_and]
 by_cases h0:B.r=B.c
 ·rw[qm.2 (fun i hi=>qm.2 fun j hj=>q_t (h3 h0 i hi j hj)),Bool.or_true]
 ·rw[q_f h0];rfl
theorem q5H {lo' hi':Nat}{Z:Sys}(h:jI N lo hi w v Z){B:Bkk}{cA:Nat}(hb:MtR N lo' hi' w (.slice A B.m cA) B.m B.L B.A) (h0:0<=B.c) (h1:B.c<=B.r) (h2:B.r<(Z.ns:Int)) (hcan:W9 B=true) (hsz:∀i,i<B.m->∀j,j<B.L i->Sz (zl (B.A i j))) :
  Calls Tryz.prog 80 #[v,.agg #[.int .i64 B.r,.int .i64 B.c,.slice A B.m cA]] w (zH w (.bool (Qn Z.z B))):=by
 obtain⟨A1,c1,A2,c2,A3,c3,rfl,s1,s2,s3,k1,-⟩:=h.parts;obtain⟨r,hr⟩:=qc (Qn Z.z B);rw[<-hr.out];have HI:=q_h s1;have HB:=q_h hb;have HCAN:=q_h hcan;have HSZ:=q_h hsz;obtain⟨br,hbr⟩:∃br:Nat,B.r=(br:Int):=⟨B.r.toNat,by omega⟩
 obtain⟨bc,hbc⟩:∃bc:Nat,B.c=(bc:Int):=⟨B.c.toNat,by omega⟩
 have hbrn:br<Z.ns:=by omega
 have hbcn:bc<Z.ns:=by omega
 have HT:Hid (B.r.toNat=br/\B.c.toNat=bc):=⟨by omega,by omega⟩
 obtain⟨-,-,A9,c9,hv9,hmc,hmm,-⟩:=hb;obtain⟨-,-,rfl⟩:A=A9/\B.m=B.m/\cA=c9:=by simpa using hv9
 clear hv9;unfold maxLen at hmm;have HRC:Hid (B.r=B.c↔br=bc):=by rw[Hid];omega
 rw[hbr,hbc];clear h s1 s2 s3 hcan hsz h0 h1 h2 hbr hbc;obtain⟨n,hn⟩:=qc Z.ns;rw[<-hn.out] at HI k1 hbrn hbcn;obtain⟨z,hz⟩:=qc Z.z;rw[<-hz.out] at HI hr;clear hz;obtain⟨ur,hur⟩:=qc (z br);obtain⟨uc,huc⟩:=qc (z bc);obtain⟨m,hm⟩:=qc B.m;rw[<-hm.out] at HB hmc;have hbr':(br:Int)<(n:Int):=by omega
 have hbc':(bc:Int)<(n:Int):=by omega
 obtain⟨bz,oz,rfl,hx⟩:=HI.out.addr (by omega);have p0:=hx br hbrn;have p1:=hx bc hbcn;rw[<-hur.out] at p0;rw[<-huc.out] at p1;have HP:=q_h (And.intro p0 p1);clear hx p0 p1;go_enter Tryz.func80,Tryz.ntmps80;go_upto_region 1 with (fail);refine kD ?_;intro w1 hE hsz B2 B3;rw[<-hn.out] at B2;obtain⟨g2,hg2⟩:=qc w.heap.size;rw[<-hg2.out] at B2 B3 ⊢;clear hg2 hsz;obtain⟨a0,a1,a2,-⟩:=cells3 B2;obtain⟨b0,b1,b2,-⟩:=cells3 B3;rw[<-hm.out] at b2;have p0:=hE.cell HP.out.1;refine yB [Mn.q (g2+1) 2,Mn.eq (.slice A m cA),Mn.i (m:Int),Mn.q g2 0,Mn.eq (.slice (some ⟨bz,oz,none⟩) n c1),Mn.q (g2+1) 0,Mn.i (br:Int),Mn.q bz (oz+br),Mn.i ur,Mn.t ((m:Int) != ur)] (sM [10,11,12,13,14,15,16,17,18,19]) [] (rQ 10 0) 0 (by kernel_rfl) ?_ ?_
 ·show ∀i,i<10->_
  iterate 10 refine fs ?_ ?_
  ·exact fz
  all_goals intro hl;clear hl;refine stp rfl ?_;intro ac wi eI hB hA K hK
  have o3:=oOf (hB 3) rfl;rotate_left;obtain⟨_,s10,rfl⟩:=hA 0 10;have cc0:=eI.cell b2;rotate_left;obtain⟨_,s11,rfl⟩:=hA 1 11;rotate_left;have o2:=oOf (hB 2) rfl;rotate_left;obtain⟨_,s13,rfl⟩:=hA 3 13;have cc0:=eI.cell a0;rotate_left;have o3:=oOf (hB 3) rfl;rotate_left;obtain⟨_,s15,rfl⟩:=hA 5 15;have cc0:=eI.cell b0;rotate_left;obtain⟨_,s14,rfl⟩:=hA 4 14;obtain⟨_,s16,rfl⟩:=hA 6 16;rotate_left;obtain⟨_,s17,rfl⟩:=hA 7 17;have cc0:=eI.cell p0;rotate_left;obtain⟨_,s12,rfl⟩:=hA 2 12;obtain⟨_,s18,rfl⟩:=hA 8 18;rotate_left
  all_goals clear hB hA;go_simp;exact q_k hK rfl
 intro vals wz eZ hJ;have J19:vals 9=_:=hJ 9 (by decide) (by decide);clear hJ;simp only[pr,Nat.reduceAdd,J19];clear J19;refine qg (by kernel_rfl) ?_ _;have hE1:=hE.trans eZ;replace B2:=eZ.block B2;replace B3:=eZ.block B3;clear a0 a1 a2 b0 b1 b2 p0 eZ hE;obtain⟨wA,hwA⟩:∃wA,wA=wz:=⟨_,rfl⟩
 subst hwA;obtain⟨a0,a1,a2,-⟩:=cells3 B2;obtain⟨b0,b1,b2,-⟩:=cells3 B3;rw[<-hm.out] at b2
 by_cases h1:(m:Int)=ur
 case neg =>
  have t1:((m:Int) != ur)=true:=by simpa using h1
  have HF:Hid (r=false):=by
   rw[Hid,hr.out];unfold Qn;rw[HT.out.1,<-hm.out,<-hur.out,q_f h1,Bool.false_and]
  clear h1;go_wp2;go_ret;exact⟨qB HF.out.symm,hE1⟩
 have t1:((m:Int) != ur)=false:=by simpa using h1
 have HM1:=q_h h1;clear h1;go_wp2_with fail
 go_loopw [23] (fun iv wr=>∃i:Nat,i<=m/\iv=.int .i64 (i:Int)/\Ext wA wr/\Hid (∀j,j<i->(B.L j:Int)=uc)) (fun iv _=>m-(intOf iv).toNat)
 case atStart=>exact⟨0,Nat.zero_le _,rfl,Ext.refl _,fun j hj=>absurd hj (Nat.not_lt_zero j)⟩
 case round =>
  obtain⟨i,hi,rfl,hE2,HL⟩:=hrel;clear a0 a1 a2 b0 b1 b2;obtain⟨a0,a1,a2,-⟩:=cells3 (hE2.block B2);obtain⟨b0,b1,b2,-⟩:=cells3 (hE2.block B3);rw[<-hm.out] at b2;have p1:=(hE1.trans hE2).cell HP.out.2
  by_cases hlt:i<m
  case pos =>
   have t2:decide ((i:Int)<(m:Int))=true:=q_t (by omega);have t3:(i:Int)<(m:Int):=by omega
   obtain⟨bb,ob,A',c',rfl,q0,-,hLi⟩:=Jb (HB.out.ext (hE1.trans hE2)) hlt;obtain⟨li,hli⟩:=qc (B.L i);rw[<-hli.out] at q0 hLi
   by_cases h2:(li:Int)=uc
   case neg =>
    have t4:((li:Int) != uc)=true:=by simpa using h2
    have HF:Hid (r=false):=by
     rw[Hid,hr.out];exact q6U (i:=i) (by rw[<-hm.out];exact hlt) (by rw[HT.out.2,<-huc.out,<-hli.out];exact h2)
    clear h2;go_wp2;go_ret;exact⟨qB HF.out.symm,hE1.trans hE2⟩
   have t4:((li:Int) != uc)=false:=by simpa using h2
   have HL2:Hid (∀j,j<i+1->(B.L j:Int)=uc):=fun j hj=>by
    by_cases hji:j=i
    ·rw[hji,<-hli.out];exact h2
    ·exact HL.out j (by omega)
   clear h2;go_wp2;go_roundw
   case rel=>exact⟨i+1,by omega,by go_num,hE2,HL2⟩
   case measure=>simp[intOf];omega
  have t2:decide ((i:Int)<(m:Int))=false:=q_f (by omega);have HLA:Hid (∀j,j<m->(B.L j:Int)=uc):=fun j hj=>HL.out j (by omega)
  clear HL p1;obtain⟨wB,hwB⟩:∃wB,wB=wr:=⟨_,rfl⟩
  subst hwB
  by_cases hrc:br=bc
  case neg =>
   have t5:((br:Int) != (bc:Int))=true:=by simp;omega
   have HF:Hid (r=true):=by
    rw[Hid,hr.out];exact Wv (by rw[HT.out.1,<-hm.out,<-hur.out];exact HM1.out) (fun j hj=>by rw[HT.out.2,<-huc.out];exact HLA.out j (by rw[hm.out];exact hj)) (fun h9=>absurd (HRC.out.1 h9) hrc)
   clear hrc;go_wp2;go_ret;exact⟨qB HF.out.symm,hE1.trans hE2⟩
  have t5:((br:Int) != (bc:Int))=false:=by simp[hrc]
  have HLM:Hid (∀j,j<m->B.L j=m):=fun j hj=>by
   have h1:=HLA.out j hj;rw[huc.out,<-hrc,<-hur.out,<-HM1.out] at h1;omega
  have HE12:=q_h (hE1.trans hE2);have HB2:=q_h (hE2.block B2);have HB3:=q_h (hE2.block B3)
  have HCR:Hid (∀i,i<m->∀j,j<m->B.A i j=raw (zl (B.A i j))):=fun i hi j hj=>by
   have h1:=qm.1 HCAN.out i (by rw[<-hm.out];exact hi);exact wu (qm.1 h1 j (by rw[HLM.out i hi];exact hj))
  have HSR:Hid (∀i,i<m->∀j,j<m->Sz (zl (B.A i j))):=fun i hi j hj=>HSZ.out i (by rw[<-hm.out];exact hi) j (by rw[HLM.out i hi];exact hj)
  have HRR:=q_h (HRC.out.2 hrc);clear hE1 hE2 B2 B3 HLA hrc hi;go_wp2_with fail
  go_loopw [45] (fun iv wr=>∃i:Nat,i<=m/\iv=.int .i64 (i:Int)/\Ext wB wr/\Hid (∀a,a<i->∀b,b<a->zl (B.A a b)=zl (B.A b a))) (fun iv _=>m-(intOf iv).toNat)
  case atStart=>exact⟨0,Nat.zero_le _,rfl,Ext.refl _,fun j hj=>absurd hj (Nat.not_lt_zero j)⟩
  case round =>
   obtain⟨i,hi,rfl,hE3,HA⟩:=hrel;clear a0 a1 a2 b0 b1 b2 t2;obtain⟨b0,b1,b2,-⟩:=cells3 (hE3.block HB3.out);rw[<-hm.out] at b2
   by_cases hlt:i<m
   case neg =>
    have t2:decide ((i:Int)<(m:Int))=false:=q_f (by omega)
    have HF:Hid (r=true):=by
     rw[Hid,hr.out]
     exact Wv (by rw[HT.out.1,<-hm.out,<-hur.out];exact HM1.out) (fun j hj=>by
      have h1:=HLM.out j (by rw[hm.out];exact hj);have h2:(m:Int)=ur:=HM1.out;have h3:br=bc:=HRC.out.1 HRR.out
      rw[h1,h2,hur.out,HT.out.2,h3]) (fun _ a ha b hb=>HA.out a (by rw[<-hm.out] at ha;omega) b hb)
    go_wp2;go_ret;exact⟨qB HF.out.symm,HE12.out.trans hE3⟩
   have t2:decide ((i:Int)<(m:Int))=true:=q_t (by omega);have t3:(i:Int)<(m:Int):=by omega
   obtain⟨bb,ob,Ai,ci,rfl,q0,hrow,-⟩:=Jb (HB.out.ext (HE12.out.trans hE3)) hlt;rw[HLM.out i hlt] at q0 hrow;have HROW:=q_h hrow;obtain⟨wq,hwq⟩:∃wq,wq=wr:=⟨_,rfl⟩
   subst hwq;clear hrow;go_wp2_with fail
   go_loopw [51] (fun jv wr=>∃j:Nat,j<=i/\jv=.int .i64 (j:Int)/\Ext wq wr/\Hid (∀b,b<j->zl (B.A i b)=zl (B.A b i))) (fun jv _=>i-(intOf jv).toNat)
   case atStart=>exact⟨0,Nat.zero_le _,rfl,Ext.refl _,fun j hj=>absurd hj (Nat.not_lt_zero j)⟩
   case round =>
    obtain⟨j,hj,rfl,hE4,HJ⟩:=hrel;clear b0 b1 b2 q0;obtain⟨b0,b1,b2,-⟩:=cells3 ((hE3.trans hE4).block HB3.out);rw[<-hm.out] at b2
    by_cases hlt2:j<i
    case neg =>
     have t6:decide ((j:Int)<(i:Int))=false:=q_f (by omega)
     have HA2:Hid (∀a,a<i+1->∀b,b<a->zl (B.A a b)=zl (B.A b a)):=fun a ha b hb=>by
      by_cases hai:a=i
      ·rw[hai];exact HJ.out b (by omega)
      ·exact HA.out a (by omega) b hb
     go_wp2;go_roundw
     case rel=>exact⟨i+1,by omega,by go_num,hE3.trans hE4,HA2⟩
     case measure=>simp[intOf];omega
    have t6:decide ((j:Int)<(i:Int))=true:=q_t (by omega);have t7:(j:Int)<(m:Int):=by omega
    have hjm:j<m:=by omega
    obtain⟨bb',ob',Aj,cj,hbb,q1,hrow2,-⟩:=Jb (HB.out.ext (HE12.out.trans (hE3.trans hE4))) hjm;simp only[Option.some.injEq,Addr.mk.injEq,and_true] at hbb;obtain⟨rfl,rfl⟩:=hbb;rw[HLM.out j hjm] at q1 hrow2;obtain⟨b1',o1',rfl,-,-,hx1⟩:=(HROW.out.ext hE4).addr (by omega);obtain⟨b2',o2',rfl,-,-,hx2⟩:=hrow2.addr (by omega);have h1:=hx1 j hjm;have h2:=hx2 i hlt;rw[HCR.out i hlt j hjm] at h1;rw[HCR.out j hjm i hlt] at h2;obtain⟨x,hx⟩:=qc (zl (B.A i j));obtain⟨y,hy⟩:=qc (zl (B.A j i));rw[<-hx.out] at h1;rw[<-hy.out] at h2;obtain⟨nx,A3,k3,c3',A4,k4,c4,p0,p1,p2,p3,hb1,g1,g3⟩:=h1.open;obtain⟨ny,A5,k5,c5,A6,k6,c6,r0,r1,r2,r3,hb2,g4,g5⟩:=h2.open;have hRp:qX N wr (.agg #[.bool nx,.slice A3 k3 c3',.bool false,.slice A4 k4 c4]) x:=qX.mk hb1 g1 g3;have hRr:qX N wr (.agg #[.bool ny,.slice A5 k5 c5,.bool false,.slice A6 k6 c6]) y:=qX.mk hb2 g4 g5;have HSX:Hid (Sz x/\Sz y):=⟨by rw[hx.out];exact HSR.out i hlt j hjm,by rw[hy.out];exact HSR.out j hjm i hlt⟩
    obtain⟨s,hs⟩:=qc (x.num*y.den-y.num*x.den).sign;obtain⟨wx,hwx⟩:∃wx,wx=wr:=⟨_,rfl⟩
    subst hwx;clear hx1 hx2 h1 h2 hb1 hb2 g1 g3 g4 g5 hrow2;go_upto_region 17 with (fail);refine yB [Mn.eq (.slice (some ⟨b1',o1',none⟩) m ci),Mn.i (j:Int),Mn.q (b1') (o1'+j*4),Mn.rat N (x),Mn.q (g2+1) 2,Mn.eq (.slice (some ⟨bb,ob,none⟩) m cA),Mn.i (j:Int),Mn.q bb (ob+j),Mn.eq (.slice (some ⟨b2',o2',none⟩) m cj),Mn.i (i:Int),Mn.q (b2') (o2'+i*4),Mn.rat N (y),Mn.i s,Mn.t (s != 0)] (sM [54,55,56,57,58,59,60,61,62,63,64,65,66,67]) [] (rQ 14 0) 0 (by kernel_rfl) ?_ ?_
    ·show ∀i,i<14->_
     iterate 14 refine fs ?_ ?_
     ·exact fz
     all_goals intro hl;clear hl;refine stp rfl ?_;intro ac wi eI hB hA K hK
     have o8:=oOf (hB 8) rfl;rotate_left;have o9:=oOf (hB 9) rfl;rotate_left;obtain⟨_,s54,rfl⟩:=hA 0 54;obtain⟨_,s55,rfl⟩:=hA 1 55;rotate_left;obtain⟨_,s56,rfl⟩:=hA 2 56;clear hB hA;have cc0:=eI.cell p0;have cc1:=eI.cell p1;have cc2:=eI.cell p2;have cc3:=eI.cell p3
     ·go_simp;exact q_k hK (hRp.ext eI)
     have o3:=oOf (hB 3) rfl;rotate_left;obtain⟨_,s58,rfl⟩:=hA 4 58;have cc0:=eI.cell b2;rotate_left;have o9:=oOf (hB 9) rfl;rotate_left;obtain⟨_,s59,rfl⟩:=hA 5 59;obtain⟨_,s60,rfl⟩:=hA 6 60;rotate_left;obtain⟨_,s61,rfl⟩:=hA 7 61;have cc0:=eI.cell q1;rotate_left;have o7:=oOf (hB 7) rfl;rotate_left;obtain⟨_,s62,rfl⟩:=hA 8 62;obtain⟨_,s63,rfl⟩:=hA 9 63;rotate_left;obtain⟨_,s64,rfl⟩:=hA 10 64;clear hB hA;have cc0:=eI.cell r0;have cc1:=eI.cell r1;have cc2:=eI.cell r2;have cc3:=eI.cell r3
     ·go_simp;exact q_k hK (hRr.ext eI)
     obtain⟨x57,s57,j57⟩:=hA 3 57;replace j57:Mn.p (Mn.rat N (x)) x57 wi:=j57;obtain⟨x65,s65,j65⟩:=hA 11 65;replace j65:Mn.p (Mn.rat N (y)) x65 wi:=j65;clear hB hA
     ·go_simp;refine (q3l j57 j65 HSX.out.1 HSX.out.2).mono ?_;rw[<-hs.out];rintro e wj ⟨rfl,ej⟩;go_wp2_with fail;exact hK.out _ _ ej rfl
     obtain⟨_,s66,rfl⟩:=hA 12 66;rotate_left
     all_goals clear hB hA;go_simp;exact q_k hK rfl
    intro vals wz eZ hJ;have J67:vals 13=_:=hJ 13 (by decide) (by decide);clear hJ;simp only[pr,Nat.reduceAdd,J67];clear J67;refine qg (by kernel_rfl) ?_ _;have hE5:=hE4.trans eZ;clear p0 p1 p2 p3 r0 r1 r2 r3 hRp hRr q1 b0 b1 b2 eZ
    by_cases h3:s=0
    case neg =>
     have t8:(s != 0)=true:=by simpa using h3
     have HF:Hid (r=false):=by
      rw[Hid,hr.out];exact q6T (i:=i) (j:=j) (by rw[<-hm.out];exact hlt) hlt2 HRR.out (fun h9=>h3 (by rw[hs.out];exact Xw.2 (by rw[hx.out,hy.out];exact h9)))
     clear h3;go_wp2;go_ret;exact⟨qB HF.out.symm,HE12.out.trans (hE3.trans hE5)⟩
    have t8:(s != 0)=false:=by simpa using h3
    have HJ2:Hid (∀b,b<j+1->zl (B.A i b)=zl (B.A b i)):=fun b hb=>by
     by_cases hbj:b=j
     ·rw[hbj,<-hx.out,<-hy.out];exact Xw.1 (by rw[<-hs.out];exact h3)
     ·exact HJ.out b (by omega)
    clear h3;go_wp2;go_roundw
    case rel=>exact⟨j+1,by omega,by go_num,hE5,HJ2⟩
    case measure=>simp[intOf];omega
def Vz (a b c d:Int):Int:=if Q4 a c≠0 then Q4 a c else Q4 b d
theorem q8N {a b c d:Int}:Vz a b c d<=0↔¬(c<a\/(c=a/\d<b)):=by
 unfold Vz Q4
 rcases Int.lt_trichotomy a c with h|h|h
 ·simp only[if_pos h]
  simp
  omega
 ·subst h;simp only[if_neg (show ¬a<a by omega),if_true]
  rcases Int.lt_trichotomy b d with h|h|h
  ·simp[if_pos h];omega
  ·subst h
   simp
  ·simp[if_neg (show ¬b<d by omega),if_neg (show ¬b=d by omega)]
   omega
 ·simp only[if_neg (show ¬a<c by omega),if_neg (show ¬a=c by omega)]
  simp
  omega
theorem q1P{g':Nat}{a b c d:Int}(p0:w.cell? ⟨g,0,none⟩=some (.int .i64 a)) (p1:w.cell? ⟨g,1,none⟩=some (.int .i64 b)) (q0:w.cell? ⟨g',0,none⟩=some (.int .i64 c)) (q1:w.cell? ⟨g',1,none⟩=some (.int .i64 d)) :
  Calls Tryz.prog 63 #[.slice (some ⟨g,0,none⟩) 2 2,.slice (some ⟨g',0,none⟩) 2 2] w (zH w (.int .i64 (Vz a b c d))):=by
 obtain⟨s,hs⟩:=qc (Q4 a c);obtain⟨t,ht⟩:=qc (Q4 b d);obtain⟨r,hr⟩:=qc (Vz a b c d);rw[<-hr.out];have H1:Hid (s≠0->r=s):=fun h=>by rw[hr.out];unfold Vz;rw[if_pos (by rw[<-hs.out];exact h),hs.out]
 have H2:Hid (s=0->r=t):=fun h=>by rw[hr.out];unfold Vz;rw[if_neg (by rw[<-hs.out];omega),ht.out]
 clear hr;go_enter Tryz.func63,Tryz.ntmps63;go_wp2_with fail
 go_loopw [11] (fun iv wr=>∃i:Nat,i<=2/\iv=.int .i64 (i:Int)/\Hid (1<=i->s=0)/\Hid (i=2->t=0)/\Hid (w=wr)) (fun iv _=>2-(intOf iv).toNat)
 case atStart=>exact⟨0,Nat.zero_le _,rfl,fun h=>by omega,fun h=>by omega,rfl⟩
 case round =>
  obtain⟨i,hi,rfl,HS,HT,HW⟩:=hrel;have hw:=HW.out;subst hw;clear HW
  rcases (by omega:i=0\/i=1\/i=2) with rfl|rfl|rfl
  ·by_cases h:s=0
   ·have t1:(s != 0)=false:=by simpa using h
    have HS2:Hid (s=0):=h;clear h HS HT;go_wp2_with (go_at_call 112;refine (QC _ _ _).mono ?_;rw[<-hs.out];rintro e w' ⟨rfl,rfl⟩);go_roundw
    case rel=>exact⟨1,by omega,by go_num,fun _=>HS2.out,fun h=>by omega,by first|rfl|trivial⟩
    case measure=>simp[intOf]
   ·have t1:(s != 0)=true:=by simpa using h
    obtain rfl:r=s:=H1.out h;clear h HS HT;go_wp2_with (go_at_call 112;refine (QC _ _ _).mono ?_;rw[<-hs.out];rintro e w' ⟨rfl,rfl⟩);go_ret;exact⟨rfl,Ext.refl _⟩
  ·obtain rfl:r=t:=H2.out (HS.out (q_r))
   by_cases h:r=0
   ·have t1:(r != 0)=false:=by simpa using h
    have HT2:Hid (r=0):=h;have HS2:Hid (s=0):=HS.out (by omega);clear h HS HT;go_wp2_with (go_at_call 112;refine (QC _ _ _).mono ?_;rw[<-ht.out];rintro e w' ⟨rfl,rfl⟩);go_roundw
    case rel=>exact⟨2,by omega,by go_num,fun _=>HS2.out,fun _=>HT2.out,by first|rfl|trivial⟩
    case measure=>simp[intOf]
   ·have t1:(r != 0)=true:=by simpa using h
    clear h HS HT;go_wp2_with (go_at_call 112;refine (QC _ _ _).mono ?_;rw[<-ht.out];rintro e w' ⟨rfl,rfl⟩);go_ret;exact⟨rfl,Ext.refl _⟩
  ·obtain rfl:r=t:=H2.out (HS.out (by omega));obtain rfl:r=0:=HT.out rfl;go_wp2;go_ret;exact⟨rfl,Ext.refl _⟩
def q6C (B:Bkk):Prop:=∀a,a<B.m->∀c,c<B.L a->jJ (B.A a c)/\Sz (zl (B.A a c))
theorem q8f.box{o:Nat}{B:Bkk}(h:q8f N lo hi w b o B):∃(A:Option Addr) (c:Nat),w.cell? ⟨b,o,none⟩=some (.int .i64 B.r)/\w.cell? ⟨b,o+1,none⟩=some (.int .i64 B.c)/\w.cell? ⟨b,o+2,none⟩=some (.slice A B.m c)/\MtR N lo hi w (.slice A B.m c) B.m B.L B.A/\B.m<=9223372036854775807:=by
 obtain⟨h0,h1,A,c,h2,h3⟩:=h;refine⟨A,c,h0,h1,h2,h3,?_⟩;obtain⟨-,-,A9,c9,hv,h4,h5,-⟩:=h3;simp only[Value.slice.injEq] at hv;unfold maxLen at h5;omega
theorem q9a {Z:Sys}(h:(Z.b i).c<0\/(Z.b i).r<(Z.b i).c\/(Z.ns:Int)<=(Z.b i).r):bkC Z i=2:=by
 unfold bkC;rw[if_pos h]
theorem q99 {Z:Sys}(h:¬((Z.b i).c<0\/(Z.b i).r<(Z.b i).c\/(Z.ns:Int)<=(Z.b i).r)) (h':Qn Z.z (Z.b i)=false):bkC Z i=4:=by
 unfold bkC;rw[if_neg h,if_pos h']
theorem YW {B C:Bkk}:Wh B C=false↔¬(B.r<C.r\/(B.r=C.r/\B.c<C.c)):=by
 unfold Wh;rw[Bool.or_eq_false_iff,Bool.and_eq_false_iff,decide_eq_false_iff_not,decide_eq_false_iff_not,decide_eq_false_iff_not];omega
theorem q6p {Z:Sys}{lr lc:Int}(h:¬((Z.b i).c<0\/(Z.b i).r<(Z.b i).c\/(Z.ns:Int)<=(Z.b i).r)) (h':Qn Z.z (Z.b i)=true) (h0:i=0->lr = -1/\lc = -1) (h1:0<i->lr=(Z.b (i-1)).r/\lc=(Z.b (i-1)).c) :
  (Vz (Z.b i).r (Z.b i).c lr lc<=0->bkC Z i=5)/\(¬Vz (Z.b i).r (Z.b i).c lr lc<=0->bkC Z i=0):=by
 unfold bkC;rw[if_neg h,if_neg (by rw[h'];decide),q8N]
 rcases Nat.eq_zero_or_pos i with hi|hi
 ·obtain⟨rfl,rfl⟩:=h0 hi;subst hi
  constructor
  ·intro h9;exact absurd (by omega) h9
  ·intro h9;rw[if_neg (by omega)]
 ·obtain⟨rfl,rfl⟩:=h1 hi
  constructor
  ·intro h9;rw[if_pos ⟨hi,YW.2 h9⟩]
  ·intro h9;rw[if_neg (fun h8=>h9 (YW.1 h8.2))]
theorem JI{Z:Sys}(h:jI N lo hi w v Z) (hB:∀i,i<Z.nb->q6C (Z.b i)) (hK:∀i,i<Z.k->jJ (Z.R i)) :
  Calls Tryz.prog 34 #[v] w (zH w (.int .i64 (vH Z))):=by
 have HS:=q_h h;have HSZ:=q_h hB;have HKZ:=q_h hK;obtain⟨A1,c1,A2,c2,A3,c3,rfl,s1,s2,s3,k1,k2,k3⟩:=h.parts;have HI:=q_h s1;have HB:=q_h s2;have HL:=q_h s3;obtain⟨r,hr⟩:=qc (vH Z);rw[<-hr.out];have F1:Hid (Kt Z=false->r=1):=fun h=>by rw[hr.out];unfold vH;rw[if_pos h]
 have F3:Hid (Kt Z=true->Zo Z=false->r=3):=fun h h'=>by rw[hr.out];unfold vH;rw[if_neg (by rw[h];decide),if_pos h']
 have F2:Hid (Kt Z=true->Zo Z=true->∀i,i<Z.nb->(∀j,j<i->bkC Z j=0)->bkC Z i≠0->r=bkC Z i):=fun h h' i hi hj h0=>by
  have e:=ZM hi hj h0;rw[hr.out];unfold vH;rw[if_neg (by rw[h];decide),if_neg (by rw[h'];decide),if_pos (by rw[e];exact h0),e]
 have F0:Hid (Kt Z=true->Zo Z=true->(∀i,i<Z.nb->bkC Z i=0)->r=if (Z.k:Int)=jK Z.z Z.ns then 0 else 4):=fun h h' hi=>by
  rw[hr.out];unfold vH;rw[if_neg (by rw[h];decide),if_neg (by rw[h'];decide),if_neg (by rw[jk hi];decide)]
 clear h s1 s2 s3 hr hB hK;obtain⟨n,hn⟩:=qc Z.nb;rw[<-hn.out] at k2;obtain⟨ns,hns⟩:=qc Z.ns;obtain⟨kk,hkk⟩:=qc Z.k;rw[<-hkk.out] at k3;go_enter Tryz.func34,Tryz.ntmps34;go_upto_region 1 with (fail);refine qo ?_;intro w1 hE hsz B0;rw[<-hn.out,<-hns.out,<-hkk.out] at B0;obtain⟨g1,hg1⟩:=qc w.heap.size;have hg1':w.heap.size<=g1:=by rw[hg1.out];exact q_r
 have hg1s:g1<w1.heap.size:=by rw[hg1.out];omega
 rw[<-hg1.out] at B0 ⊢;clear hg1 hsz;obtain⟨a0,a1,a2,-⟩:=cells3 B0;go_wp2_with fail
 go_loopw [15] (fun iv wr=>∃i:Nat,i<=n/\iv=.int .i64 (i:Int)/\Ext w1 wr/\Hid (∀j,j<i->W9 (Z.b j)=true)) (fun iv _=>n-(intOf iv).toNat)
 case atStart=>exact⟨0,Nat.zero_le _,rfl,Ext.refl _,fun j hj=>absurd hj (Nat.not_lt_zero j)⟩
 case round =>
  obtain⟨i,hi,rfl,hE1,HC⟩:=hrel;clear a0 a1 a2;obtain⟨a0,a1,a2,-⟩:=cells3 (hE1.block B0)
  by_cases hlt:i<n
  case pos =>
   have t1:decide ((i:Int)<(n:Int))=true:=q_t (by omega);have t2:(i:Int)<(n:Int):=by omega
   have HBi:=(HB.out.ext (hE.trans hE1))
   rw[<-hn.out] at HBi;obtain⟨b,off,rfl,hx⟩:=HBi.addr (by omega);obtain⟨Ab,cb,p0,p1,p2,hM,hm9⟩:=(hx i hlt).box;have HM:=q_h hM;obtain⟨m,hm⟩:=qc (Z.b i).m;rw[<-hm.out] at p2 hm9 HM;obtain⟨br,hbr⟩:=qc (Z.b i).r;obtain⟨bc,hbc⟩:=qc (Z.b i).c;rw[<-hbr.out] at p0;rw[<-hbc.out] at p1;clear hx hM HBi;go_upto_region 4 with (fail);refine qo ?_;intro w3 e3 hsz3 B3;clear p0 p1 p2 a0 a1 a2;obtain⟨b0,b1,b2,-⟩:=cells3 B3;have hE3:=hE1.trans e3;obtain⟨ws,hws⟩:∃ws,ws=w3:=⟨_,rfl⟩
   subst hws;go_wp2_with fail
   go_loopw [22] (fun jv wr=>∃j:Nat,j<=m/\jv=.int .i64 (j:Int)/\Ext ws wr/\Hid (∀q,q<j->allB ((Z.b i).L q) (fun c=>okR ((Z.b i).A q c))=true)) (fun jv _=>m-(intOf jv).toNat)
   case atStart=>exact⟨0,Nat.zero_le _,rfl,Ext.refl _,fun j hj=>absurd hj (Nat.not_lt_zero j)⟩
   case round =>
    obtain⟨j,hj,rfl,hE4,HQ⟩:=hrel;clear b0 b1 b2
    by_cases hlt2:j<m
    case neg =>
     have t3:decide ((j:Int)<(m:Int))=false:=q_f (by omega)
     have HC2:Hid (∀j,j<i+1->W9 (Z.b j)=true):=fun q hq=>by
      by_cases hqi:q=i
      ·subst hqi;unfold W9;rw[qm];intro a ha;exact HQ.out a (by have:=hm.out;omega)
      ·exact HC.out q (by omega)
     have hE5:=hE3.trans hE4;go_wp2;go_roundw
     case rel=>exact⟨i+1,by omega,by go_num,hE5,HC2⟩
     case measure=>simp[intOf];omega
    have t3:decide ((j:Int)<(m:Int))=true:=q_t (by omega);have t4:(j:Int)<(m:Int):=by omega
    obtain⟨bb,ob,A',c',rfl,q0,hrow,hLj⟩:=Jb (HM.out.ext (e3.trans hE4)) hlt2;have HROW:=q_h hrow;have HRZ:Hid (∀c,c<(Z.b i).L j->jJ ((Z.b i).A j c)):=fun c hc=>(HSZ.out i (by rw[<-hn.out];exact hlt) j (by rw[<-hm.out];exact hlt2) c hc).1
    have HCAN:=q_h (ZY hrow HRZ.out);obtain⟨lj,hlj⟩:=qc ((Z.b i).L j);obtain⟨o,ho⟩:=qc (allB ((Z.b i).L j) (fun c=>okR ((Z.b i).A j c)));rw[<-ho.out,<-hlj.out] at HCAN;rw[<-hlj.out] at q0 hLj;clear hrow;go_wp2_with (go_at_call 78;refine q_o ?_);refine (HCAN.out).mono ?_;rintro e w6 ⟨rfl,e6⟩;cases o with
    | true =>
     have HQ2:Hid (∀q,q<j+1->allB ((Z.b i).L q) (fun c=>okR ((Z.b i).A q c))=true):=fun q hq=>by
      by_cases hqj:q=j
      ·rw[hqj];exact ho.out.symm
      ·exact HQ.out q (by omega)
     have hE6:=hE4.trans e6;clear q0;go_wp2;go_roundw
     case rel=>exact⟨j+1,by omega,by go_num,hE6,HQ2⟩
     case measure=>simp[intOf];omega
    | false =>
     have HR:Hid (r=1):=F1.out (by
      unfold Kt;have:W9 (Z.b i)=false:=qL (i:=j) (by rw[<-hm.out];exact hlt2) ho.out.symm
      rw[qL (i:=i) (by rw[<-hn.out];exact hlt) this,Bool.false_and])
     have hE6:=(hE.trans hE3).trans (hE4.trans e6);clear q0;go_wp2;go_ret;exact⟨qJ HR.out.symm,hE6⟩
  have t1:decide ((i:Int)<(n:Int))=false:=q_f (by omega);have hE2:=hE.trans hE1;have HCB:Hid (∀j,j<n->W9 (Z.b j)=true):=fun j hj=>HC.out j (by omega)
  replace B0:=hE1.block B0;have hgs:=Nat.lt_of_lt_of_le hg1s hE1.size;obtain⟨wA,hwA⟩:∃wA,wA=wr:=⟨_,rfl⟩
  subst hwA;have HCR:=q_h (ZY (HL.out.ext hE2) HKZ.out);obtain⟨o,ho⟩:=qc (allB Z.k (fun i=>okR (Z.R i)));rw[<-ho.out,<-hkk.out] at HCR
  have HCS:Hid (Kt Z=o):=by
   rw[Hid,ho.out];unfold Kt;rw[qm.2 (fun j hj=>HCB.out j (by rw[hn.out];exact hj)),Bool.true_and]
  clear HC hE hE1;go_wp2_with (go_at_call 78;refine q_o ?_);refine (HCR.out).mono ?_;rintro e w6 ⟨rfl,e6⟩;have hE6:=hE2.trans e6;cases o with
  | false =>
   have HR:Hid (r=1):=F1.out HCS.out;go_wp2;go_ret;exact⟨qJ HR.out.symm,hE6⟩
  | true =>
  clear a0 a1 a2 HCR;replace B0:=e6.block B0;replace hgs:=Nat.lt_of_lt_of_le hgs e6.size;obtain⟨a0,a1,a2,-⟩:=cells3 B0;have HZS:=q_h (q81 (HS.out.ext hE6));rw[<-hns.out,<-hn.out,<-hkk.out] at HZS;obtain⟨sb,hsb⟩:=qc (Zo Z);rw[<-hsb.out] at HZS;obtain⟨q,hq⟩:=qc (if sb=true then (0:Int) else 3);rw[<-hq.out] at HZS;go_wp2_with (go_at_call 79;refine q_o ?_);refine (HZS.out).mono ?_;rintro e w7 ⟨rfl,e7⟩;replace hE6:=hE6.trans e7;replace B0:=e7.block B0;replace hgs:=Nat.lt_of_lt_of_le hgs e7.size;clear a0 a1 a2 HZS;cases sb with
  | false =>
   obtain rfl:q=3:=hq.out;have HR:Hid (r=3):=F3.out HCS.out hsb.out.symm;go_wp2;go_ret;exact⟨qJ HR.out.symm,hE6⟩
  | true =>
  obtain rfl:q=0:=hq.out;clear hq;go_upto_region 17 with (fail);refine qo ?_;intro w8 e8 hsz8 B8;obtain⟨g8,hg8⟩:=qc w7.heap.size;have hg8':w.heap.size<=g8:=by have:=hE6.size;rw[hg8.out];omega
  have hg81:g1<g8:=by rw[hg8.out];exact hgs
  have hg8s:g8<w8.heap.size:=by rw[hg8.out];omega
  rw[<-hg8.out] at B8 ⊢;replace hE6:=hE6.trans e8;replace B0:=e8.block B0;clear hg8 hsz8 hgs e8 e7 e6 hE2 hg1s;obtain⟨a0,a1,a2,-⟩:=cells3 B0;go_wp2_with fail
  go_loopw [44] (fun iv wr=>∃(i:Nat) (lr lc:Int),i<=n/\iv=.int .i64 (i:Int)/\Ext w wr/\Hid (wr.heap[g1]?=some (.cells #[.slice A1 ns c1,.slice A2 n c2,.slice A3 kk c3] 41 (0,0)))/\Hid (wr.heap[g8]?=some (.cells #[.int .i64 lr,.int .i64 lc] 64 (0,0)))/\g8<wr.heap.size/\Hid (i=0->lr = -1/\lc = -1)/\Hid (0<i->lr=(Z.b (i-1)).r/\lc=(Z.b (i-1)).c)/\Hid (∀j,j<i->bkC Z j=0)) (fun iv _=>n-(intOf iv).toNat)
  case atStart=>exact⟨0,-1,-1,Nat.zero_le _,rfl,hE6,B0,B8,hg8s,fun _=>⟨rfl,rfl⟩,fun h=>absurd h (by omega),fun j hj=>absurd hj (Nat.not_lt_zero j)⟩
  case round =>
   clear a0 a1 a2 B0 B8 hg8s hE6 hi hlt t1;obtain⟨i,lr,lc,hi,rfl,hE1,HB0,HB8,hg8s,HL0,HL1,HC⟩:=hrel
   by_cases hlt:i<n
   case neg =>
    have t1:decide ((i:Int)<(n:Int))=false:=q_f (by omega);have HR:=q_h (F0.out HCS.out hsb.out.symm (fun j hj=>HC.out j (by have:=hn.out;omega)));have B0:=HB0.out;obtain⟨a0,a1,a2,-⟩:=cells3 B0;obtain⟨T,hT⟩:=qc (jK Z.z Z.ns)
    have HSZB:Hid (Z.ns<=12/\∀i,i<Z.ns->sz1 (Z.z i)=true):=by
     have h9:=hsb.out.symm;unfold Zo at h9;simp only[Bool.and_eq_true,decide_eq_true_eq] at h9;exact⟨h9.1.2,qm.1 h9.2.1⟩
    rw[<-hT.out,<-hkk.out] at HR
    have HTT:Hid (∀w',Ext wr w'->Calls Tryz.prog 81 #[.agg #[.slice A1 ns c1,.slice A2 n c2,.slice A3 kk c3]] w' (zH w' (.int .i64 T))):=fun w' e=>by
     rw[hns.out,hn.out,hkk.out,hT.out];exact q3U (HS.out.ext (hE1.trans e)) HSZB.out.1 HSZB.out.2
    obtain⟨wx,hwx⟩:∃wx,wx=wr:=⟨_,rfl⟩
    subst hwx;clear B0;go_upto_region 29 with (fail);refine yB [Mn.q g1 2,Mn.eq (.slice A3 kk c3),Mn.i (kk:Int),Mn.eq (.agg #[.slice A1 ns c1,.slice A2 n c2,.slice A3 kk c3]),Mn.i T,Mn.t ((kk:Int) != T)] (sM [84,85,86,87,88,89]) [] (rQ 6 0) 0 (by kernel_rfl) ?_ ?_
    ·show ∀i,i<6->_
     iterate 6 refine fs ?_ ?_
     ·exact fz
     all_goals intro hl;clear hl;refine stp rfl ?_;intro ac wi eI hB hA K hK
     have o1:=oOf (hB 1) rfl;rotate_left;obtain⟨_,s84,rfl⟩:=hA 0 84;have cc0:=eI.cell a2;rotate_left;obtain⟨_,s85,rfl⟩:=hA 1 85;rotate_left;have o1:=oOf (hB 1) rfl;have cc0:=eI.cell a0;have cc1:=eI.cell a1;have cc2:=eI.cell a2;rotate_left;obtain⟨_,s87,rfl⟩:=hA 3 87;clear hB hA
     ·go_simp;refine (HTT.out _ eI).mono ?_;rintro e wj ⟨rfl,ej⟩;go_wp2_with fail;exact hK.out _ _ ej rfl
     obtain⟨_,s86,rfl⟩:=hA 2 86;obtain⟨_,s88,rfl⟩:=hA 4 88;rotate_left
     all_goals clear hB hA;go_simp;exact q_k hK rfl
    intro vals wz eZ hJ;have J89:vals 5=_:=hJ 5 (by decide) (by decide);clear hJ;simp only[pr,Nat.reduceAdd,J89];clear J89;refine qg (by kernel_rfl) ?_ _;have hE2:=hE1.trans eZ;clear a0 a1 a2 eZ
    by_cases h:(kk:Int)=T
    ·have t2:((kk:Int) != T)=false:=by simpa using h
     obtain rfl:r=0:=by rw[HR.out,if_pos h]
     clear h;go_wp2;go_ret;exact⟨rfl,hE2⟩
    ·have t2:((kk:Int) != T)=true:=by simpa using h
     obtain rfl:r=4:=by rw[HR.out,if_neg h]
     clear h;go_wp2;go_ret;exact⟨rfl,hE2⟩
   have t1:decide ((i:Int)<(n:Int))=true:=q_t (by omega);have t2:(i:Int)<(n:Int):=by omega
   have HBi:=HB.out.ext hE1;rw[<-hn.out] at HBi;obtain⟨b,off,rfl,hx⟩:=HBi.addr (by omega);obtain⟨Ab,cb,p0,p1,p2,hM,hm9⟩:=(hx i hlt).box;have HM:=q_h hM;obtain⟨m,hm⟩:=qc (Z.b i).m;rw[<-hm.out] at p2 hm9;obtain⟨br,hbr⟩:=qc (Z.b i).r;obtain⟨bc,hbc⟩:=qc (Z.b i).c;rw[<-hbr.out] at p0;rw[<-hbc.out] at p1;have F2i:Hid (bkC Z i≠0->r=bkC Z i):=fun h=>F2.out HCS.out hsb.out.symm i (by rw[<-hn.out];exact hlt) HC.out h
   have F5:Hid (bc<0\/br<bc\/(ns:Int)<=br->r=2):=fun h=>by
    have e:=q9a (Z:=Z) (i:=i) (by rw[<-hbr.out,<-hbc.out,<-hns.out];exact h);rw[F2i.out (by rw[e];decide),e]
   have F6:Hid (¬(bc<0\/br<bc\/(ns:Int)<=br)->Qn Z.z (Z.b i)=false->r=4):=fun h h'=>by
    have e:=q99 (Z:=Z) (i:=i) (by rw[<-hbr.out,<-hbc.out,<-hns.out];exact h) h';rw[F2i.out (by rw[e];decide),e]
   have F7:Hid (¬(bc<0\/br<bc\/(ns:Int)<=br)->Qn Z.z (Z.b i)=true->Vz br bc lr lc<=0->r=5):=fun h h' h9=>by
    have e:=(q6p (Z:=Z) (i:=i) (lr:=lr) (lc:=lc) (by rw[<-hbr.out,<-hbc.out,<-hns.out];exact h) h' HL0.out HL1.out).1 (by rw[<-hbr.out,<-hbc.out];exact h9);rw[F2i.out (by rw[e];decide),e]
   have F8:Hid (¬(bc<0\/br<bc\/(ns:Int)<=br)->Qn Z.z (Z.b i)=true->¬Vz br bc lr lc<=0->bkC Z i=0):=fun h h' h9 =>
    (q6p (Z:=Z) (i:=i) (lr:=lr) (lc:=lc) (by rw[<-hbr.out,<-hbc.out,<-hns.out];exact h) h' HL0.out HL1.out).2 (by rw[<-hbr.out,<-hbc.out];exact h9)
   clear hx hM HBi;go_upto_region 20 with (fail);refine qo ?_;intro w3 e3 hsz3 B3;obtain⟨g3,hg3⟩:=qc wr.heap.size;rw[<-hg3.out] at B3 ⊢;have hg83:g8<g3:=by rw[hg3.out];exact hg8s
   clear p0 p1 p2;obtain⟨b0,b1,b2,-⟩:=cells3 B3;have hs3:g3<w3.heap.size:=by rw[hg3.out];omega
   go_upto_region 21 with (fail);refine qo ?_;intro w4 e4 hsz4 B4;obtain⟨g4,hg4⟩:=qc w3.heap.size;rw[<-hg4.out] at B4 ⊢;have hg84:g8<g4:=by rw[hg4.out];omega
   clear b0 b1 b2;obtain⟨b0,b1,b2,-⟩:=cells3 (e4.block B3);replace e3:=e3.trans e4;have hE3:=hE1.trans e3;clear hg3 hg4 hsz3 hsz4 hs3 B3
   by_cases c0:bc<0
   ·have t3:decide (bc<0)=true:=decide_eq_true c0;have HR:Hid (r=2):=F5.out (.inl c0);clear c0;go_wp2;go_ret;exact⟨qJ HR.out.symm,hE3⟩
   have t3:decide (bc<0)=false:=decide_eq_false c0
   by_cases c1:br<bc
   ·have t4:decide (br<bc)=true:=decide_eq_true c1;have HR:Hid (r=2):=F5.out (.inr (.inl c1));clear c0 c1;go_wp2;go_ret;exact⟨qJ HR.out.symm,hE3⟩
   have t4:decide (br<bc)=false:=decide_eq_false c1;have B0:=e3.block HB0.out;obtain⟨a0,a1,a2,-⟩:=cells3 B0
   by_cases c2:(ns:Int)<=br
   ·have t5:decide ((ns:Int)<=br)=true:=decide_eq_true c2;have HR:Hid (r=2):=F5.out (.inr (.inr c2));clear c0 c1 c2;go_wp2;go_ret;exact⟨qJ HR.out.symm,hE3⟩
   have t5:decide ((ns:Int)<=br)=false:=decide_eq_false c2;have HNB:Hid (¬(bc<0\/br<bc\/(ns:Int)<=br)):=by rw[Hid];omega
   have HIN:Hid (0<=(Z.b i).c/\(Z.b i).c<=(Z.b i).r/\(Z.b i).r<(Z.ns:Int)):=by rw[Hid,<-hbr.out,<-hbc.out,<-hns.out];omega
   have HIB:Hid (i<Z.nb):=by rw[Hid,<-hn.out];exact hlt
   have HSH:=q_h (q5H (HS.out.ext hE3) (HM.out.ext e3) HIN.out.1 HIN.out.2.1 HIN.out.2.2 (HCB.out i hlt) (fun a ha c hc=>(HSZ.out i HIB.out a ha c hc).2));rw[<-hns.out,<-hn.out,<-hkk.out,<-hm.out,<-hbr.out,<-hbc.out] at HSH;obtain⟨o,ho⟩:=qc (Qn Z.z (Z.b i));rw[<-ho.out] at HSH;clear c0 c1 c2;go_upto_region 23 with (fail);go_wp2_with (go_at_call 80;refine q_o ?_);refine (HSH.out).mono ?_;rintro e w5 ⟨rfl,e5⟩;have hE5:=hE3.trans e5;cases o with
   | false =>
    have HR:Hid (r=4):=F6.out HNB.out ho.out.symm;go_wp2;go_ret;exact⟨qJ HR.out.symm,hE5⟩
   | true =>
   clear HSH a0 a1 a2 b0 b1 b2;replace e3:=e3.trans e5;have B0:=e3.block HB0.out;have B8:=e3.block HB8.out;replace B4:=e5.block B4;have hs5:=e3.size;go_upto_region 25 with (fail);obtain⟨q0,q1,q2,q3⟩:=cells2 B8;obtain⟨p0,p1,-⟩:=cells2 B4;obtain⟨s,hs⟩:=qc (Vz br bc lr lc);obtain⟨wx,hwx⟩:∃wx,wx=w5:=⟨_,rfl⟩
   subst hwx;refine yB [Mn.eq (.slice (some ⟨g4,0,none⟩) 2 2),Mn.eq (.slice (some ⟨g8,0,none⟩) 2 2),Mn.i s,Mn.t (decide (s<=0)),Mn.t (decide (s<=0))] (sM [78,79,80,81,77]) [] (rQ 5 0) 0 (by kernel_rfl) ?_ ?_
   ·show ∀i,i<5->_
    iterate 5 refine fs ?_ ?_
    ·exact fz
    all_goals intro hl;clear hl;refine stp rfl ?_;intro ac wi eI hB hA K hK
    have o11:=oOf (hB 11) rfl;rotate_left;have o8:=oOf (hB 8) rfl;rotate_left;obtain⟨_,s78,rfl⟩:=hA 0 78;obtain⟨_,s79,rfl⟩:=hA 1 79;clear hB hA
    ·go_simp;refine (q1P (eI.cell p0) (eI.cell p1) (eI.cell q0) (eI.cell q1)).mono ?_;rw[<-hs.out];rintro e wj ⟨rfl,ej⟩;go_wp2_with fail;exact hK.out _ _ ej rfl
    obtain⟨_,s80,rfl⟩:=hA 2 80;rotate_left;obtain⟨_,s81,rfl⟩:=hA 3 81;rotate_left
    all_goals clear hB hA;go_simp;exact q_k hK rfl
   intro vals wz eZ hJ;have J77:vals 4=_:=hJ 4 (by decide) (by decide);clear hJ;simp only[pr,Nat.reduceAdd,J77];clear J77;refine qg (by kernel_rfl) ?_ _;have hE6:=hE5.trans eZ
   by_cases h5:s<=0
   ·rw[q_t h5];have HR:Hid (r=5):=F7.out HNB.out ho.out.symm (by rw[<-hs.out];exact h5);clear h5;go_wp2;go_ret;exact⟨qJ HR.out.symm,hE6⟩
   rw[q_f h5];have HZ0:Hid (bkC Z i=0):=F8.out HNB.out ho.out.symm (by rw[<-hs.out];omega)
   have HCN:Hid (∀j,j<i+1->bkC Z j=0):=fun j hj=>by
    by_cases hji:j=i
    ·rw[hji];exact HZ0.out
    ·exact HC.out j (by omega)
   clear h5 p0 p1 q0 q1 q2 q3;replace B0:=eZ.block B0;replace B8:=eZ.block B8;obtain⟨p0,p1,-⟩:=cells2 (eZ.block B4);obtain⟨q0,q1,q2,q3⟩:=cells2 B8;have hsz9:wr.heap.size<=wz.heap.size:=(e3.trans eZ).size;go_upto_region 28 with (fail);refine upd2 B8 ?_;intro w9 B9 U9;have hE9:=U9.ext hE6 hg8';have B09:=U9.blk B0 (by omega);have hs9:=U9.size;have HL8:Hid (0<i+1->br=(Z.b (i+1-1)).r/\bc=(Z.b (i+1-1)).c):=fun _=>⟨hbr.out,hbc.out⟩
   clear p0 p1 q0 q1 q2 q3 B8 B0 B4 U9;go_wp2;go_roundw
   case rel=>exact⟨i+1,br,bc,by omega,by go_num,hE9,B09,B9,by omega,fun h=>by omega,HL8.out,HCN⟩
   case measure=>simp[intOf];omega
theorem q7d:One 29 (.slice none 0 0) 24:=⟨by kernel_rfl,rfl,by omega,by decide⟩
theorem q8G:29≠119:=by decide
theorem q7i:35≠119:=by decide
theorem StM.far {B0 B1 l u:Nat}{bz oz gm gr:Nat}{z:Nat->Nat}{F:Nat->Nat->Nat->Nat->Rat}{R:q_m}(h:StM N B0 B1 w bz oz gm gr m z F R) (C:Chg l u w w') (hl:B0<=l) (hu:u<=B1) (h1:gm<l\/u<=gm) (h2:gr<l\/u<=gr):StM N B0 B1 w' bz oz gm gr m z F R:=by
 obtain⟨⟨s1,s2⟩,⟨l',h3,h4⟩,⟨cs,h5,h6⟩,h7,h8,h9,h10⟩:=h;refine⟨⟨s1,fun a ha=>C.cell (s2 a ha) (by show bz<l\/u<=bz;omega)⟩,⟨l',?_,fun r c hc hr=>(h4 r c hc hr).chg C (by omega) hl hu⟩,⟨cs,C.blk h5 h2,fun i hi=>?_⟩,h7,h8,h9,q_l h10 C.size⟩
 ·obtain⟨es,q,h11,h12⟩:=h3;exact⟨es,q,C.blk h11 h1,h12⟩
 ·obtain⟨v,h11,h12⟩:=h6 i hi;exact⟨v,h11,h12.chg C (by omega) hl hu⟩
def q1v (N:Nat) (w:World) (g n:Nat) (S:Nat->Prop) (x:q_v):Prop :=
 N<=g/\(∃cs,w.heap[g]?=some (.cells cs 35 (0,0))/\cs.size=n*4)/\∀i,i<n->S i->At4 N w g (i*4) (raw (x i))
theorem q1v.lt{S:Nat->Prop}{x:q_v}(h:q1v N w g n S x):g<w.heap.size:=by
 obtain⟨-,⟨cs,h1,-⟩,-⟩:=h;exact qF h1
theorem At4.ext'{o:Nat}(h:At4 N w b o R) (e:Ext w w'):At4 N w' b o R:=by
 obtain⟨s',t',d0,d1,d2,d3,g1,g2⟩:=h;exact⟨s',t',e.cell d0,e.cell d1,e.cell d2,e.cell d3,g1.ext e,g2.ext e⟩
theorem q1v.ext{S:Nat->Prop}{x:q_v}(h:q1v N w g n S x) (e:Ext w w'):q1v N w' g n S x:=by
 obtain⟨h0,⟨cs,h1,h2⟩,h3⟩:=h;exact⟨h0,⟨cs,e.block h1,h2⟩,fun i hi hs=>(h3 i hi hs).ext' e⟩
theorem q1v.part{S:Nat->Prop}{x:q_v}(h:q1v N w g n S x){l s:Nat}(hs:l+s<=n) (hS:∀i,i<s->S (l+i)) (hc:s<=c) (hm:c<=maxLen) :
  LsV N g (g+1) w (.slice (some ⟨g,l*4,none⟩) s c) s (fun i=>x (l+i)):=by
 have hl:=h.lt;have hN:=h.1;refine⟨by omega,by omega,_,c,rfl,hc,hm,fun _=>⟨g,l*4,rfl,q_r,by omega,fun i hi=>?_⟩⟩;have h9:=h.2.2 (l+i) (by omega) (hS i hi);rw[show (l+i)*4=l*4+i*4 by omega] at h9;exact h9
theorem Y7(t ty:TypeId) (ht:Tryz.prog.underlying t=some (.slice 35)){S:Nat->Prop}{x:q_v}(h:q1v N w g n S x){u:Value}{s l:Nat}{y:q_v}(hy:LsV N lo hi w u s y) (hsn:l+s<=n) (hyx:∀j,j<s->y j=x (l+j)) (h0:0<s){dc:Nat} :
  ∃w',(Builtin.copy_ #[t,t] ty #[.slice (some ⟨g,l*4,none⟩) (n-l) dc,u]).run Tryz.prog w=.ok (.int .i64 ((s:Nat):Int)) w'/\q1v N w' g n (fun i=>S i\/(l<=i/\i<l+s)) x/\Chg g (g+1) w w'/\w'.heap.size=w.heap.size:=by
 obtain⟨A,sc,rfl,-,-⟩:=LsR.form hy;obtain⟨b,so,rfl,-,-,hs⟩:=LsV.addr hy h0;obtain⟨i0,hi0,hz0,hz1,hz2⟩:=info_parts yJ;have hn:Nat.min s (n-l)=s:=Nat.min_eq_left (by omega);have hN:=h.1;obtain⟨cs0,ha3,ha3'⟩:=h.2.1
 have hone:∀j,j<s*4->∃v,w.cell? ⟨b,so+j,none⟩=some v/\v.oneCell'=true:=by
  intro j hj;have:=(hs (j / 4) (by omega)).one (r:=j % 4) (by omega)
  rwa [show so+j / 4*4+j % 4=so+j by omega] at this
 obtain⟨cs,hcs⟩:∃cs,cs=(List.range (s*4)).map (fun j=>(w.cell? ⟨b,so+j,none⟩).getD undef):=⟨_,rfl⟩
 have hlen:cs.length=s*4:=by rw[hcs];simp
 have hat:∀j v,cs[j]?=some v->w.cell? ⟨b,so+j,none⟩=some v:=by
  intro j v hv;have hj:j<cs.length:=(List.getElem?_eq_some_iff.1 hv).1;rw[hlen] at hj;obtain⟨u,hu,-⟩:=hone j hj;rw[hcs] at hv;simp[hj,hu] at hv
  rw[hu,hv]
 have h1:∀v∈cs,v.oneCell'=true:=by
  intro v hv;obtain⟨j,hj,hjv⟩:=List.getElem_of_mem hv;have hj2:=hat j v (by rw[<-hjv];exact List.getElem?_eq_getElem hj);rw[hlen] at hj;obtain⟨u,hu,ho⟩:=hone j hj;rw[hu] at hj2;have h7:=Option.some.inj hj2;rw[<-h7];exact ho
 have hl:=run_loadCells_list (P:=Tryz.prog) w ⟨b,so,none⟩ cs (fun j v hv=>by rw[Qc];exact hat j v hv)
 have hc:∀j,j<cs.length->(w.cell? ⟨g,l*4+j,none⟩).isSome=true:=by
  intro j hj;rw[qh ha3,Array.getElem?_eq_getElem (by omega)];rfl
 have hf:∀j,j<cs.length->w.frozen? ⟨g,l*4+j,none⟩=false:=fun j _=>qY ha3 _
 have hst:=run_storeCells_cells (P:=Tryz.prog) g (l*4) cs 0 w (by simpa using hc) (by simpa using hf) h1;have hT:=NoU.mk ha3 q7i;have U:=JS g cs (l*4) w w (Upd.refl g w);have hC:=U.chg hT;have hin:=World.cell?_setCells_in g cs (l*4) w hc;refine⟨w.setCells g (l*4) cs,?_,?_,hC,U.size⟩
 ·rw[hlen] at hl;simp[Builtin.copy_,run_underlying ht,Builtin.lenOf,Builtin.firstCells,sizeOf,typeInfo,hi0,hz1,hn,hl,hst,goInt]
 ·refine⟨hN,?_,fun i hi hS=>?_⟩
  ·obtain⟨cs',b1,b2⟩:=YV g _ _ cs (l*4) cs0 w ha3;exact⟨cs',b1,by omega⟩
  ·by_cases hic:l<=i/\i<l+s
   ·obtain⟨j,rfl⟩:∃j,i=l+j:=⟨i-l,by omega⟩
    rw[<-hyx j (by omega)];obtain⟨s',t',d0,d1,d2,d3,g1,g2⟩:=hs j (by omega)
    have hget:∀r v,r<4->w.cell? ⟨b,so+j*4+r,none⟩=some v->(w.setCells g (l*4) cs).cell? ⟨g,(l+j)*4+r,none⟩=some v:=by
     intro r v hr hv;have h9:=hin (j*4+r) (by omega);rw[show l*4+(j*4+r)=(l+j)*4+r by omega] at h9;rw[h9];have h8:=hat (j*4+r) _ (List.getElem?_eq_getElem (by omega));rw[show so+(j*4+r)=so+j*4+r by omega,hv] at h8;exact h8.symm
    exact⟨s',t',hget 0 _ (by omega) d0,hget 1 _ (by omega) d1,hget 2 _ (by omega) d2,hget 3 _ (by omega) d3,g1.chg hC hN,g2.chg hC hN⟩
   ·obtain⟨s',t',d0,d1,d2,d3,g1,g2⟩:=h.2.2 i hi (hS.resolve_right hic);refine⟨s',t',?_,?_,?_,?_,g1.chg hC hN,g2.chg hC hN⟩<;>rw[World.cell?_setCells_out g cs (l*4) w _ (fun _ _=>by simp only;omega)]<;>assumption
end
section
structure Lft (n:Nat) (M:q_m) (E:Nat->Bool) (S:q_m):Prop where
 reg:q1p n M E
 fil:Fil n M E
 sch:Wl n M E S
 row:∀i j,i<n->j<n->E i=true->S i j=0
 col:∀i j,i<n->j<n->E j=true->S i j=0
theorem Lft.start (n:Nat) (M:q_m):Lft n M (fun _=>false) M:=by
 refine⟨fun x hx _ i hi=>hx i hi rfl,fun y=>⟨y,fun _ _=>rfl,fun _ _ h=>(by cases h)⟩,fun x _ i _ _=>?_,fun _ _ _ _ h=>(by cases h),fun _ _ _ _ h=>(by cases h)⟩;exact qf fun j _=>by simp
theorem Lft.sum{M S:q_m}{E:Nat->Bool}(h:Lft n M E S){x:q_v}(hx:∀i,i<n->E i=true->av n M x i=0)(hi:i<n) (hE:E i=false):av n M x i=av n S x i:=by
 rw[h.sch x hx i hi hE]
 exact qf fun j hj=>by
  cases hEj:E j with
  | true=>rw[if_pos rfl,h.col i j hi hj hEj];grind
  | false=>simp
theorem q4s{S:q_m}{E:Nat->Bool}{e:Nat->Nat}(he:Enm n k E e) (hr:Reg k (x9 S e))(hi:i<n) (hE:E i=true):XK k S e i j=0:=by
 obtain⟨a,ha,rfl⟩:=he.onto i hi hE;have h1:=(jD hr).1;unfold XK q0K
 have h2:sum k (fun c=>S (e a) (e c)*sum k (fun b=>x8 k (x9 S e) c b*S (e b) j))=S (e a) j:=by
  have h3:sum k (fun c=>S (e a) (e c)*sum k (fun b=>x8 k (x9 S e) c b*S (e b) j))=sum k (fun b=>mm k (x9 S e) (x8 k (x9 S e)) a b*S (e b) j):=by
   have h4:sum k (fun c=>S (e a) (e c)*sum k (fun b=>x8 k (x9 S e) c b*S (e b) j))=sum k (fun c=>sum k (fun b=>x9 S e a c*x8 k (x9 S e) c b*S (e b) j)):=qf fun c _=>by
    rw[<-zN];exact qf fun b _=>by unfold x9;grind
   rw[h4,zu];exact qf fun b _=>by unfold mm;rw[<-qE]
  rw[h3];have h5:sum k (fun b=>mm k (x9 S e) (x8 k (x9 S e)) a b*S (e b) j)=sum k (fun b=>dlt a b*S (e b) j):=qf fun b hb=>by rw[h1 a ha b hb]
  rw[h5,zi ha (fun b=>S (e b) j)]
 rw[h2];grind
theorem q4t{S:q_m}{E:Nat->Bool}{e:Nat->Nat}(he:Enm n k E e) (hr:Reg k (x9 S e))(hj:j<n) (hE:E j=true):XK k S e i j=0:=by
 obtain⟨b,hb,rfl⟩:=he.onto j hj hE;have h1:=(jD hr).2;unfold XK q0K
 have h2:sum k (fun a=>S i (e a)*sum k (fun c=>x8 k (x9 S e) a c*S (e c) (e b)))=S i (e b):=by
  have h3:sum k (fun a=>S i (e a)*sum k (fun c=>x8 k (x9 S e) a c*S (e c) (e b)))=sum k (fun a=>S i (e a)*dlt a b):=qf fun a ha=>by
   congr 1
   exact h1 a ha b hb
  rw[h3,vP hb (fun a=>S i (e a))]
 rw[h2];grind
theorem q1U{S:q_m}{e:Nat->Nat}(h:∀a,a<k->S i (e a)=0) (j:Nat):XK k S e i j=S i j:=by
 unfold XK q0K;rw[qy fun a ha=>by rw[h a ha];grind];grind
theorem q1V{S:q_m}{e:Nat->Nat}(h:∀b,b<k->S (e b) j=0) (i:Nat):XK k S e i j=S i j:=by
 unfold XK q0K
 rw[qy fun a _=>by
  have:sum k (fun b=>x8 k (x9 S e) a b*S (e b) j)=0:=qy fun b hb=>by rw[h b hb];grind
  rw[this];grind]
 grind
theorem Lft.reg_iff{M S:q_m}{E E2:Nat->Bool}{e:Nat->Nat}(h:Lft n M E S) (he:Enm n k E2 e) (hd:∀i,E2 i=true->E i=false):Reg k (x9 S e)↔q1p n M (both E E2) :=
 ⟨fun hr=>q2d h.reg h.sch (q2c he hr) hd,fun hr=>q2a he (q0N h.fil h.sch hr hd)⟩
theorem Lft.step{M S:q_m}{E E2:Nat->Bool}{e:Nat->Nat}(h:Lft n M E S) (he:Enm n k E2 e) (hd:∀i,E2 i=true->E i=false) (hr:Reg k (x9 S e)):Lft n M (both E E2) (XK k S e):=by
 have hR:=q2c he hr;obtain⟨hf2,hs2⟩:=q1T he hR
 have hcol:∀i j,i<n->j<n->both E E2 j=true->XK k S e i j=0:=fun i j hi hj hb=>by
  cases h1:E j with
  | true=>rw[q1V (fun b hb=>h.col _ _ (he.low b hb) hj h1),h.col i j hi hj h1]
  | false=>exact q4t he hr hj (by unfold both at hb;rw[h1] at hb;simpa using hb)
 refine⟨(h.reg_iff he hd).1 hr,fun y=>?_,fun x hx i hi hb=>?_,fun i j hi hj hb=>?_,hcol⟩
 ·obtain⟨u,hu,hu0⟩:=hf2 (fun i=>if E i=true then 0 else y i);obtain⟨x,hx,hx0⟩:=h.fil u;refine⟨x,fun i hi=>?_,fun i hi hb=>?_⟩
  ·obtain⟨a1,a2⟩:=JE hi;rw[hx i a1,hu i a2,a1];simp
  ·cases h1:E i with
   | true=>exact hx0 i hi h1
   | false =>
    have h2:E2 i=true:=by unfold both at hb;rw[h1] at hb;simpa using hb
    rw[h.sum hx0 hi h1];refine Eq.trans (qf fun j hj=>?_) (hu0 i hi h2);cases h3:E j with
    | true=>rw[h.col i j hi hj h3];grind
    | false=>rw[hx j h3]
 ·obtain⟨a1,a2⟩:=JE hb;have hx1:∀i,i<n->E i=true->av n M x i=0:=fun i hi h=>hx i hi (q0q h)
  rw[h.sum hx1 hi a1,hs2 x (fun u hu h2=>by rw[<-h.sum hx1 hu (hd u h2)];exact hx u hu (q3P h2)) i hi a2]
  exact qf fun j hj=>by
   unfold both;cases h1:E j with
   | true =>
    have h2:E2 j=false:=by
     cases h5:E2 j with
     | false=>rfl
     | true=>have:=hd j h5;rw[h1] at this;cases this
    rw[h2,hcol i j hi hj (q0q h1)];simp
   | false=>rfl
 ·cases h1:E i with
  | true=>rw[q1U (fun a ha=>h.row _ _ hi (he.low a ha) h1),h.row i j hi hj h1]
  | false=>exact q4s he hr hi (by unfold both at hb;rw[h1] at hb;simpa using hb)
def JP (E:Nat->Bool) (n:Nat):List Nat:=(List.range n).filter E
def enF (E:Nat->Bool) (n a:Nat):Nat:=(JP E n)[a]?.getD 0
theorem wS (E:Nat->Bool) (n:Nat):JP E (n+1)=JP E n++(if E n=true then [n] else []):=by
 unfold JP;rw[List.range_succ,List.filter_append]
 congr 1
 cases h:E n<;>simp[h]
theorem Z9 {E:Nat->Bool}:i∈JP E n↔i<n/\E i=true:=by unfold JP;simp
theorem wU {E:Nat->Bool}{a:Nat}(h:a<(JP E n).length):enF E n a=(JP E n)[a]:=by unfold enF;simp[h]
theorem VM (E:Nat->Bool) (n:Nat):(JP E n).Pairwise (· < ·):=by
 unfold JP;exact List.Pairwise.filter _ (List.pairwise_lt_range)
theorem Xo (E:Nat->Bool) (n:Nat):Enm n (JP E n).length E (enF E n):=by
 refine⟨fun a ha=>?_,fun a ha=>?_,fun a b ha hb h=>?_,fun i hi hE=>?_⟩
 ·rw[wU ha];exact (Z9.1 (List.getElem_mem ha)).1
 ·rw[wU ha];exact (Z9.1 (List.getElem_mem ha)).2
 ·rw[wU ha,wU hb] at h;have hs:=List.pairwise_iff_getElem.1 (VM E n)
  rcases Nat.lt_trichotomy a b with h1|h1|h1
  ·have:=hs a b ha hb h1;omega
  ·exact h1
  ·have:=hs b a hb ha h1;omega
 ·obtain⟨a,ha,h⟩:=List.getElem_of_mem (Z9.2 ⟨hi,hE⟩);exact⟨a,ha,by rw[wU ha];exact h⟩
def ql (z:Nat->Nat):Nat->Nat
 | 0=>0
 | k+1=>ql z k+z k
theorem qK (z:Nat->Nat){a:Nat}(h:a<=b):ql z a<=ql z b:=by
 induction h with
 | refl=>exact q_r
 | step _ ih=>exact q_l ih (Nat.le_add_right _ _)
def yT (z:Nat->Nat):Nat->Nat->Nat
 | 0,_=>0
 | k+1,i=>if ql z k<=i then k else yT z k i
theorem Xy {z:Nat->Nat}:∀ {m k i:Nat},k<m->ql z k<=i->i<ql z (k+1)->yT z m i=k
 | 0,_,_,h,_,_=>by omega
 | m+1,k,i,h,h1,h2=>by
  unfold yT
  by_cases h3:ql z m<=i
  ·rw[if_pos h3]
   rcases Nat.lt_or_ge k m with h4|h4
   ·have:=qK z (show k+1<=m by omega);omega
   ·omega
  ·rw[if_neg h3];have:k≠m:=fun e=>h3 (by rw[<-e];exact h1)
   exact Xy (by omega) h1 h2
theorem QQ {z:Nat->Nat}:∀ {m i:Nat},i<ql z m->yT z m i<m/\ql z (yT z m i)<=i/\i<ql z (yT z m i+1)
 | 0,i,h=>by unfold ql at h;omega
 | m+1,i,h=>by
  unfold yT
  by_cases h3:ql z m<=i
  ·rw[if_pos h3];exact⟨by omega,h3,h⟩
  ·rw[if_neg h3];obtain⟨a,b,c⟩:=QQ (z:=z) (m:=m) (i:=i) (by omega);exact⟨by omega,b,c⟩
def YE (z:Nat->Nat) (m k i:Nat):Bool:=yT z m i == k
theorem VP {z:Nat->Nat}(hk:k<m):Enm (ql z m) (z k) (YE z m k) (fun a=>ql z k+a):=by
 have hle:ql z k+z k<=ql z m:=qK z (show k+1<=m by omega);refine⟨fun a ha=>by omega,fun a ha=>?_,fun a b _ _ h=>by omega,fun i hi hE=>?_⟩
 ·unfold YE;rw[Xy hk (by omega) (by show ql z k+a<ql z k+z k;omega)]
  simp
 ·obtain⟨-,h1,h2⟩:=QQ hi;have h3:yT z m i=k:=by unfold YE at hE;simpa using hE
  rw[h3] at h1 h2;unfold ql at h2;exact⟨i-ql z k,by omega,by omega⟩
end
end Go.Proofs.YtflhlobiipejeaaGreat
