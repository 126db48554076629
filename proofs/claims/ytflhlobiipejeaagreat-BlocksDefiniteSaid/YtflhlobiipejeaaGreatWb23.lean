import Derived.Test.YtflhlobiipejeaaGreatWb22
set_option linter.all false
set_option maxHeartbeats 8000000
set_option maxRecDepth 100000
namespace Go.Proofs.YtflhlobiipejeaaGreat
variable {w w':World} {N n lo hi k g i base c b:Nat} {v:Value} {l:List Nat} {q:Rat} {A:Option Addr}
section
open Go.RowKit
structure SyI (z:Nat->Nat) (M:q_m) (b:Nat->Bkk) (nb i j:Nat):Prop where
 bk:∀q,q<nb->∃r c,c<=r/\(r<i\/(r=i/\c<j))/\(b q).r=(r:Int)/\(b q).c=(c:Int)/\(b q).m=z r/\(∀a,a<z r->(b q).L a=z c)/\∀a,a<z r->∀e,e<z c->(b q).A a e=raw (M (ql z r+a) (ql z c+e))
 ord:∀q,0<q->q<nb->Wh (b (q-1)) (b q)=true
 zero:∀r c,c<=r->(r<i\/(r=i/\c<j))->(∀q,q<nb->¬((b q).r=(r:Int)/\(b q).c=(c:Int)))->∀a,a<z r->∀e,e<z c->M (ql z r+a) (ql z c+e)=0
def q50 (z:Nat->Nat) (M:q_m) (i j:Nat):Bkk:=⟨(i:Int),(j:Int),z i,fun _=>z j,fun a e=>raw (M (ql z i+a) (ql z j+e))⟩
def JL (b:Nat->Bkk) (nb:Nat) (B:Bkk) (q:Nat):Bkk:=if q=nb then B else b q
section
variable {z:Nat->Nat}{M:q_m}{b:Nat->Bkk}{nb i j:Nat}
theorem SyI.start:SyI z M b 0 0 0:=⟨fun q hq=>absurd hq (Nat.not_lt_zero q),fun q _ hq=>absurd hq (Nat.not_lt_zero q),fun r c _ h=>by omega⟩
theorem SyI.skip (h:SyI z M b nb i j) (h0:∀a,a<z i->∀e,e<z j->M (ql z i+a) (ql z j+e)=0):SyI z M b nb i (j+1):=by
 refine⟨fun q hq=>?_,h.ord,fun r c h1 h2 h3=>?_⟩
 ·obtain⟨r,c,h1,h2,h3⟩:=h.bk q hq;exact⟨r,c,h1,by omega,h3⟩
 ·by_cases h4:r=i/\c=j
  ·obtain⟨rfl,rfl⟩:=h4;exact h0
  ·exact h.zero r c h1 (by omega) h3
theorem SyI.add (h:SyI z M b nb i j) (hj:j<=i):SyI z M (JL b nb (q50 z M i j)) (nb+1) i (j+1):=by
 have hold:∀q,q<nb->JL b nb (q50 z M i j) q=b q:=fun q hq=>by unfold JL;rw[if_neg (by omega)]
 have hnew:JL b nb (q50 z M i j) nb=q50 z M i j:=by unfold JL;rw[if_pos rfl]
 refine⟨fun q hq=>?_,fun q h0 hq=>?_,fun r c h1 h2 h3=>?_⟩
 ·by_cases hqn:q=nb
  ·subst hqn;rw[hnew];exact⟨i,j,hj,by omega,rfl,rfl,rfl,fun _ _=>rfl,fun _ _ _ _=>rfl⟩
  ·obtain⟨r,c,h1,h2,h3⟩:=h.bk q (by omega);rw[hold q (by omega)];exact⟨r,c,h1,by omega,h3⟩
 ·by_cases hqn:q=nb
  ·subst hqn;rw[hnew,hold (q-1) (by omega),JF];obtain⟨r,c,h1,h2,h3,h4,-⟩:=h.bk (q-1) (by omega)
   show (b (q-1)).r<(i:Int)\/(b (q-1)).r=(i:Int)/\(b (q-1)).c<(j:Int)
   omega
  ·rw[hold q (by omega),hold (q-1) (by omega)];exact h.ord q h0 (by omega)
 ·by_cases h4:r=i/\c=j
  ·obtain⟨rfl,rfl⟩:=h4;have:=h3 nb (by omega);rw[hnew] at this;exact absurd ⟨rfl,rfl⟩ this
  ·exact h.zero r c h1 (by omega) (fun q hq=>by
    have:=h3 q (by omega)
    rwa [hold q hq] at this)
theorem SyI.row (h:SyI z M b nb i (i+1)):SyI z M b nb (i+1) 0:=by
 refine⟨fun q hq=>?_,h.ord,fun r c h1 h2 h3=>h.zero r c h1 (by omega) h3⟩;obtain⟨r,c,h1,h2,h3⟩:=h.bk q hq;exact⟨r,c,h1,by omega,h3⟩
theorem SyI.done {Z:Sys}{y:q_v}(h:SyI z M Z.b Z.nb Z.ns 0) (hz:∀i,i<Z.ns->Z.z i=(z i:Int)) (hk:Z.k=ql z Z.ns) (hR:∀i,i<Z.k->Z.R i=raw (y i)):V4 Z z M y:=by
 refine⟨hz,fun q hq=>?_,h.ord,fun r c h1 h2 h3=>h.zero r c h1 (.inl h2) h3,hk,hR⟩;obtain⟨r,c,h1,h2,h3⟩:=h.bk q hq;exact⟨r,c,h1,by omega,h3⟩
end
theorem q3J:Cls 74 3 (.agg #[.int .i64 0,.int .i64 0,.slice none 0 0]) 40:=⟨by kernel_rfl,by kernel_rfl,by decide,by decide,by decide,by decide⟩
theorem zV.nil {ET:TypeId}(hb:base<=w.heap.size):zV ET k base w (.slice none 0 0) 0 []:=⟨hb,by simp,.inl ⟨rfl,rfl⟩⟩
theorem zV.chg {ET:TypeId}{l u:Nat}{xs:List Value}(h:zV ET k base w v n xs) (c:Chg l u w w') (hd:u<=base):zV ET k base w' v n xs:=by
 refine⟨q_l h.1 c.size,h.2.1,?_⟩
 rcases h.2.2 with h0|⟨g,cap,cur,hv,hb,hh,h1,h2,h3,h4⟩
 ·exact .inl h0
 ·exact .inr ⟨g,cap,cur,hv,hb,c.blk hh (.inr (by omega)),h1,h2,h3,h4⟩
def BlX (N base:Nat) (w:World) (v:Value) (nb:Nat) (b:Nat->Bkk) (xs:List Value):Prop :=
 N<=base/\∀q,q<nb->∃(A:Option Addr) (c lo hi:Nat),xs[q*3]?=some (.int .i64 (b q).r)/\xs[q*3+1]?=some (.int .i64 (b q).c)/\xs[q*3+2]?=some (.slice A (b q).m c)/\MtR N lo hi w (.slice A (b q).m c) (b q).m (b q).L (b q).A/\base<=lo/\∀g,v.ownBlock=some g->g<lo\/hi<=g
def BlG (N base:Nat) (w:World) (v:Value) (nb:Nat) (b:Nat->Bkk):Prop:=∃xs,zV 74 3 base w v nb xs/\BlX N base w v nb b xs
theorem BlG.nil{b:Nat->Bkk}(hN:N<=base) (hb:base<=w.heap.size):BlG N base w (.slice none 0 0) 0 b:=⟨[],zV.nil hb,hN,fun q hq=>absurd hq (Nat.not_lt_zero q)⟩
theorem BlX.ext{nb:Nat}{b:Nat->Bkk}{xs:List Value}(h:BlX N base w v nb b xs) (e:Ext w w'):BlX N base w' v nb b xs:=⟨h.1,fun q hq=>by
 obtain⟨A,c,lo,hi,h1,h2,h3,h4,h5⟩:=h.2 q hq
 exact⟨A,c,lo,hi,h1,h2,h3,h4.ext e,h5⟩⟩
theorem BlG.ext{nb:Nat}{b:Nat->Bkk}(h:BlG N base w v nb b) (e:Ext w w'):BlG N base w' v nb b:=by
 obtain⟨xs,h1,h2⟩:=h;exact⟨xs,h1.ext e,h2.ext e⟩
theorem BlG.chg {l u:Nat}{nb:Nat}{b:Nat->Bkk}(h:BlG N base w v nb b) (C:Chg l u w w') (hN:N<=l) (hu:u<=base):BlG N base w' v nb b:=by
 obtain⟨xs,h1,hb,h2⟩:=h;refine⟨xs,h1.chg C hu,hb,fun q hq=>?_⟩;obtain⟨A,c,lo,hi,h3,h4,h5,h6,h7,h8⟩:=h2 q hq;exact⟨A,c,lo,hi,h3,h4,h5,MtR.chg h6 C hN (.inr (by omega)),h7,h8⟩
theorem BlX.snoc{v':Value}{nb:Nat}{b:Nat->Bkk}{xs:List Value}{B:Bkk}(hl:xs.length=nb*3) (h:BlX N base w v nb b xs) (hm:MtR N lo hi w (.slice A B.m c) B.m B.L B.A) (hlo:base<=lo) (ho:∀g,v.ownBlock=some g->g<lo)
  (ho':v'.ownBlock=v.ownBlock\/v'.ownBlock=some w.heap.size) (hC:∃g',base<=g'/\(v.ownBlock=some g'\/g'=w.heap.size)/\Chg g' (g'+1) w w'):BlX N base w' v' (nb+1) (JL b nb B) (xs ++ [.int .i64 B.r,.int .i64 B.c,.slice A B.m c]):=by
 obtain⟨hN,h2⟩:=h;obtain⟨g',hg',hgo,C⟩:=hC;have hmv:∀ {v:Value}{m lo hi:Nat}{L:Nat->Nat}{R:Nat->Nat->Raw},MtR N lo hi w v m L R->(g' < lo\/hi<=g')->MtR N lo hi w' v m L R:=fun {v m lo hi L R} hh hd=>MtR.chg hh C (by omega) (by omega)
 refine⟨hN,fun q hq=>?_⟩
 by_cases hqn:q=nb
 ·subst hqn;rw[show JL b q B q=B by unfold JL;rw[if_pos rfl]];refine⟨A,c,lo,hi,?_,?_,?_,hmv hm ?_,hlo,fun g hg=>?_⟩
  ·rw[List.getElem?_append_right (by omega),hl];simp
  ·rw[List.getElem?_append_right (by omega),hl,show q*3+1-q*3=1 by omega];rfl
  ·rw[List.getElem?_append_right (by omega),hl,show q*3+2-q*3=2 by omega];rfl
  ·rcases hgo with h3|h3
   ·exact .inl (ho _ h3)
   ·exact .inr (by have:=hm.2.1;omega)
  ·rcases ho' with h3|h3
   ·exact .inl (ho _ (h3 ▸ hg))
   ·rw[h3] at hg;have:=Option.some.inj hg;exact .inr (by have:=hm.2.1;omega)
 ·rw[show JL b nb B q=b q by unfold JL;rw[if_neg hqn]];obtain⟨A1,c1,lo1,hi1,h3,h4,h5,h6,h7,h8⟩:=h2 q (by omega);refine⟨A1,c1,lo1,hi1,?_,?_,?_,hmv h6 ?_,h7,fun g hg=>?_⟩
  ·rw[List.getElem?_append_left (by omega)];exact h3
  ·rw[List.getElem?_append_left (by omega)];exact h4
  ·rw[List.getElem?_append_left (by omega)];exact h5
  ·rcases hgo with h9|h9
   ·exact h8 _ h9
   ·exact .inr (by have:=h6.2.1;omega)
  ·rcases ho' with h9|h9
   ·exact h8 _ (h9 ▸ hg)
   ·rw[h9] at hg;have:=Option.some.inj hg;exact .inr (by have:=h6.2.1;omega)
theorem BlG.bks{nb:Nat}{b:Nat->Bkk}(h:BlG N base w v nb b):q4c N 0 w.heap.size w v nb b:=by
 obtain⟨xs,h1,-,h2⟩:=h
 rcases Nat.eq_zero_or_pos nb with h0|h0
 ·subst h0
  rcases h1.2.2 with ⟨hv,-⟩|⟨g,cap,cur,hv,hb,hh,h3,h4,h5,h6⟩
  ·exact⟨none,0,hv,q_r,by unfold maxLen;omega,fun h=>absurd h (Nat.lt_irrefl 0)⟩
  ·exact⟨some ⟨g,0,none⟩,cap,hv,h3,h4,fun h=>absurd h (Nat.lt_irrefl 0)⟩
 ·obtain⟨g,cap,hv,-,h3,h4,h5⟩:=h1.at_ h0;refine⟨_,cap,hv,h3,h4,fun _=>⟨g,0,rfl,fun q hq=>?_⟩⟩;obtain⟨A,c,lo,hi,h6,h7,h8,h9,-⟩:=h2 q hq;rw[Nat.zero_add];exact⟨h5 _ _ h6,h5 _ _ h7,A,c,h5 _ _ h8,MtR.wide h9 (Nat.zero_le _) h9.2.1 (q_r)⟩
end
section
open Go.RowKit
theorem Chg.newer {a l u:Nat}{v:World}(h:Chg a b v w) (c:Chg l u w w') (hl:v.heap.size<=l):Chg a b v w' :=
 ⟨c.os.trans h.os,c.tape.trans h.tape,c.output.trans h.output,q_l h.size c.size,fun k hk hc=>by
  rw[<-h.block k hk hc]
  exact c.block k (Nat.lt_of_lt_of_le hk h.size) (.inl (by omega))⟩
theorem zq{t:TypeId}{x0 x1 x2 x3 x4:Value}(h:w.heap[g]?=some (.cells #[x0,x1,x2,x3,x4] t (0,0))):w.cell? ⟨g,0,none⟩=some x0/\w.cell? ⟨g,1,none⟩=some x1/\w.cell? ⟨g,2,none⟩=some x2/\w.cell? ⟨g,3,none⟩=some x3/\w.cell? ⟨g,4,none⟩=some x4:=by
 refine⟨?_,?_,?_,?_,?_⟩<;>rw[qh h]<;>rfl
theorem q0u {lo1 hi1 lo2 hi2:Nat}{A0 A1 A2 A4:Option Addr}{m0 m1 m2 m4 d0 d1 d2 d4:Nat}{u u':Value}{r:Nat}{M:q_m}{er ec:Nat->Nat}(h:MtV N lo hi w v n n M) (hr':IxV N lo1 hi1 w u r n er) (hc':IxV N lo2 hi2 w u' c n ec) (hr:r<1000) (hc:c<1000) :
  Calls Tryz.prog 47 #[.agg #[.slice A0 m0 d0,.slice A1 m1 d1,.slice A2 m2 d2,v,.slice A4 m4 d4],u,u'] w (q46 N w r c (fun a b=>M (er a) (ec b))):=by
 have hN:N<=w.heap.size:=MtR.le h;obtain⟨R,hR⟩:=qc (q46 N w r c (fun a b=>M (er a) (ec b)));rw[<-hR.out];have HM:=q_h h;have HR1:=q_h hr'.1;have HR2:=q_h hr'.2;have HC1':=q_h hc'.1;have HC2:=q_h hc'.2;obtain⟨Am,cm,rfl,km,-⟩:=MtR.form h;obtain⟨Ar,cr,rfl,kr,-⟩:=hr'.1.form;obtain⟨Ac,cc,rfl,kc,-⟩:=hc'.1.form;clear h hr' hc';go_enter Tryz.func47,Tryz.ntmps47;go_wp2_with (at_make;refine q_o ?_);refine qo ?_;intro w0 e0 hsz0 B0;obtain⟨g0,hg0⟩:=qc w.heap.size;have hgw:w.heap.size<=g0:=by rw[hg0.out];exact q_r
 rw[<-hg0.out] at B0 hsz0 ⊢;refine zQ Z8 rfl rfl _ _ 29 Tryz.underlying29 rfl .i64 .i64 _ _ r rfl rfl rfl rfl (by omega) ?_;intro w1 cs B1 hcs hz e1;obtain⟨g,hg⟩:=qc w0.heap.size;have hg1:g0+1<=g:=by rw[hg.out];omega
 rw[<-hg.out] at B1 ⊢;have hg2:g<w1.heap.size:=qF B1;have HF:Hid (FlB 37 w1 g r (fun _=>.slice none 0 0)):=⟨cs,B1,hcs,hz⟩
 have HB1:=q_h (e1.block B0);have HE1:=q_h (e0.trans e1);clear B1 hcs hz hg B0 e0 e1 hsz0 hg0;go_wp2_with fail
 go_loopw [17] (fun iv wr=>∃(i:Nat) (f:Nat->Value),i<=r/\iv=.int .i64 (i:Int)/\Hid (FlB 37 wr g r f)/\Hid (∀a,a<i->LsV N (g+1) wr.heap.size wr (f a) c (fun b=>M (er a) (ec b)))/\Hid (∀a,i<=a->f a=.slice none 0 0)/\g<wr.heap.size/\Hid (Chg g (g+1) w1 wr)) (fun iv _=>r-(intOf iv).toNat)
 case atStart=>exact⟨0,_,Nat.zero_le _,rfl,HF,fun a ha=>absurd ha (Nat.not_lt_zero a),fun _ _=>rfl,hg2,Chg.refl _ _ _⟩
 case round =>
  clear HF hg2;obtain⟨i,f,hi9,rfl,HF,HL,HZ,hg2,HC⟩:=hrel;have hE:=HC.out.ext HE1.out (by omega);have hs9:=HC.out.size
  by_cases hlt:i<r
  case neg =>
   have t1:decide ((i:Int)<(r:Int))=false:=q_f (by omega);obtain rfl:r=i:=by omega
   go_wp2
   first|go_ret|skip
   rw[hR.out];exact⟨_,_,rfl,Yw (by have:=hE.size;omega) HF.out (by omega) hg2 (q_r) (by omega) (fun a ha=>(LsR.wide (HL.out a ha) (by omega) (q_r) (q_r))),hE⟩
  have t1:decide ((i:Int)<(r:Int))=true:=q_t (by omega);have t2:(i:Int)<(r:Int):=by omega
  obtain⟨wq,hwq⟩:∃wq,wq=wr:=⟨_,rfl⟩
  subst hwq;obtain⟨bi,oi,rfl,hxi⟩:=(HR1.out.ext hE).addr (by omega);have c0:=hxi i hlt;have hEn:=HR2.out i hlt;obtain⟨E,hEE⟩:=qc (er i);rw[<-hEE.out] at c0 hEn;have HI:Hid (Grow N wq.heap.size wq (.slice none 0 0) 0 (fun b=>M E (ec b))):=Grow.nil (by have:=hE.size;omega) (q_r) _
  have HF0:Hid (FlB 37 wq g r (fun a=>if a=i then .slice none 0 0 else f a)):=by
   obtain⟨cs,h1,h2,h3⟩:=HF.out;refine⟨cs,h1,h2,fun a ha=>?_⟩;rw[h3 a ha]
   show some (f a)=some (if a=i then .slice none 0 0 else f a)
   by_cases hai:a=i
   ·rw[if_pos hai,HZ.out a (by omega)]
   ·rw[if_neg hai]
  clear hxi;go_wp2_with fail
  go_loopw [24] (fun jv wr=>∃(j:Nat) (A:Option Addr) (k:Nat),j<=c/\jv=.int .i64 (j:Int)/\Hid (FlB 37 wr g r (fun a=>if a=i then .slice A j k else f a))/\Hid (∀a,a<i->LsV N (g+1) wq.heap.size wr (f a) c (fun b=>M (er a) (ec b)))/\Hid (Grow N wq.heap.size wr (.slice A j k) j (fun b=>M E (ec b)))/\Hid (Chg g (g+1) w1 wr)/\wq.heap.size<=wr.heap.size) (fun jv _=>c-(intOf jv).toNat)
  case atStart=>exact⟨0,_,_,Nat.zero_le _,rfl,HF0,HL,HI,HC,q_r⟩
  case round =>
   clear HF0 HI HC hE c0;obtain⟨j,A,k,hj,rfl,HF1,HL1,HG1,HC1,hs1⟩:=hrel;have hE:=HC1.out.ext HE1.out (by omega)
   by_cases hlt2:j<c
   case neg =>
    have t3:decide ((j:Int)<(c:Int))=false:=q_f (by omega);obtain rfl:c=j:=by omega
    have HL2:Hid (∀a,a<i+1->LsV N (g+1) wr.heap.size wr (if a=i then .slice A c k else f a) c (fun b=>M (er a) (ec b))):=fun a ha=>by
     by_cases hai:a=i
     ·rw[if_pos hai,hai,<-hEE.out];exact HG1.out.lsv (by omega) rfl
     ·rw[if_neg hai];exact LsR.wide (HL1.out a (by omega)) (q_r) hs1 (q_r)
    have HZ2:Hid (∀a,i+1<=a->(if a=i then Value.slice A c k else f a)=.slice none 0 0):=fun a ha=>by
     rw[if_neg (by omega)];exact HZ.out a (by omega)
    go_wp2;go_roundw
    case rel=>exact⟨i+1,_,by omega,by go_num,HF1,HL2,HZ2,by omega,HC1⟩
    case measure=>simp[intOf];omega
   have t3:decide ((j:Int)<(c:Int))=true:=q_t (by omega);have t4:(j:Int)<(c:Int):=by omega
   have p0:=(HF1.out.cell hlt).1;rw[if_pos rfl] at p0;have hNr:N<=wr.heap.size:=by have:=hE.size;omega
   obtain⟨wx,hwx⟩:∃wx,wx=wr:=⟨_,rfl⟩
   subst hwx;obtain⟨bj,oj,rfl,hxj⟩:=(HC1'.out.ext hE).addr (by omega);have c1:=hxj j hlt2;have hFn:=HC2.out j hlt2;obtain⟨bm,om,rfl,-,-,hxm⟩:=MtR.addr (HM.out.ext hE) (by omega);obtain⟨Am2,cm2,p1,hm1,hm2,hm3⟩:=hxm E hEn;obtain⟨br,orr,rfl,-,-,hxr⟩:=LsV.addr hm3 (by omega);obtain⟨n1,A7,k7,c7,A8,k8,c8,r0,r1,r2,r3,hb1,z1,z2⟩:=(hxr (ec j) hFn).open;obtain⟨F,hFF⟩:=qc (ec j);rw[<-hFF.out] at c1 hFn r0 r1 r2 r3 hb1 z1 z2;obtain⟨xi,hxi9⟩:=qc (M E F);rw[<-hxi9.out] at hb1 z1 z2;have HRX:qX N wx (.agg #[.bool n1,.slice A7 k7 c7,.bool false,.slice A8 k8 c8]) xi:=qX.mk hb1 z1 z2;obtain⟨b0,b1,b2,b3,b4⟩:=zq (HC1.out.blk HB1.out (.inl (by omega)));have t5:(E:Int)<(n:Int):=by omega
   have t6:(F:Int)<(n:Int):=by omega
   clear hxj hxm hm3 hxr hb1 z1 z2;go_upto_region 8 with (fail);refine q8h [Mn.eq (.slice (some ⟨g,0,none⟩) r r),Mn.i (i:Int),Mn.eq (.slice (some ⟨g,0,none⟩) r r),Mn.i (i:Int),Mn.q g i,Mn.eq (.slice A j k),Mn.q g0 3,Mn.eq (.slice (some ⟨bm,om,none⟩) n cm),Mn.i (E:Int),Mn.q bm (om+E),Mn.eq (.slice (some ⟨br,orr,none⟩) n cm2),Mn.i (F:Int),Mn.q br (orr+F*4),Mn.rat N (xi),Mn.rbk N xi,Mn.any,Mn.any,Mn.any] [some 28,some 29,some 30,some 31,some 32,some 33,some 34,some 35,some 36,some 37,some 38,some 39,some 40,some 41,some 42,some 43,some 44,none] [15,16,17] [0,1] (rQ 15 3) 3 (by kernel_rfl) ?_ ?_ ?_
   ·show ∀i,i<18->_
    iterate 18 refine fs ?_ ?_
    ·exact fz
    all_goals intro hl hs;first|exact absurd hl (by decide)|exact absurd hs (by decide)|(clear hl hs;refine stp rfl ?_;intro ac wi eI hB hA K hK)
    have o7:=oOf (hB 7) rfl;rotate_left;have o8:=oOf (hB 8) rfl;rotate_left;obtain⟨_,s30,rfl⟩:=hA 2 30;obtain⟨_,s31,rfl⟩:=hA 3 31;rotate_left;obtain⟨_,s32,rfl⟩:=hA 4 32;have cc0:=eI.cell p0;rotate_left;have o3:=oOf (hB 3) rfl;rotate_left;obtain⟨_,s34,rfl⟩:=hA 6 34;have cc0:=eI.cell b3;rotate_left;have o9:=oOf (hB 9) rfl;rotate_left;obtain⟨_,s35,rfl⟩:=hA 7 35;obtain⟨_,s36,rfl⟩:=hA 8 36;rotate_left;obtain⟨_,s37,rfl⟩:=hA 9 37;have cc0:=eI.cell p1;rotate_left;have o11:=oOf (hB 11) rfl;rotate_left;obtain⟨_,s38,rfl⟩:=hA 10 38;obtain⟨_,s39,rfl⟩:=hA 11 39;rotate_left;obtain⟨_,s40,rfl⟩:=hA 12 40;clear hB hA;have cc0:=eI.cell r0;have cc1:=eI.cell r1;have cc2:=eI.cell r2;have cc3:=eI.cell r3
    ·go_simp;exact q_k hK (HRX.ext eI)
    obtain⟨x41,s41,j41⟩:=hA 13 41;replace j41:Mn.p (Mn.rat N (xi)) x41 wi:=j41;clear hB hA
    ·obtain⟨bj,Aj,kj,cj,Aj',kj',cj',rfl,hbj,gj1,gj2⟩:=qX.parts j41;go_simp;refine qo ?_;intro wj ej hszj BJ;exact hK.out _ _ ej ⟨_,rfl,je.mk BJ hbj (gj1.ext ej) (gj2.ext ej)⟩
    all_goals clear hB hA;go_simp;exact q_k hK rfl
   ·intro i hs;have hi':i=0\/i=1:=by simpa using hs
    clear hs
    rcases hi' with rfl|rfl
    ·refine sft rfl (fun _ _ _ _ h=>h) ?_;intro ac wi eI hB hA;have o7:=oOf (hB 7) rfl;clear hB hA;refine⟨(.slice (some ⟨g,0,none⟩) r r),.inl ⟨rfl,fun w9 _=>?_⟩,rfl⟩;go_simp
    ·refine sft rfl (fun _ _ _ _ h=>h) ?_;intro ac wi eI hB hA;have o8:=oOf (hB 8) rfl;clear hB hA;refine⟨(.int .i64 (i:Int)),.inl ⟨rfl,fun w9 _=>?_⟩,rfl⟩;go_simp
   intro vals wz eZ hJ;have J28:vals 0=_:=hJ 0 (by decide) (by decide);have J29:vals 1=_:=hJ 1 (by decide) (by decide);have J33:vals 5=_:=hJ 5 (by decide) (by decide);have J42:Mn.p (Mn.rbk N xi) (vals 14) wz:=hJ 14 (by decide) (by decide);clear hJ;simp only[pr,Nat.reduceAdd,J28,J29,J33];clear J28 J29 J33
   generalize vals 14=z42 at J42 ⊢
   obtain⟨gb,rfl,bq,Aj,kj,cj,Aj',kj',cj',BX,hbj,gj1,gj2⟩:=J42;have hGz:=HG1.out.ext eZ;refine qj (i:=15) rfl (by kernel_rfl) (by kernel_rfl) (fun K hK=>?_);refine zZ rfl _ _ 37 Tryz.underlying37 rfl (by rfl) hGz (by rfl) BX hbj gj1 gj2 (by omega) ?_;rintro gq cq w17 g' hG8 hb9 c17 u1' u2';obtain⟨q0,q1⟩:=((HF1.out.ext eZ).chg c17 (.inl (by omega))).cell hlt;refine hK.out _ _ ?_;clear hK K;try simp only[nr]
   refine qj (i:=16) rfl (by kernel_rfl) (by kernel_rfl) (fun K hK=>?_);go_simp;refine hK.out _ _ ?_;clear hK K;try simp only[nr]
   refine qj (i:=17) rfl (by kernel_rfl) (by kernel_rfl) (fun K hK=>?_);go_simp;refine hK.out _ _ ?_;clear hK K;try simp only[nr]
   refine qg (by kernel_rfl) ?_ _;have F17:=(HF1.out.ext eZ).chg c17 (.inl (by omega));obtain⟨w18,E18,F18,C18,hs18⟩:=F17.set WP hlt (.slice (some ⟨gq,0,none⟩) (j+1) cq);rw[E18]
   have HF8:Hid (FlB 37 w18 g r (fun a=>if a=i then .slice (some ⟨gq,0,none⟩) (j+1) cq else f a)):=by
    obtain⟨cs,h1,h2,h3⟩:=F18;refine⟨cs,h1,h2,fun a ha=>?_⟩;rw[h3 a ha]
    show some (if a=i then _ else (if a=i then Value.slice A j k else f a))=some (if a=i then _ else f a)
    by_cases hai:a=i
    ·rw[if_pos hai,if_pos hai]
    ·rw[if_neg hai,if_neg hai,if_neg hai]
   have hNg:N<=g:=by omega
   have hNg':N<=g':=by omega
   have HL8:Hid (∀a,a<i->LsV N (g+1) wq.heap.size w18 (f a) c (fun b=>M (er a) (ec b))):=fun a ha=>LsR.chg (LsR.chg ((HL1.out a ha).ext eZ) c17 hNg' (.inl hb9)) C18 hNg (.inr (q_r))
   have HG8:Hid (Grow N wq.heap.size w18 (.slice (some ⟨gq,0,none⟩) (j+1) cq) (j+1) (fun b=>M E (ec b))):=(hG8.congr (y:=fun b=>M E (ec b)) (fun a _=>by
    unfold upd
    by_cases h9:a=j
    ·rw[if_pos h9,h9,hxi9.out,hFF.out]
    ·rw[if_neg h9])).chg C18 hNg (by omega)
   have HC8:Hid (Chg g (g+1) w1 w18):=((HC1.out.trans (eZ.chg _ _)).newer c17 (by omega)).trans C18;have hs8:wq.heap.size<=w18.heap.size:=by have:=eZ.size;have:=c17.size;omega
   clear E18 F18 C18 F17 hG8 c17 hGz BX hbj gj1 gj2 eZ p0 p1 r0 r1 r2 r3 q0 q1 HG1 HL1 HF1 HC1 b0 b1 b2 b3 b4 c1 HRX hE;go_wp2;go_roundw
   case rel=>exact⟨j+1,_,_,by omega,by go_num,HF8,HL8,HG8,HC8,hs8⟩
   case measure=>simp[intOf];omega
def OwR (N g top:Nat) (w:World) (f:Nat->Value) (i c:Nat):Prop :=
 ∃β κ:Nat->Nat,(∀a,a<i->f a=.slice (some ⟨β a,0,none⟩) c (κ a)/\g<β a/\β a<top/\κ a<=maxLen/\kS N w (β a) (κ a) c (fun _=>0))/\∀a b,a<i->b<i->a≠b->β a≠β b
theorem OwR.nil (N g top:Nat) (w:World) (f:Nat->Value) (c:Nat):OwR N g top w f 0 c:=⟨fun _=>0,fun _=>0,fun a ha=>absurd ha (Nat.not_lt_zero a),fun a _ ha=>absurd ha (Nat.not_lt_zero a)⟩
theorem OwR.ext {top:Nat}{f:Nat->Value}(h:OwR N g top w f i c) (e:Ext w w'):OwR N g top w' f i c:=by
 obtain⟨β,κ,h1,h2⟩:=h;exact⟨β,κ,fun a ha=>⟨(h1 a ha).1,(h1 a ha).2.1,(h1 a ha).2.2.1,(h1 a ha).2.2.2.1,(h1 a ha).2.2.2.2.ext e⟩,h2⟩
theorem OwR.chg {top l u:Nat}{f:Nat->Value}(h:OwR N g top w f i c) (C:Chg l u w w') (hN:N<=l) (hd:top<=l\/u<=g+1):OwR N g top w' f i c:=by
 obtain⟨β,κ,h1,h2⟩:=h;exact⟨β,κ,fun a ha=>⟨(h1 a ha).1,(h1 a ha).2.1,(h1 a ha).2.2.1,(h1 a ha).2.2.2.1,(h1 a ha).2.2.2.2.chg C hN (by have:=h1 a ha;omega)⟩,h2⟩
theorem OwR.add {top:Nat}{f:Nat->Value}(h:OwR N g top w f i c)(hG:Grow N top w (.slice A c k) c (fun _=>0)) (hc:0<c) (hg:g<top) (ht:top<=w.heap.size):OwR N g w.heap.size w (fun a=>if a=i then .slice A c k else f a) (i+1) c:=by
 obtain⟨β,κ,h1,h2⟩:=h;obtain⟨b,cap,hv,hb,hbl,hm,-,hr⟩:=hG.some hc;refine⟨fun a=>if a=i then b else β a,fun a=>if a=i then cap else κ a,fun a ha=>?_,fun a a' ha ha' hne=>?_⟩
 ·by_cases hai:a=i
  ·show (if a=i then Value.slice A c k else f a)=.slice (some ⟨if a=i then b else β a,0,none⟩) c (if a=i then cap else κ a)/\g<(if a=i then b else β a)/\(if a=i then b else β a)<_/\(if a=i then cap else κ a)<=_/\kS N w (if a=i then b else β a) (if a=i then cap else κ a) c _
   rw[if_pos hai,if_pos hai,if_pos hai];exact⟨hv,by omega,hbl,hm,hr⟩
  ·show (if a=i then Value.slice A c k else f a)=.slice (some ⟨if a=i then b else β a,0,none⟩) c (if a=i then cap else κ a)/\g<(if a=i then b else β a)/\(if a=i then b else β a)<_/\(if a=i then cap else κ a)<=_/\kS N w (if a=i then b else β a) (if a=i then cap else κ a) c _
   rw[if_neg hai,if_neg hai,if_neg hai];obtain⟨h3,h4,h5,h6,h7⟩:=h1 a (by omega);exact⟨h3,h4,by omega,h6,h7⟩
 ·show (if a=i then b else β a)≠(if a'=i then b else β a')
  by_cases hai:a=i
  ·rw[if_pos hai,if_neg (by omega)];have:=(h1 a' (by omega)).2.2.1;omega
  ·rw[if_neg hai]
   by_cases hai':a'=i
   ·rw[if_pos hai'];have:=(h1 a (by omega)).2.2.1;omega
   ·rw[if_neg hai'];exact h2 a a' (by omega) (by omega) hne
theorem OwR.own{w0:World}{f:Nat->Value}{r:Nat}(h:OwR N g w.heap.size w f r c) (hF:FlB 37 w g r f) (hg:w0.heap.size<=g) (hg2:g<w.heap.size) (hN:N<=w0.heap.size) (hr:r<1000000) (e:Ext w0 w):zY N w0 r c (fun _ _=>0) (.returned (.slice (some ⟨g,0,none⟩) r r)) w:=by
 obtain⟨β,κ,h1,h2⟩:=h;obtain⟨cs,h3,h4,h5⟩:=hF;refine⟨g,r,β,κ,rfl,by unfold maxLen;omega,⟨hN,⟨cs,h3,h4,fun i hi=>by rw[h5 i hi,(h1 i hi).1]⟩,q_r,hg,hg2,q_r,fun i hi=>by have:=(h1 i hi).2.1;omega,fun i hi=>(h1 i hi).2.2.1,fun i hi=>(h1 i hi).2.2.2.1,fun i hi=>(h1 i hi).2.2.2.2,fun i j hi hj hne=>h2 i j hi hj hne⟩,e⟩
theorem q5G(hN:N<=w.heap.size){r:Nat}(hr:r<1000) (hc:c<1000) (hc0:0<c) :
  Calls Tryz.prog 123 #[.int .i64 (r:Int),.int .i64 (c:Int)] w (zY N w r c (fun _ _=>0)):=by
 obtain⟨R,hR⟩:=qc (zY N w r c (fun _ _=>0));rw[<-hR.out];go_enter Tryz.func123,Tryz.ntmps123;go_wp2_with (at_make;refine q_o ?_);refine zQ Z8 rfl rfl _ _ 29 Tryz.underlying29 rfl .i64 .i64 _ _ r rfl rfl rfl rfl (by omega) ?_;intro w1 cs B1 hcs hz e1;obtain⟨g,hg⟩:=qc w.heap.size;have hg1:w.heap.size<=g:=by rw[hg.out];exact q_r
 rw[<-hg.out] at B1 ⊢;have hg2:g<w1.heap.size:=qF B1;have HF:Hid (FlB 37 w1 g r (fun _=>.slice none 0 0)):=⟨cs,B1,hcs,hz⟩
 clear B1 hcs hz hg;go_wp2_with fail
 go_loopw [11] (fun iv wr=>∃(i:Nat) (f:Nat->Value),i<=r/\iv=.int .i64 (i:Int)/\Hid (FlB 37 wr g r f)/\Hid (OwR N g wr.heap.size wr f i c)/\Hid (∀a,i<=a->f a=.slice none 0 0)/\g<wr.heap.size/\Ext w wr) (fun iv _=>r-(intOf iv).toNat)
 case atStart=>exact⟨0,_,Nat.zero_le _,rfl,HF,OwR.nil _ _ _ _ _ _,fun _ _=>rfl,hg2,e1⟩
 case round =>
  clear HF e1 hg2;obtain⟨i,f,hi,rfl,HF,HL,HZ,hg2,hE⟩:=hrel
  by_cases hlt:i<r
  case neg =>
   have t1:decide ((i:Int)<(r:Int))=false:=q_f (by omega);obtain rfl:r=i:=by omega
   go_wp2
   first|go_ret|skip
   rw[hR.out];exact HL.out.own HF.out hg1 hg2 (by omega) (by omega) hE
  have t1:decide ((i:Int)<(r:Int))=true:=q_t (by omega);have t2:(i:Int)<(r:Int):=by omega
  obtain⟨wq,hwq⟩:∃wq,wq=wr:=⟨_,rfl⟩
  subst hwq;have HI:Hid (Grow N wq.heap.size wq (.slice none 0 0) 0 (fun _=>0)):=Grow.nil (by have:=hE.size;omega) (q_r) _
  have HF0:Hid (FlB 37 wq g r (fun a=>if a=i then .slice none 0 0 else f a)):=by
   obtain⟨cs,h1,h2,h3⟩:=HF.out;refine⟨cs,h1,h2,fun a ha=>?_⟩;rw[h3 a ha]
   show some (f a)=some (if a=i then .slice none 0 0 else f a)
   by_cases hai:a=i
   ·rw[if_pos hai,HZ.out a (by omega)]
   ·rw[if_neg hai]
  go_wp2_with fail
  go_loopw [15] (fun jv wr=>∃(j:Nat) (A:Option Addr) (k:Nat),j<=c/\jv=.int .i64 (j:Int)/\Hid (FlB 37 wr g r (fun a=>if a=i then .slice A j k else f a))/\Hid (OwR N g wq.heap.size wr f i c)/\Hid (Grow N wq.heap.size wr (.slice A j k) j (fun _=>0))/\Hid (Ext w wr)/\wq.heap.size<=wr.heap.size) (fun jv _=>c-(intOf jv).toNat)
  case atStart=>exact⟨0,_,_,Nat.zero_le _,rfl,HF0,HL,HI,hE,q_r⟩
  case round =>
   clear HF0 HI;obtain⟨j,A,k,hj,rfl,HF1,HL1,HG1,HC1,hs1⟩:=hrel
   by_cases hlt2:j<c
   case neg =>
    have t3:decide ((j:Int)<(c:Int))=false:=q_f (by omega);obtain rfl:c=j:=by omega
    have HL2:Hid (OwR N g wr.heap.size wr (fun a=>if a=i then .slice A c k else f a) (i+1) c):=HL1.out.add HG1.out hc0 (by omega) hs1
    have HZ2:Hid (∀a,i+1<=a->(if a=i then Value.slice A c k else f a)=.slice none 0 0):=fun a ha=>by
     rw[if_neg (by omega)];exact HZ.out a (by omega)
    have hE2:=HC1.out;go_wp2;go_roundw
    case rel=>exact⟨i+1,_,by omega,by go_num,HF1,HL2,HZ2,by omega,hE2⟩
    case measure=>simp[intOf];omega
   have t3:decide ((j:Int)<(c:Int))=true:=q_t (by omega);have t4:(j:Int)<(c:Int):=by omega
   have p0:=(HF1.out.cell hlt).1;rw[if_pos rfl] at p0;have hNr:N<=wr.heap.size:=by have:=hE.size;omega
   obtain⟨wx,hwx⟩:∃wx,wx=wr:=⟨_,rfl⟩
   subst hwx;have HGA:=HG1;go_upto_region 7 with (fail);refine q8h [Mn.eq (.slice (some ⟨g,0,none⟩) r r),Mn.i (i:Int),Mn.eq (.slice (some ⟨g,0,none⟩) r r),Mn.i (i:Int),Mn.q g i,Mn.eq (.slice A j k),Mn.rat N (0:Rat),Mn.rbk N (0:Rat),Mn.any,Mn.any,Mn.any] [some 17,some 18,some 19,some 20,some 21,some 22,some 23,some 24,some 25,some 26,none] [8,9,10] [0,1] (rQ 8 3) 3 (by kernel_rfl) ?_ ?_ ?_
   ·show ∀i,i<11->_
    iterate 11 refine fs ?_ ?_
    ·exact fz
    all_goals intro hl hs;first|exact absurd hl (by decide)|exact absurd hs (by decide)|(clear hl hs;refine stp rfl ?_;intro ac wi eI hB hA K hK)
    have o5:=oOf (hB 5) rfl;rotate_left;have o6:=oOf (hB 6) rfl;rotate_left;obtain⟨_,s19,rfl⟩:=hA 2 19;obtain⟨_,s20,rfl⟩:=hA 3 20;rotate_left;obtain⟨_,s21,rfl⟩:=hA 4 21;have cc0:=eI.cell p0;rotate_left;clear hB hA
    ·go_simp;refine (f_whole (q_l hNr eI.size) 0 (by decide) (by decide)).mono ?_;rintro e wj ⟨vj,rfl,hj,ej⟩;go_wp2_with fail;exact hK.out _ _ ej hj
    obtain⟨x23,s23,j23⟩:=hA 6 23;replace j23:Mn.p (Mn.rat N (0:Rat)) x23 wi:=j23;clear hB hA
    ·obtain⟨bj,Aj,kj,cj,Aj',kj',cj',rfl,hbj,gj1,gj2⟩:=qX.parts j23;go_simp;refine qo ?_;intro wj ej hszj BJ;exact hK.out _ _ ej ⟨_,rfl,je.mk BJ hbj (gj1.ext ej) (gj2.ext ej)⟩
    all_goals clear hB hA;go_simp;exact q_k hK rfl
   ·intro i hs;have hi':i=0\/i=1:=by simpa using hs
    clear hs
    rcases hi' with rfl|rfl
    ·refine sft rfl (fun _ _ _ _ h=>h) ?_;intro ac wi eI hB hA;have o5:=oOf (hB 5) rfl;clear hB hA;refine⟨(.slice (some ⟨g,0,none⟩) r r),.inl ⟨rfl,fun w9 _=>?_⟩,rfl⟩;go_simp
    ·refine sft rfl (fun _ _ _ _ h=>h) ?_;intro ac wi eI hB hA;have o6:=oOf (hB 6) rfl;clear hB hA;refine⟨(.int .i64 (i:Int)),.inl ⟨rfl,fun w9 _=>?_⟩,rfl⟩;go_simp
   intro vals wz eZ hJ;have J17:vals 0=_:=hJ 0 (by decide) (by decide);have J18:vals 1=_:=hJ 1 (by decide) (by decide);have J22:vals 5=_:=hJ 5 (by decide) (by decide);have J24:Mn.p (Mn.rbk N (0:Rat)) (vals 7) wz:=hJ 7 (by decide) (by decide);clear hJ;simp only[pr,Nat.reduceAdd,J17,J18,J22];clear J17 J18 J22
   generalize vals 7=z24 at J24 ⊢
   obtain⟨gb,rfl,bj,Aj,kj,cj,Aj',kj',cj',BX,hbj,gj1,gj2⟩:=J24;have hGz:=HG1.out.ext eZ;refine qj (i:=8) rfl (by kernel_rfl) (by kernel_rfl) (fun K hK=>?_);refine zZ rfl _ _ 37 Tryz.underlying37 rfl (by rfl) hGz (by rfl) BX hbj gj1 gj2 (by omega) ?_;rintro gq cq w17 g' hG8 hb9 c17 u1' u2';obtain⟨q0,q1⟩:=((HF1.out.ext eZ).chg c17 (.inl (by omega))).cell hlt;refine hK.out _ _ ?_;clear hK K;try simp only[nr]
   refine qj (i:=9) rfl (by kernel_rfl) (by kernel_rfl) (fun K hK=>?_);go_simp;refine hK.out _ _ ?_;clear hK K;try simp only[nr]
   refine qj (i:=10) rfl (by kernel_rfl) (by kernel_rfl) (fun K hK=>?_);go_simp;refine hK.out _ _ ?_;clear hK K;try simp only[nr]
   refine qg (by kernel_rfl) ?_ _;have F17:=(HF1.out.ext eZ).chg c17 (.inl (by omega));obtain⟨w18,E18,F18,C18,hs18⟩:=F17.set WP hlt (.slice (some ⟨gq,0,none⟩) (j+1) cq);rw[E18]
   have HF8:Hid (FlB 37 w18 g r (fun a=>if a=i then .slice (some ⟨gq,0,none⟩) (j+1) cq else f a)):=by
    obtain⟨cs,h1,h2,h3⟩:=F18;refine⟨cs,h1,h2,fun a ha=>?_⟩;rw[h3 a ha]
    show some (if a=i then _ else (if a=i then Value.slice A j k else f a))=some (if a=i then _ else f a)
    by_cases hai:a=i
    ·rw[if_pos hai,if_pos hai]
    ·rw[if_neg hai,if_neg hai,if_neg hai]
   have hNg:N<=g:=by omega
   have hNg':N<=g':=by omega
   have HL8:Hid (OwR N g wq.heap.size w18 f i c):=((HL1.out.ext eZ).chg c17 hNg' (.inl hb9)).chg C18 hNg (.inr (q_r));have HG8:Hid (Grow N wq.heap.size w18 (.slice (some ⟨gq,0,none⟩) (j+1) cq) (j+1) (fun _=>0)):=(hG8.congr (y:=fun _=>0) (fun a _=>by unfold upd;split<;>rfl)).chg C18 hNg (by omega);have hE8:Hid (Ext w w18):=C18.ext (c17.ext (HC1.out.trans eZ) (by have:=hE.size;omega)) hg1;have hs8:wq.heap.size<=w18.heap.size:=by have:=eZ.size;have:=c17.size;omega
   clear E18 F18 C18 F17 hG8 c17 hGz BX hbj gj1 gj2 eZ p0 q0 q1 HGA HG1 HL1 HF1 HC1;go_wp2;go_roundw
   case rel=>exact⟨j+1,_,_,by omega,by go_num,HF8,HL8,HG8,hE8,hs8⟩
   case measure=>simp[intOf];omega
def q5q (Z:Sys) (p q a b:Nat):Rat :=
 match (List.range Z.nb).find? (fun t=>decide ((Z.b t).r=(p:Int)/\(Z.b t).c=(q:Int))) with
 | some t=>zl ((Z.b t).A a b)
 | none=>0
theorem Jv {Z:Sys}(h:Okk Z)(hi:i<Z.nb){p q:Nat}(hr:(Z.b i).r=(p:Int)) (hc:(Z.b i).c=(q:Int)) (a b:Nat):q5q Z p q a b=zl ((Z.b i).A a b):=by
 have h1:(List.range Z.nb).find? (fun t=>decide ((Z.b t).r=(p:Int)/\(Z.b t).c=(q:Int)))=some i:=by
  rw[List.find?_range_eq_some];refine⟨decide_eq_true ⟨hr,hc⟩,List.mem_range.2 hi,fun j hj=>?_⟩;have h2:=V9 h hj hi;rw[JF] at h2;simp only[Bool.not_eq_true',decide_eq_false_iff_not];omega
 unfold q5q;rw[h1]
theorem Ju {Z:Sys}{p q:Nat}(h:∀i,i<Z.nb->¬((Z.b i).r=(p:Int)/\(Z.b i).c=(q:Int))) (a b:Nat):q5q Z p q a b=0:=by
 have h1:(List.range Z.nb).find? (fun t=>decide ((Z.b t).r=(p:Int)/\(Z.b t).c=(q:Int)))=none:=by
  rw[List.find?_eq_none];intro i hi;simpa using h i (List.mem_range.1 hi)
 unfold q5q;rw[h1]
def q8j (Z:Sys) (z:Nat->Nat) (x y:Nat):Rat:=q5q Z (yT z Z.ns x) (yT z Z.ns y) (x-ql z (yT z Z.ns x)) (y-ql z (yT z Z.ns y))
def kK (Z:Sys) (z:Nat->Nat) (x y:Nat):Rat:=q8j Z z (max x y) (min x y)
theorem Zg (Z:Sys) (z:Nat->Nat) (x y:Nat):kK Z z x y=kK Z z y x:=by unfold kK;rw[Nat.max_comm,Nat.min_comm]
theorem VW {Z:Sys}{z:Nat->Nat}{r a:Nat}(hr:r<Z.ns) (hc:c<Z.ns) (ha:a<z r) (hb:b<z c):q8j Z z (ql z r+a) (ql z c+b)=q5q Z r c a b:=by
 have h1:yT z Z.ns (ql z r+a)=r:=Xy hr (by omega) (by show ql z r+a<ql z r+z r;omega);have h2:yT z Z.ns (ql z c+b)=c:=Xy hc (by omega) (by show ql z c+b<ql z c+z c;omega);unfold q8j;rw[h1,h2,Nat.add_sub_cancel_left,Nat.add_sub_cancel_left]
theorem q7K {Z:Sys}{z:Nat->Nat}(h:Okk Z) (hz:∀i,i<Z.ns->Z.z i=(z i:Int)){r a:Nat}(hr:r<Z.ns) (ha:a<z r) (hb:b<z r):q5q Z r r a b=q5q Z r r b a:=by
 by_cases h1:∃i,i<Z.nb/\(Z.b i).r=(r:Int)/\(Z.b i).c=(r:Int)
 ·obtain⟨i,hi,h2,h3⟩:=h1;rw[Jv h hi h2 h3,Jv h hi h2 h3];obtain⟨-,-,-,h4,-⟩:=jT h hi;obtain⟨h5,h6⟩:=vU h4;rw[h2,Int.toNat_natCast,hz r hr] at h5
  have h8:q4f (Z.b i)=true:=by
   unfold Qn at h4;rw[Bool.and_eq_true,Bool.and_eq_true,Bool.or_eq_true] at h4
   rcases h4.2.2 with h9|h9
   ·rw[q_t (by rw[h2,h3])] at h9;cases h9
   ·exact h9
  unfold q4f at h8;rw[qm] at h8;have h9:∀a b,b<a->a<z r->zl ((Z.b i).A a b)=zl ((Z.b i).A b a):=fun a b hba ha=>of_decide_eq_true (qm.1 (h8 a (by omega)) b hba)
  rcases Nat.lt_trichotomy a b with h10|h10|h10
  ·exact (h9 b a h10 hb).symm
  ·rw[h10]
  ·exact h9 a b h10 ha
 ·have h2:∀i,i<Z.nb->¬((Z.b i).r=(r:Int)/\(Z.b i).c=(r:Int)):=fun i hi h9=>h1 ⟨i,hi,h9⟩
  rw[Ju h2,Ju h2]
theorem q7R {Z:Sys}{z:Nat->Nat}(h:Okk Z) (hz:∀i,i<Z.ns->Z.z i=(z i:Int)){r a:Nat}(hcr:c<=r) (hr:r<Z.ns) (ha:a<z r) (hb:b<z c):kK Z z (ql z r+a) (ql z c+b)=q5q Z r c a b:=by
 unfold kK
 by_cases hrc:r=c
 ·subst hrc
  rcases Nat.le_total b a with h1|h1
  ·rw[Nat.max_eq_left (by omega),Nat.min_eq_right (by omega)];exact VW hr hr ha hb
  ·rw[Nat.max_eq_right (by omega),Nat.min_eq_left (by omega),q7K h hz hr ha hb];exact VW hr hr hb ha
 ·have h1:ql z (c+1)<=ql z r:=qK z (by omega);have h2:ql z (c+1)=ql z c+z c:=rfl;rw[Nat.max_eq_left (by omega),Nat.min_eq_right (by omega)];exact VW hr (by omega) ha hb
theorem q0j {Z:Sys}{z:Nat->Nat}(h:Okk Z) (hz:∀i,i<Z.ns->Z.z i=(z i:Int))(hi:i<Z.nb){a:Nat}(ha:a<z (Z.b i).r.toNat) (hb:b<z (Z.b i).c.toNat):kK Z z (ql z (Z.b i).r.toNat+a) (ql z (Z.b i).c.toNat+b)=zl ((Z.b i).A a b):=by
 obtain⟨h1,h2,h3,-⟩:=jT h hi;rw[q7R h hz (by omega) (by omega) ha hb,Jv h hi (by omega) (by omega)]
theorem q3C {Z:Sys}{z:Nat->Nat}{x y:Nat}(hx:x<ql z Z.ns) (hy:y<ql z Z.ns) (h:∀i,i<Z.nb->∀a b,a<z (Z.b i).r.toNat->b<z (Z.b i).c.toNat->¬(x=ql z (Z.b i).r.toNat+a/\y=ql z (Z.b i).c.toNat+b)/\¬(y=ql z (Z.b i).r.toNat+a/\x=ql z (Z.b i).c.toNat+b)):kK Z z x y=0:=by
 have key:∀u v,u<ql z Z.ns->v<ql z Z.ns->(∀i,i<Z.nb->∀a b,a<z (Z.b i).r.toNat->b<z (Z.b i).c.toNat->¬(u=ql z (Z.b i).r.toNat+a/\v=ql z (Z.b i).c.toNat+b))->q8j Z z u v=0:=fun u v hu hv h=>by
  obtain⟨p1,p2,p3⟩:=QQ hu;obtain⟨q1,q2,q3⟩:=QQ hv;have p4:ql z (yT z Z.ns u+1)=ql z (yT z Z.ns u)+z (yT z Z.ns u):=rfl;have q4:ql z (yT z Z.ns v+1)=ql z (yT z Z.ns v)+z (yT z Z.ns v):=rfl;unfold q8j;refine Ju (fun i hi ⟨h1,h2⟩=>?_) _ _;have h3:=h i hi (u-ql z (yT z Z.ns u)) (v-ql z (yT z Z.ns v));rw[h1,h2,Int.toNat_natCast,Int.toNat_natCast] at h3;exact h3 (by omega) (by omega) ⟨by omega,by omega⟩
 unfold kK
 rcases Nat.le_total y x with h1|h1
 ·rw[Nat.max_eq_left h1,Nat.min_eq_right h1];exact key x y hx hy (fun i hi a b ha hb=>(h i hi a b ha hb).1)
 ·rw[Nat.max_eq_right h1,Nat.min_eq_left h1];exact key y x hy hx (fun i hi a b ha hb=>(h i hi a b ha hb).2)
structure DnP (Z:Sys) (z:Nat->Nat) (A:q_m) (i a b:Nat):Prop where
 or:∀x y,x<ql z Z.ns->y<ql z Z.ns->A x y=kK Z z x y\/A x y=0
 all:∀j,j<i->∀a' b',a' < z (Z.b j).r.toNat->b' < z (Z.b j).c.toNat->A (ql z (Z.b j).r.toNat+a') (ql z (Z.b j).c.toNat+b')=kK Z z (ql z (Z.b j).r.toNat+a') (ql z (Z.b j).c.toNat+b')/\A (ql z (Z.b j).c.toNat+b') (ql z (Z.b j).r.toNat+a')=kK Z z (ql z (Z.b j).c.toNat+b') (ql z (Z.b j).r.toNat+a')
 rows:∀a' b',(a' < a\/(a'=a/\b' < b))->a' < z (Z.b i).r.toNat->b' < z (Z.b i).c.toNat->A (ql z (Z.b i).r.toNat+a') (ql z (Z.b i).c.toNat+b')=kK Z z (ql z (Z.b i).r.toNat+a') (ql z (Z.b i).c.toNat+b')/\A (ql z (Z.b i).c.toNat+b') (ql z (Z.b i).r.toNat+a')=kK Z z (ql z (Z.b i).c.toNat+b') (ql z (Z.b i).r.toNat+a')
theorem DnP.start (Z:Sys) (z:Nat->Nat):DnP Z z (fun _ _=>0) 0 0 0:=⟨fun _ _ _ _=>.inr rfl,fun j hj=>absurd hj (Nat.not_lt_zero j),fun a b h=>by omega⟩
theorem DnP.row {Z:Sys}{z:Nat->Nat}{A:q_m}{a:Nat}(h:DnP Z z A i a (z (Z.b i).c.toNat)):DnP Z z A i (a+1) 0:=⟨h.or,h.all,fun a' b' h1 h2 h3=>h.rows a' b' (by omega) h2 h3⟩
theorem DnP.blk {Z:Sys}{z:Nat->Nat}{A:q_m}(h:DnP Z z A i (z (Z.b i).r.toNat) 0):DnP Z z A (i+1) 0 0:=⟨h.or,fun j hj a' b' h2 h3=>by
 by_cases hji:j=i
 ·subst hji;exact h.rows a' b' (by omega) h2 h3
 ·exact h.all j (by omega) a' b' h2 h3,fun a b h=>by omega⟩
theorem DnP.put {Z:Sys}{z:Nat->Nat}{A:q_m}{a:Nat}(h:DnP Z z A i a b){x y:Nat}(hx:x=ql z (Z.b i).r.toNat+a) (hy:y=ql z (Z.b i).c.toNat+b) (hq:q=kK Z z x y) :
  DnP Z z (xE (xE A x (upd (A x) y q)) y (upd (xE A x (upd (A x) y q) y) x q)) i a (b+1):=by
 have hA:∀u v,xE (xE A x (upd (A x) y q)) y (upd (xE A x (upd (A x) y q) y) x q) u v=A u v\/xE (xE A x (upd (A x) y q)) y (upd (xE A x (upd (A x) y q) y) x q) u v=kK Z z u v:=fun u v=>by
  unfold xE
  by_cases h1:u=y
  ·rw[if_pos h1];unfold upd
   by_cases h2:v=x
   ·rw[if_pos h2,h1,h2,hq];exact .inr (Zg Z z _ _)
   ·rw[if_neg h2]
    by_cases h3:y=x
    ·rw[if_pos h3]
     by_cases h4:v=y
     ·rw[if_pos h4,h1,h4,hq];exact .inr (by rw[h3])
     ·rw[if_neg h4,h1,h3];exact .inl rfl
    ·rw[if_neg h3,h1];exact .inl rfl
  ·rw[if_neg h1]
   by_cases h2:u=x
   ·rw[if_pos h2];unfold upd
    by_cases h3:v=y
    ·rw[if_pos h3,h2,h3];exact .inr hq
    ·rw[if_neg h3,h2];exact .inl rfl
   ·rw[if_neg h2];exact .inl rfl
 have hP1:xE (xE A x (upd (A x) y q)) y (upd (xE A x (upd (A x) y q) y) x q) y x=kK Z z y x:=by
  unfold xE;rw[if_pos rfl];unfold upd;rw[if_pos rfl,hq];exact Zg Z z _ _
 have hP2:xE (xE A x (upd (A x) y q)) y (upd (xE A x (upd (A x) y q) y) x q) x y=kK Z z x y:=by
  unfold xE
  by_cases h1:x=y
  ·rw[if_pos h1];unfold upd;rw[if_pos h1.symm];exact hq
  ·rw[if_neg h1,if_pos rfl];unfold upd;rw[if_pos rfl];exact hq
 have hm:∀u v,A u v=kK Z z u v->xE (xE A x (upd (A x) y q)) y (upd (xE A x (upd (A x) y q) y) x q) u v=kK Z z u v:=fun u v h1=>(hA u v).elim (fun h2=>h2.trans h1) id
 refine⟨fun u v hu hv=>(hA u v).elim (fun h2=>by rw[h2];exact h.or u v hu hv) .inl,fun j hj a' b' h2 h3=>?_,fun a' b' h1 h2 h3=>?_⟩
 ·obtain⟨h4,h5⟩:=h.all j hj a' b' h2 h3;exact⟨hm _ _ h4,hm _ _ h5⟩
 ·by_cases h6:a'=a/\b'=b
  ·obtain⟨rfl,rfl⟩:=h6;rw[<-hx,<-hy];exact⟨hP2,hP1⟩
  ·obtain⟨h4,h5⟩:=h.rows a' b' (by omega) h2 h3;exact⟨hm _ _ h4,hm _ _ h5⟩
theorem DnP.done {Z:Sys}{z:Nat->Nat}{A:q_m}(h:DnP Z z A Z.nb 0 0):∀x,x<ql z Z.ns->∀y,y<ql z Z.ns->A x y=kK Z z x y:=fun x hx y hy=>by
 by_cases h1:∃i,i<Z.nb/\∃a b,a<z (Z.b i).r.toNat/\b<z (Z.b i).c.toNat/\((x=ql z (Z.b i).r.toNat+a/\y=ql z (Z.b i).c.toNat+b)\/(y=ql z (Z.b i).r.toNat+a/\x=ql z (Z.b i).c.toNat+b))
 ·obtain⟨i,hi,a,b,ha,hb,⟨rfl,rfl⟩|⟨rfl,rfl⟩⟩:=h1
  ·exact (h.all i hi a b ha hb).1
  ·exact (h.all i hi a b ha hb).2
 ·have h2:kK Z z x y=0:=q3C hx hy fun i hi a b ha hb=>⟨fun h9=>h1 ⟨i,hi,a,b,ha,hb,.inl h9⟩,fun h9=>h1 ⟨i,hi,a,b,ha,hb,.inr h9⟩⟩
  rw[h2]
  rcases h.or x y hx hy with h3|h3
  ·rw[h3,h2]
  ·exact h3
theorem q83{Z:Sys}(h:jI N lo hi w v Z) (h0:Okk Z){z:Nat->Nat}(hz:∀i,i<Z.ns->Z.z i=(z i:Int)) :
  Calls Tryz.prog 90 #[v] w (zY N w (ql z Z.ns) (ql z Z.ns) (kK Z z)):=by
 obtain⟨Q,hQ⟩:=qc (zY N w (ql z Z.ns) (ql z Z.ns) (kK Z z));rw[<-hQ.out];have HS:=q_h h;have HO:=q_h h0;have HZ:=q_h hz;obtain⟨A1,c1,A2,c2,A3,c3,rfl,s1,s2,s3,k1,k2,k3⟩:=h.parts;have HB:=q_h s2;have hN:=LsR.le s3;obtain⟨n,hn⟩:=qc (ql z Z.ns);have hn64:n<=64:=by have h1:=h0.tot;rw[ku hz] at h1;have:=hn.out;omega
 have hn1:0<n:=by
  have h1:=(Zk Z.ns h0.szs).1;have h2:=h0.n1;rw[ku hz] at h1;have:=hn.out;omega
 have HST:=fun (w':World) (e:Ext w w')=>Zh (h.ext e) h0.n2 h0.szs
 obtain⟨m,hm⟩:=qc Z.ns;obtain⟨nb,hnb⟩:=qc Z.nb;obtain⟨kk,hkk⟩:=qc Z.k;rw[<-hm.out,<-hnb.out,<-hkk.out] at HST ⊢;rw[<-hm.out] at k1;rw[<-hnb.out] at k2;rw[<-hkk.out] at k3;have HST':=q_h HST;have hm12:m<=12:=by have:=h0.n2;have:=hm.out;omega
 clear h h0 hz s1 s2 s3 HST;go_enter Tryz.func90,Tryz.ntmps90;go_upto_region 1 with (fail);refine qo ?_;intro w1 hE hsz B0;obtain⟨g1,hg1⟩:=qc w.heap.size;have hg1':w.heap.size<=g1:=by rw[hg1.out];exact q_r
 have hg1s:g1<w1.heap.size:=by rw[hg1.out];omega
 rw[<-hg1.out] at B0 ⊢;obtain⟨a0,a1,a2,-⟩:=cells3 B0;clear hg1 hsz;go_wp2_with (go_at_call 36;refine q_o ?_);refine (HST'.out _ hE).mono ?_;rintro e w2 ⟨gs,cs,rfl,⟨hcs1,hcs2⟩,hgs1,hgs2,hgs3,e2⟩;have hgs:w.heap.size<=gs:=q_l hE.size hgs1;unfold maxLen at hcs2
 have HG0:Hid (∀i,i<m+1->w2.cell? ⟨gs,i,none⟩=some (.int .i64 (ql z i:Int))):=fun i hi=>by
  rw[<-ku (fun j hj=>HZ.out j (by have:=hm.out;omega))];exact hgs3 i hi
 replace hE:=hE.trans e2;replace B0:=e2.block B0;replace hg1s:=Nat.lt_of_lt_of_le hg1s e2.size;have q0:=HG0.out m (by omega);rw[hm.out,<-hn.out,<-hm.out] at q0;have t1:IntKind.i64.wrap ((m:Int)+1-1)=(m:Int):=by rw[wrp (by omega) (by omega)];omega
 have t2:(m:Int)<(m:Int)+1:=by omega
 clear a0 a1 a2 HST' e2 hgs1 hgs3;go_wp2_with (go_at_call 123;refine q_o ?_);refine (q5G (N:=N) (by have:=hE.size;omega) (r:=n) (c:=n) (by omega) (by omega) hn1).mono ?_;rintro e wZ ⟨hh,cap,β,κ,rfl,hcap,ho,eZ⟩;have HO0:Hid (∃A,qU N w2.heap.size wZ.heap.size wZ hh cap n n β κ A/\DnP Z z A 0 0 0):=⟨_,ho,DnP.start Z z⟩
 have HEZ:=q_h (hE.trans eZ);have HBZ:=q_h (eZ.block B0);have HGZ:Hid (∀i,i<m+1->wZ.cell? ⟨gs,i,none⟩=some (.int .i64 (ql z i:Int))):=fun i hi=>eZ.cell (HG0.out i hi)
 have hE2s:=hE.size;have hno:n<=cap:=ho.mle;have hsz2:=eZ.size;clear ho eZ HG0 B0 hE q0 t1 t2;obtain⟨a0,a1,a2,-⟩:=cells3 HBZ.out;go_wp2_with fail
 go_loopw [26] (fun iv wr=>∃i:Nat,i<=nb/\iv=.int .i64 (i:Int)/\Hid (∃A,qU N w2.heap.size wZ.heap.size wr hh cap n n β κ A/\DnP Z z A i 0 0)/\Hid (Chg w2.heap.size wZ.heap.size wZ wr)) (fun iv _=>nb-(intOf iv).toNat)
 case atStart=>exact⟨0,Nat.zero_le _,rfl,HO0,Chg.refl _ _ _⟩
 case round =>
  clear HO0 a0 a1 a2;obtain⟨i,hi9,rfl,HOM,HC⟩:=hrel
  by_cases hlt:i<nb
  case neg =>
   have t1:decide ((i:Int)<(nb:Int))=false:=q_f (by omega);obtain rfl:nb=i:=by omega
   have HE9:Hid (Ext w wr):=HC.out.ext HEZ.out (by omega)
   have HR9:Hid (qU N w.heap.size wr.heap.size wr hh cap n n β κ (kK Z z)):=by
    obtain⟨A,h1,h2⟩:=HOM.out;rw[hnb.out] at h2;exact (h1.congr (B:=kK Z z) (fun x hx y hy=>h2.done x (by rw[<-hn.out];exact hx) y (by rw[<-hn.out];exact hy))).wide hE2s hN HC.out.size (q_r)
   go_wp2
   first|go_ret|skip
   rw[hQ.out,<-hn.out];exact⟨hh,cap,β,κ,rfl,hcap,HR9.out,HE9.out⟩
  have t1:decide ((i:Int)<(nb:Int))=true:=q_t (by omega);have t2:(i:Int)<(nb:Int):=by omega
  have hEi:=HC.out.ext HEZ.out (by omega);have HBi:=HB.out;rw[<-hnb.out] at HBi;obtain⟨b,off,rfl,hx⟩:=HBi.addr (by omega);obtain⟨Ab,cb,p0,p1,p2,hM,hm9⟩:=(hx i hlt).box;replace p0:=hEi.cell p0;replace p1:=hEi.cell p1;replace p2:=hEi.cell p2;have HIB:Hid (i<Z.nb):=by rw[Hid,<-hnb.out];exact hlt
  obtain⟨r1,r2,r3,r4,-⟩:=jT HO.out HIB.out;obtain⟨r5,r6⟩:=vU r4;obtain⟨R,hR⟩:=qc (Z.b i).r.toNat;obtain⟨C,hC⟩:=qc (Z.b i).c.toNat;rw[show (Z.b i).r=(R:Int) by have:=hR.out;omega] at p0;rw[show (Z.b i).c=(C:Int) by have:=hC.out;omega] at p1;have hRm:R<m:=by have:=hR.out;have:=hm.out;omega
  have hCR:C<=R:=by have:=hR.out;have:=hC.out;omega
  rw[<-hR.out,HZ.out R (by rw[<-hm.out];exact hRm)] at r5
  have HLC:Hid (∀a,a<(Z.b i).m->(Z.b i).L a=z C):=fun a ha=>by
   have h9:=r6 a ha;rw[<-hC.out,HZ.out C (by rw[<-hm.out];omega)] at h9;omega
  have hmr:(Z.b i).m=z R:=by omega
  rw[hmr] at p2 hm9;have hmR:=q_h hmr
  have hXR:ql z R+z R<=n:=by
   have h1:=qK z (show R+1<=m by omega);have h2:ql z (R+1)=ql z R+z R:=rfl;have:=hn.out;rw[<-hm.out] at this;omega
  have hXC:ql z C+z C<=n:=by
   have h1:=qK z (show C+1<=m by omega);have h2:ql z (C+1)=ql z C+z C:=rfl;have:=hn.out;rw[<-hm.out] at this;omega
  obtain⟨S,hS⟩:=qc (z R);rw[<-hS.out] at p2 hm9 hXR
  have HMW:Hid (MtR N lo hi w (.slice Ab S cb) S (Z.b i).L (Z.b i).A):=by
   rw[hmR.out,<-hS.out] at hM;exact hM
  have g0':=HC.out.cell (HGZ.out R (by omega)) (.inl (by show gs<w2.heap.size;omega));have g1'':=HC.out.cell (HGZ.out C (by omega)) (.inl (by show gs<w2.heap.size;omega));obtain⟨P,hP⟩:=qc (ql z R);obtain⟨T,hT⟩:=qc (ql z C);rw[<-hP.out] at hXR g0';rw[<-hT.out] at hXC g1'';have HGR:=q_h g0';have HGC:=q_h g1'';have hzs:=HC.out.size;obtain⟨wq,hwq⟩:∃wq,wq=wr:=⟨_,rfl⟩
  subst hwq;clear hx HBi hM r1 r2 r3 r4 r5 r6 hmr g0' g1'';go_upto_region 7 with (fail);refine qo ?_;intro w7 e7 hsz7 B7;obtain⟨g7,hg7⟩:=qc wq.heap.size;have hg7q:wq.heap.size<=g7:=by rw[hg7.out];exact q_r
  rw[<-hg7.out] at B7 ⊢;have HB7:=q_h B7;have hg77:g7<w7.heap.size:=qF B7;have HC7:Hid (Chg w2.heap.size wZ.heap.size wZ w7):=HC.out.trans (e7.chg _ _);have HGR7:=q_h (e7.cell HGR.out);have HGC7:=q_h (e7.cell HGC.out)
  have HO7:Hid (∃A,qU N w2.heap.size wZ.heap.size w7 hh cap n n β κ A/\DnP Z z A i 0 0):=by
   obtain⟨A,h1,h2⟩:=HOM.out;exact⟨A,h1.ext e7,h2⟩
  obtain⟨b0,b1,b2,-⟩:=cells3 B7;clear B7 e7 p0 p1 p2 HOM HC HGR HGC hEi hg7 hsz7;go_wp2_with fail
  go_loopw [33] (fun iv wr=>∃a:Nat,a<=S/\iv=.int .i64 (a:Int)/\Hid (∃A,qU N w2.heap.size wZ.heap.size wr hh cap n n β κ A/\DnP Z z A i a 0)/\Hid (Chg w2.heap.size wZ.heap.size w7 wr)) (fun iv _=>S-(intOf iv).toNat)
  case atStart=>exact⟨0,Nat.zero_le _,rfl,HO7,Chg.refl _ _ _⟩
  case round =>
   clear HO7 b0 b1 b2;obtain⟨a,ha9,rfl,HOA,HCA⟩:=hrel
   by_cases hla:a<S
   case neg =>
    have t3:decide ((a:Int)<(S:Int))=false:=q_f (by omega);obtain rfl:S=a:=by omega
    have HON:Hid (∃A,qU N w2.heap.size wZ.heap.size wr hh cap n n β κ A/\DnP Z z A (i+1) 0 0):=by
     obtain⟨A,h1,h2⟩:=HOA.out;refine⟨A,h1,DnP.blk ?_⟩;rw[<-hR.out,<-hS.out];exact h2
    have HCN:Hid (Chg w2.heap.size wZ.heap.size wZ wr):=HC7.out.trans HCA.out;go_wp2;go_roundw
    case rel=>exact⟨i+1,by omega,by go_num,HON,HCN⟩
    case measure=>simp[intOf];omega
   have t3:decide ((a:Int)<(S:Int))=true:=q_t (by omega);have t4:(a:Int)<(S:Int):=by omega
   have hEa:=HCA.out.ext (HC7.out.ext HEZ.out (by omega)) (by omega);obtain⟨bm,om,rfl,-,-,hxm⟩:=MtR.addr HMW.out (by omega);obtain⟨Aa,ca,p0,hca1,hca2,hrow⟩:=hxm a hla;have hla9:=HLC.out a (by rw[hmR.out,<-hS.out];exact hla);rw[hla9] at p0 hrow hca1;obtain⟨D,hD⟩:=qc (z C);rw[<-hD.out] at p0 hrow hca1;have hXD:T+D<=n:=by rw[hD.out];exact hXC
   have HRW:=q_h hrow;have HRC:Hid (∀b,b<D->(Z.b i).A a b=raw (zl ((Z.b i).A a b))):=fun b hb=>VZ HO.out HIB.out (by rw[hmR.out,<-hS.out];exact hla) (by rw[hla9,<-hD.out];exact hb)
   have HQX:Hid (∀b,b<D->kK Z z (P+a) (T+b)=zl ((Z.b i).A a b)):=fun b hb=>by
    have h9:=q0j HO.out HZ.out HIB.out (a:=a) (b:=b) (by rw[<-hR.out,<-hS.out];exact hla) (by rw[<-hC.out,<-hD.out];exact hb);rw[<-hR.out,<-hC.out,<-hP.out,<-hT.out] at h9;exact h9
   replace p0:=hEa.cell p0;obtain⟨b0,b1,b2,-⟩:=cells3 (HCA.out.blk HB7.out (.inr (by omega)));have hwr:wZ.heap.size<=wr.heap.size:=by have:=HCA.out.size;omega
   obtain⟨wp,hwp⟩:∃wp,wp=wr:=⟨_,rfl⟩
   subst hwp;clear hxm hrow hla9 hEa;go_wp2_with fail
   go_loopw [40] (fun iv wr=>∃b:Nat,b<=D/\iv=.int .i64 (b:Int)/\Hid (∃A,qU N w2.heap.size wZ.heap.size wr hh cap n n β κ A/\DnP Z z A i a b)/\Hid (Chg w2.heap.size wZ.heap.size w7 wr)) (fun iv _=>D-(intOf iv).toNat)
   case atStart=>exact⟨0,Nat.zero_le _,rfl,HOA,HCA⟩
   case round =>
    clear HOA HCA p0 b0 b1 b2;obtain⟨b9,hb9,rfl,HOB,HCB⟩:=hrel
    by_cases hlb:b9<D
    case neg =>
     have t5:decide ((b9:Int)<(D:Int))=false:=q_f (by omega);obtain rfl:D=b9:=by omega
     have HON:Hid (∃A,qU N w2.heap.size wZ.heap.size wr hh cap n n β κ A/\DnP Z z A i (a+1) 0):=by
      obtain⟨A,h1,h2⟩:=HOB.out;refine⟨A,h1,DnP.row ?_⟩;rw[<-hC.out,<-hD.out];exact h2
     go_wp2;go_roundw
     case rel=>exact⟨a+1,by omega,by go_num,HON,HCB⟩
     case measure=>simp[intOf];omega
    have t5:decide ((b9:Int)<(D:Int))=true:=q_t (by omega);have t6:(b9:Int)<(D:Int):=by omega
    have hEb:=HCB.out.ext (HC7.out.ext HEZ.out (by omega)) (by omega);obtain⟨br,orr,rfl,-,-,hxr⟩:=LsR.addr HRW.out (by omega);have hAt:=hxr b9 hlb;rw[HRC.out b9 hlb] at hAt;obtain⟨n1,A7,k7,c7,A8,k8,c8,r0,r1,r2,r3,hb1,z1,z2⟩:=hAt.open;obtain⟨q,hq⟩:=qc (zl ((Z.b i).A a b9));rw[<-hq.out] at hb1 z1 z2;replace r0:=hEb.cell r0;replace r1:=hEb.cell r1;replace r2:=hEb.cell r2;replace r3:=hEb.cell r3;have HZ1:=q_h (z1.ext hEb);have HZ2:=q_h (z2.ext hEb);have hX0:P+a<n:=by omega
    have hY0:T+b9<n:=by omega
    have HDX:=q_h (HQX.out b9 hlb);rw[<-hq.out] at HDX;have HPI:Hid (P=ql z (Z.b i).r.toNat/\T=ql z (Z.b i).c.toNat):=by rw[Hid,<-hR.out,<-hC.out];exact⟨hP.out,hT.out⟩
    obtain⟨X,hX⟩:=qc (P+a);obtain⟨Y,hY⟩:=qc (T+b9);rw[<-hX.out,<-hY.out] at HDX;rw[<-hX.out] at hX0;rw[<-hY.out] at hY0;have t7:IntKind.i64.wrap ((P:Int)+(a:Int))=(X:Int):=by rw[wrp (by omega) (by omega),hX.out];omega
    have t8:IntKind.i64.wrap ((T:Int)+(b9:Int))=(Y:Int):=by rw[wrp (by omega) (by omega),hY.out];omega
    have t9:(X:Int)<(n:Int):=by omega
    have t10:(Y:Int)<(n:Int):=by omega
    have t11:(R:Int)<(m:Int)+1:=by omega
    have t12:(C:Int)<(m:Int)+1:=by omega
    have hwr9:wZ.heap.size<=wr.heap.size:=by have:=HCB.out.size;omega
    clear hxr hAt z1 z2 hEb;go_upto_region 13 with (fail);refine qo ?_;intro w8 e8 hsz8 B8;obtain⟨g8,hg8⟩:=qc wr.heap.size;have hg8r:wr.heap.size<=g8:=by rw[hg8.out];exact q_r
    rw[<-hg8.out] at B8 ⊢;obtain⟨A,ho,hdn⟩:=HOB.out;have HDN:=q_h hdn;have HO8:=q_h (ho.ext e8);have HB8:=q_h B8;have HC8:Hid (Chg w2.heap.size wZ.heap.size w7 w8):=HCB.out.trans (e8.chg _ _);obtain⟨b0,b1,b2,-⟩:=cells3 (HC8.out.blk HB7.out (.inr (by omega)));have d0:=HC8.out.cell HGR7.out (.inl (by show gs<w2.heap.size;omega));have d1:=HC8.out.cell HGC7.out (.inl (by show gs<w2.heap.size;omega));have x0:=HO8.out.hcell hX0;obtain⟨v0,v1,v2,v3,-⟩:=cells4 B8;have HRX:qX N w8 (.agg #[.bool n1,.slice A7 k7 c7,.bool false,.slice A8 k8 c8]) q:=qX.mk hb1 (HZ1.out.ext e8) (HZ2.out.ext e8);have hloX:=HO8.out.lo_ X hX0;have hhiX:=HO8.out.hi_ X hX0;have hloY:=HO8.out.lo_ Y hY0;have hhiY:=HO8.out.hi_ Y hY0;clear r0 r1 r2 r3 ho hdn HOB HCB B8 hg8;refine yB [Mn.eq (.slice (some ⟨hh,0,none⟩) n cap),Mn.eq (.slice (some ⟨gs,0,none⟩) (m+1) cs),Mn.q g7 0,Mn.i (R:Int),Mn.q gs R,Mn.i (P:Int),Mn.i (a:Int),Mn.i (X:Int),Mn.q hh X,Mn.eq (.slice (some ⟨β X,0,none⟩) n (κ X)),Mn.eq (.slice (some ⟨gs,0,none⟩) (m+1) cs),Mn.q g7 1,Mn.i (C:Int),Mn.q gs C,Mn.i (T:Int),Mn.i (b9:Int),Mn.i (Y:Int),Mn.rat N (q),Mn.any,Mn.any] [some 45,some 46,some 47,some 48,some 49,some 50,some 51,some 52,some 53,some 54,some 55,some 56,some 57,some 58,some 59,some 60,some 61,some 62,some 63,none] [18,19] (rQ 18 2) 2 (by kernel_rfl) ?_ ?_
    ·show ∀i,i<20->_
     iterate 20 refine fs ?_ ?_
     ·exact fz
     all_goals intro hl;first|exact absurd hl (by decide)|(clear hl;refine stp rfl ?_;intro ac wi eI hB hA K hK)
     have o5:=oOf (hB 5) rfl;rotate_left;have o3:=oOf (hB 3) rfl;rotate_left;have o7:=oOf (hB 7) rfl;rotate_left;obtain⟨_,s47,rfl⟩:=hA 2 47;have cc0:=eI.cell b0;rotate_left;obtain⟨_,s46,rfl⟩:=hA 1 46;obtain⟨_,s48,rfl⟩:=hA 3 48;rotate_left;obtain⟨_,s49,rfl⟩:=hA 4 49;have cc0:=eI.cell d0;rotate_left;have o8:=oOf (hB 8) rfl;rotate_left;obtain⟨_,s50,rfl⟩:=hA 5 50;obtain⟨_,s51,rfl⟩:=hA 6 51;rotate_left;obtain⟨_,s45,rfl⟩:=hA 0 45;obtain⟨_,s52,rfl⟩:=hA 7 52;rotate_left;obtain⟨_,s53,rfl⟩:=hA 8 53;have cc0:=eI.cell x0;rotate_left;have o3:=oOf (hB 3) rfl;rotate_left;have o7:=oOf (hB 7) rfl;rotate_left;obtain⟨_,s56,rfl⟩:=hA 11 56;have cc0:=eI.cell b1;rotate_left;obtain⟨_,s55,rfl⟩:=hA 10 55;obtain⟨_,s57,rfl⟩:=hA 12 57;rotate_left;obtain⟨_,s58,rfl⟩:=hA 13 58;have cc0:=eI.cell d1;rotate_left;have o10:=oOf (hB 10) rfl;rotate_left;obtain⟨_,s59,rfl⟩:=hA 14 59;obtain⟨_,s60,rfl⟩:=hA 15 60;rotate_left;have o11:=oOf (hB 11) rfl;clear hB hA;have cc0:=eI.cell v0;have cc1:=eI.cell v1;have cc2:=eI.cell v2;have cc3:=eI.cell v3
     ·go_simp;exact q_k hK (HRX.ext eI)
     all_goals clear hB hA;go_simp;exact q_k hK rfl
    intro vals wz eZ hJ;have J54:vals 9=_:=hJ 9 (by decide) (by decide);have J61:vals 16=_:=hJ 16 (by decide) (by decide);have J62:Mn.p (Mn.rat N (q)) (vals 17) wz:=hJ 17 (by decide) (by decide);clear hJ;simp only[pr,Nat.reduceAdd,J54,J61];clear J54 J61
    generalize vals 17=z62 at J62 ⊢
    obtain⟨bz,Az,kz,cz,Az',kz',cz',rfl,hbz,gz1,gz2⟩:=qX.parts J62;have hoz:=HO8.out.ext eZ;have hRa:=hoz.row X hX0;have hκ:=hRa.2.1;obtain⟨y0,w0⟩:=hRa.there (o:=Y*4) (by omega);obtain⟨y1,w1'⟩:=hRa.there (o:=Y*4+1) (by omega);obtain⟨y2,w2'⟩:=hRa.there (o:=Y*4+2) (by omega);obtain⟨y3,w3'⟩:=hRa.there (o:=Y*4+3) (by omega);have f0:=hRa.frozen (Y*4);have f1:=hRa.frozen (Y*4+1);have f2:=hRa.frozen (Y*4+2);have f3:=hRa.frozen (Y*4+3);refine qj (i:=18) rfl (by kernel_rfl) (by kernel_rfl) (fun K hK=>?_);go_simp;refine hK.out _ _ ?_;clear hK K;try simp only[nr]
    refine qj (i:=19) rfl (by kernel_rfl) (by kernel_rfl) (fun K hK=>?_);go_simp;refine hK.out _ _ ?_;clear hK K;try simp only[nr]
    refine qg (by kernel_rfl) ?_ _;obtain⟨w9,E9,C9,hs9,hr9⟩:=hRa.set (i:=Y) (q:=q) (by omega) (by omega) hbz gz1 gz2;rw[E9];have HO9:=q_h (hoz.setRow hX0 C9 (hr9.less (n':=n) (by omega)));have HB9:=q_h (C9.blk (eZ.block HB8.out) (.inr (by omega)));have HC9:Hid (Chg w2.heap.size wZ.heap.size w7 w9):=(HC8.out.trans (eZ.chg _ _)).trans (C9.wide hloX (by omega));have hNX:N<=β X:=by omega
    have HZ1':=q_h (((HZ1.out.ext e8).ext eZ).chg C9 hNX);have HZ2':=q_h (((HZ2.out.ext e8).ext eZ).chg C9 hNX);clear E9 C9 hs9 hr9 hRa hoz hκ w0 w1' w2' w3' f0 f1 f2 f3 hbz gz1 gz2 eZ x0 b0 b1 b2 d0 d1 v0 v1 v2 v3 HRX HC8 HB8 HO8 HZ1 HZ2 e8 J62 y0 y1 y2 y3;obtain⟨b0,b1,b2,-⟩:=cells3 (HC9.out.blk HB7.out (.inr (by omega)));have d0:=HC9.out.cell HGR7.out (.inl (by show gs<w2.heap.size;omega));have d1:=HC9.out.cell HGC7.out (.inl (by show gs<w2.heap.size;omega));have x0:=HO9.out.hcell hY0;obtain⟨v0,v1,v2,v3,-⟩:=cells4 HB9.out;have HRX:qX N w9 (.agg #[.bool n1,.slice A7 k7 c7,.bool false,.slice A8 k8 c8]) q:=qX.mk hb1 HZ1'.out HZ2'.out;go_upto_region 14 with (fail);refine yB [Mn.eq (.slice (some ⟨hh,0,none⟩) n cap),Mn.eq (.slice (some ⟨gs,0,none⟩) (m+1) cs),Mn.q g7 1,Mn.i (C:Int),Mn.q gs C,Mn.i (T:Int),Mn.i (b9:Int),Mn.i (Y:Int),Mn.q hh Y,Mn.eq (.slice (some ⟨β Y,0,none⟩) n (κ Y)),Mn.eq (.slice (some ⟨gs,0,none⟩) (m+1) cs),Mn.q g7 0,Mn.i (R:Int),Mn.q gs R,Mn.i (P:Int),Mn.i (a:Int),Mn.i (X:Int),Mn.rat N (q),Mn.any,Mn.any] [some 64,some 65,some 66,some 67,some 68,some 69,some 70,some 71,some 72,some 73,some 74,some 75,some 76,some 77,some 78,some 79,some 80,some 81,some 82,none] [18,19] (rQ 18 2) 2 (by kernel_rfl) ?_ ?_
    ·show ∀i,i<20->_
     iterate 20 refine fs ?_ ?_
     ·exact fz
     all_goals intro hl;first|exact absurd hl (by decide)|(clear hl;refine stp rfl ?_;intro ac wi eI hB hA K hK)
     have o5:=oOf (hB 5) rfl;rotate_left;have o3:=oOf (hB 3) rfl;rotate_left;have o7:=oOf (hB 7) rfl;rotate_left;obtain⟨_,s66,rfl⟩:=hA 2 66;have cc0:=eI.cell b1;rotate_left;obtain⟨_,s65,rfl⟩:=hA 1 65;obtain⟨_,s67,rfl⟩:=hA 3 67;rotate_left;obtain⟨_,s68,rfl⟩:=hA 4 68;have cc0:=eI.cell d1;rotate_left;have o10:=oOf (hB 10) rfl;rotate_left;obtain⟨_,s69,rfl⟩:=hA 5 69;obtain⟨_,s70,rfl⟩:=hA 6 70;rotate_left;obtain⟨_,s64,rfl⟩:=hA 0 64;obtain⟨_,s71,rfl⟩:=hA 7 71;rotate_left;obtain⟨_,s72,rfl⟩:=hA 8 72;have cc0:=eI.cell x0;rotate_left;have o3:=oOf (hB 3) rfl;rotate_left;have o7:=oOf (hB 7) rfl;rotate_left;obtain⟨_,s75,rfl⟩:=hA 11 75;have cc0:=eI.cell b0;rotate_left;obtain⟨_,s74,rfl⟩:=hA 10 74;obtain⟨_,s76,rfl⟩:=hA 12 76;rotate_left;obtain⟨_,s77,rfl⟩:=hA 13 77;have cc0:=eI.cell d0;rotate_left;have o8:=oOf (hB 8) rfl;rotate_left;obtain⟨_,s78,rfl⟩:=hA 14 78;obtain⟨_,s79,rfl⟩:=hA 15 79;rotate_left;have o11:=oOf (hB 11) rfl;clear hB hA;have cc0:=eI.cell v0;have cc1:=eI.cell v1;have cc2:=eI.cell v2;have cc3:=eI.cell v3
     ·go_simp;exact q_k hK (HRX.ext eI)
     all_goals clear hB hA;go_simp;exact q_k hK rfl
    intro vals wz eZ hJ;have J73:vals 9=_:=hJ 9 (by decide) (by decide);have J80:vals 16=_:=hJ 16 (by decide) (by decide);have J81:Mn.p (Mn.rat N (q)) (vals 17) wz:=hJ 17 (by decide) (by decide);clear hJ;simp only[pr,Nat.reduceAdd,J73,J80];clear J73 J80
    generalize vals 17=z81 at J81 ⊢
    obtain⟨bz,Az,kz,cz,Az',kz',cz',rfl,hbz,gz1,gz2⟩:=qX.parts J81;have hoz:=HO9.out.ext eZ;have hRa:=hoz.row Y hY0;have hκ:=hRa.2.1;obtain⟨y0,w0⟩:=hRa.there (o:=X*4) (by omega);obtain⟨y1,w1'⟩:=hRa.there (o:=X*4+1) (by omega);obtain⟨y2,w2'⟩:=hRa.there (o:=X*4+2) (by omega);obtain⟨y3,w3'⟩:=hRa.there (o:=X*4+3) (by omega);have f0:=hRa.frozen (X*4);have f1:=hRa.frozen (X*4+1);have f2:=hRa.frozen (X*4+2);have f3:=hRa.frozen (X*4+3);refine qj (i:=18) rfl (by kernel_rfl) (by kernel_rfl) (fun K hK=>?_);go_simp;refine hK.out _ _ ?_;clear hK K;try simp only[nr]
    refine qj (i:=19) rfl (by kernel_rfl) (by kernel_rfl) (fun K hK=>?_);go_simp;refine hK.out _ _ ?_;clear hK K;try simp only[nr]
    refine qg (by kernel_rfl) ?_ _;obtain⟨w10,E10,C10,hs10,hr10⟩:=hRa.set (i:=X) (q:=q) (by omega) (by omega) hbz gz1 gz2;rw[E10];have ho10:=hoz.setRow hY0 C10 (hr10.less (n':=n) (by omega));have HON:Hid (∃A,qU N w2.heap.size wZ.heap.size w10 hh cap n n β κ A/\DnP Z z A i a (b9+1)):=⟨_,ho10,HDN.out.put (by rw[hX.out,HPI.out.1]) (by rw[hY.out,HPI.out.2]) HDX.out.symm⟩
    have HC10:Hid (Chg w2.heap.size wZ.heap.size w7 w10):=(HC9.out.trans (eZ.chg _ _)).trans (C10.wide hloY (by omega));clear E10 C10 hs10 hr10 hRa hoz hκ w0 w1' w2' w3' f0 f1 f2 f3 hbz gz1 gz2 eZ x0 b0 b1 b2 d0 d1 v0 v1 v2 v3 HRX HC9 HB9 HO9 HZ1' HZ2' ho10 J81 HDN;go_wp2;go_roundw
    case rel=>exact⟨b9+1,by omega,by go_num,HON,HC10⟩
    case measure=>simp[intOf];omega
def lsC (L:Nat->Int) (ns i:Nat):Int:=if L i<0\/(ns:Int)<=L i then 2 else if kT i (fun t=>decide (L t=L i))=true then 7 else 0
def yG (L:Nat->Int) (nl ns:Nat):Int:=q5h (lsC L ns) nl
def inL (L:Nat->Int) (nl k:Nat):Bool:=kT nl (fun t=>decide (L t=(k:Int)))
def xP (z:Nat->Nat) (g:Nat->Bool):Nat->List Nat
 | 0=>[]
 | k+1=>xP z g k++(if g k=true then (List.range (z k)).map (fun a=>ql z k+a) else [])
def xQ (g:Nat->Bool) (k:Nat):List Nat:=(List.range k).filter g
theorem q0b (E:Nat->Bool) (n:Nat):∀k,JP E (n+k)=JP E n++((List.range k).map (fun a=>n+a)).filter E
 | 0=>by simp
 | k+1=>by
  rw[show n+(k+1)=(n+k)+1 by omega,wS,q0b E n k,List.range_succ,List.map_append,List.filter_append,List.append_assoc]
  congr 2
  simp only[List.map_cons,List.map_nil,List.filter_cons,List.filter_nil]
theorem vN {z:Nat->Nat}{g:Nat->Bool}{m:Nat}:∀k,k<=m->xP z g k=JP (fun x=>g (yT z m x)) (ql z k)
 | 0,_=>rfl
 | k+1,h=>by
  show xP z g k++_=JP _ (ql z k+z k)
  rw[q0b,vN (m:=m) k (by omega)]
  congr 1
  have h1:∀a,a<z k->yT z m (ql z k+a)=k:=fun a ha=>Xy (by omega) (by omega) (by show ql z k+a<ql z k+z k;omega)
  cases hg:g k with
  | true =>
   rw[if_pos rfl,List.filter_eq_self.2];intro x hx;obtain⟨a,ha,rfl⟩:=List.mem_map.1 hx;rw[h1 a (List.mem_range.1 ha)];exact hg
  | false =>
   rw[if_neg (show ¬(false=true) by decide)]
   symm
   rw[List.filter_eq_nil_iff];intro x hx;obtain⟨a,ha,rfl⟩:=List.mem_map.1 hx;rw[h1 a (List.mem_range.1 ha),hg]
   decide
def ivs (l:List Nat):List Value:=l.map (fun x:Nat=>Value.int .i64 ((x:Nat):Int))
theorem ZG (l:List Nat) (x:Nat):ivs l ++ [.int .i64 (x:Int)]=ivs (l ++ [x]):=by unfold ivs;rw[List.map_append];rfl
theorem kM (l:List Nat):(ivs l).length=l.length:=by unfold ivs;rw[List.length_map]
theorem Qz(h:qO 3 base w v (ivs l))(hk:∀x∈l,x<k):IxV N 0 w.heap.size w v l.length k (fun a=>l[a]?.getD 0):=by
 have hget:∀i (hi:i<l.length),l[i]?.getD 0=l[i]:=fun i hi=>by rw[List.getElem?_eq_getElem hi];rfl
 refine⟨⟨rfl,?_⟩,fun i hi=>by
  show l[i]?.getD 0<k
  rw[hget i hi];exact hk _ (List.getElem_mem hi)⟩
 rcases Nat.eq_zero_or_pos l.length with h0|h0
 ·rcases h.2.2 with ⟨rfl,-⟩|⟨g,cap,cur,rfl,hb,hh,h1,h2,h3⟩
  ·exact⟨none,0,by rw[h0],by omega,Nat.zero_le _,fun h=>absurd h (by omega)⟩
  ·rw[kM] at h1;exact⟨_,cap,by rw[kM],h1,h2,fun h=>absurd h (by omega)⟩
 ·obtain⟨g,cap,rfl,-,-,h3,h4,-,h5⟩:=h.at_ (by rw[kM];exact h0);rw[kM] at h4;refine⟨some ⟨g,0,none⟩,cap,by rw[kM],h4,h3,fun _=>⟨g,0,rfl,fun i hi=>?_⟩⟩;have h6:=h5 i (by rw[kM];exact hi);rw[Nat.zero_add,h6]
  show some ((ivs l)[i]'(by rw[kM];exact hi))=some (Value.int .i64 ((l[i]?.getD 0:Nat):Int))
  rw[hget i hi];simp[ivs]
def Apt (v u:Value):Prop:=∀g,v.ownBlock=some g->u.ownBlock≠some g
theorem Apt.symm {u:Value}(h:Apt v u):Apt u v:=fun g h1 h2=>h g h2 h1
theorem Apt.nil (u:Value):Apt (.slice none 0 0) u:=fun g h=>by simp[Value.ownBlock] at h
theorem ji {ET:TypeId}{u:Value}{xs:List Value}(h:qO ET base w v xs) (ha:Apt v u) (hc:∃g',base<=g'/\(u.ownBlock=some g'\/g'=w.heap.size)/\Chg g' (g'+1) w w'/\NoU w g'):qO ET base w' v xs:=by
 obtain⟨g',-,h1,C,-⟩:=hc;refine h.far C fun k hk=>?_
 have h2:=(h.own_lt k hk).2
 rcases h1 with h1|h1
 ·have h3:=ha k hk;have:k≠g':=fun e=>h3 (by rw[e];exact h1)
  omega
 ·omega
theorem Apt.app {ET:TypeId}{u:Value}{xs:List Value}(h:qO ET base w v xs) (ha:Apt v u){gq:Nat}(hat:u.ownBlock=some gq\/gq=w.heap.size):Apt v (.slice (some ⟨gq,0,none⟩) n c):=fun g hg h2=>by
 have h3:gq=g:=by simpa[Value.ownBlock] using h2
 subst h3
 rcases hat with h1|h1
 ·exact ha _ hg h1
 ·have:=(h.own_lt _ hg).2;omega
end
end Go.Proofs.YtflhlobiipejeaaGreat
