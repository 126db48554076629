import Derived.Test.YtflhlobiipejeaaGreatWb21
set_option linter.all false
set_option maxHeartbeats 8000000
namespace Go.Proofs.YtflhlobiipejeaaGreat
variable {w w':World} {N n lo hi k g i m c b j K:Nat} {v:Value} {A:Option Addr}
section
theorem q86 (n k:Nat) (M X:q_m) (e:Nat->Nat) (x:q_v) (i:Nat) :
  av n (q0K k M e X) x i=av n M x i-sum k (fun a=>M i (e a)*sum k (fun b=>X a b*av n M x (e b))):=by
 have h1:∀a,sum n (fun j=>sum k (fun b=>X a b*M (e b) j)*x j)=sum k (fun b=>X a b*av n M x (e b)):=fun a=>by
  have h2:sum n (fun j=>sum k (fun b=>X a b*M (e b) j)*x j)=sum n (fun j=>sum k (fun b=>X a b*M (e b) j*x j)):=qf fun j _=>(qE k (x j) _).symm
  rw[h2,zu];refine qf fun b _=>?_
  unfold av;rw[<-zN];exact qf fun j _=>by grind
 have h3:sum n (fun j=>sum k (fun a=>M i (e a)*sum k (fun b=>X a b*M (e b) j))*x j)=sum k (fun a=>M i (e a)*sum k (fun b=>X a b*av n M x (e b))):=by
  have h4:sum n (fun j=>sum k (fun a=>M i (e a)*sum k (fun b=>X a b*M (e b) j))*x j)=sum n (fun j=>sum k (fun a=>M i (e a)*sum k (fun b=>X a b*M (e b) j)*x j)):=qf fun j _=>(qE k (x j) _).symm
  rw[h4,zu];refine qf fun a _=>?_
  rw[<-h1 a,<-zN];exact qf fun j _=>by grind
 rw[<-h3];unfold av q0K;rw[<-XE];exact qf fun j _=>by grind
def Rs (n:Nat) (M:q_m) (y:q_v) (E:Nat->Bool) (S:q_m) (r:q_v):Prop :=
 ∀x:Nat->Rat,(∀i,i<n->E i=true->av n M x i=y i)->∀i,i<n->E i=false->av n M x i-y i=av n S x i-r i
def q8v (k:Nat) (S:q_m) (e:Nat->Nat) (X:q_m) (r:q_v) (i:Nat):Rat:=r i-sum k (fun a=>S i (e a)*sum k (fun b=>X a b*r (e b)))
theorem Rs.start (n:Nat) (M:q_m) (y:q_v):Rs n M y (fun _=>false) M y:=fun _ _ _ _ _=>rfl
theorem Rs.step{M S:q_m}{y r:q_v}{E E2:Nat->Bool}{e:Nat->Nat}(h:Rs n M y E S r) (he:Enm n k E2 e) (hd:∀i,E2 i=true->E i=false) (X:q_m):Rs n M y (both E E2) (q0K k S e X) (q8v k S e X r):=by
 intro x hx i hi hE;have hE1:=JE hE;have hx1:∀j,j<n->E j=true->av n M x j=y j:=fun j hj hj'=>hx j hj (q0q hj')
 have h0:=h x hx1 i hi hE1.1
 have h1:∀b,b<k->av n S x (e b)=r (e b):=fun b hb=>by
  have h2:=h x hx1 (e b) (he.low b hb) (hd _ (he.mem b hb));have h3:=hx (e b) (he.low b hb) (q3P (he.mem b hb));rw[h3] at h2
  grind
 rw[h0,q86];unfold q8v
 have h4:sum k (fun a=>S i (e a)*sum k (fun b=>X a b*av n S x (e b)))=sum k (fun a=>S i (e a)*sum k (fun b=>X a b*r (e b))):=qf fun a _=>by
  rw[qf (fun b hb=>by rw[h1 b hb])]
 rw[h4]
 grind
section
variable (z:Nat->Nat) (o:Nat->Nat)
def blE (t:Nat) (a:Nat):Nat:=ql z (o t)+a
noncomputable def elS (M:q_m):Nat->Nat->Nat->Rat
 | 0=>M
 | t+1=>XK (z (o t)) (elS M t) (blE z o t)
noncomputable def elX (M:q_m) (t:Nat):Nat->Nat->Rat:=x8 (z (o t)) (x9 (elS z o M t) (blE z o t))
noncomputable def elR (M:q_m) (y:q_v):Nat->Nat->Rat
 | 0=>y
 | t+1=>q8v (z (o t)) (elS z o M t) (blE z o t) (elX z o M t) (elR M y t)
def elE (m:Nat):Nat->Nat->Bool
 | 0,_=>false
 | t+1,i=>elE m t i||YE z m (o t) i
def q1u (M:q_m) (t:Nat):Prop:=Reg (z (o t)) (x9 (elS z o M t) (blE z o t))
end
variable {z:Nat->Nat}{o:Nat->Nat}{m:Nat}{M:q_m}{y:q_v}
theorem Jz {t:Nat}:elE z o m t i=true↔∃s,s<t/\yT z m i=o s:=by
 induction t with
 | zero=>exact⟨fun h=>(by cases h),fun ⟨s,h,_⟩=>absurd h (Nat.not_lt_zero s)⟩
 | succ t ih =>
  unfold elE YE;rw[Bool.or_eq_true,ih,beq_iff_eq]
  constructor
  ·rintro (⟨s,h1,h2⟩|h)
   ·exact⟨s,by omega,h2⟩
   ·exact⟨t,by omega,h⟩
  ·rintro⟨s,h1,h2⟩
   by_cases hs:s=t
   ·exact .inr (by rw[<-hs];exact h2)
   ·exact .inl ⟨s,by omega,h2⟩
theorem q3v (hinj:∀a b,a<m->b<m->o a=o b->a=b){t:Nat}(ht:t<m) (h:YE z m (o t) i=true):elE z o m t i=false:=by
 cases h9:elE z o m t i with
 | false=>rfl
 | true =>
  obtain⟨s,h1,h2⟩:=Jz.1 h9;unfold YE at h;rw[beq_iff_eq] at h;have:=hinj s t (by omega) ht (by rw[<-h2,h]);omega
theorem Ze (hlow:∀a,a<m->o a<m) (hinj:∀a b,a<m->b<m->o a=o b->a=b):∀t,t<=m->(∀s,s<t->q1u z o M s)->Lft (ql z m) M (elE z o m t) (elS z o M t)/\Rs (ql z m) M y (elE z o m t) (elS z o M t) (elR z o M y t)
 | 0,_,_=>⟨Lft.start _ _,Rs.start _ _ _⟩
 | t+1,ht,hp=>by
  obtain⟨h1,h2⟩:=Ze hlow hinj t (by omega) (fun s hs=>hp s (by omega));have he:=VP (z:=z) (hlow t (by omega));have hd:∀i,YE z m (o t) i=true->elE z o m t i=false:=fun i hi=>q3v hinj (by omega) hi
  exact⟨h1.step he hd (hp t (by omega)),h2.step he hd _⟩
theorem q91 (hlow:∀a,a<m->o a<m) (hinj:∀a b,a<m->b<m->o a=o b->a=b){t:Nat}(ht:t<m) (hp:∀s,s<t->q1u z o M s):q1u z o M t↔q1p (ql z m) M (elE z o m (t+1)) :=
 (Ze (y:=fun _=>0) hlow hinj t (by omega) hp).1.reg_iff (VP (z:=z) (hlow t ht)) (fun i hi=>q3v hinj ht hi)
end
section
open Go.RowKit
theorem yI:∀ {m:Nat}{o:Nat->Nat},(∀t,t<m->o t<m)->(∀a b,a<m->b<m->o a=o b->a=b)->∀i,i<m->∃a,a<m/\o a=i
 | 0,_,_,_,i,hi=>absurd hi (Nat.not_lt_zero i)
 | m+1,o,hl,hi,i,h=>by
  have hm:=hl m (by omega)
  have ih:=yI (m:=m) (o:=fun a=>if o a=m then o m else o a) (fun a ha=>by
   have h1:=hl a (by omega);have h2:o a≠o m:=fun e=>by have:=hi a m (by omega) (by omega) e;omega
   show (if o a=m then o m else o a)<m
   split<;>omega) (fun a b ha hb e=>by
   have h2:o a≠o m:=fun e=>by have:=hi a m (by omega) (by omega) e;omega
   have h3:o b≠o m:=fun e=>by have:=hi b m (by omega) (by omega) e;omega
   have e':(if o a=m then o m else o a)=(if o b=m then o m else o b):=e;refine hi a b (by omega) (by omega) ?_
   split at e'<;>split at e'<;>omega)
  by_cases him:i=m
  ·by_cases hp:o m=m
   ·exact⟨m,by omega,by omega⟩
   ·obtain⟨a,ha,h1⟩:=ih (o m) (by omega);have h1':(if o a=m then o m else o a)=o m:=h1;have h2:o a≠o m:=fun e=>by have:=hi a m (by omega) (by omega) e;omega
    split at h1'
    ·exact⟨a,by omega,by omega⟩
    ·omega
  ·obtain⟨a,ha,h1⟩:=ih i (by omega);have h1':(if o a=m then o m else o a)=i:=h1
   split at h1'
   ·exact⟨m,by omega,h1'⟩
   ·exact⟨a,by omega,h1'⟩
theorem q4O{o:Nat->Nat}(hl:∀t,t<m->o t<m) (hi:∀a b,a<m->b<m->o a=o b->a=b):Enm m m (fun _=>true) o :=
 ⟨hl,fun _ _=>rfl,hi,fun i h _=>yI hl hi i h⟩
theorem WH{o:Nat->Nat}(hl:∀t,t<m->o t<m) (hi:∀a b,a<m->b<m->o a=o b->a=b) (g:q_v):sum m g=sum m (fun s=>g (o s)):=by
 have h:=(q4O hl hi).sum g;simpa using h
theorem KT (z:Nat->Nat) (f:q_v):∀m,sum (ql z m) f=sum m (fun c=>sum (z c) (fun b=>f (ql z c+b)))
 | 0=>rfl
 | m+1=>by
  rw[show ql z (m+1)=ql z m+z m from rfl,Zm,KT z f m]
  rfl
theorem q15{K K':q_m}(h:∀a,a<k->∀b,b<k->K a b=K' a b) (hr:Reg k K) (hr':Reg k K'){a:Nat}(ha:a<k) (hb:b<k):x8 k K a b=x8 k K' a b:=by
 have h1:=(jD hr).2;have h2:=(jD hr').1
 have h3:mm k (mm k (x8 k K) K) (x8 k K') a b=x8 k K' a b:=by
  rw[xH (a':=dlt) (b':=x8 k K') (fun c hc=>h1 a ha c hc) (fun _ _=>rfl)];exact WI _ ha
 have h4:mm k (x8 k K) (mm k K (x8 k K')) a b=x8 k K a b:=by
  rw[xH (a':=x8 k K) (b':=dlt) (fun _ _=>rfl) (fun c hc=>by
   rw[xH (a':=K') (b':=x8 k K') (fun d hd=>h c hc d hd) (fun _ _=>rfl)]
   exact h2 c hc b hb)]
  exact q6e _ hb
 rw[<-h4,<-jA,h3]
theorem Ya{K K':q_m}(h:∀a,a<k->∀b,b<k->K a b=K' a b) (hr:Reg k K):Reg k K':=fun x hx=>hr x fun a ha=>by
 rw[<-hx a ha];exact qf fun b hb=>by rw[h a ha b hb]
section
variable {z o:Nat->Nat}{m:Nat}{F:Nat->Nat->Nat->Nat->Rat}{R:q_m}{M:q_m}{y:q_v}
theorem q0g (hs:∀i j,M i j=M j i):∀t,(∀s,s<t->q1u z o M s)->∀i j,elS z o M t i j=elS z o M t j i
 | 0,_=>hs
 | t+1,hp=>fun i j=>Y4 (q0g hs t (fun s h=>hp s (by omega))) (hp t (by omega)) i j
def NoT (o:Nat->Nat) (t r:Nat):Prop:=∀s,s<t->o s≠r
theorem Vt (hl:∀t,t<m->o t<m) (hi:∀a b,a<m->b<m->o a=o b->a=b){t r:Nat}(hr:r<m) (h:NoT o (t+1) r):xk (q1q o t) (m-(t+1)) r=true:=by
 obtain⟨a,ha,h1⟩:=yI hl hi r hr;have h2:¬a<t+1:=fun h9=>h a h9 h1
 exact yF.2 ⟨a-(t+1),by omega,by unfold q1q;rw[show t+1+(a-(t+1))=a by omega];exact h1⟩
theorem q4X (hi:∀a b,a<m->b<m->o a=o b->a=b){t s:Nat}(h:t<=s) (hs:s<m):NoT o t (o s):=fun a ha e=>by
 have:=hi a s (by omega) hs e;omega
structure BlM (z o:Nat->Nat) (m:Nat) (F:Nat->Nat->Nat->Nat->Rat) (R:q_m) (M:q_m) (y:q_v):Prop where
 low:∀t,t<m->o t<m
 inj:∀a b,a<m->b<m->o a=o b->a=b
 sym:∀i j,M i j=M j i
 F1:∀r c,c<=r->r<m->∀a,a<z r->∀b,b<z c->F r c a b=M (ql z r+a) (ql z c+b)
 R1:∀r,r<m->∀a,a<z r->R r a=y (ql z r+a)
theorem q64 {t:Nat}(ht:t<m) (hst:∀a,a<z (o t)->∀b,b<z (o t)->Fsy (fsS z o m F t) (o t) (o t) a b=elS z o M t (ql z (o t)+a) (ql z (o t)+b)):PvF z o m F t↔q1u z o M t:=by
 have h1:∀a,a<z (o t)->∀b,b<z (o t)->fsS z o m F t (o t) (o t) a b=x9 (elS z o M t) (blE z o t) a b:=fun a ha b hb=>by
  have h2:=hst a ha b hb;unfold Fsy at h2;rw[if_pos (q_r)] at h2;exact h2
 exact⟨fun h=>Ya h1 h,fun h=>Ya (fun a ha b hb=>(h1 a ha b hb).symm) h⟩
theorem q6O (H:BlM z o m F R M y):∀t,t<=m->(∀s,s<t->q1u z o M s)->(∀r c,r<m->c<m->NoT o t r->NoT o t c->∀a,a<z r->∀b,b<z c->Fsy (fsS z o m F t) r c a b=elS z o M t (ql z r+a) (ql z c+b))/\∀r,r<m->NoT o t r->∀a,a<z r->rsS z o m F R t r a=elR z o M y t (ql z r+a)
 | 0,_,_=>⟨fun r c hr hc _ _ a ha b hb=>by
   unfold Fsy
   split
   ·exact H.F1 r c ‹_› hr a ha b hb
   ·show F c r b a=M _ _
    rw[H.F1 c r (by omega) hc b hb a ha]
    exact H.sym _ _,fun r hr _ a ha=>H.R1 r hr a ha⟩
 | t+1,ht,hp=>by
  obtain⟨ih1,ih2⟩:=q6O H t (by omega) (fun s h=>hp s (by omega));have hkn:NoT o t (o t):=q4X H.inj (Nat.le_refl t) (by omega);have hkm:=H.low t (by omega);have hpv:=(q64 (F:=F) (by omega) (ih1 (o t) (o t) hkm hkm hkn hkn)).2 (hp t (by omega));have hpr:=hp t (by omega)
  have hX:∀a,a<z (o t)->∀b,b<z (o t)->x8 (z (o t)) (fsS z o m F t (o t) (o t)) a b=elX z o M t a b:=fun a ha b hb =>
   q15 (fun a ha b hb=>by
    have h2:=ih1 (o t) (o t) hkm hkm hkn hkn a ha b hb;unfold Fsy at h2;rw[if_pos (q_r)] at h2
    exact h2) hpv hpr ha hb
  have hmono:∀ {r},NoT o (t+1) r->NoT o t r:=fun h s hs=>h s (by omega)
  have hlo:∀r c,c<=r->r<m->NoT o (t+1) r->NoT o (t+1) c->∀a,a<z r->∀b,b<z c->fsS z o m F (t+1) r c a b=elS z o M (t+1) (ql z r+a) (ql z c+b):=fun r c hcr hr hnr hnc a ha b hb=>by
   have h1:pA (q1q o t) (m-(t+1)) (m-(t+1)) r c=true:=by
    unfold pA;rw[Vt H.low H.inj hr hnr,Vt H.low H.inj (by omega) hnc]
    rfl
   have h2:=ih1 r c hr (by omega) (hmono hnr) (hmono hnc) a ha b hb;unfold Fsy at h2;rw[if_pos hcr] at h2
   show Fel _ _ _ _ _ r c a b=XK _ _ _ _ _
   unfold Fel XK q0K;rw[if_pos h1,h2]
   congr 1
   unfold Gx Fct;rw[jA];unfold mm;refine qf fun i hi=>?_
   rw[ih1 r (o t) hr hkm (hmono hnr) hkn a ha i hi]
   congr 1
   refine qf fun j hj=>?_
   rw[ih1 (o t) c hkm (by omega) hkn (hmono hnc) j hj b hb,hX i hi j hj]
   rfl
  refine⟨fun r c hr hc hnr hnc a ha b hb=>?_,fun r hr hnr a ha=>?_⟩
  ·unfold Fsy
   split
   ·exact hlo r c ‹_› hr hnr hnc a ha b hb
   ·rw[hlo c r (by omega) hc hnc hnr b hb a ha];exact q0g H.sym (t+1) hp _ _
  ·show Rel _ _ _ _ _ _ r a=q8v _ _ _ _ _ _
   unfold Rel q8v;rw[if_pos (Vt H.low H.inj hr hnr),ih2 r hr (hmono hnr) a ha]
   congr 1
   have h3:av (z (o t)) (Fct (o t) (z (o t)) (fsS z o m F t) (x8 (z (o t)) (fsS z o m F t (o t) (o t))) r) (rsS z o m F R t (o t)) a=mm (z (o t)) (Fct (o t) (z (o t)) (fsS z o m F t) (x8 (z (o t)) (fsS z o m F t (o t) (o t))) r) (fun b _=>rsS z o m F R t (o t) b) a 0:=rfl;rw[h3];unfold Fct;rw[jA];unfold mm;refine qf fun i hi=>?_
   rw[ih1 r (o t) hr hkm (hmono hnr) hkn a ha i hi]
   congr 1
   refine qf fun j hj=>?_
   show _*rsS z o m F R t (o t) j=_
   rw[ih2 (o t) hkm hkn j hj,hX i hi j hj]
   rfl
theorem q2l (H:BlM z o m F R M y){t:Nat}(ht:t<m) (hp:∀s,s<t->q1u z o M s):PvF z o m F t↔q1u z o M t :=
 have hkn:NoT o t (o t):=q4X H.inj (Nat.le_refl t) ht
 q64 ht ((q6O H t (Nat.le_of_lt ht) hp).1 (o t) (o t) (H.low t ht) (H.low t ht) hkn hkn)
theorem WF (H:BlM z o m F R M y):∀t,t<=m->(∀s,s<t->PvF z o m F s)->∀s,s<t->q1u z o M s
 | 0,_,_,s,hs=>absurd hs (Nat.not_lt_zero s)
 | t+1,ht,h,s,hs=>by
  have ih:=WF H t (by omega) (fun s h9=>h s (by omega))
  by_cases hst:s=t
  ·rw[hst];exact (q2l H (by omega) ih).1 (h t (by omega))
  ·exact ih s (by omega)
theorem q6c (H:BlM z o m F R M y) (h:∀t,t<m->PvF z o m F t):Reg (ql z m) M:=by
 have hp:=WF H m (Nat.le_refl m) h;have h1:=(Ze (y:=y) H.low H.inj m (Nat.le_refl m) hp).1.reg;refine q2b.2 fun x hx h0 i hi=>h1 x (fun j hj hE=>?_) (fun j hj _=>h0 j hj rfl) i hi
 exfalso
 obtain⟨h3,-,-⟩:=QQ hj;obtain⟨s,hs,h4⟩:=yI H.low H.inj _ h3;have h5:elE z o m m j=true:=Jz.2 ⟨s,hs,h4.symm⟩;rw[hE] at h5;cases h5
theorem q2s (H:BlM z o m F R M y) (h:V6 (ql z m) M):∀t,t<m->PvF z o m F t:=by
 have h1:∀t,t<=m->∀s,s<t->q1u z o M s:=fun t=>by
  induction t with
  | zero=>exact fun _ s hs=>absurd hs (Nat.not_lt_zero s)
  | succ t ih =>
   intro ht s hs;have ih':=ih (by omega)
   by_cases hst:s=t
   ·rw[hst];exact (q91 H.low H.inj (by omega) ih').2 (wJ h _)
   ·exact ih' s (by omega)
 exact fun t ht=>(q2l H ht (h1 t (by omega))).2 (h1 (t+1) (by omega) t (by omega))
theorem x_st (H:BlM z o m F R M y){x:q_v}(hx:∀i,i<ql z m->av (ql z m) M x i=y i) (hp:∀s,s<m->q1u z o M s){t:Nat}(ht:t<m){a:Nat}(ha:a<z (o t)):x (ql z (o t)+a)=xS z o m F R (fun r a=>x (ql z r+a)) t a:=by
 have hpt:∀s,s<t->q1u z o M s:=fun s h=>hp s (by omega)
 obtain⟨hL,hR⟩:=Ze (y:=y) H.low H.inj t (by omega) hpt;obtain⟨e1,e2⟩:=q6O H t (by omega) hpt;have hkm:=H.low t ht;have hkn:NoT o t (o t):=q4X H.inj (Nat.le_refl t) ht;have hbl:∀ {s c:Nat},s<m->c<z (o s)->ql z (o s)+c<ql z m:=fun {s c} hs hc=>(VP (z:=z) (H.low s hs)).low c hc
 have hat:∀ {s c:Nat},s<m->c<z (o s)->yT z m (ql z (o s)+c)=o s:=fun {s c} hs hc=>Xy (H.low s hs) (by omega) (by show ql z (o s)+c<ql z (o s)+z (o s);omega)
 have hy:∀c,c<z (o t)->yS z o m F R (fun r a=>x (ql z r+a)) t (m-(t+1)) c=sum (z (o t)) (fun b=>fsS z o m F t (o t) (o t) c b*x (ql z (o t)+b)):=fun c hc=>by
  have hno:elE z o m t (ql z (o t)+c)=false:=by
   cases h9:elE z o m t (ql z (o t)+c) with
   | false=>rfl
   | true =>
    obtain⟨s,h1,h2⟩:=Jz.1 h9;rw[hat ht hc] at h2;exact absurd h2.symm (hkn s h1)
  have h1:=hR x (fun i hi _=>hx i hi) _ (hbl ht hc) hno;rw[hx _ (hbl ht hc)] at h1;have h2:av (ql z m) (elS z o M t) x (ql z (o t)+c)=elR z o M y t (ql z (o t)+c):=by grind
  have hg:∀j,t+1+j<=m->yS z o m F R (fun r a=>x (ql z r+a)) t j c=elR z o M y t (ql z (o t)+c)-sum j (fun s=>sum (z (o (t+1+s))) (fun b=>elS z o M t (ql z (o t)+c) (ql z (o (t+1+s))+b)*x (ql z (o (t+1+s))+b))):=fun j=>by
   induction j with
   | zero =>
    intro _
    show rsS z o m F R t (o t) c=_
    rw[e2 (o t) hkm hkn c hc,xJ]
    grind
   | succ j ih =>
    intro hj;have hs:=H.low (t+1+j) (by omega)
    show yS z o m F R _ t j c-av _ _ _ c=_
    rw[ih (by omega),qN]
    have h5:av (z (o (t+1+j))) (Fsy (fsS z o m F t) (o t) (o (t+1+j))) (fun a=>x (ql z (o (t+1+j))+a)) c=sum (z (o (t+1+j))) (fun b=>elS z o M t (ql z (o t)+c) (ql z (o (t+1+j))+b)*x (ql z (o (t+1+j))+b)):=by
     unfold av;exact qf fun b hb=>by rw[e1 (o t) _ hkm hs hkn (q4X H.inj (by omega) (by omega)) c hc b hb]
    rw[h5]
    grind
  rw[hg _ (by omega),<-h2];unfold av;rw[KT,WH H.low H.inj];have h6:m=t+(1+(m-(t+1))):=by omega
  have h7:=Zm t (1+(m-(t+1))) (fun s=>sum (z (o s)) (fun b=>elS z o M t (ql z (o t)+c) (ql z (o s)+b)*x (ql z (o s)+b)));rw[<-h6] at h7
  rw[h7,Zm,qy (n:=t) (fun s hs=>qy fun b hb=>by
   rw[hL.col _ _ (hbl ht hc) (hbl (by omega) hb) (Jz.2 ⟨s,hs,hat (by omega) hb⟩)];grind)]
  have h8:sum 1 (fun j=>sum (z (o (t+j))) (fun b=>elS z o M t (ql z (o t)+c) (ql z (o (t+j))+b)*x (ql z (o (t+j))+b)))=sum (z (o t)) (fun b=>fsS z o m F t (o t) (o t) c b*x (ql z (o t)+b)):=by
   rw[qN,xJ];rw[show t+0=t by omega,qf (n:=z (o t)) (fun b hb=>by rw[<-e1 (o t) (o t) hkm hkm hkn hkn c hc b hb])];rw[show Fsy (fsS z o m F t) (o t) (o t)=fsS z o m F t (o t) (o t) by funext a b;unfold Fsy;rw[if_pos (q_r)]]
   grind
  rw[h8];have h9:sum (m-(t+1)) (fun j=>sum (z (o (t+(1+j)))) (fun b=>elS z o M t (ql z (o t)+c) (ql z (o (t+(1+j)))+b)*x (ql z (o (t+(1+j)))+b)))=sum (m-(t+1)) (fun s=>sum (z (o (t+1+s))) (fun b=>elS z o M t (ql z (o t)+c) (ql z (o (t+1+s))+b)*x (ql z (o (t+1+s))+b))):=qf fun j _=>by rw[Nat.add_assoc]
  rw[h9]
  grind
 have hpv:=(q2l H ht hpt).2 (hp t ht);have h1:=(jD hpv).2;unfold xS av;rw[qf (fun c hc=>by rw[hy c hc])];have h2:sum (z (o t)) (fun c=>x8 (z (o t)) (fsS z o m F t (o t) (o t)) a c*sum (z (o t)) (fun b=>fsS z o m F t (o t) (o t) c b*x (ql z (o t)+b)))=mm (z (o t)) (x8 (z (o t)) (fsS z o m F t (o t) (o t))) (mm (z (o t)) (fsS z o m F t (o t) (o t)) (fun b _=>x (ql z (o t)+b))) a 0:=rfl;rw[h2,<-jA,xH (a':=dlt) (b':=fun b _=>x (ql z (o t)+b)) (fun c hc=>h1 a ha c hc) (fun _ _=>rfl),WI _ ha]
end
end
section
open Go.RowKit
theorem XF {ops:Array Oper}{o:Oper}{a:Act}{K:Act->World->Prop}{Q:Exit->Act->World->Prop}{E:Prop}
  (hg:o.guard=none) (d x:Operand) (dT sT:TypeId) (hop:o.op=Op.call { callee:=Callee.builtin Builtin.copy,args:=#[d,x],argTypes:=#[dT,sT] })
  (v u:Value) (hd:a.eval d=v) (hx:a.eval x=u){v':Value}(hr:(Builtin.copy_ #[dT,sT] o.type #[v,u]).run Tryz.prog w=.ok v' w') (hK:K (a.put o.dst v') w') :
  if Region.wanted o (yielded ops a.tmps)=true then Oper.wp Tryz.prog o a w K Q else E:=by
 have hw:Region.wanted o (yielded ops a.tmps)=true:=by simp[Region.wanted,hg]
 rw[if_pos hw];unfold Oper.wp;simp[execOp,hop,resolve,invoke,builtin,hd,hx,hr,Result.andThen]
 exact hK
structure SvH (Z:Sys) (z o:Nat->Nat) (F:Nat->Nat->Nat->Nat->Rat) (R:q_m) (K:Nat->Nat) (Kx:Nat) (x:q_v):Prop where
 hz:∀i,i<Z.ns->Z.z i=(z i:Int)
 low:∀t,t<Z.ns->o t<Z.ns
 inj:∀a b,a<Z.ns->b<Z.ns->o a=o b->a=b
 F1:∀i,i<Z.nb->∀a,a<z (Z.b i).r.toNat->∀b,b<z (Z.b i).c.toNat->F (Z.b i).r.toNat (Z.b i).c.toNat a b=zl ((Z.b i).A a b)
 F0:∀r c,c<=r->r<Z.ns->(∀i,i<Z.nb->¬((Z.b i).r=(r:Int)/\(Z.b i).c=(c:Int)))->∀a,a<z r->∀b,b<z c->F r c a b=0
 R1:∀r,r<Z.ns->∀a,a<z r->R r a=zl (Z.R (ql z r+a))
 hH:∀t,t<=Z.ns->(∀r c,c<=r->r<Z.ns->HtM (z r) (z c) (K t) (fsS z o Z.ns F t r c))/\∀r,r<Z.ns->HtL (z r) (K t) (rsS z o Z.ns F R t r)
 hK:∀t,t<Z.ns->K t<=K (t+1)/\K (t+1)<=29000000000
 hK1:∀t,t<Z.ns->5*(5 ^ z (o t)*(K t+1))<=29000000000
 hK2:∀t,t<Z.ns->z (o t)*(z (o t)*(K t+5 ^ z (o t)*(K t+1)+1)+1+K t+1)+1<=29000000000
 hX:(∀t,t<Z.ns->PvF z o Z.ns F t)->(∀t,t<Z.ns->∀a,a<z (o t)->x (ql z (o t)+a)=xS z o Z.ns F R (fun r a=>x (ql z r+a)) t a)/\∀r,r<Z.ns->HtL (z r) Kx (fun a=>x (ql z r+a))
 hBx:∀t,t<Z.ns->z (o t)*(5 ^ z (o t)*(K t+1)+yH z o (K t) Kx t (Z.ns-(t+1))+1)+1<=29000000000
def q9m (N:Nat) (w:World) (m k:Nat) (z o:Nat->Nat) (F:Nat->Nat->Nat->Nat->Rat) (x:q_v) (e:Ending) (w':World):Prop :=
 Ext w w'/\((e=.returned (.tuple #[.slice none 0 0,.int .i64 14])/\∃t,t<m/\(∀s,s<t->PvF z o m F s)/\¬PvF z o m F t) \/
  (∃(A:Option Addr) (c lo hi:Nat),e=.returned (.tuple #[.slice A k c,.int .i64 0])/\(∀t,t<m->PvF z o m F t)/\LsV N lo hi w' (.slice A k c) k x))
structure Okk (Z:Sys):Prop where
 can:Kt Z=true
 n1:1<=Z.ns
 n2:Z.ns<=12
 szs:∀i,i<Z.ns->sz1 (Z.z i)=true
 tot:jK Z.z Z.ns<=64
 bk:∀i,i<Z.nb->bkC Z i=0
 len:(Z.k:Int)=jK Z.z Z.ns
theorem QG {Z:Sys}(h:vH Z=0):Okk Z:=by
 unfold vH at h
 by_cases h1:Kt Z=false
 ·rw[if_pos h1] at h;cases h
 rw[if_neg h1] at h
 by_cases h2:Zo Z=false
 ·rw[if_pos h2] at h;cases h
 rw[if_neg h2] at h
 by_cases h3:q5h (bkC Z) Z.nb=0
 ·rw[if_neg (by omega)] at h
  by_cases h4:(Z.k:Int)=jK Z.z Z.ns
  ·have h5:Zo Z=true:=by simpa using h2
   unfold Zo at h5;simp only[Bool.and_eq_true,decide_eq_true_eq] at h5;exact⟨by simpa using h1,by omega,by omega,qm.1 h5.2.1,h5.2.2,q08 h3,h4⟩
  ·rw[if_neg h4] at h;cases h
 ·rw[if_pos h3] at h;exact absurd h h3
theorem ku {Z:Nat->Int}{z:Nat->Nat}:∀ {n:Nat},(∀i,i<n->Z i=(z i:Int))->jK Z n=(ql z n:Int)
 | 0,_=>rfl
 | n+1,h=>by
  unfold jK ql;rw[ku (fun i hi=>h i (by omega)),h n (by omega)];omega
theorem Yq {o:Nat->Int}(h:yN o n m=true):n=m/\(∀t,t<m->o t=((o t).toNat:Int)/\(o t).toNat<m)/\∀a b,a<m->b<m->(o a).toNat=(o b).toNat->a=b:=by
 unfold yN at h;rw[Bool.and_eq_true,decide_eq_true_eq,qm] at h;obtain⟨rfl,h⟩:=h
 have h1:∀t,t<n->(0<=o t/\o t<(n:Int))/\∀j,j<t->o j≠o t:=fun t ht=>by
  have h2:=h t ht;simp only[Bool.and_eq_true,decide_eq_true_eq] at h2;refine⟨h2.1,fun j hj e=>?_⟩;have h3:=qm.1 h2.2 j hj;rw[decide_eq_true e] at h3;cases h3
 refine⟨rfl,fun t ht=>by have:=(h1 t ht).1;omega,fun a b ha hb e=>?_⟩;have ha1:=(h1 a ha).1;have hb1:=(h1 b hb).1
 rcases Nat.lt_trichotomy a b with h2|h2|h2
 ·exact absurd (show o a=o b by omega) ((h1 b hb).2 a h2)
 ·exact h2
 ·exact absurd (show o b=o a by omega) ((h1 a ha).2 b h2)
theorem jT {Z:Sys}(h:Okk Z)(hi:i<Z.nb):0<=(Z.b i).c/\(Z.b i).c<=(Z.b i).r/\(Z.b i).r<(Z.ns:Int)/\Qn Z.z (Z.b i)=true/\(0<i->Wh (Z.b (i-1)) (Z.b i)=true):=by
 have h1:=h.bk i hi;unfold bkC at h1
 split at h1
 ·cases h1
 split at h1
 ·cases h1
 split at h1
 ·cases h1
 rename_i h2 h3 h4
 refine⟨by omega,by omega,by omega,by simpa using h3,fun h0=>?_⟩;cases h5:Wh (Z.b (i-1)) (Z.b i) with
 | true=>rfl
 | false=>exact absurd ⟨h0,h5⟩ h4
theorem JF {B C:Bkk}:Wh B C=true↔(B.r<C.r\/(B.r=C.r/\B.c<C.c)):=by
 unfold Wh;rw[Bool.or_eq_true,Bool.and_eq_true,decide_eq_true_eq,decide_eq_true_eq,decide_eq_true_eq]
theorem V9 {Z:Sys}(h:Okk Z){j:Nat}:∀ {i:Nat},j<i->i<Z.nb->Wh (Z.b j) (Z.b i)=true
 | i+1,h1,h2=>by
  have h3:=(jT h h2).2.2.2.2 (by omega);rw[show i+1-1=i by omega] at h3
  by_cases hji:j=i
  ·rw[hji];exact h3
  ·have h4:=V9 h (show j<i by omega) (by omega);rw[JF] at h3 h4 ⊢;omega
theorem vU {z:Nat->Int}{B:Bkk}(h:Qn z B=true):(B.m:Int)=z B.r.toNat/\(∀i,i<B.m->(B.L i:Int)=z B.c.toNat):=by
 unfold Qn at h;rw[Bool.and_eq_true,decide_eq_true_eq,Bool.and_eq_true,qm] at h;exact⟨h.1,fun i hi=>by simpa using h.2.1 i hi⟩
theorem VZ {Z:Sys}(h:Okk Z)(hi:i<Z.nb){a:Nat}(ha:a<(Z.b i).m)(hb:b<(Z.b i).L a):(Z.b i).A a b=raw (zl ((Z.b i).A a b)):=by
 have h1:=h.can;unfold Kt at h1;rw[Bool.and_eq_true,qm] at h1;have h2:=h1.1 i hi;unfold W9 at h2;exact wu (qm.1 (qm.1 h2 a ha) b hb)
theorem q96 {Z:Sys}(h:Okk Z)(hi:i<Z.k):Z.R i=raw (zl (Z.R i)):=by
 have h1:=h.can;unfold Kt at h1;rw[Bool.and_eq_true,qm,qm] at h1;exact wu (h1.2 i hi)
def q6B (N lo hi:Nat) (w:World) (Z:Sys) (i:Nat) (l:List ((Int×Int)×Value)):Prop :=
 (∀j,j<i->∃(A:Option Addr) (c:Nat),lkp l (Z.b j).r (Z.b j).c=some (.slice A (Z.b j).m c)/\MtR N lo hi w (.slice A (Z.b j).m c) (Z.b j).m (Z.b j).L (Z.b j).A) /\
 ∀r c,(∀j,j<i->¬((Z.b j).r=r/\(Z.b j).c=c))->lkp l r c=none
theorem q6B.put{Z:Sys}{l:List ((Int×Int)×Value)}(h:q6B N lo hi w Z i l) (hO:Okk Z) (hi':i<Z.nb)(hm:MtR N lo hi w (.slice A (Z.b i).m c) (Z.b i).m (Z.b i).L (Z.b i).A) :
  q6B N lo hi w Z (i+1) (put (.slice A (Z.b i).m c) l (Z.b i).r (Z.b i).c):=by
 refine⟨fun j hj=>?_,fun r c' hn=>?_⟩
 ·rw[Jf]
  by_cases hji:j=i
  ·subst hji;rw[if_pos ⟨rfl,rfl⟩];exact⟨A,c,rfl,hm⟩
  ·have h1:=V9 hO (show j<i by omega) hi';rw[JF] at h1;rw[if_neg (by omega)];exact h.1 j (by omega)
 ·rw[Jf,if_neg (fun h9=>hn i (by omega) ⟨h9.1.symm,h9.2.symm⟩)];exact h.2 r c' (fun j hj=>hn j (by omega))
theorem q98 {B0 B1:Nat}{Z:Sys}{z o:Nat->Nat}{F:Nat->Nat->Nat->Nat->Rat}{R:q_m}{K:Nat->Nat}{Kx:Nat}{x:q_v}(H:SvH Z z o F R K Kx x) (hO:Okk Z)(hi':i<Z.nb)(hm:MtR N lo hi w (.slice A (Z.b i).m c) (Z.b i).m (Z.b i).L (Z.b i).A) (e:Ext w w') (hb:w.heap.size<=B0) :
  Mx N B0 B1 w' (.slice A (Z.b i).m c) (z (Z.b i).r.toNat) (z (Z.b i).c.toNat) (F (Z.b i).r.toNat (Z.b i).c.toNat):=by
 obtain⟨h1,h2,h3,h4,-⟩:=jT hO hi';obtain⟨h5,h6⟩:=vU h4;rw[H.hz _ (by omega)] at h5;rw[H.hz _ (by omega)] at h6;have h7:=kU.1 (hO.szs (Z.b i).r.toNat (by omega));rw[H.hz _ (by omega)] at h7;have hmz:(Z.b i).m=z (Z.b i).r.toNat:=by omega
 have h8:MtV N lo hi w (.slice A (Z.b i).m c) (z (Z.b i).r.toNat) (z (Z.b i).c.toNat) (F (Z.b i).r.toNat (Z.b i).c.toNat):=by
  rw[<-hmz];refine MtR.congr hm (fun a ha=>by have:=h6 a ha;omega) (fun a ha b hb=>?_);have h9:=h6 a ha;rw[VZ hO hi' ha hb,H.F1 i hi' a (by omega) b (by omega)]
 obtain⟨b,off,rfl,-⟩:=MtR.addr hm (by omega);exact⟨_,c,lo,hi,by rw[hmz],h8.ext e,.inl (q_l hm.2.1 hb)⟩
theorem q6B.done {B0 B1:Nat}{Z:Sys}{z o:Nat->Nat}{F:Nat->Nat->Nat->Nat->Rat}{R:q_m}{K:Nat->Nat}{Kx:Nat}{x:q_v}(H:SvH Z z o F R K Kx x) (hO:Okk Z){l:List ((Int×Int)×Value)}(h:q6B N lo hi w Z Z.nb l) (e:Ext w w') (hb:w.heap.size<=B0) :
  ∀r c,c<=r->r<Z.ns->MpC N B0 B1 w' (z r) (z c) (F r c) (lkp l (r:Int) (c:Int)):=fun r c hc hr=>by
 by_cases h1:∃i,i<Z.nb/\(Z.b i).r=(r:Int)/\(Z.b i).c=(c:Int)
 ·obtain⟨i,hi',h2,h3⟩:=h1;obtain⟨A,c',h4,h5⟩:=h.1 i hi';have h6:=q98 (B1:=B1) H hO hi' h5 e hb;rw[h2,h3] at h4 h6;rw[h4];exact h6
 ·have h2:∀i,i<Z.nb->¬((Z.b i).r=(r:Int)/\(Z.b i).c=(c:Int)):=fun i hi' h9=>h1 ⟨i,hi',h9⟩
  rw[h.2 _ _ h2];intro a b ha hb;exact H.F0 r c hc hr h2 a ha b hb
theorem wrp {n:Int}(h : -9223372036854775808<=n) (h':n<=9223372036854775807):IntKind.i64.wrap n=n:=by
 rw[IntKind.wrap_i64];omega
theorem set3c{t:TypeId}{x0 x1 x2:Value}(h:w.heap[g]?=some (.cells #[x0,x1,x2] t (0,0))) (ht:t≠119) (u:Value):∃w',w.setCell ⟨g,2,none⟩ u=w'/\w'.heap[g]?=some (.cells #[x0,x1,u] t (0,0))/\Chg g (g+1) w w':=by
 refine⟨_,rfl,?_,((Upd.refl g w).set 2 u).chg (NoU.mk h ht)⟩;have h1:=heap_set h 2 u;simpa using h1
def rtV (z:Nat->Nat) (br ofr c3 i:Nat):Value:=.slice (some ⟨br,ofr+ql z i*4,none⟩) (z i) (c3-ql z i)
def rtL (z:Nat->Nat) (br ofr c3 k:Nat):List Value:=(List.range k).map (rtV z br ofr c3)
theorem q4u (z:Nat->Nat) (br ofr c3 k:Nat):rtL z br ofr c3 (k+1)=rtL z br ofr c3 k ++ [.slice (some ⟨br,ofr+ql z k*4,none⟩) (ql z (k+1)-ql z k) (c3-ql z k)]:=by
 unfold rtL;rw[List.range_succ,List.map_append];unfold rtV;rw[show ql z (k+1)-ql z k=z k by show ql z k+z k-ql z k=z k;omega]
 rfl
theorem Qp (z:Nat->Nat) (br ofr c3 k:Nat):(rtL z br ofr c3 k).length=k:=by unfold rtL;rw[List.length_map,List.length_range]
theorem Chg.fresh {a l u:Nat}{v:World}(h:Chg a b v w) (c:Chg l u w w') (hl:v.heap.size<=l):Chg a b v w' :=
 ⟨c.os.trans h.os,c.tape.trans h.tape,c.output.trans h.output,q_l h.size c.size,fun k hk hc=>by
  rw[<-h.block k hk hc]
  exact c.block k (Nat.lt_of_lt_of_le hk h.size) (.inl (by omega))⟩
def Mn.b1 (u:Value):Mn:=⟨fun v w=>∃g,v=.slice (some ⟨g,0,none⟩) 1 1/\w.heap[g]?=some (.cells #[u] 37 (0,0)),fun e h=>by
 obtain⟨g,hv,h1⟩:=h
 exact⟨g,hv,e.block h1⟩⟩
theorem q6X (w:World):(Instr.makeMap 77 none).run Tryz.prog w=.ok (.map (some w.heap.size)) (w.alloc (.map #[] 0)):=rfl
theorem q6G {z o:Nat->Nat}{F:Nat->Nat->Nat->Nat->Rat}{R x:q_m}{t a:Nat}(h:∀b,b<z (o (t+1+j))->Fsy (fsS z o m F t) (o t) (o (t+1+j)) a b=0):yS z o m F R x t j a=yS z o m F R x t (j+1) a:=by
 show _=yS z o m F R x t j a-av _ _ _ a
 have h1:av (z (o (t+1+j))) (Fsy (fsS z o m F t) (o t) (o (t+1+j))) (x (o (t+1+j))) a=0:=by
  unfold av;exact qy fun b hb=>by rw[h b hb];grind
 rw[h1]
 grind
theorem q6F (z o:Nat->Nat) (m:Nat) (F:Nat->Nat->Nat->Nat->Rat) (R x:q_m) (t j a:Nat):yS z o m F R x t j a-av (z (o (t+1+j))) (Fsy (fsS z o m F t) (o t) (o (t+1+j))) (x (o (t+1+j))) a=yS z o m F R x t (j+1) a:=rfl
theorem q6H (z o:Nat->Nat) (K Kx t j:Nat):yH z o K Kx t (j+1)=yH z o K Kx t j+(z (o (t+1+j))*(K+Kx+1)+1)+1:=rfl
theorem StM.past {B0 B1 l u:Nat}{w1 w2:World}{bz oz gm gr:Nat}{z:Nat->Nat}{F:Nat->Nat->Nat->Nat->Rat}{R:q_m}(h:StM N B0 B1 w bz oz gm gr m z F R) (e:Ext w w1) (C:Chg l u w1 w2) (hl:w.heap.size<=l):StM N B0 B1 w2 bz oz gm gr m z F R:=by
 obtain⟨⟨s1,s2⟩,⟨l',h3,h4⟩,⟨cs,h5,h6⟩,h7,h8,h9,h10⟩:=h;have hNl:N<=l:=by omega
 refine⟨⟨s1,fun a ha=>C.cell (e.cell (s2 a ha)) (.inl (by show bz<l;omega))⟩,⟨l',?_,fun r c hc hr=>?_⟩,⟨cs,C.blk (e.block h5) (.inl (by omega)),fun i hi=>?_⟩,h7,h8,h9,by have:=e.size;have:=C.size;omega⟩
 ·obtain⟨es,q,h11,h12⟩:=h3;exact⟨es,q,C.blk (e.block h11) (.inl (by omega)),h12⟩
 ·have h9:=h4 r c hc hr
  generalize lkp l' (r:Int) (c:Int)=o at h9 ⊢
  cases o with
  | none=>exact h9
  | some v =>
   obtain⟨A,k,lo,hi,hv,h11,h12⟩:=h9;exact⟨A,k,lo,hi,hv,MtR.chg (MtR.ext h11 e) C hNl (.inl (q_l h11.2.1 hl)),h12⟩
 ·obtain⟨v,h11,A,k,lo,hi',hv,h12,h13⟩:=h6 i hi;exact⟨v,h11,A,k,lo,hi',hv,LsR.chg (LsR.ext h12 e) C hNl (.inl (q_l h12.2.1 hl)),h13⟩
theorem q5V.form {B0 B1 C1 q:Nat}{kb:Obj}{bz oz gm gr:Nat}{z:Nat->Nat}{F:Nat->Nat->Nat->Nat->Rat}{R:q_m}{lf:Nat->Nat}{nl:Nat}{e:Ending}(hq:w.heap[q]?=some kb) (h:q5V N B0 B1 C1 q kb w bz oz gm gr m z F R k lf nl e w') :
  ∃(A:Option Addr) (n c:Nat) (ok:Bool),e=.returned (.tuple #[.slice A n c,.bool ok])/\w'.heap[q]?=some kb/\((ok=false/\¬Reg (z k) (F k k)/\Ext w w') \/
   (ok=true/\(∃A':Addr,A=some A')/\n=z k/\Reg (z k) (F k k)/\MtV N B1 w'.heap.size w' (.slice A (z k) c) (z k) (z k) (x8 (z k) (F k k))/\StM N B0 B1 w' bz oz gm gr m z (Fel k (z k) F (x8 (z k) (F k k)) (pA lf nl nl)) (Rel k (z k) F (x8 (z k) (F k k)) R (xk lf nl))/\Chg B0 C1 w w')):=by
 rcases h with ⟨rfl,h1,h2⟩|⟨A,cap,rfl,h1,h2,h3,h4,h5⟩
 ·exact⟨none,0,0,false,rfl,h2.block hq,.inl ⟨rfl,h1,h2⟩⟩
 ·exact⟨some A,z k,cap,true,rfl,h5,.inr ⟨rfl,⟨A,rfl⟩,rfl,h1,h2,h3,h4⟩⟩
set_option maxRecDepth 100000 in
theorem q3X {lo' hi':Nat}{u:Value}{Z:Sys}(h:jI N lo hi w v Z) (hB:∀i,i<Z.nb->q6C (Z.b i)) (hk:∀i,i<Z.k->jJ (Z.R i)) (h0:vH Z=0){oz:Nat->Int}(ho:IzV N lo' hi' w u n oz) (hp:yN oz n Z.ns=true)
  {z o:Nat->Nat}(hoz:∀t,t<n->oz t=(o t:Int)){F:Nat->Nat->Nat->Nat->Rat}{R:q_m}{KH:Nat->Nat}{Kx:Nat}{x:q_v}(H:SvH Z z o F R KH Kx x) :
  Calls Tryz.prog 9 #[v,u] w (q9m N w Z.ns Z.k z o F x):=by
 obtain⟨Q,hQ⟩:=qc (q9m N w Z.ns Z.k z o F x);rw[<-hQ.out];have HS:=q_h h;have HSZ:=q_h hB;have HKZ:=q_h hk;have HH:=q_h H;have HO:=q_h (QG h0);have HP:=q_h hp;have HOZ:=q_h hoz;obtain⟨A1,c1,A2,c2,A3,c3,rfl,s1,s2,s3,k1,k2,k3⟩:=h.parts;have HI:=q_h s1;have HB:=q_h s2;have HL:=q_h s3;have HU:=q_h ho;obtain⟨A4,c4,rfl,l1,l2⟩:=ho.form;unfold maxLen at l2;obtain rfl:n=Z.ns:=(Yq hp).1;have hn1:=HO.out.n1;have hk1:0<Z.k:=by have:=HO.out.len;have:=(Zk Z.ns HO.out.szs).1;omega
 obtain⟨bz,oz',rfl,hbz⟩:=s1.addr (by omega);obtain⟨br,ofr,rfl,-⟩:=LsR.addr s3 hk1;obtain⟨bo,oo,rfl,hbo⟩:=ho.addr (by omega);have HBZ:Hid (∀i,i<Z.ns->w.cell? ⟨bz,oz'+i,none⟩=some (.int .i64 (z i:Int))):=fun i hi=>by rw[<-HH.out.hz i hi];exact hbz i hi
 have HBO:Hid (∀i,i<Z.ns->w.cell? ⟨bo,oo+i,none⟩=some (.int .i64 (o i:Int))):=fun i hi=>by rw[<-HOZ.out i hi];exact hbo i hi
 have HCK:=fun (w':World) (e:Ext w w')=>JI (HS.out.ext e) HSZ.out HKZ.out
 rw[h0] at HCK;have HCK':=q_h HCK;obtain⟨m,hm⟩:=qc Z.ns;obtain⟨nb,hnb⟩:=qc Z.nb;obtain⟨kk,hkk⟩:=qc Z.k;rw[<-hm.out] at k1 l1 HU HP;rw[<-hm.out,<-hnb.out,<-hkk.out];rw[<-hnb.out] at k2;rw[<-hkk.out] at k3;rw[<-hm.out,<-hnb.out,<-hkk.out] at HCK';clear h hB hk H h0 hp hoz s1 s2 s3 ho HCK hbz hbo;have hnlN:=fun (w:World) (a:Option Addr) (n c:Nat)=>run_neq_slice_nil_any (P:=Tryz.prog) w 29 37 a n c 0 0 Tryz.underlying29
 go_enter Tryz.func9,Tryz.ntmps9;go_upto_region 1 with (fail);refine qo ?_;intro w1 hE hsz B0;obtain⟨g1,hg1⟩:=qc w.heap.size;have hg1':w.heap.size<=g1:=by rw[hg1.out];exact q_r
 have hg1s:g1<w1.heap.size:=by rw[hg1.out];omega
 rw[<-hg1.out] at B0 ⊢;obtain⟨a0,a1,a2,-⟩:=cells3 B0;clear hg1 hsz;go_wp2_with (go_at_call 34;refine q_o ?_);refine (HCK'.out _ hE).mono ?_;rintro e w2 ⟨rfl,e2⟩;replace hE:=hE.trans e2;replace B0:=e2.block B0;replace hg1s:=Nat.lt_of_lt_of_le hg1s e2.size;clear a0 a1 a2 HCK' e2;obtain⟨a0,a1,a2,-⟩:=cells3 B0;have HPM:=q_h (Qb (m:=m) (HU.out.ext hE) (by have:=HO.out.n2;have:=hm.out;omega));rw[HP.out] at HPM;go_wp2_with (go_at_call 35;refine q_o ?_);refine (HPM.out).mono ?_;rintro e w3 ⟨rfl,e3⟩;replace hE:=hE.trans e3;replace B0:=e3.block B0;replace hg1s:=Nat.lt_of_lt_of_le hg1s e3.size;clear a0 a1 a2 HPM e3;obtain⟨a0,a1,a2,-⟩:=cells3 B0;have HST:=q_h (Zh (HS.out.ext hE) HO.out.n2 HO.out.szs);rw[<-hm.out,<-hnb.out,<-hkk.out] at HST;go_wp2_with (go_at_call 36;refine q_o ?_);refine (HST.out).mono ?_;rintro e w4 ⟨gs,cs,rfl,⟨hcs1,hcs2⟩,hgs1,hgs2,hgs3,e4⟩;have hgs:w.heap.size<=gs:=q_l hE.size hgs1;have HG0:=q_h hgs3;unfold maxLen at hcs2;replace hE:=hE.trans e4;replace B0:=e4.block B0;replace hg1s:=Nat.lt_of_lt_of_le hg1s e4.size;clear a0 a1 a2 HST e4 hgs1 hgs3;obtain⟨a0,a1,a2,-⟩:=cells3 B0;go_upto_region 8 with (fail);rw[q6X];go_upto_region 8 with (fail);refine kD ?_;intro w5 e5 hsz5 B5 B6;obtain⟨gm,hgm⟩:=qc w4.heap.size;rw[<-hgm.out] at B5 B6 hsz5 ⊢;have hgm4:w4.heap.size<=gm:=by rw[hgm.out];exact q_r
 replace hgs2:gs<gm:=by omega
 replace hg1s:g1<gm:=by omega
 have hgmw:w.heap.size<=gm:=q_l hE.size hgm4;have HMP:Hid (MpE w5 gm []):=⟨#[],0,B5,rfl⟩
 have HG5:Hid (∀i,i<m+1->w5.cell? ⟨gs,i,none⟩=some (.int .i64 (ql z i:Int))):=fun i hi=>by rw[<-ku (fun j hj=>HH.out.hz j (by have:=hm.out;omega))];exact e5.cell (HG0.out i (by have:=hm.out;omega))
 replace hE:=hE.trans e5;replace B0:=e5.block B0;have HB0:=q_h B0;have HB6:=q_h B6;clear a0 a1 a2 HG0 e5 B5 B6 B0 hgm hgm4;obtain⟨wA,hwA⟩:∃wA,wA=w5:=⟨_,rfl⟩
 subst hwA;obtain⟨a0,a1,a2,-⟩:=cells3 HB0.out;obtain⟨m0,m1,m2,-⟩:=cells3 HB6.out;go_wp2_with fail
 go_loopw [44] (fun iv wr=>∃(i:Nat) (l:List ((Int×Int)×Value)),i<=nb/\iv=.int .i64 (i:Int)/\Hid (MpE wr gm l)/\Hid (q6B N lo hi w Z i l)/\Hid (Chg gm (gm+1) wA wr)) (fun iv _=>nb-(intOf iv).toNat)
 case atStart=>exact⟨0,[],Nat.zero_le _,rfl,HMP,⟨fun j hj=>absurd hj (Nat.not_lt_zero j),fun r c _=>rfl⟩,Chg.refl _ _ _⟩
 case round =>
  clear HMP a0 a1 a2 m0 m1 m2;obtain⟨i,l,hi9,rfl,HML,HFL,HCA⟩:=hrel;obtain⟨m0,m1,m2,-⟩:=cells3 (HCA.out.blk HB6.out (by omega))
  by_cases hlt:i<nb
  case pos =>
   have t1:decide ((i:Int)<(nb:Int))=true:=q_t (by omega);have t2:(i:Int)<(nb:Int):=by omega
   have hEi:=HCA.out.ext hE hgmw;have HBi:=HB.out.ext hEi;rw[<-hnb.out] at HBi;obtain⟨b,off,rfl,hx⟩:=HBi.addr (by omega);obtain⟨Ab,cb,p0,p1,p2,hM,hm9⟩:=(hx i hlt).box;have HBw:=HB.out;rw[<-hnb.out] at HBw;obtain⟨b',off',hbb,hx'⟩:=HBw.addr (by omega);simp only[Option.some.injEq,Addr.mk.injEq,and_true] at hbb;obtain⟨rfl,rfl⟩:=hbb;obtain⟨Ab',cb',-,-,p2',hM',-⟩:=(hx' i hlt).box;have p2'':=hEi.cell p2';rw[p2] at p2'';simp only[Option.some.injEq,Value.slice.injEq,true_and] at p2'';obtain⟨rfl,rfl⟩:=p2'';have HIB:Hid (i<Z.nb):=by rw[Hid,<-hnb.out];exact hlt
   have HFN:=q_h (HFL.out.put HO.out HIB.out hM');obtain⟨r1,r2,r3,-⟩:=jT HO.out HIB.out;have hn2:=HO.out.n2
   have HKR:Hid (V7 (Z.b i).r/\V7 (Z.b i).c):=by
    refine⟨⟨?_,?_⟩,?_,?_⟩<;>omega
   obtain⟨mm,hmm⟩:=qc (Z.b i).m;rw[<-hmm.out] at p2 hm9 HFN;obtain⟨br,hbr⟩:=qc (Z.b i).r;obtain⟨bc,hbc⟩:=qc (Z.b i).c;rw[<-hbr.out] at p0 HKR HFN;rw[<-hbc.out] at p1 HKR HFN;clear hx hx' hM hM' p2' HBi HBw r1 r2 r3 hn2;go_upto_region 11 with (fail);refine qo ?_;intro w6 e6 hsz6 B6';clear p0 p1 p2 m0 m1 m2;obtain⟨m0,m1,m2,-⟩:=cells3 (e6.block (HCA.out.blk HB6.out (by omega)));obtain⟨b0,b1,b2,-⟩:=cells3 B6';obtain⟨w7,hu,HM7,C7⟩:=ve (HML.out.ext e6) HKR.out.1 HKR.out.2 (.slice Ab mm cb);unfold kyV at hu;have HM7':=q_h HM7;have HC7:Hid (Chg gm (gm+1) wA w7):=(HCA.out.trans (e6.chg gm (gm+1))).trans C7;clear HM7 C7 hEi;go_wp2;go_roundw
   case rel=>exact⟨i+1,_,by omega,by go_num,HM7',HFN,HC7⟩
   case measure=>simp[intOf];omega
  have t1:decide ((i:Int)<(nb:Int))=false:=q_f (by omega);obtain rfl:nb=i:=by omega
  have HFD:Hid (q6B N lo hi w Z Z.nb l):=by have:=HFL.out;rwa [hnb.out] at this
  obtain⟨wB,hwB⟩:∃wB,wB=wr:=⟨_,rfl⟩
  subst hwB;have hEB:=HCA.out.ext hE hgmw;have HGB:Hid (∀i,i<m+1->wB.cell? ⟨gs,i,none⟩=some (.int .i64 (ql z i:Int))):=fun i hi=>HCA.out.cell (HG5.out i hi) (.inl hgs2)
  have HB0':=q_h (HCA.out.blk HB0.out (.inl hg1s));have HB6':=q_h (HCA.out.blk HB6.out (.inr (q_r)));have hszB:gm+2<=wB.heap.size:=q_l hsz5 HCA.out.size;clear HFL HG5 HB0 HB6 hsz5 hE m0 m1 m2 HCA hi9;obtain⟨a0,a1,a2,-⟩:=cells3 HB0'.out;go_wp2_with fail
  go_loopw [61] (fun iv wr=>∃(i:Nat) (Ar:Option Addr) (cr:Nat),i<=m/\iv=.int .i64 (i:Int)/\Hid (qO 37 wB.heap.size wr (.slice Ar i cr) (rtL z br ofr c3 i))/\Hid (wr.heap[gm+1]?=some (.cells #[.slice (some ⟨bz,oz',none⟩) m c1,.map (some gm),.slice Ar i cr] 79 (0,0)))/\Hid (Chg (gm+1) (gm+2) wB wr)) (fun iv _=>m-(intOf iv).toNat)
  case atStart=>exact⟨0,_,_,Nat.zero_le _,rfl,qO.nil (q_r),HB6'.out,Chg.refl _ _ _⟩
  case round =>
   clear HB6' a0 a1 a2 hlt t1;obtain⟨i,Ar,cr,hi9,rfl,HGR,HBX,HCR⟩:=hrel;obtain⟨a0,a1,a2,-⟩:=cells3 (HCR.out.blk HB0'.out (.inl (by omega)));obtain⟨m0,m1,m2,-⟩:=cells3 HBX.out
   by_cases hlt:i<m
   case pos =>
    have t1:decide ((i:Int)<(m:Int))=true:=q_t (by omega);have t2:(i:Int)<(m:Int):=by omega
    have q0:=HCR.out.cell (HGB.out i (by omega)) (.inl (by show gs<gm+1;omega));have q1:=HCR.out.cell (HGB.out (i+1) (by omega)) (.inl (by show gs<gm+1;omega));have hzi:=kU.1 (HO.out.szs i (by rw[<-hm.out];exact hlt));rw[HH.out.hz i (by rw[<-hm.out];exact hlt)] at hzi
    have hoff:ql z (i+1)<=kk:=by
     have h1:=HO.out.len;rw[ku HH.out.hz] at h1;have h2:=qK z (show i+1<=Z.ns by rw[<-hm.out];omega);have:=hkk.out;omega
    have hof1:ql z (i+1)=ql z i+z i:=rfl;have HXS:=q_h (q4u z br ofr c3 i);obtain⟨P,hP⟩:=qc (ql z i);obtain⟨P',hP'⟩:=qc (ql z (i+1));rw[<-hP.out,<-hP'.out] at HXS hof1;rw[<-hP.out] at q0;rw[<-hP'.out] at q1 hoff;have hPP:P<P':=by omega
    clear hof1 hzi;obtain⟨-,-,A9,c9,hv9,hkc,hkm,-⟩:=HL.out;simp only[Value.slice.injEq] at hv9;obtain⟨-,-,rfl⟩:=hv9;rw[<-hkk.out] at hkc;unfold maxLen at hkm;have hl1:¬c3=P:=by omega
    have hl2:P<=P':=by omega
    have hcap:P'<=c3:=by omega
    obtain⟨wx,hwx⟩:∃wx,wx=wr:=⟨_,rfl⟩
    subst hwx;have m1':IntKind.i64.wrap ((i:Int)+1)=(i:Int)+1:=wrp (by omega) (by omega);have hgi0:(i:Int)<(m:Int)+1:=by omega
    have hxl:(rtL z br ofr c3 i).length+1<=1000000000:=by rw[Qp];have:=HO.out.n2;have:=hm.out;omega
    have hgi:(i:Int)+1<(m:Int)+1:=by omega
    go_upto_region 16 with (fail);refine yB [Mn.q (gm+1) 2,Mn.eq (.slice Ar i cr),Mn.q g1 2,Mn.eq (.slice (some ⟨br,ofr,none⟩) kk c3),Mn.eq (.slice (some ⟨gs,0,none⟩) (m+1) cs),Mn.i (i:Int),Mn.q gs i,Mn.i (P:Int),Mn.eq (.slice (some ⟨gs,0,none⟩) (m+1) cs),Mn.i (i:Int),Mn.i ((i:Int)+1),Mn.q gs (i+1),Mn.i (P':Int),Mn.eq (.slice (some ⟨br,ofr+P*4,none⟩) (P' - P) (c3-P)),Mn.b1 (.slice (some ⟨br,ofr+P*4,none⟩) (P' - P) (c3-P)),Mn.any,Mn.any,Mn.any] [some 64,some 65,some 66,some 67,some 68,some 69,some 70,some 71,some 72,some 73,some 74,some 75,some 76,some 77,some 78,some 79,some 80,none] [15,16,17] (rQ 15 3) 3 (by kernel_rfl) ?_ ?_
    ·show ∀i,i<18->_
     iterate 18 refine fs ?_ ?_
     ·exact fz
     all_goals intro hl;first|exact absurd hl (by decide)|(clear hl;refine stp rfl ?_;intro ac wi eI hB hA K hK)
     have o8:=oOf (hB 8) rfl;rotate_left;obtain⟨_,s64,rfl⟩:=hA 0 64;have cc0:=eI.cell m2;rotate_left;have o2:=oOf (hB 2) rfl;rotate_left;obtain⟨_,s66,rfl⟩:=hA 2 66;have cc0:=eI.cell a2;rotate_left;have o7:=oOf (hB 7) rfl;rotate_left;have o11:=oOf (hB 11) rfl;rotate_left;obtain⟨_,s68,rfl⟩:=hA 4 68;obtain⟨_,s69,rfl⟩:=hA 5 69;rotate_left;obtain⟨_,s70,rfl⟩:=hA 6 70;have cc0:=eI.cell q0;rotate_left;have o7:=oOf (hB 7) rfl;rotate_left;have o11:=oOf (hB 11) rfl;rotate_left;obtain⟨_,s73,rfl⟩:=hA 9 73;rotate_left;obtain⟨_,s72,rfl⟩:=hA 8 72;obtain⟨_,s74,rfl⟩:=hA 10 74;rotate_left;obtain⟨_,s75,rfl⟩:=hA 11 75;have cc0:=eI.cell a2;have cc1:=eI.cell m2;have cc2:=eI.cell q0;have cc3:=eI.cell q1;rotate_left;obtain⟨_,s67,rfl⟩:=hA 3 67;obtain⟨_,s71,rfl⟩:=hA 7 71;obtain⟨_,s76,rfl⟩:=hA 12 76;rotate_left;obtain⟨_,s77,rfl⟩:=hA 13 77;clear hB hA
     ·go_simp;refine qo ?_;intro wj ej hszj BJ;exact hK.out _ _ ej ⟨_,rfl,BJ⟩
     all_goals clear hB hA;go_simp;exact q_k hK rfl
    intro vals wz eZ hJ;have J65:vals 1=_:=hJ 1 (by decide) (by decide);have J78:Mn.p (Mn.b1 (.slice (some ⟨br,ofr+P*4,none⟩) (P' - P) (c3-P))) (vals 14) wz:=hJ 14 (by decide) (by decide);clear hJ;simp only[pr,Nat.reduceAdd,J65];clear J65
    generalize vals 14=z78 at J78 ⊢
    obtain⟨gb,rfl,BX⟩:=J78;have hGz:=HGR.out.ext eZ;refine qj (i:=15) rfl (by kernel_rfl) (by kernel_rfl) (fun K hK=>?_);refine jq Z8 rfl _ _ 28 Tryz.underlying28 rfl (by first|rfl|(rw[Qp])) hGz (m:=1) (c:=1) (news:=[.slice (some ⟨br,ofr+P*4,none⟩) (P' - P) (c3-P)]) (by rfl) rfl (xZ BX) (fun x hx=>by rw[List.mem_singleton.1 hx];rfl) (by omega) hxl ?_;rintro gq cq w17 hG17 hat17 ⟨g',hlo',hw',C17,-⟩;rw[<-HXS.out] at hG17;rw[Qp] at hG17 ⊢;have BY:=C17.blk (eZ.block HBX.out) (.inl (by omega));obtain⟨d0,d1,d2,f0,f1,f2⟩:=cells3 BY;refine hK.out _ _ ?_;clear hK K;try simp only[nr]
    refine qj (i:=16) rfl (by kernel_rfl) (by kernel_rfl) (fun K hK=>?_);go_simp;refine hK.out _ _ ?_;clear hK K;try simp only[nr]
    refine qj (i:=17) rfl (by kernel_rfl) (by kernel_rfl) (fun K hK=>?_);go_simp;refine hK.out _ _ ?_;clear hK K;try simp only[nr]
    refine qg (by kernel_rfl) ?_ _;obtain⟨w18,E18,B18,C18⟩:=set3c BY (by decide) (.slice (some ⟨gq,0,none⟩) (i+1) cq);rw[E18];have HG18:Hid (qO 37 wB.heap.size w18 (.slice (some ⟨gq,0,none⟩) (i+1) cq) (rtL z br ofr c3 (i+1))):=hG17.chg C18 (by omega);have HC18:Hid (Chg (gm+1) (gm+2) wB w18):=((HCR.out.trans (eZ.chg _ _)).fresh C17 (by omega)).trans C18;have HB18:=q_h B18;clear E18 C18 C17 hG17 BY B18 d0 d1 d2 f0 f1 f2 hGz BX eZ m0 m1 m2 a0 a1 a2 q0 q1 HGR HBX HCR hat17;go_wp2;go_roundw
    case rel=>exact⟨i+1,_,_,by omega,by go_num,HG18,HB18,HC18⟩
    case measure=>simp[intOf];omega
   have t1:decide ((i:Int)<(m:Int))=false:=q_f (by omega);obtain rfl:m=i:=by omega
   obtain⟨wC,hwC⟩:∃wC,wC=wr:=⟨_,rfl⟩
   subst hwC;obtain⟨gr,cap,hv9,hgr1,hgr2,hcm9,hnc9,⟨csr,hcr1,hcr2⟩,hcr3⟩:=HGR.out.at_ (by rw[Qp,hm.out];exact hn1);rw[Qp] at hv9 hnc9;simp only[Value.slice.injEq,true_and] at hv9;obtain⟨rfl,rfl⟩:=hv9;have hEC:Ext w wC:=HCR.out.ext hEB (by omega)
   have HMC:Hid (MpE wC gm l):=by
    obtain⟨es,q,h1,h2⟩:=HML.out;exact⟨es,q,HCR.out.blk h1 (.inl (by omega)),h2⟩
   have HGC:Hid (∀i,i<m+1->wC.cell? ⟨gs,i,none⟩=some (.int .i64 (ql z i:Int))):=fun i hi=>HCR.out.cell (HGB.out i hi) (.inl (by show gs<gm+1;omega))
   have HBC:=q_h (HCR.out.blk HB0'.out (.inl (by omega)))
   have HRC:Hid (∃cs,wC.heap[gr]?=some (.cells cs 37 (0,0))/\∀i,i<m->cs[i]?=some (rtV z br ofr c3 i)):=by
    refine⟨csr,hcr1,fun i hi=>?_⟩;have h9:=hcr3 i (by rw[Qp];exact hi);rw[qh hcr1] at h9;rw[h9];unfold rtL
    simp
   clear HML HGB HB0' hcr1 hcr2 hcr3 HCR hEB m0 m1 m2 a0 a1 a2 HGR hi9 t1 hlt;have hgr:wB.heap.size<=gr:=hgr1;have hgrC:gr<wC.heap.size:=hgr2;have hm12:m<=12:=by have:=HO.out.n2;have:=hm.out;omega
   have HNW:Hid (N<=w.heap.size):=HL.out.le;have hbz1:bz<w.heap.size:=cell_lt (HBZ.out 0 (by omega));have hbo1:bo<w.heap.size:=cell_lt (HBO.out 0 (by omega));clear hgr1 hgr2;obtain⟨a0,a1,a2,-⟩:=cells3 HBC.out;go_wp2_with (at_make;refine q_o ?_);refine zQ q7d rfl rfl _ _ 80 Tryz.underlying80 rfl .i64 .i64 _ _ m rfl rfl rfl rfl (by omega) ?_;intro wD csD BD hcsD hzD eD;obtain⟨gI,hgI⟩:=qc wC.heap.size;have hgrI:gr<gI:=by rw[hgI.out];exact hgrC
   have hgIC:wC.heap.size<=gI:=by rw[hgI.out];exact q_r
   rw[<-hgI.out] at BD ⊢;have hgID:gI<wD.heap.size:=qF BD;have HFI:Hid (FlB 29 wD gI m (fun _=>.slice none 0 0)):=⟨csD,BD,hcsD,hzD⟩
   have HED:=q_h (hEC.trans eD);have HBD:=q_h (eD.block HBC.out);have HXD:=q_h (eD.block HBX.out);have HGD:Hid (∀i,i<m+1->wD.cell? ⟨gs,i,none⟩=some (.int .i64 (ql z i:Int))):=fun i hi=>eD.cell (HGC.out i hi)
   have HSD:Hid (StM N gm (gI+1) wD bz oz' gm gr m z (fsS z o m F 0) (rsS z o m F R 0)):=by
    refine⟨⟨by omega,fun i hi=>HED.out.cell (HBZ.out i (by rw[<-hm.out];exact hi))⟩,⟨l,HMC.out.ext eD,fun r c hc hr=>?_⟩,?_,by omega,by omega,q_l HNW.out hgmw,hgID⟩
    ·exact q6B.done HH.out HO.out HFD.out HED.out hgmw r c hc (by rw[<-hm.out];exact hr)
    ·obtain⟨csr,hr1,hr2⟩:=HRC.out;refine⟨csr,eD.block hr1,fun i hii=>⟨_,hr2 i hii,?_⟩⟩;have hi':i<Z.ns:=by rw[<-hm.out];exact hii
     have hzi:=kU.1 (HO.out.szs i hi');rw[HH.out.hz i hi'] at hzi;have hof1:ql z (i+1)=ql z i+z i:=rfl
     have hoff:ql z (i+1)<=Z.k:=by
      have h1:=HO.out.len;rw[ku HH.out.hz] at h1;have h2:=qK z (show i+1<=Z.ns by omega);omega
     obtain⟨-,-,A9,c9,hv9,hkc,hkm,-⟩:=HL.out;simp only[Value.slice.injEq] at hv9;obtain⟨-,-,rfl⟩:=hv9;have h3:LsV N lo hi wD (.slice (some ⟨br,ofr,none⟩) Z.k c3) Z.k (fun j=>zl (Z.R j)):=(HL.out.ext HED.out).congr (fun j hj=>q96 HO.out hj);have h4:=h3.sub (l:=ql z i) (r:=ql z (i+1)) (by omega) hoff (c':=c3-ql z i) (by omega) (by omega);rw[hof1,show ql z i+z i-ql z i=z i by omega] at h4;exact⟨_,_,lo,hi,rfl,h4.congr (fun a ha=>(HH.out.R1 i hi' a ha).symm),.inl (q_l HL.out.2.1 hgmw)⟩
   clear HMC HFD HRC HBC HBX HGC HNW BD hcsD hzD a0 a1 a2 eD hgI hEC
   have HZ:Hid (∀i,i<m->0<z i/\z i<=64):=fun i hi=>by
    have hzi:=kU.1 (HO.out.szs i (by rw[<-hm.out];exact hi));rw[HH.out.hz i (by rw[<-hm.out];exact hi)] at hzi;omega
   have HLO:Hid (∀t,t<m->o t<m):=by have:=HH.out.low;rw[<-hm.out] at this;exact this
   have HIN:Hid (∀a b,a<m->b<m->o a=o b->a=b):=by have:=HH.out.inj;rw[<-hm.out] at this;exact this
   go_wp2_with fail
   go_loopw [87] (fun iv wr=>∃(t:Nat) (f:Nat->Value),t<=m/\iv=.int .i64 (t:Int)/\Hid (StM N gm (gI+1) wr bz oz' gm gr m z (fsS z o m F t) (rsS z o m F R t))/\Hid (∀s,s<t->PvF z o m F s)/\Hid (FlB 29 wr gI m f) /\
    Hid (∀s,s<t->∃(A:Addr) (cap:Nat),f (o s)=.slice (some A) (z (o s)) cap/\MtV N (gI+1) wr.heap.size wr (.slice (some A) (z (o s)) cap) (z (o s)) (z (o s)) (x8 (z (o s)) (fsS z o m F s (o s) (o s)))) /\
    Hid (wr.heap[gm+1]?=some (.cells #[.slice (some ⟨bz,oz',none⟩) m c1,.map (some gm),.slice (some ⟨gr,0,none⟩) m cr] 79 (0,0)))/\Hid (Chg gm (gI+1) wD wr)) (fun iv _=>m-(intOf iv).toNat)
   case atStart=>exact⟨0,_,Nat.zero_le _,rfl,HSD,fun s hs=>absurd hs (Nat.not_lt_zero s),HFI,fun s hs=>absurd hs (Nat.not_lt_zero s),HXD,Chg.refl _ _ _⟩
   case round =>
    clear HSD HFI HXD;obtain⟨t,f,ht9,rfl,HST,HPV,HFL,HIV,HXT,HCT⟩:=hrel
    by_cases hlt:t<m
    case pos =>
     have t1:decide ((t:Int)<(m:Int))=true:=q_t (by omega);have t2:(t:Int)<(m:Int):=by omega
     have c0:=HCT.out.cell (HED.out.cell (HBO.out t (by rw[<-hm.out];exact hlt))) (.inl (by show bo<gm;omega));obtain⟨k,hk⟩:=qc (o t);rw[<-hk.out] at c0;have hkm:k<m:=by rw[hk.out];exact HLO.out t hlt
     obtain⟨m0,m1,m2,-⟩:=cells3 HXT.out;have t3:IntKind.i64.wrap ((t:Int)+1)=(t:Int)+1:=wrp (by omega) (by omega);have t4:(t:Int)+1<=(m:Int):=by omega
     have HHT:Hid ((∀r c,c<=r->r<m->HtM (z r) (z c) (KH t) (fsS z o m F t r c))/\∀r,r<m->HtL (z r) (KH t) (rsS z o m F R t r)):=by
      have:=HH.out.hH t (by have:=hm.out;omega)
      rwa [<-hm.out] at this
     have HHT':Hid ((∀r c,c<=r->r<m->HtM (z r) (z c) (KH (t+1)) (fsS z o m F (t+1) r c))/\∀r,r<m->HtL (z r) (KH (t+1)) (rsS z o m F R (t+1) r)):=by
      have:=HH.out.hH (t+1) (by have:=hm.out;omega)
      rwa [<-hm.out] at this
     have HKB:Hid (5*(5 ^ z k*(KH t+1))<=29000000000/\z k*(z k*(KH t+5 ^ z k*(KH t+1)+1)+1+KH t+1)+1<=29000000000):=by
      rw[Hid,hk.out];exact⟨HH.out.hK1 t (by have:=hm.out;omega),HH.out.hK2 t (by have:=hm.out;omega)⟩
     have HKK:Hid (KH t<=KH (t+1)/\KH (t+1)<=29000000000):=HH.out.hK t (by have:=hm.out;omega)
     have HRS:Hid ((∀s,s<m-(t+1)->q1q o t s<m/\q1q o t s≠k)/\∀a b,a<m-(t+1)->b<m-(t+1)->q1q o t a=q1q o t b->a=b):=by
      refine⟨fun s hs=>⟨HLO.out _ (by omega),fun e=>?_⟩,fun a b ha hb e=>?_⟩
      ·have:=HIN.out _ t (by omega) hlt (e.trans hk.out);omega
      ·have:=HIN.out _ _ (by omega) (by omega) e;omega
     have hgm0:gm<gm+1:=by omega
     obtain⟨wx,hwx⟩:∃wx,wx=wr:=⟨_,rfl⟩
     subst hwx;go_upto_region 22 with (fail);have eC:=(Ext.refl wx).drew;refine qw (fun w'=>w'.cell? ⟨gm+1,0,none⟩=some (.slice (some ⟨bz,oz',none⟩) m c1)/\w'.cell? ⟨gm+1,1,none⟩=some (.map (some gm))/\w'.cell? ⟨gm+1,2,none⟩=some (.slice (some ⟨gr,0,none⟩) m cr)) [] (by kernel_rfl) (by exact⟨eC.cell m0,eC.cell m1,eC.cell m2⟩) (fun hHeld=>?_);refine sT 0 (h:=?_);refine sP 1 (h:=?_);refine sP 2 (h:=?_);refine sP 3 (h:=?_);refine sP 4 (h:=?_);refine sP 5 (h:=?_);refine qp (i:=6) rfl (by kernel_rfl) (fun K hK=>?_);go_simp
     obtain⟨ol,hol,HCO⟩:∃ol,(if c4=t+1 then some (⟨bo,oo,none⟩:Addr) else some ⟨bo,oo+(t+1),none⟩)=some ⟨bo,ol,none⟩/\Hid (∀s,s<m-(t+1)->wx.drew.cell? ⟨bo,ol+s,none⟩=some (.int .i64 (q1q o t s:Int))):=by
      by_cases hc4:c4=t+1
      ·exact⟨oo,if_pos hc4,fun s hs=>absurd hs (by omega)⟩
      ·refine⟨oo+(t+1),if_neg hc4,fun s hs=>eC.cell (HCT.out.cell (HED.out.cell ?_) (.inl (by show bo<gm;omega)))⟩;rw[show oo+(t+1)+s=oo+(t+1+s) by omega];exact HBO.out _ (by have:=hm.out;omega)
     rw[hol];refine (Wj (C1:=gI) (q:=gm+1) (lf:=q1q o t) (K':=KH (t+1)) (HST.out.ext eC) (by omega) ⟨by omega,hgrI,by omega⟩ (eC.block HXT.out) ⟨by omega,by omega⟩ hm12 HZ.out hkm HRS.out.1 HRS.out.2 (by omega) (by omega) HCO.out HKK.out HHT.out.1 (fun r c h1 h2 h3 h4=>?_) HHT.out.2 HKB.out.1 HKB.out.2).mono ?_
     ·have h5:=HHT'.out.1 r c h1 h2;intro a ha b hb;have h6:=h5 a ha b hb;rw[fsS] at h6;unfold Fel pA at h6;rw[<-hk.out,h3,h4] at h6;exact h6
     rintro e wE hret;obtain⟨Av,nv,cv,ok,rfl,hXE,hend⟩:=hret.form (eC.block HXT.out);have HXE:=q_h hXE;have HEND:=q_h hend;obtain⟨n0,n1,n2,-⟩:=cells3 HXE.out;clear m0 m1 m2 hret hend hXE;replace m0:=n0;replace m1:=n1;replace m2:=n2;clear n0 n1 n2;have eW:=eC;clear eC;have eC:=Ext.refl wE;go_wp2_with fail;clear hHeld;refine hK.out _ _ (by exact⟨eC.cell m0,eC.cell m1,eC.cell m2⟩) fun hHeld=>?_
     clear hK K;try simp only[nr]
     refine sP 7 (h:=?_);refine sP 8 (h:=?_);refine sP 9 (h:=?_);refine sP 10 (h:=?_);refine sP 11 (h:=?_);refine qg (by kernel_rfl) ?_ _;clear hHeld;clear m0 m1 m2 c0
     rcases HEND.out with ⟨rfl,hnr,eE⟩|⟨rfl,⟨A9,rfl⟩,rfl,hreg,hMV,hSM,hCE⟩
     ·have HNR:Hid (¬PvF z o m F t):=by
       unfold PvF;rw[<-hk.out];exact hnr
      have HE9:Hid (Ext w wE):=(HCT.out.ext HED.out (by omega)).trans (eW.trans eE);clear hnr eE HEND;go_wp2
      first|go_ret2|skip
      rw[hQ.out,<-hm.out];exact⟨HE9.out,.inl ⟨rfl,t,hlt,HPV.out,HNR.out⟩⟩
     clear HEND;have hkm':(k:Int)<(m:Int):=by omega
     have HREG:Hid (PvF z o m F t):=by
      unfold PvF;rw[<-hk.out];exact hreg
     have HFE:=q_h ((HFL.out.ext eW).chg hCE (.inr (q_r)))
     have HSE:Hid (StM N gm (gI+1) wE bz oz' gm gr m z (fsS z o m F (t+1)) (rsS z o m F R (t+1))):=by
      rw[hk.out] at hSM;exact hSM
     have HME:=q_h hMV;have HCE:=q_h hCE;have HCW:Hid (Chg gm (gI+1) wD wE):=(HCT.out.trans (eW.chg _ _)).trans (hCE.wide (q_r) (by omega));obtain⟨x0,f0⟩:=HFE.out.cell hkm;have hNgm:N<=gm:=HST.out.nb;clear hreg hMV hSM hCE;go_wp2_with fail;obtain⟨w9,E9,HF9,C9,hs9⟩:=HFE.out.set q8G hkm (.slice (some A9) (z k) cv);rw[E9];have HF9':=q_h HF9;have HS9:Hid (StM N gm (gI+1) w9 bz oz' gm gr m z (fsS z o m F (t+1)) (rsS z o m F R (t+1))):=HSE.out.far C9 (by omega) (q_r) (.inl (by omega)) (.inl hgrI)
     have HP9:Hid (∀s,s<t+1->PvF z o m F s):=fun s hs=>by
      by_cases hst:s=t
      ·rw[hst];exact HREG.out
      ·exact HPV.out s (by omega)
     have HI9:Hid (∀s,s<t+1->∃(A:Addr) (cap:Nat),(if o s=k then Value.slice (some A9) (z k) cv else f (o s))=.slice (some A) (z (o s)) cap/\MtV N (gI+1) w9.heap.size w9 (.slice (some A) (z (o s)) cap) (z (o s)) (z (o s)) (x8 (z (o s)) (fsS z o m F s (o s) (o s)))):=fun s hs=>by
      by_cases hst:s=t
      ·subst hst;refine⟨A9,cv,?_,?_⟩
       ·rw[if_pos hk.out.symm,hk.out]
       ·have h1:=MtR.wide (MtR.chg HME.out C9 (by omega) (.inr (q_r))) (q_r) C9.size (q_r);rw[<-hk.out];exact h1
      ·obtain⟨A,cap,h1,h2⟩:=HIV.out s (by omega)
       have hne:o s≠k:=fun e=>by
        have:=HIN.out s t (by omega) hlt (by rw[e,hk.out]);omega
       refine⟨A,cap,by rw[if_neg hne];exact h1,?_⟩;have h3:=MtR.chg (MtR.chg (h2.ext eW) HCE.out hNgm (.inr (by omega))) C9 (by omega) (.inr (q_r));exact MtR.wide h3 (q_r) (by have:=eW.size;have:=HCE.out.size;have:=C9.size;omega) (q_r)
     have HX9:=q_h (C9.blk HXE.out (.inl (by omega)));have HC9:Hid (Chg gm (gI+1) wD w9):=HCW.out.trans (C9.wide (by omega) (q_r));clear HF9 C9 hs9 E9 x0 f0 HFE HSE HXE HCW HCE HME HST HFL HIV HXT HCT;go_roundw
     case rel=>exact⟨t+1,_,by omega,by go_num,HS9,HP9,HF9',HI9,HX9,HC9⟩
     case measure=>simp[intOf];omega
    have t1:decide ((t:Int)<(m:Int))=false:=q_f (by omega);obtain rfl:m=t:=by omega
    obtain⟨wF,hwF⟩:∃wF,wF=wr:=⟨_,rfl⟩
    subst hwF;have HXQ:=q_h (HH.out.hX (by rw[<-hm.out];exact HPV.out));rw[<-hm.out] at HXQ
    have HKX:Hid (∀t,t<m->z (o t)*(5 ^ z (o t)*(KH t+1)+yH z o (KH t) Kx t (m-(t+1))+1)+1<=29000000000):=by
     have:=HH.out.hBx;rw[<-hm.out] at this;exact this
    have HHH:Hid (∀t,t<=m->(∀r c,c<=r->r<m->HtM (z r) (z c) (KH t) (fsS z o m F t r c))/\∀r,r<m->HtL (z r) (KH t) (rsS z o m F R t r)):=by
     have:=HH.out.hH;rw[<-hm.out] at this;exact this
    have HK9:Hid (∀t,t<=m->KH t<=29000000000):=fun t ht=>by
     rcases Nat.eq_zero_or_pos t with h0|h0
     ·have:=HH.out.hK 0 (by have:=hm.out;omega);rw[h0];omega
     ·have:=HH.out.hK (t-1) (by have:=hm.out;omega);rw[show t-1+1=t by omega] at this;exact this.2
    have HOF:Hid (ql z m=kk/\kk<=64):=by
     have h1:=HO.out.len;have h2:=HO.out.tot;rw[ku HH.out.hz] at h1 h2;rw[<-hm.out] at h1 h2;have:=hkk.out;rw[Hid];omega
    have HBF:=q_h (HCT.out.blk HBD.out (.inl hg1s));have HGF:Hid (∀i,i<m+1->wF.cell? ⟨gs,i,none⟩=some (.int .i64 (ql z i:Int))):=fun i hi=>HCT.out.cell (HGD.out i hi) (.inl hgs2)
    have HOR:Hid (∀i,i<m->wF.cell? ⟨bo,oo+i,none⟩=some (.int .i64 (o i:Int))):=fun i hi=>HCT.out.cell (HED.out.cell (HBO.out i (by rw[<-hm.out];exact hi))) (.inl (by show bo<gm;omega))
    have HEF:Hid (Ext w wF):=HCT.out.ext HED.out (by omega);have hIF:gI<wF.heap.size:=HFL.out.lt;clear HBD HGD HCT hlt;obtain⟨a0,a1,a2,-⟩:=cells3 HBF.out;go_wp2_with (at_make;refine q_o ?_);refine zh rfl _ _ rfl .i64 .i64 _ _ kk rfl rfl rfl rfl (by have:=HOF.out.2;omega) ?_;intro wG csG BG hcsG eG;obtain⟨gO,hgO⟩:=qc wF.heap.size;have hgOF:wF.heap.size<=gO:=by rw[hgO.out];exact q_r
    rw[<-hgO.out] at BG ⊢;have HOG:Hid (q1v N wG gO kk (fun _=>False) x):=⟨by have:=HL.out.le;have:=HEF.out.size;omega,⟨csG,BG,hcsG⟩,fun i _ h=>h.elim⟩
    have hgOG:gO<wG.heap.size:=qF BG;have HEX:=q_h eG;have HSF:=q_h HST.out;have hIO:gI<gO:=by omega
    have HIG:Hid (∀s,s<m->∃(A:Addr) (cap:Nat),f (o s)=.slice (some A) (z (o s)) cap/\MtV N (gI+1) wF.heap.size wG (.slice (some A) (z (o s)) cap) (z (o s)) (z (o s)) (x8 (z (o s)) (fsS z o m F s (o s) (o s)))):=fun s hs=>by
     obtain⟨A,cap,h1,h2⟩:=HIV.out s hs;exact⟨A,cap,h1,h2.ext eG⟩
    have HFG:=q_h (HFL.out.ext eG);have HXG:=q_h (eG.block HXT.out);have HGG:Hid (∀i,i<m+1->wG.cell? ⟨gs,i,none⟩=some (.int .i64 (ql z i:Int))):=fun i hi=>eG.cell (HGF.out i hi)
    have HOR':Hid (∀i,i<m->wG.cell? ⟨bo,oo+i,none⟩=some (.int .i64 (o i:Int))):=fun i hi=>eG.cell (HOR.out i hi)
    have HEG:Hid (Ext w wG):=HEF.out.trans eG;have t5:IntKind.i64.wrap ((m:Int)-1)=(m:Int)-1:=wrp (by omega) (by omega);clear HST HIV HFL HXT HBF HGF HOR HEF BG hcsG eG a0 a1 a2 hgO t1;go_wp2_with fail
    go_loopw [18] (fun iv wr=>∃i:Nat,i<=m/\iv=.int .i64 ((i:Int)-1)/\Hid (q1v N wr gO kk (fun p=>∃s,i<=s/\s<m/\ql z (o s)<=p/\p<ql z (o s)+z (o s)) x)/\Hid (Chg gO (gO+1) wG wr)) (fun iv _=>(intOf iv+1).toNat)
    case atStart=>exact⟨m,q_r,rfl,⟨HOG.out.1,HOG.out.2.1,fun i _ h=>by obtain⟨s,h1,h2,-⟩:=h;exact absurd h1 (by omega)⟩,Chg.refl _ _ _⟩
    case round =>
     clear HOG;obtain⟨i,hi9,rfl,HOU,HCU⟩:=hrel
     by_cases hlt:0<i
     case neg =>
      obtain rfl:i=0:=by omega
      have HFIN:Hid (LsV N gO (gO+1) wr (.slice (some ⟨gO,0,none⟩) kk kk) kk x):=by
       have h:=HOU.out.part (l:=0) (s:=kk) (c:=kk) (by omega) (fun p hp=>by
        rw[<-HOF.out.1] at hp;obtain⟨h1,h2,h3⟩:=QQ (z:=z) (m:=m) (i:=0+p) (by omega);obtain⟨s,h4,h5⟩:=yI HLO.out HIN.out _ h1;refine⟨s,Nat.zero_le _,h4,by rw[h5];exact h2,?_⟩;rw[h5]
        exact h3) (q_r) (by have:=HOF.out.2;unfold maxLen;omega)
       rw[Nat.zero_mul] at h;exact h.congr (fun p _=>by rw[Nat.zero_add])
      have HE9:Hid (Ext w wr):=HCU.out.ext HEG.out (by have:=HOF.out;omega);go_wp2
      first|go_ret2|skip
      rw[hQ.out,<-hm.out,<-hkk.out];exact⟨HE9.out,.inr ⟨_,_,gO,gO+1,rfl,HPV.out,HFIN.out⟩⟩
     case pos =>
      obtain⟨t,rfl⟩:∃t,i=t+1:=⟨i-1,by omega⟩
      rw[show (((t+1:Nat):Int)-1)=(t:Int) by omega];have htm:t<m:=by omega
      have t6:decide (0<=(t:Int))=true:=q_t (by omega);have t7:(t:Int)<(m:Int):=by omega
      have c0:=HCU.out.cell (HOR'.out t htm) (.inl (by show bo<gO;omega));obtain⟨k,hk⟩:=qc (o t);rw[<-hk.out] at c0;have hkm:k<m:=by rw[hk.out];exact HLO.out t htm
      have hkm':(k:Int)<(m:Int):=by omega
      have HSU:=q_h (HSF.out.past HEX.out HCU.out hgOF);have HXU:=q_h (HCU.out.blk HXG.out (.inl (by omega)));obtain⟨m0,m1,m2,-⟩:=cells3 HXU.out;obtain⟨csr,hr1,hr2⟩:=HSU.out.rt;obtain⟨vr,hr3,Ak,ck,lok,hik,rfl,hlk,-⟩:=hr2 k hkm;have q0:wr.cell? ⟨gr,k,none⟩=some (.slice Ak (z k) ck):=by rw[qh hr1];exact hr3
      have HRT:Hid (LsV N 0 wr.heap.size wr (.slice Ak (z k) ck) (z k) (rsS z o m F R t k)):=by
       have h1:=LsV.all hlk;have h2:=q8w (z:=z) (F:=F) (R:=R) HIN.out (show t<=m by omega);rw[<-hk.out] at h2
       rwa [h2] at h1
      have t3:IntKind.i64.wrap ((t:Int)+1)=(t:Int)+1:=wrp (by omega) (by omega);have t4:(t:Int)+1<=(m:Int):=by omega
      obtain⟨ol,hol,HCO⟩:∃ol,(if c4=t+1 then some (⟨bo,oo,none⟩:Addr) else some ⟨bo,oo+(t+1),none⟩)=some ⟨bo,ol,none⟩/\Hid (∀s,s<m-(t+1)->wr.cell? ⟨bo,ol+s,none⟩=some (.int .i64 (o (t+1+s):Int))):=by
       by_cases hc4:c4=t+1
       ·exact⟨oo,if_pos hc4,fun s hs=>absurd hs (by omega)⟩
       ·refine⟨oo+(t+1),if_neg hc4,fun s hs=>HCU.out.cell ?_ (.inl (by show bo<gO;omega))⟩;rw[show oo+(t+1)+s=oo+(t+1+s) by omega];exact HOR'.out _ (by omega)
      have HOL:=q_h hol;obtain⟨wq,hwq⟩:∃wq,wq=wr:=⟨_,rfl⟩
      subst hwq;have HO8:=q_h HOU.out;clear hr1 hr2 hr3 hlk hol
      have HU0:Hid (LsV N 0 wq.heap.size wq (.slice Ak (z k) ck) (z k) (yS z o m F R (fun r a=>x (ql z r+a)) t 0)):=by
       have h1:=HRT.out;rw[hk.out] at h1;rw[hk.out];exact h1
      have HYH:Hid (∀j,t+1+j<=m->HtL (z k) (yH z o (KH t) Kx t j) (yS z o m F R (fun r a=>x (ql z r+a)) t j)):=by
       rw[hk.out];exact q8k ((HHH.out t (by omega)).2 _ (HLO.out t htm)) (fun s h1 h2=>Xm (HHH.out t (by omega)).1 (HLO.out t htm) (HLO.out s h2)) (fun s h1 h2=>HXQ.out.2 _ (HLO.out s h2))
      go_upto_block 8 with (fail)
      rw[HOL.out];have HC8:=q_h (Ext.refl wq);clear c0 m0 m1 m2 q0 HRT HSU HXU HOU;go_wp2_with fail
      go_loopw [134,20] (fun iv rv wr=>∃(j:Nat) (Ar:Option Addr) (cr9:Nat),j<=m-(t+1)/\iv=.int .i64 (j:Int)/\rv=.slice Ar (z k) cr9/\Hid (LsV N 0 wr.heap.size wr (.slice Ar (z k) cr9) (z k) (yS z o m F R (fun r a=>x (ql z r+a)) t j))/\Hid (Ext wq wr)) (fun iv _ _=>m-(t+1)-(intOf iv).toNat)
      case atStart=>exact⟨0,_,_,Nat.zero_le _,rfl,rfl,HU0,Ext.refl _⟩
      case round =>
       clear HU0 HC8;obtain⟨j,Ar,cr9,hj9,rfl,rfl,HLY,HEJ⟩:=hrel
       have HKT:Hid (z k*(5 ^ z k*(KH t+1)+yH z o (KH t) Kx t (m-(t+1))+1)+1<=29000000000):=by
        rw[hk.out];exact HKX.out t htm
       have hzk:=HZ.out k hkm
       have hyB:yH z o (KH t) Kx t (m-(t+1))<=29000000000:=by
        have h1:=HKT.out;have h2:=Nat.le_mul_of_pos_left (5 ^ z k*(KH t+1)+yH z o (KH t) Kx t (m-(t+1))+1) hzk.1;omega
       have HYB:=q_h hyB;clear hyB;obtain⟨wx,hwx⟩:∃wx,wx=wr:=⟨_,rfl⟩
       subst hwx
       by_cases hlj:j<m-(t+1)
       case pos =>
        have u1:decide ((j:Int)<((m-(t+1):Nat):Int))=true:=q_t (by omega);have u2:(j:Int)<((m-(t+1):Nat):Int):=by omega
        have d1:=HEJ.out.cell (HCO.out j hlj);obtain⟨jj,hjj⟩:=qc (o (t+1+j));rw[<-hjj.out] at d1;have hjm:jj<m:=by rw[hjj.out];exact HLO.out _ (by omega)
        have HSJ:=q_h ((HSF.out.past HEX.out HCU.out hgOF).ext HEJ.out);have HXJ:=q_h (HEJ.out.block (HCU.out.blk HXG.out (.inl (by omega))))
        have HFE:Hid (Fsy (fsS z o m F m) k jj=Fsy (fsS z o m F t) k jj):=by
         rw[hk.out];exact q8S HIN.out (by omega) jj
        obtain⟨m0,m1,m2,-⟩:=cells3 HXJ.out;go_wp2_with (go_at_call 38;refine q_o ?_);refine (JH (cz:=c1) (cr:=cr) HSJ.out hm12 HZ.out (HHH.out m (q_r)).1 (HK9.out m (q_r)) hkm hjm).mono ?_;rintro e w4 ⟨v,rfl,e4,hv⟩;rw[HFE.out] at hv;have HE4:Hid (Ext wq w4):=HEJ.out.trans e4;have HL4:=q_h (LsV.all (HLY.out.ext e4));clear m0 m1 m2 d1 HSJ HXJ HFE
        rcases hv with ⟨rfl,h0⟩|hmx
        ·have HN:Hid (LsV N 0 w4.heap.size w4 (.slice Ar (z k) cr9) (z k) (yS z o m F R (fun r a=>x (ql z r+a)) t (j+1))):=by
          refine LsV.congr HL4.out (fun a ha=>?_);refine q6G fun b hb=>?_
          rw[<-hjj.out] at hb ⊢;rw[<-hk.out];exact h0 a b ha hb
         clear h0 HLY HL4 e4 HEJ;go_wp2;go_roundw
         case rel=>exact⟨j+1,_,_,by omega,by go_num,rfl,HN,HE4⟩
         case measure=>simp[intOf];omega
        obtain⟨A4,k4,lo4,hi4,rfl,hmt4⟩:=hmx.mtv;have HM4:=q_h hmt4;have HFH:Hid (HtM (z k) (z jj) (KH t) (Fsy (fsS z o m F t) k jj)):=Xm (HHH.out t (by omega)).1 hkm hjm;have HXH:Hid (HtL (z jj) Kx (fun a=>x (ql z jj+a))):=HXQ.out.2 jj hjm;have hjy:yH z o (KH t) Kx t (j+1)<=yH z o (KH t) Kx t (m-(t+1)):=q1x (by omega);have hjy':yH z o (KH t) Kx t (j+1)=yH z o (KH t) Kx t j+(z jj*(KH t+Kx+1)+1)+1:=by rw[hjj.out];exact q6H z o (KH t) Kx t j
        have HBJ:Hid (z jj*(KH t+Kx+1)+1<=29000000000):=by have:=HYB.out;rw[Hid];omega
        have HSJ:Hid (∀a,a<z k->Sz (yS z o m F R (fun r a=>x (ql z r+a)) t j a)/\Sz (av (z jj) (Fsy (fsS z o m F t) k jj) (fun a=>x (ql z jj+a)) a)):=fun a ha=>by
         refine⟨((HYH.out j (by omega)) a ha).sz (by have:=HYB.out;omega),Ht.sz (k:=z jj*(KH t+Kx+1)+1) ?_ HBJ.out⟩;unfold av;exact wR fun b hb=>(HFH.out a ha b hb).mul (HXH.out b hb)
        have HOJ:Hid (LsV N gO (gO+1) w4 (.slice (some ⟨gO,ql z jj*4,none⟩) (z jj) (kk-ql z jj)) (z jj) (fun a=>x (ql z jj+a))):=by
         have h1:=qK z (show jj+1<=m by omega);have h2:ql z (jj+1)=ql z jj+z jj:=rfl;have h3:=HOF.out;refine (HO8.out.ext HE4.out).part (by omega) (fun p hp=>⟨t+1+j,by omega,by omega,?_,?_⟩) (by omega) (by unfold maxLen;omega)
         ·rw[<-hjj.out];omega
         ·rw[<-hjj.out];omega
        have HXS:Hid (∀a,yS z o m F R (fun r a=>x (ql z r+a)) t j a-av (z jj) (Fsy (fsS z o m F t) k jj) (fun a=>x (ql z jj+a)) a=yS z o m F R (fun r a=>x (ql z r+a)) t (j+1) a):=fun a=>by
         rw[hjj.out,hk.out];exact q6F z o m F R (fun r a=>x (ql z r+a)) t j a
        have q3:=HE4.out.cell (HCU.out.cell (HGG.out jj (by omega)) (.inl (by show gs<gO;omega)));have q4:=HE4.out.cell (HCU.out.cell (HGG.out (jj+1) (by omega)) (.inl (by show gs<gO;omega)))
        have hzj:z jj=ql z (jj+1)-ql z jj:=by
         have h2:ql z (jj+1)=ql z jj+z jj:=rfl;omega
        have hPK:ql z jj<ql z (jj+1)/\ql z (jj+1)<=kk:=by
         have h1:=qK z (show jj+1<=m by omega);have h2:ql z (jj+1)=ql z jj+z jj:=rfl;have h3:=HOF.out;have:=HZ.out jj hjm;omega
        rw[hzj] at HM4 HFH HXH HBJ HSJ HOJ HXS;obtain⟨P,hP⟩:=qc (ql z jj);obtain⟨P',hP'⟩:=qc (ql z (jj+1));rw[<-hP.out,<-hP'.out] at HM4 HFH HXH HBJ HSJ HOJ HXS hPK;rw[<-hP.out] at q3;rw[<-hP'.out] at q4;have hl1:¬kk=P:=by omega
        have hl2:P<=P':=by omega
        have hcap:P'<=kk:=by omega
        have hgi0:(jj:Int)<(m:Int)+1:=by omega
        have hgi:(jj:Int)+1<(m:Int)+1:=by omega
        have m1':IntKind.i64.wrap ((jj:Int)+1)=(jj:Int)+1:=wrp (by omega) (by omega);clear hzj hPK hjy hjy' hmx hmt4 HLY e4 HEJ;go_upto_region 38 with (fail);refine yB [Mn.eq (.slice Ar (z k) cr9),Mn.eq (.slice (some A4) (z k) k4),Mn.eq (.slice (some ⟨gO,0,none⟩) kk kk),Mn.eq (.slice (some ⟨gs,0,none⟩) (m+1) cs),Mn.i (jj:Int),Mn.q gs jj,Mn.i (P:Int),Mn.eq (.slice (some ⟨gs,0,none⟩) (m+1) cs),Mn.i (jj:Int),Mn.i ((jj:Int)+1),Mn.q gs (jj+1),Mn.i (P':Int),Mn.eq (.slice (some ⟨gO,P*4,none⟩) (P' - P) (kk-P)),Mn.ls N (z k) (av (P' - P) (Fsy (fsS z o m F t) k jj) (fun a=>x (P+a))),Mn.ls N (z k) (fun a=>yS z o m F R (fun r a=>x (ql z r+a)) t j a-av (P' - P) (Fsy (fsS z o m F t) k jj) (fun a=>x (P+a)) a),Mn.any] (sM [144,145,146,147,148,149,150,151,152,153,154,155,156,157,158,20]) [15] (rQ 15 1) 1 (by kernel_rfl) ?_ ?_
        ·show ∀i,i<16->_
         iterate 16 refine fs ?_ ?_
         ·exact fz
         all_goals intro hl;first|exact absurd hl (by decide)|(clear hl;refine stp rfl ?_;intro ac wi eI hB hA K hK)
         have o20:=oOf (hB 20) rfl;rotate_left;have o23:=oOf (hB 23) rfl;rotate_left;have o17:=oOf (hB 17) rfl;rotate_left;have o7:=oOf (hB 7) rfl;rotate_left;have o22:=oOf (hB 22) rfl;rotate_left;obtain⟨_,s147,rfl⟩:=hA 3 147;obtain⟨_,s148,rfl⟩:=hA 4 148;rotate_left;obtain⟨_,s149,rfl⟩:=hA 5 149;have cc0:=eI.cell q3;rotate_left;have o7:=oOf (hB 7) rfl;rotate_left;have o22:=oOf (hB 22) rfl;rotate_left;obtain⟨_,s152,rfl⟩:=hA 8 152;rotate_left;obtain⟨_,s151,rfl⟩:=hA 7 151;obtain⟨_,s153,rfl⟩:=hA 9 153;rotate_left;obtain⟨_,s154,rfl⟩:=hA 10 154;have cc0:=eI.cell q3;have cc1:=eI.cell q4;rotate_left;obtain⟨_,s146,rfl⟩:=hA 2 146;obtain⟨_,s150,rfl⟩:=hA 6 150;obtain⟨_,s155,rfl⟩:=hA 11 155;rotate_left;obtain⟨_,s145,rfl⟩:=hA 1 145;obtain⟨_,s156,rfl⟩:=hA 12 156;clear hB hA
         ·go_simp;refine (JG (HM4.out.ext eI) (HOJ.out.ext eI) HFH.out HXH.out HBJ.out (by omega)).mono ?_;rintro e wj ⟨Aj,cj,rfl,hj,ej⟩;go_wp2_with fail;exact hK.out _ _ ej (LsV.all hj)
         obtain⟨_,s144,rfl⟩:=hA 0 144;obtain⟨x157,s157,j157⟩:=hA 13 157;replace j157:Mn.p (Mn.ls N (z k) (av (P' - P) (Fsy (fsS z o m F t) k jj) (fun a=>x (P+a)))) x157 wi:=j157;clear hB hA
         ·go_simp;refine (q3W (HL4.out.ext eI) j157 HSJ.out (by omega)).mono ?_;rintro e wj ⟨Aj,cj,rfl,hj,ej⟩;go_wp2_with fail;exact hK.out _ _ ej (LsV.all hj)
         all_goals clear hB hA;go_simp;exact q_k hK rfl
        intro vals wz eZ hJ;have J158:Mn.p (Mn.ls N (z k) (fun a=>yS z o m F R (fun r a=>x (ql z r+a)) t j a-av (P' - P) (Fsy (fsS z o m F t) k jj) (fun a=>x (P+a)) a)) (vals 14) wz:=hJ 14 (by decide) (by decide);clear hJ;simp only[pr,Nat.reduceAdd]
        generalize vals 14=z158 at J158 ⊢
        have hlz:=J158;obtain⟨Av,cv,hvv,-,-⟩:=LsR.form hlz;rw[hvv] at hlz ⊢;refine qj (i:=15) rfl (by kernel_rfl) (by kernel_rfl) (fun K hK=>?_);go_simp;refine hK.out _ _ ?_;clear hK K;try simp only[nr]
        refine qg (by kernel_rfl) ?_ _;have HN:Hid (LsV N 0 wz.heap.size wz (.slice Av (z k) cv) (z k) (yS z o m F R (fun r a=>x (ql z r+a)) t (j+1))):=LsV.congr hlz (fun a _=>HXS.out a);have HEN:Hid (Ext wq wz):=HE4.out.trans eZ;clear hlz hvv eZ q3 q4;go_wp2;go_roundw
        case rel=>exact⟨j+1,_,_,by omega,by go_num,rfl,HN,HEN⟩
        case measure=>simp[intOf];omega
       have u1:decide ((j:Int)<((m-(t+1):Nat):Int))=false:=q_f (by omega);obtain rfl:j=m-(t+1):=by omega
       obtain⟨A9,cap9,hf9,hmi⟩:=HIG.out t htm;rw[<-hk.out] at hf9 hmi;have HMI:Hid (MtV N (gI+1) wF.heap.size wx (.slice (some A9) (z k) cap9) (z k) (z k) (x8 (z k) (fsS z o m F t k k))):=MtR.ext (MtR.chg hmi HCU.out (by have:=HSF.out.nb;omega) (.inl hgOF)) HEJ.out;have HIH:Hid (HtM (z k) (z k) (5 ^ z k*(KH t+1)) (x8 (z k) (fsS z o m F t k k))):=ZJ ((HHH.out t (by omega)).1 k k (q_r) hkm);have HYT:=q_h (HYH.out (m-(t+1)) (by omega));have q1:=HEJ.out.cell (HCU.out.cell (HGG.out k (by omega)) (.inl (by show gs<gO;omega)));have q2:=HEJ.out.cell (HCU.out.cell (HFG.out.cell hkm).1 (.inl (by show gI<gO;omega)));rw[hf9] at q2
       have HXE:Hid (∀a,a<z k->av (z k) (x8 (z k) (fsS z o m F t k k)) (yS z o m F R (fun r a=>x (ql z r+a)) t (m-(t+1))) a=x (ql z k+a)):=fun a ha=>by
        rw[hk.out] at ha ⊢;exact (HXQ.out.1 t htm a ha).symm
       have hPK:ql z k+z k<=kk:=by
        have h1:=qK z (show k+1<=m by omega);have h2:ql z (k+1)=ql z k+z k:=rfl;have h3:=HOF.out;omega
       have HOX:=q_h (HO8.out.ext HEJ.out);have HCX:Hid (Chg gO (gO+1) wG wx):=HCU.out.trans (HEJ.out.chg _ _);have HKN:Hid (ql z k=ql z (o t)/\z k=z (o t)):=by rw[Hid,hk.out];exact⟨rfl,rfl⟩
       obtain⟨P,hP⟩:=qc (ql z k);rw[<-hP.out] at q1 HXE hPK HKN;have hl1:¬kk=P:=by omega
       have hl2:P<=kk:=by omega
       have hgi0:(k:Int)<(m:Int)+1:=by omega
       have t8:IntKind.i64.wrap ((t:Int)-1)=(t:Int)-1:=wrp (by omega) (by omega);clear hmi hf9 HEJ;go_upto_region 40 with (fail);refine yB [Mn.eq (.slice (some ⟨gO,0,none⟩) kk kk),Mn.eq (.slice (some ⟨gs,0,none⟩) (m+1) cs),Mn.i (k:Int),Mn.q gs k,Mn.i (P:Int),Mn.eq (.slice (some ⟨gO,P*4,none⟩) (kk-P) (kk-P)),Mn.eq (.slice (some ⟨gI,0,none⟩) m m),Mn.i (k:Int),Mn.q gI k,Mn.eq (.slice (some A9) (z k) cap9),Mn.eq (.slice Ar (z k) cr9),Mn.ls N (z k) (av (z k) (x8 (z k) (fsS z o m F t k k)) (yS z o m F R (fun r a=>x (ql z r+a)) t (m-(t+1)))),Mn.any] (sM [160,161,162,163,164,165,166,167,168,169,170,171,172]) [12] (rQ 12 1) 1 (by kernel_rfl) ?_ ?_
       ·show ∀i,i<13->_
        iterate 13 refine fs ?_ ?_
        ·exact fz
        all_goals intro hl;first|exact absurd hl (by decide)|(clear hl;refine stp rfl ?_;intro ac wi eI hB hA K hK)
        have o17:=oOf (hB 17) rfl;rotate_left;have o7:=oOf (hB 7) rfl;rotate_left;have o19:=oOf (hB 19) rfl;rotate_left;obtain⟨_,s161,rfl⟩:=hA 1 161;obtain⟨_,s162,rfl⟩:=hA 2 162;rotate_left;obtain⟨_,s163,rfl⟩:=hA 3 163;have cc0:=eI.cell q1;rotate_left;obtain⟨_,s160,rfl⟩:=hA 0 160;obtain⟨_,s164,rfl⟩:=hA 4 164;rotate_left;have o12:=oOf (hB 12) rfl;rotate_left;have o19:=oOf (hB 19) rfl;rotate_left;obtain⟨_,s166,rfl⟩:=hA 6 166;obtain⟨_,s167,rfl⟩:=hA 7 167;rotate_left;obtain⟨_,s168,rfl⟩:=hA 8 168;have cc0:=eI.cell q2;rotate_left;have o20:=oOf (hB 20) rfl;rotate_left;obtain⟨_,s169,rfl⟩:=hA 9 169;obtain⟨_,s170,rfl⟩:=hA 10 170;clear hB hA
        ·go_simp;refine (JG (HMI.out.ext eI) (HLY.out.ext eI) HIH.out HYT.out HKT.out (by omega)).mono ?_;rintro e wj ⟨Aj,cj,rfl,hj,ej⟩;go_wp2_with fail;exact hK.out _ _ ej (LsV.all hj)
        all_goals clear hB hA;go_simp;exact q_k hK rfl
       intro vals wz eZ hJ;have J165:vals 5=_:=hJ 5 (by decide) (by decide);have J171:Mn.p (Mn.ls N (z k) (av (z k) (x8 (z k) (fsS z o m F t k k)) (yS z o m F R (fun r a=>x (ql z r+a)) t (m-(t+1))))) (vals 11) wz:=hJ 11 (by decide) (by decide);clear hJ;simp only[pr,Nat.reduceAdd,J165];clear J165
       generalize vals 11=z171 at J171 ⊢
       have hlz:=J171;obtain⟨w9,hrun,hO9,hC9,-⟩:=Y7 (dc:=kk-P) 37 3 Tryz.underlying37 (HOX.out.ext eZ) hlz hPK HXE.out hzk.1;refine qj (i:=12) rfl (by kernel_rfl) (by kernel_rfl) (fun K hK=>?_);refine XF rfl _ _ _ _ rfl _ _ rfl rfl hrun ?_;refine hK.out _ _ ?_;clear hK K;try simp only[nr]
       refine qg (by kernel_rfl) ?_ _
       have HO9:Hid (q1v N w9 gO kk (fun p=>∃s,t<=s/\s<m/\ql z (o s)<=p/\p<ql z (o s)+z (o s)) x):=⟨hO9.1,hO9.2.1,fun i h1 ⟨s,h2,h3,h4,h5⟩=>hO9.2.2 i h1 (by
        by_cases hst:s=t
        ·right
         rw[HKN.out.1,HKN.out.2,<-hst];exact⟨h4,h5⟩
        ·exact .inl ⟨s,by omega,h3,h4,h5⟩)⟩
       have HC9:Hid (Chg gO (gO+1) wG w9):=(HCX.out.trans (eZ.chg _ _)).trans hC9;clear hO9 hC9 hrun hlz eZ q1 q2 HLY HOX HCX;go_wp2;go_roundw
       case rel=>exact⟨t,by omega,rfl,HO9,HC9⟩
       case measure=>simp[intOf]
end
section
open Go.RowKit
def gK (z K:Nat):Nat:=K+(z*(z*(K+5 ^ z*(K+1)+1)+1+K+1)+1)+1
def KS (z o:Nat->Nat) (K0:Nat):Nat->Nat
 | 0=>K0
 | t+1=>gK (z (o t)) (KS z o K0 t)
theorem q7y (z K:Nat):K<=gK z K:=by unfold gK;omega
theorem q7A {z o:Nat->Nat}{m K0:Nat}{F:Nat->Nat->Nat->Nat->Rat}{R:q_m}(hl:∀t,t<m->o t<m) (hF:∀r c,c<=r->r<m->HtM (z r) (z c) K0 (F r c)) (hR:∀r,r<m->HtL (z r) K0 (R r)) :
  ∀t,t<=m->(∀r c,c<=r->r<m->HtM (z r) (z c) (KS z o K0 t) (fsS z o m F t r c))/\∀r,r<m->HtL (z r) (KS z o K0 t) (rsS z o m F R t r)
 | 0,_=>⟨hF,hR⟩
 | t+1,ht=>by
  obtain⟨h1,h2⟩:=q7A hl hF hR t (by omega);have hk:=hl t (by omega);have hX:HtM (z (o t)) (z (o t)) (5 ^ z (o t)*(KS z o K0 t+1)) (x8 (z (o t)) (fsS z o m F t (o t) (o t))):=ZJ (h1 _ _ (q_r) hk);have hFc:∀r,r<m->HtM (z r) (z (o t)) (z (o t)*(KS z o K0 t+5 ^ z (o t)*(KS z o K0 t+1)+1)+1) (Fct (o t) (z (o t)) (fsS z o m F t) (x8 (z (o t)) (fsS z o m F t (o t) (o t))) r):=fun r hr=>QL (Xm h1 hr hk) hX
  have hle:=q7y (z (o t)) (KS z o K0 t);refine⟨fun r c hc hr a ha b hb=>?_,fun r hr a ha=>?_⟩
  ·show Ht (gK _ _) (Fel _ _ _ _ _ r c a b)
   unfold Fel
   split
   ·have h3:Ht _ (Gx (o t) (z (o t)) (fsS z o m F t) (x8 (z (o t)) (fsS z o m F t (o t) (o t))) r c a b):=QL (hFc r hr) (Xm h1 hk (by omega:c<m)) a ha b hb;exact ((h1 r c hc hr a ha b hb).sub h3).mono (by unfold gK;omega)
   ·exact (h1 r c hc hr a ha b hb).mono hle
  ·show Ht (gK _ _) (Rel _ _ _ _ _ _ r a)
   unfold Rel
   split
   ·refine ((h2 r hr a ha).sub (?_:Ht (z (o t)*((z (o t)*(KS z o K0 t+5 ^ z (o t)*(KS z o K0 t+1)+1)+1)+KS z o K0 t+1)+1) _)).mono (by unfold gK;omega);unfold av;exact wR fun c hc=>(hFc r hr a ha c hc).mul (h2 _ hk c hc)
   ·exact (h2 r hr a ha).mono hle
theorem q7z {z:Nat}(h0:0<z) (h:z<=5):gK z K+1<=11 ^ z*(K+1)/\5 ^ z*(K+1)<=11 ^ z*(K+1):=by
 refine⟨?_,Nat.mul_le_mul_right _ (Nat.pow_le_pow_left (by decide) _)⟩;unfold gK;obtain rfl|rfl|rfl|rfl|rfl:z=1\/z=2\/z=3\/z=4\/z=5:=by omega
 all_goals omega
theorem offR (z:Nat->Nat):∀m,((ql z m:Nat):Rat)=sum m (fun k=>((z k:Nat):Rat))
 | 0=>rfl
 | m+1=>by
  rw[qN,<-offR z m,<-Rat.natCast_add]
  rfl
theorem WJ {z o:Nat->Nat}(hl:∀t,t<m->o t<m) (hi:∀a b,a<m->b<m->o a=o b->a=b):ql (fun s=>z (o s)) m=ql z m:=by
 have h:((ql (fun s=>z (o s)) m:Nat):Rat)=((ql z m:Nat):Rat):=by
  rw[offR,offR];exact (WH hl hi (fun k=>((z k:Nat):Rat))).symm
 exact Rat.natCast_inj.1 h
theorem q2x {z:Nat->Nat}:∀ {m k:Nat},k<m->z k<=ql z m
 | m+1,k,h=>by
  show z k<=ql z m+z m
  by_cases hk:k=m
  ·subst hk;omega
  ·have:=q2x (z:=z) (m:=m) (k:=k) (by omega);omega
theorem Yt {z:Nat->Nat}:∀ {m:Nat},(∀i,i<m->0<z i)->m<=ql z m
 | 0,_=>Nat.zero_le _
 | m+1,h=>by
  have h1:=Yt (z:=z) (m:=m) (fun i hi=>h i (by omega));have h2:=h m (by omega)
  show m+1<=ql z m+z m
  omega
section
variable {z o:Nat->Nat}{m K0 Kx:Nat}
theorem q47 (hz:∀t,t<m->0<z (o t)/\z (o t)<=5):∀t,t<=m->KS z o K0 t+1<=11 ^ ql (fun s=>z (o s)) t*(K0+1)
 | 0,_=>by show K0+1<=1*(K0+1);omega
 | t+1,ht=>by
  have ih:=q47 hz t (by omega);have h1:=hz t (by omega);refine q_l (q7z h1.1 h1.2).1 ?_
  show 11 ^ z (o t)*(KS z o K0 t+1)<=11 ^ (ql (fun s=>z (o s)) t+z (o t))*(K0+1)
  rw[Nat.pow_add,Nat.mul_comm (11 ^ _) (11 ^ z (o t)),Nat.mul_assoc];exact Nat.mul_le_mul_left _ ih
theorem q2U (hl:∀t,t<m->o t<m) (hi:∀a b,a<m->b<m->o a=o b->a=b) (hz:∀i,i<m->0<z i) (hn:ql z m<=5) (hK0:K0<=469){t:Nat}(ht:t<m) :
  (0<z (o t)/\z (o t)<=5)/\KS z o K0 t<=KS z o K0 (t+1)/\KS z o K0 (t+1)<=76000000/\5 ^ z (o t)*(KS z o K0 t+1)<=76000000:=by
 have hz5:∀t,t<m->0<z (o t)/\z (o t)<=5:=fun t ht=>⟨hz _ (hl t ht),q_l (q2x (hl t ht)) hn⟩
 have h1:=hz5 t ht
 have hB:11 ^ ql (fun s=>z (o s)) (t+1)*(K0+1)<=76000000:=by
  have h2:ql (fun s=>z (o s)) (t+1)<=5:=q_l (qK _ (show t+1<=m by omega)) (by rw[WJ hl hi];exact hn);have h3:(11:Nat) ^ ql (fun s=>z (o s)) (t+1)<=11 ^ 5:=Nat.pow_le_pow_right (by decide) h2;exact q_l (Nat.mul_le_mul h3 (show K0+1<=470 by omega)) (by decide)
 refine⟨h1,q7y _ _,?_,?_⟩
 ·have:=q47 (K0:=K0) hz5 (t+1) (by omega);omega
 ·refine q_l (q7z h1.1 h1.2).2 (q_l ?_ hB)
  show 11 ^ z (o t)*(KS z o K0 t+1)<=11 ^ (ql (fun s=>z (o s)) t+z (o t))*(K0+1)
  rw[Nat.pow_add,Nat.mul_comm (11 ^ _) (11 ^ z (o t)),Nat.mul_assoc];exact Nat.mul_le_mul_left _ (q47 (K0:=K0) hz5 t (by omega))
theorem q6I (hz:∀t,t<m->z (o t)<=5){K t:Nat}:∀j,t+1+j<=m->yH z o K Kx t j<=K+j*(5*(K+Kx+1)+2)
 | 0,_=>by show K<=_;omega
 | j+1,h=>by
  have ih:=q6I hz (K:=K) (t:=t) j (by omega)
  show yH z o K Kx t j+(z (o (t+1+j))*(K+Kx+1)+1)+1<=_
  have h2:z (o (t+1+j))*(K+Kx+1)<=5*(K+Kx+1):=Nat.mul_le_mul_right _ (hz _ (by omega));rw[Nat.add_mul];omega
theorem ks_x (hl:∀t,t<m->o t<m) (hi:∀a b,a<m->b<m->o a=o b->a=b) (hz:∀i,i<m->0<z i) (hn:ql z m<=5) (hK0:K0<=469) (hKx:Kx<=7400000){t:Nat}(ht:t<m) :
  5*(5 ^ z (o t)*(KS z o K0 t+1))<=29000000000/\z (o t)*(z (o t)*(KS z o K0 t+5 ^ z (o t)*(KS z o K0 t+1)+1)+1+KS z o K0 t+1)+1<=29000000000/\z (o t)*(5 ^ z (o t)*(KS z o K0 t+1)+yH z o (KS z o K0 t) Kx t (m-(t+1))+1)+1<=29000000000:=by
 obtain⟨⟨h1,h2⟩,h3,h4,h5⟩:=q2U (K0:=K0) hl hi hz hn hK0 ht;have hm:m<=5:=q_l (Yt hz) hn;have h6:=q6I (Kx:=Kx) (fun t ht=>(q2U (K0:=K0) hl hi hz hn hK0 ht).1.2) (K:=KS z o K0 t) (t:=t) (m-(t+1)) (by omega);have h7:KS z o K0 (t+1)=KS z o K0 t+(z (o t)*(z (o t)*(KS z o K0 t+5 ^ z (o t)*(KS z o K0 t+1)+1)+1+KS z o K0 t+1)+1)+1:=rfl;refine⟨by omega,by omega,?_⟩;have h8:(m-(t+1))*(5*(KS z o K0 t+Kx+1)+2)<=4*(5*(KS z o K0 t+Kx+1)+2):=Nat.mul_le_mul_right _ (by omega);have h9:z (o t)*(5 ^ z (o t)*(KS z o K0 t+1)+yH z o (KS z o K0 t) Kx t (m-(t+1))+1)<=5*(5 ^ z (o t)*(KS z o K0 t+1)+yH z o (KS z o K0 t) Kx t (m-(t+1))+1):=Nat.mul_le_mul_right _ h2;omega
end
end
section
theorem Vs{K:q_m}{b:q_v}(h:Reg n K):∀i,i<n->sum n (fun c=>K i c*nsv n K b c)=b i:=(q29 h b).2
theorem q2A {q P:Nat}{K:q_m}{b:q_v}(hK:HtM n n q K) (hb:HtL n q b) (hP:n<=P):HtL n (n*(5 ^ P*q+2)+1) (nsv n K b):=by
 have hk3:HtM n (n+1) q (aug n K b):=fun i hi c hc=>by
  unfold aug
  split
  ·exact hK i hi c ‹_›
  ·exact hb i hi
 have hk4:HtM n (n+1) (5 ^ P*q) (zI n (aug n K b) (n+1)).1:=XO (p:=P) hk3 (j:=n+1) (q_r) (.inl hP);have hlen:=(vX n (aug n K b) (n+1)).1;intro c hc;unfold nsv sol;refine Ht.mono (JV (n:=(zI n (aug n K b) (n+1)).2.length) (k:=5 ^ P*q+1) (K:=(zI n (aug n K b) (n+1)).2.length*(5 ^ P*q+1+1)+1) (fun s hs=>Ht.mono (Ht.mul (k:=1) ?_ (hk4 s (by omega) n (by omega))) (by omega)) (q_r) (q_r)) ?_
 ·unfold dlt;split
  ·exact Ht.one
  ·exact Ht.zero
 ·exact Nat.succ_le_succ (Nat.mul_le_mul_right _ hlen)
end
section
open Go.RowKit
structure V4 (Z:Sys) (z:Nat->Nat) (M:q_m) (y:q_v):Prop where
 hz:∀i,i<Z.ns->Z.z i=(z i:Int)
 bk:∀i,i<Z.nb->∃r c,c<=r/\r<Z.ns/\(Z.b i).r=(r:Int)/\(Z.b i).c=(c:Int)/\(Z.b i).m=z r/\(∀a,a<z r->(Z.b i).L a=z c)/\∀a,a<z r->∀b,b<z c->(Z.b i).A a b=raw (M (ql z r+a) (ql z c+b))
 ord:∀i,0<i->i<Z.nb->Wh (Z.b (i-1)) (Z.b i)=true
 zero:∀r c,c<=r->r<Z.ns->(∀i,i<Z.nb->¬((Z.b i).r=(r:Int)/\(Z.b i).c=(c:Int)))->∀a,a<z r->∀b,b<z c->M (ql z r+a) (ql z c+b)=0
 k:Z.k=ql z Z.ns
 R:∀i,i<Z.k->Z.R i=raw (y i)
section
variable {Z:Sys}{z:Nat->Nat}{M:q_m}{y:q_v}
theorem Va (H:V4 Z z M y) (h1:1<=Z.ns) (h2:Z.ns<=12) (hz:∀i,i<Z.ns->1<=z i/\z i<=12) (ht:ql z Z.ns<=64) (hs:∀i j,M i j=M j i):vH Z=0:=by
 have htot:=ku H.hz
 have hcan:Kt Z=true:=by
  unfold Kt;rw[Bool.and_eq_true,qm,qm];refine⟨fun i hi=>?_,fun i hi=>by rw[H.R i hi];exact ja _⟩;obtain⟨r,c,-,-,-,-,h3,h4,h5⟩:=H.bk i hi;unfold W9;rw[qm];intro a ha;rw[qm];intro b hb;rw[h3] at ha;rw[h4 a ha] at hb;rw[h5 a ha b hb];exact ja _
 have hsiz:Zo Z=true:=by
  unfold Zo;simp only[Bool.and_eq_true,decide_eq_true_eq];refine⟨⟨h1,h2⟩,qm.2 fun i hi=>?_,by rw[htot];omega⟩;rw[H.hz i hi];have:=hz i hi;unfold sz1;simp only[Bool.and_eq_true,decide_eq_true_eq];omega
 have hbk:∀i,i<Z.nb->bkC Z i=0:=fun i hi=>by
  obtain⟨r,c,h3,h4,h5,h6,h7,h8,h9⟩:=H.bk i hi
  have hsh:Qn Z.z (Z.b i)=true:=by
   unfold Qn;rw[h5,h6,Int.toNat_natCast,Int.toNat_natCast,H.hz r h4,H.hz c (by omega),h7,Bool.and_eq_true,decide_eq_true_eq,Bool.and_eq_true,qm,Bool.or_eq_true];refine⟨rfl,fun a ha=>by rw[decide_eq_true_eq,h8 a ha],?_⟩
   by_cases hrc:r=c
   ·right
    subst hrc;unfold q4f;rw[qm];intro a ha;rw[qm];intro b hb;rw[h7] at ha;rw[decide_eq_true_eq,h9 a ha b (by omega),h9 b (by omega) a ha,kw,kw];exact hs _ _
   ·left
    rw[q_f (by omega)]
    rfl
  unfold bkC;rw[if_neg (by omega),if_neg (by rw[hsh];decide),if_neg];rintro⟨h10,h11⟩;rw[H.ord i h10 hi] at h11;cases h11
 unfold vH;rw[if_neg (by rw[hcan];decide),if_neg (by rw[hsiz];decide),if_neg (by rw[jk hbk];decide),if_pos (by rw[htot,H.k])]
theorem q1F (H:V4 Z z M y)(hM:HtM (ql z Z.ns) (ql z Z.ns) K M) (hK:K<=29000000000):∀i,i<Z.nb->q6C (Z.b i):=fun i hi a ha b hb=>by
 obtain⟨r,c,h3,h4,h5,h6,h7,h8,h9⟩:=H.bk i hi;rw[h7] at ha;rw[h8 a ha] at hb;rw[h9 a ha b hb,kw];have hr:ql z r+z r<=ql z Z.ns:=qK z (show r+1<=Z.ns by omega);have hc:ql z c+z c<=ql z Z.ns:=qK z (show c+1<=Z.ns by omega);have h10:Sz (M (ql z r+a) (ql z c+b)):=(hM _ (by omega) _ (by omega)).sz hK;exact⟨h10.raw,h10⟩
theorem q63 (H:V4 Z z M y)(hy:HtL (ql z Z.ns) K y) (hK:K<=29000000000):∀i,i<Z.k->jJ (Z.R i):=fun i hi=>by
 rw[H.R i hi];have h:=H.k;exact ((hy i (by omega)).sz hK).raw
def blF (z:Nat->Nat) (M:q_m) (r c a b:Nat):Rat:=M (ql z r+a) (ql z c+b)
def blR (z:Nat->Nat) (y:q_v) (r a:Nat):Rat:=y (ql z r+a)
theorem q0r {o:Nat->Nat}(hl:∀t,t<m->o t<m) (hi:∀a b,a<m->b<m->o a=o b->a=b) (hs:∀i j,M i j=M j i):BlM z o m (blF z M) (blR z y) M y :=
 ⟨hl,hi,hs,fun _ _ _ _ _ _ _ _=>rfl,fun _ _ _ _=>rfl⟩
theorem q8p (H:V4 Z z M y){o:Nat->Nat}(hl:∀t,t<Z.ns->o t<Z.ns) (hi:∀a b,a<Z.ns->b<Z.ns->o a=o b->a=b) (hz:∀i,i<Z.ns->0<z i) (hn:ql z Z.ns<=5) (hs:∀i j,M i j=M j i)
  {K0:Nat}(hK0:K0<=469) (hM:HtM (ql z Z.ns) (ql z Z.ns) K0 M) (hy:HtL (ql z Z.ns) K0 y):SvH Z z o (blF z M) (blR z y) (KS z o K0) 7400000 (nsv (ql z Z.ns) M y):=by
 have hB:=q0r (z:=z) (y:=y) hl hi hs;have hof:∀r,r<Z.ns->ql z r+z r<=ql z Z.ns:=fun r hr=>qK z (show r+1<=Z.ns by omega)
 have hht:=q7A (z:=z) (o:=o) (m:=Z.ns) (K0:=K0) (F:=blF z M) (R:=blR z y) hl (fun r c hc hr a ha b hb=>hM _ (by have:=hof r hr;omega) _ (by have:=hof c (by omega);omega)) (fun r hr a ha=>hy _ (by have:=hof r hr;omega));refine⟨H.hz,hl,hi,fun i hi' a ha b hb=>?_,fun r c hc hr hno a ha b hb=>H.zero r c hc hr hno a ha b hb,fun r hr a ha=>?_,fun t ht=>hht t ht,fun t ht=>?_,fun t ht=>?_,fun t ht=>?_,fun hp=>⟨fun t ht a ha=>?_,fun r hr a ha=>?_⟩,fun t ht=>?_⟩
 ·obtain⟨r,c,h3,h4,h5,h6,h7,h8,h9⟩:=H.bk i hi';rw[h5,Int.toNat_natCast] at ha ⊢;rw[h6,Int.toNat_natCast] at hb ⊢;rw[h9 a ha b hb,kw]
  rfl
 ·have:=hof r hr;rw[H.R _ (by rw[H.k];omega),kw]
  rfl
 ·have h1:=(q2U hl hi hz hn hK0 ht).2;exact⟨h1.1,by omega⟩
 ·exact (ks_x (Kx:=7400000) hl hi hz hn hK0 (by omega) ht).1
 ·exact (ks_x (Kx:=7400000) hl hi hz hn hK0 (by omega) ht).2.1
 ·have hreg:=q6c hB hp;have hsol:∀i,i<ql z Z.ns->av (ql z Z.ns) M (nsv (ql z Z.ns) M y) i=y i:=fun i hi=>Vs hreg i hi
  exact x_st hB hsol (WF hB Z.ns (q_r) hp) ht ha
 ·have h1:=q2A (P:=5) hM hy hn (ql z r+a) (by have:=hof r hr;omega);refine h1.mono ?_;have h2:ql z Z.ns*(5 ^ 5*K0+2)<=5*(3125*469+2):=Nat.mul_le_mul hn (by omega);omega
 ·exact (ks_x (Kx:=7400000) hl hi hz hn hK0 (by omega) ht).2.2
end
end
end Go.Proofs.YtflhlobiipejeaaGreat
