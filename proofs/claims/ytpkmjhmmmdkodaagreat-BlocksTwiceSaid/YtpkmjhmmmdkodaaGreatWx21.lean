import Derived.Test.YtpkmjhmmmdkodaaGreatWx20
set_option linter.all false
set_option maxHeartbeats 8000000
set_option maxRecDepth 100000
namespace Go.Proofs.YtpkmjhmmmdkodaaGreat
variable {w:World} {N n lo hi k g i m c b j K:Nat} {v:Value} {x:Rat} {A:Option Addr}
def q0u (n:Nat) (M:q_m) (E:Nat->Bool):Prop:=∀x:Nat->Rat,(∀i,i<n->E i=false->x i=0)->(∀i,i<n->E i=true->av n M x i=0)->∀i,i<n->x i=0
def Fil (n:Nat) (M:q_m) (E:Nat->Bool):Prop:=∀y:Nat->Rat,∃x:Nat->Rat,(∀i,E i=false->x i=y i)/\∀i,i<n->E i=true->av n M x i=0
def q2Q (n:Nat) (M:q_m) (E:Nat->Bool) (S:q_m):Prop:=∀x:Nat->Rat,(∀i,i<n->E i=true->av n M x i=0)->∀i,i<n->E i=false->av n M x i=sum n (fun j=>if E j=true then 0 else S i j*x j)
structure Enm (n k:Nat) (E:Nat->Bool) (e:Nat->Nat):Prop where
 low:∀a,a<k->e a<n
 mem:∀a,a<k->E (e a)=true
 inj:∀a b,a<k->b<k->e a=e b->a=b
 onto:∀i,i<n->E i=true->∃a,a<k/\e a=i
theorem Enm.dlt{E:Nat->Bool}{e:Nat->Nat}(h:Enm n k E e)(hc:c<n):sum k (fun b=>dlt (e b) c)=if E c=true then 1 else 0:=by
 cases hE:E c with
 | true =>
  obtain⟨a,ha,rfl⟩:=h.onto c hc hE;rw[xw ha (fun b hb hne=>kQ (fun e9=>hne (h.inj b a hb ha e9))),kX];rfl
 | false =>
  rw[qy (fun b hb=>kQ (fun e9=>by rw[<-e9,h.mem b hb] at hE;cases hE))];rfl
theorem Enm.sum{E:Nat->Bool}{e:Nat->Nat}(h:Enm n k E e) (f:q_v):Go.Proofs.YtpkmjhmmmdkodaaGreat.sum n (fun c=>if E c=true then f c else 0)=Go.Proofs.YtpkmjhmmmdkodaaGreat.sum k (fun b=>f (e b)):=by
 have h1:Go.Proofs.YtpkmjhmmmdkodaaGreat.sum n (fun c=>if E c=true then f c else 0)=Go.Proofs.YtpkmjhmmmdkodaaGreat.sum n (fun c=>Go.Proofs.YtpkmjhmmmdkodaaGreat.sum k (fun b=>Go.Proofs.YtpkmjhmmmdkodaaGreat.dlt (e b) c*f c)):=qf fun c hc=>by
  rw[qJ,h.dlt hc];cases E c with
  | true=>simp
  | false=>simp
 rw[h1,zG];exact qf fun b hb=>zh (h.low b hb) f
theorem q0J (n:Nat) (E:Nat->Bool) (f:q_v):sum n f=sum n (fun c=>if E c=true then 0 else f c)+sum n (fun c=>if E c=true then f c else 0):=by
 rw[<-Yq];exact qf fun c _=>by cases E c<;>simp<;>grind
theorem Enm.parts{E:Nat->Bool}{e:Nat->Nat}(h:Enm n k E e) (f:q_v):Go.Proofs.YtpkmjhmmmdkodaaGreat.sum n f=Go.Proofs.YtpkmjhmmmdkodaaGreat.sum n (fun c=>if E c=true then 0 else f c)+Go.Proofs.YtpkmjhmmmdkodaaGreat.sum k (fun b=>f (e b)):=by
 rw[q0J n E f,h.sum]
def xm (M:q_m) (e:Nat->Nat) (a b:Nat):Rat:=M (e a) (e b)
theorem q1d{M:q_m}{E:Nat->Bool}{e:Nat->Nat}(h:Enm n k E e) (hr:Reg k (xm M e)):q0u n M E:=by
 intro x hx h0 i hi;cases hE:E i with
 | false=>exact hx i hi hE
 | true =>
  obtain⟨a,ha,rfl⟩:=h.onto i hi hE;refine hr (fun a=>x (e a)) (fun b hb=>?_) a ha;have h1:=h0 (e b) (h.low b hb) (h.mem b hb);unfold av at h1
  rw[h.parts,qy (fun c hcn=>by
   cases hc:E c with
   | true=>rfl
   | false=>rw[if_neg (by simp),hx c hcn hc];grind),Rat.zero_add] at h1
  exact h1
def spr (k:Nat) (e:Nat->Nat) (z:q_v) (i:Nat):Rat:=sum k (fun a=>dlt (e a) i*z a)
theorem q0N{E:Nat->Bool}{e:Nat->Nat}(h:Enm n k E e) (z:q_v){a:Nat}(ha:a<k):spr k e z (e a)=z a:=by
 unfold spr;rw[xw ha (fun b hb hne=>by rw[kQ (fun e9=>hne (h.inj b a hb ha e9))];grind),kX]
 grind
theorem q4K{M:q_m}{E:Nat->Bool}{e:Nat->Nat}(h:Enm n k E e) (hr:q0u n M E):Reg k (xm M e):=by
 intro z hz a ha
 have h1:=hr (fun i=>if E i=true then spr k e z i else 0) (fun i _ hi=>by simp[hi]) (fun i hi hE=>by
  obtain⟨b,hb,rfl⟩:=h.onto i hi hE;unfold av;rw[h.parts,qy (fun c _=>by cases hc:E c<;>simp[hc]),Rat.zero_add];refine Eq.trans (qf fun c hc=>?_) (hz b hb);simp only[h.mem c hc,if_true]
  rw[q0N h z hc];rfl) (e a) (h.low a ha)
 simp only[h.mem a ha,if_true] at h1;rw[<-q0N h z ha];exact h1
def q0v (k:Nat) (M:q_m) (e:Nat->Nat) (X:q_m) (i j:Nat):Rat:=M i j-sum k (fun a=>M i (e a)*sum k (fun b=>X a b*M (e b) j))
theorem q7n{M X:q_m}{E:Nat->Bool}{e:Nat->Nat}(h:Enm n k E e) (hX:∀i,i<k->∀c,c<k->mm k (xm M e) X i c=dlt i c):Fil n M E:=by
 intro y;obtain⟨z,hz⟩:∃z:Nat->Rat,z=fun a=>- sum k (fun b=>X a b*sum n (fun j=>if E j=true then 0 else M (e b) j*y j)):=⟨_,rfl⟩
 refine⟨fun i=>if E i=true then spr k e z i else y i,fun i hi=>by simp[hi],fun i hi hE=>?_⟩;obtain⟨a,ha,rfl⟩:=h.onto i hi hE;unfold av;rw[h.parts];have h1:sum n (fun c=>if E c=true then 0 else M (e a) c*(if E c=true then spr k e z c else y c))=sum n (fun j=>if E j=true then 0 else M (e a) j*y j):=qf fun c _=>by cases E c<;>simp
 have h2:sum k (fun b=>M (e a) (e b)*(if E (e b)=true then spr k e z (e b) else y (e b))) = - sum n (fun j=>if E j=true then 0 else M (e a) j*y j):=by
  have h3:sum k (fun b=>M (e a) (e b)*(if E (e b)=true then spr k e z (e b) else y (e b)))=sum k (fun b=>xm M e a b*z b):=qf fun b hb=>by
   rw[if_pos (h.mem b hb),q0N h z hb];rfl
  rw[h3,hz]
  have h4:sum k (fun b=>xm M e a b*(- sum k (fun d=>X b d*sum n (fun j=>if E j=true then 0 else M (e d) j*y j)))) = - sum k (fun d=>mm k (xm M e) X a d*sum n (fun j=>if E j=true then 0 else M (e d) j*y j)):=by
   rw[<-QZ]
   have h5:sum k (fun b=>xm M e a b*(- sum k (fun d=>X b d*sum n (fun j=>if E j=true then 0 else M (e d) j*y j))))=sum k (fun b=>sum k (fun d=>- (xm M e a b*X b d*sum n (fun j=>if E j=true then 0 else M (e d) j*y j)))):=qf fun b _=>by
    rw[<-QZ,<-zV];exact qf fun d _=>by grind
   rw[h5,zG]
   exact qf fun d _=>by
    unfold mm;rw[<-qJ,<-QZ]
  rw[h4]
  congr 1
  have h6:sum k (fun d=>mm k (xm M e) X a d*sum n (fun j=>if E j=true then 0 else M (e d) j*y j))=sum k (fun d=>dlt a d*sum n (fun j=>if E j=true then 0 else M (e d) j*y j)):=qf fun d hd=>by rw[hX a ha d hd]
  rw[h6,zh ha (fun d=>sum n (fun j=>if E j=true then 0 else M (e d) j*y j))]
 rw[h1,h2]
 grind
theorem q3N{M X:q_m}{E:Nat->Bool}{e:Nat->Nat}(h:Enm n k E e) (hX:∀i,i<k->∀c,c<k->mm k X (xm M e) i c=dlt i c):q2Q n M E (q0v k M e X):=by
 intro x hx i hi hE;obtain⟨u,hu⟩:∃u:Nat->Rat,u=fun b=>sum n (fun j=>if E j=true then 0 else M (e b) j*x j):=⟨_,rfl⟩
 have h0:∀b,b<k->sum k (fun a=>xm M e b a*x (e a)) = - u b:=fun b hb=>by
  have h1:=hx (e b) (h.low b hb) (h.mem b hb);unfold av at h1;rw[h.parts] at h1;have h2:sum k (fun a=>xm M e b a*x (e a))=sum k (fun a=>M (e b) (e a)*x (e a)):=rfl;rw[h2,hu]
  grind
 have hz:∀a,a<k->x (e a) = - sum k (fun b=>X a b*u b):=fun a ha=>by
  have h1:sum k (fun b=>X a b*sum k (fun c=>xm M e b c*x (e c)))=x (e a):=by
   have h2:sum k (fun b=>X a b*sum k (fun c=>xm M e b c*x (e c)))=sum k (fun c=>mm k X (xm M e) a c*x (e c)):=by
    have h3:sum k (fun b=>X a b*sum k (fun c=>xm M e b c*x (e c)))=sum k (fun b=>sum k (fun c=>X a b*xm M e b c*x (e c))):=qf fun b _=>by
     rw[<-zV];exact qf fun c _=>by grind
    rw[h3,zG];exact qf fun c _=>by unfold mm;rw[<-qJ]
   rw[h2];have h4:sum k (fun c=>mm k X (xm M e) a c*x (e c))=sum k (fun c=>dlt a c*x (e c)):=qf fun c hc=>by rw[hX a ha c hc]
   rw[h4,zh ha (fun c=>x (e c))]
  rw[<-h1,<-QZ];exact qf fun b hb=>by rw[h0 b hb];grind
 unfold av;rw[h.parts]
 have h5:sum k (fun b=>M i (e b)*x (e b)) = - sum n (fun j=>if E j=true then 0 else sum k (fun a=>M i (e a)*sum k (fun b=>X a b*M (e b) j))*x j):=by
  have h6:sum k (fun b=>M i (e b)*x (e b)) = - sum k (fun a=>M i (e a)*sum k (fun b=>X a b*u b)):=by
   rw[<-QZ];exact qf fun a ha=>by rw[hz a ha];grind
  rw[h6,hu]
  congr 1
  have h7:sum k (fun a=>M i (e a)*sum k (fun b=>X a b*sum n (fun j=>if E j=true then 0 else M (e b) j*x j)))=sum k (fun a=>sum n (fun j=>if E j=true then 0 else M i (e a)*sum k (fun b=>X a b*M (e b) j)*x j)):=qf fun a _=>by
   have h8:sum k (fun b=>X a b*sum n (fun j=>if E j=true then 0 else M (e b) j*x j))=sum n (fun j=>if E j=true then 0 else sum k (fun b=>X a b*M (e b) j)*x j):=by
    have h9:sum k (fun b=>X a b*sum n (fun j=>if E j=true then 0 else M (e b) j*x j))=sum k (fun b=>sum n (fun j=>X a b*(if E j=true then 0 else M (e b) j*x j))):=qf fun b _=>by rw[<-zV]
    rw[h9,zG]
    exact qf fun j _=>by
     cases E j with
     | true=>simp only[if_true];exact qy fun b _=>by grind
     | false=>simp only[Bool.false_eq_true,if_false];rw[<-qJ];exact qf fun b _=>by grind
   rw[h8,<-zV];exact qf fun j _=>by cases E j<;>simp<;>grind
  rw[h7,zG]
  exact qf fun j _=>by
   cases E j with
   | true=>simp only[if_true];exact qy fun a _=>rfl
   | false=>simp only[Bool.false_eq_true,if_false];rw[qJ]
 rw[h5,<-Rat.sub_eq_add_neg,<-Xf];exact qf fun j _=>by unfold q0v;cases E j<;>simp<;>grind
def both (E1 E2:Nat->Bool) (i:Nat):Bool:=E1 i||E2 i
def xE (E:Nat->Bool) (i:Nat):Bool:=!E i
theorem Wu {E1 E2:Nat->Bool}(h:E1 i=true):both E1 E2 i=true:=by unfold both;rw[h];rfl
theorem q2y {E1 E2:Nat->Bool}(h:E2 i=true):both E1 E2 i=true:=by unfold both;rw[h,Bool.or_true]
theorem J5 {E1 E2:Nat->Bool}(h:both E1 E2 i=false):E1 i=false/\E2 i=false:=by unfold both at h;exact Bool.or_eq_false_iff.1 h
def PDef (n:Nat) (A:q_m):Prop:=∀x:Nat->Rat,(∃i,i<n/\x i≠0)->0<sum n (fun i=>x i*av n A x i)
theorem q1e{M S1:q_m}{E1 E2:Nat->Bool}(h1:q0u n M E1) (hS:q2Q n M E1 S1) (h2:q0u n S1 E2) (hd:∀i,E2 i=true->E1 i=false):q0u n M (both E1 E2):=by
 intro x hx h0;obtain⟨u,hu⟩:∃u:Nat->Rat,u=fun i=>if E2 i=true then x i else 0:=⟨_,rfl⟩
 have h00:∀i,i<n->E1 i=true->av n M x i=0:=fun i hi h=>h0 i hi (Wu h)
 have hu0:∀i,i<n->u i=0:=h2 u (fun i _ hi=>by rw[hu];simp[hi]) (fun i hi hE=>by
  have h3:=h0 i hi (q2y hE);rw[hS x h00 i hi (hd i hE)] at h3;refine Eq.trans (qf fun j hj=>?_) h3;rw[hu]
  show S1 i j*(if E2 j=true then x j else 0)=if E1 j=true then 0 else S1 i j*x j
  cases h4:E1 j with
  | true =>
   have:E2 j=false:=by
    cases h5:E2 j with
    | false=>rfl
    | true=>have:=hd j h5;rw[h4] at this;cases this
   rw[this,if_pos rfl,if_neg (by simp)];grind
  | false =>
   cases h5:E2 j with
   | true=>simp
   | false =>
    have:=hx j hj (by unfold both;rw[h4,h5];rfl)
    rw[this];simp)
 refine h1 x (fun i hi hE1=>?_) h00;cases h5:E2 i with
 | false=>exact hx i hi (by unfold both;rw[hE1,h5];rfl)
 | true =>
  have:=hu0 i hi;rw[hu] at this;simpa[h5] using this
theorem WS{M S1:q_m}{E1 E2:Nat->Bool}(hf:Fil n M E1) (hS:q2Q n M E1 S1) (h:q0u n M (both E1 E2)) (hd:∀i,E2 i=true->E1 i=false):q0u n S1 E2:=by
 intro y hy h0 i hi;obtain⟨x,hx,hx0⟩:=hf y
 have hz:=h x (fun i hin hi=>by
  obtain⟨a1,a2⟩:=J5 hi;rw[hx i a1,hy i hin a2]) (fun i hi hb=>by
  cases h1:E1 i with
  | true=>exact hx0 i hi h1
  | false =>
   have h2:E2 i=true:=by unfold both at hb;rw[h1] at hb;simpa using hb
   rw[hS x hx0 i hi h1];refine Eq.trans (qf fun j hj=>?_) (h0 i hi h2)
   show (if E1 j=true then 0 else S1 i j*x j)=S1 i j*y j
   cases h3:E1 j with
   | true =>
    have:E2 j=false:=by
     cases h5:E2 j with
     | false=>rfl
     | true=>have:=hd j h5;rw[h3] at this;cases this
    rw[hy j hj this,if_pos rfl];grind
   | false=>rw[if_neg (by simp),hx j h3])
 cases h2:E2 i with
 | false=>exact hy i hi h2
 | true=>rw[<-hx i (hd i h2)];exact hz i hi
theorem q1t{M:q_m}(h:PDef n M) (E:Nat->Bool):q0u n M E:=by
 intro x hx h0 i hi;refine Classical.byContradiction fun hne=>?_
 have h1:=h x ⟨i,hi,hne⟩
 rw[qy (fun j hj=>by
  cases hE:E j with
  | true=>rw[h0 j hj hE];grind
  | false=>rw[hx j hj hE];grind)] at h1
 exact absurd h1 (by decide)
theorem q5t{M:q_m}:Reg n M↔q0u n M (fun _=>true):=by
 constructor
 ·intro h x _ h0 i hi;exact h x (fun a ha=>h0 a ha rfl) i hi
 ·intro h x h0 i hi;exact h x (fun _ _ h=>by cases h) (fun a ha _=>h0 a ha) i hi
theorem QO{K:q_m}:(zx k (wP k K) k).2.length=k↔Reg k K:=by
 have h:q0y k k (qU k K) (zx k (wP k K) k).1 (zx k (wP k K) k).2:=by
  have:=xO k (wP k K) k;rw[ZA] at this ⊢;exact this
 constructor
 ·intro hl x hx c hc;have h2:=(VP h hl).2
  have h3:sum k (fun b=>(zx k (wP k K) k).1 c (k+b)*sum k (fun d=>K b d*x d))=x c:=by
   have h4:sum k (fun b=>(zx k (wP k K) k).1 c (k+b)*sum k (fun d=>K b d*x d))=sum k (fun d=>mm k (fun a b=>(zx k (wP k K) k).1 a (k+b)) K c d*x d):=by
    have h5:sum k (fun b=>(zx k (wP k K) k).1 c (k+b)*sum k (fun d=>K b d*x d))=sum k (fun b=>sum k (fun d=>(zx k (wP k K) k).1 c (k+b)*K b d*x d)):=qf fun b _=>by
     rw[<-zV];exact qf fun d _=>by grind
    rw[h5,zG];exact qf fun d _=>by unfold mm;rw[<-qJ]
   rw[h4];have h6:sum k (fun d=>mm k (fun a b=>(zx k (wP k K) k).1 a (k+b)) K c d*x d)=sum k (fun d=>dlt c d*x d):=qf fun d hd=>by rw[h2 c hc d hd]
   rw[h6,zh hc]
  rw[<-h3];exact qy fun b hb=>by rw[hx b hb];grind
 ·exact fun hr=>YP h hr
theorem jq{K:q_m}(hr:Reg k K):(∀i,i<k->∀c,c<k->mm k K (kN k K) i c=dlt i c)/\(∀i,i<k->∀c,c<k->mm k (kN k K) K i c=dlt i c):=by
 have h:q0y k k (qU k K) (zx k (wP k K) k).1 (zx k (wP k K) k).2:=by
  have:=xO k (wP k K) k;rw[ZA] at this ⊢;exact this
 exact VP h (YP h hr)
noncomputable def Jm (k:Nat) (M:q_m) (e:Nat->Nat):Nat->Nat->Rat:=q0v k M e (kN k (xm M e))
theorem q5o{M:q_m}{E:Nat->Bool}{e:Nat->Nat}(h:Enm n k E e) (hr:q0u n M E):Fil n M E/\q2Q n M E (Jm k M e):=by
 have h1:=jq (q4K h hr);exact⟨q7n h h1.1,q3N h h1.2⟩
theorem q0Z{M:q_m}{e:Nat->Nat}(hs:∀i j,M i j=M j i) (hr:Reg k (xm M e)) (i j:Nat):Jm k M e i j=Jm k M e j i:=by
 have h1:=jq hr;have h2:=q3O (K:=xm M e) (fun a b=>hs _ _) h1.1 h1.2;unfold Jm q0v;rw[hs i j]
 congr 1
 have h3:∀i j,sum k (fun a=>M i (e a)*sum k (fun b=>kN k (xm M e) a b*M (e b) j))=sum k (fun a=>sum k (fun b=>M i (e a)*kN k (xm M e) a b*M (e b) j)):=fun i j=>qf fun a _=>by
  rw[<-zV];exact qf fun b _=>by grind
 rw[h3,h3,zG]
 exact qf fun a ha=>qf fun b hb=>by
  rw[h2 b hb a ha,hs i (e b),hs (e a) j];grind
end Go.Proofs.YtpkmjhmmmdkodaaGreat
namespace Go.Proofs.YtpkmjhmmmdkodaaGreat
open Go.RowKit
variable {w:World} {N n lo hi k g i m c b j K:Nat} {v:Value} {x:Rat} {A:Option Addr}
def kV (lf:Nat->Nat) (n r:Nat):Bool:=xg n (fun t=>decide (lf t=r))
theorem vN (lf:Nat->Nat) (n r:Nat):kV lf (n+1) r=(kV lf n r||decide (lf n=r)):=by
 unfold kV xg;rw[List.range_succ,List.any_append]
 simp
theorem jY {lf:Nat->Nat}{r:Nat}:kV lf n r=true↔∃t,t<n/\lf t=r:=by
 unfold kV xg;simp[List.any_eq_true]
theorem Qd {lf:Nat->Nat}{r:Nat}(h:∀t,t<n->lf t≠r):kV lf n r=false:=by
 cases h9:kV lf n r with
 | false=>rfl
 | true =>
  obtain⟨t,h1,h2⟩:=jY.1 h9;exact absurd h2 (h t h1)
def Fct (k zk:Nat) (F:Nat->Nat->Nat->Nat->Rat) (X:q_m) (r:Nat):Nat->Nat->Rat:=mm zk (Fsy F r k) X
def Gx (k zk:Nat) (F:Nat->Nat->Nat->Nat->Rat) (X:q_m) (r c:Nat):Nat->Nat->Rat:=mm zk (Fct k zk F X r) (Fsy F k c)
def Fel (k zk:Nat) (F:Nat->Nat->Nat->Nat->Rat) (X:q_m) (p:Nat->Nat->Bool) (r c a b:Nat):Rat:=if p r c=true then F r c a b-Gx k zk F X r c a b else F r c a b
def Rel (k zk:Nat) (F:Nat->Nat->Nat->Nat->Rat) (X:q_m) (R:q_m) (p:Nat->Bool) (r a:Nat):Rat:=if p r=true then R r a-av zk (Fct k zk F X r) (R k) a else R r a
def pA (lf:Nat->Nat) (nl n:Nat) (r c:Nat):Bool:=kV lf n r&&kV lf nl c
def pB (lf:Nat->Nat) (nl n t:Nat) (r c:Nat):Bool:=pA lf nl n r c||(decide (r=lf n)&&kV lf t c)
theorem q7W {zk:Nat}{F:Nat->Nat->Nat->Nat->Rat}{X:q_m}{p:Nat->Nat->Bool}{r:Nat}(h1:p r k=false) (h2:p k r=false):Fsy (Fel k zk F X p) r k=Fsy F r k/\Fsy (Fel k zk F X p) k r=Fsy F k r:=by
 constructor<;>(funext a b;unfold Fsy Fel;split<;>simp[h1,h2])
theorem JJ(hk:0<k){M:q_m}(h:∀a b,a<k->b<k->M a b=0):¬Reg k M:=fun hr=>by
 have h1:=hr (fun _=>1) (fun i hi=>by
  exact qy fun c hc=>by rw[h i c hi hc];grind) 0 hk
 exact absurd h1 (by decide)
theorem Zi {p:Nat}{A B:q_m}(h:∀a b,a<m->b<n->A a b=0)(hi:i<m):mm n A B i j=0:=by
 unfold mm;exact qy fun c hc=>by rw[h i c hi hc];grind
theorem q1G {p:Nat}{A B:q_m}(h:∀a b,a<n->b<p->B a b=0)(hj:j<p):mm n A B i j=0:=by
 unfold mm;exact qy fun c hc=>by rw[h c j hc hj];grind
theorem StM.congr {B0 B1:Nat}{bz oz gm gr:Nat}{z:Nat->Nat}{F F':Nat->Nat->Nat->Nat->Rat}{R R':q_m}(h:StM N B0 B1 w bz oz gm gr m z F R) (hF:∀r c,c<=r->r<m->∀a,a<z r->∀b,b<z c->F r c a b=F' r c a b) (hR:∀i,i<m->∀a,a<z i->R i a=R' i a):StM N B0 B1 w bz oz gm gr m z F' R':=by
 obtain⟨h0,⟨l,h1,h2⟩,⟨cs,h3,h4⟩,h5,h6,h7,h8⟩:=h;refine⟨h0,⟨l,h1,fun r c hc hr=>?_⟩,⟨cs,h3,fun i hi=>?_⟩,h5,h6,h7,h8⟩
 ·have h9:=h2 r c hc hr
  generalize lkp l (r:Int) (c:Int)=o at h9 ⊢
  cases o with
  | none=>exact fun a b ha hb=>by rw[<-hF r c hc hr a ha b hb];exact h9 a b ha hb
  | some v =>
   obtain⟨A,k,lo,hi,hv,h10,h11⟩:=h9;exact⟨A,k,lo,hi,hv,MtV.congr h10 (fun a ha b hb=>hF r c hc hr a ha b hb),h11⟩
 ·obtain⟨v,h9,A,c,lo,hi',hv,h10,h11⟩:=h4 i hi;exact⟨v,h9,A,c,lo,hi',hv,LsV.congr h10 (fun a ha=>hR i hi a ha),h11⟩
theorem StM.setR {B0 B1:Nat}{bz oz gm gr:Nat}{z:Nat->Nat}{F:Nat->Nat->Nat->Nat->Rat}{R:q_m}(h:StM N B0 B1 w bz oz gm gr m z F R) (hne:gm≠gr)(hi:i<m){y:q_v}(hv:Lx N B0 B1 w v (z i) y) :
  ∃w',w.setCell ⟨gr,i,none⟩ v=w'/\StM N B0 B1 w' bz oz gm gr m z F (fun j=>if j=i then y else R j)/\Chg gr (gr+1) w w':=by
 obtain⟨⟨s1,s2⟩,⟨l,h1,h2⟩,⟨cs,h3,h4⟩,h5,h6,h7,h8⟩:=h;have U:=(Upd.refl gr w).set i v;have C:Chg gr (gr+1) w (w.setCell ⟨gr,i,none⟩ v):=U.chg (NoU.mk h3 VF);refine⟨_,rfl,⟨⟨s1,fun a ha=>C.cell (s2 a ha) (by show bz<gr\/gr+1<=bz;omega)⟩,⟨l,?_,fun r c hc hr=>(h2 r c hc hr).chg C (by omega) (by omega) (by omega)⟩,⟨_,heap_set h3 i v,fun a ha=>?_⟩,h5,h6,h7,by rw[U.size];exact h8⟩,C⟩
 ·obtain⟨es,q,h9,h10⟩:=h1;exact⟨es,q,C.blk h9 (by omega),h10⟩
 ·obtain⟨u,h9,h10⟩:=h4 a ha;rw[Array.getElem?_setIfInBounds]
  by_cases hai:i=a
  ·subst hai
   have hlt:i<cs.size:=by
    rcases Nat.lt_or_ge i cs.size with h11|h11
    ·exact h11
    ·rw[Array.getElem?_eq_none h11] at h9;cases h9
   rw[if_pos rfl,if_pos hlt];refine⟨v,rfl,?_⟩
   show Lx N B0 B1 _ v (z i) (if i=i then y else R i)
   rw[if_pos rfl];exact hv.chg C (by omega) (by omega) (by omega)
  ·rw[if_neg hai];refine⟨u,h9,?_⟩
   show Lx N B0 B1 _ u (z a) (if a=i then y else R a)
   rw[if_neg (fun e=>hai e.symm)];exact h10.chg C (by omega) (by omega) (by omega)
theorem Qu {p K':Nat}{A B:q_m}(h:HtM m n K A) (h':HtM n p K' B):HtM m p (n*(K+K'+1)+1) (mm n A B):=fun i hi j hj=>by
 unfold mm;exact Zp fun c hc=>(h i hi c hc).mul (h' c hc j hj)
theorem Zn {q:Nat}{M:q_m}(h:HtM n n q M):HtM n n (5 ^ n*(q+1)) (kN n M):=fun i hi j hj=>by
 unfold kN;exact (Xm (VU h) (by omega) (.inl (q_r))) i hi (n+j) (by omega)
theorem KJ{z:Nat->Nat}{F:Nat->Nat->Nat->Nat->Rat}(hF:∀r c,c<=r->r<m->HtM (z r) (z c) K (F r c)){r:Nat}(hr:r<m) (hc:c<m):HtM (z r) (z c) K (Fsy F r c):=fun a ha b hb=>by
 unfold Fsy
 split
 ·exact hF r c (by omega) hr a ha b hb
 ·exact hF c r (by omega) hc b hb a ha
def Mn.lf (N B n:Nat) (x:q_v):Mn:=⟨fun v w=>LsV N B w.heap.size w v n x,fun e h=>LsR.wide (h.ext e) (q_r) e.size (q_r)⟩
theorem q27{z:Nat->Nat}{F:Nat->Nat->Nat->Nat->Rat}{X:q_m}{lf:Nat->Nat}{nl:Nat}{p:Nat->Nat->Bool}(hF:∀r c,c<=r->r<m->HtM (z r) (z c) K (F r c)) (hF':∀r c,c<=r->r<m->kV lf nl r=true->kV lf nl c=true->HtM (z r) (z c) K (fun a b=>F r c a b-Gx k (z k) F X r c a b)) (hp:∀r c,p r c=true->kV lf nl r=true/\kV lf nl c=true):∀r c,c<=r->r<m->HtM (z r) (z c) K (Fel k (z k) F X p r c):=fun r c hc hr a ha b hb=>by
 unfold Fel
 split
 ·rename_i h
  exact hF' r c hc hr (hp r c h).1 (hp r c h).2 a ha b hb
 ·exact hF r c hc hr a ha b hb
theorem JP {lf:Nat->Nat}{a nl r:Nat}(ha:a<=nl) (h:kV lf a r=true):kV lf nl r=true:=by
 obtain⟨t,h1,h2⟩:=jY.1 h;exact jY.2 ⟨t,by omega,h2⟩
theorem q74 {lf:Nat->Nat}{nl a r:Nat}(ha:a<=nl) (h:pA lf nl a r c=true):kV lf nl r=true/\kV lf nl c=true:=by
 unfold pA at h;rw[Bool.and_eq_true] at h;exact⟨JP ha h.1,h.2⟩
theorem q73 {lf:Nat->Nat}{nl a r:Nat}(ha:a<nl) (hb:b<=nl) (h:pB lf nl a b r c=true):kV lf nl r=true/\kV lf nl c=true:=by
 unfold pB at h;rw[Bool.or_eq_true,Bool.and_eq_true,decide_eq_true_eq] at h
 rcases h with h|⟨h1,h2⟩
 ·exact q74 (Nat.le_of_lt ha) h
 ·exact⟨jY.2 ⟨a,ha,h1.symm⟩,JP hb h2⟩
theorem q1u {lf:Nat->Nat}{nl a:Nat}(r c:Nat):pA lf nl (a+1) r c=pB lf nl a nl r c:=by
 unfold pB pA;rw[vN,show decide (lf a=r)=decide (r=lf a) by simp[eq_comm]];cases kV lf a r<;>cases kV lf nl c<;>cases decide (r=lf a)<;>rfl
theorem q5B {lf:Nat->Nat}{nl a:Nat}(r c:Nat):pB lf nl a 0 r c=pA lf nl a r c:=by
 unfold pB;rw[show kV lf 0 c=false from rfl,Bool.and_false,Bool.or_false]
theorem Xx {lf:Nat->Nat}{nl a:Nat}(r c:Nat):pB lf nl a (b+1) r c=(pB lf nl a b r c||(decide (r=lf a)&&decide (lf b=c))):=by
 unfold pB;rw[vN];cases pA lf nl a r c<;>cases kV lf b c<;>cases decide (r=lf a)<;>cases decide (lf b=c)<;>rfl
theorem q3Y {zk a nl:Nat}{z lf:Nat->Nat}{F:Nat->Nat->Nat->Nat->Rat}{X:q_m}(h0:∀x y,x<z i->y<zk->Fsy F i k x y=0) (hi:i=lf a) (r c:Nat){x:Nat}(hx:x<z r) (y:Nat):Fel k zk F X (pA lf nl a) r c x y=Fel k zk F X (pA lf nl (a+1)) r c x y:=by
 unfold Fel;rw[q1u];unfold pB
 by_cases hp:pA lf nl a r c=true
 ·rw[if_pos hp,if_pos (by rw[hp];rfl)]
 ·rw[if_neg hp]
  split
  ·rename_i h
   rw[Bool.or_eq_true,Bool.and_eq_true,decide_eq_true_eq] at h
   rcases h with h|⟨h,-⟩
   ·exact absurd h hp
   ·have hG:Gx k zk F X r c x y=0:=by
     unfold Gx;refine Zi (m:=z r) (p:=0) (fun x' y' hx' _=>?_) hx;unfold Fct;exact Zi (m:=z r) (p:=0) (fun x'' y'' hx'' hy''=>by rw[h,<-hi] at hx'' ⊢;exact h0 x'' y'' hx'' hy'') hx'
    rw[hG];grind
  ·rfl
theorem q3f {zk a:Nat}{z lf:Nat->Nat}{F:Nat->Nat->Nat->Nat->Rat}{X:q_m}{R:q_m}(h0:∀x y,x<z i->y<zk->Fsy F i k x y=0) (hi:i=lf a) (r:Nat){x:Nat}(hx:x<z r):Rel k zk F X R (kV lf a) r x=Rel k zk F X R (kV lf (a+1)) r x:=by
 unfold Rel;rw[vN]
 by_cases hp:kV lf a r=true
 ·rw[if_pos hp,if_pos (by rw[hp];rfl)]
 ·rw[if_neg hp]
  split
  ·rename_i h
   rw[Bool.or_eq_true,decide_eq_true_eq] at h
   rcases h with h|h
   ·exact absurd h hp
   ·have hG:av zk (Fct k zk F X r) (R k) x=0:=by
     unfold av;refine qy fun c hc=>?_
     have h1:Fct k zk F X r x c=0:=by
      unfold Fct;exact Zi (m:=z r) (p:=0) (fun x'' y'' hx'' hy''=>by rw[<-h,<-hi] at hx'' ⊢;exact h0 x'' y'' hx'' hy'') hx
     rw[h1];grind
    rw[hG];grind
  ·rfl
theorem q0d {zk a nl:Nat}{z lf:Nat->Nat}{F:Nat->Nat->Nat->Nat->Rat}{X:q_m}(h0:∀x y,x<zk->y<z j->Fsy F k j x y=0) (hj:j=lf b) (r c x:Nat){y:Nat}(hy:y<z c):Fel k zk F X (pB lf nl a b) r c x y=Fel k zk F X (pB lf nl a (b+1)) r c x y:=by
 unfold Fel;rw[Xx]
 by_cases hp:pB lf nl a b r c=true
 ·rw[if_pos hp,if_pos (by rw[hp];rfl)]
 ·rw[if_neg hp]
  split
  ·rename_i h
   rw[Bool.or_eq_true,Bool.and_eq_true,decide_eq_true_eq,decide_eq_true_eq] at h
   rcases h with h|⟨-,h⟩
   ·exact absurd h hp
   ·have hG:Gx k zk F X r c x y=0:=by
     unfold Gx;exact q1G (p:=z c) (fun x'' y'' hx'' hy''=>by rw[<-h,<-hj] at hy'' ⊢;exact h0 x'' y'' hx'' hy'') hy
    rw[hG];grind
  ·rfl
theorem q7o {zk a nl:Nat}{lf:Nat->Nat}{F:Nat->Nat->Nat->Nat->Rat}{X:q_m}(hi:i=lf a) (hj:j=lf b) (hij:¬j<=i){r:Nat}(hcr:c<=r) (x y:Nat):Fel k zk F X (pB lf nl a b) r c x y=Fel k zk F X (pB lf nl a (b+1)) r c x y:=by
 unfold Fel
 rw[Xx,show (decide (r=lf a)&&decide (lf b=c))=false by
  rw[<-hi,<-hj];cases h1:decide (r=i) with
  | false=>rfl
  | true =>
   rw[decide_eq_true_eq] at h1;rw[Bool.true_and]
   exact q_f (by omega),Bool.or_false]
theorem q5Z {zk a nl:Nat}{lf:Nat->Nat}{F:Nat->Nat->Nat->Nat->Rat}{X:q_m}(hi:i=lf a) (hj:j=lf b) (hnot:pB lf nl a b i j=false) (r c x y:Nat):q4E (Fel k zk F X (pB lf nl a b)) i j (fun x y=>Fel k zk F X (pB lf nl a b) i j x y-Gx k zk F X i j x y) r c x y=Fel k zk F X (pB lf nl a (b+1)) r c x y:=by
 unfold q4E
 by_cases h:r=i/\c=j
 ·rw[if_pos h];obtain⟨rfl,rfl⟩:=h;unfold Fel;rw[Xx,hnot,<-hi,<-hj,decide_eq_true rfl,decide_eq_true rfl]
  rfl
 ·rw[if_neg h];unfold Fel
  rw[Xx,show (decide (r=lf a)&&decide (lf b=c))=false by
   rw[<-hi,<-hj];cases h1:decide (r=i) with
   | false=>rfl
   | true =>
    rw[decide_eq_true_eq] at h1;rw[Bool.true_and]
    exact decide_eq_false fun h2=>h ⟨h1,h2.symm⟩,Bool.or_false]
def q4A (N B0 B1 C1 q:Nat) (kb:Obj) (w:World) (bz oz gm gr m:Nat) (z:Nat->Nat) (F:Nat->Nat->Nat->Nat->Rat) (R:q_m) (k:Nat) (lf:Nat->Nat) (nl:Nat) (e:Ending) (w':World):Prop :=
 (e=.returned (.tuple #[.slice none 0 0,.bool false])/\¬Reg (z k) (F k k)/\Ext w w') \/
 (∃(A:Addr) (cap:Nat),e=.returned (.tuple #[.slice (some A) (z k) cap,.bool true])/\Reg (z k) (F k k)/\MtV N B1 w'.heap.size w' (.slice (some A) (z k) cap) (z k) (z k) (kN (z k) (F k k)) /\
  StM N B0 B1 w' bz oz gm gr m z (Fel k (z k) F (kN (z k) (F k k)) (pA lf nl nl)) (Rel k (z k) F (kN (z k) (F k k)) R (kV lf nl))/\Chg B0 C1 w w'/\w'.heap[q]?=some kb)
theorem Vl {B0 B1 C1:Nat}{bz oz cz gm gr cr:Nat}{z:Nat->Nat}{F:Nat->Nat->Nat->Nat->Rat}{R:q_m}(h:StM N B0 B1 w bz oz gm gr m z F R) (hne:gm≠gr) (hC1:gm<C1/\gr<C1/\C1<=B1){q:Nat}{kb:Obj}(hq:w.heap[q]?=some kb) (hqn:q≠gm/\q≠gr) (hm:m<=12) (hz:∀i,i<m->0<z i/\z i<=64)
(hk:k<m){bl ol nl cl:Nat}{lf:Nat->Nat}(hl:∀t,t<nl->lf t<m/\lf t≠k) (hinj:∀s t,s<nl->t<nl->lf s=lf t->s=t) (hnl:nl<=12) (hbl:bl<B0) (hc:∀t,t<nl->w.cell? ⟨bl,ol+t,none⟩=some (.int .i64 (lf t:Int)))
  {K':Nat}(hKL:K<=K'/\K'<=29000000000) (hF:∀r c,c<=r->r<m->HtM (z r) (z c) K (F r c)) (hF':∀r c,c<=r->r<m->kV lf nl r=true->kV lf nl c=true->HtM (z r) (z c) K' (fun a b=>F r c a b-Gx k (z k) F (kN (z k) (F k k)) r c a b)) (hR:∀i,i<m->HtL (z i) K (R i))
  (hB1:5*(5 ^ z k*(K+1))<=29000000000) (hB2:z k*(z k*(K+5 ^ z k*(K+1)+1)+1+K+1)+1<=29000000000) :
  Calls Tryz.prog 67 #[stV bz oz cz gm gr cr m,.int .i64 (k:Int),.slice (some ⟨bl,ol,none⟩) nl cl] w (q4A N B0 B1 C1 q kb w bz oz gm gr m z F R k lf nl):=by
 obtain⟨Q,hQ⟩:=qc (q4A N B0 B1 C1 q kb w bz oz gm gr m z F R k lf nl);rw[<-hQ.out];have hzk:=hz k hk
 have hKK:K<=29000000000:=by
  have h1:K+1<=5 ^ z k*(K+1):=Nat.le_mul_of_pos_left _ (Nat.pow_pos (by decide));omega
 have HS:=q_h h;have HNE:=q_h hne;have HCC:=q_h hC1;have HQB:=q_h hq;have HQN:=q_h hqn;have HZ:=q_h hz;have HL:=q_h hl;have HINJ:=q_h hinj;have HC:=q_h hc;have HF:=q_h hF;have HF':=q_h hF';have HKL:=q_h hKL.2;have HFM:Hid (∀r c,c<=r->r<m->HtM (z r) (z c) K' (F r c)):=fun r c h1 h2 a ha b hb=>(hF r c h1 h2 a ha b hb).mono hKL.1
 have HR:=q_h hR;have HB1:=q_h hB1;have HB2:=q_h hB2;have HKK:=q_h hKK;have HBW:Hid (B1<=w.heap.size):=h.bw;have HMB:Hid (B0<=gm/\gm<B1):=h.mb;have HRB:Hid (B0<=gr/\gr<B1):=h.rb;have HNB:Hid (N<=B0):=h.nb;have HKI:Hid (HtM (z k) (z k) K (F k k)):=hF k k (q_r) hk
 have HKN:Hid (∀a,kV lf a k=true->nl<a):=fun a ha=>by
  obtain⟨t,h1,h2⟩:=jY.1 ha
  rcases Nat.lt_or_ge t nl with h3|h3
  ·exact absurd h2 (hl t h3).2
  ·omega
 have hnlE:=fun (w:World) (a:Option Addr) (n c:Nat)=>Lib.run_eql_slice_nil (P:=Tryz.prog) w 42 24 a n c 0 0 Tryz.underlying42
 have hnlN:=fun (w:World) (a:Option Addr) (n c:Nat)=>run_neq_slice_nil_any (P:=Tryz.prog) w 42 24 a n c 0 0 Tryz.underlying42
 unfold stV;clear h hne hz hl hinj hc hF hF' hR hB1 hB2 hKK hKL hq hqn;go_enter Tryz.func67,Tryz.ntmps67;go_upto_region 1 with (fail);refine qp ?_;intro w1 e1 hsz1 B0';obtain⟨a0,a1,a2,-⟩:=cells3 B0';go_wp2_with (go_at_call 68;refine q_o ?_);refine (Ja (cz:=cz) (cr:=cr) (HS.out.ext e1) hm HZ.out HF.out HKK.out hk hk).mono ?_;rintro e w2 ⟨v,rfl,e2,hv⟩;have HFK:Hid (Fsy F k k=F k k):=by funext a b;unfold Fsy;rw[if_pos (q_r)]
 rw[HFK.out] at hv;have hE2:=e1.trans e2;replace B0':=e2.block B0';clear a0 a1 a2 e1 e2
 rcases hv with ⟨rfl,h0⟩|hmx
 ·have HNR:=q_h (JJ hzk.1 h0);clear h0;go_wp2
  first|go_ret2|skip
  rw[hQ.out];exact .inl ⟨rfl,HNR.out,hE2⟩
 obtain⟨A2,k2,lo2,hi2,rfl,hmt⟩:=hmx.mtv;have HMT:=q_h hmt;clear hmx hmt;go_wp2_with (go_at_call 49;refine q_o ?_);refine (JQ HMT.out hzk.1 hzk.2 HKI.out HB1.out).mono ?_;rintro e w3 ⟨e3,⟨h1,rfl⟩|⟨h1,g3,cap3,β3,κ3,rfl,hcap3,ho3⟩⟩
 ·have HNR:Hid (¬Reg (z k) (F k k)):=fun hr=>by
   have:=QO.2 hr;omega
  clear h1;go_wp2
  first|go_ret2|skip
  rw[hQ.out];exact .inl ⟨rfl,HNR.out,hE2.trans e3⟩
 have HREG:Hid (Reg (z k) (F k k)):=QO.1 (by have:=ve (z k) (wP (z k) (F k k)) (z k);omega);have hE3:=hE2.trans e3;have HX3:Hid (MtV N B1 w3.heap.size w3 (.slice (some ⟨g3,0,none⟩) (z k) cap3) (z k) (z k) (kN (z k) (F k k))):=MtR.wide (ho3.mtv ho3.mle hcap3) (by have:=HBW.out;have:=hE2.size;omega) (q_r) (q_r);obtain⟨X,hX⟩:=qc (kN (z k) (F k k));have HXH:Hid (HtM (z k) (z k) (5 ^ z k*(K+1)) X):=by rw[Hid,hX.out];exact Zn HKI.out
 rw[<-hX.out] at HX3 HF'
 have HQ2:Hid (Q=fun e w'=>(e=.returned (.tuple #[.slice none 0 0,.bool false])/\¬Reg (z k) (F k k)/\Ext w w') \/
  (∃(A:Addr) (cap:Nat),e=.returned (.tuple #[.slice (some A) (z k) cap,.bool true])/\Reg (z k) (F k k)/\MtV N B1 w'.heap.size w' (.slice (some A) (z k) cap) (z k) (z k) X/\StM N B0 B1 w' bz oz gm gr m z (Fel k (z k) F X (pA lf nl nl)) (Rel k (z k) F X R (kV lf nl))/\Chg B0 C1 w w'/\w'.heap[q]?=some kb)):=by rw[Hid,hQ.out,hX.out];rfl
 have HQ3:=q_h (hE3.block HQB.out);have HB3:=q_h (e3.block B0');have HS3:Hid (StM N B0 B1 w3 bz oz gm gr m z (Fel k (z k) F X (pA lf nl 0)) (Rel k (z k) F X R (kV lf 0))):=(HS.out.ext hE3).congr (fun r c _ _ a _ b _=>by unfold Fel;rw[show pA lf nl 0 r c=false from rfl];rfl) (fun i _ a _=>by unfold Rel;rw[show kV lf 0 i=false from rfl];rfl);have HC3:Hid (∀t,t<nl->w3.cell? ⟨bl,ol+t,none⟩=some (.int .i64 (lf t:Int))):=fun t ht=>hE3.cell (HC.out t ht)
 have HE3:=q_h hE3;have HN3:Hid (N<=w3.heap.size):=by have:=HBW.out;have:=HNB.out;have:=HMB.out;have:=hE3.size;rw[Hid];omega
 have hbw3:C1<=w.heap.size:=q_l HCC.out.2.2 HBW.out;clear hQ hX HMT ho3 hcap3 h1 B0' e3 hE2 hE3 HC HS;go_wp2_with fail
 go_loopw [36] (fun iv wr=>∃a:Nat,a<=nl/\iv=.int .i64 (a:Int)/\Hid (StM N B0 B1 wr bz oz gm gr m z (Fel k (z k) F X (pA lf nl a)) (Rel k (z k) F X R (kV lf a)))/\Hid (Chg B0 C1 w3 wr)/\Hid (wr.heap[q]?=some kb)) (fun iv _=>nl-(intOf iv).toNat)
 case atStart=>exact⟨0,Nat.zero_le _,rfl,HS3,Chg.refl _ _ _,HQ3⟩
 case round =>
  clear HS3 HQ3;obtain⟨a,ha,rfl,HSA,HCA,HQA⟩:=hrel
  by_cases hlt:a<nl
  case neg =>
   have t1:decide ((a:Int)<(nl:Int))=false:=q_f (by omega);obtain rfl:nl=a:=by omega
   go_wp2
   first|go_ret2|skip
   rw[HQ2.out];refine .inr ⟨_,_,rfl,HREG.out,?_,HSA.out,(HE3.out.chg B0 C1).trans HCA.out,HQA.out⟩;exact MtR.wide (MtR.chg HX3.out HCA.out HNB.out (.inr HCC.out.2.2)) (q_r) HCA.out.size (q_r)
  have t1:decide ((a:Int)<(nl:Int))=true:=q_t (by omega);have t2:(a:Int)<(nl:Int):=by omega
  obtain⟨i,hi⟩:=qc (lf a);obtain⟨him,hik⟩:=HL.out a hlt;have c0:=HCA.out.cell (HC3.out a hlt) (.inl hbl);rw[<-hi.out] at c0 him hik;have HK0:Hid (kV lf nl k=false):=Qd fun t ht=>(HL.out t ht).2
  have HKA:Hid (kV lf a k=false):=Qd fun t ht=>(HL.out t (by omega)).2
  have HIA:Hid (kV lf a i=false):=Qd fun t ht h9=>by
   have:=HINJ.out t a (by omega) hlt (by rw[h9,hi.out]);omega
  have HPK:Hid (∀r,pA lf nl a r k=false/\pA lf nl a k r=false):=fun r=>by
   unfold pA;rw[HK0.out,HKA.out,Bool.and_false,Bool.false_and];exact⟨rfl,rfl⟩
  obtain⟨wq,hwq⟩:∃wq,wq=wr:=⟨_,rfl⟩
  subst hwq;have HBA:=q_h (HCA.out.blk HB3.out (.inr hbw3));obtain⟨a0,a1,a2,-⟩:=cells3 HBA.out;go_wp2_with (go_at_call 68;refine q_o ?_);refine (Ja (cz:=cz) (cr:=cr) HSA.out hm HZ.out (q27 HFM.out HF'.out (fun r c h=>q74 ha h)) HKL.out him hk).mono ?_;rintro e w4 ⟨v,rfl,e4,hv⟩;rw[(q7W (HPK.out i).1 (HPK.out i).2).1] at hv;have HS4:=q_h (HSA.out.ext e4);have HC4:Hid (Chg B0 C1 w3 w4):=HCA.out.trans (e4.chg B0 C1);have HB4:=q_h (e4.block HBA.out);have HQ4:=q_h (e4.block HQA.out);clear a0 a1 a2 c0 HSA HCA HBA HQA e4
  rcases hv with ⟨rfl,h0⟩|hmx
  ·have HSN:Hid (StM N B0 B1 w4 bz oz gm gr m z (Fel k (z k) F X (pA lf nl (a+1))) (Rel k (z k) F X R (kV lf (a+1)))):=HS4.out.congr (fun r c _ _ x hx y _=>q3Y h0 hi.out r c hx y) (fun r _ x hx=>q3f h0 hi.out r hx);clear h0;go_wp2;go_roundw
   case rel=>exact⟨a+1,by omega,by go_num,HSN,HC4,HQ4⟩
   case measure=>simp[intOf];omega
  obtain⟨A4,k4,lo4,hi4,rfl,hmt4⟩:=hmx.mtv;have HM4:=q_h hmt4;have HX4:Hid (MtV N B1 w3.heap.size w4 (.slice (some ⟨g3,0,none⟩) (z k) cap3) (z k) (z k) X):=MtR.chg HX3.out HC4.out HNB.out (.inr HCC.out.2.2);have hzi:=HZ.out i him;have HSH:Hid (HtM (z i) (z k) K (Fsy F i k)):=KJ HF.out him hk
  have hbf:z k*(K+5 ^ z k*(K+1)+1)+1<=29000000000:=by
   have h1:=HB2.out;have h2:z k*(K+5 ^ z k*(K+1)+1)+1<=z k*(z k*(K+5 ^ z k*(K+1)+1)+1+K+1)+1:=Nat.add_le_add_right (q_l (Nat.mul_le_mul_left _ (by have:=Nat.le_mul_of_pos_left (K+5 ^ z k*(K+1)+1) hzk.1;omega)) (q_r)) 1;omega
  have HBF:=q_h hbf;clear hmx hmt4 hbf;go_wp2_with (go_at_call 50;refine q_o ?_);refine (q3H HM4.out HX4.out hzi.1 hzi.2 hzk.1 hzk.2 hzk.1 hzk.2 HSH.out HXH.out HBF.out).mono ?_;rintro e w5 ⟨g5,cap5,β5,κ5,rfl,hcap5,ho5,e5⟩;have hw35:B1<=w4.heap.size:=by have:=HBW.out;have:=HC4.out.size;have:=HE3.out.size;omega
  have HF5:Hid (MtV N B1 w5.heap.size w5 (.slice (some ⟨g5,0,none⟩) (z i) cap5) (z i) (z k) (Fct k (z k) F X i)):=MtR.wide (ho5.mtv ho5.mle hcap5) hw35 (q_r) (q_r);have HFH:Hid (HtM (z i) (z k) (z k*(K+5 ^ z k*(K+1)+1)+1) (Fct k (z k) F X i)):=Qu HSH.out HXH.out;have HS5:Hid (StM N B0 B1 w5 bz oz gm gr m z (Fel k (z k) F X (pB lf nl a 0)) (Rel k (z k) F X R (kV lf a))):=(HS4.out.ext e5).congr (fun r c _ _ x _ y _=>by unfold Fel;rw[q5B]) (fun _ _ _ _=>rfl);have HC5:Hid (Chg B0 C1 w3 w5):=HC4.out.trans (e5.chg B0 C1);have HB5:=q_h (e5.block HB4.out);have HQ5:=q_h (e5.block HQ4.out);have hw5:B1<=w5.heap.size:=q_l hw35 e5.size;clear ho5 hcap5 e5 HM4 HX4 HS4 HC4 HB4 HQ4 hw35;go_wp2_with fail
  go_loopw [54] (fun jv wr=>∃b:Nat,b<=nl/\jv=.int .i64 (b:Int)/\Hid (StM N B0 B1 wr bz oz gm gr m z (Fel k (z k) F X (pB lf nl a b)) (Rel k (z k) F X R (kV lf a)))/\Hid (Chg B0 C1 w5 wr)/\Hid (wr.heap[q]?=some kb)) (fun jv _=>nl-(intOf jv).toNat)
  case atStart=>exact⟨0,Nat.zero_le _,rfl,HS5,Chg.refl _ _ _,HQ5⟩
  case round =>
   clear HS5 HQ5;obtain⟨b,hb,rfl,HSB,HCB,HQB'⟩:=hrel
   by_cases hltb:b<nl
   case neg =>
    have t3:decide ((b:Int)<(nl:Int))=false:=q_f (by omega);obtain rfl:nl=b:=by omega
    have HSQ:Hid (StM N B0 B1 wr bz oz gm gr m z (Fel k (z k) F X (pA lf nl (a+1))) (Rel k (z k) F X R (kV lf a))):=HSB.out.congr (fun r c _ _ x _ y _=>by unfold Fel;rw[q1u]) (fun _ _ _ _=>rfl);have HBB:=q_h (HCB.out.blk HB5.out (.inr hbw3));obtain⟨a0,a1,a2,-⟩:=cells3 HBB.out;obtain⟨cs,hgr,hrt⟩:=HSB.out.rt;obtain⟨vi,hvi,hLi⟩:=hrt i him;obtain⟨vk,hvk,hLk⟩:=hrt k hk;rw[show Rel k (z k) F X R (kV lf a) i=R i by funext x;unfold Rel;rw[HIA.out];rfl] at hLi;rw[show Rel k (z k) F X R (kV lf a) k=R k by funext x;unfold Rel;rw[HKA.out];rfl] at hLk;obtain⟨Ai,ci,loi,hii,rfl,hli,-⟩:=hLi;obtain⟨Ak,ck,lok,hik',rfl,hlk,-⟩:=hLk;have q0:wr.cell? ⟨gr,i,none⟩=some (.slice Ai (z i) ci):=by rw[qh hgr];exact hvi
    have q1:wr.cell? ⟨gr,k,none⟩=some (.slice Ak (z k) ck):=by rw[qh hgr];exact hvk
    have HLi:=q_h hli;have HLk:=q_h hlk;have HGR:=q_h hgr;have HFw:Hid (MtV N B1 w5.heap.size wr (.slice (some ⟨g5,0,none⟩) (z i) cap5) (z i) (z k) (Fct k (z k) F X i)):=MtR.chg HF5.out HCB.out HNB.out (.inr HCC.out.2.2);have HRK:Hid (HtL (z k) K (R k)):=HR.out k hk
    have HSZ:Hid (∀x,x<z i->Sz (R i x)/\Sz (av (z k) (Fct k (z k) F X i) (R k) x)):=fun x hx=>⟨(HR.out i him x hx).sz HKK.out,Ht.sz (k:=z k*(z k*(K+5 ^ z k*(K+1)+1)+1+K+1)+1) (by
     unfold av
     exact Zp fun c hc=>(HFH.out x hx c hc).mul (HRK.out c hc)) HB2.out⟩
    have HBI:Hid (∀ {w':World},Ext wr w'->B1<=w'.heap.size):=fun e=>q_l hw5 (q_l HCB.out.size e.size)
    have him':(i:Int)<(m:Int):=by omega
    have hkm':(k:Int)<(m:Int):=by omega
    obtain⟨wx,hwx⟩:∃wx,wx=wr:=⟨_,rfl⟩
    subst hwx;clear hrt hvi hvk hli hlk hgr HSB;go_upto_region 21 with (fail);refine jL [Mn.q w.heap.size 2,Mn.eq (.slice (some ⟨gr,0,none⟩) m cr),Mn.i (i:Int),Mn.q w.heap.size 2,Mn.eq (.slice (some ⟨gr,0,none⟩) m cr),Mn.i (i:Int),Mn.q gr i,Mn.eq (.slice Ai (z i) ci),Mn.eq (.slice (some ⟨g5,0,none⟩) (z i) cap5),Mn.q w.heap.size 2,Mn.eq (.slice (some ⟨gr,0,none⟩) m cr),Mn.i (k:Int),Mn.q gr k,Mn.eq (.slice Ak (z k) ck),Mn.lf N B1 (z i) (av (z k) (Fct k (z k) F X i) (R k)),Mn.lf N B1 (z i) (fun x=>R i x-av (z k) (Fct k (z k) F X i) (R k) x),Mn.q gr i,Mn.any] [some 81,some 82,some 83,some 84,some 85,some 86,some 87,some 88,some 89,some 90,some 91,some 92,some 93,some 94,some 95,some 96,some 97,none] [17] (rQ 17 1) 1 (by kernel_rfl) ?_ ?_
    ·show ∀i,i<18->_
     iterate 18 refine fs ?_ ?_
     ·exact fz
     all_goals intro hl;first|exact absurd hl (by decide)|(clear hl;refine stp rfl ?_;intro ac wi eI hB hA K hK)
     have o3:=oOf (hB 3) rfl;rotate_left;obtain⟨_,s81,rfl⟩:=hA 0 81;have cc0:=eI.cell a2;rotate_left;have o12:=oOf (hB 12) rfl;rotate_left;have o3:=oOf (hB 3) rfl;rotate_left;obtain⟨_,s84,rfl⟩:=hA 3 84;have cc0:=eI.cell a2;rotate_left;have o12:=oOf (hB 12) rfl;rotate_left;obtain⟨_,s85,rfl⟩:=hA 4 85;obtain⟨_,s86,rfl⟩:=hA 5 86;rotate_left;obtain⟨_,s87,rfl⟩:=hA 6 87;have cc0:=eI.cell q0;rotate_left;have o14:=oOf (hB 14) rfl;rotate_left;have o3:=oOf (hB 3) rfl;rotate_left;obtain⟨_,s90,rfl⟩:=hA 9 90;have cc0:=eI.cell a2;rotate_left;have o1:=oOf (hB 1) rfl;rotate_left;obtain⟨_,s91,rfl⟩:=hA 10 91;obtain⟨_,s92,rfl⟩:=hA 11 92;rotate_left;obtain⟨_,s93,rfl⟩:=hA 12 93;have cc0:=eI.cell q1;rotate_left;obtain⟨_,s89,rfl⟩:=hA 8 89;obtain⟨_,s94,rfl⟩:=hA 13 94;clear hB hA
     ·go_simp;refine (J7 (HFw.out.ext eI) (HLk.out.ext eI) HFH.out HRK.out HB2.out (by omega)).mono ?_;rintro e wj ⟨Aj,cj,rfl,hj9,ej⟩;go_wp2_with fail;exact hK.out _ _ ej (LsR.wide hj9 (HBI.out eI) (q_r) (q_r))
     obtain⟨_,s88,rfl⟩:=hA 7 88;obtain⟨x95,s95,j95⟩:=hA 14 95;replace j95:Mn.p (Mn.lf N B1 (z i) (av (z k) (Fct k (z k) F X i) (R k))) x95 wi:=j95;clear hB hA
     ·go_simp;refine (q2G (HLi.out.ext eI) j95 HSZ.out (by omega)).mono ?_;rintro e wj ⟨Aj,cj,rfl,hj9,ej⟩;go_wp2_with fail;exact hK.out _ _ ej (LsR.wide hj9 (HBI.out eI) (q_r) (q_r))
     obtain⟨_,s82,rfl⟩:=hA 1 82;obtain⟨_,s83,rfl⟩:=hA 2 83;rotate_left
     all_goals clear hB hA;go_simp;exact q_k hK rfl
    intro vals wz eZ hJ;have J96:Mn.p (Mn.lf N B1 (z i) (fun x=>R i x-av (z k) (Fct k (z k) F X i) (R k) x)) (vals 15) wz:=hJ 15 (by decide) (by decide);have J97:vals 16=_:=hJ 16 (by decide) (by decide);clear hJ;simp only[pr,Nat.reduceAdd,J97];clear J97
    generalize vals 15=z96 at J96 ⊢
    have hlz:=J96;obtain⟨Av,cv,hvv,-,-⟩:=LsR.form hlz;rw[hvv] at hlz ⊢;have q2:=eZ.cell q0;have f2:wz.frozen? ⟨gr,i,none⟩=false:=qP (eZ.block HGR.out) i;refine qj (i:=17) rfl (by kernel_rfl) (by kernel_rfl) (fun K hK=>?_);go_simp;refine hK.out _ _ ?_;clear hK K;try simp only[nr]
    refine qg (by kernel_rfl) ?_ _;obtain⟨w9,E9,hs9,C9⟩:=(HSQ.out.ext eZ).setR HNE.out him (v:=.slice Av (z i) cv) (y:=fun x=>R i x-av (z k) (Fct k (z k) F X i) (R k) x) ⟨_,_,B1,_,rfl,hlz,.inr (q_r)⟩;rw[E9]
    have HSN:Hid (StM N B0 B1 w9 bz oz gm gr m z (Fel k (z k) F X (pA lf nl (a+1))) (Rel k (z k) F X R (kV lf (a+1)))):=hs9.congr (fun _ _ _ _ _ _ _ _=>rfl) (fun r _ x _=>by
     show (if r=i then (fun x=>R i x-av (z k) (Fct k (z k) F X i) (R k) x) else Rel k (z k) F X R (kV lf a) r) x=_
     unfold Rel;rw[vN,<-hi.out]
     by_cases hri:r=i
     ·rw[if_pos hri,hri,decide_eq_true rfl,Bool.or_true]
      rfl
     ·rw[if_neg hri,q_f (fun e:i=r=>hri e.symm),Bool.or_false])
    have HQZ:Hid (w9.heap[q]?=some kb):=C9.blk (eZ.block HQB'.out) (by have:=HQN.out;omega);have HCN:Hid (Chg B0 C1 w3 w9):=(HC5.out.trans (HCB.out.trans (eZ.chg B0 C1))).trans (C9.wide (by have:=HRB.out;omega) (by have:=HCC.out;omega));clear E9 hs9 C9 hlz q2 f2 q0 q1 a0 a1 a2 eZ hvv;go_wp2;go_roundw
    case rel=>exact⟨a+1,by omega,by go_num,HSN,HCN,HQZ⟩
    case measure=>simp[intOf];omega
   have t3:decide ((b:Int)<(nl:Int))=true:=q_t (by omega);have t4:(b:Int)<(nl:Int):=by omega
   obtain⟨j,hj⟩:=qc (lf b);obtain⟨hjm,hjk⟩:=HL.out b hltb;have c1:=HCB.out.cell (HC5.out.cell (HC3.out b hltb) (.inl hbl)) (.inl hbl);rw[<-hj.out] at c1 hjm hjk
   have HPB:Hid (∀r,pB lf nl a b r k=false/\pB lf nl a b k r=false):=fun r=>by
    have hbk:kV lf b k=false:=Qd fun t ht=>(HL.out t (by omega)).2
    unfold pB;rw[(HPK.out r).1,(HPK.out r).2,hbk,<-hi.out,q_f (fun e:k=i=>hik e.symm),Bool.and_false,Bool.false_and];exact⟨rfl,rfl⟩
   have HBJ:Hid (pB lf nl a b i j=false):=by
    have h1:kV lf b j=false:=Qd fun t ht h9=>by
     have:=HINJ.out t b (by omega) hltb (by rw[h9,hj.out]);omega
    rw[Hid];unfold pB pA;rw[HIA.out,h1,Bool.false_and,Bool.and_false]
    rfl
   have HBB:=q_h (HCB.out.blk HB5.out (.inr hbw3));obtain⟨a0,a1,a2,-⟩:=cells3 HBB.out;obtain⟨wx,hwx⟩:∃wx,wx=wr:=⟨_,rfl⟩
   subst hwx;go_wp2_with (go_at_call 68;refine q_o ?_);refine (Ja (cz:=cz) (cr:=cr) HSB.out hm HZ.out (q27 HFM.out HF'.out (fun r c h=>q73 hlt hb h)) HKL.out hk hjm).mono ?_;rintro e w6 ⟨v,rfl,e6,hv⟩;rw[(q7W (HPB.out j).1 (HPB.out j).2).2] at hv;have HS6:=q_h (HSB.out.ext e6);have HC6:Hid (Chg B0 C1 w5 w6):=HCB.out.trans (e6.chg B0 C1);have HB6:=q_h (e6.block HBB.out);have HQ6:=q_h (e6.block HQB'.out);clear a0 a1 a2 c1 HSB HCB HBB HQB' e6
   by_cases hji:j<=i
   case neg =>
    have t5:decide ((j:Int)<=(i:Int))=false:=q_f (by omega);have HSN:Hid (StM N B0 B1 w6 bz oz gm gr m z (Fel k (z k) F X (pB lf nl a (b+1))) (Rel k (z k) F X R (kV lf a))):=HS6.out.congr (fun r c hcr _ x _ y _=>q7o hi.out hj.out hji hcr x y) (fun _ _ _ _=>rfl)
    obtain⟨vA,vn,vc,rfl⟩:∃A n c,v=.slice A n c:=by
     rcases hv with ⟨rfl,-⟩|⟨A,k9,-,-,rfl,-⟩
     ·exact⟨_,_,_,rfl⟩
     ·exact⟨_,_,_,rfl⟩
    have hji':¬(j:Int)<=(i:Int):=by omega
    clear hv hji;go_wp2;go_roundw
    case rel=>exact⟨b+1,by omega,by go_num,HSN,HC6,HQ6⟩
    case measure=>simp[intOf];omega
   have t5:decide ((j:Int)<=(i:Int))=true:=q_t (by omega)
   rcases hv with ⟨rfl,h0⟩|hmx
   ·have HSN:Hid (StM N B0 B1 w6 bz oz gm gr m z (Fel k (z k) F X (pB lf nl a (b+1))) (Rel k (z k) F X R (kV lf a))):=HS6.out.congr (fun r c _ _ x _ y hy=>q0d h0 hj.out r c x hy) (fun _ _ _ _=>rfl);clear h0;go_wp2;go_roundw
    case rel=>exact⟨b+1,by omega,by go_num,HSN,HC6,HQ6⟩
    case measure=>simp[intOf];omega
   obtain⟨A6,k6,lo6,hi6,rfl,hmt6⟩:=hmx.mtv;have HM6:=q_h hmt6;have hzj:=HZ.out j hjm;have HOH:Hid (HtM (z k) (z j) K (Fsy F k j)):=KJ HF.out hk hjm;have HF6:Hid (MtV N B1 w5.heap.size w6 (.slice (some ⟨g5,0,none⟩) (z i) cap5) (z i) (z k) (Fct k (z k) F X i)):=MtR.chg HF5.out HC6.out HNB.out (.inr HCC.out.2.2);have HGH:Hid (∀x,x<z i->∀y,y<z j->Sz (Gx k (z k) F X i j x y)):=fun x hx y hy=>(Qu HFH.out HOH.out x hx y hy).sz HB2.out
   have HFS:Hid (∀x,x<z i->∀y,y<z j->Sz (Fel k (z k) F X (pB lf nl a b) i j x y)):=fun x hx y hy=>(q27 HFM.out HF'.out (fun r c h=>q73 hlt hb h) i j hji him x hx y hy).sz HKL.out
   clear hmx hmt6;go_wp2_with (go_at_call 50;refine q_o ?_);refine (q3H HF6.out HM6.out hzi.1 hzi.2 hzk.1 hzk.2 hzj.1 hzj.2 HFH.out HOH.out HB2.out).mono ?_;rintro e w7 ⟨g7,cap7,β7,κ7,rfl,hcap7,ho7,e7⟩;have HG7:Hid (MtV N w6.heap.size w7.heap.size w7 (.slice (some ⟨g7,0,none⟩) (z i) cap7) (z i) (z j) (Gx k (z k) F X i j)):=ho7.mtv ho7.mle hcap7;have HS7:=q_h (HS6.out.ext e7);have HB7:=q_h (e7.block HB6.out);have HQ7:=q_h (e7.block HQ6.out);have HC7:Hid (Chg B0 C1 w5 w7):=HC6.out.trans (e7.chg B0 C1);obtain⟨a0,a1,a2,-⟩:=cells3 HB7.out;clear ho7 hcap7 e7 HM6 HF6 HS6 HC6 HB6 HQ6;go_wp2_with (go_at_call 126;refine q_o ?_);refine (q0q (cz:=cz) (cr:=cr) HS7.out HNE.out hm HZ.out him hji HFS.out HG7.out HGH.out).mono ?_;rintro e w8 ⟨rfl,hs8,hc8⟩;have HSN:Hid (StM N B0 B1 w8 bz oz gm gr m z (Fel k (z k) F X (pB lf nl a (b+1))) (Rel k (z k) F X R (kV lf a))):=hs8.congr (fun r c _ _ x _ y _=>q5Z hi.out hj.out HBJ.out r c x y) (fun _ _ _ _=>rfl);have HC8:Hid (Chg B0 C1 w5 w8):=HC7.out.trans (hc8.wide HMB.out.1 (by have:=HCC.out;omega));have HQ8:=q_h (hc8.blk HQ7.out (by have:=HQN.out;omega));clear hs8 hc8 HQ7 HS7 HC7 HB7 HG7 a0 a1 a2;go_wp2;go_roundw
   case rel=>exact⟨b+1,by omega,by go_num,HSN,HC8,HQ8⟩
   case measure=>simp[intOf];omega
def q0w (o:Nat->Nat) (t s:Nat):Nat:=o (t+1+s)
section
variable (z o:Nat->Nat) (m:Nat) (F:Nat->Nat->Nat->Nat->Rat) (R:q_m)
noncomputable def fsS:Nat->Nat->Nat->Nat->Nat->Rat
 | 0=>F
 | t+1=>Fel (o t) (z (o t)) (fsS t) (kN (z (o t)) (fsS t (o t) (o t))) (pA (q0w o t) (m-(t+1)) (m-(t+1)))
noncomputable def rsS:Nat->Nat->Nat->Rat
 | 0=>R
 | t+1=>Rel (o t) (z (o t)) (fsS z o m F t) (kN (z (o t)) (fsS z o m F t (o t) (o t))) (rsS t) (kV (q0w o t) (m-(t+1)))
def PvF (t:Nat):Prop:=Reg (z (o t)) (fsS z o m F t (o t) (o t))
noncomputable def yS (x:q_m) (t:Nat):Nat->Nat->Rat
 | 0=>rsS z o m F R t (o t)
 | j+1=>fun a=>yS x t j a-av (z (o (t+1+j))) (Fsy (fsS z o m F t) (o t) (o (t+1+j))) (x (o (t+1+j))) a
noncomputable def xS (x:q_m) (t:Nat):Nat->Rat:=av (z (o t)) (kN (z (o t)) (fsS z o m F t (o t) (o t))) (yS z o m F R x t (m-(t+1)))
def yH (K Kx:Nat) (t:Nat):Nat->Nat
 | 0=>K
 | j+1=>yH K Kx t j+(z (o (t+1+j))*(K+Kx+1)+1)+1
end
variable {z o:Nat->Nat}{m:Nat}{F:Nat->Nat->Nat->Nat->Rat}{R:q_m}
theorem q17 (hinj:∀a b,a<m->b<m->o a=o b->a=b){t s:Nat}(ht:t<=s) (hs:s<m):kV (q0w o s) (m-(s+1)) (o t)=false :=
 Qd fun q hq h=>by
  have:=hinj (s+1+q) t (by omega) (by omega) h;omega
theorem q20 (hinj:∀a b,a<m->b<m->o a=o b->a=b){t:Nat}(c:Nat):∀d,t+d<=m->Fsy (fsS z o m F (t+d)) (o t) c=Fsy (fsS z o m F t) (o t) c
 | 0,_=>rfl
 | d+1,h=>by
  have ih:=q20 (t:=t) hinj c d (by omega);rw[<-ih];have h1:=q17 (m:=m) (o:=o) hinj (Nat.le_add_right t d) (show t+d<m by omega)
  funext a b
  show Fsy (fsS z o m F ((t+d)+1)) (o t) c a b=_
  generalize t+d=u at h1
  rw[fsS];unfold Fsy Fel pA;rw[h1]
  by_cases hc:c<=o t
  ·rw[if_pos hc,if_pos hc,Bool.false_and,if_neg (by decide)]
  ·rw[if_neg hc,if_neg hc,Bool.and_false,if_neg (by decide)]
theorem q7l (hinj:∀a b,a<m->b<m->o a=o b->a=b){t:Nat}(ht:t<=m) (c:Nat):Fsy (fsS z o m F m) (o t) c=Fsy (fsS z o m F t) (o t) c:=by
 have h:=q20 (z:=z) (F:=F) hinj (t:=t) c (m-t) (by omega)
 rwa [show t+(m-t)=m by omega] at h
theorem q18 (hinj:∀a b,a<m->b<m->o a=o b->a=b){t:Nat}:∀d,t+d<=m->rsS z o m F R (t+d) (o t)=rsS z o m F R t (o t)
 | 0,_=>rfl
 | d+1,h=>by
  have ih:=q18 (t:=t) hinj d (by omega);rw[<-ih];have h1:=q17 (m:=m) (o:=o) hinj (Nat.le_add_right t d) (show t+d<m by omega)
  funext a
  show rsS z o m F R ((t+d)+1) (o t) a=_
  generalize t+d=u at h1
  rw[rsS];unfold Rel;rw[h1,if_neg (by decide)]
theorem q6V (hinj:∀a b,a<m->b<m->o a=o b->a=b){t:Nat}(ht:t<=m):rsS z o m F R m (o t)=rsS z o m F R t (o t):=by
 have h:=q18 (z:=z) (F:=F) (R:=R) hinj (t:=t) (m-t) (by omega)
 rwa [show t+(m-t)=m by omega] at h
theorem q0D {K Kx t:Nat}:∀ {a b:Nat},a<=b->yH z o K Kx t a<=yH z o K Kx t b
 | a,0,h=>by
  obtain rfl:a=0:=by omega
  exact q_r
 | a,b+1,h=>by
  by_cases h1:a=b+1
  ·rw[h1];exact q_r
  ·refine q_l (q0D (K:=K) (Kx:=Kx) (t:=t) (show a<=b by omega)) ?_
   show _<=yH z o K Kx t b+(z (o (t+1+b))*(K+Kx+1)+1)+1
   omega
theorem q6K {x:q_m}{K Kx t:Nat}(h0:HtL (z (o t)) K (rsS z o m F R t (o t))) (hF:∀s,t<s->s<m->HtM (z (o t)) (z (o s)) K (Fsy (fsS z o m F t) (o t) (o s))) (hx:∀s,t<s->s<m->HtL (z (o s)) Kx (x (o s))) :
  ∀j,t+1+j<=m->HtL (z (o t)) (yH z o K Kx t j) (yS z o m F R x t j)
 | 0,_=>h0
 | j+1,h=>fun a ha=>by
  have ih:=q6K h0 hF hx j (by omega) a ha;unfold yS yH;refine (ih.sub (?_:Ht (z (o (t+1+j))*(K+Kx+1)+1) _)).mono (q_r);unfold av;exact Zp fun c hc=>(hF _ (by omega) (by omega) a ha c hc).mul (hx _ (by omega) (by omega) c hc)
def shM (most m:Nat) (L:Nat->Nat) (R:Nat->Nat->Raw):Bool:=decide (m<=most)&&allB m (fun i=>shB most (L i) (R i))
theorem ZN{L:Nat->Nat}{R:Nat->Nat->Raw}(h:MtR N lo hi w v m L R) (most:Nat){mz:Int}(hmz:mz=(most:Int)) (hmo:most<1000) :
  Calls Tryz.prog 42 #[v,.int .i64 mz,.int .i64 6] w (zI w (.bool (shM most m L R))):=by
 subst hmz;obtain⟨r,hr⟩:=qc (shM most m L R);rw[<-hr.out];obtain⟨A,c,rfl,hnc,hcm⟩:=h.form;unfold maxLen at hcm;have hI:=h;clear h;go_enter Tryz.func42,Tryz.ntmps42
 by_cases hn:m<=most
 ·have HR:Hid (r=allB m (fun i=>shB most (L i) (R i))):=by rw[Hid,hr.out];unfold shM;rw[q_t hn,Bool.true_and]
  have hd1:decide (most<m)=false:=by simp;omega
  have hd2:¬most<m:=by omega
  clear hr;go_wp2
  go_loopw [7] (fun i wr=>∃k:Nat,k<=m/\i=.int .i64 k/\Hid (∀j,j<k->shB most (L j) (R j)=true)/\Ext w wr) (fun i _=>m-(intOf i).toNat)
  case atStart=>exact⟨0,Nat.zero_le _,rfl,fun j hj=>absurd hj (by omega),Ext.refl w⟩
  case round =>
   obtain⟨k,hk,rfl,HA,hE⟩:=hrel
   by_cases hlt:k<m
   ·obtain⟨b,off,rfl,-,-,hx⟩:=(hI.ext hE).addr (by omega);obtain⟨Ak,ck,p0,-,-,hv⟩:=hx k hlt;obtain⟨Lk,hLk⟩:=qc (L k);rw[<-hLk.out] at p0 hv;clear hx;go_wp2_with (go_at_call 40;refine q_o ?_);refine (Vw hv most rfl hmo).mono ?_;rintro e w3 ⟨rfl,e3⟩;replace hE:=hE.trans e3;obtain⟨o,ho⟩:=qc (shB most Lk (R k));have HO:Hid (shB most (L k) (R k)=o):=by rw[Hid,ho.out,hLk.out]
    rw[<-ho.out];clear p0 e3;cases ho':o with
    | true =>
     subst ho';go_wp2;go_roundw
     case rel=>exact⟨k+1,by omega,by go_num,kY (p:=fun j=>shB most (L j) (R j)=true) HA.out HO.out,hE⟩
     case measure=>simp[intOf];omega
    | false =>
     subst ho';have HF:Hid (r=false):=by rw[Hid,HR.out];exact qE hlt HO.out
     go_wp2;go_ret;exact⟨qw HF.out.symm,hE⟩
   ·have HF:Hid (r=true):=by rw[Hid,HR.out];exact ql.2 (fun j hj=>HA.out j (by omega))
    go_wp2;go_ret;exact⟨qw HF.out.symm,hE⟩
 ·have HF:Hid (r=false):=by rw[Hid,hr.out];unfold shM;rw[q_f hn];rfl
  go_wp2;go_ret;exact⟨qw HF.out.symm,Ext.refl w⟩
def q50 (N:Nat) (w:World) (m n:Nat) (X:q_m) (e:Ending) (w':World):Prop:=∃A c,e=.returned (.slice A m c)/\MtV N 0 w'.heap.size w' (.slice A m c) m n X/\Ext w w'
theorem set31{t:TypeId}{y0 y1 y2:Value}(hb:w.heap[g]?=some (.cells #[y0,y1,y2] t (0,0))) (x0:Value):∃w1,w.setCell ⟨g,1,none⟩ x0=w1/\w1.heap[g]?=some (.cells #[y0,x0,y2] t (0,0))/\Upd g w w1 :=
 ⟨_,rfl,by have h1:=heap_set hb 1 x0;simpa using h1,(Upd.refl g w).set 1 x0⟩
theorem q28{v':Value}{y:Rat}(h:zq N w v x) (h':zq N w v' y) (hz:Sz x) (hz':Sz y) :
  Calls Tryz.prog 139 #[v,v'] w (zI w (.int .i64 (x.num*y.den-y.num*x.den).sign)):=by
 obtain⟨s,hs⟩:=qc (x.num*y.den-y.num*x.den).sign;rw[<-hs.out];have hI:=h;have hI':=h';have hN:=h.le;obtain⟨m1,X1,i1,d1,X2,i2,d2,rfl,hm1,gx1,gx2⟩:=h.parts;obtain⟨m2,Y1,i3,d3,Y2,i4,d4,rfl,hm2,gy1,gy2⟩:=h'.parts;have HZ:=q_h hz;have HZ':=q_h hz';clear hz hz' h h' gx1 gx2 gy1 gy2;go_enter Tryz.func139,Tryz.ntmps139;go_wp2;refine kL ?_;intro W hE hsz B0 B1;obtain⟨a0,a1,a2,a3,-⟩:=cells4 B0;obtain⟨b0,b1,b2,b3,-⟩:=cells4 B1
 go_cut [] (fun wx=>∃n1 A1 k1 c1 A2 k2 c2 n2 A3 k3 c3 A4 k4 c4,Ext w wx/\w.heap.size+2<=wx.heap.size/\wx.heap[w.heap.size]?=some (.cells #[.bool n1,.slice A1 k1 c1,.bool false,.slice A2 k2 c2] 48 (0,0))/\wx.heap[w.heap.size+1]?=some (.cells #[.bool n2,.slice A3 k3 c3,.bool false,.slice A4 k4 c4] 48 (0,0))/\Hid (n1=decide (x.num<0))/\Hid (n2=decide (y.num<0))/\Gs N wx (.slice A1 k1 c1) (dg x.num.natAbs)/\Gs N wx (.slice A2 k2 c2) (dg x.den)/\Gs N wx (.slice A3 k3 c3) (dg y.num.natAbs)/\Gs N wx (.slice A4 k4 c4) (dg y.den)/\w.heap.size+2<=wx.heap.size)
 case first =>
  have eC:=(Ext.refl W).drew
  go_region_with (first
   | (go_at_call_of 151 X1;refine (xQ (by exact hI.ext (hE.trans eC)) HZ.out).mono ?_;intro e w1 hh;obtain⟨n1,A1,k1,c1,A2,k2,c2,rfl,hb1,g1,g2,e1⟩:=hh.form;replace eC:=eC.trans e1;have C0:=eC.block B0;have C1:=eC.block B1;obtain⟨p0,p1,p2,p3,p4,p5,p6,p7⟩:=cells4 C0;obtain⟨q0,q1,q2,q3,q4,q5,q6,q7⟩:=cells4 C1)
   | (go_at_call_of 151 Y1;refine (xQ (by exact hI'.ext (hE.trans eC)) HZ'.out).mono ?_;intro e w2 hh;obtain⟨n2,A3,k3,c3,A4,k4,c4,rfl,hb2,g3,g4,e2⟩:=hh.form;replace eC:=eC.trans e2;have C0:=eC.block B0;have C1:=eC.block B1;obtain⟨p0,p1,p2,p3,p4,p5,p6,p7⟩:=cells4 C0;obtain⟨q0,q1,q2,q3,q4,q5,q6,q7⟩:=cells4 C1))
  all_goals
   go_wp2_with fail
   go_meet
   obtain⟨w3,E3,D0,U⟩:=ex4 C0 (.bool n1) (.slice A1 k1 c1) (.bool false) (.slice A2 k2 c2);rw[E3];obtain⟨w4,E4,D1,U'⟩:=ex4 (U.blk C1 (by omega)) (.bool n2) (.slice A3 k3 c3) (.bool false) (.slice A4 k4 c4);rw[E4];have hT0:=NoU.mk C0 (by decide);have hT1:=NoU.mk (U.blk C1 (by omega)) (by decide);refine⟨n1,A1,k1,c1,A2,k2,c2,n2,A3,k3,c3,A4,k4,c4,U'.ext (U.ext (hE.trans eC) (q_r)) (by omega),?_,U'.blk D0 (by omega),D1,hb1,hb2,((g1.ext e2).upd U (by omega) hT0).upd U' (by omega) hT1,((g2.ext e2).upd U (by omega) hT0).upd U' (by omega) hT1,(g3.upd U (by omega) hT0).upd U' (by omega) hT1,(g4.upd U (by omega) hT0).upd U' (by omega) hT1,(by rw[U'.size,U.size];have:=eC.size;omega)⟩;rw[U'.size,U.size];have:=eC.size;omega
 case rest =>
  clear a0 a1 a2 a3 b0 b1 b2 b3 B0 B1 hE hsz hI hI';obtain⟨n1,A1,k1,c1,A2,k2,c2,n2,A3,k3,c3,A4,k4,c4,hE,-,B0,B1,hb1,hb2,g1,g2,g3,g4,hsz⟩:=hcut;obtain⟨a0,a1,a2,a3,-⟩:=cells4 B0;obtain⟨b0,b1,b2,b3,-⟩:=cells4 B1;have eC:=(Ext.refl wc).drew;go_wp2
  go_region_held3 (fun w'=>(w'.cell? ⟨w.heap.size,0,none⟩=some (.bool n1)/\w'.cell? ⟨w.heap.size,1,none⟩=some (.slice A1 k1 c1)/\w'.cell? ⟨w.heap.size,2,none⟩=some (.bool false)/\w'.cell? ⟨w.heap.size,3,none⟩=some (.slice A2 k2 c2))/\(w'.cell? ⟨w.heap.size+1,0,none⟩=some (.bool n2)/\w'.cell? ⟨w.heap.size+1,1,none⟩=some (.slice A3 k3 c3)/\w'.cell? ⟨w.heap.size+1,2,none⟩=some (.bool false)/\w'.cell? ⟨w.heap.size+1,3,none⟩=some (.slice A4 k4 c4)))
   ((repeat' apply And.intro)<;>repeat with_reducible first|assumption|exact eC.cell (by assumption)|refine cell_far _ ?_ (by omega))
   (first
    | (go_at_call_of 176 A1;refine (XM (by exact zH hb1 (g1.ext eC)) (by exact zS (g4.ext eC)) (by have:=HZ.out.1;omega) (by rw[Int.natAbs_natCast];have:=HZ'.out.2;omega)).mono ?_;rintro e w5 ⟨v5,rfl,h5,e5⟩;replace eC:=eC.trans e5)
    | (go_at_call_of 176 A3;refine (XM (by exact zH hb2 (g3.ext eC)) (by exact zS (g2.ext eC)) (by have:=HZ'.out.1;omega) (by rw[Int.natAbs_natCast];have:=HZ.out.2;omega)).mono ?_;rintro e w6 ⟨v6,rfl,h6,e6⟩;replace eC:=eC.trans e6)
    | (go_at_call 173;refine (q7g (by exact h5.ext e6) (by exact h6)).mono ?_;rintro e w7 ⟨rfl,e7⟩;rw[<-hs.out];replace eC:=eC.trans e7))
  go_wp2;go_ret;exact⟨rfl,hE.trans eC⟩
theorem KT {y:Rat}:(x.num*y.den-y.num*x.den).sign=0↔x=y:=by
 rw[Int.sign_eq_zero_iff_zero]
 constructor
 ·intro h;have h1:x.num*(y.den:Int)=y.num*(x.den:Int):=by omega
  have h2:Rat.divInt x.num x.den=Rat.divInt y.num y.den:=(Rat.divInt_eq_divInt_iff (by have:=x.den_nz;omega) (by have:=y.den_nz;omega)).2 h1;rw[Rat.num_divInt_den,Rat.num_divInt_den] at h2;exact h2
 ·rintro rfl;omega
theorem Zz{R:Nat->Raw}(h:LsR N lo hi w v n R) (hs:∀i,i<n->jD (R i)) :
  Calls Tryz.prog 88 #[v] w (zI w (.bool (allB n (fun i=>okR (R i))))):=by
 obtain⟨r,hr⟩:=qc (allB n (fun i=>okR (R i)));rw[<-hr.out];obtain⟨A,c,rfl,hnc,hcm⟩:=h.form;unfold maxLen at hcm;have HI:=q_h h;have HS:=q_h hs;clear hs h;go_enter Tryz.func88,Tryz.ntmps88;go_wp2_with fail
 go_loopw [7] (fun i wr=>∃k:Nat,k<=n/\i=.int .i64 k/\Hid (∀j,j<k->okR (R j)=true)/\Ext w wr) (fun i _=>n-(intOf i).toNat)
 case atStart=>exact⟨0,Nat.zero_le _,rfl,fun j hj=>absurd hj (by omega),Ext.refl w⟩
 case round =>
  obtain⟨k,hk,rfl,HA,hE⟩:=hrel
  by_cases hlt:k<n
  case neg =>
   have t1:decide ((k:Int)<(n:Int))=false:=q_f (by omega);have HF:Hid (r=true):=by rw[Hid,hr.out];exact ql.2 (fun j hj=>HA.out j (by omega))
   go_wp2;go_ret;exact⟨qw HF.out.symm,hE⟩
  have t1:decide ((k:Int)<(n:Int))=true:=q_t (by omega);have t2:(k:Int)<(n:Int):=by omega
  obtain⟨b,off,rfl,-,-,hx⟩:=(HI.out.ext hE).addr (by omega);obtain⟨A1,n1,c1,A2,n2,c2,p0,p1,p2,p3,hv⟩:=(hx k hlt).val;have HV:=q_h hv;clear hx hv;go_upto_region 4 with (fail);refine qp ?_;intro w3 e3 hsz3 B3;clear p0 p1 p2 p3;obtain⟨q0,q1,q2,q3,-⟩:=cells4 B3;go_wp2_with (go_at_call 138;refine q_o ?_);refine (YX (HV.out.ext e3) (HS.out k hlt).1 (HS.out k hlt).2).mono ?_;rintro e w4 ⟨rfl,e4⟩;have hE4:=hE.trans (e3.trans e4);obtain⟨o,ho⟩:=qc (okR (R k));rw[<-ho.out];clear q0 q1 q2 q3 B3 e3 e4;cases o with
  | true =>
   go_wp2;go_roundw
   case rel=>exact⟨k+1,by omega,by go_num,kY HA.out ho.out.symm,hE4⟩
   case measure=>simp[intOf];omega
  | false =>
   have HF:Hid (r=false):=by rw[Hid,hr.out];exact qE hlt ho.out.symm
   go_wp2;go_ret;exact⟨qw HF.out.symm,hE4⟩
theorem XA{L:Nat->Nat}{R:Nat->Nat->Raw}(h:MtR N lo hi w (.slice A m c) m L R)(hi':i<m):∃b off A' c',A=some ⟨b,off,none⟩/\w.cell? ⟨b,off+i,none⟩=some (.slice A' (L i) c')/\LsR N lo hi w (.slice A' (L i) c') (L i) (R i)/\L i<=9223372036854775807:=by
 obtain⟨-,-,A9,c9,hv,-,-,hx⟩:=h;injection hv with e1 e2 e3
 subst e1;obtain⟨b,off,hA,-,-,hc⟩:=hx (by omega);obtain⟨u,h1,h2⟩:=hc i hi';obtain⟨A',c',rfl,h3,h4⟩:=h2.form;unfold maxLen at h4;exact⟨b,off,A',c',hA,h1,h2,by omega⟩
theorem q5n {z:Nat->Int}{B:Bkk}(hi:i<B.m) (h:¬(B.L i:Int)=z B.c.toNat):wW z B=false:=by
 unfold wW;rw[qE hi (q_f h),Bool.false_and,Bool.and_false]
theorem q5m {z:Nat->Int}{B:Bkk}(hi:i<B.m) (hj:j<i) (h0:B.r=B.c) (h:¬zl (B.A i j)=zl (B.A j i)):wW z B=false:=by
 unfold wW q2Y;rw[show allB B.m (fun i=>allB i (fun j=>decide (zl (B.A i j)=zl (B.A j i))))=false from qE hi (qE hj (q_f h)),q_t h0]
 simp
theorem Vr {z:Nat->Int}{B:Bkk}(h1:(B.m:Int)=z B.r.toNat) (h2:∀i,i<B.m->(B.L i:Int)=z B.c.toNat) (h3:B.r=B.c->∀i,i<B.m->∀j,j<i->zl (B.A i j)=zl (B.A j i)):wW z B=true:=by
 unfold wW q2Y;rw[q_t h1,ql.2 (fun i hi=>q_t (h2 i hi)),Bool.true_and,Bool.true_and]
 by_cases h0:B.r=B.c
 ·rw[ql.2 (fun i hi=>ql.2 fun j hj=>q_t (h3 h0 i hi j hj)),Bool.or_true]
 ·rw[q_f h0];rfl
theorem q4m {lo' hi':Nat}{Z:Sys}(h:Qn N lo hi w v Z){B:Bkk}{cA:Nat}(hb:MtR N lo' hi' w (.slice A B.m cA) B.m B.L B.A) (h0:0<=B.c) (h1:B.c<=B.r) (h2:B.r<(Z.ns:Int)) (hcan:Ve B=true) (hsz:∀i,i<B.m->∀j,j<B.L i->Sz (zl (B.A i j))) :
  Calls Tryz.prog 90 #[v,.agg #[.int .i64 B.r,.int .i64 B.c,.slice A B.m cA]] w (zI w (.bool (wW Z.z B))):=by
 obtain⟨A1,c1,A2,c2,A3,c3,rfl,s1,s2,s3,k1,-⟩:=h.parts;obtain⟨r,hr⟩:=qc (wW Z.z B);rw[<-hr.out];have HI:=q_h s1;have HB:=q_h hb;have HCAN:=q_h hcan;have HSZ:=q_h hsz;obtain⟨br,hbr⟩:∃br:Nat,B.r=(br:Int):=⟨B.r.toNat,by omega⟩
 obtain⟨bc,hbc⟩:∃bc:Nat,B.c=(bc:Int):=⟨B.c.toNat,by omega⟩
 have hbrn:br<Z.ns:=by omega
 have hbcn:bc<Z.ns:=by omega
 have HT:Hid (B.r.toNat=br/\B.c.toNat=bc):=⟨by omega,by omega⟩
 obtain⟨-,-,A9,c9,hv9,hmc,hmm,-⟩:=hb;obtain⟨-,-,rfl⟩:A=A9/\B.m=B.m/\cA=c9:=by simpa using hv9
 clear hv9;unfold maxLen at hmm;have HRC:Hid (B.r=B.c↔br=bc):=by rw[Hid];omega
 rw[hbr,hbc];clear h s1 s2 s3 hcan hsz h0 h1 h2 hbr hbc;obtain⟨n,hn⟩:=qc Z.ns;rw[<-hn.out] at HI k1 hbrn hbcn;obtain⟨z,hz⟩:=qc Z.z;rw[<-hz.out] at HI hr;clear hz;obtain⟨ur,hur⟩:=qc (z br);obtain⟨uc,huc⟩:=qc (z bc);obtain⟨m,hm⟩:=qc B.m;rw[<-hm.out] at HB hmc;have hbr':(br:Int)<(n:Int):=by omega
 have hbc':(bc:Int)<(n:Int):=by omega
 obtain⟨bz,oz,rfl,hx⟩:=HI.out.addr (by omega);have p0:=hx br hbrn;have p1:=hx bc hbcn;rw[<-hur.out] at p0;rw[<-huc.out] at p1;have HP:=q_h (And.intro p0 p1);clear hx p0 p1;go_enter Tryz.func90,Tryz.ntmps90;go_upto_region 1 with (fail);refine kL ?_;intro w1 hE hsz B2 B3;rw[<-hn.out] at B2;obtain⟨g2,hg2⟩:=qc w.heap.size;rw[<-hg2.out] at B2 B3 ⊢;clear hg2 hsz;obtain⟨a0,a1,a2,-⟩:=cells3 B2;obtain⟨b0,b1,b2,-⟩:=cells3 B3;rw[<-hm.out] at b2;have p0:=hE.cell HP.out.1;refine jL [Mn.q (g2+1) 2,Mn.eq (.slice A m cA),Mn.i (m:Int),Mn.q g2 0,Mn.eq (.slice (some ⟨bz,oz,none⟩) n c1),Mn.q (g2+1) 0,Mn.i (br:Int),Mn.q bz (oz+br),Mn.i ur,Mn.t ((m:Int) != ur)] (sM [10,11,12,13,14,15,16,17,18,19]) [] (rQ 10 0) 0 (by kernel_rfl) ?_ ?_
 ·show ∀i,i<10->_
  iterate 10 refine fs ?_ ?_
  ·exact fz
  all_goals intro hl;clear hl;refine stp rfl ?_;intro ac wi eI hB hA K hK
  have o3:=oOf (hB 3) rfl;rotate_left;obtain⟨_,s10,rfl⟩:=hA 0 10;have cc0:=eI.cell b2;rotate_left;obtain⟨_,s11,rfl⟩:=hA 1 11;rotate_left;have o2:=oOf (hB 2) rfl;rotate_left;obtain⟨_,s13,rfl⟩:=hA 3 13;have cc0:=eI.cell a0;rotate_left;have o3:=oOf (hB 3) rfl;rotate_left;obtain⟨_,s15,rfl⟩:=hA 5 15;have cc0:=eI.cell b0;rotate_left;obtain⟨_,s14,rfl⟩:=hA 4 14;obtain⟨_,s16,rfl⟩:=hA 6 16;rotate_left;obtain⟨_,s17,rfl⟩:=hA 7 17;have cc0:=eI.cell p0;rotate_left;obtain⟨_,s12,rfl⟩:=hA 2 12;obtain⟨_,s18,rfl⟩:=hA 8 18;rotate_left
  all_goals clear hB hA;go_simp;exact q_k hK rfl
 intro vals wz eZ hJ;have J19:vals 9=_:=hJ 9 (by decide) (by decide);clear hJ;simp only[pr,Nat.reduceAdd,J19];clear J19;refine qg (by kernel_rfl) ?_ _;have hE1:=hE.trans eZ;replace B2:=eZ.block B2;replace B3:=eZ.block B3;clear a0 a1 a2 b0 b1 b2 p0 eZ hE;obtain⟨wA,hwA⟩:∃wA,wA=wz:=⟨_,rfl⟩
 subst hwA;obtain⟨a0,a1,a2,-⟩:=cells3 B2;obtain⟨b0,b1,b2,-⟩:=cells3 B3;rw[<-hm.out] at b2
 by_cases h1:(m:Int)=ur
 case neg =>
  have t1:((m:Int) != ur)=true:=by simpa using h1
  have HF:Hid (r=false):=by
   rw[Hid,hr.out];unfold wW;rw[HT.out.1,<-hm.out,<-hur.out,q_f h1,Bool.false_and]
  clear h1;go_wp2;go_ret;exact⟨qw HF.out.symm,hE1⟩
 have t1:((m:Int) != ur)=false:=by simpa using h1
 have HM1:=q_h h1;clear h1;go_wp2_with fail
 go_loopw [23] (fun iv wr=>∃i:Nat,i<=m/\iv=.int .i64 (i:Int)/\Ext wA wr/\Hid (∀j,j<i->(B.L j:Int)=uc)) (fun iv _=>m-(intOf iv).toNat)
 case atStart=>exact⟨0,Nat.zero_le _,rfl,Ext.refl _,fun j hj=>absurd hj (Nat.not_lt_zero j)⟩
 case round =>
  obtain⟨i,hi,rfl,hE2,HL⟩:=hrel;clear a0 a1 a2 b0 b1 b2;obtain⟨a0,a1,a2,-⟩:=cells3 (hE2.block B2);obtain⟨b0,b1,b2,-⟩:=cells3 (hE2.block B3);rw[<-hm.out] at b2;have p1:=(hE1.trans hE2).cell HP.out.2
  by_cases hlt:i<m
  case pos =>
   have t2:decide ((i:Int)<(m:Int))=true:=q_t (by omega);have t3:(i:Int)<(m:Int):=by omega
   obtain⟨bb,ob,A',c',rfl,q0,-,hLi⟩:=XA (HB.out.ext (hE1.trans hE2)) hlt;obtain⟨li,hli⟩:=qc (B.L i);rw[<-hli.out] at q0 hLi
   by_cases h2:(li:Int)=uc
   case neg =>
    have t4:((li:Int) != uc)=true:=by simpa using h2
    have HF:Hid (r=false):=by
     rw[Hid,hr.out];exact q5n (i:=i) (by rw[<-hm.out];exact hlt) (by rw[HT.out.2,<-huc.out,<-hli.out];exact h2)
    clear h2;go_wp2;go_ret;exact⟨qw HF.out.symm,hE1.trans hE2⟩
   have t4:((li:Int) != uc)=false:=by simpa using h2
   have HL2:Hid (∀j,j<i+1->(B.L j:Int)=uc):=fun j hj=>by
    by_cases hji:j=i
    ·rw[hji,<-hli.out];exact h2
    ·exact HL.out j (by omega)
   clear h2;go_wp2;go_roundw
   case rel=>exact⟨i+1,by omega,by go_num,hE2,HL2⟩
   case measure=>simp[intOf];omega
  have t2:decide ((i:Int)<(m:Int))=false:=q_f (by omega);have HLA:Hid (∀j,j<m->(B.L j:Int)=uc):=fun j hj=>HL.out j (by omega)
  clear HL p1;obtain⟨wB,hwB⟩:∃wB,wB=wr:=⟨_,rfl⟩
  subst hwB
  by_cases hrc:br=bc
  case neg =>
   have t5:((br:Int) != (bc:Int))=true:=by simp;omega
   have HF:Hid (r=true):=by
    rw[Hid,hr.out];exact Vr (by rw[HT.out.1,<-hm.out,<-hur.out];exact HM1.out) (fun j hj=>by rw[HT.out.2,<-huc.out];exact HLA.out j (by rw[hm.out];exact hj)) (fun h9=>absurd (HRC.out.1 h9) hrc)
   clear hrc;go_wp2;go_ret;exact⟨qw HF.out.symm,hE1.trans hE2⟩
  have t5:((br:Int) != (bc:Int))=false:=by simp[hrc]
  have HLM:Hid (∀j,j<m->B.L j=m):=fun j hj=>by
   have h1:=HLA.out j hj;rw[huc.out,<-hrc,<-hur.out,<-HM1.out] at h1;omega
  have HE12:=q_h (hE1.trans hE2);have HB2:=q_h (hE2.block B2);have HB3:=q_h (hE2.block B3)
  have HCR:Hid (∀i,i<m->∀j,j<m->B.A i j=raw (zl (B.A i j))):=fun i hi j hj=>by
   have h1:=ql.1 HCAN.out i (by rw[<-hm.out];exact hi);exact vG (ql.1 h1 j (by rw[HLM.out i hi];exact hj))
  have HSR:Hid (∀i,i<m->∀j,j<m->Sz (zl (B.A i j))):=fun i hi j hj=>HSZ.out i (by rw[<-hm.out];exact hi) j (by rw[HLM.out i hi];exact hj)
  have HRR:=q_h (HRC.out.2 hrc);clear hE1 hE2 B2 B3 HLA hrc hi;go_wp2_with fail
  go_loopw [45] (fun iv wr=>∃i:Nat,i<=m/\iv=.int .i64 (i:Int)/\Ext wB wr/\Hid (∀a,a<i->∀b,b<a->zl (B.A a b)=zl (B.A b a))) (fun iv _=>m-(intOf iv).toNat)
  case atStart=>exact⟨0,Nat.zero_le _,rfl,Ext.refl _,fun j hj=>absurd hj (Nat.not_lt_zero j)⟩
  case round =>
   obtain⟨i,hi,rfl,hE3,HA⟩:=hrel;clear a0 a1 a2 b0 b1 b2 t2;obtain⟨b0,b1,b2,-⟩:=cells3 (hE3.block HB3.out);rw[<-hm.out] at b2
   by_cases hlt:i<m
   case neg =>
    have t2:decide ((i:Int)<(m:Int))=false:=q_f (by omega)
    have HF:Hid (r=true):=by
     rw[Hid,hr.out]
     exact Vr (by rw[HT.out.1,<-hm.out,<-hur.out];exact HM1.out) (fun j hj=>by
      have h1:=HLM.out j (by rw[hm.out];exact hj);have h2:(m:Int)=ur:=HM1.out;have h3:br=bc:=HRC.out.1 HRR.out
      rw[h1,h2,hur.out,HT.out.2,h3]) (fun _ a ha b hb=>HA.out a (by rw[<-hm.out] at ha;omega) b hb)
    go_wp2;go_ret;exact⟨qw HF.out.symm,HE12.out.trans hE3⟩
   have t2:decide ((i:Int)<(m:Int))=true:=q_t (by omega);have t3:(i:Int)<(m:Int):=by omega
   obtain⟨bb,ob,Ai,ci,rfl,q0,hrow,-⟩:=XA (HB.out.ext (HE12.out.trans hE3)) hlt;rw[HLM.out i hlt] at q0 hrow;have HROW:=q_h hrow;obtain⟨wq,hwq⟩:∃wq,wq=wr:=⟨_,rfl⟩
   subst hwq;clear hrow;go_wp2_with fail
   go_loopw [51] (fun jv wr=>∃j:Nat,j<=i/\jv=.int .i64 (j:Int)/\Ext wq wr/\Hid (∀b,b<j->zl (B.A i b)=zl (B.A b i))) (fun jv _=>i-(intOf jv).toNat)
   case atStart=>exact⟨0,Nat.zero_le _,rfl,Ext.refl _,fun j hj=>absurd hj (Nat.not_lt_zero j)⟩
   case round =>
    obtain⟨j,hj,rfl,hE4,HJ⟩:=hrel;clear b0 b1 b2 q0;obtain⟨b0,b1,b2,-⟩:=cells3 ((hE3.trans hE4).block HB3.out);rw[<-hm.out] at b2
    by_cases hlt2:j<i
    case neg =>
     have t6:decide ((j:Int)<(i:Int))=false:=q_f (by omega)
     have HA2:Hid (∀a,a<i+1->∀b,b<a->zl (B.A a b)=zl (B.A b a)):=fun a ha b hb=>by
      by_cases hai:a=i
      ·rw[hai];exact HJ.out b (by omega)
      ·exact HA.out a (by omega) b hb
     go_wp2;go_roundw
     case rel=>exact⟨i+1,by omega,by go_num,hE3.trans hE4,HA2⟩
     case measure=>simp[intOf];omega
    have t6:decide ((j:Int)<(i:Int))=true:=q_t (by omega);have t7:(j:Int)<(m:Int):=by omega
    have hjm:j<m:=by omega
    obtain⟨bb',ob',Aj,cj,hbb,q1,hrow2,-⟩:=XA (HB.out.ext (HE12.out.trans (hE3.trans hE4))) hjm;simp only[Option.some.injEq,Addr.mk.injEq,and_true] at hbb;obtain⟨rfl,rfl⟩:=hbb;rw[HLM.out j hjm] at q1 hrow2;obtain⟨b1',o1',rfl,-,-,hx1⟩:=(HROW.out.ext hE4).addr (by omega);obtain⟨b2',o2',rfl,-,-,hx2⟩:=hrow2.addr (by omega);have h1:=hx1 j hjm;have h2:=hx2 i hlt;rw[HCR.out i hlt j hjm] at h1;rw[HCR.out j hjm i hlt] at h2;obtain⟨x,hx⟩:=qc (zl (B.A i j));obtain⟨y,hy⟩:=qc (zl (B.A j i));rw[<-hx.out] at h1;rw[<-hy.out] at h2;obtain⟨nx,A3,k3,c3',A4,k4,c4,p0,p1,p2,p3,hb1,g1,g3⟩:=h1.open;obtain⟨ny,A5,k5,c5,A6,k6,c6,r0,r1,r2,r3,hb2,g4,g5⟩:=h2.open;have hRp:zq N wr (.agg #[.bool nx,.slice A3 k3 c3',.bool false,.slice A4 k4 c4]) x:=zq.mk hb1 g1 g3;have hRr:zq N wr (.agg #[.bool ny,.slice A5 k5 c5,.bool false,.slice A6 k6 c6]) y:=zq.mk hb2 g4 g5;have HSX:Hid (Sz x/\Sz y):=⟨by rw[hx.out];exact HSR.out i hlt j hjm,by rw[hy.out];exact HSR.out j hjm i hlt⟩
    obtain⟨s,hs⟩:=qc (x.num*y.den-y.num*x.den).sign;obtain⟨wx,hwx⟩:∃wx,wx=wr:=⟨_,rfl⟩
    subst hwx;clear hx1 hx2 h1 h2 hb1 hb2 g1 g3 g4 g5 hrow2;go_upto_region 17 with (fail);refine jL [Mn.eq (.slice (some ⟨b1',o1',none⟩) m ci),Mn.i (j:Int),Mn.q (b1') (o1'+j*4),Mn.rat N (x),Mn.q (g2+1) 2,Mn.eq (.slice (some ⟨bb,ob,none⟩) m cA),Mn.i (j:Int),Mn.q bb (ob+j),Mn.eq (.slice (some ⟨b2',o2',none⟩) m cj),Mn.i (i:Int),Mn.q (b2') (o2'+i*4),Mn.rat N (y),Mn.i s,Mn.t (s != 0)] (sM [54,55,56,57,58,59,60,61,62,63,64,65,66,67]) [] (rQ 14 0) 0 (by kernel_rfl) ?_ ?_
    ·show ∀i,i<14->_
     iterate 14 refine fs ?_ ?_
     ·exact fz
     all_goals intro hl;clear hl;refine stp rfl ?_;intro ac wi eI hB hA K hK
     have o8:=oOf (hB 8) rfl;rotate_left;have o9:=oOf (hB 9) rfl;rotate_left;obtain⟨_,s54,rfl⟩:=hA 0 54;obtain⟨_,s55,rfl⟩:=hA 1 55;rotate_left;obtain⟨_,s56,rfl⟩:=hA 2 56;clear hB hA;have cc0:=eI.cell p0;have cc1:=eI.cell p1;have cc2:=eI.cell p2;have cc3:=eI.cell p3
     ·go_simp;exact q_k hK (hRp.ext eI)
     have o3:=oOf (hB 3) rfl;rotate_left;obtain⟨_,s58,rfl⟩:=hA 4 58;have cc0:=eI.cell b2;rotate_left;have o9:=oOf (hB 9) rfl;rotate_left;obtain⟨_,s59,rfl⟩:=hA 5 59;obtain⟨_,s60,rfl⟩:=hA 6 60;rotate_left;obtain⟨_,s61,rfl⟩:=hA 7 61;have cc0:=eI.cell q1;rotate_left;have o7:=oOf (hB 7) rfl;rotate_left;obtain⟨_,s62,rfl⟩:=hA 8 62;obtain⟨_,s63,rfl⟩:=hA 9 63;rotate_left;obtain⟨_,s64,rfl⟩:=hA 10 64;clear hB hA;have cc0:=eI.cell r0;have cc1:=eI.cell r1;have cc2:=eI.cell r2;have cc3:=eI.cell r3
     ·go_simp;exact q_k hK (hRr.ext eI)
     obtain⟨x57,s57,j57⟩:=hA 3 57;replace j57:Mn.p (Mn.rat N (x)) x57 wi:=j57;obtain⟨x65,s65,j65⟩:=hA 11 65;replace j65:Mn.p (Mn.rat N (y)) x65 wi:=j65;clear hB hA
     ·go_simp;refine (q28 j57 j65 HSX.out.1 HSX.out.2).mono ?_;rw[<-hs.out];rintro e wj ⟨rfl,ej⟩;go_wp2_with fail;exact hK.out _ _ ej rfl
     obtain⟨_,s66,rfl⟩:=hA 12 66;rotate_left
     all_goals clear hB hA;go_simp;exact q_k hK rfl
    intro vals wz eZ hJ;have J67:vals 13=_:=hJ 13 (by decide) (by decide);clear hJ;simp only[pr,Nat.reduceAdd,J67];clear J67;refine qg (by kernel_rfl) ?_ _;have hE5:=hE4.trans eZ;clear p0 p1 p2 p3 r0 r1 r2 r3 hRp hRr q1 b0 b1 b2 eZ
    by_cases h3:s=0
    case neg =>
     have t8:(s != 0)=true:=by simpa using h3
     have HF:Hid (r=false):=by
      rw[Hid,hr.out];exact q5m (i:=i) (j:=j) (by rw[<-hm.out];exact hlt) hlt2 HRR.out (fun h9=>h3 (by rw[hs.out];exact KT.2 (by rw[hx.out,hy.out];exact h9)))
     clear h3;go_wp2;go_ret;exact⟨qw HF.out.symm,HE12.out.trans (hE3.trans hE5)⟩
    have t8:(s != 0)=false:=by simpa using h3
    have HJ2:Hid (∀b,b<j+1->zl (B.A i b)=zl (B.A b i)):=fun b hb=>by
     by_cases hbj:b=j
     ·rw[hbj,<-hx.out,<-hy.out];exact KT.1 (by rw[<-hs.out];exact h3)
     ·exact HJ.out b (by omega)
    clear h3;go_wp2;go_roundw
    case rel=>exact⟨j+1,by omega,by go_num,hE5,HJ2⟩
    case measure=>simp[intOf];omega
end Go.Proofs.YtpkmjhmmmdkodaaGreat
