import Derived.Test.YtpkmjhmmmdkodaaGreatWb30
set_option linter.all false
set_option maxHeartbeats 8000000
set_option maxRecDepth 100000
namespace Go.Proofs.YtpkmjhmmmdkodaaGreat
open Go.RowKit
variable {w w':World} {N n lo hi k g base c b:Nat} {v:Value}
section
variable {ET:TypeId}{base:Nat}{w w':World}{v:Value}{xs:List Value}
theorem zl.empty(hb:base<=g) (h:w.heap[g]?=some (.cells #[] ET (0,0))):zl ET base w (.slice (some ⟨g,0,none⟩) 0 0) [] :=
 ⟨by have:=qG h;omega,by simp,.inr ⟨g,0,#[],rfl,hb,h,q_r,Nat.zero_le _,rfl,rfl⟩⟩
end
section
variable {ET:TypeId}{k:Nat}{z0:Value}{bz:Nat}
theorem zH.empty(hb:base<=g) (h:w.heap[g]?=some (.cells #[] ET (0,0))):zH ET k base w (.slice (some ⟨g,0,none⟩) 0 0) 0 [] :=
 ⟨by have:=qG h;omega,by simp,.inr ⟨g,0,#[],rfl,hb,h,q_r,Nat.zero_le _,by simp,by simp⟩⟩
end
def inP (l:List (Nat×Nat)) (a c:Nat):Bool:=xg l.length fun t=>(decide ((l[t]?.getD (0,0)).1=a)&&decide ((l[t]?.getD (0,0)).2=c))||(decide ((l[t]?.getD (0,0)).1=c)&&decide ((l[t]?.getD (0,0)).2=a))
theorem q8h {l:List (Nat×Nat)}{a:Nat}:inP l a c=true↔(a,c)∈l\/(c,a)∈l:=by
 unfold inP xg;simp only[List.any_eq_true,List.mem_range,Bool.or_eq_true,Bool.and_eq_true,decide_eq_true_eq]
 constructor
 ·rintro⟨t,ht,h⟩;rw[List.getElem?_eq_getElem ht,Option.getD_some] at h;have hm:=List.getElem_mem ht
  rcases h with ⟨h1,h2⟩ | ⟨h1,h2⟩
  ·left;rw[<-h1,<-h2];exact hm
  ·right;rw[<-h1,<-h2];exact hm
 ·rintro (h | h)
  ·obtain⟨t,ht,e⟩:=List.getElem_of_mem h;exact⟨t,ht,by rw[List.getElem?_eq_getElem ht,Option.getD_some,e];exact .inl ⟨rfl,rfl⟩⟩
  ·obtain⟨t,ht,e⟩:=List.getElem_of_mem h;exact⟨t,ht,by rw[List.getElem?_eq_getElem ht,Option.getD_some,e];exact .inr ⟨rfl,rfl⟩⟩
theorem q8f{u:Value}{Z:Sys}{l:List (Nat×Nat)}(h:wS N lo hi w v Z) (hu:PrV w u l) (a c:Nat) :
  Calls Tryz.prog 84 #[v,u,.int .i64 (a:Int),.int .i64 (c:Int)] w (zG w (.bool (jw Z Z.nb a c||inP l a c))):=by
 obtain⟨Q,hQ⟩:=qc (zG w (.bool (jw Z Z.nb a c||inP l a c)));rw[<-hQ.out];have HED:=fun (w':World) (e:Ext w w')=>rf_Edges (h.ext e) a c
 have HED':=q_h HED;have HP:=q_h hu;obtain⟨A1,c1,A2,c2,A3,c3,rfl,s1,s2,s3,k1,k2,k3⟩:=h.parts;obtain⟨A4,c4,rfl,hnc,hcn,-⟩:=hu;unfold maxLen at hcn;obtain⟨n,hn⟩:=qc l.length;rw[<-hn.out] at hnc HP ⊢;clear h s1 s2 s3 HED;go_enter Tryz.func84,Tryz.ntmps84;go_upto_region 1 with (fail);refine qp ?_;intro W hE hsz B0;obtain⟨a0,a1,a2,-⟩:=cells3 B0;go_wp2_with (go_at_call 28;refine q_o ?_);refine (HED'.out _ hE).mono ?_;rintro e w3 ⟨rfl,e3⟩;have HEW:Hid (Ext w w3):=hE.trans e3;clear a0 a1 a2 B0 hsz hE HED' e3;obtain⟨r,hr⟩:=qc (jw Z Z.nb a c);rw[<-hr.out] at hQ ⊢;cases r with
 | true =>
  rw[Bool.true_or] at hQ;go_wp2
  first | go_ret | skip
  rw[hQ.out];exact⟨rfl,HEW.out⟩
 | false =>
 rw[Bool.false_or] at hQ;obtain⟨w1,hw1⟩:∃ w1,w1=w3:=⟨_,rfl⟩
 subst hw1;go_wp2_with fail
 go_loopw [9] (fun iv wr=>∃ i:Nat,i<=n/\iv=.int .i64 (i:Int)/\Hid (∀ j,j<i->((decide ((l[j]?.getD (0,0)).1=a)&&decide ((l[j]?.getD (0,0)).2=c))||(decide ((l[j]?.getD (0,0)).1=c)&&decide ((l[j]?.getD (0,0)).2=a)))=false)/\wr=w1) (fun iv _=>n - (intOf iv).toNat)
 case atStart=>exact⟨0,Nat.zero_le _,rfl,fun j hj=>absurd hj (Nat.not_lt_zero j),rfl⟩
 case round =>
  obtain⟨i,hi9,rfl,HA,rfl⟩:=hrel
  by_cases hlt:i<n
  case neg =>
   have t1:decide ((i:Int)<(n:Int))=false:=q_f (by omega);obtain rfl:n=i:=by omega
   have HF:Hid (inP l a c=false):=zO.2 (by rw[<-hn.out];exact HA.out);go_wp2
   first | go_ret | skip
   rw[hQ.out,HF.out];exact⟨rfl,HEW.out⟩
  have t1:decide ((i:Int)<(n:Int))=true:=q_t (by omega);have t2:(i:Int)<(n:Int):=by omega
  have hP9:=HP.out;rw[hn.out] at hP9;obtain⟨g,c9,hv9,hc9,p0,p1⟩:=PrV.at2 (hP9.ext HEW.out) (i:=i) (by rw[<-hn.out];exact hlt);simp only[Value.slice.injEq] at hv9;obtain⟨rfl,-,rfl⟩:=hv9;obtain⟨x,hx⟩:=qc (l[i]?.getD (0,0)).1;obtain⟨y,hy⟩:=qc (l[i]?.getD (0,0)).2;rw[<-hx.out] at p0;rw[<-hy.out] at p1
  have HTT:Hid ((x=a/\y=c)\/(x=c/\y=a)->inP l a c=true):=fun h9=>by
   refine je (i:=i) (by rw[<-hn.out];exact hlt) ?_;rw[Bool.or_eq_true,Bool.and_eq_true,Bool.and_eq_true,decide_eq_true_eq,decide_eq_true_eq,decide_eq_true_eq,decide_eq_true_eq,<-hx.out,<-hy.out];exact h9
  have HNN:Hid (¬ ((x=a/\y=c)\/(x=c/\y=a))->∀ j,j<i+1->((decide ((l[j]?.getD (0,0)).1=a)&&decide ((l[j]?.getD (0,0)).2=c))||(decide ((l[j]?.getD (0,0)).1=c)&&decide ((l[j]?.getD (0,0)).2=a)))=false):=fun h9 j hj=>by
   by_cases hji:j=i
   ·rw[hji,<-hx.out,<-hy.out,Bool.eq_false_iff];intro h8;rw[Bool.or_eq_true,Bool.and_eq_true,Bool.and_eq_true,decide_eq_true_eq,decide_eq_true_eq,decide_eq_true_eq,decide_eq_true_eq] at h8;exact h9 h8
   ·exact HA.out j (by omega)
  clear hP9 HA;have HX:∀ p q:Nat,p=q->((p:Int) == (q:Int))=true:=fun p q h=>by simp[h]
  have HY:∀ p q:Nat,¬ p=q->((p:Int) == (q:Int))=false:=fun p q h=>by simp;omega
  by_cases h1:x=a
  ·have u1:=HX _ _ h1
   by_cases h2:y=c
   ·have u2:=HX _ _ h2;have HN:=q_h (HTT.out (.inl ⟨h1,h2⟩));clear h1 h2 HX HY;go_wp2
    first | go_ret | skip
    rw[hQ.out,HN.out];exact⟨rfl,HEW.out⟩
   have u2:=HY _ _ h2
   by_cases h3:x=c
   ·have u3:=HX _ _ h3
    by_cases h4:y=a
    ·have u4:=HX _ _ h4;have HN:=q_h (HTT.out (.inr ⟨h3,h4⟩));clear h1 h2 h3 h4 HX HY;go_wp2
     first | go_ret | skip
     rw[hQ.out,HN.out];exact⟨rfl,HEW.out⟩
    have u4:=HY _ _ h4;have HN:=q_h (HNN.out (by omega));clear h1 h2 h3 h4 HX HY;go_wp2;go_roundw
    case rel=>exact⟨i+1,by omega,by go_num,HN,by first | rfl | trivial⟩
    case measure=>simp[intOf];omega
   have u3:=HY _ _ h3;have HN:=q_h (HNN.out (by omega));clear h1 h2 h3 HX HY;go_wp2;go_roundw
   case rel=>exact⟨i+1,by omega,by go_num,HN,by first | rfl | trivial⟩
   case measure=>simp[intOf];omega
  have u1:=HY _ _ h1
  by_cases h3:x=c
  ·have u3:=HX _ _ h3
   by_cases h4:y=a
   ·have u4:=HX _ _ h4;have HN:=q_h (HTT.out (.inr ⟨h3,h4⟩));clear h1 h3 h4 HX HY;go_wp2
    first | go_ret | skip
    rw[hQ.out,HN.out];exact⟨rfl,HEW.out⟩
   have u4:=HY _ _ h4;have HN:=q_h (HNN.out (by omega));clear h1 h3 h4 HX HY;go_wp2;go_roundw
   case rel=>exact⟨i+1,by omega,by go_num,HN,by first | rfl | trivial⟩
   case measure=>simp[intOf];omega
  have u3:=HY _ _ h3;have HN:=q_h (HNN.out (by omega));clear h1 h3 HX HY;go_wp2;go_roundw
  case rel=>exact⟨i+1,by omega,by go_num,HN,by first | rfl | trivial⟩
  case measure=>simp[intOf];omega
end Go.Proofs.YtpkmjhmmmdkodaaGreat
namespace Go.Proofs.YtpkmjhmmmdkodaaGreat
variable {w w':World} {N n lo hi k g base c b:Nat} {v:Value}
def stepJ (J:Nat->Nat->Bool) (d:Nat->Bool) (o a b:Nat):Bool:=J a b||(!d a && !d b&&J a o&&J b o&&a != b)
def q8m:(Nat->Nat->Bool)->List Nat->List Nat->Nat->Nat->Bool
 | J,_,[]=>J
 | J,d,o :: l=>q8m (stepJ J (fun u=>(o :: d).contains u) o) (o :: d) l
theorem q8c:∀ (l d:List Nat) (J G:Nat->Nat->Bool),GrS G->(∀ a b,d.contains a=false->d.contains b=false->J a b=G a b)->(∀ o,o∈l->d.contains o=false)->l.Nodup->∀ a b,d.contains a=false->d.contains b=false->l.contains a=false->l.contains b=false->q8m J d l a b=elimL G l a b
 | [],d,J,G,_,h,_,_,a,b,ha,hb,_,_=>h a b ha hb
 | o :: l,d,J,G,hG,h,hl,hn,a,b,ha,hb,ha',hb'=>by
  have hno:=List.nodup_cons.1 hn;have hod:=hl o (by simp);have ha2:a≠o/\l.contains a=false:=by simpa using ha'
  have hb2:b≠o/\l.contains b=false:=by simpa using hb'
  have hc:∀ u,(o :: d).contains u=false->u≠o/\d.contains u=false:=fun u hu=>by simpa using hu
  refine q8c l (o :: d) _ (Y6 G o) (hG.elim o) (fun x y hx hy=>?_) (fun u hu=>?_) hno.2 a b ?_ ?_ ha2.2 hb2.2
  ·obtain⟨x1,x2⟩:=hc x hx;obtain⟨y1,y2⟩:=hc y hy;unfold stepJ Y6;rw[h x y x2 y2,h x o x2 hod,h y o y2 hod,hG.symm o x,hG.symm o y];have e1:(x != o)=true:=by simpa using x1
   have e2:(y != o)=true:=by simpa using y1
   simp only[hx,hy,e1,e2,Bool.not_false,Bool.true_and,Bool.and_true]
  ·have h1:=hl u (by simp[hu]);have h2:u≠o:=fun e=>hno.1 (by rw[<-e];exact hu)
   simp only[List.contains_cons,Bool.or_eq_false_iff];exact⟨by simpa using h2,h1⟩
  ·simp only[List.contains_cons,Bool.or_eq_false_iff];exact⟨by simpa using ha2.1,ha⟩
  ·simp only[List.contains_cons,Bool.or_eq_false_iff];exact⟨by simpa using hb2.1,hb⟩
end Go.Proofs.YtpkmjhmmmdkodaaGreat
namespace Go.Proofs.YtpkmjhmmmdkodaaGreat
open Go.RowKit
variable {w w':World} {N n lo hi k g base c b:Nat} {v:Value}
theorem PrV.chg{l:List (Nat×Nat)}{a:Nat}(h:PrV w v l) (hb:∀ k,v.ownBlock=some k->k<g) (C:Chg a b w w') (ha:g<=a):PrV w' v l:=by
 obtain⟨A,c,rfl,h1,h2,h3⟩:=h;refine⟨A,c,rfl,h1,h2,fun h0=>?_⟩;obtain⟨g',rfl,hx⟩:=h3 h0;exact⟨g',rfl,fun j u hj=>C.cell (hx j u hj) (.inl (by have:=hb g' rfl;show g' < a;omega))⟩
def bfP (a b p q:Nat):Bool:=decide (p<a)||(decide (p=a)&&decide (q<b))
def q8a (J:Nat->Nat->Bool) (d:Nat->Bool) (o a b x y:Nat):Bool:=J x y||(bfP a b (min x y) (max x y)&&(!d x && !d y&&J x o&&J y o&&x != y))
section
variable {J:Nat->Nat->Bool}{d:Nat->Bool}{o a b x y ns:Nat}
theorem q8N (h:x=y):(x != y)=false:=by simp[h]
theorem q8e (h:x=y):q8a J d o a b x y=J x y:=by unfold q8a;rw[q8N h,Bool.and_false,Bool.and_false,Bool.or_false]
theorem q8A {a' b':Nat}(h:x≠y->bfP a b (min x y) (max x y)=bfP a' b' (min x y) (max x y)):q8a J d o a b x y=q8a J d o a' b' x y:=by
 by_cases hxy:x=y
 ·rw[q8e hxy,q8e hxy]
 ·unfold q8a;rw[h hxy]
theorem q89 {a p q:Nat}:bfP a b p q=true↔p<a\/(p=a/\q<b):=by unfold bfP;simp
theorem q8D {a a' b' p q:Nat}(h:(p<a\/(p=a/\q<b))↔(p<a'\/(p=a'/\q<b'))):bfP a b p q=bfP a' b' p q:=by rw[Bool.eq_iff_iff,q89,q89];exact h
theorem q8n:q8a J d o 0 1 x y=J x y:=by
 by_cases hxy:x=y
 ·exact q8e hxy
 ·have h1:bfP 0 1 (min x y) (max x y)=false:=by rw[Bool.eq_false_iff];intro h;have:=q89.1 h;omega
  unfold q8a;rw[h1,Bool.false_and,Bool.or_false]
theorem q8I (hx:x<ns) (hy:y<ns):q8a J d o a ns x y=q8a J d o (a+1) (a+2) x y:=q8A fun _=>q8D (by omega)
theorem q8w (hx:x<ns) (hy:y<ns):q8a J d o ns (ns+1) x y=stepJ J d o x y:=by
 have h1:bfP ns (ns+1) (min x y) (max x y)=true:=q89.2 (by omega);unfold q8a stepJ;rw[h1,Bool.true_and]
theorem q8L (hd:d o=true):q8a J d o a b x o=J x o:=by
 unfold q8a;rw[hd,Bool.not_true,Bool.and_false,Bool.false_and,Bool.false_and,Bool.false_and,Bool.and_false,Bool.or_false]
theorem q8j (hab:a<b):q8a J d o a b a b=J a b:=by
 have h1:bfP a b (min a b) (max a b)=false:=by rw[Bool.eq_false_iff];intro h;have:=q89.1 h;omega
 unfold q8a;rw[h1,Bool.false_and,Bool.or_false]
theorem q8B (hab:a<b):q8a J d o a (b+1) a b=(J a b||(!d a && !d b&&J a o&&J b o)):=by
 have h1:bfP a (b+1) (min a b) (max a b)=true:=q89.2 (by omega);have h2:(a != b)=true:=by simp;omega
 unfold q8a;rw[h1,h2,Bool.true_and,Bool.and_true]
theorem q8p (hab:a<b) (hJ:∀ x y,J x y=J y x):q8a J d o a (b+1) b a=(J a b||(!d a && !d b&&J a o&&J b o)):=by
 have h1:bfP a (b+1) (min b a) (max b a)=true:=q89.2 (by omega);have h2:(b != a)=true:=by simp;omega
 unfold q8a;rw[h1,h2,Bool.true_and,Bool.and_true,hJ b a];cases d a <;> cases d b <;> cases J a o <;> cases J b o <;> rfl
theorem q8o (hab:a<b) (hJ:∀ x y,J x y=J y x):q8a J d o a b b a=J a b:=by
 have h1:bfP a b (min b a) (max b a)=false:=by rw[Bool.eq_false_iff];intro h;have:=q89.1 h;omega
 unfold q8a;rw[h1,Bool.false_and,Bool.or_false,hJ]
theorem q8k (hab:a<b) (h1:¬ (x=a/\y=b)) (h2:¬ (x=b/\y=a)):q8a J d o a (b+1) x y=q8a J d o a b x y:=q8A fun _=>q8D (by omega)
theorem q8M (hJ:∀ x y,J x y=J y x) (hab:a<b) (h:(!d a && !d b&&J a o&&J b o && !J a b)=false):q8a J d o a (b+1) x y=q8a J d o a b x y:=by
 have h3:(J a b||(!d a && !d b&&J a o&&J b o))=J a b:=by
  cases hj:J a b with
  | true=>rfl
  | false=>rw[hj,Bool.not_false,Bool.and_true] at h;rw[h];rfl
 by_cases h1:x=a/\y=b
 ·obtain⟨rfl,rfl⟩:=h1;rw[q8B hab,q8j hab,h3]
 ·by_cases h2:x=b/\y=a
  ·obtain⟨rfl,rfl⟩:=h2;rw[q8p hab hJ,q8o hab hJ,h3]
  ·exact q8k hab h1 h2
theorem q8H (hJ:∀ x y,J x y=J y x) (hab:a<b) (h:(!d a && !d b&&J a o&&J b o && !J a b)=true):q8a J d o a (b+1) x y=(q8a J d o a b x y||((decide (x=a)&&decide (y=b))||(decide (x=b)&&decide (y=a)))):=by
 rw[Bool.and_eq_true] at h;have h3:(J a b||(!d a && !d b&&J a o&&J b o))=true:=by rw[h.1,Bool.or_true]
 by_cases h1:x=a/\y=b
 ·obtain⟨rfl,rfl⟩:=h1;rw[q8B hab,h3,decide_eq_true rfl,decide_eq_true rfl]
  simp
 ·by_cases h2:x=b/\y=a
  ·obtain⟨rfl,rfl⟩:=h2;rw[q8p hab hJ,h3,decide_eq_true rfl,decide_eq_true rfl]
   simp
  ·rw[q8k hab h1 h2];have e1:(decide (x=a)&&decide (y=b))=false:=by rw[Bool.eq_false_iff];intro h9;rw[Bool.and_eq_true,decide_eq_true_eq,decide_eq_true_eq] at h9;exact h1 h9
   have e2:(decide (x=b)&&decide (y=a))=false:=by rw[Bool.eq_false_iff];intro h9;rw[Bool.and_eq_true,decide_eq_true_eq,decide_eq_true_eq] at h9;exact h2 h9
   rw[e1,e2,Bool.or_false,Bool.or_false]
end
theorem q8x (l:List (Nat×Nat)) (a b x y:Nat):inP (l ++ [(a,b)]) x y=(inP l x y||((decide (x=a)&&decide (y=b))||(decide (x=b)&&decide (y=a)))):=by
 rw[Bool.eq_iff_iff,Bool.or_eq_true,q8h,q8h,Bool.or_eq_true,Bool.and_eq_true,Bool.and_eq_true,decide_eq_true_eq,decide_eq_true_eq,decide_eq_true_eq,decide_eq_true_eq];simp only[List.mem_append,List.mem_singleton,Prod.mk.injEq]
 constructor
 ·rintro ((h | h) | (h | h))
  ·exact .inl (.inl h)
  ·exact .inr (.inl h)
  ·exact .inl (.inr h)
  ·exact .inr (.inr ⟨h.2,h.1⟩)
 ·rintro ((h | h) | (h | h))
  ·exact .inl (.inl h)
  ·exact .inr (.inl h)
  ·exact .inl (.inr h)
  ·exact .inr (.inr ⟨h.2,h.1⟩)
theorem q8b:∀ (l d:List Nat) (J:Nat->Nat->Bool) (o:Nat),q8m J d (l ++ [o])=stepJ (q8m J d l) (fun u=>(o :: (l.reverse++d)).contains u) o
 | [],d,J,o=>rfl
 | x :: l,d,J,o=>by
  show q8m (stepJ J _ x) (x :: d) (l ++ [o])=_
  rw[q8b l (x :: d),List.reverse_cons,List.append_assoc]
  rfl
def q88 (G:Nat->Nat->Bool) (o:Nat->Nat) (k:Nat):Nat->Nat->Bool:=q8m G [] ((List.range k).map o)
def dK (o:Nat->Nat) (k u:Nat):Bool:=xg k fun t=>decide ((o t:Int)=(u:Int))
theorem q8C {o:Nat->Nat}{u:Nat}:dK o k u=true↔∃ t,t<k/\o t=u:=by
 unfold dK xg;simp only[List.any_eq_true,List.mem_range,decide_eq_true_eq]
 constructor
 ·rintro⟨t,ht,h⟩;exact⟨t,ht,by omega⟩
 ·rintro⟨t,ht,h⟩;exact⟨t,ht,by omega⟩
theorem q8i (G:Nat->Nat->Bool) (o:Nat->Nat) (k:Nat):q88 G o (k+1)=stepJ (q88 G o k) (dK o (k+1)) (o k):=by
 unfold q88;rw[q6P,q8b]
 congr 1
 funext u
 rw[Bool.eq_iff_iff,q8C,List.contains_iff_mem];simp only[List.append_nil,List.mem_cons,List.mem_reverse,List.mem_map,List.mem_range]
 constructor
 ·rintro (h | ⟨t,ht,h⟩)
  ·exact⟨k,by omega,h.symm⟩
  ·exact⟨t,by omega,h⟩
 ·rintro⟨t,ht,h⟩
  by_cases htk:t=k
  ·exact .inl (by rw[<-h,htk])
  ·exact .inr ⟨t,by omega,h⟩
theorem q8t {G:Nat->Nat->Bool}(hG:GrS G) (o:Nat->Nat):∀ k x y,q88 G o k x y=q88 G o k y x
 | 0,x,y=>hG.symm x y
 | k+1,x,y=>by
  rw[q8i];unfold stepJ;rw[q8t hG o k x y,show (x != y)=(y != x) from bne_comm];cases dK o (k+1) x <;> cases dK o (k+1) y <;> cases q88 G o k x (o k) <;> cases q88 G o k y (o k) <;> rfl
def q8y (w:World) (l:List (Nat×Nat)) (e:Ending) (w':World):Prop:=∃ v,e=.returned v/\PrV w' v l/\Ext w w'
theorem q8E {lo' hi':Nat}{u:Value}{Z:Sys}(h:wS N lo hi w v Z) (hns:Z.ns<=12){o:Nat->Nat}(hu:IxV N lo' hi' w u n Z.ns o) (hn:n<=12) :
  Calls Tryz.prog 83 #[v,u] w (q8y w (rfL (fun a b=>q88 (jw Z Z.nb) o n a b && !jw Z Z.nb a b) Z.ns Z.ns)):=by
 obtain⟨G,hG⟩:=qc (jw Z Z.nb);have HGS:Hid (GrS G):=by rw[hG.out];exact edg_grs Z Z.nb
 rw[<-hG.out];obtain⟨Q,hQ⟩:=qc (q8y w (rfL (fun a b=>q88 G o n a b && !G a b) Z.ns Z.ns));rw[<-hQ.out];have HU:=q_h hu.1;have HO:=q_h hu.2
 have HJC:Hid (∀ w',Ext w w'->∀ (l:List (Nat×Nat)) (r:Value),PrV w' r l->∀ a c:Nat,Calls Tryz.prog 84 #[v,r,.int .i64 (a:Int),.int .i64 (c:Int)] w' (zG w' (.bool (G a c||inP l a c)))):=fun w' e l r hr a c=>by
  rw[hG.out];exact q8f (h.ext e) hr a c
 have HED:Hid (∀ w',Ext w w'->∀ a c:Nat,Calls Tryz.prog 28 #[v,.int .i64 (a:Int),.int .i64 (c:Int)] w' (zG w' (.bool (G a c)))):=fun w' e a c=>by
  rw[hG.out];exact rf_Edges (h.ext e) a c
 obtain⟨A1,c1,A2,c2,A3,c3,rfl,s1,s2,s3,k1,k2,k3⟩:=h.parts;obtain⟨A4,c4,rfl,hnc,hcn⟩:=hu.1.form;unfold maxLen at hcn;obtain⟨ns,hnsE⟩:=qc Z.ns;rw[<-hnsE.out] at hns HO HJC HED hQ ⊢;clear h hu s1 s2 s3 k1;go_enter Tryz.func83,Tryz.ntmps83;go_upto_region 2 with (fail);refine kL ?_;intro W hE hsz B0 B1;obtain⟨g0,hg0⟩:=qc w.heap.size;have hgw:w.heap.size<=g0:=by rw[hg0.out];exact q_r
 rw[<-hg0.out] at B0 B1 hsz ⊢;have HB0:=q_h B0;have HEW:=q_h hE;have HG0:Hid (zH 69 2 (g0+1) W (.slice (some ⟨g0+1,0,none⟩) ([]:List (Nat×Nat)).length 0) ([]:List (Nat×Nat)).length (prv [])):=zH.empty (q_r) B1
 have HJ0:Hid (∀ x y,x<ns->y<ns->(G x y||inP [] x y)=q88 G o 0 x y):=fun x y _ _=>by
  show (G x y||false)=G x y
  exact Bool.or_false _
 obtain⟨w1,hw1⟩:∃ w1,w1=W:=⟨_,rfl⟩
 subst hw1;clear hg0 B0 B1 hE;go_wp2_with fail
 go_loopw [6,5] (fun iv pv wr=>∃ (k:Nat) (lp:List (Nat×Nat)) (Ap:Option Addr) (cp:Nat),k<=n/\iv=.int .i64 (k:Int)/\pv=.slice Ap lp.length cp/\lp.length<=144*k/\Hid (zH 69 2 (g0+1) wr (.slice Ap lp.length cp) lp.length (prv lp))/\Hid (∀ x y,x<ns->y<ns->(G x y||inP lp x y)=q88 G o k x y)/\Hid (wr.heap[g0]?=some (.cells #[.slice A1 ns c1,.slice A2 Z.nb c2,.slice A3 Z.k c3] 26 (0,0)))/\Hid (Ext w wr)) (fun iv _ _=>n - (intOf iv).toNat)
 case atStart=>exact⟨0,[],_,0,Nat.zero_le _,rfl,rfl,Nat.zero_le _,HG0,HJ0,HB0,HEW⟩
 case round =>
  clear HG0 HJ0 HB0 HEW hsz;obtain⟨k,lp,Ap,cp,hk9,rfl,rfl,hlp,HGP,HJ,HB,HEr⟩:=hrel
  by_cases hlt:k<n
  case neg =>
   have t1:decide ((k:Int)<(n:Int))=false:=q_f (by omega);obtain rfl:n=k:=by omega
   have HP:Hid (PrV wr (.slice Ap lp.length cp) lp):=zH.prs HGP.out;obtain⟨H,hH⟩:=qc (fun a b=>q88 G o n a b && !G a b);have HHA:Hid (∀ x y,x<ns->y<ns->H x y=((G x y||inP lp x y) && !G x y)):=fun x y hx hy=>by rw[hH.out,HJ.out x y hx hy]
   have HQ9:Hid (Q=q8y w (rfL H ns ns)):=by rw[Hid,hQ.out,hH.out]
   have HOB0:=q_h HGP.out.own_lt;clear HGP HJ hlt;go_upto_region 14 with (fail);refine qp ?_;intro W2 e2 hsz2 BE;obtain⟨g2,hg2⟩:=qc wr.heap.size;have hg2r:wr.heap.size<=g2:=by rw[hg2.out];exact q_r
   have hg2g:g0<g2:=by have:=qG HB.out;omega
   have hg2w:w.heap.size<=g2:=by omega
   rw[<-hg2.out] at BE ⊢;have HOB:Hid (∀ k,(Value.slice Ap lp.length cp).ownBlock=some k->k<g2):=fun k hk=>by rw[hg2.out];exact (HOB0.out k hk).2
   have HPN:=q_h (HP.out.ext e2);have HBN:=q_h (e2.block HB.out);have HEN:Hid (Ext w W2):=HEr.out.trans e2;have HOU:Hid (zH 69 2 g2 W2 (.slice (some ⟨g2,0,none⟩) (rfL H ns 0).length 0) (rfL H ns 0).length (prv (rfL H ns 0))):=zH.empty (q_r) BE;have hW2:W2.heap.size=W2.heap.size:=rfl;have HCN:Hid (Chg g2 g2 W2 W2/\g2<W2.heap.size):=⟨Chg.refl _ _ _,qG BE⟩
   obtain⟨w2,hw2⟩:∃ w2,w2=W2:=⟨_,rfl⟩
   subst hw2;clear HP HB HEr e2 hsz2 BE hg2 hW2 HOB0;go_wp2_with fail
   go_loopw [10,9] (fun iv ov wr=>∃ (a:Nat) (Ao:Option Addr) (co:Nat),a<=ns/\iv=.int .i64 (a:Int)/\ov=.slice Ao (rfL H ns a).length co/\Hid (zH 69 2 g2 wr (.slice Ao (rfL H ns a).length co) (rfL H ns a).length (prv (rfL H ns a)))/\Hid (PrV wr (.slice Ap lp.length cp) lp)/\Hid (wr.heap[g0]?=some (.cells #[.slice A1 ns c1,.slice A2 Z.nb c2,.slice A3 Z.k c3] 26 (0,0)))/\Hid (Ext w wr)) (fun iv _ _=>ns - (intOf iv).toNat)
   case atStart=>exact⟨0,_,0,Nat.zero_le _,rfl,rfl,HOU,HPN,HBN,HEN⟩
   case round =>
    clear HOU HPN HBN HEN HCN;obtain⟨a,Ao,co,ha9,rfl,rfl,HGO,HP,HB,HEr⟩:=hrel;obtain⟨a0,a1,a2,-⟩:=cells3 HB.out
    by_cases hla:a<ns
    case neg =>
     have t2:decide ((a:Int)<(ns:Int))=false:=q_f (by omega);obtain rfl:ns=a:=by omega
     have HPO:Hid (PrV wr (.slice Ao (rfL H ns ns).length co) (rfL H ns ns)):=zH.prs HGO.out;go_wp2
     first | go_ret | skip
     rw[HQ9.out];exact⟨_,rfl,HPO.out,HEr.out⟩
    have t2:decide ((a:Int)<(ns:Int))=true:=q_t (by omega);have t3:IntKind.i64.wrap ((a:Int)+1)=((a+1:Nat):Int):=by rw[wrp (by omega) (by omega)];omega
    obtain⟨l0,hl0⟩:=qc (rfL H ns a);rw[<-hl0.out] at HGO ⊢;have hl0l:l0.length<=12*a:=by rw[hl0.out];exact q5w H hns a
    have HGO':Hid (zH 69 2 g2 wr (.slice Ao (l0++rfR H a (a+1)).length co) (l0++rfR H a (a+1)).length (prv (l0++rfR H a (a+1)))):=by
     rw[rfR_self,List.append_nil];exact HGO.out
    have HL0:Hid (l0.length=(l0++rfR H a (a+1)).length):=by rw[rfR_self,List.append_nil];rfl
    obtain⟨wq,hwq⟩:∃ wq,wq=wr:=⟨_,rfl⟩
    subst hwq;have HP1:=HP;have HB1:=HB;have HE1:=HEr;clear HGO HP HB HEr;go_wp2_with fail
    go_loopw [11,9] (fun iv ov wr=>∃ (b:Nat) (Ao:Option Addr) (co:Nat),a<b/\b<=ns/\iv=.int .i64 (b:Int)/\ov=.slice Ao (l0++rfR H a b).length co/\Hid (zH 69 2 g2 wr (.slice Ao (l0++rfR H a b).length co) (l0++rfR H a b).length (prv (l0++rfR H a b)))/\Hid (PrV wr (.slice Ap lp.length cp) lp)/\Hid (wr.heap[g0]?=some (.cells #[.slice A1 ns c1,.slice A2 Z.nb c2,.slice A3 Z.k c3] 26 (0,0)))/\Hid (Ext w wr)) (fun iv _ _=>ns - (intOf iv).toNat)
    case atStart=>exact⟨a+1,Ao,co,by omega,by omega,rfl,by rw[<-HL0.out],HGO',HP1,HB1,HE1⟩
    case round =>
     clear HGO' HP1 HB1 HE1 HL0 t3 a0 a1 a2;obtain⟨b,Ao,co,hab,hb9,rfl,rfl,HGO,HP,HB,HEr⟩:=hrel;obtain⟨a0,a1,a2,-⟩:=cells3 HB.out
     by_cases hlb:b<ns
     case neg =>
      have t4:decide ((b:Int)<(ns:Int))=false:=q_f (by omega);obtain rfl:ns=b:=by omega
      have HLL:Hid (l0++rfR H a ns=rfL H ns (a+1)):=by rw[Hid,hl0.out];rfl
      rw[HLL.out] at HGO ⊢;go_wp2;go_roundw
      case rel=>exact⟨a+1,Ao,co,by omega,by go_num,rfl,HGO,HP,HB,HEr⟩
      case measure=>simp[intOf];omega
     have t4:decide ((b:Int)<(ns:Int))=true:=q_t (by omega);obtain⟨hb,hhb⟩:=qc (H a b);have HHB:Hid (hb=((G a b||inP lp a b) && !G a b)):=by rw[Hid,hhb.out];exact HHA.out a b hla hlb
     obtain⟨jb,hjb⟩:=qc (G a b||inP lp a b);rw[<-hjb.out] at HHB;have hlr:=q5v H a b;obtain⟨lx,hlx⟩:=qc (l0++rfR H a b);rw[<-hlx.out] at HGO ⊢;have hlxl:lx.length<=200:=by rw[hlx.out,List.length_append];omega
     go_upto_region 20 with (fail)
     go_cut [113] (fun bv wx=>bv=.bool hb/\Ext wr wx)
     case first =>
      go_wp2_with (go_at_call 84;refine q_o ?_);refine (HJC.out _ HEr.out _ _ HP.out a b).mono ?_;rintro e w5 ⟨rfl,e5⟩;rw[<-hjb.out];cases jb with
      | false =>
       have HCD:Hid (hb=false):=by rw[Hid,HHB.out];rfl
       go_wp2
       go_meet
       exact⟨by rw[HCD.out],e5⟩
      | true =>
       have a0':=e5.cell a0;have a1':=e5.cell a1;have a2':=e5.cell a2;clear a0 a1 a2;go_wp2_with (go_at_call 28;refine q_o ?_);refine (HED.out _ (HEr.out.trans e5) a b).mono ?_;rintro e w6 ⟨rfl,e6⟩;obtain⟨gb,hgb⟩:=qc (G a b);have HCD:Hid ((!gb)=hb):=by rw[Hid,HHB.out,Bool.true_and,hgb.out]
       rw[<-hgb.out];have t5:=HCD.out;go_wp2
       go_meet
       exact⟨by first | rfl | rw[t5],e5.trans e6⟩
     obtain⟨rfl,hcut⟩:=hcut;have HGO2:=q_h (HGO.out.ext hcut);have HP2:=q_h (HP.out.ext hcut);have HB2:=q_h (hcut.block HB.out);have HE2:Hid (Ext w wc):=HEr.out.trans hcut;clear hcut HGO HP HB HEr a0 a1 a2 HHB hjb jb;cases hb with
     | false =>
      have HPN:Hid (lx=l0++rfR H a (b+1)):=by rw[Hid,rfR_step H hab,<-hhb.out,if_neg (by decide),List.append_nil,hlx.out]
      rw[HPN.out] at HGO2 ⊢;go_wp2;go_roundw
      case rel=>exact⟨b+1,Ao,co,by omega,by omega,by go_num,rfl,HGO2,HP2,HB2,HE2⟩
      case measure=>simp[intOf];omega
     | true =>
      have HPX:Hid (l0++rfR H a (b+1)=lx ++ [(a,b)]):=by rw[Hid,rfR_step H hab,<-hhb.out,if_pos rfl,<-List.append_assoc,hlx.out]
      go_wp2_with (at_builtin;refine q_o ?_);refine qp ?_;intro w5 e5 hsz5 B5;refine jG Wx rfl _ _ 61 Tryz.underlying61 rfl (by rfl) (HGO2.out.ext e5) (m:=1) (c:=1) (news:=[.int .i64 (a:Int),.int .i64 (b:Int)]) (by rfl) rfl (q5f B5) (by simp[Value.oneCell']) (by omega) ?_;rintro v6 w6 hG6 hat6 ⟨g6,hlo6,hw6,C6⟩;obtain⟨A6,c6,rfl⟩:=hG6.form
      have HG6:Hid (zH 69 2 g2 w6 (.slice A6 (l0++rfR H a (b+1)).length c6) (l0++rfR H a (b+1)).length (prv (l0++rfR H a (b+1)))):=by
       rw[Hid,HPX.out,q1v,List.length_append];exact hG6
      have HL6:Hid ((l0++rfR H a (b+1)).length=lx.length+1):=by rw[Hid,HPX.out,List.length_append];rfl
      have HP6:Hid (PrV w6 (.slice Ap lp.length cp) lp):=PrV.chg (HP2.out.ext e5) HOB.out C6 hlo6;have HB6:=q_h (C6.blk (e5.block HB2.out) (.inl (by omega)));have HE6:Hid (Ext w w6):=C6.ext (HE2.out.trans e5) (by omega);clear hG6 hat6 hw6 hlo6 C6 B5 hsz5 e5 HGO2 HP2 HB2 HE2;go_wp2;go_roundw
      case rel=>exact⟨b+1,A6,c6,by omega,by omega,by go_num,by rw[HL6.out],HG6,HP6,HB6,HE6⟩
      case measure=>simp[intOf];omega
  have t1:decide ((k:Int)<(n:Int))=true:=q_t (by omega);have t2:(k:Int)<(n:Int):=by omega
  obtain⟨K1,hK1⟩:=qc (k+1);have t3:IntKind.i64.wrap ((k:Int)+1)=(K1:Int):=by rw[wrp (by omega) (by omega),hK1.out];omega
  have hK1n:K1<=n:=by rw[hK1.out];omega
  obtain⟨q,hq⟩:=qc (o k);have hqn:q<ns:=by rw[hq.out];exact HO.out k hlt
  obtain⟨J,hJ⟩:=qc (q88 G o k);have HJS:Hid (∀ x y,J x y=J y x):=by rw[hJ.out];exact q8t HGS.out o k
  obtain⟨d,hd⟩:=qc (dK o K1);have HDQ:Hid (d q=true):=by rw[hd.out];exact q8C.2 ⟨k,by rw[hK1.out];omega,hq.out.symm⟩
  have HJN:Hid (∀ x y,x<ns->y<ns->stepJ J d q x y=q88 G o (k+1) x y):=fun x y _ _=>by rw[q8i,<-hJ.out,<-hK1.out,<-hd.out,<-hq.out]
  have HDD:Hid (∀ x:Nat,xg K1 (fun t=>decide ((o t:Int)=(x:Int)))=d x):=fun x=>by rw[hd.out];rfl
  have HJ1:Hid (∀ x y,x<ns->y<ns->(G x y||inP lp x y)=q8a J d q 0 1 x y):=fun x y hx hy=>by rw[q8n,hJ.out];exact HJ.out x y hx hy
  obtain⟨wq,hwq⟩:∃ wq,wq=wr:=⟨_,rfl⟩
  subst hwq;have HGP0:=HGP;have HB00:=HB;have HE00:=HEr;clear HGP HJ HB HEr;go_wp2_with fail
  go_loopw [7,5] (fun iv pv wr=>∃ (a:Nat) (lp:List (Nat×Nat)) (Ap:Option Addr) (cp:Nat),a<=ns/\iv=.int .i64 (a:Int)/\pv=.slice Ap lp.length cp/\lp.length<=144*k+12*a/\Hid (zH 69 2 (g0+1) wr (.slice Ap lp.length cp) lp.length (prv lp))/\Hid (∀ x y,x<ns->y<ns->(G x y||inP lp x y)=q8a J d q a (a+1) x y)/\Hid (wr.heap[g0]?=some (.cells #[.slice A1 ns c1,.slice A2 Z.nb c2,.slice A3 Z.k c3] 26 (0,0)))/\Hid (Ext w wr)) (fun iv _ _=>ns - (intOf iv).toNat)
  case atStart=>exact⟨0,lp,Ap,cp,Nat.zero_le _,rfl,rfl,by omega,HGP0,HJ1,HB00,HE00⟩
  case round =>
   clear HGP0 HJ1 HB00 HE00 hlp;obtain⟨a,lp,Ap,cp,ha9,rfl,rfl,hlp,HGP,HJ,HB,HEr⟩:=hrel;obtain⟨a0,a1,a2,-⟩:=cells3 HB.out
   by_cases hla:a<ns
   case neg =>
    have t4:decide ((a:Int)<(ns:Int))=false:=q_f (by omega);obtain rfl:ns=a:=by omega
    have HJ9:Hid (∀ x y,x<ns->y<ns->(G x y||inP lp x y)=q88 G o (k+1) x y):=fun x y hx hy=>by rw[HJ.out x y hx hy,q8w hx hy,HJN.out x y hx hy]
    clear t3;have t3':IntKind.i64.wrap ((k:Int)+1)=(k:Int)+1:=wrp (by omega) (by omega);go_wp2;go_roundw
    case rel=>exact⟨k+1,lp,Ap,cp,by omega,by go_num,rfl,by omega,HGP,HJ9,HB,HEr⟩
    case measure=>simp[intOf];omega
   have t4:decide ((a:Int)<(ns:Int))=true:=q_t (by omega);have t5:IntKind.i64.wrap ((a:Int)+1)=((a+1:Nat):Int):=by rw[wrp (by omega) (by omega)];omega
   have HJ2:=HJ;have HGP2:=HGP;have HB2:=HB;have HE2:=HEr;obtain⟨wp,hwp⟩:∃ wp,wp=wr:=⟨_,rfl⟩
   subst hwp;clear HGP HJ HB HEr;go_wp2_with fail
   go_loopw [8,5] (fun iv pv wr=>∃ (b:Nat) (lp:List (Nat×Nat)) (Ap:Option Addr) (cp:Nat),a<b/\b<=ns/\iv=.int .i64 (b:Int)/\pv=.slice Ap lp.length cp/\lp.length<=144*k+12*a+b/\Hid (zH 69 2 (g0+1) wr (.slice Ap lp.length cp) lp.length (prv lp))/\Hid (∀ x y,x<ns->y<ns->(G x y||inP lp x y)=q8a J d q a b x y)/\Hid (wr.heap[g0]?=some (.cells #[.slice A1 ns c1,.slice A2 Z.nb c2,.slice A3 Z.k c3] 26 (0,0)))/\Hid (Ext w wr)) (fun iv _ _=>ns - (intOf iv).toNat)
   case atStart=>exact⟨a+1,lp,Ap,cp,by omega,by omega,rfl,rfl,by omega,HGP2,HJ2,HB2,HE2⟩
   case round =>
    clear HGP2 HJ2 HB2 HE2 hlp t5 a0 a1 a2;obtain⟨b,lp,Ap,cp,hab,hb9,rfl,rfl,hlp,HGP,HJ,HB,HEr⟩:=hrel;obtain⟨a0,a1,a2,-⟩:=cells3 HB.out
    by_cases hlb:b<ns
    case neg =>
     have t6:decide ((b:Int)<(ns:Int))=false:=q_f (by omega);obtain rfl:ns=b:=by omega
     have HJ9:Hid (∀ x y,x<ns->y<ns->(G x y||inP lp x y)=q8a J d q (a+1) (a+1+1) x y):=fun x y hx hy=>by rw[HJ.out x y hx hy,q8I hx hy]
     go_wp2;go_roundw
     case rel=>exact⟨a+1,lp,Ap,cp,by omega,by go_num,rfl,by omega,HGP,HJ9,HB,HEr⟩
     case measure=>simp[intOf];omega
    have t6:decide ((b:Int)<(ns:Int))=true:=q_t (by omega);have HP:Hid (PrV wr (.slice Ap lp.length cp) lp):=zH.prs HGP.out;obtain⟨da,hda⟩:=qc (d a);obtain⟨db,hdb⟩:=qc (d b);obtain⟨ja,hja⟩:=qc (J a q);obtain⟨jb,hjb⟩:=qc (J b q);obtain⟨jc,hjc⟩:=qc (J a b);obtain⟨cd,hcd⟩:=qc (!da && !db&&ja&&jb && !jc);have HDA:Hid (xg K1 (fun t=>decide ((o t:Int)=(a:Int)))=da):=by rw[Hid,HDD.out,hda.out]
    have HDB:Hid (xg K1 (fun t=>decide ((o t:Int)=(b:Int)))=db):=by rw[Hid,HDD.out,hdb.out]
    have HJA:Hid ((G a q||inP lp a q)=ja):=by rw[Hid,HJ.out a q hla hqn,q8L HDQ.out,hja.out]
    have HJB:Hid ((G b q||inP lp b q)=jb):=by rw[Hid,HJ.out b q hlb hqn,q8L HDQ.out,hjb.out]
    have HJD:Hid ((G a b||inP lp a b)=jc):=by rw[Hid,HJ.out a b hla hlb,q8j hab,hjc.out]
    have HCX:Hid (cd=(!d a && !d b&&J a q&&J b q && !J a b)):=by rw[Hid,hcd.out,hda.out,hdb.out,hja.out,hjb.out,hjc.out]
    have HIU:Hid (IzV N lo' hi' wr (.slice A4 n c4) n (fun t=>(o t:Int))):=HU.out.ext HEr.out;obtain⟨bu,ou,hA4,hx⟩:=HIU.out.addr (by omega);have p0:=hx k hlt;rw[<-hq.out] at p0;clear hx;go_upto_region 11 with (fail)
    go_cut [78] (fun bv wx=>bv=.bool cd/\Ext wr wx)
    case first =>
     have HU9:Hid (IzV N lo' hi' wr (.slice (some ⟨bu,ou,none⟩) n c4) n (fun t=>(o t:Int))):=by rw[<-hA4];exact HIU.out
     subst hA4;have HCD:=hcd;have t7:K1<=c4:=by omega
     have t8:(K1:Int)<=(c4:Int):=by omega
     have t9:¬ c4=0:=by omega
     clear hcd HCX HDD hda hdb hja hjb hjc;cases da with
     | true =>
      refine jP [Mn.eq (.slice (some ⟨bu,ou,none⟩) n c4),Mn.i (k:Int),Mn.i (K1:Int),Mn.eq (.slice (some ⟨bu,ou,none⟩) K1 c4),Mn.i (a:Int),Mn.t true,Mn.t false,Mn.t false,Mn.eq undef,Mn.eq undef,Mn.eq undef,Mn.eq undef,Mn.eq undef,Mn.eq undef,Mn.eq undef,Mn.t false,Mn.t false,Mn.eq undef,Mn.eq undef,Mn.eq undef,Mn.eq undef,Mn.eq undef,Mn.eq undef,Mn.eq undef,Mn.eq undef,Mn.t false,Mn.t false,Mn.eq undef,Mn.eq undef,Mn.eq undef,Mn.eq undef,Mn.eq undef,Mn.eq undef,Mn.eq undef,Mn.eq undef,Mn.t false,Mn.t false,Mn.eq undef,Mn.eq undef,Mn.eq undef,Mn.eq undef,Mn.eq undef,Mn.eq undef,Mn.t false] (sM [35,36,37,38,39,40,41,42,43,44,45,46,47,48,49,50,51,52,53,54,55,56,57,58,59,60,61,62,63,64,65,66,67,68,69,70,71,72,73,74,75,76,77,78]) [] (rQ 44 0) 0 (by kernel_rfl) ?_ ?_
      ·show ∀ i,i<44->_
       iterate 44 refine fs ?_ ?_
       ·exact fz
       all_goals intro hl;clear hl;refine stp rfl ?_;intro ac wi eI hB hA K hK
       have o1:=oOf (hB 1) rfl
       rotate_left
       have o6:=oOf (hB 6) rfl
       rotate_left
       obtain⟨_,s36,rfl⟩:=hA 1 36
       rotate_left
       obtain⟨_,s35,rfl⟩:=hA 0 35;obtain⟨_,s37,rfl⟩:=hA 2 37
       rotate_left
       have o7:=oOf (hB 7) rfl
       rotate_left
       obtain⟨_,s38,rfl⟩:=hA 3 38;obtain⟨_,s39,rfl⟩:=hA 4 39;clear hB hA
       ·go_simp;refine (rf_has (iz_take (lo':=0) (hi':=0) (HU9.out.ext eI) (by omega)) (a:Int)).mono ?_;rw[HDA.out];rintro e wj ⟨rfl,ej⟩;go_wp2_with fail;exact hK.out _ _ ej rfl
       obtain⟨_,s40,rfl⟩:=hA 5 40
       rotate_left
       obtain⟨_,s41,rfl⟩:=hA 6 41
       rotate_left
       iterate 7 (obtain⟨_,s42,rfl⟩:=hA 7 42;clear hB hA;rw[if_neg (by simp[Region.wanted,yielded,s42,undef])];exact q_k hK rfl)
       obtain⟨_,s42,rfl⟩:=hA 7 42;obtain⟨_,s49,rfl⟩:=hA 14 49
       rotate_left
       obtain⟨_,s50,rfl⟩:=hA 15 50
       rotate_left
       iterate 8 (obtain⟨_,s51,rfl⟩:=hA 16 51;clear hB hA;rw[if_neg (by simp[Region.wanted,yielded,s51,undef])];exact q_k hK rfl)
       obtain⟨_,s51,rfl⟩:=hA 16 51;obtain⟨_,s59,rfl⟩:=hA 24 59
       rotate_left
       obtain⟨_,s60,rfl⟩:=hA 25 60
       rotate_left
       iterate 8 (obtain⟨_,s61,rfl⟩:=hA 26 61;clear hB hA;rw[if_neg (by simp[Region.wanted,yielded,s61,undef])];exact q_k hK rfl)
       obtain⟨_,s61,rfl⟩:=hA 26 61;obtain⟨_,s69,rfl⟩:=hA 34 69
       rotate_left
       obtain⟨_,s70,rfl⟩:=hA 35 70
       rotate_left
       iterate 6 (obtain⟨_,s71,rfl⟩:=hA 36 71;clear hB hA;rw[if_neg (by simp[Region.wanted,yielded,s71,undef])];exact q_k hK rfl)
       obtain⟨_,s71,rfl⟩:=hA 36 71;obtain⟨_,s77,rfl⟩:=hA 42 77
       rotate_left
       all_goals clear hB hA;go_simp;exact q_k hK rfl
      intro vals wz eZ hJ;have J78:vals 43=_:=hJ 43 (by decide) (by decide);clear hJ;simp only[pr,Nat.reduceAdd,J78];clear J78;refine qg (by kernel_rfl) ?_ _;go_wp2_with fail
      go_meet
      exact⟨by rw[HCD.out];rfl,eZ⟩
     | false =>
     cases db with
     | true =>
      refine jP [Mn.eq (.slice (some ⟨bu,ou,none⟩) n c4),Mn.i (k:Int),Mn.i (K1:Int),Mn.eq (.slice (some ⟨bu,ou,none⟩) K1 c4),Mn.i (a:Int),Mn.t false,Mn.t true,Mn.t true,Mn.eq (.slice (some ⟨bu,ou,none⟩) n c4),Mn.i (k:Int),Mn.i (K1:Int),Mn.eq (.slice (some ⟨bu,ou,none⟩) K1 c4),Mn.i (b:Int),Mn.t true,Mn.t false,Mn.t false,Mn.t false,Mn.eq undef,Mn.eq undef,Mn.eq undef,Mn.eq undef,Mn.eq undef,Mn.eq undef,Mn.eq undef,Mn.eq undef,Mn.t false,Mn.t false,Mn.eq undef,Mn.eq undef,Mn.eq undef,Mn.eq undef,Mn.eq undef,Mn.eq undef,Mn.eq undef,Mn.eq undef,Mn.t false,Mn.t false,Mn.eq undef,Mn.eq undef,Mn.eq undef,Mn.eq undef,Mn.eq undef,Mn.eq undef,Mn.t false] (sM [35,36,37,38,39,40,41,42,43,44,45,46,47,48,49,50,51,52,53,54,55,56,57,58,59,60,61,62,63,64,65,66,67,68,69,70,71,72,73,74,75,76,77,78]) [] (rQ 44 0) 0 (by kernel_rfl) ?_ ?_
      ·show ∀ i,i<44->_
       iterate 44 refine fs ?_ ?_
       ·exact fz
       all_goals intro hl;clear hl;refine stp rfl ?_;intro ac wi eI hB hA K hK
       have o1:=oOf (hB 1) rfl
       rotate_left
       have o6:=oOf (hB 6) rfl
       rotate_left
       obtain⟨_,s36,rfl⟩:=hA 1 36
       rotate_left
       obtain⟨_,s35,rfl⟩:=hA 0 35;obtain⟨_,s37,rfl⟩:=hA 2 37
       rotate_left
       have o7:=oOf (hB 7) rfl
       rotate_left
       obtain⟨_,s38,rfl⟩:=hA 3 38;obtain⟨_,s39,rfl⟩:=hA 4 39;clear hB hA
       ·go_simp;refine (rf_has (iz_take (lo':=0) (hi':=0) (HU9.out.ext eI) (by omega)) (a:Int)).mono ?_;rw[HDA.out];rintro e wj ⟨rfl,ej⟩;go_wp2_with fail;exact hK.out _ _ ej rfl
       obtain⟨_,s40,rfl⟩:=hA 5 40
       rotate_left
       obtain⟨_,s41,rfl⟩:=hA 6 41
       rotate_left
       obtain⟨_,s42,rfl⟩:=hA 7 42;have o1:=oOf (hB 1) rfl;rw[if_pos (by simp[Region.wanted,yielded,s42])]
       rotate_left
       obtain⟨_,s42,rfl⟩:=hA 7 42;have o6:=oOf (hB 6) rfl;rw[if_pos (by simp[Region.wanted,yielded,s42])]
       rotate_left
       obtain⟨_,s42,rfl⟩:=hA 7 42;obtain⟨_,s44,rfl⟩:=hA 9 44;rw[if_pos (by simp[Region.wanted,yielded,s42])]
       rotate_left
       obtain⟨_,s42,rfl⟩:=hA 7 42;obtain⟨_,s43,rfl⟩:=hA 8 43;obtain⟨_,s45,rfl⟩:=hA 10 45;rw[if_pos (by simp[Region.wanted,yielded,s42])]
       rotate_left
       obtain⟨_,s42,rfl⟩:=hA 7 42;have o8:=oOf (hB 8) rfl;rw[if_pos (by simp[Region.wanted,yielded,s42])]
       rotate_left
       obtain⟨_,s42,rfl⟩:=hA 7 42;obtain⟨_,s46,rfl⟩:=hA 11 46;obtain⟨_,s47,rfl⟩:=hA 12 47;clear hB hA;rw[if_pos (by simp[Region.wanted,yielded,s42])]
       ·go_simp;refine (rf_has (iz_take (lo':=0) (hi':=0) (HU9.out.ext eI) (by omega)) (b:Int)).mono ?_;rw[HDB.out];rintro e wj ⟨rfl,ej⟩;go_wp2_with fail;exact hK.out _ _ ej rfl
       obtain⟨_,s42,rfl⟩:=hA 7 42;obtain⟨_,s48,rfl⟩:=hA 13 48;rw[if_pos (by simp[Region.wanted,yielded,s42])]
       rotate_left
       obtain⟨_,s42,rfl⟩:=hA 7 42;obtain⟨_,s49,rfl⟩:=hA 14 49
       rotate_left
       obtain⟨_,s50,rfl⟩:=hA 15 50
       rotate_left
       iterate 8 (obtain⟨_,s51,rfl⟩:=hA 16 51;clear hB hA;rw[if_neg (by simp[Region.wanted,yielded,s51,undef])];exact q_k hK rfl)
       obtain⟨_,s51,rfl⟩:=hA 16 51;obtain⟨_,s59,rfl⟩:=hA 24 59
       rotate_left
       obtain⟨_,s60,rfl⟩:=hA 25 60
       rotate_left
       iterate 8 (obtain⟨_,s61,rfl⟩:=hA 26 61;clear hB hA;rw[if_neg (by simp[Region.wanted,yielded,s61,undef])];exact q_k hK rfl)
       obtain⟨_,s61,rfl⟩:=hA 26 61;obtain⟨_,s69,rfl⟩:=hA 34 69
       rotate_left
       obtain⟨_,s70,rfl⟩:=hA 35 70
       rotate_left
       iterate 6 (obtain⟨_,s71,rfl⟩:=hA 36 71;clear hB hA;rw[if_neg (by simp[Region.wanted,yielded,s71,undef])];exact q_k hK rfl)
       obtain⟨_,s71,rfl⟩:=hA 36 71;obtain⟨_,s77,rfl⟩:=hA 42 77
       rotate_left
       all_goals clear hB hA;go_simp;exact q_k hK rfl
      intro vals wz eZ hJ;have J78:vals 43=_:=hJ 43 (by decide) (by decide);clear hJ;simp only[pr,Nat.reduceAdd,J78];clear J78;refine qg (by kernel_rfl) ?_ _;go_wp2_with fail
      go_meet
      exact⟨by rw[HCD.out];rfl,eZ⟩
     | false =>
     cases ja with
     | false =>
      refine jP [Mn.eq (.slice (some ⟨bu,ou,none⟩) n c4),Mn.i (k:Int),Mn.i (K1:Int),Mn.eq (.slice (some ⟨bu,ou,none⟩) K1 c4),Mn.i (a:Int),Mn.t false,Mn.t true,Mn.t true,Mn.eq (.slice (some ⟨bu,ou,none⟩) n c4),Mn.i (k:Int),Mn.i (K1:Int),Mn.eq (.slice (some ⟨bu,ou,none⟩) K1 c4),Mn.i (b:Int),Mn.t false,Mn.t true,Mn.t true,Mn.t true,Mn.eq (.agg #[.slice A1 ns c1,.slice A2 Z.nb c2,.slice A3 Z.k c3]),Mn.eq (.slice Ap lp.length cp),Mn.i (a:Int),Mn.eq (.slice (some ⟨bu,ou,none⟩) n c4),Mn.i (k:Int),Mn.q bu (ou+k),Mn.i (q:Int),Mn.t false,Mn.t false,Mn.t false,Mn.eq undef,Mn.eq undef,Mn.eq undef,Mn.eq undef,Mn.eq undef,Mn.eq undef,Mn.eq undef,Mn.eq undef,Mn.t false,Mn.t false,Mn.eq undef,Mn.eq undef,Mn.eq undef,Mn.eq undef,Mn.eq undef,Mn.eq undef,Mn.t false] (sM [35,36,37,38,39,40,41,42,43,44,45,46,47,48,49,50,51,52,53,54,55,56,57,58,59,60,61,62,63,64,65,66,67,68,69,70,71,72,73,74,75,76,77,78]) [] (rQ 44 0) 0 (by kernel_rfl) ?_ ?_
      ·show ∀ i,i<44->_
       iterate 44 refine fs ?_ ?_
       ·exact fz
       all_goals intro hl;clear hl;refine stp rfl ?_;intro ac wi eI hB hA K hK
       have o1:=oOf (hB 1) rfl
       rotate_left
       have o6:=oOf (hB 6) rfl
       rotate_left
       obtain⟨_,s36,rfl⟩:=hA 1 36
       rotate_left
       obtain⟨_,s35,rfl⟩:=hA 0 35;obtain⟨_,s37,rfl⟩:=hA 2 37
       rotate_left
       have o7:=oOf (hB 7) rfl
       rotate_left
       obtain⟨_,s38,rfl⟩:=hA 3 38;obtain⟨_,s39,rfl⟩:=hA 4 39;clear hB hA
       ·go_simp;refine (rf_has (iz_take (lo':=0) (hi':=0) (HU9.out.ext eI) (by omega)) (a:Int)).mono ?_;rw[HDA.out];rintro e wj ⟨rfl,ej⟩;go_wp2_with fail;exact hK.out _ _ ej rfl
       obtain⟨_,s40,rfl⟩:=hA 5 40
       rotate_left
       obtain⟨_,s41,rfl⟩:=hA 6 41
       rotate_left
       obtain⟨_,s42,rfl⟩:=hA 7 42;have o1:=oOf (hB 1) rfl;rw[if_pos (by simp[Region.wanted,yielded,s42])]
       rotate_left
       obtain⟨_,s42,rfl⟩:=hA 7 42;have o6:=oOf (hB 6) rfl;rw[if_pos (by simp[Region.wanted,yielded,s42])]
       rotate_left
       obtain⟨_,s42,rfl⟩:=hA 7 42;obtain⟨_,s44,rfl⟩:=hA 9 44;rw[if_pos (by simp[Region.wanted,yielded,s42])]
       rotate_left
       obtain⟨_,s42,rfl⟩:=hA 7 42;obtain⟨_,s43,rfl⟩:=hA 8 43;obtain⟨_,s45,rfl⟩:=hA 10 45;rw[if_pos (by simp[Region.wanted,yielded,s42])]
       rotate_left
       obtain⟨_,s42,rfl⟩:=hA 7 42;have o8:=oOf (hB 8) rfl;rw[if_pos (by simp[Region.wanted,yielded,s42])]
       rotate_left
       obtain⟨_,s42,rfl⟩:=hA 7 42;obtain⟨_,s46,rfl⟩:=hA 11 46;obtain⟨_,s47,rfl⟩:=hA 12 47;clear hB hA;rw[if_pos (by simp[Region.wanted,yielded,s42])]
       ·go_simp;refine (rf_has (iz_take (lo':=0) (hi':=0) (HU9.out.ext eI) (by omega)) (b:Int)).mono ?_;rw[HDB.out];rintro e wj ⟨rfl,ej⟩;go_wp2_with fail;exact hK.out _ _ ej rfl
       obtain⟨_,s42,rfl⟩:=hA 7 42;obtain⟨_,s48,rfl⟩:=hA 13 48;rw[if_pos (by simp[Region.wanted,yielded,s42])]
       rotate_left
       obtain⟨_,s42,rfl⟩:=hA 7 42;obtain⟨_,s49,rfl⟩:=hA 14 49
       rotate_left
       obtain⟨_,s50,rfl⟩:=hA 15 50
       rotate_left
       obtain⟨_,s51,rfl⟩:=hA 16 51;have o2:=oOf (hB 2) rfl;rw[if_pos (by simp[Region.wanted,yielded,s51])];have cc0:=eI.cell p0;have cc1:=eI.cell a0;have cc2:=eI.cell a1;have cc3:=eI.cell a2
       rotate_left
       obtain⟨_,s51,rfl⟩:=hA 16 51;have o5:=oOf (hB 5) rfl;rw[if_pos (by simp[Region.wanted,yielded,s51])]
       rotate_left
       obtain⟨_,s51,rfl⟩:=hA 16 51;have o7:=oOf (hB 7) rfl;rw[if_pos (by simp[Region.wanted,yielded,s51])]
       rotate_left
       obtain⟨_,s51,rfl⟩:=hA 16 51;have o1:=oOf (hB 1) rfl;rw[if_pos (by simp[Region.wanted,yielded,s51])]
       rotate_left
       obtain⟨_,s51,rfl⟩:=hA 16 51;have o6:=oOf (hB 6) rfl;rw[if_pos (by simp[Region.wanted,yielded,s51])]
       rotate_left
       obtain⟨_,s51,rfl⟩:=hA 16 51;obtain⟨_,s55,rfl⟩:=hA 20 55;obtain⟨_,s56,rfl⟩:=hA 21 56;rw[if_pos (by simp[Region.wanted,yielded,s51])]
       rotate_left
       obtain⟨_,s51,rfl⟩:=hA 16 51;obtain⟨_,s57,rfl⟩:=hA 22 57;rw[if_pos (by simp[Region.wanted,yielded,s51])];have cc0:=eI.cell p0
       rotate_left
       obtain⟨_,s51,rfl⟩:=hA 16 51;obtain⟨_,s52,rfl⟩:=hA 17 52;obtain⟨_,s53,rfl⟩:=hA 18 53;obtain⟨_,s54,rfl⟩:=hA 19 54;obtain⟨_,s58,rfl⟩:=hA 23 58;clear hB hA;rw[if_pos (by simp[Region.wanted,yielded,s51])]
       ·go_simp;refine (HJC.out _ (HEr.out.trans eI) _ _ (HP.out.ext eI) a q).mono ?_;rw[HJA.out];rintro e wj ⟨rfl,ej⟩;go_wp2_with fail;exact hK.out _ _ ej rfl
       obtain⟨_,s51,rfl⟩:=hA 16 51;obtain⟨_,s59,rfl⟩:=hA 24 59
       rotate_left
       obtain⟨_,s60,rfl⟩:=hA 25 60
       rotate_left
       iterate 8 (obtain⟨_,s61,rfl⟩:=hA 26 61;clear hB hA;rw[if_neg (by simp[Region.wanted,yielded,s61,undef])];exact q_k hK rfl)
       obtain⟨_,s61,rfl⟩:=hA 26 61;obtain⟨_,s69,rfl⟩:=hA 34 69
       rotate_left
       obtain⟨_,s70,rfl⟩:=hA 35 70
       rotate_left
       iterate 6 (obtain⟨_,s71,rfl⟩:=hA 36 71;clear hB hA;rw[if_neg (by simp[Region.wanted,yielded,s71,undef])];exact q_k hK rfl)
       obtain⟨_,s71,rfl⟩:=hA 36 71;obtain⟨_,s77,rfl⟩:=hA 42 77
       rotate_left
       all_goals clear hB hA;go_simp;exact q_k hK rfl
      intro vals wz eZ hJ;have J78:vals 43=_:=hJ 43 (by decide) (by decide);clear hJ;simp only[pr,Nat.reduceAdd,J78];clear J78;refine qg (by kernel_rfl) ?_ _;go_wp2_with fail
      go_meet
      exact⟨by rw[HCD.out];rfl,eZ⟩
     | true =>
     cases jb with
     | false =>
      refine jP [Mn.eq (.slice (some ⟨bu,ou,none⟩) n c4),Mn.i (k:Int),Mn.i (K1:Int),Mn.eq (.slice (some ⟨bu,ou,none⟩) K1 c4),Mn.i (a:Int),Mn.t false,Mn.t true,Mn.t true,Mn.eq (.slice (some ⟨bu,ou,none⟩) n c4),Mn.i (k:Int),Mn.i (K1:Int),Mn.eq (.slice (some ⟨bu,ou,none⟩) K1 c4),Mn.i (b:Int),Mn.t false,Mn.t true,Mn.t true,Mn.t true,Mn.eq (.agg #[.slice A1 ns c1,.slice A2 Z.nb c2,.slice A3 Z.k c3]),Mn.eq (.slice Ap lp.length cp),Mn.i (a:Int),Mn.eq (.slice (some ⟨bu,ou,none⟩) n c4),Mn.i (k:Int),Mn.q bu (ou+k),Mn.i (q:Int),Mn.t true,Mn.t true,Mn.t true,Mn.eq (.agg #[.slice A1 ns c1,.slice A2 Z.nb c2,.slice A3 Z.k c3]),Mn.eq (.slice Ap lp.length cp),Mn.i (b:Int),Mn.eq (.slice (some ⟨bu,ou,none⟩) n c4),Mn.i (k:Int),Mn.q bu (ou+k),Mn.i (q:Int),Mn.t false,Mn.t false,Mn.t false,Mn.eq undef,Mn.eq undef,Mn.eq undef,Mn.eq undef,Mn.eq undef,Mn.eq undef,Mn.t false] (sM [35,36,37,38,39,40,41,42,43,44,45,46,47,48,49,50,51,52,53,54,55,56,57,58,59,60,61,62,63,64,65,66,67,68,69,70,71,72,73,74,75,76,77,78]) [] (rQ 44 0) 0 (by kernel_rfl) ?_ ?_
      ·show ∀ i,i<44->_
       iterate 44 refine fs ?_ ?_
       ·exact fz
       all_goals intro hl;clear hl;refine stp rfl ?_;intro ac wi eI hB hA K hK
       have o1:=oOf (hB 1) rfl
       rotate_left
       have o6:=oOf (hB 6) rfl
       rotate_left
       obtain⟨_,s36,rfl⟩:=hA 1 36
       rotate_left
       obtain⟨_,s35,rfl⟩:=hA 0 35;obtain⟨_,s37,rfl⟩:=hA 2 37
       rotate_left
       have o7:=oOf (hB 7) rfl
       rotate_left
       obtain⟨_,s38,rfl⟩:=hA 3 38;obtain⟨_,s39,rfl⟩:=hA 4 39;clear hB hA
       ·go_simp;refine (rf_has (iz_take (lo':=0) (hi':=0) (HU9.out.ext eI) (by omega)) (a:Int)).mono ?_;rw[HDA.out];rintro e wj ⟨rfl,ej⟩;go_wp2_with fail;exact hK.out _ _ ej rfl
       obtain⟨_,s40,rfl⟩:=hA 5 40
       rotate_left
       obtain⟨_,s41,rfl⟩:=hA 6 41
       rotate_left
       obtain⟨_,s42,rfl⟩:=hA 7 42;have o1:=oOf (hB 1) rfl;rw[if_pos (by simp[Region.wanted,yielded,s42])]
       rotate_left
       obtain⟨_,s42,rfl⟩:=hA 7 42;have o6:=oOf (hB 6) rfl;rw[if_pos (by simp[Region.wanted,yielded,s42])]
       rotate_left
       obtain⟨_,s42,rfl⟩:=hA 7 42;obtain⟨_,s44,rfl⟩:=hA 9 44;rw[if_pos (by simp[Region.wanted,yielded,s42])]
       rotate_left
       obtain⟨_,s42,rfl⟩:=hA 7 42;obtain⟨_,s43,rfl⟩:=hA 8 43;obtain⟨_,s45,rfl⟩:=hA 10 45;rw[if_pos (by simp[Region.wanted,yielded,s42])]
       rotate_left
       obtain⟨_,s42,rfl⟩:=hA 7 42;have o8:=oOf (hB 8) rfl;rw[if_pos (by simp[Region.wanted,yielded,s42])]
       rotate_left
       obtain⟨_,s42,rfl⟩:=hA 7 42;obtain⟨_,s46,rfl⟩:=hA 11 46;obtain⟨_,s47,rfl⟩:=hA 12 47;clear hB hA;rw[if_pos (by simp[Region.wanted,yielded,s42])]
       ·go_simp;refine (rf_has (iz_take (lo':=0) (hi':=0) (HU9.out.ext eI) (by omega)) (b:Int)).mono ?_;rw[HDB.out];rintro e wj ⟨rfl,ej⟩;go_wp2_with fail;exact hK.out _ _ ej rfl
       obtain⟨_,s42,rfl⟩:=hA 7 42;obtain⟨_,s48,rfl⟩:=hA 13 48;rw[if_pos (by simp[Region.wanted,yielded,s42])]
       rotate_left
       obtain⟨_,s42,rfl⟩:=hA 7 42;obtain⟨_,s49,rfl⟩:=hA 14 49
       rotate_left
       obtain⟨_,s50,rfl⟩:=hA 15 50
       rotate_left
       obtain⟨_,s51,rfl⟩:=hA 16 51;have o2:=oOf (hB 2) rfl;rw[if_pos (by simp[Region.wanted,yielded,s51])];have cc0:=eI.cell p0;have cc1:=eI.cell a0;have cc2:=eI.cell a1;have cc3:=eI.cell a2
       rotate_left
       obtain⟨_,s51,rfl⟩:=hA 16 51;have o5:=oOf (hB 5) rfl;rw[if_pos (by simp[Region.wanted,yielded,s51])]
       rotate_left
       obtain⟨_,s51,rfl⟩:=hA 16 51;have o7:=oOf (hB 7) rfl;rw[if_pos (by simp[Region.wanted,yielded,s51])]
       rotate_left
       obtain⟨_,s51,rfl⟩:=hA 16 51;have o1:=oOf (hB 1) rfl;rw[if_pos (by simp[Region.wanted,yielded,s51])]
       rotate_left
       obtain⟨_,s51,rfl⟩:=hA 16 51;have o6:=oOf (hB 6) rfl;rw[if_pos (by simp[Region.wanted,yielded,s51])]
       rotate_left
       obtain⟨_,s51,rfl⟩:=hA 16 51;obtain⟨_,s55,rfl⟩:=hA 20 55;obtain⟨_,s56,rfl⟩:=hA 21 56;rw[if_pos (by simp[Region.wanted,yielded,s51])]
       rotate_left
       obtain⟨_,s51,rfl⟩:=hA 16 51;obtain⟨_,s57,rfl⟩:=hA 22 57;rw[if_pos (by simp[Region.wanted,yielded,s51])];have cc0:=eI.cell p0
       rotate_left
       obtain⟨_,s51,rfl⟩:=hA 16 51;obtain⟨_,s52,rfl⟩:=hA 17 52;obtain⟨_,s53,rfl⟩:=hA 18 53;obtain⟨_,s54,rfl⟩:=hA 19 54;obtain⟨_,s58,rfl⟩:=hA 23 58;clear hB hA;rw[if_pos (by simp[Region.wanted,yielded,s51])]
       ·go_simp;refine (HJC.out _ (HEr.out.trans eI) _ _ (HP.out.ext eI) a q).mono ?_;rw[HJA.out];rintro e wj ⟨rfl,ej⟩;go_wp2_with fail;exact hK.out _ _ ej rfl
       obtain⟨_,s51,rfl⟩:=hA 16 51;obtain⟨_,s59,rfl⟩:=hA 24 59
       rotate_left
       obtain⟨_,s60,rfl⟩:=hA 25 60
       rotate_left
       obtain⟨_,s61,rfl⟩:=hA 26 61;have o2:=oOf (hB 2) rfl;rw[if_pos (by simp[Region.wanted,yielded,s61])];have cc0:=eI.cell p0;have cc1:=eI.cell a0;have cc2:=eI.cell a1;have cc3:=eI.cell a2
       rotate_left
       obtain⟨_,s61,rfl⟩:=hA 26 61;have o5:=oOf (hB 5) rfl;rw[if_pos (by simp[Region.wanted,yielded,s61])]
       rotate_left
       obtain⟨_,s61,rfl⟩:=hA 26 61;have o8:=oOf (hB 8) rfl;rw[if_pos (by simp[Region.wanted,yielded,s61])]
       rotate_left
       obtain⟨_,s61,rfl⟩:=hA 26 61;have o1:=oOf (hB 1) rfl;rw[if_pos (by simp[Region.wanted,yielded,s61])]
       rotate_left
       obtain⟨_,s61,rfl⟩:=hA 26 61;have o6:=oOf (hB 6) rfl;rw[if_pos (by simp[Region.wanted,yielded,s61])]
       rotate_left
       obtain⟨_,s61,rfl⟩:=hA 26 61;obtain⟨_,s65,rfl⟩:=hA 30 65;obtain⟨_,s66,rfl⟩:=hA 31 66;rw[if_pos (by simp[Region.wanted,yielded,s61])]
       rotate_left
       obtain⟨_,s61,rfl⟩:=hA 26 61;obtain⟨_,s67,rfl⟩:=hA 32 67;rw[if_pos (by simp[Region.wanted,yielded,s61])];have cc0:=eI.cell p0
       rotate_left
       obtain⟨_,s61,rfl⟩:=hA 26 61;obtain⟨_,s62,rfl⟩:=hA 27 62;obtain⟨_,s63,rfl⟩:=hA 28 63;obtain⟨_,s64,rfl⟩:=hA 29 64;obtain⟨_,s68,rfl⟩:=hA 33 68;clear hB hA;rw[if_pos (by simp[Region.wanted,yielded,s61])]
       ·go_simp;refine (HJC.out _ (HEr.out.trans eI) _ _ (HP.out.ext eI) b q).mono ?_;rw[HJB.out];rintro e wj ⟨rfl,ej⟩;go_wp2_with fail;exact hK.out _ _ ej rfl
       obtain⟨_,s61,rfl⟩:=hA 26 61;obtain⟨_,s69,rfl⟩:=hA 34 69
       rotate_left
       obtain⟨_,s70,rfl⟩:=hA 35 70
       rotate_left
       iterate 6 (obtain⟨_,s71,rfl⟩:=hA 36 71;clear hB hA;rw[if_neg (by simp[Region.wanted,yielded,s71,undef])];exact q_k hK rfl)
       obtain⟨_,s71,rfl⟩:=hA 36 71;obtain⟨_,s77,rfl⟩:=hA 42 77
       rotate_left
       all_goals clear hB hA;go_simp;exact q_k hK rfl
      intro vals wz eZ hJ;have J78:vals 43=_:=hJ 43 (by decide) (by decide);clear hJ;simp only[pr,Nat.reduceAdd,J78];clear J78;refine qg (by kernel_rfl) ?_ _;go_wp2_with fail
      go_meet
      exact⟨by rw[HCD.out];rfl,eZ⟩
     | true =>
     cases jc with
     | false =>
      refine jP [Mn.eq (.slice (some ⟨bu,ou,none⟩) n c4),Mn.i (k:Int),Mn.i (K1:Int),Mn.eq (.slice (some ⟨bu,ou,none⟩) K1 c4),Mn.i (a:Int),Mn.t false,Mn.t true,Mn.t true,Mn.eq (.slice (some ⟨bu,ou,none⟩) n c4),Mn.i (k:Int),Mn.i (K1:Int),Mn.eq (.slice (some ⟨bu,ou,none⟩) K1 c4),Mn.i (b:Int),Mn.t false,Mn.t true,Mn.t true,Mn.t true,Mn.eq (.agg #[.slice A1 ns c1,.slice A2 Z.nb c2,.slice A3 Z.k c3]),Mn.eq (.slice Ap lp.length cp),Mn.i (a:Int),Mn.eq (.slice (some ⟨bu,ou,none⟩) n c4),Mn.i (k:Int),Mn.q bu (ou+k),Mn.i (q:Int),Mn.t true,Mn.t true,Mn.t true,Mn.eq (.agg #[.slice A1 ns c1,.slice A2 Z.nb c2,.slice A3 Z.k c3]),Mn.eq (.slice Ap lp.length cp),Mn.i (b:Int),Mn.eq (.slice (some ⟨bu,ou,none⟩) n c4),Mn.i (k:Int),Mn.q bu (ou+k),Mn.i (q:Int),Mn.t true,Mn.t true,Mn.t true,Mn.eq (.agg #[.slice A1 ns c1,.slice A2 Z.nb c2,.slice A3 Z.k c3]),Mn.eq (.slice Ap lp.length cp),Mn.i (a:Int),Mn.i (b:Int),Mn.t false,Mn.t true,Mn.t true] (sM [35,36,37,38,39,40,41,42,43,44,45,46,47,48,49,50,51,52,53,54,55,56,57,58,59,60,61,62,63,64,65,66,67,68,69,70,71,72,73,74,75,76,77,78]) [] (rQ 44 0) 0 (by kernel_rfl) ?_ ?_
      ·show ∀ i,i<44->_
       iterate 44 refine fs ?_ ?_
       ·exact fz
       all_goals intro hl;clear hl;refine stp rfl ?_;intro ac wi eI hB hA K hK
       have o1:=oOf (hB 1) rfl
       rotate_left
       have o6:=oOf (hB 6) rfl
       rotate_left
       obtain⟨_,s36,rfl⟩:=hA 1 36
       rotate_left
       obtain⟨_,s35,rfl⟩:=hA 0 35;obtain⟨_,s37,rfl⟩:=hA 2 37
       rotate_left
       have o7:=oOf (hB 7) rfl
       rotate_left
       obtain⟨_,s38,rfl⟩:=hA 3 38;obtain⟨_,s39,rfl⟩:=hA 4 39;clear hB hA
       ·go_simp;refine (rf_has (iz_take (lo':=0) (hi':=0) (HU9.out.ext eI) (by omega)) (a:Int)).mono ?_;rw[HDA.out];rintro e wj ⟨rfl,ej⟩;go_wp2_with fail;exact hK.out _ _ ej rfl
       obtain⟨_,s40,rfl⟩:=hA 5 40
       rotate_left
       obtain⟨_,s41,rfl⟩:=hA 6 41
       rotate_left
       obtain⟨_,s42,rfl⟩:=hA 7 42;have o1:=oOf (hB 1) rfl;rw[if_pos (by simp[Region.wanted,yielded,s42])]
       rotate_left
       obtain⟨_,s42,rfl⟩:=hA 7 42;have o6:=oOf (hB 6) rfl;rw[if_pos (by simp[Region.wanted,yielded,s42])]
       rotate_left
       obtain⟨_,s42,rfl⟩:=hA 7 42;obtain⟨_,s44,rfl⟩:=hA 9 44;rw[if_pos (by simp[Region.wanted,yielded,s42])]
       rotate_left
       obtain⟨_,s42,rfl⟩:=hA 7 42;obtain⟨_,s43,rfl⟩:=hA 8 43;obtain⟨_,s45,rfl⟩:=hA 10 45;rw[if_pos (by simp[Region.wanted,yielded,s42])]
       rotate_left
       obtain⟨_,s42,rfl⟩:=hA 7 42;have o8:=oOf (hB 8) rfl;rw[if_pos (by simp[Region.wanted,yielded,s42])]
       rotate_left
       obtain⟨_,s42,rfl⟩:=hA 7 42;obtain⟨_,s46,rfl⟩:=hA 11 46;obtain⟨_,s47,rfl⟩:=hA 12 47;clear hB hA;rw[if_pos (by simp[Region.wanted,yielded,s42])]
       ·go_simp;refine (rf_has (iz_take (lo':=0) (hi':=0) (HU9.out.ext eI) (by omega)) (b:Int)).mono ?_;rw[HDB.out];rintro e wj ⟨rfl,ej⟩;go_wp2_with fail;exact hK.out _ _ ej rfl
       obtain⟨_,s42,rfl⟩:=hA 7 42;obtain⟨_,s48,rfl⟩:=hA 13 48;rw[if_pos (by simp[Region.wanted,yielded,s42])]
       rotate_left
       obtain⟨_,s42,rfl⟩:=hA 7 42;obtain⟨_,s49,rfl⟩:=hA 14 49
       rotate_left
       obtain⟨_,s50,rfl⟩:=hA 15 50
       rotate_left
       obtain⟨_,s51,rfl⟩:=hA 16 51;have o2:=oOf (hB 2) rfl;rw[if_pos (by simp[Region.wanted,yielded,s51])];have cc0:=eI.cell p0;have cc1:=eI.cell a0;have cc2:=eI.cell a1;have cc3:=eI.cell a2
       rotate_left
       obtain⟨_,s51,rfl⟩:=hA 16 51;have o5:=oOf (hB 5) rfl;rw[if_pos (by simp[Region.wanted,yielded,s51])]
       rotate_left
       obtain⟨_,s51,rfl⟩:=hA 16 51;have o7:=oOf (hB 7) rfl;rw[if_pos (by simp[Region.wanted,yielded,s51])]
       rotate_left
       obtain⟨_,s51,rfl⟩:=hA 16 51;have o1:=oOf (hB 1) rfl;rw[if_pos (by simp[Region.wanted,yielded,s51])]
       rotate_left
       obtain⟨_,s51,rfl⟩:=hA 16 51;have o6:=oOf (hB 6) rfl;rw[if_pos (by simp[Region.wanted,yielded,s51])]
       rotate_left
       obtain⟨_,s51,rfl⟩:=hA 16 51;obtain⟨_,s55,rfl⟩:=hA 20 55;obtain⟨_,s56,rfl⟩:=hA 21 56;rw[if_pos (by simp[Region.wanted,yielded,s51])]
       rotate_left
       obtain⟨_,s51,rfl⟩:=hA 16 51;obtain⟨_,s57,rfl⟩:=hA 22 57;rw[if_pos (by simp[Region.wanted,yielded,s51])];have cc0:=eI.cell p0
       rotate_left
       obtain⟨_,s51,rfl⟩:=hA 16 51;obtain⟨_,s52,rfl⟩:=hA 17 52;obtain⟨_,s53,rfl⟩:=hA 18 53;obtain⟨_,s54,rfl⟩:=hA 19 54;obtain⟨_,s58,rfl⟩:=hA 23 58;clear hB hA;rw[if_pos (by simp[Region.wanted,yielded,s51])]
       ·go_simp;refine (HJC.out _ (HEr.out.trans eI) _ _ (HP.out.ext eI) a q).mono ?_;rw[HJA.out];rintro e wj ⟨rfl,ej⟩;go_wp2_with fail;exact hK.out _ _ ej rfl
       obtain⟨_,s51,rfl⟩:=hA 16 51;obtain⟨_,s59,rfl⟩:=hA 24 59
       rotate_left
       obtain⟨_,s60,rfl⟩:=hA 25 60
       rotate_left
       obtain⟨_,s61,rfl⟩:=hA 26 61;have o2:=oOf (hB 2) rfl;rw[if_pos (by simp[Region.wanted,yielded,s61])];have cc0:=eI.cell p0;have cc1:=eI.cell a0;have cc2:=eI.cell a1;have cc3:=eI.cell a2
       rotate_left
       obtain⟨_,s61,rfl⟩:=hA 26 61;have o5:=oOf (hB 5) rfl;rw[if_pos (by simp[Region.wanted,yielded,s61])]
       rotate_left
       obtain⟨_,s61,rfl⟩:=hA 26 61;have o8:=oOf (hB 8) rfl;rw[if_pos (by simp[Region.wanted,yielded,s61])]
       rotate_left
       obtain⟨_,s61,rfl⟩:=hA 26 61;have o1:=oOf (hB 1) rfl;rw[if_pos (by simp[Region.wanted,yielded,s61])]
       rotate_left
       obtain⟨_,s61,rfl⟩:=hA 26 61;have o6:=oOf (hB 6) rfl;rw[if_pos (by simp[Region.wanted,yielded,s61])]
       rotate_left
       obtain⟨_,s61,rfl⟩:=hA 26 61;obtain⟨_,s65,rfl⟩:=hA 30 65;obtain⟨_,s66,rfl⟩:=hA 31 66;rw[if_pos (by simp[Region.wanted,yielded,s61])]
       rotate_left
       obtain⟨_,s61,rfl⟩:=hA 26 61;obtain⟨_,s67,rfl⟩:=hA 32 67;rw[if_pos (by simp[Region.wanted,yielded,s61])];have cc0:=eI.cell p0
       rotate_left
       obtain⟨_,s61,rfl⟩:=hA 26 61;obtain⟨_,s62,rfl⟩:=hA 27 62;obtain⟨_,s63,rfl⟩:=hA 28 63;obtain⟨_,s64,rfl⟩:=hA 29 64;obtain⟨_,s68,rfl⟩:=hA 33 68;clear hB hA;rw[if_pos (by simp[Region.wanted,yielded,s61])]
       ·go_simp;refine (HJC.out _ (HEr.out.trans eI) _ _ (HP.out.ext eI) b q).mono ?_;rw[HJB.out];rintro e wj ⟨rfl,ej⟩;go_wp2_with fail;exact hK.out _ _ ej rfl
       obtain⟨_,s61,rfl⟩:=hA 26 61;obtain⟨_,s69,rfl⟩:=hA 34 69
       rotate_left
       obtain⟨_,s70,rfl⟩:=hA 35 70
       rotate_left
       obtain⟨_,s71,rfl⟩:=hA 36 71;have o2:=oOf (hB 2) rfl;rw[if_pos (by simp[Region.wanted,yielded,s71])];have cc0:=eI.cell p0;have cc1:=eI.cell a0;have cc2:=eI.cell a1;have cc3:=eI.cell a2
       rotate_left
       obtain⟨_,s71,rfl⟩:=hA 36 71;have o5:=oOf (hB 5) rfl;rw[if_pos (by simp[Region.wanted,yielded,s71])]
       rotate_left
       obtain⟨_,s71,rfl⟩:=hA 36 71;have o7:=oOf (hB 7) rfl;rw[if_pos (by simp[Region.wanted,yielded,s71])]
       rotate_left
       obtain⟨_,s71,rfl⟩:=hA 36 71;have o8:=oOf (hB 8) rfl;rw[if_pos (by simp[Region.wanted,yielded,s71])]
       rotate_left
       obtain⟨_,s71,rfl⟩:=hA 36 71;obtain⟨_,s72,rfl⟩:=hA 37 72;obtain⟨_,s73,rfl⟩:=hA 38 73;obtain⟨_,s74,rfl⟩:=hA 39 74;obtain⟨_,s75,rfl⟩:=hA 40 75;clear hB hA;rw[if_pos (by simp[Region.wanted,yielded,s71])]
       ·go_simp;refine (HJC.out _ (HEr.out.trans eI) _ _ (HP.out.ext eI) a b).mono ?_;rw[HJD.out];rintro e wj ⟨rfl,ej⟩;go_wp2_with fail;exact hK.out _ _ ej rfl
       obtain⟨_,s71,rfl⟩:=hA 36 71;obtain⟨_,s76,rfl⟩:=hA 41 76;rw[if_pos (by simp[Region.wanted,yielded,s71])]
       rotate_left
       obtain⟨_,s71,rfl⟩:=hA 36 71;obtain⟨_,s77,rfl⟩:=hA 42 77
       rotate_left
       all_goals clear hB hA;go_simp;exact q_k hK rfl
      intro vals wz eZ hJ;have J78:vals 43=_:=hJ 43 (by decide) (by decide);clear hJ;simp only[pr,Nat.reduceAdd,J78];clear J78;refine qg (by kernel_rfl) ?_ _;go_wp2_with fail
      go_meet
      exact⟨by rw[HCD.out];rfl,eZ⟩
     | true =>
      refine jP [Mn.eq (.slice (some ⟨bu,ou,none⟩) n c4),Mn.i (k:Int),Mn.i (K1:Int),Mn.eq (.slice (some ⟨bu,ou,none⟩) K1 c4),Mn.i (a:Int),Mn.t false,Mn.t true,Mn.t true,Mn.eq (.slice (some ⟨bu,ou,none⟩) n c4),Mn.i (k:Int),Mn.i (K1:Int),Mn.eq (.slice (some ⟨bu,ou,none⟩) K1 c4),Mn.i (b:Int),Mn.t false,Mn.t true,Mn.t true,Mn.t true,Mn.eq (.agg #[.slice A1 ns c1,.slice A2 Z.nb c2,.slice A3 Z.k c3]),Mn.eq (.slice Ap lp.length cp),Mn.i (a:Int),Mn.eq (.slice (some ⟨bu,ou,none⟩) n c4),Mn.i (k:Int),Mn.q bu (ou+k),Mn.i (q:Int),Mn.t true,Mn.t true,Mn.t true,Mn.eq (.agg #[.slice A1 ns c1,.slice A2 Z.nb c2,.slice A3 Z.k c3]),Mn.eq (.slice Ap lp.length cp),Mn.i (b:Int),Mn.eq (.slice (some ⟨bu,ou,none⟩) n c4),Mn.i (k:Int),Mn.q bu (ou+k),Mn.i (q:Int),Mn.t true,Mn.t true,Mn.t true,Mn.eq (.agg #[.slice A1 ns c1,.slice A2 Z.nb c2,.slice A3 Z.k c3]),Mn.eq (.slice Ap lp.length cp),Mn.i (a:Int),Mn.i (b:Int),Mn.t true,Mn.t false,Mn.t false] (sM [35,36,37,38,39,40,41,42,43,44,45,46,47,48,49,50,51,52,53,54,55,56,57,58,59,60,61,62,63,64,65,66,67,68,69,70,71,72,73,74,75,76,77,78]) [] (rQ 44 0) 0 (by kernel_rfl) ?_ ?_
      ·show ∀ i,i<44->_
       iterate 44 refine fs ?_ ?_
       ·exact fz
       all_goals intro hl;clear hl;refine stp rfl ?_;intro ac wi eI hB hA K hK
       have o1:=oOf (hB 1) rfl
       rotate_left
       have o6:=oOf (hB 6) rfl
       rotate_left
       obtain⟨_,s36,rfl⟩:=hA 1 36
       rotate_left
       obtain⟨_,s35,rfl⟩:=hA 0 35;obtain⟨_,s37,rfl⟩:=hA 2 37
       rotate_left
       have o7:=oOf (hB 7) rfl
       rotate_left
       obtain⟨_,s38,rfl⟩:=hA 3 38;obtain⟨_,s39,rfl⟩:=hA 4 39;clear hB hA
       ·go_simp;refine (rf_has (iz_take (lo':=0) (hi':=0) (HU9.out.ext eI) (by omega)) (a:Int)).mono ?_;rw[HDA.out];rintro e wj ⟨rfl,ej⟩;go_wp2_with fail;exact hK.out _ _ ej rfl
       obtain⟨_,s40,rfl⟩:=hA 5 40
       rotate_left
       obtain⟨_,s41,rfl⟩:=hA 6 41
       rotate_left
       obtain⟨_,s42,rfl⟩:=hA 7 42;have o1:=oOf (hB 1) rfl;rw[if_pos (by simp[Region.wanted,yielded,s42])]
       rotate_left
       obtain⟨_,s42,rfl⟩:=hA 7 42;have o6:=oOf (hB 6) rfl;rw[if_pos (by simp[Region.wanted,yielded,s42])]
       rotate_left
       obtain⟨_,s42,rfl⟩:=hA 7 42;obtain⟨_,s44,rfl⟩:=hA 9 44;rw[if_pos (by simp[Region.wanted,yielded,s42])]
       rotate_left
       obtain⟨_,s42,rfl⟩:=hA 7 42;obtain⟨_,s43,rfl⟩:=hA 8 43;obtain⟨_,s45,rfl⟩:=hA 10 45;rw[if_pos (by simp[Region.wanted,yielded,s42])]
       rotate_left
       obtain⟨_,s42,rfl⟩:=hA 7 42;have o8:=oOf (hB 8) rfl;rw[if_pos (by simp[Region.wanted,yielded,s42])]
       rotate_left
       obtain⟨_,s42,rfl⟩:=hA 7 42;obtain⟨_,s46,rfl⟩:=hA 11 46;obtain⟨_,s47,rfl⟩:=hA 12 47;clear hB hA;rw[if_pos (by simp[Region.wanted,yielded,s42])]
       ·go_simp;refine (rf_has (iz_take (lo':=0) (hi':=0) (HU9.out.ext eI) (by omega)) (b:Int)).mono ?_;rw[HDB.out];rintro e wj ⟨rfl,ej⟩;go_wp2_with fail;exact hK.out _ _ ej rfl
       obtain⟨_,s42,rfl⟩:=hA 7 42;obtain⟨_,s48,rfl⟩:=hA 13 48;rw[if_pos (by simp[Region.wanted,yielded,s42])]
       rotate_left
       obtain⟨_,s42,rfl⟩:=hA 7 42;obtain⟨_,s49,rfl⟩:=hA 14 49
       rotate_left
       obtain⟨_,s50,rfl⟩:=hA 15 50
       rotate_left
       obtain⟨_,s51,rfl⟩:=hA 16 51;have o2:=oOf (hB 2) rfl;rw[if_pos (by simp[Region.wanted,yielded,s51])];have cc0:=eI.cell p0;have cc1:=eI.cell a0;have cc2:=eI.cell a1;have cc3:=eI.cell a2
       rotate_left
       obtain⟨_,s51,rfl⟩:=hA 16 51;have o5:=oOf (hB 5) rfl;rw[if_pos (by simp[Region.wanted,yielded,s51])]
       rotate_left
       obtain⟨_,s51,rfl⟩:=hA 16 51;have o7:=oOf (hB 7) rfl;rw[if_pos (by simp[Region.wanted,yielded,s51])]
       rotate_left
       obtain⟨_,s51,rfl⟩:=hA 16 51;have o1:=oOf (hB 1) rfl;rw[if_pos (by simp[Region.wanted,yielded,s51])]
       rotate_left
       obtain⟨_,s51,rfl⟩:=hA 16 51;have o6:=oOf (hB 6) rfl;rw[if_pos (by simp[Region.wanted,yielded,s51])]
       rotate_left
       obtain⟨_,s51,rfl⟩:=hA 16 51;obtain⟨_,s55,rfl⟩:=hA 20 55;obtain⟨_,s56,rfl⟩:=hA 21 56;rw[if_pos (by simp[Region.wanted,yielded,s51])]
       rotate_left
       obtain⟨_,s51,rfl⟩:=hA 16 51;obtain⟨_,s57,rfl⟩:=hA 22 57;rw[if_pos (by simp[Region.wanted,yielded,s51])];have cc0:=eI.cell p0
       rotate_left
       obtain⟨_,s51,rfl⟩:=hA 16 51;obtain⟨_,s52,rfl⟩:=hA 17 52;obtain⟨_,s53,rfl⟩:=hA 18 53;obtain⟨_,s54,rfl⟩:=hA 19 54;obtain⟨_,s58,rfl⟩:=hA 23 58;clear hB hA;rw[if_pos (by simp[Region.wanted,yielded,s51])]
       ·go_simp;refine (HJC.out _ (HEr.out.trans eI) _ _ (HP.out.ext eI) a q).mono ?_;rw[HJA.out];rintro e wj ⟨rfl,ej⟩;go_wp2_with fail;exact hK.out _ _ ej rfl
       obtain⟨_,s51,rfl⟩:=hA 16 51;obtain⟨_,s59,rfl⟩:=hA 24 59
       rotate_left
       obtain⟨_,s60,rfl⟩:=hA 25 60
       rotate_left
       obtain⟨_,s61,rfl⟩:=hA 26 61;have o2:=oOf (hB 2) rfl;rw[if_pos (by simp[Region.wanted,yielded,s61])];have cc0:=eI.cell p0;have cc1:=eI.cell a0;have cc2:=eI.cell a1;have cc3:=eI.cell a2
       rotate_left
       obtain⟨_,s61,rfl⟩:=hA 26 61;have o5:=oOf (hB 5) rfl;rw[if_pos (by simp[Region.wanted,yielded,s61])]
       rotate_left
       obtain⟨_,s61,rfl⟩:=hA 26 61;have o8:=oOf (hB 8) rfl;rw[if_pos (by simp[Region.wanted,yielded,s61])]
       rotate_left
       obtain⟨_,s61,rfl⟩:=hA 26 61;have o1:=oOf (hB 1) rfl;rw[if_pos (by simp[Region.wanted,yielded,s61])]
       rotate_left
       obtain⟨_,s61,rfl⟩:=hA 26 61;have o6:=oOf (hB 6) rfl;rw[if_pos (by simp[Region.wanted,yielded,s61])]
       rotate_left
       obtain⟨_,s61,rfl⟩:=hA 26 61;obtain⟨_,s65,rfl⟩:=hA 30 65;obtain⟨_,s66,rfl⟩:=hA 31 66;rw[if_pos (by simp[Region.wanted,yielded,s61])]
       rotate_left
       obtain⟨_,s61,rfl⟩:=hA 26 61;obtain⟨_,s67,rfl⟩:=hA 32 67;rw[if_pos (by simp[Region.wanted,yielded,s61])];have cc0:=eI.cell p0
       rotate_left
       obtain⟨_,s61,rfl⟩:=hA 26 61;obtain⟨_,s62,rfl⟩:=hA 27 62;obtain⟨_,s63,rfl⟩:=hA 28 63;obtain⟨_,s64,rfl⟩:=hA 29 64;obtain⟨_,s68,rfl⟩:=hA 33 68;clear hB hA;rw[if_pos (by simp[Region.wanted,yielded,s61])]
       ·go_simp;refine (HJC.out _ (HEr.out.trans eI) _ _ (HP.out.ext eI) b q).mono ?_;rw[HJB.out];rintro e wj ⟨rfl,ej⟩;go_wp2_with fail;exact hK.out _ _ ej rfl
       obtain⟨_,s61,rfl⟩:=hA 26 61;obtain⟨_,s69,rfl⟩:=hA 34 69
       rotate_left
       obtain⟨_,s70,rfl⟩:=hA 35 70
       rotate_left
       obtain⟨_,s71,rfl⟩:=hA 36 71;have o2:=oOf (hB 2) rfl;rw[if_pos (by simp[Region.wanted,yielded,s71])];have cc0:=eI.cell p0;have cc1:=eI.cell a0;have cc2:=eI.cell a1;have cc3:=eI.cell a2
       rotate_left
       obtain⟨_,s71,rfl⟩:=hA 36 71;have o5:=oOf (hB 5) rfl;rw[if_pos (by simp[Region.wanted,yielded,s71])]
       rotate_left
       obtain⟨_,s71,rfl⟩:=hA 36 71;have o7:=oOf (hB 7) rfl;rw[if_pos (by simp[Region.wanted,yielded,s71])]
       rotate_left
       obtain⟨_,s71,rfl⟩:=hA 36 71;have o8:=oOf (hB 8) rfl;rw[if_pos (by simp[Region.wanted,yielded,s71])]
       rotate_left
       obtain⟨_,s71,rfl⟩:=hA 36 71;obtain⟨_,s72,rfl⟩:=hA 37 72;obtain⟨_,s73,rfl⟩:=hA 38 73;obtain⟨_,s74,rfl⟩:=hA 39 74;obtain⟨_,s75,rfl⟩:=hA 40 75;clear hB hA;rw[if_pos (by simp[Region.wanted,yielded,s71])]
       ·go_simp;refine (HJC.out _ (HEr.out.trans eI) _ _ (HP.out.ext eI) a b).mono ?_;rw[HJD.out];rintro e wj ⟨rfl,ej⟩;go_wp2_with fail;exact hK.out _ _ ej rfl
       obtain⟨_,s71,rfl⟩:=hA 36 71;obtain⟨_,s76,rfl⟩:=hA 41 76;rw[if_pos (by simp[Region.wanted,yielded,s71])]
       rotate_left
       obtain⟨_,s71,rfl⟩:=hA 36 71;obtain⟨_,s77,rfl⟩:=hA 42 77
       rotate_left
       all_goals clear hB hA;go_simp;exact q_k hK rfl
      intro vals wz eZ hJ;have J78:vals 43=_:=hJ 43 (by decide) (by decide);clear hJ;simp only[pr,Nat.reduceAdd,J78];clear J78;refine qg (by kernel_rfl) ?_ _;go_wp2_with fail
      go_meet
      exact⟨by rw[HCD.out];rfl,eZ⟩
    obtain⟨rfl,hcut⟩:=hcut;have HGP2:=q_h (HGP.out.ext hcut);have HB2:=q_h (hcut.block HB.out);have HE2:Hid (Ext w wc):=HEr.out.trans hcut;clear hcut HGP HP HB HEr a0 a1 a2 p0 HDA HDB HJA HJB HJD HIU hA4;cases cd with
    | false =>
     have HJ9:Hid (∀ x y,x<ns->y<ns->(G x y||inP lp x y)=q8a J d q a (b+1) x y):=fun x y hx hy=>by rw[HJ.out x y hx hy,q8M HJS.out hab HCX.out.symm]
     go_wp2;go_roundw
     case rel=>exact⟨b+1,lp,Ap,cp,by omega,by omega,by go_num,rfl,by omega,HGP2,HJ9,HB2,HE2⟩
     case measure=>simp[intOf];omega
    | true =>
     have HJ9:Hid (∀ x y,x<ns->y<ns->(G x y||inP (lp ++ [(a,b)]) x y)=q8a J d q a (b+1) x y):=fun x y hx hy=>by rw[q8x,<-Bool.or_assoc,HJ.out x y hx hy,q8H HJS.out hab HCX.out.symm]
     go_wp2_with (at_builtin;refine q_o ?_);refine qp ?_;intro w5 e5 hsz5 B5;refine jG Wx rfl _ _ 61 Tryz.underlying61 rfl (by rfl) (HGP2.out.ext e5) (m:=1) (c:=1) (news:=[.int .i64 (a:Int),.int .i64 (b:Int)]) (by rfl) rfl (q5f B5) (by simp[Value.oneCell']) (by omega) ?_;rintro v6 w6 hG6 hat6 ⟨g6,hlo6,hw6,C6⟩;obtain⟨A6,c6,rfl⟩:=hG6.form
     have HG6:Hid (zH 69 2 (g0+1) w6 (.slice A6 (lp ++ [(a,b)]).length c6) (lp ++ [(a,b)]).length (prv (lp ++ [(a,b)]))):=by
      rw[Hid,q1v,List.length_append];exact hG6
     have HL6:Hid ((lp ++ [(a,b)]).length=lp.length+1):=by rw[Hid,List.length_append];rfl
     have HB6:=q_h (C6.blk (e5.block HB2.out) (.inl (by omega)));have HE6:Hid (Ext w w6):=C6.ext (HE2.out.trans e5) (by omega);clear hG6 hat6 hw6 hlo6 C6 B5 hsz5 e5 HGP2 HB2 HE2;go_wp2;go_roundw
     case rel=>exact⟨b+1,lp ++ [(a,b)],A6,c6,by omega,by omega,by go_num,by rw[HL6.out],by rw[HL6.out];omega,HG6,HJ9,HB6,HE6⟩
     case measure=>simp[intOf];omega
theorem q8g:∀ (l:List Nat) (G:Nat->Nat->Bool) (e:Nat),(∀ j,G e j=false/\G j e=false)->∀ j,elimL G l e j=false/\elimL G l j e=false
 | [],_,_,h,j=>h j
 | x :: l,G,e,h,j=>by
  refine q8g l (Y6 G x) e (fun j=>?_) j;unfold Y6;rw[(h j).1,(h j).2,(h x).2]
  simp
theorem q8d:∀ (l:List Nat) (G:Nat->Nat->Bool) (e:Nat),e∈l->∀ j,elimL G l e j=false/\elimL G l j e=false
 | x :: l,G,e,he,j=>by
  rcases List.mem_cons.1 he with h | h
  ·subst h;refine q8g l (Y6 G e) e (fun j=>?_) j;unfold Y6
   simp
  ·exact q8d l (Y6 G x) e h j
theorem q8z (G:Nat->Nat->Bool) (n:Nat):∀ t,(wP G n t).1=elimL G (wP G n t).2
 | 0=>rfl
 | t+1=>by
  show YC (wP G n t).1 _=elimL G ((wP G n t).2 ++ [_])
  rw[q0j,<-q8z G n t,<-q75]
theorem q8u {G:Nat->Nat->Bool}(o:Nat->Nat){a b:Nat}(h:G a b=true):∀ k,q88 G o k a b=true
 | 0=>h
 | k+1=>by
  rw[q8i];unfold stepJ;rw[q8u o h k,Bool.true_or]
theorem q8G {G:Nat->Nat->Bool}(hG:GrS G){ol:List Nat}(hnd:ol.Nodup){a t:Nat}(ha:a<n) (hb:b<n) (ha':¬ a∈ol){o:Nat->Nat}(ho:ol=(List.range t).map o):(!decide (b=a) && !inO ol b&&(G a b||inP (rfL (fun a b=>q88 G o t a b && !G a b) n n) a b))=elimL G ol a b:=by
 by_cases hba:b=a
 ·subst hba;rw[(GrS.elimL ol hG).irr,decide_eq_true rfl]
  rfl
 by_cases hbo:b∈ol
 ·rw[(q8d ol G b hbo a).2,q1Z.2 hbo,Bool.not_true,Bool.and_false,Bool.false_and]
 have h1:inO ol b=false:=by rw[Bool.eq_false_iff];intro h;exact hbo (q1Z.1 h)
 rw[q_f hba,h1,Bool.not_false,Bool.true_and,Bool.true_and]
 have h2:q88 G o t a b=elimL G ol a b:=by
  unfold q88;rw[<-ho];exact q8c ol [] G G hG (fun _ _ _ _=>rfl) (fun _ _=>by simp) hnd a b (by simp) (by simp) (by simpa using ha') (by simpa using hbo)
 rw[<-h2];cases hg:G a b with
 | true=>rw[Bool.true_or,q8u o hg t]
 | false =>
  rw[Bool.false_or,Bool.eq_iff_iff,q8h,q5R,q5R];have hg':G b a=false:=by rw[hG.symm];exact hg
  simp only[hg,hg',Bool.not_false,Bool.and_true];have h3:=q8t hG o t a b
  constructor
  ·rintro (⟨-,-,-,h⟩ | ⟨-,-,-,h⟩)
   ·exact h
   ·rw[h3];exact h
  ·intro h
   rcases Nat.lt_or_ge a b with h4 | h4
   ·exact .inl ⟨ha,h4,hb,h⟩
   ·exact .inr ⟨hb,by show b<a;omega,ha,by rw[<-h3];exact h⟩
theorem q8s (f:Nat->Bool) (n:Nat):ZU f (n+1)=ZU f n+(if f n=true then 1 else 0):=rfl
def q8K:Value->Nat
 | .slice _ n _=>n
 | _=>0
theorem q8l (ol:List Nat):ol=(List.range ol.length).map (fun j=>ol[j]?.getD 0):=by
 refine List.ext_getElem (by simp) fun i h1 h2=>?_
 simp[List.getElem?_eq_getElem h1]
def q8J (w:World) (Z:Sys) (e:Ending) (w':World):Prop :=
 ∃ A c,e=.returned (.slice A Z.ns c)/\IxV 0 0 w'.heap.size w' (.slice A Z.ns c) Z.ns Z.ns (fun t=>(wP (jw Z Z.nb) Z.ns Z.ns).2[t]?.getD 0)/\Ext w w'
theorem q8v{Z:Sys}(h:wS N lo hi w v Z) (hns:Z.ns<=12) :
  Calls Tryz.prog 32 #[v] w (q8J w Z):=by
 obtain⟨G,hG⟩:=qc (jw Z Z.nb);have HGS:Hid (GrS G):=by rw[hG.out];exact edg_grs Z Z.nb
 obtain⟨Q,hQ⟩:=qc (q8J w Z);rw[<-hQ.out]
 have HFI:Hid (∀ w',Ext w w'->∀ (u:Value) (t:Nat) (o:Nat->Nat),t<=12->IxV N 0 w'.heap.size w' u t Z.ns o->Calls Tryz.prog 83 #[v,u] w' (q8y w' (rfL (fun a b=>q88 G o t a b && !G a b) Z.ns Z.ns))):=fun w' e u t o ht hu=>by
  rw[hG.out];exact q8E (h.ext e) hns hu ht
 have HJC:Hid (∀ w',Ext w w'->∀ (l:List (Nat×Nat)) (r:Value),PrV w' r l->∀ a c:Nat,Calls Tryz.prog 84 #[v,r,.int .i64 (a:Int),.int .i64 (c:Int)] w' (zG w' (.bool (G a c||inP l a c)))):=fun w' e l r hr a c=>by
  rw[hG.out];exact q8f (h.ext e) hr a c
 obtain⟨A1,c1,A2,c2,A3,c3,rfl,s1,s2,s3,k1,k2,k3⟩:=h.parts;have HN0:Hid (∀ w',Ext w w'->N<=w'.heap.size):=fun w' e=>q_l (LsR.le s3) e.size
 obtain⟨m,hm⟩:=qc Z.ns;rw[<-hm.out] at hns HFI HJC ⊢;have HG0:Hid (Gok G m):=by rw[hG.out];exact Ws
 clear h s1 s2 s3 k1;go_enter Tryz.func32,Tryz.ntmps32
 go_upto_block 0 with (fail)
 refine kL ?_;intro W hE hsz B0 B1;obtain⟨g0,hg0⟩:=qc w.heap.size;have hgw:w.heap.size<=g0:=by rw[hg0.out];exact q_r
 rw[<-hg0.out] at B0 B1 hsz ⊢;have HB0:=q_h B0;have HEW:=q_h hE;have HO0:Hid (zl 3 (g0+1) W (.slice (some ⟨g0+1,0,none⟩) 0 0) (ivs (wP G m 0).2)):=zl.empty (q_r) B1;obtain⟨w1,hw1⟩:∃ w1,w1=W:=⟨_,rfl⟩
 subst hw1;clear hg0 B0 B1 hE hsz;go_wp2_with fail
 go_loopw [3] (fun sv wr=>∃ (t:Nat) (A:Option Addr) (c:Nat),t<=m/\sv=.slice A t c/\Hid (zl 3 (g0+1) wr (.slice A t c) (ivs (wP G m t).2))/\Hid (wr.heap[g0]?=some (.cells #[.slice A1 m c1,.slice A2 Z.nb c2,.slice A3 Z.k c3] 26 (0,0)))/\Hid (Ext w wr)) (fun sv _=>m - q8K sv)
 case atStart=>exact⟨0,_,0,Nat.zero_le _,rfl,HO0,HB0,HEW⟩
 case round =>
  clear HO0 HB0 HEW;obtain⟨t,A,c,ht9,rfl,HO,HB,HEr⟩:=hrel;have HT:=q_h (q1B HG0.out t ht9);obtain⟨a0,a1,a2,-⟩:=cells3 HB.out
  by_cases hlt:t<m
  case neg =>
   have t1:decide ((t:Int)<(m:Int))=false:=q_f (by omega);have t1':decide (t<m)=false:=q_f (by omega);obtain rfl:m=t:=by omega
   have HIX:Hid (IxV 0 0 wr.heap.size wr (.slice A m c) m m (fun t=>(wP G m m).2[t]?.getD 0)):=by
    have h1:=Qi (N:=0) HO.out HT.out.2.2.1;rw[HT.out.2.1] at h1;exact h1
   go_wp2
   first | go_ret | skip
   rw[hQ.out];unfold q8J;rw[<-hm.out,<-hG.out];exact⟨A,c,rfl,HIX.out,HEr.out⟩
  have t1:decide ((t:Int)<(m:Int))=true:=q_t (by omega);have t1':decide (t<m)=true:=q_t hlt;obtain⟨H,hH⟩:=qc (wP G m t).1;obtain⟨ol,hol⟩:=qc (wP G m t).2;have HHE:Hid (H=elimL G ol):=by rw[Hid,hH.out,hol.out];exact q8z G m t
  rw[<-hH.out,<-hol.out] at HT;rw[<-hol.out] at HO
  have HIX:Hid (IxV N 0 wr.heap.size wr (.slice A t c) t m (fun j=>ol[j]?.getD 0)):=by
   have h1:=Qi (N:=N) HO.out HT.out.2.2.1;rw[HT.out.2.1] at h1;exact h1
  obtain⟨lp,hlp⟩:=qc (rfL (fun a b=>q88 G (fun j=>ol[j]?.getD 0) t a b && !G a b) m m)
  have HDG:Hid (∀ a,a<m->inO ol a=false->∀ b,b<m->(!decide (b=a) && !inO ol b&&(G a b||inP lp a b))=H a b):=fun a ha hna b hb=>by
   rw[hlp.out,HHE.out];refine q8G HGS.out HT.out.2.2.2 ha hb (fun h9=>by rw[q1Z.2 h9] at hna;cases hna) ?_;have h9:=q8l ol;rw[HT.out.2.1] at h9;exact h9
  go_wp2_with (go_at_call 83;refine q_o ?_);refine (HFI.out _ HEr.out _ t _ (by omega) HIX.out).mono ?_;rintro e w2 ⟨vp,rfl,hp,e2⟩;rw[<-hlp.out] at hp;have HP:=q_h hp;obtain⟨Ap,cp,rfl,-⟩:=hp;have HO2:=q_h (HO.out.ext e2);have HB2:=q_h (e2.block HB.out);have HE2:Hid (Ext w w2):=HEr.out.trans e2;have HIX2:=q_h (HIX.out.ext e2)
  have HIN:Hid (∀ k:Nat,xg t (fun j=>decide (((ol[j]?.getD 0:Nat):Int)=(k:Int)))=inO ol k):=fun k=>by
   unfold inO;rw[HT.out.2.1]
  clear HO HB HEr HIX e2 a0 a1 a2;obtain⟨a0,a1,a2,-⟩:=cells3 HB2.out;go_wp2_with fail
  go_loopw [7,5,6] (fun iv bv lv wr=>∃ k:Nat,k<=m/\iv=.int .i64 (k:Int)/\bv=.int .i64 (Qz H m ol k)/\lv=.int .i64 (if Qz H m ol k<0 then 0 else (ZU (H (Qz H m ol k).toNat) m:Int))/\Hid (Ext w2 wr)) (fun iv _ _ _=>m - (intOf iv).toNat)
  case atStart=>exact⟨0,Nat.zero_le _,rfl,rfl,rfl,Ext.refl _⟩
  case round =>
   clear a0 a1 a2;obtain⟨k,hk9,rfl,rfl,rfl,HE⟩:=hrel;have HBr:=q_h (HE.out.block HB2.out);obtain⟨a0,a1,a2,-⟩:=cells3 HBr.out
   by_cases hlk:k<m
   case neg =>
    have t3:decide ((k:Int)<(m:Int))=false:=q_f (by omega);obtain rfl:m=k:=by omega
    have hb0:=q2A (G:=H) (n:=m) (o:=ol) m (Y5 (by rw[HT.out.2.1];exact hlt));have hb1:=(q2B (G:=H) (n:=m) (o:=ol) m).2;obtain⟨b,hb⟩:=qc (Qz H m ol m).toNat;rw[show Qz H m ol m=(b:Int) by have:=hb.out;omega];obtain⟨ls,hls⟩:=qc (if (b:Int)<0 then (0:Int) else (ZU (H (b:Int).toNat) m:Int));rw[<-hls.out];have hbm:b<m:=by have:=hb.out;omega
    have HOr:=q_h (HO2.out.ext HE.out);have HEr:Hid (Ext w wr):=HE2.out.trans HE.out;have holl:ol.length=t:=HT.out.2.1;have HP2:Hid ((wP G m (t+1)).2=ol ++ [b]):=by rw[hb.out,hH.out,hol.out];rfl
    have hivl:(ivs ol).length=t:=by rw[kC];exact holl
    have hxl1:(ivs ol).length+1<=1000000000:=by omega
    clear HO2 HE HIX2 hb0 hb1 hls;go_wp2_with (at_builtin;refine q_o ?_);refine qp ?_;intro w6 e6 hsz6 B6;refine kJ Qd rfl _ _ 22 Tryz.underlying22 rfl (by first | rfl | (rw[hivl])) (HOr.out.ext e6) (m:=1) (c:=1) (news:=[.int .i64 (b:Int)]) (by rfl) rfl (yK B6) (fun x hx=>by rw[List.mem_singleton.1 hx];rfl) (by omega) hxl1 ?_;rintro g18 cap18 w18 hG18 hat18 ⟨g9,hlo,hw9,C9,-⟩;rw[Zm,<-HP2.out] at hG18;rw[hivl] at hG18 ⊢;have HG18:=q_h hG18;have HB18:=q_h (C9.blk (e6.block HBr.out) (.inl (by omega)));have HE18:Hid (Ext w w18):=C9.ext (HEr.out.trans e6) (by omega);clear hG18 hat18 hlo hw9 C9 B6 e6 hsz6 HOr HBr HEr hxl1 hivl holl a0 a1 a2;go_wp2;go_roundw
    case rel=>exact⟨t+1,_,_,by omega,rfl,HG18,HB18,HE18⟩
    case measure=>simp[q8K];omega
   have t3:decide ((k:Int)<(m:Int))=true:=q_t (by omega);have t4:(k:Int)<(m:Int):=by omega
   have HIr:=q_h (HIX2.out.ext HE.out);obtain⟨r,hr⟩:=qc (inO ol k);have hbd:=(q2B (G:=H) (n:=m) (o:=ol) k)
   have HST:Hid (Qz H m ol (k+1)=if (!r&&(decide (Qz H m ol k<0)||decide (ZU (H k) m<ZU (H (Qz H m ol k).toNat) m)))=true then (k:Int) else Qz H m ol k):=by
    rw[hr.out];rfl
   obtain⟨B,hB⟩:=qc (Qz H m ol k);rw[<-hB.out] at HST hbd ⊢;obtain⟨ls,hls⟩:=qc (if B<0 then (0:Int) else (ZU (H B.toNat) m:Int));rw[<-hls.out];go_wp2_with (go_at_call 45;refine q_o ?_);refine (rf_has HIr.out.1 (k:Int)).mono ?_;rintro e w3 ⟨rfl,e3⟩;rw[HIN.out,<-hr.out];have HE3:Hid (Ext w2 w3):=HE.out.trans e3;have HB3:=q_h (e3.block HBr.out);clear a0 a1 a2 HBr HIr HE e3;cases r with
   | true =>
    have HS1:Hid (Qz H m ol (k+1)=B):=by rw[HST.out,Bool.not_true,Bool.false_and,if_neg (by decide)];rfl
    have HS2:Hid (Value.int .i64 ls=Value.int .i64 (if Qz H m ol (k+1)<0 then 0 else (ZU (H (Qz H m ol (k+1)).toNat) m:Int))):=by rw[Hid,HS1.out,hls.out]
    go_wp2;go_roundw
    case rel=>exact⟨k+1,by omega,by go_num,by rw[HS1.out],HS2.out,HE3⟩
    case measure=>simp[intOf];omega
   | false =>
   have HDK:Hid (∀ b,b<m->(!decide (b=k) && !inO ol b&&(G k b||inP lp k b))=H k b):=HDG.out k hlk hr.out.symm;obtain⟨a0,a1,a2,-⟩:=cells3 HB3.out;go_wp2_with fail
   go_loopw [9,8] (fun iv dv wr=>∃ (b d:Nat),b<=m/\iv=.int .i64 (b:Int)/\dv=.int .i64 (d:Int)/\Hid (d=ZU (H k) b)/\d<=b/\Hid (Ext w2 wr)) (fun iv _ _=>m - (intOf iv).toNat)
   case atStart=>exact⟨0,0,Nat.zero_le _,rfl,rfl,rfl,q_r,HE3⟩
   case round =>
    clear a0 a1 a2 HB3 HE3;obtain⟨b,d,hb9,rfl,rfl,HD,hdb,HE⟩:=hrel;have HBr:=q_h (HE.out.block HB2.out);obtain⟨a0,a1,a2,-⟩:=cells3 HBr.out
    by_cases hlb:b<m
    case neg =>
     have t5:decide ((b:Int)<(m:Int))=false:=q_f (by omega);obtain rfl:m=b:=by omega
     obtain⟨tf,htf⟩:=qc (decide (B<0)||decide (ZU (H k) m<ZU (H B.toNat) m));have HS0:Hid (Qz H m ol (k+1)=if tf=true then (k:Int) else B):=by rw[HST.out,htf.out,Bool.not_false,Bool.true_and];rfl
     by_cases hB0:B<0
     ·have t6:decide (B<0)=true:=q_t hB0;have HS1:Hid (Qz H m ol (k+1)=(k:Int)):=by rw[Hid,HS0.out,htf.out,t6,Bool.true_or,if_pos rfl]
      have HS2:Hid (Value.int .i64 (d:Int)=Value.int .i64 (if Qz H m ol (k+1)<0 then 0 else (ZU (H (Qz H m ol (k+1)).toNat) m:Int))):=by
       rw[Hid,HS1.out,if_neg (by omega),Int.toNat_natCast,HD.out]
      clear hB0;go_wp2;go_roundw
      case rel=>exact⟨k+1,by omega,by go_num,by rw[HS1.out],HS2.out,HE⟩
      case measure=>simp[intOf];omega
     have t6:decide (B<0)=false:=q_f hB0;have HLS:Hid (ls=(ZU (H B.toNat) m:Int)):=by rw[Hid,hls.out,if_neg hB0]
     have t7:decide ((d:Int)<ls)=tf:=by
      rw[HLS.out,htf.out,t6,Bool.false_or,HD.out,decide_eq_decide];omega
     cases tf with
     | true =>
      have HS1:Hid (Qz H m ol (k+1)=(k:Int)):=by rw[Hid,HS0.out,if_pos rfl]
      have HS2:Hid (Value.int .i64 (d:Int)=Value.int .i64 (if Qz H m ol (k+1)<0 then 0 else (ZU (H (Qz H m ol (k+1)).toNat) m:Int))):=by
       rw[Hid,HS1.out,if_neg (by omega),Int.toNat_natCast,HD.out]
      clear hB0;go_wp2;go_roundw
      case rel=>exact⟨k+1,by omega,by go_num,by rw[HS1.out],HS2.out,HE⟩
      case measure=>simp[intOf];omega
     | false =>
      have HS1:Hid (Qz H m ol (k+1)=B):=by rw[Hid,HS0.out,if_neg (by decide)]
      have HS2:Hid (Value.int .i64 ls=Value.int .i64 (if Qz H m ol (k+1)<0 then 0 else (ZU (H (Qz H m ol (k+1)).toNat) m:Int))):=by
       rw[Hid,HS1.out,if_neg hB0,HLS.out]
      clear hB0;go_wp2;go_roundw
      case rel=>exact⟨k+1,by omega,by go_num,by rw[HS1.out],HS2.out,HE⟩
      case measure=>simp[intOf];omega
    have t5:decide ((b:Int)<(m:Int))=true:=q_t (by omega);obtain⟨fb,hfb⟩:=qc (H k b);have HFB:Hid ((!decide (b=k) && !inO ol b&&(G k b||inP lp k b))=fb):=by rw[Hid,HDK.out b hlb,hfb.out]
    have HDS:Hid (ZU (H k) (b+1)=d+(if fb=true then 1 else 0)):=by rw[Hid,q8s,<-HD.out,<-hfb.out]
    have HEr:Hid (Ext w wr):=HE2.out.trans HE.out;have HIr:=q_h (HIX2.out.ext HE.out);have HPr:=q_h (HP.out.ext HE.out);go_upto_region 14 with (fail)
    go_cut [52] (fun bv wx=>bv=.bool fb/\Ext wr wx)
    case first =>
     by_cases hbk:b=k
     ·have t6:((b:Int) != (k:Int))=false:=by rw[hbk];simp
      have HCD:Hid (fb=false):=by rw[Hid,<-HFB.out,q_t hbk];rfl
      clear hbk;go_wp2
      go_meet
      exact⟨by rw[HCD.out],Ext.refl _⟩
     have t6:((b:Int) != (k:Int))=true:=by simp;omega
     have HF2:Hid ((!inO ol b&&(G k b||inP lp k b))=fb):=by
      have h9:=HFB.out
      rwa [q_f hbk,Bool.not_false,Bool.true_and] at h9
     clear hbk;go_wp2_with (go_at_call 45;refine q_o ?_);refine (rf_has HIr.out.1 (b:Int)).mono ?_;rintro e w5 ⟨rfl,e5⟩;rw[HIN.out];obtain⟨ib,hib⟩:=qc (inO ol b);rw[<-hib.out] at HF2 ⊢;have a0':=e5.cell a0;have a1':=e5.cell a1;have a2':=e5.cell a2;clear a0 a1 a2;cases ib with
     | true =>
      have HCD:Hid (fb=false):=by rw[Hid,<-HF2.out];rfl
      go_wp2
      go_meet
      exact⟨by rw[HCD.out],e5⟩
     | false =>
      have HF3:Hid ((G k b||inP lp k b)=fb):=by
       have h9:=HF2.out
       rwa [Bool.not_false,Bool.true_and] at h9
      go_wp2_with (go_at_call 84;refine q_o ?_);refine (HJC.out _ (HEr.out.trans e5) _ _ (HPr.out.ext e5) k b).mono ?_;rintro e w6 ⟨rfl,e6⟩;rw[HF3.out];go_wp2
      go_meet
      exact⟨rfl,e5.trans e6⟩
    obtain⟨rfl,hcut⟩:=hcut;have HEc:Hid (Ext w2 wc):=HE.out.trans hcut;clear hcut a0 a1 a2 HEr HIr HPr HBr HE;cases fb with
    | false =>
     have HDN:Hid (d=ZU (H k) (b+1)):=by rw[Hid,HDS.out,if_neg (by decide)];rfl
     go_wp2;go_roundw
     case rel=>exact⟨b+1,d,by omega,by go_num,rfl,HDN,by omega,HEc⟩
     case measure=>simp[intOf];omega
    | true =>
     have HDN:Hid (d+1=ZU (H k) (b+1)):=by rw[Hid,HDS.out,if_pos rfl]
     have t7:IntKind.i64.wrap ((d:Int)+1)=((d+1:Nat):Int):=by rw[wrp (by omega) (by omega)];omega
     go_wp2;go_roundw
     case rel=>exact⟨b+1,d+1,by omega,by go_num,by first | rfl | (go_num),HDN,by omega,HEc⟩
     case measure=>simp[intOf];omega
theorem q8r{Z:Sys}(h:wS N lo hi w v Z) :
  Calls Tryz.prog 6 #[v] w (zG w (.bool true)):=by
 have HFW:=q_h fun (w':World) (e:Ext w w')=>rf_Few (h.ext e)
 have HCK:=q_h fun (hf:FewF Z) (w':World) (e:Ext w w')=>rf_Check (h.ext e) hf.br hf.kb
 have HOR:=q_h fun (hf:FewF Z) (w':World) (e:Ext w w')=>q6E (h.ext e) hf.bz hf.kz
 have HRO:=q_h fun (hn:Z.ns<=12) (w':World) (e:Ext w w')=>q8v (h.ext e) hn
 obtain⟨A1,c1,A2,c2,A3,c3,rfl,s1,s2,s3,k1,k2,k3⟩:=h.parts;clear h s1 s2 s3;go_enter Tryz.func6,Tryz.ntmps6;go_upto_region 1 with (fail);refine qp ?_;intro W hE hsz B0;obtain⟨g0,hg0⟩:=qc w.heap.size;have hgw:w.heap.size<=g0:=by rw[hg0.out];exact q_r
 rw[<-hg0.out] at B0 ⊢;clear hsz hg0;obtain⟨a0,a1,a2,-⟩:=cells3 B0;go_wp2_with (go_at_call 8;refine q_o ?_);refine (q7n _).mono ?_;rintro e w1 ⟨rfl,e1⟩;replace hE:=hE.trans e1;replace B0:=e1.block B0;clear a0 a1 a2 e1;obtain⟨a0,a1,a2,-⟩:=cells3 B0;go_wp2_with (go_at_call 9;refine q_o ?_);refine (HFW.out _ hE).mono ?_;rintro e w2 ⟨rfl,e2⟩;replace hE:=hE.trans e2;replace B0:=e2.block B0;clear a0 a1 a2 e2;obtain⟨a0,a1,a2,-⟩:=cells3 B0;cases hf:q64 Z with
 | false =>
  go_wp2
  first | go_ret | skip
  exact⟨rfl,hE⟩
 | true =>
 have HF:=q_h (few_sys hf);clear hf;obtain⟨cd,hcd⟩:=qc (yO Z);obtain⟨m,hm⟩:=qc Z.ns;rw[<-hm.out] at B0 a0 ⊢;go_wp2_with (go_at_call 30;refine q_o ?_);rw[hm.out];refine (HOR.out HF.out _ hE).mono ?_;rintro e w3 ⟨e3,hcase⟩;have HC:=q_h hcase;rw[<-hcd.out,<-hm.out] at HC;rw[<-hm.out];clear hcase;replace hE:=hE.trans e3;replace B0:=e3.block B0;clear a0 a1 a2 e3;obtain⟨a0,a1,a2,-⟩:=cells3 B0
 rcases HC.out with ⟨h0,rfl⟩ | ⟨h0,A,c,rfl,hix⟩
 ·have HN:=q_h h0;have t1:(cd != 0)=true:=by simpa using h0
  clear h0 HC;go_wp2_with (go_at_call 10;refine q_o ?_);rw[hm.out];refine (HCK.out HF.out _ hE).mono ?_;rintro e w4 ⟨rfl,e4⟩;rw[<-hcd.out];have t2:(cd == cd)=true:=by simp
  go_wp2
  first | go_ret | skip
  exact⟨rfl,hE.trans e4⟩
 ·have HX:=q_h hix;have HN:=q_h h0;have t1:(cd != 0)=false:=by simpa using h0
  have t1':(cd == 0)=true:=by simpa using h0
  have HN12:Hid (Z.ns<=12):=(ZZ (by rw[<-hcd.out];exact h0)).n2;clear h0 hix HC;go_wp2_with (go_at_call 10;refine q_o ?_);rw[hm.out];refine (HCK.out HF.out _ hE).mono ?_;rintro e w4 ⟨rfl,e4⟩;rw[<-hcd.out,<-hm.out];have HX4:=q_h (HX.out.ext e4);replace hE:=hE.trans e4;replace B0:=e4.block B0;clear a0 a1 a2 e4;obtain⟨a0,a1,a2,-⟩:=cells3 B0;clear HX;go_wp2_with (go_at_call 32;refine q_o ?_);rw[hm.out];refine (HRO.out HN12.out _ hE).mono ?_;rintro e w5 ⟨A5,c5,rfl,h5,e5⟩;rw[<-hm.out] at h5 ⊢;have HX5:=q_h (HX4.out.ext e5);have HY5:=q_h h5;clear h5 a0 a1 a2;go_wp2_with (go_at_call 31;refine q_o ?_);refine (q0Z HX5.out.1 HY5.out.1).mono ?_;rintro e w6 ⟨rfl,e6⟩;rw[decide_eq_true rfl,ql.2 (fun i _=>decide_eq_true rfl)];go_wp2
  first | go_ret | skip
  exact⟨rfl,(hE.trans e5).trans e6⟩
end Go.Proofs.YtpkmjhmmmdkodaaGreat
