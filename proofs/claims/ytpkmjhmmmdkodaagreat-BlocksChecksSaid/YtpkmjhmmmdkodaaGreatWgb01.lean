import Derived.Test.YtpkmjhmmmdkodaaGreatWb30
set_option linter.all false
set_option maxHeartbeats 8000000
set_option maxRecDepth 100000
namespace Go.Proofs.YtpkmjhmmmdkodaaGreat
open Go.RowKit
variable {w:World} {N lo hi k g:Nat} {v:Value}
theorem q8k{ns:Nat}{y:Nat->Int}{z:Nat->Nat}(h:IzV N lo hi w v ns y) (hz:∀ i,i<ns->y i=(z i:Int))(hk:k<=ns) (hb:qm z ns<=1000000) (hn:ns<=1000000) :
  Calls Tryz.prog 62 #[v,.int .i64 (k:Int)] w (zG w (.int .i64 (qm z k:Int))):=by
 obtain⟨Q,hQ⟩:=qc (zG w (.int .i64 (qm z k:Int)));rw[<-hQ.out];obtain⟨A1,c1,rfl,k1,k2⟩:=h.form;unfold maxLen at k2;have HI:=q_h h;have HZ:=q_h hz;have HB:=q_h hb;obtain⟨w1,hw1⟩:∃ w1,w1=w:=⟨_,rfl⟩
 have hw1':=q_h hw1;subst hw1;clear h hz hb;go_enter Tryz.func62,Tryz.ntmps62;go_wp2_with fail
 go_loopw [6,5] (fun iv sv wr=>∃ (i s:Nat),i<=k/\iv=.int .i64 (i:Int)/\sv=.int .i64 (s:Int)/\Hid (s=qm z i)/\wr=w1) (fun iv _ _=>k - (intOf iv).toNat)
 case atStart=>exact⟨0,0,Nat.zero_le _,rfl,rfl,rfl,rfl⟩
 case round =>
  obtain⟨i,s,hi9,rfl,rfl,HS,rfl⟩:=hrel
  by_cases hlt:i<k
  case neg =>
   have t1:decide ((i:Int)<(k:Int))=false:=q_f (by omega);obtain rfl:k=i:=by omega
   go_wp2
   first | go_ret | skip
   rw[hQ.out,<-HS.out];exact⟨rfl,Ext.refl _⟩
  have t1:decide ((i:Int)<(k:Int))=true:=q_t (by omega);have t2:(i:Int)<(ns:Int):=by omega
  obtain⟨b,off,rfl,hx⟩:=HI.out.addr (by omega);have p0:=hx i (by omega);rw[HZ.out i (by omega)] at p0;obtain⟨q,hq⟩:=qc (z i);rw[<-hq.out] at p0
  have hb1:s+q<=1000000:=by
   have h1:=zC z (show i+1<=ns by omega);have h2:qm z (i+1)=qm z i+z i:=rfl;have h3:=HS.out;have h4:=hq.out;have h5:=HB.out;omega
  have t3:IntKind.i64.wrap ((s:Int)+(q:Int))=((s+q:Nat):Int):=by rw[wrp (by omega) (by omega)];omega
  have HS2:Hid (s+q=qm z (i+1)):=by rw[Hid,HS.out,hq.out];rfl
  clear hx;go_wp2;go_roundw
  case rel=>exact⟨i+1,s+q,by omega,by go_num,rfl,HS2,by first | rfl | trivial⟩
  case measure=>simp[intOf];omega
end Go.Proofs.YtpkmjhmmmdkodaaGreat
namespace Go.Proofs.YtpkmjhmmmdkodaaGreat
open Go.RowKit Go.Shelf Go.Sort
variable {w:World} {N lo hi k g:Nat} {v:Value}
theorem q8e{a b c d:Int} :
  Calls Tryz.prog 87 #[.agg #[.int .i64 a,.int .i64 b],.agg #[.int .i64 c,.int .i64 d]] w (zG w (.int .i64 (YO a b c d))):=by
 obtain⟨r,hr⟩:=qc (YO a b c d);rw[<-hr.out];go_enter Tryz.func87,Tryz.ntmps87;go_upto_region 1 with (fail);refine kL ?_;intro w1 hE hsz B0 B1;obtain⟨G0,hG0⟩:=qc w.heap.size;obtain⟨G1,hG1⟩:=qc (w.heap.size+1);rw[<-hG1.out] at B1 ⊢;rw[<-hG0.out] at B0 ⊢;obtain⟨p0,p1,-⟩:=cells2 B0;obtain⟨q0,q1,-⟩:=cells2 B1;clear B0 B1 hsz hG0 hG1;refine jP [Mn.eq (.slice (some ⟨G0,0,none⟩) 2 2),Mn.eq (.slice (some ⟨G1,0,none⟩) 2 2),Mn.i r,Mn.i r] (sM [5,6,7,4]) [] (rQ 4 0) 0 (by kernel_rfl) ?_ ?_
 ·show ∀ i,i<4->_
  iterate 4 refine fs ?_ ?_
  ·exact fz
  all_goals intro hl;clear hl;refine stp rfl ?_;intro ac wi eI hB hA K hK
  have o2:=oOf (hB 2) rfl
  rotate_left
  have o3:=oOf (hB 3) rfl
  rotate_left
  obtain⟨_,s5,rfl⟩:=hA 0 5;obtain⟨_,s6,rfl⟩:=hA 1 6;clear hB hA
  ·go_simp;refine (q14 (eI.cell p0) (eI.cell p1) (eI.cell q0) (eI.cell q1)).mono ?_;rw[<-hr.out];rintro e wj ⟨rfl,ej⟩;go_wp2_with fail;exact hK.out _ _ ej rfl
  obtain⟨_,s7,rfl⟩:=hA 2 7
  rotate_left
  all_goals clear hB hA;go_simp;exact q_k hK rfl
 intro vals wz eZ hJ;have J4:vals 3=_:=hJ 3 (by decide) (by decide);clear hJ;simp only[pr,Nat.reduceAdd,J4];clear J4;refine qg (by kernel_rfl) ?_ _;go_wp2
 first | go_ret | skip
 exact⟨rfl,hE.trans eZ⟩
theorem q8j {cap:Nat}{cs:Array Value}{l:List (Nat×Nat)}(h:w.heap[g]?=some (.cells cs 69 (0,0))) (hl:∀ (j:Nat) (u:Value),(prv l)[j]?=some u->cs[j]?=some u) (hn2:l.length<=100000) :
  Calls Tryz.prog 77 #[.slice (some ⟨g,0,none⟩) l.length cap,.func (.func 87) #[] #[]] w (fun e w'=>e=.returned (.tuple #[])/\(∃ cs',w'.heap[g]?=some (.cells cs' 69 (0,0))/\cs'.size=cs.size/\∀ (j:Nat) (u:Value),(prv (Z7 l))[j]?=some u->cs'[j]?=some u)/\Chg g (g+1) w w'):=by
 have hglt:g<w.heap.size:=qG h;have hnu:NoU w g:=NoU.mk h (by decide)
 let d:Array (Nat×Nat):=l.toArray
 have hds:d.size=l.length:=by simp[d]
 have hH:HoldsK XW 2 w g 0 d:=by
  intro j hj;rw[size_flatK,hds] at hj;refine⟨?_,by rw[Nat.zero_add];exact qP h j⟩
  show _=some ((flatK XW 2 d)[j]!)
  rw[flat_get l j hj,Nat.zero_add,qh h,KA l j hj];exact hl j _ (KA l j hj)
 have hcmp:CmpLays Tryz.prog 87 #[] XW 2 cfP g 0 d.size w:=by
  intro m os dk hdk u v;refine (Vj q8e (fun e w' h9=>by obtain⟨rfl,-⟩:=h9;exact Ending.noConfusion)).mono ?_;rintro e w' ⟨⟨rfl,e1⟩,hdr⟩;exact⟨rfl,q46 e1 hdr⟩
 have hcon:=AnyQ.slices_SortFunc_total q4K 2 Tryz.isAgg69 Tryz.sizeOf69 XW (fun _=>rfl) (fun x v hv=>by simp[XW] at hv;rcases hv with rfl | rfl <;> rfl) cfP q6s 87 #[] g 0 cap d w (enters_of Tryz.func87 (by kernel_rfl) rfl) hcmp hH hglt (by omega) q6r;rw[hds] at hcon;refine Calls.mono hcon ?_
 have hsr:(d.toList.mergeSort fun x y=>!(ltOf cfP) y x)=Z7 l:=by
  unfold Z7
  congr 1
  funext x y
  rw[Yf]
 rw[hsr];have hsl:(Z7 l).length=l.length:=List.length_mergeSort l;rintro e w' ⟨rfl,m,os,rfl⟩;have hC:=q0T XW 2 w g 0 m (Z7 l).toArray os hnu;have hHK:=holdsK_sortWorldK_c XW 2 w g 0 d (Z7 l).toArray m os hH hglt (by rw[hds];simpa using hsl);have h1:(Sort.ahead w m).heap[g]?=some (.cells cs 69 (0,0)):=h;have h2:(putRowK XW 2 (Sort.ahead w m) g 0 (Z7 l).toArray).heap[g]?=some (.cells (putCells id 0 (flatK XW 2 (Z7 l).toArray) cs) 69 (0,0)):=q1H h1
 have h3:(grow (putRowK XW 2 (Sort.ahead w m) g 0 (Z7 l).toArray) os).heap[g]?=some (.cells (putCells id 0 (flatK XW 2 (Z7 l).toArray) cs) 69 (0,0)):=by
  rw[<-h2];exact (VZ (putRowK XW 2 (Sort.ahead w m) g 0 (Z7 l).toArray) os 0 0).block g (qG h2) (.inr (.inl (Nat.zero_le _)))
 refine⟨rfl,⟨_,h3,by unfold putCells;rw[Array.size_mapIdx],fun j u hj=>?_⟩,hC⟩
 have hjl:j<(Z7 l).length*2:=by
  rw[<-q1u];exact (List.getElem?_eq_some_iff.1 hj).1
 have h9:=(hHK j (by rw[size_flatK];simpa using hjl)).1;have h10:some ((flatK XW 2 (Z7 l).toArray)[j]!)=some u:=by rw[flat_get (Z7 l) j hjl,hj]
 rw[Nat.zero_add] at h9;have h11:(sortWorldK XW 2 w g 0 m (Z7 l).toArray os).cell? ⟨g,j,none⟩=some u:=h9.trans h10;rw[qh (show (sortWorldK XW 2 w g 0 m (Z7 l).toArray os).heap[g]?=_ from h3)] at h11;exact h11
end Go.Proofs.YtpkmjhmmmdkodaaGreat
namespace Go.Proofs.YtpkmjhmmmdkodaaGreat
open Go.RowKit
variable {w:World} {N lo hi k g:Nat} {v:Value}
def ptL (Z:Sys) (q:Nat):List (Nat×Nat):=((List.range q).filter fun p=>decide ((Z.b p).c<(Z.b p).r)).map fun p=>((Z.b p).c.toNat,(Z.b p).r.toNat)
theorem q89 (Z:Sys) (q:Nat):ptL Z (q+1)=ptL Z q++(if (Z.b q).c<(Z.b q).r then [((Z.b q).c.toNat,(Z.b q).r.toNat)] else []):=by
 unfold ptL;rw[List.range_succ,List.filter_append,List.map_append]
 congr 1
 by_cases h:(Z.b q).c<(Z.b q).r
 ·rw[if_pos h];simp[h]
 ·rw[if_neg h];simp[h]
theorem q8q (Z:Sys) (q:Nat):(ptL Z q).length<=q:=by
 unfold ptL;rw[List.length_map];refine q_l (List.length_filter_le _ _) ?_;rw[List.length_range];exact q_r
theorem q8a {K:Nat×Nat->Nat}:∀ {l l':List (Nat×Nat)},l.Pairwise (fun p q=>K p<K q)->l'.Pairwise (fun p q=>K p<K q)->(∀ p,p∈l↔p∈l')->l=l'
 | [],[],_,_,_=>rfl
 | [],b :: l',_,_,h=>absurd ((h b).2 (by simp)) (by simp)
 | a :: l,[],_,_,h=>absurd ((h a).1 (by simp)) (by simp)
 | a :: l,b :: l',h1,h2,h=>by
  obtain⟨a1,a2⟩:=List.pairwise_cons.1 h1;obtain⟨b1,b2⟩:=List.pairwise_cons.1 h2
  have hab:a=b:=by
   rcases List.mem_cons.1 ((h a).1 (by simp)) with e | e
   ·exact e
   ·rcases List.mem_cons.1 ((h b).2 (by simp)) with e' | e'
    ·exact e'.symm
    ·have:=b1 a e;have:=a1 b e';omega
  subst hab
  have:l=l':=q8a a2 b2 fun p=>by
   constructor
   ·intro hp
    rcases List.mem_cons.1 ((h p).1 (List.mem_cons_of_mem _ hp)) with e | e
    ·have:=a1 p hp;rw[e] at this;exact absurd this (Nat.lt_irrefl _)
    ·exact e
   ·intro hp
    rcases List.mem_cons.1 ((h p).2 (List.mem_cons_of_mem _ hp)) with e | e
    ·have:=b1 p hp;rw[e] at this;exact absurd this (Nat.lt_irrefl _)
    ·exact e
  rw[this]
def q88 (p:Nat×Nat):Nat:=p.1*12+p.2
theorem q8n {p q:Nat×Nat}(hp:p.2<12) (hq:q.2<12):q5T p q=true↔q88 p<q88 q:=by
 unfold q5T q88;simp only[Bool.or_eq_true,Bool.and_eq_true,decide_eq_true_eq];omega
theorem q8i {l:List (Nat×Nat)}(h12:∀ p,p∈l->p.2<12) (hnd:l.Nodup):(Z7 l).Pairwise (fun p q=>q88 p<q88 q):=by
 have h1:(Z7 l).Pairwise (fun a b=>(!q5T b a)=true):=by
  unfold Z7;refine List.pairwise_mergeSort (fun a b c h1 h2=>?_) (fun a b=>?_) l
  ·rw[Bool.not_eq_true',Bool.eq_false_iff] at *;intro h3;unfold q5T at *;simp only[Bool.or_eq_true,Bool.and_eq_true,decide_eq_true_eq,ne_eq] at *;omega
  ·unfold q5T;simp only[Bool.or_eq_true,Bool.not_eq_true',Bool.or_eq_false_iff,Bool.and_eq_false_iff,decide_eq_false_iff_not];omega
 have h2:(Z7 l).Nodup:=by
  unfold Z7;exact (List.mergeSort_perm l _).nodup_iff.2 hnd
 have h3:(Z7 l).Pairwise (fun p q=>p≠q):=h2;refine (h1.and h3).imp_of_mem ?_;intro a b ha hb h;rw[mem_srtP] at ha hb;have e1:=h12 a ha;have e2:=h12 b hb;have h4:=h.1;rw[Bool.not_eq_true',Bool.eq_false_iff] at h4;have h5:¬ q88 b<q88 a:=fun h9=>h4 ((q8n e2 e1).2 h9)
 have h6:q88 a≠q88 b:=fun h9=>h.2 (by
  unfold q88 at h9
  exact Prod.ext (by omega) (by omega))
 omega
theorem q8p (H:Nat->Nat->Bool) (a:Nat):∀ b,(rfR H a b).Pairwise (fun p q=>q88 p<q88 q):=fun b=>by
 unfold rfR;rw[List.pairwise_map];refine (List.Pairwise.filter _ List.pairwise_lt_range).imp ?_;intro p q h
 show a*12+p<a*12+q
 omega
theorem q8f (H:Nat->Nat->Bool){n:Nat}(hn:n<=12):∀ a,(rfL H n a).Pairwise (fun p q=>q88 p<q88 q)
 | 0=>List.Pairwise.nil
 | a+1=>by
  unfold rfL;rw[List.pairwise_append];refine⟨q8f H hn a,q8p H a n,fun p hp q hq=>?_⟩;have h1:=q5R.1 hp;have h2:=q5Q.1 hq;unfold q88;omega
theorem q8m {Z:Sys}(h:Okk Z):Z7 (ptL Z Z.nb)=rfL (jw Z Z.nb) Z.ns Z.ns:=by
 have h12:=h.n2
 have hin:∀ p:Nat×Nat,p∈ptL Z Z.nb↔∃ i,i<Z.nb/\(Z.b i).c<(Z.b i).r/\((Z.b i).c.toNat,(Z.b i).r.toNat)=p:=fun p=>by
  unfold ptL;simp only[List.mem_map,List.mem_filter,List.mem_range,decide_eq_true_eq,and_assoc]
 have hbd:∀ p,p∈ptL Z Z.nb->p.2<12:=fun p hp=>by
  obtain⟨i,hi,h1,rfl⟩:=(hin p).1 hp;obtain⟨g1,g2,g3,-⟩:=jJ h hi
  show (Z.b i).r.toNat<12
  omega
 have hlt:∀ i j,i<j->j<Z.nb->Vm (Z.b i) (Z.b j)=true:=fun i j hij=>by
  induction j with
  | zero=>omega
  | succ j ih =>
   intro hj;obtain⟨-,-,-,-,g5⟩:=jJ h hj;have g6:=g5 (by omega);rw[Nat.add_sub_cancel] at g6
   by_cases hi:i=j
   ·rw[hi];exact g6
   ·have g7:=ih (by omega) (by omega);rw[Ja] at *;omega
 have hnd:(ptL Z Z.nb).Nodup:=by
  unfold ptL;refine List.pairwise_map.2 ?_;refine ((List.Pairwise.filter _ List.pairwise_lt_range).imp_of_mem (S:=fun i j=>((Z.b i).c.toNat,(Z.b i).r.toNat)≠((Z.b j).c.toNat,(Z.b j).r.toNat)) ?_);intro i j hi hj hij e;have hi':=List.mem_range.1 (List.mem_filter.1 hi).1;have hj':=List.mem_range.1 (List.mem_filter.1 hj).1;have h1:=Ja.1 (hlt i j hij hj');obtain⟨g1,g2,g3,-⟩:=jJ h hi';obtain⟨k1,k2,k3,-⟩:=jJ h hj';rw[Prod.mk.injEq] at e;omega
 refine q8a (K:=q88) (q8i hbd hnd) (q8f _ h12 _) fun p=>?_
 rw[mem_srtP,hin,q5R]
 constructor
 ·rintro⟨i,hi,h1,rfl⟩;obtain⟨g1,g2,g3,-⟩:=jJ h hi;refine⟨by show (Z.b i).c.toNat<Z.ns;omega,by show (Z.b i).c.toNat<(Z.b i).r.toNat;omega,by show (Z.b i).r.toNat<Z.ns;omega,?_⟩;unfold jw;refine je hi ?_;unfold edg;rw[q_f (show ¬ (Z.b i).r=(Z.b i).c by omega),q_t (show (Z.b i).r=(((Z.b i).r.toNat:Nat):Int) by omega),q_t (show (Z.b i).c=(((Z.b i).c.toNat:Nat):Int) by omega)]
  simp
 ·rintro⟨h1,h2,h3,h4⟩;unfold jw xg at h4;obtain⟨i,hi,h5⟩:=List.any_eq_true.1 h4;have hi':=List.mem_range.1 hi;obtain⟨g1,g2,g3,-⟩:=jJ h hi';unfold edg at h5;simp only[Bool.and_eq_true,Bool.or_eq_true,Bool.not_eq_true',decide_eq_true_eq,decide_eq_false_iff_not] at h5;exact⟨i,hi',by omega,Prod.ext (by show (Z.b i).c.toNat=p.1;omega) (by show (Z.b i).r.toNat=p.2;omega)⟩
def q8c (N:Nat) (w:World) (Z:Sys) (e:Ending) (w':World):Prop :=
 Ext w w'/\((yO Z≠0/\e=.returned (.tuple #[.slice none 0 0,.int .i64 (yO Z)])) \/
  (yO Z=0/\∃ A c,e=.returned (.tuple #[.slice A (qm (zN Z) Z.ns) c,.int .i64 0])/\MtV N 0 w'.heap.size w' (.slice A (qm (zN Z) Z.ns) c) (qm (zN Z) Z.ns) (qm (zN Z) Z.ns) (xG Z (zN Z))))
theorem q8o{Z:Sys}(h:wS N lo hi w v Z) (hB:BkBr Z) (hBz:∀ i,i<Z.nb->q59 (Z.b i)) (hkz:∀ i,i<Z.k->jF (Z.R i)) :
  Calls Tryz.prog 33 #[v] w (q8c N w Z):=by
 obtain⟨Q,hQ⟩:=qc (q8c N w Z);rw[<-hQ.out];have HC:=fun (w':World) (e:Ext w w')=>Jd (h.ext e) hBz hkz
 have HD:=fun (h0:Okk Z) (w':World) (e:Ext w w')=>q6C (h.ext e) h0 (zN_ok h0)
 have HH:=q_h fun h0:Okk Z=>den_htm h0 (zN_ok h0) hB
 have HNW:=q_h fun h0:Okk Z=>by
  have h1:=h0.tot;have h2:=(QY Z.ns h0.szs).1;have h3:=h0.n1;rw[kw (zN_ok h0)] at h1 h2;exact (show 0<qm (zN Z) Z.ns/\qm (zN Z) Z.ns<=64 by omega)
 have HC':=q_h HC;have HD':=q_h HD;obtain⟨A1,c1,A2,c2,A3,c3,rfl,s1,s2,s3,k1,k2,k3⟩:=h.parts;obtain⟨cd,hcd⟩:=qc (yO Z);clear h hB hBz hkz s1 s2 s3 HC HD;go_enter Tryz.func33,Tryz.ntmps33;go_upto_region 1 with (fail);refine qp ?_;intro w1 hE hsz B0;obtain⟨a0,a1,a2,-⟩:=cells3 B0;go_wp2_with (go_at_call 35;refine q_o ?_);refine (HC'.out _ hE).mono ?_;rintro e w2 ⟨rfl,e2⟩;rw[<-hcd.out];have HE2:Hid (Ext w w2):=hE.trans e2;have HB2:=q_h (e2.block B0);clear a0 a1 a2 B0 hE e2 hsz
 by_cases h0:cd=0
 case neg =>
  have t1:(cd != 0)=true:=by simpa using h0
  have HN:=q_h h0;clear h0;go_wp2
  first | go_ret | skip
  rw[hQ.out];unfold q8c;rw[<-hcd.out];exact⟨HE2.out,.inl ⟨HN.out,rfl⟩⟩
 have t1:(cd != 0)=false:=by simpa using h0
 have HOK:Hid (Okk Z):=ZZ (by rw[<-hcd.out];exact h0);have HN:=q_h h0;obtain⟨n,hn⟩:=qc (qm (zN Z) Z.ns);have hn1:=HNW.out HOK.out;rw[<-hn.out] at hn1;obtain⟨hn0,hn64⟩:=hn1;clear h0;obtain⟨a0,a1,a2,-⟩:=cells3 HB2.out;go_wp2_with (go_at_call 86;refine q_o ?_);refine (HD'.out HOK.out _ HE2.out).mono ?_;rintro e w3 ⟨hh,cap,β,κ,rfl,hcap,ho,e3⟩;rw[<-hn.out] at ho ⊢;have HM3:=q_h (ho.mtv ho.mle hcap);have HS3:Hid (∀ i,i<n->∀ j,j<n->Sz (xG Z (zN Z) i j)):=fun i hi j hj=>(HH.out HOK.out i (by rw[<-hn.out];exact hi) j (by rw[<-hn.out];exact hj)).sz (by omega)
 have HE3:Hid (Ext w w3):=HE2.out.trans e3;clear a0 a1 a2 ho e3;go_wp2_with (go_at_call 85;refine q_o ?_);refine (YL HM3.out hn0 hn64 hn0 hn64 HS3.out).mono ?_;rintro e w4 ⟨h4,cap4,β4,κ4,rfl,hcap4,ho4,e4⟩;have HM4:Hid (MtV N 0 w4.heap.size w4 (.slice (some ⟨h4,0,none⟩) n cap4) n n (xG Z (zN Z))):=MtV.congr (MtR.wide (ho4.mtv ho4.mle hcap4) (Nat.zero_le _) (q_r) (q_r)) (fun i _ j _=>Wu Z (zN Z) j i);have HE4:Hid (Ext w w4):=HE3.out.trans e4;clear ho4 e4 HM3;go_wp2
 first | go_ret | skip
 rw[hQ.out];unfold q8c;rw[<-hcd.out,<-hn.out];exact⟨HE4.out,.inr ⟨HN.out,_,_,rfl,HM4.out⟩⟩
theorem set21{t:TypeId}{y0 y1:Value}(hb:w.heap[g]?=some (.cells #[y0,y1] t (0,0))) (x0:Value):∃ w1,w.setCell ⟨g,1,none⟩ x0=w1/\w1.heap[g]?=some (.cells #[y0,x0] t (0,0))/\Upd g w w1 :=
 ⟨_,rfl,by have h1:=heap_set hb 1 x0;simpa using h1,(Upd.refl g w).set 1 x0⟩
def q8b (w:World) (Z:Sys) (e:Ending) (w':World):Prop :=
 Ext w w'/\((yO Z≠0/\e=.returned (.tuple #[.agg #[.int .i64 0,.slice none 0 0],.int .i64 (yO Z)])) \/
  (yO Z=0/\∃ v,e=.returned (.tuple #[.agg #[.int .i64 (Z.ns:Int),v],.int .i64 0])/\PrV w' v (Z7 (ptL Z Z.nb))))
theorem q8h{Z:Sys}(h:wS N lo hi w v Z) (hBz:∀ i,i<Z.nb->q59 (Z.b i)) (hkz:∀ i,i<Z.k->jF (Z.R i)) (hnb:Z.nb<=1000) :
  Calls Tryz.prog 34 #[v] w (q8b w Z):=by
 obtain⟨Q,hQ⟩:=qc (q8b w Z);rw[<-hQ.out];have HC:=fun (w':World) (e:Ext w w')=>Jd (h.ext e) hBz hkz
 have HC':=q_h HC;obtain⟨A1,c1,A2,c2,A3,c3,rfl,s1,s2,s3,k1,k2,k3⟩:=h.parts;have HB:=q_h s2;obtain⟨cd,hcd⟩:=qc (yO Z);obtain⟨nb,hnbE⟩:=qc Z.nb;rw[<-hnbE.out] at HB k2 hnb ⊢;clear h hBz hkz s1 s2 s3 HC;go_enter Tryz.func34,Tryz.ntmps34;go_upto_region 1 with (fail);refine kL ?_;intro w1 hE hsz B0 B1;obtain⟨g0,hg0⟩:=qc w.heap.size;have hgw:w.heap.size<=g0:=by rw[hg0.out];exact q_r
 rw[<-hg0.out] at B0 B1 hsz ⊢;obtain⟨a0,a1,a2,-⟩:=cells3 B0;clear hg0;go_wp2_with (go_at_call 35;refine q_o ?_);rw[hnbE.out];refine (HC'.out _ hE).mono ?_;rintro e w2 ⟨rfl,e2⟩;rw[<-hcd.out,<-hnbE.out];have HE2:Hid (Ext w w2):=hE.trans e2;have HB2:=q_h (e2.block B0);have HB12:=q_h (e2.block B1);have hsz2:=q_l hsz e2.size;clear a0 a1 a2 B0 B1 hE e2 hsz
 by_cases h0:cd=0
 case neg =>
  have t1:(cd != 0)=true:=by simpa using h0
  have HN:=q_h h0;clear h0;obtain⟨x0,x1,u0,u1⟩:=cells2 HB12.out;go_wp2;obtain⟨w10,E10,D10,U10⟩:=ex2 HB12.out (.int .i64 0) (.slice none 0 0);rw[E10];have C10:=U10.chg (NoU.mk HB12.out (by decide));have hE10:=C10.ext HE2.out (by omega);clear x0 x1 u0 u1;obtain⟨x0,x1,-⟩:=cells2 D10;refine bodyPost_ret (v:=.tuple #[.agg #[.int .i64 0,.slice none 0 0],.int .i64 cd]) ?_ rfl ?_
  ·simp[results,x0,x1,go_sem]
  ·rw[hQ.out];unfold q8b;rw[<-hcd.out];exact⟨hE10,.inl ⟨HN.out,rfl⟩⟩
 have t1:(cd != 0)=false:=by simpa using h0
 have HOK:Hid (Okk Z):=ZZ (by rw[<-hcd.out];exact h0);have HN:=q_h h0;clear h0;obtain⟨a0,a1,a2,-⟩:=cells3 HB2.out;go_upto_region 5 with (fail);refine qp ?_;intro w4 e4 hsz4 B5;obtain⟨g5,hg5⟩:=qc w2.heap.size;have hg5g:g0+2<=g5:=by rw[hg5.out];exact hsz2
 rw[<-hg5.out] at B5 ⊢;have HE4:Hid (Ext w w4):=HE2.out.trans e4;have HB4:=q_h (e4.block HB2.out);have HB14:=q_h (e4.block HB12.out);have HB5:Hid (w4.heap[g5]?=some (.cells #[.int .i64 (Z.ns:Int),.slice none (ptL Z 0).length 0] 78 (0,0))):=B5;have HG4:Hid (zH 69 2 w4.heap.size w4 (.slice none (ptL Z 0).length 0) (ptL Z 0).length (prv (ptL Z 0))):=zH.nil (q_r);have hg54:g5<w4.heap.size:=qG B5;clear a0 a1 a2 e4 hsz4 B5 hg5 hsz2 HB2 HB12;obtain⟨a0,a1,a2,-⟩:=cells3 HB4.out;go_wp2_with fail
 go_loopw [21] (fun iv wr=>∃ (i:Nat) (A:Option Addr) (c:Nat),i<=nb/\iv=.int .i64 (i:Int)/\Hid (wr.heap[g5]?=some (.cells #[.int .i64 (Z.ns:Int),.slice A (ptL Z i).length c] 78 (0,0)))/\Hid (zH 69 2 w4.heap.size wr (.slice A (ptL Z i).length c) (ptL Z i).length (prv (ptL Z i)))/\Hid (Chg g5 (g5+1) w4 wr)) (fun iv _=>nb - (intOf iv).toNat)
 case atStart=>exact⟨0,none,0,Nat.zero_le _,rfl,HB5,HG4,Chg.refl _ _ _⟩
 case round =>
  clear HG4 HB5 a0 a1 a2 t1;obtain⟨i,A,c,hi9,rfl,HB5,HG,HCi⟩:=hrel;have hll:=q8q Z i
  by_cases hlt:i<nb
  case neg =>
   have t1:decide ((i:Int)<(nb:Int))=false:=q_f (by omega);obtain rfl:nb=i:=by omega
   obtain⟨l,hl⟩:=qc (ptL Z nb);rw[<-hl.out] at HB5 HG hll;have HL9:Hid (ptL Z Z.nb=l):=by rw[Hid,hl.out,hnbE.out]
   have HEr:Hid (Ext w wr):=HCi.out.ext HE4.out (by omega);have HB1r:=q_h (HCi.out.blk HB14.out (.inl (by omega)))
   have HOW:Hid (∀ k,(Value.slice A l.length c).ownBlock=some k->k≠g0+1):=fun k hk h9=>by
    have:=(HG.out.own_lt k hk).1;omega
   clear hlt hi9 hl HCi HB4 HB14;obtain⟨y0,y1,-⟩:=cells2 HB5.out;go_upto_region 11 with (fail)
   go_cut [] (fun wx=>PrV wx (.slice A l.length c) (Z7 l)/\wx.heap[g5]?=some (.cells #[.int .i64 (Z.ns:Int),.slice A l.length c] 78 (0,0))/\wx.heap[g0+1]?=some (.cells #[.int .i64 0,.slice none 0 0] 78 (0,0))/\Ext w wx)
   case first =>
    rcases Nat.eq_zero_or_pos l.length with hl0 | hl0
    ·have HL0:=q_h hl0;rw[hl0] at y1;clear hl0;go_wp2_with (go_at_call 77;refine q_o ?_);refine q0U.mono ?_;rintro e w5 ⟨rfl,rfl⟩;go_wp2
     go_meet
     refine⟨⟨A,c,?_,?_,?_,fun h=>?_⟩,HB5.out,HB1r.out,HEr.out⟩
     ·rw[yV]
     ·rw[yV,HL0.out];exact Nat.zero_le _
     ·rcases HG.out.2.2 with ⟨hv0,-⟩ | ⟨gl,cap,cur,hv,hbb,hh,hncl,hcml,-⟩
      ·injection hv0 with e1 e2 e3
       rw[e3];exact Nat.zero_le _
      ·injection hv with e1 e2 e3
       rw[e3];exact hcml
     ·rw[yV,HL0.out] at h;omega
    ·obtain⟨hb0,hol,⟨hv0,-⟩ | ⟨gl,cap,cur,hv,hbb,hh,hncl,hcml,hcs,htk⟩⟩:=HG.out
     ·injection hv0 with e1 e2 e3
      omega
     ·injection hv with e1 e2 e3
      subst e1 e3
      have HHH:Hid (∀ (j:Nat) (u:Value),(prv l)[j]?=some u->cur[j]?=some u):=fun j u hj=>by
       have hjl:j<l.length*2:=by
        rw[<-q1u];exact (List.getElem?_eq_some_iff.1 hj).1
       have h9:(cur.toList.take (l.length*2))[j]?=some u:=by rw[htk];exact hj
       rw[List.getElem?_take,if_pos hjl] at h9;simpa using h9
      have HH:=q_h hh;clear hb0 hol hcs htk hh;go_wp2_with (go_at_call 77;refine q_o ?_);refine (q8j HH.out HHH.out (by omega)).mono ?_;rintro e w5 ⟨rfl,⟨cs',hB,-,hx⟩,C5⟩;have HBS:=q_h hB;have HX:=q_h hx;have HE5:Hid (Ext w w5):=C5.ext HEr.out (by omega);have HB55:=q_h (C5.blk HB5.out (.inl (by omega)));have HB15:=q_h (C5.blk HB1r.out (.inl (by omega)));clear hB hx C5 y0 y1;go_wp2
      go_meet
      refine⟨⟨_,_,?_,?_,hcml,fun h=>⟨gl,rfl,fun j u hj=>?_⟩⟩,HB55.out,HB15.out,HE5.out⟩
      ·rw[yV]
      ·rw[yV];exact hncl
      ·rw[qh HBS.out];exact HX.out j u hj
   obtain⟨hp,hb5,hb1,hee⟩:=hcut;have HP:=q_h hp;have HE9:=q_h hee;clear hp hee y0 y1 HB5 HG HB1r HEr;obtain⟨x0,x1,u0,u1⟩:=cells2 hb1;obtain⟨y0,y1,-⟩:=cells2 hb5;go_wp2;obtain⟨w10,E10,D10,U10⟩:=ex2 hb1 (.int .i64 (Z.ns:Int)) (.slice A l.length c);rw[E10];have C10:=U10.chg (NoU.mk hb1 (by decide));have hE10:=C10.ext HE9.out (by omega);have HGL:Hid (∀ k,(Value.slice A l.length c).ownBlock=some k->k≠g0+1):=HOW
   have HP10:Hid (PrV w10 (.slice A l.length c) (Z7 l)):=by
    obtain⟨A',c',hv',q1,q2,q3⟩:=HP.out;refine⟨A',c',hv',q1,q2,fun h9=>?_⟩;obtain⟨gl,hA,hx⟩:=q3 h9;refine⟨gl,hA,fun j u hj=>C10.cell (hx j u hj) ?_⟩;have h8:=HGL.out gl (by rw[hv',hA];rfl)
    show gl<g0+1\/g0+1+1<=gl
    omega
   clear x0 x1 u0 u1;obtain⟨x0,x1,-⟩:=cells2 D10;refine bodyPost_ret (v:=.tuple #[.agg #[.int .i64 (Z.ns:Int),.slice A l.length c],.int .i64 0]) ?_ rfl ?_
   ·simp[results,x0,x1,go_sem]
   ·rw[hQ.out];unfold q8b;rw[<-hcd.out,HL9.out];exact⟨hE10,.inr ⟨HN.out,_,rfl,HP10.out⟩⟩
  have t1:decide ((i:Int)<(nb:Int))=true:=q_t (by omega);have t2:(i:Int)<(nb:Int):=by omega
  have hEi:=HCi.out.ext HE4.out (by omega);obtain⟨b,off,rfl,hx⟩:=HB.out.addr (by omega);obtain⟨Ab,cb,p0,p1,p2,hM,hm9⟩:=(hx i hlt).box;replace p0:=hEi.cell p0;replace p1:=hEi.cell p1;replace p2:=hEi.cell p2;have HIB:Hid (i<Z.nb):=by rw[Hid,<-hnbE.out];exact hlt
  obtain⟨r1,r2,r3,r4,-⟩:=jJ HOK.out HIB.out;obtain⟨R,hR⟩:=qc (Z.b i).r.toNat;obtain⟨C,hC⟩:=qc (Z.b i).c.toNat;rw[show (Z.b i).r=(R:Int) by have:=hR.out;omega] at p0;rw[show (Z.b i).c=(C:Int) by have:=hC.out;omega] at p1;have HLT:Hid ((Z.b i).c<(Z.b i).r↔C<R):=by rw[Hid];have:=hR.out;have:=hC.out;omega
  obtain⟨l,hl⟩:=qc (ptL Z i);rw[<-hl.out] at HB5 HG hll;have hgb:∀ k,(Value.slice A l.length c).ownBlock=some k->w4.heap.size<=k:=fun k hk=>(HG.out.own_lt k hk).1
  obtain⟨wq,hwq⟩:∃ wq,wq=wr:=⟨_,rfl⟩
  subst hwq;clear hx hM hm9 r1 r2 r3 r4 hEi;go_upto_region 8 with (fail);refine qp ?_;intro w7 e7 hsz7 B7;obtain⟨g7,hg7⟩:=qc wq.heap.size;rw[<-hg7.out] at B7 ⊢;have HB57:=q_h (e7.block HB5.out);have HG7:=q_h (HG.out.ext e7);have HC7:Hid (Chg g5 (g5+1) w4 w7):=HCi.out.trans (e7.chg _ _);obtain⟨b0,b1,b2,-⟩:=cells3 B7;have hg7w:g7<w7.heap.size:=qG B7;have HB7:=q_h B7;clear B7 e7 p0 p1 p2 hsz7 hg7 HB5 HG HCi hgb
  by_cases hcr:C<R
  case neg =>
   have t3:decide ((C:Int)<(R:Int))=false:=q_f (by omega);have t3':decide (C<R)=false:=q_f hcr;have HPN:Hid (l=ptL Z (i+1)):=by rw[Hid,q89,if_neg (by rw[HLT.out];exact hcr),List.append_nil,hl.out]
   rw[HPN.out] at HB57 HG7;clear hcr;go_wp2;go_roundw
   case rel=>exact⟨i+1,A,c,by omega,by go_num,HB57,HG7,HC7⟩
   case measure=>simp[intOf];omega
  have t3:decide ((C:Int)<(R:Int))=true:=q_t (by omega);have t3':decide (C<R)=true:=q_t hcr;have HPY:Hid (ptL Z (i+1)=l ++ [(C,R)]):=by rw[Hid,q89,if_pos (by rw[HLT.out];exact hcr),hl.out,hR.out,hC.out]
  clear hcr;obtain⟨m0,m1,f0,f1⟩:=cells2 HB57.out;go_wp2_with (at_builtin;refine q_o ?_);refine qp ?_;intro w8 e8 hsz8 B8;refine jG Wx rfl _ _ 61 Tryz.underlying61 rfl (by rfl) (HG7.out.ext e8) (m:=1) (c:=1) (news:=[.int .i64 (C:Int),.int .i64 (R:Int)]) (by rfl) rfl (q5f B8) (by simp[Value.oneCell']) (by omega) ?_;rintro v9 w9 hG9 hat9 ⟨g9,hlo9,hw9,C9⟩;obtain⟨A9,c9,rfl⟩:=hG9.form
  have HG9:Hid (zH 69 2 w4.heap.size w9 (.slice A9 (l.length+1) c9) (ptL Z (i+1)).length (prv (ptL Z (i+1)))):=by
   rw[Hid,HPY.out,q1v,List.length_append];exact hG9
  have HL9:Hid ((ptL Z (i+1)).length=l.length+1):=by rw[Hid,HPY.out,List.length_append];rfl
  have hS9:=C9.blk (e8.block HB57.out) (.inl (by omega));have HC9:Hid (Chg g5 (g5+1) w4 w9):=(HC7.out.trans (e8.chg _ _)).newer C9 hlo9;clear m0 m1 f0 f1 hG9 hat9 hw9 C9 B8 e8 HB57 HG7 HC7 b0 b1 b2;obtain⟨m0,m1,f0,f1⟩:=cells2 hS9;go_wp2_with fail;obtain⟨w10,E10,D10,U10⟩:=set21 hS9 (.slice A9 (l.length+1) c9);rw[E10];have C10:=U10.chg (NoU.mk hS9 (by decide))
  have HG10:Hid (zH 69 2 w4.heap.size w10 (.slice A9 (ptL Z (i+1)).length c9) (ptL Z (i+1)).length (prv (ptL Z (i+1)))):=by
   have h9:=HG9.out.chg C10 (by omega);rw[HL9.out] at h9 ⊢;exact h9
  have HC10:Hid (Chg g5 (g5+1) w4 w10):=HC9.out.trans C10;have HD10:Hid (w10.heap[g5]?=some (.cells #[.int .i64 (Z.ns:Int),.slice A9 (ptL Z (i+1)).length c9] 78 (0,0))):=by rw[HL9.out];exact D10
  clear m0 m1 f0 f1 hS9 E10 D10 U10 C10 HG9 HC9;go_roundw
  case rel=>exact⟨i+1,A9,c9,by omega,by go_num,HD10,HG10,HC10⟩
  case measure=>simp[intOf];omega
theorem q8l{Z:Sys}(h:wS N lo hi w v Z) (h0:Okk Z){z:Nat->Nat}(hz:∀ i,i<Z.ns->Z.z i=(z i:Int)) :
  Calls Tryz.prog 25 #[v] w (x9 N w (qm z Z.ns) (qm z Z.ns) (xG Z z)):=by
 obtain⟨Q,hQ⟩:=qc (x9 N w (qm z Z.ns) (qm z Z.ns) (xG Z z));rw[<-hQ.out];have HO:=q_h h0;have HZ:=q_h hz;obtain⟨A1,c1,A2,c2,A3,c3,rfl,s1,s2,s3,k1,k2,k3⟩:=h.parts;have HB:=q_h s2;have HI:=q_h s1;have hN:=LsR.le s3;obtain⟨n,hn⟩:=qc (qm z Z.ns);have hn64:n<=64:=by have h1:=h0.tot;rw[kw hz] at h1;have:=hn.out;omega
 have hkn:Z.k=n:=by have h1:=h0.len;rw[kw hz] at h1;have:=hn.out;omega
 have hn1:0<n:=by
  have h1:=(QY Z.ns h0.szs).1;have h2:=h0.n1;rw[kw hz] at h1;have:=hn.out;omega
 have HFI:Hid (∀ (w':World) (k:Nat),Ext w w'->k<=Z.ns->Calls Tryz.prog 62 #[.slice A1 Z.ns c1,.int .i64 (k:Int)] w' (zG w' (.int .i64 (qm z k:Int)))):=fun w' k e hk =>
  q8k (HI.out.ext e) HZ.out hk (by rw[<-hn.out];omega) (by have:=h0.n2;omega)
 obtain⟨m,hm⟩:=qc Z.ns;obtain⟨nb,hnb⟩:=qc Z.nb;rw[<-hnb.out] at HB k2;rw[<-hm.out] at HFI k1;rw[<-hm.out,<-hnb.out,hkn];have hm12:m<=12:=by have:=h0.n2;have:=hm.out;omega
 clear h h0 hz s1 s2 s3 hkn HI;go_enter Tryz.func25,Tryz.ntmps25;go_upto_region 1 with (fail);refine qp ?_;intro w1 hE hsz B0;obtain⟨g1,hg1⟩:=qc w.heap.size;have hg1':w.heap.size<=g1:=by rw[hg1.out];exact q_r
 have hg1s:g1<w1.heap.size:=by rw[hg1.out];omega
 rw[<-hg1.out] at B0 ⊢;obtain⟨a0,a1,a2,-⟩:=cells3 B0;clear hg1 hsz;go_wp2_with (go_at_call 55;refine q_o ?_);refine (q3p (N:=N) (by have:=hE.size;omega) n n rfl rfl (by omega) hn1 (by omega)).mono ?_;rintro e wZ ⟨hh,cap,β,κ,rfl,hcap,ho,eZ⟩;have HO0:Hid (∃ A,zt N w1.heap.size wZ.heap.size wZ hh cap n n β κ A/\DnP Z z A 0 0 0):=⟨_,ho,DnP.start Z z⟩
 have HEZ:=q_h (hE.trans eZ);have HBZ:=q_h (eZ.block B0);have hE1s:=hE.size;have hno:n<=cap:=ho.mle;have hsz1:=eZ.size;clear ho eZ B0 hE a0 a1 a2;obtain⟨a0,a1,a2,-⟩:=cells3 HBZ.out;go_wp2_with fail
 go_loopw [5] (fun iv wr=>∃ i:Nat,i<=nb/\iv=.int .i64 (i:Int)/\Hid (∃ A,zt N w1.heap.size wZ.heap.size wr hh cap n n β κ A/\DnP Z z A i 0 0)/\Hid (Chg w1.heap.size wZ.heap.size wZ wr)) (fun iv _=>nb - (intOf iv).toNat)
 case atStart=>exact⟨0,Nat.zero_le _,rfl,HO0,Chg.refl _ _ _⟩
 case round =>
  clear HO0 a0 a1 a2;obtain⟨i,hi9,rfl,HOM,HC⟩:=hrel;obtain⟨a0,a1,a2,-⟩:=cells3 (HC.out.blk HBZ.out (.inl (by omega)))
  by_cases hlt:i<nb
  case neg =>
   have t1:decide ((i:Int)<(nb:Int))=false:=q_f (by omega);obtain rfl:nb=i:=by omega
   have HE9:Hid (Ext w wr):=HC.out.ext HEZ.out (by omega)
   have HR9:Hid (zt N w.heap.size wr.heap.size wr hh cap n n β κ (xG Z z)):=by
    obtain⟨A,h1,h2⟩:=HOM.out;rw[hnb.out] at h2;exact (h1.congr (B:=xG Z z) (fun x hx y hy=>h2.done x (by rw[<-hn.out];exact hx) y (by rw[<-hn.out];exact hy))).wide hE1s hN HC.out.size (q_r)
   go_wp2
   first | go_ret | skip
   rw[hQ.out,<-hn.out];exact⟨hh,cap,β,κ,rfl,hcap,HR9.out,HE9.out⟩
  have t1:decide ((i:Int)<(nb:Int))=true:=q_t (by omega);have t2:(i:Int)<(nb:Int):=by omega
  have hEi:=HC.out.ext HEZ.out (by omega);have HBi:=HB.out;obtain⟨b,off,rfl,hx⟩:=HBi.addr (by omega);obtain⟨Ab,cb,p0,p1,p2,hM,hm9⟩:=(hx i hlt).box;replace p0:=hEi.cell p0;replace p1:=hEi.cell p1;replace p2:=hEi.cell p2;have HIB:Hid (i<Z.nb):=by rw[Hid,<-hnb.out];exact hlt
  obtain⟨r1,r2,r3,r4,-⟩:=jJ HO.out HIB.out;obtain⟨r5,r6⟩:=yZ r4;obtain⟨R,hR⟩:=qc (Z.b i).r.toNat;obtain⟨C,hC⟩:=qc (Z.b i).c.toNat;rw[show (Z.b i).r=(R:Int) by have:=hR.out;omega] at p0;rw[show (Z.b i).c=(C:Int) by have:=hC.out;omega] at p1;have hRm:R<m:=by have:=hR.out;have:=hm.out;omega
  have hCR:C<=R:=by have:=hR.out;have:=hC.out;omega
  rw[<-hR.out,HZ.out R (by rw[<-hm.out];exact hRm)] at r5
  have HLC:Hid (∀ a,a<(Z.b i).m->(Z.b i).L a=z C):=fun a ha=>by
   have h9:=r6 a ha;rw[<-hC.out,HZ.out C (by rw[<-hm.out];omega)] at h9;omega
  have hmr:(Z.b i).m=z R:=by omega
  rw[hmr] at p2 hm9;have hmR:=q_h hmr
  have hXR:qm z R+z R<=n:=by
   have h1:=zC z (show R+1<=m by omega);have h2:qm z (R+1)=qm z R+z R:=rfl;have:=hn.out;rw[<-hm.out] at this;omega
  have hXC:qm z C+z C<=n:=by
   have h1:=zC z (show C+1<=m by omega);have h2:qm z (C+1)=qm z C+z C:=rfl;have:=hn.out;rw[<-hm.out] at this;omega
  obtain⟨S,hS⟩:=qc (z R);rw[<-hS.out] at p2 hm9 hXR
  have HMW:Hid (MtR N lo hi w (.slice Ab S cb) S (Z.b i).L (Z.b i).A):=by
   rw[hmR.out,<-hS.out] at hM;exact hM
  obtain⟨P,hP⟩:=qc (qm z R);obtain⟨T,hT⟩:=qc (qm z C);rw[<-hP.out] at hXR;rw[<-hT.out] at hXC;have hzs:=HC.out.size;obtain⟨wq,hwq⟩:∃ wq,wq=wr:=⟨_,rfl⟩
  subst hwq;have hBq:=HC.out.blk HBZ.out (.inl (by omega));have HBQ:=q_h hBq;have HEI:=q_h hEi;clear hx HBi hM r1 r2 r3 r4 r5 r6 hmr hEi hBq;go_upto_region 7 with (fail);refine qp ?_;intro w7 e7 hsz7 B7;obtain⟨g7,hg7⟩:=qc wq.heap.size;have hg7q:wq.heap.size<=g7:=by rw[hg7.out];exact q_r
  rw[<-hg7.out] at B7 ⊢;have HB7':=q_h B7;have HE7':=q_h (HEI.out.trans e7);have HC7':Hid (Chg w1.heap.size wZ.heap.size wZ w7):=HC.out.trans (e7.chg _ _)
  have HO7':Hid (∃ A,zt N w1.heap.size wZ.heap.size w7 hh cap n n β κ A/\DnP Z z A i 0 0):=by
   obtain⟨A,h1,h2⟩:=HOM.out;exact⟨A,h1.ext e7,h2⟩
  obtain⟨b0,b1,b2,-⟩:=cells3 B7;replace a0:=e7.cell a0;clear B7 e7 p0 p1 p2 HOM HC hg7 hsz7 a1 a2 HEI;go_wp2_with (go_at_call 62;refine q_o ?_);refine (HFI.out _ R HE7'.out (by omega)).mono ?_;rintro e w8 ⟨rfl,e8⟩;rw[<-hP.out];replace a0:=e8.cell a0;have HB8':=q_h (e8.block HB7'.out);have HE8':=q_h (HE7'.out.trans e8);clear b0 b1 b2;obtain⟨b0,b1,b2,-⟩:=cells3 HB8'.out;go_wp2_with (go_at_call 62;refine q_o ?_);refine (HFI.out _ C HE8'.out (by omega)).mono ?_;rintro e wF ⟨rfl,eF⟩;rw[<-hT.out];have HB7:=q_h (eF.block HB8'.out);have HX7F:Ext w7 wF:=e8.trans eF;have HC7:Hid (Chg w1.heap.size wZ.heap.size wZ wF):=HC7'.out.trans (HX7F.chg _ _)
  have HO7:Hid (∃ A,zt N w1.heap.size wZ.heap.size wF hh cap n n β κ A/\DnP Z z A i 0 0):=by
   obtain⟨A,h1,h2⟩:=HO7'.out;exact⟨A,h1.ext HX7F,h2⟩
  have hg77:g7<wF.heap.size:=qG HB7.out;clear b0 b1 b2 a0 e8 eF HX7F HB8' HE8' HB7' HE7' HC7' HO7' HBQ;obtain⟨b0,b1,b2,-⟩:=cells3 HB7.out;go_wp2_with fail
  go_loopw [9] (fun iv wr=>∃ a:Nat,a<=S/\iv=.int .i64 (a:Int)/\Hid (∃ A,zt N w1.heap.size wZ.heap.size wr hh cap n n β κ A/\DnP Z z A i a 0)/\Hid (Chg w1.heap.size wZ.heap.size wF wr)) (fun iv _=>S - (intOf iv).toNat)
  case atStart=>exact⟨0,Nat.zero_le _,rfl,HO7,Chg.refl _ _ _⟩
  case round =>
   clear HO7 b0 b1 b2;obtain⟨a,ha9,rfl,HOA,HCA⟩:=hrel;obtain⟨b0,b1,b2,-⟩:=cells3 (HCA.out.blk HB7.out (.inr (by omega)))
   by_cases hla:a<S
   case neg =>
    have t3:decide ((a:Int)<(S:Int))=false:=q_f (by omega);obtain rfl:S=a:=by omega
    have HON:Hid (∃ A,zt N w1.heap.size wZ.heap.size wr hh cap n n β κ A/\DnP Z z A (i+1) 0 0):=by
     obtain⟨A,h1,h2⟩:=HOA.out;refine⟨A,h1,DnP.blk ?_⟩;rw[<-hR.out,<-hS.out];exact h2
    have HCN:Hid (Chg w1.heap.size wZ.heap.size wZ wr):=HC7.out.trans HCA.out;go_wp2;go_roundw
    case rel=>exact⟨i+1,by omega,by go_num,HON,HCN⟩
    case measure=>simp[intOf];omega
   have t3:decide ((a:Int)<(S:Int))=true:=q_t (by omega);have t4:(a:Int)<(S:Int):=by omega
   have hEa:=HCA.out.ext (HC7.out.ext HEZ.out (by omega)) (by omega);obtain⟨bm,om,rfl,-,-,hxm⟩:=MtR.addr HMW.out (by omega);obtain⟨Aa,ca,p0,hca1,hca2,hrow⟩:=hxm a hla;have hla9:=HLC.out a (by rw[hmR.out,<-hS.out];exact hla);rw[hla9] at p0 hrow hca1;obtain⟨D,hD⟩:=qc (z C);rw[<-hD.out] at p0 hrow hca1;have hXD:T+D<=n:=by rw[hD.out];exact hXC
   have HRW:=q_h hrow;have HRC:Hid (∀ b,b<D->(Z.b i).A a b=raw (zh ((Z.b i).A a b))):=fun b hb=>Vg HO.out HIB.out (by rw[hmR.out,<-hS.out];exact hla) (by rw[hla9,<-hD.out];exact hb)
   have HQX:Hid (∀ b,b<D->xG Z z (P+a) (T+b)=zh ((Z.b i).A a b)):=fun b hb=>by
    have h9:=q4d HO.out HZ.out HIB.out (a:=a) (b:=b) (by rw[<-hR.out,<-hS.out];exact hla) (by rw[<-hC.out,<-hD.out];exact hb);rw[<-hR.out,<-hC.out,<-hP.out,<-hT.out] at h9;exact h9
   have HP0:=q_h p0;have hwr:wZ.heap.size<=wr.heap.size:=by have:=HCA.out.size;omega
   obtain⟨wp,hwp⟩:∃ wp,wp=wr:=⟨_,rfl⟩
   subst hwp;clear hxm hrow hla9 hEa p0;go_wp2_with fail
   go_loopw [10] (fun iv wr=>∃ b:Nat,b<=D/\iv=.int .i64 (b:Int)/\Hid (∃ A,zt N w1.heap.size wZ.heap.size wr hh cap n n β κ A/\DnP Z z A i a b)/\Hid (Chg w1.heap.size wZ.heap.size wF wr)) (fun iv _=>D - (intOf iv).toNat)
   case atStart=>exact⟨0,Nat.zero_le _,rfl,HOA,HCA⟩
   case round =>
    clear HOA HCA b0 b1 b2;obtain⟨b9,hb9,rfl,HOB,HCB⟩:=hrel;have hEb:=HCB.out.ext (HC7.out.ext HEZ.out (by omega)) (by omega);obtain⟨b0,b1,b2,-⟩:=cells3 (HCB.out.blk HB7.out (.inr (by omega)));have p0:=hEb.cell HP0.out
    by_cases hlb:b9<D
    case neg =>
     have t5:decide ((b9:Int)<(D:Int))=false:=q_f (by omega);obtain rfl:D=b9:=by omega
     have HON:Hid (∃ A,zt N w1.heap.size wZ.heap.size wr hh cap n n β κ A/\DnP Z z A i (a+1) 0):=by
      obtain⟨A,h1,h2⟩:=HOB.out;refine⟨A,h1,DnP.row ?_⟩;rw[<-hC.out,<-hD.out];exact h2
     go_wp2;go_roundw
     case rel=>exact⟨a+1,by omega,by go_num,HON,HCB⟩
     case measure=>simp[intOf];omega
    have t5:decide ((b9:Int)<(D:Int))=true:=q_t (by omega);have t6:(b9:Int)<(D:Int):=by omega
    obtain⟨br,orr,rfl,-,-,hxr⟩:=LsR.addr HRW.out (by omega);have hAt:=hxr b9 hlb;rw[HRC.out b9 hlb] at hAt;obtain⟨n1,A7,k7,c7,A8,k8,c8,r0,r1,r2,r3,hb1,z1,z2⟩:=hAt.open;obtain⟨q,hq⟩:=qc (zh ((Z.b i).A a b9));rw[<-hq.out] at hb1 z1 z2;have HR0:=q_h r0;have HR1:=q_h r1;have HR2:=q_h r2;have HR3:=q_h r3;replace r0:=hEb.cell r0;replace r1:=hEb.cell r1;replace r2:=hEb.cell r2;replace r3:=hEb.cell r3;have HZW1:=q_h z1;have HZW2:=q_h z2;have hX0:P+a<n:=by omega
    have hY0:T+b9<n:=by omega
    have HDX:=q_h (HQX.out b9 hlb);rw[<-hq.out] at HDX;have HPI:Hid (P=qm z (Z.b i).r.toNat/\T=qm z (Z.b i).c.toNat):=by rw[Hid,<-hR.out,<-hC.out];exact⟨hP.out,hT.out⟩
    obtain⟨X,hX⟩:=qc (P+a);obtain⟨Y,hY⟩:=qc (T+b9);rw[<-hX.out,<-hY.out] at HDX;rw[<-hX.out] at hX0;rw[<-hY.out] at hY0;have t7:IntKind.i64.wrap ((P:Int)+(a:Int))=(X:Int):=by rw[wrp (by omega) (by omega),hX.out];omega
    have t8:IntKind.i64.wrap ((T:Int)+(b9:Int))=(Y:Int):=by rw[wrp (by omega) (by omega),hY.out];omega
    have t9:(X:Int)<(n:Int):=by omega
    have t10:(Y:Int)<(n:Int):=by omega
    have hwr9:wZ.heap.size<=wr.heap.size:=by have:=HCB.out.size;omega
    obtain⟨A,ho,hdn⟩:=HOB.out;have HDN:=q_h hdn;have HO8:=q_h ho;have x0:=HO8.out.hcell hX0;have HRX:zq N wr (.agg #[.bool n1,.slice A7 k7 c7,.bool false,.slice A8 k8 c8]) q:=zq.mk hb1 (z1.ext hEb) (z2.ext hEb);have hloX:=HO8.out.lo_ X hX0;have hhiX:=HO8.out.hi_ X hX0;have hloY:=HO8.out.lo_ Y hY0;have hhiY:=HO8.out.hi_ Y hY0;obtain⟨wp2,hwp2⟩:∃ wp2,wp2=wr:=⟨_,rfl⟩
    subst hwp2;clear hxr hAt z1 z2 hEb ho hdn HOB;go_upto_region 15 with (fail);refine jP [Mn.eq (.slice (some ⟨hh,0,none⟩) n cap),Mn.i (P:Int),Mn.i (a:Int),Mn.i (X:Int),Mn.q hh X,Mn.eq (.slice (some ⟨β X,0,none⟩) n (κ X)),Mn.i (T:Int),Mn.i (b9:Int),Mn.i (Y:Int),Mn.q g7 2,Mn.eq (.slice (some ⟨bm,om,none⟩) S cb),Mn.i (a:Int),Mn.q bm (om+a),Mn.eq (.slice (some ⟨br,orr,none⟩) D ca),Mn.i (b9:Int),Mn.q br (orr+b9*4),Mn.rat N (q),Mn.any,Mn.any] [some 56,some 57,some 58,some 59,some 60,some 61,some 62,some 63,some 64,some 65,some 66,some 67,some 68,some 69,some 70,some 71,some 72,some 73,none] [17,18] (rQ 17 2) 2 (by kernel_rfl) ?_ ?_
    ·show ∀ i,i<19->_
     iterate 19 refine fs ?_ ?_
     ·exact fz
     all_goals intro hl;first | exact absurd hl (by decide) | (clear hl;refine stp rfl ?_;intro ac wi eI hB hA K hK)
     have o4:=oOf (hB 4) rfl
     rotate_left
     have o7:=oOf (hB 7) rfl
     rotate_left
     have o9:=oOf (hB 9) rfl
     rotate_left
     obtain⟨_,s57,rfl⟩:=hA 1 57;obtain⟨_,s58,rfl⟩:=hA 2 58
     rotate_left
     obtain⟨_,s56,rfl⟩:=hA 0 56;obtain⟨_,s59,rfl⟩:=hA 3 59
     rotate_left
     obtain⟨_,s60,rfl⟩:=hA 4 60;have cc0:=eI.cell x0
     rotate_left
     have o8:=oOf (hB 8) rfl
     rotate_left
     have o10:=oOf (hB 10) rfl
     rotate_left
     obtain⟨_,s62,rfl⟩:=hA 6 62;obtain⟨_,s63,rfl⟩:=hA 7 63
     rotate_left
     have o6:=oOf (hB 6) rfl
     rotate_left
     obtain⟨_,s65,rfl⟩:=hA 9 65;have cc0:=eI.cell b2
     rotate_left
     have o9:=oOf (hB 9) rfl
     rotate_left
     obtain⟨_,s66,rfl⟩:=hA 10 66;obtain⟨_,s67,rfl⟩:=hA 11 67
     rotate_left
     obtain⟨_,s68,rfl⟩:=hA 12 68;have cc0:=eI.cell p0
     rotate_left
     have o10:=oOf (hB 10) rfl
     rotate_left
     obtain⟨_,s69,rfl⟩:=hA 13 69;obtain⟨_,s70,rfl⟩:=hA 14 70
     rotate_left
     obtain⟨_,s71,rfl⟩:=hA 15 71;clear hB hA;have cc0:=eI.cell r0;have cc1:=eI.cell r1;have cc2:=eI.cell r2;have cc3:=eI.cell r3
     ·go_simp;exact q_k hK (HRX.ext eI)
     all_goals clear hB hA;go_simp;exact q_k hK rfl
    intro vals wz eZ hJ;have J61:vals 5=_:=hJ 5 (by decide) (by decide);have J64:vals 8=_:=hJ 8 (by decide) (by decide);have J72:Mn.p (Mn.rat N (q)) (vals 16) wz:=hJ 16 (by decide) (by decide);clear hJ;simp only[pr,Nat.reduceAdd,J61,J64];clear J61 J64
    generalize vals 16=z72 at J72 ⊢
    obtain⟨bz,Az,kz,cz,Az',kz',cz',rfl,hbz,gz1,gz2⟩:=zq.parts J72;have hoz:=HO8.out.ext eZ;have hRa:=hoz.row X hX0;have hκ:=hRa.2.1;obtain⟨y0,w0⟩:=hRa.there (o:=Y*4) (by omega);obtain⟨y1,w1'⟩:=hRa.there (o:=Y*4+1) (by omega);obtain⟨y2,w2'⟩:=hRa.there (o:=Y*4+2) (by omega);obtain⟨y3,w3'⟩:=hRa.there (o:=Y*4+3) (by omega);have f0:=hRa.frozen (Y*4);have f1:=hRa.frozen (Y*4+1);have f2:=hRa.frozen (Y*4+2);have f3:=hRa.frozen (Y*4+3);refine qj (i:=17) rfl (by kernel_rfl) (by kernel_rfl) (fun K hK=>?_);go_simp;refine hK.out _ _ ?_;clear hK K;try simp only[nr]
    refine qj (i:=18) rfl (by kernel_rfl) (by kernel_rfl) (fun K hK=>?_);go_simp;refine hK.out _ _ ?_;clear hK K;try simp only[nr]
    refine qg (by kernel_rfl) ?_ _;obtain⟨w9,E9,C9,hs9,hr9⟩:=hRa.set (i:=Y) (q:=q) (by omega) (by omega) hbz gz1 gz2;rw[E9];have HO9:=q_h (hoz.setRow hX0 C9 (hr9.less (n':=n) (by omega)));have HC9:Hid (Chg w1.heap.size wZ.heap.size wF w9):=(HCB.out.trans (eZ.chg _ _)).trans (C9.wide hloX (by omega));clear E9 C9 hs9 hr9 hRa hoz hκ w0 w1' w2' w3' f0 f1 f2 f3 hbz gz1 gz2 eZ x0 b0 b1 b2 r0 r1 r2 r3 HRX HCB HO8 J72 y0 y1 y2 y3 p0;have hE9:=HC9.out.ext (HC7.out.ext HEZ.out (by omega)) (by omega);obtain⟨b0,b1,b2,-⟩:=cells3 (HC9.out.blk HB7.out (.inr (by omega)));have p0:=hE9.cell HP0.out;have r0:=hE9.cell HR0.out;have r1:=hE9.cell HR1.out;have r2:=hE9.cell HR2.out;have r3:=hE9.cell HR3.out;have x0:=HO9.out.hcell hY0;have HRX:zq N w9 (.agg #[.bool n1,.slice A7 k7 c7,.bool false,.slice A8 k8 c8]) q:=zq.mk hb1 (HZW1.out.ext hE9) (HZW2.out.ext hE9);clear hE9;go_upto_region 16 with (fail);refine jP [Mn.eq (.slice (some ⟨hh,0,none⟩) n cap),Mn.i (T:Int),Mn.i (b9:Int),Mn.i (Y:Int),Mn.q hh Y,Mn.eq (.slice (some ⟨β Y,0,none⟩) n (κ Y)),Mn.i (P:Int),Mn.i (a:Int),Mn.i (X:Int),Mn.q g7 2,Mn.eq (.slice (some ⟨bm,om,none⟩) S cb),Mn.i (a:Int),Mn.q bm (om+a),Mn.eq (.slice (some ⟨br,orr,none⟩) D ca),Mn.i (b9:Int),Mn.q br (orr+b9*4),Mn.rat N (q),Mn.any,Mn.any] [some 74,some 75,some 76,some 77,some 78,some 79,some 80,some 81,some 82,some 83,some 84,some 85,some 86,some 87,some 88,some 89,some 90,some 91,none] [17,18] (rQ 17 2) 2 (by kernel_rfl) ?_ ?_
    ·show ∀ i,i<19->_
     iterate 19 refine fs ?_ ?_
     ·exact fz
     all_goals intro hl;first | exact absurd hl (by decide) | (clear hl;refine stp rfl ?_;intro ac wi eI hB hA K hK)
     have o4:=oOf (hB 4) rfl
     rotate_left
     have o8:=oOf (hB 8) rfl
     rotate_left
     have o10:=oOf (hB 10) rfl
     rotate_left
     obtain⟨_,s75,rfl⟩:=hA 1 75;obtain⟨_,s76,rfl⟩:=hA 2 76
     rotate_left
     obtain⟨_,s74,rfl⟩:=hA 0 74;obtain⟨_,s77,rfl⟩:=hA 3 77
     rotate_left
     obtain⟨_,s78,rfl⟩:=hA 4 78;have cc0:=eI.cell x0
     rotate_left
     have o7:=oOf (hB 7) rfl
     rotate_left
     have o9:=oOf (hB 9) rfl
     rotate_left
     obtain⟨_,s80,rfl⟩:=hA 6 80;obtain⟨_,s81,rfl⟩:=hA 7 81
     rotate_left
     have o6:=oOf (hB 6) rfl
     rotate_left
     obtain⟨_,s83,rfl⟩:=hA 9 83;have cc0:=eI.cell b2
     rotate_left
     have o9:=oOf (hB 9) rfl
     rotate_left
     obtain⟨_,s84,rfl⟩:=hA 10 84;obtain⟨_,s85,rfl⟩:=hA 11 85
     rotate_left
     obtain⟨_,s86,rfl⟩:=hA 12 86;have cc0:=eI.cell p0
     rotate_left
     have o10:=oOf (hB 10) rfl
     rotate_left
     obtain⟨_,s87,rfl⟩:=hA 13 87;obtain⟨_,s88,rfl⟩:=hA 14 88
     rotate_left
     obtain⟨_,s89,rfl⟩:=hA 15 89;clear hB hA;have cc0:=eI.cell r0;have cc1:=eI.cell r1;have cc2:=eI.cell r2;have cc3:=eI.cell r3
     ·go_simp;exact q_k hK (HRX.ext eI)
     all_goals clear hB hA;go_simp;exact q_k hK rfl
    intro vals wz eZ hJ;have J79:vals 5=_:=hJ 5 (by decide) (by decide);have J82:vals 8=_:=hJ 8 (by decide) (by decide);have J90:Mn.p (Mn.rat N (q)) (vals 16) wz:=hJ 16 (by decide) (by decide);clear hJ;simp only[pr,Nat.reduceAdd,J79,J82];clear J79 J82
    generalize vals 16=z90 at J90 ⊢
    obtain⟨bz,Az,kz,cz,Az',kz',cz',rfl,hbz,gz1,gz2⟩:=zq.parts J90;have hoz:=HO9.out.ext eZ;have hRa:=hoz.row Y hY0;have hκ:=hRa.2.1;obtain⟨y0,w0⟩:=hRa.there (o:=X*4) (by omega);obtain⟨y1,w1'⟩:=hRa.there (o:=X*4+1) (by omega);obtain⟨y2,w2'⟩:=hRa.there (o:=X*4+2) (by omega);obtain⟨y3,w3'⟩:=hRa.there (o:=X*4+3) (by omega);have f0:=hRa.frozen (X*4);have f1:=hRa.frozen (X*4+1);have f2:=hRa.frozen (X*4+2);have f3:=hRa.frozen (X*4+3);refine qj (i:=17) rfl (by kernel_rfl) (by kernel_rfl) (fun K hK=>?_);go_simp;refine hK.out _ _ ?_;clear hK K;try simp only[nr]
    refine qj (i:=18) rfl (by kernel_rfl) (by kernel_rfl) (fun K hK=>?_);go_simp;refine hK.out _ _ ?_;clear hK K;try simp only[nr]
    refine qg (by kernel_rfl) ?_ _;obtain⟨w10,E10,C10,hs10,hr10⟩:=hRa.set (i:=X) (q:=q) (by omega) (by omega) hbz gz1 gz2;rw[E10];have ho10:=hoz.setRow hY0 C10 (hr10.less (n':=n) (by omega));have HON:Hid (∃ A,zt N w1.heap.size wZ.heap.size w10 hh cap n n β κ A/\DnP Z z A i a (b9+1)):=⟨_,ho10,HDN.out.put (by rw[hX.out,HPI.out.1]) (by rw[hY.out,HPI.out.2]) HDX.out.symm⟩
    have HC10:Hid (Chg w1.heap.size wZ.heap.size wF w10):=(HC9.out.trans (eZ.chg _ _)).trans (C10.wide hloY (by omega));clear E10 C10 hs10 hr10 hRa hoz hκ w0 w1' w2' w3' f0 f1 f2 f3 hbz gz1 gz2 eZ x0 b0 b1 b2 r0 r1 r2 r3 HRX HC9 HO9 ho10 J90 HDN p0;go_wp2;go_roundw
    case rel=>exact⟨b9+1,by omega,by go_num,HON,HC10⟩
    case measure=>simp[intOf];omega
theorem q8d{Z:Sys}(h:wS N lo hi w v Z) :
  Calls Tryz.prog 7 #[v] w (zG w (.bool true)):=by
 have HFW:=q_h fun (w':World) (e:Ext w w')=>rf_Few (h.ext e)
 have HCK:=q_h fun (hf:FewF Z) (w':World) (e:Ext w w')=>rf_Check (h.ext e) hf.br hf.kb
 have HBC:=q_h fun (hf:FewF Z) (w':World) (e:Ext w w')=>Jd (h.ext e) hf.bz hf.kz
 have HDE:=q_h fun (hf:FewF Z) (w':World) (e:Ext w w')=>q8o (h.ext e) hf.br hf.bz hf.kz
 have HPA:=q_h fun (hf:FewF Z) (w':World) (e:Ext w w')=>q8h (h.ext e) hf.bz hf.kz (by have:=hf.nb;omega)
 have HRD:=q_h fun (h0:Okk Z) (w':World) (e:Ext w w')=>q8l (h.ext e) h0 (zN_ok h0)
 obtain⟨G,hG⟩:=qc (jw Z Z.nb)
 have HED:Hid (∀ w',Ext w w'->∀ a c:Nat,Calls Tryz.prog 28 #[v,.int .i64 (a:Int),.int .i64 (c:Int)] w' (zG w' (.bool (G a c)))):=fun w' e a c=>by
  rw[hG.out];exact rf_Edges (h.ext e) a c
 obtain⟨A1,c1,A2,c2,A3,c3,rfl,s1,s2,s3,k1,k2,k3⟩:=h.parts;clear h s1 s2 s3;go_enter Tryz.func7,Tryz.ntmps7;go_upto_region 1 with (fail);refine qp ?_;intro W hE hsz B0;obtain⟨g0,hg0⟩:=qc w.heap.size;have hgw:w.heap.size<=g0:=by rw[hg0.out];exact q_r
 rw[<-hg0.out] at B0 ⊢;clear hsz hg0;obtain⟨a0,a1,a2,-⟩:=cells3 B0;go_wp2_with (go_at_call 8;refine q_o ?_);refine (q7n _).mono ?_;rintro e w1 ⟨rfl,e1⟩;replace hE:=hE.trans e1;replace B0:=e1.block B0;clear a0 a1 a2 e1;obtain⟨a0,a1,a2,-⟩:=cells3 B0;go_wp2_with (go_at_call 9;refine q_o ?_);refine (HFW.out _ hE).mono ?_;rintro e w2 ⟨rfl,e2⟩;replace hE:=hE.trans e2;replace B0:=e2.block B0;clear a0 a1 a2 e2;obtain⟨a0,a1,a2,-⟩:=cells3 B0;cases hf:q64 Z with
 | false =>
  go_wp2
  first | go_ret | skip
  exact⟨rfl,hE⟩
 | true =>
 have HF:=q_h (few_sys hf);clear hf;obtain⟨cd,hcd⟩:=qc (yO Z);go_wp2_with (go_at_call 10;refine q_o ?_);refine (HCK.out HF.out _ hE).mono ?_;rintro e w3 ⟨rfl,e3⟩;rw[<-hcd.out];replace hE:=hE.trans e3;replace B0:=e3.block B0;clear a0 a1 a2 e3;obtain⟨a0,a1,a2,-⟩:=cells3 B0;go_wp2_with (go_at_call 33;refine q_o ?_);refine (HDE.out HF.out _ hE).mono ?_;rintro e w4 ⟨e4,hcase⟩;rw[<-hcd.out] at hcase
 by_cases h0:cd=0
 case neg =>
  rcases hcase with ⟨-,rfl⟩ | ⟨h9,-⟩
  case inr=>exact absurd h9 h0
  have HN:=q_h h0;have t1:(cd != 0)=true:=by simpa using h0
  have t1':(cd != cd)=false:=by simp
  clear h0;replace hE:=hE.trans e4;replace B0:=e4.block B0;clear a0 a1 a2 e4;obtain⟨a0,a1,a2,-⟩:=cells3 B0;go_wp2_with (go_at_call 34;refine q_o ?_);refine (HPA.out HF.out _ hE).mono ?_;rintro e w5 ⟨e5,hcase⟩;rw[<-hcd.out] at hcase
  rcases hcase with ⟨-,rfl⟩ | ⟨h9,-⟩
  case inr=>exact absurd h9 HN.out
  replace hE:=hE.trans e5;replace B0:=e5.block B0;clear a0 a1 a2 e5;obtain⟨a0,a1,a2,-⟩:=cells3 B0;go_upto_region 8 with (fail);refine qp ?_;intro w6 e6 hsz6 B6;obtain⟨g6,hg6⟩:=qc w5.heap.size;rw[<-hg6.out] at B6 ⊢;have HB6:=q_h B6;clear hg6 hsz6 B6;replace hE:=hE.trans e6;replace B0:=e6.block B0;clear a0 a1 a2 e6;obtain⟨a0,a1,a2,-⟩:=cells3 B0;go_wp2_with (go_at_call 35;refine q_o ?_);refine (HBC.out HF.out _ hE).mono ?_;rintro e w7 ⟨rfl,e7⟩;rw[<-hcd.out];have B7:=e7.block HB6.out;have HE7:=q_h (hE.trans e7);clear a0 a1 a2 B0 hE e7 HB6;obtain⟨y0,y1,-⟩:=cells2 B7;go_wp2
  first | go_ret | skip
  exact⟨rfl,HE7.out⟩
 rcases hcase with ⟨h9,-⟩ | ⟨-,A,c,rfl,hm⟩
 ·exact absurd h0 h9
 have HOK:Hid (Okk Z):=ZZ (by rw[<-hcd.out];exact h0);have HN:=q_h h0;have t1:(cd != 0)=false:=by simpa using h0
 have t1':(cd != cd)=false:=by simp
 have t1'':((0:Int) != cd)=false:=by simp[h0]
 have HM:=q_h hm;have HEI:Hid (Z7 (ptL Z Z.nb)=rfL G Z.ns Z.ns):=by rw[Hid,hG.out];exact q8m HOK.out
 have HHT:Hid (∀ i,i<qm (zN Z) Z.ns->∀ j,j<qm (zN Z) Z.ns->Sz (xG Z (zN Z) i j)/\Sz (xG Z (zN Z) i j)/\Sz (xG Z (zN Z) i j - xG Z (zN Z) i j)):=fun i hi j hj=>by
  have h1:=den_htm HOK.out (zN_ok HOK.out) HF.out.br i hi j hj;exact⟨h1.sz (by omega),h1.sz (by omega),(h1.sub h1).sz (by omega)⟩
 obtain⟨n,hn⟩:=qc (qm (zN Z) Z.ns);rw[<-hn.out] at HM HHT ⊢;have hns:Z.ns<=12:=HOK.out.n2;clear h0 hm;replace hE:=hE.trans e4;replace B0:=e4.block B0;clear a0 a1 a2 e4;obtain⟨a0,a1,a2,-⟩:=cells3 B0;go_wp2_with (go_at_call 34;refine q_o ?_);refine (HPA.out HF.out _ hE).mono ?_;rintro e w5 ⟨e5,hcase⟩;rw[<-hcd.out] at hcase
 rcases hcase with ⟨h9,-⟩ | ⟨-,vp,rfl,hp⟩
 ·exact absurd HN.out h9
 have HM5:=q_h (MtR.ext HM.out e5);have HP5:=q_h hp;obtain⟨Ap,cp,rfl,-⟩:=hp;rw[HEI.out] at HP5;rw[HEI.out];clear HM;replace hE:=hE.trans e5;replace B0:=e5.block B0;clear a0 a1 a2 e5;obtain⟨a0,a1,a2,-⟩:=cells3 B0;go_upto_region 8 with (fail);refine qp ?_;intro w6 e6 hsz6 B6;obtain⟨g6,hg6⟩:=qc w5.heap.size;rw[<-hg6.out] at B6 ⊢;have HB6:=q_h B6;have HM6:=q_h (MtR.ext HM5.out e6);have HP6:=q_h (HP5.out.ext e6);clear hg6 hsz6 B6 HM5 HP5;replace hE:=hE.trans e6;replace B0:=e6.block B0;clear a0 a1 a2 e6;obtain⟨a0,a1,a2,-⟩:=cells3 B0;go_wp2_with (go_at_call 35;refine q_o ?_);refine (HBC.out HF.out _ hE).mono ?_;rintro e w7 ⟨rfl,e7⟩;rw[<-hcd.out];have HB7:=q_h (e7.block HB6.out);have HM7:=q_h (MtR.ext HM6.out e7);have HP7:=q_h (HP6.out.ext e7);clear HB6 HM6 HP6;replace hE:=hE.trans e7;replace B0:=e7.block B0;clear a0 a1 a2 e7;obtain⟨a0,a1,a2,-⟩:=cells3 B0;obtain⟨m,hm⟩:=qc Z.ns;rw[<-hm.out] at B0 a0 hns HB7 HP7 HEI ⊢;have hg0w:g0<w7.heap.size:=qG B0;have hg6w:g6<w7.heap.size:=qG HB7.out;have hww:w.heap.size<=w7.heap.size:=hE.size;have HG0:Hid (zH 69 2 w7.heap.size w7 (.slice none (rfL G m 0).length 0) (rfL G m 0).length (prv (rfL G m 0))):=zH.nil (q_r);have HE0:=q_h hE;have HB0:=q_h B0;clear hE B0;go_wp2_with fail
 go_loopw [61,8] (fun iv ov wr=>∃ (a:Nat) (Ao:Option Addr) (co:Nat),a<=m/\iv=.int .i64 (a:Int)/\ov=.slice Ao (rfL G m a).length co/\Hid (zH 69 2 w7.heap.size wr (.slice Ao (rfL G m a).length co) (rfL G m a).length (prv (rfL G m a)))/\Hid (Ext w7 wr)) (fun iv _ _=>m - (intOf iv).toNat)
 case atStart=>exact⟨0,none,0,Nat.zero_le _,rfl,rfl,HG0,Ext.refl _⟩
 case round =>
  clear HG0 a0 a1 a2;obtain⟨a,Ao,co,ha9,rfl,rfl,HGO,HER⟩:=hrel;have HBr:=q_h (HER.out.block HB0.out);obtain⟨a0,a1,a2,-⟩:=cells3 HBr.out
  by_cases hla:a<m
  case neg =>
   have t2:decide ((a:Int)<(m:Int))=false:=q_f (by omega);obtain rfl:m=a:=by omega
   have HPO:Hid (PrV wr (.slice Ao (rfL G m m).length co) (rfL G m m)):=zH.prs HGO.out;have HPr:=q_h (HP7.out.ext HER.out);have HMr:=q_h (MtR.ext HM7.out HER.out);have HB6r:=q_h (HER.out.block HB7.out);have HEr:Hid (Ext w wr):=HE0.out.trans HER.out;obtain⟨l,hl⟩:=qc (rfL G m m);rw[<-hl.out] at HPO HPr HB6r ⊢;clear HGO hla;go_wp2_with (go_at_call 25;refine q_o ?_);rw[hm.out];refine (HRD.out HOK.out _ HEr.out).mono ?_;rintro e w8 ⟨hh,cap,β,κ,rfl,hcap,ho,e8⟩;rw[<-hn.out] at ho ⊢;rw[<-hm.out];have HM8:=q_h (ho.mtv ho.mle hcap);have HMR8:=q_h (MtR.ext HMr.out e8);have HE8:Hid (Ext wr w8):=e8;clear ho e8 a0 a1 a2;go_wp2_with (go_at_call 36;refine q_o ?_);refine (ZP HMR8.out HM8.out HHT.out).mono ?_;rintro e w9 ⟨rfl,e9⟩;rw[ql.2 (fun i _=>ql.2 fun j _=>decide_eq_true rfl)];have HE9:Hid (Ext wr w9):=HE8.out.trans e9;obtain⟨y0,y1,-⟩:=cells2 (HE9.out.block HB6r.out);obtain⟨a0,a1,a2,-⟩:=cells3 (HE9.out.block HBr.out);clear e9;have t3:((m:Int) == (m:Int))=true:=by simp
   go_wp2_with (go_at_call 37;refine q_o ?_);refine (q0Y (HPr.out.ext HE9.out) (HPO.out.ext HE9.out)).mono ?_;rintro e w10 ⟨rfl,e10⟩;rw[decide_eq_true rfl];go_wp2
   first | go_ret | skip
   exact⟨rfl,(HEr.out.trans HE9.out).trans e10⟩
  have t2:decide ((a:Int)<(m:Int))=true:=q_t (by omega);have t3:IntKind.i64.wrap ((a:Int)+1)=((a+1:Nat):Int):=by rw[wrp (by omega) (by omega)];omega
  obtain⟨l0,hl0⟩:=qc (rfL G m a);rw[<-hl0.out] at HGO ⊢;have hl0l:l0.length<=12*a:=by rw[hl0.out];exact q5w G hns a
  have HGO':Hid (zH 69 2 w7.heap.size wr (.slice Ao (l0++rfR G a (a+1)).length co) (l0++rfR G a (a+1)).length (prv (l0++rfR G a (a+1)))):=by
   rw[rfR_self,List.append_nil];exact HGO.out
  have HL0:Hid (l0.length=(l0++rfR G a (a+1)).length):=by rw[rfR_self,List.append_nil];rfl
  obtain⟨wq,hwq⟩:∃ wq,wq=wr:=⟨_,rfl⟩
  subst hwq;have HE1:=HER;clear HGO HER HBr;go_wp2_with fail
  go_loopw [10,8] (fun iv ov wr=>∃ (b:Nat) (Ao:Option Addr) (co:Nat),a<b/\b<=m/\iv=.int .i64 (b:Int)/\ov=.slice Ao (l0++rfR G a b).length co/\Hid (zH 69 2 w7.heap.size wr (.slice Ao (l0++rfR G a b).length co) (l0++rfR G a b).length (prv (l0++rfR G a b)))/\Hid (Ext w7 wr)) (fun iv _ _=>m - (intOf iv).toNat)
  case atStart=>exact⟨a+1,Ao,co,by omega,by omega,rfl,by rw[<-HL0.out],HGO',HE1⟩
  case round =>
   clear HGO' HE1 HL0 t3 a0 a1 a2;obtain⟨b,Ao,co,hab,hb9,rfl,rfl,HGO,HER⟩:=hrel;have HBr:=q_h (HER.out.block HB0.out);obtain⟨a0,a1,a2,-⟩:=cells3 HBr.out
   by_cases hlb:b<m
   case neg =>
    have t4:decide ((b:Int)<(m:Int))=false:=q_f (by omega);obtain rfl:m=b:=by omega
    have HLL:Hid (l0++rfR G a m=rfL G m (a+1)):=by rw[Hid,hl0.out];rfl
    rw[HLL.out] at HGO ⊢;go_wp2;go_roundw
    case rel=>exact⟨a+1,Ao,co,by omega,by go_num,rfl,HGO,HER⟩
    case measure=>simp[intOf];omega
   have t4:decide ((b:Int)<(m:Int))=true:=q_t (by omega);have hlr:=q5v G a b;obtain⟨lx,hlx⟩:=qc (l0++rfR G a b);rw[<-hlx.out] at HGO ⊢;have hlxl:lx.length<=200:=by rw[hlx.out,List.length_append];omega
   have HEr:Hid (Ext w wr):=HE0.out.trans HER.out;go_wp2_with (go_at_call 28;refine q_o ?_);rw[hm.out];refine (HED.out _ HEr.out a b).mono ?_;rintro e w8 ⟨rfl,e8⟩;rw[<-hm.out];obtain⟨gb,hgb⟩:=qc (G a b);rw[<-hgb.out];have HGO2:=q_h (HGO.out.ext e8);have HE2:Hid (Ext w7 w8):=HER.out.trans e8;clear a0 a1 a2 HGO HER HEr HBr e8;cases gb with
   | false =>
    have HPN:Hid (lx=l0++rfR G a (b+1)):=by rw[Hid,rfR_step G hab,<-hgb.out,if_neg (by decide),List.append_nil,hlx.out]
    have HLN:Hid ((l0++rfR G a (b+1)).length=lx.length):=by rw[Hid,<-HPN.out]
    rw[HPN.out] at HGO2;go_wp2;go_roundw
    case rel=>exact⟨b+1,Ao,co,by omega,by omega,by go_num,by rw[HLN.out],HGO2,HE2⟩
    case measure=>simp[intOf];omega
   | true =>
    have HPX:Hid (l0++rfR G a (b+1)=lx ++ [(a,b)]):=by rw[Hid,rfR_step G hab,<-hgb.out,if_pos rfl,<-List.append_assoc,hlx.out]
    go_wp2_with (at_builtin;refine q_o ?_);refine qp ?_;intro w5 e5 hsz5 B5;refine jG Wx rfl _ _ 61 Tryz.underlying61 rfl (by rfl) (HGO2.out.ext e5) (m:=1) (c:=1) (news:=[.int .i64 (a:Int),.int .i64 (b:Int)]) (by rfl) rfl (q5f B5) (by simp[Value.oneCell']) (by omega) ?_;rintro v6 w6 hG6 hat6 ⟨g9,hlo6,hw6,C6⟩;obtain⟨A6,c6,rfl⟩:=hG6.form
    have HG6:Hid (zH 69 2 w7.heap.size w6 (.slice A6 (l0++rfR G a (b+1)).length c6) (l0++rfR G a (b+1)).length (prv (l0++rfR G a (b+1)))):=by
     rw[Hid,HPX.out,q1v,List.length_append];exact hG6
    have HL6:Hid ((l0++rfR G a (b+1)).length=lx.length+1):=by rw[Hid,HPX.out,List.length_append];rfl
    have HE6:Hid (Ext w7 w6):=C6.ext (HE2.out.trans e5) hlo6;clear hG6 hat6 hw6 hlo6 C6 B5 hsz5 e5 HGO2 HE2;go_wp2;go_roundw
    case rel=>exact⟨b+1,A6,c6,by omega,by omega,by go_num,by rw[HL6.out],HG6,HE6⟩
    case measure=>simp[intOf];omega
end Go.Proofs.YtpkmjhmmmdkodaaGreat
