import Derived.Test.YtpkmjhmmmdkodaaGreatWx19
import Derived.Deep.RegionLaw
import Derived.Lib.SliceRun
set_option linter.all false
set_option maxHeartbeats 8000000
set_option maxRecDepth 100000
namespace Go.Proofs.YtpkmjhmmmdkodaaGreat
open Go.RowKit
variable {w w':World} {N n lo hi k g i m base c b j K:Nat} {v s:Value} {R:Raw} {A:Option Addr}
def stL (z:Nat->Int) (k:Nat):List Value:=(List.range k).map fun i=>.int .i64 (xZ z i)
theorem q2Z (z:Nat->Int) (k:Nat):stL z (k+1)=stL z k ++ [.int .i64 (xZ z k)]:=by unfold stL;rw[List.range_succ,List.map_append];rfl
theorem jh (z:Nat->Int) (k:Nat):(stL z k).length=k:=by unfold stL;rw[List.length_map,List.length_range]
theorem q3S {ET:TypeId}{x:Value}(hb:base<=g) (h:w.heap[g]?=some (.cells #[x] ET (0,0))):qZ ET base w (.slice (some ⟨g,0,none⟩) 1 1) [x] :=
 ⟨by have:=qF h;omega,by simp,.inr ⟨g,1,#[x],rfl,hb,h,q_r,by unfold maxLen;omega,by simp,by simp⟩⟩
def q7M (w:World) (n:Nat) (z:Nat->Int) (e:Ending) (w':World):Prop :=
 ∃g c,e=.returned (.slice (some ⟨g,0,none⟩) (n+1) c)/\(n+1<=c/\c<=maxLen)/\w.heap.size<=g/\g<w'.heap.size/\(∀i,i<n+1->w'.cell? ⟨g,i,none⟩=some (.int .i64 (xZ z i)))/\Ext w w'
theorem QU{Z:Sys}(h:Qn N lo hi w v Z) (h1:Z.ns<=12) (hz:∀i,i<Z.ns->sz1 (Z.z i)=true) :
  Calls Tryz.prog 66 #[v] w (q7M w Z.ns Z.z):=by
 obtain⟨R,hR⟩:=qc (q7M w Z.ns Z.z);rw[<-hR.out];obtain⟨A1,c1,A2,c2,A3,c3,rfl,s1,s2,s3,-⟩:=h.parts;have HI:=q_h s1;have HZ:=q_h hz;obtain⟨n,hn⟩:=qc Z.ns;rw[<-hn.out] at HI h1 HZ hR;obtain⟨z,hz9⟩:=qc Z.z;rw[<-hz9.out] at HI HZ hR;clear h s1 s2 s3 hz hz9;go_enter Tryz.func66,Tryz.ntmps66;go_upto_region 1 with (fail);refine qp ?_;intro w1 hE hsz B0;go_upto_region 2 with (fail);refine qp ?_;intro w2 e2 hsz2 B2;obtain⟨a0,a1,a2,-⟩:=cells3 (e2.block B0);rw[<-hn.out] at a0;replace hE:=hE.trans e2;have HG0:Hid (qZ 3 w1.heap.size w2 (.slice (some ⟨w1.heap.size,0,none⟩) 1 1) (stL z 1)):=q3S (q_r) B2;have hw1:w.heap.size<=w1.heap.size:=by omega
 clear e2 B0 B2 hsz hsz2;go_wp2_with fail
 go_loopw [10,3] (fun iv ov wr=>∃(i:Nat) (A:Option Addr) (c:Nat),i<=n/\iv=.int .i64 (i:Int)/\ov=.slice A (i+1) c/\qZ 3 w1.heap.size wr ov (stL z (i+1))/\Ext w wr) (fun iv _ _=>n-(intOf iv).toNat)
 case atStart=>exact⟨0,_,_,Nat.zero_le _,rfl,rfl,HG0.out,hE⟩
 case round =>
  obtain⟨i,A,c,hi,rfl,rfl,HG1,hE1⟩:=hrel;clear HG0 hE
  by_cases hlt:i<n
  case neg =>
   have t1:decide ((i:Int)<(n:Int))=false:=q_f (by omega);obtain rfl:n=i:=by omega
   obtain⟨g,cap,hv,hb,hgs,hcm,hnc,-,hc⟩:=HG1.at_ (by rw[jh];omega);rw[jh] at hv hnc;simp only[Value.slice.injEq] at hv;obtain⟨rfl,-,rfl⟩:=hv
   have HC:Hid (∀i,i<n+1->wr.cell? ⟨g,i,none⟩=some (.int .i64 (xZ z i))):=fun i hi=>by
    rw[hc i (by rw[jh];exact hi)];unfold stL
    simp
   clear hc a0 a1 a2;go_wp2
   first|go_ret|skip
   rw[hR.out];exact⟨g,_,rfl,⟨hnc,hcm⟩,by omega,hgs,HC.out,hE1⟩
  have t1:decide ((i:Int)<(n:Int))=true:=q_t (by omega);have t2:(i:Int)<(n:Int):=by omega
  have t3:(i:Int)<(i:Int)+1:=by omega
  obtain⟨g,cap,hv,hb,hgs,hcm,hnc,-,hc⟩:=HG1.at_ (by rw[jh];omega);rw[jh] at hv hnc;simp only[Value.slice.injEq] at hv;obtain⟨rfl,-,rfl⟩:=hv
  have p0:wr.cell? ⟨g,i,none⟩=some (.int .i64 (xZ z i)):=by
   rw[hc i (by rw[jh];omega)];unfold stL
   simp
  obtain⟨b,off,rfl,hx⟩:=(HI.out.ext hE1).addr (by omega);have q0:=hx i hlt;have hb9:=QW i (fun j hj=>HZ.out j (by omega));have hu:=zQ.1 (HZ.out i hlt);obtain⟨u,hU⟩:=qc (z i);obtain⟨T,hT⟩:=qc (xZ z i);rw[<-hU.out] at q0 hu;rw[<-hT.out] at hb9 p0;have HN:Hid (T+u=xZ z (i+1)):=by rw[Hid,hT.out,hU.out];rfl
  have HG:=q_h HG1;have hxl:(stL z (i+1)).length+1<=1000000000:=by rw[jh];omega
  clear hx hc HG1 a0 a1 a2;go_wp2_with (at_builtin;refine q_o ?_);refine qp ?_;intro w6 e6 hsz6 B6;refine kJ Qb rfl _ _ 22 Tryz.underlying22 rfl (by first|rfl|(rw[jh])) (HG.out.ext e6) (m:=1) (c:=1) (news:=[.int .i64 (T+u)]) (by rfl) rfl (yK B6) (fun x hx=>by rw[List.mem_singleton.1 hx];rfl) (by omega) hxl ?_;rintro g14 cap14 w14 hG14 hat14 ⟨g9,hlo,hw9,C9,-⟩;rw[HN.out,<-q2Z] at hG14;rw[jh] at hG14 ⊢;have hE14:=C9.ext (hE1.trans e6) (by omega);have HG14:=q_h hG14;clear hG14 C9 B6 e6 hat14 hw9 hlo HG hxl p0 q0;go_wp2;go_roundw
  case rel=>exact⟨i+1,_,_,by omega,by go_num,rfl,HG14.out,hE14⟩
  case measure=>simp[intOf];omega
theorem VF:24≠150:=by decide
theorem JL{r:Nat}{f:Nat->Value}{X:q_m}(hN:N<=w.heap.size) (hF:FlB 24 w g r f) (hl:lo<=g) (hg:g<hi) (hh:hi<=w.heap.size) (hr:r<1000000) (h:∀a,a<r->LsV N lo hi w (f a) c (X a)):MtV N lo hi w (.slice (some ⟨g,0,none⟩) r r) r c X :=
 ⟨hN,hh,some ⟨g,0,none⟩,r,rfl,q_r,by unfold maxLen;omega,fun _=>⟨g,0,rfl,hl,hg,fun i hi=>⟨f i,by rw[Nat.zero_add];exact (hF.cell hi).1,h i hi⟩⟩⟩
theorem q6q(hN:N<=w.heap.size){r:Nat}(hr:r<1000) (hc:c<1000) :
  Calls Tryz.prog 137 #[.int .i64 (r:Int),.int .i64 (c:Int)] w (q2P N w r c (fun _ _=>0)):=by
 obtain⟨R,hR⟩:=qc (q2P N w r c (fun _ _=>0));rw[<-hR.out];go_enter Tryz.func137,Tryz.ntmps137;go_wp2_with (at_make;refine q_o ?_);refine zJ QM rfl rfl _ _ 42 Tryz.underlying42 rfl .i64 .i64 _ _ r rfl rfl rfl rfl (by omega) ?_;intro w1 cs B1 hcs hz e1;obtain⟨g,hg⟩:=qc w.heap.size;have hg1:w.heap.size<=g:=by rw[hg.out];exact q_r
 rw[<-hg.out] at B1 ⊢;have hg2:g<w1.heap.size:=qF B1;have HF:Hid (FlB 24 w1 g r (fun _=>.slice none 0 0)):=⟨cs,B1,hcs,hz⟩
 clear B1 hcs hz hg;go_wp2_with fail
 go_loopw [11] (fun iv wr=>∃(i:Nat) (f:Nat->Value),i<=r/\iv=.int .i64 (i:Int)/\Hid (FlB 24 wr g r f)/\Hid (∀a,a<i->LsV N (g+1) wr.heap.size wr (f a) c (fun _=>0))/\Hid (∀a,i<=a->f a=.slice none 0 0)/\g<wr.heap.size/\Ext w wr) (fun iv _=>r-(intOf iv).toNat)
 case atStart=>exact⟨0,_,Nat.zero_le _,rfl,HF,fun a ha=>absurd ha (Nat.not_lt_zero a),fun _ _=>rfl,hg2,e1⟩
 case round =>
  clear HF e1 hg2;obtain⟨i,f,hi,rfl,HF,HL,HZ,hg2,hE⟩:=hrel
  by_cases hlt:i<r
  case neg =>
   have t1:decide ((i:Int)<(r:Int))=false:=q_f (by omega);obtain rfl:r=i:=by omega
   go_wp2
   first|go_ret|skip
   rw[hR.out];exact⟨_,_,rfl,JL (by have:=hE.size;omega) HF.out hg1 hg2 (q_r) (by omega) (fun a ha=>(LsR.wide (HL.out a ha) (by omega) (q_r) (q_r))),hE⟩
  have t1:decide ((i:Int)<(r:Int))=true:=q_t (by omega);have t2:(i:Int)<(r:Int):=by omega
  obtain⟨wq,hwq⟩:∃wq,wq=wr:=⟨_,rfl⟩
  subst hwq;have HI:Hid (Grow N wq.heap.size wq (.slice none 0 0) 0 (fun _=>0)):=Grow.nil (by have:=hE.size;omega) (q_r) _
  have HF0:Hid (FlB 24 wq g r (fun a=>if a=i then .slice none 0 0 else f a)):=by
   obtain⟨cs,h1,h2,h3⟩:=HF.out;refine⟨cs,h1,h2,fun a ha=>?_⟩;rw[h3 a ha]
   show some (f a)=some (if a=i then .slice none 0 0 else f a)
   by_cases hai:a=i
   ·rw[if_pos hai,HZ.out a (by omega)]
   ·rw[if_neg hai]
  go_wp2_with fail
  go_loopw [15] (fun jv wr=>∃(j:Nat) (A:Option Addr) (k:Nat),j<=c/\jv=.int .i64 (j:Int)/\Hid (FlB 24 wr g r (fun a=>if a=i then .slice A j k else f a))/\Hid (∀a,a<i->LsV N (g+1) wq.heap.size wr (f a) c (fun _=>0))/\Hid (Grow N wq.heap.size wr (.slice A j k) j (fun _=>0))/\Hid (Ext w wr)/\wq.heap.size<=wr.heap.size) (fun jv _=>c-(intOf jv).toNat)
  case atStart=>exact⟨0,_,_,Nat.zero_le _,rfl,HF0,HL,HI,hE,q_r⟩
  case round =>
   clear HF0 HI;obtain⟨j,A,k,hj,rfl,HF1,HL1,HG1,HC1,hs1⟩:=hrel
   by_cases hlt2:j<c
   case neg =>
    have t3:decide ((j:Int)<(c:Int))=false:=q_f (by omega);obtain rfl:c=j:=by omega
    have HL2:Hid (∀a,a<i+1->LsV N (g+1) wr.heap.size wr (if a=i then .slice A c k else f a) c (fun _=>0)):=fun a ha=>by
     by_cases hai:a=i
     ·rw[if_pos hai];exact HG1.out.lsv (by omega) rfl
     ·rw[if_neg hai];exact LsR.wide (HL1.out a (by omega)) (q_r) hs1 (q_r)
    have HZ2:Hid (∀a,i+1<=a->(if a=i then Value.slice A c k else f a)=.slice none 0 0):=fun a ha=>by
     rw[if_neg (by omega)];exact HZ.out a (by omega)
    have hE2:=HC1.out;go_wp2;go_roundw
    case rel=>exact⟨i+1,_,by omega,by go_num,HF1,HL2,HZ2,by omega,hE2⟩
    case measure=>simp[intOf];omega
   have t3:decide ((j:Int)<(c:Int))=true:=q_t (by omega);have t4:(j:Int)<(c:Int):=by omega
   have p0:=(HF1.out.cell hlt).1;rw[if_pos rfl] at p0;have hNr:N<=wr.heap.size:=by have:=hE.size;omega
   obtain⟨wx,hwx⟩:∃wx,wx=wr:=⟨_,rfl⟩
   subst hwx;have HGA:=HG1;go_upto_region 7 with (fail);refine q6W [Mn.eq (.slice (some ⟨g,0,none⟩) r r),Mn.i (i:Int),Mn.eq (.slice (some ⟨g,0,none⟩) r r),Mn.i (i:Int),Mn.q g i,Mn.eq (.slice A j k),Mn.rat N (0:Rat),Mn.rbk N (0:Rat),Mn.any,Mn.any,Mn.any] [some 17,some 18,some 19,some 20,some 21,some 22,some 23,some 24,some 25,some 26,none] [8,9,10] [0,1] (rQ 8 3) 3 (by kernel_rfl) ?_ ?_ ?_
   ·show ∀i,i<11->_
    iterate 11 refine fs ?_ ?_
    ·exact fz
    all_goals intro hl hs;first|exact absurd hl (by decide)|exact absurd hs (by decide)|(clear hl hs;refine stp rfl ?_;intro ac wi eI hB hA K hK)
    have o5:=oOf (hB 5) rfl;rotate_left;have o6:=oOf (hB 6) rfl;rotate_left;obtain⟨_,s19,rfl⟩:=hA 2 19;obtain⟨_,s20,rfl⟩:=hA 3 20;rotate_left;obtain⟨_,s21,rfl⟩:=hA 4 21;have cc0:=eI.cell p0;rotate_left;clear hB hA
    ·go_simp;refine (f_whole (q_l hNr eI.size) 0 (by decide) (by decide)).mono ?_;rintro e wj ⟨vj,rfl,hj,ej⟩;go_wp2_with fail;exact hK.out _ _ ej hj
    obtain⟨x23,s23,j23⟩:=hA 6 23;replace j23:Mn.p (Mn.rat N (0:Rat)) x23 wi:=j23;clear hB hA
    ·obtain⟨bj,Aj,kj,cj,Aj',kj',cj',rfl,hbj,gj1,gj2⟩:=zq.parts j23;go_simp;refine qp ?_;intro wj ej hszj BJ;exact hK.out _ _ ej ⟨_,rfl,yC.mk BJ hbj (gj1.ext ej) (gj2.ext ej)⟩
    all_goals clear hB hA;go_simp;exact q_k hK rfl
   ·intro i hs;have hi':i=0\/i=1:=by simpa using hs
    clear hs
    rcases hi' with rfl|rfl
    ·refine sft rfl (fun _ _ _ _ h=>h) ?_;intro ac wi eI hB hA;have o5:=oOf (hB 5) rfl;clear hB hA;refine⟨(.slice (some ⟨g,0,none⟩) r r),.inl ⟨rfl,fun w9 _=>?_⟩,rfl⟩;go_simp
    ·refine sft rfl (fun _ _ _ _ h=>h) ?_;intro ac wi eI hB hA;have o6:=oOf (hB 6) rfl;clear hB hA;refine⟨(.int .i64 (i:Int)),.inl ⟨rfl,fun w9 _=>?_⟩,rfl⟩;go_simp
   intro vals wz eZ hJ;have J17:vals 0=_:=hJ 0 (by decide) (by decide);have J18:vals 1=_:=hJ 1 (by decide) (by decide);have J22:vals 5=_:=hJ 5 (by decide) (by decide);have J24:Mn.p (Mn.rbk N (0:Rat)) (vals 7) wz:=hJ 7 (by decide) (by decide);clear hJ;simp only[pr,Nat.reduceAdd,J17,J18,J22];clear J17 J18 J22
   generalize vals 7=z24 at J24 ⊢
   obtain⟨gb,rfl,bj,Aj,kj,cj,Aj',kj',cj',BX,hbj,gj1,gj2⟩:=J24;have hGz:=HG1.out.ext eZ;refine qj (i:=8) rfl (by kernel_rfl) (by kernel_rfl) (fun K hK=>?_);refine zU rfl _ _ 24 Tryz.underlying24 rfl (by rfl) hGz (by rfl) BX hbj gj1 gj2 (by omega) ?_;rintro gq cq w17 g' hG8 hb9 c17 u1' u2';obtain⟨q0,q1⟩:=((HF1.out.ext eZ).chg c17 (.inl (by omega))).cell hlt;refine hK.out _ _ ?_;clear hK K;try simp only[nr]
   refine qj (i:=9) rfl (by kernel_rfl) (by kernel_rfl) (fun K hK=>?_);go_simp;refine hK.out _ _ ?_;clear hK K;try simp only[nr]
   refine qj (i:=10) rfl (by kernel_rfl) (by kernel_rfl) (fun K hK=>?_);go_simp;refine hK.out _ _ ?_;clear hK K;try simp only[nr]
   refine qg (by kernel_rfl) ?_ _;have F17:=(HF1.out.ext eZ).chg c17 (.inl (by omega));obtain⟨w18,E18,F18,C18,hs18⟩:=F17.set VF hlt (.slice (some ⟨gq,0,none⟩) (j+1) cq);rw[E18]
   have HF8:Hid (FlB 24 w18 g r (fun a=>if a=i then .slice (some ⟨gq,0,none⟩) (j+1) cq else f a)):=by
    obtain⟨cs,h1,h2,h3⟩:=F18;refine⟨cs,h1,h2,fun a ha=>?_⟩;rw[h3 a ha]
    show some (if a=i then _ else (if a=i then Value.slice A j k else f a))=some (if a=i then _ else f a)
    by_cases hai:a=i
    ·rw[if_pos hai,if_pos hai]
    ·rw[if_neg hai,if_neg hai,if_neg hai]
   have hNg:N<=g:=by omega
   have hNg':N<=g':=by omega
   have HL8:Hid (∀a,a<i->LsV N (g+1) wq.heap.size w18 (f a) c (fun _=>0)):=fun a ha=>LsR.chg (LsR.chg ((HL1.out a ha).ext eZ) c17 hNg' (.inl hb9)) C18 hNg (.inr (q_r))
   have HG8:Hid (Grow N wq.heap.size w18 (.slice (some ⟨gq,0,none⟩) (j+1) cq) (j+1) (fun _=>0)):=(hG8.congr (y:=fun _=>0) (fun a _=>by unfold upd;split<;>rfl)).chg C18 hNg (by omega);have hE8:Hid (Ext w w18):=C18.ext (c17.ext (HC1.out.trans eZ) (by have:=hE.size;omega)) hg1;have hs8:wq.heap.size<=w18.heap.size:=by have:=eZ.size;have:=c17.size;omega
   clear E18 F18 C18 F17 hG8 c17 hGz BX hbj gj1 gj2 eZ p0 q0 q1 HGA HG1 HL1 HF1 HC1;go_wp2;go_roundw
   case rel=>exact⟨j+1,_,_,by omega,by go_num,HF8,HL8,HG8,hE8,hs8⟩
   case measure=>simp[intOf];omega
theorem XB(hN:N<=w.heap.size) (m n:Nat){M' N':Int}(hM':M'=(m:Int)) (hN':N'=(n:Int)) (hm:m<1000000) (hn:n<1000000) (X:q_m){gb:Nat}
  (hf:∀i,i<m->∀j,j<n->∀w',Ext w w'->Calls Tryz.prog 146 #[.int .i64 (i:Int),.int .i64 (j:Int),.pointer (some ⟨gb,0,none⟩)] w' (yt N w' (X i j))) :
  Calls Tryz.prog 99 #[.int .i64 M',.int .i64 N',.func (.func 146) #[] #[.pointer (some ⟨gb,0,none⟩)]] w (x9 N w m n X):=by
 subst hM' hN';have HF:=q_h hf;clear hf;go_enter Tryz.func99,Tryz.ntmps99;go_wp2_with (at_make;refine q_o ?_);refine zB rfl _ _ rfl .i64 .i64 _ _ m rfl rfl rfl rfl hm ?_;intro w1 cs B0 hcs e1;have ho:zt N w.heap.size w1.heap.size w1 w.heap.size m 0 n (fun _=>0) (fun _=>0) X:=zt.start hN (q_r) B0 hcs X (qF B0) (q_r);have hs1:w.heap.size<w1.heap.size:=qF B0;clear B0;have HCS:=q_h hcs;clear hcs;go_wp2
 go_loopw [14] (fun i wr=>∃k:Nat,k<=m/\i=.int .i64 k/\Ext w wr/\∃β κ,zt N w.heap.size wr.heap.size wr w.heap.size m k n β κ X) (fun i _=>m-(intOf i).toNat)
 case atStart=>exact⟨0,Nat.zero_le _,rfl,e1,_,_,ho⟩
 case round =>
  clear ho e1;obtain⟨k,hk,rfl,hE,β,κ,ho⟩:=hrel;have hsr:w.heap.size<wr.heap.size:=by have:=ho.hhi;omega
  by_cases hlt:k<m
  ·go_wp2_with (at_make;refine q_o ?_);refine qV rfl _ _ rfl .i64 .i64 _ _ n rfl rfl rfl rfl hn ?_;intro w2 cs2 B2 hcs2 e2;have ho2:=ho.ext e2;have hR:kH N w2 wr.heap.size n 0 (X k):=⟨by omega,Nat.zero_le _,⟨cs2,B2,hcs2⟩,fun j hj=>by omega⟩
   obtain⟨u0,z0⟩:=ho2.hthere hlt;have z1:=ho2.hfrozen k;have hs2:wr.heap.size<w2.heap.size:=qF B2;have HCS2:=q_h hcs2;clear B2 hcs2 ho;go_upto_region 6 with (fail);obtain⟨w3,E3,C3,hs3,y0,ho3⟩:=ho2.setHead (Nat.le_refl k) hlt (.slice (some ⟨wr.heap.size,0,none⟩) n n);rw[E3];replace hE:=C3.ext (hE.trans e2) (q_r);replace hR:=hR.chg C3 (by omega) (by omega);have hs4:wr.heap.size<w3.heap.size:=by omega
   generalize hgr:wr.heap.size=gr at *
   clear hgr E3 C3 hs3 ho2 z0 z1 e2 hs2;have Y0:=y0;go_wp2
   go_loopw [27] (fun i ws=>∃j:Nat,j<=n/\i=.int .i64 j/\Ext w ws/\gr<ws.heap.size/\ws.cell? ⟨w.heap.size,k,none⟩=some (.slice (some ⟨gr,0,none⟩) n n)/\zt N w.heap.size gr ws w.heap.size m k n β κ X/\kH N ws gr n j (X k)) (fun i _=>n-(intOf i).toNat)
   case atStart=>exact⟨0,Nat.zero_le _,rfl,hE,hs4,y0,ho3,hR⟩
   case round =>
    clear hE y0 ho3 hR hs4 Y0;obtain⟨j,hj,rfl,hE,hs4,y0,ho3,hR⟩:=hrel
    by_cases hlt':j<n
    ·go_upto_region 9 with (fail);have eC:=(Ext.refl wr).drew;refine qx (fun w'=>w'.cell? ⟨w.heap.size,k,none⟩=some (.slice (some ⟨gr,0,none⟩) n n)) [10] (by kernel_rfl) (by exact eC.cell y0) (fun hHeld=>?_);refine sP 0 (h:=?_);try simp only[nr]
     refine sP 1 (h:=?_);try simp only[nr]
     refine sP 2 (h:=?_);try simp only[nr]
     refine sT 3 (h:=?_);try simp only[nr]
     refine sP 4 (h:=?_);try simp only[nr]
     refine sP 5 (h:=?_);try simp only[nr]
     refine sP 6 (h:=?_);try simp only[nr]
     refine sP 7 (h:=?_);try simp only[nr]
     refine qA (i:=8) rfl (by kernel_rfl) (fun K hK=>?_);go_simp;refine (HF.out k hlt j hlt' _ (hE.trans eC)).mono ?_;intro e w5 hh;obtain⟨b9,A9,k9,c9,A10,k10,c10,rfl,hb9,g9,g10,e5⟩:=hh.form;replace eC:=eC.trans e5;have hR5:=hR.ext eC;obtain⟨x0,v0⟩:=hR5.there (o:=j*4) (by omega);obtain⟨x1,v1⟩:=hR5.there (o:=j*4+1) (by omega);obtain⟨x2,v2⟩:=hR5.there (o:=j*4+2) (by omega);obtain⟨x3,v3⟩:=hR5.there (o:=j*4+3) (by omega);have f0:=hR5.frozen (j*4);have f1:=hR5.frozen (j*4+1);have f2:=hR5.frozen (j*4+2);have f3:=hR5.frozen (j*4+3);go_wp2_with fail;clear hHeld;refine hK.out _ _ (by exact eC.cell y0) fun hHeld=>?_
     clear hK K;try simp only[nr]
     refine sP 9 (h:=?_);try simp only[nr]
     refine qj (i:=10) rfl (by kernel_rfl) (by kernel_rfl) (fun K hK=>?_);go_simp;refine hK.out _ _ ?_;clear hK K;try simp only[nr]
     refine qg (by kernel_rfl) ?_ _;clear hHeld;obtain⟨w6,E6,C6,hs6,hr6⟩:=hR5.set (i:=j) (q:=X k j) hlt' (q_r) hb9 g9 g10;rw[E6];replace hE:=C6.ext (hE.trans eC) (by omega);replace ho3:=(ho3.ext eC).chg C6 (by omega) (.inl (q_r));replace y0:=C6.cell (p:=⟨w.heap.size,k,none⟩) (eC.cell y0) (.inl (by simp only;omega));have hr7:=(hr6.less (n':=j+1) (by omega)).congr (y:=X k) (fun c hc=>by unfold upd;split;(rename_i e;rw[e]);rfl);have hs7:gr<w6.heap.size:=by have:=eC.size;omega
     clear E6 C6 hs6 hr6 hR hR5 v0 v1 v2 v3 f0 f1 f2 f3;go_wp2;go_roundw
     case rel=>exact⟨j+1,by omega,by go_num,hE,hs7,y0,ho3,hr7⟩
     case measure=>simp[intOf];omega
    ·obtain rfl:j=n:=by omega
     have ho4:=(ho3.more hlt y0 hR (q_r) (by unfold maxLen;omega)).congr (B:=X) (fun i _ c _=>by unfold xI;split;(rename_i e;rw[e]);rfl);go_wp2;go_roundw
     case rel=>exact⟨k+1,by omega,by go_num,hE,_,_,ho4⟩
     case measure=>simp[intOf];omega
  ·obtain rfl:k=m:=by omega
   go_wp2;go_ret;exact⟨_,_,β,κ,rfl,by unfold maxLen;omega,ho,hE⟩
theorem q1I{gb:Nat}{X:q_m}(hb:w.cell? ⟨gb,0,none⟩=some (.slice A m c)) (h:MtV N lo hi w (.slice A m c) m n X)(hi':i<n) (hj:j<m) (hm:m<1000000) (hn:n<1000000) :
  Calls Tryz.prog 146 #[.int .i64 (i:Int),.int .i64 (j:Int),.pointer (some ⟨gb,0,none⟩)] w (yt N w (X j i)):=by
 have hN:=h.le;obtain⟨b,off,rfl,-,-,hx⟩:=h.addr (by omega);obtain⟨A1,c1,p0,-,-,hl⟩:=hx j hj;obtain⟨b2,off2,rfl,-,-,hx⟩:=hl.addr (by omega);obtain⟨n1,A3,k3,c3,A4,k4,c4,q0,q1,q2,q3,hb1,g1,g2⟩:=(hx i hi').open;have l0:=cell_lt hb;have l1:=cell_lt p0;have l2:=cell_lt q0;simp only at l0 l1 l2;obtain⟨q,hq⟩:=qc (X j i);rw[<-hq.out] at hb1 g1 g2 ⊢;clear hx hl h;go_enter Tryz.func146,Tryz.ntmps146;go_wp2;have eA:=(Ext.refl w).alloc (Obj.cells #[Value.bool n1,Value.slice A3 k3 c3,Value.bool false,Value.slice A4 k4 c4] 48);exact VX rfl rfl rfl eA (yC.mk (heap_alloc_new w _) hb1 (g1.ext eA) (g2.ext eA))
theorem VJ{X:q_m}(h:MtV N lo hi w v m n X) (hm0:0<m) (hm:m<1000000) (hn:n<1000000) :
  Calls Tryz.prog 104 #[v] w (x9 N w n m (fun i j=>X j i)):=by
 have hN:=h.le;obtain⟨A,c,rfl,hmc,hcm⟩:=h.form;have hI:=h;obtain⟨Z,hZ⟩:=qc (fun i j=>X j i);have HZ:Hid (∀i j,X j i=Z i j):=fun i j=>by rw[hZ.out]
 rw[<-hZ.out];obtain⟨b,off,rfl,-,-,hx⟩:=h.addr hm0;obtain⟨A1,c1,p0,hnc,hcm1,-⟩:=hx 0 hm0;rw[Nat.add_zero] at p0;have l0:=cell_lt p0;simp only at l0;clear h hx;go_enter Tryz.func104,Tryz.ntmps104;go_upto_region 1 with (fail);refine qp ?_;intro W hE hsz B0;obtain⟨a0,-⟩:=zu B0;replace p0:=hE.cell p0;have eC:=(Ext.refl W).drew;refine qx (fun w'=>w'.cell? ⟨w.heap.size,0,none⟩=some (.slice (some ⟨b,off,none⟩) m c)/\w'.cell? ⟨b,off,none⟩=some (.slice A1 n c1)) [] (by kernel_rfl) (by exact⟨eC.cell a0,eC.cell p0⟩) (fun hHeld=>?_);refine sT 0 (h:=?_);try simp only[nr]
 refine sP 1 (h:=?_);try simp only[nr]
 refine sT 2 (h:=?_);try simp only[nr]
 refine sP 3 (h:=?_);try simp only[nr]
 refine sT 4 (h:=?_);try simp only[nr]
 refine sP 5 (h:=?_);try simp only[nr]
 refine sP 6 (h:=?_);try simp only[nr]
 refine qA (i:=7) rfl (by kernel_rfl) (fun K hK=>?_);go_simp;refine (XB (N:=N) (by have:=hE.size;show N<=W.heap.size;omega) n m rfl rfl hn hm Z (fun i hi' j hj w' e=>by rw[<-HZ.out i j];exact q1I ((eC.trans e).cell a0) (hI.ext (hE.trans (eC.trans e))) hi' hj hm hn)).mono ?_;rintro e w2 ⟨h2,cap2,β2,κ2,rfl,hcap2,ho2,e2⟩;replace eC:=eC.trans e2;go_wp2_with fail;clear hHeld;refine hK.out _ _ (by exact⟨eC.cell a0,eC.cell p0⟩) fun hHeld=>?_
 clear hK K;try simp only[nr]
 refine sP 8 (h:=?_);try simp only[nr]
 refine qg (by kernel_rfl) ?_ _;clear hHeld;go_wp2;go_ret;exact⟨h2,cap2,β2,κ2,rfl,hcap2,ho2.wide (by have:=hE.size;show w.heap.size<=W.heap.size;omega) hN (q_r) (q_r),hE.trans eC⟩
def ZB (N:Nat) (w:World) (m n:Nat) (A:q_m) (e:Ending) (w':World):Prop:=∃h cap β κ,e=.returned (.tuple #[.slice (some ⟨h,0,none⟩) m cap,.int .i64 0])/\cap<=maxLen/\zt N w.heap.size w'.heap.size w' h cap m n β κ A/\Ext w w'
theorem YH{X:q_m}(h:MtV N lo hi w v m n X) (hm0:0<m) (hm:m<=64) (hn0:0<n) (hn:n<=64) (hs:∀i,i<m->∀j,j<n->Sz (X i j)) :
  Calls Tryz.prog 85 #[v] w (ZB N w n m (fun i j=>X j i)):=by
 obtain⟨A,c,rfl,hmc,hcm⟩:=h.form;have hI:=h;have HS:=q_h hs;obtain⟨Z,hZ⟩:=qc (fun i j=>X j i);rw[<-hZ.out];clear h hs hcm;go_enter Tryz.func85,Tryz.ntmps85;go_wp2_with (go_at_call 136;refine q_o ?_);refine (XD hI hm0 hm hn0 hn HS.out).mono ?_;rintro e w1 ⟨rfl,hE⟩;go_wp2_with (go_at_call 104;refine q_o ?_);refine (VJ (hI.ext hE) hm0 (by omega) (by omega)).mono ?_;rw[<-hZ.out];rintro e w2 ⟨h2,cap2,β2,κ2,rfl,hcap2,ho2,e2⟩;have hs1:=hE.size;have hN:=hI.le;go_wp2;go_ret2;exact⟨h2,cap2,β2,κ2,rfl,hcap2,ho2.wide hs1 hN (q_r) (q_r),hE.trans e2⟩
def Mx (N B0 B1:Nat) (w:World) (v:Value) (m n:Nat) (X:q_m):Prop :=
 ∃(A:Addr) (k lo hi:Nat),v=.slice (some A) m k/\MtV N lo hi w v m n X/\(hi<=B0\/B1<=lo)
theorem Mx.ext {B0 B1:Nat}{X:q_m}(h:Mx N B0 B1 w v m n X) (e:Ext w w'):Mx N B0 B1 w' v m n X:=by
 obtain⟨A,k,lo,hi,hv,h1,h2⟩:=h;exact⟨A,k,lo,hi,hv,h1.ext e,h2⟩
theorem Mx.chg {B0 B1 l u:Nat}{X:q_m}(h:Mx N B0 B1 w v m n X) (c:Chg l u w w') (hN:N<=l) (hl:B0<=l) (hu:u<=B1):Mx N B0 B1 w' v m n X:=by
 obtain⟨A,k,lo,hi,hv,h1,h2⟩:=h;exact⟨A,k,lo,hi,hv,MtR.chg h1 c hN (by omega),h2⟩
theorem Mx.mtv {B0 B1:Nat}{X:q_m}(h:Mx N B0 B1 w v m n X):∃(A:Addr) (k lo hi:Nat),v=.slice (some A) m k/\MtV N lo hi w v m n X:=by
 obtain⟨A,k,lo,hi,hv,h1,-⟩:=h;exact⟨A,k,lo,hi,hv,h1⟩
def MpC (N B0 B1:Nat) (w:World) (m n:Nat) (X:q_m):Option Value->Prop
 | none=>∀a b,a<m->b<n->X a b=0
 | some v=>Mx N B0 B1 w v m n X
theorem MpC.ext {B0 B1:Nat}{X:q_m}{o:Option Value}(h:MpC N B0 B1 w m n X o) (e:Ext w w'):MpC N B0 B1 w' m n X o:=by
 cases o with
 | none=>exact h
 | some v=>exact Mx.ext h e
theorem MpC.chg {B0 B1 l u:Nat}{X:q_m}{o:Option Value}(h:MpC N B0 B1 w m n X o) (c:Chg l u w w') (hN:N<=l) (hl:B0<=l) (hu:u<=B1):MpC N B0 B1 w' m n X o:=by
 cases o with
 | none=>exact h
 | some v=>exact Mx.chg h c hN hl hu
def Lx (N B0 B1:Nat) (w:World) (v:Value) (n:Nat) (x:q_v):Prop :=
 ∃(A:Option Addr) (c lo hi:Nat),v=.slice A n c/\LsV N lo hi w v n x/\(hi<=B0\/B1<=lo)
theorem Lx.ext {B0 B1:Nat}{x:q_v}(h:Lx N B0 B1 w v n x) (e:Ext w w'):Lx N B0 B1 w' v n x:=by
 obtain⟨A,k,lo,hi,hv,h1,h2⟩:=h;exact⟨A,k,lo,hi,hv,h1.ext e,h2⟩
theorem Lx.chg {B0 B1 l u:Nat}{x:q_v}(h:Lx N B0 B1 w v n x) (c:Chg l u w w') (hN:N<=l) (hl:B0<=l) (hu:u<=B1):Lx N B0 B1 w' v n x:=by
 obtain⟨A,k,lo,hi,hv,h1,h2⟩:=h;exact⟨A,k,lo,hi,hv,LsR.chg h1 c hN (by omega),h2⟩
structure StM (N B0 B1:Nat) (w:World) (bz oz gm gr m:Nat) (z:Nat->Nat) (F:Nat->Nat->Nat->Nat->Rat) (R:q_m):Prop where
 sz:bz<B0/\∀i,i<m->w.cell? ⟨bz,oz+i,none⟩=some (.int .i64 ((z i:Nat):Int))
 mp:∃l,MpE w gm l/\∀r c,c<=r->r<m->MpC N B0 B1 w (z r) (z c) (F r c) (lkp l (r:Int) (c:Int))
 rt:∃cs,w.heap[gr]?=some (.cells cs 24 (0,0))/\∀i,i<m->∃v,cs[i]?=some v/\Lx N B0 B1 w v (z i) (R i)
 mb:B0<=gm/\gm<B1
 rb:B0<=gr/\gr<B1
 nb:N<=B0
 bw:B1<=w.heap.size
theorem StM.ext {B0 B1:Nat}{bz oz gm gr:Nat}{z:Nat->Nat}{F:Nat->Nat->Nat->Nat->Rat}{R:q_m}(h:StM N B0 B1 w bz oz gm gr m z F R) (e:Ext w w'):StM N B0 B1 w' bz oz gm gr m z F R:=by
 obtain⟨⟨s1,s2⟩,⟨l,h1,h2⟩,⟨cs,h3,h4⟩,h5,h6,h7,h8⟩:=h;refine⟨⟨s1,fun i hi=>e.cell (s2 i hi)⟩,⟨l,h1.ext e,fun r c hc hr=>(h2 r c hc hr).ext e⟩,⟨cs,e.block h3,fun i hi=>?_⟩,h5,h6,h7,q_l h8 e.size⟩;obtain⟨v,h9,h10⟩:=h4 i hi;exact⟨v,h9,h10.ext e⟩
def stV (bz oz cz gm gr cr m:Nat):Value:=.agg #[.slice (some ⟨bz,oz,none⟩) m cz,.map (some gm),.slice (some ⟨gr,0,none⟩) m cr]
def Fsy (F:Nat->Nat->Nat->Nat->Rat) (r c a b:Nat):Rat:=if c<=r then F r c a b else F c r b a
def q7R (N B0 B1:Nat) (w:World) (m n:Nat) (X:q_m) (e:Ending) (w':World):Prop :=
 ∃v,e=.returned v/\Ext w w'/\((v=.slice none 0 0/\∀a b,a<m->b<n->X a b=0)\/Mx N B0 B1 w' v m n X)
theorem Ja {B0 B1:Nat}{bz oz cz gm gr cr:Nat}{z:Nat->Nat}{F:Nat->Nat->Nat->Nat->Rat}{R:q_m}(h:StM N B0 B1 w bz oz gm gr m z F R) (hm:m<=12) (hz:∀i,i<m->0<z i/\z i<=64)(hF:∀r c,c<=r->r<m->HtM (z r) (z c) K (F r c)) (hK:K<=29000000000){r:Nat}(hr:r<m) (hc:c<m) :
  Calls Tryz.prog 68 #[stV bz oz cz gm gr cr m,.int .i64 (r:Int),.int .i64 (c:Int)] w (q7R N B0 B1 w (z r) (z c) (Fsy F r c)):=by
 obtain⟨Q,hQ⟩:=qc (q7R N B0 B1 w (z r) (z c) (Fsy F r c));rw[<-hQ.out];have HS:=q_h h;obtain⟨l,hml,hmc⟩:=h.mp;have HBW:Hid (B1<=w.heap.size):=h.bw;have HNB:Hid (N<=B0/\B0<=B1):=⟨h.nb,by have:=h.mb;omega⟩
 have hkr:Yo (r:Int):=⟨by omega,by omega⟩
 have hkc:Yo (c:Int):=⟨by omega,by omega⟩
 have HZr:=q_h (hz r hr);have HZc:=q_h (hz c hc);have hnl:=fun (w:World) (a:Option Addr) (n c:Nat)=>Lib.run_eql_slice_nil (P:=Tryz.prog) w 42 24 a n c 0 0 Tryz.underlying42
 unfold stV
 by_cases hcr:c<=r
 ·have hl0:=fun (w':World) (e:Ext w w')=>yJ (hml.ext e) hkr hkc
  have HL0:=q_h hl0;have HMC:=q_h (hmc r c hcr hr);have HFS:Hid (Fsy F r c=F r c):=by funext a b;unfold Fsy;rw[if_pos hcr]
  have t1:decide ((c:Int)<=(r:Int))=true:=q_t (by omega);obtain⟨o,ho⟩:=qc (lkp l (r:Int) (c:Int));rw[<-ho.out] at HL0 HMC;clear h hml hmc hz hF hl0 hnl;go_enter Tryz.func68,Tryz.ntmps68;go_upto_region 1 with (fail);refine qp ?_;intro w1 hE hsz B0';obtain⟨a0,a1,a2,-⟩:=cells3 B0';have hl:=HL0.out w1 hE;unfold kyV at hl;cases o with
  | none =>
   have HM2:Hid (∀a b,a<z r->b<z c->F r c a b=0):=HMC.out;simp only[Option.getD_none] at hl;clear HL0 HMC;go_wp2
   first|go_ret|skip
   rw[hQ.out];exact⟨_,rfl,hE,.inl ⟨rfl,by rw[HFS.out];exact HM2.out⟩⟩
  | some v =>
   have HM2:Hid (Mx N B0 B1 w v (z r) (z c) (F r c)):=HMC.out;simp only[Option.getD_some] at hl;clear HL0 HMC;go_wp2
   first|go_ret|skip
   rw[hQ.out];exact⟨_,rfl,hE,.inr (by rw[HFS.out];exact HM2.out.ext hE)⟩
 ·have hl0:=fun (w':World) (e:Ext w w')=>yJ (hml.ext e) hkc hkr
  have HL0:=q_h hl0;have HMC:=q_h (hmc c r (by omega) hc);have HFS:Hid (Fsy F r c=fun a b=>F c r b a):=by funext a b;unfold Fsy;rw[if_neg hcr]
  have HHT:Hid (∀i,i<z c->∀j,j<z r->Sz (F c r i j)):=fun i hi j hj=>(hF c r (by omega) hc i hi j hj).sz hK
  have t1:decide ((c:Int)<=(r:Int))=false:=q_f (by omega);obtain⟨o,ho⟩:=qc (lkp l (c:Int) (r:Int));rw[<-ho.out] at HL0 HMC;clear h hml hmc hz hF hl0;go_enter Tryz.func68,Tryz.ntmps68;go_upto_region 1 with (fail);refine qp ?_;intro w1 hE hsz B0';obtain⟨a0,a1,a2,-⟩:=cells3 B0';have hl:=HL0.out w1 hE;unfold kyV at hl;cases o with
  | none =>
   have HM2:Hid (∀a b,a<z c->b<z r->F c r a b=0):=HMC.out;simp only[Option.getD_none] at hl;clear HL0 HMC;go_wp2
   first|go_ret|skip
   rw[hQ.out];exact⟨_,rfl,hE,.inl ⟨rfl,by rw[HFS.out];exact fun a b ha hb=>HM2.out b a hb ha⟩⟩
  | some v =>
   have HM2:Hid (Mx N B0 B1 w v (z c) (z r) (F c r)):=HMC.out;simp only[Option.getD_some] at hl;obtain⟨A,k,lo,hi,rfl,hmt⟩:=HM2.out.mtv;have HMT:=q_h (hmt.ext hE);clear HL0 HMC hmt;go_wp2_with (go_at_call 85;refine q_o ?_);refine (YH HMT.out HZc.out.1 HZc.out.2 HZr.out.1 HZr.out.2 HHT.out).mono ?_;rintro e w2 ⟨g,cap,β,κ,rfl,hcap,ho2,e2⟩;have HO2:=q_h ho2;clear ho2;go_wp2
   first|go_ret|skip
   rw[hQ.out];refine⟨_,rfl,hE.trans e2,.inr ⟨_,_,_,_,rfl,by rw[HFS.out];exact HO2.out.mtv HO2.out.mle hcap,.inr ?_⟩⟩;have:=HBW.out;have:=hE.size;omega
def shB (most n:Nat) (R:Nat->Raw):Bool:=decide (n<=most)&&allB n (fun i=>kG (R i))
def q53 (w:World) (R:Raw) (e:Ending) (w':World):Prop:=∃z:Int,e=.returned (.int .i64 z)/\Hid (kG R=true->z<=6)/\Ext w w'
theorem q1i(h:ZE N w v R) :
  Calls Tryz.prog 94 #[v] w (q53 w R):=by
 obtain⟨A1,n1,c1,A2,n2,c2,rfl,g1,g2⟩:=h.parts;obtain⟨_,_,_,e1,h1,hc1,hm1⟩:=g1.form;injection e1 with e1 e1' e1''
 subst e1 e1' e1'';obtain⟨_,_,_,e2,h2,hc2,hm2⟩:=g2.form;injection e2 with e2 e2' e2''
 subst e2 e2' e2''
 have HB:Hid (kG R=true->n1<=1/\n2<=1):=fun hb=>by
  unfold kG at hb;simp only[Bool.and_eq_true,decide_eq_true_eq] at hb;obtain⟨⟨⟨b1,b2⟩,-⟩,-⟩:=hb;rw[h1.out] at b1;rw[h2.out] at b2;exact⟨b1,b2⟩
 obtain⟨Rf,hRf⟩:=qc (q53 w R);rw[<-hRf.out];clear g1 g2 h h1 h2;go_enter Tryz.func94,Tryz.ntmps94;go_upto_region 1 with (fail);refine qp ?_;intro W hE hsz B0;obtain⟨a0,a1,a2,a3,-⟩:=cells4 B0;go_wp2
 first|go_ret|skip
 rw[hRf.out];refine⟨_,rfl,q_h (fun hb=>?_),hE⟩;obtain⟨b1,b2⟩:=HB.out hb;unfold wrap64;omega
theorem Vw{R:Nat->Raw}(h:LsR N lo hi w v n R) (most:Nat){mz:Int}(hmz:mz=(most:Int)) (hmo:most<1000) :
  Calls Tryz.prog 40 #[v,.int .i64 mz,.int .i64 6] w (zI w (.bool (shB most n R))):=by
 subst hmz;obtain⟨r,hr⟩:=qc (shB most n R);rw[<-hr.out];obtain⟨A,c,rfl,hnc,hcm⟩:=h.form;unfold maxLen at hcm;have hI:=h;clear h;go_enter Tryz.func40,Tryz.ntmps40
 by_cases hn:n<=most
 ·have HR:Hid (r=allB n (fun i=>kG (R i))):=by rw[Hid,hr.out];unfold shB;rw[q_t hn,Bool.true_and]
  have hd1:decide (most<n)=false:=by simp;omega
  have hd2:¬most<n:=by omega
  clear hr;go_wp2
  go_loopw [7] (fun i wr=>∃k:Nat,k<=n/\i=.int .i64 k/\Hid (∀j,j<k->kG (R j)=true)/\Ext w wr) (fun i _=>n-(intOf i).toNat)
  case atStart=>exact⟨0,Nat.zero_le _,rfl,fun j hj=>absurd hj (by omega),Ext.refl w⟩
  case round =>
   obtain⟨k,hk,rfl,HA,hE⟩:=hrel
   by_cases hlt:k<n
   ·obtain⟨b,off,rfl,-,-,hx⟩:=(hI.ext hE).addr (by omega);obtain⟨A1,n1,c1,A2,n2,c2,p0,p1,p2,p3,hv⟩:=(hx k hlt).val;clear hx;go_wp2_with (go_at_call 94;refine q_o ?_);refine (q1i hv).mono ?_;rintro e w1 ⟨z,rfl,hz,e1⟩;replace hE:=hE.trans e1;obtain⟨o,ho⟩:=qc (kG (R k));have HZ:Hid (o=true->z<=6):=fun h9=>hz.out (by rw[<-ho.out];exact h9)
    clear hz
    by_cases hz6:z<=6
    ·replace p0:=e1.cell p0;replace p1:=e1.cell p1;replace p2:=e1.cell p2;replace p3:=e1.cell p3;go_wp2_with (go_at_call 95;refine q_o ?_);refine (q3o (hv.ext e1)).mono ?_;rintro e w2 ⟨rfl,e2⟩;rw[<-ho.out];replace hE:=hE.trans e2;clear p0 p1 p2 p3 e1 e2 HZ;cases ho':o with
     | true =>
      subst ho';go_wp2;go_roundw
      case rel=>exact⟨k+1,by omega,by go_num,kY HA.out ho.out.symm,hE⟩
      case measure=>simp[intOf];omega
     | false =>
      subst ho';have HF:Hid (r=false):=by rw[Hid,HR.out];exact qE hlt ho.out.symm
      go_wp2;go_ret;exact⟨qw HF.out.symm,hE⟩
    ·have HO:Hid (o=false):=by
      cases ho':o with
      | true=>exact absurd (HZ.out ho') hz6
      | false=>rfl
     have HF:Hid (r=false):=by rw[Hid,HR.out];exact qE hlt (by rw[<-ho.out];exact HO.out)
     clear p0 p1 p2 p3 e1 HZ HO;go_wp2;go_ret;exact⟨qw HF.out.symm,hE⟩
   ·have HF:Hid (r=true):=by rw[Hid,HR.out];exact ql.2 (fun j hj=>HA.out j (by omega))
    go_wp2;go_ret;exact⟨qw HF.out.symm,hE⟩
 ·have HF:Hid (r=false):=by rw[Hid,hr.out];unfold shB;rw[q_f hn];rfl
  go_wp2;go_ret;exact⟨qw HF.out.symm,Ext.refl w⟩
end Go.Proofs.YtpkmjhmmmdkodaaGreat
namespace Go.Proofs.YtpkmjhmmmdkodaaGreat
variable {w w':World} {N n lo hi k g i m base c b j K:Nat} {v s:Value} {R:Raw} {A:Option Addr}
theorem q3j{K M:q_m}{p:List Nat}(h:q0y n n K M p) (hl:p.length=n):Reg n K:=by
 intro x hx c hc;have h1:=Je.null (n:=n) h.there hx c hc;have hp:=q1T h.inc h.low hl
 have h2:sum n (fun d=>M c d*x d)=sum n (fun d=>dlt c d*x d):=qf fun d hd=>by
  have h3:=h.unit d (by omega) c hc;rw[hp d hd] at h3;rw[h3]
 rw[h2,zh hc] at h1;exact h1
theorem q3h{K M:q_m}{p:List Nat}(h:q0y n n K M p) (hK:Reg n K):p.length=n:=by
 have h1:=h.len
 rcases Nat.lt_or_ge p.length n with h2|h2
 ·obtain⟨c,hc,hg⟩:=q1S h.inc h2;have h3:=hK _ (VE h hc) c hc;rw[VD hg] at h3;exact absurd h3 (by decide)
 ·omega
theorem q3k (n:Nat) (K:q_m):(zx n K n).2.length=n↔Reg n K:=⟨q3j (xO n K n),q3h (xO n K n)⟩
theorem q5S (n:Nat) (K:q_m):(zx n (qU n K) n).2.length=n↔Reg n K:=by
 constructor
 ·intro h x hx c hc;obtain⟨-,h2⟩:=VP (xO n (qU n K) n) h
  have e:sum n (fun i=>(zx n (qU n K) n).1 c (n+i)*sum n (fun d=>K i d*x d))=x c:=by
   have e1:sum n (fun i=>(zx n (qU n K) n).1 c (n+i)*sum n (fun d=>K i d*x d))=sum n (fun d=>mm n (fun a b=>(zx n (qU n K) n).1 a (n+b)) K c d*x d):=by
    rw[show sum n (fun i=>(zx n (qU n K) n).1 c (n+i)*sum n (fun d=>K i d*x d))=sum n (fun i=>sum n (fun d=>(zx n (qU n K) n).1 c (n+i)*K i d*x d)) from qf fun i _=>by rw[<-zV];exact qf fun d _=>by grind,zG];exact qf fun d _=>by unfold mm;rw[qJ]
   rw[e1,show sum n (fun d=>mm n (fun a b=>(zx n (qU n K) n).1 a (n+b)) K c d*x d)=sum n (fun d=>dlt c d*x d) from qf fun d hd=>by rw[h2 c hc d hd]];exact zh hc x
  rw[<-e];exact qy fun i hi=>by rw[hx i hi];grind
 ·intro h;exact YP (xO n (qU n K) n) h
theorem q1c{K:q_m}(hK:Reg n K) (b:q_v):(zx n (aug n K b) (n+1)).2.contains n=false/\∀i,i<n->sum n (fun c=>K i c*sol n (zx n (aug n K b) (n+1)).1 (zx n (aug n K b) (n+1)).2 c)=b i:=by
 have hR:=xO n (aug n K b) (n+1)
 have hno:∀s,s<(zx n (aug n K b) (n+1)).2.length->(zx n (aug n K b) (n+1)).2[s]?.getD 0≠n:=by
  intro s hs he;obtain⟨y,h1,h2⟩:=q34 hR hs he;obtain⟨h3,-⟩:=VP (xO n (qU n K) n) ((q5S n K).2 hK)
  have hy:∀c,c<n->y c=0:=by
   intro c hc
   have e:sum n (fun d=>sum n (fun i=>y i*K i d)*(zx n (qU n K) n).1 d (n+c))=y c:=by
    have e1:sum n (fun d=>sum n (fun i=>y i*K i d)*(zx n (qU n K) n).1 d (n+c))=sum n (fun i=>y i*mm n K (fun a b=>(zx n (qU n K) n).1 a (n+b)) i c):=by
     rw[show sum n (fun d=>sum n (fun i=>y i*K i d)*(zx n (qU n K) n).1 d (n+c))=sum n (fun d=>sum n (fun i=>y i*(K i d*(zx n (qU n K) n).1 d (n+c)))) from qf fun d _=>by rw[<-qJ];exact qf fun i _=>by grind,zG];exact qf fun i _=>by unfold mm;rw[zV]
    rw[e1,show sum n (fun i=>y i*mm n K (fun a b=>(zx n (qU n K) n).1 a (n+b)) i c)=sum n (fun i=>y i*dlt i c) from qf fun i hi=>by rw[h3 i hi c hc]];exact yT hc y
   rw[<-e];exact qy fun d hd=>by rw[h1 d hd];grind
  rw[qy (fun i hi=>by rw[hy i hi];grind)] at h2;exact absurd h2 (by decide)
 refine⟨?_,q33 hR hno⟩;cases hc:(zx n (aug n K b) (n+1)).2.contains n with
 | false=>rfl
 | true =>
  rw[List.contains_iff_mem] at hc;obtain⟨s,hs,he⟩:=List.getElem_of_mem hc;exact absurd (by rw[List.getElem?_eq_getElem hs];simpa using he) (hno s hs)
theorem QY (n k:Nat) (f:q_v):sum (n+k) f=sum n f+sum k (fun j=>f (n+j)):=by
 induction k with
 | zero=>show sum n f=sum n f+0;grind
 | succ k ih=>show sum (n+k) f+f (n+k)=_;rw[ih,zg];grind
def gq (n:Nat) (A Q:q_m) (i j:Nat):Rat:=sum n (fun s=>A i s*sum n (fun t=>Q s t*A j t))
end Go.Proofs.YtpkmjhmmmdkodaaGreat
namespace Go.Proofs.YtpkmjhmmmdkodaaGreat
open Go.RowKit
variable {w w':World} {N n lo hi k g i m base c b j K:Nat} {v s:Value} {R:Raw} {A:Option Addr}
def Mn.own (N lo m n:Nat) (X:q_m):Mn:=⟨fun v w=>∃h cap β κ hi,v=.slice (some ⟨h,0,none⟩) m cap/\cap<=maxLen/\zt N lo hi w h cap m n β κ X,fun e h=>by
  obtain⟨h,cap,β,κ,hi,h0,h1,h2⟩:=h
  exact⟨h,cap,β,κ,hi,h0,h1,h2.ext e⟩⟩
def nsv (n:Nat) (K:q_m) (b:q_v):Nat->Rat:=sol n (zx n (aug n K b) (n+1)).1 (zx n (aug n K b) (n+1)).2
theorem q3w{x:q_v}(h:w.heap[g]?=some (.cells #[s] 24 (0,0))) (h1:LsV N 0 w.heap.size w s n x) :
  MtV N 0 w.heap.size w (.slice (some ⟨g,0,none⟩) 1 1) 1 n (fun _=>x):=by
 have hl:=qF h;obtain⟨c0,-⟩:=zu h;refine⟨h1.le,q_r,_,1,rfl,q_r,by unfold maxLen;omega,fun _=>⟨g,0,rfl,Nat.zero_le _,hl,fun i hi=>?_⟩⟩;obtain rfl:i=0:=by omega
 exact⟨s,c0,h1⟩
theorem LsV.all{x:q_v}(h:LsV N lo hi w v n x):LsV N 0 w.heap.size w v n x:=LsR.wide h (Nat.zero_le _) h.2.1 (q_r)
theorem MtV.all{X:q_m}(h:MtV N lo hi w v m n X):MtV N 0 w.heap.size w v m n X:=MtR.wide h (Nat.zero_le _) h.2.1 (q_r)
def q2N (N:Nat) (w:World) (n:Nat) (x:q_v) (e:Ending) (w':World):Prop :=
 ∃g cap,e=.returned (.slice (some ⟨g,0,none⟩) n cap)/\w.heap.size<=g/\cap<=maxLen/\n<=cap/\kH N w' g cap n x/\Ext w w'
theorem q38{x:q_v}(h:LsV N lo hi w v n x) (hn0:0<n) (hn:n<1000000) :
  Calls Tryz.prog 111 #[v] w (q2N N w n x):=by
 obtain⟨Rf,hRf⟩:=qc (q2N N w n x);rw[<-hRf.out];have hN:=h.le;obtain⟨A1,c1,rfl,hmc,hcm⟩:=h.form;obtain⟨b,off,rfl,-⟩:=LsV.addr h hn0;have hI:=h;clear h;have hnl:=fun (w:World) (a:Option Addr) (n c:Nat)=>Lib.run_eql_slice_nil (P:=Tryz.prog) w 24 48 a n c 0 0 Tryz.underlying24
 go_enter Tryz.func111,Tryz.ntmps111;go_wp2_with (at_builtin;refine q_o ?_);refine qp ?_;intro W hE hsz B0;refine yO rfl _ _ 24 Tryz.underlying24 rfl (by rfl) (Grow.empty hN (q_r) B0 x) (by rfl) (hI.ext hE) (by omega:0+n<1000000000) ?_;rintro A' c' w2 hG ⟨g',hg',C2,-⟩;have hE2:=C2.ext hE hg';rw[Nat.zero_add] at hG ⊢;obtain⟨g,cap,hv,hg,hgs,hcm2,hnc,hrw⟩:=hG.some hn0;injection hv with e1 e2 e3
 subst e1 e3;go_wp2
 first|go_ret|skip
 rw[hRf.out];exact⟨g,c',rfl,hg,hcm2,hnc,hrw.congr (fun j hj=>by unfold cat;rw[if_neg (by omega)];rfl),hE2⟩
theorem LsV.sub{off:Nat}{x:q_v}(h:LsV N lo hi w (.slice (some ⟨b,off,none⟩) n c) n x){l r:Nat}(hl:l<r) (hr:r<=n){c':Nat}(hc:r-l<=c') (hm:c'<=maxLen) :
  LsV N lo hi w (.slice (some ⟨b,off+l*4,none⟩) (r-l) c') (r-l) (fun j=>x (l+j)):=by
 obtain⟨b',off',hA,h1,h2,hx⟩:=LsV.addr h (by omega);obtain⟨rfl,rfl⟩:b=b'/\off=off':=by injection hA with hA;injection hA with e1 e2;exact⟨e1,e2⟩
 refine⟨h.1,h.2.1,_,c',rfl,hc,hm,fun _=>⟨b,off+l*4,rfl,h1,h2,fun i hi=>?_⟩⟩;have h9:=hx (l+i) (by omega);rw[show off+(l+i)*4=off+l*4+i*4 by omega] at h9;exact h9
theorem q03(hN:N<=w.heap.size) (m n:Nat){M' N':Int}(hM':M'=(m:Int)) (hN':N'=(n:Int)) (hm:m<1000000) (hn:n<1000000) (X:q_m){ga gb:Nat}
  (hf:∀i,i<m->∀j,j<n->∀w',Ext w w'->Calls Tryz.prog 105 #[.int .i64 (i:Int),.int .i64 (j:Int),.pointer (some ⟨ga,0,none⟩),.pointer (some ⟨gb,0,none⟩)] w' (yt N w' (X i j))) :
  Calls Tryz.prog 99 #[.int .i64 M',.int .i64 N',.func (.func 105) #[] #[.pointer (some ⟨ga,0,none⟩),.pointer (some ⟨gb,0,none⟩)]] w (x9 N w m n X):=by
 subst hM' hN';have HF:=q_h hf;clear hf;go_enter Tryz.func99,Tryz.ntmps99;go_wp2_with (at_make;refine q_o ?_);refine zB rfl _ _ rfl .i64 .i64 _ _ m rfl rfl rfl rfl hm ?_;intro w1 cs B0 hcs e1;have ho:zt N w.heap.size w1.heap.size w1 w.heap.size m 0 n (fun _=>0) (fun _=>0) X:=zt.start hN (q_r) B0 hcs X (qF B0) (q_r);have hs1:w.heap.size<w1.heap.size:=qF B0;clear B0;have HCS:=q_h hcs;clear hcs;go_wp2
 go_loopw [14] (fun i wr=>∃k:Nat,k<=m/\i=.int .i64 k/\Ext w wr/\∃β κ,zt N w.heap.size wr.heap.size wr w.heap.size m k n β κ X) (fun i _=>m-(intOf i).toNat)
 case atStart=>exact⟨0,Nat.zero_le _,rfl,e1,_,_,ho⟩
 case round =>
  clear ho e1;obtain⟨k,hk,rfl,hE,β,κ,ho⟩:=hrel;have hsr:w.heap.size<wr.heap.size:=by have:=ho.hhi;omega
  by_cases hlt:k<m
  ·go_wp2_with (at_make;refine q_o ?_);refine qV rfl _ _ rfl .i64 .i64 _ _ n rfl rfl rfl rfl hn ?_;intro w2 cs2 B2 hcs2 e2;have ho2:=ho.ext e2;have hR:kH N w2 wr.heap.size n 0 (X k):=⟨by omega,Nat.zero_le _,⟨cs2,B2,hcs2⟩,fun j hj=>by omega⟩
   obtain⟨u0,z0⟩:=ho2.hthere hlt;have z1:=ho2.hfrozen k;have hs2:wr.heap.size<w2.heap.size:=qF B2;have HCS2:=q_h hcs2;clear B2 hcs2 ho;go_upto_region 6 with (fail);obtain⟨w3,E3,C3,hs3,y0,ho3⟩:=ho2.setHead (Nat.le_refl k) hlt (.slice (some ⟨wr.heap.size,0,none⟩) n n);rw[E3];replace hE:=C3.ext (hE.trans e2) (q_r);replace hR:=hR.chg C3 (by omega) (by omega);have hs4:wr.heap.size<w3.heap.size:=by omega
   generalize hgr:wr.heap.size=gr at *
   clear hgr E3 C3 hs3 ho2 z0 z1 e2 hs2;have Y0:=y0;go_wp2
   go_loopw [27] (fun i ws=>∃j:Nat,j<=n/\i=.int .i64 j/\Ext w ws/\gr<ws.heap.size/\ws.cell? ⟨w.heap.size,k,none⟩=some (.slice (some ⟨gr,0,none⟩) n n)/\zt N w.heap.size gr ws w.heap.size m k n β κ X/\kH N ws gr n j (X k)) (fun i _=>n-(intOf i).toNat)
   case atStart=>exact⟨0,Nat.zero_le _,rfl,hE,hs4,y0,ho3,hR⟩
   case round =>
    clear hE y0 ho3 hR hs4 Y0;obtain⟨j,hj,rfl,hE,hs4,y0,ho3,hR⟩:=hrel
    by_cases hlt':j<n
    ·go_upto_region 9 with (fail);have eC:=(Ext.refl wr).drew;refine qx (fun w'=>w'.cell? ⟨w.heap.size,k,none⟩=some (.slice (some ⟨gr,0,none⟩) n n)) [10] (by kernel_rfl) (by exact eC.cell y0) (fun hHeld=>?_);refine sP 0 (h:=?_);try simp only[nr]
     refine sP 1 (h:=?_);try simp only[nr]
     refine sP 2 (h:=?_);try simp only[nr]
     refine sT 3 (h:=?_);try simp only[nr]
     refine sP 4 (h:=?_);try simp only[nr]
     refine sP 5 (h:=?_);try simp only[nr]
     refine sP 6 (h:=?_);try simp only[nr]
     refine sP 7 (h:=?_);try simp only[nr]
     refine qA (i:=8) rfl (by kernel_rfl) (fun K hK=>?_);go_simp;refine (HF.out k hlt j hlt' _ (hE.trans eC)).mono ?_;intro e w5 hh;obtain⟨b9,A9,k9,c9,A10,k10,c10,rfl,hb9,g9,g10,e5⟩:=hh.form;replace eC:=eC.trans e5;have hR5:=hR.ext eC;obtain⟨x0,v0⟩:=hR5.there (o:=j*4) (by omega);obtain⟨x1,v1⟩:=hR5.there (o:=j*4+1) (by omega);obtain⟨x2,v2⟩:=hR5.there (o:=j*4+2) (by omega);obtain⟨x3,v3⟩:=hR5.there (o:=j*4+3) (by omega);have f0:=hR5.frozen (j*4);have f1:=hR5.frozen (j*4+1);have f2:=hR5.frozen (j*4+2);have f3:=hR5.frozen (j*4+3);go_wp2_with fail;clear hHeld;refine hK.out _ _ (by exact eC.cell y0) fun hHeld=>?_
     clear hK K;try simp only[nr]
     refine sP 9 (h:=?_);try simp only[nr]
     refine qj (i:=10) rfl (by kernel_rfl) (by kernel_rfl) (fun K hK=>?_);go_simp;refine hK.out _ _ ?_;clear hK K;try simp only[nr]
     refine qg (by kernel_rfl) ?_ _;clear hHeld;obtain⟨w6,E6,C6,hs6,hr6⟩:=hR5.set (i:=j) (q:=X k j) hlt' (q_r) hb9 g9 g10;rw[E6];replace hE:=C6.ext (hE.trans eC) (by omega);replace ho3:=(ho3.ext eC).chg C6 (by omega) (.inl (q_r));replace y0:=C6.cell (p:=⟨w.heap.size,k,none⟩) (eC.cell y0) (.inl (by simp only;omega));have hr7:=(hr6.less (n':=j+1) (by omega)).congr (y:=X k) (fun c hc=>by unfold upd;split;(rename_i e;rw[e]);rfl);have hs7:gr<w6.heap.size:=by have:=eC.size;omega
     clear E6 C6 hs6 hr6 hR hR5 v0 v1 v2 v3 f0 f1 f2 f3;go_wp2;go_roundw
     case rel=>exact⟨j+1,by omega,by go_num,hE,hs7,y0,ho3,hr7⟩
     case measure=>simp[intOf];omega
    ·obtain rfl:j=n:=by omega
     have ho4:=(ho3.more hlt y0 hR (q_r) (by unfold maxLen;omega)).congr (B:=X) (fun i _ c _=>by unfold xI;split;(rename_i e;rw[e]);rfl);go_wp2;go_roundw
     case rel=>exact⟨k+1,by omega,by go_num,hE,_,_,ho4⟩
     case measure=>simp[intOf];omega
  ·obtain rfl:k=m:=by omega
   go_wp2;go_ret;exact⟨_,_,β,κ,rfl,by unfold maxLen;omega,ho,hE⟩
theorem q02(hN:N<=w.heap.size) (m n:Nat){M' N':Int}(hM':M'=(m:Int)) (hN':N'=(n:Int)) (hm:m<1000000) (hn:n<1000000) (X:q_m){ga gb:Nat}
  (hf:∀i,i<m->∀j,j<n->∀w',Ext w w'->Calls Tryz.prog 108 #[.int .i64 (i:Int),.int .i64 (j:Int),.pointer (some ⟨ga,0,none⟩),.pointer (some ⟨gb,0,none⟩)] w' (yt N w' (X i j))) :
  Calls Tryz.prog 99 #[.int .i64 M',.int .i64 N',.func (.func 108) #[] #[.pointer (some ⟨ga,0,none⟩),.pointer (some ⟨gb,0,none⟩)]] w (x9 N w m n X):=by
 subst hM' hN';have HF:=q_h hf;clear hf;go_enter Tryz.func99,Tryz.ntmps99;go_wp2_with (at_make;refine q_o ?_);refine zB rfl _ _ rfl .i64 .i64 _ _ m rfl rfl rfl rfl hm ?_;intro w1 cs B0 hcs e1;have ho:zt N w.heap.size w1.heap.size w1 w.heap.size m 0 n (fun _=>0) (fun _=>0) X:=zt.start hN (q_r) B0 hcs X (qF B0) (q_r);have hs1:w.heap.size<w1.heap.size:=qF B0;clear B0;have HCS:=q_h hcs;clear hcs;go_wp2
 go_loopw [14] (fun i wr=>∃k:Nat,k<=m/\i=.int .i64 k/\Ext w wr/\∃β κ,zt N w.heap.size wr.heap.size wr w.heap.size m k n β κ X) (fun i _=>m-(intOf i).toNat)
 case atStart=>exact⟨0,Nat.zero_le _,rfl,e1,_,_,ho⟩
 case round =>
  clear ho e1;obtain⟨k,hk,rfl,hE,β,κ,ho⟩:=hrel;have hsr:w.heap.size<wr.heap.size:=by have:=ho.hhi;omega
  by_cases hlt:k<m
  ·go_wp2_with (at_make;refine q_o ?_);refine qV rfl _ _ rfl .i64 .i64 _ _ n rfl rfl rfl rfl hn ?_;intro w2 cs2 B2 hcs2 e2;have ho2:=ho.ext e2;have hR:kH N w2 wr.heap.size n 0 (X k):=⟨by omega,Nat.zero_le _,⟨cs2,B2,hcs2⟩,fun j hj=>by omega⟩
   obtain⟨u0,z0⟩:=ho2.hthere hlt;have z1:=ho2.hfrozen k;have hs2:wr.heap.size<w2.heap.size:=qF B2;have HCS2:=q_h hcs2;clear B2 hcs2 ho;go_upto_region 6 with (fail);obtain⟨w3,E3,C3,hs3,y0,ho3⟩:=ho2.setHead (Nat.le_refl k) hlt (.slice (some ⟨wr.heap.size,0,none⟩) n n);rw[E3];replace hE:=C3.ext (hE.trans e2) (q_r);replace hR:=hR.chg C3 (by omega) (by omega);have hs4:wr.heap.size<w3.heap.size:=by omega
   generalize hgr:wr.heap.size=gr at *
   clear hgr E3 C3 hs3 ho2 z0 z1 e2 hs2;have Y0:=y0;go_wp2
   go_loopw [27] (fun i ws=>∃j:Nat,j<=n/\i=.int .i64 j/\Ext w ws/\gr<ws.heap.size/\ws.cell? ⟨w.heap.size,k,none⟩=some (.slice (some ⟨gr,0,none⟩) n n)/\zt N w.heap.size gr ws w.heap.size m k n β κ X/\kH N ws gr n j (X k)) (fun i _=>n-(intOf i).toNat)
   case atStart=>exact⟨0,Nat.zero_le _,rfl,hE,hs4,y0,ho3,hR⟩
   case round =>
    clear hE y0 ho3 hR hs4 Y0;obtain⟨j,hj,rfl,hE,hs4,y0,ho3,hR⟩:=hrel
    by_cases hlt':j<n
    ·go_upto_region 9 with (fail);have eC:=(Ext.refl wr).drew;refine qx (fun w'=>w'.cell? ⟨w.heap.size,k,none⟩=some (.slice (some ⟨gr,0,none⟩) n n)) [10] (by kernel_rfl) (by exact eC.cell y0) (fun hHeld=>?_);refine sP 0 (h:=?_);try simp only[nr]
     refine sP 1 (h:=?_);try simp only[nr]
     refine sP 2 (h:=?_);try simp only[nr]
     refine sT 3 (h:=?_);try simp only[nr]
     refine sP 4 (h:=?_);try simp only[nr]
     refine sP 5 (h:=?_);try simp only[nr]
     refine sP 6 (h:=?_);try simp only[nr]
     refine sP 7 (h:=?_);try simp only[nr]
     refine qA (i:=8) rfl (by kernel_rfl) (fun K hK=>?_);go_simp;refine (HF.out k hlt j hlt' _ (hE.trans eC)).mono ?_;intro e w5 hh;obtain⟨b9,A9,k9,c9,A10,k10,c10,rfl,hb9,g9,g10,e5⟩:=hh.form;replace eC:=eC.trans e5;have hR5:=hR.ext eC;obtain⟨x0,v0⟩:=hR5.there (o:=j*4) (by omega);obtain⟨x1,v1⟩:=hR5.there (o:=j*4+1) (by omega);obtain⟨x2,v2⟩:=hR5.there (o:=j*4+2) (by omega);obtain⟨x3,v3⟩:=hR5.there (o:=j*4+3) (by omega);have f0:=hR5.frozen (j*4);have f1:=hR5.frozen (j*4+1);have f2:=hR5.frozen (j*4+2);have f3:=hR5.frozen (j*4+3);go_wp2_with fail;clear hHeld;refine hK.out _ _ (by exact eC.cell y0) fun hHeld=>?_
     clear hK K;try simp only[nr]
     refine sP 9 (h:=?_);try simp only[nr]
     refine qj (i:=10) rfl (by kernel_rfl) (by kernel_rfl) (fun K hK=>?_);go_simp;refine hK.out _ _ ?_;clear hK K;try simp only[nr]
     refine qg (by kernel_rfl) ?_ _;clear hHeld;obtain⟨w6,E6,C6,hs6,hr6⟩:=hR5.set (i:=j) (q:=X k j) hlt' (q_r) hb9 g9 g10;rw[E6];replace hE:=C6.ext (hE.trans eC) (by omega);replace ho3:=(ho3.ext eC).chg C6 (by omega) (.inl (q_r));replace y0:=C6.cell (p:=⟨w.heap.size,k,none⟩) (eC.cell y0) (.inl (by simp only;omega));have hr7:=(hr6.less (n':=j+1) (by omega)).congr (y:=X k) (fun c hc=>by unfold upd;split;(rename_i e;rw[e]);rfl);have hs7:gr<w6.heap.size:=by have:=eC.size;omega
     clear E6 C6 hs6 hr6 hR hR5 v0 v1 v2 v3 f0 f1 f2 f3;go_wp2;go_roundw
     case rel=>exact⟨j+1,by omega,by go_num,hE,hs7,y0,ho3,hr7⟩
     case measure=>simp[intOf];omega
    ·obtain rfl:j=n:=by omega
     have ho4:=(ho3.more hlt y0 hR (q_r) (by unfold maxLen;omega)).congr (B:=X) (fun i _ c _=>by unfold xI;split;(rename_i e;rw[e]);rfl);go_wp2;go_roundw
     case rel=>exact⟨k+1,by omega,by go_num,hE,_,_,ho4⟩
     case measure=>simp[intOf];omega
  ·obtain rfl:k=m:=by omega
   go_wp2;go_ret;exact⟨_,_,β,κ,rfl,by unfold maxLen;omega,ho,hE⟩
theorem VK {lo' hi':Nat}{v':Value}{m' n':Nat}{X Y:q_m}(hB:w.cell? ⟨g,0,none⟩=some v/\w.cell? ⟨g,1,none⟩=some v') (h:MtV N lo hi w v m n X) (h':MtV N lo' hi' w v' m' n' Y) (hm0:0<m) (hm:m<=64) (hn0:0<n) (hn:n<=64) (hm0':0<m') (hm':m'<=64) (hn0':0<n') (hn':n'<=64)
  (hs:∀i,i<m->∀j,j<n->Sz (X i j)) (hs':∀i,i<m'->∀j,j<n'->Sz (Y i j)) :
  Calls Tryz.prog 103 #[.slice (some ⟨g,0,none⟩) 2 2] w (zI w (.int .i64 0)):=by
 have HI:=q_h h;have HI':=q_h h';have HS:=q_h hs;have HS':=q_h hs';have HB:=q_h hB;clear h h' hs hs' hB;go_enter Tryz.func103,Tryz.ntmps103;go_wp2
 go_loopw [8] (fun i wr=>∃k:Nat,k<=2/\i=.int .i64 k/\Ext w wr) (fun i _=>2-(intOf i).toNat)
 case atStart=>exact⟨0,by omega,rfl,Ext.refl w⟩
 case round =>
  obtain⟨k,hk,rfl,hE⟩:=hrel;have hk':k=0\/k=1\/k=2:=by omega
  rcases hk' with rfl|rfl|rfl
  ·have b0:=hE.cell HB.out.1;go_wp2_with (go_at_call 136;refine q_o ?_);refine (XD (HI.out.ext hE) hm0 hm hn0 hn HS.out).mono ?_;rintro e w1 ⟨rfl,e1⟩;replace hE:=hE.trans e1;clear b0 e1;go_wp2;go_roundw
   case rel=>exact⟨1,by omega,by go_num,hE⟩
   case measure=>simp[intOf]
  ·have b0:=hE.cell HB.out.2;go_wp2_with (go_at_call 136;refine q_o ?_);refine (XD (HI'.out.ext hE) hm0' hm' hn0' hn' HS'.out).mono ?_;rintro e w1 ⟨rfl,e1⟩;replace hE:=hE.trans e1;clear b0 e1;go_wp2;go_roundw
   case rel=>exact⟨2,by omega,by go_num,hE⟩
   case measure=>simp[intOf]
  ·go_wp2;go_ret;exact⟨rfl,hE⟩
theorem q7a {lo' hi':Nat}{ga gb:Nat}{B:Option Addr}{p c':Nat}{X Y:q_m}(ha:w.cell? ⟨ga,0,none⟩=some (.slice A m c)) (hb:w.cell? ⟨gb,0,none⟩=some (.slice B p c')) (h:MtV N lo hi w (.slice A m c) m n X) (h':MtV N lo' hi' w (.slice B p c') p n Y)(hi':i<m) (hj:j<p) (hm:m<1000000) (hp:p<1000000)
  {k':Nat}(hk:HtL n k (X i)) (hk':HtL n k' (Y j)) (hK:n*(k+k'+1)+1<=29000000000) :
  Calls Tryz.prog 105 #[.int .i64 (i:Int),.int .i64 (j:Int),.pointer (some ⟨ga,0,none⟩),.pointer (some ⟨gb,0,none⟩)] w (yt N w (sum n (fun t=>X i t*Y j t))):=by
 have HK:=q_h hK;have HX:=q_h hk;have HY:=q_h hk';have hN:=h.le;obtain⟨S,hS⟩:=qc (sum n (fun t=>X i t*Y j t));rw[<-hS.out];have hI:=h;have hI':=h';obtain⟨b,off,rfl,-,-,hx⟩:=h.addr (by omega);obtain⟨A1,c1,p0,-,-,hl⟩:=hx i hi';obtain⟨b2,off2,rfl,-,-,hx'⟩:=h'.addr (by omega);obtain⟨A2,c2,q0,-,-,hl'⟩:=hx' j hj;have l0:=cell_lt ha;have l0':=cell_lt hb;have l1:=cell_lt p0;have l2:=cell_lt q0;simp only at l0 l0' l1 l2;have HL:=q_h hl;have HL':=q_h hl';clear hx hx' h h' hk hk' hK hl hl';go_enter Tryz.func105,Tryz.ntmps105;go_upto_region 1 with (fail);refine qp ?_;intro W hE hsz B0;replace ha:=hE.cell ha;replace hb:=hE.cell hb;replace p0:=hE.cell p0;replace q0:=hE.cell q0;have eC:=(Ext.refl W).drew;refine qx (fun w'=>w'.cell? ⟨ga,0,none⟩=some (.slice (some ⟨b,off,none⟩) m c)/\w'.cell? ⟨gb,0,none⟩=some (.slice (some ⟨b2,off2,none⟩) p c')/\w'.cell? ⟨b,off+i,none⟩=some (.slice A1 n c1)/\w'.cell? ⟨b2,off2+j,none⟩=some (.slice A2 n c2)) [9] (by kernel_rfl) (by exact⟨eC.cell ha,eC.cell hb,eC.cell p0,eC.cell q0⟩) (fun hHeld=>?_);refine sT 0 (h:=?_);try simp only[nr]
 refine sP 1 (h:=?_);try simp only[nr]
 refine sP 2 (h:=?_);try simp only[nr]
 refine sT 3 (h:=?_);try simp only[nr]
 refine sT 4 (h:=?_);try simp only[nr]
 refine sP 5 (h:=?_);try simp only[nr]
 refine sP 6 (h:=?_);try simp only[nr]
 refine sT 7 (h:=?_);try simp only[nr]
 refine qA (i:=8) rfl (by kernel_rfl) (fun K hK=>?_);go_simp;refine (m_dot (HL.out.ext (hE.trans eC)) (HL'.out.ext (hE.trans eC)) HX.out HY.out HK.out).mono ?_;rw[<-hS.out];intro e w8 hh;obtain⟨b9,A11,k11,c11,A12,k12,c12,rfl,hb9,g9,g10,e8⟩:=hh.form;replace eC:=eC.trans e8;have D0:=eC.block B0;obtain⟨u0,u1,u2,u3,u4,u5,u6,u7⟩:=cells4 D0;go_wp2_with fail;clear hHeld;refine hK.out _ _ (by exact⟨eC.cell ha,eC.cell hb,eC.cell p0,eC.cell q0⟩) fun hHeld=>?_
 clear hK K;try simp only[nr]
 refine qj (i:=9) rfl (by kernel_rfl) (by kernel_rfl) (fun K hK=>?_);go_simp;refine hK.out _ _ ?_;clear hK K;try simp only[nr]
 refine qg (by kernel_rfl) ?_ _;clear hHeld;go_wp2;exact qX rfl rfl rfl (hE.trans eC) D0 (by omega) hN g9 g10 hb9
theorem q79 {lo' hi':Nat}{ga gb:Nat}{B:Option Addr}{c':Nat}{X Y:q_m}(ha:w.cell? ⟨ga,0,none⟩=some (.slice A m c)) (hb:w.cell? ⟨gb,0,none⟩=some (.slice B m c')) (h:MtV N lo hi w (.slice A m c) m n X) (h':MtV N lo' hi' w (.slice B m c') m n Y)(hi':i<m) (hj:j<n) (hm:m<1000000) (hn:n<1000000)
  (hk:Sz (X i j)) (hk':Sz (Y i j)) :
  Calls Tryz.prog 108 #[.int .i64 (i:Int),.int .i64 (j:Int),.pointer (some ⟨ga,0,none⟩),.pointer (some ⟨gb,0,none⟩)] w (yt N w (X i j-Y i j)):=by
 have HX:=q_h hk;have HY:=q_h hk';have hN:=h.le;obtain⟨S,hS⟩:=qc (X i j-Y i j);rw[<-hS.out];obtain⟨b,off,rfl,-,-,hx⟩:=h.addr (by omega);obtain⟨A1,c1,p0,-,hc1,hl⟩:=hx i hi';obtain⟨b2,off2,rfl,-,-,hx'⟩:=h'.addr (by omega);obtain⟨A2,c2,q0,-,hc2,hl'⟩:=hx' i hi';obtain⟨b3,off3,rfl,-,-,hy⟩:=hl.addr (by omega);obtain⟨n1,A3,k3,c3,A4,k4,c4,t0,t1,t2,t3,hb1,g1,g2⟩:=(hy j hj).open;obtain⟨b4,off4,rfl,-,-,hy'⟩:=hl'.addr (by omega);obtain⟨n2,A5,k5,c5,A6,k6,c6,s0,s1,s2,s3,hb2,g3,g4⟩:=(hy' j hj).open;have l0:=cell_lt ha;have l0':=cell_lt hb;have l1:=cell_lt p0;have l2:=cell_lt q0;have l3:=cell_lt t0;have l4:=cell_lt s0;simp only at l0 l0' l1 l2 l3 l4;unfold maxLen at hc1 hc2;clear hx hx' h h' hk hk' hl hl' hy hy';go_enter Tryz.func108,Tryz.ntmps108;go_upto_region 1 with (fail);refine qp ?_;intro W hE hsz B0;replace ha:=hE.cell ha;replace hb:=hE.cell hb;replace p0:=hE.cell p0;replace q0:=hE.cell q0;replace t0:=hE.cell t0;replace t1:=hE.cell t1;replace t2:=hE.cell t2;replace t3:=hE.cell t3;replace s0:=hE.cell s0;replace s1:=hE.cell s1;replace s2:=hE.cell s2;replace s3:=hE.cell s3;replace g1:=g1.ext hE;replace g2:=g2.ext hE;replace g3:=g3.ext hE;replace g4:=g4.ext hE;have eC:=(Ext.refl W).drew;refine qx (fun w'=>w'.cell? ⟨ga,0,none⟩=some (.slice (some ⟨b,off,none⟩) m c)/\w'.cell? ⟨gb,0,none⟩=some (.slice (some ⟨b2,off2,none⟩) m c')/\w'.cell? ⟨b,off+i,none⟩=some (.slice (some ⟨b3,off3,none⟩) n c1)/\w'.cell? ⟨b2,off2+i,none⟩=some (.slice (some ⟨b4,off4,none⟩) n c2)/\w'.cell? ⟨b3,off3+j*4,none⟩=some (.bool n1)/\w'.cell? ⟨b3,off3+j*4+1,none⟩=some (.slice A3 k3 c3)/\w'.cell? ⟨b3,off3+j*4+2,none⟩=some (.bool false)/\w'.cell? ⟨b3,off3+j*4+3,none⟩=some (.slice A4 k4 c4)/\w'.cell? ⟨b4,off4+j*4,none⟩=some (.bool n2)/\w'.cell? ⟨b4,off4+j*4+1,none⟩=some (.slice A5 k5 c5)/\w'.cell? ⟨b4,off4+j*4+2,none⟩=some (.bool false)/\w'.cell? ⟨b4,off4+j*4+3,none⟩=some (.slice A6 k6 c6)) [15] (by kernel_rfl) (by exact⟨eC.cell ha,eC.cell hb,eC.cell p0,eC.cell q0,eC.cell t0,eC.cell t1,eC.cell t2,eC.cell t3,eC.cell s0,eC.cell s1,eC.cell s2,eC.cell s3⟩) (fun hHeld=>?_)
 refine sT 0 (h:=?_);try simp only[nr]
 refine sP 1 (h:=?_);try simp only[nr]
 refine sP 2 (h:=?_);try simp only[nr]
 refine sT 3 (h:=?_);try simp only[nr]
 refine sP 4 (h:=?_);try simp only[nr]
 refine sP 5 (h:=?_);try simp only[nr]
 refine sT 6 (h:=?_);try simp only[nr]
 refine sT 7 (h:=?_);try simp only[nr]
 refine sP 8 (h:=?_);try simp only[nr]
 refine sP 9 (h:=?_);try simp only[nr]
 refine sT 10 (h:=?_);try simp only[nr]
 refine sP 11 (h:=?_);try simp only[nr]
 refine sP 12 (h:=?_);try simp only[nr]
 refine sT 13 (h:=?_);try simp only[nr]
 refine qA (i:=14) rfl (by kernel_rfl) (fun K hK=>?_);go_simp;refine (q60 (x:=X i j) (y:=Y i j) (by exact (zq.mk hb1 g1 g2).ext eC) (by exact (zq.mk hb2 g3 g4).ext eC) HX.out HY.out).mono ?_;rw[<-hS.out];intro e w8 hh;obtain⟨b9,A11,k11,c11,A12,k12,c12,rfl,hb9,g9,g10,e8⟩:=hh.form;replace eC:=eC.trans e8;have D0:=eC.block B0;obtain⟨u0,u1,u2,u3,u4,u5,u6,u7⟩:=cells4 D0;go_wp2_with fail;clear hHeld;refine hK.out _ _ (by exact⟨eC.cell ha,eC.cell hb,eC.cell p0,eC.cell q0,eC.cell t0,eC.cell t1,eC.cell t2,eC.cell t3,eC.cell s0,eC.cell s1,eC.cell s2,eC.cell s3⟩) fun hHeld=>?_
 clear hK K;try simp only[nr]
 refine qj (i:=15) rfl (by kernel_rfl) (by kernel_rfl) (fun K hK=>?_);go_simp;refine hK.out _ _ ?_;clear hK K;try simp only[nr]
 refine qg (by kernel_rfl) ?_ _;clear hHeld;go_wp2;exact qX rfl rfl rfl (hE.trans eC) D0 (by omega) hN g9 g10 hb9
theorem q3H {lo' hi':Nat}{v':Value}{p:Nat}{X Y:q_m}(h:MtV N lo hi w v m n X) (h':MtV N lo' hi' w v' n p Y) (hm0:0<m) (hm:m<=64) (hn0:0<n) (hn:n<=64) (hp0:0<p) (hp:p<=64)
  {k':Nat}(hk:HtM m n k X) (hk':HtM n p k' Y) (hK:n*(k+k'+1)+1<=29000000000) :
  Calls Tryz.prog 50 #[v,v'] w (ZB N w m p (mm n X Y)):=by
 have h9:=Nat.le_mul_of_pos_left (k+k'+1) hn0;have HS:Hid (∀i,i<m->∀j,j<n->Sz (X i j)):=fun i hi j hj=>(hk i hi j hj).sz (by omega)
 have HS':Hid (∀i,i<n->∀j,j<p->Sz (Y i j)):=fun i hi j hj=>(hk' i hi j hj).sz (by omega)
 have HX:=q_h hk;have HY:=q_h hk';have HK:=q_h hK;have hN:=h.le;obtain⟨Z,hZ⟩:=qc (mm n X Y);have HZ:Hid (∀i j,sum n (fun t=>X i t*Y t j)=Z i j):=fun i j=>by rw[hZ.out];rfl
 rw[<-hZ.out];obtain⟨Rf,hRf⟩:=qc (ZB N w m p Z);rw[<-hRf.out];obtain⟨A,c,rfl,hmc,hcm⟩:=h.form;obtain⟨A',c',rfl,hnc,hcm'⟩:=h'.form;have hI:=h;have hI':=h';obtain⟨b,off,rfl,-,-,hx⟩:=h.addr hm0;obtain⟨A1,c1,p0,hnc1,hcm1,-⟩:=hx 0 hm0;rw[Nat.add_zero] at p0;obtain⟨b',off',rfl,-,-,hx'⟩:=h'.addr hn0;obtain⟨A2,c2,q0,hnc2,hcm2,-⟩:=hx' 0 hn0;rw[Nat.add_zero] at q0;unfold maxLen at hcm1 hcm2 hcm hcm';have t1:((n:Int) != (n:Int))=false:=by simp
 clear h h' hx hx' hk hk' hK h9;go_enter Tryz.func50,Tryz.ntmps50;go_upto_region 1 with (fail);refine qp ?_;intro W hE hsz B0;obtain⟨a0,-⟩:=zu B0;have hl0:=qF B0;go_wp2_with (go_at_call 103;refine q_o ?_);refine qR ?_;intro w1 e1 hsz1 B1;obtain⟨b0,b1,-⟩:=cells2 B1;replace hE:=hE.trans e1;replace B0:=e1.block B0;refine (VK ⟨b0,b1⟩ (hI.ext hE) (hI'.ext hE) hm0 hm hn0 hn hn0 hn hp0 hp HS.out HS'.out).mono ?_;rintro e w2 ⟨rfl,e2⟩;replace hE:=hE.trans e2;replace B0:=e2.block B0;clear a0 b0 b1 B1 e1 e2 hsz hsz1;obtain⟨a0,-⟩:=zu B0;replace p0:=hE.cell p0;replace q0:=hE.cell q0;go_wp2_with (go_at_call 104;refine q_o ?_);refine (VJ (hI'.ext hE) hn0 (by omega) (by omega)).mono ?_;rintro e w3 ⟨h3,cap3,β3,κ3,rfl,hcap3,ho3,e3⟩;have hT:=ho3.mtv ho3.mle hcap3;have hmle:=ho3.mle;replace hE:=hE.trans e3;replace B0:=e3.block B0;clear ho3 a0 hl0;replace p0:=e3.cell p0;replace q0:=e3.cell q0;clear e3;go_upto_region 7 with (fail);refine qp ?_;intro w4 e4 hsz4 B4;obtain⟨d0,-⟩:=zu B4;replace hE:=hE.trans e4;replace B0:=e4.block B0;obtain⟨a0,-⟩:=zu B0;replace p0:=e4.cell p0;replace q0:=e4.cell q0;replace hT:=hT.ext e4;obtain⟨g3,hg3⟩:∃g3,g3=w3.heap.size:=⟨_,rfl⟩
 rw[<-hg3] at d0 ⊢;clear B4 e4 hg3 hsz4;have hEz:=hE.size;have eC:=(Ext.refl w4).drew;refine qx (fun w'=>w'.cell? ⟨w.heap.size,0,none⟩=some (.slice (some ⟨b,off,none⟩) m c)/\w'.cell? ⟨b',off',none⟩=some (.slice A2 p c2)) [] (by kernel_rfl) (by exact⟨eC.cell a0,eC.cell q0⟩) (fun hHeld=>?_);refine sT 0 (h:=?_);try simp only[nr]
 refine sP 1 (h:=?_);try simp only[nr]
 refine sP 2 (h:=?_);try simp only[nr]
 refine sP 3 (h:=?_);try simp only[nr]
 refine sT 4 (h:=?_);try simp only[nr]
 refine sP 5 (h:=?_);try simp only[nr]
 refine sP 6 (h:=?_);try simp only[nr]
 refine qA (i:=7) rfl (by kernel_rfl) (fun K hK=>?_);go_simp;refine (q03 (N:=N) (by show N<=w4.heap.size;omega) m p rfl rfl (by omega) (by omega) Z (fun i hi' j hj w' e=>by rw[<-HZ.out i j];exact q7a (Y:=fun a b=>Y b a) ((eC.trans e).cell a0) ((eC.trans e).cell d0) (hI.ext (hE.trans (eC.trans e))) (hT.ext (eC.trans e)) hi' hj (by omega) (by omega) (HX.out i hi') (fun t ht=>HY.out t ht j hj) HK.out)).mono ?_;rintro e w5 ⟨h5,cap5,β5,κ5,rfl,hcap5,ho5,e5⟩;replace eC:=eC.trans e5;go_wp2_with fail;clear hHeld;refine hK.out _ _ (by exact⟨eC.cell a0,eC.cell q0⟩) fun hHeld=>?_
 clear hK K;try simp only[nr]
 refine sP 8 (h:=?_);try simp only[nr]
 refine sP 9 (h:=?_);try simp only[nr]
 refine qg (by kernel_rfl) ?_ _;clear hHeld;go_wp2
 first|go_ret2|skip
 rw[hRf.out];exact⟨h5,cap5,β5,κ5,rfl,hcap5,ho5.wide hEz hN (q_r) (q_r),hE.trans eC⟩
theorem q7b {lo' hi':Nat}{v':Value}{X Y:q_m}(h:MtV N lo hi w v m n X) (h':MtV N lo' hi' w v' m n Y) (hm0:0<m) (hm:m<=64) (hn0:0<n) (hn:n<=64)
  (hs:∀i,i<m->∀j,j<n->Sz (X i j)) (hs':∀i,i<m->∀j,j<n->Sz (Y i j)) :
  Calls Tryz.prog 107 #[v,v'] w (zI w (.int .i64 0)):=by
 have HS:=q_h hs;have HS':=q_h hs';obtain⟨A,c,rfl,hmc,hcm⟩:=h.form;obtain⟨A',c',rfl,hmc',hcm'⟩:=h'.form;have hI:=h;have hI':=h';obtain⟨b,off,rfl,-,-,hx⟩:=h.addr hm0;obtain⟨A1,c1,p0,hnc1,hcm1,-⟩:=hx 0 hm0;rw[Nat.add_zero] at p0;obtain⟨b',off',rfl,-,-,hx'⟩:=h'.addr hm0;obtain⟨A2,c2,q0,hnc2,hcm2,-⟩:=hx' 0 hm0;rw[Nat.add_zero] at q0;unfold maxLen at hcm1 hcm2 hcm hcm';have t1:((n:Int) != (n:Int))=false:=by simp
 have t2:((m:Int) != (m:Int))=false:=by simp
 clear h h' hx hx' hs hs';go_enter Tryz.func107,Tryz.ntmps107;go_wp2_with (go_at_call 103;refine q_o ?_);refine qR ?_;intro w1 e1 hsz1 B1;obtain⟨b0,b1,-⟩:=cells2 B1;refine (VK ⟨b0,b1⟩ (hI.ext e1) (hI'.ext e1) hm0 hm hn0 hn hm0 hm hn0 hn HS.out HS'.out).mono ?_;rintro e w2 ⟨rfl,e2⟩;have hE:=e1.trans e2;replace p0:=hE.cell p0;replace q0:=hE.cell q0;clear b0 b1 B1 e1 e2 hsz1;go_upto_region 4 with (fail);refine jL [Mn.eq (.slice (some ⟨b,off,none⟩) m c),Mn.i (m:Int),Mn.eq (.slice (some ⟨b',off',none⟩) m c'),Mn.i (m:Int),Mn.t false,Mn.t false,Mn.eq (.slice (some ⟨b,off,none⟩) m c),Mn.q b off,Mn.eq (.slice A1 n c1),Mn.i (n:Int),Mn.eq (.slice (some ⟨b',off',none⟩) m c'),Mn.q (b') (off'),Mn.eq (.slice A2 n c2),Mn.i (n:Int),Mn.t false,Mn.t false] (sM [13,14,15,16,17,18,19,20,21,22,23,24,25,26,27,28]) [] (rQ 16 0) 0 (by kernel_rfl) ?_ ?_
 ·show ∀i,i<16->_
  iterate 16 refine fs ?_ ?_
  ·exact fz
  all_goals intro hl;clear hl;refine stp rfl ?_;intro ac wi eI hB hA K hK
  have o0:=oOf (hB 0) rfl;rotate_left;obtain⟨x13,s13,j13⟩:=hA 0 13;obtain rfl:x13=(.slice (some ⟨b,off,none⟩) m c):=j13;rotate_left;have o1:=oOf (hB 1) rfl;rotate_left;obtain⟨x15,s15,j15⟩:=hA 2 15;obtain rfl:x15=(.slice (some ⟨b',off',none⟩) m c'):=j15;rotate_left;obtain⟨x14,s14,j14⟩:=hA 1 14;obtain rfl:x14=(.int .i64 (m:Int)):=j14;obtain⟨x16,s16,j16⟩:=hA 3 16;obtain rfl:x16=(.int .i64 (m:Int)):=j16;rotate_left;obtain⟨x17,s17,j17⟩:=hA 4 17;obtain rfl:x17=(.bool false):=j17;rotate_left;obtain⟨x18,s18,j18⟩:=hA 5 18;obtain rfl:x18=(.bool false):=j18;have o0:=oOf (hB 0) rfl;rw[if_pos (by simp[Region.wanted,yielded,s18])];rotate_left;obtain⟨x18,s18,j18⟩:=hA 5 18;obtain rfl:x18=(.bool false):=j18;obtain⟨x19,s19,j19⟩:=hA 6 19;obtain rfl:x19=(.slice (some ⟨b,off,none⟩) m c):=j19;rw[if_pos (by simp[Region.wanted,yielded,s18])];rotate_left;obtain⟨x18,s18,j18⟩:=hA 5 18;obtain rfl:x18=(.bool false):=j18;obtain⟨x20,s20,j20⟩:=hA 7 20;obtain rfl:x20=(.pointer (some ⟨b,off,none⟩)):=j20;rw[if_pos (by simp[Region.wanted,yielded,s18])];have cc0:=eI.cell p0;have cc1:=eI.cell q0;rotate_left;obtain⟨x18,s18,j18⟩:=hA 5 18;obtain rfl:x18=(.bool false):=j18;obtain⟨x21,s21,j21⟩:=hA 8 21;obtain rfl:x21=(.slice A1 n c1):=j21;rw[if_pos (by simp[Region.wanted,yielded,s18])];rotate_left;obtain⟨x18,s18,j18⟩:=hA 5 18;obtain rfl:x18=(.bool false):=j18
  have o1:=oOf (hB 1) rfl;rw[if_pos (by simp[Region.wanted,yielded,s18])];rotate_left;obtain⟨x18,s18,j18⟩:=hA 5 18;obtain rfl:x18=(.bool false):=j18;obtain⟨x23,s23,j23⟩:=hA 10 23;obtain rfl:x23=(.slice (some ⟨b',off',none⟩) m c'):=j23;rw[if_pos (by simp[Region.wanted,yielded,s18])];rotate_left;obtain⟨x18,s18,j18⟩:=hA 5 18;obtain rfl:x18=(.bool false):=j18;obtain⟨x24,s24,j24⟩:=hA 11 24;obtain rfl:x24=(.pointer (some ⟨b',off',none⟩)):=j24;rw[if_pos (by simp[Region.wanted,yielded,s18])];have cc0:=eI.cell p0;have cc1:=eI.cell q0;rotate_left;obtain⟨x18,s18,j18⟩:=hA 5 18;obtain rfl:x18=(.bool false):=j18;obtain⟨x25,s25,j25⟩:=hA 12 25;obtain rfl:x25=(.slice A2 n c2):=j25;rw[if_pos (by simp[Region.wanted,yielded,s18])];rotate_left;obtain⟨x18,s18,j18⟩:=hA 5 18;obtain rfl:x18=(.bool false):=j18;obtain⟨x22,s22,j22⟩:=hA 9 22;obtain rfl:x22=(.int .i64 (n:Int)):=j22;obtain⟨x26,s26,j26⟩:=hA 13 26;obtain rfl:x26=(.int .i64 (n:Int)):=j26;rw[if_pos (by simp[Region.wanted,yielded,s18])];rotate_left;obtain⟨x18,s18,j18⟩:=hA 5 18;obtain rfl:x18=(.bool false):=j18;obtain⟨x27,s27,j27⟩:=hA 14 27;obtain rfl:x27=(.bool false):=j27;rotate_left
  all_goals clear hB hA;go_simp;exact q_k hK rfl
 intro vals wz eZ hJ;have J28:vals 15=_:=hJ 15 (by decide) (by decide);clear hJ;simp only[pr,Nat.reduceAdd,J28];clear J28;refine qg (by kernel_rfl) ?_ _;go_wp2;go_ret;exact⟨rfl,hE.trans eZ⟩
theorem q5M {lo' hi':Nat}{v':Value}{X Y:q_m}(h:MtV N lo hi w v m n X) (h':MtV N lo' hi' w v' m n Y) (hm0:0<m) (hm:m<=64) (hn0:0<n) (hn:n<=64)
  (hs:∀i,i<m->∀j,j<n->Sz (X i j)) (hs':∀i,i<m->∀j,j<n->Sz (Y i j)) :
  Calls Tryz.prog 51 #[v,v'] w (ZB N w m n (fun i j=>X i j-Y i j)):=by
 have HS:=q_h hs;have HS':=q_h hs';have hN:=h.le;obtain⟨Z,hZ⟩:=qc (fun i j=>X i j-Y i j);have HZ:Hid (∀i j,X i j-Y i j=Z i j):=fun i j=>by rw[hZ.out]
 rw[<-hZ.out];obtain⟨Rf,hRf⟩:=qc (ZB N w m n Z);rw[<-hRf.out];obtain⟨A,c,rfl,hmc,hcm⟩:=h.form;obtain⟨A',c',rfl,hmc',hcm'⟩:=h'.form;have hI:=h;have hI':=h';obtain⟨b,off,rfl,-,-,hx⟩:=h.addr hm0;obtain⟨A1,c1,p0,hnc1,hcm1,-⟩:=hx 0 hm0;rw[Nat.add_zero] at p0;unfold maxLen at hcm1 hcm hcm';clear h h' hx hs hs';go_enter Tryz.func51,Tryz.ntmps51;go_upto_region 1 with (fail);refine kL ?_;intro W hE hsz B0 B1;obtain⟨a0,-⟩:=zu B0;obtain⟨d0,-⟩:=zu B1;go_wp2_with (go_at_call 107;refine q_o ?_);refine (q7b (hI.ext hE) (hI'.ext hE) hm0 hm hn0 hn HS.out HS'.out).mono ?_;rintro e w2 ⟨rfl,e2⟩;replace hE:=hE.trans e2;replace B0:=e2.block B0;replace B1:=e2.block B1;clear a0 d0 e2 hsz;obtain⟨a0,-⟩:=zu B0;obtain⟨d0,-⟩:=zu B1;replace p0:=hE.cell p0;have hEz:=hE.size;go_upto_region 4 with (fail);have eC:=(Ext.refl w2).drew;refine qx (fun w'=>w'.cell? ⟨w.heap.size,0,none⟩=some (.slice (some ⟨b,off,none⟩) m c)/\w'.cell? ⟨b,off,none⟩=some (.slice A1 n c1)) [] (by kernel_rfl) (by exact⟨eC.cell a0,eC.cell p0⟩) (fun hHeld=>?_);refine sT 0 (h:=?_);try simp only[nr]
 refine sP 1 (h:=?_);try simp only[nr]
 refine sT 2 (h:=?_);try simp only[nr]
 refine sP 3 (h:=?_);try simp only[nr]
 refine sT 4 (h:=?_);try simp only[nr]
 refine sP 5 (h:=?_);try simp only[nr]
 refine sP 6 (h:=?_);try simp only[nr]
 refine qA (i:=7) rfl (by kernel_rfl) (fun K hK=>?_);go_simp;refine (q02 (N:=N) (by show N<=w2.heap.size;omega) m n rfl rfl (by omega) (by omega) Z (fun i hi' j hj w' e=>by rw[<-HZ.out i j];exact q79 ((eC.trans e).cell a0) ((eC.trans e).cell d0) (hI.ext (hE.trans (eC.trans e))) (hI'.ext (hE.trans (eC.trans e))) hi' hj (by omega) (by omega) (HS.out i hi' j hj) (HS'.out i hi' j hj))).mono ?_;rintro e w5 ⟨h5,cap5,β5,κ5,rfl,hcap5,ho5,e5⟩;replace eC:=eC.trans e5;go_wp2_with fail;clear hHeld;refine hK.out _ _ (by exact⟨eC.cell a0,eC.cell p0⟩) fun hHeld=>?_
 clear hK K;try simp only[nr]
 refine sP 8 (h:=?_);try simp only[nr]
 refine sP 9 (h:=?_);try simp only[nr]
 refine qg (by kernel_rfl) ?_ _;clear hHeld;go_wp2
 first|go_ret2|skip
 rw[hRf.out];exact⟨h5,cap5,β5,κ5,rfl,hcap5,ho5.wide hEz hN (q_r) (q_r),hE.trans eC⟩
def Mn.mfc (N lo m n:Nat) (X:q_m):Mn:=⟨fun v w=>∃(A:Option Addr) (cap:Nat),v=.tuple #[.slice A m cap,.int .i64 0]/\MtV N lo w.heap.size w (.slice A m cap) m n X,fun e h=>by
  obtain⟨g,cap,h0,h1⟩:=h
  exact⟨g,cap,h0,MtR.wide (h1.ext e) (q_r) e.size (q_r)⟩⟩
def Mn.mf (N lo m n:Nat) (X:q_m):Mn:=⟨fun v w=>∃(A:Option Addr) (cap:Nat),v=.slice A m cap/\MtV N lo w.heap.size w (.slice A m cap) m n X,fun e h=>by
  obtain⟨g,cap,h0,h1⟩:=h
  exact⟨g,cap,h0,MtR.wide (h1.ext e) (q_r) e.size (q_r)⟩⟩
def q4E (F:Nat->Nat->Nat->Nat->Rat) (i j:Nat) (Y:q_m) (r c:Nat):Nat->Nat->Rat:=if r=i/\c=j then Y else F r c
theorem StM.put {B0 B1:Nat}{bz oz gm gr:Nat}{z:Nat->Nat}{F:Nat->Nat->Nat->Nat->Rat}{R:q_m}(h:StM N B0 B1 w bz oz gm gr m z F R){l:List ((Int×Int)×Value)}(h2:∀r c,c<=r->r<m->MpC N B0 B1 w (z r) (z c) (F r c) (lkp l (r:Int) (c:Int))){Y:q_m}(hv:Mx N B0 B1 w v (z i) (z j) Y) (hl:MpE w' gm (put v l (i:Int) (j:Int))) (C:Chg gm (gm+1) w w') (hne:gm≠gr) :
  StM N B0 B1 w' bz oz gm gr m z (q4E F i j Y) R:=by
 obtain⟨⟨s1,s2⟩,-,⟨cs,h3,h4⟩,h5,h6,h7,h8⟩:=h;refine⟨⟨s1,fun a ha=>C.cell (s2 a ha) (by show bz<gm\/gm+1<=bz;omega)⟩,⟨_,hl,fun r c hc hr=>?_⟩,⟨cs,C.blk h3 (by omega),fun a ha=>?_⟩,h5,h6,h7,q_l h8 C.size⟩
 ·rw[XE];unfold q4E
  by_cases hrc:r=i/\c=j
  ·rw[if_pos hrc,if_pos ⟨by rw[hrc.1],by rw[hrc.2]⟩,hrc.1,hrc.2];exact Mx.chg hv C (by omega) (by omega) (by omega)
  ·rw[if_neg hrc,if_neg (by rintro⟨e1,e2⟩;exact hrc ⟨by omega,by omega⟩)];exact (h2 r c hc hr).chg C (by omega) (by omega) (by omega)
 ·obtain⟨u,h9,h10⟩:=h4 a ha;exact⟨u,h9,h10.chg C (by omega) (by omega) (by omega)⟩
def q4X (N B0 B1:Nat) (w:World) (bz oz gm gr m:Nat) (z:Nat->Nat) (F:Nat->Nat->Nat->Nat->Rat) (R:q_m) (e:Ending) (w':World):Prop :=
 e=.returned (.tuple #[])/\StM N B0 B1 w' bz oz gm gr m z F R/\Chg gm (gm+1) w w'
theorem q0q {B0 B1:Nat}{bz oz cz gm gr cr:Nat}{z:Nat->Nat}{F:Nat->Nat->Nat->Nat->Rat}{R:q_m}(h:StM N B0 B1 w bz oz gm gr m z F R) (hne:gm≠gr) (hm:m<=12) (hz:∀i,i<m->0<z i/\z i<=64)(hi:i<m) (hj:j<=i) (hF:∀a,a<z i->∀b,b<z j->Sz (F i j a b)){hi':Nat}{X:q_m}(hX:MtV N lo hi' w v (z i) (z j) X) (hXs:∀a,a<z i->∀b,b<z j->Sz (X a b)) :
  Calls Tryz.prog 126 #[stV bz oz cz gm gr cr m,.int .i64 (i:Int),.int .i64 (j:Int),v] w (q4X N B0 B1 w bz oz gm gr m z (q4E F i j (fun a b=>F i j a b-X a b)) R):=by
 obtain⟨Q,hQ⟩:=qc (q4X N B0 B1 w bz oz gm gr m z (q4E F i j (fun a b=>F i j a b-X a b)) R);rw[<-hQ.out];have HS:=q_h h;obtain⟨l,hml,hmc⟩:=h.mp;have HML:=q_h hml;have HMC:=q_h hmc;have HBW:Hid (B1<=w.heap.size):=h.bw;have HGM:Hid (B0<=gm/\gm<B1):=h.mb;have HNB:Hid (N<=B0):=h.nb;have hkr:Yo (i:Int):=⟨by omega,by omega⟩
 have hkc:Yo (j:Int):=⟨by omega,by omega⟩
 have HKR:=q_h hkr;have HKC:=q_h hkc;have HZr:=q_h (hz i hi);have HZc:=q_h (hz j (by omega));have HFS:=q_h hF;have HXS:=q_h hXs;have HX:=q_h hX;have HNE:=q_h hne;have hl0:=fun (w':World) (e:Ext w w')=>yJ (hml.ext e) hkr hkc
 have HL0:=q_h hl0;have HC0:=q_h (hmc i j hj hi);have hnl:=fun (w:World) (a:Option Addr) (n c:Nat)=>Lib.run_eql_slice_nil (P:=Tryz.prog) w 42 24 a n c 0 0 Tryz.underlying42
 obtain⟨A9,k9,rfl,-,-⟩:=hX.form;obtain⟨o,ho⟩:=qc (lkp l (i:Int) (j:Int));rw[<-ho.out] at HL0 HC0;unfold stV;clear h hml hmc hz hF hl0 hX hXs hne hkr hkc;go_enter Tryz.func126,Tryz.ntmps126;go_upto_region 1 with (fail);refine qp ?_;intro w1 e1 hsz B0';go_upto_region 2 with (fail);refine qp ?_;intro w2 e2 hsz2 B8;obtain⟨g8,hg8⟩:=qc w1.heap.size;rw[<-hg8.out] at B8 ⊢;replace B0':=e2.block B0';have hE:=e1.trans e2;obtain⟨a0,a1,a2,-⟩:=cells3 B0';obtain⟨k0,k1,-⟩:=cells2 B8;have hl:=HL0.out w2 hE;unfold kyV at hl;have HB0':=q_h B0';have HB8:=q_h B8;have hN2:N<=w2.heap.size:=by have:=HBW.out;have:=HNB.out;have:=HGM.out;have:=hE.size;omega
 clear e1 e2 hsz hsz2 hg8 B0' B8 HL0;cases o with
 | none =>
  have HM2:Hid (∀a b,a<z i->b<z j->F i j a b=0):=HC0.out;simp only[Option.getD_none] at hl;have p0:=hE.cell (HS.out.sz.2 i hi);have p1:=hE.cell (HS.out.sz.2 j (by omega));have hij:(i:Int)<(m:Int)/\(j:Int)<(m:Int):=⟨by omega,by omega⟩
  obtain⟨hi1,hj1⟩:=hij;have HBJ:Hid (∀ {w':World},Ext w2 w'->B1<=w'.heap.size):=fun e=>q_l HBW.out (q_l hE.size e.size)
  have HZ1:Hid (z i<1000/\z j<1000):=⟨by have:=HZr.out;omega,by have:=HZc.out;omega⟩
  clear HC0;go_upto_region 4 with (fail);clear hl hnl;refine jL [Mn.q w.heap.size 0,Mn.eq (.slice (some ⟨bz,oz,none⟩) m cz),Mn.i (i:Int),Mn.q bz (oz+i),Mn.i (z i:Int),Mn.q w.heap.size 0,Mn.eq (.slice (some ⟨bz,oz,none⟩) m cz),Mn.i (j:Int),Mn.q bz (oz+j),Mn.i (z j:Int),Mn.mf N B1 (z i) (z j) (fun _ _=>0),Mn.mf N B1 (z i) (z j) (fun _ _=>0)] (sM [19,20,21,22,23,24,25,26,27,28,29,9]) [] (rQ 12 0) 0 (by kernel_rfl) ?_ ?_
  ·show ∀i,i<12->_
   iterate 12 refine fs ?_ ?_
   ·exact fz
   all_goals intro hl;clear hl;refine stp rfl ?_;intro ac wi eI hB hA K hK
   have o4:=oOf (hB 4) rfl;rotate_left;obtain⟨_,s19,rfl⟩:=hA 0 19;have cc0:=eI.cell a0;rotate_left;have o1:=oOf (hB 1) rfl;rotate_left;obtain⟨_,s20,rfl⟩:=hA 1 20;obtain⟨_,s21,rfl⟩:=hA 2 21;rotate_left;obtain⟨_,s22,rfl⟩:=hA 3 22;have cc0:=eI.cell p0;rotate_left;have o4:=oOf (hB 4) rfl;rotate_left;obtain⟨_,s24,rfl⟩:=hA 5 24;have cc0:=eI.cell a0;rotate_left;have o2:=oOf (hB 2) rfl;rotate_left;obtain⟨_,s25,rfl⟩:=hA 6 25;obtain⟨_,s26,rfl⟩:=hA 7 26;rotate_left;obtain⟨_,s27,rfl⟩:=hA 8 27;have cc0:=eI.cell p1;rotate_left;obtain⟨_,s23,rfl⟩:=hA 4 23;obtain⟨_,s28,rfl⟩:=hA 9 28;clear hB hA
   ·go_simp;refine (q6q (q_l hN2 eI.size) HZ1.out.1 HZ1.out.2).mono ?_;rintro e wj ⟨Aj,cj,rfl,hj,ej⟩;go_wp2_with fail;exact hK.out _ _ ej ⟨_,_,rfl,MtR.wide hj (HBJ.out eI) (q_r) (q_r)⟩
   obtain⟨x29,s29,j29⟩:=hA 10 29;replace j29:Mn.p (Mn.mf N B1 (z i) (z j) (fun _ _=>0)) x29 wi:=j29;clear hB hA
   ·go_simp;exact q_k hK j29
   all_goals clear hB hA;go_simp;exact q_k hK rfl
  intro vals wz eZ hJ;have J9:Mn.p (Mn.mf N B1 (z i) (z j) (fun _ _=>0)) (vals 11) wz:=hJ 11 (by decide) (by decide);clear hJ;simp only[pr,Nat.reduceAdd]
  generalize vals 11=z9 at J9 ⊢
  refine qg (by kernel_rfl) ?_ _;obtain⟨A4,k4,rfl,hY0⟩:=J9;obtain⟨w4,hw4⟩:∃w4,w4=wz:=⟨_,rfl⟩
  subst hw4;have HY:=q_h (MtV.congr (Y:=F i j) hY0 (fun a ha b hb=>(HM2.out a b ha hb).symm));have E24:=eZ;clear hY0 eZ a0 a1 a2 k0 k1 p0 p1;obtain⟨a0,a1,a2,-⟩:=cells3 (E24.block HB0'.out);obtain⟨k0,k1,-⟩:=cells2 (E24.block HB8.out);have HBI:Hid (∀ {w':World},Ext w4 w'->B1<=w'.heap.size):=fun e=>q_l HBW.out (q_l (hE.trans E24).size e.size)
  go_upto_region 5 with (fail);refine q6W [Mn.q w.heap.size 1,Mn.eq (.map (some gm)),Mn.eq (.agg #[.int .i64 (i:Int),.int .i64 (j:Int)]),Mn.eq (.slice A4 (z i) k4),Mn.eq (.slice A9 (z i) k9),Mn.mfc N B1 (z i) (z j) (fun a b=>F i j a b-X a b),Mn.mfc N B1 (z i) (z j) (fun a b=>F i j a b-X a b),Mn.mf N B1 (z i) (z j) (fun a b=>F i j a b-X a b),Mn.i 0,Mn.any] [some 31,some 32,some 33,some 34,some 35,some 36,some 30,some 37,some 38,none] [9] [8] (rQ 9 1) 1 (by kernel_rfl) ?_ ?_ ?_
  ·show ∀i,i<10->_
   iterate 10 refine fs ?_ ?_
   ·exact fz
   all_goals intro hl hs;first|exact absurd hl (by decide)|exact absurd hs (by decide)|(clear hl hs;refine stp rfl ?_;intro ac wi eI hB hA K hK)
   have o4:=oOf (hB 4) rfl;rotate_left;obtain⟨_,s31,rfl⟩:=hA 0 31;have cc0:=eI.cell a1;rotate_left;have o8:=oOf (hB 8) rfl;have cc0:=eI.cell k0;have cc1:=eI.cell k1;rotate_left;have o9:=oOf (hB 9) rfl;rotate_left;have o3:=oOf (hB 3) rfl;rotate_left;obtain⟨_,s34,rfl⟩:=hA 3 34;obtain⟨_,s35,rfl⟩:=hA 4 35;clear hB hA
   ·go_simp;refine (q5M (HY.out.ext eI) (HX.out.ext ((hE.trans E24).trans eI)) HZr.out.1 HZr.out.2 HZc.out.1 HZc.out.2 HFS.out HXS.out).mono ?_;rintro e wj ⟨gj,cj,β,κ,rfl,hcap,ho,ej⟩;go_wp2_with fail;exact hK.out _ _ ej ⟨_,_,rfl,MtR.wide (ho.mtv ho.mle hcap) (HBI.out eI) (q_r) (q_r)⟩
   obtain⟨x36,s36,j36⟩:=hA 5 36;replace j36:Mn.p (Mn.mfc N B1 (z i) (z j) (fun a b=>F i j a b-X a b)) x36 wi:=j36;clear hB hA
   ·go_simp;exact q_k hK j36
   obtain⟨x30,s30,j30⟩:=hA 6 30;replace j30:Mn.p (Mn.mfc N B1 (z i) (z j) (fun a b=>F i j a b-X a b)) x30 wi:=j30;clear hB hA
   ·obtain⟨gj,cj,rfl,hj⟩:=j30;go_simp;exact q_k hK ⟨gj,cj,rfl,hj⟩
   all_goals clear hB hA;go_simp;exact q_k hK rfl
  ·intro i hs;have hi':i=8:=by simpa using hs
   clear hs
   rcases hi' with rfl
   ·refine sft rfl (fun _ _ _ _ h=>h) ?_;intro ac wi eI hB hA;obtain⟨x30,s30,j30⟩:=hA 6 30;replace j30:Mn.p (Mn.mfc N B1 (z i) (z j) (fun a b=>F i j a b-X a b)) x30 wi:=j30;clear hB hA;obtain⟨gj,cj,rfl,hj⟩:=j30;refine⟨(.int .i64 0),.inl ⟨rfl,fun w9 _=>?_⟩,rfl⟩;go_simp
  intro vals wz eZ hJ;have J32:vals 1=_:=hJ 1 (by decide) (by decide);have J33:vals 2=_:=hJ 2 (by decide) (by decide);have J37:Mn.p (Mn.mf N B1 (z i) (z j) (fun a b=>F i j a b-X a b)) (vals 7) wz:=hJ 7 (by decide) (by decide);clear hJ;simp only[pr,Nat.reduceAdd,J32,J33];clear J32 J33
  generalize vals 7=z37 at J37 ⊢
  obtain⟨gY,cY,rfl,hY⟩:=J37;have hEz:=(hE.trans E24).trans eZ;obtain⟨w9,hu,hM9,C9⟩:=yI (HML.out.ext hEz) HKR.out HKC.out (.slice gY (z i) cY);unfold kyV at hu;refine qj (i:=9) rfl (by kernel_rfl) (by kernel_rfl) (fun K hK=>?_);go_wp2_with fail;refine hK.out _ _ ?_;clear hK K;try simp only[nr]
  refine qg (by kernel_rfl) ?_ _;have HYY:=q_h hY;obtain⟨by_,oy_,hgy,-⟩:=MtV.addr HYY.out HZr.out.1;have HST:Hid (StM N B0 B1 w9 bz oz gm gr m z (q4E F i j (fun a b=>F i j a b-X a b)) R):=StM.put (HS.out.ext hEz) (fun r c hc hr=>(HMC.out r c hc hr).ext hEz) ⟨_,cY,B1,_,by rw[hgy],HYY.out,.inr (q_r)⟩ hM9 C9 HNE.out;have HCC:Hid (Chg gm (gm+1) w w9):=(hEz.chg gm (gm+1)).trans C9;clear hM9 C9 eZ hY HYY a0 a1 a2 k0 k1 hgy;go_wp2
  first|go_ret|go_end0|skip
  rw[hQ.out];exact⟨rfl,HST.out,HCC.out⟩
 | some v0 =>
  have HM2:Hid (Mx N B0 B1 w v0 (z i) (z j) (F i j)):=HC0.out;simp only[Option.getD_some] at hl;obtain⟨A4',k4,lo4,hi4,rfl,hmt⟩:=HM2.out.mtv;obtain⟨A4,hA4⟩:=qc (some A4');have HY:=q_h (hmt.ext hE);have E24:Ext w2 w2:=Ext.refl _;clear HC0 hmt;go_upto_region 5 with (fail);clear hl hnl a0 a1 a2 k0 k1;rw[<-hA4.out] at HY ⊢;obtain⟨w4,hw4⟩:∃w4,w4=w2:=⟨_,rfl⟩
  subst hw4;obtain⟨a0,a1,a2,-⟩:=cells3 (E24.block HB0'.out);obtain⟨k0,k1,-⟩:=cells2 (E24.block HB8.out);have HBI:Hid (∀ {w':World},Ext w4 w'->B1<=w'.heap.size):=fun e=>q_l HBW.out (q_l (hE.trans E24).size e.size)
  go_upto_region 5 with (fail);refine q6W [Mn.q w.heap.size 1,Mn.eq (.map (some gm)),Mn.eq (.agg #[.int .i64 (i:Int),.int .i64 (j:Int)]),Mn.eq (.slice A4 (z i) k4),Mn.eq (.slice A9 (z i) k9),Mn.mfc N B1 (z i) (z j) (fun a b=>F i j a b-X a b),Mn.mfc N B1 (z i) (z j) (fun a b=>F i j a b-X a b),Mn.mf N B1 (z i) (z j) (fun a b=>F i j a b-X a b),Mn.i 0,Mn.any] [some 31,some 32,some 33,some 34,some 35,some 36,some 30,some 37,some 38,none] [9] [8] (rQ 9 1) 1 (by kernel_rfl) ?_ ?_ ?_
  ·show ∀i,i<10->_
   iterate 10 refine fs ?_ ?_
   ·exact fz
   all_goals intro hl hs;first|exact absurd hl (by decide)|exact absurd hs (by decide)|(clear hl hs;refine stp rfl ?_;intro ac wi eI hB hA K hK)
   have o4:=oOf (hB 4) rfl;rotate_left;obtain⟨_,s31,rfl⟩:=hA 0 31;have cc0:=eI.cell a1;rotate_left;have o8:=oOf (hB 8) rfl;have cc0:=eI.cell k0;have cc1:=eI.cell k1;rotate_left;have o9:=oOf (hB 9) rfl;rotate_left;have o3:=oOf (hB 3) rfl;rotate_left;obtain⟨_,s34,rfl⟩:=hA 3 34;obtain⟨_,s35,rfl⟩:=hA 4 35;clear hB hA
   ·go_simp;refine (q5M (HY.out.ext eI) (HX.out.ext ((hE.trans E24).trans eI)) HZr.out.1 HZr.out.2 HZc.out.1 HZc.out.2 HFS.out HXS.out).mono ?_;rintro e wj ⟨gj,cj,β,κ,rfl,hcap,ho,ej⟩;go_wp2_with fail;exact hK.out _ _ ej ⟨_,_,rfl,MtR.wide (ho.mtv ho.mle hcap) (HBI.out eI) (q_r) (q_r)⟩
   obtain⟨x36,s36,j36⟩:=hA 5 36;replace j36:Mn.p (Mn.mfc N B1 (z i) (z j) (fun a b=>F i j a b-X a b)) x36 wi:=j36;clear hB hA
   ·go_simp;exact q_k hK j36
   obtain⟨x30,s30,j30⟩:=hA 6 30;replace j30:Mn.p (Mn.mfc N B1 (z i) (z j) (fun a b=>F i j a b-X a b)) x30 wi:=j30;clear hB hA
   ·obtain⟨gj,cj,rfl,hj⟩:=j30;go_simp;exact q_k hK ⟨gj,cj,rfl,hj⟩
   all_goals clear hB hA;go_simp;exact q_k hK rfl
  ·intro i hs;have hi':i=8:=by simpa using hs
   clear hs
   rcases hi' with rfl
   ·refine sft rfl (fun _ _ _ _ h=>h) ?_;intro ac wi eI hB hA;obtain⟨x30,s30,j30⟩:=hA 6 30;replace j30:Mn.p (Mn.mfc N B1 (z i) (z j) (fun a b=>F i j a b-X a b)) x30 wi:=j30;clear hB hA;obtain⟨gj,cj,rfl,hj⟩:=j30;refine⟨(.int .i64 0),.inl ⟨rfl,fun w9 _=>?_⟩,rfl⟩;go_simp
  intro vals wz eZ hJ;have J32:vals 1=_:=hJ 1 (by decide) (by decide);have J33:vals 2=_:=hJ 2 (by decide) (by decide);have J37:Mn.p (Mn.mf N B1 (z i) (z j) (fun a b=>F i j a b-X a b)) (vals 7) wz:=hJ 7 (by decide) (by decide);clear hJ;simp only[pr,Nat.reduceAdd,J32,J33];clear J32 J33
  generalize vals 7=z37 at J37 ⊢
  obtain⟨gY,cY,rfl,hY⟩:=J37;have hEz:=(hE.trans E24).trans eZ;obtain⟨w9,hu,hM9,C9⟩:=yI (HML.out.ext hEz) HKR.out HKC.out (.slice gY (z i) cY);unfold kyV at hu;refine qj (i:=9) rfl (by kernel_rfl) (by kernel_rfl) (fun K hK=>?_);go_wp2_with fail;refine hK.out _ _ ?_;clear hK K;try simp only[nr]
  refine qg (by kernel_rfl) ?_ _;have HYY:=q_h hY;obtain⟨by_,oy_,hgy,-⟩:=MtV.addr HYY.out HZr.out.1;have HST:Hid (StM N B0 B1 w9 bz oz gm gr m z (q4E F i j (fun a b=>F i j a b-X a b)) R):=StM.put (HS.out.ext hEz) (fun r c hc hr=>(HMC.out r c hc hr).ext hEz) ⟨_,cY,B1,_,by rw[hgy],HYY.out,.inr (q_r)⟩ hM9 C9 HNE.out;have HCC:Hid (Chg gm (gm+1) w w9):=(hEz.chg gm (gm+1)).trans C9;clear hM9 C9 eZ hY HYY a0 a1 a2 k0 k1 hgy;go_wp2
  first|go_ret|go_end0|skip
  rw[hQ.out];exact⟨rfl,HST.out,HCC.out⟩
end Go.Proofs.YtpkmjhmmmdkodaaGreat
