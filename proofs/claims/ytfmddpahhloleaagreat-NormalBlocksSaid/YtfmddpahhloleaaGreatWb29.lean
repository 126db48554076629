import Derived.Test.YtfmddpahhloleaaGreatWb25
import Derived.Test.YtfmddpahhloleaaGreatWb28
set_option linter.all false
set_option maxHeartbeats 8000000
set_option maxRecDepth 100000
namespace Go.Proofs.YtfmddpahhloleaaGreat
open Go.RowKit
variable {w w':World} {N n lo hi k g i m base c b j K:Nat} {v:Value}
def stL (z:Nat->Int) (k:Nat):List Value:=(List.range k).map fun i=>.int .i64 (jX z i)
theorem q1t (z:Nat->Int) (k:Nat):stL z (k+1)=stL z k ++ [.int .i64 (jX z k)]:=by unfold stL; rw [List.range_succ,List.map_append]; rfl
theorem ja (z:Nat->Int) (k:Nat):(stL z k).length=k:=by unfold stL; rw [List.length_map,List.length_range]
theorem q2h {ET:TypeId} {x:Value} (hb:base<=g) (h:w.heap[g]?=some (.cells #[x] ET (0,0))):zO ET base w (.slice (some ⟨g,0,none⟩) 1 1) [x] :=
 ⟨by have:=qG h; omega,by simp,.inr ⟨g,1,#[x],rfl,hb,h,q_r,by unfold maxLen; omega,by simp,by simp⟩⟩
def q5U (w:World) (n:Nat) (z:Nat->Int) (e:Ending) (w':World):Prop :=
 ∃ g c,e=.returned (.slice (some ⟨g,0,none⟩) (n+1) c)/\(n+1<=c/\c<=maxLen)/\w.heap.size<=g/\g < w'.heap.size/\(∀ i,i < n+1->w'.cell? ⟨g,i,none⟩=some (.int .i64 (jX z i)))/\Ext w w'
theorem q2I {Z:Sys} (h:VL N lo hi w v Z) (h1:Z.ns<=12) (hz:∀ i,i < Z.ns->sz1 (Z.z i)=true) :
  Calls Tryz.prog 58 #[v] w (q5U w Z.ns Z.z):=by
 obtain⟨R,hR⟩:=qc (q5U w Z.ns Z.z);rw [<-hR.out];obtain⟨A1,c1,A2,c2,A3,c3,rfl,s1,s2,s3,-⟩:=h.parts;have HI:=q_h s1;have HZ:=q_h hz;obtain⟨n,hn⟩:=qc Z.ns;rw [<-hn.out] at HI h1 HZ hR;obtain⟨z,hz9⟩:=qc Z.z;rw [<-hz9.out] at HI HZ hR;clear h s1 s2 s3 hz hz9;go_enter Tryz.func58,Tryz.ntmps58;go_upto_region 1 with (fail);refine qo ?_;intro w1 hE hsz B0;go_upto_region 2 with (fail);refine qo ?_;intro w2 e2 hsz2 B2;obtain⟨a0,a1,a2,-⟩:=cells3 (e2.block B0);rw [<-hn.out] at a0;replace hE:=hE.trans e2;have HG0:Hid (zO 3 w1.heap.size w2 (.slice (some ⟨w1.heap.size,0,none⟩) 1 1) (stL z 1)):=q2h (q_r) B2;have hw1:w.heap.size<=w1.heap.size:=by omega
 clear e2 B0 B2 hsz hsz2;go_wp2_with fail
 go_loopw [10,3] (fun iv ov wr=>∃ (i:Nat) (A:Option Addr) (c:Nat),i<=n/\iv=.int .i64 (i:Int)/\ov=.slice A (i+1) c/\zO 3 w1.heap.size wr ov (stL z (i+1))/\Ext w wr) (fun iv _ _=>n - (intOf iv).toNat)
 case atStart=>exact⟨0,_,_,Nat.zero_le _,rfl,rfl,HG0.out,hE⟩
 case round =>
  obtain⟨i,A,c,hi,rfl,rfl,HG1,hE1⟩:=hrel;clear HG0 hE
  by_cases hlt:i < n
  case neg =>
   have t1:decide ((i:Int) < (n:Int))=false:=q_f (by omega);obtain rfl:n=i:=by omega
   obtain⟨g,cap,hv,hb,hgs,hcm,hnc,-,hc⟩:=HG1.at_ (by rw [ja]; omega);rw [ja] at hv hnc;simp only [Value.slice.injEq] at hv;obtain⟨rfl,-,rfl⟩:=hv
   have HC:Hid (∀ i,i < n+1->wr.cell? ⟨g,i,none⟩=some (.int .i64 (jX z i))):=fun i hi=>by
    rw [hc i (by rw [ja]; exact hi)];unfold stL
    simp
   clear hc a0 a1 a2;go_wp2
   first | go_ret | skip
   rw [hR.out];exact⟨g,_,rfl,⟨hnc,hcm⟩,by omega,hgs,HC.out,hE1⟩
  have t1:decide ((i:Int) < (n:Int))=true:=q_t (by omega);have t2:(i:Int) < (n:Int):=by omega
  have t3:(i:Int) < (i:Int)+1:=by omega
  obtain⟨g,cap,hv,hb,hgs,hcm,hnc,-,hc⟩:=HG1.at_ (by rw [ja]; omega);rw [ja] at hv hnc;simp only [Value.slice.injEq] at hv;obtain⟨rfl,-,rfl⟩:=hv
  have p0:wr.cell? ⟨g,i,none⟩=some (.int .i64 (jX z i)):=by
   rw [hc i (by rw [ja]; omega)];unfold stL
   simp
  obtain⟨b,off,rfl,hx⟩:=(HI.out.ext hE1).addr (by omega);have q0:=hx i hlt;have hb9:=Ya i (fun j hj=>HZ.out j (by omega));have hu:=xZ.1 (HZ.out i hlt);obtain⟨u,hU⟩:=qc (z i);obtain⟨T,hT⟩:=qc (jX z i);rw [<-hU.out] at q0 hu;rw [<-hT.out] at hb9 p0;have HN:Hid (T+u=jX z (i+1)):=by rw [Hid,hT.out,hU.out]; rfl
  have HG:=q_h HG1;have hxl:(stL z (i+1)).length+1<=1000000000:=by rw [ja]; omega
  clear hx hc HG1 a0 a1 a2;go_wp2_with (at_builtin; refine q_o ?_);refine qo ?_;intro w6 e6 hsz6 B6;refine jo WZ rfl _ _ 27 Tryz.underlying27 rfl (by first | rfl | (rw [ja])) (HG.out.ext e6) (m:=1) (c:=1) (news:=[.int .i64 (T+u)]) (by rfl) rfl (WY B6) (fun x hx=>by rw [List.mem_singleton.1 hx]; rfl) (by omega) hxl ?_;rintro g14 cap14 w14 hG14 hat14 ⟨g9,hlo,hw9,C9,-⟩;rw [HN.out,<-q1t] at hG14;rw [ja] at hG14 ⊢;have hE14:=C9.ext (hE1.trans e6) (by omega);have HG14:=q_h hG14;clear hG14 C9 B6 e6 hat14 hw9 hlo HG hxl p0 q0;go_wp2;go_roundw
  case rel=>exact⟨i+1,_,_,by omega,by go_num,rfl,HG14.out,hE14⟩
  case measure=>simp [intOf]; omega
theorem q3c:24≠179:=by decide
theorem q08 {r:Nat} {f:Nat->Value} {X:Nat->Nat->Rat} (hN:N<=w.heap.size) (hF:FlB 24 w g r f) (hl:lo<=g) (hg:g < hi) (hh:hi<=w.heap.size) (hr:r < 1000000) (h:∀ a,a < r->LsV N lo hi w (f a) c (X a)):MtV N lo hi w (.slice (some ⟨g,0,none⟩) r r) r c X :=
 ⟨hN,hh,some ⟨g,0,none⟩,r,rfl,q_r,by unfold maxLen; omega,fun _=>⟨g,0,rfl,hl,hg,fun i hi=>⟨f i,by rw [Nat.zero_add]; exact (hF.cell hi).1,h i hi⟩⟩⟩
theorem q4B (hN:N<=w.heap.size) {r:Nat} (hr:r < 1000) (hc:c < 1000) :
  Calls Tryz.prog 167 #[.int .i64 (r:Int),.int .i64 (c:Int)] w (q1g N w r c (fun _ _=>0)):=by
 obtain⟨R,hR⟩:=qc (q1g N w r c (fun _ _=>0));rw [<-hR.out];go_enter Tryz.func167,Tryz.ntmps167;go_wp2_with (at_make; refine q_o ?_);refine kZ Yk rfl rfl _ _ 23 Tryz.underlying23 rfl .i64 .i64 _ _ r rfl rfl rfl rfl (by omega) ?_;intro w1 cs B1 hcs hz e1;obtain⟨g,hg⟩:=qc w.heap.size;have hg1:w.heap.size<=g:=by rw [hg.out]; exact q_r
 rw [<-hg.out] at B1 ⊢;have hg2:g < w1.heap.size:=qG B1;have HF:Hid (FlB 24 w1 g r (fun _=>.slice none 0 0)):=⟨cs,B1,hcs,hz⟩
 clear B1 hcs hz hg;go_wp2_with fail
 go_loopw [11] (fun iv wr=>∃ (i:Nat) (f:Nat->Value),i<=r/\iv=.int .i64 (i:Int)/\Hid (FlB 24 wr g r f)/\Hid (∀ a,a < i->LsV N (g+1) wr.heap.size wr (f a) c (fun _=>0))/\Hid (∀ a,i<=a->f a=.slice none 0 0)/\g < wr.heap.size/\Ext w wr) (fun iv _=>r - (intOf iv).toNat)
 case atStart=>exact⟨0,_,Nat.zero_le _,rfl,HF,fun a ha=>absurd ha (Nat.not_lt_zero a),fun _ _=>rfl,hg2,e1⟩
 case round =>
  clear HF e1 hg2;obtain⟨i,f,hi,rfl,HF,HL,HZ,hg2,hE⟩:=hrel
  by_cases hlt:i < r
  case neg =>
   have t1:decide ((i:Int) < (r:Int))=false:=q_f (by omega);obtain rfl:r=i:=by omega
   go_wp2
   first | go_ret | skip
   rw [hR.out];exact⟨_,_,rfl,q08 (by have:=hE.size; omega) HF.out hg1 hg2 (q_r) (by omega) (fun a ha=>(LsR.wide (HL.out a ha) (by omega) (q_r) (q_r))),hE⟩
  have t1:decide ((i:Int) < (r:Int))=true:=q_t (by omega);have t2:(i:Int) < (r:Int):=by omega
  obtain⟨wq,hwq⟩:∃ wq,wq=wr:=⟨_,rfl⟩
  subst hwq;have HI:Hid (Grow N wq.heap.size wq (.slice none 0 0) 0 (fun _=>0)):=Grow.nil (by have:=hE.size; omega) (q_r) _
  have HF0:Hid (FlB 24 wq g r (fun a=>if a=i then .slice none 0 0 else f a)):=by
   obtain⟨cs,h1,h2,h3⟩:=HF.out;refine⟨cs,h1,h2,fun a ha=>?_⟩;rw [h3 a ha]
   show some (f a)=some (if a=i then .slice none 0 0 else f a)
   by_cases hai:a=i
   ·rw [if_pos hai,HZ.out a (by omega)]
   ·rw [if_neg hai]
  go_wp2_with fail
  go_loopw [15] (fun jv wr=>∃ (j:Nat) (A:Option Addr) (k:Nat),j<=c/\jv=.int .i64 (j:Int)/\Hid (FlB 24 wr g r (fun a=>if a=i then .slice A j k else f a))/\Hid (∀ a,a < i->LsV N (g+1) wq.heap.size wr (f a) c (fun _=>0))/\Hid (Grow N wq.heap.size wr (.slice A j k) j (fun _=>0))/\Hid (Ext w wr)/\wq.heap.size<=wr.heap.size) (fun jv _=>c - (intOf jv).toNat)
  case atStart=>exact⟨0,_,_,Nat.zero_le _,rfl,HF0,HL,HI,hE,q_r⟩
  case round =>
   clear HF0 HI;obtain⟨j,A,k,hj,rfl,HF1,HL1,HG1,HC1,hs1⟩:=hrel
   by_cases hlt2:j < c
   case neg =>
    have t3:decide ((j:Int) < (c:Int))=false:=q_f (by omega);obtain rfl:c=j:=by omega
    have HL2:Hid (∀ a,a < i+1->LsV N (g+1) wr.heap.size wr (if a=i then .slice A c k else f a) c (fun _=>0)):=fun a ha=>by
     by_cases hai:a=i
     ·rw [if_pos hai];exact HG1.out.lsv (by omega) rfl
     ·rw [if_neg hai];exact LsR.wide (HL1.out a (by omega)) (q_r) hs1 (q_r)
    have HZ2:Hid (∀ a,i+1<=a->(if a=i then Value.slice A c k else f a)=.slice none 0 0):=fun a ha=>by
     rw [if_neg (by omega)];exact HZ.out a (by omega)
    have hE2:=HC1.out;go_wp2;go_roundw
    case rel=>exact⟨i+1,_,by omega,by go_num,HF1,HL2,HZ2,by omega,hE2⟩
    case measure=>simp [intOf]; omega
   have t3:decide ((j:Int) < (c:Int))=true:=q_t (by omega);have t4:(j:Int) < (c:Int):=by omega
   have p0:=(HF1.out.cell hlt).1;rw [if_pos rfl] at p0;have hNr:N<=wr.heap.size:=by have:=hE.size; omega
   obtain⟨wx,hwx⟩:∃ wx,wx=wr:=⟨_,rfl⟩
   subst hwx;have HGA:=HG1;go_upto_region 7 with (fail);refine regS [Mn.eq (.slice (some ⟨g,0,none⟩) r r),Mn.i (i:Int),Mn.eq (.slice (some ⟨g,0,none⟩) r r),Mn.i (i:Int),Mn.q g i,Mn.eq (.slice A j k),Mn.rat N (0:Rat),Mn.rbk N (0:Rat),Mn.any,Mn.any,Mn.any] [some 17,some 18,some 19,some 20,some 21,some 22,some 23,some 24,some 25,some 26,none] [8,9,10] [0,1] (rQ 8 3) 3 (by kernel_rfl) ?_ ?_ ?_
   ·show ∀ i,i < 11->_
    iterate 11 refine fs ?_ ?_
    ·exact fz
    all_goals intro hl hs; first | exact absurd hl (by decide) | exact absurd hs (by decide) | (clear hl hs; refine stp rfl ?_; intro ac wi eI hB hA K hK)
    have o5:=oOf (hB 5) rfl
    rotate_left
    have o6:=oOf (hB 6) rfl
    rotate_left
    obtain⟨_,s19,rfl⟩:=hA 2 19;obtain⟨_,s20,rfl⟩:=hA 3 20
    rotate_left
    obtain⟨_,s21,rfl⟩:=hA 4 21;have cc0:=eI.cell p0
    rotate_left
    clear hB hA
    ·go_simp;refine (f_whole (q_l hNr eI.size) 0 (by decide) (by decide)).mono ?_;rintro e wj ⟨vj,rfl,hj,ej⟩;go_wp2_with fail;exact hK.out _ _ ej hj
    obtain⟨x23,s23,j23⟩:=hA 6 23;replace j23:Mn.p (Mn.rat N (0:Rat)) x23 wi:=j23;clear hB hA
    ·obtain⟨bj,Aj,kj,cj,Aj',kj',cj',rfl,hbj,gj1,gj2⟩:=qY.parts j23;go_simp;refine qo ?_;intro wj ej hszj BJ;exact hK.out _ _ ej ⟨_,rfl,kW.mk BJ hbj (gj1.ext ej) (gj2.ext ej)⟩
    all_goals clear hB hA; go_simp; exact q_k hK rfl
   ·intro i hs;have hi':i=0\/i=1:=by simpa using hs
    clear hs
    rcases hi' with rfl | rfl
    ·refine sft rfl (fun _ _ _ _ h=>h) ?_;intro ac wi eI hB hA;have o5:=oOf (hB 5) rfl;clear hB hA;refine⟨(.slice (some ⟨g,0,none⟩) r r),.inl ⟨rfl,fun w9 _=>?_⟩,rfl⟩;go_simp
    ·refine sft rfl (fun _ _ _ _ h=>h) ?_;intro ac wi eI hB hA;have o6:=oOf (hB 6) rfl;clear hB hA;refine⟨(.int .i64 (i:Int)),.inl ⟨rfl,fun w9 _=>?_⟩,rfl⟩;go_simp
   intro vals wz eZ hJ;have J17:vals 0=_:=hJ 0 (by decide) (by decide);have J18:vals 1=_:=hJ 1 (by decide) (by decide);have J22:vals 5=_:=hJ 5 (by decide) (by decide);have J24:Mn.p (Mn.rbk N (0:Rat)) (vals 7) wz:=hJ 7 (by decide) (by decide);clear hJ;simp only [pr,Nat.reduceAdd,J17,J18,J22];clear J17 J18 J22
   generalize vals 7=z24 at J24 ⊢
   obtain⟨gb,rfl,bj,Aj,kj,cj,Aj',kj',cj',BX,hbj,gj1,gj2⟩:=J24;have hGz:=HG1.out.ext eZ;refine ql (i:=8) rfl (by kernel_rfl) (by kernel_rfl) (fun K hK=>?_);refine xq rfl _ _ 24 Tryz.underlying24 rfl (by rfl) hGz (by rfl) BX hbj gj1 gj2 (by omega) ?_;rintro gq cq w17 g' hG8 hb9 c17 u1' u2';obtain⟨q0,q1⟩:=((HF1.out.ext eZ).chg c17 (.inl (by omega))).cell hlt;refine hK.out _ _ ?_;clear hK K;try simp only [nr]
   refine ql (i:=9) rfl (by kernel_rfl) (by kernel_rfl) (fun K hK=>?_);go_simp;refine hK.out _ _ ?_;clear hK K;try simp only [nr]
   refine ql (i:=10) rfl (by kernel_rfl) (by kernel_rfl) (fun K hK=>?_);go_simp;refine hK.out _ _ ?_;clear hK K;try simp only [nr]
   refine qh (by kernel_rfl) ?_ _;have F17:=(HF1.out.ext eZ).chg c17 (.inl (by omega));obtain⟨w18,E18,F18,C18,hs18⟩:=F17.set q3c hlt (.slice (some ⟨gq,0,none⟩) (j+1) cq);rw [E18]
   have HF8:Hid (FlB 24 w18 g r (fun a=>if a=i then .slice (some ⟨gq,0,none⟩) (j+1) cq else f a)):=by
    obtain⟨cs,h1,h2,h3⟩:=F18;refine⟨cs,h1,h2,fun a ha=>?_⟩;rw [h3 a ha]
    show some (if a=i then _ else (if a=i then Value.slice A j k else f a))=some (if a=i then _ else f a)
    by_cases hai:a=i
    ·rw [if_pos hai,if_pos hai]
    ·rw [if_neg hai,if_neg hai,if_neg hai]
   have hNg:N<=g:=by omega
   have hNg':N<=g':=by omega
   have HL8:Hid (∀ a,a < i->LsV N (g+1) wq.heap.size w18 (f a) c (fun _=>0)):=fun a ha=>LsR.chg (LsR.chg ((HL1.out a ha).ext eZ) c17 hNg' (.inl hb9)) C18 hNg (.inr (q_r))
   have HG8:Hid (Grow N wq.heap.size w18 (.slice (some ⟨gq,0,none⟩) (j+1) cq) (j+1) (fun _=>0)):=(hG8.congr (y:=fun _=>0) (fun a _=>by unfold upd; split <;> rfl)).chg C18 hNg (by omega);have hE8:Hid (Ext w w18):=C18.ext (c17.ext (HC1.out.trans eZ) (by have:=hE.size; omega)) hg1;have hs8:wq.heap.size<=w18.heap.size:=by have:=eZ.size; have:=c17.size; omega
   clear E18 F18 C18 F17 hG8 c17 hGz BX hbj gj1 gj2 eZ p0 q0 q1 HGA HG1 HL1 HF1 HC1;go_wp2;go_roundw
   case rel=>exact⟨j+1,_,_,by omega,by go_num,HF8,HL8,HG8,hE8,hs8⟩
   case measure=>simp [intOf]; omega
def Mx (N B0 B1:Nat) (w:World) (v:Value) (m n:Nat) (X:Nat->Nat->Rat):Prop :=
 ∃ (A:Addr) (k lo hi:Nat),v=.slice (some A) m k/\MtV N lo hi w v m n X/\(hi<=B0\/B1<=lo)
theorem Mx.ext {B0 B1:Nat} {X:Nat->Nat->Rat} (h:Mx N B0 B1 w v m n X) (e:Ext w w'):Mx N B0 B1 w' v m n X:=by
 obtain⟨A,k,lo,hi,hv,h1,h2⟩:=h;exact⟨A,k,lo,hi,hv,h1.ext e,h2⟩
theorem Mx.chg {B0 B1 l u:Nat} {X:Nat->Nat->Rat} (h:Mx N B0 B1 w v m n X) (c:Chg l u w w') (hN:N<=l) (hl:B0<=l) (hu:u<=B1):Mx N B0 B1 w' v m n X:=by
 obtain⟨A,k,lo,hi,hv,h1,h2⟩:=h;exact⟨A,k,lo,hi,hv,MtR.chg h1 c hN (by omega),h2⟩
theorem Mx.mtv {B0 B1:Nat} {X:Nat->Nat->Rat} (h:Mx N B0 B1 w v m n X):∃ (A:Addr) (k lo hi:Nat),v=.slice (some A) m k/\MtV N lo hi w v m n X:=by
 obtain⟨A,k,lo,hi,hv,h1,-⟩:=h;exact⟨A,k,lo,hi,hv,h1⟩
def MpC (N B0 B1:Nat) (w:World) (m n:Nat) (X:Nat->Nat->Rat):Option Value->Prop
 | none=>∀ a b,a < m->b < n->X a b=0
 | some v=>Mx N B0 B1 w v m n X
theorem MpC.ext {B0 B1:Nat} {X:Nat->Nat->Rat} {o:Option Value} (h:MpC N B0 B1 w m n X o) (e:Ext w w'):MpC N B0 B1 w' m n X o:=by
 cases o with
 | none=>exact h
 | some v=>exact Mx.ext h e
theorem MpC.chg {B0 B1 l u:Nat} {X:Nat->Nat->Rat} {o:Option Value} (h:MpC N B0 B1 w m n X o) (c:Chg l u w w') (hN:N<=l) (hl:B0<=l) (hu:u<=B1):MpC N B0 B1 w' m n X o:=by
 cases o with
 | none=>exact h
 | some v=>exact Mx.chg h c hN hl hu
def Lx (N B0 B1:Nat) (w:World) (v:Value) (n:Nat) (x:Nat->Rat):Prop :=
 ∃ (A:Option Addr) (c lo hi:Nat),v=.slice A n c/\LsV N lo hi w v n x/\(hi<=B0\/B1<=lo)
theorem Lx.ext {B0 B1:Nat} {x:Nat->Rat} (h:Lx N B0 B1 w v n x) (e:Ext w w'):Lx N B0 B1 w' v n x:=by
 obtain⟨A,k,lo,hi,hv,h1,h2⟩:=h;exact⟨A,k,lo,hi,hv,h1.ext e,h2⟩
theorem Lx.chg {B0 B1 l u:Nat} {x:Nat->Rat} (h:Lx N B0 B1 w v n x) (c:Chg l u w w') (hN:N<=l) (hl:B0<=l) (hu:u<=B1):Lx N B0 B1 w' v n x:=by
 obtain⟨A,k,lo,hi,hv,h1,h2⟩:=h;exact⟨A,k,lo,hi,hv,LsR.chg h1 c hN (by omega),h2⟩
structure StM (N B0 B1:Nat) (w:World) (bz oz gm gr m:Nat) (z:Nat->Nat) (F:Nat->Nat->Nat->Nat->Rat) (R:Nat->Nat->Rat):Prop where
 sz:bz < B0/\∀ i,i < m->w.cell? ⟨bz,oz+i,none⟩=some (.int .i64 ((z i:Nat):Int))
 mp:∃ l,MpE w gm l/\∀ r c,c<=r->r < m->MpC N B0 B1 w (z r) (z c) (F r c) (lkp l (r:Int) (c:Int))
 rt:∃ cs,w.heap[gr]?=some (.cells cs 24 (0,0))/\∀ i,i < m->∃ v,cs[i]?=some v/\Lx N B0 B1 w v (z i) (R i)
 mb:B0<=gm/\gm < B1
 rb:B0<=gr/\gr < B1
 nb:N<=B0
 bw:B1<=w.heap.size
theorem StM.ext {B0 B1:Nat} {bz oz gm gr:Nat} {z:Nat->Nat} {F:Nat->Nat->Nat->Nat->Rat} {R:Nat->Nat->Rat} (h:StM N B0 B1 w bz oz gm gr m z F R) (e:Ext w w'):StM N B0 B1 w' bz oz gm gr m z F R:=by
 obtain⟨⟨s1,s2⟩,⟨l,h1,h2⟩,⟨cs,h3,h4⟩,h5,h6,h7,h8⟩:=h;refine⟨⟨s1,fun i hi=>e.cell (s2 i hi)⟩,⟨l,h1.ext e,fun r c hc hr=>(h2 r c hc hr).ext e⟩,⟨cs,e.block h3,fun i hi=>?_⟩,h5,h6,h7,q_l h8 e.size⟩;obtain⟨v,h9,h10⟩:=h4 i hi;exact⟨v,h9,h10.ext e⟩
def stV (bz oz cz gm gr cr m:Nat):Value:=.agg #[.slice (some ⟨bz,oz,none⟩) m cz,.map (some gm),.slice (some ⟨gr,0,none⟩) m cr]
def Fsy (F:Nat->Nat->Nat->Nat->Rat) (r c a b:Nat):Rat:=if c<=r then F r c a b else F c r b a
def q60 (N B0 B1:Nat) (w:World) (m n:Nat) (X:Nat->Nat->Rat) (e:Ending) (w':World):Prop :=
 ∃ v,e=.returned v/\Ext w w'/\((v=.slice none 0 0/\∀ a b,a < m->b < n->X a b=0)\/Mx N B0 B1 w' v m n X)
theorem X6 {B0 B1:Nat} {bz oz cz gm gr cr:Nat} {z:Nat->Nat} {F:Nat->Nat->Nat->Nat->Rat} {R:Nat->Nat->Rat} (h:StM N B0 B1 w bz oz gm gr m z F R) (hm:m<=12) (hz:∀ i,i < m->0 < z i/\z i<=64) (hF:∀ r c,c<=r->r < m->HtM (z r) (z c) K (F r c)) (hK:K<=29000000000) {r:Nat} (hr:r < m) (hc:c < m) :
  Calls Tryz.prog 60 #[stV bz oz cz gm gr cr m,.int .i64 (r:Int),.int .i64 (c:Int)] w (q60 N B0 B1 w (z r) (z c) (Fsy F r c)):=by
 obtain⟨Q,hQ⟩:=qc (q60 N B0 B1 w (z r) (z c) (Fsy F r c));rw [<-hQ.out];have HS:=q_h h;obtain⟨l,hml,hmc⟩:=h.mp;have HBW:Hid (B1<=w.heap.size):=h.bw;have HNB:Hid (N<=B0/\B0<=B1):=⟨h.nb,by have:=h.mb; omega⟩
 have hkr:Jg (r:Int):=⟨by omega,by omega⟩
 have hkc:Jg (c:Int):=⟨by omega,by omega⟩
 have HZr:=q_h (hz r hr);have HZc:=q_h (hz c hc);have hnl:=fun (w:World) (a:Option Addr) (n c:Nat)=>Lib.run_eql_slice_nil (P:=Tryz.prog) w 23 24 a n c 0 0 Tryz.underlying23
 unfold stV
 by_cases hcr:c<=r
 ·have hl0:=fun (w':World) (e:Ext w w')=>yw (hml.ext e) hkr hkc
  have HL0:=q_h hl0;have HMC:=q_h (hmc r c hcr hr);have HFS:Hid (Fsy F r c=F r c):=by funext a b; unfold Fsy; rw [if_pos hcr]
  have t1:decide ((c:Int)<=(r:Int))=true:=q_t (by omega);obtain⟨o,ho⟩:=qc (lkp l (r:Int) (c:Int));rw [<-ho.out] at HL0 HMC;clear h hml hmc hz hF hl0 hnl;go_enter Tryz.func60,Tryz.ntmps60;go_upto_region 1 with (fail);refine qo ?_;intro w1 hE hsz B0';obtain⟨a0,a1,a2,-⟩:=cells3 B0';have hl:=HL0.out w1 hE;unfold kyV at hl;cases o with
  | none =>
   have HM2:Hid (∀ a b,a < z r->b < z c->F r c a b=0):=HMC.out;simp only [Option.getD_none] at hl;clear HL0 HMC;go_wp2
   first | go_ret | skip
   rw [hQ.out];exact⟨_,rfl,hE,.inl ⟨rfl,by rw [HFS.out]; exact HM2.out⟩⟩
  | some v =>
   have HM2:Hid (Mx N B0 B1 w v (z r) (z c) (F r c)):=HMC.out;simp only [Option.getD_some] at hl;clear HL0 HMC;go_wp2
   first | go_ret | skip
   rw [hQ.out];exact⟨_,rfl,hE,.inr (by rw [HFS.out]; exact HM2.out.ext hE)⟩
 ·have hl0:=fun (w':World) (e:Ext w w')=>yw (hml.ext e) hkc hkr
  have HL0:=q_h hl0;have HMC:=q_h (hmc c r (by omega) hc);have HFS:Hid (Fsy F r c=fun a b=>F c r b a):=by funext a b; unfold Fsy; rw [if_neg hcr]
  have HHT:Hid (∀ i,i < z c->∀ j,j < z r->Sz (F c r i j)):=fun i hi j hj=>(hF c r (by omega) hc i hi j hj).sz hK
  have t1:decide ((c:Int)<=(r:Int))=false:=q_f (by omega);obtain⟨o,ho⟩:=qc (lkp l (c:Int) (r:Int));rw [<-ho.out] at HL0 HMC;clear h hml hmc hz hF hl0;go_enter Tryz.func60,Tryz.ntmps60;go_upto_region 1 with (fail);refine qo ?_;intro w1 hE hsz B0';obtain⟨a0,a1,a2,-⟩:=cells3 B0';have hl:=HL0.out w1 hE;unfold kyV at hl;cases o with
  | none =>
   have HM2:Hid (∀ a b,a < z c->b < z r->F c r a b=0):=HMC.out;simp only [Option.getD_none] at hl;clear HL0 HMC;go_wp2
   first | go_ret | skip
   rw [hQ.out];exact⟨_,rfl,hE,.inl ⟨rfl,by rw [HFS.out]; exact fun a b ha hb=>HM2.out b a hb ha⟩⟩
  | some v =>
   have HM2:Hid (Mx N B0 B1 w v (z c) (z r) (F c r)):=HMC.out;simp only [Option.getD_some] at hl;obtain⟨A,k,lo,hi,rfl,hmt⟩:=HM2.out.mtv;have HMT:=q_h (hmt.ext hE);clear HL0 HMC hmt;go_wp2_with (go_at_call 101; refine q_o ?_);refine (JD HMT.out HZc.out.1 HZc.out.2 HZr.out.1 HZr.out.2 HHT.out).mono ?_;rintro e w2 ⟨g,cap,β,κ,rfl,hcap,ho2,e2⟩;have HO2:=q_h ho2;clear ho2;go_wp2
   first | go_ret | skip
   rw [hQ.out];refine⟨_,rfl,hE.trans e2,.inr ⟨_,_,_,_,rfl,by rw [HFS.out]; exact HO2.out.mtv HO2.out.mle hcap,.inr ?_⟩⟩;have:=HBW.out;have:=hE.size;omega
def Mn.mfc (N lo m n:Nat) (X:Nat->Nat->Rat):Mn:=⟨fun v w=>∃ (A:Option Addr) (cap:Nat),v=.tuple #[.slice A m cap,.int .i64 0]/\MtV N lo w.heap.size w (.slice A m cap) m n X,fun e h=>by
  obtain⟨g,cap,h0,h1⟩:=h
  exact⟨g,cap,h0,MtR.wide (h1.ext e) (q_r) e.size (q_r)⟩⟩
def Mn.mf (N lo m n:Nat) (X:Nat->Nat->Rat):Mn:=⟨fun v w=>∃ (A:Option Addr) (cap:Nat),v=.slice A m cap/\MtV N lo w.heap.size w (.slice A m cap) m n X,fun e h=>by
  obtain⟨g,cap,h0,h1⟩:=h
  exact⟨g,cap,h0,MtR.wide (h1.ext e) (q_r) e.size (q_r)⟩⟩
def q2X (F:Nat->Nat->Nat->Nat->Rat) (i j:Nat) (Y:Nat->Nat->Rat) (r c:Nat):Nat->Nat->Rat:=if r=i/\c=j then Y else F r c
theorem StM.put {B0 B1:Nat} {bz oz gm gr:Nat} {z:Nat->Nat} {F:Nat->Nat->Nat->Nat->Rat} {R:Nat->Nat->Rat} (h:StM N B0 B1 w bz oz gm gr m z F R) {l:List ((Int×Int)×Value)} (h2:∀ r c,c<=r->r < m->MpC N B0 B1 w (z r) (z c) (F r c) (lkp l (r:Int) (c:Int))) {Y:Nat->Nat->Rat} (hv:Mx N B0 B1 w v (z i) (z j) Y) (hl:MpE w' gm (put v l (i:Int) (j:Int))) (C:Chg gm (gm+1) w w') (hne:gm≠gr) :
  StM N B0 B1 w' bz oz gm gr m z (q2X F i j Y) R:=by
 obtain⟨⟨s1,s2⟩,-,⟨cs,h3,h4⟩,h5,h6,h7,h8⟩:=h;refine⟨⟨s1,fun a ha=>C.cell (s2 a ha) (by show bz < gm\/gm+1<=bz; omega)⟩,⟨_,hl,fun r c hc hr=>?_⟩,⟨cs,C.blk h3 (by omega),fun a ha=>?_⟩,h5,h6,h7,q_l h8 C.size⟩
 ·rw [KC];unfold q2X
  by_cases hrc:r=i/\c=j
  ·rw [if_pos hrc,if_pos ⟨by rw [hrc.1],by rw [hrc.2]⟩,hrc.1,hrc.2];exact Mx.chg hv C (by omega) (by omega) (by omega)
  ·rw [if_neg hrc,if_neg (by rintro⟨e1,e2⟩; exact hrc ⟨by omega,by omega⟩)];exact (h2 r c hc hr).chg C (by omega) (by omega) (by omega)
 ·obtain⟨u,h9,h10⟩:=h4 a ha;exact⟨u,h9,h10.chg C (by omega) (by omega) (by omega)⟩
def q3o (N B0 B1:Nat) (w:World) (bz oz gm gr m:Nat) (z:Nat->Nat) (F:Nat->Nat->Nat->Nat->Rat) (R:Nat->Nat->Rat) (e:Ending) (w':World):Prop :=
 e=.returned (.tuple #[])/\StM N B0 B1 w' bz oz gm gr m z F R/\Chg gm (gm+1) w w'
theorem VJ {B0 B1:Nat} {bz oz cz gm gr cr:Nat} {z:Nat->Nat} {F:Nat->Nat->Nat->Nat->Rat} {R:Nat->Nat->Rat} (h:StM N B0 B1 w bz oz gm gr m z F R) (hne:gm≠gr) (hm:m<=12) (hz:∀ i,i < m->0 < z i/\z i<=64) (hi:i < m) (hj:j<=i) (hF:∀ a,a < z i->∀ b,b < z j->Sz (F i j a b)) {hi':Nat} {X:Nat->Nat->Rat} (hX:MtV N lo hi' w v (z i) (z j) X) (hXs:∀ a,a < z i->∀ b,b < z j->Sz (X a b)) :
  Calls Tryz.prog 130 #[stV bz oz cz gm gr cr m,.int .i64 (i:Int),.int .i64 (j:Int),v] w (q3o N B0 B1 w bz oz gm gr m z (q2X F i j (fun a b=>F i j a b - X a b)) R):=by
 obtain⟨Q,hQ⟩:=qc (q3o N B0 B1 w bz oz gm gr m z (q2X F i j (fun a b=>F i j a b - X a b)) R);rw [<-hQ.out];have HS:=q_h h;obtain⟨l,hml,hmc⟩:=h.mp;have HML:=q_h hml;have HMC:=q_h hmc;have HBW:Hid (B1<=w.heap.size):=h.bw;have HGM:Hid (B0<=gm/\gm < B1):=h.mb;have HNB:Hid (N<=B0):=h.nb;have hkr:Jg (i:Int):=⟨by omega,by omega⟩
 have hkc:Jg (j:Int):=⟨by omega,by omega⟩
 have HKR:=q_h hkr;have HKC:=q_h hkc;have HZr:=q_h (hz i hi);have HZc:=q_h (hz j (by omega));have HFS:=q_h hF;have HXS:=q_h hXs;have HX:=q_h hX;have HNE:=q_h hne;have hl0:=fun (w':World) (e:Ext w w')=>yw (hml.ext e) hkr hkc
 have HL0:=q_h hl0;have HC0:=q_h (hmc i j hj hi);have hnl:=fun (w:World) (a:Option Addr) (n c:Nat)=>Lib.run_eql_slice_nil (P:=Tryz.prog) w 23 24 a n c 0 0 Tryz.underlying23
 obtain⟨A9,k9,rfl,-,-⟩:=hX.form;obtain⟨o,ho⟩:=qc (lkp l (i:Int) (j:Int));rw [<-ho.out] at HL0 HC0;unfold stV;clear h hml hmc hz hF hl0 hX hXs hne hkr hkc;go_enter Tryz.func130,Tryz.ntmps130;go_upto_region 1 with (fail);refine qo ?_;intro w1 e1 hsz B0';go_upto_region 2 with (fail);refine qo ?_;intro w2 e2 hsz2 B8;obtain⟨g8,hg8⟩:=qc w1.heap.size;rw [<-hg8.out] at B8 ⊢;replace B0':=e2.block B0';have hE:=e1.trans e2;obtain⟨a0,a1,a2,-⟩:=cells3 B0';obtain⟨k0,k1,-⟩:=cells2 B8;have hl:=HL0.out w2 hE;unfold kyV at hl;have HB0':=q_h B0';have HB8:=q_h B8;have hN2:N<=w2.heap.size:=by have:=HBW.out; have:=HNB.out; have:=HGM.out; have:=hE.size; omega
 clear e1 e2 hsz hsz2 hg8 B0' B8 HL0;cases o with
 | none =>
  have HM2:Hid (∀ a b,a < z i->b < z j->F i j a b=0):=HC0.out;simp only [Option.getD_none] at hl;have p0:=hE.cell (HS.out.sz.2 i hi);have p1:=hE.cell (HS.out.sz.2 j (by omega));have hij:(i:Int) < (m:Int)/\(j:Int) < (m:Int):=⟨by omega,by omega⟩
  obtain⟨hi1,hj1⟩:=hij;have HBJ:Hid (∀ {w':World},Ext w2 w'->B1<=w'.heap.size):=fun e=>q_l HBW.out (q_l hE.size e.size)
  have HZ1:Hid (z i < 1000/\z j < 1000):=⟨by have:=HZr.out; omega,by have:=HZc.out; omega⟩
  clear HC0;go_upto_region 4 with (fail);clear hl hnl;refine Je [Mn.q w.heap.size 0,Mn.eq (.slice (some ⟨bz,oz,none⟩) m cz),Mn.i (i:Int),Mn.q bz (oz+i),Mn.i (z i:Int),Mn.q w.heap.size 0,Mn.eq (.slice (some ⟨bz,oz,none⟩) m cz),Mn.i (j:Int),Mn.q bz (oz+j),Mn.i (z j:Int),Mn.mf N B1 (z i) (z j) (fun _ _=>0),Mn.mf N B1 (z i) (z j) (fun _ _=>0)] (sM [19,20,21,22,23,24,25,26,27,28,29,9]) [] (rQ 12 0) 0 (by kernel_rfl) ?_ ?_
  ·show ∀ i,i < 12->_
   iterate 12 refine fs ?_ ?_
   ·exact fz
   all_goals intro hl; clear hl; refine stp rfl ?_; intro ac wi eI hB hA K hK
   have o4:=oOf (hB 4) rfl
   rotate_left
   obtain⟨_,s19,rfl⟩:=hA 0 19;have cc0:=eI.cell a0
   rotate_left
   have o1:=oOf (hB 1) rfl
   rotate_left
   obtain⟨_,s20,rfl⟩:=hA 1 20;obtain⟨_,s21,rfl⟩:=hA 2 21
   rotate_left
   obtain⟨_,s22,rfl⟩:=hA 3 22;have cc0:=eI.cell p0
   rotate_left
   have o4:=oOf (hB 4) rfl
   rotate_left
   obtain⟨_,s24,rfl⟩:=hA 5 24;have cc0:=eI.cell a0
   rotate_left
   have o2:=oOf (hB 2) rfl
   rotate_left
   obtain⟨_,s25,rfl⟩:=hA 6 25;obtain⟨_,s26,rfl⟩:=hA 7 26
   rotate_left
   obtain⟨_,s27,rfl⟩:=hA 8 27;have cc0:=eI.cell p1
   rotate_left
   obtain⟨_,s23,rfl⟩:=hA 4 23;obtain⟨_,s28,rfl⟩:=hA 9 28;clear hB hA
   ·go_simp;refine (q4B (q_l hN2 eI.size) HZ1.out.1 HZ1.out.2).mono ?_;rintro e wj ⟨Aj,cj,rfl,hj,ej⟩;go_wp2_with fail;exact hK.out _ _ ej ⟨_,_,rfl,MtR.wide hj (HBJ.out eI) (q_r) (q_r)⟩
   obtain⟨x29,s29,j29⟩:=hA 10 29;replace j29:Mn.p (Mn.mf N B1 (z i) (z j) (fun _ _=>0)) x29 wi:=j29;clear hB hA
   ·go_simp;exact q_k hK j29
   all_goals clear hB hA; go_simp; exact q_k hK rfl
  intro vals wz eZ hJ;have J9:Mn.p (Mn.mf N B1 (z i) (z j) (fun _ _=>0)) (vals 11) wz:=hJ 11 (by decide) (by decide);clear hJ;simp only [pr,Nat.reduceAdd]
  generalize vals 11=z9 at J9 ⊢
  refine qh (by kernel_rfl) ?_ _;obtain⟨A4,k4,rfl,hY0⟩:=J9;obtain⟨w4,hw4⟩:∃ w4,w4=wz:=⟨_,rfl⟩
  subst hw4;have HY:=q_h (MtV.congr (Y:=F i j) hY0 (fun a ha b hb=>(HM2.out a b ha hb).symm));have E24:=eZ;clear hY0 eZ a0 a1 a2 k0 k1 p0 p1;obtain⟨a0,a1,a2,-⟩:=cells3 (E24.block HB0'.out);obtain⟨k0,k1,-⟩:=cells2 (E24.block HB8.out);have HBI:Hid (∀ {w':World},Ext w4 w'->B1<=w'.heap.size):=fun e=>q_l HBW.out (q_l (hE.trans E24).size e.size)
  go_upto_region 5 with (fail);refine regS [Mn.q w.heap.size 1,Mn.eq (.map (some gm)),Mn.eq (.agg #[.int .i64 (i:Int),.int .i64 (j:Int)]),Mn.eq (.slice A4 (z i) k4),Mn.eq (.slice A9 (z i) k9),Mn.mfc N B1 (z i) (z j) (fun a b=>F i j a b - X a b),Mn.mfc N B1 (z i) (z j) (fun a b=>F i j a b - X a b),Mn.mf N B1 (z i) (z j) (fun a b=>F i j a b - X a b),Mn.i 0,Mn.any] [some 31,some 32,some 33,some 34,some 35,some 36,some 30,some 37,some 38,none] [9] [8] (rQ 9 1) 1 (by kernel_rfl) ?_ ?_ ?_
  ·show ∀ i,i < 10->_
   iterate 10 refine fs ?_ ?_
   ·exact fz
   all_goals intro hl hs; first | exact absurd hl (by decide) | exact absurd hs (by decide) | (clear hl hs; refine stp rfl ?_; intro ac wi eI hB hA K hK)
   have o4:=oOf (hB 4) rfl
   rotate_left
   obtain⟨_,s31,rfl⟩:=hA 0 31;have cc0:=eI.cell a1
   rotate_left
   have o8:=oOf (hB 8) rfl;have cc0:=eI.cell k0;have cc1:=eI.cell k1
   rotate_left
   have o9:=oOf (hB 9) rfl
   rotate_left
   have o3:=oOf (hB 3) rfl
   rotate_left
   obtain⟨_,s34,rfl⟩:=hA 3 34;obtain⟨_,s35,rfl⟩:=hA 4 35;clear hB hA
   ·go_simp;refine (q4a (HY.out.ext eI) (HX.out.ext ((hE.trans E24).trans eI)) HZr.out.1 HZr.out.2 HZc.out.1 HZc.out.2 HFS.out HXS.out).mono ?_;rintro e wj ⟨gj,cj,β,κ,rfl,hcap,ho,ej⟩;go_wp2_with fail;exact hK.out _ _ ej ⟨_,_,rfl,MtR.wide (ho.mtv ho.mle hcap) (HBI.out eI) (q_r) (q_r)⟩
   obtain⟨x36,s36,j36⟩:=hA 5 36;replace j36:Mn.p (Mn.mfc N B1 (z i) (z j) (fun a b=>F i j a b - X a b)) x36 wi:=j36;clear hB hA
   ·go_simp;exact q_k hK j36
   obtain⟨x30,s30,j30⟩:=hA 6 30;replace j30:Mn.p (Mn.mfc N B1 (z i) (z j) (fun a b=>F i j a b - X a b)) x30 wi:=j30;clear hB hA
   ·obtain⟨gj,cj,rfl,hj⟩:=j30;go_simp;exact q_k hK ⟨gj,cj,rfl,hj⟩
   all_goals clear hB hA; go_simp; exact q_k hK rfl
  ·intro i hs;have hi':i=8:=by simpa using hs
   clear hs
   rcases hi' with rfl
   ·refine sft rfl (fun _ _ _ _ h=>h) ?_;intro ac wi eI hB hA;obtain⟨x30,s30,j30⟩:=hA 6 30;replace j30:Mn.p (Mn.mfc N B1 (z i) (z j) (fun a b=>F i j a b - X a b)) x30 wi:=j30;clear hB hA;obtain⟨gj,cj,rfl,hj⟩:=j30;refine⟨(.int .i64 0),.inl ⟨rfl,fun w9 _=>?_⟩,rfl⟩;go_simp
  intro vals wz eZ hJ;have J32:vals 1=_:=hJ 1 (by decide) (by decide);have J33:vals 2=_:=hJ 2 (by decide) (by decide);have J37:Mn.p (Mn.mf N B1 (z i) (z j) (fun a b=>F i j a b - X a b)) (vals 7) wz:=hJ 7 (by decide) (by decide);clear hJ;simp only [pr,Nat.reduceAdd,J32,J33];clear J32 J33
  generalize vals 7=z37 at J37 ⊢
  obtain⟨gY,cY,rfl,hY⟩:=J37;have hEz:=(hE.trans E24).trans eZ;obtain⟨w9,hu,hM9,C9⟩:=yu (HML.out.ext hEz) HKR.out HKC.out (.slice gY (z i) cY);unfold kyV at hu;refine ql (i:=9) rfl (by kernel_rfl) (by kernel_rfl) (fun K hK=>?_);go_wp2_with fail;refine hK.out _ _ ?_;clear hK K;try simp only [nr]
  refine qh (by kernel_rfl) ?_ _;have HYY:=q_h hY;obtain⟨by_,oy_,hgy,-⟩:=MtV.addr HYY.out HZr.out.1;have HST:Hid (StM N B0 B1 w9 bz oz gm gr m z (q2X F i j (fun a b=>F i j a b - X a b)) R):=StM.put (HS.out.ext hEz) (fun r c hc hr=>(HMC.out r c hc hr).ext hEz) ⟨_,cY,B1,_,by rw [hgy],HYY.out,.inr (q_r)⟩ hM9 C9 HNE.out;have HCC:Hid (Chg gm (gm+1) w w9):=(hEz.chg gm (gm+1)).trans C9;clear hM9 C9 eZ hY HYY a0 a1 a2 k0 k1 hgy;go_wp2
  first | go_ret | go_end0 | skip
  rw [hQ.out];exact⟨rfl,HST.out,HCC.out⟩
 | some v0 =>
  have HM2:Hid (Mx N B0 B1 w v0 (z i) (z j) (F i j)):=HC0.out;simp only [Option.getD_some] at hl;obtain⟨A4',k4,lo4,hi4,rfl,hmt⟩:=HM2.out.mtv;obtain⟨A4,hA4⟩:=qc (some A4');have HY:=q_h (hmt.ext hE);have E24:Ext w2 w2:=Ext.refl _;clear HC0 hmt;go_upto_region 5 with (fail);clear hl hnl a0 a1 a2 k0 k1;rw [<-hA4.out] at HY ⊢;obtain⟨w4,hw4⟩:∃ w4,w4=w2:=⟨_,rfl⟩
  subst hw4;obtain⟨a0,a1,a2,-⟩:=cells3 (E24.block HB0'.out);obtain⟨k0,k1,-⟩:=cells2 (E24.block HB8.out);have HBI:Hid (∀ {w':World},Ext w4 w'->B1<=w'.heap.size):=fun e=>q_l HBW.out (q_l (hE.trans E24).size e.size)
  go_upto_region 5 with (fail);refine regS [Mn.q w.heap.size 1,Mn.eq (.map (some gm)),Mn.eq (.agg #[.int .i64 (i:Int),.int .i64 (j:Int)]),Mn.eq (.slice A4 (z i) k4),Mn.eq (.slice A9 (z i) k9),Mn.mfc N B1 (z i) (z j) (fun a b=>F i j a b - X a b),Mn.mfc N B1 (z i) (z j) (fun a b=>F i j a b - X a b),Mn.mf N B1 (z i) (z j) (fun a b=>F i j a b - X a b),Mn.i 0,Mn.any] [some 31,some 32,some 33,some 34,some 35,some 36,some 30,some 37,some 38,none] [9] [8] (rQ 9 1) 1 (by kernel_rfl) ?_ ?_ ?_
  ·show ∀ i,i < 10->_
   iterate 10 refine fs ?_ ?_
   ·exact fz
   all_goals intro hl hs; first | exact absurd hl (by decide) | exact absurd hs (by decide) | (clear hl hs; refine stp rfl ?_; intro ac wi eI hB hA K hK)
   have o4:=oOf (hB 4) rfl
   rotate_left
   obtain⟨_,s31,rfl⟩:=hA 0 31;have cc0:=eI.cell a1
   rotate_left
   have o8:=oOf (hB 8) rfl;have cc0:=eI.cell k0;have cc1:=eI.cell k1
   rotate_left
   have o9:=oOf (hB 9) rfl
   rotate_left
   have o3:=oOf (hB 3) rfl
   rotate_left
   obtain⟨_,s34,rfl⟩:=hA 3 34;obtain⟨_,s35,rfl⟩:=hA 4 35;clear hB hA
   ·go_simp;refine (q4a (HY.out.ext eI) (HX.out.ext ((hE.trans E24).trans eI)) HZr.out.1 HZr.out.2 HZc.out.1 HZc.out.2 HFS.out HXS.out).mono ?_;rintro e wj ⟨gj,cj,β,κ,rfl,hcap,ho,ej⟩;go_wp2_with fail;exact hK.out _ _ ej ⟨_,_,rfl,MtR.wide (ho.mtv ho.mle hcap) (HBI.out eI) (q_r) (q_r)⟩
   obtain⟨x36,s36,j36⟩:=hA 5 36;replace j36:Mn.p (Mn.mfc N B1 (z i) (z j) (fun a b=>F i j a b - X a b)) x36 wi:=j36;clear hB hA
   ·go_simp;exact q_k hK j36
   obtain⟨x30,s30,j30⟩:=hA 6 30;replace j30:Mn.p (Mn.mfc N B1 (z i) (z j) (fun a b=>F i j a b - X a b)) x30 wi:=j30;clear hB hA
   ·obtain⟨gj,cj,rfl,hj⟩:=j30;go_simp;exact q_k hK ⟨gj,cj,rfl,hj⟩
   all_goals clear hB hA; go_simp; exact q_k hK rfl
  ·intro i hs;have hi':i=8:=by simpa using hs
   clear hs
   rcases hi' with rfl
   ·refine sft rfl (fun _ _ _ _ h=>h) ?_;intro ac wi eI hB hA;obtain⟨x30,s30,j30⟩:=hA 6 30;replace j30:Mn.p (Mn.mfc N B1 (z i) (z j) (fun a b=>F i j a b - X a b)) x30 wi:=j30;clear hB hA;obtain⟨gj,cj,rfl,hj⟩:=j30;refine⟨(.int .i64 0),.inl ⟨rfl,fun w9 _=>?_⟩,rfl⟩;go_simp
  intro vals wz eZ hJ;have J32:vals 1=_:=hJ 1 (by decide) (by decide);have J33:vals 2=_:=hJ 2 (by decide) (by decide);have J37:Mn.p (Mn.mf N B1 (z i) (z j) (fun a b=>F i j a b - X a b)) (vals 7) wz:=hJ 7 (by decide) (by decide);clear hJ;simp only [pr,Nat.reduceAdd,J32,J33];clear J32 J33
  generalize vals 7=z37 at J37 ⊢
  obtain⟨gY,cY,rfl,hY⟩:=J37;have hEz:=(hE.trans E24).trans eZ;obtain⟨w9,hu,hM9,C9⟩:=yu (HML.out.ext hEz) HKR.out HKC.out (.slice gY (z i) cY);unfold kyV at hu;refine ql (i:=9) rfl (by kernel_rfl) (by kernel_rfl) (fun K hK=>?_);go_wp2_with fail;refine hK.out _ _ ?_;clear hK K;try simp only [nr]
  refine qh (by kernel_rfl) ?_ _;have HYY:=q_h hY;obtain⟨by_,oy_,hgy,-⟩:=MtV.addr HYY.out HZr.out.1;have HST:Hid (StM N B0 B1 w9 bz oz gm gr m z (q2X F i j (fun a b=>F i j a b - X a b)) R):=StM.put (HS.out.ext hEz) (fun r c hc hr=>(HMC.out r c hc hr).ext hEz) ⟨_,cY,B1,_,by rw [hgy],HYY.out,.inr (q_r)⟩ hM9 C9 HNE.out;have HCC:Hid (Chg gm (gm+1) w w9):=(hEz.chg gm (gm+1)).trans C9;clear hM9 C9 eZ hY HYY a0 a1 a2 k0 k1 hgy;go_wp2
  first | go_ret | go_end0 | skip
  rw [hQ.out];exact⟨rfl,HST.out,HCC.out⟩
end Go.Proofs.YtfmddpahhloleaaGreat
namespace Go.Proofs.YtfmddpahhloleaaGreat
variable {w w':World} {N n lo hi k g i m base c b j K:Nat} {v:Value}
def VO (n:Nat) (M:Nat->Nat->Rat) (E:Nat->Bool):Prop:=∀ x:Nat->Rat,(∀ i,i < n->E i=false->x i=0)->(∀ i,i < n->E i=true->av n M x i=0)->∀ i,i < n->x i=0
def Fil (n:Nat) (M:Nat->Nat->Rat) (E:Nat->Bool):Prop:=∀ y:Nat->Rat,∃ x:Nat->Rat,(∀ i,E i=false->x i=y i)/\∀ i,i < n->E i=true->av n M x i=0
def q1i (n:Nat) (M:Nat->Nat->Rat) (E:Nat->Bool) (S:Nat->Nat->Rat):Prop:=∀ x:Nat->Rat,(∀ i,i < n->E i=true->av n M x i=0)->∀ i,i < n->E i=false->av n M x i=sum n (fun j=>if E j=true then 0 else S i j*x j)
structure Enm (n k:Nat) (E:Nat->Bool) (e:Nat->Nat):Prop where
 low:∀ a,a < k->e a < n
 mem:∀ a,a < k->E (e a)=true
 inj:∀ a b,a < k->b < k->e a=e b->a=b
 onto:∀ i,i < n->E i=true->∃ a,a < k/\e a=i
theorem Enm.dlt {E:Nat->Bool} {e:Nat->Nat} (h:Enm n k E e) (hc:c < n):sum k (fun b=>dlt (e b) c)=if E c=true then 1 else 0:=by
 cases hE:E c with
 | true =>
  obtain⟨a,ha,rfl⟩:=h.onto c hc hE;rw [kC ha (fun b hb hne=>zZ (fun e9=>hne (h.inj b a hb ha e9))),kw]; rfl
 | false =>
  rw [qp (fun b hb=>zZ (fun e9=>by rw [<-e9,h.mem b hb] at hE; cases hE))]; rfl
theorem Enm.sum {E:Nat->Bool} {e:Nat->Nat} (h:Enm n k E e) (f:Nat->Rat):Go.Proofs.YtfmddpahhloleaaGreat.sum n (fun c=>if E c=true then f c else 0)=Go.Proofs.YtfmddpahhloleaaGreat.sum k (fun b=>f (e b)):=by
 have h1:Go.Proofs.YtfmddpahhloleaaGreat.sum n (fun c=>if E c=true then f c else 0)=Go.Proofs.YtfmddpahhloleaaGreat.sum n (fun c=>Go.Proofs.YtfmddpahhloleaaGreat.sum k (fun b=>Go.Proofs.YtfmddpahhloleaaGreat.dlt (e b) c*f c)):=qf fun c hc=>by
  rw [qA,h.dlt hc];cases E c with
  | true=>simp
  | false=>simp
 rw [h1,qN];exact qf fun b hb=>qR (h.low b hb) f
theorem We (n:Nat) (E:Nat->Bool) (f:Nat->Rat):sum n f=sum n (fun c=>if E c=true then 0 else f c)+sum n (fun c=>if E c=true then f c else 0):=by
 rw [<-vT];exact qf fun c _=>by cases E c <;> simp <;> grind
theorem Enm.parts {E:Nat->Bool} {e:Nat->Nat} (h:Enm n k E e) (f:Nat->Rat):Go.Proofs.YtfmddpahhloleaaGreat.sum n f=Go.Proofs.YtfmddpahhloleaaGreat.sum n (fun c=>if E c=true then 0 else f c)+Go.Proofs.YtfmddpahhloleaaGreat.sum k (fun b=>f (e b)):=by
 rw [We n E f,h.sum]
def xB (M:Nat->Nat->Rat) (e:Nat->Nat) (a b:Nat):Rat:=M (e a) (e b)
theorem WI {M:Nat->Nat->Rat} {E:Nat->Bool} {e:Nat->Nat} (h:Enm n k E e) (hr:Reg k (xB M e)):VO n M E:=by
 intro x hx h0 i hi;cases hE:E i with
 | false=>exact hx i hi hE
 | true =>
  obtain⟨a,ha,rfl⟩:=h.onto i hi hE;refine hr (fun a=>x (e a)) (fun b hb=>?_) a ha;have h1:=h0 (e b) (h.low b hb) (h.mem b hb);unfold av at h1
  rw [h.parts,qp (fun c hcn=>by
   cases hc:E c with
   | true=>rfl
   | false=>rw [if_neg (by simp),hx c hcn hc]; grind),Rat.zero_add] at h1
  exact h1
def spr (k:Nat) (e:Nat->Nat) (z:Nat->Rat) (i:Nat):Rat:=sum k (fun a=>dlt (e a) i*z a)
theorem Wj {E:Nat->Bool} {e:Nat->Nat} (h:Enm n k E e) (z:Nat->Rat) {a:Nat} (ha:a < k):spr k e z (e a)=z a:=by
 unfold spr;rw [kC ha (fun b hb hne=>by rw [zZ (fun e9=>hne (h.inj b a hb ha e9))]; grind),kw]
 grind
theorem q36 {M:Nat->Nat->Rat} {E:Nat->Bool} {e:Nat->Nat} (h:Enm n k E e) (hr:VO n M E):Reg k (xB M e):=by
 intro z hz a ha
 have h1:=hr (fun i=>if E i=true then spr k e z i else 0) (fun i _ hi=>by simp [hi]) (fun i hi hE=>by
  obtain⟨b,hb,rfl⟩:=h.onto i hi hE;unfold av;rw [h.parts,qp (fun c _=>by cases hc:E c <;> simp [hc]),Rat.zero_add];refine Eq.trans (qf fun c hc=>?_) (hz b hb);simp only [h.mem c hc,if_true]
  rw [Wj h z hc]; rfl) (e a) (h.low a ha)
 simp only [h.mem a ha,if_true] at h1;rw [<-Wj h z ha]; exact h1
def VQ (k:Nat) (M:Nat->Nat->Rat) (e:Nat->Nat) (X:Nat->Nat->Rat) (i j:Nat):Rat:=M i j - sum k (fun a=>M i (e a)*sum k (fun b=>X a b*M (e b) j))
theorem q5s {M X:Nat->Nat->Rat} {E:Nat->Bool} {e:Nat->Nat} (h:Enm n k E e) (hX:∀ i,i < k->∀ c,c < k->mm k (xB M e) X i c=dlt i c):Fil n M E:=by
 intro y;obtain⟨z,hz⟩:∃ z:Nat->Rat,z=fun a=>- sum k (fun b=>X a b*sum n (fun j=>if E j=true then 0 else M (e b) j*y j)):=⟨_,rfl⟩
 refine⟨fun i=>if E i=true then spr k e z i else y i,fun i hi=>by simp [hi],fun i hi hE=>?_⟩;obtain⟨a,ha,rfl⟩:=h.onto i hi hE;unfold av;rw [h.parts];have h1:sum n (fun c=>if E c=true then 0 else M (e a) c*(if E c=true then spr k e z c else y c))=sum n (fun j=>if E j=true then 0 else M (e a) j*y j):=qf fun c _=>by cases E c <;> simp
 have h2:sum k (fun b=>M (e a) (e b)*(if E (e b)=true then spr k e z (e b) else y (e b))) = - sum n (fun j=>if E j=true then 0 else M (e a) j*y j):=by
  have h3:sum k (fun b=>M (e a) (e b)*(if E (e b)=true then spr k e z (e b) else y (e b)))=sum k (fun b=>xB M e a b*z b):=qf fun b hb=>by
   rw [if_pos (h.mem b hb),Wj h z hb]; rfl
  rw [h3,hz]
  have h4:sum k (fun b=>xB M e a b*(- sum k (fun d=>X b d*sum n (fun j=>if E j=true then 0 else M (e d) j*y j)))) = - sum k (fun d=>mm k (xB M e) X a d*sum n (fun j=>if E j=true then 0 else M (e d) j*y j)):=by
   rw [<-Qu]
   have h5:sum k (fun b=>xB M e a b*(- sum k (fun d=>X b d*sum n (fun j=>if E j=true then 0 else M (e d) j*y j))))=sum k (fun b=>sum k (fun d=>- (xB M e a b*X b d*sum n (fun j=>if E j=true then 0 else M (e d) j*y j)))):=qf fun b _=>by
    rw [<-Qu,<-qI];exact qf fun d _=>by grind
   rw [h5,qN]
   exact qf fun d _=>by
    unfold mm;rw [<-qA,<-Qu]
  rw [h4]
  congr 1
  have h6:sum k (fun d=>mm k (xB M e) X a d*sum n (fun j=>if E j=true then 0 else M (e d) j*y j))=sum k (fun d=>dlt a d*sum n (fun j=>if E j=true then 0 else M (e d) j*y j)):=qf fun d hd=>by rw [hX a ha d hd]
  rw [h6,qR ha (fun d=>sum n (fun j=>if E j=true then 0 else M (e d) j*y j))]
 rw [h1,h2]
 grind
theorem q2c {M X:Nat->Nat->Rat} {E:Nat->Bool} {e:Nat->Nat} (h:Enm n k E e) (hX:∀ i,i < k->∀ c,c < k->mm k X (xB M e) i c=dlt i c):q1i n M E (VQ k M e X):=by
 intro x hx i hi hE;obtain⟨u,hu⟩:∃ u:Nat->Rat,u=fun b=>sum n (fun j=>if E j=true then 0 else M (e b) j*x j):=⟨_,rfl⟩
 have h0:∀ b,b < k->sum k (fun a=>xB M e b a*x (e a)) = - u b:=fun b hb=>by
  have h1:=hx (e b) (h.low b hb) (h.mem b hb);unfold av at h1;rw [h.parts] at h1;have h2:sum k (fun a=>xB M e b a*x (e a))=sum k (fun a=>M (e b) (e a)*x (e a)):=rfl;rw [h2,hu]
  grind
 have hz:∀ a,a < k->x (e a) = - sum k (fun b=>X a b*u b):=fun a ha=>by
  have h1:sum k (fun b=>X a b*sum k (fun c=>xB M e b c*x (e c)))=x (e a):=by
   have h2:sum k (fun b=>X a b*sum k (fun c=>xB M e b c*x (e c)))=sum k (fun c=>mm k X (xB M e) a c*x (e c)):=by
    have h3:sum k (fun b=>X a b*sum k (fun c=>xB M e b c*x (e c)))=sum k (fun b=>sum k (fun c=>X a b*xB M e b c*x (e c))):=qf fun b _=>by
     rw [<-qI]; exact qf fun c _=>by grind
    rw [h3,qN];exact qf fun c _=>by unfold mm; rw [<-qA]
   rw [h2];have h4:sum k (fun c=>mm k X (xB M e) a c*x (e c))=sum k (fun c=>dlt a c*x (e c)):=qf fun c hc=>by rw [hX a ha c hc]
   rw [h4,qR ha (fun c=>x (e c))]
  rw [<-h1,<-Qu];exact qf fun b hb=>by rw [h0 b hb]; grind
 unfold av;rw [h.parts]
 have h5:sum k (fun b=>M i (e b)*x (e b)) = - sum n (fun j=>if E j=true then 0 else sum k (fun a=>M i (e a)*sum k (fun b=>X a b*M (e b) j))*x j):=by
  have h6:sum k (fun b=>M i (e b)*x (e b)) = - sum k (fun a=>M i (e a)*sum k (fun b=>X a b*u b)):=by
   rw [<-Qu];exact qf fun a ha=>by rw [hz a ha]; grind
  rw [h6,hu]
  congr 1
  have h7:sum k (fun a=>M i (e a)*sum k (fun b=>X a b*sum n (fun j=>if E j=true then 0 else M (e b) j*x j)))=sum k (fun a=>sum n (fun j=>if E j=true then 0 else M i (e a)*sum k (fun b=>X a b*M (e b) j)*x j)):=qf fun a _=>by
   have h8:sum k (fun b=>X a b*sum n (fun j=>if E j=true then 0 else M (e b) j*x j))=sum n (fun j=>if E j=true then 0 else sum k (fun b=>X a b*M (e b) j)*x j):=by
    have h9:sum k (fun b=>X a b*sum n (fun j=>if E j=true then 0 else M (e b) j*x j))=sum k (fun b=>sum n (fun j=>X a b*(if E j=true then 0 else M (e b) j*x j))):=qf fun b _=>by rw [<-qI]
    rw [h9,qN]
    exact qf fun j _=>by
     cases E j with
     | true=>simp only [if_true]; exact qp fun b _=>by grind
     | false=>simp only [Bool.false_eq_true,if_false]; rw [<-qA]; exact qf fun b _=>by grind
   rw [h8,<-qI];exact qf fun j _=>by cases E j <;> simp <;> grind
  rw [h7,qN]
  exact qf fun j _=>by
   cases E j with
   | true=>simp only [if_true]; exact qp fun a _=>rfl
   | false=>simp only [Bool.false_eq_true,if_false]; rw [qA]
 rw [h5,<-Rat.sub_eq_add_neg,<-xA];exact qf fun j _=>by unfold VQ; cases E j <;> simp <;> grind
def both (E1 E2:Nat->Bool) (i:Nat):Bool:=E1 i || E2 i
def notB (E:Nat->Bool) (i:Nat):Bool:=!E i
theorem YS {E1 E2:Nat->Bool} (h:E1 i=true):both E1 E2 i=true:=by unfold both; rw [h]; rfl
theorem q0S {E1 E2:Nat->Bool} (h:E2 i=true):both E1 E2 i=true:=by unfold both; rw [h,Bool.or_true]
theorem X5 {E1 E2:Nat->Bool} (h:both E1 E2 i=false):E1 i=false/\E2 i=false:=by unfold both at h; exact Bool.or_eq_false_iff.1 h
theorem Enm.rest {n1:Nat} {E:Nat->Bool} {l:Nat->Nat} (h:Enm n n1 (notB E) l) (f:Nat->Rat):Go.Proofs.YtfmddpahhloleaaGreat.sum n (fun j=>if E j=true then 0 else f j)=Go.Proofs.YtfmddpahhloleaaGreat.sum n1 (fun p=>f (l p)):=by
 rw [<-h.sum];exact qf fun c _=>by unfold notB; cases E c <;> rfl
def PDef (n:Nat) (A:Nat->Nat->Rat):Prop:=∀ x:Nat->Rat,(∃ i,i < n/\x i≠0)->0 < sum n (fun i=>x i*av n A x i)
theorem WJ {M S1:Nat->Nat->Rat} {E1 E2:Nat->Bool} (h1:VO n M E1) (hS:q1i n M E1 S1) (h2:VO n S1 E2) (hd:∀ i,E2 i=true->E1 i=false):VO n M (both E1 E2):=by
 intro x hx h0;obtain⟨u,hu⟩:∃ u:Nat->Rat,u=fun i=>if E2 i=true then x i else 0:=⟨_,rfl⟩
 have h00:∀ i,i < n->E1 i=true->av n M x i=0:=fun i hi h=>h0 i hi (YS h)
 have hu0:∀ i,i < n->u i=0:=h2 u (fun i _ hi=>by rw [hu]; simp [hi]) (fun i hi hE=>by
  have h3:=h0 i hi (q0S hE);rw [hS x h00 i hi (hd i hE)] at h3;refine Eq.trans (qf fun j hj=>?_) h3;rw [hu]
  show S1 i j*(if E2 j=true then x j else 0)=if E1 j=true then 0 else S1 i j*x j
  cases h4:E1 j with
  | true =>
   have:E2 j=false:=by
    cases h5:E2 j with
    | false=>rfl
    | true=>have:=hd j h5; rw [h4] at this; cases this
   rw [this,if_pos rfl,if_neg (by simp)]; grind
  | false =>
   cases h5:E2 j with
   | true=>simp
   | false =>
    have:=hx j hj (by unfold both; rw [h4,h5]; rfl)
    rw [this]; simp)
 refine h1 x (fun i hi hE1=>?_) h00;cases h5:E2 i with
 | false=>exact hx i hi (by unfold both; rw [hE1,h5]; rfl)
 | true =>
  have:=hu0 i hi;rw [hu] at this;simpa [h5] using this
theorem Vf {M S1:Nat->Nat->Rat} {E1 E2:Nat->Bool} (hf:Fil n M E1) (hS:q1i n M E1 S1) (h:VO n M (both E1 E2)) (hd:∀ i,E2 i=true->E1 i=false):VO n S1 E2:=by
 intro y hy h0 i hi;obtain⟨x,hx,hx0⟩:=hf y
 have hz:=h x (fun i hin hi=>by
  obtain⟨a1,a2⟩:=X5 hi;rw [hx i a1,hy i hin a2]) (fun i hi hb=>by
  cases h1:E1 i with
  | true=>exact hx0 i hi h1
  | false =>
   have h2:E2 i=true:=by unfold both at hb; rw [h1] at hb; simpa using hb
   rw [hS x hx0 i hi h1];refine Eq.trans (qf fun j hj=>?_) (h0 i hi h2)
   show (if E1 j=true then 0 else S1 i j*x j)=S1 i j*y j
   cases h3:E1 j with
   | true =>
    have:E2 j=false:=by
     cases h5:E2 j with
     | false=>rfl
     | true=>have:=hd j h5; rw [h3] at this; cases this
    rw [hy j hj this,if_pos rfl]; grind
   | false=>rw [if_neg (by simp),hx j h3])
 cases h2:E2 i with
 | false=>exact hy i hi h2
 | true=>rw [<-hx i (hd i h2)]; exact hz i hi
theorem WW {M:Nat->Nat->Rat} (h:PDef n M) (E:Nat->Bool):VO n M E:=by
 intro x hx h0 i hi;refine Classical.byContradiction fun hne=>?_
 have h1:=h x ⟨i,hi,hne⟩
 rw [qp (fun j hj=>by
  cases hE:E j with
  | true=>rw [h0 j hj hE]; grind
  | false=>rw [hx j hj hE]; grind)] at h1
 exact absurd h1 (by decide)
theorem q44 (m n:Nat) (A:Nat->Nat->Rat) (P x:Nat->Rat):sum n (fun a=>x a*av n (nm m A P) x a)=obj m P (av n A x):=by
 have h1:sum n (fun a=>x a*av n (nm m A P) x a)=sum n (fun a=>x a*sum m (fun k=>A k a*(P k*av n A x k))):=qf fun a _=>by
  unfold av; rw [q04]; rfl
 rw [h1,q0F];unfold obj;exact qf fun k _=>by grind
theorem nm_pdef {A:Nat->Nat->Rat} {P:Nat->Rat} (hP:∀ i,i < m->0 < P i) (hr:Reg n (nm m A P)):PDef n (nm m A P):=by
 rintro x ⟨i,hi,hne⟩;rw [q44];have h0:=Vm (v:=av n A x) hP
 have h1:obj m P (av n A x)≠0:=fun h=>hne (by
  have h2:=Yo hP h;refine hr x (fun a ha=>?_) i hi;have h3:=q04 m n A P x a;rw [h3]
  exact qp fun k hk=>by rw [h2 k hk]; grind)
 grind
theorem q3T {M:Nat->Nat->Rat}:Reg n M↔VO n M (fun _=>true):=by
 constructor
 ·intro h x _ h0 i hi;exact h x (fun a ha=>h0 a ha rfl) i hi
 ·intro h x h0 i hi;exact h x (fun _ _ h=>by cases h) (fun a ha _=>h0 a ha) i hi
theorem YE {K:Nat->Nat->Rat}:(qH k (vM k K) k).2.length=k↔Reg k K:=by
 have h:Z7 k k (zf k K) (qH k (vM k K) k).1 (qH k (vM k K) k).2:=by
  have:=zN k (vM k K) k;rw [QY] at this ⊢;exact this
 constructor
 ·intro hl x hx c hc;have h2:=(YD h hl).2
  have h3:sum k (fun b=>(qH k (vM k K) k).1 c (k+b)*sum k (fun d=>K b d*x d))=x c:=by
   have h4:sum k (fun b=>(qH k (vM k K) k).1 c (k+b)*sum k (fun d=>K b d*x d))=sum k (fun d=>mm k (fun a b=>(qH k (vM k K) k).1 a (k+b)) K c d*x d):=by
    have h5:sum k (fun b=>(qH k (vM k K) k).1 c (k+b)*sum k (fun d=>K b d*x d))=sum k (fun b=>sum k (fun d=>(qH k (vM k K) k).1 c (k+b)*K b d*x d)):=qf fun b _=>by
     rw [<-qI]; exact qf fun d _=>by grind
    rw [h5,qN];exact qf fun d _=>by unfold mm; rw [<-qA]
   rw [h4];have h6:sum k (fun d=>mm k (fun a b=>(qH k (vM k K) k).1 a (k+b)) K c d*x d)=sum k (fun d=>dlt c d*x d):=qf fun d hd=>by rw [h2 c hc d hd]
   rw [h6,qR hc]
  rw [<-h3];exact qp fun b hb=>by rw [hx b hb]; grind
 ·exact fun hr=>JK h hr
theorem jg {K:Nat->Nat->Rat} (hr:Reg k K):(∀ i,i < k->∀ c,c < k->mm k K (kD k K) i c=dlt i c)/\(∀ i,i < k->∀ c,c < k->mm k (kD k K) K i c=dlt i c):=by
 have h:Z7 k k (zf k K) (qH k (vM k K) k).1 (qH k (vM k K) k).2:=by
  have:=zN k (vM k K) k;rw [QY] at this ⊢;exact this
 exact YD h (JK h hr)
noncomputable def Xj (k:Nat) (M:Nat->Nat->Rat) (e:Nat->Nat):Nat->Nat->Rat:=VQ k M e (kD k (xB M e))
theorem q3P {M:Nat->Nat->Rat} {E:Nat->Bool} {e:Nat->Nat} (h:Enm n k E e) (hr:VO n M E):Fil n M E/\q1i n M E (Xj k M e):=by
 have h1:=jg (q36 h hr);exact⟨q5s h h1.1,q2c h h1.2⟩
theorem WC {M:Nat->Nat->Rat} {e:Nat->Nat} (hs:∀ i j,M i j=M j i) (hr:Reg k (xB M e)) (i j:Nat):Xj k M e i j=Xj k M e j i:=by
 have h1:=jg hr;have h2:=YC (K:=xB M e) (fun a b=>hs _ _) h1.1 h1.2;unfold Xj VQ;rw [hs i j]
 congr 1
 have h3:∀ i j,sum k (fun a=>M i (e a)*sum k (fun b=>kD k (xB M e) a b*M (e b) j))=sum k (fun a=>sum k (fun b=>M i (e a)*kD k (xB M e) a b*M (e b) j)):=fun i j=>qf fun a _=>by
  rw [<-qI]; exact qf fun b _=>by grind
 rw [h3,h3,qN]
 exact qf fun a ha=>qf fun b hb=>by
  rw [h2 b hb a ha,hs i (e b),hs (e a) j]; grind
end Go.Proofs.YtfmddpahhloleaaGreat
namespace Go.Proofs.YtfmddpahhloleaaGreat
open Go.RowKit
variable {w w':World} {N n lo hi k g i m base c b j K:Nat} {v:Value}
def kP (lf:Nat->Nat) (n r:Nat):Bool:=jk n (fun t=>decide (lf t=r))
theorem yR (lf:Nat->Nat) (n r:Nat):kP lf (n+1) r=(kP lf n r || decide (lf n=r)):=by
 unfold kP jk;rw [List.range_succ,List.any_append]
 simp
theorem jU {lf:Nat->Nat} {r:Nat}:kP lf n r=true↔∃ t,t < n/\lf t=r:=by
 unfold kP jk;simp [List.any_eq_true]
theorem wH {lf:Nat->Nat} {r:Nat} (h:∀ t,t < n->lf t≠r):kP lf n r=false:=by
 cases h9:kP lf n r with
 | false=>rfl
 | true =>
  obtain⟨t,h1,h2⟩:=jU.1 h9;exact absurd h2 (h t h1)
def Fct (k zk:Nat) (F:Nat->Nat->Nat->Nat->Rat) (X:Nat->Nat->Rat) (r:Nat):Nat->Nat->Rat:=mm zk (Fsy F r k) X
def Gx (k zk:Nat) (F:Nat->Nat->Nat->Nat->Rat) (X:Nat->Nat->Rat) (r c:Nat):Nat->Nat->Rat:=mm zk (Fct k zk F X r) (Fsy F k c)
def Fel (k zk:Nat) (F:Nat->Nat->Nat->Nat->Rat) (X:Nat->Nat->Rat) (p:Nat->Nat->Bool) (r c a b:Nat):Rat:=if p r c=true then F r c a b - Gx k zk F X r c a b else F r c a b
def Rel (k zk:Nat) (F:Nat->Nat->Nat->Nat->Rat) (X:Nat->Nat->Rat) (R:Nat->Nat->Rat) (p:Nat->Bool) (r a:Nat):Rat:=if p r=true then R r a - av zk (Fct k zk F X r) (R k) a else R r a
def pA (lf:Nat->Nat) (nl n:Nat) (r c:Nat):Bool:=kP lf n r && kP lf nl c
def pB (lf:Nat->Nat) (nl n t:Nat) (r c:Nat):Bool:=pA lf nl n r c || (decide (r=lf n) && kP lf t c)
theorem q67 {zk:Nat} {F:Nat->Nat->Nat->Nat->Rat} {X:Nat->Nat->Rat} {p:Nat->Nat->Bool} {r:Nat} (h1:p r k=false) (h2:p k r=false):Fsy (Fel k zk F X p) r k=Fsy F r k/\Fsy (Fel k zk F X p) k r=Fsy F k r:=by
 constructor <;> (funext a b; unfold Fsy Fel; split <;> simp [h1,h2])
theorem XG (hk:0 < k) {M:Nat->Nat->Rat} (h:∀ a b,a < k->b < k->M a b=0):¬ Reg k M:=fun hr=>by
 have h1:=hr (fun _=>1) (fun i hi=>by
  exact qp fun c hc=>by rw [h i c hi hc]; grind) 0 hk
 exact absurd h1 (by decide)
theorem QM {p:Nat} {A B:Nat->Nat->Rat} (h:∀ a b,a < m->b < n->A a b=0) (hi:i < m):mm n A B i j=0:=by
 unfold mm;exact qp fun c hc=>by rw [h i c hi hc]; grind
theorem q0c {p:Nat} {A B:Nat->Nat->Rat} (h:∀ a b,a < n->b < p->B a b=0) (hj:j < p):mm n A B i j=0:=by
 unfold mm;exact qp fun c hc=>by rw [h c j hc hj]; grind
theorem StM.congr {B0 B1:Nat} {bz oz gm gr:Nat} {z:Nat->Nat} {F F':Nat->Nat->Nat->Nat->Rat} {R R':Nat->Nat->Rat} (h:StM N B0 B1 w bz oz gm gr m z F R) (hF:∀ r c,c<=r->r < m->∀ a,a < z r->∀ b,b < z c->F r c a b=F' r c a b) (hR:∀ i,i < m->∀ a,a < z i->R i a=R' i a):StM N B0 B1 w bz oz gm gr m z F' R':=by
 obtain⟨h0,⟨l,h1,h2⟩,⟨cs,h3,h4⟩,h5,h6,h7,h8⟩:=h;refine⟨h0,⟨l,h1,fun r c hc hr=>?_⟩,⟨cs,h3,fun i hi=>?_⟩,h5,h6,h7,h8⟩
 ·have h9:=h2 r c hc hr
  generalize lkp l (r:Int) (c:Int)=o at h9 ⊢
  cases o with
  | none=>exact fun a b ha hb=>by rw [<-hF r c hc hr a ha b hb]; exact h9 a b ha hb
  | some v =>
   obtain⟨A,k,lo,hi,hv,h10,h11⟩:=h9;exact⟨A,k,lo,hi,hv,MtV.congr h10 (fun a ha b hb=>hF r c hc hr a ha b hb),h11⟩
 ·obtain⟨v,h9,A,c,lo,hi',hv,h10,h11⟩:=h4 i hi;exact⟨v,h9,A,c,lo,hi',hv,LsV.congr h10 (fun a ha=>hR i hi a ha),h11⟩
theorem StM.setR {B0 B1:Nat} {bz oz gm gr:Nat} {z:Nat->Nat} {F:Nat->Nat->Nat->Nat->Rat} {R:Nat->Nat->Rat} (h:StM N B0 B1 w bz oz gm gr m z F R) (hne:gm≠gr) (hi:i < m) {y:Nat->Rat} (hv:Lx N B0 B1 w v (z i) y) :
  ∃ w',w.setCell ⟨gr,i,none⟩ v=w'/\StM N B0 B1 w' bz oz gm gr m z F (fun j=>if j=i then y else R j)/\Chg gr (gr+1) w w':=by
 obtain⟨⟨s1,s2⟩,⟨l,h1,h2⟩,⟨cs,h3,h4⟩,h5,h6,h7,h8⟩:=h;have U:=(Upd.refl gr w).set i v;have C:Chg gr (gr+1) w (w.setCell ⟨gr,i,none⟩ v):=U.chg (NoU.mk h3 q3c);refine⟨_,rfl,⟨⟨s1,fun a ha=>C.cell (s2 a ha) (by show bz < gr\/gr+1<=bz; omega)⟩,⟨l,?_,fun r c hc hr=>(h2 r c hc hr).chg C (by omega) (by omega) (by omega)⟩,⟨_,heap_set h3 i v,fun a ha=>?_⟩,h5,h6,h7,by rw [U.size]; exact h8⟩,C⟩
 ·obtain⟨es,q,h9,h10⟩:=h1;exact⟨es,q,C.blk h9 (by omega),h10⟩
 ·obtain⟨u,h9,h10⟩:=h4 a ha;rw [Array.getElem?_setIfInBounds]
  by_cases hai:i=a
  ·subst hai
   have hlt:i < cs.size:=by
    rcases Nat.lt_or_ge i cs.size with h11 | h11
    ·exact h11
    ·rw [Array.getElem?_eq_none h11] at h9; cases h9
   rw [if_pos rfl,if_pos hlt];refine⟨v,rfl,?_⟩
   show Lx N B0 B1 _ v (z i) (if i=i then y else R i)
   rw [if_pos rfl];exact hv.chg C (by omega) (by omega) (by omega)
  ·rw [if_neg hai];refine⟨u,h9,?_⟩
   show Lx N B0 B1 _ u (z a) (if a=i then y else R a)
   rw [if_neg (fun e=>hai e.symm)];exact h10.chg C (by omega) (by omega) (by omega)
theorem Yt {p K':Nat} {A B:Nat->Nat->Rat} (h:HtM m n K A) (h':HtM n p K' B):HtM m p (n*(K+K'+1)+1) (mm n A B):=fun i hi j hj=>by
 unfold mm;exact Zz fun c hc=>(h i hi c hc).mul (h' c hc j hj)
theorem JL {q:Nat} {M:Nat->Nat->Rat} (h:HtM n n q M):HtM n n (5 ^ n*(q+1)) (kD n M):=fun i hi j hj=>by
 unfold kD;exact (yN (KR h) (by omega) (.inl (q_r))) i hi (n+j) (by omega)
theorem ZB {z:Nat->Nat} {F:Nat->Nat->Nat->Nat->Rat} (hF:∀ r c,c<=r->r < m->HtM (z r) (z c) K (F r c)) {r:Nat} (hr:r < m) (hc:c < m):HtM (z r) (z c) K (Fsy F r c):=fun a ha b hb=>by
 unfold Fsy
 split
 ·exact hF r c (by omega) hr a ha b hb
 ·exact hF c r (by omega) hc b hb a ha
def Mn.lf (N B n:Nat) (x:Nat->Rat):Mn:=⟨fun v w=>LsV N B w.heap.size w v n x,fun e h=>LsR.wide (h.ext e) (q_r) e.size (q_r)⟩
theorem q0A {z:Nat->Nat} {F:Nat->Nat->Nat->Nat->Rat} {X:Nat->Nat->Rat} {lf:Nat->Nat} {nl:Nat} {p:Nat->Nat->Bool} (hF:∀ r c,c<=r->r < m->HtM (z r) (z c) K (F r c)) (hF':∀ r c,c<=r->r < m->kP lf nl r=true->kP lf nl c=true->HtM (z r) (z c) K (fun a b=>F r c a b - Gx k (z k) F X r c a b)) (hp:∀ r c,p r c=true->kP lf nl r=true/\kP lf nl c=true):∀ r c,c<=r->r < m->HtM (z r) (z c) K (Fel k (z k) F X p r c):=fun r c hc hr a ha b hb=>by
 unfold Fel
 split
 ·rename_i h
  exact hF' r c hc hr (hp r c h).1 (hp r c h).2 a ha b hb
 ·exact hF r c hc hr a ha b hb
theorem XL {lf:Nat->Nat} {a nl r:Nat} (ha:a<=nl) (h:kP lf a r=true):kP lf nl r=true:=by
 obtain⟨t,h1,h2⟩:=jU.1 h;exact jU.2 ⟨t,by omega,h2⟩
theorem q54 {lf:Nat->Nat} {nl a r:Nat} (ha:a<=nl) (h:pA lf nl a r c=true):kP lf nl r=true/\kP lf nl c=true:=by
 unfold pA at h;rw [Bool.and_eq_true] at h;exact⟨XL ha h.1,h.2⟩
theorem q53 {lf:Nat->Nat} {nl a r:Nat} (ha:a < nl) (hb:b<=nl) (h:pB lf nl a b r c=true):kP lf nl r=true/\kP lf nl c=true:=by
 unfold pB at h;rw [Bool.or_eq_true,Bool.and_eq_true,decide_eq_true_eq] at h
 rcases h with h | ⟨h1,h2⟩
 ·exact q54 (Nat.le_of_lt ha) h
 ·exact⟨jU.2 ⟨a,ha,h1.symm⟩,XL hb h2⟩
theorem WX {lf:Nat->Nat} {nl a:Nat} (r c:Nat):pA lf nl (a+1) r c=pB lf nl a nl r c:=by
 unfold pB pA;rw [yR,show decide (lf a=r)=decide (r=lf a) by simp [eq_comm]];cases kP lf a r <;> cases kP lf nl c <;> cases decide (r=lf a) <;> rfl
theorem q3W {lf:Nat->Nat} {nl a:Nat} (r c:Nat):pB lf nl a 0 r c=pA lf nl a r c:=by
 unfold pB;rw [show kP lf 0 c=false from rfl,Bool.and_false,Bool.or_false]
theorem Kq {lf:Nat->Nat} {nl a:Nat} (r c:Nat):pB lf nl a (b+1) r c=(pB lf nl a b r c || (decide (r=lf a) && decide (lf b=c))):=by
 unfold pB;rw [yR];cases pA lf nl a r c <;> cases kP lf b c <;> cases decide (r=lf a) <;> cases decide (lf b=c) <;> rfl
theorem q2o {zk a nl:Nat} {z lf:Nat->Nat} {F:Nat->Nat->Nat->Nat->Rat} {X:Nat->Nat->Rat} (h0:∀ x y,x < z i->y < zk->Fsy F i k x y=0) (hi:i=lf a) (r c:Nat) {x:Nat} (hx:x < z r) (y:Nat):Fel k zk F X (pA lf nl a) r c x y=Fel k zk F X (pA lf nl (a+1)) r c x y:=by
 unfold Fel;rw [WX];unfold pB
 by_cases hp:pA lf nl a r c=true
 ·rw [if_pos hp,if_pos (by rw [hp]; rfl)]
 ·rw [if_neg hp]
  split
  ·rename_i h
   rw [Bool.or_eq_true,Bool.and_eq_true,decide_eq_true_eq] at h
   rcases h with h | ⟨h,-⟩
   ·exact absurd h hp
   ·have hG:Gx k zk F X r c x y=0:=by
     unfold Gx;refine QM (m:=z r) (p:=0) (fun x' y' hx' _=>?_) hx;unfold Fct;exact QM (m:=z r) (p:=0) (fun x'' y'' hx'' hy''=>by rw [h,<-hi] at hx'' ⊢; exact h0 x'' y'' hx'' hy'') hx'
    rw [hG]; grind
  ·rfl
theorem q1E {zk a:Nat} {z lf:Nat->Nat} {F:Nat->Nat->Nat->Nat->Rat} {X:Nat->Nat->Rat} {R:Nat->Nat->Rat} (h0:∀ x y,x < z i->y < zk->Fsy F i k x y=0) (hi:i=lf a) (r:Nat) {x:Nat} (hx:x < z r):Rel k zk F X R (kP lf a) r x=Rel k zk F X R (kP lf (a+1)) r x:=by
 unfold Rel;rw [yR]
 by_cases hp:kP lf a r=true
 ·rw [if_pos hp,if_pos (by rw [hp]; rfl)]
 ·rw [if_neg hp]
  split
  ·rename_i h
   rw [Bool.or_eq_true,decide_eq_true_eq] at h
   rcases h with h | h
   ·exact absurd h hp
   ·have hG:av zk (Fct k zk F X r) (R k) x=0:=by
     unfold av;refine qp fun c hc=>?_
     have h1:Fct k zk F X r x c=0:=by
      unfold Fct;exact QM (m:=z r) (p:=0) (fun x'' y'' hx'' hy''=>by rw [<-h,<-hi] at hx'' ⊢; exact h0 x'' y'' hx'' hy'') hx
     rw [h1]; grind
    rw [hG]; grind
  ·rfl
theorem VC {zk a nl:Nat} {z lf:Nat->Nat} {F:Nat->Nat->Nat->Nat->Rat} {X:Nat->Nat->Rat} (h0:∀ x y,x < zk->y < z j->Fsy F k j x y=0) (hj:j=lf b) (r c x:Nat) {y:Nat} (hy:y < z c):Fel k zk F X (pB lf nl a b) r c x y=Fel k zk F X (pB lf nl a (b+1)) r c x y:=by
 unfold Fel;rw [Kq]
 by_cases hp:pB lf nl a b r c=true
 ·rw [if_pos hp,if_pos (by rw [hp]; rfl)]
 ·rw [if_neg hp]
  split
  ·rename_i h
   rw [Bool.or_eq_true,Bool.and_eq_true,decide_eq_true_eq,decide_eq_true_eq] at h
   rcases h with h | ⟨-,h⟩
   ·exact absurd h hp
   ·have hG:Gx k zk F X r c x y=0:=by
     unfold Gx;exact q0c (p:=z c) (fun x'' y'' hx'' hy''=>by rw [<-h,<-hj] at hy'' ⊢; exact h0 x'' y'' hx'' hy'') hy
    rw [hG]; grind
  ·rfl
theorem q5u {zk a nl:Nat} {lf:Nat->Nat} {F:Nat->Nat->Nat->Nat->Rat} {X:Nat->Nat->Rat} (hi:i=lf a) (hj:j=lf b) (hij:¬ j<=i) {r:Nat} (hcr:c<=r) (x y:Nat):Fel k zk F X (pB lf nl a b) r c x y=Fel k zk F X (pB lf nl a (b+1)) r c x y:=by
 unfold Fel
 rw [Kq,show (decide (r=lf a) && decide (lf b=c))=false by
  rw [<-hi,<-hj];cases h1:decide (r=i) with
  | false=>rfl
  | true =>
   rw [decide_eq_true_eq] at h1;rw [Bool.true_and]
   exact q_f (by omega),Bool.or_false]
theorem q4q {zk a nl:Nat} {lf:Nat->Nat} {F:Nat->Nat->Nat->Nat->Rat} {X:Nat->Nat->Rat} (hi:i=lf a) (hj:j=lf b) (hnot:pB lf nl a b i j=false) (r c x y:Nat):q2X (Fel k zk F X (pB lf nl a b)) i j (fun x y=>Fel k zk F X (pB lf nl a b) i j x y - Gx k zk F X i j x y) r c x y=Fel k zk F X (pB lf nl a (b+1)) r c x y:=by
 unfold q2X
 by_cases h:r=i/\c=j
 ·rw [if_pos h];obtain⟨rfl,rfl⟩:=h;unfold Fel;rw [Kq,hnot,<-hi,<-hj,decide_eq_true rfl,decide_eq_true rfl]
  rfl
 ·rw [if_neg h];unfold Fel
  rw [Kq,show (decide (r=lf a) && decide (lf b=c))=false by
   rw [<-hi,<-hj];cases h1:decide (r=i) with
   | false=>rfl
   | true =>
    rw [decide_eq_true_eq] at h1;rw [Bool.true_and]
    exact decide_eq_false fun h2=>h ⟨h1,h2.symm⟩,Bool.or_false]
def q2T (N B0 B1 C1 q:Nat) (kb:Obj) (w:World) (bz oz gm gr m:Nat) (z:Nat->Nat) (F:Nat->Nat->Nat->Nat->Rat) (R:Nat->Nat->Rat) (k:Nat) (lf:Nat->Nat) (nl:Nat) (e:Ending) (w':World):Prop :=
 (e=.returned (.tuple #[.slice none 0 0,.bool false])/\¬ Reg (z k) (F k k)/\Ext w w') \/
 (∃ (A:Addr) (cap:Nat),e=.returned (.tuple #[.slice (some A) (z k) cap,.bool true])/\Reg (z k) (F k k)/\MtV N B1 w'.heap.size w' (.slice (some A) (z k) cap) (z k) (z k) (kD (z k) (F k k)) /\
  StM N B0 B1 w' bz oz gm gr m z (Fel k (z k) F (kD (z k) (F k k)) (pA lf nl nl)) (Rel k (z k) F (kD (z k) (F k k)) R (kP lf nl))/\Chg B0 C1 w w'/\w'.heap[q]?=some kb)
theorem Y5 {B0 B1 C1:Nat} {bz oz cz gm gr cr:Nat} {z:Nat->Nat} {F:Nat->Nat->Nat->Nat->Rat} {R:Nat->Nat->Rat} (h:StM N B0 B1 w bz oz gm gr m z F R) (hne:gm≠gr) (hC1:gm < C1/\gr < C1/\C1<=B1) {q:Nat} {kb:Obj} (hq:w.heap[q]?=some kb) (hqn:q≠gm/\q≠gr) (hm:m<=12) (hz:∀ i,i < m->0 < z i/\z i<=64)
 (hk:k < m) {bl ol nl cl:Nat} {lf:Nat->Nat} (hl:∀ t,t < nl->lf t < m/\lf t≠k) (hinj:∀ s t,s < nl->t < nl->lf s=lf t->s=t) (hnl:nl<=12) (hbl:bl < B0) (hc:∀ t,t < nl->w.cell? ⟨bl,ol+t,none⟩=some (.int .i64 (lf t:Int)))
  {K':Nat} (hKL:K<=K'/\K'<=29000000000) (hF:∀ r c,c<=r->r < m->HtM (z r) (z c) K (F r c)) (hF':∀ r c,c<=r->r < m->kP lf nl r=true->kP lf nl c=true->HtM (z r) (z c) K' (fun a b=>F r c a b - Gx k (z k) F (kD (z k) (F k k)) r c a b)) (hR:∀ i,i < m->HtL (z i) K (R i))
  (hB1:5*(5 ^ z k*(K+1))<=29000000000) (hB2:z k*(z k*(K+5 ^ z k*(K+1)+1)+1+K+1)+1<=29000000000) :
  Calls Tryz.prog 59 #[stV bz oz cz gm gr cr m,.int .i64 (k:Int),.slice (some ⟨bl,ol,none⟩) nl cl] w (q2T N B0 B1 C1 q kb w bz oz gm gr m z F R k lf nl):=by
 obtain⟨Q,hQ⟩:=qc (q2T N B0 B1 C1 q kb w bz oz gm gr m z F R k lf nl);rw [<-hQ.out];have hzk:=hz k hk
 have hKK:K<=29000000000:=by
  have h1:K+1<=5 ^ z k*(K+1):=Nat.le_mul_of_pos_left _ (Nat.pow_pos (by decide));omega
 have HS:=q_h h;have HNE:=q_h hne;have HCC:=q_h hC1;have HQB:=q_h hq;have HQN:=q_h hqn;have HZ:=q_h hz;have HL:=q_h hl;have HINJ:=q_h hinj;have HC:=q_h hc;have HF:=q_h hF;have HF':=q_h hF';have HKL:=q_h hKL.2;have HFM:Hid (∀ r c,c<=r->r < m->HtM (z r) (z c) K' (F r c)):=fun r c h1 h2 a ha b hb=>(hF r c h1 h2 a ha b hb).mono hKL.1
 have HR:=q_h hR;have HB1:=q_h hB1;have HB2:=q_h hB2;have HKK:=q_h hKK;have HBW:Hid (B1<=w.heap.size):=h.bw;have HMB:Hid (B0<=gm/\gm < B1):=h.mb;have HRB:Hid (B0<=gr/\gr < B1):=h.rb;have HNB:Hid (N<=B0):=h.nb;have HKI:Hid (HtM (z k) (z k) K (F k k)):=hF k k (q_r) hk
 have HKN:Hid (∀ a,kP lf a k=true->nl < a):=fun a ha=>by
  obtain⟨t,h1,h2⟩:=jU.1 ha
  rcases Nat.lt_or_ge t nl with h3 | h3
  ·exact absurd h2 (hl t h3).2
  ·omega
 have hnlE:=fun (w:World) (a:Option Addr) (n c:Nat)=>Lib.run_eql_slice_nil (P:=Tryz.prog) w 23 24 a n c 0 0 Tryz.underlying23
 have hnlN:=fun (w:World) (a:Option Addr) (n c:Nat)=>run_neq_slice_nil_any (P:=Tryz.prog) w 23 24 a n c 0 0 Tryz.underlying23
 unfold stV;clear h hne hz hl hinj hc hF hF' hR hB1 hB2 hKK hKL hq hqn;go_enter Tryz.func59,Tryz.ntmps59;go_upto_region 1 with (fail);refine qo ?_;intro w1 e1 hsz1 B0';obtain⟨a0,a1,a2,-⟩:=cells3 B0';go_wp2_with (go_at_call 60; refine q_o ?_);refine (X6 (cz:=cz) (cr:=cr) (HS.out.ext e1) hm HZ.out HF.out HKK.out hk hk).mono ?_;rintro e w2 ⟨v,rfl,e2,hv⟩;have HFK:Hid (Fsy F k k=F k k):=by funext a b; unfold Fsy; rw [if_pos (q_r)]
 rw [HFK.out] at hv;have hE2:=e1.trans e2;replace B0':=e2.block B0';clear a0 a1 a2 e1 e2
 rcases hv with ⟨rfl,h0⟩ | hmx
 ·have HNR:=q_h (XG hzk.1 h0);clear h0;go_wp2
  first | go_ret2 | skip
  rw [hQ.out];exact .inl ⟨rfl,HNR.out,hE2⟩
 obtain⟨A2,k2,lo2,hi2,rfl,hmt⟩:=hmx.mtv;have HMT:=q_h hmt;clear hmx hmt;go_wp2_with (go_at_call 72; refine q_o ?_);refine (XM HMT.out hzk.1 hzk.2 HKI.out HB1.out).mono ?_;rintro e w3 ⟨e3,⟨h1,rfl⟩ | ⟨h1,g3,cap3,β3,κ3,rfl,hcap3,ho3⟩⟩
 ·have HNR:Hid (¬ Reg (z k) (F k k)):=fun hr=>by
   have:=YE.2 hr;omega
  clear h1;go_wp2
  first | go_ret2 | skip
  rw [hQ.out];exact .inl ⟨rfl,HNR.out,hE2.trans e3⟩
 have HREG:Hid (Reg (z k) (F k k)):=YE.1 (by have:=Qd (z k) (vM (z k) (F k k)) (z k); omega);have hE3:=hE2.trans e3;have HX3:Hid (MtV N B1 w3.heap.size w3 (.slice (some ⟨g3,0,none⟩) (z k) cap3) (z k) (z k) (kD (z k) (F k k))):=MtR.wide (ho3.mtv ho3.mle hcap3) (by have:=HBW.out; have:=hE2.size; omega) (q_r) (q_r);obtain⟨X,hX⟩:=qc (kD (z k) (F k k));have HXH:Hid (HtM (z k) (z k) (5 ^ z k*(K+1)) X):=by rw [Hid,hX.out]; exact JL HKI.out
 rw [<-hX.out] at HX3 HF'
 have HQ2:Hid (Q=fun e w'=>(e=.returned (.tuple #[.slice none 0 0,.bool false])/\¬ Reg (z k) (F k k)/\Ext w w') \/
  (∃ (A:Addr) (cap:Nat),e=.returned (.tuple #[.slice (some A) (z k) cap,.bool true])/\Reg (z k) (F k k)/\MtV N B1 w'.heap.size w' (.slice (some A) (z k) cap) (z k) (z k) X/\StM N B0 B1 w' bz oz gm gr m z (Fel k (z k) F X (pA lf nl nl)) (Rel k (z k) F X R (kP lf nl))/\Chg B0 C1 w w'/\w'.heap[q]?=some kb)):=by rw [Hid,hQ.out,hX.out]; rfl
 have HQ3:=q_h (hE3.block HQB.out);have HB3:=q_h (e3.block B0');have HS3:Hid (StM N B0 B1 w3 bz oz gm gr m z (Fel k (z k) F X (pA lf nl 0)) (Rel k (z k) F X R (kP lf 0))):=(HS.out.ext hE3).congr (fun r c _ _ a _ b _=>by unfold Fel; rw [show pA lf nl 0 r c=false from rfl]; rfl) (fun i _ a _=>by unfold Rel; rw [show kP lf 0 i=false from rfl]; rfl);have HC3:Hid (∀ t,t < nl->w3.cell? ⟨bl,ol+t,none⟩=some (.int .i64 (lf t:Int))):=fun t ht=>hE3.cell (HC.out t ht)
 have HE3:=q_h hE3;have HN3:Hid (N<=w3.heap.size):=by have:=HBW.out; have:=HNB.out; have:=HMB.out; have:=hE3.size; rw [Hid]; omega
 have hbw3:C1<=w.heap.size:=q_l HCC.out.2.2 HBW.out;clear hQ hX HMT ho3 hcap3 h1 B0' e3 hE2 hE3 HC HS;go_wp2_with fail
 go_loopw [36] (fun iv wr=>∃ a:Nat,a<=nl/\iv=.int .i64 (a:Int)/\Hid (StM N B0 B1 wr bz oz gm gr m z (Fel k (z k) F X (pA lf nl a)) (Rel k (z k) F X R (kP lf a)))/\Hid (Chg B0 C1 w3 wr)/\Hid (wr.heap[q]?=some kb)) (fun iv _=>nl - (intOf iv).toNat)
 case atStart=>exact⟨0,Nat.zero_le _,rfl,HS3,Chg.refl _ _ _,HQ3⟩
 case round =>
  clear HS3 HQ3;obtain⟨a,ha,rfl,HSA,HCA,HQA⟩:=hrel
  by_cases hlt:a < nl
  case neg =>
   have t1:decide ((a:Int) < (nl:Int))=false:=q_f (by omega);obtain rfl:nl=a:=by omega
   go_wp2
   first | go_ret2 | skip
   rw [HQ2.out];refine .inr ⟨_,_,rfl,HREG.out,?_,HSA.out,(HE3.out.chg B0 C1).trans HCA.out,HQA.out⟩;exact MtR.wide (MtR.chg HX3.out HCA.out HNB.out (.inr HCC.out.2.2)) (q_r) HCA.out.size (q_r)
  have t1:decide ((a:Int) < (nl:Int))=true:=q_t (by omega);have t2:(a:Int) < (nl:Int):=by omega
  obtain⟨i,hi⟩:=qc (lf a);obtain⟨him,hik⟩:=HL.out a hlt;have c0:=HCA.out.cell (HC3.out a hlt) (.inl hbl);rw [<-hi.out] at c0 him hik;have HK0:Hid (kP lf nl k=false):=wH fun t ht=>(HL.out t ht).2
  have HKA:Hid (kP lf a k=false):=wH fun t ht=>(HL.out t (by omega)).2
  have HIA:Hid (kP lf a i=false):=wH fun t ht h9=>by
   have:=HINJ.out t a (by omega) hlt (by rw [h9,hi.out]);omega
  have HPK:Hid (∀ r,pA lf nl a r k=false/\pA lf nl a k r=false):=fun r=>by
   unfold pA;rw [HK0.out,HKA.out,Bool.and_false,Bool.false_and];exact⟨rfl,rfl⟩
  obtain⟨wq,hwq⟩:∃ wq,wq=wr:=⟨_,rfl⟩
  subst hwq;have HBA:=q_h (HCA.out.blk HB3.out (.inr hbw3));obtain⟨a0,a1,a2,-⟩:=cells3 HBA.out;go_wp2_with (go_at_call 60; refine q_o ?_);refine (X6 (cz:=cz) (cr:=cr) HSA.out hm HZ.out (q0A HFM.out HF'.out (fun r c h=>q54 ha h)) HKL.out him hk).mono ?_;rintro e w4 ⟨v,rfl,e4,hv⟩;rw [(q67 (HPK.out i).1 (HPK.out i).2).1] at hv;have HS4:=q_h (HSA.out.ext e4);have HC4:Hid (Chg B0 C1 w3 w4):=HCA.out.trans (e4.chg B0 C1);have HB4:=q_h (e4.block HBA.out);have HQ4:=q_h (e4.block HQA.out);clear a0 a1 a2 c0 HSA HCA HBA HQA e4
  rcases hv with ⟨rfl,h0⟩ | hmx
  ·have HSN:Hid (StM N B0 B1 w4 bz oz gm gr m z (Fel k (z k) F X (pA lf nl (a+1))) (Rel k (z k) F X R (kP lf (a+1)))):=HS4.out.congr (fun r c _ _ x hx y _=>q2o h0 hi.out r c hx y) (fun r _ x hx=>q1E h0 hi.out r hx);clear h0;go_wp2;go_roundw
   case rel=>exact⟨a+1,by omega,by go_num,HSN,HC4,HQ4⟩
   case measure=>simp [intOf]; omega
  obtain⟨A4,k4,lo4,hi4,rfl,hmt4⟩:=hmx.mtv;have HM4:=q_h hmt4;have HX4:Hid (MtV N B1 w3.heap.size w4 (.slice (some ⟨g3,0,none⟩) (z k) cap3) (z k) (z k) X):=MtR.chg HX3.out HC4.out HNB.out (.inr HCC.out.2.2);have hzi:=HZ.out i him;have HSH:Hid (HtM (z i) (z k) K (Fsy F i k)):=ZB HF.out him hk
  have hbf:z k*(K+5 ^ z k*(K+1)+1)+1<=29000000000:=by
   have h1:=HB2.out;have h2:z k*(K+5 ^ z k*(K+1)+1)+1<=z k*(z k*(K+5 ^ z k*(K+1)+1)+1+K+1)+1:=Nat.add_le_add_right (q_l (Nat.mul_le_mul_left _ (by have:=Nat.le_mul_of_pos_left (K+5 ^ z k*(K+1)+1) hzk.1; omega)) (q_r)) 1;omega
  have HBF:=q_h hbf;clear hmx hmt4 hbf;go_wp2_with (go_at_call 73; refine q_o ?_);refine (q25 HM4.out HX4.out hzi.1 hzi.2 hzk.1 hzk.2 hzk.1 hzk.2 HSH.out HXH.out HBF.out).mono ?_;rintro e w5 ⟨g5,cap5,β5,κ5,rfl,hcap5,ho5,e5⟩;have hw35:B1<=w4.heap.size:=by have:=HBW.out; have:=HC4.out.size; have:=HE3.out.size; omega
  have HF5:Hid (MtV N B1 w5.heap.size w5 (.slice (some ⟨g5,0,none⟩) (z i) cap5) (z i) (z k) (Fct k (z k) F X i)):=MtR.wide (ho5.mtv ho5.mle hcap5) hw35 (q_r) (q_r);have HFH:Hid (HtM (z i) (z k) (z k*(K+5 ^ z k*(K+1)+1)+1) (Fct k (z k) F X i)):=Yt HSH.out HXH.out;have HS5:Hid (StM N B0 B1 w5 bz oz gm gr m z (Fel k (z k) F X (pB lf nl a 0)) (Rel k (z k) F X R (kP lf a))):=(HS4.out.ext e5).congr (fun r c _ _ x _ y _=>by unfold Fel; rw [q3W]) (fun _ _ _ _=>rfl);have HC5:Hid (Chg B0 C1 w3 w5):=HC4.out.trans (e5.chg B0 C1);have HB5:=q_h (e5.block HB4.out);have HQ5:=q_h (e5.block HQ4.out);have hw5:B1<=w5.heap.size:=q_l hw35 e5.size;clear ho5 hcap5 e5 HM4 HX4 HS4 HC4 HB4 HQ4 hw35;go_wp2_with fail
  go_loopw [54] (fun jv wr=>∃ b:Nat,b<=nl/\jv=.int .i64 (b:Int)/\Hid (StM N B0 B1 wr bz oz gm gr m z (Fel k (z k) F X (pB lf nl a b)) (Rel k (z k) F X R (kP lf a)))/\Hid (Chg B0 C1 w5 wr)/\Hid (wr.heap[q]?=some kb)) (fun jv _=>nl - (intOf jv).toNat)
  case atStart=>exact⟨0,Nat.zero_le _,rfl,HS5,Chg.refl _ _ _,HQ5⟩
  case round =>
   clear HS5 HQ5;obtain⟨b,hb,rfl,HSB,HCB,HQB'⟩:=hrel
   by_cases hltb:b < nl
   case neg =>
    have t3:decide ((b:Int) < (nl:Int))=false:=q_f (by omega);obtain rfl:nl=b:=by omega
    have HSQ:Hid (StM N B0 B1 wr bz oz gm gr m z (Fel k (z k) F X (pA lf nl (a+1))) (Rel k (z k) F X R (kP lf a))):=HSB.out.congr (fun r c _ _ x _ y _=>by unfold Fel; rw [WX]) (fun _ _ _ _=>rfl);have HBB:=q_h (HCB.out.blk HB5.out (.inr hbw3));obtain⟨a0,a1,a2,-⟩:=cells3 HBB.out;obtain⟨cs,hgr,hrt⟩:=HSB.out.rt;obtain⟨vi,hvi,hLi⟩:=hrt i him;obtain⟨vk,hvk,hLk⟩:=hrt k hk;rw [show Rel k (z k) F X R (kP lf a) i=R i by funext x; unfold Rel; rw [HIA.out]; rfl] at hLi;rw [show Rel k (z k) F X R (kP lf a) k=R k by funext x; unfold Rel; rw [HKA.out]; rfl] at hLk;obtain⟨Ai,ci,loi,hii,rfl,hli,-⟩:=hLi;obtain⟨Ak,ck,lok,hik',rfl,hlk,-⟩:=hLk;have q0:wr.cell? ⟨gr,i,none⟩=some (.slice Ai (z i) ci):=by rw [qx hgr]; exact hvi
    have q1:wr.cell? ⟨gr,k,none⟩=some (.slice Ak (z k) ck):=by rw [qx hgr]; exact hvk
    have HLi:=q_h hli;have HLk:=q_h hlk;have HGR:=q_h hgr;have HFw:Hid (MtV N B1 w5.heap.size wr (.slice (some ⟨g5,0,none⟩) (z i) cap5) (z i) (z k) (Fct k (z k) F X i)):=MtR.chg HF5.out HCB.out HNB.out (.inr HCC.out.2.2);have HRK:Hid (HtL (z k) K (R k)):=HR.out k hk
    have HSZ:Hid (∀ x,x < z i->Sz (R i x)/\Sz (av (z k) (Fct k (z k) F X i) (R k) x)):=fun x hx=>⟨(HR.out i him x hx).sz HKK.out,Ht.sz (k:=z k*(z k*(K+5 ^ z k*(K+1)+1)+1+K+1)+1) (by
     unfold av
     exact Zz fun c hc=>(HFH.out x hx c hc).mul (HRK.out c hc)) HB2.out⟩
    have HBI:Hid (∀ {w':World},Ext wr w'->B1<=w'.heap.size):=fun e=>q_l hw5 (q_l HCB.out.size e.size)
    have him':(i:Int) < (m:Int):=by omega
    have hkm':(k:Int) < (m:Int):=by omega
    obtain⟨wx,hwx⟩:∃ wx,wx=wr:=⟨_,rfl⟩
    subst hwx;clear hrt hvi hvk hli hlk hgr HSB;go_upto_region 21 with (fail);refine Je [Mn.q w.heap.size 2,Mn.eq (.slice (some ⟨gr,0,none⟩) m cr),Mn.i (i:Int),Mn.q w.heap.size 2,Mn.eq (.slice (some ⟨gr,0,none⟩) m cr),Mn.i (i:Int),Mn.q gr i,Mn.eq (.slice Ai (z i) ci),Mn.eq (.slice (some ⟨g5,0,none⟩) (z i) cap5),Mn.q w.heap.size 2,Mn.eq (.slice (some ⟨gr,0,none⟩) m cr),Mn.i (k:Int),Mn.q gr k,Mn.eq (.slice Ak (z k) ck),Mn.lf N B1 (z i) (av (z k) (Fct k (z k) F X i) (R k)),Mn.lf N B1 (z i) (fun x=>R i x - av (z k) (Fct k (z k) F X i) (R k) x),Mn.q gr i,Mn.any] [some 81,some 82,some 83,some 84,some 85,some 86,some 87,some 88,some 89,some 90,some 91,some 92,some 93,some 94,some 95,some 96,some 97,none] [17] (rQ 17 1) 1 (by kernel_rfl) ?_ ?_
    ·show ∀ i,i < 18->_
     iterate 18 refine fs ?_ ?_
     ·exact fz
     all_goals intro hl; first | exact absurd hl (by decide) | (clear hl; refine stp rfl ?_; intro ac wi eI hB hA K hK)
     have o3:=oOf (hB 3) rfl
     rotate_left
     obtain⟨_,s81,rfl⟩:=hA 0 81;have cc0:=eI.cell a2
     rotate_left
     have o12:=oOf (hB 12) rfl
     rotate_left
     have o3:=oOf (hB 3) rfl
     rotate_left
     obtain⟨_,s84,rfl⟩:=hA 3 84;have cc0:=eI.cell a2
     rotate_left
     have o12:=oOf (hB 12) rfl
     rotate_left
     obtain⟨_,s85,rfl⟩:=hA 4 85;obtain⟨_,s86,rfl⟩:=hA 5 86
     rotate_left
     obtain⟨_,s87,rfl⟩:=hA 6 87;have cc0:=eI.cell q0
     rotate_left
     have o14:=oOf (hB 14) rfl
     rotate_left
     have o3:=oOf (hB 3) rfl
     rotate_left
     obtain⟨_,s90,rfl⟩:=hA 9 90;have cc0:=eI.cell a2
     rotate_left
     have o1:=oOf (hB 1) rfl
     rotate_left
     obtain⟨_,s91,rfl⟩:=hA 10 91;obtain⟨_,s92,rfl⟩:=hA 11 92
     rotate_left
     obtain⟨_,s93,rfl⟩:=hA 12 93;have cc0:=eI.cell q1
     rotate_left
     obtain⟨_,s89,rfl⟩:=hA 8 89;obtain⟨_,s94,rfl⟩:=hA 13 94;clear hB hA
     ·go_simp;refine (Y4 (HFw.out.ext eI) (HLk.out.ext eI) HFH.out HRK.out HB2.out (by omega)).mono ?_;rintro e wj ⟨Aj,cj,rfl,hj9,ej⟩;go_wp2_with fail;exact hK.out _ _ ej (LsR.wide hj9 (HBI.out eI) (q_r) (q_r))
     obtain⟨_,s88,rfl⟩:=hA 7 88;obtain⟨x95,s95,j95⟩:=hA 14 95;replace j95:Mn.p (Mn.lf N B1 (z i) (av (z k) (Fct k (z k) F X i) (R k))) x95 wi:=j95;clear hB hA
     ·go_simp;refine (q3m (HLi.out.ext eI) j95 HSZ.out (by omega)).mono ?_;rintro e wj ⟨Aj,cj,rfl,hj9,ej⟩;go_wp2_with fail;exact hK.out _ _ ej (LsR.wide hj9 (HBI.out eI) (q_r) (q_r))
     obtain⟨_,s82,rfl⟩:=hA 1 82;obtain⟨_,s83,rfl⟩:=hA 2 83
     rotate_left
     all_goals clear hB hA; go_simp; exact q_k hK rfl
    intro vals wz eZ hJ;have J96:Mn.p (Mn.lf N B1 (z i) (fun x=>R i x - av (z k) (Fct k (z k) F X i) (R k) x)) (vals 15) wz:=hJ 15 (by decide) (by decide);have J97:vals 16=_:=hJ 16 (by decide) (by decide);clear hJ;simp only [pr,Nat.reduceAdd,J97];clear J97
    generalize vals 15=z96 at J96 ⊢
    have hlz:=J96;obtain⟨Av,cv,hvv,-,-⟩:=LsR.form hlz;rw [hvv] at hlz ⊢;have q2:=eZ.cell q0;have f2:wz.frozen? ⟨gr,i,none⟩=false:=zq (eZ.block HGR.out) i;refine ql (i:=17) rfl (by kernel_rfl) (by kernel_rfl) (fun K hK=>?_);go_simp;refine hK.out _ _ ?_;clear hK K;try simp only [nr]
    refine qh (by kernel_rfl) ?_ _;obtain⟨w9,E9,hs9,C9⟩:=(HSQ.out.ext eZ).setR HNE.out him (v:=.slice Av (z i) cv) (y:=fun x=>R i x - av (z k) (Fct k (z k) F X i) (R k) x) ⟨_,_,B1,_,rfl,hlz,.inr (q_r)⟩;rw [E9]
    have HSN:Hid (StM N B0 B1 w9 bz oz gm gr m z (Fel k (z k) F X (pA lf nl (a+1))) (Rel k (z k) F X R (kP lf (a+1)))):=hs9.congr (fun _ _ _ _ _ _ _ _=>rfl) (fun r _ x _=>by
     show (if r=i then (fun x=>R i x - av (z k) (Fct k (z k) F X i) (R k) x) else Rel k (z k) F X R (kP lf a) r) x=_
     unfold Rel;rw [yR,<-hi.out]
     by_cases hri:r=i
     ·rw [if_pos hri,hri,decide_eq_true rfl,Bool.or_true]
      rfl
     ·rw [if_neg hri,q_f (fun e:i=r=>hri e.symm),Bool.or_false])
    have HQZ:Hid (w9.heap[q]?=some kb):=C9.blk (eZ.block HQB'.out) (by have:=HQN.out; omega);have HCN:Hid (Chg B0 C1 w3 w9):=(HC5.out.trans (HCB.out.trans (eZ.chg B0 C1))).trans (C9.wide (by have:=HRB.out; omega) (by have:=HCC.out; omega));clear E9 hs9 C9 hlz q2 f2 q0 q1 a0 a1 a2 eZ hvv;go_wp2;go_roundw
    case rel=>exact⟨a+1,by omega,by go_num,HSN,HCN,HQZ⟩
    case measure=>simp [intOf]; omega
   have t3:decide ((b:Int) < (nl:Int))=true:=q_t (by omega);have t4:(b:Int) < (nl:Int):=by omega
   obtain⟨j,hj⟩:=qc (lf b);obtain⟨hjm,hjk⟩:=HL.out b hltb;have c1:=HCB.out.cell (HC5.out.cell (HC3.out b hltb) (.inl hbl)) (.inl hbl);rw [<-hj.out] at c1 hjm hjk
   have HPB:Hid (∀ r,pB lf nl a b r k=false/\pB lf nl a b k r=false):=fun r=>by
    have hbk:kP lf b k=false:=wH fun t ht=>(HL.out t (by omega)).2
    unfold pB;rw [(HPK.out r).1,(HPK.out r).2,hbk,<-hi.out,q_f (fun e:k=i=>hik e.symm),Bool.and_false,Bool.false_and];exact⟨rfl,rfl⟩
   have HBJ:Hid (pB lf nl a b i j=false):=by
    have h1:kP lf b j=false:=wH fun t ht h9=>by
     have:=HINJ.out t b (by omega) hltb (by rw [h9,hj.out]);omega
    rw [Hid];unfold pB pA;rw [HIA.out,h1,Bool.false_and,Bool.and_false]
    rfl
   have HBB:=q_h (HCB.out.blk HB5.out (.inr hbw3));obtain⟨a0,a1,a2,-⟩:=cells3 HBB.out;obtain⟨wx,hwx⟩:∃ wx,wx=wr:=⟨_,rfl⟩
   subst hwx;go_wp2_with (go_at_call 60; refine q_o ?_);refine (X6 (cz:=cz) (cr:=cr) HSB.out hm HZ.out (q0A HFM.out HF'.out (fun r c h=>q53 hlt hb h)) HKL.out hk hjm).mono ?_;rintro e w6 ⟨v,rfl,e6,hv⟩;rw [(q67 (HPB.out j).1 (HPB.out j).2).2] at hv;have HS6:=q_h (HSB.out.ext e6);have HC6:Hid (Chg B0 C1 w5 w6):=HCB.out.trans (e6.chg B0 C1);have HB6:=q_h (e6.block HBB.out);have HQ6:=q_h (e6.block HQB'.out);clear a0 a1 a2 c1 HSB HCB HBB HQB' e6
   by_cases hji:j<=i
   case neg =>
    have t5:decide ((j:Int)<=(i:Int))=false:=q_f (by omega);have HSN:Hid (StM N B0 B1 w6 bz oz gm gr m z (Fel k (z k) F X (pB lf nl a (b+1))) (Rel k (z k) F X R (kP lf a))):=HS6.out.congr (fun r c hcr _ x _ y _=>q5u hi.out hj.out hji hcr x y) (fun _ _ _ _=>rfl)
    obtain⟨vA,vn,vc,rfl⟩:∃ A n c,v=.slice A n c:=by
     rcases hv with ⟨rfl,-⟩ | ⟨A,k9,-,-,rfl,-⟩
     ·exact⟨_,_,_,rfl⟩
     ·exact⟨_,_,_,rfl⟩
    have hji':¬ (j:Int)<=(i:Int):=by omega
    clear hv hji;go_wp2;go_roundw
    case rel=>exact⟨b+1,by omega,by go_num,HSN,HC6,HQ6⟩
    case measure=>simp [intOf]; omega
   have t5:decide ((j:Int)<=(i:Int))=true:=q_t (by omega)
   rcases hv with ⟨rfl,h0⟩ | hmx
   ·have HSN:Hid (StM N B0 B1 w6 bz oz gm gr m z (Fel k (z k) F X (pB lf nl a (b+1))) (Rel k (z k) F X R (kP lf a))):=HS6.out.congr (fun r c _ _ x _ y hy=>VC h0 hj.out r c x hy) (fun _ _ _ _=>rfl);clear h0;go_wp2;go_roundw
    case rel=>exact⟨b+1,by omega,by go_num,HSN,HC6,HQ6⟩
    case measure=>simp [intOf]; omega
   obtain⟨A6,k6,lo6,hi6,rfl,hmt6⟩:=hmx.mtv;have HM6:=q_h hmt6;have hzj:=HZ.out j hjm;have HOH:Hid (HtM (z k) (z j) K (Fsy F k j)):=ZB HF.out hk hjm;have HF6:Hid (MtV N B1 w5.heap.size w6 (.slice (some ⟨g5,0,none⟩) (z i) cap5) (z i) (z k) (Fct k (z k) F X i)):=MtR.chg HF5.out HC6.out HNB.out (.inr HCC.out.2.2);have HGH:Hid (∀ x,x < z i->∀ y,y < z j->Sz (Gx k (z k) F X i j x y)):=fun x hx y hy=>(Yt HFH.out HOH.out x hx y hy).sz HB2.out
   have HFS:Hid (∀ x,x < z i->∀ y,y < z j->Sz (Fel k (z k) F X (pB lf nl a b) i j x y)):=fun x hx y hy=>(q0A HFM.out HF'.out (fun r c h=>q53 hlt hb h) i j hji him x hx y hy).sz HKL.out
   clear hmx hmt6;go_wp2_with (go_at_call 73; refine q_o ?_);refine (q25 HF6.out HM6.out hzi.1 hzi.2 hzk.1 hzk.2 hzj.1 hzj.2 HFH.out HOH.out HB2.out).mono ?_;rintro e w7 ⟨g7,cap7,β7,κ7,rfl,hcap7,ho7,e7⟩;have HG7:Hid (MtV N w6.heap.size w7.heap.size w7 (.slice (some ⟨g7,0,none⟩) (z i) cap7) (z i) (z j) (Gx k (z k) F X i j)):=ho7.mtv ho7.mle hcap7;have HS7:=q_h (HS6.out.ext e7);have HB7:=q_h (e7.block HB6.out);have HQ7:=q_h (e7.block HQ6.out);have HC7:Hid (Chg B0 C1 w5 w7):=HC6.out.trans (e7.chg B0 C1);obtain⟨a0,a1,a2,-⟩:=cells3 HB7.out;clear ho7 hcap7 e7 HM6 HF6 HS6 HC6 HB6 HQ6;go_wp2_with (go_at_call 130; refine q_o ?_);refine (VJ (cz:=cz) (cr:=cr) HS7.out HNE.out hm HZ.out him hji HFS.out HG7.out HGH.out).mono ?_;rintro e w8 ⟨rfl,hs8,hc8⟩;have HSN:Hid (StM N B0 B1 w8 bz oz gm gr m z (Fel k (z k) F X (pB lf nl a (b+1))) (Rel k (z k) F X R (kP lf a))):=hs8.congr (fun r c _ _ x _ y _=>q4q hi.out hj.out HBJ.out r c x y) (fun _ _ _ _=>rfl);have HC8:Hid (Chg B0 C1 w5 w8):=HC7.out.trans (hc8.wide HMB.out.1 (by have:=HCC.out; omega));have HQ8:=q_h (hc8.blk HQ7.out (by have:=HQN.out; omega));clear hs8 hc8 HQ7 HS7 HC7 HB7 HG7 a0 a1 a2;go_wp2;go_roundw
   case rel=>exact⟨b+1,by omega,by go_num,HSN,HC8,HQ8⟩
   case measure=>simp [intOf]; omega
def VR (o:Nat->Nat) (t s:Nat):Nat:=o (t+1+s)
section
variable (z o:Nat->Nat) (m:Nat) (F:Nat->Nat->Nat->Nat->Rat) (R:Nat->Nat->Rat)
noncomputable def fsS:Nat->Nat->Nat->Nat->Nat->Rat
 | 0=>F
 | t+1=>Fel (o t) (z (o t)) (fsS t) (kD (z (o t)) (fsS t (o t) (o t))) (pA (VR o t) (m - (t+1)) (m - (t+1)))
noncomputable def rsS:Nat->Nat->Nat->Rat
 | 0=>R
 | t+1=>Rel (o t) (z (o t)) (fsS z o m F t) (kD (z (o t)) (fsS z o m F t (o t) (o t))) (rsS t) (kP (VR o t) (m - (t+1)))
def PvF (t:Nat):Prop:=Reg (z (o t)) (fsS z o m F t (o t) (o t))
noncomputable def yS (x:Nat->Nat->Rat) (t:Nat):Nat->Nat->Rat
 | 0=>rsS z o m F R t (o t)
 | j+1=>fun a=>yS x t j a - av (z (o (t+1+j))) (Fsy (fsS z o m F t) (o t) (o (t+1+j))) (x (o (t+1+j))) a
noncomputable def xS (x:Nat->Nat->Rat) (t:Nat):Nat->Rat:=av (z (o t)) (kD (z (o t)) (fsS z o m F t (o t) (o t))) (yS z o m F R x t (m - (t+1)))
def yH (K Kx:Nat) (t:Nat):Nat->Nat
 | 0=>K
 | j+1=>yH K Kx t j+(z (o (t+1+j))*(K+Kx+1)+1)+1
end
variable {z o:Nat->Nat} {m:Nat} {F:Nat->Nat->Nat->Nat->Rat} {R:Nat->Nat->Rat}
theorem WG (hinj:∀ a b,a < m->b < m->o a=o b->a=b) {t s:Nat} (ht:t<=s) (hs:s < m):kP (VR o s) (m - (s+1)) (o t)=false :=
 wH fun q hq h=>by
  have:=hinj (s+1+q) t (by omega) (by omega) h;omega
theorem q0x (hinj:∀ a b,a < m->b < m->o a=o b->a=b) {t:Nat} (c:Nat):∀ d,t+d<=m->Fsy (fsS z o m F (t+d)) (o t) c=Fsy (fsS z o m F t) (o t) c
 | 0,_=>rfl
 | d+1,h=>by
  have ih:=q0x (t:=t) hinj c d (by omega);rw [<-ih];have h1:=WG (m:=m) (o:=o) hinj (Nat.le_add_right t d) (show t+d < m by omega)
  funext a b
  show Fsy (fsS z o m F ((t+d)+1)) (o t) c a b=_
  generalize t+d=u at h1
  rw [fsS];unfold Fsy Fel pA;rw [h1]
  by_cases hc:c<=o t
  ·rw [if_pos hc,if_pos hc,Bool.false_and,if_neg (by decide)]
  ·rw [if_neg hc,if_neg hc,Bool.and_false,if_neg (by decide)]
theorem q5r (hinj:∀ a b,a < m->b < m->o a=o b->a=b) {t:Nat} (ht:t<=m) (c:Nat):Fsy (fsS z o m F m) (o t) c=Fsy (fsS z o m F t) (o t) c:=by
 have h:=q0x (z:=z) (F:=F) hinj (t:=t) c (m - t) (by omega)
 rwa [show t+(m - t)=m by omega] at h
theorem WH (hinj:∀ a b,a < m->b < m->o a=o b->a=b) {t:Nat}:∀ d,t+d<=m->rsS z o m F R (t+d) (o t)=rsS z o m F R t (o t)
 | 0,_=>rfl
 | d+1,h=>by
  have ih:=WH (t:=t) hinj d (by omega);rw [<-ih];have h1:=WG (m:=m) (o:=o) hinj (Nat.le_add_right t d) (show t+d < m by omega)
  funext a
  show rsS z o m F R ((t+d)+1) (o t) a=_
  generalize t+d=u at h1
  rw [rsS];unfold Rel;rw [h1,if_neg (by decide)]
theorem q4X (hinj:∀ a b,a < m->b < m->o a=o b->a=b) {t:Nat} (ht:t<=m):rsS z o m F R m (o t)=rsS z o m F R t (o t):=by
 have h:=WH (z:=z) (F:=F) (R:=R) hinj (t:=t) (m - t) (by omega)
 rwa [show t+(m - t)=m by omega] at h
theorem VV {K Kx t:Nat}:∀ {a b:Nat},a<=b->yH z o K Kx t a<=yH z o K Kx t b
 | a,0,h=>by
  obtain rfl:a=0:=by omega
  exact q_r
 | a,b+1,h=>by
  by_cases h1:a=b+1
  ·rw [h1]; exact q_r
  ·refine q_l (VV (K:=K) (Kx:=Kx) (t:=t) (show a<=b by omega)) ?_
   show _<=yH z o K Kx t b+(z (o (t+1+b))*(K+Kx+1)+1)+1
   omega
theorem q4S {x:Nat->Nat->Rat} {K Kx t:Nat} (h0:HtL (z (o t)) K (rsS z o m F R t (o t))) (hF:∀ s,t < s->s < m->HtM (z (o t)) (z (o s)) K (Fsy (fsS z o m F t) (o t) (o s))) (hx:∀ s,t < s->s < m->HtL (z (o s)) Kx (x (o s))) :
  ∀ j,t+1+j<=m->HtL (z (o t)) (yH z o K Kx t j) (yS z o m F R x t j)
 | 0,_=>h0
 | j+1,h=>fun a ha=>by
  have ih:=q4S h0 hF hx j (by omega) a ha;unfold yS yH;refine (ih.sub (?_:Ht (z (o (t+1+j))*(K+Kx+1)+1) _)).mono (q_r);unfold av;exact Zz fun c hc=>(hF _ (by omega) (by omega) a ha c hc).mul (hx _ (by omega) (by omega) c hc)
theorem set31 {t:TypeId} {y0 y1 y2:Value} (hb:w.heap[g]?=some (.cells #[y0,y1,y2] t (0,0))) (x0:Value):∃ w1,w.setCell ⟨g,1,none⟩ x0=w1/\w1.heap[g]?=some (.cells #[y0,x0,y2] t (0,0))/\Upd g w w1 :=
 ⟨_,rfl,by have h1:=heap_set hb 1 x0; simpa using h1,(Upd.refl g w).set 1 x0⟩
def q1j (N:Nat) (w:World) (m n:Nat) (X:Nat->Nat->Rat) (y p:Nat->Rat) (v:Value) (w':World):Prop :=
 ∃ h cap g2 c2 g3 c3 lo,v=.agg #[.slice (some ⟨h,0,none⟩) m cap,.slice (some ⟨g2,0,none⟩) m c2,.slice (some ⟨g3,0,none⟩) m c3]/\w.heap.size<=g2/\g2 < g3/\g3 < lo/\MtV N lo w'.heap.size w' (.slice (some ⟨h,0,none⟩) m cap) m n X /\
  m<=c2/\c2<=maxLen/\zC N w' g2 c2 m y/\m<=c3/\c3<=maxLen/\zC N w' g3 c3 m p
theorem q1j.chg {l u:Nat} {w1 w2:World} {X:Nat->Nat->Rat} {y p:Nat->Rat} (h:q1j N w m n X y p v w1) (c:Chg l u w1 w2) (hN:N<=l) (hl:u<=w.heap.size):q1j N w m n X y p v w2:=by
 obtain⟨h,cap,g2,c2,g3,c3,lo,rfl,k1,k2,k3,hM,k4,k5,r2,k6,k7,r3⟩:=h;have hM2:=hM.chg c hN (.inr (by omega));exact⟨h,cap,g2,c2,g3,c3,lo,rfl,k1,k2,k3,MtR.wide hM2 (q_r) c.size (q_r),k4,k5,r2.chg c hN (.inr (by omega)),k6,k7,r3.chg c hN (.inr (by omega))⟩
theorem q1j.ext {w1 w2:World} {X:Nat->Nat->Rat} {y p:Nat->Rat} (h:q1j N w m n X y p v w1) (e:Ext w1 w2):q1j N w m n X y p v w2:=by
 obtain⟨h,cap,g2,c2,g3,c3,lo,rfl,k1,k2,k3,hM,k4,k5,r2,k6,k7,r3⟩:=h;exact⟨h,cap,g2,c2,g3,c3,lo,rfl,k1,k2,k3,MtR.wide (hM.ext e) (q_r) e.size (q_r),k4,k5,r2.ext e,k6,k7,r3.ext e⟩
theorem q1j.low {w0 w1:World} {X:Nat->Nat->Rat} {y p:Nat->Rat} (h:q1j N w m n X y p v w1) (hl:w0.heap.size<=w.heap.size):q1j N w0 m n X y p v w1:=by
 obtain⟨h,cap,g2,c2,g3,c3,lo,rfl,k1,k2,k3,hM,k4,k5,r2,k6,k7,r3⟩:=h;exact⟨h,cap,g2,c2,g3,c3,lo,rfl,by omega,k2,k3,hM,k4,k5,r2,k6,k7,r3⟩
theorem q1j.form {w1:World} {X:Nat->Nat->Rat} {y p:Nat->Rat} (h:q1j N w m n X y p v w1):∃ (A1:Option Addr) (c1:Nat) (A2:Option Addr) (c2:Nat) (A3:Option Addr) (c3:Nat),v=.agg #[.slice A1 m c1,.slice A2 m c2,.slice A3 m c3] /\
  MtV N 0 w1.heap.size w1 (.slice A1 m c1) m n X/\LsV N 0 w1.heap.size w1 (.slice A2 m c2) m y/\LsV N 0 w1.heap.size w1 (.slice A3 m c3) m p:=by
 obtain⟨h,cap,g2,c2,g3,c3,lo,rfl,k1,k2,k3,hM,k4,k5,r2,k6,k7,r3⟩:=h;have l2:=r2.lt;have l3:=r3.lt;exact⟨_,_,_,_,_,_,rfl,MtV.all hM,r2.lsv k4 k5 (Nat.zero_le _) l2 (q_r),r3.lsv k6 k7 (Nat.zero_le _) l3 (q_r)⟩
end Go.Proofs.YtfmddpahhloleaaGreat
