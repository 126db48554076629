import Derived.Test.YtflhlobiipejeaaGreatWb23
import Derived.ProofKit
import Derived.Laws.BitsAllLaws
set_option linter.all false
set_option maxHeartbeats 8000000
set_option maxRecDepth 100000
namespace Go.Proofs.YtflhlobiipejeaaGreat
variable {w w':World} {N n lo hi k g m base c K:Nat} {v:Value} {q:Rat}
section
open Go.RowKit
theorem jM:90≠119/\90≠37/\90≠35/\90≠3:=by decide
theorem qU.chgT{h:Nat}{β κ:Nat->Nat}{A:q_m}(o:qU N lo hi w h k m n β κ A)(C:Chg g (g+1) w w') (hN:N<=g){cs:Array Value}{t:TypeId}(hB:w.heap[g]?=some (.cells cs t (0,0))) (h1:t≠37) (h2:t≠35):qU N lo hi w' h k m n β κ A:=by
 obtain⟨a1,⟨hs,a2,a3⟩,a4,a5,a6,a7,a8,a9,a10,a11,a12⟩:=o
 have hne:h≠g:=fun e=>by
  rw[e,hB] at a2;simp only[Option.some.injEq,Obj.cells.injEq] at a2;exact h1 a2.2.1
 refine⟨a1,⟨hs,C.blk a2 (by omega),a3⟩,a4,a5,a6,q_l a7 C.size,a8,a9,a10,fun i hi=>?_,a12⟩;have hr:=a11 i hi
 have hnb:β i≠g:=fun e=>by
  obtain⟨-,-,⟨cs',h3,-⟩,-⟩:=hr;rw[e,hB] at h3;simp only[Option.some.injEq,Obj.cells.injEq] at h3;exact h2 h3.2.1
 exact hr.chg C hN (by omega)
theorem q8Z{t:TypeId}{y0 y1 y2 y3 y4:Value}(hb:w.heap[g]?=some (.cells #[y0,y1,y2,y3,y4] t (0,0))) (x0 x1 x2 x3 x4:Value):∃w1,(((((w.setCell ⟨g,0,none⟩ x0).setCell ⟨g,1,none⟩ x1).setCell ⟨g,2,none⟩ x2).setCell ⟨g,3,none⟩ x3).setCell ⟨g,4,none⟩ x4)=w1/\w1.heap[g]?=some (.cells #[x0,x1,x2,x3,x4] t (0,0))/\Upd g w w1:=by
 refine⟨_,rfl,?_,(((((Upd.refl g w).set 0 x0).set 1 x1).set 2 x2).set 3 x3).set 4 x4⟩;have h1:=heap_set (heap_set (heap_set (heap_set (heap_set hb 0 x0) 1 x1) 2 x2) 3 x3) 4 x4;simpa using h1
theorem YI{t:TypeId}{x0 x1 x2 x3 x4:Value}(h:w.heap[g]?=some (.cells #[x0,x1,x2,x3,x4] t (0,0))):w.frozen? ⟨g,0,none⟩=false/\w.frozen? ⟨g,1,none⟩=false/\w.frozen? ⟨g,2,none⟩=false/\w.frozen? ⟨g,3,none⟩=false/\w.frozen? ⟨g,4,none⟩=false:=by
 refine⟨?_,?_,?_,?_,?_⟩<;>exact qY h _
theorem q8t{t:TypeId}{x0 x1 x2 x3 x4:Value}(hb:w.heap[g]?=some (.cells #[x0,x1,x2,x3,x4] t (0,0))) (ht:t≠119) (u:Value):∃w',w.setCell ⟨g,0,none⟩ u=w'/\w'.heap[g]?=some (.cells #[u,x1,x2,x3,x4] t (0,0))/\Chg g (g+1) w w' :=
 ⟨_,rfl,by have h1:=heap_set hb 0 u;simpa using h1,((Upd.refl g w).set 0 u).chg (NoU.mk hb ht)⟩
theorem q8s{t:TypeId}{x0 x1 x2 x3 x4:Value}(hb:w.heap[g]?=some (.cells #[x0,x1,x2,x3,x4] t (0,0))) (ht:t≠119) (u:Value):∃w',w.setCell ⟨g,1,none⟩ u=w'/\w'.heap[g]?=some (.cells #[x0,u,x2,x3,x4] t (0,0))/\Chg g (g+1) w w' :=
 ⟨_,rfl,by have h1:=heap_set hb 1 u;simpa using h1,((Upd.refl g w).set 1 u).chg (NoU.mk hb ht)⟩
theorem q8r{t:TypeId}{x0 x1 x2 x3 x4:Value}(hb:w.heap[g]?=some (.cells #[x0,x1,x2,x3,x4] t (0,0))) (ht:t≠119) (u:Value):∃w',w.setCell ⟨g,2,none⟩ u=w'/\w'.heap[g]?=some (.cells #[x0,x1,u,x3,x4] t (0,0))/\Chg g (g+1) w w' :=
 ⟨_,rfl,by have h1:=heap_set hb 2 u;simpa using h1,((Upd.refl g w).set 2 u).chg (NoU.mk hb ht)⟩
def DvG (base:Nat) (w:World) (v0 v1 v2:Value) (l0 l1 l2:List Nat):Prop :=
 qO 3 base w v0 (ivs l0)/\qO 3 base w v1 (ivs l1)/\qO 3 base w v2 (ivs l2)/\Apt v0 v1/\Apt v0 v2/\Apt v1 v2
theorem DvG.ext{v0 v1 v2:Value}{l0 l1 l2:List Nat}(h:DvG base w v0 v1 v2 l0 l1 l2) (e:Ext w w'):DvG base w' v0 v1 v2 l0 l1 l2:=⟨h.1.ext e,h.2.1.ext e,h.2.2.1.ext e,h.2.2.2⟩
theorem DvG.chg {l u:Nat}{v0 v1 v2:Value}{l0 l1 l2:List Nat}(h:DvG base w v0 v1 v2 l0 l1 l2) (c:Chg l u w w') (hd:u<=base):DvG base w' v0 v1 v2 l0 l1 l2:=⟨h.1.chg c hd,h.2.1.chg c hd,h.2.2.1.chg c hd,h.2.2.2⟩
section
variable {base:Nat}{w w':World}{v0 v1 v2:Value}{l0 l1 l2 l:List Nat}{gq n c:Nat}
theorem DvG.app0 (h:DvG base w v0 v1 v2 l0 l1 l2) (hG:qO 3 base w' (.slice (some ⟨gq,0,none⟩) n c) (ivs l)) (hat:v0.ownBlock=some gq\/gq=w.heap.size) (hc:∃g',base<=g'/\(v0.ownBlock=some g'\/g'=w.heap.size)/\Chg g' (g'+1) w w'/\NoU w g'):DvG base w' (.slice (some ⟨gq,0,none⟩) n c) v1 v2 l l1 l2:=by
 obtain⟨h1,h2,h3,h4,h5,h6⟩:=h;exact⟨hG,ji h2 h4.symm hc,ji h3 h5.symm hc,(h4.symm.app h2 hat).symm,(h5.symm.app h3 hat).symm,h6⟩
theorem DvG.app1 (h:DvG base w v0 v1 v2 l0 l1 l2) (hG:qO 3 base w' (.slice (some ⟨gq,0,none⟩) n c) (ivs l)) (hat:v1.ownBlock=some gq\/gq=w.heap.size) (hc:∃g',base<=g'/\(v1.ownBlock=some g'\/g'=w.heap.size)/\Chg g' (g'+1) w w'/\NoU w g'):DvG base w' v0 (.slice (some ⟨gq,0,none⟩) n c) v2 l0 l l2:=by
 obtain⟨h1,h2,h3,h4,h5,h6⟩:=h;exact⟨ji h1 h4 hc,hG,ji h3 h6.symm hc,h4.app h1 hat,h5,(h6.symm.app h3 hat).symm⟩
theorem DvG.app2 (h:DvG base w v0 v1 v2 l0 l1 l2) (hG:qO 3 base w' (.slice (some ⟨gq,0,none⟩) n c) (ivs l)) (hat:v2.ownBlock=some gq\/gq=w.heap.size) (hc:∃g',base<=g'/\(v2.ownBlock=some g'\/g'=w.heap.size)/\Chg g' (g'+1) w w'/\NoU w g'):DvG base w' v0 v1 (.slice (some ⟨gq,0,none⟩) n c) l0 l1 l:=by
 obtain⟨h1,h2,h3,h4,h5,h6⟩:=h;exact⟨ji h1 h5 hc,ji h2 h6 hc,hG,h4,h5.app h1 hat,h6.app h2 hat⟩
end
theorem Jq{u:Value}{o:Obj}(hc:∃g',base<=g'/\(u.ownBlock=some g'\/g'=w.heap.size)/\Chg g' (g'+1) w w'/\NoU w g') (hb:w.heap[g]?=some o) (hg:g<base):w'.heap[g]?=some o:=by
 obtain⟨g',h1,-,C,-⟩:=hc;exact C.blk hb (.inl (by omega))
def Mn.i1 (x:Int):Mn:=⟨fun v w=>∃g,v=.slice (some ⟨g,0,none⟩) 1 1/\w.heap[g]?=some (.cells #[.int .i64 x] 3 (0,0)),fun e h=>by
 obtain⟨g,hv,h1⟩:=h
 exact⟨g,hv,e.block h1⟩⟩
def xM (z:Nat->Nat) (k a:Nat) (b:Bool):List Nat:=if b=true then (List.range a).map (fun x=>ql z k+x) else []
theorem Yn (z:Nat->Nat) (k a:Nat):xM z k (a+1) true=xM z k a true ++ [ql z k+a]:=by unfold xM;rw[if_pos rfl,if_pos rfl,List.range_succ,List.map_append];rfl
theorem q2o (z:Nat->Nat) (k a:Nat):xM z k a false=[]:=by unfold xM;rw[if_neg (by decide)]
theorem wI (z:Nat->Nat) (k:Nat) (b:Bool):xM z k 0 b=[]:=by unfold xM;split<;>rfl
theorem vM (z:Nat->Nat) (g:Nat->Bool) (k:Nat):xP z g (k+1)=xP z g k++xM z k (z k) (g k):=rfl
theorem WG (z:Nat->Nat) (k a:Nat) (b:Bool):(xM z k a b).length<=a:=by unfold xM;split<;>simp
theorem XD (z:Nat->Nat) (g:Nat->Bool):∀k,(xP z g k).length<=ql z k
 | 0=>q_r
 | k+1=>by
  rw[vM,List.length_append];have h1:=XD z g k;have h2:=WG z k (z k) (g k)
  show _<=ql z k+z k
  omega
theorem jX (g:Nat->Bool) (k:Nat):xQ g (k+1)=xQ g k++(if g k=true then [k] else []):=by
 unfold xQ;rw[List.range_succ,List.filter_append]
 congr 1
 cases h:g k<;>simp[h]
theorem Wy (g:Nat->Bool) (k:Nat):(xQ g k).length<=k:=by
 unfold xQ;exact q_l (List.length_filter_le _ _) (by simp)
def Yv:Value:=.agg #[.slice none 0 0,.slice none 0 0,.slice none 0 0,.slice none 0 0,.slice none 0 0]
def Mn.bxd (B:Nat):Mn:=⟨fun v w=>∃g,v=.pointer (some ⟨g,0,none⟩)/\B<=g/\w.heap[g]?=some (.cells #[.slice none 0 0,.slice none 0 0,.slice none 0 0,.slice none 0 0,.slice none 0 0] 90 (0,0)),fun e h=>by
 obtain⟨g,hv,h0,h1⟩:=h
 exact⟨g,hv,h0,e.block h1⟩⟩
def Mn.dv (N lo n:Nat) (X:q_m) (r:Value):Mn:=⟨fun v w=>∃h cap β κ hi,v=.agg #[.slice none 0 0,.slice none 0 0,.slice none 0 0,.slice (some ⟨h,0,none⟩) n cap,r]/\cap<=maxLen/\qU N lo hi w h cap n n β κ X,fun e h=>by
 obtain⟨h,cap,β,κ,hi,h0,h1,h2⟩:=h
 exact⟨h,cap,β,κ,hi,h0,h1,h2.ext e⟩⟩
def q1o (N:Nat) (w:World) (Z:Sys) (z:Nat->Nat) (L:Nat->Int) (nl:Nat) (rv:Value) (e:Ending) (w':World):Prop :=
 Ext w w'/\((yG L nl Z.ns≠0/\e=.returned (.tuple #[Yv,.int .i64 (yG L nl Z.ns)])) \/
  (yG L nl Z.ns=0/\∃(A0:Option Addr) (d0:Nat) (A1:Option Addr) (d1:Nat) (A2:Option Addr) (d2:Nat) (A3:Option Addr) (d3:Nat),
   e=.returned (.tuple #[.agg #[.slice A0 (xP z (inL L nl) Z.ns).length d0,.slice A1 (xP z (fun k=>!inL L nl k) Z.ns).length d1,.slice A2 (xQ (fun k=>!inL L nl k) Z.ns).length d2,.slice A3 (ql z Z.ns) d3,rv],.int .i64 0]) /\
   IxV N 0 w'.heap.size w' (.slice A0 (xP z (inL L nl) Z.ns).length d0) (xP z (inL L nl) Z.ns).length (ql z Z.ns) (fun a=>(xP z (inL L nl) Z.ns)[a]?.getD 0) /\
   IxV N 0 w'.heap.size w' (.slice A1 (xP z (fun k=>!inL L nl k) Z.ns).length d1) (xP z (fun k=>!inL L nl k) Z.ns).length (ql z Z.ns) (fun a=>(xP z (fun k=>!inL L nl k) Z.ns)[a]?.getD 0) /\
   IxV N 0 w'.heap.size w' (.slice A2 (xQ (fun k=>!inL L nl k) Z.ns).length d2) (xQ (fun k=>!inL L nl k) Z.ns).length Z.ns (fun a=>(xQ (fun k=>!inL L nl k) Z.ns)[a]?.getD 0) /\
   MtV N 0 w'.heap.size w' (.slice A3 (ql z Z.ns) d3) (ql z Z.ns) (ql z Z.ns) (kK Z z)))
theorem q5J {lo' hi':Nat}{v1 v2 v3 u:Value}{Z:Sys}(h:jI N lo hi w (.agg #[v1,v2,v3]) Z) (h0:Okk Z){z:Nat->Nat}(hz:∀i,i<Z.ns->Z.z i=(z i:Int)){nl:Nat}{L:Nat->Int}(hu:IzV N lo' hi' w u nl L) (hl:nl<1000) :
  Calls Tryz.prog 46 #[.agg #[v1,v2,v3],u] w (q1o N w Z z L nl v3):=by
 obtain⟨Q,hQ⟩:=qc (q1o N w Z z L nl v3);rw[<-hQ.out];have HS:=q_h h;have HO:=q_h h0;have HZ:=q_h hz;have HU:=q_h hu;obtain⟨A1,c1,A2,c2,A3,c3,hv,s1,s2,s3,k1,k2,k3⟩:=h.parts;simp only[Value.agg.injEq,Array.mk.injEq,List.cons.injEq,and_true] at hv;obtain⟨rfl,rfl,rfl⟩:=hv;obtain⟨A4,c4,rfl,hnc,hcn⟩:=hu.form;unfold maxLen at hcn;have HI:=q_h s1;have hN:=LsR.le s3;obtain⟨n,hn⟩:=qc (ql z Z.ns);have HDN:=fun (w':World) (e:Ext w w')=>q83 (h.ext e) h0 hz
 have HST:=fun (w':World) (e:Ext w w')=>Zh (h.ext e) h0.n2 h0.szs
 obtain⟨m,hm⟩:=qc Z.ns;rw[<-hn.out] at HDN;rw[<-hm.out] at HST HDN ⊢;rw[<-hm.out] at k1;have HST':=q_h HST;have HDN':=q_h HDN;have hm12:m<=12:=by have:=h0.n2;have:=hm.out;omega
 obtain⟨cd,hcd⟩:=qc (yG L nl m);clear h h0 hz s1 s2 s3 HST HDN hu;go_enter Tryz.func46,Tryz.ntmps46;go_upto_region 1 with (fail);refine kD ?_;intro W hE hsz B0 B4;obtain⟨g0,hg0⟩:=qc w.heap.size;have hgw:w.heap.size<=g0:=by rw[hg0.out];exact q_r
 rw[<-hg0.out] at B0 B4 hsz ⊢;have HB0:=q_h B0;have HB4:=q_h B4;clear hg0 B0 B4;obtain⟨w1,hw1⟩:∃w1,w1=W:=⟨_,rfl⟩
 subst hw1;go_wp2_with fail
 go_loopw [15] (fun iv wr=>∃i:Nat,i<=nl/\iv=.int .i64 (i:Int)/\Hid (∀j,j<i->lsC L m j=0)/\Hid (Ext w1 wr)) (fun iv _=>nl-(intOf iv).toNat)
 case atStart=>exact⟨0,Nat.zero_le _,rfl,fun j hj=>absurd hj (Nat.not_lt_zero j),Ext.refl _⟩
 case round =>
  obtain⟨i,hi9,rfl,HA,HE⟩:=hrel;obtain⟨a0,a1,a2,-⟩:=cells3 (HE.out.block HB0.out)
  by_cases hlt:i<nl
  case pos =>
   have t1:decide ((i:Int)<(nl:Int))=true:=q_t (by omega);have t2:(i:Int)<(nl:Int):=by omega
   obtain⟨b,off,rfl,hx⟩:=(HU.out.ext (hE.trans HE.out)).addr (by omega);have p0:=hx i hlt
   have HCI:Hid (lsC L m i≠0->cd=lsC L m i):=fun h9=>by
    rw[hcd.out];unfold yG;exact ZM hlt HA.out h9
   obtain⟨u,hu⟩:=qc (L i);rw[<-hu.out] at p0
   have HLS:Hid (lsC L m i=if u<0\/(m:Int)<=u then 2 else if kT i (fun t=>decide (L t=u))=true then 7 else 0):=by
    rw[hu.out];rfl
   have h5:=HE.out.block HB4.out;clear hx
   by_cases hbad:u<0\/(m:Int)<=u
   ·have HF:Hid (cd=2):=by
     have h9:=HLS.out;rw[if_pos hbad] at h9;have:=HCI.out (by rw[h9];decide);rw[Hid,this,h9]
    have hE9:=hE.trans HE.out
    by_cases hu0:u<0
    ·have t3:decide (u<0)=true:=q_t hu0;clear hbad hu0;obtain⟨x0,x1,x2,x3,x4⟩:=zq h5;obtain⟨y0,y1,y2,y3,y4⟩:=YI h5;go_wp2;obtain⟨w10,E10,D10,U10⟩:=q8Z h5 (.slice none 0 0) (.slice none 0 0) (.slice none 0 0) (.slice none 0 0) (.slice none 0 0);rw[E10];have C10:=U10.chg (NoU.mk h5 jM.1);have hE10:=C10.ext hE9 (by omega);clear x0 x1 x2 x3 x4;obtain⟨x0,x1,x2,x3,x4⟩:=zq D10;refine bodyPost_ret (v:=.tuple #[Yv,.int .i64 2]) ?_ rfl ?_
     ·simp[results,x0,x1,x2,x3,x4,go_sem,Yv]
     ·rw[hQ.out];unfold q1o;rw[<-hm.out,<-hcd.out,HF.out];exact⟨hE10,.inl ⟨by decide,rfl⟩⟩
    ·have t3:decide (u<0)=false:=q_f hu0;have t4:decide ((m:Int)<=u)=true:=q_t (by omega);clear hbad;obtain⟨x0,x1,x2,x3,x4⟩:=zq h5;obtain⟨y0,y1,y2,y3,y4⟩:=YI h5;go_wp2;obtain⟨w10,E10,D10,U10⟩:=q8Z h5 (.slice none 0 0) (.slice none 0 0) (.slice none 0 0) (.slice none 0 0) (.slice none 0 0);rw[E10];have C10:=U10.chg (NoU.mk h5 jM.1);have hE10:=C10.ext hE9 (by omega);clear x0 x1 x2 x3 x4;obtain⟨x0,x1,x2,x3,x4⟩:=zq D10;refine bodyPost_ret (v:=.tuple #[Yv,.int .i64 2]) ?_ rfl ?_
     ·simp[results,x0,x1,x2,x3,x4,go_sem,Yv]
     ·rw[hQ.out];unfold q1o;rw[<-hm.out,<-hcd.out,HF.out];exact⟨hE10,.inl ⟨by decide,rfl⟩⟩
   have t3:decide (u<0)=false:=q_f (by omega);have t4:decide ((m:Int)<=u)=false:=q_f (by omega)
   have HL2:Hid (lsC L m i=if kT i (fun t=>decide (L t=u))=true then 7 else 0):=by
    have h9:=HLS.out
    rwa [if_neg hbad] at h9
   have hc40:¬c4=0:=by omega
   have t5:(i:Int)<=(c4:Int):=by omega
   clear hbad;go_wp2_with (go_at_call 64;refine q_o ?_);refine (kP (N:=N) (lo:=0) (hi:=0) (n:=i) (z:=L) ⟨rfl,some ⟨b,off,none⟩,c4,rfl,by omega,by unfold maxLen;omega,fun h9=>?_⟩ u).mono ?_
   ·obtain⟨b',off',hbb,hx⟩:=(HU.out.ext (hE.trans HE.out)).addr (by omega);simp only[Option.some.injEq,Addr.mk.injEq,and_true] at hbb;obtain⟨rfl,rfl⟩:=hbb;exact⟨b,off,rfl,fun j hj=>hx j (by omega)⟩
   rintro e w3 ⟨rfl,e3⟩;obtain⟨r,hr⟩:=qc (kT i (fun t=>decide (L t=u)));rw[<-hr.out] at HL2 ⊢;cases r with
   | true =>
    have HF:Hid (cd=7):=by
     have h9:=HL2.out;rw[if_pos rfl] at h9;have:=HCI.out (by rw[h9];decide);rw[Hid,this,h9]
    have hE9:=(hE.trans HE.out).trans e3;replace h5:=e3.block h5;clear a0 a1 a2 p0;obtain⟨x0,x1,x2,x3,x4⟩:=zq h5;obtain⟨y0,y1,y2,y3,y4⟩:=YI h5;go_wp2;obtain⟨w10,E10,D10,U10⟩:=q8Z h5 (.slice none 0 0) (.slice none 0 0) (.slice none 0 0) (.slice none 0 0) (.slice none 0 0);rw[E10];have C10:=U10.chg (NoU.mk h5 jM.1);have hE10:=C10.ext hE9 (by omega);clear x0 x1 x2 x3 x4;obtain⟨x0,x1,x2,x3,x4⟩:=zq D10;refine bodyPost_ret (v:=.tuple #[Yv,.int .i64 7]) ?_ rfl ?_
    ·simp[results,x0,x1,x2,x3,x4,go_sem,Yv]
    ·rw[hQ.out];unfold q1o;rw[<-hm.out,<-hcd.out,HF.out];exact⟨hE10,.inl ⟨by decide,rfl⟩⟩
   | false =>
    have HN:Hid (∀j,j<i+1->lsC L m j=0):=fun j hj=>by
     by_cases hji:j=i
     ·rw[hji,HL2.out,if_neg (by decide)]
     ·exact HA.out j (by omega)
    have HE3:Hid (Ext w1 w3):=HE.out.trans e3;clear a0 a1 a2 p0 e3;go_wp2;go_roundw
    case rel=>exact⟨i+1,by omega,by go_num,HN,HE3⟩
    case measure=>simp[intOf];omega
  have t1:decide ((i:Int)<(nl:Int))=false:=q_f (by omega);obtain rfl:nl=i:=by omega
  have HCD:Hid (cd=0):=by rw[Hid,hcd.out];exact jk HA.out
  obtain⟨w4,hw4⟩:∃w4,w4=wr:=⟨_,rfl⟩
  subst hw4;have HE4:Hid (Ext w w4):=hE.trans HE.out;have HB40:=q_h (HE.out.block HB4.out);have hsz4:g0+2<=w4.heap.size:=by have:=HE.out.size;omega
  go_upto_region 9 with (fail);refine yB [Mn.eq (.agg #[.slice A1 m c1,.slice A2 Z.nb c2,.slice A3 Z.k c3]),Mn.own N w4.heap.size n n (kK Z z),Mn.q g0 2,Mn.eq (.slice A3 Z.k c3),Mn.dv N w4.heap.size n (kK Z z) (.slice A3 Z.k c3),Mn.bxd w4.heap.size,Mn.any] [some 37,some 38,some 39,some 40,some 41,some 8,none] [6] (rQ 6 1) 1 (by kernel_rfl) ?_ ?_
  ·show ∀i,i<7->_
   iterate 7 refine fs ?_ ?_
   ·exact fz
   all_goals intro hl;first|exact absurd hl (by decide)|(clear hl;refine stp rfl ?_;intro ac wi eI hB hA K hK)
   have o2:=oOf (hB 2) rfl;have cc0:=eI.cell a0;have cc1:=eI.cell a1;have cc2:=eI.cell a2;rotate_left;obtain⟨_,s37,rfl⟩:=hA 0 37;clear hB hA
   ·go_simp;refine (HDN'.out _ (HE4.out.trans eI)).mono ?_;rintro e wj ⟨hj,kj,βj,κj,rfl,hcj,hoj,ej⟩;go_wp2_with fail;exact hK.out _ _ ej ⟨hj,kj,βj,κj,_,rfl,hcj,hoj.wide eI.size (by have:=HE4.out.size;omega) (q_r) (q_r)⟩
   have o2:=oOf (hB 2) rfl;rotate_left;obtain⟨_,s39,rfl⟩:=hA 2 39;have cc0:=eI.cell a2;rotate_left;obtain⟨x38,s38,j38⟩:=hA 1 38;replace j38:Mn.p (Mn.own N w4.heap.size n n (kK Z z)) x38 wi:=j38;obtain⟨_,s40,rfl⟩:=hA 3 40;clear hB hA
   ·obtain⟨hj,kj,βj,κj,hij,rfl,hcj,hoj⟩:=j38;go_simp;exact q_k hK ⟨hj,kj,βj,κj,hij,rfl,hcj,hoj⟩
   clear hB hA
   ·go_simp;refine qo ?_;intro wj ej hszj BJ;exact hK.out _ _ ej ⟨_,rfl,eI.size,BJ⟩
   all_goals clear hB hA;go_simp;exact q_k hK rfl
  intro vals wz eZ hJ;have J41:Mn.p (Mn.dv N w4.heap.size n (kK Z z) (.slice A3 Z.k c3)) (vals 4) wz:=hJ 4 (by decide) (by decide);have J8:Mn.p (Mn.bxd w4.heap.size) (vals 5) wz:=hJ 5 (by decide) (by decide);clear hJ;simp only[pr,Nat.reduceAdd]
  generalize vals 4=z41 at J41 ⊢
  generalize vals 5=z8 at J8 ⊢
  obtain⟨hj,kj,βj,κj,hij,rfl,hcj,hoj⟩:=J41;obtain⟨gS,rfl,hgS,BS⟩:=J8;refine qj (i:=6) rfl (by kernel_rfl) (by kernel_rfl) (fun K hK=>?_);obtain⟨r0,r1,r2,r3,r4⟩:=zq BS;obtain⟨v0,v1,v2,v3,v4⟩:=YI BS;go_simp;obtain⟨w5,E5,B5,U5⟩:=q8Z BS (.slice none 0 0) (.slice none 0 0) (.slice none 0 0) (.slice (some ⟨hj,0,none⟩) n kj) (.slice A3 Z.k c3);rw[E5];refine hK.out _ _ ?_;clear hK K;try simp only[nr]
  refine qg (by kernel_rfl) ?_ _;have C5:=U5.chg (NoU.mk BS jM.1);have HE5:Hid (Ext w w5):=C5.ext (HE4.out.trans eZ) (by have:=HE4.out.size;omega);have HO5:Hid (qU N w4.heap.size hij w5 hj kj n n βj κj (kK Z z)):=hoj.chgT C5 (by have:=HE4.out.size;omega) BS jM.2.1 jM.2.2.1;have HB5:=q_h (C5.blk (eZ.block HB40.out) (.inl (by omega)));have HB05:=q_h (C5.blk (eZ.block (HE.out.block HB0.out)) (.inl (by omega)));have HS5:=q_h B5;have hS5:gS<w5.heap.size:=qF B5;obtain⟨a0',a1',a2',-⟩:=cells3 HB05.out;clear a0 a1 a2 r0 r1 r2 r3 r4 v0 v1 v2 v3 v4 E5 B5 U5 C5 BS eZ hoj HB40 HE HB0 HB4 HDN' t1 hlt HA;go_wp2_with (go_at_call 36;refine q_o ?_);refine (HST'.out _ HE5.out).mono ?_;rintro e w6 ⟨gs,cs,rfl,⟨hcs1,hcs2⟩,hgs1,hgs2,hgs3,e6⟩;unfold maxLen at hcs2
  have HG6:Hid (∀i,i<m+1->w6.cell? ⟨gs,i,none⟩=some (.int .i64 (ql z i:Int))):=fun i hi=>by
   rw[<-ku (fun j hj=>HZ.out j (by have:=hm.out;omega))];exact hgs3 i hi
  have HE6:Hid (Ext w w6):=HE5.out.trans e6;have HO6:=q_h (HO5.out.ext e6);have HB6:=q_h (e6.block HB5.out);have HS6:=q_h (e6.block HS5.out);have HB06:=q_h (e6.block HB05.out);have HS6':=q_h (e6.block HS5.out);have hs56:=e6.size;have HDG:Hid (DvG w6.heap.size w6 (.slice none 0 0) (.slice none 0 0) (.slice none 0 0) [] [] []):=⟨qO.nil (q_r),qO.nil (q_r),qO.nil (q_r),Apt.nil _,Apt.nil _,Apt.nil _⟩
  clear a0' a1' a2' e6 hgs3 HO5 HB5 HS5 HB05 HST';obtain⟨a0,a1,a2,-⟩:=cells3 HB06.out;go_wp2_with fail
  go_loopw [47] (fun iv wr=>∃(k:Nat) (A0:Option Addr) (d0:Nat) (A1:Option Addr) (d1:Nat) (A2:Option Addr) (d2:Nat),k<=m/\iv=.int .i64 (k:Int)/\Hid (wr.heap[gS]?=some (.cells #[.slice A0 (xP z (inL L nl) k).length d0,.slice A1 (xP z (fun k=>!inL L nl k) k).length d1,.slice A2 (xQ (fun k=>!inL L nl k) k).length d2,.slice (some ⟨hj,0,none⟩) n kj,.slice A3 Z.k c3] 90 (0,0))) /\
   Hid (DvG w6.heap.size wr (.slice A0 (xP z (inL L nl) k).length d0) (.slice A1 (xP z (fun k=>!inL L nl k) k).length d1) (.slice A2 (xQ (fun k=>!inL L nl k) k).length d2) (xP z (inL L nl) k) (xP z (fun k=>!inL L nl k) k) (xQ (fun k=>!inL L nl k) k))/\Hid (Chg gS (gS+1) w6 wr)) (fun iv _=>m-(intOf iv).toNat)
  case atStart=>exact⟨0,none,0,none,0,none,0,Nat.zero_le _,rfl,HS6,HDG,Chg.refl _ _ _⟩
  case round =>
   clear HS6 HDG a0 a1 a2;obtain⟨k,E0,d0,E1,d1,E2,d2,hk9,rfl,HSB,HDV,HCK⟩:=hrel
   by_cases hlt:k<m
   case pos =>
    have t1:decide ((k:Int)<(m:Int))=true:=q_t (by omega);have t2:(k:Int)<(m:Int):=by omega
    have hEk:=HCK.out.ext HE6.out (by have:=HE4.out.size;omega);have HIk:=HI.out.ext hEk;rw[<-hm.out] at HIk;obtain⟨bz,oz,rfl,hx⟩:=HIk.addr (by omega);have p0:=hx k hlt;rw[HZ.out k (by rw[<-hm.out];exact hlt)] at p0;have hzk:=kU.1 (HO.out.szs k (by rw[<-hm.out];exact hlt));rw[HZ.out k (by rw[<-hm.out];exact hlt)] at hzk;obtain⟨S,hS⟩:=qc (z k);rw[<-hS.out] at p0 hzk
    have hPS:ql z k+S<=n:=by
     have h1:=qK z (show k+1<=m by omega);have h2:ql z (k+1)=ql z k+z k:=rfl;have:=hn.out;have:=hS.out;rw[<-hm.out] at *;omega
    have hn64:n<=64:=by
     have h1:=HO.out.tot;rw[ku HZ.out] at h1;have:=hn.out;omega
    obtain⟨b,hb⟩:=qc (inL L nl k);have HLB:Hid (kT nl (fun t=>decide (L t=(k:Int)))=b):=hb.out.symm;have hblk:gS<w6.heap.size:=by omega
    obtain⟨l0,hl0⟩:=qc (xP z (inL L nl) k);obtain⟨l1,hl1⟩:=qc (xP z (fun k=>!inL L nl k) k);obtain⟨l2,hl2⟩:=qc (xQ (fun k=>!inL L nl k) k);have hll0:l0.length<=64:=by have:=XD z (inL L nl) k;rw[hl0.out];omega
    have hll1:l1.length<=64:=by have:=XD z (fun k=>!inL L nl k) k;rw[hl1.out];omega
    have hll2:l2.length<=12:=by have:=Wy (fun k=>!inL L nl k) k;rw[hl2.out];omega
    rw[<-hl0.out,<-hl1.out,<-hl2.out] at HSB HDV
    have HS0:Hid (wr.heap[gS]?=some (.cells #[.slice E0 (l0++xM z k 0 b).length d0,.slice E1 (l1++xM z k 0 (!b)).length d1,.slice E2 l2.length d2,.slice (some ⟨hj,0,none⟩) n kj,.slice A3 Z.k c3] 90 (0,0))):=by
     rw[wI,wI,List.append_nil,List.append_nil];exact HSB.out
    have HD0:Hid (DvG w6.heap.size wr (.slice E0 (l0++xM z k 0 b).length d0) (.slice E1 (l1++xM z k 0 (!b)).length d1) (.slice E2 l2.length d2) (l0++xM z k 0 b) (l1++xM z k 0 (!b)) l2):=by
     rw[wI,wI,List.append_nil,List.append_nil];exact HDV.out
    obtain⟨wQ,hwQ⟩:∃wQ,wQ=wr:=⟨_,rfl⟩
    subst hwQ;clear hx HIk hEk HSB HDV;go_wp2_with fail
    go_loopw [53] (fun iv wr=>∃(a:Nat) (E0:Option Addr) (d0:Nat) (E1:Option Addr) (d1:Nat),a<=S/\iv=.int .i64 (a:Int)/\Hid (wr.heap[gS]?=some (.cells #[.slice E0 (l0++xM z k a b).length d0,.slice E1 (l1++xM z k a (!b)).length d1,.slice E2 l2.length d2,.slice (some ⟨hj,0,none⟩) n kj,.slice A3 Z.k c3] 90 (0,0))) /\
     Hid (DvG w6.heap.size wr (.slice E0 (l0++xM z k a b).length d0) (.slice E1 (l1++xM z k a (!b)).length d1) (.slice E2 l2.length d2) (l0++xM z k a b) (l1++xM z k a (!b)) l2)/\Hid (Chg gS (gS+1) w6 wr)) (fun iv _=>S-(intOf iv).toNat)
    case atStart=>exact⟨0,E0,d0,E1,d1,Nat.zero_le _,rfl,HS0,HD0,HCK⟩
    case round =>
     clear HS0 HD0 HCK p0;obtain⟨a,E0,d0,E1,d1,ha9,rfl,HSA,HDA,HCA⟩:=hrel;have hEa:=HCA.out.ext HE6.out (by have:=HE4.out.size;omega)
     by_cases hla:a<S
     case pos =>
      have t3:decide ((a:Int)<(S:Int))=true:=q_t (by omega);have t4:(a:Int)<(S:Int):=by omega
      go_wp2_with (go_at_call 64;refine q_o ?_);refine (kP (HU.out.ext hEa) (k:Int)).mono ?_;rintro e w7 ⟨rfl,e7⟩;rw[HLB.out];have HS7:=q_h (e7.block HSA.out);have HD7:=q_h (HDA.out.ext e7);have HC7:Hid (Chg gS (gS+1) w6 w7):=HCA.out.trans (e7.chg _ _);have q0:=HC7.out.cell (HG6.out k (by omega)) (.inr (by show gS+1<=gs;omega));obtain⟨x0,x1,x2,x3,x4⟩:=zq HS7.out;have t6:(k:Int)<(m:Int)+1:=by omega
      have hXn:ql z k+a<n:=by omega
      obtain⟨X,hX⟩:=qc (ql z k+a);rw[<-hX.out] at hXn;obtain⟨P,hP⟩:=qc (ql z k);rw[<-hP.out] at q0;have hPn:P<=64:=by have:=hP.out;omega
      have t5:IntKind.i64.wrap ((P:Int)+(a:Int))=(X:Int):=by
       rw[wrp (by omega) (by omega)];have:=hX.out;have:=hP.out;omega
      have hlp:=WG z k a true;clear HSA HDA HCA e7;cases b with
      | true =>
       have HPX:Hid (l0++xM z k (a+1) true=(l0++xM z k a true) ++ [X]):=by rw[Hid,Yn,List.append_assoc,hX.out]
       have HPN:Hid (∀a,l1++xM z k a false=l1):=fun a=>by rw[q2o,List.append_nil]
       rw[show (!true)=false from rfl,HPN.out] at HS7 HD7;rw[show (!true)=false from rfl,HPN.out] at x1;have hxl:(ivs (l0++xM z k a true)).length+1<=1000000000:=by rw[kM,List.length_append];omega
       obtain⟨lx,hlx⟩:=qc (l0++xM z k a true);rw[<-hlx.out] at HS7 HD7 HPX hxl;rw[<-hlx.out] at x0;go_upto_region 18 with (fail);refine yB [Mn.q gS 0,Mn.eq (.slice E0 lx.length d0),Mn.eq (.slice (some ⟨gs,0,none⟩) (m+1) cs),Mn.i (k:Int),Mn.q gs k,Mn.i (P:Int),Mn.i (a:Int),Mn.i (X:Int),Mn.i1 (X:Int),Mn.any,Mn.any,Mn.any] [some 59,some 60,some 61,some 62,some 63,some 64,some 65,some 66,some 67,some 68,some 69,none] [9,10,11] (rQ 9 3) 3 (by kernel_rfl) ?_ ?_
       ·show ∀i,i<12->_
        iterate 12 refine fs ?_ ?_
        ·exact fz
        all_goals intro hl;first|exact absurd hl (by decide)|(clear hl;refine stp rfl ?_;intro ac wi eI hB hA K hK)
        have o8:=oOf (hB 8) rfl;rotate_left;obtain⟨_,s59,rfl⟩:=hA 0 59;have cc0:=eI.cell x0;rotate_left;have o9:=oOf (hB 9) rfl;rotate_left;have o10:=oOf (hB 10) rfl;rotate_left;obtain⟨_,s61,rfl⟩:=hA 2 61;obtain⟨_,s62,rfl⟩:=hA 3 62;rotate_left;obtain⟨_,s63,rfl⟩:=hA 4 63;have cc0:=eI.cell q0;rotate_left;have o12:=oOf (hB 12) rfl;rotate_left;obtain⟨_,s64,rfl⟩:=hA 5 64;obtain⟨_,s65,rfl⟩:=hA 6 65;rotate_left;obtain⟨_,s66,rfl⟩:=hA 7 66;clear hB hA
        ·go_simp;refine qo ?_;intro wj ej hszj BJ;exact hK.out _ _ ej ⟨_,rfl,BJ⟩
        all_goals clear hB hA;go_simp;exact q_k hK rfl
       intro vals wz eZ hJ;have J60:vals 1=_:=hJ 1 (by decide) (by decide);have J67:Mn.p (Mn.i1 (X:Int)) (vals 8) wz:=hJ 8 (by decide) (by decide);clear hJ;simp only[pr,Nat.reduceAdd,J60];clear J60
       generalize vals 8=z67 at J67 ⊢
       obtain⟨gb,rfl,BX⟩:=J67;have hDz:=HD7.out.ext eZ;refine qj (i:=9) rfl (by kernel_rfl) (by kernel_rfl) (fun K hK=>?_);refine jq jZ rfl _ _ 25 Tryz.underlying25 rfl (by rfl) hDz.1 (m:=1) (c:=1) (news:=[.int .i64 (X:Int)]) (by rfl) rfl (xZ BX) (fun x hx=>by rw[List.mem_singleton.1 hx];rfl) (by omega) hxl ?_;rintro gq cq w17 hG17 hat17 hc17;rw[ZG] at hG17;rw[kM] at hG17 ⊢;have hB17:=Jq hc17 (eZ.block HS7.out) hblk;obtain⟨y0,y1,y2,y3,y4⟩:=zq hB17;obtain⟨f0,f1,f2,f3,f4⟩:=YI hB17;refine hK.out _ _ ?_;clear hK K;try simp only[nr]
       refine qj (i:=10) rfl (by kernel_rfl) (by kernel_rfl) (fun K hK=>?_);go_simp;refine hK.out _ _ ?_;clear hK K;try simp only[nr]
       refine qj (i:=11) rfl (by kernel_rfl) (by kernel_rfl) (fun K hK=>?_);go_simp;refine hK.out _ _ ?_;clear hK K;try simp only[nr]
       refine qg (by kernel_rfl) ?_ _;have hD17:=hDz.app0 hG17 hat17 hc17;obtain⟨w18,E18,B18,C18⟩:=q8t hB17 jM.1 (.slice (some ⟨gq,0,none⟩) (lx.length+1) cq);rw[E18];have HD18:=q_h (hD17.chg C18 (by omega))
       have HC18:Hid (Chg gS (gS+1) w6 w18):=by
        obtain⟨g',hg',-,C17,-⟩:=hc17;exact ((HC7.out.trans (eZ.chg _ _)).newer C17 hg').trans C18
       have HS18:=q_h B18;clear E18 C18 hD17 hB17 hG17 hat17 hc17 hDz BX B18 eZ x0 x1 x2 x3 x4 q0 y0 y1 y2 y3 y4 f0 f1 f2 f3 f4 HS7 HD7 HC7
       have HSN:Hid (w18.heap[gS]?=some (.cells #[.slice (some ⟨gq,0,none⟩) (l0++xM z k (a+1) true).length cq,.slice E1 (l1++xM z k (a+1) false).length d1,.slice E2 l2.length d2,.slice (some ⟨hj,0,none⟩) n kj,.slice A3 Z.k c3] 90 (0,0))):=by
        rw[HPX.out,HPN.out,List.length_append];exact HS18.out
       have HDN:Hid (DvG w6.heap.size w18 (.slice (some ⟨gq,0,none⟩) (l0++xM z k (a+1) true).length cq) (.slice E1 (l1++xM z k (a+1) false).length d1) (.slice E2 l2.length d2) (l0++xM z k (a+1) true) (l1++xM z k (a+1) false) l2):=by
        rw[HPX.out,HPN.out,List.length_append];exact HD18.out
       go_wp2;go_roundw
       case rel=>exact⟨a+1,_,cq,E1,d1,by omega,by go_num,HSN,HDN,HC18⟩
       case measure=>simp[intOf];omega
      | false =>
       have HPX:Hid (l1++xM z k (a+1) true=(l1++xM z k a true) ++ [X]):=by rw[Hid,Yn,List.append_assoc,hX.out]
       have HPN:Hid (∀a,l0++xM z k a false=l0):=fun a=>by rw[q2o,List.append_nil]
       rw[show (!false)=true from rfl,HPN.out] at HS7 HD7;rw[HPN.out] at x0;rw[show (!false)=true from rfl] at x1;have hxl:(ivs (l1++xM z k a true)).length+1<=1000000000:=by rw[kM,List.length_append];omega
       obtain⟨lx,hlx⟩:=qc (l1++xM z k a true);rw[<-hlx.out] at HS7 HD7 HPX hxl;rw[<-hlx.out] at x1;go_upto_region 19 with (fail);refine yB [Mn.q gS 1,Mn.eq (.slice E1 lx.length d1),Mn.eq (.slice (some ⟨gs,0,none⟩) (m+1) cs),Mn.i (k:Int),Mn.q gs k,Mn.i (P:Int),Mn.i (a:Int),Mn.i (X:Int),Mn.i1 (X:Int),Mn.any,Mn.any,Mn.any] [some 70,some 71,some 72,some 73,some 74,some 75,some 76,some 77,some 78,some 79,some 80,none] [9,10,11] (rQ 9 3) 3 (by kernel_rfl) ?_ ?_
       ·show ∀i,i<12->_
        iterate 12 refine fs ?_ ?_
        ·exact fz
        all_goals intro hl;first|exact absurd hl (by decide)|(clear hl;refine stp rfl ?_;intro ac wi eI hB hA K hK)
        have o8:=oOf (hB 8) rfl;rotate_left;obtain⟨_,s70,rfl⟩:=hA 0 70;have cc0:=eI.cell x1;rotate_left;have o9:=oOf (hB 9) rfl;rotate_left;have o10:=oOf (hB 10) rfl;rotate_left;obtain⟨_,s72,rfl⟩:=hA 2 72;obtain⟨_,s73,rfl⟩:=hA 3 73;rotate_left;obtain⟨_,s74,rfl⟩:=hA 4 74;have cc0:=eI.cell q0;rotate_left;have o12:=oOf (hB 12) rfl;rotate_left;obtain⟨_,s75,rfl⟩:=hA 5 75;obtain⟨_,s76,rfl⟩:=hA 6 76;rotate_left;obtain⟨_,s77,rfl⟩:=hA 7 77;clear hB hA
        ·go_simp;refine qo ?_;intro wj ej hszj BJ;exact hK.out _ _ ej ⟨_,rfl,BJ⟩
        all_goals clear hB hA;go_simp;exact q_k hK rfl
       intro vals wz eZ hJ;have J71:vals 1=_:=hJ 1 (by decide) (by decide);have J78:Mn.p (Mn.i1 (X:Int)) (vals 8) wz:=hJ 8 (by decide) (by decide);clear hJ;simp only[pr,Nat.reduceAdd,J71];clear J71
       generalize vals 8=z78 at J78 ⊢
       obtain⟨gb,rfl,BX⟩:=J78;have hDz:=HD7.out.ext eZ;refine qj (i:=9) rfl (by kernel_rfl) (by kernel_rfl) (fun K hK=>?_);refine jq jZ rfl _ _ 25 Tryz.underlying25 rfl (by rfl) hDz.2.1 (m:=1) (c:=1) (news:=[.int .i64 (X:Int)]) (by rfl) rfl (xZ BX) (fun x hx=>by rw[List.mem_singleton.1 hx];rfl) (by omega) hxl ?_;rintro gq cq w17 hG17 hat17 hc17;rw[ZG] at hG17;rw[kM] at hG17 ⊢;have hB17:=Jq hc17 (eZ.block HS7.out) hblk;obtain⟨y0,y1,y2,y3,y4⟩:=zq hB17;obtain⟨f0,f1,f2,f3,f4⟩:=YI hB17;refine hK.out _ _ ?_;clear hK K;try simp only[nr]
       refine qj (i:=10) rfl (by kernel_rfl) (by kernel_rfl) (fun K hK=>?_);go_simp;refine hK.out _ _ ?_;clear hK K;try simp only[nr]
       refine qj (i:=11) rfl (by kernel_rfl) (by kernel_rfl) (fun K hK=>?_);go_simp;refine hK.out _ _ ?_;clear hK K;try simp only[nr]
       refine qg (by kernel_rfl) ?_ _;have hD17:=hDz.app1 hG17 hat17 hc17;obtain⟨w18,E18,B18,C18⟩:=q8s hB17 jM.1 (.slice (some ⟨gq,0,none⟩) (lx.length+1) cq);rw[E18];have HD18:=q_h (hD17.chg C18 (by omega))
       have HC18:Hid (Chg gS (gS+1) w6 w18):=by
        obtain⟨g',hg',-,C17,-⟩:=hc17;exact ((HC7.out.trans (eZ.chg _ _)).newer C17 hg').trans C18
       have HS18:=q_h B18;clear E18 C18 hD17 hB17 hG17 hat17 hc17 hDz BX B18 eZ x0 x1 x2 x3 x4 q0 y0 y1 y2 y3 y4 f0 f1 f2 f3 f4 HS7 HD7 HC7
       have HSN:Hid (w18.heap[gS]?=some (.cells #[.slice E0 (l0++xM z k (a+1) false).length d0,.slice (some ⟨gq,0,none⟩) (l1++xM z k (a+1) true).length cq,.slice E2 l2.length d2,.slice (some ⟨hj,0,none⟩) n kj,.slice A3 Z.k c3] 90 (0,0))):=by
        rw[HPX.out,HPN.out,List.length_append];exact HS18.out
       have HDN:Hid (DvG w6.heap.size w18 (.slice E0 (l0++xM z k (a+1) false).length d0) (.slice (some ⟨gq,0,none⟩) (l1++xM z k (a+1) true).length cq) (.slice E2 l2.length d2) (l0++xM z k (a+1) false) (l1++xM z k (a+1) true) l2):=by
        rw[HPX.out,HPN.out,List.length_append];exact HD18.out
       go_wp2;go_roundw
       case rel=>exact⟨a+1,E0,d0,_,cq,by omega,by go_num,HSN,HDN,HC18⟩
       case measure=>simp[intOf];omega
     have t3:decide ((a:Int)<(S:Int))=false:=q_f (by omega);obtain rfl:S=a:=by omega
     have HU0:Hid (l0++xM z k S b=xP z (inL L nl) (k+1)):=by rw[Hid,vM,<-hl0.out,<-hb.out,hS.out]
     have HU1:Hid (l1++xM z k S (!b)=xP z (fun k=>!inL L nl k) (k+1)):=by rw[Hid,vM,<-hl1.out,<-hb.out,hS.out]
     rw[HU0.out,HU1.out] at HSA HDA;go_wp2_with (go_at_call 64;refine q_o ?_);refine (kP (HU.out.ext hEa) (k:Int)).mono ?_;rintro e w7 ⟨rfl,e7⟩;rw[HLB.out];have HS7:=q_h (e7.block HSA.out);have HD7:=q_h (HDA.out.ext e7);have HC7:Hid (Chg gS (gS+1) w6 w7):=HCA.out.trans (e7.chg _ _)
     have HR2:Hid (xQ (fun k=>!inL L nl k) (k+1)=l2++(if b=true then [] else [k])):=by
      rw[Hid,jX,<-hl2.out,<-hb.out];cases b<;>rfl
     clear HSA HDA HCA e7 hEa;cases b with
     | true =>
      have HS8:Hid (w7.heap[gS]?=some (.cells #[.slice E0 (xP z (inL L nl) (k+1)).length d0,.slice E1 (xP z (fun k=>!inL L nl k) (k+1)).length d1,.slice E2 (xQ (fun k=>!inL L nl k) (k+1)).length d2,.slice (some ⟨hj,0,none⟩) n kj,.slice A3 Z.k c3] 90 (0,0))):=by
       rw[HR2.out,if_pos rfl,List.append_nil];exact HS7.out
      have HD8:Hid (DvG w6.heap.size w7 (.slice E0 (xP z (inL L nl) (k+1)).length d0) (.slice E1 (xP z (fun k=>!inL L nl k) (k+1)).length d1) (.slice E2 (xQ (fun k=>!inL L nl k) (k+1)).length d2) (xP z (inL L nl) (k+1)) (xP z (fun k=>!inL L nl k) (k+1)) (xQ (fun k=>!inL L nl k) (k+1))):=by
       rw[HR2.out,if_pos rfl,List.append_nil];exact HD7.out
      clear HS7 HD7;go_wp2;go_roundw
      case rel=>exact⟨k+1,E0,d0,E1,d1,E2,d2,by omega,by go_num,HS8,HD8,HC7⟩
      case measure=>simp[intOf];omega
     | false =>
      have hxl:(ivs l2).length+1<=1000000000:=by rw[kM];omega
      obtain⟨x0,x1,x2,x3,x4⟩:=zq HS7.out;go_wp2_with (at_builtin;refine q_o ?_);refine qo ?_;intro w8 e8 hsz8 BX;refine zB jZ rfl _ _ 25 Tryz.underlying25 rfl (by rfl) (HD7.out.ext e8).2.2.1 (m:=1) (c:=1) (news:=[.int .i64 (k:Int)]) (by rfl) rfl (xZ BX) (fun x hx=>by rw[List.mem_singleton.1 hx];rfl) (by omega) hxl ?_;rintro gq cq w17 hG17 hat17 hc17;rw[ZG] at hG17;rw[kM] at hG17 ⊢;have hB17:=Jq hc17 (e8.block HS7.out) hblk;have hD17:=(HD7.out.ext e8).app2 hG17 hat17 hc17;clear x0 x1 x2 x3 x4;obtain⟨x0,x1,x2,x3,x4⟩:=zq hB17;obtain⟨f0,f1,f2,f3,f4⟩:=YI hB17;go_wp2_with fail;obtain⟨w18,E18,B18,C18⟩:=q8r hB17 jM.1 (.slice (some ⟨gq,0,none⟩) (l2.length+1) cq);rw[E18];have hD18:=hD17.chg C18 (by omega)
      have HC18:Hid (Chg gS (gS+1) w6 w18):=by
       obtain⟨g',hg',-,C17,-⟩:=hc17;exact ((HC7.out.trans (e8.chg _ _)).newer C17 hg').trans C18
      have HS8:Hid (w18.heap[gS]?=some (.cells #[.slice E0 (xP z (inL L nl) (k+1)).length d0,.slice E1 (xP z (fun k=>!inL L nl k) (k+1)).length d1,.slice (some ⟨gq,0,none⟩) (xQ (fun k=>!inL L nl k) (k+1)).length cq,.slice (some ⟨hj,0,none⟩) n kj,.slice A3 Z.k c3] 90 (0,0))):=by
       rw[HR2.out,if_neg (by decide),List.length_append];exact B18
      have HD8:Hid (DvG w6.heap.size w18 (.slice E0 (xP z (inL L nl) (k+1)).length d0) (.slice E1 (xP z (fun k=>!inL L nl k) (k+1)).length d1) (.slice (some ⟨gq,0,none⟩) (xQ (fun k=>!inL L nl k) (k+1)).length cq) (xP z (inL L nl) (k+1)) (xP z (fun k=>!inL L nl k) (k+1)) (xQ (fun k=>!inL L nl k) (k+1))):=by
       rw[HR2.out,if_neg (by decide),List.length_append];exact hD18
      clear E18 B18 C18 hD18 hD17 hB17 hG17 hat17 hc17 BX e8 x0 x1 x2 x3 x4 f0 f1 f2 f3 f4 HS7 HD7 HC7;go_roundw
      case rel=>exact⟨k+1,E0,d0,E1,d1,_,cq,by omega,by go_num,HS8,HD8,HC18⟩
      case measure=>simp[intOf];omega
   have t1:decide ((k:Int)<(m:Int))=false:=q_f (by omega);obtain rfl:m=k:=by omega
   have hB9:=HCK.out.blk HB6.out (.inl (by omega));obtain⟨m0,m1,m2,m3,m4⟩:=zq HSB.out;obtain⟨x0,x1,x2,x3,x4⟩:=zq hB9;obtain⟨f0,f1,f2,f3,f4⟩:=YI hB9;go_wp2;obtain⟨w10,E10,D10,U10⟩:=q8Z hB9 (.slice E0 (xP z (inL L nl) m).length d0) (.slice E1 (xP z (fun k=>!inL L nl k) m).length d1) (.slice E2 (xQ (fun k=>!inL L nl k) m).length d2) (.slice (some ⟨hj,0,none⟩) n kj) (.slice A3 Z.k c3);rw[E10];have C10:=U10.chg (NoU.mk hB9 jM.1);have hE10:Ext w w10:=C10.ext (HCK.out.ext HE6.out (by have:=HE4.out.size;omega)) (by omega);have hO10:qU N w4.heap.size hij w10 hj kj n n βj κj (kK Z z):=(HO6.out.chgT HCK.out (by have:=HE4.out.size;omega) HS6'.out jM.2.1 jM.2.2.1).chg C10 (by omega) (.inr (by omega));have hD10:=HDV.out.chg C10 (by omega);have hN4:N<=w4.heap.size:=by have:=HE4.out.size;omega
   clear x0 x1 x2 x3 x4 m0 m1 m2 m3 m4 E10 f0 f1 f2 f3 f4;obtain⟨x0,x1,x2,x3,x4⟩:=zq D10;refine bodyPost_ret (v:=.tuple #[.agg #[.slice E0 (xP z (inL L nl) m).length d0,.slice E1 (xP z (fun k=>!inL L nl k) m).length d1,.slice E2 (xQ (fun k=>!inL L nl k) m).length d2,.slice (some ⟨hj,0,none⟩) n kj,.slice A3 Z.k c3],.int .i64 0]) ?_ rfl ?_
   ·simp[results,x0,x1,x2,x3,x4,go_sem]
   ·have hunk:∀g,∀x∈xP z g m,x<n:=fun g x hx=>by
     rw[hm.out,vN (m:=Z.ns) Z.ns (q_r)] at hx;rw[hn.out];exact (Z9.1 hx).1
    have hrow:∀x∈xQ (fun k=>!inL L nl k) m,x<m:=fun x hx=>by
     unfold xQ at hx;exact List.mem_range.1 (List.mem_filter.1 hx).1
    rw[hQ.out];unfold q1o;rw[<-hm.out,<-hcd.out,HCD.out];rw[show ql z m=n by rw[hn.out,hm.out]];exact⟨hE10,.inr ⟨rfl,E0,d0,E1,d1,E2,d2,_,kj,rfl,Qz hD10.1 (hunk _),Qz hD10.2.1 (hunk _),Qz hD10.2.2.1 hrow,MtR.wide (hO10.mtv hO10.mle hcj) (Nat.zero_le _) hO10.his (q_r)⟩⟩
end
section
open Go.RowKit
theorem q3V(h:qX N w v q) (hz:Sz q) :
  Calls Tryz.prog 105 #[v] w (zH w (.bool (!decide (q=0)))):=by
 obtain⟨A1,n1,c1,A2,n2,c2,rfl,g1,g2⟩:=KL.parts h;rw[<-q6S];have hI:=h;obtain⟨s,hs⟩:=qc q.num.sign;rw[<-hs.out];clear g1 g2 h;go_enter Tryz.func105,Tryz.ntmps105;go_wp2_with (go_at_call 106;refine q_o ?_);refine qW ?_;intro W hE hsz B0;refine (Xn (hI.ext hE) hz).mono ?_;rintro e w1 ⟨rfl,e1⟩;rw[<-hs.out];go_wp2;go_ret;exact⟨rfl,hE.trans e1⟩
theorem Ve{R:Nat->Raw}(h:LsR N lo hi w v n R)  (g:Nat->Bool)
  (hf:∀i,i<n->∀w' u,Ext w w'->KL N w' u (R i)->Calls Tryz.prog 105 #[u] w' (zH w' (.bool (g i)))) :
  Calls Tryz.prog 133 #[v,.func (.func 105) #[] #[]] w (q0B w (kT n g)):=by
 obtain⟨r,hr⟩:=qc (kT n g);rw[<-hr.out];obtain⟨A,c,rfl,hnc,hcm⟩:=h.form;unfold maxLen at hcm;have hI:=h;have HF:=q_h hf;clear h hf;go_enter Tryz.func133,Tryz.ntmps133;go_wp2
 go_loopw [8] (fun i wr=>∃k:Nat,k<=n/\i=.int .i64 k/\Hid (∀j,j<k->g j=false)/\Ext w wr) (fun i _=>n-(intOf i).toNat)
 case atStart=>exact⟨0,Nat.zero_le _,rfl,fun j hj=>absurd hj (by omega),Ext.refl w⟩
 case round =>
  obtain⟨k,hk,rfl,HA,hE⟩:=hrel
  by_cases hlt:k<n
  ·(obtain⟨b,off,rfl,-,-,hx⟩:=(hI.ext hE).addr (by omega));(obtain⟨A1,n1,c1,A2,n2,c2,p0,p1,p2,p3,hv⟩:=(hx k hlt).val)
   clear hx;go_wp2_with (go_at_call 105;refine q_o ?_);refine (HF.out k hlt _ _ hE hv).mono ?_;rintro e w1 ⟨rfl,e1⟩;replace hE:=hE.trans e1;obtain⟨o,ho⟩:=qc (g k);rw[<-ho.out];cases o with
   | false =>
    go_wp2;go_roundw
    case rel=>exact⟨k+1,by omega,by go_num,xn (p:=fun j=>g j=false) HA.out ho.out.symm,hE⟩
    case measure=>simp[intOf];omega
   | true =>
    have HT:Hid (r=true):=by rw[Hid,hr.out];exact yw hlt ho.out.symm
    go_wp2;go_ret;exact⟨_,rfl,by rw[Hid,HT.out];symm;simp,hE⟩
  ·have HT:Hid (r=false):=by rw[Hid,hr.out];exact qZ.2 (fun j hj=>HA.out j (by omega))
   go_wp2;go_ret;exact⟨_,rfl,by rw[Hid,HT.out];rfl,hE⟩
theorem q0I{R:Nat->Raw}(h:LsR N lo hi w v n R)  (g:Nat->Bool)
  (hf:∀i,i<n->∀w' u,Ext w w'->KL N w' u (R i)->Calls Tryz.prog 105 #[u] w' (zH w' (.bool (g i)))) :
  Calls Tryz.prog 104 #[v,.func (.func 105) #[] #[]] w (zH w (.bool (kT n g))):=by
 obtain⟨r,hr⟩:=qc (kT n g);rw[<-hr.out];obtain⟨A,c,rfl,hnc,hcm⟩:=h.form;have hI:=h;have HF:=q_h hf;clear h hf;go_enter Tryz.func104,Tryz.ntmps104;go_wp2_with (go_at_call 133;refine q_o ?_);refine (Ve hI  g HF.out).mono ?_;rintro e w1 ⟨z,rfl,hz,e1⟩;rw[<-hr.out] at hz;go_wp2;go_ret;exact⟨qB hz.out.symm,e1⟩
theorem q18{cap:Nat}(h:w.ownsRow base 37 1 (.slice (some ⟨g,0,none⟩) 0 cap) 0 []) (hN:N<=base) (hb:base<=w.heap.size) (X:q_m):zX N base w.heap.size w (.slice (some ⟨g,0,none⟩) 0 cap) 0 n X:=by
 rcases h.2 with ⟨h0,-⟩|⟨g',cap',cur,hv,hg,hh,hnc,hcm,hcs,-⟩
 ·cases h0
 ·simp only[Value.slice.injEq,Option.some.injEq,Addr.mk.injEq,and_true,true_and] at hv;obtain⟨rfl,rfl⟩:=hv;exact⟨hN,hb,q_r,.inr ⟨_,_,fun _=>0,fun _=>0,rfl,hcm,⟨hN,⟨cur,hh,by rw[hcs,Nat.mul_one],fun i hi=>absurd hi (Nat.not_lt_zero i)⟩,Nat.zero_le _,hg,qF hh,q_r,fun i hi=>absurd hi (Nat.not_lt_zero i),fun i hi=>absurd hi (Nat.not_lt_zero i),fun i hi=>absurd hi (Nat.not_lt_zero i),fun i hi=>absurd hi (Nat.not_lt_zero i),fun i j hi=>absurd hi (Nat.not_lt_zero i)⟩⟩⟩
theorem QS{ops:Array Oper}{rest:List Oper}{o:Oper}{a:Act}{Q:Exit->Act->World->Prop}(hg:o.guard=none) (l c:Operand) (hop:o.op=Op.makeSlice 29 l c)
  (kl kc:IntKind) (C:Int) (n k:Nat) (hl:a.eval l=.int kl 0) (hc:a.eval c=.int kc C) (hC:C=(n:Int)) (hn:n<1000000) (hN:N<=w.heap.size)
  (hK:∀w',(∀X,zX N w.heap.size w'.heap.size w' (.slice (some ⟨w.heap.size,0,none⟩) 0 n) 0 k X)->Ext w w'->wpList Tryz.prog ops Q rest (a.put o.dst (.slice (some ⟨w.heap.size,0,none⟩) 0 n)) w'):wpList Tryz.prog ops Q (o :: rest) a w:=by
 obtain⟨i0,hi0,hz0,hz1,hz2⟩:=info_parts Jk;refine wpList_make_own w hg l c 29 hop w.heap.size 37 i0 _ 1 Tryz.underlying29 hi0 hz0 hz1 kl kc C n hl hc hC (by rw[hz2];omega) (by unfold maxLen;omega) (q_r) ?_;intro w' h1 h2;have hx:=(Ext.refl w).grown h2 (fun k hk=>by cases hk);exact hK w' (fun X=>q18 h1 hN hx.size X) hx
def Mn.rowc (N B n:Nat) (x:q_v):Mn:=⟨fun v w=>∃g cap,v=.slice (some ⟨g,0,none⟩) n cap/\B<=g/\cap<=maxLen/\n<=cap/\kS N w g cap n x,fun e h=>by
 obtain⟨g,cap,hv,h0,h1,h2,h3⟩:=h
 exact⟨g,cap,hv,h0,h1,h2,h3.ext e⟩⟩
theorem q5L (f:Nat->Bool) (a C:Nat) (h:Nat->Bool) (hf:f a=allB C h):((!allB a f)||kT C (fun e=>!h e))=!allB (a+1) f:=by
 have h1:kT C (fun e=>!h e)=!f a:=by
  rw[hf,<-q0x,Bool.not_not]
 rw[h1];cases h2:f a with
 | false=>rw[qL (Nat.lt_succ_self a) h2,Bool.not_false,Bool.or_true]
 | true =>
  rw[Bool.not_true,Bool.or_false]
  congr 1
  cases h3:allB a f with
  | true =>
   refine (qm.2 fun i hi=>?_).symm
   by_cases hia:i=a
   ·rw[hia];exact h2
   ·exact qm.1 h3 i (by omega)
  | false =>
   cases h4:allB (a+1) f with
   | false=>rfl
   | true =>
    rw[qm.2 (fun i hi=>qm.1 h4 i (by omega))] at h3;cases h3
def NzB (b:Nat->Bkk) (nb:Nat):Prop:=∀q,q<nb->∃a,a<(b q).m/\∃e,e<(b q).L a/\zl ((b q).A a e)≠0
theorem NzB.add {b:Nat->Bkk}{nb S C:Nat}{r c:Int}{F:q_m}(h:NzB b nb) (h0:true=!allB S (fun a=>allB C (fun e=>decide (F a e=0)))):NzB (JL b nb ⟨r,c,S,fun _=>C,fun a e=>raw (F a e)⟩) (nb+1):=by
 intro q hq
 by_cases hqn:q=nb
 ·rw[show JL b nb ⟨r,c,S,fun _=>C,fun a e=>raw (F a e)⟩ q=⟨r,c,S,fun _=>C,fun a e=>raw (F a e)⟩ by unfold JL;rw[if_pos hqn]]
  by_cases h1:∃a,a<S/\∃e,e<C/\F a e≠0
  ·obtain⟨a,ha,e,he,h2⟩:=h1;exact⟨a,ha,e,he,by rw[kw];exact h2⟩
  ·rw[qm.2 (fun a ha=>qm.2 fun e he=>q_t (Decidable.byContradiction fun h2=>h1 ⟨a,ha,e,he,h2⟩))] at h0;cases h0
 ·rw[show JL b nb ⟨r,c,S,fun _=>C,fun a e=>raw (F a e)⟩ q=b q by unfold JL;rw[if_neg hqn]];exact h q (by omega)
def q5T (N:Nat) (w:World) (ns:Nat) (z:Nat->Nat) (n:Nat) (M:q_m) (y:q_v) (e:Ending) (w':World):Prop :=
 ∃(v:Value) (Z:Sys),e=.returned v/\Ext w w'/\jI N 0 w'.heap.size w' v Z/\Z.ns=ns/\Z.k=n/\V4 Z z M y/\NzB Z.b Z.nb
theorem q5I {lo1 hi1 lo2 hi2:Nat}{u t:Value}{ns:Nat}{z:Nat->Nat}{M:q_m}{y:q_v}(hu:IzV N lo1 hi1 w u ns (fun i=>(z i:Int))) (hns:0<ns/\ns<=12) (hz:∀i,i<ns->1<=z i/\z i<=12) (hn:ql z ns=n) (hn64:n<=64) (h:MtV N lo hi w v n n M) (ht:LsV N lo2 hi2 w t n y)(hM:HtM n n K M) (hK:K<=29000000000) :
  Calls Tryz.prog 52 #[u,v,t] w (q5T N w ns z n M y):=by
 obtain⟨Q,hQ⟩:=qc (q5T N w ns z n M y);rw[<-hQ.out];have HU:=q_h hu;have HM:=q_h h;have HT:=q_h ht;have HZ:=q_h hz;have HH:=q_h hM;have HN:=q_h hn;have hN:=LsR.le ht;obtain⟨A1,c1,rfl,l1,l2⟩:=hu.form;obtain⟨A2,c2,rfl,l3,l4⟩:=MtR.form h;obtain⟨A3,c3,rfl,l5,l6⟩:=LsR.form ht;unfold maxLen at l2
 have hn0:0<n:=by
  have h1:=Yt (z:=z) (m:=ns) (fun i hi=>by have:=hz i hi;omega);omega
 clear hu h ht hz hM hn;go_enter Tryz.func52,Tryz.ntmps52;go_upto_region 2 with (fail);refine kD ?_;intro w1 hE hsz B6 B7;obtain⟨g6,hg6⟩:=qc w.heap.size;have hgw:w.heap.size<=g6:=by rw[hg6.out];exact q_r
 rw[<-hg6.out] at B6 B7 hsz ⊢;obtain⟨a0,a1,a2,-⟩:=cells3 B7;clear hg6;go_wp2_with (go_at_call 36;refine q_o ?_);refine (Zh (Z:=⟨ns,fun i=>(z i:Int),0,fun _=>q50 z M 0 0,n,fun i=>raw (y i)⟩) (N:=N) (lo:=0) (hi:=w1.heap.size) ⟨_,_,_,rfl,⟨rfl,(HU.out.ext hE).2⟩,⟨none,0,rfl,q_r,Nat.zero_le _,fun h=>absurd h (Nat.lt_irrefl 0)⟩,LsR.wide (HT.out.ext hE) (Nat.zero_le _) (HT.out.ext hE).2.1 (q_r)⟩ hns.2 (fun i hi=>kU.2 (by have:=HZ.out i hi;show 1<=(z i:Int)/\(z i:Int)<=12;omega))).mono ?_;rintro e w2 ⟨gs,cs,rfl,⟨hcs1,hcs2⟩,hgs1,hgs2,hgs3,e2⟩;unfold maxLen at hcs2
 have HG2:Hid (∀i,i<ns+1->w2.cell? ⟨gs,i,none⟩=some (.int .i64 (ql z i:Int))):=fun i hi=>by
  rw[<-ku (Z:=fun i=>(z i:Int)) (z:=z) (fun j hj=>rfl)];exact hgs3 i hi
 have HE2:=q_h (hE.trans e2);have HB6:=q_h (e2.block B6);have HS2:=q_h (e2.block B7);have hs12:=e2.size;have HNB:Hid (BlG N w2.heap.size w2 (.slice none 0 0) 0 (fun _=>q50 z M 0 0)):=BlG.nil (by omega) (q_r);clear a0 a1 a2 e2 hgs3 B6 B7 hE;go_wp2_with fail
 go_loopw [22] (fun iv wr=>∃(i nb:Nat) (bs:Nat->Bkk) (Ab:Option Addr) (cb:Nat),i<=ns/\iv=.int .i64 (i:Int)/\nb<=13*i/\Hid (wr.heap[g6+1]?=some (.cells #[.slice A1 ns c1,.slice Ab nb cb,.slice A3 n c3] 41 (0,0)))/\Hid (BlG N w2.heap.size wr (.slice Ab nb cb) nb bs)/\Hid (SyI z M bs nb i 0)/\Hid (NzB bs nb)/\Hid (Chg (g6+1) (g6+2) w2 wr)) (fun iv _=>ns-(intOf iv).toNat)
 case atStart=>exact⟨0,0,_,none,0,Nat.zero_le _,rfl,Nat.zero_le _,HS2,HNB,SyI.start,fun q hq=>absurd hq (Nat.not_lt_zero q),Chg.refl _ _ _⟩
 case round =>
  clear HS2 HNB;obtain⟨i,nb,bs,Ab,cb,hi9,rfl,hnb,HSB,HBG,HSI,HNZ,HCI⟩:=hrel
  by_cases hlt:i<ns
  case neg =>
   have t1:decide ((i:Int)<(ns:Int))=false:=q_f (by omega);obtain rfl:ns=i:=by omega
   have hB9:=HCI.out.blk HB6.out (.inl (by omega));obtain⟨m0,m1,m2,-⟩:=cells3 HSB.out;obtain⟨x0,x1,x2,u0,u1,u2⟩:=cells3 hB9;go_wp2;obtain⟨w10,E10,D10,U10⟩:=ex3 hB9 (.slice A1 ns c1) (.slice Ab nb cb) (.slice A3 n c3);rw[E10];have C10:=U10.chg (NoU.mk hB9 (by decide));have hE10:Ext w w10:=C10.ext (HCI.out.ext HE2.out (by omega)) (by omega);have HG10:=HBG.out.chg C10 (by omega) (by omega);clear x0 x1 x2 u0 u1 u2 m0 m1 m2 E10;obtain⟨x0,x1,x2,-⟩:=cells3 D10;refine bodyPost_ret (v:=.agg #[.slice A1 ns c1,.slice Ab nb cb,.slice A3 n c3]) ?_ rfl ?_
   ·simp[results,x0,x1,x2,go_sem]
   ·rw[hQ.out];refine⟨_,⟨ns,fun i=>(z i:Int),nb,bs,n,fun i=>raw (y i)⟩,rfl,hE10,⟨_,_,_,rfl,⟨rfl,(HU.out.ext hE10).2⟩,HG10.bks,LsR.wide (HT.out.ext hE10) (Nat.zero_le _) (HT.out.ext hE10).2.1 (q_r)⟩,rfl,rfl,?_,HNZ.out⟩;exact SyI.done (Z:=⟨ns,fun i=>(z i:Int),nb,bs,n,fun i=>raw (y i)⟩) HSI.out (fun _ _=>rfl) HN.out.symm (fun _ _=>rfl)
  have t1:decide ((i:Int)<(ns:Int))=true:=q_t (by omega);have t2:(i:Int)<(ns:Int):=by omega
  have t4:IntKind.i64.wrap ((i:Int)+1)=(i:Int)+1:=wrp (by omega) (by omega);obtain⟨S,hS⟩:=qc (z i);have hzi:=HZ.out i hlt;rw[<-hS.out] at hzi;obtain⟨P,hP⟩:=qc (ql z i)
  have hPS:P+S<=n:=by
   have h1:=qK z (show i+1<=ns by omega);have h2:ql z (i+1)=ql z i+z i:=rfl;have:=hP.out;have:=hS.out;have:=HN.out;omega
  obtain⟨wQ,hwQ⟩:∃wQ,wQ=wr:=⟨_,rfl⟩
  subst hwQ;go_wp2_with fail
  go_loopw [27] (fun jv wr=>∃(j nb:Nat) (bs:Nat->Bkk) (Ab:Option Addr) (cb:Nat),j<=i+1/\jv=.int .i64 (j:Int)/\nb<=13*i+j/\Hid (wr.heap[g6+1]?=some (.cells #[.slice A1 ns c1,.slice Ab nb cb,.slice A3 n c3] 41 (0,0)))/\Hid (BlG N w2.heap.size wr (.slice Ab nb cb) nb bs)/\Hid (SyI z M bs nb i j)/\Hid (NzB bs nb)/\Hid (Chg (g6+1) (g6+2) w2 wr)) (fun jv _=>i+1-(intOf jv).toNat)
  case atStart=>exact⟨0,nb,bs,Ab,cb,Nat.zero_le _,rfl,hnb,HSB,HBG,HSI,HNZ,HCI⟩
  case round =>
   clear HSB HBG HSI HNZ HCI hnb;obtain⟨j,nb,bs,Ab,cb,hj9,rfl,hnb,HSB,HBG,HSI,HNZ,HCI⟩:=hrel
   by_cases hlj:j<i+1
   case neg =>
    have u1:decide ((j:Int)<(i:Int)+1)=false:=q_f (by omega);obtain rfl:j=i+1:=by omega
    have HSN:=q_h HSI.out.row;clear HSI hlj;go_wp2;go_roundw
    case rel=>exact⟨i+1,nb,bs,Ab,cb,by omega,by go_num,by omega,HSB,HBG,HSN,HNZ,HCI⟩
    case measure=>simp[intOf];omega
   have u1:decide ((j:Int)<(i:Int)+1)=true:=q_t (by omega);have u2:(j:Int)<(i:Int)+1:=by omega
   have hEj:=HCI.out.ext HE2.out (by omega);obtain⟨b,off,rfl,hx⟩:=(HU.out.ext hEj).addr (by omega);have p0:=hx i hlt;rw[<-hS.out] at p0;have q0:=HCI.out.cell (HG2.out i (by omega)) (.inr (by show g6+2<=gs;omega));rw[<-hP.out] at q0;have hNr:N<=wr.heap.size:=by have:=hEj.size;omega
   have t5:(i:Int)<(ns:Int)+1:=by omega
   clear hx;go_wp2_with (at_make;refine q_o ?_);obtain⟨C,hC⟩:=qc (z j);refine QS (N:=N) rfl _ _ rfl .i64 .i64 _ S C rfl rfl rfl (by omega) hNr ?_;intro w4 hG4 e4;have hG0:=hG4 (fun a e=>M (P+a) (ql z j+e));have HSK:=HSI.out.skip;rw[<-hP.out,<-hS.out,<-hC.out] at HSK;have HSK':=q_h HSK;have HSA:=HSI.out.add (by omega)
   have HNB:Hid (q50 z M i j=⟨(i:Int),(j:Int),S,fun _=>C,fun a e=>raw (M (P+a) (ql z j+e))⟩):=by
    rw[hP.out,hS.out,hC.out]
    rfl
   rw[HNB.out] at HSA;have hL'0:ql z (j+1)=ql z j+z j:=rfl
   have hL'n:ql z (j+1)<=n:=by
    have h1:=qK z (show j+1<=ns by omega);have:=HN.out;omega
   have hzj:=HZ.out j (by omega);rw[<-hC.out] at hzj hL'0
   have HGL:Hid (∀wr',Ext wr wr'->wr'.cell? ⟨gs,j,none⟩=some (.int .i64 (ql z j:Int))/\wr'.cell? ⟨gs,j+1,none⟩=some (.int .i64 (ql z (j+1):Int))/\wr'.cell? ⟨gs,i+1,none⟩=some (.int .i64 ((P+S:Nat):Int))):=fun wr' e=>by
    refine⟨e.cell (HCI.out.cell (HG2.out j (by omega)) (.inr (by show g6+2<=gs;omega))),e.cell (HCI.out.cell (HG2.out (j+1) (by omega)) (.inr (by show g6+2<=gs;omega))),?_⟩;have h9:=e.cell (HCI.out.cell (HG2.out (i+1) (by omega)) (.inr (by show g6+2<=gs;omega)));rw[hP.out,hS.out];exact h9
   obtain⟨L,hL⟩:=qc (ql z j);obtain⟨L',hL'⟩:=qc (ql z (j+1));rw[<-hL.out] at hG0 HSK' HSA hL'0 HGL;rw[<-hL'.out] at hL'0 hL'n HGL;have HLC:=q_h hL'0;have hLL:L<L':=by omega
   have hLn:L<=n:=by omega
   have HSA':=q_h HSA;have HG0:=q_h hG0
   have HGO:Hid (∀g,(Value.slice Ab nb cb).ownBlock=some g->w2.heap.size<=g/\g<wr.heap.size):=by
    obtain⟨xs,hG,-⟩:=HBG.out;exact hG.own_lt
   have HE4:Hid (Ext wr w4):=e4;have hw2r:w2.heap.size<=wr.heap.size:=HCI.out.size;obtain⟨wK,hwK⟩:∃wK,wK=wr:=⟨_,rfl⟩
   subst hwK;clear hG4 hG0 HSK HSA HNB p0 hL'0;have q0':=e4.cell q0;clear q0 e4;obtain⟨E,hE⟩:=qc (P+S);rw[<-hE.out] at HGL;go_wp2_with fail
   go_loopw [13,12,11] (fun iv gv tv wr=>∃(a X:Nat) (g:Bool) (At:Option Addr) (ct:Nat),a<=S/\Hid (X=P+a)/\iv=.int .i64 (X:Int)/\gv=.bool g/\tv=.slice At a ct/\Hid (zX N wK.heap.size wr.heap.size wr (.slice At a ct) a C (fun a e=>M (P+a) (L+e)))/\Hid (g=!allB a (fun a=>allB C (fun e=>decide (M (P+a) (L+e)=0))))/\Hid (Ext wK wr)) (fun iv _ _ _=>P+S-(intOf iv).toNat)
   case atStart=>exact⟨0,P,false,some ⟨wK.heap.size,0,none⟩,S,Nat.zero_le _,rfl,rfl,rfl,rfl,HG0,rfl,HE4⟩
   case round =>
    clear HG0 q0' HE4;obtain⟨a,X,g,At,ct,ha9,HX,rfl,rfl,rfl,HGM,HG,HEA⟩:=hrel;obtain⟨q2,q3,q4⟩:=HGL.out _ HEA.out;have t6:(i:Int)+1<(ns:Int)+1:=by omega
    by_cases hla:a<S
    case neg =>
     have t3:decide ((X:Int)<(E:Int))=false:=q_f (by have:=hE.out;have:=HX.out;omega);have t3':¬(X:Int)<(E:Int):=by have:=hE.out;have:=HX.out;omega
     have t3'':¬X<E:=by omega
     obtain rfl:S=a:=by omega
     have HSX:=q_h (HEA.out.block HSB.out);have HGX:=q_h (HBG.out.ext HEA.out);have HCX:Hid (Chg (g6+1) (g6+2) w2 wr):=HCI.out.trans (HEA.out.chg _ _);have hwr9:=HEA.out.size;obtain⟨hA,kA,βA,κA,hvA,hcA,hoA⟩:=HGM.out.own (by omega);simp only[Value.slice.injEq] at hvA;obtain⟨rfl,-,rfl⟩:=hvA;have HMV:Hid (MtR N wK.heap.size wr.heap.size wr (.slice (some ⟨hA,0,none⟩) S ct) S (fun _=>C) (fun a e=>raw (M (P+a) (L+e)))):=hoA.mtv hoA.mle hcA;clear hoA HGM;cases g with
     | false =>
      have HSN:=q_h (HSK'.out fun a ha e he=>by
       have h1:allB S (fun a=>allB C (fun e=>decide (M (P+a) (L+e)=0)))=true:=by
        have:=HG.out;simpa using this.symm
       exact of_decide_eq_true (qm.1 (qm.1 h1 a ha) e he))
      clear HSK' HSA' HG HMV q2 q3;go_wp2;go_roundw
      case rel=>exact⟨j+1,nb,bs,Ab,cb,by omega,by go_num,by omega,HSX,HGX,HSN,HNZ,HCX⟩
      case measure=>simp[intOf];omega
     | true =>
      have HNA:Hid (NzB (JL bs nb ⟨(i:Int),(j:Int),S,fun _=>C,fun a e=>raw (M (P+a) (L+e))⟩) (nb+1)):=NzB.add HNZ.out HG.out;clear HSK' HG q2 q3 HNZ;obtain⟨m0,m1,m2,f0,f1,f2⟩:=cells3 HSX.out;obtain⟨xs,hG,hBX⟩:=HGX.out;have hxl:=hG.2.1;have HBX:=q_h hBX;clear hBX;go_wp2_with (at_builtin;refine q_o ?_);refine qo ?_;intro w8 e8 hsz8 B8;refine xI q3J rfl _ _ 39 Tryz.underlying39 rfl (by rfl) (hG.ext e8) (by rfl) (m:=1) (news:=[.int .i64 (i:Int),.int .i64 (j:Int),.slice (some ⟨hA,0,none⟩) S ct]) rfl (fun j u hj=>by rw[jH,qh B8,Nat.zero_add];simpa using hj) (fun u hu=>by simp at hu;rcases hu with rfl|rfl|rfl<;>rfl) (by omega) ?_;rintro v9 w9 hG9 ho9 ⟨g9,hg9,hgo9,C9⟩;have HX9:=q_h (BlX.snoc (B:=⟨(i:Int),(j:Int),S,fun _=>C,fun a e=>raw (M (P+a) (L+e))⟩) (v':=v9) hxl (HBX.out.ext e8) (MtR.ext HMV.out e8) (by omega) (fun g hg=>(HGO.out g hg).2) ho9 ⟨g9,hg9,hgo9,C9⟩);obtain⟨A9,c9,rfl⟩:=hG9.form;have HG9:Hid (BlG N w2.heap.size w9 (.slice A9 (nb+1) c9) (nb+1) (JL bs nb ⟨(i:Int),(j:Int),S,fun _=>C,fun a e=>raw (M (P+a) (L+e))⟩)):=⟨_,hG9,HX9.out⟩
      have hS9:=C9.blk (e8.block HSX.out) (.inl (by omega));have HC9:Hid (Chg (g6+1) (g6+2) w2 w9):=(HCX.out.trans (e8.chg _ _)).newer C9 (by omega);clear m0 m1 m2 f0 f1 f2 HX9 HBX hG hG9 ho9 hgo9 C9 B8 e8 HSX HCX HGX HMV HGO hxl;obtain⟨m0,m1,m2,f0,f1,f2⟩:=cells3 hS9;go_wp2_with fail;obtain⟨w10,E10,D10,U10⟩:=q8u hS9 (.slice A9 (nb+1) c9);rw[E10];have C10:=U10.chg (NoU.mk hS9 (by decide));have HG10:=q_h (HG9.out.chg C10 (by omega) (by omega));have HC10:Hid (Chg (g6+1) (g6+2) w2 w10):=HC9.out.trans C10;have HD10:=q_h D10;clear m0 m1 m2 f0 f1 f2 hS9 E10 D10 U10 C10 HG9 HC9;go_roundw
      case rel=>exact⟨j+1,nb+1,_,A9,c9,by omega,by go_num,by omega,HD10,HG10,HSA',HNA,HC10⟩
      case measure=>simp[intOf];omega
    have t3:decide ((X:Int)<(E:Int))=true:=q_t (by have:=hE.out;have:=HX.out;omega);have t3':(X:Int)<(E:Int):=by have:=hE.out;have:=HX.out;omega
    have t3'':X<E:=by omega
    have hEa:=hEj.trans HEA.out;obtain⟨bm,om,rfl,-,-,hxm⟩:=MtR.addr (HM.out.ext hEa) hn0;have hXn:X<n:=by have:=HX.out;omega
    obtain⟨Ar,cm,p1,hcm1,hcm2,hrow⟩:=hxm X hXn;obtain⟨br,orr,rfl,-,-,-⟩:=LsV.addr hrow hn0;have hsub:=LsV.sub hrow (l:=L) (r:=L') hLL hL'n (c':=cm-L) (by omega) (by unfold maxLen at hcm2 ⊢;omega);have HSUB:=q_h hsub;have hl1:¬cm=L:=by omega
    have hl2:L<=L':=by omega
    have hcap:L'<=cm:=by omega
    unfold maxLen at hcm2;have t7:(X:Int)<(n:Int):=by omega
    have t8:IntKind.i64.wrap ((j:Int)+1)=(j:Int)+1:=wrp (by omega) (by omega);have t9:(j:Int)<(ns:Int)+1:=by omega
    have t10:(j:Int)+1<(ns:Int)+1:=by omega
    have t11:IntKind.i64.wrap ((X:Int)+1)=(X:Int)+1:=wrp (by omega) (by omega);obtain⟨wx,hwx⟩:∃wx,wx=wr:=⟨_,rfl⟩
    subst hwx;clear hxm hrow hsub hEa;go_upto_region 14 with (fail);refine yB [Mn.eq (.slice (some ⟨bm,om,none⟩) n c2),Mn.i (X:Int),Mn.q bm (om+X),Mn.eq (.slice (some ⟨br,orr,none⟩) n cm),Mn.eq (.slice (some ⟨gs,0,none⟩) (ns+1) cs),Mn.i (j:Int),Mn.q gs j,Mn.i (L:Int),Mn.eq (.slice (some ⟨gs,0,none⟩) (ns+1) cs),Mn.i (j:Int),Mn.i ((j:Int)+1),Mn.q gs (j+1),Mn.i (L':Int),Mn.eq (.slice (some ⟨br,orr+L*4,none⟩) (L' - L) (cm-L)),Mn.rowc N wx.heap.size (L' - L) (fun e=>M X (L+e)),Mn.rowc N wx.heap.size (L' - L) (fun e=>M X (L+e))] (sM [48,49,50,51,52,53,54,55,56,57,58,59,60,61,62,14]) [] (rQ 16 0) 0 (by kernel_rfl) ?_ ?_
    ·show ∀i,i<16->_
     iterate 16 refine fs ?_ ?_
     ·exact fz
     all_goals intro hl;clear hl;refine stp rfl ?_;intro ac wi eI hB hA K hK
     have o1:=oOf (hB 1) rfl;rotate_left;have o13:=oOf (hB 13) rfl;rotate_left;obtain⟨_,s48,rfl⟩:=hA 0 48;obtain⟨_,s49,rfl⟩:=hA 1 49;rotate_left;obtain⟨_,s50,rfl⟩:=hA 2 50;have cc0:=eI.cell p1;rotate_left;have o8:=oOf (hB 8) rfl;rotate_left;have o10:=oOf (hB 10) rfl;rotate_left;obtain⟨_,s52,rfl⟩:=hA 4 52;obtain⟨_,s53,rfl⟩:=hA 5 53;rotate_left;obtain⟨_,s54,rfl⟩:=hA 6 54;have cc0:=eI.cell q2;rotate_left;have o8:=oOf (hB 8) rfl;rotate_left;have o10:=oOf (hB 10) rfl;rotate_left;obtain⟨_,s57,rfl⟩:=hA 9 57;rotate_left;obtain⟨_,s56,rfl⟩:=hA 8 56;obtain⟨_,s58,rfl⟩:=hA 10 58;rotate_left;obtain⟨_,s59,rfl⟩:=hA 11 59;have cc0:=eI.cell p1;have cc1:=eI.cell q2;have cc2:=eI.cell q3;rotate_left;obtain⟨_,s51,rfl⟩:=hA 3 51;obtain⟨_,s55,rfl⟩:=hA 7 55;obtain⟨_,s60,rfl⟩:=hA 12 60;rotate_left;obtain⟨_,s61,rfl⟩:=hA 13 61;clear hB hA
     ·go_simp;refine (q4l (HSUB.out.ext eI) (by omega) (by omega)).mono ?_;rintro e wj ⟨gj,cj,rfl,h1,h2,h3,h4,ej⟩;go_wp2_with fail;exact hK.out _ _ ej ⟨gj,cj,rfl,q_l eI.size h1,h2,h3,h4⟩
     obtain⟨x62,s62,j62⟩:=hA 14 62;replace j62:Mn.p (Mn.rowc N wx.heap.size (L' - L) (fun e=>M X (L+e))) x62 wi:=j62;clear hB hA
     ·go_simp;exact q_k hK j62
     all_goals clear hB hA;go_simp;exact q_k hK rfl
    intro vals wz eZ hJ;have J14:Mn.p (Mn.rowc N wx.heap.size (L' - L) (fun e=>M X (L+e))) (vals 15) wz:=hJ 15 (by decide) (by decide);clear hJ;simp only[pr,Nat.reduceAdd]
    generalize vals 15=z14 at J14 ⊢
    obtain⟨gR,cR,rfl,hgR,hcR,hnR,hR⟩:=J14;refine qg (by kernel_rfl) ?_ _;have hLC:L' - L=C:=by have:=HLC.out;omega
    rw[hLC] at hR hnR ⊢;have HR:=q_h hR;have HRL:Hid (LsV N 0 wz.heap.size wz (.slice (some ⟨gR,0,none⟩) C cR) C (fun e=>M X (L+e))):=hR.lsv hnR hcR (Nat.zero_le _) hR.lt (q_r);obtain⟨r,hr⟩:=qc (kT C (fun e=>!decide (M X (L+e)=0)));obtain⟨g2,hg2⟩:=qc (g||r)
    have HG2:Hid (g2=!allB (a+1) (fun a=>allB C (fun e=>decide (M (P+a) (L+e)=0)))):=by
     rw[Hid,hg2.out,hr.out,HG.out];exact q5L _ a C (fun e=>decide (M X (L+e)=0)) (by rw[HX.out])
    have HSX:Hid (∀e,e<C->Sz (M X (L+e))):=fun e he=>(HH.out X hXn (L+e) (by have:=HLC.out;omega)).sz hK
    have HZE:=q_h eZ;clear hR hLC p1 q2 q3 q4 HG eZ;go_upto_region 15 with (fail)
    go_cut [12] (fun gv wy=>gv=.bool g2/\Ext wz wy)
    case first =>
     cases g with
     | true =>
      rw[Bool.true_or] at hg2;obtain rfl:=hg2.out;clear hg2;go_wp2
      go_meet
      exact⟨rfl,Ext.refl _⟩
     | false =>
      rw[Bool.false_or] at hg2;go_wp2_with (go_at_call 104;refine q_o ?_);refine (q0I HRL.out (fun e=>!decide (M X (L+e)=0)) (fun e he w' u e' hu=>q3V hu (HSX.out e he))).mono ?_;rintro e w5 ⟨rfl,e5⟩;rw[<-hr.out,<-hg2.out];clear hg2;go_wp2
      go_meet
      exact⟨rfl,e5⟩
    obtain⟨rfl,eW⟩:=hcut;have hGw:=(HGM.out.ext HZE.out).ext eW;have hRw:=HR.out.ext eW;have HEW:=q_h ((HEA.out.trans HZE.out).trans eW);clear hg2 HGM HR HRL HSX HEA HZE eW;go_wp2_with (at_builtin;refine q_o ?_);refine qo ?_;intro w7 e7 hsz7 BX;refine zS rfl _ _ 29 Tryz.underlying29 rfl (by rfl) (hGw.ext e7) (by rfl) (hRw.ext e7) hgR hcR BX (by omega) ?_;rintro h' cap' w8 hG8 ⟨g',hg',C8,-⟩;have HE8:Hid (Ext wK w8):=C8.ext (HEW.out.trans e7) hg'
    have HG8:=q_h (hG8.congr (B:=fun a e=>M (P+a) (L+e)) (fun i _ e _=>by
     unfold xE
     by_cases h9:i=a
     ·rw[if_pos h9,h9,HX.out]
     ·rw[if_neg h9]))
    have HX8:Hid (X+1=P+(a+1)):=by have:=HX.out;rw[Hid];omega
    clear hG8 C8 BX e7 hGw hRw HEW HX;go_wp2;go_roundw
    case rel=>exact⟨a+1,X+1,g2,_,cap',by omega,HX8,by go_num,rfl,rfl,HG8,HG2,HE8⟩
    case measure=>simp[intOf];have:=hE.out;omega
end
section
open Go.RowKit
def goE (Z:Sys) (z:Nat->Nat) (L:Nat->Int) (nl:Nat) (x:Nat):Bool:=inL L nl (yT z Z.ns x)
def xe (E:Nat->Bool) (n:Nat):Nat:=(JP E n).length
noncomputable def q90 (M:q_m) (E:Nat->Bool) (n:Nat):Nat->Nat->Rat:=x8 (xe E n) (x9 M (enF E n))
noncomputable def q6k (M:q_m) (E:Nat->Bool) (n:Nat):Nat->Nat->Rat:=mm (xe E n) (fun a i=>M (enF (kJ E) n a) (enF E n i)) (q90 M E n)
noncomputable def Xp (M:q_m) (E:Nat->Bool) (n:Nat) (a b:Nat):Rat:=M (enF (kJ E) n a) (enF (kJ E) n b)-mm (xe E n) (q6k M E n) (fun i b=>M (enF E n i) (enF (kJ E) n b)) a b
noncomputable def q1b (M:q_m) (y:q_v) (E:Nat->Bool) (n:Nat) (a:Nat):Rat:=y (enF (kJ E) n a)-av (xe E n) (q6k M E n) (fun i=>y (enF E n i)) a
theorem Jy (M:q_m) (E:Nat->Bool) (n a b:Nat):Xp M E n a b=XK (xe E n) M (enF E n) (enF (kJ E) n a) (enF (kJ E) n b):=by
 unfold Xp XK q0K q6k q90;rw[jA]
 rfl
theorem q4v (g:Nat->Bool) (k a:Nat) (h:a<(xQ g k).length):(xQ g (k+1))[a]?.getD 0=(xQ g k)[a]?.getD 0:=by
 rw[jX,List.getElem?_append_left h]
theorem V8 (z:Nat->Nat) (g:Nat->Bool):∀k,(xP z g k).length=ql (fun a=>z ((xQ g k)[a]?.getD 0)) (xQ g k).length
 | 0=>rfl
 | k+1=>by
  have ih:=V8 z g k
  have h1:∀j,j<=(xQ g k).length->ql (fun a=>z ((xQ g (k+1))[a]?.getD 0)) j=ql (fun a=>z ((xQ g k)[a]?.getD 0)) j:=fun j=>by
   induction j with
   | zero=>intro _;rfl
   | succ j ihj =>
    intro hj;unfold ql;rw[ihj (by omega),q4v g k j (by omega)]
  rw[vM,List.length_append,ih];unfold xM;cases hg:g k with
  | false =>
   have h2:xQ g (k+1)=xQ g k:=by rw[jX,hg,if_neg (by decide),List.append_nil]
   rw[if_neg (by decide),h2]
   rfl
  | true =>
   have h2:(xQ g (k+1)).length=(xQ g k).length+1:=by rw[jX,hg,if_pos rfl,List.length_append];rfl
   have h3:(xQ g (k+1))[(xQ g k).length]?.getD 0=k:=by
    rw[jX,hg,if_pos rfl,List.getElem?_append_right (q_r),Nat.sub_self]
    rfl
   rw[if_pos rfl,h2]
   show _=ql _ _+z _
   rw[h1 _ (q_r),h3,List.length_map,List.length_range]
theorem q7h (Z:Sys) (z:Nat->Nat) (L:Nat->Int) (nl:Nat):kJ (goE Z z L nl)=fun x=>!inL L nl (yT z Z.ns x):=rfl
section
variable {M:q_m}{y:q_v}{E:Nat->Bool}{n K0:Nat}
theorem kQ {E:Nat->Bool}{a:Nat}(h:a<xe E n):enF E n a<n:=(Xo E n).low a h
theorem q3u (hM:HtM n n K0 M):HtM (xe (kJ E) n) (xe E n) (xe E n*(K0+5 ^ xe E n*(K0+1)+1)+1) (q6k M E n) :=
 QL (fun a ha i hi=>hM _ (kQ ha) _ (kQ hi)) (ZJ (fun a ha b hb=>hM _ (kQ ha) _ (kQ hb)))
theorem q3t (hM:HtM n n K0 M):HtM (xe (kJ E) n) (xe (kJ E) n) (gK (xe E n) K0) (Xp M E n):=fun a ha b hb=>by
 have h1:Ht _ (mm (xe E n) (q6k M E n) (fun i b=>M (enF E n i) (enF (kJ E) n b)) a b):=QL (q3u hM) (fun i hi b hb=>hM _ (kQ hi) _ (kQ hb)) a ha b hb;exact ((hM _ (kQ ha) _ (kQ hb)).sub h1).mono (by unfold gK;omega)
theorem q7M (hM:HtM n n K0 M) (hy:HtL n K0 y):HtL (xe (kJ E) n) (gK (xe E n) K0) (q1b M y E n):=fun a ha=>by
 refine ((hy _ (kQ ha)).sub (?_:Ht (xe E n*((xe E n*(K0+5 ^ xe E n*(K0+1)+1)+1)+K0+1)+1) _)).mono (by unfold gK;omega);unfold av;exact wR fun i hi=>(q3u hM a ha i hi).mul (hy _ (kQ hi))
end
end
section
open Go.RowKit
def q5X (w:World) (g:Nat):Prop:=∀o v,w.cell? ⟨g,o,none⟩=some v->v=.slice none 0 0
theorem q5X.three{t:TypeId}(h:w.heap[g]?=some (.cells #[.slice none 0 0,.slice none 0 0,.slice none 0 0] t (0,0))):q5X w g:=by
 intro o v hv;rw[qh h] at hv
 match o with
 | 0=>simpa using hv.symm
 | 1=>simpa using hv.symm
 | 2=>simpa using hv.symm
 | k+3=>simp at hv
section
variable {N lo hi g n:Nat}{w w':World}{v:Value}
theorem IzV.off {z:Nat->Int}(h:IzV N lo hi w v n z) (c:Chg g (g+1) w w') (hb:q5X w g):IzV N lo hi w' v n z:=by
 obtain⟨h0,A,k,hv,h1,h2,h3⟩:=h;refine⟨h0,A,k,hv,h1,h2,fun hn=>?_⟩;obtain⟨b,off,hA,hx⟩:=h3 hn;refine⟨b,off,hA,fun i hi=>c.cell (hx i hi) ?_⟩
 have:b≠g:=fun e=>by
  subst e;have:=hb _ _ (hx i hi);cases this
 show b<g\/g+1<=b
 omega
theorem LsR.off {R:Nat->Raw}(h:LsR N lo hi w v n R) (c:Chg g (g+1) w w') (hN:N<=g) (hb:q5X w g):LsR N lo hi w' v n R:=by
 obtain⟨h1,h2,A,k,hv,h3,h4,h5⟩:=h;refine⟨q_l h1 c.size,q_l h2 c.size,A,k,hv,h3,h4,fun hn=>?_⟩;obtain⟨b,off,hA,hl,hh,hx⟩:=h5 hn;refine⟨b,off,hA,hl,hh,fun i hi=>(hx i hi).chg c hN ?_⟩
 have:b≠g:=fun e=>by
  subst e;obtain⟨s,t,h9,-⟩:=hx i hi;have:=hb _ _ h9;cases this
 omega
theorem MtR.off {m:Nat}{L:Nat->Nat}{R:Nat->Nat->Raw}(h:MtR N lo hi w v m L R) (c:Chg g (g+1) w w') (hN:N<=g) (hb:q5X w g) (hL:∀i,i<m->0<L i):MtR N lo hi w' v m L R:=by
 obtain⟨h1,h2,A,k,hv,h3,h4,h5⟩:=h;refine⟨q_l h1 c.size,q_l h2 c.size,A,k,hv,h3,h4,fun hn=>?_⟩;obtain⟨b,off,hA,hl,hh,hx⟩:=h5 hn;refine⟨b,off,hA,hl,hh,fun i hi=>?_⟩;obtain⟨u,hu,hr⟩:=hx i hi;refine⟨u,c.cell (p:=⟨b,off+i,none⟩) hu ?_,hr.off c hN hb⟩
 have:b≠g:=fun e=>by
  subst e;have h9:=hb _ _ hu;obtain⟨-,-,A',k',hv',-,-,-⟩:=hr;rw[hv'] at h9;injection h9 with e1 e2 e3
  have:=hL i hi;omega
 show b<g\/g+1<=b
 omega
theorem jI.off {Z:Sys}(h:jI N lo hi w v Z) (c:Chg g (g+1) w w') (hN:N<=g) (hb:q5X w g) (hL:∀i,i<Z.nb->∀a,a<(Z.b i).m->0<(Z.b i).L a):jI N lo hi w' v Z:=by
 obtain⟨v1,v2,v3,hv,h1,h2,h3⟩:=h;refine⟨v1,v2,v3,hv,h1.off c hb,?_,h3.off c hN hb⟩;obtain⟨A,k,hv,h4,h5,h6⟩:=h2;refine⟨A,k,hv,h4,h5,fun hn=>?_⟩;obtain⟨b,off,hA,hx⟩:=h6 hn;refine⟨b,off,hA,fun i hi=>?_⟩;obtain⟨h7,h8,A',k',h9,h10⟩:=hx i hi
 have:b≠g:=fun e=>by
  subst e;have:=hb _ _ h7;cases this
 exact⟨c.cell h7 (by show b<g\/g+1<=b;omega),c.cell h8 (by show b<g\/g+1<=b;omega),A',k',c.cell h9 (by show b<g\/g+1<=b;omega),h10.off c hN hb (hL i hi)⟩
theorem V4.pos {Z:Sys}{z:Nat->Nat}{M:q_m}{y:q_v}(H:V4 Z z M y) (hz:∀i,i<Z.ns->1<=z i):∀i,i<Z.nb->∀a,a<(Z.b i).m->0<(Z.b i).L a:=fun i hi a ha=>by
 obtain⟨r,c,h1,h2,-,-,h3,h4,-⟩:=H.bk i hi;rw[h4 a (by omega)];have:=hz c (by omega);omega
end
theorem QT{ops:Array Oper}{rest:List Oper}{o:Oper}{a:Act}{Q:Exit->Act->World->Prop}(hg:o.guard=none) (l c:Operand) (hop:o.op=Op.makeSlice 25 l c)
  (kl kc:IntKind) (C:Int) (n:Nat) (hl:a.eval l=.int kl 0) (hc:a.eval c=.int kc C) (hC:C=(n:Int)) (hn:n<1000000)
  (hK:∀w',qO 3 w.heap.size w' (.slice (some ⟨w.heap.size,0,none⟩) 0 n) (ivs [])->Ext w w'->wpList Tryz.prog ops Q rest (a.put o.dst (.slice (some ⟨w.heap.size,0,none⟩) 0 n)) w'):wpList Tryz.prog ops Q (o :: rest) a w:=by
 obtain⟨i0,hi0,hz0,hz1,hz2⟩:=info_parts q00;refine wpList_make_own w hg l c 25 hop w.heap.size 3 i0 _ 1 Tryz.underlying25 hi0 hz0 hz1 kl kc C n hl hc hC (by rw[hz2];omega) (by unfold maxLen;omega) (q_r) ?_;intro w' h1 h2;have hx:=(Ext.refl w).grown h2 (fun k hk=>by cases hk);exact hK w' ⟨hx.size,h1⟩ hx
theorem q2f (f:Nat->Nat) (a:Nat):ivs ((List.range a).map f) ++ [.int .i64 ((f a:Nat):Int)]=ivs ((List.range (a+1)).map f):=by
 rw[ZG,List.range_succ,List.map_append]
 rfl
theorem q2Q:∀l:List Nat,∃k,∀x∈l,x<k
 | []=>⟨0,fun x hx=>by cases hx⟩
 | y :: l=>by
  obtain⟨k,hk⟩:=q2Q l;refine⟨k+y+1,fun x hx=>?_⟩
  rcases List.mem_cons.1 hx with rfl|h
  ·omega
  ·have:=hk x h;omega
theorem q5g{f:Nat->Nat}(h:qO 3 base w v (ivs ((List.range n).map f))):IzV N lo hi w v n (fun i=>(f i:Int)):=by
 obtain⟨k,hk⟩:=q2Q ((List.range n).map f);have h1:=(Qz (N:=N) (k:=k) h hk).1;rw[List.length_map,List.length_range] at h1;obtain⟨-,A,c,hv,h2,h3,h4⟩:=h1;refine⟨rfl,A,c,hv,h2,h3,fun hn=>?_⟩;obtain⟨b,off,hA,hx⟩:=h4 hn;refine⟨b,off,hA,fun i hi=>?_⟩;rw[hx i hi];simp[hi]
end
section
open Go.RowKit
def wd (f:Nat->Bool):Nat->Nat
 | 0=>0
 | n+1=>wd f n ||| (if f n=true then 2 ^ n else 0)
theorem xA (f:Nat->Bool):∀n j,(wd f n).testBit j=(decide (j<n)&&f j)
 | 0,j=>by simp[wd]
 | n+1,j=>by
  unfold wd;rw[Nat.testBit_or,xA f n j]
  by_cases hj:j=n
  ·subst hj;cases h:f j with
   | true=>simp
   | false=>simp
  ·have h2:(if f n=true then 2 ^ n else 0:Nat).testBit j=false:=by
    split
    ·rw[Nat.testBit_two_pow];simp;omega
    ·simp
   rw[h2,Bool.or_false]
   congr 1
   rw[decide_eq_decide];omega
theorem q8m {f f':Nat->Bool}(h:∀j,j<n->f j=f' j):wd f n=wd f' n:=by
 refine Nat.eq_of_testBit_eq fun j=>?_
 rw[xA,xA]
 by_cases hj:j<n
 ·rw[h j hj]
 ·rw[q_f hj,Bool.false_and,Bool.false_and]
theorem wd_lt (f:Nat->Bool) (n:Nat):wd f n<2 ^ n:=by
 refine Nat.lt_pow_two_of_testBit _ fun i hi=>?_
 rw[xA,q_f (by omega),Bool.false_and]
theorem yX (f:Nat->Bool)(h:n<=12):wd f n<4096 :=
 Nat.lt_of_lt_of_le (wd_lt f n) (Nat.pow_le_pow_right (by decide) h:2 ^ n<=2 ^ 12)
theorem q1A {f:Nat->Bool}(h:∀j,j<n->f j=false):wd f n=0:=by
 refine Nat.eq_of_testBit_eq fun j=>?_
 rw[xA,Nat.zero_testBit]
 by_cases hj:j<n
 ·rw[h j hj,Bool.and_false]
 ·rw[q_f hj,Bool.false_and]
theorem q8l (f:Nat->Bool)(hc:c<n):wd f n ||| 2 ^ c=wd (fun j=>f j||decide (j=c)) n:=by
 refine Nat.eq_of_testBit_eq fun j=>?_
 rw[Nat.testBit_or,xA,xA,Nat.testBit_two_pow]
 by_cases hj:j=c
 ·subst hj;simp[hc]
 ·rw[q_f (show ¬c=j from fun e=>hj e.symm),q_f (show ¬j=c from hj),Bool.or_false,Bool.or_false]
theorem q4e (f:Nat->Bool)(hn:n<=12) (hc:c<n):wd f n &&& (18446744073709551615-2 ^ c)=wd (fun j=>f j && !decide (j=c)) n:=by
 have h1:18446744073709551615-2 ^ c=2 ^ 64-(2 ^ c+1):=by omega
 refine Nat.eq_of_testBit_eq fun j=>?_
 rw[Nat.testBit_and,xA,xA,h1,Nat.testBit_two_pow_sub_succ (Nat.pow_lt_pow_right (by decide) (by omega)),Nat.testBit_two_pow]
 by_cases hj:j<n
 ·by_cases hjc:j=c
  ·subst hjc;simp
  ·rw[q_f (show ¬c=j from fun e=>hjc e.symm),q_f (show ¬j=c from hjc)];have:decide (j<64)=true:=q_t (by omega);simp[this]
 ·rw[q_f hj];simp
theorem q8n (f:Nat->Bool)(hk:k<n):(wd f n / 2 ^ k) &&& 1=if f k=true then 1 else 0:=by
 have h1:=xA f n k;rw[q_t hk,Bool.true_and] at h1;rw[Nat.and_one_is_mod];unfold Nat.testBit at h1;rw[Nat.shiftRight_eq_div_pow,Nat.one_and_eq_mod_two] at h1;rw[<-h1];have:wd f n / 2 ^ k % 2=0\/wd f n / 2 ^ k % 2=1:=by omega
 rcases this with h|h<;>rw[h]<;>rfl
def KJ (f:Nat->Bool):Nat->Nat
 | 0=>0
 | n+1=>KJ f n+(if f n=true then 1 else 0)
theorem q4R:One 109 (.int .u64 0) 8:=⟨by kernel_rfl,rfl,by omega,by decide⟩
theorem Qv:109≠119:=by decide
def edg (Z:Sys) (p i j:Nat):Bool:=!decide ((Z.b p).r=(Z.b p).c)&&(decide ((Z.b p).r=(i:Int))&&decide ((Z.b p).c=(j:Int))||decide ((Z.b p).r=(j:Int))&&decide ((Z.b p).c=(i:Int)))
def yL (Z:Sys) (q i j:Nat):Bool:=kT q (fun p=>edg Z p i j)
def NrB (w:World) (g n:Nat) (G:Nat->Nat->Bool):Prop:=FlB 109 w g n (fun i=>.int .u64 ((wd (G i) n:Nat):Int))
theorem Zr(hc:c<12):IntKind.u64.wrap (2 ^ c)=((2 ^ c:Nat):Int):=by
 have h1:2 ^ c<2 ^ 12:=Nat.pow_lt_pow_right (by decide) hc;have h2:((2:Int) ^ c)=((2 ^ c:Nat):Int):=by simp
 rw[h2];obtain⟨P,hP⟩:∃P,P=2 ^ c:=⟨_,rfl⟩
 rw[<-hP] at h1 ⊢;rw[show IntKind.u64.wrap (P:Int)=(P:Int) % 18446744073709551616 by simp[IntKind.wrap,IntKind.bits,IntKind.signed]];omega
theorem JK (n:Nat) (p:Nat->Bool):kT (n+1) p=(kT n p||p n):=by
 unfold kT;simp[List.range_succ]
theorem q6m {Z:Sys}{p R C:Nat}(h1:(Z.b p).r=(R:Int)) (h2:(Z.b p).c=(C:Int)) (i j:Nat):edg Z p i j=(!decide (R=C)&&(decide (R=i)&&decide (C=j)||decide (R=j)&&decide (C=i))):=by
 unfold edg;rw[h1,h2];simp only[Int.natCast_inj]
theorem FlB.congr {ET:TypeId}{f f':Nat->Value}(h:FlB ET w g m f) (hf:∀i,i<m->f i=f' i):FlB ET w g m f':=by
 obtain⟨cs,h1,h2,h3⟩:=h;exact⟨cs,h1,h2,fun i hi=>by rw[h3 i hi,hf i hi]⟩
theorem wdv {f f':Nat->Bool}(h:∀j,j<n->f j=f' j):Value.int .u64 ((wd f n:Nat):Int)=Value.int .u64 ((wd f' n:Nat):Int):=by rw[q8m h]
theorem q5s {Z:Sys}{q R:Nat}(h1:(Z.b q).r=(R:Int)) (h2:(Z.b q).c=(R:Int)) (i j:Nat):yL Z (q+1) i j=yL Z q i j:=by
 unfold yL;rw[JK,q6m h1 h2,q_t (rfl:R=R),Bool.not_true,Bool.false_and,Bool.or_false]
theorem q7N {Z:Sys}{q R C:Nat}(h1:(Z.b q).r=(R:Int)) (h2:(Z.b q).c=(C:Int)) (hne:¬R=C) (i j:Nat):yL Z (q+1) i j=(yL Z q i j||(decide (R=i)&&decide (C=j)||decide (R=j)&&decide (C=i))):=by
 unfold yL;rw[JK,q6m h1 h2,q_f hne,Bool.not_false,Bool.true_and]
theorem J7 {f:Nat->Bool}(hn:n<=12) (hc:c<n):bits .or .u64 ((wd f n:Nat):Int) ((2 ^ c:Nat):Int)=((wd (fun j=>f j||decide (j=c)) n:Nat):Int):=by
 have h1:2 ^ c<2 ^ 12:=Nat.pow_lt_pow_right (by decide) (by omega);have h2:=yX f hn;rw[u64_or_nat _ _ (by omega) (by omega),q8l f hc]
theorem QR{Z:Sys}(h:jI N lo hi w v Z) (h0:Okk Z) :
  Calls Tryz.prog 59 #[v] w (fun e w'=>∃g,e=.returned (.slice (some ⟨g,0,none⟩) Z.ns Z.ns)/\w.heap.size<=g/\NrB w' g Z.ns (yL Z Z.nb)/\Ext w w'):=by
 obtain⟨Q,hQ⟩:=qc (fun (e:Ending) (w':World)=>∃g,e=.returned (.slice (some ⟨g,0,none⟩) Z.ns Z.ns)/\w.heap.size<=g/\NrB w' g Z.ns (yL Z Z.nb)/\Ext w w');rw[<-hQ.out];have HS:=q_h h;have HO:=q_h h0;obtain⟨A1,c1,A2,c2,A3,c3,rfl,s1,s2,s3,k1,k2,k3⟩:=h.parts;have HB:=q_h s2;have hN:=LsR.le s3;obtain⟨m,hm⟩:=qc Z.ns;obtain⟨nb,hnb⟩:=qc Z.nb;obtain⟨kk,hkk⟩:=qc Z.k;rw[<-hm.out,<-hnb.out,<-hkk.out];rw[<-hm.out] at k1;rw[<-hnb.out] at k2;rw[<-hkk.out] at k3;have hm12:m<=12:=by have:=h0.n2;have:=hm.out;omega
 clear h h0 s1 s2 s3;go_enter Tryz.func59,Tryz.ntmps59;go_upto_region 1 with (fail);refine qo ?_;intro w1 hE hsz B0;obtain⟨g1,hg1⟩:=qc w.heap.size;rw[<-hg1.out] at B0 ⊢;obtain⟨a0,a1,a2,-⟩:=cells3 B0;have HB0:=q_h B0;go_wp2_with (at_make;refine q_o ?_);refine zQ q4R rfl rfl _ _ 102 Tryz.underlying102 rfl .i64 .i64 _ _ m rfl rfl rfl rfl (by omega) ?_;intro w2 cs B2 hcs hz e2;obtain⟨gN,hgN⟩:=qc w1.heap.size;rw[<-hgN.out] at B2 ⊢;have hN1:w.heap.size<=gN:=by rw[hgN.out];exact hE.size
 have hN2:g1<gN:=by rw[hgN.out,hg1.out];omega
 have hNs:gN<w2.heap.size:=qF B2
 have HF0:Hid (NrB w2 gN m (yL Z 0)):=⟨cs,B2,hcs,fun i hi=>by
  have h9:wd (yL Z 0 i) m=0:=q1A fun j _=>rfl
  rw[hz i hi]
  show _=some (Value.int IntKind.u64 ((wd (yL Z 0 i) m:Nat):Int))
  rw[h9]
  rfl⟩
 have HE2:=q_h (hE.trans e2);have HB02:=q_h (e2.block B0);clear B2 hcs hz hE e2 B0 a0 a1 a2 HB0 hsz;obtain⟨a0,a1,a2,-⟩:=cells3 HB02.out;go_wp2_with fail
 go_loopw [13] (fun iv wr=>∃i:Nat,i<=nb/\iv=.int .i64 (i:Int)/\Hid (NrB wr gN m (yL Z i))/\Hid (Chg gN (gN+1) w2 wr)) (fun iv _=>nb-(intOf iv).toNat)
 case atStart=>exact⟨0,Nat.zero_le _,rfl,HF0,Chg.refl _ _ _⟩
 case round =>
  clear HF0 a0 a1 a2;obtain⟨i,hi9,rfl,HF,HC⟩:=hrel;have HEi:Hid (Ext w wr):=HC.out.ext HE2.out (by omega)
  by_cases hlt:i<nb
  case neg =>
   have t1:decide ((i:Int)<(nb:Int))=false:=q_f (by omega);obtain rfl:nb=i:=by omega
   go_wp2
   first|go_ret|skip
   rw[hQ.out,<-hm.out,<-hnb.out];exact⟨gN,rfl,hN1,HF.out,HEi.out⟩
  have t1:decide ((i:Int)<(nb:Int))=true:=q_t (by omega);have t2:(i:Int)<(nb:Int):=by omega
  have HBi:=HB.out;rw[<-hnb.out] at HBi;obtain⟨b,off,rfl,hx⟩:=HBi.addr (by omega);obtain⟨Ab,cb,p0,p1,p2,hM,hm9⟩:=(hx i hlt).box;replace p0:=HEi.out.cell p0;replace p1:=HEi.out.cell p1;replace p2:=HEi.out.cell p2;have HIB:Hid (i<Z.nb):=by rw[Hid,<-hnb.out];exact hlt
  obtain⟨r1,r2,r3,r4,-⟩:=jT HO.out HIB.out;obtain⟨R,hR⟩:=qc (Z.b i).r.toNat;obtain⟨C,hC⟩:=qc (Z.b i).c.toNat;have HRR:Hid ((Z.b i).r=(R:Int)):=by rw[Hid];have:=hR.out;omega
  have HCC:Hid ((Z.b i).c=(C:Int)):=by rw[Hid];have:=hC.out;omega
  rw[HRR.out] at p0;rw[HCC.out] at p1;have hRm:R<m:=by have:=hR.out;have:=hm.out;omega
  have hCR:C<=R:=by have:=hR.out;have:=hC.out;omega
  obtain⟨mb,hmb⟩:=qc (Z.b i).m;rw[<-hmb.out] at p2;obtain⟨wq,hwq⟩:∃wq,wq=wr:=⟨_,rfl⟩
  subst hwq;clear hx HBi hM r1 r2 r3 r4 hm9;go_upto_region 5 with (fail);refine qo ?_;intro w5 e5 hsz5 B5;obtain⟨g5,hg5⟩:=qc wq.heap.size;rw[<-hg5.out] at B5 ⊢;have h5q:gN<g5:=by have:=HC.out.size;rw[hg5.out];omega
  have HB5:=q_h B5;have HF5:Hid (NrB w5 gN m (yL Z i)):=HF.out.ext e5;have HC5:Hid (Chg gN (gN+1) w2 w5):=HC.out.trans (e5.chg _ _);obtain⟨b0,b1,b2,-⟩:=cells3 B5;clear e5 B5 hsz5 hg5 p0 p1 p2 HF HC HEi
  by_cases hrc:R=C
  ·obtain rfl:=hrc;have t3:((R:Int) != (R:Int))=false:=by simp
   have HFn:Hid (NrB w5 gN m (yL Z (i+1))):=HF5.out.congr fun x hx=>wdv fun j hj=>(q5s HRR.out HCC.out x j).symm
   go_wp2;go_roundw
   case rel=>exact⟨i+1,by omega,by go_num,HFn,HC5⟩
   case measure=>simp[intOf];omega
  have t3:((R:Int) != (C:Int))=true:=by simpa using fun h:(R:Int)=C=>hrc (by omega)
  have hCm:C<m:=by omega
  obtain⟨W,hW⟩:=qc (wd (yL Z i R) m);obtain⟨W1,hW1⟩:=qc (wd (fun j=>yL Z i R j||decide (j=C)) m);obtain⟨S,hS⟩:=qc (2 ^ C);have t4:=Zr (show C<12 by omega);have t5:=J7 (f:=yL Z i R) hm12 hCm;rw[<-hS.out] at t4;rw[<-hS.out,<-hW.out,<-hW1.out] at t5;obtain⟨x0,f0⟩:=HF5.out.cell hRm;rw[<-hW.out] at x0;go_upto_region 6 with (fail);refine yB [Mn.eq (.slice (some ⟨gN,0,none⟩) m m),Mn.q g5 0,Mn.i (R:Int),Mn.q gN R,Mn.eq (.int .u64 (W:Int)),Mn.q g5 1,Mn.i (C:Int),Mn.eq (.int .u64 (S:Int)),Mn.eq (.int .u64 (W1:Int)),Mn.any,Mn.any] [some 22,some 23,some 24,some 25,some 26,some 27,some 28,some 29,some 30,some 31,none] [9,10] (rQ 9 2) 2 (by kernel_rfl) ?_ ?_
  ·show ∀i,i<11->_
   iterate 11 refine fs ?_ ?_
   ·exact fz
   all_goals intro hl;first|exact absurd hl (by decide)|(clear hl;refine stp rfl ?_;intro ac wi eI hB hA K hK)
   have o3:=oOf (hB 3) rfl;rotate_left;have o5:=oOf (hB 5) rfl;rotate_left;obtain⟨_,s23,rfl⟩:=hA 1 23;have cc0:=eI.cell b0;rotate_left;obtain⟨_,s22,rfl⟩:=hA 0 22;obtain⟨_,s24,rfl⟩:=hA 2 24;rotate_left;obtain⟨_,s25,rfl⟩:=hA 3 25;have cc0:=eI.cell x0;rotate_left;have o5:=oOf (hB 5) rfl;rotate_left;obtain⟨_,s27,rfl⟩:=hA 5 27;have cc0:=eI.cell b1;rotate_left;obtain⟨_,s28,rfl⟩:=hA 6 28;rotate_left;obtain⟨_,s26,rfl⟩:=hA 4 26;obtain⟨_,s29,rfl⟩:=hA 7 29;rotate_left
   all_goals clear hB hA;go_simp;exact q_k hK rfl
  intro vals wz eZ hJ;have J22:vals 0=_:=hJ 0 (by decide) (by decide);have J24:vals 2=_:=hJ 2 (by decide) (by decide);have J30:vals 8=_:=hJ 8 (by decide) (by decide);clear hJ;simp only[pr,Nat.reduceAdd,J22,J24,J30];clear J22 J24 J30;have hFz:=HF5.out.ext eZ;obtain⟨y0,v0⟩:=hFz.cell hRm;refine qj (i:=9) rfl (by kernel_rfl) (by kernel_rfl) (fun K hK=>?_);go_simp;refine hK.out _ _ ?_;clear hK K;try simp only[nr]
  refine qj (i:=10) rfl (by kernel_rfl) (by kernel_rfl) (fun K hK=>?_);go_simp;refine hK.out _ _ ?_;clear hK K;try simp only[nr]
  refine qg (by kernel_rfl) ?_ _;obtain⟨w6,E6,F6,C6,hs6⟩:=hFz.set Qv hRm (.int .u64 (W1:Int));rw[E6];have HF6:Hid (FlB 109 w6 gN m (fun j=>if j=R then .int .u64 (W1:Int) else .int .u64 ((wd (yL Z i j) m:Nat):Int))):=F6;have HC6:Hid (Chg gN (gN+1) w2 w6):=(HC5.out.trans (eZ.chg _ _)).trans C6;have HB6:=q_h (C6.blk (eZ.block HB5.out) (.inr (by omega)));clear E6 F6 C6 hs6 hFz y0 v0 eZ x0 f0 t4 t5 HB5 HF5 HC5 b0 b1 b2;obtain⟨b0,b1,b2,-⟩:=cells3 HB6.out;obtain⟨V,hV⟩:=qc (wd (yL Z i C) m);obtain⟨V1,hV1⟩:=qc (wd (fun j=>yL Z i C j||decide (j=R)) m);obtain⟨T,hT⟩:=qc (2 ^ R);have t4:=Zr (show R<12 by omega);have t5:=J7 (f:=yL Z i C) hm12 hRm;rw[<-hT.out] at t4;rw[<-hT.out,<-hV.out,<-hV1.out] at t5;obtain⟨x0,f0⟩:=HF6.out.cell hCm;rw[if_neg (show ¬C=R from fun h=>hrc h.symm),<-hV.out] at x0;go_upto_region 7 with (fail);refine yB [Mn.eq (.slice (some ⟨gN,0,none⟩) m m),Mn.q g5 1,Mn.i (C:Int),Mn.q gN C,Mn.eq (.int .u64 (V:Int)),Mn.q g5 0,Mn.i (R:Int),Mn.eq (.int .u64 (T:Int)),Mn.eq (.int .u64 (V1:Int)),Mn.any,Mn.any] [some 32,some 33,some 34,some 35,some 36,some 37,some 38,some 39,some 40,some 41,none] [9,10] (rQ 9 2) 2 (by kernel_rfl) ?_ ?_
  ·show ∀i,i<11->_
   iterate 11 refine fs ?_ ?_
   ·exact fz
   all_goals intro hl;first|exact absurd hl (by decide)|(clear hl;refine stp rfl ?_;intro ac wi eI hB hA K hK)
   have o3:=oOf (hB 3) rfl;rotate_left;have o5:=oOf (hB 5) rfl;rotate_left;obtain⟨_,s33,rfl⟩:=hA 1 33;have cc0:=eI.cell b1;rotate_left;obtain⟨_,s32,rfl⟩:=hA 0 32;obtain⟨_,s34,rfl⟩:=hA 2 34;rotate_left;obtain⟨_,s35,rfl⟩:=hA 3 35;have cc0:=eI.cell x0;rotate_left;have o5:=oOf (hB 5) rfl;rotate_left;obtain⟨_,s37,rfl⟩:=hA 5 37;have cc0:=eI.cell b0;rotate_left;obtain⟨_,s38,rfl⟩:=hA 6 38;rotate_left;obtain⟨_,s36,rfl⟩:=hA 4 36;obtain⟨_,s39,rfl⟩:=hA 7 39;rotate_left
   all_goals clear hB hA;go_simp;exact q_k hK rfl
  intro vals wz eZ hJ;have J32:vals 0=_:=hJ 0 (by decide) (by decide);have J34:vals 2=_:=hJ 2 (by decide) (by decide);have J40:vals 8=_:=hJ 8 (by decide) (by decide);clear hJ;simp only[pr,Nat.reduceAdd,J32,J34,J40];clear J32 J34 J40;have hFz:=HF6.out.ext eZ;obtain⟨y0,v0⟩:=hFz.cell hCm;refine qj (i:=9) rfl (by kernel_rfl) (by kernel_rfl) (fun K hK=>?_);go_simp;refine hK.out _ _ ?_;clear hK K;try simp only[nr]
  refine qj (i:=10) rfl (by kernel_rfl) (by kernel_rfl) (fun K hK=>?_);go_simp;refine hK.out _ _ ?_;clear hK K;try simp only[nr]
  refine qg (by kernel_rfl) ?_ _;obtain⟨w7,E7,F7,C7,hs7⟩:=hFz.set Qv hCm (.int .u64 (V1:Int));rw[E7]
  have HF7:Hid (NrB w7 gN m (yL Z (i+1))):=F7.congr fun x hx=>by
   have h2:=q7N (Z:=Z) (q:=i) HRR.out HCC.out hrc x
   show (if x=C then Value.int .u64 (V1:Int) else if x=R then .int .u64 (W1:Int) else .int .u64 ((wd (yL Z i x) m:Nat):Int))=.int .u64 ((wd (yL Z (i+1) x) m:Nat):Int)
   by_cases hxC:x=C
   ·subst hxC;rw[if_pos rfl,hV1.out];refine wdv fun j hj=>?_
    rw[h2,q_f hrc,Bool.false_and,Bool.false_or,q_t (rfl:x=x),Bool.and_true]
    congr 1
    rw[decide_eq_decide];exact eq_comm
   rw[if_neg hxC]
   by_cases hxR:x=R
   ·subst hxR;rw[if_pos rfl,hW1.out];refine wdv fun j hj=>?_
    rw[h2,q_f (show ¬C=x from fun h=>hxC h.symm),Bool.and_false,Bool.or_false,q_t (rfl:x=x),Bool.true_and]
    congr 1
    rw[decide_eq_decide];exact eq_comm
   rw[if_neg hxR];refine wdv fun j hj=>?_
   rw[h2,q_f (show ¬R=x from fun h=>hxR h.symm),q_f (show ¬C=x from fun h=>hxC h.symm),Bool.false_and,Bool.and_false,Bool.or_false,Bool.or_false]
  have HC7:Hid (Chg gN (gN+1) w2 w7):=(HC6.out.trans (eZ.chg _ _)).trans C7;clear E7 F7 C7 hs7 hFz y0 v0 eZ x0 f0 t4 t5 HB6 HF6 HC6 b0 b1 b2;go_wp2;go_roundw
  case rel=>exact⟨i+1,by omega,by go_num,HF7,HC7⟩
  case measure=>simp[intOf];omega
end
section
open Go.RowKit
def prv (l:List (Nat×Nat)):List Value:=l.flatMap fun p=>[.int .i64 (p.1:Int),.int .i64 (p.2:Int)]
theorem q2m (l:List (Nat×Nat)):(prv l).length=l.length*2:=by
 unfold prv
 induction l with
 | nil=>rfl
 | cons a l ih=>rw[List.flatMap_cons,List.length_append,ih];simp;omega
theorem q2n (l l':List (Nat×Nat)):prv (l++l')=prv l++prv l':=by unfold prv;rw[List.flatMap_append]
theorem q0m:Cls 64 2 (.agg #[.int .i64 0,.int .i64 0]) 16:=⟨by kernel_rfl,rfl,by decide,by decide,by decide,by decide⟩
def rowP (G:Nat->Nat->Bool) (k i j:Nat):List (Nat×Nat):=((List.range j).filter fun b=>G k b && !G i b).map fun b=>(b,i)
def vY (G:Nat->Nat->Bool) (k:Nat):Nat->List (Nat×Nat)
 | 0=>[]
 | i+1=>vY G k i++(if G k i=true then rowP G k i i else [])
theorem rowP_step (G:Nat->Nat->Bool) (k i j:Nat):rowP G k i (j+1)=rowP G k i j++(if (G k j && !G i j)=true then [(j,i)] else []):=by
 unfold rowP;rw[List.range_succ,List.filter_append,List.map_append]
 congr 1
 cases h:(G k j && !G i j)<;>simp[h]
theorem Wx (G:Nat->Nat->Bool) (k i j:Nat):(rowP G k i j).length<=j:=by
 unfold rowP;rw[List.length_map];exact q_l (List.length_filter_le _ _) (by simp)
theorem QZ (G:Nat->Nat->Bool) (k:Nat):∀i,(vY G k i).length<=i*i
 | 0=>q_r
 | i+1=>by
  have h1:=QZ G k i
  have h2:(if G k i=true then rowP G k i i else []).length<=i:=by
   split
   ·exact Wx G k i i
   ·exact Nat.zero_le _
  have h3:(i+1)*(i+1)=i*i+i+i+1:=by rw[Nat.add_mul,Nat.mul_add];omega
  unfold vY;rw[List.length_append];omega
def ltP (i j a b:Nat):Bool:=decide (b<a)&&(decide (a<i)||decide (a=i)&&decide (b<j))
def adG (G:Nat->Nat->Bool) (k i j a b:Nat):Bool:=G a b||(G k a&&G k b&&(ltP i j a b||ltP i j b a))
def q0L (G:Nat->Nat->Bool) (k a b:Nat):Bool:=!decide (a=k) && !decide (b=k)&&(G a b||(G k a&&G k b && !decide (a=b)))
def clG (G:Nat->Nat->Bool) (k n i a b:Nat):Bool:=adG G k n 0 a b && !(decide (a<i)&&decide (b=k))
section
variable {G:Nat->Nat->Bool}{k i j n a b:Nat}
theorem q40:adG G k 0 0 a b=G a b:=by
 unfold adG ltP
 simp
theorem q2O:ltP (i+1) 0 a b=ltP i i a b:=by
 unfold ltP;rw[Bool.eq_iff_iff];simp only[Bool.and_eq_true,Bool.or_eq_true,decide_eq_true_eq];omega
theorem q88:adG G k (i+1) 0 a b=adG G k i i a b:=by
 unfold adG;rw[q2O,q2O]
theorem q57:ltP i j i j=false:=by unfold ltP;simp
theorem q7m (h:j<i):ltP i j j i=false:=by
 unfold ltP;rw[q_f (show ¬i<j by omega),Bool.false_and]
theorem q9f (h:j<i):adG G k i j i j=G i j:=by
 unfold adG;rw[q57,q7m h]
 simp
theorem q5O (h:G k i=false):adG G k (i+1) 0 a b=adG G k i 0 a b:=by
 unfold adG ltP
 by_cases h1:a=i
 ·subst h1;rw[h];simp
 ·by_cases h2:b=i
  ·subst h2;rw[h];simp
  ·congr 2
   rw[Bool.eq_iff_iff];simp only[Bool.and_eq_true,Bool.or_eq_true,decide_eq_true_eq];omega
theorem q6q (hs:G i j=G j i) (h:(G k j && !G i j)=false):adG G k i (j+1) a b=adG G k i j a b:=by
 unfold adG ltP
 by_cases h1:(a=i/\b=j)\/(a=j/\b=i)
 ·rcases h1 with ⟨rfl,rfl⟩|⟨rfl,rfl⟩
  ·cases h2:G a b with
   | true=>simp
   | false =>
    rw[h2] at h;simp at h
    simp[h]
  ·cases h2:G a b with
   | true=>simp
   | false =>
    rw[hs,h2] at h;simp at h
    simp[h]
 ·congr 2
  rw[Bool.eq_iff_iff];simp only[Bool.and_eq_true,Bool.or_eq_true,decide_eq_true_eq];omega
theorem q87 (hij:j<i) (h1:G k i=true) (h2:G k j=true):adG G k i (j+1) a b=(adG G k i j a b||(decide (a=i)&&decide (b=j)||decide (a=j)&&decide (b=i))):=by
 by_cases h3:(a=i/\b=j)\/(a=j/\b=i)
 ·have h4:(decide (a=i)&&decide (b=j)||decide (a=j)&&decide (b=i))=true:=by
   simp only[Bool.and_eq_true,Bool.or_eq_true,decide_eq_true_eq];exact h3
  rw[h4,Bool.or_true];unfold adG ltP
  rcases h3 with ⟨rfl,rfl⟩|⟨rfl,rfl⟩
  ·rw[h1,h2];simp;omega
  ·rw[h1,h2];simp;omega
 ·have h4:(decide (a=i)&&decide (b=j)||decide (a=j)&&decide (b=i))=false:=by
   rw[Bool.eq_false_iff];intro h;simp only[Bool.and_eq_true,Bool.or_eq_true,decide_eq_true_eq] at h;exact h3 h
  rw[h4,Bool.or_false];unfold adG ltP
  congr 2
  rw[Bool.eq_iff_iff];simp only[Bool.and_eq_true,Bool.or_eq_true,decide_eq_true_eq];omega
theorem q5C (ha:a<n) (hb:b<n) (hs:∀a b,a<n->b<n->G a b=G b a) (hk:k<n) (hkk:∀a,a<n->G a a=false) (hak:¬a=k):clG G k n n a b=q0L G k a b:=by
 unfold clG q0L adG ltP;rw[q_t ha,q_f hak,Bool.true_and,Bool.not_false,Bool.true_and];cases h1:decide (b=k) with
 | true=>simp
 | false =>
  rw[Bool.not_false,Bool.and_true,Bool.true_and]
  congr 2
  rw[Bool.eq_iff_iff];simp only[Bool.and_eq_true,Bool.or_eq_true,decide_eq_true_eq,Bool.not_eq_true',decide_eq_false_iff_not,true_or,and_true,eq_self];omega
end
theorem q5M {f:Nat->Bool}(hn:n<=12) (hc:c<n):bits .and .u64 (((wd f n) / 2 ^ c:Nat):Int) 1=if f c=true then 1 else 0:=by
 have h2:=yX f hn;have h3:wd f n / 2 ^ c<=wd f n:=Nat.div_le_self _ _;have h1:=u64_and_nat (wd f n / 2 ^ c) 1 (by omega) (by omega);rw[q8n f hc] at h1;have h4:((1:Nat):Int)=1:=rfl;rw[h4] at h1;rw[h1]
 split<;>rfl
theorem Qa {f:Nat->Bool}{b:Bool}(hn:n<=12) (hc:c<n) (hb:f c=b):bits .and .u64 (((wd f n:Nat):Int) / 2 ^ c) 1=if b=true then 1 else 0:=by
 have h1:=q5M (f:=f) hn hc;rw[Int.natCast_ediv,Int.natCast_pow] at h1;rw[hb] at h1;exact h1
theorem q5B {f:Nat->Bool}(hn:n<=12) (hc:c<n):bits .andNot .u64 ((wd f n:Nat):Int) ((2 ^ c:Nat):Int)=((wd (fun j=>f j && !decide (j=c)) n:Nat):Int):=by
 have h1:2 ^ c<2 ^ 12:=Nat.pow_lt_pow_right (by decide) (by omega);have h2:=yX f hn;rw[u64_andNot_nat _ _ (by omega) (by omega),q4e f hn hc]
end
end Go.Proofs.YtflhlobiipejeaaGreat
