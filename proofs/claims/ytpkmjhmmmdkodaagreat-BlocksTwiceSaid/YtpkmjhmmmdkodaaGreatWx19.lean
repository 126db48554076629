import Derived.Test.YtpkmjhmmmdkodaaGreatWx15
import Derived.Test.YtpkmjhmmmdkodaaGreatWx18
import Derived.Shelf.Bits.Mul64
import Derived.Laws.IdiomCopy
import Derived.OwnWalk
set_option linter.all false
set_option maxHeartbeats 8000000
set_option maxRecDepth 100000
namespace Go.Proofs.YtpkmjhmmmdkodaaGreat
open Go.RowKit
variable {w w':World} {N n lo hi k g m base c b:Nat} {v s:Value} {z:Int} {R:Raw} {A:Option Addr}
theorem Sz.raw {q:Rat}(h:Sz q):jD (raw q):=by
 exact⟨q_l h.1 (by omega),q_l h.2 (by omega)⟩
theorem YJ{R:Nat->Raw}(h:LsR N lo hi w v n R) (hs:∀i,i<n->jD (R i)) :
  Calls Tryz.prog 171 #[v] w (zI w (.bool (allB n (fun i=>okR (R i))))):=by
 obtain⟨r,hr⟩:=qc (allB n (fun i=>okR (R i)));rw[<-hr.out];obtain⟨A,c,rfl,hnc,hcm⟩:=h.form;unfold maxLen at hcm;have hI:=h;have HS:=q_h hs;clear h hs;have HR:Hid (r=!xg n (fun i=>!okR (R i))):=by rw[Hid,hr.out,WB]
 obtain⟨s,hs⟩:=qc (xg n (fun i=>!okR (R i)));rw[<-hs.out] at HR;go_enter Tryz.func171,Tryz.ntmps171;go_wp2_with (go_at_call 112;refine q_o ?_);refine (q0R hI (fun i=>!okR (R i)) (fun i hi w' u e hu=>q3J hu (HS.out i hi))).mono ?_;rintro e w1 ⟨rfl,e1⟩;rw[<-hs.out];go_wp2;go_ret;exact⟨qw HR.out.symm,e1⟩
theorem JR{x:q_v}(h:LsV N lo hi w v n x) (hs:∀i,i<n->Sz (x i)) :
  Calls Tryz.prog 171 #[v] w (zI w (.bool true)):=by
 have h9:allB n (fun i=>okR (raw (x i)))=true:=ql.2 (fun i _=>jk _);have h8:=YJ h (fun i hi=>(hs i hi).raw);rw[h9] at h8;exact h8
theorem q3I {lo' hi':Nat}{u:Value}{gb:Nat}{X:q_m}{x:q_v}(hb:w.cell? ⟨gb,0,none⟩=some (.slice A m c)) (h:MtV N lo hi w (.slice A m c) m n X) (h':LsV N lo' hi' w u n x) (hm0:0<m) (hs:∀i,i<n->Sz (x i)) :
  Calls Tryz.prog 170 #[u,.pointer (some ⟨gb,0,none⟩)] w (zI w (.bool false)):=by
 obtain⟨b,off,rfl,-,-,hx⟩:=h.addr (by omega);obtain⟨A0,c0,o0,hc0,hm0',-⟩:=hx 0 (by omega);rw[Nat.add_zero] at o0;obtain⟨A1,c1,rfl,hn1,hm1⟩:=h'.form;unfold maxLen at hm0' hm1;have hI:=h';have HS:=q_h hs;have t1:((n:Int) != (n:Int))=false:=by simp
 clear h h' hx hs;go_enter Tryz.func170,Tryz.ntmps170;go_wp2_with (go_at_call 171;refine q_o ?_);refine (JR hI HS.out).mono ?_;rintro e w1 ⟨rfl,e1⟩;go_wp2;go_ret;exact⟨rfl,e1⟩
theorem XD{X:q_m}(h:MtV N lo hi w v m n X) (hm0:0<m) (hm:m<=64) (hn0:0<n) (hn:n<=64) (hs:∀i,i<m->∀j,j<n->Sz (X i j)) :
  Calls Tryz.prog 136 #[v] w (zI w (.int .i64 0)):=by
 obtain⟨A,c,rfl,hmc,hcm⟩:=h.form;have hI:=h;obtain⟨b,off,rfl,-,-,hx⟩:=h.addr hm0;obtain⟨A0,c0,o0,hc0,hm0',-⟩:=hx 0 (by omega);rw[Nat.add_zero] at o0;unfold maxLen at hm0' hcm;have HS:=q_h hs;have HF:Hid (xg m (fun _=>false)=false):=zT.2 (fun _ _=>rfl);clear h hx hs;go_enter Tryz.func136,Tryz.ntmps136;go_upto_region 1 with (fail);refine qp ?_;intro W hE hsz B0;obtain⟨a0,-⟩:=zu B0;replace o0:=hE.cell o0;go_wp2_with (go_at_call 169;refine q_o ?_);refine (q0Q (hI.ext hE) _ (fun _=>false) (fun i hi w' u e hu=>q3I (e.cell a0) (hI.ext (hE.trans e)) hu hm0 (HS.out i hi))).mono ?_;rintro e w1 ⟨rfl,e1⟩;rw[HF.out];go_wp2;go_ret;exact⟨rfl,hE.trans e1⟩
theorem q3F{X:q_m}(h:MtV N lo hi w v n n X) (hn0:0<n) (hn:n<=64) (hs:∀i,i<n->∀j,j<n->Sz (X i j)) :
  Calls Tryz.prog 97 #[v] w (zI w (.int .i64 0)):=by
 obtain⟨A,c,rfl,hmc,hcm⟩:=h.form;have hI:=h;obtain⟨b,off,rfl,-,-,hx⟩:=h.addr hn0;obtain⟨A0,c0,o0,hc0,hm0',-⟩:=hx 0 (by omega);rw[Nat.add_zero] at o0;unfold maxLen at hm0' hcm;have HS:=q_h hs;have t1:((n:Int) != (n:Int))=false:=by simp
 clear h hx hs;go_enter Tryz.func97,Tryz.ntmps97;go_wp2_with (go_at_call 136;refine q_o ?_);refine (XD hI hn0 hn hn0 hn HS.out).mono ?_;rintro e w1 ⟨rfl,e1⟩;replace o0:=e1.cell o0;go_wp2;go_ret;exact⟨rfl,e1⟩
end Go.Proofs.YtpkmjhmmmdkodaaGreat
namespace Go.Proofs.YtpkmjhmmmdkodaaGreat
variable {w w':World} {N n lo hi k g m base c b:Nat} {v s:Value} {z:Int} {R:Raw} {A:Option Addr}
def wP (n:Nat) (X:q_m) (i:Nat):Nat->Rat:=cat n (X i) (dlt i)
theorem VU {q:Nat}{X:q_m}(h:HtM n n q X):HtM n (n+n) (q+1) (wP n X):=by
 intro i hi j hj;unfold wP cat
 split
 ·exact (h i hi j (by assumption)).mono (by omega)
 ·unfold dlt;split
  ·exact Ht.one.mono (by omega)
  ·exact Ht.zero.mono (by omega)
def kN (r:Nat) (K:q_m) (i j:Nat):Rat:=(zx r (wP r K) r).1 i (r+j)
theorem ZA (r:Nat) (K:q_m):wP r K=qU r K:=by funext i c;rfl
end Go.Proofs.YtpkmjhmmmdkodaaGreat
namespace Go.Proofs.YtpkmjhmmmdkodaaGreat
open Go.RowKit
variable {w w':World} {N n lo hi k g m base c b:Nat} {v s:Value} {z:Int} {R:Raw} {A:Option Addr}
def q51 (N:Nat) (w:World) (n:Nat) (M:q_m) (p:List Nat) (e:Ending) (w':World):Prop :=
 Ext w w'/\((p.length<n/\e=.returned (.tuple #[.slice none 0 0,.int .i64 14]))\/(n<=p.length/\∃h cap β κ,e=.returned (.tuple #[.slice (some ⟨h,0,none⟩) n cap,.int .i64 0])/\cap<=maxLen/\zt N w.heap.size w'.heap.size w' h cap n n β κ (fun i j=>M i (n+j))))
theorem JQ{X:q_m}(h:MtV N lo hi w v n n X) (hn0:0<n) (hn:n<=64)
  {q:Nat}(hq:HtM n n q X) (hK:5*(5 ^ n*(q+1))<=29000000000) :
  Calls Tryz.prog 49 #[v] w (q51 N w n (zx n (wP n X) n).1 (zx n (wP n X) n).2):=by
 obtain⟨Rf,hRf⟩:=qc (q51 N w n (zx n (wP n X) n).1 (zx n (wP n X) n).2);rw[<-hRf.out];have hN:=h.le;obtain⟨A,c,rfl,hmc,hcm⟩:=h.form;unfold maxLen at hcm;have hI:=h;have hq1:q+1<=5 ^ n*(q+1):=Nat.le_mul_of_pos_left _ (Nat.pow_pos (by omega));have HS:Hid (∀i,i<n->∀j,j<n->Sz (X i j)):=fun i hi j hj=>(hq i hi j hj).sz (by omega)
 have HQ:=q_h (VU hq);have HK:=q_h hK;have hw1:IntKind.i64.wrap ((n:Int)+(n:Int))=(n:Int)+(n:Int):=IntWalk.i64_in _ (by omega);clear h hq hK hq1;go_enter Tryz.func49,Tryz.ntmps49;go_wp2_with (go_at_call 97;refine q_o ?_);refine (q3F hI hn0 hn HS.out).mono ?_;rintro e w1 ⟨rfl,hE⟩;go_upto_region 5 with (fail);refine qp ?_;intro W e1 hsz B0;have hgn1:w.heap.size<=w1.heap.size:=hE.size;replace hE:=hE.trans e1;obtain⟨gn,hgn⟩:∃gn,gn=w1.heap.size:=⟨_,rfl⟩
 rw[<-hgn] at B0 hgn1 hsz ⊢;clear e1 hgn;obtain⟨a0,-⟩:=zu B0;go_wp2_with (go_at_call 99;refine q_o ?_);refine (YI (N:=N) (by omega) n n rfl rfl (by omega) (by omega) (fun i=>dlt i) (fun i hi j hj w' e=>q78 (by have:=e.size;omega) i j (by omega) (by omega))).mono ?_;intro e w2 hh;obtain⟨A2,c2,rfl,h2,e2⟩:=hh.mt;replace hE:=hE.trans e2;replace a0:=e2.cell a0;replace B0:=e2.block B0;have hs2:=e2.size;clear e2;go_wp2_with (go_at_call 98;refine q_o ?_);refine (q3K (hI.ext hE) h2 hn0 (by omega) (by omega) (by omega)).mono ?_;rintro e w3 ⟨h3,cap3,β3,κ3,rfl,hcap3,ho3,e3⟩;replace hE:=hE.trans e3;replace a0:=e3.cell a0;replace B0:=e3.block B0;have hs3:=e3.size;replace ho3:zt N w2.heap.size w3.heap.size w3 h3 cap3 n (n+n) β3 κ3 (wP n X):=ho3;clear e3 h2;go_upto_region 6 with (fail);refine qp ?_;intro w4 e4 hsz4 B4;replace hE:=hE.trans e4;replace a0:=e4.cell a0;replace B0:=e4.block B0;replace ho3:=ho3.ext e4;obtain⟨b0,-⟩:=zu B4;have l4:=cell_lt b0;simp only at l4;have l0:=cell_lt a0;simp only at l0;clear e4;obtain⟨M,hM⟩:=qc (zx n (wP n X) n).1;obtain⟨p,hp⟩:=qc (zx n (wP n X) n).2;rw[<-hM.out,<-hp.out] at hRf;have eC:=(Ext.refl w4).drew;refine qx (fun w'=>w'.cell? ⟨gn,0,none⟩=some (.int .i64 (n:Int))/\w'.cell? ⟨w3.heap.size,0,none⟩=some (.slice (some ⟨h3,0,none⟩) n cap3)) [] (by kernel_rfl) (by exact⟨eC.cell a0,eC.cell b0⟩) (fun hHeld=>?_)
 refine sT 0 (h:=?_);try simp only[nr]
 refine sT 1 (h:=?_);try simp only[nr]
 refine sT 4 (h:=?_);try simp only[nr]
 refine qA (i:=2) rfl (by kernel_rfl) (fun K hK=>?_);go_simp;refine (q3G (ho3.ext eC) (by omega) (by omega) n rfl (by omega) HQ.out (P:=n) (.inl (q_r)) HK.out).mono ?_;rintro e w5 ⟨β5,κ5,A5,c5,rfl,ho5,hi5,C5⟩;have hE5:Ext w w5:=C5.ext (hE.trans eC) (by omega);replace B0:=C5.blk (eC.block B0) (.inl (by omega));replace B4:=C5.blk (eC.block B4) (.inr (q_r));replace a0:=C5.cell (eC.cell a0) (.inl (show gn<w2.heap.size by omega));replace b0:=C5.cell (eC.cell b0) (.inr (q_r));replace eC:=Ext.refl w5;rw[<-hp.out] at hi5 ⊢;rw[<-hM.out] at ho5;go_wp2_with fail;clear hHeld;refine hK.out _ _ (by exact⟨eC.cell a0,eC.cell b0⟩) fun hHeld=>?_
 clear hK K;try simp only[nr]
 refine sP 3 (h:=?_);try simp only[nr]
 refine sP 5 (h:=?_);try simp only[nr]
 refine qg (by kernel_rfl) ?_ _;clear hHeld;have hs5:w4.heap.size<=w5.heap.size:=C5.size
 by_cases hlt:p.length<n
 ·have hd:decide (p.length<n)=true:=q_t hlt;clear a0 b0 hw1;rw[hd];go_wp2;rw[hRf.out];exact⟨hE5,.inl ⟨hlt,rfl⟩⟩
 ·have hd:decide (p.length<n)=false:=q_f hlt;have hmt:=ho5.mtv ho5.mle hcap3;rw[hd];go_wp2_with (go_at_call 99;refine q_o ?_);refine (ZP (N:=N) (by omega) n n rfl rfl (by omega) (by omega) (fun i j=>M i (n+j)) (fun i hi j hj w' e=>q04 (e.cell b0) (e.cell a0) (hmt.ext e) hi (by omega) (by omega) (by omega))).mono ?_;rintro e w6 ⟨h6,cap6,β6,κ6,rfl,hcap6,ho6,e6⟩;have hs6:=e6.size;clear a0 b0 hw1;go_wp2;rw[hRf.out];exact⟨hE5.trans e6,.inr ⟨by omega,h6,cap6,β6,κ6,rfl,hcap6,ho6.wide (by omega) hN (q_r) (q_r)⟩⟩
theorem Jh (g:Nat):∀(vs:List Value) (o:Nat) (w w':World),Upd g w w'->Upd g w (w'.setCells g o vs)
 | [],_,_,_,h=>h
 | v :: r,o,w,w',h=>Jh g r (o+1) w _ (h.set o v)
theorem Yf (g:Nat) (t:TypeId) (fr:Nat×Nat):∀(vs:List Value) (o:Nat) (cs:Array Value) (w:World),w.heap[g]?=some (.cells cs t fr)->∃cs',(w.setCells g o vs).heap[g]?=some (.cells cs' t fr)/\cs'.size=cs.size
 | [],_,cs,_,h=>⟨cs,h,rfl⟩
 | v :: r,o,cs,w,h=>by
  obtain⟨cs',h1,h2⟩:=Yf g t fr r (o+1) _ (w.setCell ⟨g,o,none⟩ v) (heap_set h o v);exact⟨cs',h1,by rw[h2];simp⟩
theorem kM (b o j:Nat):(⟨b,o,none⟩:Addr).add j=⟨b,o+j,none⟩:=by unfold Addr.add;split<;>simp_all
theorem At4.one{o:Nat}(h:At4 N w b o R){r:Nat}(hr:r<4):∃v,w.cell? ⟨b,o+r,none⟩=some v/\v.oneCell'=true:=by
 obtain⟨A,n,c,A',n',c',h0,h1,h2,h3,-⟩:=h.val;have hr':r=0\/r=1\/r=2\/r=3:=by omega
 rcases hr' with rfl|rfl|rfl|rfl
 ·exact⟨_,h0,rfl⟩
 ·exact⟨_,h1,rfl⟩
 ·exact⟨_,h2,rfl⟩
 ·exact⟨_,h3,rfl⟩
end Go.Proofs.YtpkmjhmmmdkodaaGreat
namespace Go.Proofs.YtpkmjhmmmdkodaaGreat
variable {w w':World} {N n lo hi k g m base c b:Nat} {v s:Value} {z:Int} {R:Raw} {A:Option Addr}
def av (n:Nat) (A:q_m) (x:q_v) (i:Nat):Rat:=sum n (fun c=>A i c*x c)
def nb (m:Nat) (A:q_m) (P L:q_v) (a:Nat):Rat:=sum m (fun k=>A k a*(P k*L k))
theorem yV (a:Rat):0<=a*a:=by
 rcases Rat.le_total (a:=0) (b:=a) with h|h
 ·exact Rat.mul_nonneg h h
 ·have h1:0<=-a:=by grind
  have h2:=Rat.mul_nonneg h1 h1;have e : -a * -a=a*a:=by grind
  rwa [e] at h2
theorem Yt {a:Rat}(h:a*a=0):a=0:=by grind
theorem q3O {r:Nat}{K X:q_m}(hK:∀i j,K i j=K j i) (h1:∀i,i<r->∀c,c<r->mm r K X i c=dlt i c) (h2:∀i,i<r->∀c,c<r->mm r X K i c=dlt i c):∀i,i<r->∀j,j<r->X i j=X j i:=by
 intro i hi j hj
 have a1:mm r (mm r X K) (fun a b=>X b a) i j=X j i:=by
  rw[xu (a':=dlt) (b':=fun a b=>X b a) (fun k hk=>h2 i hi k hk) (fun _ _=>rfl),VB _ hi]
 have a2:mm r (mm r X K) (fun a b=>X b a) i j=X i j:=by
  rw[jX,xu (a':=X) (b':=dlt) (fun _ _=>rfl) (fun k hk=>?_),q4N _ hj];have:=h2 j hj k hk
  have hd:dlt k j=dlt j k:=by
   by_cases h:k=j
   ·rw[h]
   ·rw[kQ h,kQ (fun e=>h e.symm)]
  rw[hd,<-this];exact qf fun l _=>by rw[hK k l];grind
 rw[<-a1,a2]
variable {m n:Nat}{A M X:q_m}{P:q_v}{p:List Nat}
end Go.Proofs.YtpkmjhmmmdkodaaGreat
namespace Go.Proofs.YtpkmjhmmmdkodaaGreat
open Go.RowKit
variable {w w':World} {N n lo hi k g m base c b:Nat} {v s:Value} {z:Int} {R:Raw} {A:Option Addr}
structure One (ET:TypeId) (z0:Value) (bz:Nat):Prop where
 inf:(Tryz.prog.info? ET).map (fun i=>(i.zero,i.size,i.bytes))=some (some z0,1,bz)
 cells:z0.cells.size=1
 le:bz<=24
 ne:ET≠150
def qZ (ET:TypeId) (base:Nat) (w:World) (v:Value) (xs:List Value):Prop:=base<=w.heap.size/\w.ownsRow base ET 1 v xs.length xs
section
variable {ET:TypeId}{base:Nat}{w w':World}{v:Value}{xs:List Value}
theorem qZ.nil (h:base<=w.heap.size):qZ ET base w (.slice none 0 0) []:=⟨h,by simp,.inl ⟨rfl,rfl⟩⟩
theorem qZ.empty(hb:base<=g) (h:w.heap[g]?=some (.cells #[] ET (0,0))):qZ ET base w (.slice (some ⟨g,0,none⟩) 0 0) [] :=
 ⟨by have:=qF h;omega,by simp,.inr ⟨g,0,#[],rfl,hb,h,q_r,Nat.zero_le _,rfl,rfl⟩⟩
theorem qZ.ext (h:qZ ET base w v xs) (e:Ext w w'):qZ ET base w' v xs:=by
 refine⟨q_l h.1 e.size,h.2.1,?_⟩
 rcases h.2.2 with h0|⟨g,cap,cur,hv,hb,hh,h1,h2,h3,h4⟩
 ·exact .inl h0
 ·exact .inr ⟨g,cap,cur,hv,hb,e.block hh,h1,h2,h3,h4⟩
theorem qZ.chg {l u:Nat}(h:qZ ET base w v xs) (c:Chg l u w w') (hd:u<=base):qZ ET base w' v xs:=by
 refine⟨q_l h.1 c.size,h.2.1,?_⟩
 rcases h.2.2 with h0|⟨g,cap,cur,hv,hb,hh,h1,h2,h3,h4⟩
 ·exact .inl h0
 ·exact .inr ⟨g,cap,cur,hv,hb,c.blk hh (by omega),h1,h2,h3,h4⟩
theorem qZ.far {l u:Nat}(h:qZ ET base w v xs) (c:Chg l u w w') (hd:∀k,v.ownBlock=some k->k<l\/u<=k):qZ ET base w' v xs:=by
 refine⟨q_l h.1 c.size,h.2.1,?_⟩
 rcases h.2.2 with h0|⟨g,cap,cur,rfl,hb,hh,h1,h2,h3,h4⟩
 ·exact .inl h0
 ·exact .inr ⟨g,cap,cur,rfl,hb,c.blk hh (hd g rfl),h1,h2,h3,h4⟩
theorem qZ.own_lt (h:qZ ET base w v xs):∀k,v.ownBlock=some k->base<=k/\k<w.heap.size:=by
 rcases h.2.2 with ⟨rfl,h0⟩|⟨g,cap,cur,rfl,hb,hh,-⟩
 ·intro k hk;simp[Value.ownBlock] at hk
 ·intro k hk;obtain rfl:g=k:=by simpa[Value.ownBlock] using hk
  exact⟨hb,qF hh⟩
theorem qZ.at_ (h:qZ ET base w v xs) (hn:0<xs.length):∃g cap,v=.slice (some ⟨g,0,none⟩) xs.length cap/\base<=g/\g<w.heap.size/\cap<=maxLen/\xs.length<=cap/\(∃cs,w.heap[g]?=some (.cells cs ET (0,0))/\cs.size=cap)/\∀j (hj:j<xs.length),w.cell? ⟨g,j,none⟩=some xs[j]:=by
 rcases h.2.2 with ⟨-,h⟩|⟨g,cap,cur,hv,hb,hg,hnc,hcm,hcs,htk⟩
 ·omega
 ·refine⟨g,cap,hv,hb,qF hg,hcm,hnc,⟨cur,hg,by omega⟩,fun j hj=>?_⟩;rw[qh hg];have h9:(cur.toList.take (xs.length*1))[j]?=some xs[j]:=by rw[htk];exact List.getElem?_eq_getElem hj
  rw[List.getElem?_take] at h9;rw[if_pos (by omega)] at h9;simpa using h9
theorem Jq {z0:Value}{bz:Nat}(ho:One ET z0 bz) (t ty:TypeId) (ht:Tryz.prog.underlying t=some (.slice ET)) (h:qZ ET base w v xs){off:Nat}{news:List Value}(hl:news.length=m)
  (hnews:∀j u,news[j]?=some u->w.cell? ⟨b,off+j,none⟩=some u) (h1:∀u∈news,u.oneCell'=true) (hm:0<m) (hn:xs.length+m<=1000000000) :
  ∃g cap w',(Builtin.append_ #[t,t] ty #[v,.slice (some ⟨b,off,none⟩) m c]).run Tryz.prog w=.ok (.slice (some ⟨g,0,none⟩) (xs.length+m) cap) w'/\qZ ET base w' (.slice (some ⟨g,0,none⟩) (xs.length+m) cap) (xs++news)/\(v.ownBlock=some g\/g=w.heap.size) /\
   (∃g',base<=g'/\(v.ownBlock=some g'\/g'=w.heap.size)/\Chg g' (g'+1) w w'/\NoU w g'):=by
 obtain⟨i0,hi0,hz0,hz1,hz2⟩:=info_parts ho.inf;obtain⟨hb0,hown⟩:=h;have hle:=ho.le
 obtain⟨g,cap,w',hrun,hO,hgr,hat,hlt⟩:=run_append_lies (P:=Tryz.prog) w t ty base ET i0 _ 1 bz ht hi0 hz0 hz1 hz2 ho.cells (by omega) v xs.length xs hown ⟨b,off,none⟩ m c news (by omega)
  (fun j u hj=>by rw[yj];exact hnews j u hj) h1 hm (by unfold maxLen;omega)
  (q_l (Nat.mul_le_mul hn ho.le) (by decide)) hb0 w.heap.size rfl
 refine⟨g,cap,w',hrun,⟨q_l hb0 hgr.size,?_⟩,hat,?_⟩
 ·rw[List.length_append,hl];exact hO
 ·have hT:NoU w w.heap.size:=fun cs fr h=>by rw[Array.getElem?_eq_none (q_r)] at h;cases h
  rcases hown.2 with ⟨rfl,h0⟩|⟨g0,cap0,cur,rfl,hbb,hh,_⟩
  ·exact⟨w.heap.size,hb0,.inr rfl,zK hgr (fun k hk=>by simp[Value.ownBlock] at hk) hT,hT⟩
  ·have hT0:NoU w g0:=NoU.mk hh ho.ne;exact⟨g0,hbb,.inl rfl,zK hgr (fun k hk=>by simpa[Value.ownBlock] using hk.symm) hT0,hT0⟩
end
theorem QV {ET:TypeId}{xs:List Value}{z0:Value}{bz:Nat}(h0:One ET z0 bz){o:Oper}{a:Act}{K:Act->World->Prop}{Q:Exit->Act->World->Prop}(s x:Operand) (t:TypeId) (ht:Tryz.prog.underlying t=some (.slice ET))
  (ho:o.op=.call { callee:=.builtin .append,args:=#[s,x],argTypes:=#[t,t] }) (hs:a.eval s=v) (h:qZ ET base w v xs){off:Nat}{news:List Value}(hx:a.eval x=.slice (some ⟨b,off,none⟩) m c) (hl:news.length=m)
  (hnews:∀j u,news[j]?=some u->w.cell? ⟨b,off+j,none⟩=some u) (h1:∀u∈news,u.oneCell'=true) (hm:0<m) (hn:xs.length+m<=1000000000)
  (hK:∀g cap w',qZ ET base w' (.slice (some ⟨g,0,none⟩) (xs.length+m) cap) (xs++news)->(v.ownBlock=some g\/g=w.heap.size)->(∃g',base<=g'/\(v.ownBlock=some g'\/g'=w.heap.size)/\Chg g' (g'+1) w w'/\NoU w g')->K (a.put o.dst (.slice (some ⟨g,0,none⟩) (xs.length+m) cap)) w'):o.wp Tryz.prog a w K Q:=by
 obtain⟨g,cap,w',hrun,h2,h3,h4⟩:=Jq h0 t o.type ht h hl hnews h1 hm hn (c:=c);unfold Oper.wp execOp;simp only[ho,resolve,invoke,builtin,Sem.run_bind,Sem.run_pure,Result.andThen_ok,List.map_toArray,List.map_cons,List.map_nil,hs,hx,hrun];exact hK g cap w' h2 h3 h4
theorem kJ {ET:TypeId}{xs:List Value}{z0:Value}{bz:Nat}(h0:One ET z0 bz){ops:Array Oper}{rest:List Oper}{o:Oper}{a:Act}{Q:Exit->Act->World->Prop}(hgd:o.guard=none) (s x:Operand) (t:TypeId) (ht:Tryz.prog.underlying t=some (.slice ET))
  (ho:o.op=.call { callee:=.builtin .append,args:=#[s,x],argTypes:=#[t,t] }) (hs:a.eval s=v) (h:qZ ET base w v xs){off:Nat}{news:List Value}(hx:a.eval x=.slice (some ⟨b,off,none⟩) m c) (hl:news.length=m)
  (hnews:∀j u,news[j]?=some u->w.cell? ⟨b,off+j,none⟩=some u) (h1:∀u∈news,u.oneCell'=true) (hm:0<m) (hn:xs.length+m<=1000000000)
  (hK:∀g cap w',qZ ET base w' (.slice (some ⟨g,0,none⟩) (xs.length+m) cap) (xs++news)->(v.ownBlock=some g\/g=w.heap.size)->(∃g',base<=g'/\(v.ownBlock=some g'\/g'=w.heap.size)/\Chg g' (g'+1) w w'/\NoU w g')->wpList Tryz.prog ops Q rest (a.put o.dst (.slice (some ⟨g,0,none⟩) (xs.length+m) cap)) w'):wpList Tryz.prog ops Q (o :: rest) a w :=
 wpList_plain hgd fun _ hK'=>QV h0 s x t ht ho hs h hx hl hnews h1 hm hn (fun g cap w' a1 a2 a3=>hK' _ _ (hK g cap w' a1 a2 a3))
theorem jg {ET:TypeId}{xs:List Value}{z0:Value}{bz:Nat}(h0:One ET z0 bz){ops:Array Oper}{o:Oper}{a:Act}{K:Act->World->Prop}{Q:Exit->Act->World->Prop}{E:Prop}(hgd:o.guard=none) (s x:Operand) (t:TypeId) (ht:Tryz.prog.underlying t=some (.slice ET))
  (ho:o.op=.call { callee:=.builtin .append,args:=#[s,x],argTypes:=#[t,t] }) (hs:a.eval s=v) (h:qZ ET base w v xs){off:Nat}{news:List Value}(hx:a.eval x=.slice (some ⟨b,off,none⟩) m c) (hl:news.length=m)
  (hnews:∀j u,news[j]?=some u->w.cell? ⟨b,off+j,none⟩=some u) (h1:∀u∈news,u.oneCell'=true) (hm:0<m) (hn:xs.length+m<=1000000000)
  (hK:∀g cap w',qZ ET base w' (.slice (some ⟨g,0,none⟩) (xs.length+m) cap) (xs++news)->(v.ownBlock=some g\/g=w.heap.size)->(∃g',base<=g'/\(v.ownBlock=some g'\/g'=w.heap.size)/\Chg g' (g'+1) w w'/\NoU w g')->K (a.put o.dst (.slice (some ⟨g,0,none⟩) (xs.length+m) cap)) w') :
  if Region.wanted o (yielded ops a.tmps)=true then Oper.wp Tryz.prog o a w K Q else E:=by
 have hw:Region.wanted o (yielded ops a.tmps)=true:=by simp[Region.wanted,hgd]
 rw[if_pos hw];exact QV h0 s x t ht ho hs h hx hl hnews h1 hm hn hK
theorem yK{u:Value}{t:TypeId}{fr:Nat×Nat}(h:w.heap[g]?=some (.cells #[u] t fr)):∀j x,[u][j]?=some x->w.cell? ⟨g,0+j,none⟩=some x:=by
 intro j x hj;rw[Nat.zero_add,qh h];simpa using hj
theorem q3x:One 4 (.bool false) 1:=⟨by kernel_rfl,rfl,by omega,by decide⟩
theorem Qb:One 3 (.int .i64 0) 8:=⟨by kernel_rfl,rfl,by omega,by decide⟩
theorem QM:One 24 (.slice none 0 0) 24:=⟨by kernel_rfl,rfl,by omega,by decide⟩
theorem zQ:sz1 z=true↔1<=z/\z<=12:=by
 unfold sz1;rw[Bool.and_eq_true,decide_eq_true_eq,decide_eq_true_eq]
theorem q2E{Z:Sys}(h:Qn N lo hi w v Z) (h1:Z.ns<=12) (hz:∀i,i<Z.ns->sz1 (Z.z i)=true) :
  Calls Tryz.prog 91 #[v] w (zI w (.int .i64 (xZ Z.z Z.ns))):=by
 obtain⟨A1,c1,A2,c2,A3,c3,rfl,s1,s2,s3,-⟩:=h.parts;have HI:=q_h s1;have HZ:=q_h hz;obtain⟨T9,hT9⟩:=qc (xZ Z.z Z.ns);rw[<-hT9.out];obtain⟨n,hn⟩:=qc Z.ns;rw[<-hn.out] at HI h1;clear h s1 s2 s3 hz;go_enter Tryz.func91,Tryz.ntmps91;go_upto_region 1 with (fail);refine qp ?_;intro w1 hE hsz B0;obtain⟨a0,a1,a2,-⟩:=cells3 B0;rw[<-hn.out] at a0;go_wp2_with fail
 go_loopw [9,3] (fun iv tv wr=>∃i:Nat,i<=n/\iv=.int .i64 (i:Int)/\tv=.int .i64 (xZ Z.z i)/\Ext w wr) (fun iv _ _=>n-(intOf iv).toNat)
 case atStart=>exact⟨0,Nat.zero_le _,rfl,rfl,hE⟩
 case round =>
  obtain⟨i,hi,rfl,rfl,hE1⟩:=hrel
  by_cases hlt:i<n
  case neg =>
   have t1:decide ((i:Int)<(n:Int))=false:=q_f (by omega);have HT:Hid (xZ Z.z i=T9):=by rw[Hid,hT9.out,<-hn.out,show i=n by omega]
   rw[HT.out];go_wp2;go_ret;exact⟨rfl,hE1⟩
  have t1:decide ((i:Int)<(n:Int))=true:=q_t (by omega);have t2:(i:Int)<(n:Int):=by omega
  obtain⟨b,off,rfl,hx⟩:=(HI.out.ext hE1).addr (by omega);have p0:=hx i hlt;have hs:=HZ.out;rw[<-hn.out] at hs;have hb:=QW i (fun j hj=>hs j (by omega));have hu:=zQ.1 (hs i hlt);obtain⟨u,hU⟩:=qc (Z.z i);obtain⟨T,hT⟩:=qc (xZ Z.z i);rw[<-hU.out] at p0 hu;rw[<-hT.out] at hb ⊢;have HN:Hid (T+u=xZ Z.z (i+1)):=by rw[Hid,hT.out,hU.out];rfl
  clear hx hs a0 a1 a2 B0 hE hsz;go_wp2;go_roundw
  case rel=>exact⟨i+1,by omega,by go_num,by rw[HN.out],hE1⟩
  case measure=>simp[intOf];omega
theorem q6r{Z:Sys}(h:Qn N lo hi w v Z) :
  Calls Tryz.prog 89 #[v] w (zI w (.int .i64 (if Z4 Z=true then 0 else 3))):=by
 have HS:=q_h h;obtain⟨A1,c1,A2,c2,A3,c3,rfl,s1,s2,s3,k1,-⟩:=h.parts;have HI:=q_h s1;obtain⟨r,hr⟩:=qc (if Z4 Z=true then (0:Int) else 3);rw[<-hr.out]
 have HB:Hid (¬(1<=Z.ns/\Z.ns<=12)->r=3):=fun h9=>by
  rw[hr.out,if_neg];unfold Z4;simp only[Bool.and_eq_true,decide_eq_true_eq];exact fun h8=>h9 h8.1
 have HC:Hid (∀i,i<Z.ns->sz1 (Z.z i)=false->r=3):=fun i hi h9=>by
  rw[hr.out,if_neg];unfold Z4;rw[qE hi h9]
  simp
 have HD:Hid (1<=Z.ns->Z.ns<=12->(∀i,i<Z.ns->sz1 (Z.z i)=true)->r=if 64<xZ Z.z Z.ns then 3 else 0):=fun h1 h2 h3=>by
  rw[hr.out];unfold Z4;rw[ql.2 h3,q_t h1,q_t h2]
  by_cases h4:64<xZ Z.z Z.ns
  ·rw[if_pos h4,q_f (by omega),if_neg (by decide)]
  ·rw[if_neg h4,q_t (by omega),if_pos (by decide)]
 clear h s1 s2 s3 hr;obtain⟨n,hn⟩:=qc Z.ns;have hS9:=HS.out;rw[<-hn.out] at HI HB HC HD HS k1;clear hS9;go_enter Tryz.func89,Tryz.ntmps89;go_upto_region 1 with (fail);refine qp ?_;intro w1 hE hsz B0;obtain⟨a0,a1,a2,-⟩:=cells3 B0;rw[<-hn.out] at a0
 by_cases h1:n<1
 ·have t1:decide ((n:Int)<1)=true:=q_t (by omega);have HR:Hid (r=3):=HB.out (by omega);clear h1;go_wp2;go_ret;rw[HR.out];exact⟨rfl,hE⟩
 have t1:decide ((n:Int)<1)=false:=q_f (by omega)
 by_cases h2:12<n
 ·have t2:decide (12<(n:Int))=true:=q_t (by omega);have HR:Hid (r=3):=HB.out (by omega);clear h2;go_wp2;go_ret;rw[HR.out];exact⟨rfl,hE⟩
 have t2:decide (12<(n:Int))=false:=q_f (by omega);go_wp2_with fail
 go_loopw [18] (fun iv wr=>∃i:Nat,i<=n/\iv=.int .i64 (i:Int)/\Ext w1 wr/\Hid (∀j,j<i->sz1 (Z.z j)=true)) (fun iv _=>n-(intOf iv).toNat)
 case atStart=>exact⟨0,Nat.zero_le _,rfl,Ext.refl _,fun j hj=>absurd hj (Nat.not_lt_zero j)⟩
 case round =>
  obtain⟨i,hi,rfl,hE1,hA⟩:=hrel;clear a0 a1 a2;obtain⟨a0,a1,a2,-⟩:=cells3 (hE1.block B0);rw[<-hn.out] at a0
  by_cases hlt:i<n
  case neg =>
   have t3:decide ((i:Int)<(n:Int))=false:=q_f (by omega);have hA':∀j,j<Z.ns->sz1 (Z.z j)=true:=fun j hj=>hA.out j (by have:=hn.out;omega)
   have HT:=q_h (q2E (HS.out.ext (hE.trans hE1)) (by have:=hn.out;omega) hA');have HR:=HD.out (by omega) (by omega) (fun j hj=>hA.out j (by omega));obtain⟨T,hT⟩:=qc (xZ Z.z Z.ns);rw[<-hT.out] at HT;rw[hn.out,<-hT.out] at HR;have HR':=q_h HR;clear HR hA';go_wp2_with (go_at_call 91;refine q_o ?_);refine (HT.out).mono ?_;rintro e w2 ⟨rfl,e2⟩
   by_cases h4:64<T
   ·have t4:decide (64<T)=true:=q_t h4;obtain rfl:r=3:=by rw[HR'.out,if_pos h4]
    clear h4;go_wp2;go_ret;exact⟨rfl,hE.trans (hE1.trans e2)⟩
   ·have t4:decide (64<T)=false:=q_f h4;obtain rfl:r=0:=by rw[HR'.out,if_neg h4]
    clear h4;go_wp2;go_ret;exact⟨rfl,hE.trans (hE1.trans e2)⟩
  have t3:decide ((i:Int)<(n:Int))=true:=q_t (by omega);have t5:(i:Int)<(n:Int):=by omega
  obtain⟨b,off,rfl,hx⟩:=(HI.out.ext (hE.trans hE1)).addr (by omega);have p0:=hx i hlt;have HCi:=q_h (HC.out i hlt);obtain⟨u,hU⟩:=qc (Z.z i);rw[<-hU.out] at p0 HCi;clear hx
  by_cases h3:u<1
  ·have t6:decide (u<1)=true:=q_t h3;obtain rfl:r=3:=HCi.out (by unfold sz1;rw[q_f (by omega)];rfl);clear h3;go_wp2;go_ret;exact⟨rfl,hE.trans hE1⟩
  have t6:decide (u<1)=false:=q_f h3
  by_cases h4:12<u
  ·have t7:decide (12<u)=true:=q_t h4;obtain rfl:r=3:=HCi.out (by unfold sz1;rw[q_f (show ¬u<=12 by omega),Bool.and_false]);clear h3 h4;go_wp2;go_ret;exact⟨rfl,hE.trans hE1⟩
  have t7:decide (12<u)=false:=q_f h4
  have HA2:Hid (∀j,j<i+1->sz1 (Z.z j)=true):=fun j hj=>by
   by_cases hji:j=i
   ·rw[hji,<-hU.out];exact zQ.2 ⟨by omega,by omega⟩
   ·exact hA.out j (by omega)
  clear h3 h4;go_wp2;go_roundw
  case rel=>exact⟨i+1,by omega,by go_num,hE1,HA2⟩
  case measure=>simp[intOf];omega
theorem q3T{x:q_v}(h:Grow N base w v n x):∃g',base<=g'/\NoU w g'/\(∀k,v.ownBlock=some k->k=g')/\(v.ownBlock=some g'\/g'=w.heap.size):=by
 obtain⟨h1,h2,⟨rfl,-⟩|⟨g0,cap,rfl,hg,hm,hr⟩⟩:=h
 ·exact⟨w.heap.size,h2,fun cs fr h=>by (rw[Array.getElem?_eq_none (q_r)] at h;cases h),fun k hk=>by simp[Value.ownBlock] at hk,.inr rfl⟩
 ·exact⟨g0,hg,hr.noU,fun k hk=>by simpa[Value.ownBlock] using hk.symm,.inl rfl⟩
theorem wX(t ty:TypeId) (ht:Tryz.prog.underlying t=some (.slice 48)){x:q_v}(h:Grow N base w v n x)
{neg:Bool}{u:Value}{q:Rat}{fr:Nat×Nat}(hb:w.heap[b]?=some (.cells #[.bool neg,s,.bool false,u] 48 fr)) (hneg:Hid (neg=decide (q.num<0))) (hs:Gs N w s (dg q.num.natAbs)) (hu:Gs N w u (dg q.den)) (hn:n<1000000000) :
  ∃g cap w' g',(Builtin.append_ #[t,t] ty #[v,.slice (some ⟨b,0,none⟩) 1 1]).run Tryz.prog w=.ok (.slice (some ⟨g,0,none⟩) (n+1) cap) w'/\Grow N base w' (.slice (some ⟨g,0,none⟩) (n+1) cap) (n+1) (upd x n q)/\base<=g'/\Chg g' (g'+1) w w'/\(v.ownBlock=some g'\/g'=w.heap.size)/\(v.ownBlock=some g\/g=w.heap.size):=by
 obtain⟨i0,hi0,hz0,hz1,hz2⟩:=info_parts yc;obtain⟨g1,cap1,w1,hrun1,hG1,-,-⟩:=yu t ty ht h hb hneg hs hu hn;obtain⟨g',hg',hT,hk,hw9⟩:=q3T h;obtain⟨h1,h2,h3⟩:=h
 have hown:∃xs,w.ownsRow base 48 4 v n xs:=by
  rcases h3 with ⟨rfl,rfl⟩|⟨g,cap,rfl,hg,hm,hr⟩
  ·exact⟨[],⟨by simp,.inl ⟨rfl,rfl⟩⟩⟩
  ·obtain⟨xs,hx,hc⟩:=Zd hr hm hg;exact⟨xs,hx⟩
 obtain⟨xs,hown⟩:=hown;obtain⟨As,ns,cs0,rfl,-,-,-⟩:=hs.form;obtain⟨Au,nu,cu,rfl,-,-,-⟩:=hu.form
 obtain⟨g,cap,w',hrun,ho,hgr,hat,hlt⟩:=run_append_lies (P:=Tryz.prog) w t ty base 48 i0 _ 4 64 ht hi0 hz0 hz1 hz2 rfl (by omega) v n xs hown ⟨b,0,none⟩ 1 1 [.bool neg,.slice As ns cs0,.bool false,.slice Au nu cu] rfl
  (fun j u hj=>by
   have e:(⟨b,0,none⟩:Addr).add j=⟨b,j,none⟩:=by
    unfold Addr.add;split
    ·rename_i e;subst e;rfl
    ·simp
   rw[e,qh hb]
   simpa using hj)
  (fun u hu=>by simp at hu;rcases hu with rfl|rfl|rfl|rfl<;>rfl) (by omega) (by unfold maxLen;omega) (by omega) h2 w.heap.size rfl
 rw[hrun1] at hrun;injection hrun with e1 e2
 injection e1 with e1 _ e3
 injection e1 with e1
 injection e1 with e1 _
 subst e1 e2 e3;exact⟨g1,cap1,w1,g',hrun1,hG1,hg',zK hgr hk hT,hw9,hat⟩
theorem zU{ops:Array Oper}{o:Oper}{a:Act}{K:Act->World->Prop}{Q:Exit->Act->World->Prop}{E:Prop}(hgd:o.guard=none) (s x:Operand) (t:TypeId) (ht:Tryz.prog.underlying t=some (.slice 48))
  (ho:o.op=.call { callee:=.builtin .append,args:=#[s,x],argTypes:=#[t,t] }){f:q_v}(hs:a.eval s=v) (h:Grow N base w v n f)
(hx:a.eval x=.slice (some ⟨b,0,none⟩) 1 1){neg:Bool}{s1 s2:Value}{q:Rat}{fr:Nat×Nat}(hb:w.heap[b]?=some (.cells #[.bool neg,s1,.bool false,s2] 48 fr)) (hneg:Hid (neg=decide (q.num<0))) (g1:Gs N w s1 (dg q.num.natAbs)) (g2:Gs N w s2 (dg q.den)) (hn:n<1000000000)
  (hK:∀g cap w' g',Grow N base w' (.slice (some ⟨g,0,none⟩) (n+1) cap) (n+1) (upd f n q)->base<=g'->Chg g' (g'+1) w w'->(v.ownBlock=some g'\/g'=w.heap.size)->(v.ownBlock=some g\/g=w.heap.size)->K (a.put o.dst (.slice (some ⟨g,0,none⟩) (n+1) cap)) w') :
  if Region.wanted o (yielded ops a.tmps)=true then Oper.wp Tryz.prog o a w K Q else E:=by
 have hw:Region.wanted o (yielded ops a.tmps)=true:=by simp[Region.wanted,hgd]
 rw[if_pos hw];obtain⟨g,cap,w',g',hrun,h2,h3,h4,h5,h6⟩:=wX t o.type ht h hb hneg g1 g2 hn;unfold Oper.wp execOp;simp only[ho,resolve,invoke,builtin,Sem.run_bind,Sem.run_pure,Result.andThen_ok,List.map_toArray,List.map_cons,List.map_nil,hs,hx,hrun];exact hK g cap w' g' h2 h3 h4 h5 h6
end Go.Proofs.YtpkmjhmmmdkodaaGreat
namespace Go.Proofs.YtpkmjhmmmdkodaaGreat
variable {w w':World} {N n lo hi k g m base c b:Nat} {v s:Value} {z:Int} {R:Raw} {A:Option Addr}
structure Mn where
 p:Value->World->Prop
 mono:∀ {v:Value}{w w':World},Ext w w'->p v w->p v w'
def Mn.any:Mn:=⟨fun _ _=>True,fun _ _=>trivial⟩
def Mn.eq (x:Value):Mn:=⟨fun v _=>v=x,fun _ h=>h⟩
def Mn.i (z:Int):Mn:=Mn.eq (.int .i64 z)
def Mn.q (b o:Nat):Mn:=Mn.eq (.pointer (some ⟨b,o,none⟩))
def Mn.t (b:Bool):Mn:=Mn.eq (.bool b)
def sM (l:List Nat):List (Option Tmp):=l.map some
def rF:Nat->List Bool
 | n+1=>false :: rF n
 | 0=>[]
def rQ:Nat->Nat->List Bool
 | m+1,n=>true :: rQ m n
 | 0,n=>rF n
theorem q_k {J Q:Value->World->Prop}(h:Shut (∀v w',Ext w w'->J v w'->Q v w')) (hj:J v w):Q v w:=h.out _ _ (Ext.refl w) hj
def qH:List (Option Tmp)->List Bool->(Nat->Value)->Nat->Act->Act
 | d :: ds,b :: bs,vals,i,a=>qH ds bs vals (i+1) (if b=true then a.put d (vals i) else a)
 | _,_,_,_,a=>a
def nodupB:List (Option Tmp)->Bool
 | []=>true
 | none :: l=>nodupB l
 | some t :: l=>!l.contains (some t)&&nodupB l
def ZV (vals:Nat->Value) (i:Nat) (v:Value) (j:Nat):Value:=if j=i then v else vals j
theorem put_comm (a:Act) (d d':Option Tmp) (v v':Value) (h:∀t,d=some t->d'≠some t):(a.put d v).put d' v'=(a.put d' v').put d v:=by
 cases d with
 | none=>rfl
 | some t =>
  cases d' with
  | none=>rfl
  | some t' =>
   have hne:t≠t':=fun e=>h t rfl (by rw[e])
   show ({ a with tmps:=_ }:Act)={ a with tmps:=_ }
   congr 1
   exact Array.setIfInBounds_comm _ _ hne
theorem q3s (a:Act) (d:Option Tmp) (v:Value):(a.put d v).tmps.size=a.tmps.size:=by
 cases d with
 | none=>rfl
 | some t=>simp[Act.put]
theorem JD (a:Act) (d:Option Tmp) (v:Value){t:Nat}(h:d≠some t):(a.put d v).tmps[t]?=a.tmps[t]?:=by
 cases d with
 | none=>rfl
 | some t' =>
  have hne:t'≠t:=fun e=>h (by rw[e])
  simp[Act.put,Array.getElem?_setIfInBounds,hne]
theorem Ky {d:Option Tmp}{v:Value}:∀(ds:List (Option Tmp)) (bs:List Bool) (vals:Nat->Value) (k:Nat) (a:Act),(∀t,d=some t->ds.contains (some t)=false)->qH ds bs vals k (a.put d v)=(qH ds bs vals k a).put d v
 | [],_,_,_,_,_=>by unfold qH;rfl
 | _ :: _,[],_,_,_,_=>rfl
 | d0 :: ds,b :: bs,vals,k,a,h=>by
  have h1:∀t,d=some t->d0≠some t/\ds.contains (some t)=false:=fun t ht=>by
   have:=h t ht;simp only[List.contains_cons,Bool.or_eq_false_iff,beq_eq_false_iff_ne] at this;exact⟨fun e=>this.1 e.symm,this.2⟩
  show qH ds bs vals (k+1) (if b=true then (a.put d v).put d0 (vals k) else a.put d v)=_
  show _=(qH ds bs vals (k+1) (if b=true then a.put d0 (vals k) else a)).put d v
  rw[<-Ky ds bs vals (k+1) _ (fun t ht=>(h1 t ht).2)];cases b with
  | false=>rfl
  | true =>
   simp only[if_true];rw[put_comm a d d0 v (vals k) (fun t ht=>(h1 t ht).1)]
theorem Qs {vals vals':Nat->Value}:∀(ds:List (Option Tmp)) (bs:List Bool) (k:Nat) (a:Act),(∀j,k<=j->vals j=vals' j)->qH ds bs vals k a=qH ds bs vals' k a
 | [],_,_,_,_=>by unfold qH;rfl
 | _ :: _,[],_,_,_=>rfl
 | d0 :: ds,b :: bs,k,a,h=>by
  show qH ds bs vals (k+1) (if b=true then a.put d0 (vals k) else a)=qH ds bs vals' (k+1) (if b=true then a.put d0 (vals' k) else a)
  rw[h k (q_r)];exact Qs ds bs (k+1) _ (fun j hj=>h j (by omega))
theorem jW {d:Option Tmp}{ds:List (Option Tmp)}(h:nodupB (d :: ds)=true):nodupB ds=true/\∀t,d=some t->ds.contains (some t)=false:=by
 cases d with
 | none=>exact⟨h,fun t ht=>by cases ht⟩
 | some t0 =>
  unfold nodupB at h;rw[Bool.and_eq_true] at h;exact⟨h.2,fun t ht=>by injection ht with ht;subst ht;simpa using h.1⟩
theorem Q5 {d:Option Tmp}{v:Value}:∀(ds:List (Option Tmp)) (bs:List Bool) (vals:Nat->Value) (k i:Nat) (a:Act),nodupB ds=true->bs[i]?=some false->ds[i]?=some d->qH ds (bs.set i true) (ZV vals (k+i) v) k a=(qH ds bs vals k a).put d v
 | [],_,_,_,_,_,_,_,hd=>by simp at hd
 | _ :: _,[],_,_,_,_,_,hb,_=>by simp at hb
 | d0 :: ds,b :: bs,vals,k,0,a,hn,hb,hd=>by
  simp only[List.getElem?_cons_zero,Option.some.injEq] at hb hd;subst hb hd;have hn':=jW hn
  show qH ds bs (ZV vals (k+0) v) (k+1) (a.put d0 (ZV vals (k+0) v k))=(qH ds bs vals (k+1) a).put d0 v
  rw[Ky _ _ _ _ _ hn'.2];have h1:ZV vals (k+0) v k=v:=by simp[ZV]
  rw[h1,Qs (vals':=vals) ds bs (k+1) a (fun j hj=>by unfold ZV;rw[if_neg (by omega)])]
 | d0 :: ds,b :: bs,vals,k,i+1,a,hn,hb,hd=>by
  have hn':=jW hn;simp only[List.getElem?_cons_succ] at hb hd
  show qH ds (bs.set i true) (ZV vals (k+(i+1)) v) (k+1) (if b=true then a.put d0 (ZV vals (k+(i+1)) v k) else a)=(qH ds bs vals (k+1) (if b=true then a.put d0 (vals k) else a)).put d v
  have h1:ZV vals (k+(i+1)) v k=vals k:=by unfold ZV;rw[if_neg (by omega)]
  have h2:k+(i+1)=k+1+i:=by omega
  rw[h1,h2];exact Q5 ds bs vals (k+1) i _ hn'.1 hb hd
theorem Q7 {t:Nat}:∀(ds:List (Option Tmp)) (bs:List Bool) (vals:Nat->Value) (k:Nat) (a:Act),ds.contains (some t)=false->(qH ds bs vals k a).tmps[t]?=a.tmps[t]?
 | [],_,_,_,_,_=>by unfold qH;rfl
 | _ :: _,[],_,_,_,_=>rfl
 | d0 :: ds,b :: bs,vals,k,a,h=>by
  simp only[List.contains_cons,Bool.or_eq_false_iff,beq_eq_false_iff_ne] at h
  show (qH ds bs vals (k+1) (if b=true then a.put d0 (vals k) else a)).tmps[t]?=_
  rw[Q7 ds bs vals (k+1) _ h.2];cases b with
  | false=>rfl
  | true=>exact JD a d0 _ (fun e=>h.1 e.symm)
theorem Qa {t:Nat}:∀(ds:List (Option Tmp)) (bs:List Bool) (vals:Nat->Value) (k i:Nat) (a:Act),nodupB ds=true->bs[i]?=some true->ds[i]?=some (some t)->t<a.tmps.size->(qH ds bs vals k a).tmps[t]?=some (vals (k+i))
 | [],_,_,_,_,_,_,_,hd,_=>by simp at hd
 | _ :: _,[],_,_,_,_,_,hb,_,_=>by simp at hb
 | d0 :: ds,b :: bs,vals,k,0,a,hn,hb,hd,ht=>by
  simp only[List.getElem?_cons_zero,Option.some.injEq] at hb hd;subst hb hd;have hn':=jW hn
  show (qH ds bs vals (k+1) (a.put (some t) (vals k))).tmps[t]?=_
  rw[Q7 ds bs vals (k+1) _ (hn'.2 t rfl)];simp[Act.put,ht]
 | d0 :: ds,b :: bs,vals,k,i+1,a,hn,hb,hd,ht=>by
  have hn':=jW hn;simp only[List.getElem?_cons_succ] at hb hd
  show (qH ds bs vals (k+1) (if b=true then a.put d0 (vals k) else a)).tmps[t]?=_
  have h2:k+(i+1)=k+1+i:=by omega
  rw[h2];refine Qa ds bs vals (k+1) i _ hn'.1 hb hd ?_
  split
  ·rw[q3s];exact ht
  ·exact ht
theorem fz {p:Nat->Prop}:∀i,i<0->p i:=fun i hi=>absurd hi (Nat.not_lt_zero i)
theorem fs {p:Nat->Prop}(h:∀i,i<n->p i) (hn:p n):∀i,i<n+1->p i:=fun i hi=>by
 rcases Nat.lt_succ_iff_lt_or_eq.1 hi with h1|h1
 ·exact h i h1
 ·rw[h1];exact hn
theorem oOf {T:Array Value}{l:List Value}{t:Nat}(h:T[t]?=l.toArray[t]?) (hv:l[t]?=some v):T[t]?=some v:=by
 rw[h,List.getElem?_toArray];exact hv
theorem pr:(∀(d:Nat) (ds:List Nat),sM (d :: ds)=some d :: sM ds)/\sM []=[]/\(∀(m n:Nat),rQ (m+1) n=true :: rQ m n)/\(∀(n:Nat),rQ 0 (n+1)=false :: rQ 0 n)/\rQ 0 0=[]/\(∀(d:Option Tmp) (ds:List (Option Tmp)) (bs:List Bool) (vals:Nat->Value) (i:Nat) (a:Act),qH (d :: ds) (true :: bs) vals i a=qH ds bs vals (i+1) (a.put d (vals i)))/\(∀(d:Option Tmp) (ds:List (Option Tmp)) (bs:List Bool) (vals:Nat->Value) (i:Nat) (a:Act),qH (d :: ds) (false :: bs) vals i a=qH ds bs vals (i+1) a)/\(∀(bs:List Bool) (vals:Nat->Value) (i:Nat) (a:Act),qH [] bs vals i a=a) /\
  (∀(a:Act) (d:Tmp) (v:Value),a.put (some d) v={ a with tmps:=a.tmps.setIfInBounds d v })/\(∀(a:Act) (v:Value),a.put none v=a)/\(∀(l:List Value) (i:Nat) (v:Value),l.toArray.setIfInBounds i v=(l.set i v).toArray)/\(∀(x:Value) (l:List Value) (v:Value),(x :: l).set 0 v=v :: l)/\(∀(x:Value) (l:List Value) (i:Nat) (v:Value),(x :: l).set (i+1) v=x :: l.set i v) :=
 ⟨fun _ _=>rfl,rfl,fun _ _=>rfl,fun _=>rfl,rfl,fun _ _ _ _ _ _=>rfl,fun _ _ _ _ _ _=>rfl,fun _ _ _ _=>by unfold qH;rfl,nr⟩
section
variable {P:Program}{ops:Array Oper}{Q:Exit->Act->World->Prop}{late:List Nat}
theorem Yj {S:World->Prop}:∀(f:Nat) (listed:Array Bool) (a:Act) (w:World),WA P ops Q S late f listed a w->WA P ops Q S late (f+1) listed a w
 | 0,_,_,_,h=>⟨fun _=>h.2,fun i hi=>by rw[h.1] at hi;cases hi⟩
 | f+1,_,_,_,h=>⟨h.1,fun i hi=>wpOp_mono (fun a' w' h'=>⟨h'.1,Yj f _ a' w' h'.2⟩) (h.2 i hi)⟩
theorem Jc {S:World->Prop}{f:Nat}(hfg:f<=g){listed:Array Bool}{a:Act}(h:WA P ops Q S late f listed a w):WA P ops Q S late g listed a w:=by
 induction hfg with
 | refl=>exact h
 | step _ ih=>exact Yj _ _ _ _ ih
def cnt (listed:Array Bool):Nat->Nat
 | 0=>0
 | n+1=>cnt listed n+if listed.getD n false=true then 0 else 1
theorem Vb {listed:Array Bool}{i:Nat}(hi:i<listed.size) (hf:listed.getD i false=false):∀n,cnt (listed.setIfInBounds i true) n+(if i<n then 1 else 0)=cnt listed n
 | 0=>by simp[cnt]
 | n+1=>by
  have ih:=Vb hi hf n;unfold cnt
  by_cases h:i=n
  ·subst h;have h1:(listed.setIfInBounds i true).getD i false=true:=by simp[hi]
   rw[h1,hf,if_pos rfl,if_pos (Nat.lt_succ_self i),if_neg (by decide)];rw[if_neg (Nat.lt_irrefl i)] at ih;omega
  ·rw[Go.getD_set_ne false h]
   have h2:(if i<n+1 then 1 else 0)=if i<n then 1 else 0:=by
    by_cases h3:i<n
    ·rw[if_pos h3,if_pos (by omega)]
    ·rw[if_neg h3,if_neg (by omega)]
   rw[h2];omega
def q5P (ops:Array Oper):Bool:=(List.range ops.size).all fun i=>(ji ops i).all fun j=>decide (j<i)
def q5R (ops:Array Oper) (late:List Nat):Bool:=(List.range ops.size).all fun i=>late.contains i||yP ops late i
def q0c (ds:List (Option Tmp)) (n:Nat):Bool:=ds.all fun d=>match d with|some t=>decide (t<n)|none=>true
def lastB (ops:Array Oper) (late:List Nat):List Bool:=(List.range ops.size).map fun i=>!late.contains i
def oldB (ds:List (Option Tmp)) (late:List Nat) (t:Nat):Bool:=(List.range ds.length).all fun j=>late.contains j||(ds[j]? != some (some t))
theorem Zg {t:Nat}:∀(ds:List (Option Tmp)) (bs:List Bool) (vals:Nat->Value) (k:Nat) (a:Act),(∀j:Nat,bs[j]?=some true->ds[j]?≠some (some t))->(qH ds bs vals k a).tmps[t]?=a.tmps[t]?
 | [],_,_,_,_,_=>by unfold qH;rfl
 | _ :: _,[],_,_,_,_=>rfl
 | d0 :: ds,b :: bs,vals,k,a,h=>by
  show (qH ds bs vals (k+1) (if b=true then a.put d0 (vals k) else a)).tmps[t]?=_
  rw[Zg ds bs vals (k+1) _ (fun j hj=>h (j+1) hj)];cases b with
  | false=>rfl
  | true=>exact JD a d0 _ (fun e=>h 0 rfl (by rw[e];rfl))
theorem Zf {ds:List (Option Tmp)}{late:List Nat}{listed:Array Bool}{t:Nat}(hl:ds.length=n) (h3:∀j,late.contains j=true->j<n->listed.getD j false=false) (vals:Nat->Value) (a:Act) (h:oldB ds late t=true):(qH ds listed.toList vals 0 a).tmps[t]?=a.tmps[t]?:=by
 refine Zg _ _ _ _ _ (fun j hj hd9=>?_);have hjl:j<ds.length:=(List.getElem?_eq_some_iff.1 hd9).1;have h1:=List.all_eq_true.1 h j (List.mem_range.2 hjl);rw[Bool.or_eq_true] at h1
 rcases h1 with h1|h1
 ·have h2:=h3 j h1 (by omega);rw[Array.getElem?_toList] at hj;rw[Array.getD_eq_getD_getElem?,hj] at h2;cases h2
 ·rw[hd9] at h1;simp at h1
def Stp (P:Program) (ops:Array Oper) (Q:Exit->Act->World->Prop) (late:List Nat) (Js:List Mn) (ds:List (Option Tmp)) (a0:Act) (W:World) (i:Nat):Prop :=
 ∀o,ops.toList[i]?=some o->∀a w,Ext W w->(∀t,oldB ds late t=true->a.tmps[t]?=a0.tmps[t]?) ->
  (∀j,(ji ops i).contains j=true->∀t,ds[j]?=some (some t)->∃v,a.tmps[t]?=some v/\(Js[j]?.getD Mn.any).p v w) ->
  ∀K:Act->World->Prop,Shut (∀v w',Ext w w'->(Js[i]?.getD Mn.any).p v w'->K (a.put o.dst v) w')->if Region.wanted o (yielded ops a.tmps)=true then Oper.wp P o a w K Q else K (a.put o.dst undef) w
theorem stp {Js:List Mn}{ds:List (Option Tmp)}{a0:Act}{W:World}{i:Nat}{o:Oper}(hi:ops.toList[i]?=some o)
  (h:∀a w,Ext W w->(∀(t:Nat) (_:oldB ds late t=true:=by kernel_rfl),a.tmps[t]?=a0.tmps[t]?) ->
   (∀(j t:Nat) (_:(ji ops i).contains j=true:=by kernel_rfl) (_:ds[j]?=some (some t):=by rfl),∃v,a.tmps[t]?=some v/\(Js[j]?.getD Mn.any).p v w) ->
   ∀K:Act->World->Prop,Shut (∀v w',Ext w w'->(Js[i]?.getD Mn.any).p v w'->K (a.put o.dst v) w')->if Region.wanted o (yielded ops a.tmps)=true then Oper.wp P o a w K Q else K (a.put o.dst undef) w):Stp P ops Q late Js ds a0 W i:=by
 intro o' ho';rw[hi] at ho';cases ho'
 exact fun a w e hB hA=>h a w e hB (fun j t h1 h2=>hA j h1 t h2)
theorem Jt (hlow:q5P ops=true){listed:Array Bool}(hsz:listed.size=ops.size):∀n,n<=ops.size->(∀i,i<n->listed.getD i false=true)->(∃i,i<ops.size/\listed.getD i false=false)->∃i,i∈Region.ready .any ops listed:=by
 intro n hn hall hex
 induction h:ops.size-n generalizing n with
 | zero =>
  obtain⟨i,hi,hf⟩:=hex;rw[hall i (by omega)] at hf;cases hf
 | succ k ih =>
  cases hl:listed.getD n false with
  | true=>exact ih (n+1) (by omega) (fun i hi=>by
    by_cases e:i=n
    ·rw[e];exact hl
    ·exact hall i (by omega)) (by omega)
  | false =>
   refine⟨n,mem_ready.2 ⟨?_,?_⟩⟩
   ·have:n<listed.size:=by omega
    simp[this] at hl ⊢;exact hl
   ·have hlt:n<ops.size:=by omega
    refine⟨ops[n],by simp[hlt],fun e he hb=>?_⟩
    have h1:=List.all_eq_true.1 (List.all_eq_true.1 hlow n (by simpa using hlt)) e.on (by
     unfold ji;rw[Array.getElem?_eq_getElem hlt];simp only[List.mem_map,List.mem_filter]
     exact⟨e,⟨by simpa using he,hb⟩,rfl⟩)
    exact hall e.on (by simpa using h1)
theorem q7e {Js:List Mn}{ds:List (Option Tmp)}{a0:Act}{W:World}(hd:ops.toList.map (·.dst)=ds) (hnd:nodupB ds=true) (hsz:q0c ds a0.tmps.size=true) (hlow:q5P ops=true) (hlate:q5R ops late=true)
  (hstep:∀i,i<ops.size->late.contains i=false->Stp P ops Q late Js ds a0 W i)(hk:cnt (lastB ops late).toArray ops.size=k)
  (hdone:∀vals w,Ext W w->(∀j,j<ops.size->late.contains j=false->(Js[j]?.getD Mn.any).p (vals j) w)->xx P ops Q (fun _=>True) late k (lastB ops late).toArray (qH ds (lastB ops late) vals 0 a0) w) :
  ∀(fuel:Nat) (listed:Array Bool) (vals:Nat->Value) (w:World),listed.size=ops.size->Closed ops listed->(∀t,late.contains t=true->t<ops.size->listed.getD t false=false)->cnt listed ops.size<=fuel->Ext W w ->
   (∀j,listed.getD j false=true->(Js[j]?.getD Mn.any).p (vals j) w)->WA P ops Q (fun _=>True) late fuel listed (qH ds listed.toList vals 0 a0) w:=by
 intro fuel
 induction fuel with
 | zero =>
  intro listed vals w h1 h2 h3 h4 h5 h6
  by_cases hall:∀i,i<ops.size->late.contains i=false->listed.getD i false=true
  ·have hL:listed=(lastB ops late).toArray:=by
    apply Array.ext
    ·simp[lastB,h1]
    ·intro i hi _;have hio:i<ops.size:=by omega
     have e1:listed[i]=listed.getD i false:=by simp[hi]
     rw[e1];simp only[lastB,List.getElem_toArray,List.getElem_map,List.getElem_range];cases hc:late.contains i with
     | false=>exact hall i hio hc
     | true=>exact h3 i hc hio
   subst hL;have:=hdone vals w h5 (fun j hj hc=>h6 j (hall j hj hc)) h2;rw[hk] at h4;exact Jc h4 this
  ·exfalso
   apply hall
   intro i hi _
   have hz:∀n,n<=ops.size->cnt listed n=0->∀i,i<n->listed.getD i false=true:=by
    intro n
    induction n with
    | zero=>intro _ _ i hi;omega
    | succ n ih =>
     intro hn hc i hi;unfold cnt at hc
     by_cases e:i=n
     ·subst e
      by_cases hg:listed.getD i false=true
      ·exact hg
      ·rw[if_neg hg] at hc;omega
     ·exact ih (by omega) (by omega) i (by omega)
   exact hz ops.size (q_r) (by omega) i hi
 | succ fuel ih =>
  intro listed vals w h1 h2 h3 h4 h5 h6
  by_cases hall:∀i,i<ops.size->late.contains i=false->listed.getD i false=true
  ·have hL:listed=(lastB ops late).toArray:=by
    apply Array.ext
    ·simp[lastB,h1]
    ·intro i hi _;have hio:i<ops.size:=by omega
     have e1:listed[i]=listed.getD i false:=by simp[hi]
     rw[e1];simp only[lastB,List.getElem_toArray,List.getElem_map,List.getElem_range];cases hc:late.contains i with
     | false=>exact hall i hio hc
     | true=>exact h3 i hc hio
   subst hL;have:=hdone vals w h5 (fun j hj hc=>h6 j (hall j hj hc)) h2;rw[hk] at h4;exact Jc h4 this
  ·have hex:∃i,i<ops.size/\late.contains i=false/\listed.getD i false=false:=by
    apply Classical.byContradiction
    intro hno
    apply hall
    intro i hi hc;cases hl:listed.getD i false with
    | true=>rfl
    | false=>exact absurd ⟨i,hi,hc,hl⟩ hno
   obtain⟨u,hu,huc,hul⟩:=hex;have hne:=Jt hlow h1 0 (Nat.zero_le _) (fun i hi=>by omega) ⟨u,hu,hul⟩;refine⟨fun h0=>?_,fun i hi=>?_⟩
   ·obtain⟨i,hi⟩:=hne;rw[h0] at hi;cases hi
   ·have hun:=vF hi;obtain⟨hun2,o,ho,-⟩:=mem_ready.1 hi;have hio:i<ops.size:=(Array.getElem?_eq_some_iff.1 ho).1
    have hic:late.contains i=false:=by
     cases hc:late.contains i with
     | false=>rfl
     | true =>
      have hw:=List.all_eq_true.1 hlate u (by simpa using hu);rw[huc,Bool.false_or] at hw;have:=jo hw h2 hi hc;rw[hul] at this;cases this
    have ho':ops.toList[i]?=some o:=by rw[Array.getElem?_toList];exact ho
    have hdi:ds[i]?=some o.dst:=by rw[<-hd,List.getElem?_map,ho'];rfl
    have hbi:listed.toList[i]?=some false:=by
     rw[Array.getElem?_toList];have:i<listed.size:=by omega
     simp[this] at hun ⊢;exact hun
    refine wpOp_step ho (fun K' hK=>?_);refine hstep i hio hic o ho' _ w h5 (fun t ht=>Zf (by rw[<-hd];simp) h3 vals a0 ht) (fun j hj t ht=>?_) K' (fun v w' e hJ=>hK _ _ ⟨fun _ _=>trivial,?_⟩)
    ·have hjl:=xB hi j (by simpa using hj);refine⟨vals j,?_,h6 j hjl⟩
     have hjs:j<listed.size:=by
      rcases Nat.lt_or_ge j listed.size with h|h
      ·exact h
      ·simp[Array.getElem?_eq_none h] at hjl
     have:=Qa ds listed.toList vals 0 j a0 hnd (by rw[Array.getElem?_toList];simp[hjs] at hjl ⊢;exact hjl) ht (by
      have:=List.all_eq_true.1 hsz (some t) (List.mem_of_getElem? ht)
      simpa using this)
     rw[Nat.zero_add] at this;exact this
    ·have hc:=Vb (by omega:i<listed.size) hun ops.size;rw[if_pos hio] at hc;have hps:=Q5 (v:=v) ds listed.toList vals 0 i a0 hnd hbi hdi;rw[Nat.zero_add] at hps;rw[<-hps,<-Array.toList_setIfInBounds];refine ih (listed.setIfInBounds i true) (ZV vals i v) w' (by simpa using h1) (h2.set hi) (fun t htl htn=>?_) (by omega) (h5.trans e) (fun j hj=>?_)
     ·rw[Go.getD_set_ne false (fun e=>by subst e;rw[hic] at htl;cases htl)];exact h3 t htl htn
     ·by_cases hji:i=j
      ·subst hji;have:ZV vals i v i=v:=by simp[ZV]
       rw[this];exact hJ
      ·rw[Go.getD_set_ne false hji] at hj;have:ZV vals i v j=vals j:=by unfold ZV;rw[if_neg (fun e=>hji e.symm)]
       rw[this];exact (Js[j]?.getD Mn.any).mono e (h6 j hj)
theorem WR (Js:List Mn) (ds:List (Option Tmp)) (late:List Nat) (bs:List Bool) (k:Nat){id:Nat}{a0:Act}{W:World}(hm:P.follows .mixedOrders=true) (hd:ops.toList.map (·.dst)=ds) (hnd:nodupB ds=true) (hsz:q0c ds a0.tmps.size=true) (hlow:q5P ops=true) (hlate:q5R ops late=true)
  (hb:lastB ops late=bs) (hk:cnt bs.toArray ops.size=k) (hstep:∀i,i<ops.size->late.contains i=false->Stp P ops Q late Js ds a0 W i)
  (hdone:∀vals w,Ext W w->(∀j,j<ops.size->late.contains j=false->(Js[j]?.getD Mn.any).p (vals j) w)->xx P ops Q (fun _=>True) late k bs.toArray (qH ds bs vals 0 a0) w) :
  (Code.region id ops true).wp P Q a0 W:=by
 subst hb
 have h0:∀n,qH ds (Array.replicate n false).toList (fun _=>undef) 0 a0=a0:=by
  intro n;simp only[Array.toList_replicate]
  have:∀(ds:List (Option Tmp)) (n k:Nat),qH ds (List.replicate n false) (fun _=>undef) k a0=a0:=by
   intro ds
   induction ds with
   | nil=>intro n k;unfold qH;rfl
   | cons d ds ih =>
    intro n k;cases n with
    | zero=>rfl
    | succ n=>exact ih n (k+1)
  exact this ds n 0
 have hc0:∀(n:Nat) (l:Array Bool),cnt l n<=n:=by
  intro n l
  induction n with
  | zero=>exact q_r
  | succ n ih=>unfold cnt;split<;>omega
 have hf0:∀j,(Array.replicate ops.size false).getD j false=false:=fun j=>by
  rw[Array.getD_eq_getD_getElem?,Array.getElem?_replicate];split<;>rfl
 have:=q7e (P:=P) (Q:=Q) (late:=late) hd hnd hsz hlow hlate hstep hk hdone ops.size (Array.replicate ops.size false) (fun _=>undef) W.drew (by simp) (Closed.start _) (fun t _ _=>hf0 t) (hc0 _ _) (Ext.refl W).drew (fun j hj=>by rw[hf0 j] at hj;cases hj);rw[h0] at this;exact wp_region_any hm (jy _ _ _ _ this)
def invB (P:Program) (ops:Array Oper) (ds:List (Option Tmp)) (late:List Nat) (bs:List Bool) (k n:Nat):Bool :=
 P.follows .mixedOrders&&(decide (ops.toList.map (·.dst)=ds)&&(nodupB ds&&(q0c ds n&&(q5P ops&&(q5R ops late&&(decide (lastB ops late=bs)&&decide (cnt bs.toArray ops.size=k)))))))
theorem jL (Js:List Mn) (ds:List (Option Tmp)) (late:List Nat) (bs:List Bool) (k:Nat){id:Nat}{a0:Act}{W:World}(h:invB P ops ds late bs k a0.tmps.size=true) (hstep:∀i,i<ops.size->late.contains i=false->Stp P ops Q late Js ds a0 W i)
  (hdone:∀vals w,Ext W w->(∀j,j<ops.size->late.contains j=false->(Js[j]?.getD Mn.any).p (vals j) w)->xx P ops Q (fun _=>True) late k bs.toArray (qH ds bs vals 0 a0) w) :
  (Code.region id ops true).wp P Q a0 W:=by
 unfold invB at h;simp only[Bool.and_eq_true,decide_eq_true_eq] at h;obtain⟨h1,h2,h3,h4,h5,h6,h7,h8⟩:=h;exact WR Js ds late bs k h1 h2 h3 h4 h5 h6 h7 h8 hstep hdone
end
end Go.Proofs.YtpkmjhmmmdkodaaGreat
namespace Go.Proofs.YtpkmjhmmmdkodaaGreat
open Go.RowKit
variable {w w':World} {N n lo hi k g m base c b:Nat} {v s:Value} {z:Int} {R:Raw} {A:Option Addr}
def Mn.rat (N:Nat) (q:Rat):Mn:=⟨fun v w=>zq N w v q,fun e h=>h.ext e⟩
def Mn.ls (N n:Nat) (x:q_v):Mn:=⟨fun v w=>LsV N 0 w.heap.size w v n x,fun e h=>LsR.wide (h.ext e) (q_r) e.size (q_r)⟩
def Mn.mt (N m n:Nat) (X:q_m):Mn:=⟨fun v w=>MtV N 0 w.heap.size w v m n X,fun e h=>MtR.wide (h.ext e) (q_r) e.size (q_r)⟩
theorem q5E{b:Bool}{t:Value}{q:Rat}(hN:N<=w.heap.size) (h:w.heap[g]?=some (.cells #[.bool b,s,.bool false,t] 48 (0,0))) (hb:Hid (b=decide (q.num<0))) (h1:Gs N w s (dg q.num.natAbs)) (h2:Gs N w t (dg q.den)) :
  LsV N 0 w.heap.size w (.slice (some ⟨g,0,none⟩) 1 1) 1 (fun _=>q):=by
 refine⟨hN,q_r,_,1,rfl,q_r,by unfold maxLen;omega,fun _=>⟨g,0,rfl,Nat.zero_le _,qF h,fun i hi=>?_⟩⟩;obtain rfl:i=0:=by omega
 refine⟨s,t,?_,qh h 1,qh h 2,qh h 3,h1,h2⟩
 show w.cell? ⟨g,0,none⟩=some (.bool (decide (q.num<0)))
 rw[<-hb.out];exact qh h 0
def Mn.rbk (N:Nat) (q:Rat):Mn:=⟨fun v w=>∃g,v=.slice (some ⟨g,0,none⟩) 1 1/\yC N w g q,fun e h=>by
  obtain⟨g,h0,h1⟩:=h
  exact⟨g,h0,h1.ext e⟩⟩
theorem q1Y{cap:Nat}(h:w.ownsRow base 48 4 (.slice (some ⟨g,0,none⟩) 0 cap) 0 []) (hN:N<=base) (hb:base<=w.heap.size) (x:q_v):Grow N base w (.slice (some ⟨g,0,none⟩) 0 cap) 0 x:=by
 rcases h.2 with ⟨h0,-⟩|⟨g',cap',cur,hv,hg,hh,hnc,hcm,hcs,-⟩
 ·cases h0
 ·simp only[Value.slice.injEq,Option.some.injEq,Addr.mk.injEq,and_true,true_and] at hv;obtain⟨rfl,rfl⟩:=hv;exact⟨hN,hb,.inr ⟨_,_,rfl,hg,hcm,by omega,Nat.zero_le _,⟨cur,hh,hcs⟩,fun j hj=>absurd hj (Nat.not_lt_zero j)⟩⟩
theorem xh{ops:Array Oper}{rest:List Oper}{o:Oper}{a:Act}{Q:Exit->Act->World->Prop}(hg:o.guard=none) (l c:Operand) (hop:o.op=Op.makeSlice 24 l c)
  (kl kc:IntKind) (C:Int) (n:Nat) (hl:a.eval l=.int kl 0) (hc:a.eval c=.int kc C) (hC:C=(n:Int)) (hn:n<1000000) (hN:N<=base) (hb:base<=w.heap.size)
  (hK:∀w',(∀x,Grow N base w' (.slice (some ⟨w.heap.size,0,none⟩) 0 n) 0 x)->Ext w w'->wpList Tryz.prog ops Q rest (a.put o.dst (.slice (some ⟨w.heap.size,0,none⟩) 0 n)) w'):wpList Tryz.prog ops Q (o :: rest) a w:=by
 obtain⟨i0,hi0,hz0,hz1,hz2⟩:=info_parts yc;refine wpList_make_own w hg l c 24 hop base 48 i0 _ 4 Tryz.underlying24 hi0 hz0 hz1 kl kc C n hl hc hC (by rw[hz2];omega) (by unfold maxLen;omega) hb ?_;intro w' h1 h2;have hx:=(Ext.refl w).grown h2 (fun k hk=>by cases hk);exact hK w' (fun x=>q1Y h1 hN (q_l hb hx.size) x) hx
theorem q2G {lo' hi':Nat}{u:Value}{x y:q_v}(h:LsV N lo hi w v n x) (h':LsV N lo' hi' w u n y) (hs:∀i,i<n->Sz (x i)/\Sz (y i)) (hn:n<1000000) :
  Calls Tryz.prog 52 #[v,u] w (q6J N w n (fun i=>x i-y i)):=by
 have hN:N<=w.heap.size:=LsV.le h;obtain⟨R,hR⟩:=qc (q6J N w n (fun i=>x i-y i));rw[<-hR.out];have HX:=q_h h;have HY:=q_h h';have HS:=q_h hs;obtain⟨A1,c1,rfl,k1,-⟩:=h.form;obtain⟨A2,c2,rfl,k2,-⟩:=h'.form;clear h h' hs;go_enter Tryz.func52,Tryz.ntmps52;go_wp2_with (at_make;refine q_o ?_);refine xh (N:=N) (base:=w.heap.size) rfl _ _ rfl .i64 .i64 _ n rfl rfl rfl hn hN (q_r) ?_;intro w1 hG e1;have HG0:=q_h (hG (fun i=>x i-y i));clear hG;go_wp2_with fail
 go_loopw [12,5] (fun iv ov wr=>∃(i:Nat) (g c:Nat),i<=n/\iv=.int .i64 (i:Int)/\ov=.slice (some ⟨g,0,none⟩) i c/\Grow N w.heap.size wr ov i (fun i=>x i-y i)/\Ext w wr) (fun iv _ _=>n-(intOf iv).toNat)
 case atStart=>exact⟨0,_,_,Nat.zero_le _,rfl,rfl,HG0.out,e1⟩
 case round =>
  obtain⟨i,g,c,hi,rfl,rfl,HG,hE⟩:=hrel
  by_cases hlt:i<n
  case neg =>
   have t1:decide ((i:Int)<(n:Int))=false:=q_f (by omega);obtain rfl:n=i:=by omega
   go_wp2
   first|go_ret|skip
   rw[hR.out];exact⟨_,_,rfl,HG.lsv (q_r) rfl,hE⟩
  have t1:decide ((i:Int)<(n:Int))=true:=q_t (by omega);have t2:(i:Int)<(n:Int):=by omega
  obtain⟨b1,o1,rfl,-,-,hx⟩:=LsV.addr (HX.out.ext hE) (by omega);obtain⟨b2,o2,rfl,-,-,hy⟩:=LsV.addr (HY.out.ext hE) (by omega);obtain⟨n1,A3,k3,c3,A4,k4,c4,p0,p1,p2,p3,hb1,g1,g2⟩:=(hx i hlt).open;obtain⟨n2,A5,k5,c5,A6,k6,c6,q0,q1,q2,q3,hb2,g3,g4⟩:=(hy i hlt).open;have hRp:zq N wr (.agg #[.bool n1,.slice A3 k3 c3,.bool false,.slice A4 k4 c4]) (x i):=zq.mk hb1 g1 g2;have hRq:zq N wr (.agg #[.bool n2,.slice A5 k5 c5,.bool false,.slice A6 k6 c6]) (y i):=zq.mk hb2 g3 g4;have HSI:=q_h (HS.out i hlt);obtain⟨xi,hxi⟩:=qc (x i);obtain⟨yi,hyi⟩:=qc (y i);rw[<-hxi.out] at hRp HSI;rw[<-hyi.out] at hRq HSI;obtain⟨wq,hwq⟩:∃wq,wq=wr:=⟨_,rfl⟩
  subst hwq;clear hx hy hb1 hb2 g1 g2 g3 g4 HG0;go_upto_region 5 with (fail);refine jL [Mn.eq (.slice (some ⟨g,0,none⟩) i c),Mn.eq (.slice (some ⟨b1,o1,none⟩) n c1),Mn.i (i:Int),Mn.q b1 (o1+i*4),Mn.rat N (xi),Mn.eq (.slice (some ⟨b2,o2,none⟩) n c2),Mn.i (i:Int),Mn.q b2 (o2+i*4),Mn.rat N (yi),Mn.rat N (xi-yi),Mn.rbk N (xi-yi),Mn.any,Mn.any] (sM [15,16,17,18,19,20,21,22,23,24,25,26,5]) [11,12] (rQ 11 2) 2 (by kernel_rfl) ?_ ?_
  ·show ∀i,i<13->_
   iterate 13 refine fs ?_ ?_
   ·exact fz
   all_goals intro hl;first|exact absurd hl (by decide)|(clear hl;refine stp rfl ?_;intro ac wi eI hB hA K hK)
   have o5:=oOf (hB 5) rfl;rotate_left;have o0:=oOf (hB 0) rfl;rotate_left;have o6:=oOf (hB 6) rfl;rotate_left;obtain⟨_,s16,rfl⟩:=hA 1 16;obtain⟨_,s17,rfl⟩:=hA 2 17;rotate_left;obtain⟨_,s18,rfl⟩:=hA 3 18;clear hB hA;have cc0:=eI.cell p0;have cc1:=eI.cell p1;have cc2:=eI.cell p2;have cc3:=eI.cell p3
   ·go_simp;exact q_k hK (hRp.ext eI)
   have o1:=oOf (hB 1) rfl;rotate_left;have o6:=oOf (hB 6) rfl;rotate_left;obtain⟨_,s20,rfl⟩:=hA 5 20;obtain⟨_,s21,rfl⟩:=hA 6 21;rotate_left;obtain⟨_,s22,rfl⟩:=hA 7 22;clear hB hA;have cc0:=eI.cell q0;have cc1:=eI.cell q1;have cc2:=eI.cell q2;have cc3:=eI.cell q3
   ·go_simp;exact q_k hK (hRq.ext eI)
   obtain⟨x19,s19,j19⟩:=hA 4 19;replace j19:Mn.p (Mn.rat N (xi)) x19 wi:=j19;obtain⟨x23,s23,j23⟩:=hA 8 23;replace j23:Mn.p (Mn.rat N (yi)) x23 wi:=j23;clear hB hA
   ·go_simp;refine (q60 j19 j23 HSI.out.1 HSI.out.2).mono ?_;rintro e wj ⟨vj,rfl,hj,ej⟩;go_wp2_with fail;exact hK.out _ _ ej hj
   obtain⟨x24,s24,j24⟩:=hA 9 24;replace j24:Mn.p (Mn.rat N (xi-yi)) x24 wi:=j24;clear hB hA
   ·obtain⟨bj,Aj,kj,cj,Aj',kj',cj',rfl,hbj,gj1,gj2⟩:=zq.parts j24;go_simp;refine qp ?_;intro wj ej hszj BJ;exact hK.out _ _ ej ⟨_,rfl,yC.mk BJ hbj (gj1.ext ej) (gj2.ext ej)⟩
   all_goals clear hB hA;go_simp;exact q_k hK rfl
  intro vals wz eZ hJ;have J15:vals 0=_:=hJ 0 (by decide) (by decide);have J25:Mn.p (Mn.rbk N (xi-yi)) (vals 10) wz:=hJ 10 (by decide) (by decide);clear hJ;simp only[pr,Nat.reduceAdd,J15];clear J15
  generalize vals 10=z25 at J25 ⊢
  obtain⟨gb,rfl,bj,Aj,kj,cj,Aj',kj',cj',BX,hbj,gj1,gj2⟩:=J25;have hGz:=HG.ext eZ;refine qj (i:=11) rfl (by kernel_rfl) (by kernel_rfl) (fun K hK=>?_);refine zU rfl _ _ 24 Tryz.underlying24 rfl (by rfl) hGz (by rfl) BX hbj gj1 gj2 (by omega) ?_;rintro gq cq w17 g' hG8 hb9 c17 u1' u2';refine hK.out _ _ ?_;clear hK K;try simp only[nr]
  refine qj (i:=12) rfl (by kernel_rfl) (by kernel_rfl) (fun K hK=>?_);go_simp;refine hK.out _ _ ?_;clear hK K;try simp only[nr]
  refine qg (by kernel_rfl) ?_ _;have hE8:=c17.ext (hE.trans eZ) hb9
  have HG8:=q_h (hG8.congr (y:=fun i=>x i-y i) (fun j _=>by
   unfold upd
   by_cases h9:j=i
   ·rw[if_pos h9,h9,hxi.out,hyi.out]
   ·rw[if_neg h9]))
  clear hG8 c17 hGz BX hbj gj1 gj2 eZ p0 p1 p2 p3 q0 q1 q2 q3 hRp hRq u1' u2' HG;go_wp2;go_roundw
  case rel=>exact⟨i+1,gq,cq,by omega,by go_num,rfl,HG8.out,hE8⟩
  case measure=>simp[intOf];omega
theorem J7 {lo' hi':Nat}{u:Value}{M:q_m}{x:q_v}(h:MtV N lo hi w v m n M) (h':LsV N lo' hi' w u n x){k':Nat}(hk:HtM m n k M) (hk':HtL n k' x) (hK:n*(k+k'+1)+1<=29000000000) (hm:m<1000000) :
  Calls Tryz.prog 53 #[v,u] w (q6J N w m (av n M x)):=by
 have hN:N<=w.heap.size:=LsV.le h';obtain⟨R,hR⟩:=qc (q6J N w m (av n M x));rw[<-hR.out];have HX:=q_h h;have HY:=q_h h';have HK:=q_h hk;have HK':=q_h hk';have HKK:=q_h hK;obtain⟨A1,c1,rfl,k1,-⟩:=h.form;obtain⟨A2,c2,rfl,k2,-⟩:=h'.form;clear h h' hk hk' hK;go_enter Tryz.func53,Tryz.ntmps53;go_wp2_with (at_make;refine q_o ?_);refine xh (N:=N) (base:=w.heap.size) rfl _ _ rfl .i64 .i64 _ m rfl rfl rfl hm hN (q_r) ?_;intro w1 hG e1;have HG0:=q_h (hG (av n M x));clear hG;go_wp2_with fail
 go_loopw [15,5] (fun iv ov wr=>∃(i:Nat) (g c:Nat),i<=m/\iv=.int .i64 (i:Int)/\ov=.slice (some ⟨g,0,none⟩) i c/\Grow N w.heap.size wr ov i (av n M x)/\Ext w wr) (fun iv _ _=>m-(intOf iv).toNat)
 case atStart=>exact⟨0,_,_,Nat.zero_le _,rfl,rfl,HG0.out,e1⟩
 case round =>
  obtain⟨i,g,c,hi,rfl,rfl,HG,hE⟩:=hrel
  by_cases hlt:i<m
  case neg =>
   have t1:decide ((i:Int)<(m:Int))=false:=q_f (by omega);obtain rfl:m=i:=by omega
   go_wp2
   first|go_ret|skip
   rw[hR.out];exact⟨_,_,rfl,HG.lsv (q_r) rfl,hE⟩
  have t1:decide ((i:Int)<(m:Int))=true:=q_t (by omega);have t2:(i:Int)<(m:Int):=by omega
  obtain⟨b1,o1,rfl,-,-,hx⟩:=MtV.addr (HX.out.ext hE) (by omega);obtain⟨A3,c3,p0,-,-,hrow⟩:=hx i hlt;have HROW:=q_h hrow;have HYR:=q_h (HY.out.ext hE);have HGH:=q_h HG;obtain⟨wq,hwq⟩:∃wq,wq=wr:=⟨_,rfl⟩
  subst hwq;clear hx hrow HG0 HG;go_wp2_with (go_at_call 110;refine q_o ?_);refine (f_dot HROW.out HYR.out (fun j hj=>HK.out i hlt j hj) HK'.out HKK.out).mono ?_;intro e w5 hh;obtain⟨b,A,n9,c9,A',n',c',rfl,hb,g1,g2,e5⟩:=hh.form;go_upto_region 6 with (fail);refine qp ?_;intro w6 e6 hsz6 B6;obtain⟨s0,s1,s2,s3,-⟩:=cells4 B6;clear p0;go_wp2_with (at_builtin;refine q_o ?_);refine qp ?_;intro w7 e7 hsz7 B7;have E7:=(e5.trans e6).trans e7;refine kS rfl _ _ 24 Tryz.underlying24 rfl (by rfl) (HGH.out.ext E7) (by rfl) B7 hb (g1.ext (e6.trans e7)) (g2.ext (e6.trans e7)) (by omega) ?_;rintro gq cq w8 hG8 ⟨g',hg',C8,-⟩ hlt8;have hE8:=C8.ext (hE.trans E7) hg'
  have HG8:=q_h (hG8.congr (y:=av n M x) (fun j _=>by
   unfold upd
   by_cases h9:j=i
   ·rw[if_pos h9,h9];rfl
   ·rw[if_neg h9]))
  clear hG8 C8 E7 B7 B6 s0 s1 s2 s3 e5 e6 e7 g1 g2 hh;go_wp2;go_roundw
  case rel=>exact⟨i+1,gq,cq,by omega,by go_num,rfl,HG8.out,hE8⟩
  case measure=>simp[intOf];omega
structure Cls (ET:TypeId) (k:Nat) (z0:Value) (bz:Nat):Prop where
 inf:(Tryz.prog.info? ET).map (fun i=>(i.zero,i.size,i.bytes))=some (some z0,k,bz)
 cells:z0.cells.size=k
 pos:0<k
 lk:k<=10
 le:bz<=100
 ne:ET≠150
def zM (ET:TypeId) (k base:Nat) (w:World) (v:Value) (n:Nat) (xs:List Value):Prop:=base<=w.heap.size/\w.ownsRow base ET k v n xs
section
variable {ET:TypeId}{k:Nat}{z0:Value}{bz:Nat}
theorem zM.ext{xs:List Value}(h:zM ET k base w v n xs) (e:Ext w w'):zM ET k base w' v n xs:=by
 refine⟨q_l h.1 e.size,h.2.1,?_⟩
 rcases h.2.2 with h0|⟨g,cap,cur,hv,hb,hh,h1,h2,h3,h4⟩
 ·exact .inl h0
 ·exact .inr ⟨g,cap,cur,hv,hb,e.block hh,h1,h2,h3,h4⟩
theorem Qp (hc:Cls ET k z0 bz){xs:List Value}(t ty:TypeId) (ht:Tryz.prog.underlying t=some (.slice ET)) (h:zM ET k base w v n xs){a:Addr}{news:List Value}(hl:news.length=m*k)
  (hnews:∀j u,news[j]?=some u->w.cell? (a.add j)=some u) (h1:∀u∈news,u.oneCell'=true) (hn:n+m<=1000000) :
  ∃v' w',(Builtin.append_ #[t,t] ty #[v,.slice (some a) m c]).run Tryz.prog w=.ok v' w'/\zM ET k base w' v' (n+m) (xs++news)/\(v'.ownBlock=v.ownBlock\/v'.ownBlock=some w.heap.size)/\(∃g',base<=g'/\(v.ownBlock=some g'\/g'=w.heap.size)/\Chg g' (g'+1) w w'):=by
 obtain⟨i0,hi0,hz0,hz1,hz2⟩:=info_parts hc.inf;obtain⟨hb0,hown⟩:=h;have hle:=hc.le
 obtain⟨v',w',hrun,hO,hgr,-,hat⟩:=run_append_own_at (P:=Tryz.prog) w base t ty ET i0 _ k bz ht hi0 hz0 hz1 hz2 hc.cells hc.pos v n xs hown a m c news (by omega) hnews h1 (by unfold maxLen;omega)
  (q_l (Nat.mul_le_mul hn hc.le) (by decide)) hb0
 refine⟨v',w',hrun,⟨q_l hb0 hgr.size,hO⟩,hat,?_⟩;have hT:NoU w w.heap.size:=fun cs fr h=>by rw[Array.getElem?_eq_none (q_r)] at h;cases h
 rcases hown.2 with ⟨rfl,h0⟩|⟨g0,cap0,cur,rfl,hbb,hh,_⟩
 ·exact⟨w.heap.size,hb0,.inr rfl,zK hgr (fun k hk=>by simp[Value.ownBlock] at hk) hT⟩
 ·have hT0:NoU w g0:=NoU.mk hh hc.ne;exact⟨g0,hbb,.inl rfl,zK hgr (fun k hk=>by simpa[Value.ownBlock] using hk.symm) hT0⟩
theorem jE (hc:Cls ET k z0 bz){xs:List Value}{ops:Array Oper}{rest:List Oper}{o:Oper}{a:Act}{Q:Exit->Act->World->Prop}(hgd:o.guard=none) (s x:Operand) (t:TypeId) (ht:Tryz.prog.underlying t=some (.slice ET))
  (ho:o.op=.call { callee:=.builtin .append,args:=#[s,x],argTypes:=#[t,t] }) (hs:a.eval s=v) (h:zM ET k base w v n xs){ad:Addr}{news:List Value}(hx:a.eval x=.slice (some ad) m c) (hl:news.length=m*k)
  (hnews:∀j u,news[j]?=some u->w.cell? (ad.add j)=some u) (h1:∀u∈news,u.oneCell'=true) (hn:n+m<=1000000)
  (hK:∀v' w',zM ET k base w' v' (n+m) (xs++news)->(v'.ownBlock=v.ownBlock\/v'.ownBlock=some w.heap.size)->(∃g',base<=g'/\(v.ownBlock=some g'\/g'=w.heap.size)/\Chg g' (g'+1) w w')->wpList Tryz.prog ops Q rest (a.put o.dst v') w'):wpList Tryz.prog ops Q (o :: rest) a w:=by
 refine wpList_plain hgd fun _ hK'=>?_
 obtain⟨v',w',hrun,h2,h3,h4⟩:=Qp hc t o.type ht h hl hnews h1 hn (c:=c);unfold Oper.wp execOp;simp only[ho,resolve,invoke,builtin,Sem.run_bind,Sem.run_pure,Result.andThen_ok,List.map_toArray,List.map_cons,List.map_nil,hs,hx,hrun];exact hK' _ _ (hK v' w' h2 h3 h4)
theorem zM.at_{xs:List Value}(h:zM ET k base w v n xs) (hn:0<n):∃g cap,v=.slice (some ⟨g,0,none⟩) n cap/\base<=g/\n<=cap/\cap<=maxLen/\∀j u,xs[j]?=some u->w.cell? ⟨g,j,none⟩=some u:=by
 have hl:=h.2.1
 rcases h.2.2 with ⟨-,h⟩|⟨g,cap,cur,hv,hb,hg,hnc,hcm,hcs,htk⟩
 ·omega
 ·refine⟨g,cap,hv,hb,hnc,hcm,fun j u hj=>?_⟩;rw[qh hg]
  have hjl:j<n*k:=by
   rw[<-hl];exact (List.getElem?_eq_some_iff.1 hj).1
  have h9:(cur.toList.take (n*k))[j]?=some u:=by rw[htk];exact hj
  rw[List.getElem?_take,if_pos hjl] at h9;simpa using h9
theorem zM.own_lt{xs:List Value}(h:zM ET k base w v n xs):∀k,v.ownBlock=some k->base<=k/\k<w.heap.size:=by
 rcases h.2.2 with ⟨rfl,h0⟩|⟨g,cap,cur,rfl,hb,hh,-⟩
 ·intro k hk;simp[Value.ownBlock] at hk
 ·intro k hk;obtain rfl:g=k:=by simpa[Value.ownBlock] using hk
  exact⟨hb,qF hh⟩
theorem zM.form{xs:List Value}(h:zM ET k base w v n xs):∃A c,v=.slice A n c:=by
 rcases h.2.2 with ⟨rfl,h0⟩|⟨g,cap,cur,rfl,_⟩
 ·exact⟨_,_,by rw[h0]⟩
 ·exact⟨_,_,rfl⟩
end
theorem Jo {ET:TypeId}{z0:Value}{bz:Nat}(ho:One ET z0 bz) (hz:z0.cells=#[z0]) (t:TypeId) (ht:Tryz.prog.underlying t=some (.slice ET)) (w:World) (kl kc:IntKind) (n:Nat) (hn:n<1000000) :
  ∃w' cs,(Instr.makeSlice t (.int kl n) (.int kc n)).run Tryz.prog w=.ok (.slice (some ⟨w.heap.size,0,none⟩) n n) w'/\w'.heap[w.heap.size]?=some (.cells cs ET (0,0))/\cs.size=n/\(∀i,i<n->cs[i]?=some z0)/\Ext w w':=by
 obtain⟨i0,hi0,hz0,hz1,hz2⟩:=info_parts ho.inf;have hle:=ho.le;obtain⟨w',hrun,hown,hgr⟩:=run_make_full (P:=Tryz.prog) w w.heap.size t ET i0 _ 1 ht hi0 hz0 hz1 kl kc n (by rw[hz2];exact q_l (Nat.mul_le_mul hle (Nat.le_of_lt hn)) (by decide)) (by unfold maxLen;omega) (q_r);have hx:=(Ext.refl w).grown hgr (fun k hk=>by cases hk)
 rcases hown.2 with ⟨h,_⟩|⟨g,cap,cur,hv,hg,hh,hnc,hcm,hcs,htk⟩
 ·cases h
 ·have e1:w.heap.size=g:=Option.some.inj (congrArg Value.ownBlock hv);have e3:n=cap:=congrArg (fun v:Value=>match v with|.slice _ _ c=>c|_=>0) hv;subst e1 e3;refine⟨w',cur,hrun,hh,by omega,fun i hi=>?_,hx⟩;rw[hz,toList_madeCells_one] at htk;have h1:(cur.toList.take (n*1))[i]?=(List.replicate (n*1) z0)[i]?:=by rw[htk]
  rw[List.getElem?_take,if_pos (by omega),List.getElem?_replicate,if_pos (by omega)] at h1;simpa using h1
theorem zJ {ET:TypeId}{z0:Value}{bz:Nat}(ho:One ET z0 bz) (hz:z0.cells=#[z0]){ops:Array Oper}{rest:List Oper}{o:Oper}{a:Act}{Q:Exit->Act->World->Prop}(hg:o.guard=none) (l c:Operand) (t:TypeId) (ht:Tryz.prog.underlying t=some (.slice ET)) (hop:o.op=Op.makeSlice t l c)
  (kl kc:IntKind) (L C:Int) (n:Nat) (hl:a.eval l=.int kl L) (hc:a.eval c=.int kc C) (hL:L=(n:Int)) (hC:C=(n:Int)) (hn:n<1000000)
  (hK:∀w' cs,w'.heap[w.heap.size]?=some (.cells cs ET (0,0))->cs.size=n->(∀i,i<n->cs[i]?=some z0)->Ext w w'->wpList Tryz.prog ops Q rest (a.put o.dst (.slice (some ⟨w.heap.size,0,none⟩) n n)) w'):wpList Tryz.prog ops Q (o :: rest) a w:=by
 refine wpList_plain hg fun K hK'=>?_
 obtain⟨w',cs,hrun,r1,r2,r3,r4⟩:=Jo ho hz t ht w kl kc n hn;subst hL;subst hC;unfold Oper.wp;simp[execOp,hop,hl,hc,hrun,Result.andThen]
 exact hK' _ _ (hK w' cs r1 r2 r3 r4)
def FlB (ET:TypeId) (w:World) (g m:Nat) (f:Nat->Value):Prop:=∃cs,w.heap[g]?=some (.cells cs ET (0,0))/\cs.size=m/\∀i,i<m->cs[i]?=some (f i)
theorem FlB.ext {ET:TypeId}{f:Nat->Value}(h:FlB ET w g m f) (e:Ext w w'):FlB ET w' g m f:=by
 obtain⟨cs,h1,h2,h3⟩:=h;exact⟨cs,e.block h1,h2,h3⟩
theorem FlB.chg {ET:TypeId}{f:Nat->Value}(h:FlB ET w g m f) (c:Chg lo hi w w') (hd:g<lo\/hi<=g):FlB ET w' g m f:=by
 obtain⟨cs,h1,h2,h3⟩:=h;exact⟨cs,c.blk h1 hd,h2,h3⟩
theorem FlB.cell {ET:TypeId}{f:Nat->Value}(h:FlB ET w g m f){i:Nat}(hi:i<m):w.cell? ⟨g,i,none⟩=some (f i)/\w.frozen? ⟨g,i,none⟩=false:=by
 obtain⟨cs,h1,h2,h3⟩:=h;exact⟨by rw[qh h1];exact h3 i hi,qP h1 i⟩
theorem FlB.lt {ET:TypeId}{f:Nat->Value}(h:FlB ET w g m f):g<w.heap.size:=by
 obtain⟨cs,h1,-⟩:=h;exact qF h1
theorem FlB.set {ET:TypeId}{f:Nat->Value}(h:FlB ET w g m f) (hne:ET≠150){i:Nat}(hi:i<m) (v:Value):∃w',w.setCell ⟨g,i,none⟩ v=w'/\FlB ET w' g m (fun j=>if j=i then v else f j)/\Chg g (g+1) w w'/\w'.heap.size=w.heap.size:=by
 obtain⟨cs,h1,h2,h3⟩:=h;have U:=(Upd.refl g w).set i v;refine⟨_,rfl,⟨_,heap_set h1 i v,by simpa using h2,fun j hj=>?_⟩,U.chg (NoU.mk h1 hne),U.size⟩;rw[Array.getElem?_setIfInBounds]
 by_cases hij:i=j
 ·subst hij;rw[if_pos rfl,if_pos (by omega)]
  show _=some (if i=i then v else f i)
  rw[if_pos rfl]
 ·rw[if_neg hij]
  show _=some (if j=i then v else f j)
  rw[if_neg (fun e:j=i=>hij e.symm)];exact h3 j hj
theorem q5L:4≠150:=by decide
def vK (o:Nat->Int) (n m:Nat):Bool:=decide (n=m)&&allB n (fun i=>(decide (0<=o i)&&decide (o i<(m:Int)))&&allB i (fun j=>!decide (o j=o i)))
theorem q3u {o:Nat->Int}{i:Nat}(hi:i<n) (h:¬(0<=o i/\o i<(m:Int))\/∃j,j<i/\o j=o i):vK o n m=false:=by
 unfold vK;rw[qE hi,Bool.and_false]
 rcases h with h|⟨j,h1,h2⟩
 ·by_cases h0:0<=o i
  ·rw[q_f (show ¬o i<(m:Int) by omega),Bool.and_false,Bool.false_and]
  ·rw[q_f h0,Bool.false_and,Bool.false_and]
 ·rw[qE h1 (by rw[q_t h2];rfl),Bool.and_false]
def ZK (o:Nat->Int) (i j:Nat):Bool:=xg i (fun k=>decide (o k=(j:Int)))
theorem wL{o:Nat->Int}(h:IzV N lo hi w v n o) (hm:m<1000000) :
  Calls Tryz.prog 65 #[v,.int .i64 (m:Int)] w (zI w (.bool (vK o n m))):=by
 have HI:=q_h h;obtain⟨A,c,rfl,hnc,hcm⟩:=h.form;unfold maxLen at hcm;obtain⟨r,hr⟩:=qc (vK o n m);rw[<-hr.out];clear h;go_enter Tryz.func65,Tryz.ntmps65;go_wp2_with (at_make;refine q_o ?_);refine zJ q3x rfl rfl _ _ 151 Tryz.underlying151 rfl .i64 .i64 _ _ m rfl rfl rfl rfl hm ?_;intro w1 cs B1 hcs hz e1;have HF:Hid (FlB 4 w1 w.heap.size m (fun j=>.bool (ZK o 0 j))):=⟨cs,B1,hcs,hz⟩
 clear B1 hcs hz;go_wp2_with fail
 go_loopw [12] (fun iv wr=>∃i:Nat,i<=n/\iv=.int .i64 (i:Int)/\Hid (FlB 4 wr w.heap.size m (fun j=>.bool (ZK o i j)))/\Ext w wr/\Hid (∀j,j<i->(0<=o j/\o j<(m:Int))/\∀k,k<j->o k≠o j)) (fun iv _=>n-(intOf iv).toNat)
 case atStart=>exact⟨0,Nat.zero_le _,rfl,HF,e1,fun j hj=>absurd hj (Nat.not_lt_zero j)⟩
 case round =>
  clear HF e1;obtain⟨i,hi,rfl,HF,hE,HO⟩:=hrel
  by_cases hlt:i<n
  case neg =>
   have t1:decide ((i:Int)<(n:Int))=false:=q_f (by omega)
   have HR:Hid (r=decide (n=m)):=by
    rw[Hid,hr.out];unfold vK;rw[ql.2,Bool.and_true];intro j hj;obtain⟨⟨h1,h2⟩,h3⟩:=HO.out j (by omega);rw[q_t h1,q_t h2,ql.2]
    ·rfl
    ·intro k hk;rw[q_f (h3 k hk)]
     rfl
   by_cases hnm:n=m
   ·obtain rfl:r=true:=by rw[HR.out,q_t hnm]
    have t2:((n:Int) == (m:Int))=true:=by simp[hnm]
    clear hnm;go_wp2;go_ret;exact⟨rfl,hE⟩
   ·obtain rfl:r=false:=by rw[HR.out,q_f hnm]
    have t2:((n:Int) == (m:Int))=false:=by simp;omega
    clear hnm;go_wp2;go_ret;exact⟨rfl,hE⟩
  have t1:decide ((i:Int)<(n:Int))=true:=q_t (by omega);have t2:(i:Int)<(n:Int):=by omega
  obtain⟨b,off,rfl,hx⟩:=(HI.out.ext hE).addr (by omega);have p0:=hx i hlt;obtain⟨u,hu⟩:=qc (o i);rw[<-hu.out] at p0
  have HB:Hid (¬(0<=u/\u<(m:Int))\/(∃j,j<i/\o j=u)->r=false):=fun h9=>by
   rw[hr.out];exact q3u hlt (by rw[<-hu.out];exact h9)
  clear hx
  by_cases k0:u<0
  ·have t3:decide (u<0)=true:=decide_eq_true k0;obtain rfl:r=false:=HB.out (.inl (by omega));clear k0;go_wp2;go_ret;exact⟨rfl,hE⟩
  have t3:decide (u<0)=false:=decide_eq_false k0
  by_cases k1:(m:Int)<=u
  ·have t4:decide ((m:Int)<=u)=true:=decide_eq_true k1;obtain rfl:r=false:=HB.out (.inl (by omega));clear k0 k1;go_wp2;go_ret;exact⟨rfl,hE⟩
  have t4:decide ((m:Int)<=u)=false:=decide_eq_false k1;obtain⟨j,rfl⟩:∃j:Nat,u=(j:Int):=⟨u.toNat,by omega⟩
  have hj:j<m:=by omega
  have hj':(j:Int)<(m:Int):=by omega
  obtain⟨q0,q1⟩:=HF.out.cell hj;obtain⟨s,hs⟩:=qc (ZK o i j);rw[<-hs.out] at q0;cases s with
  | true =>
   obtain rfl:r=false:=HB.out (.inr (by
    have h9:=hs.out.symm;unfold ZK xg at h9;simp only[List.any_eq_true,List.mem_range,decide_eq_true_eq] at h9
    exact h9))
   clear k0 k1;go_wp2;go_ret;exact⟨rfl,hE⟩
  | false =>
   have HO2:Hid (∀k,k<i+1->(0<=o k/\o k<(m:Int))/\∀l,l<k->o l≠o k):=fun k hk=>by
    by_cases hki:k=i
    ·subst hki;refine⟨by rw[<-hu.out];omega,fun l hl h9=>?_⟩;have h8:=zT.1 hs.out.symm l hl;rw[decide_eq_false_iff_not] at h8;exact h8 (by rw[h9,<-hu.out])
    ·exact HO.out k (by omega)
   clear k0 k1;go_upto_region 8 with (fail);obtain⟨w5,E5,F5,C5,hs5⟩:=HF.out.set q5L hj (.bool true);rw[E5]
   have HF5:Hid (FlB 4 w5 w.heap.size m (fun k=>.bool (ZK o (i+1) k))):=by
    obtain⟨cs5,h1,h2,h3⟩:=F5;refine⟨cs5,h1,h2,fun k hk=>?_⟩;rw[h3 k hk]
    have h7:ZK o (i+1) k=(ZK o i k||decide (o i=(k:Int))):=by
     unfold ZK xg;rw[List.range_succ,List.any_append]
     simp
    show some (if k=j then Value.bool true else Value.bool (ZK o i k))=some (Value.bool (ZK o (i+1) k))
    by_cases hkj:k=j
    ·rw[if_pos hkj,h7,<-hu.out,hkj,decide_eq_true rfl,Bool.or_true]
    ·rw[if_neg hkj,h7,<-hu.out,q_f (by omega),Bool.or_false]
   have hE5:=C5.ext hE (q_r);clear E5 F5 C5 q0 q1 HF p0;go_wp2;go_roundw
   case rel=>exact⟨i+1,by omega,by go_num,HF5,hE5,HO2⟩
   case measure=>simp[intOf];omega
section
variable {P:Program}{ops:Array Oper}{Q:Exit->Act->World->Prop}{late:List Nat}
def q5Q (ops:Array Oper) (late soft:List Nat):Bool:=(List.range ops.size).all fun i=>late.contains i||soft.contains i||yP ops late i
def apartB (ops:Array Oper) (i:Nat):Bool :=
 match ops[i]? with
 | some oi=>(List.range ops.size).all fun j=>j == i||(ji ops j).contains i||(sweep ops i (ji ops i)).contains j||(match ops[j]? with|some oj=>oi.apart ops oj|none=>true)
 | none=>false
def q5k (ops:Array Oper) (late soft:List Nat):Bool:=soft.all fun i=>decide (i<ops.size) && !late.contains i&&apartB ops i&&(ji ops i).all fun j=>yP ops late j
def Sft (P:Program) (ops:Array Oper) (Q:Exit->Act->World->Prop) (Js:List Mn) (ds:List (Option Tmp)) (a0:Act) (W:World) (i:Nat):Prop :=
 ∀o,ops.toList[i]?=some o->(∀c a v w,Q (.panic c) (Act.put a o.dst v) w->Q (.panic c) a w)/\∀a w,Ext W w->(∀t,ds.contains (some t)=false->a.tmps[t]?=a0.tmps[t]?) ->
  (∀j,(ji ops i).contains j=true->∀t,ds[j]?=some (some t)->∃v,a.tmps[t]?=some v/\(Js[j]?.getD Mn.any).p v w) ->
  ∃v,YieldsIf P ops (fun _=>True) o v a/\(Js[i]?.getD Mn.any).p v w
theorem sft {Js:List Mn}{ds:List (Option Tmp)}{a0:Act}{W:World}{i:Nat}{o:Oper}(hi:ops.toList[i]?=some o) (hQ:∀c a v w,Q (.panic c) (Act.put a o.dst v) w->Q (.panic c) a w)
  (h:∀a w,Ext W w->(∀(t:Nat) (_:ds.contains (some t)=false:=by kernel_rfl),a.tmps[t]?=a0.tmps[t]?) ->
   (∀(j t:Nat) (_:(ji ops i).contains j=true:=by kernel_rfl) (_:ds[j]?=some (some t):=by rfl),∃v,a.tmps[t]?=some v/\(Js[j]?.getD Mn.any).p v w) ->
   ∃v,YieldsIf P ops (fun _=>True) o v a/\(Js[i]?.getD Mn.any).p v w):Sft P ops Q Js ds a0 W i:=by
 intro o' ho';rw[hi] at ho';cases ho'
 exact⟨hQ,fun a w e hB hA=>h a w e hB (fun j t h1 h2=>hA j h1 t h2)⟩
theorem q5T {soft:List Nat}{Js:List Mn}{ds:List (Option Tmp)}{a0:Act}{W:World}(hd:ops.toList.map (·.dst)=ds) (hnd:nodupB ds=true) (hsz:q0c ds a0.tmps.size=true) (hlow:q5P ops=true) (hlate:q5Q ops late soft=true) (hsoft:q5k ops late soft=true) (hns:Region.noSelect ops=true)
  (hstep:∀i,i<ops.size->late.contains i=false->soft.contains i=false->Stp P ops Q late Js ds a0 W i) (hsft:∀i,soft.contains i=true->Sft P ops Q Js ds a0 W i)(hk:cnt (lastB ops late).toArray ops.size=k)
  (hdone:∀vals w,Ext W w->(∀j,j<ops.size->late.contains j=false->(Js[j]?.getD Mn.any).p (vals j) w)->xx P ops Q (fun _=>True) late k (lastB ops late).toArray (qH ds (lastB ops late) vals 0 a0) w) :
  ∀(fuel:Nat) (listed:Array Bool) (vals:Nat->Value) (w:World),listed.size=ops.size->Closed ops listed->(∀t,late.contains t=true->t<ops.size->listed.getD t false=false)->cnt listed ops.size<=fuel->Ext W w ->
   (∀j,listed.getD j false=true->(Js[j]?.getD Mn.any).p (vals j) w)->WA P ops Q (fun _=>True) late fuel listed (qH ds listed.toList vals 0 a0) w:=by
 intro fuel
 induction fuel with
 | zero =>
  intro listed vals w h1 h2 h3 h4 h5 h6
  by_cases hall:∀i,i<ops.size->late.contains i=false->listed.getD i false=true
  ·have hL:listed=(lastB ops late).toArray:=by
    apply Array.ext
    ·simp[lastB,h1]
    ·intro i hi _;have hio:i<ops.size:=by omega
     have e1:listed[i]=listed.getD i false:=by simp[hi]
     rw[e1];simp only[lastB,List.getElem_toArray,List.getElem_map,List.getElem_range];cases hc:late.contains i with
     | false=>exact hall i hio hc
     | true=>exact h3 i hc hio
   subst hL;have:=hdone vals w h5 (fun j hj hc=>h6 j (hall j hj hc)) h2;rw[hk] at h4;exact Jc h4 this
  ·exfalso
   apply hall
   intro i hi _
   have hz:∀n,n<=ops.size->cnt listed n=0->∀i,i<n->listed.getD i false=true:=by
    intro n
    induction n with
    | zero=>intro _ _ i hi;omega
    | succ n ih =>
     intro hn hc i hi;unfold cnt at hc
     by_cases e:i=n
     ·subst e
      by_cases hg:listed.getD i false=true
      ·exact hg
      ·rw[if_neg hg] at hc;omega
     ·exact ih (by omega) (by omega) i (by omega)
   exact hz ops.size (q_r) (by omega) i hi
 | succ fuel ih =>
  intro listed vals w h1 h2 h3 h4 h5 h6
  by_cases hall:∀i,i<ops.size->late.contains i=false->listed.getD i false=true
  ·have hL:listed=(lastB ops late).toArray:=by
    apply Array.ext
    ·simp[lastB,h1]
    ·intro i hi _;have hio:i<ops.size:=by omega
     have e1:listed[i]=listed.getD i false:=by simp[hi]
     rw[e1];simp only[lastB,List.getElem_toArray,List.getElem_map,List.getElem_range];cases hc:late.contains i with
     | false=>exact hall i hio hc
     | true=>exact h3 i hc hio
   subst hL;have:=hdone vals w h5 (fun j hj hc=>h6 j (hall j hj hc)) h2;rw[hk] at h4;exact Jc h4 this
  ·have hfacts:∀i,i∈Region.ready .any ops listed->∀j,(ji ops i).contains j=true->∀t,ds[j]?=some (some t)->∃v,(qH ds listed.toList vals 0 a0).tmps[t]?=some v/\(Js[j]?.getD Mn.any).p v w:=by
    intro i hi j hj t ht;have hjl:=xB hi j (by simpa using hj);refine⟨vals j,?_,h6 j hjl⟩
    have hjs:j<listed.size:=by
     rcases Nat.lt_or_ge j listed.size with h|h
     ·exact h
     ·simp[Array.getElem?_eq_none h] at hjl
    have:=Qa ds listed.toList vals 0 j a0 hnd (by rw[Array.getElem?_toList];simp[hjs] at hjl ⊢;exact hjl) ht (by
     have:=List.all_eq_true.1 hsz (some t) (List.mem_of_getElem? ht)
     simpa using this)
    rw[Nat.zero_add] at this;exact this
   have hnext:∀i,i∈Region.ready .any ops listed->late.contains i=false->∀(o:Oper),ops.toList[i]?=some o->∀v w',Ext w w'->(Js[i]?.getD Mn.any).p v w'->WA P ops Q (fun _=>True) late fuel (listed.setIfInBounds i true) ((qH ds listed.toList vals 0 a0).put o.dst v) w':=by
    intro i hi hic o ho' v w' e hJ;have hun:=vF hi
    have hio:i<ops.size:=by
     rw[Array.getElem?_toList] at ho';exact (Array.getElem?_eq_some_iff.1 ho').1
    have hdi:ds[i]?=some o.dst:=by rw[<-hd,List.getElem?_map,ho'];rfl
    have hbi:listed.toList[i]?=some false:=by
     rw[Array.getElem?_toList];have:i<listed.size:=by omega
     simp[this] at hun ⊢;exact hun
    have hc:=Vb (by omega:i<listed.size) hun ops.size;rw[if_pos hio] at hc;have hps:=Q5 (v:=v) ds listed.toList vals 0 i a0 hnd hbi hdi;rw[Nat.zero_add] at hps;rw[<-hps,<-Array.toList_setIfInBounds];refine ih (listed.setIfInBounds i true) (ZV vals i v) w' (by simpa using h1) (h2.set hi) (fun t htl htn=>?_) (by omega) (h5.trans e) (fun j hj=>?_)
    ·rw[Go.getD_set_ne false (fun e=>by subst e;rw[hic] at htl;cases htl)];exact h3 t htl htn
    ·by_cases hji:i=j
     ·subst hji;have:ZV vals i v i=v:=by simp[ZV]
      rw[this];exact hJ
     ·rw[Go.getD_set_ne false hji] at hj;have:ZV vals i v j=vals j:=by unfold ZV;rw[if_neg (fun e=>hji e.symm)]
      rw[this];exact (Js[j]?.getD Mn.any).mono e (h6 j hj)
   by_cases hsr:∃i,soft.contains i=true/\i∈Region.ready .any ops listed
   ·obtain⟨i,his,hi⟩:=hsr;have hsb:=List.all_eq_true.1 hsoft i (by simpa using his);simp only[Bool.and_eq_true,decide_eq_true_eq,Bool.not_eq_true'] at hsb;obtain⟨⟨⟨hio,hic⟩,hap⟩,-⟩:=hsb;obtain⟨-,o,ho,-⟩:=mem_ready.1 hi;have ho':ops.toList[i]?=some o:=by rw[Array.getElem?_toList];exact ho
    obtain⟨hQ,hsf⟩:=hsft i his o ho';obtain⟨v,hy,hJ⟩:=hsf _ w h5 (fun t ht=>Q7 ds _ vals 0 a0 ht) (hfacts i hi);refine Yi ho (Region.noSelect_spec hns) (fun c a w=>hQ c a v w) fuel listed _ w (fun j oj hoj hji hjl hno=>?_) hi hy (hnext i hi hic o ho' v w (Ext.refl _) hJ);unfold apartB at hap;rw[ho] at hap;have hjo:j<ops.size:=(Array.getElem?_eq_some_iff.1 hoj).1;have h9:=List.all_eq_true.1 hap j (by simpa using hjo);rw[hoj] at h9;simp only[Bool.or_eq_true,beq_iff_eq] at h9
    rcases h9 with ((h9|h9)|h9)|h9
    ·exact absurd h9 hji
    ·exfalso
     have h8:i∈ji ops j:=by simpa using h9
     unfold ji at h8;rw[hoj] at h8;simp only[List.mem_map,List.mem_filter] at h8;obtain⟨e,⟨he,hb⟩,hon⟩:=h8;exact hno e (by simpa using he) hb hon
    ·exfalso
     have h7:=jH h2 i (ji ops i) (fun x hx=>xB hi x hx) j (by simpa using h9);have h6':j<listed.size:=by omega
     simp[h6'] at h7 hjl
     rw[h7] at hjl;cases hjl
    ·exact h9
   ·have hex:∃i,i<ops.size/\late.contains i=false/\listed.getD i false=false:=by
     apply Classical.byContradiction
     intro hno
     apply hall
     intro i hi hc;cases hl:listed.getD i false with
     | true=>rfl
     | false=>exact absurd ⟨i,hi,hc,hl⟩ hno
    obtain⟨u,hu,huc,hul⟩:=hex;have hne:=Jt hlow h1 0 (Nat.zero_le _) (fun i hi=>by omega) ⟨u,hu,hul⟩;refine⟨fun h0=>?_,fun i hi=>?_⟩
    ·obtain⟨i,hi⟩:=hne;rw[h0] at hi;cases hi
    ·obtain⟨-,o,ho,-⟩:=mem_ready.1 hi;have hio:i<ops.size:=(Array.getElem?_eq_some_iff.1 ho).1
     have hsi:soft.contains i=false:=by
      cases hc:soft.contains i with
      | false=>rfl
      | true=>exact absurd ⟨i,hc,hi⟩ hsr
     have hic:late.contains i=false:=by
      cases hc:late.contains i with
      | false=>rfl
      | true =>
       exfalso
       have hw:=List.all_eq_true.1 hlate u (by simpa using hu);rw[huc,Bool.false_or] at hw
       rcases (by simpa using hw:soft.contains u=true\/yP ops late u=true) with hs|hs
       ·have hsb:=List.all_eq_true.1 hsoft u (by simpa using hs);rw[Bool.and_eq_true] at hsb;have hpr:=List.all_eq_true.1 hsb.2;refine hsr ⟨u,hs,mem_ready.2 ⟨?_,ops[u],by simp[hu],fun e he hb=>?_⟩⟩
        ·have:u<listed.size:=by omega
         simp[this] at hul ⊢;exact hul
        ·have h8:=hpr e.on (by
          unfold ji;rw[Array.getElem?_eq_getElem hu];simp only[List.mem_map,List.mem_filter]
          exact⟨e,⟨by simpa using he,hb⟩,rfl⟩)
         exact jo h8 h2 hi hc
       ·have:=jo hs h2 hi hc;rw[hul] at this;cases this
     have ho':ops.toList[i]?=some o:=by rw[Array.getElem?_toList];exact ho
     refine wpOp_step ho (fun K' hK=>?_);exact hstep i hio hic hsi o ho' _ w h5 (fun t ht=>Zf (by rw[<-hd];simp) h3 vals a0 ht) (hfacts i hi) K' (fun v w' e hJ=>hK _ _ ⟨fun _ _=>trivial,hnext i hi hic o ho' v w' e hJ⟩)
theorem Yz (Js:List Mn) (ds:List (Option Tmp)) (late soft:List Nat) (bs:List Bool) (k:Nat){id:Nat}{a0:Act}{W:World}(hm:P.follows .mixedOrders=true) (hd:ops.toList.map (·.dst)=ds) (hnd:nodupB ds=true) (hsz:q0c ds a0.tmps.size=true) (hlow:q5P ops=true) (hlate:q5Q ops late soft=true) (hsoft:q5k ops late soft=true) (hns:Region.noSelect ops=true)
  (hb:lastB ops late=bs) (hk:cnt bs.toArray ops.size=k) (hstep:∀i,i<ops.size->late.contains i=false->soft.contains i=false->Stp P ops Q late Js ds a0 W i) (hsft:∀i,soft.contains i=true->Sft P ops Q Js ds a0 W i)
  (hdone:∀vals w,Ext W w->(∀j,j<ops.size->late.contains j=false->(Js[j]?.getD Mn.any).p (vals j) w)->xx P ops Q (fun _=>True) late k bs.toArray (qH ds bs vals 0 a0) w) :
  (Code.region id ops true).wp P Q a0 W:=by
 subst hb
 have h0:∀n,qH ds (Array.replicate n false).toList (fun _=>undef) 0 a0=a0:=by
  intro n;simp only[Array.toList_replicate]
  have:∀(ds:List (Option Tmp)) (n k:Nat),qH ds (List.replicate n false) (fun _=>undef) k a0=a0:=by
   intro ds
   induction ds with
   | nil=>intro n k;unfold qH;rfl
   | cons d ds ih =>
    intro n k;cases n with
    | zero=>rfl
    | succ n=>exact ih n (k+1)
  exact this ds n 0
 have hc0:∀(n:Nat) (l:Array Bool),cnt l n<=n:=by
  intro n l
  induction n with
  | zero=>exact q_r
  | succ n ih=>unfold cnt;split<;>omega
 have hf0:∀j,(Array.replicate ops.size false).getD j false=false:=fun j=>by
  rw[Array.getD_eq_getD_getElem?,Array.getElem?_replicate];split<;>rfl
 have:=q5T (P:=P) (Q:=Q) (late:=late) hd hnd hsz hlow hlate hsoft hns hstep hsft hk hdone ops.size (Array.replicate ops.size false) (fun _=>undef) W.drew (by simp) (Closed.start _) (fun t _ _=>hf0 t) (hc0 _ _) (Ext.refl W).drew (fun j hj=>by rw[hf0 j] at hj;cases hj);rw[h0] at this;exact wp_region_any hm (jy _ _ _ _ this)
theorem q6W (Js:List Mn) (ds:List (Option Tmp)) (late soft:List Nat) (bs:List Bool) (k:Nat){id:Nat}{a0:Act}{W:World}(h:(P.follows .mixedOrders&&(decide (ops.toList.map (·.dst)=ds)&&(nodupB ds&&(q0c ds a0.tmps.size&&(q5P ops&&(q5Q ops late soft&&(q5k ops late soft&&(Region.noSelect ops&&(decide (lastB ops late=bs)&&decide (cnt bs.toArray ops.size=k))))))))))=true) (hstep:∀i,i<ops.size->late.contains i=false->soft.contains i=false->Stp P ops Q late Js ds a0 W i) (hsft:∀i,soft.contains i=true->Sft P ops Q Js ds a0 W i)
  (hdone:∀vals w,Ext W w->(∀j,j<ops.size->late.contains j=false->(Js[j]?.getD Mn.any).p (vals j) w)->xx P ops Q (fun _=>True) late k bs.toArray (qH ds bs vals 0 a0) w) :
  (Code.region id ops true).wp P Q a0 W:=by
 simp only[Bool.and_eq_true,decide_eq_true_eq] at h;obtain⟨h1,h2,h3,h4,h5,h6,h7,h8,h9,h10⟩:=h;exact Yz Js ds late soft bs k h1 h2 h3 h4 h5 h6 h7 h8 h9 h10 hstep hsft hdone
end
end Go.Proofs.YtpkmjhmmmdkodaaGreat
