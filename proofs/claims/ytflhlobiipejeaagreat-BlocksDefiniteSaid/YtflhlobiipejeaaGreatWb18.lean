import Derived.Test.YtflhlobiipejeaaGreatWb17
import Derived.Shelf.Bits.Mul64
import Derived.Laws.IdiomCopy
import Derived.MapKept
import Derived.ChangeKeysEq
import Derived.DeepKeys3
set_option linter.all false
set_option maxHeartbeats 8000000
set_option maxRecDepth 100000
namespace Go.Proofs.YtflhlobiipejeaaGreat
variable {w w':World} {N n lo hi k g m base c b j K:Nat} {v s:Value} {z:Int} {R:Raw} {A:Option Addr}
section
open Go.RowKit
def kT (n:Nat) (p:Nat->Bool):Bool:=(List.range n).any p
theorem yw{p:Nat->Bool}{i:Nat}(hi:i<n) (h:p i=true):kT n p=true:=by
 unfold kT;rw[List.any_eq_true];exact⟨i,List.mem_range.2 hi,h⟩
theorem qZ{p:Nat->Bool}:kT n p=false↔∀i,i<n->p i=false:=by simp[kT]
theorem q0x (n:Nat) (p:Nat->Bool):(!kT n (fun i=>!p i))=allB n p:=by
 cases h:allB n p with
 | true =>
  have:kT n (fun i=>!p i)=false:=qZ.2 (fun i hi=>by rw[qm.1 h i hi];rfl);rw[this];rfl
 | false =>
  cases h2:kT n (fun i=>!p i) with
  | true=>rfl
  | false =>
   have:allB n p=true:=qm.2 (fun i hi=>by have:=qZ.1 h2 i hi;simpa using this);rw[this] at h;cases h
def q0B (w:World) (r:Bool) (e:Ending) (w':World):Prop:=∃z:Int,e=.returned (.int .i64 z)/\Hid (r=decide (0<=z))/\Ext w w'
theorem q0H{R:Nat->Raw}(h:LsR N lo hi w v n R)  (g:Nat->Bool)
  (hf:∀i,i<n->∀w' u,Ext w w'->KL N w' u (R i)->Calls Tryz.prog 181 #[u] w' (zH w' (.bool (g i)))) :
  Calls Tryz.prog 133 #[v,.func (.func 181) #[] #[]] w (q0B w (kT n g)):=by
 obtain⟨r,hr⟩:=qc (kT n g);rw[<-hr.out];obtain⟨A,c,rfl,hnc,hcm⟩:=h.form;unfold maxLen at hcm;have hI:=h;have HF:=q_h hf;clear h hf;go_enter Tryz.func133,Tryz.ntmps133;go_wp2
 go_loopw [8] (fun i wr=>∃k:Nat,k<=n/\i=.int .i64 k/\Hid (∀j,j<k->g j=false)/\Ext w wr) (fun i _=>n-(intOf i).toNat)
 case atStart=>exact⟨0,Nat.zero_le _,rfl,fun j hj=>absurd hj (by omega),Ext.refl w⟩
 case round =>
  obtain⟨k,hk,rfl,HA,hE⟩:=hrel
  by_cases hlt:k<n
  ·(obtain⟨b,off,rfl,-,-,hx⟩:=(hI.ext hE).addr (by omega));(obtain⟨A1,n1,c1,A2,n2,c2,p0,p1,p2,p3,hv⟩:=(hx k hlt).val)
   clear hx;go_wp2_with (go_at_call 181;refine q_o ?_);refine (HF.out k hlt _ _ hE hv).mono ?_;rintro e w1 ⟨rfl,e1⟩;replace hE:=hE.trans e1;obtain⟨o,ho⟩:=qc (g k);rw[<-ho.out];cases o with
   | false =>
    go_wp2;go_roundw
    case rel=>exact⟨k+1,by omega,by go_num,xn (p:=fun j=>g j=false) HA.out ho.out.symm,hE⟩
    case measure=>simp[intOf];omega
   | true =>
    have HT:Hid (r=true):=by rw[Hid,hr.out];exact yw hlt ho.out.symm
    go_wp2;go_ret;exact⟨_,rfl,by rw[Hid,HT.out];symm;simp,hE⟩
  ·have HT:Hid (r=false):=by rw[Hid,hr.out];exact qZ.2 (fun j hj=>HA.out j (by omega))
   go_wp2;go_ret;exact⟨_,rfl,by rw[Hid,HT.out];rfl,hE⟩
theorem q1L{R:Nat->Raw}(h:LsR N lo hi w v n R)  (g:Nat->Bool)
  (hf:∀i,i<n->∀w' u,Ext w w'->KL N w' u (R i)->Calls Tryz.prog 181 #[u] w' (zH w' (.bool (g i)))) :
  Calls Tryz.prog 104 #[v,.func (.func 181) #[] #[]] w (zH w (.bool (kT n g))):=by
 obtain⟨r,hr⟩:=qc (kT n g);rw[<-hr.out];obtain⟨A,c,rfl,hnc,hcm⟩:=h.form;have hI:=h;have HF:=q_h hf;clear h hf;go_enter Tryz.func104,Tryz.ntmps104;go_wp2_with (go_at_call 133;refine q_o ?_);refine (q0H hI  g HF.out).mono ?_;rintro e w1 ⟨z,rfl,hz,e1⟩;rw[<-hr.out] at hz;go_wp2;go_ret;exact⟨qB hz.out.symm,e1⟩
theorem q0G{L:Nat->Nat}{R:Nat->Nat->Raw}(h:MtR N lo hi w v n L R) (gb:Nat) (g:Nat->Bool)
  (hf:∀i,i<n->∀w' u,Ext w w'->LsR N lo hi w' u (L i) (R i)->Calls Tryz.prog 158 #[u,.pointer (some ⟨gb,0,none⟩)] w' (zH w' (.bool (g i)))) :
  Calls Tryz.prog 180 #[v,.func (.func 158) #[] #[.pointer (some ⟨gb,0,none⟩)]] w (q0B w (kT n g)):=by
 obtain⟨r,hr⟩:=qc (kT n g);rw[<-hr.out];obtain⟨A,c,rfl,hnc,hcm⟩:=h.form;unfold maxLen at hcm;have hI:=h;have HF:=q_h hf;clear h hf;go_enter Tryz.func180,Tryz.ntmps180;go_wp2
 go_loopw [8] (fun i wr=>∃k:Nat,k<=n/\i=.int .i64 k/\Hid (∀j,j<k->g j=false)/\Ext w wr) (fun i _=>n-(intOf i).toNat)
 case atStart=>exact⟨0,Nat.zero_le _,rfl,fun j hj=>absurd hj (by omega),Ext.refl w⟩
 case round =>
  obtain⟨k,hk,rfl,HA,hE⟩:=hrel
  by_cases hlt:k<n
  ·(obtain⟨b,off,rfl,-,-,hx⟩:=(hI.ext hE).addr (by omega));(obtain⟨A1,c1,p0,-,-,hv⟩:=hx k hlt)
   clear hx;go_wp2_with (go_at_call 158;refine q_o ?_);refine (HF.out k hlt _ _ hE hv).mono ?_;rintro e w1 ⟨rfl,e1⟩;replace hE:=hE.trans e1;obtain⟨o,ho⟩:=qc (g k);rw[<-ho.out];cases o with
   | false =>
    go_wp2;go_roundw
    case rel=>exact⟨k+1,by omega,by go_num,xn (p:=fun j=>g j=false) HA.out ho.out.symm,hE⟩
    case measure=>simp[intOf];omega
   | true =>
    have HT:Hid (r=true):=by rw[Hid,hr.out];exact yw hlt ho.out.symm
    go_wp2;go_ret;exact⟨_,rfl,by rw[Hid,HT.out];symm;simp,hE⟩
  ·have HT:Hid (r=false):=by rw[Hid,hr.out];exact qZ.2 (fun j hj=>HA.out j (by omega))
   go_wp2;go_ret;exact⟨_,rfl,by rw[Hid,HT.out];rfl,hE⟩
theorem q1K{L:Nat->Nat}{R:Nat->Nat->Raw}(h:MtR N lo hi w v n L R) (gb:Nat) (g:Nat->Bool)
  (hf:∀i,i<n->∀w' u,Ext w w'->LsR N lo hi w' u (L i) (R i)->Calls Tryz.prog 158 #[u,.pointer (some ⟨gb,0,none⟩)] w' (zH w' (.bool (g i)))) :
  Calls Tryz.prog 157 #[v,.func (.func 158) #[] #[.pointer (some ⟨gb,0,none⟩)]] w (zH w (.bool (kT n g))):=by
 obtain⟨r,hr⟩:=qc (kT n g);rw[<-hr.out];obtain⟨A,c,rfl,hnc,hcm⟩:=h.form;have hI:=h;have HF:=q_h hf;clear h hf;go_enter Tryz.func157,Tryz.ntmps157;go_wp2_with (go_at_call 180;refine q_o ?_);refine (q0G hI gb g HF.out).mono ?_;rintro e w1 ⟨z,rfl,hz,e1⟩;rw[<-hr.out] at hz;go_wp2;go_ret;exact⟨qB hz.out.symm,e1⟩
theorem q55(h:KL N w v R) (hs:jJ R) :
  Calls Tryz.prog 181 #[v] w (zH w (.bool (!okR R))):=by
 obtain⟨A1,n1,c1,A2,n2,c2,rfl,g1,g2⟩:=h.parts;obtain⟨r,hr⟩:=qc (okR R);rw[<-hr.out];have hI:=h;clear g1 g2 h;go_enter Tryz.func181,Tryz.ntmps181;go_wp2_with (go_at_call 121;refine q_o ?_);refine qW ?_;intro W hE hsz B0;refine (VN (hI.ext hE) hs.1 hs.2).mono ?_;rintro e w1 ⟨rfl,e1⟩;rw[<-hr.out];go_wp2;go_ret;exact⟨rfl,hE.trans e1⟩
theorem Sz.raw {q:Rat}(h:Sz q):jJ (raw q):=by
 exact⟨q_l h.1 (by omega),q_l h.2 (by omega)⟩
theorem Vx{R:Nat->Raw}(h:LsR N lo hi w v n R) (hs:∀i,i<n->jJ (R i)) :
  Calls Tryz.prog 159 #[v] w (zH w (.bool (allB n (fun i=>okR (R i))))):=by
 obtain⟨r,hr⟩:=qc (allB n (fun i=>okR (R i)));rw[<-hr.out];obtain⟨A,c,rfl,hnc,hcm⟩:=h.form;unfold maxLen at hcm;have hI:=h;have HS:=q_h hs;clear h hs;have HR:Hid (r=!kT n (fun i=>!okR (R i))):=by rw[Hid,hr.out,q0x]
 obtain⟨s,hs⟩:=qc (kT n (fun i=>!okR (R i)));rw[<-hs.out] at HR;go_enter Tryz.func159,Tryz.ntmps159;go_wp2_with (go_at_call 104;refine q_o ?_);refine (q1L hI (fun i=>!okR (R i)) (fun i hi w' u e hu=>q55 hu (HS.out i hi))).mono ?_;rintro e w1 ⟨rfl,e1⟩;rw[<-hs.out];go_wp2;go_ret;exact⟨qB HR.out.symm,e1⟩
theorem YB{x:q_v}(h:LsV N lo hi w v n x) (hs:∀i,i<n->Sz (x i)) :
  Calls Tryz.prog 159 #[v] w (zH w (.bool true)):=by
 have h9:allB n (fun i=>okR (raw (x i)))=true:=qm.2 (fun i _=>ja _);have h8:=Vx h (fun i hi=>(hs i hi).raw);rw[h9] at h8;exact h8
theorem q54 {lo' hi':Nat}{u:Value}{gb:Nat}{X:q_m}{x:q_v}(hb:w.cell? ⟨gb,0,none⟩=some (.slice A m c)) (h:MtV N lo hi w (.slice A m c) m n X) (h':LsV N lo' hi' w u n x) (hm0:0<m) (hs:∀i,i<n->Sz (x i)) :
  Calls Tryz.prog 158 #[u,.pointer (some ⟨gb,0,none⟩)] w (zH w (.bool false)):=by
 obtain⟨b,off,rfl,-,-,hx⟩:=h.addr (by omega);obtain⟨A0,c0,o0,hc0,hm0',-⟩:=hx 0 (by omega);rw[Nat.add_zero] at o0;obtain⟨A1,c1,rfl,hn1,hm1⟩:=h'.form;unfold maxLen at hm0' hm1;have hI:=h';have HS:=q_h hs;have t1:((n:Int) != (n:Int))=false:=by simp
 clear h h' hx hs;go_enter Tryz.func158,Tryz.ntmps158;go_wp2_with (go_at_call 159;refine q_o ?_);refine (YB hI HS.out).mono ?_;rintro e w1 ⟨rfl,e1⟩;go_wp2;go_ret;exact⟨rfl,e1⟩
theorem Je{X:q_m}(h:MtV N lo hi w v m n X) (hm0:0<m) (hm:m<=64) (hn0:0<n) (hn:n<=64) (hs:∀i,i<m->∀j,j<n->Sz (X i j)) :
  Calls Tryz.prog 124 #[v] w (zH w (.int .i64 0)):=by
 obtain⟨A,c,rfl,hmc,hcm⟩:=h.form;have hI:=h;obtain⟨b,off,rfl,-,-,hx⟩:=h.addr hm0;obtain⟨A0,c0,o0,hc0,hm0',-⟩:=hx 0 (by omega);rw[Nat.add_zero] at o0;unfold maxLen at hm0' hcm;have HS:=q_h hs;have HF:Hid (kT m (fun _=>false)=false):=qZ.2 (fun _ _=>rfl);clear h hx hs;go_enter Tryz.func124,Tryz.ntmps124;go_upto_region 1 with (fail);refine qo ?_;intro W hE hsz B0;obtain⟨a0,-⟩:=zG B0;replace o0:=hE.cell o0;go_wp2_with (go_at_call 157;refine q_o ?_);refine (q1K (hI.ext hE) _ (fun _=>false) (fun i hi w' u e hu=>q54 (e.cell a0) (hI.ext (hE.trans e)) hu hm0 (HS.out i hi))).mono ?_;rintro e w1 ⟨rfl,e1⟩;rw[HF.out];go_wp2;go_ret;exact⟨rfl,hE.trans e1⟩
theorem q51{X:q_m}(h:MtV N lo hi w v n n X) (hn0:0<n) (hn:n<=64) (hs:∀i,i<n->∀j,j<n->Sz (X i j)) :
  Calls Tryz.prog 91 #[v] w (zH w (.int .i64 0)):=by
 obtain⟨A,c,rfl,hmc,hcm⟩:=h.form;have hI:=h;obtain⟨b,off,rfl,-,-,hx⟩:=h.addr hn0;obtain⟨A0,c0,o0,hc0,hm0',-⟩:=hx 0 (by omega);rw[Nat.add_zero] at o0;unfold maxLen at hm0' hcm;have HS:=q_h hs;have t1:((n:Int) != (n:Int))=false:=by simp
 clear h hx hs;go_enter Tryz.func91,Tryz.ntmps91;go_wp2_with (go_at_call 124;refine q_o ?_);refine (Je hI hn0 hn hn0 hn HS.out).mono ?_;rintro e w1 ⟨rfl,e1⟩;replace o0:=e1.cell o0;go_wp2;go_ret;exact⟨rfl,e1⟩
end
section
def Qh (n:Nat) (X:q_m) (i:Nat):Nat->Rat:=cat n (X i) (dlt i)
theorem q05 {q:Nat}{X:q_m}(h:HtM n n q X):HtM n (n+n) (q+1) (Qh n X):=by
 intro i hi j hj;unfold Qh cat
 split
 ·exact (h i hi j (by assumption)).mono (by omega)
 ·unfold dlt;split
  ·exact Ht.one.mono (by omega)
  ·exact Ht.zero.mono (by omega)
def x8 (r:Nat) (K:q_m) (i j:Nat):Rat:=(zI r (Qh r K) r).1 i (r+j)
theorem Ko (r:Nat) (K:q_m):Qh r K=zg r K:=by funext i c;rfl
end
section
open Go.RowKit
def q6x (N:Nat) (w:World) (n:Nat) (M:q_m) (p:List Nat) (e:Ending) (w':World):Prop :=
 Ext w w'/\((p.length<n/\e=.returned (.tuple #[.slice none 0 0,.int .i64 14]))\/(n<=p.length/\∃h cap β κ,e=.returned (.tuple #[.slice (some ⟨h,0,none⟩) n cap,.int .i64 0])/\cap<=maxLen/\qU N w.heap.size w'.heap.size w' h cap n n β κ (fun i j=>M i (n+j))))
theorem YA{X:q_m}(h:MtV N lo hi w v n n X) (hn0:0<n) (hn:n<=64)
  {q:Nat}(hq:HtM n n q X) (hK:5*(5 ^ n*(q+1))<=29000000000) :
  Calls Tryz.prog 49 #[v] w (q6x N w n (zI n (Qh n X) n).1 (zI n (Qh n X) n).2):=by
 obtain⟨Rf,hRf⟩:=qc (q6x N w n (zI n (Qh n X) n).1 (zI n (Qh n X) n).2);rw[<-hRf.out];have hN:=h.le;obtain⟨A,c,rfl,hmc,hcm⟩:=h.form;unfold maxLen at hcm;have hI:=h;have hq1:q+1<=5 ^ n*(q+1):=Nat.le_mul_of_pos_left _ (Nat.pow_pos (by omega));have HS:Hid (∀i,i<n->∀j,j<n->Sz (X i j)):=fun i hi j hj=>(hq i hi j hj).sz (by omega)
 have HQ:=q_h (q05 hq);have HK:=q_h hK;have hw1:IntKind.i64.wrap ((n:Int)+(n:Int))=(n:Int)+(n:Int):=IntWalk.i64_in _ (by omega);clear h hq hK hq1;go_enter Tryz.func49,Tryz.ntmps49;go_wp2_with (go_at_call 91;refine q_o ?_);refine (q51 hI hn0 hn HS.out).mono ?_;rintro e w1 ⟨rfl,hE⟩;go_upto_region 5 with (fail);refine qo ?_;intro W e1 hsz B0;have hgn1:w.heap.size<=w1.heap.size:=hE.size;replace hE:=hE.trans e1;obtain⟨gn,hgn⟩:∃gn,gn=w1.heap.size:=⟨_,rfl⟩
 rw[<-hgn] at B0 hgn1 hsz ⊢;clear e1 hgn;obtain⟨a0,-⟩:=zG B0;go_wp2_with (go_at_call 93;refine q_o ?_);refine (Vw (N:=N) (by omega) n n rfl rfl (by omega) (by omega) (fun i=>dlt i) (fun i hi j hj w' e=>q8I (by have:=e.size;omega) i j (by omega) (by omega))).mono ?_;intro e w2 hh;obtain⟨A2,c2,rfl,h2,e2⟩:=hh.mt;replace hE:=hE.trans e2;replace a0:=e2.cell a0;replace B0:=e2.block B0;have hs2:=e2.size;clear e2;go_wp2_with (go_at_call 92;refine q_o ?_);refine (q56 (hI.ext hE) h2 hn0 (by omega) (by omega) (by omega)).mono ?_;rintro e w3 ⟨h3,cap3,β3,κ3,rfl,hcap3,ho3,e3⟩;replace hE:=hE.trans e3;replace a0:=e3.cell a0;replace B0:=e3.block B0;have hs3:=e3.size;replace ho3:qU N w2.heap.size w3.heap.size w3 h3 cap3 n (n+n) β3 κ3 (Qh n X):=ho3;clear e3 h2;go_upto_region 6 with (fail);refine qo ?_;intro w4 e4 hsz4 B4;replace hE:=hE.trans e4;replace a0:=e4.cell a0;replace B0:=e4.block B0;replace ho3:=ho3.ext e4;obtain⟨b0,-⟩:=zG B4;have l4:=cell_lt b0;simp only at l4;have l0:=cell_lt a0;simp only at l0;clear e4;obtain⟨M,hM⟩:=qc (zI n (Qh n X) n).1;obtain⟨p,hp⟩:=qc (zI n (Qh n X) n).2;rw[<-hM.out,<-hp.out] at hRf;have eC:=(Ext.refl w4).drew;refine qw (fun w'=>w'.cell? ⟨gn,0,none⟩=some (.int .i64 (n:Int))/\w'.cell? ⟨w3.heap.size,0,none⟩=some (.slice (some ⟨h3,0,none⟩) n cap3)) [] (by kernel_rfl) (by exact⟨eC.cell a0,eC.cell b0⟩) (fun hHeld=>?_)
 refine sT 0 (h:=?_);refine sT 1 (h:=?_);refine sT 4 (h:=?_);refine qp (i:=2) rfl (by kernel_rfl) (fun K hK=>?_);go_simp;refine (q52 (ho3.ext eC) (by omega) (by omega) n rfl (by omega) HQ.out (P:=n) (.inl (q_r)) HK.out).mono ?_;rintro e w5 ⟨β5,κ5,A5,c5,rfl,ho5,hi5,C5⟩;have hE5:Ext w w5:=C5.ext (hE.trans eC) (by omega);replace B0:=C5.blk (eC.block B0) (.inl (by omega));replace B4:=C5.blk (eC.block B4) (.inr (q_r));replace a0:=C5.cell (eC.cell a0) (.inl (show gn<w2.heap.size by omega));replace b0:=C5.cell (eC.cell b0) (.inr (q_r));replace eC:=Ext.refl w5;rw[<-hp.out] at hi5 ⊢;rw[<-hM.out] at ho5;go_wp2_with fail;clear hHeld;refine hK.out _ _ (by exact⟨eC.cell a0,eC.cell b0⟩) fun hHeld=>?_
 clear hK K;try simp only[nr]
 refine sP 3 (h:=?_);refine sP 5 (h:=?_);refine qg (by kernel_rfl) ?_ _;clear hHeld;have hs5:w4.heap.size<=w5.heap.size:=C5.size
 by_cases hlt:p.length<n
 ·have hd:decide (p.length<n)=true:=q_t hlt;clear a0 b0 hw1;rw[hd];go_wp2;rw[hRf.out];exact⟨hE5,.inl ⟨hlt,rfl⟩⟩
 ·have hd:decide (p.length<n)=false:=q_f hlt;have hmt:=ho5.mtv ho5.mle hcap3;rw[hd];go_wp2_with (go_at_call 93;refine q_o ?_);refine (KF (N:=N) (by omega) n n rfl rfl (by omega) (by omega) (fun i j=>M i (n+j)) (fun i hi j hj w' e=>q0Y (e.cell b0) (e.cell a0) (hmt.ext e) hi (by omega) (by omega) (by omega))).mono ?_;rintro e w6 ⟨h6,cap6,β6,κ6,rfl,hcap6,ho6,e6⟩;have hs6:=e6.size;clear a0 b0 hw1;go_wp2;rw[hRf.out];exact⟨hE5.trans e6,.inr ⟨by omega,h6,cap6,β6,κ6,rfl,hcap6,ho6.wide (by omega) hN (q_r) (q_r)⟩⟩
theorem JS (g:Nat):∀(vs:List Value) (o:Nat) (w w':World),Upd g w w'->Upd g w (w'.setCells g o vs)
 | [],_,_,_,h=>h
 | v :: r,o,w,w',h=>JS g r (o+1) w _ (h.set o v)
theorem YV (g:Nat) (t:TypeId) (fr:Nat×Nat):∀(vs:List Value) (o:Nat) (cs:Array Value) (w:World),w.heap[g]?=some (.cells cs t fr)->∃cs',(w.setCells g o vs).heap[g]?=some (.cells cs' t fr)/\cs'.size=cs.size
 | [],_,cs,_,h=>⟨cs,h,rfl⟩
 | v :: r,o,cs,w,h=>by
  obtain⟨cs',h1,h2⟩:=YV g t fr r (o+1) _ (w.setCell ⟨g,o,none⟩ v) (heap_set h o v);exact⟨cs',h1,by rw[h2];simp⟩
theorem Qc (b o j:Nat):(⟨b,o,none⟩:Addr).add j=⟨b,o+j,none⟩:=by unfold Addr.add;split<;>simp_all
theorem At4.one{o:Nat}(h:At4 N w b o R){r:Nat}(hr:r<4):∃v,w.cell? ⟨b,o+r,none⟩=some v/\v.oneCell'=true:=by
 obtain⟨A,n,c,A',n',c',h0,h1,h2,h3,-⟩:=h.val;have hr':r=0\/r=1\/r=2\/r=3:=by omega
 rcases hr' with rfl|rfl|rfl|rfl
 ·exact⟨_,h0,rfl⟩
 ·exact⟨_,h1,rfl⟩
 ·exact⟨_,h2,rfl⟩
 ·exact⟨_,h3,rfl⟩
structure One (ET:TypeId) (z0:Value) (bz:Nat):Prop where
 inf:(Tryz.prog.info? ET).map (fun i=>(i.zero,i.size,i.bytes))=some (some z0,1,bz)
 cells:z0.cells.size=1
 le:bz<=24
 ne:ET≠119
def qO (ET:TypeId) (base:Nat) (w:World) (v:Value) (xs:List Value):Prop:=base<=w.heap.size/\w.ownsRow base ET 1 v xs.length xs
section
variable {ET:TypeId}{base:Nat}{w w':World}{v:Value}{xs:List Value}
theorem qO.nil (h:base<=w.heap.size):qO ET base w (.slice none 0 0) []:=⟨h,by simp,.inl ⟨rfl,rfl⟩⟩
theorem qO.empty(hb:base<=g) (h:w.heap[g]?=some (.cells #[] ET (0,0))):qO ET base w (.slice (some ⟨g,0,none⟩) 0 0) [] :=
 ⟨by have:=qF h;omega,by simp,.inr ⟨g,0,#[],rfl,hb,h,q_r,Nat.zero_le _,rfl,rfl⟩⟩
theorem qO.ext (h:qO ET base w v xs) (e:Ext w w'):qO ET base w' v xs:=by
 refine⟨q_l h.1 e.size,h.2.1,?_⟩
 rcases h.2.2 with h0|⟨g,cap,cur,hv,hb,hh,h1,h2,h3,h4⟩
 ·exact .inl h0
 ·exact .inr ⟨g,cap,cur,hv,hb,e.block hh,h1,h2,h3,h4⟩
theorem qO.chg {l u:Nat}(h:qO ET base w v xs) (c:Chg l u w w') (hd:u<=base):qO ET base w' v xs:=by
 refine⟨q_l h.1 c.size,h.2.1,?_⟩
 rcases h.2.2 with h0|⟨g,cap,cur,hv,hb,hh,h1,h2,h3,h4⟩
 ·exact .inl h0
 ·exact .inr ⟨g,cap,cur,hv,hb,c.blk hh (by omega),h1,h2,h3,h4⟩
theorem qO.far {l u:Nat}(h:qO ET base w v xs) (c:Chg l u w w') (hd:∀k,v.ownBlock=some k->k<l\/u<=k):qO ET base w' v xs:=by
 refine⟨q_l h.1 c.size,h.2.1,?_⟩
 rcases h.2.2 with h0|⟨g,cap,cur,rfl,hb,hh,h1,h2,h3,h4⟩
 ·exact .inl h0
 ·exact .inr ⟨g,cap,cur,rfl,hb,c.blk hh (hd g rfl),h1,h2,h3,h4⟩
theorem qO.own_lt (h:qO ET base w v xs):∀k,v.ownBlock=some k->base<=k/\k<w.heap.size:=by
 rcases h.2.2 with ⟨rfl,h0⟩|⟨g,cap,cur,rfl,hb,hh,-⟩
 ·intro k hk;simp[Value.ownBlock] at hk
 ·intro k hk;obtain rfl:g=k:=by simpa[Value.ownBlock] using hk
  exact⟨hb,qF hh⟩
theorem qO.at_ (h:qO ET base w v xs) (hn:0<xs.length):∃g cap,v=.slice (some ⟨g,0,none⟩) xs.length cap/\base<=g/\g<w.heap.size/\cap<=maxLen/\xs.length<=cap/\(∃cs,w.heap[g]?=some (.cells cs ET (0,0))/\cs.size=cap)/\∀j (hj:j<xs.length),w.cell? ⟨g,j,none⟩=some xs[j]:=by
 rcases h.2.2 with ⟨-,h⟩|⟨g,cap,cur,hv,hb,hg,hnc,hcm,hcs,htk⟩
 ·omega
 ·refine⟨g,cap,hv,hb,qF hg,hcm,hnc,⟨cur,hg,by omega⟩,fun j hj=>?_⟩;rw[qh hg];have h9:(cur.toList.take (xs.length*1))[j]?=some xs[j]:=by rw[htk];exact List.getElem?_eq_getElem hj
  rw[List.getElem?_take] at h9;rw[if_pos (by omega)] at h9;simpa using h9
theorem Y8 {z0:Value}{bz:Nat}(ho:One ET z0 bz) (t ty:TypeId) (ht:Tryz.prog.underlying t=some (.slice ET)) (h:qO ET base w v xs){off:Nat}{news:List Value}(hl:news.length=m)
  (hnews:∀j u,news[j]?=some u->w.cell? ⟨b,off+j,none⟩=some u) (h1:∀u∈news,u.oneCell'=true) (hm:0<m) (hn:xs.length+m<=1000000000) :
  ∃g cap w',(Builtin.append_ #[t,t] ty #[v,.slice (some ⟨b,off,none⟩) m c]).run Tryz.prog w=.ok (.slice (some ⟨g,0,none⟩) (xs.length+m) cap) w'/\qO ET base w' (.slice (some ⟨g,0,none⟩) (xs.length+m) cap) (xs++news)/\(v.ownBlock=some g\/g=w.heap.size) /\
   (∃g',base<=g'/\(v.ownBlock=some g'\/g'=w.heap.size)/\Chg g' (g'+1) w w'/\NoU w g'):=by
 obtain⟨i0,hi0,hz0,hz1,hz2⟩:=info_parts ho.inf;obtain⟨hb0,hown⟩:=h;have hle:=ho.le
 obtain⟨g,cap,w',hrun,hO,hgr,hat,hlt⟩:=run_append_lies (P:=Tryz.prog) w t ty base ET i0 _ 1 bz ht hi0 hz0 hz1 hz2 ho.cells (by omega) v xs.length xs hown ⟨b,off,none⟩ m c news (by omega)
  (fun j u hj=>by rw[jH];exact hnews j u hj) h1 hm (by unfold maxLen;omega)
  (q_l (Nat.mul_le_mul hn ho.le) (by decide)) hb0 w.heap.size rfl
 refine⟨g,cap,w',hrun,⟨q_l hb0 hgr.size,?_⟩,hat,?_⟩
 ·rw[List.length_append,hl];exact hO
 ·have hT:NoU w w.heap.size:=fun cs fr h=>by rw[Array.getElem?_eq_none (q_r)] at h;cases h
  rcases hown.2 with ⟨rfl,h0⟩|⟨g0,cap0,cur,rfl,hbb,hh,_⟩
  ·exact⟨w.heap.size,hb0,.inr rfl,zT hgr (fun k hk=>by simp[Value.ownBlock] at hk) hT,hT⟩
  ·have hT0:NoU w g0:=NoU.mk hh ho.ne;exact⟨g0,hbb,.inl rfl,zT hgr (fun k hk=>by simpa[Value.ownBlock] using hk.symm) hT0,hT0⟩
end
theorem Zi {ET:TypeId}{xs:List Value}{z0:Value}{bz:Nat}(h0:One ET z0 bz){o:Oper}{a:Act}{K:Act->World->Prop}{Q:Exit->Act->World->Prop}(s x:Operand) (t:TypeId) (ht:Tryz.prog.underlying t=some (.slice ET))
  (ho:o.op=.call { callee:=.builtin .append,args:=#[s,x],argTypes:=#[t,t] }) (hs:a.eval s=v) (h:qO ET base w v xs){off:Nat}{news:List Value}(hx:a.eval x=.slice (some ⟨b,off,none⟩) m c) (hl:news.length=m)
  (hnews:∀j u,news[j]?=some u->w.cell? ⟨b,off+j,none⟩=some u) (h1:∀u∈news,u.oneCell'=true) (hm:0<m) (hn:xs.length+m<=1000000000)
  (hK:∀g cap w',qO ET base w' (.slice (some ⟨g,0,none⟩) (xs.length+m) cap) (xs++news)->(v.ownBlock=some g\/g=w.heap.size)->(∃g',base<=g'/\(v.ownBlock=some g'\/g'=w.heap.size)/\Chg g' (g'+1) w w'/\NoU w g')->K (a.put o.dst (.slice (some ⟨g,0,none⟩) (xs.length+m) cap)) w'):o.wp Tryz.prog a w K Q:=by
 obtain⟨g,cap,w',hrun,h2,h3,h4⟩:=Y8 h0 t o.type ht h hl hnews h1 hm hn (c:=c);unfold Oper.wp execOp;simp only[ho,resolve,invoke,builtin,Sem.run_bind,Sem.run_pure,Result.andThen_ok,List.map_toArray,List.map_cons,List.map_nil,hs,hx,hrun];exact hK g cap w' h2 h3 h4
theorem zB {ET:TypeId}{xs:List Value}{z0:Value}{bz:Nat}(h0:One ET z0 bz){ops:Array Oper}{rest:List Oper}{o:Oper}{a:Act}{Q:Exit->Act->World->Prop}(hgd:o.guard=none) (s x:Operand) (t:TypeId) (ht:Tryz.prog.underlying t=some (.slice ET))
  (ho:o.op=.call { callee:=.builtin .append,args:=#[s,x],argTypes:=#[t,t] }) (hs:a.eval s=v) (h:qO ET base w v xs){off:Nat}{news:List Value}(hx:a.eval x=.slice (some ⟨b,off,none⟩) m c) (hl:news.length=m)
  (hnews:∀j u,news[j]?=some u->w.cell? ⟨b,off+j,none⟩=some u) (h1:∀u∈news,u.oneCell'=true) (hm:0<m) (hn:xs.length+m<=1000000000)
  (hK:∀g cap w',qO ET base w' (.slice (some ⟨g,0,none⟩) (xs.length+m) cap) (xs++news)->(v.ownBlock=some g\/g=w.heap.size)->(∃g',base<=g'/\(v.ownBlock=some g'\/g'=w.heap.size)/\Chg g' (g'+1) w w'/\NoU w g')->wpList Tryz.prog ops Q rest (a.put o.dst (.slice (some ⟨g,0,none⟩) (xs.length+m) cap)) w'):wpList Tryz.prog ops Q (o :: rest) a w :=
 wpList_plain hgd fun _ hK'=>Zi h0 s x t ht ho hs h hx hl hnews h1 hm hn (fun g cap w' a1 a2 a3=>hK' _ _ (hK g cap w' a1 a2 a3))
theorem jq {ET:TypeId}{xs:List Value}{z0:Value}{bz:Nat}(h0:One ET z0 bz){ops:Array Oper}{o:Oper}{a:Act}{K:Act->World->Prop}{Q:Exit->Act->World->Prop}{E:Prop}(hgd:o.guard=none) (s x:Operand) (t:TypeId) (ht:Tryz.prog.underlying t=some (.slice ET))
  (ho:o.op=.call { callee:=.builtin .append,args:=#[s,x],argTypes:=#[t,t] }) (hs:a.eval s=v) (h:qO ET base w v xs){off:Nat}{news:List Value}(hx:a.eval x=.slice (some ⟨b,off,none⟩) m c) (hl:news.length=m)
  (hnews:∀j u,news[j]?=some u->w.cell? ⟨b,off+j,none⟩=some u) (h1:∀u∈news,u.oneCell'=true) (hm:0<m) (hn:xs.length+m<=1000000000)
  (hK:∀g cap w',qO ET base w' (.slice (some ⟨g,0,none⟩) (xs.length+m) cap) (xs++news)->(v.ownBlock=some g\/g=w.heap.size)->(∃g',base<=g'/\(v.ownBlock=some g'\/g'=w.heap.size)/\Chg g' (g'+1) w w'/\NoU w g')->K (a.put o.dst (.slice (some ⟨g,0,none⟩) (xs.length+m) cap)) w') :
  if Region.wanted o (yielded ops a.tmps)=true then Oper.wp Tryz.prog o a w K Q else E:=by
 have hw:Region.wanted o (yielded ops a.tmps)=true:=by simp[Region.wanted,hgd]
 rw[if_pos hw];exact Zi h0 s x t ht ho hs h hx hl hnews h1 hm hn hK
theorem xZ{u:Value}{t:TypeId}{fr:Nat×Nat}(h:w.heap[g]?=some (.cells #[u] t fr)):∀j x,[u][j]?=some x->w.cell? ⟨g,0+j,none⟩=some x:=by
 intro j x hj;rw[Nat.zero_add,qh h];simpa using hj
theorem q4T:One 4 (.bool false) 1:=⟨by kernel_rfl,rfl,by omega,by decide⟩
theorem jZ:One 3 (.int .i64 0) 8:=⟨by kernel_rfl,rfl,by omega,by decide⟩
theorem Z8:One 37 (.slice none 0 0) 24:=⟨by kernel_rfl,rfl,by omega,by decide⟩
theorem q7e:One 37 (.slice none 0 0) 24:=⟨by kernel_rfl,rfl,by omega,by decide⟩
theorem LsR.pre{R:Nat->Raw}(h:LsR N lo hi w (.slice A n c) n R) (hk:k<=n):LsR N lo hi w (.slice A k c) k R:=by
 obtain⟨h1,h2,A',c',hv,h3,h4,h5⟩:=h;injection hv with e1 e2 e3
 subst e1 e3;refine⟨h1,h2,_,_,rfl,by omega,h4,fun h0=>?_⟩;obtain⟨b,off,hA,hl,hh,hx⟩:=h5 (by omega);exact⟨b,off,hA,hl,hh,fun i hi=>hx i (by omega)⟩
theorem q3d{xs:List Value}(h:qO 37 base w v xs) (hN:N<=w.heap.size) (hn:0<xs.length){L:Nat->Nat}{R:Nat->Nat->Raw}(hr:∀i (hi:i<xs.length),LsR N 0 w.heap.size w xs[i] (L i) (R i)):MtR N 0 w.heap.size w v xs.length L R:=by
 obtain⟨g,cap,rfl,h1,h2,h3,h4,-,hat⟩:=h.at_ hn;exact⟨hN,q_r,_,cap,rfl,h4,h3,fun _=>⟨g,0,rfl,Nat.zero_le _,h2,fun i hi=>⟨xs[i],by rw[Nat.zero_add];exact hat i hi,hr i hi⟩⟩⟩
theorem JW(hk:k<=n) (f:q_v) (hf:∀j,k<=j->f j=0):sum n f=sum k f:=by
 obtain⟨d,rfl⟩:∃d,n=k+d:=⟨n-k,by omega⟩
 clear hk
 induction d with
 | zero=>rfl
 | succ d ih =>
  show sum (k+d) f+f (k+d)=sum k f
  rw[ih,hf (k+d) (by omega)];grind
theorem q2u{M:q_m}(h:V6 n M) (hk:k<=n):V6 k M:=by
 rintro x ⟨i,hi,hx⟩;have h1:=h (fun j=>if j<k then x j else 0) ⟨i,by omega,by rw[if_pos hi];exact hx⟩
 have h3:∀i,av n M (fun j=>if j<k then x j else 0) i=av k M x i:=fun i=>by
  show sum n (fun j=>M i j*(if j<k then x j else 0))=sum k (fun j=>M i j*x j)
  rw[JW hk _ (fun j hj=>by rw[if_neg (by omega)];grind)];exact qf fun j hj=>by rw[if_pos hj]
 rw[JW hk _ (fun j hj=>by rw[if_neg (by omega)];grind)] at h1;rw[show sum k (fun i=>x i*av k M x i)=sum k (fun i=>(if i<k then x i else 0)*av n M (fun j=>if j<k then x j else 0) i) from qf fun j hj=>by rw[h3,if_pos hj]];exact h1
theorem q0P{X:q_m}(h:MtV N lo hi w v n n X) (hk0:1<=k) (hkn:k<=n) (hn:n<=9) (hH:HtM n n K X) (hK:dB k K<=29000000000) :
  Calls Tryz.prog 57 #[v,.int .i64 (k:Int)] w (jP N w (det k X)):=by
 have hN:=h.le;have hI:=h;have HDC:=q_h (q68 k hk0 (by omega));have HHM:Hid (HtM k k K X):=fun i hi c hc=>hH i (by omega) c (by omega)
 have HDK:=q_h hK;obtain⟨A,c,rfl,hmc,hcm⟩:=h.form;unfold maxLen at hcm;obtain⟨Q,hQ⟩:=qc (det k X);rw[<-hQ.out];obtain⟨b,off,rfl,-,-,-⟩:=h.addr (by omega);clear h hH hK;go_enter Tryz.func57,Tryz.ntmps57
 go_upto_block 0 with (fail)
 refine kD ?_;intro W hE hsz B0 B1;have HG0:Hid (qO 37 (w.heap.size+1) W (.slice (some ⟨w.heap.size+1,0,none⟩) ([]:List Value).length 0) []):=qO.empty (q_r) B1;have HC0:=q_h B0;have HE0:=q_h hE;have HX0:Hid (∀j (hj:j<([]:List Value).length),LsV N lo hi w ([]:List Value)[j] k (X j)):=fun j hj=>absurd hj (by simp)
 clear B0 B1 hE;go_wp2
 go_loopw [5,6] (fun v i wr=>∃(xs:List Value) (A:Option Addr) (c:Nat),xs.length<=k/\i=.int .i64 (xs.length:Int)/\v=.slice A xs.length c/\Hid (qO 37 (w.heap.size+1) wr (.slice A xs.length c) xs)/\Hid (∀j (hj:j<xs.length),LsV N lo hi w xs[j] k (X j))/\Hid (Ext w wr)/\Hid (wr.heap[w.heap.size]?=some (.cells #[.bool false,.slice none 0 0,.bool false,.slice none 0 0] 35 (0,0)))) (fun _ i _=>k-(intOf i).toNat)
 case atStart=>exact⟨[],_,0,Nat.zero_le _,rfl,rfl,HG0,HX0,HE0,HC0⟩
 case round =>
  clear HG0 HX0 HE0 HC0 hsz;obtain⟨xs,A',c',hi9,rfl,rfl,HG,HX,HE,HC⟩:=hrel;obtain⟨i,hie⟩:=qc xs.length;rw[<-hie.out] at hi9 HG ⊢
  by_cases hlt:i<k
  case neg =>
   obtain rfl:k=i:=by omega
   have HMV:Hid (MtV N 0 wr.heap.size wr (.slice A' k c') k k X):=by
    have h9:=HG.out;rw[hie.out] at h9;have h8:=q3d (N:=N) h9 (by have:=HE.out.size;omega) (by rw[<-hie.out];omega) (L:=fun _=>k) (R:=fun i j=>raw (X i j)) (fun j hj=>LsR.wide ((HX.out j hj).ext HE.out) (Nat.zero_le _) (by have:=HX.out j hj;have h3:=this.2.1;have:=HE.out.size;omega) (q_r));rw[<-hie.out] at h8;exact h8
   go_wp2_with (go_at_call 109;refine q_o ?_);refine (HDC.out _ _ _ _ _ _ _ HMV.out HHM.out HDK.out).mono ?_;intro e w5 hh;rw[<-hQ.out] at hh;obtain⟨b7,A7,k7,c7,A8,k8,c8,rfl,hb7,g7,g8,e7⟩:=hh.form;have hE9:=HE.out.trans e7;have B0:=e7.block HC.out;obtain⟨r0,r1,r2,r3,r4,r5,r6,r7⟩:=cells4 B0;go_wp2;exact qQ rfl rfl rfl hE9 B0 (by omega) hN g7 g8 hb7
  have t1:(i:Int)<(k:Int):=by omega
  obtain⟨b',off',hA,-,-,hx⟩:=hI.addr (by omega);obtain⟨rfl,rfl⟩:b=b'/\off=off':=by injection hA with hA;injection hA with e1 e2;exact⟨e1,e2⟩
  obtain⟨A2,c2,q0,hc2,hd2,hl⟩:=hx i (by omega);replace q0:=HE.out.cell q0;unfold maxLen at hd2;obtain⟨b2,off2,rfl,-,-,-⟩:=hl.addr (by omega);have HLP:Hid (LsV N lo hi w (.slice (some ⟨b2,off2,none⟩) k c2) k (X i)):=LsR.pre hl hkn;have t2:(k:Int)<=(c2:Int):=by omega
  have t3:k<=c2:=by omega
  have t4:¬c2=0:=by omega
  have t5:¬k=0:=by omega
  clear hx hA hl;go_wp2_with (at_builtin;refine q_o ?_);refine qo ?_;intro w5 e5 hsz5 B5;refine zB q7e rfl _ _ 29 Tryz.underlying29 rfl (by first|rfl|(rw[hie.out])) (HG.out.ext e5) (m:=1) (c:=1) (news:=[.slice (some ⟨b2,off2,none⟩) k c2]) (by rfl) rfl (xZ B5) (fun x hx=>by rw[List.mem_singleton.1 hx];rfl) (by omega) (by rw[<-hie.out];omega) ?_;rintro g18 cap18 w18 hG18 hat18 ⟨g9,hlo,hw9,C9,-⟩;obtain⟨ys,hys⟩:=qc (xs ++ [Value.slice (some ⟨b2,off2,none⟩) k c2]);have HYL:Hid (ys.length=i+1):=by rw[Hid,hys.out,hie.out,List.length_append];rfl
  have HG9:Hid (qO 37 (w.heap.size+1) w18 (.slice (some ⟨g18,0,none⟩) ys.length cap18) ys):=by
   rw[<-hys.out,<-hie.out] at hG18;rw[HYL.out];exact hG18
  have HY9:Hid (∀j (hj:j<ys.length),LsV N lo hi w ys[j] k (X j)):=by
   intro j hj;have h1:=hj;rw[HYL.out] at h1
   by_cases h2:j<i
   ·have h3:ys[j]=xs[j]'(by rw[<-hie.out];exact h2):=by
     have h4:ys[j]?=xs[j]?:=by rw[hys.out,List.getElem?_append_left (by rw[<-hie.out];exact h2)]
     rw[List.getElem?_eq_getElem hj,List.getElem?_eq_getElem (by rw[<-hie.out];exact h2)] at h4;injection h4
    rw[h3];exact HX.out j _
   ·obtain rfl:i=j:=by omega
    have h3:ys[i]=.slice (some ⟨b2,off2,none⟩) k c2:=by
     have h4:ys[i]?=some (.slice (some ⟨b2,off2,none⟩) k c2):=by rw[hys.out,List.getElem?_append_right (by rw[<-hie.out];exact q_r),<-hie.out,Nat.sub_self];rfl
     rw[List.getElem?_eq_getElem hj] at h4;injection h4
    rw[h3];exact HLP.out
  have HE9:Hid (Ext w w18):=C9.ext (HE.out.trans e5) (by omega);have HC9:=q_h (C9.blk (e5.block HC.out) (.inl (by omega)));rw[<-hie.out];clear hG18 hat18 hlo hw9 C9 B5 e5 hsz5 q0 HG HX HE HC;go_wp2;go_roundw
  case rel=>exact⟨ys,_,cap18,by rw[HYL.out];omega,by rw[HYL.out];go_num,by rw[HYL.out],HG9,HY9,HE9,HC9⟩
  case measure=>simp[intOf];omega
theorem Vm{X:q_m}(h:MtV N lo hi w v n n X) (hn0:0<n) (hn:n<=9) (hp:V6 n X) (hH:HtM n n K X) (hK:∀k,k<=n->dB k K<=29000000000) :
  Calls Tryz.prog 16 #[v] w (zH w (.bool true)):=by
 obtain⟨A,c,rfl,hmc,hcm⟩:=h.form;unfold maxLen at hcm;have HL:=q_h fun (w':World) (e:Ext w w') (k:Nat) (h1:1<=k) (h2:k<=n)=>q0P (h.ext e) h1 h2 hn hH (hK k h2)
 have HP:Hid (∀k,k<=n->0<det k X):=fun k hk=>q3B k X (q2u hp hk)
 have HS:Hid (∀k,k<=n->Sz (det k X)):=fun k hk=>(q0i k (fun i hi c hc=>hH i (by omega) c (by omega))).sz (hK k hk)
 clear h hp hH hK;go_enter Tryz.func16,Tryz.ntmps16;go_wp2
 go_loopw [3] (fun i wr=>∃k:Nat,1<=k/\k<=n+1/\i=.int .i64 (k:Int)/\Hid (Ext w wr)) (fun i _=>n+1-(intOf i).toNat)
 case atStart=>exact⟨1,q_r,by omega,rfl,Ext.refl _⟩
 case round =>
  obtain⟨k,hk1,hk,rfl,HE⟩:=hrel
  by_cases hlt:k<=n
  case neg =>
   have t1:decide ((k:Int)<=(n:Int))=false:=q_f (by omega);have t1':decide (k<=n)=false:=q_f hlt;clear hlt;go_wp2
   first|go_ret|skip
   exact⟨rfl,HE.out⟩
  have t1:decide ((k:Int)<=(n:Int))=true:=q_t (by omega);have t1':decide (k<=n)=true:=q_t hlt;go_wp2_with (go_at_call 57;refine q_o ?_);refine (HL.out _ HE.out k hk1 hlt).mono ?_;rintro e w5 ⟨v5,rfl,hv5,e5⟩;obtain⟨b7,A7,k7,c7,A8,k8,c8,rfl,-⟩:=hv5.parts;go_wp2_with (go_at_call 56;refine q_o ?_);refine (XW hv5 (HS.out k hlt)).mono ?_;rintro e w6 ⟨rfl,e6⟩;have HSG:Hid ((det k X).num.sign=1):=Int.sign_eq_one_of_pos (by have h9:=HP.out k hlt;rw[Rat.lt_iff] at h9;simpa using h9);rw[HSG.out];have HE6:Hid (Ext w w6):=(HE.out.trans e5).trans e6;clear hv5 e5 e6;go_wp2;go_roundw
  case rel=>exact⟨k+1,by omega,by omega,by go_num,HE6⟩
  case measure=>simp[intOf];omega
def IzV (N lo hi:Nat) (w:World) (v:Value) (n:Nat) (z:Nat->Int):Prop :=
 N+lo+hi=N+lo+hi/\∃(A:Option Addr) (c:Nat),v=.slice A n c/\n<=c/\c<=maxLen/\(0<n->∃b off,A=some ⟨b,off,none⟩/\∀i,i<n->w.cell? ⟨b,off+i,none⟩=some (.int .i64 (z i)))
theorem IzV.ext{z:Nat->Int}(h:IzV N lo hi w v n z) (e:Ext w w'):IzV N lo hi w' v n z:=by
 obtain⟨h0,A,c,hv,h1,h2,h3⟩:=h;refine⟨h0,A,c,hv,h1,h2,fun h=>?_⟩;obtain⟨b,off,hA,hc⟩:=h3 h;exact⟨b,off,hA,fun i hi=>e.cell (hc i hi)⟩
theorem IzV.form{z:Nat->Int}(h:IzV N lo hi w v n z):∃(A:Option Addr) (c:Nat),v=.slice A n c/\n<=c/\c<=maxLen:=by
 obtain⟨h0,A,c,hv,h1,h2,h3⟩:=h;exact⟨A,c,hv,h1,h2⟩
theorem IzV.addr{z:Nat->Int}(h:IzV N lo hi w (.slice A n c) n z) (hn:0<n):∃b off,A=some ⟨b,off,none⟩/\∀i,i<n->w.cell? ⟨b,off+i,none⟩=some (.int .i64 (z i)):=by
 obtain⟨h0,A',c',hv,h1,h2,h3⟩:=h;injection hv with e1 e2 e3
 subst e1;exact h3 hn
def zl (R:Raw):Rat:=Rat.divInt (yV R.b1 R.l1) (yV R.b2 R.l2)
theorem kw (q:Rat):zl (raw q)=q:=by
 unfold zl raw;have h4:yV false (dg q.den)=(q.den:Int):=by unfold yV;rw[qC];simp
 simp only[KN,h4];exact Rat.num_divInt_den q
theorem wu(h:okR R=true):R=raw (zl R):=by
 obtain⟨q,rfl⟩:=q4U h;rw[kw]
structure Bkk where
 r:Int
 c:Int
 m:Nat
 L:Nat->Nat
 A:Nat->Nat->Raw
structure Sys where
 ns:Nat
 z:Nat->Int
 nb:Nat
 b:Nat->Bkk
 k:Nat
 R:Nat->Raw
def q8f (N lo hi:Nat) (w:World) (b o:Nat) (B:Bkk):Prop :=
 w.cell? ⟨b,o,none⟩=some (.int .i64 B.r)/\w.cell? ⟨b,o+1,none⟩=some (.int .i64 B.c)/\∃(A:Option Addr) (c:Nat),w.cell? ⟨b,o+2,none⟩=some (.slice A B.m c)/\MtR N lo hi w (.slice A B.m c) B.m B.L B.A
theorem q8f.ext{o:Nat}{B:Bkk}(h:q8f N lo hi w b o B) (e:Ext w w'):q8f N lo hi w' b o B:=by
 obtain⟨h0,h1,A,c,h2,h3⟩:=h;exact⟨e.cell h0,e.cell h1,A,c,e.cell h2,h3.ext e⟩
def q4c (N lo hi:Nat) (w:World) (v:Value) (n:Nat) (B:Nat->Bkk):Prop :=
 ∃(A:Option Addr) (c:Nat),v=.slice A n c/\n<=c/\c<=maxLen/\(0<n->∃b off,A=some ⟨b,off,none⟩/\∀i,i<n->q8f N lo hi w b (off+i*3) (B i))
theorem q4c.ext{B:Nat->Bkk}(h:q4c N lo hi w v n B) (e:Ext w w'):q4c N lo hi w' v n B:=by
 obtain⟨A,c,hv,h1,h2,h3⟩:=h;refine⟨A,c,hv,h1,h2,fun h0=>?_⟩;obtain⟨b,off,hA,hc⟩:=h3 h0;exact⟨b,off,hA,fun i hi=>(hc i hi).ext e⟩
theorem q4c.addr{B:Nat->Bkk}(h:q4c N lo hi w (.slice A n c) n B) (hn:0<n):∃b off,A=some ⟨b,off,none⟩/\∀i,i<n->q8f N lo hi w b (off+i*3) (B i):=by
 obtain⟨A',c',hv,h1,h2,h3⟩:=h;injection hv with e1 e2 e3
 subst e1;exact h3 hn
def jI (N lo hi:Nat) (w:World) (v:Value) (Z:Sys):Prop :=
 ∃v1 v2 v3,v=.agg #[v1,v2,v3]/\IzV N lo hi w v1 Z.ns Z.z/\q4c N lo hi w v2 Z.nb Z.b/\LsR N lo hi w v3 Z.k Z.R
theorem jI.ext{Z:Sys}(h:jI N lo hi w v Z) (e:Ext w w'):jI N lo hi w' v Z:=by
 obtain⟨v1,v2,v3,hv,h1,h2,h3⟩:=h;exact⟨v1,v2,v3,hv,h1.ext e,h2.ext e,h3.ext e⟩
theorem jI.parts{Z:Sys}(h:jI N lo hi w v Z):∃(A1:Option Addr) (c1:Nat) (A2:Option Addr) (c2:Nat) (A3:Option Addr) (c3:Nat),v=.agg #[.slice A1 Z.ns c1,.slice A2 Z.nb c2,.slice A3 Z.k c3] /\
  IzV N lo hi w (.slice A1 Z.ns c1) Z.ns Z.z/\q4c N lo hi w (.slice A2 Z.nb c2) Z.nb Z.b/\LsR N lo hi w (.slice A3 Z.k c3) Z.k Z.R/\Z.ns<=9223372036854775807/\Z.nb<=9223372036854775807/\Z.k<=9223372036854775807:=by
 obtain⟨v1,v2,v3,rfl,h1,h2,h3⟩:=h;obtain⟨A1,c1,rfl,a1,a2⟩:=h1.form;have h2':=h2;obtain⟨A2,c2,rfl,b1,b2,-⟩:=h2';obtain⟨A3,c3,rfl,d1,d2⟩:=h3.form;unfold maxLen at a2 b2 d2;exact⟨A1,c1,A2,c2,A3,c3,rfl,h1,h2,h3,by omega,by omega,by omega⟩
def q5h (f:Nat->Int) (n:Nat):Int:=((List.range n).find? (fun i=>f i != 0)).elim 0 f
theorem jk {f:Nat->Int}(h:∀i,i<n->f i=0):q5h f n=0:=by
 unfold q5h;rw[List.find?_eq_none.2 (fun i hi=>by simp[h i (List.mem_range.1 hi)])]
 rfl
theorem ZM {f:Nat->Int}{i:Nat}(hi:i<n) (h:∀j,j<i->f j=0) (h0:f i≠0):q5h f n=f i:=by
 unfold q5h
 have:(List.range n).find? (fun i=>f i != 0)=some i:=by
  rw[List.find?_range_eq_some];refine⟨by simpa using h0,List.mem_range.2 hi,fun j hj=>by simp[h j hj]⟩
 rw[this]
 rfl
theorem q08 {f:Nat->Int}(h:q5h f n=0):∀i,i<n->f i=0:=by
 intro i hi
 induction i using Nat.strongRecOn with
 | _ i ih =>
  by_cases h0:f i=0
  ·exact h0
  ·rw[ZM hi (fun j hj=>ih j hj (by omega)) h0] at h;exact h
def W9 (B:Bkk):Bool:=allB B.m (fun i=>allB (B.L i) (fun j=>okR (B.A i j)))
def Kt (Z:Sys):Bool:=allB Z.nb (fun i=>W9 (Z.b i))&&allB Z.k (fun i=>okR (Z.R i))
def jK (z:Nat->Int):Nat->Int
 | 0=>0
 | n+1=>jK z n+z n
def sz1 (z:Int):Bool:=decide (1<=z)&&decide (z<=12)
def Zo (Z:Sys):Bool:=(decide (1<=Z.ns)&&decide (Z.ns<=12))&&(allB Z.ns (fun i=>sz1 (Z.z i))&&decide (jK Z.z Z.ns<=64))
theorem Zk {z:Nat->Int}:∀n,(∀i,i<n->sz1 (z i)=true)->(n:Int)<=jK z n/\jK z n<=12*(n:Int)
 | 0,_=>by unfold jK;omega
 | n+1,h=>by
  have h1:=Zk n (fun i hi=>h i (by omega));have h2:=h n (by omega);unfold sz1 at h2;rw[Bool.and_eq_true,decide_eq_true_eq,decide_eq_true_eq] at h2;unfold jK;omega
def q4f (B:Bkk):Bool:=allB B.m (fun i=>allB i (fun j=>decide (zl (B.A i j)=zl (B.A j i))))
def Qn (z:Nat->Int) (B:Bkk):Bool:=decide ((B.m:Int)=z B.r.toNat)&&(allB B.m (fun i=>decide ((B.L i:Int)=z B.c.toNat))&&(!(decide (B.r=B.c))||q4f B))
def Wh (B C:Bkk):Bool:=decide (B.r<C.r)||(decide (B.r=C.r)&&decide (B.c<C.c))
def bkC (Z:Sys) (i:Nat):Int :=
 if (Z.b i).c<0\/(Z.b i).r<(Z.b i).c\/(Z.ns:Int)<=(Z.b i).r then 2 else if Qn Z.z (Z.b i)=false then 4 else if 0<i/\Wh (Z.b (i-1)) (Z.b i)=false then 5 else 0
def vH (Z:Sys):Int :=
 if Kt Z=false then 1 else if Zo Z=false then 3 else if q5h (bkC Z) Z.nb≠0 then q5h (bkC Z) Z.nb else if (Z.k:Int)=jK Z.z Z.ns then 0 else 4
theorem Wn:Tryz.prog.underlying 64=some (.array 2 3):=by kernel_rfl
theorem q62:Tryz.prog.underlying 77=some (.map 64 29):=by kernel_rfl
theorem q94:Tryz.prog.cellsOf 3=1:=by kernel_rfl
def kyV (r c:Int):Value:=.agg #[.int .i64 r,.int .i64 c]
theorem KX (w:World) (r c r' c':Int):(Op.equal 64 (kyV r c) (kyV r' c')).run Tryz.prog w=.ok (decide (r=r'/\c=c')) w:=by
 have u3:=Tryz.underlying3
 obtain⟨i,hi⟩:∃i,Tryz.prog.info? 3=some i:=by
  cases h:Tryz.prog.info? 3 with
  | some i=>exact⟨i,rfl⟩
  | none =>
   have:(Tryz.prog.info? 3).isSome=true:=by kernel_rfl
   rw[h] at this;cases this
 unfold kyV Op.equal;rw[show Op.maxDepth=9999+1 from rfl,run_equalIn_array w 9999 _ _ Wn hi,q94];simp only[List.range,List.range.loop,Op.eqItems];go_simp
 by_cases h1:r=r'<;>by_cases h2:c=c'<;>simp[h1,h2]
theorem q93:Tryz.prog.cellsOf 64=2:=by kernel_rfl
def V7 (r:Int):Prop:=0<=r/\r<1000
theorem q2X {r:Int}(h:V7 r):(Lit.int .i64 r).wf=true:=by
 obtain⟨h1,h2⟩:=h
 show (decide (IntKind.i64.min<=r)&&decide (r<=IntKind.i64.max))=true
 have e1:IntKind.i64.min = -9223372036854775808:=by decide
 have e2:IntKind.i64.max=9223372036854775807:=by decide
 rw[e1,e2,Bool.and_eq_true,decide_eq_true_eq,decide_eq_true_eq];omega
theorem q58 {r c:Int}(hr:V7 r) (hc:V7 c):Tryz.prog.keyLits 3 64 (kyV r c).cells.toList=some [.int .i64 r,.int .i64 c]:=by
 have u3:=Tryz.underlying3;have w1:=q2X hr;have w2:=q2X hc
 have h0:∀q:Int,V7 q->Tryz.prog.keyLits 2 3 [.int .i64 q]=some [.int .i64 q]:=fun q hq=>by
  unfold Program.keyLits;rw[u3];simp[q2X hq]
 unfold Program.keyLits;rw[Wn];simp only[kyV,Value.cells,q93,q94];simp[List.range,List.range.loop,h0 r hr,h0 c hc]
theorem KY (w:World) (em:Bool){r c:Int}(hr:V7 r) (hc:V7 c):(Instr.checkKey em 10000 64 (kyV r c)).run Tryz.prog w=.ok () w :=
 run_checkKey_deep em 9997 3 64 (by kernel_rfl) w 3 (kyV r c) _ (by kernel_rfl) (q58 hr hc)
def idx:List ((Int×Int)×Value)->Int->Int->Option Nat
 | [],_,_=>none
 | p :: l,r,c=>if r=p.1.1/\c=p.1.2 then some 0 else (idx l r c).map (· + 1)
def lkp:List ((Int×Int)×Value)->Int->Int->Option Value
 | [],_,_=>none
 | p :: l,r,c=>if r=p.1.1/\c=p.1.2 then some p.2 else lkp l r c
def put (v:Value):List ((Int×Int)×Value)->Int->Int->List ((Int×Int)×Value)
 | [],r,c=>[((r,c),v)]
 | p :: l,r,c=>if r=p.1.1/\c=p.1.2 then ((r,c),v) :: l else p :: put v l r c
theorem Jf (v:Value):∀(l:List ((Int×Int)×Value)) (r c r' c':Int),lkp (put v l r c) r' c'=if r'=r/\c'=c then some v else lkp l r' c'
 | [],r,c,r',c'=>rfl
 | p :: l,r,c,r',c'=>by
  unfold put
  by_cases h:r=p.1.1/\c=p.1.2
  ·rw[if_pos h];unfold lkp
   by_cases h':r'=r/\c'=c
   ·rw[if_pos h',if_pos h']
   ·rw[if_neg h',if_neg h',if_neg (by rw[<-h.1,<-h.2];exact h')]
  ·rw[if_neg h];unfold lkp
   by_cases h':r'=p.1.1/\c'=p.1.2
   ·rw[if_pos h',if_neg (by rintro⟨e1,e2⟩;exact h ⟨by rw[<-e1];exact h'.1,by rw[<-e2];exact h'.2⟩),if_pos h']
   ·rw[if_neg h',if_neg h'];exact Jf v l r c r' c'
theorem Jl {l:List ((Int×Int)×Value)}{r c:Int}(v:Value) (h:idx l r c=none):lkp l r c=none/\put v l r c=l ++ [((r,c),v)]:=by
 induction l with
 | nil=>exact⟨rfl,rfl⟩
 | cons p l ih =>
  unfold idx at h;unfold lkp put
  by_cases h9:r=p.1.1/\c=p.1.2
  ·rw[if_pos h9] at h;cases h
  ·rw[if_neg h9] at h ⊢;rw[if_neg h9];have:=ih (by simpa using h);exact⟨this.1,by rw[this.2];rfl⟩
theorem q02 {l:List ((Int×Int)×Value)}{r c:Int}(v:Value) (h:idx l r c=some j):∃u,l[j]?=some ((r,c),u)/\lkp l r c=some u/\put v l r c=l.set j ((r,c),v):=by
 induction l generalizing j with
 | nil=>cases h
 | cons p l ih =>
  unfold idx at h;unfold lkp put
  by_cases h9:r=p.1.1/\c=p.1.2
  ·rw[if_pos h9] at h ⊢;rw[if_pos h9];obtain rfl:0=j:=by simpa using h
   obtain⟨⟨a,b⟩,u⟩:=p;obtain⟨rfl,rfl⟩:=h9;exact⟨u,rfl,rfl,rfl⟩
  ·rw[if_neg h9] at h ⊢;rw[if_neg h9];simp only[Option.map_eq_some_iff] at h;obtain⟨k,hk,rfl⟩:=h;obtain⟨u,h1,h2,h3⟩:=ih hk;exact⟨u,by simpa using h1,h2,by rw[h3];rfl⟩
def q4b (es:List MapEntry) (l:List ((Int×Int)×Value)):Prop:=es.map (fun e=>(e.key,e.val))=l.map (fun p=>(kyV p.1.1 p.1.2,p.2))
theorem Zt (w:World) (r c:Int):∀(es:List MapEntry) (l:List ((Int×Int)×Value)) (i:Nat),q4b es l->(Instr.findAsking 64 (kyV r c) es i).run Tryz.prog w=.ok (match idx l r c,lkp l r c with|some j,some v=>some (i+j,v)|_,_=>none) w
 | [],[],i,_=>by unfold Instr.findAsking;rfl
 | [],_ :: _,_,h=>by unfold q4b at h;simp at h
 | _ :: _,[],_,h=>by unfold q4b at h;simp at h
 | e :: es,p :: l,i,h=>by
  unfold q4b at h;simp only[List.map_cons,List.cons.injEq,Prod.mk.injEq] at h;obtain⟨⟨h1,h2⟩,h3⟩:=h;have ih:=Zt w r c es l (i+1) h3;unfold Instr.findAsking;rw[Sem.run_bind,h1,KX,Result.andThen_ok];unfold idx lkp
  by_cases h9:r=p.1.1/\c=p.1.2
  ·rw[if_pos h9,if_pos h9,q_t h9];simp[h2]
  ·rw[if_neg h9,if_neg h9,q_f h9];simp only[Bool.false_eq_true,if_false];rw[ih];cases h5:idx l r c with
   | none=>simp
   | some j =>
    cases h6:lkp l r c with
    | none=>simp
    | some v=>simp only[Option.map_some];rw[show i+1+j=i+(j+1) by omega]
def MpE (w:World) (g:Nat) (l:List ((Int×Int)×Value)):Prop:=∃es clock,w.heap[g]?=some (.map es clock)/\q4b es.toList l
theorem MpE.ext{l:List ((Int×Int)×Value)}(h:MpE w g l) (e:Ext w w'):MpE w' g l:=by
 obtain⟨es,k,h1,h2⟩:=h;exact⟨es,k,e.block h1,h2⟩
theorem vw{l:List ((Int×Int)×Value)}(h:MpE w g l){r c:Int}(hr:V7 r) (hc:V7 c):(Instr.lookup 77 (.map (some g)) (kyV r c) false).run Tryz.prog w=.ok ((lkp l r c).getD (.slice none 0 0)) w:=by
 obtain⟨es,k,h1,h2⟩:=h;unfold Instr.lookup;simp only[Sem.run_bind,run_underlying q62,Result.andThen_ok,run_getObj_map w g es k h1,Sem.run_pure,KY w _ hr hc];rw[run_findKey_eq w (by rw[Wn]) (kyV r c) es.toList,Zt w r c _ l 0 h2];cases h5:idx l r c with
 | none =>
  rw[(Jl (.slice none 0 0) h5).1];have hz:(zeroValue 29).run Tryz.prog w=.ok (.slice none 0 0) w:=by kernel_rfl
  simp[hz]
 | some j =>
  obtain⟨u,-,h6,-⟩:=q02 (.slice none 0 0) h5;rw[h6]
  simp
theorem q7L {es:List MapEntry}{l:List ((Int×Int)×Value)}(h:q4b es l){p:(Int×Int)×Value}(hj:l[j]?=some p):∃e,es[j]?=some e/\e.key=kyV p.1.1 p.1.2/\e.val=p.2:=by
 have h1:(es.map fun e=>(e.key,e.val))[j]?=(l.map fun p=>(kyV p.1.1 p.1.2,p.2))[j]?:=by rw[show es.map (fun e=>(e.key,e.val))=_ from h]
 rw[List.getElem?_map,List.getElem?_map,hj] at h1;cases h2:es[j]? with
 | none=>rw[h2] at h1;simp at h1
 | some e =>
  rw[h2] at h1;simp only[Option.map_some,Option.some.injEq,Prod.mk.injEq] at h1;exact⟨e,rfl,h1.1,h1.2⟩
theorem q5r {es:List MapEntry}{l:List ((Int×Int)×Value)}(h:q4b es l) (j:Nat) (r c:Int) (v:Value):q4b (es.modify j fun e=>{ e with key:=kyV r c,val:=v }) (l.set j ((r,c),v)):=by
 unfold q4b;refine List.ext_getElem? fun i=>?_
 have h1:(es.map fun e=>(e.key,e.val))[i]?=(l.map fun p=>(kyV p.1.1 p.1.2,p.2))[i]?:=by rw[show es.map (fun e=>(e.key,e.val))=_ from h]
 rw[List.getElem?_map,List.getElem?_map] at h1;rw[List.getElem?_map,List.getElem?_map,List.getElem?_modify,List.getElem?_set]
 by_cases hij:j=i
 ·subst hij;rw[if_pos rfl];cases h2:es[j]? with
  | none =>
   rw[h2] at h1
   have h3:l[j]?=none:=by
    cases h4:l[j]? with
    | none=>rfl
    | some p=>rw[h4] at h1;simp at h1
   rw[if_neg (by rw[List.getElem?_eq_none_iff] at h3;omega)]
   rfl
  | some e =>
   rw[h2] at h1
   have h3:j<l.length:=by
    cases h4:l[j]? with
    | none=>rw[h4] at h1;simp at h1
    | some p=>exact (List.getElem?_eq_some_iff.1 h4).1
   rw[if_pos h3]
   simp
 ·rw[if_neg hij];rw[show (fun e=>if j=i then ({ e with key:=kyV r c,val:=v }:MapEntry) else e)=id by funext e;rw[if_neg hij];rfl];simpa using h1
theorem q06{o o':Obj}(h:w.heap[g]?=some o):(w.heap.setIfInBounds g o')[g]?=some o':=by
 have hg:g<w.heap.size:=by
  rcases Nat.lt_or_ge g w.heap.size with h1|h1
  ·exact h1
  ·rw[Array.getElem?_eq_none h1] at h;cases h
 rw[Array.getElem?_setIfInBounds,if_pos rfl,if_pos hg]
theorem q3K{es:Array MapEntry}(h:w.heap[g]?=some (.map es k)) (o:Obj):Chg g (g+1) w { w with heap:=w.heap.setIfInBounds g o } :=
 ⟨rfl,rfl,rfl,by simp,fun i _ hd=>by
  have hne:¬g=i:=by
   rintro rfl
   rcases hd with h1|h1|⟨cs,fr,h1⟩
   ·omega
   ·omega
   ·rw[h] at h1;cases h1
  show (w.heap.setIfInBounds g o)[i]?=w.heap[i]?
  rw[Array.getElem?_setIfInBounds,if_neg hne]⟩
theorem q6W (n:Nat) (r c:Int):Instr.sameBits (n+2) (kyV r c) (kyV r c)=true:=by
 unfold kyV;simp[Instr.sameBits]
theorem ve{l:List ((Int×Int)×Value)}(h:MpE w g l){r c:Int}(hr:V7 r) (hc:V7 c) (v:Value):∃w',(Instr.mapUpdate 77 (.map (some g)) (kyV r c) v).run Tryz.prog w=.ok () w'/\MpE w' g (put v l r c)/\Chg g (g+1) w w':=by
 obtain⟨es,k,h1,h2⟩:=h;unfold Instr.mapUpdate;simp only[Sem.run_bind,run_underlying q62,Result.andThen_ok,run_getObj_map w g es k h1,Sem.run_pure,KY w _ hr hc];rw[run_findKey_eq w (by rw[Wn]) (kyV r c) es.toList,Zt w r c _ l 0 h2];cases h5:idx l r c with
 | none =>
  rw[(Jl v h5).1,(Jl v h5).2];simp only[Result.andThen_ok];rw[MapKept.run_setObj_map _ h1]
  exact⟨_,rfl,⟨_,_,q06 h1,by
   unfold q4b at h2 ⊢;rw[Array.toList_push,List.map_append,List.map_append,h2]
   rfl⟩,q3K h1 _⟩
 | some j =>
  obtain⟨u,h7,h6,h8⟩:=q02 v h5;rw[h6,h8];obtain⟨e,h9,h10,-⟩:=q7L h2 h7
  have h11:((es[0+j]?).map (·.key)).getD (kyV r c)=kyV r c:=by
   rw[Nat.zero_add,<-Array.getElem?_toList,h9];exact h10
  simp only[Result.andThen_ok,Sem.run_bind];rw[h11]
  have h12:(Instr.keyThatStays (kyV r c) (kyV r c)).run Tryz.prog w=.ok (kyV r c) w:=by
   unfold Instr.keyThatStays;rw[show (10000:Nat)=9998+2 from rfl,q6W,if_pos rfl]
   rfl
  rw[h12,Result.andThen_ok,MapKept.run_setObj_map _ h1,Nat.zero_add]
  exact⟨_,rfl,⟨_,_,q06 h1,by
   rw[Array.toList_modify]
   exact q5r h2 j r c v⟩,q3K h1 _⟩
theorem kU:sz1 z=true↔1<=z/\z<=12:=by
 unfold sz1;rw[Bool.and_eq_true,decide_eq_true_eq,decide_eq_true_eq]
theorem q3U{Z:Sys}(h:jI N lo hi w v Z) (h1:Z.ns<=12) (hz:∀i,i<Z.ns->sz1 (Z.z i)=true) :
  Calls Tryz.prog 81 #[v] w (zH w (.int .i64 (jK Z.z Z.ns))):=by
 obtain⟨A1,c1,A2,c2,A3,c3,rfl,s1,s2,s3,-⟩:=h.parts;have HI:=q_h s1;have HZ:=q_h hz;obtain⟨T9,hT9⟩:=qc (jK Z.z Z.ns);rw[<-hT9.out];obtain⟨n,hn⟩:=qc Z.ns;rw[<-hn.out] at HI h1;clear h s1 s2 s3 hz;go_enter Tryz.func81,Tryz.ntmps81;go_upto_region 1 with (fail);refine qo ?_;intro w1 hE hsz B0;obtain⟨a0,a1,a2,-⟩:=cells3 B0;rw[<-hn.out] at a0;go_wp2_with fail
 go_loopw [9,3] (fun iv tv wr=>∃i:Nat,i<=n/\iv=.int .i64 (i:Int)/\tv=.int .i64 (jK Z.z i)/\Ext w wr) (fun iv _ _=>n-(intOf iv).toNat)
 case atStart=>exact⟨0,Nat.zero_le _,rfl,rfl,hE⟩
 case round =>
  obtain⟨i,hi,rfl,rfl,hE1⟩:=hrel
  by_cases hlt:i<n
  case neg =>
   have t1:decide ((i:Int)<(n:Int))=false:=q_f (by omega);have HT:Hid (jK Z.z i=T9):=by rw[Hid,hT9.out,<-hn.out,show i=n by omega]
   rw[HT.out];go_wp2;go_ret;exact⟨rfl,hE1⟩
  have t1:decide ((i:Int)<(n:Int))=true:=q_t (by omega);have t2:(i:Int)<(n:Int):=by omega
  obtain⟨b,off,rfl,hx⟩:=(HI.out.ext hE1).addr (by omega);have p0:=hx i hlt;have hs:=HZ.out;rw[<-hn.out] at hs;have hb:=Zk i (fun j hj=>hs j (by omega));have hu:=kU.1 (hs i hlt);obtain⟨u,hU⟩:=qc (Z.z i);obtain⟨T,hT⟩:=qc (jK Z.z i);rw[<-hU.out] at p0 hu;rw[<-hT.out] at hb ⊢;have HN:Hid (T+u=jK Z.z (i+1)):=by rw[Hid,hT.out,hU.out];rfl
  clear hx hs a0 a1 a2 B0 hE hsz;go_wp2;go_roundw
  case rel=>exact⟨i+1,by omega,by go_num,by rw[HN.out],hE1⟩
  case measure=>simp[intOf];omega
theorem q81{Z:Sys}(h:jI N lo hi w v Z) :
  Calls Tryz.prog 79 #[v] w (zH w (.int .i64 (if Zo Z=true then 0 else 3))):=by
 have HS:=q_h h;obtain⟨A1,c1,A2,c2,A3,c3,rfl,s1,s2,s3,k1,-⟩:=h.parts;have HI:=q_h s1;obtain⟨r,hr⟩:=qc (if Zo Z=true then (0:Int) else 3);rw[<-hr.out]
 have HB:Hid (¬(1<=Z.ns/\Z.ns<=12)->r=3):=fun h9=>by
  rw[hr.out,if_neg];unfold Zo;simp only[Bool.and_eq_true,decide_eq_true_eq];exact fun h8=>h9 h8.1
 have HC:Hid (∀i,i<Z.ns->sz1 (Z.z i)=false->r=3):=fun i hi h9=>by
  rw[hr.out,if_neg];unfold Zo;rw[qL hi h9]
  simp
 have HD:Hid (1<=Z.ns->Z.ns<=12->(∀i,i<Z.ns->sz1 (Z.z i)=true)->r=if 64<jK Z.z Z.ns then 3 else 0):=fun h1 h2 h3=>by
  rw[hr.out];unfold Zo;rw[qm.2 h3,q_t h1,q_t h2]
  by_cases h4:64<jK Z.z Z.ns
  ·rw[if_pos h4,q_f (by omega),if_neg (by decide)]
  ·rw[if_neg h4,q_t (by omega),if_pos (by decide)]
 clear h s1 s2 s3 hr;obtain⟨n,hn⟩:=qc Z.ns;have hS9:=HS.out;rw[<-hn.out] at HI HB HC HD HS k1;clear hS9;go_enter Tryz.func79,Tryz.ntmps79;go_upto_region 1 with (fail);refine qo ?_;intro w1 hE hsz B0;obtain⟨a0,a1,a2,-⟩:=cells3 B0;rw[<-hn.out] at a0
 by_cases h1:n<1
 ·have t1:decide ((n:Int)<1)=true:=q_t (by omega);have HR:Hid (r=3):=HB.out (by omega);clear h1;go_wp2;go_ret;rw[HR.out];exact⟨rfl,hE⟩
 have t1:decide ((n:Int)<1)=false:=q_f (by omega)
 by_cases h2:12<n
 ·have t2:decide (12<(n:Int))=true:=q_t (by omega);have HR:Hid (r=3):=HB.out (by omega);clear h2;go_wp2;go_ret;rw[HR.out];exact⟨rfl,hE⟩
 have t2:decide (12<(n:Int))=false:=q_f (by omega);go_wp2_with fail
 go_loopw [18] (fun iv wr=>∃i:Nat,i<=n/\iv=.int .i64 (i:Int)/\Ext w1 wr/\Hid (∀j,j<i->sz1 (Z.z j)=true)) (fun iv _=>n-(intOf iv).toNat)
 case atStart=>exact⟨0,Nat.zero_le _,rfl,Ext.refl _,fun j hj=>absurd hj (Nat.not_lt_zero j)⟩
 case round =>
  obtain⟨i,hi,rfl,hE1,hA⟩:=hrel;clear a0 a1 a2;obtain⟨a0,a1,a2,-⟩:=cells3 (hE1.block B0);rw[<-hn.out] at a0
  by_cases hlt:i<n
  case neg =>
   have t3:decide ((i:Int)<(n:Int))=false:=q_f (by omega);have hA':∀j,j<Z.ns->sz1 (Z.z j)=true:=fun j hj=>hA.out j (by have:=hn.out;omega)
   have HT:=q_h (q3U (HS.out.ext (hE.trans hE1)) (by have:=hn.out;omega) hA');have HR:=HD.out (by omega) (by omega) (fun j hj=>hA.out j (by omega));obtain⟨T,hT⟩:=qc (jK Z.z Z.ns);rw[<-hT.out] at HT;rw[hn.out,<-hT.out] at HR;have HR':=q_h HR;clear HR hA';go_wp2_with (go_at_call 81;refine q_o ?_);refine (HT.out).mono ?_;rintro e w2 ⟨rfl,e2⟩
   by_cases h4:64<T
   ·have t4:decide (64<T)=true:=q_t h4;obtain rfl:r=3:=by rw[HR'.out,if_pos h4]
    clear h4;go_wp2;go_ret;exact⟨rfl,hE.trans (hE1.trans e2)⟩
   ·have t4:decide (64<T)=false:=q_f h4;obtain rfl:r=0:=by rw[HR'.out,if_neg h4]
    clear h4;go_wp2;go_ret;exact⟨rfl,hE.trans (hE1.trans e2)⟩
  have t3:decide ((i:Int)<(n:Int))=true:=q_t (by omega);have t5:(i:Int)<(n:Int):=by omega
  obtain⟨b,off,rfl,hx⟩:=(HI.out.ext (hE.trans hE1)).addr (by omega);have p0:=hx i hlt;have HCi:=q_h (HC.out i hlt);obtain⟨u,hU⟩:=qc (Z.z i);rw[<-hU.out] at p0 HCi;clear hx
  by_cases h3:u<1
  ·have t6:decide (u<1)=true:=q_t h3;obtain rfl:r=3:=HCi.out (by unfold sz1;rw[q_f (by omega)];rfl);clear h3;go_wp2;go_ret;exact⟨rfl,hE.trans hE1⟩
  have t6:decide (u<1)=false:=q_f h3
  by_cases h4:12<u
  ·have t7:decide (12<u)=true:=q_t h4;obtain rfl:r=3:=HCi.out (by unfold sz1;rw[q_f (show ¬u<=12 by omega),Bool.and_false]);clear h3 h4;go_wp2;go_ret;exact⟨rfl,hE.trans hE1⟩
  have t7:decide (12<u)=false:=q_f h4
  have HA2:Hid (∀j,j<i+1->sz1 (Z.z j)=true):=fun j hj=>by
   by_cases hji:j=i
   ·rw[hji,<-hU.out];exact kU.2 ⟨by omega,by omega⟩
   ·exact hA.out j (by omega)
  clear h3 h4;go_wp2;go_roundw
  case rel=>exact⟨i+1,by omega,by go_num,hE1,HA2⟩
  case measure=>simp[intOf];omega
theorem q5f{x:q_v}(h:Grow N base w v n x):∃g',base<=g'/\NoU w g'/\(∀k,v.ownBlock=some k->k=g')/\(v.ownBlock=some g'\/g'=w.heap.size):=by
 obtain⟨h1,h2,⟨rfl,-⟩|⟨g0,cap,rfl,hg,hm,hr⟩⟩:=h
 ·exact⟨w.heap.size,h2,fun cs fr h=>by (rw[Array.getElem?_eq_none (q_r)] at h;cases h),fun k hk=>by simp[Value.ownBlock] at hk,.inr rfl⟩
 ·exact⟨g0,hg,hr.noU,fun k hk=>by simpa[Value.ownBlock] using hk.symm,.inl rfl⟩
theorem Qo(t ty:TypeId) (ht:Tryz.prog.underlying t=some (.slice 35)){x:q_v}(h:Grow N base w v n x)
{neg:Bool}{u:Value}{q:Rat}{fr:Nat×Nat}(hb:w.heap[b]?=some (.cells #[.bool neg,s,.bool false,u] 35 fr)) (hneg:Hid (neg=decide (q.num<0))) (hs:Gs N w s (dg q.num.natAbs)) (hu:Gs N w u (dg q.den)) (hn:n<1000000000) :
  ∃g cap w' g',(Builtin.append_ #[t,t] ty #[v,.slice (some ⟨b,0,none⟩) 1 1]).run Tryz.prog w=.ok (.slice (some ⟨g,0,none⟩) (n+1) cap) w'/\Grow N base w' (.slice (some ⟨g,0,none⟩) (n+1) cap) (n+1) (upd x n q)/\base<=g'/\Chg g' (g'+1) w w'/\(v.ownBlock=some g'\/g'=w.heap.size)/\(v.ownBlock=some g\/g=w.heap.size):=by
 obtain⟨i0,hi0,hz0,hz1,hz2⟩:=info_parts yJ;obtain⟨g1,cap1,w1,hrun1,hG1,-,-⟩:=yO t ty ht h hb hneg hs hu hn;obtain⟨g',hg',hT,hk,hw9⟩:=q5f h;obtain⟨h1,h2,h3⟩:=h
 have hown:∃xs,w.ownsRow base 35 4 v n xs:=by
  rcases h3 with ⟨rfl,rfl⟩|⟨g,cap,rfl,hg,hm,hr⟩
  ·exact⟨[],⟨by simp,.inl ⟨rfl,rfl⟩⟩⟩
  ·obtain⟨xs,hx,hc⟩:=Zx hr hm hg;exact⟨xs,hx⟩
 obtain⟨xs,hown⟩:=hown;obtain⟨As,ns,cs0,rfl,-,-,-⟩:=hs.form;obtain⟨Au,nu,cu,rfl,-,-,-⟩:=hu.form
 obtain⟨g,cap,w',hrun,ho,hgr,hat,hlt⟩:=run_append_lies (P:=Tryz.prog) w t ty base 35 i0 _ 4 64 ht hi0 hz0 hz1 hz2 rfl (by omega) v n xs hown ⟨b,0,none⟩ 1 1 [.bool neg,.slice As ns cs0,.bool false,.slice Au nu cu] rfl
  (fun j u hj=>by
   have e:(⟨b,0,none⟩:Addr).add j=⟨b,j,none⟩:=by
    unfold Addr.add;split
    ·rename_i e;subst e;rfl
    ·simp
   rw[e,qh hb]
   simpa using hj)
  (fun u hu=>by simp at hu;rcases hu with rfl|rfl|rfl|rfl<;>rfl) (by omega) (by unfold maxLen;omega) (by omega) h2 w.heap.size rfl
 rw[hrun1] at hrun;injection hrun with e1 e2
 injection e1 with e1 _ e3
 injection e1 with e1
 injection e1 with e1 _
 subst e1 e2 e3;exact⟨g1,cap1,w1,g',hrun1,hG1,hg',zT hgr hk hT,hw9,hat⟩
theorem zZ{ops:Array Oper}{o:Oper}{a:Act}{K:Act->World->Prop}{Q:Exit->Act->World->Prop}{E:Prop}(hgd:o.guard=none) (s x:Operand) (t:TypeId) (ht:Tryz.prog.underlying t=some (.slice 35))
  (ho:o.op=.call { callee:=.builtin .append,args:=#[s,x],argTypes:=#[t,t] }){f:q_v}(hs:a.eval s=v) (h:Grow N base w v n f)
(hx:a.eval x=.slice (some ⟨b,0,none⟩) 1 1){neg:Bool}{s1 s2:Value}{q:Rat}{fr:Nat×Nat}(hb:w.heap[b]?=some (.cells #[.bool neg,s1,.bool false,s2] 35 fr)) (hneg:Hid (neg=decide (q.num<0))) (g1:Gs N w s1 (dg q.num.natAbs)) (g2:Gs N w s2 (dg q.den)) (hn:n<1000000000)
  (hK:∀g cap w' g',Grow N base w' (.slice (some ⟨g,0,none⟩) (n+1) cap) (n+1) (upd f n q)->base<=g'->Chg g' (g'+1) w w'->(v.ownBlock=some g'\/g'=w.heap.size)->(v.ownBlock=some g\/g=w.heap.size)->K (a.put o.dst (.slice (some ⟨g,0,none⟩) (n+1) cap)) w') :
  if Region.wanted o (yielded ops a.tmps)=true then Oper.wp Tryz.prog o a w K Q else E:=by
 have hw:Region.wanted o (yielded ops a.tmps)=true:=by simp[Region.wanted,hgd]
 rw[if_pos hw];obtain⟨g,cap,w',g',hrun,h2,h3,h4,h5,h6⟩:=Qo t o.type ht h hb hneg g1 g2 hn;unfold Oper.wp execOp;simp only[ho,resolve,invoke,builtin,Sem.run_bind,Sem.run_pure,Result.andThen_ok,List.map_toArray,List.map_cons,List.map_nil,hs,hx,hrun];exact hK g cap w' g' h2 h3 h4 h5 h6
end
section
structure Mn where
 p:Value->World->Prop
 mono:∀ {v:Value}{w w':World},Ext w w'->p v w->p v w'
def Mn.any:Mn:=⟨fun _ _=>True,fun _ _=>trivial⟩
def Mn.eq (x:Value):Mn:=⟨fun v _=>v=x,fun _ h=>h⟩
def Mn.i (z:Int):Mn:=Mn.eq (.int .i64 z)
def Mn.q (b o:Nat):Mn:=Mn.eq (.pointer (some ⟨b,o,none⟩))
def Mn.t (b:Bool):Mn:=Mn.eq (.bool b)
def sM (l:List Nat):List (Option Tmp):=l.map some
def rF:Nat->List Bool
 | n+1=>false :: rF n
 | 0=>[]
def rQ:Nat->Nat->List Bool
 | m+1,n=>true :: rQ m n
 | 0,n=>rF n
theorem q_k {J Q:Value->World->Prop}(h:Shut (∀v w',Ext w w'->J v w'->Q v w')) (hj:J v w):Q v w:=h.out _ _ (Ext.refl w) hj
def qH:List (Option Tmp)->List Bool->(Nat->Value)->Nat->Act->Act
 | d :: ds,b :: bs,vals,i,a=>qH ds bs vals (i+1) (if b=true then a.put d (vals i) else a)
 | _,_,_,_,a=>a
def nodupB:List (Option Tmp)->Bool
 | []=>true
 | none :: l=>nodupB l
 | some t :: l=>!l.contains (some t)&&nodupB l
def KO (vals:Nat->Value) (i:Nat) (v:Value) (j:Nat):Value:=if j=i then v else vals j
theorem put_comm (a:Act) (d d':Option Tmp) (v v':Value) (h:∀t,d=some t->d'≠some t):(a.put d v).put d' v'=(a.put d' v').put d v:=by
 cases d with
 | none=>rfl
 | some t =>
  cases d' with
  | none=>rfl
  | some t' =>
   have hne:t≠t':=fun e=>h t rfl (by rw[e])
   show ({ a with tmps:=_ }:Act)={ a with tmps:=_ }
   congr 1
   exact Array.setIfInBounds_comm _ _ hne
theorem q4M (a:Act) (d:Option Tmp) (v:Value):(a.put d v).tmps.size=a.tmps.size:=by
 cases d with
 | none=>rfl
 | some t=>simp[Act.put]
theorem Ym (a:Act) (d:Option Tmp) (v:Value){t:Nat}(h:d≠some t):(a.put d v).tmps[t]?=a.tmps[t]?:=by
 cases d with
 | none=>rfl
 | some t' =>
  have hne:t'≠t:=fun e=>h (by rw[e])
  simp[Act.put,Array.getElem?_setIfInBounds,hne]
theorem Xc {d:Option Tmp}{v:Value}:∀(ds:List (Option Tmp)) (bs:List Bool) (vals:Nat->Value) (k:Nat) (a:Act),(∀t,d=some t->ds.contains (some t)=false)->qH ds bs vals k (a.put d v)=(qH ds bs vals k a).put d v
 | [],_,_,_,_,_=>by unfold qH;rfl
 | _ :: _,[],_,_,_,_=>rfl
 | d0 :: ds,b :: bs,vals,k,a,h=>by
  have h1:∀t,d=some t->d0≠some t/\ds.contains (some t)=false:=fun t ht=>by
   have:=h t ht;simp only[List.contains_cons,Bool.or_eq_false_iff,beq_eq_false_iff_ne] at this;exact⟨fun e=>this.1 e.symm,this.2⟩
  show qH ds bs vals (k+1) (if b=true then (a.put d v).put d0 (vals k) else a.put d v)=_
  show _=(qH ds bs vals (k+1) (if b=true then a.put d0 (vals k) else a)).put d v
  rw[<-Xc ds bs vals (k+1) _ (fun t ht=>(h1 t ht).2)];cases b with
  | false=>rfl
  | true =>
   simp only[if_true];rw[put_comm a d d0 v (vals k) (fun t ht=>(h1 t ht).1)]
theorem QK {vals vals':Nat->Value}:∀(ds:List (Option Tmp)) (bs:List Bool) (k:Nat) (a:Act),(∀j,k<=j->vals j=vals' j)->qH ds bs vals k a=qH ds bs vals' k a
 | [],_,_,_,_=>by unfold qH;rfl
 | _ :: _,[],_,_,_=>rfl
 | d0 :: ds,b :: bs,k,a,h=>by
  show qH ds bs vals (k+1) (if b=true then a.put d0 (vals k) else a)=qH ds bs vals' (k+1) (if b=true then a.put d0 (vals' k) else a)
  rw[h k (q_r)];exact QK ds bs (k+1) _ (fun j hj=>h j (by omega))
theorem yE {d:Option Tmp}{ds:List (Option Tmp)}(h:nodupB (d :: ds)=true):nodupB ds=true/\∀t,d=some t->ds.contains (some t)=false:=by
 cases d with
 | none=>exact⟨h,fun t ht=>by cases ht⟩
 | some t0 =>
  unfold nodupB at h;rw[Bool.and_eq_true] at h;exact⟨h.2,fun t ht=>by injection ht with ht;subst ht;simpa using h.1⟩
theorem Qr {d:Option Tmp}{v:Value}:∀(ds:List (Option Tmp)) (bs:List Bool) (vals:Nat->Value) (k i:Nat) (a:Act),nodupB ds=true->bs[i]?=some false->ds[i]?=some d->qH ds (bs.set i true) (KO vals (k+i) v) k a=(qH ds bs vals k a).put d v
 | [],_,_,_,_,_,_,_,hd=>by simp at hd
 | _ :: _,[],_,_,_,_,_,hb,_=>by simp at hb
 | d0 :: ds,b :: bs,vals,k,0,a,hn,hb,hd=>by
  simp only[List.getElem?_cons_zero,Option.some.injEq] at hb hd;subst hb hd;have hn':=yE hn
  show qH ds bs (KO vals (k+0) v) (k+1) (a.put d0 (KO vals (k+0) v k))=(qH ds bs vals (k+1) a).put d0 v
  rw[Xc _ _ _ _ _ hn'.2];have h1:KO vals (k+0) v k=v:=by simp[KO]
  rw[h1,QK (vals':=vals) ds bs (k+1) a (fun j hj=>by unfold KO;rw[if_neg (by omega)])]
 | d0 :: ds,b :: bs,vals,k,i+1,a,hn,hb,hd=>by
  have hn':=yE hn;simp only[List.getElem?_cons_succ] at hb hd
  show qH ds (bs.set i true) (KO vals (k+(i+1)) v) (k+1) (if b=true then a.put d0 (KO vals (k+(i+1)) v k) else a)=(qH ds bs vals (k+1) (if b=true then a.put d0 (vals k) else a)).put d v
  have h1:KO vals (k+(i+1)) v k=vals k:=by unfold KO;rw[if_neg (by omega)]
  have h2:k+(i+1)=k+1+i:=by omega
  rw[h1,h2];exact Qr ds bs vals (k+1) i _ hn'.1 hb hd
theorem Qs {t:Nat}:∀(ds:List (Option Tmp)) (bs:List Bool) (vals:Nat->Value) (k:Nat) (a:Act),ds.contains (some t)=false->(qH ds bs vals k a).tmps[t]?=a.tmps[t]?
 | [],_,_,_,_,_=>by unfold qH;rfl
 | _ :: _,[],_,_,_,_=>rfl
 | d0 :: ds,b :: bs,vals,k,a,h=>by
  simp only[List.contains_cons,Bool.or_eq_false_iff,beq_eq_false_iff_ne] at h
  show (qH ds bs vals (k+1) (if b=true then a.put d0 (vals k) else a)).tmps[t]?=_
  rw[Qs ds bs vals (k+1) _ h.2];cases b with
  | false=>rfl
  | true=>exact Ym a d0 _ (fun e=>h.1 e.symm)
theorem Qu {t:Nat}:∀(ds:List (Option Tmp)) (bs:List Bool) (vals:Nat->Value) (k i:Nat) (a:Act),nodupB ds=true->bs[i]?=some true->ds[i]?=some (some t)->t<a.tmps.size->(qH ds bs vals k a).tmps[t]?=some (vals (k+i))
 | [],_,_,_,_,_,_,_,hd,_=>by simp at hd
 | _ :: _,[],_,_,_,_,_,hb,_,_=>by simp at hb
 | d0 :: ds,b :: bs,vals,k,0,a,hn,hb,hd,ht=>by
  simp only[List.getElem?_cons_zero,Option.some.injEq] at hb hd;subst hb hd;have hn':=yE hn
  show (qH ds bs vals (k+1) (a.put (some t) (vals k))).tmps[t]?=_
  rw[Qs ds bs vals (k+1) _ (hn'.2 t rfl)];simp[Act.put,ht]
 | d0 :: ds,b :: bs,vals,k,i+1,a,hn,hb,hd,ht=>by
  have hn':=yE hn;simp only[List.getElem?_cons_succ] at hb hd
  show (qH ds bs vals (k+1) (if b=true then a.put d0 (vals k) else a)).tmps[t]?=_
  have h2:k+(i+1)=k+1+i:=by omega
  rw[h2];refine Qu ds bs vals (k+1) i _ hn'.1 hb hd ?_
  split
  ·rw[q4M];exact ht
  ·exact ht
theorem fz {p:Nat->Prop}:∀i,i<0->p i:=fun i hi=>absurd hi (Nat.not_lt_zero i)
theorem fs {p:Nat->Prop}(h:∀i,i<n->p i) (hn:p n):∀i,i<n+1->p i:=fun i hi=>by
 rcases Nat.lt_succ_iff_lt_or_eq.1 hi with h1|h1
 ·exact h i h1
 ·rw[h1];exact hn
theorem oOf {T:Array Value}{l:List Value}{t:Nat}(h:T[t]?=l.toArray[t]?) (hv:l[t]?=some v):T[t]?=some v:=by
 rw[h,List.getElem?_toArray];exact hv
theorem pr:(∀(d:Nat) (ds:List Nat),sM (d :: ds)=some d :: sM ds)/\sM []=[]/\(∀(m n:Nat),rQ (m+1) n=true :: rQ m n)/\(∀(n:Nat),rQ 0 (n+1)=false :: rQ 0 n)/\rQ 0 0=[]/\(∀(d:Option Tmp) (ds:List (Option Tmp)) (bs:List Bool) (vals:Nat->Value) (i:Nat) (a:Act),qH (d :: ds) (true :: bs) vals i a=qH ds bs vals (i+1) (a.put d (vals i)))/\(∀(d:Option Tmp) (ds:List (Option Tmp)) (bs:List Bool) (vals:Nat->Value) (i:Nat) (a:Act),qH (d :: ds) (false :: bs) vals i a=qH ds bs vals (i+1) a)/\(∀(bs:List Bool) (vals:Nat->Value) (i:Nat) (a:Act),qH [] bs vals i a=a) /\
  (∀(a:Act) (d:Tmp) (v:Value),a.put (some d) v={ a with tmps:=a.tmps.setIfInBounds d v })/\(∀(a:Act) (v:Value),a.put none v=a)/\(∀(l:List Value) (i:Nat) (v:Value),l.toArray.setIfInBounds i v=(l.set i v).toArray)/\(∀(x:Value) (l:List Value) (v:Value),(x :: l).set 0 v=v :: l)/\(∀(x:Value) (l:List Value) (i:Nat) (v:Value),(x :: l).set (i+1) v=x :: l.set i v) :=
 ⟨fun _ _=>rfl,rfl,fun _ _=>rfl,fun _=>rfl,rfl,fun _ _ _ _ _ _=>rfl,fun _ _ _ _ _ _=>rfl,fun _ _ _ _=>by unfold qH;rfl,nr⟩
section
variable {P:Program}{ops:Array Oper}{Q:Exit->Act->World->Prop}{late:List Nat}
theorem YZ {S:World->Prop}:∀(f:Nat) (listed:Array Bool) (a:Act) (w:World),q0w P ops Q S late f listed a w->q0w P ops Q S late (f+1) listed a w
 | 0,_,_,_,h=>⟨fun _=>h.2,fun i hi=>by rw[h.1] at hi;cases hi⟩
 | f+1,_,_,_,h=>⟨h.1,fun i hi=>wpOp_mono (fun a' w' h'=>⟨h'.1,YZ f _ a' w' h'.2⟩) (h.2 i hi)⟩
theorem JJ {S:World->Prop}{f:Nat}(hfg:f<=g){listed:Array Bool}{a:Act}(h:q0w P ops Q S late f listed a w):q0w P ops Q S late g listed a w:=by
 induction hfg with
 | refl=>exact h
 | step _ ih=>exact YZ _ _ _ _ ih
def cnt (listed:Array Bool):Nat->Nat
 | 0=>0
 | n+1=>cnt listed n+if listed.getD n false=true then 0 else 1
theorem VX {listed:Array Bool}{i:Nat}(hi:i<listed.size) (hf:listed.getD i false=false):∀n,cnt (listed.setIfInBounds i true) n+(if i<n then 1 else 0)=cnt listed n
 | 0=>by simp[cnt]
 | n+1=>by
  have ih:=VX hi hf n;unfold cnt
  by_cases h:i=n
  ·subst h;have h1:(listed.setIfInBounds i true).getD i false=true:=by simp[hi]
   rw[h1,hf,if_pos rfl,if_pos (Nat.lt_succ_self i),if_neg (by decide)];rw[if_neg (Nat.lt_irrefl i)] at ih;omega
  ·rw[Go.getD_set_ne false h]
   have h2:(if i<n+1 then 1 else 0)=if i<n then 1 else 0:=by
    by_cases h3:i<n
    ·rw[if_pos h3,if_pos (by omega)]
    ·rw[if_neg h3,if_neg (by omega)]
   rw[h2];omega
def q7o (ops:Array Oper):Bool:=(List.range ops.size).all fun i=>(jw ops i).all fun j=>decide (j<i)
def q7q (ops:Array Oper) (late:List Nat):Bool:=(List.range ops.size).all fun i=>late.contains i||vK ops late i
def q19 (ds:List (Option Tmp)) (n:Nat):Bool:=ds.all fun d=>match d with|some t=>decide (t<n)|none=>true
def lastB (ops:Array Oper) (late:List Nat):List Bool:=(List.range ops.size).map fun i=>!late.contains i
def oldB (ds:List (Option Tmp)) (late:List Nat) (t:Nat):Bool:=(List.range ds.length).all fun j=>late.contains j||(ds[j]? != some (some t))
theorem ZB {t:Nat}:∀(ds:List (Option Tmp)) (bs:List Bool) (vals:Nat->Value) (k:Nat) (a:Act),(∀j:Nat,bs[j]?=some true->ds[j]?≠some (some t))->(qH ds bs vals k a).tmps[t]?=a.tmps[t]?
 | [],_,_,_,_,_=>by unfold qH;rfl
 | _ :: _,[],_,_,_,_=>rfl
 | d0 :: ds,b :: bs,vals,k,a,h=>by
  show (qH ds bs vals (k+1) (if b=true then a.put d0 (vals k) else a)).tmps[t]?=_
  rw[ZB ds bs vals (k+1) _ (fun j hj=>h (j+1) hj)];cases b with
  | false=>rfl
  | true=>exact Ym a d0 _ (fun e=>h 0 rfl (by rw[e];rfl))
theorem ZA {ds:List (Option Tmp)}{late:List Nat}{listed:Array Bool}{t:Nat}(hl:ds.length=n) (h3:∀j,late.contains j=true->j<n->listed.getD j false=false) (vals:Nat->Value) (a:Act) (h:oldB ds late t=true):(qH ds listed.toList vals 0 a).tmps[t]?=a.tmps[t]?:=by
 refine ZB _ _ _ _ _ (fun j hj hd9=>?_);have hjl:j<ds.length:=(List.getElem?_eq_some_iff.1 hd9).1;have h1:=List.all_eq_true.1 h j (List.mem_range.2 hjl);rw[Bool.or_eq_true] at h1
 rcases h1 with h1|h1
 ·have h2:=h3 j h1 (by omega);rw[Array.getElem?_toList] at hj;rw[Array.getD_eq_getD_getElem?,hj] at h2;cases h2
 ·rw[hd9] at h1;simp at h1
def Stp (P:Program) (ops:Array Oper) (Q:Exit->Act->World->Prop) (late:List Nat) (Js:List Mn) (ds:List (Option Tmp)) (a0:Act) (W:World) (i:Nat):Prop :=
 ∀o,ops.toList[i]?=some o->∀a w,Ext W w->(∀t,oldB ds late t=true->a.tmps[t]?=a0.tmps[t]?) ->
  (∀j,(jw ops i).contains j=true->∀t,ds[j]?=some (some t)->∃v,a.tmps[t]?=some v/\(Js[j]?.getD Mn.any).p v w) ->
  ∀K:Act->World->Prop,Shut (∀v w',Ext w w'->(Js[i]?.getD Mn.any).p v w'->K (a.put o.dst v) w')->if Region.wanted o (yielded ops a.tmps)=true then Oper.wp P o a w K Q else K (a.put o.dst undef) w
theorem stp {Js:List Mn}{ds:List (Option Tmp)}{a0:Act}{W:World}{i:Nat}{o:Oper}(hi:ops.toList[i]?=some o)
  (h:∀a w,Ext W w->(∀(t:Nat) (_:oldB ds late t=true:=by kernel_rfl),a.tmps[t]?=a0.tmps[t]?) ->
   (∀(j t:Nat) (_:(jw ops i).contains j=true:=by kernel_rfl) (_:ds[j]?=some (some t):=by rfl),∃v,a.tmps[t]?=some v/\(Js[j]?.getD Mn.any).p v w) ->
   ∀K:Act->World->Prop,Shut (∀v w',Ext w w'->(Js[i]?.getD Mn.any).p v w'->K (a.put o.dst v) w')->if Region.wanted o (yielded ops a.tmps)=true then Oper.wp P o a w K Q else K (a.put o.dst undef) w):Stp P ops Q late Js ds a0 W i:=by
 intro o' ho';rw[hi] at ho';cases ho'
 exact fun a w e hB hA=>h a w e hB (fun j t h1 h2=>hA j h1 t h2)
theorem Yb (hlow:q7o ops=true){listed:Array Bool}(hsz:listed.size=ops.size):∀n,n<=ops.size->(∀i,i<n->listed.getD i false=true)->(∃i,i<ops.size/\listed.getD i false=false)->∃i,i∈Region.ready .any ops listed:=by
 intro n hn hall hex
 induction h:ops.size-n generalizing n with
 | zero =>
  obtain⟨i,hi,hf⟩:=hex;rw[hall i (by omega)] at hf;cases hf
 | succ k ih =>
  cases hl:listed.getD n false with
  | true=>exact ih (n+1) (by omega) (fun i hi=>by
    by_cases e:i=n
    ·rw[e];exact hl
    ·exact hall i (by omega)) (by omega)
  | false =>
   refine⟨n,mem_ready.2 ⟨?_,?_⟩⟩
   ·have:n<listed.size:=by omega
    simp[this] at hl ⊢;exact hl
   ·have hlt:n<ops.size:=by omega
    refine⟨ops[n],by simp[hlt],fun e he hb=>?_⟩
    have h1:=List.all_eq_true.1 (List.all_eq_true.1 hlow n (by simpa using hlt)) e.on (by
     unfold jw;rw[Array.getElem?_eq_getElem hlt];simp only[List.mem_map,List.mem_filter]
     exact⟨e,⟨by simpa using he,hb⟩,rfl⟩)
    exact hall e.on (by simpa using h1)
theorem q8O {Js:List Mn}{ds:List (Option Tmp)}{a0:Act}{W:World}(hd:ops.toList.map (·.dst)=ds) (hnd:nodupB ds=true) (hsz:q19 ds a0.tmps.size=true) (hlow:q7o ops=true) (hlate:q7q ops late=true)
  (hstep:∀i,i<ops.size->late.contains i=false->Stp P ops Q late Js ds a0 W i)(hk:cnt (lastB ops late).toArray ops.size=k)
  (hdone:∀vals w,Ext W w->(∀j,j<ops.size->late.contains j=false->(Js[j]?.getD Mn.any).p (vals j) w)->xB P ops Q (fun _=>True) late k (lastB ops late).toArray (qH ds (lastB ops late) vals 0 a0) w) :
  ∀(fuel:Nat) (listed:Array Bool) (vals:Nat->Value) (w:World),listed.size=ops.size->Closed ops listed->(∀t,late.contains t=true->t<ops.size->listed.getD t false=false)->cnt listed ops.size<=fuel->Ext W w ->
   (∀j,listed.getD j false=true->(Js[j]?.getD Mn.any).p (vals j) w)->q0w P ops Q (fun _=>True) late fuel listed (qH ds listed.toList vals 0 a0) w:=by
 intro fuel
 induction fuel with
 | zero =>
  intro listed vals w h1 h2 h3 h4 h5 h6
  by_cases hall:∀i,i<ops.size->late.contains i=false->listed.getD i false=true
  ·have hL:listed=(lastB ops late).toArray:=by
    apply Array.ext
    ·simp[lastB,h1]
    ·intro i hi _;have hio:i<ops.size:=by omega
     have e1:listed[i]=listed.getD i false:=by simp[hi]
     rw[e1];simp only[lastB,List.getElem_toArray,List.getElem_map,List.getElem_range];cases hc:late.contains i with
     | false=>exact hall i hio hc
     | true=>exact h3 i hc hio
   subst hL;have:=hdone vals w h5 (fun j hj hc=>h6 j (hall j hj hc)) h2;rw[hk] at h4;exact JJ h4 this
  ·exfalso
   apply hall
   intro i hi _
   have hz:∀n,n<=ops.size->cnt listed n=0->∀i,i<n->listed.getD i false=true:=by
    intro n
    induction n with
    | zero=>intro _ _ i hi;omega
    | succ n ih =>
     intro hn hc i hi;unfold cnt at hc
     by_cases e:i=n
     ·subst e
      by_cases hg:listed.getD i false=true
      ·exact hg
      ·rw[if_neg hg] at hc;omega
     ·exact ih (by omega) (by omega) i (by omega)
   exact hz ops.size (q_r) (by omega) i hi
 | succ fuel ih =>
  intro listed vals w h1 h2 h3 h4 h5 h6
  by_cases hall:∀i,i<ops.size->late.contains i=false->listed.getD i false=true
  ·have hL:listed=(lastB ops late).toArray:=by
    apply Array.ext
    ·simp[lastB,h1]
    ·intro i hi _;have hio:i<ops.size:=by omega
     have e1:listed[i]=listed.getD i false:=by simp[hi]
     rw[e1];simp only[lastB,List.getElem_toArray,List.getElem_map,List.getElem_range];cases hc:late.contains i with
     | false=>exact hall i hio hc
     | true=>exact h3 i hc hio
   subst hL;have:=hdone vals w h5 (fun j hj hc=>h6 j (hall j hj hc)) h2;rw[hk] at h4;exact JJ h4 this
  ·have hex:∃i,i<ops.size/\late.contains i=false/\listed.getD i false=false:=by
    apply Classical.byContradiction
    intro hno
    apply hall
    intro i hi hc;cases hl:listed.getD i false with
    | true=>rfl
    | false=>exact absurd ⟨i,hi,hc,hl⟩ hno
   obtain⟨u,hu,huc,hul⟩:=hex;have hne:=Yb hlow h1 0 (Nat.zero_le _) (fun i hi=>by omega) ⟨u,hu,hul⟩;refine⟨fun h0=>?_,fun i hi=>?_⟩
   ·obtain⟨i,hi⟩:=hne;rw[h0] at hi;cases hi
   ·have hun:=vZ hi;obtain⟨hun2,o,ho,-⟩:=mem_ready.1 hi;have hio:i<ops.size:=(Array.getElem?_eq_some_iff.1 ho).1
    have hic:late.contains i=false:=by
     cases hc:late.contains i with
     | false=>rfl
     | true =>
      have hw:=List.all_eq_true.1 hlate u (by simpa using hu);rw[huc,Bool.false_or] at hw;have:=jC hw h2 hi hc;rw[hul] at this;cases this
    have ho':ops.toList[i]?=some o:=by rw[Array.getElem?_toList];exact ho
    have hdi:ds[i]?=some o.dst:=by rw[<-hd,List.getElem?_map,ho'];rfl
    have hbi:listed.toList[i]?=some false:=by
     rw[Array.getElem?_toList];have:i<listed.size:=by omega
     simp[this] at hun ⊢;exact hun
    refine wpOp_step ho (fun K' hK=>?_);refine hstep i hio hic o ho' _ w h5 (fun t ht=>ZA (by rw[<-hd];simp) h3 vals a0 ht) (fun j hj t ht=>?_) K' (fun v w' e hJ=>hK _ _ ⟨fun _ _=>trivial,?_⟩)
    ·have hjl:=xN hi j (by simpa using hj);refine⟨vals j,?_,h6 j hjl⟩
     have hjs:j<listed.size:=by
      rcases Nat.lt_or_ge j listed.size with h|h
      ·exact h
      ·simp[Array.getElem?_eq_none h] at hjl
     have:=Qu ds listed.toList vals 0 j a0 hnd (by rw[Array.getElem?_toList];simp[hjs] at hjl ⊢;exact hjl) ht (by
      have:=List.all_eq_true.1 hsz (some t) (List.mem_of_getElem? ht)
      simpa using this)
     rw[Nat.zero_add] at this;exact this
    ·have hc:=VX (by omega:i<listed.size) hun ops.size;rw[if_pos hio] at hc;have hps:=Qr (v:=v) ds listed.toList vals 0 i a0 hnd hbi hdi;rw[Nat.zero_add] at hps;rw[<-hps,<-Array.toList_setIfInBounds];refine ih (listed.setIfInBounds i true) (KO vals i v) w' (by simpa using h1) (h2.set hi) (fun t htl htn=>?_) (by omega) (h5.trans e) (fun j hj=>?_)
     ·rw[Go.getD_set_ne false (fun e=>by subst e;rw[hic] at htl;cases htl)];exact h3 t htl htn
     ·by_cases hji:i=j
      ·subst hji;have:KO vals i v i=v:=by simp[KO]
       rw[this];exact hJ
      ·rw[Go.getD_set_ne false hji] at hj;have:KO vals i v j=vals j:=by unfold KO;rw[if_neg (fun e=>hji e.symm)]
       rw[this];exact (Js[j]?.getD Mn.any).mono e (h6 j hj)
theorem q0M (Js:List Mn) (ds:List (Option Tmp)) (late:List Nat) (bs:List Bool) (k:Nat){id:Nat}{a0:Act}{W:World}(hm:P.follows .mixedOrders=true) (hd:ops.toList.map (·.dst)=ds) (hnd:nodupB ds=true) (hsz:q19 ds a0.tmps.size=true) (hlow:q7o ops=true) (hlate:q7q ops late=true)
  (hb:lastB ops late=bs) (hk:cnt bs.toArray ops.size=k) (hstep:∀i,i<ops.size->late.contains i=false->Stp P ops Q late Js ds a0 W i)
  (hdone:∀vals w,Ext W w->(∀j,j<ops.size->late.contains j=false->(Js[j]?.getD Mn.any).p (vals j) w)->xB P ops Q (fun _=>True) late k bs.toArray (qH ds bs vals 0 a0) w) :
  (Code.region id ops true).wp P Q a0 W:=by
 subst hb
 have h0:∀n,qH ds (Array.replicate n false).toList (fun _=>undef) 0 a0=a0:=by
  intro n;simp only[Array.toList_replicate]
  have:∀(ds:List (Option Tmp)) (n k:Nat),qH ds (List.replicate n false) (fun _=>undef) k a0=a0:=by
   intro ds
   induction ds with
   | nil=>intro n k;unfold qH;rfl
   | cons d ds ih =>
    intro n k;cases n with
    | zero=>rfl
    | succ n=>exact ih n (k+1)
  exact this ds n 0
 have hc0:∀(n:Nat) (l:Array Bool),cnt l n<=n:=by
  intro n l
  induction n with
  | zero=>exact q_r
  | succ n ih=>unfold cnt;split<;>omega
 have hf0:∀j,(Array.replicate ops.size false).getD j false=false:=fun j=>by
  rw[Array.getD_eq_getD_getElem?,Array.getElem?_replicate];split<;>rfl
 have:=q8O (P:=P) (Q:=Q) (late:=late) hd hnd hsz hlow hlate hstep hk hdone ops.size (Array.replicate ops.size false) (fun _=>undef) W.drew (by simp) (Closed.start _) (fun t _ _=>hf0 t) (hc0 _ _) (Ext.refl W).drew (fun j hj=>by rw[hf0 j] at hj;cases hj);rw[h0] at this;exact wp_region_any hm (jG _ _ _ _ this)
def invB (P:Program) (ops:Array Oper) (ds:List (Option Tmp)) (late:List Nat) (bs:List Bool) (k n:Nat):Bool :=
 P.follows .mixedOrders&&(decide (ops.toList.map (·.dst)=ds)&&(nodupB ds&&(q19 ds n&&(q7o ops&&(q7q ops late&&(decide (lastB ops late=bs)&&decide (cnt bs.toArray ops.size=k)))))))
theorem yB (Js:List Mn) (ds:List (Option Tmp)) (late:List Nat) (bs:List Bool) (k:Nat){id:Nat}{a0:Act}{W:World}(h:invB P ops ds late bs k a0.tmps.size=true) (hstep:∀i,i<ops.size->late.contains i=false->Stp P ops Q late Js ds a0 W i)
  (hdone:∀vals w,Ext W w->(∀j,j<ops.size->late.contains j=false->(Js[j]?.getD Mn.any).p (vals j) w)->xB P ops Q (fun _=>True) late k bs.toArray (qH ds bs vals 0 a0) w) :
  (Code.region id ops true).wp P Q a0 W:=by
 unfold invB at h;simp only[Bool.and_eq_true,decide_eq_true_eq] at h;obtain⟨h1,h2,h3,h4,h5,h6,h7,h8⟩:=h;exact q0M Js ds late bs k h1 h2 h3 h4 h5 h6 h7 h8 hstep hdone
end
end
section
open Go.RowKit
def Mn.rat (N:Nat) (q:Rat):Mn:=⟨fun v w=>qX N w v q,fun e h=>h.ext e⟩
def Mn.ls (N n:Nat) (x:q_v):Mn:=⟨fun v w=>LsV N 0 w.heap.size w v n x,fun e h=>LsR.wide (h.ext e) (q_r) e.size (q_r)⟩
def Mn.mt (N m n:Nat) (X:q_m):Mn:=⟨fun v w=>MtV N 0 w.heap.size w v m n X,fun e h=>MtR.wide (h.ext e) (q_r) e.size (q_r)⟩
def Mn.blk (lo:Nat) (o:Obj):Mn:=⟨fun v w=>∃g,v=.pointer (some ⟨g,0,none⟩)/\lo<=g/\w.heap[g]?=some o,fun e h=>by
  obtain⟨g,h0,h1,h2⟩:=h
  exact⟨g,h0,h1,e.block h2⟩⟩
theorem q7c{b:Bool}{t:Value}{q:Rat}(hN:N<=w.heap.size) (h:w.heap[g]?=some (.cells #[.bool b,s,.bool false,t] 35 (0,0))) (hb:Hid (b=decide (q.num<0))) (h1:Gs N w s (dg q.num.natAbs)) (h2:Gs N w t (dg q.den)) :
  LsV N 0 w.heap.size w (.slice (some ⟨g,0,none⟩) 1 1) 1 (fun _=>q):=by
 refine⟨hN,q_r,_,1,rfl,q_r,by unfold maxLen;omega,fun _=>⟨g,0,rfl,Nat.zero_le _,qF h,fun i hi=>?_⟩⟩;obtain rfl:i=0:=by omega
 refine⟨s,t,?_,qh h 1,qh h 2,qh h 3,h1,h2⟩
 show w.cell? ⟨g,0,none⟩=some (.bool (decide (q.num<0)))
 rw[<-hb.out];exact qh h 0
def Mn.rbk (N:Nat) (q:Rat):Mn:=⟨fun v w=>∃g,v=.slice (some ⟨g,0,none⟩) 1 1/\je N w g q,fun e h=>by
  obtain⟨g,h0,h1⟩:=h
  exact⟨g,h0,h1.ext e⟩⟩
end
end Go.Proofs.YtflhlobiipejeaaGreat
