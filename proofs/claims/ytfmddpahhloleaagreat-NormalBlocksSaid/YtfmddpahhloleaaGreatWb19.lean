import Derived.Test.YtfmddpahhloleaaGreatWb18
set_option linter.all false
set_option maxHeartbeats 8000000
namespace Go.Proofs.YtfmddpahhloleaaGreat
open Go.RowKit
variable {w:World} {N n lo hi k m c:Nat} {v:Value} {q:Rat} {A:Option Addr}
theorem Sz.raw (h:Sz q):xW (raw q):=by
 exact⟨q_l h.1 (by omega),q_l h.2 (by omega)⟩
theorem JF {R:Nat->Raw} (h:LsR N lo hi w v n R) (hs:∀ i,i < n->xW (R i)) :
  Calls Tryz.prog 209 #[v] w (zL w (.bool (allB n (fun i=>okR (R i))))):=by
 obtain⟨r,hr⟩:=qc (allB n (fun i=>okR (R i)));rw [<-hr.out];obtain⟨A,c,rfl,hnc,hcm⟩:=h.form;unfold maxLen at hcm;have hI:=h;have HS:=q_h hs;clear h hs;have HR:Hid (r=!jk n (fun i=>!okR (R i))):=by rw [Hid,hr.out,X8]
 obtain⟨s,hs⟩:=qc (jk n (fun i=>!okR (R i)));rw [<-hs.out] at HR;go_enter Tryz.func209,Tryz.ntmps209;go_wp2_with (go_at_call 126; refine q_o ?_);refine (Ws hI (fun i=>!okR (R i)) (fun i hi w' u e hu=>q29 hu (HS.out i hi))).mono ?_;rintro e w1 ⟨rfl,e1⟩;rw [<-hs.out];go_wp2;go_ret;exact⟨qw HR.out.symm,e1⟩
theorem jF {x:Nat->Rat} (h:LsV N lo hi w v n x) (hs:∀ i,i < n->Sz (x i)) :
  Calls Tryz.prog 209 #[v] w (zL w (.bool true)):=by
 have h9:allB n (fun i=>okR (raw (x i)))=true:=qg.2 (fun i _=>kN _);have h8:=JF h (fun i hi=>(hs i hi).raw);rw [h9] at h8;exact h8
theorem q28 {lo' hi':Nat} {u:Value} {gb:Nat} {X:Nat->Nat->Rat} {x:Nat->Rat} (hb:w.cell? ⟨gb,0,none⟩=some (.slice A m c)) (h:MtV N lo hi w (.slice A m c) m n X) (h':LsV N lo' hi' w u n x) (hm0:0 < m) (hs:∀ i,i < n->Sz (x i)) :
  Calls Tryz.prog 208 #[u,.pointer (some ⟨gb,0,none⟩)] w (zL w (.bool false)):=by
 obtain⟨b,off,rfl,-,-,hx⟩:=h.addr (by omega);obtain⟨A0,c0,o0,hc0,hm0',-⟩:=hx 0 (by omega);rw [Nat.add_zero] at o0;obtain⟨A1,c1,rfl,hn1,hm1⟩:=h'.form;unfold maxLen at hm0' hm1;have hI:=h';have HS:=q_h hs;have t1:((n:Int) != (n:Int))=false:=by simp
 clear h h' hx hs;go_enter Tryz.func208,Tryz.ntmps208;go_wp2_with (go_at_call 209; refine q_o ?_);refine (jF hI HS.out).mono ?_;rintro e w1 ⟨rfl,e1⟩;go_wp2;go_ret;exact⟨rfl,e1⟩
theorem yA {X:Nat->Nat->Rat} (h:MtV N lo hi w v m n X) (hm0:0 < m) (hm:m<=64) (hn0:0 < n) (hn:n<=64) (hs:∀ i,i < m->∀ j,j < n->Sz (X i j)) :
  Calls Tryz.prog 166 #[v] w (zL w (.int .i64 0)):=by
 obtain⟨A,c,rfl,hmc,hcm⟩:=h.form;have hI:=h;obtain⟨b,off,rfl,-,-,hx⟩:=h.addr hm0;obtain⟨A0,c0,o0,hc0,hm0',-⟩:=hx 0 (by omega);rw [Nat.add_zero] at o0;unfold maxLen at hm0' hcm;have HS:=q_h hs;have HF:Hid (jk m (fun _=>false)=false):=zM.2 (fun _ _=>rfl);clear h hx hs;go_enter Tryz.func166,Tryz.ntmps166;go_upto_region 1 with (fail);refine qo ?_;intro W hE hsz B0;obtain⟨a0,-⟩:=qW B0;replace o0:=hE.cell o0;go_wp2_with (go_at_call 116; refine q_o ?_);refine (Wq (hI.ext hE) _ (fun _=>false) (fun i hi w' u e hu=>q28 (e.cell a0) (hI.ext (hE.trans e)) hu hm0 (HS.out i hi))).mono ?_;rintro e w1 ⟨rfl,e1⟩;rw [HF.out];go_wp2;go_ret;exact⟨rfl,hE.trans e1⟩
theorem q20 {X:Nat->Nat->Rat} (h:MtV N lo hi w v n n X) (hn0:0 < n) (hn:n<=64) (hs:∀ i,i < n->∀ j,j < n->Sz (X i j)) :
  Calls Tryz.prog 134 #[v] w (zL w (.int .i64 0)):=by
 obtain⟨A,c,rfl,hmc,hcm⟩:=h.form;have hI:=h;obtain⟨b,off,rfl,-,-,hx⟩:=h.addr hn0;obtain⟨A0,c0,o0,hc0,hm0',-⟩:=hx 0 (by omega);rw [Nat.add_zero] at o0;unfold maxLen at hm0' hcm;have HS:=q_h hs;have t1:((n:Int) != (n:Int))=false:=by simp
 clear h hx hs;go_enter Tryz.func134,Tryz.ntmps134;go_wp2_with (go_at_call 166; refine q_o ?_);refine (yA hI hn0 hn hn0 hn HS.out).mono ?_;rintro e w1 ⟨rfl,e1⟩;replace o0:=e1.cell o0;go_wp2;go_ret;exact⟨rfl,e1⟩
def Y8 (N:Nat) (w:World) (m n:Nat) (M:Nat->Nat->Rat) (p:List Nat) (e:Ending) (w':World):Prop :=
 ∃ h cap β κ A c,e=.returned (.tuple #[.slice (some ⟨h,0,none⟩) m cap,.slice A p.length c,.int .i64 0])/\cap<=maxLen/\zu N w.heap.size w'.heap.size w' h cap m n β κ M/\IsV w.heap.size w'.heap.size w' (.slice A p.length c) p/\Ext w w'
theorem q0f {X:Nat->Nat->Rat} (h:MtV N lo hi w v m n X) (hm0:0 < m) (hm:m<=64) (hn0:0 < n) (hn:n<=64)
  {q P:Nat} (hq:HtM m n q X) (hP:m<=P\/n<=P) (hK:5*(5 ^ P*q)<=29000000000) :
  Calls Tryz.prog 184 #[v] w (Y8 N w m n (qH m X n).1 (qH m X n).2):=by
 obtain⟨Rf,hRf⟩:=qc (Y8 N w m n (qH m X n).1 (qH m X n).2);rw [<-hRf.out];have hN:=h.le;obtain⟨A,c,rfl,hmc,hcm⟩:=h.form;have hI:=h;have hq1:q<=5 ^ P*q:=Nat.le_mul_of_pos_left _ (Nat.pow_pos (by omega));have HS:Hid (∀ i,i < m->∀ j,j < n->Sz (X i j)):=fun i hi j hj=>(hq i hi j hj).sz (by omega)
 have HQ:=q_h hq;have HP:=q_h hP;have HK:=q_h hK;clear h hq hP hK hq1;go_enter Tryz.func184,Tryz.ntmps184;go_wp2_with (go_at_call 166; refine q_o ?_);refine (yA hI hm0 hm hn0 hn HS.out).mono ?_;rintro e w1 ⟨rfl,e1⟩;go_wp2_with (go_at_call 221; refine q_o ?_);refine (q26 (hI.ext e1) hm0 (by omega) (by omega)).mono ?_;rintro e w2 ⟨h2,cap2,β2,κ2,rfl,hcap2,ho2,e2⟩;have r0:=ho2.hcell hm0;have hcap0:=ho2.cap 0 hm0;unfold maxLen at hcap0;go_wp2_with (go_at_call 138; refine q_o ?_);refine (Kv ho2 (by omega) (by omega) n rfl (q_r) HQ.out HP.out HK.out).mono ?_;rintro e w3 ⟨β3,κ3,A3,c3,rfl,ho3,hi3,C3⟩;have e3:Ext w w3:=C3.ext (e1.trans e2) (by have:=e1.size; omega);clear r0;go_wp2;go_ret3;rw [hRf.out];have hs1:=e1.size;have hs2:=e2.size;have hs3:=C3.size;exact⟨h2,cap2,β3,κ3,A3,c3,rfl,hcap2,ho3.wide (by omega) (by omega) (by omega) (q_r),hi3.wide (by omega) (q_r) (q_r),e3⟩
theorem q2a {gb:Nat} {X:Nat->Nat->Rat} (hb:w.cell? ⟨gb,0,none⟩=some (.slice A m c)) (h:MtV N lo hi w (.slice A m c) m n X) (hm0:0 < m) :
  Calls Tryz.prog 176 #[.pointer (some ⟨gb,0,none⟩)] w (zL w (.int .i64 (n:Int))):=by
 obtain⟨b,off,rfl,-,-,hx⟩:=h.addr (by omega);obtain⟨A0,c0,o0,hc0,hm0',-⟩:=hx 0 (by omega);rw [Nat.add_zero] at o0;unfold maxLen at hm0';clear h hx;go_enter Tryz.func176,Tryz.ntmps176;go_wp2;go_ret;exact⟨rfl,Ext.refl w⟩
theorem q5e {lo' hi':Nat} {u:Value} {gb:Nat} {X:Nat->Nat->Rat} {x:Nat->Rat} (hb:w.cell? ⟨gb,0,none⟩=some (.slice A m c)) (h:MtV N lo hi w (.slice A m c) m n X) (h':LsV N lo' hi' w u n x) (hm0:0 < m) (hm:m<=64) (hn0:0 < n) (hn:n<=64) (hs:∀ i,i < m->∀ j,j < n->Sz (X i j)) (hs':∀ i,i < n->Sz (x i)) :
  Calls Tryz.prog 175 #[.slice A m c,u,.func (.func 176) #[] #[.pointer (some ⟨gb,0,none⟩)]] w (zL w (.int .i64 0)):=by
 obtain⟨A1,c1,rfl,hn1,hm1⟩:=h'.form;unfold maxLen at hm1;have hI:=h;have hI':=h';have HS:=q_h hs;have HS':=q_h hs';have t1:((n:Int) != (n:Int))=false:=by simp
 clear h h' hs hs';go_enter Tryz.func175,Tryz.ntmps175;go_wp2_with (go_at_call 166; refine q_o ?_);refine (yA hI hm0 hm hn0 hn HS.out).mono ?_;rintro e w1 ⟨rfl,e1⟩;go_wp2_with (go_at_call 209; refine q_o ?_);refine (jF (hI'.ext e1) HS'.out).mono ?_;rintro e w2 ⟨rfl,e2⟩;go_wp2_with (go_at_call 176; refine q_o ?_);refine (q2a ((e1.trans e2).cell hb) (hI.ext (e1.trans e2)) hm0).mono ?_;rintro e w3 ⟨rfl,e3⟩;go_wp2;go_ret;exact⟨rfl,(e1.trans e2).trans e3⟩
end Go.Proofs.YtfmddpahhloleaaGreat
namespace Go.Proofs.YtfmddpahhloleaaGreat
variable {w:World} {N n lo hi k m c:Nat} {v:Value} {q:Rat} {A:Option Addr}
def vM (n:Nat) (X:Nat->Nat->Rat) (i:Nat):Nat->Rat:=cat n (X i) (dlt i)
theorem KR {q:Nat} {X:Nat->Nat->Rat} (h:HtM n n q X):HtM n (n+n) (q+1) (vM n X):=by
 intro i hi j hj;unfold vM cat
 split
 ·exact (h i hi j (by assumption)).mono (by omega)
 ·unfold dlt; split
  ·exact Ht.one.mono (by omega)
  ·exact Ht.zero.mono (by omega)
def kD (r:Nat) (K:Nat->Nat->Rat) (i j:Nat):Rat:=(qH r (vM r K) r).1 i (r+j)
theorem QY (r:Nat) (K:Nat->Nat->Rat):vM r K=zf r K:=by funext i c; rfl
end Go.Proofs.YtfmddpahhloleaaGreat
namespace Go.Proofs.YtfmddpahhloleaaGreat
open Go.RowKit
variable {w:World} {N n lo hi k m c:Nat} {v:Value} {q:Rat} {A:Option Addr}
theorem q0j {lo' hi':Nat} {v':Value} {X:Nat->Nat->Rat} {x:Nat->Rat} (h:MtV N lo hi w v m n X) (h':LsV N lo' hi' w v' n x) (hm:m < 1000000)
  {k':Nat} (hk:HtM m n k X) (hk':HtL n k' x) (hK:n*(k+k'+1)+1<=29000000000) :
  Calls Tryz.prog 177 #[v,v'] w (q2R N w m (fun i=>sum n (fun c=>X i c*x c))):=by
 have hN:=h.le;obtain⟨A,c,rfl,hmc,hcm⟩:=h.form;obtain⟨A',c',rfl,hnc,hcm'⟩:=h'.form;have hI:=h;have hI':=h';have HK:=q_h hk;have HK':=q_h hk';have HB:=q_h hK;clear h h' hk hk' hK hcm hcm';go_enter Tryz.func177,Tryz.ntmps177;go_wp2
 go_loopw [5,10] (fun v i wr=>∃ k:Nat,k<=m/\i=.int .i64 k/\Ext w wr/\∃ A c,v=.slice A k c/\Grow N w.heap.size wr (.slice A k c) k (fun i=>sum n (fun c=>X i c*x c))) (fun _ i _=>m - (intOf i).toNat)
 case atStart=>exact⟨0,Nat.zero_le _,rfl,Ext.refl w,_,_,rfl,Grow.nil hN (q_r) _⟩
 case round =>
  obtain⟨i,hi,rfl,hE,A3,c3,rfl,hG⟩:=hrel;have hsz:=hE.size
  by_cases hlt:i < m
  ·obtain⟨b,off,rfl,-,-,hx⟩:=(hI.ext hE).addr (by omega);obtain⟨A4,c4,p0,-,-,hl⟩:=hx i hlt;clear hx;go_wp2_with (go_at_call 143; refine q_o ?_);refine (q5f hl (hI'.ext hE) (HK.out i hlt) HK'.out HB.out).mono ?_;intro e w1 hh;obtain⟨b1,A1,k1,c1,A2,k2,c2,rfl,hb1,g1,g2,e1⟩:=hh.form;replace hE:=hE.trans e1;replace hG:=hG.ext e1;have hsz1:=e1.size;clear p0 hl;go_wp2_with (at_builtin; refine q_o ?_);refine qo ?_;intro w2 e2 hsz2 BX;replace hE:=hE.trans e2;replace hG:=hG.ext e2;refine zT rfl _ _ 24 Tryz.underlying24 rfl rfl hG rfl BX hb1 (g1.ext e2) (g2.ext e2) (by omega) ?_;rintro g cap' w3 hG3 ⟨g',hg',c5,-⟩ -;replace hE:=c5.ext hE (by omega);replace hG3:=hG3.congr (y:=fun i=>sum n (fun c=>X i c*x c)) (fun j _=>by unfold upd; split <;> simp_all);clear hG c5 BX e1 e2 g1 g2 hb1;go_wp2;go_roundw
   case rel=>exact⟨i+1,by omega,by go_num,hE,_,_,rfl,hG3⟩
   case measure=>simp [intOf]; omega
  ·obtain rfl:i=m:=by omega
   go_wp2;go_ret;exact⟨A3,c3,rfl,hG.lsv (q_r) rfl,hE⟩
def RetL2 (N:Nat) (w:World) (n:Nat) (x:Nat->Rat) (e:Ending) (w':World):Prop:=∃ A c,e=.returned (.tuple #[.slice A n c,.int .i64 0])/\LsV N w.heap.size w'.heap.size w' (.slice A n c) n x/\Ext w w'
theorem q4d {lo' hi':Nat} {v':Value} {X:Nat->Nat->Rat} {x:Nat->Rat} (h:MtV N lo hi w v m n X) (h':LsV N lo' hi' w v' n x) (hm0:0 < m) (hm:m<=64) (hn0:0 < n) (hn:n<=64)
  {k':Nat} (hk:HtM m n k X) (hk':HtL n k' x) (hK:n*(k+k'+1)+1<=29000000000) :
  Calls Tryz.prog 113 #[v,v'] w (RetL2 N w m (fun i=>sum n (fun c=>X i c*x c))):=by
 have hN:=h.le;have h1:=Nat.le_mul_of_pos_left (k+k'+1) hn0;have HS:Hid (∀ i,i < m->∀ j,j < n->Sz (X i j)):=fun i hi j hj=>(hk i hi j hj).sz (by omega)
 have HS':Hid (∀ i,i < n->Sz (x i)):=fun i hi=>(hk' i hi).sz (by omega)
 obtain⟨A,c,rfl,hmc,hcm⟩:=h.form;obtain⟨A',c',rfl,hnc,hcm'⟩:=h'.form;have hI:=h;have hI':=h';have HK:=q_h hk;have HK':=q_h hk';have HB:=q_h hK;clear h h' hk hk' hK hcm hcm' h1;go_enter Tryz.func113,Tryz.ntmps113;go_wp2_with (go_at_call 175; refine q_o ?_);refine qJ ?_;intro W hE hsz B0;obtain⟨a0,-⟩:=qW B0;refine (q5e a0 (hI.ext hE) (hI'.ext hE) hm0 hm hn0 hn HS.out HS'.out).mono ?_;rintro e w1 ⟨rfl,e1⟩;replace hE:=hE.trans e1;replace a0:=e1.cell a0;go_wp2_with (go_at_call 177; refine q_o ?_);refine (q0j (hI.ext hE) (hI'.ext hE) (by omega) HK.out HK'.out HB.out).mono ?_;rintro e w2 ⟨A2,c2,rfl,h2,e2⟩;clear a0;go_wp2;go_ret2;exact⟨A2,c2,rfl,LsR.wide h2 (by have:=e1.size; have:=hE.size; omega) (q_r) (q_r),hE.trans e2⟩
def q3q (N:Nat) (w:World) (n:Nat) (M:Nat->Nat->Rat) (p:List Nat) (e:Ending) (w':World):Prop :=
 Ext w w'/\((p.length < n/\e=.returned (.tuple #[.slice none 0 0,.int .i64 14]))\/(n<=p.length/\∃ h cap β κ,e=.returned (.tuple #[.slice (some ⟨h,0,none⟩) n cap,.int .i64 0])/\cap<=maxLen/\zu N w.heap.size w'.heap.size w' h cap n n β κ (fun i j=>M i (n+j))))
set_option maxRecDepth 100000 in
theorem XM {X:Nat->Nat->Rat} (h:MtV N lo hi w v n n X) (hn0:0 < n) (hn:n<=64)
  {q:Nat} (hq:HtM n n q X) (hK:5*(5 ^ n*(q+1))<=29000000000) :
  Calls Tryz.prog 72 #[v] w (q3q N w n (qH n (vM n X) n).1 (qH n (vM n X) n).2):=by
 obtain⟨Rf,hRf⟩:=qc (q3q N w n (qH n (vM n X) n).1 (qH n (vM n X) n).2);rw [<-hRf.out];have hN:=h.le;obtain⟨A,c,rfl,hmc,hcm⟩:=h.form;unfold maxLen at hcm;have hI:=h;have hq1:q+1<=5 ^ n*(q+1):=Nat.le_mul_of_pos_left _ (Nat.pow_pos (by omega));have HS:Hid (∀ i,i < n->∀ j,j < n->Sz (X i j)):=fun i hi j hj=>(hq i hi j hj).sz (by omega)
 have HQ:=q_h (KR hq);have HK:=q_h hK;have hw1:IntKind.i64.wrap ((n:Int)+(n:Int))=(n:Int)+(n:Int):=IntWalk.i64_in _ (by omega);clear h hq hK hq1;go_enter Tryz.func72,Tryz.ntmps72;go_wp2_with (go_at_call 134; refine q_o ?_);refine (q20 hI hn0 hn HS.out).mono ?_;rintro e w1 ⟨rfl,hE⟩;go_upto_region 5 with (fail);refine qo ?_;intro W e1 hsz B0;have hgn1:w.heap.size<=w1.heap.size:=hE.size;replace hE:=hE.trans e1;obtain⟨gn,hgn⟩:∃ gn,gn=w1.heap.size:=⟨_,rfl⟩
 rw [<-hgn] at B0 hgn1 hsz ⊢;clear e1 hgn;obtain⟨a0,-⟩:=qW B0;go_wp2_with (go_at_call 136; refine q_o ?_);refine (JE (N:=N) (by omega) n n rfl rfl (by omega) (by omega) (fun i=>dlt i) (fun i hi j hj w' e=>q5a (by have:=e.size; omega) i j (by omega) (by omega))).mono ?_;intro e w2 hh;obtain⟨A2,c2,rfl,h2,e2⟩:=hh.mt;replace hE:=hE.trans e2;replace a0:=e2.cell a0;replace B0:=e2.block B0;have hs2:=e2.size;clear e2;go_wp2_with (go_at_call 135; refine q_o ?_);refine (Yx (hI.ext hE) h2 hn0 (by omega) (by omega) (by omega)).mono ?_;rintro e w3 ⟨h3,cap3,β3,κ3,rfl,hcap3,ho3,e3⟩;replace hE:=hE.trans e3;replace a0:=e3.cell a0;replace B0:=e3.block B0;have hs3:=e3.size;replace ho3:zu N w2.heap.size w3.heap.size w3 h3 cap3 n (n+n) β3 κ3 (vM n X):=ho3;clear e3 h2;go_upto_region 6 with (fail);refine qo ?_;intro w4 e4 hsz4 B4;replace hE:=hE.trans e4;replace a0:=e4.cell a0;replace B0:=e4.block B0;replace ho3:=ho3.ext e4;obtain⟨b0,-⟩:=qW B4;have l4:=cell_lt b0;simp only at l4;have l0:=cell_lt a0;simp only at l0;clear e4;obtain⟨M,hM⟩:=qc (qH n (vM n X) n).1;obtain⟨p,hp⟩:=qc (qH n (vM n X) n).2;rw [<-hM.out,<-hp.out] at hRf;have eC:=(Ext.refl w4).drew;refine qm (fun w'=>w'.cell? ⟨gn,0,none⟩=some (.int .i64 (n:Int))/\w'.cell? ⟨w3.heap.size,0,none⟩=some (.slice (some ⟨h3,0,none⟩) n cap3)) [] (by kernel_rfl) (by exact⟨eC.cell a0,eC.cell b0⟩) (fun hHeld=>?_)
 refine sT 0 (h:=?_);try simp only [nr]
 refine sT 1 (h:=?_);try simp only [nr]
 refine sT 4 (h:=?_);try simp only [nr]
 refine qj (i:=2) rfl (by kernel_rfl) (fun K hK=>?_);go_simp;refine (Kv (ho3.ext eC) (by omega) (by omega) n rfl (by omega) HQ.out (P:=n) (.inl (q_r)) HK.out).mono ?_;rintro e w5 ⟨β5,κ5,A5,c5,rfl,ho5,hi5,C5⟩;have hE5:Ext w w5:=C5.ext (hE.trans eC) (by omega);replace B0:=C5.blk (eC.block B0) (.inl (by omega));replace B4:=C5.blk (eC.block B4) (.inr (q_r));replace a0:=C5.cell (eC.cell a0) (.inl (show gn < w2.heap.size by omega));replace b0:=C5.cell (eC.cell b0) (.inr (q_r));replace eC:=Ext.refl w5;rw [<-hp.out] at hi5 ⊢;rw [<-hM.out] at ho5;go_wp2_with fail;clear hHeld;refine hK.out _ _ (by exact⟨eC.cell a0,eC.cell b0⟩) fun hHeld=>?_
 clear hK K;try simp only [nr]
 refine sP 3 (h:=?_);try simp only [nr]
 refine sP 5 (h:=?_);try simp only [nr]
 refine qh (by kernel_rfl) ?_ _;clear hHeld;have hs5:w4.heap.size<=w5.heap.size:=C5.size
 by_cases hlt:p.length < n
 ·have hd:decide (p.length < n)=true:=q_t hlt;clear a0 b0 hw1;rw [hd];go_wp2;rw [hRf.out];exact⟨hE5,.inl ⟨hlt,rfl⟩⟩
 ·have hd:decide (p.length < n)=false:=q_f hlt;have hmt:=ho5.mtv ho5.mle hcap3;rw [hd];go_wp2_with (go_at_call 136; refine q_o ?_);refine (Zh (N:=N) (by omega) n n rfl rfl (by omega) (by omega) (fun i j=>M i (n+j)) (fun i hi j hj w' e=>Vs (e.cell b0) (e.cell a0) (hmt.ext e) hi (by omega) (by omega) (by omega))).mono ?_;rintro e w6 ⟨h6,cap6,β6,κ6,rfl,hcap6,ho6,e6⟩;have hs6:=e6.size;clear a0 b0 hw1;go_wp2;rw [hRf.out];exact⟨hE5.trans e6,.inr ⟨by omega,h6,cap6,β6,κ6,rfl,hcap6,ho6.wide (by omega) hN (q_r) (q_r)⟩⟩
def q5V (N:Nat) (w:World) (n:Nat) (x:Nat->Rat) (e:Ending) (w':World):Prop :=
 ∃ g,e=.returned (.slice (some ⟨g,0,none⟩) n n)/\w.heap.size<=g/\g < w'.heap.size/\zC N w' g n n x/\Ext w w'
theorem QK (hN:N<=w.heap.size) (n:Nat) {n':Int} (hn':n'=(n:Int)) (hn:n < 1000000) :
  Calls Tryz.prog 119 #[.int .i64 n'] w (q5V N w n (fun _=>0)):=by
 subst hn';go_enter Tryz.func119,Tryz.ntmps119;go_wp2_with (at_make; refine q_o ?_);refine qK rfl _ _ rfl .i64 .i64 _ _ n rfl rfl rfl rfl hn ?_;intro w2 cs2 B2 hcs2 e2;have hR:zC N w2 w.heap.size n 0 (fun _=>0):=⟨by omega,Nat.zero_le _,⟨cs2,B2,hcs2⟩,fun j hj=>by omega⟩
 have hs2:w.heap.size < w2.heap.size:=qG B2;clear B2 hcs2 cs2;go_wp2
 go_loopw [9] (fun i ws=>∃ j:Nat,j<=n/\i=.int .i64 j/\Ext w ws/\w.heap.size < ws.heap.size/\zC N ws w.heap.size n j (fun _=>0)) (fun i _=>n - (intOf i).toNat)
 case atStart=>exact⟨0,Nat.zero_le _,rfl,e2,hs2,hR⟩
 case round =>
  clear hR hs2 e2;obtain⟨j,hj,rfl,hE,hs4,hR⟩:=hrel
  by_cases hlt:j < n
  ·go_wp2_with (go_at_call 109; refine q_o ?_);refine (f_whole (N:=N) (by have:=hE.size; omega) 0 (by omega) (by omega)).mono ?_;intro e w5 hh;obtain⟨b9,A9,k9,c9,A10,k10,c10,rfl,hb9,g9,g10,e5⟩:=hh.form;have hR5:=hR.ext e5;obtain⟨x0,v0⟩:=hR5.there (o:=j*4) (by omega);obtain⟨x1,v1⟩:=hR5.there (o:=j*4+1) (by omega);obtain⟨x2,v2⟩:=hR5.there (o:=j*4+2) (by omega);obtain⟨x3,v3⟩:=hR5.there (o:=j*4+3) (by omega);have f0:=hR5.frozen (j*4);have f1:=hR5.frozen (j*4+1);have f2:=hR5.frozen (j*4+2);have f3:=hR5.frozen (j*4+3);go_upto_region 6 with (fail);obtain⟨w6,E6,C6,hs6,hr6⟩:=hR5.set (i:=j) (q:=0) hlt (q_r) hb9 g9 g10;rw [E6];replace hE:=C6.ext (hE.trans e5) (by omega);have hr7:=(hr6.less (n':=j+1) (by omega)).congr (y:=fun _=>0) (fun c hc=>by unfold upd; split <;> rfl);have hs7:w.heap.size < w6.heap.size:=by have:=e5.size; omega
   clear E6 C6 hs6 hr6 hR hR5 v0 v1 v2 v3 f0 f1 f2 f3;go_wp2;go_roundw
   case rel=>exact⟨j+1,by omega,by go_num,hE,hs7,hr7⟩
   case measure=>simp [intOf]; omega
  ·obtain rfl:j=n:=by omega
   go_wp2;go_ret;exact⟨_,rfl,q_r,hs4,hR,hE⟩
end Go.Proofs.YtfmddpahhloleaaGreat
