import Derived.Test.YtphpkhoeplcedaaGreatWb24
set_option linter.all false
set_option maxHeartbeats 8000000
set_option maxRecDepth 100000
namespace Go.Proofs.YtphpkhoeplcedaaGreat
open Go.RowKit
variable {w w':World} {N n lo hi k i m base c b:Nat} {v:Value} {G:Grd} {z:Int} {S:Sta} {A:Option Addr}
theorem Jo.more {h:Nat} {β κ:Nat->Nat} {A:Nat->Nat->Rat} (o:Jo N lo hi w h k m n β κ A) (hm:m < k) {cap:Nat} {x:Nat->Rat} (hc:w.cell? ⟨h,m,none⟩=some (.slice (some ⟨b,0,none⟩) n cap)) (hr:xR N w b cap n x) (hb:hi<=b) (hcm:cap<=maxLen) :
  Jo N lo w.heap.size w h k (m+1) n (fun i=>if i=m then b else β i) (fun i=>if i=m then cap else κ i) (q2M A m x):=by
 obtain⟨hs,h1,h2,h3⟩:=o.hh;have hlt:=hr.lt;have hlo:=o.hlo;have hhi:=o.hhi;have his:=o.his;refine⟨o.le,⟨hs,h1,h2,fun i hi'=>?_⟩,by omega,hlo,by omega,q_r,fun i hi'=>?_,fun i hi'=>?_,fun i hi'=>?_,fun i hi'=>?_,fun i j hi' hj' hij=>?_⟩
 ·by_cases e:i=m
  ·subst e; rw [qh h1] at hc; rw [hc]; simp
  ·rw [h3 i (by omega)]; simp [e]
 ·by_cases e:i=m
  ·simp only [e,if_true]; omega
  ·simp only [e,if_false]; exact o.lo_ i (by omega)
 ·by_cases e:i=m
  ·simp only [e,if_true]; exact hlt
  ·simp only [e,if_false]; have:=o.hi_ i (by omega); omega
 ·by_cases e:i=m
  ·simp only [e,if_true]; exact hcm
  ·simp only [e,if_false]; exact o.cap i (by omega)
 ·by_cases e:i=m
  ·simp only [e,if_true]; rw [QF]; exact hr
  ·simp only [e,if_false]; rw [Wn A x e]; exact o.row i (by omega)
 ·by_cases e:i=m
  ·have e2:j≠m:=by omega
   simp only [e,e2,if_true,if_false]; have:=o.hi_ j (by omega); omega
  ·by_cases e2:j=m
   ·simp only [e,e2,if_true,if_false]; have:=o.hi_ i (by omega); omega
   ·simp only [e,e2,if_false]; exact o.inj i j (by omega) (by omega) hij
theorem StsV.ext {S:Nat->Sta} (h:StsV w v n S) (e:Ext w w'):StsV w' v n S:=by
 obtain⟨A,c,hv,h1,h2,h3⟩:=h;refine⟨A,c,hv,h1,h2,fun h0=>?_⟩;obtain⟨b,off,hA,hc⟩:=h3 h0;exact⟨b,off,hA,fun i hi=>(hc i hi).ext e⟩
theorem q6d {S:Nat->Sta} (h:q2Q S n=0):∀ i,i < n->zI (S i)=0:=by
 intro i hi
 induction i using Nat.strongRecOn with
 | _ i ih =>
  by_cases h0:zI (S i)=0
  ·exact h0
  ·rw [Wu hi (fun j hj=>ih j hj (by omega)) h0] at h;exact h
theorem q5V (h:zB z=false) : -1048576<=z/\z<=1048576:=by
 unfold zB at h;rw [Bool.or_eq_false_iff,decide_eq_false_iff_not,decide_eq_false_iff_not] at h;omega
theorem q6V (h:zI S=0):ZK S:=by
 unfold zI at h
 split at h
 ·cases h
 ·rename_i h1
  rw [Bool.or_eq_true,Bool.or_eq_true,decide_eq_true_eq,decide_eq_true_eq] at h1
  have h5:jw 5 (fun i=>zB (l5 S i))=false:=by
   cases e:jw 5 (fun i=>zB (l5 S i)) with
   | false=>rfl
   | true=>exact absurd (.inl (.inl e)) h1
  have h6:=kM.1 h5;unfold jb at h
  split at h
  ·cases h
  ·rename_i h2
   split at h
   ·cases h
   ·rename_i h3
    simp only [Bool.or_eq_true,not_or,Bool.not_eq_true] at h3;exact⟨q5V (h6 0 (by omega)),q5V (h6 1 (by omega)),q5V (h6 2 (by omega)),q5V (h6 3 (by omega)),q5V (h6 4 (by omega)),⟨by omega,by omega⟩,q5V h3.1.1.1,q5V h3.1.1.2,q5V h3.1.2,q5V h3.2,h2⟩
def q6Y (w:World) (c:Int) (n:Nat) (z:Nat->Int) (e:Ending) (w':World):Prop :=
 ∃ v,e=.returned (.tuple #[v,.int .i64 c])/\(c≠0->v=.slice none 0 0)/\(c=0->∃ A m,v=.slice A n m/\zY 3 w.heap.size w' v (izL z n))/\Ext w w'
theorem q6W (G:Grd) (S:Nat->Sta) (n:Nat) (W H:Int) (h:k < m):(Yr G S n W H m)[k]?=some (q1t G S n W H k):=by
 unfold Yr; rw [List.getElem?_map,List.getElem?_range h]; rfl
theorem ImV.ext {I:Nat->Ras} (h:ImV w v m I) (e:Ext w w'):ImV w' v m I:=by
 obtain⟨A,c,hv,h1,h2,h3⟩:=h;refine⟨A,c,hv,h1,h2,fun h0=>?_⟩;obtain⟨b,off,hA,hc⟩:=h3 h0;exact⟨b,off,hA,fun i hi=>(hc i hi).ext e⟩
theorem ImV.nil (w:World) (I:Nat->Ras):ImV w (.slice none 0 0) 0 I:=⟨none,0,rfl,q_r,Nat.zero_le _,fun h=>absurd h (by omega)⟩
def q61 (w:World) (u:Value) (R:Ras):Prop:=∃ A c,u=.agg #[.int .i64 R.wd,.int .i64 R.ht,.int .i64 R.mx,.slice A R.n c]/\IzV 0 0 0 w (.slice A R.n c) R.n R.px
theorem q61.ext {u:Value} {R:Ras} (h:q61 w u R) (e:Ext w w'):q61 w' u R:=by
 obtain⟨A,c,hu,hz⟩:=h;exact⟨A,c,hu,hz.ext e⟩
def ImW (N lo hi:Nat) (w:World) (v:Value) (n:Nat) (I:Nat->Ras):Prop:=N+lo+hi=N+lo+hi/\ImV w v n I
theorem ImW.form {I:Nat->Ras} (h:ImW N lo hi w v n I):∃ (A:Option Addr) (c:Nat),v=.slice A n c/\n<=c/\c<=maxLen:=by
 obtain⟨-,A,c,hv,h1,h2,-⟩:=h;exact⟨A,c,hv,h1,h2⟩
theorem ImW.ext {I:Nat->Ras} (h:ImW N lo hi w v n I) (e:Ext w w'):ImW N lo hi w' v n I:=⟨rfl,h.2.ext e⟩
theorem ImW.addr {I:Nat->Ras} (h:ImW N lo hi w (.slice A n c) n I) (hn:0 < n):∃ b off,A=some ⟨b,off,none⟩/\∀ i,i < n->q2H w b (off+i*4) (I i):=by
 obtain⟨-,A',c',hv,-,-,h3⟩:=h;injection hv with e1 e2 e3
 subst e1;exact h3 hn
def q5Y (mx p:Int):Bool:=decide (p < 0) || decide (mx < p)
theorem q64 {mx p:Int} (h:p < 0):q5Y mx p=true:=by unfold q5Y; rw [q_t h]; rfl
theorem q65 {mx p:Int} (h:mx < p):q5Y mx p=true:=by unfold q5Y; rw [q_t h,Bool.or_true]
theorem q6f {mx p:Int} (h:¬ p < 0) (h':¬ mx < p):q5Y mx p=false:=by unfold q5Y; rw [q_f h,q_f h']; rfl
def q5W (R:Ras):Prop:=1<=R.wd/\1<=R.ht/\1<=R.mx/\R.wd<=64/\R.ht<=64/\R.mx<=65535/\(R.n:Int)=R.wd*R.ht
instance (R:Ras):Decidable (q5W R):=by unfold q5W; infer_instance
def q5Z (R:Ras):Int:=if q5W R then if jw R.n (fun i=>q5Y R.mx (R.px i))=true then 1 else 0 else 1
theorem q6a {R:Ras} (h:¬ q5W R):q5Z R=1:=if_neg h
theorem q6r {R:Ras} (hi:i < R.n) (h:q5Y R.mx (R.px i)=true):q5Z R=1:=by
 unfold q5Z;rw [if_pos (jr (p:=fun i=>q5Y R.mx (R.px i)) hi h)]
 split <;> rfl
theorem q6J {R:Ras} (h:q5W R) (h':∀ i,i < R.n->q5Y R.mx (R.px i)=false):q5Z R=0:=by
 unfold q5Z;rw [if_pos h,kM.2 h']
 rfl
theorem q6E {R:Ras} {b:Bool} (h:q5W R) (h':b=jw R.n (fun i=>q5Y R.mx (R.px i))):q5Z R=if b=true then 1 else 0:=by
 unfold q5Z;rw [if_pos h,h']
theorem q6s {gb:Nat} {mx:Int} (h:w.cell? ⟨gb,2,none⟩=some (.int .i64 mx)) (p:Int) :
  Calls Tryz.prog 145 #[.int .i64 p,.pointer (some ⟨gb,0,none⟩)] w (zX w (.bool (q5Y mx p))):=by
 obtain⟨r,hr⟩:=qf (q5Y mx p);rw [<-hr.out]
 by_cases k1:p < 0
 ·have d1:decide (p < 0)=true:=decide_eq_true k1;have HR:Hid (r=true):=hr.out.trans (q64 k1);clear k1 hr;go_enter Tryz.func145,Tryz.ntmps145;go_wp2;go_ret;exact⟨qw HR.out.symm,Ext.refl _⟩
 have d1:decide (p < 0)=false:=decide_eq_false k1
 by_cases k2:mx < p
 ·have d2:decide (mx < p)=true:=decide_eq_true k2;have HR:Hid (r=true):=hr.out.trans (q65 k2);clear k1 k2 hr;go_enter Tryz.func145,Tryz.ntmps145;go_wp2;go_ret;exact⟨qw HR.out.symm,Ext.refl _⟩
 have d2:decide (mx < p)=false:=decide_eq_false k2;have HR:Hid (r=false):=hr.out.trans (q6f k1 k2);clear k1 k2 hr;go_enter Tryz.func145,Tryz.ntmps145;go_wp2;go_ret;exact⟨qw HR.out.symm,Ext.refl _⟩
theorem q6X {z:Nat->Int} (h:IzV N lo hi w v n z) (gb:Nat) (g:Nat->Bool)
  (hf:∀ i,i < n->∀ w' u,Ext w w'->IsI u (z i)->Calls Tryz.prog 145 #[u,.pointer (some ⟨gb,0,none⟩)] w' (zX w' (.bool (g i)))) :
  Calls Tryz.prog 146 #[v,.func (.func 145) #[] #[.pointer (some ⟨gb,0,none⟩)]] w (Vk w (jw n g)):=by
 obtain⟨r,hr⟩:=qf (jw n g);rw [<-hr.out];obtain⟨A,c,rfl,hnc,hcm⟩:=h.form;unfold maxLen at hcm;have hI:=h;have HF:=q_h hf;clear h hf;go_enter Tryz.func146,Tryz.ntmps146;go_wp2
 go_loopw [8] (fun i wr=>∃ k:Nat,k<=n/\i=.int .i64 k/\Hid (∀ j,j < k->g j=false)/\Ext w wr) (fun i _=>n - (intOf i).toNat)
 case atStart=>exact⟨0,Nat.zero_le _,rfl,fun j hj=>absurd hj (by omega),Ext.refl w⟩
 case round =>
  obtain⟨k,hk,rfl,HA,hE⟩:=hrel
  by_cases hlt:k < n
  ·(obtain⟨b,off,rfl,hx⟩:=(hI.ext hE).addr (by omega)); (have p0:=hx k hlt); (have hv:IsI (Value.int .i64 (z k)) (z k):=rfl)
   clear hx;go_wp2_with (go_at_call 145; refine q_o ?_);refine (HF.out k hlt _ _ hE hv).mono ?_;rintro e w1 ⟨rfl,e1⟩;replace hE:=hE.trans e1;obtain⟨o,ho⟩:=qf (g k);rw [<-ho.out];cases o with
   | false =>
    go_wp2;go_roundw
    case rel=>exact⟨k+1,by omega,by go_num,xu (p:=fun j=>g j=false) HA.out ho.out.symm,hE⟩
    case measure=>simp [intOf]; omega
   | true =>
    have HT:Hid (r=true):=by rw [Hid,hr.out]; exact jr hlt ho.out.symm
    go_wp2;go_ret;exact⟨_,rfl,by rw [Hid,HT.out]; symm; simp,hE⟩
  ·have HT:Hid (r=false):=by rw [Hid,hr.out]; exact kM.2 (fun j hj=>HA.out j (by omega))
   go_wp2;go_ret;exact⟨_,rfl,by rw [Hid,HT.out]; rfl,hE⟩
theorem sl_px {z:Nat->Int} (h:IzV N lo hi w v n z) (gb:Nat) (g:Nat->Bool)
  (hf:∀ i,i < n->∀ w' u,Ext w w'->IsI u (z i)->Calls Tryz.prog 145 #[u,.pointer (some ⟨gb,0,none⟩)] w' (zX w' (.bool (g i)))) :
  Calls Tryz.prog 95 #[v,.func (.func 145) #[] #[.pointer (some ⟨gb,0,none⟩)]] w (zX w (.bool (jw n g))):=by
 obtain⟨r,hr⟩:=qf (jw n g);rw [<-hr.out];obtain⟨A,c,rfl,hnc,hcm⟩:=h.form;have hI:=h;have HF:=q_h hf;clear h hf;go_enter Tryz.func95,Tryz.ntmps95;go_wp2_with (go_at_call 146; refine q_o ?_);refine (q6X hI gb g HF.out).mono ?_;rintro e w1 ⟨z,rfl,hz,e1⟩;rw [<-hr.out] at hz;go_wp2;go_ret;exact⟨qw hz.out.symm,e1⟩
theorem q6F {u:Value} {R:Ras} (h:q61 w u R) :
  Calls Tryz.prog 90 #[u] w (zX w (.int .i64 (q5Z R))):=by
 obtain⟨r,hr⟩:=qf (q5Z R);rw [<-hr.out];obtain⟨A,c,rfl,hz⟩:=h;have HZ:=q_h hz;clear hz;go_enter Tryz.func90,Tryz.ntmps90;go_upto_region 1 with (fail);refine ql ?_;intro W hE hsz B0;obtain⟨gb,hgb⟩:∃ gb,gb=w.heap.size:=⟨_,rfl⟩
 rw [<-hgb] at B0 ⊢;clear hgb hsz;obtain⟨a0,a1,a2,a3,-⟩:=cells4 B0;obtain⟨tf,htf⟩:=qf (!decide (q5W R))
 go_cut [34] (fun sv wx=>sv=.bool tf/\wx=W)
 case first =>
  rcases Int.lt_trichotomy R.wd R.ht with x1 | x0 | x1
  ·have x2:¬ R.ht < R.wd:=by omega
   rcases Int.lt_or_le R.mx R.wd with y1 | y1
   ·have y2:¬ R.wd<=R.mx:=by omega
    have f1:min R.wd R.ht=R.wd:=by omega
    have f2:min R.wd R.mx=R.mx:=by omega
    have f3:max R.wd R.ht=R.ht:=by omega
    by_cases k1:R.mx < 1
    ·have d1:decide (R.mx < 1)=true:=decide_eq_true k1;have HT:Hid (true=tf):=by rw [Hid,htf.out,q_f (fun h=>by unfold q5W at h; omega)]; rfl
     clear k1;go_wp2_with fail
     go_meet
     exact⟨by rw [<-HT.out],rfl⟩
    have d1:decide (R.mx < 1)=false:=decide_eq_false k1
    by_cases k2:64 < R.ht
    ·have d2:decide (64 < R.ht)=true:=decide_eq_true k2;have HT:Hid (true=tf):=by rw [Hid,htf.out,q_f (fun h=>by unfold q5W at h; omega)]; rfl
     clear k1 k2;go_wp2_with fail
     go_meet
     exact⟨by rw [<-HT.out],rfl⟩
    have d2:decide (64 < R.ht)=false:=decide_eq_false k2
    by_cases k3:65535 < R.mx
    ·have d3:decide (65535 < R.mx)=true:=decide_eq_true k3;have HT:Hid (true=tf):=by rw [Hid,htf.out,q_f (fun h=>by unfold q5W at h; omega)]; rfl
     clear k1 k2 k3;go_wp2_with fail
     go_meet
     exact⟨by rw [<-HT.out],rfl⟩
    have d3:decide (65535 < R.mx)=false:=decide_eq_false k3;have b1:0<=R.wd*R.ht:=Int.mul_nonneg (by omega) (by omega);have b2:R.wd*R.ht<=64*64:=Int.mul_le_mul (by omega) (by omega) (by omega) (by omega);obtain⟨q,hq⟩:=qf (R.wd*R.ht);have m1:IntKind.i64.wrap (R.wd*R.ht)=q:=by rw [hq.out]; exact zM (by omega) (by omega)
    by_cases k4:(R.n:Int)=q
    ·have d4:((R.n:Int) != q)=false:=by simpa using k4
     have HT:Hid (false=tf):=by rw [Hid,htf.out,q_t (by unfold q5W; rw [<-hq.out]; omega)]; rfl
     clear k1 k2 k3 k4 b1 b2 hq;go_wp2_with fail
     go_meet
     exact⟨by rw [<-HT.out],rfl⟩
    ·have d4:((R.n:Int) != q)=true:=by simpa using k4
     have HT:Hid (true=tf):=by rw [Hid,htf.out,q_f (fun h=>k4 (by unfold q5W at h; rw [hq.out]; omega))]; rfl
     clear k1 k2 k3 k4 b1 b2 hq;go_wp2_with fail
     go_meet
     exact⟨by rw [<-HT.out],rfl⟩
   ·have y2:¬ R.mx < R.wd:=by omega
    have f1:min R.wd R.ht=R.wd:=by omega
    have f2:min R.wd R.mx=R.wd:=by omega
    have f3:max R.wd R.ht=R.ht:=by omega
    by_cases k1:R.wd < 1
    ·have d1:decide (R.wd < 1)=true:=decide_eq_true k1;have HT:Hid (true=tf):=by rw [Hid,htf.out,q_f (fun h=>by unfold q5W at h; omega)]; rfl
     clear k1;go_wp2_with fail
     go_meet
     exact⟨by rw [<-HT.out],rfl⟩
    have d1:decide (R.wd < 1)=false:=decide_eq_false k1
    by_cases k2:64 < R.ht
    ·have d2:decide (64 < R.ht)=true:=decide_eq_true k2;have HT:Hid (true=tf):=by rw [Hid,htf.out,q_f (fun h=>by unfold q5W at h; omega)]; rfl
     clear k1 k2;go_wp2_with fail
     go_meet
     exact⟨by rw [<-HT.out],rfl⟩
    have d2:decide (64 < R.ht)=false:=decide_eq_false k2
    by_cases k3:65535 < R.mx
    ·have d3:decide (65535 < R.mx)=true:=decide_eq_true k3;have HT:Hid (true=tf):=by rw [Hid,htf.out,q_f (fun h=>by unfold q5W at h; omega)]; rfl
     clear k1 k2 k3;go_wp2_with fail
     go_meet
     exact⟨by rw [<-HT.out],rfl⟩
    have d3:decide (65535 < R.mx)=false:=decide_eq_false k3;have b1:0<=R.wd*R.ht:=Int.mul_nonneg (by omega) (by omega);have b2:R.wd*R.ht<=64*64:=Int.mul_le_mul (by omega) (by omega) (by omega) (by omega);obtain⟨q,hq⟩:=qf (R.wd*R.ht);have m1:IntKind.i64.wrap (R.wd*R.ht)=q:=by rw [hq.out]; exact zM (by omega) (by omega)
    by_cases k4:(R.n:Int)=q
    ·have d4:((R.n:Int) != q)=false:=by simpa using k4
     have HT:Hid (false=tf):=by rw [Hid,htf.out,q_t (by unfold q5W; rw [<-hq.out]; omega)]; rfl
     clear k1 k2 k3 k4 b1 b2 hq;go_wp2_with fail
     go_meet
     exact⟨by rw [<-HT.out],rfl⟩
    ·have d4:((R.n:Int) != q)=true:=by simpa using k4
     have HT:Hid (true=tf):=by rw [Hid,htf.out,q_f (fun h=>k4 (by unfold q5W at h; rw [hq.out]; omega))]; rfl
     clear k1 k2 k3 k4 b1 b2 hq;go_wp2_with fail
     go_meet
     exact⟨by rw [<-HT.out],rfl⟩
  ·have x1:¬ R.ht < R.wd:=by omega
   have x2:¬ R.wd < R.ht:=by omega
   have f1:min R.wd R.ht=R.wd:=by omega
   have f3:max R.wd R.ht=R.wd:=by omega
   clear x0
   rcases Int.lt_or_le R.mx R.wd with y1 | y1
   ·have y2:¬ R.wd<=R.mx:=by omega
    have f2:min R.wd R.mx=R.mx:=by omega
    by_cases k1:R.mx < 1
    ·have d1:decide (R.mx < 1)=true:=decide_eq_true k1;have HT:Hid (true=tf):=by rw [Hid,htf.out,q_f (fun h=>by unfold q5W at h; omega)]; rfl
     clear k1;go_wp2_with fail
     go_meet
     exact⟨by rw [<-HT.out],rfl⟩
    have d1:decide (R.mx < 1)=false:=decide_eq_false k1
    by_cases k2:64 < R.wd
    ·have d2:decide (64 < R.wd)=true:=decide_eq_true k2;have HT:Hid (true=tf):=by rw [Hid,htf.out,q_f (fun h=>by unfold q5W at h; omega)]; rfl
     clear k1 k2;go_wp2_with fail
     go_meet
     exact⟨by rw [<-HT.out],rfl⟩
    have d2:decide (64 < R.wd)=false:=decide_eq_false k2
    by_cases k3:65535 < R.mx
    ·have d3:decide (65535 < R.mx)=true:=decide_eq_true k3;have HT:Hid (true=tf):=by rw [Hid,htf.out,q_f (fun h=>by unfold q5W at h; omega)]; rfl
     clear k1 k2 k3;go_wp2_with fail
     go_meet
     exact⟨by rw [<-HT.out],rfl⟩
    have d3:decide (65535 < R.mx)=false:=decide_eq_false k3;have b1:0<=R.wd*R.ht:=Int.mul_nonneg (by omega) (by omega);have b2:R.wd*R.ht<=64*64:=Int.mul_le_mul (by omega) (by omega) (by omega) (by omega);obtain⟨q,hq⟩:=qf (R.wd*R.ht);have m1:IntKind.i64.wrap (R.wd*R.ht)=q:=by rw [hq.out]; exact zM (by omega) (by omega)
    by_cases k4:(R.n:Int)=q
    ·have d4:((R.n:Int) != q)=false:=by simpa using k4
     have HT:Hid (false=tf):=by rw [Hid,htf.out,q_t (by unfold q5W; rw [<-hq.out]; omega)]; rfl
     clear k1 k2 k3 k4 b1 b2 hq;go_wp2_with fail
     go_meet
     exact⟨by rw [<-HT.out],rfl⟩
    ·have d4:((R.n:Int) != q)=true:=by simpa using k4
     have HT:Hid (true=tf):=by rw [Hid,htf.out,q_f (fun h=>k4 (by unfold q5W at h; rw [hq.out]; omega))]; rfl
     clear k1 k2 k3 k4 b1 b2 hq;go_wp2_with fail
     go_meet
     exact⟨by rw [<-HT.out],rfl⟩
   ·have y2:¬ R.mx < R.wd:=by omega
    have f2:min R.wd R.mx=R.wd:=by omega
    by_cases k1:R.wd < 1
    ·have d1:decide (R.wd < 1)=true:=decide_eq_true k1;have HT:Hid (true=tf):=by rw [Hid,htf.out,q_f (fun h=>by unfold q5W at h; omega)]; rfl
     clear k1;go_wp2_with fail
     go_meet
     exact⟨by rw [<-HT.out],rfl⟩
    have d1:decide (R.wd < 1)=false:=decide_eq_false k1
    by_cases k2:64 < R.wd
    ·have d2:decide (64 < R.wd)=true:=decide_eq_true k2;have HT:Hid (true=tf):=by rw [Hid,htf.out,q_f (fun h=>by unfold q5W at h; omega)]; rfl
     clear k1 k2;go_wp2_with fail
     go_meet
     exact⟨by rw [<-HT.out],rfl⟩
    have d2:decide (64 < R.wd)=false:=decide_eq_false k2
    by_cases k3:65535 < R.mx
    ·have d3:decide (65535 < R.mx)=true:=decide_eq_true k3;have HT:Hid (true=tf):=by rw [Hid,htf.out,q_f (fun h=>by unfold q5W at h; omega)]; rfl
     clear k1 k2 k3;go_wp2_with fail
     go_meet
     exact⟨by rw [<-HT.out],rfl⟩
    have d3:decide (65535 < R.mx)=false:=decide_eq_false k3;have b1:0<=R.wd*R.ht:=Int.mul_nonneg (by omega) (by omega);have b2:R.wd*R.ht<=64*64:=Int.mul_le_mul (by omega) (by omega) (by omega) (by omega);obtain⟨q,hq⟩:=qf (R.wd*R.ht);have m1:IntKind.i64.wrap (R.wd*R.ht)=q:=by rw [hq.out]; exact zM (by omega) (by omega)
    by_cases k4:(R.n:Int)=q
    ·have d4:((R.n:Int) != q)=false:=by simpa using k4
     have HT:Hid (false=tf):=by rw [Hid,htf.out,q_t (by unfold q5W; rw [<-hq.out]; omega)]; rfl
     clear k1 k2 k3 k4 b1 b2 hq;go_wp2_with fail
     go_meet
     exact⟨by rw [<-HT.out],rfl⟩
    ·have d4:((R.n:Int) != q)=true:=by simpa using k4
     have HT:Hid (true=tf):=by rw [Hid,htf.out,q_f (fun h=>k4 (by unfold q5W at h; rw [hq.out]; omega))]; rfl
     clear k1 k2 k3 k4 b1 b2 hq;go_wp2_with fail
     go_meet
     exact⟨by rw [<-HT.out],rfl⟩
  ·have x2:¬ R.wd < R.ht:=by omega
   rcases Int.lt_or_le R.mx R.ht with y1 | y1
   ·have y2:¬ R.ht<=R.mx:=by omega
    have f1:min R.wd R.ht=R.ht:=by omega
    have f2:min R.ht R.mx=R.mx:=by omega
    have f3:max R.wd R.ht=R.wd:=by omega
    by_cases k1:R.mx < 1
    ·have d1:decide (R.mx < 1)=true:=decide_eq_true k1;have HT:Hid (true=tf):=by rw [Hid,htf.out,q_f (fun h=>by unfold q5W at h; omega)]; rfl
     clear k1;go_wp2_with fail
     go_meet
     exact⟨by rw [<-HT.out],rfl⟩
    have d1:decide (R.mx < 1)=false:=decide_eq_false k1
    by_cases k2:64 < R.wd
    ·have d2:decide (64 < R.wd)=true:=decide_eq_true k2;have HT:Hid (true=tf):=by rw [Hid,htf.out,q_f (fun h=>by unfold q5W at h; omega)]; rfl
     clear k1 k2;go_wp2_with fail
     go_meet
     exact⟨by rw [<-HT.out],rfl⟩
    have d2:decide (64 < R.wd)=false:=decide_eq_false k2
    by_cases k3:65535 < R.mx
    ·have d3:decide (65535 < R.mx)=true:=decide_eq_true k3;have HT:Hid (true=tf):=by rw [Hid,htf.out,q_f (fun h=>by unfold q5W at h; omega)]; rfl
     clear k1 k2 k3;go_wp2_with fail
     go_meet
     exact⟨by rw [<-HT.out],rfl⟩
    have d3:decide (65535 < R.mx)=false:=decide_eq_false k3;have b1:0<=R.wd*R.ht:=Int.mul_nonneg (by omega) (by omega);have b2:R.wd*R.ht<=64*64:=Int.mul_le_mul (by omega) (by omega) (by omega) (by omega);obtain⟨q,hq⟩:=qf (R.wd*R.ht);have m1:IntKind.i64.wrap (R.wd*R.ht)=q:=by rw [hq.out]; exact zM (by omega) (by omega)
    by_cases k4:(R.n:Int)=q
    ·have d4:((R.n:Int) != q)=false:=by simpa using k4
     have HT:Hid (false=tf):=by rw [Hid,htf.out,q_t (by unfold q5W; rw [<-hq.out]; omega)]; rfl
     clear k1 k2 k3 k4 b1 b2 hq;go_wp2_with fail
     go_meet
     exact⟨by rw [<-HT.out],rfl⟩
    ·have d4:((R.n:Int) != q)=true:=by simpa using k4
     have HT:Hid (true=tf):=by rw [Hid,htf.out,q_f (fun h=>k4 (by unfold q5W at h; rw [hq.out]; omega))]; rfl
     clear k1 k2 k3 k4 b1 b2 hq;go_wp2_with fail
     go_meet
     exact⟨by rw [<-HT.out],rfl⟩
   ·have y2:¬ R.mx < R.ht:=by omega
    have f1:min R.wd R.ht=R.ht:=by omega
    have f2:min R.ht R.mx=R.ht:=by omega
    have f3:max R.wd R.ht=R.wd:=by omega
    by_cases k1:R.ht < 1
    ·have d1:decide (R.ht < 1)=true:=decide_eq_true k1;have HT:Hid (true=tf):=by rw [Hid,htf.out,q_f (fun h=>by unfold q5W at h; omega)]; rfl
     clear k1;go_wp2_with fail
     go_meet
     exact⟨by rw [<-HT.out],rfl⟩
    have d1:decide (R.ht < 1)=false:=decide_eq_false k1
    by_cases k2:64 < R.wd
    ·have d2:decide (64 < R.wd)=true:=decide_eq_true k2;have HT:Hid (true=tf):=by rw [Hid,htf.out,q_f (fun h=>by unfold q5W at h; omega)]; rfl
     clear k1 k2;go_wp2_with fail
     go_meet
     exact⟨by rw [<-HT.out],rfl⟩
    have d2:decide (64 < R.wd)=false:=decide_eq_false k2
    by_cases k3:65535 < R.mx
    ·have d3:decide (65535 < R.mx)=true:=decide_eq_true k3;have HT:Hid (true=tf):=by rw [Hid,htf.out,q_f (fun h=>by unfold q5W at h; omega)]; rfl
     clear k1 k2 k3;go_wp2_with fail
     go_meet
     exact⟨by rw [<-HT.out],rfl⟩
    have d3:decide (65535 < R.mx)=false:=decide_eq_false k3;have b1:0<=R.wd*R.ht:=Int.mul_nonneg (by omega) (by omega);have b2:R.wd*R.ht<=64*64:=Int.mul_le_mul (by omega) (by omega) (by omega) (by omega);obtain⟨q,hq⟩:=qf (R.wd*R.ht);have m1:IntKind.i64.wrap (R.wd*R.ht)=q:=by rw [hq.out]; exact zM (by omega) (by omega)
    by_cases k4:(R.n:Int)=q
    ·have d4:((R.n:Int) != q)=false:=by simpa using k4
     have HT:Hid (false=tf):=by rw [Hid,htf.out,q_t (by unfold q5W; rw [<-hq.out]; omega)]; rfl
     clear k1 k2 k3 k4 b1 b2 hq;go_wp2_with fail
     go_meet
     exact⟨by rw [<-HT.out],rfl⟩
    ·have d4:((R.n:Int) != q)=true:=by simpa using k4
     have HT:Hid (true=tf):=by rw [Hid,htf.out,q_f (fun h=>k4 (by unfold q5W at h; rw [hq.out]; omega))]; rfl
     clear k1 k2 k3 k4 b1 b2 hq;go_wp2_with fail
     go_meet
     exact⟨by rw [<-HT.out],rfl⟩
 obtain⟨rfl,rfl⟩:=hcut;obtain⟨w1,hwx⟩:∃ w1,w1=wc:=⟨_,rfl⟩
 subst hwx;cases tf with
 | true =>
  have HR:Hid (r=1):=by
   have h9:¬ q5W R:=by
    have:=htf.out;intro h9;rw [q_t h9] at this;cases this
   exact hr.out.trans (q6a h9)
  clear hr htf;go_wp2;go_ret;rw [HR.out];exact⟨rfl,hE⟩
 | false =>
 have HD:Hid (q5W R):=by
  have:=htf.out;cases h9:decide (q5W R) with
  | true =>
   have h8:q5W R:=of_decide_eq_true h9;exact h8
  | false=>rw [h9] at this; cases this
 obtain⟨pb,hpb⟩:=qf (jw R.n (fun i=>q5Y R.mx (R.px i)));have HR:Hid (r=if pb=true then 1 else 0):=hr.out.trans (q6E HD.out hpb.out);clear hr htf;have HS:=q_h (sl_px (HZ.out.ext hE) gb (fun i=>q5Y R.mx (R.px i)) (fun i hi w' u e hu=>by rw [hu.out]; exact q6s (e.cell a2) (R.px i)));rw [<-hpb.out] at HS;clear hpb;go_wp2_with (go_at_call 95; refine q_o ?_);refine (HS.out).mono ?_;rintro e w2 ⟨rfl,e2⟩;replace hE:=hE.trans e2;clear HS a0 a1 a2 a3 B0 e2;cases pb with
 | true =>
  go_wp2;go_ret;rw [HR.out];exact⟨rfl,hE⟩
 | false =>
  go_wp2;go_ret;rw [HR.out];exact⟨rfl,hE⟩
theorem q6t {u:Value} {R:Ras} (h:q61 w u R) :
  Calls Tryz.prog 43 #[u] w (zX w (.int .i64 (q5Z R))):=by
 obtain⟨r,hr⟩:=qf (q5Z R);rw [<-hr.out];obtain⟨A,c,rfl,hz⟩:=h;have HZ:=q_h hz;obtain⟨-,cc,hcc,hf1,hf2⟩:=hz.form;unfold maxLen at hf2;clear hz;go_enter Tryz.func43,Tryz.ntmps43;go_upto_region 1 with (fail);refine ql ?_;intro W hE hsz B0;obtain⟨gb,hgb⟩:∃ gb,gb=w.heap.size:=⟨_,rfl⟩
 rw [<-hgb] at B0 ⊢;clear hgb hsz;have HB0:=q_h B0;obtain⟨a0,a1,a2,a3,-⟩:=cells4 B0;obtain⟨tf,htf⟩:=qf (!decide (q5W R))
 go_cut [42] (fun sv wx=>sv=.bool tf/\wx=W)
 case first =>
  by_cases k1:R.wd < 1
  ·have d1:decide (R.wd < 1)=true:=decide_eq_true k1;have HT:Hid (true=tf):=by rw [Hid,htf.out,q_f (fun h=>by unfold q5W at h; omega)]; rfl
   clear k1;go_wp2_with fail
   go_meet
   exact⟨by rw [<-HT.out],rfl⟩
  have d1:decide (R.wd < 1)=false:=decide_eq_false k1
  by_cases k2:64 < R.wd
  ·have d2:decide (64 < R.wd)=true:=decide_eq_true k2;have HT:Hid (true=tf):=by rw [Hid,htf.out,q_f (fun h=>by unfold q5W at h; omega)]; rfl
   clear k1 k2;go_wp2_with fail
   go_meet
   exact⟨by rw [<-HT.out],rfl⟩
  have d2:decide (64 < R.wd)=false:=decide_eq_false k2
  by_cases k3:R.ht < 1
  ·have d3:decide (R.ht < 1)=true:=decide_eq_true k3;have HT:Hid (true=tf):=by rw [Hid,htf.out,q_f (fun h=>by unfold q5W at h; omega)]; rfl
   clear k1 k2 k3;go_wp2_with fail
   go_meet
   exact⟨by rw [<-HT.out],rfl⟩
  have d3:decide (R.ht < 1)=false:=decide_eq_false k3
  by_cases k4:64 < R.ht
  ·have d4:decide (64 < R.ht)=true:=decide_eq_true k4;have HT:Hid (true=tf):=by rw [Hid,htf.out,q_f (fun h=>by unfold q5W at h; omega)]; rfl
   clear k1 k2 k3 k4;go_wp2_with fail
   go_meet
   exact⟨by rw [<-HT.out],rfl⟩
  have d4:decide (64 < R.ht)=false:=decide_eq_false k4
  by_cases k5:R.mx < 1
  ·have d5:decide (R.mx < 1)=true:=decide_eq_true k5;have HT:Hid (true=tf):=by rw [Hid,htf.out,q_f (fun h=>by unfold q5W at h; omega)]; rfl
   clear k1 k2 k3 k4 k5;go_wp2_with fail
   go_meet
   exact⟨by rw [<-HT.out],rfl⟩
  have d5:decide (R.mx < 1)=false:=decide_eq_false k5
  by_cases k6:65535 < R.mx
  ·have d6:decide (65535 < R.mx)=true:=decide_eq_true k6;have HT:Hid (true=tf):=by rw [Hid,htf.out,q_f (fun h=>by unfold q5W at h; omega)]; rfl
   clear k1 k2 k3 k4 k5 k6;go_wp2_with fail
   go_meet
   exact⟨by rw [<-HT.out],rfl⟩
  have d6:decide (65535 < R.mx)=false:=decide_eq_false k6;have b1:0<=R.wd*R.ht:=Int.mul_nonneg (by omega) (by omega);have b2:R.wd*R.ht<=64*64:=Int.mul_le_mul (by omega) (by omega) (by omega) (by omega);obtain⟨q,hq⟩:=qf (R.wd*R.ht);have m1:IntKind.i64.wrap (R.wd*R.ht)=q:=by rw [hq.out]; exact zM (by omega) (by omega)
  by_cases k7:(R.n:Int)=q
  ·have d7:((R.n:Int) != q)=false:=by simpa using k7
   have HT:Hid (false=tf):=by rw [Hid,htf.out,q_t (by unfold q5W; rw [<-hq.out]; omega)]; rfl
   clear k1 k2 k3 k4 k5 k6 k7 b1 b2 hq;go_wp2_with fail
   go_meet
   exact⟨by rw [<-HT.out],rfl⟩
  ·have d7:((R.n:Int) != q)=true:=by simpa using k7
   have HT:Hid (true=tf):=by rw [Hid,htf.out,q_f (fun h=>k7 (by unfold q5W at h; rw [hq.out]; omega))]; rfl
   clear k1 k2 k3 k4 k5 k6 k7 b1 b2 hq;go_wp2_with fail
   go_meet
   exact⟨by rw [<-HT.out],rfl⟩
 obtain⟨rfl,rfl⟩:=hcut;obtain⟨w1,hwx⟩:∃ w1,w1=wc:=⟨_,rfl⟩
 subst hwx;clear a0 a1 a2 a3 B0;cases tf with
 | true =>
  have HR:Hid (r=1):=by
   have h9:¬ q5W R:=by
    have:=htf.out;intro h9;rw [q_t h9] at this;cases this
   exact hr.out.trans (q6a h9)
  clear hr htf;go_wp2;go_ret;rw [HR.out];exact⟨rfl,hE⟩
 | false =>
 have HD:Hid (q5W R):=by
  have:=htf.out;cases h9:decide (q5W R) with
  | true =>
   have h8:q5W R:=of_decide_eq_true h9;exact h8
  | false=>rw [h9] at this; cases this
 clear htf;go_wp2_with fail
 go_loopw [3] (fun iv wr=>∃ k:Nat,k<=R.n/\iv=.int .i64 (k:Int)/\Hid (∀ j,j < k->q5Y R.mx (R.px j)=false)/\Ext w1 wr) (fun iv _=>R.n - (intOf iv).toNat)
 case atStart=>exact⟨0,Nat.zero_le _,rfl,fun j hj=>absurd hj (by omega),Ext.refl _⟩
 case round =>
  obtain⟨k,hk,rfl,HA,hE1⟩:=hrel;have B1:=hE1.block HB0.out;obtain⟨a0,a1,a2,a3,-⟩:=cells4 B1
  by_cases hlt:k < R.n
  case neg =>
   have t1:decide ((k:Int) < (R.n:Int))=false:=q_f (by omega);have hlt':¬ (k:Int) < (R.n:Int):=by omega
   have HR:Hid (r=0):=hr.out.trans (q6J HD.out (fun i hi=>HA.out i (by omega)));clear hlt HA hr HD;go_wp2;go_ret;rw [HR.out];exact⟨rfl,hE.trans hE1⟩
  have t1:decide ((k:Int) < (R.n:Int))=true:=q_t (by omega);obtain⟨b,off,rfl,hp⟩:=(HZ.out.ext (hE.trans hE1)).addr (by omega);have p0:=hp k hlt;obtain⟨x,hx⟩:=qf (R.px k);rw [<-hx.out] at p0;clear hp;go_upto_region 6 with (fail)
  by_cases k1:x < 0
  ·have d1:decide (x < 0)=true:=decide_eq_true k1;have HR:Hid (r=1):=hr.out.trans (q6r hlt (q64 (by rw [<-hx.out]; exact k1)));clear k1 hr hx;refine xe [Mn.q gb 3,Mn.eq (.slice (some ⟨b,off,none⟩) R.n c),Mn.i (k:Int),Mn.q b (off+k),Mn.i x,Mn.t true,Mn.t true,Mn.eq undef,Mn.eq undef,Mn.eq undef,Mn.eq undef,Mn.eq undef,Mn.eq undef,Mn.eq undef,Mn.eq undef,Mn.t true] (sM [50,51,52,53,54,55,56,57,58,59,60,61,62,63,64,65]) [] (rQ 16 0) 0 (by kernel_rfl) ?_ ?_
   ·show ∀ i,i < 16->_
    iterate 16 refine fs ?_ ?_
    ·exact fz
    all_goals intro hl; clear hl; refine stp rfl ?_; intro ac wi eI hB hA K hK
    have o1:=oOf (hB 1) rfl
    rotate_left
    obtain⟨_,s50,rfl⟩:=hA 0 50;have cc0:=eI.cell a3
    rotate_left
    have o3:=oOf (hB 3) rfl
    rotate_left
    obtain⟨_,s51,rfl⟩:=hA 1 51;obtain⟨_,s52,rfl⟩:=hA 2 52
    rotate_left
    obtain⟨_,s53,rfl⟩:=hA 3 53;have cc0:=eI.cell p0
    rotate_left
    obtain⟨_,s54,rfl⟩:=hA 4 54
    rotate_left
    obtain⟨_,s55,rfl⟩:=hA 5 55
    rotate_left
    iterate 8 (obtain⟨_,s56,rfl⟩:=hA 6 56; clear hB hA; rw [if_neg (by simp [Region.wanted,yielded,s56,undef])]; exact q_k hK rfl)
    obtain⟨_,s56,rfl⟩:=hA 6 56;obtain⟨_,s64,rfl⟩:=hA 14 64
    rotate_left
    all_goals clear hB hA; go_simp; exact q_k hK rfl
   intro vals wz eZ hJ;have J65:vals 15=_:=hJ 15 (by decide) (by decide);clear hJ;simp only [pr,Nat.reduceAdd,J65];clear J65;refine qg (by kernel_rfl) ?_ _;go_wp2;go_ret;rw [HR.out];exact⟨rfl,(hE.trans hE1).trans eZ⟩
  have d1:decide (x < 0)=false:=decide_eq_false k1
  by_cases k2:R.mx < x
  ·have d2:decide (R.mx < x)=true:=decide_eq_true k2;have HR:Hid (r=1):=hr.out.trans (q6r hlt (q65 (by rw [<-hx.out]; exact k2)));clear k1 k2 hr hx;refine xe [Mn.q gb 3,Mn.eq (.slice (some ⟨b,off,none⟩) R.n c),Mn.i (k:Int),Mn.q b (off+k),Mn.i x,Mn.t false,Mn.t false,Mn.q gb 3,Mn.eq (.slice (some ⟨b,off,none⟩) R.n c),Mn.i (k:Int),Mn.q b (off+k),Mn.i x,Mn.q gb 2,Mn.i R.mx,Mn.t true,Mn.t true] (sM [50,51,52,53,54,55,56,57,58,59,60,61,62,63,64,65]) [] (rQ 16 0) 0 (by kernel_rfl) ?_ ?_
   ·show ∀ i,i < 16->_
    iterate 16 refine fs ?_ ?_
    ·exact fz
    all_goals intro hl; clear hl; refine stp rfl ?_; intro ac wi eI hB hA K hK
    have o1:=oOf (hB 1) rfl
    rotate_left
    obtain⟨_,s50,rfl⟩:=hA 0 50;have cc0:=eI.cell a3
    rotate_left
    have o3:=oOf (hB 3) rfl
    rotate_left
    obtain⟨_,s51,rfl⟩:=hA 1 51;obtain⟨_,s52,rfl⟩:=hA 2 52
    rotate_left
    obtain⟨_,s53,rfl⟩:=hA 3 53;have cc0:=eI.cell p0
    rotate_left
    obtain⟨_,s54,rfl⟩:=hA 4 54
    rotate_left
    obtain⟨_,s55,rfl⟩:=hA 5 55
    rotate_left
    obtain⟨_,s56,rfl⟩:=hA 6 56;have o1:=oOf (hB 1) rfl;rw [if_pos (by simp [Region.wanted,yielded,s56])]
    rotate_left
    obtain⟨_,s56,rfl⟩:=hA 6 56;obtain⟨_,s57,rfl⟩:=hA 7 57;rw [if_pos (by simp [Region.wanted,yielded,s56])];have cc0:=eI.cell a3
    rotate_left
    obtain⟨_,s56,rfl⟩:=hA 6 56;have o3:=oOf (hB 3) rfl;rw [if_pos (by simp [Region.wanted,yielded,s56])]
    rotate_left
    obtain⟨_,s56,rfl⟩:=hA 6 56;obtain⟨_,s58,rfl⟩:=hA 8 58;obtain⟨_,s59,rfl⟩:=hA 9 59;rw [if_pos (by simp [Region.wanted,yielded,s56])]
    rotate_left
    obtain⟨_,s56,rfl⟩:=hA 6 56;obtain⟨_,s60,rfl⟩:=hA 10 60;rw [if_pos (by simp [Region.wanted,yielded,s56])];have cc0:=eI.cell p0
    rotate_left
    obtain⟨_,s56,rfl⟩:=hA 6 56;have o1:=oOf (hB 1) rfl;rw [if_pos (by simp [Region.wanted,yielded,s56])]
    rotate_left
    obtain⟨_,s56,rfl⟩:=hA 6 56;obtain⟨_,s62,rfl⟩:=hA 12 62;rw [if_pos (by simp [Region.wanted,yielded,s56])];have cc0:=eI.cell a2
    rotate_left
    obtain⟨_,s56,rfl⟩:=hA 6 56;obtain⟨_,s61,rfl⟩:=hA 11 61;obtain⟨_,s63,rfl⟩:=hA 13 63;rw [if_pos (by simp [Region.wanted,yielded,s56])]
    rotate_left
    obtain⟨_,s56,rfl⟩:=hA 6 56;obtain⟨_,s64,rfl⟩:=hA 14 64
    rotate_left
    all_goals clear hB hA; go_simp; exact q_k hK rfl
   intro vals wz eZ hJ;have J65:vals 15=_:=hJ 15 (by decide) (by decide);clear hJ;simp only [pr,Nat.reduceAdd,J65];clear J65;refine qg (by kernel_rfl) ?_ _;go_wp2;go_ret;rw [HR.out];exact⟨rfl,(hE.trans hE1).trans eZ⟩
  have d2:decide (R.mx < x)=false:=decide_eq_false k2
  have HA2:Hid (∀ j,j < k+1->q5Y R.mx (R.px j)=false):=fun j hj=>by
   by_cases hjk:j=k
   ·rw [hjk,<-hx.out]; exact q6f k1 k2
   ·exact HA.out j (by omega)
  clear k1 k2 hx;refine xe [Mn.q gb 3,Mn.eq (.slice (some ⟨b,off,none⟩) R.n c),Mn.i (k:Int),Mn.q b (off+k),Mn.i x,Mn.t false,Mn.t false,Mn.q gb 3,Mn.eq (.slice (some ⟨b,off,none⟩) R.n c),Mn.i (k:Int),Mn.q b (off+k),Mn.i x,Mn.q gb 2,Mn.i R.mx,Mn.t false,Mn.t false] (sM [50,51,52,53,54,55,56,57,58,59,60,61,62,63,64,65]) [] (rQ 16 0) 0 (by kernel_rfl) ?_ ?_
  ·show ∀ i,i < 16->_
   iterate 16 refine fs ?_ ?_
   ·exact fz
   all_goals intro hl; clear hl; refine stp rfl ?_; intro ac wi eI hB hA K hK
   have o1:=oOf (hB 1) rfl
   rotate_left
   obtain⟨_,s50,rfl⟩:=hA 0 50;have cc0:=eI.cell a3
   rotate_left
   have o3:=oOf (hB 3) rfl
   rotate_left
   obtain⟨_,s51,rfl⟩:=hA 1 51;obtain⟨_,s52,rfl⟩:=hA 2 52
   rotate_left
   obtain⟨_,s53,rfl⟩:=hA 3 53;have cc0:=eI.cell p0
   rotate_left
   obtain⟨_,s54,rfl⟩:=hA 4 54
   rotate_left
   obtain⟨_,s55,rfl⟩:=hA 5 55
   rotate_left
   obtain⟨_,s56,rfl⟩:=hA 6 56;have o1:=oOf (hB 1) rfl;rw [if_pos (by simp [Region.wanted,yielded,s56])]
   rotate_left
   obtain⟨_,s56,rfl⟩:=hA 6 56;obtain⟨_,s57,rfl⟩:=hA 7 57;rw [if_pos (by simp [Region.wanted,yielded,s56])];have cc0:=eI.cell a3
   rotate_left
   obtain⟨_,s56,rfl⟩:=hA 6 56;have o3:=oOf (hB 3) rfl;rw [if_pos (by simp [Region.wanted,yielded,s56])]
   rotate_left
   obtain⟨_,s56,rfl⟩:=hA 6 56;obtain⟨_,s58,rfl⟩:=hA 8 58;obtain⟨_,s59,rfl⟩:=hA 9 59;rw [if_pos (by simp [Region.wanted,yielded,s56])]
   rotate_left
   obtain⟨_,s56,rfl⟩:=hA 6 56;obtain⟨_,s60,rfl⟩:=hA 10 60;rw [if_pos (by simp [Region.wanted,yielded,s56])];have cc0:=eI.cell p0
   rotate_left
   obtain⟨_,s56,rfl⟩:=hA 6 56;have o1:=oOf (hB 1) rfl;rw [if_pos (by simp [Region.wanted,yielded,s56])]
   rotate_left
   obtain⟨_,s56,rfl⟩:=hA 6 56;obtain⟨_,s62,rfl⟩:=hA 12 62;rw [if_pos (by simp [Region.wanted,yielded,s56])];have cc0:=eI.cell a2
   rotate_left
   obtain⟨_,s56,rfl⟩:=hA 6 56;obtain⟨_,s61,rfl⟩:=hA 11 61;obtain⟨_,s63,rfl⟩:=hA 13 63;rw [if_pos (by simp [Region.wanted,yielded,s56])]
   rotate_left
   obtain⟨_,s56,rfl⟩:=hA 6 56;obtain⟨_,s64,rfl⟩:=hA 14 64
   rotate_left
   all_goals clear hB hA; go_simp; exact q_k hK rfl
  intro vals wz eZ hJ;have J65:vals 15=_:=hJ 15 (by decide) (by decide);clear hJ;simp only [pr,Nat.reduceAdd,J65];clear J65;refine qg (by kernel_rfl) ?_ _;clear a0 a1 a2 a3 p0 B1;go_wp2_with fail;go_roundw
  case rel=>exact⟨k+1,by omega,by go_num,HA2.out,hE1.trans eZ⟩
  case measure=>simp [intOf]; omega
theorem q6P {u:Value} {R:Ras} (h:q61 w u R) :
  Calls Tryz.prog 40 #[u] w (zX w (.bool (decide (200 < R.n)))):=by
 obtain⟨A,c,rfl,hz⟩:=h;have HR:Hid (decide (200 < (R.n:Int))=decide (200 < R.n)):=by rw [Hid]; exact decide_eq_decide.2 (by omega)
 obtain⟨r,hr⟩:=qf (decide (200 < (R.n:Int)));have hr':decide (200 < (R.n:Int))=r:=hr.out.symm;rw [<-HR.out,<-hr.out];clear HR hr hz;go_enter Tryz.func40,Tryz.ntmps40;go_upto_region 1 with (fail);refine ql ?_;intro W hE hsz B0;obtain⟨a0,a1,a2,a3,-⟩:=cells4 B0;go_wp2;go_ret;exact⟨rfl,hE⟩
theorem q6G {u:Value} {R:Ras} (h:q61 w u R) :
  Calls Tryz.prog 42 #[u] w (zX w (.bool (q5Z R != 0))):=by
 obtain⟨r,hr⟩:=qf (q5Z R);rw [<-hr.out];obtain⟨b,hb⟩:=qf (r != 0);have hb':(r != 0)=b:=hb.out.symm;rw [<-hb.out];obtain⟨A,c,rfl,hz⟩:=h;have HZ:=q_h hz;clear hz hb;go_enter Tryz.func42,Tryz.ntmps42;go_upto_region 1 with (fail);refine ql ?_;intro W hE hsz B0;obtain⟨a0,a1,a2,a3,-⟩:=cells4 B0;go_wp2_with (go_at_call 43; refine q_o ?_);refine (q6t ⟨A,c,rfl,HZ.out.ext hE⟩).mono ?_;rw [<-hr.out];rintro e w1 ⟨rfl,e1⟩;clear a0 a1 a2 a3 B0;go_wp2;go_ret;exact⟨rfl,hE.trans e1⟩
def q5X (a b:Int) (R:Ras):Bool:=(R.wd != a) || (R.ht != b)
theorem q6R {u:Value} {R:Ras} {g1 g2:Nat} {a b:Int} (h:q61 w u R) (p0:w.cell? ⟨g1,0,none⟩=some (.int .i64 a)) (p1:w.cell? ⟨g2,0,none⟩=some (.int .i64 b)) :
  Calls Tryz.prog 91 #[u,.pointer (some ⟨g1,0,none⟩),.pointer (some ⟨g2,0,none⟩)] w (zX w (.bool (q5X a b R))):=by
 obtain⟨A,c,rfl,-⟩:=h;obtain⟨r,hr⟩:=qf (q5X a b R);rw [<-hr.out]
 by_cases k1:R.wd=a
 ·by_cases k2:R.ht=b
  ·have d1:(R.wd != a)=false:=by simpa using k1
   have d2:(R.ht != b)=false:=by simpa using k2
   have HR:Hid (r=false):=by rw [Hid,hr.out]; unfold q5X; rw [d1,d2]; rfl
   clear k1 k2 hr;go_enter Tryz.func91,Tryz.ntmps91;go_upto_region 1 with (fail);refine ql ?_;intro W hE hsz B0;obtain⟨a0,a1,a2,a3,-⟩:=cells4 B0;replace p0:=hE.cell p0;replace p1:=hE.cell p1;go_wp2;go_ret;exact⟨qw HR.out.symm,hE⟩
  ·have d1:(R.wd != a)=false:=by simpa using k1
   have d2:(R.ht != b)=true:=by simpa using k2
   have HR:Hid (r=true):=by rw [Hid,hr.out]; unfold q5X; rw [d1,d2]; rfl
   clear k1 k2 hr;go_enter Tryz.func91,Tryz.ntmps91;go_upto_region 1 with (fail);refine ql ?_;intro W hE hsz B0;obtain⟨a0,a1,a2,a3,-⟩:=cells4 B0;replace p0:=hE.cell p0;replace p1:=hE.cell p1;go_wp2;go_ret;exact⟨qw HR.out.symm,hE⟩
 ·have d1:(R.wd != a)=true:=by simpa using k1
  have HR:Hid (r=true):=by rw [Hid,hr.out]; unfold q5X; rw [d1]; rfl
  clear k1 hr;go_enter Tryz.func91,Tryz.ntmps91;go_upto_region 1 with (fail);refine ql ?_;intro W hE hsz B0;obtain⟨a0,a1,a2,a3,-⟩:=cells4 B0;replace p0:=hE.cell p0;replace p1:=hE.cell p1;go_wp2;go_ret;exact⟨qw HR.out.symm,hE⟩
theorem q6h {I:Nat->Ras} (h:ImW N lo hi w v n I)  (g:Nat->Bool)
  (hf:∀ i,i < n->∀ w' u,Ext w w'->q61 w' u (I i)->Calls Tryz.prog 40 #[u] w' (zX w' (.bool (g i)))) :
  Calls Tryz.prog 89 #[v,.func (.func 40) #[] #[]] w (Vk w (jw n g)):=by
 obtain⟨r,hr⟩:=qf (jw n g);rw [<-hr.out];obtain⟨A,c,rfl,hnc,hcm⟩:=h.form;unfold maxLen at hcm;have hI:=h;have HF:=q_h hf;clear h hf;go_enter Tryz.func89,Tryz.ntmps89;go_wp2
 go_loopw [8] (fun i wr=>∃ k:Nat,k<=n/\i=.int .i64 k/\Hid (∀ j,j < k->g j=false)/\Ext w wr) (fun i _=>n - (intOf i).toNat)
 case atStart=>exact⟨0,Nat.zero_le _,rfl,fun j hj=>absurd hj (by omega),Ext.refl w⟩
 case round =>
  obtain⟨k,hk,rfl,HA,hE⟩:=hrel
  by_cases hlt:k < n
  ·(obtain⟨b,off,rfl,hx⟩:=(hI.ext hE).addr (by omega)); (obtain⟨A1,c1,p0,p1,p2,p3,hz⟩:=hx k hlt); (have hv:q61 _ (.agg #[.int .i64 (I k).wd,.int .i64 (I k).ht,.int .i64 (I k).mx,.slice A1 (I k).n c1]) (I k):=⟨A1,c1,rfl,hz⟩)
   clear hx;go_wp2_with (go_at_call 40; refine q_o ?_);refine (HF.out k hlt _ _ hE hv).mono ?_;rintro e w1 ⟨rfl,e1⟩;replace hE:=hE.trans e1;obtain⟨o,ho⟩:=qf (g k);rw [<-ho.out];cases o with
   | false =>
    go_wp2;go_roundw
    case rel=>exact⟨k+1,by omega,by go_num,xu (p:=fun j=>g j=false) HA.out ho.out.symm,hE⟩
    case measure=>simp [intOf]; omega
   | true =>
    have HT:Hid (r=true):=by rw [Hid,hr.out]; exact jr hlt ho.out.symm
    go_wp2;go_ret;exact⟨_,rfl,by rw [Hid,HT.out]; symm; simp,hE⟩
  ·have HT:Hid (r=false):=by rw [Hid,hr.out]; exact kM.2 (fun j hj=>HA.out j (by omega))
   go_wp2;go_ret;exact⟨_,rfl,by rw [Hid,HT.out]; rfl,hE⟩
theorem q6p {I:Nat->Ras} (h:ImW N lo hi w v n I)  (g:Nat->Bool)
  (hf:∀ i,i < n->∀ w' u,Ext w w'->q61 w' u (I i)->Calls Tryz.prog 40 #[u] w' (zX w' (.bool (g i)))) :
  Calls Tryz.prog 39 #[v,.func (.func 40) #[] #[]] w (zX w (.bool (jw n g))):=by
 obtain⟨r,hr⟩:=qf (jw n g);rw [<-hr.out];obtain⟨A,c,rfl,hnc,hcm⟩:=h.form;have hI:=h;have HF:=q_h hf;clear h hf;go_enter Tryz.func39,Tryz.ntmps39;go_wp2_with (go_at_call 89; refine q_o ?_);refine (q6h hI  g HF.out).mono ?_;rintro e w1 ⟨z,rfl,hz,e1⟩;rw [<-hr.out] at hz;go_wp2;go_ret;exact⟨qw hz.out.symm,e1⟩
theorem q68 {I:Nat->Ras} (h:ImW N lo hi w v n I)  (g:Nat->Bool)
  (hf:∀ i,i < n->∀ w' u,Ext w w'->q61 w' u (I i)->Calls Tryz.prog 42 #[u] w' (zX w' (.bool (g i)))) :
  Calls Tryz.prog 89 #[v,.func (.func 42) #[] #[]] w (Vk w (jw n g)):=by
 obtain⟨r,hr⟩:=qf (jw n g);rw [<-hr.out];obtain⟨A,c,rfl,hnc,hcm⟩:=h.form;unfold maxLen at hcm;have hI:=h;have HF:=q_h hf;clear h hf;go_enter Tryz.func89,Tryz.ntmps89;go_wp2
 go_loopw [8] (fun i wr=>∃ k:Nat,k<=n/\i=.int .i64 k/\Hid (∀ j,j < k->g j=false)/\Ext w wr) (fun i _=>n - (intOf i).toNat)
 case atStart=>exact⟨0,Nat.zero_le _,rfl,fun j hj=>absurd hj (by omega),Ext.refl w⟩
 case round =>
  obtain⟨k,hk,rfl,HA,hE⟩:=hrel
  by_cases hlt:k < n
  ·(obtain⟨b,off,rfl,hx⟩:=(hI.ext hE).addr (by omega)); (obtain⟨A1,c1,p0,p1,p2,p3,hz⟩:=hx k hlt); (have hv:q61 _ (.agg #[.int .i64 (I k).wd,.int .i64 (I k).ht,.int .i64 (I k).mx,.slice A1 (I k).n c1]) (I k):=⟨A1,c1,rfl,hz⟩)
   clear hx;go_wp2_with (go_at_call 42; refine q_o ?_);refine (HF.out k hlt _ _ hE hv).mono ?_;rintro e w1 ⟨rfl,e1⟩;replace hE:=hE.trans e1;obtain⟨o,ho⟩:=qf (g k);rw [<-ho.out];cases o with
   | false =>
    go_wp2;go_roundw
    case rel=>exact⟨k+1,by omega,by go_num,xu (p:=fun j=>g j=false) HA.out ho.out.symm,hE⟩
    case measure=>simp [intOf]; omega
   | true =>
    have HT:Hid (r=true):=by rw [Hid,hr.out]; exact jr hlt ho.out.symm
    go_wp2;go_ret;exact⟨_,rfl,by rw [Hid,HT.out]; symm; simp,hE⟩
  ·have HT:Hid (r=false):=by rw [Hid,hr.out]; exact kM.2 (fun j hj=>HA.out j (by omega))
   go_wp2;go_ret;exact⟨_,rfl,by rw [Hid,HT.out]; rfl,hE⟩
theorem q6i {I:Nat->Ras} (h:ImW N lo hi w v n I)  (g:Nat->Bool)
  (hf:∀ i,i < n->∀ w' u,Ext w w'->q61 w' u (I i)->Calls Tryz.prog 42 #[u] w' (zX w' (.bool (g i)))) :
  Calls Tryz.prog 39 #[v,.func (.func 42) #[] #[]] w (zX w (.bool (jw n g))):=by
 obtain⟨r,hr⟩:=qf (jw n g);rw [<-hr.out];obtain⟨A,c,rfl,hnc,hcm⟩:=h.form;have hI:=h;have HF:=q_h hf;clear h hf;go_enter Tryz.func39,Tryz.ntmps39;go_wp2_with (go_at_call 89; refine q_o ?_);refine (q68 hI  g HF.out).mono ?_;rintro e w1 ⟨z,rfl,hz,e1⟩;rw [<-hr.out] at hz;go_wp2;go_ret;exact⟨qw hz.out.symm,e1⟩
theorem q6g {I:Nat->Ras} (h:ImW N lo hi w v n I) (gb:Nat) (g:Nat->Bool)
  (hf:∀ i,i < n->∀ w' u,Ext w w'->q61 w' u (I i)->Calls Tryz.prog 44 #[u,.pointer (some ⟨gb,0,none⟩)] w' (zX w' (.bool (g i)))) :
  Calls Tryz.prog 89 #[v,.func (.func 44) #[] #[.pointer (some ⟨gb,0,none⟩)]] w (Vk w (jw n g)):=by
 obtain⟨r,hr⟩:=qf (jw n g);rw [<-hr.out];obtain⟨A,c,rfl,hnc,hcm⟩:=h.form;unfold maxLen at hcm;have hI:=h;have HF:=q_h hf;clear h hf;go_enter Tryz.func89,Tryz.ntmps89;go_wp2
 go_loopw [8] (fun i wr=>∃ k:Nat,k<=n/\i=.int .i64 k/\Hid (∀ j,j < k->g j=false)/\Ext w wr) (fun i _=>n - (intOf i).toNat)
 case atStart=>exact⟨0,Nat.zero_le _,rfl,fun j hj=>absurd hj (by omega),Ext.refl w⟩
 case round =>
  obtain⟨k,hk,rfl,HA,hE⟩:=hrel
  by_cases hlt:k < n
  ·(obtain⟨b,off,rfl,hx⟩:=(hI.ext hE).addr (by omega)); (obtain⟨A1,c1,p0,p1,p2,p3,hz⟩:=hx k hlt); (have hv:q61 _ (.agg #[.int .i64 (I k).wd,.int .i64 (I k).ht,.int .i64 (I k).mx,.slice A1 (I k).n c1]) (I k):=⟨A1,c1,rfl,hz⟩)
   clear hx;go_wp2_with (go_at_call 44; refine q_o ?_);refine (HF.out k hlt _ _ hE hv).mono ?_;rintro e w1 ⟨rfl,e1⟩;replace hE:=hE.trans e1;obtain⟨o,ho⟩:=qf (g k);rw [<-ho.out];cases o with
   | false =>
    go_wp2;go_roundw
    case rel=>exact⟨k+1,by omega,by go_num,xu (p:=fun j=>g j=false) HA.out ho.out.symm,hE⟩
    case measure=>simp [intOf]; omega
   | true =>
    have HT:Hid (r=true):=by rw [Hid,hr.out]; exact jr hlt ho.out.symm
    go_wp2;go_ret;exact⟨_,rfl,by rw [Hid,HT.out]; symm; simp,hE⟩
  ·have HT:Hid (r=false):=by rw [Hid,hr.out]; exact kM.2 (fun j hj=>HA.out j (by omega))
   go_wp2;go_ret;exact⟨_,rfl,by rw [Hid,HT.out]; rfl,hE⟩
theorem q6o {I:Nat->Ras} (h:ImW N lo hi w v n I) (gb:Nat) (g:Nat->Bool)
  (hf:∀ i,i < n->∀ w' u,Ext w w'->q61 w' u (I i)->Calls Tryz.prog 44 #[u,.pointer (some ⟨gb,0,none⟩)] w' (zX w' (.bool (g i)))) :
  Calls Tryz.prog 39 #[v,.func (.func 44) #[] #[.pointer (some ⟨gb,0,none⟩)]] w (zX w (.bool (jw n g))):=by
 obtain⟨r,hr⟩:=qf (jw n g);rw [<-hr.out];obtain⟨A,c,rfl,hnc,hcm⟩:=h.form;have hI:=h;have HF:=q_h hf;clear h hf;go_enter Tryz.func39,Tryz.ntmps39;go_wp2_with (go_at_call 89; refine q_o ?_);refine (q6g hI gb g HF.out).mono ?_;rintro e w1 ⟨z,rfl,hz,e1⟩;rw [<-hr.out] at hz;go_wp2;go_ret;exact⟨qw hz.out.symm,e1⟩
theorem q6q {I:Nat->Ras} (h:ImW N lo hi w v n I) (g1 g2:Nat) (g:Nat->Bool)
  (hf:∀ i,i < n->∀ w' u,Ext w w'->q61 w' u (I i)->Calls Tryz.prog 91 #[u,.pointer (some ⟨g1,0,none⟩),.pointer (some ⟨g2,0,none⟩)] w' (zX w' (.bool (g i)))) :
  Calls Tryz.prog 89 #[v,.func (.func 91) #[] #[.pointer (some ⟨g1,0,none⟩),.pointer (some ⟨g2,0,none⟩)]] w (Vk w (jw n g)):=by
 obtain⟨r,hr⟩:=qf (jw n g);rw [<-hr.out];obtain⟨A,c,rfl,hnc,hcm⟩:=h.form;unfold maxLen at hcm;have hI:=h;have HF:=q_h hf;clear h hf;go_enter Tryz.func89,Tryz.ntmps89;go_wp2
 go_loopw [8] (fun i wr=>∃ k:Nat,k<=n/\i=.int .i64 k/\Hid (∀ j,j < k->g j=false)/\Ext w wr) (fun i _=>n - (intOf i).toNat)
 case atStart=>exact⟨0,Nat.zero_le _,rfl,fun j hj=>absurd hj (by omega),Ext.refl w⟩
 case round =>
  obtain⟨k,hk,rfl,HA,hE⟩:=hrel
  by_cases hlt:k < n
  ·(obtain⟨b,off,rfl,hx⟩:=(hI.ext hE).addr (by omega)); (obtain⟨A1,c1,p0,p1,p2,p3,hz⟩:=hx k hlt); (have hv:q61 _ (.agg #[.int .i64 (I k).wd,.int .i64 (I k).ht,.int .i64 (I k).mx,.slice A1 (I k).n c1]) (I k):=⟨A1,c1,rfl,hz⟩)
   clear hx;go_wp2_with (go_at_call 91; refine q_o ?_);refine (HF.out k hlt _ _ hE hv).mono ?_;rintro e w1 ⟨rfl,e1⟩;replace hE:=hE.trans e1;obtain⟨o,ho⟩:=qf (g k);rw [<-ho.out];cases o with
   | false =>
    go_wp2;go_roundw
    case rel=>exact⟨k+1,by omega,by go_num,xu (p:=fun j=>g j=false) HA.out ho.out.symm,hE⟩
    case measure=>simp [intOf]; omega
   | true =>
    have HT:Hid (r=true):=by rw [Hid,hr.out]; exact jr hlt ho.out.symm
    go_wp2;go_ret;exact⟨_,rfl,by rw [Hid,HT.out]; symm; simp,hE⟩
  ·have HT:Hid (r=false):=by rw [Hid,hr.out]; exact kM.2 (fun j hj=>HA.out j (by omega))
   go_wp2;go_ret;exact⟨_,rfl,by rw [Hid,HT.out]; rfl,hE⟩
theorem q6D {I:Nat->Ras} (h:ImW N lo hi w v n I) (g1 g2:Nat) (g:Nat->Bool)
  (hf:∀ i,i < n->∀ w' u,Ext w w'->q61 w' u (I i)->Calls Tryz.prog 91 #[u,.pointer (some ⟨g1,0,none⟩),.pointer (some ⟨g2,0,none⟩)] w' (zX w' (.bool (g i)))) :
  Calls Tryz.prog 39 #[v,.func (.func 91) #[] #[.pointer (some ⟨g1,0,none⟩),.pointer (some ⟨g2,0,none⟩)]] w (zX w (.bool (jw n g))):=by
 obtain⟨r,hr⟩:=qf (jw n g);rw [<-hr.out];obtain⟨A,c,rfl,hnc,hcm⟩:=h.form;have hI:=h;have HF:=q_h hf;clear h hf;go_enter Tryz.func39,Tryz.ntmps39;go_wp2_with (go_at_call 89; refine q_o ?_);refine (q6q hI g1 g2 g HF.out).mono ?_;rintro e w1 ⟨z,rfl,hz,e1⟩;rw [<-hr.out] at hz;go_wp2;go_ret;exact⟨qw hz.out.symm,e1⟩
theorem q6O {u:Value} {R:Ras} {gi ci:Nat} {I:Nat->Ras} (h:q61 w u R) (pI:w.cell? ⟨gi,0,none⟩=some (.slice A m ci)) (hI:ImV w (.slice A m ci) m I) (h0:0 < m) :
  Calls Tryz.prog 44 #[u,.pointer (some ⟨gi,0,none⟩)] w (zX w (.bool (q5X (I 0).wd (I 0).ht R))):=by
 obtain⟨A',c',rfl,-⟩:=h;obtain⟨Ai,ci',hv,-,hcm,hx⟩:=hI;injection hv with e1 e2 e3
 subst e1 e3;unfold maxLen at hcm;obtain⟨b,off,rfl,hc⟩:=hx h0;obtain⟨A0,c0,q0,q1,-,-,-⟩:=hc 0 h0;obtain⟨x,hx0⟩:=qf (I 0).wd;obtain⟨y,hy0⟩:=qf (I 0).ht;rw [<-hx0.out] at q0 ⊢;rw [<-hy0.out] at q1 ⊢;rw [Nat.zero_mul,Nat.add_zero] at q0 q1;clear hc hx hx0 hy0;obtain⟨r,hr⟩:=qf (q5X x y R);rw [<-hr.out];go_enter Tryz.func44,Tryz.ntmps44;go_upto_region 1 with (fail);refine ql ?_;intro W hE hsz B0;obtain⟨gb,hgb⟩:∃ gb,gb=w.heap.size:=⟨_,rfl⟩
 rw [<-hgb] at B0 ⊢;clear hgb hsz;obtain⟨a0,a1,a2,a3,-⟩:=cells4 B0;replace pI:=hE.cell pI;replace q0:=hE.cell q0;replace q1:=hE.cell q1
 by_cases k1:R.wd=x
 ·by_cases k2:R.ht=y
  ·have d1:(R.wd != x)=false:=by simpa using k1
   have d2:(R.ht != y)=false:=by simpa using k2
   have HR:Hid (r=false):=by rw [Hid,hr.out]; unfold q5X; rw [d1,d2]; rfl
   clear k1 k2 hr;refine xe [Mn.q gb 0,Mn.i R.wd,Mn.eq (.slice (some ⟨b,off,none⟩) m ci),Mn.q b off,Mn.q b off,Mn.i x,Mn.t false,Mn.t false,Mn.q gb 1,Mn.i R.ht,Mn.eq (.slice (some ⟨b,off,none⟩) m ci),Mn.q b off,Mn.q b (off+1),Mn.i y,Mn.t false,Mn.t false,Mn.t false] (sM [4,5,6,7,8,9,10,11,12,13,14,15,16,17,18,19,3]) [] (rQ 17 0) 0 (by kernel_rfl) ?_ ?_
   ·show ∀ i,i < 17->_
    iterate 17 refine fs ?_ ?_
    ·exact fz
    all_goals intro hl; clear hl; refine stp rfl ?_; intro ac wi eI hB hA K hK
    have o2:=oOf (hB 2) rfl
    rotate_left
    obtain⟨_,s4,rfl⟩:=hA 0 4;have cc0:=eI.cell a0
    rotate_left
    have o1:=oOf (hB 1) rfl;have cc0:=eI.cell pI
    rotate_left
    obtain⟨_,s6,rfl⟩:=hA 2 6
    rotate_left
    obtain⟨_,s7,rfl⟩:=hA 3 7
    rotate_left
    obtain⟨_,s8,rfl⟩:=hA 4 8;have cc0:=eI.cell q0
    rotate_left
    obtain⟨_,s5,rfl⟩:=hA 1 5;obtain⟨_,s9,rfl⟩:=hA 5 9
    rotate_left
    obtain⟨_,s10,rfl⟩:=hA 6 10
    rotate_left
    obtain⟨_,s11,rfl⟩:=hA 7 11;have o2:=oOf (hB 2) rfl;rw [if_pos (by simp [Region.wanted,yielded,s11])]
    rotate_left
    obtain⟨_,s11,rfl⟩:=hA 7 11;obtain⟨_,s12,rfl⟩:=hA 8 12;rw [if_pos (by simp [Region.wanted,yielded,s11])];have cc0:=eI.cell a1
    rotate_left
    obtain⟨_,s11,rfl⟩:=hA 7 11;have o1:=oOf (hB 1) rfl;rw [if_pos (by simp [Region.wanted,yielded,s11])];have cc0:=eI.cell pI
    rotate_left
    obtain⟨_,s11,rfl⟩:=hA 7 11;obtain⟨_,s14,rfl⟩:=hA 10 14;rw [if_pos (by simp [Region.wanted,yielded,s11])]
    rotate_left
    obtain⟨_,s11,rfl⟩:=hA 7 11;obtain⟨_,s15,rfl⟩:=hA 11 15;rw [if_pos (by simp [Region.wanted,yielded,s11])]
    rotate_left
    obtain⟨_,s11,rfl⟩:=hA 7 11;obtain⟨_,s16,rfl⟩:=hA 12 16;rw [if_pos (by simp [Region.wanted,yielded,s11])];have cc0:=eI.cell q1
    rotate_left
    obtain⟨_,s11,rfl⟩:=hA 7 11;obtain⟨_,s13,rfl⟩:=hA 9 13;obtain⟨_,s17,rfl⟩:=hA 13 17;rw [if_pos (by simp [Region.wanted,yielded,s11])]
    rotate_left
    obtain⟨_,s11,rfl⟩:=hA 7 11;obtain⟨_,s18,rfl⟩:=hA 14 18
    rotate_left
    obtain⟨_,s19,rfl⟩:=hA 15 19
    rotate_left
    all_goals clear hB hA; go_simp; exact q_k hK rfl
   intro vals wz eZ hJ;have J3:vals 16=_:=hJ 16 (by decide) (by decide);clear hJ;simp only [pr,Nat.reduceAdd,J3];clear J3;refine qg (by kernel_rfl) ?_ _;replace hE:=hE.trans eZ;go_wp2;go_ret;exact⟨qw HR.out.symm,hE⟩
  ·have d1:(R.wd != x)=false:=by simpa using k1
   have d2:(R.ht != y)=true:=by simpa using k2
   have HR:Hid (r=true):=by rw [Hid,hr.out]; unfold q5X; rw [d1,d2]; rfl
   clear k1 k2 hr;refine xe [Mn.q gb 0,Mn.i R.wd,Mn.eq (.slice (some ⟨b,off,none⟩) m ci),Mn.q b off,Mn.q b off,Mn.i x,Mn.t false,Mn.t false,Mn.q gb 1,Mn.i R.ht,Mn.eq (.slice (some ⟨b,off,none⟩) m ci),Mn.q b off,Mn.q b (off+1),Mn.i y,Mn.t true,Mn.t true,Mn.t true] (sM [4,5,6,7,8,9,10,11,12,13,14,15,16,17,18,19,3]) [] (rQ 17 0) 0 (by kernel_rfl) ?_ ?_
   ·show ∀ i,i < 17->_
    iterate 17 refine fs ?_ ?_
    ·exact fz
    all_goals intro hl; clear hl; refine stp rfl ?_; intro ac wi eI hB hA K hK
    have o2:=oOf (hB 2) rfl
    rotate_left
    obtain⟨_,s4,rfl⟩:=hA 0 4;have cc0:=eI.cell a0
    rotate_left
    have o1:=oOf (hB 1) rfl;have cc0:=eI.cell pI
    rotate_left
    obtain⟨_,s6,rfl⟩:=hA 2 6
    rotate_left
    obtain⟨_,s7,rfl⟩:=hA 3 7
    rotate_left
    obtain⟨_,s8,rfl⟩:=hA 4 8;have cc0:=eI.cell q0
    rotate_left
    obtain⟨_,s5,rfl⟩:=hA 1 5;obtain⟨_,s9,rfl⟩:=hA 5 9
    rotate_left
    obtain⟨_,s10,rfl⟩:=hA 6 10
    rotate_left
    obtain⟨_,s11,rfl⟩:=hA 7 11;have o2:=oOf (hB 2) rfl;rw [if_pos (by simp [Region.wanted,yielded,s11])]
    rotate_left
    obtain⟨_,s11,rfl⟩:=hA 7 11;obtain⟨_,s12,rfl⟩:=hA 8 12;rw [if_pos (by simp [Region.wanted,yielded,s11])];have cc0:=eI.cell a1
    rotate_left
    obtain⟨_,s11,rfl⟩:=hA 7 11;have o1:=oOf (hB 1) rfl;rw [if_pos (by simp [Region.wanted,yielded,s11])];have cc0:=eI.cell pI
    rotate_left
    obtain⟨_,s11,rfl⟩:=hA 7 11;obtain⟨_,s14,rfl⟩:=hA 10 14;rw [if_pos (by simp [Region.wanted,yielded,s11])]
    rotate_left
    obtain⟨_,s11,rfl⟩:=hA 7 11;obtain⟨_,s15,rfl⟩:=hA 11 15;rw [if_pos (by simp [Region.wanted,yielded,s11])]
    rotate_left
    obtain⟨_,s11,rfl⟩:=hA 7 11;obtain⟨_,s16,rfl⟩:=hA 12 16;rw [if_pos (by simp [Region.wanted,yielded,s11])];have cc0:=eI.cell q1
    rotate_left
    obtain⟨_,s11,rfl⟩:=hA 7 11;obtain⟨_,s13,rfl⟩:=hA 9 13;obtain⟨_,s17,rfl⟩:=hA 13 17;rw [if_pos (by simp [Region.wanted,yielded,s11])]
    rotate_left
    obtain⟨_,s11,rfl⟩:=hA 7 11;obtain⟨_,s18,rfl⟩:=hA 14 18
    rotate_left
    obtain⟨_,s19,rfl⟩:=hA 15 19
    rotate_left
    all_goals clear hB hA; go_simp; exact q_k hK rfl
   intro vals wz eZ hJ;have J3:vals 16=_:=hJ 16 (by decide) (by decide);clear hJ;simp only [pr,Nat.reduceAdd,J3];clear J3;refine qg (by kernel_rfl) ?_ _;replace hE:=hE.trans eZ;go_wp2;go_ret;exact⟨qw HR.out.symm,hE⟩
 ·have d1:(R.wd != x)=true:=by simpa using k1
  have HR:Hid (r=true):=by rw [Hid,hr.out]; unfold q5X; rw [d1]; rfl
  clear k1 hr;refine xe [Mn.q gb 0,Mn.i R.wd,Mn.eq (.slice (some ⟨b,off,none⟩) m ci),Mn.q b off,Mn.q b off,Mn.i x,Mn.t true,Mn.t true,Mn.eq undef,Mn.eq undef,Mn.eq undef,Mn.eq undef,Mn.eq undef,Mn.eq undef,Mn.eq undef,Mn.t true,Mn.t true] (sM [4,5,6,7,8,9,10,11,12,13,14,15,16,17,18,19,3]) [] (rQ 17 0) 0 (by kernel_rfl) ?_ ?_
  ·show ∀ i,i < 17->_
   iterate 17 refine fs ?_ ?_
   ·exact fz
   all_goals intro hl; clear hl; refine stp rfl ?_; intro ac wi eI hB hA K hK
   have o2:=oOf (hB 2) rfl
   rotate_left
   obtain⟨_,s4,rfl⟩:=hA 0 4;have cc0:=eI.cell a0
   rotate_left
   have o1:=oOf (hB 1) rfl;have cc0:=eI.cell pI
   rotate_left
   obtain⟨_,s6,rfl⟩:=hA 2 6
   rotate_left
   obtain⟨_,s7,rfl⟩:=hA 3 7
   rotate_left
   obtain⟨_,s8,rfl⟩:=hA 4 8;have cc0:=eI.cell q0
   rotate_left
   obtain⟨_,s5,rfl⟩:=hA 1 5;obtain⟨_,s9,rfl⟩:=hA 5 9
   rotate_left
   obtain⟨_,s10,rfl⟩:=hA 6 10
   rotate_left
   iterate 7 (obtain⟨_,s11,rfl⟩:=hA 7 11; clear hB hA; rw [if_neg (by simp [Region.wanted,yielded,s11,undef])]; exact q_k hK rfl)
   obtain⟨_,s11,rfl⟩:=hA 7 11;obtain⟨_,s18,rfl⟩:=hA 14 18
   rotate_left
   obtain⟨_,s19,rfl⟩:=hA 15 19
   rotate_left
   all_goals clear hB hA; go_simp; exact q_k hK rfl
  intro vals wz eZ hJ;have J3:vals 16=_:=hJ 16 (by decide) (by decide);clear hJ;simp only [pr,Nat.reduceAdd,J3];clear J3;refine qg (by kernel_rfl) ?_ _;replace hE:=hE.trans eZ;go_wp2;go_ret;exact⟨qw HR.out.symm,hE⟩
def imW (m:Nat) (I:Nat->Ras):Int:=if 0 < m then (I 0).wd else 1
def imH (m:Nat) (I:Nat->Ras):Int:=if 0 < m then (I 0).ht else 1
def q6U (m:Nat) (I:Nat->Ras):Bool:=jw m (fun i=>q5Z (I i) != 0)
def q6T (m:Nat) (I:Nat->Ras):Bool:=jw m (fun i=>q5X (imW m I) (imH m I) (I i))
def q60 (G:Grd) (S:Nat->Sta) (n m:Nat) (I:Nat->Ras):Int :=
 if zh G≠0 then zh G else if 64 < n then 3 else if n≠m then 4 else if q2Q S n≠0 then q2Q S n else if q6U m I=true then 1 else if q6T m I=true then 4 else 0
theorem q6e {R:Ras} (h:q5Z R=0):q5W R:=by
 by_cases h9:q5W R
 ·exact h9
 ·rw [q6a h9] at h; cases h
def q6n (n:Nat) (W H:Int) (C:Chs):Prop:=C.best < 0\/(0<=C.best/\C.best < (n:Int)/\0<=C.u/\C.u < W/\0<=C.v/\C.v < H)
theorem q6n.more {W H:Int} {C:Chs} (h:q6n n W H C):q6n (n+1) W H C:=by
 rcases h with h | ⟨h0,h1,h2⟩
 ·exact .inl h
 ·exact .inr ⟨h0,by omega,h2⟩
theorem q6I (G:Grd) (S:Nat->Sta) (W H X Y z:Int):∀ n,q6n n W H (jG G S W H X Y z n)
 | 0=>.inl (by unfold jG; simp only; omega)
 | n+1=>by
  have ih:=q6I G S W H X Y z n
  by_cases h1:z=zK\/(0<=(jG G S W H X Y z n).best/\(jG G S W H X Y z n).least<=q3j (S n) X Y)
  ·rw [jG,if_pos h1]; exact ih.more
  ·cases h2:xM G (S n) (sp3 X Y z) W H with
   | false=>rw [X9 h2]; exact ih.more
   | true =>
    rw [jG,if_neg h1,if_pos h2];have h3:=h2;unfold xM at h3;rw [Bool.and_eq_true,Bool.and_eq_true] at h3;obtain⟨h4,h5⟩:=of_decide_eq_true h3.2.1;have k4:=Zb.1 h4;have k5:=Zb.1 h5;refine .inr ⟨by simp only; omega,by simp only; omega,h4,?_,h5,?_⟩
    ·simp only; rw [q0S k4]; exact k4.2
    ·simp only; rw [q0S k5]; exact k5.2
theorem src_ok (G:Grd) (S:Nat->Sta) (n:Nat) (W H:Int) (k:Nat):q6n n W H (q1t G S n W H k):=q6I G S W H _ _ _ n
theorem q6S {vg vs vi:Value} {S:Nat->Sta} {I:Nat->Ras} (h:yg N lo hi w vg G) (hs:StsV w vs n S) (him:ImV w vi m I) (hN:N<=w.heap.size) :
  Calls Tryz.prog 41 #[vg,vs,vi] w (q6Y w (q60 G S n m I) G.n (q5j G S n (imW m I) (imH m I) m I)):=by
 obtain⟨r,hr⟩:=qf (q60 G S n m I);rw [<-hr.out];obtain⟨A,c,rfl,-,-,-⟩:=h.parts;have HST:=q_h hs;obtain⟨As,cs,rfl,hsc,hscm,-⟩:=hs;have HIM:=q_h him;obtain⟨Ai,ci,rfl,hic,hicm,hig⟩:=him;have HIG:=q_h hig;unfold maxLen at hscm hicm;have HG:=q_h h;obtain⟨q,hq⟩:=qf (zh G);obtain⟨q2,hq2⟩:=qf (q2Q S n);obtain⟨bk,hbk⟩:=qf (q6U m I);obtain⟨bz,hbz⟩:=qf (q6T m I);have HR0:Hid (r=if q≠0 then q else if 64 < n then 3 else if n≠m then 4 else if q2≠0 then q2 else if bk=true then 1 else if bz=true then 4 else 0):=by rw [Hid,hr.out,hq.out,hq2.out,hbk.out,hbz.out]; rfl
 clear h hr hig;go_enter Tryz.func41,Tryz.ntmps41;go_wp2_with (go_at_call 49; refine q_o ?_);refine qM ?_;intro W0 hE hsz B0;refine (Ym (HG.out.ext hE)).mono ?_;rw [<-hq.out];rintro e w1 ⟨rfl,e1⟩;replace hE:=hE.trans e1;replace B0:=e1.block B0
 by_cases h0:q=0
 case neg =>
  have t0:(q != 0)=true:=by simpa using h0
  have HR:Hid (q=r):=by rw [Hid,HR0.out,if_pos h0]
  have HNZ:Hid (q≠0):=h0;clear h0 hq B0;go_wp2;go_ret2;rw [<-HR.out];exact⟨_,rfl,fun _=>rfl,fun h=>absurd h HNZ.out,hE⟩
 have t0:(q != 0)=false:=by simpa using h0
 have HGC:Hid (zh G=0):=by rw [Hid,<-hq.out]; exact h0
 have HR1:Hid (r=if 64 < n then 3 else if n≠m then 4 else if q2≠0 then q2 else if bk=true then 1 else if bz=true then 4 else 0):=by rw [Hid,HR0.out,if_neg (by simpa using h0)]
 clear h0 hq HR0
 by_cases h1:64 < n
 case pos =>
  have t1:decide (64 < (n:Int))=true:=q_t (by omega);have HR:Hid (3=r):=by rw [Hid,HR1.out,if_pos h1]
  have HNZ:Hid ((3:Int)≠0):=by rw [Hid]; decide
  clear h1 HR1 B0;go_wp2;go_ret2;rw [<-HR.out];exact⟨_,rfl,fun _=>rfl,fun h=>absurd h HNZ.out,hE⟩
 have t1:decide (64 < (n:Int))=false:=q_f (by omega);have HR2:Hid (r=if n≠m then 4 else if q2≠0 then q2 else if bk=true then 1 else if bz=true then 4 else 0):=by rw [Hid,HR1.out,if_neg h1]
 have hn64:n<=64:=by omega
 clear h1 HR1
 by_cases hnm:n=m
 case neg =>
  have t2:((n:Int) != (m:Int))=true:=by simp; omega
  have HR:Hid (4=r):=by rw [Hid,HR2.out,if_pos hnm]
  have HNZ:Hid ((4:Int)≠0):=by rw [Hid]; decide
  clear hnm HR2 B0;go_wp2;go_ret2;rw [<-HR.out];exact⟨_,rfl,fun _=>rfl,fun h=>absurd h HNZ.out,hE⟩
 have t2:((n:Int) != (m:Int))=false:=by simp; omega
 have HNM:=q_h hnm;have HR3:Hid (r=if q2≠0 then q2 else if bk=true then 1 else if bz=true then 4 else 0):=by rw [Hid,HR2.out,if_neg (fun h=>h hnm)]
 clear hnm HR2;go_wp2_with (go_at_call 85; refine q_o ?_);refine (q1c (HST.out.ext hE)).mono ?_;rw [<-hq2.out];rintro e w2 ⟨rfl,e2⟩;replace hE:=hE.trans e2;replace B0:=e2.block B0
 by_cases h2:q2=0
 case neg =>
  have t3:(q2 != 0)=true:=by simpa using h2
  have HR:Hid (q2=r):=by rw [Hid,HR3.out,if_pos h2]
  have HNZ:Hid (q2≠0):=h2;clear h2 HR3 hq2 B0;go_wp2;go_ret2;rw [<-HR.out];exact⟨_,rfl,fun _=>rfl,fun h=>absurd h HNZ.out,hE⟩
 have t3:(q2 != 0)=false:=by simpa using h2
 have HOK:Hid (∀ i,i < n->ZK (S i)):=fun i hi=>q6V (q6d (by rw [<-hq2.out]; exact h2) i hi)
 have HR4:Hid (r=if bk=true then 1 else if bz=true then 4 else 0):=by rw [Hid,HR3.out,if_neg (by simpa using h2)]
 clear h2 hq2 HR3 e1 e2;have HB0:=q_h B0;clear B0 hsz;obtain⟨w3,hwx⟩:∃ w3,w3=w2:=⟨_,rfl⟩
 subst hwx
 go_upto_block 1 with (fail)
 go_cut [] (fun wx=>Hid (∀ i,i < m->q5Z (I i)=0)/\Ext w3 wx)
 case first =>
  go_wp2_with fail
  go_loopw [40] (fun iv wr=>∃ k:Nat,k<=m/\iv=.int .i64 (k:Int)/\Hid (∀ j,j < k->q5Z (I j)=0)/\Ext w3 wr) (fun iv _=>m - (intOf iv).toNat)
  case atStart=>exact⟨0,Nat.zero_le _,rfl,fun j hj=>absurd hj (by omega),Ext.refl _⟩
  case round =>
   obtain⟨k,hk,rfl,HA,hE1⟩:=hrel
   by_cases hlt:k < m
   case neg =>
    have t4:decide ((k:Int) < (m:Int))=false:=q_f (by omega);have hlt':¬ (k:Int) < (m:Int):=by omega
    have HAA:Hid (∀ i,i < m->q5Z (I i)=0):=fun i hi=>HA.out i (by omega)
    clear HA;go_wp2_with fail
    go_meet
    exact⟨HAA,hE1⟩
   have t4:decide ((k:Int) < (m:Int))=true:=q_t (by omega);obtain⟨bi,oi,rfl,hia⟩:=HIG.out (by omega);obtain⟨Ap,cp,x0,x1,x2,x3,hpx⟩:=(hia k hlt).ext (hE.trans hE1);obtain⟨R,hR⟩:=qf (I k);rw [<-hR.out] at x0 x1 x2 x3 hpx;have HPX:=q_h hpx;clear hia HIG hpx;go_upto_region 14 with (fail);refine ql ?_;intro w4 e4 hsz4 B4;clear x0 x1 x2 x3;obtain⟨x0,x1,x2,x3,-⟩:=cells4 B4;go_wp2_with (go_at_call 90; refine q_o ?_);refine (q6F (R:=R) ⟨Ap,cp,rfl,HPX.out.ext e4⟩).mono ?_;obtain⟨rc,hrc⟩:=qf (q5Z R);rw [<-hrc.out];rintro e w5 ⟨rfl,e5⟩;have hE5:=(hE1.trans e4).trans e5;clear x0 x1 x2 x3 B4 e4 e5 HPX hE1
   by_cases h5:rc=0
   case neg =>
    have t5:(rc != 0)=true:=by simpa using h5
    have hbt:bk=true:=by rw [hbk.out]; unfold q6U; exact jr (p:=fun i=>q5Z (I i) != 0) hlt (by rw [<-hR.out,<-hrc.out]; exact t5)
    have HR:Hid (1=r):=by rw [Hid,HR4.out,if_pos hbt]
    have HNZ:Hid ((1:Int)≠0):=by rw [Hid]; decide
    replace hE:=hE.trans hE5;clear h5 hbt hrc hR;go_wp2;go_ret2;rw [<-HR.out];exact⟨_,rfl,fun _=>rfl,fun h=>absurd h HNZ.out,hE⟩
   have t5:(rc != 0)=false:=by simpa using h5
   have HA2:Hid (∀ j,j < k+1->q5Z (I j)=0):=fun j hj=>by
    by_cases hjk:j=k
    ·rw [hjk,<-hR.out,<-hrc.out]; exact h5
    ·exact HA.out j (by omega)
   clear h5 hrc hR HA;go_wp2_with fail;go_roundw
   case rel=>exact⟨k+1,by omega,by go_num,HA2.out,hE5⟩
   case measure=>simp [intOf]; omega
 obtain⟨HAA,hE3⟩:=hcut;obtain⟨w5,hwx⟩:∃ w5,w5=wc:=⟨_,rfl⟩
 subst hwx;replace hE:=hE.trans hE3
 have HBF:Hid (bk=false):=by
  rw [Hid,hbk.out];exact kM.2 (fun i hi=>by rw [HAA.out i hi]; rfl)
 have HR5:Hid (r=if bz=true then 4 else 0):=by rw [Hid,HR4.out,HBF.out]; rfl
 have HB5:=q_h (hE3.block HB0.out);clear HR4 HBF hbk HB0 hE3 t0 t1 t2 t3;obtain⟨wd,hwd⟩:=qf (imW m I);obtain⟨ht,hht⟩:=qf (imH m I);go_upto_region 18 with (fail);refine kE ?_;intro w6 e6 hsz6 C0 C1;obtain⟨g1,hg1⟩:∃ g1,g1=w5.heap.size:=⟨_,rfl⟩
 rw [<-hg1] at C0 C1 ⊢;have hg1b:w5.heap.size<=g1:=by omega
 have hg1c:g1+1 < w6.heap.size:=qJ C1;clear hg1
 go_upto_if 50 with (fail)
 go_cut [] (fun wx=>Ext w5 wx/\wx.cell? ⟨g1,0,none⟩=some (.int .i64 wd)/\wx.cell? ⟨g1+1,0,none⟩=some (.int .i64 ht))
 case first =>
  by_cases hm:0 < m
  case neg =>
   have t4:decide ((0:Int) < (m:Int))=false:=q_f (by omega);have t4':¬ (0:Int) < (m:Int):=by omega
   have HW1:Hid (1=wd):=by rw [Hid,hwd.out]; unfold imW; rw [if_neg hm]
   have HH1:Hid (1=ht):=by rw [Hid,hht.out]; unfold imH; rw [if_neg hm]
   obtain⟨c0,-⟩:=zA C0;obtain⟨c1,-⟩:=zA C1;have C0':=q_h c0;have C1':=q_h c1;clear hm;go_wp2_with fail
   go_meet
   exact⟨e6,by rw [<-HW1.out]; exact C0'.out,by rw [<-HH1.out]; exact C1'.out⟩
  have t4:decide ((0:Int) < (m:Int))=true:=q_t (by omega);have t4':(0:Int) < (m:Int):=by omega
  obtain⟨bi,oi,rfl,hia⟩:=HIG.out hm;obtain⟨Ap,cp,x0,x1,-,-,-⟩:=(hia 0 hm).ext hE;have HW1:Hid ((I 0).wd=wd):=by rw [Hid,hwd.out]; unfold imW; rw [if_pos hm]
  have HH1:Hid ((I 0).ht=ht):=by rw [Hid,hht.out]; unfold imH; rw [if_pos hm]
  rw [Nat.zero_mul,Nat.add_zero,HW1.out] at x0;rw [Nat.zero_mul,Nat.add_zero,HH1.out] at x1;clear hia hm HW1 HH1 HIG;obtain⟨c0,f0⟩:=zA C0;obtain⟨c1,f1⟩:=zA C1;go_upto_region 19 with (fail);refine q4M [Mn.eq (.slice (some ⟨bi,oi,none⟩) m ci),Mn.q bi oi,Mn.q bi oi,Mn.i wd,Mn.eq (.slice (some ⟨bi,oi,none⟩) m ci),Mn.q bi oi,Mn.q bi (oi+1),Mn.i ht,Mn.any,Mn.any] [some 51,some 52,some 53,some 54,some 55,some 56,some 57,some 58,none,none] [8,9] [4,5,6,7] [] (rQ 8 2) 2 e6 (by kernel_rfl) ?_ ?_ ?_ ?_
  ·show ∀ i,i < 10->_
   iterate 10 refine fs ?_ ?_
   ·exact fz
   all_goals intro hl hs hd; first | exact absurd hl (by decide) | exact absurd hs (by decide) | (clear hl hs hd; refine stp rfl ?_; intro ac wi eI hB hA K hK)
   have o2:=oOf (hB 2) rfl
   rotate_left
   obtain⟨_,s51,rfl⟩:=hA 0 51
   rotate_left
   obtain⟨_,s52,rfl⟩:=hA 1 52
   rotate_left
   obtain⟨_,s53,rfl⟩:=hA 2 53;have cc0:=(e6.trans eI).cell x0
   rotate_left
   all_goals clear hB hA; go_simp; exact q_k hK rfl
  ·intro i hs; exact absurd hs (by simp)
  ·intro i hs;have hi':i=4\/i=5\/i=6\/i=7:=by simpa using hs
   clear hs
   rcases hi' with rfl | rfl | rfl | rfl
   ·refine q1D rfl (fun _ _ _ _ h=>h) ?_;intro ac wi eI hB hA;have o2:=oOf (hB 2) rfl;clear hB hA;refine⟨(.slice (some ⟨bi,oi,none⟩) m ci),.inl ⟨rfl,fun w9 _=>?_⟩,rfl⟩;go_simp
   ·refine q1D rfl (fun _ _ _ _ h=>h) ?_;intro ac wi eI hB hA;obtain⟨_,s55,rfl⟩:=hA 4 55;clear hB hA;refine⟨(.pointer (some ⟨bi,oi,none⟩)),.inl ⟨rfl,fun w9 _=>?_⟩,rfl⟩;go_simp
   ·refine q1D rfl (fun _ _ _ _ h=>h) ?_;intro ac wi eI hB hA;obtain⟨_,s56,rfl⟩:=hA 5 56;clear hB hA;refine⟨(.pointer (some ⟨bi,oi+1,none⟩)),.inl ⟨rfl,fun w9 _=>?_⟩,rfl⟩;go_simp
   ·refine q1D rfl (fun _ _ _ _ h=>h) ?_;intro ac wi eI hB hA;obtain⟨_,s57,rfl⟩:=hA 6 57;clear hB hA;refine⟨(.int .i64 ht),.inl ⟨rfl,fun w9 e9=>?_⟩,rfl⟩;have cc0:=e9.cell x1;go_simp
  intro vals wz eZ hJ hD;clear hD;have J54:vals 3=_:=hJ 3 (by decide) (by decide);have J58:vals 7=_:=hJ 7 (by decide) (by decide);clear hJ;simp only [pr,Nat.reduceAdd,J54,J58];clear J54 J58;replace C0:=eZ.block C0;replace C1:=eZ.block C1;clear c0 c1 f0 f1;obtain⟨c0,f0⟩:=zA C0;obtain⟨c1,f1⟩:=zA C1;refine zg (i:=8) rfl (by kernel_rfl) (fun K hK=>?_);go_simp;refine hK.out _ _ (fun e9=>?_) ?_
  ·repeat (first | with_reducible exact e9 | refine Ext.setCell ?_ (by dsimp only; omega) _)
  clear hK K;try simp only [nr]
  refine zg (i:=9) rfl (by kernel_rfl) (fun K hK=>?_);go_simp;refine hK.out _ _ (fun e9=>?_) ?_
  ·repeat (first | with_reducible exact e9 | refine Ext.setCell ?_ (by dsimp only; omega) _)
  clear hK K;try simp only [nr]
  refine qg (by kernel_rfl) ?_ _;obtain⟨wA,EA,CA,UA⟩:=ex1 C0 (.int .i64 wd);rw [EA];obtain⟨wB,EB,CB,UB⟩:=ex1 (UA.blk C1 (by omega)) (.int .i64 ht);rw [EB];have hEB:Ext w5 wB:=UB.ext (UA.ext (e6.trans eZ) (by omega)) (by omega);obtain⟨k0,-⟩:=zA (UB.blk CA (by omega));obtain⟨k1,-⟩:=zA CB;have K0:=q_h k0;have K1:=q_h k1;clear k0 k1 c0 c1 f0 f1 x0 x1 C0 C1 CA CB;go_wp2_with fail
  go_meet
  exact⟨hEB,K0.out,K1.out⟩
 clear C0 C1 hsz6 e6 hg1c;obtain⟨hE6,c0,c1⟩:=hcut;obtain⟨w7,hwx⟩:∃ w7,w7=wc:=⟨_,rfl⟩
 subst hwx;replace hE:=hE.trans hE6;have HB7:=q_h (hE6.block HB5.out);have HC0:=q_h c0;have HC1:=q_h c1;have HS:=q_h (q6D (N:=0) (lo:=0) (hi:=0) (⟨rfl,HIM.out.ext hE⟩:ImW 0 0 0 w7 _ m I) g1 (g1+1) (fun i=>q5X wd ht (I i)) (fun i hi w' u e hu=>q6R hu (e.cell c0) (e.cell c1)));rw [show jw m (fun i=>q5X wd ht (I i))=bz by rw [hbz.out,hwd.out,hht.out]; rfl] at HS;clear HB5 hE6;go_wp2_with (go_at_call 39; refine q_o ?_);refine (HS.out).mono ?_;rintro e w8 ⟨rfl,e8⟩;replace hE:=hE.trans e8;have c0:=e8.cell HC0.out;have c1:=e8.cell HC1.out;have B0:=e8.block HB7.out;clear HS HC0 HC1 HB7 e8;cases bz with
 | true =>
  have HR:Hid (4=r):=by rw [Hid,HR5.out]; rfl
  have HNZ:Hid ((4:Int)≠0):=by rw [Hid]; decide
  clear HR5 hbz c0 c1 B0;go_wp2;go_ret2;rw [<-HR.out];exact⟨_,rfl,fun _=>rfl,fun h=>absurd h HNZ.out,hE⟩
 | false =>
 have HR:Hid (0=r):=by rw [Hid,HR5.out]; rfl
 have HZB:Hid (∀ i,i < m->q5X wd ht (I i)=false):=by
  have h9:=hbz.out.symm;unfold q6T at h9;rw [<-hwd.out,<-hht.out] at h9;exact kM.1 h9
 have HSZ:Hid (∀ i,i < m->(I i).wd=wd/\(I i).ht=ht/\((I i).n:Int)=wd*ht):=fun i hi=>by
  have h9:=HZB.out i hi;unfold q5X at h9;rw [Bool.or_eq_false_iff,bne_eq_false_iff_eq,bne_eq_false_iff_eq] at h9;have h8:=(q6e (HAA.out i hi)).2.2.2.2.2.2;exact⟨h9.1,h9.2,by rw [h8,h9.1,h9.2]⟩
 have HWH:Hid ((1<=wd/\wd<=64)/\(1<=ht/\ht<=64)):=by
  by_cases hm:0 < m
  ·obtain⟨a1,a2,-,a3,a4,-,-⟩:=q6e (HAA.out 0 hm);obtain⟨b1,b2,-⟩:=HSZ.out 0 hm;rw [b1] at a1 a3;rw [b2] at a2 a4;exact⟨⟨a1,a3⟩,⟨a2,a4⟩⟩
  ·have h1:wd=1:=by rw [hwd.out]; unfold imW; rw [if_neg hm]
   have h2:ht=1:=by rw [hht.out]; unfold imH; rw [if_neg hm]
   rw [h1,h2];exact⟨by decide,by decide⟩
 clear HR5 hbz HZB HAA;have HGO:=q_h (q3c HGC.out)
 have hn4:G.n<=4096:=by
  have g2:=HGO.out.w1;have g4:=HGO.out.h1;have g1:=HGO.out.w0;have g3:=HGO.out.h0;have h3:G.wd*G.ht<=64*64:=Int.mul_le_mul g2 g4 (by omega) (by omega);have:=HGO.out.n;omega
 obtain⟨a0,a1,a2,a3,a4,a5⟩:=qG B0;go_wp2_with (go_at_call 86; refine q_o ?_);refine (q4T (HG.out.ext hE) HGO.out (HST.out.ext hE) HOK.out wd ht HWH.out.1.2 HWH.out.2.2 (by have:=hE.size; omega)).mono ?_;rintro e w9 ⟨A4,c4,rfl,hg4,e9⟩;have HG4:=q_h hg4;have hE4:=hE.trans e9;have HC0:=q_h (e9.cell c0);have HC1:=q_h (e9.cell c1)
 have HIG':Hid (0 < m->∃ b off,Ai=some ⟨b,off,none⟩/\∀ i,i < m->q2H w9 b (off+i*4) (I i)):=fun h0=>by
  obtain⟨b,off,h1,h2⟩:=HIG.out h0;exact⟨b,off,h1,fun i hi=>(h2 i hi).ext hE4⟩
 clear a0 a1 a2 a3 a4 a5 c0 c1 B0 hE e9 hg4 HGO HIG;obtain⟨z,hz⟩:=qf (q5j G S n wd ht m I);rw [<-hwd.out,<-hht.out,<-hz.out];go_wp2_with fail
 go_loopw [68,14] (fun kv lv wr=>∃ k:Nat,k<=G.n/\kv=.int .i64 (k:Int)/\zY 3 w9.heap.size wr lv (izL z k)/\Ext w9 wr) (fun kv _ _=>G.n - (intOf kv).toNat)
 case atStart=>exact⟨0,Nat.zero_le _,rfl,zY.nil (q_r),Ext.refl _⟩
 case round =>
  obtain⟨k,hk,rfl,HG1,hE1⟩:=hrel;obtain⟨A1,c1,rfl,-⟩:=HG1.form;have hl1:(izL z k).length=k:=Kz z k;rw [hl1] at HG1 ⊢
  by_cases hlt:k < G.n
  case neg =>
   have hke:k=G.n:=by omega
   have HG9:Hid (zY 3 w9.heap.size wr (.slice A1 G.n c1) (izL z G.n)):=by rw [Hid,<-hke]; exact HG1
   have t1:decide ((k:Int) < (G.n:Int))=false:=q_f (by omega);rw [hke] at t1 ⊢;clear hke hlt HG1 hl1;go_wp2;refine bodyPost_ret (v:=.tuple #[.slice A1 G.n c1,.int .i64 0]) (by simp [results,Tryz.results41,go_sem]) rfl ?_;rw [<-HR.out];exact⟨_,rfl,fun h=>absurd rfl h,fun _=>⟨A1,c1,rfl,by first | exact HG9.out.low hE4.size | (rw [<-hwd.out,<-hht.out,<-hz.out]; exact HG9.out.low hE4.size)⟩,hE4.trans hE1⟩
  have t1:decide ((k:Int) < (G.n:Int))=true:=q_t (by omega);have HG1':=q_h HG1;obtain⟨C,hC⟩:=qf (q1t G S n wd ht k);have HZK:Hid (z k=wX m I wd C):=by rw [Hid,hz.out,hC.out]; rfl
  have HCI:Hid (q6n n wd ht C):=by rw [Hid,hC.out]; exact src_ok G S n wd ht k
  obtain⟨gq,hA4,hcell⟩:=(HG4.out.ext hE1).cell (q6W G S n wd ht hlt);subst hA4;rw [<-hC.out] at hcell;have x0:wr.cell? ⟨gq,k*3,none⟩=some (.int .i64 C.best):=hcell 0 (by omega);have x1:wr.cell? ⟨gq,k*3+1,none⟩=some (.int .i64 C.u):=hcell 1 (by omega);have x2:wr.cell? ⟨gq,k*3+2,none⟩=some (.int .i64 C.v):=hcell 2 (by omega);clear HG1 hcell hC;go_upto_region 26 with (fail);refine ql ?_;intro wa ea hsza Ba;obtain⟨gS,hgS⟩:∃ gS,gS=wr.heap.size:=⟨_,rfl⟩
  rw [<-hgS] at Ba ⊢;clear x0 x1 x2 hgS hsza;obtain⟨gy,hgy⟩:=qf (wX m I wd C);rw [<-hgy.out] at HZK;go_upto_region 27 with (fail);obtain⟨x0,x1,x2,-⟩:=cells3 Ba
  go_upto_if 74 with (fail)
  go_cut [14,17] (fun lv yv wx=>lv=.slice A1 k c1/\yv=.int .i64 gy/\Ext wa wx)
  case first =>
   rcases HCI.out with h9 | ⟨h9,h8,h7,h6,h5,h4⟩
   ·clear x0 x1 x2;have d1:decide (0<=C.best)=false:=q_f (by omega);have HGY:Hid (-1=gy):=by rw [Hid,hgy.out]; unfold wX; rw [if_pos h9]
    have d1':¬ (0:Int)<=C.best:=by omega
    clear h9;go_wp2_with fail
    go_meet
    exact⟨rfl,by rw [<-HGY.out],Ext.refl _⟩
   have d1:decide (0<=C.best)=true:=q_t h9;obtain⟨K,hK⟩:∃ K:Nat,(K:Int)=C.best:=⟨C.best.toNat,by omega⟩
   have hKm:K < m:=by have:=HNM.out; omega
   obtain⟨bi,oi,rfl,hia⟩:=HIG'.out (by omega);obtain⟨Ap,cp,-,-,-,y3,hpx⟩:=(hia K hKm).ext (hE1.trans ea);obtain⟨s1,s2,s3⟩:=HSZ.out K hKm;obtain⟨j1,j2⟩:=q4R h7 h6 h5 h4
   have HGY0:gy=(I K).px (C.v*wd+C.u).toNat:=by
    rw [hgy.out]; unfold wX;have e9:C.best.toNat=K:=by omega
    rw [if_neg (by omega),if_pos (by omega),e9]
   have l1:0<=C.v*wd:=Int.mul_nonneg h5 (by omega);have l2:C.v*wd<=64*64:=Int.mul_le_mul (by have:=HWH.out; omega) (by have:=HWH.out; omega) (by omega) (by omega);obtain⟨kk,hkk⟩:∃ kk:Nat,(kk:Int)=C.v*wd+C.u:=⟨(C.v*wd+C.u).toNat,by omega⟩
   have ekk:(C.v*wd+C.u).toNat=kk:=by omega
   rw [ekk] at HGY0;have hkn:kk < (I K).n:=by rw [<-s3] at j2; omega
   obtain⟨R,hR⟩:=qf (I K);rw [<-hR.out] at y3 hpx HGY0 hkn;obtain⟨bp,op,rfl,hpp⟩:=hpx.addr (by omega);have y4:=hpp kk hkn;rw [<-HGY0] at y4;obtain⟨pv,hpv⟩:=qf (C.v*wd);have m1:IntKind.i64.wrap (C.v*wd)=pv:=by rw [hpv.out]; exact zM (by omega) (by omega)
   have m2:IntKind.i64.wrap (pv+C.u)=(kk:Int):=by rw [hpv.out,<-hkk]; exact zM (by omega) (by have:=HWH.out; omega)
   obtain⟨-,cq,hcq1,hcq2⟩:=hpx.form;rw [<-hK] at x0;have k0:=(hE1.trans ea).cell HC0.out;clear hia hpx hpp HGY0 ekk hkk hR s1 s2 s3 j1 j2 h8 h7 h6 h5 h4 l1 l2 hpv hK;go_upto_region 28 with (fail);refine xe [Mn.eq (.slice (some ⟨bi,oi,none⟩) m ci),Mn.q gS 0,Mn.i (K:Int),Mn.q bi (oi+K*4),Mn.q bi (oi+K*4+3),Mn.eq (.slice (some ⟨bp,op,none⟩) R.n cp),Mn.q gS 2,Mn.i C.v,Mn.i wd,Mn.i pv,Mn.q gS 1,Mn.i C.u,Mn.i (kk:Int),Mn.q bp (op+kk),Mn.i gy,Mn.i gy] (sM [75,76,77,78,79,80,81,82,83,84,85,86,87,88,89,17]) [] (rQ 16 0) 0 (by kernel_rfl) ?_ ?_
   ·show ∀ i,i < 16->_
    iterate 16 refine fs ?_ ?_
    ·exact fz
    all_goals intro hl; clear hl; refine stp rfl ?_; intro ac wi eI hB hA K hK
    have o2:=oOf (hB 2) rfl
    rotate_left
    have o16:=oOf (hB 16) rfl
    rotate_left
    obtain⟨_,s76,rfl⟩:=hA 1 76;have cc0:=eI.cell x0
    rotate_left
    obtain⟨_,s75,rfl⟩:=hA 0 75;obtain⟨_,s77,rfl⟩:=hA 2 77
    rotate_left
    obtain⟨_,s78,rfl⟩:=hA 3 78
    rotate_left
    obtain⟨_,s79,rfl⟩:=hA 4 79;have cc0:=eI.cell y3
    rotate_left
    have o16:=oOf (hB 16) rfl
    rotate_left
    obtain⟨_,s81,rfl⟩:=hA 6 81;have cc0:=eI.cell x2
    rotate_left
    have o12:=oOf (hB 12) rfl;have cc0:=eI.cell k0
    rotate_left
    obtain⟨_,s82,rfl⟩:=hA 7 82;obtain⟨_,s83,rfl⟩:=hA 8 83
    rotate_left
    have o16:=oOf (hB 16) rfl
    rotate_left
    obtain⟨_,s85,rfl⟩:=hA 10 85;have cc0:=eI.cell x1
    rotate_left
    obtain⟨_,s84,rfl⟩:=hA 9 84;obtain⟨_,s86,rfl⟩:=hA 11 86
    rotate_left
    obtain⟨_,s80,rfl⟩:=hA 5 80;obtain⟨_,s87,rfl⟩:=hA 12 87
    rotate_left
    obtain⟨_,s88,rfl⟩:=hA 13 88;have cc0:=eI.cell y4
    rotate_left
    obtain⟨_,s89,rfl⟩:=hA 14 89
    rotate_left
    all_goals clear hB hA; go_simp; exact q_k hK rfl
   intro vals wz eZ hJ;have J17:vals 15=_:=hJ 15 (by decide) (by decide);clear hJ;simp only [pr,Nat.reduceAdd,J17];clear J17;refine qg (by kernel_rfl) ?_ _;clear x0 x1 x2 y3 y4 k0;go_wp2_with fail
   go_meet
   exact⟨rfl,rfl,eZ⟩
  clear x0 x1 x2;obtain⟨rfl,rfl,eb⟩:=hcut;obtain⟨wb,hwx⟩:∃ wb,wb=wc:=⟨_,rfl⟩
  subst hwx;have HGR:=q_h ((HG1'.out.ext ea).ext eb);have HNX:Hid (izL z k ++ [.int .i64 gy]=izL z (k+1)):=by rw [Hid,YR,HZK.out]
  have HLL:=q_h hl1;have hEb:=(hE1.trans ea).trans eb;clear HG1' Ba hl1 hgy HZK HCI hE1 ea eb;obtain⟨L,hL⟩:=qf (izL z k);rw [<-hL.out] at HGR HLL HNX;have hxl:L.length+1<=1000000000:=by have:=HLL.out; omega
  clear hL;go_wp2_with (at_builtin; refine q_o ?_);refine ql ?_;intro wd' ed hszd Bd;refine kX QP rfl _ _ 22 Tryz.underlying22 rfl rfl (HGR.out.ext ed) (m:=1) (c:=1) (news:=[.int .i64 gy]) (by rfl) rfl (QO Bd) (fun u hu=>by rw [List.mem_singleton.1 hu]; rfl) (by omega) hxl ?_;rintro g' cap we hG7 - ⟨g9,hlo,-,C7,-⟩;rw [HLL.out] at hG7 ⊢;rw [HNX.out] at hG7;have HG7:=q_h hG7;have hE7:=C7.ext (hEb.trans ed) hlo;clear hG7 C7 Bd HNX HLL;go_wp2_with fail;go_roundw
  case rel=>exact⟨k+1,by omega,by go_num,HG7.out,hE7⟩
  case measure=>simp [intOf]; omega
theorem q6w {z:Nat->Int} (h:zY 3 base w (.slice A n c) (izL z n)):IzV N lo hi w (.slice A n c) n z:=by
 have hl:(izL z n).length=n:=Kz z n
 by_cases hn:n=0
 ·subst hn;obtain⟨A',c',hv,hc'⟩:=h.form;injection hv with e1 e2 e3
  subst e1 e3
  rcases h.2.2 with ⟨hv,-⟩ | ⟨g,cap,cur,hv,-,-,h1,h2,-⟩
  ·injection hv with e1 e2 e3
   subst e1 e3;exact⟨rfl,_,_,rfl,Nat.zero_le _,Nat.zero_le _,fun h=>absurd h (by omega)⟩
  ·injection hv with e1 e2 e3
   subst e1 e3;exact⟨rfl,_,_,rfl,Nat.zero_le _,h2,fun h=>absurd h (by omega)⟩
 ·obtain⟨g,cap,hv,-,-,hcm,hle,-,hx⟩:=h.at_ (by omega);injection hv with e1 e2 e3
  subst e1 e3;refine⟨rfl,_,_,rfl,by omega,hcm,fun _=>⟨g,0,rfl,fun i hi=>?_⟩⟩;have:=hx i (by omega);rw [Nat.zero_add,this]
  congr 1
  show (izL z n)[i]'_=_
  unfold izL
  simp
theorem q6x (G:Grd) (R:Nat->Raw):q2j G 0 R=decide (G.n<=30):=by
 unfold q2j;rw [show allB 0 (fun i=>Qg (R i))=true from xB.2 (fun i hi=>absurd hi (by omega)),Bool.and_true]
theorem q6k (G:Grd) (R:Nat->Raw):q3l G 0 R=zh G:=by
 unfold q3l;rw [show allB 0 (fun i=>okR (R i))=true from xB.2 (fun i hi=>absurd hi (by omega))]
 by_cases h:zh G=0
 ·rw [if_neg (by simpa using h),h]; rfl
 ·rw [if_pos h]
theorem q6u (hN:N<=w.heap.size) (R:Nat->Raw):LsR N 0 w.heap.size w (.slice none 0 0) 0 R:=⟨hN,q_r,none,0,rfl,q_r,Nat.zero_le _,fun h=>absurd h (by omega)⟩
end Go.Proofs.YtphpkhoeplcedaaGreat
