import Derived.Test.YtfmddpahhloleaaGreatWb21
set_option linter.all false
set_option maxHeartbeats 8000000
namespace Go.Proofs.YtfmddpahhloleaaGreat
open Go.RowKit
variable {w:World} {N n lo hi k g m c b:Nat} {v s:Value} {q:Rat}
theorem QB (t ty:TypeId) (ht:Tryz.prog.underlying t=some (.slice 58)) {x:Nat->Rat} (hr:zC N w g n n x)
 {neg:Bool} {u:Value} {fr:Nat×Nat} (hb:w.heap[b]?=some (.cells #[.bool neg,s,.bool false,u] 58 fr)) (hneg:Hid (neg=decide (q.num < 0))) (hs:Gs N w s (dg q.num.natAbs)) (hu:Gs N w u (dg q.den)) (hn:n < 1000000000) :
  ∃ cap w',(Builtin.append_ #[t,t] ty #[.slice (some ⟨g,0,none⟩) n n,.slice (some ⟨b,0,none⟩) 1 1]).run Tryz.prog w=.ok (.slice (some ⟨w.heap.size,0,none⟩) (n+1) cap) w'/\Grow N w.heap.size w' (.slice (some ⟨w.heap.size,0,none⟩) (n+1) cap) (n+1) (upd x n q)/\Ext w w':=by
 have hgN:N<=g:=hr.1;have hgl:g < w.heap.size:=hr.lt;obtain⟨g',cap,w',hrun,hG,-,hlt⟩:=xC t ty ht (base:=g) (v:=.slice (some ⟨g,0,none⟩) n n) ⟨hgN,by omega,.inr ⟨g,n,rfl,q_r,by unfold maxLen; omega,hr⟩⟩ hb hneg hs hu hn;obtain⟨-,-,⟨cs,h2,h3⟩,-⟩:=hr;obtain⟨i0,hi0,hz0,hz1,hz2⟩:=info_parts xw
 have h9:=run_append_grow (P:=Tryz.prog) (w:=w) t ty 58 i0 _ ht hi0 hz0 ⟨g,0,none⟩ n n cs.toList (by rw [hz1]; simpa using h3)
  (fun j v hj=>by rw [kH,Nat.zero_add,qx h2]; simpa using hj) ⟨b,0,none⟩ 1 1 [.bool neg,s,.bool false,u] (by rw [hz1]; rfl)
  (fun j v hj=>by rw [kH,Nat.zero_add,qx hb]; simpa using hj) (by omega) (by omega) (growslice_fits (by omega) (by rw [hz2]; omega))
 rw [hrun] at h9;injection h9 with e1 e2
 injection e1 with e1 _ e3
 injection e1 with e1
 injection e1 with e1 _
 subst e1;refine⟨cap,w',hrun,?_,?_⟩
 ·obtain⟨-,-,⟨h5,-⟩ | ⟨g2,cap2,hv,hg2,hm,hr2⟩⟩:=hG
  ·cases h5
  ·injection hv with e4 _ e5
   injection e4 with e4
   injection e4 with e4 _
   subst e4 e5;exact⟨by omega,by omega,.inr ⟨_,_,rfl,q_r,hm,hr2⟩⟩
 ·rw [e2];exact ((Ext.refl w).drew).alloc _
def kV (N lo hi:Nat) (w:World) (v:Value) (m n:Nat) (A:Nat->Nat->Rat):Prop :=
 zI N lo hi w v m n A/\∀ h cap,v=.slice (some ⟨h,0,none⟩) m cap->∀ i,i < m->∃ β,w.cell? ⟨h,i,none⟩=some (.slice (some ⟨β,0,none⟩) n n)
section
variable {N lo hi:Nat} {w w':World} {v:Value} {m n:Nat} {A:Nat->Nat->Rat}
theorem kV.nil (h1:N<=lo) (h2:lo<=hi) (h3:hi<=w.heap.size) (A:Nat->Nat->Rat):kV N lo hi w (.slice none 0 0) 0 n A:=⟨zI.nil h1 h2 h3 A,fun _ _ _ i hi=>by omega⟩
theorem kV.ext (h:kV N lo hi w v m n A) (e:Ext w w'):kV N lo hi w' v m n A :=
 ⟨h.1.ext e,fun h' cap hv i hi=>by obtain⟨β,hβ⟩:=h.2 h' cap hv i hi; exact⟨β,e.cell hβ⟩⟩
theorem kV.chg (h:kV N lo hi w v m n A) {l u:Nat} (c:Chg l u w w') (hN:N<=l) (hd:hi<=l\/u<=lo):kV N lo hi w' v m n A :=
 ⟨h.1.chg c hN hd,fun h' cap hv i hi'=>by
  obtain⟨β,hβ⟩:=h.2 h' cap hv i hi';obtain⟨h9,cap9,β9,κ9,hv9,-,ho⟩:=h.1.own (by omega);rw [hv] at hv9;injection hv9 with e1
  injection e1 with e1
  injection e1 with e1 _
  subst e1;have:=ho.hlo;have:=ho.hhi
  exact⟨β,c.cell hβ (by show h' < l\/u<=h'; omega)⟩⟩
theorem kV.wide (h:kV N lo hi w v m n A) {hi':Nat} (h1:hi<=hi') (h2:hi'<=w.heap.size):kV N lo hi' w v m n A:=⟨h.1.wide h1 h2,h.2⟩
theorem kV.congr {B:Nat->Nat->Rat} (h:kV N lo hi w v m n A) (he:∀ i,i < m->∀ j,j < n->A i j=B i j):kV N lo hi w v m n B:=⟨h.1.congr he,h.2⟩
theorem kV.own (h:kV N lo hi w v m n A) (hm:0 < m):∃ h cap β κ,v=.slice (some ⟨h,0,none⟩) m cap/\cap<=maxLen/\zu N lo hi w h cap m n β κ A/\∀ i,i < m->κ i=n:=by
 obtain⟨h9,cap,β,κ,hv,hc,ho⟩:=h.1.own hm;refine⟨h9,cap,β,κ,hv,hc,ho,fun i hi'=>?_⟩;obtain⟨β',hβ⟩:=h.2 h9 cap hv i hi';rw [ho.hcell hi'] at hβ;injection hβ with hβ
 injection hβ
theorem QA (t ty:TypeId) (ht:Tryz.prog.underlying t=some (.slice 24)) (h:kV N lo hi w v m n A) {x:Nat->Rat} (hr:zC N w b n n x) (hb:hi<=b)
  {bx:Nat} {fr:Nat×Nat} (hbx:w.heap[bx]?=some (.cells #[.slice (some ⟨b,0,none⟩) n n] 24 fr)) (hm:m < 1000000000) (hn:n < 1000000000) :
  ∃ h' cap' w',(Builtin.append_ #[t,t] ty #[v,.slice (some ⟨bx,0,none⟩) 1 1]).run Tryz.prog w=.ok (.slice (some ⟨h',0,none⟩) (m+1) cap') w'/\kV N lo w'.heap.size w' (.slice (some ⟨h',0,none⟩) (m+1) cap') (m+1) n (xK A m x)/\(∃ g',lo<=g'/\Chg g' (g'+1) w w'/\NoU w g'):=by
 obtain⟨h',cap',w',hrun,hG,hg⟩:=yc t ty ht h.1 hr hb (by unfold maxLen; omega) hbx hm;refine⟨h',cap',w',hrun,⟨hG,?_⟩,hg⟩;obtain⟨i0,hi0,hz0,hz1,hz2⟩:=info_parts KI;obtain⟨⟨h1,h2,h3,h4⟩,hcells⟩:=h
 have hown:∃ xs,w.ownsRow lo 24 1 v m xs/\∀ i,i < m->∃ β,xs[i]?=some (.slice (some ⟨β,0,none⟩) n n):=by
  rcases h4 with ⟨rfl,rfl⟩ | ⟨h,cap,β,κ,rfl,hc,ho⟩
  ·exact⟨[],⟨by simp,.inl ⟨rfl,rfl⟩⟩,fun i hi=>by omega⟩
  ·obtain⟨hs,a1,a2,a3⟩:=ho.hh;have:=ho.mle;refine⟨hs.toList.take (m*1),⟨by rw [List.length_take]; simp; omega,.inr ⟨h,cap,hs,rfl,ho.hlo,a1,ho.mle,hc,by omega,rfl⟩⟩,fun i hi'=>?_⟩;obtain⟨β',hβ⟩:=hcells h cap rfl i hi';rw [qx a1] at hβ;exact⟨β',by rw [List.getElem?_take,if_pos (by omega),Array.getElem?_toList]; exact hβ⟩
 obtain⟨xs,hown,hxs⟩:=hown
 obtain⟨g,c2,w2,hrun2,ho',-,-,-⟩:=run_append_lies (P:=Tryz.prog) w t ty lo 24 i0 _ 1 24 ht hi0 hz0 hz1 hz2 rfl (by omega) v m xs hown ⟨bx,0,none⟩ 1 1 [.slice (some ⟨b,0,none⟩) n n] rfl
  (fun j u hj=>by
   rw [kH,Nat.zero_add,qx hbx]
   simpa using hj)
  (fun u hu=>by simp at hu; subst hu; rfl) (by omega) (by unfold maxLen; omega) (by omega) (by omega) w.heap.size rfl
 rw [hrun] at hrun2;injection hrun2 with e1 e2
 injection e1 with e1 _ e3
 injection e1 with e1
 injection e1 with e1 _
 subst e1 e2 e3;intro h9 c9 hv i hi';injection hv with e1 _ e3
 injection e1 with e1
 injection e1 with e1 _
 subst e1 e3
 rcases ho'.2 with ⟨h,_⟩ | ⟨g2,cap2,cur,hv,hbg,hh,hnc,hcm',hcs,htk⟩
 ·cases h
 ·injection hv with e1 _ e3
  injection e1 with e1
  injection e1 with e1 _
  subst e1 e3;have hxl:xs.length=m:=by have:=hown.1; omega
  have hx:cur[i]?=(xs ++ [.slice (some ⟨b,0,none⟩) n n])[i]?:=by
   rw [<-htk,List.getElem?_take,if_pos (by omega)]; simp
  rw [qx hh,hx]
  by_cases him:i=m
  ·exact⟨b,by rw [List.getElem?_append_right (by omega),show i - xs.length=0 by omega]; rfl⟩
  ·obtain⟨β,hβ⟩:=hxs i (by omega);exact⟨β,by rw [List.getElem?_append_left (by omega)]; exact hβ⟩
end
theorem Z8 {A:Nat->Nat->Rat} {o:Oper} {a:Act} {K:Act->World->Prop} {Q:Exit->Act->World->Prop} (s x:Operand) (t:TypeId) (ht:Tryz.prog.underlying t=some (.slice 24))
  (ho:o.op=.call { callee:=.builtin .append,args:=#[s,x],argTypes:=#[t,t] }) (hs:a.eval s=v) (h:kV N lo hi w v m n A) {bx:Nat} (hx:a.eval x=.slice (some ⟨bx,0,none⟩) 1 1) {f:Nat->Rat} (hr:zC N w b n n f) (hb:hi<=b)
  {fr:Nat×Nat} (hbx:w.heap[bx]?=some (.cells #[.slice (some ⟨b,0,none⟩) n n] 24 fr)) (hm:m < 1000000000) (hn:n < 1000000000)
  (hK:∀ h' cap' w',kV N lo w'.heap.size w' (.slice (some ⟨h',0,none⟩) (m+1) cap') (m+1) n (xK A m f)->(∃ g',lo<=g'/\Chg g' (g'+1) w w'/\NoU w g')->K (a.put o.dst (.slice (some ⟨h',0,none⟩) (m+1) cap')) w'):o.wp Tryz.prog a w K Q:=by
 obtain⟨h',cap',w',hrun,h1,h2⟩:=QA t o.type ht h hr hb hbx hm hn;unfold Oper.wp execOp;simp only [ho,resolve,invoke,builtin,Sem.run_bind,Sem.run_pure,Result.andThen_ok,List.map_toArray,List.map_cons,List.map_nil,hs,hx,hrun];exact hK h' cap' w' h1 h2
theorem Q4 {A:Nat->Nat->Rat} {ops:Array Oper} {o:Oper} {a:Act} {K:Act->World->Prop} {Q:Exit->Act->World->Prop} {E:Prop} (hgd:o.guard=none) (s x:Operand) (t:TypeId) (ht:Tryz.prog.underlying t=some (.slice 24))
  (ho:o.op=.call { callee:=.builtin .append,args:=#[s,x],argTypes:=#[t,t] }) (hs:a.eval s=v) (h:kV N lo hi w v m n A) {bx:Nat} (hx:a.eval x=.slice (some ⟨bx,0,none⟩) 1 1) {f:Nat->Rat} (hr:zC N w b n n f) (hb:hi<=b)
  {fr:Nat×Nat} (hbx:w.heap[bx]?=some (.cells #[.slice (some ⟨b,0,none⟩) n n] 24 fr)) (hm:m < 1000000000) (hn:n < 1000000000)
  (hK:∀ h' cap' w',kV N lo w'.heap.size w' (.slice (some ⟨h',0,none⟩) (m+1) cap') (m+1) n (xK A m f)->(∃ g',lo<=g'/\Chg g' (g'+1) w w'/\NoU w g')->K (a.put o.dst (.slice (some ⟨h',0,none⟩) (m+1) cap')) w') :
  if Region.wanted o (yielded ops a.tmps)=true then Oper.wp Tryz.prog o a w K Q else E:=by
 have hw:Region.wanted o (yielded ops a.tmps)=true:=by simp [Region.wanted,hgd]
 rw [if_pos hw];exact Z8 s x t ht ho hs h hx hr hb hbx hm hn hK
theorem zu.capn {h:Nat} {β κ:Nat->Nat} {A:Nat->Nat->Rat} (o:zu N lo hi w h k m n β κ A) (hk:∀ i,i < m->κ i=c):zu N lo hi w h k m n β (fun _=>c) A:=by
 obtain⟨hs,h1,h2,h3⟩:=o.hh;exact⟨o.le,⟨hs,h1,h2,fun i hi'=>by rw [h3 i hi',hk i hi']⟩,o.mle,o.hlo,o.hhi,o.his,o.lo_,o.hi_,fun i hi'=>by have:=o.cap i hi'; rw [hk i hi'] at this; exact this,fun i hi'=>by have:=o.row i hi'; rw [hk i hi'] at this; exact this,o.inj⟩
def Jc (N:Nat) (w:World) (n:Nat) (M:Nat->Nat->Rat) (r:Nat->Rat) (e:Ending) (w':World):Prop :=
 ∃ h cap g β lo,e=.returned (.agg #[.slice (some ⟨h,0,none⟩) n cap,.slice (some ⟨g,0,none⟩) n n])/\cap<=maxLen/\zu N lo w'.heap.size w' h cap n n β (fun _=>n) M/\zC N w' g n n r/\w.heap.size<=g/\g < lo/\Ext w w'
set_option maxRecDepth 100000 in
theorem q1Z {v1 v2 v3:Value} {X:Nat->Nat->Rat} {y p:Nat->Rat} (h1:MtV N lo hi w v1 m n X) (h2:LsV N lo hi w v2 m y) (h3:LsV N lo hi w v3 m p) (hm0:0 < m) (hm:m < 1000000) (hn0:0 < n) (hn:n < 1000000)
 (hkx:HtM m n k X) (hky:HtL m k y) (hkp:HtL m k p) (hK:m*(3*k+1)+3*k+2<=29000000000) :
  Calls Tryz.prog 53 #[.agg #[v1,v2,v3]] w (Jc N w n (xE X p m) (yx X y p m)):=by
 have HX:=q_h hkx;have HY:=q_h hky;have HP:=q_h hkp;have HK:=q_h hK;obtain⟨Rf,hRf⟩:=qc (Jc N w n (xE X p m) (yx X y p m));rw [<-hRf.out];have hN:=h1.le;obtain⟨A1,c1,rfl,hmc,hcm⟩:=h1.form;obtain⟨A2,c2,rfl,hmc2,hcm2⟩:=h2.form;obtain⟨A3,c3,rfl,hmc3,hcm3⟩:=h3.form;have hI1:=h1;have hI2:=h2;have hI3:=h3;obtain⟨b,off,rfl,-,-,hx⟩:=h1.addr hm0;obtain⟨A0,c0,o0,hc0,hm0',-⟩:=hx 0 (by omega);rw [Nat.add_zero] at o0;unfold maxLen at hm0' hcm hcm2 hcm3;clear h1 h2 h3 hx hkx hky hkp hK;go_enter Tryz.func53,Tryz.ntmps53;go_upto_region 1 with (fail);refine kG ?_;intro W hE hsz B0 B1;obtain⟨a0,a1,a2,-⟩:=cells3 B0;replace o0:=hE.cell o0;go_wp2_with (go_at_call 119; refine q_o ?_);refine (QK (N:=N) (by omega) n rfl hn).mono ?_;rintro e w1 ⟨g,rfl,hg1,hg2,hr,e1⟩;clear a0 a1 a2 o0;go_upto_region 3 with (fail);refine qo ?_;intro w2 e2 hsz2 B2;have e3:=e1.trans e2;replace hr:=hr.ext e2;obtain⟨ge,hge⟩:∃ ge,ge=w1.heap.size:=⟨_,rfl⟩
 rw [<-hge] at hg2 hsz2 B2 ⊢;clear e1 e2 hge;have hG0:kV N (ge+1) w2.heap.size w2 (.slice none 0 0) 0 n (fun _ _=>0):=kV.nil (by omega) (by omega) (q_r) _;go_wp2
 go_loopw [16] (fun i wr=>∃ k:Nat,k<=n/\i=.int .i64 k/\Ext W wr/\ge+1<=wr.heap.size/\zC N wr g n n (fun _=>0)/\∃ A c,wr.heap[ge]?=some (.cells #[.slice A k c,.slice (some ⟨g,0,none⟩) n n] 102 (0,0))/\kV N (ge+1) wr.heap.size wr (.slice A k c) k n (fun _ _=>0)) (fun i _=>n - (intOf i).toNat)
 case atStart=>exact⟨0,Nat.zero_le _,rfl,e3,hsz2,hr,_,_,B2,hG0⟩
 case round =>
  clear e3 hr B2 hG0 hsz2;obtain⟨i,hin,rfl,hE2,hsz2,hr,A,c,B2,hG⟩:=hrel
  by_cases hlt:i < n
  ·obtain⟨d0,d1,d2,d3⟩:=cells2 B2;go_upto_region 5 with (fail);have eC:=(Ext.refl wr).drew;refine qm (fun w'=>w'.cell? ⟨ge,0,none⟩=some (.slice A i c)) [7] (by kernel_rfl) (by exact eC.cell d0) (fun hHeld=>?_);refine sP 0 (h:=?_);try simp only [nr]
   refine sT 1 (h:=?_);try simp only [nr]
   refine sP 2 (h:=?_);try simp only [nr]
   refine qj (i:=3) rfl (by kernel_rfl) (fun K hK=>?_);go_simp;refine (QK (N:=N) (by have h8:=eC.size; have h9:N<=wr.heap.size:=(by omega); omega) n rfl hn).mono ?_;rintro e w5 ⟨g5,rfl,hg5,hgs5,hr5,e5⟩;have hg6:wr.heap.size<=g5:=q_l eC.size hg5;replace eC:=eC.trans e5;go_wp2_with fail;clear hHeld;refine hK.out _ _ (by exact eC.cell d0) fun hHeld=>?_
   clear hK K;try simp only [nr]
   refine qj (i:=4) rfl (by kernel_rfl) (fun K hK=>?_);go_simp
   first | refine qo ?_ | refine yB ?_
   intro w4 e4 hsz4 BX;replace eC:=eC.trans e4;replace hr5:=hr5.ext e4;have hG4:=hG.ext eC;have hE4:=hE2.trans eC;clear hHeld;refine hK.out _ _ (by exact eC.cell d0) fun hHeld=>?_
   clear hK K;try simp only [nr]
   refine qj (i:=5) rfl (by kernel_rfl) (fun K hK=>?_);refine Q4 rfl _ _ 23 Tryz.underlying23 rfl (by rfl) hG4 (by rfl) hr5 hg6 BX (by omega) (by omega) ?_;rintro h' cap' w6 hG3 ⟨g',hg',c3',-⟩;have hE5:=c3'.ext hE4 (by omega);replace hG3:=hG3.congr (B:=fun _ _=>0) (fun i _ j _=>by unfold xK; split <;> rfl);have D5:=c3'.blk (eC.block B2) (.inl (by omega));have hr6:=(hr.ext eC).chg c3' (by omega) (.inl (by omega));have hs6:ge+1<=w6.heap.size:=by have:=c3'.size; have:=eC.size; omega
   replace d0:=c3'.cell (eC.cell d0) (.inl (show ge < _ by omega));replace eC:=Ext.refl w6;obtain⟨-,-,f0,f1⟩:=cells2 D5;clear hHeld;refine hK.out _ _ (by exact eC.cell d0) fun hHeld=>?_
   clear hK K;try simp only [nr]
   refine sP 6 (h:=?_);try simp only [nr]
   refine ql (i:=7) rfl (by kernel_rfl) (by kernel_rfl) (fun K hK=>?_);go_simp;refine hK.out _ _ ?_;clear hK K;try simp only [nr]
   refine qh (by kernel_rfl) ?_ _;clear hHeld;obtain⟨w7,E7,D7,C7,hs7⟩:=WA D5 (NoU.mk D5 (by decide)) (.slice (some ⟨h',0,none⟩) (i+1) cap');rw [E7];have hE7:=C7.ext hE5 (by omega);have hr7:=hr6.chg C7 (by omega) (.inl (by omega));have hG7:=(hG3.chg C7 (by omega) (.inr (by omega))).wide (hi':=w7.heap.size) (by omega) (q_r);clear d0 d1 d2 d3 f0 f1 B2 hG hG4 hG3 D5 E7 C7 hr hr5 hr6 BX hE2 hE4 hE5 e4 e5;go_wp2;go_roundw
   case rel=>exact⟨i+1,by omega,by go_num,hE7,by omega,hr7,_,_,D7,hG7⟩
   case measure=>simp [intOf]; omega
  ·obtain rfl:n=i:=by omega
   obtain⟨h,cap,β,κ,hv,hcap,ho,hκn⟩:=hG.own hn0;have HKN:=q_h hκn;clear hκn;rw [hv] at B2;have q0:EqO N W.heap.size (ge+1) wr.heap.size wr ge h cap n β κ g (xE X p 0) (yx X y p 0):=⟨by omega,hg1,by omega,by omega,by omega,by omega,B2,ho,hr,hcap⟩
   replace B0:=hE2.block B0;replace B1:=hE2.block B1;replace hE2:=hE.trans hE2;clear hr hG ho hv B2;obtain⟨a0,a1,a2,-⟩:=cells3 B0;obtain⟨wq,hwq⟩:∃ wq,wq=wr:=⟨wr,rfl⟩
   subst hwq;clear hE;go_wp2;clear a0 a1 a2
   go_loopw [29] (fun i wr=>∃ k:Nat,k<=m/\i=.int .i64 k/\Chg W.heap.size wq.heap.size wq wr/\EqO N W.heap.size (ge+1) wq.heap.size wr ge h cap n β κ g (xE X p k) (yx X y p k)) (fun i _=>m - (intOf i).toNat)
   case atStart=>exact⟨0,Nat.zero_le _,rfl,Chg.refl _ _ _,q0⟩
   case round =>
    clear q0;obtain⟨i,him,rfl,hC,q⟩:=hrel;have hhi:=hI1.2.1;have hB0:=hC.blk B0 (.inl (by omega));obtain⟨a0,a1,a2,-⟩:=cells3 hB0
    by_cases hlt2:i < m
    ·have hl1:=(hI1.ext hE2).chg hC (by omega) (.inl (by omega));have hl2:=(hI2.ext hE2).chg hC (by omega) (.inl (by omega));have hl3:=(hI3.ext hE2).chg hC (by omega) (.inl (by omega));obtain⟨b',off',hA,-,-,hx⟩:=hl1.addr (by omega);obtain⟨rfl,rfl⟩:b=b'/\off=off':=by injection hA with hA; injection hA with e1 e2; exact⟨e1,e2⟩
     obtain⟨A4,c4,o0,-,-,hrow⟩:=hx i hlt2;obtain⟨b2,off2,rfl,-,-,hx2⟩:=hl2.addr (by omega);obtain⟨n1,A5,k5,c5,A6,k6,c6,p0,p1,p2,p3,hb1,g1,g2⟩:=(hx2 i hlt2).open;obtain⟨b3,off3,rfl,-,-,hx3⟩:=hl3.addr (by omega);obtain⟨n2,A7,k7,c7,A8,k8,c8,r0,r1,r2,r3,hb2,g3,g4⟩:=(hx3 i hlt2).open;clear hx hx2 hx3 hA hl1 hl2 hl3;go_upto_region 10 with (fail);have eC:=(Ext.refl wr).drew;refine qm (fun w'=>w'.cell? ⟨w.heap.size,1,none⟩=some (.slice (some ⟨b2,off2,none⟩) m c2)/\w'.cell? ⟨w.heap.size,2,none⟩=some (.slice (some ⟨b3,off3,none⟩) m c3)/\w'.cell? ⟨b2,off2+i*4,none⟩=some (.bool n1)/\w'.cell? ⟨b2,off2+i*4+1,none⟩=some (.slice A5 k5 c5)/\w'.cell? ⟨b2,off2+i*4+2,none⟩=some (.bool false)/\w'.cell? ⟨b2,off2+i*4+3,none⟩=some (.slice A6 k6 c6)/\w'.cell? ⟨b3,off3+i*4,none⟩=some (.bool n2)/\w'.cell? ⟨b3,off3+i*4+1,none⟩=some (.slice A7 k7 c7)/\w'.cell? ⟨b3,off3+i*4+2,none⟩=some (.bool false)/\w'.cell? ⟨b3,off3+i*4+3,none⟩=some (.slice A8 k8 c8)) [11] (by kernel_rfl) (by exact⟨eC.cell a1,eC.cell a2,eC.cell p0,eC.cell p1,eC.cell p2,eC.cell p3,eC.cell r0,eC.cell r1,eC.cell r2,eC.cell r3⟩) (fun hHeld=>?_);refine sP 0 (h:=?_);try simp only [nr]
     refine sP 1 (h:=?_);try simp only [nr]
     refine sT 2 (h:=?_);try simp only [nr]
     refine sP 3 (h:=?_);try simp only [nr]
     refine sP 4 (h:=?_);try simp only [nr]
     refine sT 5 (h:=?_);try simp only [nr]
     refine sP 6 (h:=?_);try simp only [nr]
     refine sT 7 (h:=?_);try simp only [nr]
     refine sP 8 (h:=?_);try simp only [nr]
     refine sP 9 (h:=?_);try simp only [nr]
     refine sT 10 (h:=?_);try simp only [nr]
     refine ql (i:=11) rfl (by kernel_rfl) (by kernel_rfl) (fun K hK=>?_);go_simp;refine (q58 (q.ext eC) (hrow.ext eC) (by omega) ((qY.mk hb1 g1 g2).ext eC) ((qY.mk hb2 g3 g4).ext eC) hn (K:=m*(3*k+1)+1) (k:=k) (ww HX.out HP.out him (q_r)) (QI HX.out HY.out HP.out him (q_r)) (HX.out i hlt2) (HY.out i hlt2) (HP.out i hlt2) (by have:=HK.out; omega)).mono ?_;rintro e w5 ⟨rfl,q5,C5⟩;have hC5:=(hC.trans (eC.chg _ _)).trans C5;replace q5:=q5.congr (fun i' h1 j _=>XH X p i h1 j) (fun i' h1=>XF X y p i h1);go_wp2_with fail;refine hK.out _ _ ?_;clear hK K;try simp only [nr]
     refine qh (by kernel_rfl) ?_ _;clear hHeld;clear q o0 a0 a1 a2 p0 p1 p2 p3 r0 r1 r2 r3 g1 g2 g3 g4 hb1 hb2 hrow hB0 hC C5;go_wp2;go_roundw
     case rel=>exact⟨i+1,by omega,by go_num,hC5,q5⟩
     case measure=>simp [intOf]; omega
    ·obtain rfl:m=i:=by omega
     replace B1:=hC.blk B1 (.inl (by omega));obtain⟨d0,d1,-⟩:=cells2 q.rec_;obtain⟨f0,f1,f2,f3⟩:=cells2 B1;clear a0 a1 a2;go_wp2;obtain⟨w7,E7,D7,C7,hs7⟩:=Wy B1 (NoU.mk B1 (by decide)) (.slice (some ⟨h,0,none⟩) n cap) (.slice (some ⟨g,0,none⟩) n n);rw [E7];obtain⟨x0,x1,-⟩:=cells2 D7;have hs8:=hC.size;have hE7:Ext w w7:=C7.ext (hC.ext hE2 (by omega)) (by omega);have hO7:=((q.own.capn HKN.out).chg C7 (by omega) (.inr (by omega))).wide (lo':=ge+1) (hi':=w7.heap.size) (q_r) (by omega) (by omega) (q_r);have hr7x:=q.row.chg C7 (by omega) (.inr (by omega));refine bodyPost_ret (v:=.agg #[.slice (some ⟨h,0,none⟩) n cap,.slice (some ⟨g,0,none⟩) n n]) ?_ rfl ?_
     ·simp [results,x0,x1,go_sem]
     rw [hRf.out];exact⟨h,cap,g,β,ge+1,rfl,hcap,hO7,hr7x,by omega,by omega,hE7⟩
theorem jY (t ty:TypeId) (ht:Tryz.prog.underlying t=some (.slice 58)) {x:Nat->Rat} (hr:zC N w g n n x)
  {sv:Value} {y:Nat->Rat} (hl:LsV N lo hi w sv m y) (hm0:0 < m) (hn:n+m < 1000000000) :
  ∃ v' w',(Builtin.append_ #[t,t] ty #[.slice (some ⟨g,0,none⟩) n n,sv]).run Tryz.prog w=.ok v' w'/\Grow N w.heap.size w' v' (n+m) (cat n x y)/\Ext w w':=by
 have hgN:N<=g:=hr.1;have hgl:g < w.heap.size:=hr.lt;obtain⟨v',w',hrun,hG,-⟩:=jC t ty ht (base:=g) (v:=.slice (some ⟨g,0,none⟩) n n) ⟨hgN,by omega,.inr ⟨g,n,rfl,q_r,by unfold maxLen; omega,hr⟩⟩ hl hn;obtain⟨-,-,⟨cs,h2,h3⟩,-⟩:=hr;obtain⟨i0,hi0,hz0,hz1,hz2⟩:=info_parts xw;obtain⟨A,c,rfl,hnc,hcm⟩:=hl.form;obtain⟨b,off,rfl,-,-,hx⟩:=hl.addr hm0
 have hsrc:∀ k,k < m*4->∃ u,w.cell? ((⟨b,off,none⟩:Addr).add k)=some u:=by
  intro k hk;rw [kH];obtain⟨A1,n1,c1,A2,n2,c2,p0,p1,p2,p3,-⟩:=(hx (k / 4) (by omega)).val;have hr:k % 4=0\/k % 4=1\/k % 4=2\/k % 4=3:=by omega
  rcases hr with hr | hr | hr | hr
  ·rw [show off+k=off+k / 4*4 by omega]; exact⟨_,p0⟩
  ·rw [show off+k=off+k / 4*4+1 by omega]; exact⟨_,p1⟩
  ·rw [show off+k=off+k / 4*4+2 by omega]; exact⟨_,p2⟩
  ·rw [show off+k=off+k / 4*4+3 by omega]; exact⟨_,p3⟩
 let news:List Value:=(List.range (m*4)).map fun k=>(w.cell? ((⟨b,off,none⟩:Addr).add k)).getD undef
 have hnl:news.length=m*4:=by simp [news]
 have hnews:∀ j u,news[j]?=some u->w.cell? ((⟨b,off,none⟩:Addr).add j)=some u:=by
  intro j u hj
  have hjl:j < m*4:=by
   rcases Nat.lt_or_ge j (m*4) with h | h
   ·exact h
   ·rw [List.getElem?_eq_none (by omega)] at hj; cases hj
  obtain⟨u',hu'⟩:=hsrc j hjl;simp only [news,List.getElem?_map,List.getElem?_range hjl,Option.map_some] at hj;rw [hu'] at hj ⊢;exact hj
 have h9:=run_append_grow (P:=Tryz.prog) (w:=w) t ty 58 i0 _ ht hi0 hz0 ⟨g,0,none⟩ n n cs.toList (by rw [hz1]; simpa using h3)
  (fun j v hj=>by rw [kH,Nat.zero_add,qx h2]; simpa using hj) ⟨b,off,none⟩ m c news (by rw [hz1]; exact hnl)
  hnews (by omega) (by omega) (growslice_fits (by omega) (by rw [hz2]; omega))
 rw [hrun] at h9;injection h9 with e1 e2
 subst e1;refine⟨_,w',hrun,?_,?_⟩
 ·obtain⟨-,-,⟨h5,-⟩ | ⟨g2,cap2,hv,hg2,hm,hr2⟩⟩:=hG
  ·cases h5
  ·injection hv with e4 _ e5
   injection e4 with e4
   injection e4 with e4 _
   subst e4;rw [e5];exact⟨by omega,Nat.le_of_lt hr2.lt,.inr ⟨_,_,rfl,q_r,hm,hr2⟩⟩
 ·rw [e2];exact ((Ext.refl w).drew).alloc _
theorem yh {o:Oper} {a:Act} {K:Act->World->Prop} {Q:Exit->Act->World->Prop} (s x:Operand) (t:TypeId) (ht:Tryz.prog.underlying t=some (.slice 58))
  (ho:o.op=.call { callee:=.builtin .append,args:=#[s,x],argTypes:=#[t,t] }) {f:Nat->Rat} (hs:a.eval s=.slice (some ⟨g,0,none⟩) n n) (h:zC N w g n n f)
  {sv:Value} {y:Nat->Rat} (hx:a.eval x=sv) (hl:LsV N lo hi w sv m y) (hm0:0 < m) (hn:n+m < 1000000000)
  (hK:∀ A' c' w',Grow N w.heap.size w' (.slice A' (n+m) c') (n+m) (cat n f y)->Ext w w'->K (a.put o.dst (.slice A' (n+m) c')) w'):o.wp Tryz.prog a w K Q:=by
 obtain⟨v',w',hrun,h1,h2⟩:=jY t o.type ht h hl hm0 hn;obtain⟨A',c',rfl,-⟩:=h1.form;unfold Oper.wp execOp;simp only [ho,resolve,invoke,builtin,Sem.run_bind,Sem.run_pure,Result.andThen_ok,List.map_toArray,List.map_cons,List.map_nil,hs,hx,hrun];exact hK A' c' w' h1 h2
theorem xX {ops:Array Oper} {rest:List Oper} {o:Oper} {a:Act} {Q:Exit->Act->World->Prop} (hgd:o.guard=none) (s x:Operand) (t:TypeId) (ht:Tryz.prog.underlying t=some (.slice 58))
  (ho:o.op=.call { callee:=.builtin .append,args:=#[s,x],argTypes:=#[t,t] }) {f:Nat->Rat} (hs:a.eval s=.slice (some ⟨g,0,none⟩) n n) (h:zC N w g n n f)
  {sv:Value} {y:Nat->Rat} (hx:a.eval x=sv) (hl:LsV N lo hi w sv m y) (hm0:0 < m) (hn:n+m < 1000000000)
  (hK:∀ A' c' w',Grow N w.heap.size w' (.slice A' (n+m) c') (n+m) (cat n f y)->Ext w w'->wpList Tryz.prog ops Q rest (a.put o.dst (.slice A' (n+m) c')) w'):wpList Tryz.prog ops Q (o :: rest) a w :=
 wpList_plain hgd fun _ hK'=>yh s x t ht ho hs h hx hl hm0 hn (fun A' c' w' a1 a2=>hK' _ _ (hK A' c' w' a1 a2))
theorem Za {o:Oper} {a:Act} {K:Act->World->Prop} {Q:Exit->Act->World->Prop} (s x:Operand) (t:TypeId) (ht:Tryz.prog.underlying t=some (.slice 58))
  (ho:o.op=.call { callee:=.builtin .append,args:=#[s,x],argTypes:=#[t,t] }) {f:Nat->Rat} (hs:a.eval s=.slice (some ⟨g,0,none⟩) n n) (h:zC N w g n n f)
 (hx:a.eval x=.slice (some ⟨b,0,none⟩) 1 1) {neg:Bool} {s1 s2:Value} {fr:Nat×Nat} (hb:w.heap[b]?=some (.cells #[.bool neg,s1,.bool false,s2] 58 fr)) (hneg:Hid (neg=decide (q.num < 0))) (g1:Gs N w s1 (dg q.num.natAbs)) (g2:Gs N w s2 (dg q.den)) (hn:n < 1000000000)
  (hK:∀ g' cap w',Grow N w.heap.size w' (.slice (some ⟨g',0,none⟩) (n+1) cap) (n+1) (upd f n q)->Ext w w'->K (a.put o.dst (.slice (some ⟨g',0,none⟩) (n+1) cap)) w'):o.wp Tryz.prog a w K Q:=by
 obtain⟨cap,w',hrun,h1,h2⟩:=QB t o.type ht h hb hneg g1 g2 hn;unfold Oper.wp execOp;simp only [ho,resolve,invoke,builtin,Sem.run_bind,Sem.run_pure,Result.andThen_ok,List.map_toArray,List.map_cons,List.map_nil,hs,hx,hrun];exact hK _ cap w' h1 h2
theorem yG {ops:Array Oper} {rest:List Oper} {o:Oper} {a:Act} {Q:Exit->Act->World->Prop} (hgd:o.guard=none) (s x:Operand) (t:TypeId) (ht:Tryz.prog.underlying t=some (.slice 58))
  (ho:o.op=.call { callee:=.builtin .append,args:=#[s,x],argTypes:=#[t,t] }) {f:Nat->Rat} (hs:a.eval s=.slice (some ⟨g,0,none⟩) n n) (h:zC N w g n n f)
 (hx:a.eval x=.slice (some ⟨b,0,none⟩) 1 1) {neg:Bool} {s1 s2:Value} {fr:Nat×Nat} (hb:w.heap[b]?=some (.cells #[.bool neg,s1,.bool false,s2] 58 fr)) (hneg:Hid (neg=decide (q.num < 0))) (g1:Gs N w s1 (dg q.num.natAbs)) (g2:Gs N w s2 (dg q.den)) (hn:n < 1000000000)
  (hK:∀ g' cap w',Grow N w.heap.size w' (.slice (some ⟨g',0,none⟩) (n+1) cap) (n+1) (upd f n q)->Ext w w'->wpList Tryz.prog ops Q rest (a.put o.dst (.slice (some ⟨g',0,none⟩) (n+1) cap)) w'):wpList Tryz.prog ops Q (o :: rest) a w :=
 wpList_plain hgd fun _ hK'=>Za s x t ht ho hs h hx hb hneg g1 g2 hn (fun g' cap w' a1 a2=>hK' _ _ (hK g' cap w' a1 a2))
end Go.Proofs.YtfmddpahhloleaaGreat
