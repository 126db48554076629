import Derived.Test.YtdeeekdbhhenpaaGreatDoorWc06
set_option linter.all false
set_option maxHeartbeats 8000000
set_option maxRecDepth 100000
namespace Go.Proofs.YtdeeekdbhhenpaaGreatDoor
variable {w w':World} {N n k g i m base c j:Nat} {v:Value} {z:Int} {A:Option Addr}
section
open Go.RowKit
theorem XF:Cls 117 5 (.agg #[.int .i64 0,.bool false,.slice none 0 0,.slice none 0 0,.slice none 0 0]) 88:=⟨by kernel_rfl,rfl,by omega,by omega,by omega,by decide⟩
section
variable {ET:TypeId}{k:Nat}{z0:Value}{bz:Nat}
theorem zl (hc:Cls ET k z0 bz){xs:List Value}{ops:Array Oper}{o:Oper}{a:Act}{K:Act->World->Prop}{Q:Exit->Act->World->Prop}{E:Prop}(hgd:o.guard=none) (s x:Operand) (t:TypeId) (ht:Tryz.prog.underlying t=some (.slice ET))
  (ho:o.op=.call { callee:=.builtin .append,args:=#[s,x],argTypes:=#[t,t] }) (hs:a.eval s=v) (h:qI ET k base w v n xs){ad:Addr}{news:List Value}(hx:a.eval x=.slice (some ad) m c) (hl:news.length=m*k)
  (hnews:∀j u,news[j]?=some u->w.cell? (ad.add j)=some u) (h1:∀u∈news,u.oneCell'=true) (hn:n+m<=1000000)
  (hK:∀v' w',qI ET k base w' v' (n+m) (xs++news)->(v'.ownBlock=v.ownBlock\/v'.ownBlock=some w.heap.size)->(∃g',base<=g'/\(v.ownBlock=some g'\/g'=w.heap.size)/\Chg g' (g'+1) w w')->K (a.put o.dst v') w') :
  if Region.wanted o (yielded ops a.tmps)=true then Oper.wp Tryz.prog o a w K Q else E:=by
 have hw:Region.wanted o (yielded ops a.tmps)=true:=by simp[Region.wanted,hgd]
 rw[if_pos hw];obtain⟨v',w',hrun,h2,h3,h4⟩:=yQ hc t o.type ht h hl hnews h1 hn (c:=c);unfold Oper.wp execOp;simp only[ho,resolve,invoke,builtin,Sem.run_bind,Sem.run_pure,Result.andThen_ok,List.map_toArray,List.map_cons,List.map_nil,hs,hx,hrun];exact hK v' w' h2 h3 h4
theorem qI.ne {q:Nat}{xs:List Value}(h:qI ET k base w v n xs) (hw:v.ownBlock=some g\/g=w.heap.size){cs:Array Value}{t:TypeId}{fr:Nat×Nat}(hk:w.heap[q]?=some (.cells cs t fr)) (ht:t≠ET):q≠g:=by
 rintro rfl;have h9:=qK hk
 rcases hw with hw|hw
 ·rcases h.2.2 with ⟨rfl,h0⟩|⟨g0,cap,cur,rfl,hb,hh,-⟩
  ·simp[Value.ownBlock] at hw
  ·obtain rfl:g0=q:=by simpa[Value.ownBlock] using hw
   rw[hk] at hh;injection hh with hh
   injection hh with h3 h4 h5
   exact ht h4
 ·omega
theorem qI.upd{xs:List Value}(h:qI ET k base w v n xs) (U:Upd g w w') (hg:g<base):qI ET k base w' v n xs:=by
 refine⟨by rw[U.size];exact h.1,h.2.1,?_⟩
 rcases h.2.2 with h0|⟨g0,cap,cur,hv,hb,hh,h1⟩
 ·exact .inl h0
 ·exact .inr ⟨g0,cap,cur,hv,hb,(U.block g0 (by omega)).trans hh,h1⟩
end
theorem GbB.app {ET:TypeId}{b0:Nat}{u:Value}{xs:List Value}{l:Byt}(h:GbB b0 w u l) (hG:qI ET k base w v n xs) (ht:5≠ET) (hw:v.ownBlock=some g\/g=w.heap.size) (C:Chg g (g+1) w w'):GbB b0 w' u l:=by
 obtain⟨g0,cap,rfl,h1,⟨cs',fr',h2⟩,h3,h4,h5,h6⟩:=h;have hne:=hG.ne hw h2 ht;have h9:w'.heap[g0]?=w.heap[g0]?:=C.block g0 (qK h2) (by omega);refine⟨g0,cap,rfl,h1,⟨cs',fr',h9.trans h2⟩,h3,h4,fun i hi=>?_,fun j hj=>?_⟩
 ·rw[World.cell?_of_block (w:=w) h9];exact h5 i hi
 ·rw[World.cell?_of_block (w:=w) h9];refine⟨(h6 j hj).1,?_⟩;have h8:=(h6 j hj).2;unfold World.frozen? at h8 ⊢;rw[h9];exact h8
def txC (C:Nat->Value) (i:Nat):List Value:=(List.range i).flatMap fun j=>[.int .i64 1,.bool false,.slice none 0 0,C j,.slice none 0 0]
def upC (C:Nat->Value) (i:Nat) (c:Value) (j:Nat):Value:=if j=i then c else C j
theorem QQ (C:Nat->Value) (i:Nat) (c:Value):txC C i ++ [.int .i64 1,.bool false,.slice none 0 0,c,.slice none 0 0]=txC (upC C i c) (i+1):=by
 unfold txC;rw[List.range_succ,List.flatMap_append]
 congr 1
 ·unfold List.flatMap;rw[List.map_congr_left (fun j hj=>?_)];unfold upC;rw[if_neg (by have:=List.mem_range.1 hj;omega)]
 ·unfold upC
  simp
theorem QR (C:Nat->Value):∀n,(txC C n).length=n*5
 | 0=>rfl
 | n+1=>by
  unfold txC;rw[List.range_succ,List.flatMap_append,List.length_append];have:=QR C n;unfold txC at this;rw[this]
  simp
  omega
theorem Yp (C:Nat->Value) (q:Nat) (hq:q<5):∀n i,i<n->(txC C n)[i*5+q]?=[Value.int .i64 1,.bool false,.slice none 0 0,C i,.slice none 0 0][q]?
 | n+1,i,h=>by
  have e:=QQ C n (C n)
  have e2:upC C n (C n)=C:=by
   funext j
   unfold upC
   by_cases h:j=n
   ·rw[if_pos h,h]
   ·rw[if_neg h]
  rw[e2] at e;rw[<-e]
  by_cases h2:i<n
  ·rw[List.getElem?_append_left (by rw[QR];omega)];exact Yp C q hq n i h2
  ·obtain rfl:i=n:=by omega
   rw[List.getElem?_append_right (by rw[QR];omega),QR,Nat.add_sub_cancel_left]
theorem VlL.of {nn:Bool}:∀(vs:List Vl) (g off:Nat),(∀i,i<vs.length->∃c0 c1 c2 c3 c4,w.cell? ⟨g,off+i*5,none⟩=some c0/\w.cell? ⟨g,off+i*5+1,none⟩=some c1/\w.cell? ⟨g,off+i*5+2,none⟩=some c2/\w.cell? ⟨g,off+i*5+3,none⟩=some c3/\w.cell? ⟨g,off+i*5+4,none⟩=some c4/\VlV nn N w (vs[i]?.getD default) (.agg #[c0,c1,c2,c3,c4]))->VlL nn N w vs g off
 | [],_,_,_=>by unfold VlL;trivial
 | v :: r,g,off,h=>by
  unfold VlL;refine⟨?_,VlL.of r g (off+5) (fun i hi=>?_)⟩
  ·have:=h 0 (by simp);simpa using this
  ·have:=h (i+1) (by simp;omega);have e:off+(i+1)*5=off+5+i*5:=by omega
   rw[e] at this;simpa using this
def TxL (b3 i:Nat) (l:List Byt) (A:Option Addr) (k:Nat) (w:World):Prop:=w.heap[b3]?=some (.cells #[.int .i64 2,.bool false,.slice none 0 0,.slice none 0 0,.slice A i k] 117 (0,0))/\∃C:Nat->Value,qI 117 5 (b3+1) w (.slice A i k) i (txC C i)/\∀j,j<i->GbB 0 w (C j) (l.getD j [])
theorem TxL.ext {b3:Nat}{l:List Byt}(h:TxL b3 i l A k w) (e:Ext w w'):TxL b3 i l A k w':=by
 obtain⟨h1,C,h2,h3⟩:=h;exact⟨e.block h1,C,h2.ext e,fun j hj=>(h3 j hj).ext e⟩
theorem TxL.done {b3:Nat}{l:List Byt}(h:TxL b3 n l A k w) (hn:n=l.length):VlV true N w (.lst (l.map .txt)) (.agg #[.int .i64 2,.bool false,.slice none 0 0,.slice none 0 0,.slice A n k]):=by
 obtain⟨h1,C,h2,h3⟩:=h
 have hcap:n<=k/\k<=maxLen:=by
  rcases h2.2.2 with ⟨h4,h5⟩|⟨g,cap,cur,hv,hb,-,h4,h5,-⟩
  ·injection h4 with _ _ h6
   subst h6;exact⟨by omega,Nat.zero_le _⟩
  ·injection hv with _ _ h6
   subst h6;exact⟨h4,h5⟩
 unfold VlV;refine⟨_,_,A,k,by rw[List.length_map,<-hn],⟨_,_,rfl⟩,⟨_,_,rfl⟩,by rw[List.length_map,<-hn];exact hcap.1,hcap.2,fun h0=>?_⟩;rw[List.length_map,<-hn] at h0;obtain⟨g,cap,hv,hb,hnc,hcm,hcell⟩:=h2.at_ h0;injection hv with e1 e2 e3
 refine⟨g,0,e1,VlL.of _ g 0 (fun i hi=>?_)⟩;rw[List.length_map,<-hn] at hi
 have hc:∀q,q<5->∀u,[Value.int .i64 1,.bool false,.slice none 0 0,C i,.slice none 0 0][q]?=some u->w.cell? ⟨g,0+i*5+q,none⟩=some u:=fun q hq u hu=>by
  rw[Nat.zero_add];exact hcell _ u ((Yp C q hq n i hi).trans hu)
 refine⟨_,_,_,_,_,hc 0 (by omega) _ rfl,hc 1 (by omega) _ rfl,hc 2 (by omega) _ rfl,hc 3 (by omega) _ rfl,hc 4 (by omega) _ rfl,?_⟩;have hg:=h3 i hi;obtain⟨g0,cap0,hv0,-,hlt,-⟩:=hg.form;rw[List.getElem?_map,List.getElem?_eq_getElem (by omega)];rw[List.getD_eq_getElem?_getD,List.getElem?_eq_getElem (by omega)] at hg hv0
 show VlV true N w (.txt l[i]) _
 unfold VlV;exact⟨_,_,_,rfl,⟨_,_,rfl⟩,⟨hg.by,fun _=>⟨_,_,hv0,hlt⟩⟩,⟨_,_,rfl⟩⟩
theorem TxL.upd {b3:Nat}{l:List Byt}(h:TxL b3 i l A k w) (U:Upd g w w'){cs:Array Value}{fr:Nat×Nat}(hb:w.heap[g]?=some (.cells cs 117 fr)) (hg:g<b3):TxL b3 i l A k w':=by
 obtain⟨h1,C,h2,h3⟩:=h;exact⟨(U.block b3 (by omega)).trans h1,C,h2.upd U (by omega),fun j hj=>(h3 j hj).upd U hb (by decide)⟩
theorem qZ.at_{l:List Byt}(h:qZ w (.slice A n c) l) (hn:n=l.length) (h0:0<n):∃g off,A=some ⟨g,off,none⟩/\∀i,i<n->w.cell? ⟨g,off+i,none⟩=some (sV (l.getD i [])):=by
 subst hn;obtain⟨g,off,h1,h2⟩:=Qm.addr h h0;exact⟨g,off,h1,fun i hi=>by obtain⟨x,h3,rfl⟩:=h2 i hi;exact h3⟩
theorem zq{cs:Array Value}{t:TypeId}{fr:Nat×Nat}(h:w.heap[g]?=some (.cells cs t fr)) (j:Nat):w.cell? ((⟨g,0,none⟩:Addr).add j)=cs[j]?:=by
 rw[qW,Nat.zero_add,qj h]
def q3c (w:World) (l:List Byt) (e:Ending) (w':World):Prop:=∃A n k,e=.returned (.agg #[.int .i64 2,.bool false,.slice none 0 0,.slice none 0 0,.slice A n k])/\(∀N,VlV true N w' (.lst (l.map .txt)) (.agg #[.int .i64 2,.bool false,.slice none 0 0,.slice none 0 0,.slice A n k]))/\Ext w w'
theorem ZP {o:Ob}{x y:Value}(h:ObR w x y o) (hl:o.links.length<=1000) (hb:∀s∈o.links,s.length<=65536):Calls Tryz.prog 72 #[.agg #[x,y]] w (q3c w o.links):=by
 obtain⟨hS,hD⟩:=h;obtain⟨l,hll⟩:=qf o.links;rw[<-hll.out] at hS hl hb ⊢;obtain⟨A0,c0,rfl,hnc,-⟩:=hS.form;obtain⟨A9,c9,rfl,-⟩:=hD.form;obtain⟨n,hn⟩:=qf l.length;rw[<-hn.out] at hS hnc;have HS:=q_h hS;have HB:=q_h hb;have HL:Hid (n<=1000):=by rw[Hid,hn.out];exact hl
 clear hS hb hl;rw[<-hn.out];go_enter Tryz.func72,Tryz.ntmps72;go_upto_region 1 with (fail);refine zu ?_;intro w1 hE hsz B0 B1;obtain⟨p0,p1,-⟩:=cells2 B0;have HB0:=q_h B0;go_wp2_with (go_at_call 71;refine q_o ?_);refine jM.mono ?_;rintro e w2 ⟨rfl,e2⟩;clear p0 p1;obtain⟨p0,p1,-⟩:=cells2 (e2.block HB0.out);go_upto_region 2 with (fail);refine qo ?_;intro w3 hE3 hsz3 B3;obtain⟨b3,hb3⟩:=qf w2.heap.size;obtain⟨b2,hb2⟩:=qf (w.heap.size+1);rw[<-hb3.out] at B3 ⊢;rw[<-hb2.out];clear p0 p1;obtain⟨p0,p1,-⟩:=cells2 (hE3.block (e2.block HB0.out))
 have HB2:Hid (w3.heap[b2]?=some (.cells #[.int .i64 0,.bool false,.slice none 0 0,.slice none 0 0,.slice none 0 0] 117 (0,0))):=by
  rw[Hid,hb2.out];exact hE3.block (e2.block B1)
 have H23:Hid (b2<b3/\w.heap.size<=b2/\b3<w3.heap.size):=by
  have:=e2.size;have:=hb2.out;have:=hb3.out;rw[Hid];omega
 have HX0:=q_h ((hE.trans e2).trans hE3);have HL0:Hid (TxL b3 0 l none 0 w3):=⟨B3,fun _=>.int .i64 0,⟨by have:=H23.out;omega,rfl,.inl ⟨rfl,rfl⟩⟩,fun j hj=>by omega⟩
 clear B0 B1 HB0 e2 hE hE3 B3 hsz hsz3;go_wp2_with fail;clear p0 p1
 go_loopw [10] (fun iv wr=>∃(i:Nat) (A:Option Addr) (k:Nat),i<=n/\iv=.int .i64 (i:Int)/\Hid (TxL b3 i l A k wr)/\Hid (Ext w wr)/\Hid (wr.heap[b2]?=some (.cells #[.int .i64 0,.bool false,.slice none 0 0,.slice none 0 0,.slice none 0 0] 117 (0,0)))) (fun iv _=>n-(intOf iv).toNat)
 case atStart=>exact⟨0,none,0,Nat.zero_le _,rfl,HL0,HX0,HB2⟩
 case round =>
  clear HL0 HX0 HB2;obtain⟨i,A,k,hi9,rfl,HLI,HX,HB2⟩:=hrel
  by_cases hlt:i<n
  case neg =>
   have u1:decide ((i:Int)<(n:Int))=false:=q_f (by omega);have u1':decide (i<n)=false:=q_f hlt
   have HLN:Hid (TxL b3 n l A k wr):=by
    rw[show n=i by omega];exact HLI.out
   have B3:=HLN.out.1;obtain⟨q0,q1,q2,q3,q4⟩:=qA B3;go_upto_region 7 with (fail);refine wp_region_lit ?_;refine wpList_plain rfl (fun K hK=>?_);go_simp;refine hK _ _ ?_;clear hK K;try simp only[nr]
   refine qh rfl 117 _ _ rfl (by rfl) (by rfl) HB2.out zo (by rfl) (by rfl) (by rfl) ?_;intro w9 B9 U9;go_wp2;refine bodyPost_ret (results_cell_row rfl _ _ _ _ _ _ _ rfl B9 Tryz.underlying117 rfl zo) rfl ?_;have C9:=U9.chg (NoU.mk HB2.out (by decide));exact⟨A,n,k,rfl,fun N=>(HLN.out.upd U9 HB2.out H23.out.1).done hn.out,C9.ext HX.out H23.out.2.1⟩
  have u1:decide ((i:Int)<(n:Int))=true:=q_t (by omega);have u1':decide (i<n)=true:=q_t hlt;have u2:(i:Int)<(n:Int):=by omega
  have hil:i<l.length:=by have:=hn.out;omega
  obtain⟨g,off,rfl,hx⟩:=qZ.at_ (HS.out.ext HX.out) hn.out (by omega);have k0:=hx i hlt;obtain⟨s0,hs0⟩:=qf (sV (l.getD i []));rw[<-hs0.out] at k0
  have HW:Hid (∀w5,Calls Tryz.prog 73 #[s0] w5 (Yi w5 (l.getD i []))):=fun w5=>by
   rw[hs0.out];refine xP ?_;rw[List.getD_eq_getElem?_getD,List.getElem?_eq_getElem hil];exact HB.out _ (List.getElem_mem hil)
  obtain⟨B3,C,hG,hC⟩:=HLI.out;have HG:=q_h hG;have HC:=q_h hC;have HB3:=q_h B3;have q4:wr.cell? ⟨b3,4,none⟩=some (.slice A i k):=(qj B3 4).trans rfl;obtain⟨wq,hwq⟩:∃wq,wq=wr:=⟨_,rfl⟩
  subst hwq;clear hx hG hC B3 HLI hil;go_upto_region 5 with (fail);have eC:=(Ext.refl wq).drew.cell q4;refine ql (fun w'=>w'.cell? ⟨b3,4,none⟩=some (.slice A i k)) [7] (by kernel_rfl) (by exact eC) (fun hHeld=>?_);refine sP 0 (h:=?_);refine sT 1 (h:=?_);refine sP 2 (h:=?_);refine qg (i:=3) rfl (by kernel_rfl) (fun K hK=>?_);go_simp;refine (HW.out _).mono ?_;rintro e w5 ⟨c,rfl,hG5,e5⟩;have HG5:=q_h (hG5.mono (Nat.zero_le _));obtain⟨g5,cap5,rfl,-⟩:=hG5.form;have HE5:Hid (Ext wq w5):=(Ext.refl wq).drew.trans e5;replace eC:=e5.cell eC;clear hG5 e5;go_wp2_with fail;clear hHeld;refine hK.out _ _ (by exact eC) fun hHeld=>?_
  clear hK K;try simp only[nr]
  refine qg (i:=4) rfl (by kernel_rfl) (fun K hK=>?_);go_simp
  first|refine qo ?_|refine qY ?_
  intro w6 e6 hsz6 BJ;have HE6:=q_h (HE5.out.trans e6);have HG6:=q_h (HG5.out.ext e6);replace eC:=e6.cell eC;clear HG5;clear hHeld;refine hK.out _ _ (by exact eC) fun hHeld=>?_
  clear hK K;try simp only[nr]
  refine qg (i:=5) rfl (by kernel_rfl) (fun K hK=>?_);refine zl XF rfl _ _ 115 Tryz.underlying115 rfl (by rfl) (HG.out.ext HE6.out) (by rfl) (news:=[.int .i64 1,.bool false,.slice none 0 0,_,.slice none 0 0]) rfl (fun j u hj=>(zq BJ j).trans (by simpa using hj)) (by simp[Value.oneCell']) (by have:=HL.out;omega) ?_;rintro v7 w7 hG7 - ⟨g7,hg7,hw7,C7⟩;obtain⟨A7,c7,rfl⟩:=hG7.form;replace eC:=C7.cell eC (.inl (by show b3<g7;omega));have HB7:=q_h (C7.blk (HE6.out.block HB3.out) (.inl (by omega)));have HG7:=q_h hG7
  have HC7:Hid (∀j,j<i+1->GbB 0 w7 (upC C i _ j) (l.getD j [])):=fun j hj=>by
   unfold upC
   by_cases h9:j=i
   ·rw[if_pos h9,h9];exact HG6.out.app (HG.out.ext HE6.out) (by decide) hw7 C7
   ·rw[if_neg h9];exact ((HC.out j (by omega)).ext HE6.out).app (HG.out.ext HE6.out) (by decide) hw7 C7
  have HX7:Hid (Ext w w7):=C7.ext (HX.out.trans HE6.out) (by have:=H23.out;omega);have HB27:=q_h (C7.blk (HE6.out.block HB2.out) (.inl (by have:=H23.out;omega)));clear hG7 hw7 C7 BJ;clear hHeld;refine hK.out _ _ (by exact eC) fun hHeld=>?_
  clear hK K;try simp only[nr]
  refine sP 6 (h:=?_);refine qC (i:=7) rfl (by kernel_rfl) (by kernel_rfl) (fun K hK=>?_);obtain⟨w8,E8,B8,U8⟩:=qL HB7.out 4 (.slice A7 (i+1) c7);have f0:=qp HB7.out 4;go_simp
  (try rw[E8])
  refine hK.out _ _ ?_;clear hK K;try simp only[nr]
  refine qm (by kernel_rfl) ?_ _;clear hHeld
  have HL8:Hid (TxL b3 (i+1) l A7 c7 w8):=by
   refine⟨B8,_,(QQ C i _) ▸ (HG7.out.upd U8 (by omega)),fun j hj=>(HC7.out j hj).upd U8 HB7.out (by decide)⟩
  have HX8:Hid (Ext w w8):=(U8.chg (NoU.mk HB7.out (by decide))).ext HX7.out (by have:=H23.out;omega);have HB28:Hid (w8.heap[b2]?=some (.cells #[.int .i64 0,.bool false,.slice none 0 0,.slice none 0 0,.slice none 0 0] 117 (0,0))):=(U8.block b2 (by have:=H23.out;omega)).trans HB27.out;clear HG7 HC7 HX7 HB27 HB7 B8 U8 E8 HG6 HE6 HE5 HW k0 q4
  (try clear eC)
  have hL9:=HL.out;go_wp2;go_roundw
  case rel=>exact⟨i+1,A7,c7,by omega,by go_num,HL8,HX8,HB28⟩
  case measure=>simp[intOf];omega
theorem Kv {l:List Byt}(hS:qZ w v l) (hl:l.length<=1000) (hb:∀s∈l,s.length<=65536):Calls Tryz.prog 132 #[v] w (q3c w l):=by
 obtain⟨A0,c0,rfl,hnc,-⟩:=hS.form;obtain⟨n,hn⟩:=qf l.length;rw[<-hn.out] at hS hnc;have HS:=q_h hS;have HB:=q_h hb;have HL:Hid (n<=1000):=by rw[Hid,hn.out];exact hl
 clear hS hb hl;rw[<-hn.out];go_enter Tryz.func132,Tryz.ntmps132;go_upto_region 1 with (fail);refine qo ?_;intro w1 hE hsz B0;go_wp2_with (go_at_call 130;refine q_o ?_);refine jY.mono ?_;rintro e w2 ⟨rfl,e2⟩;go_upto_region 2 with (fail);refine qo ?_;intro w3 hE3 hsz3 B3;obtain⟨b3,hb3⟩:=qf w2.heap.size;obtain⟨b2,hb2⟩:=qf w.heap.size;rw[<-hb3.out] at B3 ⊢;rw[<-hb2.out]
 have HB2:Hid (w3.heap[b2]?=some (.cells #[.int .i64 0,.bool false,.slice none 0 0,.slice none 0 0,.slice none 0 0] 117 (0,0))):=by
  rw[Hid,hb2.out];exact hE3.block (e2.block B0)
 have H23:Hid (b2<b3/\w.heap.size<=b2/\b3<w3.heap.size):=by
  have:=e2.size;have:=hb2.out;have:=hb3.out;rw[Hid];omega
 have HX0:=q_h ((hE.trans e2).trans hE3);have HL0:Hid (TxL b3 0 l none 0 w3):=⟨B3,fun _=>.int .i64 0,⟨by have:=H23.out;omega,rfl,.inl ⟨rfl,rfl⟩⟩,fun j hj=>by omega⟩
 clear B0  e2 hE hE3 B3 hsz hsz3;go_wp2_with fail;clear hnc
 go_loopw [9] (fun iv wr=>∃(i:Nat) (A:Option Addr) (k:Nat),i<=n/\iv=.int .i64 (i:Int)/\Hid (TxL b3 i l A k wr)/\Hid (Ext w wr)/\Hid (wr.heap[b2]?=some (.cells #[.int .i64 0,.bool false,.slice none 0 0,.slice none 0 0,.slice none 0 0] 117 (0,0)))) (fun iv _=>n-(intOf iv).toNat)
 case atStart=>exact⟨0,none,0,Nat.zero_le _,rfl,HL0,HX0,HB2⟩
 case round =>
  clear HL0 HX0 HB2;obtain⟨i,A,k,hi9,rfl,HLI,HX,HB2⟩:=hrel
  by_cases hlt:i<n
  case neg =>
   have u1:decide ((i:Int)<(n:Int))=false:=q_f (by omega);have u1':decide (i<n)=false:=q_f hlt
   have HLN:Hid (TxL b3 n l A k wr):=by
    rw[show n=i by omega];exact HLI.out
   have B3:=HLN.out.1;obtain⟨q0,q1,q2,q3,q4⟩:=qA B3;go_upto_region 7 with (fail);refine wp_region_lit ?_;refine wpList_plain rfl (fun K hK=>?_);go_simp;refine hK _ _ ?_;clear hK K;try simp only[nr]
   refine qh rfl 117 _ _ rfl (by rfl) (by rfl) HB2.out zo (by rfl) (by rfl) (by rfl) ?_;intro w9 B9 U9;go_wp2;refine bodyPost_ret (results_cell_row rfl _ _ _ _ _ _ _ rfl B9 Tryz.underlying117 rfl zo) rfl ?_;have C9:=U9.chg (NoU.mk HB2.out (by decide));exact⟨A,n,k,rfl,fun N=>(HLN.out.upd U9 HB2.out H23.out.1).done hn.out,C9.ext HX.out H23.out.2.1⟩
  have u1:decide ((i:Int)<(n:Int))=true:=q_t (by omega);have u1':decide (i<n)=true:=q_t hlt;have u2:(i:Int)<(n:Int):=by omega
  have hil:i<l.length:=by have:=hn.out;omega
  obtain⟨g,off,rfl,hx⟩:=qZ.at_ (HS.out.ext HX.out) hn.out (by omega);have k0:=hx i hlt;obtain⟨s0,hs0⟩:=qf (sV (l.getD i []));rw[<-hs0.out] at k0
  have HW:Hid (∀w5,Calls Tryz.prog 168 #[s0] w5 (Yi w5 (l.getD i []))):=fun w5=>by
   rw[hs0.out];refine wW ?_;rw[List.getD_eq_getElem?_getD,List.getElem?_eq_getElem hil];exact HB.out _ (List.getElem_mem hil)
  obtain⟨B3,C,hG,hC⟩:=HLI.out;have HG:=q_h hG;have HC:=q_h hC;have HB3:=q_h B3;have q4:wr.cell? ⟨b3,4,none⟩=some (.slice A i k):=(qj B3 4).trans rfl;obtain⟨wq,hwq⟩:∃wq,wq=wr:=⟨_,rfl⟩
  subst hwq;clear hx hG hC B3 HLI hil;go_upto_region 5 with (fail);have eC:=(Ext.refl wq).drew.cell q4;refine ql (fun w'=>w'.cell? ⟨b3,4,none⟩=some (.slice A i k)) [7] (by kernel_rfl) (by exact eC) (fun hHeld=>?_);refine sP 0 (h:=?_);refine sT 1 (h:=?_);refine sP 2 (h:=?_);refine qg (i:=3) rfl (by kernel_rfl) (fun K hK=>?_);go_simp;refine (HW.out _).mono ?_;rintro e w5 ⟨c,rfl,hG5,e5⟩;have HG5:=q_h (hG5.mono (Nat.zero_le _));obtain⟨g5,cap5,rfl,-⟩:=hG5.form;have HE5:Hid (Ext wq w5):=(Ext.refl wq).drew.trans e5;replace eC:=e5.cell eC;clear hG5 e5;go_wp2_with fail;clear hHeld;refine hK.out _ _ (by exact eC) fun hHeld=>?_
  clear hK K;try simp only[nr]
  refine qg (i:=4) rfl (by kernel_rfl) (fun K hK=>?_);go_simp
  first|refine qo ?_|refine qY ?_
  intro w6 e6 hsz6 BJ;have HE6:=q_h (HE5.out.trans e6);have HG6:=q_h (HG5.out.ext e6);replace eC:=e6.cell eC;clear HG5;clear hHeld;refine hK.out _ _ (by exact eC) fun hHeld=>?_
  clear hK K;try simp only[nr]
  refine qg (i:=5) rfl (by kernel_rfl) (fun K hK=>?_);refine zl XF rfl _ _ 115 Tryz.underlying115 rfl (by rfl) (HG.out.ext HE6.out) (by rfl) (news:=[.int .i64 1,.bool false,.slice none 0 0,_,.slice none 0 0]) rfl (fun j u hj=>(zq BJ j).trans (by simpa using hj)) (by simp[Value.oneCell']) (by have:=HL.out;omega) ?_;rintro v7 w7 hG7 - ⟨g7,hg7,hw7,C7⟩;obtain⟨A7,c7,rfl⟩:=hG7.form;replace eC:=C7.cell eC (.inl (by show b3<g7;omega));have HB7:=q_h (C7.blk (HE6.out.block HB3.out) (.inl (by omega)));have HG7:=q_h hG7
  have HC7:Hid (∀j,j<i+1->GbB 0 w7 (upC C i _ j) (l.getD j [])):=fun j hj=>by
   unfold upC
   by_cases h9:j=i
   ·rw[if_pos h9,h9];exact HG6.out.app (HG.out.ext HE6.out) (by decide) hw7 C7
   ·rw[if_neg h9];exact ((HC.out j (by omega)).ext HE6.out).app (HG.out.ext HE6.out) (by decide) hw7 C7
  have HX7:Hid (Ext w w7):=C7.ext (HX.out.trans HE6.out) (by have:=H23.out;omega);have HB27:=q_h (C7.blk (HE6.out.block HB2.out) (.inl (by have:=H23.out;omega)));clear hG7 hw7 C7 BJ;clear hHeld;refine hK.out _ _ (by exact eC) fun hHeld=>?_
  clear hK K;try simp only[nr]
  refine sP 6 (h:=?_);refine qC (i:=7) rfl (by kernel_rfl) (by kernel_rfl) (fun K hK=>?_);obtain⟨w8,E8,B8,U8⟩:=qL HB7.out 4 (.slice A7 (i+1) c7);have f0:=qp HB7.out 4;go_simp
  (try rw[E8])
  refine hK.out _ _ ?_;clear hK K;try simp only[nr]
  refine qm (by kernel_rfl) ?_ _;clear hHeld
  have HL8:Hid (TxL b3 (i+1) l A7 c7 w8):=by
   refine⟨B8,_,(QQ C i _) ▸ (HG7.out.upd U8 (by omega)),fun j hj=>(HC7.out j hj).upd U8 HB7.out (by decide)⟩
  have HX8:Hid (Ext w w8):=(U8.chg (NoU.mk HB7.out (by decide))).ext HX7.out (by have:=H23.out;omega);have HB28:Hid (w8.heap[b2]?=some (.cells #[.int .i64 0,.bool false,.slice none 0 0,.slice none 0 0,.slice none 0 0] 117 (0,0))):=(U8.block b2 (by have:=H23.out;omega)).trans HB27.out;clear HG7 HC7 HX7 HB27 HB7 B8 U8 E8 HG6 HE6 HE5 HW k0 q4
  (try clear eC)
  have hL9:=HL.out;go_wp2;go_roundw
  case rel=>exact⟨i+1,A7,c7,by omega,by go_num,HL8,HX8,HB28⟩
  case measure=>simp[intOf];omega
end
section
open Go.RowKit
theorem kW{l:Byt}(h:ByV w v l) (hl:l.length<=1000000):Calls Tryz.prog 121 #[v] w (qH w (.int .i64 (pgN l:Int))):=by
 obtain⟨A,c,rfl,-⟩:=h;obtain⟨n,hn⟩:=qf l.length;obtain⟨r,hr⟩:=qf ((pgN l:Int));rw[<-hn.out,<-hr.out];have hnl:n<=1000000:=by rw[hn.out];exact hl
 have t1:IntKind.i64.wrap (4+(n:Int))=4+(n:Int):=wrp (by omega) (by omega);have t2:IntKind.i64.wrap (4+(n:Int)+64)=4+(n:Int)+64:=wrp (by omega) (by omega);have t3:IntKind.i64.wrap (4+(n:Int)+64-1)=4+(n:Int)+64-1:=wrp (by omega) (by omega);have t4:(4+(n:Int)+64-1) / 64=r:=by rw[hr.out,hn.out];unfold pgN;omega
 have t5:(4+(n:Int)+64-1).tdiv 64=r:=by rw[Int.tdiv_eq_ediv_of_nonneg (by omega)];exact t4
 have t6:IntKind.i64.wrap r=r:=wrp (by omega) (by omega);clear hr;go_enter Tryz.func121,Tryz.ntmps121;go_wp2
 first|go_ret|skip
 exact⟨rfl,Ext.refl _⟩
theorem yF {n:Int}(h1:0<=n) (h2:n<=1000000) : -1<=qV n/\qV n<=1000000:=by
 unfold qV
 by_cases h:2<=n
 ·rw[Int.tdiv_eq_ediv_of_nonneg (by omega)];omega
 ·have:n=0\/n=1:=by omega
  rcases this with rfl|rfl<;>decide
theorem WE {n:Int}(h1:0<=n) (h2:n<=1000000) (w:World):Calls Tryz.prog 87 #[.int .i64 n] w (qH w (.int .i64 (qV n))):=by
 obtain⟨r,hr⟩:=qf (qV n);rw[<-hr.out];have t1:IntKind.i64.wrap (n-2)=n-2:=wrp (by omega) (by omega);have t2:(n-2).tdiv 2=r:=hr.out.symm;have hb:=yF h1 h2;have t3:IntKind.i64.wrap r=r:=wrp (by rw[hr.out];omega) (by rw[hr.out];omega);clear hb;clear hr;go_enter Tryz.func87,Tryz.ntmps87;go_wp2
 first|go_ret|skip
 exact⟨rfl,Ext.refl _⟩
theorem Z9 {n:Int}(h1:0<=n) (h2:n<=1000000) (w:World):Calls Tryz.prog 103 #[.int .i64 n] w (qH w (.int .i64 (qV n))):=by
 obtain⟨r,hr⟩:=qf (qV n);rw[<-hr.out];have t1:IntKind.i64.wrap (n-2)=n-2:=wrp (by omega) (by omega);have t2:(n-2).tdiv 2=r:=hr.out.symm;have hb:=yF h1 h2;have t3:IntKind.i64.wrap r=r:=wrp (by rw[hr.out];omega) (by rw[hr.out];omega);clear hb;clear hr;go_enter Tryz.func103,Tryz.ntmps103;go_wp2
 first|go_ret|skip
 exact⟨rfl,Ext.refl _⟩
theorem q0L {l:Byt}(hz:z=chZ l i):X5 (l.getD i 0)=((decide (97<=z)&&decide (z<=122))||(decide (48<=z)&&decide (z<=57))||decide (z=46)||decide (z=45)):=by
 unfold chZ at hz;unfold X5 isLow;rw[hz,Bool.eq_iff_iff];simp only[Bool.or_eq_true,Bool.and_eq_true,decide_eq_true_eq,beq_iff_eq];omega
def q2h (l:Byt):Bool:=match l with|[]=>false|c :: _=>isLow c&&(l.length<=24&&l.all X5)
theorem Vg (l:Byt):Xr l=(Ql l||q2h l):=by
 unfold Xr q2h;cases l<;>rfl
theorem XR {l:Byt}(h:0<l.length):q2h l=(isLow (l.getD 0 0)&&(decide (l.length<=24)&&l.all X5)):=by
 cases l with
 | nil=>exact absurd h (Nat.not_lt_zero 0)
 | cons c r=>rfl
theorem ZN (s:ByteArray):s.toList.isEmpty=decide (s.size=0):=by
 rw[ByteArray.toList_eq,Bool.eq_iff_iff,decide_eq_true_eq,List.isEmpty_iff_length_eq_zero,Array.length_toList]
 rfl
theorem wF (s:ByteArray) (hs:s.size<=9223372036854775807) (w:World):Calls Tryz.prog 115 #[.string s] w (qH w (.bool (Xr (zU s)))):=by
 rw[Vg];obtain⟨a,ha⟩:=qf (Ql (zU s));obtain⟨r,hr⟩:=qf (q2h (zU s));rw[<-ha.out,<-hr.out];have hem:=ZN s;obtain⟨n,hn⟩:=qf s.size;have HN:Hid ((zU s).length=n):=by rw[Hid,hn.out];exact zZ s
 go_enter Tryz.func115,Tryz.ntmps115;go_wp2_with (go_at_call 68;refine q_o ?_);refine (KQ s hs w).mono ?_;rintro e w1 ⟨rfl,e1⟩;rw[<-ha.out];cases a with
 | true =>
  go_wp2
  first|go_ret|skip
  exact⟨rfl,e1⟩
 | false =>
 by_cases h0:s.size=0
 ·have u0:decide (s.size=0)=true:=q_t h0;rw[u0] at hem
  have HR:Hid (r=false):=by
   rw[Hid,hr.out];have e9:zU s=[]:=List.eq_nil_of_length_eq_zero (by rw[zZ];exact h0);rw[e9];rfl
  clear u0 h0;go_wp2
  first|go_ret|skip
  rw[HR.out];exact⟨rfl,e1⟩
 have u0:decide (s.size=0)=false:=q_f h0;rw[u0] at hem;have hpos:0<s.size:=by omega
 have HR:Hid (r=(isLow ((zU s).getD 0 0)&&(decide (n<=24)&&(zU s).all X5))):=by
  rw[Hid,hr.out,XR (by rw[zZ];exact hpos),HN.out]
 obtain⟨c,hc⟩:=qf (chZ (zU s) 0)
 have hix0:∀w,(Instr.index 9 (.string s) (.int .i64 0)).run Tryz.prog w=.ok (.int .u8 c) w:=by
  have h9:=jT (s:=s) (i:=0) (k:=.i64) hpos;rw[<-hc.out] at h9;exact h9
 have HLW:Hid (isLow ((zU s).getD 0 0)=(decide (97<=c)&&decide (c<=122))):=by
  rw[Hid,hc.out];unfold isLow chZ;rw[Bool.eq_iff_iff];simp only[Bool.and_eq_true,decide_eq_true_eq];omega
 rw[HLW.out] at HR;have hnn:n=s.size:=hn.out;clear u0 h0 hr hn
 by_cases h24:24<s.size
 ·have u1:decide ((24:Int)<(s.size:Int))=true:=q_t (by omega);have u1':decide (24<s.size)=true:=q_t h24;have HX:Hid (r=false):=by rw[Hid,HR.out,(q_f (by omega):decide (n<=24)=false),Bool.false_and,Bool.and_false]
  clear h24 hnn;go_wp2
  first|go_ret|skip
  rw[HX.out];exact⟨rfl,e1⟩
 have u1:decide ((24:Int)<(s.size:Int))=false:=q_f (by omega);have u1':decide (24<s.size)=false:=q_f h24
 by_cases hl1:c<97
 ·have u2:decide (c<97)=true:=q_t hl1;have HX:Hid (r=false):=by rw[Hid,HR.out,(q_f (by omega):decide (97<=c)=false),Bool.false_and,Bool.false_and]
  clear h24 hnn hl1;go_wp2
  first|go_ret|skip
  rw[HX.out];exact⟨rfl,e1⟩
 have u2:decide (c<97)=false:=q_f hl1
 by_cases hl2:122<c
 ·have u3:decide (122<c)=true:=q_t hl2;have HX:Hid (r=false):=by rw[Hid,HR.out,(q_f (by omega):decide (c<=122)=false),Bool.and_false,Bool.false_and]
  clear h24 hnn hl1 hl2;go_wp2
  first|go_ret|skip
  rw[HX.out];exact⟨rfl,e1⟩
 have u3:decide (122<c)=false:=q_f hl2
 have HA:Hid (r=(zU s).all X5):=by
  rw[Hid,HR.out,(q_t (by omega):decide (97<=c)=true),(q_t (by omega):decide (c<=122)=true),(q_t (by omega):decide (n<=24)=true)]
  rfl
 have hn24:s.size<=24:=by omega
 clear h24 hl1 hl2 HR HLW;go_wp2_with fail
 go_loopw [26] (fun iv wr=>∃i:Nat,i<=s.size/\iv=.int .i64 (i:Int)/\Hid (∀j,j<i->X5 ((zU s).getD j 0)=true)/\wr=w1) (fun iv _=>s.size-(intOf iv).toNat)
 case atStart=>exact⟨0,Nat.zero_le _,rfl,fun j hj=>absurd hj (Nat.not_lt_zero j),rfl⟩
 case round =>
  clear hix0;obtain⟨i,hi9,rfl,HI,rfl⟩:=hrel
  by_cases hlt:i<s.size
  case neg =>
   have v1:decide ((i:Int)<(s.size:Int))=false:=q_f (by omega);have v1':decide (i<s.size)=false:=q_f hlt
   have HX:Hid (r=true):=by
    rw[Hid,HA.out];exact vV (n:=i) HI.out (by rw[HN.out];omega)
   go_wp2
   first|go_ret|skip
   rw[HX.out];exact⟨rfl,e1⟩
  have v1:decide ((i:Int)<(s.size:Int))=true:=q_t (by omega);have v1':decide (i<s.size)=true:=q_t hlt;obtain⟨z,hz⟩:=qf (chZ (zU s) i);have hix:=jT (s:=s) (i:=i) (k:=.i64) hlt;rw[<-hz.out] at hix;have HH:=q_h (q0L hz.out)
  by_cases hhx:X5 ((zU s).getD i 0)=true
  case neg =>
   have HX:Hid (r=false):=by
    rw[Hid,HA.out];exact Zx (i:=i) (by rw[HN.out];omega) (by simpa using hhx)
   rw[HH.out] at hhx;simp only[Bool.or_eq_true,Bool.and_eq_true,decide_eq_true_eq] at hhx;have w5:(z != 46)=true:=by simp;omega
   have w6:(z != 45)=true:=by simp;omega
   by_cases h1:z<97
   ·have x1:decide (z<97)=true:=q_t h1
    by_cases h3:z<48
    ·have x3:decide (z<48)=true:=q_t h3;clear hhx h1 h3;go_wp2
     first|go_ret|skip
     rw[HX.out];exact⟨rfl,e1⟩
    have x3:decide (z<48)=false:=q_f h3;have x4:decide (57<z)=true:=q_t (by omega);clear hhx h1 h3;go_wp2
    first|go_ret|skip
    rw[HX.out];exact⟨rfl,e1⟩
   have x1:decide (z<97)=false:=q_f h1;have x2:decide (122<z)=true:=q_t (by omega);have x3:decide (z<48)=false:=q_f (by omega);have x4:decide (57<z)=true:=q_t (by omega);clear hhx h1;go_wp2
   first|go_ret|skip
   rw[HX.out];exact⟨rfl,e1⟩
  have HI2:Hid (∀j,j<i+1->X5 ((zU s).getD j 0)=true):=fun j hj=>by
   by_cases hji:j=i
   ·rw[hji];exact hhx
   ·exact HI.out j (by omega)
  rw[HH.out] at hhx;simp only[Bool.or_eq_true,Bool.and_eq_true,decide_eq_true_eq] at hhx
  by_cases h1:z<97
  ·have x1:decide (z<97)=true:=q_t h1
   by_cases h3:z<48
   ·have x3:decide (z<48)=true:=q_t h3
    by_cases h5:z=46
    ·have x5:(z != 46)=false:=by simp[h5]
     clear hhx h1 h3 h5;go_wp2;go_roundw
     case rel=>exact⟨i+1,by omega,by go_num,HI2,trivial⟩
     case measure=>simp[intOf];omega
    have x5:(z != 46)=true:=by simp[h5]
    have x6:(z != 45)=false:=by simp;omega
    clear hhx h1 h3 h5;go_wp2;go_roundw
    case rel=>exact⟨i+1,by omega,by go_num,HI2,trivial⟩
    case measure=>simp[intOf];omega
   have x3:decide (z<48)=false:=q_f h3;have x4:decide (57<z)=false:=q_f (by omega);clear hhx h1 h3;go_wp2;go_roundw
   case rel=>exact⟨i+1,by omega,by go_num,HI2,trivial⟩
   case measure=>simp[intOf];omega
  have x1:decide (z<97)=false:=q_f h1;have x2:decide (122<z)=false:=q_f (by omega);clear hhx h1;go_wp2;go_roundw
  case rel=>exact⟨i+1,by omega,by go_num,HI2,trivial⟩
  case measure=>simp[intOf];omega
theorem Kw (s:ByteArray) (hs:s.size<=9223372036854775807) (w:World):Calls Tryz.prog 112 #[.string s] w (qH w (.bool (Xr (zU s)))):=by
 rw[Vg];obtain⟨a,ha⟩:=qf (Ql (zU s));obtain⟨r,hr⟩:=qf (q2h (zU s));rw[<-ha.out,<-hr.out];have hem:=ZN s;obtain⟨n,hn⟩:=qf s.size;have HN:Hid ((zU s).length=n):=by rw[Hid,hn.out];exact zZ s
 go_enter Tryz.func112,Tryz.ntmps112;go_wp2_with (go_at_call 75;refine q_o ?_);refine (QF s hs w).mono ?_;rintro e w1 ⟨rfl,e1⟩;rw[<-ha.out];cases a with
 | true =>
  go_wp2
  first|go_ret|skip
  exact⟨rfl,e1⟩
 | false =>
 by_cases h0:s.size=0
 ·have u0:decide (s.size=0)=true:=q_t h0;rw[u0] at hem
  have HR:Hid (r=false):=by
   rw[Hid,hr.out];have e9:zU s=[]:=List.eq_nil_of_length_eq_zero (by rw[zZ];exact h0);rw[e9];rfl
  clear u0 h0;go_wp2
  first|go_ret|skip
  rw[HR.out];exact⟨rfl,e1⟩
 have u0:decide (s.size=0)=false:=q_f h0;rw[u0] at hem;have hpos:0<s.size:=by omega
 have HR:Hid (r=(isLow ((zU s).getD 0 0)&&(decide (n<=24)&&(zU s).all X5))):=by
  rw[Hid,hr.out,XR (by rw[zZ];exact hpos),HN.out]
 obtain⟨c,hc⟩:=qf (chZ (zU s) 0)
 have hix0:∀w,(Instr.index 9 (.string s) (.int .i64 0)).run Tryz.prog w=.ok (.int .u8 c) w:=by
  have h9:=jT (s:=s) (i:=0) (k:=.i64) hpos;rw[<-hc.out] at h9;exact h9
 have HLW:Hid (isLow ((zU s).getD 0 0)=(decide (97<=c)&&decide (c<=122))):=by
  rw[Hid,hc.out];unfold isLow chZ;rw[Bool.eq_iff_iff];simp only[Bool.and_eq_true,decide_eq_true_eq];omega
 rw[HLW.out] at HR;have hnn:n=s.size:=hn.out;clear u0 h0 hr hn
 by_cases h24:24<s.size
 ·have u1:decide ((24:Int)<(s.size:Int))=true:=q_t (by omega);have u1':decide (24<s.size)=true:=q_t h24;have HX:Hid (r=false):=by rw[Hid,HR.out,(q_f (by omega):decide (n<=24)=false),Bool.false_and,Bool.and_false]
  clear h24 hnn;go_wp2
  first|go_ret|skip
  rw[HX.out];exact⟨rfl,e1⟩
 have u1:decide ((24:Int)<(s.size:Int))=false:=q_f (by omega);have u1':decide (24<s.size)=false:=q_f h24
 by_cases hl1:c<97
 ·have u2:decide (c<97)=true:=q_t hl1;have HX:Hid (r=false):=by rw[Hid,HR.out,(q_f (by omega):decide (97<=c)=false),Bool.false_and,Bool.false_and]
  clear h24 hnn hl1;go_wp2
  first|go_ret|skip
  rw[HX.out];exact⟨rfl,e1⟩
 have u2:decide (c<97)=false:=q_f hl1
 by_cases hl2:122<c
 ·have u3:decide (122<c)=true:=q_t hl2;have HX:Hid (r=false):=by rw[Hid,HR.out,(q_f (by omega):decide (c<=122)=false),Bool.and_false,Bool.false_and]
  clear h24 hnn hl1 hl2;go_wp2
  first|go_ret|skip
  rw[HX.out];exact⟨rfl,e1⟩
 have u3:decide (122<c)=false:=q_f hl2
 have HA:Hid (r=(zU s).all X5):=by
  rw[Hid,HR.out,(q_t (by omega):decide (97<=c)=true),(q_t (by omega):decide (c<=122)=true),(q_t (by omega):decide (n<=24)=true)]
  rfl
 have hn24:s.size<=24:=by omega
 clear h24 hl1 hl2 HR HLW;go_wp2_with fail
 go_loopw [26] (fun iv wr=>∃i:Nat,i<=s.size/\iv=.int .i64 (i:Int)/\Hid (∀j,j<i->X5 ((zU s).getD j 0)=true)/\wr=w1) (fun iv _=>s.size-(intOf iv).toNat)
 case atStart=>exact⟨0,Nat.zero_le _,rfl,fun j hj=>absurd hj (Nat.not_lt_zero j),rfl⟩
 case round =>
  clear hix0;obtain⟨i,hi9,rfl,HI,rfl⟩:=hrel
  by_cases hlt:i<s.size
  case neg =>
   have v1:decide ((i:Int)<(s.size:Int))=false:=q_f (by omega);have v1':decide (i<s.size)=false:=q_f hlt
   have HX:Hid (r=true):=by
    rw[Hid,HA.out];exact vV (n:=i) HI.out (by rw[HN.out];omega)
   go_wp2
   first|go_ret|skip
   rw[HX.out];exact⟨rfl,e1⟩
  have v1:decide ((i:Int)<(s.size:Int))=true:=q_t (by omega);have v1':decide (i<s.size)=true:=q_t hlt;obtain⟨z,hz⟩:=qf (chZ (zU s) i);have hix:=jT (s:=s) (i:=i) (k:=.i64) hlt;rw[<-hz.out] at hix;have HH:=q_h (q0L hz.out)
  by_cases hhx:X5 ((zU s).getD i 0)=true
  case neg =>
   have HX:Hid (r=false):=by
    rw[Hid,HA.out];exact Zx (i:=i) (by rw[HN.out];omega) (by simpa using hhx)
   rw[HH.out] at hhx;simp only[Bool.or_eq_true,Bool.and_eq_true,decide_eq_true_eq] at hhx;have w5:(z != 46)=true:=by simp;omega
   have w6:(z != 45)=true:=by simp;omega
   by_cases h1:z<97
   ·have x1:decide (z<97)=true:=q_t h1
    by_cases h3:z<48
    ·have x3:decide (z<48)=true:=q_t h3;clear hhx h1 h3;go_wp2
     first|go_ret|skip
     rw[HX.out];exact⟨rfl,e1⟩
    have x3:decide (z<48)=false:=q_f h3;have x4:decide (57<z)=true:=q_t (by omega);clear hhx h1 h3;go_wp2
    first|go_ret|skip
    rw[HX.out];exact⟨rfl,e1⟩
   have x1:decide (z<97)=false:=q_f h1;have x2:decide (122<z)=true:=q_t (by omega);have x3:decide (z<48)=false:=q_f (by omega);have x4:decide (57<z)=true:=q_t (by omega);clear hhx h1;go_wp2
   first|go_ret|skip
   rw[HX.out];exact⟨rfl,e1⟩
  have HI2:Hid (∀j,j<i+1->X5 ((zU s).getD j 0)=true):=fun j hj=>by
   by_cases hji:j=i
   ·rw[hji];exact hhx
   ·exact HI.out j (by omega)
  rw[HH.out] at hhx;simp only[Bool.or_eq_true,Bool.and_eq_true,decide_eq_true_eq] at hhx
  by_cases h1:z<97
  ·have x1:decide (z<97)=true:=q_t h1
   by_cases h3:z<48
   ·have x3:decide (z<48)=true:=q_t h3
    by_cases h5:z=46
    ·have x5:(z != 46)=false:=by simp[h5]
     clear hhx h1 h3 h5;go_wp2;go_roundw
     case rel=>exact⟨i+1,by omega,by go_num,HI2,trivial⟩
     case measure=>simp[intOf];omega
    have x5:(z != 46)=true:=by simp[h5]
    have x6:(z != 45)=false:=by simp;omega
    clear hhx h1 h3 h5;go_wp2;go_roundw
    case rel=>exact⟨i+1,by omega,by go_num,HI2,trivial⟩
    case measure=>simp[intOf];omega
   have x3:decide (z<48)=false:=q_f h3;have x4:decide (57<z)=false:=q_f (by omega);clear hhx h1 h3;go_wp2;go_roundw
   case rel=>exact⟨i+1,by omega,by go_num,HI2,trivial⟩
   case measure=>simp[intOf];omega
  have x1:decide (z<97)=false:=q_f h1;have x2:decide (122<z)=false:=q_f (by omega);clear hhx h1;go_wp2;go_roundw
  case rel=>exact⟨i+1,by omega,by go_num,HI2,trivial⟩
  case measure=>simp[intOf];omega
mutual
theorem VlV.any(nn:Bool):∀ {V:Vl}{v:Value},VlV true N w V v->VlV nn N w V v
 | .int z,v,h=>by
  unfold VlV at h ⊢;exact h
 | .txt l,v,h=>by
  unfold VlV at h ⊢;obtain⟨b,c,d,h0,h1,⟨h2,h3⟩,h4⟩:=h;exact⟨b,c,d,h0,h1,⟨h2,fun _=>h3 rfl⟩,h4⟩
 | .lst vs,v,h=>by
  unfold VlV at h ⊢;obtain⟨b,c,A,k,h0,h1,h2,h3,h4,h5⟩:=h;refine⟨b,c,A,k,h0,h1,h2,h3,h4,fun hn=>?_⟩;obtain⟨g,off,h6,h7⟩:=h5 hn;exact⟨g,off,h6,VlL.any nn h7⟩
theorem VlL.any(nn:Bool):∀ {vs:List Vl}{g off:Nat},VlL true N w vs g off->VlL nn N w vs g off
 | [],_,_,_=>by unfold VlL;trivial
 | v :: r,g,off,h=>by
  unfold VlL at h ⊢;obtain⟨⟨c0,c1,c2,c3,c4,h0,h1,h2,h3,h4,h5⟩,h6⟩:=h;exact⟨⟨c0,c1,c2,c3,c4,h0,h1,h2,h3,h4,VlV.any nn h5⟩,VlL.any nn h6⟩
end
theorem q2x {nn:Bool}{V1 V2:Vl}{a0 a1 a2 a3 a4 b0 b1 b2 b3 b4:Value}{t:TypeId}{fr:Nat×Nat}(hb:w.heap[g]?=some (.cells #[a0,a1,a2,a3,a4,b0,b1,b2,b3,b4] t fr))
  (h1:VlV nn N w V1 (.agg #[a0,a1,a2,a3,a4])) (h2:VlV nn N w V2 (.agg #[b0,b1,b2,b3,b4])):VlV nn N w (.lst [V1,V2]) (.agg #[.int .i64 2,.bool false,.slice none 0 0,.slice none 0 0,.slice (some ⟨g,0,none⟩) 2 2]):=by
 have hc:∀j,w.cell? ⟨g,j,none⟩=(#[a0,a1,a2,a3,a4,b0,b1,b2,b3,b4]:Array Value)[j]?:=qj hb;unfold VlV;refine⟨_,_,_,2,rfl,⟨_,_,rfl⟩,⟨_,_,rfl⟩,q_r,by unfold maxLen;omega,fun _=>⟨g,0,rfl,?_⟩⟩;unfold VlL;refine⟨⟨a0,a1,a2,a3,a4,hc 0,hc 1,hc 2,hc 3,hc 4,h1⟩,?_⟩;unfold VlL;refine⟨⟨b0,b1,b2,b3,b4,hc 5,hc 6,hc 7,hc 8,hc 9,h2⟩,?_⟩;unfold VlL
 trivial
theorem WW {nn:Bool}{V1 V2 V3:Vl}{a0 a1 a2 a3 a4 b0 b1 b2 b3 b4 c0 c1 c2 c3 c4:Value}{t:TypeId}{fr:Nat×Nat}(hb:w.heap[g]?=some (.cells #[a0,a1,a2,a3,a4,b0,b1,b2,b3,b4,c0,c1,c2,c3,c4] t fr))
  (h1:VlV nn N w V1 (.agg #[a0,a1,a2,a3,a4])) (h2:VlV nn N w V2 (.agg #[b0,b1,b2,b3,b4])) (h3:VlV nn N w V3 (.agg #[c0,c1,c2,c3,c4])):VlV nn N w (.lst [V1,V2,V3]) (.agg #[.int .i64 2,.bool false,.slice none 0 0,.slice none 0 0,.slice (some ⟨g,0,none⟩) 3 3]):=by
 have hc:∀j,w.cell? ⟨g,j,none⟩=(#[a0,a1,a2,a3,a4,b0,b1,b2,b3,b4,c0,c1,c2,c3,c4]:Array Value)[j]?:=qj hb;unfold VlV;refine⟨_,_,_,3,rfl,⟨_,_,rfl⟩,⟨_,_,rfl⟩,q_r,by unfold maxLen;omega,fun _=>⟨g,0,rfl,?_⟩⟩;unfold VlL;refine⟨⟨a0,a1,a2,a3,a4,hc 0,hc 1,hc 2,hc 3,hc 4,h1⟩,?_⟩;unfold VlL;refine⟨⟨b0,b1,b2,b3,b4,hc 5,hc 6,hc 7,hc 8,hc 9,h2⟩,?_⟩;unfold VlL;refine⟨⟨c0,c1,c2,c3,c4,hc 10,hc 11,hc 12,hc 13,hc 14,h3⟩,?_⟩;unfold VlL
 trivial
theorem txV{l:Byt}{c:Value}(h:GbB base w c l):VlV true N w (.txt l) (.agg #[.int .i64 1,.bool false,.slice none 0 0,c,.slice none 0 0]):=by
 obtain⟨g0,cap0,hv0,-,hlt,-⟩:=h.form;unfold VlV;exact⟨_,_,_,rfl,⟨_,_,rfl⟩,⟨h.by,fun _=>⟨_,_,hv0,hlt⟩⟩,⟨_,_,rfl⟩⟩
theorem nuV{n:Int}{b:Bool}(h:jA N w (.agg #[.bool b,.slice A m k]) n):VlV true N w (.int n) (.agg #[.int .i64 0,.bool b,.slice A m k,.slice none 0 0,.slice none 0 0]):=by
 unfold VlV;exact⟨_,_,_,_,rfl,h,⟨_,_,rfl⟩,⟨_,_,rfl⟩⟩
theorem kE {s:Byt}(h:s.length<=65536):(enc (.txt s)).length<=s.length+7:=by
 have:=xA h;unfold enc
 simp
 omega
theorem xx {l:List Vl}(h:l.length<=65536):(enc (.lst l)).length<=(zV l).length+7:=by
 have:=xA h;unfold enc
 simp
 omega
theorem yR {B:Nat}(hB:B<=65536):∀l:List Byt,(∀s∈l,s.length<=B)->(zV (l.map .txt)).length<=l.length*(B+7)
 | [],_=>by unfold zV;simp
 | s :: l,h=>by
  have h1:=yR hB l (fun s hs=>h s (.tail _ hs));have h2:=h s (.head _);have h3:=kE (s:=s) (by omega);rw[List.map_cons];unfold zV;rw[List.length_append,List.length_cons,Nat.add_mul];omega
theorem XW:∀l:List Byt,(∀s∈l,s.length<=65536)->XX (l.map .txt)
 | [],_=>by unfold XX;trivial
 | s :: l,h=>by
  rw[List.map_cons];unfold XX jR;exact⟨h s (.head _),XW l (fun s hs=>h s (.tail _ hs))⟩
theorem Jm:∀l:List Byt,xG (l.map .txt)=0
 | []=>by unfold xG;rfl
 | s :: l=>by
  rw[List.map_cons];unfold xG zX;rw[Jm l]
  rfl
theorem Yv:∀l:List Byt,szL (l.map .txt)=l.length
 | []=>by unfold szL;rfl
 | s :: l=>by
  rw[List.map_cons];unfold szL szV;rw[Yv l,List.length_cons];omega
def okO (o:Ob):Prop:=o.links.length<=16/\o.data.length<=1024/\∀s∈o.links,s.length<=100
theorem Ko {o:Ob}(h:obC o=0):okO o:=by
 unfold obC at h
 split at h
 ·cases h
 ·rename_i h1
  split at h
  ·rename_i h2
   refine⟨by omega,by omega,fun s hs=>?_⟩;have h3:=List.all_eq_true.1 h2 s hs;unfold Ql at h3;rw[Bool.and_eq_true] at h3;have:=h3.1;simp at this
   omega
  ·cases h
def Fits (V:Vl):Prop:=zX V<=8/\jR V/\(enc V).length<=65536/\szV V<=1000000
theorem okO.lnk {o:Ob}(h:okO o):zX (ZE o)=1/\jR (ZE o)/\(enc (ZE o)).length<=2000/\szV (ZE o)<=100:=by
 obtain⟨h1,h2,h3⟩:=h;unfold ZE;refine⟨?_,?_,?_,?_⟩
 ·unfold zX;rw[Jm]
 ·unfold jR;exact⟨by rw[List.length_map];omega,XW _ (fun s hs=>by have:=h3 s hs;omega)⟩
 ·have e1:=xx (l:=o.links.map .txt) (by rw[List.length_map];omega);have e2:=yR (B:=100) (by omega) o.links h3;have e3:o.links.length*(100+7)<=16*107:=Nat.mul_le_mul h1 (by omega);omega
 ·unfold szV;rw[Yv];omega
theorem YY (z:Int) (h0:0<=z) (h9:z<10):(enc (.int z)).length=3:=by
 unfold enc;rw[Zc h0 h9]
 rfl
theorem okO.fits {o:Ob}(h:okO o) (z:Int) (h0:0<=z) (h9:z<10):Fits (.lst [.int z,ZE o,.txt o.data])/\(enc (.lst [.int z,ZE o,.txt o.data])).length<=4000:=by
 obtain⟨h1,h2,h3,h4⟩:=h.lnk;have h5:=h.2.1
 have h6:(enc (.lst [.int z,ZE o,.txt o.data])).length<=4000:=by
  have e1:=xx (l:=[.int z,ZE o,.txt o.data]) (by simp);have e2:=kE (s:=o.data) (by omega);have e3:=YY z h0 h9;simp only[zV,List.length_append,List.length_nil] at e1;omega
 refine⟨⟨?_,?_,by omega,?_⟩,h6⟩
 ·simp only[zX,xG,h1];omega
 ·simp only[jR,XX];exact⟨by simp,⟨h0,h9⟩,h2,by omega,trivial⟩
 ·simp only[szV,szL];omega
theorem okO.fits2 {o:Ob}(h:okO o):Fits (.lst [ZE o,.txt o.data]):=by
 obtain⟨h1,h2,h3,h4⟩:=h.lnk;have h5:=h.2.1;refine⟨?_,?_,?_,?_⟩
 ·simp only[zX,xG,h1];omega
 ·simp only[jR,XX];exact⟨by simp,h2,by omega,trivial⟩
 ·have e1:=xx (l:=[ZE o,.txt o.data]) (by simp);have e2:=kE (s:=o.data) (by omega);simp only[zV,List.length_append,List.length_nil] at e1;omega
 ·simp only[szV,szL];omega
def okT (t:Tg):Prop:=t.name.length<=300/\t.target.length<=300
theorem okT.fits {t:Tg}(h:okT t) (z:Int) (h0:0<=z) (h9:z<10):Fits (.lst [.int z,.txt t.name,.txt t.target])/\(enc (.lst [.int z,.txt t.name,.txt t.target])).length<=1000:=by
 obtain⟨h1,h2⟩:=h
 have h6:(enc (.lst [.int z,.txt t.name,.txt t.target])).length<=1000:=by
  have e1:=xx (l:=[.int z,.txt t.name,.txt t.target]) (by simp);have e2:=kE (s:=t.name) (by omega);have e4:=kE (s:=t.target) (by omega);have e3:=YY z h0 h9;simp only[zV,List.length_append,List.length_nil] at e1;omega
 refine⟨⟨?_,?_,by omega,?_⟩,h6⟩
 ·simp only[zX,xG];omega
 ·simp only[jR,XX];exact⟨by simp,⟨h0,h9⟩,by omega,by omega,trivial⟩
 ·simp only[szV,szL];omega
theorem jB(HT:x9){V:Vl}(hv:VlV true N w V v) (hf:Fits V) (ht:kG w):Calls Tryz.prog 70 #[v] w (q1a w (enc V)):=by
 have HV:=q_h hv;obtain⟨kz,nb,A1,n1,c1,A2,n2,c2,A3,n3,c3,rfl⟩:=hv.cells;have HF:=q_h hf;have HTB:=q_h ht;clear hv hf ht;go_enter Tryz.func70,Tryz.ntmps70;go_upto_region 1 with (fail);refine qo ?_;intro w1 hE hsz B0;obtain⟨p0,p1,p2,p3,p4⟩:=qA B0;go_wp2_with (go_at_call 134;refine q_o ?_);refine (KR HT (HV.out.ext hE) HF.out.1 HF.out.2.1 (HTB.out.ext hE) HF.out.2.2.1).mono ?_;rintro e w2 ⟨v2,rfl,hG2,e2⟩;have HG2:Hid (GrB w.heap.size w2 v2 (enc V)):=qB.low hG2 hE.size;have HX2:=q_h (hE.trans e2);clear hG2 p0 p1 p2 p3 p4;go_wp2;go_ret;exact⟨_,rfl,HG2.out,HX2.out⟩
theorem Qw (HT:x9){o:Ob}{x y:Value}(h:ObR w x y o) (ho:okO o) (ht:kG w):Calls Tryz.prog 62 #[.agg #[x,y]] w (q1a w (obE o)):=by
 have HO:=q_h h;have HK:=q_h ho;have HTB:=q_h ht;obtain⟨A0,c0,rfl,-⟩:=h.1.form;obtain⟨A9,c9,rfl,-⟩:=h.2.form;obtain⟨n0,hn0⟩:=qf o.links.length;obtain⟨n9,hn9⟩:=qf o.data.length;rw[<-hn0.out,<-hn9.out] at HO ⊢;obtain⟨s0,hs0⟩:=qf (sV o.data);clear h ho ht;go_enter Tryz.func62,Tryz.ntmps62;go_upto_region 1 with (fail);refine qo ?_;intro W hE hsz B0;obtain⟨p0,p1,-⟩:=cells2 B0
 have HT5:Hid (∀w',Ext W w'->(convert 27 9 (.slice A9 n9 c9)).run Tryz.prog w'=.ok s0 w'):=fun w' e=>by
  rw[hs0.out];exact ku (HO.out.2.ext (hE.trans e))
 have HC0:Hid (Ext W W.drew):=(Ext.refl W).drew;have HN:Hid (W.heap.size<=W.drew.heap.size):=q_r;have eC:=And.intro (HC0.out.cell p0) (And.intro (HC0.out.cell p1) (HT5.out _ HC0.out));refine ql (fun w'=>w'.cell? ⟨w.heap.size,0,none⟩=some (.slice A0 n0 c0)/\w'.cell? ⟨w.heap.size,1,none⟩=some (.slice A9 n9 c9)/\(convert 27 9 (.slice A9 n9 c9)).run Tryz.prog w'=.ok s0 w') [] (by kernel_rfl) (by exact eC) (fun hHeld=>?_);refine sT 1 (h:=?_);refine sP 3 (h:=?_);refine sT 4 (h:=?_);refine sT 5 (hy:=by (intro w9 hSw;have c9:=hSw.2.2;go_simp;(try (rw[if_pos (by omega)]));(try with_reducible rfl))) (h:=?_);refine qg (i:=0) rfl (by kernel_rfl) (fun K hK=>?_);go_simp;refine (wH (N:=W.heap.size) HN.out 0 (by omega) (by omega)).mono ?_;rintro e w2 ⟨nb,A1,m1,k1,rfl,hI,e2⟩;have HV1:=q_h (nuV hI);have HC2:=q_h (HC0.out.trans e2);replace eC:=And.intro (e2.cell eC.1) (And.intro (e2.cell eC.2.1) (HT5.out _ HC2.out));clear hI e2;go_wp2_with fail;clear hHeld;refine hK.out _ _ (by exact eC) fun hHeld=>?_
 clear hK K;try simp only[nr]
 refine qg (i:=2) rfl (by kernel_rfl) (fun K hK=>?_);go_simp;refine (ZP (HO.out.ext (hE.trans HC2.out)) (by have:=HK.out.1;omega) (fun s hs=>by have:=HK.out.2.2 s hs;omega)).mono ?_;rintro e w3 ⟨A2,n2,k2,rfl,hLk,e3⟩;have HV2:=q_h (hLk W.heap.size);have HV13:=q_h (HV1.out.ext e3);have HC3:=q_h (HC2.out.trans e3);replace eC:=And.intro (e3.cell eC.1) (And.intro (e3.cell eC.2.1) (HT5.out _ HC3.out));clear hLk e3 HV1;go_wp2_with fail;clear hHeld;refine hK.out _ _ (by exact eC) fun hHeld=>?_
 clear hK K;try simp only[nr]
 refine qg (i:=6) rfl (by kernel_rfl) (fun K hK=>?_);go_simp;rw[hs0.out];refine (xP (l:=o.data) (by have:=HK.out.2.1;omega)).mono ?_;rintro e w4 ⟨c4,rfl,hG4,e4⟩;have HV3:=q_h (txV (N:=W.heap.size) hG4);obtain⟨g4,cap4,rfl,-⟩:=hG4.form;have HV14:=q_h (HV13.out.ext e4);have HV24:=q_h (HV2.out.ext e4);have HC4:=q_h (HC3.out.trans e4);replace eC:=And.intro (e4.cell eC.1) (And.intro (e4.cell eC.2.1) (HT5.out _ HC4.out));clear HV13 HV2 hG4 e4;go_wp2_with fail;clear hHeld;refine hK.out _ _ (by exact eC) fun hHeld=>?_
 clear hK K;try simp only[nr]
 refine qg (i:=7) rfl (by kernel_rfl) (fun K hK=>?_);go_simp
 first|refine qo ?_|refine qY ?_
 intro w5 e5 hsz5 BJ;have HVV:=q_h (WW BJ (HV14.out.ext e5) (HV24.out.ext e5) (HV3.out.ext e5));have HC5:=q_h (HC4.out.trans e5);replace eC:=And.intro (e5.cell eC.1) (And.intro (e5.cell eC.2.1) (HT5.out _ HC5.out));clear HV14 HV24 HV3 BJ e5;clear hHeld;refine hK.out _ _ (by exact eC) fun hHeld=>?_
 clear hK K;try simp only[nr]
 refine qg (i:=8) rfl (by kernel_rfl) (fun K hK=>?_);go_simp;refine jM.mono ?_;rintro e w6 ⟨rfl,e6⟩;have HV6:=q_h (HVV.out.ext e6);have HC6:=q_h (HC5.out.trans e6);replace eC:=And.intro (e6.cell eC.1) (And.intro (e6.cell eC.2.1) (HT5.out _ HC6.out));clear HVV e6;go_wp2_with fail;clear hHeld;refine hK.out _ _ (by exact eC) fun hHeld=>?_
 clear hK K;try simp only[nr]
 refine qg (i:=9) rfl (by kernel_rfl) (fun K hK=>?_);go_simp;refine (jB HT HV6.out (HK.out.fits 0 (by omega) (by omega)).1 (HTB.out.ext (hE.trans HC6.out))).mono ?_;rintro e w7 ⟨v7,rfl,hG7,e7⟩;have HG7:Hid (GrB w.heap.size w7 v7 (obE o)):=qB.low hG7 (hE.trans HC6.out).size;have HC7:=q_h (HC6.out.trans e7);replace eC:=And.intro (e7.cell eC.1) (And.intro (e7.cell eC.2.1) (HT5.out _ HC7.out));clear hG7 e7;go_wp2_with fail;clear hHeld;refine hK.out _ _ (by exact eC) fun hHeld=>?_
 clear hK K;try simp only[nr]
 refine sP 10 (h:=?_);refine qm (by kernel_rfl) ?_ _;clear hHeld;have HX:=q_h (hE.trans HC7.out);clear eC p0 p1;go_wp2;go_ret;exact⟨_,rfl,HG7.out,HX.out⟩
end
section
open Go.RowKit
def jG (w:World) (v:Value) (n:Nat) (l:List Byt):Prop:=n=l.length/\qZ w v l
def q0H (w:World) (v:Value) (n:Nat) (l:List Ob):Prop:=n=l.length/\yJ w v l
def Yh (w:World) (v:Value) (n:Nat) (l:List Tg):Prop:=n=l.length/\jK w v l
section
variable {w w':World}{v:Value}{n:Nat}
theorem jG.form {l:List Byt}(h:jG w v n l):∃A c,v=.slice A n c/\n<=c/\c<=maxLen:=by rw[h.1];exact h.2.form
theorem q0H.form {l:List Ob}(h:q0H w v n l):∃A c,v=.slice A n c/\n<=c/\c<=maxLen:=by rw[h.1];exact h.2.form
theorem Yh.form {l:List Tg}(h:Yh w v n l):∃A c,v=.slice A n c/\n<=c/\c<=maxLen:=by rw[h.1];exact h.2.form
theorem jG.ext {l:List Byt}(h:jG w v n l) (e:Ext w w'):jG w' v n l:=⟨h.1,h.2.ext e⟩
theorem q0H.ext {l:List Ob}(h:q0H w v n l) (e:Ext w w'):q0H w' v n l:=⟨h.1,h.2.ext e⟩
theorem Yh.ext {l:List Tg}(h:Yh w v n l) (e:Ext w w'):Yh w' v n l:=⟨h.1,h.2.ext e⟩
theorem jG.addr{l:List Byt}(h:jG w (.slice A n c) n l) (h0:0<n):∃g off,A=some ⟨g,off,none⟩/\∀i,i<n->∃u,w.cell? ⟨g,off+i,none⟩=some u/\Hid (u=sV (l.getD i [])):=by
 obtain⟨rfl,h⟩:=h;exact Qm.addr h h0
theorem q0H.addr{l:List Ob}(h:q0H w (.slice A n c) n l) (h0:0<n):∃g off,A=some ⟨g,off,none⟩/\∀i,i<n->∃A1 n1 c1 A2 n2 c2,w.cell? ⟨g,off+i*2,none⟩=some (.slice A1 n1 c1)/\w.cell? ⟨g,off+i*2+1,none⟩=some (.slice A2 n2 c2)/\ObV w (.agg #[.slice A1 n1 c1,.slice A2 n2 c2]) (l.getD i default):=by
 obtain⟨rfl,h⟩:=h;obtain⟨g,off,h1,h2⟩:=KY.addr h h0;refine⟨g,off,h1,fun i hi=>?_⟩;obtain⟨x,y,h3,h4,h5⟩:=h2 i hi;obtain⟨A1,c1,rfl,-⟩:=h5.1.form;obtain⟨A2,c2,rfl,-⟩:=h5.2.form;exact⟨_,_,_,_,_,_,h3,h4,_,_,rfl,h5⟩
theorem Yh.addr{l:List Tg}(h:Yh w (.slice A n c) n l) (h0:0<n):∃g off,A=some ⟨g,off,none⟩/\∀i,i<n->∃x1 x2,w.cell? ⟨g,off+i*2,none⟩=some x1/\w.cell? ⟨g,off+i*2+1,none⟩=some x2/\Hid (.agg #[x1,x2]=Value.agg #[sV (l.getD i default).name,sV (l.getD i default).target]):=by
 obtain⟨rfl,h⟩:=h;obtain⟨g,off,h1,h2⟩:=KY.addr h h0;refine⟨g,off,h1,fun i hi=>?_⟩;obtain⟨x,y,h3,h4,rfl,rfl⟩:=h2 i hi;exact⟨_,_,h3,h4,rfl⟩
end
theorem vU (l:List Byt) (p:Byt->Bool):kH l.length (fun i=>!p (l.getD i []))=!l.all p:=by
 cases h:l.all p with
 | true =>
  refine zg.2 fun i hi=>?_
  rw[List.getD_eq_getElem?_getD,List.getElem?_eq_getElem hi];rw[List.all_eq_true] at h;simpa using h _ (List.getElem_mem hi)
 | false =>
  rw[List.all_eq_false] at h;obtain⟨s,hs,h1⟩:=h;obtain⟨i,hi,rfl⟩:=List.getElem_of_mem hs;refine zF hi ?_;rw[List.getD_eq_getElem?_getD,List.getElem?_eq_getElem hi];simpa using h1
theorem X8 {l:Byt}(hl:l.length<=9223372036854775807):Calls Tryz.prog 67 #[sV l] w (qH w (.bool (!Ql l))):=by
 obtain⟨r,hr⟩:=qf (Ql l);rw[<-hr.out];have HC:=KQ ⟨l.toArray⟩ (by show l.toArray.size<=_;rw[List.size_toArray];exact hl);rw[wC,<-hr.out] at HC;obtain⟨s0,hs0⟩:=qf (⟨l.toArray⟩:ByteArray);have e0:sV l=.string s0:=by rw[hs0.out];rfl
 rw[e0];rw[<-hs0.out] at HC;go_enter Tryz.func67,Tryz.ntmps67;go_wp2_with (go_at_call 68;refine q_o ?_);refine (HC w).mono ?_;rintro e w1 ⟨rfl,e1⟩;go_wp2;go_ret;exact⟨rfl,e1⟩
theorem Xp {l:Byt}(hl:l.length<=9223372036854775807):Calls Tryz.prog 74 #[sV l] w (qH w (.bool (!Ql l))):=by
 obtain⟨r,hr⟩:=qf (Ql l);rw[<-hr.out];have HC:=QF ⟨l.toArray⟩ (by show l.toArray.size<=_;rw[List.size_toArray];exact hl);rw[wC,<-hr.out] at HC;obtain⟨s0,hs0⟩:=qf (⟨l.toArray⟩:ByteArray);have e0:sV l=.string s0:=by rw[hs0.out];rfl
 rw[e0];rw[<-hs0.out] at HC;go_enter Tryz.func74,Tryz.ntmps74;go_wp2_with (go_at_call 75;refine q_o ?_);refine (HC w).mono ?_;rintro e w1 ⟨rfl,e1⟩;go_wp2;go_ret;exact⟨rfl,e1⟩
theorem Xd{l:List Byt}(h:jG w v n l)  (g:Nat->Bool)
  (hf:∀i,i<n->∀w' u,Ext w w'->Hid (u=sV (l.getD i []))->Calls Tryz.prog 67 #[u] w' (qH w' (.bool (g i)))) :
  Calls Tryz.prog 125 #[v,.func (.func 67) #[] #[]] w (yt w (kH n g)):=by
 obtain⟨r,hr⟩:=qf (kH n g);rw[<-hr.out];obtain⟨A,c,rfl,hnc,hcm⟩:=h.form;unfold maxLen at hcm;have hI:=h;have HF:=q_h hf;clear h hf;go_enter Tryz.func125,Tryz.ntmps125;go_wp2
 go_loopw [8] (fun i wr=>∃k:Nat,k<=n/\i=.int .i64 k/\Hid (∀j,j<k->g j=false)/\Ext w wr) (fun i _=>n-(intOf i).toNat)
 case atStart=>exact⟨0,Nat.zero_le _,rfl,fun j hj=>absurd hj (by omega),Ext.refl w⟩
 case round =>
  obtain⟨k,hk,rfl,HA,hE⟩:=hrel
  by_cases hlt:k<n
  ·(obtain⟨b,off,rfl,hx⟩:=(hI.ext hE).addr (by omega));(obtain⟨u,p0,hv⟩:=hx k hlt)
   clear hx;go_wp2_with (go_at_call 67;refine q_o ?_);refine (HF.out k hlt _ _ hE hv).mono ?_;rintro e w1 ⟨rfl,e1⟩;replace hE:=hE.trans e1;obtain⟨o,ho⟩:=qf (g k);rw[<-ho.out];cases o with
   | false =>
    go_wp2;go_roundw
    case rel=>exact⟨k+1,by omega,by go_num,kw (p:=fun j=>g j=false) HA.out ho.out.symm,hE⟩
    case measure=>simp[intOf];omega
   | true =>
    have HT:Hid (r=true):=by rw[Hid,hr.out];exact zF hlt ho.out.symm
    go_wp2;go_ret;exact⟨_,rfl,by rw[Hid,HT.out];symm;simp,hE⟩
  ·have HT:Hid (r=false):=by rw[Hid,hr.out];exact zg.2 (fun j hj=>HA.out j (by omega))
   go_wp2;go_ret;exact⟨_,rfl,by rw[Hid,HT.out];rfl,hE⟩
theorem JS{l:List Byt}(h:jG w v n l)  (g:Nat->Bool)
  (hf:∀i,i<n->∀w' u,Ext w w'->Hid (u=sV (l.getD i []))->Calls Tryz.prog 67 #[u] w' (qH w' (.bool (g i)))) :
  Calls Tryz.prog 56 #[v,.func (.func 67) #[] #[]] w (qH w (.bool (kH n g))):=by
 obtain⟨r,hr⟩:=qf (kH n g);rw[<-hr.out];obtain⟨A,c,rfl,hnc,hcm⟩:=h.form;have hI:=h;have HF:=q_h hf;clear h hf;go_enter Tryz.func56,Tryz.ntmps56;go_wp2_with (go_at_call 125;refine q_o ?_);refine (Xd hI  g HF.out).mono ?_;rintro e w1 ⟨z,rfl,hz,e1⟩;rw[<-hr.out] at hz;go_wp2;go_ret;exact⟨qx hz.out.symm,e1⟩
theorem Xe{l:List Byt}(h:jG w v n l)  (g:Nat->Bool)
  (hf:∀i,i<n->∀w' u,Ext w w'->Hid (u=sV (l.getD i []))->Calls Tryz.prog 74 #[u] w' (qH w' (.bool (g i)))) :
  Calls Tryz.prog 125 #[v,.func (.func 74) #[] #[]] w (yt w (kH n g)):=by
 obtain⟨r,hr⟩:=qf (kH n g);rw[<-hr.out];obtain⟨A,c,rfl,hnc,hcm⟩:=h.form;unfold maxLen at hcm;have hI:=h;have HF:=q_h hf;clear h hf;go_enter Tryz.func125,Tryz.ntmps125;go_wp2
 go_loopw [8] (fun i wr=>∃k:Nat,k<=n/\i=.int .i64 k/\Hid (∀j,j<k->g j=false)/\Ext w wr) (fun i _=>n-(intOf i).toNat)
 case atStart=>exact⟨0,Nat.zero_le _,rfl,fun j hj=>absurd hj (by omega),Ext.refl w⟩
 case round =>
  obtain⟨k,hk,rfl,HA,hE⟩:=hrel
  by_cases hlt:k<n
  ·(obtain⟨b,off,rfl,hx⟩:=(hI.ext hE).addr (by omega));(obtain⟨u,p0,hv⟩:=hx k hlt)
   clear hx;go_wp2_with (go_at_call 74;refine q_o ?_);refine (HF.out k hlt _ _ hE hv).mono ?_;rintro e w1 ⟨rfl,e1⟩;replace hE:=hE.trans e1;obtain⟨o,ho⟩:=qf (g k);rw[<-ho.out];cases o with
   | false =>
    go_wp2;go_roundw
    case rel=>exact⟨k+1,by omega,by go_num,kw (p:=fun j=>g j=false) HA.out ho.out.symm,hE⟩
    case measure=>simp[intOf];omega
   | true =>
    have HT:Hid (r=true):=by rw[Hid,hr.out];exact zF hlt ho.out.symm
    go_wp2;go_ret;exact⟨_,rfl,by rw[Hid,HT.out];symm;simp,hE⟩
  ·have HT:Hid (r=false):=by rw[Hid,hr.out];exact zg.2 (fun j hj=>HA.out j (by omega))
   go_wp2;go_ret;exact⟨_,rfl,by rw[Hid,HT.out];rfl,hE⟩
theorem JU{l:List Byt}(h:jG w v n l)  (g:Nat->Bool)
  (hf:∀i,i<n->∀w' u,Ext w w'->Hid (u=sV (l.getD i []))->Calls Tryz.prog 74 #[u] w' (qH w' (.bool (g i)))) :
  Calls Tryz.prog 56 #[v,.func (.func 74) #[] #[]] w (qH w (.bool (kH n g))):=by
 obtain⟨r,hr⟩:=qf (kH n g);rw[<-hr.out];obtain⟨A,c,rfl,hnc,hcm⟩:=h.form;have hI:=h;have HF:=q_h hf;clear h hf;go_enter Tryz.func56,Tryz.ntmps56;go_wp2_with (go_at_call 125;refine q_o ?_);refine (Xe hI  g HF.out).mono ?_;rintro e w1 ⟨z,rfl,hz,e1⟩;rw[<-hr.out] at hz;go_wp2;go_ret;exact⟨qx hz.out.symm,e1⟩
end
section
open Go.RowKit
theorem VB (s:Nat×Nat) (c:UInt8):(dgS s c).1<18446744073709551616/\(dgS s c).2<18446744073709551616:=by
 unfold dgS;exact⟨VA _ _,Vz c.toNat_lt⟩
theorem VC (c:UInt8) (l:Byt) (s:Nat×Nat):jJ (c :: l) s=jJ l (dgS s c):=by unfold jJ;exact List.foldl_cons ..
theorem q0b (l:Byt):∀(s:Nat×Nat),s.1<18446744073709551616->s.2<18446744073709551616->(jJ l s).1<18446744073709551616/\(jJ l s).2<18446744073709551616:=by
 induction l with
 | nil=>intro s h1 h2;exact⟨h1,h2⟩
 | cons c l ih =>
  intro s _ _;rw[VC];exact ih _ (VB s c).1 (VB s c).2
theorem VD (l:Byt):(jJ l dg0).1<18446744073709551616/\(jJ l dg0).2<18446744073709551616:=q0b l dg0 (by show (14695981039346656037:Nat)<18446744073709551616;decide) (by show (1099511628211:Nat)<18446744073709551616;decide)
theorem ZY {x y:Nat}(hx:x<18446744073709551616) (hy:y<18446744073709551616) (ch:UInt8) (w:World) :
  Calls Tryz.prog 217 #[.int .u64 (x:Int),.int .u64 (y:Int),.int .u8 (ch.toNat:Int)] w (qH w (.tuple #[.int .u64 ((dgX x ch.toNat:Nat):Int),.int .u64 ((dgY x y ch.toNat:Nat):Int)])):=by
 obtain⟨X,hX⟩:=qf (x:Int);obtain⟨Y,hY⟩:=qf (y:Int);obtain⟨c,hcc⟩:=qf (ch.toNat:Int);obtain⟨x',hx'⟩:=qf (((dgX x ch.toNat:Nat):Int));obtain⟨y',hy'⟩:=qf (((dgY x y ch.toNat:Nat):Int));rw[<-hX.out,<-hY.out,<-hcc.out,<-hx'.out,<-hy'.out];have hc:0<=c/\c<=255:=by have:=ch.toNat_lt;have:=hcc.out;omega
 have hUX:U64 X:=by rw[hX.out];exact wo hx
 have hUY:U64 Y:=by rw[hY.out];exact wo hy
 have t0:IntKind.u64.wrap c=c:=by rw[wrap64];omega
 obtain⟨xc,hxc⟩:=qf (bits .xor .u64 X c);have t1:=hxc.out.symm
 have t2:IntKind.u64.wrap (xc*1099511628211)=x':=by
  rw[hxc.out,q17 hUX hc,hx'.out,hX.out,hcc.out,Int.toNat_natCast,Int.toNat_natCast]
 obtain⟨r,hr⟩:=qf (((q1l Y.toNat:Nat):Int));have t3:bits .or .u64 (IntKind.u64.wrap (Y*32)) (Y / 576460752303423488)=r:=by rw[hr.out];exact q0R hUY
 obtain⟨v,hv⟩:=qf (IntKind.u64.wrap (r+x'));have t4:=hv.out.symm
 have t5:bits .xor .u64 v c=y':=by
  have h9:=q15 (x:=X) (y:=Y) hc;rw[hv.out,hr.out,hx'.out,hy'.out];rw[hX.out,hY.out,Int.toNat_natCast,Int.toNat_natCast,hcc.out,Int.toNat_natCast] at h9;rw[hY.out,Int.toNat_natCast,hcc.out];exact h9
 clear hUX hUY hc hX hY hcc;go_enter Tryz.func217,Tryz.ntmps217;go_wp2
 first|go_ret2|skip
 exact⟨rfl,Ext.refl _⟩
def dgE (l:Byt) (i:Nat):Array Value:=((List.range 16).map fun j=>Value.int .u8 (if (j<8/\8<=j+i)\/16<=j+i then ((dgB l j:Nat):Int) else 0)).toArray
theorem Zm (l:Byt) (i:Nat):(dgE l i).size=16:=by unfold dgE;rw[List.size_toArray,List.length_map,List.length_range]
theorem Zn (l:Byt) (i:Nat)(h:j<16):(dgE l i)[j]?=some (Value.int .u8 (if (j<8/\8<=j+i)\/16<=j+i then ((dgB l j:Nat):Int) else 0)):=by
 unfold dgE;rw[List.getElem?_toArray,List.getElem?_map,List.getElem?_range h]
 rfl
theorem q1H (l:Byt)(h:i<8):((dgE l i).setIfInBounds (7-i) (.int .u8 ((dgB l (7-i):Nat):Int))).setIfInBounds (15-i) (.int .u8 ((dgB l (15-i):Nat):Int))=dgE l (i+1):=by
 apply Array.ext_getElem?
 intro j;rw[Array.getElem?_setIfInBounds,Array.getElem?_setIfInBounds,Array.size_setIfInBounds,Zm]
 by_cases h16:j<16
 ·rw[Zn l i h16,Zn l (i+1) h16]
  by_cases h1:15-i=j
  ·subst h1;rw[if_pos rfl,if_pos h16,if_pos (by omega)]
  ·rw[if_neg h1]
   by_cases h2:7-i=j
   ·subst h2;rw[if_pos rfl,if_pos h16,if_pos (by omega)]
   ·rw[if_neg h2]
    by_cases h3:(j<8/\8<=j+i)\/16<=j+i
    ·rw[if_pos h3,if_pos (by omega)]
    ·rw[if_neg h3,if_neg (by omega)]
 ·rw[Array.getElem?_eq_none (by rw[Zm];omega),Array.getElem?_eq_none (by rw[Zm];omega),if_neg (by omega),if_neg (by omega)]
theorem q0d (l:Byt):dgE l 8=dgC l:=by
 unfold dgE dgC
 have e:(List.range 16).map (fun j=>Value.int .u8 (if (j<8/\8<=j+8)\/16<=j+8 then ((dgB l j:Nat):Int) else 0))=(List.range 16).map fun i=>Value.int .u8 ((dgB l i:Nat):Int):=by
  refine List.map_congr_left fun j hj=>?_
  rw[List.mem_range] at hj;rw[if_pos (by omega)]
 rw[e]
theorem q1o {l:Byt}(h:ByV w v l):Calls Tryz.prog 180 #[v] w (qH w (.agg (dgC l))):=by
 obtain⟨A,c,rfl,hnc,hcm,hl⟩:=h;have HL:=q_h hl;unfold maxLen at hcm;obtain⟨n,hn⟩:=qf l.length;rw[<-hn.out] at HL hnc ⊢;clear hl;obtain⟨Q,hQ⟩:=qf (qH w (.agg (dgC l)));rw[<-hQ.out];go_enter Tryz.func180,Tryz.ntmps180;go_upto_region 1 with (fail);refine qo ?_;intro W hE hsz B0;have HB0:=q_h B0;have HE:=q_h hE;clear B0 hE;go_wp2_with fail
 go_loopw [5,3,4] (fun iv xv yv wr=>∃(i:Nat) (x y:Int),i<=n/\iv=.int .i64 (i:Int)/\xv=.int .u64 x/\yv=.int .u64 y/\Hid (x=((jJ (l.take i) dg0).1:Int))/\Hid (y=((jJ (l.take i) dg0).2:Int))/\Hid (Ext W wr)) (fun iv _ _ _=>n-(intOf iv).toNat)
 case atStart=>exact⟨0,14695981039346656037,1099511628211,Nat.zero_le _,rfl,rfl,rfl,rfl,rfl,Ext.refl _⟩
 case round =>
  obtain⟨i,x,y,hi9,rfl,rfl,rfl,HXX,HYY,HX⟩:=hrel
  by_cases hlt:i<n
  case pos =>
   have u1:decide ((i:Int)<(n:Int))=true:=q_t (by omega);have u1':decide (i<n)=true:=q_t hlt;have u2:(i:Int)<(n:Int):=by omega
   obtain⟨b,off,rfl,hx⟩:=HL.out (by omega);have p0:=HX.out.cell (HE.out.cell (hx i (by omega)));obtain⟨z,hz⟩:=qf (chZ l i);rw[<-hz.out] at p0;obtain⟨x',hx'⟩:=qf (((jJ (l.take (i+1)) dg0).1:Int));obtain⟨y',hy'⟩:=qf (((jJ (l.take (i+1)) dg0).2:Int))
   have HS:Hid (Calls Tryz.prog 217 #[.int .u64 x,.int .u64 y,.int .u8 z] wr (qH wr (.tuple #[.int .u64 x',.int .u64 y']))):=by
    have h9:=VD (l.take i);rw[HXX.out,HYY.out,hz.out,hx'.out,hy'.out,getD_take (by have:=hn.out;omega),yf];exact ZY h9.1 h9.2 (l.getD i 0) wr
   clear hx;go_wp2_with (go_at_call 217;refine q_o ?_);refine HS.out.mono ?_;rintro e w2 ⟨rfl,e2⟩;have HX2:=q_h (HX.out.trans e2);clear HS p0 HX e2 HXX HYY;go_wp2;go_roundw
   case rel=>exact⟨i+1,x',y',by omega,by go_num,rfl,rfl,hx',hy',HX2⟩
   case measure=>simp[intOf];omega
  have u1:decide ((i:Int)<(n:Int))=false:=q_f (by omega);have u1':decide (i<n)=false:=q_f hlt;have e:l.take i=l++(len8 n).take 0:=by rw[List.take_of_length_le (by have:=hn.out;omega)];simp
  rw[e] at HXX HYY;obtain⟨w3,hw3⟩:∃w3,w3=wr:=⟨_,rfl⟩
  subst hw3;have HX1:=HX;obtain⟨x0,hx0⟩:∃x0,x0=x:=⟨_,rfl⟩
  subst hx0;obtain⟨y0,hy0⟩:∃y0,y0=y:=⟨_,rfl⟩
  subst hy0;have HQ0:Hid ((n:Int)=((n / 2 ^ (8*0):Nat):Int)):=by rw[Hid];simp
  have u3:IntKind.u64.wrap (n:Int)=(n:Int):=by rw[wrap64];omega
  clear HX hlt hi9 e;go_wp2_with fail
  go_loopw [7,3,4,6] (fun iv xv yv nv wr=>∃(i:Nat) (x y q:Int),i<=8/\iv=.int .i64 (i:Int)/\xv=.int .u64 x/\yv=.int .u64 y/\nv=.int .u64 q/\Hid (q=((n / 2 ^ (8*i):Nat):Int))/\Hid (x=((jJ (l++(len8 n).take i) dg0).1:Int))/\Hid (y=((jJ (l++(len8 n).take i) dg0).2:Int))/\Hid (Ext W wr)) (fun iv _ _ _ _=>8-(intOf iv).toNat)
  case atStart=>exact⟨0,_,_,_,Nat.zero_le _,rfl,rfl,rfl,rfl,HQ0,HXX,HYY,HX1⟩
  case round =>
   clear HX1 HXX HYY u1 u1' HQ0;obtain⟨i,x,y,q,hi9,rfl,rfl,rfl,rfl,HQQ,HXX,HYY,HX⟩:=hrel
   by_cases hlt:i<8
   case pos =>
    have u1:decide ((i:Int)<8)=true:=q_t (by omega);have u1':decide (i<8)=true:=q_t hlt;obtain⟨z,hz⟩:=qf ((((len8 n).getD i 0).toNat:Int))
    have u5:IntKind.u8.wrap q=z:=by
     rw[hz.out,HQQ.out,len8_get hlt,UInt8.toNat_ofNat',QO];omega
    obtain⟨q2,hq2⟩:=qf (q / 256);have u6:=hq2.out.symm
    have HQ2:Hid (q2=((n / 2 ^ (8*(i+1)):Nat):Int)):=by
     rw[Hid,hq2.out,HQQ.out,show 8*(i+1)=8*i+8 by omega,Nat.pow_add,<-Nat.div_div_eq_div_mul];omega
    obtain⟨x',hx'⟩:=qf (((jJ (l++(len8 n).take (i+1)) dg0).1:Int));obtain⟨y',hy'⟩:=qf (((jJ (l++(len8 n).take (i+1)) dg0).2:Int))
    have HS:Hid (Calls Tryz.prog 217 #[.int .u64 x,.int .u64 y,.int .u8 z] wr (qH wr (.tuple #[.int .u64 x',.int .u64 y']))):=by
     have h9:=VD (l++(len8 n).take i);rw[HXX.out,HYY.out,hz.out,hx'.out,hy'.out,getD_take (by rw[vJ];exact hlt),<-List.append_assoc,yf];exact ZY h9.1 h9.2 ((len8 n).getD i 0) wr
    go_wp2_with (go_at_call 217;refine q_o ?_);refine HS.out.mono ?_;rintro e w2 ⟨rfl,e2⟩;have HX2:=q_h (HX.out.trans e2);clear HS HX e2 HXX HYY u5;go_wp2;go_roundw
    case rel=>exact⟨i+1,x',y',q2,by omega,by go_num,rfl,rfl,rfl,HQ2,hx',hy',HX2⟩
    case measure=>simp[intOf];omega
   have u1:decide ((i:Int)<8)=false:=q_f (by omega);have u1':decide (i<8)=false:=q_f hlt;have e:l++(len8 n).take i=l++len8 l.length:=by rw[List.take_of_length_le (by rw[vJ];omega),hn.out]
   rw[e] at HXX HYY;have HX0:Hid (x=(((dgW l).1 / 2 ^ (8*0):Nat):Int)):=by rw[Hid,HXX.out];simp;rfl
   have HY0:Hid (y=(((dgW l).2 / 2 ^ (8*0):Nat):Int)):=by rw[Hid,HYY.out];simp;rfl
   obtain⟨w4,hw4⟩:∃w4,w4=wr:=⟨_,rfl⟩
   subst hw4;have HX1:=HX;clear HX HXX HYY hlt hi9 e HQQ;go_upto_region 14 with (fail);refine qo ?_;intro w5 e5 hsz5 B5;obtain⟨g9,hg9⟩:=qf w4.heap.size;rw[<-hg9.out] at B5 ⊢;have HB5:Hid (w5.heap[g9]?=some (.cells (dgE l 0) 176 (0,0))):=B5;have HX5:Hid (Ext w4 w5):=e5;have hg9':w4.heap.size<=g9:=by rw[hg9.out];exact q_r
   clear B5 e5 hsz5 hg9;go_wp2_with fail
   go_loopw [9,3,4] (fun iv xv yv wr=>∃(i:Nat) (x y:Int),i<=8/\iv=.int .i64 (i:Int)/\xv=.int .u64 x/\yv=.int .u64 y/\Hid (x=(((dgW l).1 / 2 ^ (8*i):Nat):Int))/\Hid (y=(((dgW l).2 / 2 ^ (8*i):Nat):Int))/\Hid (Ext w4 wr)/\Hid (wr.heap[g9]?=some (.cells (dgE l i) 176 (0,0)))) (fun iv _ _ _=>8-(intOf iv).toNat)
   case atStart=>exact⟨0,_,_,Nat.zero_le _,rfl,rfl,rfl,HX0,HY0,HX5,HB5⟩
   case round =>
    clear HX5 HB5 u1 u1' HX0 HY0;obtain⟨i,x,y,hi9,rfl,rfl,rfl,HXX,HYY,HX,HB⟩:=hrel
    by_cases hlt:i<8
    case pos =>
     have u1:decide ((i:Int)<8)=true:=q_t (by omega);have u1':decide (i<8)=true:=q_t hlt;obtain⟨j7,hj7⟩:=qf (7-i);obtain⟨j15,hj15⟩:=qf (15-i);have h7:j7<16/\j7<8:=by have:=hj7.out;omega
     have h15:j15<16:=by have:=hj15.out;omega
     have hne:j7≠j15:=by have:=hj15.out;omega
     have u2:IntKind.i64.wrap (7-(i:Int))=(j7:Int):=by rw[wrp (by omega) (by omega)];have:=hj7.out;omega
     have u3:IntKind.i64.wrap (15-(i:Int))=(j15:Int):=by rw[wrp (by omega) (by omega)];have:=hj15.out;omega
     obtain⟨z1,hz1⟩:=qf (((dgB l (7-i):Nat):Int));obtain⟨z2,hz2⟩:=qf (((dgB l (15-i):Nat):Int))
     have u4:IntKind.u8.wrap x=z1:=by
      rw[hz1.out,HXX.out,QO];unfold dgB;rw[if_pos (by omega),show 56-8*(7-i)=8*i by omega];omega
     have u5:IntKind.u8.wrap y=z2:=by
      rw[hz2.out,HYY.out,QO];unfold dgB;rw[if_neg (by omega),show 56-8*(15-i-8)=8*i by omega];omega
     obtain⟨x2,hx2⟩:=qf (x / 256);obtain⟨y2,hy2⟩:=qf (y / 256);have u6:=hx2.out.symm;have u7':=hy2.out.symm
     have HX2:Hid (x2=(((dgW l).1 / 2 ^ (8*(i+1)):Nat):Int)):=by
      rw[Hid,hx2.out,HXX.out,show 8*(i+1)=8*i+8 by omega,Nat.pow_add,<-Nat.div_div_eq_div_mul];omega
     have HY2:Hid (y2=(((dgW l).2 / 2 ^ (8*(i+1)):Nat):Int)):=by
      rw[Hid,hy2.out,HYY.out,show 8*(i+1)=8*i+8 by omega,Nat.pow_add,<-Nat.div_div_eq_div_mul];omega
     have f0:=qp HB.out j7;have c0:=(qj HB.out j7).trans (Zn l i h7.1);obtain⟨wq,hwq⟩:∃wq,wq=wr:=⟨_,rfl⟩
     subst hwq;have HAS:=q_h (q1H l hlt);go_upto_region 18 with (fail);obtain⟨w6,E6,B6,U6⟩:=qL HB.out j7 (.int .u8 z1);rw[E6];have e6:=(U6.chg (NoU.mk HB.out (by decide))).ext HX.out hg9';clear f0 c0 E6;have f0:=qp B6 j15;have c0:w6.cell? ⟨g9,j15,none⟩=some _:=(qj B6 j15).trans (by rw[Array.getElem?_setIfInBounds,if_neg hne,Zn l i h15]);go_upto_region 19 with (fail);obtain⟨w7,E7,B7,U7⟩:=qL B6 j15 (.int .u8 z2);rw[E7];have HX7:Hid (Ext w4 w7):=(U7.chg (NoU.mk B6 (by decide))).ext e6 hg9'
     have HB7:Hid (w7.heap[g9]?=some (.cells (dgE l (i+1)) 176 (0,0))):=by
      rw[hz1.out,hz2.out,hj7.out,hj15.out,HAS.out] at B7;exact B7
     clear f0 c0 E7 B6 B7 U6 U7 e6 HB HX HXX HYY u2 u3 u4 u5;go_wp2;go_roundw
     case rel=>exact⟨i+1,x2,y2,by omega,by go_num,rfl,rfl,HX2,HY2,HX7,HB7⟩
     case measure=>simp[intOf];omega
    have u1:decide ((i:Int)<8)=false:=q_f (by omega);have u1':decide (i<8)=false:=q_f hlt
    have HR:Hid (wr.heap[g9]?=some (.cells (dgC l) 176 (0,0))):=by
     rw[<-q0d l,show 8=i by omega];exact HB.out
    obtain⟨w8,hw8⟩:∃w8,w8=wr:=⟨_,rfl⟩
    subst hw8;have HE8:=q_h (HX1.out.trans HX.out);have HB08:=q_h (HE8.out.block HB0.out);clear HB;go_upto_region 21 with (fail);refine wp_region_lit ?_;refine wpList_load_row rfl 176 _ rfl _ (by rfl) _ (dgC l) _ _ HR.out Tryz.underlying176 rfl (by rw[zS];exact xw) ?_;refine qh rfl 176 _ _ rfl (by rfl) (by rfl) HB08.out xw (zS l) (by rw[zS];rfl) (XD l) ?_;intro w9 B9 U9;go_wp2;refine bodyPost_ret (results_cell_row rfl _ _ _ _ _ _ _ rfl B9 Tryz.underlying176 rfl (by rw[zS];exact xw)) rfl ?_;rw[hQ.out];exact⟨rfl,(U9.chg (NoU.mk HB08.out (by decide))).ext (HE.out.trans HE8.out) (q_r)⟩
theorem WS {l:Byt}(h:ByV w v l):Calls Tryz.prog 136 #[v] w (qH w (sV (nmB l))):=by
 have HV:=q_h h;obtain⟨Q,hQ⟩:=qf (qH w (sV (nmB l)));rw[<-hQ.out];go_enter Tryz.func136,Tryz.ntmps136;go_upto_region 1 with (fail);refine wp_region_lit ?_;refine wpList_plain rfl (fun K hK=>?_);go_simp;refine hK _ _ ?_;clear hK K;try simp only[nr]
 refine wpList_plain rfl (fun K hK0=>?_);have hK:=q_h hK0;clear hK0;go_simp;refine (q1o HV.out).mono ?_;rintro e w1 ⟨rfl,e1⟩;go_wp2_with fail;refine hK.out _ _ ?_;clear hK K;try simp only[nr]
 refine wpList_plain rfl (fun K hK=>?_);go_simp;refine hK _ _ ?_;clear hK K;try simp only[nr]
 refine qo (F:=fun W=>wpList _ _ _ _ _ W) ?_;intro w2 e2 hsz2 B2;refine qh rfl 176 _ _ rfl (by rfl) (by rfl) B2 xw (zS l) (by rw[zS];rfl) (XD l) ?_;intro w3 B3 U3;have HE3:Hid (Ext w w3):=(U3.chg (NoU.mk B2 (by decide))).ext (e1.trans e2) e1.size;obtain⟨g,hg⟩:=qf w1.heap.size;rw[<-hg.out] at B3 ⊢;have HB3:=q_h B3;have hgw:w.heap.size<=g:=by rw[hg.out];exact e1.size
 have hg3:g<w3.heap.size:=qK B3;clear e1 e2 hsz2 B2 B3 U3 hg;try simp only[nr]
 go_upto_region 4 with (fail);refine qo ?_;intro w4 e4 hsz4 B4;have HG4:Hid (GrB w3.heap.size w4 (.slice (some ⟨w3.heap.size,0,none⟩) (2*0) 0) (nmP l 0)):=qB.empty (q_r) B4;have HE4:Hid (Ext w3 w4):=e4;clear e4 hsz4 B4;go_wp2_with fail
 go_loopw [6,5] (fun iv tv wr=>∃(i:Nat) (A:Option Addr) (c:Nat),i<=16/\iv=.int .i64 (i:Int)/\tv=.slice A (2*i) c/\Hid (GrB w3.heap.size wr (.slice A (2*i) c) (nmP l i))/\Hid (Ext w3 wr)) (fun iv _ _=>16-(intOf iv).toNat)
 case atStart=>exact⟨0,_,0,Nat.zero_le _,rfl,rfl,HG4,HE4⟩
 case round =>
  clear HG4 HE4;obtain⟨i,A,c,hi9,rfl,rfl,HG,HE⟩:=hrel
  by_cases hlt:i<16
  case pos =>
   have u1:decide ((i:Int)<16)=true:=q_t (by omega);have u1':decide (i<16)=true:=q_t hlt;obtain⟨z,hz⟩:=qf (((dgB l i:Nat):Int));have p0:w3.cell? ⟨g,i,none⟩=some (.int .u8 z):=by rw[qj HB3.out,q1I l hlt,hz.out]
   have hdb:dgB l i<256:=Nat.mod_lt _ (by decide);have hzb:0<=z/\z<256:=by have:=hz.out;omega
   obtain⟨a,ha⟩:=qf (((dgB l i / 16:Nat):Int));obtain⟨b,hb⟩:=qf (((dgB l i % 16:Nat):Int));have u2:z / 16=a:=by rw[hz.out,ha.out];omega
   have u2':z.tdiv 16=a:=by rw[Int.tdiv_eq_ediv_of_nonneg hzb.1];exact u2
   have u3:z % 16=b:=by rw[hz.out,hb.out];omega
   have u3':z.tmod 16=b:=by rw[Int.tmod_eq_emod_of_nonneg hzb.1];exact u3
   have u8a:IntKind.u8.wrap a=a:=by rw[QO];omega
   have u8b:IntKind.u8.wrap b=b:=by rw[QO];omega
   obtain⟨z1,hz1⟩:=qf (((Xv (dgB l i / 16)).toNat:Int));obtain⟨z2,hz2⟩:=qf (((Xv (dgB l i % 16)).toNat:Int))
   have u4:∀w,(Instr.index 9 (.string ⟨#[48,49,50,51,52,53,54,55,56,57,97,98,99,100,101,102]⟩) (.int .u8 a)).run Tryz.prog w=.ok (.int .u8 z1) w:=by
    rw[ha.out,hz1.out];exact QV (by omega)
   have u5:∀w,(Instr.index 9 (.string ⟨#[48,49,50,51,52,53,54,55,56,57,97,98,99,100,101,102]⟩) (.int .u8 b)).run Tryz.prog w=.ok (.int .u8 z2) w:=by
    rw[hb.out,hz2.out];exact QV (by omega)
   obtain⟨wq,hwq⟩:∃wq,wq=wr:=⟨_,rfl⟩
   subst hwq;go_upto_region 7 with (fail);have eC:=HE.out.drew;refine ql (fun w'=>w'.cell? ⟨g,i,none⟩=some (.int .u8 z)) [] (by kernel_rfl) (by exact eC.cell p0) (fun hHeld=>?_);refine sP 0 (h:=?_);refine sP 1 (h:=?_);refine sP 2 (h:=?_);refine sP 3 (h:=?_);refine sT 4 (h:=?_);refine sP 5 (h:=?_);refine sP 6 (h:=?_);refine sP 7 (h:=?_);refine sP 8 (h:=?_);refine sP 9 (h:=?_);refine sT 10 (h:=?_);refine sP 11 (h:=?_);refine sP 12 (h:=?_);refine qg (i:=13) rfl (by kernel_rfl) (fun K hK=>?_);go_simp;refine qo (F:=fun W=>K _ W.drew) ?_;intro w6 e6 hsz6 B6;replace eC:Ext w3 w6.drew:=(HE.out.trans e6).drew;have hG6:GrB w3.heap.size w6.drew (.slice A (2*i) c) (nmP l i):=qB.ext HG.out e6.drew;have b6:w6.drew.heap[wq.heap.size]?=some (.cells #[.int .u8 z1,.int .u8 z2] 5 (0,0)):=B6;clear hHeld;refine hK.out _ _ (by exact eC.cell p0) fun hHeld=>?_
   clear hK K;try simp only[nr]
   refine qg (i:=14) rfl (by kernel_rfl) (fun K hK=>?_);refine xe kX _ _ 27 Tryz.underlying27 rfl (by rfl) hG6 (m:=2) (c:=2) (news:=[.int .u8 z1,.int .u8 z2]) (by rfl) rfl (Yr b6) Yq (by omega) (by rw[qy,yD];omega) ?_;intro g7 cap w7 hG7 _ ⟨g',hg',_,C7,_⟩;replace eC:=C7.ext eC hg';clear hHeld;refine hK.out _ _ (by exact eC.cell p0) fun hHeld=>?_
   clear hK K;try simp only[nr]
   refine sP 15 (h:=?_);refine qm (by kernel_rfl) ?_ _;clear hHeld
   have HG2:Hid (GrB w3.heap.size w7 (.slice (some ⟨g7,0,none⟩) (2*(i+1)) cap) (nmP l (i+1))):=by
    rw[qy,yD] at hG7;unfold GrB;rw[Hid,Ja,zY,VR,<-hz1.out,<-hz2.out];exact hG7
   have HE2:Hid (Ext w3 w7):=eC;rw[qy,yD];clear hG7 C7 eC HG HE u2 u2' u3 u3' u4 u5 u8a u8b p0;go_wp2;go_roundw
   case rel=>exact⟨i+1,_,cap,by omega,by go_num,rfl,HG2,HE2⟩
   case measure=>simp[intOf];omega
  have u1:decide ((i:Int)<16)=false:=q_f (by omega);have u1':decide (i<16)=false:=q_f hlt
  have HN:Hid (nmP l i=nmB l):=by
   rw[Hid,show i=16 by omega]
   rfl
  have hb:=GrB.by HG.out
  have hcv:=ku hb;obtain⟨sv,hsv⟩:=qf (sV (nmP l i));rw[<-hsv.out] at hcv;go_wp2
  show Q (Ending.returned sv) wr
  rw[hQ.out,hsv.out,HN.out];exact⟨rfl,HE3.out.trans HE.out⟩
theorem yB (HT:x9){t:Tg}(ho:okT t) (ht:kG w):Calls Tryz.prog 117 #[.agg #[sV t.name,sV t.target]] w (q1a w (tgE t)):=by
 have HK:=q_h ho;have HTB:=q_h ht;obtain⟨s0,hs0⟩:=qf (sV t.name);obtain⟨s1,hs1⟩:=qf (sV t.target);have f0:s0.oneCell'=true:=by rw[hs0.out];rfl
 have f1:s1.oneCell'=true:=by rw[hs1.out];rfl
 have g0:s0.cells=#[s0]:=by rw[hs0.out];rfl
 have g1:s1.cells=#[s1]:=by rw[hs1.out];rfl
 rw[<-hs0.out,<-hs1.out];clear ho ht;go_enter Tryz.func117,Tryz.ntmps117;go_upto_region 1 with (fail);refine qo ?_;intro W hE hsz B0;obtain⟨p0,p1,-⟩:=cells2 B0;have HN:Hid (W.heap.size<=W.drew.heap.size):=q_r;have eC:=(Ext.refl W).drew;refine ql (fun w'=>w'.cell? ⟨w.heap.size,0,none⟩=some (s0)/\w'.cell? ⟨w.heap.size,1,none⟩=some (s1)) [] (by kernel_rfl) (by exact⟨eC.cell p0,eC.cell p1⟩) (fun hHeld=>?_);refine sP 1 (h:=?_);refine sT 2 (h:=?_);refine sP 4 (h:=?_);refine sT 5 (h:=?_);refine qg (i:=0) rfl (by kernel_rfl) (fun K hK=>?_);go_simp;refine (wH (N:=W.heap.size) HN.out 1 (by omega) (by omega)).mono ?_;rintro e w2 ⟨nb,A1,m1,k1,rfl,hI,e2⟩;have HV1:=q_h (nuV hI);replace eC:=eC.trans e2;clear hI e2;go_wp2_with fail;clear hHeld;refine hK.out _ _ (by exact⟨eC.cell p0,eC.cell p1⟩) fun hHeld=>?_
 clear hK K;try simp only[nr]
 refine qg (i:=3) rfl (by kernel_rfl) (fun K hK=>?_);go_simp;rw[hs0.out];refine (xP (l:=t.name) (by have:=HK.out.1;omega)).mono ?_;rintro e w3 ⟨c3,rfl,hG3,e3⟩;have HV2:=q_h (txV (N:=W.heap.size) hG3);obtain⟨g3,cap3,rfl,-⟩:=hG3.form;have HV13:=q_h (HV1.out.ext e3);replace eC:=eC.trans e3;clear hG3 e3 HV1;go_wp2_with fail;clear hHeld;refine hK.out _ _ (by exact⟨eC.cell p0,eC.cell p1⟩) fun hHeld=>?_
 clear hK K;try simp only[nr]
 refine qg (i:=6) rfl (by kernel_rfl) (fun K hK=>?_);go_simp;rw[hs1.out];refine (xP (l:=t.target) (by have:=HK.out.2;omega)).mono ?_;rintro e w4 ⟨c4,rfl,hG4,e4⟩;have HV3:=q_h (txV (N:=W.heap.size) hG4);obtain⟨g4,cap4,rfl,-⟩:=hG4.form;have HV14:=q_h (HV13.out.ext e4);have HV24:=q_h (HV2.out.ext e4);replace eC:=eC.trans e4;clear HV13 HV2 hG4 e4;go_wp2_with fail;clear hHeld;refine hK.out _ _ (by exact⟨eC.cell p0,eC.cell p1⟩) fun hHeld=>?_
 clear hK K;try simp only[nr]
 refine qg (i:=7) rfl (by kernel_rfl) (fun K hK=>?_);go_simp
 first|refine qo ?_|refine qY ?_
 intro w5 e5 hsz5 BJ;have HVV:=q_h (WW BJ (HV14.out.ext e5) (HV24.out.ext e5) (HV3.out.ext e5));replace eC:=eC.trans e5;clear HV14 HV24 HV3 BJ e5;clear hHeld;refine hK.out _ _ (by exact⟨eC.cell p0,eC.cell p1⟩) fun hHeld=>?_
 clear hK K;try simp only[nr]
 refine qg (i:=8) rfl (by kernel_rfl) (fun K hK=>?_);go_simp;refine jM.mono ?_;rintro e w6 ⟨rfl,e6⟩;have HV6:=q_h (HVV.out.ext e6);replace eC:=eC.trans e6;clear HVV e6;go_wp2_with fail;clear hHeld;refine hK.out _ _ (by exact⟨eC.cell p0,eC.cell p1⟩) fun hHeld=>?_
 clear hK K;try simp only[nr]
 refine qg (i:=9) rfl (by kernel_rfl) (fun K hK=>?_);go_simp;refine (jB HT HV6.out (HK.out.fits 1 (by omega) (by omega)).1 (HTB.out.ext (hE.trans eC))).mono ?_;rintro e w7 ⟨v7,rfl,hG7,e7⟩;have HG7:Hid (GrB w.heap.size w7 v7 (tgE t)):=qB.low hG7 (hE.trans eC).size;replace eC:=eC.trans e7;clear hG7 e7;go_wp2_with fail;clear hHeld;refine hK.out _ _ (by exact⟨eC.cell p0,eC.cell p1⟩) fun hHeld=>?_
 clear hK K;try simp only[nr]
 refine sP 10 (h:=?_);refine qm (by kernel_rfl) ?_ _;clear hHeld;have HX:=q_h (hE.trans eC);clear eC p0 p1;go_wp2;go_ret;exact⟨_,rfl,HG7.out,HX.out⟩
def Ok0 (o:Ob):Prop:=o.links.length<=1000/\o.data.length<=65536/\∀s∈o.links,s.length<=65536
theorem okO.ok0 {o:Ob}(h:okO o):Ok0 o:=⟨by have:=h.1;omega,by have:=h.2.1;omega,fun s hs=>by have:=h.2.2 s hs;omega⟩
def nmO (o:Ob):Byt:=if obC o=0 then qM o else []
theorem XU (HT:x9){o:Ob}{x y:Value}(h:ObR w x y o) (ho:Ok0 o) (ht:kG w):Calls Tryz.prog 15 #[.agg #[x,y]] w (qH w (.tuple #[sV (nmO o),.int .i64 (obC o)])):=by
 have HO:=q_h h;have HK:=q_h ho;have HTB:=q_h ht;obtain⟨R,hR⟩:=qf (qH w (.tuple #[sV (nmO o),.int .i64 (obC o)]));rw[<-hR.out];obtain⟨A0,c0,rfl,-⟩:=h.1.form;obtain⟨A9,c9,rfl,-⟩:=h.2.form;obtain⟨n0,hn0⟩:=qf o.links.length;obtain⟨n9,hn9⟩:=qf o.data.length;rw[<-hn0.out,<-hn9.out] at HO ⊢;obtain⟨s0,hs0⟩:=qf (sV o.data);clear h ho ht;go_enter Tryz.func15,Tryz.ntmps15;go_upto_region 1 with (fail);refine qo ?_;intro w1 hE hsz B0;obtain⟨p0,p1,-⟩:=cells2 B0;have HB0:=q_h B0
 by_cases h1:16<n0
 ·have u1:decide ((16:Int)<(n0:Int))=true:=q_t (by omega);have u1':decide (16<n0)=true:=q_t h1
  have HC:Hid (obC o=3/\nmO o=[]):=by
   have e:obC o=3:=by unfold obC;rw[if_pos (.inl (by have:=hn0.out;omega))]
   exact⟨e,by unfold nmO;rw[e];rfl⟩
  go_wp2
  first|go_ret2|skip
  rw[hR.out,HC.out.1,HC.out.2];exact⟨rfl,hE⟩
 have u1:decide ((16:Int)<(n0:Int))=false:=q_f (by omega);have u1':decide (16<n0)=false:=q_f h1
 by_cases h2:1024<n9
 ·have u2:decide ((1024:Int)<(n9:Int))=true:=q_t (by omega);have u2':decide (1024<n9)=true:=q_t h2
  have HC:Hid (obC o=3/\nmO o=[]):=by
   have e:obC o=3:=by unfold obC;rw[if_pos (.inr (by have:=hn9.out;omega))]
   exact⟨e,by unfold nmO;rw[e];rfl⟩
  go_wp2
  first|go_ret2|skip
  rw[hR.out,HC.out.1,HC.out.2];exact⟨rfl,hE⟩
 have u2:decide ((1024:Int)<(n9:Int))=false:=q_f (by omega);have u2':decide (1024<n9)=false:=q_f h2;have HLE:Hid (n0<=16/\n9<=1024):=⟨by omega,by omega⟩
 obtain⟨q,hq⟩:=qf (o.links.all Ql)
 have HCF:Hid (Calls Tryz.prog 56 #[.slice A0 n0 c0,.func (.func 67) #[] #[]] w1 (qH w1 (.bool (!q)))):=by
  have h9:=vU o.links Ql;rw[<-hn0.out,<-hq.out] at h9;rw[<-h9];refine JS (l:=o.links) ⟨hn0.out,HO.out.1.ext hE⟩ _ (fun i hi w' u e hu=>?_);rw[hu.out];refine X8 ?_;rw[List.getD_eq_getElem?_getD,List.getElem?_eq_getElem (by have:=hn0.out;omega)];have:=HK.out.2.2 _ (List.getElem_mem (l:=o.links) (n:=i) (by have:=hn0.out;omega))
  show (o.links[i]).length<=_
  omega
 go_wp2_with (go_at_call 56;refine q_o ?_);refine HCF.out.mono ?_;rintro e W ⟨rfl,e2⟩;have HX:=q_h (hE.trans e2);clear p0 p1 HCF;obtain⟨p0,p1,-⟩:=cells2 (e2.block HB0.out);clear hE e2 B0;cases q with
 | false =>
  have HC:Hid (obC o=10/\nmO o=[]):=by
   have e:obC o=10:=by
    unfold obC;rw[if_neg (by have:=hn0.out;have:=hn9.out;omega),<-hq.out]
    rfl
   exact⟨e,by unfold nmO;rw[e];rfl⟩
  go_wp2
  first|go_ret2|skip
  rw[hR.out,HC.out.1,HC.out.2];exact⟨rfl,HX.out⟩
 | true =>
  have HC:Hid (obC o=0/\nmO o=qM o):=by
   have e:obC o=0:=by
    unfold obC;rw[if_neg (by have:=hn0.out;have:=hn9.out;omega),<-hq.out]
    rfl
   exact⟨e,by unfold nmO;rw[e];rfl⟩
  have HK2:=q_h (Ko HC.out.1)
  have HT5:Hid (∀w',Ext W w'->(convert 27 9 (.slice A9 n9 c9)).run Tryz.prog w'=.ok s0 w'):=fun w' e=>by
   rw[hs0.out];exact ku (HO.out.2.ext (HX.out.trans e))
  have HC0:Hid (Ext W W.drew):=(Ext.refl W).drew;go_upto_region 5 with (fail);have eC:=And.intro (HC0.out.cell p0) (And.intro (HC0.out.cell p1) (HT5.out _ HC0.out));refine ql (fun w'=>w'.cell? ⟨w.heap.size,0,none⟩=some (.slice A0 n0 c0)/\w'.cell? ⟨w.heap.size,1,none⟩=some (.slice A9 n9 c9)/\(convert 27 9 (.slice A9 n9 c9)).run Tryz.prog w'=.ok s0 w') [] (by kernel_rfl) (by exact eC) (fun hHeld=>?_);refine sT 0 (h:=?_);refine sP 2 (h:=?_);refine sT 3 (h:=?_);refine sT 4 (hy:=by (intro w9 hSw;have c9:=hSw.2.2;go_simp;(try (rw[if_pos (by omega)]));(try with_reducible rfl))) (h:=?_);refine qg (i:=1) rfl (by kernel_rfl) (fun K hK=>?_);go_simp;refine (ZP (HO.out.ext (HX.out.trans HC0.out)) (by have:=HK.out.1;omega) (fun s hs=>by have:=HK.out.2.2 s hs;omega)).mono ?_;rintro e w3 ⟨A2,n2,k2,rfl,hLk,e3⟩;have HV2:=q_h (hLk W.heap.size);have HC3:=q_h (HC0.out.trans e3);replace eC:=And.intro (e3.cell eC.1) (And.intro (e3.cell eC.2.1) (HT5.out _ HC3.out));clear hLk e3;go_wp2_with fail;clear hHeld;refine hK.out _ _ (by exact eC) fun hHeld=>?_
  clear hK K;try simp only[nr]
  refine qg (i:=5) rfl (by kernel_rfl) (fun K hK=>?_);go_simp;rw[hs0.out];refine (xP (l:=o.data) (by have:=HK.out.2.1;omega)).mono ?_;rintro e w4 ⟨c4,rfl,hG4,e4⟩;have HV3:=q_h (txV (N:=W.heap.size) hG4);obtain⟨g4,cap4,rfl,-⟩:=hG4.form;have HV24:=q_h (HV2.out.ext e4);have HC4:=q_h (HC3.out.trans e4);replace eC:=And.intro (e4.cell eC.1) (And.intro (e4.cell eC.2.1) (HT5.out _ HC4.out));clear HV2 hG4 e4;go_wp2_with fail;clear hHeld;refine hK.out _ _ (by exact eC) fun hHeld=>?_
  clear hK K;try simp only[nr]
  refine qg (i:=6) rfl (by kernel_rfl) (fun K hK=>?_);go_simp
  first|refine qo ?_|refine qY ?_
  intro w5 e5 hsz5 BJ;have HVV:=q_h (q2x BJ (HV24.out.ext e5) (HV3.out.ext e5));have HC5:=q_h (HC4.out.trans e5);replace eC:=And.intro (e5.cell eC.1) (And.intro (e5.cell eC.2.1) (HT5.out _ HC5.out));clear HV24 HV3 BJ e5;clear hHeld;refine hK.out _ _ (by exact eC) fun hHeld=>?_
  clear hK K;try simp only[nr]
  refine qg (i:=7) rfl (by kernel_rfl) (fun K hK=>?_);go_simp;refine jM.mono ?_;rintro e w6 ⟨rfl,e6⟩;have HV6:=q_h (HVV.out.ext e6);have HC6:=q_h (HC5.out.trans e6);replace eC:=And.intro (e6.cell eC.1) (And.intro (e6.cell eC.2.1) (HT5.out _ HC6.out));clear HVV e6;go_wp2_with fail;clear hHeld;refine hK.out _ _ (by exact eC) fun hHeld=>?_
  clear hK K;try simp only[nr]
  refine qg (i:=8) rfl (by kernel_rfl) (fun K hK=>?_);go_simp;refine (jB HT HV6.out HK2.out.fits2 (HTB.out.ext (HX.out.trans HC6.out))).mono ?_;rintro e w7 ⟨v7,rfl,hG7,e7⟩;have HG7:=q_h hG7.by
  have HC7:=q_h (HC6.out.trans e7);replace eC:=And.intro (e7.cell eC.1) (And.intro (e7.cell eC.2.1) (HT5.out _ HC7.out));clear hG7 e7;go_wp2_with fail;clear hHeld;refine hK.out _ _ (by exact eC) fun hHeld=>?_
  clear hK K;try simp only[nr]
  refine qg (i:=9) rfl (by kernel_rfl) (fun K hK=>?_);go_simp;obtain⟨nm,hnm⟩:=qf (sV (qM o))
  have HCN:Hid (Calls Tryz.prog 69 #[v7] w7 (qH w7 nm)):=by
   rw[hnm.out];exact q1P HG7.out
  refine HCN.out.mono ?_;rintro e w8 ⟨rfl,e8⟩;have HC8:=q_h (HC7.out.trans e8);replace eC:=And.intro (e8.cell eC.1) (And.intro (e8.cell eC.2.1) (HT5.out _ HC8.out));clear e8;go_wp2_with fail;clear hHeld;refine hK.out _ _ (by exact eC) fun hHeld=>?_
  clear hK K;try simp only[nr]
  refine sP 10 (h:=?_);refine sP 11 (h:=?_);refine qm (by kernel_rfl) ?_ _;clear hHeld;have HX8:=q_h (HX.out.trans HC8.out);clear eC p0 p1;go_wp2
  first|go_ret2|skip
  rw[hR.out,HC.out.1,HC.out.2,hnm.out];exact⟨rfl,HX8.out⟩
end
end Go.Proofs.YtdeeekdbhhenpaaGreatDoor
