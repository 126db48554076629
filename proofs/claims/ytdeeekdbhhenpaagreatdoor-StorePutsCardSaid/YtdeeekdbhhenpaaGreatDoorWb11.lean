import Derived.Test.YtdeeekdbhhenpaaGreatDoorWb10
set_option linter.all false
set_option maxHeartbeats 8000000
set_option maxRecDepth 100000
namespace Go.Proofs.YtdeeekdbhhenpaaGreatDoor
open Go.RowKit
variable {w w':World} {n base:Nat} {v:Value}
def nmL (L:List Ob):List Byt:=L.map qO
theorem QP {L:List Ob}(h:jH w v L) (hl:L.length<=1000) (hok:∀i,i<L.length->okO (L.getD i default)):Calls Tryz.prog 43 #[v] w (WC w (nmL L)):=by
 have HO:=q_h h;have HOK:=q_h hok;obtain⟨R,hR⟩:=qc (WC w (nmL L));rw[<-hR.out];obtain⟨A,c,rfl,hnc,-⟩:=h.form;obtain⟨n,hn⟩:=qc L.length;rw[<-hn.out] at HO hnc hl ⊢;clear h hok;go_enter Tryz.func43,Tryz.ntmps43;go_wp2_with fail;have hnl:Hid (qA 9 w.heap.size w (.slice none (0:Nat) 0) ((L.take 0).map fun o=>sV (qO o))):=qA.nil (q_r)
 go_loopw [3,8] (fun v i wr=>∃(i0:Nat) (A':Option Addr) (c':Nat),i0<=n/\i=.int .i64 (i0:Int)/\v=.slice A' i0 c'/\Hid (qA 9 w.heap.size wr (.slice A' i0 c') ((L.take i0).map fun o=>sV (qO o)))/\Hid (Ext w wr)) (fun _ i _=>n-(intOf i).toNat)
 case atStart=>exact⟨0,none,0,Nat.zero_le _,rfl,rfl,hnl,Ext.refl _⟩
 case round =>
  clear hnl;obtain⟨i,A',c',hi9,rfl,rfl,HG,HE⟩:=hrel
  by_cases hlt:i<n
  case neg =>
   obtain rfl:i=n:=by omega
   have u5:decide ((i:Int)<(i:Int))=false:=q_f (by omega);go_wp2
   first|go_ret|skip
   rw[hR.out];have h9:=HG.out;rw[List.take_of_length_le (by have:=hn.out;omega)] at h9;refine⟨_,rfl,?_,HE.out⟩
   show qA _ _ _ _ ((L.map qO).map sV)
   rw[List.map_map];exact h9
  have u5:decide ((i:Int)<(n:Int))=true:=q_t (by omega);have u6:(i:Int)<(n:Int):=by omega
  have hil:i<L.length:=by have:=hn.out;omega
  obtain⟨go,off,rfl,hx⟩:=HO.out.at_ hn.out (by omega);obtain⟨B1,m1,d1,B2,m2,d2,k0,k1,hobr⟩:=hx i hlt;have HOR:=q_h (hobr.ext HE.out);replace k0:=HE.out.cell k0;replace k1:=HE.out.cell k1;clear hx hobr;go_upto_region 5 with (fail);refine qm ?_;intro w4 e4 hsz4 BQ;have HG4:=q_h (qA.ext HG.out e4);have HE4:=q_h (HE.out.trans e4);have HOR4:=q_h (HOR.out.ext e4);obtain⟨k0,k1,-⟩:=cells2 BQ;clear e4 HG HE HOR BQ hsz4;go_wp2_with (go_at_call 76;refine q_o ?_);refine (Kw HOR4.out (HOK.out i hil)).mono ?_;rintro e w5 ⟨rfl,e5⟩;have HG5:=q_h (qA.ext HG4.out e5);have HE5:=q_h (HE4.out.trans e5);clear e5 k0 k1 HG4 HE4 HOR4;obtain⟨nm,hnm⟩:=qc (bA (qO (L.getD i default)));rw[zy,<-hnm.out];go_wp2_with (at_builtin;refine q_o ?_);refine qm ?_;intro w6 e6 hsz6 B6;have hlen:((L.take i).map fun o=>sV (qO o)).length=i:=by rw[List.length_map,List.length_take];omega
  have hG6:=qA.ext HG5.out e6;refine zA wR rfl _ _ 26 Tryz.underlying26 rfl (by rfl) hG6 (m:=1) (c:=1) (news:=[.string nm]) (by rfl) rfl (jK B6) (fun x hx=>by rw[List.mem_singleton.1 hx];rfl) (by omega) (by omega) ?_;rintro g18 cap18 w18 hG18 hat18 ⟨g9,hlo,hw9,C9,-⟩;rw[hlen] at hG18 ⊢
  have HG9:Hid (qA 9 w.heap.size w18 (.slice (some ⟨g18,0,none⟩) (i+1) cap18) ((L.take (i+1)).map fun o=>sV (qO o))):=by
   rw[take_snoc L default hil,List.map_append]
   show Hid (qA _ _ _ _ (_ ++ [sV (qO (L.getD i default))]))
   rw[zy,<-hnm.out];exact hG18
  have HE9:Hid (Ext w w18):=C9.ext (HE5.out.trans e6) (by omega);clear hG18 hat18 hlo hw9 C9 B6 e6 hsz6 HG5 HE5 hG6;go_wp2;go_roundw
  case rel=>exact⟨i+1,_,cap18,by omega,by go_num,rfl,HG9,HE9⟩
  case measure=>simp[intOf];omega
def ObH (base:Nat) (w0 w:World) (v:Value) (L:List Ob):Prop:=∃X Y,qF 29 2 base w v L.length (obX X Y L.length)/\∀j,j<L.length->ObR w0 (X j) (Y j) (L.getD j default)
theorem ObH.form{w0:World}{L:List Ob}(h:ObH base w0 w v L):∃A c,v=.slice A L.length c/\L.length<=c/\c<=maxLen:=by
 obtain⟨X,Y,h1,-⟩:=h
 rcases h1.2.2 with ⟨h4,h5⟩|⟨g,cap,cur,hv,hb,-,h4,h5,-⟩
 ·exact⟨none,0,by rw[h5];exact h4,by omega,Nat.zero_le _⟩
 ·exact⟨_,cap,hv,h4,h5⟩
theorem ObH.obs{w0:World}{L:List Ob}(h:ObH base w0 w v L) (e:Ext w0 w):jH w v L:=by
 obtain⟨A,c,hv,hnc,hcm⟩:=h.form;obtain⟨X,Y,h1,h2⟩:=h;refine⟨A,c,hv,hnc,hcm,fun h0=>?_⟩;obtain⟨g,cap,hv2,hb,-,-,hcell⟩:=h1.at_ h0;rw[hv] at hv2;injection hv2 with e1 e2 e3
 refine⟨g,0,e1,fun i hi=>?_⟩
 have hc:∀q,q<2->∀u,[X i,Y i][q]?=some u->w.cell? ⟨g,0+i*2+q,none⟩=some u:=fun q hq u hu=>by
  rw[Nat.zero_add];exact hcell _ u ((jL _ _ q hq _ i hi).trans hu)
 exact⟨_,_,hc 0 (by omega) _ rfl,hc 1 (by omega) _ rfl,(h2 i hi).ext e⟩
theorem ObH.snoc{w0:World}{v':Value}{L:List Ob}{o:Ob}{X Y:Nat->Value}{x y:Value}(hE:∀j,j<L.length->ObR w0 (X j) (Y j) (L.getD j default)) (hx:ObR w0 x y o)
  (hG':qF 29 2 base w' v' (L.length+1) (obX X Y L.length ++ [x,y])):ObH base w0 w' v' (L ++ [o]):=by
 refine⟨fun j=>if j=L.length then x else X j,fun j=>if j=L.length then y else Y j,?_,fun j hj=>?_⟩
 ·rw[List.length_append,List.length_singleton,wW]
  show qF _ _ _ _ _ _ (obX (fun j=>if j=L.length then x else X j) (fun j=>if j=L.length then y else Y j) L.length ++ [(if L.length=L.length then x else X L.length),(if L.length=L.length then y else Y L.length)])
  rw[if_pos rfl,if_pos rfl,QL (X':=X) (Y':=Y) (fun j hj=>⟨by rw[if_neg (by omega)],by rw[if_neg (by omega)]⟩)];exact hG'
 ·rw[List.length_append,List.length_singleton] at hj
  show ObR w0 (if j=L.length then x else X j) (if j=L.length then y else Y j) ((L ++ [o]).getD j default)
  by_cases h:j=L.length
  ·rw[if_pos h,if_pos h,h,List.getD_eq_getElem?_getD,List.getElem?_append_right (q_r),Nat.sub_self];exact hx
  ·rw[if_neg h,if_neg h,List.getD_eq_getElem?_getD,List.getElem?_append_left (by omega),<-List.getD_eq_getElem?_getD];exact hE j (by omega)
theorem Vy{X Y:Nat->Value}{L:List Ob}(hn:n<=L.length) (h:∀j,j<L.length->ObR w (X j) (Y j) (L.getD j default)):∀u∈obX X Y n,u.oneCell'=true:=by
 intro u hu;unfold obX at hu;obtain⟨j,hj,h9⟩:=List.mem_flatMap.1 hu;have hr:=h j (by have:=List.mem_range.1 hj;omega);obtain⟨A,c,h1,-⟩:=hr.1.form;obtain⟨A',c',h2,-⟩:=hr.2.form
 rcases List.mem_cons.1 h9 with rfl|h9
 ·rw[h1];rfl
 ·rcases List.mem_cons.1 h9 with rfl|h9
  ·rw[h2];rfl
  ·cases h9
def q0k (w0 w:World) (L:List Ob) (e:Ending) (w':World):Prop:=∃v,e=.returned v/\ObH w.heap.size w0 w' v L/\Ext w w'
theorem QD {w0:World}{L:List Ob}(h:jH w0 v L) (hE0:Ext w0 w) (hl:L.length<=10000):Calls Tryz.prog 66 #[v] w (q0k w0 w L):=by
 obtain⟨Rf,hRf⟩:=qc (q0k w0 w L);rw[<-hRf.out];have HE0:=q_h hE0;clear hE0;obtain⟨A,c,rfl,hnc,hcm⟩:=h.form;have HS:=q_h h;have HL:=q_h hl;obtain⟨n,hn⟩:=qc L.length;rw[<-hn.out] at hnc HS ⊢;have hnl:=fun (w:World) (a:Option Addr) (n c:Nat)=>Lib.run_eql_slice_nil (P:=Tryz.prog) w 22 29 a n c 0 0 Tryz.underlying22
 rcases A with _|ad
 ·have h0:n=0:=by
   rcases Nat.eq_zero_or_pos n with h0|h0
   ·exact h0
   ·rw[hn.out] at h0;obtain⟨b,off,h1,-⟩:=Qs.addr h h0;cases h1
  have h1:L=[]:=List.eq_nil_of_length_eq_zero (by have:=hn.out;omega);subst h1;clear h hl hcm;go_enter Tryz.func66,Tryz.ntmps66;go_wp2
  first|go_ret|skip
  rw[hRf.out];exact⟨_,rfl,⟨fun _=>.slice none 0 0,fun _=>.slice none 0 0,⟨q_r,rfl,.inl ⟨rfl,rfl⟩⟩,fun j hj=>by simp at hj⟩,Ext.refl w⟩
 ·obtain⟨X,Y,hXY,hXR⟩:∃X Y:Nat->Value,(∀i,i<n->w0.cell? (ad.add (i*2))=some (X i)/\w0.cell? (ad.add (i*2+1))=some (Y i))/\∀j,j<L.length->ObR w0 (X j) (Y j) (L.getD j default):=by
   rcases Nat.eq_zero_or_pos n with h0|h0
   ·exact⟨fun _=>.slice none 0 0,fun _=>.slice none 0 0,fun i hi=>by omega,fun j hj=>by have:=hn.out;omega⟩
   have h0':0<L.length:=by have:=hn.out;omega
   obtain⟨g,off,e,hx⟩:=Qs.addr h h0';injection e with e
   subst e;refine⟨fun i=>(w0.cell? ⟨g,off+i*2,none⟩).getD (.slice none 0 0),fun i=>(w0.cell? ⟨g,off+i*2+1,none⟩).getD (.slice none 0 0),fun i hi=>?_,fun j hj=>?_⟩
   ·obtain⟨x,y,h1,h2,-⟩:=hx i (by have:=hn.out;omega);rw[qU,qU,<-Nat.add_assoc]
    show w0.cell? ⟨g,off+i*2,none⟩=some ((w0.cell? ⟨g,off+i*2,none⟩).getD _)/\w0.cell? ⟨g,off+i*2+1,none⟩=some ((w0.cell? ⟨g,off+i*2+1,none⟩).getD _)
    rw[h1,h2];exact⟨rfl,rfl⟩
   ·obtain⟨x,y,h1,h2,h3⟩:=hx j hj
    show ObR w0 ((w0.cell? ⟨g,off+j*2,none⟩).getD _) ((w0.cell? ⟨g,off+j*2+1,none⟩).getD _) _
    rw[h1,h2];exact h3
  have HNW:Hid (∀j u,(obX X Y n)[j]?=some u->w.cell? (ad.add j)=some u):=fun j u hj=>HE0.out.cell (by
   have hjl:=(List.getElem?_eq_some_iff.1 hj).1;have hlen:(obX X Y n).length=n*2:=xx _ _ n;obtain⟨i,q,hq,rfl⟩:∃i q,q<2/\j=i*2+q:=⟨j / 2,j % 2,by omega,by omega⟩
   obtain⟨h1,h2⟩:=hXY i (by omega);have h3:(obX X Y n)[i*2+q]?=_:=jL _ _ q hq n i (by omega);rw[h3] at hj;have:q=0\/q=1:=by omega
   rcases this with rfl|rfl
   ·rw[<-hj];exact h1
   ·rw[<-hj];exact h2)
  have HXR:=q_h hXR;have HON:=q_h (Vy (n:=n) (by have:=hn.out;omega) hXR);clear h hl hcm hXY hXR;go_enter Tryz.func66,Tryz.ntmps66;go_wp2_with (at_builtin;refine q_o ?_);refine qm ?_;intro W hE hsz B0;refine zB Qh rfl _ _ 22 Tryz.underlying22 rfl (by rfl) (qF.empty (q_r) B0) (by rfl) (news:=obX X Y n) (xx _ _ n) (fun j u hj=>hE.cell (HNW.out j u hj)) HON.out (by have:=HL.out;have:=hn.out;omega) ?_;rintro v2 w2 hG - ⟨g',hg',-,C2⟩;have hE2:=C2.ext hE (by omega);rw[Nat.zero_add,List.nil_append] at hG
  have HG:Hid (ObH w.heap.size w0 w2 v2 L):=by
   rw[hn.out] at hG;exact⟨X,Y,hG,HXR.out⟩
  clear hG C2;go_wp2
  first|go_ret|skip
  rw[hRf.out];exact⟨v2,rfl,HG.out,hE2⟩
theorem Xf {size seq half used:Int}{gq:Nat}{A1 A2:Option Addr}{n1 c1 n2 c2:Nat}{L:List Ob}{l:Byt}(hB:w.heap[gq]?=some (.cells #[.int .i64 size,.int .i64 seq,.int .i64 half,.int .i64 used,.slice A1 n1 c1,.slice A2 n2 c2] 25 (0,0))) (hO:jH w (.slice A1 n1 c1) L) (hl:L.length<=1000) (hok:∀i,i<L.length->okO (L.getD i default)) :
  Calls Tryz.prog 63 #[sV l,.pointer (some ⟨gq,0,none⟩)] w (qG w (.bool (!(nmL L).contains l))):=by
 have HC:Hid (∀w',Ext w w'->Calls Tryz.prog 43 #[.slice A1 n1 c1] w' (WC w' (nmL L))):=fun w' e=>QP (hO.ext e) hl hok
 have HLN:Hid ((nmL L).length<=1000000000):=by unfold nmL;rw[List.length_map,Hid];omega
 obtain⟨NL,hNL⟩:=qc (nmL L);rw[<-hNL.out] at HC HLN ⊢;obtain⟨r,hr⟩:=qc (NL.contains l);rw[<-hr.out];obtain⟨sv,hsv⟩:=qc (sV l);rw[<-hsv.out]
 have HCC:Hid (∀w' v',GrS w.heap.size w' v' NL->Calls Tryz.prog 47 #[v',sv] w' (qG w' (.bool r))):=fun w' v' h=>by
  rw[hsv.out,hr.out];exact zZ h.strs HLN.out
 obtain⟨p0,p1,p2,p3,p4,p5⟩:=qp hB;clear hO hok hl;go_enter Tryz.func63,Tryz.ntmps63;go_wp2_with (go_at_call 43;refine q_o ?_);refine (HC.out w (Ext.refl _)).mono ?_;rintro e w1 ⟨v1,rfl,hG1,e1⟩;go_wp2_with (go_at_call 47;refine q_o ?_);refine (HCC.out w1 v1 hG1).mono ?_;rintro e w2 ⟨rfl,e2⟩;go_wp2
 first|go_ret|skip
 exact⟨rfl,e1.trans e2⟩
theorem XF{l:List Byt}(h:xI w v n l){gq:Nat}(g:Nat->Bool)
  (hf:∀i,i<n->∀w' u,Ext w w'->Hid (u=sV (l.getD i []))->Calls Tryz.prog 63 #[u,.pointer (some ⟨gq,0,none⟩)] w' (qG w' (.bool (g i)))) :
  Calls Tryz.prog 125 #[v,.func (.func 63) #[] #[.pointer (some ⟨gq,0,none⟩)]] w (xP w (zO n g)):=by
 obtain⟨r,hr⟩:=qc (zO n g);rw[<-hr.out];obtain⟨A,c,rfl,hnc,hcm⟩:=h.form;unfold maxLen at hcm;have hI:=h;have HF:=q_h hf;clear h hf;go_enter Tryz.func125,Tryz.ntmps125;go_wp2
 go_loopw [8] (fun i wr=>∃k:Nat,k<=n/\i=.int .i64 k/\Hid (∀j,j<k->g j=false)/\Ext w wr) (fun i _=>n-(intOf i).toNat)
 case atStart=>exact⟨0,Nat.zero_le _,rfl,fun j hj=>absurd hj (by omega),Ext.refl w⟩
 case round =>
  obtain⟨k,hk,rfl,HA,hE⟩:=hrel
  by_cases hlt:k<n
  ·(obtain⟨b,off,rfl,hx⟩:=(hI.ext hE).addr (by omega));(obtain⟨u,p0,hv⟩:=hx k hlt)
   clear hx;go_wp2_with (go_at_call 63;refine q_o ?_);refine (HF.out k hlt _ _ hE hv).mono ?_;rintro e w1 ⟨rfl,e1⟩;replace hE:=hE.trans e1;obtain⟨o,ho⟩:=qc (g k);rw[<-ho.out];cases o with
   | false =>
    go_wp2;go_roundw
    case rel=>exact⟨k+1,by omega,by go_num,zJ (p:=fun j=>g j=false) HA.out ho.out.symm,hE⟩
    case measure=>simp[intOf];omega
   | true =>
    have HT:Hid (r=true):=by rw[Hid,hr.out];exact zg hlt ho.out.symm
    go_wp2;go_ret;exact⟨_,rfl,by rw[Hid,HT.out];symm;simp,hE⟩
  ·have HT:Hid (r=false):=by rw[Hid,hr.out];exact qV.2 (fun j hj=>HA.out j (by omega))
   go_wp2;go_ret;exact⟨_,rfl,by rw[Hid,HT.out];rfl,hE⟩
theorem Y6{l:List Byt}(h:xI w v n l){gq:Nat}(g:Nat->Bool)
  (hf:∀i,i<n->∀w' u,Ext w w'->Hid (u=sV (l.getD i []))->Calls Tryz.prog 63 #[u,.pointer (some ⟨gq,0,none⟩)] w' (qG w' (.bool (g i)))) :
  Calls Tryz.prog 56 #[v,.func (.func 63) #[] #[.pointer (some ⟨gq,0,none⟩)]] w (qG w (.bool (zO n g))):=by
 obtain⟨r,hr⟩:=qc (zO n g);rw[<-hr.out];obtain⟨A,c,rfl,hnc,hcm⟩:=h.form;have hI:=h;have HF:=q_h hf;clear h hf;go_enter Tryz.func56,Tryz.ntmps56;go_wp2_with (go_at_call 125;refine q_o ?_);refine (XF hI (gq:=gq) g HF.out).mono ?_;rintro e w1 ⟨z,rfl,hz,e1⟩;rw[<-hr.out] at hz;go_wp2;go_ret;exact⟨qw hz.out.symm,e1⟩
theorem zW {o:Ob}{x y:Value}(h:ObR w x y o) (ho:okO o):Calls Tryz.prog 65 #[.agg #[x,y]] w (Z9 w (QV (obE o))):=by
 have HO:=q_h h;have HK:=q_h ho;obtain⟨R,hR⟩:=qc (Z9 w (QV (obE o)));rw[<-hR.out];obtain⟨A0,c0,rfl,-⟩:=h.1.form;obtain⟨A9,c9,rfl,-⟩:=h.2.form;obtain⟨n0,hn0⟩:=qc o.links.length;obtain⟨n9,hn9⟩:=qc o.data.length;rw[<-hn0.out,<-hn9.out] at HO ⊢;clear h ho;go_enter Tryz.func65,Tryz.ntmps65;go_upto_region 1 with (fail);refine qm ?_;intro W hE hsz B0;obtain⟨p0,p1,-⟩:=cells2 B0;have HN:Hid (W.heap.size<=W.drew.heap.size):=q_r;have eC:=(Ext.refl W).drew;refine qh (fun w'=>w'.cell? ⟨w.heap.size,0,none⟩=some (.slice A0 n0 c0)/\w'.cell? ⟨w.heap.size,1,none⟩=some (.slice A9 n9 c9)) [] (by kernel_rfl) (by exact⟨eC.cell p0,eC.cell p1⟩) (fun hHeld=>?_);refine sP 1 (h:=?_);refine sT 2 (h:=?_);refine sP 4 (h:=?_);refine sT 5 (h:=?_);refine sP 6 (h:=?_);refine qf (i:=0) rfl (by kernel_rfl) (fun K hK=>?_);go_simp;refine (yV (N:=W.heap.size) HN.out 0 (by omega) (by omega)).mono ?_;rintro e w2 ⟨nb,A1,m1,k1,rfl,hI,e2⟩;have HV1:=q_h ((nuV hI).any false);replace eC:=eC.trans e2;clear hI e2;go_wp2_with fail;clear hHeld;refine hK.out _ _ (by exact⟨eC.cell p0,eC.cell p1⟩) fun hHeld=>?_
 clear hK K;try simp only[nr]
 refine qf (i:=3) rfl (by kernel_rfl) (fun K hK=>?_);go_simp;refine (QO (HO.out.1.ext (hE.trans eC)) (by have:=HK.out.1;omega) (fun s hs=>by have:=HK.out.2.2 s hs;omega)).mono ?_;rintro e w3 ⟨A2,n2,k2,rfl,hLk,e3⟩;have HV2:=q_h ((hLk W.heap.size).any false);have HV13:=q_h (HV1.out.ext e3);replace eC:=eC.trans e3;clear hLk e3 HV1;go_wp2_with fail;clear hHeld;refine hK.out _ _ (by exact⟨eC.cell p0,eC.cell p1⟩) fun hHeld=>?_
 clear hK K;try simp only[nr]
 refine qf (i:=7) rfl (by kernel_rfl) (fun K hK=>?_);go_simp
 first|refine qm ?_|refine qQ ?_
 intro w5 e5 hsz5 BJ;have HVV:=q_h (Yh BJ (HV13.out.ext e5) (HV2.out.ext e5) (txF (N:=W.heap.size) (HO.out.2.ext (hE.trans (eC.trans e5))) ⟨_,_,rfl⟩));replace eC:=eC.trans e5;clear HV2 HV13 BJ e5;clear hHeld;refine hK.out _ _ (by exact⟨eC.cell p0,eC.cell p1⟩) fun hHeld=>?_
 clear hK K;try simp only[nr]
 refine qf (i:=8) rfl (by kernel_rfl) (fun K hK=>?_);go_simp;refine jr.mono ?_;rintro e w6 ⟨rfl,e6⟩;have HV6:=q_h (HVV.out.ext e6);replace eC:=eC.trans e6;clear HVV e6;go_wp2_with fail;clear hHeld;refine hK.out _ _ (by exact⟨eC.cell p0,eC.cell p1⟩) fun hHeld=>?_
 clear hK K;try simp only[nr]
 refine qf (i:=9) rfl (by kernel_rfl) (fun K hK=>?_);go_simp;refine (QR (V:=.lst [.int 0,Qq o,.txt o.data]) HV6.out eC.size (HK.out.fits 0 (by omega) (by omega)).1 (by have:=(HK.out.fits 0 (by omega) (by omega)).2;omega)).mono ?_;rintro e w7 ⟨v7,rfl,hG7,e7⟩;have HG7:=q_h hG7;replace hE:=hE.trans eC;replace eC:=eC.trans e7;clear hG7;go_wp2_with fail;clear hHeld;refine hK.out _ _ (by exact⟨eC.cell p0,eC.cell p1⟩) fun hHeld=>?_
 clear hK K;try simp only[nr]
 refine sP 10 (h:=?_);refine ql (by kernel_rfl) ?_ _;clear hHeld;have HX:=q_h (hE.trans e7);clear eC p0 p1;go_wp2
 first|go_ret|skip
 rw[hR.out];refine⟨v7,rfl,?_,HX.out⟩;obtain⟨G,h1,h2⟩:=HG7.out;exact⟨G,qA.low h1 hE.size,fun j hj=>⟨q_l hE.size (h2 j hj).1,(h2 j hj).2⟩⟩
theorem y7 {t:Tg}(ho:okT t):Calls Tryz.prog 113 #[sV t.name,sV t.target] w (Z9 w (QV (tgE t))):=by
 have HK:=q_h ho;obtain⟨R,hR⟩:=qc (Z9 w (QV (tgE t)));rw[<-hR.out];obtain⟨s0,hs0⟩:=qc (sV t.name);obtain⟨s1,hs1⟩:=qc (sV t.target);rw[<-hs0.out,<-hs1.out]
 have HC0:Hid (∀w,Calls Tryz.prog 168 #[s0] w (Xn w t.name)):=fun w=>by
  rw[hs0.out];exact yU (l:=t.name) (by have:=HK.out.1;omega)
 have HC1:Hid (∀w,Calls Tryz.prog 168 #[s1] w (Xn w t.target)):=fun w=>by
  rw[hs1.out];exact yU (l:=t.target) (by have:=HK.out.2;omega)
 clear ho;go_enter Tryz.func113,Tryz.ntmps113;go_wp2_with (go_at_call 131;refine q_o ?_);refine (yV (N:=w.heap.size) (q_r) 1 (by omega) (by omega)).mono ?_;rintro e w2 ⟨nb,A1,m1,k1,rfl,hI,e2⟩;have HV1:=q_h ((nuV hI).any false);have HX2:=q_h e2;clear hI e2;go_wp2_with (go_at_call_of 168 s0;refine q_o ?_);refine (HC0.out _).mono ?_;rintro e w3 ⟨c3,rfl,hG3,e3⟩;have HV2:=q_h ((txV (N:=w.heap.size) hG3).any false);obtain⟨g3,cap3,rfl,-⟩:=hG3.form;have HV13:=q_h (HV1.out.ext e3);have HX3:=q_h (HX2.out.trans e3);clear hG3 e3 HV1;go_wp2_with (go_at_call_of 168 s1;refine q_o ?_);refine (HC1.out _).mono ?_;rintro e w4 ⟨c4,rfl,hG4,e4⟩;have HV3:=q_h ((txV (N:=w.heap.size) hG4).any false);obtain⟨g4,cap4,rfl,-⟩:=hG4.form;have HV14:=q_h (HV13.out.ext e4);have HV24:=q_h (HV2.out.ext e4);have HX4:=q_h (HX3.out.trans e4);clear hG4 e4 HV13 HV2;go_wp2_with (go_at_call 130;refine q_o ?_);refine jr.mono ?_;rintro e w6 ⟨rfl,e6⟩;have BJ:=e6.block (heap_alloc_new w4 _);have e46:Ext w4 w6:=((Ext.refl w4).alloc _).trans e6;have HV6:=q_h (Yh BJ (HV14.out.ext e46) (HV24.out.ext e46) (HV3.out.ext e46));have HX6:=q_h (HX4.out.trans e46);clear BJ e6 e46 HV14 HV24 HV3;go_wp2_with (go_at_call 107;refine q_o ?_);refine (QR HV6.out HX6.out.size (HK.out.fits 1 (by omega) (by omega)).1 (by have:=(HK.out.fits 1 (by omega) (by omega)).2;omega)).mono ?_;rintro e w7 ⟨v7,rfl,hG7,e7⟩;have HG7:=q_h hG7;have HX7:=q_h (HX6.out.trans e7)
 clear hG7 e7;go_wp2
 first|go_ret|skip
 rw[hR.out];refine⟨v7,rfl,?_,HX7.out⟩;obtain⟨G,h1,h2⟩:=HG7.out;exact⟨G,qA.low h1 HX6.out.size,fun j hj=>⟨q_l HX6.out.size (h2 j hj).1,(h2 j hj).2⟩⟩
theorem JS {s:Shf}(h:s.used<0):qH s=false:=by
 have h9:decide ((pgs s:Int)<=s.used)=false:=q_f (by omega);unfold qH;rw[h9]
 simp
theorem QN {gq:Nat}{K:List Byt}{l:Byt}(hB:w.cell? ⟨gq,0,none⟩=some v) (hS:zF w v K) (hl:K.length<=1000000000) :
  Calls Tryz.prog 111 #[sV l,.pointer (some ⟨gq,0,none⟩)] w (qG w (.bool (!K.contains l))):=by
 obtain⟨r,hr⟩:=qc (K.contains l);rw[<-hr.out];obtain⟨sv,hsv⟩:=qc (sV l);rw[<-hsv.out]
 have HCC:Hid (Calls Tryz.prog 47 #[v,sv] w (qG w (.bool r))):=by
  rw[hsv.out,hr.out];exact zZ hS hl
 clear hS hl;go_enter Tryz.func111,Tryz.ntmps111;go_wp2_with (go_at_call 47;refine q_o ?_);refine HCC.out.mono ?_;rintro e w2 ⟨rfl,e2⟩;go_wp2
 first|go_ret|skip
 exact⟨rfl,e2⟩
theorem Zo{l:List Byt}(h:xI w v n l){gq:Nat}(g:Nat->Bool)
  (hf:∀i,i<n->∀w' u,Ext w w'->Hid (u=sV (l.getD i []))->Calls Tryz.prog 111 #[u,.pointer (some ⟨gq,0,none⟩)] w' (qG w' (.bool (g i)))) :
  Calls Tryz.prog 125 #[v,.func (.func 111) #[] #[.pointer (some ⟨gq,0,none⟩)]] w (xP w (zO n g)):=by
 obtain⟨r,hr⟩:=qc (zO n g);rw[<-hr.out];obtain⟨A,c,rfl,hnc,hcm⟩:=h.form;unfold maxLen at hcm;have hI:=h;have HF:=q_h hf;clear h hf;go_enter Tryz.func125,Tryz.ntmps125;go_wp2
 go_loopw [8] (fun i wr=>∃k:Nat,k<=n/\i=.int .i64 k/\Hid (∀j,j<k->g j=false)/\Ext w wr) (fun i _=>n-(intOf i).toNat)
 case atStart=>exact⟨0,Nat.zero_le _,rfl,fun j hj=>absurd hj (by omega),Ext.refl w⟩
 case round =>
  obtain⟨k,hk,rfl,HA,hE⟩:=hrel
  by_cases hlt:k<n
  ·(obtain⟨b,off,rfl,hx⟩:=(hI.ext hE).addr (by omega));(obtain⟨u,p0,hv⟩:=hx k hlt)
   clear hx;go_wp2_with (go_at_call 111;refine q_o ?_);refine (HF.out k hlt _ _ hE hv).mono ?_;rintro e w1 ⟨rfl,e1⟩;replace hE:=hE.trans e1;obtain⟨o,ho⟩:=qc (g k);rw[<-ho.out];cases o with
   | false =>
    go_wp2;go_roundw
    case rel=>exact⟨k+1,by omega,by go_num,zJ (p:=fun j=>g j=false) HA.out ho.out.symm,hE⟩
    case measure=>simp[intOf];omega
   | true =>
    have HT:Hid (r=true):=by rw[Hid,hr.out];exact zg hlt ho.out.symm
    go_wp2;go_ret;exact⟨_,rfl,by rw[Hid,HT.out];symm;simp,hE⟩
  ·have HT:Hid (r=false):=by rw[Hid,hr.out];exact qV.2 (fun j hj=>HA.out j (by omega))
   go_wp2;go_ret;exact⟨_,rfl,by rw[Hid,HT.out];rfl,hE⟩
theorem X7{l:List Byt}(h:xI w v n l){gq:Nat}(g:Nat->Bool)
  (hf:∀i,i<n->∀w' u,Ext w w'->Hid (u=sV (l.getD i []))->Calls Tryz.prog 111 #[u,.pointer (some ⟨gq,0,none⟩)] w' (qG w' (.bool (g i)))) :
  Calls Tryz.prog 56 #[v,.func (.func 111) #[] #[.pointer (some ⟨gq,0,none⟩)]] w (qG w (.bool (zO n g))):=by
 obtain⟨r,hr⟩:=qc (zO n g);rw[<-hr.out];obtain⟨A,c,rfl,hnc,hcm⟩:=h.form;have hI:=h;have HF:=q_h hf;clear h hf;go_enter Tryz.func56,Tryz.ntmps56;go_wp2_with (go_at_call 125;refine q_o ?_);refine (Zo hI (gq:=gq) g HF.out).mono ?_;rintro e w1 ⟨z,rfl,hz,e1⟩;rw[<-hr.out] at hz;go_wp2;go_ret;exact⟨qw hz.out.symm,e1⟩
theorem J4 {s:Shf}{A1 A2:Option Addr}{n1 c1 n2 c2:Nat}(hO:jH w (.slice A1 n1 c1) s.objs) (hT:vM w (.slice A2 n2 c2) s.tags) (hok:∀i,i<s.objs.length->Ok0 (s.objs.getD i default)) (htk:∀i,i<s.tags.length->okT (s.tags.getD i default)) (hno:s.objs.length<=1000) (hnt:s.tags.length<=1000) :
  Calls Tryz.prog 40 #[.agg #[.int .i64 s.size,.int .i64 s.seq,.int .i64 s.half,.int .i64 s.used,.slice A1 n1 c1,.slice A2 n2 c2]] w (qG w (.bool (qH s))):=by
 obtain⟨size,hsize⟩:=qc s.size;obtain⟨seq,hseq⟩:=qc s.seq;obtain⟨half,hhalf⟩:=qc s.half;obtain⟨used,hused⟩:=qc s.used;rw[<-hsize.out,<-hseq.out,<-hhalf.out,<-hused.out];obtain⟨r,hr⟩:=qc (qH s);rw[<-hr.out];have HO:=q_h hO;have HT:=q_h hT;have HOK:=q_h hok;have HTK:=q_h htk;have hn1:=hO.len;have hn2:=hT.len;have hn1c:=hn1.2;have hn2c:=hn2.2;have HN1:=q_h hn1.1;have HN2:=q_h hn2.1;have hb1:n1<=1000:=by omega
 have hb2:n2<=1000:=by omega
 clear hO hT hok htk hn1 hn2;go_enter Tryz.func40,Tryz.ntmps40;go_upto_region 1 with (fail);refine qm ?_;intro W hE hsz B0;have HB0:=q_h B0;have HX:=q_h hE;obtain⟨p0,p1,p2,p3,p4,p5⟩:=qp B0;clear B0 hE
 by_cases hc0:size<8
 ·have d0:decide (size<8)=true:=q_t hc0;have eC:=(Ext.refl W).drew;refine qh (fun w'=>w'.cell? ⟨w.heap.size,0,none⟩=some (.int .i64 size)/\w'.cell? ⟨w.heap.size,1,none⟩=some (.int .i64 seq)/\w'.cell? ⟨w.heap.size,2,none⟩=some (.int .i64 half)/\w'.cell? ⟨w.heap.size,3,none⟩=some (.int .i64 used)) [] (by kernel_rfl) (by exact⟨eC.cell p0,eC.cell p1,eC.cell p2,eC.cell p3⟩) (fun hHeld=>?_);refine sP 0 (h:=?_);refine sT 1 (h:=?_);refine sP 2 (h:=?_);refine sP 3 (h:=?_);refine sF 4 (h:=?_);refine sF 5 (h:=?_);refine sF 6 (h:=?_);refine sP 7 (h:=?_);refine sP 8 (h:=?_);refine sF 9 (h:=?_);refine sF 10 (h:=?_);refine sF 11 (h:=?_);refine sP 12 (h:=?_);refine sP 13 (h:=?_);refine sF 14 (h:=?_);refine sF 15 (h:=?_);refine sF 16 (h:=?_);refine sP 17 (h:=?_);refine sP 18 (h:=?_);refine sF 19 (h:=?_);refine sF 20 (h:=?_);refine sF 21 (h:=?_);refine sP 22 (h:=?_);refine sP 23 (h:=?_);refine sF 24 (h:=?_);refine sF 25 (h:=?_);refine sF 26 (h:=?_);refine sP 27 (h:=?_);refine sP 28 (h:=?_);refine sF 29 (h:=?_);refine sF 30 (h:=?_);refine sF 31 (h:=?_);refine sF 32 (h:=?_);refine sF 33 (h:=?_);refine sF 34 (h:=?_);refine sP 35 (h:=?_);refine sP 36 (h:=?_);refine sF 37 (h:=?_);refine sF 38 (h:=?_);refine sF 39 (h:=?_);refine sP 40 (h:=?_);refine ql (by kernel_rfl) ?_ _;clear hHeld;have HVB:Hid (qH s=false):=zi (by rw[<-hsize.out,<-hseq.out,<-hhalf.out,<-hused.out];generalize qP size=h9;omega)
  have HX9:=q_h (HX.out.trans eC);clear eC p0 p1 p2 p3;go_wp2
  first|go_ret|skip
  exact⟨qw (hr.out.trans HVB.out).symm,HX9.out⟩
 have d0:decide (size<8)=false:=q_f hc0
 by_cases hc1:4096<size
 ·have d1:decide (4096<size)=true:=q_t hc1;have eC:=(Ext.refl W).drew;refine qh (fun w'=>w'.cell? ⟨w.heap.size,0,none⟩=some (.int .i64 size)/\w'.cell? ⟨w.heap.size,1,none⟩=some (.int .i64 seq)/\w'.cell? ⟨w.heap.size,2,none⟩=some (.int .i64 half)/\w'.cell? ⟨w.heap.size,3,none⟩=some (.int .i64 used)) [] (by kernel_rfl) (by exact⟨eC.cell p0,eC.cell p1,eC.cell p2,eC.cell p3⟩) (fun hHeld=>?_);refine sP 0 (h:=?_);refine sT 1 (h:=?_);refine sP 2 (h:=?_);refine sP 3 (h:=?_);refine sP 4 (h:=?_);refine sT 5 (h:=?_);refine sP 6 (h:=?_);refine sP 7 (h:=?_);refine sP 8 (h:=?_);refine sF 9 (h:=?_);refine sF 10 (h:=?_);refine sF 11 (h:=?_);refine sP 12 (h:=?_);refine sP 13 (h:=?_);refine sF 14 (h:=?_);refine sF 15 (h:=?_);refine sF 16 (h:=?_);refine sP 17 (h:=?_);refine sP 18 (h:=?_);refine sF 19 (h:=?_);refine sF 20 (h:=?_);refine sF 21 (h:=?_);refine sP 22 (h:=?_);refine sP 23 (h:=?_);refine sF 24 (h:=?_);refine sF 25 (h:=?_);refine sF 26 (h:=?_);refine sP 27 (h:=?_);refine sP 28 (h:=?_);refine sF 29 (h:=?_);refine sF 30 (h:=?_);refine sF 31 (h:=?_);refine sF 32 (h:=?_);refine sF 33 (h:=?_);refine sF 34 (h:=?_);refine sP 35 (h:=?_);refine sP 36 (h:=?_);refine sF 37 (h:=?_);refine sF 38 (h:=?_);refine sF 39 (h:=?_);refine sP 40 (h:=?_);refine ql (by kernel_rfl) ?_ _;clear hHeld;have HVB:Hid (qH s=false):=zi (by rw[<-hsize.out,<-hseq.out,<-hhalf.out,<-hused.out];generalize qP size=h9;omega)
  have HX9:=q_h (HX.out.trans eC);clear eC p0 p1 p2 p3;go_wp2
  first|go_ret|skip
  exact⟨qw (hr.out.trans HVB.out).symm,HX9.out⟩
 have d1:decide (4096<size)=false:=q_f hc1
 by_cases hc2:seq<0
 ·have d2:decide (seq<0)=true:=q_t hc2;have eC:=(Ext.refl W).drew;refine qh (fun w'=>w'.cell? ⟨w.heap.size,0,none⟩=some (.int .i64 size)/\w'.cell? ⟨w.heap.size,1,none⟩=some (.int .i64 seq)/\w'.cell? ⟨w.heap.size,2,none⟩=some (.int .i64 half)/\w'.cell? ⟨w.heap.size,3,none⟩=some (.int .i64 used)) [] (by kernel_rfl) (by exact⟨eC.cell p0,eC.cell p1,eC.cell p2,eC.cell p3⟩) (fun hHeld=>?_);refine sP 0 (h:=?_);refine sT 1 (h:=?_);refine sP 2 (h:=?_);refine sP 3 (h:=?_);refine sP 4 (h:=?_);refine sT 5 (h:=?_);refine sP 6 (h:=?_);refine sP 7 (h:=?_);refine sP 8 (h:=?_);refine sP 9 (h:=?_);refine sT 10 (h:=?_);refine sP 11 (h:=?_);refine sP 12 (h:=?_);refine sP 13 (h:=?_);refine sF 14 (h:=?_);refine sF 15 (h:=?_);refine sF 16 (h:=?_);refine sP 17 (h:=?_);refine sP 18 (h:=?_);refine sF 19 (h:=?_);refine sF 20 (h:=?_);refine sF 21 (h:=?_);refine sP 22 (h:=?_);refine sP 23 (h:=?_);refine sF 24 (h:=?_);refine sF 25 (h:=?_);refine sF 26 (h:=?_);refine sP 27 (h:=?_);refine sP 28 (h:=?_);refine sF 29 (h:=?_);refine sF 30 (h:=?_);refine sF 31 (h:=?_);refine sF 32 (h:=?_);refine sF 33 (h:=?_);refine sF 34 (h:=?_);refine sP 35 (h:=?_);refine sP 36 (h:=?_);refine sF 37 (h:=?_);refine sF 38 (h:=?_);refine sF 39 (h:=?_);refine sP 40 (h:=?_);refine ql (by kernel_rfl) ?_ _;clear hHeld;have HVB:Hid (qH s=false):=zi (by rw[<-hsize.out,<-hseq.out,<-hhalf.out,<-hused.out];generalize qP size=h9;omega)
  have HX9:=q_h (HX.out.trans eC);clear eC p0 p1 p2 p3;go_wp2
  first|go_ret|skip
  exact⟨qw (hr.out.trans HVB.out).symm,HX9.out⟩
 have d2:decide (seq<0)=false:=q_f hc2
 by_cases hc3:2147483647<seq
 ·have d3:decide (2147483647<seq)=true:=q_t hc3;have eC:=(Ext.refl W).drew;refine qh (fun w'=>w'.cell? ⟨w.heap.size,0,none⟩=some (.int .i64 size)/\w'.cell? ⟨w.heap.size,1,none⟩=some (.int .i64 seq)/\w'.cell? ⟨w.heap.size,2,none⟩=some (.int .i64 half)/\w'.cell? ⟨w.heap.size,3,none⟩=some (.int .i64 used)) [] (by kernel_rfl) (by exact⟨eC.cell p0,eC.cell p1,eC.cell p2,eC.cell p3⟩) (fun hHeld=>?_);refine sP 0 (h:=?_);refine sT 1 (h:=?_);refine sP 2 (h:=?_);refine sP 3 (h:=?_);refine sP 4 (h:=?_);refine sT 5 (h:=?_);refine sP 6 (h:=?_);refine sP 7 (h:=?_);refine sP 8 (h:=?_);refine sP 9 (h:=?_);refine sT 10 (h:=?_);refine sP 11 (h:=?_);refine sP 12 (h:=?_);refine sP 13 (h:=?_);refine sP 14 (h:=?_);refine sT 15 (h:=?_);refine sP 16 (h:=?_);refine sP 17 (h:=?_);refine sP 18 (h:=?_);refine sF 19 (h:=?_);refine sF 20 (h:=?_);refine sF 21 (h:=?_);refine sP 22 (h:=?_);refine sP 23 (h:=?_);refine sF 24 (h:=?_);refine sF 25 (h:=?_);refine sF 26 (h:=?_);refine sP 27 (h:=?_);refine sP 28 (h:=?_);refine sF 29 (h:=?_);refine sF 30 (h:=?_);refine sF 31 (h:=?_);refine sF 32 (h:=?_);refine sF 33 (h:=?_);refine sF 34 (h:=?_);refine sP 35 (h:=?_);refine sP 36 (h:=?_);refine sF 37 (h:=?_);refine sF 38 (h:=?_);refine sF 39 (h:=?_);refine sP 40 (h:=?_);refine ql (by kernel_rfl) ?_ _;clear hHeld;have HVB:Hid (qH s=false):=zi (by rw[<-hsize.out,<-hseq.out,<-hhalf.out,<-hused.out];generalize qP size=h9;omega)
  have HX9:=q_h (HX.out.trans eC);clear eC p0 p1 p2 p3;go_wp2
  first|go_ret|skip
  exact⟨qw (hr.out.trans HVB.out).symm,HX9.out⟩
 have d3:decide (2147483647<seq)=false:=q_f hc3
 by_cases hc4:half<0
 ·have d4:decide (half<0)=true:=q_t hc4;have eC:=(Ext.refl W).drew;refine qh (fun w'=>w'.cell? ⟨w.heap.size,0,none⟩=some (.int .i64 size)/\w'.cell? ⟨w.heap.size,1,none⟩=some (.int .i64 seq)/\w'.cell? ⟨w.heap.size,2,none⟩=some (.int .i64 half)/\w'.cell? ⟨w.heap.size,3,none⟩=some (.int .i64 used)) [] (by kernel_rfl) (by exact⟨eC.cell p0,eC.cell p1,eC.cell p2,eC.cell p3⟩) (fun hHeld=>?_);refine sP 0 (h:=?_);refine sT 1 (h:=?_);refine sP 2 (h:=?_);refine sP 3 (h:=?_);refine sP 4 (h:=?_);refine sT 5 (h:=?_);refine sP 6 (h:=?_);refine sP 7 (h:=?_);refine sP 8 (h:=?_);refine sP 9 (h:=?_);refine sT 10 (h:=?_);refine sP 11 (h:=?_);refine sP 12 (h:=?_);refine sP 13 (h:=?_);refine sP 14 (h:=?_);refine sT 15 (h:=?_);refine sP 16 (h:=?_);refine sP 17 (h:=?_);refine sP 18 (h:=?_);refine sP 19 (h:=?_);refine sT 20 (h:=?_);refine sP 21 (h:=?_);refine sP 22 (h:=?_);refine sP 23 (h:=?_);refine sF 24 (h:=?_);refine sF 25 (h:=?_);refine sF 26 (h:=?_);refine sP 27 (h:=?_);refine sP 28 (h:=?_);refine sF 29 (h:=?_);refine sF 30 (h:=?_);refine sF 31 (h:=?_);refine sF 32 (h:=?_);refine sF 33 (h:=?_);refine sF 34 (h:=?_);refine sP 35 (h:=?_);refine sP 36 (h:=?_);refine sF 37 (h:=?_);refine sF 38 (h:=?_);refine sF 39 (h:=?_);refine sP 40 (h:=?_);refine ql (by kernel_rfl) ?_ _;clear hHeld;have HVB:Hid (qH s=false):=zi (by rw[<-hsize.out,<-hseq.out,<-hhalf.out,<-hused.out];generalize qP size=h9;omega)
  have HX9:=q_h (HX.out.trans eC);clear eC p0 p1 p2 p3;go_wp2
  first|go_ret|skip
  exact⟨qw (hr.out.trans HVB.out).symm,HX9.out⟩
 have d4:decide (half<0)=false:=q_f hc4
 by_cases hc5:1<half
 ·have d5:decide (1<half)=true:=q_t hc5;have eC:=(Ext.refl W).drew;refine qh (fun w'=>w'.cell? ⟨w.heap.size,0,none⟩=some (.int .i64 size)/\w'.cell? ⟨w.heap.size,1,none⟩=some (.int .i64 seq)/\w'.cell? ⟨w.heap.size,2,none⟩=some (.int .i64 half)/\w'.cell? ⟨w.heap.size,3,none⟩=some (.int .i64 used)) [] (by kernel_rfl) (by exact⟨eC.cell p0,eC.cell p1,eC.cell p2,eC.cell p3⟩) (fun hHeld=>?_);refine sP 0 (h:=?_);refine sT 1 (h:=?_);refine sP 2 (h:=?_);refine sP 3 (h:=?_);refine sP 4 (h:=?_);refine sT 5 (h:=?_);refine sP 6 (h:=?_);refine sP 7 (h:=?_);refine sP 8 (h:=?_);refine sP 9 (h:=?_);refine sT 10 (h:=?_);refine sP 11 (h:=?_);refine sP 12 (h:=?_);refine sP 13 (h:=?_);refine sP 14 (h:=?_);refine sT 15 (h:=?_);refine sP 16 (h:=?_);refine sP 17 (h:=?_);refine sP 18 (h:=?_);refine sP 19 (h:=?_);refine sT 20 (h:=?_);refine sP 21 (h:=?_);refine sP 22 (h:=?_);refine sP 23 (h:=?_);refine sP 24 (h:=?_);refine sT 25 (h:=?_);refine sP 26 (h:=?_);refine sP 27 (h:=?_);refine sP 28 (h:=?_);refine sF 29 (h:=?_);refine sF 30 (h:=?_);refine sF 31 (h:=?_);refine sF 32 (h:=?_);refine sF 33 (h:=?_);refine sF 34 (h:=?_);refine sP 35 (h:=?_);refine sP 36 (h:=?_);refine sF 37 (h:=?_);refine sF 38 (h:=?_);refine sF 39 (h:=?_);refine sP 40 (h:=?_);refine ql (by kernel_rfl) ?_ _;clear hHeld;have HVB:Hid (qH s=false):=zi (by rw[<-hsize.out,<-hseq.out,<-hhalf.out,<-hused.out];generalize qP size=h9;omega)
  have HX9:=q_h (HX.out.trans eC);clear eC p0 p1 p2 p3;go_wp2
  first|go_ret|skip
  exact⟨qw (hr.out.trans HVB.out).symm,HX9.out⟩
 have d5:decide (1<half)=false:=q_f hc5;obtain⟨h,hh⟩:=qc (qP size);have HHF:Hid (∀w,Calls Tryz.prog 103 #[.int .i64 size] w (qG w (.int .i64 h))):=fun w=>by rw[hh.out];exact wY (by omega) (by omega) w
 by_cases hc6:h<used
 ·have d6:decide (h<used)=true:=q_t hc6;have eC:=(Ext.refl W).drew;refine qh (fun w'=>w'.cell? ⟨w.heap.size,0,none⟩=some (.int .i64 size)/\w'.cell? ⟨w.heap.size,1,none⟩=some (.int .i64 seq)/\w'.cell? ⟨w.heap.size,2,none⟩=some (.int .i64 half)/\w'.cell? ⟨w.heap.size,3,none⟩=some (.int .i64 used)) [] (by kernel_rfl) (by exact⟨eC.cell p0,eC.cell p1,eC.cell p2,eC.cell p3⟩) (fun hHeld=>?_);refine sP 0 (h:=?_);refine sT 1 (h:=?_);refine sP 2 (h:=?_);refine sP 3 (h:=?_);refine sP 4 (h:=?_);refine sT 5 (h:=?_);refine sP 6 (h:=?_);refine sP 7 (h:=?_);refine sP 8 (h:=?_);refine sP 9 (h:=?_);refine sT 10 (h:=?_);refine sP 11 (h:=?_);refine sP 12 (h:=?_);refine sP 13 (h:=?_);refine sP 14 (h:=?_);refine sT 15 (h:=?_);refine sP 16 (h:=?_);refine sP 17 (h:=?_);refine sP 18 (h:=?_);refine sP 19 (h:=?_);refine sT 20 (h:=?_);refine sP 21 (h:=?_);refine sP 22 (h:=?_);refine sP 23 (h:=?_);refine sP 24 (h:=?_);refine sT 25 (h:=?_);refine sP 26 (h:=?_);refine sP 27 (h:=?_);refine sP 28 (h:=?_);refine sP 29 (h:=?_);refine sT 30 (h:=?_);refine sP 31 (h:=?_);refine sT 32 (h:=?_);refine qf (i:=33) rfl (by kernel_rfl) (fun K hK=>?_);rw[if_pos (by rfl)];go_simp;refine (HHF.out _).mono ?_;rintro e w3 ⟨rfl,e3⟩;replace eC:=eC.trans e3;go_wp2_with fail;clear hHeld;refine hK.out _ _ (by exact⟨eC.cell p0,eC.cell p1,eC.cell p2,eC.cell p3⟩) fun hHeld=>?_
  clear hK K;try simp only[nr]
  refine sP 34 (h:=?_);refine sP 35 (h:=?_);refine sP 36 (h:=?_);refine sF 37 (h:=?_);refine sF 38 (h:=?_);refine sF 39 (h:=?_);refine sP 40 (h:=?_);refine ql (by kernel_rfl) ?_ _;clear hHeld;have HVB:Hid (qH s=false):=zi (by rw[<-hsize.out,<-hseq.out,<-hhalf.out,<-hused.out];rw[<-hh.out];omega);have HX9:=q_h (HX.out.trans eC);clear eC p0 p1 p2 p3 e3;go_wp2
  first|go_ret|skip
  exact⟨qw (hr.out.trans HVB.out).symm,HX9.out⟩
 have d6:decide (h<used)=false:=q_f hc6
 by_cases hc7:used<0
 ·have d7:decide (used<0)=true:=q_t hc7;have eC:=(Ext.refl W).drew;refine qh (fun w'=>w'.cell? ⟨w.heap.size,0,none⟩=some (.int .i64 size)/\w'.cell? ⟨w.heap.size,1,none⟩=some (.int .i64 seq)/\w'.cell? ⟨w.heap.size,2,none⟩=some (.int .i64 half)/\w'.cell? ⟨w.heap.size,3,none⟩=some (.int .i64 used)) [] (by kernel_rfl) (by exact⟨eC.cell p0,eC.cell p1,eC.cell p2,eC.cell p3⟩) (fun hHeld=>?_);refine sP 0 (h:=?_);refine sT 1 (h:=?_);refine sP 2 (h:=?_);refine sP 3 (h:=?_);refine sP 4 (h:=?_);refine sT 5 (h:=?_);refine sP 6 (h:=?_);refine sP 7 (h:=?_);refine sP 8 (h:=?_);refine sP 9 (h:=?_);refine sT 10 (h:=?_);refine sP 11 (h:=?_);refine sP 12 (h:=?_);refine sP 13 (h:=?_);refine sP 14 (h:=?_);refine sT 15 (h:=?_);refine sP 16 (h:=?_);refine sP 17 (h:=?_);refine sP 18 (h:=?_);refine sP 19 (h:=?_);refine sT 20 (h:=?_);refine sP 21 (h:=?_);refine sP 22 (h:=?_);refine sP 23 (h:=?_);refine sP 24 (h:=?_);refine sT 25 (h:=?_);refine sP 26 (h:=?_);refine sP 27 (h:=?_);refine sP 28 (h:=?_);refine sP 29 (h:=?_);refine sT 30 (h:=?_);refine sP 31 (h:=?_);refine sT 32 (h:=?_);refine qf (i:=33) rfl (by kernel_rfl) (fun K hK=>?_);rw[if_pos (by rfl)];go_simp;refine (HHF.out _).mono ?_;rintro e w3 ⟨rfl,e3⟩;replace eC:=eC.trans e3;go_wp2_with fail;clear hHeld;refine hK.out _ _ (by exact⟨eC.cell p0,eC.cell p1,eC.cell p2,eC.cell p3⟩) fun hHeld=>?_
  clear hK K;try simp only[nr]
  refine sP 34 (h:=?_);refine sP 35 (h:=?_);refine sP 36 (h:=?_);refine sP 37 (h:=?_);refine sT 38 (h:=?_);refine sP 39 (h:=?_);refine sP 40 (h:=?_);refine ql (by kernel_rfl) ?_ _;clear hHeld;have HVB:Hid (qH s=false):=JS (by rw[<-hused.out];omega);have HX9:=q_h (HX.out.trans eC);clear eC p0 p1 p2 p3 e3;go_wp2
  first|go_ret|skip
  exact⟨qw (hr.out.trans HVB.out).symm,HX9.out⟩
 have d7:decide (used<0)=false:=q_f hc7;have eC:=(Ext.refl W).drew;refine qh (fun w'=>w'.cell? ⟨w.heap.size,0,none⟩=some (.int .i64 size)/\w'.cell? ⟨w.heap.size,1,none⟩=some (.int .i64 seq)/\w'.cell? ⟨w.heap.size,2,none⟩=some (.int .i64 half)/\w'.cell? ⟨w.heap.size,3,none⟩=some (.int .i64 used)) [] (by kernel_rfl) (by exact⟨eC.cell p0,eC.cell p1,eC.cell p2,eC.cell p3⟩) (fun hHeld=>?_);refine sP 0 (h:=?_);refine sT 1 (h:=?_);refine sP 2 (h:=?_);refine sP 3 (h:=?_);refine sP 4 (h:=?_);refine sT 5 (h:=?_);refine sP 6 (h:=?_);refine sP 7 (h:=?_);refine sP 8 (h:=?_);refine sP 9 (h:=?_);refine sT 10 (h:=?_);refine sP 11 (h:=?_);refine sP 12 (h:=?_);refine sP 13 (h:=?_);refine sP 14 (h:=?_);refine sT 15 (h:=?_);refine sP 16 (h:=?_);refine sP 17 (h:=?_);refine sP 18 (h:=?_);refine sP 19 (h:=?_);refine sT 20 (h:=?_);refine sP 21 (h:=?_);refine sP 22 (h:=?_);refine sP 23 (h:=?_);refine sP 24 (h:=?_);refine sT 25 (h:=?_);refine sP 26 (h:=?_);refine sP 27 (h:=?_);refine sP 28 (h:=?_);refine sP 29 (h:=?_);refine sT 30 (h:=?_);refine sP 31 (h:=?_);refine sT 32 (h:=?_);refine qf (i:=33) rfl (by kernel_rfl) (fun K hK=>?_);rw[if_pos (by rfl)];go_simp;refine (HHF.out _).mono ?_;rintro e w3 ⟨rfl,e3⟩;replace eC:=eC.trans e3;go_wp2_with fail;clear hHeld;refine hK.out _ _ (by exact⟨eC.cell p0,eC.cell p1,eC.cell p2,eC.cell p3⟩) fun hHeld=>?_
 clear hK K;try simp only[nr]
 refine sP 34 (h:=?_);refine sP 35 (h:=?_);refine sP 36 (h:=?_);refine sP 37 (h:=?_);refine sT 38 (h:=?_);refine sP 39 (h:=?_);refine sP 40 (h:=?_);refine ql (by kernel_rfl) ?_ _;clear hHeld
 have HHD:Hid (headB s=true):=by
  rw[Hid];unfold headB;rw[<-hsize.out,<-hseq.out,<-hhalf.out,<-hused.out,<-hh.out];simp only[Bool.and_eq_true,decide_eq_true_eq];omega
 have HX3:=q_h (HX.out.trans eC);have HB03:=q_h (eC.block HB0.out);clear eC e3 p0 p1 p2 p3 p4 p5 HB0 HX d0 d1 d2 d3 d4 d5 d6 d7 HHF;go_upto_region 5 with (fail);refine qm ?_;intro W4 hE4 hsz4 BN;obtain⟨gN,hgN⟩:=qc w3.heap.size;rw[<-hgN.out] at BN ⊢;have HGW:Hid (w.heap.size<gN):=by have:=qK HB03.out;have:=hgN.out;rw[Hid];omega
 have HX4:=q_h (HX3.out.trans hE4);have HB04:=q_h (hE4.block HB03.out);have HBN:=q_h BN;have HG4:Hid (qA 9 (gN+1) W4 (.slice none (0:Nat) 0) (((s.objs.take 0).map qO).map sV)):=qA.nil (by have:=qK BN;omega);clear hE4 hsz4 BN HX3 HB03;obtain⟨q0,q1,q2,q3,q4,q5⟩:=qp HB04.out;go_wp2_with fail;clear q0 q1 q2 q3 q4 q5
 go_loopw [55,3] (fun iv nv wr=>∃(i:Nat) (A':Option Addr) (c':Nat),i<=n1/\iv=.int .i64 (i:Int)/\nv=.int .i64 ((pgO (s.objs.take i):Nat):Int)/\Hid (pgO (s.objs.take i)<=100*i)/\Hid (wo [] (s.objs.take i)=true)/\Hid (wr.heap[gN]?=some (.cells #[.slice A' i c'] 26 (0,0)))/\Hid (qA 9 (gN+1) wr (.slice A' i c') (((s.objs.take i).map qO).map sV))/\Hid (Ext w wr)
  /\ Hid (wr.heap[w.heap.size]?=some (.cells #[.int .i64 size,.int .i64 seq,.int .i64 half,.int .i64 used,.slice A1 n1 c1,.slice A2 n2 c2] 25 (0,0)))) (fun iv _ _=>n1-(intOf iv).toNat)
 case atStart=>exact⟨0,none,0,Nat.zero_le _,rfl,rfl,Nat.zero_le _,rfl,HBN,HG4,HX4,HB04⟩
 case round =>
  clear HBN HG4 HX4 HB04;obtain⟨i,Av,cv,hi9,rfl,rfl,HPG,HOB,HN,HG,HX,HB0⟩:=hrel;obtain⟨pg,hpg⟩:=qc (pgO (s.objs.take i));rw[<-hpg.out] at HPG ⊢;obtain⟨K,hK⟩:=qc ((s.objs.take i).map qO);rw[<-hK.out] at HG;have HKL:Hid (K.length=i):=by rw[Hid,hK.out,List.length_map,List.length_take];have:=HN1.out;omega
  by_cases hlt:i<n1
  case pos =>
   have u5:decide ((i:Int)<(n1:Int))=true:=q_t (by omega);have u6:(i:Int)<(n1:Int):=by omega
   have hil:i<s.objs.length:=by have:=HN1.out;omega
   obtain⟨go,off,rfl,hx⟩:=HO.out.at_ HN1.out (by omega);obtain⟨B1,m1,d1,B2,m2,d2,k0,k1,hobr⟩:=hx i hlt;have HOR:Hid (∀wq,Ext w wq->ObR wq (.slice B1 m1 d1) (.slice B2 m2 d2) (s.objs.getD i default)):=fun wq e=>hobr.ext e
   replace k0:=HX.out.cell k0;replace k1:=HX.out.cell k1;clear hx hobr;go_upto_region 8 with (fail);refine qm ?_;intro w4 e4 hsz4 BQ;obtain⟨q,hq⟩:=qc wr.heap.size;rw[<-hq.out] at BQ ⊢;have HX4:=q_h (HX.out.trans e4);have HBQ:=q_h BQ;obtain⟨k0,k1,-⟩:=cells2 BQ;have HOR4:=q_h (HOR.out w4 HX4.out);have HB04:=q_h (e4.block HB0.out);have HN4:=q_h (e4.block HN.out);have HG4:=q_h (qA.ext HG.out e4);clear e4 BQ HX HB0 HN HG hsz4;go_wp2_with (go_at_call 16;refine q_o ?_);refine (Q3 HOR4.out (HOK.out i hil)).mono ?_;rintro e wq ⟨rfl,e5⟩;obtain⟨cd,hcd⟩:=qc (obC (s.objs.getD i default));obtain⟨nm,hnm⟩:=qc (nmO (s.objs.getD i default));rw[<-hcd.out,zy,<-hnm.out];obtain⟨C1,hC1⟩:=qc (bA nm);rw[<-hC1.out];have HX6:=q_h (HX4.out.trans e5);have HB06:=q_h (e5.block HB04.out);have HN6:=q_h (e5.block HN4.out);have HG6:=q_h (qA.ext HG4.out e5);have HBQ6:=q_h (e5.block HBQ.out);clear e5 k0 k1 HBQ HB04 HN4 HG4 HX4 HOR4;obtain⟨k0,k1,-⟩:=cells2 HBQ6.out;have kn:wq.cell? ⟨gN,0,none⟩=some (.slice Av i cv):=qj HN6.out 0;go_upto_region 9 with (fail)
   by_cases hcd0:cd=0
   case neg =>
    have d8:(cd != 0)=true:=by simpa using hcd0
    have d9:decide (cd=0)=false:=q_f hcd0
    have HVB:Hid (qH s=false):=wU hil HOB.out (by
     unfold xZ;rw[<-hcd.out,show (cd == 0)=false by simpa using hcd0]
     rfl)
    have HX9:=HX6;go_wp2
    first|go_ret|skip
    exact⟨qw (hr.out.trans HVB.out).symm,HX9.out⟩
   have d8:(cd != 0)=false:=by simpa using hcd0
   have d9:decide (cd=0)=true:=q_t hcd0;have HC0:Hid (obC (s.objs.getD i default)=0):=hcd.out.symm.trans hcd0;have HOKO:=q_h (yT HC0.out)
   have HNMO:Hid (nm=qO (s.objs.getD i default)):=by
    rw[Hid,hnm.out];unfold nmO;rw[if_pos HC0.out]
   have HKS:=q_h (GrS.strs (l:=K) HG6.out)
   have HCT:Hid (∀w',Ext wq w'->Calls Tryz.prog 47 #[.slice Av i cv,.string C1] w' (qG w' (.bool (K.contains nm)))):=fun w' e=>by
    rw[hC1.out,<-zy];exact zZ (HKS.out.ext e) (by have:=HKL.out;omega)
   obtain⟨ct,hct⟩:=qc (K.contains nm);rw[<-hct.out] at HCT;cases ct with
   | true =>
    go_wp2_with (go_at_call 47;refine q_o ?_);refine (HCT.out _ (Ext.refl _)).mono ?_;rintro e w5 ⟨rfl,e5⟩
    have HVB:Hid (qH s=false):=wU hil HOB.out (by
     unfold xZ;rw[<-hK.out,<-HNMO.out,<-hct.out]
     simp)
    have HX9:=q_h (HX6.out.trans e5);clear k0 k1 kn e5;go_wp2
    first|go_ret|skip
    exact⟨qw (hr.out.trans HVB.out).symm,HX9.out⟩
   | false =>
    obtain⟨al,hal⟩:=qc ((s.objs.getD i default).links.all (K.contains ·))
    have HML:Hid (m1=(s.objs.getD i default).links.length):=by
     obtain⟨A7,c7,h7,-⟩:=(HOR.out wq HX6.out).1.form;injection h7
    have HCF:Hid (∀w',Ext wq w'->Calls Tryz.prog 56 #[.slice B1 m1 d1,.func (.func 111) #[] #[.pointer (some ⟨gN,0,none⟩)]] w' (qG w' (.bool (!al)))):=fun w' e=>by
     rw[hal.out,<-jF,<-HML.out];refine X7 (l:=(s.objs.getD i default).links) ⟨HML.out,(HOR.out w' (HX6.out.trans e)).1⟩ _ (fun j hj w9 u e9 hu=>?_);rw[hu.out];exact QN ((e.trans e9).cell (qj HN6.out 0)) (HKS.out.ext (e.trans e9)) (by have:=HKL.out;omega)
    have HAB:Hid (xZ K (s.objs.getD i default)=al):=by
     rw[Hid,KT HC0.out (by rw[<-HNMO.out];exact hct.out.symm),hal.out]
    go_wp2_with (go_at_call 47;refine q_o ?_);refine (HCT.out _ (Ext.refl _)).mono ?_;rintro e w5 ⟨rfl,e5⟩;replace k0:=e5.cell k0;replace kn:=e5.cell kn;go_wp2_with (go_at_call 56;refine q_o ?_);refine (HCF.out _ e5).mono ?_;rintro e w6 ⟨rfl,e6⟩;have eC:=e5.trans e6;cases al with
    | false =>
     have HVB:Hid (qH s=false):=wU hil HOB.out (by
      rw[<-hK.out]
      exact HAB.out)
     have HX9:=q_h (HX6.out.trans eC);clear eC k0 k1 kn e5 e6;go_wp2
     first|go_ret|skip
     exact⟨qw (hr.out.trans HVB.out).symm,HX9.out⟩
    | true =>
     have HOB5:Hid (wo [] (s.objs.take (i+1))=true):=by
      rw[Hid,take_snoc s.objs default hil,xw,HOB.out,List.nil_append,<-hK.out,HAB.out]
      rfl
     have HX7:=q_h (HX6.out.trans eC);have HB07:=q_h (eC.block HB06.out);have HN7:=q_h (eC.block HN6.out);have HG7:=q_h (qA.ext HG6.out eC);have HBQ7:=q_h (eC.block HBQ6.out);clear eC e5 e6 k0 k1 kn HB06 HN6 HG6 HBQ6 HX6 HCT HCF;have kn:w6.cell? ⟨gN,0,none⟩=some (.slice Av i cv):=qj HN7.out 0;go_wp2_with (at_builtin;refine q_o ?_);refine qm ?_;intro w8 e8 hsz8 B8;have hG8:=qA.ext HG7.out e8;have hlen:(K.map sV).length=i:=by rw[List.length_map];exact HKL.out
     refine zA wR rfl _ _ 26 Tryz.underlying26 rfl (by rfl) hG8 (m:=1) (c:=1) (news:=[.string C1]) (by rfl) rfl (jK B8) (fun x hx=>by rw[List.mem_singleton.1 hx];rfl) (by omega) (by omega) ?_;rintro g18 cap18 w18 hG18 hat18 ⟨g9,hlo,hw9,C9,-⟩;rw[hlen] at hG18 ⊢
     have HG9:Hid (qA 9 (gN+1) w18 (.slice (some ⟨g18,0,none⟩) (i+1) cap18) (((s.objs.take (i+1)).map qO).map sV)):=by
      rw[take_snoc s.objs default hil,List.map_append,<-hK.out,List.map_append]
      show Hid (qA _ _ _ _ (_ ++ [sV (qO (s.objs.getD i default))]))
      rw[<-HNMO.out,zy,<-hC1.out];exact hG18
     have HX9:Hid (Ext w w18):=C9.ext (HX7.out.trans e8) (by have:=HGW.out;omega);have hN8:w18.heap[gN]?=some (.cells #[.slice Av i cv] 26 (0,0)):=C9.blk (e8.block HN7.out) (.inl (by omega));have hB8:=C9.blk (e8.block HB07.out) (.inl (by have:=HGW.out;omega))
     have hBQ9:w18.heap[q]?=some (.cells #[.slice B1 m1 d1,.slice B2 m2 d2] 29 (0,0)):=by
      refine C9.blk (e8.block HBQ7.out) ?_
      have:q≠g9:=by
       rcases hw9 with h9|h9
       ·intro e;rw[<-e] at h9
        rcases HG7.out.2.2 with ⟨h1,h2⟩|⟨g0,cap,cur,h1,hb,hh9,-⟩
        ·rw[h1] at h9;simp[Value.ownBlock] at h9
        ·rw[h1] at h9;obtain rfl:g0=q:=by simpa[Value.ownBlock] using h9
         rw[HBQ7.out] at hh9;injection hh9 with hh9
         injection hh9 with a1 a2 a3
         exact absurd a2 (by decide)
       ·have:=qK (e8.block HBQ7.out);omega
      omega
     obtain⟨wa,Ea,Ba,Ua⟩:=qI hN8 0 (.slice (some ⟨g18,0,none⟩) (i+1) cap18);have f5:=qo hN8 0;have c5:w18.cell? ⟨gN,0,none⟩=some (.slice Av i cv):=qj hN8 0;have Ca:=Ua.chg (NoU.mk hN8 (by decide));have HNa:Hid (wa.heap[gN]?=some (.cells #[.slice (some ⟨g18,0,none⟩) (i+1) cap18] 26 (0,0))):=Ba;have HXa:Hid (Ext w wa):=Ca.ext HX9.out (by have:=HGW.out;omega);have HB0a:Hid (wa.heap[w.heap.size]?=_):=(Ua.block _ (by have:=HGW.out;omega)).trans hB8
     have HGa:Hid (qA 9 (gN+1) wa (.slice (some ⟨g18,0,none⟩) (i+1) cap18) (((s.objs.take (i+1)).map qO).map sV)):=by
      refine⟨by rw[Ua.size];exact HG9.out.1,HG9.out.2.1,?_⟩
      rcases HG9.out.2.2 with h0|⟨g0,cap,cur,hv,hb,hh9,h1⟩
      ·exact .inl h0
      ·exact .inr ⟨g0,cap,cur,hv,hb,(Ua.block _ (by omega)).trans hh9,h1⟩
     have hqg:q≠gN:=by
      rintro rfl;rw[hN8] at hBQ9;injection hBQ9 with h1
      injection h1 with h2 h3 h4
      exact absurd h3 (by decide)
     have HBQa:=q_h ((Ua.block _ hqg).trans hBQ9);clear hG18 hat18 hlo hw9 C9 B8 e8 hsz8 hG8 HG7 HN7 HB07 HBQ7 HX7 HX9 HG9 hN8 hB8 hBQ9 Ba Ua Ca kn hqg;obtain⟨k0,k1,-⟩:=cells2 HBQa.out;go_upto_region 12 with (fail);clear c5 f5 Ea;go_wp2_with (go_at_call 65;refine q_o ?_);refine (zW (HOR.out _ HXa.out) HOKO.out).mono ?_;rintro e wx ⟨vx,rfl,hGx,ex⟩;have hpb:=QK HOKO.out;rw[xK] at hGx;obtain⟨pn,hpn⟩:=qc (pgN (obE (s.objs.getD i default)));rw[<-hpn.out] at hGx hpb;obtain⟨Ax,cx,rfl,-⟩:=hGx.form;have hpn9:pn<=100:=hpb.1;have hpg9:pg<=100000:=by have:=HPG.out;omega
     have HSUM:Hid (pgO (s.objs.take (i+1))=pg+pn):=by rw[Hid,take_snoc s.objs default hil,Ko,hpg.out,hpn.out]
     have HPG7:Hid (pgO (s.objs.take (i+1))<=100*(i+1)):=by rw[Hid,HSUM.out];have:=HPG.out;omega
     have HXx:=q_h (HXa.out.trans ex);have HNx:=q_h (ex.block HNa.out);have HB0x:=q_h (ex.block HB0a.out);have HGx:=q_h (qA.ext HGa.out ex);clear hGx ex k0 k1 hpb HBQa HXa HNa HB0a HGa;go_wp2;go_roundw
     case rel=>exact⟨i+1,_,cap18,by omega,by go_num,by rw[HSUM.out];go_num,HPG7,HOB5,HNx,HGx,HXx,HB0x⟩
     case measure=>simp[intOf];omega
  obtain rfl:i=n1:=by omega
  have u5:decide ((i:Int)<(i:Int))=false:=q_f (by omega);have HTK1:Hid (s.objs.take i=s.objs):=List.take_of_length_le (by have:=HN1.out;omega);rw[HTK1.out] at HOB hpg hK;have HKN:Hid (xy s=K):=hK.out.symm;have HKS:=q_h (GrS.strs (l:=K) HG.out);obtain⟨q0,q1,q2,q3,q4,q5⟩:=qp HB0.out;obtain⟨w8,hw8⟩:∃w8,w8=wr:=⟨_,rfl⟩
  subst hw8;go_wp2_with fail;clear q0 q1 q2 q3 q4 q5
  go_loopw [90,3] (fun iv nv wr=>∃(j:Nat),j<=n2/\iv=.int .i64 (j:Int)/\nv=.int .i64 ((pg+pgT (s.tags.take j):Nat):Int)/\Hid (pgT (s.tags.take j)<=100*j)/\Hid (Zc (xy s) none (s.tags.take j)=true)/\Hid (Ext w8 wr)) (fun iv _ _=>n2-(intOf iv).toNat)
  case atStart=>exact⟨0,Nat.zero_le _,rfl,by simp[pgT],Nat.zero_le _,rfl,Ext.refl _⟩
  case round =>
   obtain⟨j,hj9,rfl,rfl,HPT,HTB9,HE⟩:=hrel;obtain⟨pt,hpt⟩:=qc (pg+pgT (s.tags.take j));rw[<-hpt.out];have HPT9:Hid (pt<=300000):=by have:=hpt.out;have:=HPT.out;have:=HPG.out;rw[Hid];omega
   by_cases hjl:j<n2
   case pos =>
    have u6:decide ((j:Int)<(n2:Int))=true:=q_t (by omega);have u7:(j:Int)<(n2:Int):=by omega
    obtain⟨gt,ot,rfl,hx⟩:=Xm.addr ⟨HN2.out,HT.out⟩ (by omega);obtain⟨x1,x2,k0,k1,hv⟩:=hx j hjl;have hjs:j<s.tags.length:=by have:=HN2.out;omega
    have e12:x1=.string (bA (s.tags.getD j default).name)/\x2=.string (bA (s.tags.getD j default).target):=by
     have h9:=hv.out;simp only[Value.agg.injEq,Array.mk.injEq,List.cons.injEq,and_true] at h9;exact h9
    obtain⟨B1,hB1⟩:=qc (bA (s.tags.getD j default).name);obtain⟨B2,hB2⟩:=qc (bA (s.tags.getD j default).target);rw[<-hB1.out,<-hB2.out] at e12;obtain⟨rfl,rfl⟩:=e12;have HX2:=q_h (HX.out.trans HE.out);replace k0:=HX2.out.cell k0;replace k1:=HX2.out.cell k1;have HXC:Hid (∀i,i<n2->∃u1 u2,w.cell? ⟨gt,ot+i*2,none⟩=some u1/\w.cell? ⟨gt,ot+i*2+1,none⟩=some u2/\Hid (.agg #[u1,u2]=Value.agg #[sV (s.tags.getD i default).name,sV (s.tags.getD i default).target])):=hx;clear hv hx;go_upto_region 17 with (fail);refine qm ?_;intro wq e4 hsz4 BQ;obtain⟨q,hq⟩:=qc wr.heap.size;rw[<-hq.out] at BQ ⊢;have HX6:=q_h (HX2.out.trans e4);have HE6:=q_h (HE.out.trans e4);have HB06:=q_h (HE6.out.block HB0.out);have HN6:=q_h (HE6.out.block HN.out);have HBQ:=q_h BQ;clear BQ e4 k0 k1;obtain⟨k0,k1,-⟩:=cells2 HBQ.out;have q5:wq.cell? ⟨w.heap.size,5,none⟩=some (.slice (some ⟨gt,ot,none⟩) n2 c2):=(qj HB06.out 5).trans rfl;have kn:wq.cell? ⟨gN,0,none⟩=some (.slice Av i cv):=qj HN6.out 0;obtain⟨it,hit⟩:=qc (JJ (s.tags.getD j default).name)
    have HCT:Hid (∀w',Calls Tryz.prog 112 #[.string B1] w' (qG w' (.bool it))):=fun w'=>by
     rw[hit.out,hB1.out]
     have h9:=XZ (bA (s.tags.getD j default).name) (by
      have:=(HTK.out j hjs).1
      show (s.tags.getD j default).name.toArray.size<=_
      rw[List.size_toArray]
      omega) w'
     exact h9
    obtain⟨ok,hok9⟩:=qc (K.contains (s.tags.getD j default).target)
    have HCK:Hid (∀w',Ext wq w'->Calls Tryz.prog 47 #[.slice Av i cv,.string B2] w' (qG w' (.bool ok))):=fun w' e=>by
     rw[hok9.out,hB2.out,<-zy];exact zZ (HKS.out.ext (HE6.out.trans e)) (by have:=HKL.out;omega)
    cases it with
    | false =>
     have eC:=(Ext.refl wq).drew;refine qh (fun w'=>w'.cell? ⟨q,0,none⟩=some (.string B1)) [] (by kernel_rfl) (by exact eC.cell k0) (fun hHeld=>?_);refine sP 0 (h:=?_);refine sT 1 (h:=?_);refine qf (i:=2) rfl (by kernel_rfl) (fun K hK=>?_);go_simp;refine (HCT.out _).mono ?_;rintro e w9t ⟨rfl,e9⟩;replace eC:=eC.trans e9;go_wp2_with fail;clear hHeld;refine hK.out _ _ (by exact eC.cell k0) fun hHeld=>?_
     clear hK K;try simp only[nr]
     refine sP 3 (h:=?_);refine sP 4 (h:=?_);refine sF 5 (h:=?_);refine sF 6 (h:=?_);refine sF 7 (h:=?_);refine sF 8 (h:=?_);refine sF 9 (h:=?_);refine sP 10 (h:=?_);refine sP 11 (h:=?_);refine sF 12 (h:=?_);refine sF 13 (h:=?_);refine sF 14 (h:=?_);refine sF 15 (h:=?_);refine sF 16 (h:=?_);refine sF 17 (h:=?_);refine sF 18 (h:=?_);refine sF 19 (h:=?_);refine sF 20 (h:=?_);refine sF 21 (h:=?_);refine sF 22 (h:=?_);refine sF 23 (h:=?_);refine sF 24 (h:=?_);refine sF 25 (h:=?_);refine sP 26 (h:=?_);refine ql (by kernel_rfl) ?_ _;clear hHeld
     have HVB:Hid (qH s=false):=jI hjs (by
      unfold xg;rw[<-hit.out]
      rfl)
     have HX9:=q_h (HX6.out.trans eC);clear q5 e9 eC k0 k1 kn;go_wp2
     first|go_ret|skip
     exact⟨qw (hr.out.trans HVB.out).symm,HX9.out⟩
    | true =>
    cases ok with
    | false =>
     have eC:=(Ext.refl wq).drew;refine qh (fun w'=>w'.cell? ⟨q,0,none⟩=some (.string B1)/\w'.cell? ⟨q,1,none⟩=some (.string B2)/\w'.cell? ⟨gN,0,none⟩=some (.slice Av i cv)) [] (by kernel_rfl) (by exact⟨eC.cell k0,eC.cell k1,eC.cell kn⟩) (fun hHeld=>?_);refine sP 0 (h:=?_);refine sT 1 (h:=?_);refine qf (i:=2) rfl (by kernel_rfl) (fun K hK=>?_);go_simp;refine (HCT.out _).mono ?_;rintro e w9t ⟨rfl,e9⟩;replace eC:=eC.trans e9;go_wp2_with fail;clear hHeld;refine hK.out _ _ (by exact⟨eC.cell k0,eC.cell k1,eC.cell kn⟩) fun hHeld=>?_
     clear hK K;try simp only[nr]
     refine sP 3 (h:=?_);refine sP 4 (h:=?_);refine sT 5 (h:=?_);refine sP 6 (h:=?_);refine sT 7 (h:=?_);refine qf (i:=8) rfl (by kernel_rfl) (fun K hK=>?_);rw[if_pos (by rfl)];go_simp;refine (HCK.out _ eC).mono ?_;rintro e w9u ⟨rfl,e9u⟩;replace eC:=eC.trans e9u;go_wp2_with fail;clear hHeld;refine hK.out _ _ (by exact⟨eC.cell k0,eC.cell k1,eC.cell kn⟩) fun hHeld=>?_
     clear hK K;try simp only[nr]
     refine sP 9 (h:=?_);refine sP 10 (h:=?_);refine sP 11 (h:=?_);refine sF 12 (h:=?_);refine sF 13 (h:=?_);refine sF 14 (h:=?_);refine sF 15 (h:=?_);refine sF 16 (h:=?_);refine sF 17 (h:=?_);refine sF 18 (h:=?_);refine sF 19 (h:=?_);refine sF 20 (h:=?_);refine sF 21 (h:=?_);refine sF 22 (h:=?_);refine sF 23 (h:=?_);refine sF 24 (h:=?_);refine sF 25 (h:=?_);refine sP 26 (h:=?_);refine ql (by kernel_rfl) ?_ _;clear hHeld
     have HVB:Hid (qH s=false):=jI hjs (by
      unfold xg;rw[HKN.out,<-hok9.out]
      simp)
     have HX9:=q_h (HX6.out.trans eC);clear q5 e9 e9u eC k0 k1 kn;go_wp2
     first|go_ret|skip
     exact⟨qw (hr.out.trans HVB.out).symm,HX9.out⟩
    | true =>
    by_cases hj0:j=0
    ·have dj:decide (0<(j:Int))=false:=q_f (by omega);have dj':decide (0<j)=false:=q_f (by omega);have eC:=(Ext.refl wq).drew;refine qh (fun w'=>w'.cell? ⟨q,0,none⟩=some (.string B1)/\w'.cell? ⟨q,1,none⟩=some (.string B2)/\w'.cell? ⟨gN,0,none⟩=some (.slice Av i cv)) [] (by kernel_rfl) (by exact⟨eC.cell k0,eC.cell k1,eC.cell kn⟩) (fun hHeld=>?_);refine sP 0 (h:=?_);refine sT 1 (h:=?_);refine qf (i:=2) rfl (by kernel_rfl) (fun K hK=>?_);go_simp;refine (HCT.out _).mono ?_;rintro e w9t ⟨rfl,e9⟩;replace eC:=eC.trans e9;go_wp2_with fail;clear hHeld;refine hK.out _ _ (by exact⟨eC.cell k0,eC.cell k1,eC.cell kn⟩) fun hHeld=>?_
     clear hK K;try simp only[nr]
     refine sP 3 (h:=?_);refine sP 4 (h:=?_);refine sT 5 (h:=?_);refine sP 6 (h:=?_);refine sT 7 (h:=?_);refine qf (i:=8) rfl (by kernel_rfl) (fun K hK=>?_);rw[if_pos (by rfl)];go_simp;refine (HCK.out _ eC).mono ?_;rintro e w9u ⟨rfl,e9u⟩;replace eC:=eC.trans e9u;go_wp2_with fail;clear hHeld;refine hK.out _ _ (by exact⟨eC.cell k0,eC.cell k1,eC.cell kn⟩) fun hHeld=>?_
     clear hK K;try simp only[nr]
     refine sP 9 (h:=?_);refine sP 10 (h:=?_);refine sP 11 (h:=?_);refine sP 12 (h:=?_);refine sP 13 (h:=?_);refine sP 14 (h:=?_);refine sF 15 (h:=?_);refine sF 16 (h:=?_);refine sF 17 (h:=?_);refine sF 18 (h:=?_);refine sF 19 (h:=?_);refine sF 20 (h:=?_);refine sF 21 (h:=?_);refine sF 22 (h:=?_);refine sF 23 (h:=?_);refine sF 24 (h:=?_);refine sP 25 (h:=?_);refine sP 26 (h:=?_);refine ql (by kernel_rfl) ?_ _;clear hHeld
     have HT1:Hid (xg (xy s) (lastT none (s.tags.take j)) (s.tags.getD j default)=true):=by
      rw[Hid,xJ s.tags (by omega),if_pos hj0];unfold xg;rw[HKN.out,<-hit.out,<-hok9.out]
      rfl
     clear e9 e9u;have HX9:=q_h (HX6.out.trans eC);have HE9:=q_h (HE6.out.trans eC);have HBQ9:=q_h (eC.block HBQ.out)
     have HTG9:Hid (Zc (xy s) none (s.tags.take (j+1))=true):=by
      rw[Hid,take_snoc s.tags default hjs,kH,HTB9.out,HT1.out]
      rfl
     clear eC k0 k1 q5 kn;obtain⟨k0,k1,-⟩:=cells2 HBQ9.out
     have HCG:Hid (Calls Tryz.prog 113 #[.string B1,.string B2] w9u (Z9 w9u (QV (tgE (s.tags.getD j default))))):=by
      rw[hB1.out,hB2.out];exact y7 (HTK.out j hjs)
     go_wp2_with (go_at_call 113;refine q_o ?_);refine HCG.out.mono ?_;rintro e wx ⟨vx,rfl,hGx,ex⟩;have HEx:=q_h (HE9.out.trans ex);have hpb:=Kq (HTK.out j hjs);rw[xK] at hGx;obtain⟨pn,hpn⟩:=qc (pgN (tgE (s.tags.getD j default)));rw[<-hpn.out] at hGx hpb;obtain⟨Ax,cx,rfl,-⟩:=hGx.form;have hpn9:pn<=100:=hpb.1;clear hGx ex k0 k1 HBQ9 HX9 HCG hpb HE9;have hpg9:pt<=300000:=HPT9.out;have HSUM:Hid (pgT (s.tags.take (j+1))=pgT (s.tags.take j)+pn):=by rw[Hid,take_snoc s.tags default hjs,yw,hpn.out]
     have HPT2:Hid (pgT (s.tags.take (j+1))<=100*(j+1)):=by rw[Hid,HSUM.out];have:=HPT.out;omega
     have HNW:Hid ((pg+pgT (s.tags.take (j+1)):Nat)=pt+pn):=by rw[Hid,HSUM.out,hpt.out];omega
     go_wp2;go_roundw
     case rel=>exact⟨j+1,by omega,by go_num,by rw[HNW.out];go_num,HPT2,HTG9,HEx⟩
     case measure=>simp[intOf];omega
    ·have dj:decide (0<(j:Int))=true:=q_t (by omega);have dj':decide (0<j)=true:=q_t (by omega);obtain⟨jm,hjm⟩:∃jm,jm=j-1:=⟨_,rfl⟩
     have hj1:(j:Int)-1=(jm:Int):=by omega
     have hj2:IntKind.i64.wrap ((j:Int)-1)=(jm:Int):=by rw[hj1];exact wrp (by omega) (by omega)
     have hj5:IntKind.i64.wrap (jm:Int)=(jm:Int):=wrp (by omega) (by omega);have hj3:(jm:Int)<(n2:Int):=by omega
     have hj4:jm<n2:=by omega
     obtain⟨x3,x4,k3,-,hv3⟩:=HXC.out jm hj4
     have e3:x3=.string (bA (s.tags.getD jm default).name):=by
      have h9:=hv3.out;simp only[Value.agg.injEq,Array.mk.injEq,List.cons.injEq,and_true] at h9;exact h9.1
     obtain⟨B3,hB3⟩:=qc (bA (s.tags.getD jm default).name);rw[<-hB3.out] at e3;subst e3;replace k3:=HX6.out.cell k3;obtain⟨le,hle⟩:=qc (ltP (some (s.tags.getD jm default).name) (s.tags.getD j default).name)
     have ule:Go.Op.bytesLess B3.toList B1.toList=le:=by
      rw[hle.out,hB1.out,hB3.out];unfold bA;rw[ByteArray.toList_mk,ByteArray.toList_mk]
      rfl
     have HLT:Hid (lastT none (s.tags.take j)=some (s.tags.getD jm default).name):=by
      rw[Hid,xJ s.tags (by omega),if_neg hj0,hjm]
     clear hv3 hjm;cases le with
     | false =>
      have eC:=(Ext.refl wq).drew;refine qh (fun w'=>w'.cell? ⟨q,0,none⟩=some (.string B1)/\w'.cell? ⟨q,1,none⟩=some (.string B2)/\w'.cell? ⟨gN,0,none⟩=some (.slice Av i cv)/\w'.cell? ⟨w.heap.size,5,none⟩=some (.slice (some ⟨gt,ot,none⟩) n2 c2)/\w'.cell? ⟨gt,ot+jm*2,none⟩=some (.string B3)) [] (by kernel_rfl) (by exact⟨eC.cell k0,eC.cell k1,eC.cell kn,eC.cell q5,eC.cell k3⟩) (fun hHeld=>?_);refine sP 0 (h:=?_);refine sT 1 (h:=?_);refine qf (i:=2) rfl (by kernel_rfl) (fun K hK=>?_);go_simp;refine (HCT.out _).mono ?_;rintro e w9t ⟨rfl,e9⟩;replace eC:=eC.trans e9;go_wp2_with fail;clear hHeld;refine hK.out _ _ (by exact⟨eC.cell k0,eC.cell k1,eC.cell kn,eC.cell q5,eC.cell k3⟩) fun hHeld=>?_
      clear hK K;try simp only[nr]
      refine sP 3 (h:=?_);refine sP 4 (h:=?_);refine sT 5 (h:=?_);refine sP 6 (h:=?_);refine sT 7 (h:=?_);refine qf (i:=8) rfl (by kernel_rfl) (fun K hK=>?_);rw[if_pos (by rfl)];go_simp;refine (HCK.out _ eC).mono ?_;rintro e w9u ⟨rfl,e9u⟩;replace eC:=eC.trans e9u;go_wp2_with fail;clear hHeld;refine hK.out _ _ (by exact⟨eC.cell k0,eC.cell k1,eC.cell kn,eC.cell q5,eC.cell k3⟩) fun hHeld=>?_
      clear hK K;try simp only[nr]
      refine sP 9 (h:=?_);refine sP 10 (h:=?_);refine sP 11 (h:=?_);refine sP 12 (h:=?_);refine sP 13 (h:=?_);refine sP 14 (h:=?_);refine sP 15 (h:=?_);refine sT 16 (h:=?_);refine sP 17 (h:=?_);refine sP 18 (h:=?_);refine sP 19 (h:=?_);refine sP 20 (h:=?_);refine sT 21 (h:=?_);refine sP 22 (h:=?_);refine sT 23 (h:=?_);refine sP 24 (h:=?_);refine sP 25 (h:=?_);refine sP 26 (h:=?_);refine ql (by kernel_rfl) ?_ _;clear hHeld
      have HVB:Hid (qH s=false):=jI hjs (by
       unfold xg;rw[HLT.out,<-hle.out]
       simp)
      have HX9:=q_h (HX6.out.trans eC);clear q5 e9 e9u k3 eC k0 k1 kn;go_wp2
      first|go_ret|skip
      exact⟨qw (hr.out.trans HVB.out).symm,HX9.out⟩
     | true =>
      have eC:=(Ext.refl wq).drew;refine qh (fun w'=>w'.cell? ⟨q,0,none⟩=some (.string B1)/\w'.cell? ⟨q,1,none⟩=some (.string B2)/\w'.cell? ⟨gN,0,none⟩=some (.slice Av i cv)/\w'.cell? ⟨w.heap.size,5,none⟩=some (.slice (some ⟨gt,ot,none⟩) n2 c2)/\w'.cell? ⟨gt,ot+jm*2,none⟩=some (.string B3)) [] (by kernel_rfl) (by exact⟨eC.cell k0,eC.cell k1,eC.cell kn,eC.cell q5,eC.cell k3⟩) (fun hHeld=>?_);refine sP 0 (h:=?_);refine sT 1 (h:=?_);refine qf (i:=2) rfl (by kernel_rfl) (fun K hK=>?_);go_simp;refine (HCT.out _).mono ?_;rintro e w9t ⟨rfl,e9⟩;replace eC:=eC.trans e9;go_wp2_with fail;clear hHeld;refine hK.out _ _ (by exact⟨eC.cell k0,eC.cell k1,eC.cell kn,eC.cell q5,eC.cell k3⟩) fun hHeld=>?_
      clear hK K;try simp only[nr]
      refine sP 3 (h:=?_);refine sP 4 (h:=?_);refine sT 5 (h:=?_);refine sP 6 (h:=?_);refine sT 7 (h:=?_);refine qf (i:=8) rfl (by kernel_rfl) (fun K hK=>?_);rw[if_pos (by rfl)];go_simp;refine (HCK.out _ eC).mono ?_;rintro e w9u ⟨rfl,e9u⟩;replace eC:=eC.trans e9u;go_wp2_with fail;clear hHeld;refine hK.out _ _ (by exact⟨eC.cell k0,eC.cell k1,eC.cell kn,eC.cell q5,eC.cell k3⟩) fun hHeld=>?_
      clear hK K;try simp only[nr]
      refine sP 9 (h:=?_);refine sP 10 (h:=?_);refine sP 11 (h:=?_);refine sP 12 (h:=?_);refine sP 13 (h:=?_);refine sP 14 (h:=?_);refine sP 15 (h:=?_);refine sT 16 (h:=?_);refine sP 17 (h:=?_);refine sP 18 (h:=?_);refine sP 19 (h:=?_);refine sP 20 (h:=?_);refine sT 21 (h:=?_);refine sP 22 (h:=?_);refine sT 23 (h:=?_);refine sP 24 (h:=?_);refine sP 25 (h:=?_);refine sP 26 (h:=?_);refine ql (by kernel_rfl) ?_ _;clear hHeld
      have HT1:Hid (xg (xy s) (lastT none (s.tags.take j)) (s.tags.getD j default)=true):=by
       rw[Hid,HLT.out];unfold xg;rw[HKN.out,<-hit.out,<-hok9.out,<-hle.out]
       rfl
      clear k3 e9 e9u;have HX9:=q_h (HX6.out.trans eC);have HE9:=q_h (HE6.out.trans eC);have HBQ9:=q_h (eC.block HBQ.out)
      have HTG9:Hid (Zc (xy s) none (s.tags.take (j+1))=true):=by
       rw[Hid,take_snoc s.tags default hjs,kH,HTB9.out,HT1.out]
       rfl
      clear eC k0 k1 q5 kn;obtain⟨k0,k1,-⟩:=cells2 HBQ9.out
      have HCG:Hid (Calls Tryz.prog 113 #[.string B1,.string B2] w9u (Z9 w9u (QV (tgE (s.tags.getD j default))))):=by
       rw[hB1.out,hB2.out];exact y7 (HTK.out j hjs)
      go_wp2_with (go_at_call 113;refine q_o ?_);refine HCG.out.mono ?_;rintro e wx ⟨vx,rfl,hGx,ex⟩;have HEx:=q_h (HE9.out.trans ex);have hpb:=Kq (HTK.out j hjs);rw[xK] at hGx;obtain⟨pn,hpn⟩:=qc (pgN (tgE (s.tags.getD j default)));rw[<-hpn.out] at hGx hpb;obtain⟨Ax,cx,rfl,-⟩:=hGx.form;have hpn9:pn<=100:=hpb.1;clear hGx ex k0 k1 HBQ9 HX9 HCG hpb HE9;have hpg9:pt<=300000:=HPT9.out;have HSUM:Hid (pgT (s.tags.take (j+1))=pgT (s.tags.take j)+pn):=by rw[Hid,take_snoc s.tags default hjs,yw,hpn.out]
      have HPT2:Hid (pgT (s.tags.take (j+1))<=100*(j+1)):=by rw[Hid,HSUM.out];have:=HPT.out;omega
      have HNW:Hid ((pg+pgT (s.tags.take (j+1)):Nat)=pt+pn):=by rw[Hid,HSUM.out,hpt.out];omega
      go_wp2;go_roundw
      case rel=>exact⟨j+1,by omega,by go_num,by rw[HNW.out];go_num,HPT2,HTG9,HEx⟩
      case measure=>simp[intOf];omega
   obtain rfl:j=n2:=by omega
   have u6:decide ((j:Int)<(j:Int))=false:=q_f (by omega);have HTK2:Hid (s.tags.take j=s.tags):=List.take_of_length_le (by have:=HN2.out;omega);rw[HTK2.out] at HTB9 hpt;have HPS:Hid (pgs s=pt):=by rw[Hid,hpt.out,hpg.out];rfl
   have HX6:=q_h (HX.out.trans HE.out);have HB06:=q_h (HE.out.block HB0.out);obtain⟨q0,q1,q2,q3,q4,q5⟩:=qp HB06.out;obtain⟨b,hb9⟩:=qc (decide ((pt:Int)<=used));have u8':decide ((pt:Int)<=used)=b:=hb9.out.symm
   have HRB:Hid (r=b):=by
    rw[Hid,hr.out,hb9.out];unfold qH;rw[HHD.out,HOB.out,HTB9.out,HPS.out,<-hused.out]
    rfl
   go_wp2
   first|go_ret|skip
   exact⟨qw HRB.out.symm,HX6.out⟩
end Go.Proofs.YtdeeekdbhhenpaaGreatDoor
