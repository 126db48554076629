import Derived.Test.YtdeeekdbhhenpaaGreatDoorWc10
set_option linter.all false
set_option maxHeartbeats 8000000
set_option maxRecDepth 100000
namespace Go.Proofs.YtdeeekdbhhenpaaGreatDoor
open Go.RowKit
variable {w:World} {n k i base:Nat} {v:Value}
theorem q0O {l l':Byt}{v':Value}(h:ByV w v l) (h':ByV w v' l') (hl:l.length<=1000000000) (hl':l'.length<=1000000000):Calls Tryz.prog 81 #[v,v'] w (qH w (.bool (decide (l=l')))):=by
 have HS:=q_h h;have HS':=q_h h';obtain⟨r,hr⟩:=qf (decide (l=l'));rw[<-hr.out];obtain⟨A,c,rfl,hnc,-⟩:=h.form;obtain⟨A',c',rfl,hnc',-⟩:=h'.form;obtain⟨n,hn⟩:=qf l.length;obtain⟨n',hn'⟩:=qf l'.length;rw[<-hn.out] at HS hnc hl ⊢;rw[<-hn'.out] at HS' hnc' hl' ⊢;clear h h';go_enter Tryz.func81,Tryz.ntmps81
 by_cases hnn:n=n'
 case neg =>
  have u3:((n:Int) != (n':Int))=true:=by simp;omega
  have u4:decide ((n:Int)=(n':Int))=false:=q_f (by omega);have HR:Hid (r=false):=by rw[Hid,hr.out];exact q_f (fun e=>hnn (by rw[hn.out,hn'.out,e]))
  go_wp2;go_ret;exact⟨qx HR.out.symm,Ext.refl w⟩
 subst hnn;have u3:((n:Int) != (n:Int))=false:=by simp
 go_wp2_with fail
 go_loopw [13] (fun iv wr=>∃i:Nat,i<=n/\iv=.int .i64 (i:Int)/\Hid (∀j,j<i->l.getD j 0=l'.getD j 0)/\Hid (Ext w wr)) (fun iv _=>n-(intOf iv).toNat)
 case atStart=>exact⟨0,Nat.zero_le _,rfl,fun j hj=>by omega,Ext.refl w⟩
 case round =>
  obtain⟨i,hi9,rfl,HA,HX⟩:=hrel
  by_cases hlt:i<n
  case neg =>
   have u5:decide ((i:Int)<(n:Int))=false:=q_f (by omega)
   have HR:Hid (r=true):=by
    rw[Hid,hr.out];exact q_t (Vt (by rw[<-hn.out,hn'.out]) (fun j hj=>HA.out j (by have:=hn.out;omega)))
   go_wp2
   first|go_ret|skip
   exact⟨qx HR.out.symm,HX.out⟩
  have u5:decide ((i:Int)<(n:Int))=true:=q_t (by omega);have u6:(i:Int)<(n:Int):=by omega
  obtain⟨g1,o1,rfl,hx1⟩:=(HS.out.ext HX.out).addr (by omega);obtain⟨g2,o2,rfl,hx2⟩:=(HS'.out.ext HX.out).addr (by omega);have k1:=hx1 i hlt;have k2:=hx2 i hlt;obtain⟨z1,hz1⟩:=qf (chZ l i);obtain⟨z2,hz2⟩:=qf (chZ l' i);rw[<-hz1.out] at k1;rw[<-hz2.out] at k2
  have HZ:Hid (z1=z2↔l.getD i 0=l'.getD i 0):=by
   rw[Hid,hz1.out,hz2.out];unfold chZ
   constructor
   ·intro e;exact UInt8.toNat_inj.1 (by omega)
   ·intro e;rw[e]
  obtain⟨wq,hwq⟩:∃wq,wq=wr:=⟨_,rfl⟩
  subst hwq;clear hx1 hx2;go_upto_region 6 with (fail)
  by_cases hzz:z1=z2
  ·have u7:(z1 != z2)=false:=by simpa using hzz
   have u8':decide (z1=z2)=true:=q_t hzz
   have HA2:Hid (∀j,j<i+1->l.getD j 0=l'.getD j 0):=fun j hj=>by
    by_cases h9:j=i
    ·rw[h9];exact HZ.out.1 hzz
    ·exact HA.out j (by omega)
   have eC:=(Ext.refl wq).drew;refine ql (fun w'=>w'.cell? ⟨g1,o1+i,none⟩=some (.int .u8 z1)/\w'.cell? ⟨g2,o2+i,none⟩=some (.int .u8 z2)) [] (by kernel_rfl) (by exact⟨eC.cell k1,eC.cell k2⟩) (fun hHeld=>?_);refine sP 0 (h:=?_);refine sP 1 (h:=?_);refine sP 2 (h:=?_);refine sT 3 (h:=?_);refine sP 4 (h:=?_);refine sP 5 (h:=?_);refine sP 6 (h:=?_);refine sT 7 (h:=?_);refine sP 8 (h:=?_);refine qm (by kernel_rfl) ?_ _;clear hHeld;have HX2:=q_h (HX.out.trans eC);clear eC k1 k2;go_wp2;go_roundw
   case rel=>exact⟨i+1,by omega,by go_num,HA2,HX2⟩
   case measure=>simp[intOf];omega
  ·have u7:(z1 != z2)=true:=by simpa using hzz
   have u8':decide (z1=z2)=false:=q_f hzz
   have HR:Hid (r=false):=by
    rw[Hid,hr.out];refine q_f (fun e=>hzz (HZ.out.2 (by rw[e])))
   have eC:=(Ext.refl wq).drew;refine ql (fun w'=>w'.cell? ⟨g1,o1+i,none⟩=some (.int .u8 z1)/\w'.cell? ⟨g2,o2+i,none⟩=some (.int .u8 z2)) [] (by kernel_rfl) (by exact⟨eC.cell k1,eC.cell k2⟩) (fun hHeld=>?_);refine sP 0 (h:=?_);refine sP 1 (h:=?_);refine sP 2 (h:=?_);refine sT 3 (h:=?_);refine sP 4 (h:=?_);refine sP 5 (h:=?_);refine sP 6 (h:=?_);refine sT 7 (h:=?_);refine sP 8 (h:=?_);refine qm (by kernel_rfl) ?_ _;clear hHeld;have HX2:=q_h (HX.out.trans eC);clear eC k1 k2;go_wp2
   first|go_ret|skip
   exact⟨qx HR.out.symm,HX2.out⟩
theorem Qq {o p:Ob}{x y x' y':Value}(h:ObR w x y o) (h':ObR w x' y' p) (ho:Ok0 o) (hp:Ok0 p):Calls Tryz.prog 42 #[.agg #[x,y],.agg #[x',y']] w (qH w (.bool (decide (o=p)))):=by
 have HO:=q_h h;have HP:=q_h h';obtain⟨r,hr⟩:=qf (decide (o=p));rw[<-hr.out];obtain⟨A0,c0,rfl,-⟩:=h.1.form;obtain⟨A1,c1,rfl,-⟩:=h.2.form;obtain⟨A2,c2,rfl,-⟩:=h'.1.form;obtain⟨A3,c3,rfl,-⟩:=h'.2.form;have HL:Hid (o.links.length<=1000000000/\p.links.length<=1000000000/\o.data.length<=1000000000/\p.data.length<=1000000000):=by have:=ho.1;have:=hp.1;have:=ho.2.1;have:=hp.2.1;rw[Hid];omega
 obtain⟨n0,hn0⟩:=qf o.links.length;obtain⟨n1,hn1⟩:=qf o.data.length;obtain⟨n2,hn2⟩:=qf p.links.length;obtain⟨n3,hn3⟩:=qf p.data.length;rw[<-hn0.out,<-hn1.out] at HO ⊢;rw[<-hn2.out,<-hn3.out] at HP ⊢;clear h h' ho hp;go_enter Tryz.func42,Tryz.ntmps42;go_upto_region 1 with (fail);refine zu ?_;intro w1 hE hsz B0 B1;obtain⟨p0,p1,-⟩:=cells2 B0;obtain⟨q0,q1,-⟩:=cells2 B1;have HB0:=q_h B0;have HB1:=q_h B1;go_wp2_with (go_at_call 32;refine q_o ?_);refine (q0N (HO.out.1.ext hE) (HP.out.1.ext hE) HL.out.1 HL.out.2.1).mono ?_;rintro e w2 ⟨rfl,e2⟩;obtain⟨a,ha⟩:=qf (decide (o.links=p.links));rw[<-ha.out];have HX2:=q_h (hE.trans e2);clear p0 p1 q0 q1;obtain⟨p0,p1,-⟩:=cells2 (e2.block HB0.out);obtain⟨q0,q1,-⟩:=cells2 (e2.block HB1.out);cases a with
 | false =>
  have HR:Hid (r=false):=by
   rw[Hid,hr.out];refine q_f (fun e=>?_);rw[e] at ha;have:=ha.out;simp at this
  go_wp2
  first|go_ret|skip
  exact⟨qx HR.out.symm,HX2.out⟩
 | true =>
  go_wp2_with (go_at_call 81;refine q_o ?_);refine (q0O (HO.out.2.ext HX2.out) (HP.out.2.ext HX2.out) HL.out.2.2.1 HL.out.2.2.2).mono ?_;rintro e w3 ⟨rfl,e3⟩;obtain⟨b,hb⟩:=qf (decide (o.data=p.data));rw[<-hb.out]
  have HR:Hid (r=b):=by
   rw[Hid,hr.out,hb.out];have h1:o.links=p.links:=of_decide_eq_true ha.out.symm
   by_cases h2:o.data=p.data
   ·rw[q_t h2,q_t (by cases o;cases p;simp at h1 h2;rw[h1,h2])]
   ·rw[q_f h2,q_f (fun e=>h2 (by rw[e]))]
  have HX3:=q_h (HX2.out.trans e3);clear p0 p1 q0 q1 e3;go_wp2
  first|go_ret|skip
  exact⟨qx HR.out.symm,HX3.out⟩
def ixZ (l:List Byt) (k:Byt):Int:=match l.idxOf? k with|some j=>(j:Int)|none=>-1
theorem q1C {l:List Byt}{k:Byt}(hi:i<l.length) (h:∀j,j<i->l.getD j []≠k) (h2:l.getD i []=k):ixZ l k=(i:Int):=by
 have:l.idxOf? k=some i:=by
  rw[List.idxOf?_eq_some_iff];rw[List.getD_eq_getElem?_getD,List.getElem?_eq_getElem hi] at h2;refine⟨hi,by simpa using h2,fun j hj=>?_⟩;have:=h j hj;rw[List.getD_eq_getElem?_getD,List.getElem?_eq_getElem (by omega)] at this;simpa using this
 unfold ixZ;rw[this]
theorem q04 {l:List Byt}{k:Byt}(h:∀j,j<l.length->l.getD j []≠k):ixZ l k = -1:=by
 have:l.idxOf? k=none:=by
  rw[List.idxOf?_eq_none_iff];intro hk;obtain⟨j,hj,e⟩:=List.getElem_of_mem hk;have:=h j hj;rw[List.getD_eq_getElem?_getD,List.getElem?_eq_getElem hj] at this;exact this e
 unfold ixZ;rw[this]
theorem q2K (l:List Byt) (k:Byt):decide (0<=ixZ l k)=l.contains k:=by
 rw[<-zf];unfold ixZ;cases l.idxOf? k with
 | none=>rfl
 | some j=>exact q_t (Int.natCast_nonneg j)
theorem q2m {l:List Byt}{k:Byt}(h:qZ w v l) (hl:l.length<=1000000000):Calls Tryz.prog 44 #[v,sV k] w (qH w (.int .i64 (ixZ l k))):=by
 have HS:=q_h h;obtain⟨r,hr⟩:=qf (ixZ l k);rw[<-hr.out];obtain⟨A,c,rfl,hnc,-⟩:=h.form;obtain⟨n,hn⟩:=qf l.length;rw[<-hn.out] at HS hnc hl ⊢;rw[qO];obtain⟨B1,hB1⟩:=qf (bA k);rw[<-hB1.out];clear h;go_enter Tryz.func44,Tryz.ntmps44;go_wp2_with fail
 go_loopw [8] (fun iv wr=>∃i:Nat,i<=n/\iv=.int .i64 (i:Int)/\Hid (∀j,j<i->l.getD j []≠k)/\Hid (Ext w wr)) (fun iv _=>n-(intOf iv).toNat)
 case atStart=>exact⟨0,Nat.zero_le _,rfl,fun j hj=>by omega,Ext.refl w⟩
 case round =>
  obtain⟨i,hi9,rfl,HA,HX⟩:=hrel
  by_cases hlt:i<n
  case neg =>
   have u5:decide ((i:Int)<(n:Int))=false:=q_f (by omega);have HR:Hid (r = -1):=by rw[Hid,hr.out];exact q04 (fun j hj=>HA.out j (by have:=hn.out;omega))
   go_wp2
   first|go_ret|skip
   rw[HR.out];exact⟨rfl,HX.out⟩
  have u5:decide ((i:Int)<(n:Int))=true:=q_t (by omega);have u6:(i:Int)<(n:Int):=by omega
  obtain⟨g1,o1,rfl,hx1⟩:=qZ.at_ (HS.out.ext HX.out) hn.out (by omega);have k1:=hx1 i hlt;rw[qO] at k1;have HB:=q_h (KU k (l.getD i []));obtain⟨B2,hB2⟩:=qf (bA (l.getD i []));rw[<-hB2.out] at k1;rw[<-hB1.out,<-hB2.out] at HB;obtain⟨q,hq⟩:=qf (decide (k=l.getD i []));have ueq:(B1.toList == B2.toList)=q:=by rw[HB.out,hq.out]
  clear hx1;cases q with
  | true =>
   have HR:Hid (r=(i:Int)):=by
    rw[Hid,hr.out];exact q1C (by have:=hn.out;omega) HA.out (of_decide_eq_true hq.out.symm).symm
   go_wp2
   first|go_ret|skip
   rw[HR.out];exact⟨rfl,HX.out⟩
  | false =>
   have HA2:Hid (∀j,j<i+1->l.getD j []≠k):=fun j hj=>by
    by_cases h9:j=i
    ·rw[h9];exact fun e=>(of_decide_eq_false hq.out.symm) e.symm
    ·exact HA.out j (by omega)
   go_wp2;go_roundw
   case rel=>exact⟨i+1,by omega,by go_num,HA2,HX⟩
   case measure=>simp[intOf];omega
theorem zT {l:List Byt}{k:Byt}(h:qZ w v l) (hl:l.length<=1000000000):Calls Tryz.prog 47 #[v,sV k] w (qH w (.bool (l.contains k))):=by
 have HS:=q_h h;have HN:=q_h (q2K l k);obtain⟨z,hz⟩:=qf (ixZ l k);obtain⟨r,hr⟩:=qf (l.contains k);rw[<-hz.out,<-hr.out] at HN;rw[<-hr.out];have u7:decide (0<=z)=r:=HN.out;obtain⟨A,c,rfl,hnc,-⟩:=h.form
 have HC:Hid (∀w',Ext w w'->Calls Tryz.prog 44 #[.slice A l.length c,sV k] w' (qH w' (.int .i64 z))):=fun w' e=>by
  rw[hz.out];exact q2m (HS.out.ext e) hl
 obtain⟨n,hn⟩:=qf l.length;obtain⟨s0,hs0⟩:=qf (sV k);rw[<-hn.out,<-hs0.out] at HC ⊢;clear h;go_enter Tryz.func47,Tryz.ntmps47;go_wp2_with (go_at_call 44;refine q_o ?_);refine (HC.out w (Ext.refl w)).mono ?_;rintro e w1 ⟨rfl,e1⟩;go_wp2;go_ret;exact⟨rfl,e1⟩
def nmL (L:List Ob):List Byt:=L.map qM
theorem V9 {L:List Ob}(h:yJ w v L) (hl:L.length<=1000) (hok:∀i,i<L.length->okO (L.getD i default)):Calls Tryz.prog 43 #[v] w (q25 w (nmL L)):=by
 have HO:=q_h h;have HOK:=q_h hok;obtain⟨R,hR⟩:=qf (q25 w (nmL L));rw[<-hR.out];obtain⟨A,c,rfl,hnc,-⟩:=h.form;obtain⟨n,hn⟩:=qf L.length;rw[<-hn.out] at HO hnc hl ⊢;clear h hok;go_enter Tryz.func43,Tryz.ntmps43;go_wp2_with fail;have hnl:Hid (qB 9 w.heap.size w (.slice none (0:Nat) 0) ((L.take 0).map fun o=>sV (qM o))):=qB.nil (q_r)
 go_loopw [3,8] (fun v i wr=>∃(i0:Nat) (A':Option Addr) (c':Nat),i0<=n/\i=.int .i64 (i0:Int)/\v=.slice A' i0 c'/\Hid (qB 9 w.heap.size wr (.slice A' i0 c') ((L.take i0).map fun o=>sV (qM o)))/\Hid (Ext w wr)) (fun _ i _=>n-(intOf i).toNat)
 case atStart=>exact⟨0,none,0,Nat.zero_le _,rfl,rfl,hnl,Ext.refl _⟩
 case round =>
  clear hnl;obtain⟨i,A',c',hi9,rfl,rfl,HG,HE⟩:=hrel
  by_cases hlt:i<n
  case neg =>
   obtain rfl:i=n:=by omega
   have u5:decide ((i:Int)<(i:Int))=false:=q_f (by omega);go_wp2
   first|go_ret|skip
   rw[hR.out];have h9:=HG.out;rw[List.take_of_length_le (by have:=hn.out;omega)] at h9;refine⟨_,rfl,?_,HE.out⟩
   show qB _ _ _ _ ((L.map qM).map sV)
   rw[List.map_map];exact h9
  have u5:decide ((i:Int)<(n:Int))=true:=q_t (by omega);have u6:(i:Int)<(n:Int):=by omega
  have hil:i<L.length:=by have:=hn.out;omega
  obtain⟨go,off,rfl,hx⟩:=HO.out.at_ hn.out (by omega);obtain⟨B1,m1,d1,B2,m2,d2,k0,k1,hobr⟩:=hx i hlt;have HOR:=q_h (hobr.ext HE.out);replace k0:=HE.out.cell k0;replace k1:=HE.out.cell k1;clear hx hobr;go_upto_region 5 with (fail);refine qo ?_;intro w4 e4 hsz4 BQ;have HG4:=q_h (qB.ext HG.out e4);have HE4:=q_h (HE.out.trans e4);have HOR4:=q_h (HOR.out.ext e4);obtain⟨k0,k1,-⟩:=cells2 BQ;clear e4 HG HE HOR BQ hsz4;go_wp2_with (go_at_call 76;refine q_o ?_);refine (Z8 HOR4.out (HOK.out i hil)).mono ?_;rintro e w5 ⟨rfl,e5⟩;have HG5:=q_h (qB.ext HG4.out e5);have HE5:=q_h (HE4.out.trans e5);clear e5 k0 k1 HG4 HE4 HOR4;obtain⟨nm,hnm⟩:=qf (bA (qM (L.getD i default)));rw[qO,<-hnm.out];go_wp2_with (at_builtin;refine q_o ?_);refine qo ?_;intro w6 e6 hsz6 B6;have hlen:((L.take i).map fun o=>sV (qM o)).length=i:=by rw[List.length_map,List.length_take];omega
  have hG6:=qB.ext HG5.out e6;refine zB xW rfl _ _ 26 Tryz.underlying26 rfl (by rfl) hG6 (m:=1) (c:=1) (news:=[.string nm]) (by rfl) rfl (jD B6) (fun x hx=>by rw[List.mem_singleton.1 hx];rfl) (by omega) (by omega) ?_;rintro g18 cap18 w18 hG18 hat18 ⟨g9,hlo,hw9,C9,-⟩;rw[hlen] at hG18 ⊢
  have HG9:Hid (qB 9 w.heap.size w18 (.slice (some ⟨g18,0,none⟩) (i+1) cap18) ((L.take (i+1)).map fun o=>sV (qM o))):=by
   rw[take_snoc L default hil,List.map_append]
   show Hid (qB _ _ _ _ (_ ++ [sV (qM (L.getD i default))]))
   rw[qO,<-hnm.out];exact hG18
  have HE9:Hid (Ext w w18):=C9.ext (HE5.out.trans e6) (by omega);clear hG18 hat18 hlo hw9 C9 B6 e6 hsz6 HG5 HE5 hG6;go_wp2;go_roundw
  case rel=>exact⟨i+1,_,cap18,by omega,by go_num,rfl,HG9,HE9⟩
  case measure=>simp[intOf];omega
theorem wX {o:Ob}{x y:Value}(h:ObR w x y o) (ho:okO o):Calls Tryz.prog 65 #[.agg #[x,y]] w (Zz w (ZF (obE o))):=by
 have HO:=q_h h;have HK:=q_h ho;obtain⟨R,hR⟩:=qf (Zz w (ZF (obE o)));rw[<-hR.out];obtain⟨A0,c0,rfl,-⟩:=h.1.form;obtain⟨A9,c9,rfl,-⟩:=h.2.form;obtain⟨n0,hn0⟩:=qf o.links.length;obtain⟨n9,hn9⟩:=qf o.data.length;rw[<-hn0.out,<-hn9.out] at HO ⊢;clear h ho;go_enter Tryz.func65,Tryz.ntmps65;go_upto_region 1 with (fail);refine qo ?_;intro W hE hsz B0;obtain⟨p0,p1,-⟩:=cells2 B0;have HN:Hid (W.heap.size<=W.drew.heap.size):=q_r;have eC:=(Ext.refl W).drew;refine ql (fun w'=>w'.cell? ⟨w.heap.size,0,none⟩=some (.slice A0 n0 c0)/\w'.cell? ⟨w.heap.size,1,none⟩=some (.slice A9 n9 c9)) [] (by kernel_rfl) (by exact⟨eC.cell p0,eC.cell p1⟩) (fun hHeld=>?_);refine sP 1 (h:=?_);refine sT 2 (h:=?_);refine sP 4 (h:=?_);refine sT 5 (h:=?_);refine sP 6 (h:=?_);refine qg (i:=0) rfl (by kernel_rfl) (fun K hK=>?_);go_simp;refine (wY (N:=W.heap.size) HN.out 0 (by omega) (by omega)).mono ?_;rintro e w2 ⟨nb,A1,m1,k1,rfl,hI,e2⟩;have HV1:=q_h ((nuV hI).any false);replace eC:=eC.trans e2;clear hI e2;go_wp2_with fail;clear hHeld;refine hK.out _ _ (by exact⟨eC.cell p0,eC.cell p1⟩) fun hHeld=>?_
 clear hK K;try simp only[nr]
 refine qg (i:=3) rfl (by kernel_rfl) (fun K hK=>?_);go_simp;refine (Kv (HO.out.1.ext (hE.trans eC)) (by have:=HK.out.1;omega) (fun s hs=>by have:=HK.out.2.2 s hs;omega)).mono ?_;rintro e w3 ⟨A2,n2,k2,rfl,hLk,e3⟩;have HV2:=q_h ((hLk W.heap.size).any false);have HV13:=q_h (HV1.out.ext e3);replace eC:=eC.trans e3;clear hLk e3 HV1;go_wp2_with fail;clear hHeld;refine hK.out _ _ (by exact⟨eC.cell p0,eC.cell p1⟩) fun hHeld=>?_
 clear hK K;try simp only[nr]
 refine qg (i:=7) rfl (by kernel_rfl) (fun K hK=>?_);go_simp
 first|refine qo ?_|refine qY ?_
 intro w5 e5 hsz5 BJ;have HVV:=q_h (WW BJ (HV13.out.ext e5) (HV2.out.ext e5) (txF (N:=W.heap.size) (HO.out.2.ext (hE.trans (eC.trans e5))) ⟨_,_,rfl⟩));replace eC:=eC.trans e5;clear HV2 HV13 BJ e5;clear hHeld;refine hK.out _ _ (by exact⟨eC.cell p0,eC.cell p1⟩) fun hHeld=>?_
 clear hK K;try simp only[nr]
 refine qg (i:=8) rfl (by kernel_rfl) (fun K hK=>?_);go_simp;refine jY.mono ?_;rintro e w6 ⟨rfl,e6⟩;have HV6:=q_h (HVV.out.ext e6);replace eC:=eC.trans e6;clear HVV e6;go_wp2_with fail;clear hHeld;refine hK.out _ _ (by exact⟨eC.cell p0,eC.cell p1⟩) fun hHeld=>?_
 clear hK K;try simp only[nr]
 refine qg (i:=9) rfl (by kernel_rfl) (fun K hK=>?_);go_simp;refine (Ky (V:=.lst [.int 0,ZE o,.txt o.data]) HV6.out eC.size (HK.out.fits 0 (by omega) (by omega)).1 (by have:=(HK.out.fits 0 (by omega) (by omega)).2;omega)).mono ?_;rintro e w7 ⟨v7,rfl,hG7,e7⟩;have HG7:=q_h hG7;replace hE:=hE.trans eC;replace eC:=eC.trans e7;clear hG7;go_wp2_with fail;clear hHeld;refine hK.out _ _ (by exact⟨eC.cell p0,eC.cell p1⟩) fun hHeld=>?_
 clear hK K;try simp only[nr]
 refine sP 10 (h:=?_);refine qm (by kernel_rfl) ?_ _;clear hHeld;have HX:=q_h (hE.trans e7);clear eC p0 p1;go_wp2
 first|go_ret|skip
 rw[hR.out];refine⟨v7,rfl,?_,HX.out⟩;obtain⟨G,h1,h2⟩:=HG7.out;exact⟨G,qB.low h1 hE.size,fun j hj=>⟨q_l hE.size (h2 j hj).1,(h2 j hj).2⟩⟩
theorem ja {t:Tg}(ho:okT t):Calls Tryz.prog 113 #[sV t.name,sV t.target] w (Zz w (ZF (tgE t))):=by
 have HK:=q_h ho;obtain⟨R,hR⟩:=qf (Zz w (ZF (tgE t)));rw[<-hR.out];obtain⟨s0,hs0⟩:=qf (sV t.name);obtain⟨s1,hs1⟩:=qf (sV t.target);rw[<-hs0.out,<-hs1.out]
 have HC0:Hid (∀w,Calls Tryz.prog 168 #[s0] w (Yi w t.name)):=fun w=>by
  rw[hs0.out];exact wW (l:=t.name) (by have:=HK.out.1;omega)
 have HC1:Hid (∀w,Calls Tryz.prog 168 #[s1] w (Yi w t.target)):=fun w=>by
  rw[hs1.out];exact wW (l:=t.target) (by have:=HK.out.2;omega)
 clear ho;go_enter Tryz.func113,Tryz.ntmps113;go_wp2_with (go_at_call 131;refine q_o ?_);refine (wY (N:=w.heap.size) (q_r) 1 (by omega) (by omega)).mono ?_;rintro e w2 ⟨nb,A1,m1,k1,rfl,hI,e2⟩;have HV1:=q_h ((nuV hI).any false);have HX2:=q_h e2;clear hI e2;go_wp2_with (go_at_call_of 168 s0;refine q_o ?_);refine (HC0.out _).mono ?_;rintro e w3 ⟨c3,rfl,hG3,e3⟩;have HV2:=q_h ((txV (N:=w.heap.size) hG3).any false);obtain⟨g3,cap3,rfl,-⟩:=hG3.form;have HV13:=q_h (HV1.out.ext e3);have HX3:=q_h (HX2.out.trans e3);clear hG3 e3 HV1;go_wp2_with (go_at_call_of 168 s1;refine q_o ?_);refine (HC1.out _).mono ?_;rintro e w4 ⟨c4,rfl,hG4,e4⟩;have HV3:=q_h ((txV (N:=w.heap.size) hG4).any false);obtain⟨g4,cap4,rfl,-⟩:=hG4.form;have HV14:=q_h (HV13.out.ext e4);have HV24:=q_h (HV2.out.ext e4);have HX4:=q_h (HX3.out.trans e4);clear hG4 e4 HV13 HV2;go_wp2_with (go_at_call 130;refine q_o ?_);refine jY.mono ?_;rintro e w6 ⟨rfl,e6⟩;have BJ:=e6.block (heap_alloc_new w4 _);have e46:Ext w4 w6:=((Ext.refl w4).alloc _).trans e6;have HV6:=q_h (WW BJ (HV14.out.ext e46) (HV24.out.ext e46) (HV3.out.ext e46));have HX6:=q_h (HX4.out.trans e46);clear BJ e6 e46 HV14 HV24 HV3;go_wp2_with (go_at_call 107;refine q_o ?_);refine (Ky HV6.out HX6.out.size (HK.out.fits 1 (by omega) (by omega)).1 (by have:=(HK.out.fits 1 (by omega) (by omega)).2;omega)).mono ?_;rintro e w7 ⟨v7,rfl,hG7,e7⟩;have HG7:=q_h hG7;have HX7:=q_h (HX6.out.trans e7)
 clear hG7 e7;go_wp2
 first|go_ret|skip
 rw[hR.out];refine⟨v7,rfl,?_,HX7.out⟩;obtain⟨G,h1,h2⟩:=HG7.out;exact⟨G,qB.low h1 HX6.out.size,fun j hj=>⟨q_l HX6.out.size (h2 j hj).1,(h2 j hj).2⟩⟩
theorem Wy {s:Shf}(h:s.used<0):qE s=false:=by
 have h9:decide ((pgs s:Int)<=s.used)=false:=q_f (by omega);unfold qE;rw[h9]
 simp
theorem Ku {gq:Nat}{K:List Byt}{l:Byt}(hB:w.cell? ⟨gq,0,none⟩=some v) (hS:qZ w v K) (hl:K.length<=1000000000) :
  Calls Tryz.prog 111 #[sV l,.pointer (some ⟨gq,0,none⟩)] w (qH w (.bool (!K.contains l))):=by
 obtain⟨r,hr⟩:=qf (K.contains l);rw[<-hr.out];obtain⟨sv,hsv⟩:=qf (sV l);rw[<-hsv.out]
 have HCC:Hid (Calls Tryz.prog 47 #[v,sv] w (qH w (.bool r))):=by
  rw[hsv.out,hr.out];exact zT hS hl
 clear hS hl;go_enter Tryz.func111,Tryz.ntmps111;go_wp2_with (go_at_call 47;refine q_o ?_);refine HCC.out.mono ?_;rintro e w2 ⟨rfl,e2⟩;go_wp2
 first|go_ret|skip
 exact⟨rfl,e2⟩
theorem Xc{l:List Byt}(h:jG w v n l){gq:Nat}(g:Nat->Bool)
  (hf:∀i,i<n->∀w' u,Ext w w'->Hid (u=sV (l.getD i []))->Calls Tryz.prog 111 #[u,.pointer (some ⟨gq,0,none⟩)] w' (qH w' (.bool (g i)))) :
  Calls Tryz.prog 125 #[v,.func (.func 111) #[] #[.pointer (some ⟨gq,0,none⟩)]] w (yt w (kH n g)):=by
 obtain⟨r,hr⟩:=qf (kH n g);rw[<-hr.out];obtain⟨A,c,rfl,hnc,hcm⟩:=h.form;unfold maxLen at hcm;have hI:=h;have HF:=q_h hf;clear h hf;go_enter Tryz.func125,Tryz.ntmps125;go_wp2
 go_loopw [8] (fun i wr=>∃k:Nat,k<=n/\i=.int .i64 k/\Hid (∀j,j<k->g j=false)/\Ext w wr) (fun i _=>n-(intOf i).toNat)
 case atStart=>exact⟨0,Nat.zero_le _,rfl,fun j hj=>absurd hj (by omega),Ext.refl w⟩
 case round =>
  obtain⟨k,hk,rfl,HA,hE⟩:=hrel
  by_cases hlt:k<n
  ·(obtain⟨b,off,rfl,hx⟩:=(hI.ext hE).addr (by omega));(obtain⟨u,p0,hv⟩:=hx k hlt)
   clear hx;go_wp2_with (go_at_call 111;refine q_o ?_);refine (HF.out k hlt _ _ hE hv).mono ?_;rintro e w1 ⟨rfl,e1⟩;replace hE:=hE.trans e1;obtain⟨o,ho⟩:=qf (g k);rw[<-ho.out];cases o with
   | false =>
    go_wp2;go_roundw
    case rel=>exact⟨k+1,by omega,by go_num,kw (p:=fun j=>g j=false) HA.out ho.out.symm,hE⟩
    case measure=>simp[intOf];omega
   | true =>
    have HT:Hid (r=true):=by rw[Hid,hr.out];exact zF hlt ho.out.symm
    go_wp2;go_ret;exact⟨_,rfl,by rw[Hid,HT.out];symm;simp,hE⟩
  ·have HT:Hid (r=false):=by rw[Hid,hr.out];exact zg.2 (fun j hj=>HA.out j (by omega))
   go_wp2;go_ret;exact⟨_,rfl,by rw[Hid,HT.out];rfl,hE⟩
theorem JR{l:List Byt}(h:jG w v n l){gq:Nat}(g:Nat->Bool)
  (hf:∀i,i<n->∀w' u,Ext w w'->Hid (u=sV (l.getD i []))->Calls Tryz.prog 111 #[u,.pointer (some ⟨gq,0,none⟩)] w' (qH w' (.bool (g i)))) :
  Calls Tryz.prog 56 #[v,.func (.func 111) #[] #[.pointer (some ⟨gq,0,none⟩)]] w (qH w (.bool (kH n g))):=by
 obtain⟨r,hr⟩:=qf (kH n g);rw[<-hr.out];obtain⟨A,c,rfl,hnc,hcm⟩:=h.form;have hI:=h;have HF:=q_h hf;clear h hf;go_enter Tryz.func56,Tryz.ntmps56;go_wp2_with (go_at_call 125;refine q_o ?_);refine (Xc hI (gq:=gq) g HF.out).mono ?_;rintro e w1 ⟨z,rfl,hz,e1⟩;rw[<-hr.out] at hz;go_wp2;go_ret;exact⟨qx hz.out.symm,e1⟩
theorem Vb {s:Shf}{A1 A2:Option Addr}{n1 c1 n2 c2:Nat}(hO:yJ w (.slice A1 n1 c1) s.objs) (hT:jK w (.slice A2 n2 c2) s.tags) (hok:∀i,i<s.objs.length->Ok0 (s.objs.getD i default)) (htk:∀i,i<s.tags.length->okT (s.tags.getD i default)) (hno:s.objs.length<=1000) (hnt:s.tags.length<=1000) :
  Calls Tryz.prog 40 #[.agg #[.int .i64 s.size,.int .i64 s.seq,.int .i64 s.half,.int .i64 s.used,.slice A1 n1 c1,.slice A2 n2 c2]] w (qH w (.bool (qE s))):=by
 obtain⟨size,hsize⟩:=qf s.size;obtain⟨seq,hseq⟩:=qf s.seq;obtain⟨half,hhalf⟩:=qf s.half;obtain⟨used,hused⟩:=qf s.used;rw[<-hsize.out,<-hseq.out,<-hhalf.out,<-hused.out];obtain⟨r,hr⟩:=qf (qE s);rw[<-hr.out];have HO:=q_h hO;have HT:=q_h hT;have HOK:=q_h hok;have HTK:=q_h htk;have hn1:=hO.len;have hn2:=hT.len;have hn1c:=hn1.2;have hn2c:=hn2.2;have HN1:=q_h hn1.1;have HN2:=q_h hn2.1;have hb1:n1<=1000:=by omega
 have hb2:n2<=1000:=by omega
 clear hO hT hok htk hn1 hn2;go_enter Tryz.func40,Tryz.ntmps40;go_upto_region 1 with (fail);refine qo ?_;intro W hE hsz B0;have HB0:=q_h B0;have HX:=q_h hE;obtain⟨p0,p1,p2,p3,p4,p5⟩:=qw B0;clear B0 hE
 by_cases hc0:size<8
 ·have d0:decide (size<8)=true:=q_t hc0;have eC:=(Ext.refl W).drew;refine ql (fun w'=>w'.cell? ⟨w.heap.size,0,none⟩=some (.int .i64 size)/\w'.cell? ⟨w.heap.size,1,none⟩=some (.int .i64 seq)/\w'.cell? ⟨w.heap.size,2,none⟩=some (.int .i64 half)/\w'.cell? ⟨w.heap.size,3,none⟩=some (.int .i64 used)) [] (by kernel_rfl) (by exact⟨eC.cell p0,eC.cell p1,eC.cell p2,eC.cell p3⟩) (fun hHeld=>?_);refine sP 0 (h:=?_);refine sT 1 (h:=?_);refine sP 2 (h:=?_);refine sP 3 (h:=?_);refine sF 4 (h:=?_);refine sF 5 (h:=?_);refine sF 6 (h:=?_);refine sP 7 (h:=?_);refine sP 8 (h:=?_);refine sF 9 (h:=?_);refine sF 10 (h:=?_);refine sF 11 (h:=?_);refine sP 12 (h:=?_);refine sP 13 (h:=?_);refine sF 14 (h:=?_);refine sF 15 (h:=?_);refine sF 16 (h:=?_);refine sP 17 (h:=?_);refine sP 18 (h:=?_);refine sF 19 (h:=?_);refine sF 20 (h:=?_);refine sF 21 (h:=?_);refine sP 22 (h:=?_);refine sP 23 (h:=?_);refine sF 24 (h:=?_);refine sF 25 (h:=?_);refine sF 26 (h:=?_);refine sP 27 (h:=?_);refine sP 28 (h:=?_);refine sF 29 (h:=?_);refine sF 30 (h:=?_);refine sF 31 (h:=?_);refine sF 32 (h:=?_);refine sF 33 (h:=?_);refine sF 34 (h:=?_);refine sP 35 (h:=?_);refine sP 36 (h:=?_);refine sF 37 (h:=?_);refine sF 38 (h:=?_);refine sF 39 (h:=?_);refine sP 40 (h:=?_);refine qm (by kernel_rfl) ?_ _;clear hHeld;have HVB:Hid (qE s=false):=zy (by rw[<-hsize.out,<-hseq.out,<-hhalf.out,<-hused.out];generalize qV size=h9;omega)
  have HX9:=q_h (HX.out.trans eC);clear eC p0 p1 p2 p3;go_wp2
  first|go_ret|skip
  exact⟨qx (hr.out.trans HVB.out).symm,HX9.out⟩
 have d0:decide (size<8)=false:=q_f hc0
 by_cases hc1:4096<size
 ·have d1:decide (4096<size)=true:=q_t hc1;have eC:=(Ext.refl W).drew;refine ql (fun w'=>w'.cell? ⟨w.heap.size,0,none⟩=some (.int .i64 size)/\w'.cell? ⟨w.heap.size,1,none⟩=some (.int .i64 seq)/\w'.cell? ⟨w.heap.size,2,none⟩=some (.int .i64 half)/\w'.cell? ⟨w.heap.size,3,none⟩=some (.int .i64 used)) [] (by kernel_rfl) (by exact⟨eC.cell p0,eC.cell p1,eC.cell p2,eC.cell p3⟩) (fun hHeld=>?_);refine sP 0 (h:=?_);refine sT 1 (h:=?_);refine sP 2 (h:=?_);refine sP 3 (h:=?_);refine sP 4 (h:=?_);refine sT 5 (h:=?_);refine sP 6 (h:=?_);refine sP 7 (h:=?_);refine sP 8 (h:=?_);refine sF 9 (h:=?_);refine sF 10 (h:=?_);refine sF 11 (h:=?_);refine sP 12 (h:=?_);refine sP 13 (h:=?_);refine sF 14 (h:=?_);refine sF 15 (h:=?_);refine sF 16 (h:=?_);refine sP 17 (h:=?_);refine sP 18 (h:=?_);refine sF 19 (h:=?_);refine sF 20 (h:=?_);refine sF 21 (h:=?_);refine sP 22 (h:=?_);refine sP 23 (h:=?_);refine sF 24 (h:=?_);refine sF 25 (h:=?_);refine sF 26 (h:=?_);refine sP 27 (h:=?_);refine sP 28 (h:=?_);refine sF 29 (h:=?_);refine sF 30 (h:=?_);refine sF 31 (h:=?_);refine sF 32 (h:=?_);refine sF 33 (h:=?_);refine sF 34 (h:=?_);refine sP 35 (h:=?_);refine sP 36 (h:=?_);refine sF 37 (h:=?_);refine sF 38 (h:=?_);refine sF 39 (h:=?_);refine sP 40 (h:=?_);refine qm (by kernel_rfl) ?_ _;clear hHeld;have HVB:Hid (qE s=false):=zy (by rw[<-hsize.out,<-hseq.out,<-hhalf.out,<-hused.out];generalize qV size=h9;omega)
  have HX9:=q_h (HX.out.trans eC);clear eC p0 p1 p2 p3;go_wp2
  first|go_ret|skip
  exact⟨qx (hr.out.trans HVB.out).symm,HX9.out⟩
 have d1:decide (4096<size)=false:=q_f hc1
 by_cases hc2:seq<0
 ·have d2:decide (seq<0)=true:=q_t hc2;have eC:=(Ext.refl W).drew;refine ql (fun w'=>w'.cell? ⟨w.heap.size,0,none⟩=some (.int .i64 size)/\w'.cell? ⟨w.heap.size,1,none⟩=some (.int .i64 seq)/\w'.cell? ⟨w.heap.size,2,none⟩=some (.int .i64 half)/\w'.cell? ⟨w.heap.size,3,none⟩=some (.int .i64 used)) [] (by kernel_rfl) (by exact⟨eC.cell p0,eC.cell p1,eC.cell p2,eC.cell p3⟩) (fun hHeld=>?_);refine sP 0 (h:=?_);refine sT 1 (h:=?_);refine sP 2 (h:=?_);refine sP 3 (h:=?_);refine sP 4 (h:=?_);refine sT 5 (h:=?_);refine sP 6 (h:=?_);refine sP 7 (h:=?_);refine sP 8 (h:=?_);refine sP 9 (h:=?_);refine sT 10 (h:=?_);refine sP 11 (h:=?_);refine sP 12 (h:=?_);refine sP 13 (h:=?_);refine sF 14 (h:=?_);refine sF 15 (h:=?_);refine sF 16 (h:=?_);refine sP 17 (h:=?_);refine sP 18 (h:=?_);refine sF 19 (h:=?_);refine sF 20 (h:=?_);refine sF 21 (h:=?_);refine sP 22 (h:=?_);refine sP 23 (h:=?_);refine sF 24 (h:=?_);refine sF 25 (h:=?_);refine sF 26 (h:=?_);refine sP 27 (h:=?_);refine sP 28 (h:=?_);refine sF 29 (h:=?_);refine sF 30 (h:=?_);refine sF 31 (h:=?_);refine sF 32 (h:=?_);refine sF 33 (h:=?_);refine sF 34 (h:=?_);refine sP 35 (h:=?_);refine sP 36 (h:=?_);refine sF 37 (h:=?_);refine sF 38 (h:=?_);refine sF 39 (h:=?_);refine sP 40 (h:=?_);refine qm (by kernel_rfl) ?_ _;clear hHeld;have HVB:Hid (qE s=false):=zy (by rw[<-hsize.out,<-hseq.out,<-hhalf.out,<-hused.out];generalize qV size=h9;omega)
  have HX9:=q_h (HX.out.trans eC);clear eC p0 p1 p2 p3;go_wp2
  first|go_ret|skip
  exact⟨qx (hr.out.trans HVB.out).symm,HX9.out⟩
 have d2:decide (seq<0)=false:=q_f hc2
 by_cases hc3:2147483647<seq
 ·have d3:decide (2147483647<seq)=true:=q_t hc3;have eC:=(Ext.refl W).drew;refine ql (fun w'=>w'.cell? ⟨w.heap.size,0,none⟩=some (.int .i64 size)/\w'.cell? ⟨w.heap.size,1,none⟩=some (.int .i64 seq)/\w'.cell? ⟨w.heap.size,2,none⟩=some (.int .i64 half)/\w'.cell? ⟨w.heap.size,3,none⟩=some (.int .i64 used)) [] (by kernel_rfl) (by exact⟨eC.cell p0,eC.cell p1,eC.cell p2,eC.cell p3⟩) (fun hHeld=>?_);refine sP 0 (h:=?_);refine sT 1 (h:=?_);refine sP 2 (h:=?_);refine sP 3 (h:=?_);refine sP 4 (h:=?_);refine sT 5 (h:=?_);refine sP 6 (h:=?_);refine sP 7 (h:=?_);refine sP 8 (h:=?_);refine sP 9 (h:=?_);refine sT 10 (h:=?_);refine sP 11 (h:=?_);refine sP 12 (h:=?_);refine sP 13 (h:=?_);refine sP 14 (h:=?_);refine sT 15 (h:=?_);refine sP 16 (h:=?_);refine sP 17 (h:=?_);refine sP 18 (h:=?_);refine sF 19 (h:=?_);refine sF 20 (h:=?_);refine sF 21 (h:=?_);refine sP 22 (h:=?_);refine sP 23 (h:=?_);refine sF 24 (h:=?_);refine sF 25 (h:=?_);refine sF 26 (h:=?_);refine sP 27 (h:=?_);refine sP 28 (h:=?_);refine sF 29 (h:=?_);refine sF 30 (h:=?_);refine sF 31 (h:=?_);refine sF 32 (h:=?_);refine sF 33 (h:=?_);refine sF 34 (h:=?_);refine sP 35 (h:=?_);refine sP 36 (h:=?_);refine sF 37 (h:=?_);refine sF 38 (h:=?_);refine sF 39 (h:=?_);refine sP 40 (h:=?_);refine qm (by kernel_rfl) ?_ _;clear hHeld;have HVB:Hid (qE s=false):=zy (by rw[<-hsize.out,<-hseq.out,<-hhalf.out,<-hused.out];generalize qV size=h9;omega)
  have HX9:=q_h (HX.out.trans eC);clear eC p0 p1 p2 p3;go_wp2
  first|go_ret|skip
  exact⟨qx (hr.out.trans HVB.out).symm,HX9.out⟩
 have d3:decide (2147483647<seq)=false:=q_f hc3
 by_cases hc4:half<0
 ·have d4:decide (half<0)=true:=q_t hc4;have eC:=(Ext.refl W).drew;refine ql (fun w'=>w'.cell? ⟨w.heap.size,0,none⟩=some (.int .i64 size)/\w'.cell? ⟨w.heap.size,1,none⟩=some (.int .i64 seq)/\w'.cell? ⟨w.heap.size,2,none⟩=some (.int .i64 half)/\w'.cell? ⟨w.heap.size,3,none⟩=some (.int .i64 used)) [] (by kernel_rfl) (by exact⟨eC.cell p0,eC.cell p1,eC.cell p2,eC.cell p3⟩) (fun hHeld=>?_);refine sP 0 (h:=?_);refine sT 1 (h:=?_);refine sP 2 (h:=?_);refine sP 3 (h:=?_);refine sP 4 (h:=?_);refine sT 5 (h:=?_);refine sP 6 (h:=?_);refine sP 7 (h:=?_);refine sP 8 (h:=?_);refine sP 9 (h:=?_);refine sT 10 (h:=?_);refine sP 11 (h:=?_);refine sP 12 (h:=?_);refine sP 13 (h:=?_);refine sP 14 (h:=?_);refine sT 15 (h:=?_);refine sP 16 (h:=?_);refine sP 17 (h:=?_);refine sP 18 (h:=?_);refine sP 19 (h:=?_);refine sT 20 (h:=?_);refine sP 21 (h:=?_);refine sP 22 (h:=?_);refine sP 23 (h:=?_);refine sF 24 (h:=?_);refine sF 25 (h:=?_);refine sF 26 (h:=?_);refine sP 27 (h:=?_);refine sP 28 (h:=?_);refine sF 29 (h:=?_);refine sF 30 (h:=?_);refine sF 31 (h:=?_);refine sF 32 (h:=?_);refine sF 33 (h:=?_);refine sF 34 (h:=?_);refine sP 35 (h:=?_);refine sP 36 (h:=?_);refine sF 37 (h:=?_);refine sF 38 (h:=?_);refine sF 39 (h:=?_);refine sP 40 (h:=?_);refine qm (by kernel_rfl) ?_ _;clear hHeld;have HVB:Hid (qE s=false):=zy (by rw[<-hsize.out,<-hseq.out,<-hhalf.out,<-hused.out];generalize qV size=h9;omega)
  have HX9:=q_h (HX.out.trans eC);clear eC p0 p1 p2 p3;go_wp2
  first|go_ret|skip
  exact⟨qx (hr.out.trans HVB.out).symm,HX9.out⟩
 have d4:decide (half<0)=false:=q_f hc4
 by_cases hc5:1<half
 ·have d5:decide (1<half)=true:=q_t hc5;have eC:=(Ext.refl W).drew;refine ql (fun w'=>w'.cell? ⟨w.heap.size,0,none⟩=some (.int .i64 size)/\w'.cell? ⟨w.heap.size,1,none⟩=some (.int .i64 seq)/\w'.cell? ⟨w.heap.size,2,none⟩=some (.int .i64 half)/\w'.cell? ⟨w.heap.size,3,none⟩=some (.int .i64 used)) [] (by kernel_rfl) (by exact⟨eC.cell p0,eC.cell p1,eC.cell p2,eC.cell p3⟩) (fun hHeld=>?_);refine sP 0 (h:=?_);refine sT 1 (h:=?_);refine sP 2 (h:=?_);refine sP 3 (h:=?_);refine sP 4 (h:=?_);refine sT 5 (h:=?_);refine sP 6 (h:=?_);refine sP 7 (h:=?_);refine sP 8 (h:=?_);refine sP 9 (h:=?_);refine sT 10 (h:=?_);refine sP 11 (h:=?_);refine sP 12 (h:=?_);refine sP 13 (h:=?_);refine sP 14 (h:=?_);refine sT 15 (h:=?_);refine sP 16 (h:=?_);refine sP 17 (h:=?_);refine sP 18 (h:=?_);refine sP 19 (h:=?_);refine sT 20 (h:=?_);refine sP 21 (h:=?_);refine sP 22 (h:=?_);refine sP 23 (h:=?_);refine sP 24 (h:=?_);refine sT 25 (h:=?_);refine sP 26 (h:=?_);refine sP 27 (h:=?_);refine sP 28 (h:=?_);refine sF 29 (h:=?_);refine sF 30 (h:=?_);refine sF 31 (h:=?_);refine sF 32 (h:=?_);refine sF 33 (h:=?_);refine sF 34 (h:=?_);refine sP 35 (h:=?_);refine sP 36 (h:=?_);refine sF 37 (h:=?_);refine sF 38 (h:=?_);refine sF 39 (h:=?_);refine sP 40 (h:=?_);refine qm (by kernel_rfl) ?_ _;clear hHeld;have HVB:Hid (qE s=false):=zy (by rw[<-hsize.out,<-hseq.out,<-hhalf.out,<-hused.out];generalize qV size=h9;omega)
  have HX9:=q_h (HX.out.trans eC);clear eC p0 p1 p2 p3;go_wp2
  first|go_ret|skip
  exact⟨qx (hr.out.trans HVB.out).symm,HX9.out⟩
 have d5:decide (1<half)=false:=q_f hc5;obtain⟨h,hh⟩:=qf (qV size);have HHF:Hid (∀w,Calls Tryz.prog 103 #[.int .i64 size] w (qH w (.int .i64 h))):=fun w=>by rw[hh.out];exact Z9 (by omega) (by omega) w
 by_cases hc6:h<used
 ·have d6:decide (h<used)=true:=q_t hc6;have eC:=(Ext.refl W).drew;refine ql (fun w'=>w'.cell? ⟨w.heap.size,0,none⟩=some (.int .i64 size)/\w'.cell? ⟨w.heap.size,1,none⟩=some (.int .i64 seq)/\w'.cell? ⟨w.heap.size,2,none⟩=some (.int .i64 half)/\w'.cell? ⟨w.heap.size,3,none⟩=some (.int .i64 used)) [] (by kernel_rfl) (by exact⟨eC.cell p0,eC.cell p1,eC.cell p2,eC.cell p3⟩) (fun hHeld=>?_);refine sP 0 (h:=?_);refine sT 1 (h:=?_);refine sP 2 (h:=?_);refine sP 3 (h:=?_);refine sP 4 (h:=?_);refine sT 5 (h:=?_);refine sP 6 (h:=?_);refine sP 7 (h:=?_);refine sP 8 (h:=?_);refine sP 9 (h:=?_);refine sT 10 (h:=?_);refine sP 11 (h:=?_);refine sP 12 (h:=?_);refine sP 13 (h:=?_);refine sP 14 (h:=?_);refine sT 15 (h:=?_);refine sP 16 (h:=?_);refine sP 17 (h:=?_);refine sP 18 (h:=?_);refine sP 19 (h:=?_);refine sT 20 (h:=?_);refine sP 21 (h:=?_);refine sP 22 (h:=?_);refine sP 23 (h:=?_);refine sP 24 (h:=?_);refine sT 25 (h:=?_);refine sP 26 (h:=?_);refine sP 27 (h:=?_);refine sP 28 (h:=?_);refine sP 29 (h:=?_);refine sT 30 (h:=?_);refine sP 31 (h:=?_);refine sT 32 (h:=?_);refine qg (i:=33) rfl (by kernel_rfl) (fun K hK=>?_);rw[if_pos (by rfl)];go_simp;refine (HHF.out _).mono ?_;rintro e w3 ⟨rfl,e3⟩;replace eC:=eC.trans e3;go_wp2_with fail;clear hHeld;refine hK.out _ _ (by exact⟨eC.cell p0,eC.cell p1,eC.cell p2,eC.cell p3⟩) fun hHeld=>?_
  clear hK K;try simp only[nr]
  refine sP 34 (h:=?_);refine sP 35 (h:=?_);refine sP 36 (h:=?_);refine sF 37 (h:=?_);refine sF 38 (h:=?_);refine sF 39 (h:=?_);refine sP 40 (h:=?_);refine qm (by kernel_rfl) ?_ _;clear hHeld;have HVB:Hid (qE s=false):=zy (by rw[<-hsize.out,<-hseq.out,<-hhalf.out,<-hused.out];rw[<-hh.out];omega);have HX9:=q_h (HX.out.trans eC);clear eC p0 p1 p2 p3 e3;go_wp2
  first|go_ret|skip
  exact⟨qx (hr.out.trans HVB.out).symm,HX9.out⟩
 have d6:decide (h<used)=false:=q_f hc6
 by_cases hc7:used<0
 ·have d7:decide (used<0)=true:=q_t hc7;have eC:=(Ext.refl W).drew;refine ql (fun w'=>w'.cell? ⟨w.heap.size,0,none⟩=some (.int .i64 size)/\w'.cell? ⟨w.heap.size,1,none⟩=some (.int .i64 seq)/\w'.cell? ⟨w.heap.size,2,none⟩=some (.int .i64 half)/\w'.cell? ⟨w.heap.size,3,none⟩=some (.int .i64 used)) [] (by kernel_rfl) (by exact⟨eC.cell p0,eC.cell p1,eC.cell p2,eC.cell p3⟩) (fun hHeld=>?_);refine sP 0 (h:=?_);refine sT 1 (h:=?_);refine sP 2 (h:=?_);refine sP 3 (h:=?_);refine sP 4 (h:=?_);refine sT 5 (h:=?_);refine sP 6 (h:=?_);refine sP 7 (h:=?_);refine sP 8 (h:=?_);refine sP 9 (h:=?_);refine sT 10 (h:=?_);refine sP 11 (h:=?_);refine sP 12 (h:=?_);refine sP 13 (h:=?_);refine sP 14 (h:=?_);refine sT 15 (h:=?_);refine sP 16 (h:=?_);refine sP 17 (h:=?_);refine sP 18 (h:=?_);refine sP 19 (h:=?_);refine sT 20 (h:=?_);refine sP 21 (h:=?_);refine sP 22 (h:=?_);refine sP 23 (h:=?_);refine sP 24 (h:=?_);refine sT 25 (h:=?_);refine sP 26 (h:=?_);refine sP 27 (h:=?_);refine sP 28 (h:=?_);refine sP 29 (h:=?_);refine sT 30 (h:=?_);refine sP 31 (h:=?_);refine sT 32 (h:=?_);refine qg (i:=33) rfl (by kernel_rfl) (fun K hK=>?_);rw[if_pos (by rfl)];go_simp;refine (HHF.out _).mono ?_;rintro e w3 ⟨rfl,e3⟩;replace eC:=eC.trans e3;go_wp2_with fail;clear hHeld;refine hK.out _ _ (by exact⟨eC.cell p0,eC.cell p1,eC.cell p2,eC.cell p3⟩) fun hHeld=>?_
  clear hK K;try simp only[nr]
  refine sP 34 (h:=?_);refine sP 35 (h:=?_);refine sP 36 (h:=?_);refine sP 37 (h:=?_);refine sT 38 (h:=?_);refine sP 39 (h:=?_);refine sP 40 (h:=?_);refine qm (by kernel_rfl) ?_ _;clear hHeld;have HVB:Hid (qE s=false):=Wy (by rw[<-hused.out];omega);have HX9:=q_h (HX.out.trans eC);clear eC p0 p1 p2 p3 e3;go_wp2
  first|go_ret|skip
  exact⟨qx (hr.out.trans HVB.out).symm,HX9.out⟩
 have d7:decide (used<0)=false:=q_f hc7;have eC:=(Ext.refl W).drew;refine ql (fun w'=>w'.cell? ⟨w.heap.size,0,none⟩=some (.int .i64 size)/\w'.cell? ⟨w.heap.size,1,none⟩=some (.int .i64 seq)/\w'.cell? ⟨w.heap.size,2,none⟩=some (.int .i64 half)/\w'.cell? ⟨w.heap.size,3,none⟩=some (.int .i64 used)) [] (by kernel_rfl) (by exact⟨eC.cell p0,eC.cell p1,eC.cell p2,eC.cell p3⟩) (fun hHeld=>?_);refine sP 0 (h:=?_);refine sT 1 (h:=?_);refine sP 2 (h:=?_);refine sP 3 (h:=?_);refine sP 4 (h:=?_);refine sT 5 (h:=?_);refine sP 6 (h:=?_);refine sP 7 (h:=?_);refine sP 8 (h:=?_);refine sP 9 (h:=?_);refine sT 10 (h:=?_);refine sP 11 (h:=?_);refine sP 12 (h:=?_);refine sP 13 (h:=?_);refine sP 14 (h:=?_);refine sT 15 (h:=?_);refine sP 16 (h:=?_);refine sP 17 (h:=?_);refine sP 18 (h:=?_);refine sP 19 (h:=?_);refine sT 20 (h:=?_);refine sP 21 (h:=?_);refine sP 22 (h:=?_);refine sP 23 (h:=?_);refine sP 24 (h:=?_);refine sT 25 (h:=?_);refine sP 26 (h:=?_);refine sP 27 (h:=?_);refine sP 28 (h:=?_);refine sP 29 (h:=?_);refine sT 30 (h:=?_);refine sP 31 (h:=?_);refine sT 32 (h:=?_);refine qg (i:=33) rfl (by kernel_rfl) (fun K hK=>?_);rw[if_pos (by rfl)];go_simp;refine (HHF.out _).mono ?_;rintro e w3 ⟨rfl,e3⟩;replace eC:=eC.trans e3;go_wp2_with fail;clear hHeld;refine hK.out _ _ (by exact⟨eC.cell p0,eC.cell p1,eC.cell p2,eC.cell p3⟩) fun hHeld=>?_
 clear hK K;try simp only[nr]
 refine sP 34 (h:=?_);refine sP 35 (h:=?_);refine sP 36 (h:=?_);refine sP 37 (h:=?_);refine sT 38 (h:=?_);refine sP 39 (h:=?_);refine sP 40 (h:=?_);refine qm (by kernel_rfl) ?_ _;clear hHeld
 have HHD:Hid (headB s=true):=by
  rw[Hid];unfold headB;rw[<-hsize.out,<-hseq.out,<-hhalf.out,<-hused.out,<-hh.out];simp only[Bool.and_eq_true,decide_eq_true_eq];omega
 have HX3:=q_h (HX.out.trans eC);have HB03:=q_h (eC.block HB0.out);clear eC e3 p0 p1 p2 p3 p4 p5 HB0 HX d0 d1 d2 d3 d4 d5 d6 d7 HHF;go_upto_region 5 with (fail);refine qo ?_;intro W4 hE4 hsz4 BN;obtain⟨gN,hgN⟩:=qf w3.heap.size;rw[<-hgN.out] at BN ⊢;have HGW:Hid (w.heap.size<gN):=by have:=qK HB03.out;have:=hgN.out;rw[Hid];omega
 have HX4:=q_h (HX3.out.trans hE4);have HB04:=q_h (hE4.block HB03.out);have HBN:=q_h BN;have HG4:Hid (qB 9 (gN+1) W4 (.slice none (0:Nat) 0) (((s.objs.take 0).map qM).map sV)):=qB.nil (by have:=qK BN;omega);clear hE4 hsz4 BN HX3 HB03;obtain⟨q0,q1,q2,q3,q4,q5⟩:=qw HB04.out;go_wp2_with fail;clear q0 q1 q2 q3 q4 q5
 go_loopw [55,3] (fun iv nv wr=>∃(i:Nat) (A':Option Addr) (c':Nat),i<=n1/\iv=.int .i64 (i:Int)/\nv=.int .i64 ((pgO (s.objs.take i):Nat):Int)/\Hid (pgO (s.objs.take i)<=100*i)/\Hid (wV [] (s.objs.take i)=true)/\Hid (wr.heap[gN]?=some (.cells #[.slice A' i c'] 26 (0,0)))/\Hid (qB 9 (gN+1) wr (.slice A' i c') (((s.objs.take i).map qM).map sV))/\Hid (Ext w wr)
  /\ Hid (wr.heap[w.heap.size]?=some (.cells #[.int .i64 size,.int .i64 seq,.int .i64 half,.int .i64 used,.slice A1 n1 c1,.slice A2 n2 c2] 25 (0,0)))) (fun iv _ _=>n1-(intOf iv).toNat)
 case atStart=>exact⟨0,none,0,Nat.zero_le _,rfl,rfl,Nat.zero_le _,rfl,HBN,HG4,HX4,HB04⟩
 case round =>
  clear HBN HG4 HX4 HB04;obtain⟨i,Av,cv,hi9,rfl,rfl,HPG,HOB,HN,HG,HX,HB0⟩:=hrel;obtain⟨pg,hpg⟩:=qf (pgO (s.objs.take i));rw[<-hpg.out] at HPG ⊢;obtain⟨K,hK⟩:=qf ((s.objs.take i).map qM);rw[<-hK.out] at HG;have HKL:Hid (K.length=i):=by rw[Hid,hK.out,List.length_map,List.length_take];have:=HN1.out;omega
  by_cases hlt:i<n1
  case pos =>
   have u5:decide ((i:Int)<(n1:Int))=true:=q_t (by omega);have u6:(i:Int)<(n1:Int):=by omega
   have hil:i<s.objs.length:=by have:=HN1.out;omega
   obtain⟨go,off,rfl,hx⟩:=HO.out.at_ HN1.out (by omega);obtain⟨B1,m1,d1,B2,m2,d2,k0,k1,hobr⟩:=hx i hlt;have HOR:Hid (∀wq,Ext w wq->ObR wq (.slice B1 m1 d1) (.slice B2 m2 d2) (s.objs.getD i default)):=fun wq e=>hobr.ext e
   replace k0:=HX.out.cell k0;replace k1:=HX.out.cell k1;clear hx hobr;go_upto_region 8 with (fail);refine qo ?_;intro w4 e4 hsz4 BQ;obtain⟨q,hq⟩:=qf wr.heap.size;rw[<-hq.out] at BQ ⊢;have HX4:=q_h (HX.out.trans e4);have HBQ:=q_h BQ;obtain⟨k0,k1,-⟩:=cells2 BQ;have HOR4:=q_h (HOR.out w4 HX4.out);have HB04:=q_h (e4.block HB0.out);have HN4:=q_h (e4.block HN.out);have HG4:=q_h (qB.ext HG.out e4);clear e4 BQ HX HB0 HN HG hsz4;go_wp2_with (go_at_call 16;refine q_o ?_);refine (q03 HOR4.out (HOK.out i hil)).mono ?_;rintro e wq ⟨rfl,e5⟩;obtain⟨cd,hcd⟩:=qf (obC (s.objs.getD i default));obtain⟨nm,hnm⟩:=qf (nmO (s.objs.getD i default));rw[<-hcd.out,qO,<-hnm.out];obtain⟨C1,hC1⟩:=qf (bA nm);rw[<-hC1.out];have HX6:=q_h (HX4.out.trans e5);have HB06:=q_h (e5.block HB04.out);have HN6:=q_h (e5.block HN4.out);have HG6:=q_h (qB.ext HG4.out e5);have HBQ6:=q_h (e5.block HBQ.out);clear e5 k0 k1 HBQ HB04 HN4 HG4 HX4 HOR4;obtain⟨k0,k1,-⟩:=cells2 HBQ6.out;have kn:wq.cell? ⟨gN,0,none⟩=some (.slice Av i cv):=qj HN6.out 0;go_upto_region 9 with (fail)
   by_cases hcd0:cd=0
   case neg =>
    have d8:(cd != 0)=true:=by simpa using hcd0
    have d9:decide (cd=0)=false:=q_f hcd0
    have HVB:Hid (qE s=false):=QZ hil HOB.out (by
     unfold jy;rw[<-hcd.out,show (cd == 0)=false by simpa using hcd0]
     rfl)
    have HX9:=HX6;go_wp2
    first|go_ret|skip
    exact⟨qx (hr.out.trans HVB.out).symm,HX9.out⟩
   have d8:(cd != 0)=false:=by simpa using hcd0
   have d9:decide (cd=0)=true:=q_t hcd0;have HC0:Hid (obC (s.objs.getD i default)=0):=hcd.out.symm.trans hcd0;have HOKO:=q_h (Ko HC0.out)
   have HNMO:Hid (nm=qM (s.objs.getD i default)):=by
    rw[Hid,hnm.out];unfold nmO;rw[if_pos HC0.out]
   have HKS:=q_h (GrS.strs (l:=K) HG6.out)
   have HCT:Hid (∀w',Ext wq w'->Calls Tryz.prog 47 #[.slice Av i cv,.string C1] w' (qH w' (.bool (K.contains nm)))):=fun w' e=>by
    rw[hC1.out,<-qO];exact zT (HKS.out.ext e) (by have:=HKL.out;omega)
   obtain⟨ct,hct⟩:=qf (K.contains nm);rw[<-hct.out] at HCT;cases ct with
   | true =>
    go_wp2_with (go_at_call 47;refine q_o ?_);refine (HCT.out _ (Ext.refl _)).mono ?_;rintro e w5 ⟨rfl,e5⟩
    have HVB:Hid (qE s=false):=QZ hil HOB.out (by
     unfold jy;rw[<-hK.out,<-HNMO.out,<-hct.out]
     simp)
    have HX9:=q_h (HX6.out.trans e5);clear k0 k1 kn e5;go_wp2
    first|go_ret|skip
    exact⟨qx (hr.out.trans HVB.out).symm,HX9.out⟩
   | false =>
    obtain⟨al,hal⟩:=qf ((s.objs.getD i default).links.all (K.contains ·))
    have HML:Hid (m1=(s.objs.getD i default).links.length):=by
     obtain⟨A7,c7,h7,-⟩:=(HOR.out wq HX6.out).1.form;injection h7
    have HCF:Hid (∀w',Ext wq w'->Calls Tryz.prog 56 #[.slice B1 m1 d1,.func (.func 111) #[] #[.pointer (some ⟨gN,0,none⟩)]] w' (qH w' (.bool (!al)))):=fun w' e=>by
     rw[hal.out,<-vU,<-HML.out];refine JR (l:=(s.objs.getD i default).links) ⟨HML.out,(HOR.out w' (HX6.out.trans e)).1⟩ _ (fun j hj w9 u e9 hu=>?_);rw[hu.out];exact Ku ((e.trans e9).cell (qj HN6.out 0)) (HKS.out.ext (e.trans e9)) (by have:=HKL.out;omega)
    have HAB:Hid (jy K (s.objs.getD i default)=al):=by
     rw[Hid,JD HC0.out (by rw[<-HNMO.out];exact hct.out.symm),hal.out]
    go_wp2_with (go_at_call 47;refine q_o ?_);refine (HCT.out _ (Ext.refl _)).mono ?_;rintro e w5 ⟨rfl,e5⟩;replace k0:=e5.cell k0;replace kn:=e5.cell kn;go_wp2_with (go_at_call 56;refine q_o ?_);refine (HCF.out _ e5).mono ?_;rintro e w6 ⟨rfl,e6⟩;have eC:=e5.trans e6;cases al with
    | false =>
     have HVB:Hid (qE s=false):=QZ hil HOB.out (by
      rw[<-hK.out]
      exact HAB.out)
     have HX9:=q_h (HX6.out.trans eC);clear eC k0 k1 kn e5 e6;go_wp2
     first|go_ret|skip
     exact⟨qx (hr.out.trans HVB.out).symm,HX9.out⟩
    | true =>
     have HOB5:Hid (wV [] (s.objs.take (i+1))=true):=by
      rw[Hid,take_snoc s.objs default hil,xX,HOB.out,List.nil_append,<-hK.out,HAB.out]
      rfl
     have HX7:=q_h (HX6.out.trans eC);have HB07:=q_h (eC.block HB06.out);have HN7:=q_h (eC.block HN6.out);have HG7:=q_h (qB.ext HG6.out eC);have HBQ7:=q_h (eC.block HBQ6.out);clear eC e5 e6 k0 k1 kn HB06 HN6 HG6 HBQ6 HX6 HCT HCF;have kn:w6.cell? ⟨gN,0,none⟩=some (.slice Av i cv):=qj HN7.out 0;go_wp2_with (at_builtin;refine q_o ?_);refine qo ?_;intro w8 e8 hsz8 B8;have hG8:=qB.ext HG7.out e8;have hlen:(K.map sV).length=i:=by rw[List.length_map];exact HKL.out
     refine zB xW rfl _ _ 26 Tryz.underlying26 rfl (by rfl) hG8 (m:=1) (c:=1) (news:=[.string C1]) (by rfl) rfl (jD B8) (fun x hx=>by rw[List.mem_singleton.1 hx];rfl) (by omega) (by omega) ?_;rintro g18 cap18 w18 hG18 hat18 ⟨g9,hlo,hw9,C9,-⟩;rw[hlen] at hG18 ⊢
     have HG9:Hid (qB 9 (gN+1) w18 (.slice (some ⟨g18,0,none⟩) (i+1) cap18) (((s.objs.take (i+1)).map qM).map sV)):=by
      rw[take_snoc s.objs default hil,List.map_append,<-hK.out,List.map_append]
      show Hid (qB _ _ _ _ (_ ++ [sV (qM (s.objs.getD i default))]))
      rw[<-HNMO.out,qO,<-hC1.out];exact hG18
     have HX9:Hid (Ext w w18):=C9.ext (HX7.out.trans e8) (by have:=HGW.out;omega);have hN8:w18.heap[gN]?=some (.cells #[.slice Av i cv] 26 (0,0)):=C9.blk (e8.block HN7.out) (.inl (by omega));have hB8:=C9.blk (e8.block HB07.out) (.inl (by have:=HGW.out;omega))
     have hBQ9:w18.heap[q]?=some (.cells #[.slice B1 m1 d1,.slice B2 m2 d2] 29 (0,0)):=by
      refine C9.blk (e8.block HBQ7.out) ?_
      have:q≠g9:=by
       rcases hw9 with h9|h9
       ·intro e;rw[<-e] at h9
        rcases HG7.out.2.2 with ⟨h1,h2⟩|⟨g0,cap,cur,h1,hb,hh9,-⟩
        ·rw[h1] at h9;simp[Value.ownBlock] at h9
        ·rw[h1] at h9;obtain rfl:g0=q:=by simpa[Value.ownBlock] using h9
         rw[HBQ7.out] at hh9;injection hh9 with hh9
         injection hh9 with a1 a2 a3
         exact absurd a2 (by decide)
       ·have:=qK (e8.block HBQ7.out);omega
      omega
     obtain⟨wa,Ea,Ba,Ua⟩:=qL hN8 0 (.slice (some ⟨g18,0,none⟩) (i+1) cap18);have f5:=qp hN8 0;have c5:w18.cell? ⟨gN,0,none⟩=some (.slice Av i cv):=qj hN8 0;have Ca:=Ua.chg (NoU.mk hN8 (by decide));have HNa:Hid (wa.heap[gN]?=some (.cells #[.slice (some ⟨g18,0,none⟩) (i+1) cap18] 26 (0,0))):=Ba;have HXa:Hid (Ext w wa):=Ca.ext HX9.out (by have:=HGW.out;omega);have HB0a:Hid (wa.heap[w.heap.size]?=_):=(Ua.block _ (by have:=HGW.out;omega)).trans hB8
     have HGa:Hid (qB 9 (gN+1) wa (.slice (some ⟨g18,0,none⟩) (i+1) cap18) (((s.objs.take (i+1)).map qM).map sV)):=by
      refine⟨by rw[Ua.size];exact HG9.out.1,HG9.out.2.1,?_⟩
      rcases HG9.out.2.2 with h0|⟨g0,cap,cur,hv,hb,hh9,h1⟩
      ·exact .inl h0
      ·exact .inr ⟨g0,cap,cur,hv,hb,(Ua.block _ (by omega)).trans hh9,h1⟩
     have hqg:q≠gN:=by
      rintro rfl;rw[hN8] at hBQ9;injection hBQ9 with h1
      injection h1 with h2 h3 h4
      exact absurd h3 (by decide)
     have HBQa:=q_h ((Ua.block _ hqg).trans hBQ9);clear hG18 hat18 hlo hw9 C9 B8 e8 hsz8 hG8 HG7 HN7 HB07 HBQ7 HX7 HX9 HG9 hN8 hB8 hBQ9 Ba Ua Ca kn hqg;obtain⟨k0,k1,-⟩:=cells2 HBQa.out;go_upto_region 12 with (fail);clear c5 f5 Ea;go_wp2_with (go_at_call 65;refine q_o ?_);refine (wX (HOR.out _ HXa.out) HOKO.out).mono ?_;rintro e wx ⟨vx,rfl,hGx,ex⟩;have hpb:=YV HOKO.out;rw[jk] at hGx;obtain⟨pn,hpn⟩:=qf (pgN (obE (s.objs.getD i default)));rw[<-hpn.out] at hGx hpb;obtain⟨Ax,cx,rfl,-⟩:=hGx.form;have hpn9:pn<=100:=hpb.1;have hpg9:pg<=100000:=by have:=HPG.out;omega
     have HSUM:Hid (pgO (s.objs.take (i+1))=pg+pn):=by rw[Hid,take_snoc s.objs default hil,J7,hpg.out,hpn.out]
     have HPG7:Hid (pgO (s.objs.take (i+1))<=100*(i+1)):=by rw[Hid,HSUM.out];have:=HPG.out;omega
     have HXx:=q_h (HXa.out.trans ex);have HNx:=q_h (ex.block HNa.out);have HB0x:=q_h (ex.block HB0a.out);have HGx:=q_h (qB.ext HGa.out ex);clear hGx ex k0 k1 hpb HBQa HXa HNa HB0a HGa;go_wp2;go_roundw
     case rel=>exact⟨i+1,_,cap18,by omega,by go_num,by rw[HSUM.out];go_num,HPG7,HOB5,HNx,HGx,HXx,HB0x⟩
     case measure=>simp[intOf];omega
  obtain rfl:i=n1:=by omega
  have u5:decide ((i:Int)<(i:Int))=false:=q_f (by omega);have HTK1:Hid (s.objs.take i=s.objs):=List.take_of_length_le (by have:=HN1.out;omega);rw[HTK1.out] at HOB hpg hK;have HKN:Hid (xY s=K):=hK.out.symm;have HKS:=q_h (GrS.strs (l:=K) HG.out);obtain⟨q0,q1,q2,q3,q4,q5⟩:=qw HB0.out;obtain⟨w8,hw8⟩:∃w8,w8=wr:=⟨_,rfl⟩
  subst hw8;go_wp2_with fail;clear q0 q1 q2 q3 q4 q5
  go_loopw [90,3] (fun iv nv wr=>∃(j:Nat),j<=n2/\iv=.int .i64 (j:Int)/\nv=.int .i64 ((pg+pgT (s.tags.take j):Nat):Int)/\Hid (pgT (s.tags.take j)<=100*j)/\Hid (ZB (xY s) none (s.tags.take j)=true)/\Hid (Ext w8 wr)) (fun iv _ _=>n2-(intOf iv).toNat)
  case atStart=>exact⟨0,Nat.zero_le _,rfl,by simp[pgT],Nat.zero_le _,rfl,Ext.refl _⟩
  case round =>
   obtain⟨j,hj9,rfl,rfl,HPT,HTB9,HE⟩:=hrel;obtain⟨pt,hpt⟩:=qf (pg+pgT (s.tags.take j));rw[<-hpt.out];have HPT9:Hid (pt<=300000):=by have:=hpt.out;have:=HPT.out;have:=HPG.out;rw[Hid];omega
   by_cases hjl:j<n2
   case pos =>
    have u6:decide ((j:Int)<(n2:Int))=true:=q_t (by omega);have u7:(j:Int)<(n2:Int):=by omega
    obtain⟨gt,ot,rfl,hx⟩:=Yh.addr ⟨HN2.out,HT.out⟩ (by omega);obtain⟨x1,x2,k0,k1,hv⟩:=hx j hjl;have hjs:j<s.tags.length:=by have:=HN2.out;omega
    have e12:x1=.string (bA (s.tags.getD j default).name)/\x2=.string (bA (s.tags.getD j default).target):=by
     have h9:=hv.out;simp only[Value.agg.injEq,Array.mk.injEq,List.cons.injEq,and_true] at h9;exact h9
    obtain⟨B1,hB1⟩:=qf (bA (s.tags.getD j default).name);obtain⟨B2,hB2⟩:=qf (bA (s.tags.getD j default).target);rw[<-hB1.out,<-hB2.out] at e12;obtain⟨rfl,rfl⟩:=e12;have HX2:=q_h (HX.out.trans HE.out);replace k0:=HX2.out.cell k0;replace k1:=HX2.out.cell k1;have HXC:Hid (∀i,i<n2->∃u1 u2,w.cell? ⟨gt,ot+i*2,none⟩=some u1/\w.cell? ⟨gt,ot+i*2+1,none⟩=some u2/\Hid (.agg #[u1,u2]=Value.agg #[sV (s.tags.getD i default).name,sV (s.tags.getD i default).target])):=hx;clear hv hx;go_upto_region 17 with (fail);refine qo ?_;intro wq e4 hsz4 BQ;obtain⟨q,hq⟩:=qf wr.heap.size;rw[<-hq.out] at BQ ⊢;have HX6:=q_h (HX2.out.trans e4);have HE6:=q_h (HE.out.trans e4);have HB06:=q_h (HE6.out.block HB0.out);have HN6:=q_h (HE6.out.block HN.out);have HBQ:=q_h BQ;clear BQ e4 k0 k1;obtain⟨k0,k1,-⟩:=cells2 HBQ.out;have q5:wq.cell? ⟨w.heap.size,5,none⟩=some (.slice (some ⟨gt,ot,none⟩) n2 c2):=(qj HB06.out 5).trans rfl;have kn:wq.cell? ⟨gN,0,none⟩=some (.slice Av i cv):=qj HN6.out 0;obtain⟨it,hit⟩:=qf (Xr (s.tags.getD j default).name)
    have HCT:Hid (∀w',Calls Tryz.prog 112 #[.string B1] w' (qH w' (.bool it))):=fun w'=>by
     rw[hit.out,hB1.out]
     have h9:=Kw (bA (s.tags.getD j default).name) (by
      have:=(HTK.out j hjs).1
      show (s.tags.getD j default).name.toArray.size<=_
      rw[List.size_toArray]
      omega) w'
     exact h9
    obtain⟨ok,hok9⟩:=qf (K.contains (s.tags.getD j default).target)
    have HCK:Hid (∀w',Ext wq w'->Calls Tryz.prog 47 #[.slice Av i cv,.string B2] w' (qH w' (.bool ok))):=fun w' e=>by
     rw[hok9.out,hB2.out,<-qO];exact zT (HKS.out.ext (HE6.out.trans e)) (by have:=HKL.out;omega)
    cases it with
    | false =>
     have eC:=(Ext.refl wq).drew;refine ql (fun w'=>w'.cell? ⟨q,0,none⟩=some (.string B1)) [] (by kernel_rfl) (by exact eC.cell k0) (fun hHeld=>?_);refine sP 0 (h:=?_);refine sT 1 (h:=?_);refine qg (i:=2) rfl (by kernel_rfl) (fun K hK=>?_);go_simp;refine (HCT.out _).mono ?_;rintro e w9t ⟨rfl,e9⟩;replace eC:=eC.trans e9;go_wp2_with fail;clear hHeld;refine hK.out _ _ (by exact eC.cell k0) fun hHeld=>?_
     clear hK K;try simp only[nr]
     refine sP 3 (h:=?_);refine sP 4 (h:=?_);refine sF 5 (h:=?_);refine sF 6 (h:=?_);refine sF 7 (h:=?_);refine sF 8 (h:=?_);refine sF 9 (h:=?_);refine sP 10 (h:=?_);refine sP 11 (h:=?_);refine sF 12 (h:=?_);refine sF 13 (h:=?_);refine sF 14 (h:=?_);refine sF 15 (h:=?_);refine sF 16 (h:=?_);refine sF 17 (h:=?_);refine sF 18 (h:=?_);refine sF 19 (h:=?_);refine sF 20 (h:=?_);refine sF 21 (h:=?_);refine sF 22 (h:=?_);refine sF 23 (h:=?_);refine sF 24 (h:=?_);refine sF 25 (h:=?_);refine sP 26 (h:=?_);refine qm (by kernel_rfl) ?_ _;clear hHeld
     have HVB:Hid (qE s=false):=yz hjs (by
      unfold xI;rw[<-hit.out]
      rfl)
     have HX9:=q_h (HX6.out.trans eC);clear q5 e9 eC k0 k1 kn;go_wp2
     first|go_ret|skip
     exact⟨qx (hr.out.trans HVB.out).symm,HX9.out⟩
    | true =>
    cases ok with
    | false =>
     have eC:=(Ext.refl wq).drew;refine ql (fun w'=>w'.cell? ⟨q,0,none⟩=some (.string B1)/\w'.cell? ⟨q,1,none⟩=some (.string B2)/\w'.cell? ⟨gN,0,none⟩=some (.slice Av i cv)) [] (by kernel_rfl) (by exact⟨eC.cell k0,eC.cell k1,eC.cell kn⟩) (fun hHeld=>?_);refine sP 0 (h:=?_);refine sT 1 (h:=?_);refine qg (i:=2) rfl (by kernel_rfl) (fun K hK=>?_);go_simp;refine (HCT.out _).mono ?_;rintro e w9t ⟨rfl,e9⟩;replace eC:=eC.trans e9;go_wp2_with fail;clear hHeld;refine hK.out _ _ (by exact⟨eC.cell k0,eC.cell k1,eC.cell kn⟩) fun hHeld=>?_
     clear hK K;try simp only[nr]
     refine sP 3 (h:=?_);refine sP 4 (h:=?_);refine sT 5 (h:=?_);refine sP 6 (h:=?_);refine sT 7 (h:=?_);refine qg (i:=8) rfl (by kernel_rfl) (fun K hK=>?_);rw[if_pos (by rfl)];go_simp;refine (HCK.out _ eC).mono ?_;rintro e w9u ⟨rfl,e9u⟩;replace eC:=eC.trans e9u;go_wp2_with fail;clear hHeld;refine hK.out _ _ (by exact⟨eC.cell k0,eC.cell k1,eC.cell kn⟩) fun hHeld=>?_
     clear hK K;try simp only[nr]
     refine sP 9 (h:=?_);refine sP 10 (h:=?_);refine sP 11 (h:=?_);refine sF 12 (h:=?_);refine sF 13 (h:=?_);refine sF 14 (h:=?_);refine sF 15 (h:=?_);refine sF 16 (h:=?_);refine sF 17 (h:=?_);refine sF 18 (h:=?_);refine sF 19 (h:=?_);refine sF 20 (h:=?_);refine sF 21 (h:=?_);refine sF 22 (h:=?_);refine sF 23 (h:=?_);refine sF 24 (h:=?_);refine sF 25 (h:=?_);refine sP 26 (h:=?_);refine qm (by kernel_rfl) ?_ _;clear hHeld
     have HVB:Hid (qE s=false):=yz hjs (by
      unfold xI;rw[HKN.out,<-hok9.out]
      simp)
     have HX9:=q_h (HX6.out.trans eC);clear q5 e9 e9u eC k0 k1 kn;go_wp2
     first|go_ret|skip
     exact⟨qx (hr.out.trans HVB.out).symm,HX9.out⟩
    | true =>
    by_cases hj0:j=0
    ·have dj:decide (0<(j:Int))=false:=q_f (by omega);have dj':decide (0<j)=false:=q_f (by omega);have eC:=(Ext.refl wq).drew;refine ql (fun w'=>w'.cell? ⟨q,0,none⟩=some (.string B1)/\w'.cell? ⟨q,1,none⟩=some (.string B2)/\w'.cell? ⟨gN,0,none⟩=some (.slice Av i cv)) [] (by kernel_rfl) (by exact⟨eC.cell k0,eC.cell k1,eC.cell kn⟩) (fun hHeld=>?_);refine sP 0 (h:=?_);refine sT 1 (h:=?_);refine qg (i:=2) rfl (by kernel_rfl) (fun K hK=>?_);go_simp;refine (HCT.out _).mono ?_;rintro e w9t ⟨rfl,e9⟩;replace eC:=eC.trans e9;go_wp2_with fail;clear hHeld;refine hK.out _ _ (by exact⟨eC.cell k0,eC.cell k1,eC.cell kn⟩) fun hHeld=>?_
     clear hK K;try simp only[nr]
     refine sP 3 (h:=?_);refine sP 4 (h:=?_);refine sT 5 (h:=?_);refine sP 6 (h:=?_);refine sT 7 (h:=?_);refine qg (i:=8) rfl (by kernel_rfl) (fun K hK=>?_);rw[if_pos (by rfl)];go_simp;refine (HCK.out _ eC).mono ?_;rintro e w9u ⟨rfl,e9u⟩;replace eC:=eC.trans e9u;go_wp2_with fail;clear hHeld;refine hK.out _ _ (by exact⟨eC.cell k0,eC.cell k1,eC.cell kn⟩) fun hHeld=>?_
     clear hK K;try simp only[nr]
     refine sP 9 (h:=?_);refine sP 10 (h:=?_);refine sP 11 (h:=?_);refine sP 12 (h:=?_);refine sP 13 (h:=?_);refine sP 14 (h:=?_);refine sF 15 (h:=?_);refine sF 16 (h:=?_);refine sF 17 (h:=?_);refine sF 18 (h:=?_);refine sF 19 (h:=?_);refine sF 20 (h:=?_);refine sF 21 (h:=?_);refine sF 22 (h:=?_);refine sF 23 (h:=?_);refine sF 24 (h:=?_);refine sP 25 (h:=?_);refine sP 26 (h:=?_);refine qm (by kernel_rfl) ?_ _;clear hHeld
     have HT1:Hid (xI (xY s) (lastT none (s.tags.take j)) (s.tags.getD j default)=true):=by
      rw[Hid,ji s.tags (by omega),if_pos hj0];unfold xI;rw[HKN.out,<-hit.out,<-hok9.out]
      rfl
     clear e9 e9u;have HX9:=q_h (HX6.out.trans eC);have HE9:=q_h (HE6.out.trans eC);have HBQ9:=q_h (eC.block HBQ.out)
     have HTG9:Hid (ZB (xY s) none (s.tags.take (j+1))=true):=by
      rw[Hid,take_snoc s.tags default hjs,kV,HTB9.out,HT1.out]
      rfl
     clear eC k0 k1 q5 kn;obtain⟨k0,k1,-⟩:=cells2 HBQ9.out
     have HCG:Hid (Calls Tryz.prog 113 #[.string B1,.string B2] w9u (Zz w9u (ZF (tgE (s.tags.getD j default))))):=by
      rw[hB1.out,hB2.out];exact ja (HTK.out j hjs)
     go_wp2_with (go_at_call 113;refine q_o ?_);refine HCG.out.mono ?_;rintro e wx ⟨vx,rfl,hGx,ex⟩;have HEx:=q_h (HE9.out.trans ex);have hpb:=QC (HTK.out j hjs);rw[jk] at hGx;obtain⟨pn,hpn⟩:=qf (pgN (tgE (s.tags.getD j default)));rw[<-hpn.out] at hGx hpb;obtain⟨Ax,cx,rfl,-⟩:=hGx.form;have hpn9:pn<=100:=hpb.1;clear hGx ex k0 k1 HBQ9 HX9 HCG hpb HE9;have hpg9:pt<=300000:=HPT9.out;have HSUM:Hid (pgT (s.tags.take (j+1))=pgT (s.tags.take j)+pn):=by rw[Hid,take_snoc s.tags default hjs,vH,hpn.out]
     have HPT2:Hid (pgT (s.tags.take (j+1))<=100*(j+1)):=by rw[Hid,HSUM.out];have:=HPT.out;omega
     have HNW:Hid ((pg+pgT (s.tags.take (j+1)):Nat)=pt+pn):=by rw[Hid,HSUM.out,hpt.out];omega
     go_wp2;go_roundw
     case rel=>exact⟨j+1,by omega,by go_num,by rw[HNW.out];go_num,HPT2,HTG9,HEx⟩
     case measure=>simp[intOf];omega
    ·have dj:decide (0<(j:Int))=true:=q_t (by omega);have dj':decide (0<j)=true:=q_t (by omega);obtain⟨jm,hjm⟩:∃jm,jm=j-1:=⟨_,rfl⟩
     have hj1:(j:Int)-1=(jm:Int):=by omega
     have hj2:IntKind.i64.wrap ((j:Int)-1)=(jm:Int):=by rw[hj1];exact wrp (by omega) (by omega)
     have hj5:IntKind.i64.wrap (jm:Int)=(jm:Int):=wrp (by omega) (by omega);have hj3:(jm:Int)<(n2:Int):=by omega
     have hj4:jm<n2:=by omega
     obtain⟨x3,x4,k3,-,hv3⟩:=HXC.out jm hj4
     have e3:x3=.string (bA (s.tags.getD jm default).name):=by
      have h9:=hv3.out;simp only[Value.agg.injEq,Array.mk.injEq,List.cons.injEq,and_true] at h9;exact h9.1
     obtain⟨B3,hB3⟩:=qf (bA (s.tags.getD jm default).name);rw[<-hB3.out] at e3;subst e3;replace k3:=HX6.out.cell k3;obtain⟨le,hle⟩:=qf (ltP (some (s.tags.getD jm default).name) (s.tags.getD j default).name)
     have ule:Go.Op.bytesLess B3.toList B1.toList=le:=by
      rw[hle.out,hB1.out,hB3.out];unfold bA;rw[ByteArray.toList_mk,ByteArray.toList_mk]
      rfl
     have HLT:Hid (lastT none (s.tags.take j)=some (s.tags.getD jm default).name):=by
      rw[Hid,ji s.tags (by omega),if_neg hj0,hjm]
     clear hv3 hjm;cases le with
     | false =>
      have eC:=(Ext.refl wq).drew;refine ql (fun w'=>w'.cell? ⟨q,0,none⟩=some (.string B1)/\w'.cell? ⟨q,1,none⟩=some (.string B2)/\w'.cell? ⟨gN,0,none⟩=some (.slice Av i cv)/\w'.cell? ⟨w.heap.size,5,none⟩=some (.slice (some ⟨gt,ot,none⟩) n2 c2)/\w'.cell? ⟨gt,ot+jm*2,none⟩=some (.string B3)) [] (by kernel_rfl) (by exact⟨eC.cell k0,eC.cell k1,eC.cell kn,eC.cell q5,eC.cell k3⟩) (fun hHeld=>?_);refine sP 0 (h:=?_);refine sT 1 (h:=?_);refine qg (i:=2) rfl (by kernel_rfl) (fun K hK=>?_);go_simp;refine (HCT.out _).mono ?_;rintro e w9t ⟨rfl,e9⟩;replace eC:=eC.trans e9;go_wp2_with fail;clear hHeld;refine hK.out _ _ (by exact⟨eC.cell k0,eC.cell k1,eC.cell kn,eC.cell q5,eC.cell k3⟩) fun hHeld=>?_
      clear hK K;try simp only[nr]
      refine sP 3 (h:=?_);refine sP 4 (h:=?_);refine sT 5 (h:=?_);refine sP 6 (h:=?_);refine sT 7 (h:=?_);refine qg (i:=8) rfl (by kernel_rfl) (fun K hK=>?_);rw[if_pos (by rfl)];go_simp;refine (HCK.out _ eC).mono ?_;rintro e w9u ⟨rfl,e9u⟩;replace eC:=eC.trans e9u;go_wp2_with fail;clear hHeld;refine hK.out _ _ (by exact⟨eC.cell k0,eC.cell k1,eC.cell kn,eC.cell q5,eC.cell k3⟩) fun hHeld=>?_
      clear hK K;try simp only[nr]
      refine sP 9 (h:=?_);refine sP 10 (h:=?_);refine sP 11 (h:=?_);refine sP 12 (h:=?_);refine sP 13 (h:=?_);refine sP 14 (h:=?_);refine sP 15 (h:=?_);refine sT 16 (h:=?_);refine sP 17 (h:=?_);refine sP 18 (h:=?_);refine sP 19 (h:=?_);refine sP 20 (h:=?_);refine sT 21 (h:=?_);refine sP 22 (h:=?_);refine sT 23 (h:=?_);refine sP 24 (h:=?_);refine sP 25 (h:=?_);refine sP 26 (h:=?_);refine qm (by kernel_rfl) ?_ _;clear hHeld
      have HVB:Hid (qE s=false):=yz hjs (by
       unfold xI;rw[HLT.out,<-hle.out]
       simp)
      have HX9:=q_h (HX6.out.trans eC);clear q5 e9 e9u k3 eC k0 k1 kn;go_wp2
      first|go_ret|skip
      exact⟨qx (hr.out.trans HVB.out).symm,HX9.out⟩
     | true =>
      have eC:=(Ext.refl wq).drew;refine ql (fun w'=>w'.cell? ⟨q,0,none⟩=some (.string B1)/\w'.cell? ⟨q,1,none⟩=some (.string B2)/\w'.cell? ⟨gN,0,none⟩=some (.slice Av i cv)/\w'.cell? ⟨w.heap.size,5,none⟩=some (.slice (some ⟨gt,ot,none⟩) n2 c2)/\w'.cell? ⟨gt,ot+jm*2,none⟩=some (.string B3)) [] (by kernel_rfl) (by exact⟨eC.cell k0,eC.cell k1,eC.cell kn,eC.cell q5,eC.cell k3⟩) (fun hHeld=>?_);refine sP 0 (h:=?_);refine sT 1 (h:=?_);refine qg (i:=2) rfl (by kernel_rfl) (fun K hK=>?_);go_simp;refine (HCT.out _).mono ?_;rintro e w9t ⟨rfl,e9⟩;replace eC:=eC.trans e9;go_wp2_with fail;clear hHeld;refine hK.out _ _ (by exact⟨eC.cell k0,eC.cell k1,eC.cell kn,eC.cell q5,eC.cell k3⟩) fun hHeld=>?_
      clear hK K;try simp only[nr]
      refine sP 3 (h:=?_);refine sP 4 (h:=?_);refine sT 5 (h:=?_);refine sP 6 (h:=?_);refine sT 7 (h:=?_);refine qg (i:=8) rfl (by kernel_rfl) (fun K hK=>?_);rw[if_pos (by rfl)];go_simp;refine (HCK.out _ eC).mono ?_;rintro e w9u ⟨rfl,e9u⟩;replace eC:=eC.trans e9u;go_wp2_with fail;clear hHeld;refine hK.out _ _ (by exact⟨eC.cell k0,eC.cell k1,eC.cell kn,eC.cell q5,eC.cell k3⟩) fun hHeld=>?_
      clear hK K;try simp only[nr]
      refine sP 9 (h:=?_);refine sP 10 (h:=?_);refine sP 11 (h:=?_);refine sP 12 (h:=?_);refine sP 13 (h:=?_);refine sP 14 (h:=?_);refine sP 15 (h:=?_);refine sT 16 (h:=?_);refine sP 17 (h:=?_);refine sP 18 (h:=?_);refine sP 19 (h:=?_);refine sP 20 (h:=?_);refine sT 21 (h:=?_);refine sP 22 (h:=?_);refine sT 23 (h:=?_);refine sP 24 (h:=?_);refine sP 25 (h:=?_);refine sP 26 (h:=?_);refine qm (by kernel_rfl) ?_ _;clear hHeld
      have HT1:Hid (xI (xY s) (lastT none (s.tags.take j)) (s.tags.getD j default)=true):=by
       rw[Hid,HLT.out];unfold xI;rw[HKN.out,<-hit.out,<-hok9.out,<-hle.out]
       rfl
      clear k3 e9 e9u;have HX9:=q_h (HX6.out.trans eC);have HE9:=q_h (HE6.out.trans eC);have HBQ9:=q_h (eC.block HBQ.out)
      have HTG9:Hid (ZB (xY s) none (s.tags.take (j+1))=true):=by
       rw[Hid,take_snoc s.tags default hjs,kV,HTB9.out,HT1.out]
       rfl
      clear eC k0 k1 q5 kn;obtain⟨k0,k1,-⟩:=cells2 HBQ9.out
      have HCG:Hid (Calls Tryz.prog 113 #[.string B1,.string B2] w9u (Zz w9u (ZF (tgE (s.tags.getD j default))))):=by
       rw[hB1.out,hB2.out];exact ja (HTK.out j hjs)
      go_wp2_with (go_at_call 113;refine q_o ?_);refine HCG.out.mono ?_;rintro e wx ⟨vx,rfl,hGx,ex⟩;have HEx:=q_h (HE9.out.trans ex);have hpb:=QC (HTK.out j hjs);rw[jk] at hGx;obtain⟨pn,hpn⟩:=qf (pgN (tgE (s.tags.getD j default)));rw[<-hpn.out] at hGx hpb;obtain⟨Ax,cx,rfl,-⟩:=hGx.form;have hpn9:pn<=100:=hpb.1;clear hGx ex k0 k1 HBQ9 HX9 HCG hpb HE9;have hpg9:pt<=300000:=HPT9.out;have HSUM:Hid (pgT (s.tags.take (j+1))=pgT (s.tags.take j)+pn):=by rw[Hid,take_snoc s.tags default hjs,vH,hpn.out]
      have HPT2:Hid (pgT (s.tags.take (j+1))<=100*(j+1)):=by rw[Hid,HSUM.out];have:=HPT.out;omega
      have HNW:Hid ((pg+pgT (s.tags.take (j+1)):Nat)=pt+pn):=by rw[Hid,HSUM.out,hpt.out];omega
      go_wp2;go_roundw
      case rel=>exact⟨j+1,by omega,by go_num,by rw[HNW.out];go_num,HPT2,HTG9,HEx⟩
      case measure=>simp[intOf];omega
   obtain rfl:j=n2:=by omega
   have u6:decide ((j:Int)<(j:Int))=false:=q_f (by omega);have HTK2:Hid (s.tags.take j=s.tags):=List.take_of_length_le (by have:=HN2.out;omega);rw[HTK2.out] at HTB9 hpt;have HPS:Hid (pgs s=pt):=by rw[Hid,hpt.out,hpg.out];rfl
   have HX6:=q_h (HX.out.trans HE.out);have HB06:=q_h (HE.out.block HB0.out);obtain⟨q0,q1,q2,q3,q4,q5⟩:=qw HB06.out;obtain⟨b,hb9⟩:=qf (decide ((pt:Int)<=used));have u8':decide ((pt:Int)<=used)=b:=hb9.out.symm
   have HRB:Hid (r=b):=by
    rw[Hid,hr.out,hb9.out];unfold qE;rw[HHD.out,HOB.out,HTB9.out,HPS.out,<-hused.out]
    rfl
   go_wp2
   first|go_ret|skip
   exact⟨qx HRB.out.symm,HX6.out⟩
theorem Wv {s:Shf}(h:qE s=true):∀i,i<s.objs.length->okO (s.objs.getD i default):=fun i hi=>by
 have h2:wV [] s.objs=true:=by
  unfold qE at h;simp only[Bool.and_eq_true] at h;exact h.2.1
 rw[<-List.take_append_drop (i+1) s.objs] at h2;have h3:=Z4 _ _ _ h2;rw[take_snoc s.objs default hi,xX,Bool.and_eq_true] at h3;exact Qi h3.2
theorem qI.low' {ET:TypeId}{b':Nat}{xs:List Value}(h:qI ET k base w v n xs) (hb:b'<=base):qI ET k b' w v n xs:=by
 refine⟨q_l hb h.1,h.2.1,?_⟩
 rcases h.2.2 with h0|⟨g,cap,cur,hv,hb0,h3⟩
 ·exact .inl h0
 ·exact .inr ⟨g,cap,cur,hv,by omega,h3⟩
def LnS (l:Byt):Prop:=l.length<=4611686018427387903
def q14 (o:Ob):Bool:=decide (o.links.length<=20)&&(decide (o.data.length<=1100)&&o.links.all fun s=>decide (s.length<=100))
def fewT (t:Tg):Bool:=decide (t.name.length+t.target.length<=200)
def fewS (s:Shf):Bool:=decide (s.objs.length<=12)&&(decide (s.tags.length<=12)&&(s.objs.all q14&&s.tags.all fewT))
theorem Qh {α:Type}(d:α) (l:List α) (p:α->Bool):kH l.length (fun i=>!p (l.getD i d))=!l.all p:=by
 cases h:l.all p with
 | true =>
  refine zg.2 fun i hi=>?_
  rw[List.getD_eq_getElem?_getD,List.getElem?_eq_getElem hi];rw[List.all_eq_true] at h;simpa using h _ (List.getElem_mem hi)
 | false =>
  rw[List.all_eq_false] at h;obtain⟨s,hs,h1⟩:=h;obtain⟨i,hi,rfl⟩:=List.getElem_of_mem hs;refine zF hi ?_;rw[List.getD_eq_getElem?_getD,List.getElem?_eq_getElem hi];simpa using h1
theorem Y8 {l:Byt}(hl:LnS l):Calls Tryz.prog 57 #[sV l] w (qH w (.bool (!decide (l.length<=100)))):=by
 obtain⟨n,hn⟩:=qf l.length;unfold LnS at hl;rw[<-hn.out] at hl ⊢;have hsz:(bA l).size=n:=by rw[hn.out];exact List.size_toArray
 rw[qO];obtain⟨B,hB⟩:=qf (bA l);rw[<-hB.out] at hsz ⊢;obtain⟨r,hr⟩:=qf (!decide (n<=100));rw[<-hr.out];have hw:IntKind.i64.wrap ((n:Nat):Int)=n:=wrp (by omega) (by omega)
 have hd:decide ((100:Int)<(n:Int))=r:=by
  rw[hr.out]
  by_cases h:n<=100
  ·rw[q_t h,q_f (by omega)];rfl
  ·rw[q_f h,q_t (by omega)];rfl
 go_enter Tryz.func57,Tryz.ntmps57;go_wp2
 first|go_ret|skip
 exact⟨rfl,Ext.refl w⟩
theorem Va {t:Tg}(h1:LnS t.name) (h2:LnS t.target):Calls Tryz.prog 55 #[.agg #[sV t.name,sV t.target]] w (qH w (.bool (!fewT t))):=by
 unfold fewT;obtain⟨n,hn⟩:=qf t.name.length;obtain⟨m,hm⟩:=qf t.target.length;unfold LnS at h1 h2;rw[<-hn.out] at h1 ⊢;rw[<-hm.out] at h2 ⊢;have hs1:(bA t.name).size=n:=by rw[hn.out];exact List.size_toArray
 have hs2:(bA t.target).size=m:=by rw[hm.out];exact List.size_toArray
 rw[qO,qO];obtain⟨B,hB⟩:=qf (bA t.name);obtain⟨C,hC⟩:=qf (bA t.target);rw[<-hB.out] at hs1 ⊢;rw[<-hC.out] at hs2 ⊢;obtain⟨r,hr⟩:=qf (!decide (n+m<=200));rw[<-hr.out];have hw1:IntKind.i64.wrap ((n:Nat):Int)=n:=wrp (by omega) (by omega);have hw2:IntKind.i64.wrap ((m:Nat):Int)=m:=wrp (by omega) (by omega);have hw:IntKind.i64.wrap ((n:Int)+(m:Int))=(n:Int)+m:=wrp (by omega) (by omega)
 have hd:decide ((200:Int)<(n:Int)+(m:Int))=r:=by
  rw[hr.out]
  by_cases h:n+m<=200
  ·rw[q_t h,q_f (by omega)];rfl
  ·rw[q_f h,q_t (by omega)];rfl
 go_enter Tryz.func55,Tryz.ntmps55;go_upto_region 1 with (fail);refine qo ?_;intro w1 hE hsz B0;obtain⟨p0,p1,-⟩:=cells2 B0;go_wp2
 first|go_ret|skip
 exact⟨rfl,hE⟩
theorem JX{l:List Byt}(h:jG w v n l)  (g:Nat->Bool)
  (hf:∀i,i<n->∀w' u,Ext w w'->Hid (u=sV (l.getD i []))->Calls Tryz.prog 57 #[u] w' (qH w' (.bool (g i)))) :
  Calls Tryz.prog 125 #[v,.func (.func 57) #[] #[]] w (yt w (kH n g)):=by
 obtain⟨r,hr⟩:=qf (kH n g);rw[<-hr.out];obtain⟨A,c,rfl,hnc,hcm⟩:=h.form;unfold maxLen at hcm;have hI:=h;have HF:=q_h hf;clear h hf;go_enter Tryz.func125,Tryz.ntmps125;go_wp2
 go_loopw [8] (fun i wr=>∃k:Nat,k<=n/\i=.int .i64 k/\Hid (∀j,j<k->g j=false)/\Ext w wr) (fun i _=>n-(intOf i).toNat)
 case atStart=>exact⟨0,Nat.zero_le _,rfl,fun j hj=>absurd hj (by omega),Ext.refl w⟩
 case round =>
  obtain⟨k,hk,rfl,HA,hE⟩:=hrel
  by_cases hlt:k<n
  ·(obtain⟨b,off,rfl,hx⟩:=(hI.ext hE).addr (by omega));(obtain⟨u,p0,hv⟩:=hx k hlt)
   clear hx;go_wp2_with (go_at_call 57;refine q_o ?_);refine (HF.out k hlt _ _ hE hv).mono ?_;rintro e w1 ⟨rfl,e1⟩;replace hE:=hE.trans e1;obtain⟨o,ho⟩:=qf (g k);rw[<-ho.out];cases o with
   | false =>
    go_wp2;go_roundw
    case rel=>exact⟨k+1,by omega,by go_num,kw (p:=fun j=>g j=false) HA.out ho.out.symm,hE⟩
    case measure=>simp[intOf];omega
   | true =>
    have HT:Hid (r=true):=by rw[Hid,hr.out];exact zF hlt ho.out.symm
    go_wp2;go_ret;exact⟨_,rfl,by rw[Hid,HT.out];symm;simp,hE⟩
  ·have HT:Hid (r=false):=by rw[Hid,hr.out];exact zg.2 (fun j hj=>HA.out j (by omega))
   go_wp2;go_ret;exact⟨_,rfl,by rw[Hid,HT.out];rfl,hE⟩
theorem YI{l:List Byt}(h:jG w v n l)  (g:Nat->Bool)
  (hf:∀i,i<n->∀w' u,Ext w w'->Hid (u=sV (l.getD i []))->Calls Tryz.prog 57 #[u] w' (qH w' (.bool (g i)))) :
  Calls Tryz.prog 56 #[v,.func (.func 57) #[] #[]] w (qH w (.bool (kH n g))):=by
 obtain⟨r,hr⟩:=qf (kH n g);rw[<-hr.out];obtain⟨A,c,rfl,hnc,hcm⟩:=h.form;have hI:=h;have HF:=q_h hf;clear h hf;go_enter Tryz.func56,Tryz.ntmps56;go_wp2_with (go_at_call 125;refine q_o ?_);refine (JX hI  g HF.out).mono ?_;rintro e w1 ⟨z,rfl,hz,e1⟩;rw[<-hr.out] at hz;go_wp2;go_ret;exact⟨qx hz.out.symm,e1⟩
theorem JV{l:List Tg}(h:Yh w v n l)  (g:Nat->Bool)
  (hf:∀i,i<n->∀w' u,Ext w w'->Hid (u=.agg #[sV (l.getD i default).name,sV (l.getD i default).target])->Calls Tryz.prog 55 #[u] w' (qH w' (.bool (g i)))) :
  Calls Tryz.prog 124 #[v,.func (.func 55) #[] #[]] w (yt w (kH n g)):=by
 obtain⟨r,hr⟩:=qf (kH n g);rw[<-hr.out];obtain⟨A,c,rfl,hnc,hcm⟩:=h.form;unfold maxLen at hcm;have hI:=h;have HF:=q_h hf;clear h hf;go_enter Tryz.func124,Tryz.ntmps124;go_wp2
 go_loopw [8] (fun i wr=>∃k:Nat,k<=n/\i=.int .i64 k/\Hid (∀j,j<k->g j=false)/\Ext w wr) (fun i _=>n-(intOf i).toNat)
 case atStart=>exact⟨0,Nat.zero_le _,rfl,fun j hj=>absurd hj (by omega),Ext.refl w⟩
 case round =>
  obtain⟨k,hk,rfl,HA,hE⟩:=hrel
  by_cases hlt:k<n
  ·(obtain⟨b,off,rfl,hx⟩:=(hI.ext hE).addr (by omega));(obtain⟨x1,x2,p0,p1,hv⟩:=hx k hlt)
   clear hx;go_wp2_with (go_at_call 55;refine q_o ?_);refine (HF.out k hlt _ _ hE hv).mono ?_;rintro e w1 ⟨rfl,e1⟩;replace hE:=hE.trans e1;obtain⟨o,ho⟩:=qf (g k);rw[<-ho.out];cases o with
   | false =>
    go_wp2;go_roundw
    case rel=>exact⟨k+1,by omega,by go_num,kw (p:=fun j=>g j=false) HA.out ho.out.symm,hE⟩
    case measure=>simp[intOf];omega
   | true =>
    have HT:Hid (r=true):=by rw[Hid,hr.out];exact zF hlt ho.out.symm
    go_wp2;go_ret;exact⟨_,rfl,by rw[Hid,HT.out];symm;simp,hE⟩
  ·have HT:Hid (r=false):=by rw[Hid,hr.out];exact zg.2 (fun j hj=>HA.out j (by omega))
   go_wp2;go_ret;exact⟨_,rfl,by rw[Hid,HT.out];rfl,hE⟩
theorem YG{l:List Tg}(h:Yh w v n l)  (g:Nat->Bool)
  (hf:∀i,i<n->∀w' u,Ext w w'->Hid (u=.agg #[sV (l.getD i default).name,sV (l.getD i default).target])->Calls Tryz.prog 55 #[u] w' (qH w' (.bool (g i)))) :
  Calls Tryz.prog 54 #[v,.func (.func 55) #[] #[]] w (qH w (.bool (kH n g))):=by
 obtain⟨r,hr⟩:=qf (kH n g);rw[<-hr.out];obtain⟨A,c,rfl,hnc,hcm⟩:=h.form;have hI:=h;have HF:=q_h hf;clear h hf;go_enter Tryz.func54,Tryz.ntmps54;go_wp2_with (go_at_call 124;refine q_o ?_);refine (JV hI  g HF.out).mono ?_;rintro e w1 ⟨z,rfl,hz,e1⟩;rw[<-hr.out] at hz;go_wp2;go_ret;exact⟨qx hz.out.symm,e1⟩
theorem Za {o:Ob}{x y:Value}(h:ObR w x y o) (hl:∀s∈o.links,LnS s):Calls Tryz.prog 12 #[.agg #[x,y]] w (qH w (.bool (q14 o))):=by
 have HO:=q_h h;have HL:=q_h hl;obtain⟨r,hr⟩:=qf (q14 o);rw[<-hr.out];unfold q14 at hr;obtain⟨A0,c0,rfl,hc0,hm0⟩:=h.1.form;obtain⟨A9,c9,rfl,hc9,hm9⟩:=h.2.form;unfold maxLen at hm0 hm9;obtain⟨n0,hn0⟩:=qf o.links.length;obtain⟨n9,hn9⟩:=qf o.data.length;obtain⟨al,hal⟩:=qf (o.links.all fun s=>decide (s.length<=100));rw[<-hn0.out] at HO hr hc0 ⊢;rw[<-hn9.out] at HO hr hc9 ⊢;rw[<-hal.out] at hr
 have HCF:Hid (∀w',Ext w w'->Calls Tryz.prog 56 #[.slice A0 n0 c0,.func (.func 57) #[] #[]] w' (qH w' (.bool (!al)))):=fun w' e=>by
  rw[hal.out,<-vU,<-hn0.out];refine YI (l:=o.links) ⟨hn0.out,(HO.out.ext e).1⟩ _ (fun j hj w9 u e9 hu=>?_);rw[hu.out]
  exact Y8 (HL.out _ (by
   rw[List.getD_eq_getElem?_getD,List.getElem?_eq_getElem (by rw[<-hn0.out];exact hj)]
   exact List.getElem_mem _))
 clear h hl;go_enter Tryz.func12,Tryz.ntmps12;go_upto_region 1 with (fail);refine qo ?_;intro w1 hE hsz B0;have HX:=q_h hE;obtain⟨p0,p1,-⟩:=cells2 B0
 by_cases ha:n0<=20
 case neg =>
  have d0:decide ((n0:Int)<=20)=false:=q_f (by omega);have HR:Hid (r=false):=by rw[Hid,hr.out,q_f ha];rfl
  go_wp2
  first|go_ret|skip
  exact⟨qx HR.out.symm,HX.out⟩
 have d0:decide ((n0:Int)<=20)=true:=q_t (by omega)
 by_cases hb:n9<=1100
 case neg =>
  have d1:decide ((n9:Int)<=1100)=false:=q_f (by omega);have HR:Hid (r=false):=by rw[Hid,hr.out,q_t ha,q_f hb];rfl
  go_wp2
  first|go_ret|skip
  exact⟨qx HR.out.symm,HX.out⟩
 have d1:decide ((n9:Int)<=1100)=true:=q_t (by omega);have HR:Hid (r=!(!al)):=by rw[Hid,hr.out,q_t ha,q_t hb,Bool.not_not];rfl
 go_wp2_with (go_at_call 56;refine q_o ?_);refine (HCF.out w1 HX.out).mono ?_;rintro e w2 ⟨rfl,e2⟩;have HX2:=q_h (HX.out.trans e2);cases al with
 | false =>
  go_wp2
  first|go_ret|skip
  exact⟨qx HR.out.symm,HX2.out⟩
 | true =>
  go_wp2
  first|go_ret|skip
  exact⟨qx HR.out.symm,HX2.out⟩
theorem Y7 {o:Ob}{u:Value}(h:ObV w u o) (hl:∀s∈o.links,LnS s):Calls Tryz.prog 53 #[u] w (qH w (.bool (!q14 o))):=by
 obtain⟨x,y,rfl,h⟩:=h;have HC:Hid (∀w',Ext w w'->Calls Tryz.prog 12 #[.agg #[x,y]] w' (qH w' (.bool (q14 o)))):=fun w' e=>Za (h.ext e) hl
 obtain⟨A0,c0,rfl,-⟩:=h.1.form;obtain⟨A9,c9,rfl,-⟩:=h.2.form;obtain⟨n0,hn0⟩:=qf o.links.length;obtain⟨n9,hn9⟩:=qf o.data.length;obtain⟨r,hr⟩:=qf (q14 o);rw[<-hn0.out,<-hn9.out,<-hr.out] at HC;rw[<-hn0.out,<-hn9.out,<-hr.out];clear h hl;go_enter Tryz.func53,Tryz.ntmps53;go_upto_region 1 with (fail);refine qo ?_;intro w1 hE hsz B0;obtain⟨p0,p1,-⟩:=cells2 B0;go_wp2_with (go_at_call 12;refine q_o ?_);refine (HC.out w1 hE).mono ?_;rintro e w2 ⟨rfl,e2⟩;go_wp2
 first|go_ret|skip
 exact⟨rfl,hE.trans e2⟩
theorem JW{l:List Ob}(h:q0H w v n l)  (g:Nat->Bool)
  (hf:∀i,i<n->∀w' u,Ext w w'->ObV w' u (l.getD i default)->Calls Tryz.prog 53 #[u] w' (qH w' (.bool (g i)))) :
  Calls Tryz.prog 123 #[v,.func (.func 53) #[] #[]] w (yt w (kH n g)):=by
 obtain⟨r,hr⟩:=qf (kH n g);rw[<-hr.out];obtain⟨A,c,rfl,hnc,hcm⟩:=h.form;unfold maxLen at hcm;have hI:=h;have HF:=q_h hf;clear h hf;go_enter Tryz.func123,Tryz.ntmps123;go_wp2
 go_loopw [8] (fun i wr=>∃k:Nat,k<=n/\i=.int .i64 k/\Hid (∀j,j<k->g j=false)/\Ext w wr) (fun i _=>n-(intOf i).toNat)
 case atStart=>exact⟨0,Nat.zero_le _,rfl,fun j hj=>absurd hj (by omega),Ext.refl w⟩
 case round =>
  obtain⟨k,hk,rfl,HA,hE⟩:=hrel
  by_cases hlt:k<n
  ·(obtain⟨b,off,rfl,hx⟩:=(hI.ext hE).addr (by omega));(obtain⟨A1,n1,c1,A2,n2,c2,p0,p1,hv⟩:=hx k hlt)
   clear hx;go_wp2_with (go_at_call 53;refine q_o ?_);refine (HF.out k hlt _ _ hE hv).mono ?_;rintro e w1 ⟨rfl,e1⟩;replace hE:=hE.trans e1;obtain⟨o,ho⟩:=qf (g k);rw[<-ho.out];cases o with
   | false =>
    go_wp2;go_roundw
    case rel=>exact⟨k+1,by omega,by go_num,kw (p:=fun j=>g j=false) HA.out ho.out.symm,hE⟩
    case measure=>simp[intOf];omega
   | true =>
    have HT:Hid (r=true):=by rw[Hid,hr.out];exact zF hlt ho.out.symm
    go_wp2;go_ret;exact⟨_,rfl,by rw[Hid,HT.out];symm;simp,hE⟩
  ·have HT:Hid (r=false):=by rw[Hid,hr.out];exact zg.2 (fun j hj=>HA.out j (by omega))
   go_wp2;go_ret;exact⟨_,rfl,by rw[Hid,HT.out];rfl,hE⟩
theorem YH{l:List Ob}(h:q0H w v n l)  (g:Nat->Bool)
  (hf:∀i,i<n->∀w' u,Ext w w'->ObV w' u (l.getD i default)->Calls Tryz.prog 53 #[u] w' (qH w' (.bool (g i)))) :
  Calls Tryz.prog 52 #[v,.func (.func 53) #[] #[]] w (qH w (.bool (kH n g))):=by
 obtain⟨r,hr⟩:=qf (kH n g);rw[<-hr.out];obtain⟨A,c,rfl,hnc,hcm⟩:=h.form;have hI:=h;have HF:=q_h hf;clear h hf;go_enter Tryz.func52,Tryz.ntmps52;go_wp2_with (go_at_call 123;refine q_o ?_);refine (JW hI  g HF.out).mono ?_;rintro e w1 ⟨z,rfl,hz,e1⟩;rw[<-hr.out] at hz;go_wp2;go_ret;exact⟨qx hz.out.symm,e1⟩
def LnSh (s:Shf):Prop:=(∀i,i<s.objs.length->∀l∈(s.objs.getD i default).links,LnS l)/\∀i,i<s.tags.length->LnS (s.tags.getD i default).name/\LnS (s.tags.getD i default).target
theorem q0Y {s:Shf}{A1 A2:Option Addr}{n1 c1 n2 c2:Nat}(hO:yJ w (.slice A1 n1 c1) s.objs) (hT:jK w (.slice A2 n2 c2) s.tags) (hl:LnSh s) :
  Calls Tryz.prog 11 #[.agg #[.int .i64 s.size,.int .i64 s.seq,.int .i64 s.half,.int .i64 s.used,.slice A1 n1 c1,.slice A2 n2 c2]] w (qH w (.bool (fewS s))):=by
 obtain⟨size,hsize⟩:=qf s.size;obtain⟨seq,hseq⟩:=qf s.seq;obtain⟨half,hhalf⟩:=qf s.half;obtain⟨used,hused⟩:=qf s.used;rw[<-hsize.out,<-hseq.out,<-hhalf.out,<-hused.out];obtain⟨r,hr⟩:=qf (fewS s);rw[<-hr.out];unfold fewS at hr;have HO:=q_h hO;have HT:=q_h hT;have HL:=q_h hl;have hN1:=hO.len.1;have hN2:=hT.len.1;obtain⟨A1',c1',e1,hc1,hm1⟩:=hO.form;obtain⟨A2',c2',e2,hc2,hm2⟩:=hT.form;obtain⟨-,-,rfl⟩:=Value.slice.inj e1;obtain⟨-,-,rfl⟩:=Value.slice.inj e2;unfold maxLen at hm1 hm2;rw[<-hN1] at hc1 hr;rw[<-hN2] at hc2 hr;have HN1:=q_h hN1;have HN2:=q_h hN2;obtain⟨ao,hao⟩:=qf (s.objs.all q14);obtain⟨at',hat⟩:=qf (s.tags.all fewT);rw[<-hao.out,<-hat.out] at hr
 have HCO:Hid (∀w',Ext w w'->Calls Tryz.prog 52 #[.slice A1 n1 c1,.func (.func 53) #[] #[]] w' (qH w' (.bool (!ao)))):=fun w' e=>by
  rw[hao.out,<-Qh default,<-HN1.out];refine YH (l:=s.objs) ⟨HN1.out,HO.out.ext e⟩ _ (fun j hj w9 u e9 hu=>?_);exact Y7 hu (HL.out.1 j (by rw[<-HN1.out];exact hj))
 have HCT:Hid (∀w',Ext w w'->Calls Tryz.prog 54 #[.slice A2 n2 c2,.func (.func 55) #[] #[]] w' (qH w' (.bool (!at')))):=fun w' e=>by
  rw[hat.out,<-Qh default,<-HN2.out];refine YG (l:=s.tags) ⟨HN2.out,HT.out.ext e⟩ _ (fun j hj w9 u e9 hu=>?_);rw[hu.out];exact Va (HL.out.2 j (by rw[<-HN2.out];exact hj)).1 (HL.out.2 j (by rw[<-HN2.out];exact hj)).2
 clear hO hT hl e1 e2 hN1 hN2;go_enter Tryz.func11,Tryz.ntmps11;go_upto_region 1 with (fail);refine qo ?_;intro w1 hE hsz B0;have HX:=q_h hE;obtain⟨p0,p1,p2,p3,p4,p5⟩:=qw B0;have HB0:=q_h B0;clear B0 hE
 by_cases ha:n1<=12
 case neg =>
  have d0:decide ((n1:Int)<=12)=false:=q_f (by omega);have HR:Hid (r=false):=by rw[Hid,hr.out,q_f ha];rfl
  go_wp2
  first|go_ret|skip
  exact⟨qx HR.out.symm,HX.out⟩
 have d0:decide ((n1:Int)<=12)=true:=q_t (by omega)
 by_cases hb:n2<=12
 case neg =>
  have d1:decide ((n2:Int)<=12)=false:=q_f (by omega);have HR:Hid (r=false):=by rw[Hid,hr.out,q_t ha,q_f hb];rfl
  go_wp2
  first|go_ret|skip
  exact⟨qx HR.out.symm,HX.out⟩
 have d1:decide ((n2:Int)<=12)=true:=q_t (by omega);have HR:Hid (r=(ao&&at')):=by rw[Hid,hr.out,q_t ha,q_t hb];rfl
 go_wp2_with (go_at_call 52;refine q_o ?_);refine (HCO.out w1 HX.out).mono ?_;rintro e w2 ⟨rfl,e2⟩;have HX2:=q_h (HX.out.trans e2);have HB2:=q_h (e2.block HB0.out);clear p0 p1 p2 p3 p4 p5 e2;obtain⟨p0,p1,p2,p3,p4,p5⟩:=qw HB2.out;cases ao with
 | false =>
  go_wp2
  first|go_ret|skip
  exact⟨qx HR.out.symm,HX2.out⟩
 | true =>
  go_wp2_with (go_at_call 54;refine q_o ?_);refine (HCT.out w2 HX2.out).mono ?_;rintro e w3 ⟨rfl,e3⟩;have HX3:=q_h (HX2.out.trans e3);cases at' with
  | false =>
   go_wp2
   first|go_ret|skip
   exact⟨qx HR.out.symm,HX3.out⟩
  | true =>
   go_wp2
   first|go_ret|skip
   exact⟨qx HR.out.symm,HX3.out⟩
theorem q2o {L:List Ob}{v':Value}(h:yJ w v L) (h':yJ w v' L) (hok:∀i,i<L.length->Ok0 (L.getD i default)) (hl:L.length<=1000):Calls Tryz.prog 77 #[v,v',.func (.func 42) #[] #[]] w (qH w (.bool true)):=by
 have HO:=q_h h;have HP:=q_h h';have HOK:=q_h hok;obtain⟨A,c,rfl,hnc,-⟩:=h.form;obtain⟨A',c',rfl,hnc',-⟩:=h'.form;obtain⟨n,hn⟩:=qf L.length;rw[<-hn.out] at HO HP hnc hnc' hl ⊢;clear h h' hok;go_enter Tryz.func77,Tryz.ntmps77;have u3:((n:Int) != (n:Int))=false:=by simp
 go_wp2_with fail
 go_loopw [17] (fun iv wr=>∃i:Nat,i<=n/\iv=.int .i64 (i:Int)/\Hid (Ext w wr)) (fun iv _=>n-(intOf iv).toNat)
 case atStart=>exact⟨0,Nat.zero_le _,rfl,Ext.refl w⟩
 case round =>
  obtain⟨i,hi9,rfl,HX⟩:=hrel
  by_cases hlt:i<n
  case neg =>
   have u5:decide ((i:Int)<(n:Int))=false:=q_f (by omega);go_wp2
   first|go_ret|skip
   exact⟨rfl,HX.out⟩
  have u5:decide ((i:Int)<(n:Int))=true:=q_t (by omega);have u6:(i:Int)<(n:Int):=by omega
  have hil:i<L.length:=by have:=hn.out;omega
  obtain⟨go,off,rfl,hx⟩:=HO.out.at_ hn.out (by omega);obtain⟨B1,m1,d1,B2,m2,d2,k0,k1,hobr⟩:=hx i hlt;obtain⟨gp,ofp,rfl,hx2⟩:=HP.out.at_ hn.out (by omega);obtain⟨C1,l1,e1,C2,l2,e2,r0,r1,hobp⟩:=hx2 i hlt;have HOR:=q_h (hobr.ext HX.out);have HPR:=q_h (hobp.ext HX.out);replace k0:=HX.out.cell k0;replace k1:=HX.out.cell k1;replace r0:=HX.out.cell r0;replace r1:=HX.out.cell r1;clear hx hx2 hobr hobp;go_upto_region 6 with (fail);refine qo ?_;intro w4 e4 hsz4 BQ;have HX4:=q_h (HX.out.trans e4);replace r0:=e4.cell r0;replace r1:=e4.cell r1;have HOR4:=q_h (HOR.out.ext e4);have HPR4:=q_h (HPR.out.ext e4);have HBQ:=q_h BQ;clear e4 k0 k1 HX HOR HPR BQ;go_upto_region 7 with (fail);refine qo ?_;intro w5 e5 hsz5 BP;obtain⟨k0,k1,-⟩:=cells2 (e5.block HBQ.out);obtain⟨t0,t1,-⟩:=cells2 BP;clear r0 r1;go_wp2_with (go_at_call 42;refine q_o ?_);refine (Qq (HOR4.out.ext e5) (HPR4.out.ext e5) (HOK.out i hil) (HOK.out i hil)).mono ?_;rintro e w6 ⟨rfl,e6⟩;have HX6:=q_h ((HX4.out.trans e5).trans e6);have hdd:decide (L.getD i default=L.getD i default)=true:=decide_eq_true rfl;rw[hdd];clear k0 k1 t0 t1 e5 e6 hdd;go_wp2;go_roundw
  case rel=>exact⟨i+1,by omega,by go_num,HX6⟩
  case measure=>simp[intOf];omega
theorem q2n {L:List Tg}{v':Value}(h:jK w v L) (h':jK w v' L) (hl:L.length<=1000):Calls Tryz.prog 78 #[v,v'] w (qH w (.bool true)):=by
 have HO:=q_h h;have HP:=q_h h';obtain⟨A,c,rfl,hnc,-⟩:=h.form;obtain⟨A',c',rfl,hnc',-⟩:=h'.form;obtain⟨n,hn⟩:=qf L.length;rw[<-hn.out] at HO HP hnc hnc' hl ⊢;clear h h';go_enter Tryz.func78,Tryz.ntmps78;have u3:((n:Int) != (n:Int))=false:=by simp
 go_wp2_with fail
 go_loopw [13] (fun iv wr=>∃i:Nat,i<=n/\iv=.int .i64 (i:Int)/\Hid (Ext w wr)) (fun iv _=>n-(intOf iv).toNat)
 case atStart=>exact⟨0,Nat.zero_le _,rfl,Ext.refl w⟩
 case round =>
  obtain⟨i,hi9,rfl,HX⟩:=hrel
  by_cases hlt:i<n
  case neg =>
   have u5:decide ((i:Int)<(n:Int))=false:=q_f (by omega);go_wp2
   first|go_ret|skip
   exact⟨rfl,HX.out⟩
  have u5:decide ((i:Int)<(n:Int))=true:=q_t (by omega);have u6:(i:Int)<(n:Int):=by omega
  obtain⟨gt,ot,rfl,hx⟩:=Yh.addr ⟨hn.out,HO.out⟩ (by omega);obtain⟨x1,x2,k0,k1,hv⟩:=hx i hlt;obtain⟨gp,op,rfl,hx2⟩:=Yh.addr ⟨hn.out,HP.out⟩ (by omega);obtain⟨y1,y2,r0,r1,hv2⟩:=hx2 i hlt
  have e12:x1=.string (bA (L.getD i default).name)/\x2=.string (bA (L.getD i default).target):=by
   have h9:=hv.out;simp only[Value.agg.injEq,Array.mk.injEq,List.cons.injEq,and_true] at h9;exact h9
  have f12:y1=.string (bA (L.getD i default).name)/\y2=.string (bA (L.getD i default).target):=by
   have h9:=hv2.out;simp only[Value.agg.injEq,Array.mk.injEq,List.cons.injEq,and_true] at h9;exact h9
  obtain⟨B1,hB1⟩:=qf (bA (L.getD i default).name);obtain⟨B2,hB2⟩:=qf (bA (L.getD i default).target);rw[<-hB1.out,<-hB2.out] at e12 f12;obtain⟨rfl,rfl⟩:=e12;obtain⟨rfl,rfl⟩:=f12;replace k0:=HX.out.cell k0;replace k1:=HX.out.cell k1;replace r0:=HX.out.cell r0;replace r1:=HX.out.cell r1;clear hv hx hv2 hx2;go_upto_region 6 with (fail);obtain⟨wq,hwq⟩:∃wq,wq=wr:=⟨_,rfl⟩
  subst hwq;have eC:=(Ext.refl wq).drew;refine ql (fun w'=>w'.cell? ⟨gt,ot+i*2,none⟩=some (.string B1)/\w'.cell? ⟨gt,ot+i*2+1,none⟩=some (.string B2)/\w'.cell? ⟨gp,op+i*2,none⟩=some (.string B1)/\w'.cell? ⟨gp,op+i*2+1,none⟩=some (.string B2)) [] (by kernel_rfl) (by exact⟨eC.cell k0,eC.cell k1,eC.cell r0,eC.cell r1⟩) (fun hHeld=>?_);refine sP 0 (h:=?_);refine sP 1 (h:=?_);refine sP 2 (h:=?_);refine sT 3 (h:=?_);refine sP 4 (h:=?_);refine sP 5 (h:=?_);refine sP 6 (h:=?_);refine sT 7 (h:=?_);refine sP 8 (h:=?_);refine qm (by kernel_rfl) ?_ _;clear hHeld;have HX2:=q_h (HX.out.trans eC);clear eC k0 k1 r0 r1;go_wp2;go_roundw
  case rel=>exact⟨i+1,by omega,by go_num,HX2⟩
  case measure=>simp[intOf];omega
end Go.Proofs.YtdeeekdbhhenpaaGreatDoor
