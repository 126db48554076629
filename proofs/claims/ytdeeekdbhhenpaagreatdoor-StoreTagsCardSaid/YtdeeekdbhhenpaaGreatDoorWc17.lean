import Derived.Test.YtdeeekdbhhenpaaGreatDoorWc16
set_option linter.all false
set_option maxHeartbeats 8000000
set_option maxRecDepth 100000
namespace Go.Proofs.YtdeeekdbhhenpaaGreatDoor
open Go.RowKit
variable {w w':World} {n g i base c b:Nat} {v:Value} {z:Int} {A:Option Addr}
theorem wL {ops:Array Oper}{o:Oper}{a:Act}{K:Act->World->Prop}{Q:Exit->Act->World->Prop}{E:Prop}
  (hg:o.guard=none) (d x:Operand) (dT sT:TypeId) (hop:o.op=Op.call { callee:=Callee.builtin Builtin.copy,args:=#[d,x],argTypes:=#[dT,sT] })
  (v u:Value) (hd:a.eval d=v) (hx:a.eval x=u){v':Value}(hr:(Builtin.copy_ #[dT,sT] o.type #[v,u]).run Tryz.prog w=.ok v' w') (hK:K (a.put o.dst v') w') :
  if Region.wanted o (yielded ops a.tmps)=true then Oper.wp Tryz.prog o a w K Q else E:=by
 have hw:Region.wanted o (yielded ops a.tmps)=true:=by simp[Region.wanted,hg]
 rw[if_pos hw];unfold Oper.wp;simp[execOp,hop,resolve,invoke,builtin,hd,hx,hr,Result.andThen]
 exact hK
theorem q0K (k t:Byt):∀u∈[sV k,sV t],u.oneCell'=true:=by
 intro u hu
 rcases List.mem_cons.1 hu with rfl|hu
 ·rfl
 ·rw[List.mem_singleton.1 hu]
  rfl
theorem TgG.ins {bx:Nat}{L:List Tg}{k t:Byt}(h:TgG base w v L) (hi:i<=L.length) (hl:L.length<=10000) (hB:w.heap[bx]?=some (.cells #[sV k,sV t] 86 (0,0))) (hne:v.ownBlock≠some bx) :
  Calls Tryz.prog 170 #[v,.int .i64 (i:Int),.slice (some ⟨bx,0,none⟩) 1 1] w (q21 base v (L.take i ++ ⟨k,t⟩ :: L.drop i) w):=by
 obtain⟨R,hR⟩:=qf (q21 base v (L.take i ++ ⟨k,t⟩ :: L.drop i) w);rw[<-hR.out];have HTG:=q_h h;have HB:=q_h hB;have HNE:=q_h hne;obtain⟨n,hn⟩:=qf L.length;have HLN:Hid ((L.take i ++ ⟨k,t⟩ :: L.drop i).length=n+1):=by rw[Hid,List.length_append,List.length_cons,List.length_take,List.length_drop];have:=hn.out;omega
 obtain⟨KB,hKB⟩:=qf (bA k);obtain⟨TB,hTB⟩:=qf (bA t);have HKV:Hid (Value.string KB=sV k):=by rw[Hid,hKB.out];rfl
 have HTV:Hid (Value.string TB=sV t):=by rw[Hid,hTB.out];rfl
 rw[<-hn.out] at hi hl;obtain⟨A,c,rfl⟩:=qI.form h;have hnc:n<=c:=by have:=h.tgs.len.2;have:=hn.out;omega
 have hcm:c<=9223372036854775807:=by
  rcases h.2.2 with ⟨h1,h2⟩|⟨g,cap,cs,hv,hb,hh,h3,h4,h5,h6⟩
  ·injection h1 with e1 e2 e3
   omega
  ·injection hv with e1 e2 e3
   unfold maxLen at h4;omega
 rw[<-hn.out]
 by_cases hin:i=n
 ·subst hin;have HEX:Hid (L.take i ++ ⟨k,t⟩ :: L.drop i=L ++ [⟨k,t⟩]):=by rw[Hid,hn.out,List.take_length,List.drop_length]
  have HGL:Hid (qI 86 2 base w (.slice A i c) i (tgX L L.length)):=by
   have h1:=h;unfold TgG at h1;rw[<-hn.out] at h1 ⊢;exact h1
  have HBK:Hid (w.heap[bx]?=some (.cells #[.string KB,.string TB] 86 (0,0))):=by rw[HKV.out,HTV.out];exact HB.out
  clear h hB hne
  by_cases hci:c=i
  ·obtain rfl:i=c:=hci.symm;clear hci;go_enter Tryz.func170,Tryz.ntmps170;go_wp2_with (at_builtin;refine q_o ?_);refine zh kF rfl _ _ 23 Tryz.underlying23 rfl (by rfl) HGL.out (by rfl) (m:=1) (c:=1) (news:=[.string KB,.string TB]) rfl (fun j u hj=>(zq HBK.out j).trans (by simpa using hj)) (by simp[Value.oneCell']) (by omega) ?_;rintro v9 w9 hG9 - ⟨g9,hb9,hg9,C9⟩;obtain⟨A9,c9,rfl⟩:=hG9.form
   have HG9:Hid (TgG base w9 (.slice A9 (i+1) c9) (L ++ [⟨k,t⟩])):=by
    refine TgG.snoc ?_;have h1:=hG9;rw[HKV.out,HTV.out] at h1;rw[<-hn.out] at h1 ⊢;exact h1
   have HF9:Hid (∃g,base<=g/\(w.heap.size<=g\/∃cs fr,w.heap[g]?=some (.cells cs 86 fr))/\Chg g (g+1) w w9):=by
    refine⟨g9,hb9,?_,C9⟩
    rcases hg9 with h1|h1
    ·right
     rcases HGL.out.2.2 with ⟨h2,-⟩|⟨g0,cap0,cur,h2,-,h3,-⟩
     ·rw[h2] at h1;cases h1
     ·rw[h2] at h1;obtain rfl:g0=g9:=by simpa[Value.ownBlock] using h1
      exact⟨_,_,h3⟩
    ·exact .inl (by omega)
   clear hG9 C9 hg9 hb9 HGL;go_wp2
   first|go_ret|skip
   rw[hR.out];refine⟨A9,c9,by rw[HLN.out];rfl,?_,HF9.out⟩;rw[HLN.out,HEX.out];exact HG9.out
  ·go_enter Tryz.func170,Tryz.ntmps170;go_wp2_with (at_builtin;refine q_o ?_);refine zh kF rfl _ _ 23 Tryz.underlying23 rfl (by rfl) HGL.out (by rfl) (m:=1) (c:=1) (news:=[.string KB,.string TB]) rfl (fun j u hj=>(zq HBK.out j).trans (by simpa using hj)) (by simp[Value.oneCell']) (by omega) ?_;rintro v9 w9 hG9 - ⟨g9,hb9,hg9,C9⟩;obtain⟨A9,c9,rfl⟩:=hG9.form
   have HG9:Hid (TgG base w9 (.slice A9 (i+1) c9) (L ++ [⟨k,t⟩])):=by
    refine TgG.snoc ?_;have h1:=hG9;rw[HKV.out,HTV.out] at h1;rw[<-hn.out] at h1 ⊢;exact h1
   have HF9:Hid (∃g,base<=g/\(w.heap.size<=g\/∃cs fr,w.heap[g]?=some (.cells cs 86 fr))/\Chg g (g+1) w w9):=by
    refine⟨g9,hb9,?_,C9⟩
    rcases hg9 with h1|h1
    ·right
     rcases HGL.out.2.2 with ⟨h2,-⟩|⟨g0,cap0,cur,h2,-,h3,-⟩
     ·rw[h2] at h1;cases h1
     ·rw[h2] at h1;obtain rfl:g0=g9:=by simpa[Value.ownBlock] using h1
      exact⟨_,_,h3⟩
    ·exact .inl (by omega)
   clear hG9 C9 hg9 hb9 HGL;go_wp2
   first|go_ret|skip
   rw[hR.out];refine⟨A9,c9,by rw[HLN.out];rfl,?_,HF9.out⟩;rw[HLN.out,HEX.out];exact HG9.out
 have hil:i<n:=by omega
 rcases h.2.2 with ⟨-,h2⟩|⟨g,cap,cur,hv,hb,hh,h3,h4,h5,h6⟩
 ·have:=hn.out;omega
 rw[<-hn.out] at hv h3 h6;obtain⟨rfl,-,rfl⟩:=Value.slice.inj hv;rw[hn.out,Yu] at h6;have HHH:=q_h hh;have HCS:Hid (cur.size=c*2):=h5;have HTK:Hid (cur.toList.take (L.length*2)=tgC L):=h6;have HBS:=q_h hb
 have hbg:bx≠g:=by
  rintro rfl;exact hne rfl
 have HMX:=q_h h4;have hJ0:((i:Int) == (n:Int))=false:=beq_eq_false_iff_ne.2 (by omega);have hJ1:decide ((i:Int)=(n:Int))=false:=q_f (by omega);obtain⟨n9,hn9⟩:=qf (n+1);obtain⟨j9,hj9⟩:=qf (i+1);have hw9:IntKind.i64.wrap ((n:Int)+1)=(n9:Int):=by rw[hn9.out,wrp (by omega) (by omega)];omega
 have hwj:IntKind.i64.wrap ((i:Int)+1)=(j9:Int):=by rw[hj9.out,wrp (by omega) (by omega)];omega
 have hnc1:¬c=i:=by omega
 have hjn:j9<=n9:=by rw[hj9.out,hn9.out];omega
 have hin9:i<=n9:=by rw[hn9.out];omega
 have HDL:Hid ((tgC (L.drop i)).length=(n-i)*2):=by rw[Hid,zD,List.length_drop,<-hn.out]
 have HSRC:Hid (∀w':World,w'.heap[g]?=some (.cells cur 86 (0,0))->∀(j:Nat) (u:Value),(tgC (L.drop i))[j]?=some u->w'.cell? ((⟨g,i*2,none⟩:Addr).add j)=some u):=fun w' hw j u hj=>by
  rw[qW,qj hw];have hjl:=(List.getElem?_eq_some_iff.1 hj).1;rw[HDL.out] at hjl;rw[<-(xM L i (by have:=hn.out;omega)).2,List.getElem?_drop,<-HTK.out,List.getElem?_take,if_pos (by have:=hn.out;omega),Array.getElem?_toList] at hj;exact hj
 clear h hB hne hb hh h5 h6 h4 hv
 by_cases hfull:c<n+1
 ·have hgt:decide ((c:Int)<(n9:Int))=true:=q_t (by have:=hn9.out;omega);have hgt2:c<n9:=by have:=hn9.out;omega
  obtain⟨k9,hk9⟩:=qf (n+1-i);have hwk:IntKind.i64.wrap ((n9:Int)-(i:Int))=(k9:Int):=by rw[hk9.out,hn9.out,wrp (by omega) (by omega)];omega
  have hik:i+k9=n9:=by rw[hk9.out,hn9.out];omega
  go_enter Tryz.func170,Tryz.ntmps170;go_wp2_with (at_builtin;refine q_o ?_);refine yZ rfl _ _ rfl (by rfl) (by rfl) HHH.out (olds:=tgC (L.take i)) (by rw[zD,List.length_take];have:=hn.out;omega) (fun j u hj=>?_) (by have:=hk9.out;omega) (by have:=hk9.out;omega) (by have:=hn9.out;omega) ?_
  ·have hjl:=(List.getElem?_eq_some_iff.1 hj).1;rw[zD,List.length_take] at hjl;rw[<-(xM L i (by have:=hn.out;omega)).1,List.getElem?_take,if_pos (by have:=hn.out;omega),<-HTK.out,List.getElem?_take,if_pos (by have:=hn.out;omega),Array.getElem?_toList] at hj;exact hj
  intro cap' row w2 hge hcm2 hb2 hs2 hrg e2;rw[hik];obtain⟨g2,hg2⟩:=qf w.heap.size;rw[<-hg2.out] at hb2 ⊢;have hge9:n9<=cap':=by omega
  have hnc2:¬cap'=i:=by have:=hn9.out;omega
  have hnc3:¬cap'=j9:=by have:=hn9.out;have:=hj9.out;omega
  have hbx2:w2.heap[bx]?=some (.cells #[sV k,sV t] 86 (0,0)):=e2.block HB.out;have hbxl:bx<g2:=by rw[hg2.out];exact qK HB.out
  have hgl:g<g2:=by rw[hg2.out];exact qK HHH.out
  obtain⟨w3,hrun3,hb3,C3,ho3⟩:=kJ kF w2 23 23 3 Tryz.underlying23 g2 (i*2) (n9-i) (cap' - i) ⟨bx,0,none⟩ 1 1 row [sV k,sV t] hb2 1 (by have h9:=hn9.out;show 1=min 1 (n9-i);omega) rfl (fun j u hj=>(zq hbx2 j).trans (by simpa using hj)) (by show i*2+2<=_;have:=hn9.out;omega) (q0K k t);have hg3:w3.heap[g]?=some (.cells cur 86 (0,0)):=(ho3 g (by omega)).trans (e2.block HHH.out);obtain⟨row3,hr3⟩:=qf (row.toList.take (i*2) ++ [sV k,sV t]++row.toList.drop (i*2 + [sV k,sV t].length));rw[<-hr3.out] at hb3
  have hl3:row3.length=cap'*2:=by
   rw[hr3.out];simp only[List.length_append,List.length_take,List.length_drop,Array.length_toList,List.length_cons,List.length_nil,hs2];have:=hn9.out;omega
  obtain⟨w4,hrun4,hb4,C4,ho4⟩:=kJ kF w3.drew 23 23 3 Tryz.underlying23 g2 (j9*2) (n9-j9) (cap' - j9) ⟨g,i*2,none⟩ (n-i) (c-i) row3.toArray (tgC (L.drop i)) hb3 (n-i) (by have h9:=hn9.out;have h8:=hj9.out;show n-i=min (n-i) (n9-j9);omega) HDL.out (HSRC.out w3.drew hg3) (by rw[HDL.out,List.size_toArray,hl3];have:=hj9.out;have:=hn9.out;omega) (X6 _)
  have HFIN:Hid (TgG base w4 (.slice (some ⟨g2,0,none⟩) n9 cap') (L.take i ++ ⟨k,t⟩ :: L.drop i)):=by
   have e0:(L.take i ++ ⟨k,t⟩ :: L.drop i).length=n9:=by rw[HLN.out,hn9.out]
   have h9:=TgG.of (base:=base) (L:=L.take i ++ ⟨k,t⟩ :: L.drop i) (cap:=cap') (by have:=HTG.out.1;have:=hg2.out;omega) hb4 (by rw[e0];exact hge9) hcm2 ?_ ?_
   ·rw[e0] at h9;exact h9
   ·simp only[List.size_toArray,List.length_append,List.length_take,List.length_drop,HDL.out,hl3];have:=hj9.out;have:=hn9.out;omega
   ·rw[e0]
    have hi3:row3.take (j9*2)=tgC (L.take i ++ [⟨k,t⟩]):=by
     have e5:row.toList.take (i*2)=tgC (L.take i):=by
      refine List.ext_getElem? fun j=>?_
      rw[List.getElem?_take]
      by_cases hj:j<i*2
      ·rw[if_pos hj,Array.getElem?_toList];have hjl:j<(tgC (L.take i)).length:=by rw[zD,List.length_take];have:=hn.out;omega
       rw[hrg j _ (List.getElem?_eq_getElem hjl),List.getElem?_eq_getElem hjl]
      ·rw[if_neg hj]
       symm
       rw[List.getElem?_eq_none_iff,zD,List.length_take];omega
     rw[hr3.out,e5,xN];refine List.take_left' ?_;rw[List.length_append,zD,List.length_take]
     show _+2=_
     have:=hn.out;have:=hj9.out;omega
    have e6:row3.toArray.toList=row3:=rfl;rw[e6,hi3,<-xN];have e7:L.take i ++ [⟨k,t⟩]++L.drop i=L.take i ++ ⟨k,t⟩ :: L.drop i:=by simp
    rw[e7];refine List.take_left' ?_;rw[zD,e0]
  have HCH:Hid (∃g',base<=g'/\(w.heap.size<=g'\/∃cs fr,w.heap[g']?=some (.cells cs 86 fr))/\Chg g' (g'+1) w w4):=by
   refine⟨g2,by have:=HTG.out.1;have:=hg2.out;omega,.inl (by have:=hg2.out;omega),?_⟩;exact ((e2.chg _ _).trans C3).trans (((Ext.refl w3).drew.chg _ _).trans C4)
  have HW3:Hid (w3.heap[g2]?=some (.cells row3.toArray 86 (0,0))):=hb3;clear hb2 hs2 hrg e2 hb3 hb4 hg3 hl3 C3 C4 ho3 ho4 hbx2 HSRC;go_wp2_with (refine jo rfl _ _ _ _ rfl _ _ (by rfl) (by rfl) hrun3 ?_);go_upto_region 11 with (fail);have eC:=(Ext.refl w3).drew;refine ql (fun w'=>True) [8] (by kernel_rfl) (by exact trivial) (fun hHeld=>?_);refine sP 0 (h:=?_);refine sP 1 (h:=?_);refine sP 2 (h:=?_);refine sP 3 (h:=?_);refine sP 4 (h:=?_);refine sP 5 (h:=?_);refine sP 6 (h:=?_);refine sP 7 (h:=?_);refine qC (i:=8) rfl (by kernel_rfl) (by kernel_rfl) (fun K hK=>?_);refine wL rfl _ _ _ _ rfl _ _ (by rfl) (by rfl) hrun4 ?_;refine hK.out _ _ ?_;clear hK K;try simp only[nr]
  refine qm (by kernel_rfl) ?_ _;clear hHeld;go_wp2
  first|go_ret|skip
  rw[hR.out];refine⟨some ⟨g2,0,none⟩,cap',by rw[HLN.out,<-hn9.out];rfl,?_,HCH.out⟩;rw[HLN.out,<-hn9.out];exact HFIN.out
 ·have hgt:decide ((c:Int)<(n9:Int))=false:=q_f (by have:=hn9.out;omega);have hgt2:¬c<n9:=by have:=hn9.out;omega
  have hnc3:¬c=j9:=by have:=hn9.out;have:=hj9.out;omega
  have hn9c:n9<=c:=by have:=hn9.out;omega
  have hov:=ZT HB.out HHH.out hbg;obtain⟨w3,hrun3,hb3,C3,ho3⟩:=kJ kF w.drew 23 23 3 Tryz.underlying23 g (j9*2) (n9-j9) (c-j9) ⟨g,i*2,none⟩ (n9-i) (c-i) cur (tgC (L.drop i)) HHH.out (n-i) (by have h9:=hn9.out;have h8:=hj9.out;show n-i=min (n9-i) (n9-j9);omega) HDL.out (HSRC.out w.drew HHH.out) (by rw[HDL.out];have:=hj9.out;have:=hn9.out;have:=HCS.out;omega) (X6 _);obtain⟨row3,hr3⟩:=qf (cur.toList.take (j9*2)++tgC (L.drop i)++cur.toList.drop (j9*2+(tgC (L.drop i)).length));rw[<-hr3.out] at hb3
  have hl3:row3.length=c*2:=by
   rw[hr3.out];simp only[List.length_append,List.length_take,List.length_drop,Array.length_toList,HDL.out,HCS.out];have:=hn9.out;have:=hj9.out;omega
  have hbx3:w3.heap[bx]?=some (.cells #[sV k,sV t] 86 (0,0)):=(ho3 bx hbg).trans HB.out;obtain⟨w4,hrun4,hb4,C4,ho4⟩:=kJ kF w3 23 23 3 Tryz.underlying23 g (i*2) (n9-i) (c-i) ⟨bx,0,none⟩ 1 1 row3.toArray [sV k,sV t] hb3 1 (by have h9:=hn9.out;show 1=min 1 (n9-i);omega) rfl (fun j u hj=>(zq hbx3 j).trans (by simpa using hj)) (by rw[List.size_toArray,hl3];show i*2+2<=_;have:=hn9.out;omega) (q0K k t)
  have HFIN:Hid (TgG base w4 (.slice (some ⟨g,0,none⟩) n9 c) (L.take i ++ ⟨k,t⟩ :: L.drop i)):=by
   have e0:(L.take i ++ ⟨k,t⟩ :: L.drop i).length=n9:=by rw[HLN.out,hn9.out]
   have h9:=TgG.of (base:=base) (L:=L.take i ++ ⟨k,t⟩ :: L.drop i) (cap:=c) HBS.out hb4 (by rw[e0];exact hn9c) HMX.out ?_ ?_
   ·rw[e0] at h9;exact h9
   ·simp only[List.size_toArray,List.length_append,List.length_take,List.length_drop,List.length_cons,List.length_nil,hl3];have:=hn9.out;omega
   ·rw[e0];have e6:row3.toArray.toList=row3:=rfl;have e8:=Vh (L:=L) (i:=i) (cur:=cur.toList) (by have:=hn.out;omega) HTK.out (by have h9:cur.toList.length=c*2:=HCS.out;have:=hn.out;have:=hn9.out;omega) k t;rw[e6,hr3.out,hj9.out,hn9.out,hn.out];exact e8
  have HCH:Hid (∃g',base<=g'/\(w.heap.size<=g'\/∃cs fr,w.heap[g']?=some (.cells cs 86 fr))/\Chg g' (g'+1) w w4):=⟨g,HBS.out,.inr ⟨_,_,HHH.out⟩,(((Ext.refl w).drew.chg _ _).trans C3).trans C4⟩
  clear hb3 hb4 hl3 C3 C4 ho3 ho4 hbx3 HSRC;go_enter Tryz.func170,Tryz.ntmps170;go_upto_region 15 with (fail);have eC:=(Ext.refl w).drew;refine ql (fun w'=>True) [8] (by kernel_rfl) (by exact trivial) (fun hHeld=>?_);refine sP 0 (h:=?_);refine sP 1 (h:=?_);refine sP 2 (h:=?_);refine sP 3 (h:=?_);refine sP 4 (h:=?_);refine sP 5 (h:=?_);refine sP 6 (h:=?_);refine sP 7 (h:=?_);refine qC (i:=8) rfl (by kernel_rfl) (by kernel_rfl) (fun K hK=>?_);refine wL rfl _ _ _ _ rfl _ _ (by rfl) (by rfl) hrun3 ?_;refine hK.out _ _ ?_;clear hK K;try simp only[nr]
  refine qm (by kernel_rfl) ?_ _;clear hHeld;clear hov;go_wp2_with (refine jo rfl _ _ _ _ rfl _ _ (by rfl) (by rfl) hrun4 ?_);go_wp2
  first|go_ret|skip
  rw[hR.out];refine⟨some ⟨g,0,none⟩,c,by rw[HLN.out,<-hn9.out];rfl,?_,HCH.out⟩;rw[HLN.out,<-hn9.out];exact HFIN.out
theorem IxB.chgTag {q:Nat}{size seq half used:Int}{T:Value}{L:List Ob}(h:IxB base b g size seq half used v T L w) (C:Chg q (q+1) w w') (ht:w.heap.size<=q\/∃cs fr,w.heap[q]?=some (.cells cs 86 fr)):IxB base b g size seq half used v T L w':=by
 rcases ht with ht|⟨cs,fr,ht⟩
 ·exact h.ext (C.ext (Ext.refl w) ht)
 ·refine⟨C.blk h.blk ?_,h.hb,h.hg,h.obs.chgT C ht (by decide) (by decide) (by decide),h.mp.chg C ?_⟩
  ·have:=neT ht h.blk (by decide);omega
  ·obtain⟨es,k,h1,-⟩:=h.mp
   have:g≠q:=by
    rintro rfl;rw[h1] at ht;cases ht
   omega
theorem IxB.tag{size seq half used:Int}{T T':Value}{L:List Ob}(h:IxB base b g size seq half used v T L w) (hb:w'.heap[b]?=some (.cells #[.int .i64 size,.int .i64 seq,.int .i64 half,.int .i64 used,v,T',.map (some g)] 99 (0,0))) (C:Chg b (b+1) w w'):IxB base b g size seq half used v T' L w' :=
 ⟨hb,h.hb,h.hg,h.obs.chg C h.blk (fun cs t fr e=>by injection e with _ e2 _;exact e2.symm),h.mp.chg C (by have:=h.gb;omega)⟩
def W9 (base b g:Nat) (size seq half used:Int) (v:Value) (L:List Ob) (T:List Tg) (w:World) (e:Ending) (w':World):Prop :=
 e=.returned (.tuple #[])/\∃A c,IxB base b g size seq half used v (.slice A T.length c) L w'/\TgG base w' (.slice A T.length c) T/\∀a,Ext a w->a.heap.size<=base->Ext a w'
theorem q1f {L:List Tg}(hi:i<L.length){k t:Byt}(hk:(L.getD i default).name=k):(tgC L).set (i*2+1) (sV t)=tgC (L.take i ++ ⟨k,t⟩ :: L.drop (i+1)):=by
 have h1:L=L.take i++L.getD i default :: L.drop (i+1):=by
  have h2:L.drop i=L[i] :: L.drop (i+1):=List.drop_eq_getElem_cons hi;have h3:L.getD i default=L[i]:=by rw[List.getD_eq_getElem?_getD,List.getElem?_eq_getElem hi];rfl
  rw[h3,<-h2,List.take_append_drop]
 have hl:(tgC (L.take i)).length=i*2:=by rw[zD,List.length_take];omega
 conv=>lhs;rw[h1]
 rw[xN,xN,vF,vF,List.set_append_right _ _ (by omega),hl,show i*2+1-i*2=1 by omega,hk]
 rfl
theorem JB (l:Byt):(bA l).size=l.length:=by unfold bA;exact List.size_toArray
def ww (s:Shf) (k t:Byt):Bool:=if t=[] then decide (KZ s.tags k=[]) else !(xY s).contains t
def yu (s:Shf) (k t:Byt):Shf×List qX×Int :=
 if qE s=false then (zeroS,[],1)
 else if Xr k=false then (zeroS,[],10)
 else if ww s k t=true then (zeroS,[],6)
 else if KZ s.tags k=t then (s,[],0)
 else match QM s (tgE ⟨k,t⟩) with
  | none=>(zeroS,[],17)
  | some (u,acts)=>({ u with tags:=yw s.tags k t },acts,0)
def q18 (r:Shf×List qX×Int) (w:World) (e:Ending) (w':World):Prop:=∃sv av,e=.returned (.tuple #[sv,av,.int .i64 r.2.2])/\q0A w' sv r.1/\zJ w' av r.2.1/\Ext w w'
theorem q1h{size seq half used:Int}{L:List Ob}{T:List Tg}{k t:Byt}(hI:IxB base b g size seq half used v (.slice A n c) L w) (hT:TgG base w (.slice A n c) T) (hs:ZC T) (hl:T.length<=1000) (ht:vP T k=true\/t≠[]) :
  Calls Tryz.prog 116 #[.pointer (some ⟨b,0,none⟩),sV k,sV t] w (W9 base b g size seq half used v L (yw T k t) w):=by
 obtain⟨R,hR⟩:=qf (W9 base b g size seq half used v L (yw T k t) w);rw[<-hR.out];have HI:=q_h hI;have HT:=q_h hT;have HS:=q_h hs;have HFT:=q_h ht;have HN:Hid (n=T.length):=hT.tgs.len.1;have HL:=q_h hl;have hbs:Hid (base<=w.heap.size):=hT.1;obtain⟨KB,hKB⟩:=qf (bA k);obtain⟨TB,hTB⟩:=qf (bA t);rw[qO k,<-hKB.out,qO t,<-hTB.out];have HKV:Hid (Value.string KB=sV k):=by rw[Hid,hKB.out];rfl
 have HTV:Hid (Value.string TB=sV t):=by rw[Hid,hTB.out];rfl
 have HC:Hid (Calls Tryz.prog 167 #[.pointer (some ⟨b,0,none⟩),.string KB] w (qH w (.tuple #[.int .i64 (xB T k),.bool (vP T k)]))):=by
  rw[HKV.out];exact XT hI.blk hT.tgs hs (by have:=HN.out;omega)
 obtain⟨cn,hcn⟩:=qf (xB T k);obtain⟨fd,hfd⟩:=qf (vP T k);have HCL:Hid (cn<=n):=by rw[Hid,hcn.out,HN.out];exact VF T k
 rw[<-hcn.out,<-hfd.out] at HC;have hwc:IntKind.i64.wrap ((cn:Int)+1)=(cn:Int)+1:=wrp (by omega) (by have:=HCL.out;have:=HN.out;omega);clear hI hT hs ht hl;go_enter Tryz.func116,Tryz.ntmps116;go_wp2_with (go_at_call 167;refine q_o ?_);refine HC.out.mono ?_;rintro e w1 ⟨rfl,e1⟩;have HI1:=q_h (HI.out.ext e1);have HT1:=q_h (HT.out.ext e1);have HX1:=q_h e1;clear e1 HC HI HT;have c5:w1.cell? ⟨b,5,none⟩=some (.slice A n c):=(qj HI1.out.blk 5).trans rfl;cases fd with
 | false =>
  have ht0:t≠[]:=HFT.out.resolve_left (by rw[<-hfd.out];simp)
  have HE:Hid (yw T k t=T.take cn ++ ⟨k,t⟩ :: T.drop cn):=by
   rw[Hid];unfold yw;rw[<-hfd.out,if_neg (by simp),<-hcn.out]
  rw[HE.out] at hR;clear ht0;go_wp2_with (go_at_call 170;refine q_o ?_);obtain⟨o1,ho1⟩:=qf (Obj.cells #[.string KB,.string TB] 86 (0,0));have hal:Ext w1 (w1.alloc (.cells #[.string KB,.string TB] 86)):=(Ext.refl w1).alloc _;refine (TgG.ins (base:=base) (bx:=w1.heap.size) (L:=T) (k:=k) (t:=t) (HT1.out.ext hal) (by have:=HCL.out;have:=HN.out;omega) (by have:=HL.out;omega) (by rw[<-HKV.out,<-HTV.out];exact heap_alloc_new w1 _) (fun h9=>by have h8:=(qI.own_lt HT1.out _ h9).2;omega)).mono ?_;rintro e w2 ⟨A2,c2,rfl,hG2,g2,hb2,hty2,C2⟩;obtain⟨n2,hn2⟩:=qf (T.take cn ++ ⟨k,t⟩ :: T.drop cn).length;rw[<-hn2.out] at hG2 ⊢;have HG2:=q_h hG2;have HI2:Hid (IxB base b g size seq half used v (.slice A n c) L w2):=(HI1.out.ext hal).chgTag C2 hty2;have HX2:Hid (∀a,Ext a w->a.heap.size<=base->Ext a w2):=fun a ha hs9=>C2.ext ((ha.trans HX1.out).trans hal) (by omega)
  clear hG2 hb2 hty2 C2 hal c5 ho1;obtain⟨wa,Ea,Ba,Ua⟩:=qL HI2.out.blk 5 (.slice A2 n2 c2);have f5:=qp HI2.out.blk 5;have c5:w2.cell? ⟨b,5,none⟩=some (.slice A n c):=(qj HI2.out.blk 5).trans rfl;have HUA:=q_h Ua;have HBA:Hid (wa.heap[b]?=some (.cells #[.int .i64 size,.int .i64 seq,.int .i64 half,.int .i64 used,v,.slice A2 n2 c2,.map (some g)] 99 (0,0))):=Ba;clear Ua Ba;go_wp2
  first|go_end0|go_ret|skip
  rw[hR.out];have Ca:=HUA.out.chg (NoU.mk HI2.out.blk (by decide));refine⟨rfl,A2,c2,by rw[<-hn2.out];exact HI2.out.tag HBA.out Ca,by rw[<-hn2.out];exact HG2.out.chg Ca HI2.out.blk (fun cs t fr e=>by injection e with _ e2 _;rw[<-e2];decide),fun a ha hs9=>Ca.ext (HX2.out a ha hs9) (by have:=HI2.out.hb;omega)⟩
 | true =>
  have hci:cn<n:=by
   have h9:=Vq hfd.out.symm;have:=hcn.out;have:=HN.out;omega
  have hci':(cn:Int)<(n:Int):=by omega
  have HNK:Hid ((T.getD cn default).name=k):=by
   have h9:=of_decide_eq_true hfd.out.symm;rw[hcn.out];exact h9.2
  by_cases h0:t=[]
  ·have ut:(TB.toList == [])=true:=by rw[hTB.out,zx,h0];rfl
   have HE:Hid (yw T k t=T.take cn++T.drop (cn+1)):=by
    rw[Hid];unfold yw;rw[<-hfd.out,if_pos rfl,if_pos h0,<-hcn.out]
   rw[HE.out] at hR;clear h0;go_wp2_with (go_at_call 169;refine q_o ?_);refine (TgG.del (base:=base) (L:=T) HT1.out (by have:=HN.out;omega) (by have:=HL.out;omega)).mono ?_;rintro e w2 ⟨A2,c2,rfl,hG2,g2,hb2,hty2,C2⟩;obtain⟨n2,hn2⟩:=qf (T.take cn++T.drop (cn+1)).length;rw[<-hn2.out] at hG2 ⊢;have HG2:=q_h hG2;have HI2:Hid (IxB base b g size seq half used v (.slice A n c) L w2):=HI1.out.chgTag C2 hty2;have HX2:Hid (∀a,Ext a w->a.heap.size<=base->Ext a w2):=fun a ha hs9=>C2.ext (ha.trans HX1.out) (by omega)
   clear hG2 hb2 hty2 C2 c5;obtain⟨wa,Ea,Ba,Ua⟩:=qL HI2.out.blk 5 (.slice A2 n2 c2);have f5:=qp HI2.out.blk 5;have c5:w2.cell? ⟨b,5,none⟩=some (.slice A n c):=(qj HI2.out.blk 5).trans rfl;have HUA:=q_h Ua;have HBA:Hid (wa.heap[b]?=some (.cells #[.int .i64 size,.int .i64 seq,.int .i64 half,.int .i64 used,v,.slice A2 n2 c2,.map (some g)] 99 (0,0))):=Ba;clear Ua Ba;go_wp2
   first|go_end0|go_ret|skip
   rw[hR.out];have Ca:=HUA.out.chg (NoU.mk HI2.out.blk (by decide));refine⟨rfl,A2,c2,by rw[<-hn2.out];exact HI2.out.tag HBA.out Ca,by rw[<-hn2.out];exact HG2.out.chg Ca HI2.out.blk (fun cs t fr e=>by injection e with _ e2 _;rw[<-e2];decide),fun a ha hs9=>Ca.ext (HX2.out a ha hs9) (by have:=HI2.out.hb;omega)⟩
  ·have ut:(TB.toList == [])=false:=by rw[hTB.out,zx];simpa using h0
   have HE:Hid (yw T k t=T.take cn ++ ⟨k,t⟩ :: T.drop (cn+1)):=by
    rw[Hid];unfold yw;rw[<-hfd.out,if_pos rfl,if_neg h0,<-hcn.out]
   rw[HE.out] at hR;clear h0
   rcases HT1.out.2.2 with ⟨-,h2⟩|⟨g0,cap,cur,hv,hb,hh,h3,h4,h5,h6⟩
   ·exfalso;have:=HN.out;omega
   obtain⟨rfl,-,rfl⟩:=Value.slice.inj hv;rw[Yu] at h6;have HHH:=q_h hh;have HTK:Hid (cur.toList.take (T.length*2)=tgC T):=h6;have HSZ:Hid (cur.size=c*2):=h5;have HNC:Hid (T.length<=c):=h3;have HMX:=q_h h4;have HBG:=q_h hb;clear hv hb hh h3 h4 h5 h6;obtain⟨wa,Ea,Ba,Ua⟩:=qL HHH.out (cn*2+1) (.string TB);have f1:=qp HHH.out (cn*2+1);obtain⟨X1,hX1⟩:∃X1,cur[cn*2+1]?=some X1:=⟨_,Array.getElem?_eq_getElem (by have:=HSZ.out;have:=HNC.out;have:=HN.out;omega)⟩
   have c1:w1.cell? ⟨g0,cn*2+1,none⟩=some X1:=(qj HHH.out _).trans hX1;have HUA:=q_h Ua;have HBA:=q_h Ba;clear Ua Ba hX1;go_wp2
   first|go_end0|go_ret|skip
   rw[hR.out];have Ca:=HUA.out.chg (NoU.mk HHH.out (by decide));have hln:(T.take cn ++ ⟨k,t⟩ :: T.drop (cn+1)).length=n:=by rw[List.length_append,List.length_cons,List.length_take,List.length_drop];have:=HN.out;omega
   refine⟨rfl,_,c,by rw[hln];exact HI1.out.chgTag Ca (.inr ⟨_,_,HHH.out⟩),?_,fun a ha hs9=>Ca.ext (ha.trans HX1.out) (by have:=HBG.out;omega)⟩;refine TgG.of HBG.out HBA.out (by rw[hln,HN.out];exact HNC.out) HMX.out (by rw[Array.size_setIfInBounds];exact HSZ.out) ?_;rw[hln,Array.toList_setIfInBounds,HTV.out,HN.out,List.take_set,HTK.out];exact q1f (by have:=HN.out;omega) HNK.out
def KW (bad:Prop) (sh:Value) (p:Nat) (P:Nat->qX) (w:World) (sv av:Value) (z:Int):Prop:=(bad/\z=17/\sv=zSh/\av=.slice none 0 0)\/(¬bad/\z=0/\sv=sh/\∃b,zG b w av (p+3) P)
theorem KW.ext {bad:Prop}{sh:Value}{p:Nat}{P:Nat->qX}{sv av:Value}(h:KW bad sh p P w sv av z) (e:Ext w w'):KW bad sh p P w' sv av z:=by
 rcases h with h|⟨h1,h2,h3,b,h4⟩
 ·exact .inl h
 ·exact .inr ⟨h1,h2,h3,b,h4.ext e⟩
theorem KW.chgT {bad:Prop}{sh:Value}{p:Nat}{P:Nat->qX}{sv av:Value}(h:KW bad sh p P w sv av z) (C:Chg g (g+1) w w'){cs:Array Value}{fr:Nat×Nat}(hb:w.heap[g]?=some (.cells cs 25 fr)):KW bad sh p P w' sv av z:=by
 rcases h with h|⟨h1,h2,h3,b,h4⟩
 ·exact .inl h
 ·exact .inr ⟨h1,h2,h3,b,h4.chgT C hb (by decide) (by decide)⟩
def q3l (bad:Prop) (sh:Value) (p:Nat) (P:Nat->qX) (w:World) (e:Ending) (w':World):Prop:=∃(y0 y1 y2 y3:Int) (A4:Option Addr) (n4 c4:Nat) (A5:Option Addr) (n5 c5:Nat) (av:Value) (z:Int),e=.returned (.tuple #[.agg #[.int .i64 y0,.int .i64 y1,.int .i64 y2,.int .i64 y3,.slice A4 n4 c4,.slice A5 n5 c5],av,.int .i64 z])/\KW bad sh p P w' (.agg #[.int .i64 y0,.int .i64 y1,.int .i64 y2,.int .i64 y3,.slice A4 n4 c4,.slice A5 n5 c5]) av z/\Ext w w'
theorem WY {b0:Nat}{size seq half used:Int}{A1 A2:Option Addr}{n1 c1 n2 c2:Nat}{P:Nat->Byt}(s0:0<=size) (s1:size<=1000000) (d0:0<=used) (d1:used<=1000000) (hn:n<=1000) (hq0:0<=seq) (hq:seq<=2147483647) (hh0:0<=half) (hh1:half<=1)
  (hP:PgL b0 w (.slice A n c) n P) (hP6:∀j,j<n->(P j).length=64) :
  Calls Tryz.prog 64 #[.agg #[.int .i64 size,.int .i64 seq,.int .i64 half,.int .i64 used,.slice A1 n1 c1,.slice A2 n2 c2],.slice A n c] w (q3l (qV size<used+n\/seq=2147483647) (shY size seq half used n (.slice A1 n1 c1) (.slice A2 n2 c2)) n (vT n (fun j=>⟨2+half*qV size+used+j,P j,false⟩) (Zr (seq+1) half (used+n))) w):=by
 by_cases hbad:qV size<used+n\/seq=2147483647
 ·refine (q00 s0 s1 d0 d1 hn ⟨hq0,hq⟩ hbad).mono ?_;rintro e w' ⟨rfl,e1⟩;exact⟨0,0,0,0,none,0,0,none,0,0,.slice none 0 0,17,rfl,.inl ⟨hbad,rfl,rfl,rfl⟩,e1⟩
 ·refine (WZ s0 s1 d0 hn hq0 (by omega) (by omega) hh0 hh1 hP hP6).mono ?_;rintro e w' ⟨v,rfl,h1,e1⟩;exact⟨size,seq+1,half,used+n,A1,n1,c1,A2,n2,c2,v,0,rfl,.inr ⟨hbad,rfl,rfl,_,h1⟩,e1⟩
theorem q2e {s:Shf}{k t:Byt}{A1 A2:Option Addr}{n1 c1 n2 c2:Nat}(hO:yJ w (.slice A1 n1 c1) s.objs) (hTg:jK w (.slice A2 n2 c2) s.tags) (hok:OkS s) (hl1:k.length<=300) (hl2:t.length<=300) :
  Calls Tryz.prog 49 #[.agg #[.int .i64 s.size,.int .i64 s.seq,.int .i64 s.half,.int .i64 s.used,.slice A1 n1 c1,.slice A2 n2 c2],sV k,sV t] w (q18 (yu s k t) w):=by
 obtain⟨R,hR⟩:=qf (q18 (yu s k t) w);rw[<-hR.out];have HO:=q_h hO;have HTG:=q_h hTg;have HOK:=q_h hok;have HLK:=q_h hl1;have HLT:=q_h hl2;have HN1:=q_h hO.len.1;have HN2:=q_h hTg.len.1
 have HCV:Hid (∀w',Ext w w'->Calls Tryz.prog 40 #[.agg #[.int .i64 s.size,.int .i64 s.seq,.int .i64 s.half,.int .i64 s.used,.slice A1 n1 c1,.slice A2 n2 c2]] w' (qH w' (.bool (qE s)))):=fun w' e =>
  Vb (HO.out.ext e) (HTG.out.ext e) HOK.out.ob HOK.out.tg (by have:=HOK.out.no;omega) HOK.out.nt
 obtain⟨size,hsize⟩:=qf s.size;obtain⟨seq,hseq⟩:=qf s.seq;obtain⟨half,hhalf⟩:=qf s.half;obtain⟨used,hused⟩:=qf s.used;obtain⟨vb,hvb⟩:=qf (qE s);obtain⟨KB,hKB⟩:=qf (bA k);obtain⟨TB,hTB⟩:=qf (bA t);rw[<-hsize.out,<-hseq.out,<-hhalf.out,<-hused.out,<-hvb.out] at HCV;rw[<-hsize.out,<-hseq.out,<-hhalf.out,<-hused.out];rw[qO k,<-hKB.out,qO t,<-hTB.out];have HKV:Hid (Value.string KB=sV k):=by rw[Hid,hKB.out];rfl
 have HTV:Hid (Value.string TB=sV t):=by rw[Hid,hTB.out];rfl
 clear hO hTg hok hl1 hl2;go_enter Tryz.func49,Tryz.ntmps49;go_upto_region 1 with (fail);refine zu ?_;intro w1 hE hsz B0 B2;obtain⟨p0,p1,p2,p3,p4,p5⟩:=qw B0;go_wp2_with (go_at_call 40;refine q_o ?_);refine (HCV.out w1 hE).mono ?_;rintro e w2 ⟨rfl,e2⟩;have HX2:=q_h (hE.trans e2);have HB2:=q_h (e2.block B0);have HR2:=q_h (e2.block B2);clear p0 p1 p2 p3 p4 p5 B0 B2 hE e2 HCV;cases vb with
 | false =>
  have HP:Hid (yu s k t=(zeroS,[],1)):=by
   rw[Hid];unfold yu;rw[if_pos hvb.out.symm]
  have HX9:=HX2;have HR9:=HR2;go_upto_region 2 with (fail);refine wp_region_lit ?_;refine wpList_plain rfl (fun K hK=>?_);go_simp;refine hK _ _ ?_;clear hK K;try simp only[nr]
  refine qh rfl 25 _ _ rfl (by rfl) (by rfl) HR9.out qJ (by rfl) (by rfl) (by rfl) ?_;intro wz Bz Uz;obtain⟨x0,x1,x2,x3,x4,x5⟩:=qw Bz;go_wp2;refine bodyPost_ret (v:=.tuple #[zSh,.slice none 0 0,.int .i64 (1)]) ?_ rfl ?_
  ·simp[results,x0,x1,x2,x3,x4,x5,go_sem,zSh]
  ·rw[hR.out];refine⟨zSh,.slice none 0 0,?_,?_,?_,(Uz.chg (NoU.mk HR9.out (by decide))).ext HX9.out (by omega)⟩
   ·rw[HP.out]
   ·rw[HP.out];first|exact zH _|exact zK _
   ·rw[HP.out];exact zi _
 | true =>
 have HV:Hid (qE s=true):=hvb.out.symm;have HOKO:=q_h (Wv HV.out);have hh:=yx HV.out;rw[<-hsize.out,<-hseq.out,<-hhalf.out,<-hused.out] at hh;have hnn:n1<=999:=by rw[HN1.out];exact HOK.out.no
 have hn2:n2<=1000:=by rw[HN2.out];exact HOK.out.nt
 have HSR:=q_h (ZJ HV.out);obtain⟨tb,htb⟩:=qf (Xr k)
 have HCI:Hid (Calls Tryz.prog 112 #[.string KB] w2 (qH w2 (.bool tb))):=by
  have h9:=Kw (bA k) (by rw[JB];have:=HLK.out;omega) w2;rw[show zU (bA k)=k from wC k,<-hKB.out,<-htb.out] at h9;exact h9
 go_wp2_with (go_at_call 112;refine q_o ?_);refine HCI.out.mono ?_;rintro e w4 ⟨rfl,e4⟩;have HX4:=q_h (HX2.out.trans e4);have HB4:=q_h (e4.block HB2.out);have HR4:=q_h (e4.block HR2.out);clear e4 HCI HX2 HB2 HR2;cases tb with
 | false =>
  have HP:Hid (yu s k t=(zeroS,[],10)):=by
   rw[Hid];unfold yu;rw[HV.out,if_neg (by simp),if_pos htb.out.symm]
  have HX9:=HX4;have HR9:=HR4;go_upto_region 4 with (fail);refine wp_region_lit ?_;refine wpList_plain rfl (fun K hK=>?_);go_simp;refine hK _ _ ?_;clear hK K;try simp only[nr]
  refine qh rfl 25 _ _ rfl (by rfl) (by rfl) HR9.out qJ (by rfl) (by rfl) (by rfl) ?_;intro wz Bz Uz;obtain⟨x0,x1,x2,x3,x4,x5⟩:=qw Bz;go_wp2;refine bodyPost_ret (v:=.tuple #[zSh,.slice none 0 0,.int .i64 (10)]) ?_ rfl ?_
  ·simp[results,x0,x1,x2,x3,x4,x5,go_sem,zSh]
  ·rw[hR.out];refine⟨zSh,.slice none 0 0,?_,?_,?_,(Uz.chg (NoU.mk HR9.out (by decide))).ext HX9.out (by omega)⟩
   ·rw[HP.out]
   ·rw[HP.out];first|exact zH _|exact zK _
   ·rw[HP.out];exact zi _
 | true =>
 have HTB:Hid (Xr k=true):=htb.out.symm;obtain⟨bad1,hbad1⟩:=qf (ww s k t);have HTL:Hid (KZ s.tags k=Yj s.tags k):=q2g HSR.out k;obtain⟨RB,hRB⟩:=qf (bA (Yj s.tags k))
 have HCT:Hid (∀w',Ext w w'->Calls Tryz.prog 46 #[.slice A2 n2 c2,.string KB] w' (qH w' (.string RB))):=fun w' e=>by
  rw[HKV.out,hRB.out,<-qO];exact Y4 (HTG.out.ext e) (by omega)
 have q4:w4.cell? ⟨w.heap.size,4,none⟩=some (.slice A1 n1 c1):=qj HB4.out 4;have q5:w4.cell? ⟨w.heap.size,5,none⟩=some (.slice A2 n2 c2):=qj HB4.out 5;go_upto_region 5 with (fail)
 go_cut [40] (fun bv wx=>bv=.bool bad1/\Ext w4 wx)
 case first =>
  by_cases h0:t=[]
  ·have ut:(TB.toList == [])=true:=by rw[hTB.out,zx,h0];rfl
   have ur:(RB.toList == [])=bad1:=by
    rw[hRB.out,zx,hbad1.out];unfold ww;rw[if_pos h0,HTL.out]
    by_cases h9:Yj s.tags k=[]
    ·rw[h9];rfl
    ·rw[q_f h9];simpa using h9
   clear h0;go_wp2_with (go_at_call 46;refine q_o ?_);refine (HCT.out w4 HX4.out).mono ?_;rintro e wa ⟨rfl,ea⟩;clear q4 q5;go_wp2
   go_meet
   exact⟨rfl,ea⟩
  ·have ut:(TB.toList == [])=false:=by rw[hTB.out,zx];simpa using h0
   obtain⟨qc,hqc⟩:=qf ((nmL s.objs).contains t)
   have HBQ:Hid (bad1=!qc):=by
    rw[Hid,hbad1.out,hqc.out];unfold ww;rw[if_neg h0]
    rfl
   clear h0;have HCNS:Hid (Calls Tryz.prog 43 #[.slice A1 n1 c1] w4 (q25 w4 (nmL s.objs))):=V9 (HO.out.ext HX4.out) (by have:=HN1.out;omega) HOKO.out;go_wp2_with (go_at_call 43;refine q_o ?_);refine HCNS.out.mono ?_;rintro e w5 ⟨v5,rfl,hG5,e5⟩
   have HCC:Hid (Calls Tryz.prog 47 #[v5,.string TB] w5 (qH w5 (.bool qc))):=by
    rw[HTV.out,hqc.out];exact zT hG5.strs (by unfold nmL;rw[List.length_map];have:=HN1.out;omega)
   clear q4 q5 hG5;go_wp2_with (go_at_call 47;refine q_o ?_);refine HCC.out.mono ?_;rintro e w6 ⟨rfl,e6⟩;have e56:=e5.trans e6;clear e5 e6 HCC HCNS;cases qc with
   | true =>
    go_wp2
    go_meet
    exact⟨by rw[HBQ.out];rfl,e56⟩
   | false =>
    go_wp2
    go_meet
    exact⟨by rw[HBQ.out];rfl,e56⟩
 obtain⟨rfl,hcut⟩:=hcut;have HX5:=q_h (HX4.out.trans hcut);have HB5:=q_h (hcut.block HB4.out);have HR5:=q_h (hcut.block HR4.out);obtain⟨w5,hw5⟩:∃w5,w5=wc:=⟨_,rfl⟩
 subst hw5;clear hcut HX4 HB4 HR4 q4 q5;cases bad1 with
 | true =>
  have HP:Hid (yu s k t=(zeroS,[],6)):=by
   rw[Hid];unfold yu;rw[HV.out,if_neg (by simp),HTB.out,if_neg (by simp),if_pos hbad1.out.symm]
  have HX9:=HX5;have HR9:=HR5;go_upto_region 6 with (fail);refine wp_region_lit ?_;refine wpList_plain rfl (fun K hK=>?_);go_simp;refine hK _ _ ?_;clear hK K;try simp only[nr]
  refine qh rfl 25 _ _ rfl (by rfl) (by rfl) HR9.out qJ (by rfl) (by rfl) (by rfl) ?_;intro wz Bz Uz;obtain⟨x0,x1,x2,x3,x4,x5⟩:=qw Bz;go_wp2;refine bodyPost_ret (v:=.tuple #[zSh,.slice none 0 0,.int .i64 (6)]) ?_ rfl ?_
  ·simp[results,x0,x1,x2,x3,x4,x5,go_sem,zSh]
  ·rw[hR.out];refine⟨zSh,.slice none 0 0,?_,?_,?_,(Uz.chg (NoU.mk HR9.out (by decide))).ext HX9.out (by omega)⟩
   ·rw[HP.out]
   ·rw[HP.out];first|exact zH _|exact zK _
   ·rw[HP.out];exact zi _
 | false =>
 have HBD:Hid (ww s k t=false):=hbad1.out.symm;obtain⟨eq,heq⟩:=qf (decide (Yj s.tags k=t));have ueq:(RB.toList == TB.toList)=eq:=by rw[hRB.out,hTB.out,KU,heq.out]
 have q5:w5.cell? ⟨w.heap.size,5,none⟩=some (.slice A2 n2 c2):=qj HB5.out 5;go_wp2_with (go_at_call 46;refine q_o ?_);refine (HCT.out w5 HX5.out).mono ?_;rintro e w7 ⟨rfl,e7⟩;have HX7:=q_h (HX5.out.trans e7);have HB7:=q_h (e7.block HB5.out);have HR7:=q_h (e7.block HR5.out);clear e7 q5 HX5 HB5 HR5;cases eq with
 | true =>
  have HP:Hid (yu s k t=(s,[],0)):=by
   rw[Hid];unfold yu;rw[HV.out,if_neg (by simp),HTB.out,if_neg (by simp),HBD.out,if_neg (by simp),if_pos (by rw[HTL.out];exact of_decide_eq_true heq.out.symm)]
  go_upto_region 8 with (fail);obtain⟨k0,k1,k2,k3,k4,k5⟩:=qw HB7.out;refine wp_region_lit ?_;refine wpList_plain rfl (fun K hK=>?_);go_simp;refine hK _ _ ?_;clear hK K;try simp only[nr]
  refine qh rfl 25 _ _ rfl (by rfl) (by rfl) HR7.out qJ (by rfl) (by rfl) (by rfl) ?_;intro wz Bz Uz;obtain⟨x0,x1,x2,x3,x4,x5⟩:=qw Bz;go_wp2;refine bodyPost_ret (v:=.tuple #[.agg #[.int .i64 size,.int .i64 seq,.int .i64 half,.int .i64 used,.slice A1 n1 c1,.slice A2 n2 c2],.slice none 0 0,.int .i64 0]) ?_ rfl ?_
  ·simp[results,x0,x1,x2,x3,x4,x5,go_sem]
  ·rw[hR.out];have HXz:=(Uz.chg (NoU.mk HR7.out (by decide))).ext HX7.out (by omega);refine⟨_,.slice none 0 0,by rw[HP.out],?_,?_,HXz⟩
   ·rw[HP.out];exact⟨_,_,by rw[<-hsize.out,<-hseq.out,<-hhalf.out,<-hused.out],HO.out.ext HXz,HTG.out.ext HXz⟩
   ·rw[HP.out];exact zi _
 | false =>
 have HNE:Hid (¬KZ s.tags k=t):=by rw[Hid,HTL.out];exact of_decide_eq_false heq.out.symm
 have HPY:Hid (yu s k t=match QM s (tgE ⟨k,t⟩) with|none=>((zeroS,[],17):Shf×List qX×Int)|some (u,acts)=>({ u with tags:=yw s.tags k t },acts,0)):=by
  rw[Hid];unfold yu;rw[HV.out,if_neg (by simp),HTB.out,if_neg (by simp),HBD.out,if_neg (by simp),if_neg HNE.out];try rfl
 have HFT:Hid (vP s.tags k=true\/t≠[]):=by
  by_cases h0:t=[]
  ·left
   have h1:=HBD.out;unfold ww at h1;rw[if_pos h0] at h1;have h2:=of_decide_eq_false h1;unfold KZ at h2
   by_cases h3:vP s.tags k=true
   ·exact h3
   ·rw[if_neg h3] at h2;exact absurd rfl h2
  ·exact .inr h0
 have HOT:Hid (okT ⟨k,t⟩):=⟨HLK.out,HLT.out⟩
 have hpb:=QC HOT.out
 have HPL:Hid (∀j,j<pgN (tgE ⟨k,t⟩)->((ZF (tgE ⟨k,t⟩)).getD j []).length=64):=fun j hj=>by
  rw[Zg _ hj];exact q1p _ hj
 obtain⟨p,hp⟩:=qf (pgN (tgE ⟨k,t⟩));rw[<-hp.out] at hpb HPL;have hp9:p<=100:=hpb.1;clear hpb
 have hs9:0<=used/\used<=1000000:=by
  have:=Xw hh.1 hh.2.1;omega
 obtain⟨bad,hbad⟩:=qf (qV size<used+p\/seq=2147483647);obtain⟨sh,hsh⟩:=qf (shY size seq half used p (.slice A1 n1 c1) (.slice A2 n2 c2));obtain⟨PA,hPA⟩:=qf (vT p (fun j=>⟨2+half*qV size+used+j,(ZF (tgE ⟨k,t⟩)).getD j [],false⟩) (Zr (seq+1) half (used+p)))
 have HAD:Hid (∀b0 w' Ax cx,PgL b0 w' (.slice Ax p cx) p (fun i=>(ZF (tgE ⟨k,t⟩)).getD i [])->Calls Tryz.prog 64 #[.agg #[.int .i64 size,.int .i64 seq,.int .i64 half,.int .i64 used,.slice A1 n1 c1,.slice A2 n2 c2],.slice Ax p cx] w' (q3l bad sh p PA w')):=fun b0 w' Ax cx h9=>by
  rw[hbad.out,hsh.out,hPA.out];exact WY (by omega) (by omega) hs9.1 hs9.2 (by omega) (by omega) (by omega) (by omega) (by omega) h9 HPL.out
 have HTE:Hid (∀w',Calls Tryz.prog 113 #[.string KB,.string TB] w' (Zz w' (ZF (tgE ⟨k,t⟩)))):=fun w'=>by
  rw[HKV.out,HTV.out];exact ja (t:=⟨k,t⟩) HOT.out
 obtain⟨wq,hwq⟩:∃wq,wq=w7:=⟨_,rfl⟩
 subst hwq;obtain⟨q0,q1,q2,q3,q4,q5⟩:=qw HB7.out;go_upto_region 9 with (fail)
 go_cut [9,10,11] (fun tv av zv wx=>∃(ax:Value) (g:Nat) (y0 y1 y2 y3:Int) (A4:Option Addr) (n4 c4:Nat) (A5:Option Addr) (n5 c5:Nat) (z:Int),ax=av/\zv=.int .i64 z/\tv=.pointer (some ⟨g,0,none⟩)/\wq.heap.size<=g/\Hid (wx.heap[g]?=some (.cells #[.int .i64 y0,.int .i64 y1,.int .i64 y2,.int .i64 y3,.slice A4 n4 c4,.slice A5 n5 c5] 25 (0,0)))/\Hid (KW bad sh p PA wx (.agg #[.int .i64 y0,.int .i64 y1,.int .i64 y2,.int .i64 y3,.slice A4 n4 c4,.slice A5 n5 c5]) ax z)/\Ext wq wx)
 case first =>
  have eC:=(Ext.refl wq).drew;refine ql (fun w'=>w'.cell? ⟨w.heap.size,0,none⟩=some (.int .i64 size)/\w'.cell? ⟨w.heap.size,1,none⟩=some (.int .i64 seq)/\w'.cell? ⟨w.heap.size,2,none⟩=some (.int .i64 half)/\w'.cell? ⟨w.heap.size,3,none⟩=some (.int .i64 used)/\w'.cell? ⟨w.heap.size,4,none⟩=some (.slice A1 n1 c1)/\w'.cell? ⟨w.heap.size,5,none⟩=some (.slice A2 n2 c2)) [] (by kernel_rfl) (by exact⟨eC.cell q0,eC.cell q1,eC.cell q2,eC.cell q3,eC.cell q4,eC.cell q5⟩) (fun hHeld=>?_);refine sT 0 (h:=?_);refine sP 1 (h:=?_);refine sP 2 (h:=?_);refine xQ (i:=3) (j:=9) rfl rfl (by kernel_rfl) (fun K hK=>?_) (fun K hK=>?_)
  focus
   go_simp;refine (HTE.out _).mono ?_;rintro e w8 ⟨v8,rfl,hP8,e8⟩;rw[jk,<-hp.out] at hP8;obtain⟨Ax,cx,rfl,-⟩:=hP8.form;replace eC:=eC.trans e8;try replace BT:=e8.block BT
   clear e8;go_wp2_with fail;clear hHeld;refine hK.out _ _ (by exact⟨eC.cell q0,eC.cell q1,eC.cell q2,eC.cell q3,eC.cell q4,eC.cell q5⟩) fun hHeld=>?_
   clear hK K;try simp only[nr]
   refine xQ (i:=4) (j:=9) rfl rfl (by kernel_rfl) (fun K hK=>?_) (fun K hK=>?_)
   focus
    go_simp;refine (HAD.out _ _ _ _ hP8).mono ?_;rintro e w9 ⟨y0,y1,y2,y3,A4,n4,c4,A5,n5,c5,av,z,rfl,hRel,e9⟩;replace eC:=eC.trans e9;try replace BT:=e9.block BT
    clear e9;go_wp2_with fail;clear hHeld;refine hK.out _ _ (by exact⟨eC.cell q0,eC.cell q1,eC.cell q2,eC.cell q3,eC.cell q4,eC.cell q5⟩) fun hHeld=>?_
    clear hK K;try simp only[nr]
    refine sP 5 (h:=?_);refine sP 6 (h:=?_);refine sP 7 (h:=?_);refine sP 8 (h:=?_);refine qg (i:=9) rfl (by kernel_rfl) (fun K hK=>?_);go_simp
    first|refine qo ?_|refine qY ?_
    intro w10 e10 hsz10 BT;have hT9:=eC.size;try replace hP8:=hP8.ext e10
    try replace hRel:=hRel.ext e10
    replace eC:Ext wq w10:=by first|exact eC.trans e10|exact e10
    clear e10;clear hHeld;refine hK.out _ _ (by exact⟨eC.cell q0,eC.cell q1,eC.cell q2,eC.cell q3,eC.cell q4,eC.cell q5⟩) fun hHeld=>?_
    clear hK K;try simp only[nr]
    refine qg (i:=10) rfl (by kernel_rfl) (fun K hK=>?_);refine qF rfl 25 _ _ rfl (by rfl) (by rfl) BT qJ (by rfl) (by rfl) (by rfl) ?_;intro w11 B11 U11;have C11:=U11.chg (NoU.mk BT (by decide));replace hRel:=hRel.chgT C11 BT;replace eC:=C11.ext eC (by omega);clear U11 C11 BT;clear hHeld;refine hK.out _ _ (by exact⟨eC.cell q0,eC.cell q1,eC.cell q2,eC.cell q3,eC.cell q4,eC.cell q5⟩) fun hHeld=>?_
    clear hK K;try simp only[nr]
    refine sP 11 (h:=?_);refine sP 12 (h:=?_)
   rotate_left 1
   focus
    go_simp
    first|refine qo ?_|refine qY ?_
    intro w10 e10 hsz10 BT;have hT9:=eC.size;try replace hP8:=hP8.ext e10
    try replace hRel:=hRel.ext e10
    replace eC:Ext wq w10:=by first|exact eC.trans e10|exact e10
    clear e10;clear hHeld;refine hK.out _ _ (by exact⟨eC.cell q0,eC.cell q1,eC.cell q2,eC.cell q3,eC.cell q4,eC.cell q5⟩) fun hHeld=>?_
    clear hK K;try simp only[nr]
    refine qg (i:=4) rfl (by kernel_rfl) (fun K hK=>?_);go_simp;refine (HAD.out _ _ _ _ hP8).mono ?_;rintro e w9 ⟨y0,y1,y2,y3,A4,n4,c4,A5,n5,c5,av,z,rfl,hRel,e9⟩;replace eC:=eC.trans e9;try replace BT:=e9.block BT
    clear e9;go_wp2_with fail;clear hHeld;refine hK.out _ _ (by exact⟨eC.cell q0,eC.cell q1,eC.cell q2,eC.cell q3,eC.cell q4,eC.cell q5⟩) fun hHeld=>?_
    clear hK K;try simp only[nr]
    refine sP 5 (h:=?_);refine sP 6 (h:=?_);refine sP 7 (h:=?_);refine sP 8 (h:=?_);refine qg (i:=10) rfl (by kernel_rfl) (fun K hK=>?_);refine qF rfl 25 _ _ rfl (by rfl) (by rfl) BT qJ (by rfl) (by rfl) (by rfl) ?_;intro w11 B11 U11;have C11:=U11.chg (NoU.mk BT (by decide));replace hRel:=hRel.chgT C11 BT;replace eC:=C11.ext eC (by omega);clear U11 C11 BT;clear hHeld;refine hK.out _ _ (by exact⟨eC.cell q0,eC.cell q1,eC.cell q2,eC.cell q3,eC.cell q4,eC.cell q5⟩) fun hHeld=>?_
    clear hK K;try simp only[nr]
    refine sP 11 (h:=?_);refine sP 12 (h:=?_)
   rotate_left 1
  rotate_left 2
  focus
   go_simp
   first|refine qo ?_|refine qY ?_
   intro w10 e10 hsz10 BT;have hT9:=eC.size;try replace hP8:=hP8.ext e10
   try replace hRel:=hRel.ext e10
   replace eC:Ext wq w10:=by first|exact eC.trans e10|exact e10
   clear e10;clear hHeld;refine hK.out _ _ (by exact⟨eC.cell q0,eC.cell q1,eC.cell q2,eC.cell q3,eC.cell q4,eC.cell q5⟩) fun hHeld=>?_
   clear hK K;try simp only[nr]
   refine qg (i:=3) rfl (by kernel_rfl) (fun K hK=>?_);go_simp;refine (HTE.out _).mono ?_;rintro e w8 ⟨v8,rfl,hP8,e8⟩;rw[jk,<-hp.out] at hP8;obtain⟨Ax,cx,rfl,-⟩:=hP8.form;replace eC:=eC.trans e8;try replace BT:=e8.block BT
   clear e8;go_wp2_with fail;clear hHeld;refine hK.out _ _ (by exact⟨eC.cell q0,eC.cell q1,eC.cell q2,eC.cell q3,eC.cell q4,eC.cell q5⟩) fun hHeld=>?_
   clear hK K;try simp only[nr]
   refine qg (i:=4) rfl (by kernel_rfl) (fun K hK=>?_);go_simp;refine (HAD.out _ _ _ _ hP8).mono ?_;rintro e w9 ⟨y0,y1,y2,y3,A4,n4,c4,A5,n5,c5,av,z,rfl,hRel,e9⟩;replace eC:=eC.trans e9;try replace BT:=e9.block BT
   clear e9;go_wp2_with fail;clear hHeld;refine hK.out _ _ (by exact⟨eC.cell q0,eC.cell q1,eC.cell q2,eC.cell q3,eC.cell q4,eC.cell q5⟩) fun hHeld=>?_
   clear hK K;try simp only[nr]
   refine sP 5 (h:=?_);refine sP 6 (h:=?_);refine sP 7 (h:=?_);refine sP 8 (h:=?_);refine qg (i:=10) rfl (by kernel_rfl) (fun K hK=>?_);refine qF rfl 25 _ _ rfl (by rfl) (by rfl) BT qJ (by rfl) (by rfl) (by rfl) ?_;intro w11 B11 U11;have C11:=U11.chg (NoU.mk BT (by decide));replace hRel:=hRel.chgT C11 BT;replace eC:=C11.ext eC (by omega);clear U11 C11 BT;clear hHeld;refine hK.out _ _ (by exact⟨eC.cell q0,eC.cell q1,eC.cell q2,eC.cell q3,eC.cell q4,eC.cell q5⟩) fun hHeld=>?_
   clear hK K;try simp only[nr]
   refine sP 11 (h:=?_);refine sP 12 (h:=?_)
  rotate_left 1
  all_goals
   refine qm (by kernel_rfl) ?_ _;clear hHeld
  all_goals
   go_wp2_with fail
   go_meet
   exact⟨_,_,y0,y1,y2,y3,A4,n4,c4,A5,n5,c5,z,rfl,rfl,rfl,by omega,B11,hRel,eC⟩
 obtain⟨ax,g,y0,y1,y2,y3,A4,n4,c4,A5,n5,c5,z,rfl,rfl,rfl,hg3,HBg,HREL,hcE⟩:=hcut;have HXc:=q_h (HX7.out.trans hcE);have HBc:=q_h (hcE.block HB7.out);have HRc:=q_h (hcE.block HR7.out);have hgw:w.heap.size+1<g:=by have:=qK HR7.out;omega
 clear q0 q1 q2 q3 q4 q5 hcE HB7 HR7 HX7 HAD hg3
 rcases HREL.out with ⟨hb,rfl,hsv,rfl⟩|⟨hb,rfl,hsv,ba,hA⟩
 ·have HP:Hid (yu s k t=(zeroS,[],17)):=by
   have h9:QM s (tgE ⟨k,t⟩)=none:=by
    unfold QM;rw[if_pos (by rw[<-hsize.out,<-hused.out,<-hseq.out,<-hp.out,<-hbad.out];exact hb)]
   rw[Hid,HPY.out,h9]
  unfold zSh at hsv;simp only[Value.agg.injEq,Array.mk.injEq,List.cons.injEq,Value.int.injEq,Value.slice.injEq,and_true,true_and] at hsv;obtain⟨e0,e1,e2,e3,⟨e4,e5,e6⟩,e7,e8,e9⟩:=hsv;subst y0 y1 y2 y3 A4 n4 c4 A5 n5 c5;clear HREL hb;obtain⟨k0,k1,k2,k3,k4,k5⟩:=qw HBg.out;go_upto_region 12 with (fail);refine wp_region_lit ?_;refine wpList_plain rfl (fun K hK=>?_);go_simp;refine hK _ _ ?_;clear hK K;try simp only[nr]
  refine wpList_plain rfl (fun K hK=>?_);go_simp;refine hK _ _ ?_;clear hK K;try simp only[nr]
  refine wpList_plain rfl (fun K hK=>?_);go_simp;refine hK _ _ ?_;clear hK K;try simp only[nr]
  refine qh rfl 25 _ _ rfl (by rfl) (by rfl) HRc.out qJ (by rfl) (by rfl) (by rfl) ?_;intro wz Bz Uz;obtain⟨x0,x1,x2,x3,x4,x5⟩:=qw Bz;go_wp2;refine bodyPost_ret (v:=.tuple #[zSh,.slice none 0 0,.int .i64 17]) ?_ rfl ?_
  ·simp[results,x0,x1,x2,x3,x4,x5,go_sem,zSh]
  ·rw[hR.out];refine⟨zSh,.slice none 0 0,by rw[HP.out],?_,?_,(Uz.chg (NoU.mk HRc.out (by decide))).ext HXc.out (by omega)⟩
   ·rw[HP.out];exact zH _
   ·rw[HP.out];exact zi _
 have HAC:Hid (∃b,zG b wc ax (p+3) PA):=⟨ba,hA⟩
 rw[hsh.out] at hsv;unfold shY at hsv;simp only[Value.agg.injEq,Array.mk.injEq,List.cons.injEq,Value.int.injEq,Value.slice.injEq,and_true,true_and] at hsv;obtain⟨e0,e1,e2,e3,⟨e4,e5,e6⟩,e7,e8,e9⟩:=hsv;subst y0 y1 y2 y3 A4 n4 c4 A5 n5 c5
 have HP:Hid (yu s k t=(⟨size,seq+1,half,used+p,s.objs,yw s.tags k t⟩,((List.range p).map (fun j:Nat=>(⟨2+half*qV size+used+j,pgE (tgE ⟨k,t⟩) j,false⟩:qX)))++Zr (seq+1) half (used+p),0)):=by
  have h9:QM s (tgE ⟨k,t⟩)=some (⟨size,seq+1,half,used+p,s.objs,s.tags⟩,((List.range p).map (fun j:Nat=>(⟨2+half*qV size+used+j,pgE (tgE ⟨k,t⟩) j,false⟩:qX)))++Zr (seq+1) half (used+p)):=by
   unfold QM;rw[if_neg (by rw[<-hsize.out,<-hused.out,<-hseq.out,<-hp.out,<-hbad.out];exact hb)];rw[hsize.out,hseq.out,hhalf.out,hused.out,hp.out]
   rfl
  rw[Hid,HPY.out,h9]
 clear HREL hA hb;obtain⟨wq2,hwq2⟩:∃wq2,wq2=wc:=⟨_,rfl⟩
 subst hwq2
 have HCG:Hid (Calls Tryz.prog 118 #[.slice A2 n2 c2,.string KB,.string TB] wq2 (VY wq2 (yw s.tags k t))):=by
  rw[HKV.out,HTV.out];exact Y5 (HTG.out.ext HXc.out) HSR.out hn2 HFT.out
 have q5:wq2.cell? ⟨w.heap.size,5,none⟩=some (.slice A2 n2 c2):=qj HBc.out 5;go_wp2_with (go_at_call 118;refine q_o ?_);refine HCG.out.mono ?_;rintro e w8 ⟨A7,c7,rfl,hG7,e8⟩;obtain⟨n7,hn7⟩:=qf (yw s.tags k t).length;rw[<-hn7.out] at hG7 ⊢;have HG7:=q_h hG7;have HX8:=q_h (HXc.out.trans e8);have HR8:=q_h (e8.block HRc.out);have HBg8:=q_h (e8.block HBg.out)
 have HAC8:Hid (∃b,zG b w8 ax (p+3) PA):=by
  obtain⟨b,h9⟩:=HAC.out;exact⟨b,h9.ext e8⟩
 clear hG7 e8 q5 HXc HRc HBg HBc HAC HCG;obtain⟨wa,Ea,Ba,Ua⟩:=qL HBg8.out 5 (.slice A7 n7 c7);have f5:=qp HBg8.out 5;have c5:=qj HBg8.out 5;go_upto_region 12 with (fail);clear f5 c5 Ea;have Ca:=Ua.chg (NoU.mk HBg8.out (by decide));have HXa:=q_h (Ca.ext HX8.out (by omega));have HRa:=q_h ((Ua.block _ (by omega)).trans HR8.out);have HGa:=q_h (HG7.out.chg Ca HBg8.out (fun cs t fr e=>by injection e with _ e2 _;rw[<-e2];decide))
 have HACa:Hid (∃b,zG b wa ax (p+3) PA):=by
  obtain⟨b,h9⟩:=HAC8.out;exact⟨b,h9.chgT Ca HBg8.out (by decide) (by decide)⟩
 have HBa:Hid (wa.heap[g]?=some (.cells #[.int .i64 size,.int .i64 (seq+1),.int .i64 half,.int .i64 (used+p),.slice A1 n1 c1,.slice A7 n7 c7] 25 (0,0))):=Ba;clear Ba Ua Ca HX8 HR8 HG7 HAC8 HBg8;obtain⟨k0,k1,k2,k3,k4,k5⟩:=qw HBa.out;refine wp_region_lit ?_;refine wpList_plain rfl (fun K hK=>?_);go_simp;refine hK _ _ ?_;clear hK K;try simp only[nr]
 refine wpList_plain rfl (fun K hK=>?_);go_simp;refine hK _ _ ?_;clear hK K;try simp only[nr]
 refine wpList_plain rfl (fun K hK=>?_);go_simp;refine hK _ _ ?_;clear hK K;try simp only[nr]
 refine qh rfl 25 _ _ rfl (by rfl) (by rfl) HRa.out qJ (by rfl) (by rfl) (by rfl) ?_;intro wz Bz Uz;obtain⟨x0,x1,x2,x3,x4,x5⟩:=qw Bz;go_wp2;refine bodyPost_ret (v:=.tuple #[.agg #[.int .i64 size,.int .i64 (seq+1),.int .i64 half,.int .i64 (used+p),.slice A1 n1 c1,.slice A7 n7 c7],ax,.int .i64 0]) ?_ rfl ?_
 ·simp[results,x0,x1,x2,x3,x4,x5,go_sem]
 ·rw[hR.out];have Cz:=Uz.chg (NoU.mk HRa.out (by decide));have HXz:=Cz.ext HXa.out (by omega);refine⟨_,ax,by rw[HP.out],?_,?_,HXz⟩
  ·rw[HP.out];refine⟨_,_,rfl,HO.out.ext HXz,?_⟩;have h9:=HGa.out.chg Cz HRa.out (fun cs t fr e=>by injection e with _ e2 _;rw[<-e2];decide);rw[hn7.out] at h9 ⊢;exact h9.tgs
  ·rw[HP.out];obtain⟨b,hA⟩:=HACa.out;have h9:=hA.chgT Cz HRa.out (by decide) (by decide);rw[hPA.out] at h9;refine zG.list (base:=b) (M:=Zr (seq+1) half (used+p)) (h9.congr (fun j hj=>?_));unfold vT
   by_cases h:j<p
   ·rw[if_pos h,if_pos h]
    show (⟨_,(ZF (tgE ⟨k,t⟩)).getD j [],false⟩:qX)=⟨_,pgE (tgE ⟨k,t⟩) j,false⟩
    rw[Zg _ (by rw[<-hp.out];exact h)]
   ·rw[if_neg h,if_neg h]
def VZ (r:Shf×List qX×Int) (w:World) (e:Ending) (w':World):Prop:=∃sv av,e=.returned (.tuple #[sv,av,.int .i64 r.2.2])/\q2Z w' sv r.1/\zJ w' av r.2.1/\Ext w w'
theorem q1i (HT:x9){s:Shf}{k t:Byt}{A1 A2:Option Addr}{n1 c1 n2 c2:Nat}(hO:yJ w (.slice A1 n1 c1) s.objs) (hTg:jK w (.slice A2 n2 c2) s.tags) (hok:OkS s) (hl1:k.length<=300) (hl2:t.length<=300) (he:kS w.heap.size w) :
  Calls Tryz.prog 48 #[.agg #[.int .i64 s.size,.int .i64 s.seq,.int .i64 s.half,.int .i64 s.used,.slice A1 n1 c1,.slice A2 n2 c2],sV k,sV t] w (VZ (yu s k t) w):=by
 obtain⟨R,hR⟩:=qf (VZ (yu s k t) w);rw[<-hR.out];have HI:=q_h (q2L HT hO hTg hok he);have HOK:=q_h hok;have HLK:=q_h hl1;have HLT:=q_h hl2;have HEV:=q_h he;obtain⟨size,hsize⟩:=qf s.size;obtain⟨seq,hseq⟩:=qf s.seq;obtain⟨half,hhalf⟩:=qf s.half;obtain⟨used,hused⟩:=qf s.used;rw[<-hsize.out,<-hseq.out,<-hhalf.out,<-hused.out] at HI ⊢;obtain⟨KB,hKB⟩:=qf (bA k);obtain⟨TB,hTB⟩:=qf (bA t);rw[qO k,<-hKB.out,qO t,<-hTB.out];have HKV:Hid (Value.string KB=sV k):=by rw[Hid,hKB.out];rfl
 have HTV:Hid (Value.string TB=sV t):=by rw[Hid,hTB.out];rfl
 clear hO hTg hok hl1 hl2 he;go_enter Tryz.func48,Tryz.ntmps48;go_upto_region 1 with (fail);refine zu ?_;intro w1 hE hsz B0 B2;obtain⟨p0,p1,p2,p3,p4,p5⟩:=qw B0;have HRB:=q_h B2;have HX1:=q_h hE;have hw1:w.heap.size+2<=w1.heap.size:=hsz;go_wp2_with (go_at_call 58;refine q_o ?_);refine (HI.out w1 HX1.out).mono ?_;rintro e w2 (⟨hvb,a,b,c,d,Ax,nx,cx,Bx,mx,dx,gx,rfl,e2⟩|⟨hvb,Av,cv,At,ct,gm,rfl,hO2,hM2,hg2,hT2,e2⟩)
 ·have HX2:=q_h (hE.trans e2);have HR2:=q_h (e2.block B2)
  have HP:Hid (yu s k t=(zeroS,[],1)):=by
   rw[Hid];unfold yu;rw[if_pos hvb]
  clear p0 p1 p2 p3 p4 p5 B0 B2 hE e2;go_upto_region 2 with (fail);refine qo ?_;intro w3 e3 hsz3 B8;clear B8;have HX9:=q_h (HX2.out.trans e3);have HR9:=q_h (e3.block HR2.out);clear e3;go_upto_region 3 with (fail);refine wp_region_lit ?_;refine wpList_plain rfl (fun K hK=>?_);go_simp;refine hK _ _ ?_;clear hK K;try simp only[nr]
  refine wpList_plain rfl (fun K hK=>?_);go_simp;refine hK _ _ ?_;clear hK K;try simp only[nr]
  refine qh rfl 25 _ _ rfl (by rfl) (by rfl) HR9.out qJ (by rfl) (by rfl) (by rfl) ?_;intro wz Bz Uz;obtain⟨x0,x1,x2,x3,x4,x5⟩:=qw Bz;go_wp2;refine bodyPost_ret (v:=.tuple #[zSh,.slice none 0 0,.int .i64 (1)]) ?_ rfl ?_
  ·simp[results,x0,x1,x2,x3,x4,x5,go_sem,zSh]
  ·rw[hR.out];refine⟨zSh,.slice none 0 0,?_,?_,?_,(Uz.chg (NoU.mk HR9.out (by decide))).ext HX9.out (by omega)⟩
   ·rw[HP.out]
   ·rw[HP.out];first|exact zH _|exact zK _
   ·rw[HP.out];exact zi _
 have HO2:=q_h hO2;have HM2:=q_h hM2;have HT2:=q_h hT2;have HGS:Hid (w1.heap.size<=gm):=hg2;have HY2:=q_h e2;obtain⟨n,hn⟩:=qf s.objs.length;obtain⟨nt,hnt⟩:=qf s.tags.length;have hh:=yx hvb;have HV:=q_h hvb;have HSR:=q_h (ZJ hvb);have hnn:n<=999:=by rw[hn.out];exact HOK.out.no
 have hnt9:nt<=1000:=by rw[hnt.out];exact HOK.out.nt
 rw[<-hsize.out,<-hseq.out,<-hhalf.out,<-hused.out] at hh;rw[<-hsize.out,<-hseq.out,<-hhalf.out,<-hused.out,<-hn.out,<-hnt.out];rw[<-hn.out] at HO2;rw[<-hnt.out] at HT2;clear p0 p1 p2 p3 p4 p5 B0 B2 hE e2 hO2 hM2 hT2 hg2 hvb;go_upto_region 2 with (fail);refine qo ?_;intro w3 e3 hsz3 B8;obtain⟨b,hb⟩:=qf w2.heap.size;rw[<-hb.out] at B8 ⊢;have HS2:=q_h HY2.out.size;have HI3:Hid (IxB w1.heap.size b gm size seq half used (.slice Av n cv) (.slice At nt ct) s.objs w3):=⟨B8,by have:=HM2.out.lt;have:=hb.out;have:=HGS.out;omega,HGS.out,HO2.out.ext e3,HM2.out.ext e3⟩
 have HT3:=q_h (HT2.out.ext e3);have HY3:=q_h (HY2.out.trans e3);have hbw:w1.heap.size<=b/\w1.heap.size<=gm:=⟨HI3.out.hb,HGS.out⟩
 clear e3 B8 HO2 HM2 HT2 HY2;obtain⟨tb,htb⟩:=qf (Xr k)
 have HCI:Hid (Calls Tryz.prog 115 #[.string KB] w3 (qH w3 (.bool tb))):=by
  have h9:=wF (bA k) (by rw[JB];have:=HLK.out;omega) w3;rw[show zU (bA k)=k from wC k,<-hKB.out,<-htb.out] at h9;exact h9
 go_wp2_with (go_at_call 115;refine q_o ?_);refine HCI.out.mono ?_;rintro e w4 ⟨rfl,e4⟩;have HI4:=q_h (HI3.out.ext e4);have HT4:=q_h (HT3.out.ext e4);have HY4:=q_h (HY3.out.trans e4);clear e4 HCI HI3 HT3 HY3;cases tb with
 | false =>
  have HP:Hid (yu s k t=(zeroS,[],10)):=by
   rw[Hid];unfold yu;rw[HV.out,if_neg (by simp),if_pos htb.out.symm]
  have HX9:=q_h (HX1.out.trans HY4.out);have HR9:=q_h (HY4.out.block HRB.out);go_upto_region 5 with (fail);refine wp_region_lit ?_;refine wpList_plain rfl (fun K hK=>?_);go_simp;refine hK _ _ ?_;clear hK K;try simp only[nr]
  refine qh rfl 25 _ _ rfl (by rfl) (by rfl) HR9.out qJ (by rfl) (by rfl) (by rfl) ?_;intro wz Bz Uz;obtain⟨x0,x1,x2,x3,x4,x5⟩:=qw Bz;go_wp2;refine bodyPost_ret (v:=.tuple #[zSh,.slice none 0 0,.int .i64 (10)]) ?_ rfl ?_
  ·simp[results,x0,x1,x2,x3,x4,x5,go_sem,zSh]
  ·rw[hR.out];refine⟨zSh,.slice none 0 0,?_,?_,?_,(Uz.chg (NoU.mk HR9.out (by decide))).ext HX9.out (by omega)⟩
   ·rw[HP.out]
   ·rw[HP.out];first|exact zH _|exact zK _
   ·rw[HP.out];exact zi _
 | true =>
 have HTBQ:Hid (Xr k=true):=htb.out.symm;obtain⟨RB,hRB⟩:=qf (bA (KZ s.tags k))
 have HCT:Hid (Calls Tryz.prog 109 #[.pointer (some ⟨b,0,none⟩),.string KB] w4 (qH w4 (.string RB))):=by
  rw[HKV.out,hRB.out,<-qO];exact JH HI4.out.blk (by have h9:=HT4.out.tgs;exact h9) HSR.out (by omega)
 go_wp2_with (go_at_call 109;refine q_o ?_);refine HCT.out.mono ?_;rintro e w5 ⟨rfl,e5⟩;have HI5:=q_h (HI4.out.ext e5);have HT5:=q_h (HT4.out.ext e5);have HY5:=q_h (HY4.out.trans e5);clear e5 HCT HI4 HT4 HY4;obtain⟨z1,hlk,-⟩:=xR HI5.out.mp t;rw[<-HTV.out] at hlk;obtain⟨q1,hq1⟩:=qf ((s.objs.map qM).contains t);rw[<-hq1.out] at hlk;have c6:w5.cell? ⟨b,6,none⟩=some (.map (some gm)):=(qj HI5.out.blk 6).trans rfl;obtain⟨bad1,hbad1⟩:=qf (ww s k t);go_upto_region 8 with (fail);clear hlk c6
 go_cut [51] (fun bv wx=>bv=.bool bad1/\Ext w5 wx)
 case first =>
  by_cases h0:t=[]
  ·have ut:(TB.toList == [])=true:=by rw[hTB.out,zx,h0];rfl
   have ur:(RB.toList == [])=bad1:=by
    rw[hRB.out,zx,hbad1.out];unfold ww;rw[if_pos h0]
    by_cases h9:KZ s.tags k=[]
    ·rw[h9];rfl
    ·rw[q_f h9];simpa using h9
   clear h0;go_wp2
   go_meet
   exact⟨rfl,Ext.refl _⟩
  ·have ut:(TB.toList == [])=false:=by rw[hTB.out,zx];simpa using h0
   have HBQ:Hid (bad1=!q1):=by
    rw[Hid,hbad1.out,hq1.out];unfold ww;rw[if_neg h0]
    rfl
   clear h0;cases q1 with
   | true =>
    go_wp2
    go_meet
    exact⟨by rw[HBQ.out];rfl,Ext.refl _⟩
   | false =>
    go_wp2
    go_meet
    exact⟨by rw[HBQ.out];rfl,Ext.refl _⟩
 obtain⟨rfl,hcut⟩:=hcut;have HI6:=q_h (HI5.out.ext hcut);have HT6:=q_h (HT5.out.ext hcut);have HY6:=q_h (HY5.out.trans hcut);clear hcut HI5 HT5 HY5;obtain⟨w6,hw6⟩:∃w6,w6=wc:=⟨_,rfl⟩
 subst hw6;cases bad1 with
 | true =>
  have HP:Hid (yu s k t=(zeroS,[],6)):=by
   rw[Hid];unfold yu;rw[HV.out,if_neg (by simp),HTBQ.out,if_neg (by simp),if_pos hbad1.out.symm]
  have HX9:=q_h (HX1.out.trans HY6.out);have HR9:=q_h (HY6.out.block HRB.out);go_upto_region 9 with (fail);refine wp_region_lit ?_;refine wpList_plain rfl (fun K hK=>?_);go_simp;refine hK _ _ ?_;clear hK K;try simp only[nr]
  refine qh rfl 25 _ _ rfl (by rfl) (by rfl) HR9.out qJ (by rfl) (by rfl) (by rfl) ?_;intro wz Bz Uz;obtain⟨x0,x1,x2,x3,x4,x5⟩:=qw Bz;go_wp2;refine bodyPost_ret (v:=.tuple #[zSh,.slice none 0 0,.int .i64 (6)]) ?_ rfl ?_
  ·simp[results,x0,x1,x2,x3,x4,x5,go_sem,zSh]
  ·rw[hR.out];refine⟨zSh,.slice none 0 0,?_,?_,?_,(Uz.chg (NoU.mk HR9.out (by decide))).ext HX9.out (by omega)⟩
   ·rw[HP.out]
   ·rw[HP.out];first|exact zH _|exact zK _
   ·rw[HP.out];exact zi _
 | false =>
 have HBD:Hid (ww s k t=false):=hbad1.out.symm;obtain⟨eq,heq⟩:=qf (decide (KZ s.tags k=t));have ueq:(RB.toList == TB.toList)=eq:=by rw[hRB.out,hTB.out,KU,heq.out]
 have HR6:=q_h (HY6.out.block HRB.out);cases eq with
 | true =>
  have HP:Hid (yu s k t=(s,[],0)):=by
   rw[Hid];unfold yu;rw[HV.out,if_neg (by simp),HTBQ.out,if_neg (by simp),HBD.out,if_neg (by simp),if_pos (of_decide_eq_true heq.out.symm)]
  go_upto_region 11 with (fail);obtain⟨k0,k1,k2,k3,k4,k5,k6⟩:=qP HI6.out.blk;refine wp_region_lit ?_;refine wpList_plain rfl (fun K hK=>?_);go_simp;refine hK _ _ ?_;clear hK K;try simp only[nr]
  refine wpList_plain rfl (fun K hK=>?_);go_simp;refine hK _ _ ?_;clear hK K;try simp only[nr]
  refine qh rfl 25 _ _ rfl (by rfl) (by rfl) HR6.out qJ (by rfl) (by rfl) (by rfl) ?_;intro wz Bz Uz;obtain⟨x0,x1,x2,x3,x4,x5⟩:=qw Bz;go_wp2;refine bodyPost_ret (v:=.tuple #[.agg #[.int .i64 size,.int .i64 seq,.int .i64 half,.int .i64 used,.slice Av n cv,.slice At nt ct],.slice none 0 0,.int .i64 0]) ?_ rfl ?_
  ·simp[results,x0,x1,x2,x3,x4,x5,go_sem]
  ·rw[hR.out];have Cz:=Uz.chg (NoU.mk HR6.out (by decide));refine⟨_,.slice none 0 0,by rw[HP.out],?_,?_,Cz.ext (HX1.out.trans HY6.out) (by omega)⟩
   ·rw[HP.out];refine⟨_,_,by rw[<-hsize.out,<-hseq.out,<-hhalf.out,<-hused.out],?_,?_⟩
    ·exact⟨_,HI6.out.obs.chgT Cz HR6.out (by decide) (by decide) (by decide)⟩
    ·have h9:=HT6.out;rw[hnt.out] at h9 ⊢;exact⟨_,qI.chgT h9 Cz HR6.out (by decide)⟩
   ·rw[HP.out];exact zi _
 | false =>
 have HNE:Hid (¬KZ s.tags k=t):=of_decide_eq_false heq.out.symm
 have HPY:Hid (yu s k t=match QM s (tgE ⟨k,t⟩) with|none=>((zeroS,[],17):Shf×List qX×Int)|some (u,acts)=>({ u with tags:=yw s.tags k t },acts,0)):=by
  rw[Hid];unfold yu;rw[HV.out,if_neg (by simp),HTBQ.out,if_neg (by simp),HBD.out,if_neg (by simp),if_neg HNE.out];try rfl
 have HFT:Hid (vP s.tags k=true\/t≠[]):=by
  by_cases h0:t=[]
  ·left
   have h1:=HBD.out;unfold ww at h1;rw[if_pos h0] at h1;have h2:=of_decide_eq_false h1;unfold KZ at h2
   by_cases h3:vP s.tags k=true
   ·exact h3
   ·rw[if_neg h3] at h2;exact absurd rfl h2
  ·exact .inr h0
 have HOT:Hid (okT ⟨k,t⟩):=⟨HLK.out,HLT.out⟩
 have HE5:=q_h (QC HOT.out)
 have HCS:Hid (Calls Tryz.prog 116 #[.pointer (some ⟨b,0,none⟩),.string KB,.string TB] w6 (W9 w1.heap.size b gm size seq half used (.slice Av n cv) s.objs (yw s.tags k t) w6)):=by
  rw[HKV.out,HTV.out];exact q1h HI6.out HT6.out HSR.out (by have:=hnt.out;omega) HFT.out
 go_wp2_with (go_at_call 116;refine q_o ?_);refine HCS.out.mono ?_;rintro e w7 ⟨rfl,A7,c7,hI7,hG7,hx7⟩;obtain⟨n7,hn7⟩:=qf (yw s.tags k t).length;rw[<-hn7.out] at hI7 hG7;have HI7:=q_h hI7;have HT7:Hid (TgG w1.heap.size w7 (.slice A7 n7 c7) (yw s.tags k t)):=hG7;have HY7:Hid (Ext w1 w7):=hx7 w1 HY6.out (q_r);clear hI7 hG7 hx7 HCS HI6 HT6 HY6 HR6
 have HCE:Hid (Calls Tryz.prog 117 #[.agg #[.string KB,.string TB]] w7 (q1a w7 (tgE ⟨k,t⟩))):=by
  rw[HKV.out,HTV.out];exact yB HT (t:=⟨k,t⟩) HOT.out (HEV.out.ext (HX1.out.trans HY7.out)).tab
 go_wp2_with (go_at_call 117;refine q_o ?_);refine HCE.out.mono ?_;rintro e w8 ⟨v8,rfl,hG8,e8⟩;have HG8:=q_h hG8.by
 have HI8:=q_h (HI7.out.ext e8);have HT8:=q_h (HT7.out.ext e8);have HY8:=q_h (HY7.out.trans e8);clear hG8 e8 HCE HI7 HT7 HY7;have HEN:Hid (kS w1.heap.size w8):=(HEV.out.ext (HX1.out.trans HY8.out)).low HX1.out.size
 have hs9:0<=used/\used<=1000000:=by
  have:=Xw hh.1 hh.2.1;omega
 go_wp2_with (go_at_call 61;refine q_o ?_);refine (yN HI8.out HG8.out (by have:=HE5.out.2;omega) HEN.out (by omega) (by omega) hs9.1 hs9.2 (by omega) (by omega) (by omega) (by omega)).mono ?_;rintro e w9 (⟨hf,rfl,e9⟩|⟨hf1,hf2,u9,rfl,hA9,hI9,hF9⟩)
 ·have HP:Hid (yu s k t=(zeroS,[],17)):=by
   have h9:QM s (tgE ⟨k,t⟩)=none:=by
    unfold QM;rw[if_pos (by rw[<-hsize.out,<-hused.out,<-hseq.out];exact hf)]
   rw[Hid,HPY.out,h9]
  have HX9:=q_h (HX1.out.trans (HY8.out.trans e9));have HR9:=q_h ((HY8.out.trans e9).block HRB.out);clear e9;go_upto_region 15 with (fail);refine wp_region_lit ?_;refine wpList_plain rfl (fun K hK=>?_);go_simp;refine hK _ _ ?_;clear hK K;try simp only[nr]
  refine qh rfl 25 _ _ rfl (by rfl) (by rfl) HR9.out qJ (by rfl) (by rfl) (by rfl) ?_;intro wz Bz Uz;obtain⟨x0,x1,x2,x3,x4,x5⟩:=qw Bz;go_wp2;refine bodyPost_ret (v:=.tuple #[zSh,.slice none 0 0,.int .i64 (17)]) ?_ rfl ?_
  ·simp[results,x0,x1,x2,x3,x4,x5,go_sem,zSh]
  ·rw[hR.out];refine⟨zSh,.slice none 0 0,?_,?_,?_,(Uz.chg (NoU.mk HR9.out (by decide))).ext HX9.out (by omega)⟩
   ·rw[HP.out]
   ·rw[HP.out];first|exact zH _|exact zK _
   ·rw[HP.out];exact zi _
 have HY9:Hid (Ext w1 w9):=hF9.toExt HY8.out (by omega) (by omega) (fun k hk=>(HI8.out.obs.own_lt k hk).1);have HR9:=q_h (HY9.out.block HRB.out);have HT9:Hid (TgG w1.heap.size w9 (.slice A7 n7 c7) (yw s.tags k t)):=TgG.frm HT8.out HI8.out hF9;obtain⟨B9,d9,rfl,-⟩:=hA9.form;obtain⟨p,hp⟩:=qf (pgN (tgE ⟨k,t⟩));rw[<-hp.out] at hA9 hI9 hf1 ⊢;have HA9:=q_h hA9;have HI9:=q_h hI9;clear hA9 hI9 hF9 HI8 HT8 HY8
 have HP:Hid (yu s k t=(⟨size,seq+1,half,used+p,s.objs,yw s.tags k t⟩,((List.range p).map (fun j:Nat=>(⟨2+half*qV size+used+j,pgE (tgE ⟨k,t⟩) j,false⟩:qX)))++Zr (seq+1) half (used+p),0)):=by
  have h9:QM s (tgE ⟨k,t⟩)=some (⟨size,seq+1,half,used+p,s.objs,s.tags⟩,((List.range p).map (fun j:Nat=>(⟨2+half*qV size+used+j,pgE (tgE ⟨k,t⟩) j,false⟩:qX)))++Zr (seq+1) half (used+p)):=by
   unfold QM;rw[if_neg (by rw[<-hsize.out,<-hused.out,<-hseq.out,<-hp.out];omega)];rw[hsize.out,hseq.out,hhalf.out,hused.out,hp.out]
   rfl
  rw[Hid,HPY.out,h9]
 go_upto_region 16 with (fail);obtain⟨k0,k1,k2,k3,k4,k5,k6⟩:=qP HI9.out.blk;refine wp_region_lit ?_;refine wpList_plain rfl (fun K hK=>?_);go_simp;refine hK _ _ ?_;clear hK K;try simp only[nr]
 refine wpList_plain rfl (fun K hK=>?_);go_simp;refine hK _ _ ?_;clear hK K;try simp only[nr]
 refine wpList_plain rfl (fun K hK=>?_);go_simp;refine hK _ _ ?_;clear hK K;try simp only[nr]
 refine qh rfl 25 _ _ rfl (by rfl) (by rfl) HR9.out qJ (by rfl) (by rfl) (by rfl) ?_;intro wz Bz Uz;obtain⟨x0,x1,x2,x3,x4,x5⟩:=qw Bz;go_wp2;refine bodyPost_ret (v:=.tuple #[.agg #[.int .i64 size,.int .i64 (seq+1),.int .i64 half,.int .i64 (used+p),.slice Av n cv,.slice A7 n7 c7],.slice B9 (p+3) d9,.int .i64 0]) ?_ rfl ?_
 ·simp[results,x0,x1,x2,x3,x4,x5,go_sem]
 ·rw[hR.out];have Cz:=Uz.chg (NoU.mk HR9.out (by decide));refine⟨_,.slice B9 (p+3) d9,by rw[HP.out],?_,?_,Cz.ext (HX1.out.trans HY9.out) (by omega)⟩
  ·rw[HP.out];refine⟨_,_,rfl,⟨_,HI9.out.obs.chgT Cz HR9.out (by decide) (by decide) (by decide)⟩,?_⟩;have h9:=HT9.out;rw[hn7.out] at h9 ⊢;exact⟨_,qI.chgT h9 Cz HR9.out (by decide)⟩
  ·rw[HP.out];exact zG.list (M:=Zr (seq+1) half (used+p)) (HA9.out.chgT Cz HR9.out (by decide) (by decide))
end Go.Proofs.YtdeeekdbhhenpaaGreatDoor
