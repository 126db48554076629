import Derived.Test.YtdeeekdbhhenpaaGreatDoorWc14
import Derived.Maps.Range
import Derived.Shelf.Sort.Plain
import Derived.Sort.OwnSorted
import Derived.Sort.KeysCollected
import Derived.Shelf.Slices.In.SortNone
set_option linter.all false
set_option maxHeartbeats 8000000
set_option maxRecDepth 100000
namespace Go.Proofs.YtdeeekdbhhenpaaGreatDoor
variable {w w':World} {n k g i m base c b j d:Nat} {v:Value} {z:Int} {A:Option Addr}
section
open Go.RowKit
theorem JJ {W0:World}{z:Shf}{o:Ob}(ht:kG W0) (ha:jy (xY z) o=true) (hn:z.objs.length<=999):q3q W0 z (obE o) { z with objs:=z.objs ++ [o] }:=by
 intro w gb gm av A n c hX hI hby hlen;have hoc:okO o:=Qi ha;have hfit:=(hoc.fits 0 (by omega) (by omega)).1;obtain⟨hf1,hf2,hf3,-⟩:=hfit;obtain⟨R,hR⟩:=qf (fun (e:Ending) (w':World)=>e=.returned (.bool true)/\IxT W0.heap.size gb gm av { z with objs:=z.objs ++ [o] } w'/\w'.heap[av]?=w.heap[av]?/\Ext W0 w');rw[<-hR.out];have HDE:Hid (Calls Tryz.prog 184 #[.slice A n c] w (q2d (.lst [.int 0,ZE o,.txt o.data]) w)):=VL hby hf1 hf2 (ht.ext hX) hf3;have HX:=q_h hX;have HI:=q_h hI;have HT:=q_h ht;have HA:=q_h ha;have HOC:=q_h hoc;have HN9:=q_h hn;clear hX hI hby hlen ht ha hoc hf1 hf2 hf3 hn;go_enter Tryz.func145,Tryz.ntmps145;go_wp2_with (go_at_call 184;refine q_o ?_);refine HDE.out.mono ?_;rintro e w1 ⟨v1,rfl,hv1,e1⟩;obtain⟨g,off,k,b0,A0,n0,c0,A1,k1,q,k2,rfl,hk3,hc0,hc1,hc2,hI0,hL1,hT2⟩:=hv1.obj;obtain⟨A1',k1',hv',hlk,hLK⟩:=hL1.txts;injection hv' with hv'
 injection hv' with hv'
 simp only[List.cons.injEq,and_true,true_and,Value.slice.injEq] at hv';obtain⟨rfl,rfl⟩:=hv';have HX1:=q_h (HX.out.trans e1);have HE1:=q_h e1;have HC0:=q_h hc0;have HC1:=q_h hc1;have HC2:=q_h hc2;have HI0:=q_h hI0;have HLK:=q_h hLK;have HT2:=q_h hT2;obtain⟨nl,hnl⟩:=qf o.links.length;obtain⟨nd,hnd⟩:=qf o.data.length;rw[<-hnl.out] at HC1 HLK hlk;rw[<-hnd.out] at HC2 HT2;clear hv1 hc0 hc1 hc2 hI0 hL1 hLK hT2 HDE e1;go_upto_region 2 with (fail);refine qo ?_;intro w2 e2 hsz2 B2;obtain⟨gt,hgt⟩:=qf w1.heap.size;rw[<-hgt.out] at B2 ⊢;have HB2:=q_h B2;have HE2:=q_h (HE1.out.trans e2);obtain⟨x0,x1,x2,x3,x4⟩:=qA B2;obtain⟨a0,a1,a2,a3,a4⟩:=HC0.out;replace a0:=e2.cell a0;replace a1:=e2.cell a1;replace a2:=e2.cell a2;obtain⟨m0,m1,m2,m3,m4⟩:=HC2.out;replace m0:=e2.cell m0;have HE12:=q_h e2;clear e2 B2;have y1:(3:Int)<=(k:Int):=by omega
 have HSM:Hid (∀w',Ext w1 w'->Calls Tryz.prog 185 #[.agg #[.bool b0,.slice A0 n0 c0]] w' (qH w' (.tuple #[.int .i64 0,.bool true]))):=fun w' e=>q1E (HI0.out.ext e) (by decide)
 go_wp2_with (go_at_call 185;refine q_o ?_);refine (HSM.out _ HE12.out).mono ?_;rintro e w3 ⟨rfl,e3⟩;have HE3:=q_h (HE2.out.trans e3);have HE13:=q_h (HE12.out.trans e3);have HB3:=q_h (e3.block HB2.out);clear e3 x0 x1 x2 x3 x4 a0 a1 a2 a3 a4 m0 m1 m2 m3 m4 HE2 HE12 HB2;obtain⟨x0,x1,x2,x3,x4⟩:=qA HB3.out;obtain⟨l0,l1,l2,l3,l4⟩:=HC1.out;replace l0:=HE13.out.cell l0;replace l1:=HE13.out.cell l1;replace l2:=HE13.out.cell l2;replace l3:=HE13.out.cell l3;replace l4:=HE13.out.cell l4;obtain⟨m0,m1,m2,m3,m4⟩:=HC2.out;replace m0:=HE13.out.cell m0;replace m1:=HE13.out.cell m1;replace m2:=HE13.out.cell m2;replace m3:=HE13.out.cell m3;replace m4:=HE13.out.cell m4;go_upto_region 5 with (fail)
 go_cut [9,10] (fun pv pw wx=>∃q9 q10,pv=.pointer (some ⟨q9,0,none⟩)/\pw=.pointer (some ⟨q10,0,none⟩)/\w3.heap.size<=q9/\w3.heap.size<=q10/\Hid (wx.heap[q9]?=some (.cells #[.int .i64 2,.bool false,.slice none 0 0,.slice none 0 0,.slice A1 nl k1] 117 (0,0)))/\Hid (wx.heap[q10]?=some (.cells #[.int .i64 1,.bool false,.slice none 0 0,.slice (some ⟨q,0,none⟩) nd k2,.slice none 0 0] 117 (0,0)))/\Hid (Ext w3 wx))
 case first =>
  have eC:=(Ext.refl w3).drew;refine ql (fun w'=>w'.cell? ⟨gt,4,none⟩=some (.slice (some ⟨g,off,none⟩) 3 k)/\w'.cell? ⟨g,off+5,none⟩=some (.int .i64 2)/\w'.cell? ⟨g,off+6,none⟩=some (.bool false)/\w'.cell? ⟨g,off+7,none⟩=some (.slice none 0 0)/\w'.cell? ⟨g,off+8,none⟩=some (.slice none 0 0)/\w'.cell? ⟨g,off+9,none⟩=some (.slice A1 nl k1)/\w'.cell? ⟨g,off+10,none⟩=some (.int .i64 1)/\w'.cell? ⟨g,off+11,none⟩=some (.bool false)/\w'.cell? ⟨g,off+12,none⟩=some (.slice none 0 0)/\w'.cell? ⟨g,off+13,none⟩=some (.slice (some ⟨q,0,none⟩) nd k2)/\w'.cell? ⟨g,off+14,none⟩=some (.slice none 0 0)) [] (by kernel_rfl) (by exact⟨eC.cell x4,eC.cell l0,eC.cell l1,eC.cell l2,eC.cell l3,eC.cell l4,eC.cell m0,eC.cell m1,eC.cell m2,eC.cell m3,eC.cell m4⟩) (fun hHeld=>?_);refine sP 0 (h:=?_);refine sT 1 (h:=?_);refine sP 2 (h:=?_);refine sT 3 (h:=?_);refine sP 4 (h:=?_);refine sT 5 (h:=?_);refine sP 6 (h:=?_);refine sT 7 (h:=?_);refine xQ (i:=8) (j:=9) rfl rfl (by kernel_rfl) (fun K hK=>?_) (fun K hK=>?_)
  focus
   go_simp
   first|refine qo ?_|refine qY ?_
   intro wa ea hsza BA;have hTa:=eC.size;try replace BB:=ea.block BB
   replace eC:Ext w3 wa:=by first|exact eC.trans ea|exact ea
   clear ea;clear hHeld;refine hK.out _ _ (by exact⟨eC.cell x4,eC.cell l0,eC.cell l1,eC.cell l2,eC.cell l3,eC.cell l4,eC.cell m0,eC.cell m1,eC.cell m2,eC.cell m3,eC.cell m4⟩) fun hHeld=>?_
   clear hK K;try simp only[nr]
   refine qg (i:=9) rfl (by kernel_rfl) (fun K hK=>?_);go_simp
   first|refine qo ?_|refine qY ?_
   intro wb eb hszb BB;have hTb:=eC.size;try replace BA:=eb.block BA
   replace eC:Ext w3 wb:=by first|exact eC.trans eb|exact eb
   clear eb;clear hHeld;refine hK.out _ _ (by exact⟨eC.cell x4,eC.cell l0,eC.cell l1,eC.cell l2,eC.cell l3,eC.cell l4,eC.cell m0,eC.cell m1,eC.cell m2,eC.cell m3,eC.cell m4⟩) fun hHeld=>?_
   clear hK K;try simp only[nr]
   refine qg (i:=10) rfl (by kernel_rfl) (fun K hK=>?_);refine qF rfl 117 _ _ rfl (by rfl) (by rfl) BA jc (by rfl) (by rfl) (by rfl) ?_;intro w10 B10 U10;have C10:=U10.chg (NoU.mk BA (by decide));replace eC:=C10.ext eC (by omega);replace BB:=(U10.block _ (by omega)).trans BB;clear U10 C10 BA;clear hHeld;refine hK.out _ _ (by exact⟨eC.cell x4,eC.cell l0,eC.cell l1,eC.cell l2,eC.cell l3,eC.cell l4,eC.cell m0,eC.cell m1,eC.cell m2,eC.cell m3,eC.cell m4⟩) fun hHeld=>?_
   clear hK K;try simp only[nr]
   refine qg (i:=11) rfl (by kernel_rfl) (fun K hK=>?_);refine qF rfl 117 _ _ rfl (by rfl) (by rfl) BB jc (by rfl) (by rfl) (by rfl) ?_;intro w11 B11 U11;have C11:=U11.chg (NoU.mk BB (by decide));replace eC:=C11.ext eC (by omega);replace B10:=(U11.block _ (by omega)).trans B10;clear U11 C11 BB;clear hHeld;refine hK.out _ _ (by exact⟨eC.cell x4,eC.cell l0,eC.cell l1,eC.cell l2,eC.cell l3,eC.cell l4,eC.cell m0,eC.cell m1,eC.cell m2,eC.cell m3,eC.cell m4⟩) fun hHeld=>?_
   clear hK K;try simp only[nr]
  rotate_left 1
  focus
   go_simp
   first|refine qo ?_|refine qY ?_
   intro wb eb hszb BB;have hTb:=eC.size;try replace BA:=eb.block BA
   replace eC:Ext w3 wb:=by first|exact eC.trans eb|exact eb
   clear eb;clear hHeld;refine hK.out _ _ (by exact⟨eC.cell x4,eC.cell l0,eC.cell l1,eC.cell l2,eC.cell l3,eC.cell l4,eC.cell m0,eC.cell m1,eC.cell m2,eC.cell m3,eC.cell m4⟩) fun hHeld=>?_
   clear hK K;try simp only[nr]
   refine qg (i:=8) rfl (by kernel_rfl) (fun K hK=>?_);go_simp
   first|refine qo ?_|refine qY ?_
   intro wa ea hsza BA;have hTa:=eC.size;try replace BB:=ea.block BB
   replace eC:Ext w3 wa:=by first|exact eC.trans ea|exact ea
   clear ea;clear hHeld;refine hK.out _ _ (by exact⟨eC.cell x4,eC.cell l0,eC.cell l1,eC.cell l2,eC.cell l3,eC.cell l4,eC.cell m0,eC.cell m1,eC.cell m2,eC.cell m3,eC.cell m4⟩) fun hHeld=>?_
   clear hK K;try simp only[nr]
   refine qg (i:=10) rfl (by kernel_rfl) (fun K hK=>?_);refine qF rfl 117 _ _ rfl (by rfl) (by rfl) BA jc (by rfl) (by rfl) (by rfl) ?_;intro w10 B10 U10;have C10:=U10.chg (NoU.mk BA (by decide));replace eC:=C10.ext eC (by omega);replace BB:=(U10.block _ (by omega)).trans BB;clear U10 C10 BA;clear hHeld;refine hK.out _ _ (by exact⟨eC.cell x4,eC.cell l0,eC.cell l1,eC.cell l2,eC.cell l3,eC.cell l4,eC.cell m0,eC.cell m1,eC.cell m2,eC.cell m3,eC.cell m4⟩) fun hHeld=>?_
   clear hK K;try simp only[nr]
   refine qg (i:=11) rfl (by kernel_rfl) (fun K hK=>?_);refine qF rfl 117 _ _ rfl (by rfl) (by rfl) BB jc (by rfl) (by rfl) (by rfl) ?_;intro w11 B11 U11;have C11:=U11.chg (NoU.mk BB (by decide));replace eC:=C11.ext eC (by omega);replace B10:=(U11.block _ (by omega)).trans B10;clear U11 C11 BB;clear hHeld;refine hK.out _ _ (by exact⟨eC.cell x4,eC.cell l0,eC.cell l1,eC.cell l2,eC.cell l3,eC.cell l4,eC.cell m0,eC.cell m1,eC.cell m2,eC.cell m3,eC.cell m4⟩) fun hHeld=>?_
   clear hK K;try simp only[nr]
  rotate_left 1
  all_goals
   refine qm (by kernel_rfl) ?_ _;clear hHeld
  all_goals
   go_wp2_with fail
   go_meet
   exact⟨_,_,rfl,rfl,by omega,by omega,B10,B11,eC⟩
 obtain⟨q9,q10,rfl,rfl,hq9,hq10,HB9,HB10,hcE⟩:=hcut;obtain⟨w4,hw4⟩:∃w4,w4=wc:=⟨_,rfl⟩
 subst hw4;have HX4:=q_h (HE3.out.trans hcE.out);have HE14:=q_h (HE13.out.trans hcE.out);clear hcE HE3 HE13 HB3 HC0 HC1 HC2 HSM HI0 x0 x1 x2 x3 x4 l0 l1 l2 l3 l4 m0 m1 m2 m3 m4;obtain⟨x0,x1,x2,x3,x4⟩:=qA HB9.out;obtain⟨u0,u1,u2,u3,u4⟩:=qA HB10.out;go_upto_region 11 with (fail);refine qo ?_;intro w5 e5 hsz5 B5;obtain⟨gq,hgq⟩:=qf w4.heap.size;rw[<-hgq.out] at B5 ⊢;have HQ5:=q_h B5;have HE5:=q_h e5;have HB95:=q_h (e5.block HB9.out);have HG5:Hid (GrS (gq+1) w5 (.slice none (0:Nat) 0) (o.links.take 0)):=qB.nil (by have:=hgq.out;omega);clear e5 B5 x0 x1 x2 x3 x4 u0 u1 u2 u3 u4 HB9 HB10;obtain⟨x0,x1,x2,x3,x4⟩:=qA HB95.out;go_wp2_with fail;clear x0 x1 x2 x3 x4
 go_loopw [101] (fun iv wr=>∃(i:Nat) (A:Option Addr) (c:Nat),i<=nl/\iv=.int .i64 (i:Int)/\Hid (wr.heap[gq]?=some (.cells #[.slice A i c,.slice (some ⟨q,0,none⟩) nd k2] 29 (0,0)))/\Hid (GrS (gq+1) wr (.slice A i c) (o.links.take i))/\Hid (Ext w4 wr)) (fun iv _=>nl-(intOf iv).toNat)
 case atStart=>exact⟨0,none,0,Nat.zero_le _,rfl,HQ5,HG5,HE5⟩
 case round =>
  clear HQ5 HG5 HE5 HB95;obtain⟨i,A9,c9,hi9,rfl,HQ,HG,HE⟩:=hrel;obtain⟨wq,hwq⟩:∃wq,wq=wr:=⟨_,rfl⟩
  subst hwq
  by_cases hlt:i<nl
  ·have u5:decide ((i:Int)<(nl:Int))=true:=q_t (by omega);have u6:(i:Int)<(nl:Int):=by omega
   obtain⟨gl,ol,rfl,hlx⟩:=HLK.out (by omega);obtain⟨qi,ki,l0,l1,l2,l3,l4,hbi⟩:=hlx i (by omega);have HEq:=q_h (HE14.out.trans HE.out);replace l0:=HEq.out.cell l0;replace l1:=HEq.out.cell l1;replace l2:=HEq.out.cell l2;replace l3:=HEq.out.cell l3;replace l4:=HEq.out.cell l4;have HBI:=q_h (hbi.ext HEq.out);obtain⟨li,hli⟩:=qf (o.links.getD i []).length;rw[<-hli.out] at l3 HBI;clear hlx hbi;go_upto_region 14 with (fail);refine qo ?_;intro w6 e6 hsz6 B6;have HT6:=q_h B6;have HQ6:=q_h (e6.block HQ.out);have HG6:Hid (GrS (gq+1) w6 (.slice A9 i c9) (o.links.take i)):=qB.ext HG.out e6;have HE6:=q_h (HE.out.trans e6);obtain⟨sb,hsb⟩:=qf (bA (o.links.getD i []))
   have hcv:(convert 27 9 (.slice (some ⟨qi,0,none⟩) li ki)).run Tryz.prog w6=.ok (.string sb) w6:=by
    rw[hsb.out,<-qO];exact ku (HBI.out.ext e6)
   clear e6 B6 l0 l1 l2 l3 l4 HQ HG HE HEq HBI;obtain⟨x0,x1,x2,x3,x4⟩:=qA HT6.out;obtain⟨p0,p1,-⟩:=cells2 HQ6.out;go_wp2_with (at_builtin;refine q_o ?_);refine qo ?_;intro w7 e7 hsz7 BX;have hxl:((o.links.take i).map sV).length=i:=by rw[List.length_map,List.length_take];have:=hnl.out;omega
   have hn9:i<=1000000:=by have:=hnl.out;have:=HOC.out.1;omega
   refine zB xW rfl _ _ 26 Tryz.underlying26 rfl (by rfl) (qB.ext HG6.out e7) (by rfl) (m:=1) (c:=1) rfl (jD BX) (by simp[Value.oneCell']) (by omega) (by omega) ?_;rintro g9 cap9 w9 hG9 hw9 ⟨g',hg',hw9',C9,-⟩;rw[hxl] at hG9 ⊢;have HQ9:=q_h (C9.blk (e7.block HQ6.out) (.inl (by omega)));have HE9:Hid (Ext w4 w9):=C9.ext (HE6.out.trans e7) (by have:=hgq.out;omega)
   have HG9:Hid (GrS (gq+1) w9 (.slice (some ⟨g9,0,none⟩) (i+1) cap9) (o.links.take (i+1))):=by
    have e1:(o.links.take (i+1)).map sV=(o.links.take i).map sV ++ [.string sb]:=by
     rw[take_snoc o.links [] (by have:=hnl.out;omega),List.map_append,hsb.out,<-qO]
     rfl
    rw[Hid];unfold GrS;rw[e1];exact hG9
   clear hG9 hw9 hw9' C9 BX e7 HQ6 HG6 HE6 HT6 x0 x1 x2 x3 x4 p0 p1 hcv hxl;refine wpList_plain rfl (fun K hK=>?_);go_simp;refine hK _ _ ?_;clear hK K;try simp only[nr]
   obtain⟨wa,Ea,Ba,Ua⟩:=qL HQ9.out 0 (.slice (some ⟨g9,0,none⟩) (i+1) cap9);have f4:=qp HQ9.out 0;have c4':=(qj HQ9.out 0).trans rfl;refine wpList_plain rfl (fun K hK=>?_);go_simp;try rw[Ea]
   refine hK _ _ ?_;clear hK K f4 c4' Ea;try simp only[nr]
   have HQa:Hid (wa.heap[gq]?=some (.cells #[.slice (some ⟨g9,0,none⟩) (i+1) cap9,.slice (some ⟨q,0,none⟩) nd k2] 29 (0,0))):=Ba;have Ca:=Ua.chg (NoU.mk HQ9.out (by decide));have HGa:Hid (GrS (gq+1) wa (.slice (some ⟨g9,0,none⟩) (i+1) cap9) (o.links.take (i+1))):=qI.chgT HG9.out Ca HQ9.out (by decide);have HEa:Hid (Ext w4 wa):=Ca.ext HE9.out (by have:=hgq.out;omega);clear Ba Ua Ca HQ9 HG9 HE9;go_wp2;go_roundw
   case rel=>exact⟨i+1,_,cap9,by omega,by go_num,HQa,HGa,HEa⟩
   case measure=>simp[intOf];omega
  obtain rfl:nl=i:=by omega
  have u5:decide ((nl:Int)<(nl:Int))=false:=q_f (by omega);obtain⟨p0,p1,-⟩:=cells2 HQ.out;have HXq:=q_h (HX4.out.trans HE.out)
  have HOB:Hid (ObR wq (.slice A9 nl c9) (.slice (some ⟨q,0,none⟩) nd k2) o):=by
   have h1:=HG.out.strs;rw[List.take_of_length_le (by have:=hnl.out;omega)] at h1;exact⟨h1,HT2.out.ext (HE14.out.trans HE.out)⟩
  obtain⟨⟨AO,cO,BT,dT,i1,i2,i3,i4,i5⟩,i6,i7,i8,i9,i10,i11⟩:=HI.out.ext HXq.out;have HIB:Hid (IxB W0.heap.size gb gm z.size z.seq z.half z.used (.slice AO z.objs.length cO) (.slice BT z.tags.length dT) z.objs wq):=⟨i1,i7,i8,i2,i6⟩
  have HTG:=q_h i3;have HAV:=q_h (And.intro i4 (And.intro i5 (And.intro i9 (And.intro i10 i11))));have HIH:Hid (Calls Tryz.prog 60 #[.pointer (some ⟨gb,0,none⟩),.agg #[.slice A9 nl c9,.slice (some ⟨q,0,none⟩) nd k2]] wq (XK W0.heap.size gb gm z.size z.seq z.half z.used (.slice AO z.objs.length cO) (.slice BT z.tags.length dT) z.objs o wq)):=wI X7 HIB.out HOB.out HOC.out.ok0 (HT.out.ext (HX.out.trans HXq.out)) (by have:=HN9.out;omega);clear i1 i2 i3 i4 i5 i6 i7 i8 i9 i10 i11 HG;go_wp2_with (go_at_call 60;refine q_o ?_);refine HIH.out.mono ?_;rintro e wz (⟨rfl,h2,-⟩|⟨rfl,-,v',hI',hF,hv'⟩)
  ·exfalso
   have h3:jy (xY z) o=false:=h2;rw[HA.out] at h3;cases h3
  ·have HI':=q_h hI';have HF:=q_h hF;have HV':=q_h hv';clear hI' hF hv';go_wp2
   first|go_ret|skip
   rw[hR.out];obtain⟨A7,c7,hv7,-⟩:=HI'.out.obs.form;have hsub:=hv7;subst hsub;have HOW:=HIB.out.obs.own_lt;have HTO:=HTG.out.own_lt;have hXz:Ext W0 wz:=HF.out.toExt (HX.out.trans HXq.out) HIB.out.hb HIB.out.hg (fun k hk=>(HOW k hk).1);have havq:wz.heap[av]?=wq.heap[av]?:=HF.out.block av HAV.out.2.2.2.2 (fun e=>HAV.out.2.2.1 e.symm) (fun e=>HAV.out.2.2.2.1 e.symm) (fun e=>HAV.out.1 av e rfl);have havw:wq.heap[av]?=w.heap[av]?:=Below.block HXq.out av HI.out.lt;refine⟨rfl,⟨⟨A7,c7,BT,dT,?_,?_,HTG.out.frm HIB.out HF.out,?_,HAV.out.2.1⟩,HI'.out.mp,HI'.out.hb,HI'.out.hg,HAV.out.2.2.1,HAV.out.2.2.2.1,Nat.lt_of_lt_of_le HAV.out.2.2.2.2 HF.out.size⟩,havq.trans havw,hXz⟩
   ·exact HI'.out.blk
   ·exact HI'.out.obs
   ·intro k hk e
    rcases HV'.out k hk with h9|h9
    ·exact HAV.out.1 k h9 e
    ·have:=HAV.out.2.2.2.2;omega
def o0:Ob:=⟨[],[]⟩
def pg0:List Byt:=(List.range 8).map q2N
def lp0:Byt:=pgE (obE o0) 0
def s00:Shf:=⟨8,0,0,0,[],[]⟩
def s10:Shf:=⟨8,1,0,1,[],[]⟩
def s11:Shf:=⟨8,1,0,1,[o0],[]⟩
def ac1:List qX:=[⟨2,lp0,false⟩,⟨0,[],true⟩,⟨1,jq 1 0 1,false⟩,⟨0,[],true⟩]
theorem pgn0:pgN (obE o0)=1:=by decide +kernel
theorem app0:QM s00 (obE o0)=some (s10,ac1):=by
 unfold QM;rw[if_neg (by rw[pgn0];decide)]
 show some (({ s00 with used:=0+(pgN (obE o0):Int),seq:=0+1 }:Shf),wrA (obE o0) 2++comA ({ s00 with used:=0+(pgN (obE o0):Int),seq:=0+1 }:Shf))=_
 unfold wrA;rw[pgn0]
 rfl
theorem put0:QX s00 o0=(s11,ac1,qM o0,0):=by
 unfold QX;rw[if_neg (by decide +kernel),if_neg (by decide)];rw[show xY s00=[] from rfl,List.idxOf?_nil]
 dsimp only
 rw[if_neg (by simp[o0]),app0]
 rfl
theorem perf0:xn ⟨pg0,[],3,false⟩ ac1=(⟨pg0.set 2 lp0,[⟨1,jq 1 0 1,false⟩],0,true⟩,16):=rfl
theorem q2Q:yT ⟨pg0.set 2 lp0,[⟨1,jq 1 0 1,false⟩],0,true⟩ [true]=⟨(pg0.set 2 lp0).set 1 (jq 1 0 1),[],-1,false⟩:=rfl
theorem q2R:yT ⟨pg0.set 2 lp0,[⟨1,jq 1 0 1,false⟩],0,true⟩ [false]=⟨pg0.set 2 lp0,[],-1,false⟩:=rfl
def q2V (S:List Byt) (s:Shf):Bool:=(qR S 2).1&&(decide ((qR S 2).2.size=s.size)&&(decide ((qR S 2).2.seq=s.seq)&&(decide ((qR S 2).2.half=s.half)&&decide ((qR S 2).2.used=s.used))))
theorem Zw {S:List Byt}{s:Shf}(h:q2V S s=true) (ho:s.objs=[]) (ht:s.tags=[]):qR S 2=(true,s):=by
 unfold q2V at h;simp only[Bool.and_eq_true,decide_eq_true_eq] at h;obtain⟨h1,h2,h3,h4,h5⟩:=h;have hb:=Zv S 2
 generalize qR S 2=x at *
 obtain⟨f,b⟩:=x;obtain⟨b1,b2,b3,b4,b5,b6⟩:=b;obtain⟨c1,c2,c3,c4,c5,c6⟩:=s;have h6:=hb.ob;have h7:=hb.tg;simp only at h1 h2 h3 h4 h5 h6 h7 ho ht;subst h1 h2 h3 h4 h5 h6 h7 ho ht
 rfl
theorem best0:qR pg0 2=(true,s00):=Zw (by decide +kernel) rfl rfl
theorem best1:qR (pg0.set 2 lp0) 2=(true,s00):=Zw (by decide +kernel) rfl rfl
theorem best2:qR ((pg0.set 2 lp0).set 1 (jq 1 0 1)) 2=(true,s10):=Zw (by decide +kernel) rfl rfl
theorem lenP (l:List Byt) (h:l.all (fun p=>decide (p.length=64))=true):∀i,i<l.length->(l.getD i []).length=64:=fun i hi=>by
 have:=List.all_eq_true.1 h (l.getD i []) (by rw[List.getD_eq_getElem?_getD,List.getElem?_eq_getElem hi];exact List.getElem_mem hi);simpa using this
theorem med0 (a:Int) (b:Bool):xC ⟨pg0,[],a,b⟩:=⟨(by decide +kernel:8<=(pg0).length),(by decide +kernel:(pg0).length<=4096),lenP (pg0) (by decide +kernel),rfl⟩
theorem med1 (a:Int) (b:Bool):xC ⟨pg0.set 2 lp0,[⟨1,jq 1 0 1,false⟩],a,b⟩:=⟨(by decide +kernel:8<=(pg0.set 2 lp0).length),(by decide +kernel:(pg0.set 2 lp0).length<=4096),lenP (pg0.set 2 lp0) (by decide +kernel),(by decide +kernel:([⟨1,jq 1 0 1,false⟩]:List qX).all (Qu · (pg0.set 2 lp0).length)=true)⟩
theorem med2 (a:Int) (b:Bool):xC ⟨pg0.set 2 lp0,[],a,b⟩:=⟨(by decide +kernel:8<=(pg0.set 2 lp0).length),(by decide +kernel:(pg0.set 2 lp0).length<=4096),lenP (pg0.set 2 lp0) (by decide +kernel),rfl⟩
theorem med3 (a:Int) (b:Bool):xC ⟨(pg0.set 2 lp0).set 1 (jq 1 0 1),[],a,b⟩:=⟨(by decide +kernel:8<=((pg0.set 2 lp0).set 1 (jq 1 0 1)).length),(by decide +kernel:((pg0.set 2 lp0).set 1 (jq 1 0 1)).length<=4096),lenP ((pg0.set 2 lp0).set 1 (jq 1 0 1)) (by decide +kernel),rfl⟩
theorem act0:ac1.all (Wn · 8)=true:=by decide +kernel
theorem log0:Wl pg0 s00=[]:=rfl
theorem log1:Wl (pg0.set 2 lp0) s00=[]:=rfl
theorem log2:Wl ((pg0.set 2 lp0).set 1 (jq 1 0 1)) s10=[lp0]:=rfl
theorem q2y:lp0=vk (obE o0):=by
 show ((vk (obE o0)).drop 0).take 64=_
 rw[List.drop_zero,List.take_of_length_le (by rw[jX,pgn0];exact q_r)]
theorem q0W (w0:World) (s:Shf) (h:s.objs=[]/\s.tags=[]):q3o w0 s [] s:=by
 intro W0 w gb g A u c h0 hX hb hg hP hu hB hM;exact Yx (Es:=[]) (Z:=fun _=>s) hP hu (fun i hi=>by rw[hu] at hi;exact absurd hi (Nat.not_lt_zero i)) (by rw[hu];exact Nat.zero_le _) hX hb hg h hB hM rfl (fun i hi=>absurd hi (Nat.not_lt_zero i)) (by show s.tags.length<=_;rw[h.2];exact Nat.zero_le _)
theorem q2C (w0:World) (ht:kG w0):q3o w0 s10 [lp0] s11:=by
 intro W0 w gb g A u c h0 hX hb hg hP hu hB hM;have hu1:u=1:=hu;refine Yx (Es:=[obE o0]) (Z:=fun i=>if i=0 then s10 else s11) hP hu (fun i hi=>?_) (by omega) hX hb hg ⟨rfl,rfl⟩ hB hM ?_ (fun i hi=>?_) (by show (0:Nat)<=_;omega)
 ·obtain rfl:i=0:=by omega
  show lp0.length=64
  decide +kernel
 ·show [lp0].flatten=xZ [obE o0]
  unfold xZ;rw[q2y]
  rfl
 ·obtain rfl:i=0:=by simpa using hi
  refine⟨(by decide +kernel:1<=(obE o0).length),(by decide +kernel:(obE o0).length<=5000),?_⟩;exact JJ (z:=s10) (o:=o0) (ht.ext h0) (by decide +kernel) (by show (0:Nat)<=_;omega)
theorem PgL.pgs{P:Nat->Byt}(h:PgL base w v n P) (h64:∀j,j<n->(P j).length=64):jH w v ((List.range n).map P):=by
 obtain⟨G,h1,h2⟩:=h
 have h9:=qB.l1 h1 (fun i x=>ByV w x (((List.range n).map P).getD i [])) (fun i hi=>by
  rw[List.length_map,List.length_range] at hi
  have e1:((List.range n).map P).getD i []=P i:=by
   rw[List.getD_eq_getElem?_getD,List.getElem?_map,List.getElem?_range hi]
   rfl
  rw[e1,List.getElem_map,List.getElem_range];have h8:=(h2 i hi).2.all (c:=64) (by rw[h64 i hi];exact q_r) (by unfold maxLen;omega);rw[h64 i hi] at h8
  exact h8)
 rw[List.length_map,List.length_range] at h9;unfold jH;rw[List.length_map,List.length_range];exact h9
theorem jW{B:Option Addr}{l:Int}{b:Bool}{t:TypeId}{fr:Nat×Nat}(hb:w.heap[g]?=some (.cells #[.slice A n c,.slice B m d,.int .i64 l,.bool b] t fr)){x:Value}(h:w.cell? ⟨g,j,none⟩=some x):(j=0/\x=.slice A n c)\/(j=1/\x=.slice B m d)\/(j=2/\x=.int .i64 l)\/(j=3/\x=.bool b):=by
 rw[qj hb] at h
 have hj:j<4:=by
  rcases Nat.lt_or_ge j 4 with h4|h4
  ·exact h4
  ·rw[Array.getElem?_eq_none (by simpa using h4)] at h;cases h
 have:j=0\/j=1\/j=2\/j=3:=by omega
 rcases this with rfl|rfl|rfl|rfl
 ·exact .inl ⟨rfl,(Option.some.inj h).symm⟩
 ·exact .inr (.inl ⟨rfl,(Option.some.inj h).symm⟩)
 ·exact .inr (.inr (.inl ⟨rfl,(Option.some.inj h).symm⟩))
 ·exact .inr (.inr (.inr ⟨rfl,(Option.some.inj h).symm⟩))
theorem ByV.updM{B:Option Addr}{b:Bool}{t:TypeId}{fr:Nat×Nat}{l:Byt}(h:ByV w v l) (hb:w.heap[g]?=some (.cells #[.slice A n c,.slice B m d,.int .i64 z,.bool b] t fr)) (U:Upd g w w'):ByV w' v l:=by
 obtain⟨A',c',hv,h1,h2,h3⟩:=h;refine⟨A',c',hv,h1,h2,fun hn=>?_⟩;obtain⟨q,off,e1,h4⟩:=h3 hn;refine⟨q,off,e1,fun i hi=>U.cell (h4 i hi) ?_⟩;rintro rfl
 rcases jW hb (h4 i hi) with ⟨-,h9⟩|⟨-,h9⟩|⟨-,h9⟩|⟨-,h9⟩<;>simp at h9
theorem jH.updM{B:Option Addr}{b:Bool}{t:TypeId}{fr:Nat×Nat}{l:List Byt}(h:jH w v l) (h8:3<=l.length) (hb:w.heap[g]?=some (.cells #[.slice A n c,.slice B m d,.int .i64 z,.bool b] t fr)) (U:Upd g w w'):jH w' v l:=by
 obtain⟨A',c',hv,h1,h2,h3⟩:=h;refine⟨A',c',hv,h1,h2,fun hn=>?_⟩;obtain⟨q,off,e1,h4⟩:=h3 hn
 have hq:q≠g:=by
  rintro rfl;obtain⟨x,k1,k2⟩:=h4 2 (by omega);obtain⟨A9,c9,h9,-⟩:=ByV.form k2
  rcases jW hb k1 with ⟨h8,-⟩|⟨h8,-⟩|⟨-,h8⟩|⟨-,h8⟩
  ·omega
  ·omega
  ·rw[h8] at h9;cases h9
  ·rw[h8] at h9;cases h9
 refine⟨q,off,e1,fun i hi=>?_⟩;obtain⟨x,k1,k2⟩:=h4 i hi;exact⟨x,U.cell k1 hq,ByV.updM k2 hb U⟩
theorem zJ.updM{B:Option Addr}{b:Bool}{t:TypeId}{fr:Nat×Nat}{l:List qX}(h:zJ w v l) (hb:w.heap[g]?=some (.cells #[.slice A n c,.slice B m d,.int .i64 z,.bool b] t fr)) (U:Upd g w w'):zJ w' v l:=by
 obtain⟨A',c',hv,h1,h2,h3⟩:=h;refine⟨A',c',hv,h1,h2,fun hn=>?_⟩;obtain⟨q,off,e1,h4⟩:=h3 hn
 have hq:q≠g:=by
  rintro rfl;obtain⟨x,y,zz,k1,k2,k3,k4,k5,k6⟩:=h4 0 hn;subst k4 k6;have hx:=jW hb k1;have hz:=jW hb k3
  rcases hx with ⟨-,h9⟩|⟨-,h9⟩|⟨e9,-⟩|⟨-,h9⟩
  ·simp at h9
  ·simp at h9
  ·rcases hz with ⟨e8,-⟩|⟨e8,-⟩|⟨e8,-⟩|⟨e8,-⟩<;>omega
  ·simp at h9
 refine⟨q,off,e1,fun i hi=>?_⟩;obtain⟨x,y,zz,k1,k2,k3,k4,k5,k6⟩:=h4 i hi;exact⟨x,y,zz,U.cell k1 hq,U.cell k2 hq,U.cell k3 hq,k4,ByV.updM k5 hb U,k6⟩
def Wi (a b h u:Int) (O:List Ob) (T:List Tg) (n k:Nat) (w:World) (e:Ending) (w':World):Prop:=∃A c B d,e=.returned (.tuple #[.agg #[.int .i64 a,.int .i64 b,.int .i64 h,.int .i64 u,.slice A n c,.slice B k d],.int .i64 0])/\yJ w' (.slice A n c) O/\jK w' (.slice B k d) T/\Ext w w'
theorem q0D.x {s:Shf}{e:Ending}(h:q0D s w e w'):Wi s.size s.seq s.half s.used s.objs s.tags s.objs.length s.tags.length w e w':=by
 obtain⟨A,n,c,B,k,d,rfl,rfl,h1,h2,h3,h4⟩:=h;exact⟨A,c,B,d,h1,h2,h3,h4⟩
def q29 (m:Med) (n k:Nat) (l:Int) (b:Bool) (z:Int) (w:World) (e:Ending) (w':World):Prop:=∃A c B d,e=.returned (.tuple #[.agg #[.slice A n c,.slice B k d,.int .i64 l,.bool b],.int .i64 z])/\MdF w.heap.size w' (.slice A n c) (.slice B k d) m/\Ext w w'
theorem vC.x {r:Med×Int}{e:Ending}(h:vC r w e w'):q29 r.1 r.1.pages.length r.1.acts.length r.1.left r.1.dead r.2 w e w':=h
theorem q1w {p:List Byt}{s0 s:Shf}{B:Option Addr}(hP:jH w (.slice A n c) p) (hA:zJ w (.slice B 0 d) []) (hn:n=p.length) (hm:xC ⟨p,[],-1,false⟩) (hmk:xH w) (hb:qR p 2=(true,s0)) (hq0:0<=s0.seq) (hq1:s0.seq<=2147483647) (hlg:q3o w s0 (Wl p s0) s) :
  Calls Tryz.prog 21 #[.agg #[.slice A n c,.slice B 0 d,.int .i64 (-1),.bool false]] w (Wi s.size s.seq s.half s.used s.objs s.tags s.objs.length s.tags.length w):=by
 have hap:zk p []=p:=rfl;refine Calls.mono (WG (m:=⟨p,[],-1,false⟩) (s:=s) hP hn hA rfl hm (by omega) hmk ?_ ?_ ?_ ?_) (fun e w' h=>h.x)
 ·show (qR (zk p []) 2).1=true
  rw[hap,hb]
 ·show 0<=(qR (zk p []) 2).2.seq
  rw[hap,hb];exact hq0
 ·show (qR (zk p []) 2).2.seq<=_
  rw[hap,hb];exact hq1
 ·show q3o w (qR (zk p []) 2).2 (Wl (zk p []) (qR (zk p []) 2).2) s
  rw[hap,hb];exact hlg
theorem q2w (w:World):ByV w (.slice none 0 0) []:=⟨none,0,rfl,q_r,Nat.zero_le _,fun h=>absurd h (Nat.lt_irrefl 0)⟩
theorem WV (w:World):qZ w (.slice none 0 0) []:=⟨none,0,rfl,q_r,Nat.zero_le _,fun h=>absurd h (Nat.lt_irrefl 0)⟩
theorem okS0:OkS s00:=⟨fun i hi=>absurd hi (Nat.not_lt_zero i),fun i hi=>absurd hi (Nat.not_lt_zero i),Nat.zero_le _,Nat.zero_le _⟩
theorem ok00:Ok0 o0:=⟨Nat.zero_le _,Nat.zero_le _,fun s hs=>by cases hs⟩
theorem q2J(he:kS w.heap.size w):Calls Tryz.prog 10 #[] w (qH w (.bool true)):=by
 have HEV:=q_h he;clear he;go_enter Tryz.func10,Tryz.ntmps10;have HF:Hid (Calls Tryz.prog 20 #[.int .i64 8] w (q2c w 8)):=JM (n:=8) (by omega) (by omega) HEV.out.mark;go_wp2_with (go_at_call 20;refine q_o ?_);refine HF.out.mono ?_;rintro e w1 ⟨A1,c1,rfl,hP1,e1⟩
 have HP1:Hid (jH w1 (.slice A1 8 c1) pg0):=hP1.pgs (fun j hj=>by
  unfold q2N
  split
  ·exact vG _ _ _
  ·exact zA 64)
 have HX1:=q_h e1;clear hP1 e1 HF;go_upto_region 2 with (fail);refine qo ?_;intro w2 e2 hsz2 B2;obtain⟨g1,hg1⟩:=qf w1.heap.size;rw[<-hg1.out] at B2 ⊢;have HG1:Hid (w.heap.size<=g1):=by rw[Hid,hg1.out];exact HX1.out.size
 have HM2:=q_h B2;have HP2:=q_h (HP1.out.ext e2);have HX2:=q_h (HX1.out.trans e2);clear e2 B2 HP1 HX1
 have HLD:Hid (Calls Tryz.prog 21 #[.agg #[.slice A1 8 c1,.slice none 0 0,.int .i64 (-1),.bool false]] w2 (Wi 8 0 0 0 [] [] 0 0 w2)):=by
  rw[Hid];exact q1w (s:=s00) HP2.out (zi w2) rfl (med0 _ _) (HEV.out.ext HX2.out).mark best0 (Int.le_refl _) (by decide) (by rw[log0];exact q0W w2 s00 ⟨rfl,rfl⟩)
 obtain⟨m0,m1,m2,m3⟩:=qG HM2.out;go_wp2_with (go_at_call 21;refine q_o ?_);refine HLD.out.mono ?_;rintro e w3 ⟨A3,c3,B3,d3,rfl,hO3,hT3,e3⟩;have HO3:=q_h hO3;have HT3:=q_h hT3;have HM3:=q_h (e3.block HM2.out);have HP3:=q_h (HP2.out.ext e3);have HX3:=q_h (HX2.out.trans e3);clear e3 hO3 hT3 HM2 HP2 HX2 HLD m0 m1 m2 m3;go_upto_region 3 with (fail);refine qo ?_;intro w4 e4 hsz4 B4;have HS4:=q_h B4;have HO4:=q_h (HO3.out.ext e4);have HT4:=q_h (HT3.out.ext e4);have HM4:=q_h (e4.block HM3.out);have HP4:=q_h (HP3.out.ext e4);have HX4:=q_h (HX3.out.trans e4);clear e4 B4 HO3 HT3 HM3 HP3 HX3;obtain⟨B,hB⟩:=qf (bA (qM o0))
 have HPT:Hid (Calls Tryz.prog 13 #[.agg #[.int .i64 8,.int .i64 0,.int .i64 0,.int .i64 0,.slice A3 0 c3,.slice B3 0 d3],.agg #[.slice none 0 0,.slice none 0 0]] w4 (fun e w'=>∃x y av,e=.returned (.tuple #[.agg #[.int .i64 8,.int .i64 1,.int .i64 0,.int .i64 1,x,y],av,.string B,.int .i64 0])/\yJ w' x [o0]/\jK w' y []/\zJ w' av ac1/\Ext w4 w')):=by
  have h1:=q1j X7 (s:=s00) (o:=o0) HO4.out HT4.out okS0 (show ObR w4 (.slice none 0 0) (.slice none 0 0) o0 from ⟨WV w4,q2w w4⟩) ok00 ((HEV.out.ext HX4.out).low HX4.out.size);rw[put0] at h1;refine Calls.mono h1 ?_;rintro e w' ⟨sv,av,rfl,⟨x,y,rfl,h2,h3⟩,h4,h5⟩;exact⟨x,y,av,by rw[hB.out,<-qO];rfl,h2,h3,h4,h5⟩
 have HBZ:Hid (B.size=32):=by
  rw[Hid,hB.out]
  show (qM o0).toArray.size=32
  rw[List.size_toArray];exact q1r _
 obtain⟨m0,m1,m2,m3,m4,m5⟩:=qw HS4.out;go_wp2_with (go_at_call 13;refine q_o ?_);refine HPT.out.mono ?_;rintro e w5 ⟨x5,y5,av5,rfl,hx5,hy5,hav5,e5⟩;obtain⟨X1,X2,rfl,-⟩:=hx5.form;obtain⟨Y1,Y2,rfl,-⟩:=hy5.form;obtain⟨AV,cv,rfl,-⟩:=hav5.form;have HAV5:=q_h hav5;have HM5:=q_h (e5.block HM4.out);have HP5:=q_h (HP4.out.ext e5);have HX5:=q_h (HX4.out.trans e5);clear hx5 hy5 hav5 e5 HS4 HO4 HT4 HM4 HP4 HX4 HPT m0 m1 m2 m3 m4 m5 hB;go_upto_region 4 with (fail);refine qo ?_;intro w6 e6 hsz6 B6;have HT6:=q_h B6;have HAV6:=q_h (HAV5.out.ext e6);have HM6:=q_h (e6.block HM5.out);have HP6:=q_h (HP5.out.ext e6);have HX6:=q_h (HX5.out.trans e6);clear e6 B6 HAV5 HM5 HP5 HX5;obtain⟨m0,m1,m2,m3⟩:=qG HM6.out;obtain⟨t0,t1,t2,t3,t4,t5⟩:=qw HT6.out;obtain⟨ga,oa,rfl,hax⟩:=HAV6.out.at_ rfl (by decide);obtain⟨D0,n0,f0,a0,-,-,-⟩:=hax 0 (by decide);obtain⟨D1,n1,f1,-,-,a1,-⟩:=hax 1 (by decide);obtain⟨D2,n2,f2,a2,-,-,-⟩:=hax 2 (by decide);obtain⟨D3,n3,f3,-,-,a3,-⟩:=hax 3 (by decide)
 have hcv4:4<=cv:=by
  obtain⟨A',c',h1,h2,-⟩:=HAV6.out.form;obtain⟨-,e1,e2⟩:=Value.slice.inj h1;have:ac1.length=4:=rfl;omega
 have a0':w6.cell? ⟨ga,oa,none⟩=some (.int .i64 2):=a0;have a1':w6.cell? ⟨ga,oa+5,none⟩=some (.bool true):=a1;have a2':w6.cell? ⟨ga,oa+6,none⟩=some (.int .i64 1):=a2;have a3':w6.cell? ⟨ga,oa+11,none⟩=some (.bool true):=a3;have HAV6:Hid (zJ w6 (.slice (some ⟨ga,oa,none⟩) 4 cv) ac1):=HAV6.out;have hbz:=HBZ.out;clear a0 a1 a2 a3 hax;have hl4:ac1.length=4:=rfl;rw[hl4];go_upto_region 6 with (fail);clear t0 t1 t2 t3 t4 t5 a0' a1' a2' a3' m0 m1 m2 m3 hbz hcv4 HT6;refine wp_region_lit ?_;refine wpList_plain rfl (fun K hK=>?_);go_simp;refine hK _ _ ?_;clear hK K;try simp only[nr]
 obtain⟨wa,Ea,Ba,Ua⟩:=qL HM6.out 2 (.int .i64 3);have f4:=qp HM6.out 2;have c4':=(qj HM6.out 2).trans rfl;refine wpList_plain rfl (fun K hK=>?_);go_simp;try rw[Ea]
 refine hK _ _ ?_;clear hK K f4 c4' Ea;try simp only[nr]
 have HM7:Hid (wa.heap[g1]?=some (.cells #[.slice A1 8 c1,.slice none 0 0,.int .i64 3,.bool false] 46 (0,0))):=Ba;have HP7:=q_h (HP6.out.updM (by decide) HM6.out Ua);have HAV7:=q_h (HAV6.out.updM HM6.out Ua);have HX7:Hid (Ext w wa):=(Ua.chg (NoU.mk HM6.out (by decide))).ext HX6.out HG1.out;clear Ba Ua HM6 HP6 HAV6 HX6;obtain⟨w7,hw7⟩:∃w7,w7=wa:=⟨_,rfl⟩
 subst hw7
 have HPF:Hid (Calls Tryz.prog 23 #[.agg #[.slice A1 8 c1,.slice none 0 0,.int .i64 3,.bool false],.slice (some ⟨ga,oa,none⟩) 4 cv] w7 (q29 ⟨pg0.set 2 lp0,[⟨1,jq 1 0 1,false⟩],0,true⟩ 8 1 0 true 16 w7)):=by
  have h1:=X9 (m:=⟨pg0,[],3,false⟩) (l:=ac1) HP7.out rfl (zi w7) rfl (med0 _ _) HAV7.out rfl act0 (by omega) (by decide) (by decide);rw[perf0] at h1;rw[Hid];exact Calls.mono h1 (fun e w' h=>h.x)
 obtain⟨m0,m1,m2,m3⟩:=qG HM7.out;go_upto_region 7 with (fail);refine wp_region_lit ?_;refine wpList_plain rfl (fun K hK=>?_);go_simp;refine hK _ _ ?_;clear hK K;try simp only[nr]
 refine wpList_plain rfl (fun K hK=>?_);go_simp;refine hK _ _ ?_;clear hK K;try simp only[nr]
 refine wpList_plain rfl (fun K hK0=>?_);have hK:=q_h hK0;clear hK0;go_simp;refine HPF.out.mono ?_;rintro e w8 ⟨A8,c8,B8,d8,rfl,hMD8,e8⟩;have HMD8:=q_h hMD8;have HM8:=q_h (e8.block HM7.out);have HX8:=q_h (HX7.out.trans e8);clear hMD8 e8 HM7 HX7 HP7 HAV7 HPF m0 m1 m2 m3;go_wp2_with fail;refine hK.out _ _ ?_;clear hK K;try simp only[nr]
 refine wpList_plain rfl (fun K hK=>?_);go_simp;refine hK _ _ ?_;clear hK K;try simp only[nr]
 refine wpList_plain rfl (fun K hK=>?_);go_simp;refine hK _ _ ?_;clear hK K;try simp only[nr]
 refine wpList_plain rfl (fun K hK=>?_);go_simp;refine hK _ _ ?_;clear hK K;try simp only[nr]
 refine qh rfl 46 _ _ rfl (by rfl) (by rfl) HM8.out xu (by rfl) (by rfl) (by rfl) ?_;intro w9 B9 U9;have HC9:=q_h (U9.chg (NoU.mk HM8.out (by decide)));have HM9:=q_h B9;have HP9:Hid (jH w9 (.slice A8 8 c8) (pg0.set 2 lp0)):=(HMD8.out.1.chgT HC9.out HM8.out (by decide) (by decide)).pgs;have HA9:Hid (zJ w9 (.slice B8 1 d8) [⟨1,jq 1 0 1,false⟩]):=(HMD8.out.2.chgT HC9.out HM8.out (by decide) (by decide)).acts;have HX9:Hid (Ext w w9):=HC9.out.ext HX8.out HG1.out;clear B9 U9 HC9 HMD8 HM8 HX8;obtain⟨m0,m1,m2,m3⟩:=qG HM9.out
 have HCR:Hid (∀(w':World) (g:Nat) (b:Bool),Ext w9 w'->w'.heap[g]?=some (.cells #[.bool b] 4 (0,0))->Calls Tryz.prog 24 #[.agg #[.slice A8 8 c8,.slice B8 1 d8,.int .i64 0,.bool true],.slice (some ⟨g,0,none⟩) 1 1] w' (q29 (yT ⟨pg0.set 2 lp0,[⟨1,jq 1 0 1,false⟩],0,true⟩ [b]) 8 0 (-1) false 0 w')):=fun w' g b e hb=>by
  have hbl:BlV w' (.slice (some ⟨g,0,none⟩) 1 1) [b]:=by
   refine⟨_,1,rfl,q_r,by unfold maxLen;show 1<=_;omega,fun _=>⟨g,0,rfl,fun i hi=>?_⟩⟩;obtain rfl:i=0:=by have:i<1:=hi;omega
   exact⟨.bool b,qj hb 0,rfl⟩
  have h1:=Yz (m:=⟨pg0.set 2 lp0,[⟨1,jq 1 0 1,false⟩],0,true⟩) (kp:=[b]) (HP9.out.ext e) rfl (HA9.out.ext e) rfl (med1 _ _) hbl rfl (by omega);refine Calls.mono h1 (fun e w' h=>?_);have h2:=h.x;cases b<;>exact h2
 go_wp2_with (go_at_call 24;refine q_o ?_);refine (HCR.out _ _ true ((Ext.refl w9).alloc _) (heap_alloc_new w9 _)).mono ?_;rintro e wa ⟨Aa,ca,Ba,da,rfl,hMDa,ea⟩;have HE9a:Hid (Ext w9 wa):=((Ext.refl w9).alloc _).trans ea
 have HPa0:Hid (jH wa (.slice Aa 8 ca) ((pg0.set 2 lp0).set 1 (jq 1 0 1))):=by
  have h1:=hMDa.pgs;rw[q2Q] at h1;exact h1
 have HAa:Hid (zJ wa (.slice Ba 0 da) []):=hMDa.acts;clear hMDa ea m0 m1 m2 m3;go_upto_region 11 with (fail);refine qo ?_;intro wb eb hszb B11;obtain⟨g9,hg9⟩:=qf wa.heap.size;rw[<-hg9.out] at B11 ⊢;have HM11:=q_h B11;have HE11:=q_h (HE9a.out.trans eb);have HP11:=q_h (HPa0.out.ext eb);have HA11:=q_h (HAa.out.ext eb);clear eb B11 hszb HE9a HPa0 HAa;obtain⟨m0,m1,m2,m3⟩:=qG (HE11.out.block HM9.out);go_wp2_with (go_at_call 24;refine q_o ?_);refine (HCR.out _ _ false (HE11.out.alloc _) (heap_alloc_new wb _)).mono ?_;rintro e wc ⟨Ac,cc,Bc,dc,rfl,hMDc,ec⟩;have HEbc:Hid (Ext wb wc):=((Ext.refl wb).alloc _).trans ec
 have HPc0:Hid (jH wc (.slice Ac 8 cc) (pg0.set 2 lp0)):=by
  have h1:=hMDc.pgs;rw[q2R] at h1;exact h1
 have HAc:Hid (zJ wc (.slice Bc 0 dc) []):=hMDc.acts;clear hMDc ec m0 m1 m2 m3;go_upto_region 12 with (fail);refine qo ?_;intro wd ed hszd B12;obtain⟨g10,hg10⟩:=qf wc.heap.size;rw[<-hg10.out] at B12 ⊢;have HM12:=q_h B12;have HEbd:=q_h (HEbc.out.trans ed);have HP12:=q_h (HPc0.out.ext ed);have HA12:=q_h (HAc.out.ext ed);have HMX:=q_h (HEbd.out.block HM11.out);have HX12:=q_h (HX9.out.trans (HE11.out.trans HEbd.out))
 have HLA:Hid (Calls Tryz.prog 21 #[.agg #[.slice Aa 8 ca,.slice Ba 0 da,.int .i64 (-1),.bool false]] wd (Wi 8 1 0 1 [o0] [] 1 0 wd)):=by
  rw[Hid];exact q1w (s:=s11) (HP11.out.ext HEbd.out) (HA11.out.ext HEbd.out) rfl (med3 _ _) (HEV.out.ext HX12.out).mark best2 (by decide) (by decide) (by rw[log2];exact q2C wd (HEV.out.ext HX12.out).tab)
 have HLB:Hid (∀w',Ext wd w'->Calls Tryz.prog 21 #[.agg #[.slice Ac 8 cc,.slice Bc 0 dc,.int .i64 (-1),.bool false]] w' (Wi 8 0 0 0 [] [] 0 0 w')):=fun w' e=>q1w (s:=s00) (HP12.out.ext e) (HA12.out.ext e) rfl (med2 _ _) (HEV.out.ext (HX12.out.trans e)).mark best1 (Int.le_refl _) (by decide) (by rw[log1];exact q0W w' s00 ⟨rfl,rfl⟩)
 clear ed B12 hszd HEbc HPc0 HAc HP11 HA11 HP12 HA12 HCR HM11 HE11 HX9 HEbd HP9 HA9;obtain⟨m0,m1,m2,m3⟩:=qG HMX.out;go_wp2_with (go_at_call 21;refine q_o ?_);refine HLA.out.mono ?_;rintro e we ⟨Ae,ce,Be,de,rfl,-,-,ee⟩;have HEe:=q_h ee;have HMe:=q_h (ee.block HM12.out);have HXe:=q_h (HX12.out.trans ee);clear ee m0 m1 m2 m3 HM12 HX12 HLA HMX;go_upto_region 13 with (fail);refine qo ?_;intro wf ef hszf B13;have HT13:=q_h B13;have HEf:=q_h (HEe.out.trans ef);have HMf:=q_h (ef.block HMe.out);have HXf:=q_h (HXe.out.trans ef);clear ef B13 HEe HMe HXe;obtain⟨m0,m1,m2,m3⟩:=qG HMf.out;go_wp2_with (go_at_call 21;refine q_o ?_);refine (HLB.out _ HEf.out).mono ?_;rintro e wg ⟨Ag,cg,Bg,dg',rfl,-,-,eg⟩;have HTg:=q_h (eg.block HT13.out);have HXg:=q_h (HXf.out.trans eg);clear eg m0 m1 m2 m3 HT13 HXf HLB HMf HEf;go_upto_region 14 with (fail);refine qo ?_;intro wh eh hszh B14;have HXh:=q_h (HXg.out.trans eh);obtain⟨t0,t1,t2,t3,t4,t5⟩:=qw (eh.block HTg.out);obtain⟨s0,s1,s2,s3,s4,s5⟩:=qw B14;clear eh B14 HTg HXg;go_wp2
 first|go_ret|skip
 exact⟨rfl,HXh.out⟩
structure RgS (g r:Nat) (l:List (Byt×Value)) (es:Array MapEntry) (clock:Nat) (seen:Array Nat) (w:World):Prop where
 mp:w.heap[g]?=some (.map es clock)
 it:w.heap[r]?=some (.mapIter (some g) clock seen clock)
 en:Yk es.toList l
 st:MapKept.Stamped es clock
theorem MpS.range {t e:TypeId}(ht:Tryz.prog.underlying t=some (.map 9 e)){l:List (Byt×Value)}(h:MpS w g l) :
  ∃es clock w',(Instr.range t (.map (some g))).run Tryz.prog w=.ok (.pointer (some ⟨w.heap.size,0,none⟩)) w'/\RgS g w.heap.size l es clock #[] w'/\Ext w w':=by
 obtain⟨es,k,h1,h2,h3⟩:=h;exact⟨es,k,_,run_range_map w t _ e g es k ht h1,⟨((Ext.refl w).alloc _).block h1,heap_alloc_new w _,h2,h3⟩,(Ext.refl w).alloc _⟩
theorem RgS.next{r:Nat}{l:List (Byt×Value)}{es:Array MapEntry}{seen:Array Nat}(h:RgS g r l es k seen w) (ty:TypeId) :
  ((leftOf es seen).size=0/\(Instr.next (.pointer (some ⟨r,0,none⟩)) false ty).run Tryz.prog w=.ok (.tuple #[.bool false]) w) \/
  ∃e∈(leftOf es seen).toList,∃w',(Instr.next (.pointer (some ⟨r,0,none⟩)) false ty).run Tryz.prog w=.ok (.tuple #[.bool true,e.key,e.val]) w'/\RgS g r l es k (seen.push e.born) w'/\Upd r w w'/\(Instr.entry (.pointer (some ⟨r,0,none⟩))).run Tryz.prog w'=.ok (.tuple #[e.key,e.val]) w':=by
 have hst:=(MapKept.stamped_iff es k).1 h.st
 rcases run_next_at (P:=Tryz.prog) w ty r g k k seen es k h.it h.mp hst.1 (q_r) with ⟨h0,h1⟩|⟨e,he,w1,h1,h2⟩
 ·exact .inl ⟨h0,h1⟩
 ·have hne:g≠r:=by
   rintro rfl;have:=h.mp;rw[h.it] at this;cases this
  have hu:Upd r w w1:=by
   rcases h1 with rfl|rfl
   ·exact Upd.refl r _
   ·exact⟨rfl,rfl,rfl,rfl,fun _ _=>rfl⟩
  have hit:w1.heap[r]?=some (.mapIter (some g) k seen k):=by rcases h1 with rfl|rfl<;>exact h.it
  have hs:=MapKept.heap_set (o':=.mapIter (some g) k (seen.push e.born) k) hit;have hm2:(ChangeMaps.setBlock w1 r (.mapIter (some g) k (seen.push e.born) k)).heap[g]?=some (.map es k):=(hs.2 g hne).trans (hu.blk h.mp hne);refine .inr ⟨e,he,_,h2,⟨hm2,hs.1,h.en,h.st⟩,⟨hu.os,hu.tape,hu.output,by simp[ChangeMaps.setBlock,hu.size],fun q hq=>(hs.2 q hq).trans (hu.block q hq)⟩,run_entry_at _ r g k seen es k e hs.1 hm2 (mem_left he).1 hst.2.1⟩
theorem V6 {p:Byt×Value}:∀ {L:List Ob}{k:Nat},p∈mpO k L->∃i,i<L.length/\p=(qM (L.getD i default),.int .i64 ((k+i:Nat):Int))
 | [],_,h=>by cases h
 | o :: L,k,h=>by
  rcases List.mem_cons.1 h with rfl|h
  ·exact⟨0,by simp,rfl⟩
  ·obtain⟨i,h1,h2⟩:=V6 h;refine⟨i+1,by simpa using h1,?_⟩;rw[h2,show k+1+i=k+(i+1) by omega]
   rfl
theorem Vp:∀ {L:List Ob}{k i:Nat},i<L.length->(mpO k L)[i]?=some (qM (L.getD i default),.int .i64 ((k+i:Nat):Int))
 | [],_,_,h=>absurd h (Nat.not_lt_zero _)
 | o :: L,k,0,_=>rfl
 | o :: L,k,i+1,h=>by
  show (mpO (k+1) L)[i]?=_
  rw[Vp (by simpa using h),show k+1+i=k+(i+1) by omega]
  rfl
def KX (base:Nat) (w:World) (g:Nat) (l:List Byt):Prop:=base<=g/\w.heap[g]?=some (.cells (l.map sV).toArray 9 (0,0))
def q19 (l:List Byt) (w:World) (e:Ending) (w':World):Prop:=∃g,e=.returned (.slice (some ⟨g,0,none⟩) l.length l.length)/\KX w.heap.size w' g l/\Ext w w'
theorem KX.strs{l:List Byt}(h:KX base w g l) (hl:l.length<=1000000):qZ w (.slice (some ⟨g,0,none⟩) l.length l.length) l :=
 ⟨_,_,rfl,q_r,by unfold maxLen;omega,fun _=>⟨g,0,rfl,fun i hi=>⟨_,(qj h.2 (0+i)).trans (by
  rw[Nat.zero_add,List.getElem?_toArray,List.getElem?_map,List.getElem?_eq_getElem hi]
  rfl),by show _=sV (l.getD i []);rw[List.getD_eq_getElem?_getD,List.getElem?_eq_getElem hi];rfl⟩⟩⟩
structure NmS (base g r ob:Nat) (L:List Ob) (es:Array MapEntry) (k:Nat) (seen:Array Nat) (w:World):Prop where
 rg:RgS g r (mpO 0 L) es k seen w
 cells:∃cs,w.heap[ob]?=some (.cells cs 9 (0,0))/\cs.size=L.length/\(∀i,i<L.length->∃s,cs[i]?=some (.string s))/\∀x∈es.toList,seen.contains x.born=true->∀i:Nat,i<L.length->x.val=.int .i64 (i:Int)->cs[i]?=some (sV (qM (L.getD i default)))
 n1:ob≠r
 n2:ob≠g
 hb:base<=ob
 hr:base<=r
theorem NmS.done {r ob:Nat}{L:List Ob}{es:Array MapEntry}{seen:Array Nat}(h:NmS base g r ob L es k seen w) (h0:(leftOf es seen).size=0):KX base w ob (L.map qM):=by
 obtain⟨cs,h1,h2,-,h4⟩:=h.cells;refine⟨h.hb,?_⟩;rw[h1]
 congr 2
 refine Array.ext (by simp[h2]) fun i h5 h6=>?_
 have hi:i<L.length:=by omega
 obtain⟨e,h7,-,h9⟩:=Vu h.rg.en (Vp (k:=0) hi);have h8:=List.mem_of_getElem? h7;have h10:=h4 e h8 (all_seen es seen h0 e h8) i hi (by rw[h9];simp);rw[Array.getElem?_eq_getElem h5] at h10;rw[Option.some.inj h10];simp[List.getD_eq_getElem?_getD,List.getElem?_eq_getElem hi]
theorem NmS.step {r ob:Nat}{L:List Ob}{es:Array MapEntry}{seen:Array Nat}{w1:World}(h:NmS base g r ob L es k seen w){e:MapEntry}(he:e∈(leftOf es seen).toList) (hr:RgS g r (mpO 0 L) es k (seen.push e.born) w1) (hu:Upd r w w1) :
  ∃(i:Nat) (cs:Array Value),i<L.length/\e.key=sV (qM (L.getD i default))/\e.val=.int .i64 (i:Int)/\w1.heap[ob]?=some (.cells cs 9 (0,0))/\cs.size=L.length/\(∃s,cs[i]?=some (.string s))/\∀w2,w2.heap[ob]?=some (.cells (cs.setIfInBounds i e.key) 9 (0,0))->Upd ob w1 w2->NmS base g r ob L es k (seen.push e.born) w2:=by
 obtain⟨cs,h1,h2,h3,h4⟩:=h.cells;have hm:=mem_left he;obtain⟨p,hp,h5,h6⟩:=Jk h.rg.en hm.1;obtain⟨i,hi,rfl⟩:=V6 hp;rw[Nat.zero_add] at h6;refine⟨i,cs,hi,h5,h6,hu.blk h1 h.n1,h2,h3 i hi,fun w2 h7 h8=>?_⟩;have hst:=(MapKept.stamped_iff es k).1 h.rg.st;refine⟨⟨h8.blk hr.mp (fun e=>h.n2 e.symm),h8.blk hr.it (fun e=>h.n1 e.symm),hr.en,hr.st⟩,⟨_,h7,by simp[h2],fun j hj=>?_,fun x hx hc j hj hv=>?_⟩,h.n1,h.n2,h.hb,h.hr⟩
 ·rw[Array.getElem?_setIfInBounds]
  by_cases hij:i=j
  ·rw[if_pos hij,if_pos (by omega),h5];exact⟨_,rfl⟩
  ·rw[if_neg hij];exact h3 j hj
 ·rw[Array.getElem?_setIfInBounds]
  by_cases hij:i=j
  ·rw[if_pos hij,if_pos (by omega),h5,hij]
  ·rw[if_neg hij];rw[contains_push,Bool.or_eq_true] at hc
   rcases hc with hc|hc
   ·exact h4 x hx hc j hj hv
   ·obtain rfl:=born_inj hst.2.1 hx hm.1 (by simpa using hc);rw[h6] at hv;injection hv with _ hv
    exact absurd (Int.ofNat.inj hv) hij
theorem Yw{size seq half used:Int}{T:Value}{L:List Ob}(hI:IxB base b g size seq half used v T L w) (hl:L.length<=1000) :
  Calls Tryz.prog 94 #[.pointer (some ⟨b,0,none⟩)] w (q19 (L.map qM) w):=by
 have HI:=q_h hI;obtain⟨R,hR⟩:=qf (q19 (L.map qM) w);rw[<-hR.out];obtain⟨n,hn⟩:=qf L.length;obtain⟨A1,c1,hv1,-⟩:=hI.obs.form;rw[<-hn.out] at hv1 hl;subst hv1;clear hI;have b4:w.cell? ⟨b,4,none⟩=some (.slice A1 n c1):=(qj HI.out.blk 4).trans rfl;go_enter Tryz.func94,Tryz.ntmps94;go_wp2_with (at_make;refine q_o ?_);refine Qv xW rfl rfl _ _ 26 Tryz.underlying26 rfl .i64 .i64 _ _ n (by rfl) (by rfl) rfl rfl (by omega) ?_;intro w1 cs1 hb1 hs1 hc1 e1;obtain⟨ob,hob⟩:=qf w.heap.size;rw[<-hob.out] at hb1 ⊢;have HX1:=q_h e1;have HI1:=q_h (HI.out.ext e1);have HB1:=q_h hb1;have HC1:Hid (cs1.size=n/\∀i,i<n->cs1[i]?=some (.string ⟨#[]⟩)):=⟨hs1,hc1⟩
 clear b4 e1 hb1 hs1 hc1;have b6:w1.cell? ⟨b,6,none⟩=some (.map (some g)):=(qj HI1.out.blk 6).trans rfl;obtain⟨es,k,w2,hrun,hrg,hx2⟩:=HI1.out.mp.range XO;obtain⟨r,hr⟩:=qf w1.heap.size;rw[<-hr.out] at hrun hrg
 have HS:Hid (NmS w.heap.size g r ob L es k #[] w2):=by
  have h1:=HB1.out;have h2:=qK h1;refine⟨hrg,⟨cs1,hx2.block h1,by rw[HC1.out.1,hn.out],fun i hi=>⟨_,HC1.out.2 i (by rw[hn.out];exact hi)⟩,fun x _ hc=>by simp at hc⟩,?_,?_,?_,?_⟩
  ·rw[hr.out];omega
  ·rintro rfl;have h3:=hrg.mp;rw[hx2.block h1] at h3;cases h3
  ·rw[hob.out];exact q_r
  ·rw[hr.out];exact HX1.out.size
 have HX2:=q_h (HX1.out.trans hx2);clear hrg hx2;go_wp2_with fail
 go_loopw [4] (fun _ wr=>∃seen,Hid (NmS w.heap.size g r ob L es k seen wr)/\Hid (Ext w wr)) (fun _ wr=>World.rangeLeft wr g r)
 case atStart=>exact⟨#[],HS,HX2⟩
 case round =>
  obtain⟨seen,HN,HX⟩:=hrel
  rcases HN.out.rg.next 0 with ⟨h0,hnx⟩|⟨e,he,w3,hnx,hrg3,hu3,hen⟩
  ·have H0:=q_h h0;clear h0;go_wp2
   first|go_ret|skip
   rw[hR.out];have h9:=HN.out.done H0.out;refine⟨ob,?_,h9,HX.out⟩;rw[List.length_map,<-hn.out]
   rfl
  ·obtain⟨i,cs,hi,hk,hv,hb3,hs3,⟨s0,hs0⟩,hfin⟩:=HN.out.step he hrg3 hu3;rw[<-hn.out] at hi hs3;have hX3:Ext w w3:=hu3.ext HX.out HN.out.hr;obtain⟨X,hX⟩:=qf (bA (qM (L.getD i default)));rw[qO,<-hX.out] at hk;rw[hk] at hfin;rw[hk,hv] at hnx hen;have HFI:=q_h hfin;have HLT:Hid ((leftOf es (seen.push e.born)).size<(leftOf es seen).size):=left_shrinks es seen e he
   have HRG:Hid (World.rangeLeft wr g r=(leftOf es seen).size):=by
    have h1:=HN.out.rg;rw[Hid];unfold World.rangeLeft;rw[h1.mp,h1.it]
   obtain⟨seen2,hs2⟩:=qf (seen.push e.born);rw[<-hs2.out] at HFI HLT;have u5:decide ((i:Int)<(n:Int))=true:=q_t (by omega);have u6:(i:Int)<(n:Int):=by omega
   have c5:w3.cell? ⟨ob,i,none⟩=some (.string s0):=(qj hb3 i).trans hs0;have f5:=qp hb3 i;obtain⟨w4,E4,B4,U4⟩:=qL hb3 i (.string X);have HN4:Hid (NmS w.heap.size g r ob L es k seen2 w4):=HFI.out w4 B4 U4;have HX4:Hid (Ext w w4):=U4.ext hX3 HN.out.hb;clear hfin hrg3 hu3 hX3 B4 U4 hk hv he hs0 HFI;go_wp2;go_roundw
   case rel=>exact⟨seen2,HN4,HX4⟩
   case measure =>
    have h1:=HN4.out.rg
    have h2:World.rangeLeft w4 g r=(leftOf es seen2).size:=by
     unfold World.rangeLeft;rw[h1.mp,h1.it]
    rw[h2,HRG.out];exact HLT.out
def q3p (s:Shf) (v:Value) (w:World):Prop:=∀w',Ext w w'->Calls Tryz.prog 58 #[v] w' (q0E s w')
theorem q2L (HT:x9){s:Shf}{A1 A2:Option Addr}{n1 c1 n2 c2:Nat}(hO:yJ w (.slice A1 n1 c1) s.objs) (hTg:jK w (.slice A2 n2 c2) s.tags) (hok:OkS s) (he:kS w.heap.size w):q3p s (.agg #[.int .i64 s.size,.int .i64 s.seq,.int .i64 s.half,.int .i64 s.used,.slice A1 n1 c1,.slice A2 n2 c2]) w:=fun _ e =>
 wJ HT (hO.ext e) (hTg.ext e) hok.ob hok.tg (by have:=hok.no;omega) hok.nt (he.ext e).tab
def q3a (s:Shf) (w:World) (e:Ending) (w':World):Prop :=
 (qE s=false/\e=.returned (.tuple #[.slice none 0 0,.int .i64 1])/\Ext w w') \/
 (qE s=true/\∃g,e=.returned (.tuple #[.slice (some ⟨g,0,none⟩) s.objs.length s.objs.length,.int .i64 0])/\KX w.heap.size w' g (s.objs.map qM)/\Ext w w')
theorem q2l {s:Shf}{A1 A2:Option Addr}{n1 c1 n2 c2:Nat}(hi:q3p s (.agg #[.int .i64 s.size,.int .i64 s.seq,.int .i64 s.half,.int .i64 s.used,.slice A1 n1 c1,.slice A2 n2 c2]) w) (hno:s.objs.length<=1000) :
  Calls Tryz.prog 28 #[.agg #[.int .i64 s.size,.int .i64 s.seq,.int .i64 s.half,.int .i64 s.used,.slice A1 n1 c1,.slice A2 n2 c2]] w (q3a s w):=by
 obtain⟨R,hR⟩:=qf (q3a s w);rw[<-hR.out];have HI:=q_h hi;have HNO:=q_h hno;obtain⟨size,hsize⟩:=qf s.size;obtain⟨seq,hseq⟩:=qf s.seq;obtain⟨half,hhalf⟩:=qf s.half;obtain⟨used,hused⟩:=qf s.used;rw[<-hsize.out,<-hseq.out,<-hhalf.out,<-hused.out] at HI ⊢;clear hi hno;go_enter Tryz.func28,Tryz.ntmps28;go_upto_region 1 with (fail);refine qo ?_;intro w1 hE hsz B0;obtain⟨p0,p1,p2,p3,p4,p5⟩:=qw B0;have HX1:=q_h hE;go_wp2_with (go_at_call 58;refine q_o ?_);refine (HI.out w1 HX1.out).mono ?_;rintro e w2 (⟨hvb,a,b,c,d,Ax,nx,cx,Bx,mx,dx,gx,rfl,e2⟩|⟨hvb,Av,cv,At,ct,gm,rfl,hO2,hM2,hg2,hT2,e2⟩)
 ·have HX2:=q_h (hE.trans e2);have HV:=q_h hvb;clear p0 p1 p2 p3 p4 p5 B0 hE e2 hvb;go_upto_region 2 with (fail);refine qo ?_;intro w3 e3 hsz3 B8;clear B8;have HX9:=q_h (HX2.out.trans e3);clear e3;go_wp2
  first|go_ret2|skip
  rw[hR.out];exact .inl ⟨HV.out,rfl,HX9.out⟩
 have HX2:=q_h (hE.trans e2);have HO2:=q_h hO2;have HM2:=q_h hM2;have HGS:Hid (w1.heap.size<=gm):=hg2;obtain⟨n,hn⟩:=qf s.objs.length;obtain⟨nt,hnt⟩:=qf s.tags.length;have HV:=q_h hvb;rw[<-hsize.out,<-hseq.out,<-hhalf.out,<-hused.out,<-hn.out,<-hnt.out];rw[<-hn.out] at HO2;clear p0 p1 p2 p3 p4 p5 B0 hE e2 hO2 hM2 hT2 hg2 hvb;go_upto_region 2 with (fail);refine qo ?_;intro w3 e3 hsz3 B8;obtain⟨b,hb⟩:=qf w2.heap.size;rw[<-hb.out] at B8 ⊢;have HI3:Hid (IxB w1.heap.size b gm size seq half used (.slice Av n cv) (.slice At nt ct) s.objs w3):=⟨B8,by have:=HM2.out.lt;have:=hb.out;have:=HGS.out;omega,HGS.out,HO2.out.ext e3,HM2.out.ext e3⟩
 have HX3:=q_h (HX2.out.trans e3);clear e3 B8 HO2 HM2 HX2;go_wp2_with (go_at_call 94;refine q_o ?_);refine (Yw HI3.out HNO.out).mono ?_;rintro e w4 ⟨g,rfl,ha,e4⟩;have HX4:=q_h (HX3.out.trans e4);have HA4:Hid (KX w.heap.size w4 g (s.objs.map qM)):=⟨q_l HX3.out.size ha.1,ha.2⟩
 rw[List.length_map,<-hn.out];clear ha e4;go_wp2
 first|go_ret2|skip
 rw[hR.out];exact .inr ⟨HV.out,g,by rw[<-hn.out];rfl,HA4.out,HX4.out⟩
end
section
open Go.RowKit Go.Shelf Go.Sort
def q2r:Go.Shelf.Ren:=⟨fun|125=>96|128=>155|129=>156|190=>29|258=>95|302=>146|303=>147|304=>148|305=>149|306=>150|307=>151|308=>152|309=>153|310=>154|329=>188|330=>189|333=>187|334=>190|335=>191|336=>192|344=>222|_=>0,fun|0=>0|3=>3|4=>4|5=>5|9=>9|31=>26|46=>142|51=>196|53=>198|131=>102|182=>188|183=>189|218=>225|222=>229|228=>265|229=>266|_=>0,fun _=>0⟩
theorem Xl:Go.Proofs.Lays.n190 Tryz.prog q2r:=by
 constructor
 all_goals first|kernel_rfl|(intro w;kernel_rfl)
def Qk (l:List Byt):List Byt:=l.mergeSort fun x y=>decide (x<=y)
theorem XV (l:List Byt):(Qk l).length=l.length:=List.length_mergeSort l
theorem sl_sortS{l:List Byt}(h:KX base w g l) (hl:l.length<=1000000) :
  Calls Tryz.prog 29 #[.slice (some ⟨g,0,none⟩) l.length c] w (fun e w'=>e=.returned (.tuple #[])/\KX base w' g (Qk l)/\w.grownBy w' (some g)):=by
 have hH:Holds encStr w g 0 l.toArray:=fun j hj=>by
  have hj':j<l.length:=by simpa using hj
  refine⟨?_,qp h.2 _⟩;rw[qj h.2,Nat.zero_add,List.getElem?_toArray,List.getElem?_map,List.getElem?_eq_getElem hj'];have h1:l.toArray[j]! = l[j]:=by simp[hj']
  rw[h1]
  rfl
 have hcon:=Any.slices_Sort_string Xl g 0 c l w hH (qK h.2) (by omega);refine Calls.mono hcon ?_;rintro e w' ⟨rfl,n,os,rfl⟩;have hsl:(Qk l).length=l.length:=XV l;have hP:=holds_putRow encStr (Sort.ahead w n) g 0 l.toArray (Qk l).toArray hH (by simpa using hsl)
 have h2:(putRow encStr (Sort.ahead w n) g 0 (Qk l).toArray).heap[g]?=some (.cells (putCells encStr 0 (Qk l).toArray (l.map sV).toArray) 9 (0,0)):=by
  have h1:(Sort.ahead w n).heap[g]?=some (.cells (l.map sV).toArray 9 (0,0)):=h.2;unfold putRow mapBlock;rw[Array.getElem?_modify,if_pos rfl,h1]
  rfl
 have h3:(grow (putRow encStr (Sort.ahead w n) g 0 (Qk l).toArray) os).heap[g]?=some (.cells (putCells encStr 0 (Qk l).toArray (l.map sV).toArray) 9 (0,0)):=by
  rw[heap_grow_old _ _ (qK h2),h2]
 have h4:putCells encStr 0 (Qk l).toArray (l.map sV).toArray=((Qk l).map sV).toArray:=by
  refine Array.ext (by unfold putCells;simp[hsl]) fun j h5 h6=>?_
  have hj:j<(Qk l).length:=by simpa using h6
  have h7:=(hP j (by simpa using hj)).1;rw[Nat.zero_add,qj h2,Array.getElem?_eq_getElem h5] at h7;rw[Option.some.inj h7];simp[hj]
  rfl
 rw[h4] at h3;exact⟨rfl,⟨h.1,h3⟩,grownBy_sorted _⟩
end
section
open Go.RowKit
def vw (L:List Ob) (k:Byt):List Byt:=match (L.map qM).idxOf? k with|some i=>(L.getD i default).links|none=>[]
inductive Rch (L:List Ob) (F:List Byt):Byt->Prop where
 | base {k:Byt}:k∈F->Rch L F k
 | step {k l:Byt}:Rch L F k->l∈vw L k->Rch L F l
structure q1e (L:List Ob):Prop where
 nd:(L.map qM).Nodup
 lk:∀j,j<L.length->∀l∈(L.getD j default).links,∃i,i<j/\qM (L.getD i default)=l
theorem Ze {L:List Ob}(h:i<L.length):(L.map qM)[i]?=some (qM (L.getD i default)):=by
 rw[List.getElem?_map,List.getD_eq_getElem?_getD,List.getElem?_eq_getElem h]
 rfl
theorem Z5:∀ {L:List Ob}{K:List Byt},wV K L=true->∀j,j<L.length->jy (K++(L.take j).map qM) (L.getD j default)=true
 | [],_,_,j,h=>absurd h (Nat.not_lt_zero j)
 | o :: L,K,h,0,_=>by
  unfold wV at h;rw[Bool.and_eq_true] at h;simpa using h.1
 | o :: L,K,h,j+1,hj=>by
  unfold wV at h;rw[Bool.and_eq_true] at h;have:=Z5 h.2 j (by simpa using hj);rw[List.append_assoc] at this;exact this
theorem q1e.inj {L:List Ob}(h:q1e L)(hi:i<L.length) (hj:j<L.length) (e:qM (L.getD i default)=qM (L.getD j default)):i=j:=by
 have h1:=(List.nodup_iff_pairwise_ne.1 h.nd)
 rw[List.pairwise_iff_getElem] at h1
 rcases Nat.lt_trichotomy i j with h2|h2|h2
 ·have h3:=h1 i j (by simpa using hi) (by simpa using hj) h2;rw[List.getElem_map,List.getElem_map] at h3;rw[List.getD_eq_getElem?_getD,List.getD_eq_getElem?_getD,List.getElem?_eq_getElem hi,List.getElem?_eq_getElem hj] at e;exact absurd e h3
 ·exact h2
 ·have h3:=h1 j i (by simpa using hj) (by simpa using hi) h2;rw[List.getElem_map,List.getElem_map] at h3;rw[List.getD_eq_getElem?_getD,List.getD_eq_getElem?_getD,List.getElem?_eq_getElem hi,List.getElem?_eq_getElem hj] at e;exact absurd e.symm h3
theorem q1e.idx {L:List Ob}(h:q1e L)(hi:i<L.length):(L.map qM).idxOf? (qM (L.getD i default))=some i:=by
 have h1:qM (L.getD i default)∈L.map qM:=List.mem_of_getElem? (Ze hi);cases h2:(L.map qM).idxOf? (qM (L.getD i default)) with
 | none =>
  have:=List.isSome_idxOf? (l:=L.map qM) (a:=qM (L.getD i default));rw[h2] at this;simp at this
  exact absurd (List.mem_map.1 h1) (by rintro⟨o,ho,e⟩;exact this o ho e)
 | some j =>
  obtain⟨hj,h3,-⟩:=List.idxOf?_eq_some_iff.1 h2;rw[List.length_map] at hj;have h4:=Ze hj;rw[List.getElem?_eq_getElem (by simpa using hj)] at h4;have h5:=Option.some.inj h4;rw[h5] at h3;rw[h.inj hj hi (by simpa using h3)]
theorem q1e.lnk {L:List Ob}(h:q1e L)(hi:i<L.length):vw L (qM (L.getD i default))=(L.getD i default).links:=by
 unfold vw;rw[h.idx hi]
theorem Y0 {L:List Ob}{k l:Byt}(h:l∈vw L k):∃j,j<L.length/\qM (L.getD j default)=k/\l∈(L.getD j default).links:=by
 unfold vw at h;cases h2:(L.map qM).idxOf? k with
 | none=>rw[h2] at h;cases h
 | some j =>
  rw[h2] at h;obtain⟨hj,h3,-⟩:=List.idxOf?_eq_some_iff.1 h2;rw[List.length_map] at hj;have h4:=Ze hj;rw[List.getElem?_eq_getElem (by simpa using hj)] at h4;have h5:=Option.some.inj h4;rw[h5] at h3;exact⟨j,hj,by simpa using h3,h⟩
def JY (L:List Ob):Nat->List Byt->List Byt->List Byt
 | 0,_,out=>out
 | i+1,F,out=>if qM (L.getD i default)∈F then JY L i (F++(L.getD i default).links) (out ++ [qM (L.getD i default)]) else JY L i F out
def rchS (L:List Ob) (F:List Byt):List Byt:=Qk (JY L L.length F [])
theorem ObG.atU{L:List Ob}(h:ObG base w (.slice A n c) L) (hj:j<L.length):∃(g off:Nat) (C1:Option Addr) (m1 e1:Nat) (C2:Option Addr) (m2 e2:Nat),A=some ⟨g,off,none⟩/\w.cell? ⟨g,off+j*2,none⟩=some (.slice C1 m1 e1)/\w.cell? ⟨g,off+j*2+1,none⟩=some (.slice C2 m2 e2)/\StU w (.slice C1 m1 e1) (L.getD j default).links/\ByU w (.slice C2 m2 e2) (L.getD j default).data:=by
 obtain⟨X,Y,h1,h2⟩:=h;obtain⟨g,cap,hv2,hb,-,-,hcell⟩:=h1.at_ (by omega);injection hv2 with e1 e2 e3
 have hc:∀q,q<2->∀u,[X j,Y j][q]?=some u->w.cell? ⟨g,0+j*2+q,none⟩=some u:=fun q hq u hu=>by
  rw[Nat.zero_add];exact hcell _ u ((yC X Y q hq _ j hj).trans hu)
 have h3:=h2 j hj;obtain⟨C1,k1,hX,-⟩:=h3.1.1.form;obtain⟨C2,k2,hY,-⟩:=h3.2.1.form;refine⟨g,0,C1,_,k1,C2,_,k2,e1,?_,?_,by rw[<-hX];exact h3.1,by rw[<-hY];exact h3.2⟩
 ·rw[<-hX];exact hc 0 (by omega) _ rfl
 ·rw[<-hY];exact hc 1 (by omega) _ rfl
theorem q2v (w:World):qZ w (.slice none 0 0) []:=⟨none,0,rfl,q_r,Nat.zero_le _,fun h=>absurd h (Nat.lt_irrefl 0)⟩
def mpB (l:List Byt):List (Byt×Value):=l.map fun k=>(k,.bool true)
theorem q0J:Tryz.prog.underlying 156=some (.map 9 4):=by kernel_rfl
theorem JE (w:World):(zeroValue 4).run Tryz.prog w=.ok (.bool false) w:=by kernel_rfl
theorem q0V (k:Byt):∀l:List Byt,lkM (mpB l) k=if k∈l then some (.bool true) else none
 | []=>by simp[mpB,lkM]
 | a :: l=>by
  show (if k=a then some (Value.bool true) else lkM (mpB l) k)=_
  by_cases h:k=a
  ·rw[if_pos h,if_pos (by rw[h];simp)]
  ·rw[if_neg h,q0V k l];simp[h]
theorem q0T {k:Byt}:∀ {l:List Byt},k ∉ l->puM (.bool true) (mpB l) k=mpB (l ++ [k])
 | [],_=>rfl
 | a :: l,h=>by
  have h1:k≠a:=fun e=>h (by rw[e];simp)
  show (if k=a then (k,Value.bool true) :: mpB l else (a,Value.bool true) :: puM (.bool true) (mpB l) k)=_
  rw[if_neg h1,q0T (fun h2=>h (by simp[h2]))]
  rfl
theorem YQ{l:List Byt}(h:MpS w g (mpB l)) (k:Byt):(Instr.lookup 156 (.map (some g)) (sV k) false).run Tryz.prog w=.ok (.bool (decide (k∈l))) w:=by
 have h1:=QU q0J (JE w) h k false;rw[q0V] at h1
 by_cases hk:k∈l
 ·rw[if_pos hk] at h1;rw[q_t hk];exact h1
 ·rw[if_neg hk] at h1;rw[q_f hk];exact h1
theorem YP{L:List Ob}{k:Byt}(h:MpS w g (mpO 0 L)) (hj:(L.map qM).idxOf? k=some j):(Instr.lookup 97 (.map (some g)) (sV k) false).run Tryz.prog w=.ok (.int .i64 (j:Int)) w:=by
 have h1:=QU XO (XL w) h k false;rw[Jc,hj] at h1;have e:((0+j:Nat):Int)=(j:Int):=by rw[Nat.zero_add]
 simp only[Option.map_some,e] at h1;exact h1
def Kr (w:World) (g:Nat):Nat:=match w.heap[g]? with|some (.map es _)=>es.size|_=>0
theorem MpS.size{l:List (Byt×Value)}(h:MpS w g l):Kr w g=l.length:=by
 obtain⟨es,k,h1,h2,-⟩:=h;unfold Kr;rw[h1];have h3:=congrArg List.length (show es.toList.map (fun e=>(e.key,e.val))=_ from h2);simpa using h3
theorem qB.pop {ET:TypeId}{xs:List Value}(h:qB ET base w (.slice A n c) xs) (h0:0<xs.length):qB ET base w (.slice A (n-1) c) xs.dropLast:=by
 rcases h.2.2 with ⟨-,h1⟩|⟨g,cap,cur,hv,hb,hh,h3,h4,h5,h6⟩
 ·omega
 ·obtain⟨rfl,rfl,rfl⟩:=Value.slice.inj hv;have hl:xs.dropLast.length=xs.length-1:=List.length_dropLast;refine⟨h.1,by simp,.inr ⟨g,c,cur,by rw[hl],hb,hh,by omega,h4,h5,?_⟩⟩;rw[hl];rw[Nat.mul_one] at h6 ⊢;rw[List.dropLast_eq_take,<-h6,List.take_take]
  congr 1
  have:(cur.toList.take xs.length).length=xs.length:=by rw[h6]
  omega
structure RcS (L:List Ob) (F sl td:List Byt):Prop where
 nd:sl.Nodup
 s1:∀y∈sl,(∃j,j<L.length/\qM (L.getD j default)=y)/\Rch L F y
 s2:∀y∈td,(∃j,j<L.length/\qM (L.getD j default)=y)/\Rch L F y
 cov:∀y∈F,y∈sl\/y∈td
 cl:∀y∈sl,∀l∈vw L y,l∈sl\/l∈td
theorem q0U:∀ {s l:List Byt},s.Nodup->(∀y∈s,y∈l)->s.length<=l.length
 | [],_,_,_=>Nat.zero_le _
 | a :: s,l,hn,h=>by
  have ha:=h a (by simp);have h1:=List.nodup_cons.1 hn;have h2:=q0U (l:=l.erase a) h1.2 (fun y hy=>(List.mem_erase_of_ne (fun e=>h1.1 (by rw[<-e];exact hy))).2 (h y (by simp[hy])));rw[List.length_erase_of_mem ha] at h2;have:=List.length_pos_of_mem ha;simp only[List.length_cons];omega
theorem RcS.len {L:List Ob}{F sl td:List Byt}(h:RcS L F sl td):sl.length<=L.length:=by
 have h1:∀y∈sl,y∈L.map qM:=fun y hy=>by
  obtain⟨⟨j,hj,rfl⟩,-⟩:=h.s1 y hy;exact List.mem_of_getElem? (Ze hj)
 have h2:=q0U h.nd h1;simpa using h2
theorem RcS.old {L:List Ob}{F sl td:List Byt}{x:Byt}(h:RcS L F sl (td ++ [x])) (hx:x∈sl):RcS L F sl td:=by
 refine⟨h.nd,h.s1,fun y hy=>h.s2 y (by simp[hy]),fun y hy=>?_,fun y hy l hl=>?_⟩
 ·rcases h.cov y hy with h1|h1
  ·exact .inl h1
  ·rcases List.mem_append.1 h1 with h1|h1
   ·exact .inr h1
   ·rw[List.mem_singleton.1 h1];exact .inl hx
 ·rcases h.cl y hy l hl with h1|h1
  ·exact .inl h1
  ·rcases List.mem_append.1 h1 with h1|h1
   ·exact .inr h1
   ·rw[List.mem_singleton.1 h1];exact .inl hx
theorem RcS.new {L:List Ob}{F sl td:List Byt}{x:Byt}(hO:q1e L) (h:RcS L F sl (td ++ [x])) (hx:x ∉ sl):RcS L F (sl ++ [x]) (td++vw L x):=by
 have hX:=h.s2 x (by simp);refine⟨?_,fun y hy=>?_,fun y hy=>?_,fun y hy=>?_,fun y hy l hl=>?_⟩
 ·refine List.nodup_append.2 ⟨h.nd,by simp,fun a ha b hb e=>hx ?_⟩;rw[List.mem_singleton] at hb;rw[<-hb,<-e];exact ha
 ·rcases List.mem_append.1 hy with h1|h1
  ·exact h.s1 y h1
  ·rw[List.mem_singleton.1 h1];exact hX
 ·rcases List.mem_append.1 hy with h1|h1
  ·exact h.s2 y (by simp[h1])
  ·obtain⟨j,hj,-,hl⟩:=Y0 h1;obtain⟨i,hi,e⟩:=hO.lk j hj _ hl;exact⟨⟨i,by omega,e⟩,.step hX.2 h1⟩
 ·rcases h.cov y hy with h1|h1
  ·exact .inl (by simp[h1])
  ·rcases List.mem_append.1 h1 with h1|h1
   ·exact .inr (by simp[h1])
   ·exact .inl (by simp[List.mem_singleton.1 h1])
 ·rcases List.mem_append.1 hy with h1|h1
  ·rcases h.cl y h1 l hl with h2|h2
   ·exact .inl (by simp[h2])
   ·rcases List.mem_append.1 h2 with h2|h2
    ·exact .inr (by simp[h2])
    ·exact .inl (by simp[List.mem_singleton.1 h2])
  ·rw[List.mem_singleton.1 h1] at hl;exact .inr (by simp[hl])
def q33 (L:List Ob) (F:List Byt) (w:World) (e:Ending) (w':World):Prop:=∃gm sl,e=.returned (.map (some gm))/\w.heap.size<=gm/\MpS w' gm (mpB sl)/\RcS L F sl []/\Ext w w'
theorem q2k{size seq half used:Int}{T fv:Value}{L:List Ob}{F:List Byt}(hI:IxB base b g size seq half used v T L w) (hF:qZ w fv F) (hO:q1e L) (hl:L.length<=1000) (hf:F.length<=1000) (hst:∀y∈F,∃j,j<L.length/\qM (L.getD j default)=y) (hk:∀j,j<L.length->(L.getD j default).links.length<=16) :
  Calls Tryz.prog 110 #[.pointer (some ⟨b,0,none⟩),fv] w (q33 L F w):=by
 obtain⟨R,hR⟩:=qf (q33 L F w);rw[<-hR.out];have HI:=q_h hI;have HF:=q_h hF;have HO:=q_h hO;have HL:=q_h hl;have HFL:=q_h hf;have HST:=q_h hst;have HK:=q_h hk;obtain⟨A0,c0,rfl,-⟩:=Qm.form hF;obtain⟨n0,hn0⟩:=qf F.length;rw[<-hn0.out] at HF ⊢;obtain⟨Av,cv,hv1,-⟩:=hI.obs.form;obtain⟨nl,hnl⟩:=qf L.length;rw[<-hnl.out] at hv1;subst hv1;clear hI hF hO hl hf hst hk;go_enter Tryz.func110,Tryz.ntmps110;have hmk:(Instr.makeMap 156 none).run Tryz.prog w=.ok (.map (some w.heap.size)) (w.alloc (.map #[] 0)):=rfl;go_upto_region 2 with (fail);obtain⟨gm,hgm⟩:=qf w.heap.size;have HM1:Hid (MpS (w.alloc (.map #[] 0)) gm (mpB [])):=by rw[Hid,hgm.out];exact MpS.new w
 have HX1:Hid (Ext w (w.alloc (.map #[] 0))):=(Ext.refl w).alloc _;rw[<-hgm.out];obtain⟨w1,hw1⟩:∃w1,w1=w.alloc (.map #[] 0):=⟨_,rfl⟩
 rw[<-hw1] at HM1 HX1 ⊢;clear hw1 hmk;have HCC:Hid (Calls Tryz.prog 114 #[.slice A0 n0 c0] w1 (q25 w1 F)):=wM (by have h1:=HF.out.ext HX1.out;exact h1) (by have:=HFL.out;omega);go_wp2_with (go_at_call 114;refine q_o ?_);refine HCC.out.mono ?_;rintro e w2 ⟨v2,rfl,hG2,e2⟩;have HG2:Hid (qB 9 w.heap.size w2 v2 (F.map sV)):=qB.low hG2 HX1.out.size;obtain⟨A2,c2,rfl,-⟩:=HG2.out.form;have HM2:=q_h (HM1.out.ext e2);have HX2:=q_h (HX1.out.trans e2);rw[List.length_map,<-hn0.out] at HG2 ⊢;have HRS:Hid (RcS L F [] F):=⟨List.nodup_nil,fun y hy=>(by cases hy),fun y hy=>⟨HST.out y hy,.base hy⟩,fun y hy=>.inr hy,fun y hy=>(by cases hy)⟩
 clear hG2 e2 HCC HM1 HX1;go_wp2_with fail
 go_loopw [6] (fun tv wr=>∃(A:Option Addr) (n c:Nat) (sl td:List Byt),tv=.slice A n c/\Hid (n=td.length)/\n<=20000/\Hid (qB 9 w.heap.size wr (.slice A n c) (td.map sV))/\Hid (MpS wr gm (mpB sl))/\Hid (RcS L F sl td)/\Hid (n<=F.length+16*sl.length)/\Hid (Ext w wr)) (fun tv wr=>(L.length-Kr wr gm)*17+(match tv with|.slice _ n _=>n|_=>0))
 case atStart=>exact⟨A2,n0,c2,[],F,rfl,hn0,by have:=HFL.out;have:=hn0.out;omega,HG2,HM2,HRS,by rw[Hid,hn0.out];simp,HX2⟩
 case round =>
  clear HG2 HM2 HRS HX2;obtain⟨A,n,c,sl,td,rfl,HN,hn9,HG,HM,HRS,HBD,HX⟩:=hrel
  by_cases h0:0<n
  case neg =>
   have HN0:Hid (n=0):=by rw[Hid];omega
   have u5:decide ((0:Int)<(n:Int))=false:=q_f (by omega);go_wp2
   first|go_ret|skip
   rw[hR.out];have h1:td=[]:=List.eq_nil_of_length_eq_zero (by rw[<-HN.out,HN0.out]);exact⟨gm,sl,rfl,by rw[hgm.out];exact q_r,HM.out,by have h2:=HRS.out;rw[h1] at h2;exact h2,HX.out⟩
  have u5:decide ((0:Int)<(n:Int))=true:=q_t (by omega)
  obtain⟨td',x,htd⟩:∃td' x,td=td' ++ [x]:=by
   have h1:td≠[]:=fun e=>by rw[e] at HN;have:=HN.out;simp at this;omega
   exact⟨td.dropLast,td.getLast h1,(List.dropLast_concat_getLast h1).symm⟩
  subst htd;have HNT:Hid (n=td'.length+1):=by have:=HN.out;rw[Hid,this];simp
  obtain⟨nq,hnq⟩:∃nq:Nat,n=nq+1:=⟨td'.length,HNT.out⟩
  have w1:IntKind.i64.wrap ((n:Int)-1)=(nq:Int):=by rw[hnq];push_cast;rw[show (nq:Int)+1-1=nq by omega];exact wrp (by omega) (by omega)
  have HNQ:Hid (nq=td'.length):=by have:=HNT.out;rw[Hid];omega
  obtain⟨gt,cap,hv,hbt,-,-,hcap,-,hcell⟩:=HG.out.at_ (by simp);obtain⟨rfl,-,rfl⟩:=Value.slice.inj hv
  have c0:wr.cell? ⟨gt,nq,none⟩=some (sV x):=by
   have h1:=hcell nq (by have:=HNQ.out;simp;omega);rw[h1];have h2:=HNQ.out;subst h2
   simp
  have HPOP:Hid (qB 9 w.heap.size wr (.slice (some ⟨gt,0,none⟩) nq c) (td'.map sV)):=by
   have h1:=HG.out.pop (by simp);rw[hnq,Nat.add_sub_cancel] at h1;rw[Hid];simpa using h1
  have hnn:(nq:Int)<(n:Int):=by omega
  have hnc:n<=c:=by have:=HN.out;simp at hcap this;omega
  have hlk:=YQ HM.out x;obtain⟨X,hX⟩:=qf (bA x);have HXV:Hid (Value.string X=sV x):=by rw[Hid,hX.out];rfl
  rw[<-HXV.out] at hlk c0;obtain⟨q,hq⟩:=qf (decide (x∈sl));rw[<-hq.out] at hlk;clear hv hcell hcap;cases q with
  | true =>
   have HRS2:Hid (RcS L F sl td'):=HRS.out.old (of_decide_eq_true hq.out.symm);have HBD2:Hid (nq<=F.length+16*sl.length):=by have:=HBD.out;rw[Hid];omega
   go_wp2;go_roundw
   case rel=>exact⟨_,nq,c,sl,td',rfl,HNQ,by omega,HPOP,HM,HRS2,HBD2,HX⟩
   case measure=>simp;omega
  | false =>
   have hxs:x ∉ sl:=of_decide_eq_false hq.out.symm;have HRS2:Hid (RcS L F (sl ++ [x]) (td' ++ vw L x)):=HRS.out.new HO.out hxs;obtain⟨w4,hmu,M4,C4⟩:=J4 q0J HM.out x (.bool true);rw[q0T hxs] at M4;rw[<-HXV.out] at hmu
   have hgg:gt≠gm:=by
    intro e;obtain⟨es,k9,h1,-⟩:=HM.out
    rcases HG.out.2.2 with ⟨h2,-⟩|⟨g9,cap9,cur9,h2,-,h3,-⟩
    ·cases h2
    ·obtain⟨h4,-,-⟩:=Value.slice.inj h2;injection h4 with h4
     injection h4 with h4
     rw[<-h4,e,h1] at h3;cases h3
   have HP4:Hid (qB 9 w.heap.size w4 (.slice (some ⟨gt,0,none⟩) nq c) (td'.map sV)):=HPOP.out.far C4 (fun k9 hk9=>by
    have:gt=k9:=by simpa[Value.ownBlock] using hk9
    omega)
   have HX4:Hid (Ext w w4):=C4.ext HX.out (by rw[hgm.out];exact q_r);have HM4:=q_h M4;obtain⟨j,hj,hjx⟩:=(HRS.out.s2 x (by simp)).1;have HLK:Hid (vw L x=(L.getD j default).links):=by rw[Hid,<-hjx];exact HO.out.lnk hj
   have HI4:=q_h (HI.out.ext HX4.out);obtain⟨go,off,C1,m1,e1,C2,m2,e2,hAv,k0,-,hsu,-⟩:=HI.out.obs.atU hj;subst hAv;have hm1:m1=(L.getD j default).links.length:=qZ.atN hsu.1;have HSU:=q_h hsu.1
   have HLJ:Hid (∀w',Ext w w'->(Instr.lookup 97 (.map (some g)) (.string X) false).run Tryz.prog w'=.ok (.int .i64 (j:Int)) w'):=fun w' e=>by
    rw[HXV.out];exact YP (HI.out.mp.ext e) (by rw[<-hjx];exact HO.out.idx hj)
   have b4:w.cell? ⟨b,4,none⟩=some (.slice (some ⟨go,off,none⟩) nl cv):=(qj HI.out.blk 4).trans rfl;have b6:w.cell? ⟨b,6,none⟩=some (.map (some g)):=(qj HI.out.blk 6).trans rfl;have hji:(j:Int)<(nl:Int):=by have:=hnl.out;omega
   have HC0:Hid (Ext w4 w4.drew):=(Ext.refl w4).drew;have HXD:Hid (Ext w w4.drew):=HX4.out.trans HC0.out;have HM1:Hid (m1<=16):=by rw[Hid,hm1];exact HK.out j hj
   have HML:Hid (m1=(L.getD j default).links.length):=hm1;have HTL:Hid ((td' ++ vw L x).map sV=td'.map sV++(L.getD j default).links.map sV):=by rw[Hid,List.map_append,HLK.out]
   have HLL:Hid ((td' ++ vw L x).length=nq+m1):=by rw[Hid,List.length_append,HLK.out,HNQ.out,HML.out]
   have HSL:Hid ((sl ++ [x]).length<=L.length/\(sl ++ [x]).length=sl.length+1):=⟨HRS2.out.len,by simp⟩
   have HSZ:Hid (Kr wr gm=sl.length):=by rw[Hid,HM.out.size];unfold mpB;rw[List.length_map]
   clear hsu hm1 C4 M4;go_upto_region 8 with (fail);clear hmu hlk c0;have eC:=And.intro (HXD.out.cell b4) (And.intro (HXD.out.cell b6) (And.intro (HXD.out.cell k0) (HLJ.out _ HXD.out)));refine ql (fun w'=>w'.cell? ⟨b,4,none⟩=some (.slice (some ⟨go,off,none⟩) nl cv)/\w'.cell? ⟨b,6,none⟩=some (.map (some g))/\w'.cell? ⟨go,off+j*2,none⟩=some (.slice C1 m1 e1)/\(Instr.lookup 97 (.map (some g)) (.string X) false).run Tryz.prog w'=.ok (.int .i64 (j:Int)) w') [] (by kernel_rfl) (by exact eC) (fun hHeld=>?_);refine sP 0 (h:=?_);refine sP 1 (h:=?_);refine sP 2 (h:=?_);refine sP 3 (h:=?_);refine sP 4 (h:=?_);refine sT 5 (hy:=by (intro w9 hSw;have c9:=hSw.1;go_simp;(try (rw[if_pos (by omega)]));(try with_reducible rfl))) (h:=?_);refine sP 6 (h:=?_);refine sP 7 (h:=?_);refine sP 8 (h:=?_);refine sT 9 (hy:=by (intro w9 hSw;have c9:=hSw.2.1;go_simp;(try (rw[if_pos (by omega)]));(try with_reducible rfl))) (h:=?_);refine sP 10 (h:=?_);refine qg (i:=11) rfl (by kernel_rfl) (fun K hK=>?_);go_simp;clear hHeld;refine hK.out _ _ (by exact eC) fun hHeld=>?_
   clear hK K;try simp only[nr]
   refine sP 12 (h:=?_);refine sP 13 (h:=?_);refine sT 14 (hy:=by (intro w9 hSw;have c9:=hSw.2.2.1;go_simp;(try (rw[if_pos (by omega)]));(try with_reducible rfl))) (h:=?_);refine qg (i:=15) rfl (by kernel_rfl) (fun K hK=>?_);refine jQ xW rfl _ _ 26 Tryz.underlying26 rfl (by rfl) (HP4.out.ext HC0.out) (by rfl) (news:=(L.getD j default).links.map sV) (by rw[List.length_map];exact HML.out.symm) (qZ.news (HSU.out.ext HXD.out) HML.out) (QS _) (by have:=HM1.out;have:=HNQ.out;simp;omega) ?_;rintro v5 w5 ⟨hG5,-,g5,hg5,hw5,C5⟩;obtain⟨A5,c5,hv5,-⟩:=hG5.form;have HG5:=q_h hG5;have HX5:Hid (Ext w w5):=C5.ext HXD.out hg5
   have hg5m:g5≠gm:=by
    rintro rfl
    rcases hw5 with h|h
    ·have:gt=g5:=by simpa[Value.ownBlock] using h
     exact hgg this
    ·have h1:=HM4.out.lt;have h2:w4.heap.size<=g5:=h;omega
   have HM5:Hid (MpS w5 gm (mpB (sl ++ [x]))):=(HM4.out.ext HC0.out).chg C5 (by omega);replace eC:=And.intro (HX5.out.cell b4) (And.intro (HX5.out.cell b6) (And.intro (HX5.out.cell k0) (HLJ.out _ HX5.out)))
   have hl5:((td'.map sV)++(L.getD j default).links.map sV).length=nq+m1:=by
    rw[List.length_append,List.length_map,List.length_map,HNQ.out,HML.out]
   rw[hl5] at hv5;subst hv5;clear hG5 hw5 C5 hl5;clear hHeld;refine hK.out _ _ (by exact eC) fun hHeld=>?_
   clear hK K;try simp only[nr]
   refine sP 16 (h:=?_);refine qm (by kernel_rfl) ?_ _;clear hHeld;rw[<-HTL.out] at HG5;clear eC b4 b6 k0;go_wp2;go_roundw
   case rel=>exact⟨_,nq+m1,c5,sl ++ [x],td' ++ vw L x,rfl,HLL.out.symm,by have:=HM1.out;have:=HBD.out;have:=HSL.out;have:=HFL.out;have:=HL.out;omega,HG5,HM5,HRS2,by have:=HBD.out;have:=HSL.out;have:=HM1.out;rw[Hid];omega,HX5⟩
   case measure =>
    have h1:Kr w5 gm=sl.length+1:=by
     rw[HM5.out.size];unfold mpB
     simp
    have:=HSZ.out;have:=HSL.out;have:=HM1.out;simp only[h1];omega
theorem Wx {s:Shf}(h:qE s=true):∀j,j<s.objs.length->(s.objs.getD j default).links.length<=16:=fun j hj=>by
 unfold qE at h;rw[Bool.and_eq_true,Bool.and_eq_true] at h;have h1:=Z5 h.2.1 j hj;unfold jy at h1;rw[Bool.and_eq_true] at h1;have h2:obC (s.objs.getD j default)=0:=by simpa using h1.1
 unfold obC at h2
 by_cases h3:16<(s.objs.getD j default).links.length\/1024<(s.objs.getD j default).data.length
 ·rw[if_pos h3] at h2;cases h2
 ·omega
open Go.Sort in
theorem WL{l:List Byt}(h:qB 9 base w (.slice (some ⟨g,0,none⟩) n c) (l.map sV)) (hn:n=l.length) (h0:0<n) (hl:n<=1000000) :
  Calls Tryz.prog 29 #[.slice (some ⟨g,0,none⟩) n c] w (fun e w'=>e=.returned (.tuple #[])/\qZ w' (.slice (some ⟨g,0,none⟩) n c) (Qk l)/\w.grownBy w' (some g)):=by
 subst hn;obtain⟨g9,cap,hv,-,hlt,hcm,hcap,⟨cs,hcs,-⟩,hcell⟩:=h.at_ (by rw[List.length_map];exact h0);rw[List.length_map] at hv hcap;obtain⟨e1,-,e3⟩:=Value.slice.inj hv;injection e1 with e1
 injection e1 with e1
 subst e1 e3
 have hH:Holds encStr w g 0 l.toArray:=fun j hj=>by
  have hj':j<l.length:=by simpa using hj
  refine⟨?_,qp hcs _⟩;rw[Nat.zero_add,hcell j (by rw[List.length_map];exact hj'),List.getElem_map];have h1:l.toArray[j]! = l[j]:=by simp[hj']
  rw[h1]
  rfl
 have hcon:=Any.slices_Sort_string Xl g 0 c l w hH hlt (by omega);refine Calls.mono hcon ?_;rintro e w' ⟨rfl,q,os,rfl⟩;have hsl:(Qk l).length=l.length:=XV l;have hP:=holds_putRow encStr (Sort.ahead w q) g 0 l.toArray (Qk l).toArray hH (by simpa using hsl);have hg2:g<(putRow encStr (Sort.ahead w q) g 0 (Qk l).toArray).heap.size:=by simpa[Sort.ahead] using hlt
 refine⟨rfl,⟨_,c,by rw[hsl],by rw[hsl];exact hcap,hcm,fun _=>⟨g,0,rfl,fun i hi=>⟨_,?_,rfl⟩⟩⟩,grownBy_sorted _⟩;have h7:=(hP i (by simpa using hi)).1
 show (grow (putRow encStr (Sort.ahead w q) g 0 (Qk l).toArray) os).cell? ⟨g,0+i,none⟩=some (sV ((Qk l).getD i []))
 rw[World.cell?_of_block (w:=putRow encStr (Sort.ahead w q) g 0 (Qk l).toArray) (heap_grow_old _ _ hg2)];refine h7.trans ?_;rw[List.getD_eq_getElem?_getD,List.getElem?_eq_getElem hi];have h1:(Qk l).toArray[i]! = (Qk l)[i]:=by simp[hi]
 rw[h1]
 rfl
def RetRR (r:List Byt×Int) (w:World) (e:Ending) (w':World):Prop:=∃v,e=.returned (.tuple #[v,.int .i64 r.2])/\qZ w' v r.1/\Ext w w'
theorem Ym {s:Shf}(h:qE s=true):∀j,j<s.objs.length->okO (s.objs.getD j default):=fun j hj=>by
 unfold qE at h;rw[Bool.and_eq_true,Bool.and_eq_true] at h;exact Qi (Z5 h.2.1 j hj)
theorem qZ.far{l:List Byt}(h:qZ w v l) (C:Chg g (g+1) w w') (hd:v.ownBlock≠some g):qZ w' v l:=by
 obtain⟨A,c,rfl,h2,h3,h4⟩:=h;refine⟨A,c,rfl,h2,h3,fun hn=>?_⟩;obtain⟨b,off,rfl,h5⟩:=h4 hn;refine⟨b,off,rfl,fun i hi=>?_⟩;obtain⟨x,h6,h7⟩:=h5 i hi;refine⟨x,C.cell h6 ?_,h7⟩;have:b≠g:=fun e=>hd (by rw[e];rfl)
 show b<g\/g+1<=b
 omega
theorem WM {p:Option Addr}{cap:Nat}:Calls Tryz.prog 29 #[.slice p 0 cap] w (fun e w'=>e=.returned (.tuple #[])/\w'=w):=Any.slices_Sort_string_none Xl p cap w
def q3b (l:List Byt) (w:World) (e:Ending) (w':World):Prop:=∃v,e=.returned v/\qZ w' v l/\Ext w w'
theorem q2I {s:Shf}{F:List Byt}{A0:Option Addr}{n0 c0:Nat}{A1 A2:Option Addr}{n1 c1 n2 c2:Nat}(hO:yJ w (.slice A1 n1 c1) s.objs) (hv:qE s=true) (hno:s.objs.length<=1000) (hF:qZ w (.slice A0 n0 c0) F) (hF0:∀q,Value.ownBlock (.slice A0 n0 c0)=some q->q<w.heap.size) (hf:F.length<=1000) :
  Calls Tryz.prog 45 #[.agg #[.int .i64 s.size,.int .i64 s.seq,.int .i64 s.half,.int .i64 s.used,.slice A1 n1 c1,.slice A2 n2 c2],.slice A0 n0 c0] w (q3b (rchS s.objs F) w):=by
 obtain⟨R,hR⟩:=qf (q3b (rchS s.objs F) w);rw[<-hR.out];obtain⟨L,hL⟩:=qf s.objs;rw[<-hL.out] at hO hno
 have HOK:Hid (∀j,j<L.length->okO (L.getD j default)/\(L.getD j default).links.length<=16):=by
  rw[hL.out];exact fun j hj=>⟨Ym hv j hj,Wx hv j hj⟩
 have HO:=q_h hO;have HNO:=q_h hno;have HF:=q_h hF;have HF0:=q_h hF0;have HFL:=q_h hf;have HSR:Hid (rchS s.objs F=Qk (JY L L.length F [])):=by rw[hL.out];rfl
 have hn1:n1=L.length:=by obtain⟨A',c',h1,-⟩:=hO;exact (Value.slice.inj h1).2.1
 obtain⟨n,hn⟩:=qf n1;have HNL:Hid (n=L.length):=by rw[Hid,hn.out,hn1]
 rw[<-hn.out] at HO ⊢;have hn9:n<=1000:=by have:=HNL.out;omega
 obtain⟨size,hsize⟩:=qf s.size;obtain⟨seq,hseq⟩:=qf s.seq;obtain⟨half,hhalf⟩:=qf s.half;obtain⟨used,hused⟩:=qf s.used;rw[<-hsize.out,<-hseq.out,<-hhalf.out,<-hused.out];clear hO hv hno hF hF0 hf hn1;go_enter Tryz.func45,Tryz.ntmps45;go_upto_region 1 with (fail);refine qo ?_;intro w1 hE hsz B0;have HX1:=q_h hE;have HB1:=q_h B0;have b4:w1.cell? ⟨w.heap.size,4,none⟩=some (.slice A1 n c1):=(qj B0 4).trans rfl;have HG1:Hid (qB 9 w1.heap.size w1 (.slice none 0 0) (([]:List Byt).map sV)):=qB.nil (q_r);have HF1:=q_h (HF.out.ext hE);have hwn:IntKind.i64.wrap ((n:Int)-1)=(n:Int)-1:=wrp (by omega) (by omega);clear hE B0;go_wp2_with fail;clear b4 hwn
 go_loopw [6,5,1] (fun iv ov fv wr=>∃(m:Nat) (z:Int) (Ao Af:Option Addr) (no co nf cf:Nat) (om fm:List Byt),m<=n/\Hid (z=(m:Int)-1)/\iv=.int .i64 z/\ov=.slice Ao no co/\fv=.slice Af nf cf/\Hid (no=om.length/\nf=fm.length)/\no+m<=n/\nf+16*m<=1000+16*n/\Hid (qB 9 w1.heap.size wr (.slice Ao no co) (om.map sV))/\Hid (qZ wr (.slice Af nf cf) fm)/\Hid (∀q,Value.ownBlock (.slice Af nf cf)=some q->q<wr.heap.size/\Value.ownBlock (.slice Ao no co)≠some q)/\Hid (JY L m fm om=JY L L.length F [])/\Hid (Ext w1 wr)) (fun iv _ _ _=>(intOf iv+1).toNat)
 case atStart=>exact⟨n,(n:Int)-1,none,A0,0,0,n0,c0,[],F,Nat.le_refl n,rfl,rfl,rfl,rfl,⟨rfl,qZ.atN HF.out⟩,by omega,by have:=HFL.out;have:=qZ.atN HF.out;omega,HG1,HF1,fun q hq=>⟨by have:=HF0.out q hq;have:=HX1.out.size;omega,fun h=>by simp[Value.ownBlock] at h⟩,by rw[Hid,HNL.out],Ext.refl w1⟩
 case round =>
  clear HG1 HF1;obtain⟨m,z,Ao,Af,no,co,nf,cf,om,fm,hmn,HZ,rfl,rfl,rfl,HLN,hno9,hnf9,HG,HFV,HD,HRC,HX⟩:=hrel
  by_cases hm:0<m
  case neg =>
   obtain rfl:z = -1:=by have:=HZ.out;omega
   have HOM:Hid (om=JY L L.length F []):=by
    have h1:=HRC.out;obtain rfl:m=0:=by omega
    exact h1
   by_cases ho0:om=[]
   ·obtain rfl:no=0:=by rw[HLN.out.1,ho0];rfl
    have HS0:Hid (qZ wr (.slice Ao 0 co) []):=by
     have h1:=HG.out;rw[ho0] at h1;exact GrS.strs (l:=[]) h1
    have HE0:Hid (rchS s.objs F=[]):=by rw[Hid,HSR.out,<-HOM.out,ho0];exact List.mergeSort_nil
    clear ho0;go_wp2_with (go_at_call 29;refine q_o ?_);refine WM.mono ?_;rintro e w8 ⟨rfl,rfl⟩;go_wp2
    first|go_ret|skip
    rw[hR.out];exact⟨_,rfl,by rw[HE0.out];exact HS0.out,HX1.out.trans HX.out⟩
   have HOL:Hid (0<om.length):=List.length_pos_iff.2 ho0;obtain⟨go,cap,hvo,hbo,-⟩:=HG.out.at_ (by rw[List.length_map];exact HOL.out);obtain⟨rfl,-,rfl⟩:=Value.slice.inj hvo;have HGO:Hid (w1.heap.size<=go):=hbo;clear hvo hbo;go_wp2_with (go_at_call 29;refine q_o ?_);refine (WL HG.out HLN.out.1 (by have:=HOL.out;have:=HLN.out;omega) (by omega)).mono ?_;rintro e w8 ⟨rfl,hS8,hg8⟩;have HS8:=q_h hS8;have HX8:Hid (Ext w w8):=HX1.out.trans (HX.out.grown hg8 (fun q hq=>by injection hq with hq;rw[<-hq];exact HGO.out));clear hS8 hg8;go_wp2
   first|go_ret|skip
   rw[hR.out];exact⟨_,rfl,by rw[HSR.out,<-HOM.out];exact HS8.out,HX8.out⟩
  obtain⟨q,rfl⟩:∃q,m=q+1:=⟨m-1,by omega⟩
  obtain rfl:z=(q:Int):=by have h1:=HZ.out;push_cast at h1;omega
  have hqn:q<n:=by omega
  have hqi:(q:Int)<(n:Int):=by omega
  have u5:decide ((0:Int)<=(q:Int))=true:=q_t (by omega);have hwq:IntKind.i64.wrap ((q:Int)-1)=(q:Int)-1:=wrp (by omega) (by omega);have b4:wr.cell? ⟨w.heap.size,4,none⟩=some (.slice A1 n c1):=(qj (HX.out.block HB1.out) 4).trans rfl;obtain⟨ga,off,rfl,hx⟩:=HO.out.at_ HNL.out (by omega);obtain⟨C1,m1,d1,C2,m2,d2,k0,k1,hobr⟩:=hx q hqn;have HXX:=q_h (HX1.out.trans HX.out);have HOB:=q_h hobr;have HOR:=q_h (hobr.ext HXX.out);have hk0:=HXX.out.cell k0;have hk1:=HXX.out.cell k1;have hql:q<L.length:=by have:=HNL.out;omega
  have HNM:Hid (Calls Tryz.prog 76 #[.agg #[.slice C1 m1 d1,.slice C2 m2 d2]] wr (qH wr (sV (qM (L.getD q default))))):=Z8 HOR.out (HOK.out q hql).1;obtain⟨X,hX⟩:=qf (bA (qM (L.getD q default)));rw[qO,<-hX.out] at HNM;have HXV:Hid (Value.string X=sV (qM (L.getD q default))):=by rw[Hid,hX.out];rfl
  have K0:=q_h k0;clear hx hobr k0 k1;go_wp2_with (go_at_call 76;refine q_o ?_);refine HNM.out.mono ?_;rintro e w5 ⟨rfl,e5⟩
  have HCN:Hid (Calls Tryz.prog 47 #[.slice Af nf cf,.string X] w5 (qH w5 (.bool (fm.contains (qM (L.getD q default)))))):=by
   rw[HXV.out];exact zT (HFV.out.ext e5) (by have:=HLN.out;omega)
  obtain⟨qc,hqc⟩:=qf (fm.contains (qM (L.getD q default)));rw[<-hqc.out] at HCN;have HX5:=q_h (HX.out.trans e5);have HG5:=q_h (HG.out.ext e5);have HFV5:=q_h (HFV.out.ext e5);have HS5:=q_h e5.size;clear e5 b4 hk0 hk1 HNM;go_wp2_with (go_at_call 47;refine q_o ?_);refine HCN.out.mono ?_;rintro e w6 ⟨rfl,e6⟩;have HX6:=q_h (HX5.out.trans e6);have HG6:=q_h (HG5.out.ext e6);have HFV6:=q_h (HFV5.out.ext e6);have HS6:Hid (wr.heap.size<=w6.heap.size):=q_l HS5.out e6.size;clear e6 HX5 HG5 HFV5 HCN;cases qc with
  | false =>
   have HRC2:Hid (JY L q fm om=JY L L.length F []):=by
    have h1:=HRC.out
    have h2:¬qM (L.getD q default)∈fm:=by
     have h3:=hqc.out;simp only[List.contains_eq_mem] at h3;exact of_decide_eq_false h3.symm
    rw[Hid,<-h1]
    show _=(if qM (L.getD q default)∈fm then _ else JY L q fm om)
    rw[if_neg h2]
   have HD2:Hid (∀q',Value.ownBlock (.slice Af nf cf)=some q'->q' < w6.heap.size/\Value.ownBlock (.slice Ao no co)≠some q'):=fun q' h=>⟨by have:=(HD.out q' h).1;have:=HS6.out;omega,(HD.out q' h).2⟩
   go_wp2;go_roundw
   case rel=>exact⟨q,(q:Int)-1,Ao,Af,no,co,nf,cf,om,fm,by omega,rfl,by go_num,rfl,rfl,HLN,by omega,by omega,HG6,HFV6,HD2,HRC2,HX6⟩
   case measure=>simp[intOf];try omega
  | true =>
   have HRC2:Hid (JY L q (fm++(L.getD q default).links) (om ++ [qM (L.getD q default)])=JY L L.length F []):=by
    have h1:=HRC.out
    have h2:qM (L.getD q default)∈fm:=by
     have h3:=hqc.out;simp only[List.contains_eq_mem] at h3;exact of_decide_eq_true h3.symm
    rw[Hid,<-h1]
    show _=(if qM (L.getD q default)∈fm then JY L q (fm++(L.getD q default).links) (om ++ [qM (L.getD q default)]) else _)
    rw[if_pos h2]
   have HXN:Hid ((om.map sV).length=no):=by rw[Hid,List.length_map];exact HLN.out.1.symm
   have HMS:Hid ((om ++ [qM (L.getD q default)]).map sV=om.map sV ++ [.string X]):=by rw[Hid,List.map_append,HXV.out];rfl
   have HD6:Hid (∀q',Value.ownBlock (.slice Af nf cf)=some q'->q' < w6.heap.size/\Value.ownBlock (.slice Ao no co)≠some q'):=fun q' h=>⟨by have:=(HD.out q' h).1;have:=HS6.out;omega,(HD.out q' h).2⟩
   go_wp2_with (at_builtin;refine q_o ?_);refine qo ?_;intro w8 e8 hsz8 BX;refine zB xW rfl _ _ 26 Tryz.underlying26 rfl (by rfl) (HG6.out.ext e8) (by rfl) (m:=1) (c:=1) (news:=[.string X]) rfl (jD BX) (fun x hx=>by rw[List.mem_singleton.1 hx];rfl) (by omega) (by rw[HXN.out];omega) ?_;rintro g9 cap9 w9 hG9 hat9 ⟨g',hg',hw9,C9,-⟩;rw[HXN.out,<-HMS.out] at hG9;rw[HXN.out];have HG9:=q_h hG9;have HX9:Hid (Ext w1 w9):=C9.ext (HX6.out.trans e8) hg'
   have hfg:Value.ownBlock (.slice Af nf cf)≠some g':=fun h=>by
    have h1:=HD6.out g' h;have h2:=e8.size
    rcases hw9 with h3|h3
    ·exact h1.2 h3
    ·omega
   have HFV9:Hid (qZ w9 (.slice Af nf cf) fm):=(HFV6.out.ext e8).far C9 hfg
   have HG9L:Hid (g9<w9.heap.size):=by
    have h1:=HG9.out.own_lt g9 rfl;exact h1.2
   clear hG9 hat9 hw9 C9 hfg e8 BX;have HCC:Hid (∀w',Ext w9 w'->Calls Tryz.prog 114 #[.slice Af nf cf] w' (q25 w' fm)):=fun w' e=>wM (HFV9.out.ext e) (by have:=HLN.out;omega)
   have p4:w9.cell? ⟨w.heap.size,4,none⟩=some (.slice (some ⟨ga,off,none⟩) n c1):=(qj (HX9.out.block HB1.out) 4).trans rfl;have k0:=(HX1.out.trans HX9.out).cell K0.out;have HSTR:Hid (qZ w9 (.slice C1 m1 d1) (L.getD q default).links):=HOB.out.1.ext (HX1.out.trans HX9.out)
   have HM1:Hid (m1=(L.getD q default).links.length/\m1<=16):=by
    have h1:=qZ.atN HSTR.out;exact⟨h1,by rw[h1];exact (HOK.out q hql).2⟩
   go_upto_region 8 with (fail);have eC:=(Ext.refl w9).drew;refine ql (fun w'=>w'.cell? ⟨w.heap.size,4,none⟩=some (.slice (some ⟨ga,off,none⟩) n c1)/\w'.cell? ⟨ga,off+q*2,none⟩=some (.slice C1 m1 d1)) [] (by kernel_rfl) (by exact⟨eC.cell p4,eC.cell k0⟩) (fun hHeld=>?_);refine sP 0 (h:=?_);refine sP 2 (h:=?_);refine sT 3 (h:=?_);refine sP 4 (h:=?_);refine sP 5 (h:=?_);refine sP 6 (h:=?_);refine sT 7 (h:=?_);refine qg (i:=1) rfl (by kernel_rfl) (fun K hK=>?_);go_simp;have hq1:=eC.size;refine (HCC.out _ eC).mono ?_;rintro e wA ⟨vA,rfl,hGA,eA⟩;obtain⟨AA,cA,rfl,-⟩:=hGA.form;rw[List.length_map,<-HLN.out.2] at hGA ⊢;replace eC:=eC.trans eA;go_wp2_with fail;clear hHeld;refine hK.out _ _ (by exact⟨eC.cell p4,eC.cell k0⟩) fun hHeld=>?_
   clear hK K;try simp only[nr]
   refine qg (i:=8) rfl (by kernel_rfl) (fun K hK=>?_);refine jQ xW rfl _ _ 26 Tryz.underlying26 rfl (by rfl) hGA (by rfl) (news:=(L.getD q default).links.map sV) (by rw[List.length_map];exact HM1.out.1.symm) (qZ.news (HSTR.out.ext eC) HM1.out.1) (QS _) (by have:=HM1.out;have:=HLN.out;simp;omega) ?_;rintro vB wB ⟨hGB,-,gB,hgB,hwB,CB⟩;obtain⟨AB,cB,hvB,-⟩:=hGB.form;have HLB:Hid (((fm.map sV)++(L.getD q default).links.map sV).length=nf+m1):=by rw[Hid,List.length_append,List.length_map,List.length_map,<-HLN.out.2,<-HM1.out.1]
   rw[HLB.out] at hvB;subst hvB
   have HGB:Hid (GrS w9.heap.size wB (.slice AB (nf+m1) cB) (fm++(L.getD q default).links)):=by
    have h1:qB 9 w9.heap.size wB (.slice AB (nf+m1) cB) (fm.map sV++(L.getD q default).links.map sV):=qB.low hGB hq1;rw[Hid];unfold GrS;rw[List.map_append];exact h1
   clear hGB hwB hGA;replace eC:=CB.ext eC (by omega);clear hHeld;refine hK.out _ _ (by exact⟨eC.cell p4,eC.cell k0⟩) fun hHeld=>?_
   clear hK K;try simp only[nr]
   refine sP 9 (h:=?_);refine qm (by kernel_rfl) ?_ _;clear hHeld;have HGF:=q_h (HG9.out.ext eC);have HXF:=q_h (HX9.out.trans eC)
   have HLN2:Hid (no+1=(om ++ [qM (L.getD q default)]).length/\nf+m1=(fm++(L.getD q default).links).length):=by
    refine⟨?_,?_⟩
    ·rw[List.length_append,HLN.out.1];rfl
    ·rw[List.length_append,HLN.out.2,HM1.out.1]
   have HDF:Hid (∀q',Value.ownBlock (.slice AB (nf+m1) cB)=some q'->q' < wB.heap.size/\Value.ownBlock (.slice (some ⟨g9,0,none⟩) (no+1) cap9)≠some q'):=fun q' h=>by
    have h1:=HGB.out.own_lt q' h;refine⟨h1.2,fun h2=>?_⟩;have h3:g9=q':=by simpa[Value.ownBlock] using h2
    have:=HG9L.out;omega
   have HBN:Hid (nf+m1+16*q<=1000+16*n):=by have:=HM1.out.2;rw[Hid];omega
   clear eC p4 k0 CB;go_wp2;go_roundw
   case rel=>exact⟨q,(q:Int)-1,some ⟨g9,0,none⟩,AB,no+1,cap9,nf+m1,cB,om ++ [qM (L.getD q default)],fm++(L.getD q default).links,by omega,rfl,by go_num,rfl,rfl,HLN2,by omega,HBN.out,HGF,HGB.out.strs,HDF,HRC2,HXF⟩
   case measure=>simp[intOf];try omega
end
end Go.Proofs.YtdeeekdbhhenpaaGreatDoor
