import Derived.Test.YtdeeekdbhhenpaaGreatDoorWc11
import Derived.Maps.Range
import Derived.Shelf.Sort.Plain
import Derived.Sort.OwnSorted
set_option linter.all false
set_option maxHeartbeats 8000000
set_option maxRecDepth 100000
namespace Go.Proofs.YtdeeekdbhhenpaaGreatDoor
variable {w w':World} {n k g m base c b j d:Nat} {v:Value} {z:Int} {A:Option Addr}
section
open Go.RowKit
theorem QK {W0:World}{z:Shf}{o:Ob}(ht:zu W0) (ha:xJ (xy z) o=true) (hn:z.objs.length<=999):YT W0 z (obE o) { z with objs:=z.objs ++ [o] }:=by
 intro w gb gm av A n c hX hI hby hlen;have hoc:okO o:=wW ha;have hfit:=(hoc.fits 0 (by omega) (by omega)).1;obtain⟨hf1,hf2,hf3,-⟩:=hfit;obtain⟨R,hR⟩:=qc (fun (e:Ending) (w':World)=>e=.returned (.bool true)/\IxT W0.heap.size gb gm av { z with objs:=z.objs ++ [o] } w'/\w'.heap[av]?=w.heap[av]?/\Ext W0 w');rw[<-hR.out];have HDE:Hid (Calls Tryz.prog 184 #[.slice A n c] w (Y4 (.lst [.int 0,wH o,.txt o.data]) w)):=Ko hby hf1 hf2 (ht.ext hX) hf3;have HX:=q_h hX;have HI:=q_h hI;have HT:=q_h ht;have HA:=q_h ha;have HOC:=q_h hoc;have HN9:=q_h hn;clear hX hI hby hlen ht ha hoc hf1 hf2 hf3 hn;go_enter Tryz.func145,Tryz.ntmps145;go_wp2_with (go_at_call 184;refine q_o ?_);refine HDE.out.mono ?_;rintro e w1 ⟨v1,rfl,hv1,e1⟩;obtain⟨g,off,k,b0,A0,n0,c0,A1,k1,q,k2,rfl,hk3,hc0,hc1,hc2,hI0,hL1,hT2⟩:=hv1.obj;obtain⟨A1',k1',hv',hlk,hLK⟩:=hL1.txts;injection hv' with hv'
 injection hv' with hv'
 simp only[List.cons.injEq,and_true,true_and,Value.slice.injEq] at hv';obtain⟨rfl,rfl⟩:=hv';have HX1:=q_h (HX.out.trans e1);have HE1:=q_h e1;have HC0:=q_h hc0;have HC1:=q_h hc1;have HC2:=q_h hc2;have HI0:=q_h hI0;have HLK:=q_h hLK;have HT2:=q_h hT2;obtain⟨nl,hnl⟩:=qc o.links.length;obtain⟨nd,hnd⟩:=qc o.data.length;rw[<-hnl.out] at HC1 HLK hlk;rw[<-hnd.out] at HC2 HT2;clear hv1 hc0 hc1 hc2 hI0 hL1 hLK hT2 HDE e1;go_upto_region 2 with (fail);refine qo ?_;intro w2 e2 hsz2 B2;obtain⟨gt,hgt⟩:=qc w1.heap.size;rw[<-hgt.out] at B2 ⊢;have HB2:=q_h B2;have HE2:=q_h (HE1.out.trans e2);obtain⟨x0,x1,x2,x3,x4⟩:=qC B2;obtain⟨a0,a1,a2,a3,a4⟩:=HC0.out;replace a0:=e2.cell a0;replace a1:=e2.cell a1;replace a2:=e2.cell a2;obtain⟨m0,m1,m2,m3,m4⟩:=HC2.out;replace m0:=e2.cell m0;have HE12:=q_h e2;clear e2 B2;have y1:(3:Int)<=(k:Int):=by omega
 have HSM:Hid (∀w',Ext w1 w'->Calls Tryz.prog 185 #[.agg #[.bool b0,.slice A0 n0 c0]] w' (qR w' (.tuple #[.int .i64 0,.bool true]))):=fun w' e=>Jq (HI0.out.ext e) (by decide)
 go_wp2_with (go_at_call 185;refine q_o ?_);refine (HSM.out _ HE12.out).mono ?_;rintro e w3 ⟨rfl,e3⟩;have HE3:=q_h (HE2.out.trans e3);have HE13:=q_h (HE12.out.trans e3);have HB3:=q_h (e3.block HB2.out);clear e3 x0 x1 x2 x3 x4 a0 a1 a2 a3 a4 m0 m1 m2 m3 m4 HE2 HE12 HB2;obtain⟨x0,x1,x2,x3,x4⟩:=qC HB3.out;obtain⟨l0,l1,l2,l3,l4⟩:=HC1.out;replace l0:=HE13.out.cell l0;replace l1:=HE13.out.cell l1;replace l2:=HE13.out.cell l2;replace l3:=HE13.out.cell l3;replace l4:=HE13.out.cell l4;obtain⟨m0,m1,m2,m3,m4⟩:=HC2.out;replace m0:=HE13.out.cell m0;replace m1:=HE13.out.cell m1;replace m2:=HE13.out.cell m2;replace m3:=HE13.out.cell m3;replace m4:=HE13.out.cell m4;go_upto_region 5 with (fail)
 go_cut [9,10] (fun pv pw wx=>∃q9 q10,pv=.pointer (some ⟨q9,0,none⟩)/\pw=.pointer (some ⟨q10,0,none⟩)/\w3.heap.size<=q9/\w3.heap.size<=q10/\Hid (wx.heap[q9]?=some (.cells #[.int .i64 2,.bool false,.slice none 0 0,.slice none 0 0,.slice A1 nl k1] 117 (0,0)))/\Hid (wx.heap[q10]?=some (.cells #[.int .i64 1,.bool false,.slice none 0 0,.slice (some ⟨q,0,none⟩) nd k2,.slice none 0 0] 117 (0,0)))/\Hid (Ext w3 wx))
 case first =>
  have eC:=(Ext.refl w3).drew;refine qj (fun w'=>w'.cell? ⟨gt,4,none⟩=some (.slice (some ⟨g,off,none⟩) 3 k)/\w'.cell? ⟨g,off+5,none⟩=some (.int .i64 2)/\w'.cell? ⟨g,off+6,none⟩=some (.bool false)/\w'.cell? ⟨g,off+7,none⟩=some (.slice none 0 0)/\w'.cell? ⟨g,off+8,none⟩=some (.slice none 0 0)/\w'.cell? ⟨g,off+9,none⟩=some (.slice A1 nl k1)/\w'.cell? ⟨g,off+10,none⟩=some (.int .i64 1)/\w'.cell? ⟨g,off+11,none⟩=some (.bool false)/\w'.cell? ⟨g,off+12,none⟩=some (.slice none 0 0)/\w'.cell? ⟨g,off+13,none⟩=some (.slice (some ⟨q,0,none⟩) nd k2)/\w'.cell? ⟨g,off+14,none⟩=some (.slice none 0 0)) [] (by kernel_rfl) (by exact⟨eC.cell x4,eC.cell l0,eC.cell l1,eC.cell l2,eC.cell l3,eC.cell l4,eC.cell m0,eC.cell m1,eC.cell m2,eC.cell m3,eC.cell m4⟩) (fun hHeld=>?_);refine sP 0 (h:=?_);refine sT 1 (h:=?_);refine sP 2 (h:=?_);refine sT 3 (h:=?_);refine sP 4 (h:=?_);refine sT 5 (h:=?_);refine sP 6 (h:=?_);refine sT 7 (h:=?_);refine jA (i:=8) (j:=9) rfl rfl (by kernel_rfl) (fun K hK=>?_) (fun K hK=>?_)
  focus
   go_simp
   first|refine qo ?_|refine qU ?_
   intro wa ea hsza BA;have hTa:=eC.size;try replace BB:=ea.block BB
   replace eC:Ext w3 wa:=by first|exact eC.trans ea|exact ea
   clear ea;clear hHeld;refine hK.out _ _ (by exact⟨eC.cell x4,eC.cell l0,eC.cell l1,eC.cell l2,eC.cell l3,eC.cell l4,eC.cell m0,eC.cell m1,eC.cell m2,eC.cell m3,eC.cell m4⟩) fun hHeld=>?_
   clear hK K;try simp only[nr]
   refine qg (i:=9) rfl (by kernel_rfl) (fun K hK=>?_);go_simp
   first|refine qo ?_|refine qU ?_
   intro wb eb hszb BB;have hTb:=eC.size;try replace BA:=eb.block BA
   replace eC:Ext w3 wb:=by first|exact eC.trans eb|exact eb
   clear eb;clear hHeld;refine hK.out _ _ (by exact⟨eC.cell x4,eC.cell l0,eC.cell l1,eC.cell l2,eC.cell l3,eC.cell l4,eC.cell m0,eC.cell m1,eC.cell m2,eC.cell m3,eC.cell m4⟩) fun hHeld=>?_
   clear hK K;try simp only[nr]
   refine qg (i:=10) rfl (by kernel_rfl) (fun K hK=>?_);refine qB rfl 117 _ _ rfl (by rfl) (by rfl) BA kE (by rfl) (by rfl) (by rfl) ?_;intro w10 B10 U10;have C10:=U10.chg (NoU.mk BA (by decide));replace eC:=C10.ext eC (by omega);replace BB:=(U10.block _ (by omega)).trans BB;clear U10 C10 BA;clear hHeld;refine hK.out _ _ (by exact⟨eC.cell x4,eC.cell l0,eC.cell l1,eC.cell l2,eC.cell l3,eC.cell l4,eC.cell m0,eC.cell m1,eC.cell m2,eC.cell m3,eC.cell m4⟩) fun hHeld=>?_
   clear hK K;try simp only[nr]
   refine qg (i:=11) rfl (by kernel_rfl) (fun K hK=>?_);refine qB rfl 117 _ _ rfl (by rfl) (by rfl) BB kE (by rfl) (by rfl) (by rfl) ?_;intro w11 B11 U11;have C11:=U11.chg (NoU.mk BB (by decide));replace eC:=C11.ext eC (by omega);replace B10:=(U11.block _ (by omega)).trans B10;clear U11 C11 BB;clear hHeld;refine hK.out _ _ (by exact⟨eC.cell x4,eC.cell l0,eC.cell l1,eC.cell l2,eC.cell l3,eC.cell l4,eC.cell m0,eC.cell m1,eC.cell m2,eC.cell m3,eC.cell m4⟩) fun hHeld=>?_
   clear hK K;try simp only[nr]
  rotate_left 1
  focus
   go_simp
   first|refine qo ?_|refine qU ?_
   intro wb eb hszb BB;have hTb:=eC.size;try replace BA:=eb.block BA
   replace eC:Ext w3 wb:=by first|exact eC.trans eb|exact eb
   clear eb;clear hHeld;refine hK.out _ _ (by exact⟨eC.cell x4,eC.cell l0,eC.cell l1,eC.cell l2,eC.cell l3,eC.cell l4,eC.cell m0,eC.cell m1,eC.cell m2,eC.cell m3,eC.cell m4⟩) fun hHeld=>?_
   clear hK K;try simp only[nr]
   refine qg (i:=8) rfl (by kernel_rfl) (fun K hK=>?_);go_simp
   first|refine qo ?_|refine qU ?_
   intro wa ea hsza BA;have hTa:=eC.size;try replace BB:=ea.block BB
   replace eC:Ext w3 wa:=by first|exact eC.trans ea|exact ea
   clear ea;clear hHeld;refine hK.out _ _ (by exact⟨eC.cell x4,eC.cell l0,eC.cell l1,eC.cell l2,eC.cell l3,eC.cell l4,eC.cell m0,eC.cell m1,eC.cell m2,eC.cell m3,eC.cell m4⟩) fun hHeld=>?_
   clear hK K;try simp only[nr]
   refine qg (i:=10) rfl (by kernel_rfl) (fun K hK=>?_);refine qB rfl 117 _ _ rfl (by rfl) (by rfl) BA kE (by rfl) (by rfl) (by rfl) ?_;intro w10 B10 U10;have C10:=U10.chg (NoU.mk BA (by decide));replace eC:=C10.ext eC (by omega);replace BB:=(U10.block _ (by omega)).trans BB;clear U10 C10 BA;clear hHeld;refine hK.out _ _ (by exact⟨eC.cell x4,eC.cell l0,eC.cell l1,eC.cell l2,eC.cell l3,eC.cell l4,eC.cell m0,eC.cell m1,eC.cell m2,eC.cell m3,eC.cell m4⟩) fun hHeld=>?_
   clear hK K;try simp only[nr]
   refine qg (i:=11) rfl (by kernel_rfl) (fun K hK=>?_);refine qB rfl 117 _ _ rfl (by rfl) (by rfl) BB kE (by rfl) (by rfl) (by rfl) ?_;intro w11 B11 U11;have C11:=U11.chg (NoU.mk BB (by decide));replace eC:=C11.ext eC (by omega);replace B10:=(U11.block _ (by omega)).trans B10;clear U11 C11 BB;clear hHeld;refine hK.out _ _ (by exact⟨eC.cell x4,eC.cell l0,eC.cell l1,eC.cell l2,eC.cell l3,eC.cell l4,eC.cell m0,eC.cell m1,eC.cell m2,eC.cell m3,eC.cell m4⟩) fun hHeld=>?_
   clear hK K;try simp only[nr]
  rotate_left 1
  all_goals
   refine ql (by kernel_rfl) ?_ _;clear hHeld
  all_goals
   go_wp2_with fail
   go_meet
   exact⟨_,_,rfl,rfl,by omega,by omega,B10,B11,eC⟩
 obtain⟨q9,q10,rfl,rfl,hq9,hq10,HB9,HB10,hcE⟩:=hcut;obtain⟨w4,hw4⟩:∃w4,w4=wc:=⟨_,rfl⟩
 subst hw4;have HX4:=q_h (HE3.out.trans hcE.out);have HE14:=q_h (HE13.out.trans hcE.out);clear hcE HE3 HE13 HB3 HC0 HC1 HC2 HSM HI0 x0 x1 x2 x3 x4 l0 l1 l2 l3 l4 m0 m1 m2 m3 m4;obtain⟨x0,x1,x2,x3,x4⟩:=qC HB9.out;obtain⟨u0,u1,u2,u3,u4⟩:=qC HB10.out;go_upto_region 11 with (fail);refine qo ?_;intro w5 e5 hsz5 B5;obtain⟨gq,hgq⟩:=qc w4.heap.size;rw[<-hgq.out] at B5 ⊢;have HQ5:=q_h B5;have HE5:=q_h e5;have HB95:=q_h (e5.block HB9.out);have HG5:Hid (GrS (gq+1) w5 (.slice none (0:Nat) 0) (o.links.take 0)):=qw.nil (by have:=hgq.out;omega);clear e5 B5 x0 x1 x2 x3 x4 u0 u1 u2 u3 u4 HB9 HB10;obtain⟨x0,x1,x2,x3,x4⟩:=qC HB95.out;go_wp2_with fail;clear x0 x1 x2 x3 x4
 go_loopw [101] (fun iv wr=>∃(i:Nat) (A:Option Addr) (c:Nat),i<=nl/\iv=.int .i64 (i:Int)/\Hid (wr.heap[gq]?=some (.cells #[.slice A i c,.slice (some ⟨q,0,none⟩) nd k2] 29 (0,0)))/\Hid (GrS (gq+1) wr (.slice A i c) (o.links.take i))/\Hid (Ext w4 wr)) (fun iv _=>nl-(intOf iv).toNat)
 case atStart=>exact⟨0,none,0,Nat.zero_le _,rfl,HQ5,HG5,HE5⟩
 case round =>
  clear HQ5 HG5 HE5 HB95;obtain⟨i,A9,c9,hi9,rfl,HQ,HG,HE⟩:=hrel;obtain⟨wq,hwq⟩:∃wq,wq=wr:=⟨_,rfl⟩
  subst hwq
  by_cases hlt:i<nl
  ·have u5:decide ((i:Int)<(nl:Int))=true:=q_t (by omega);have u6:(i:Int)<(nl:Int):=by omega
   obtain⟨gl,ol,rfl,hlx⟩:=HLK.out (by omega);obtain⟨qi,ki,l0,l1,l2,l3,l4,hbi⟩:=hlx i (by omega);have HEq:=q_h (HE14.out.trans HE.out);replace l0:=HEq.out.cell l0;replace l1:=HEq.out.cell l1;replace l2:=HEq.out.cell l2;replace l3:=HEq.out.cell l3;replace l4:=HEq.out.cell l4;have HBI:=q_h (hbi.ext HEq.out);obtain⟨li,hli⟩:=qc (o.links.getD i []).length;rw[<-hli.out] at l3 HBI;clear hlx hbi;go_upto_region 14 with (fail);refine qo ?_;intro w6 e6 hsz6 B6;have HT6:=q_h B6;have HQ6:=q_h (e6.block HQ.out);have HG6:Hid (GrS (gq+1) w6 (.slice A9 i c9) (o.links.take i)):=qw.ext HG.out e6;have HE6:=q_h (HE.out.trans e6);obtain⟨sb,hsb⟩:=qc (bA (o.links.getD i []))
   have hcv:(convert 27 9 (.slice (some ⟨qi,0,none⟩) li ki)).run Tryz.prog w6=.ok (.string sb) w6:=by
    rw[hsb.out,<-kH];exact zT (HBI.out.ext e6)
   clear e6 B6 l0 l1 l2 l3 l4 HQ HG HE HEq HBI;obtain⟨x0,x1,x2,x3,x4⟩:=qC HT6.out;obtain⟨p0,p1,-⟩:=cells2 HQ6.out;go_wp2_with (at_builtin;refine q_o ?_);refine qo ?_;intro w7 e7 hsz7 BX;have hxl:((o.links.take i).map sV).length=i:=by rw[List.length_map,List.length_take];have:=hnl.out;omega
   have hn9:i<=1000000:=by have:=hnl.out;have:=HOC.out.1;omega
   refine jh wC rfl _ _ 26 Tryz.underlying26 rfl (by rfl) (qw.ext HG6.out e7) (by rfl) (m:=1) (c:=1) rfl (wE BX) (by simp[Value.oneCell']) (by omega) (by omega) ?_;rintro g9 cap9 w9 hG9 hw9 ⟨g',hg',hw9',C9,-⟩;rw[hxl] at hG9 ⊢;have HQ9:=q_h (C9.blk (e7.block HQ6.out) (.inl (by omega)));have HE9:Hid (Ext w4 w9):=C9.ext (HE6.out.trans e7) (by have:=hgq.out;omega)
   have HG9:Hid (GrS (gq+1) w9 (.slice (some ⟨g9,0,none⟩) (i+1) cap9) (o.links.take (i+1))):=by
    have e1:(o.links.take (i+1)).map sV=(o.links.take i).map sV ++ [.string sb]:=by
     rw[take_snoc o.links [] (by have:=hnl.out;omega),List.map_append,hsb.out,<-kH]
     rfl
    rw[Hid];unfold GrS;rw[e1];exact hG9
   clear hG9 hw9 hw9' C9 BX e7 HQ6 HG6 HE6 HT6 x0 x1 x2 x3 x4 p0 p1 hcv hxl;refine wpList_plain rfl (fun K hK=>?_);go_simp;refine hK _ _ ?_;clear hK K;try simp only[nr]
   obtain⟨wa,Ea,Ba,Ua⟩:=qI HQ9.out 0 (.slice (some ⟨g9,0,none⟩) (i+1) cap9);have f4:=qm HQ9.out 0;have c4':=(qh HQ9.out 0).trans rfl;refine wpList_plain rfl (fun K hK=>?_);go_simp;try rw[Ea]
   refine hK _ _ ?_;clear hK K f4 c4' Ea;try simp only[nr]
   have HQa:Hid (wa.heap[gq]?=some (.cells #[.slice (some ⟨g9,0,none⟩) (i+1) cap9,.slice (some ⟨q,0,none⟩) nd k2] 29 (0,0))):=Ba;have Ca:=Ua.chg (NoU.mk HQ9.out (by decide));have HGa:Hid (GrS (gq+1) wa (.slice (some ⟨g9,0,none⟩) (i+1) cap9) (o.links.take (i+1))):=qy.chgT HG9.out Ca HQ9.out (by decide);have HEa:Hid (Ext w4 wa):=Ca.ext HE9.out (by have:=hgq.out;omega);clear Ba Ua Ca HQ9 HG9 HE9;go_wp2;go_roundw
   case rel=>exact⟨i+1,_,cap9,by omega,by go_num,HQa,HGa,HEa⟩
   case measure=>simp[intOf];omega
  obtain rfl:nl=i:=by omega
  have u5:decide ((nl:Int)<(nl:Int))=false:=q_f (by omega);obtain⟨p0,p1,-⟩:=cells2 HQ.out;have HXq:=q_h (HX4.out.trans HE.out)
  have HOB:Hid (ObR wq (.slice A9 nl c9) (.slice (some ⟨q,0,none⟩) nd k2) o):=by
   have h1:=HG.out.strs;rw[List.take_of_length_le (by have:=hnl.out;omega)] at h1;exact⟨h1,HT2.out.ext (HE14.out.trans HE.out)⟩
  obtain⟨⟨AO,cO,BT,dT,i1,i2,i3,i4,i5⟩,i6,i7,i8,i9,i10,i11⟩:=HI.out.ext HXq.out;have HIB:Hid (IxB W0.heap.size gb gm z.size z.seq z.half z.used (.slice AO z.objs.length cO) (.slice BT z.tags.length dT) z.objs wq):=⟨i1,i7,i8,i2,i6⟩
  have HTG:=q_h i3;have HAV:=q_h (And.intro i4 (And.intro i5 (And.intro i9 (And.intro i10 i11))));have HIH:Hid (Calls Tryz.prog 60 #[.pointer (some ⟨gb,0,none⟩),.agg #[.slice A9 nl c9,.slice (some ⟨q,0,none⟩) nd k2]] wq (Q3 W0.heap.size gb gm z.size z.seq z.half z.used (.slice AO z.objs.length cO) (.slice BT z.tags.length dT) z.objs o wq)):=jw vT HIB.out HOB.out HOC.out.ok0 (HT.out.ext (HX.out.trans HXq.out)) (by have:=HN9.out;omega);clear i1 i2 i3 i4 i5 i6 i7 i8 i9 i10 i11 HG;go_wp2_with (go_at_call 60;refine q_o ?_);refine HIH.out.mono ?_;rintro e wz (⟨rfl,h2,-⟩|⟨rfl,-,v',hI',hF,hv'⟩)
  ·exfalso
   have h3:xJ (xy z) o=false:=h2;rw[HA.out] at h3;cases h3
  ·have HI':=q_h hI';have HF:=q_h hF;have HV':=q_h hv';clear hI' hF hv';go_wp2
   first|go_ret|skip
   rw[hR.out];obtain⟨A7,c7,hv7,-⟩:=HI'.out.obs.form;have hsub:=hv7;subst hsub;have HOW:=HIB.out.obs.own_lt;have HTO:=HTG.out.own_lt;have hXz:Ext W0 wz:=HF.out.toExt (HX.out.trans HXq.out) HIB.out.hb HIB.out.hg (fun k hk=>(HOW k hk).1);have havq:wz.heap[av]?=wq.heap[av]?:=HF.out.block av HAV.out.2.2.2.2 (fun e=>HAV.out.2.2.1 e.symm) (fun e=>HAV.out.2.2.2.1 e.symm) (fun e=>HAV.out.1 av e rfl);have havw:wq.heap[av]?=w.heap[av]?:=Below.block HXq.out av HI.out.lt;refine⟨rfl,⟨⟨A7,c7,BT,dT,?_,?_,HTG.out.frm HIB.out HF.out,?_,HAV.out.2.1⟩,HI'.out.mp,HI'.out.hb,HI'.out.hg,HAV.out.2.2.1,HAV.out.2.2.2.1,Nat.lt_of_lt_of_le HAV.out.2.2.2.2 HF.out.size⟩,havq.trans havw,hXz⟩
   ·exact HI'.out.blk
   ·exact HI'.out.obs
   ·intro k hk e
    rcases HV'.out k hk with h9|h9
    ·exact HAV.out.1 k h9 e
    ·have:=HAV.out.2.2.2.2;omega
def o0:Ob:=⟨[],[]⟩
def pg0:List Byt:=(List.range 8).map Yt
def lp0:Byt:=pgE (obE o0) 0
def s00:Shf:=⟨8,0,0,0,[],[]⟩
def s10:Shf:=⟨8,1,0,1,[],[]⟩
def s11:Shf:=⟨8,1,0,1,[o0],[]⟩
def ac1:List qM:=[⟨2,lp0,false⟩,⟨0,[],true⟩,⟨1,xB 1 0 1,false⟩,⟨0,[],true⟩]
theorem pgn0:pgN (obE o0)=1:=by decide +kernel
theorem app0:XC s00 (obE o0)=some (s10,ac1):=by
 unfold XC;rw[if_neg (by rw[pgn0];decide)]
 show some (({ s00 with used:=0+(pgN (obE o0):Int),seq:=0+1 }:Shf),wrA (obE o0) 2++comA ({ s00 with used:=0+(pgN (obE o0):Int),seq:=0+1 }:Shf))=_
 unfold wrA;rw[pgn0]
 rfl
theorem put0:yA s00 o0=(s11,ac1,qK o0,0):=by
 unfold yA;rw[if_neg (by decide +kernel),if_neg (by decide)];rw[show xy s00=[] from rfl,List.idxOf?_nil]
 dsimp only
 rw[if_neg (by simp[o0]),app0]
 rfl
theorem perf0:zL ⟨pg0,[],3,false⟩ ac1=(⟨pg0.set 2 lp0,[⟨1,xB 1 0 1,false⟩],0,true⟩,16):=rfl
theorem Yx:xR ⟨pg0.set 2 lp0,[⟨1,xB 1 0 1,false⟩],0,true⟩ [true]=⟨(pg0.set 2 lp0).set 1 (xB 1 0 1),[],-1,false⟩:=rfl
theorem Yy:xR ⟨pg0.set 2 lp0,[⟨1,xB 1 0 1,false⟩],0,true⟩ [false]=⟨pg0.set 2 lp0,[],-1,false⟩:=rfl
def YC (S:List Byt) (s:Shf):Bool:=(qH S 2).1&&(decide ((qH S 2).2.size=s.size)&&(decide ((qH S 2).2.seq=s.seq)&&(decide ((qH S 2).2.half=s.half)&&decide ((qH S 2).2.used=s.used))))
theorem yN {S:List Byt}{s:Shf}(h:YC S s=true) (ho:s.objs=[]) (ht:s.tags=[]):qH S 2=(true,s):=by
 unfold YC at h;simp only[Bool.and_eq_true,decide_eq_true_eq] at h;obtain⟨h1,h2,h3,h4,h5⟩:=h;have hb:=yM S 2
 generalize qH S 2=x at *
 obtain⟨f,b⟩:=x;obtain⟨b1,b2,b3,b4,b5,b6⟩:=b;obtain⟨c1,c2,c3,c4,c5,c6⟩:=s;have h6:=hb.ob;have h7:=hb.tg;simp only at h1 h2 h3 h4 h5 h6 h7 ho ht;subst h1 h2 h3 h4 h5 h6 h7 ho ht
 rfl
theorem best0:qH pg0 2=(true,s00):=yN (by decide +kernel) rfl rfl
theorem best1:qH (pg0.set 2 lp0) 2=(true,s00):=yN (by decide +kernel) rfl rfl
theorem best2:qH ((pg0.set 2 lp0).set 1 (xB 1 0 1)) 2=(true,s10):=yN (by decide +kernel) rfl rfl
theorem lenP (l:List Byt) (h:l.all (fun p=>decide (p.length=64))=true):∀i,i<l.length->(l.getD i []).length=64:=fun i hi=>by
 have:=List.all_eq_true.1 h (l.getD i []) (by rw[List.getD_eq_getElem?_getD,List.getElem?_eq_getElem hi];exact List.getElem_mem hi);simpa using this
theorem med0 (a:Int) (b:Bool):zU ⟨pg0,[],a,b⟩:=⟨(by decide +kernel:8<=(pg0).length),(by decide +kernel:(pg0).length<=4096),lenP (pg0) (by decide +kernel),rfl⟩
theorem med1 (a:Int) (b:Bool):zU ⟨pg0.set 2 lp0,[⟨1,xB 1 0 1,false⟩],a,b⟩:=⟨(by decide +kernel:8<=(pg0.set 2 lp0).length),(by decide +kernel:(pg0.set 2 lp0).length<=4096),lenP (pg0.set 2 lp0) (by decide +kernel),(by decide +kernel:([⟨1,xB 1 0 1,false⟩]:List qM).all (jU · (pg0.set 2 lp0).length)=true)⟩
theorem med2 (a:Int) (b:Bool):zU ⟨pg0.set 2 lp0,[],a,b⟩:=⟨(by decide +kernel:8<=(pg0.set 2 lp0).length),(by decide +kernel:(pg0.set 2 lp0).length<=4096),lenP (pg0.set 2 lp0) (by decide +kernel),rfl⟩
theorem med3 (a:Int) (b:Bool):zU ⟨(pg0.set 2 lp0).set 1 (xB 1 0 1),[],a,b⟩:=⟨(by decide +kernel:8<=((pg0.set 2 lp0).set 1 (xB 1 0 1)).length),(by decide +kernel:((pg0.set 2 lp0).set 1 (xB 1 0 1)).length<=4096),lenP ((pg0.set 2 lp0).set 1 (xB 1 0 1)) (by decide +kernel),rfl⟩
theorem act0:ac1.all (KN · 8)=true:=by decide +kernel
theorem log0:KL pg0 s00=[]:=rfl
theorem log1:KL (pg0.set 2 lp0) s00=[]:=rfl
theorem log2:KL ((pg0.set 2 lp0).set 1 (xB 1 0 1)) s10=[lp0]:=rfl
theorem Yi:lp0=jG (obE o0):=by
 show ((jG (obE o0)).drop 0).take 64=_
 rw[List.drop_zero,List.take_of_length_le (by rw[jb,pgn0];exact q_r)]
theorem XV (w0:World) (s:Shf) (h:s.objs=[]/\s.tags=[]):YS w0 s [] s:=by
 intro W0 w gb g A u c h0 hX hb hg hP hu hB hM;exact Zf (Es:=[]) (Z:=fun _=>s) hP hu (fun i hi=>by rw[hu] at hi;exact absurd hi (Nat.not_lt_zero i)) (by rw[hu];exact Nat.zero_le _) hX hb hg h hB hM rfl (fun i hi=>absurd hi (Nat.not_lt_zero i)) (by show s.tags.length<=_;rw[h.2];exact Nat.zero_le _)
theorem Yk (w0:World) (ht:zu w0):YS w0 s10 [lp0] s11:=by
 intro W0 w gb g A u c h0 hX hb hg hP hu hB hM;have hu1:u=1:=hu;refine Zf (Es:=[obE o0]) (Z:=fun i=>if i=0 then s10 else s11) hP hu (fun i hi=>?_) (by omega) hX hb hg ⟨rfl,rfl⟩ hB hM ?_ (fun i hi=>?_) (by show (0:Nat)<=_;omega)
 ·obtain rfl:i=0:=by omega
  show lp0.length=64
  decide +kernel
 ·show [lp0].flatten=kC [obE o0]
  unfold kC;rw[Yi]
  rfl
 ·obtain rfl:i=0:=by simpa using hi
  refine⟨(by decide +kernel:1<=(obE o0).length),(by decide +kernel:(obE o0).length<=5000),?_⟩;exact QK (z:=s10) (o:=o0) (ht.ext h0) (by decide +kernel) (by show (0:Nat)<=_;omega)
theorem PgL.pgs{P:Nat->Byt}(h:PgL base w v n P) (h64:∀j,j<n->(P j).length=64):kS w v ((List.range n).map P):=by
 obtain⟨G,h1,h2⟩:=h
 have h9:=qw.l1 h1 (fun i x=>ByV w x (((List.range n).map P).getD i [])) (fun i hi=>by
  rw[List.length_map,List.length_range] at hi
  have e1:((List.range n).map P).getD i []=P i:=by
   rw[List.getD_eq_getElem?_getD,List.getElem?_map,List.getElem?_range hi]
   rfl
  rw[e1,List.getElem_map,List.getElem_range];have h8:=(h2 i hi).2.all (c:=64) (by rw[h64 i hi];exact q_r) (by unfold maxLen;omega);rw[h64 i hi] at h8
  exact h8)
 rw[List.length_map,List.length_range] at h9;unfold kS;rw[List.length_map,List.length_range];exact h9
theorem xh{B:Option Addr}{l:Int}{b:Bool}{t:TypeId}{fr:Nat×Nat}(hb:w.heap[g]?=some (.cells #[.slice A n c,.slice B m d,.int .i64 l,.bool b] t fr)){x:Value}(h:w.cell? ⟨g,j,none⟩=some x):(j=0/\x=.slice A n c)\/(j=1/\x=.slice B m d)\/(j=2/\x=.int .i64 l)\/(j=3/\x=.bool b):=by
 rw[qh hb] at h
 have hj:j<4:=by
  rcases Nat.lt_or_ge j 4 with h4|h4
  ·exact h4
  ·rw[Array.getElem?_eq_none (by simpa using h4)] at h;cases h
 have:j=0\/j=1\/j=2\/j=3:=by omega
 rcases this with rfl|rfl|rfl|rfl
 ·exact .inl ⟨rfl,(Option.some.inj h).symm⟩
 ·exact .inr (.inl ⟨rfl,(Option.some.inj h).symm⟩)
 ·exact .inr (.inr (.inl ⟨rfl,(Option.some.inj h).symm⟩))
 ·exact .inr (.inr (.inr ⟨rfl,(Option.some.inj h).symm⟩))
theorem ByV.updM{B:Option Addr}{b:Bool}{t:TypeId}{fr:Nat×Nat}{l:Byt}(h:ByV w v l) (hb:w.heap[g]?=some (.cells #[.slice A n c,.slice B m d,.int .i64 z,.bool b] t fr)) (U:Upd g w w'):ByV w' v l:=by
 obtain⟨A',c',hv,h1,h2,h3⟩:=h;refine⟨A',c',hv,h1,h2,fun hn=>?_⟩;obtain⟨q,off,e1,h4⟩:=h3 hn;refine⟨q,off,e1,fun i hi=>U.cell (h4 i hi) ?_⟩;rintro rfl
 rcases xh hb (h4 i hi) with ⟨-,h9⟩|⟨-,h9⟩|⟨-,h9⟩|⟨-,h9⟩<;>simp at h9
theorem kS.updM{B:Option Addr}{b:Bool}{t:TypeId}{fr:Nat×Nat}{l:List Byt}(h:kS w v l) (h8:3<=l.length) (hb:w.heap[g]?=some (.cells #[.slice A n c,.slice B m d,.int .i64 z,.bool b] t fr)) (U:Upd g w w'):kS w' v l:=by
 obtain⟨A',c',hv,h1,h2,h3⟩:=h;refine⟨A',c',hv,h1,h2,fun hn=>?_⟩;obtain⟨q,off,e1,h4⟩:=h3 hn
 have hq:q≠g:=by
  rintro rfl;obtain⟨x,k1,k2⟩:=h4 2 (by omega);obtain⟨A9,c9,h9,-⟩:=ByV.form k2
  rcases xh hb k1 with ⟨h8,-⟩|⟨h8,-⟩|⟨-,h8⟩|⟨-,h8⟩
  ·omega
  ·omega
  ·rw[h8] at h9;cases h9
  ·rw[h8] at h9;cases h9
 refine⟨q,off,e1,fun i hi=>?_⟩;obtain⟨x,k1,k2⟩:=h4 i hi;exact⟨x,U.cell k1 hq,ByV.updM k2 hb U⟩
theorem qZ.updM{B:Option Addr}{b:Bool}{t:TypeId}{fr:Nat×Nat}{l:List qM}(h:qZ w v l) (hb:w.heap[g]?=some (.cells #[.slice A n c,.slice B m d,.int .i64 z,.bool b] t fr)) (U:Upd g w w'):qZ w' v l:=by
 obtain⟨A',c',hv,h1,h2,h3⟩:=h;refine⟨A',c',hv,h1,h2,fun hn=>?_⟩;obtain⟨q,off,e1,h4⟩:=h3 hn
 have hq:q≠g:=by
  rintro rfl;obtain⟨x,y,zz,k1,k2,k3,k4,k5,k6⟩:=h4 0 hn;subst k4 k6;have hx:=xh hb k1;have hz:=xh hb k3
  rcases hx with ⟨-,h9⟩|⟨-,h9⟩|⟨e9,-⟩|⟨-,h9⟩
  ·simp at h9
  ·simp at h9
  ·rcases hz with ⟨e8,-⟩|⟨e8,-⟩|⟨e8,-⟩|⟨e8,-⟩<;>omega
  ·simp at h9
 refine⟨q,off,e1,fun i hi=>?_⟩;obtain⟨x,y,zz,k1,k2,k3,k4,k5,k6⟩:=h4 i hi;exact⟨x,y,zz,U.cell k1 hq,U.cell k2 hq,U.cell k3 hq,k4,ByV.updM k5 hb U,k6⟩
def KI (a b h u:Int) (O:List Ob) (T:List Tg) (n k:Nat) (w:World) (e:Ending) (w':World):Prop:=∃A c B d,e=.returned (.tuple #[.agg #[.int .i64 a,.int .i64 b,.int .i64 h,.int .i64 u,.slice A n c,.slice B k d],.int .i64 0])/\vN w' (.slice A n c) O/\wZ w' (.slice B k d) T/\Ext w w'
theorem XM.x {s:Shf}{e:Ending}(h:XM s w e w'):KI s.size s.seq s.half s.used s.objs s.tags s.objs.length s.tags.length w e w':=by
 obtain⟨A,n,c,B,k,d,rfl,rfl,h1,h2,h3,h4⟩:=h;exact⟨A,c,B,d,h1,h2,h3,h4⟩
def JW (m:Med) (n k:Nat) (l:Int) (b:Bool) (z:Int) (w:World) (e:Ending) (w':World):Prop:=∃A c B d,e=.returned (.tuple #[.agg #[.slice A n c,.slice B k d,.int .i64 l,.bool b],.int .i64 z])/\MdF w.heap.size w' (.slice A n c) (.slice B k d) m/\Ext w w'
theorem xY.x {r:Med×Int}{e:Ending}(h:xY r w e w'):JW r.1 r.1.pages.length r.1.acts.length r.1.left r.1.dead r.2 w e w':=h
theorem Ji {p:List Byt}{s0 s:Shf}{B:Option Addr}(hP:kS w (.slice A n c) p) (hA:qZ w (.slice B 0 d) []) (hn:n=p.length) (hm:zU ⟨p,[],-1,false⟩) (hmk:zW w) (hb:qH p 2=(true,s0)) (hq0:0<=s0.seq) (hq1:s0.seq<=2147483647) (hlg:YS w s0 (KL p s0) s) :
  Calls Tryz.prog 21 #[.agg #[.slice A n c,.slice B 0 d,.int .i64 (-1),.bool false]] w (KI s.size s.seq s.half s.used s.objs s.tags s.objs.length s.tags.length w):=by
 have hap:qL p []=p:=rfl;refine Calls.mono (X3 (m:=⟨p,[],-1,false⟩) (s:=s) hP hn hA rfl hm (by omega) hmk ?_ ?_ ?_ ?_) (fun e w' h=>h.x)
 ·show (qH (qL p []) 2).1=true
  rw[hap,hb]
 ·show 0<=(qH (qL p []) 2).2.seq
  rw[hap,hb];exact hq0
 ·show (qH (qL p []) 2).2.seq<=_
  rw[hap,hb];exact hq1
 ·show YS w (qH (qL p []) 2).2 (KL (qL p []) (qH (qL p []) 2).2) s
  rw[hap,hb];exact hlg
theorem Yg (w:World):ByV w (.slice none 0 0) []:=⟨none,0,rfl,q_r,Nat.zero_le _,fun h=>absurd h (Nat.lt_irrefl 0)⟩
theorem Xf (w:World):zF w (.slice none 0 0) []:=⟨none,0,rfl,q_r,Nat.zero_le _,fun h=>absurd h (Nat.lt_irrefl 0)⟩
theorem okS0:OkS s00:=⟨fun i hi=>absurd hi (Nat.not_lt_zero i),fun i hi=>absurd hi (Nat.not_lt_zero i),Nat.zero_le _,Nat.zero_le _⟩
theorem ok00:Ok0 o0:=⟨Nat.zero_le _,Nat.zero_le _,fun s hs=>by cases hs⟩
theorem Yq(he:zX w.heap.size w):Calls Tryz.prog 10 #[] w (qR w (.bool true)):=by
 have HEV:=q_h he;clear he;go_enter Tryz.func10,Tryz.ntmps10;have HF:Hid (Calls Tryz.prog 20 #[.int .i64 8] w (Y3 w 8)):=QN (n:=8) (by omega) (by omega) HEV.out.mark;go_wp2_with (go_at_call 20;refine q_o ?_);refine HF.out.mono ?_;rintro e w1 ⟨A1,c1,rfl,hP1,e1⟩
 have HP1:Hid (kS w1 (.slice A1 8 c1) pg0):=hP1.pgs (fun j hj=>by
  unfold Yt
  split
  ·exact ja _ _ _
  ·exact zl 64)
 have HX1:=q_h e1;clear hP1 e1 HF;go_upto_region 2 with (fail);refine qo ?_;intro w2 e2 hsz2 B2;obtain⟨g1,hg1⟩:=qc w1.heap.size;rw[<-hg1.out] at B2 ⊢;have HG1:Hid (w.heap.size<=g1):=by rw[Hid,hg1.out];exact HX1.out.size
 have HM2:=q_h B2;have HP2:=q_h (HP1.out.ext e2);have HX2:=q_h (HX1.out.trans e2);clear e2 B2 HP1 HX1
 have HLD:Hid (Calls Tryz.prog 21 #[.agg #[.slice A1 8 c1,.slice none 0 0,.int .i64 (-1),.bool false]] w2 (KI 8 0 0 0 [] [] 0 0 w2)):=by
  rw[Hid];exact Ji (s:=s00) HP2.out (zx w2) rfl (med0 _ _) (HEV.out.ext HX2.out).mark best0 (Int.le_refl _) (by decide) (by rw[log0];exact XV w2 s00 ⟨rfl,rfl⟩)
 obtain⟨m0,m1,m2,m3⟩:=qp HM2.out;go_wp2_with (go_at_call 21;refine q_o ?_);refine HLD.out.mono ?_;rintro e w3 ⟨A3,c3,B3,d3,rfl,hO3,hT3,e3⟩;have HO3:=q_h hO3;have HT3:=q_h hT3;have HM3:=q_h (e3.block HM2.out);have HP3:=q_h (HP2.out.ext e3);have HX3:=q_h (HX2.out.trans e3);clear e3 hO3 hT3 HM2 HP2 HX2 HLD m0 m1 m2 m3;go_upto_region 3 with (fail);refine qo ?_;intro w4 e4 hsz4 B4;have HS4:=q_h B4;have HO4:=q_h (HO3.out.ext e4);have HT4:=q_h (HT3.out.ext e4);have HM4:=q_h (e4.block HM3.out);have HP4:=q_h (HP3.out.ext e4);have HX4:=q_h (HX3.out.trans e4);clear e4 B4 HO3 HT3 HM3 HP3 HX3;obtain⟨B,hB⟩:=qc (bA (qK o0))
 have HPT:Hid (Calls Tryz.prog 13 #[.agg #[.int .i64 8,.int .i64 0,.int .i64 0,.int .i64 0,.slice A3 0 c3,.slice B3 0 d3],.agg #[.slice none 0 0,.slice none 0 0]] w4 (fun e w'=>∃x y av,e=.returned (.tuple #[.agg #[.int .i64 8,.int .i64 1,.int .i64 0,.int .i64 1,x,y],av,.string B,.int .i64 0])/\vN w' x [o0]/\wZ w' y []/\qZ w' av ac1/\Ext w4 w')):=by
  have h1:=Ja vT (s:=s00) (o:=o0) HO4.out HT4.out okS0 (show ObR w4 (.slice none 0 0) (.slice none 0 0) o0 from ⟨Xf w4,Yg w4⟩) ok00 ((HEV.out.ext HX4.out).low HX4.out.size);rw[put0] at h1;refine Calls.mono h1 ?_;rintro e w' ⟨sv,av,rfl,⟨x,y,rfl,h2,h3⟩,h4,h5⟩;exact⟨x,y,av,by rw[hB.out,<-kH];rfl,h2,h3,h4,h5⟩
 have HBZ:Hid (B.size=32):=by
  rw[Hid,hB.out]
  show (qK o0).toArray.size=32
  rw[List.size_toArray];exact Jf _
 obtain⟨m0,m1,m2,m3,m4,m5⟩:=qx HS4.out;go_wp2_with (go_at_call 13;refine q_o ?_);refine HPT.out.mono ?_;rintro e w5 ⟨x5,y5,av5,rfl,hx5,hy5,hav5,e5⟩;obtain⟨X1,X2,rfl,-⟩:=hx5.form;obtain⟨Y1,Y2,rfl,-⟩:=hy5.form;obtain⟨AV,cv,rfl,-⟩:=hav5.form;have HAV5:=q_h hav5;have HM5:=q_h (e5.block HM4.out);have HP5:=q_h (HP4.out.ext e5);have HX5:=q_h (HX4.out.trans e5);clear hx5 hy5 hav5 e5 HS4 HO4 HT4 HM4 HP4 HX4 HPT m0 m1 m2 m3 m4 m5 hB;go_upto_region 4 with (fail);refine qo ?_;intro w6 e6 hsz6 B6;have HT6:=q_h B6;have HAV6:=q_h (HAV5.out.ext e6);have HM6:=q_h (e6.block HM5.out);have HP6:=q_h (HP5.out.ext e6);have HX6:=q_h (HX5.out.trans e6);clear e6 B6 HAV5 HM5 HP5 HX5;obtain⟨m0,m1,m2,m3⟩:=qp HM6.out;obtain⟨t0,t1,t2,t3,t4,t5⟩:=qx HT6.out;obtain⟨ga,oa,rfl,hax⟩:=HAV6.out.at_ rfl (by decide);obtain⟨D0,n0,f0,a0,-,-,-⟩:=hax 0 (by decide);obtain⟨D1,n1,f1,-,-,a1,-⟩:=hax 1 (by decide);obtain⟨D2,n2,f2,a2,-,-,-⟩:=hax 2 (by decide);obtain⟨D3,n3,f3,-,-,a3,-⟩:=hax 3 (by decide)
 have hcv4:4<=cv:=by
  obtain⟨A',c',h1,h2,-⟩:=HAV6.out.form;obtain⟨-,e1,e2⟩:=Value.slice.inj h1;have:ac1.length=4:=rfl;omega
 have a0':w6.cell? ⟨ga,oa,none⟩=some (.int .i64 2):=a0;have a1':w6.cell? ⟨ga,oa+5,none⟩=some (.bool true):=a1;have a2':w6.cell? ⟨ga,oa+6,none⟩=some (.int .i64 1):=a2;have a3':w6.cell? ⟨ga,oa+11,none⟩=some (.bool true):=a3;have HAV6:Hid (qZ w6 (.slice (some ⟨ga,oa,none⟩) 4 cv) ac1):=HAV6.out;have hbz:=HBZ.out;clear a0 a1 a2 a3 hax;have hl4:ac1.length=4:=rfl;rw[hl4];go_upto_region 6 with (fail);clear t0 t1 t2 t3 t4 t5 a0' a1' a2' a3' m0 m1 m2 m3 hbz hcv4 HT6;refine wp_region_lit ?_;refine wpList_plain rfl (fun K hK=>?_);go_simp;refine hK _ _ ?_;clear hK K;try simp only[nr]
 obtain⟨wa,Ea,Ba,Ua⟩:=qI HM6.out 2 (.int .i64 3);have f4:=qm HM6.out 2;have c4':=(qh HM6.out 2).trans rfl;refine wpList_plain rfl (fun K hK=>?_);go_simp;try rw[Ea]
 refine hK _ _ ?_;clear hK K f4 c4' Ea;try simp only[nr]
 have HM7:Hid (wa.heap[g1]?=some (.cells #[.slice A1 8 c1,.slice none 0 0,.int .i64 3,.bool false] 46 (0,0))):=Ba;have HP7:=q_h (HP6.out.updM (by decide) HM6.out Ua);have HAV7:=q_h (HAV6.out.updM HM6.out Ua);have HX7:Hid (Ext w wa):=(Ua.chg (NoU.mk HM6.out (by decide))).ext HX6.out HG1.out;clear Ba Ua HM6 HP6 HAV6 HX6;obtain⟨w7,hw7⟩:∃w7,w7=wa:=⟨_,rfl⟩
 subst hw7
 have HPF:Hid (Calls Tryz.prog 23 #[.agg #[.slice A1 8 c1,.slice none 0 0,.int .i64 3,.bool false],.slice (some ⟨ga,oa,none⟩) 4 cv] w7 (JW ⟨pg0.set 2 lp0,[⟨1,xB 1 0 1,false⟩],0,true⟩ 8 1 0 true 16 w7)):=by
  have h1:=vX (m:=⟨pg0,[],3,false⟩) (l:=ac1) HP7.out rfl (zx w7) rfl (med0 _ _) HAV7.out rfl act0 (by omega) (by decide) (by decide);rw[perf0] at h1;rw[Hid];exact Calls.mono h1 (fun e w' h=>h.x)
 obtain⟨m0,m1,m2,m3⟩:=qp HM7.out;go_upto_region 7 with (fail);refine wp_region_lit ?_;refine wpList_plain rfl (fun K hK=>?_);go_simp;refine hK _ _ ?_;clear hK K;try simp only[nr]
 refine wpList_plain rfl (fun K hK=>?_);go_simp;refine hK _ _ ?_;clear hK K;try simp only[nr]
 refine wpList_plain rfl (fun K hK0=>?_);have hK:=q_h hK0;clear hK0;go_simp;refine HPF.out.mono ?_;rintro e w8 ⟨A8,c8,B8,d8,rfl,hMD8,e8⟩;have HMD8:=q_h hMD8;have HM8:=q_h (e8.block HM7.out);have HX8:=q_h (HX7.out.trans e8);clear hMD8 e8 HM7 HX7 HP7 HAV7 HPF m0 m1 m2 m3;go_wp2_with fail;refine hK.out _ _ ?_;clear hK K;try simp only[nr]
 refine wpList_plain rfl (fun K hK=>?_);go_simp;refine hK _ _ ?_;clear hK K;try simp only[nr]
 refine wpList_plain rfl (fun K hK=>?_);go_simp;refine hK _ _ ?_;clear hK K;try simp only[nr]
 refine wpList_plain rfl (fun K hK=>?_);go_simp;refine hK _ _ ?_;clear hK K;try simp only[nr]
 refine qf rfl 46 _ _ rfl (by rfl) (by rfl) HM8.out zM (by rfl) (by rfl) (by rfl) ?_;intro w9 B9 U9;have HC9:=q_h (U9.chg (NoU.mk HM8.out (by decide)));have HM9:=q_h B9;have HP9:Hid (kS w9 (.slice A8 8 c8) (pg0.set 2 lp0)):=(HMD8.out.1.chgT HC9.out HM8.out (by decide) (by decide)).pgs;have HA9:Hid (qZ w9 (.slice B8 1 d8) [⟨1,xB 1 0 1,false⟩]):=(HMD8.out.2.chgT HC9.out HM8.out (by decide) (by decide)).acts;have HX9:Hid (Ext w w9):=HC9.out.ext HX8.out HG1.out;clear B9 U9 HC9 HMD8 HM8 HX8;obtain⟨m0,m1,m2,m3⟩:=qp HM9.out
 have HCR:Hid (∀(w':World) (g:Nat) (b:Bool),Ext w9 w'->w'.heap[g]?=some (.cells #[.bool b] 4 (0,0))->Calls Tryz.prog 24 #[.agg #[.slice A8 8 c8,.slice B8 1 d8,.int .i64 0,.bool true],.slice (some ⟨g,0,none⟩) 1 1] w' (JW (xR ⟨pg0.set 2 lp0,[⟨1,xB 1 0 1,false⟩],0,true⟩ [b]) 8 0 (-1) false 0 w')):=fun w' g b e hb=>by
  have hbl:BlV w' (.slice (some ⟨g,0,none⟩) 1 1) [b]:=by
   refine⟨_,1,rfl,q_r,by unfold maxLen;show 1<=_;omega,fun _=>⟨g,0,rfl,fun i hi=>?_⟩⟩;obtain rfl:i=0:=by have:i<1:=hi;omega
   exact⟨.bool b,qh hb 0,rfl⟩
  have h1:=Zg (m:=⟨pg0.set 2 lp0,[⟨1,xB 1 0 1,false⟩],0,true⟩) (kp:=[b]) (HP9.out.ext e) rfl (HA9.out.ext e) rfl (med1 _ _) hbl rfl (by omega);refine Calls.mono h1 (fun e w' h=>?_);have h2:=h.x;cases b<;>exact h2
 go_wp2_with (go_at_call 24;refine q_o ?_);refine (HCR.out _ _ true ((Ext.refl w9).alloc _) (heap_alloc_new w9 _)).mono ?_;rintro e wa ⟨Aa,ca,Ba,da,rfl,hMDa,ea⟩;have HE9a:Hid (Ext w9 wa):=((Ext.refl w9).alloc _).trans ea
 have HPa0:Hid (kS wa (.slice Aa 8 ca) ((pg0.set 2 lp0).set 1 (xB 1 0 1))):=by
  have h1:=hMDa.pgs;rw[Yx] at h1;exact h1
 have HAa:Hid (qZ wa (.slice Ba 0 da) []):=hMDa.acts;clear hMDa ea m0 m1 m2 m3;go_upto_region 11 with (fail);refine qo ?_;intro wb eb hszb B11;obtain⟨g9,hg9⟩:=qc wa.heap.size;rw[<-hg9.out] at B11 ⊢;have HM11:=q_h B11;have HE11:=q_h (HE9a.out.trans eb);have HP11:=q_h (HPa0.out.ext eb);have HA11:=q_h (HAa.out.ext eb);clear eb B11 hszb HE9a HPa0 HAa;obtain⟨m0,m1,m2,m3⟩:=qp (HE11.out.block HM9.out);go_wp2_with (go_at_call 24;refine q_o ?_);refine (HCR.out _ _ false (HE11.out.alloc _) (heap_alloc_new wb _)).mono ?_;rintro e wc ⟨Ac,cc,Bc,dc,rfl,hMDc,ec⟩;have HEbc:Hid (Ext wb wc):=((Ext.refl wb).alloc _).trans ec
 have HPc0:Hid (kS wc (.slice Ac 8 cc) (pg0.set 2 lp0)):=by
  have h1:=hMDc.pgs;rw[Yy] at h1;exact h1
 have HAc:Hid (qZ wc (.slice Bc 0 dc) []):=hMDc.acts;clear hMDc ec m0 m1 m2 m3;go_upto_region 12 with (fail);refine qo ?_;intro wd ed hszd B12;obtain⟨g10,hg10⟩:=qc wc.heap.size;rw[<-hg10.out] at B12 ⊢;have HM12:=q_h B12;have HEbd:=q_h (HEbc.out.trans ed);have HP12:=q_h (HPc0.out.ext ed);have HA12:=q_h (HAc.out.ext ed);have HMX:=q_h (HEbd.out.block HM11.out);have HX12:=q_h (HX9.out.trans (HE11.out.trans HEbd.out))
 have HLA:Hid (Calls Tryz.prog 21 #[.agg #[.slice Aa 8 ca,.slice Ba 0 da,.int .i64 (-1),.bool false]] wd (KI 8 1 0 1 [o0] [] 1 0 wd)):=by
  rw[Hid];exact Ji (s:=s11) (HP11.out.ext HEbd.out) (HA11.out.ext HEbd.out) rfl (med3 _ _) (HEV.out.ext HX12.out).mark best2 (by decide) (by decide) (by rw[log2];exact Yk wd (HEV.out.ext HX12.out).tab)
 have HLB:Hid (∀w',Ext wd w'->Calls Tryz.prog 21 #[.agg #[.slice Ac 8 cc,.slice Bc 0 dc,.int .i64 (-1),.bool false]] w' (KI 8 0 0 0 [] [] 0 0 w')):=fun w' e=>Ji (s:=s00) (HP12.out.ext e) (HA12.out.ext e) rfl (med2 _ _) (HEV.out.ext (HX12.out.trans e)).mark best1 (Int.le_refl _) (by decide) (by rw[log1];exact XV w' s00 ⟨rfl,rfl⟩)
 clear ed B12 hszd HEbc HPc0 HAc HP11 HA11 HP12 HA12 HCR HM11 HE11 HX9 HEbd HP9 HA9;obtain⟨m0,m1,m2,m3⟩:=qp HMX.out;go_wp2_with (go_at_call 21;refine q_o ?_);refine HLA.out.mono ?_;rintro e we ⟨Ae,ce,Be,de,rfl,-,-,ee⟩;have HEe:=q_h ee;have HMe:=q_h (ee.block HM12.out);have HXe:=q_h (HX12.out.trans ee);clear ee m0 m1 m2 m3 HM12 HX12 HLA HMX;go_upto_region 13 with (fail);refine qo ?_;intro wf ef hszf B13;have HT13:=q_h B13;have HEf:=q_h (HEe.out.trans ef);have HMf:=q_h (ef.block HMe.out);have HXf:=q_h (HXe.out.trans ef);clear ef B13 HEe HMe HXe;obtain⟨m0,m1,m2,m3⟩:=qp HMf.out;go_wp2_with (go_at_call 21;refine q_o ?_);refine (HLB.out _ HEf.out).mono ?_;rintro e wg ⟨Ag,cg,Bg,dg',rfl,-,-,eg⟩;have HTg:=q_h (eg.block HT13.out);have HXg:=q_h (HXf.out.trans eg);clear eg m0 m1 m2 m3 HT13 HXf HLB HMf HEf;go_upto_region 14 with (fail);refine qo ?_;intro wh eh hszh B14;have HXh:=q_h (HXg.out.trans eh);obtain⟨t0,t1,t2,t3,t4,t5⟩:=qx (eh.block HTg.out);obtain⟨s0,s1,s2,s3,s4,s5⟩:=qx B14;clear eh B14 HTg HXg;go_wp2
 first|go_ret|skip
 exact⟨rfl,HXh.out⟩
structure RgS (g r:Nat) (l:List (Byt×Value)) (es:Array MapEntry) (clock:Nat) (seen:Array Nat) (w:World):Prop where
 mp:w.heap[g]?=some (.map es clock)
 it:w.heap[r]?=some (.mapIter (some g) clock seen clock)
 en:Z4 es.toList l
 st:MapKept.Stamped es clock
theorem MpS.range {t e:TypeId}(ht:Tryz.prog.underlying t=some (.map 9 e)){l:List (Byt×Value)}(h:MpS w g l) :
  ∃es clock w',(Instr.range t (.map (some g))).run Tryz.prog w=.ok (.pointer (some ⟨w.heap.size,0,none⟩)) w'/\RgS g w.heap.size l es clock #[] w'/\Ext w w':=by
 obtain⟨es,k,h1,h2,h3⟩:=h;exact⟨es,k,_,run_range_map w t _ e g es k ht h1,⟨((Ext.refl w).alloc _).block h1,heap_alloc_new w _,h2,h3⟩,(Ext.refl w).alloc _⟩
theorem RgS.next{r:Nat}{l:List (Byt×Value)}{es:Array MapEntry}{seen:Array Nat}(h:RgS g r l es k seen w) (ty:TypeId) :
  ((leftOf es seen).size=0/\(Instr.next (.pointer (some ⟨r,0,none⟩)) false ty).run Tryz.prog w=.ok (.tuple #[.bool false]) w) \/
  ∃e∈(leftOf es seen).toList,∃w',(Instr.next (.pointer (some ⟨r,0,none⟩)) false ty).run Tryz.prog w=.ok (.tuple #[.bool true,e.key,e.val]) w'/\RgS g r l es k (seen.push e.born) w'/\Upd r w w'/\(Instr.entry (.pointer (some ⟨r,0,none⟩))).run Tryz.prog w'=.ok (.tuple #[e.key,e.val]) w':=by
 have hst:=(MapKept.stamped_iff es k).1 h.st
 rcases run_next_at (P:=Tryz.prog) w ty r g k k seen es k h.it h.mp hst.1 (q_r) with ⟨h0,h1⟩|⟨e,he,w1,h1,h2⟩
 ·exact .inl ⟨h0,h1⟩
 ·have hne:g≠r:=by
   rintro rfl;have:=h.mp;rw[h.it] at this;cases this
  have hu:Upd r w w1:=by
   rcases h1 with rfl|rfl
   ·exact Upd.refl r _
   ·exact⟨rfl,rfl,rfl,rfl,fun _ _=>rfl⟩
  have hit:w1.heap[r]?=some (.mapIter (some g) k seen k):=by rcases h1 with rfl|rfl<;>exact h.it
  have hs:=MapKept.heap_set (o':=.mapIter (some g) k (seen.push e.born) k) hit;have hm2:(ChangeMaps.setBlock w1 r (.mapIter (some g) k (seen.push e.born) k)).heap[g]?=some (.map es k):=(hs.2 g hne).trans (hu.blk h.mp hne);refine .inr ⟨e,he,_,h2,⟨hm2,hs.1,h.en,h.st⟩,⟨hu.os,hu.tape,hu.output,by simp[ChangeMaps.setBlock,hu.size],fun q hq=>(hs.2 q hq).trans (hu.block q hq)⟩,run_entry_at _ r g k seen es k e hs.1 hm2 (mem_left he).1 hst.2.1⟩
theorem ZC {p:Byt×Value}:∀ {L:List Ob}{k:Nat},p∈mpO k L->∃i,i<L.length/\p=(qK (L.getD i default),.int .i64 ((k+i:Nat):Int))
 | [],_,h=>by cases h
 | o :: L,k,h=>by
  rcases List.mem_cons.1 h with rfl|h
  ·exact⟨0,by simp,rfl⟩
  ·obtain⟨i,h1,h2⟩:=ZC h;refine⟨i+1,by simpa using h1,?_⟩;rw[h2,show k+1+i=k+(i+1) by omega]
   rfl
theorem ZO:∀ {L:List Ob}{k i:Nat},i<L.length->(mpO k L)[i]?=some (qK (L.getD i default),.int .i64 ((k+i:Nat):Int))
 | [],_,_,h=>absurd h (Nat.not_lt_zero _)
 | o :: L,k,0,_=>rfl
 | o :: L,k,i+1,h=>by
  show (mpO (k+1) L)[i]?=_
  rw[ZO (by simpa using h),show k+1+i=k+(i+1) by omega]
  rfl
def QY (base:Nat) (w:World) (g:Nat) (l:List Byt):Prop:=base<=g/\w.heap[g]?=some (.cells (l.map sV).toArray 9 (0,0))
def J4 (l:List Byt) (w:World) (e:Ending) (w':World):Prop:=∃g,e=.returned (.slice (some ⟨g,0,none⟩) l.length l.length)/\QY w.heap.size w' g l/\Ext w w'
structure NmS (base g r ob:Nat) (L:List Ob) (es:Array MapEntry) (k:Nat) (seen:Array Nat) (w:World):Prop where
 rg:RgS g r (mpO 0 L) es k seen w
 cells:∃cs,w.heap[ob]?=some (.cells cs 9 (0,0))/\cs.size=L.length/\(∀i,i<L.length->∃s,cs[i]?=some (.string s))/\∀x∈es.toList,seen.contains x.born=true->∀i:Nat,i<L.length->x.val=.int .i64 (i:Int)->cs[i]?=some (sV (qK (L.getD i default)))
 n1:ob≠r
 n2:ob≠g
 hb:base<=ob
 hr:base<=r
theorem NmS.done {r ob:Nat}{L:List Ob}{es:Array MapEntry}{seen:Array Nat}(h:NmS base g r ob L es k seen w) (h0:(leftOf es seen).size=0):QY base w ob (L.map qK):=by
 obtain⟨cs,h1,h2,-,h4⟩:=h.cells;refine⟨h.hb,?_⟩;rw[h1]
 congr 2
 refine Array.ext (by simp[h2]) fun i h5 h6=>?_
 have hi:i<L.length:=by omega
 obtain⟨e,h7,-,h9⟩:=ZT h.rg.en (ZO (k:=0) hi);have h8:=List.mem_of_getElem? h7;have h10:=h4 e h8 (all_seen es seen h0 e h8) i hi (by rw[h9];simp);rw[Array.getElem?_eq_getElem h5] at h10;rw[Option.some.inj h10];simp[List.getD_eq_getElem?_getD,List.getElem?_eq_getElem hi]
theorem NmS.step {r ob:Nat}{L:List Ob}{es:Array MapEntry}{seen:Array Nat}{w1:World}(h:NmS base g r ob L es k seen w){e:MapEntry}(he:e∈(leftOf es seen).toList) (hr:RgS g r (mpO 0 L) es k (seen.push e.born) w1) (hu:Upd r w w1) :
  ∃(i:Nat) (cs:Array Value),i<L.length/\e.key=sV (qK (L.getD i default))/\e.val=.int .i64 (i:Int)/\w1.heap[ob]?=some (.cells cs 9 (0,0))/\cs.size=L.length/\(∃s,cs[i]?=some (.string s))/\∀w2,w2.heap[ob]?=some (.cells (cs.setIfInBounds i e.key) 9 (0,0))->Upd ob w1 w2->NmS base g r ob L es k (seen.push e.born) w2:=by
 obtain⟨cs,h1,h2,h3,h4⟩:=h.cells;have hm:=mem_left he;obtain⟨p,hp,h5,h6⟩:=Qm h.rg.en hm.1;obtain⟨i,hi,rfl⟩:=ZC hp;rw[Nat.zero_add] at h6;refine⟨i,cs,hi,h5,h6,hu.blk h1 h.n1,h2,h3 i hi,fun w2 h7 h8=>?_⟩;have hst:=(MapKept.stamped_iff es k).1 h.rg.st;refine⟨⟨h8.blk hr.mp (fun e=>h.n2 e.symm),h8.blk hr.it (fun e=>h.n1 e.symm),hr.en,hr.st⟩,⟨_,h7,by simp[h2],fun j hj=>?_,fun x hx hc j hj hv=>?_⟩,h.n1,h.n2,h.hb,h.hr⟩
 ·rw[Array.getElem?_setIfInBounds]
  by_cases hij:i=j
  ·rw[if_pos hij,if_pos (by omega),h5];exact⟨_,rfl⟩
  ·rw[if_neg hij];exact h3 j hj
 ·rw[Array.getElem?_setIfInBounds]
  by_cases hij:i=j
  ·rw[if_pos hij,if_pos (by omega),h5,hij]
  ·rw[if_neg hij];rw[contains_push,Bool.or_eq_true] at hc
   rcases hc with hc|hc
   ·exact h4 x hx hc j hj hv
   ·obtain rfl:=born_inj hst.2.1 hx hm.1 (by simpa using hc);rw[h6] at hv;injection hv with _ hv
    exact absurd (Int.ofNat.inj hv) hij
theorem Ze{size seq half used:Int}{T:Value}{L:List Ob}(hI:IxB base b g size seq half used v T L w) (hl:L.length<=1000) :
  Calls Tryz.prog 94 #[.pointer (some ⟨b,0,none⟩)] w (J4 (L.map qK) w):=by
 have HI:=q_h hI;obtain⟨R,hR⟩:=qc (J4 (L.map qK) w);rw[<-hR.out];obtain⟨n,hn⟩:=qc L.length;obtain⟨A1,c1,hv1,-⟩:=hI.obs.form;rw[<-hn.out] at hv1 hl;subst hv1;clear hI;have b4:w.cell? ⟨b,4,none⟩=some (.slice A1 n c1):=(qh HI.out.blk 4).trans rfl;go_enter Tryz.func94,Tryz.ntmps94;go_wp2_with (at_make;refine q_o ?_);refine jV wC rfl rfl _ _ 26 Tryz.underlying26 rfl .i64 .i64 _ _ n (by rfl) (by rfl) rfl rfl (by omega) ?_;intro w1 cs1 hb1 hs1 hc1 e1;obtain⟨ob,hob⟩:=qc w.heap.size;rw[<-hob.out] at hb1 ⊢;have HX1:=q_h e1;have HI1:=q_h (HI.out.ext e1);have HB1:=q_h hb1;have HC1:Hid (cs1.size=n/\∀i,i<n->cs1[i]?=some (.string ⟨#[]⟩)):=⟨hs1,hc1⟩
 clear b4 e1 hb1 hs1 hc1;have b6:w1.cell? ⟨b,6,none⟩=some (.map (some g)):=(qh HI1.out.blk 6).trans rfl;obtain⟨es,k,w2,hrun,hrg,hx2⟩:=HI1.out.mp.range Z9;obtain⟨r,hr⟩:=qc w1.heap.size;rw[<-hr.out] at hrun hrg
 have HS:Hid (NmS w.heap.size g r ob L es k #[] w2):=by
  have h1:=HB1.out;have h2:=qE h1;refine⟨hrg,⟨cs1,hx2.block h1,by rw[HC1.out.1,hn.out],fun i hi=>⟨_,HC1.out.2 i (by rw[hn.out];exact hi)⟩,fun x _ hc=>by simp at hc⟩,?_,?_,?_,?_⟩
  ·rw[hr.out];omega
  ·rintro rfl;have h3:=hrg.mp;rw[hx2.block h1] at h3;cases h3
  ·rw[hob.out];exact q_r
  ·rw[hr.out];exact HX1.out.size
 have HX2:=q_h (HX1.out.trans hx2);clear hrg hx2;go_wp2_with fail
 go_loopw [4] (fun _ wr=>∃seen,Hid (NmS w.heap.size g r ob L es k seen wr)/\Hid (Ext w wr)) (fun _ wr=>World.rangeLeft wr g r)
 case atStart=>exact⟨#[],HS,HX2⟩
 case round =>
  obtain⟨seen,HN,HX⟩:=hrel
  rcases HN.out.rg.next 0 with ⟨h0,hnx⟩|⟨e,he,w3,hnx,hrg3,hu3,hen⟩
  ·have H0:=q_h h0;clear h0;go_wp2
   first|go_ret|skip
   rw[hR.out];have h9:=HN.out.done H0.out;refine⟨ob,?_,h9,HX.out⟩;rw[List.length_map,<-hn.out]
   rfl
  ·obtain⟨i,cs,hi,hk,hv,hb3,hs3,⟨s0,hs0⟩,hfin⟩:=HN.out.step he hrg3 hu3;rw[<-hn.out] at hi hs3;have hX3:Ext w w3:=hu3.ext HX.out HN.out.hr;obtain⟨X,hX⟩:=qc (bA (qK (L.getD i default)));rw[kH,<-hX.out] at hk;rw[hk] at hfin;rw[hk,hv] at hnx hen;have HFI:=q_h hfin;have HLT:Hid ((leftOf es (seen.push e.born)).size<(leftOf es seen).size):=left_shrinks es seen e he
   have HRG:Hid (World.rangeLeft wr g r=(leftOf es seen).size):=by
    have h1:=HN.out.rg;rw[Hid];unfold World.rangeLeft;rw[h1.mp,h1.it]
   obtain⟨seen2,hs2⟩:=qc (seen.push e.born);rw[<-hs2.out] at HFI HLT;have u5:decide ((i:Int)<(n:Int))=true:=q_t (by omega);have u6:(i:Int)<(n:Int):=by omega
   have c5:w3.cell? ⟨ob,i,none⟩=some (.string s0):=(qh hb3 i).trans hs0;have f5:=qm hb3 i;obtain⟨w4,E4,B4,U4⟩:=qI hb3 i (.string X);have HN4:Hid (NmS w.heap.size g r ob L es k seen2 w4):=HFI.out w4 B4 U4;have HX4:Hid (Ext w w4):=U4.ext hX3 HN.out.hb;clear hfin hrg3 hu3 hX3 B4 U4 hk hv he hs0 HFI;go_wp2;go_roundw
   case rel=>exact⟨seen2,HN4,HX4⟩
   case measure =>
    have h1:=HN4.out.rg
    have h2:World.rangeLeft w4 g r=(leftOf es seen2).size:=by
     unfold World.rangeLeft;rw[h1.mp,h1.it]
    rw[h2,HRG.out];exact HLT.out
def IdxOk (s:Shf) (v:Value) (w:World):Prop:=∀w',Ext w w'->Calls Tryz.prog 58 #[v] w' (XN s w')
def YM (s:Shf) (w:World) (e:Ending) (w':World):Prop :=
 (qN s=false/\e=.returned (.tuple #[.slice none 0 0,.int .i64 1])/\Ext w w') \/
 (qN s=true/\∃g,e=.returned (.tuple #[.slice (some ⟨g,0,none⟩) s.objs.length s.objs.length,.int .i64 0])/\QY w.heap.size w' g (s.objs.map qK)/\Ext w w')
theorem Ya {s:Shf}{A1 A2:Option Addr}{n1 c1 n2 c2:Nat}(hi:IdxOk s (.agg #[.int .i64 s.size,.int .i64 s.seq,.int .i64 s.half,.int .i64 s.used,.slice A1 n1 c1,.slice A2 n2 c2]) w) (hno:s.objs.length<=1000) :
  Calls Tryz.prog 28 #[.agg #[.int .i64 s.size,.int .i64 s.seq,.int .i64 s.half,.int .i64 s.used,.slice A1 n1 c1,.slice A2 n2 c2]] w (YM s w):=by
 obtain⟨R,hR⟩:=qc (YM s w);rw[<-hR.out];have HI:=q_h hi;have HNO:=q_h hno;obtain⟨size,hsize⟩:=qc s.size;obtain⟨seq,hseq⟩:=qc s.seq;obtain⟨half,hhalf⟩:=qc s.half;obtain⟨used,hused⟩:=qc s.used;rw[<-hsize.out,<-hseq.out,<-hhalf.out,<-hused.out] at HI ⊢;clear hi hno;go_enter Tryz.func28,Tryz.ntmps28;go_upto_region 1 with (fail);refine qo ?_;intro w1 hE hsz B0;obtain⟨p0,p1,p2,p3,p4,p5⟩:=qx B0;have HX1:=q_h hE;go_wp2_with (go_at_call 58;refine q_o ?_);refine (HI.out w1 HX1.out).mono ?_;rintro e w2 (⟨hvb,a,b,c,d,Ax,nx,cx,Bx,mx,dx,gx,rfl,e2⟩|⟨hvb,Av,cv,At,ct,gm,rfl,hO2,hM2,hg2,hT2,e2⟩)
 ·have HX2:=q_h (hE.trans e2);have HV:=q_h hvb;clear p0 p1 p2 p3 p4 p5 B0 hE e2 hvb;go_upto_region 2 with (fail);refine qo ?_;intro w3 e3 hsz3 B8;clear B8;have HX9:=q_h (HX2.out.trans e3);clear e3;go_wp2
  first|go_ret2|skip
  rw[hR.out];exact .inl ⟨HV.out,rfl,HX9.out⟩
 have HX2:=q_h (hE.trans e2);have HO2:=q_h hO2;have HM2:=q_h hM2;have HGS:Hid (w1.heap.size<=gm):=hg2;obtain⟨n,hn⟩:=qc s.objs.length;obtain⟨nt,hnt⟩:=qc s.tags.length;have HV:=q_h hvb;rw[<-hsize.out,<-hseq.out,<-hhalf.out,<-hused.out,<-hn.out,<-hnt.out];rw[<-hn.out] at HO2;clear p0 p1 p2 p3 p4 p5 B0 hE e2 hO2 hM2 hT2 hg2 hvb;go_upto_region 2 with (fail);refine qo ?_;intro w3 e3 hsz3 B8;obtain⟨b,hb⟩:=qc w2.heap.size;rw[<-hb.out] at B8 ⊢;have HI3:Hid (IxB w1.heap.size b gm size seq half used (.slice Av n cv) (.slice At nt ct) s.objs w3):=⟨B8,by have:=HM2.out.lt;have:=hb.out;have:=HGS.out;omega,HGS.out,HO2.out.ext e3,HM2.out.ext e3⟩
 have HX3:=q_h (HX2.out.trans e3);clear e3 B8 HO2 HM2 HX2;go_wp2_with (go_at_call 94;refine q_o ?_);refine (Ze HI3.out HNO.out).mono ?_;rintro e w4 ⟨g,rfl,ha,e4⟩;have HX4:=q_h (HX3.out.trans e4);have HA4:Hid (QY w.heap.size w4 g (s.objs.map qK)):=⟨q_l HX3.out.size ha.1,ha.2⟩
 rw[List.length_map,<-hn.out];clear ha e4;go_wp2
 first|go_ret2|skip
 rw[hR.out];exact .inr ⟨HV.out,g,by rw[<-hn.out];rfl,HA4.out,HX4.out⟩
end
section
open Go.RowKit Go.Shelf Go.Sort
def Yc:Go.Shelf.Ren:=⟨fun|125=>96|128=>155|129=>156|190=>29|258=>95|302=>146|303=>147|304=>148|305=>149|306=>150|307=>151|308=>152|309=>153|310=>154|329=>188|330=>189|333=>187|334=>190|335=>191|336=>192|344=>222|_=>0,fun|0=>0|3=>3|4=>4|5=>5|9=>9|31=>26|46=>142|51=>196|53=>198|131=>102|182=>188|183=>189|218=>225|222=>229|228=>265|229=>266|_=>0,fun _=>0⟩
theorem Jk:Go.Proofs.Lays.n190 Tryz.prog Yc:=by
 constructor
 all_goals first|kernel_rfl|(intro w;kernel_rfl)
def Zi (l:List Byt):List Byt:=l.mergeSort fun x y=>decide (x<=y)
theorem X5 (l:List Byt):(Zi l).length=l.length:=List.length_mergeSort l
theorem sl_sortS{l:List Byt}(h:QY base w g l) (hl:l.length<=1000000) :
  Calls Tryz.prog 29 #[.slice (some ⟨g,0,none⟩) l.length c] w (fun e w'=>e=.returned (.tuple #[])/\QY base w' g (Zi l)/\w.grownBy w' (some g)):=by
 have hH:Holds encStr w g 0 l.toArray:=fun j hj=>by
  have hj':j<l.length:=by simpa using hj
  refine⟨?_,qm h.2 _⟩;rw[qh h.2,Nat.zero_add,List.getElem?_toArray,List.getElem?_map,List.getElem?_eq_getElem hj'];have h1:l.toArray[j]! = l[j]:=by simp[hj']
  rw[h1]
  rfl
 have hcon:=Any.slices_Sort_string Jk g 0 c l w hH (qE h.2) (by omega);refine Calls.mono hcon ?_;rintro e w' ⟨rfl,n,os,rfl⟩;have hsl:(Zi l).length=l.length:=X5 l;have hP:=holds_putRow encStr (Sort.ahead w n) g 0 l.toArray (Zi l).toArray hH (by simpa using hsl)
 have h2:(putRow encStr (Sort.ahead w n) g 0 (Zi l).toArray).heap[g]?=some (.cells (putCells encStr 0 (Zi l).toArray (l.map sV).toArray) 9 (0,0)):=by
  have h1:(Sort.ahead w n).heap[g]?=some (.cells (l.map sV).toArray 9 (0,0)):=h.2;unfold putRow mapBlock;rw[Array.getElem?_modify,if_pos rfl,h1]
  rfl
 have h3:(grow (putRow encStr (Sort.ahead w n) g 0 (Zi l).toArray) os).heap[g]?=some (.cells (putCells encStr 0 (Zi l).toArray (l.map sV).toArray) 9 (0,0)):=by
  rw[heap_grow_old _ _ (qE h2),h2]
 have h4:putCells encStr 0 (Zi l).toArray (l.map sV).toArray=((Zi l).map sV).toArray:=by
  refine Array.ext (by unfold putCells;simp[hsl]) fun j h5 h6=>?_
  have hj:j<(Zi l).length:=by simpa using h6
  have h7:=(hP j (by simpa using hj)).1;rw[Nat.zero_add,qh h2,Array.getElem?_eq_getElem h5] at h7;rw[Option.some.inj h7];simp[hj]
  rfl
 rw[h4] at h3;exact⟨rfl,⟨h.1,h3⟩,grownBy_sorted _⟩
end
end Go.Proofs.YtdeeekdbhhenpaaGreatDoor
