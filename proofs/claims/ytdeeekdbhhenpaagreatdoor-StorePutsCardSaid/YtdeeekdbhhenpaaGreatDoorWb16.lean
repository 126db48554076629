import Derived.Test.YtdeeekdbhhenpaaGreatDoorWb15
set_option linter.all false
set_option maxHeartbeats 8000000
set_option maxRecDepth 100000
namespace Go.Proofs.YtdeeekdbhhenpaaGreatDoor
open Go.RowKit
variable {w w':World} {n g m base c j d:Nat} {v:Value} {z:Int} {A:Option Addr}
theorem KZ {W0:World}{z:Shf}{o:Ob}(ht:zY W0) (ha:xZ (xy z) o=true) (hn:z.objs.length<=999):q0B W0 z (obE o) { z with objs:=z.objs ++ [o] }:=by
 intro w gb gm av A n c hX hI hby hlen;have hoc:okO o:=Qn ha;have hfit:=(hoc.fits 0 (by omega) (by omega)).1;obtain⟨hf1,hf2,hf3,-⟩:=hfit;obtain⟨R,hR⟩:=qc (fun (e:Ending) (w':World)=>e=.returned (.bool true)/\IxT W0.heap.size gb gm av { z with objs:=z.objs ++ [o] } w'/\w'.heap[av]?=w.heap[av]?/\Ext W0 w');rw[<-hR.out];have HDE:Hid (Calls Tryz.prog 184 #[.slice A n c] w (WB (.lst [.int 0,Qq o,.txt o.data]) w)):=Jr hby hf1 hf2 (ht.ext hX) hf3;have HX:=q_h hX;have HI:=q_h hI;have HT:=q_h ht;have HA:=q_h ha;have HOC:=q_h hoc;have HN9:=q_h hn;clear hX hI hby hlen ht ha hoc hf1 hf2 hf3 hn;go_enter Tryz.func145,Tryz.ntmps145;go_wp2_with (go_at_call 184;refine q_o ?_);refine HDE.out.mono ?_;rintro e w1 ⟨v1,rfl,hv1,e1⟩;obtain⟨g,off,k,b0,A0,n0,c0,A1,k1,q,k2,rfl,hk3,hc0,hc1,hc2,hI0,hL1,hT2⟩:=hv1.obj;obtain⟨A1',k1',hv',hlk,hLK⟩:=hL1.txts;injection hv' with hv'
 injection hv' with hv'
 simp only[List.cons.injEq,and_true,true_and,Value.slice.injEq] at hv';obtain⟨rfl,rfl⟩:=hv';have HX1:=q_h (HX.out.trans e1);have HE1:=q_h e1;have HC0:=q_h hc0;have HC1:=q_h hc1;have HC2:=q_h hc2;have HI0:=q_h hI0;have HLK:=q_h hLK;have HT2:=q_h hT2;obtain⟨nl,hnl⟩:=qc o.links.length;obtain⟨nd,hnd⟩:=qc o.data.length;rw[<-hnl.out] at HC1 HLK hlk;rw[<-hnd.out] at HC2 HT2;clear hv1 hc0 hc1 hc2 hI0 hL1 hLK hT2 HDE e1;go_upto_region 2 with (fail);refine qm ?_;intro w2 e2 hsz2 B2;obtain⟨gt,hgt⟩:=qc w1.heap.size;rw[<-hgt.out] at B2 ⊢;have HB2:=q_h B2;have HE2:=q_h (HE1.out.trans e2);obtain⟨x0,x1,x2,x3,x4⟩:=qy B2;obtain⟨a0,a1,a2,a3,a4⟩:=HC0.out;replace a0:=e2.cell a0;replace a1:=e2.cell a1;replace a2:=e2.cell a2;obtain⟨m0,m1,m2,m3,m4⟩:=HC2.out;replace m0:=e2.cell m0;have HE12:=q_h e2;clear e2 B2;have y1:(3:Int)<=(k:Int):=by omega
 have HSM:Hid (∀w',Ext w1 w'->Calls Tryz.prog 185 #[.agg #[.bool b0,.slice A0 n0 c0]] w' (qG w' (.tuple #[.int .i64 0,.bool true]))):=fun w' e=>VK (HI0.out.ext e) (by decide)
 go_wp2_with (go_at_call 185;refine q_o ?_);refine (HSM.out _ HE12.out).mono ?_;rintro e w3 ⟨rfl,e3⟩;have HE3:=q_h (HE2.out.trans e3);have HE13:=q_h (HE12.out.trans e3);have HB3:=q_h (e3.block HB2.out);clear e3 x0 x1 x2 x3 x4 a0 a1 a2 a3 a4 m0 m1 m2 m3 m4 HE2 HE12 HB2;obtain⟨x0,x1,x2,x3,x4⟩:=qy HB3.out;obtain⟨l0,l1,l2,l3,l4⟩:=HC1.out;replace l0:=HE13.out.cell l0;replace l1:=HE13.out.cell l1;replace l2:=HE13.out.cell l2;replace l3:=HE13.out.cell l3;replace l4:=HE13.out.cell l4;obtain⟨m0,m1,m2,m3,m4⟩:=HC2.out;replace m0:=HE13.out.cell m0;replace m1:=HE13.out.cell m1;replace m2:=HE13.out.cell m2;replace m3:=HE13.out.cell m3;replace m4:=HE13.out.cell m4;go_upto_region 5 with (fail)
 go_cut [9,10] (fun pv pw wx=>∃q9 q10,pv=.pointer (some ⟨q9,0,none⟩)/\pw=.pointer (some ⟨q10,0,none⟩)/\w3.heap.size<=q9/\w3.heap.size<=q10/\Hid (wx.heap[q9]?=some (.cells #[.int .i64 2,.bool false,.slice none 0 0,.slice none 0 0,.slice A1 nl k1] 117 (0,0)))/\Hid (wx.heap[q10]?=some (.cells #[.int .i64 1,.bool false,.slice none 0 0,.slice (some ⟨q,0,none⟩) nd k2,.slice none 0 0] 117 (0,0)))/\Hid (Ext w3 wx))
 case first =>
  have eC:=(Ext.refl w3).drew;refine qh (fun w'=>w'.cell? ⟨gt,4,none⟩=some (.slice (some ⟨g,off,none⟩) 3 k)/\w'.cell? ⟨g,off+5,none⟩=some (.int .i64 2)/\w'.cell? ⟨g,off+6,none⟩=some (.bool false)/\w'.cell? ⟨g,off+7,none⟩=some (.slice none 0 0)/\w'.cell? ⟨g,off+8,none⟩=some (.slice none 0 0)/\w'.cell? ⟨g,off+9,none⟩=some (.slice A1 nl k1)/\w'.cell? ⟨g,off+10,none⟩=some (.int .i64 1)/\w'.cell? ⟨g,off+11,none⟩=some (.bool false)/\w'.cell? ⟨g,off+12,none⟩=some (.slice none 0 0)/\w'.cell? ⟨g,off+13,none⟩=some (.slice (some ⟨q,0,none⟩) nd k2)/\w'.cell? ⟨g,off+14,none⟩=some (.slice none 0 0)) [] (by kernel_rfl) (by exact⟨eC.cell x4,eC.cell l0,eC.cell l1,eC.cell l2,eC.cell l3,eC.cell l4,eC.cell m0,eC.cell m1,eC.cell m2,eC.cell m3,eC.cell m4⟩) (fun hHeld=>?_);refine sP 0 (h:=?_);refine sT 1 (h:=?_);refine sP 2 (h:=?_);refine sT 3 (h:=?_);refine sP 4 (h:=?_);refine sT 5 (h:=?_);refine sP 6 (h:=?_);refine sT 7 (h:=?_);refine kK (i:=8) (j:=9) rfl rfl (by kernel_rfl) (fun K hK=>?_) (fun K hK=>?_)
  focus
   go_simp
   first|refine qm ?_|refine qQ ?_
   intro wa ea hsza BA;have hTa:=eC.size;try replace BB:=ea.block BB
   replace eC:Ext w3 wa:=by first|exact eC.trans ea|exact ea
   clear ea;clear hHeld;refine hK.out _ _ (by exact⟨eC.cell x4,eC.cell l0,eC.cell l1,eC.cell l2,eC.cell l3,eC.cell l4,eC.cell m0,eC.cell m1,eC.cell m2,eC.cell m3,eC.cell m4⟩) fun hHeld=>?_
   clear hK K;try simp only[nr]
   refine qf (i:=9) rfl (by kernel_rfl) (fun K hK=>?_);go_simp
   first|refine qm ?_|refine qQ ?_
   intro wb eb hszb BB;have hTb:=eC.size;try replace BA:=eb.block BA
   replace eC:Ext w3 wb:=by first|exact eC.trans eb|exact eb
   clear eb;clear hHeld;refine hK.out _ _ (by exact⟨eC.cell x4,eC.cell l0,eC.cell l1,eC.cell l2,eC.cell l3,eC.cell l4,eC.cell m0,eC.cell m1,eC.cell m2,eC.cell m3,eC.cell m4⟩) fun hHeld=>?_
   clear hK K;try simp only[nr]
   refine qf (i:=10) rfl (by kernel_rfl) (fun K hK=>?_);refine qB rfl 117 _ _ rfl (by rfl) (by rfl) BA xC (by rfl) (by rfl) (by rfl) ?_;intro w10 B10 U10;have C10:=U10.chg (NoU.mk BA (by decide));replace eC:=C10.ext eC (by omega);replace BB:=(U10.block _ (by omega)).trans BB;clear U10 C10 BA;clear hHeld;refine hK.out _ _ (by exact⟨eC.cell x4,eC.cell l0,eC.cell l1,eC.cell l2,eC.cell l3,eC.cell l4,eC.cell m0,eC.cell m1,eC.cell m2,eC.cell m3,eC.cell m4⟩) fun hHeld=>?_
   clear hK K;try simp only[nr]
   refine qf (i:=11) rfl (by kernel_rfl) (fun K hK=>?_);refine qB rfl 117 _ _ rfl (by rfl) (by rfl) BB xC (by rfl) (by rfl) (by rfl) ?_;intro w11 B11 U11;have C11:=U11.chg (NoU.mk BB (by decide));replace eC:=C11.ext eC (by omega);replace B10:=(U11.block _ (by omega)).trans B10;clear U11 C11 BB;clear hHeld;refine hK.out _ _ (by exact⟨eC.cell x4,eC.cell l0,eC.cell l1,eC.cell l2,eC.cell l3,eC.cell l4,eC.cell m0,eC.cell m1,eC.cell m2,eC.cell m3,eC.cell m4⟩) fun hHeld=>?_
   clear hK K;try simp only[nr]
  rotate_left 1
  focus
   go_simp
   first|refine qm ?_|refine qQ ?_
   intro wb eb hszb BB;have hTb:=eC.size;try replace BA:=eb.block BA
   replace eC:Ext w3 wb:=by first|exact eC.trans eb|exact eb
   clear eb;clear hHeld;refine hK.out _ _ (by exact⟨eC.cell x4,eC.cell l0,eC.cell l1,eC.cell l2,eC.cell l3,eC.cell l4,eC.cell m0,eC.cell m1,eC.cell m2,eC.cell m3,eC.cell m4⟩) fun hHeld=>?_
   clear hK K;try simp only[nr]
   refine qf (i:=8) rfl (by kernel_rfl) (fun K hK=>?_);go_simp
   first|refine qm ?_|refine qQ ?_
   intro wa ea hsza BA;have hTa:=eC.size;try replace BB:=ea.block BB
   replace eC:Ext w3 wa:=by first|exact eC.trans ea|exact ea
   clear ea;clear hHeld;refine hK.out _ _ (by exact⟨eC.cell x4,eC.cell l0,eC.cell l1,eC.cell l2,eC.cell l3,eC.cell l4,eC.cell m0,eC.cell m1,eC.cell m2,eC.cell m3,eC.cell m4⟩) fun hHeld=>?_
   clear hK K;try simp only[nr]
   refine qf (i:=10) rfl (by kernel_rfl) (fun K hK=>?_);refine qB rfl 117 _ _ rfl (by rfl) (by rfl) BA xC (by rfl) (by rfl) (by rfl) ?_;intro w10 B10 U10;have C10:=U10.chg (NoU.mk BA (by decide));replace eC:=C10.ext eC (by omega);replace BB:=(U10.block _ (by omega)).trans BB;clear U10 C10 BA;clear hHeld;refine hK.out _ _ (by exact⟨eC.cell x4,eC.cell l0,eC.cell l1,eC.cell l2,eC.cell l3,eC.cell l4,eC.cell m0,eC.cell m1,eC.cell m2,eC.cell m3,eC.cell m4⟩) fun hHeld=>?_
   clear hK K;try simp only[nr]
   refine qf (i:=11) rfl (by kernel_rfl) (fun K hK=>?_);refine qB rfl 117 _ _ rfl (by rfl) (by rfl) BB xC (by rfl) (by rfl) (by rfl) ?_;intro w11 B11 U11;have C11:=U11.chg (NoU.mk BB (by decide));replace eC:=C11.ext eC (by omega);replace B10:=(U11.block _ (by omega)).trans B10;clear U11 C11 BB;clear hHeld;refine hK.out _ _ (by exact⟨eC.cell x4,eC.cell l0,eC.cell l1,eC.cell l2,eC.cell l3,eC.cell l4,eC.cell m0,eC.cell m1,eC.cell m2,eC.cell m3,eC.cell m4⟩) fun hHeld=>?_
   clear hK K;try simp only[nr]
  rotate_left 1
  all_goals
   refine ql (by kernel_rfl) ?_ _;clear hHeld
  all_goals
   go_wp2_with fail
   go_meet
   exact⟨_,_,rfl,rfl,by omega,by omega,B10,B11,eC⟩
 obtain⟨q9,q10,rfl,rfl,hq9,hq10,HB9,HB10,hcE⟩:=hcut;obtain⟨w4,hw4⟩:∃w4,w4=wc:=⟨_,rfl⟩
 subst hw4;have HX4:=q_h (HE3.out.trans hcE.out);have HE14:=q_h (HE13.out.trans hcE.out);clear hcE HE3 HE13 HB3 HC0 HC1 HC2 HSM HI0 x0 x1 x2 x3 x4 l0 l1 l2 l3 l4 m0 m1 m2 m3 m4;obtain⟨x0,x1,x2,x3,x4⟩:=qy HB9.out;obtain⟨u0,u1,u2,u3,u4⟩:=qy HB10.out;go_upto_region 11 with (fail);refine qm ?_;intro w5 e5 hsz5 B5;obtain⟨gq,hgq⟩:=qc w4.heap.size;rw[<-hgq.out] at B5 ⊢;have HQ5:=q_h B5;have HE5:=q_h e5;have HB95:=q_h (e5.block HB9.out);have HG5:Hid (GrS (gq+1) w5 (.slice none (0:Nat) 0) (o.links.take 0)):=qA.nil (by have:=hgq.out;omega);clear e5 B5 x0 x1 x2 x3 x4 u0 u1 u2 u3 u4 HB9 HB10;obtain⟨x0,x1,x2,x3,x4⟩:=qy HB95.out;go_wp2_with fail;clear x0 x1 x2 x3 x4
 go_loopw [101] (fun iv wr=>∃(i:Nat) (A:Option Addr) (c:Nat),i<=nl/\iv=.int .i64 (i:Int)/\Hid (wr.heap[gq]?=some (.cells #[.slice A i c,.slice (some ⟨q,0,none⟩) nd k2] 29 (0,0)))/\Hid (GrS (gq+1) wr (.slice A i c) (o.links.take i))/\Hid (Ext w4 wr)) (fun iv _=>nl-(intOf iv).toNat)
 case atStart=>exact⟨0,none,0,Nat.zero_le _,rfl,HQ5,HG5,HE5⟩
 case round =>
  clear HQ5 HG5 HE5 HB95;obtain⟨i,A9,c9,hi9,rfl,HQ,HG,HE⟩:=hrel;obtain⟨wq,hwq⟩:∃wq,wq=wr:=⟨_,rfl⟩
  subst hwq
  by_cases hlt:i<nl
  ·have u5:decide ((i:Int)<(nl:Int))=true:=q_t (by omega);have u6:(i:Int)<(nl:Int):=by omega
   obtain⟨gl,ol,rfl,hlx⟩:=HLK.out (by omega);obtain⟨qi,ki,l0,l1,l2,l3,l4,hbi⟩:=hlx i (by omega);have HEq:=q_h (HE14.out.trans HE.out);replace l0:=HEq.out.cell l0;replace l1:=HEq.out.cell l1;replace l2:=HEq.out.cell l2;replace l3:=HEq.out.cell l3;replace l4:=HEq.out.cell l4;have HBI:=q_h (hbi.ext HEq.out);obtain⟨li,hli⟩:=qc (o.links.getD i []).length;rw[<-hli.out] at l3 HBI;clear hlx hbi;go_upto_region 14 with (fail);refine qm ?_;intro w6 e6 hsz6 B6;have HT6:=q_h B6;have HQ6:=q_h (e6.block HQ.out);have HG6:Hid (GrS (gq+1) w6 (.slice A9 i c9) (o.links.take i)):=qA.ext HG.out e6;have HE6:=q_h (HE.out.trans e6);obtain⟨sb,hsb⟩:=qc (bA (o.links.getD i []))
   have hcv:(convert 27 9 (.slice (some ⟨qi,0,none⟩) li ki)).run Tryz.prog w6=.ok (.string sb) w6:=by
    rw[hsb.out,<-zy];exact zT (HBI.out.ext e6)
   clear e6 B6 l0 l1 l2 l3 l4 HQ HG HE HEq HBI;obtain⟨x0,x1,x2,x3,x4⟩:=qy HT6.out;obtain⟨p0,p1,-⟩:=cells2 HQ6.out;go_wp2_with (at_builtin;refine q_o ?_);refine qm ?_;intro w7 e7 hsz7 BX;have hxl:((o.links.take i).map sV).length=i:=by rw[List.length_map,List.length_take];have:=hnl.out;omega
   have hn9:i<=1000000:=by have:=hnl.out;have:=HOC.out.1;omega
   refine zA wR rfl _ _ 26 Tryz.underlying26 rfl (by rfl) (qA.ext HG6.out e7) (by rfl) (m:=1) (c:=1) rfl (jK BX) (by simp[Value.oneCell']) (by omega) (by omega) ?_;rintro g9 cap9 w9 hG9 hw9 ⟨g',hg',hw9',C9,-⟩;rw[hxl] at hG9 ⊢;have HQ9:=q_h (C9.blk (e7.block HQ6.out) (.inl (by omega)));have HE9:Hid (Ext w4 w9):=C9.ext (HE6.out.trans e7) (by have:=hgq.out;omega)
   have HG9:Hid (GrS (gq+1) w9 (.slice (some ⟨g9,0,none⟩) (i+1) cap9) (o.links.take (i+1))):=by
    have e1:(o.links.take (i+1)).map sV=(o.links.take i).map sV ++ [.string sb]:=by
     rw[take_snoc o.links [] (by have:=hnl.out;omega),List.map_append,hsb.out,<-zy]
     rfl
    rw[Hid];unfold GrS;rw[e1];exact hG9
   clear hG9 hw9 hw9' C9 BX e7 HQ6 HG6 HE6 HT6 x0 x1 x2 x3 x4 p0 p1 hcv hxl;refine wpList_plain rfl (fun K hK=>?_);go_simp;refine hK _ _ ?_;clear hK K;try simp only[nr]
   obtain⟨wa,Ea,Ba,Ua⟩:=qI HQ9.out 0 (.slice (some ⟨g9,0,none⟩) (i+1) cap9);have f4:=qo HQ9.out 0;have c4':=(qj HQ9.out 0).trans rfl;refine wpList_plain rfl (fun K hK=>?_);go_simp;try rw[Ea]
   refine hK _ _ ?_;clear hK K f4 c4' Ea;try simp only[nr]
   have HQa:Hid (wa.heap[gq]?=some (.cells #[.slice (some ⟨g9,0,none⟩) (i+1) cap9,.slice (some ⟨q,0,none⟩) nd k2] 29 (0,0))):=Ba;have Ca:=Ua.chg (NoU.mk HQ9.out (by decide));have HGa:Hid (GrS (gq+1) wa (.slice (some ⟨g9,0,none⟩) (i+1) cap9) (o.links.take (i+1))):=qF.chgT HG9.out Ca HQ9.out (by decide);have HEa:Hid (Ext w4 wa):=Ca.ext HE9.out (by have:=hgq.out;omega);clear Ba Ua Ca HQ9 HG9 HE9;go_wp2;go_roundw
   case rel=>exact⟨i+1,_,cap9,by omega,by go_num,HQa,HGa,HEa⟩
   case measure=>simp[intOf];omega
  obtain rfl:nl=i:=by omega
  have u5:decide ((nl:Int)<(nl:Int))=false:=q_f (by omega);obtain⟨p0,p1,-⟩:=cells2 HQ.out;have HXq:=q_h (HX4.out.trans HE.out)
  have HOB:Hid (ObR wq (.slice A9 nl c9) (.slice (some ⟨q,0,none⟩) nd k2) o):=by
   have h1:=HG.out.strs;rw[List.take_of_length_le (by have:=hnl.out;omega)] at h1;exact⟨h1,HT2.out.ext (HE14.out.trans HE.out)⟩
  obtain⟨⟨AO,cO,BT,dT,i1,i2,i3,i4,i5⟩,i6,i7,i8,i9,i10,i11⟩:=HI.out.ext HXq.out;have HIB:Hid (IxB W0.heap.size gb gm z.size z.seq z.half z.used (.slice AO z.objs.length cO) (.slice BT z.tags.length dT) z.objs wq):=⟨i1,i7,i8,i2,i6⟩
  have HTG:=q_h i3;have HAV:=q_h (And.intro i4 (And.intro i5 (And.intro i9 (And.intro i10 i11))));have HIH:Hid (Calls Tryz.prog 60 #[.pointer (some ⟨gb,0,none⟩),.agg #[.slice A9 nl c9,.slice (some ⟨q,0,none⟩) nd k2]] wq (ZO W0.heap.size gb gm z.size z.seq z.half z.used (.slice AO z.objs.length cO) (.slice BT z.tags.length dT) z.objs o wq)):=yM Zh HIB.out HOB.out HOC.out.ok0 (HT.out.ext (HX.out.trans HXq.out)) (by have:=HN9.out;omega);clear i1 i2 i3 i4 i5 i6 i7 i8 i9 i10 i11 HG;go_wp2_with (go_at_call 60;refine q_o ?_);refine HIH.out.mono ?_;rintro e wz (⟨rfl,h2,-⟩|⟨rfl,-,v',hI',hF,hv'⟩)
  ·exfalso
   have h3:xZ (xy z) o=false:=h2;rw[HA.out] at h3;cases h3
  ·have HI':=q_h hI';have HF:=q_h hF;have HV':=q_h hv';clear hI' hF hv';go_wp2
   first|go_ret|skip
   rw[hR.out];obtain⟨A7,c7,hv7,-⟩:=HI'.out.obs.form;have hsub:=hv7;subst hsub;have HOW:=HIB.out.obs.own_lt;have HTO:=HTG.out.own_lt;have hXz:Ext W0 wz:=HF.out.toExt (HX.out.trans HXq.out) HIB.out.hb HIB.out.hg (fun k hk=>(HOW k hk).1);have havq:wz.heap[av]?=wq.heap[av]?:=HF.out.block av HAV.out.2.2.2.2 (fun e=>HAV.out.2.2.1 e.symm) (fun e=>HAV.out.2.2.2.1 e.symm) (fun e=>HAV.out.1 av e rfl);have havw:wq.heap[av]?=w.heap[av]?:=Below.block HXq.out av HI.out.lt;refine⟨rfl,⟨⟨A7,c7,BT,dT,?_,?_,HTG.out.frm HIB.out HF.out,?_,HAV.out.2.1⟩,HI'.out.mp,HI'.out.hb,HI'.out.hg,HAV.out.2.2.1,HAV.out.2.2.2.1,Nat.lt_of_lt_of_le HAV.out.2.2.2.2 HF.out.size⟩,havq.trans havw,hXz⟩
   ·exact HI'.out.blk
   ·exact HI'.out.obs
   ·intro k hk e
    rcases HV'.out k hk with h9|h9
    ·exact HAV.out.1 k h9 e
    ·have:=HAV.out.2.2.2.2;omega
def o0:Ob:=⟨[],[]⟩
def pg0:List Byt:=(List.range 8).map q05
def lp0:Byt:=pgE (obE o0) 0
def s00:Shf:=⟨8,0,0,0,[],[]⟩
def s10:Shf:=⟨8,1,0,1,[],[]⟩
def s11:Shf:=⟨8,1,0,1,[o0],[]⟩
def ac1:List qW:=[⟨2,lp0,false⟩,⟨0,[],true⟩,⟨1,xN 1 0 1,false⟩,⟨0,[],true⟩]
theorem pgn0:pgN (obE o0)=1:=by decide +kernel
theorem app0:Z8 s00 (obE o0)=some (s10,ac1):=by
 unfold Z8;rw[if_neg (by rw[pgn0];decide)]
 show some (({ s00 with used:=0+(pgN (obE o0):Int),seq:=0+1 }:Shf),wrA (obE o0) 2++q09 ({ s00 with used:=0+(pgN (obE o0):Int),seq:=0+1 }:Shf))=_
 unfold wrA;rw[pgn0]
 rfl
theorem put0:kU s00 o0=(s11,ac1,qO o0,0):=by
 unfold kU;rw[if_neg (by decide +kernel),if_neg (by decide)];rw[show xy s00=[] from rfl,List.idxOf?_nil]
 dsimp only
 rw[if_neg (by simp[o0]),app0]
 rfl
theorem perf0:kV ⟨pg0,[],3,false⟩ ac1=(⟨pg0.set 2 lp0,[⟨1,xN 1 0 1,false⟩],0,true⟩,16):=rfl
theorem q07:yc ⟨pg0.set 2 lp0,[⟨1,xN 1 0 1,false⟩],0,true⟩ [true]=⟨(pg0.set 2 lp0).set 1 (xN 1 0 1),[],-1,false⟩:=rfl
theorem q08:yc ⟨pg0.set 2 lp0,[⟨1,xN 1 0 1,false⟩],0,true⟩ [false]=⟨pg0.set 2 lp0,[],-1,false⟩:=rfl
def q0d (S:List Byt) (s:Shf):Bool:=(qM S 2).1&&(decide ((qM S 2).2.size=s.size)&&(decide ((qM S 2).2.seq=s.seq)&&(decide ((qM S 2).2.half=s.half)&&decide ((qM S 2).2.used=s.used))))
theorem Ql {S:List Byt}{s:Shf}(h:q0d S s=true) (ho:s.objs=[]) (ht:s.tags=[]):qM S 2=(true,s):=by
 unfold q0d at h;simp only[Bool.and_eq_true,decide_eq_true_eq] at h;obtain⟨h1,h2,h3,h4,h5⟩:=h;have hb:=Qk S 2
 generalize qM S 2=x at *
 obtain⟨f,b⟩:=x;obtain⟨b1,b2,b3,b4,b5,b6⟩:=b;obtain⟨c1,c2,c3,c4,c5,c6⟩:=s;have h6:=hb.ob;have h7:=hb.tg;simp only at h1 h2 h3 h4 h5 h6 h7 ho ht;subst h1 h2 h3 h4 h5 h6 h7 ho ht
 rfl
theorem best0:qM pg0 2=(true,s00):=Ql (by decide +kernel) rfl rfl
theorem best1:qM (pg0.set 2 lp0) 2=(true,s00):=Ql (by decide +kernel) rfl rfl
theorem best2:qM ((pg0.set 2 lp0).set 1 (xN 1 0 1)) 2=(true,s10):=Ql (by decide +kernel) rfl rfl
theorem lenP (l:List Byt) (h:l.all (fun p=>decide (p.length=64))=true):∀i,i<l.length->(l.getD i []).length=64:=fun i hi=>by
 have:=List.all_eq_true.1 h (l.getD i []) (by rw[List.getD_eq_getElem?_getD,List.getElem?_eq_getElem hi];exact List.getElem_mem hi);simpa using this
theorem med0 (a:Int) (b:Bool):x8 ⟨pg0,[],a,b⟩:=⟨(by decide +kernel:8<=(pg0).length),(by decide +kernel:(pg0).length<=4096),lenP (pg0) (by decide +kernel),rfl⟩
theorem med1 (a:Int) (b:Bool):x8 ⟨pg0.set 2 lp0,[⟨1,xN 1 0 1,false⟩],a,b⟩:=⟨(by decide +kernel:8<=(pg0.set 2 lp0).length),(by decide +kernel:(pg0.set 2 lp0).length<=4096),lenP (pg0.set 2 lp0) (by decide +kernel),(by decide +kernel:([⟨1,xN 1 0 1,false⟩]:List qW).all (vO · (pg0.set 2 lp0).length)=true)⟩
theorem med2 (a:Int) (b:Bool):x8 ⟨pg0.set 2 lp0,[],a,b⟩:=⟨(by decide +kernel:8<=(pg0.set 2 lp0).length),(by decide +kernel:(pg0.set 2 lp0).length<=4096),lenP (pg0.set 2 lp0) (by decide +kernel),rfl⟩
theorem med3 (a:Int) (b:Bool):x8 ⟨(pg0.set 2 lp0).set 1 (xN 1 0 1),[],a,b⟩:=⟨(by decide +kernel:8<=((pg0.set 2 lp0).set 1 (xN 1 0 1)).length),(by decide +kernel:((pg0.set 2 lp0).set 1 (xN 1 0 1)).length<=4096),lenP ((pg0.set 2 lp0).set 1 (xN 1 0 1)) (by decide +kernel),rfl⟩
theorem act0:ac1.all (JL · 8)=true:=by decide +kernel
theorem log0:JI pg0 s00=[]:=rfl
theorem log1:JI (pg0.set 2 lp0) s00=[]:=rfl
theorem log2:JI ((pg0.set 2 lp0).set 1 (xN 1 0 1)) s10=[lp0]:=rfl
theorem WS:lp0=jZ (obE o0):=by
 show ((jZ (obE o0)).drop 0).take 64=_
 rw[List.drop_zero,List.take_of_length_le (by rw[jq,pgn0];exact q_r)]
theorem Vd (w0:World) (s:Shf) (h:s.objs=[]/\s.tags=[]):q0A w0 s [] s:=by
 intro W0 w gb g A u c h0 hX hb hg hP hu hB hM;exact Xw (Es:=[]) (Z:=fun _=>s) hP hu (fun i hi=>by rw[hu] at hi;exact absurd hi (Nat.not_lt_zero i)) (by rw[hu];exact Nat.zero_le _) hX hb hg h hB hM rfl (fun i hi=>absurd hi (Nat.not_lt_zero i)) (by show s.tags.length<=_;rw[h.2];exact Nat.zero_le _)
theorem WV (w0:World) (ht:zY w0):q0A w0 s10 [lp0] s11:=by
 intro W0 w gb g A u c h0 hX hb hg hP hu hB hM;have hu1:u=1:=hu;refine Xw (Es:=[obE o0]) (Z:=fun i=>if i=0 then s10 else s11) hP hu (fun i hi=>?_) (by omega) hX hb hg ⟨rfl,rfl⟩ hB hM ?_ (fun i hi=>?_) (by show (0:Nat)<=_;omega)
 ·obtain rfl:i=0:=by omega
  show lp0.length=64
  decide +kernel
 ·show [lp0].flatten=xA [obE o0]
  unfold xA;rw[WS]
  rfl
 ·obtain rfl:i=0:=by simpa using hi
  refine⟨(by decide +kernel:1<=(obE o0).length),(by decide +kernel:(obE o0).length<=5000),?_⟩;exact KZ (z:=s10) (o:=o0) (ht.ext h0) (by decide +kernel) (by show (0:Nat)<=_;omega)
theorem PgL.pgs{P:Nat->Byt}(h:PgL base w v n P) (h64:∀j,j<n->(P j).length=64):xW w v ((List.range n).map P):=by
 obtain⟨G,h1,h2⟩:=h
 have h9:=qA.l1 h1 (fun i x=>ByV w x (((List.range n).map P).getD i [])) (fun i hi=>by
  rw[List.length_map,List.length_range] at hi
  have e1:((List.range n).map P).getD i []=P i:=by
   rw[List.getD_eq_getElem?_getD,List.getElem?_map,List.getElem?_range hi]
   rfl
  rw[e1,List.getElem_map,List.getElem_range];have h8:=(h2 i hi).2.all (c:=64) (by rw[h64 i hi];exact q_r) (by unfold maxLen;omega);rw[h64 i hi] at h8
  exact h8)
 rw[List.length_map,List.length_range] at h9;unfold xW;rw[List.length_map,List.length_range];exact h9
theorem jo{B:Option Addr}{l:Int}{b:Bool}{t:TypeId}{fr:Nat×Nat}(hb:w.heap[g]?=some (.cells #[.slice A n c,.slice B m d,.int .i64 l,.bool b] t fr)){x:Value}(h:w.cell? ⟨g,j,none⟩=some x):(j=0/\x=.slice A n c)\/(j=1/\x=.slice B m d)\/(j=2/\x=.int .i64 l)\/(j=3/\x=.bool b):=by
 rw[qj hb] at h
 have hj:j<4:=by
  rcases Nat.lt_or_ge j 4 with h4|h4
  ·exact h4
  ·rw[Array.getElem?_eq_none (by simpa using h4)] at h;cases h
 have:j=0\/j=1\/j=2\/j=3:=by omega
 rcases this with rfl|rfl|rfl|rfl
 ·exact .inl ⟨rfl,(Option.some.inj h).symm⟩
 ·exact .inr (.inl ⟨rfl,(Option.some.inj h).symm⟩)
 ·exact .inr (.inr (.inl ⟨rfl,(Option.some.inj h).symm⟩))
 ·exact .inr (.inr (.inr ⟨rfl,(Option.some.inj h).symm⟩))
theorem ByV.updM{B:Option Addr}{b:Bool}{t:TypeId}{fr:Nat×Nat}{l:Byt}(h:ByV w v l) (hb:w.heap[g]?=some (.cells #[.slice A n c,.slice B m d,.int .i64 z,.bool b] t fr)) (U:Upd g w w'):ByV w' v l:=by
 obtain⟨A',c',hv,h1,h2,h3⟩:=h;refine⟨A',c',hv,h1,h2,fun hn=>?_⟩;obtain⟨q,off,e1,h4⟩:=h3 hn;refine⟨q,off,e1,fun i hi=>U.cell (h4 i hi) ?_⟩;rintro rfl
 rcases jo hb (h4 i hi) with ⟨-,h9⟩|⟨-,h9⟩|⟨-,h9⟩|⟨-,h9⟩<;>simp at h9
theorem xW.updM{B:Option Addr}{b:Bool}{t:TypeId}{fr:Nat×Nat}{l:List Byt}(h:xW w v l) (h8:3<=l.length) (hb:w.heap[g]?=some (.cells #[.slice A n c,.slice B m d,.int .i64 z,.bool b] t fr)) (U:Upd g w w'):xW w' v l:=by
 obtain⟨A',c',hv,h1,h2,h3⟩:=h;refine⟨A',c',hv,h1,h2,fun hn=>?_⟩;obtain⟨q,off,e1,h4⟩:=h3 hn
 have hq:q≠g:=by
  rintro rfl;obtain⟨x,k1,k2⟩:=h4 2 (by omega);obtain⟨A9,c9,h9,-⟩:=ByV.form k2
  rcases jo hb k1 with ⟨h8,-⟩|⟨h8,-⟩|⟨-,h8⟩|⟨-,h8⟩
  ·omega
  ·omega
  ·rw[h8] at h9;cases h9
  ·rw[h8] at h9;cases h9
 refine⟨q,off,e1,fun i hi=>?_⟩;obtain⟨x,k1,k2⟩:=h4 i hi;exact⟨x,U.cell k1 hq,ByV.updM k2 hb U⟩
theorem zx.updM{B:Option Addr}{b:Bool}{t:TypeId}{fr:Nat×Nat}{l:List qW}(h:zx w v l) (hb:w.heap[g]?=some (.cells #[.slice A n c,.slice B m d,.int .i64 z,.bool b] t fr)) (U:Upd g w w'):zx w' v l:=by
 obtain⟨A',c',hv,h1,h2,h3⟩:=h;refine⟨A',c',hv,h1,h2,fun hn=>?_⟩;obtain⟨q,off,e1,h4⟩:=h3 hn
 have hq:q≠g:=by
  rintro rfl;obtain⟨x,y,zz,k1,k2,k3,k4,k5,k6⟩:=h4 0 hn;subst k4 k6;have hx:=jo hb k1;have hz:=jo hb k3
  rcases hx with ⟨-,h9⟩|⟨-,h9⟩|⟨e9,-⟩|⟨-,h9⟩
  ·simp at h9
  ·simp at h9
  ·rcases hz with ⟨e8,-⟩|⟨e8,-⟩|⟨e8,-⟩|⟨e8,-⟩<;>omega
  ·simp at h9
 refine⟨q,off,e1,fun i hi=>?_⟩;obtain⟨x,y,zz,k1,k2,k3,k4,k5,k6⟩:=h4 i hi;exact⟨x,y,zz,U.cell k1 hq,U.cell k2 hq,U.cell k3 hq,k4,ByV.updM k5 hb U,k6⟩
def JG (a b h u:Int) (O:List Ob) (T:List Tg) (n k:Nat) (w:World) (e:Ending) (w':World):Prop:=∃A c B d,e=.returned (.tuple #[.agg #[.int .i64 a,.int .i64 b,.int .i64 h,.int .i64 u,.slice A n c,.slice B k d],.int .i64 0])/\jH w' (.slice A n c) O/\vM w' (.slice B k d) T/\Ext w w'
theorem YW.x {s:Shf}{e:Ending}(h:YW s w e w'):JG s.size s.seq s.half s.used s.objs s.tags s.objs.length s.tags.length w e w':=by
 obtain⟨A,n,c,B,k,d,rfl,rfl,h1,h2,h3,h4⟩:=h;exact⟨A,c,B,d,h1,h2,h3,h4⟩
def Ws (m:Med) (n k:Nat) (l:Int) (b:Bool) (z:Int) (w:World) (e:Ending) (w':World):Prop:=∃A c B d,e=.returned (.tuple #[.agg #[.slice A n c,.slice B k d,.int .i64 l,.bool b],.int .i64 z])/\MdF w.heap.size w' (.slice A n c) (.slice B k d) m/\Ext w w'
theorem yu.x {r:Med×Int}{e:Ending}(h:yu r w e w'):Ws r.1 r.1.pages.length r.1.acts.length r.1.left r.1.dead r.2 w e w':=h
theorem VC {p:List Byt}{s0 s:Shf}{B:Option Addr}(hP:xW w (.slice A n c) p) (hA:zx w (.slice B 0 d) []) (hn:n=p.length) (hm:x8 ⟨p,[],-1,false⟩) (hmk:xe w) (hb:qM p 2=(true,s0)) (hq0:0<=s0.seq) (hq1:s0.seq<=2147483647) (hlg:q0A w s0 (JI p s0) s) :
  Calls Tryz.prog 21 #[.agg #[.slice A n c,.slice B 0 d,.int .i64 (-1),.bool false]] w (JG s.size s.seq s.half s.used s.objs s.tags s.objs.length s.tags.length w):=by
 have hap:qY p []=p:=rfl;refine Calls.mono (JY (m:=⟨p,[],-1,false⟩) (s:=s) hP hn hA rfl hm (by omega) hmk ?_ ?_ ?_ ?_) (fun e w' h=>h.x)
 ·show (qM (qY p []) 2).1=true
  rw[hap,hb]
 ·show 0<=(qM (qY p []) 2).2.seq
  rw[hap,hb];exact hq0
 ·show (qM (qY p []) 2).2.seq<=_
  rw[hap,hb];exact hq1
 ·show q0A w (qM (qY p []) 2).2 (JI (qY p []) (qM (qY p []) 2).2) s
  rw[hap,hb];exact hlg
theorem WQ (w:World):ByV w (.slice none 0 0) []:=⟨none,0,rfl,q_r,Nat.zero_le _,fun h=>absurd h (Nat.lt_irrefl 0)⟩
theorem Yg (w:World):zF w (.slice none 0 0) []:=⟨none,0,rfl,q_r,Nat.zero_le _,fun h=>absurd h (Nat.lt_irrefl 0)⟩
theorem okS0:OkS s00:=⟨fun i hi=>absurd hi (Nat.not_lt_zero i),fun i hi=>absurd hi (Nat.not_lt_zero i),Nat.zero_le _,Nat.zero_le _⟩
theorem ok00:Ok0 o0:=⟨Nat.zero_le _,Nat.zero_le _,fun s hs=>by cases hs⟩
theorem q02(he:xh w.heap.size w):Calls Tryz.prog 10 #[] w (qG w (.bool true)):=by
 have HEV:=q_h he;clear he;go_enter Tryz.func10,Tryz.ntmps10;have HF:Hid (Calls Tryz.prog 20 #[.int .i64 8] w (WA w 8)):=X4 (n:=8) (by omega) (by omega) HEV.out.mark;go_wp2_with (go_at_call 20;refine q_o ?_);refine HF.out.mono ?_;rintro e w1 ⟨A1,c1,rfl,hP1,e1⟩
 have HP1:Hid (xW w1 (.slice A1 8 c1) pg0):=hP1.pgs (fun j hj=>by
  unfold q05
  split
  ·exact jb _ _ _
  ·exact zk 64)
 have HX1:=q_h e1;clear hP1 e1 HF;go_upto_region 2 with (fail);refine qm ?_;intro w2 e2 hsz2 B2;obtain⟨g1,hg1⟩:=qc w1.heap.size;rw[<-hg1.out] at B2 ⊢;have HG1:Hid (w.heap.size<=g1):=by rw[Hid,hg1.out];exact HX1.out.size
 have HM2:=q_h B2;have HP2:=q_h (HP1.out.ext e2);have HX2:=q_h (HX1.out.trans e2);clear e2 B2 HP1 HX1
 have HLD:Hid (Calls Tryz.prog 21 #[.agg #[.slice A1 8 c1,.slice none 0 0,.int .i64 (-1),.bool false]] w2 (JG 8 0 0 0 [] [] 0 0 w2)):=by
  rw[Hid];exact VC (s:=s00) HP2.out (zh w2) rfl (med0 _ _) (HEV.out.ext HX2.out).mark best0 (Int.le_refl _) (by decide) (by rw[log0];exact Vd w2 s00 ⟨rfl,rfl⟩)
 obtain⟨m0,m1,m2,m3⟩:=qC HM2.out;go_wp2_with (go_at_call 21;refine q_o ?_);refine HLD.out.mono ?_;rintro e w3 ⟨A3,c3,B3,d3,rfl,hO3,hT3,e3⟩;have HO3:=q_h hO3;have HT3:=q_h hT3;have HM3:=q_h (e3.block HM2.out);have HP3:=q_h (HP2.out.ext e3);have HX3:=q_h (HX2.out.trans e3);clear e3 hO3 hT3 HM2 HP2 HX2 HLD m0 m1 m2 m3;go_upto_region 3 with (fail);refine qm ?_;intro w4 e4 hsz4 B4;have HS4:=q_h B4;have HO4:=q_h (HO3.out.ext e4);have HT4:=q_h (HT3.out.ext e4);have HM4:=q_h (e4.block HM3.out);have HP4:=q_h (HP3.out.ext e4);have HX4:=q_h (HX3.out.trans e4);clear e4 B4 HO3 HT3 HM3 HP3 HX3;obtain⟨B,hB⟩:=qc (bA (qO o0))
 have HPT:Hid (Calls Tryz.prog 13 #[.agg #[.int .i64 8,.int .i64 0,.int .i64 0,.int .i64 0,.slice A3 0 c3,.slice B3 0 d3],.agg #[.slice none 0 0,.slice none 0 0]] w4 (fun e w'=>∃x y av,e=.returned (.tuple #[.agg #[.int .i64 8,.int .i64 1,.int .i64 0,.int .i64 1,x,y],av,.string B,.int .i64 0])/\jH w' x [o0]/\vM w' y []/\zx w' av ac1/\Ext w4 w')):=by
  have h1:=Xx Zh (s:=s00) (o:=o0) HO4.out HT4.out okS0 (show ObR w4 (.slice none 0 0) (.slice none 0 0) o0 from ⟨Yg w4,WQ w4⟩) ok00 ((HEV.out.ext HX4.out).low HX4.out.size);rw[put0] at h1;refine Calls.mono h1 ?_;rintro e w' ⟨sv,av,rfl,⟨x,y,rfl,h2,h3⟩,h4,h5⟩;exact⟨x,y,av,by rw[hB.out,<-zy];rfl,h2,h3,h4,h5⟩
 have HBZ:Hid (B.size=32):=by
  rw[Hid,hB.out]
  show (qO o0).toArray.size=32
  rw[List.size_toArray];exact Vz _
 obtain⟨m0,m1,m2,m3,m4,m5⟩:=qp HS4.out;go_wp2_with (go_at_call 13;refine q_o ?_);refine HPT.out.mono ?_;rintro e w5 ⟨x5,y5,av5,rfl,hx5,hy5,hav5,e5⟩;obtain⟨X1,X2,rfl,-⟩:=hx5.form;obtain⟨Y1,Y2,rfl,-⟩:=hy5.form;obtain⟨AV,cv,rfl,-⟩:=hav5.form;have HAV5:=q_h hav5;have HM5:=q_h (e5.block HM4.out);have HP5:=q_h (HP4.out.ext e5);have HX5:=q_h (HX4.out.trans e5);clear hx5 hy5 hav5 e5 HS4 HO4 HT4 HM4 HP4 HX4 HPT m0 m1 m2 m3 m4 m5 hB;go_upto_region 4 with (fail);refine qm ?_;intro w6 e6 hsz6 B6;have HT6:=q_h B6;have HAV6:=q_h (HAV5.out.ext e6);have HM6:=q_h (e6.block HM5.out);have HP6:=q_h (HP5.out.ext e6);have HX6:=q_h (HX5.out.trans e6);clear e6 B6 HAV5 HM5 HP5 HX5;obtain⟨m0,m1,m2,m3⟩:=qC HM6.out;obtain⟨t0,t1,t2,t3,t4,t5⟩:=qp HT6.out;obtain⟨ga,oa,rfl,hax⟩:=HAV6.out.at_ rfl (by decide);obtain⟨D0,n0,f0,a0,-,-,-⟩:=hax 0 (by decide);obtain⟨D1,n1,f1,-,-,a1,-⟩:=hax 1 (by decide);obtain⟨D2,n2,f2,a2,-,-,-⟩:=hax 2 (by decide);obtain⟨D3,n3,f3,-,-,a3,-⟩:=hax 3 (by decide)
 have hcv4:4<=cv:=by
  obtain⟨A',c',h1,h2,-⟩:=HAV6.out.form;obtain⟨-,e1,e2⟩:=Value.slice.inj h1;have:ac1.length=4:=rfl;omega
 have a0':w6.cell? ⟨ga,oa,none⟩=some (.int .i64 2):=a0;have a1':w6.cell? ⟨ga,oa+5,none⟩=some (.bool true):=a1;have a2':w6.cell? ⟨ga,oa+6,none⟩=some (.int .i64 1):=a2;have a3':w6.cell? ⟨ga,oa+11,none⟩=some (.bool true):=a3;have HAV6:Hid (zx w6 (.slice (some ⟨ga,oa,none⟩) 4 cv) ac1):=HAV6.out;have hbz:=HBZ.out;clear a0 a1 a2 a3 hax;have hl4:ac1.length=4:=rfl;rw[hl4];go_upto_region 6 with (fail);clear t0 t1 t2 t3 t4 t5 a0' a1' a2' a3' m0 m1 m2 m3 hbz hcv4 HT6;refine wp_region_lit ?_;refine wpList_plain rfl (fun K hK=>?_);go_simp;refine hK _ _ ?_;clear hK K;try simp only[nr]
 obtain⟨wa,Ea,Ba,Ua⟩:=qI HM6.out 2 (.int .i64 3);have f4:=qo HM6.out 2;have c4':=(qj HM6.out 2).trans rfl;refine wpList_plain rfl (fun K hK=>?_);go_simp;try rw[Ea]
 refine hK _ _ ?_;clear hK K f4 c4' Ea;try simp only[nr]
 have HM7:Hid (wa.heap[g1]?=some (.cells #[.slice A1 8 c1,.slice none 0 0,.int .i64 3,.bool false] 46 (0,0))):=Ba;have HP7:=q_h (HP6.out.updM (by decide) HM6.out Ua);have HAV7:=q_h (HAV6.out.updM HM6.out Ua);have HX7:Hid (Ext w wa):=(Ua.chg (NoU.mk HM6.out (by decide))).ext HX6.out HG1.out;clear Ba Ua HM6 HP6 HAV6 HX6;obtain⟨w7,hw7⟩:∃w7,w7=wa:=⟨_,rfl⟩
 subst hw7
 have HPF:Hid (Calls Tryz.prog 23 #[.agg #[.slice A1 8 c1,.slice none 0 0,.int .i64 3,.bool false],.slice (some ⟨ga,oa,none⟩) 4 cv] w7 (Ws ⟨pg0.set 2 lp0,[⟨1,xN 1 0 1,false⟩],0,true⟩ 8 1 0 true 16 w7)):=by
  have h1:=Zm (m:=⟨pg0,[],3,false⟩) (l:=ac1) HP7.out rfl (zh w7) rfl (med0 _ _) HAV7.out rfl act0 (by omega) (by decide) (by decide);rw[perf0] at h1;rw[Hid];exact Calls.mono h1 (fun e w' h=>h.x)
 obtain⟨m0,m1,m2,m3⟩:=qC HM7.out;go_upto_region 7 with (fail);refine wp_region_lit ?_;refine wpList_plain rfl (fun K hK=>?_);go_simp;refine hK _ _ ?_;clear hK K;try simp only[nr]
 refine wpList_plain rfl (fun K hK=>?_);go_simp;refine hK _ _ ?_;clear hK K;try simp only[nr]
 refine wpList_plain rfl (fun K hK0=>?_);have hK:=q_h hK0;clear hK0;go_simp;refine HPF.out.mono ?_;rintro e w8 ⟨A8,c8,B8,d8,rfl,hMD8,e8⟩;have HMD8:=q_h hMD8;have HM8:=q_h (e8.block HM7.out);have HX8:=q_h (HX7.out.trans e8);clear hMD8 e8 HM7 HX7 HP7 HAV7 HPF m0 m1 m2 m3;go_wp2_with fail;refine hK.out _ _ ?_;clear hK K;try simp only[nr]
 refine wpList_plain rfl (fun K hK=>?_);go_simp;refine hK _ _ ?_;clear hK K;try simp only[nr]
 refine wpList_plain rfl (fun K hK=>?_);go_simp;refine hK _ _ ?_;clear hK K;try simp only[nr]
 refine wpList_plain rfl (fun K hK=>?_);go_simp;refine hK _ _ ?_;clear hK K;try simp only[nr]
 refine qg rfl 46 _ _ rfl (by rfl) (by rfl) HM8.out kW (by rfl) (by rfl) (by rfl) ?_;intro w9 B9 U9;have HC9:=q_h (U9.chg (NoU.mk HM8.out (by decide)));have HM9:=q_h B9;have HP9:Hid (xW w9 (.slice A8 8 c8) (pg0.set 2 lp0)):=(HMD8.out.1.chgT HC9.out HM8.out (by decide) (by decide)).pgs;have HA9:Hid (zx w9 (.slice B8 1 d8) [⟨1,xN 1 0 1,false⟩]):=(HMD8.out.2.chgT HC9.out HM8.out (by decide) (by decide)).acts;have HX9:Hid (Ext w w9):=HC9.out.ext HX8.out HG1.out;clear B9 U9 HC9 HMD8 HM8 HX8;obtain⟨m0,m1,m2,m3⟩:=qC HM9.out
 have HCR:Hid (∀(w':World) (g:Nat) (b:Bool),Ext w9 w'->w'.heap[g]?=some (.cells #[.bool b] 4 (0,0))->Calls Tryz.prog 24 #[.agg #[.slice A8 8 c8,.slice B8 1 d8,.int .i64 0,.bool true],.slice (some ⟨g,0,none⟩) 1 1] w' (Ws (yc ⟨pg0.set 2 lp0,[⟨1,xN 1 0 1,false⟩],0,true⟩ [b]) 8 0 (-1) false 0 w')):=fun w' g b e hb=>by
  have hbl:BlV w' (.slice (some ⟨g,0,none⟩) 1 1) [b]:=by
   refine⟨_,1,rfl,q_r,by unfold maxLen;show 1<=_;omega,fun _=>⟨g,0,rfl,fun i hi=>?_⟩⟩;obtain rfl:i=0:=by have:i<1:=hi;omega
   exact⟨.bool b,qj hb 0,rfl⟩
  have h1:=Xy (m:=⟨pg0.set 2 lp0,[⟨1,xN 1 0 1,false⟩],0,true⟩) (kp:=[b]) (HP9.out.ext e) rfl (HA9.out.ext e) rfl (med1 _ _) hbl rfl (by omega);refine Calls.mono h1 (fun e w' h=>?_);have h2:=h.x;cases b<;>exact h2
 go_wp2_with (go_at_call 24;refine q_o ?_);refine (HCR.out _ _ true ((Ext.refl w9).alloc _) (heap_alloc_new w9 _)).mono ?_;rintro e wa ⟨Aa,ca,Ba,da,rfl,hMDa,ea⟩;have HE9a:Hid (Ext w9 wa):=((Ext.refl w9).alloc _).trans ea
 have HPa0:Hid (xW wa (.slice Aa 8 ca) ((pg0.set 2 lp0).set 1 (xN 1 0 1))):=by
  have h1:=hMDa.pgs;rw[q07] at h1;exact h1
 have HAa:Hid (zx wa (.slice Ba 0 da) []):=hMDa.acts;clear hMDa ea m0 m1 m2 m3;go_upto_region 11 with (fail);refine qm ?_;intro wb eb hszb B11;obtain⟨g9,hg9⟩:=qc wa.heap.size;rw[<-hg9.out] at B11 ⊢;have HM11:=q_h B11;have HE11:=q_h (HE9a.out.trans eb);have HP11:=q_h (HPa0.out.ext eb);have HA11:=q_h (HAa.out.ext eb);clear eb B11 hszb HE9a HPa0 HAa;obtain⟨m0,m1,m2,m3⟩:=qC (HE11.out.block HM9.out);go_wp2_with (go_at_call 24;refine q_o ?_);refine (HCR.out _ _ false (HE11.out.alloc _) (heap_alloc_new wb _)).mono ?_;rintro e wc ⟨Ac,cc,Bc,dc,rfl,hMDc,ec⟩;have HEbc:Hid (Ext wb wc):=((Ext.refl wb).alloc _).trans ec
 have HPc0:Hid (xW wc (.slice Ac 8 cc) (pg0.set 2 lp0)):=by
  have h1:=hMDc.pgs;rw[q08] at h1;exact h1
 have HAc:Hid (zx wc (.slice Bc 0 dc) []):=hMDc.acts;clear hMDc ec m0 m1 m2 m3;go_upto_region 12 with (fail);refine qm ?_;intro wd ed hszd B12;obtain⟨g10,hg10⟩:=qc wc.heap.size;rw[<-hg10.out] at B12 ⊢;have HM12:=q_h B12;have HEbd:=q_h (HEbc.out.trans ed);have HP12:=q_h (HPc0.out.ext ed);have HA12:=q_h (HAc.out.ext ed);have HMX:=q_h (HEbd.out.block HM11.out);have HX12:=q_h (HX9.out.trans (HE11.out.trans HEbd.out))
 have HLA:Hid (Calls Tryz.prog 21 #[.agg #[.slice Aa 8 ca,.slice Ba 0 da,.int .i64 (-1),.bool false]] wd (JG 8 1 0 1 [o0] [] 1 0 wd)):=by
  rw[Hid];exact VC (s:=s11) (HP11.out.ext HEbd.out) (HA11.out.ext HEbd.out) rfl (med3 _ _) (HEV.out.ext HX12.out).mark best2 (by decide) (by decide) (by rw[log2];exact WV wd (HEV.out.ext HX12.out).tab)
 have HLB:Hid (∀w',Ext wd w'->Calls Tryz.prog 21 #[.agg #[.slice Ac 8 cc,.slice Bc 0 dc,.int .i64 (-1),.bool false]] w' (JG 8 0 0 0 [] [] 0 0 w')):=fun w' e=>VC (s:=s00) (HP12.out.ext e) (HA12.out.ext e) rfl (med2 _ _) (HEV.out.ext (HX12.out.trans e)).mark best1 (Int.le_refl _) (by decide) (by rw[log1];exact Vd w' s00 ⟨rfl,rfl⟩)
 clear ed B12 hszd HEbc HPc0 HAc HP11 HA11 HP12 HA12 HCR HM11 HE11 HX9 HEbd HP9 HA9;obtain⟨m0,m1,m2,m3⟩:=qC HMX.out;go_wp2_with (go_at_call 21;refine q_o ?_);refine HLA.out.mono ?_;rintro e we ⟨Ae,ce,Be,de,rfl,-,-,ee⟩;have HEe:=q_h ee;have HMe:=q_h (ee.block HM12.out);have HXe:=q_h (HX12.out.trans ee);clear ee m0 m1 m2 m3 HM12 HX12 HLA HMX;go_upto_region 13 with (fail);refine qm ?_;intro wf ef hszf B13;have HT13:=q_h B13;have HEf:=q_h (HEe.out.trans ef);have HMf:=q_h (ef.block HMe.out);have HXf:=q_h (HXe.out.trans ef);clear ef B13 HEe HMe HXe;obtain⟨m0,m1,m2,m3⟩:=qC HMf.out;go_wp2_with (go_at_call 21;refine q_o ?_);refine (HLB.out _ HEf.out).mono ?_;rintro e wg ⟨Ag,cg,Bg,dg',rfl,-,-,eg⟩;have HTg:=q_h (eg.block HT13.out);have HXg:=q_h (HXf.out.trans eg);clear eg m0 m1 m2 m3 HT13 HXf HLB HMf HEf;go_upto_region 14 with (fail);refine qm ?_;intro wh eh hszh B14;have HXh:=q_h (HXg.out.trans eh);obtain⟨t0,t1,t2,t3,t4,t5⟩:=qp (eh.block HTg.out);obtain⟨s0,s1,s2,s3,s4,s5⟩:=qp B14;clear eh B14 HTg HXg;go_wp2
 first|go_ret|skip
 exact⟨rfl,HXh.out⟩
end Go.Proofs.YtdeeekdbhhenpaaGreatDoor
