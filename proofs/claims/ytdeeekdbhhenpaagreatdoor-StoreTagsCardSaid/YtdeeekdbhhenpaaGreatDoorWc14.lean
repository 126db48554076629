import Derived.Test.YtdeeekdbhhenpaaGreatDoorWc13
import Derived.Shelf.Bytes.SlJoin
set_option linter.all false
set_option maxHeartbeats 8000000
set_option maxRecDepth 100000
namespace Go.Proofs.YtdeeekdbhhenpaaGreatDoor
variable {w w':World} {N n k g i base c d:Nat} {v:Value} {z:Int} {A:Option Addr}
section
open Go.RowKit
def q0B (W0:World) (g:Nat) (V:Vl) (t:Byt) (w:World) (e:Ending) (w':World):Prop:=∃v,e=.returned (.tuple #[v,.bool true])/\VlP (fun k=>w.heap.size<=k) W0.heap.size w' V v/\RdA W0 g t w'/\Chg g (g+1) w w'
theorem vX {ops:Array Oper}{rest:List Oper}{o:Oper}{a:Act}{Q:Exit->Act->World->Prop}(hgd:o.guard=none) (s x:Operand) (ho:o.op=.call { callee:=.builtin .append,args:=#[s,x],argTypes:=#[27,27] }){B:Option Addr}(hs:a.eval s=.slice B n k) (hx:a.eval x=.slice A 0 c) (hk:n<=k)
  (hK:wpList Tryz.prog ops Q rest (a.put o.dst (.slice B n k)) w):wpList Tryz.prog ops Q (o :: rest) a w:=by
 refine wpList_plain hgd fun _ hK'=>?_
 obtain⟨i0,hi0,-⟩:=info_parts kX.inf;have hrun:=kC (P:=Tryz.prog) (ty:=o.type) Tryz.underlying27 hi0 B n k hk A c w;unfold Oper.wp execOp;simp only[ho,resolve,invoke,builtin,Sem.run_bind,Sem.run_pure,Result.andThen_ok,List.map_toArray,List.map_cons,List.map_nil,hs,hx,hrun];exact hK' _ _ hK
def q2b (w:World) (l:Byt) (e:Ending) (w':World):Prop:=∃q k,e=.returned (.slice (some ⟨q,0,none⟩) l.length k)/\ByV w' (.slice (some ⟨q,0,none⟩) l.length k) l/\w.heap.size<=q/\q<w'.heap.size/\Ext w w'
theorem VQ{ad:Addr}{l:Byt}(h:ByV w (.slice (some ad) n c) l) (hl:l.length<=1000000):Calls Tryz.prog 92 #[.slice (some ad) n c] w (q2b w l):=by
 obtain⟨Rf,hRf⟩:=qf (q2b w l);rw[<-hRf.out];have HS:=q_h h
 have HN:Hid (n=l.length):=by
  obtain⟨A',c',h1,-⟩:=h.form;obtain⟨-,h2,-⟩:=Value.slice.inj h1;exact h2
 clear h;have HL:=q_h hl;clear hl;have hnl:=fun (w:World) (a:Option Addr) (n c:Nat)=>Lib.run_eql_slice_nil (P:=Tryz.prog) w 27 5 a n c 0 0 Tryz.underlying27
 go_enter Tryz.func92,Tryz.ntmps92;go_wp2_with (at_builtin;refine q_o ?_);refine qo ?_;intro W hE hsz B0
 rcases Nat.eq_zero_or_pos n with h0|h0
 ·subst h0;have hl0:l=[]:=List.eq_nil_of_length_eq_zero HN.out.symm;subst hl0;refine vX rfl _ _ rfl (by rfl) (by rfl) (q_r) ?_;have HB0:=q_h B0;have HE:=q_h hE;clear B0 hE;go_wp2
  first|go_ret|skip
  rw[hRf.out];exact⟨_,0,rfl,⟨_,_,rfl,q_r,Nat.zero_le _,fun h=>absurd h (Nat.lt_irrefl 0)⟩,q_r,qK HB0.out,HE.out⟩
 ·refine zC kX rfl _ _ 27 Tryz.underlying27 rfl (by rfl) (qB.empty (q_r) B0) (by rfl) (news:=byC l) (by rw[qy];exact HN.out.symm) (ByV.news (HS.out.ext hE) HN.out) (jg l) (by have:=HL.out;have:=HN.out;simp;omega) ?_;rintro v2 w2 ⟨hG,-,g',hg',-,C2⟩;have hE2:=C2.ext hE (by omega);rw[List.nil_append] at hG;have HG:Hid (GrB w.heap.size w2 v2 l):=hG;obtain⟨q,cap,rfl,hq1,hq2,-⟩:=qB.at_ hG (by rw[qy];have:=HN.out;omega);have HQ:=q_h (And.intro hq1 hq2);have HE2:=q_h hE2;rw[qy] at HG ⊢;clear hG hE2 hE B0 C2 hq1 hq2;go_wp2
  first|go_ret|skip
  rw[hRf.out];exact⟨q,cap,rfl,HG.out.by,HQ.out.1,HQ.out.2,HE2.out⟩
theorem jc:(Tryz.prog.info? 117).map (·.size)=some 5:=by kernel_rfl
theorem Jt:∀(m:Nat) (V:Vl),szV V<=m->∀(W0 w:World) (g d:Nat) (t:Byt),RdA W0 g (enc V++t) w->zX V<=d->d<1000->jR V->kG W0->(enc V).length<=65536 ->
  Calls Tryz.prog 218 #[.pointer (some ⟨g,0,none⟩),.int .i64 (d:Int)] w (q0B W0 g V t w)
 | 0,V,hm,_,_,_,_,_,_,_,_,_,_,_=>by cases V<;>(unfold szV at hm;omega)
 | m+1,V,hm,W0,w,g,d,t,hr,hd,hd9,hs,ht,hl=>by
  obtain⟨R,hR⟩:=qf (q0B W0 g V t w);rw[<-hR.out];obtain⟨b,off,k,hB,hby,hg,hE⟩:=hr;have HT0:=q_h ht;obtain⟨L,hL⟩:=qf (enc V++t);rw[<-hL.out] at hB hby;obtain⟨n,hn⟩:=qf L.length;rw[<-hn.out] at hB hby;have HBY:=q_h hby
  have hn1:1<=n:=by
   rw[hn.out,hL.out,List.length_append];have:=Vw V;omega
  have hnk:n<=k/\k<=maxLen:=by
   obtain⟨A',c',h1,h2,h3⟩:=HBY.out.form;obtain⟨-,e1,e2⟩:=Value.slice.inj h1;omega
  have hk9:=hnk.2;unfold maxLen at hk9;have HB:=q_h hB;have HE:=q_h hE;obtain⟨c0,hc0⟩:=qf (chZ L 0)
  have HC0:Hid (w.cell? ⟨b,off,none⟩=some (.int .u8 c0)):=by
   obtain⟨q,o2,e1,h2⟩:=HBY.out.addr (by omega);injection e1 with e1
   injection e1 with e1 e2
   subst e1 e2;have:=hE.cell (h2 0 (by omega));rw[hc0.out];exact this
  obtain⟨L1,hL1⟩:=qf (L.drop 1);have HDT:Hid (L.drop 1=L1):=hL1.out.symm;have HDL:Hid (n-1=L1.length):=by rw[Hid,hL1.out,List.length_drop,hn.out]
  clear hB hby hE ht;have z0:(n == 0)=false:=by simp;omega
  have z1:((n:Int) == 0)=false:=by simp;omega
  have z2:decide ((n:Int)=0)=false:=q_f (by omega);have z3:(0:Int)<(n:Int):=by omega
  go_enter Tryz.func218,Tryz.ntmps218;go_upto_region 1 with (fail);refine qo ?_;intro w1 hE1 hsz1 B0;obtain⟨gr,hgr⟩:=qf w.heap.size;rw[<-hgr.out] at B0 ⊢;have HX1:=q_h (HE.out.trans hE1);have HBR:=q_h (hE1.block HB.out);have HRS:=q_h B0;have HE1:=q_h hE1;obtain⟨r0,-⟩:=kK HBR.out;have q0:=hE1.cell HC0.out;clear hE1 B0 HC0;have z4:(1:Int)<=(k:Int):=by omega
  have z5:(1:Int)<=(n:Int):=by omega
  go_upto_region 4 with (fail);refine wp_region_lit ?_;refine wpList_plain rfl (fun K hK=>?_);go_simp;refine hK _ _ ?_;clear hK K;try simp only[nr]
  refine wpList_plain rfl (fun K hK=>?_);go_simp;refine hK _ _ ?_;clear hK K;try simp only[nr]
  refine wpList_plain rfl (fun K hK=>?_);go_simp;refine hK _ _ ?_;clear hK K;try simp only[nr]
  refine wpList_plain rfl (fun K hK=>?_);go_simp;refine hK _ _ ?_;clear hK K;try simp only[nr]
  refine wpList_plain rfl (fun K hK=>?_);go_simp;refine hK _ _ ?_;clear hK K;try simp only[nr]
  refine wpList_plain rfl (fun K hK=>?_);go_simp;refine hK _ _ ?_;clear hK K;try simp only[nr]
  obtain⟨o',hp'⟩:∃o':Nat,(if k=1 then some (⟨b,off,none⟩:Addr) else some ⟨b,off+1,none⟩)=some ⟨b,o',none⟩:=by
   split
   ·exact⟨_,rfl⟩
   ·exact⟨_,rfl⟩
  have HT:Hid (ByV W0 (.slice (some ⟨b,o',none⟩) (L1).length (k-1)) L1):=by
   have h2:=HBY.out.from (k:=1) (by omega)
   have h3:(if k=1 then some (⟨b,off,none⟩:Addr) else Option.map (fun x:Addr=>x.add 1) (some ⟨b,off,none⟩))=some ⟨b,o',none⟩:=by
    rw[<-hp'];simp only[Option.map_some,qW]
   rw[h3,HDT.out,HDL.out] at h2;exact h2
  rw[hp',HDL.out];clear hp';refine wpList_plain rfl (fun K hK=>?_);go_simp;refine hK _ _ ?_;clear hK K;try simp only[nr]
  refine wpList_plain rfl (fun K hK=>?_);go_simp;refine hK _ _ ?_;clear hK K;try simp only[nr]
  obtain⟨tl,htl⟩:=qf (L1).length;rw[<-htl.out] at HT ⊢;obtain⟨wa,Ea,Ba,Ua⟩:=qL HBR.out 0 (.slice (some ⟨b,o',none⟩) tl (k-1));have f4:=qp HBR.out 0;have c4':=(qj HBR.out 0).trans rfl;refine wpList_plain rfl (fun K hK=>?_);go_simp;try rw[Ea]
  refine hK _ _ ?_;clear hK K f4 c4' Ea;try simp only[nr]
  have HCa:=q_h (Ua.chg (NoU.mk HBR.out (by decide)));have HXa:Hid (Ext W0 wa):=HCa.out.ext HX1.out hg;have HRa:Hid (RdA W0 g L1 wa):=⟨b,o',k-1,by rw[<-htl.out];exact Ba,by rw[<-htl.out];exact HT.out,hg,HXa.out⟩
  obtain⟨w2,hw2⟩:∃w2,w2=wa:=⟨_,rfl⟩
  subst hw2;have HGL:Hid (g<gr):=by rw[Hid,hgr.out];exact qK HB.out
  have HR2:=q_h HRa.out;have HC2:Hid (Chg g (g+1) w w2):=(HE1.out.chg _ _).trans HCa.out;have HS2:Hid (w2.heap[gr]?=some (.cells #[.int .i64 0,.bool false,.slice none 0 0,.slice none 0 0,.slice none 0 0] 117 (0,0))):=HCa.out.blk HRS.out (.inr (by have:=HGL.out;omega));have HN2:Hid (gr<w2.heap.size):=qK HS2.out;have HTB2:=q_h (HT0.out.ext HXa.out);clear HT HXa HRa HCa HBR HRS HX1 HE1 Ba Ua r0 q0 HBY HB HE HDT HDL htl
  have HW:Hid (W0.heap.size<=w.heap.size/\W0.heap.size<=g):=by
   obtain⟨_,_,_,_,_,h9,-⟩:=HR2.out;rw[Hid];have:=HGL.out;have:=hgr.out;omega
  cases V with
  | int z =>
   unfold jR at hs;obtain⟨zn,hzn⟩:∃zn:Nat,z=(zn:Int):=⟨z.toNat,by omega⟩
   subst hzn;have hz9:zn<10:=by omega
   have HLE:Hid (c0=105/\L1=dec zn++59 :: t):=by
    have h1:enc (.int (zn:Int))++t=105 :: (dec zn++59 :: t):=by
     unfold enc;rw[Go.Lib.itoa_nonneg];simp[dec]
    rw[Hid,hc0.out,hL1.out,hL.out,h1];exact⟨rfl,rfl⟩
   have HU:Hid (Calls Tryz.prog 245 #[.pointer (some ⟨g,0,none⟩),.int .u8 59] w2 (q0C W0 g (sV (dec zn)) t w2)):=by
    have h0:=HR2.out;rw[HLE.out.2] at h0;have h1:=Jv (mk:=59) h0 (fun h=>by have:=Q9 h;revert this;decide);have e1:(((59:UInt8).toNat:Nat):Int)=59:=rfl;rw[e1] at h1;exact h1
   obtain⟨B,hB⟩:=qf (bA (dec zn));rw[qO,<-hB.out] at HU
   have HPA:Hid (∀w',Ext W0 w'->Calls Tryz.prog 246 #[.string B] w' (q28 W0.heap.size w' (zn:Int))):=fun w' e=>by
    rw[hB.out,<-qO];exact q07 hz9 e.size
   have hc5:=HLE.out.1;subst hc5;clear HLE hL hL1 hc0;go_wp2_with (go_at_call 245;refine q_o ?_);refine HU.out.mono ?_;rintro e w3 ⟨rfl,hr3,c3⟩;have HR3:=q_h hr3;have HC3:=q_h (HC2.out.trans c3);have HS3:=q_h (c3.blk HS2.out (.inr (by have:=HGL.out;omega)));have HX3:Hid (Ext W0 w3):=by obtain⟨_,_,_,_,_,_,h9⟩:=hr3;exact h9
   clear hr3 c3 HU HR2 HC2 HS2;go_wp2_with (go_at_call 246;refine q_o ?_);refine (HPA.out _ HX3.out).mono ?_;rintro e w4 ⟨pb,A4,n4,c4,rfl,hV,e4⟩;have HV:=q_h hV;have HR4:=q_h (HR3.out.ext e4);have HC4:=q_h (HC3.out.trans (e4.chg _ _));have HS4:=q_h (e4.block HS3.out);clear hV e4 HR3 HC3 HS3 HPA HX3;go_upto_region 11 with (fail);refine qo ?_;intro w5 e5 hsz5 B5;have HB5:=q_h B5;have HV5:=q_h (HV.out.ext e5);have HR5:=q_h (HR4.out.ext e5);have HC5:=q_h (HC4.out.trans (e5.chg _ _));have HS5:=q_h (e5.block HS4.out);clear e5 B5 HV HR4 HC4 HS4;obtain⟨x0,x1,-⟩:=cells2 HB5.out;refine wp_region_lit ?_;refine wpList_plain rfl (fun K hK=>?_);go_simp;refine hK _ _ ?_;clear hK K;try simp only[nr]
   refine wpList_plain rfl (fun K hK=>?_);go_simp;refine hK _ _ ?_;clear hK K;try simp only[nr]
   refine wpList_plain rfl (fun K hK=>?_);go_simp;refine hK _ _ ?_;clear hK K;try simp only[nr]
   refine wpList_plain rfl (fun K hK=>?_);go_simp;refine hK _ _ ?_;clear hK K;try simp only[nr]
   refine qh rfl 117 _ _ rfl (by rfl) (by rfl) HS5.out jc (by rfl) (by rfl) (by rfl) ?_;intro wz Bz Uz;have HCz:=q_h (Uz.chg (NoU.mk HS5.out (by decide)));obtain⟨y0,y1,y2,y3,y4⟩:=qA Bz;clear x0 x1;go_wp2;refine bodyPost_ret (v:=.tuple #[.agg #[.int .i64 0,.bool pb,.slice A4 n4 c4,.slice none 0 0,.slice none 0 0],.bool true]) ?_ rfl ?_
   ·simp[results,y0,y1,y2,y3,y4,go_sem]
   ·rw[hR.out];refine⟨_,rfl,?_,?_,HC5.out.late HCz.out (by have:=hgr.out;omega)⟩
    ·unfold VlP;exact⟨pb,A4,n4,c4,rfl,HV5.out.chg HCz.out (by have:=HW.out;have:=HGL.out;omega)⟩
    ·obtain⟨a1,a2,a3,a4,a5,a6,a7⟩:=HR5.out;exact⟨a1,a2,a3,HCz.out.blk a4 (.inl (by have:=HGL.out;omega)),a5,a6,HCz.out.ext a7 (by have:=HW.out;have:=HGL.out;omega)⟩
  | txt l =>
   unfold jR at hs
   have HLE:Hid (c0=116/\L1=dec l.length++58 :: (l++t)):=by
    have h1:enc (.txt l)++t=116 :: (dec l.length++58 :: (l++t)):=by
     unfold enc
     simp
    rw[Hid,hc0.out,hL1.out,hL.out,h1];exact⟨rfl,rfl⟩
   have HU:Hid (Calls Tryz.prog 247 #[.pointer (some ⟨g,0,none⟩)] w2 (q0G W0 g l.length (l++t) w2)):=by
    have h0:=HR2.out;rw[HLE.out.2] at h0;exact Jw h0 hs HT0.out
   have hc5:=HLE.out.1;subst hc5;obtain⟨ln,hln⟩:=qf l.length;rw[<-hln.out] at HU hs;clear HLE hL hL1 hc0;go_wp2_with (go_at_call 247;refine q_o ?_);refine HU.out.mono ?_;rintro e w3 ⟨rfl,hr3,c3⟩;have HR3:=q_h hr3;have HC3:=q_h (HC2.out.trans c3);have HS3:=q_h (c3.blk HS2.out (.inr (by have:=HGL.out;omega)));clear hr3 c3 HU HR2 HC2 HS2;clear hn hn1 hnk hk9 z0 z1 z2 z3 z4 z5;obtain⟨b,off,k,hB,hby,hg,hE⟩:=HR3.out;have HX3:=q_h hE;obtain⟨L2,hL2⟩:=qf (l++t);obtain⟨n,hn⟩:=qf (l++t).length;rw[<-hn.out] at hB hby;have HNL:Hid (n=ln+t.length):=by rw[Hid,hn.out,List.length_append,hln.out]
   have HB3:=q_h hB;have HBY:=q_h hby
   have hnk:n<=k/\k<=maxLen:=by
    obtain⟨A',c',h1,h2,h3⟩:=hby.form;obtain⟨-,e1,e2⟩:=Value.slice.inj h1;omega
   have hk9:=hnk.2;unfold maxLen at hk9;have hln2:ln<=n:=by have:=HNL.out;omega
   have HPX:Hid (ByV W0 (.slice (some ⟨b,off,none⟩) ln k) l):=by
    have h1:=HBY.out.cut (i:=ln) hln2;rw[hln.out,List.take_left' rfl,<-hln.out] at h1;exact h1
   have HCL:Hid (∀w',Ext W0 w'->Calls Tryz.prog 92 #[.slice (some ⟨b,off,none⟩) ln k] w' (q2b w' l)):=fun w' e=>VQ (HPX.out.ext e) (by have:=hln.out;omega)
   clear hB hby hE;obtain⟨r0,-⟩:=kK HB3.out;have y1:decide ((n:Int)<(ln:Int))=false:=q_f (by omega);have y2:(ln:Int)<=(k:Int):=by omega
   have y3:(ln:Int)<=(n:Int):=by omega
   go_wp2_with (go_at_call 92;refine q_o ?_);refine (HCL.out _ HX3.out).mono ?_;rintro e w4 ⟨q4,k4,rfl,hb4,hq4,hq5,e4⟩;rw[<-hln.out] at hb4 ⊢;have HV4:=q_h hb4
   have HQ4:Hid (gr<q4/\q4<w4.heap.size):=by
    have:=qK HS3.out;exact⟨by omega,hq5⟩
   have HB4:=q_h (e4.block HB3.out);have HC4:=q_h (HC3.out.trans (e4.chg _ _));have HS4:=q_h (e4.block HS3.out);have HX4:=q_h (HX3.out.trans e4);clear hb4 hq4 hq5 e4 HC3 HS3 HCL HX3 HB3 HR3 r0 HPX;go_upto_region 17 with (fail);refine qo ?_;intro w5 e5 hsz5 B5;obtain⟨gt,hgt⟩:=qf w4.heap.size;rw[<-hgt.out] at B5 ⊢;have HB5:=q_h B5;have HV5:=q_h (HV4.out.ext e5);have HBR:=q_h (e5.block HB4.out);have HC5:=q_h (HC4.out.trans (e5.chg _ _));have HS5:=q_h (e5.block HS4.out);have HX1:=q_h (HX4.out.trans e5);have HQ5:Hid (q4<gt):=by rw[Hid,hgt.out];exact HQ4.out.2
   clear e5 B5 HV4 HB4 HC4 HS4 HX4;have HDT:Hid ((l++t).drop ln=t):=by rw[Hid,hln.out,List.drop_left' rfl]
   have HDL:Hid (n-ln=t.length):=by have:=HNL.out;rw[Hid];omega
   obtain⟨r0,-⟩:=kK HBR.out;go_upto_region 17 with (fail);refine wp_region_lit ?_;refine wpList_plain rfl (fun K hK=>?_);go_simp;refine hK _ _ ?_;clear hK K;try simp only[nr]
   refine wpList_plain rfl (fun K hK=>?_);go_simp;refine hK _ _ ?_;clear hK K;try simp only[nr]
   refine wpList_plain rfl (fun K hK=>?_);go_simp;refine hK _ _ ?_;clear hK K;try simp only[nr]
   refine wpList_plain rfl (fun K hK=>?_);go_simp;refine hK _ _ ?_;clear hK K;try simp only[nr]
   refine wpList_plain rfl (fun K hK=>?_);go_simp;refine hK _ _ ?_;clear hK K;try simp only[nr]
   refine wpList_plain rfl (fun K hK=>?_);go_simp;refine hK _ _ ?_;clear hK K;try simp only[nr]
   refine wpList_plain rfl (fun K hK=>?_);go_simp;refine hK _ _ ?_;clear hK K;try simp only[nr]
   obtain⟨o',hp'⟩:∃o':Nat,(if k=ln then some (⟨b,off,none⟩:Addr) else some ⟨b,off+ln,none⟩)=some ⟨b,o',none⟩:=by
    split
    ·exact⟨_,rfl⟩
    ·exact⟨_,rfl⟩
   have HT:Hid (ByV W0 (.slice (some ⟨b,o',none⟩) (t).length (k-ln)) t):=by
    have h2:=HBY.out.from (k:=ln) (by omega)
    have h3:(if k=ln then some (⟨b,off,none⟩:Addr) else Option.map (fun x:Addr=>x.add ln) (some ⟨b,off,none⟩))=some ⟨b,o',none⟩:=by
     rw[<-hp'];simp only[Option.map_some,qW]
    rw[h3,HDT.out,HDL.out] at h2;exact h2
   rw[hp',HDL.out];clear hp';refine wpList_plain rfl (fun K hK=>?_);go_simp;refine hK _ _ ?_;clear hK K;try simp only[nr]
   refine wpList_plain rfl (fun K hK=>?_);go_simp;refine hK _ _ ?_;clear hK K;try simp only[nr]
   obtain⟨tl,htl⟩:=qf (t).length;rw[<-htl.out] at HT ⊢;obtain⟨wa,Ea,Ba,Ua⟩:=qL HBR.out 0 (.slice (some ⟨b,o',none⟩) tl (k-ln));have f4:=qp HBR.out 0;have c4':=(qj HBR.out 0).trans rfl;refine wpList_plain rfl (fun K hK=>?_);go_simp;try rw[Ea]
   refine hK _ _ ?_;clear hK K f4 c4' Ea;try simp only[nr]
   have HCa:=q_h (Ua.chg (NoU.mk HBR.out (by decide)));have HXa:Hid (Ext W0 wa):=HCa.out.ext HX1.out hg;have HRa:Hid (RdA W0 g t wa):=⟨b,o',k-ln,by rw[<-htl.out];exact Ba,by rw[<-htl.out];exact HT.out,hg,HXa.out⟩
   clear r0;have HB6:=q_h (HCa.out.blk HB5.out (.inr (by have:=HQ5.out;have:=HQ4.out.1;have:=HGL.out;omega)));have HV6:=q_h (ByV.own HV5.out HCa.out (.inr (by have:=HQ4.out.1;have:=HGL.out;omega)));have HS6:=q_h (HCa.out.blk HS5.out (.inr (by have:=HGL.out;omega)));have HC6:=q_h (HC5.out.trans HCa.out);clear HB5 HV5 HS5 HC5 Ba Ua HBR HX1;obtain⟨x0,x1,x2,x3,x4⟩:=qA HB6.out;go_upto_region 18 with (fail);refine wp_region_lit ?_;refine wpList_plain rfl (fun K hK=>?_);go_simp;refine hK _ _ ?_;clear hK K;try simp only[nr]
   refine qh rfl 117 _ _ rfl (by rfl) (by rfl) HS6.out jc (by rfl) (by rfl) (by rfl) ?_;intro wz Bz Uz;have HCz:=q_h (Uz.chg (NoU.mk HS6.out (by decide)));obtain⟨y0,y1,y2,y3,y4⟩:=qA Bz;clear x0 x1 x2 x3 x4;go_wp2;refine bodyPost_ret (v:=.tuple #[.agg #[.int .i64 1,.bool false,.slice none 0 0,.slice (some ⟨q4,0,none⟩) ln k4,.slice none 0 0],.bool true]) ?_ rfl ?_
   ·simp[results,y0,y1,y2,y3,y4,go_sem]
   ·rw[hR.out];refine⟨_,rfl,?_,?_,HC6.out.late HCz.out (by have:=hgr.out;omega)⟩
    ·unfold VlP;have h8:=ByV.own HV6.out HCz.out (.inr (by have:=HQ4.out.1;omega));refine⟨q4,k4,by rw[hln.out],by rw[<-hln.out];exact h8,by have:=HQ4.out.1;have:=hgr.out;omega,?_⟩;have:=Nat.lt_of_lt_of_le HQ5.out (Nat.le_of_lt (qK HB6.out));exact Nat.lt_of_lt_of_le this HCz.out.size
    ·obtain⟨a1,a2,a3,a4,a5,a6,a7⟩:=HRa.out;exact⟨a1,a2,a3,HCz.out.blk a4 (.inl (by have:=HGL.out;omega)),a5,a6,HCz.out.ext a7 (by have:=HW.out;have:=HGL.out;omega)⟩
  | lst vs =>
   unfold jR at hs;unfold szV at hm;unfold zX at hd;obtain⟨d',rfl⟩:∃d',d=d'+1:=⟨d-1,by omega⟩
   have HLE:Hid (c0=108/\L1=dec vs.length++58 :: (zV vs++t)):=by
    have h1:enc (.lst vs)++t=108 :: (dec vs.length++58 :: (zV vs++t)):=by
     unfold enc
     simp
    rw[Hid,hc0.out,hL1.out,hL.out,h1];exact⟨rfl,rfl⟩
   have hle:(zV vs).length<=65536:=by
    unfold enc at hl;simp at hl
    omega
   have HU:Hid (Calls Tryz.prog 247 #[.pointer (some ⟨g,0,none⟩)] w2 (q0G W0 g vs.length (zV vs++t) w2)):=by
    have h0:=HR2.out;rw[HLE.out.2] at h0;exact Jw h0 hs.1 HT0.out
   have HIH:Hid (∀i,i<vs.length->∀(w':World) (t':Byt),RdA W0 g (enc (vs[i]?.getD default)++t') w'->Calls Tryz.prog 218 #[.pointer (some ⟨g,0,none⟩),.int .i64 (d':Int)] w' (q0B W0 g (vs[i]?.getD default) t' w')):=fun i hi w' t' h=>by
    refine Jt m (vs[i]?.getD default) (by have:=xO vs i hi;omega) W0 w' g d' t' h ((Zq vs d').1 (by omega) i hi) (by omega) (jS vs i hs.2 hi) HT0.out ?_;have h1:=y8 vs i hi;have h2:=Zh vs (i+1);rw[h1,List.length_append] at h2;omega
   have hc5:=HLE.out.1;subst hc5;obtain⟨ln,hln⟩:=qf vs.length;have hs1:ln<=65536:=by rw[hln.out];exact hs.1
   rw[<-hln.out] at HU HIH;clear HLE hL hL1 hc0 hm hd hl hs hle;go_wp2_with (go_at_call 247;refine q_o ?_);refine HU.out.mono ?_;rintro e w3 ⟨rfl,hr3,c3⟩;have HR3:Hid (RdA W0 g (zV (vs.drop 0)++t) w3):=hr3;have HC3:=q_h (HC2.out.trans c3);have HS3:=q_h (c3.blk HS2.out (.inr (by have:=HGL.out;omega)));clear hr3 c3 HU HR2 HC2 HS2;clear hn hn1 hnk hk9 z0 z1 z2 z3 z4 z5;have y1:(((d'+1:Nat):Int) == 0)=false:=by simp;omega
   have y2:decide (((d'+1:Nat):Int)=0)=false:=q_f (by omega);obtain⟨dv,hdv⟩:=qf (((d'+1:Nat):Int));rw[<-hdv.out] at y1 y2 ⊢;have hwd:IntKind.i64.wrap (dv-1)=(d':Int):=by rw[hdv.out,wrp (by omega) (by omega)];omega
   go_upto_region 24 with (fail);refine qo ?_;intro w4 e4 hsz4 B4;obtain⟨gv,hgv⟩:=qf w3.heap.size;rw[<-hgv.out] at B4 ⊢;have HV4:=q_h B4;have HR4:=q_h (HR3.out.ext e4);have HC4:=q_h (HC3.out.trans (e4.chg _ _));have HS4:=q_h (e4.block HS3.out);have HGV:Hid (gr<gv):=by rw[Hid,hgv.out];exact qK HS3.out
   have HL4:Hid (LsP (gv+1) W0.heap.size w4 (.slice none (0:Nat) 0) 0 vs):=LsP.nil (by have:=hgv.out;omega);clear e4 B4 HR3 HC3 HS3 y1 y2;go_wp2_with fail
   go_loopw [113] (fun iv wr=>∃(i:Nat) (A:Option Addr) (c:Nat),i<=ln/\iv=.int .i64 (i:Int)/\Hid (wr.heap[gv]?=some (.cells #[.int .i64 2,.bool false,.slice none 0 0,.slice none 0 0,.slice A i c] 117 (0,0)))/\Hid (LsP (gv+1) W0.heap.size wr (.slice A i c) i vs)/\Hid (RdA W0 g (zV (vs.drop i)++t) wr)/\Hid (Chg g (g+1) w wr)/\Hid (wr.heap[gr]?=some (.cells #[.int .i64 0,.bool false,.slice none 0 0,.slice none 0 0,.slice none 0 0] 117 (0,0)))) (fun iv _=>ln-(intOf iv).toNat)
   case atStart=>exact⟨0,none,0,Nat.zero_le _,rfl,HV4,HL4,HR4,HC4,HS4⟩
   case round =>
    clear HV4 HL4 HR4 HC4 HS4;obtain⟨i,A,c,hi9,rfl,HV,HL,HR,HC,HS⟩:=hrel;obtain⟨wq,hwq⟩:∃wq,wq=wr:=⟨_,rfl⟩
    subst hwq
    by_cases hlt:i<ln
    ·have u5:decide ((i:Int)<(ln:Int))=true:=q_t (by omega)
     have HEN:Hid (zV (vs.drop i)++t=enc (vs[i]?.getD default)++(zV (vs.drop (i+1))++t)):=by
      have hil:i<vs.length:=by have:=hln.out;omega
      rw[Hid,List.drop_eq_getElem_cons hil,zV,List.append_assoc,List.getElem?_eq_getElem hil]
      rfl
     rw[HEN.out] at HR;have HCV:=q_h (HIH.out i hlt wq _ HR.out);clear HR HEN;go_wp2_with (go_at_call 218;refine q_o ?_);refine HCV.out.mono ?_;rintro e w5 ⟨v5,rfl,hv5,hr5,c5⟩;obtain⟨z5,b5,A1,n1,c1,A2,n2,c2,A3,n3,c3,rfl⟩:=hv5.cells;have HX5:=q_h hv5;have HQW:Hid (gv+1<=wq.heap.size):=qK HV.out;have HR5:=q_h hr5;have HC5:=q_h (HC.out.trans c5);have HV5:=q_h (c5.blk HV.out (.inr (by have:=HGL.out;have:=HGV.out;omega)));have HS5:=q_h (c5.blk HS.out (.inr (by have:=HGL.out;omega)));have HL5:=q_h (HL.out.chg c5 (HW.out.2) (by have:=HGL.out;have:=HGV.out;omega))
     have HOW:Hid (∀q,(Value.slice A i c).ownBlock=some q->q<wq.heap.size):=fun q hq=>by
      obtain⟨D,h1,-⟩:=HL.out;exact (qI.own_lt h1 q hq).2
     clear hv5 hr5 c5 HC HV HS HL HCV;go_upto_region 27 with (fail);refine qo ?_;intro w6 e6 hsz6 B6;obtain⟨gt,hgt⟩:=qf w5.heap.size;rw[<-hgt.out] at B6 ⊢;have HT6:=q_h B6;have HX6:=q_h (HX5.out.ext (by obtain⟨_,_,_,_,_,_,h9⟩:=HR5.out;exact h9.size) e6);have HR6:=q_h (HR5.out.ext e6);have HC6:=q_h (HC5.out.trans (e6.chg _ _));have HV6:=q_h (e6.block HV5.out);have HS6:=q_h (e6.block HS5.out)
     have HL6:Hid (LsP (gv+1) W0.heap.size w6 (.slice A i c) i vs):=by
      obtain⟨D,h1,h2⟩:=HL5.out;exact⟨D,h1.ext e6,fun j hj=>(h2 j hj).ext (by obtain⟨_,_,_,_,_,_,h9⟩:=HR5.out;exact h9.size) e6⟩
     clear e6 B6 HX5 HR5 HC5 HV5 HS5 HL5;obtain⟨x0,x1,x2,x3,x4⟩:=qA HT6.out;obtain⟨v0,v1,v2,v3,v4⟩:=qA HV6.out;go_wp2_with (at_builtin;refine q_o ?_);refine qo ?_;intro w7 e7 hsz7 BX;obtain⟨D,hD,hDC⟩:=HL6.out;have hD7:=hD.ext e7;have hN7:W0.heap.size<=w6.heap.size:=by obtain⟨_,_,_,_,_,_,h9⟩:=HR6.out;exact h9.size
     have hDC7:∀j,j<i->VlP (fun k=>gv+1<=k/\(Value.slice A i c).ownBlock≠some k) W0.heap.size w7 (vs[j]?.getD default) (.agg #[D j 0,D j 1,D j 2,D j 3,D j 4]):=fun j hj=>(hDC j hj).ext hN7 e7
     have hx7:VlP (fun k=>gv+1<=k/\(Value.slice A i c).ownBlock≠some k) W0.heap.size w7 (vs[i]?.getD default) (.agg #[.int .i64 z5,.bool b5,.slice A1 n1 c1,.slice A2 n2 c2,.slice A3 n3 c3]):=by
      refine VlP.mv (P:=fun k=>wq.heap.size<=k) (e7.chg w6.heap.size w6.heap.size) hN7 (fun k hk hP=>⟨.inl hk,by have:=HQW.out;omega,fun hq=>?_⟩) HX6.out;have:=HOW.out k hq;omega
     refine zh XF rfl _ _ 115 Tryz.underlying115 rfl (by rfl) hD7 (by rfl) (m:=1) (c:=1) (news:=[.int .i64 z5,.bool b5,.slice A1 n1 c1,.slice A2 n2 c2,.slice A3 n3 c3]) rfl (fun j u hj=>(zq BX j).trans (by simpa using hj)) (by simp[Value.oneCell']) (by omega) ?_;rintro v8 w8 hG8 ho8 ⟨g8,hg8,hw8,C8⟩;have hL8:LsP (gv+1) W0.heap.size w8 v8 (i+1) vs:=LsP.snoc (by have:=HW.out.1;have:=hgr.out;have:=HGV.out;omega) hD7 hDC7 hx7 hG8 ho8 hg8 hw8 C8;obtain⟨A8,c8,rfl⟩:=hL8.form;have HL8:=q_h hL8;have HV8:=q_h (C8.blk (e7.block HV6.out) (.inl (by omega)));have HS8:=q_h (C8.blk (e7.block HS6.out) (.inl (by have:=HGV.out;omega)));have HC8:Hid (Chg g (g+1) w w8):=(HC6.out.trans (e7.chg _ _)).late C8 (by have:=hgr.out;have:=HGV.out;omega)
     have HR8:Hid (RdA W0 g (zV (vs.drop (i+1))++t) w8):=by
      obtain⟨a1,a2,a3,a4,a5,a6,a7⟩:=HR6.out.ext e7;exact⟨a1,a2,a3,C8.blk a4 (.inl (by have:=HGL.out;have:=HGV.out;omega)),a5,a6,C8.ext a7 (by have:=HW.out.1;have:=hgr.out;have:=HGV.out;omega)⟩
     clear hL8 hG8 ho8 hw8 C8 hx7 hDC7 hD7 hD hDC BX e7 HX6 HR6 HC6 HV6 HS6 HL6 HT6 x0 x1 x2 x3 x4 v0 v1 v2 v3 v4;refine wpList_plain rfl (fun K hK=>?_);go_simp;refine hK _ _ ?_;clear hK K;try simp only[nr]
     obtain⟨wa,Ea,Ba,Ua⟩:=qL HV8.out 4 (.slice A8 (i+1) c8);have f4:=qp HV8.out 4;have c4':=(qj HV8.out 4).trans rfl;refine wpList_plain rfl (fun K hK=>?_);go_simp;try rw[Ea]
     refine hK _ _ ?_;clear hK K f4 c4' Ea;try simp only[nr]
     have HVa:Hid (wa.heap[gv]?=some (.cells #[.int .i64 2,.bool false,.slice none 0 0,.slice none 0 0,.slice A8 (i+1) c8] 117 (0,0))):=Ba;have HCa:=q_h (Ua.chg (NoU.mk HV8.out (by decide)));have HLa:=q_h (HL8.out.chg HCa.out (by have:=HW.out.1;have:=hgr.out;have:=HGV.out;omega) (by omega));have HSa:=q_h (HCa.out.blk HS8.out (.inl HGV.out));have HCc:=q_h (HC8.out.late HCa.out (by have:=hgr.out;have:=HGV.out;omega))
     have HRr:Hid (RdA W0 g (zV (vs.drop (i+1))++t) wa):=by
      obtain⟨a1,a2,a3,a4,a5,a6,a7⟩:=HR8.out;exact⟨a1,a2,a3,HCa.out.blk a4 (.inl (by have:=HGL.out;have:=HGV.out;omega)),a5,a6,HCa.out.ext a7 (by have:=HW.out.1;have:=hgr.out;have:=HGV.out;omega)⟩
     clear Ba Ua HV8 HL8 HS8 HC8 HR8;go_wp2;go_roundw
     case rel=>exact⟨i+1,A8,c8,by omega,by go_num,HVa,HLa,HRr,HCc,HSa⟩
     case measure=>simp[intOf];omega
    obtain rfl:ln=i:=by omega
    have u5:decide ((ln:Int)<(ln:Int))=false:=q_f (by omega);obtain⟨v0,v1,v2,v3,v4⟩:=qA HV.out;go_upto_region 31 with (fail);refine wp_region_lit ?_;refine wpList_plain rfl (fun K hK=>?_);go_simp;refine hK _ _ ?_;clear hK K;try simp only[nr]
    refine qh rfl 117 _ _ rfl (by rfl) (by rfl) HS.out jc (by rfl) (by rfl) (by rfl) ?_;intro wz Bz Uz;have HCz:=q_h (Uz.chg (NoU.mk HS.out (by decide)));obtain⟨y0,y1,y2,y3,y4⟩:=qA Bz;clear v0 v1 v2 v3 v4;go_wp2;refine bodyPost_ret (v:=.tuple #[.agg #[.int .i64 2,.bool false,.slice none 0 0,.slice none 0 0,.slice A ln c],.bool true]) ?_ rfl ?_
    ·simp[results,y0,y1,y2,y3,y4,go_sem]
    ·rw[hR.out];refine⟨_,rfl,?_,?_,HC.out.late HCz.out (by have:=hgr.out;omega)⟩
     ·have h1:=(HL.out.chg HCz.out (by have:=HW.out.1;have:=hgr.out;omega) (by have:=HGV.out;omega)).done hln.out (by have:=HW.out.1;have:=hgr.out;have:=HGV.out;omega);refine VlP.mv (P:=fun k=>gv+1<=k) (Chg.refl wz.heap.size wz.heap.size wz) ?_ (fun k hk hP=>⟨.inl hk,by have:=hgr.out;have:=HGV.out;omega⟩) h1;obtain⟨_,_,_,_,_,_,h9⟩:=HR.out;exact q_l h9.size HCz.out.size
     ·rw[hln.out,List.drop_length] at HR;obtain⟨a1,a2,a3,a4,a5,a6,a7⟩:=HR.out;have a4':wq.heap[g]?=some (.cells #[.slice (some ⟨a1,a2,none⟩) t.length a3] 258 (0,0)):=a4;exact⟨a1,a2,a3,HCz.out.blk a4' (.inl (by have:=HGL.out;omega)),a5,a6,HCz.out.ext a7 (by have:=HW.out;have:=HGL.out;omega)⟩
theorem q0j{V:Vl}(hv:VlV true N w V v) (hd:zX V<=8) (hs:jR V) (ht:kG w) (hl:(enc V).length<=65536):Calls Tryz.prog 219 #[v] w (qH w (.int .i64 0)):=by
 have HE:Hid (∀w',Ext w w'->Calls Tryz.prog 134 #[v] w' (RetB w' (enc V))):=fun w' e=>KR X7 (hv.ext e) hd hs (ht.ext e) hl
 obtain⟨z5,b5,A1,n1,c1,A2,n2,c3,A3,n3,c4,rfl⟩:=hv.cells;clear hv ht;go_enter Tryz.func219,Tryz.ntmps219;go_upto_region 1 with (fail);refine qo ?_;intro w0 e0 hsz0 B0;have HX0:=q_h e0;obtain⟨x0,x1,x2,x3,x4⟩:=qA B0;clear e0 B0;go_wp2_with (go_at_call 134;refine q_o ?_);refine (HE.out _ HX0.out).mono ?_;rintro e w1 ⟨u,rfl,hG,e1⟩;obtain⟨A,c,rfl,-⟩:=hG.by.form
 have HX:=q_h (HX0.out.trans e1);clear hG e1 x0 x1 x2 x3 x4;go_wp2
 first|go_ret|skip
 exact⟨rfl,HX.out⟩
def q2d (V:Vl) (w:World) (e:Ending) (w':World):Prop:=∃v,e=.returned (.tuple #[v,.int .i64 0])/\VlP (fun k=>w.heap.size<=k) w.heap.size w' V v/\Ext w w'
theorem VL {V:Vl}(h:ByV w (.slice A n c) (enc V)) (hd:zX V<=8) (hs:jR V) (ht:kG w) (hl:(enc V).length<=65536):Calls Tryz.prog 184 #[.slice A n c] w (q2d V w):=by
 obtain⟨R,hR⟩:=qf (q2d V w);rw[<-hR.out];have hne:=Vw V
 have HN:Hid (n=(enc V).length):=by
  obtain⟨A',c',h1,-⟩:=h.form;obtain⟨-,h2,-⟩:=Value.slice.inj h1;exact h2
 have hn1:1<=n:=by have:=HN.out;omega
 have hn2:n<=65536:=by have:=HN.out;omega
 obtain⟨b,off,rfl,-⟩:=h.addr (by omega);have HBY:=q_h h;have HT:=q_h ht;have HV:Hid (∀(w':World) (g:Nat),RdA w g (enc V ++ []) w'->Calls Tryz.prog 218 #[.pointer (some ⟨g,0,none⟩),.int .i64 8] w' (q0B w g V [] w')):=fun w' g h'=>Jt (szV V) V (q_r) w w' g 8 [] h' hd (by omega) hs ht hl
 have HCK:Hid (∀(w':World) (v:Value),Ext w w'->VlV true w.heap.size w' V v->Calls Tryz.prog 219 #[v] w' (qH w' (.int .i64 0))):=fun w' v e hv=>q0j hv hd hs (ht.ext e) hl
 have y1:decide ((65536:Int)<(n:Int))=false:=q_f (by omega);clear h ht hd hs hl hne;go_enter Tryz.func184,Tryz.ntmps184;go_upto_region 4 with (fail);refine zu ?_;intro w1 e1 hsz1 B0 B1;have HB0:=q_h B0;have HX1:=q_h e1
 have HR1:Hid (RdA w (w.heap.size+1) (enc V ++ []) w1):=by
  rw[List.append_nil];exact⟨b,off,c,by rw[<-HN.out];exact B1,by rw[<-HN.out];exact HBY.out,Nat.le_succ _,e1⟩
 clear B0 B1 e1;obtain⟨g,hg⟩:=qf (w.heap.size+1);rw[<-hg.out] at HR1 ⊢;go_wp2_with (go_at_call 218;refine q_o ?_);refine (HV.out _ _ HR1.out).mono ?_;rintro e w2 ⟨v2,rfl,hv2,hr2,c2⟩;obtain⟨z5,b5,A1,n1,c1,A2,n2,c3,A3,n3,c4,rfl⟩:=hv2.cells;have HV2:=q_h hv2;have HR2:=q_h hr2;have HB2:=q_h (c2.blk HB0.out (.inl (by have:=hg.out;omega)));have HX2:Hid (Ext w w2):=by obtain⟨_,_,_,_,_,_,h9⟩:=hr2;exact h9
 clear hv2 hr2 c2 HR1 HB0 HV;go_upto_region 5 with (fail);refine qo ?_;intro w3 e3 hsz3 B3;obtain⟨gt,hgt⟩:=qf w2.heap.size;rw[<-hgt.out] at B3 ⊢;have HT3:=q_h B3;have HV3:=q_h (HV2.out.ext HX2.out.size e3);have HB3:=q_h (e3.block HB2.out);have HX3:=q_h (HX2.out.trans e3);obtain⟨q,o,k,hbr,-⟩:=HR2.out.ext e3;have HBR:Hid (w3.heap[g]?=some (.cells #[.slice (some ⟨q,o,none⟩) 0 k] 258 (0,0))):=hbr;clear e3 B3 HV2 HB2 HX2 HR2 hbr;obtain⟨r0,-⟩:=kK HBR.out;obtain⟨x0,x1,x2,x3,x4⟩:=qA HT3.out;go_wp2_with (go_at_call 219;refine q_o ?_);refine (HCK.out _ _ HX3.out HV3.out.vl).mono ?_;rintro e w4 ⟨rfl,e4⟩;have HV4:=q_h (HV3.out.ext HX3.out.size e4);have HB4:=q_h (e4.block HB3.out);have HT4:=q_h (e4.block HT3.out);have HX4:=q_h (HX3.out.trans e4);clear e4 HV3 HB3 HT3 HX3 HBR r0 x0 x1 x2 x3 x4;obtain⟨x0,x1,x2,x3,x4⟩:=qA HT4.out;go_upto_region 7 with (fail);refine wp_region_lit ?_;refine wpList_plain rfl (fun K hK=>?_);go_simp;refine hK _ _ ?_;clear hK K;try simp only[nr]
 refine qh rfl 117 _ _ rfl (by rfl) (by rfl) HB4.out jc (by rfl) (by rfl) (by rfl) ?_;intro wz Bz Uz;have HCz:=q_h (Uz.chg (NoU.mk HB4.out (by decide)));obtain⟨y0,y1,y2,y3,y4⟩:=qA Bz;clear x0 x1 x2 x3 x4;go_wp2;refine bodyPost_ret (v:=.tuple #[.agg #[.int .i64 z5,.bool b5,.slice A1 n1 c1,.slice A2 n2 c3,.slice A3 n3 c4],.int .i64 0]) ?_ rfl ?_
 ·simp[results,y0,y1,y2,y3,y4,go_sem]
 ·rw[hR.out];refine⟨_,rfl,VlP.mv (P:=fun k=>w1.heap.size<=k) HCz.out (q_r) (fun k hk hP=>⟨.inr (by omega),by omega⟩) HV4.out,HCz.out.ext HX4.out (q_r)⟩
theorem WG {m:Med}{B:Option Addr}{s:Shf}(hP:jH w (.slice A n c) m.pages) (hn:n=m.pages.length) (hA:zJ w (.slice B k d) m.acts) (hk:k=m.acts.length) (hm:xC m) (hak:k<=900) (hmk:xH w)
  (hf:(qR (zk m.pages m.acts) 2).1=true) (hq0:0<=(qR (zk m.pages m.acts) 2).2.seq) (hq1:(qR (zk m.pages m.acts) 2).2.seq<=2147483647)
  (hlg:q3o w (qR (zk m.pages m.acts) 2).2 (Wl (zk m.pages m.acts) (qR (zk m.pages m.acts) 2).2) s) :
  Calls Tryz.prog 21 #[.agg #[.slice A n c,.slice B k d,.int .i64 m.left,.bool false]] w (q0D s w):=by
 obtain⟨R,hR⟩:=qf (q0D s w);rw[<-hR.out];obtain⟨S,hS⟩:=qf (zk m.pages m.acts);rw[<-hS.out] at hf hq0 hq1 hlg;have HP:=q_h hP;have HN:=q_h hn;have HA:=q_h hA;have HK:=q_h hk;have HM:=q_h hm;have HMK:=q_h hmk;have HF:=q_h hf;have HQ0:=q_h hq0;have HQ1:=q_h hq1;have HLG:=q_h hlg;have hn1:n<=4096:=by have:=hm.hi;omega
 have hn8:8<=n:=by have:=hm.lo;omega
 have HSL:Hid (S.length=n):=by rw[Hid,hS.out,x8,hn]
 have HS64:Hid (∀i,i<n->(S.getD i []).length=64):=fun i hi=>by rw[hS.out];exact VW hm i (by omega)
 obtain⟨left,hleft⟩:=qf m.left;have HCV:Hid (∀w',Ext w w'->Calls Tryz.prog 85 #[.agg #[.slice A n c,.slice B k d,.int .i64 left,.bool false]] w' (qH w' (.bool true))):=fun w' e=>yA (HP.out.ext e) HN.out (by have:=HM.out.lo;omega) hn1 (fun i hi=>HM.out.wh i (by omega)) (HA.out.ext e) HK.out (by rw[HN.out];exact HM.out.ac)
 have HCC:Hid (∀w',Ext w w'->Calls Tryz.prog 30 #[.slice A n c] w' (q27 w w' m.pages)):=fun w' e=>YE HP.out e (by have:=HN.out;omega)
 rw[<-hleft.out];clear hP hn hA hk hm hmk hf hq0 hq1 hlg;go_enter Tryz.func21,Tryz.ntmps21;go_upto_region 1 with (fail);refine zu ?_;intro W1 hE1 hsz1 B0 B1;have HX1:=q_h hE1;have HB0:=q_h B0;have HB1:=q_h B1;clear hE1 B0 B1;obtain⟨p0,p1,p2,p3⟩:=qG HB0.out;go_wp2_with (go_at_call 85;refine q_o ?_);refine (HCV.out _ HX1.out).mono ?_;rintro e W2 ⟨rfl,e2⟩;have HX2:=q_h (HX1.out.trans e2);have HB02:=q_h (e2.block HB0.out);have HB12:=q_h (e2.block HB1.out);have HS2:Hid (w.heap.size+2<=W2.heap.size):=by have:=e2.size;rw[Hid];omega
 clear e2 HX1 HB0 HB1 HCV p0 p1 p2 p3 hsz1;obtain⟨p0,p1,p2,p3⟩:=qG HB02.out;go_wp2_with (go_at_call 30;refine q_o ?_);refine (HCC.out _ HX2.out).mono ?_;rintro e w5 ⟨v5,rfl,hPH,e5⟩;obtain⟨A5,c5,rfl,hc5⟩:=hPH.form;rw[<-HN.out] at hPH hc5 ⊢;have HX:=q_h (HX2.out.trans e5);have HB0:=q_h (e5.block HB02.out);have HRB:=q_h (e5.block HB12.out)
 have HPH:Hid (PgH (w.heap.size+2) w w5 (.slice A5 n c5) (zk m.pages (m.acts.take 0))):=by
  obtain⟨xs,h1,h2,h3⟩:=hPH;exact⟨xs,h1,h2.low HS2.out,h3⟩
 have HS5:Hid (w.heap.size+2<=w5.heap.size):=by have:=HS2.out;have:=e5.size;rw[Hid];omega
 clear e5 hPH p0 p1 p2 p3 HCC HX2 HB02 HB12 HS2;obtain⟨p0,p1,p2,p3⟩:=qG HB0.out;go_wp2_with fail;clear p0 p1 p2 p3
 go_loopw [27] (fun iv wr=>∃(j:Nat),j<=k/\iv=.int .i64 (j:Int)/\Hid (PgH (w.heap.size+2) w wr (.slice A5 n c5) (zk m.pages (m.acts.take j)))/\Hid (Ext w wr)/\Hid (wr.heap[w.heap.size+1]?=some (.cells #[.int .i64 0,.int .i64 0,.int .i64 0,.int .i64 0,.slice none 0 0,.slice none 0 0] 25 (0,0)))/\Hid (w.heap.size+2<=wr.heap.size)) (fun iv _=>k-(intOf iv).toNat)
 case atStart=>exact⟨0,Nat.zero_le _,rfl,HPH,HX,HRB,HS5⟩
 case round =>
  clear HPH HX HRB HS5 HB0;obtain⟨j,hj9,rfl,HPH,HX,HRB,HS5⟩:=hrel;obtain⟨wp,hwp⟩:∃wp,wp=wr:=⟨_,rfl⟩
  subst hwp
  by_cases hlj:j<k
  ·have u7:decide ((j:Int)<(k:Int))=true:=q_t (by omega);have u8:(j:Int)<(k:Int):=by omega
   obtain⟨gb,ob,rfl,hx⟩:=HA.out.at_ HK.out (by omega);obtain⟨B7,m7,d7,b0,b1,b2,hb7⟩:=hx j hlj;have HBU:=q_h hb7;replace b0:=HX.out.cell b0;replace b1:=HX.out.cell b1;replace b2:=HX.out.cell b2;clear hx hb7;have HWR:=q_h (xJ (HM.out.act (i:=j) (by have:=HK.out;omega)));obtain⟨x7,hx7⟩:=qf (m.acts.getD j default);rw[<-hx7.out] at b0 b2 HBU HWR;obtain⟨pz,hpz⟩:=qf x7.page.toNat
   have HPZ:Hid (x7.page=(pz:Int)/\pz<n):=by
    have h1:=HWR.out.2.1;have h2:=HWR.out.2.2.1;have h3:=hpz.out;have:=HN.out;rw[Hid];omega
   rw[HPZ.out.1] at b0;go_upto_region 9 with (fail);refine qo ?_;intro wt et hszt BT;obtain⟨gt,hgt⟩:=qf wp.heap.size;rw[<-hgt.out] at BT ⊢;have HT:=q_h BT;replace HPH:=q_h (HPH.out.ext et);replace HX:=q_h (HX.out.trans et);replace HRB:=q_h (et.block HRB.out);have HS6:Hid (w.heap.size+2<=wt.heap.size):=by have:=HS5.out;have:=et.size;rw[Hid];omega
   clear et BT b0 b1 b2 hszt HS5;obtain⟨t0,t1,t2⟩:=zO HT.out;obtain⟨g0,c0,cur,old,hv0,hb0,hc0,hh0,hq0,hPS⟩:=HPH.out.set (j:=pz) (by rw[x8,<-HN.out];exact HPZ.out.2) HBU.out;obtain⟨e1,-,e3⟩:=Value.slice.inj hv0;subst e1 e3;have hz8:(pz:Int)<(n:Int):=by have:=HPZ.out.2;omega
   have HNR:Hid (w.heap.size+1≠g0):=neT hh0 HRB.out (by decide);have HPS:=q_h hPS;clear hv0 hPS hc0;refine wp_region_lit ?_;refine wpList_plain rfl (fun K hK=>?_);go_simp;refine hK _ _ ?_;clear hK K;try simp only[nr]
   refine wpList_plain rfl (fun K hK=>?_);go_simp;refine hK _ _ ?_;clear hK K;try simp only[nr]
   refine wpList_plain rfl (fun K hK=>?_);go_simp;refine hK _ _ ?_;clear hK K;try simp only[nr]
   refine wpList_plain rfl (fun K hK=>?_);go_simp;refine hK _ _ ?_;clear hK K;try simp only[nr]
   refine wpList_plain rfl (fun K hK=>?_);go_simp;refine hK _ _ ?_;clear hK K;try simp only[nr]
   refine wpList_plain rfl (fun K hK=>?_);go_simp;refine hK _ _ ?_;clear hK K;try simp only[nr]
   obtain⟨wa,Ea,Ba,Ua⟩:=qL hh0 pz (.slice B7 m7 d7);have f4:=qp hh0 pz;have c4':=(qj hh0 pz).trans hq0;refine wpList_plain rfl (fun K hK=>?_);go_simp;try rw[Ea]
   refine hK _ _ ?_;clear hK K f4 c4' Ea;try simp only[nr]
   have Ca:=Ua.chg (NoU.mk hh0 (by decide))
   have HPn:Hid (PgH (w.heap.size+2) w wa (.slice (some ⟨g0,0,none⟩) n c5) (zk m.pages (m.acts.take (j+1)))):=by
    rw[take_snoc _ default (by have:=HK.out;omega),Qe,<-hx7.out,<-hpz.out];exact HPS.out wa Ba Ua
   have HXa:Hid (Ext w wa):=Ca.ext HX.out (by omega);have HRa:=q_h ((Ua.block _ HNR.out).trans HRB.out);have HSa:Hid (w.heap.size+2<=wa.heap.size):=by rw[Hid,Ua.size];exact HS6.out
   clear HPH HPS Ca Ba Ua t0 t1 t2 hh0 hq0 HBU HWR HT HX HRB HS6;go_wp2;go_roundw
   case rel=>exact⟨j+1,by omega,by go_num,HPn,HXa,HRa,HSa⟩
   case measure=>simp[intOf];omega
  obtain rfl:k=j:=by omega
  have u7:decide ((k:Int)<(k:Int))=false:=q_f (by omega)
  have HPG:Hid (PgH (w.heap.size+2) w wp (.slice A5 n c5) S):=by
   have h1:=HPH.out;rw[List.take_of_length_le (by have:=HK.out;omega),<-hS.out] at h1;exact h1
  clear HPH hlj;go_upto_region 13 with (fail);refine qo ?_;intro W e6 hsz6 BG;obtain⟨g,hg⟩:=qf wp.heap.size;rw[<-hg.out] at BG ⊢;have HGW:Hid (w.heap.size+2<=g):=by rw[Hid,hg.out];exact HS5.out
  have HG:=q_h BG;replace HX:=q_h (HX.out.trans e6);replace HRB:=q_h (e6.block HRB.out);replace HPG:=q_h (HPG.out.ext e6);clear e6 BG hsz6 HS5;have HRD:Hid (∀i,i<n->∀w',Ext w w'->∀A' c',ByV w' (.slice A' 64 c') (S.getD i [])->Calls Tryz.prog 86 #[.slice A' 64 c',.int .i64 (i:Int),.int .i64 (n:Int)] w' (q26 (S.getD i []) i n w')):=fun i hi w' e A' c' hb=>WC hb (HS64.out i hi) (HMK.out.ext e)
  have hhb:=yF (n:=(n:Int)) (by omega) (by omega);obtain⟨h,hh⟩:=qf (qV n);rw[<-hh.out] at hhb;have HHF:Hid (∀w,Calls Tryz.prog 87 #[.int .i64 (n:Int)] w (qH w (.int .i64 h))):=fun w=>jO (by omega) (by omega) h hh.out w
  go_wp2_with fail
  go_loopw [39,7] (fun iv fv wr=>∃(i:Nat),i<=2/\iv=.int .i64 (i:Int)/\fv=.bool (qR S i).1/\Hid (wr.heap[g]?=some (.cells #[.int .i64 (qR S i).2.size,.int .i64 (qR S i).2.seq,.int .i64 (qR S i).2.half,.int .i64 (qR S i).2.used,.slice none 0 0,.slice none 0 0] 25 (0,0)))/\Hid (PgH (w.heap.size+2) w wr (.slice A5 n c5) S)/\Hid (Ext w wr)/\Hid (wr.heap[w.heap.size+1]?=some (.cells #[.int .i64 0,.int .i64 0,.int .i64 0,.int .i64 0,.slice none 0 0,.slice none 0 0] 25 (0,0)))) (fun iv _ _=>2-(intOf iv).toNat)
  case atStart=>exact⟨0,by omega,rfl,rfl,HG,HPG,HX,HRB⟩
  case round =>
   clear HG HPG HX HRB;obtain⟨i,hi9,rfl,rfl,HG,HPG,HX,HRB⟩:=hrel;obtain⟨wq,hwq⟩:∃wq,wq=wr:=⟨_,rfl⟩
   subst hwq;have HBO:=q_h (Zv S i);obtain⟨f,hf⟩:=qf (qR S i).1;obtain⟨bz,hbz⟩:=qf (qR S i).2.size;obtain⟨bq,hbq⟩:=qf (qR S i).2.seq;obtain⟨bh,hbh⟩:=qf (qR S i).2.half;obtain⟨bu,hbu⟩:=qf (qR S i).2.used;rw[<-hbz.out,<-hbq.out,<-hbh.out,<-hbu.out] at HG;rw[<-hf.out];obtain⟨ga,oa,rfl,hx⟩:=(HPG.out.pgs HX.out).at_ HSL.out.symm (by omega)
   by_cases hlt:i<2
   ·have u5:decide ((i:Int)<2)=true:=q_t (by omega);have u6:(i:Int)<(n:Int):=by omega
    obtain⟨B9,m9,d9,a0,hm9,hb9⟩:=hx i (by omega);have hm64:m9=64:=hm9.trans (HS64.out i (by omega));subst hm64;have HBY:=q_h hb9;clear hx hm9 hb9;go_wp2_with (go_at_call 86;refine q_o ?_);refine (HRD.out i (by omega) _ HX.out _ _ HBY.out).mono ?_;rintro e w6 ⟨rfl,e6⟩;obtain⟨pl,hpl⟩:=qf (S.getD i []);rw[<-hpl.out];obtain⟨ok,hok⟩:=qf (q1m pl i);obtain⟨sq,hsq⟩:=qf (g4 (pl.drop 4));obtain⟨hfv,hhfv⟩:=qf (chZ pl 8);obtain⟨us,hus⟩:=qf (g4 (pl.drop 9));rw[<-hok.out,<-hsq.out,<-hhfv.out,<-hus.out];replace HG:=q_h (e6.block HG.out);replace HPG:=q_h (HPG.out.ext e6);replace HX:=q_h (HX.out.trans e6);replace HRB:=q_h (e6.block HRB.out);clear e6 HBY a0;go_upto_region 17 with (fail);refine qo ?_;intro wt et hszt BT;obtain⟨gt,hgt⟩:=qf w6.heap.size;rw[<-hgt.out] at BT ⊢;have HT:=q_h BT;replace HG:=q_h (et.block HG.out);replace HPG:=q_h (HPG.out.ext et);replace HX:=q_h (HX.out.trans et);replace HRB:=q_h (et.block HRB.out);clear et BT hszt;obtain⟨fo,hfo⟩:=qf (f||ok)
    go_cut [7] (fun tv wx=>tv=.bool fo/\wx=wt)
    case first =>
     cases f with
     | true =>
      have e1:fo=true:=by rw[hfo.out];rfl
      subst e1;go_wp2
      go_meet
      exact⟨rfl,rfl⟩
     | false =>
      have e1:fo=ok:=by rw[hfo.out];exact Bool.false_or ok
      subst e1;go_wp2
      go_meet
      exact⟨rfl,rfl⟩
    obtain⟨rfl,rfl⟩:=hcut;obtain⟨wt,hwt⟩:∃wt,wt=wc:=⟨_,rfl⟩
    subst hwt;obtain⟨r,hr⟩:=qf (ok&&(decide (hfv<=1)&&(decide (us<=h)&&decide (bq<sq))));obtain⟨t0,t1,t2,t3,t4,t5⟩:=qw HT.out;obtain⟨b0,b1,b2,b3,b4,b5⟩:=qw HG.out;go_upto_region 18 with (fail)
    go_cut [77] (fun tv wx=>tv=.bool r/\Hid (Ext wt wx))
    case first =>
     cases ok with
     | false =>
      have HRV:Hid (r=false):=by rw[hr.out];rfl
      have eC:=(Ext.refl wt).drew;refine ql (fun w'=>True) [] (by kernel_rfl) (by exact trivial) (fun hHeld=>?_);refine sP 0 (h:=?_);refine sP 1 (h:=?_);refine sF 2 (h:=?_);refine sF 3 (h:=?_);refine sF 4 (h:=?_);refine sP 5 (h:=?_);refine sP 6 (h:=?_);refine sF 7 (h:=?_);refine sF 8 (h:=?_);refine sF 9 (h:=?_);refine sF 10 (h:=?_);refine sF 11 (h:=?_);refine sF 12 (h:=?_);refine sP 13 (h:=?_);refine sP 14 (h:=?_);refine sF 15 (h:=?_);refine sF 16 (h:=?_);refine sF 17 (h:=?_);refine sF 18 (h:=?_);refine sF 19 (h:=?_);refine sP 20 (h:=?_);refine qm (by kernel_rfl) ?_ _;clear hHeld;go_wp2_with fail
      go_meet
      exact⟨by rw[HRV.out],eC⟩
     | true =>
      by_cases h1:hfv<=1
      case neg =>
       have v1:decide (hfv<=1)=false:=q_f h1;have HRV:Hid (r=false):=by rw[hr.out,v1];rfl
       have eC:=(Ext.refl wt).drew;refine ql (fun w'=>w'.cell? ⟨gt,2,none⟩=some (.int .i64 hfv)) [] (by kernel_rfl) (by exact eC.cell t2) (fun hHeld=>?_);refine sP 0 (h:=?_);refine sP 1 (h:=?_);refine sP 2 (h:=?_);refine sT 3 (h:=?_);refine sP 4 (h:=?_);refine sP 5 (h:=?_);refine sP 6 (h:=?_);refine sF 7 (h:=?_);refine sF 8 (h:=?_);refine sF 9 (h:=?_);refine sF 10 (h:=?_);refine sF 11 (h:=?_);refine sF 12 (h:=?_);refine sP 13 (h:=?_);refine sP 14 (h:=?_);refine sF 15 (h:=?_);refine sF 16 (h:=?_);refine sF 17 (h:=?_);refine sF 18 (h:=?_);refine sF 19 (h:=?_);refine sP 20 (h:=?_);refine qm (by kernel_rfl) ?_ _;clear hHeld;go_wp2_with fail
       go_meet
       exact⟨by rw[HRV.out],eC⟩
      have v1:decide (hfv<=1)=true:=q_t h1
      by_cases h2:us<=h
      case neg =>
       have v2:decide (us<=h)=false:=q_f h2;have HRV:Hid (r=false):=by rw[hr.out,v1,v2];rfl
       have eC:=(Ext.refl wt).drew;refine ql (fun w'=>w'.cell? ⟨gt,2,none⟩=some (.int .i64 hfv)/\w'.cell? ⟨gt,3,none⟩=some (.int .i64 us)/\w'.cell? ⟨gt,0,none⟩=some (.int .i64 (n:Int))) [] (by kernel_rfl) (by exact⟨eC.cell t2,eC.cell t3,eC.cell t0⟩) (fun hHeld=>?_);refine sP 0 (h:=?_);refine sP 1 (h:=?_);refine sP 2 (h:=?_);refine sT 3 (h:=?_);refine sP 4 (h:=?_);refine sP 5 (h:=?_);refine sP 6 (h:=?_);refine sP 7 (h:=?_);refine sT 8 (h:=?_);refine sP 9 (h:=?_);refine sT 10 (h:=?_);refine qg (i:=11) rfl (by kernel_rfl) (fun K hK=>?_);rw[if_pos (by rfl)];go_simp;refine (HHF.out _).mono ?_;rintro e w3 ⟨rfl,e3⟩;replace eC:=eC.trans e3;go_wp2_with fail;clear hHeld;refine hK.out _ _ (by exact⟨eC.cell t2,eC.cell t3,eC.cell t0⟩) fun hHeld=>?_
       clear hK K;try simp only[nr]
       refine sP 12 (h:=?_);refine sP 13 (h:=?_);refine sP 14 (h:=?_);refine sF 15 (h:=?_);refine sF 16 (h:=?_);refine sF 17 (h:=?_);refine sF 18 (h:=?_);refine sF 19 (h:=?_);refine sP 20 (h:=?_);refine qm (by kernel_rfl) ?_ _;clear hHeld;go_wp2_with fail
       go_meet
       exact⟨by rw[HRV.out],eC⟩
      have v2:decide (us<=h)=true:=q_t h2;have HRV:Hid (decide (bq<sq)=r):=by rw[hr.out,v1,v2];rfl
      have v3:=HRV.out;have eC:=(Ext.refl wt).drew;refine ql (fun w'=>w'.cell? ⟨gt,2,none⟩=some (.int .i64 hfv)/\w'.cell? ⟨gt,3,none⟩=some (.int .i64 us)/\w'.cell? ⟨gt,0,none⟩=some (.int .i64 (n:Int))/\w'.cell? ⟨gt,1,none⟩=some (.int .i64 sq)/\w'.cell? ⟨g,1,none⟩=some (.int .i64 bq)) [] (by kernel_rfl) (by exact⟨eC.cell t2,eC.cell t3,eC.cell t0,eC.cell t1,eC.cell b1⟩) (fun hHeld=>?_);refine sP 0 (h:=?_);refine sP 1 (h:=?_);refine sP 2 (h:=?_);refine sT 3 (h:=?_);refine sP 4 (h:=?_);refine sP 5 (h:=?_);refine sP 6 (h:=?_);refine sP 7 (h:=?_);refine sT 8 (h:=?_);refine sP 9 (h:=?_);refine sT 10 (h:=?_);refine qg (i:=11) rfl (by kernel_rfl) (fun K hK=>?_);rw[if_pos (by rfl)];go_simp;refine (HHF.out _).mono ?_;rintro e w3 ⟨rfl,e3⟩;replace eC:=eC.trans e3;go_wp2_with fail;clear hHeld;refine hK.out _ _ (by exact⟨eC.cell t2,eC.cell t3,eC.cell t0,eC.cell t1,eC.cell b1⟩) fun hHeld=>?_
      clear hK K;try simp only[nr]
      refine sP 12 (h:=?_);refine sP 13 (h:=?_);refine sP 14 (h:=?_);refine sP 15 (h:=?_);refine sT 16 (h:=?_);refine sP 17 (h:=?_);refine sT 18 (h:=?_);refine sP 19 (h:=?_);refine sP 20 (h:=?_);refine qm (by kernel_rfl) ?_ _;clear hHeld;go_wp2_with fail
      go_meet
      exact⟨rfl,eC⟩
    obtain⟨rfl,hcE⟩:=hcut;obtain⟨wu,hwu⟩:∃wu,wu=wc:=⟨_,rfl⟩
    subst hwu;replace HG:=q_h (hcE.out.block HG.out);replace HPG:=q_h (HPG.out.ext hcE.out);replace HX:=q_h (HX.out.trans hcE.out);replace HRB:=q_h (hcE.out.block HRB.out);replace HT:=q_h (hcE.out.block HT.out)
    have HBN:Hid (qR S (i+1)=(fo,if r=true then rdS pl S.length else (qR S i).2)):=by
     show VU S (qR S i) i=_
     unfold VU;rw[<-hpl.out,<-hok.out,<-hsq.out,<-hhfv.out,<-hus.out,<-hf.out,<-hbq.out,HSL.out,<-hh.out,<-hfo.out,<-hr.out]
    clear hcE t0 t1 t2 t3 t4 t5 b0 b1 b2 b3 b4 b5 hr;cases r with
    | false =>
     have h9:=HBN.out;rw[if_neg (by simp)] at h9
     have HG9:Hid (wu.heap[g]?=some (.cells #[.int .i64 (qR S (i+1)).2.size,.int .i64 (qR S (i+1)).2.seq,.int .i64 (qR S (i+1)).2.half,.int .i64 (qR S (i+1)).2.used,.slice none 0 0,.slice none 0 0] 25 (0,0))):=by
      rw[h9]
      show wu.heap[g]?=some (.cells #[.int .i64 (qR S i).2.size,.int .i64 (qR S i).2.seq,.int .i64 (qR S i).2.half,.int .i64 (qR S i).2.used,.slice none 0 0,.slice none 0 0] 25 (0,0))
      rw[<-hbz.out,<-hbq.out,<-hbh.out,<-hbu.out];exact HG.out
     have HF9:Hid ((qR S (i+1)).1=fo):=by rw[Hid,h9]
     clear h9;go_wp2;go_roundw
     case rel=>exact⟨i+1,by omega,by go_num,by rw[HF9.out],HG9,HPG,HX,HRB⟩
     case measure=>simp[intOf];omega
    | true =>
     obtain⟨t0,t1,t2,t3,t4,t5⟩:=qw HT.out;go_upto_region 19 with (fail);refine wp_region_lit ?_;refine wpList_plain rfl (fun K hK=>?_);go_simp;refine hK _ _ ?_;clear hK K;try simp only[nr]
     refine qh rfl 25 _ _ rfl (by rfl) (by rfl) HG.out qJ (by rfl) (by rfl) (by rfl) ?_;intro wz Bz Uz;have Cz:=Uz.chg (NoU.mk HG.out (by decide));have h9:=HBN.out;rw[if_pos rfl] at h9
     have HG9:Hid (wz.heap[g]?=some (.cells #[.int .i64 (qR S (i+1)).2.size,.int .i64 (qR S (i+1)).2.seq,.int .i64 (qR S (i+1)).2.half,.int .i64 (qR S (i+1)).2.used,.slice none 0 0,.slice none 0 0] 25 (0,0))):=by
      rw[h9]
      show wz.heap[g]?=some (.cells #[.int .i64 (S.length:Int),.int .i64 (g4 (pl.drop 4)),.int .i64 (chZ pl 8),.int .i64 (g4 (pl.drop 9)),.slice none 0 0,.slice none 0 0] 25 (0,0))
      rw[<-hsq.out,<-hhfv.out,<-hus.out,HSL.out];exact Bz
     have HF9:Hid ((qR S (i+1)).1=fo):=by rw[Hid,h9]
     have HXz:Hid (Ext w wz):=Cz.ext HX.out (by have:=HGW.out;omega);have HRz:=q_h ((Uz.block _ (by have:=HGW.out;omega)).trans HRB.out);have HPz:=q_h (HPG.out.chgT Cz HG.out (by decide));clear h9 Cz Bz Uz t0 t1 t2 t3 t4 t5 HG HX HRB HPG;go_wp2;go_roundw
     case rel=>exact⟨i+1,by omega,by go_num,by rw[HF9.out],HG9,HPz,HXz,HRz⟩
     case measure=>simp[intOf];omega
   obtain rfl:2=i:=by omega
   have u5:decide ((2:Int)<2)=false:=rfl;clear hx hlt;have HFT:=q_h HF.out;rw[<-hf.out] at HFT;rw[HFT.out];have hq0:0<=bq:=by rw[hbq.out];exact HQ0.out
   have hq1:bq<=2147483647:=by rw[hbq.out];exact HQ1.out
   have HBG:=q_h (HBO.out.go HQ0.out);have HBZ:Hid (bz=(n:Int)):=by rw[Hid,hbz.out,HBG.out.1,HSL.out]
   have hbu1:bu<=h:=by rw[hbu.out,hh.out];have:=HBG.out.2;rw[HSL.out] at this;exact this
   have hbu0:0<=bu:=by rw[hbu.out];exact HBO.out.us.1
   have hbh1:0<=bh/\bh<=1:=by rw[hbh.out];exact HBO.out.hf
   have d1:decide (bq<0)=false:=q_f (by omega);have d2:decide (2147483647<bq)=false:=q_f (by omega);rw[HBZ.out] at HG;have hmk:=YN;obtain⟨b0,b1,b2,b3,b4,b5⟩:=qw HG.out;go_upto_region 26 with (fail);refine zu ?_;intro W7 e7 hsz7 B0 B1;obtain⟨gm,hgm⟩:=qf wq.heap.size;rw[<-hgm.out] at B0 B1 ⊢;have HGM:Hid (w.heap.size+2<=gm):=by rw[Hid,hgm.out];have:=qK HG.out;have:=HGW.out;omega
   have HMP:=q_h B0;have HIB:=q_h B1;have HE7:=q_h e7;have HXq:=q_h HX.out;have HRq:=q_h HRB.out;replace HG:=q_h (e7.block HG.out);replace HPG:=q_h (HPG.out.ext e7);replace HX:=q_h (HX.out.trans e7);clear e7 B0 B1 b0 b1 b2 b3 b4 b5 hsz7 hmk;obtain⟨b0,b1,b2,b3,b4,b5⟩:=qw HG.out;obtain⟨mm,hmm⟩:=qf (bh*h)
   have hmb:0<=mm/\mm<=h:=by
    rw[hmm.out];have:bh=0\/bh=1:=by omega
    rcases this with e|e<;>rw[e]<;>omega
   have hm2:bh*h=mm:=hmm.out.symm;have hw0:IntKind.i64.wrap mm=mm:=wrp (by omega) (by omega);have hw1:IntKind.i64.wrap (2+mm)=2+mm:=wrp (by omega) (by omega);go_upto_region 26 with (fail);have eC:=(Ext.refl W7).drew;refine ql (fun w'=>w'.cell? ⟨g,2,none⟩=some (.int .i64 bh)/\w'.cell? ⟨g,0,none⟩=some (.int .i64 (n:Int))) [] (by kernel_rfl) (by exact⟨eC.cell b2,eC.cell b0⟩) (fun hHeld=>?_);refine sP 0 (h:=?_);refine sT 1 (h:=?_);refine sP 2 (h:=?_);refine sT 3 (h:=?_);refine qg (i:=4) rfl (by kernel_rfl) (fun K hK=>?_);go_simp;refine (HHF.out _).mono ?_;rintro e w3 ⟨rfl,e3⟩;replace eC:=eC.trans e3;go_wp2_with fail;clear hHeld;refine hK.out _ _ (by exact⟨eC.cell b2,eC.cell b0⟩) fun hHeld=>?_
   clear hK K;try simp only[nr]
   refine sP 5 (h:=?_);refine sP 6 (h:=?_);refine sP 7 (h:=?_);refine qm (by kernel_rfl) ?_ _;clear hHeld;have HX8:=q_h (HX.out.trans eC);have HPG8:=q_h ((HPG.out.ext eC).pgs HX8.out);have HG8:=q_h (eC.block HG.out);have HE8:=q_h (HE7.out.trans eC);have HI8:=q_h (eC.block HIB.out);have HM8:Hid (MpS w3 gm []):=⟨#[],0,eC.block HMP.out,rfl,MapKept.stamped_empty 0⟩
   clear eC e3 b0 b1 b2 b3 b4 b5 HX HPG HG HRB HIB HMP;obtain⟨q,hq⟩:∃q:Nat,mm=(q:Int):=⟨mm.toNat,by omega⟩
   have HQM:Hid (mm=(q:Int)):=hq;subst hq;obtain⟨u,hu⟩:∃u:Nat,bu=(u:Int):=⟨bu.toNat,by omega⟩
   have HBU:Hid ((u:Int)=(qR S 2).2.used):=by rw[<-hu];exact hbu.out
   subst hu
   have hhn:h*2<=(n:Int)-2:=by
    have:=hh.out;unfold qV at this;rw[this,Int.tdiv_eq_ediv_of_nonneg (by omega)];omega
   have hne1:¬c5=2+q:=by omega
   have hle1:2+q+u<=n:=by omega
   obtain⟨b0,b1,b2,b3,b4,b5⟩:=qw HG8.out;have hw2:IntKind.i64.wrap (2+(q:Int)+(u:Int))=2+(q:Int)+(u:Int):=wrp (by omega) (by omega);go_wp2_with (go_at_call 88;refine q_o ?_)
   have HLP:Hid (jH w3 (.slice (some ⟨ga,oa+(2+q),none⟩) u (c5-(2+q))) (Wl S (qR S 2).2)/\u=(Wl S (qR S 2).2).length):=by
    have e1:Wl S (qR S 2).2=(S.drop (2+q)).take u:=by
     unfold Wl;rw[<-hbh.out,HSL.out,<-hh.out,<-HBU.out,hm2];rw[show (2+(q:Int)).toNat=2+q by omega,Int.toNat_natCast]
    have h1:=HPG8.out.sub (i:=2+q) (j:=2+q+u) (by omega) (by omega) (by omega);rw[if_neg hne1,show 2+q+u-(2+q)=u by omega] at h1;rw[Hid,e1];refine⟨?_,?_⟩
    ·rw[<-qW ga oa (2+q)];exact h1
    ·rw[List.length_take,List.length_drop,HSL.out];omega
   have HIX:Hid (w3.heap[gm+1]?=some (.cells #[.int .i64 (qR S 2).2.size,.int .i64 (qR S 2).2.seq,.int .i64 (qR S 2).2.half,.int .i64 (qR S 2).2.used,.slice none 0 0,.slice none 0 0,.map (some gm)] 99 (0,0))):=by
    rw[Hid,<-hbz.out,HBZ.out,<-hbq.out,<-hbh.out,<-HBU.out];exact HI8.out
   have HGQ:Hid (wq.heap.size<=gm):=by rw[Hid,hgm.out];exact q_r
   clear b0 b1 b2 b3 b4 b5;refine (HLG.out wq w3 (gm+1) gm _ u _ HXq.out HE8.out (by have:=HGQ.out;omega) HGQ.out HLP.out.1 HLP.out.2 HIX.out HM8.out).mono ?_;rintro e w9 ⟨rfl,A3,n3,c3,B3,k3,d3,gm3,hn3,hk3,hB9,hO9,hT9,e9⟩;have HR9:=q_h (e9.block HRq.out);have HX9:=q_h (HXq.out.trans e9);have HB9:=q_h hB9;have HO9:=q_h hO9;have HT9:=q_h hT9;have HN3:=q_h hn3;have HK3:=q_h hk3;obtain⟨s0,hs0⟩:=qf s.size;obtain⟨s1,hs1⟩:=qf s.seq;obtain⟨s2,hs2⟩:=qf s.half;obtain⟨s3,hs3⟩:=qf s.used;rw[<-hs0.out,<-hs1.out,<-hs2.out,<-hs3.out] at HB9;clear e9 hB9 hO9 hT9 hn3 hk3 HRq HXq HE8 HG8 HI8 HM8 HPG8 HX8;obtain⟨x0,x1,x2,x3,x4,x5,x6⟩:=qP HB9.out;go_upto_region 29 with (fail);refine wp_region_lit ?_;refine wpList_plain rfl (fun K hK=>?_);go_simp;refine hK _ _ ?_;clear hK K;try simp only[nr]
   refine wpList_plain rfl (fun K hK=>?_);go_simp;refine hK _ _ ?_;clear hK K;try simp only[nr]
   refine qh rfl 25 _ _ rfl (by rfl) (by rfl) HR9.out qJ (by rfl) (by rfl) (by rfl) ?_;intro wz Bz Uz;have Cz:=Uz.chg (NoU.mk HR9.out (by decide));clear x0 x1 x2 x3 x4 x5 x6;obtain⟨x0,x1,x2,x3,x4,x5⟩:=qw Bz;go_wp2;refine bodyPost_ret (v:=.tuple #[.agg #[.int .i64 s0,.int .i64 s1,.int .i64 s2,.int .i64 s3,.slice A3 n3 c3,.slice B3 k3 d3],.int .i64 0]) ?_ rfl ?_
   ·simp[results,x0,x1,x2,x3,x4,x5,go_sem]
   ·rw[hR.out];refine⟨A3,n3,c3,B3,k3,d3,HN3.out,HK3.out,by rw[hs0.out,hs1.out,hs2.out,hs3.out],?_,?_,Cz.ext HX9.out (by omega)⟩
    ·exact (HO9.out.chgT Cz HR9.out (by decide) (by decide) (by decide)).obs
    ·exact TgG.tgs (qI.chgT HT9.out Cz HR9.out (by decide))
end
section
open Go.RowKit Go.Shelf
def J3:Go.Shelf.Ren:=⟨fun|14=>142|15=>182|_=>0,fun|0=>0|3=>3|4=>4|5=>5|9=>9|20=>20|22=>27|26=>44|_=>0,fun _=>0⟩
theorem Xm:Go.Proofs.SlLaysJ.n14 Tryz.prog J3:=by
 constructor
 all_goals first|kernel_rfl|(intro w;kernel_rfl)
theorem ByV.holds{l:Byt}(h:ByV w v l):Go.Lib.HoldsBytes w v l:=by
 obtain⟨A,c,rfl,h1,h2,h3⟩:=h;refine⟨A,c,rfl,fun hA=>?_,fun a ha i x hx=>?_⟩
 ·rcases Nat.eq_zero_or_pos l.length with h0|h0
  ·exact List.eq_nil_of_length_eq_zero h0
  ·obtain⟨b,off,e,-⟩:=h3 h0;rw[hA] at e;cases e
 ·have hi:=(List.getElem?_eq_some_iff.1 hx).1;obtain⟨b,off,e,h4⟩:=h3 (by omega);rw[ha] at e;injection e with e
  subst e;rw[qW,h4 i hi,jF hi];rw[List.getElem?_eq_getElem hi] at hx;injection hx with hx
  rw[hx]
theorem Ji {B:Nat}{l:Byt}(h:Go.Lib.FreshBytes B w v l) (hp:0<l.length):∃g cap,v=.slice (some ⟨g,0,none⟩) l.length cap/\B<=g/\g<w.heap.size/\ByV w v l:=by
 obtain⟨g,cap,zs,rfl,h1,h2,h3,h4,h5,h6,h7,h8⟩:=h
 have hc:∀i,i<l.length->w.cell? ⟨g,i,none⟩=some (.int .u8 (chZ l i)):=fun i hi=>by
  rw[h7 i (by omega)];have hz:i<zs.length:=by omega
  have e1:l[i]?=some ((zs[i].toNat).toUInt8):=by
   rw[<-h6];unfold Go.Lib.bytesOf;rw[List.getElem?_map,List.getElem?_take,if_pos hi,List.getElem?_eq_getElem hz]
   rfl
  have hb:=h5 zs[i] (List.getElem_mem hz);rw[List.getD_eq_getElem?_getD,List.getElem?_eq_getElem hz];unfold chZ;rw[List.getD_eq_getElem?_getD,e1]
  show some (Value.int .u8 zs[i])=some (.int .u8 (((zs[i].toNat).toUInt8.toNat:Nat):Int))
  congr 2
  show zs[i]=(((UInt8.ofNat zs[i].toNat).toNat:Nat):Int)
  rw[kT hb.1 (by omega)]
 refine⟨g,cap,rfl,h1,cell_lt (hc 0 hp),?_⟩;exact⟨_,cap,rfl,h2,h3,fun _=>⟨g,0,rfl,fun i hi=>by rw[Nat.zero_add];exact hc i hi⟩⟩
def q3d (l:Byt) (w:World) (e:Ending) (w':World):Prop:=∃g cap,e=.returned (.slice (some ⟨g,0,none⟩) l.length cap)/\w.heap.size<=g/\g<w'.heap.size/\l.length<=cap/\ByV w' (.slice (some ⟨g,0,none⟩) l.length cap) l/\Ext w w'
theorem Vf (l:List Byt):Go.Lib.join l []=l.flatten:=by
 cases l with
 | nil=>rfl
 | cons x r =>
  rw[Go.Lib.join_cons];unfold Go.Lib.joinTail
  simp
theorem V8 (l:List Byt):Go.Lib.lens l=l.flatten.length:=by
 unfold Go.Lib.lens;rw[List.length_flatten]
theorem q1R{l:List Byt}(h:jH w (.slice A n c) l) (hn:n=l.length) (h64:∀i,i<n->(l.getD i []).length=64) (hl:l.flatten.length<=1000000) (hn2:n<=1000000) (hc:n<=c):Calls Tryz.prog 142 #[.slice A n c,.slice none 0 0] w (q3d l.flatten w):=by
 rcases Nat.lt_or_ge n 2 with h2|h2
 ·rcases Nat.eq_zero_or_pos n with h0|h0
  ·subst h0;have hl0:l=[]:=List.eq_nil_of_length_eq_zero hn.symm;subst hl0;have h9:=Any.bytes_Join_none (P:=Tryz.prog) (ρ:=J3) Xm A c (.slice none 0 0) w;refine Calls.mono (show Calls Tryz.prog 142 _ _ _ from h9) ?_;rintro e w' ⟨rfl,rfl⟩;exact⟨w.heap.size,0,rfl,q_r,qK (heap_alloc_new w _),q_r,⟨_,0,rfl,q_r,Nat.zero_le _,fun hh=>absurd hh (Nat.lt_irrefl 0)⟩,(Ext.refl w).alloc _⟩
  ·obtain rfl:n=1:=by omega
   obtain⟨x,hx⟩:∃x,l=[x]:=List.length_eq_one_iff.1 hn.symm;subst hx;obtain⟨g,off,rfl,hq⟩:=h.at_ hn (by omega);obtain⟨B,m,d,k0,hm,hb⟩:=hq 0 (by omega);have h64':x.length=64:=h64 0 (by omega);have hm':m=x.length:=hm;subst hm';have hb':ByV w (.slice B x.length d) x:=hb;obtain⟨gb,ob,rfl,hcc⟩:=hb'.addr (by omega)
   have h9:=Any.bytes_Join_one (P:=Tryz.prog) (ρ:=J3) Xm g off c ⟨gb,ob,none⟩ d x (.slice none 0 0) w (by simpa using k0) (fun i y hy=>by
    have hi:=(List.getElem?_eq_some_iff.1 hy).1;rw[qW,hcc i hi,jF hi];rw[List.getElem?_eq_getElem hi] at hy;injection hy with hy
    rw[hy]) (by omega) (by omega)
   refine Calls.mono (show Calls Tryz.prog 142 _ _ _ from h9) ?_;rintro e w' ⟨v',rfl,hF,hB⟩;obtain⟨g',cap,rfl,q1,q2,q3⟩:=Ji hF (by omega);have e1:[x].flatten=x:=by simp
   rw[e1];obtain⟨_,c',hh,q4,-⟩:=q3.form;obtain⟨-,-,hh⟩:=Value.slice.inj hh;exact⟨g',cap,rfl,q1,q2,by omega,q3,hB⟩
 ·obtain⟨g,off,rfl,hq⟩:=h.at_ hn (by omega)
  obtain⟨vs,hv1,hv2⟩:∃vs:List Value,vs.length=n/\∀i,i<n->∃v,vs[i]?=some v/\w.cell? ⟨g,off+i,none⟩=some v/\ByV w v (l.getD i []):=by
   refine⟨(List.range n).map fun i=>(w.cell? ⟨g,off+i,none⟩).getD (.slice none 0 0),by simp,fun i hi=>?_⟩;obtain⟨B,m,d,k0,hm,hb⟩:=hq i hi;refine⟨_,?_,k0,hb⟩;rw[List.getElem?_map,List.getElem?_range hi]
   show some ((w.cell? ⟨g,off+i,none⟩).getD (.slice none 0 0))=_
   rw[k0]
   rfl
  have hflat:64<=l.flatten.length:=by
   have e1:l=l.getD 0 [] :: l.drop 1:=by
    cases l with
    | nil=>simp at hn;omega
    | cons x r=>rfl
   rw[e1,List.flatten_cons,List.length_append,h64 0 (by omega)];omega
  have h9:=Any.bytes_Join_many (P:=Tryz.prog) (ρ:=J3) Xm g off n c vs l (.slice none 0 0) [] w hn.symm h2 ⟨by omega,fun i v hi=>by
    have hin:i<n:=by have:=(List.getElem?_eq_some_iff.1 hi).1;omega
    obtain⟨v',a1,a2,-⟩:=hv2 i hin;rw[hi] at a1;injection a1 with a1
    rw[qW,a1];exact a2,fun i v x hi hx=>by
    have hin:i<n:=by have:=(List.getElem?_eq_some_iff.1 hi).1;omega
    obtain⟨v',a1,-,a3⟩:=hv2 i hin;rw[hi] at a1;injection a1 with a1
    rw[List.getD_eq_getElem?_getD,hx] at a3;rw[a1]
    exact a3.holds⟩ hc ⟨none,0,rfl,fun _=>rfl,fun a ha=>by cases ha⟩ (by omega) (by rw[V8,List.length_nil,Nat.zero_mul];omega)
  refine Calls.mono (show Calls Tryz.prog 142 _ _ _ from h9) ?_;rintro e w' ⟨v',rfl,hF,hB⟩;rw[Vf] at hF;obtain⟨g',cap,rfl,q1,q2,q3⟩:=Ji hF (by omega);obtain⟨_,c',hh,q4,-⟩:=q3.form;obtain⟨-,-,hh⟩:=Value.slice.inj hh;exact⟨g',cap,rfl,q1,q2,by omega,q3,hB⟩
def Wq (w:World) (v:Value) (n:Nat) (l:Byt):Prop:=n=l.length/\ByV w v l
theorem Wq.form{l:Byt}(h:Wq w v n l):∃A c,v=.slice A n c/\n<=c/\c<=maxLen:=by
 obtain⟨rfl,h⟩:=h;exact h.form
theorem Wq.ext{l:Byt}(h:Wq w v n l) (e:Ext w w'):Wq w' v n l:=⟨h.1,h.2.ext e⟩
theorem Wq.addr{l:Byt}(h:Wq w (.slice A n c) n l) (h0:0<n):∃g off,A=some ⟨g,off,none⟩/\∀i,i<n->∃u,w.cell? ⟨g,off+i,none⟩=some u/\Hid (u=.int .u8 (chZ l i)):=by
 obtain⟨rfl,h⟩:=h;obtain⟨g,off,h1,h2⟩:=h.addr h0;exact⟨g,off,h1,fun i hi=>⟨_,h2 i hi,rfl⟩⟩
theorem JI:Calls Tryz.prog 144 #[.int .u8 z] w (qH w (.bool (!decide (z=0)))):=by
 have e1:(z != 0)=!decide (z=0):=by by_cases h:z=0<;>simp[h]
 obtain⟨r,hr⟩:=qf (!decide (z=0));rw[<-hr.out] at e1 ⊢;go_enter Tryz.func144,Tryz.ntmps144;go_wp2
 first|go_ret|skip
 exact⟨rfl,Ext.refl w⟩
theorem WN{l:Byt}(h:Wq w v n l)  (g:Nat->Bool)
  (hf:∀i,i<n->∀w' u,Ext w w'->Hid (u=.int .u8 (chZ l i))->Calls Tryz.prog 144 #[u] w' (qH w' (.bool (g i)))) :
  Calls Tryz.prog 183 #[v,.func (.func 144) #[] #[]] w (yt w (kH n g)):=by
 obtain⟨r,hr⟩:=qf (kH n g);rw[<-hr.out];obtain⟨A,c,rfl,hnc,hcm⟩:=h.form;unfold maxLen at hcm;have hI:=h;have HF:=q_h hf;clear h hf;go_enter Tryz.func183,Tryz.ntmps183;go_wp2
 go_loopw [8] (fun i wr=>∃k:Nat,k<=n/\i=.int .i64 k/\Hid (∀j,j<k->g j=false)/\Ext w wr) (fun i _=>n-(intOf i).toNat)
 case atStart=>exact⟨0,Nat.zero_le _,rfl,fun j hj=>absurd hj (by omega),Ext.refl w⟩
 case round =>
  obtain⟨k,hk,rfl,HA,hE⟩:=hrel
  by_cases hlt:k<n
  ·(obtain⟨b,off,rfl,hx⟩:=(hI.ext hE).addr (by omega));(obtain⟨u,p0,hv⟩:=hx k hlt)
   clear hx;go_wp2_with (go_at_call 144;refine q_o ?_);refine (HF.out k hlt _ _ hE hv).mono ?_;rintro e w1 ⟨rfl,e1⟩;replace hE:=hE.trans e1;obtain⟨o,ho⟩:=qf (g k);rw[<-ho.out];cases o with
   | false =>
    go_wp2;go_roundw
    case rel=>exact⟨k+1,by omega,by go_num,kw (p:=fun j=>g j=false) HA.out ho.out.symm,hE⟩
    case measure=>simp[intOf];omega
   | true =>
    have HT:Hid (r=true):=by rw[Hid,hr.out];exact zF hlt ho.out.symm
    go_wp2;go_ret;exact⟨_,rfl,by rw[Hid,HT.out];symm;simp,hE⟩
  ·have HT:Hid (r=false):=by rw[Hid,hr.out];exact zg.2 (fun j hj=>HA.out j (by omega))
   go_wp2;go_ret;exact⟨_,rfl,by rw[Hid,HT.out];rfl,hE⟩
theorem WP{l:Byt}(h:Wq w v n l)  (g:Nat->Bool)
  (hf:∀i,i<n->∀w' u,Ext w w'->Hid (u=.int .u8 (chZ l i))->Calls Tryz.prog 144 #[u] w' (qH w' (.bool (g i)))) :
  Calls Tryz.prog 143 #[v,.func (.func 144) #[] #[]] w (qH w (.bool (kH n g))):=by
 obtain⟨r,hr⟩:=qf (kH n g);rw[<-hr.out];obtain⟨A,c,rfl,hnc,hcm⟩:=h.form;have hI:=h;have HF:=q_h hf;clear h hf;go_enter Tryz.func143,Tryz.ntmps143;go_wp2_with (go_at_call 183;refine q_o ?_);refine (WN hI  g HF.out).mono ?_;rintro e w1 ⟨z,rfl,hz,e1⟩;rw[<-hr.out] at hz;go_wp2;go_ret;exact⟨qx hz.out.symm,e1⟩
theorem XY{l:Byt}(h:Wq w v n l) (h0:∀i,i<n->chZ l i=0):Calls Tryz.prog 143 #[v,.func (.func 144) #[] #[]] w (qH w (.bool false)):=by
 have e1:kH n (fun i=>!decide (chZ l i=0))=false:=zg.2 (fun j hj=>by rw[h0 j hj];rfl);rw[<-e1];refine WP h _ (fun i hi w' u _ hu=>?_);rw[hu.out];exact JI
end
section
open Go.RowKit
structure IxT (base gb gm av:Nat) (z:Shf) (w:World):Prop where
 ex:∃A c B d,w.heap[gb]?=some (.cells #[.int .i64 z.size,.int .i64 z.seq,.int .i64 z.half,.int .i64 z.used,.slice A z.objs.length c,.slice B z.tags.length d,.map (some gm)] 99 (0,0))/\ObG base w (.slice A z.objs.length c) z.objs/\TgG base w (.slice B z.tags.length d) z.tags/\(∀k,(Value.slice A z.objs.length c).ownBlock=some k->k≠av)/\(∀k,(Value.slice B z.tags.length d).ownBlock=some k->k≠av)
 mp:MpS w gm (mpO 0 z.objs)
 hb:base<=gb
 hg:base<=gm
 n1:gb≠av
 n2:gm≠av
 lt:av<w.heap.size
theorem IxT.ext {gb gm av:Nat}{z:Shf}(h:IxT base gb gm av z w) (e:Ext w w'):IxT base gb gm av z w':=by
 obtain⟨⟨A,c,B,d,h1,h2,h3,h4,h5⟩,h6,h7,h8,h9,h10,h11⟩:=h;exact⟨⟨A,c,B,d,e.block h1,h2.ext e,h3.ext e,h4,h5⟩,h6.ext e,h7,h8,h9,h10,Nat.lt_of_lt_of_le h11 e.size⟩
def q3q (W0:World) (z:Shf) (b:Byt) (z':Shf):Prop:=∀(w:World) (gb gm av:Nat) (A:Option Addr) (n c:Nat),Ext W0 w->IxT W0.heap.size gb gm av z w->ByV w (.slice A n c) b->n=b.length ->
 Calls Tryz.prog 145 #[.pointer (some ⟨gb,0,none⟩),.slice A n c] w (fun e w'=>e=.returned (.bool true)/\IxT W0.heap.size gb gm av z' w'/\w'.heap[av]?=w.heap[av]?/\Ext W0 w')
theorem ByV.same{o:Nat}{l:Byt}(h:ByV w (.slice (some ⟨g,o,none⟩) n c) l) (e:w'.heap[g]?=w.heap[g]?):ByV w' (.slice (some ⟨g,o,none⟩) n c) l:=by
 obtain⟨A',c',hv,h1,h2,h3⟩:=h;obtain⟨rfl,rfl,rfl⟩:=Value.slice.inj hv;refine⟨_,_,rfl,h1,h2,fun hn=>?_⟩;obtain⟨b,off,e1,h4⟩:=h3 hn;injection e1 with e1
 injection e1 with e2 e3
 subst e2 e3;exact⟨_,_,rfl,fun i hi=>by rw[World.cell?_of_block (w:=w) e];exact h4 i hi⟩
theorem ByV.mid{o:Nat}{l:Byt}(h:ByV w (.slice (some ⟨g,o,none⟩) n c) l) (off m k:Nat) (h1:off+m<=n) (h2:m<=k) (h3:k<=maxLen):ByV w (.slice (some ⟨g,o+off,none⟩) m k) ((l.drop off).take m):=by
 obtain⟨A',c',hv,h4,h5,h6⟩:=h;obtain⟨rfl,rfl,rfl⟩:=Value.slice.inj hv;have hl:((l.drop off).take m).length=m:=by rw[List.length_take,List.length_drop];omega
 refine⟨_,k,by rw[hl],by rw[hl];exact h2,h3,fun hn=>?_⟩;rw[hl] at hn;obtain⟨b,o2,e1,h7⟩:=h6 (by omega);injection e1 with e1
 injection e1 with e2 e3
 subst e2 e3;refine⟨_,_,rfl,fun i hi=>?_⟩;rw[hl] at hi;rw[jl _ hi,yg,Nat.add_assoc];exact h7 (off+i) (by omega)
def xZ (Es:List Byt):Byt:=(Es.map vk).flatten
theorem Y3 {Es:List Byt}(hi:i<Es.length):xZ (Es.drop i)=vk (Es.getD i [])++xZ (Es.drop (i+1)):=by
 have e1:Es.drop i=Es.getD i [] :: Es.drop (i+1):=by
  rw[List.drop_eq_getElem_cons hi,List.getD_eq_getElem?_getD,List.getElem?_eq_getElem hi]
  rfl
 unfold xZ;rw[e1,List.map_cons,List.flatten_cons]
theorem VI {a b:Byt}(h:i<a.length):chZ (a++b) i=chZ a i:=by
 unfold chZ;rw[List.getD_eq_getElem?_getD,List.getD_eq_getElem?_getD,List.getElem?_append_left h]
theorem g4_b4(h:n<65536) (r:Byt):g4 (b4 n++r)=n:=by
 have hl:∀i,i<4->chZ (b4 n++r) i=chZ (b4 n) i:=fun i hi=>VI (by rw[kZ];exact hi)
 have hb:=JC h;have hc:∀i,i<4->(byC (b4 n))[i]?=some (.int .u8 (chZ (b4 n) i)):=fun i hi=>zt (by rw[kZ];exact hi)
 have c0:=hc 0 (by omega);have c1:=hc 1 (by omega);have c2:=hc 2 (by omega);have c3:=hc 3 (by omega);rw[hb] at c0 c1 c2 c3;simp only[List.getElem?_cons_zero,List.getElem?_cons_succ,Option.some.injEq,Value.int.injEq,true_and] at c0 c1 c2 c3;unfold g4;rw[hl 0 (by omega),hl 1 (by omega),hl 2 (by omega),hl 3 (by omega),<-c0,<-c1,<-c2,<-c3];omega
theorem V7 {e r:Byt}(h:e.length<=5000):g4 (vk e++r)=e.length/\((vk e++r).drop 4).take e.length=e/\(∀i,i<64*pgN e-(4+e.length)->chZ (((vk e++r).drop (4+e.length)).take (64*pgN e-(4+e.length))) i=0)/\(vk e++r).drop (64*pgN e)=r:=by
 have hl:=jX e;have hp:4+e.length<=64*pgN e:=by unfold pgN;omega
 refine⟨?_,?_,fun i hi=>?_,?_⟩
 ·unfold vk;rw[List.append_assoc,List.append_assoc];exact g4_b4 (by omega) _
 ·unfold vk;rw[List.append_assoc,List.append_assoc,List.drop_left' (kZ _),List.take_left' rfl]
 ·rw[jl _ hi,yg];unfold vk;rw[VI (by simp[kZ];omega)];unfold chZ;rw[List.getD_eq_getElem?_getD,List.getElem?_append_right (by simp[kZ]),List.getElem?_replicate]
  split<;>rfl
 ·rw[List.drop_left' hl]
def slN:Value->Nat
 | .slice _ n _=>n
 | _=>0
theorem Yx {W0:World}{gb gm u:Nat}{l Es:List Byt}{Z:Nat->Shf}(hP:jH w (.slice A u c) l) (hu:u=l.length) (h64:∀i,i<u->(l.getD i []).length=64) (hu2:u<=10000) (hX:Ext W0 w)
  (hb:W0.heap.size<=gb) (hg:W0.heap.size<=gm) (hZ0:(Z 0).objs=[]/\(Z 0).tags=[]) (hB:w.heap[gb]?=some (.cells #[.int .i64 (Z 0).size,.int .i64 (Z 0).seq,.int .i64 (Z 0).half,.int .i64 (Z 0).used,.slice none 0 0,.slice none 0 0,.map (some gm)] 99 (0,0))) (hM:MpS w gm [])
  (hF:l.flatten=xZ Es) (hE:∀i,i<Es.length->1<=(Es.getD i []).length/\(Es.getD i []).length<=5000/\q3q W0 (Z i) (Es.getD i []) (Z (i+1))) (ht:(Z Es.length).tags.length<=100000) :
  Calls Tryz.prog 88 #[.pointer (some ⟨gb,0,none⟩),.slice A u c] w (q2a W0 gb (Z Es.length)):=by
 obtain⟨R,hR⟩:=qf (q2a W0 gb (Z Es.length));rw[<-hR.out]
 have hfl:l.flatten.length=64*u:=by
  rw[hu];clear hF hP hu2;subst hu
  induction l with
  | nil=>rfl
  | cons x r ih =>
   have h0:x.length=64:=h64 0 (by simp);rw[List.flatten_cons,List.length_append,ih (fun i hi=>h64 (i+1) (by simpa using hi)),h0,List.length_cons];omega
 have huc:u<=c:=by
  obtain⟨A',c',h1,h2,-⟩:=hP.form;obtain⟨-,e1,e2⟩:=Value.slice.inj h1;omega
 have HJ:Hid (Calls Tryz.prog 142 #[.slice A u c,.slice none 0 0] w (q3d (xZ (Es.drop 0)) w)):=by
  have h1:=q1R hP hu h64 (by omega) (by omega) huc;rw[hF] at h1;exact h1
 have HFL:Hid ((xZ Es).length<=640000):=by rw[Hid,<-hF];omega
 have HX:=q_h hX;have HB:=q_h hB;have HM:=q_h hM;have HE:=q_h hE;have HZ0:=q_h hZ0;obtain⟨p,hp⟩:=qf Es.length;rw[<-hp.out] at HE hR;clear hP hu h64 hX hB hM hF hE hZ0 hfl ht;go_enter Tryz.func88,Tryz.ntmps88;go_wp2_with (go_at_call 142;refine q_o ?_);refine HJ.out.mono ?_;rintro e w1 ⟨ga,ca,rfl,hga,hga2,hlc,hby,e1⟩;have HX1:=q_h (HX.out.trans e1)
 have HI1:Hid (IxT W0.heap.size gb gm ga (Z 0) w1):=by
  refine⟨⟨none,0,none,0,?_,?_,?_,fun k hk=>?_,fun k hk=>?_⟩,?_,hb,hg,?_,?_,hga2⟩
  ·rw[HZ0.out.1,HZ0.out.2];exact e1.block HB.out
  ·rw[HZ0.out.1];exact⟨fun _=>.int .i64 0,fun _=>.int .i64 0,⟨HX1.out.size,rfl,.inl ⟨rfl,rfl⟩⟩,fun j hj=>by simp at hj⟩
  ·rw[HZ0.out.2];exact⟨HX1.out.size,rfl,.inl ⟨rfl,rfl⟩⟩
  ·simp[Value.ownBlock] at hk
  ·simp[Value.ownBlock] at hk
  ·rw[HZ0.out.1];exact HM.out.ext e1
  ·have:=qK HB.out;omega
  ·have:=HM.out.lt;omega
 have HBY1:=q_h hby;clear e1 hby HJ;go_wp2_with fail
 go_loopw [5] (fun tv wr=>∃(i o c':Nat),i<=p/\tv=.slice (some ⟨ga,o,none⟩) (xZ (Es.drop i)).length c'/\Hid (ByV wr (.slice (some ⟨ga,o,none⟩) (xZ (Es.drop i)).length c') (xZ (Es.drop i)))/\Hid (IxT W0.heap.size gb gm ga (Z i) wr)/\Hid (Ext W0 wr)/\Hid ((xZ (Es.drop i)).length<=640000)) (fun tv _=>slN tv)
 case atStart=>exact⟨0,0,ca,Nat.zero_le _,rfl,HBY1,HI1,HX1,HFL⟩
 case round =>
  clear HBY1 HI1 HX1 HFL;obtain⟨i,o,c',hi9,rfl,HBY,HI,HX,HFL⟩:=hrel;obtain⟨wq,hwq⟩:∃wq,wq=wr:=⟨_,rfl⟩
  subst hwq
  by_cases hlt:i<p
  ·obtain⟨E,hE⟩:=qf (Es.getD i []);obtain⟨rs,hrs⟩:=qf (xZ (Es.drop (i+1)));have HEE:=q_h (HE.out i hlt);rw[<-hE.out] at HEE;have HALL:Hid (xZ (Es.drop i)=vk E++rs):=by rw[hE.out,hrs.out];exact Y3 (by have:=hp.out;omega)
   have HPT:=q_h (V7 (e:=E) (r:=rs) HEE.out.2.1);obtain⟨L,hL⟩:=qf (xZ (Es.drop i));rw[<-hL.out] at HBY HFL HALL ⊢;rw[<-HALL.out] at HPT;obtain⟨N,hN⟩:=qf L.length;rw[<-hN.out] at HBY HFL ⊢;obtain⟨n,hn⟩:=qf E.length;obtain⟨pg,hpg⟩:=qf (pgN E);rw[<-hn.out] at HPT HEE;rw[<-hpg.out] at HPT
   have HNB:Hid (4+n<=64*pg/\64*pg+rs.length=N):=by
    have h1:=HALL.out;have h2:=jX E;have h3:(vk E++rs).length=N:=by rw[<-h1,hN.out]
    rw[List.length_append,h2,<-hpg.out] at h3;refine⟨?_,h3⟩;rw[hpg.out,hn.out];unfold pgN;omega
   obtain⟨hn1,hn2,-⟩:=HEE.out;obtain⟨hnb1,hnb2⟩:=HNB.out;have hN9:N<=640000:=HFL.out
   have hNc:N<=c'/\c'<=maxLen:=by
    obtain⟨A',c9,h1,h2,h3⟩:=HBY.out.form;obtain⟨-,e1,e2⟩:=Value.slice.inj h1;omega
   have hc9:c'<=maxLen:=hNc.2;unfold maxLen at hc9
   have HG4:Hid (∀w',Ext wq w'->Calls Tryz.prog 141 #[.slice (some ⟨ga,o,none⟩) N c'] w' (qH w' (.int .i64 (n:Int)))):=fun w' e=>by
    rw[<-HPT.out.1];exact wK (HBY.out.ext e) hN.out (by omega)
   have u1:decide (0<(N:Int))=true:=q_t (by omega);have u2:decide ((N:Int)-4<(n:Int))=false:=q_f (by omega);have u3:(4:Int)<=(N:Int):=by omega
   have hne4:¬c'=4:=by omega
   go_wp2_with (go_at_call 141;refine q_o ?_);refine (HG4.out _ (Ext.refl wq)).mono ?_;rintro e w2 ⟨rfl,e2⟩
   have HEV:Hid (ByV w2 (.slice (some ⟨ga,o+4,none⟩) n n) E):=by
    have h1:=(HBY.out.ext e2).mid 4 n n (by omega) (q_r) (by unfold maxLen;omega);rw[HPT.out.2.1] at h1;exact h1
   have HX2:=q_h (HX.out.trans e2);have HI2:=q_h (HI.out.ext e2);have HBY2:=q_h (HBY.out.ext e2);clear e2;have hn9:(4:Int)+(n:Int)<=(c':Int):=by omega
   go_wp2_with (go_at_call 121;refine q_o ?_);refine (kW HEV.out (by have:=hn.out;omega)).mono ?_;rintro e w3 ⟨rfl,e3⟩;rw[<-hpg.out];have HX3:=q_h (HX2.out.trans e3);have HI3:=q_h (HI2.out.ext e3);have HBY3:=q_h (HBY2.out.ext e3);have HEV3:=q_h (HEV.out.ext e3);clear e3 HX2 HI2 HBY2 HEV;have hp9:pg<=10000:=by omega
   have hq1:(4:Int)+(n:Int)<=(pg:Int)*64:=by omega
   have hq2:(pg:Int)*64<=(N:Int):=by omega
   have HZ:Hid (∀(o' k':Nat),((c'=4+n/\o'=o/\k'=0)\/(o'=o+(4+n)/\k'=c' - (4+n)))->∀w',ByV w' (.slice (some ⟨ga,o,none⟩) N c') L->Calls Tryz.prog 143 #[.slice (some ⟨ga,o',none⟩) (pg*64-(4+n)) k',.func (.func 144) #[] #[]] w' (qH w' (.bool false))):=fun o' k' ho w' hb=>by
    rcases Nat.eq_zero_or_pos (pg*64-(4+n)) with h0|h0
    ·refine XY (l:=[]) (n:=pg*64-(4+n)) ⟨h0,⟨_,_,by rw[h0];rfl,Nat.zero_le _,by unfold maxLen;omega,fun hh=>absurd hh (Nat.lt_irrefl 0)⟩⟩ (fun i hi=>by omega)
    ·have ho':o'=o+(4+n)/\k'=c' - (4+n):=by omega
     obtain⟨rfl,rfl⟩:=ho';have h1:=hb.mid (4+n) (pg*64-(4+n)) (c' - (4+n)) (by omega) (by omega) (by unfold maxLen;omega);refine XY (n:=pg*64-(4+n)) ⟨?_,h1⟩ (fun i hi=>?_)
     ·rw[List.length_take,List.length_drop];have:=hN.out;omega
     ·have h2:=HPT.out.2.2.1 i (by omega);rw[show 64*pg-(4+n)=pg*64-(4+n) by omega] at h2;exact h2
   obtain⟨z1,hz1⟩:=qf (Z (i+1));rw[<-hz1.out] at HEE
   by_cases hce:c'=4+n
   ·have HZ1:=q_h (HZ.out o 0 (.inl ⟨hce,rfl,rfl⟩));clear HZ;subst hce;go_upto_region 8 with (fail);go_wp2_with (go_at_call 143;refine q_o ?_);refine (HZ1.out _ HBY3.out).mono ?_;rintro e w4 ⟨rfl,e4⟩;have HX4:=q_h (HX3.out.trans e4);have HI4:=q_h (HI3.out.ext e4);have HBY4:=q_h (HBY3.out.ext e4);have HEV4:=q_h (HEV3.out.ext e4);clear e4;go_wp2_with (go_at_call 145;refine q_o ?_);refine (HEE.out.2.2 w4 gb gm ga _ _ _ HX4.out HI4.out HEV4.out hn.out).mono ?_;rintro e w5 ⟨rfl,hI5,h5,e5⟩;have HBY5:=q_h (HBY4.out.same h5);have HX5:=q_h e5;rw[hz1.out] at hI5;have HI5:=q_h hI5;clear hI5 h5 e5 HX4 HI4 HBY4 HEV4 HX3 HI3 HBY3 HEV3 HZ1 HG4 HEE;have HRS:Hid (rs.length<=640000):=by rw[Hid];omega
    have hq3:(pg:Int)*64<=(((4+n):Nat):Int):=by omega
    have HNX:Hid (∃o2 c2,(Value.slice (if (4+n)=pg*64 then some ⟨ga,o,none⟩ else some ⟨ga,o+pg*64,none⟩) (N-pg*64) ((4+n)-pg*64))=.slice (some ⟨ga,o2,none⟩) rs.length c2/\ByV w5 (.slice (some ⟨ga,o2,none⟩) rs.length c2) rs):=by
     have e1:N-pg*64=rs.length:=by omega
     rw[e1]
     by_cases h9:(4+n)=pg*64
     ·rw[if_pos h9];have h0:rs.length=0:=by omega
      have h1:rs=[]:=List.eq_nil_of_length_eq_zero h0;subst h1;exact⟨o,_,rfl,⟨_,_,rfl,Nat.zero_le _,by unfold maxLen;omega,fun hh=>absurd hh (Nat.lt_irrefl 0)⟩⟩
     ·rw[if_neg h9];have h2:=HBY5.out.mid (pg*64) (N-pg*64) ((4+n)-pg*64) (by omega) (by omega) (by unfold maxLen;omega);have h3:=HPT.out.2.2.2;rw[show 64*pg=pg*64 by omega] at h3;rw[h3,List.take_of_length_le (by omega),e1] at h2;exact⟨_,_,rfl,h2⟩
    go_wp2_with fail;go_roundw
    case rel =>
     obtain⟨o2,c2,h1,h2⟩:=HNX.out;refine⟨i+1,o2,c2,by omega,?_,?_,HI5,HX5,?_⟩
     ·rw[<-hrs.out]
      first
       | exact h1
       | (rw[if_pos (by omega)] at h1;exact h1)
       | (rw[if_neg (by omega)] at h1;exact h1)
     ·rw[<-hrs.out];exact h2
     ·rw[<-hrs.out];exact HRS.out
    case measure=>simp[slN];omega
   ·have HZ1:=q_h (HZ.out _ _ (.inr ⟨rfl,rfl⟩));clear HZ;go_upto_region 8 with (fail);go_wp2_with (go_at_call 143;refine q_o ?_);refine (HZ1.out _ HBY3.out).mono ?_;rintro e w4 ⟨rfl,e4⟩;have HX4:=q_h (HX3.out.trans e4);have HI4:=q_h (HI3.out.ext e4);have HBY4:=q_h (HBY3.out.ext e4);have HEV4:=q_h (HEV3.out.ext e4);clear e4;go_wp2_with (go_at_call 145;refine q_o ?_);refine (HEE.out.2.2 w4 gb gm ga _ _ _ HX4.out HI4.out HEV4.out hn.out).mono ?_;rintro e w5 ⟨rfl,hI5,h5,e5⟩;have HBY5:=q_h (HBY4.out.same h5);have HX5:=q_h e5;rw[hz1.out] at hI5;have HI5:=q_h hI5;clear hI5 h5 e5 HX4 HI4 HBY4 HEV4 HX3 HI3 HBY3 HEV3 HZ1 HG4 HEE;have HRS:Hid (rs.length<=640000):=by rw[Hid];omega
    have hq3:(pg:Int)*64<=((c':Nat):Int):=by omega
    have HNX:Hid (∃o2 c2,(Value.slice (if c'=pg*64 then some ⟨ga,o,none⟩ else some ⟨ga,o+pg*64,none⟩) (N-pg*64) (c' - pg*64))=.slice (some ⟨ga,o2,none⟩) rs.length c2/\ByV w5 (.slice (some ⟨ga,o2,none⟩) rs.length c2) rs):=by
     have e1:N-pg*64=rs.length:=by omega
     rw[e1]
     by_cases h9:c'=pg*64
     ·rw[if_pos h9];have h0:rs.length=0:=by omega
      have h1:rs=[]:=List.eq_nil_of_length_eq_zero h0;subst h1;exact⟨o,_,rfl,⟨_,_,rfl,Nat.zero_le _,by unfold maxLen;omega,fun hh=>absurd hh (Nat.lt_irrefl 0)⟩⟩
     ·rw[if_neg h9];have h2:=HBY5.out.mid (pg*64) (N-pg*64) (c' - pg*64) (by omega) (by omega) (by unfold maxLen;omega);have h3:=HPT.out.2.2.2;rw[show 64*pg=pg*64 by omega] at h3;rw[h3,List.take_of_length_le (by omega),e1] at h2;exact⟨_,_,rfl,h2⟩
    go_wp2_with fail;go_roundw
    case rel =>
     obtain⟨o2,c2,h1,h2⟩:=HNX.out;refine⟨i+1,o2,c2,by omega,?_,?_,HI5,HX5,?_⟩
     ·rw[<-hrs.out]
      first
       | exact h1
       | (rw[if_pos (by omega)] at h1;exact h1)
       | (rw[if_neg (by omega)] at h1;exact h1)
     ·rw[<-hrs.out];exact h2
     ·rw[<-hrs.out];exact HRS.out
    case measure=>simp[slN];omega
  obtain rfl:p=i:=by omega
  have HN0:Hid ((xZ (Es.drop p)).length=0):=by
   rw[Hid,hp.out,List.drop_length]
   rfl
  obtain⟨N,hN⟩:=qf (xZ (Es.drop p)).length;rw[<-hN.out] at HN0 HBY ⊢;have h0:=HN0.out;subst h0;go_wp2
  first|go_ret|skip
  rw[hR.out];obtain⟨⟨A9,c9,B9,d9,h1,h2,h3,-,-⟩,h4,h5,h6,-,-,-⟩:=HI.out;exact⟨rfl,A9,_,c9,B9,_,d9,gm,rfl,rfl,h1,h2,h3,HX.out⟩
theorem yX.get {P:Nat->Prop}:∀ {vs:List Vl}{g off:Nat},yX P N w vs g off->∀i,i<vs.length->∃c0 c1 c2 c3 c4,w.cell? ⟨g,off+i*5,none⟩=some c0/\w.cell? ⟨g,off+i*5+1,none⟩=some c1/\w.cell? ⟨g,off+i*5+2,none⟩=some c2/\w.cell? ⟨g,off+i*5+3,none⟩=some c3/\w.cell? ⟨g,off+i*5+4,none⟩=some c4/\VlP P N w (vs[i]?.getD default) (.agg #[c0,c1,c2,c3,c4])
 | [],_,_,_,i,hi=>absurd hi (Nat.not_lt_zero i)
 | v :: r,g,off,h,0,_=>by
  unfold yX at h;exact h.1
 | v :: r,g,off,h,i+1,hi=>by
  unfold yX at h;have h1:=yX.get h.2 i (by simpa using hi);rw[show off+5+i*5=off+(i+1)*5 by omega] at h1;exact h1
theorem VlP.txts {P:Nat->Prop}{l:List Byt}(h:VlP P N w (.lst (l.map .txt)) v):∃A k,v=.agg #[.int .i64 2,.bool false,.slice none 0 0,.slice none 0 0,.slice A l.length k]/\l.length<=k/\(0<l.length->∃g off,A=some ⟨g,off,none⟩/\∀i,i<l.length->∃q k',w.cell? ⟨g,off+i*5,none⟩=some (.int .i64 1)/\w.cell? ⟨g,off+i*5+1,none⟩=some (.bool false)/\w.cell? ⟨g,off+i*5+2,none⟩=some (.slice none 0 0)/\w.cell? ⟨g,off+i*5+3,none⟩=some (.slice (some ⟨q,0,none⟩) (l.getD i []).length k')/\w.cell? ⟨g,off+i*5+4,none⟩=some (.slice none 0 0)/\ByV w (.slice (some ⟨q,0,none⟩) (l.getD i []).length k') (l.getD i [])):=by
 unfold VlP at h;obtain⟨A,k,h0,h1,h2,h3⟩:=h;rw[List.length_map] at h0 h1 h3;refine⟨A,k,h0,h1,fun hn=>?_⟩;obtain⟨g,off,h4,-,h5⟩:=h3 hn;refine⟨g,off,h4,fun i hi=>?_⟩;obtain⟨c0,c1,c2,c3,c4,k0,k1,k2,k3,k4,hv⟩:=h5.get i (by rw[List.length_map];exact hi)
 have e1:((l.map Vl.txt)[i]?.getD default)=.txt (l.getD i []):=by
  rw[List.getElem?_map,List.getElem?_eq_getElem hi,List.getD_eq_getElem?_getD,List.getElem?_eq_getElem hi]
  rfl
 rw[e1] at hv;unfold VlP at hv;obtain⟨q,k',hv0,hv1,-,-⟩:=hv;injection hv0 with hv0
 injection hv0 with hv0
 simp only[List.cons.injEq,and_true] at hv0;obtain⟨rfl,rfl,rfl,rfl,rfl⟩:=hv0;exact⟨q,k',k0,k1,k2,k3,k4,hv1⟩
theorem VlP.obj {P:Nat->Prop}{o:Ob}(h:VlP P N w (.lst [.int 0,ZE o,.txt o.data]) v):∃g off k b0 A0 n0 c0 A1 k1 q k2,v=.agg #[.int .i64 2,.bool false,.slice none 0 0,.slice none 0 0,.slice (some ⟨g,off,none⟩) 3 k]/\3<=k /\
  (w.cell? ⟨g,off,none⟩=some (.int .i64 0)/\w.cell? ⟨g,off+1,none⟩=some (.bool b0)/\w.cell? ⟨g,off+2,none⟩=some (.slice A0 n0 c0)/\w.cell? ⟨g,off+3,none⟩=some (.slice none 0 0)/\w.cell? ⟨g,off+4,none⟩=some (.slice none 0 0)) /\
  (w.cell? ⟨g,off+5,none⟩=some (.int .i64 2)/\w.cell? ⟨g,off+6,none⟩=some (.bool false)/\w.cell? ⟨g,off+7,none⟩=some (.slice none 0 0)/\w.cell? ⟨g,off+8,none⟩=some (.slice none 0 0)/\w.cell? ⟨g,off+9,none⟩=some (.slice A1 o.links.length k1)) /\
  (w.cell? ⟨g,off+10,none⟩=some (.int .i64 1)/\w.cell? ⟨g,off+11,none⟩=some (.bool false)/\w.cell? ⟨g,off+12,none⟩=some (.slice none 0 0)/\w.cell? ⟨g,off+13,none⟩=some (.slice (some ⟨q,0,none⟩) o.data.length k2)/\w.cell? ⟨g,off+14,none⟩=some (.slice none 0 0)) /\
  jA N w (.agg #[.bool b0,.slice A0 n0 c0]) 0/\VlP P N w (.lst (o.links.map .txt)) (.agg #[.int .i64 2,.bool false,.slice none 0 0,.slice none 0 0,.slice A1 o.links.length k1])/\ByV w (.slice (some ⟨q,0,none⟩) o.data.length k2) o.data:=by
 unfold VlP at h;obtain⟨A,k,h0,h1,h2,h3⟩:=h;obtain⟨g,off,rfl,-,h5⟩:=h3 (by show 0<3;omega);have e0:=h5.get 0 (by show 0<3;omega);have e1:=h5.get 1 (by show 1<3;omega);have e2:=h5.get 2 (by show 2<3;omega);obtain⟨c0,c1,c2,c3,c4,k0,k1,k2,k3,k4,hv⟩:=e0;obtain⟨d0,d1,d2,d3,d4,l0,l1,l2,l3,l4,hw⟩:=e1;obtain⟨f0,f1,f2,f3,f4,m0,m1,m2,m3,m4,hx⟩:=e2;have hv':VlP P N w (.int 0) (.agg #[c0,c1,c2,c3,c4]):=hv;have hw':VlP P N w (.lst (o.links.map .txt)) (.agg #[d0,d1,d2,d3,d4]):=hw;have hx':VlP P N w (.txt o.data) (.agg #[f0,f1,f2,f3,f4]):=hx;obtain⟨A1,q1,hw0,-,-⟩:=hw'.txts;have hww:=hw';rw[hw0] at hww;unfold VlP at hv' hx';obtain⟨b0,A0,n0,r0,hv0,hv1⟩:=hv';obtain⟨q,k9,hx0,hx1,-,-⟩:=hx';injection hv0 with hv0
 injection hv0 with hv0
 simp only[List.cons.injEq,and_true] at hv0;obtain⟨rfl,rfl,rfl,rfl,rfl⟩:=hv0;injection hw0 with hw0
 injection hw0 with hw0
 simp only[List.cons.injEq,and_true] at hw0;obtain⟨rfl,rfl,rfl,rfl,rfl⟩:=hw0;injection hx0 with hx0
 injection hx0 with hx0
 simp only[List.cons.injEq,and_true] at hx0;obtain⟨rfl,rfl,rfl,rfl,rfl⟩:=hx0;rw[Nat.zero_mul,Nat.add_zero] at k0 k1 k2 k3 k4;exact⟨g,off,k,b0,A0,n0,r0,A1,q1,q,k9,h0,h1,⟨k0,k1,k2,k3,k4⟩,⟨l0,l1,l2,l3,l4⟩,⟨m0,m1,m2,m3,m4⟩,hv1,hww,hx1⟩
end
end Go.Proofs.YtdeeekdbhhenpaaGreatDoor
