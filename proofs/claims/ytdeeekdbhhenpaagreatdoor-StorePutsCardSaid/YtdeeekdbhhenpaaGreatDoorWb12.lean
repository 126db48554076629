import Derived.Test.YtdeeekdbhhenpaaGreatDoorWb11
set_option linter.all false
set_option maxHeartbeats 8000000
set_option maxRecDepth 100000
namespace Go.Proofs.YtdeeekdbhhenpaaGreatDoor
open Go.RowKit
variable {w w':World} {n k g m base c j d:Nat} {v:Value} {z:Int} {A:Option Addr}
theorem JR {s:Shf}(h:qH s=true):∀i,i<s.objs.length->okO (s.objs.getD i default):=fun i hi=>by
 have h2:wo [] s.objs=true:=by
  unfold qH at h;simp only[Bool.and_eq_true] at h;exact h.2.1
 rw[<-List.take_append_drop (i+1) s.objs] at h2;have h3:=wV _ _ _ h2;rw[take_snoc s.objs default hi,xw,Bool.and_eq_true] at h3;exact Qn h3.2
theorem qF.low' {ET:TypeId}{b':Nat}{xs:List Value}(h:qF ET k base w v n xs) (hb:b'<=base):qF ET k b' w v n xs:=by
 refine⟨q_l hb h.1,h.2.1,?_⟩
 rcases h.2.2 with h0|⟨g,cap,cur,hv,hb0,h3⟩
 ·exact .inl h0
 ·exact .inr ⟨g,cap,cur,hv,by omega,h3⟩
def Za (bad:Prop) (sh:Value) (p:Nat) (P:Nat->qW) (w:World) (sv av:Value) (z:Int):Prop:=(bad/\z=17)\/(¬bad/\z=0/\sv=sh/\∃b,zq b w av (p+3) P)
theorem Za.ext {bad:Prop}{sh:Value}{p:Nat}{P:Nat->qW}{sv av:Value}(h:Za bad sh p P w sv av z) (e:Ext w w'):Za bad sh p P w' sv av z:=by
 rcases h with h|⟨h1,h2,h3,b,h4⟩
 ·exact .inl h
 ·exact .inr ⟨h1,h2,h3,b,h4.ext e⟩
theorem Za.chgT {bad:Prop}{sh:Value}{p:Nat}{P:Nat->qW}{sv av:Value}(h:Za bad sh p P w sv av z) (C:Chg g (g+1) w w'){cs:Array Value}{fr:Nat×Nat}(hb:w.heap[g]?=some (.cells cs 25 fr)):Za bad sh p P w' sv av z:=by
 rcases h with h|⟨h1,h2,h3,b,h4⟩
 ·exact .inl h
 ·exact .inr ⟨h1,h2,h3,b,h4.chgT C hb (by decide) (by decide)⟩
def q0w (bad:Prop) (sh:Value) (p:Nat) (P:Nat->qW) (w:World) (e:Ending) (w':World):Prop:=∃(y0 y1 y2 y3:Int) (A4:Option Addr) (n4 c4:Nat) (A5:Option Addr) (n5 c5:Nat) (av:Value) (z:Int),e=.returned (.tuple #[.agg #[.int .i64 y0,.int .i64 y1,.int .i64 y2,.int .i64 y3,.slice A4 n4 c4,.slice A5 n5 c5],av,.int .i64 z])/\Za bad sh p P w' (.agg #[.int .i64 y0,.int .i64 y1,.int .i64 y2,.int .i64 y3,.slice A4 n4 c4,.slice A5 n5 c5]) av z/\Ext w w'
theorem Ym {l:List Byt}{k:Byt}(h:l.idxOf? k=some j):ixZ l k=(j:Int):=by unfold ixZ;rw[h]
theorem Yn {l:List Byt}{k:Byt}(h:l.idxOf? k=none):ixZ l k = -1:=by unfold ixZ;rw[h]
theorem VG {b0:Nat}{size seq half used:Int}{A1 A2:Option Addr}{n1 c1 n2 c2:Nat}{P:Nat->Byt}(s0:0<=size) (s1:size<=1000000) (d0:0<=used) (d1:used<=1000000) (hn:n<=1000) (hq0:0<=seq) (hq:seq<=2147483647) (hh0:0<=half) (hh1:half<=1)
  (hP:PgL b0 w (.slice A n c) n P) (hP6:∀j,j<n->(P j).length=64) :
  Calls Tryz.prog 64 #[.agg #[.int .i64 size,.int .i64 seq,.int .i64 half,.int .i64 used,.slice A1 n1 c1,.slice A2 n2 c2],.slice A n c] w (q0w (qP size<used+n\/seq=2147483647) (shY size seq half used n (.slice A1 n1 c1) (.slice A2 n2 c2)) n (yE n (fun j=>⟨2+half*qP size+used+j,P j,false⟩) (Zd (seq+1) half (used+n))) w):=by
 by_cases hbad:qP size<used+n\/seq=2147483647
 ·refine (Yk s0 s1 d0 d1 hn ⟨hq0,hq⟩ hbad).mono ?_;rintro e w' ⟨rfl,e1⟩;exact⟨0,0,0,0,none,0,0,none,0,0,.slice none 0 0,17,rfl,.inl ⟨hbad,rfl⟩,e1⟩
 ·refine (Yj s0 s1 d0 hn hq0 (by omega) (by omega) hh0 hh1 hP hP6).mono ?_;rintro e w' ⟨v,rfl,h1,e1⟩;exact⟨size,seq+1,half,used+n,A1,n1,c1,A2,n2,c2,v,0,rfl,.inr ⟨hbad,rfl,rfl,_,h1⟩,e1⟩
theorem VH {s:Shf}{o:Ob}{A1 A2:Option Addr}{n1 c1 n2 c2:Nat}{x y:Value}(hO:jH w (.slice A1 n1 c1) s.objs) (hTg:vM w (.slice A2 n2 c2) s.tags) (hok:OkS s) (hob:ObR w x y o) (ho:Ok0 o) :
  Calls Tryz.prog 14 #[.agg #[.int .i64 s.size,.int .i64 s.seq,.int .i64 s.half,.int .i64 s.used,.slice A1 n1 c1,.slice A2 n2 c2],.agg #[x,y]] w (wI (kU s o) w):=by
 obtain⟨R,hR⟩:=qc (wI (kU s o) w);rw[<-hR.out];have HO:=q_h hO;have HTG:=q_h hTg;have HOK:=q_h hok;have HOB:=q_h hob;have HKO:=q_h ho;obtain⟨A0,c0,rfl,-⟩:=hob.1.form;obtain⟨A9,c9,rfl,-⟩:=hob.2.form;obtain⟨n0,hn0⟩:=qc o.links.length;obtain⟨n9,hn9⟩:=qc o.data.length;rw[<-hn0.out,<-hn9.out] at HOB ⊢;have HN1:=q_h hO.len.1
 have HCV:Hid (∀w',Ext w w'->Calls Tryz.prog 40 #[.agg #[.int .i64 s.size,.int .i64 s.seq,.int .i64 s.half,.int .i64 s.used,.slice A1 n1 c1,.slice A2 n2 c2]] w' (qG w' (.bool (qH s)))):=fun w' e =>
  J4 (HO.out.ext e) (HTG.out.ext e) HOK.out.ob HOK.out.tg (by have:=HOK.out.no;omega) HOK.out.nt
 obtain⟨size,hsize⟩:=qc s.size;obtain⟨seq,hseq⟩:=qc s.seq;obtain⟨half,hhalf⟩:=qc s.half;obtain⟨used,hused⟩:=qc s.used;obtain⟨vb,hvb⟩:=qc (qH s);rw[<-hsize.out,<-hseq.out,<-hhalf.out,<-hused.out,<-hvb.out] at HCV;rw[<-hsize.out,<-hseq.out,<-hhalf.out,<-hused.out];clear hO hTg hok hob ho;go_enter Tryz.func14,Tryz.ntmps14;go_upto_region 1 with (fail);refine Z7 ?_;intro w1 hE hsz B0 B1 B2;obtain⟨p0,p1,p2,p3,p4,p5⟩:=qp B0;go_wp2_with (go_at_call 40;refine q_o ?_);refine (HCV.out w1 hE).mono ?_;rintro e w2 ⟨rfl,e2⟩;have HX2:=q_h (hE.trans e2);have HB2:=q_h (e2.block B0);have HD2:=q_h (e2.block B1);have HR2:=q_h (e2.block B2);clear p0 p1 p2 p3 p4 p5 B0 B1 B2 hE e2 HCV;cases vb with
 | false =>
  have HP:Hid (kU s o=(zeroS,[],[],1)):=by
   rw[Hid];unfold kU;rw[if_pos hvb.out.symm]
  have HX9:=HX2;have HR9:=HR2;go_upto_region 2 with (fail);refine wp_region_lit ?_;refine wpList_plain rfl (fun K hK=>?_);go_simp;refine hK _ _ ?_;clear hK K;try simp only[nr]
  refine qg rfl 25 _ _ rfl (by rfl) (by rfl) HR9.out qJ (by rfl) (by rfl) (by rfl) ?_;intro wz Bz Uz;obtain⟨x0,x1,x2,x3,x4,x5⟩:=qp Bz;go_wp2;refine bodyPost_ret (v:=.tuple #[zSh,.slice none 0 0,.string ⟨#[]⟩,.int .i64 (1)]) ?_ rfl ?_
  ·simp[results,x0,x1,x2,x3,x4,x5,go_sem,zSh]
  ·rw[hR.out];refine⟨zSh,.slice none 0 0,?_,?_,?_,(Uz.chg (NoU.mk HR9.out (by decide))).ext HX9.out (by omega)⟩
   ·rw[HP.out];rfl
   ·rw[HP.out];exact zG _
   ·rw[HP.out];exact zh _
 | true =>
 have HV:Hid (qH s=true):=hvb.out.symm;have HOKO:=q_h (JR HV.out);have hh:=vP HV.out;rw[<-hsize.out,<-hseq.out,<-hhalf.out,<-hused.out] at hh;have hnn:n1<=999:=by rw[HN1.out];exact HOK.out.no
 obtain⟨p0,p1,-⟩:=cells2 HD2.out;obtain⟨s0,hs0⟩:=qc (sV (nmO o));obtain⟨z0,hz0⟩:=qc (obC o)
 have HCN:Hid (Calls Tryz.prog 16 #[.agg #[.slice A0 n0 c0,.slice A9 n9 c9]] w2 (qG w2 (.tuple #[s0,.int .i64 z0]))):=by
  rw[hs0.out,hz0.out];exact Q3 (HOB.out.ext HX2.out) HKO.out
 go_wp2_with (go_at_call 16;refine q_o ?_);refine HCN.out.mono ?_;rintro e w4 ⟨rfl,e4⟩;have HX4:=q_h (HX2.out.trans e4);have HB4:=q_h (e4.block HB2.out);have HD4:=q_h (e4.block HD2.out);have HR4:=q_h (e4.block HR2.out);clear e4 p0 p1 HCN HX2 HB2 HD2 HR2
 by_cases hz:z0=0
 case neg =>
  have u3:(z0 != 0)=true:=by simpa using hz
  have u4:decide (z0=0)=false:=q_f hz
  have HP:Hid (kU s o=(zeroS,[],[],z0)):=by
   rw[Hid];unfold kU;rw[HV.out,if_neg (by simp),if_pos (by rw[<-hz0.out];exact hz),hz0.out]
  have HX9:=HX4;have HR9:=HR4;go_upto_region 5 with (fail);refine wp_region_lit ?_;refine wpList_plain rfl (fun K hK=>?_);go_simp;refine hK _ _ ?_;clear hK K;try simp only[nr]
  refine wpList_plain rfl (fun K hK=>?_);go_simp;refine hK _ _ ?_;clear hK K;try simp only[nr]
  refine qg rfl 25 _ _ rfl (by rfl) (by rfl) HR9.out qJ (by rfl) (by rfl) (by rfl) ?_;intro wz Bz Uz;obtain⟨x0,x1,x2,x3,x4,x5⟩:=qp Bz;go_wp2;refine bodyPost_ret (v:=.tuple #[zSh,.slice none 0 0,.string ⟨#[]⟩,.int .i64 (z0)]) ?_ rfl ?_
  ·simp[results,x0,x1,x2,x3,x4,x5,go_sem,zSh]
  ·rw[hR.out];refine⟨zSh,.slice none 0 0,?_,?_,?_,(Uz.chg (NoU.mk HR9.out (by decide))).ext HX9.out (by omega)⟩
   ·rw[HP.out];rfl
   ·rw[HP.out];exact zG _
   ·rw[HP.out];exact zh _
 have u3:(z0 != 0)=false:=by rw[hz];rfl
 have u4:decide (z0=0)=true:=q_t hz;have HZ:Hid (obC o=0):=by rw[Hid,<-hz0.out];exact hz
 have HOK5:=q_h (yT HZ.out)
 have HNM:Hid (s0=sV (qO o)):=by
  rw[Hid,hs0.out];unfold nmO;rw[HZ.out]
  rfl
 have q4:w4.cell? ⟨w.heap.size,4,none⟩=some (.slice A1 n1 c1):=qj HB4.out 4;have HCNS:Hid (Calls Tryz.prog 43 #[.slice A1 n1 c1] w4 (WC w4 (nmL s.objs))):=QP (HO.out.ext HX4.out) (by have:=HN1.out;omega) HOKO.out;obtain⟨K,hK⟩:=qc (nmL s.objs);have HKM:Hid (xy s=K):=by rw[Hid,hK.out];rfl
 have HKL:Hid (K.length<=1000):=by rw[Hid,hK.out];unfold nmL;rw[List.length_map];have:=HN1.out;omega
 rw[<-hK.out] at HCNS;go_wp2_with (go_at_call 43;refine q_o ?_);refine HCNS.out.mono ?_;rintro e w5 ⟨v5,rfl,hG5,e5⟩;obtain⟨z1,hz1⟩:=qc (ixZ K (qO o))
 have HCI:Hid (Calls Tryz.prog 44 #[v5,s0] w5 (qG w5 (.int .i64 z1))):=by
  rw[HNM.out,hz1.out];exact V7 hG5.strs (by have:=HKL.out;omega)
 go_wp2_with (go_at_call 44;refine q_o ?_);refine HCI.out.mono ?_;rintro e w6 ⟨rfl,e6⟩;have HX6:=q_h ((HX4.out.trans e5).trans e6);have HB6:=q_h (e6.block (e5.block HB4.out));have HD6:=q_h (e6.block (e5.block HD4.out));have HR6:=q_h (e6.block (e5.block HR4.out));clear e5 e6 q4 HCNS HCI HX4 HB4 HD4 HR4 hG5;cases hix:K.idxOf? (qO o) with
 | some j =>
  have HIX:=q_h hix;have HZ1:Hid (z1=(j:Int)):=by rw[Hid,hz1.out];exact Ym hix
  have hzj:z1=(j:Int):=HZ1.out
  have hjl:j<s.objs.length:=by
   have h9:=List.idxOf?_eq_some_iff.1 hix;obtain⟨hjj,-⟩:=h9;rw[hK.out] at hjj;simpa[nmL] using hjj
  have hjn:j<n1:=by have:=HN1.out;omega
  subst hzj;have u5:decide (0<=(j:Int))=true:=q_t (by omega);have u6:(0:Int)<=(j:Int):=by omega
  obtain⟨go,off,hAv,hx⟩:=jH.at_ HO.out HN1.out (by omega);subst hAv;obtain⟨C1,m1,e1,C2,m2,e2,k0,k1,hor⟩:=hx j hjn;have HOR:=q_h (hor.ext HX6.out);replace k0:=HX6.out.cell k0;replace k1:=HX6.out.cell k1;clear hx hor hix HZ1;go_upto_region 8 with (fail);obtain⟨p0,p1,-⟩:=cells2 HD6.out;have b4:w6.cell? ⟨w.heap.size,4,none⟩=some (.slice (some ⟨go,off,none⟩) n1 c1):=(qj HB6.out 4).trans rfl;have hji:(j:Int)<(n1:Int):=by omega
  have eC:=(Ext.refl w6).drew;refine qh (fun w'=>w'.cell? ⟨w.heap.size,4,none⟩=some (.slice (some ⟨go,off,none⟩) n1 c1)/\w'.cell? ⟨go,off+j*2,none⟩=some (.slice C1 m1 e1)/\w'.cell? ⟨go,off+j*2+1,none⟩=some (.slice C2 m2 e2)/\w'.cell? ⟨w.heap.size+1,0,none⟩=some (.slice A0 n0 c0)/\w'.cell? ⟨w.heap.size+1,1,none⟩=some (.slice A9 n9 c9)) [] (by kernel_rfl) (by exact⟨eC.cell b4,eC.cell k0,eC.cell k1,eC.cell p0,eC.cell p1⟩) (fun hHeld=>?_);refine sP 0 (h:=?_);refine sT 1 (h:=?_);refine sP 2 (h:=?_);refine sP 3 (h:=?_);refine sT 4 (h:=?_);refine sT 5 (h:=?_);refine qf (i:=6) rfl (by kernel_rfl) (fun K hK=>?_);go_simp;refine (xO (HOR.out.ext eC) (HOB.out.ext (HX6.out.trans eC)) (HOK.out.ob j hjl) HKO.out).mono ?_;rintro e w7 ⟨rfl,e7⟩;obtain⟨r,hr⟩:=qc (decide (s.objs.getD j default=o));rw[<-hr.out];replace eC:=eC.trans e7;go_wp2_with fail;clear hHeld;refine hK.out _ _ (by exact⟨eC.cell b4,eC.cell k0,eC.cell k1,eC.cell p0,eC.cell p1⟩) fun hHeld=>?_
  clear hK K;try simp only[nr]
  refine sP 7 (h:=?_);refine ql (by kernel_rfl) ?_ _;clear hHeld;have HX7:=q_h (HX6.out.trans eC);have HB7:=q_h (eC.block HB6.out);have HR7:=q_h (eC.block HR6.out);clear eC e7 b4 k0 k1 p0 p1
  have HGJ:Hid (s.objs[j]?=some (s.objs.getD j default)):=by
   rw[Hid,List.getD_eq_getElem?_getD,List.getElem?_eq_getElem hjl]
   rfl
  cases r with
  | false =>
   have HP:Hid (kU s o=(zeroS,[],[],18)):=by
    rw[Hid];unfold kU;rw[HV.out,if_neg (by simp),if_neg (by simpa using HZ.out),HKM.out,HIX.out]
    have h9:¬s.objs[j]?=some o:=by
     rw[HGJ.out];intro h8;have h7:=hr.out;rw[Option.some.inj h8] at h7;simp at h7
    show (if s.objs[j]?=some o then (s,[],qO o,0) else (zeroS,[],[],18))=_
    rw[if_neg h9]
   have HX9:=HX7;have HR9:=HR7;go_upto_region 9 with (fail);refine wp_region_lit ?_;refine wpList_plain rfl (fun K hK=>?_);go_simp;refine hK _ _ ?_;clear hK K;try simp only[nr]
   refine qg rfl 25 _ _ rfl (by rfl) (by rfl) HR9.out qJ (by rfl) (by rfl) (by rfl) ?_;intro wz Bz Uz;obtain⟨x0,x1,x2,x3,x4,x5⟩:=qp Bz;go_wp2;refine bodyPost_ret (v:=.tuple #[zSh,.slice none 0 0,.string ⟨#[]⟩,.int .i64 (18)]) ?_ rfl ?_
   ·simp[results,x0,x1,x2,x3,x4,x5,go_sem,zSh]
   ·rw[hR.out];refine⟨zSh,.slice none 0 0,?_,?_,?_,(Uz.chg (NoU.mk HR9.out (by decide))).ext HX9.out (by omega)⟩
    ·rw[HP.out];rfl
    ·rw[HP.out];exact zG _
    ·rw[HP.out];exact zh _
  | true =>
   have HP:Hid (kU s o=(s,[],qO o,0)):=by
    rw[Hid];unfold kU;rw[HV.out,if_neg (by simp),if_neg (by simpa using HZ.out),HKM.out,HIX.out]
    have h9:s.objs[j]?=some o:=by
     rw[HGJ.out,of_decide_eq_true hr.out.symm]
    show (if s.objs[j]?=some o then (s,[],qO o,0) else (zeroS,[],[],18))=_
    rw[if_pos h9]
   go_upto_region 10 with (fail);obtain⟨k0,k1,k2,k3,k4,k5⟩:=qp HB7.out;refine wp_region_lit ?_;refine wpList_plain rfl (fun K hK=>?_);go_simp;refine hK _ _ ?_;clear hK K;try simp only[nr]
   refine wpList_plain rfl (fun K hK=>?_);go_simp;refine hK _ _ ?_;clear hK K;try simp only[nr]
   refine qg rfl 25 _ _ rfl (by rfl) (by rfl) HR7.out qJ (by rfl) (by rfl) (by rfl) ?_;intro wz Bz Uz;obtain⟨x0,x1,x2,x3,x4,x5⟩:=qp Bz;go_wp2;refine bodyPost_ret (v:=.tuple #[.agg #[.int .i64 size,.int .i64 seq,.int .i64 half,.int .i64 used,.slice (some ⟨go,off,none⟩) n1 c1,.slice A2 n2 c2],.slice none 0 0,s0,.int .i64 0]) ?_ rfl ?_
   ·simp[results,x0,x1,x2,x3,x4,x5,go_sem]
   ·rw[hR.out];have HXz:=(Uz.chg (NoU.mk HR7.out (by decide))).ext HX7.out (by omega);refine⟨_,.slice none 0 0,by rw[HP.out,HNM.out],?_,?_,HXz⟩
    ·rw[HP.out];exact⟨_,_,by rw[<-hsize.out,<-hseq.out,<-hhalf.out,<-hused.out],HO.out.ext HXz,HTG.out.ext HXz⟩
    ·rw[HP.out];exact zh _
 | none =>
  have HIX:=q_h hix;have HZ1:Hid (z1 = -1):=by rw[Hid,hz1.out];exact Yn hix
  have u5:decide (0<=z1)=false:=q_f (by have:=HZ1.out;omega);have u6:¬(0:Int)<=z1:=by have:=HZ1.out;omega
  obtain⟨al,hal⟩:=qc (o.links.all (K.contains ·))
  have HCF:Hid (∀w',Ext w6 w'->Calls Tryz.prog 56 #[.slice A0 n0 c0,.func (.func 63) #[] #[.pointer (some ⟨w.heap.size,0,none⟩)]] w' (qG w' (.bool (!al)))):=fun w' e=>by
   rw[hal.out,<-jF,<-hn0.out];refine Y6 (l:=o.links) ⟨hn0.out,(HOB.out.ext (HX6.out.trans e)).1⟩ _ (fun j hj w9 u e9 hu=>?_);rw[hu.out,hK.out];exact Xf (e9.block (e.block HB6.out)) (HO.out.ext ((HX6.out.trans e).trans e9)) (by have:=HN1.out;omega) HOKO.out
  have HPN:Hid (kU s o=if al=false then ((zeroS,[],[],6):Shf×List qW×Byt×Int) else match Z8 s (obE o) with|none=>(zeroS,[],[],17)|some (t,acts)=>({ t with objs:=s.objs ++ [o] },acts,qO o,0)):=by
   rw[Hid];unfold kU;rw[HV.out,if_neg (by simp),if_neg (by simpa using HZ.out),HKM.out,HIX.out,hal.out]
   rfl
  obtain⟨p0,p1,-⟩:=cells2 HD6.out;clear hix HZ1;go_wp2_with (go_at_call 56;refine q_o ?_);refine (HCF.out w6 (Ext.refl _)).mono ?_;rintro e w7 ⟨rfl,e7⟩;have HX7:=q_h (HX6.out.trans e7);have HB7:=q_h (e7.block HB6.out);have HD7:=q_h (e7.block HD6.out);have HR7:=q_h (e7.block HR6.out);clear e7 p0 p1 HCF HX6 HB6 HD6 HR6;cases al with
  | false =>
   have HP:Hid (kU s o=(zeroS,[],[],6)):=by rw[Hid,HPN.out,if_pos rfl]
   have HX9:=HX7;have HR9:=HR7;go_upto_region 12 with (fail);refine wp_region_lit ?_;refine wpList_plain rfl (fun K hK=>?_);go_simp;refine hK _ _ ?_;clear hK K;try simp only[nr]
   refine qg rfl 25 _ _ rfl (by rfl) (by rfl) HR9.out qJ (by rfl) (by rfl) (by rfl) ?_;intro wz Bz Uz;obtain⟨x0,x1,x2,x3,x4,x5⟩:=qp Bz;go_wp2;refine bodyPost_ret (v:=.tuple #[zSh,.slice none 0 0,.string ⟨#[]⟩,.int .i64 (6)]) ?_ rfl ?_
   ·simp[results,x0,x1,x2,x3,x4,x5,go_sem,zSh]
   ·rw[hR.out];refine⟨zSh,.slice none 0 0,?_,?_,?_,(Uz.chg (NoU.mk HR9.out (by decide))).ext HX9.out (by omega)⟩
    ·rw[HP.out];rfl
    ·rw[HP.out];exact zG _
    ·rw[HP.out];exact zh _
  | true =>
  have HPY:Hid (kU s o=match Z8 s (obE o) with|none=>((zeroS,[],[],17):Shf×List qW×Byt×Int)|some (t,acts)=>({ t with objs:=s.objs ++ [o] },acts,qO o,0)):=by
   rw[Hid,HPN.out,if_neg (by simp)]
  have hpb:=QK HOK5.out
  have HPL:Hid (∀j,j<pgN (obE o)->((QV (obE o)).getD j []).length=64):=fun j hj=>by
   rw[Q8 _ hj];exact Vw _ hj
  obtain⟨p,hp⟩:=qc (pgN (obE o));rw[<-hp.out] at hpb HPL;have hp9:p<=100:=hpb.1;clear hpb
  have hs9:0<=used/\used<=1000000:=by
   have:=Jd hh.1 hh.2.1;omega
  obtain⟨bad,hbad⟩:=qc (qP size<used+p\/seq=2147483647);obtain⟨sh,hsh⟩:=qc (shY size seq half used p (.slice A1 n1 c1) (.slice A2 n2 c2));obtain⟨PA,hPA⟩:=qc (yE p (fun j=>⟨2+half*qP size+used+j,(QV (obE o)).getD j [],false⟩) (Zd (seq+1) half (used+p)))
  have HAD:Hid (∀b0 w' Ax cx,PgL b0 w' (.slice Ax p cx) p (fun i=>(QV (obE o)).getD i [])->Calls Tryz.prog 64 #[.agg #[.int .i64 size,.int .i64 seq,.int .i64 half,.int .i64 used,.slice A1 n1 c1,.slice A2 n2 c2],.slice Ax p cx] w' (q0w bad sh p PA w')):=fun b0 w' Ax cx h9=>by
   rw[hbad.out,hsh.out,hPA.out];exact VG (by omega) (by omega) hs9.1 hs9.2 (by omega) (by omega) (by omega) (by omega) (by omega) h9 HPL.out
  obtain⟨wq,hwq⟩:∃wq,wq=w7:=⟨_,rfl⟩
  subst hwq;obtain⟨p0,p1,-⟩:=cells2 HD7.out;obtain⟨q0,q1,q2,q3,q4,q5⟩:=qp HB7.out;go_upto_region 13 with (fail)
  go_cut [9,11,12] (fun zv tv cv wx=>∃(ax:Value) (g:Nat) (y0 y1 y2 y3:Int) (A4:Option Addr) (n4 c4:Nat) (A5:Option Addr) (n5 c5:Nat) (z:Int),ax=cv/\zv=.int .i64 z/\tv=.pointer (some ⟨g,0,none⟩)/\wq.heap.size<=g/\Hid (wx.heap[g]?=some (.cells #[.int .i64 y0,.int .i64 y1,.int .i64 y2,.int .i64 y3,.slice A4 n4 c4,.slice A5 n5 c5] 25 (0,0)))/\Hid (Za bad sh p PA wx (.agg #[.int .i64 y0,.int .i64 y1,.int .i64 y2,.int .i64 y3,.slice A4 n4 c4,.slice A5 n5 c5]) ax z)/\Ext wq wx)
  case first =>
   have eC:=(Ext.refl wq).drew;refine qh (fun w'=>w'.cell? ⟨w.heap.size,0,none⟩=some (.int .i64 size)/\w'.cell? ⟨w.heap.size,1,none⟩=some (.int .i64 seq)/\w'.cell? ⟨w.heap.size,2,none⟩=some (.int .i64 half)/\w'.cell? ⟨w.heap.size,3,none⟩=some (.int .i64 used)/\w'.cell? ⟨w.heap.size,4,none⟩=some (.slice A1 n1 c1)/\w'.cell? ⟨w.heap.size,5,none⟩=some (.slice A2 n2 c2)/\w'.cell? ⟨w.heap.size+1,0,none⟩=some (.slice A0 n0 c0)/\w'.cell? ⟨w.heap.size+1,1,none⟩=some (.slice A9 n9 c9)) [] (by kernel_rfl) (by exact⟨eC.cell q0,eC.cell q1,eC.cell q2,eC.cell q3,eC.cell q4,eC.cell q5,eC.cell p0,eC.cell p1⟩) (fun hHeld=>?_);refine sT 0 (h:=?_);refine sT 1 (h:=?_);refine kK (i:=2) (j:=8) rfl rfl (by kernel_rfl) (fun K hK=>?_) (fun K hK=>?_)
   focus
    go_simp;refine (zW (HOB.out.ext (HX7.out.trans eC)) HOK5.out).mono ?_;rintro e w8 ⟨v8,rfl,hP8,e8⟩;rw[xK,<-hp.out] at hP8;obtain⟨Ax,cx,rfl,-⟩:=hP8.form;replace eC:=eC.trans e8;try replace BT:=e8.block BT
    clear e8;go_wp2_with fail;clear hHeld;refine hK.out _ _ (by exact⟨eC.cell q0,eC.cell q1,eC.cell q2,eC.cell q3,eC.cell q4,eC.cell q5,eC.cell p0,eC.cell p1⟩) fun hHeld=>?_
    clear hK K;try simp only[nr]
    refine kK (i:=3) (j:=8) rfl rfl (by kernel_rfl) (fun K hK=>?_) (fun K hK=>?_)
    focus
     go_simp;refine (HAD.out _ _ _ _ hP8).mono ?_;rintro e w9 ⟨y0,y1,y2,y3,A4,n4,c4,A5,n5,c5,av,z,rfl,hRel,e9⟩;replace eC:=eC.trans e9;try replace BT:=e9.block BT
     clear e9;go_wp2_with fail;clear hHeld;refine hK.out _ _ (by exact⟨eC.cell q0,eC.cell q1,eC.cell q2,eC.cell q3,eC.cell q4,eC.cell q5,eC.cell p0,eC.cell p1⟩) fun hHeld=>?_
     clear hK K;try simp only[nr]
     refine sP 4 (h:=?_);refine sP 5 (h:=?_);refine sP 6 (h:=?_);refine sP 7 (h:=?_);refine qf (i:=8) rfl (by kernel_rfl) (fun K hK=>?_);go_simp
     first|refine qm ?_|refine qQ ?_
     intro w10 e10 hsz10 BT;have hT9:=eC.size;try replace hP8:=hP8.ext e10
     try replace hRel:=hRel.ext e10
     replace eC:Ext wq w10:=by first|exact eC.trans e10|exact e10
     clear e10;clear hHeld;refine hK.out _ _ (by exact⟨eC.cell q0,eC.cell q1,eC.cell q2,eC.cell q3,eC.cell q4,eC.cell q5,eC.cell p0,eC.cell p1⟩) fun hHeld=>?_
     clear hK K;try simp only[nr]
     refine qf (i:=9) rfl (by kernel_rfl) (fun K hK=>?_);refine qB rfl 25 _ _ rfl (by rfl) (by rfl) BT qJ (by rfl) (by rfl) (by rfl) ?_;intro w11 B11 U11;have C11:=U11.chg (NoU.mk BT (by decide));replace hRel:=hRel.chgT C11 BT;replace eC:=C11.ext eC (by omega);clear U11 C11 BT;clear hHeld;refine hK.out _ _ (by exact⟨eC.cell q0,eC.cell q1,eC.cell q2,eC.cell q3,eC.cell q4,eC.cell q5,eC.cell p0,eC.cell p1⟩) fun hHeld=>?_
     clear hK K;try simp only[nr]
     refine sP 10 (h:=?_);refine sP 11 (h:=?_)
    rotate_left 1
    focus
     go_simp
     first|refine qm ?_|refine qQ ?_
     intro w10 e10 hsz10 BT;have hT9:=eC.size;try replace hP8:=hP8.ext e10
     try replace hRel:=hRel.ext e10
     replace eC:Ext wq w10:=by first|exact eC.trans e10|exact e10
     clear e10;clear hHeld;refine hK.out _ _ (by exact⟨eC.cell q0,eC.cell q1,eC.cell q2,eC.cell q3,eC.cell q4,eC.cell q5,eC.cell p0,eC.cell p1⟩) fun hHeld=>?_
     clear hK K;try simp only[nr]
     refine qf (i:=3) rfl (by kernel_rfl) (fun K hK=>?_);go_simp;refine (HAD.out _ _ _ _ hP8).mono ?_;rintro e w9 ⟨y0,y1,y2,y3,A4,n4,c4,A5,n5,c5,av,z,rfl,hRel,e9⟩;replace eC:=eC.trans e9;try replace BT:=e9.block BT
     clear e9;go_wp2_with fail;clear hHeld;refine hK.out _ _ (by exact⟨eC.cell q0,eC.cell q1,eC.cell q2,eC.cell q3,eC.cell q4,eC.cell q5,eC.cell p0,eC.cell p1⟩) fun hHeld=>?_
     clear hK K;try simp only[nr]
     refine sP 4 (h:=?_);refine sP 5 (h:=?_);refine sP 6 (h:=?_);refine sP 7 (h:=?_);refine qf (i:=9) rfl (by kernel_rfl) (fun K hK=>?_);refine qB rfl 25 _ _ rfl (by rfl) (by rfl) BT qJ (by rfl) (by rfl) (by rfl) ?_;intro w11 B11 U11;have C11:=U11.chg (NoU.mk BT (by decide));replace hRel:=hRel.chgT C11 BT;replace eC:=C11.ext eC (by omega);clear U11 C11 BT;clear hHeld;refine hK.out _ _ (by exact⟨eC.cell q0,eC.cell q1,eC.cell q2,eC.cell q3,eC.cell q4,eC.cell q5,eC.cell p0,eC.cell p1⟩) fun hHeld=>?_
     clear hK K;try simp only[nr]
     refine sP 10 (h:=?_);refine sP 11 (h:=?_)
    rotate_left 1
   rotate_left 2
   focus
    go_simp
    first|refine qm ?_|refine qQ ?_
    intro w10 e10 hsz10 BT;have hT9:=eC.size;try replace hP8:=hP8.ext e10
    try replace hRel:=hRel.ext e10
    replace eC:Ext wq w10:=by first|exact eC.trans e10|exact e10
    clear e10;clear hHeld;refine hK.out _ _ (by exact⟨eC.cell q0,eC.cell q1,eC.cell q2,eC.cell q3,eC.cell q4,eC.cell q5,eC.cell p0,eC.cell p1⟩) fun hHeld=>?_
    clear hK K;try simp only[nr]
    refine qf (i:=2) rfl (by kernel_rfl) (fun K hK=>?_);go_simp;refine (zW (HOB.out.ext (HX7.out.trans eC)) HOK5.out).mono ?_;rintro e w8 ⟨v8,rfl,hP8,e8⟩;rw[xK,<-hp.out] at hP8;obtain⟨Ax,cx,rfl,-⟩:=hP8.form;replace eC:=eC.trans e8;try replace BT:=e8.block BT
    clear e8;go_wp2_with fail;clear hHeld;refine hK.out _ _ (by exact⟨eC.cell q0,eC.cell q1,eC.cell q2,eC.cell q3,eC.cell q4,eC.cell q5,eC.cell p0,eC.cell p1⟩) fun hHeld=>?_
    clear hK K;try simp only[nr]
    refine qf (i:=3) rfl (by kernel_rfl) (fun K hK=>?_);go_simp;refine (HAD.out _ _ _ _ hP8).mono ?_;rintro e w9 ⟨y0,y1,y2,y3,A4,n4,c4,A5,n5,c5,av,z,rfl,hRel,e9⟩;replace eC:=eC.trans e9;try replace BT:=e9.block BT
    clear e9;go_wp2_with fail;clear hHeld;refine hK.out _ _ (by exact⟨eC.cell q0,eC.cell q1,eC.cell q2,eC.cell q3,eC.cell q4,eC.cell q5,eC.cell p0,eC.cell p1⟩) fun hHeld=>?_
    clear hK K;try simp only[nr]
    refine sP 4 (h:=?_);refine sP 5 (h:=?_);refine sP 6 (h:=?_);refine sP 7 (h:=?_);refine qf (i:=9) rfl (by kernel_rfl) (fun K hK=>?_);refine qB rfl 25 _ _ rfl (by rfl) (by rfl) BT qJ (by rfl) (by rfl) (by rfl) ?_;intro w11 B11 U11;have C11:=U11.chg (NoU.mk BT (by decide));replace hRel:=hRel.chgT C11 BT;replace eC:=C11.ext eC (by omega);clear U11 C11 BT;clear hHeld;refine hK.out _ _ (by exact⟨eC.cell q0,eC.cell q1,eC.cell q2,eC.cell q3,eC.cell q4,eC.cell q5,eC.cell p0,eC.cell p1⟩) fun hHeld=>?_
    clear hK K;try simp only[nr]
    refine sP 10 (h:=?_);refine sP 11 (h:=?_)
   rotate_left 1
   all_goals
    refine ql (by kernel_rfl) ?_ _;clear hHeld
   all_goals
    go_wp2_with fail
    go_meet
    exact⟨_,_,y0,y1,y2,y3,A4,n4,c4,A5,n5,c5,z,rfl,rfl,rfl,by omega,B11,hRel,eC⟩
  obtain⟨ax,g,y0,y1,y2,y3,A4,n4,c4,A5,n5,c5,z,rfl,rfl,rfl,hg3,HBg,HREL,hcE⟩:=hcut;have HXc:=q_h (HX7.out.trans hcE);have HBc:=q_h (hcE.block HB7.out);have HDc:=q_h (hcE.block HD7.out);have HRc:=q_h (hcE.block HR7.out);have hgw:w.heap.size+1+1<g:=by have:=qK HR7.out;omega
  clear p0 p1 q0 q1 q2 q3 q4 q5 hcE HB7 HD7 HR7 HX7 HAD hg3
  rcases HREL.out with ⟨hb,rfl⟩|⟨hb,rfl,hsv,ba,hA⟩
  ·have HP:Hid (kU s o=(zeroS,[],[],17)):=by
    have h9:Z8 s (obE o)=none:=by
     unfold Z8;rw[if_pos (by rw[<-hsize.out,<-hused.out,<-hseq.out,<-hp.out,<-hbad.out];exact hb)]
    rw[Hid,HPY.out,h9]
   have HX9:=HXc;have HR9:=HRc;clear HREL;go_upto_region 15 with (fail);refine wp_region_lit ?_;refine wpList_plain rfl (fun K hK=>?_);go_simp;refine hK _ _ ?_;clear hK K;try simp only[nr]
   refine wpList_plain rfl (fun K hK=>?_);go_simp;refine hK _ _ ?_;clear hK K;try simp only[nr]
   refine qg rfl 25 _ _ rfl (by rfl) (by rfl) HR9.out qJ (by rfl) (by rfl) (by rfl) ?_;intro wz Bz Uz;obtain⟨x0,x1,x2,x3,x4,x5⟩:=qp Bz;go_wp2;refine bodyPost_ret (v:=.tuple #[zSh,.slice none 0 0,.string ⟨#[]⟩,.int .i64 (17)]) ?_ rfl ?_
   ·simp[results,x0,x1,x2,x3,x4,x5,go_sem,zSh]
   ·rw[hR.out];refine⟨zSh,.slice none 0 0,?_,?_,?_,(Uz.chg (NoU.mk HR9.out (by decide))).ext HX9.out (by omega)⟩
    ·rw[HP.out];rfl
    ·rw[HP.out];exact zG _
    ·rw[HP.out];exact zh _
  have HAC:Hid (∃b,zq b wc ax (p+3) PA):=⟨ba,hA⟩
  rw[hsh.out] at hsv;unfold shY at hsv;simp only[Value.agg.injEq,Array.mk.injEq,List.cons.injEq,Value.int.injEq,Value.slice.injEq,and_true,true_and] at hsv;obtain⟨e0,e1,e2,e3,⟨e4,e5,e6⟩,e7,e8,e9⟩:=hsv;subst y0 y1 y2 y3 A4 n4 c4 A5 n5 c5
  have HP:Hid (kU s o=(⟨size,seq+1,half,used+p,s.objs ++ [o],s.tags⟩,((List.range p).map (fun j:Nat=>(⟨2+half*qP size+used+j,pgE (obE o) j,false⟩:qW)))++Zd (seq+1) half (used+p),qO o,0)):=by
   have h9:Z8 s (obE o)=some (⟨size,seq+1,half,used+p,s.objs,s.tags⟩,((List.range p).map (fun j:Nat=>(⟨2+half*qP size+used+j,pgE (obE o) j,false⟩:qW)))++Zd (seq+1) half (used+p)):=by
    unfold Z8;rw[if_neg (by rw[<-hsize.out,<-hused.out,<-hseq.out,<-hp.out,<-hbad.out];exact hb)];rw[hsize.out,hseq.out,hhalf.out,hused.out,hp.out]
    rfl
   rw[Hid,HPY.out,h9]
  clear HREL hA hb;obtain⟨wq2,hwq2⟩:∃wq2,wq2=wc:=⟨_,rfl⟩
  subst hwq2;obtain⟨p0,p1,-⟩:=cells2 HDc.out;have q4:wq2.cell? ⟨w.heap.size,4,none⟩=some (.slice A1 n1 c1):=qj HBc.out 4;go_upto_region 16 with (fail)
  go_cut [] (fun wx=>∃(A7:Option Addr) (c7:Nat),Hid (wx.heap[g]?=some (.cells #[.int .i64 size,.int .i64 (seq+1),.int .i64 half,.int .i64 (used+p),.slice A7 (s.objs.length+1) c7,.slice A2 n2 c2] 25 (0,0)))/\Hid (ObH w.heap.size w wx (.slice A7 (s.objs.length+1) c7) (s.objs ++ [o]))/\Hid (Ext w wx)/\Hid (wx.heap[w.heap.size+1+1]?=some (.cells #[.int .i64 0,.int .i64 0,.int .i64 0,.int .i64 0,.slice none 0 0,.slice none 0 0] 25 (0,0)))/\Hid (∃b,zq b wx ax (p+3) PA))
  case first =>
   have eC:=(Ext.refl wq2).drew;refine qh (fun w'=>w'.cell? ⟨w.heap.size,4,none⟩=some (.slice A1 n1 c1)/\w'.cell? ⟨w.heap.size+1,0,none⟩=some (.slice A0 n0 c0)/\w'.cell? ⟨w.heap.size+1,1,none⟩=some (.slice A9 n9 c9)) [7] (by kernel_rfl) (by exact⟨eC.cell q4,eC.cell p0,eC.cell p1⟩) (fun hHeld=>?_);refine sP 0 (h:=?_);refine sT 1 (h:=?_);refine sT 3 (h:=?_);refine kK (i:=2) (j:=4) rfl rfl (by kernel_rfl) (fun K hK=>?_) (fun K hK=>?_)
   focus
    go_simp;refine (QD (w0:=w) HO.out (HXc.out.trans eC) (by have:=HN1.out;omega)).mono ?_;rintro e w8 ⟨v8,rfl,⟨X8,Y8,hG8,hR8⟩,e8⟩;replace hG8:=qF.low' (b':=wq2.heap.size) hG8 eC.size;replace eC:=eC.trans e8;try replace BJ:=e8.block BJ
    clear e8;go_wp2_with fail;clear hHeld;refine hK.out _ _ (by exact⟨eC.cell q4,eC.cell p0,eC.cell p1⟩) fun hHeld=>?_
    clear hK K;try simp only[nr]
    refine qf (i:=4) rfl (by kernel_rfl) (fun K hK=>?_);go_simp
    first|refine qm ?_|refine qQ ?_
    intro w9 e9 hsz9 BJ;try replace hG8:=qF.ext hG8 e9
    replace eC:Ext wq2 w9:=by first|exact eC.trans e9|exact e9
    clear e9;clear hHeld;refine hK.out _ _ (by exact⟨eC.cell q4,eC.cell p0,eC.cell p1⟩) fun hHeld=>?_
    clear hK K;try simp only[nr]
    refine qf (i:=5) rfl (by kernel_rfl) (fun K hK=>?_);refine qR Qh rfl _ _ 22 Tryz.underlying22 rfl (by rfl) hG8 (by rfl) (m:=1) (c:=1) (news:=[.slice A0 n0 c0,.slice A9 n9 c9]) rfl (fun j u hj=>(zu BJ j).trans (by simpa using hj)) (by simp[Value.oneCell']) (by have:=HN1.out;omega) ?_;rintro v10 w10 hG10 - ⟨g7,hg7,hw7,C7⟩;obtain⟨A7,c7,rfl⟩:=hG10.form;replace eC:=C7.ext eC (by omega);clear C7 hw7 hg7;clear hHeld;refine hK.out _ _ (by exact⟨eC.cell q4,eC.cell p0,eC.cell p1⟩) fun hHeld=>?_
    clear hK K;try simp only[nr]
    refine sP 6 (h:=?_)
   rotate_left 1
   focus
    go_simp
    first|refine qm ?_|refine qQ ?_
    intro w9 e9 hsz9 BJ;try replace hG8:=qF.ext hG8 e9
    replace eC:Ext wq2 w9:=by first|exact eC.trans e9|exact e9
    clear e9;clear hHeld;refine hK.out _ _ (by exact⟨eC.cell q4,eC.cell p0,eC.cell p1⟩) fun hHeld=>?_
    clear hK K;try simp only[nr]
    refine qf (i:=2) rfl (by kernel_rfl) (fun K hK=>?_);go_simp;refine (QD (w0:=w) HO.out (HXc.out.trans eC) (by have:=HN1.out;omega)).mono ?_;rintro e w8 ⟨v8,rfl,⟨X8,Y8,hG8,hR8⟩,e8⟩;replace hG8:=qF.low' (b':=wq2.heap.size) hG8 eC.size;replace eC:=eC.trans e8;try replace BJ:=e8.block BJ
    clear e8;go_wp2_with fail;clear hHeld;refine hK.out _ _ (by exact⟨eC.cell q4,eC.cell p0,eC.cell p1⟩) fun hHeld=>?_
    clear hK K;try simp only[nr]
    refine qf (i:=5) rfl (by kernel_rfl) (fun K hK=>?_);refine qR Qh rfl _ _ 22 Tryz.underlying22 rfl (by rfl) hG8 (by rfl) (m:=1) (c:=1) (news:=[.slice A0 n0 c0,.slice A9 n9 c9]) rfl (fun j u hj=>(zu BJ j).trans (by simpa using hj)) (by simp[Value.oneCell']) (by have:=HN1.out;omega) ?_;rintro v10 w10 hG10 - ⟨g7,hg7,hw7,C7⟩;obtain⟨A7,c7,rfl⟩:=hG10.form;replace eC:=C7.ext eC (by omega);clear C7 hw7 hg7;clear hHeld;refine hK.out _ _ (by exact⟨eC.cell q4,eC.cell p0,eC.cell p1⟩) fun hHeld=>?_
    clear hK K;try simp only[nr]
    refine sP 6 (h:=?_)
   rotate_left 1
   all_goals
    refine qE (i:=7) rfl (by kernel_rfl) (by kernel_rfl) (fun K hK=>?_);have hBg:=eC.block HBg.out;obtain⟨wa,Ea,Ba,Ua⟩:=qI hBg 4 (.slice A7 (s.objs.length+1) c7);have f4:=qo hBg 4;have c4':=qj hBg 4;have Ca:=Ua.chg (NoU.mk hBg (by decide));go_simp;try rw[Ea]
    clear f4 c4' Ea;refine hK.out _ _ ?_;clear hK K;try simp only[nr]
    refine ql (by kernel_rfl) ?_ _;clear hHeld
   all_goals
    go_wp2_with fail
    go_meet
    refine⟨A7,c7,Ba,?_,Ca.ext (HXc.out.trans eC) (by omega),(Ua.block _ (by omega)).trans (eC.block HRc.out),?_⟩
    ·exact ObH.snoc hR8 HOB.out (qF.low' (hG10.chgT Ca hBg (by decide)) HXc.out.size)
    ·obtain⟨b,hA⟩:=HAC.out;exact⟨b,(hA.ext eC).chgT Ca hBg (by decide) (by decide)⟩
  obtain⟨A7,c7,HBg7,HOH,HX8,HR8,HAC8⟩:=hcut;clear p0 p1 q4 HBg HXc HBc HDc HRc HAC;obtain⟨k0,k1,k2,k3,k4,k5⟩:=qp HBg7.out;go_upto_region 17 with (fail);refine wp_region_lit ?_;refine wpList_plain rfl (fun K hK=>?_);go_simp;refine hK _ _ ?_;clear hK K;try simp only[nr]
  refine wpList_plain rfl (fun K hK=>?_);go_simp;refine hK _ _ ?_;clear hK K;try simp only[nr]
  refine wpList_plain rfl (fun K hK=>?_);go_simp;refine hK _ _ ?_;clear hK K;try simp only[nr]
  refine qg rfl 25 _ _ rfl (by rfl) (by rfl) HR8.out qJ (by rfl) (by rfl) (by rfl) ?_;intro wz Bz Uz;obtain⟨x0,x1,x2,x3,x4,x5⟩:=qp Bz;go_wp2;refine bodyPost_ret (v:=.tuple #[.agg #[.int .i64 size,.int .i64 (seq+1),.int .i64 half,.int .i64 (used+p),.slice A7 (s.objs.length+1) c7,.slice A2 n2 c2],ax,s0,.int .i64 0]) ?_ rfl ?_
  ·simp[results,x0,x1,x2,x3,x4,x5,go_sem]
  ·rw[hR.out];have Cz:=Uz.chg (NoU.mk HR8.out (by decide));have HXz:=Cz.ext HX8.out (by omega);refine⟨_,ax,by rw[HP.out,HNM.out],?_,?_,HXz⟩
   ·rw[HP.out];refine⟨_,_,rfl,?_,HTG.out.ext HXz⟩;obtain⟨X,Y,h1,h2⟩:=HOH.out;exact ObH.obs (base:=w.heap.size) (w0:=w) ⟨X,Y,h1.chgT Cz HR8.out (by decide),h2⟩ HXz
   ·rw[HP.out];obtain⟨b,hA⟩:=HAC8.out;have h9:=hA.chgT Cz HR8.out (by decide) (by decide);rw[hPA.out] at h9;refine zq.list (base:=b) (M:=Zd (seq+1) half (used+p)) (h9.congr (fun j hj=>?_));unfold yE
    by_cases h:j<p
    ·rw[if_pos h,if_pos h]
     show (⟨_,(QV (obE o)).getD j [],false⟩:qW)=⟨_,pgE (obE o) j,false⟩
     rw[Q8 _ (by rw[<-hp.out];exact h)]
    ·rw[if_neg h,if_neg h]
def LnS (l:Byt):Prop:=l.length<=4611686018427387903
def ZG (o:Ob):Bool:=decide (o.links.length<=20)&&(decide (o.data.length<=1100)&&o.links.all fun s=>decide (s.length<=100))
def Vf (t:Tg):Bool:=decide (t.name.length+t.target.length<=200)
def Yv (s:Shf):Bool:=decide (s.objs.length<=12)&&(decide (s.tags.length<=12)&&(s.objs.all ZG&&s.tags.all Vf))
theorem ZG.ok0 {o:Ob}(h:ZG o=true):Ok0 o:=by
 unfold ZG at h;simp only[Bool.and_eq_true,decide_eq_true_eq,List.all_eq_true] at h;exact⟨by omega,by omega,fun s hs=>by have:=h.2.2 s hs;omega⟩
theorem Vf.ok {t:Tg}(h:Vf t=true):okT t:=by
 unfold Vf at h;have:=of_decide_eq_true h;exact⟨by omega,by omega⟩
theorem Yv.ok {s:Shf}(h:Yv s=true):OkS s:=by
 unfold Yv at h;simp only[Bool.and_eq_true,decide_eq_true_eq,List.all_eq_true] at h;refine⟨fun i hi=>?_,fun i hi=>?_,by omega,by omega⟩
 ·rw[List.getD_eq_getElem?_getD,List.getElem?_eq_getElem hi];exact ZG.ok0 (h.2.2.1 _ (List.getElem_mem hi))
 ·rw[List.getD_eq_getElem?_getD,List.getElem?_eq_getElem hi];exact Vf.ok (h.2.2.2 _ (List.getElem_mem hi))
theorem vC {α:Type}(d:α) (l:List α) (p:α->Bool):zO l.length (fun i=>!p (l.getD i d))=!l.all p:=by
 cases h:l.all p with
 | true =>
  refine qV.2 fun i hi=>?_
  rw[List.getD_eq_getElem?_getD,List.getElem?_eq_getElem hi];rw[List.all_eq_true] at h;simpa using h _ (List.getElem_mem hi)
 | false =>
  rw[List.all_eq_false] at h;obtain⟨s,hs,h1⟩:=h;obtain⟨i,hi,rfl⟩:=List.getElem_of_mem hs;refine zg hi ?_;rw[List.getD_eq_getElem?_getD,List.getElem?_eq_getElem hi];simpa using h1
theorem Xh {l:Byt}(hl:LnS l):Calls Tryz.prog 57 #[sV l] w (qG w (.bool (!decide (l.length<=100)))):=by
 obtain⟨n,hn⟩:=qc l.length;unfold LnS at hl;rw[<-hn.out] at hl ⊢;have hsz:(bA l).size=n:=by rw[hn.out];exact List.size_toArray
 rw[zy];obtain⟨B,hB⟩:=qc (bA l);rw[<-hB.out] at hsz ⊢;obtain⟨r,hr⟩:=qc (!decide (n<=100));rw[<-hr.out];have hw:IntKind.i64.wrap ((n:Nat):Int)=n:=wrp (by omega) (by omega)
 have hd:decide ((100:Int)<(n:Int))=r:=by
  rw[hr.out]
  by_cases h:n<=100
  ·rw[q_t h,q_f (by omega)];rfl
  ·rw[q_f h,q_t (by omega)];rfl
 go_enter Tryz.func57,Tryz.ntmps57;go_wp2
 first|go_ret|skip
 exact⟨rfl,Ext.refl w⟩
theorem J3 {t:Tg}(h1:LnS t.name) (h2:LnS t.target):Calls Tryz.prog 55 #[.agg #[sV t.name,sV t.target]] w (qG w (.bool (!Vf t))):=by
 unfold Vf;obtain⟨n,hn⟩:=qc t.name.length;obtain⟨m,hm⟩:=qc t.target.length;unfold LnS at h1 h2;rw[<-hn.out] at h1 ⊢;rw[<-hm.out] at h2 ⊢;have hs1:(bA t.name).size=n:=by rw[hn.out];exact List.size_toArray
 have hs2:(bA t.target).size=m:=by rw[hm.out];exact List.size_toArray
 rw[zy,zy];obtain⟨B,hB⟩:=qc (bA t.name);obtain⟨C,hC⟩:=qc (bA t.target);rw[<-hB.out] at hs1 ⊢;rw[<-hC.out] at hs2 ⊢;obtain⟨r,hr⟩:=qc (!decide (n+m<=200));rw[<-hr.out];have hw1:IntKind.i64.wrap ((n:Nat):Int)=n:=wrp (by omega) (by omega);have hw2:IntKind.i64.wrap ((m:Nat):Int)=m:=wrp (by omega) (by omega);have hw:IntKind.i64.wrap ((n:Int)+(m:Int))=(n:Int)+m:=wrp (by omega) (by omega)
 have hd:decide ((200:Int)<(n:Int)+(m:Int))=r:=by
  rw[hr.out]
  by_cases h:n+m<=200
  ·rw[q_t h,q_f (by omega)];rfl
  ·rw[q_f h,q_t (by omega)];rfl
 go_enter Tryz.func55,Tryz.ntmps55;go_upto_region 1 with (fail);refine qm ?_;intro w1 hE hsz B0;obtain⟨p0,p1,-⟩:=cells2 B0;go_wp2
 first|go_ret|skip
 exact⟨rfl,hE⟩
theorem Xd{l:List Byt}(h:xI w v n l)  (g:Nat->Bool)
  (hf:∀i,i<n->∀w' u,Ext w w'->Hid (u=sV (l.getD i []))->Calls Tryz.prog 57 #[u] w' (qG w' (.bool (g i)))) :
  Calls Tryz.prog 125 #[v,.func (.func 57) #[] #[]] w (xP w (zO n g)):=by
 obtain⟨r,hr⟩:=qc (zO n g);rw[<-hr.out];obtain⟨A,c,rfl,hnc,hcm⟩:=h.form;unfold maxLen at hcm;have hI:=h;have HF:=q_h hf;clear h hf;go_enter Tryz.func125,Tryz.ntmps125;go_wp2
 go_loopw [8] (fun i wr=>∃k:Nat,k<=n/\i=.int .i64 k/\Hid (∀j,j<k->g j=false)/\Ext w wr) (fun i _=>n-(intOf i).toNat)
 case atStart=>exact⟨0,Nat.zero_le _,rfl,fun j hj=>absurd hj (by omega),Ext.refl w⟩
 case round =>
  obtain⟨k,hk,rfl,HA,hE⟩:=hrel
  by_cases hlt:k<n
  ·(obtain⟨b,off,rfl,hx⟩:=(hI.ext hE).addr (by omega));(obtain⟨u,p0,hv⟩:=hx k hlt)
   clear hx;go_wp2_with (go_at_call 57;refine q_o ?_);refine (HF.out k hlt _ _ hE hv).mono ?_;rintro e w1 ⟨rfl,e1⟩;replace hE:=hE.trans e1;obtain⟨o,ho⟩:=qc (g k);rw[<-ho.out];cases o with
   | false =>
    go_wp2;go_roundw
    case rel=>exact⟨k+1,by omega,by go_num,zJ (p:=fun j=>g j=false) HA.out ho.out.symm,hE⟩
    case measure=>simp[intOf];omega
   | true =>
    have HT:Hid (r=true):=by rw[Hid,hr.out];exact zg hlt ho.out.symm
    go_wp2;go_ret;exact⟨_,rfl,by rw[Hid,HT.out];symm;simp,hE⟩
  ·have HT:Hid (r=false):=by rw[Hid,hr.out];exact qV.2 (fun j hj=>HA.out j (by omega))
   go_wp2;go_ret;exact⟨_,rfl,by rw[Hid,HT.out];rfl,hE⟩
theorem XI{l:List Byt}(h:xI w v n l)  (g:Nat->Bool)
  (hf:∀i,i<n->∀w' u,Ext w w'->Hid (u=sV (l.getD i []))->Calls Tryz.prog 57 #[u] w' (qG w' (.bool (g i)))) :
  Calls Tryz.prog 56 #[v,.func (.func 57) #[] #[]] w (qG w (.bool (zO n g))):=by
 obtain⟨r,hr⟩:=qc (zO n g);rw[<-hr.out];obtain⟨A,c,rfl,hnc,hcm⟩:=h.form;have hI:=h;have HF:=q_h hf;clear h hf;go_enter Tryz.func56,Tryz.ntmps56;go_wp2_with (go_at_call 125;refine q_o ?_);refine (Xd hI  g HF.out).mono ?_;rintro e w1 ⟨z,rfl,hz,e1⟩;rw[<-hr.out] at hz;go_wp2;go_ret;exact⟨qw hz.out.symm,e1⟩
theorem Xb{l:List Tg}(h:Xm w v n l)  (g:Nat->Bool)
  (hf:∀i,i<n->∀w' u,Ext w w'->Hid (u=.agg #[sV (l.getD i default).name,sV (l.getD i default).target])->Calls Tryz.prog 55 #[u] w' (qG w' (.bool (g i)))) :
  Calls Tryz.prog 124 #[v,.func (.func 55) #[] #[]] w (xP w (zO n g)):=by
 obtain⟨r,hr⟩:=qc (zO n g);rw[<-hr.out];obtain⟨A,c,rfl,hnc,hcm⟩:=h.form;unfold maxLen at hcm;have hI:=h;have HF:=q_h hf;clear h hf;go_enter Tryz.func124,Tryz.ntmps124;go_wp2
 go_loopw [8] (fun i wr=>∃k:Nat,k<=n/\i=.int .i64 k/\Hid (∀j,j<k->g j=false)/\Ext w wr) (fun i _=>n-(intOf i).toNat)
 case atStart=>exact⟨0,Nat.zero_le _,rfl,fun j hj=>absurd hj (by omega),Ext.refl w⟩
 case round =>
  obtain⟨k,hk,rfl,HA,hE⟩:=hrel
  by_cases hlt:k<n
  ·(obtain⟨b,off,rfl,hx⟩:=(hI.ext hE).addr (by omega));(obtain⟨x1,x2,p0,p1,hv⟩:=hx k hlt)
   clear hx;go_wp2_with (go_at_call 55;refine q_o ?_);refine (HF.out k hlt _ _ hE hv).mono ?_;rintro e w1 ⟨rfl,e1⟩;replace hE:=hE.trans e1;obtain⟨o,ho⟩:=qc (g k);rw[<-ho.out];cases o with
   | false =>
    go_wp2;go_roundw
    case rel=>exact⟨k+1,by omega,by go_num,zJ (p:=fun j=>g j=false) HA.out ho.out.symm,hE⟩
    case measure=>simp[intOf];omega
   | true =>
    have HT:Hid (r=true):=by rw[Hid,hr.out];exact zg hlt ho.out.symm
    go_wp2;go_ret;exact⟨_,rfl,by rw[Hid,HT.out];symm;simp,hE⟩
  ·have HT:Hid (r=false):=by rw[Hid,hr.out];exact qV.2 (fun j hj=>HA.out j (by omega))
   go_wp2;go_ret;exact⟨_,rfl,by rw[Hid,HT.out];rfl,hE⟩
theorem XG{l:List Tg}(h:Xm w v n l)  (g:Nat->Bool)
  (hf:∀i,i<n->∀w' u,Ext w w'->Hid (u=.agg #[sV (l.getD i default).name,sV (l.getD i default).target])->Calls Tryz.prog 55 #[u] w' (qG w' (.bool (g i)))) :
  Calls Tryz.prog 54 #[v,.func (.func 55) #[] #[]] w (qG w (.bool (zO n g))):=by
 obtain⟨r,hr⟩:=qc (zO n g);rw[<-hr.out];obtain⟨A,c,rfl,hnc,hcm⟩:=h.form;have hI:=h;have HF:=q_h hf;clear h hf;go_enter Tryz.func54,Tryz.ntmps54;go_wp2_with (go_at_call 124;refine q_o ?_);refine (Xb hI  g HF.out).mono ?_;rintro e w1 ⟨z,rfl,hz,e1⟩;rw[<-hr.out] at hz;go_wp2;go_ret;exact⟨qw hz.out.symm,e1⟩
theorem jv {o:Ob}{x y:Value}(h:ObR w x y o) (hl:∀s∈o.links,LnS s):Calls Tryz.prog 12 #[.agg #[x,y]] w (qG w (.bool (ZG o))):=by
 have HO:=q_h h;have HL:=q_h hl;obtain⟨r,hr⟩:=qc (ZG o);rw[<-hr.out];unfold ZG at hr;obtain⟨A0,c0,rfl,hc0,hm0⟩:=h.1.form;obtain⟨A9,c9,rfl,hc9,hm9⟩:=h.2.form;unfold maxLen at hm0 hm9;obtain⟨n0,hn0⟩:=qc o.links.length;obtain⟨n9,hn9⟩:=qc o.data.length;obtain⟨al,hal⟩:=qc (o.links.all fun s=>decide (s.length<=100));rw[<-hn0.out] at HO hr hc0 ⊢;rw[<-hn9.out] at HO hr hc9 ⊢;rw[<-hal.out] at hr
 have HCF:Hid (∀w',Ext w w'->Calls Tryz.prog 56 #[.slice A0 n0 c0,.func (.func 57) #[] #[]] w' (qG w' (.bool (!al)))):=fun w' e=>by
  rw[hal.out,<-jF,<-hn0.out];refine XI (l:=o.links) ⟨hn0.out,(HO.out.ext e).1⟩ _ (fun j hj w9 u e9 hu=>?_);rw[hu.out]
  exact Xh (HL.out _ (by
   rw[List.getD_eq_getElem?_getD,List.getElem?_eq_getElem (by rw[<-hn0.out];exact hj)]
   exact List.getElem_mem _))
 clear h hl;go_enter Tryz.func12,Tryz.ntmps12;go_upto_region 1 with (fail);refine qm ?_;intro w1 hE hsz B0;have HX:=q_h hE;obtain⟨p0,p1,-⟩:=cells2 B0
 by_cases ha:n0<=20
 case neg =>
  have d0:decide ((n0:Int)<=20)=false:=q_f (by omega);have HR:Hid (r=false):=by rw[Hid,hr.out,q_f ha];rfl
  go_wp2
  first|go_ret|skip
  exact⟨qw HR.out.symm,HX.out⟩
 have d0:decide ((n0:Int)<=20)=true:=q_t (by omega)
 by_cases hb:n9<=1100
 case neg =>
  have d1:decide ((n9:Int)<=1100)=false:=q_f (by omega);have HR:Hid (r=false):=by rw[Hid,hr.out,q_t ha,q_f hb];rfl
  go_wp2
  first|go_ret|skip
  exact⟨qw HR.out.symm,HX.out⟩
 have d1:decide ((n9:Int)<=1100)=true:=q_t (by omega);have HR:Hid (r=!(!al)):=by rw[Hid,hr.out,q_t ha,q_t hb,Bool.not_not];rfl
 go_wp2_with (go_at_call 56;refine q_o ?_);refine (HCF.out w1 HX.out).mono ?_;rintro e w2 ⟨rfl,e2⟩;have HX2:=q_h (HX.out.trans e2);cases al with
 | false =>
  go_wp2
  first|go_ret|skip
  exact⟨qw HR.out.symm,HX2.out⟩
 | true =>
  go_wp2
  first|go_ret|skip
  exact⟨qw HR.out.symm,HX2.out⟩
theorem Xg {o:Ob}{u:Value}(h:ObV w u o) (hl:∀s∈o.links,LnS s):Calls Tryz.prog 53 #[u] w (qG w (.bool (!ZG o))):=by
 obtain⟨x,y,rfl,h⟩:=h;have HC:Hid (∀w',Ext w w'->Calls Tryz.prog 12 #[.agg #[x,y]] w' (qG w' (.bool (ZG o)))):=fun w' e=>jv (h.ext e) hl
 obtain⟨A0,c0,rfl,-⟩:=h.1.form;obtain⟨A9,c9,rfl,-⟩:=h.2.form;obtain⟨n0,hn0⟩:=qc o.links.length;obtain⟨n9,hn9⟩:=qc o.data.length;obtain⟨r,hr⟩:=qc (ZG o);rw[<-hn0.out,<-hn9.out,<-hr.out] at HC;rw[<-hn0.out,<-hn9.out,<-hr.out];clear h hl;go_enter Tryz.func53,Tryz.ntmps53;go_upto_region 1 with (fail);refine qm ?_;intro w1 hE hsz B0;obtain⟨p0,p1,-⟩:=cells2 B0;go_wp2_with (go_at_call 12;refine q_o ?_);refine (HC.out w1 hE).mono ?_;rintro e w2 ⟨rfl,e2⟩;go_wp2
 first|go_ret|skip
 exact⟨rfl,hE.trans e2⟩
theorem Xc{l:List Ob}(h:YZ w v n l)  (g:Nat->Bool)
  (hf:∀i,i<n->∀w' u,Ext w w'->ObV w' u (l.getD i default)->Calls Tryz.prog 53 #[u] w' (qG w' (.bool (g i)))) :
  Calls Tryz.prog 123 #[v,.func (.func 53) #[] #[]] w (xP w (zO n g)):=by
 obtain⟨r,hr⟩:=qc (zO n g);rw[<-hr.out];obtain⟨A,c,rfl,hnc,hcm⟩:=h.form;unfold maxLen at hcm;have hI:=h;have HF:=q_h hf;clear h hf;go_enter Tryz.func123,Tryz.ntmps123;go_wp2
 go_loopw [8] (fun i wr=>∃k:Nat,k<=n/\i=.int .i64 k/\Hid (∀j,j<k->g j=false)/\Ext w wr) (fun i _=>n-(intOf i).toNat)
 case atStart=>exact⟨0,Nat.zero_le _,rfl,fun j hj=>absurd hj (by omega),Ext.refl w⟩
 case round =>
  obtain⟨k,hk,rfl,HA,hE⟩:=hrel
  by_cases hlt:k<n
  ·(obtain⟨b,off,rfl,hx⟩:=(hI.ext hE).addr (by omega));(obtain⟨A1,n1,c1,A2,n2,c2,p0,p1,hv⟩:=hx k hlt)
   clear hx;go_wp2_with (go_at_call 53;refine q_o ?_);refine (HF.out k hlt _ _ hE hv).mono ?_;rintro e w1 ⟨rfl,e1⟩;replace hE:=hE.trans e1;obtain⟨o,ho⟩:=qc (g k);rw[<-ho.out];cases o with
   | false =>
    go_wp2;go_roundw
    case rel=>exact⟨k+1,by omega,by go_num,zJ (p:=fun j=>g j=false) HA.out ho.out.symm,hE⟩
    case measure=>simp[intOf];omega
   | true =>
    have HT:Hid (r=true):=by rw[Hid,hr.out];exact zg hlt ho.out.symm
    go_wp2;go_ret;exact⟨_,rfl,by rw[Hid,HT.out];symm;simp,hE⟩
  ·have HT:Hid (r=false):=by rw[Hid,hr.out];exact qV.2 (fun j hj=>HA.out j (by omega))
   go_wp2;go_ret;exact⟨_,rfl,by rw[Hid,HT.out];rfl,hE⟩
theorem XH{l:List Ob}(h:YZ w v n l)  (g:Nat->Bool)
  (hf:∀i,i<n->∀w' u,Ext w w'->ObV w' u (l.getD i default)->Calls Tryz.prog 53 #[u] w' (qG w' (.bool (g i)))) :
  Calls Tryz.prog 52 #[v,.func (.func 53) #[] #[]] w (qG w (.bool (zO n g))):=by
 obtain⟨r,hr⟩:=qc (zO n g);rw[<-hr.out];obtain⟨A,c,rfl,hnc,hcm⟩:=h.form;have hI:=h;have HF:=q_h hf;clear h hf;go_enter Tryz.func52,Tryz.ntmps52;go_wp2_with (go_at_call 123;refine q_o ?_);refine (Xc hI  g HF.out).mono ?_;rintro e w1 ⟨z,rfl,hz,e1⟩;rw[<-hr.out] at hz;go_wp2;go_ret;exact⟨qw hz.out.symm,e1⟩
def LnSh (s:Shf):Prop:=(∀i,i<s.objs.length->∀l∈(s.objs.getD i default).links,LnS l)/\∀i,i<s.tags.length->LnS (s.tags.getD i default).name/\LnS (s.tags.getD i default).target
theorem QQ {s:Shf}{A1 A2:Option Addr}{n1 c1 n2 c2:Nat}(hO:jH w (.slice A1 n1 c1) s.objs) (hT:vM w (.slice A2 n2 c2) s.tags) (hl:LnSh s) :
  Calls Tryz.prog 11 #[.agg #[.int .i64 s.size,.int .i64 s.seq,.int .i64 s.half,.int .i64 s.used,.slice A1 n1 c1,.slice A2 n2 c2]] w (qG w (.bool (Yv s))):=by
 obtain⟨size,hsize⟩:=qc s.size;obtain⟨seq,hseq⟩:=qc s.seq;obtain⟨half,hhalf⟩:=qc s.half;obtain⟨used,hused⟩:=qc s.used;rw[<-hsize.out,<-hseq.out,<-hhalf.out,<-hused.out];obtain⟨r,hr⟩:=qc (Yv s);rw[<-hr.out];unfold Yv at hr;have HO:=q_h hO;have HT:=q_h hT;have HL:=q_h hl;have hN1:=hO.len.1;have hN2:=hT.len.1;obtain⟨A1',c1',e1,hc1,hm1⟩:=hO.form;obtain⟨A2',c2',e2,hc2,hm2⟩:=hT.form;obtain⟨-,-,rfl⟩:=Value.slice.inj e1;obtain⟨-,-,rfl⟩:=Value.slice.inj e2;unfold maxLen at hm1 hm2;rw[<-hN1] at hc1 hr;rw[<-hN2] at hc2 hr;have HN1:=q_h hN1;have HN2:=q_h hN2;obtain⟨ao,hao⟩:=qc (s.objs.all ZG);obtain⟨at',hat⟩:=qc (s.tags.all Vf);rw[<-hao.out,<-hat.out] at hr
 have HCO:Hid (∀w',Ext w w'->Calls Tryz.prog 52 #[.slice A1 n1 c1,.func (.func 53) #[] #[]] w' (qG w' (.bool (!ao)))):=fun w' e=>by
  rw[hao.out,<-vC default,<-HN1.out];refine XH (l:=s.objs) ⟨HN1.out,HO.out.ext e⟩ _ (fun j hj w9 u e9 hu=>?_);exact Xg hu (HL.out.1 j (by rw[<-HN1.out];exact hj))
 have HCT:Hid (∀w',Ext w w'->Calls Tryz.prog 54 #[.slice A2 n2 c2,.func (.func 55) #[] #[]] w' (qG w' (.bool (!at')))):=fun w' e=>by
  rw[hat.out,<-vC default,<-HN2.out];refine XG (l:=s.tags) ⟨HN2.out,HT.out.ext e⟩ _ (fun j hj w9 u e9 hu=>?_);rw[hu.out];exact J3 (HL.out.2 j (by rw[<-HN2.out];exact hj)).1 (HL.out.2 j (by rw[<-HN2.out];exact hj)).2
 clear hO hT hl e1 e2 hN1 hN2;go_enter Tryz.func11,Tryz.ntmps11;go_upto_region 1 with (fail);refine qm ?_;intro w1 hE hsz B0;have HX:=q_h hE;obtain⟨p0,p1,p2,p3,p4,p5⟩:=qp B0;have HB0:=q_h B0;clear B0 hE
 by_cases ha:n1<=12
 case neg =>
  have d0:decide ((n1:Int)<=12)=false:=q_f (by omega);have HR:Hid (r=false):=by rw[Hid,hr.out,q_f ha];rfl
  go_wp2
  first|go_ret|skip
  exact⟨qw HR.out.symm,HX.out⟩
 have d0:decide ((n1:Int)<=12)=true:=q_t (by omega)
 by_cases hb:n2<=12
 case neg =>
  have d1:decide ((n2:Int)<=12)=false:=q_f (by omega);have HR:Hid (r=false):=by rw[Hid,hr.out,q_t ha,q_f hb];rfl
  go_wp2
  first|go_ret|skip
  exact⟨qw HR.out.symm,HX.out⟩
 have d1:decide ((n2:Int)<=12)=true:=q_t (by omega);have HR:Hid (r=(ao&&at')):=by rw[Hid,hr.out,q_t ha,q_t hb];rfl
 go_wp2_with (go_at_call 52;refine q_o ?_);refine (HCO.out w1 HX.out).mono ?_;rintro e w2 ⟨rfl,e2⟩;have HX2:=q_h (HX.out.trans e2);have HB2:=q_h (e2.block HB0.out);clear p0 p1 p2 p3 p4 p5 e2;obtain⟨p0,p1,p2,p3,p4,p5⟩:=qp HB2.out;cases ao with
 | false =>
  go_wp2
  first|go_ret|skip
  exact⟨qw HR.out.symm,HX2.out⟩
 | true =>
  go_wp2_with (go_at_call 54;refine q_o ?_);refine (HCT.out w2 HX2.out).mono ?_;rintro e w3 ⟨rfl,e3⟩;have HX3:=q_h (HX2.out.trans e3);cases at' with
  | false =>
   go_wp2
   first|go_ret|skip
   exact⟨qw HR.out.symm,HX3.out⟩
  | true =>
   go_wp2
   first|go_ret|skip
   exact⟨qw HR.out.symm,HX3.out⟩
theorem WJ {L:List Ob}{v':Value}(h:jH w v L) (h':jH w v' L) (hok:∀i,i<L.length->Ok0 (L.getD i default)) (hl:L.length<=1000):Calls Tryz.prog 77 #[v,v',.func (.func 42) #[] #[]] w (qG w (.bool true)):=by
 have HO:=q_h h;have HP:=q_h h';have HOK:=q_h hok;obtain⟨A,c,rfl,hnc,-⟩:=h.form;obtain⟨A',c',rfl,hnc',-⟩:=h'.form;obtain⟨n,hn⟩:=qc L.length;rw[<-hn.out] at HO HP hnc hnc' hl ⊢;clear h h' hok;go_enter Tryz.func77,Tryz.ntmps77;have u3:((n:Int) != (n:Int))=false:=by simp
 go_wp2_with fail
 go_loopw [17] (fun iv wr=>∃i:Nat,i<=n/\iv=.int .i64 (i:Int)/\Hid (Ext w wr)) (fun iv _=>n-(intOf iv).toNat)
 case atStart=>exact⟨0,Nat.zero_le _,rfl,Ext.refl w⟩
 case round =>
  obtain⟨i,hi9,rfl,HX⟩:=hrel
  by_cases hlt:i<n
  case neg =>
   have u5:decide ((i:Int)<(n:Int))=false:=q_f (by omega);go_wp2
   first|go_ret|skip
   exact⟨rfl,HX.out⟩
  have u5:decide ((i:Int)<(n:Int))=true:=q_t (by omega);have u6:(i:Int)<(n:Int):=by omega
  have hil:i<L.length:=by have:=hn.out;omega
  obtain⟨go,off,rfl,hx⟩:=HO.out.at_ hn.out (by omega);obtain⟨B1,m1,d1,B2,m2,d2,k0,k1,hobr⟩:=hx i hlt;obtain⟨gp,ofp,rfl,hx2⟩:=HP.out.at_ hn.out (by omega);obtain⟨C1,l1,e1,C2,l2,e2,r0,r1,hobp⟩:=hx2 i hlt;have HOR:=q_h (hobr.ext HX.out);have HPR:=q_h (hobp.ext HX.out);replace k0:=HX.out.cell k0;replace k1:=HX.out.cell k1;replace r0:=HX.out.cell r0;replace r1:=HX.out.cell r1;clear hx hx2 hobr hobp;go_upto_region 6 with (fail);refine qm ?_;intro w4 e4 hsz4 BQ;have HX4:=q_h (HX.out.trans e4);replace r0:=e4.cell r0;replace r1:=e4.cell r1;have HOR4:=q_h (HOR.out.ext e4);have HPR4:=q_h (HPR.out.ext e4);have HBQ:=q_h BQ;clear e4 k0 k1 HX HOR HPR BQ;go_upto_region 7 with (fail);refine qm ?_;intro w5 e5 hsz5 BP;obtain⟨k0,k1,-⟩:=cells2 (e5.block HBQ.out);obtain⟨t0,t1,-⟩:=cells2 BP;clear r0 r1;go_wp2_with (go_at_call 42;refine q_o ?_);refine (xO (HOR4.out.ext e5) (HPR4.out.ext e5) (HOK.out i hil) (HOK.out i hil)).mono ?_;rintro e w6 ⟨rfl,e6⟩;have HX6:=q_h ((HX4.out.trans e5).trans e6);have hdd:decide (L.getD i default=L.getD i default)=true:=decide_eq_true rfl;rw[hdd];clear k0 k1 t0 t1 e5 e6 hdd;go_wp2;go_roundw
  case rel=>exact⟨i+1,by omega,by go_num,HX6⟩
  case measure=>simp[intOf];omega
theorem WI {L:List Tg}{v':Value}(h:vM w v L) (h':vM w v' L) (hl:L.length<=1000):Calls Tryz.prog 78 #[v,v'] w (qG w (.bool true)):=by
 have HO:=q_h h;have HP:=q_h h';obtain⟨A,c,rfl,hnc,-⟩:=h.form;obtain⟨A',c',rfl,hnc',-⟩:=h'.form;obtain⟨n,hn⟩:=qc L.length;rw[<-hn.out] at HO HP hnc hnc' hl ⊢;clear h h';go_enter Tryz.func78,Tryz.ntmps78;have u3:((n:Int) != (n:Int))=false:=by simp
 go_wp2_with fail
 go_loopw [13] (fun iv wr=>∃i:Nat,i<=n/\iv=.int .i64 (i:Int)/\Hid (Ext w wr)) (fun iv _=>n-(intOf iv).toNat)
 case atStart=>exact⟨0,Nat.zero_le _,rfl,Ext.refl w⟩
 case round =>
  obtain⟨i,hi9,rfl,HX⟩:=hrel
  by_cases hlt:i<n
  case neg =>
   have u5:decide ((i:Int)<(n:Int))=false:=q_f (by omega);go_wp2
   first|go_ret|skip
   exact⟨rfl,HX.out⟩
  have u5:decide ((i:Int)<(n:Int))=true:=q_t (by omega);have u6:(i:Int)<(n:Int):=by omega
  obtain⟨gt,ot,rfl,hx⟩:=Xm.addr ⟨hn.out,HO.out⟩ (by omega);obtain⟨x1,x2,k0,k1,hv⟩:=hx i hlt;obtain⟨gp,op,rfl,hx2⟩:=Xm.addr ⟨hn.out,HP.out⟩ (by omega);obtain⟨y1,y2,r0,r1,hv2⟩:=hx2 i hlt
  have e12:x1=.string (bA (L.getD i default).name)/\x2=.string (bA (L.getD i default).target):=by
   have h9:=hv.out;simp only[Value.agg.injEq,Array.mk.injEq,List.cons.injEq,and_true] at h9;exact h9
  have f12:y1=.string (bA (L.getD i default).name)/\y2=.string (bA (L.getD i default).target):=by
   have h9:=hv2.out;simp only[Value.agg.injEq,Array.mk.injEq,List.cons.injEq,and_true] at h9;exact h9
  obtain⟨B1,hB1⟩:=qc (bA (L.getD i default).name);obtain⟨B2,hB2⟩:=qc (bA (L.getD i default).target);rw[<-hB1.out,<-hB2.out] at e12 f12;obtain⟨rfl,rfl⟩:=e12;obtain⟨rfl,rfl⟩:=f12;replace k0:=HX.out.cell k0;replace k1:=HX.out.cell k1;replace r0:=HX.out.cell r0;replace r1:=HX.out.cell r1;clear hv hx hv2 hx2;go_upto_region 6 with (fail);obtain⟨wq,hwq⟩:∃wq,wq=wr:=⟨_,rfl⟩
  subst hwq;have eC:=(Ext.refl wq).drew;refine qh (fun w'=>w'.cell? ⟨gt,ot+i*2,none⟩=some (.string B1)/\w'.cell? ⟨gt,ot+i*2+1,none⟩=some (.string B2)/\w'.cell? ⟨gp,op+i*2,none⟩=some (.string B1)/\w'.cell? ⟨gp,op+i*2+1,none⟩=some (.string B2)) [] (by kernel_rfl) (by exact⟨eC.cell k0,eC.cell k1,eC.cell r0,eC.cell r1⟩) (fun hHeld=>?_);refine sP 0 (h:=?_);refine sP 1 (h:=?_);refine sP 2 (h:=?_);refine sT 3 (h:=?_);refine sP 4 (h:=?_);refine sP 5 (h:=?_);refine sP 6 (h:=?_);refine sT 7 (h:=?_);refine sP 8 (h:=?_);refine ql (by kernel_rfl) ?_ _;clear hHeld;have HX2:=q_h (HX.out.trans eC);clear eC k0 k1 r0 r1;go_wp2;go_roundw
  case rel=>exact⟨i+1,by omega,by go_num,HX2⟩
  case measure=>simp[intOf];omega
theorem zx.at_{l:List qW}(h:zx w (.slice A n c) l) (hn:n=l.length) (h0:0<n):∃g off,A=some ⟨g,off,none⟩/\∀i,i<n->∃B m d,w.cell? ⟨g,off+i*3,none⟩=some (.int .i64 (l.getD i default).page)/\w.cell? ⟨g,off+i*3+1,none⟩=some (.slice B m d)/\w.cell? ⟨g,off+i*3+2,none⟩=some (.bool (l.getD i default).bar)/\ByV w (.slice B m d) (l.getD i default).data:=by
 subst hn;obtain⟨g,off,h1,h2⟩:=JM.addr h h0;refine⟨g,off,h1,fun i hi=>?_⟩;obtain⟨x,y,z,h3,h4,h5,rfl,h6,rfl⟩:=h2 i hi;obtain⟨B,d,rfl,-⟩:=h6.form;exact⟨_,_,_,h3,h4,h5,h6⟩
theorem zD{t:TypeId}{x0 x1 x2:Value}(h:w.heap[g]?=some (.cells #[x0,x1,x2] t (0,0))):w.cell? ⟨g,0,none⟩=some x0/\w.cell? ⟨g,1,none⟩=some x1/\w.cell? ⟨g,2,none⟩=some x2 :=
 ⟨qj h 0,qj h 1,qj h 2⟩
theorem Zz {p:Int}{b:Bool}{l:Byt}{B B':Option Addr}{m' d':Nat}(h:ByV w (.slice B m d) l) (h':ByV w (.slice B' m' d') l) (hl:l.length<=1000000000):Calls Tryz.prog 80 #[.agg #[.int .i64 p,.slice B m d,.bool b],.agg #[.int .i64 p,.slice B' m' d',.bool b]] w (qG w (.bool true)):=by
 have HC:Hid (∀w',Ext w w'->Calls Tryz.prog 81 #[.slice B m d,.slice B' m' d'] w' (qG w' (.bool true))):=fun w' e=>by
  have h9:=V9 (h.ext e) (h'.ext e) hl hl;rw[decide_eq_true rfl] at h9;exact h9
 clear h h' hl;have u1:(p == p)=true:=by simp
 have u2:decide (p=p)=true:=decide_eq_true rfl;have u3:(b == b)=true:=by simp
 go_enter Tryz.func80,Tryz.ntmps80;go_upto_region 1 with (fail);refine zo ?_;intro w1 hE hsz B0 B1;obtain⟨p0,p1,p2⟩:=zD B0;obtain⟨q0,q1,q2⟩:=zD B1;go_wp2_with (go_at_call 81;refine q_o ?_);refine (HC.out w1 hE).mono ?_;rintro e w2 ⟨rfl,e2⟩;go_wp2
 first|go_ret|skip
 exact⟨rfl,hE.trans e2⟩
theorem WL {L:List qW}{v':Value}(h:zx w v L) (h':zx w v' L) (hok:∀i,i<L.length->(L.getD i default).data.length<=1000000000) (hl:L.length<=1000000):Calls Tryz.prog 79 #[v,v',.func (.func 80) #[] #[]] w (qG w (.bool true)):=by
 have HO:=q_h h;have HP:=q_h h';have HOK:=q_h hok;obtain⟨A,c,rfl,hnc,-⟩:=h.form;obtain⟨A',c',rfl,hnc',-⟩:=h'.form;obtain⟨n,hn⟩:=qc L.length;rw[<-hn.out] at HO HP hnc hnc' hl ⊢;clear h h' hok;go_enter Tryz.func79,Tryz.ntmps79;have u3:((n:Int) != (n:Int))=false:=by simp
 go_wp2_with fail
 go_loopw [17] (fun iv wr=>∃i:Nat,i<=n/\iv=.int .i64 (i:Int)/\Hid (Ext w wr)) (fun iv _=>n-(intOf iv).toNat)
 case atStart=>exact⟨0,Nat.zero_le _,rfl,Ext.refl w⟩
 case round =>
  obtain⟨i,hi9,rfl,HX⟩:=hrel
  by_cases hlt:i<n
  case neg =>
   have u5:decide ((i:Int)<(n:Int))=false:=q_f (by omega);go_wp2
   first|go_ret|skip
   exact⟨rfl,HX.out⟩
  have u5:decide ((i:Int)<(n:Int))=true:=q_t (by omega);have u6:(i:Int)<(n:Int):=by omega
  have hil:i<L.length:=by have:=hn.out;omega
  obtain⟨go,off,rfl,hx⟩:=HO.out.at_ hn.out (by omega);obtain⟨B1,m1,d1,k0,k1,k2,hby⟩:=hx i hlt;obtain⟨gp,ofp,rfl,hx2⟩:=HP.out.at_ hn.out (by omega);obtain⟨C1,l1,e1,r0,r1,r2,hby2⟩:=hx2 i hlt;obtain⟨pg,hpg⟩:=qc (L.getD i default).page;obtain⟨br,hbr⟩:=qc (L.getD i default).bar;rw[<-hpg.out] at k0 r0;rw[<-hbr.out] at k2 r2;have HOR:=q_h (hby.ext HX.out);have HPR:=q_h (hby2.ext HX.out);replace k0:=HX.out.cell k0;replace k1:=HX.out.cell k1;replace k2:=HX.out.cell k2;replace r0:=HX.out.cell r0;replace r1:=HX.out.cell r1;replace r2:=HX.out.cell r2;clear hx hx2 hby hby2;go_upto_region 6 with (fail);refine qm ?_;intro w4 e4 hsz4 BQ;have HX4:=q_h (HX.out.trans e4);replace r0:=e4.cell r0;replace r1:=e4.cell r1;replace r2:=e4.cell r2;have HOR4:=q_h (HOR.out.ext e4);have HPR4:=q_h (HPR.out.ext e4);have HBQ:=q_h BQ;clear e4 k0 k1 k2 HX HOR HPR BQ;go_upto_region 7 with (fail);refine qm ?_;intro w5 e5 hsz5 BP;obtain⟨k0,k1,k2⟩:=zD (e5.block HBQ.out);obtain⟨t0,t1,t2⟩:=zD BP;clear r0 r1 r2;go_wp2_with (go_at_call 80;refine q_o ?_);refine (Zz (HOR4.out.ext e5) (HPR4.out.ext e5) (HOK.out i hil)).mono ?_;rintro e w6 ⟨rfl,e6⟩;have HX6:=q_h ((HX4.out.trans e5).trans e6);clear k0 k1 k2 t0 t1 t2 e5 e6;go_wp2;go_roundw
  case rel=>exact⟨i+1,by omega,by go_num,HX6⟩
  case measure=>simp[intOf];omega
theorem QS {L:List qW}{v':Value}(h:zx w v L) (h':zx w v' L) (hok:∀i,i<L.length->(L.getD i default).data.length<=1000000000) (hl:L.length<=1000000):Calls Tryz.prog 18 #[v,v'] w (qG w (.bool true)):=by
 have HC:=q_h (WL h h' hok hl);clear h h' hok hl;go_enter Tryz.func18,Tryz.ntmps18;go_wp2_with (go_at_call 79;refine q_o ?_);refine HC.out.mono ?_;rintro e w2 ⟨rfl,e2⟩;go_wp2
 first|go_ret|skip
 exact⟨rfl,e2⟩
theorem wZ {s:Shf}{v':Value}(h:YT w v s) (h':YT w v' s) (hok:OkS s\/∀i,i<s.objs.length->Ok0 (s.objs.getD i default)) (hl:s.objs.length<=1000) (hl2:s.tags.length<=1000):Calls Tryz.prog 17 #[v,v'] w (qG w (.bool true)):=by
 have hok':∀i,i<s.objs.length->Ok0 (s.objs.getD i default):=hok.elim (fun h=>h.ob) id;obtain⟨x,y,rfl,hO,hT⟩:=h;obtain⟨x',y',rfl,hO',hT'⟩:=h';have HCO:Hid (∀w',Ext w w'->Calls Tryz.prog 77 #[x,x',.func (.func 42) #[] #[]] w' (qG w' (.bool true))):=fun w' e=>WJ (hO.ext e) (hO'.ext e) hok' hl
 have HCT:Hid (∀w',Ext w w'->Calls Tryz.prog 78 #[y,y'] w' (qG w' (.bool true))):=fun w' e=>WI (hT.ext e) (hT'.ext e) hl2
 obtain⟨A1,c1,rfl,-⟩:=hO.form;obtain⟨A2,c2,rfl,-⟩:=hT.form;obtain⟨A3,c3,rfl,-⟩:=hO'.form;obtain⟨A4,c4,rfl,-⟩:=hT'.form;obtain⟨size,hsize⟩:=qc s.size;obtain⟨seq,hseq⟩:=qc s.seq;obtain⟨half,hhalf⟩:=qc s.half;obtain⟨used,hused⟩:=qc s.used;obtain⟨n1,hn1⟩:=qc s.objs.length;obtain⟨n2,hn2⟩:=qc s.tags.length;rw[<-hn1.out] at HCO;rw[<-hn2.out] at HCT;rw[<-hsize.out,<-hseq.out,<-hhalf.out,<-hused.out,<-hn1.out,<-hn2.out];clear hO hT hO' hT' hok hok' hl hl2;have u1:∀z:Int,(z == z)=true:=fun z=>by simp
 have u2:∀z:Int,decide (z=z)=true:=fun z=>decide_eq_true rfl
 go_enter Tryz.func17,Tryz.ntmps17;go_upto_region 1 with (fail);refine zo ?_;intro w1 hE hsz B0 B1;have HB0:=q_h B0;have HB1:=q_h B1;obtain⟨p0,p1,p2,p3,p4,p5⟩:=qp B0;obtain⟨q0,q1,q2,q3,q4,q5⟩:=qp B1;go_wp2_with (go_at_call 77;refine q_o ?_);refine (HCO.out w1 hE).mono ?_;rintro e w2 ⟨rfl,e2⟩;have HX2:=q_h (hE.trans e2);replace p5:=e2.cell p5;replace q5:=e2.cell q5;clear p0 p1 p2 p3 p4 q0 q1 q2 q3 q4 e2 hE B0 B1;go_wp2_with (go_at_call 78;refine q_o ?_);refine (HCT.out w2 HX2.out).mono ?_;rintro e w3 ⟨rfl,e3⟩;go_wp2
 first|go_ret|skip
 exact⟨rfl,HX2.out.trans e3⟩
theorem JD {s t:Shf}{e:Byt}{acts:List qW}(h:Z8 s e=some (t,acts)):t.objs=s.objs/\t.tags=s.tags/\acts=wrA e (2+s.half*qP s.size+s.used)++q09 t:=by
 unfold Z8 at h
 split at h
 ·cases h
 ·injection h with h
  injection h with h1 h2
  subst h1;exact⟨rfl,rfl,h2.symm⟩
structure Zb (r:Shf×List qW×Byt×Int):Prop where
 ob:∀i,i<r.1.objs.length->Ok0 (r.1.objs.getD i default)
 no:r.1.objs.length<=1000
 nt:r.1.tags.length<=1000
 da:∀a∈r.2.1,a.data.length<=1000000000
 na:r.2.1.length<=1000000
theorem Zb.bad (n:Byt) (c:Int):Zb (zeroS,[],n,c):=⟨fun i hi=>absurd hi (Nat.not_lt_zero i),Nat.zero_le _,Nat.zero_le _,(fun a ha=>by cases ha),Nat.zero_le _⟩
theorem Vu {s:Shf}{o:Ob}(h:OkS s) (ho:Ok0 o):Zb (kU s o):=by
 have hno:=h.no;have hnt:=h.nt;unfold kU
 split
 ·exact Zb.bad _ _
 split
 ·exact Zb.bad _ _
 rename_i hv hc
 have hoc:okO o:=yT (by simpa using hc)
 split
 ·split
  ·exact⟨h.ob,(show s.objs.length<=1000 by omega),hnt,(fun a ha=>by cases ha),Nat.zero_le _⟩
  ·exact Zb.bad _ _
 ·split
  ·exact Zb.bad _ _
  ·split
   ·exact Zb.bad _ _
   ·rename_i t acts hap
    obtain⟨e1,e2,e3⟩:=JD hap;have hpn:=(QK hoc).1;refine⟨fun i hi=>?_,?_,?_,fun a ha=>?_,?_⟩
    ·have hi':i<(s.objs ++ [o]).length:=hi;rw[List.length_append,List.length_singleton] at hi'
     show Ok0 ((s.objs ++ [o]).getD i default)
     by_cases h9:i=s.objs.length
     ·rw[h9,List.getD_eq_getElem?_getD,List.getElem?_append_right (q_r),Nat.sub_self];exact ho
     ·rw[List.getD_eq_getElem?_getD,List.getElem?_append_left (by omega),<-List.getD_eq_getElem?_getD];exact h.ob i (by omega)
    ·show (s.objs ++ [o]).length<=1000
     rw[List.length_append,List.length_singleton];omega
    ·show t.tags.length<=1000
     rw[e2];exact hnt
    ·have ha':a∈acts:=ha;rw[e3] at ha'
     rcases List.mem_append.1 ha' with h9|h9
     ·unfold wrA at h9;obtain⟨j,-,rfl⟩:=List.mem_map.1 h9
      show (((jZ (obE o)).drop (64*j)).take 64).length<=_
      rw[List.length_take];omega
     ·unfold q09 at h9;simp only[List.mem_cons,List.mem_nil_iff,or_false] at h9
      rcases h9 with rfl|rfl|rfl
      ·exact Nat.zero_le _
      ·show (xN _ _ _).length<=_
       rw[jb];omega
      ·exact Nat.zero_le _
    ·show acts.length<=_
     rw[e3];unfold wrA q09;rw[List.length_append,List.length_map,List.length_range]
     show pgN (obE o)+3<=_
     omega
theorem Yl (HT:xH){s:Shf}{o:Ob}{A1 A2:Option Addr}{n1 c1 n2 c2:Nat}{x y:Value}(hO:jH w (.slice A1 n1 c1) s.objs) (hTg:vM w (.slice A2 n2 c2) s.tags) (hob:ObR w x y o) (he:xh w.heap.size w) (hl:LnSh s) (hl2:∀l∈o.links,LnS l)
  (hk:∀w',Ext w w'->Calls Tryz.prog 10 #[] w' (qG w' (.bool true))) :
  Calls Tryz.prog 3 #[.agg #[.int .i64 s.size,.int .i64 s.seq,.int .i64 s.half,.int .i64 s.used,.slice A1 n1 c1,.slice A2 n2 c2],.agg #[x,y]] w (qG w (.bool true)):=by
 have HO:=q_h hO;have HTG:=q_h hTg;have HOB:=q_h hob;have HEV:=q_h he;have HK:=q_h hk;obtain⟨A0,c0,rfl,-⟩:=hob.1.form;obtain⟨A9,c9,rfl,-⟩:=hob.2.form;obtain⟨n0,hn0⟩:=qc o.links.length;obtain⟨n9,hn9⟩:=qc o.data.length;rw[<-hn0.out,<-hn9.out] at HOB ⊢;have HCF:Hid (∀w',Ext w w'->Calls Tryz.prog 11 #[.agg #[.int .i64 s.size,.int .i64 s.seq,.int .i64 s.half,.int .i64 s.used,.slice A1 n1 c1,.slice A2 n2 c2]] w' (qG w' (.bool (Yv s)))):=fun w' e=>QQ (HO.out.ext e) (HTG.out.ext e) hl
 have HCO:Hid (∀w',Ext w w'->Calls Tryz.prog 12 #[.agg #[.slice A0 n0 c0,.slice A9 n9 c9]] w' (qG w' (.bool (ZG o)))):=fun w' e=>jv (HOB.out.ext e) hl2
 have HCS:Hid (OkS s->Ok0 o->∀w',Ext w w'->Calls Tryz.prog 13 #[.agg #[.int .i64 s.size,.int .i64 s.seq,.int .i64 s.half,.int .i64 s.used,.slice A1 n1 c1,.slice A2 n2 c2],.agg #[.slice A0 n0 c0,.slice A9 n9 c9]] w' (wI (kU s o) w')):=fun h1 h2 w' e=>Xx HT (HO.out.ext e) (HTG.out.ext e) h1 (HOB.out.ext e) h2 ((HEV.out.ext e).low e.size)
 have HCL:Hid (OkS s->Ok0 o->∀w',Ext w w'->Calls Tryz.prog 14 #[.agg #[.int .i64 s.size,.int .i64 s.seq,.int .i64 s.half,.int .i64 s.used,.slice A1 n1 c1,.slice A2 n2 c2],.agg #[.slice A0 n0 c0,.slice A9 n9 c9]] w' (wI (kU s o) w')):=fun h1 h2 w' e=>VH (HO.out.ext e) (HTG.out.ext e) h1 (HOB.out.ext e) h2
 obtain⟨size,hsize⟩:=qc s.size;obtain⟨seq,hseq⟩:=qc s.seq;obtain⟨half,hhalf⟩:=qc s.half;obtain⟨used,hused⟩:=qc s.used;obtain⟨fs,hfs⟩:=qc (Yv s);obtain⟨fo,hfo⟩:=qc (ZG o);rw[<-hsize.out,<-hseq.out,<-hhalf.out,<-hused.out] at HCF HCS HCL ⊢;rw[<-hfs.out] at HCF;rw[<-hfo.out] at HCO;clear hO hTg hob he hl hl2 hk;go_enter Tryz.func3,Tryz.ntmps3;go_upto_region 1 with (fail);refine zo ?_;intro w1 hE hsz B0 B1;have HX1:=q_h hE;have HB1:=q_h B0;have HD1:=q_h B1;clear hE B0 B1;go_wp2_with (go_at_call 10;refine q_o ?_);refine (HK.out w1 HX1.out).mono ?_;rintro e w2 ⟨rfl,e2⟩;have HX2:=q_h (HX1.out.trans e2);have HB2:=q_h (e2.block HB1.out);have HD2:=q_h (e2.block HD1.out);clear e2 HX1 HB1 HD1 HK;obtain⟨p0,p1,p2,p3,p4,p5⟩:=qp HB2.out;go_wp2_with (go_at_call 11;refine q_o ?_);refine (HCF.out w2 HX2.out).mono ?_;rintro e w3 ⟨rfl,e3⟩;have HX3:=q_h (HX2.out.trans e3);have HB3:=q_h (e3.block HB2.out);have HD3:=q_h (e3.block HD2.out);clear e3 HX2 HB2 HD2 HCF p0 p1 p2 p3 p4 p5;cases fs with
 | false =>
  go_wp2
  first|go_ret|skip
  exact⟨rfl,HX3.out⟩
 | true =>
 obtain⟨q0,q1,-⟩:=cells2 HD3.out;go_wp2_with (go_at_call 12;refine q_o ?_);refine (HCO.out w3 HX3.out).mono ?_;rintro e w4 ⟨rfl,e4⟩;have HX4:=q_h (HX3.out.trans e4);have HB4:=q_h (e4.block HB3.out);have HD4:=q_h (e4.block HD3.out);clear e4 HX3 HB3 HD3 HCO q0 q1;cases fo with
 | false =>
  go_wp2
  first|go_ret|skip
  exact⟨rfl,HX4.out⟩
 | true =>
 have HOS:=q_h (Yv.ok hfs.out.symm);have HOO:=q_h (ZG.ok0 hfo.out.symm);have HPO:=q_h (Vu HOS.out HOO.out);replace HCS:=q_h (HCS.out HOS.out HOO.out);replace HCL:=q_h (HCL.out HOS.out HOO.out);obtain⟨r,hr⟩:=qc (kU s o);rw[<-hr.out] at HCS HCL HPO;obtain⟨z,hz⟩:=qc r.2.2.2;obtain⟨B,hB⟩:=qc (bA r.2.2.1);obtain⟨p0,p1,p2,p3,p4,p5⟩:=qp HB4.out;obtain⟨q0,q1,-⟩:=cells2 HD4.out;go_wp2_with (go_at_call 13;refine q_o ?_);refine (HCS.out w4 HX4.out).mono ?_;rintro e w5 ⟨sv,sa,rfl,hsv,hsa,e5⟩;rw[zy,<-hB.out,<-hz.out];obtain⟨S1,S2,rfl,hso,hst⟩:=hsv;obtain⟨F1,f1,rfl,-⟩:=hso.form;obtain⟨F2,f2,rfl,-⟩:=hst.form;obtain⟨m1,hm1⟩:=qc r.1.objs.length;obtain⟨m2,hm2⟩:=qc r.1.tags.length;obtain⟨rs,hrs⟩:=qc r.1.size;obtain⟨rq,hrq⟩:=qc r.1.seq;obtain⟨rh,hrh⟩:=qc r.1.half;obtain⟨ru,hru⟩:=qc r.1.used;rw[<-hm1.out] at hso ⊢;rw[<-hm2.out] at hst ⊢;rw[<-hrs.out,<-hrq.out,<-hrh.out,<-hru.out];have HX5:=q_h (HX4.out.trans e5);have HB5:=q_h (e5.block HB4.out);have HD5:=q_h (e5.block HD4.out);have HSO:=q_h hso;have HST:=q_h hst;have HSA:=q_h hsa;clear e5 HX4 HB4 HD4 HCS p0 p1 p2 p3 p4 p5 q0 q1 hso hst hsa;go_upto_region 6 with (fail);refine qm ?_;intro w6 e6 hsz6 BP;obtain⟨g1,hg1⟩:=qc w5.heap.size;rw[<-hg1.out] at BP ⊢;have HP6:=q_h BP;have HX6:=q_h (HX5.out.trans e6);have HB6:=q_h (e6.block HB5.out);have HD6:=q_h (e6.block HD5.out);have HSO6:=q_h (HSO.out.ext e6)
 have HST6:=q_h (HST.out.ext e6);have HSA6:=q_h (HSA.out.ext e6);clear e6 BP HX5 HB5 HD5 HSO HST HSA hsz6;obtain⟨p0,p1,p2,p3,p4,p5⟩:=qp HB6.out;obtain⟨q0,q1,-⟩:=cells2 HD6.out;go_wp2_with (go_at_call 14;refine q_o ?_);refine (HCL.out w6 HX6.out).mono ?_;rintro e w7 ⟨lv,la,rfl,hlv,hla,e7⟩;rw[zy,<-hB.out,<-hz.out];obtain⟨S3,S4,rfl,hlo,hlt⟩:=hlv;obtain⟨F3,f3,rfl,-⟩:=hlo.form;obtain⟨F4,f4,rfl,-⟩:=hlt.form;rw[<-hm1.out] at hlo ⊢;rw[<-hm2.out] at hlt ⊢;rw[<-hrs.out,<-hrq.out,<-hrh.out,<-hru.out];have HX7:=q_h (HX6.out.trans e7);have HP7:=q_h (e7.block HP6.out);have HD7:=q_h (e7.block HD6.out);have HSO7:=q_h (HSO6.out.ext e7);have HST7:=q_h (HST6.out.ext e7);have HSA7:=q_h (HSA6.out.ext e7);have HLO:=q_h hlo;have HLT:=q_h hlt;have HLA:=q_h hla;clear e7 HX6 HB6 HD6 HP6 HSO6 HST6 HSA6 HCL p0 p1 p2 p3 p4 p5 q0 q1 hlo hlt hla;go_upto_region 7 with (fail);refine qm ?_;intro w8 e8 hsz8 BL;obtain⟨g2,hg2⟩:=qc w7.heap.size;rw[<-hg2.out] at BL ⊢;have HL8:=q_h BL;have HX8:=q_h (HX7.out.trans e8);have HP8:=q_h (e8.block HP7.out);have HD8:=q_h (e8.block HD7.out);have HSV8:Hid (YT w8 (.agg #[.int .i64 rs,.int .i64 rq,.int .i64 rh,.int .i64 ru,.slice F1 m1 f1,.slice F2 m2 f2]) r.1):=⟨_,_,by rw[hrs.out,hrq.out,hrh.out,hru.out],HSO7.out.ext e8,HST7.out.ext e8⟩
 have HLV8:Hid (YT w8 (.agg #[.int .i64 rs,.int .i64 rq,.int .i64 rh,.int .i64 ru,.slice F3 m1 f3,.slice F4 m2 f4]) r.1):=⟨_,_,by rw[hrs.out,hrq.out,hrh.out,hru.out],HLO.out.ext e8,HLT.out.ext e8⟩
 have HSA8:=q_h (HSA7.out.ext e8);have HLA8:=q_h (HLA.out.ext e8);clear e8 BL HX7 HP7 HD7 HSO7 HST7 HSA7 HLO HLT HLA hsz8;obtain⟨q0,q1,-⟩:=cells2 HD8.out;obtain⟨zc,hzc⟩:=qc (obC o);obtain⟨BN,hBN⟩:=qc (bA (nmO o))
 have HCN1:Hid (Calls Tryz.prog 15 #[.agg #[.slice A0 n0 c0,.slice A9 n9 c9]] w8 (qG w8 (.tuple #[.string BN,.int .i64 zc]))):=by
  rw[hBN.out,hzc.out,<-zy];exact wO HT (HOB.out.ext HX8.out) HOO.out (HEV.out.ext HX8.out).tab
 go_wp2_with (go_at_call 15;refine q_o ?_);refine HCN1.out.mono ?_;rintro e w9 ⟨rfl,e9⟩;have HX9:=q_h (HX8.out.trans e9);have HP9:=q_h (e9.block HP8.out);have HL9:=q_h (e9.block HL8.out);have HE9:=q_h e9;replace q0:=e9.cell q0;replace q1:=e9.cell q1
 have HCN2:Hid (Calls Tryz.prog 16 #[.agg #[.slice A0 n0 c0,.slice A9 n9 c9]] w9 (qG w9 (.tuple #[.string BN,.int .i64 zc]))):=by
  rw[hBN.out,hzc.out,<-zy];exact Q3 (HOB.out.ext HX9.out) HOO.out
 clear e9 HX8 HP8 HL8 HCN1;go_wp2_with (go_at_call 16;refine q_o ?_);refine HCN2.out.mono ?_;rintro e wa ⟨rfl,ea⟩;have HXa:=q_h (HX9.out.trans ea);have HPa:=q_h (ea.block HP9.out);have HLa:=q_h (ea.block HL9.out);have HEa:=q_h (HE9.out.trans ea);clear ea HX9 HP9 HL9 HE9 HCN2 q0 q1;obtain⟨p0,p1,p2,p3,p4,p5⟩:=qp HPa.out;obtain⟨k0,k1,k2,k3,k4,k5⟩:=qp HLa.out;have v1:(z == z)=true:=by simp
 have v2:decide (z=z)=true:=decide_eq_true rfl;have v3:(B.toList == B.toList)=true:=by simp
 have v4:(BN.toList == BN.toList)=true:=by simp
 have v5:(zc == zc)=true:=by simp
 have v6:decide (zc=zc)=true:=decide_eq_true rfl;go_wp2_with (go_at_call 17;refine q_o ?_);refine (wZ (HSV8.out.ext HEa.out) (HLV8.out.ext HEa.out) (.inr HPO.out.ob) HPO.out.no HPO.out.nt).mono ?_;rintro e wb ⟨rfl,eb⟩;have HXb:=q_h (HXa.out.trans eb);have HEb:=q_h (HEa.out.trans eb);clear eb p0 p1 p2 p3 p4 p5 k0 k1 k2 k3 k4 k5;go_wp2_with (go_at_call 18;refine q_o ?_);refine (QS (HSA8.out.ext HEb.out) (HLA8.out.ext HEb.out) (fun i hi=>HPO.out.da _ (by rw[List.getD_eq_getElem?_getD,List.getElem?_eq_getElem hi];exact List.getElem_mem hi)) HPO.out.na).mono ?_;rintro e wc ⟨rfl,ec⟩;go_wp2
 first|go_ret|skip
 exact⟨rfl,HXb.out.trans ec⟩
theorem KU{o:Oper}{a:Act}{K:Act->World->Prop}{Q:Exit->Act->World->Prop}(l c:Operand) (hop:o.op=Op.makeSlice 27 l c)
  (kl kc:IntKind) (n:Nat) (hl:a.eval l=.int kl (n:Int)) (hc:a.eval c=.int kc (n:Int)) (hn:n<1000000)
  (hK:∀w',PgB w' w.heap.size (zrs n)->Ext w w'->K (a.put o.dst (.slice (some ⟨w.heap.size,0,none⟩) n n)) w'):o.wp Tryz.prog a w K Q:=by
 obtain⟨w',cs,hrun,h1,h2,h3,h4⟩:=XL kL rfl 27 Tryz.underlying27 w kl kc n hn;unfold Oper.wp;simp[execOp,hop,hl,hc,hrun,Result.andThen]
 refine hK _ ?_ h4;unfold PgB;rw[h1,ZL]
 congr 2
 refine Array.ext (by simp[h2]) (fun i h5 h6=>?_);have:=h3 i (by omega);rw[Array.getElem?_eq_getElem h5] at this;rw[Option.some.inj this]
 simp
theorem QB{ops:Array Oper}{o:Oper}{a:Act}{K:Act->World->Prop}{Q:Exit->Act->World->Prop}{E:Prop}(hgd:o.guard=none) (l c:Operand) (hop:o.op=Op.makeSlice 27 l c)
  (kl kc:IntKind) (n:Nat) (hl:a.eval l=.int kl (n:Int)) (hc:a.eval c=.int kc (n:Int)) (hn:n<1000000)
  (hK:∀w',PgB w' w.heap.size (zrs n)->Ext w w'->K (a.put o.dst (.slice (some ⟨w.heap.size,0,none⟩) n n)) w') :
  if Region.wanted o (yielded ops a.tmps)=true then Oper.wp Tryz.prog o a w K Q else E:=by
 have hw:Region.wanted o (yielded ops a.tmps)=true:=by simp[Region.wanted,hgd]
 rw[if_pos hw];exact KU l c hop kl kc n hl hc hn hK
theorem qC{t:TypeId}{x0 x1 x2 x3:Value}(h:w.heap[g]?=some (.cells #[x0,x1,x2,x3] t (0,0))):w.cell? ⟨g,0,none⟩=some x0/\w.cell? ⟨g,1,none⟩=some x1/\w.cell? ⟨g,2,none⟩=some x2/\w.cell? ⟨g,3,none⟩=some x3 :=
 ⟨qj h 0,qj h 1,qj h 2,qj h 3⟩
theorem PgL.head {gs:Nat}{P P':Nat->Byt}(h:PgL base w v n P) (h0:0<n) (hgs:base<=gs) (hp:PgB w gs (P' 0)) (hP:∀j,0<j->P' j=P j) :
  ∃(g0 c:Nat) (cur:Array Value) (q0:Nat),v=.slice (some ⟨g0,0,none⟩) n c/\base<=g0/\n<=c/\w.heap[g0]?=some (.cells cur 27 (0,0))/\cur[0]?=some (.slice (some ⟨q0,0,none⟩) 64 64)/\∀w',w'.heap[g0]?=some (.cells (cur.setIfInBounds 0 (.slice (some ⟨gs,0,none⟩) 64 64)) 27 (0,0))->Upd g0 w w'->PgL base w' v n P':=by
 obtain⟨G,hG,hGP⟩:=h
 rcases hG.2.2 with ⟨-,h2⟩|⟨g0,cap,cur,hv,hb,hh,h3,h4,h5,h6⟩
 ·exfalso
  simp at h2
  omega
 have hl:((List.range n).map fun j=>Value.slice (some ⟨G j,0,none⟩) 64 64).length=n:=by simp
 rw[hl] at hv h3 h6;rw[Nat.mul_one] at h5 h6
 have hc0:cur[0]?=some (.slice (some ⟨G 0,0,none⟩) 64 64):=by
  have e1:(cur.toList.take n)[0]?=cur[0]?:=by rw[List.getElem?_take,if_pos h0,Array.getElem?_toList]
  rw[<-e1,h6,List.getElem?_map,List.getElem?_range h0]
  rfl
 refine⟨g0,cap,cur,G 0,hv,hb,h3,hh,hc0,fun w' hw' U=>?_⟩;refine⟨fun j=>if j=0 then gs else G j,?_,fun j hj=>?_⟩
 ·refine⟨by rw[U.size];exact hG.1,by simp,.inr ⟨g0,cap,cur.setIfInBounds 0 (.slice (some ⟨gs,0,none⟩) 64 64),by rw[hv];simp,hb,hw',by simpa using h3,h4,by rw[Array.size_setIfInBounds];omega,?_⟩⟩;rw[List.length_map,List.length_range,Nat.mul_one,Array.toList_setIfInBounds,List.take_set,h6];refine List.ext_getElem? fun j=>?_
  rw[List.getElem?_set]
  by_cases hj:0=j
  ·subst hj;rw[if_pos rfl,if_pos (by simpa using h0),List.getElem?_map,List.getElem?_range h0]
   rfl
  ·rw[if_neg hj,List.getElem?_map,List.getElem?_map]
   by_cases hjn:j<n
   ·rw[List.getElem?_range hjn]
    show some (Value.slice (some ⟨G j,0,none⟩) 64 64)=some (Value.slice (some ⟨if j=0 then gs else G j,0,none⟩) 64 64)
    rw[if_neg (fun e:j=0=>hj e.symm)]
   ·rw[List.getElem?_eq_none (by simpa using hjn)]
    rfl
 ·by_cases h:j=0
  ·show base<=(if j=0 then gs else G j)/\PgB w' (if j=0 then gs else G j) (P' j)
   rw[if_pos h,h];have hne:gs≠g0:=neT hh hp (by decide);exact⟨hgs,(U.block gs hne).trans hp⟩
  ·show base<=(if j=0 then gs else G j)/\PgB w' (if j=0 then gs else G j) (P' j)
   rw[if_neg h,hP j (by omega)];have hne:G j≠g0:=neT hh (hGP j hj).2 (by decide);exact⟨(hGP j hj).1,(U.block _ hne).trans (hGP j hj).2⟩
def q05 (j:Nat):Byt:=if j=0 then xN 0 0 0 else zrs 64
theorem kW:(Tryz.prog.info? 46).map (·.size)=some 4:=by kernel_rfl
def WA (w:World) (n:Nat) (e:Ending) (w':World):Prop:=∃A c,e=.returned (.tuple #[.agg #[.slice A n c,.slice none 0 0,.int .i64 (-1),.bool false],.int .i64 0])/\PgL w.heap.size w' (.slice A n c) n q05/\Ext w w'
theorem X4(h8:8<=n) (h9:n<=4096) (he:xe w):Calls Tryz.prog 20 #[.int .i64 (n:Int)] w (WA w n):=by
 obtain⟨R,hR⟩:=qc (WA w n);rw[<-hR.out];have HM:=q_h he;clear he;have d1:decide ((n:Int)<8)=false:=q_f (by omega);have d2:decide ((4096:Int)<(n:Int))=false:=q_f (by omega);go_enter Tryz.func20,Tryz.ntmps20;go_upto_region 4 with (fail);refine zo ?_;intro W hE hsz B0 B1;obtain⟨g,hg⟩:=qc (w.heap.size+1);rw[<-hg.out] at B1 ⊢;have HGW:Hid (g=w.heap.size+1):=hg;have HG0:Hid (PgL (g+1) W (.slice none (0:Nat) 0) 0 (fun _=>zrs 64)):=⟨fun _=>0,qA.nil (by have:=hg.out;omega),fun j hj=>absurd hj (Nat.not_lt_zero j)⟩
 have HB0:=q_h B0;have HB1:=q_h B1;have HX:=q_h hE;clear B0 B1 hE;go_wp2_with fail
 go_loopw [14] (fun iv wr=>∃(i:Nat) (A:Option Addr) (c:Nat),i<=n/\iv=.int .i64 (i:Int)/\Hid (wr.heap[g]?=some (.cells #[.slice A i c,.slice none 0 0,.int .i64 (-1),.bool false] 46 (0,0)))/\Hid (PgL (g+1) wr (.slice A i c) i (fun _=>zrs 64))/\Hid (Ext w wr)/\Hid (wr.heap[w.heap.size]?=some (.cells #[.slice none 0 0,.slice none 0 0,.int .i64 0,.bool false] 46 (0,0)))) (fun iv _=>n-(intOf iv).toNat)
 case atStart=>exact⟨0,none,0,Nat.zero_le _,rfl,HB1,HG0,HX,HB0⟩
 case round =>
  clear HB1 HG0 HX HB0;obtain⟨i,A,c,hi9,rfl,HB1,HG,HX,HB0⟩:=hrel;obtain⟨wq,hwq⟩:∃wq,wq=wr:=⟨_,rfl⟩
  subst hwq
  by_cases hlt:i<n
  case neg =>
   obtain rfl:i=n:=by omega
   have u5:decide ((i:Int)<(i:Int))=false:=q_f (by omega);obtain⟨k0,k1,k2,k3⟩:=qC HB1.out;go_upto_region 8 with (fail);obtain⟨ga,ofa,hA,-⟩:=HG.out.addr (by omega);have u7:(0:Int)<(i:Int):=by omega
   subst hA;have eC:=(Ext.refl wq).drew;refine qh (fun w'=>w'.cell? ⟨g,0,none⟩=some (.slice (some ⟨ga,ofa,none⟩) i c)) [5] (by kernel_rfl) (by exact eC.cell k0) (fun hHeld=>?_);refine sP 0 (h:=?_);refine sT 1 (h:=?_);refine sP 2 (h:=?_);refine qf (i:=3) rfl (by kernel_rfl) (fun K hK=>?_);go_simp;refine (zH (HM.out.ext (HX.out.trans eC)) (by omega) (by omega) (by omega) (by omega) (by omega) (by omega)).mono ?_;rintro e w5 ⟨gs,rfl,hgs,hPs,e5⟩;have hq5:=eC.size;replace eC:=eC.trans e5;go_wp2_with fail;clear hHeld;refine hK.out _ _ (by exact eC.cell k0) fun hHeld=>?_
   clear hK K;try simp only[nr]
   refine sP 4 (h:=?_);refine qE (i:=5) rfl (by kernel_rfl) (by kernel_rfl) (fun K hK=>?_);obtain⟨g0,c0,cur,q0,hv0,hb0,hc0,hh0,hq0,hPL⟩:=PgL.head (gs:=gs) (P':=q05) (HG.out.ext eC) (by omega) (by have:=qK HB1.out;omega) hPs (fun j hj=>by unfold q05;rw[if_neg (by omega)]);obtain⟨e1,-,-⟩:=Value.slice.inj hv0;injection e1 with e1
   injection e1 with e1 e2 e3
   subst e1 e2;have HPL:=q_h hPL;clear hv0 hPL;obtain⟨wa,Ea,Ba,Ua⟩:=qI hh0 0 (.slice (some ⟨gs,0,none⟩) 64 64);have f4:=qo hh0 0;have c4':w5.cell? ⟨ga,0,none⟩=some (.slice (some ⟨q0,0,none⟩) 64 64):=(qj hh0 0).trans hq0;go_simp;try rw[Ea]
   clear f4 c4' Ea;refine hK.out _ _ ?_;clear hK K;try simp only[nr]
   refine ql (by kernel_rfl) ?_ _;clear hHeld;have HPa:=q_h (HPL.out wa Ba Ua);have Ca:=Ua.chg (NoU.mk hh0 (by decide));have HXa:Hid (Ext w wa):=Ca.ext (HX.out.trans eC) (by have:=HGW.out;omega);have HBa:=q_h ((Ua.block g (by omega)).trans (eC.block HB1.out));have HRa:=q_h ((Ua.block w.heap.size (by have:=HGW.out;omega)).trans (eC.block HB0.out));clear eC e5 hPs Ca Ba Ua k0 k1 k2 k3 hh0 HPL HB1 HB0 HG HX;obtain⟨k0,k1,k2,k3⟩:=qC HBa.out;go_upto_region 9 with (fail);refine wp_region_lit ?_;refine wpList_plain rfl (fun K hK=>?_);go_simp;refine hK _ _ ?_;clear hK K;try simp only[nr]
   refine qg rfl 46 _ _ rfl (by rfl) (by rfl) HRa.out kW (by rfl) (by rfl) (by rfl) ?_;intro wz Bz Uz;obtain⟨x0,x1,x2,x3⟩:=qC Bz;go_wp2;refine bodyPost_ret (v:=.tuple #[.agg #[.slice (some ⟨ga,0,none⟩) i c,.slice none 0 0,.int .i64 (-1),.bool false],.int .i64 0]) ?_ rfl ?_
   ·simp[results,x0,x1,x2,x3,go_sem]
   ·rw[hR.out];have Cz:=Uz.chg (NoU.mk HRa.out (by decide));refine⟨_,c,rfl,?_,Cz.ext HXa.out (by omega)⟩;obtain⟨G,h1,h2⟩:=HPa.out;refine⟨G,qF.low' (qF.chgT h1 Cz HRa.out (by decide)) (by have:=HGW.out;omega),fun j hj=>⟨by have:=(h2 j hj).1;have:=HGW.out;omega,?_⟩⟩;exact (Uz.block _ (neT HRa.out (h2 j hj).2 (by decide))).trans (h2 j hj).2
  have u5:decide ((i:Int)<(n:Int))=true:=q_t (by omega);obtain⟨k0,k1,k2,k3⟩:=qC HB1.out;obtain⟨G,hG0,hGP0⟩:=HG.out;have HGG:=q_h hG0;have HGP:=q_h hGP0;clear hG0 hGP0;go_upto_region 6 with (fail);have eC:=(Ext.refl wq).drew;refine qh (fun w'=>w'.cell? ⟨g,0,none⟩=some (.slice A i c)) [4,6] (by kernel_rfl) (by exact eC.cell k0) (fun hHeld=>?_);refine sP 0 (h:=?_);refine sT 1 (h:=?_);refine qf (i:=2) rfl (by kernel_rfl) (fun K hK=>?_);refine QB rfl _ _ rfl .i64 .i64 64 (by rfl) (by rfl) (by omega) ?_;intro w5 hP5 e5;have hP5q:=eC.size;replace eC:=eC.trans e5;clear hHeld;refine hK.out _ _ (by exact eC.cell k0) fun hHeld=>?_
  clear hK K;try simp only[nr]
  refine qf (i:=3) rfl (by kernel_rfl) (fun K hK=>?_);go_simp
  first|refine qm ?_|refine qQ ?_
  intro w6 e6 hsz6 BX;replace eC:=eC.trans e6;clear hHeld;refine hK.out _ _ (by exact eC.cell k0) fun hHeld=>?_
  clear hK K;try simp only[nr]
  refine qE (i:=4) rfl (by kernel_rfl) (by kernel_rfl) (fun K hK=>?_);refine je wS rfl _ _ 44 Tryz.underlying44 rfl (by rfl) (HGG.out.ext eC) (by rfl) (m:=1) (c:=1) rfl (jK BX) (by simp[Value.oneCell']) (by omega) (by simp;omega) ?_;rintro g9 cap9 w9 hG9 - ⟨g',hg',hw9,C9,-⟩;rw[List.length_map,List.length_range] at hG9 ⊢;have hB9:=C9.blk (eC.block HB1.out) (.inl (by omega));refine hK.out _ _ ?_;clear hK K;try simp only[nr]
  refine sP 5 (h:=?_);refine qE (i:=6) rfl (by kernel_rfl) (by kernel_rfl) (fun K hK=>?_);obtain⟨wa,Ea,Ba,Ua⟩:=qI hB9 0 (.slice (some ⟨g9,0,none⟩) (i+1) cap9);have f4:=qo hB9 0;have c4':=qj hB9 0;go_simp;try rw[Ea]
  clear f4 c4' Ea;refine hK.out _ _ ?_;clear hK K;try simp only[nr]
  refine ql (by kernel_rfl) ?_ _;clear hHeld;have Ca:=Ua.chg (NoU.mk hB9 (by decide))
  have HNE:Hid (∀q l,PgB w6 q l->PgB wa q l):=fun q l h=>by
   have h1:PgB w9 q l:=h.chg C9 (by have:=qF.ne (HGG.out.ext eC) hw9 h (by decide);omega);have h2:=neT hB9 h1 (by decide);exact (Ua.block q h2).trans h1
  have HGN:Hid (PgL (g+1) wa (.slice (some ⟨g9,0,none⟩) (i+1) cap9) (i+1) (fun _=>zrs 64)):=by
   refine PgL.snoc (G:=G) (g:=wq.drew.heap.size) (fun j hj=>⟨(HGP.out j hj).1,HNE.out _ _ ((HGP.out j hj).2.ext eC)⟩) (by have:=qK HB1.out;omega) (HNE.out _ _ (hP5.ext e6)) ?_;have h9:=qF.chgT hG9 Ca hB9 (by decide);exact h9
  have HXa:Hid (Ext w wa):=Ca.ext (C9.ext (HX.out.trans eC) (by have:=HGW.out;omega)) (by have:=HGW.out;omega);have HB0a:Hid (wa.heap[w.heap.size]?=some (.cells #[.slice none 0 0,.slice none 0 0,.int .i64 0,.bool false] 46 (0,0))):=(Ua.block _ (by have:=HGW.out;omega)).trans (C9.blk (eC.block HB0.out) (.inl (by have:=HGW.out;omega)));have HBa:=q_h Ba;clear eC hG9 hw9 C9 Ba Ua Ca hB9 BX e6 e5 hP5 k0 k1 k2 k3;go_wp2;go_roundw
  case rel=>exact⟨i+1,_,cap9,by omega,by go_num,HBa,HGN,HXa,HB0a⟩
  case measure=>simp[intOf];omega
def vO (a:qW) (n:Nat):Bool:=!a.bar&&(decide (0<=a.page)&&(decide (a.page<(n:Int))&&decide (a.data.length=64)))
theorem yJ {a:qW}{B:Option Addr}(hm:m=a.data.length):Calls Tryz.prog 90 #[.agg #[.int .i64 a.page,.slice B m d,.bool a.bar],.int .i64 (n:Int)] w (qG w (.bool (vO a n))):=by
 obtain⟨r,hr⟩:=qc (vO a n);rw[<-hr.out];unfold vO at hr;obtain⟨pg,hpg⟩:=qc a.page;obtain⟨br,hbr⟩:=qc a.bar;rw[<-hpg.out,<-hbr.out,<-hm] at hr;rw[<-hpg.out,<-hbr.out];clear hm;go_enter Tryz.func90,Tryz.ntmps90;go_upto_region 1 with (fail);refine qm ?_;intro W hE hsz B0;obtain⟨p0,p1,p2⟩:=zD B0;cases br with
 | true =>
  have HR:Hid (r=false):=by rw[Hid,hr.out];rfl
  go_wp2
  first|go_ret|skip
  exact⟨qw HR.out.symm,hE⟩
 | false =>
  by_cases h1:0<=pg
  case neg =>
   have d1:decide (0<=pg)=false:=q_f h1;have HR:Hid (r=false):=by rw[Hid,hr.out,d1];rfl
   go_wp2
   first|go_ret|skip
   exact⟨qw HR.out.symm,hE⟩
  have d1:decide (0<=pg)=true:=q_t h1
  by_cases h2:pg<(n:Int)
  case neg =>
   have d2:decide (pg<(n:Int))=false:=q_f h2;have HR:Hid (r=false):=by rw[Hid,hr.out,d1,d2];rfl
   go_wp2
   first|go_ret|skip
   exact⟨qw HR.out.symm,hE⟩
  have d2:decide (pg<(n:Int))=true:=q_t h2;obtain⟨q,hq⟩:=qc (decide (m=64))
  have d3:((m:Int) == 64)=q:=by
   rw[hq.out]
   by_cases h3:m=64
   ·rw[q_t h3,h3];rfl
   ·rw[q_f h3];simp;omega
  have d4:decide ((m:Int)=64)=q:=by
   rw[hq.out]
   by_cases h3:m=64
   ·rw[q_t h3,h3];rfl
   ·rw[q_f h3];exact q_f (by omega)
  have HR:Hid (r=q):=by rw[Hid,hr.out,d1,d2,hq.out];rfl
  go_wp2
  first|go_ret|skip
  exact⟨qw HR.out.symm,hE⟩
theorem Qy {a:qW}{gn:Nat}{B:Option Addr}(hm:m=a.data.length) (hn:w.cell? ⟨gn,0,none⟩=some (.int .i64 (n:Int))):Calls Tryz.prog 140 #[.agg #[.int .i64 a.page,.slice B m d,.bool a.bar],.pointer (some ⟨gn,0,none⟩)] w (qG w (.bool (!vO a n))):=by
 have HC:Hid (∀w',Calls Tryz.prog 90 #[.agg #[.int .i64 a.page,.slice B m d,.bool a.bar],.int .i64 (n:Int)] w' (qG w' (.bool (vO a n)))):=fun w'=>yJ hm
 obtain⟨r,hr⟩:=qc (vO a n);obtain⟨pg,hpg⟩:=qc a.page;obtain⟨br,hbr⟩:=qc a.bar;rw[<-hpg.out,<-hbr.out,<-hr.out] at HC;rw[<-hpg.out,<-hbr.out,<-hr.out];clear hm;go_enter Tryz.func140,Tryz.ntmps140;go_upto_region 1 with (fail);refine qm ?_;intro W hE hsz B0;obtain⟨p0,p1,p2⟩:=zD B0;have q0:=hE.cell hn;go_wp2_with (go_at_call 90;refine q_o ?_);refine (HC.out W).mono ?_;rintro e w1 ⟨rfl,e1⟩;go_wp2
 first|go_ret|skip
 exact⟨rfl,hE.trans e1⟩
end Go.Proofs.YtdeeekdbhhenpaaGreatDoor
