import Derived.Test.YtdeeekdbhhenpaaGreatDoorWta01
import Derived.Test.YtdeeekdbhhenpaaGreatDoorCards
import Derived.Test.YtdeeekdbhhenpaaGreatDoorTie
import Derived.ShutString
import Derived.ChangeOld
set_option linter.all false
set_option maxHeartbeats 8000000
set_option maxRecDepth 100000
namespace Go.Proofs.YtdeeekdbhhenpaaGreatDoor
variable {w:World} {v:Value}
section
open Go.RowKit
theorem q44 {s:Shf}{A1 A2:Option Addr}{n1 c1 n2 c2:Nat}(hO:yJ w (.slice A1 n1 c1) s.objs) (hTg:jK w (.slice A2 n2 c2) s.tags) (hok:OkS s) :
  Calls Tryz.prog 51 #[.agg #[.int .i64 s.size,.int .i64 s.seq,.int .i64 s.half,.int .i64 s.used,.slice A1 n1 c1,.slice A2 n2 c2]] w (q18 (colS s) w):=by
 obtain⟨R,hR⟩:=qf (q18 (colS s) w);rw[<-hR.out];have HO:=q_h hO;have HTG:=q_h hTg;have HOK:=q_h hok;have HN1:=q_h hO.len.1;have HN2:=q_h hTg.len.1
 have HCV:Hid (∀w',Ext w w'->Calls Tryz.prog 40 #[.agg #[.int .i64 s.size,.int .i64 s.seq,.int .i64 s.half,.int .i64 s.used,.slice A1 n1 c1,.slice A2 n2 c2]] w' (qH w' (.bool (qE s)))):=fun w' e =>
  Vb (HO.out.ext e) (HTG.out.ext e) HOK.out.ob HOK.out.tg (by have:=HOK.out.no;omega) HOK.out.nt
 have HCR:Hid (∀w' A0 n0 c0,qE s=true->Ext w w'->qZ w' (.slice A0 n0 c0) (tgs s)->(∀q,Value.ownBlock (.slice A0 n0 c0)=some q->q<w'.heap.size)->Calls Tryz.prog 45 #[.agg #[.int .i64 s.size,.int .i64 s.seq,.int .i64 s.half,.int .i64 s.used,.slice A1 n1 c1,.slice A2 n2 c2],.slice A0 n0 c0] w' (q3b (q3Y s) w')):=fun w' A0 n0 c0 hv e h1 h2 =>
  q2I (F:=tgs s) (HO.out.ext e) hv (by have:=HOK.out.no;omega) h1 h2 (by unfold tgs;rw[List.length_map];have:=HOK.out.nt;omega)
 obtain⟨size,hsize⟩:=qf s.size;obtain⟨seq,hseq⟩:=qf s.seq;obtain⟨half,hhalf⟩:=qf s.half;obtain⟨used,hused⟩:=qf s.used;obtain⟨vb,hvb⟩:=qf (qE s);rw[<-hsize.out,<-hseq.out,<-hhalf.out,<-hused.out,<-hvb.out] at HCV;rw[<-hsize.out,<-hseq.out,<-hhalf.out,<-hused.out] at HCR ⊢;clear hO hTg hok;go_enter Tryz.func51,Tryz.ntmps51;go_upto_region 1 with (fail);refine zu ?_;intro w1 hE hsz B0 B2;obtain⟨p0,p1,p2,p3,p4,p5⟩:=qw B0;go_wp2_with (go_at_call 40;refine q_o ?_);refine (HCV.out w1 hE).mono ?_;rintro e w2 ⟨rfl,e2⟩;have HX2:=q_h (hE.trans e2);have HB2:=q_h (e2.block B0);have HR2:=q_h (e2.block B2);clear p0 p1 p2 p3 p4 p5 B0 B2 hE e2 HCV;cases vb with
 | false =>
  have HP:Hid (colS s=(zeroS,[],1)):=by
   rw[Hid];unfold colS;rw[if_pos hvb.out.symm]
  have HX9:=HX2;have HR9:=HR2;go_upto_region 2 with (fail);refine wp_region_lit ?_;refine wpList_plain rfl (fun K hK=>?_);go_simp;refine hK _ _ ?_;clear hK K;try simp only[nr]
  refine qh rfl 25 _ _ rfl (by rfl) (by rfl) HR9.out qJ (by rfl) (by rfl) (by rfl) ?_;intro wz Bz Uz;obtain⟨x0,x1,x2,x3,x4,x5⟩:=qw Bz;go_wp2;refine bodyPost_ret (v:=.tuple #[zSh,.slice none 0 0,.int .i64 (1)]) ?_ rfl ?_
  ·simp[results,x0,x1,x2,x3,x4,x5,go_sem,zSh]
  ·rw[hR.out];refine⟨zSh,.slice none 0 0,?_,?_,?_,(Uz.chg (NoU.mk HR9.out (by decide))).ext HX9.out (by omega)⟩
   ·rw[HP.out]
   ·rw[HP.out];first|exact zH _|exact zK _
   ·rw[HP.out];exact zi _
 | true =>
 have HV:Hid (qE s=true):=hvb.out.symm;have HOKO:=q_h (Wv HV.out);have hh:=yx HV.out;rw[<-hsize.out,<-hseq.out,<-hhalf.out,<-hused.out] at hh;have hnn:n1<=999:=by rw[HN1.out];exact HOK.out.no
 have hn2:n2<=1000:=by rw[HN2.out];exact HOK.out.nt
 have q1:w2.cell? ⟨w.heap.size,1,none⟩=some (.int .i64 seq):=qj HB2.out 1
 by_cases hq:seq=2147483647
 ·have u1:(seq == 2147483647)=true:=by rw[hq];rfl
  have u2:decide (seq=2147483647)=true:=q_t hq
  have HP:Hid (colS s=(zeroS,[],17)):=by
   rw[Hid];unfold colS;rw[HV.out,if_neg (by simp),if_pos (by rw[<-hseq.out];exact hq)]
  have HX9:=HX2;have HR9:=HR2;go_upto_region 4 with (fail);refine wp_region_lit ?_;refine wpList_plain rfl (fun K hK=>?_);go_simp;refine hK _ _ ?_;clear hK K;try simp only[nr]
  refine qh rfl 25 _ _ rfl (by rfl) (by rfl) HR9.out qJ (by rfl) (by rfl) (by rfl) ?_;intro wz Bz Uz;obtain⟨x0,x1,x2,x3,x4,x5⟩:=qw Bz;go_wp2;refine bodyPost_ret (v:=.tuple #[zSh,.slice none 0 0,.int .i64 (17)]) ?_ rfl ?_
  ·simp[results,x0,x1,x2,x3,x4,x5,go_sem,zSh]
  ·rw[hR.out];refine⟨zSh,.slice none 0 0,?_,?_,?_,(Uz.chg (NoU.mk HR9.out (by decide))).ext HX9.out (by omega)⟩
   ·rw[HP.out]
   ·rw[HP.out];first|exact zH _|exact zK _
   ·rw[HP.out];exact zi _
 have u1:(seq == 2147483647)=false:=by simpa using hq
 have u2:decide (seq=2147483647)=false:=q_f hq;have hseq9:seq<2147483647:=by omega
 obtain⟨hf,hhf⟩:=qf (1-half);have hf9:0<=hf/\hf<=1:=by rw[hhf.out];omega
 have hwf:IntKind.i64.wrap (1-half)=hf:=by rw[hhf.out];exact wrp (by omega) (by omega)
 have hws:IntKind.i64.wrap (seq+1)=seq+1:=wrp (by omega) (by omega);have q5:w2.cell? ⟨w.heap.size,5,none⟩=some (.slice A2 n2 c2):=qj HB2.out 5;have HG0:Hid (qB 9 w2.heap.size w2 (.slice none (0:Nat) 0) ((s.tags.take 0).map fun t=>sV t.target)):=qB.nil (q_r);go_wp2_with fail;clear q5 q1
 go_loopw [5,29] (fun ov iv wr=>∃(i:Nat) (A':Option Addr) (c':Nat),i<=n2/\iv=.int .i64 (i:Int)/\ov=.slice A' i c'/\Hid (qB 9 w2.heap.size wr (.slice A' i c') ((s.tags.take i).map fun t=>sV t.target))/\Hid (Ext w2 wr)) (fun _ iv _=>n2-(intOf iv).toNat)
 case atStart=>exact⟨0,none,0,Nat.zero_le _,rfl,rfl,HG0,Ext.refl w2⟩
 case round =>
  clear HG0;obtain⟨i,A',c',hin,rfl,rfl,HG,HX⟩:=hrel
  by_cases hlt:i<n2
  case pos =>
   have u5:decide ((i:Int)<(n2:Int))=true:=q_t (by omega);have hii:(i:Int)<(n2:Int):=by omega
   have hil:i<s.tags.length:=by have:=HN2.out;omega
   obtain⟨g,off,rfl,k0,k1⟩:=(HTG.out.ext (HX2.out.trans HX.out)).get hlt;obtain⟨N1,hN1⟩:=qf (bA (s.tags.getD i default).name);obtain⟨N2,hN2⟩:=qf (bA (s.tags.getD i default).target);rw[qO,<-hN1.out] at k0;rw[qO,<-hN2.out] at k1;go_upto_region 9 with (fail);refine qo ?_;intro w4 e4 hsz4 BQ;have HG4:=q_h (qB.ext HG.out e4);have HX4:=q_h (HX.out.trans e4);obtain⟨k0,k1,-⟩:=cells2 BQ;clear e4 HG HX BQ hsz4;go_wp2_with (at_builtin;refine q_o ?_);refine qo ?_;intro w6 e6 hsz6 B6;have hlen:((s.tags.take i).map fun t=>sV t.target).length=i:=by rw[List.length_map,List.length_take];omega
   have hG6:=qB.ext HG4.out e6;refine zB xW rfl _ _ 26 Tryz.underlying26 rfl (by rfl) hG6 (m:=1) (c:=1) (news:=[.string N2]) (by rfl) rfl (jD B6) (fun x hx=>by rw[List.mem_singleton.1 hx];rfl) (by omega) (by omega) ?_;rintro g18 cap18 w18 hG18 hat18 ⟨g9,hlo,hw9,C9,-⟩;rw[hlen] at hG18 ⊢
   have HG9:Hid (qB 9 w2.heap.size w18 (.slice (some ⟨g18,0,none⟩) (i+1) cap18) ((s.tags.take (i+1)).map fun t=>sV t.target)):=by
    rw[take_snoc s.tags default hil,List.map_append]
    show Hid (qB _ _ _ _ (_ ++ [sV (s.tags.getD i default).target]))
    rw[qO,<-hN2.out];exact hG18
   have HX9:Hid (Ext w2 w18):=C9.ext (HX4.out.trans e6) (by omega);clear hG18 hat18 hlo hw9 C9 B6 e6 hsz6 HG4 HX4 hG6 k0 k1;go_wp2;go_roundw
   case rel=>exact⟨i+1,some ⟨g18,0,none⟩,cap18,by omega,by go_num,rfl,HG9,HX9⟩
   case measure=>simp[intOf];try omega
  obtain rfl:i=n2:=by omega
  have u5:decide ((i:Int)<(i:Int))=false:=q_f (by omega)
  have HSF:Hid (qZ wr (.slice A' i c') (tgs s)):=by
   have h9:=HG.out;rw[List.take_of_length_le (by have:=HN2.out;omega)] at h9;refine GrS.strs (base:=w2.heap.size) ?_;unfold GrS tgs;rw[List.map_map];exact h9
  have HOW:Hid (∀q,Value.ownBlock (.slice A' i c')=some q->q<wr.heap.size):=fun q hq=>(qB.own_lt HG.out q hq).2
  have HBr:=q_h (HX.out.block HB2.out);obtain⟨q0,q1,q2,q3,q4,q5⟩:=qw HBr.out;go_wp2_with (go_at_call 45;refine q_o ?_);refine (HCR.out wr A' i c' HV.out (HX2.out.trans HX.out) HSF.out HOW.out).mono ?_;rintro e w5 ⟨v8,rfl,hK8,e5⟩;obtain⟨A8,c8,rfl,-⟩:=Qm.form hK8;obtain⟨n8,hn8⟩:=qf (q3Y s).length;have HK5:Hid (qZ w5 (.slice A8 n8 c8) (q3Y s)):=by rw[hn8.out];exact hK8
  rw[<-hn8.out];have HX5:=q_h (HX2.out.trans (HX.out.trans e5));have HB5:=q_h (e5.block HBr.out);have HR5:=q_h ((HX.out.trans e5).block HR2.out);clear q0 q1 q2 q3 q4 q5 hK8 e5 HX HG HSF HOW HBr HB2 HR2 HCR u5;obtain⟨q0,q1,q2,q3,q4,q5⟩:=qw HB5.out;go_upto_region 14 with (fail);refine qo ?_;intro wC eC hszC BO;obtain⟨g9,hg9⟩:=qf w5.heap.size;rw[<-hg9.out] at BO ⊢;have HBC:Hid (wC.heap[g9]?=some (.cells #[.int .i64 size,.int .i64 (seq+1),.int .i64 hf,.int .i64 0,.slice none 0 0,.slice A2 i c2] 25 (0,0))):=BO;have HXC:=q_h eC;obtain⟨B,hB⟩:=qf wC.heap.size
  have hbB:w5.heap.size<=g9/\g9<B/\w.heap.size+1<w5.heap.size:=by
   have:=hg9.out;have:=hB.out;have:=qK HR5.out;omega
  obtain⟨pg,hpg⟩:=qf (2+hf*qV size);have HS6:Hid (B<=wC.heap.size):=by rw[hB.out];exact q_r
  have HO6:Hid (ObH B w wC (.slice none 0 0) []):=⟨fun _=>undef,fun _=>undef,⟨HS6.out,by simp[obX],.inl ⟨rfl,rfl⟩⟩,fun j hj=>absurd hj (Nat.not_lt_zero j)⟩
  have HP6:Hid (PgX B wC (.slice none 0 0) ((([]:List Ob).map obE).flatMap ZF)):=PgX.nil HS6.out;have q4:wC.cell? ⟨w.heap.size,4,none⟩=some (.slice A1 n1 c1):=eC.cell q4;clear eC BO hszC q0 q1 q2 q3 q5;go_wp2_with fail;clear q4
  go_loopw [10,56] (fun pv iv wr=>∃(j np no co cp:Nat) (Ao Ap:Option Addr) (O:List Ob),j<=n1/\np<=100*j/\iv=.int .i64 (j:Int)/\pv=.slice Ap np cp/\Hid (O=(s.objs.take j).filter (kpO s))/\Hid (np=sumP (O.map obE))/\Hid (no=O.length)/\Hid (wr.heap[g9]?=some (.cells #[.int .i64 size,.int .i64 (seq+1),.int .i64 hf,.int .i64 0,.slice Ao no co,.slice A2 i c2] 25 (0,0)))/\Hid (ObH B w wr (.slice Ao no co) O)/\Hid (PgX B wr (.slice Ap np cp) ((O.map obE).flatMap ZF))/\Hid (Ext w5 wr)) (fun _ iv _=>n1-(intOf iv).toNat)
  case atStart=>exact⟨0,0,0,0,0,none,none,[],Nat.zero_le _,Nat.zero_le _,rfl,rfl,rfl,rfl,rfl,HBC,HO6,HP6,HXC⟩
  case round =>
   clear HBC HO6 HP6 HXC;obtain⟨j,np,no,co,cp,Ao,Ap,O,hjn,hnp,rfl,rfl,HOF,HNP,HNO,HB,HOG,HPX,HX⟩:=hrel
   by_cases hjl:j<n1
   case pos =>
    have u5:decide ((j:Int)<(n1:Int))=true:=q_t (by omega);have hji:(j:Int)<(n1:Int):=by omega
    have hjo:j<s.objs.length:=by have:=HN1.out;omega
    obtain⟨o,ho⟩:=qf (s.objs.getD j default);obtain⟨go,off,hAv,hx⟩:=HO.out.at_ HN1.out (by omega);obtain⟨C1,m1,d1,C2,m2,d2,k0,k1,hobr⟩:=hx j hjl;rw[<-ho.out] at hobr;subst hAv;have HOR:=q_h hobr;replace k0:=(HX5.out.trans HX.out).cell k0;replace k1:=(HX5.out.trans HX.out).cell k1;have HOKJ:Hid (okO o):=by rw[Hid,ho.out];exact HOKO.out j hjo
    have HPB:=q_h (YV HOKJ.out);obtain⟨qk,hqk⟩:=qf (kpO s o);have HOS:=q3Z (s:=s) hjo;rw[<-ho.out,<-HOF.out,<-hqk.out] at HOS;have HOS:=q_h HOS;clear hx hobr;go_upto_region 17 with (fail);refine qo ?_;intro w4 e4 hsz4 BQ;obtain⟨gq,hgq⟩:=qf wr.heap.size;rw[<-hgq.out] at BQ ⊢;have HQ4:=q_h BQ;have HB4:=q_h (e4.block HB.out)
    have HO4:Hid (ObH B w w4 (.slice Ao no co) O):=by
     obtain⟨XX,YY,h1,h2⟩:=HOG.out;exact⟨XX,YY,h1.ext e4,h2⟩
    have HP4:=q_h (HPX.out.ext e4);have HX4:=q_h (HX.out.trans e4)
    have HOWN:Hid (∀q,(Value.slice Ao no co).ownBlock=some q->q<gq):=fun q hq=>by
     obtain⟨XX,YY,h1,h2⟩:=HOG.out;rw[hgq.out];exact (h1.own_lt q hq).2
    obtain⟨k0,k1,-⟩:=cells2 BQ;clear e4 BQ hsz4 HB HOG HPX HX;have HNM:Hid (Calls Tryz.prog 76 #[.agg #[.slice C1 m1 d1,.slice C2 m2 d2]] w4 (qH w4 (sV (qM o)))):=Z8 (HOR.out.ext (HX5.out.trans HX4.out)) HOKJ.out;obtain⟨X,hXB⟩:=qf (bA (qM o));rw[qO,<-hXB.out] at HNM;have HXV:Hid (Value.string X=sV (qM o)):=by rw[Hid,hXB.out];rfl
    go_wp2_with (go_at_call 76;refine q_o ?_);refine HNM.out.mono ?_;rintro e w6 ⟨rfl,e6⟩
    have HCC:Hid (Calls Tryz.prog 47 #[.slice A8 n8 c8,.string X] w6 (qH w6 (.bool qk))):=by
     rw[HXV.out,hqk.out];refine zT (HK5.out.ext (HX4.out.trans e6)) ?_;unfold q3Y rchS;rw[XV]
     have h2:=q0U (q3C (q3v HV.out) (F0:=tgs s) s.objs.length (tgs s) [] (q_r) (fun y=>⟨.inl,fun h=>h.elim id (fun ⟨j,h1,h2,_⟩=>absurd h2 (by omega))⟩) (fun y=>⟨fun h=>(by cases h),fun ⟨j,h1,h2,_⟩=>absurd h2 (by omega)⟩) List.nodup_nil).1 (l:=s.objs.map qM) (fun y hy=>by
      obtain⟨j,hj,h3,-⟩:=((q3C (q3v HV.out) (F0:=tgs s) s.objs.length (tgs s) [] (q_r) (fun y=>⟨.inl,fun h=>h.elim id (fun ⟨j,h1,h2,_⟩=>absurd h2 (by omega))⟩) (fun y=>⟨fun h=>(by cases h),fun ⟨j,h1,h2,_⟩=>absurd h2 (by omega)⟩) List.nodup_nil).2 y).1 hy;rw[<-h3]
      exact List.mem_of_getElem? (Ze hj))
     rw[List.length_map] at h2;have:=HOK.out.no;omega
    go_wp2_with (go_at_call 47;refine q_o ?_);refine HCC.out.mono ?_;rintro e w7 ⟨rfl,e7⟩;have e47:=e6.trans e7;have HQ7:=q_h (e47.block HQ4.out);have HB7:=q_h (e47.block HB4.out)
    have HO7:Hid (ObH B w w7 (.slice Ao no co) O):=by
     obtain⟨XX,YY,h1,h2⟩:=HO4.out;exact⟨XX,YY,h1.ext e47,h2⟩
    have HP7:=q_h (HP4.out.ext e47);have HX7:=q_h (HX4.out.trans e47);clear e6 e7 e47 HCC HNM HQ4 HB4 HO4 HP4 HX4 k0 k1;cases qk with
    | false =>
     have HOF2:Hid (O=(s.objs.take (j+1)).filter (kpO s)):=by
      have h9:=HOS.out;rw[if_neg (by simp),List.append_nil] at h9;exact h9.symm
     go_wp2;go_roundw
     case rel=>exact⟨j+1,np,no,co,cp,Ao,Ap,O,by omega,by omega,by go_num,rfl,HOF2,HNP,HNO,HB7,HO7,HP7,HX7⟩
     case measure=>simp[intOf];try omega
    | true =>
     have HOF2:Hid (O ++ [o]=(s.objs.take (j+1)).filter (kpO s)):=by
      have h9:=HOS.out;rw[if_pos rfl] at h9;exact h9.symm
     have hnoj:no<=j:=by
      rw[HNO.out,HOF.out];exact q_l (List.length_filter_le _ _) (by rw[List.length_take];omega)
     obtain⟨k0,k1,-⟩:=cells2 HQ7.out;have o4:w7.cell? ⟨g9,4,none⟩=some (.slice Ao no co):=qj HB7.out 4;go_wp2_with (at_builtin;refine q_o ?_);refine qo ?_;intro w8 e8 hsz8 BJ;obtain⟨XX,YY,hG,hXY⟩:=HO7.out
     have hG2:qI 29 2 B w8 (.slice Ao no co) no (obX XX YY O.length):=by
      have h9:=hG.ext e8;rw[<-HNO.out] at h9 ⊢;exact h9
     refine zh q1N rfl _ _ 22 Tryz.underlying22 rfl (by rfl) hG2 (by rfl) (m:=1) (c:=1) (news:=[.slice C1 m1 d1,.slice C2 m2 d2]) rfl (fun j u hj=>(zq BJ j).trans (by simpa using hj)) (by simp[Value.oneCell']) (by omega) ?_;rintro v9 w9 hG9 - ⟨g8,hb8,hg8,C9⟩;have hB8:=e8.block HB7.out;have hQ8:=e8.block HQ7.out
     have hty:w8.heap.size<=g8\/∃cs t fr,w8.heap[g8]?=some (Obj.cells cs t fr)/\t≠5/\t≠27:=by
      rcases hg8 with h9|h9
      ·obtain⟨cs,h8⟩:=hG2.ownT h9;exact .inr ⟨cs,_,_,h8,by decide,by decide⟩
      ·exact .inl (by omega)
     have hne8:g8≠g9/\g8≠gq:=by
      have:=qK hB8;have:=qK hQ8
      rcases hg8 with h9|h9
      ·have:=HOWN.out g8 h9;omega
      ·omega
     have HP9:Hid (PgX B w9 (.slice Ap np cp) ((O.map obE).flatMap ZF)):=(HP7.out.ext e8).chgT C9 hty;have HO9:Hid (ObH B w w9 v9 (O ++ [o])):=ObH.snoc hXY HOR.out (by have h9:=hG9;rw[HNO.out] at h9;exact h9);have HB9:=q_h (C9.blk hB8 (by omega));have HQ9:=q_h (C9.blk hQ8 (by omega));have HX9:Hid (Ext w5 w9):=C9.ext (HX7.out.trans e8) (by omega);obtain⟨A9,c9,rfl⟩:=hG9.form;clear hG hXY hG2 hG9 hb8 hg8 C9 hty hB8 hQ8 hne8 BJ e8 hsz8 HB7 HO7 HP7 HX7 HQ7 k0 k1 o4;obtain⟨wa,Ea,Ba,Ua⟩:=qL HB9.out 4 (.slice A9 (no+1) c9);have f4:=qp HB9.out 4;have c4:=qj HB9.out 4;go_upto_region 19 with (fail);clear f4 c4 Ea;have Ca:=Ua.chg (NoU.mk HB9.out (by decide));have HBa:Hid (wa.heap[g9]?=some (.cells #[.int .i64 size,.int .i64 (seq+1),.int .i64 hf,.int .i64 0,.slice A9 (no+1) c9,.slice A2 i c2] 25 (0,0))):=Ba;have HPa:Hid (PgX B wa (.slice Ap np cp) ((O.map obE).flatMap ZF)):=HP9.out.chgT Ca (.inr ⟨_,_,_,HB9.out,by decide,by decide⟩)
     have HOa:Hid (ObH B w wa (.slice A9 (no+1) c9) (O ++ [o])):=by
      obtain⟨XX,YY,h1,h2⟩:=HO9.out;exact⟨XX,YY,h1.chgT Ca HB9.out (by decide),h2⟩
     have HQa:=q_h ((Ua.block gq (neT HB9.out HQ9.out (by decide))).trans HQ9.out);have HXa:Hid (Ext w5 wa):=Ca.ext HX9.out (by omega);clear Ba Ua Ca HB9 HP9 HO9 HQ9 HX9;obtain⟨k0,k1,-⟩:=cells2 HQa.out;have HCO:Hid (Calls Tryz.prog 65 #[.agg #[.slice C1 m1 d1,.slice C2 m2 d2]] wa (Zz wa (ZF (obE o)))):=wX (HOR.out.ext (HX5.out.trans HXa.out)) HOKJ.out;go_wp2_with (go_at_call 65;refine q_o ?_);refine HCO.out.mono ?_;rintro e wb ⟨vb,rfl,hPb,eb⟩;have hPX:PgX wa.heap.size wb vb (ZF (obE o)):=hPb;obtain⟨G2,hG2,hQ2⟩:=hPX.open;obtain⟨G1,hG1,hQ1⟩:=(HPa.out.ext eb).open;obtain⟨Ab,cb,rfl,-⟩:=hPb.form;have HBb:=q_h (eb.block HBa.out)
     have HOb:Hid (ObH B w wb (.slice A9 (no+1) c9) (O ++ [o])):=by
      obtain⟨XX,YY,h1,h2⟩:=HOa.out;exact⟨XX,YY,h1.ext eb,h2⟩
     have HXb:=q_h (HXa.out.trans eb)
     have hSa:B<=wa.heap.size:=by
      have:=qK HBa.out;have h9:=HPa.out;obtain⟨G,h8,-⟩:=h9;exact h8.1
     clear k0 k1 HCO HBa HPa HOa HQa HXa hPb hPX eb;go_wp2_with (at_builtin;refine q_o ?_);have hlE:(ZF (obE o)).length=pgN (obE o):=jk _;have hlO:((O.map obE).flatMap ZF).length=np:=by rw[q3w,<-HNP.out]
     refine zC QY rfl _ _ 44 Tryz.underlying44 rfl (by rfl) hG1 (by rfl) (q3O G2 _) hG2.newsP (q4j G2 _) (by rw[q3O,hlO,hlE];have:=HPB.out.1;omega) ?_;intro vd wd hE;have HPd:Hid (PgX B wd vd ((O.map obE).flatMap ZF++ZF (obE o))):=PgX.app hSa hG1 hQ1 hQ2 hE;obtain⟨-,-,gd,hgd,hwd,Cd⟩:=hE
     have htd:wb.heap.size<=gd\/∃cs,wb.heap[gd]?=some (Obj.cells cs 27 (0,0)):=by
      rcases hwd with h9|h9
      ·exact .inr (hG1.ownT h9)
      ·exact .inl h9
     have hnd:gd≠g9:=by
      rcases htd with h9|⟨cs,h9⟩
      ·have:=qK HBb.out;omega
      ·exact (neT h9 HBb.out (by decide)).symm
     have HBd:=q_h (Cd.blk HBb.out (by omega))
     have HOd:Hid (ObH B w wd (.slice A9 (no+1) c9) (O ++ [o])):=by
      obtain⟨XX,YY,h1,h2⟩:=HOb.out
      rcases htd with h9|⟨cs,h9⟩
      ·exact⟨XX,YY,h1.ext (Cd.ext (Ext.refl wb) h9),h2⟩
      ·exact⟨XX,YY,h1.chgT Cd h9 (by decide),h2⟩
     have HXd:Hid (Ext w5 wd):=Cd.ext HXb.out (by omega);have HEL:Hid ((O.map obE).flatMap ZF++ZF (obE o)=((O ++ [o]).map obE).flatMap ZF):=by rw[Hid,List.map_append,List.flatMap_append];simp
     rw[HEL.out] at HPd;obtain⟨O2,hO2⟩:=qf (O ++ [o]);rw[<-hO2.out] at HPd HOd HOF2;obtain⟨np2,hnp2⟩:=qf (sumP (O2.map obE))
     have hnb:np2<=np+100:=by
      rw[hnp2.out,hO2.out,List.map_append,q3A,<-HNP.out];have h9:sumP ([o].map obE)=pgN (obE o):=q3D _;rw[h9];have:=HPB.out.1;omega
     have hfd:∃A c,vd=.slice A np2 c:=by
      obtain⟨A,c,h9,-⟩:=HPd.out.form;rw[q3w,<-hnp2.out] at h9;exact⟨A,c,h9⟩
     obtain⟨Ad,cd,rfl⟩:=hfd;have HN2':Hid (no+1=O2.length):=by rw[Hid,hO2.out,List.length_append,HNO.out];rfl
     clear hG1 hG2 hQ1 hQ2 hgd hwd Cd htd hnd HBb HOb HXb HEL hSa hlE hlO;go_wp2;go_roundw
     case rel=>exact⟨j+1,np2,no+1,c9,cd,A9,Ad,O2,by omega,by omega,by go_num,rfl,HOF2,hnp2,HN2',HBd,HOd,HPd,HXd⟩
     case measure=>simp[intOf];try omega
   obtain rfl:j=n1:=by omega
   have u5:decide ((j:Int)<(j:Int))=false:=q_f (by omega)
   have HOC:Hid (O=q4n s):=by
    have h9:=HOF.out;rw[List.take_of_length_le (by have:=HN1.out;omega)] at h9;exact h9
   have q5:wr.cell? ⟨w.heap.size,5,none⟩=some (.slice A2 i c2):=qj (HX.out.block HB5.out) 5;have HU0:Hid (np=sumP (O.map obE++(s.tags.take 0).map tgE)):=by rw[Hid,List.take_zero,List.map_nil,List.append_nil];exact HNP.out
   have HP0:Hid (PgX B wr (.slice Ap np cp) ((O.map obE++(s.tags.take 0).map tgE).flatMap ZF)):=by rw[List.take_zero,List.map_nil,List.append_nil];exact HPX
   obtain⟨wL,hwL⟩:∃wL,wL=wr:=⟨_,rfl⟩
   subst hwL;clear HNP HPX HOF HK5;go_wp2_with fail;clear q5 u5
   go_loopw [10,78] (fun pv iv wr=>∃(l np' cp':Nat) (Ap':Option Addr),l<=i/\np'<=100*(j+l)/\iv=.int .i64 (l:Int)/\pv=.slice Ap' np' cp'/\Hid (np'=sumP (O.map obE++(s.tags.take l).map tgE))/\Hid (wr.heap[g9]?=some (.cells #[.int .i64 size,.int .i64 (seq+1),.int .i64 hf,.int .i64 0,.slice Ao no co,.slice A2 i c2] 25 (0,0)))/\Hid (ObH B w wr (.slice Ao no co) O)/\Hid (PgX B wr (.slice Ap' np' cp') ((O.map obE++(s.tags.take l).map tgE).flatMap ZF))/\Hid (Ext w5 wr)) (fun _ iv _=>i-(intOf iv).toNat)
   case atStart=>exact⟨0,np,cp,Ap,Nat.zero_le _,by omega,rfl,rfl,HU0,HB,HOG,HP0,HX⟩
   case round =>
    clear HU0 HB HOG HP0 HX hnp;obtain⟨l,np,cp,Ap,hli,hnp,rfl,rfl,HNP,HB,HOG,HPX,HX⟩:=hrel
    by_cases hlt:l<i
    case pos =>
     have u5:decide ((l:Int)<(i:Int))=true:=q_t (by omega);have hii:(l:Int)<(i:Int):=by omega
     have hil:l<s.tags.length:=by have:=HN2.out;omega
     obtain⟨g,off,rfl,k0,k1⟩:=(HTG.out.ext (HX5.out.trans HX.out)).get hlt;obtain⟨tg,htg⟩:=qf (s.tags.getD l default);rw[<-htg.out] at k0 k1;obtain⟨N1,hN1⟩:=qf (bA tg.name);obtain⟨N2,hN2⟩:=qf (bA tg.target);rw[qO,<-hN1.out] at k0;rw[qO,<-hN2.out] at k1;have HOT:Hid (okT tg):=by rw[Hid,htg.out];exact HOK.out.tg l hil
     have HPB:=q_h (QC HOT.out);have HTK:Hid ((s.tags.take (l+1)).map tgE=(s.tags.take l).map tgE ++ [tgE tg]):=by rw[Hid,take_snoc s.tags default hil,List.map_append,<-htg.out];rfl
     go_upto_region 24 with (fail);refine qo ?_;intro wa ea hsza BQ;obtain⟨k0,k1,-⟩:=cells2 BQ;have HBa:=q_h (ea.block HB.out)
     have HOa:Hid (ObH B w wa (.slice Ao no co) O):=by
      obtain⟨XX,YY,h1,h2⟩:=HOG.out;exact⟨XX,YY,h1.ext ea,h2⟩
     have HPa:=q_h (HPX.out.ext ea);have HXa:=q_h (HX.out.trans ea);clear ea BQ hsza HB HOG HPX HX
     have HCE:Hid (Calls Tryz.prog 113 #[.string N1,.string N2] wa (Zz wa (ZF (tgE tg)))):=by
      rw[hN1.out,hN2.out,<-qO,<-qO];exact ja HOT.out
     go_wp2_with (go_at_call 113;refine q_o ?_);refine HCE.out.mono ?_;rintro e wb ⟨vb,rfl,hPb,eb⟩;have hPX:PgX wa.heap.size wb vb (ZF (tgE tg)):=hPb;obtain⟨G2,hG2,hQ2⟩:=hPX.open;obtain⟨G1,hG1,hQ1⟩:=(HPa.out.ext eb).open;obtain⟨Ab,cb,rfl,-⟩:=hPb.form;have HBb:=q_h (eb.block HBa.out)
     have HOb:Hid (ObH B w wb (.slice Ao no co) O):=by
      obtain⟨XX,YY,h1,h2⟩:=HOa.out;exact⟨XX,YY,h1.ext eb,h2⟩
     have HXb:=q_h (HXa.out.trans eb)
     have hSa:B<=wa.heap.size:=by
      have h9:=HPa.out;obtain⟨G,h8,-⟩:=h9;exact h8.1
     clear k0 k1 HCE HBa HPa HOa HXa hPb hPX eb;go_wp2_with (at_builtin;refine q_o ?_);have hlE:(ZF (tgE tg)).length=pgN (tgE tg):=jk _;have hlO:((O.map obE++(s.tags.take l).map tgE).flatMap ZF).length=np:=by rw[q3w,<-HNP.out]
     refine zC QY rfl _ _ 44 Tryz.underlying44 rfl (by rfl) hG1 (by rfl) (q3O G2 _) hG2.newsP (q4j G2 _) (by rw[q3O,hlO,hlE];have:=HPB.out.1;omega) ?_;intro vd wd hE;have HPd:Hid (PgX B wd vd ((O.map obE++(s.tags.take l).map tgE).flatMap ZF++ZF (tgE tg))):=PgX.app hSa hG1 hQ1 hQ2 hE;obtain⟨-,-,gd,hgd,hwd,Cd⟩:=hE
     have htd:wb.heap.size<=gd\/∃cs,wb.heap[gd]?=some (Obj.cells cs 27 (0,0)):=by
      rcases hwd with h9|h9
      ·exact .inr (hG1.ownT h9)
      ·exact .inl h9
     have hnd:gd≠g9:=by
      rcases htd with h9|⟨cs,h9⟩
      ·have:=qK HBb.out;omega
      ·exact (neT h9 HBb.out (by decide)).symm
     have HBd:=q_h (Cd.blk HBb.out (by omega))
     have HOd:Hid (ObH B w wd (.slice Ao no co) O):=by
      obtain⟨XX,YY,h1,h2⟩:=HOb.out
      rcases htd with h9|⟨cs,h9⟩
      ·exact⟨XX,YY,h1.ext (Cd.ext (Ext.refl wb) h9),h2⟩
      ·exact⟨XX,YY,h1.chgT Cd h9 (by decide),h2⟩
     have HXd:Hid (Ext w5 wd):=Cd.ext HXb.out (by omega);have HEL:Hid ((O.map obE++(s.tags.take l).map tgE) ++ [tgE tg]=O.map obE++(s.tags.take (l+1)).map tgE):=by rw[Hid,HTK.out,List.append_assoc]
     have HEF:Hid ((O.map obE++(s.tags.take l).map tgE).flatMap ZF++ZF (tgE tg)=(O.map obE++(s.tags.take (l+1)).map tgE).flatMap ZF):=by
      rw[Hid,<-HEL.out,List.flatMap_append (xs:=O.map obE++(s.tags.take l).map tgE)]
      simp
     rw[HEF.out] at HPd;obtain⟨np2,hnp2⟩:=qf (sumP (O.map obE++(s.tags.take (l+1)).map tgE))
     have hnb:np2<=np+100:=by
      rw[hnp2.out,<-HEL.out,q3A _ [tgE tg],<-HNP.out,q3D];have:=HPB.out.1;omega
     have hfd:∃A c,vd=.slice A np2 c:=by
      obtain⟨A,c,h9,-⟩:=HPd.out.form;rw[q3w,<-hnp2.out] at h9;exact⟨A,c,h9⟩
     obtain⟨Ad,cd,rfl⟩:=hfd;clear hG1 hG2 hQ1 hQ2 hgd hwd Cd htd hnd HBb HOb HXb HEL HEF hSa hlE hlO;go_wp2;go_roundw
     case rel=>exact⟨l+1,np2,cd,Ad,by omega,by omega,by go_num,rfl,hnp2,HBd,HOd,HPd,HXd⟩
     case measure=>simp[intOf];try omega
    obtain rfl:l=i:=by omega
    have u5:decide ((l:Int)<(l:Int))=false:=q_f (by omega)
    have HCE:Hid (O.map obE++(s.tags.take l).map tgE=q3x s):=by
     rw[Hid,List.take_of_length_le (by have:=HN2.out;omega),HOC.out]
     rfl
    rw[HCE.out] at HNP HPX
    have hu9:(np:Int)<=used:=by
     have h1:=q46 s;have h2:=q3F HV.out;rw[<-hused.out] at h2;have:=HNP.out;omega
    have hh2:=Xw hh.1 hh.2.1;obtain⟨wa,Ea,Ba,Ua⟩:=qL HB.out 3 (.int .i64 (np:Int));have f3:=qp HB.out 3;have c3:=qj HB.out 3;go_upto_region 28 with (fail);clear f3 c3 Ea u5;have Ca:=Ua.chg (NoU.mk HB.out (by decide));have HBa:Hid (wa.heap[g9]?=some (.cells #[.int .i64 size,.int .i64 (seq+1),.int .i64 hf,.int .i64 (np:Int),.slice Ao no co,.slice A2 l c2] 25 (0,0))):=Ba;have HPa:Hid (PgX B wa (.slice Ap np cp) ((q3x s).flatMap ZF)):=HPX.out.chgT Ca (.inr ⟨_,_,_,HB.out,by decide,by decide⟩)
    have HOa:Hid (ObH B w wa (.slice Ao no co) O):=by
     obtain⟨XX,YY,h1,h2⟩:=HOG.out;exact⟨XX,YY,h1.chgT Ca HB.out (by decide),h2⟩
    have HXa:Hid (Ext w5 wa):=Ca.ext HX.out (by omega);clear Ba Ua Ca HB HPX HOG HX;obtain⟨wP,hwP⟩:∃wP,wP=wa:=⟨_,rfl⟩
    subst hwP;obtain⟨h,hh9⟩:=qf (qV size);have hb9:=yF (n:=size) (by omega) (by omega);rw[<-hh9.out] at hb9;have HH:Hid (∀w,Calls Tryz.prog 103 #[.int .i64 size] w (qH w (.int .i64 h))):=fun w=>by rw[hh9.out];exact Z9 (by omega) (by omega) w
    obtain⟨m,hm⟩:=qf (hf*h)
    have hmb : -1<=m/\m<=1000000:=by
     rw[hm.out];have:hf=0\/hf=1:=by omega
     rcases this with e|e<;>rw[e]<;>omega
    have hm2:hf*h=m:=hm.out.symm;have hw0:IntKind.i64.wrap m=m:=wrp (by omega) (by omega);have hw1:IntKind.i64.wrap (2+m)=2+m:=wrp (by omega) (by omega);have HPG:Hid (pg=2+m):=by rw[Hid,hpg.out,hm.out,hh9.out]
    obtain⟨PF,hPF⟩:=qf (fun j:Nat=>(⟨2+m+j,((q3x s).flatMap ZF).getD j [],false⟩:qX));have HPT:Hid (∀j,PF j=⟨2+m+j,((q3x s).flatMap ZF).getD j [],false⟩):=fun j=>by rw[hPF.out]
    have HA0:Hid (zG wP.heap.size wP (.slice none 0 0) 0 PF):=⟨fun _=>.int .i64 0,⟨q_r,rfl,.inl ⟨rfl,rfl⟩⟩,fun j hj=>by omega⟩
    have HQS:Hid (0<=hf/\hf<256/\0<=seq+1/\seq+1<4294967296/\0<=(np:Int)/\(np:Int)<4294967296):=by rw[Hid];omega
    have hnp3:np<=3000:=by omega
    go_wp2_with fail
    go_loopw [95,15] (fun iv ov wr=>∃(t:Nat) (A':Option Addr) (c':Nat),t<=np/\iv=.int .i64 (t:Int)/\ov=.slice A' t c'/\Hid (zG wP.heap.size wr (.slice A' t c') t PF)/\Hid (Ext wP wr)) (fun iv _ _=>np-(intOf iv).toNat)
    case atStart=>exact⟨0,none,0,Nat.zero_le _,rfl,rfl,HA0,Ext.refl wP⟩
    case round =>
     clear HA0;obtain⟨t,A',c',htn,rfl,rfl,HAI,HX⟩:=hrel
     by_cases hlt:t<np
     case pos =>
      have u3:decide ((t:Int)<(np:Int))=true:=q_t (by omega);have u4:(t:Int)<(np:Int):=by omega
      have hw4:IntKind.i64.wrap (2+m+(t:Int))=2+m+t:=wrp (by omega) (by omega);have hfl:((q3x s).flatMap ZF).length=np:=by rw[q3w,<-HNP.out]
      have HPL:Hid (PgL B wr (.slice Ap np cp) np (fun j=>((q3x s).flatMap ZF).getD j [])):=by
       have h9:=HPa.out.ext HX.out;unfold PgX at h9;rw[hfl] at h9;exact h9
      obtain⟨g,off,rfl,hx⟩:=HPL.out.addr (by omega);obtain⟨pq,k0,hq6⟩:=hx t hlt
      have HQ6:Hid (ByU wr (.slice (some ⟨pq,0,none⟩) 64 64) (PF t).data):=by
       rw[HPT.out];refine ByV.u_page hq6 ?_
       have h9:((q3x s).flatMap ZF).getD t []∈(q3x s).flatMap ZF:=by
        rw[List.getD_eq_getElem?_getD,List.getElem?_eq_getElem (by omega)];exact List.getElem_mem _
       exact q4a _ _ h9
      have HPP:Hid ((PF t).page=2+m+t/\(PF t).bar=false):=by rw[HPT.out];exact⟨rfl,rfl⟩
      have q2:wr.cell? ⟨g9,2,none⟩=some (.int .i64 hf):=qj (HX.out.block HBa.out) 2;have q0:wr.cell? ⟨w.heap.size,0,none⟩=some (.int .i64 size):=qj ((HXa.out.trans HX.out).block HB5.out) 0;obtain⟨wq,hwq⟩:∃wq,wq=wr:=⟨_,rfl⟩
      subst hwq;clear hx hq6 HPL hfl;go_upto_region 31 with (fail);clear k0 u3;have eC:=(Ext.refl wq).drew;refine ql (fun w'=>w'.cell? ⟨g9,2,none⟩=some (.int .i64 hf)/\w'.cell? ⟨w.heap.size,0,none⟩=some (.int .i64 size)) [13,14] (by kernel_rfl) (by exact⟨eC.cell q2,eC.cell q0⟩) (fun hHeld=>?_);refine sP 0 (h:=?_);refine sP 1 (h:=?_);refine sT 2 (h:=?_);refine sP 3 (h:=?_);refine sT 4 (h:=?_);refine sP 8 (h:=?_);refine sP 10 (h:=?_);refine qg (i:=5) rfl (by kernel_rfl) (fun K hK=>?_);go_simp;refine (HH.out _).mono ?_;rintro e w6 ⟨rfl,e6⟩;replace eC:=eC.trans e6;go_wp2_with fail;clear hHeld;refine hK.out _ _ (by exact⟨eC.cell q2,eC.cell q0⟩) fun hHeld=>?_
      clear hK K;try simp only[nr]
      refine sP 6 (h:=?_);refine sP 7 (h:=?_);refine sP 9 (h:=?_);refine sP 11 (h:=?_);refine qg (i:=12) rfl (by kernel_rfl) (fun K hK=>?_);go_simp
      first|refine qo ?_|refine qY ?_
      intro w7 e7 hsz7 BJ;replace eC:=eC.trans e7;have HE7:=q_h eC;clear hHeld;refine hK.out _ _ (by exact⟨eC.cell q2,eC.cell q0⟩) fun hHeld=>?_
      clear hK K;try simp only[nr]
      refine qC (i:=13) rfl (by kernel_rfl) (by kernel_rfl) (fun K hK=>?_);obtain⟨D,hD,hDB⟩:=(HAI.out.ext HE7.out)
      refine zl yI rfl _ _ 33 Tryz.underlying33 rfl (by rfl) hD (by rfl) (m:=1) (c:=1) (news:=[.int .i64 (2+m+t),.slice (some ⟨pq,0,none⟩) 64 64,.bool false]) rfl (fun j u hj=>(zq BJ j).trans (by simpa using hj)) (by simp[Value.oneCell']) (by omega) ?_;rintro v8 w8 hG8 - ⟨g8,hg8,hw8,C8⟩;have hA8:zG wP.heap.size w8 v8 (t+1) PF:=zG.snoc hD hDB (HQ6.out.ext HE7.out) (by rw[HPP.out.1,HPP.out.2];exact hG8) hw8 C8;obtain⟨A8',c8',rfl,-⟩:=hA8.form;have HA8:=q_h hA8;have HX8:Hid (Ext wP w8):=C8.ext (HX.out.trans HE7.out) hg8;clear hA8 hG8 hw8 C8 hD hDB BJ;refine hK.out _ _ ?_;clear hK K;try simp only[nr]
      refine qC (i:=14) rfl (by kernel_rfl) (by kernel_rfl) (fun K hK=>?_);go_simp;refine hK.out _ _ ?_;clear hK K;try simp only[nr]
      refine qm (by kernel_rfl) ?_ _;clear hHeld;clear eC q0 q2 hw4;go_wp2;go_roundw
      case rel=>exact⟨t+1,A8',c8',by omega,by go_num,rfl,HA8,HX8⟩
      case measure=>simp[intOf];omega
     obtain rfl:t=np:=by omega
     have u3:decide ((t:Int)<(t:Int))=false:=q_f (by omega);have HBr:=q_h (HX.out.block HBa.out);have HRr:=q_h ((HXa.out.trans HX.out).block HR5.out)
     have HOr:Hid (ObH B w wr (.slice Ao no co) O):=by
      obtain⟨XX,YY,h1,h2⟩:=HOa.out;exact⟨XX,YY,h1.ext HX.out,h2⟩
     have HXr:=q_h (HX5.out.trans (HXa.out.trans HX.out))
     have hPB:wP.heap.size<=wr.heap.size/\w.heap.size+1<wP.heap.size:=by
      have:=HX.out.size;have:=HXa.out.size;omega
     clear HX HXa HBa HOa HPa;go_upto_region 33 with (fail);obtain⟨wq,hwq⟩:∃wq,wq=wr:=⟨_,rfl⟩
     subst hwq;have HC0:Hid (Ext wq wq.drew):=(Ext.refl wq).drew;have eC:=HC0.out.block HBr.out;refine ql (fun w'=>w'.heap[g9]?=some (.cells #[.int .i64 size,.int .i64 (seq+1),.int .i64 hf,.int .i64 (t:Int),.slice Ao no co,.slice A2 l c2] 25 (0,0))) [17,18,19] (by kernel_rfl) (by exact eC) (fun hHeld=>?_);refine sT 0 (hy:=by (intro w9 hSw;have c9:=qw hSw;go_simp;(try (rw[if_pos (by omega)]));(try with_reducible rfl))) (h:=?_);refine sP 1 (h:=?_);refine sP 2 (h:=?_);refine sP 3 (h:=?_);refine sT 4 (hy:=by (intro w9 hSw;have c9:=qw hSw;go_simp;(try (rw[if_pos (by omega)]));(try with_reducible rfl))) (h:=?_);refine sP 5 (h:=?_);refine sP 6 (h:=?_);refine sT 7 (hy:=by (intro w9 hSw;have c9:=qw hSw;go_simp;(try (rw[if_pos (by omega)]));(try with_reducible rfl))) (h:=?_);refine sP 8 (h:=?_);refine sT 9 (hy:=by (intro w9 hSw;have c9:=qw hSw;go_simp;(try (rw[if_pos (by omega)]));(try with_reducible rfl))) (h:=?_);refine sP 10 (h:=?_);refine sT 11 (hy:=by (intro w9 hSw;have c9:=qw hSw;go_simp;(try (rw[if_pos (by omega)]));(try with_reducible rfl))) (h:=?_);refine sP 14 (h:=?_);refine qg (i:=12) rfl (by kernel_rfl) (fun K hK=>?_);go_simp;refine (Qp HQS.out.2.2.1 HQS.out.2.2.2.1 HQS.out.1 HQS.out.2.1 HQS.out.2.2.2.2.1 HQS.out.2.2.2.2.2).mono ?_;rintro e w6 ⟨v6,rfl,hB6,e6⟩;obtain⟨A6,c6,rfl,-⟩:=hB6.1.form;have HB6:=q_h hB6;have HC6:=q_h (HC0.out.trans e6)
     replace eC:=e6.block eC;clear hB6;go_wp2_with fail;clear hHeld;refine hK.out _ _ (by exact eC) fun hHeld=>?_
     clear hK K;try simp only[nr]
     refine sP 13 (h:=?_);refine qg (i:=15) rfl (by kernel_rfl) (fun K hK=>?_);go_simp
     first|refine qo ?_|refine qY ?_
     intro w7 e7 hsz7 BJ;replace eC:=e7.block eC;have HE7:=q_h (HC6.out.trans e7);have HB7:=q_h (HB6.out.ext e7);clear hHeld;refine hK.out _ _ (by exact eC) fun hHeld=>?_
     clear hK K;try simp only[nr]
     refine qg (i:=16) rfl (by kernel_rfl) (fun K hK=>?_);obtain⟨D,hD,hDB⟩:=(HAI.out.ext HE7.out)
     refine zl yI rfl _ _ 33 Tryz.underlying33 rfl (by rfl) hD (by rfl) (m:=3) (c:=3) (news:=[.int .i64 0,.slice none 0 0,.bool true,.int .i64 ((seq+1).tmod 2),.slice A6 (jq (seq+1) hf (t:Int)).length c6,.bool false,.int .i64 0,.slice none 0 0,.bool true]) rfl (fun j u hj=>(zq BJ j).trans (by simpa using hj)) (by simp[Value.oneCell']) (by omega) ?_;rintro v8 w8 hG8 - ⟨g8,hg8,hw8,C8⟩;have hA8:zG wP.heap.size w8 v8 (t+3) (vT t PF (Zr (seq+1) hf (t:Int))):=zG.three hD hDB (nilU _) HB7.out (nilU _) hG8 hw8 C8;have HA8:=q_h hA8;have HX8:Hid (Ext w w8):=C8.ext (HXr.out.trans HE7.out) (by omega);have HC8:=q_h (C8.blk (HE7.out.block HRr.out) (by have:=qI.ne hD hw8 (HE7.out.block HRr.out) (by decide);omega))
     have HO8:Hid (ObH B w w8 (.slice Ao no co) O):=by
      obtain⟨XX,YY,h1,h2⟩:=HOr.out
      rcases hw8 with h9|h9
      ·obtain⟨cs,h8⟩:=hD.ownT h9;exact⟨XX,YY,(h1.ext HE7.out).chgT C8 h8 (by decide),h2⟩
      ·exact⟨XX,YY,(h1.ext HE7.out).ext (C8.ext (Ext.refl w7) (by omega)),h2⟩
     replace eC:=C8.blk eC (by have:=qI.ne hD hw8 eC (by decide);omega);clear hA8 hG8 hw8 C8 hD hDB BJ;clear hHeld;refine hK.out _ _ (by exact eC) fun hHeld=>?_
     clear hK K;try simp only[nr]
     refine qC (i:=17) rfl (by kernel_rfl) (by kernel_rfl) (fun K hK=>?_);refine qF rfl 25 _ _ rfl (by rfl) (by rfl) HC8.out qJ (by rfl) (by rfl) (by rfl) ?_;intro w9 B9 U9;refine hK.out _ _ ?_;clear hK K;try simp only[nr]
     refine qC (i:=18) rfl (by kernel_rfl) (by kernel_rfl) (fun K hK=>?_);go_simp;refine hK.out _ _ ?_;clear hK K;try simp only[nr]
     refine qC (i:=19) rfl (by kernel_rfl) (by kernel_rfl) (fun K hK=>?_);go_simp;refine hK.out _ _ ?_;clear hK K;try simp only[nr]
     refine qm (by kernel_rfl) ?_ _;clear hHeld;clear eC;obtain⟨x0,x1,x2,x3,x4,x5⟩:=qw B9;obtain⟨A9,c9,rfl,-⟩:=HA8.out.form
     have HP:Hid (colS s=(⟨size,seq+1,hf,(t:Int),O,s.tags⟩,wrL pg (q3x s)++Zr (seq+1) hf (t:Int),0)):=by
      rw[Hid];unfold colS;rw[HV.out,if_neg (by simp),if_neg (by rw[<-hseq.out];exact hq),<-HNP.out,<-hsize.out,<-hseq.out,<-hhalf.out,<-hhf.out,hpg.out,HOC.out]
     go_wp2;refine bodyPost_ret (v:=.tuple #[.agg #[.int .i64 size,.int .i64 (seq+1),.int .i64 hf,.int .i64 (t:Int),.slice Ao no co,.slice A2 l c2],.slice A9 (t+3) c9,.int .i64 0]) ?_ rfl ?_
     ·simp[results,x0,x1,x2,x3,x4,x5,go_sem]
     ·rw[hR.out];have C9:=U9.chg (NoU.mk HC8.out (by decide));have HX9:=C9.ext HX8.out (by omega);refine⟨_,.slice A9 (t+3) c9,by rw[HP.out],?_,?_,HX9⟩
      ·rw[HP.out];refine⟨_,_,rfl,?_,HTG.out.ext HX9⟩;obtain⟨XX,YY,h1,h2⟩:=HO8.out;exact ObH.obs (base:=B) (w0:=w) ⟨XX,YY,h1.chgT C9 HC8.out (by decide),h2⟩ HX9
      ·rw[HP.out];have h9:=HA8.out.chgT C9 HC8.out (by decide) (by decide);have h8:=zG.list (base:=wP.heap.size) (M:=Zr (seq+1) hf (t:Int)) h9
       have h7:(List.range t).map PF=wrL pg (q3x s):=by
        rw[HPG.out,<-q3E,<-HNP.out,hPF.out]
       rw[h7] at h8;exact h8
theorem q4u {s t:Shf}{e:Byt}{acts:List qX}(h:QM s e=some (t,acts)):t.objs=s.objs/\t.tags=s.tags/\acts=wrA e (2+s.half*qV s.size+s.used)++comA t:=by
 unfold QM at h
 split at h
 ·cases h
 ·injection h with h
  injection h with h1 h2
  subst h1;exact⟨rfl,rfl,h2.symm⟩
structure q3G (r:Shf×List qX×Int):Prop where
 ob:∀i,i<r.1.objs.length->Ok0 (r.1.objs.getD i default)
 no:r.1.objs.length<=1000
 nt:r.1.tags.length<=1000
 da:∀a∈r.2.1,a.data.length<=1000000000
 na:r.2.1.length<=1000000
theorem q3G.bad (c:Int):q3G (zeroS,[],c):=⟨fun i hi=>absurd hi (Nat.not_lt_zero i),Nat.zero_le _,Nat.zero_le _,(fun a ha=>by cases ha),Nat.zero_le _⟩
theorem q4A {seq half used:Int}:∀a∈Zr seq half used,a.data.length<=1000000000:=fun a h9=>by
 unfold Zr at h9;simp only[List.mem_cons,List.mem_nil_iff,or_false] at h9
 rcases h9 with rfl|rfl|rfl
 ·exact Nat.zero_le _
 ·show (jq _ _ _).length<=_
  rw[vG];omega
 ·exact Nat.zero_le _
theorem q4C {s:Shf}{k t:Byt}(h:OkS s) (ht:s.tags.length<=900) (hl1:k.length<=300) (hl2:t.length<=300):q3G (yu s k t):=by
 have hno:=h.no;unfold yu
 split
 ·exact q3G.bad _
 split
 ·exact q3G.bad _
 split
 ·exact q3G.bad _
 split
 ·exact⟨h.ob,(show s.objs.length<=1000 by omega),(show s.tags.length<=1000 by omega),(fun a ha=>by cases ha),Nat.zero_le _⟩
 ·split
  ·exact q3G.bad _
  ·rename_i u acts hap
   obtain⟨e1,e2,e3⟩:=q4u hap;have hpn:=(QC (t:=⟨k,t⟩) ⟨hl1,hl2⟩).1;refine⟨fun i hi=>?_,?_,?_,fun a ha=>?_,?_⟩
   ·have hi':i<u.objs.length:=hi
    show Ok0 (u.objs.getD i default)
    rw[e1] at hi' ⊢;exact h.ob i hi'
   ·show u.objs.length<=1000
    rw[e1];omega
   ·show (yw s.tags k t).length<=1000
    have:=q4y (k:=k) (t:=t) (VF s.tags k);omega
   ·have ha':a∈acts:=ha;rw[e3] at ha'
    rcases List.mem_append.1 ha' with h9|h9
    ·unfold wrA at h9;obtain⟨j,-,rfl⟩:=List.mem_map.1 h9
     show (((vk (tgE ⟨k,t⟩)).drop (64*j)).take 64).length<=_
     rw[List.length_take];omega
    ·exact q4A (seq:=u.seq) (half:=u.half) (used:=u.used) a h9
   ·show acts.length<=_
    rw[e3];unfold wrA comA;rw[List.length_append,List.length_map,List.length_range]
    show pgN (tgE ⟨k,t⟩)+3<=_
    omega
theorem q4K {s:Shf}(h:OkS s):q3G (colS s):=by
 have hno:=h.no;have hnt:=h.nt;unfold colS
 split
 ·exact q3G.bad _
 split
 ·exact q3G.bad _
 rename_i hv hq
 have hv':qE s=true:=by simpa using hv
 have hh:=yx hv';have h1:=q46 s;have h2:=q3F hv';have h3:=Xw hh.1 hh.2.1;refine⟨fun i hi=>?_,?_,hnt,fun a ha=>?_,?_⟩
 ·have hi':i<(q4n s).length:=hi
  show Ok0 ((q4n s).getD i default)
  rw[List.getD_eq_getElem?_getD,List.getElem?_eq_getElem hi'];have hm:(q4n s)[i]∈s.objs:=(List.mem_filter.1 (List.getElem_mem hi')).1;obtain⟨j,hj,e⟩:=List.getElem_of_mem hm;have h9:=h.ob j hj;rw[List.getD_eq_getElem?_getD,List.getElem?_eq_getElem hj] at h9
  show Ok0 (q4n s)[i]
  rw[<-e];exact h9
 ·show (q4n s).length<=1000
  have:=List.length_filter_le (kpO s) s.objs;unfold q4n;omega
 ·rcases List.mem_append.1 (show a∈wrL (2+(1-s.half)*qV s.size) (q3x s)++Zr (s.seq+1) (1-s.half) (sumP (q3x s):Int) from ha) with h9|h9
  ·rw[<-q3E] at h9;obtain⟨j,hj,rfl⟩:=List.mem_map.1 h9;have hj':=List.mem_range.1 hj
   show (((q3x s).flatMap ZF).getD j []).length<=_
   have hjl:j<((q3x s).flatMap ZF).length:=by rw[q3w];exact hj'
   rw[List.getD_eq_getElem?_getD,List.getElem?_eq_getElem hjl];have:=q4a (q3x s) _ (List.getElem_mem hjl)
   show (((q3x s).flatMap ZF)[j]'hjl).length<=_
   omega
  ·exact q4A a h9
 ·show (wrL (2+(1-s.half)*qV s.size) (q3x s)++Zr (s.seq+1) (1-s.half) (sumP (q3x s):Int)).length<=_
  rw[List.length_append,q3r]
  show _+3<=_
  omega
theorem q4m {s:Shf}(h:fewS s=true):s.tags.length<=12:=by
 unfold fewS at h;simp only[Bool.and_eq_true,decide_eq_true_eq] at h;exact h.2.1
theorem q3P {s:Shf}{tag tgt:Byt}{A1 A2:Option Addr}{n1 c1 n2 c2:Nat}(hO:yJ w (.slice A1 n1 c1) s.objs) (hTg:jK w (.slice A2 n2 c2) s.tags) (he:kS w.heap.size w) (hl:LnSh s) (hl1:LnS tag) (hl2:LnS tgt)
  (hk:∀w',Ext w w'->Calls Tryz.prog 10 #[] w' (qH w' (.bool true))) :
  Calls Tryz.prog 9 #[.agg #[.int .i64 s.size,.int .i64 s.seq,.int .i64 s.half,.int .i64 s.used,.slice A1 n1 c1,.slice A2 n2 c2],sV tag,sV tgt] w (qH w (.bool true)):=by
 have HO:=q_h hO;have HTG:=q_h hTg;have HEV:=q_h he;have HK:=q_h hk;have HCF:Hid (∀w',Ext w w'->Calls Tryz.prog 11 #[.agg #[.int .i64 s.size,.int .i64 s.seq,.int .i64 s.half,.int .i64 s.used,.slice A1 n1 c1,.slice A2 n2 c2]] w' (qH w' (.bool (fewS s)))):=fun w' e=>q0Y (HO.out.ext e) (HTG.out.ext e) hl
 have HC1:Hid (OkS s->tag.length<=300->tgt.length<=300->∀w',Ext w w'->Calls Tryz.prog 48 #[.agg #[.int .i64 s.size,.int .i64 s.seq,.int .i64 s.half,.int .i64 s.used,.slice A1 n1 c1,.slice A2 n2 c2],sV tag,sV tgt] w' (q18 (yu s tag tgt) w')):=fun h1 h2 h3 w' e=>(q1i X7 (HO.out.ext e) (HTG.out.ext e) h1 h2 h3 ((HEV.out.ext e).low e.size)).mono fun _ _ h9=>h9.v
 have HC2:Hid (OkS s->tag.length<=300->tgt.length<=300->∀w',Ext w w'->Calls Tryz.prog 49 #[.agg #[.int .i64 s.size,.int .i64 s.seq,.int .i64 s.half,.int .i64 s.used,.slice A1 n1 c1,.slice A2 n2 c2],sV tag,sV tgt] w' (q18 (yu s tag tgt) w')):=fun h1 h2 h3 w' e=>q2e (HO.out.ext e) (HTG.out.ext e) h1 h2 h3
 have HC3:Hid (OkS s->∀w',Ext w w'->Calls Tryz.prog 50 #[.agg #[.int .i64 s.size,.int .i64 s.seq,.int .i64 s.half,.int .i64 s.used,.slice A1 n1 c1,.slice A2 n2 c2]] w' (q18 (colS s) w')):=fun h1 w' e=>(q3U X7 (HO.out.ext e) (HTG.out.ext e) h1 ((HEV.out.ext e).low e.size)).mono fun _ _ h9=>h9.v
 have HC4:Hid (OkS s->∀w',Ext w w'->Calls Tryz.prog 51 #[.agg #[.int .i64 s.size,.int .i64 s.seq,.int .i64 s.half,.int .i64 s.used,.slice A1 n1 c1,.slice A2 n2 c2]] w' (q18 (colS s) w')):=fun h1 w' e=>q44 (HO.out.ext e) (HTG.out.ext e) h1
 obtain⟨size,hsize⟩:=qf s.size;obtain⟨seq,hseq⟩:=qf s.seq;obtain⟨half,hhalf⟩:=qf s.half;obtain⟨used,hused⟩:=qf s.used;obtain⟨fs,hfs⟩:=qf (fewS s);obtain⟨K,hK9⟩:=qf (bA tag);obtain⟨K2,hK29⟩:=qf (bA tgt);have HKV:Hid (Value.string K=sV tag):=by rw[Hid,hK9.out];rfl
 have HKV2:Hid (Value.string K2=sV tgt):=by rw[Hid,hK29.out];rfl
 have hb1:K.size<=4611686018427387903:=by rw[hK9.out,JB];unfold LnS at hl1;omega
 have hb2:K2.size<=4611686018427387903:=by rw[hK29.out,JB];unfold LnS at hl2;omega
 have HKS:Hid (K.size=tag.length/\K2.size=tgt.length):=by rw[Hid,hK9.out,hK29.out,JB,JB];exact⟨rfl,rfl⟩
 rw[<-HKV.out,<-HKV2.out] at HC1 HC2 ⊢;rw[<-hsize.out,<-hseq.out,<-hhalf.out,<-hused.out] at HCF HC1 HC2 HC3 HC4 ⊢;rw[<-hfs.out] at HCF;clear hO hTg he hl hl1 hl2 hk;go_enter Tryz.func9,Tryz.ntmps9;go_upto_region 1 with (fail);refine qo ?_;intro w1 hE hsz B0;have HX1:=q_h hE;have HB1:=q_h B0;clear hE B0;go_wp2_with (go_at_call 10;refine q_o ?_);refine (HK.out w1 HX1.out).mono ?_;rintro e w2 ⟨rfl,e2⟩;have HX2:=q_h (HX1.out.trans e2);have HB2:=q_h (e2.block HB1.out);clear e2 HX1 HB1 HK;obtain⟨p0,p1,p2,p3,p4,p5⟩:=qw HB2.out;have hww:IntKind.i64.wrap ((K.size:Int)+(K2.size:Int))=(K.size:Int)+K2.size:=wrp (by omega) (by omega);go_wp2_with (go_at_call 11;refine q_o ?_);refine (HCF.out w2 HX2.out).mono ?_;rintro e w3 ⟨rfl,e3⟩;have HXw3:=q_h (HX2.out.trans e3);have HBw3:=q_h (e3.block HB2.out);clear e3 HX2 HB2 HCF p0 p1 p2 p3 p4 p5;cases fs with
 | false =>
  go_wp2
  first|go_ret|skip
  exact⟨rfl,HXw3.out⟩
 | true =>
 have HOS:=q_h (fewS.ok hfs.out.symm);have HTL:=q_h (q4m hfs.out.symm)
 by_cases h200:200<K.size+K2.size
 ·have u1:decide ((200:Int)<(K.size:Int)+(K2.size:Int))=true:=q_t (by omega);go_wp2
  first|go_ret|skip
  exact⟨rfl,HXw3.out⟩
 have u1:decide ((200:Int)<(K.size:Int)+(K2.size:Int))=false:=q_f (by omega);have HL3:Hid (tag.length<=300/\tgt.length<=300):=by have:=HKS.out;rw[Hid];omega
 replace HC1:=q_h (HC1.out HOS.out HL3.out.1 HL3.out.2);replace HC2:=q_h (HC2.out HOS.out HL3.out.1 HL3.out.2);replace HC3:=q_h (HC3.out HOS.out);replace HC4:=q_h (HC4.out HOS.out);have HPA:=q_h (q4C HOS.out (by have:=HTL.out;omega) HL3.out.1 HL3.out.2);have HPB:=q_h (q4K HOS.out);obtain⟨ra,hra⟩:=qf (yu s tag tgt);obtain⟨za,hza⟩:=qf ra.2.2;obtain⟨m1a,hm1a⟩:=qf ra.1.objs.length;obtain⟨m2a,hm2a⟩:=qf ra.1.tags.length;obtain⟨rsa,hrsa⟩:=qf ra.1.size;obtain⟨rqa,hrqa⟩:=qf ra.1.seq;obtain⟨rha,hrha⟩:=qf ra.1.half;obtain⟨rua,hrua⟩:=qf ra.1.used;obtain⟨rb,hrb⟩:=qf (colS s);obtain⟨zb,hzb⟩:=qf rb.2.2;obtain⟨m1b,hm1b⟩:=qf rb.1.objs.length;obtain⟨m2b,hm2b⟩:=qf rb.1.tags.length;obtain⟨rsb,hrsb⟩:=qf rb.1.size;obtain⟨rqb,hrqb⟩:=qf rb.1.seq;obtain⟨rhb,hrhb⟩:=qf rb.1.half;obtain⟨rub,hrub⟩:=qf rb.1.used;rw[<-hra.out] at HC1 HC2 HPA;rw[<-hrb.out] at HC3 HC4 HPB;obtain⟨p0,p1,p2,p3,p4,p5⟩:=qw HBw3.out;go_wp2_with (go_at_call 48;refine q_o ?_);refine (HC1.out w3 HXw3.out).mono ?_;rintro e wv ⟨sv,sa,rfl,hsv,hsa,ee⟩;obtain⟨Sx,Sy,rfl,hso,hst⟩:=hsv;obtain⟨F1,f1,rfl,-⟩:=hso.form;obtain⟨G1,g1,rfl,-⟩:=hst.form;rw[<-hm1a.out] at hso ⊢;rw[<-hm2a.out] at hst ⊢;rw[<-hrsa.out,<-hrqa.out,<-hrha.out,<-hrua.out,<-hza.out];have HSO:=q_h hso;have HST:=q_h hst;have HSA:=q_h hsa;have HEE:=q_h ee;clear hso hst hsa ee p0 p1 p2 p3 p4 p5
 go_upto_region 6 with (fail);refine qo ?_;intro w4 eb hszb BP;obtain⟨b1,hb1⟩:=qf wv.heap.size;rw[<-hb1.out] at BP ⊢;have HP1:=q_h BP;have HE1:Hid (Ext w3 w4):=HEE.out.trans eb;have HXw4:=q_h (HXw3.out.trans HE1.out);have HBw4:=q_h (HE1.out.block HBw3.out);have HV1:Hid (q0A w4 (.agg #[.int .i64 rsa,.int .i64 rqa,.int .i64 rha,.int .i64 rua,.slice F1 m1a f1,.slice G1 m2a g1]) ra.1):=⟨_,_,by rw[hrsa.out,hrqa.out,hrha.out,hrua.out],HSO.out.ext eb,HST.out.ext eb⟩
 have HA1:=q_h (HSA.out.ext eb);clear eb BP hszb HSO HST HSA HEE;clear hww u1 h200 hb1 hb2;obtain⟨p0,p1,p2,p3,p4,p5⟩:=qw HBw4.out;go_wp2_with (go_at_call 49;refine q_o ?_);refine (HC2.out w4 HXw4.out).mono ?_;rintro e wv ⟨sv,sa,rfl,hsv,hsa,ee⟩;obtain⟨Sx,Sy,rfl,hso,hst⟩:=hsv;obtain⟨F2,f2,rfl,-⟩:=hso.form;obtain⟨G2,g2,rfl,-⟩:=hst.form;rw[<-hm1a.out] at hso ⊢;rw[<-hm2a.out] at hst ⊢;rw[<-hrsa.out,<-hrqa.out,<-hrha.out,<-hrua.out,<-hza.out];have HSO:=q_h hso;have HST:=q_h hst;have HSA:=q_h hsa;have HEE:=q_h ee;clear hso hst hsa ee p0 p1 p2 p3 p4 p5;go_upto_region 7 with (fail);refine qo ?_;intro w5 eb hszb BP;obtain⟨b2,hb2⟩:=qf wv.heap.size;rw[<-hb2.out] at BP ⊢;have HP2:=q_h BP;have HE2:Hid (Ext w4 w5):=HEE.out.trans eb;have HXw5:=q_h (HXw4.out.trans HE2.out);have HBw5:=q_h (HE2.out.block HBw4.out);have HV2:Hid (q0A w5 (.agg #[.int .i64 rsa,.int .i64 rqa,.int .i64 rha,.int .i64 rua,.slice F2 m1a f2,.slice G2 m2a g2]) ra.1):=⟨_,_,by rw[hrsa.out,hrqa.out,hrha.out,hrua.out],HSO.out.ext eb,HST.out.ext eb⟩
 have HA2:=q_h (HSA.out.ext eb);clear eb BP hszb HSO HST HSA HEE;obtain⟨p0,p1,p2,p3,p4,p5⟩:=qw HBw5.out;go_wp2_with (go_at_call 50;refine q_o ?_);refine (HC3.out w5 HXw5.out).mono ?_;rintro e wv ⟨sv,sa,rfl,hsv,hsa,ee⟩;obtain⟨Sx,Sy,rfl,hso,hst⟩:=hsv;obtain⟨F3,f3,rfl,-⟩:=hso.form;obtain⟨G3,g3,rfl,-⟩:=hst.form;rw[<-hm1b.out] at hso ⊢;rw[<-hm2b.out] at hst ⊢;rw[<-hrsb.out,<-hrqb.out,<-hrhb.out,<-hrub.out,<-hzb.out];have HSO:=q_h hso;have HST:=q_h hst;have HSA:=q_h hsa;have HEE:=q_h ee;clear hso hst hsa ee p0 p1 p2 p3 p4 p5;go_upto_region 8 with (fail);refine qo ?_;intro w6 eb hszb BP;obtain⟨b3,hb3⟩:=qf wv.heap.size;rw[<-hb3.out] at BP ⊢;have HP3:=q_h BP;have HE3:Hid (Ext w5 w6):=HEE.out.trans eb;have HXw6:=q_h (HXw5.out.trans HE3.out);have HBw6:=q_h (HE3.out.block HBw5.out);have HV3:Hid (q0A w6 (.agg #[.int .i64 rsb,.int .i64 rqb,.int .i64 rhb,.int .i64 rub,.slice F3 m1b f3,.slice G3 m2b g3]) rb.1):=⟨_,_,by rw[hrsb.out,hrqb.out,hrhb.out,hrub.out],HSO.out.ext eb,HST.out.ext eb⟩
 have HA3:=q_h (HSA.out.ext eb);clear eb BP hszb HSO HST HSA HEE;obtain⟨p0,p1,p2,p3,p4,p5⟩:=qw HBw6.out;go_wp2_with (go_at_call 51;refine q_o ?_);refine (HC4.out w6 HXw6.out).mono ?_;rintro e wv ⟨sv,sa,rfl,hsv,hsa,ee⟩;obtain⟨Sx,Sy,rfl,hso,hst⟩:=hsv;obtain⟨F4,f4,rfl,-⟩:=hso.form;obtain⟨G4,g4,rfl,-⟩:=hst.form;rw[<-hm1b.out] at hso ⊢;rw[<-hm2b.out] at hst ⊢;rw[<-hrsb.out,<-hrqb.out,<-hrhb.out,<-hrub.out,<-hzb.out];have HSO:=q_h hso;have HST:=q_h hst;have HSA:=q_h hsa;have HEE:=q_h ee;clear hso hst hsa ee p0 p1 p2 p3 p4 p5;go_upto_region 9 with (fail);refine qo ?_;intro w7 eb hszb BP;obtain⟨b4,hb4⟩:=qf wv.heap.size;rw[<-hb4.out] at BP ⊢;have HP4:=q_h BP;have HE4:Hid (Ext w6 w7):=HEE.out.trans eb;have HXw7:=q_h (HXw6.out.trans HE4.out);have HBw7:=q_h (HE4.out.block HBw6.out);have HV4:Hid (q0A w7 (.agg #[.int .i64 rsb,.int .i64 rqb,.int .i64 rhb,.int .i64 rub,.slice F4 m1b f4,.slice G4 m2b g4]) rb.1):=⟨_,_,by rw[hrsb.out,hrqb.out,hrhb.out,hrub.out],HSO.out.ext eb,HST.out.ext eb⟩
 have HA4:=q_h (HSA.out.ext eb);clear eb BP hszb HSO HST HSA HEE;have HE27:=q_h (HE3.out.trans HE4.out);have HE17:=q_h (HE2.out.trans HE27.out);have v1:(za == za)=true:=by simp
 have v2:decide (za=za)=true:=decide_eq_true rfl;have v3:(zb == zb)=true:=by simp
 have v4:decide (zb=zb)=true:=decide_eq_true rfl;obtain⟨p0,p1,p2,p3,p4,p5⟩:=qw (HE17.out.block HP1.out);obtain⟨k0,k1,k2,k3,k4,k5⟩:=qw (HE27.out.block HP2.out);go_wp2_with (go_at_call 17;refine q_o ?_);refine (q02 (HV1.out.ext HE17.out) (HV2.out.ext HE27.out) (.inr HPA.out.ob) HPA.out.no HPA.out.nt).mono ?_;rintro e wb ⟨rfl,eb⟩;have HEb:=q_h eb;clear eb p0 p1 p2 p3 p4 p5 k0 k1 k2 k3 k4 k5;go_wp2_with (go_at_call 18;refine q_o ?_);refine (q0Z (HA1.out.ext (HE17.out.trans HEb.out)) (HA2.out.ext (HE27.out.trans HEb.out)) (fun i hi=>HPA.out.da _ (by rw[List.getD_eq_getElem?_getD,List.getElem?_eq_getElem hi];exact List.getElem_mem hi)) HPA.out.na).mono ?_;rintro e wc ⟨rfl,ec⟩;have HEc:=q_h (HEb.out.trans ec);clear ec;obtain⟨p0,p1,p2,p3,p4,p5⟩:=qw ((HE4.out.trans HEc.out).block HP3.out);obtain⟨k0,k1,k2,k3,k4,k5⟩:=qw (HEc.out.block HP4.out);go_wp2_with (go_at_call 17;refine q_o ?_);refine (q02 (HV3.out.ext (HE4.out.trans HEc.out)) (HV4.out.ext HEc.out) (.inr HPB.out.ob) HPB.out.no HPB.out.nt).mono ?_;rintro e wd ⟨rfl,ed⟩;have HEd:=q_h (HEc.out.trans ed);clear ed p0 p1 p2 p3 p4 p5 k0 k1 k2 k3 k4 k5;go_wp2_with (go_at_call 18;refine q_o ?_);refine (q0Z (HA3.out.ext (HE4.out.trans HEd.out)) (HA4.out.ext HEd.out) (fun i hi=>HPB.out.da _ (by rw[List.getD_eq_getElem?_getD,List.getElem?_eq_getElem hi];exact List.getElem_mem hi)) HPB.out.na).mono ?_;rintro e we ⟨rfl,ee⟩;have HEe:=q_h (HEd.out.trans ee)
 clear ee;go_wp2
 first|go_ret|skip
 exact⟨rfl,HXw7.out.trans HEe.out⟩
end
section
open Go.ChangeShapes Go.WideShapes Go.ChangeAt Go.RowKit Go.Joins
theorem q49 {H:Type}{enc:TypeId×Value->H}{spare:Nat->Bool}{held:Bool}{r:Reach}{b0:Nat}{d:DataW H}{p:List MemPlace}(hv:Value.okWide Tryz.prog w r b0 9 v) (h:DataW.Trod enc Tryz.prog w 0 spare held 9 v d p) (hz:∀k∈d.weights Tryz.prog 9,k<=reachBytes):∃l:Byt,v=sV l/\LnS l:=by
 obtain⟨s,rfl⟩:=okWide_string Tryz.underlying9 hv;obtain⟨fuel,hf⟩:=h;exact q3u (x:=(d,p)) hf hz
theorem q4l (os:Os) (started:os.Started) (H:Type) (enc:TypeId×Value->H) :
  ReturnsInHanded {} Tryz.checked os 9 .any (fun w args=>(Rows.storeTagsSpec.pre enc Tryz.prog Tryz.f9 [] false w args/\laidMetH Tryz.prog q43 w)/\sizedMet enc Tryz.prog Tryz.f9 (OpenSpec.ofChange Rows.storeTagsSpec) false w args) (Rows.storeTagsSpec.post enc Tryz.prog Tryz.f9 false true false false):=by
 refine returnsInHanded_of_change_and (C:=Tryz.checked) (X:=fun w _=>laidMetH Tryz.prog q43 w) (fun _ _ _ hh h=>h.of_heap hh) own started (by kernel_rfl) Tryz.func9
  (ChangeSpec.witness_shaped (enc:=enc) (C:=Tryz.checked) (os:=os) (X:=fun w _=>laidMetH Tryz.prog q43 w) false (World.doorLaid Tryz.prog 86 os) #[.agg #[.int .i64 0,.int .i64 0,.int .i64 0,.int .i64 0,.slice none 0 0,.slice none 0 0],.string ⟨#[]⟩,.string ⟨#[]⟩] 8 rfl (World.shaped_of_RefB (by kernel_rfl) (by kernel_rfl)) (by kernel_rfl) (by kernel_rfl) (by kernel_rfl) (door_met os _)) ?_
 intro W base args ds gs before hval0 hW hcnd hsz hL _;have hval:∀(j:Nat) t v,Tryz.f9.params[j]?=some t->args[j]?=some v->Value.okWide Tryz.prog W .any base t v:=hval0;have hW':=hW;obtain⟨p,q,hA0,hV,rfl,hfz,hnd⟩:=hW;have hA:DataW.TrodAll enc Tryz.prog W 0 (fun _=>true) true Tryz.f9.params.toList args.toList ds p:=hA0;have hpar:=Tryz.params9;rw[hpar] at hA hval hsz;obtain⟨v0,vs0,d0,ds0,p0,q0,hargs,rfl,rfl,h0,r0⟩:=trodAll_cons hA;obtain⟨v1,vs1,d1,ds1,p1,q1,rfl,rfl,rfl,h1,r1⟩:=trodAll_cons r0;obtain⟨v2,vs2,d2,ds2,p2,q2,rfl,rfl,rfl,h2,r2⟩:=trodAll_cons r1;obtain⟨rfl,rfl,rfl⟩:=trodAll_nil r2;obtain rfl:args=#[v0,v1,v2]:=by cases args;simp_all
 obtain⟨rfl,rfl⟩:=trodVars_none hV;have k0:=h0;have lt0:∀x∈p0,x.block<W.heap.size:=by obtain⟨m,hm⟩:=k0;exact DataW.trod_lt m _ _ _ hm
 have k1:=h1;have lt1:∀x∈p1,x.block<W.heap.size:=by obtain⟨m,hm⟩:=k1;exact DataW.trod_lt m _ _ _ hm
 have k2:=h2;have lt2:∀x∈p2,x.block<W.heap.size:=by obtain⟨m,hm⟩:=k2;exact DataW.trod_lt m _ _ _ hm
 obtain⟨s,A1,n1,c1,A2,n2,c2,rfl,hO,hTg,hln⟩:=q4x (hval 0 25 v0 rfl rfl) h0 (fun k hk=>by
  have:=List.all_eq_true.1 hsz k (DataW.weights_mem_each (j:=0) rfl rfl k hk)
  simpa using this)
 obtain⟨l1,rfl,hl1⟩:=q49 (hval 1 9 v1 rfl rfl) h1 (fun k hk=>by
  have:=List.all_eq_true.1 hsz k (DataW.weights_mem_each (j:=1) rfl rfl k hk)
  simpa using this)
 obtain⟨l2,rfl,hl2⟩:=q49 (hval 2 9 v2 rfl rfl) h2 (fun k hk=>by
  have:=List.all_eq_true.1 hsz k (DataW.weights_mem_each (j:=2) rfl rfl k hk)
  simpa using this)
 have he:=q45 hL;clear hA0 hval0 hsz;refine (q3P hO hTg he hln hl1 hl2 (fun w' e=>q2J ((he.ext e).low e.size))).mono fun e W' hh=>?_
 obtain⟨rfl,bel⟩:=hh;exact⟨_,rfl,_,_,_,[],_,[],hW',trodAll_mk1 (shut_bool Tryz.underlying4 _),(trodAll_cons_mk (Below.trod laidOut (by kernel_rfl) (of_decide_eq_true (by kernel_rfl)) k0 bel lt0) (trodAll_cons_mk (Below.trod laidOut (by kernel_rfl) (of_decide_eq_true (by kernel_rfl)) k1 bel lt1) (trodAll_cons_mk (Below.trod laidOut (by kernel_rfl) (of_decide_eq_true (by kernel_rfl)) k2 bel lt2) trodAll_mk0))),rfl,bel.below.frame _,fun h=>by cases h⟩
end
end Go.Proofs.YtdeeekdbhhenpaaGreatDoor
