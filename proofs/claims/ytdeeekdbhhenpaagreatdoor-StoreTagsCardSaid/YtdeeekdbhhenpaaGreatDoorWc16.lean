import Derived.Test.YtdeeekdbhhenpaaGreatDoorWc15
import Derived.Sort.Walk0
import Derived.RunT
import Derived.Calls
import Derived.Shelf.SlSortCmp.NoneTotal
import Derived.Deep.RegionLaw
import Derived.Lib.SliceRun
import Derived.Laws.CopyRow
import Derived.Laws.Externs
set_option linter.all false
set_option maxHeartbeats 8000000
set_option maxRecDepth 100000
namespace Go.Proofs.YtdeeekdbhhenpaaGreatDoor
variable {w w':World} {n k g i base c b d:Nat} {v:Value} {A:Option Addr}
section
open Go.RowKit
def Jo (a b:Byt):Int:=if Go.Op.bytesLess a b then -1 else if Go.Op.bytesLess b a then 1 else 0
theorem zx (l:Byt):(bA l).toList=l:=by unfold bA;rw[ByteArray.toList_mk]
theorem Yy {a b k:Byt}:Calls Tryz.prog 202 #[.agg #[sV a,sV b],sV k] w (qH w (.int .i64 (Jo a k))):=by
 obtain⟨r,hr⟩:=qf (Jo a k);rw[<-hr.out];obtain⟨B1,hB1⟩:=qf (bA a);obtain⟨B2,hB2⟩:=qf (bA b);obtain⟨B3,hB3⟩:=qf (bA k);rw[qO,qO,qO,<-hB1.out,<-hB2.out,<-hB3.out];obtain⟨l1,hl1⟩:=qf (Go.Op.bytesLess a k);obtain⟨l2,hl2⟩:=qf (Go.Op.bytesLess k a);have ul1:Go.Op.bytesLess B1.toList B3.toList=l1:=by rw[hB1.out,hB3.out,zx,zx,hl1.out]
 have ul2:Go.Op.bytesLess B3.toList B1.toList=l2:=by rw[hB1.out,hB3.out,zx,zx,hl2.out]
 go_enter Tryz.func202,Tryz.ntmps202;go_upto_region 1 with (fail);refine qo ?_;intro w1 hE hsz B0;obtain⟨p0,p1,-⟩:=cells2 B0;have HX:=q_h hE;clear hE B0;cases l1 with
 | true =>
  have HR:Hid (r = -1):=by rw[Hid,hr.out];unfold Jo;rw[<-hl1.out];rfl
  go_wp2
  first|go_ret|skip
  rw[HR.out];exact⟨rfl,HX.out⟩
 | false =>
  have ueq:(B1.toList == B3.toList)=!l2:=by
   have h1:=jh k a;rw[<-hl1.out,<-hl2.out,Bool.false_or] at h1;rw[hB1.out,hB3.out,zx,zx,h1,Bool.not_not]
  cases l2 with
  | true =>
   have HR:Hid (r=1):=by rw[Hid,hr.out];unfold Jo;rw[<-hl1.out,<-hl2.out];rfl
   go_wp2
   first|go_ret|skip
   rw[HR.out];exact⟨rfl,HX.out⟩
  | false =>
   have HR:Hid (r=0):=by rw[Hid,hr.out];unfold Jo;rw[<-hl1.out,<-hl2.out];rfl
   go_wp2
   first|go_ret|skip
   rw[HR.out];exact⟨rfl,HX.out⟩
def ZC (L:List Tg):Prop:=∀i j,i<j->j<L.length->(L.getD i default).name<(L.getD j default).name
def xB (L:List Tg) (k:Byt):Nat:=(L.filter fun t=>Go.Op.bytesLess t.name k).length
def vP (L:List Tg) (k:Byt):Bool:=decide (xB L k<L.length/\(L.getD (xB L k) default).name=k)
theorem VG {L:List Tg}{k:Byt}(hi:i<=L.length) (h1:∀x,x<i->Go.Op.bytesLess (L.getD x default).name k=true) (h2:∀x,i<=x->x<L.length->Go.Op.bytesLess (L.getD x default).name k=false):xB L k=i:=by
 unfold xB;have e1:L=L.take i++L.drop i:=(List.take_append_drop i L).symm;rw[e1,List.filter_append,List.length_append]
 have e2:(L.take i).filter (fun t=>Go.Op.bytesLess t.name k)=L.take i:=List.filter_eq_self.2 fun t ht=>by
  obtain⟨x,hx,rfl⟩:=List.getElem_of_mem ht;rw[List.length_take] at hx;have h3:=h1 x (by omega);rw[List.getD_eq_getElem?_getD,List.getElem?_eq_getElem (by omega)] at h3;rw[List.getElem_take];exact h3
 have e3:(L.drop i).filter (fun t=>Go.Op.bytesLess t.name k)=[]:=List.filter_eq_nil_iff.2 fun t ht=>by
  obtain⟨x,hx,rfl⟩:=List.getElem_of_mem ht;rw[List.length_drop] at hx;have h3:=h2 (i+x) (by omega) (by omega);rw[List.getD_eq_getElem?_getD,List.getElem?_eq_getElem (by omega)] at h3;rw[List.getElem_drop]
  show ¬Go.Op.bytesLess (L[i+x]).name k=true
  have h4:Go.Op.bytesLess (L[i+x]'(by omega)).name k=false:=h3;rw[h4]
  simp
 rw[e2,e3,List.length_take,List.length_nil];omega
theorem q0i {a b:Byt}:decide (Jo a b<0)=Go.Op.bytesLess a b:=by
 unfold Jo;cases Go.Op.bytesLess a b
 ·cases Go.Op.bytesLess b a<;>rfl
 ·rfl
theorem VH {a b:Byt}(h:Go.Op.bytesLess a b=false):(Jo a b == 0)=decide (a=b):=by
 unfold Jo;rw[h];have h1:=jh b a;rw[h,Bool.false_or] at h1;rw[h1]
 by_cases e:a=b
 ·subst e;simp
 ·have:(a == b)=false:=by simpa using e
  rw[this];simp[e]
theorem jK.get{L:List Tg}(h:jK w (.slice A n c) L)(hi:i<n):∃g off,A=some ⟨g,off,none⟩/\w.cell? ⟨g,off+i*2,none⟩=some (sV (L.getD i default).name)/\w.cell? ⟨g,off+i*2+1,none⟩=some (sV (L.getD i default).target):=by
 have hn:=h.len.1;subst hn;obtain⟨g,off,h1,h2⟩:=KY.addr h (by omega);obtain⟨x,y,h3,h4,h5,h6⟩:=h2 i hi;exact⟨g,off,h1,by rw[<-h5];exact h3,by rw[<-h6];exact h4⟩
theorem ZC.less {L:List Tg}(h:ZC L){k:Byt}{x:Nat}(hi:Go.Op.bytesLess (L.getD i default).name k=true) (hx:x<=i) (hl:i<L.length):Go.Op.bytesLess (L.getD x default).name k=true:=by
 rcases Nat.lt_or_ge x i with h1|h1
 ·rw[bytesLess_eq] at hi ⊢;exact q_t (List.lt_trans (h x i h1 hl) (of_decide_eq_true hi))
 ·obtain rfl:x=i:=by omega
  exact hi
theorem ZC.not {L:List Tg}(h:ZC L){k:Byt}{x:Nat}(hi:Go.Op.bytesLess (L.getD i default).name k=false) (hx:i<=x) (hl:x<L.length):Go.Op.bytesLess (L.getD x default).name k=false:=by
 cases h1:Go.Op.bytesLess (L.getD x default).name k with
 | false=>rfl
 | true=>rw[h.less h1 hx hl] at hi;cases hi
theorem q2q {L:List Tg}{k:Byt}(h:jK w (.slice A n c) L) (hs:ZC L) (hl:n<=100000):Calls Tryz.prog 201 #[.slice A n c,sV k,.func (.func 202) #[] #[]] w (qH w (.tuple #[.int .i64 (xB L k),.bool (vP L k)])):=by
 have HT:=q_h h;have HN:=q_h h.len.1;have HS:=q_h hs;obtain⟨K,hK9⟩:=qf (sV k);rw[<-hK9.out];obtain⟨KB,hKB⟩:=qf (bA k);have hKK:K=.string KB:=by rw[hK9.out,hKB.out];rfl
 subst hKK;obtain⟨cn,hcn⟩:=qf (xB L k);obtain⟨fd,hfd⟩:=qf (vP L k);rw[<-hcn.out,<-hfd.out]
 have HC:Hid (∀i w',Calls Tryz.prog 202 #[.agg #[sV (L.getD i default).name,sV (L.getD i default).target],.string KB] w' (qH w' (.int .i64 (Jo (L.getD i default).name k)))):=fun i w'=>by
  rw[hK9.out];exact Yy
 clear h hs;go_enter Tryz.func201,Tryz.ntmps201;go_wp2_with fail
 go_loopw [9,10] (fun iv jv wr=>∃i j:Nat,i<=j/\j<=n/\iv=.int .i64 (i:Int)/\jv=.int .i64 (j:Int)/\Hid (∀x,x<i->Go.Op.bytesLess (L.getD x default).name k=true)/\Hid (∀x,j<=x->x<n->Go.Op.bytesLess (L.getD x default).name k=false)/\Hid (Ext w wr)) (fun iv jv _=>(intOf jv).toNat-(intOf iv).toNat)
 case atStart=>exact⟨0,n,Nat.zero_le _,q_r,rfl,rfl,fun x hx=>absurd hx (Nat.not_lt_zero x),fun x h1 h2=>absurd h2 (by omega),Ext.refl w⟩
 case round =>
  obtain⟨i,j,hij,hjn,rfl,rfl,HA,HB,HX⟩:=hrel
  by_cases hlt:i<j
  case neg =>
   obtain rfl:i=j:=by omega
   have u5:decide ((i:Int)<(i:Int))=false:=q_f (by omega)
   have HCN:Hid (cn=i):=by
    rw[Hid,hcn.out];exact VG (by rw[<-HN.out];exact hjn) HA.out (fun x h1 h2=>HB.out x h1 (by rw[HN.out];exact h2))
   by_cases hin:i<n
   case neg =>
    have u6:decide ((i:Int)<(n:Int))=false:=q_f (by omega)
    have HF:Hid (fd=false):=by
     rw[Hid,hfd.out]
     exact q_f (fun h=>by
      have h1:=h.1;rw[<-hcn.out,HCN.out,<-HN.out] at h1
      exact hin h1)
    go_wp2
    first|go_ret2|skip
    rw[HCN.out,HF.out];exact⟨rfl,HX.out⟩
   have u6:decide ((i:Int)<(n:Int))=true:=q_t (by omega);have hii:(i:Int)<(n:Int):=by omega
   obtain⟨g,off,rfl,k0,k1⟩:=(HT.out.ext HX.out).get hin;obtain⟨N1,hN1⟩:=qf (bA (L.getD i default).name);obtain⟨N2,hN2⟩:=qf (bA (L.getD i default).target)
   have HC1:Hid (∀w',Calls Tryz.prog 202 #[.agg #[.string N1,.string N2],.string KB] w' (qH w' (.int .i64 (Jo (L.getD i default).name k)))):=fun w'=>by
    rw[hN1.out,hN2.out,<-qO,<-qO];exact HC.out i w'
   rw[qO,<-hN1.out] at k0;rw[qO,<-hN2.out] at k1;obtain⟨z,hz⟩:=qf (Jo (L.getD i default).name k);rw[<-hz.out] at HC1
   have HF:Hid ((z == 0)=fd):=by
    have h1:=HB.out i (Nat.le_refl i) hin;rw[Hid,hz.out,VH h1,hfd.out];unfold vP;rw[<-hcn.out,HCN.out]
    by_cases h2:(L.getD i default).name=k
    ·rw[q_t h2,decide_eq_true ⟨by rw[<-HN.out];exact hin,h2⟩]
    ·rw[q_f h2,q_f (fun h=>h2 h.2)]
   have hf:=HF.out;go_wp2_with (go_at_call 202;refine q_o ?_);refine (HC1.out wr).mono ?_;rintro e w3 ⟨rfl,e3⟩;have HX3:=q_h (HX.out.trans e3);clear e3 k0 k1;go_wp2
   first|go_ret2|skip
   rw[HCN.out];exact⟨rfl,HX3.out⟩
  have u5:decide ((i:Int)<(j:Int))=true:=q_t (by omega);have w1:IntKind.i64.wrap ((i:Int)+(j:Int))=(i:Int)+j:=wrp (by omega) (by omega);obtain⟨m,hm⟩:∃m:Nat,((i:Int)+(j:Int)) / 2=(m:Int):=⟨(i+j) / 2,by omega⟩
  have hmi:i<=m:=by omega
  have hmj:m<j:=by omega
  have HIJ:Hid (i<=m/\m<j/\j<=n):=⟨hmi,hmj,hjn⟩
  obtain⟨g,off,rfl,k0,k1⟩:=(HT.out.ext HX.out).get (show m<n by omega);obtain⟨N1,hN1⟩:=qf (bA (L.getD m default).name);obtain⟨N2,hN2⟩:=qf (bA (L.getD m default).target)
  have HC1:Hid (∀w',Calls Tryz.prog 202 #[.agg #[.string N1,.string N2],.string KB] w' (qH w' (.int .i64 (Jo (L.getD m default).name k)))):=fun w'=>by
   rw[hN1.out,hN2.out,<-qO,<-qO];exact HC.out m w'
  rw[qO,<-hN1.out] at k0;rw[qO,<-hN2.out] at k1;obtain⟨z,hz⟩:=qf (Jo (L.getD m default).name k);obtain⟨lt,hlt9⟩:=qf (Go.Op.bytesLess (L.getD m default).name k);rw[<-hz.out] at HC1;have hzl:decide (z<0)=lt:=by rw[hz.out,q0i,hlt9.out]
  have HZL:=q_h hzl;have hmn:(m:Int)<(n:Int):=by omega
  clear hzl;go_wp2_with (go_at_call 202;refine q_o ?_);refine (HC1.out wr).mono ?_;rintro e w2 ⟨rfl,e2⟩;have HX2:=q_h (HX.out.trans e2);have hzl:=HZL.out;have w3:IntKind.i64.wrap ((m:Int)+1)=(m:Int)+1:=wrp (by omega) (by omega);clear e2 k0 k1 hm;cases lt with
  | true =>
   have HA2:Hid (∀x,x<m+1->Go.Op.bytesLess (L.getD x default).name k=true):=fun x hx=>HS.out.less hlt9.out.symm (by omega) (by have:=HIJ.out;have:=HN.out;omega)
   go_wp2;go_roundw
   case rel=>exact⟨m+1,j,by have:=HIJ.out;omega,by have:=HIJ.out;omega,by go_num,rfl,HA2,HB,HX2⟩
   case measure=>have:=HIJ.out;simp[intOf];omega
  | false =>
   have HB2:Hid (∀x,m<=x->x<n->Go.Op.bytesLess (L.getD x default).name k=false):=fun x h1 h2=>HS.out.not hlt9.out.symm h1 (by have:=HN.out;omega)
   go_wp2;go_roundw
   case rel=>exact⟨i,m,by have:=HIJ.out;omega,by have:=HIJ.out;omega,rfl,rfl,HA,HB2,HX2⟩
   case measure=>have:=HIJ.out;simp[intOf];omega
theorem ZM:∀ {l:List Tg}{known:List Byt}{p:Option Byt},ZB known p l=true->(∀q,p=some q->∀t∈l,q<t.name)/\l.Pairwise (fun a b=>a.name<b.name)
 | [],_,_,_=>⟨fun _ _ t ht=>(by cases ht),List.Pairwise.nil⟩
 | t :: l,known,p,h=>by
  unfold ZB at h;rw[Bool.and_eq_true,Bool.and_eq_true,Bool.and_eq_true] at h;obtain⟨-,-,h1,h2⟩:=h;obtain⟨h3,h4⟩:=ZM h2
  have h5:∀q,p=some q->q<t.name:=fun q hq=>by
   subst hq;have h6:Go.Op.bytesLess q t.name=true:=h1;rw[bytesLess_eq] at h6;exact of_decide_eq_true h6
  refine⟨fun q hq u hu=>?_,List.pairwise_cons.2 ⟨fun u hu=>h3 _ rfl u hu,h4⟩⟩
  rcases List.mem_cons.1 hu with rfl|hu
  ·exact h5 q hq
  ·exact List.lt_trans (h5 q hq) (h3 _ rfl u hu)
theorem QT {l:List Tg}(h:l.Pairwise (fun a b=>a.name<b.name)):ZC l:=fun i j hij hj=>by
 rw[List.getD_eq_getElem?_getD,List.getD_eq_getElem?_getD,List.getElem?_eq_getElem (by omega),List.getElem?_eq_getElem hj];exact List.pairwise_iff_getElem.1 h i j (by omega) hj hij
theorem ZJ {s:Shf}(h:qE s=true):ZC s.tags:=by
 unfold qE at h;rw[Bool.and_eq_true,Bool.and_eq_true,Bool.and_eq_true] at h;exact QT (ZM h.2.2.1).2
def KZ (L:List Tg) (k:Byt):Byt:=if vP L k=true then (L.getD (xB L k) default).target else []
theorem VF (L:List Tg) (k:Byt):xB L k<=L.length:=List.length_filter_le _ _
theorem Vq {L:List Tg}{k:Byt}(h:vP L k=true):xB L k<L.length:=(of_decide_eq_true h).1
theorem XT{x0 x1 x2 x3 x4 x6:Value}{L:List Tg}{k:Byt}(hb:w.heap[b]?=some (.cells #[x0,x1,x2,x3,x4,.slice A n c,x6] 99 (0,0))) (hT:jK w (.slice A n c) L) (hs:ZC L) (hl:n<=100000) :
  Calls Tryz.prog 167 #[.pointer (some ⟨b,0,none⟩),sV k] w (qH w (.tuple #[.int .i64 (xB L k),.bool (vP L k)])):=by
 have c5:w.cell? ⟨b,5,none⟩=some (.slice A n c):=(qj hb 5).trans rfl;have HC:=q_h (q2q (k:=k) hT hs hl);obtain⟨K,hK9⟩:=qf (bA k);obtain⟨cn,hcn⟩:=qf (xB L k);obtain⟨fd,hfd⟩:=qf (vP L k);rw[qO,<-hK9.out] at HC ⊢;rw[<-hcn.out,<-hfd.out] at HC ⊢;clear hb hT hs;go_enter Tryz.func167,Tryz.ntmps167;go_wp2_with (go_at_call 201;refine q_o ?_);refine HC.out.mono ?_;rintro e w1 ⟨rfl,e1⟩;have HX:=q_h e1;clear e1 c5;go_wp2
 first|go_ret2|skip
 exact⟨rfl,HX.out⟩
theorem JH{x0 x1 x2 x3 x4 x6:Value}{L:List Tg}{k:Byt}(hb:w.heap[b]?=some (.cells #[x0,x1,x2,x3,x4,.slice A n c,x6] 99 (0,0))) (hT:jK w (.slice A n c) L) (hs:ZC L) (hl:n<=100000) :
  Calls Tryz.prog 109 #[.pointer (some ⟨b,0,none⟩),sV k] w (qH w (sV (KZ L k))):=by
 have HB:=q_h hb;have HT:=q_h hT;have HN:=q_h hT.len.1;have HC:=q_h (XT (k:=k) hb hT hs hl);obtain⟨K,hK9⟩:=qf (bA k);obtain⟨cn,hcn⟩:=qf (xB L k);obtain⟨fd,hfd⟩:=qf (vP L k);obtain⟨r,hr⟩:=qf (bA (KZ L k));rw[qO k,<-hK9.out] at HC ⊢;rw[qO,<-hr.out];rw[<-hcn.out,<-hfd.out] at HC;clear hb hT hs;go_enter Tryz.func109,Tryz.ntmps109;go_wp2_with (go_at_call 167;refine q_o ?_);refine HC.out.mono ?_;rintro e w1 ⟨rfl,e1⟩;have HX:=q_h e1;clear e1;cases fd with
 | false =>
  have HR:Hid (r=⟨#[]⟩):=by rw[Hid,hr.out];unfold KZ;rw[<-hfd.out];rfl
  go_wp2
  first|go_ret|skip
  rw[HR.out];exact⟨rfl,HX.out⟩
 | true =>
  have hcl:cn<n:=by
   have h1:=Vq hfd.out.symm;have:=hcn.out;have:=HN.out;omega
  have hci:(cn:Int)<(n:Int):=by omega
  have HR:Hid (r=bA (L.getD cn default).target):=by rw[Hid,hr.out];unfold KZ;rw[<-hfd.out,if_pos rfl,hcn.out]
  obtain⟨g,off,rfl,k0,k1⟩:=(HT.out.ext HX.out).get hcl;rw[qO,<-HR.out] at k1;have c5:w1.cell? ⟨b,5,none⟩=some (.slice (some ⟨g,off,none⟩) n c):=(qj (HX.out.block HB.out) 5).trans rfl;clear k0;go_wp2
  first|go_ret|skip
  exact⟨rfl,HX.out⟩
def Yj (L:List Tg) (k:Byt):Byt:=match L.find? (fun t=>decide (t.name=k)) with|some t=>t.target|none=>[]
theorem X3:∀ {L:List Tg}{k:Byt}{i:Nat},i<L.length->(L.getD i default).name=k->(∀x,x<i->(L.getD x default).name≠k)->Yj L k=(L.getD i default).target
 | [],_,_,h,_,_=>absurd h (Nat.not_lt_zero _)
 | t :: L,k,0,_,h,_=>by
  unfold Yj;rw[List.find?_cons_of_pos (by simpa using h)]
  rfl
 | t :: L,k,i+1,hi,h,hx=>by
  have h0:t.name≠k:=hx 0 (Nat.succ_pos i);have:=X3 (L:=L) (k:=k) (i:=i) (by simpa using hi) h (fun x h1=>hx (x+1) (by omega));unfold Yj at this ⊢;rw[List.find?_cons_of_neg (by simpa using h0)];exact this
theorem ZL {L:List Tg}{k:Byt}(h:∀x,x<L.length->(L.getD x default).name≠k):Yj L k=[]:=by
 unfold Yj
 rw[List.find?_eq_none.2 (fun t ht=>by
  obtain⟨x,hx,rfl⟩:=List.getElem_of_mem ht;have h1:=h x hx;rw[List.getD_eq_getElem?_getD,List.getElem?_eq_getElem hx] at h1
  simpa using h1)]
theorem q2g {L:List Tg}(h:ZC L) (k:Byt):KZ L k=Yj L k:=by
 have hle:=VF L k
 have hA:∀x,x<L.length->Go.Op.bytesLess (L.getD x default).name k=decide (x<xB L k):=by
  obtain⟨i,hi,h1,h2⟩:∃i,i<=L.length/\(∀x,x<i->Go.Op.bytesLess (L.getD x default).name k=true)/\∀x,i<=x->x<L.length->Go.Op.bytesLess (L.getD x default).name k=false:=by
   have:∀m,m<=L.length->(∃i,i<=m/\(∀x,x<i->Go.Op.bytesLess (L.getD x default).name k=true)/\∀x,i<=x->x<m->Go.Op.bytesLess (L.getD x default).name k=false):=by
    intro m
    induction m with
    | zero=>intro _;exact⟨0,Nat.le_refl 0,fun x hx=>absurd hx (Nat.not_lt_zero x),fun x _ hx=>absurd hx (Nat.not_lt_zero x)⟩
    | succ m ih =>
     intro hm;obtain⟨i,h1,h2,h3⟩:=ih (by omega);cases hb:Go.Op.bytesLess (L.getD m default).name k with
     | true=>exact⟨m+1,q_r,fun x hx=>h.less hb (by omega) (by omega),fun x hx1 hx2=>by omega⟩
     | false =>
      refine⟨i,by omega,h2,fun x hx1 hx2=>?_⟩
      rcases Nat.lt_or_ge x m with hx3|hx3
      ·exact h3 x hx1 hx3
      ·obtain rfl:x=m:=by omega
       exact hb
   exact this L.length (q_r)
  have hc:=VG hi h1 h2;rw[hc];intro x hx
  by_cases hxi:x<i
  ·rw[h1 x hxi,q_t hxi]
  ·rw[h2 x (by omega) hx,q_f hxi]
 have hne:∀x,x<L.length->x<xB L k->(L.getD x default).name≠k:=fun x hx hxc e=>by
  have h1:=hA x hx;rw[q_t hxc,bytesLess_eq,e] at h1;exact absurd (of_decide_eq_true h1) (List.lt_irrefl k)
 unfold KZ
 by_cases hf:vP L k=true
 ·rw[if_pos hf];have h1:=of_decide_eq_true hf;exact (X3 h1.1 h1.2 (fun x hx=>hne x (by omega) hx)).symm
 ·rw[if_neg hf];refine (ZL fun x hx e=>?_).symm
  have hxc:xB L k<=x:=by
   rcases Nat.lt_or_ge x (xB L k) with h1|h1
   ·exact absurd e (hne x hx h1)
   ·exact h1
  have h9:(L.getD (xB L k) default).name=k:=by
   rcases Nat.lt_or_ge (xB L k) x with h1|h1
   ·have h2:=h _ _ h1 hx;have h3:=hA (xB L k) (by omega);rw[e] at h2;rw[bytesLess_eq,q_t h2] at h3;have h4:=of_decide_eq_true h3.symm;omega
   ·have h2:xB L k=x:=by omega
    rw[h2];exact e
  exact hf (decide_eq_true ⟨by omega,h9⟩)
theorem Y4 {L:List Tg}{k:Byt}(h:jK w (.slice A n c) L) (hl:n<=100000):Calls Tryz.prog 46 #[.slice A n c,sV k] w (qH w (sV (Yj L k))):=by
 have HT:=q_h h;have HN:=q_h h.len.1;obtain⟨KB,hKB⟩:=qf (bA k);obtain⟨r,hr⟩:=qf (bA (Yj L k));rw[qO k,<-hKB.out,qO,<-hr.out];clear h;go_enter Tryz.func46,Tryz.ntmps46;go_wp2_with fail
 go_loopw [9] (fun iv wr=>∃i:Nat,i<=n/\iv=.int .i64 (i:Int)/\Hid (∀x,x<i->(L.getD x default).name≠k)/\Hid (Ext w wr)) (fun iv _=>n-(intOf iv).toNat)
 case atStart=>exact⟨0,Nat.zero_le _,rfl,fun x hx=>absurd hx (Nat.not_lt_zero x),Ext.refl w⟩
 case round =>
  obtain⟨i,hin,rfl,HA,HX⟩:=hrel
  by_cases hlt:i<n
  case neg =>
   obtain rfl:i=n:=by omega
   have u5:decide ((i:Int)<(i:Int))=false:=q_f (by omega)
   have HR:Hid (r=⟨#[]⟩):=by
    rw[Hid,hr.out,ZL (fun x hx=>HA.out x (by rw[HN.out];exact hx))]
    rfl
   go_wp2
   first|go_ret|skip
   rw[HR.out];exact⟨rfl,HX.out⟩
  have u5:decide ((i:Int)<(n:Int))=true:=q_t (by omega);have hii:(i:Int)<(n:Int):=by omega
  obtain⟨g,off,rfl,k0,k1⟩:=(HT.out.ext HX.out).get hlt;obtain⟨N1,hN1⟩:=qf (bA (L.getD i default).name);obtain⟨N2,hN2⟩:=qf (bA (L.getD i default).target);rw[qO,<-hN1.out] at k0;rw[qO,<-hN2.out] at k1;obtain⟨q,hq⟩:=qf (decide ((L.getD i default).name=k));have ueq:(N1.toList == KB.toList)=q:=by rw[hN1.out,hKB.out,KU,hq.out]
  go_upto_region 4 with (fail);refine qo ?_;intro w2 e2 hsz2 B2;obtain⟨p0,p1,-⟩:=cells2 B2;have HX2:=q_h (HX.out.trans e2);clear e2 B2 k0 k1;cases q with
  | true =>
   have HR:Hid (N2=r):=by
    rw[Hid,hr.out,X3 (by rw[<-HN.out];exact hlt) (of_decide_eq_true hq.out.symm) HA.out,hN2.out]
   go_wp2
   first|go_ret|skip
   rw[<-HR.out];exact⟨rfl,HX2.out⟩
  | false =>
   have HA2:Hid (∀x,x<i+1->(L.getD x default).name≠k):=fun x hx=>by
    by_cases h9:x=i
    ·rw[h9];exact of_decide_eq_false hq.out.symm
    ·exact HA.out x (by omega)
   go_wp2;go_roundw
   case rel=>exact⟨i+1,by omega,by go_num,HA2,HX2⟩
   case measure=>simp[intOf];omega
theorem ZC.pw {l:List Tg}(h:ZC l):l.Pairwise (fun a b=>a.name<b.name):=by
 rw[List.pairwise_iff_getElem];intro i j hi hj hij;have h1:=h i j hij hj;rw[List.getD_eq_getElem?_getD,List.getD_eq_getElem?_getD,List.getElem?_eq_getElem hi,List.getElem?_eq_getElem hj] at h1;exact h1
theorem KP:∀ {L:List Tg}{k:Byt},L.Pairwise (fun a b=>a.name<b.name)->(∀u∈L.take (xB L k),u.name<k)/\∀u∈L.drop (xB L k),¬u.name<k
 | [],k,_=>⟨fun u hu=>by simp at hu,fun u hu=>by simp at hu⟩
 | t :: L,k,h=>by
  rw[List.pairwise_cons] at h;have ih:=KP (k:=k) h.2
  by_cases ht:t.name<k
  ·have e:xB (t :: L) k=xB L k+1:=by
    unfold xB;rw[List.filter_cons_of_pos (by rw[bytesLess_eq];exact q_t ht),List.length_cons]
   rw[e,List.take_succ_cons,List.drop_succ_cons];refine⟨fun u hu=>?_,ih.2⟩
   rcases List.mem_cons.1 hu with rfl|hu
   ·exact ht
   ·exact ih.1 u hu
  ·have e:xB (t :: L) k=0:=by
    unfold xB;rw[List.length_eq_zero_iff,List.filter_eq_nil_iff];intro u hu;rw[bytesLess_eq,decide_eq_true_eq]
    rcases List.mem_cons.1 hu with rfl|hu
    ·exact ht
    ·exact fun h9=>ht (List.lt_trans (h.1 u hu) h9)
   rw[e];refine⟨fun u hu=>by simp at hu,fun u hu h9=>?_⟩;rw[List.drop_zero] at hu
   rcases List.mem_cons.1 hu with rfl|hu
   ·exact ht h9
   ·exact ht (List.lt_trans (h.1 u hu) h9)
def yw (L:List Tg) (k t:Byt):List Tg :=
 if vP L k=true then (if t=[] then L.take (xB L k)++L.drop (xB L k+1) else L.take (xB L k) ++ ⟨k,t⟩ :: L.drop (xB L k+1))
 else L.take (xB L k) ++ ⟨k,t⟩ :: L.drop (xB L k)
def q1F (L:List Tg) (k t:Byt):List Tg:=L.filter (fun u=>!decide (u.name=k))++(if t=[] then [] else [⟨k,t⟩])
theorem VS {a b:Byt}(h:a<b):a≠b:=fun e=>by subst e;exact List.lt_irrefl _ h
theorem YK {L:List Tg}(h:ZC L) (k:Byt):∃A B:List Tg,L.take (xB L k)=A/\(if vP L k=true then L.drop (xB L k+1) else L.drop (xB L k))=B/\(A++B).Pairwise (fun a b=>a.name<b.name)/\(∀u∈A,u.name<k)/\(∀u∈B,k<u.name)/\L.filter (fun u=>!decide (u.name=k))=A++B:=by
 have hp:=h.pw;have hs:=KP (k:=k) hp;refine⟨_,_,rfl,rfl,?_⟩;obtain⟨c,hc⟩:∃c,c=xB L k:=⟨_,rfl⟩
 have hf:vP L k=decide (c<L.length/\(L.getD c default).name=k):=by rw[hc];rfl
 rw[<-hc] at hs ⊢;have hL:L=L.take c++L.drop c:=(List.take_append_drop c L).symm;have hA:∀u∈L.take c,(!decide (u.name=k))=true:=fun u hu=>by simpa using VS (hs.1 u hu)
 by_cases hq:vP L k=true
 ·rw[if_pos hq];rw[hf,decide_eq_true_eq] at hq;obtain⟨h1,h2⟩:=hq;have hd:L.drop c=L[c] :: L.drop (c+1):=List.drop_eq_getElem_cons h1;have hn:(L[c]).name=k:=by rw[<-h2,List.getD_eq_getElem?_getD,List.getElem?_eq_getElem h1];rfl
  rw[hL] at hp;rw[hd] at hp
  have hB:∀u∈L.drop (c+1),k<u.name:=fun u hu=>by
   have h3:=(List.pairwise_append.1 hp).2.1;rw[List.pairwise_cons] at h3;rw[<-hn];exact h3.1 u hu
  refine⟨?_,hs.1,hB,?_⟩
  ·rw[List.pairwise_append] at hp ⊢;refine⟨hp.1,(List.pairwise_cons.1 hp.2.1).2,fun a ha b hb=>hp.2.2 a ha b (List.mem_cons_of_mem _ hb)⟩
  ·conv=>lhs;rw[hL,hd]
   rw[List.filter_append,List.filter_cons_of_neg (by simp[hn]),List.filter_eq_self.2 hA,List.filter_eq_self.2 (fun u hu=>by simpa using (VS (hB u hu)).symm)]
 ·rw[if_neg hq]
  have hB:∀u∈L.drop c,k<u.name:=fun u hu=>by
   have h1:=hs.2 u hu
   by_cases h3:k<u.name
   ·exact h3
   ·exfalso
    have h3:k=u.name:=(List.le_antisymm (List.not_lt.1 h3) (List.not_lt.1 h1)).symm;refine hq ?_
    have hcl:c<L.length:=by
     rcases Nat.lt_or_ge c L.length with h4|h4
     ·exact h4
     ·rw[List.drop_eq_nil_of_le h4] at hu;cases hu
    have hd:L.drop c=L[c] :: L.drop (c+1):=List.drop_eq_getElem_cons hcl;rw[hd] at hu;have hg:L.getD c default=L[c]:=by rw[List.getD_eq_getElem?_getD,List.getElem?_eq_getElem hcl];rfl
    rw[hf,decide_eq_true_eq,hg];refine⟨hcl,?_⟩
    rcases List.mem_cons.1 hu with rfl|hu
    ·exact h3.symm
    ·exfalso
     rw[hL,hd] at hp;have h5:=(List.pairwise_cons.1 (List.pairwise_append.1 hp).2.1).1 u hu;rw[<-h3] at h5;exact hs.2 L[c] (by rw[hd];exact List.mem_cons_self ..) h5
  refine⟨by rw[List.take_append_drop];exact hp,hs.1,hB,?_⟩
  conv=>lhs;rw[hL]
  rw[List.filter_append,List.filter_eq_self.2 hA,List.filter_eq_self.2 (fun u hu=>by simpa using (VS (hB u hu)).symm)]
theorem q0S {A B:List Tg}{k t:Byt}(h:(A++B).Pairwise (fun a b=>a.name<b.name)) (hA:∀u∈A,u.name<k) (hB:∀u∈B,k<u.name):(A ++ ⟨k,t⟩ :: B).Pairwise (fun a b=>a.name<b.name):=by
 rw[List.pairwise_append] at h ⊢;refine⟨h.1,List.pairwise_cons.2 ⟨fun u hu=>hB u hu,h.2.1⟩,fun a ha b hb=>?_⟩
 rcases List.mem_cons.1 hb with rfl|hb
 ·exact hA a ha
 ·exact h.2.2 a ha b hb
theorem J8 {α:Type}(A B:List α) (x:α):(A++x :: B).Perm ((A++B) ++ [x]):=by
 rw[List.append_assoc];exact List.Perm.append_left A (List.perm_append_singleton x B).symm
theorem YL {L:List Tg}(h:ZC L){k t:Byt}(ht:vP L k=true\/t≠[]):ZC (yw L k t)/\(yw L k t).Perm (q1F L k t):=by
 obtain⟨A,B,hA,hB,hp,h1,h2,h3⟩:=YK h k;unfold yw q1F;rw[h3,hA]
 by_cases hq:vP L k=true
 ·rw[if_pos hq] at hB ⊢;rw[hB]
  by_cases h0:t=[]
  ·rw[if_pos h0,if_pos h0,List.append_nil];exact⟨QT hp,List.Perm.refl _⟩
  ·rw[if_neg h0,if_neg h0];exact⟨QT (q0S hp h1 h2),J8 A B _⟩
 ·rw[if_neg hq] at hB ⊢;rw[hB];have h0:t≠[]:=ht.resolve_left hq;rw[if_neg h0];exact⟨QT (q0S hp h1 h2),J8 A B _⟩
theorem YM {L R:List Tg}(h:ZC L){k t:Byt}(ht:vP L k=true\/t≠[]) (hp:R.Perm (q1F L k t)) (hs:R.Pairwise fun a b=>¬b.name<a.name):R=yw L k t:=by
 obtain⟨h1,h2⟩:=YL h ht;have h3:=h1.pw;refine (hp.trans h2.symm).eq_of_pairwise (fun a b ha hb hab hba=>?_) hs (h3.imp fun h9 h8=>List.lt_irrefl _ (List.lt_trans h9 h8));have ha':a∈yw L k t:=(hp.trans h2.symm).mem_iff.1 ha;obtain⟨i,hi,rfl⟩:=List.getElem_of_mem ha';obtain⟨j,hj,rfl⟩:=List.getElem_of_mem hb;rw[List.pairwise_iff_getElem] at h3
 rcases Nat.lt_trichotomy i j with h4|h4|h4
 ·exact absurd (h3 i j hi hj h4) hba
 ·subst h4;rfl
 ·exact absurd (h3 j i hj hi h4) hab
theorem WA (M:List Tg) (t:Tg):tgX (M ++ [t]) (M ++ [t]).length=tgX M M.length ++ [sV t.name,sV t.target]:=by
 rw[List.length_append]
 show tgX (M ++ [t]) (M.length+1)=_
 unfold tgX;rw[vI]
 congr 1
 ·refine Kq (fun j hj=>?_);rw[Zf,if_pos hj];exact⟨rfl,rfl⟩
 ·rw[Zf,if_neg (by omega),if_pos rfl]
theorem TgG.snoc{v':Value}{M:List Tg}{t:Tg}(h:qI 86 2 base w' v' (M.length+1) (tgX M M.length ++ [sV t.name,sV t.target])):TgG base w' v' (M ++ [t]):=by
 unfold TgG;rw[WA,List.length_append];exact h
end
section
open Go
theorem Zk {p:Program}{a:Addr}{u:TypeId}{k:Addr}{at_:Bool}{r:World×List Addr}(h:World.viewStore p w a u k v at_=.ok r):r.1.drawn=w.drawn:=by
 unfold World.viewStore at h;simp only[bind,Except.bind,pure,Except.pure] at h
 repeat' split at h
 all_goals first|(cases h;rfl)|(cases h)
theorem KH {p:Program}{a:Addr}{at_:Bool}{l:List Addr}(h:World.farStore p w a v at_=.ok (w',l)):w'.drawn=w.drawn:=by
 unfold World.farStore at h
 split at h
 ·split at h
  ·rename_i r hr
   cases h
   exact Zk hr
  ·cases h
 ·cases h
theorem Q7 (w:World) (a:Addr) (n:Nat):(w.freeze a n).drawn=w.drawn:=by
 unfold World.freeze
 split<;>rfl
theorem KJ {α:Type}(x:Ask α):∀w:World,w.drawn<=(w.ask x).2.drawn:=by
 induction x with
 | done a=>intro w;exact q_r
 | ask what range k ih =>
  intro w;unfold World.ask
  dsimp only
  split
  ·exact ih _ _
  ·exact q_l (Nat.le_succ _) (ih _ { w with drawn:=w.drawn+1 })
theorem KF (w:World) (c:Go.Sys):w.drawn<=(w.sys c).2.drawn:=by
 unfold World.sys;have h:=KJ (Kernel.perform c w.os) w
 split
 ·exact q_r
 ·rename_i r os w' _ heq
  rw[heq] at h;exact h
def q2O {α:Type}:Result α->World
 | .ok _ w=>w
 | .halt _ w=>w
theorem jd {α:Type}(p:Program) (x:Sem α):∀w:World,w.drawn<=(q2O (x.run p w)).drawn:=by
 induction x with
 | pure a=>intro w;exact q_r
 | halt h=>intro w;exact q_r
 | load m a k ih =>
  intro w;simp only[Sem.run]
  split
  ·exact ih _ _
  ·split
   ·exact ih _ _
   ·exact q_r
 | store m a v k ih =>
  intro w
  by_cases hv:(∃c,v=.agg c)\/(∃c,v=.tuple c)
  ·rcases hv with ⟨c,rfl⟩|⟨c,rfl⟩<;>exact q_r
  ·rw[Sem.run]
   ·split
    ·split
     ·exact q_r
     ·exact ih (w.setCell a v)
    ·split
     ·rename_i h
      rw[<-KH h];exact ih _
     ·exact q_r
   ·intro c h;exact hv (.inl ⟨c,h⟩)
   ·intro c h;exact hv (.inr ⟨c,h⟩)
 | new o k ih=>intro w;exact ih w.heap.size { w with heap:=w.heap.push o }
 | shape r k ih=>intro w;exact ih _ _
 | freeze a n k ih=>intro w;rw[<-Q7 w a n];exact ih _
 | frozen a k ih=>intro w;exact ih _ _
 | getObj r k ih =>
  intro w;simp only[Sem.run]
  split
  ·exact q_r
  ·exact ih _ _
  ·exact q_r
 | setObj r o k ih =>
  intro w;simp only[Sem.run]
  split
  ·exact q_r
  ·exact ih { w with heap:=w.heap.setIfInBounds r o }
  ·exact q_r
 | choose q k ih =>
  intro w;simp only[Sem.run]
  split
  ·exact ih _ _
  ·exact q_l (Nat.le_succ _) (ih _ { w with drawn:=w.drawn+1 })
 | sys c k ih=>intro w;exact q_l (KF w c) (ih _ _)
 | program k ih=>intro w;exact ih _ _
 | mark m k ih=>intro w;exact ih _
theorem qQ {α:Type}{p:Program}{x:Sem α}{a:α}(h:x.run p w=.ok a w'):w.drawn<=w'.drawn:=by
 have k:=jd p x w;rw[h] at k;exact k
theorem Q4 {α:Type}{p:Program}{x:Sem α}{a:Halt}(h:x.run p w=.halt a w'):w.drawn<=w'.drawn:=by
 have k:=jd p x w;rw[h] at k;exact k
theorem zI {α:Type}{p:Program}{x:Sem α}{a:α}{es es':Array Event}(h:x.runT p w es=(.ok a w',es')):w.drawn<=w'.drawn :=
 qQ (x:=x) (a:=a) (by rw[<-Sem.runT_fst p x w es,h])
theorem zM {α:Type}{p:Program}{x:Sem α}{a:Halt}{es es':Array Event}(h:x.runT p w es=(.halt a w',es')):w.drawn<=w'.drawn :=
 Q4 (x:=x) (a:=a) (by rw[<-Sem.runT_fst p x w es,h])
theorem XA {α:Type}{p:Program}{x:Sem α}{a:α}{es:Array Event}(h:(x.runT p w es).1=.ok a w'):w.drawn<=w'.drawn :=
 qQ (x:=x) (a:=a) (by rw[<-Sem.runT_fst p x w es,h])
def qN (d:Nat):GStep->Prop
 | .go _ w _=>d<=w.drawn
 | .comm _ _ _ _ w _=>d<=w.drawn
 | .spawn _ _ w _=>d<=w.drawn
 | .count _ w _=>d<=w.drawn
 | .timer _ _ w _=>d<=w.drawn
 | .alone _ _ w _=>d<=w.drawn
 | .newcoro _ _ _ w _=>d<=w.drawn
 | .coroswitch _ _ _ w _=>d<=w.drawn
 | .collect _ w _=>d<=w.drawn
 | .watch _ w _=>d<=w.drawn
 | .ended _ _ _=>True
theorem qN.after{s:GStep}(h:qN d s) (es:Array Event):qN d (GStep.after es s):=by
 cases s<;>exact h
theorem KG {c:Prop} [Decidable c]{a b:GStep}(ha:qN d a) (hb:qN d b):qN d (if c then a else b):=by
 split
 ·exact ha
 ·exact hb
theorem Zl (w:World) (fd:Nat) (t:ByteArray) (o:Outcome) (d:Nat):qN d (endWith w fd t o):=by
 unfold endWith
 dsimp only
 repeat' split
 all_goals trivial
theorem XC (fr:Frame) (ahead:List ByteArray) (m:String) (b:Bool) (w:World):qN w.drawn (dieOf fr ahead m b w):=q_r
theorem kP (fr:Frame) (m:String) (w:World):qN w.drawn (endThrow fr m w):=q_r
theorem kY (p:Program) (fr:Frame) (v:Value) (w:World):qN w.drawn (endPrinting p fr v w):=by
 unfold endPrinting
 dsimp only
 split
 ·exact kP _ _ _
 ·trivial
theorem qN.le {d':Nat}{s:GStep}(h:qN d s) (hd:d'<=d):qN d' s:=by
 cases s<;>first|trivial|exact q_l hd h
theorem jw (p:Program) (fr:Frame) (callers:List Frame) (dying:Option Dying) (m:String) (w:World):qN w.drawn (endFatal p fr callers dying m w):=by
 unfold endFatal
 extract_lets chain raw shown
 split
 ·exact (XC _ _ _ _ _).le (qQ (by assumption))
 ·trivial
 ·trivial
theorem Zj (p:Program) (fr:Frame) (d:Dying) (f:Fatal) (w:World):qN w.drawn (writeOn p fr d f w):=by
 unfold writeOn
 extract_lets on
 split
 ·trivial
 ·extract_lets write
  split
  ·exact zI (by assumption)
  ·exact zM (by assumption)
  ·trivial
  ·trivial
theorem Vx (p:Program) (fr:Frame) (d:Dying) (w:World):qN w.drawn (die p fr d w):=by
 unfold die
 split
 ·exact Zj _ _ _ _ _
 ·split
  ·split
   ·exact q_r
   ·exact Zl _ _ _ _ _
  ·extract_lets d'
   split
   ·exact q_r
   ·split
    ·exact qQ (by assumption)
    ·trivial
   ·split
    rename_i r es hr
    refine qN.after ?_ _
    split
    ·exact zI (by assumption)
    ·exact zI (by assumption)
    ·trivial
    ·exact (kY _ _ _ _).le (zM (by assumption))
    ·trivial
   ·trivial
theorem XB (p:Program) (fr:Frame) (callers:List Frame) (dying:Option Dying) (g:Nat) (w:World):qN w.drawn (early p fr callers dying g w):=by
 unfold early
 extract_lets refuse notYet
 have hn:∀w,qN w.drawn (notYet w):=by
  intro w
  dsimp only[notYet]
  split
  ·exact q_r
  ·trivial
 split
 ·exact hn _
 ·split
  ·trivial
  ·extract_lets there
   have ht:∀w,qN w.drawn (there w):=fun w=>q_r
   repeat' split
   all_goals first
    | trivial
    | exact hn _
    | exact ht _
    | exact (hn _).le (qQ (by assumption))
    | exact (ht _).le (qQ (by assumption))
theorem kQ (p:Program) (main:Bool) (fr:Frame) (callers:List Frame) (dying:Option Dying) (v:Value) (w:World):qN w.drawn (doReturn p main fr callers dying v w):=by
 unfold doReturn
 repeat' split
 all_goals first|trivial|exact q_r
theorem yc (p:Program) (fr:Frame) (callers:List Frame) (dying:Option Dying) (d:Deferred) (w:World):qN w.drawn (callDeferred p fr callers dying d w):=by
 unfold callDeferred;refine KG trivial ?_
 ·split
  rename_i r es hr
  extract_lets es'
  refine qN.after ?_ _
  split
  all_goals first
   | trivial
   | exact zI (by assumption)
   | exact zM (by assumption)
   | exact (jw _ _ _ _ _ _).le (zM (by assumption))
   | exact (kP _ _ _).le (zM (by assumption))
   | (split<;>exact zI (by assumption))
theorem KE (p:Program) (main:Bool) (fr:Frame) (callers:List Frame) (dying:Option Dying) (w:World):qN w.drawn (unwind p main fr callers dying w):=by
 unfold unwind
 split
 ·split
  refine qN.after ?_ _
  split
  ·exact zI (by assumption)
  ·trivial
 ·exact yc _ _ _ _ _ _
 ·split
  ·trivial
  ·split
   ·trivial
   ·split
    ·exact q_r
    ·split
     ·split
      ·exact q_r
      ·split
       ·exact qQ (by assumption)
       ·trivial
       ·trivial
     ·split
      ·exact kY _ _ _ _
      ·trivial
  ·split
   ·exact kQ _ _ _ _ _ _ _
   ·split
    refine qN.after ?_ _
    split
    ·exact (kQ _ _ _ _ _ _ _).le (zI (by assumption))
    ·trivial
    ·trivial
theorem xy (p:Program) (fr:Frame) (callers:List Frame) (dying:Option Dying) (s:Sem Next) (w:World) (listen:Bool):qN w.drawn (stepG.apply p listen fr callers dying s w):=by
 unfold stepG.apply
 extract_lets go kind
 have hgo:∀fr w,qN w.drawn (go fr w):=fun fr w=>q_r
 split
 rename_i r es hr
 extract_lets es1 es2 es3
 refine qN.after ?_ _
 have hk:w.drawn<=(q2O r).drawn:=by
  have h:=jd p s w
  split at hr
  ·rw[<-Sem.runT_fst p s w #[],hr] at h;exact h
  ·cases hr;exact h
 clear hr
 repeat' split
 all_goals first
  | trivial
  | exact hk
  | exact (hgo _ _).le hk
  | exact (jw _ _ _ _ _ _).le hk
  | exact (kP _ _ _).le hk
  | exact (XB _ _ _ _ _ _).le hk
theorem Yd (p:Program) (fr:Frame) (callers:List Frame) (dying:Option Dying) (w:World) (listen:Bool):qN w.drawn (stepG.oper p listen fr callers dying w):=by
 unfold stepG.oper
 split
 ·trivial
 ·split<;>exact xy _ _ _ _ _ _ _
theorem QI {α:Type}{o:Option α}{a:GStep}{f:α->GStep}(h:qN d a) (h':∀x,qN d (f x)):qN d (o.elim a f):=by
 cases o<;>first|exact h|exact h' _
theorem Yf (p:Program) (main:Bool) (fr:Frame) (callers:List Frame) (dying:Option Dying) (w:World) (listen:Bool):qN w.drawn (stepG.exec p main listen fr callers dying w):=by
 unfold stepG.exec
 extract_lets go tox lost leave
 have hgo:∀fr w,qN w.drawn (go fr w):=fun fr w=>q_r
 have hto:∀t,qN w.drawn (tox t):=fun t=>q_r
 have hlost:∀t,qN w.drawn (lost t):=fun t=>trivial
 have hleave:∀j,qN w.drawn (leave j):=by
  intro j
  dsimp only[leave]
  split
  ·exact KG (hgo _ _) (hlost _)
  ·refine qN.after ?_ _
   split
   ·exact (kQ _ _ _ _ _ _ _).le (XA (by assumption))
   ·trivial
 clear_value tox lost leave
 split
 all_goals first
  | trivial
  | exact hto _
  | exact hleave _
  | exact hgo _ _
  | exact xy _ _ _ _ _ _ _
  | exact QI (hleave _) (fun _=>hto _)
  | exact QI (hlost _) (fun _=>xy _ _ _ _ _ _ _)
  | (split<;>first|exact hto _|exact hlost _)
  | (split;exact Yd _ _ _ _ _ _;exact hgo _ _)
  | (
   split
   refine qN.after ?_ _
   split
   ·exact (xy _ _ _ _ _ _ _).le (zI (by assumption))
   ·trivial)
  | (
   split
   refine qN.after ?_ _
   split
   ·exact (hgo _ _).le (zI (by assumption))
   ·exact (hgo _ _).le (zM (by assumption))
   ·trivial)
  | (
   split
   ·exact hto _
   ·split
    ·exact (hgo _ _).le (qQ (by assumption))
    ·trivial)
theorem Xy (p:Program) (main:Bool) (g:Goroutine) (w:World) (listen:Bool):qN w.drawn (stepG p main g w listen):=by
 unfold stepG
 split
 split
 ·exact Vx _ _ _ _
 ·exact Yf _ _ _ _ _ _ _
 ·exact KE _ _ _ _ _ _
def xE (d:Nat):Stepped->Prop
 | .next m=>d<=m.world.drawn
 | .ended _ _=>True
theorem xE.le {d':Nat}{s:Stepped}(h:xE d s) (hd:d'<=d):xE d' s:=by
 cases s<;>first|trivial|exact q_l hd h
theorem QH (p:Program) (gs:Array Goroutine) (rest:Rest) (w:World):xE w.drawn (look p gs rest w):=by
 unfold look
 split
 ·dsimp only
  split
  ·trivial
  ·split
   ·trivial
   ·split
    ·rename_i hrun
     have hk:=qQ hrun;exact hk
    ·trivial
    ·trivial
 ·trivial
theorem Qs (w:World) (c:Nat):(drain w c).2.drawn=w.drawn:=by
 unfold drain
 split<;>rfl
theorem je (m:Machine) (k:Nat) (t:Timer) (a b:Nat):(retime m k t a b).2.world.drawn=m.world.drawn:=by
 unfold retime;cases t.chan with
 | none=>rfl
 | some c=>exact Qs _ _
theorem vz {m m':Machine}{op:TimerOp}(h:timerOp m op=.ok (v,m')):m'.world.drawn=m.world.drawn:=by
 unfold timerOp at h
 split at h
 ·split at h
  ·cases h;rfl
  ·split at h
   ·split at h
    ·cases h
    ·cases h;rfl
   ·cases h
 ·unfold timerOp.named at h
  split at h
  ·simp only[Except.ok.injEq] at h
   rename_i cc _
   have hk:=je m cc _ _ _ |>.symm.trans (congrArg (fun z=>z.2.world.drawn) h)
   exact hk.symm
  ·cases h
 ·split at h
  ·rename_i m2 ho
   have hm:m2.world.drawn=m.world.drawn:=by
    unfold timerOp.opened at ho
    split at ho
    ·split at ho
     ·cases ho;rfl
     ·cases ho
    ·cases ho;rfl
   unfold timerOp.named at h
   split at h
   ·simp only[Except.ok.injEq] at h
    rename_i cc _
    have hk:=je m2 cc _ _ _ |>.symm.trans (congrArg (fun z=>z.2.world.drawn) h)
    exact hk.symm.trans hm
   ·cases h
  ·cases h
 ·cases h;rfl
theorem y9 {rest:Rest}{cases:Array CommCase}(h:waitingAt rest cases w=some w'):w'.drawn=w.drawn:=by
 unfold waitingAt at h
 split at h
 ·split at h
  ·cases h;rfl
  ·cases h
 ·cases h;rfl
theorem yH (p:Program) (rest:Rest) (gs:Array Goroutine) (i:Nat) (g:Goroutine) (cases:Array CommCase) (blocking:Bool) (shape:CommShape) (w:World):xE w.drawn (communicate p rest gs i g cases blocking shape w).1:=by
 unfold communicate
 extract_lets put illMade me other
 split
 ·trivial
 ·split
  ·split
   ·split
    ·exact Nat.le_of_eq (y9 (by assumption)).symm
    ·trivial
   ·exact q_r
  ·split
   ·trivial
   ·rename_i hw
    have hk:=qQ hw
    dsimp only
    split
    ·split
     ·exact q_l hk (Q4 (by assumption))
     ·trivial
    ·exact hk
    ·exact hk
    ·split
     ·exact hk
     ·split
      ·rename_i h2
       have hk2:=qQ h2;exact q_l hk hk2
      ·trivial
    ·exact hk
    ·exact hk
    ·trivial
theorem Xz (p:Program) (m:Machine) (k:Nat):xE m.world.drawn (serve p m k):=by
 unfold serve
 split
 ·trivial
 ·exact q_r
 ·dsimp only
  split
  ·trivial
  ·exact q_r
theorem Q5 (p:Program) (m:Machine) (i:Nat) (listen:Bool):xE m.world.drawn (runT p m i listen).1:=by
 unfold runT
 extract_lets rest world
 split
 extract_lets wake fn pos s ops done
 have hs:qN world.drawn s:=Xy _ _ _ _ _
 clear_value s
 cases s with
 | ended o w e=>trivial
 | comm g c b sh w e=>exact (yH _ _ _ _ _ _ _ _ _).le hs
 | go g w e=>exact hs
 | spawn g c w e=>exact hs
 | count g w e =>
  dsimp only[done]
  split
  ·trivial
  ·exact hs
 | alone g o w e=>exact hs
 | collect g w e=>exact (QH _ _ _ _).le hs
 | watch g w e=>exact hs
 | newcoro g c d w e=>exact hs
 | coroswitch g c x w e =>
  dsimp only[done]
  split
  ·exact hs
  ·exact hs
  ·trivial
 | timer g op w e =>
  dsimp only[done]
  split
  ·rename_i h
   exact q_l hs (Nat.le_of_eq (vz h).symm)
  ·exact hs
  ·trivial
  ·trivial
def Q8 (d:Nat):Move->Prop
 | .goroutine m _=>d<=m.world.drawn
 | .machine s _=>xE d s
theorem Q8.le {d':Nat}{s:Move}(h:Q8 d s) (hd:d'<=d):Q8 d' s:=by
 cases s with
 | goroutine m i=>exact q_l hd h
 | machine s o=>exact xE.le h hd
theorem jE (p:Program) (m:Machine):Q8 m.world.drawn (askOn p m):=by
 unfold askOn
 extract_lets mono rs ds pick
 have hpick:∀m,Q8 m.world.drawn (pick m):=by
  intro m
  dsimp only[pick]
  split
  ·trivial
  ·rename_i h1
   have k1:=qQ h1
   split
   ·exact k1
   ·split
    ·trivial
    ·rename_i h2
     have k2:=qQ h2;exact q_l k1 k2
 clear_value pick
 split
 ·trivial
 ·rename_i h1
  have k1:=qQ h1;clear h1
  extract_lets m1
  split
  ·exact (Xz _ _ _).le k1
  ·clear_value rs
   cases rs with
   | nil =>
    dsimp only
    split
    ·exact k1
    ·split
     ·exact k1
     ·split
      ·trivial
      ·trivial
   | cons r0 rs' =>
    dsimp only
    split
    ·exact (hpick _).le k1
    ·split
     ·trivial
     ·rename_i h2
      have k2:=qQ h2;exact (hpick _).le (q_l k1 k2)
     ·rename_i h2
      have k2:=qQ h2;exact q_l k1 k2
     ·rename_i h2
      have k2:=qQ h2;exact (hpick _).le (q_l k1 k2)
theorem KI (p:Program) (m:Machine):Q8 m.world.drawn (ask p m):=by
 unfold ask
 split
 ·split
  ·trivial
  ·rename_i W h1
   have k1:=qQ h1;have k2:=QH p m.gs m.rest W
   split
   ·rename_i m' h3
    rw[h3] at k2;exact (jE _ _).le (q_l k1 k2)
   ·exact xE.le k2 k1
  ·rename_i h1
   exact (jE _ _).le (qQ h1)
 ·exact jE _ _
theorem Ye (p:Program) (m:Machine):Q8 m.world.drawn (move p m):=by
 unfold move
 split
 ·split
  ·exact q_r
  ·trivial
 ·split
  ·split
   ·exact q_r
   ·exact KI p { m with rest:={ m.rest with slice:=none } }
  ·exact KI _ _
theorem Yc (p:Program) (m:Machine):xE m.world.drawn (step p m):=by
 unfold step stepT;have h:=Ye p m
 split
 ·rename_i m' i hm
  rw[hm] at h;exact (Q5 p m' i true).le h
 ·rename_i s o hm
  rw[hm] at h;exact h
theorem QG (p:Program):∀(n:Nat) (m:Machine),xE m.world.drawn (runN p n m)
 | 0,m=>q_r
 | n+1,m=>by
  unfold runN;have h:=Yc p m
  split
  ·rename_i m' hm
   rw[hm] at h;exact (QG p n m').le h
  ·exact h
theorem jr {p:Program}{m m':Machine}(h:Steps p m m'):m.world.drawn<=m'.world.drawn:=by
 obtain⟨n,hn⟩:=h;have k:=QG p n m;rw[hn] at k;exact k
theorem XG {P:Program}{f:FuncId}{args:Array Value}{R:Ending->World->Prop}(h:Calls P f args w R) (hr:∀e w',R e w'->e≠.outgrown):Calls P f args w fun e w'=>R e w'/\w.drawn<=w'.drawn:=by
 intro cs;obtain⟨e,w',fr,h1,h2,h3⟩:=h cs;refine⟨e,w',fr,⟨h1,?_⟩,h2,h3⟩;cases e with
 | outgrown=>exact absurd rfl (hr _ _ h1)
 | returned v=>exact jr h2
 | panicked c=>exact jr h2
end
section
open Go.RowKit Go.Shelf
def JQ:Go.Shelf.Ren:=⟨fun|6=>171|15=>96|14=>205|28=>155|29=>156|20=>228|21=>229|22=>230|23=>231|24=>232|25=>233|26=>234|27=>235|46=>250|47=>188|48=>189|49=>251|50=>252|57=>259|n=>n,fun|22=>23|24=>86|25=>209|3=>3|39=>142|0=>0|53=>196|55=>198|4=>4|46=>189|45=>188|50=>102|5=>5|9=>9|66=>225|70=>229|76=>265|77=>266|n=>n,fun|n=>n⟩
theorem q0M:Go.Proofs.SlLaysF0.n6 Tryz.prog JQ:={
 mixed:=by kernel_rfl,
 f6:=⟨Tryz.f171.name,by decide,Tryz.func171.trans (congrArg some (by kernel_rfl))⟩,
 f14:=⟨Tryz.f205.name,by decide,Tryz.func205.trans (congrArg some (by kernel_rfl))⟩,
 f15:=Tryz.func96.trans (congrArg some (by kernel_rfl)),
 f20:=⟨Tryz.f228.name,by decide,Tryz.func228.trans (congrArg some (by kernel_rfl))⟩,
 f21:=⟨Tryz.f229.name,by decide,Tryz.func229.trans (congrArg some (by kernel_rfl))⟩,
 f22:=⟨Tryz.f230.name,by decide,Tryz.func230.trans (congrArg some (by kernel_rfl))⟩,
 f23:=⟨Tryz.f231.name,by decide,Tryz.func231.trans (congrArg some (by kernel_rfl))⟩,
 f24:=⟨Tryz.f232.name,by decide,Tryz.func232.trans (congrArg some (by kernel_rfl))⟩,
 f25:=⟨Tryz.f233.name,by decide,Tryz.func233.trans (congrArg some (by kernel_rfl))⟩,
 f26:=⟨Tryz.f234.name,by decide,Tryz.func234.trans (congrArg some (by kernel_rfl))⟩,
 f27:=⟨Tryz.f235.name,by decide,Tryz.func235.trans (congrArg some (by kernel_rfl))⟩,
 f28:=Tryz.func155.trans (congrArg some (by kernel_rfl)),
 f29:=Tryz.func156.trans (congrArg some (by kernel_rfl)),
 f46:=⟨Tryz.f250.name,by decide,Tryz.func250.trans (congrArg some (by kernel_rfl))⟩,
 f47:=Tryz.func188.trans (congrArg some (by kernel_rfl)),
 f48:=Tryz.func189.trans (congrArg some (by kernel_rfl)),
 f49:=⟨Tryz.f251.name,by decide,Tryz.func251.trans (congrArg some (by kernel_rfl))⟩,
 f50:=⟨Tryz.f252.name,by decide,Tryz.func252.trans (congrArg some (by kernel_rfl))⟩,
 f57:=⟨Tryz.f259.name,by decide,Tryz.func259.trans (congrArg some (by kernel_rfl))⟩,
 t0:=Tryz.underlying0,
 a0:=Tryz.isAgg0,
 z0:=Tryz.sizeOf0,
 v0:=Tryz.zeroValue0,
 t3:=Tryz.underlying3,
 a3:=Tryz.isAgg3,
 z3:=Tryz.sizeOf3,
 v3:=Tryz.zeroValue3,
 t4:=Tryz.underlying4,
 a4:=Tryz.isAgg4,
 z4:=Tryz.sizeOf4,
 v4:=Tryz.zeroValue4,
 t5:=Tryz.underlying5,
 a5:=Tryz.isAgg5,
 z5:=Tryz.sizeOf5,
 v5:=Tryz.zeroValue5,
 t9:=Tryz.underlying9,
 a9:=Tryz.isAgg9,
 z9:=Tryz.sizeOf9,
 v9:=Tryz.zeroValue9,
 t22:=Tryz.underlying23,
 a22:=Tryz.isAgg23,
 z22:=Tryz.sizeOf23,
 v22:=Tryz.zeroValue23,
 t25:=Tryz.underlying209,
 a25:=Tryz.isAgg209,
 z25:=Tryz.sizeOf209,
 v25:=Tryz.zeroValue209,
 t39:=Tryz.underlying142,
 a39:=Tryz.isAgg142,
 z39:=Tryz.sizeOf142,
 v39:=Tryz.zeroValue142,
 t45:=Tryz.underlying188,
 a45:=Tryz.isAgg188,
 z45:=Tryz.sizeOf188,
 v45:=Tryz.zeroValue188,
 t46:=Tryz.underlying189,
 a46:=Tryz.isAgg189,
 z46:=Tryz.sizeOf189,
 v46:=Tryz.zeroValue189,
 t50:=Tryz.underlying102,
 a50:=Tryz.isAgg102,
 z50:=Tryz.sizeOf102,
 v50:=Tryz.zeroValue102,
 t53:=Tryz.underlying196,
 a53:=Tryz.isAgg196,
 z53:=Tryz.sizeOf196,
 v53:=Tryz.zeroValue196,
 t55:=Tryz.underlying198,
 a55:=Tryz.isAgg198,
 z55:=Tryz.sizeOf198,
 v55:=Tryz.zeroValue198,
 t66:=Tryz.underlying225,
 a66:=Tryz.isAgg225,
 z66:=Tryz.sizeOf225,
 v66:=Tryz.zeroValue225,
 t70:=Tryz.underlying229,
 a70:=Tryz.isAgg229,
 z70:=Tryz.sizeOf229,
 v70:=Tryz.zeroValue229,
 t76:=Tryz.underlying265,
 a76:=Tryz.isAgg265,
 z76:=Tryz.sizeOf265,
 v76:=Tryz.zeroValue265,
 t77:=Tryz.underlying266,
 a77:=Tryz.isAgg266,
 z77:=Tryz.sizeOf266,
 v77:=Tryz.zeroValue266 }
open Go.Sort
theorem q09 {W:World}(h:Ext W w') (hd:W.drawn<=w'.drawn):∃q os',w'=grow (W.drewN q) os':=by
 have hb:Below W.heap.size W w':=h;refine⟨w'.drawn-W.drawn,w'.heap.extract W.heap.size w'.heap.size,?_⟩
 have hheap:w'.heap=W.heap++w'.heap.extract W.heap.size w'.heap.size:=by
  apply Array.ext_getElem?
  intro i
  rcases Nat.lt_or_ge i W.heap.size with hi|hi
  ·rw[Array.getElem?_append_left hi];exact hb.block i hi
  ·rw[Array.getElem?_append_right hi,Array.getElem?_extract]
   split
   ·congr 1;omega
   ·rename_i h9
    rw[Array.getElem?_eq_none];omega
 have hdr:w'.drawn=W.drawn+(w'.drawn-W.drawn):=by omega
 show w'={ heap:=W.heap++w'.heap.extract W.heap.size w'.heap.size,tape:=W.tape,drawn:=W.drawn+(w'.drawn-W.drawn),os:=W.os,output:=W.output }
 cases w' with
 | mk heap tape drawn os output =>
  simp only at hheap hdr;rw[<-hheap,<-hdr];have h1:=hb.os;have h2:=hb.tape;have h3:=hb.output;simp only at h1 h2 h3;rw[h1,h2,h3]
theorem Vy (w:World) (m:Nat) (lo hi:Nat):Chg lo hi w (Sort.ahead w m):=⟨rfl,rfl,rfl,q_r,fun _ _ _=>rfl⟩
theorem JZ{f:Array Value->Array Value}(h:k≠g):(mapBlock w g f).heap[k]?=w.heap[k]?:=by
 show (w.heap.modify g (onCells f))[k]?=_
 rw[Array.getElem?_modify,if_neg (fun e=>h e.symm)]
theorem V5{f:Array Value->Array Value}{cs:Array Value}{t:TypeId}{fr:Nat×Nat}(h:w.heap[g]?=some (.cells cs t fr)):(mapBlock w g f).heap[g]?=some (.cells (f cs) t fr):=by
 show (w.heap.modify g (onCells f))[g]?=_
 rw[Array.getElem?_modify,if_pos rfl,h]
 rfl
theorem Jh (w:World) (os:Array Obj) (lo hi:Nat):Chg lo hi w (grow w os):=⟨rfl,rfl,rfl,by show w.heap.size<=(w.heap++os).size;simp,fun k hk _=>by show (w.heap++os)[k]?=_;rw[Array.getElem?_append_left hk]⟩
theorem YB {α:Type} [Inhabited α] (enc:α->List Value) (k:Nat) (w:World) (g off m:Nat) (d:Array α) (os:Array Obj) (hnu:NoU w g):Chg g (g+1) w (sortWorldK enc k w g off m d os):=by
 refine ((Vy w m _ _).trans ?_).trans (Jh _ os _ _);refine⟨rfl,rfl,rfl,?_,fun j hj h=>JZ ?_⟩
 ·show _<=((Sort.ahead w m).heap.modify g _).size
  simp
 ·rintro rfl
  rcases h with h|h|⟨cs,fr,h⟩
  ·omega
  ·omega
  ·exact hnu cs fr h
def KD (t:Tg):List Value:=[sV t.name,sV t.target]
def cfT (x y:Tg):Int:=if Go.Op.bytesLess x.name y.name then -1 else 1
theorem Jq (x y:Tg):ltOf cfT x y=decide (x.name<y.name):=by
 unfold ltOf cfT;rw[bytesLess_eq]
 by_cases h:x.name<y.name
 ·rw[q_t h];rfl
 ·rw[q_f h];rfl
theorem q1O:SWO (ltOf cfT) where
 irrefl x:=by rw[Jq];exact q_f (List.lt_irrefl _)
 trans x y z h1 h2:=by
  rw[Jq] at *;exact q_t (List.lt_trans (of_decide_eq_true h1) (of_decide_eq_true h2))
 ntrans x y z h1 h2:=by
  rw[Jq] at *;refine q_f (List.not_lt.2 (List.le_trans (List.not_lt.1 (of_decide_eq_false h2)) (List.not_lt.1 (of_decide_eq_false h1))))
theorem Y6 {x y:Tg}:Calls Tryz.prog 172 #[.agg #[sV x.name,sV x.target],.agg #[sV y.name,sV y.target]] w (qH w (.int .i64 (cfT x y))):=by
 obtain⟨r,hr⟩:=qf (cfT x y);rw[<-hr.out];obtain⟨B1,hB1⟩:=qf (bA x.name);obtain⟨B2,hB2⟩:=qf (bA x.target);obtain⟨B3,hB3⟩:=qf (bA y.name);obtain⟨B4,hB4⟩:=qf (bA y.target);rw[qO,qO,qO,qO,<-hB1.out,<-hB2.out,<-hB3.out,<-hB4.out];obtain⟨l1,hl1⟩:=qf (Go.Op.bytesLess x.name y.name);have ul1:Go.Op.bytesLess B1.toList B3.toList=l1:=by rw[hB1.out,hB3.out,zx,zx,hl1.out]
 have HR:Hid (r=if l1 then -1 else 1):=by rw[Hid,hr.out,hl1.out];rfl
 go_enter Tryz.func172,Tryz.ntmps172;go_upto_region 1 with (fail);refine zu ?_;intro w1 hE hsz B0 B1;obtain⟨p0,p1,-⟩:=cells2 B0;obtain⟨q0,q1,-⟩:=cells2 B1;have HX:=q_h hE;clear hE B0 B1 hsz;cases l1 with
 | true =>
  go_wp2
  first|go_ret|skip
  rw[HR.out];exact⟨rfl,HX.out⟩
 | false =>
  go_wp2
  first|go_ret|skip
  rw[HR.out];exact⟨rfl,HX.out⟩
theorem X4 (L:List Tg) (j:Nat) (hj:j<L.length*2):(tgX L L.length)[j]?=some ((KD (L.getD (j / 2) default))[j % 2]!):=by
 have h1:j=j / 2*2+j % 2:=by omega
 have h2:=yC (fun j=>sV (L.getD j default).name) (fun j=>sV (L.getD j default).target) (j % 2) (by omega) L.length (j / 2) (by omega);rw[<-h1] at h2;refine Eq.trans h2 ?_;have h3:j % 2=0\/j % 2=1:=by omega
 rcases h3 with h3|h3<;>rw[h3]<;>rfl
theorem KC (L:List Tg) (j:Nat) (hj:j<L.length*2):some ((flatK KD 2 L.toArray)[j]!)=(tgX L L.length)[j]?:=by
 have h1:L.toArray[j / 2]! = L.getD (j / 2) default:=by
  have h2:j / 2<L.length:=by omega
  rw[List.getD_eq_getElem?_getD,List.getElem?_eq_getElem h2];simp[h2]
 rw[get_flatK KD 2 L.toArray j (by simpa using hj),X4 L j hj,h1]
theorem XZ{L:List Tg}(h:TgG base w v L) (hn2:L.length<=100000) :
  Calls Tryz.prog 171 #[v,.func (.func 172) #[] #[]] w (fun e w'=>e=.returned (.tuple #[])/\∃R:List Tg,R.Perm L/\(R.Pairwise fun a b=>¬b.name<a.name)/\TgG base w' v R/\∃g,base<=g/\Chg g (g+1) w w'):=by
 rcases h.2.2 with ⟨h1,h2⟩|⟨g,cap,cs,rfl,hb,hh,h3,h4,h5,h6⟩
 ·have h0:L=[]:=List.eq_nil_of_length_eq_zero h2;subst h0;subst h1;refine Calls.mono (AnyF.slices_SortFunc_none q0M none 0 _ w) ?_;rintro e w' ⟨rfl,rfl⟩;exact⟨rfl,[],List.Perm.refl _,List.Pairwise.nil,h,w'.heap.size,h.1,rfl,rfl,rfl,q_r,fun _ _ _=>rfl⟩
 have hglt:g<w.heap.size:=qK hh;have hnu:NoU w g:=NoU.mk hh (by decide)
 have hcs:∀(j:Nat) (u:Value),(tgX L L.length)[j]?=some u->cs[j]?=some u:=fun j u hj=>by
  have hjl:=(List.getElem?_eq_some_iff.1 hj).1;rw[h.2.1] at hjl;have h9:(cs.toList.take (L.length*2))[j]?=some u:=by rw[h6];exact hj
  rw[List.getElem?_take,if_pos hjl] at h9;simpa using h9
 let d:Array Tg:=L.toArray
 have hds:d.size=L.length:=by simp[d]
 have hH:HoldsK KD 2 w g 0 d:=by
  intro j hj;rw[size_flatK,hds] at hj;refine⟨?_,by rw[Nat.zero_add];exact qp hh j⟩
  show _=some ((flatK KD 2 d)[j]!)
  rw[KC L j hj,Nat.zero_add,qj hh,X4 L j hj];exact hcs j _ (X4 L j hj)
 have hcmp:CmpLays Tryz.prog 172 #[] KD 2 cfT g 0 d.size w:=by
  intro m os dk hdk u v;refine (XG Y6 (fun e w' h9=>by obtain⟨rfl,-⟩:=h9;exact Ending.noConfusion)).mono ?_;rintro e w' ⟨⟨rfl,e1⟩,hdr⟩;exact⟨rfl,q09 e1 hdr⟩
 have hcon:=AnyQ.slices_SortFunc q0M 2 Tryz.isAgg86 Tryz.sizeOf86 KD (fun _=>rfl) (fun x v hv=>by simp[KD] at hv;rcases hv with rfl|rfl<;>rfl) cfT q1O 172 #[] g 0 cap d w (enters_of Tryz.func172 (by kernel_rfl) rfl) hcmp hH hglt (by omega);rw[hds] at hcon;refine Calls.mono hcon ?_;rintro e w' ⟨rfl,d',m,os,⟨hp1,-,hp2⟩,hs,rfl⟩;have hd':d'.size=L.length:=by rw[hp1,hds]
 have hC:=YB KD 2 w g 0 m d' os hnu;have hHK:=holdsK_sortWorldK_c KD 2 w g 0 d d' m os hH hglt hp1
 have hperm:d'.toList.Perm L:=by
  have e1:d'.extract 0 L.length=d':=by rw[<-hd'];simp
  have e2:d.extract 0 L.length=d:=by rw[<-hds];simp
  rw[e1,e2] at hp2;exact hp2
 obtain⟨R,hR⟩:∃R,R=d'.toList:=⟨_,rfl⟩
 have hRd:d'=R.toArray:=by rw[hR]
 subst hRd;have hRl:R.length=L.length:=by simpa using hd'
 rw[List.toList_toArray] at hperm;have h1:(Sort.ahead w m).heap[g]?=some (.cells cs 86 (0,0)):=hh;have h2:(putRowK KD 2 (Sort.ahead w m) g 0 R.toArray).heap[g]?=some (.cells (putCells id 0 (flatK KD 2 R.toArray) cs) 86 (0,0)):=V5 h1
 have h7:(grow (putRowK KD 2 (Sort.ahead w m) g 0 R.toArray) os).heap[g]?=some (.cells (putCells id 0 (flatK KD 2 R.toArray) cs) 86 (0,0)):=by
  rw[<-h2];exact (Jh (putRowK KD 2 (Sort.ahead w m) g 0 R.toArray) os 0 0).block g (qK h2) (.inr (.inl (Nat.zero_le _)))
 refine⟨rfl,R,hperm,?_,⟨q_l h.1 hC.size,xq _ _ _,.inr ⟨g,cap,_,by rw[hRl],hb,h7,by omega,h4,by unfold putCells;rw[Array.size_mapIdx];exact h5,?_⟩⟩,g,hb,hC⟩
 ·rw[List.pairwise_iff_getElem];intro i j hi hj hij;have h8:=hs i j (Nat.zero_le _) hij (by omega);rw[Jq] at h8;have h9:=of_decide_eq_false h8;have e1:R.toArray[j]! = R[j]:=by simp[hj]
  have e2:R.toArray[i]! = R[i]:=by simp[hi]
  rw[e1,e2] at h9;exact h9
 ·refine List.ext_getElem? fun j=>?_
  rw[List.getElem?_take]
  by_cases hj:j<R.length*2
  ·rw[if_pos hj,Array.getElem?_toList];have h9:=(hHK j (by rw[size_flatK];simpa using hj)).1;rw[Nat.zero_add] at h9;have h11:(sortWorldK KD 2 w g 0 m R.toArray os).cell? ⟨g,j,none⟩=(tgX R R.length)[j]?:=h9.trans (KC R j hj);rw[qj (show (sortWorldK KD 2 w g 0 m R.toArray os).heap[g]?=_ from h7)] at h11;exact h11
  ·rw[if_neg hj]
   symm
   rw[List.getElem?_eq_none_iff];have h9:(tgX R R.length).length=R.length*2:=xq _ _ _;omega
end
section
open Go.RowKit
theorem Y5 {L:List Tg}{k t:Byt}(h:jK w (.slice A n c) L) (hs:ZC L) (hl:n<=1000) (ht:vP L k=true\/t≠[]):Calls Tryz.prog 118 #[.slice A n c,sV k,sV t] w (VY w (yw L k t)):=by
 have HT:=q_h h;have HN:=q_h h.len.1;have HS:=q_h hs;have HT9:=q_h ht;obtain⟨R9,hR⟩:=qf (VY w (yw L k t));rw[<-hR.out];obtain⟨KB,hKB⟩:=qf (bA k);obtain⟨TB,hTB⟩:=qf (bA t);rw[qO k,<-hKB.out,qO t,<-hTB.out];have HKV:Hid (Value.string KB=sV k):=by rw[Hid,hKB.out];rfl
 have HTV:Hid (Value.string TB=sV t):=by rw[Hid,hTB.out];rfl
 have HG0:Hid (TgG w.heap.size w (.slice none 0 0) []):=⟨q_r,by simp[tgX,obX],.inl ⟨rfl,rfl⟩⟩
 clear h hs ht;go_enter Tryz.func118,Tryz.ntmps118;go_wp2_with fail
 go_loopw [7,12] (fun ov iv wr=>∃(i m:Nat) (M:List Tg) (A':Option Addr) (c':Nat),i<=n/\m<=i/\iv=.int .i64 (i:Int)/\ov=.slice A' m c'/\Hid (m=M.length)/\Hid (M=(L.take i).filter (fun u=>!decide (u.name=k)))/\Hid (TgG w.heap.size wr (.slice A' m c') M)/\Hid (Ext w wr)) (fun _ iv _=>n-(intOf iv).toNat)
 case atStart=>exact⟨0,0,[],none,0,Nat.zero_le _,q_r,rfl,rfl,rfl,rfl,HG0,Ext.refl w⟩
 case round =>
  clear HG0;obtain⟨i,m,M,A',c',hin,hmi,rfl,rfl,HM,HF,HG,HX⟩:=hrel
  by_cases hlt:i<n
  case neg =>
   obtain rfl:i=n:=by omega
   have u5:decide ((i:Int)<(i:Int))=false:=q_f (by omega)
   have HF2:Hid (M=L.filter (fun u=>!decide (u.name=k))):=by
    have h1:=HF.out;rw[List.take_of_length_le (by have:=HN.out;omega)] at h1;exact h1
   by_cases h0:t=[]
   ·have ut:(TB.toList == [])=true:=by rw[hTB.out,zx,h0];rfl
    have HM9:Hid (m=M.length/\M=q1F L k t):=⟨HM.out,by unfold q1F;rw[if_pos h0,List.append_nil];exact HF2.out⟩
    have HG9:=HG;have HX9:=HX;have hm9b:Hid (m<=2000):=by rw[Hid];omega
    clear HF HF2 HM HG HX;obtain⟨A9,rfl⟩:∃A9,A9=A':=⟨_,rfl⟩
    obtain⟨c9,rfl⟩:∃c9,c9=c':=⟨_,rfl⟩
    obtain⟨m9,rfl⟩:∃m9,m9=m:=⟨_,rfl⟩
    go_wp2_with (go_at_call 171;refine q_o ?_);refine (XZ HG9.out (by have:=HM9.out.1;have:=hm9b.out;omega)).mono ?_;rintro e w8 ⟨rfl,R,hp,hsr,hG8,g8,hb8,C8⟩;have HRE:Hid (R=yw L k t):=YM HS.out HT9.out (by rw[HM9.out.2] at hp;exact hp) hsr;have HRL:Hid (m9=R.length):=by rw[Hid,hp.length_eq];exact HM9.out.1
    have HX8:Hid (Ext w w8):=C8.ext HX9.out hb8;have HG8:=q_h hG8;clear hp hsr hG8 hb8 C8;go_wp2
    first|go_ret|skip
    rw[hR.out];refine⟨A9,c9,by rw[<-HRE.out,<-HRL.out];rfl,?_,HX8.out⟩;rw[<-HRE.out,<-HRL.out];exact HG8.out
   ·have ut:(TB.toList == [])=false:=by rw[hTB.out,zx];simpa using h0
    go_wp2_with (at_builtin;refine q_o ?_);refine qo ?_;intro w6 e6 hsz6 B6
    have HGL:Hid (qI 86 2 w.heap.size w6 (.slice A' m c') m (tgX M M.length)):=by
     have h1:=HG.out.ext e6;unfold TgG at h1;rw[<-HM.out] at h1 ⊢;exact h1
    refine zh kF rfl _ _ 23 Tryz.underlying23 rfl (by rfl) HGL.out (by rfl) (m:=1) (c:=1) (news:=[.string KB,.string TB]) rfl (fun j u hj=>(zq B6 j).trans (by simpa using hj)) (by simp[Value.oneCell']) (by omega) ?_;rintro v9 w9 hG9 - ⟨g9,hg9,-,C9⟩;obtain⟨A9,c9,rfl⟩:=hG9.form;have HX9:Hid (Ext w w9):=C9.ext (HX.out.trans e6) (by omega);obtain⟨m9,hm9⟩:=qf (m+1);have hm9b:Hid (m9<=2000):=by rw[Hid,hm9.out];omega
    obtain⟨M9,hMM⟩:=qf (M ++ [⟨k,t⟩])
    have HG9:Hid (TgG w.heap.size w9 (.slice A9 m9 c9) M9):=by
     rw[hMM.out,hm9.out];refine TgG.snoc ?_;have h1:=hG9;rw[HKV.out,HTV.out] at h1;rw[<-HM.out] at h1 ⊢;exact h1
    have HM9:Hid (m9=M9.length/\M9=q1F L k t):=⟨by rw[hm9.out,hMM.out,List.length_append,HM.out];rfl,by rw[hMM.out];unfold q1F;rw[if_neg h0,HF2.out]⟩
    rw[<-hm9.out];clear hG9 C9 HG HX e6 B6 hsz6 HGL HF HF2 hg9;go_wp2_with (go_at_call 171;refine q_o ?_);refine (XZ HG9.out (by have:=HM9.out.1;have:=hm9b.out;omega)).mono ?_;rintro e w8 ⟨rfl,R,hp,hsr,hG8,g8,hb8,C8⟩;have HRE:Hid (R=yw L k t):=YM HS.out HT9.out (by rw[HM9.out.2] at hp;exact hp) hsr;have HRL:Hid (m9=R.length):=by rw[Hid,hp.length_eq];exact HM9.out.1
    have HX8:Hid (Ext w w8):=C8.ext HX9.out hb8;have HG8:=q_h hG8;clear hp hsr hG8 hb8 C8;go_wp2
    first|go_ret|skip
    rw[hR.out];refine⟨A9,c9,by rw[<-HRE.out,<-HRL.out];rfl,?_,HX8.out⟩;rw[<-HRE.out,<-HRL.out];exact HG8.out
  have u5:decide ((i:Int)<(n:Int))=true:=q_t (by omega);have hii:(i:Int)<(n:Int):=by omega
  have hil:i<L.length:=by have:=HN.out;omega
  obtain⟨g,off,rfl,k0,k1⟩:=(HT.out.ext HX.out).get hlt;obtain⟨N1,hN1⟩:=qf (bA (L.getD i default).name);obtain⟨N2,hN2⟩:=qf (bA (L.getD i default).target);rw[qO,<-hN1.out] at k0;rw[qO,<-hN2.out] at k1;obtain⟨q,hq⟩:=qf (decide ((L.getD i default).name=k));have ueq:(N1.toList == KB.toList)=q:=by rw[hN1.out,hKB.out,KU,hq.out]
  have HTK:Hid ((L.take (i+1)).filter (fun u=>!decide (u.name=k))=M++(if q=true then [] else [L.getD i default])):=by
   rw[Hid,take_snoc L default hil,List.filter_append,<-HF.out]
   congr 1
   rw[hq.out]
   by_cases h9:(L.getD i default).name=k
   ·rw[q_t h9,if_pos rfl,List.filter_cons_of_neg (by show ¬(!decide ((L.getD i default).name=k))=true;rw[q_t h9];simp),List.filter_nil]
   ·rw[q_f h9,if_neg (by simp),List.filter_cons_of_pos (by show (!decide ((L.getD i default).name=k))=true;rw[q_f h9];rfl),List.filter_nil]
  go_upto_region 5 with (fail);refine qo ?_;intro w4 e4 hsz4 BQ;have HG4:=q_h (HG.out.ext e4);have HX4:=q_h (HX.out.trans e4);obtain⟨k0,k1,-⟩:=cells2 BQ;clear e4 HG HX BQ hsz4;cases q with
  | true =>
   have HF2:Hid (M=(L.take (i+1)).filter (fun u=>!decide (u.name=k))):=by
    have h1:=HTK.out;rw[if_pos rfl,List.append_nil] at h1;exact h1.symm
   go_wp2;go_roundw
   case rel=>exact⟨i+1,m,M,A',c',by omega,by omega,by go_num,rfl,HM,HF2,HG4,HX4⟩
   case measure=>simp[intOf];try omega
  | false =>
   go_wp2_with (at_builtin;refine q_o ?_);refine qo ?_;intro w6 e6 hsz6 B6
   have HGL:Hid (qI 86 2 w.heap.size w6 (.slice A' m c') m (tgX M M.length)):=by
    have h1:=HG4.out.ext e6;unfold TgG at h1;rw[<-HM.out] at h1 ⊢;exact h1
   refine zh kF rfl _ _ 23 Tryz.underlying23 rfl (by rfl) HGL.out (by rfl) (m:=1) (c:=1) (news:=[.string N1,.string N2]) rfl (fun j u hj=>(zq B6 j).trans (by simpa using hj)) (by simp[Value.oneCell']) (by omega) ?_;rintro v9 w9 hG9 - ⟨g9,hg9,-,C9⟩;obtain⟨A9,c9,rfl⟩:=hG9.form;have HX9:Hid (Ext w w9):=C9.ext (HX4.out.trans e6) (by omega)
   have HF2:Hid (M ++ [L.getD i default]=(L.take (i+1)).filter (fun u=>!decide (u.name=k))):=by
    have h1:=HTK.out;rw[if_neg (by simp)] at h1;exact h1.symm
   obtain⟨M9,hMM⟩:=qf (M ++ [L.getD i default]);rw[<-hMM.out] at HF2;have HM9:Hid (m+1=M9.length):=by rw[Hid,hMM.out,List.length_append,HM.out];rfl
   have HG9:Hid (TgG w.heap.size w9 (.slice A9 (m+1) c9) M9):=by
    rw[hMM.out];refine TgG.snoc ?_;have h1:=hG9;rw[hN1.out,hN2.out] at h1;rw[<-HM.out] at h1 ⊢;exact h1
   clear hG9 C9 HG4 HX4 e6 B6 hsz6 HGL HF hg9 k0 k1;go_wp2;go_roundw
   case rel=>exact⟨i+1,m+1,M9,A9,c9,by omega,by omega,by go_num,rfl,HM9,HF2,HG9,HX9⟩
   case measure=>simp[intOf];try omega
theorem wQ {P:Program}(w:World) (t e ty:TypeId) (z:Value) (ht:P.underlying t=some (.slice e)) (hv:∀w,(zeroValue e).run P w=.ok z w) (h1:∀u∈z.cells.toList,u.oneCell'=true) (b o c:Nat)
  (hc:∀j,j<z.cells.size->(w.cell? ⟨b,o+j,none⟩).isSome=true) (hf:∀j,j<z.cells.size->w.frozen? ⟨b,o+j,none⟩=false) :
  (Builtin.clear_ #[t] ty #[.slice (some ⟨b,o,none⟩) 1 c]).run P w=.ok (.tuple #[]) (w.setCells b o z.cells.toList):=by
 have hzc:(Builtin.zeroCells z.cells 1).toList=z.cells.toList:=by
  unfold Builtin.zeroCells
  apply List.ext_getElem
  ·simp
  ·intro i h1 h2;have h3:i<z.cells.size:=by simpa using h2
   simp[Nat.mod_eq_of_lt h3,h3]
 have hst:=run_storeCells_cells (P:=P) b o z.cells.toList 0 w (by simpa using hc) (by simpa using hf) h1;simp only[Nat.add_zero] at hst;simp[Builtin.clear_,run_underlying ht,hv,hzc,hst]
def q3i (Z:Nat) (ET:TypeId) (g n cap i:Nat) (w:World) (e:Ending) (w':World):Prop :=
 e=.returned (.slice (some ⟨g,0,none⟩) (n-1) cap)/\Chg g (g+1) w w'/\(∃cs,w'.heap[g]?=some (.cells cs ET (0,0))/\cs.size=cap*Z)/\(∀k,k<i*Z->w'.cell? ⟨g,k,none⟩=w.cell? ⟨g,k,none⟩)/\(∀k,i*Z<=k->k<(n-1)*Z->w'.cell? ⟨g,k,none⟩=w.cell? ⟨g,k+Z,none⟩)
theorem Ws (w:World):(zeroValue 86).run Tryz.prog w=.ok (.agg #[.string ⟨#[]⟩,.string ⟨#[]⟩]) w:=by kernel_rfl
theorem Je:(Tryz.prog.info? 86).map (fun i=>(i.zero,i.size,i.bytes))=some (some (.agg #[.string ⟨#[]⟩,.string ⟨#[]⟩]),2,32):=kF.inf
theorem Xb{cap:Nat}{cs:Array Value}(hb:w.heap[g]?=some (.cells cs 86 (0,0))) (hsz:cs.size=cap*2) (hcm:cap<=9223372036854775807) (hn:n<=cap) (hi:i<n) (hone:∀k,k<n*2->∃v,w.cell? ⟨g,k,none⟩=some v/\v.oneCell'=true){J:Int}(hJ:J=(i:Int)+1) :
  Calls Tryz.prog 169 #[.slice (some ⟨g,0,none⟩) n cap,.int .i64 (i:Int),.int .i64 J] w (q3i 2 86 g n cap i w):=by
 obtain⟨i0,hi0,hz0,hz1,hz2⟩:=info_parts Je;have hT:NoU w g:=NoU.mk hb (by decide)
 obtain⟨news,hnl,hnv,hno⟩:∃news:List Value,news.length=(n-(i+1))*2/\(∀j u,news[j]?=some u->w.cell? ⟨g,(i+1)*2+j,none⟩=some u)/\∀u∈news,u.oneCell'=true:=by
  refine⟨(List.range ((n-(i+1))*2)).map (fun j=>(w.cell? ⟨g,(i+1)*2+j,none⟩).getD undef),by simp,fun j u hu=>?_,fun u hu=>?_⟩
  ·rw[List.getElem?_map] at hu;obtain⟨j',hj',rfl⟩:=Option.map_eq_some_iff.1 hu;have hj2:=List.getElem?_eq_some_iff.1 hj';obtain⟨hj3,hj4⟩:=hj2;simp at hj3 hj4
   subst hj4;obtain⟨v,hv,-⟩:=hone ((i+1)*2+j) (by omega);rw[hv];rfl
  ·obtain⟨j,hj,rfl⟩:=List.mem_map.1 hu;have hj3:j<(n-(i+1))*2:=by simpa using hj
   obtain⟨v,hv,h1⟩:=hone ((i+1)*2+j) (by omega);rw[hv];exact h1
 have hfz:∀k,w.frozen? ⟨g,k,none⟩=false:=fun k=>qp hb k
 obtain⟨AA,hAA,hsrc⟩:∃A:Addr,(if cap=i+1 then some (⟨g,0,none⟩:Addr) else some ⟨g,(i+1)*2,none⟩)=some A/\Hid (∀t u,news[t]?=some u->w.drew.cell? (A.add t)=some u):=by
  by_cases h:cap=i+1
  ·refine⟨⟨g,0,none⟩,by simp[h],fun t u hu=>?_⟩;have h0:news.length=0:=by rw[hnl,show n-(i+1)=0 by omega,Nat.zero_mul]
   rw[List.length_eq_zero_iff.1 h0] at hu;simp at hu
  ·refine⟨⟨g,(i+1)*2,none⟩,by simp[h],fun t u hu=>?_⟩;rw[q0t];exact hnv t u hu
 obtain⟨w1,hw1⟩:∃w1,w1=w.drew.setCells g (0+i*2) news:=⟨_,rfl⟩
 have U1:Upd g w.drew w1:=by rw[hw1];exact vZ g news _ w.drew w.drew (Upd.refl g w.drew)
 obtain⟨cs1,hb1,hs1⟩:∃cs1,w1.heap[g]?=some (.cells cs1 86 (0,0))/\cs1.size=cs.size:=by rw[hw1];exact Qc g _ _ news _ cs w.drew hb
 have hthere:∀k,k<n*2->(w.drew.cell? ⟨g,k,none⟩).isSome=true:=fun k hk=>by obtain⟨v,hv,-⟩:=hone k hk;show (w.cell? _).isSome=true;rw[hv];rfl
 have hin1:∀j (hj:j<news.length),w1.cell? ⟨g,0+i*2+j,none⟩=some news[j]:=by
  rw[hw1];exact World.cell?_setCells_in g news (0+i*2) w.drew (fun j hj=>hthere _ (by omega))
 have hout1:∀k,k<i*2->w1.cell? ⟨g,k,none⟩=w.cell? ⟨g,k,none⟩:=fun k hk=>by
  rw[hw1];exact World.cell?_setCells_out g news (0+i*2) w.drew ⟨g,k,none⟩ (fun _ _=>.inl (by simp only;omega))
 have hc1:∀k,k<cap*2->(w1.cell? ⟨g,k,none⟩).isSome=true:=fun k hk=>by
  rw[qj hb1,Array.getElem?_eq_getElem (by omega)];rfl
 have hrun:=wQ (P:=Tryz.prog) w1 23 86 0 (Value.agg #[.string ⟨#[]⟩,.string ⟨#[]⟩]) Tryz.underlying23 Ws (List.all_eq_true.1 (by rfl)) g ((n-1)*2) (cap-(n-1)) (fun j hj=>hc1 _ (by have h9:j<2:=hj;omega)) (fun j hj=>qp hb1 _);obtain⟨w2,hw2⟩:∃w2,w2=w1.setCells g ((n-1)*2) ((Value.agg #[.string ⟨#[]⟩,.string ⟨#[]⟩])).cells.toList:=⟨_,rfl⟩
 have U2:Upd g w1 w2:=by rw[hw2];exact vZ g _ _ w1 w1 (Upd.refl g w1)
 obtain⟨cs2,hb2,hs2⟩:∃cs2,w2.heap[g]?=some (.cells cs2 86 (0,0))/\cs2.size=cs1.size:=by rw[hw2];exact Qc g _ _ _ _ cs1 w1 hb1
 have hout2:∀k,k<(n-1)*2->w2.cell? ⟨g,k,none⟩=w1.cell? ⟨g,k,none⟩:=fun k hk=>by
  rw[hw2];exact World.cell?_setCells_out g _ _ w1 ⟨g,k,none⟩ (fun _ _=>.inl (by simp only;omega))
 rw[<-hw2] at hrun
 have HFIN:Hid (Chg g (g+1) w w2/\(∃cs,w2.heap[g]?=some (.cells cs 86 (0,0))/\cs.size=cap*2)/\(∀k,k<i*2->w2.cell? ⟨g,k,none⟩=w.cell? ⟨g,k,none⟩)/\(∀k,i*2<=k->k<(n-1)*2->w2.cell? ⟨g,k,none⟩=w.cell? ⟨g,k+2,none⟩)):=by
  refine⟨(((Ext.refl w).drew.chg g (g+1)).trans (U1.chg hT)).trans (U2.chg (NoU.mk hb1 (by decide))),⟨cs2,hb2,by omega⟩,fun k hk=>?_,fun k hk1 hk2=>?_⟩
  ·rw[hout2 k (by omega),hout1 k hk]
  ·obtain⟨j,rfl⟩:∃j,k=0+i*2+j:=⟨k-i*2,by omega⟩
   have hj:j<news.length:=by rw[hnl];omega
   rw[hout2 _ hk2,hin1 j hj];have h9:=hnv j _ (List.getElem?_eq_getElem hj);rw[show 0+i*2+j+2=(i+1)*2+j by omega];exact h9.symm
 have s1:Hid (news.length=(n-(i+1))*2):=hnl;have s2:=q_h hno;have s3:Hid (∀t,t<news.length->(w.drew.cell? ⟨g,0+i*2+t,none⟩).isSome=true/\w.drew.frozen? ⟨g,0+i*2+t,none⟩=false):=fun t ht=>⟨hthere _ (by omega),hfz _⟩
 have HW1:=q_h hw1;have hl9:i+(n-(i+1))=n-1:=by omega
 have hJ1:((i:Int) == J)=false:=beq_eq_false_iff_ne.2 (by omega);have hJ2:J.toNat=i+1:=by omega
 obtain⟨q,hq⟩:=qf (n-1);rw[<-hq.out] at hl9 hrun HFIN;have hqn:q+1=n:=by rw[hq.out];omega
 have hqc:¬cap=q:=by omega
 have hnq:n-q=1:=by omega
 clear hw1 hw2 U1 U2 hthere hin1 hout1 hout2 hc1 hfz hone hnv hnl hno hb1 hb2 hs1 hs2 hT hb hsz
 (try simp only[Nat.mul_one] at hAA hrun)
 go_enter Tryz.func169,Tryz.ntmps169;go_upto_region 5 with (fail);have eC:=(Ext.refl w).drew;refine ql (fun w'=>True) [6] (by kernel_rfl) (by exact trivial) (fun hHeld=>?_);refine sP 0 (h:=?_);refine sP 1 (h:=?_);refine sP 2 (h:=?_);refine sP 3 (h:=?_);refine sP 4 (h:=?_);refine sP 5 (h:=?_);refine qC (i:=6) rfl (by kernel_rfl) (by kernel_rfl) (fun K hK=>?_);refine step_append_room rfl _ _ 23 rfl 86 i0 2 Tryz.underlying23 hi0 hz1 g 0 i cap (by simp[Act.eval]) AA (n-(i+1)) (cap-(i+1)) news (by simp[Act.eval,hAA]) s1.out hsrc.out s2.out (by omega) s3.out ?_;rw[<-HW1.out,hl9];refine hK.out _ _ ?_;clear hK K;try simp only[nr]
 refine sP 7 (h:=?_);refine qm (by kernel_rfl) ?_ _;clear hHeld;go_wp2;go_ret;refine⟨?_,?_⟩
 ·rw[<-hq.out];rfl
 ·have h9:=HFIN.out;rw[hq.out] at h9;exact h9
def tgC (L:List Tg):List Value:=L.flatMap fun t=>[sV t.name,sV t.target]
theorem xN (a b:List Tg):tgC (a++b)=tgC a++tgC b:=List.flatMap_append
theorem vF (a:Tg) (b:List Tg):tgC (a :: b)=[sV a.name,sV a.target]++tgC b:=rfl
theorem zD:∀L:List Tg,(tgC L).length=L.length*2
 | []=>rfl
 | a :: L=>by rw[vF,List.length_append,zD L];show 2+_=(L.length+1)*2;omega
theorem XQ (L:List Tg):∀n,n<=L.length->tgX L n=tgC (L.take n)
 | 0,_=>by simp[tgX,obX,tgC]
 | n+1,h=>by
  have ih:=XQ L n (by omega);unfold tgX at ih ⊢;rw[vI,ih,take_snoc L default (by omega),xN]
  rfl
theorem Yu (L:List Tg):tgX L L.length=tgC L:=by rw[XQ L _ (q_r),List.take_length]
theorem xM (L:List Tg) (i:Nat) (h:i<=L.length):(tgC L).take (i*2)=tgC (L.take i)/\(tgC L).drop (i*2)=tgC (L.drop i):=by
 have h1:tgC L=tgC (L.take i)++tgC (L.drop i):=by rw[<-xN,List.take_append_drop]
 have h2:(tgC (L.take i)).length=i*2:=by rw[zD,List.length_take];omega
 rw[h1];exact⟨List.take_left' h2,List.drop_left' h2⟩
theorem X6 (L:List Tg):∀u∈tgC L,u.oneCell'=true:=by rw[<-Yu];exact Yt L _
theorem TgG.of {cap:Nat}{row:Array Value}{L:List Tg}(hb:base<=g) (h:w.heap[g]?=some (.cells row 86 (0,0))) (hc:L.length<=cap) (hm:cap<=maxLen) (hs:row.size=cap*2) (ht:row.toList.take (L.length*2)=tgC L):TgG base w (.slice (some ⟨g,0,none⟩) L.length cap) L :=
 ⟨by have:=qK h;omega,xq _ _ _,.inr ⟨g,cap,row,rfl,hb,h,hc,hm,by omega,by rw[ht,Yu]⟩⟩
def q21 (base:Nat) (v:Value) (L:List Tg) (w:World) (e:Ending) (w':World):Prop:=∃A c,e=.returned (.slice A L.length c)/\TgG base w' (.slice A L.length c) L/\∃g,base<=g/\(w.heap.size<=g\/∃cs fr,w.heap[g]?=some (.cells cs 86 fr))/\Chg g (g+1) w w'
theorem TgG.del{L:List Tg}(h:TgG base w v L) (hi:i<L.length) (hl:L.length<=10000):Calls Tryz.prog 169 #[v,.int .i64 (i:Int),.int .i64 ((i:Int)+1)] w (q21 base v (L.take i++L.drop (i+1)) w):=by
 rcases h.2.2 with ⟨-,h2⟩|⟨g,cap,cs,rfl,hb,hh,h3,h4,h5,h6⟩
 ·omega
 rw[Yu] at h6
 have hcs:∀j,j<L.length*2->cs[j]?=(tgC L)[j]?:=fun j hj=>by
  rw[<-h6,List.getElem?_take,if_pos hj,Array.getElem?_toList]
 unfold maxLen at h4;refine (Xb hh h5 (by omega) h3 hi (fun k hk=>?_) rfl).mono ?_
 ·have h7:k<(tgC L).length:=by rw[zD];exact hk
  refine⟨(tgC L)[k],?_,X6 L _ (List.getElem_mem h7)⟩;rw[qj hh,hcs k hk,List.getElem?_eq_getElem h7]
 ·rintro e w' ⟨rfl,C,⟨cs',hh',hs'⟩,h8,h9⟩;have hln:(L.take i++L.drop (i+1)).length=L.length-1:=by rw[List.length_append,List.length_take,List.length_drop];omega
  refine⟨some ⟨g,0,none⟩,cap,by rw[hln],?_,g,hb,.inr ⟨_,_,hh⟩,C⟩;refine TgG.of hb hh' (by rw[hln];omega) (by unfold maxLen;omega) hs' ?_;rw[hln,xN,<-(xM L i (by omega)).1,<-(xM L (i+1) (by omega)).2];refine List.ext_getElem? fun j=>?_
  rw[List.getElem?_take]
  by_cases hj:j<(L.length-1)*2
  ·rw[if_pos hj,Array.getElem?_toList]
   by_cases hji:j<i*2
   ·have h10:=h8 j hji;rw[qj hh',qj hh] at h10;rw[h10,hcs j (by omega),List.getElem?_append_left (by rw[List.length_take,zD];omega),List.getElem?_take,if_pos hji]
   ·have h10:=h9 j (by omega) hj;rw[qj hh',qj hh] at h10;rw[h10,hcs (j+2) (by omega),List.getElem?_append_right (by rw[List.length_take,zD];omega),List.getElem?_drop,List.length_take,zD]
    congr 1
    omega
  ·rw[if_neg hj]
   symm
   rw[List.getElem?_eq_none_iff,List.length_append,List.length_take,List.length_drop,zD];omega
theorem kJ {ET:TypeId}{z0:Value}{bz:Nat}(hc:Cls ET k z0 bz) (w:World) (dT sT ty:TypeId) (hu:Tryz.prog.underlying dT=some (.slice ET)) (g o dLen dCap:Nat) (a:Addr) (sLen sCap:Nat) (cur:Array Value) (cs:List Value)
  (hg:w.heap[g]?=some (.cells cur ET (0,0))) (m:Nat) (hm:m=Nat.min sLen dLen) (hn:cs.length=m*k)
  (hsrc:∀j v,cs[j]?=some v->w.cell? (a.add j)=some v) (hfit:o+cs.length<=cur.size) (h1:∀v∈cs,v.oneCell'=true) :
  ∃w',(Builtin.copy_ #[dT,sT] ty #[.slice (some ⟨g,o,none⟩) dLen dCap,.slice (some a) sLen sCap]).run Tryz.prog w=.ok (goInt m) w'/\w'.heap[g]?=some (.cells (cur.toList.take o++cs++cur.toList.drop (o+cs.length)).toArray ET (0,0))/\Chg g (g+1) w w'/\∀q,q≠g->w'.heap[q]?=w.heap[q]?:=by
 obtain⟨i0,hi0,hz0,hz1,hz2⟩:=info_parts hc.inf;have hl:=run_loadCells_list (P:=Tryz.prog) w a cs hsrc;have hst:=run_storeCells_at Tryz.prog g o ET cs 0 cur w hg (by simpa using hfit) h1;have hN:NoU w g:=NoU.mk hg hc.ne;refine⟨w.setRow g (cur.toList.take o++cs++cur.toList.drop (o+cs.length)).toArray,?_,setRow_heap w g cur _ ET _ hg,?_,fun q hq=>setRow_other w g q _ hq⟩
 ·rw[hn] at hl;simp only[Nat.add_zero] at hst;simp[Builtin.copy_,run_underlying hu,Builtin.lenOf,Builtin.firstCells,sizeOf,typeInfo,hi0,hz1,<-hm,hl,hst,goInt]
 ·refine⟨rfl,rfl,rfl,?_,fun q hq hc=>setRow_other w g q _ ?_⟩
  ·show _<=(w.heap.modify g _).size
   simp
  ·rintro rfl
   rcases hc with hc|hc|⟨cs,fr,hc⟩
   ·omega
   ·omega
   ·exact hN cs fr hc
theorem yZ{ops:Array Oper}{rest:List Oper}{o:Oper}{a:Act}{Q:Exit->Act->World->Prop}(hgd:o.guard=none) (p x:Operand) (ho:o.op=.call { callee:=.builtin .append,args:=#[p,x],argTypes:=#[23,3] })
  {cap:Nat}{cur:Array Value}{olds:List Value}(hp:a.eval p=.slice (some ⟨g,0,none⟩) i cap) (hx:a.eval x=.int .i64 (k:Int)) (hP:w.heap[g]?=some (.cells cur 86 (0,0))) (hol:olds.length=i*2) (hO:∀(j:Nat) (u:Value),olds[j]?=some u->cur[j]?=some u) (h0:0<k) (hgr:cap<i+k) (hn:i+k<=1000000)
  (hK:∀cap' row w',i+k<=cap'->cap'<=maxLen->w'.heap[w.heap.size]?=some (.cells row 86 (0,0))->row.size=cap'*2->(∀(j:Nat) (u:Value),olds[j]?=some u->row[j]?=some u)->Ext w w'->wpList Tryz.prog ops Q rest (a.put o.dst (.slice (some ⟨w.heap.size,0,none⟩) (i+k) cap')) w'):wpList Tryz.prog ops Q (o :: rest) a w:=by
 refine wpList_plain hgd fun K hK'=>?_
 obtain⟨i0,hi0,hi1,hi2,hi3⟩:=info_parts Je
 have hold:(Builtin.firstCells i0.size i (.slice (some ⟨g,0,none⟩) i cap)).run Tryz.prog w.drew=.ok olds.toArray w.drew:=by
  refine run_firstCells_some w.drew i0.size i ⟨g,0,none⟩ i cap olds (by rw[hi2,hol]) (fun j x hj=>?_);rw[qW,Nat.zero_add];exact (qj hP j).trans (hO j x hj)
 have hrun:=Lib.run_append_grow_zeros (P:=Tryz.prog) w 23 3 o.type 86 i0 _ .i64 .i64 Tryz.underlying23 Tryz.underlying3 hi0 hi1 (some ⟨g,0,none⟩) i cap olds hold k h0 (by omega) hgr (by omega) (by rw[hi3];omega) (growslice_fits (by omega) (by rw[hi3];omega));have hge:=grownCap_ge w (i+k) cap 86;have hcm:=grownCap_le_maxLen w (i+k) cap 86 (by unfold maxLen;omega)
 generalize grownCap w (i+k) cap 86=cap' at hrun hge hcm
 obtain⟨row,hrow⟩:=qf (olds.toArray++Builtin.zeroCells (Value.agg #[.string ⟨#[]⟩,.string ⟨#[]⟩]).cells k++Builtin.zeroCells (Value.agg #[.string ⟨#[]⟩,.string ⟨#[]⟩]).cells (cap' - (i+k)));rw[<-hrow.out] at hrun
 have hsz:row.size=cap'*2:=by
  rw[hrow.out,Array.size_append,Array.size_append,size_zeroCells,size_zeroCells,List.size_toArray,hol,kF.cells];omega
 have hrg:∀(j:Nat) (u:Value),olds[j]?=some u->row[j]?=some u:=fun j u hj=>by
  have hjl:=(List.getElem?_eq_some_iff.1 hj).1;rw[hrow.out,Array.append_assoc,Array.getElem?_append_left (by simpa using hjl),List.getElem?_toArray];exact hj
 have hb:(w.drew.alloc (.cells row 86)).heap[w.heap.size]?=some (.cells row 86 (0,0)):=heap_alloc_new w.drew _;unfold Oper.wp execOp;simp only[ho,resolve,invoke,builtin,Sem.run_bind,Sem.run_pure,Result.andThen_ok,List.map_toArray,List.map_cons,List.map_nil,hp,hx,hrun];exact hK' _ _ (hK _ _ _ hge hcm hb hsz hrg ((Ext.refl w).drew.alloc _))
theorem Xi (ps rs:Array TypeId) (a b:Addr) (la ca lb cb:Nat):Extern.SlicesOverlaps.overlaps ps rs #[.slice (some a) la ca,.slice (some b) lb cb]=(do
  let some t:=ps[0]?|stuck "slices.overlaps: no parameter types"
  let .slice elem <-underlying t|stuck "slices.overlaps: slice type expected"
  let size <-Go.sizeOf elem
  if la=0\/lb=0\/size=0 then pure (.bool false)
  else if a.block != b.block&&(<-frozen a)&&(<-frozen b) then unsupported .addressObserved
  else do
   if a.block != b.block then do
    noView a;noView b
    if <-mayBeOne a b then return .bool ((<-choose (.extern "sameAddr.stringBytes" 2)) == 1)
   pure (.bool (a.block == b.block&&a.off<b.off+lb*size&&b.off<a.off+la*size))):=rfl
theorem ZT{cb cg:Array Value}{tb tg:TypeId}(hb:w.heap[b]?=some (.cells cb tb (0,0))) (hg:w.heap[g]?=some (.cells cg tg (0,0))) (hne:b≠g) (o m c o' m' c':Nat) :
  (callFunc 203 #[.slice (some ⟨b,o,none⟩) m c,.slice (some ⟨g,o',none⟩) m' c']).run Tryz.prog w=.ok (.value (.bool false)) w:=by
 rw[run_callFunc_extern Tryz.func203 (by kernel_rfl) (by kernel_rfl) (by kernel_rfl) (e:=Extern.SlicesOverlaps.overlaps #[23,23] #[4]) (by kernel_rfl),Xi];have hn:(b != g)=true:=by simpa using hne
 have hnn:(b == g)=false:=by simpa using hne
 simp[Tryz.sizeOf86,Tryz.underlying23,run_underlying,frozen,noView,viewAt,shape,mayBeOne,stringish,Sem.run,World.shape?,World.frozen?,hb,hg,hn,hnn]
theorem Vh {L:List Tg}(hi:i<L.length){cur:List Value}(h:cur.take (L.length*2)=tgC L) (hs:(L.length+1)*2<=cur.length) (k t:Byt) :
  ((((cur.take ((i+1)*2)++tgC (L.drop i)++cur.drop ((i+1)*2+(tgC (L.drop i)).length)).take (i*2)) ++ [sV k,sV t]++(cur.take ((i+1)*2)++tgC (L.drop i)++cur.drop ((i+1)*2+(tgC (L.drop i)).length)).drop (i*2 + [sV k,sV t].length)).take ((L.length+1)*2))=tgC (L.take i ++ ⟨k,t⟩ :: L.drop i):=by
 have h1:(cur.take ((i+1)*2)).take (i*2)=tgC (L.take i):=by
  rw[List.take_take,<-(xM L i (by omega)).1,<-h,List.take_take]
  congr 1
  omega
 have hl1:(cur.take ((i+1)*2)).length=(i+1)*2:=by rw[List.length_take];omega
 have hl2:(tgC (L.drop i)).length=(L.length-i)*2:=by rw[zD,List.length_drop]
 have e1:(cur.take ((i+1)*2)++tgC (L.drop i)++cur.drop ((i+1)*2+(tgC (L.drop i)).length)).take (i*2)=tgC (L.take i):=by
  rw[List.append_assoc,List.take_append_of_le_length (by omega),h1]
 have e2:(cur.take ((i+1)*2)++tgC (L.drop i)++cur.drop ((i+1)*2+(tgC (L.drop i)).length)).drop (i*2 + [sV k,sV t].length)=tgC (L.drop i)++cur.drop ((i+1)*2+(tgC (L.drop i)).length):=by
  rw[List.append_assoc,show i*2 + [sV k,sV t].length=(i+1)*2 by show i*2+2=_;omega,List.drop_left' hl1]
 rw[e1,e2,xN,vF];have e3:tgC (L.take i) ++ [sV k,sV t]++(tgC (L.drop i)++cur.drop ((i+1)*2+(tgC (L.drop i)).length))=(tgC (L.take i)++([sV k,sV t]++tgC (L.drop i)))++cur.drop ((i+1)*2+(tgC (L.drop i)).length):=by simp
 rw[e3];refine List.take_left' ?_;rw[List.length_append,List.length_append,hl2,zD,List.length_take]
 show _+(2+_)=_
 omega
end
end Go.Proofs.YtdeeekdbhhenpaaGreatDoor
