import Derived.Test.YtflhlobiipejeaaGreatWb29
import Derived.Deep.Slices
import Derived.Deep.Strs
import Derived.Lib.SmallJoins
import Derived.OpenShut
import Derived.Below
import Derived.WideKeyPair
set_option linter.all false
set_option maxHeartbeats 8000000
namespace Go.Proofs.YtflhlobiipejeaaGreat
variable {w:World} {N n k g m base c b j:Nat} {v:Value} {z:Int}
section
open Go.RowKit
def RwV (w:World) (v:Value) (m:Nat) (R:Nat->Nat->Int):Prop:=∃(A:Option Addr) (c:Nat),v=.slice A m c/\m<=c/\c<=maxLen/\(0<m->∃b off,A=some ⟨b,off,none⟩/\∀i,i<m->∀j,j<6->w.cell? ⟨b,off+i*6+j,none⟩=some (.int .i8 (R i j)))/\∀i,i<m->∀j,j<6->-128<=R i j/\R i j<=127
def ngM (R:Nat->Nat->Int) (m i j:Nat):Rat:=dlt i j+sum m (fun t=>((R t i*R t j:Int):Rat))
theorem q4Z (R:Nat->Nat->Int) (m:Nat):ngM R m=VL m (fun t i=>((R t i:Int):Rat)):=by
 funext i j
 unfold ngM VL
 congr 1
 exact qf fun t _=>Rat.intCast_mul _ _
theorem WO (R:Nat->Nat->Int) (m n:Nat):V6 n (ngM R m):=by rw[q4Z];exact q3e n m _
theorem q2B (R:Nat->Nat->Int) (m i j:Nat):ngM R m i j=ngM R m j i:=by
 unfold ngM
 congr 1
 ·unfold dlt
  by_cases h:i=j
  ·rw[h]
  ·rw[if_neg h,if_neg (fun e=>h e.symm)]
 ·exact qf fun t _=>by rw[Int.mul_comm]
def ngI (R:Nat->Nat->Int):Nat->Nat->Nat->Int
 | 0,i,j=>if i=j then 1 else 0
 | m+1,i,j=>ngI R m i j+R m i*R m j
theorem q2C (R:Nat->Nat->Int):∀m i j,ngM R m i j=((ngI R m i j:Int):Rat)
 | 0,i,j=>by
  unfold ngM ngI dlt;rw[xJ]
  split<;>grind
 | m+1,i,j=>by
  have h1:ngM R (m+1) i j=ngM R m i j+((R m i*R m j:Int):Rat):=by
   unfold ngM;rw[qN];grind
  rw[h1,q2C R m i j,<-Rat.intCast_add]
  rfl
theorem q2p {a b:Int}(ha : -128<=a/\a<=127) (hb : -128<=b/\b<=127) : -16384<=a*b/\a*b<=16384:=by
 have h1:(a*b).natAbs=a.natAbs*b.natAbs:=Int.natAbs_mul a b;have h2:a.natAbs*b.natAbs<=128*128:=Nat.mul_le_mul (by omega) (by omega)
 generalize a*b=c at h1
 omega
theorem q6d {R:Nat->Nat->Int}{m0:Nat}(h:∀i,i<m0->∀j,j<6->-128<=R i j/\R i j<=127):∀m,m<=m0->∀i,i<6->∀j,j<6->-(1+16384*(m:Int))<=ngI R m i j/\ngI R m i j<=1+16384*(m:Int)
 | 0,_,i,_,j,_=>by unfold ngI;split<;>omega
 | m+1,hm,i,hi,j,hj=>by
  have ih:=q6d h m (by omega) i hi j hj;have h3:=q2p (h m (by omega) i hi) (h m (by omega) j hj)
  show _<=ngI R m i j+R m i*R m j/\ngI R m i j+R m i*R m j<=_
  omega
theorem q3a{a:Int}(h:a.natAbs<2 ^ k) (hk:0<k):Ht k ((a:Int):Rat):=by
 constructor
 ·rw[Rat.num_intCast];exact h
 ·rw[Rat.den_intCast];exact Nat.one_lt_two_pow (by omega)
theorem q2D {R:Nat->Nat->Int}{m0:Nat}(h:∀i,i<m0->∀j,j<6->-128<=R i j/\R i j<=127) (h8:m0<=8)(hm:m<=m0):HtM 6 6 18 (ngM R m):=fun i hi j hj=>by
 rw[q2C];have h1:=q6d h m hm i hi j hj;exact q3a (by show _<262144;omega) (by omega)
def pgM (R:Nat->Nat->Int) (m a b r c:Nat):Rat:=if r<a\/(r=a/\c<b) then ngM R (m+1) r c else ngM R m r c
theorem q4N (R:Nat->Nat->Int) (m r c:Nat):pgM R m 0 0 r c=ngM R m r c:=by unfold pgM;rw[if_neg (by omega)]
theorem q8C (R:Nat->Nat->Int){a r:Nat}(hc:c<n):pgM R m a n r c=pgM R m (a+1) 0 r c:=by
 unfold pgM
 by_cases h:r<a\/(r=a/\c<n)
 ·rw[if_pos h,if_pos (by omega)]
 ·rw[if_neg h,if_neg (by omega)]
theorem q77 (R:Nat->Nat->Int){r:Nat}(hr:r<n):pgM R m n 0 r c=ngM R (m+1) r c:=by unfold pgM;rw[if_pos (by omega)]
theorem pg_at (R:Nat->Nat->Int) (m a b:Nat):pgM R m a b a b=ngM R m a b:=by unfold pgM;rw[if_neg (by omega)]
theorem q8D (R:Nat->Nat->Int) (m a b:Nat):pgM R m a (b+1) a b=ngM R m a b+((R m a*R m b:Int):Rat):=by
 unfold pgM;rw[if_pos (by omega)];unfold ngM;rw[qN];grind
theorem q2r (R:Nat->Nat->Int){a r:Nat}(h:¬(r=a/\c=b)):pgM R m a (b+1) r c=pgM R m a b r c:=by
 unfold pgM
 by_cases h1:r<a\/(r=a/\c<b)
 ·rw[if_pos (by omega),if_pos h1]
 ·rw[if_neg (by omega),if_neg h1]
def zD (i:Nat):Nat:=if i=0 then 2 else if i=1 then 1 else if i=2 then 2 else 1
theorem q6E:∀i,i<4->1<=zD i/\zD i<=12:=fun i hi=>by
 rcases (by omega:i=0\/i=1\/i=2\/i=3) with rfl|rfl|rfl|rfl<;>decide
theorem zD_5:∀i,i<4->zD i<=5:=fun i hi=>by
 rcases (by omega:i=0\/i=1\/i=2\/i=3) with rfl|rfl|rfl|rfl<;>decide
theorem q1w:ql zD 4=6:=by decide
theorem defD {R:Nat->Nat->Int}(hb:∀i,i<m->∀j,j<6->-128<=R i j/\R i j<=127) (hm:m<=8){xv:Nat->Int}(hx:∀i,i<6->-128<=xv i/\xv i<=127){Z:Sys}(hn:Z.ns=4) (H:V4 Z zD (ngM R m) (fun i=>((xv i:Int):Rat))) :
  Qe 18 Z zD (ngM R m) (fun i=>((xv i:Int):Rat)) 6:=by
 have hz:∀i,i<Z.ns->1<=zD i/\zD i<=12:=fun i hi=>q6E i (by omega)
 refine⟨H,q2B R m,by rw[hn];exact q1w,by omega,by omega,hz,Va H (by omega) (by omega) hz (by rw[hn,q1w];omega) (q2B R m),WO R m 6,q2D hb hm (q_r),fun i hi=>q3a (k:=18) (by have:=hx i hi;show _<262144;omega) (by omega)⟩
theorem q2R {Z:Sys}{z:Nat->Nat}(hz:∀i,i<Z.ns->1<=z i){L:Nat->Int}{nl:Nat}(hc:yG L nl Z.ns=0) (hl:nl<Z.ns):0<xe (kJ (goE Z z L nl)) (ql z Z.ns):=by
 have h1:=XT (fun t ht=>(xW hc t ht).1) (Vy hc) Z.ns
 have h2:q5w L nl Z.ns<=nl:=by
  clear h1 hl hc
  induction nl with
  | zero=>exact q_r
  | succ n ih=>unfold q5w;split<;>omega
 have h4:xe (kJ (goE Z z L nl)) (ql z Z.ns)=ql (fun a=>z (enF (fun k=>!inL L nl k) Z.ns a)) (xe (fun k=>!inL L nl k) Z.ns):=(q3I (z:=z) (g:=fun k=>!inL L nl k) (ns:=Z.ns)).symm;rw[h4];have h5:(xe (fun k=>!inL L nl k) Z.ns)<=ql (fun a=>z (enF (fun k=>!inL L nl k) Z.ns a)) (xe (fun k=>!inL L nl k) Z.ns):=Yt fun i hi=>hz _ ((ZO (fun k=>!inL L nl k) Z.ns).low i hi)
 omega
theorem q95{t:TypeId}{x0 x1 x2 x3 x4 x5:Value}(h:w.heap[g]?=some (.cells #[x0,x1,x2,x3,x4,x5] t (0,0))):w.cell? ⟨g,0,none⟩=some x0/\w.cell? ⟨g,1,none⟩=some x1/\w.cell? ⟨g,2,none⟩=some x2/\w.cell? ⟨g,3,none⟩=some x3/\w.cell? ⟨g,4,none⟩=some x4/\w.cell? ⟨g,5,none⟩=some x5:=by
 refine⟨?_,?_,?_,?_,?_,?_⟩<;>rw[qh h]<;>rfl
def rowA (f:Nat->Int):Array Value:=#[.int .i8 (f 0),.int .i8 (f 1),.int .i8 (f 2),.int .i8 (f 3),.int .i8 (f 4),.int .i8 (f 5)]
theorem q20{t:TypeId}{f:Nat->Int}(h:w.heap[g]?=some (.cells (rowA f) t (0,0)))(hj:j<6):w.cell? ⟨g,j,none⟩=some (.int .i8 (f j)):=by
 rw[qh h]
 rcases (by omega:j=0\/j=1\/j=2\/j=3\/j=4\/j=5) with rfl|rfl|rfl|rfl|rfl|rfl<;>rfl
set_option maxRecDepth 100000 in
theorem q6g(hN:N<=w.heap.size){s0 s1:Value}{mr n0 n1:Nat}{R:Nat->Nat->Int}(hr:RwV w v mr R){xv:Nat->Int}(hxv:∀i,i<6->-128<=xv i/\xv i<=127){o0 o1:Nat->Int}(h0:IzV N 0 0 w s0 n0 o0) (h1:IzV N 0 0 w s1 n1 o1) :
  Calls Tryz.prog 3 #[v,.agg (rowA xv),.agg #[s0,s1]] w (zH w (.bool true)):=by
 unfold rowA;obtain⟨A0,c0,rfl,hm0,hc0,HR0,hbd⟩:=hr;unfold maxLen at hc0;have HRX:=q_h HR0;have HBD:=q_h hbd;have HXV:=q_h hxv;have HO0:=q_h h0;have HO1:=q_h h1;obtain⟨Aa,ca,rfl,hna,hca⟩:=h0.form;obtain⟨Ab,cb,rfl,hnb,hcb⟩:=h1.form;unfold maxLen at hca hcb;clear HR0 hbd hxv h0 h1;go_enter Tryz.func3,Tryz.ntmps3;go_upto_region 1 with (fail);refine kD ?_;intro W hE hsz B0 B1;have HB0:=q_h B0;have HB1:=q_h B1;have HEW:=q_h hE;clear B0 B1 hE;go_wp2_with (go_at_call 4;refine q_o ?_);refine (q2S _).mono ?_;rintro e w1 ⟨rfl,e1⟩;have HE1:Hid (Ext w w1):=HEW.out.trans e1;have HB01:=q_h (e1.block HB0.out);have HB11:=q_h (e1.block HB1.out);clear e1 HB0 HB1 HEW;go_wp2_with (go_at_call 5;refine q_o ?_);refine (Vl (N:=N) (by have:=HE1.out.size;omega) 6 rfl (by omega) (by omega)).mono ?_;rintro e w2 ⟨gM,cM,β,κ,rfl,hcM,hoM,e2⟩;obtain⟨m,hm⟩:=qc (min mr 8);have hmm:m<=mr/\m<=8:=by have:=hm.out;omega
 have t1:min (mr:Int) 8=(m:Int):=by have:=hm.out;omega
 have t1':min mr 8=m:=hm.out.symm;have t2:(m:Int)<=(c0:Int):=by omega
 have t3:m<=c0:=by omega
 go_wp2_with fail;have hoM0:Hid (qU N w1.heap.size w2.heap.size w2 gM cM 6 6 β κ (ngM R 0)):=hoM.congr fun i _ j _=>by unfold ngM;rw[xJ];grind
 have HE2:Hid (Ext w1 w2):=e2;clear hoM e2
 go_loopw [33] (fun iv wr=>∃i:Nat,i<=m/\iv=.int .i64 (i:Int)/\Hid (Ext w1 wr)/\Hid (qU N w1.heap.size w2.heap.size wr gM cM 6 6 β κ (ngM R i))) (fun iv _=>m-(intOf iv).toNat)
 case atStart=>exact⟨0,Nat.zero_le _,rfl,HE2,hoM0⟩
 case round =>
  clear HE2 hoM0 t1 t1';obtain⟨i,hi9,rfl,HE,HO⟩:=hrel
  by_cases hlt:i<m
  case pos =>
   have u1:decide ((i:Int)<(m:Int))=true:=q_t (by omega);have u2:(i:Int)<(m:Int):=by omega
   obtain⟨b,off,rfl,hx⟩:=HRX.out (by omega);have hx':=fun j hj=>(HE1.out.trans HE.out).cell (hx i (by omega) j hj)
   have p0:=hx' 0 (by omega);have p1:=hx' 1 (by omega);have p2:=hx' 2 (by omega);have p3:=hx' 3 (by omega);have p4:=hx' 4 (by omega);have p5:=hx' 5 (by omega);rw[Nat.add_zero] at p0;clear hx hx';go_upto_region 7 with (fail);refine qo ?_;intro w3 e3 hsz3 B3;have HB3:Hid (w3.heap[wr.heap.size]?=some (.cells (rowA (R i)) 24 (0,0))):=B3;have HE3:Hid (Ext w1 w3):=HE.out.trans e3;have HO3:=q_h (HO.out.ext e3);obtain⟨g9,hg9⟩:=qc wr.heap.size;rw[<-hg9.out] at HB3 ⊢;have hg9w:w2.heap.size<=g9:=by rw[hg9.out];exact HO.out.his
   have HP3:Hid (qU N w1.heap.size w2.heap.size w3 gM cM 6 6 β κ (pgM R i 0 0)):=HO3.out.congr fun r _ c _=>(q4N R i r c).symm
   obtain⟨w4,hw4⟩:∃w4,w4=w3:=⟨_,rfl⟩
   subst hw4;clear p0 p1 p2 p3 p4 p5 e3 hsz3 B3 HO HE HO3 hg9;go_wp2_with fail
   go_loopw [37] (fun av wr=>∃a:Nat,a<=6/\av=.int .i64 (a:Int)/\Hid (Ext w1 wr)/\Hid (wr.heap[g9]?=some (.cells (rowA (R i)) 24 (0,0)))/\Hid (qU N w1.heap.size w2.heap.size wr gM cM 6 6 β κ (pgM R i a 0))) (fun av _=>6-(intOf av).toNat)
   case atStart=>exact⟨0,Nat.zero_le _,rfl,HE3,HB3,HP3⟩
   case round =>
    clear HE3 HB3 HP3;obtain⟨a,ha9,rfl,HE,HB,HO⟩:=hrel
    by_cases hla:a<6
    case neg =>
     have v1:decide ((a:Int)<6)=false:=q_f (by omega);have v1':decide (a<6)=false:=q_f hla;obtain rfl:a=6:=by omega
     have HO9:Hid (qU N w1.heap.size w2.heap.size wr gM cM 6 6 β κ (ngM R (i+1))):=HO.out.congr fun r hr c _=>q77 R hr
     clear HO HB;go_wp2;go_roundw
     case rel=>exact⟨i+1,by omega,by go_num,HE,HO9⟩
     case measure=>simp[intOf];omega
    have v1:decide ((a:Int)<6)=true:=q_t (by omega);have v1':decide (a<6)=true:=q_t hla;have v2:(a:Int)<6:=by omega
    obtain⟨w5,hw5⟩:∃w5,w5=wr:=⟨_,rfl⟩
    subst hw5;have HE5:=HE;have HB5:=HB;have HO5:=HO;clear HE HB HO;go_wp2_with fail
    go_loopw [40] (fun cv wr=>∃c:Nat,c<=6/\cv=.int .i64 (c:Int)/\Hid (Ext w1 wr)/\Hid (wr.heap[g9]?=some (.cells (rowA (R i)) 24 (0,0)))/\Hid (qU N w1.heap.size w2.heap.size wr gM cM 6 6 β κ (pgM R i a c))) (fun cv _=>6-(intOf cv).toNat)
    case atStart=>exact⟨0,Nat.zero_le _,rfl,HE5,HB5,HO5⟩
    case round =>
     clear HE5 HB5 HO5 v1 v1';obtain⟨c,hc9,rfl,HE,HB,HO⟩:=hrel
     by_cases hlc:c<6
     case neg =>
      have v1:decide ((c:Int)<6)=false:=q_f (by omega);have v1':decide (c<6)=false:=q_f hlc;obtain rfl:c=6:=by omega
      have HO9:Hid (qU N w1.heap.size w2.heap.size wr gM cM 6 6 β κ (pgM R i (a+1) 0)):=HO.out.congr fun r _ c hc=>q8C R hc
      clear HO;go_wp2;go_roundw
      case rel=>exact⟨a+1,by omega,by go_num,HE,HB,HO9⟩
      case measure=>simp[intOf];omega
     have v1:decide ((c:Int)<6)=true:=q_t (by omega);have v1':decide (c<6)=true:=q_t hlc;have v3:(c:Int)<6:=by omega
     have q0:=q20 HB.out hla;have q1:=q20 HB.out hlc;have r0:=HO.out.hcell hla;obtain⟨zb,zA,zn,zc,zA2,zn2,zc2,x0,x1,x2,x3,x4,x5,x6,x7,hzb,hz1,hz2⟩:=(HO.out.row a hla).at_ hlc;obtain⟨ra,hra⟩:=qc (R i a);obtain⟨rc,hrc⟩:=qc (R i c);obtain⟨pr,hpr⟩:=qc (ra*rc);have hrb:=HBD.out i (by omega) a hla;have hrd:=HBD.out i (by omega) c hlc;rw[<-hra.out] at q0 hrb;rw[<-hrc.out] at q1 hrd;have hpb:=q2p hrb hrd;rw[<-hpr.out] at hpb;have k1:IntKind.i64.wrap ra=ra:=wrp (by omega) (by omega);have k2:IntKind.i64.wrap rc=rc:=wrp (by omega) (by omega);have k3:IntKind.i64.wrap (ra*rc)=pr:=by rw[<-hpr.out];exact wrp (by omega) (by omega)
     rw[pg_at] at hzb hz1 hz2;have HPN:Hid (pgM R i a (c+1) a c=ngM R i a c+((pr:Int):Rat)):=by rw[Hid,q8D,hpr.out,hra.out,hrc.out]
     have HSX:Hid (Sz (ngM R i a c)):=(q2D (m0:=m) (fun r hr j hj=>HBD.out r (by omega) j hj) (by omega) (m:=i) (by omega) a hla c hlc).sz (by omega);have HSP:Hid (Sz ((pr:Int):Rat)):=(q3a (k:=18) (by show _<262144;omega) (by omega)).sz (by omega);have hNr:N<=wr.heap.size:=by have:=HE1.out.size;have:=HE.out.size;omega
     obtain⟨wq,hwq⟩:∃wq,wq=wr:=⟨_,rfl⟩
     subst hwq;go_upto_region 13 with (fail);have eC:=(Ext.refl wq).drew;refine qw (fun w'=>w'.cell? ⟨gM,a,none⟩=some (.slice (some ⟨β a,0,none⟩) 6 (κ a))/\w'.cell? ⟨β a,c*4,none⟩=some (.bool zb)/\w'.cell? ⟨β a,c*4+1,none⟩=some (.slice zA zn zc)/\w'.cell? ⟨β a,c*4+2,none⟩=some (.bool false)/\w'.cell? ⟨β a,c*4+3,none⟩=some (.slice zA2 zn2 zc2)/\w'.cell? ⟨g9,a,none⟩=some (.int .i8 ra)/\w'.cell? ⟨g9,c,none⟩=some (.int .i8 rc)) [24] (by kernel_rfl) (by exact⟨eC.cell r0,eC.cell x0,eC.cell x1,eC.cell x2,eC.cell x3,eC.cell q0,eC.cell q1⟩) (fun hHeld=>?_);refine sP 0 (h:=?_);refine sP 1 (h:=?_);refine sP 2 (h:=?_);refine sT 3 (h:=?_);refine sP 4 (h:=?_);refine sP 5 (h:=?_);refine sP 6 (h:=?_);refine sP 7 (h:=?_);refine sT 8 (h:=?_);refine sP 9 (h:=?_);refine sP 10 (h:=?_);refine sT 11 (h:=?_);refine sP 12 (h:=?_);refine sP 13 (h:=?_);refine sT 14 (h:=?_);refine sP 15 (h:=?_);refine sP 16 (h:=?_);refine sP 17 (h:=?_);refine sT 18 (h:=?_);refine sP 19 (h:=?_);refine sP 20 (h:=?_);refine qp (i:=21) rfl (by kernel_rfl) (fun K hK=>?_);go_simp;refine (kV (N:=N) (by have:=eC.size;omega) pr (by omega) (by omega)).mono ?_;intro e w6 hh;obtain⟨b6,A6,k6,c6,A7,k7,c7,rfl,hb6,g6,g7,e6⟩:=hh.form;replace eC:=eC.trans e6;go_wp2_with fail;clear hHeld;refine hK.out _ _ (by exact⟨eC.cell r0,eC.cell x0,eC.cell x1,eC.cell x2,eC.cell x3,eC.cell q0,eC.cell q1⟩) fun hHeld=>?_
     clear hK K;try simp only[nr]
     refine qp (i:=22) rfl (by kernel_rfl) (fun K hK=>?_);go_simp;refine (WB ((qX.mk hzb hz1 hz2).ext eC) (qX.mk hb6 g6 g7) HSX.out HSP.out).mono ?_;intro e w7 hh;obtain⟨b8,A8,k8,c8,A9,k9,c9,rfl,hb8,g8,g10,e7⟩:=hh.form;replace eC:=eC.trans e7;go_wp2_with fail;clear hHeld;refine hK.out _ _ (by exact⟨eC.cell r0,eC.cell x0,eC.cell x1,eC.cell x2,eC.cell x3,eC.cell q0,eC.cell q1⟩) fun hHeld=>?_
     clear hK K;try simp only[nr]
     refine sP 23 (h:=?_);refine qj (i:=24) rfl (by kernel_rfl) (by kernel_rfl) (fun K hK=>?_);obtain⟨yb,yA,yn,yc,yA2,yn2,yc2,y0,y1,y2,y3,y4,y5,y6,y7,-⟩:=((HO.out.ext eC).row a hla).at_ hlc;go_simp;refine hK.out _ _ ?_;clear hK K;try simp only[nr]
     refine qg (by kernel_rfl) ?_ _;clear hHeld;have ho8:=HO.out.ext eC;obtain⟨w9,E9,C9,hs9,hr9⟩:=(ho8.row a hla).set (i:=c) (q:=pgM R i a (c+1) a c) (by have:=(ho8.row a hla).2.1;omega) (by omega) (by rw[HPN.out];exact hb8) (by rw[HPN.out];exact g8) (by rw[HPN.out];exact g10);rw[E9];clear E9
     have HO9:Hid (qU N w1.heap.size w2.heap.size w9 gM cM 6 6 β κ (pgM R i a (c+1))):=(ho8.setRow hla C9 (hr9.less (n':=6) (by omega))).congr fun r _ s _=>by
      unfold xE
      by_cases hr:r=a
      ·rw[if_pos hr];unfold upd
       by_cases hs:s=c
       ·rw[if_pos hs,hr,hs]
       ·rw[if_neg hs,hr];exact (q2r R (by omega)).symm
      ·rw[if_neg hr];exact (q2r R (by omega)).symm
     have hlo:=ho8.lo_ a hla;have hhi:=ho8.hi_ a hla;have HE9:Hid (Ext w1 w9):=C9.ext (HE.out.trans eC) hlo;have HB9:=q_h (C9.blk (eC.block HB.out) (.inr (by omega)));clear x0 x1 x2 x3 x4 x5 x6 x7 r0 q0 q1 y0 y1 y2 y3 y4 y5 y6 y7 hzb hz1 hz2 hb8 g8 g10 hb6 g6 g7 HO HB HE C9 hr9 ho8;go_wp2;go_roundw
     case rel=>exact⟨c+1,by omega,by go_num,HE9,HB9,HO9⟩
     case measure=>simp[intOf];omega
  have u1:decide ((i:Int)<(m:Int))=false:=q_f (by omega);obtain rfl:i=m:=by omega
  obtain⟨w3,hw3⟩:∃w3,w3=wr:=⟨_,rfl⟩
  subst hw3;have HE3:=HE;have HO3:=HO;have HB3:Hid (w3.heap[w.heap.size]?=some (.cells (rowA xv) 24 (0,0))):=HE.out.block HB01.out;have HB13:=q_h (HE.out.block HB11.out);clear HE HO HB01 HB11 hlt hi9;obtain⟨a0,a1,a2,a3,a4,a5⟩:=q95 HB3.out;have hNr:N<=w3.heap.size:=by have:=HE1.out.size;have:=HE3.out.size;omega
  have HG3:Hid (Grow N w3.heap.size w3 (.slice none 0 0) 0 (fun i=>((xv i:Int):Rat))):=Grow.nil hNr (q_r) _;go_wp2_with fail
  go_loopw [71,12] (fun iv tv wr=>∃(j:Nat) (A:Option Addr) (c:Nat),j<=6/\iv=.int .i64 (j:Int)/\tv=.slice A j c/\Hid (Grow N w3.heap.size wr (.slice A j c) j (fun i=>((xv i:Int):Rat)))/\Hid (Ext w3 wr)) (fun iv _ _=>6-(intOf iv).toNat)
  case atStart=>exact⟨0,none,0,Nat.zero_le _,rfl,rfl,HG3,Ext.refl _⟩
  case round =>
   clear HG3 a0 a1 a2 a3 a4 a5 u1;obtain⟨j,A,c,hj9,rfl,rfl,HG,HE⟩:=hrel
   by_cases hlj:j<6
   case pos =>
    have v1:decide ((j:Int)<6)=true:=q_t (by omega);have v1':decide (j<6)=true:=q_t hlj;have v2:(j:Int)<6:=by omega
    obtain⟨xj,hxj⟩:=qc (xv j)
    have hix:∀w:World,(Instr.index 24 (.agg #[.int .i8 (xv 0),.int .i8 (xv 1),.int .i8 (xv 2),.int .i8 (xv 3),.int .i8 (xv 4),.int .i8 (xv 5)]) (.int .i64 (j:Int))).run Tryz.prog w=.ok (.int .i8 xj) w:=fun w=>by
     rw[hxj.out]
     rcases (by omega:j=0\/j=1\/j=2\/j=3\/j=4\/j=5) with rfl|rfl|rfl|rfl|rfl|rfl<;>kernel_rfl
    have hxb:=HXV.out j hlj;rw[<-hxj.out] at hxb;have k1:IntKind.i64.wrap xj=xj:=wrp (by omega) (by omega);go_wp2_with (go_at_call 7;refine q_o ?_);refine (kV (N:=N) (by have:=HE.out.size;omega) xj (by omega) (by omega)).mono ?_;intro e w6 hh;obtain⟨b6,A6,k6,c6,A7,k7,c7,rfl,hb6,g6,g7,e6⟩:=hh.form;go_wp2_with (at_builtin;refine q_o ?_);refine qo ?_;intro w7 e7 hsz7 BX;refine zx rfl _ _ 37 Tryz.underlying37 rfl (by rfl) ((HG.out.ext e6).ext e7) (by rfl) BX hb6 (g6.ext e7) (g7.ext e7) (by omega) ?_;rintro g cap w8 hR8 ⟨g',hg',C8,-⟩ hlt8
    have HG8:Hid (Grow N w3.heap.size w8 (.slice (some ⟨g,0,none⟩) (j+1) cap) (j+1) (fun i=>((xv i:Int):Rat))):=hR8.congr fun r _=>by
     unfold upd
     split
     ·rename_i e9;rw[e9,hxj.out]
     ·rfl
    have HE8:Hid (Ext w3 w8):=C8.ext ((HE.out.trans e6).trans e7) hg';clear hR8 C8 hlt8 BX hb6 g6 g7 e6 e7 hsz7 HG HE hix;go_wp2;go_roundw
    case rel=>exact⟨j+1,_,cap,by omega,by go_num,rfl,HG8,HE8⟩
    case measure=>simp[intOf];omega
   have v1:decide ((j:Int)<6)=false:=q_f (by omega);have v1':decide (j<6)=false:=q_f hlj;obtain rfl:j=6:=by omega
   obtain⟨w4,hw4⟩:∃w4,w4=wr:=⟨_,rfl⟩
   subst hw4;have HY:Hid (LsV N w3.heap.size w4.heap.size w4 (.slice A 6 c) 6 (fun i=>((xv i:Int):Rat))):=HG.out.lsv (q_r) rfl;have HE4:Hid (Ext w1 w4):=HE3.out.trans HE.out;have HO4:Hid (qU N w1.heap.size w2.heap.size w4 gM cM 6 6 β κ (ngM R i)):=HO3.out.ext HE.out;have HB14:=q_h (HE.out.block HB13.out);clear HG HE HE3 HO3 HB13 HB3 hlj hj9;go_wp2_with (go_at_call 8;refine q_o ?_);unfold Hid;refine qo (F:=fun W=>Calls _ _ _ W _) ?_;intro w5 e5 hsz5 B5
   have HIS:Hid (IzV N 0 0 w5 (.slice (some ⟨w4.heap.size,0,none⟩) 4 4) 4 (fun i=>(zD i:Int))):=⟨rfl,_,_,rfl,q_r,by unfold maxLen;omega,fun _=>⟨_,0,rfl,fun i hi=>by
    rcases (by omega:i=0\/i=1\/i=2\/i=3) with rfl|rfl|rfl|rfl
    ·exact qh B5 0
    ·exact qh B5 1
    ·exact qh B5 2
    ·exact qh B5 3⟩⟩
   have HMH:Hid (HtM 6 6 18 (ngM R i)):=q2D (m0:=i) (fun r hr j hj=>HBD.out r (by omega) j hj) (by omega) (q_r);refine (r6_of HIS.out ⟨by omega,by omega⟩ q6E q1w (by omega) (MtR.ext (HO4.out.mtv HO4.out.mle hcM) e5) (HY.out.ext e5) HMH.out (by omega)).mono ?_;rintro e w6 ⟨v6,Z,rfl,e6,hsv,hzn,-,hok,-⟩;have HDF:Hid (Qe 18 Z zD (ngM R i) (fun i=>((xv i:Int):Rat)) 6):=defD (m:=i) (fun r hr j hj=>HBD.out r (by omega) j hj) (by omega) HXV.out hzn hok;have HZN:=q_h hzn;have HSV:=q_h hsv;obtain⟨D1,f1,D2,f2,D3,f3,rfl,-⟩:=hsv.parts;have HE6:Hid (Ext w1 w6):=(HE4.out.trans e5).trans e6;have HX46:Hid (Ext w4 w6):=e5.trans e6;clear hsv hzn hok e5 e6 hsz5 B5 HIS HMH HE4;go_upto_region 24 with (fail);refine qo ?_;intro w7 e7 hsz7 B7;obtain⟨gS,hgS⟩:=qc w6.heap.size;rw[<-hgS.out] at B7 ⊢;have HS7:=q_h B7;have HSV7:=q_h (HSV.out.ext e7);have HE7:Hid (Ext w1 w7):=HE6.out.trans e7;have HX47:Hid (Ext w4 w7):=HX46.out.trans e7;clear B7 hsz7 hgS HSV HX46 HE6 e7;obtain⟨a0,a1,a2,-⟩:=cells3 HS7.out;go_wp2_with (go_at_call 9;refine q_o ?_);unfold Hid;refine qo (F:=fun W=>Calls _ _ _ W _) ?_;intro w8 e8 hsz8 B8
   have HI8:Hid (IzV N 0 0 w8 (.slice (some ⟨w7.heap.size,0,none⟩) 4 4) 4 (fun i=>(i:Int))):=⟨rfl,_,_,rfl,q_r,by unfold maxLen;omega,fun _=>⟨_,0,rfl,fun i hi=>by
    rcases (by omega:i=0\/i=1\/i=2\/i=3) with rfl|rfl|rfl|rfl
    ·exact qh B8 0
    ·exact qh B8 1
    ·exact qh B8 2
    ·exact qh B8 3⟩⟩
   have HLZ:Hid (yG (fun i=>(i:Int)) 4 Z.ns=0):=q6f fun i hi=>⟨by omega,by have:=HZN.out;omega,fun j hj=>by omega⟩
   refine (q0v (HSV7.out.ext e8) HDF.out (fun i hi=>zD_5 i (by have:=HZN.out;omega)) (by have:=HZN.out;omega) HI8.out (by have:=HZN.out;omega) HLZ.out).mono ?_;rintro e w9 ⟨A9,c9,rfl,hx9,e9⟩;have HX9:=q_h hx9;have HX79:Hid (Ext w7 w9):=e8.trans e9;clear hx9 e8 e9 hsz8 B8 HI8 HLZ a0 a1 a2;obtain⟨x,hxE⟩:=qc (nsv 6 (ngM R i) (fun i=>((xv i:Int):Rat)))
   have HXH:Hid (HtL 6 1700000 x):=by
    rw[hxE.out];exact (q2A (P:=6) HDF.out.hM HDF.out.hy (q_r)).mono (by decide)
   have HXQ:Hid (∀r,r<6->sum 6 (fun c=>ngM R i r c*x c)=((xv r:Int):Rat)):=fun r hr=>by
    rw[hxE.out];exact Vs (q2b.2 (wJ (WO R i 6) _)) r hr
   have HSZ:Hid (∀r,r<6->Sz (x r)):=fun r hr=>(HXH.out r hr).sz (by omega)
   have HYS:Hid (∀r,r<6->Sz ((xv r:Int):Rat)):=fun r hr=>(HDF.out.hy r hr).sz (by omega)
   rw[<-hxE.out] at HX9;have HO9:=q_h (HO4.out.ext (HX47.out.trans HX79.out));have HY9:=q_h (HY.out.ext (HX47.out.trans HX79.out));go_wp2_with (go_at_call 10;refine q_o ?_);refine (jY HX9.out (fun i hi=>(HSZ.out i hi).raw)).mono ?_;rintro e w10 ⟨rfl,e10⟩;have HVL:Hid (allB 6 (fun i=>okR (raw (x i)))=true):=qm.2 fun i _=>ja _
   rw[HVL.out];go_wp2_with (go_at_call 12;refine q_o ?_);refine (q4H (MtR.ext (HO9.out.mtv HO9.out.mle hcM) e10) (LsR.ext HX9.out e10) (by omega) (by omega) (by omega) HDF.out.hM HXH.out (by omega)).mono ?_;rintro e w11 ⟨A11,c11,rfl,hx11,e11⟩;go_wp2_with (go_at_call 11;refine q_o ?_);refine (vC hx11 (HY9.out.ext (e10.trans e11)) (fun r hr=>by rw[HXQ.out r hr];exact HYS.out r hr) HXQ.out).mono ?_;rintro e w12 ⟨rfl,e12⟩;have HX12:=q_h (((HX9.out.ext e10).ext e11).ext e12);have HX712:Hid (Ext w7 w12):=((HX79.out.trans e10).trans e11).trans e12;have HB12:=q_h ((HX47.out.trans HX712.out).block HB14.out);have HE12:Hid (Ext w1 w12):=HE7.out.trans HX712.out;have HS12:=q_h (HX712.out.block HS7.out);have HV12:=q_h (HSV7.out.ext HX712.out);clear hx11 e10 e11 e12 HX9 HX79 HO9 HY9 HYS HXQ HVL HB14 HX47 HS7 HSV7 HE7 HX712 HO4 HY;obtain⟨b0,b1,-⟩:=cells2 HB12.out;go_wp2_with fail
   go_loopw [112] (fun iv wr=>∃k:Nat,k<=2/\iv=.int .i64 (k:Int)/\Hid (Ext w12 wr)) (fun iv _=>2-(intOf iv).toNat)
   case atStart=>exact⟨0,Nat.zero_le _,rfl,Ext.refl _⟩
   case round =>
    clear b0 b1;obtain⟨k,hk9,rfl,HE⟩:=hrel
    by_cases hlk:k<2
    case neg =>
     have v1:decide ((k:Int)<2)=false:=q_f (by omega);have v1':decide (k<2)=false:=q_f hlk;go_wp2
     first|go_ret|skip
     exact⟨rfl,(HE1.out.trans HE12.out).trans HE.out⟩
    have v1:decide ((k:Int)<2)=true:=q_t (by omega);have v1':decide (k<2)=true:=q_t hlk;have v2:(k:Int)<2:=by omega
    obtain⟨Ao,no,co,oo,hox,hnco,hcm,HOO⟩:∃(Ao:Option Addr) (no co:Nat) (oo:Nat->Int),(∀w:World,(Instr.index 26 (.agg #[.slice Aa n0 ca,.slice Ab n1 cb]) (.int .i64 (k:Int))).run Tryz.prog w=.ok (.slice Ao no co) w)/\no<=co/\co<=9223372036854775807/\Hid (IzV N 0 0 w (.slice Ao no co) no oo):=by
     rcases (by omega:k=0\/k=1) with rfl|rfl
     ·exact⟨Aa,n0,ca,o0,fun w=>by kernel_rfl,hna,by omega,HO0.out⟩
     ·exact⟨Ab,n1,cb,o1,fun w=>by kernel_rfl,hnb,by omega,HO1.out⟩
    obtain⟨w13,hw13⟩:∃w13,w13=wr:=⟨_,rfl⟩
    subst hw13;have HE13:Hid (Ext w w13):=(HE1.out.trans HE12.out).trans HE.out;have HX:=HE;clear HE
    by_cases h20:20<no
    ·have y1:decide ((20:Int)<(no:Int))=true:=q_t (by omega);have y1':decide (20<no)=true:=q_t h20;clear h20;go_wp2;go_roundw
     case rel=>exact⟨k+1,by omega,by go_num,HX⟩
     case measure=>simp[intOf];omega
    have y1:decide ((20:Int)<(no:Int))=false:=q_f (by omega);have y1':decide (20<no)=false:=q_f h20;have HS13:=q_h (HX.out.block HS12.out);have HV13:=q_h (HV12.out.ext HX.out);obtain⟨a0,a1,a2,-⟩:=cells3 HS13.out;obtain⟨pm,hpm⟩:=qc (decide (no=Z.ns)&&decide (yG oo no Z.ns=0));go_wp2_with (go_at_call 13;refine q_o ?_);refine (KD HV13.out (HOO.out.ext HE13.out)).mono ?_;rintro e w14 ⟨rfl,e14⟩;rw[<-hpm.out];have HX14:Hid (Ext w12 w14):=HX.out.trans e14;cases pm with
    | false =>
     clear a0 a1 a2;go_wp2;go_roundw
     case rel=>exact⟨k+1,by omega,by go_num,HX14⟩
     case measure=>simp[intOf];omega
    | true =>
    have hp1:=hpm.out.symm;rw[Bool.and_eq_true,decide_eq_true_eq,decide_eq_true_eq] at hp1;have HNZ:=q_h hp1.1;have HLZ:=q_h hp1.2;have HS14:=q_h (e14.block HS13.out);have HV14:=q_h (HV13.out.ext e14);have HE14:Hid (Ext w w14):=HE13.out.trans e14;have hno4:4<=no/\no<=4:=by have:=HNZ.out;have:=HZN.out;omega
    clear hp1 hpm a0 a1 a2 e14 HS13 HV13 HX HE13 hox;obtain⟨bu,ou,hAo,-⟩:=HOO.out.addr (by omega);subst hAo
    have HQ:Hid (Calls Tryz.prog 9 #[.agg #[.slice D1 Z.ns f1,.slice D2 Z.nb f2,.slice D3 Z.k f3],.slice (some ⟨bu,ou,none⟩) no co] w14 (RetX N w14 6 x)):=by
     rw[hxE.out];exact q0v HV14.out HDF.out (fun i hi=>zD_5 i (by have:=HZN.out;omega)) (by have:=HZN.out;omega) (HOO.out.ext HE14.out) HNZ.out HLZ.out
    obtain⟨a0,a1,a2,-⟩:=cells3 HS14.out;go_wp2_with (go_at_call 9;refine q_o ?_);refine HQ.out.mono ?_;rintro e w15 ⟨A15,c15,rfl,hx15,e15⟩;have HX15:=q_h hx15;have HE15:Hid (Ext w w15):=HE14.out.trans e15;have HX1215:Hid (Ext w12 w15):=HX14.out.trans e15;have HS15:=q_h (e15.block HS14.out);have HV15:=q_h (HV14.out.ext e15);have HXX:=q_h (HX12.out.ext HX1215.out);have hN15:N<=w15.heap.size:=by have:=HE15.out.size;omega
    have HTK:Hid (IzV N 0 0 w15 (.slice (some ⟨bu,ou,none⟩) 1 co) 1 oo):=q2Y (HOO.out.ext HE15.out) (by omega)
    have HEL:Hid (∀w',Ext w15 w'->Calls Tryz.prog 14 #[.agg #[.slice D1 Z.ns f1,.slice D2 Z.nb f2,.slice D3 Z.k f3],.slice (some ⟨bu,ou,none⟩) 1 co] w' (q6r N w' (fun Z'=>∃z' M' y' n',Qe 11000000 Z' z' M' y' n'))):=fun w' e=>by
     have h1:yG oo 1 Z.ns=0:=q7n HLZ.out (by omega);refine q85 (HV15.out.ext e) HDF.out (HTK.out.ext e) (by omega) h1 ?_;have h2:=q2R (z:=zD) (fun i hi=>(q6E i (by have:=HZN.out;omega)).1) h1 (by have:=HZN.out;omega);rw[HDF.out.off] at h2;exact h2
    clear a0 a1 a2 hx15 e15 HS14 HV14 HE14 HX14 HQ HTK;obtain⟨a0,a1,a2,-⟩:=cells3 HS15.out;have t5:(1:Int)<=(co:Int):=by omega
    have t6:1<=co:=by omega
    have t7:¬co=0:=by omega
    have t8:(1:Int)<=(no:Int):=by omega
    go_upto_region 32 with (fail);refine q8h [Mn.eq (.agg #[.slice D1 Z.ns f1,.slice D2 Z.nb f2,.slice D3 Z.k f3]),Mn.eq (.slice (some ⟨bu,ou,none⟩) no co),Mn.eq (.slice (some ⟨bu,ou,none⟩) 1 co),Mn.syt N (fun Z'=>∃z' M' y' n',Qe 11000000 Z' z' M' y' n'),Mn.syt N (fun Z'=>∃z' M' y' n',Qe 11000000 Z' z' M' y' n'),Mn.sy N (fun Z'=>∃z' M' y' n',Qe 11000000 Z' z' M' y' n'),Mn.i 0,Mn.blk w15.heap.size (.cells #[.slice none 0 0,.slice none 0 0,.slice none 0 0] 41 (0,0)),Mn.any,Mn.any] [some 131,some 132,some 133,some 134,some 130,some 135,some 136,some 22,none,some 23] [8,9] [6] (rQ 8 2) 2 (by kernel_rfl) ?_ ?_ ?_
    ·show ∀i,i<10->_
     iterate 10 refine fs ?_ ?_
     ·exact fz
     all_goals intro hl hs;first|exact absurd hl (by decide)|exact absurd hs (by decide)|(clear hl hs;refine stp rfl ?_;intro ac wi eI hB hA K hK)
     have o15:=oOf (hB 15) rfl;have cc0:=eI.cell a0;have cc1:=eI.cell a1;have cc2:=eI.cell a2;rotate_left;have o19:=oOf (hB 19) rfl;rotate_left;obtain⟨_,s132,rfl⟩:=hA 1 132;rotate_left;obtain⟨_,s131,rfl⟩:=hA 0 131;obtain⟨_,s133,rfl⟩:=hA 2 133;clear hB hA
     ·go_simp;refine (HEL.out _ eI).mono ?_;rintro e wj ⟨x1,x2,x3,rfl,hj,ej⟩;go_wp2_with fail;exact hK.out _ _ ej ⟨x1,x2,x3,rfl,hj⟩
     obtain⟨x134,s134,j134⟩:=hA 3 134;replace j134:Mn.p (Mn.syt N (fun Z'=>∃z' M' y' n',Qe 11000000 Z' z' M' y' n')) x134 wi:=j134;clear hB hA
     ·go_simp;exact q_k hK j134
     obtain⟨x130,s130,j130⟩:=hA 4 130;replace j130:Mn.p (Mn.syt N (fun Z'=>∃z' M' y' n',Qe 11000000 Z' z' M' y' n')) x130 wi:=j130;clear hB hA
     ·obtain⟨x1,x2,x3,rfl,hj⟩:=j130;go_simp;exact q_k hK ⟨x1,x2,x3,rfl,hj⟩
     clear hB hA
     ·go_simp;refine qo ?_;intro wj ej hszj BJ;exact hK.out _ _ ej ⟨_,rfl,eI.size,BJ⟩
     all_goals clear hB hA;go_simp;exact q_k hK rfl
    ·intro i hs;have hi':i=6:=by simpa using hs
     clear hs
     rcases hi' with rfl
     ·refine sft rfl (fun _ _ _ _ h=>h) ?_;intro ac wi eI hB hA;obtain⟨x130,s130,j130⟩:=hA 4 130;replace j130:Mn.p (Mn.syt N (fun Z'=>∃z' M' y' n',Qe 11000000 Z' z' M' y' n')) x130 wi:=j130;clear hB hA;obtain⟨x1,x2,x3,rfl,hj⟩:=j130;refine⟨(.int .i64 0),.inl ⟨rfl,fun w9 _=>?_⟩,rfl⟩;go_simp
    intro vals wz eZ hJ;have J135:Mn.p (Mn.sy N (fun Z'=>∃z' M' y' n',Qe 11000000 Z' z' M' y' n')) (vals 5) wz:=hJ 5 (by decide) (by decide);have J136:vals 6=_:=hJ 6 (by decide) (by decide);have J22:Mn.p (Mn.blk w15.heap.size (.cells #[.slice none 0 0,.slice none 0 0,.slice none 0 0] 41 (0,0))) (vals 7) wz:=hJ 7 (by decide) (by decide);clear hJ;simp only[pr,Nat.reduceAdd,J136];clear J136
    generalize vals 5=z135 at J135 ⊢
    generalize vals 7=z22 at J22 ⊢
    obtain⟨gT,rfl,hgT,BT⟩:=J22;obtain⟨x1,x2,x3,rfl,Z',hsv,z',M',y',n',HD'⟩:=J135;obtain⟨E1,h1,E2,h2,E3,h3,hvx,-,-,-,j1,j2,j3⟩:=hsv.parts;simp only[Value.agg.injEq,Array.mk.injEq,List.cons.injEq,and_true] at hvx;obtain⟨rfl,rfl,rfl⟩:=hvx;refine qj (i:=8) rfl (by kernel_rfl) (by kernel_rfl) (fun K hK=>?_);obtain⟨r0,r1,r2,r3,r4,r5⟩:=cells3 BT;go_simp;obtain⟨w6,E6,B6,U6⟩:=ex3 BT (.slice E1 Z'.ns h1) (.slice E2 Z'.nb h2) (.slice E3 Z'.k h3);rw[E6];refine hK.out _ _ ?_;clear hK K;try simp only[nr]
    refine qj (i:=9) rfl (by kernel_rfl) (by kernel_rfl) (fun K hK=>?_);go_simp;refine hK.out _ _ ?_;clear hK K;try simp only[nr]
    refine qg (by kernel_rfl) ?_ _;have C6:=U6.chg (NoU.mk BT (by decide));have HE6:Hid (Ext w15 w6):=C6.ext eZ (by omega);have HT6:=q_h B6;have HD6:=q_h HD';have HS6:=q_h (hsv.off C6 (by omega) (q5X.three BT) (HD'.ok.pos fun i hi=>(HD'.zs i hi).1));clear a0 a1 a2 r0 r1 r2 r3 r4 r5 E6 U6 B6 C6 eZ hsv HD' HEL HS15 HV15;have HX6:=q_h (HX15.out.ext HE6.out);have HXX6:=q_h (HXX.out.ext HE6.out);obtain⟨r0,r1,r2,-⟩:=cells3 HT6.out;go_wp2_with (go_at_call 11;refine q_o ?_);refine (vC HXX6.out HX6.out (fun r hr=>HSZ.out r hr) (fun r _=>rfl)).mono ?_;rintro e w7 ⟨rfl,e7⟩;have HS7:=q_h (HS6.out.ext e7);replace r0:=e7.cell r0;replace r1:=e7.cell r1;replace r2:=e7.cell r2;go_wp2_with (go_at_call 15;refine q_o ?_);refine (q26 HS7.out HD6.out).mono ?_;rintro e w8 ⟨rfl,e8⟩;have HS8:=q_h (HS7.out.ext e8);replace r0:=e8.cell r0;replace r1:=e8.cell r1;replace r2:=e8.cell r2;go_wp2_with (go_at_call 17;refine q_o ?_);refine (q25 HS8.out HD6.out).mono ?_;rintro e w9 ⟨gD,cD,βD,κD,rfl,hcD,hoD,e9⟩;go_wp2_with (go_at_call 16;refine q_o ?_);refine (Yd HD6.out (hoD.mtv hoD.mle hcD)).mono ?_;rintro e w10 ⟨rfl,e10⟩;have HX10:Hid (Ext w12 w10):=((((HX1215.out.trans HE6.out).trans e7).trans e8).trans e9).trans e10;clear r0 r1 r2;go_wp2;go_roundw
    case rel=>exact⟨k+1,by omega,by go_num,HX10⟩
    case measure=>simp[intOf];omega
end
section
open Go.RowKit Go.ChangeShapes Go.ChangeAt
section
variable {H:Type}{enc:TypeId×Value->H}{w:World}{spare:Nat->Bool}{held:Bool}
instance:Inhabited Raw:=⟨⟨false,[],false,[]⟩⟩
theorem JZ(a:Addr) (h:w.cell? (a.add 0)=some v):a=⟨a.block,a.off,none⟩:=by
 obtain⟨b,off,spot⟩:=a;have hs:=World.cell?_spot h;have h2:spot=none:=by simpa[Addr.add] using hs
 subst h2;rfl
end
theorem own:ownKnob Tryz.prog.godebug=none:=by kernel_rfl
theorem laidOut:laidOutB Tryz.prog=true:=by kernel_rfl
end
end Go.Proofs.YtflhlobiipejeaaGreat
set_option maxRecDepth 100000
namespace Go.Proofs.YtflhlobiipejeaaGreat
open Go.ChangeShapes Go.WideShapes Go.ChangeAt Go.RowKit Go.Joins
variable {w:World} {N n k g m base c b j:Nat} {v:Value} {z:Int}
theorem q3M:Tryz.prog.cellsOf 3=1:=by kernel_rfl
theorem q1h:Tryz.prog.cellsOf 25=1:=by kernel_rfl
section
variable {H:Type}{enc:TypeId×Value->H}{w:World}{spare:Nat->Bool}{held:Bool}
theorem Xj{x:DataW H×List MemPlace}(h:DataW.trod enc Tryz.prog w 0 spare held n 25 [v]=some x):∃k z,IzV w.heap.size 0 0 w v k z:=by
 rcases Go.Deep.open_slice1 Tryz.underlying25 q3M h with ⟨hcs,-⟩|⟨a,len,cap,m,n',V,D,Pl,hcs,-,hl,hm,hmm,-,hx⟩
 ·simp only[List.cons.injEq,and_true] at hcs;subst hcs;exact⟨0,fun _=>0,rfl,_,_,rfl,q_r,Nat.zero_le _,fun h0=>absurd h0 (by omega)⟩
 ·simp only[List.cons.injEq,and_true] at hcs;subst hcs;have hlm:len<=m:=by rw[hmm];split<;>omega
  have hv:∀i,i<len->∃z:Int,V i=.int .i64 z:=fun i hi=>by
   obtain⟨-,h2⟩:=hx i (by omega);obtain⟨z,hz,-,-⟩:=DataW.trod_int Tryz.underlying3 h2;simp only[List.cons.injEq,and_true] at hz;exact⟨z,hz⟩
  obtain⟨f,hf⟩:=Go.Deep.choose_lt (α:=Int) hv;refine⟨len,f,rfl,_,cap,rfl,hl,hm,fun h0=>?_⟩;have h1:=(hx 0 (by omega)).1;have ha:=JZ a h1;refine⟨a.block,a.off,by rw[<-ha],fun i hi=>?_⟩;have h2:=(hx i (by omega)).1;rw[ha,Qc,hf i hi] at h2;exact h2
end
end Go.Proofs.YtflhlobiipejeaaGreat
set_option maxRecDepth 100000
namespace Go.Proofs.YtflhlobiipejeaaGreat
open Go.ChangeShapes Go.WideShapes Go.ChangeAt Go.RowKit Go.Joins
variable {w:World} {N n k g m base c b j:Nat} {v:Value} {z:Int}
theorem q5D:Tryz.prog.cellsOf 23=1:=by kernel_rfl
theorem q0o:Tryz.prog.cellsOf 24=6:=by kernel_rfl
theorem q61:Tryz.prog.underlying 24=some (.array 6 23):=by kernel_rfl
theorem q1B:Tryz.prog.underlying 26=some (.array 2 25):=by kernel_rfl
theorem q3L:Tryz.prog.cellsOf 26=2:=by kernel_rfl
theorem Xg(h:(Lit.int .i8 z).wf=true) : -128<=z/\z<=127:=by
 simp only[Lit.wf,Bool.and_eq_true,decide_eq_true_eq] at h;exact h
theorem mapM_each {α β:Type}{f:α->Option β}:∀ {l:List α}{ys:List β},l.mapM f=some ys->∀x,x∈l->∃y,f x=some y
 | [],_,_,_,hx=>by cases hx
 | a :: l,ys,h,x,hx=>by
  rw[List.mapM_cons] at h;simp only[bind,Option.bind_eq_some_iff,pure,Option.some.injEq] at h;obtain⟨y,h0,ys',h1,-⟩:=h
  rcases List.mem_cons.1 hx with rfl|hx
  ·exact⟨y,h0⟩
  ·exact mapM_each h1 x hx
section
variable {H:Type}{enc:TypeId×Value->H}{w:World}{spare:Nat->Bool}{held:Bool}
theorem trod_array{fuel:Nat}{k e:TypeId}{cs:List Value}{x:DataW H×List MemPlace}(hu:Tryz.prog.underlying k=some (.array n e)) (h:DataW.trod enc Tryz.prog w base spare held fuel k cs=some x) :
  cs.length=Tryz.prog.cellsOf k/\∃f,∀i,i<n->∃y,DataW.trod enc Tryz.prog w base spare held f e ((cs.drop (i*Tryz.prog.cellsOf e)).take (Tryz.prog.cellsOf e))=some y:=by
 cases fuel with
 | zero=>simp[DataW.trod] at h
 | succ f =>
  rw[DataW.trod_step] at h;unfold DataW.trodStep at h;simp only[hu] at h
  split at h
  ·rename_i hl
   simp only[Option.map_eq_some_iff] at h;obtain⟨xs,hx,-⟩:=h;exact⟨hl,f,fun i hi=>mapM_each hx i (List.mem_range.2 hi)⟩
  ·cases h
theorem q4w (f:Nat->Int)(hj:j<6):(rowA f).toList[j]?=some (.int .i8 (f j)):=by
 rcases (by omega:j=0\/j=1\/j=2\/j=3\/j=4\/j=5) with rfl|rfl|rfl|rfl|rfl|rfl<;>rfl
theorem Zw {fuel:Nat}{cs:List Value}{x:DataW H×List MemPlace}(h:DataW.trod enc Tryz.prog w 0 spare held fuel 24 cs=some x):∃f:Nat->Int,cs=(rowA f).toList/\∀j,j<6->-128<=f j/\f j<=127:=by
 obtain⟨hl,g,hx⟩:=trod_array q61 h;rw[q0o] at hl;rw[q5D] at hx
 match cs,hl with
 | [c0,c1,c2,c3,c4,c5],_ =>
  obtain⟨y0,h0⟩:=hx 0 (by omega);obtain⟨y1,h1⟩:=hx 1 (by omega);obtain⟨y2,h2⟩:=hx 2 (by omega);obtain⟨y3,h3⟩:=hx 3 (by omega);obtain⟨y4,h4⟩:=hx 4 (by omega);obtain⟨y5,h5⟩:=hx 5 (by omega);obtain⟨z0,e0,-,k0⟩:=DataW.trod_int Tryz.underlying23 (cs:=[c0]) h0;obtain⟨z1,e1,-,k1⟩:=DataW.trod_int Tryz.underlying23 (cs:=[c1]) h1;obtain⟨z2,e2,-,k2⟩:=DataW.trod_int Tryz.underlying23 (cs:=[c2]) h2;obtain⟨z3,e3,-,k3⟩:=DataW.trod_int Tryz.underlying23 (cs:=[c3]) h3;obtain⟨z4,e4,-,k4⟩:=DataW.trod_int Tryz.underlying23 (cs:=[c4]) h4;obtain⟨z5,e5,-,k5⟩:=DataW.trod_int Tryz.underlying23 (cs:=[c5]) h5;simp only[List.cons.injEq,and_true] at e0 e1 e2 e3 e4 e5;subst e0 e1 e2 e3 e4 e5;refine⟨fun j=>if j=0 then z0 else if j=1 then z1 else if j=2 then z2 else if j=3 then z3 else if j=4 then z4 else z5,rfl,fun j hj=>?_⟩
  rcases (by omega:j=0\/j=1\/j=2\/j=3\/j=4\/j=5) with rfl|rfl|rfl|rfl|rfl|rfl
  ·exact Xg k0
  ·exact Xg k1
  ·exact Xg k2
  ·exact Xg k3
  ·exact Xg k4
  ·exact Xg k5
theorem row_open {r:Reach}{b0:Nat}{d:DataW H}{p:List MemPlace}(hv:Value.okWide Tryz.prog w r b0 24 v) (h:DataW.Trod enc Tryz.prog w 0 spare held 24 v d p):∃f:Nat->Int,v=.agg (rowA f)/\∀j,j<6->-128<=f j/\f j<=127:=by
 simp only[Value.okWide,q61] at hv;obtain⟨cs,rfl,hsz,-⟩:=hv;obtain⟨fuel,hf⟩:=h;obtain⟨f,h1,h2⟩:=Zw hf;refine⟨f,?_,h2⟩;simp only[Value.cells] at h1;rw[<-Array.toArray_toList (xs:=cs),h1]
theorem two_izs {r:Reach}{b0:Nat}{d:DataW H}{p:List MemPlace}(hv:Value.okWide Tryz.prog w r b0 26 v) (h:DataW.Trod enc Tryz.prog w 0 spare held 26 v d p):∃s0 s1 n0 o0 n1 o1,v=.agg #[s0,s1]/\IzV w.heap.size 0 0 w s0 n0 o0/\IzV w.heap.size 0 0 w s1 n1 o1:=by
 simp only[Value.okWide,q1B] at hv;obtain⟨cs,rfl,hsz,-⟩:=hv;obtain⟨fuel,hf⟩:=h;obtain⟨hl,g,hx⟩:=trod_array q1B hf;rw[q3L] at hsz;rw[q1h] at hx;obtain⟨l⟩:=cs
 match l,hsz with
 | [c0,c1],_ =>
  obtain⟨y0,h0⟩:=hx 0 (by omega);obtain⟨y1,h1⟩:=hx 1 (by omega);obtain⟨n0,o0,x0⟩:=Xj (v:=c0) h0;obtain⟨n1,o1,x1⟩:=Xj (v:=c1) h1;exact⟨c0,c1,n0,o0,n1,o1,rfl,x0,x1⟩
theorem q8g{x:DataW H×List MemPlace}(h:DataW.trod enc Tryz.prog w 0 spare held n 22 [v]=some x):∃k R,RwV w v k R:=by
 rcases Go.Deep.open_slice Tryz.underlying22 h with ⟨hcs,-⟩|⟨a,len,cap,m,n',D,Pl,hcs,-,hl,hm,hmm,-,hx⟩
 ·simp only[List.cons.injEq,and_true] at hcs;subst hcs;exact⟨0,fun _ _=>0,_,_,rfl,q_r,Nat.zero_le _,fun h0=>absurd h0 (by omega),fun i hi=>absurd hi (by omega)⟩
 ·simp only[List.cons.injEq,and_true] at hcs;subst hcs;have hlm:len<=m:=by rw[hmm];split<;>omega
  rw[q0o] at hx
  rcases Nat.eq_zero_or_pos len with hl0|hl0
  ·subst hl0;exact⟨0,fun _ _=>0,_,_,rfl,hl,hm,fun h0=>absurd h0 (by omega),fun i hi=>absurd hi (by omega)⟩
  obtain⟨B,O,rfl⟩:∃B O,a=⟨B,O,none⟩:=by
   obtain⟨cs,h1,h2⟩:=hx 0 (by omega);obtain⟨-,hlen,hc⟩:=World.cells?_some h1;have k0:=hc 0 (by omega);have hz:(a.add (0*6)).add 0=a.add 0:=by rw[Go.Deep.add_add]
   rw[hz,List.getElem?_eq_getElem (by omega)] at k0;exact⟨_,_,JZ a k0⟩
  have hv:∀i,i<len->∃f:Nat->Int,(∀j,j<6->w.cell? ⟨B,O+i*6+j,none⟩=some (.int .i8 (f j)))/\∀j,j<6->-128<=f j/\f j<=127:=fun i hi=>by
   obtain⟨cs,h1,h2⟩:=hx i (by omega);obtain⟨-,hlen,hc⟩:=World.cells?_some h1;obtain⟨f,hf,hb⟩:=Zw h2;refine⟨f,fun j hj=>?_,hb⟩;have k0:=hc j (by omega);rw[Qc,Qc,hf,q4w f hj] at k0;exact k0
  obtain⟨f,hf⟩:=Go.Deep.choose_lt (α:=Nat->Int) hv;exact⟨len,f,_,cap,rfl,hl,hm,fun h0=>⟨B,O,rfl,fun i hi=>(hf i hi).1⟩,fun i hi=>(hf i hi).2⟩
end
end Go.Proofs.YtflhlobiipejeaaGreat
