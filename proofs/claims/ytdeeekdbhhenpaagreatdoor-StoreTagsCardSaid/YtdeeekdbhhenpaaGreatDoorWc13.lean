import Derived.Test.YtdeeekdbhhenpaaGreatDoorWc12
import Derived.Shelf.Bytes.IndexByte
import Derived.Shelf.Strconv.Atoi
import Derived.Lib.AtoiErrMem
set_option linter.all false
set_option maxHeartbeats 8000000
set_option maxRecDepth 100000
namespace Go.Proofs.YtdeeekdbhhenpaaGreatDoor
variable {w w':World} {N n lo hi k g i base c b j d:Nat} {v:Value} {z:Int} {A:Option Addr}
section
open Go.RowKit
def BlV (w:World) (v:Value) (l:List Bool):Prop:=Qm (fun i x=>x=.bool (l.getD i false)) w v l.length
theorem BlV.ext{l:List Bool}(h:BlV w v l) (e:Ext w w'):BlV w' v l:=Qm.ext h e (fun _ _ _ h=>h)
theorem BlV.at_{l:List Bool}(h:BlV w (.slice A n c) l) (hn:n=l.length) (h0:0<n):∃g off,A=some ⟨g,off,none⟩/\∀i,i<n->w.cell? ⟨g,off+i,none⟩=some (.bool (l.getD i false)):=by
 subst hn;obtain⟨g,off,h1,h2⟩:=Qm.addr h h0;refine⟨g,off,h1,fun i hi=>?_⟩;obtain⟨x,h3,rfl⟩:=h2 i hi;exact h3
def yE (p:List Byt) (a:List qX) (k:List Bool):Nat->List Byt
 | 0=>p
 | i+1=>if k.getD i false=true then (yE p a k i).set (a.getD i default).page.toNat (a.getD i default).data else yE p a k i
theorem jb (p:List Byt) (a:List qX) (k:List Bool):∀i,(yE p a k i).length=p.length
 | 0=>rfl
 | i+1=>by
  unfold yE
  split
  ·rw[List.length_set,jb p a k i]
  ·exact jb p a k i
theorem Upd.trn{a b c:World}(h:Upd g a b) (k:Upd g b c):Upd g a c:=⟨k.os.trans h.os,k.tape.trans h.tape,k.output.trans h.output,k.size.trans h.size,fun q hq=>(k.block q hq).trans (h.block q hq)⟩
def yT (m:Med) (k:List Bool):Med:=⟨yE m.pages m.acts k m.acts.length,[],-1,false⟩
theorem Yz {m:Med}{kp:List Bool}{k2 d2:Nat}{B C:Option Addr}(hP:jH w (.slice A n c) m.pages) (hn:n=m.pages.length) (hA:zJ w (.slice B k d) m.acts) (hk:k=m.acts.length) (hm:xC m)
  (hL:BlV w (.slice C k2 d2) kp) (hk2:k2=kp.length) (hak:k<=900) :
  Calls Tryz.prog 24 #[.agg #[.slice A n c,.slice B k d,.int .i64 m.left,.bool m.dead],.slice C k2 d2] w (vC (yT m kp,0) w):=by
 obtain⟨R,hR⟩:=qf (vC (yT m kp,0) w);rw[<-hR.out];have HP:=q_h hP;have HN:=q_h hn;have HA:=q_h hA;have HK:=q_h hk;have HM:=q_h hm;have HL:=q_h hL;have HK2:=q_h hk2;have hn1:n<=4096:=by have:=hm.hi;omega
 obtain⟨left,hleft⟩:=qf m.left;obtain⟨dead,hdead⟩:=qf m.dead;have HCV:Hid (∀w',Ext w w'->Calls Tryz.prog 85 #[.agg #[.slice A n c,.slice B k d,.int .i64 left,.bool dead]] w' (qH w' (.bool true))):=fun w' e=>yA (HP.out.ext e) HN.out (by have:=HM.out.lo;omega) hn1 (fun i hi=>HM.out.wh i (by omega)) (HA.out.ext e) HK.out (by rw[HN.out];exact HM.out.ac)
 have HCC:Hid (∀w',Ext w w'->Calls Tryz.prog 91 #[.agg #[.slice A n c,.slice B k d,.int .i64 left,.bool dead]] w' (Wh m w')):=fun w' e=>by
  rw[hleft.out,hdead.out];exact Qx (HP.out.ext e) HN.out (HA.out.ext e) HK.out HM.out (by omega)
 rw[<-hleft.out,<-hdead.out];clear hP hn hA hk hm hL hk2;go_enter Tryz.func24,Tryz.ntmps24;go_upto_region 1 with (fail);refine zu ?_;intro W1 hE1 hsz1 B0 B1;have HX1:=q_h hE1;have HB0:=q_h B0;have HB1:=q_h B1;clear hE1 B0 B1;obtain⟨p0,p1,p2,p3⟩:=qG HB0.out;go_wp2_with (go_at_call 85;refine q_o ?_);refine (HCV.out _ HX1.out).mono ?_;rintro e W2 ⟨rfl,e2⟩;have HX2:=q_h (HX1.out.trans e2);have HB02:=q_h (e2.block HB0.out);have HB12:=q_h (e2.block HB1.out);have HS2:Hid (w.heap.size+2<=W2.heap.size):=by have:=e2.size;rw[Hid];omega
 clear e2 HX1 HB0 HB1 HCV p0 p1 p2 p3 hsz1;obtain⟨p0,p1,p2,p3⟩:=qG HB02.out;go_wp2_with (go_at_call 91;refine q_o ?_);refine (HCC.out _ HX2.out).mono ?_;rintro e w5 ⟨A5,c5,B5,d5,rfl,hMD,e5⟩;rw[<-HN.out,<-HK.out] at hMD ⊢;rw[<-hleft.out,<-hdead.out];have HX5:=q_h (HX2.out.trans e5);have HB15:=q_h (e5.block HB12.out);have HMD5:Hid (MdF (w.heap.size+2) w5 (.slice A5 n c5) (.slice B5 k d5) m):=hMD.low (by have:=HS2.out;omega);have HS5:Hid (w.heap.size+2<=w5.heap.size):=by have:=HS2.out;have:=e5.size;rw[Hid];omega
 clear e5 hMD p0 p1 p2 p3 HCC HX2 HB02 HB12 HS2;go_upto_region 4 with (fail);refine qo ?_;intro W e6 hsz6 BG;obtain⟨g,hg⟩:=qf w5.heap.size;rw[<-hg.out] at BG ⊢;have HGW:Hid (w.heap.size+2<=g):=by rw[Hid,hg.out];exact HS5.out
 have HG:=q_h BG;have HX:=q_h (HX5.out.trans e6);have HRB:=q_h (e6.block HB15.out);have HMD:=q_h (HMD5.out.ext e6)
 have HPJ:Hid (PgF (w.heap.size+2) W (.slice A5 n c5) n (fun q=>(yE m.pages m.acts kp 0).getD q [])):=by
  have h1:=HMD.out.1;rw[<-HN.out] at h1;exact h1
 have HAJ:Hid (zG (w.heap.size+2) W (.slice B5 k d5) k (fun j=>m.acts.getD j default)):=by
  have h1:=HMD.out.2;rw[<-HK.out] at h1;exact h1
 clear e6 BG HX5 HB15 HMD5 HS5 hsz6 HMD;obtain⟨p0,p1,p2,p3⟩:=qG HG.out;go_wp2_with fail;clear p0 p1 p2 p3
 go_loopw [18] (fun iv wr=>∃(j:Nat),j<=k/\iv=.int .i64 (j:Int)/\Hid (wr.heap[g]?=some (.cells #[.slice A5 n c5,.slice B5 k d5,.int .i64 left,.bool dead] 46 (0,0)))/\Hid (PgF (w.heap.size+2) wr (.slice A5 n c5) n (fun q=>(yE m.pages m.acts kp j).getD q []))/\Hid (zG (w.heap.size+2) wr (.slice B5 k d5) k (fun j=>m.acts.getD j default))/\Hid (Ext w wr)/\Hid (wr.heap[w.heap.size+1]?=some (.cells #[.slice none 0 0,.slice none 0 0,.int .i64 0,.bool false] 46 (0,0)))) (fun iv _=>k-(intOf iv).toNat)
 case atStart=>exact⟨0,Nat.zero_le _,rfl,HG,HPJ,HAJ,HX,HRB⟩
 case round =>
  clear HG HPJ HAJ HX HRB;obtain⟨j,hj9,rfl,HG,HPJ,HAJ,HX,HRB⟩:=hrel;obtain⟨wp,hwp⟩:∃wp,wp=wr:=⟨_,rfl⟩
  subst hwp
  by_cases hlj:j<k
  ·have u7:decide ((j:Int)<(k:Int))=true:=q_t (by omega);have u8:(j:Int)<(k:Int):=by omega
   obtain⟨gb,rfl,hkd9,hx⟩:=HAJ.out.at_ (by omega);obtain⟨B7,m7,d7,b0,b1,b2,hb7⟩:=hx j hlj;have HBU:=q_h hb7;clear hx hb7;have HWR:=q_h (xJ (HM.out.act (i:=j) (by have:=HK.out;omega)));obtain⟨x7,hx7⟩:=qf (m.acts.getD j default);rw[<-hx7.out] at b0 b2 HBU HWR;obtain⟨pz,hpz⟩:=qf x7.page.toNat
   have HPZ:Hid (x7.page=(pz:Int)/\pz<n):=by
    have h1:=HWR.out.2.1;have h2:=HWR.out.2.2.1;have h3:=hpz.out;have:=HN.out;rw[Hid];omega
   rw[HPZ.out.1] at b0;go_upto_region 7 with (fail);refine qo ?_;intro wt et hszt BT;obtain⟨gt,hgt⟩:=qf wp.heap.size;rw[<-hgt.out] at BT ⊢;have HT:=q_h BT;replace HG:=q_h (et.block HG.out);replace HPJ:=q_h (HPJ.out.ext et);replace HAJ:=q_h (HAJ.out.ext et);replace HX:=q_h (HX.out.trans et);replace HRB:=q_h (et.block HRB.out);replace HBU:=q_h (HBU.out.ext et);clear et BT b0 b1 b2 hszt;obtain⟨t0,t1,t2⟩:=zO HT.out;obtain⟨p0,p1,p2,p3⟩:=qG HG.out;obtain⟨bz,hbz⟩:=qf (kp.getD j false)
   go_cut [32] (fun tv wx=>tv=.bool bz/\wx=wt)
   case first =>
    by_cases hjk:j<k2
    ·have d1:decide ((j:Int)<(k2:Int))=true:=q_t (by omega);have d2:(j:Int)<(k2:Int):=by omega
     obtain⟨gk,ok,rfl,hkx⟩:=(HL.out.ext HX.out).at_ HK2.out (by omega);have r0:=hkx j hjk;rw[<-hbz.out] at r0;clear hkx;go_wp2
     go_meet
     exact⟨rfl,rfl⟩
    ·have d1:decide ((j:Int)<(k2:Int))=false:=q_f (by omega)
     have hb0:bz=false:=by
      rw[hbz.out,List.getD_eq_getElem?_getD,List.getElem?_eq_none (by have:=HK2.out;omega)]
      rfl
     subst hb0;go_wp2
     go_meet
     exact⟨rfl,rfl⟩
   obtain⟨rfl,rfl⟩:=hcut;obtain⟨wt,hwt⟩:∃wt,wt=wc:=⟨_,rfl⟩
   subst hwt;cases bz with
   | false =>
    have HPn:Hid (PgF (w.heap.size+2) wt (.slice A5 n c5) n (fun q=>(yE m.pages m.acts kp (j+1)).getD q [])):=by
     refine HPJ.out.congr fun q hq=>?_
     show _=(if kp.getD j false=true then _ else yE m.pages m.acts kp j).getD q []
     rw[if_neg (by rw[<-hbz.out];simp)]
    clear HPJ t0 t1 t2 p0 p1 p2 p3 HT HBU HWR;go_wp2;go_roundw
    case rel=>exact⟨j+1,by omega,by go_num,HG,HPn,HAJ,HX,HRB⟩
    case measure=>simp[intOf];omega
   | true =>
    have hl9:x7.data.length<=1000000:=by have:=HWR.out.2.2.2;omega
    have hz8:(pz:Int)<(n:Int):=by have:=HPZ.out.2;omega
    obtain⟨g0,c0,cur0,old0,hv0,hb0,hc0,hh0,hq0,-⟩:=HPJ.out.set (j:=pz) HPZ.out.2 HBU.out;obtain⟨e1,-,e3⟩:=Value.slice.inj hv0;subst e1 e3;clear hh0 hq0 hv0;go_upto_region 8 with (fail);have eC:=(Ext.refl wt).drew;refine ql (fun w'=>w'.cell? ⟨g,0,none⟩=some (.slice (some ⟨g0,0,none⟩) n c5)/\w'.cell? ⟨gt,0,none⟩=some (.int .i64 (pz:Int))/\w'.cell? ⟨gt,1,none⟩=some (.slice B7 m7 d7)) [8] (by kernel_rfl) (by exact⟨eC.cell p0,eC.cell t0,eC.cell t1⟩) (fun hHeld=>?_);refine sP 0 (h:=?_);refine sT 1 (h:=?_);refine sP 2 (h:=?_);refine sT 3 (h:=?_);refine sP 4 (h:=?_);refine sT 5 (h:=?_);refine qg (i:=6) rfl (by kernel_rfl) (fun K hK=>?_);go_simp;refine (yh (HBU.out.1.ext eC) hl9).mono ?_;rintro e w5 ⟨v5,rfl,hG5,e5⟩;obtain⟨A8,c8,rfl,-⟩:=hG5.by.form
    replace eC:=eC.trans e5;go_wp2_with fail;clear hHeld;refine hK.out _ _ (by exact⟨eC.cell p0,eC.cell t0,eC.cell t1⟩) fun hHeld=>?_
    clear hK K;try simp only[nr]
    refine sP 7 (h:=?_);refine qC (i:=8) rfl (by kernel_rfl) (by kernel_rfl) (fun K hK=>?_);obtain⟨g1,c1,cur,old,hv1,hb1,hc1,hh1,hq1,hPS⟩:=(HPJ.out.ext eC).set (j:=pz) HPZ.out.2 hG5.u;obtain⟨e1,-,e3⟩:=Value.slice.inj hv1;injection e1 with e1
    injection e1 with e1
    subst e1 e3;have HPS:=q_h hPS;have HNG:Hid (g≠g0):=neT hh1 (eC.block HG.out) (by decide);have HNR:Hid (w.heap.size+1≠g0):=neT hh1 (eC.block HRB.out) (by decide);clear hv1 hPS;obtain⟨wa,Ea,Ba,Ua⟩:=qL hh1 pz (.slice A8 x7.data.length c8);have f4:=qp hh1 pz;have c4':=(qj hh1 pz).trans hq1;go_simp;try rw[Ea]
    clear f4 c4' Ea;refine hK.out _ _ ?_;clear hK K;try simp only[nr]
    refine qm (by kernel_rfl) ?_ _;clear hHeld;have Ca:=Ua.chg (NoU.mk hh1 (by decide))
    have HPn:Hid (PgF (w.heap.size+2) wa (.slice (some ⟨g0,0,none⟩) n c5) n (fun q=>(yE m.pages m.acts kp (j+1)).getD q [])):=by
     refine (HPS.out wa Ba Ua).congr fun q hq=>?_
     show _=(if kp.getD j false=true then _ else yE m.pages m.acts kp j).getD q []
     rw[if_pos hbz.out.symm,y7 _ _ _ (by rw[jb,<-hx7.out,<-hpz.out,<-HN.out];exact HPZ.out.2),<-hx7.out,<-hpz.out]
    have HAa:=q_h ((HAJ.out.ext eC).chgT Ca hh1 (by decide) (by decide));have HXa:Hid (Ext w wa):=Ca.ext (HX.out.trans eC) (by omega);have HRa:=q_h ((Ua.block _ HNR.out).trans (eC.block HRB.out));have HGa:=q_h ((Ua.block _ HNG.out).trans (eC.block HG.out));clear HPJ HPS Ca Ba Ua p0 p1 p2 p3 t0 t1 t2 hh1 hq1 HBU HWR HT HAJ HX HRB HG eC e5 hG5;go_wp2;go_roundw
    case rel=>exact⟨j+1,by omega,by go_num,HGa,HPn,HAa,HXa,HRa⟩
    case measure=>simp[intOf];omega
  obtain rfl:k=j:=by omega
  have u7:decide ((k:Int)<(k:Int))=false:=q_f (by omega);obtain⟨p0,p1,p2,p3⟩:=qG HG.out;go_upto_region 10 with (fail);refine wp_region_lit ?_;refine wpList_plain rfl (fun K hK=>?_);go_simp;refine hK _ _ ?_;clear hK K;try simp only[nr]
  obtain⟨wa,Ea,Ba,Ua⟩:=qL HG.out 1 (.slice none 0 0);have f4:=qp HG.out 1;have c4':=(qj HG.out 1).trans rfl;refine wpList_plain rfl (fun K hK=>?_);go_simp;try rw[Ea]
  refine hK _ _ ?_;clear hK K f4 c4' Ea;try simp only[nr]
  have B1:wa.heap[g]?=some (.cells #[.slice A5 n c5,.slice none 0 0,.int .i64 left,.bool dead] 46 (0,0)):=Ba;have U1:=Ua;clear Ba Ua p0 p1 p2 p3;obtain⟨w1,hw1⟩:∃w1,w1=wa:=⟨_,rfl⟩
  subst hw1;refine wpList_plain rfl (fun K hK=>?_);go_simp;refine hK _ _ ?_;clear hK K;try simp only[nr]
  obtain⟨wa,Ea,Ba,Ua⟩:=qL B1 2 (.int .i64 (-1));have f4:=qp B1 2;have c4':=(qj B1 2).trans rfl;refine wpList_plain rfl (fun K hK=>?_);go_simp;try rw[Ea]
  refine hK _ _ ?_;clear hK K f4 c4' Ea;try simp only[nr]
  have B2:wa.heap[g]?=some (.cells #[.slice A5 n c5,.slice none 0 0,.int .i64 (-1),.bool dead] 46 (0,0)):=Ba;have U2:=U1.trn Ua;clear Ba Ua;obtain⟨w2,hw2⟩:∃w2,w2=wa:=⟨_,rfl⟩
  subst hw2;refine wpList_plain rfl (fun K hK=>?_);go_simp;refine hK _ _ ?_;clear hK K;try simp only[nr]
  obtain⟨wa,Ea,Ba,Ua⟩:=qL B2 3 (.bool false);have f4:=qp B2 3;have c4':=(qj B2 3).trans rfl;refine wpList_plain rfl (fun K hK=>?_);go_simp;try rw[Ea]
  refine hK _ _ ?_;clear hK K f4 c4' Ea;try simp only[nr]
  have B3:wa.heap[g]?=some (.cells #[.slice A5 n c5,.slice none 0 0,.int .i64 (-1),.bool false] 46 (0,0)):=Ba;have U3:=U2.trn Ua;clear Ba Ua;have Ca:=U3.chg (NoU.mk HG.out (by decide))
  have HMD:Hid (MdF (w.heap.size+2) wa (.slice A5 n c5) (.slice none (0:Nat) 0) (yT m kp)):=by
   refine⟨?_,zG.nil (by have:=qK B3;have:=HGW.out;omega)⟩;have h1:=HPJ.out.chgT Ca HG.out (by decide) (by decide)
   show PgF _ _ _ (yE m.pages m.acts kp m.acts.length).length (fun q=>(yE m.pages m.acts kp m.acts.length).getD q [])
   rw[jb,<-HN.out,<-HK.out];exact h1
  replace HX:Hid (Ext w wa):=Ca.ext HX.out (by have:=HGW.out;omega);replace HRB:=q_h ((U3.block _ (by have:=HGW.out;omega)).trans HRB.out);have HM1:Hid ((yT m kp).pages.length=n):=by rw[Hid,HN.out];exact jb _ _ _ _
  obtain⟨mo,hmo⟩:=qf (yT m kp);rw[<-hmo.out] at HMD HM1 hR;have HM2:Hid (mo.acts.length=0):=by rw[hmo.out];exact (rfl:([]:List qX).length=0)
  have HM3:Hid (mo.left = -1):=by rw[hmo.out];exact (rfl:(-1:Int) = -1)
  have HM4:Hid (mo.dead=false):=by rw[hmo.out];exact (rfl:false=false)
  clear HG HPJ HAJ U1 U2 U3 B1 B2;obtain⟨r,HEQ⟩:=qf (mo,(0:Int));rw[<-HEQ.out] at hR;obtain⟨p0,p1,p2,p3⟩:=qG B3;go_upto_region 11 with (fail);refine wp_region_lit ?_;refine wpList_plain rfl (fun K hK=>?_);go_simp;refine hK _ _ ?_;clear hK K;try simp only[nr]
  refine qh rfl 46 _ _ rfl (by rfl) (by rfl) HRB.out xu (by rfl) (by rfl) (by rfl) ?_;intro wz Bz Uz;obtain⟨x0,x1,x2,x3⟩:=qG Bz;go_wp2;refine bodyPost_ret (v:=.tuple #[.agg #[.slice A5 n c5,.slice none 0 0,.int .i64 (-1),.bool false],.int .i64 0]) ?_ rfl ?_
  ·simp[results,x0,x1,x2,x3,go_sem]
  ·rw[hR.out];have Cz:=Uz.chg (NoU.mk HRB.out (by decide));have hPz:=HMD.out.1.chgT Cz HRB.out (by decide) (by decide);have hLz:=HMD.out.2.chgT Cz HRB.out (by decide) (by decide);exact vC.mk HEQ.out HM1.out HM2.out HM3.out HM4.out (MdF.low ⟨hPz,hLz⟩ (by omega)) (Cz.ext HX.out (by omega))
theorem Qd (a b:Nat) (ha:a<1099511627776) (hb:b<1099511627776):Go.bits .or .i64 (a:Int) (b:Int)=((a ||| b:Nat):Int):=by
 have hx:a ||| b<2 ^ 40:=Nat.or_lt_two_pow (by omega) (by omega)
 have h1:(BitVec.ofInt 64 (a:Int)).toNat=a:=by
  rw[BitVec.ofInt_natCast,BitVec.toNat_ofNat];exact Nat.mod_eq_of_lt (by omega)
 have h2:(BitVec.ofInt 64 (b:Int)).toNat=b:=by
  rw[BitVec.ofInt_natCast,BitVec.toNat_ofNat];exact Nat.mod_eq_of_lt (by omega)
 show IntKind.i64.wrap ((BitVec.ofInt 64 (a:Int) ||| BitVec.ofInt 64 (b:Int)).toNat:Int)=_
 rw[BitVec.toNat_or,h1,h2];exact wrp (by omega) (by omega)
theorem YX (k a b:Nat) (ha:2 ^ k*a<1099511627776) (hk:b<2 ^ k) (hb:b<1099511627776):Go.bits .or .i64 ((2 ^ k*a:Nat):Int) (b:Int)=((2 ^ k*a+b:Nat):Int):=by
 rw[Qd _ _ ha hb,Nat.two_pow_add_eq_or_of_lt hk]
def g4 (l:Byt):Int:=chZ l 0*16777216+chZ l 1*65536+chZ l 2*256+chZ l 3
theorem wK {l:Byt}(h:ByV w (.slice A n c) l) (hn:n=l.length) (h4:4<=n):Calls Tryz.prog 141 #[.slice A n c] w (qH w (.int .i64 (g4 l))):=by
 obtain⟨r,hr⟩:=qf (g4 l);rw[<-hr.out]
 have hnc:n<=c:=by
  obtain⟨A',c',h1,h2,-⟩:=h.form;obtain⟨-,e1,e2⟩:=Value.slice.inj h1;omega
 subst hn;obtain⟨g,off,rfl,hx⟩:=h.addr (by omega);have k0:=hx 0 (by omega);have k1:=hx 1 (by omega);have k2:=hx 2 (by omega);have k3:=hx 3 (by omega);obtain⟨z0,hz0⟩:=qf (chZ l 0);obtain⟨z1,hz1⟩:=qf (chZ l 1);obtain⟨z2,hz2⟩:=qf (chZ l 2);obtain⟨z3,hz3⟩:=qf (chZ l 3);rw[<-hz0.out] at k0;rw[<-hz1.out] at k1;rw[<-hz2.out] at k2;rw[<-hz3.out] at k3;rw[Nat.add_zero] at k0
 have HV:Hid (Go.bits .or .i64 (Go.bits .or .i64 (Go.bits .or .i64 (IntKind.i64.wrap (IntKind.i64.wrap z0*16777216)) (IntKind.i64.wrap (IntKind.i64.wrap z1*65536))) (IntKind.i64.wrap (IntKind.i64.wrap z2*256))) (IntKind.i64.wrap z3)=r):=by
  have e0:∃y:Nat,z0=(y:Int)/\y<256:=⟨(l.getD 0 0).toNat,hz0.out,(l.getD 0 0).toNat_lt⟩
  have e1:∃y:Nat,z1=(y:Int)/\y<256:=⟨(l.getD 1 0).toNat,hz1.out,(l.getD 1 0).toNat_lt⟩
  have e2:∃y:Nat,z2=(y:Int)/\y<256:=⟨(l.getD 2 0).toNat,hz2.out,(l.getD 2 0).toNat_lt⟩
  have e3:∃y:Nat,z3=(y:Int)/\y<256:=⟨(l.getD 3 0).toNat,hz3.out,(l.getD 3 0).toNat_lt⟩
  have hrr:r=z0*16777216+z1*65536+z2*256+z3:=by rw[hr.out,hz0.out,hz1.out,hz2.out,hz3.out];rfl
  clear hz0 hz1 hz2 hz3 hr;obtain⟨y0,rfl,b0⟩:=e0;obtain⟨y1,rfl,b1⟩:=e1;obtain⟨y2,rfl,b2⟩:=e2;obtain⟨y3,rfl,b3⟩:=e3;rw[Hid,hrr];rw[show IntKind.i64.wrap (y0:Int)=(y0:Int) from wrp (by omega) (by omega),show IntKind.i64.wrap (y1:Int)=(y1:Int) from wrp (by omega) (by omega),show IntKind.i64.wrap (y2:Int)=(y2:Int) from wrp (by omega) (by omega),show IntKind.i64.wrap (y3:Int)=(y3:Int) from wrp (by omega) (by omega)];rw[show IntKind.i64.wrap ((y0:Int)*16777216)=((2 ^ 24*y0:Nat):Int) from (wrp (by omega) (by omega)).trans (by omega),show IntKind.i64.wrap ((y1:Int)*65536)=((65536*y1:Nat):Int) from (wrp (by omega) (by omega)).trans (by omega),show IntKind.i64.wrap ((y2:Int)*256)=((256*y2:Nat):Int) from (wrp (by omega) (by omega)).trans (by omega)];rw[YX 24 y0 (65536*y1) (by omega) (by omega) (by omega)];rw[show 2 ^ 24*y0+65536*y1=2 ^ 16*(256*y0+y1) by omega,YX 16 _ (256*y2) (by omega) (by omega) (by omega)];rw[show 2 ^ 16*(256*y0+y1)+256*y2=2 ^ 8*(65536*y0+256*y1+y2) by omega,YX 8 _ y3 (by omega) (by omega) (by omega)];omega
 obtain⟨m,hm⟩:=qf l.length;rw[<-hm.out] at h4 hnc ⊢;clear hx h;go_enter Tryz.func141,Tryz.ntmps141;go_upto_region 1 with (fail);have eC:=(Ext.refl w).drew;refine ql (fun w'=>w'.cell? ⟨g,off,none⟩=some (.int .u8 z0)/\w'.cell? ⟨g,off+1,none⟩=some (.int .u8 z1)/\w'.cell? ⟨g,off+2,none⟩=some (.int .u8 z2)/\w'.cell? ⟨g,off+3,none⟩=some (.int .u8 z3)) [] (by kernel_rfl) (by exact⟨eC.cell k0,eC.cell k1,eC.cell k2,eC.cell k3⟩) (fun hHeld=>?_);refine sP 0 (h:=?_);refine sP 1 (h:=?_);refine sT 2 (h:=?_);refine sP 3 (h:=?_);refine sP 4 (h:=?_);refine sP 5 (h:=?_);refine sP 6 (h:=?_);refine sT 7 (h:=?_);refine sP 8 (h:=?_);refine sP 9 (h:=?_);refine sP 10 (h:=?_);refine sP 11 (h:=?_);refine sP 12 (h:=?_);refine sT 13 (h:=?_);refine sP 14 (h:=?_);refine sP 15 (h:=?_);refine sP 16 (h:=?_);refine sP 17 (h:=?_);refine sP 18 (h:=?_);refine sT 19 (h:=?_);refine sP 20 (h:=?_);refine sP 21 (h:=?_);refine sP 22 (h:=?_);refine qm (by kernel_rfl) ?_ _;clear hHeld;rw[HV.out];clear k0 k1 k2 k3;go_wp2
 first|go_ret|skip
 exact⟨rfl,eC⟩
theorem q08 (l:Byt):0<=g4 l/\g4 l<4294967296:=by
 have h0:=yU l 0;have h1:=yU l 1;have h2:=yU l 2;have h3:=yU l 3;unfold g4;omega
def rdS (l:Byt) (n:Int):Shf:=⟨n,g4 (l.drop 4),chZ l 8,g4 (l.drop 9),[],[]⟩
def q1m (l:Byt) (i:Int):Bool:=decide (l=jq (g4 (l.drop 4)) (chZ l 8) (g4 (l.drop 9)))&&decide ((g4 (l.drop 4)).tmod 2=i)
def q26 (l:Byt) (i n:Int) (w:World) (e:Ending) (w':World):Prop:=e=.returned (.tuple #[.agg #[.int .i64 n,.int .i64 (g4 (l.drop 4)),.int .i64 (chZ l 8),.int .i64 (g4 (l.drop 9)),.slice none 0 0,.slice none 0 0],.bool (q1m l i)])/\Ext w w'
theorem WC {l:Byt}{i n:Int}(h:ByV w (.slice A 64 c) l) (hl:l.length=64) (hM:xH w):Calls Tryz.prog 86 #[.slice A 64 c,.int .i64 i,.int .i64 n] w (q26 l i n w):=by
 obtain⟨R,hR⟩:=qf (q26 l i n w);rw[<-hR.out];have HB:=q_h h;have HM:=q_h hM;obtain⟨g,off,rfl,hx⟩:=h.addr (by omega);have k8:=hx 8 (by omega);obtain⟨sq,hsq⟩:=qf (g4 (l.drop 4));obtain⟨hf,hhf⟩:=qf (chZ l 8);obtain⟨us,hus⟩:=qf (g4 (l.drop 9));rw[<-hhf.out] at k8;have hbs:0<=sq/\sq<4294967296:=by rw[hsq.out];exact q08 _
 have hbh:0<=hf/\hf<256:=by have:=yU l 8;rw[hhf.out];omega
 have hbu:0<=us/\us<4294967296:=by rw[hus.out];exact q08 _
 have hwh:IntKind.i64.wrap hf=hf:=wrp (by omega) (by omega)
 have hc64:64<=c:=by
  obtain⟨A',c',h1,h2,-⟩:=h.form;obtain⟨-,e1,e2⟩:=Value.slice.inj h1;omega
 have H4:Hid (∀w',Ext w w'->Calls Tryz.prog 141 #[.slice (some ⟨g,off+4,none⟩) 60 (c-4)] w' (qH w' (.int .i64 sq))):=fun w' e=>by
  rw[hsq.out];have h9:=(HB.out.ext e).from (k:=4) (by omega)
  rw[if_neg (by omega)] at h9;exact wK h9 (by rw[List.length_drop,hl]) (by omega)
 have H9:Hid (∀w',Ext w w'->Calls Tryz.prog 141 #[.slice (some ⟨g,off+9,none⟩) 55 (c-9)] w' (qH w' (.int .i64 us))):=fun w' e=>by
  rw[hus.out];have h9:=(HB.out.ext e).from (k:=9) (by omega)
  rw[if_neg (by omega)] at h9;exact wK h9 (by rw[List.length_drop,hl]) (by omega)
 clear h hM hx;go_enter Tryz.func86,Tryz.ntmps86;go_upto_region 1 with (fail);refine qo ?_;intro w1 hE hsz B0;have HX1:=q_h hE;have HB0:=q_h B0;replace k8:=hE.cell k8;have hc4:¬c=4:=by omega
 have hc9:¬c=9:=by omega
 clear hE B0
 go_cut [8] (fun pv wx=>∃q,pv=.pointer (some ⟨q,0,none⟩)/\w1.heap.size<=q/\Hid (wx.heap[q]?=some (.cells #[.int .i64 n,.int .i64 sq,.int .i64 hf,.int .i64 us,.slice none 0 0,.slice none 0 0] 25 (0,0)))/\Ext w1 wx)
 case first =>
  have eC:=(Ext.refl w1).drew;refine ql (fun w'=>w'.cell? ⟨g,off+8,none⟩=some (.int .u8 hf)) [] (by kernel_rfl) (by exact eC.cell k8) (fun hHeld=>?_);refine sP 0 (h:=?_);refine sP 1 (h:=?_);refine sP 2 (h:=?_);refine sP 4 (h:=?_);refine sP 5 (h:=?_);refine sT 6 (h:=?_);refine sP 7 (h:=?_);refine sP 8 (h:=?_);refine sP 9 (h:=?_);refine xQ (i:=3) (j:=12) rfl rfl (by kernel_rfl) (fun K hK=>?_) (fun K hK=>?_)
  focus
   go_simp;refine (H4.out _ (HX1.out.trans eC)).mono ?_;rintro e w5 ⟨rfl,e5⟩;replace eC:=eC.trans e5;try replace BT:=e5.block BT
   clear e5;go_wp2_with fail;clear hHeld;refine hK.out _ _ (by exact eC.cell k8) fun hHeld=>?_
   clear hK K;try simp only[nr]
   refine xQ (i:=10) (j:=12) rfl rfl (by kernel_rfl) (fun K hK=>?_) (fun K hK=>?_)
   focus
    go_simp;refine (H9.out _ (HX1.out.trans eC)).mono ?_;rintro e w6 ⟨rfl,e6⟩;replace eC:=eC.trans e6;try replace BT:=e6.block BT
    clear e6;go_wp2_with fail;clear hHeld;refine hK.out _ _ (by exact eC.cell k8) fun hHeld=>?_
    clear hK K;try simp only[nr]
    refine sP 11 (h:=?_);refine qg (i:=12) rfl (by kernel_rfl) (fun K hK=>?_);go_simp
    first|refine qo ?_|refine qY ?_
    intro w10 e10 hsz10 BT;have hT9:=eC.size;replace eC:Ext w1 w10:=by first|exact eC.trans e10|exact e10
    clear e10;clear hHeld;refine hK.out _ _ (by exact eC.cell k8) fun hHeld=>?_
    clear hK K;try simp only[nr]
    refine qg (i:=13) rfl (by kernel_rfl) (fun K hK=>?_);refine qF rfl 25 _ _ rfl (by rfl) (by rfl) BT qJ (by rfl) (by rfl) (by rfl) ?_;intro w11 B11 U11;have C11:=U11.chg (NoU.mk BT (by decide));replace eC:=C11.ext eC (by omega);clear U11 C11 BT;clear hHeld;refine hK.out _ _ (by exact eC.cell k8) fun hHeld=>?_
    clear hK K;try simp only[nr]
   rotate_left 1
   focus
    go_simp
    first|refine qo ?_|refine qY ?_
    intro w10 e10 hsz10 BT;have hT9:=eC.size;replace eC:Ext w1 w10:=by first|exact eC.trans e10|exact e10
    clear e10;clear hHeld;refine hK.out _ _ (by exact eC.cell k8) fun hHeld=>?_
    clear hK K;try simp only[nr]
    refine qg (i:=10) rfl (by kernel_rfl) (fun K hK=>?_);go_simp;refine (H9.out _ (HX1.out.trans eC)).mono ?_;rintro e w6 ⟨rfl,e6⟩;replace eC:=eC.trans e6;try replace BT:=e6.block BT
    clear e6;go_wp2_with fail;clear hHeld;refine hK.out _ _ (by exact eC.cell k8) fun hHeld=>?_
    clear hK K;try simp only[nr]
    refine sP 11 (h:=?_);refine qg (i:=13) rfl (by kernel_rfl) (fun K hK=>?_);refine qF rfl 25 _ _ rfl (by rfl) (by rfl) BT qJ (by rfl) (by rfl) (by rfl) ?_;intro w11 B11 U11;have C11:=U11.chg (NoU.mk BT (by decide));replace eC:=C11.ext eC (by omega);clear U11 C11 BT;clear hHeld;refine hK.out _ _ (by exact eC.cell k8) fun hHeld=>?_
    clear hK K;try simp only[nr]
   rotate_left 1
  rotate_left 2
  focus
   go_simp
   first|refine qo ?_|refine qY ?_
   intro w10 e10 hsz10 BT;have hT9:=eC.size;replace eC:Ext w1 w10:=by first|exact eC.trans e10|exact e10
   clear e10;clear hHeld;refine hK.out _ _ (by exact eC.cell k8) fun hHeld=>?_
   clear hK K;try simp only[nr]
   refine qg (i:=3) rfl (by kernel_rfl) (fun K hK=>?_);go_simp;refine (H4.out _ (HX1.out.trans eC)).mono ?_;rintro e w5 ⟨rfl,e5⟩;replace eC:=eC.trans e5;try replace BT:=e5.block BT
   clear e5;go_wp2_with fail;clear hHeld;refine hK.out _ _ (by exact eC.cell k8) fun hHeld=>?_
   clear hK K;try simp only[nr]
   refine qg (i:=10) rfl (by kernel_rfl) (fun K hK=>?_);go_simp;refine (H9.out _ (HX1.out.trans eC)).mono ?_;rintro e w6 ⟨rfl,e6⟩;replace eC:=eC.trans e6;try replace BT:=e6.block BT
   clear e6;go_wp2_with fail;clear hHeld;refine hK.out _ _ (by exact eC.cell k8) fun hHeld=>?_
   clear hK K;try simp only[nr]
   refine sP 11 (h:=?_);refine qg (i:=13) rfl (by kernel_rfl) (fun K hK=>?_);refine qF rfl 25 _ _ rfl (by rfl) (by rfl) BT qJ (by rfl) (by rfl) (by rfl) ?_;intro w11 B11 U11;have C11:=U11.chg (NoU.mk BT (by decide));replace eC:=C11.ext eC (by omega);clear U11 C11 BT;clear hHeld;refine hK.out _ _ (by exact eC.cell k8) fun hHeld=>?_
   clear hK K;try simp only[nr]
  rotate_left 1
  all_goals
   refine qm (by kernel_rfl) ?_ _;clear hHeld
  all_goals
   go_wp2_with fail
   go_meet
   exact⟨_,rfl,by omega,B11,eC⟩
 obtain⟨q,rfl,hq,HBq,hcE⟩:=hcut;obtain⟨wq,hwq⟩:∃wq,wq=wc:=⟨_,rfl⟩
 subst hwq;have HXq:=q_h (HX1.out.trans hcE);have HRq:=q_h (hcE.block HB0.out);have hqw:w.heap.size<q:=by omega
 clear hcE k8 HX1 HB0;obtain⟨r,hr⟩:=qf (q1m l i);go_upto_region 2 with (fail)
 by_cases hEq:l=jq sq hf us
 ·have HRB:Hid (r=decide (sq.tmod 2=i)):=by
   rw[Hid,hr.out];unfold q1m;rw[<-hsq.out,<-hhf.out,<-hus.out,q_t hEq]
   rfl
  have v1:(sq.tmod 2 == i)=r:=by rw[HRB.out];by_cases h9:sq.tmod 2=i<;>simp[h9]
  have v2:decide (sq.tmod 2=i)=r:=HRB.out.symm;have HRB:Hid (r=r):=rfl;have eC:=(Ext.refl wq).drew.block HBq.out;refine ql (fun w'=>w'.heap[q]?=some (.cells #[.int .i64 n,.int .i64 sq,.int .i64 hf,.int .i64 us,.slice none 0 0,.slice none 0 0] 25 (0,0))) [] (by kernel_rfl) (by exact eC) (fun hHeld=>?_);refine sT 0 (hy:=by (intro w9 hSw;have c9:=qw hSw;go_simp;(try (rw[if_pos (by omega)]));(try with_reducible rfl))) (h:=?_);refine sP 1 (h:=?_);refine sT 2 (hy:=by (intro w9 hSw;have c9:=qw hSw;go_simp;(try (rw[if_pos (by omega)]));(try with_reducible rfl))) (h:=?_);refine qg (i:=3) rfl (by kernel_rfl) (fun K hK=>?_);go_simp;refine (zQ (HM.out.ext (HXq.out.trans (Ext.refl wq).drew)) hbs.1 hbs.2 hbh.1 hbh.2 hbu.1 hbu.2).mono ?_;rintro e w5 ⟨gs,rfl,hgs,hPs,e5⟩;have HE5:Hid (Ext wq w5):=(Ext.refl wq).drew.trans e5;replace eC:=e5.block eC;have HPS:=q_h (hPs.u64 (vG sq hf us)).1;clear hPs e5;go_wp2_with fail;clear hHeld;refine hK.out _ _ (by exact eC) fun hHeld=>?_
  clear hK K;try simp only[nr]
  refine qg (i:=4) rfl (by kernel_rfl) (fun K hK=>?_);go_simp;refine (Zu (HB.out.ext (HXq.out.trans HE5.out)) HPS.out).mono ?_;rintro e w6 ⟨rfl,e6⟩;rw[q_t hEq];have HE6:=q_h (HE5.out.trans e6);replace eC:=e6.block eC;clear e6;go_wp2_with fail;clear hHeld;refine hK.out _ _ (by exact eC) fun hHeld=>?_
  clear hK K;try simp only[nr]
  refine sP 5 (h:=?_);refine sP 6 (h:=?_);refine sT 7 (hy:=by (intro w9 hSw;have c9:=qw hSw;go_simp;(try (rw[if_pos (by omega)]));(try with_reducible rfl))) (h:=?_);refine sP 8 (h:=?_);refine sP 9 (h:=?_);refine sP 10 (h:=?_);refine sP 11 (h:=?_);refine qg (i:=12) rfl (by kernel_rfl) (fun K hK=>?_);have hR6:=HE6.out.block HRq.out;refine qF rfl 25 _ _ rfl (by rfl) (by rfl) hR6 qJ (by rfl) (by rfl) (by rfl) ?_;intro w7 B7 U7;replace eC:=(U7.block q (by omega)).trans eC;have HX7:Hid (Ext w w7):=(U7.chg (NoU.mk hR6 (by decide))).ext (HXq.out.trans HE6.out) (by omega);have HB7:=q_h B7;clear B7 U7 hR6;clear hHeld;refine hK.out _ _ (by exact eC) fun hHeld=>?_
  clear hK K;try simp only[nr]
  refine sP 13 (h:=?_);refine qm (by kernel_rfl) ?_ _;clear hHeld;clear eC;obtain⟨x0,x1,x2,x3,x4,x5⟩:=qw HB7.out;go_wp2;refine bodyPost_ret (v:=.tuple #[.agg #[.int .i64 n,.int .i64 sq,.int .i64 hf,.int .i64 us,.slice none 0 0,.slice none 0 0],.bool r]) ?_ rfl ?_
  ·simp[results,x0,x1,x2,x3,x4,x5,go_sem,HRB.out]
  ·rw[hR.out];exact⟨by rw[hsq.out,hhf.out,hus.out,hr.out],HX7.out⟩
 ·have HRB:Hid (false=r):=by
   rw[Hid,hr.out];unfold q1m;rw[<-hsq.out,<-hhf.out,<-hus.out,q_f hEq]
   rfl
  have eC:=(Ext.refl wq).drew.block HBq.out;refine ql (fun w'=>w'.heap[q]?=some (.cells #[.int .i64 n,.int .i64 sq,.int .i64 hf,.int .i64 us,.slice none 0 0,.slice none 0 0] 25 (0,0))) [] (by kernel_rfl) (by exact eC) (fun hHeld=>?_);refine sT 0 (hy:=by (intro w9 hSw;have c9:=qw hSw;go_simp;(try (rw[if_pos (by omega)]));(try with_reducible rfl))) (h:=?_);refine sP 1 (h:=?_);refine sT 2 (hy:=by (intro w9 hSw;have c9:=qw hSw;go_simp;(try (rw[if_pos (by omega)]));(try with_reducible rfl))) (h:=?_);refine qg (i:=3) rfl (by kernel_rfl) (fun K hK=>?_);go_simp;refine (zQ (HM.out.ext (HXq.out.trans (Ext.refl wq).drew)) hbs.1 hbs.2 hbh.1 hbh.2 hbu.1 hbu.2).mono ?_;rintro e w5 ⟨gs,rfl,hgs,hPs,e5⟩;have HE5:Hid (Ext wq w5):=(Ext.refl wq).drew.trans e5;replace eC:=e5.block eC;have HPS:=q_h (hPs.u64 (vG sq hf us)).1;clear hPs e5;go_wp2_with fail;clear hHeld;refine hK.out _ _ (by exact eC) fun hHeld=>?_
  clear hK K;try simp only[nr]
  refine qg (i:=4) rfl (by kernel_rfl) (fun K hK=>?_);go_simp;refine (Zu (HB.out.ext (HXq.out.trans HE5.out)) HPS.out).mono ?_;rintro e w6 ⟨rfl,e6⟩;rw[q_f hEq];have HE6:=q_h (HE5.out.trans e6);replace eC:=e6.block eC;clear e6;go_wp2_with fail;clear hHeld;refine hK.out _ _ (by exact eC) fun hHeld=>?_
  clear hK K;try simp only[nr]
  refine sP 5 (h:=?_);refine sF 6 (h:=?_);refine sF 7 (h:=?_);refine sF 8 (h:=?_);refine sF 9 (h:=?_);refine sF 10 (h:=?_);refine sP 11 (h:=?_);refine qg (i:=12) rfl (by kernel_rfl) (fun K hK=>?_);have hR6:=HE6.out.block HRq.out;refine qF rfl 25 _ _ rfl (by rfl) (by rfl) hR6 qJ (by rfl) (by rfl) (by rfl) ?_;intro w7 B7 U7;replace eC:=(U7.block q (by omega)).trans eC;have HX7:Hid (Ext w w7):=(U7.chg (NoU.mk hR6 (by decide))).ext (HXq.out.trans HE6.out) (by omega);have HB7:=q_h B7;clear B7 U7 hR6;clear hHeld;refine hK.out _ _ (by exact eC) fun hHeld=>?_
  clear hK K;try simp only[nr]
  refine sP 13 (h:=?_);refine qm (by kernel_rfl) ?_ _;clear hHeld;clear eC;obtain⟨x0,x1,x2,x3,x4,x5⟩:=qw HB7.out;go_wp2;refine bodyPost_ret (v:=.tuple #[.agg #[.int .i64 n,.int .i64 sq,.int .i64 hf,.int .i64 us,.slice none 0 0,.slice none 0 0],.bool r]) ?_ rfl ?_
  ·simp[results,x0,x1,x2,x3,x4,x5,go_sem,HRB.out]
  ·rw[hR.out];exact⟨by rw[hsq.out,hhf.out,hus.out,hr.out],HX7.out⟩
theorem PgH.set{w0:World}{y:Value}{l:List Byt}{b:Byt}(h:PgH base w0 w v l) (hj:j<l.length) (hy:ByV w0 y b) :
  ∃(g0 c:Nat) (cur:Array Value) (old:Value),v=.slice (some ⟨g0,0,none⟩) l.length c/\base<=g0/\l.length<=c/\w.heap[g0]?=some (.cells cur 27 (0,0))/\cur[j]?=some old/\∀w',w'.heap[g0]?=some (.cells (cur.setIfInBounds j y) 27 (0,0))->Upd g0 w w'->PgH base w0 w' v (l.set j b):=by
 obtain⟨xs,h1,hG,h3⟩:=h
 rcases hG.2.2 with ⟨-,h2⟩|⟨g0,cap,cur,hv,hb,hh,h4,h5,h6,h7⟩
 ·exfalso
  omega
 rw[h1] at hv h4 h7;rw[Nat.mul_one] at h6 h7
 have hcj:cur[j]?=some (xs[j]'(by omega)):=by
  have e1:(cur.toList.take l.length)[j]?=cur[j]?:=by rw[List.getElem?_take,if_pos hj,Array.getElem?_toList]
  rw[<-e1,h7,List.getElem?_eq_getElem (by omega)]
 refine⟨g0,cap,cur,_,hv,hb,h4,hh,hcj,fun w' hw' U=>?_⟩;refine⟨xs.set j y,by simp[h1],?_,fun i hi=>?_⟩
 ·refine⟨by rw[U.size];exact hG.1,by simp,.inr ⟨g0,cap,cur.setIfInBounds j y,by rw[hv];simp[h1],hb,hw',by simp[h1];omega,h5,by rw[Array.size_setIfInBounds];omega,?_⟩⟩;rw[List.length_set,h1,Nat.mul_one,Array.toList_setIfInBounds,List.take_set,h7]
 ·rw[List.getElem_set,y7 _ _ _ hj]
  by_cases hij:j=i
  ·rw[if_pos hij,if_pos hij.symm];exact hy
  ·rw[if_neg hij,if_neg (fun e=>hij e.symm)];exact h3 i (by simpa using hi)
theorem PgH.ext{w0:World}{l:List Byt}(h:PgH base w0 w v l) (e:Ext w w'):PgH base w0 w' v l:=by
 obtain⟨xs,h1,h2,h3⟩:=h;exact⟨xs,h1,h2.ext e,h3⟩
theorem PgH.chgT{w0:World}{l:List Byt}(h:PgH base w0 w v l) (C:Chg g (g+1) w w'){cs:Array Value}{t:TypeId}{fr:Nat×Nat}(hb:w.heap[g]?=some (.cells cs t fr)) (h2:t≠27):PgH base w0 w' v l:=by
 obtain⟨xs,h3,h4,h5⟩:=h;exact⟨xs,h3,qI.chgT h4 C hb h2,h5⟩
theorem PgH.form{w0:World}{l:List Byt}(h:PgH base w0 w v l):∃A c,v=.slice A l.length c/\l.length<=c:=by
 obtain⟨xs,h1,h2,h3⟩:=h;obtain⟨A,c,rfl,h4⟩:=h2.form;exact⟨A,c,by rw[h1],by omega⟩
theorem PgH.pgs{w0:World}{l:List Byt}(h:PgH base w0 w v l) (e:Ext w0 w):jH w v l:=by
 obtain⟨xs,h1,h2,h3⟩:=h;have h9:=qB.l1 h2 (fun i x=>ByV w x (l.getD i [])) (fun i hi=>(h3 i hi).ext e);rw[h1] at h9;exact h9
def VU (S:List Byt) (f:Bool×Shf) (i:Nat):Bool×Shf :=
 (f.1||q1m (S.getD i []) i,if (q1m (S.getD i []) i&&(decide (chZ (S.getD i []) 8<=1)&&(decide (g4 ((S.getD i []).drop 9)<=qV S.length)&&decide (f.2.seq<g4 ((S.getD i []).drop 4)))))=true then rdS (S.getD i []) S.length else f.2)
def qR (S:List Byt):Nat->Bool×Shf
 | 0=>(false,⟨0,-1,0,0,[],[]⟩)
 | i+1=>VU S (qR S i) i
structure BsOk (n:Nat) (b:Shf):Prop where
 sq : -1<=b.seq/\b.seq<4294967296
 hf:0<=b.half/\b.half<=1
 us:0<=b.used/\b.used<=4294967296
 sz:b.size=0\/b.size=n
 ob:b.objs=[]
 tg:b.tags=[]
 go:0<=b.seq->b.size=n/\b.used<=qV n
theorem Zv (S:List Byt):∀i,BsOk S.length (qR S i).2
 | 0=>⟨⟨Int.le_refl _,(by decide:(-1:Int)<4294967296)⟩,⟨Int.le_refl _,(by decide:(0:Int)<=1)⟩,⟨Int.le_refl _,(by decide:(0:Int)<=4294967296)⟩,.inl rfl,rfl,rfl,fun h=>absurd (show (0:Int)<=-1 from h) (by decide)⟩
 | i+1=>by
  have ih:=Zv S i
  show BsOk S.length (VU S (qR S i) i).2
  unfold VU
  split
  ·rename_i h
   simp only[Bool.and_eq_true,decide_eq_true_eq] at h;obtain⟨-,h1,h2,h3⟩:=h;have g1:=q08 ((S.getD i []).drop 4);have g2:=q08 ((S.getD i []).drop 9);have g3:=yU (S.getD i []) 8;exact⟨⟨(by have:=g1.1;show (-1:Int)<=g4 _;omega),g1.2⟩,⟨g3.1,h1⟩,⟨g2.1,by have:=g2.2;show g4 _<=4294967296;omega⟩,.inr rfl,rfl,rfl,fun _=>⟨rfl,h2⟩⟩
  ·exact ih
theorem VW {m:Med}(h:xC m):∀i,i<m.pages.length->((zk m.pages m.acts).getD i []).length=64:=xC.apply h.wh m.acts h.ac
def q2a (w0:World) (gb:Nat) (s:Shf) (e:Ending) (w':World):Prop:=e=.returned (.bool true)/\∃A n c B k d gm,n=s.objs.length/\k=s.tags.length/\w'.heap[gb]?=some (.cells #[.int .i64 s.size,.int .i64 s.seq,.int .i64 s.half,.int .i64 s.used,.slice A n c,.slice B k d,.map (some gm)] 99 (0,0))/\ObG w0.heap.size w' (.slice A n c) s.objs/\TgG w0.heap.size w' (.slice B k d) s.tags/\Ext w0 w'
def q3o (w0:World) (b:Shf) (l:List Byt) (s:Shf):Prop:=∀(W0 w:World) (gb g:Nat) (A:Option Addr) (u c:Nat),Ext w0 W0->Ext W0 w->W0.heap.size<=gb->W0.heap.size<=g->jH w (.slice A u c) l->u=l.length->w.heap[gb]?=some (.cells #[.int .i64 b.size,.int .i64 b.seq,.int .i64 b.half,.int .i64 b.used,.slice none 0 0,.slice none 0 0,.map (some g)] 99 (0,0))->MpS w g [] ->
 Calls Tryz.prog 88 #[.pointer (some ⟨gb,0,none⟩),.slice A u c] w (q2a W0 gb s)
def q0D (s:Shf) (w:World) (e:Ending) (w':World):Prop:=∃A n c B k d,n=s.objs.length/\k=s.tags.length/\e=.returned (.tuple #[.agg #[.int .i64 s.size,.int .i64 s.seq,.int .i64 s.half,.int .i64 s.used,.slice A n c,.slice B k d],.int .i64 0])/\yJ w' (.slice A n c) s.objs/\jK w' (.slice B k d) s.tags/\Ext w w'
def Wl (S:List Byt) (b:Shf):List Byt:=(S.drop (2+b.half*qV S.length).toNat).take b.used.toNat
theorem jH.sub{l:List Byt}(h:jH w (.slice A n c) l) (hij:i<=j) (hj:j<=n) (hc:j<=c):jH w (.slice (if c=i then A else Option.map (fun x=>x.add i) A) (j-i) (c-i)) ((l.drop i).take (j-i)):=by
 obtain⟨A',c',hv,h1,h2,h3⟩:=h;obtain⟨rfl,rfl,rfl⟩:=Value.slice.inj hv;have hl:((l.drop i).take (j-i)).length=j-i:=by rw[List.length_take,List.length_drop];omega
 refine⟨_,_,by rw[hl],by rw[hl];omega,by omega,fun hn=>?_⟩;rw[hl] at hn;obtain⟨b,off,rfl,h4⟩:=h3 (by omega);rw[if_neg (by omega)];refine⟨b,off+i,by simp only[Option.map_some,qW],fun q hq=>?_⟩;rw[hl] at hq;obtain⟨x,h5,h6⟩:=h4 (i+q) (by omega);refine⟨x,by rw[Nat.add_assoc];exact h5,?_⟩
 show ByV w x (((l.drop i).take (j-i)).getD q [])
 rw[List.getD_eq_getElem?_getD,List.getElem?_take,if_pos hq,List.getElem?_drop,<-List.getD_eq_getElem?_getD];exact h6
end
section
open Go.RowKit Go.Shelf
attribute [local go_sem] Oper.semAt_some
theorem q1W {F:Fence}{fu:Nat}{P:Program}{f:FuncId}{args:Array Value}{R:Ending->World->Prop}{o0 o1 o2:Obj}(h:∀w1,Ext w w1->w.heap.size+3<=w1.heap.size->w1.heap[w.heap.size]?=some o0->w1.heap[w.heap.size+1]?=some o1->w1.heap[w.heap.size+1+1]?=some o2->CallsIn F fu P f args w1 R):CallsIn F fu P f args (((w.alloc o0).alloc o1).alloc o2) R:=Jz (F:=fun w'=>CallsIn F fu P f args w' R) h
theorem Ya (N:Nat) (w:World) (b:Bool) (A1:Option Addr) (k1 c1:Nat) (z:Int) (h:jA N w (.agg #[.bool b,.slice A1 k1 c1]) z) (hg:Gs N w (.slice A1 k1 c1) (dg z.natAbs)) (hk:k1<=1) (hbz:Hid (b=decide (z<0))) :
  CallsIn Fence.wide 5 Tryz.prog 185 #[.agg #[.bool b,.slice A1 k1 c1]] w (qH w (.tuple #[.int .i64 z,.bool true])):=by
 have hla:Hid ((dg z.natAbs).length=k1):=by obtain⟨A',n',c',hv,hl',-,-⟩:=hg.form;cases hv;exact hl'
 have hI:=h;refine callsIn_of_wp_marks Tryz.func185 rfl trivial ?_ rfl;simp only[Tryz.ntmps185,List.size_toArray,List.length_cons,List.length_nil,Nat.reduceAdd,Nat.reduceSub,Array.replicate_succ,Array.replicate_zero,List.push_toArray,List.append_toArray,List.nil_append,List.cons_append]
 gi_wp2_with (refine⟨trivial,?_⟩;gi_at_call 220;refine q_o ?_)
 refine q1W ?_;intro W hE hsz B0 B1 B2;refine (callsIn_wide.2 (Zd (hI.ext hE))).mono ?_;rintro e w1 ⟨rfl,e1⟩;replace B0:=e1.block B0;replace B1:=e1.block B1;replace B2:=e1.block B2;replace hsz:=q_l hsz e1.size;replace hE:=hE.trans e1;obtain⟨l,hl⟩:=qf (dg z.natAbs);have HV:Hid (val l=z.natAbs):=by rw[Hid,hl.out,vY]
 have hdl:Dig l:=by rw[hl.out];exact KL _
 rw[<-hl.out] at hg hla;replace hg:=hg.ext hE;clear e1 hl h hI
 gi_wp2_with (refine⟨trivial,?_⟩;gi_at_call 221;refine (VV Fence.wide _ trivial rfl _ _ _ _).mono ?_;rintro e w' ⟨rfl,rfl⟩)
 refine zu ?_;intro W2 hE2 hsz2 C0 C1
 refine wpIn_rangeFunc_ownF (F:=Fence.wide) (n:=5) rfl (by decide) (gf:=248) (lb:=#[.pointer (some ⟨w1.heap.size+1,0,none⟩)]) rfl trivial (enters_of Tryz.func248 (by kernel_rfl) rfl)
  (QL Fence.wide 4 trivial rfl (by decide) W2 w1 A1 k1 c1 l hg hE2 (w1.heap.size+1) w1.heap.size (by omega) (by omega) (q_r) (kK C1).1)
  Xq (Ve (by omega) (by omega)) (Below.refl _ _) (fun _=>rfl)
  (fun pre W'=>(W'.cell? ⟨w1.heap.size,0,none⟩=some (.int .u64 ((acc l pre:Nat):Int))/\W'.frozen? ⟨w1.heap.size,0,none⟩=false)/\Below w1.heap.size w1 W')
  (fun _ _ _=>False)
  (OwnFrom.and (Own.from (fun s A B row hs hg hr=>⟨cell_kept hs.1 hg hr,(frozen_kept hs.1 hg hr).trans hs.2⟩) _) (ownFrom_below (q_r) (by omega)))
  (fun _ _ _ _ _ hs _ _=>hs)
  ⟨kK C0,hE2⟩
  (fun j=>{ tmps:=#[.agg #[.bool b,.slice A1 k1 c1],.pointer (some ⟨w.heap.size,0,none⟩),.pointer (some ⟨w.heap.size+1,0,none⟩),.pointer (some ⟨w.heap.size+1+1,0,none⟩),.slice A1 k1 c1,.pointer (some ⟨w1.heap.size,0,none⟩),undef,.int .u32 ((l[j.1]?.getD 0:Nat):Int),
     .agg #[.bool b,.slice A1 k1 c1],.slice A1 k1 c1,.slice A1 k1 c1,.int .i64 k1,.bool (decide (3<(k1:Int))),.slice A1 k1 c1,.func (.func 248) #[] #[.pointer (some ⟨w1.heap.size+1,0,none⟩)],
     .int .i64 ((j.1:Nat):Int),.int .u32 ((l[j.1]?.getD 0:Nat):Int),undef,undef,undef,undef,undef,undef,undef,undef,undef,undef,undef,undef,undef,undef,undef,undef,undef,undef,undef,undef,undef,undef,undef,undef,undef,undef,undef],defers:=[] }) ?assign ?body ?done ?stop
 case assign =>
  intro l' j W K hK
  dsimp only[VT]
  obtain⟨z,hz⟩:=qf ((l[j.1]?.getD 0:Nat):Int);obtain⟨k,hk⟩:=qf ((j.1:Nat):Int);rw[<-hz.out,<-hk.out] at hK ⊢
  gi_wp2
  exact hK
 case body =>
  rintro l' pre j W1 ⟨⟨a0,a1⟩,hB⟩ hlt;obtain⟨k,hk'⟩:=qf ((j.1:Nat):Int);obtain⟨za,hza⟩:=qf ((l[j.1]?.getD 0:Nat):Int);have hpl:pre.length=0:=by have:=hla.out;omega
  have hp0:pre=[]:=List.eq_nil_of_length_eq_zero hpl;subst hp0;have HS:Hid (((acc l ([] ++ [j]):Nat):Int)=za):=by rw[Hid,hza.out];simp[acc]
  have a2:W1.cell? ⟨w1.heap.size,0,none⟩=some (.int .u64 0):=by rw[a0];rfl
  clear a0;rw[<-hza.out,<-hk'.out];have za0:0<=za:=by rw[hza.out];omega
  have za1:za<1000000000:=by have:=hdl.get j.1;unfold bs at this;have:=hza.out;omega
  have d1:decide (0 > (9223372036854775808-za) / 1000000000)=false:=q_f (by omega)
  gi_wp2
  refine⟨KeepsOthers.setCell _ _ _,⟨(Below.refl w1.heap.size W1).setCell (p:=⟨w1.heap.size,0,none⟩) (q_r) _,Below.heap_setCell _ _ _ _ (by simp)⟩,⟨?_,by rw[World.frozen?_setCell];exact a1⟩,hB.setCell (p:=⟨w1.heap.size,0,none⟩) (q_r) _⟩;rw[HS.out];exact World.cell?_setCell_same' _ _ _ (by rw[a2];rfl)
 case done =>
  rintro D ys W1 hD rfl ⟨⟨a0,a1⟩,hB⟩ hK;rw[q20] at a0;obtain⟨m,hm⟩:=qf ((val l:Nat):Int);rw[<-hm.out] at a0;have m0:0<=m:=by rw[hm.out];omega
  have m1:m<1000000000:=by
   have h1:=q2f hdl;have h2:bs ^ l.length<=bs ^ 1:=Nat.pow_le_pow_right yV (by have:=hla.out;omega);have:=hm.out;unfold bs at h1 h2;omega
  have HZ:Hid ((z<0->z = -m)/\(¬z<0->z=m)):=by
   have h1:=hm.out;rw[HV.out] at h1;rw[Hid];omega
  have HB:=q_h hbz;replace B0:=(hB.block _ (by omega)).trans B0;replace B1:=(hB.block _ (by omega)).trans B1;replace B2:=(hB.block _ (by omega)).trans B2;obtain⟨p0,p1,-,-⟩:=cells2 B0;obtain⟨q0,q1⟩:=kK B1;obtain⟨r0,r1⟩:=kK B2
  by_cases hz:z<0
  ·obtain rfl:b=true:=by rw[HB.out];exact q_t hz
   have hk1:k1=1:=by
    rcases Nat.lt_or_ge 0 k1 with h9|h9
    ·omega
    ·have h8:l=[]:=List.eq_nil_of_length_eq_zero (by have:=hla.out;omega);have h7:=HV.out;rw[h8] at h7;have h6:val []=0:=rfl;omega
   subst hk1
   have hw1:IntKind.u64.wrap (-m)=18446744073709551616-m:=by
    have:z = -m:=HZ.out.1 hz;simp[IntKind.wrap,IntKind.bits,IntKind.signed];omega
   have hw2:IntKind.i64.wrap (18446744073709551616-m) = -m:=by
    simp[IntKind.wrap,IntKind.bits,IntKind.signed];omega
   have HM:Hid (-m=z):=(HZ.out.1 hz).symm
   gi_wp2
   have hK':=(KeepsOthers.setCell (W1.setCell ⟨w.heap.size+1,0,none⟩ (.int .i64 (-m))) ⟨w.heap.size+1+1,0,none⟩ (.bool true)).same D _ ((KeepsOthers.setCell W1 ⟨w.heap.size+1,0,none⟩ (.int .i64 (-m))).same D _ hK rfl) rfl;have x1:=World.cell?_setCell_same' W1 ⟨w.heap.size+1,0,none⟩ (.int .i64 (-m)) (by rw[q0];rfl);have x2:=cell_far (g:=w.heap.size+1+1) (i:=0) (.bool true) x1 (by simp);have x3:=World.cell?_setCell_same' (W1.setCell ⟨w.heap.size+1,0,none⟩ (.int .i64 (-m))) ⟨w.heap.size+1+1,0,none⟩ (.bool true) (by rw[cell_far _ r0 (by simp)];rfl);have hc5:=cell_kept x2 (grownBy_putObj' _ D (.deferred none)) (fun r e=>by cases e;exact⟨_,hK',rfl⟩);have hc6:=cell_kept x3 (grownBy_putObj' _ D (.deferred none)) (fun r e=>by cases e;exact⟨_,hK',rfl⟩);refine⟨by simp,.inl ⟨_,_,rfl,run_takeDeferred hK',?_⟩⟩;refine⟨.tuple #[.int .i64 (-m),.bool true],?_,by rw[HM.out],(((hE.trans hB).below.setCell (p:=⟨w.heap.size+1,0,none⟩) (by simp) _).setCell (p:=⟨w.heap.size+1+1,0,none⟩) (by simp;omega) _).trans (belowK_b (w:=w) (q_r) _ D _ _ (by omega) hK' rfl rfl)⟩;simp[results,Tryz.results185,go_sem,hc5,hc6]
  ·obtain rfl:b=false:=by rw[HB.out];exact q_f hz
   have HM:Hid (m=z):=(HZ.out.2 hz).symm;have hw1:(m == 9223372036854775808)=false:=by rw[beq_eq_false_iff_ne];omega
   have hw2:IntKind.i64.wrap m=m:=IntWalk.i64_in _ (by omega);clear HB
   rcases Nat.eq_zero_or_pos k1 with h9|h9
   ·subst h9
    gi_wp2
    have hK':=(KeepsOthers.setCell (W1.setCell ⟨w.heap.size+1,0,none⟩ (.int .i64 (m))) ⟨w.heap.size+1+1,0,none⟩ (.bool true)).same D _ ((KeepsOthers.setCell W1 ⟨w.heap.size+1,0,none⟩ (.int .i64 (m))).same D _ hK rfl) rfl;have x1:=World.cell?_setCell_same' W1 ⟨w.heap.size+1,0,none⟩ (.int .i64 (m)) (by rw[q0];rfl);have x2:=cell_far (g:=w.heap.size+1+1) (i:=0) (.bool true) x1 (by simp);have x3:=World.cell?_setCell_same' (W1.setCell ⟨w.heap.size+1,0,none⟩ (.int .i64 (m))) ⟨w.heap.size+1+1,0,none⟩ (.bool true) (by rw[cell_far _ r0 (by simp)];rfl);have hc5:=cell_kept x2 (grownBy_putObj' _ D (.deferred none)) (fun r e=>by cases e;exact⟨_,hK',rfl⟩);have hc6:=cell_kept x3 (grownBy_putObj' _ D (.deferred none)) (fun r e=>by cases e;exact⟨_,hK',rfl⟩);refine⟨by simp,.inl ⟨_,_,rfl,run_takeDeferred hK',?_⟩⟩;refine⟨.tuple #[.int .i64 (m),.bool true],?_,by rw[HM.out],(((hE.trans hB).below.setCell (p:=⟨w.heap.size+1,0,none⟩) (by simp) _).setCell (p:=⟨w.heap.size+1+1,0,none⟩) (by simp;omega) _).trans (belowK_b (w:=w) (q_r) _ D _ _ (by omega) hK' rfl rfl)⟩;simp[results,Tryz.results185,go_sem,hc5,hc6]
   ·obtain rfl:k1=1:=by omega
    gi_wp2
    have hK':=(KeepsOthers.setCell (W1.setCell ⟨w.heap.size+1,0,none⟩ (.int .i64 (m))) ⟨w.heap.size+1+1,0,none⟩ (.bool true)).same D _ ((KeepsOthers.setCell W1 ⟨w.heap.size+1,0,none⟩ (.int .i64 (m))).same D _ hK rfl) rfl;have x1:=World.cell?_setCell_same' W1 ⟨w.heap.size+1,0,none⟩ (.int .i64 (m)) (by rw[q0];rfl);have x2:=cell_far (g:=w.heap.size+1+1) (i:=0) (.bool true) x1 (by simp);have x3:=World.cell?_setCell_same' (W1.setCell ⟨w.heap.size+1,0,none⟩ (.int .i64 (m))) ⟨w.heap.size+1+1,0,none⟩ (.bool true) (by rw[cell_far _ r0 (by simp)];rfl);have hc5:=cell_kept x2 (grownBy_putObj' _ D (.deferred none)) (fun r e=>by cases e;exact⟨_,hK',rfl⟩);have hc6:=cell_kept x3 (grownBy_putObj' _ D (.deferred none)) (fun r e=>by cases e;exact⟨_,hK',rfl⟩);refine⟨by simp,.inl ⟨_,_,rfl,run_takeDeferred hK',?_⟩⟩;refine⟨.tuple #[.int .i64 (m),.bool true],?_,by rw[HM.out],(((hE.trans hB).below.setCell (p:=⟨w.heap.size+1,0,none⟩) (by simp) _).setCell (p:=⟨w.heap.size+1+1,0,none⟩) (by simp;omega) _).trans (belowK_b (w:=w) (q_r) _ D _ _ (by omega) hK' rfl rfl)⟩;simp[results,Tryz.results185,go_sem,hc5,hc6]
 case stop =>
  rintro D c pre W1 _ _ h _;exact h.elim
theorem q1E(h:jA N w v z) (hz:z.natAbs<1000000000) :
  Calls Tryz.prog 185 #[v] w (qH w (.tuple #[.int .i64 z,.bool true])):=by
 obtain⟨b,A,k,c,rfl,hb,hg,-⟩:=h.parts;obtain⟨A',k',c',hv,hl,-,-⟩:=hg.form;cases hv
 refine (callsIn_wide (n:=5)).1 (Ya N w b A k c z h hg ?_ hb);rw[<-hl.out];exact Xj (by unfold bs;simpa using hz)
attribute [local go_sem] Oper.semAt_some
theorem q1X {F:Fence}{fu:Nat}{P:Program}{f:FuncId}{args:Array Value}{R:Ending->World->Prop}{o0:Obj}(h:∀w1,Ext w w1->w.heap.size+1<=w1.heap.size->w1.heap[w.heap.size]?=some o0->CallsIn F fu P f args w1 R):CallsIn F fu P f args (w.alloc o0) R:=qo (F:=fun w'=>CallsIn F fu P f args w' R) h
theorem Xh {β:Type}{Bs:Nat}{W:World}(l:β->Byt) (hB:W.heap.size<=Bs):OwnFrom Bs (fun s w=>yY W b (l s) w):=by
 intro s A B row hs hg hrow;obtain⟨⟨h0,v,lr,hb,hr,hne⟩,hE⟩:=hs;have h5:=hg.block
 have hk:∀k cs t fr,A.heap[k]?=some (Obj.cells cs t fr)->B.heap[k]?=some (Obj.cells cs t fr):=fun k cs t fr h=>by
  refine (h5 k (qK h) (fun e=>?_)).trans h;obtain⟨-,o,ho,hc⟩:=hrow k e.symm;rw[h] at ho;injection ho with ho
  rw[<-ho] at hc;cases hc
 refine⟨⟨h0,v,lr,hk _ _ _ _ hb,?_,hne⟩,ownFrom_below (β:=β) (q_r) hB s A B row hE hg hrow⟩;refine⟨hr.1,?_⟩
 rcases hr.2 with h1|⟨g,cap,cur,h1,h2,h3,h4⟩
 ·exact .inl h1
 ·exact .inr ⟨g,cap,cur,h1,h2,hk _ _ _ _ h3,h4⟩
theorem wU {β:Type}{Bs:Nat}(g:Nat) (cs:Array Value) (t:TypeId) (fr:Nat×Nat):OwnFrom Bs (fun (_:β) w=>w.heap[g]?=some (Obj.cells cs t fr)):=by
 intro s A B row hs hg hrow;refine (hg.block g (qK hs) (fun e=>?_)).trans hs;obtain⟨-,o,ho,hc⟩:=hrow g e.symm;have h9:A.heap[g]?=some (Obj.cells cs t fr):=hs;rw[h9] at ho;injection ho with ho
 rw[<-ho] at hc;cases hc
theorem Qb {W:World}{l s:Byt}(h:yY W b l w) (hl:l.length+s.length<=1000000) :
  Calls Tryz.prog 213 #[.pointer (some ⟨b,0,none⟩),sV s] w (fun e w'=>e=.returned (.tuple #[.int .i64 (s.length:Int),.nilIface])/\yY W b (l++s) w'/\Oth b w w'/\Below W.heap.size w w'):=by
 have h9:=Any.Buffer_WriteString_k (P:=Tryz.prog) (ρ:=wO) q0X W.heap.size b (byC l) ⟨s.toArray⟩ w h.1 h.2.size (jg l) (by rw[qy];show l.length+s.toArray.size<=_;rw[List.size_toArray];omega);refine Calls.mono (show Calls Tryz.prog 213 _ _ _ from h9) ?_;rintro e w' ⟨rfl,h1,h2,h3⟩;refine⟨rfl,⟨?_,Below.trans h.2 h2⟩,h3,h2⟩;rw[zY];exact h1
theorem Oth.keeps {W:World}{l:Byt}(h:yY W b l w) (o:Oth b w w') (hB:Below W.heap.size w w'):KeepsOthers w w':=by
 refine⟨hB.size,fun k ob hk hc=>?_⟩;refine o k ob hk (fun e=>?_) (fun c fz e=>?_)
 ·injection e with e
  obtain⟨⟨-,v,lr,hb,-⟩,-⟩:=h;rw[e,hb] at hk;injection hk with hk
  rw[<-hk] at hc;cases hc
 ·rw[e] at hc;cases hc
theorem Y9 (N:Nat) (w:World) (A1:Option Addr) (c1:Nat) (y:Nat) (h:jA N w (.agg #[.bool false,.slice A1 1 c1]) (y:Int)) (hg:Gs N w (.slice A1 1 c1) [y]) (hy:y<10) (ht:kG w) (D1:Byt) (hD:Hid (D1=dec y)) :
  CallsIn Fence.wide 5 Tryz.prog 212 #[.agg #[.bool false,.slice A1 1 c1]] w (qH w (sV D1)):=by
 have hI:=h;have HTB:=q_h ht
 have HDL:Hid (D1.length<=100):=by
  rw[Hid,hD.out];unfold dec;rw[Go.Lib.decDigits_one hy]
  simp
 refine callsIn_of_wp_marks Tryz.func212 rfl trivial ?_ rfl;simp only[Tryz.ntmps212,List.size_toArray,List.length_cons,List.length_nil,Nat.reduceAdd,Nat.reduceSub,Array.replicate_succ,Array.replicate_zero,List.push_toArray,List.append_toArray,List.nil_append,List.cons_append]
 gi_wp2_with (refine⟨trivial,?_⟩;gi_at_call 220;refine q_o ?_)
 refine q1X ?_;intro W hE hsz B0;refine (callsIn_wide.2 (Zd (hI.ext hE))).mono ?_;rintro e w1 ⟨rfl,e1⟩;have HB0:=q_h (e1.block B0);have HX1:=q_h (hE.trans e1);have hsz1:=q_l hsz e1.size;clear hE e1 hsz B0 hI h;obtain⟨p0,p1,-⟩:=cells2 HB0.out;have p0':∀o1 o2,((w1.alloc o1).alloc o2).cell? ⟨w.heap.size,0,none⟩=some (.bool false):=fun o1 o2=>(((Ext.refl w1).alloc o1).alloc o2).cell p0
 gi_wp2_with (refine⟨trivial,?_⟩;gi_at_call 221;refine (VV Fence.wide _ trivial rfl _ _ _ _).mono ?_;rintro e w' ⟨rfl,rfl⟩)
 refine Jz ?_;intro W2 hE2 hsz2 C0 C1 C2;have HX2:=q_h (HX1.out.trans hE2);clear p0 p1 p0' HX1 HB0
 refine wpIn_rangeFunc_ownF (F:=Fence.wide) (n:=5) rfl (by decide) (gf:=248) (lb:=#[.pointer (some ⟨w1.heap.size+1+1,0,none⟩)]) rfl trivial (enters_of Tryz.func248 (by kernel_rfl) rfl)
  (QL Fence.wide 4 trivial rfl (by decide) W2 w A1 1 c1 [y] hg HX2.out (w1.heap.size+1+1) w.heap.size (by omega) (by omega) (q_r) (kK C2).1)
  Xq (Ve (by omega) (by omega)) (Below.refl _ _) (fun _=>rfl)
  (fun pre W'=>(W'.heap[w1.heap.size]?=some (.cells #[.slice A1 1 c1] 112 (0,0))/\W'.heap[w1.heap.size+1+1]?=some (.cells #[.slice A1 1 c1] 112 (0,0)))/\yY w (w1.heap.size+1) (if pre.length=0 then [] else D1) W')
  (fun c _ W'=>False)
  (OwnFrom.and (OwnFrom.and (wU _ _ _ _) (wU _ _ _ _)) (Xh _ (by omega)))
  (fun c=>ownFrom_pure _ _)
  ⟨⟨C0,C2⟩,⟨(by omega),.slice none 0 0,0,C1,World.ownsRow_nil _ _ _ _,by simp[Value.ownBlock]⟩,HX2.out⟩
  (fun j=>{ tmps:=#[.agg #[.bool false,.slice A1 1 c1],.pointer (some ⟨w.heap.size,0,none⟩),.string ⟨#[]⟩,.pointer (some ⟨w1.heap.size,0,none⟩),.pointer (some ⟨w1.heap.size+1,0,none⟩),.int .i64 ((j.1:Nat):Int),.int .u32 (([y][j.1]?.getD 0:Nat):Int),undef,undef,
     .agg #[.bool false,.slice A1 1 c1],.slice A1 1 c1,.slice A1 1 c1,.int .i64 1,.bool false,.pointer (some ⟨w.heap.size,0,none⟩),.bool false,undef,.slice A1 1 c1,.func (.func 248) #[] #[.pointer (some ⟨w1.heap.size+1+1,0,none⟩)],
     .int .i64 ((j.1:Nat):Int),.int .u32 (([y][j.1]?.getD 0:Nat):Int),undef,undef,undef,undef,undef,undef,undef,undef,undef,undef,undef,undef,undef,undef,undef,undef,undef,undef,undef,undef],defers:=[] }) ?assign ?body ?done ?stop
 case assign =>
  intro l' j W K hK
  dsimp only[VT]
  obtain⟨z,hz⟩:=qf (([y][j.1]?.getD 0:Nat):Int);obtain⟨k,hk⟩:=qf ((j.1:Nat):Int);rw[<-hz.out,<-hk.out] at hK ⊢
  gi_wp2
  exact hK
 case body =>
  rintro l' pre j W3 ⟨⟨hb0,hb2⟩,hBuf⟩ hlt
  obtain rfl:pre=[]:=by
   have:pre.length<1:=hlt;exact List.eq_nil_of_length_eq_zero (by omega)
  have hj0:j.1=0:=Nat.lt_one_iff.1 j.2;have hB1:yY w (w1.heap.size+1) [] W3:=hBuf;have HB1:=q_h hB1;have hgv:(([y][j.1]?.getD 0:Nat):Int)=(y:Int):=by rw[hj0];rfl
  rw[hgv,hj0];obtain⟨Bd,hBd⟩:=qf (bA D1)
  have hsz9:Bd.size=1:=by
   rw[hBd.out,hD.out];unfold dec;rw[Go.Lib.decDigits_one hy]
   rfl
  have hw9:IntKind.i64.wrap (y:Int)=(y:Int):=wrp (by omega) (by omega)
  have HCI:Hid (Calls Tryz.prog 214 #[.int .i64 (y:Int)] W3 (qH W3 (.string Bd))):=by
   rw[hBd.out,<-qO,hD.out];exact Zt (by omega) (HTB.out.ext HB1.out.2)
  clear hBuf hB1 hgv
  gi_wp2_with (refine⟨trivial,?_⟩;gi_at_call 214;refine q_o ?_)
  refine (CallsIn.inRound l' (callsIn_wide.2 HCI.out)).mono ?_;rintro e W4 ⟨rfl,e4⟩;have HB4:=q_h (HB1.out.ext e4);have h0:=e4.block hb0;have h2:=e4.block hb2;have HE4:=q_h e4;obtain⟨x0,-⟩:=kK h0;clear e4
  have HCW:Hid (Calls Tryz.prog 213 #[.pointer (some ⟨w1.heap.size+1,0,none⟩),.string Bd] W4 (fun e w'=>e=.returned (.tuple #[.int .i64 (D1.length:Int),.nilIface])/\yY w (w1.heap.size+1) ([]++D1) w'/\Oth (w1.heap.size+1) W4 w'/\Below w.heap.size W4 w')):=by
   rw[hBd.out,<-qO];exact Qb HB4.out (by have:=HDL.out;simp;omega)
  gi_wp2_with fail
  refine wpIn_loop_once ?_
  gi_wp2_with (refine⟨trivial,?_⟩;gi_at_call 213;refine q_o ?_)
  refine (CallsIn.inRound l' (callsIn_wide.2 HCW.out)).mono ?_;rintro e W5 ⟨rfl,hB5,hO5,hL5⟩;have k0:=hO5.blk h0 (by omega) (by decide);have k2:=hO5.blk h2 (by omega) (by decide);have hKO:KeepsOthers W3 W5:=KeepsOthers.trans ⟨HE4.out.size,fun k o hk _=>HE4.out.block hk⟩ (hO5.keeps HB4.out hL5);have hKB:yK w.heap.size (w1.heap.size+1+1) W3 W5:=⟨Below.trans (HE4.out.mono (by have:=HB1.out.2.size;omega)) hL5,k2.trans hb2.symm⟩
  gi_wp2
  exact⟨hKO,hKB,⟨k0,k2⟩,by simpa using hB5⟩
 case done =>
  rintro D ys W3 hD rfl ⟨⟨hb0,hb2⟩,hBuf⟩ hK;have hB1:yY w (w1.heap.size+1) D1 W3:=hBuf
  have HCS:Hid (Calls Tryz.prog 241 #[.pointer (some ⟨w1.heap.size+1,0,none⟩)] W3 (fun e w'=>e=.returned (sV D1)/\∃k,w'=W3.drewN k)):=by
   have h9:=Any.Buffer_String (P:=Tryz.prog) (ρ:=wO) q2F w.heap.size (w1.heap.size+1) D1 W3 hB1.1;refine Calls.mono (show Calls Tryz.prog 241 _ _ _ from h9) ?_;rintro e w' ⟨rfl,k,rfl⟩;exact⟨rfl,k,rfl⟩
  gi_wp2_with (refine⟨trivial,?_⟩;gi_at_call 241;refine q_o ?_)
  refine (callsIn_wide.2 HCS.out).mono ?_;rintro e W5 ⟨rfl,k,rfl⟩;have hK':(W3.drewN k).heap[D]?=some (.deferred (some [])):=hK;have hX5:Ext w (W3.drewN k):=hB1.2.trans ((Ext.refl W3).drewN k)
  gi_wp2
  refine⟨by simp,.inl ⟨_,_,rfl,run_takeDeferred hK',?_⟩⟩;refine⟨sV D1,?_,rfl,Below.trans hX5 (belowK_b (w:=w) (q_r) _ D _ _ (by have:=hX5.size;have:=HX2.out.size;omega) hK' rfl rfl)⟩;simp[results,Tryz.results212,go_sem]
 case stop =>
  rintro D c pre W3 hD hpre hF hK;exact hF.elim
theorem X7:x9:=by
 intro N w v z h h0 h9 ht;obtain⟨nb,A,n,c,rfl,hnb,hG,hln⟩:=h.parts;have hI:=h
 by_cases hz0:z=0
 ·subst hz0;have hl0:n=0:=by rw[hln];exact Z7
  subst hl0
  have HS:Hid (sV (Go.Lib.itoa 0)=.string ⟨#[48]⟩):=by
   have e9:Go.Lib.itoa 0=[48]:=by rw[show (0:Int)=((0:Nat):Int) from rfl,Go.Lib.itoa_nonneg,Go.Lib.decDigits_one (by omega)];rfl
   rw[e9];rfl
  rw[HS.out];clear hln hnb hG h ht HS;go_enter Tryz.func212,Tryz.ntmps212;go_wp2_with (go_at_call 220;refine q_o ?_);refine qo (F:=fun w'=>Calls _ _ _ w' _) ?_;intro W hE hsz B0;refine (Zd (hI.ext hE)).mono ?_;rintro e w1 ⟨rfl,e1⟩;go_wp2
  first|go_ret|skip
  exact⟨rfl,(hE.trans e1).alloc _⟩
 obtain⟨y,rfl⟩:∃y:Nat,z=(y:Int):=⟨z.toNat,by omega⟩
 have hy:0<y/\y<10:=by omega
 have hzy:(y:Int).natAbs=y:=by omega
 rw[hzy,QJ hy.1 hy.2] at hG
 have hn1:n=1:=by
  rw[hln,hzy];unfold ln;rw[QJ hy.1 hy.2]
  rfl
 subst hn1;have hnf:nb=false:=by rw[hnb.out];exact q_f (by omega)
 subst hnf;rw[Go.Lib.itoa_nonneg];exact (callsIn_wide (n:=5)).1 (Y9 N w A c y hI hG hy.2 ht (dec y) rfl)
def q2s:Go.Shelf.Ren:=⟨fun|187=>257|255=>265|_=>0,fun|3=>3|5=>5|37=>27|_=>0,fun _=>0⟩
theorem q2D:Go.Proofs.Lays.n187 Tryz.prog q2s:=by
 constructor
 all_goals first|kernel_rfl|(intro w;kernel_rfl)
def q0P:Go.Shelf.Ren:=⟨fun|129=>156|171=>214|172=>258|205=>281|243=>244|244=>266|245=>267|246=>256|247=>272|279=>273|280=>274|281=>275|282=>276|283=>261|284=>262|285=>263|286=>264|287=>279|316=>280|317=>268|318=>269|319=>270|320=>271|321=>282|322=>283|337=>277|338=>278|_=>0,fun|0=>0|2=>2|3=>3|4=>4|5=>5|9=>9|20=>20|21=>21|37=>27|46=>142|51=>196|53=>198|75=>249|76=>250|80=>279|85=>302|127=>315|143=>316|145=>318|167=>301|168=>304|171=>292|173=>294|175=>307|210=>310|212=>298|213=>299|232=>312|233=>313|_=>0,fun|15=>4|16=>5|17=>3|18=>6|19=>7|_=>0⟩
theorem q1A:Go.Proofs.Lays.n172 Tryz.prog q0P:=by
 constructor
 all_goals first|kernel_rfl|(intro w;kernel_rfl)
theorem yS (b:UInt8):∀(l:Byt) (acc:Nat),Go.Lib.decFrom acc (l ++ [b])=(Go.Lib.decFrom acc l).bind fun m=>(Go.Lib.digitVal b).map fun d=>m*10+d:=by
 intro l
 induction l with
 | nil =>
  intro acc
  show Go.Lib.decFrom acc [b]=_
  unfold Go.Lib.decFrom;cases h:Go.Lib.digitVal b<;>simp[Go.Lib.decFrom,h]
 | cons c r ih =>
  intro acc
  show Go.Lib.decFrom acc (c :: (r ++ [b]))=_
  unfold Go.Lib.decFrom;cases h:Go.Lib.digitVal c with
  | none=>simp
  | some d=>simp[ih]
theorem Jl(h:n<10):Go.Lib.digitVal (UInt8.ofNat (48+n))=some n:=by
 have:n=0\/n=1\/n=2\/n=3\/n=4\/n=5\/n=6\/n=7\/n=8\/n=9:=by omega
 rcases this with rfl|rfl|rfl|rfl|rfl|rfl|rfl|rfl|rfl|rfl<;>rfl
theorem XE (n:Nat):Go.Lib.decFrom 0 (dec n)=some n:=by
 induction n using Nat.strongRecOn with
 | _ n ih =>
  unfold dec;rw[Go.Lib.decDigits]
  by_cases h:n<10
  ·rw[dif_pos h];have h1:=yS (UInt8.ofNat (48+n)) [] 0;rw[List.nil_append] at h1;rw[h1,Jl h];simp[Go.Lib.decFrom]
  ·rw[dif_neg h,yS];have h1:=ih (n / 10) (by omega);unfold dec at h1;rw[h1,Jl (by omega)]
   show some (n / 10*10+n % 10)=some n
   congr 1
   omega
theorem q0s (n:Nat):Go.Lib.atoi (dec n)=some (n:Int):=by
 have h1:=XE n;have h2:=q2P n;cases h:dec n with
 | nil=>exact absurd h h2
 | cons b r =>
  have hb:=Q9 (n:=n) (c:=b) (by rw[h];exact .head _)
  have e1:(b == 45)=false:=by
   cases h9:b == 45 with
   | false=>rfl
   | true=>rw[show b=45 by simpa using h9] at hb;exact absurd hb (by decide)
  have e2:(b == 43)=false:=by
   cases h9:b == 43 with
   | false=>rfl
   | true=>rw[show b=43 by simpa using h9] at hb;exact absurd hb (by decide)
  show (if (b == 45)=true then _ else if (b == 43)=true then _ else (Go.Lib.decNat (b :: r)).map fun (m:Nat)=>(m:Int))=_
  rw[e1,e2,if_neg (by simp),if_neg (by simp)];rw[h] at h1;unfold Go.Lib.decNat;simp[h1]
theorem VN (w:World) (e:TypeId) (s:ByteArray):Ext w (Go.Lib.bytesWorld w e s):=Go.Lib.bytesWorld_below w e s
theorem VO(hn:n<=65536):Calls Tryz.prog 258 #[sV (dec n)] w (qH w (.tuple #[.int .i64 (n:Int),.nilIface])):=by
 have hl:=xA hn;have h:=Any.strconv_Atoi (P:=Tryz.prog) (ρ:=q0P) q1A ⟨(dec n).toArray⟩ (n:Int) (by show (dec n).toArray.size<=18;rw[List.size_toArray];omega) (by show Go.Lib.atoi (dec n).toArray.toList=_;exact q0s n) w;refine Calls.mono (show Calls Tryz.prog 258 _ _ _ from h) ?_;rintro e w' ⟨rfl,t,rfl⟩;exact⟨rfl,VN w _ t⟩
theorem q1B (c:UInt8):∀(s t:Byt),c ∉ s->Go.Lib.indexByte (s++c :: t) c=(s.length:Int):=by
 intro s
 induction s with
 | nil =>
  intro t _
  show Go.Lib.indexByte (c :: t) c=0
  unfold Go.Lib.indexByte
  simp
 | cons b r ih =>
  intro t h;have h1:b≠c:=fun e=>h (by rw[e];exact .head _)
  have h2:=ih t (fun e=>h (.tail _ e))
  show Go.Lib.indexByte (b :: (r++c :: t)) c=_
  unfold Go.Lib.indexByte;rw[if_neg (by simpa using h1),h2,if_neg (by simp),List.length_cons]
  push_cast
  rfl
theorem KT {s t:Byt}{mk:UInt8}(h:ByV w (.slice A n c) (s++mk :: t)) (hm:mk ∉ s):Calls Tryz.prog 257 #[.slice A n c,.int .u8 (mk.toNat:Int)] w (qH w (.int .i64 (s.length:Int))):=by
 obtain⟨A',c',hv,h1,h2,h3⟩:=h;obtain⟨rfl,rfl,rfl⟩:=Value.slice.inj hv;obtain⟨b,off,rfl,h4⟩:=h3 (by rw[List.length_append,List.length_cons];omega);obtain⟨l,hl⟩:∃l,l=s++mk :: t:=⟨_,rfl⟩
 rw[<-hl] at h4 ⊢
 have hb:Go.Lib.bytesOf (l.map fun x=>(x.toNat:Int))=l:=by
  unfold Go.Lib.bytesOf;rw[List.map_map];refine (List.map_congr_left fun x _=>?_).trans (List.map_id _)
  show (((x.toNat:Int)).toNat).toUInt8=x
  rw[Int.toNat_natCast];exact UInt8.ofNat_toNat
 have h9:=Any.bytes_IndexByte (P:=Tryz.prog) (ρ:=q2s) q2D b off l.length c (l.map fun x=>(x.toNat:Int)) (mk.toNat:Int) w (by simp) (fun i hi=>by
  rw[h4 i hi,jF hi,List.getD_eq_getElem?_getD,List.getElem?_map,List.getElem?_eq_getElem hi]
  rfl)
 refine Calls.mono (show Calls Tryz.prog 257 _ _ _ from h9) ?_;rintro e w' ⟨rfl,rfl⟩;refine⟨?_,Ext.refl _⟩;rw[hb,hl,show ((mk.toNat:Int)).toNat.toUInt8=mk from by rw[Int.toNat_natCast];exact UInt8.ofNat_toNat,q1B mk s t hm]
end
section
open Go.RowKit
def RdA (W0:World) (g:Nat) (b:Byt) (w:World):Prop:=∃(q off k:Nat),w.heap[g]?=some (.cells #[.slice (some ⟨q,off,none⟩) b.length k] 258 (0,0))/\ByV W0 (.slice (some ⟨q,off,none⟩) b.length k) b/\W0.heap.size<=g/\Ext W0 w
theorem RdA.ext {W0:World}{b:Byt}(h:RdA W0 g b w) (e:Ext w w'):RdA W0 g b w':=by
 obtain⟨p,o,k,h1,h2,h3,h4⟩:=h;exact⟨p,o,k,e.block h1,h2,h3,h4.trans e⟩
theorem ByV.cut{p:Addr}{l:Byt}(h:ByV w (.slice (some p) n k) l) (hi:i<=n):ByV w (.slice (some p) i k) (l.take i):=by
 obtain⟨A',c',hv,h4,h5,h6⟩:=h;obtain⟨rfl,rfl,rfl⟩:=Value.slice.inj hv;have hl:(l.take i).length=i:=by rw[List.length_take];omega
 refine⟨_,_,by rw[hl],by rw[hl];omega,h5,fun hn=>?_⟩;rw[hl] at hn;obtain⟨b,o2,e1,h7⟩:=h6 (by omega);refine⟨b,o2,e1,fun q hq=>?_⟩;rw[hl] at hq;rw[jl _ hq];exact h7 q (by omega)
def q0C (W0:World) (g:Nat) (v:Value) (t:Byt) (w:World) (e:Ending) (w':World):Prop:=e=.returned (.tuple #[v,.bool true])/\RdA W0 g t w'/\Chg g (g+1) w w'
theorem Jv {W0:World}{s t:Byt}{mk:UInt8}(h:RdA W0 g (s++mk :: t) w) (hm:mk ∉ s):Calls Tryz.prog 245 #[.pointer (some ⟨g,0,none⟩),.int .u8 (mk.toNat:Int)] w (q0C W0 g (sV s) t w):=by
 obtain⟨R,hR⟩:=qf (q0C W0 g (sV s) t w);rw[<-hR.out];obtain⟨b,off,k,hB,hby,hg,hE⟩:=h;have HE:=q_h hE;have HBY:=q_h hby;obtain⟨L,hL⟩:=qf (s++mk :: t);rw[<-hL.out] at hB HBY;obtain⟨n,hn⟩:=qf L.length;rw[<-hn.out] at hB HBY;obtain⟨m,hm'⟩:=qf s.length
 have HMN:Hid (m+1+t.length=n):=by
  rw[Hid,hn.out,hL.out,hm'.out,List.length_append,List.length_cons];omega
 have hnk:n<=k/\k<=maxLen:=by
  obtain⟨A',c',h1,h2,h3⟩:=HBY.out.form;obtain⟨-,e1,e2⟩:=Value.slice.inj h1;omega
 have hk9:=hnk.2;unfold maxLen at hk9;have hmn:m+1<=n:=by have:=HMN.out;omega
 obtain⟨c,hc⟩:=qf (mk.toNat:Int)
 have HIX:Hid (∀w',Ext W0 w'->Calls Tryz.prog 257 #[.slice (some ⟨b,off,none⟩) n k,.int .u8 c] w' (qH w' (.int .i64 (m:Int)))):=fun w' e=>by
  rw[hc.out,hm'.out];have h1:=HBY.out.ext e;rw[hL.out] at h1;exact KT h1 hm
 have HTS:Hid (ByV W0 (.slice (some ⟨b,off,none⟩) m k) s):=by
  have h1:=HBY.out.cut (i:=m) (by omega);rw[hL.out,hm'.out,List.take_left' rfl,<-hm'.out] at h1;exact h1
 have HB:=q_h hB;have r0:=qj hB 0;obtain⟨r0,-⟩:=kK hB;rw[<-hc.out];clear hm hby hE hB;have hcv:Hid (∀w',Ext W0 w'->(convert 27 9 (.slice (some ⟨b,off,none⟩) m k)).run Tryz.prog w'=.ok (sV s) w'):=fun w' e=>ku (HTS.out.ext e)
 obtain⟨sb,hsb⟩:=qf (bA s);have hcv:Hid (∀w',Ext W0 w'->(convert 27 9 (.slice (some ⟨b,off,none⟩) m k)).run Tryz.prog w'=.ok (.string sb) w'):=fun w' e=>by rw[hsb.out,<-qO];exact hcv.out w' e
 go_enter Tryz.func245,Tryz.ntmps245;go_wp2_with (go_at_call 257;refine q_o ?_);refine (HIX.out _ HE.out).mono ?_;rintro e w1 ⟨rfl,e1⟩;have HX1:=q_h (HE.out.trans e1);have HB1:=q_h (e1.block HB.out);have HE1:=q_h e1;clear e1 r0;obtain⟨r0,-⟩:=kK HB1.out;have hcw:=hcv.out w1 HX1.out;have u1:decide ((m:Int)<0)=false:=q_f (by omega);have u2:(m:Int)<=(k:Int):=by omega
 go_upto_region 5 with (fail);have hw1:IntKind.i64.wrap ((m:Int)+1)=(m:Int)+1:=wrp (by omega) (by omega);have u3:(m:Int)+1<=(n:Int):=by omega
 refine wp_region_lit ?_;refine wpList_plain rfl (fun K hK=>?_);go_simp;refine hK _ _ ?_;clear hK K;try simp only[nr]
 refine wpList_plain rfl (fun K hK=>?_);go_simp;refine hK _ _ ?_;clear hK K;try simp only[nr]
 refine wpList_plain rfl (fun K hK=>?_);go_simp;refine hK _ _ ?_;clear hK K;try simp only[nr]
 refine wpList_plain rfl (fun K hK=>?_);go_simp;refine hK _ _ ?_;clear hK K;try simp only[nr]
 refine wpList_plain rfl (fun K hK=>?_);go_simp;refine hK _ _ ?_;clear hK K;try simp only[nr]
 refine wpList_plain rfl (fun K hK=>?_);go_simp;refine hK _ _ ?_;clear hK K;try simp only[nr]
 refine wpList_plain rfl (fun K hK=>?_);go_simp;refine hK _ _ ?_;clear hK K;try simp only[nr]
 have u4:(m:Int)+1<=(k:Int):=by omega
 refine wpList_plain rfl (fun K hK=>?_);go_simp;refine hK _ _ ?_;clear hK K;try simp only[nr]
 obtain⟨o',hp'⟩:∃o':Nat,(if k=m+1 then some (⟨b,off,none⟩:Addr) else some ⟨b,off+(m+1),none⟩)=some ⟨b,o',none⟩:=by
  split
  ·exact⟨_,rfl⟩
  ·exact⟨_,rfl⟩
 have HT:Hid (ByV W0 (.slice (some ⟨b,o',none⟩) t.length (k-(m+1))) t):=by
  have h2:=HBY.out.from (k:=m+1) (by omega)
  have h3:(if k=m+1 then some (⟨b,off,none⟩:Addr) else Option.map (fun x:Addr=>x.add (m+1)) (some ⟨b,off,none⟩))=some ⟨b,o',none⟩:=by
   rw[<-hp'];simp only[Option.map_some,qW]
  have h4:L.drop (m+1)=t:=by
   rw[hL.out,show s++mk :: t=(s ++ [mk])++t by simp,List.drop_left' (by rw[List.length_append,<-hm'.out];rfl)]
  have:=HMN.out;rw[h3,h4,show n-(m+1)=t.length by omega] at h2;exact h2
 have HTL:Hid (n-(m+1)=t.length):=by have:=HMN.out;rw[Hid];omega
 rw[hp',HTL.out];clear hp';obtain⟨tl,htl⟩:=qf t.length;rw[<-htl.out] at HT ⊢;refine wpList_plain rfl (fun K hK=>?_);go_simp;refine hK _ _ ?_;clear hK K;try simp only[nr]
 refine wpList_plain rfl (fun K hK=>?_);go_simp;refine hK _ _ ?_;clear hK K;try simp only[nr]
 obtain⟨wa,Ea,Ba,Ua⟩:=qL HB1.out 0 (.slice (some ⟨b,o',none⟩) tl (k-(m+1)));have f4:=qp HB1.out 0;have c4':=(qj HB1.out 0).trans rfl;refine wpList_plain rfl (fun K hK=>?_);go_simp;try rw[Ea]
 refine hK _ _ ?_;clear hK K f4 c4' Ea;try simp only[nr]
 have HBa:Hid (wa.heap[g]?=some (.cells #[.slice (some ⟨b,o',none⟩) tl (k-(m+1))] 258 (0,0))):=Ba;have HCa:=q_h (Ua.chg (NoU.mk HB1.out (by decide)));clear Ba Ua hcw r0;go_wp2
 first|go_ret2|skip
 rw[hR.out];refine⟨by rw[hsb.out,<-qO];rfl,⟨b,o',k-(m+1),?_,?_,hg,HCa.out.ext HX1.out hg⟩,(HE1.out.chg _ _).trans HCa.out⟩
 ·rw[<-htl.out];exact HBa.out
 ·rw[<-htl.out];exact HT.out
def q0G (W0:World) (g:Nat) (n:Nat) (t:Byt) (w:World) (e:Ending) (w':World):Prop:=e=.returned (.tuple #[.int .i64 (n:Int),.bool true])/\RdA W0 g t w'/\Chg g (g+1) w w'
theorem q0g (n:Nat):(58:UInt8) ∉ dec n:=fun h=>by
 have:=Q9 h
 revert this
 decide
theorem Jw {W0:World}{t:Byt}(h:RdA W0 g (dec n++58 :: t) w) (hn:n<=65536) (ht:kG W0):Calls Tryz.prog 247 #[.pointer (some ⟨g,0,none⟩)] w (q0G W0 g n t w):=by
 obtain⟨R,hR⟩:=qf (q0G W0 g n t w);rw[<-hR.out]
 have HU:Hid (Calls Tryz.prog 245 #[.pointer (some ⟨g,0,none⟩),.int .u8 58] w (q0C W0 g (sV (dec n)) t w)):=by
  have h1:=Jv h (q0g n);have e1:(((58:UInt8).toNat:Nat):Int)=58:=rfl;rw[e1] at h1;exact h1
 obtain⟨B,hB⟩:=qf (bA (dec n));rw[qO,<-hB.out] at HU
 have HA:Hid (∀w',Calls Tryz.prog 258 #[.string B] w' (qH w' (.tuple #[.int .i64 (n:Int),.nilIface]))):=fun w'=>by
  rw[hB.out,<-qO];exact VO hn
 have HI:Hid (∀w',Ext W0 w'->Calls Tryz.prog 214 #[.int .i64 (n:Int)] w' (qH w' (.string B))):=fun w' e=>by
  rw[hB.out,<-qO];exact Zt (by omega) (ht.ext e)
 clear h;have v1:(B.toList == B.toList)=true:=by simp
 have u1:decide (0<=(n:Int))=true:=q_t (by omega);have u2:decide ((n:Int)<=65536)=true:=q_t (by omega);go_enter Tryz.func247,Tryz.ntmps247;go_wp2_with (go_at_call 245;refine q_o ?_);refine HU.out.mono ?_;rintro e w1 ⟨rfl,hr1,c1⟩;have HR1:=q_h hr1;have HC1:=q_h c1;clear hr1 c1;go_wp2_with (go_at_call 258;refine q_o ?_);refine (HA.out _).mono ?_;rintro e w2 ⟨rfl,e2⟩;have HR2:=q_h (HR1.out.ext e2);have HC2:=q_h (HC1.out.trans (e2.chg _ _));clear e2;go_wp2_with (go_at_call 214;refine q_o ?_);refine (HI.out _ (by obtain⟨_,_,_,_,_,_,h9⟩:=HR2.out;exact h9)).mono ?_;rintro e w3 ⟨rfl,e3⟩;have HR3:=q_h (HR2.out.ext e3);have HC3:=q_h (HC2.out.trans (e3.chg _ _));clear e3;go_wp2
 first|go_ret2|skip
 rw[hR.out];exact⟨rfl,HR3.out,HC3.out⟩
def q28 (N:Nat) (w:World) (z:Int) (e:Ending) (w':World):Prop:=∃b A n c,e=.returned (.tuple #[.agg #[.bool b,.slice A n c],.int .i64 0])/\jA N w' (.agg #[.bool b,.slice A n c]) z/\Ext w w'
theorem jA.chg(h:jA N w v z) (c:Chg lo hi w w') (hN:N<=lo):jA N w' v z:=by
 obtain⟨s,rfl,h2⟩:=h;exact⟨s,rfl,h2.chg c hN⟩
theorem jA.shape(h:jA N w v z):∃b A n c,v=.agg #[.bool b,.slice A n c]:=by
 obtain⟨s,rfl,h2⟩:=h;obtain⟨A,n,c,rfl,-⟩:=h2.2;exact⟨_,A,n,c,rfl⟩
theorem q1L(h:n<10):dec n=[UInt8.ofNat (48+n)]:=by
 unfold dec;rw[Go.Lib.decDigits,dif_pos h]
theorem Vj:(Tryz.prog.info? 114).map (·.size)=some 2:=by kernel_rfl
theorem q2i (x:UInt8) (w:World):(Instr.slice 9 (.string ⟨#[x]⟩) (some (.int .i64 0)) (some (.int .i64 1)) none).run Tryz.prog w=.ok (.string ⟨#[x]⟩) w:=by kernel_rfl
theorem q2j (x:UInt8) (w:World):(Instr.index 9 (.string ⟨#[x]⟩) (.int .i64 0)).run Tryz.prog w=.ok (.int .u8 (x.toNat:Int)) w:=by
 have h:=jT (s:=⟨#[x]⟩) (i:=0) (k:=.i64) (show 0<1 by omega) w;exact h
theorem q07(hn:n<10) (hN:N<=w.heap.size):Calls Tryz.prog 246 #[sV (dec n)] w (q28 N w (n:Int)):=by
 obtain⟨R,hR⟩:=qf (q28 N w (n:Int));rw[<-hR.out];have HAT:Hid (∀w',Calls Tryz.prog 258 #[sV (dec n)] w' (qH w' (.tuple #[.int .i64 (n:Int),.nilIface]))):=fun w'=>VO (by omega)
 have hc:(((UInt8.ofNat (48+n)).toNat:Nat):Int)=48+(n:Int):=by
  have:=kT (n:=48+(n:Int)) (by omega) (by omega);rw[show (48+(n:Int)).toNat=48+n by omega] at this;exact this
 rw[q1L hn] at HAT ⊢;have hix:=fun w'=>q2j (UInt8.ofNat (48+n)) w'
 have hsl:=fun w'=>q2i (UInt8.ofNat (48+n)) w'
 rw[hc] at hix;obtain⟨x,hx⟩:=qf (UInt8.ofNat (48+n));rw[<-hx.out] at hix hsl HAT ⊢;have e0:sV [x]=.string ⟨#[x]⟩:=rfl;rw[e0] at HAT ⊢;clear hc e0 hx;have l1:(⟨#[x]⟩:ByteArray).size=1:=rfl;have s0:((⟨#[x]⟩:ByteArray).toList == (⟨#[]⟩:ByteArray).toList)=false:=(KU [x] []).trans (q_f (by simp));have d1:(48+(n:Int) == 45)=false:=by simp;omega
 have d2:decide (48+(n:Int)=45)=false:=q_f (by omega);have d3:decide (48+(n:Int)<48)=false:=q_f (by omega);have d4:decide (57<48+(n:Int))=false:=q_f (by omega);go_enter Tryz.func246,Tryz.ntmps246;go_upto_region 1 with (fail);refine qo ?_;intro W hE hsz B0;have HB0:=q_h B0;have HX:=q_h hE;clear B0 hE;go_upto_region 7 with (fail)
 go_cut [41] (fun tv wx=>tv=.bool false/\wx=W)
 case first =>
  by_cases hz:n=0
  ·have d5:decide (48+(n:Int)=48)=true:=q_t (by omega);have d6:(48+(n:Int) == 48)=true:=by simp;omega
   go_wp2_with fail
   all_goals
    go_meet
    exact⟨rfl,rfl⟩
  ·have d5:decide (48+(n:Int)=48)=false:=q_f (by omega);have d6:(48+(n:Int) == 48)=false:=by simp;omega
   go_wp2_with fail
   all_goals
    go_meet
    exact⟨rfl,rfl⟩
 obtain⟨rfl,rfl⟩:=hcut;obtain⟨W,hW⟩:∃W,W=wc:=⟨_,rfl⟩
 subst hW;go_wp2_with fail
 go_loopw [45] (fun iv wr=>∃i:Nat,i<=1/\iv=.int .i64 (i:Int)/\wr=W) (fun iv _=>1-(intOf iv).toNat)
 case atStart=>exact⟨0,by omega,rfl,rfl⟩
 case round =>
  obtain⟨i,hi9,rfl,rfl⟩:=hrel
  by_cases hlt:i<1
  ·obtain rfl:i=0:=by omega
   go_wp2;go_roundw
   case rel=>exact⟨1,by omega,by go_num,by first|rfl|trivial⟩
   case measure=>simp[intOf]
  have u5:decide ((i:Int)<1)=false:=q_f (by omega);obtain⟨W,hW⟩:∃W,W=wr:=⟨_,rfl⟩
  subst hW;clear hlt hi9;go_wp2_with fail
  go_loopw [8,7] (fun ev gv wr=>∃(k:Nat) (A:Option Addr) (c:Nat),k<=1/\ev=.int .i64 (1-9*(k:Int))/\gv=.slice A k c/\Hid (k=0->A=none/\c=0)/\Hid (k=1->Gs N wr (.slice A k c) [n])/\Hid (Ext W wr)) (fun ev _ _=>(intOf ev+8).toNat)
  case atStart=>exact⟨0,none,0,by omega,by simp,rfl,fun _=>⟨rfl,rfl⟩,fun h=>by omega,Ext.refl W⟩
  case round =>
   obtain⟨k,A,c,hk9,rfl,rfl,HA0,HG,HE⟩:=hrel
   by_cases hk:k=0
   ·subst hk;obtain⟨rfl,rfl⟩:=HA0.out rfl;replace HX:=q_h (HX.out.trans HE.out);go_wp2_with (go_at_call 258;refine q_o ?_);refine (HAT.out _).mono ?_;rintro e w2 ⟨rfl,e2⟩;have HE2:=q_h e2;clear e2;have hw1:IntKind.u32.wrap (n:Int)=(n:Int):=by rw[show IntKind.u32.wrap (n:Int)=(n:Int) % 4294967296 from rfl];omega
    go_wp2_with (at_builtin;refine q_o ?_);refine qU (N:=N) rfl (.tmp 80) (.tmp 83) rfl w.heap.size _ 0 [] rfl (Xg _ _) _ [n] rfl (Jg (by have:=HX.out.size;have:=HE2.out.size;omega) (by omega) rfl rfl) (by simp) (by have:=HX.out.size;have:=HE2.out.size;simp;omega) ?_;intro A2 c2 w3 hown hgr;have hE3:Ext w2 w3:=((Ext.refl w2).alloc _).own hgr (Xg _ _) (q_r);have HE3:=q_h (HE2.out.trans hE3);have HG3:Hid (Gs N w3 (.slice A2 1 c2) [n]):=Gs.of_own (by have:=HX.out.size;have:=HE3.out.size;omega) hown (by simp;omega);clear hown hgr hE3;go_wp2;go_roundw
    case rel=>exact⟨1,A2,c2,by omega,by go_num,by go_num,fun h=>by omega,fun _=>HG3.out,HE.out.trans HE3.out⟩
    case measure=>simp[intOf]
   ·obtain rfl:k=1:=by omega
    replace HG:=q_h (HG.out rfl);have HMD:Hid (Calls Tryz.prog 206 #[.bool false,.slice A 1 c] wr (Wj N wr (n:Int))):=Vm HG.out (Dig.mk (by unfold bs;omega) Dig.nil) (n:Int) (by rw[Hid];simp[val]);have HXr:=q_h (HX.out.trans HE.out);have HBr:=q_h (HE.out.block HB0.out);clear HG;go_upto_region 23 with (fail);refine wp_region_lit ?_;refine wpList_plain rfl (fun K hK=>?_);go_simp;refine hK _ _ ?_;clear hK K;try simp only[nr]
    refine wpList_plain rfl (fun K hK=>?_);go_simp;refine hK _ _ ?_;clear hK K;try simp only[nr]
    refine wpList_plain rfl (fun K hK0=>?_);have hK:=q_h hK0;clear hK0;go_simp;refine HMD.out.mono ?_;intro e w4 hh;obtain⟨v,rfl,hV,e4⟩:=hh;obtain⟨b,A4,n4,c4,rfl⟩:=hV.shape;have HV:=q_h hV;have HX4:=q_h (HXr.out.trans e4);have HB4:=q_h (e4.block HBr.out);clear hV e4 HMD HXr HBr HE;go_wp2_with fail;refine hK.out _ _ ?_;clear hK K;try simp only[nr]
    refine qh rfl 114 _ _ rfl (by rfl) (by rfl) HB4.out Vj (by rfl) (by rfl) (by rfl) ?_;intro wz Bz Uz;obtain⟨x0,x1,-⟩:=cells2 Bz;go_wp2;refine bodyPost_ret (v:=.tuple #[.agg #[.bool b,.slice A4 n4 c4],.int .i64 0]) ?_ rfl ?_
    ·simp[results,x0,x1,go_sem]
    ·rw[hR.out];have Cz:=Uz.chg (NoU.mk HB4.out (by decide));exact⟨b,A4,n4,c4,rfl,HV.out.chg Cz hN,Cz.ext HX4.out (q_r)⟩
theorem Chg.late {q:Nat}{w1 w2:World}(h:Chg g (g+1) w w1) (U:Chg q (q+1) w1 w2) (hq:w.heap.size<=q):Chg g (g+1) w w2:=by
 refine⟨U.os.trans h.os,U.tape.trans h.tape,U.output.trans h.output,q_l h.size U.size,fun k hk hc=>?_⟩;have h1:=h.block k hk hc;rw[<-h1];exact U.block k (Nat.lt_of_lt_of_le hk h.size) (.inl (by omega))
mutual
def VlP (P:Nat->Prop) (N:Nat) (w:World):Vl->Value->Prop
 | .int z,v=>∃b A n c,v=.agg #[.int .i64 0,.bool b,.slice A n c,.slice none 0 0,.slice none 0 0]/\jA N w (.agg #[.bool b,.slice A n c]) z
 | .txt l,v=>∃q k,v=.agg #[.int .i64 1,.bool false,.slice none 0 0,.slice (some ⟨q,0,none⟩) l.length k,.slice none 0 0]/\ByV w (.slice (some ⟨q,0,none⟩) l.length k) l/\P q/\q<w.heap.size
 | .lst vs,v=>∃A k,v=.agg #[.int .i64 2,.bool false,.slice none 0 0,.slice none 0 0,.slice A vs.length k]/\vs.length<=k/\k<=maxLen/\(0<vs.length->∃g off,A=some ⟨g,off,none⟩/\P g/\yX P N w vs g off)
def yX (P:Nat->Prop) (N:Nat) (w:World):List Vl->Nat->Nat->Prop
 | [],_,_=>True
 | v :: r,g,off=>(∃c0 c1 c2 c3 c4,w.cell? ⟨g,off,none⟩=some c0/\w.cell? ⟨g,off+1,none⟩=some c1/\w.cell? ⟨g,off+2,none⟩=some c2/\w.cell? ⟨g,off+3,none⟩=some c3/\w.cell? ⟨g,off+4,none⟩=some c4/\VlP P N w v (.agg #[c0,c1,c2,c3,c4]))/\yX P N w r g (off+5)
end
mutual
theorem VlP.vl {P:Nat->Prop}:∀ {V:Vl}{v:Value},VlP P N w V v->VlV true N w V v
 | .int z,v,h=>by
  unfold VlP at h;unfold VlV;obtain⟨b,A,n,c,h0,h1⟩:=h;exact⟨_,_,_,_,h0,h1,⟨none,0,rfl⟩,⟨none,0,rfl⟩⟩
 | .txt l,v,h=>by
  unfold VlP at h;unfold VlV;obtain⟨q,k,h0,h1,h2,h3⟩:=h;exact⟨_,_,_,h0,⟨none,0,rfl⟩,⟨h1,fun _=>⟨⟨q,0,none⟩,k,rfl,h3⟩⟩,⟨none,0,rfl⟩⟩
 | .lst vs,v,h=>by
  unfold VlP at h;unfold VlV;obtain⟨A,k,h0,h1,h2,h3⟩:=h;refine⟨_,_,A,k,h0,⟨none,0,rfl⟩,⟨none,0,rfl⟩,h1,h2,fun hn=>?_⟩;obtain⟨g,off,h4,h5,h6⟩:=h3 hn;exact⟨g,off,h4,yX.vl h6⟩
theorem yX.vl {P:Nat->Prop}:∀ {vs:List Vl}{g off:Nat},yX P N w vs g off->VlL true N w vs g off
 | [],_,_,_=>by unfold VlL;trivial
 | v :: r,g,off,h=>by
  unfold yX at h;unfold VlL;obtain⟨⟨c0,c1,c2,c3,c4,h0,h1,h2,h3,h4,h5⟩,h6⟩:=h;exact⟨⟨c0,c1,c2,c3,c4,h0,h1,h2,h3,h4,VlP.vl h5⟩,yX.vl h6⟩
end
mutual
theorem VlP.mv {P Q:Nat->Prop}(C:Chg lo hi w w') (hN:N<=lo) (hP:∀k,k<w.heap.size->P k->(k<lo\/hi<=k)/\Q k):∀ {V:Vl}{v:Value},VlP P N w V v->VlP Q N w' V v
 | .int z,v,h=>by
  unfold VlP at h ⊢;obtain⟨b,A,n,c,h0,h1⟩:=h;exact⟨b,A,n,c,h0,h1.chg C hN⟩
 | .txt l,v,h=>by
  unfold VlP at h ⊢;obtain⟨q,k,h0,h1,h2,h3⟩:=h;have h9:=hP q h3 h2;exact⟨q,k,h0,h1.own C h9.1,h9.2,Nat.lt_of_lt_of_le h3 C.size⟩
 | .lst vs,v,h=>by
  unfold VlP at h ⊢;obtain⟨A,k,h0,h1,h2,h3⟩:=h;refine⟨A,k,h0,h1,h2,fun hn=>?_⟩;obtain⟨g,off,h4,h5,h6⟩:=h3 hn
  have hlt:g<w.heap.size:=by
   cases vs with
   | nil=>exact absurd hn (Nat.lt_irrefl 0)
   | cons v r =>
    unfold yX at h6;obtain⟨⟨c0,c1,c2,c3,c4,h7,-⟩,-⟩:=h6;exact cell_lt h7
  have h9:=hP g hlt h5;exact⟨g,off,h4,h9.2,yX.mv C hN hP h9.1 h6⟩
theorem yX.mv {P Q:Nat->Prop}(C:Chg lo hi w w') (hN:N<=lo) (hP:∀k,k<w.heap.size->P k->(k<lo\/hi<=k)/\Q k):∀ {vs:List Vl}{g off:Nat},(g<lo\/hi<=g)->yX P N w vs g off->yX Q N w' vs g off
 | [],_,_,_,_=>by unfold yX;trivial
 | v :: r,g,off,hg,h=>by
  unfold yX at h ⊢;obtain⟨⟨c0,c1,c2,c3,c4,h0,h1,h2,h3,h4,h5⟩,h6⟩:=h;exact⟨⟨c0,c1,c2,c3,c4,C.cell h0 hg,C.cell h1 hg,C.cell h2 hg,C.cell h3 hg,C.cell h4 hg,VlP.mv C hN hP h5⟩,yX.mv C hN hP hg h6⟩
end
theorem VlP.ext {P:Nat->Prop}{V:Vl}(h:VlP P N w V v) (hN:N<=w.heap.size) (e:Ext w w'):VlP P N w' V v :=
 VlP.mv (e.chg w.heap.size w.heap.size) hN (fun k hk hP=>⟨.inl hk,hP⟩) h
theorem VlP.cells {P:Nat->Prop}{V:Vl}(h:VlP P N w V v):∃(z:Int) (b:Bool) (A1:Option Addr) (n1 c1:Nat) (A2:Option Addr) (n2 c2:Nat) (A3:Option Addr) (n3 c3:Nat),v=.agg #[.int .i64 z,.bool b,.slice A1 n1 c1,.slice A2 n2 c2,.slice A3 n3 c3]:=h.vl.cells
def vaC (C:Nat->Nat->Value) (i:Nat):List Value:=(List.range i).flatMap fun j=>[C j 0,C j 1,C j 2,C j 3,C j 4]
theorem jL (C:Nat->Nat->Value) (i:Nat):vaC C (i+1)=vaC C i ++ [C i 0,C i 1,C i 2,C i 3,C i 4]:=by
 unfold vaC;rw[List.range_succ,List.flatMap_append]
 rfl
theorem QP (C:Nat->Nat->Value):∀n,(vaC C n).length=n*5
 | 0=>rfl
 | n+1=>by
  rw[jL,List.length_append,QP C n]
  show n*5+5=(n+1)*5
  omega
theorem ZK {C C':Nat->Nat->Value}:∀ {n:Nat},(∀j,j<n->C j=C' j)->vaC C n=vaC C' n
 | 0,_=>rfl
 | n+1,h=>by rw[jL,jL,ZK (fun j hj=>h j (by omega)),h n (by omega)]
theorem qI.far {ET:TypeId}{l u:Nat}{xs:List Value}(h:qI ET k base w v n xs) (c:Chg l u w w') (hd:∀k,v.ownBlock=some k->k<l\/u<=k):qI ET k base w' v n xs:=by
 refine⟨q_l h.1 c.size,h.2.1,?_⟩
 rcases h.2.2 with h0|⟨g,cap,cur,rfl,hb,hh,h1,h2,h3,h4⟩
 ·exact .inl h0
 ·exact .inr ⟨g,cap,cur,rfl,hb,c.blk hh (hd g rfl),h1,h2,h3,h4⟩
theorem Yo (C:Nat->Nat->Value) (q:Nat) (hq:q<5):∀n i,i<n->(vaC C n)[i*5+q]?=some (C i q)
 | n+1,i,h=>by
  rw[jL]
  by_cases h2:i<n
  ·rw[List.getElem?_append_left (by rw[QP];omega)];exact Yo C q hq n i h2
  ·obtain rfl:i=n:=by omega
   rw[List.getElem?_append_right (by rw[QP];omega),QP,show i*5+q-i*5=q by omega];have:q=0\/q=1\/q=2\/q=3\/q=4:=by omega
   rcases this with rfl|rfl|rfl|rfl|rfl<;>rfl
theorem yX.of {P:Nat->Prop}:∀(vs:List Vl) (g off:Nat),(∀i,i<vs.length->∃c0 c1 c2 c3 c4,w.cell? ⟨g,off+i*5,none⟩=some c0/\w.cell? ⟨g,off+i*5+1,none⟩=some c1/\w.cell? ⟨g,off+i*5+2,none⟩=some c2/\w.cell? ⟨g,off+i*5+3,none⟩=some c3/\w.cell? ⟨g,off+i*5+4,none⟩=some c4/\VlP P N w (vs[i]?.getD default) (.agg #[c0,c1,c2,c3,c4]))->yX P N w vs g off
 | [],_,_,_=>by unfold yX;trivial
 | v :: r,g,off,h=>by
  unfold yX;refine⟨?_,yX.of r g (off+5) (fun i hi=>?_)⟩
  ·have h1:=h 0 (by simp);rw[Nat.zero_mul,Nat.add_zero] at h1;exact h1
  ·have h1:=h (i+1) (by simpa using hi);rw[show off+(i+1)*5=off+5+i*5 by omega] at h1;exact h1
def LsP (base N:Nat) (w:World) (v:Value) (i:Nat) (vs:List Vl):Prop:=∃C:Nat->Nat->Value,qI 117 5 base w v i (vaC C i)/\∀j,j<i->VlP (fun k=>base<=k/\v.ownBlock≠some k) N w (vs[j]?.getD default) (.agg #[C j 0,C j 1,C j 2,C j 3,C j 4])
theorem LsP.form{vs:List Vl}(h:LsP base N w v i vs):∃A c,v=.slice A i c:=by
 obtain⟨C,h1,-⟩:=h;exact h1.form
theorem LsP.nil{vs:List Vl}(h:base<=w.heap.size):LsP base N w (.slice none (0:Nat) 0) 0 vs:=⟨fun _ _=>.int .i64 0,⟨h,rfl,.inl ⟨rfl,rfl⟩⟩,fun j hj=>by omega⟩
theorem LsP.chg{vs:List Vl}(h:LsP base N w v i vs) (C:Chg lo (lo+1) w w') (hN:N<=lo) (hb:lo<base):LsP base N w' v i vs:=by
 obtain⟨D,h1,h2⟩:=h;refine⟨D,?_,fun j hj=>VlP.mv C hN (fun k hk hP=>⟨.inr (by omega),hP⟩) (h2 j hj)⟩;exact qI.far h1 C (fun k hk=>.inr (by have:=(qI.own_lt h1 k hk).1;omega))
theorem LsP.done{vs:List Vl}(h:LsP base N w (.slice A n c) n vs) (hn:n=vs.length) (hN:N<=base):VlP (fun k=>base<=k) N w (.lst vs) (.agg #[.int .i64 2,.bool false,.slice none 0 0,.slice none 0 0,.slice A n c]):=by
 obtain⟨C,h1,h2⟩:=h;subst hn;unfold VlP
 rcases Nat.eq_zero_or_pos vs.length with h0|h0
 ·rcases h1.2.2 with ⟨e1,e2⟩|⟨g,cap,cur,hv,hb,hh,h3,h4,-⟩
  ·obtain⟨rfl,-,rfl⟩:=Value.slice.inj e1;exact⟨none,0,rfl,by omega,Nat.zero_le _,fun h=>by omega⟩
  ·obtain⟨rfl,-,rfl⟩:=Value.slice.inj hv;exact⟨_,_,rfl,h3,h4,fun h=>by omega⟩
 ·obtain⟨g,cap,hv,hb,h3,h4,hcell⟩:=h1.at_ h0;obtain⟨rfl,-,rfl⟩:=Value.slice.inj hv;refine⟨_,_,rfl,h3,h4,fun _=>⟨g,0,rfl,hb,yX.of _ _ _ (fun i hi=>?_)⟩⟩
  have hc:∀q,q<5->w.cell? ⟨g,0+i*5+q,none⟩=some (C i q):=fun q hq=>by
   rw[Nat.zero_add];exact hcell _ _ (Yo C q hq _ i hi)
  exact⟨_,_,_,_,_,hc 0 (by omega),hc 1 (by omega),hc 2 (by omega),hc 3 (by omega),hc 4 (by omega),VlP.mv (P:=fun k=>base<=k/\(Value.slice (some ⟨g,0,none⟩) vs.length c).ownBlock≠some k) (Chg.refl w.heap.size w.heap.size w) (q_l hN h1.1) (fun k hk hP=>⟨.inl hk,hP.1⟩) (h2 i hi)⟩
theorem LsP.snoc{v':Value}{vs:List Vl}{C:Nat->Nat->Value}{c0 c1 c2 c3 c4:Value}(hN:N<=base) (hG:qI 117 5 base w v i (vaC C i)) (hC:∀j,j<i->VlP (fun k=>base<=k/\v.ownBlock≠some k) N w (vs[j]?.getD default) (.agg #[C j 0,C j 1,C j 2,C j 3,C j 4]))
  (hx:VlP (fun k=>base<=k/\v.ownBlock≠some k) N w (vs[i]?.getD default) (.agg #[c0,c1,c2,c3,c4])) (hG':qI 117 5 base w' v' (i+1) (vaC C i ++ [c0,c1,c2,c3,c4])) (ho:v'.ownBlock=v.ownBlock\/v'.ownBlock=some w.heap.size) (hb:base<=g) (hw:v.ownBlock=some g\/g=w.heap.size) (Cg:Chg g (g+1) w w'):LsP base N w' v' (i+1) vs:=by
 have hmv:∀(V:Vl) (u:Value),VlP (fun k=>base<=k/\v.ownBlock≠some k) N w V u->VlP (fun k=>base<=k/\v'.ownBlock≠some k) N w' V u:=fun V u h=>by
  refine VlP.mv (P:=fun k=>base<=k/\v.ownBlock≠some k) Cg (by omega) (fun k hk hP=>⟨?_,hP.1,?_⟩) h
  ·have:k≠g:=by
    rintro rfl
    rcases hw with h1|h1
    ·exact hP.2 h1
    ·omega
   omega
  ·intro e
   rcases ho with h1|h1
   ·exact hP.2 (h1 ▸ e)
   ·rw[h1] at e;injection e with e
    omega
 refine⟨fun j q=>if j=i then [c0,c1,c2,c3,c4].getD q c0 else C j q,?_,fun j hj=>?_⟩
 ·have e1:vaC (fun j q=>if j=i then [c0,c1,c2,c3,c4].getD q c0 else C j q) (i+1)=vaC C i ++ [c0,c1,c2,c3,c4]:=by
   rw[jL]
   congr 1
   ·refine ZK fun j hj=>?_
    funext q
    exact if_neg (by omega)
   ·simp
  rw[e1];exact hG'
 ·by_cases hji:j=i
  ·subst hji;have h1:=hmv _ _ hx;simpa using h1
  ·have h1:=hmv _ _ (hC j (by omega));simp only[hji,if_false];exact h1
end
end Go.Proofs.YtdeeekdbhhenpaaGreatDoor
