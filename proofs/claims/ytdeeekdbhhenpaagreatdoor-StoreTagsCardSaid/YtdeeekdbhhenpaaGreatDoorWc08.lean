import Derived.Test.YtdeeekdbhhenpaaGreatDoorWc07
import Derived.Lib.AppendZerosOnto
import Derived.Laws.CopyOwn
set_option linter.all false
set_option maxHeartbeats 8000000
set_option maxRecDepth 100000
namespace Go.Proofs.YtdeeekdbhhenpaaGreatDoor
open Go.RowKit
variable {w w':World} {N n lo hi k g i m base c:Nat} {v:Value} {A:Option Addr}
theorem txF{l:Byt}{c:Value}{b:Value}(h:ByV w c l) (hb:Emp b):VlV false N w (.txt l) (.agg #[.int .i64 1,.bool false,b,c,.slice none 0 0]):=by
 unfold VlV;exact⟨_,_,_,rfl,hb,⟨h,fun h=>by cases h⟩,⟨_,_,rfl⟩⟩
theorem Z8 {o:Ob}{x y:Value}(h:ObR w x y o) (ho:okO o):Calls Tryz.prog 76 #[.agg #[x,y]] w (qH w (sV (qM o))):=by
 have HO:=q_h h;have HK:=q_h ho;obtain⟨A0,c0,rfl,-⟩:=h.1.form;obtain⟨A9,c9,rfl,-⟩:=h.2.form;obtain⟨n0,hn0⟩:=qf o.links.length;obtain⟨n9,hn9⟩:=qf o.data.length;rw[<-hn0.out,<-hn9.out] at HO ⊢;obtain⟨nm,hnm⟩:=qf (sV (qM o));rw[<-hnm.out];obtain⟨E,hE9⟩:=qf (enc (.lst [ZE o,.txt o.data]));clear h ho;go_enter Tryz.func76,Tryz.ntmps76;go_upto_region 1 with (fail);refine qo ?_;intro W hE hsz B0;obtain⟨p0,p1,-⟩:=cells2 B0;have eC:=(Ext.refl W).drew;refine ql (fun w'=>w'.cell? ⟨w.heap.size,0,none⟩=some (.slice A0 n0 c0)/\w'.cell? ⟨w.heap.size,1,none⟩=some (.slice A9 n9 c9)) [] (by kernel_rfl) (by exact⟨eC.cell p0,eC.cell p1⟩) (fun hHeld=>?_);refine sP 0 (h:=?_);refine sT 1 (h:=?_);refine sP 3 (h:=?_);refine sT 4 (h:=?_);refine sP 5 (h:=?_);refine qg (i:=2) rfl (by kernel_rfl) (fun K hK=>?_);go_simp;refine (Kv (HO.out.1.ext (hE.trans eC)) (by have:=HK.out.1;omega) (fun s hs=>by have:=HK.out.2.2 s hs;omega)).mono ?_;rintro e w3 ⟨A2,n2,k2,rfl,hLk,e3⟩;have HV2:=q_h ((hLk W.heap.size).any false);replace eC:=eC.trans e3;clear hLk e3;go_wp2_with fail;clear hHeld;refine hK.out _ _ (by exact⟨eC.cell p0,eC.cell p1⟩) fun hHeld=>?_
 clear hK K;try simp only[nr]
 refine qg (i:=6) rfl (by kernel_rfl) (fun K hK=>?_);go_simp
 first|refine qo ?_|refine qY ?_
 intro w5 e5 hsz5 BJ;have HVV:=q_h (q2x BJ (HV2.out.ext e5) (txF (N:=W.heap.size) (HO.out.2.ext (hE.trans (eC.trans e5))) ⟨_,_,rfl⟩));replace eC:=eC.trans e5;clear HV2 BJ e5;clear hHeld;refine hK.out _ _ (by exact⟨eC.cell p0,eC.cell p1⟩) fun hHeld=>?_
 clear hK K;try simp only[nr]
 refine qg (i:=7) rfl (by kernel_rfl) (fun K hK=>?_);go_simp;refine jY.mono ?_;rintro e w6 ⟨rfl,e6⟩;have HV6:=q_h (HVV.out.ext e6);replace eC:=eC.trans e6;clear HVV e6;go_wp2_with fail;clear hHeld;refine hK.out _ _ (by exact⟨eC.cell p0,eC.cell p1⟩) fun hHeld=>?_
 clear hK K;try simp only[nr]
 refine qg (i:=8) rfl (by kernel_rfl) (fun K hK=>?_);go_simp;refine (QB HV6.out eC.size HK.out.fits2.1 HK.out.fits2.2.1 HK.out.fits2.2.2.1 HK.out.fits2.2.2.2).mono ?_;rintro e w7 ⟨v7,rfl,hG7,e7⟩;have HG7:Hid (ByV w7 v7 (enc (.lst [ZE o,.txt o.data]))):=hG7.by
 replace eC:=eC.trans e7;clear hG7 e7;go_wp2_with fail;clear hHeld;refine hK.out _ _ (by exact⟨eC.cell p0,eC.cell p1⟩) fun hHeld=>?_
 clear hK K;try simp only[nr]
 refine sP 9 (h:=?_);refine sP 10 (h:=?_);refine sP 11 (h:=?_);refine sP 12 (h:=?_);refine sP 13 (h:=?_);refine qm (by kernel_rfl) ?_ _;clear hHeld;have HX:=q_h (hE.trans eC)
 have HCN:Hid (Calls Tryz.prog 136 #[v7] w7 (qH w7 nm)):=by
  rw[hnm.out];exact WS HG7.out
 clear eC p0 p1;go_wp2_with (go_at_call 136;refine q_o ?_);refine HCN.out.mono ?_;rintro e w8 ⟨rfl,e8⟩;go_wp2;go_ret;exact⟨rfl,HX.out.trans e8⟩
theorem q03 {o:Ob}{x y:Value}(h:ObR w x y o) (ho:Ok0 o):Calls Tryz.prog 16 #[.agg #[x,y]] w (qH w (.tuple #[sV (nmO o),.int .i64 (obC o)])):=by
 have HO:=q_h h;have HK:=q_h ho;obtain⟨R,hR⟩:=qf (qH w (.tuple #[sV (nmO o),.int .i64 (obC o)]));rw[<-hR.out];obtain⟨A0,c0,rfl,-⟩:=h.1.form;obtain⟨A9,c9,rfl,-⟩:=h.2.form;obtain⟨n0,hn0⟩:=qf o.links.length;obtain⟨n9,hn9⟩:=qf o.data.length;rw[<-hn0.out,<-hn9.out] at HO ⊢;clear h ho;go_enter Tryz.func16,Tryz.ntmps16;go_upto_region 1 with (fail);refine qo ?_;intro w1 hE hsz B0;obtain⟨p0,p1,-⟩:=cells2 B0;have HB0:=q_h B0
 by_cases h1:16<n0
 ·have u1:decide ((16:Int)<(n0:Int))=true:=q_t (by omega);have u1':decide (16<n0)=true:=q_t h1
  have HC:Hid (obC o=3/\nmO o=[]):=by
   have e:obC o=3:=by unfold obC;rw[if_pos (.inl (by have:=hn0.out;omega))]
   exact⟨e,by unfold nmO;rw[e];rfl⟩
  go_wp2
  first|go_ret2|skip
  rw[hR.out,HC.out.1,HC.out.2];exact⟨rfl,hE⟩
 have u1:decide ((16:Int)<(n0:Int))=false:=q_f (by omega);have u1':decide (16<n0)=false:=q_f h1
 by_cases h2:1024<n9
 ·have u2:decide ((1024:Int)<(n9:Int))=true:=q_t (by omega);have u2':decide (1024<n9)=true:=q_t h2
  have HC:Hid (obC o=3/\nmO o=[]):=by
   have e:obC o=3:=by unfold obC;rw[if_pos (.inr (by have:=hn9.out;omega))]
   exact⟨e,by unfold nmO;rw[e];rfl⟩
  go_wp2
  first|go_ret2|skip
  rw[hR.out,HC.out.1,HC.out.2];exact⟨rfl,hE⟩
 have u2:decide ((1024:Int)<(n9:Int))=false:=q_f (by omega);have u2':decide (1024<n9)=false:=q_f h2;have HLE:Hid (n0<=16/\n9<=1024):=⟨by omega,by omega⟩
 obtain⟨q,hq⟩:=qf (o.links.all Ql)
 have HCF:Hid (Calls Tryz.prog 56 #[.slice A0 n0 c0,.func (.func 74) #[] #[]] w1 (qH w1 (.bool (!q)))):=by
  have h9:=vU o.links Ql;rw[<-hn0.out,<-hq.out] at h9;rw[<-h9];refine JU (l:=o.links) ⟨hn0.out,HO.out.1.ext hE⟩ _ (fun i hi w' u e hu=>?_);rw[hu.out];refine Xp ?_;rw[List.getD_eq_getElem?_getD,List.getElem?_eq_getElem (by have:=hn0.out;omega)];have:=HK.out.2.2 _ (List.getElem_mem (l:=o.links) (n:=i) (by have:=hn0.out;omega))
  show (o.links[i]).length<=_
  omega
 go_wp2_with (go_at_call 56;refine q_o ?_);refine HCF.out.mono ?_;rintro e W ⟨rfl,e2⟩;have HX:=q_h (hE.trans e2);clear p0 p1 HCF;obtain⟨p0,p1,-⟩:=cells2 (e2.block HB0.out);clear hE e2 B0;cases q with
 | false =>
  have HC:Hid (obC o=10/\nmO o=[]):=by
   have e:obC o=10:=by
    unfold obC;rw[if_neg (by have:=hn0.out;have:=hn9.out;omega),<-hq.out]
    rfl
   exact⟨e,by unfold nmO;rw[e];rfl⟩
  go_wp2
  first|go_ret2|skip
  rw[hR.out,HC.out.1,HC.out.2];exact⟨rfl,HX.out⟩
 | true =>
  have HC:Hid (obC o=0/\nmO o=qM o):=by
   have e:obC o=0:=by
    unfold obC;rw[if_neg (by have:=hn0.out;have:=hn9.out;omega),<-hq.out]
    rfl
   exact⟨e,by unfold nmO;rw[e];rfl⟩
  have HK2:=q_h (Ko HC.out.1);obtain⟨nm,hnm⟩:=qf (sV (qM o))
  have HCN:Hid (Calls Tryz.prog 76 #[.agg #[.slice A0 n0 c0,.slice A9 n9 c9]] W (qH W nm)):=by
   rw[hnm.out];exact Z8 (HO.out.ext HX.out) HK2.out
  go_wp2_with (go_at_call 76;refine q_o ?_);refine HCN.out.mono ?_;rintro e w8 ⟨rfl,e8⟩;have HX8:=q_h (HX.out.trans e8);clear p0 p1 HCN e8;go_wp2
  first|go_ret2|skip
  rw[hR.out,HC.out.1,HC.out.2,hnm.out];exact⟨rfl,HX8.out⟩
def zrs (n:Nat):Byt:=List.replicate n 0
theorem zA (n:Nat):(zrs n).length=n:=List.length_replicate
theorem YO {ET:TypeId}{z0:Value}{bz:Nat}(ho:One ET z0 bz) (hz:z0.cells=#[z0]) (t:TypeId) (ht:Tryz.prog.underlying t=some (.slice ET)) (w:World) (kl kc:IntKind) (n:Nat) (hn:n<1000000) :
  ∃w' cs,(Instr.makeSlice t (.int kl n) (.int kc n)).run Tryz.prog w=.ok (.slice (some ⟨w.heap.size,0,none⟩) n n) w'/\w'.heap[w.heap.size]?=some (.cells cs ET (0,0))/\cs.size=n/\(∀i,i<n->cs[i]?=some z0)/\Ext w w':=by
 obtain⟨i0,hi0,hz0,hz1,hz2⟩:=info_parts ho.inf;have hle:=ho.le;obtain⟨w',hrun,hown,hgr⟩:=run_make_full (P:=Tryz.prog) w w.heap.size t ET i0 _ 1 ht hi0 hz0 hz1 kl kc n (by rw[hz2];exact q_l (Nat.mul_le_mul hle (Nat.le_of_lt hn)) (by decide)) (by unfold maxLen;omega) (q_r);have hx:=(Ext.refl w).grown hgr (fun k hk=>by cases hk)
 rcases hown.2 with ⟨h,_⟩|⟨g,cap,cur,hv,hg,hh,hnc,hcm,hcs,htk⟩
 ·cases h
 ·have e1:w.heap.size=g:=Option.some.inj (congrArg Value.ownBlock hv);have e3:n=cap:=congrArg (fun v:Value=>match v with|.slice _ _ c=>c|_=>0) hv;subst e1 e3;refine⟨w',cur,hrun,hh,by omega,fun i hi=>?_,hx⟩;rw[hz,toList_madeCells_one] at htk;have h1:(cur.toList.take (n*1))[i]?=(List.replicate (n*1) z0)[i]?:=by rw[htk]
  rw[List.getElem?_take,if_pos (by omega),List.getElem?_replicate,if_pos (by omega)] at h1;simpa using h1
theorem Qv {ET:TypeId}{z0:Value}{bz:Nat}(ho:One ET z0 bz) (hz:z0.cells=#[z0]){ops:Array Oper}{rest:List Oper}{o:Oper}{a:Act}{Q:Exit->Act->World->Prop}(hg:o.guard=none) (l c:Operand) (t:TypeId) (ht:Tryz.prog.underlying t=some (.slice ET)) (hop:o.op=Op.makeSlice t l c)
  (kl kc:IntKind) (L C:Int) (n:Nat) (hl:a.eval l=.int kl L) (hc:a.eval c=.int kc C) (hL:L=(n:Int)) (hC:C=(n:Int)) (hn:n<1000000)
  (hK:∀w' cs,w'.heap[w.heap.size]?=some (.cells cs ET (0,0))->cs.size=n->(∀i,i<n->cs[i]?=some z0)->Ext w w'->wpList Tryz.prog ops Q rest (a.put o.dst (.slice (some ⟨w.heap.size,0,none⟩) n n)) w'):wpList Tryz.prog ops Q (o :: rest) a w:=by
 refine wpList_plain hg fun K hK'=>?_
 obtain⟨w',cs,hrun,r1,r2,r3,r4⟩:=YO ho hz t ht w kl kc n hn;subst hL;subst hC;unfold Oper.wp;simp[execOp,hop,hl,hc,hrun,Result.andThen]
 exact hK' _ _ (hK w' cs r1 r2 r3 r4)
def PgB (w:World) (g:Nat) (l:Byt):Prop:=w.heap[g]?=some (.cells (byC l).toArray 5 (0,0))
theorem PgB.ext{l:Byt}(h:PgB w g l) (e:Ext w w'):PgB w' g l:=e.block h
theorem PgB.chg{l:Byt}(h:PgB w g l) (e:Chg lo hi w w') (hg:g<lo\/hi<=g):PgB w' g l:=e.blk h hg
theorem PgB.lt{l:Byt}(h:PgB w g l):g<w.heap.size:=qK h
theorem PgB.cell{l:Byt}(h:PgB w g l)(hi:i<l.length):w.cell? ⟨g,i,none⟩=some (.int .u8 (chZ l i)):=by
 rw[qj h,List.getElem?_toArray];exact zt hi
theorem yg (l:Byt) (a i:Nat):chZ (l.drop a) i=chZ l (a+i):=by
 unfold chZ;rw[List.getD_eq_getElem?_getD,List.getD_eq_getElem?_getD,List.getElem?_drop]
theorem jl (l:Byt)(h:i<n):chZ (l.take n) i=chZ l i:=by
 unfold chZ;rw[List.getD_eq_getElem?_getD,List.getD_eq_getElem?_getD,List.getElem?_take,if_pos h]
theorem PgB.part{off:Nat}{l:Byt}(h:PgB w g l) (hn:off+n<=l.length) (hc:n<=c) (hm:c<=maxLen):ByV w (.slice (some ⟨g,off,none⟩) n c) ((l.drop off).take n):=by
 have hl:((l.drop off).take n).length=n:=by rw[List.length_take,List.length_drop];omega
 refine⟨_,c,by rw[hl],by omega,hm,fun _=>⟨g,off,rfl,fun i hi=>?_⟩⟩;rw[hl] at hi;rw[h.cell (by omega),jl _ hi,yg]
theorem PgB.all{l:Byt}(h:PgB w g l) (hc:l.length<=c) (hm:c<=maxLen):ByV w (.slice (some ⟨g,0,none⟩) l.length c) l:=by
 have:=h.part (off:=0) (n:=l.length) (by omega) hc hm
 rwa [List.drop_zero,List.take_length] at this
theorem XH (n:Nat):byC (zrs n)=List.replicate n (.int .u8 0):=by
 refine List.ext_getElem? fun i=>?_
 by_cases h:i<n
 ·rw[zt (by rw[zA];exact h),List.getElem?_replicate,if_pos h];unfold chZ zrs;rw[List.getD_eq_getElem?_getD,List.getElem?_replicate,if_pos h]
  rfl
 ·rw[List.getElem?_eq_none (by rw[qy,zA];omega),List.getElem?_replicate,if_neg h]
theorem kM{ops:Array Oper}{rest:List Oper}{o:Oper}{a:Act}{Q:Exit->Act->World->Prop}(hg:o.guard=none) (l c:Operand) (hop:o.op=Op.makeSlice 27 l c)
  (kl kc:IntKind) (L C:Int) (n:Nat) (hl:a.eval l=.int kl L) (hc:a.eval c=.int kc C) (hL:L=(n:Int)) (hC:C=(n:Int)) (hn:n<1000000)
  (hK:∀w',PgB w' w.heap.size (zrs n)->Ext w w'->wpList Tryz.prog ops Q rest (a.put o.dst (.slice (some ⟨w.heap.size,0,none⟩) n n)) w'):wpList Tryz.prog ops Q (o :: rest) a w:=by
 refine Qv kX rfl hg l c 27 Tryz.underlying27 hop kl kc L C n hl hc hL hC hn (fun w' cs h1 h2 h3 h4=>hK w' ?_ h4);unfold PgB;rw[h1,XH]
 congr 2
 refine Array.ext (by simp[h2]) (fun i h5 h6=>?_);have:=h3 i (by omega);rw[Array.getElem?_eq_getElem h5] at this;rw[Option.some.inj this]
 simp
def jI (l:Byt) (off:Nat) (s:Byt):Byt:=l.take off++(s++l.drop (off+s.length))
theorem vK {l s:Byt}{off:Nat}(h:off+s.length<=l.length):(jI l off s).length=l.length:=by
 unfold jI
 simp
 omega
theorem q0m (l:Byt) (n:Nat):(byC l).take n=byC (l.take n):=by
 refine List.ext_getElem? fun i=>?_
 rw[List.getElem?_take]
 by_cases h:i<n
 ·rw[if_pos h]
  by_cases h2:i<l.length
  ·rw[zt h2,zt (by rw[List.length_take];omega),jl _ h]
  ·rw[List.getElem?_eq_none (by rw[qy];omega),List.getElem?_eq_none (by rw[qy,List.length_take];omega)]
 ·rw[if_neg h,List.getElem?_eq_none (by rw[qy,List.length_take];omega)]
theorem q0p (l:Byt) (n:Nat):(byC l).drop n=byC (l.drop n):=by
 refine List.ext_getElem? fun i=>?_
 rw[List.getElem?_drop]
 by_cases h2:n+i<l.length
 ·rw[zt h2,zt (by rw[List.length_drop];omega),yg]
 ·rw[List.getElem?_eq_none (by rw[qy];omega),List.getElem?_eq_none (by rw[qy,List.length_drop];omega)]
theorem q1U (l:Byt) (off:Nat) (s:Byt):(byC l).take off++(byC s++(byC l).drop (off+s.length))=byC (jI l off s):=by
 unfold jI;rw[zY,zY,q0m,q0p]
theorem Jd (l:Byt) (off:Nat):jI l off []=l:=by
 unfold jI
 simp
theorem kN{ops:Array Oper}{rest:List Oper}{o:Oper}{a:Act}{Q:Exit->Act->World->Prop}(hgd:o.guard=none) (d s:Operand) (ho:o.op=.call { callee:=.builtin .copy,args:=#[d,s],argTypes:=#[27,27] })
  {off dLen dCap:Nat}{l src:Byt}{u:Value}(hd:a.eval d=.slice (some ⟨g,off,none⟩) dLen dCap) (hs:a.eval s=u) (hP:PgB w g l) (hu:ByV w u src) (hfit:off+dLen<=l.length)
  (hK:∀w',PgB w' g (jI l off (src.take dLen))->Chg g (g+1) w w'->wpList Tryz.prog ops Q rest (a.put o.dst (.int .i64 (Nat.min src.length dLen:Nat))) w'):wpList Tryz.prog ops Q (o :: rest) a w:=by
 obtain⟨A,c,rfl,-,-,hx⟩:=hu
 have hsz:(Tryz.prog.info? 5).map (·.size)=some 1:=by
  obtain⟨i0,hi0,-,hi2,-⟩:=info_parts kX.inf;rw[hi0];exact congrArg some hi2
 by_cases h0:Nat.min src.length dLen=0
 ·refine wpList_copy_nothing hgd d s _ _ ho 5 Tryz.underlying27 hsz _ _ dLen dCap src.length c hd hs h0 ?_
  have:=hK w (by
   have e:src.take dLen=[]:=by
    refine List.eq_nil_of_length_eq_zero ?_;rw[List.length_take,Nat.min_comm];exact h0
   rw[e,Jd]
   exact hP) (Chg.refl _ _ _)
  rw[h0] at this;exact this
 ·have hp:0<src.length:=by
   rcases Nat.eq_zero_or_pos src.length with h|h
   ·rw[h] at h0;simp at h0
   ·exact h
  obtain⟨b,o2,rfl,hcell⟩:=hx hp;have hlen:(src.take dLen).length=Nat.min src.length dLen:=by rw[List.length_take,Nat.min_comm]
  refine wpList_copy_own hgd d s _ _ ho 5 Tryz.underlying27 hsz g off dLen dCap _ src.length c hd hs _ _ hP (byC (src.take dLen)) (by rw[qy,hlen]) (fun j v hj=>?_) ?_ (jg _) ?_
  ·have hjl:j<(src.take dLen).length:=by
    have:=(List.getElem?_eq_some_iff.1 hj).1
    rwa [qy] at this
   rw[zt hjl,jl _ (by rw[List.length_take] at hjl;omega)] at hj;rw[<-hj,qW];exact hcell j (by rw[List.length_take] at hjl;omega)
  ·rw[qy,hlen,List.size_toArray,qy];have:Nat.min src.length dLen<=dLen:=Nat.min_le_right src.length dLen;omega
  ·have hrow:(w.setRow g ((byC l).toArray.toList.take off++(byC (src.take dLen)++(byC l).toArray.toList.drop (off+(byC (src.take dLen)).length))).toArray).heap[g]?=some (.cells (byC (jI l off (src.take dLen))).toArray 5 (0,0)):=by
    rw[<-q1U,qy];exact setRow_heap w g _ _ _ _ hP
   have hC:Chg g (g+1) w (w.setRow g ((byC l).toArray.toList.take off++(byC (src.take dLen)++(byC l).toArray.toList.drop (off+(byC (src.take dLen)).length))).toArray):=by
    refine⟨rfl,rfl,rfl,by simp[World.setRow],fun k hk hc=>setRow_other w g k _ ?_⟩;rintro rfl
    rcases hc with hc|hc|⟨cs,fr,hc⟩
    ·omega
    ·omega
    ·exact NoU.mk hP (by decide) cs fr hc
   have:=hK _ hrow hC;rw[show Nat.min src.length dLen=(byC (src.take dLen)).length from by rw[qy,hlen]] at this;exact this
theorem PgB.lit{cs:Array Value}(h:w.heap[g]?=some (.cells cs 5 (0,0))) (l:Byt) (hl:cs.toList=byC l):PgB w g l:=by
 unfold PgB;rw[h,<-hl]
theorem PgB.grow{l:Byt}(h:PgB w g l) (hb:base<=g) (hm:l.length<=maxLen):GrB base w (.slice (some ⟨g,0,none⟩) l.length l.length) l:=by
 refine⟨by have:=h.lt;omega,by rw[qy,Nat.mul_one],.inr ⟨g,l.length,(byC l).toArray,by rw[qy],hb,h,by rw[qy];omega,hm,by rw[List.size_toArray,qy];omega,by
  rw[Nat.mul_one,qy];have:(byC l).toArray.toList=byC l:=rfl
  rw[this,List.take_of_length_le (by rw[qy];omega)]⟩⟩
def ByU (w:World) (v:Value) (l:Byt):Prop:=ByV w v l/\∀g,v.ownBlock=some g->∃cs fr,w.heap[g]?=some (.cells cs 5 fr)
theorem ByU.ext{l:Byt}(h:ByU w v l) (e:Ext w w'):ByU w' v l:=⟨h.1.ext e,fun g hg=>by
 obtain⟨cs,fr,h1⟩:=h.2 g hg
 exact⟨cs,fr,e.block h1⟩⟩
theorem ve{ops:Array Oper}{rest:List Oper}{o:Oper}{a:Act}{Q:Exit->Act->World->Prop}(hgd:o.guard=none) (p x:Operand) (ho:o.op=.call { callee:=.builtin .append,args:=#[p,x],argTypes:=#[27,3] })
{l:Byt}(hp:a.eval p=.slice (some ⟨g,0,none⟩) l.length l.length) (hx:a.eval x=.int .i64 (k:Int)) (hP:PgB w g l) (h0:0<k) (hn:l.length+k<=1000000)
  (hK:∀v' w',ByU w' v' (l++zrs k)->Ext w w'->wpList Tryz.prog ops Q rest (a.put o.dst v') w'):wpList Tryz.prog ops Q (o :: rest) a w:=by
 refine wpList_plain hgd fun K hK'=>?_
 obtain⟨i0,hi0,hi1,hi2,hi3⟩:=info_parts kX.inf;have hsz:i0.size=1:=hi2
 have hold:(Builtin.firstCells i0.size l.length (.slice (some ⟨g,0,none⟩) l.length l.length)).run Tryz.prog w.drew=.ok (byC l).toArray w.drew:=by
  refine run_firstCells_some w.drew i0.size l.length ⟨g,0,none⟩ l.length l.length (byC l) (by rw[hsz,qy,Nat.mul_one]) (fun j x hj=>?_);rw[qW,Nat.zero_add];exact (qj hP j).trans (by rw[List.getElem?_toArray];exact hj)
 have hrun:=Lib.run_append_grow_zeros (P:=Tryz.prog) w 27 3 o.type 5 i0 _ .i64 .i64 Tryz.underlying27 Tryz.underlying3 hi0 hi1 (some ⟨g,0,none⟩) l.length l.length (byC l) hold k h0 (by omega) (by omega) (by omega) (by rw[hi3];omega) (growslice_fits (by omega) (by rw[hi3];omega));have hge:=grownCap_ge w (l.length+k) l.length 5;have hcm:=grownCap_le_maxLen w (l.length+k) l.length 5 (by unfold maxLen;omega)
 generalize grownCap w (l.length+k) l.length 5=cap at hrun hge hcm
 obtain⟨row,hrow⟩:=qf ((byC l).toArray++Builtin.zeroCells (Value.int .u8 0).cells k++Builtin.zeroCells (Value.int .u8 0).cells (cap-(l.length+k)));rw[<-hrow.out] at hrun
 have hzc:∀n,Builtin.zeroCells (Value.int .u8 0).cells n=(byC (zrs n)).toArray:=fun n=>by
  rw[XH];refine Array.ext (by rw[size_zeroCells,kX.cells];simp) (fun i h5 h6=>?_);simp[Builtin.zeroCells,Value.cells,Nat.mod_one]
 have hrg:∀i,i<l.length+k->row[i]?=some (.int .u8 (chZ (l++zrs k) i)):=fun i hi=>by
  rw[hrow.out,hzc,hzc,Array.getElem?_append_left (by simp[qy,zA];omega),List.append_toArray,<-zY,List.getElem?_toArray];exact zt (by rw[List.length_append,zA];exact hi)
 have hb:(w.drew.alloc (.cells row 5)).heap[w.heap.size]?=some (.cells row 5 (0,0)):=heap_alloc_new w.drew _;unfold Oper.wp execOp;simp only[ho,resolve,invoke,builtin,Sem.run_bind,Sem.run_pure,Result.andThen_ok,List.map_toArray,List.map_cons,List.map_nil,hp,hx,hrun];refine hK' _ _ (hK _ _ ⟨⟨_,cap,by rw[List.length_append,zA],by rw[List.length_append,zA];exact hge,hcm,fun _=>⟨w.heap.size,0,rfl,fun i hi=>?_⟩⟩,fun q hq=>?_⟩ ((Ext.refl w).drew.alloc _))
 ·rw[List.length_append,zA] at hi;rw[Nat.zero_add];exact (qj hb i).trans (hrg i hi)
 ·obtain rfl:w.heap.size=q:=by simpa[Value.ownBlock] using hq
  exact⟨_,_,hb⟩
theorem q0o (a b c d:UInt8):byC [a,b,c,d]=[.int .u8 (a.toNat:Int),.int .u8 (b.toNat:Int),.int .u8 (c.toNat:Int),.int .u8 (d.toNat:Int)]:=rfl
theorem kT {n:Int}(h0:0<=n) (h:n<256):((UInt8.ofNat n.toNat).toNat:Int)=n:=by
 rw[UInt8.toNat_ofNat'];omega
theorem JC(h:n<65536):byC (b4 n)=[.int .u8 ((n:Int) / 16777216),.int .u8 ((n:Int) / 65536),.int .u8 ((n:Int) / 256),.int .u8 ((n:Int) % 256)]:=by
 unfold b4;rw[q0o,kT (by omega) (by omega),kT (by omega) (by omega),kT (by omega) (by omega),kT (by omega) (by omega)];rw[show (n:Int) / 16777216 % 256=(n:Int) / 16777216 by omega,show (n:Int) / 65536 % 256=(n:Int) / 65536 by omega,show (n:Int) / 256 % 256=(n:Int) / 256 by omega]
theorem kZ (n:Int):(b4 n).length=4:=rfl
def pgE (e:Byt) (i:Nat):Byt:=((vk e).drop (64*i)).take 64
def ZF (e:Byt):List Byt:=(List.range (pgN e)).map (pgE e)
def Yb (e:Byt):Byt:=b4 e.length++e
theorem vO (e:Byt):(Yb e).length=4+e.length:=by unfold Yb;rw[List.length_append,kZ]
theorem jX (e:Byt):(vk e).length=64*pgN e:=by
 unfold vk pgN;simp only[List.length_append,List.length_replicate,kZ];omega
theorem q1p (e:Byt)(h:i<pgN e):(pgE e i).length=64:=by
 unfold pgE;rw[List.length_take,List.length_drop,jX];omega
theorem q2u (e:Byt)(h:64*i<4+e.length):jI (zrs 64) 0 (((Yb e).drop (64*i)).take 64)=pgE e i:=by
 unfold jI pgE;rw[List.take_zero,List.nil_append,Nat.zero_add]
 have e1:vk e=Yb e++zrs (64*pgN e-(4+e.length)):=by
  unfold vk Yb zrs;rw[Nat.sub_sub]
 rw[e1,List.drop_append,List.take_append];have e2:(Yb e).length=4+e.length:=vO e
 congr 1
 rw[show 64*i-(Yb e).length=0 by omega,List.drop_zero];unfold zrs;rw[List.drop_replicate,List.take_replicate,List.length_take,List.length_drop]
 congr 1
 unfold pgN;omega
def PgL (base:Nat) (w:World) (v:Value) (i:Nat) (P:Nat->Byt):Prop:=∃G:Nat->Nat,qB 27 base w v ((List.range i).map fun j=>.slice (some ⟨G j,0,none⟩) 64 64)/\∀j,j<i->base<=G j/\PgB w (G j) (P j)
theorem PgL.snoc{G:Nat->Nat}{P:Nat->Byt}(hP:∀j,j<i->base<=G j/\PgB w (G j) (P j)) (hg:base<=g) (hPg:PgB w g (P i)) (hG:qB 27 base w v (((List.range i).map fun j=>.slice (some ⟨G j,0,none⟩) 64 64) ++ [.slice (some ⟨g,0,none⟩) 64 64])):PgL base w v (i+1) P:=by
 refine⟨fun j=>if j=i then g else G j,?_,fun j hj=>?_⟩
 ·have e:((List.range (i+1)).map fun j=>Value.slice (some ⟨if j=i then g else G j,0,none⟩) 64 64)=((List.range i).map fun j=>Value.slice (some ⟨G j,0,none⟩) 64 64) ++ [.slice (some ⟨g,0,none⟩) 64 64]:=by
   rw[List.range_succ,List.map_append,List.map_cons,List.map_nil,if_pos rfl]
   congr 1
   refine List.map_congr_left fun j hj=>?_
   rw[if_neg (by have:=List.mem_range.1 hj;omega)]
  rw[e];exact hG
 ·by_cases h:j=i
  ·show base<=(if j=i then g else G j)/\PgB w (if j=i then g else G j) (P j)
   rw[if_pos h,h];exact⟨hg,hPg⟩
  ·show base<=(if j=i then g else G j)/\PgB w (if j=i then g else G j) (P j)
   rw[if_neg h];exact hP j (by omega)
theorem PgL.congr{P P':Nat->Byt}(h:PgL base w v i P) (e:∀j,j<i->P j=P' j):PgL base w v i P':=by
 obtain⟨G,h1,h2⟩:=h;exact⟨G,h1,fun j hj=>⟨(h2 j hj).1,by rw[<-e j hj];exact (h2 j hj).2⟩⟩
theorem ByU.app {ET:TypeId}{u:Value}{xs:List Value}{l:Byt}(h:ByU w u l) (hG:qB ET base w v xs) (ht:5≠ET) (hw:v.ownBlock=some g\/g=w.heap.size) (C:Chg g (g+1) w w'):ByU w' u l:=by
 have hk:∀q,u.ownBlock=some q->w'.heap[q]?=w.heap[q]?:=fun q hq=>by
  obtain⟨cs,fr,h1⟩:=h.2 q hq;have hne:=qI.ne hG hw h1 ht;exact C.block q (qK h1) (by omega)
 refine⟨?_,fun q hq=>?_⟩
 ·obtain⟨A,c,rfl,h1,h2,h3⟩:=h.1;refine⟨A,c,rfl,h1,h2,fun hn=>?_⟩;obtain⟨b,off,rfl,h4⟩:=h3 hn;exact⟨b,off,rfl,fun i hi=>by rw[World.cell?_of_block (w:=w) (hk b rfl)];exact h4 i hi⟩
 ·obtain⟨cs,fr,h1⟩:=h.2 q hq;exact⟨cs,fr,(hk q hq).trans h1⟩
theorem GrB.u{l:Byt}(h:GrB base w v l):ByU w v l:=by
 refine⟨h.by,fun g hg=>?_⟩
 rcases h.2.2 with ⟨rfl,h0⟩|⟨g0,cap,cur,rfl,hb,hh,-⟩
 ·simp[Value.ownBlock] at hg
 ·obtain rfl:g0=g:=by simpa[Value.ownBlock] using hg
  exact⟨_,_,hh⟩
theorem ByV.from{l:Byt}(h:ByV w (.slice A m c) l) (hk:k<=m):ByV w (.slice (if c=k then A else Option.map (fun x=>x.add k) A) (m-k) (c-k)) (l.drop k):=by
 obtain⟨A',c',hv,h1,h2,h3⟩:=h;obtain⟨rfl,rfl,rfl⟩:=Value.slice.inj hv;refine⟨_,_,by rw[List.length_drop],by rw[List.length_drop];omega,by omega,fun hn=>?_⟩;rw[List.length_drop] at hn;obtain⟨b,off,rfl,h4⟩:=h3 (by omega);rw[if_neg (by omega)];refine⟨b,off+k,by simp only[Option.map_some,qW],fun i hi=>?_⟩;rw[List.length_drop] at hi;rw[yg,Nat.add_assoc];exact h4 (k+i) (by omega)
theorem ByU.from{l:Byt}(h:ByU w (.slice A m c) l) (hk:k<=m):ByU w (.slice (if c=k then A else Option.map (fun x=>x.add k) A) (m-k) (c-k)) (l.drop k):=by
 refine⟨h.1.from hk,fun g hg=>h.2 g ?_⟩;cases A with
 | none =>
  by_cases hc:c=k
  ·rw[if_pos hc] at hg;simp[Value.ownBlock] at hg
  ·rw[if_neg hc] at hg;simp[Value.ownBlock] at hg
 | some a =>
  obtain⟨b,o,e⟩:=a
  by_cases hc:c=k
  ·rw[if_pos hc] at hg;exact hg
  ·rw[if_neg hc] at hg;have:((⟨b,o,e⟩:Addr).add k).block=b:=by unfold Addr.add;split<;>rfl
   simp[Value.ownBlock] at hg ⊢
   rw[<-hg,this]
def Zz (w:World) (L:List Byt) (e:Ending) (w':World):Prop:=∃v,e=.returned v/\PgL w.heap.size w' v L.length (fun i=>L.getD i [])/\Ext w w'
theorem jk (e:Byt):(ZF e).length=pgN e:=by unfold ZF;rw[List.length_map,List.length_range]
theorem Zg (e:Byt)(h:i<pgN e):(ZF e).getD i []=pgE e i:=by
 unfold ZF;rw[List.getD_eq_getElem?_getD,List.getElem?_map,List.getElem?_range h]
 rfl
theorem Ky {nn:Bool}{V:Vl}(hv:VlV nn N w V v) (hN:N<=w.heap.size) (hf:Fits V) (h4:(enc V).length<=5000):Calls Tryz.prog 107 #[v] w (Zz w (ZF (enc V))):=by
 obtain⟨R,hR⟩:=qf (Zz w (ZF (enc V)));rw[<-hR.out];have HV:=q_h hv;obtain⟨kz,nb,A1,n1,c1,A2,n2,c2,A3,n3,c3,rfl⟩:=hv.cells;have HN:=q_h hN;have HF:=q_h hf;have H4:=q_h h4;obtain⟨E,hE9⟩:=qf (enc V);rw[<-hE9.out] at H4;clear hv hN hf h4;go_enter Tryz.func107,Tryz.ntmps107;go_upto_region 1 with (fail);refine qo ?_;intro w1 hE hsz B0;obtain⟨p0,p1,p2,p3,p4⟩:=qA B0;go_wp2_with (go_at_call 135;refine q_o ?_);refine (QB (HV.out.ext hE) (q_l HN.out hE.size) HF.out.1 HF.out.2.1 HF.out.2.2.1 HF.out.2.2.2).mono ?_;rintro e w2 ⟨v2,rfl,hG2,e2⟩;rw[<-hE9.out] at hG2;have HG2:=q_h hG2.by
 have HX2:=q_h (hE.trans e2);obtain⟨A,c,rfl,hnc,hcm⟩:=hG2.by.form
 obtain⟨n,hn⟩:=qf E.length;rw[<-hn.out] at HG2 hnc ⊢;have hn5:n<=5000:=by rw[hn.out];exact H4.out
 clear hG2 p0 p1 p2 p3 p4 hcm;go_wp2_with (at_builtin;refine q_o ?_);refine qo ?_;intro W hEW hszW BW;have HE5:Hid (E.length<65536):=by rw[Hid,<-hn.out];omega
 have hPW:PgB W w2.heap.size (b4 (E.length:Int)):=PgB.lit BW _ (by rw[JC HE5.out,<-hn.out]);have HX3:=q_h ((HX2.out).trans hEW);refine zC kX rfl _ _ 27 Tryz.underlying27 rfl (by rfl) (hPW.grow (base:=w.heap.size) HX2.out.size (by rw[kZ];unfold maxLen;omega)) (by rfl) (news:=byC E) (by rw[qy];exact hn.out.symm) (ByV.news (HG2.out.ext hEW) hn.out) (jg E) (by rw[qy,kZ];omega) ?_;rintro v3 w3 ⟨hG3,-,g3,hg3,-,C3⟩
 have HF3:Hid (ByU w3 v3 ((Yb E).drop (64*0))):=by
  rw[<-zY] at hG3;rw[Nat.mul_zero,List.drop_zero];exact GrB.u hG3
 have HX4:Hid (Ext w w3):=C3.ext HX3.out hg3;obtain⟨B0',c0',rfl,hnc0,hcm0⟩:=HF3.out.1.form;have hm0:((Yb E).drop (64*0)).length=4+n:=by rw[Nat.mul_zero,List.drop_zero,vO,<-hn.out]
 rw[hm0] at HF3 hnc0 ⊢;have HP0:Hid (PgL w.heap.size w3 (.slice none 0 0) 0 (pgE E)):=⟨fun _=>0,qB.nil HX4.out.size,fun j hj=>by omega⟩
 clear hm0 hG3 C3 hPW BW hEW hszW HG2 B0 e2 hE;go_wp2_with fail
 go_loopw [3,6] (fun bv ov wr=>∃(i m:Nat) (A:Option Addr) (c:Nat) (A':Option Addr) (c':Nat),bv=.slice A m c/\ov=.slice A' i c'/\Hid (m=4+n-64*i/\(0<i->64*(i-1)<4+n))/\m<=c/\c<=maxLen/\Hid (ByU wr (.slice A m c) ((Yb E).drop (64*i)))/\Hid (PgL w.heap.size wr (.slice A' i c') i (pgE E))/\Hid (Ext w wr)) (fun bv _ _=>match bv with|.slice _ m _=>m|_=>0)
 case atStart=>exact⟨0,4+n,_,_,none,0,rfl,rfl,⟨by omega,fun h=>by omega⟩,hnc0,hcm0,HF3,HP0,HX4⟩
 case round =>
  clear HF3 HP0 hnc0 hcm0;obtain⟨i,m,A,c,A',c',rfl,rfl,HM,hmc,hcm,HFI,HPI,HX⟩:=hrel
  by_cases hlt:0<m
  case neg =>
   have u1:decide (0<(m:Int))=false:=q_f (by omega);have u1':decide (0<m)=false:=q_f hlt
   have HNN:Hid (i=pgN E):=by
    have h1:=HM.out.1;have h2:=HM.out.2;have h3:=hn.out;rw[Hid];unfold pgN;omega
   go_wp2
   first|go_ret|skip
   rw[hR.out,<-hE9.out];refine⟨_,rfl,?_,HX.out⟩;have h1:=HPI.out.congr (P':=fun i=>(ZF E).getD i []) (fun j hj=>(Zg E (by have:=HNN.out;omega)).symm);rw[jk,<-HNN.out];exact h1
  have u1:decide (0<(m:Int))=true:=q_t (by omega);have u1':decide (0<m)=true:=q_t hlt;go_wp2_with (at_make;refine q_o ?_);refine kM rfl _ _ rfl .i64 .i64 64 64 64 (by rfl) (by rfl) rfl rfl (by omega) ?_;intro w5 hP5 e5;go_upto_region 7 with (fail);refine wp_region_lit ?_;refine wpList_plain rfl (fun K hK=>?_);go_simp;refine hK _ _ ?_;clear hK K;try simp only[nr]
  refine wpList_plain rfl (fun K hK=>?_);go_simp;refine hK _ _ ?_;clear hK K;try simp only[nr]
  refine kN rfl _ _ rfl (by rfl) (by rfl) hP5 (HFI.out.1.ext e5) (by rw[zA];omega) ?_;intro w6 hP6 C6;have hml:((Yb E).drop (64*i)).length=m:=by rw[List.length_drop,vO,<-hn.out];exact HM.out.1.symm
  obtain⟨k,hk⟩:=qf (Nat.min m 64);rw[hml,<-hk.out];have e6:Ext wr w6:=C6.ext e5 (q_r);have HE6:=q_h e6
  have HP6:Hid (PgB w6 wr.heap.size (pgE E i)):=by
   rw[q2u E (by have:=HM.out.1;have:=hn.out;omega)] at hP6;exact hP6
  have hkm:k<=m/\k<=64:=by
   rw[hk.out];exact⟨Nat.min_le_left _ _,Nat.min_le_right _ _⟩
  obtain⟨G,hG,hGP⟩:=HPI.out;have HG:=q_h hG;have HGP:=q_h hGP;have HMI:Hid (i<=100):=by have:=HM.out;rw[Hid];omega
  clear hml hP6 C6 e6 e5 hP5 hG hGP;go_wp2_with (at_builtin;refine q_o ?_);refine qo ?_;intro w8 e8 hsz8 BX;refine zB QY rfl _ _ 44 Tryz.underlying44 rfl (by rfl) ((HG.out.ext HE6.out).ext e8) (by rfl) (m:=1) (c:=1) (news:=[.slice (some ⟨wr.heap.size,0,none⟩) 64 64]) rfl (jD BX) (by simp[Value.oneCell']) (by omega) (by have:=HMI.out;simp;omega) ?_;rintro g9 cap9 w9 hG9 - ⟨g',hg',hw9,C9,-⟩;have HX9:Hid (Ext w w9):=C9.ext ((HX.out.trans HE6.out).trans e8) hg';have hne:∀q l,PgB w8 q l->PgB w9 q l:=fun q l h=>h.chg C9 (by have:=qI.ne ((HG.out.ext HE6.out).ext e8) hw9 h (by decide);omega)
  have HP9:Hid (PgL w.heap.size w9 (.slice (some ⟨g9,0,none⟩) (i+1) cap9) (i+1) (pgE E)):=by
   refine PgL.snoc (G:=G) (fun j hj=>⟨(HGP.out j hj).1,hne _ _ (((HGP.out j hj).2.ext HE6.out).ext e8)⟩) HX.out.size (hne _ _ (HP6.out.ext e8)) ?_;have h9:=hG9;rw[List.length_map,List.length_range] at h9;exact h9
  have hl9:((List.range i).map fun j=>Value.slice (some ⟨G j,0,none⟩) 64 64).length=i:=by simp
  rw[hl9];have HF9:=q_h ((((HFI.out.ext (HE6.out.trans e8)).app ((HG.out.ext HE6.out).ext e8) (by decide) hw9 C9)).from hkm.1);clear hG9 hne hl9 C9 hw9 BX e8;go_wp2;go_roundw
  case rel =>
   refine⟨i+1,m-k,_,c-k,_,cap9,rfl,by go_num,?_,by omega,by omega,?_,HP9,HX9⟩
   ·have:=HM.out;have:=hk.out;have h9:Nat.min m 64=min m 64:=rfl;rw[Hid];omega
   ·have h1:=HF9.out;have h2:=HM.out;have h3:=hk.out;have h9:Nat.min m 64=min m 64:=rfl
    have e1:((Yb E).drop (64*i)).drop k=(Yb E).drop (64*(i+1)):=by
     rw[List.drop_drop]
     by_cases h5:64<=m
     ·congr 1
      omega
     ·rw[List.drop_eq_nil_of_le,List.drop_eq_nil_of_le]<;>(rw[vO,<-hn.out];omega)
    rw[e1] at h1;exact h1
  case measure =>
   have:=hk.out;have h9:Nat.min m 64=min m 64:=rfl
   show m-k<m
   omega
theorem vM {l s:Byt}{off:Nat}(h:off+s.length<=l.length) (j:Nat):(jI l off s)[j]?=if off<=j/\j<off+s.length then s[j-off]? else l[j]?:=by
 unfold jI;have h1:(l.take off).length=off:=by rw[List.length_take];omega
 by_cases h2:j<off
 ·rw[List.getElem?_append_left (by omega),List.getElem?_take,if_pos h2,if_neg (by omega)]
 ·rw[List.getElem?_append_right (by omega),h1]
  by_cases h3:j-off<s.length
  ·rw[List.getElem?_append_left h3,if_pos (by omega)]
  ·rw[List.getElem?_append_right (by omega),List.getElem?_drop,if_neg (by omega)]
   congr 1
   omega
theorem q1x {l s:Byt}{off:Nat}(h:off+s.length<=l.length) (hi:i<s.length):jI l off (s.take (i+1))=(jI l off (s.take i)).set (off+i) (s.getD i 0):=by
 have h1:(s.take (i+1)).length=i+1:=by rw[List.length_take];omega
 have h2:(s.take i).length=i:=by rw[List.length_take];omega
 refine List.ext_getElem? fun j=>?_
 rw[vM (by omega),h1,List.getElem?_set,vM (by omega),h2,vK (by omega)]
 by_cases h3:off+i=j
 ·subst h3;rw[if_pos (by omega),if_pos rfl,if_pos (by omega),List.getElem?_take,if_pos (by omega)];rw[show off+i-off=i by omega,List.getD_eq_getElem?_getD,List.getElem?_eq_getElem hi]
  rfl
 ·rw[if_neg h3]
  by_cases h4:off<=j/\j<off+i
  ·rw[if_pos h4,if_pos (by omega),List.getElem?_take,if_pos (by omega),List.getElem?_take,if_pos (by omega)]
  ·rw[if_neg h4,if_neg (by omega)]
theorem q1S (l:Byt) (i:Nat) (c:UInt8):(byC l).toArray.setIfInBounds i (.int .u8 (c.toNat:Int))=(byC (l.set i c)).toArray:=by
 refine Array.ext (by simp[qy]) (fun j h1 h2=>?_)
 have hj:j<(l.set i c).length:=by
  rw[List.size_toArray,qy] at h2;exact h2
 have hj':j<l.length:=by rwa [List.length_set] at hj
 apply Option.some.inj
 rw[<-Array.getElem?_eq_getElem h1,<-Array.getElem?_eq_getElem h2,Array.getElem?_setIfInBounds,List.getElem?_toArray,List.getElem?_toArray,zt hj,List.size_toArray,qy];unfold chZ;rw[List.getD_eq_getElem?_getD,List.getElem?_set]
 by_cases h:i=j
 ·rw[if_pos h,if_pos h,if_pos (by omega),if_pos (by omega)]
  rfl
 ·rw[if_neg h,if_neg h,zt hj'];unfold chZ;rw[List.getD_eq_getElem?_getD]
theorem PgB.set{l:Byt}(h:PgB w g l) (c:UInt8):∃w',w.setCell ⟨g,i,none⟩ (.int .u8 (c.toNat:Int))=w'/\PgB w' g (l.set i c)/\Chg g (g+1) w w':=by
 obtain⟨w',E,B,U⟩:=qL h i (.int .u8 (c.toNat:Int));refine⟨w',E,?_,U.chg (NoU.mk h (by decide))⟩;unfold PgB;rw[B,q1S]
def RetP (g:Nat) (l:Byt) (w:World) (e:Ending) (w':World):Prop:=e=.returned (.tuple #[])/\PgB w' g l/\Chg g (g+1) w w'
theorem wG{off:Nat}{l:Byt}{k:Int}(h:PgB w g l) (hn:4<=n) (hl:off+4<=l.length) (h0:0<=k) (hk:k<4294967296) (hm:l.length<=1000000) :
  Calls Tryz.prog 138 #[.slice (some ⟨g,off,none⟩) n c,.int .i64 k] w (RetP g (jI l off (b4 k)) w):=by
 have HP:=q_h h;have HL:=q_h hl;have HM:=q_h hm;obtain⟨R,hR⟩:=qf (RetP g (jI l off (b4 k)) w);rw[<-hR.out];clear h hl hm;go_enter Tryz.func138,Tryz.ntmps138;go_wp2
 go_loopw [5] (fun iv wr=>∃i:Nat,i<=4/\iv=.int .i64 (i:Int)/\Hid (PgB wr g (jI l off ((b4 k).take i)))/\Hid (Chg g (g+1) w wr)) (fun iv _=>4-(intOf iv).toNat)
 case atStart=>exact⟨0,Nat.zero_le _,rfl,by rw[List.take_zero,Jd];exact HP,Chg.refl _ _ _⟩
 case round =>
  obtain⟨i,hi9,rfl,HI,HC⟩:=hrel
  by_cases hlt:i<4
  case neg =>
   obtain rfl:i=4:=by omega
   go_wp2
   first|go_end0|go_ret|skip
   rw[hR.out];exact⟨rfl,HI.out,HC.out⟩
  obtain⟨ch,hch⟩:=qf ((b4 k).getD i 0);obtain⟨w',E,B,C⟩:=HI.out.set (i:=off+i) ch
  have HB:Hid (PgB w' g (jI l off ((b4 k).take (i+1)))):=by
   have h9:off+(b4 k).length<=l.length:=by rw[kZ];exact HL.out
   have h8:i<(b4 k).length:=by rw[kZ];exact hlt
   rw[q1x (l:=l) (s:=b4 k) (off:=off) h9 h8,<-hch.out];exact B
  have HC2:=q_h (HC.out.trans C);have hll:(jI l off ((b4 k).take i)).length=l.length:=vK (by have:=HL.out;rw[List.length_take,kZ];omega);have c0:=HI.out.cell (i:=off+i) (by have:=HL.out;omega);have f0:=qp HI.out (off+i);obtain⟨z,hz⟩:=qf ((ch.toNat:Int));rw[<-hz.out] at E;obtain⟨old,hold⟩:=qf (Value.int .u8 (chZ (jI l off ((b4 k).take i)) (off+i)));rw[<-hold.out] at c0;have hin:i<n:=by omega
  have hin':(i:Int)<n:=by omega
  have HZ:Hid (z=(if i=0 then k / 16777216 % 256 else if i=1 then k / 65536 % 256 else if i=2 then k / 256 % 256 else k % 256)):=by
   rw[Hid,hz.out,hch.out];unfold b4;have:i=0\/i=1\/i=2\/i=3:=by omega
   rcases this with h|h|h|h<;>subst h
   ·exact kT (by omega) (by omega)
   ·exact kT (by omega) (by omega)
   ·exact kT (by omega) (by omega)
   ·exact kT (by omega) (by omega)
  clear B C hll hi9;have h4:i=0\/i=1\/i=2\/i=3:=by omega
  rcases h4 with h|h|h|h<;>subst h
  ·have hz2:z=k / 16777216:=by rw[HZ.out];simp;omega
   try simp only[Nat.add_zero,Nat.zero_add] at E c0 f0 HB
   rw[hz2] at E;clear hz2 HZ hz hold hch HI;go_wp2;go_roundw
   case rel=>exact⟨1,by omega,rfl,HB,HC2⟩
   case measure=>simp[intOf]
  ·have hz2:z=k / 65536 % 256:=by rw[HZ.out];simp
   try simp only[Nat.add_zero,Nat.zero_add] at E c0 f0 HB
   rw[hz2] at E;clear hz2 HZ hz hold hch HI;go_wp2;go_roundw
   case rel=>exact⟨2,by omega,rfl,HB,HC2⟩
   case measure=>simp[intOf]
  ·have hz2:z=k / 256 % 256:=by rw[HZ.out];simp
   try simp only[Nat.add_zero,Nat.zero_add] at E c0 f0 HB
   rw[hz2] at E;clear hz2 HZ hz hold hch HI;go_wp2;go_roundw
   case rel=>exact⟨3,by omega,rfl,HB,HC2⟩
   case measure=>simp[intOf]
  ·have hz2:z=k % 256:=by rw[HZ.out];simp
   try simp only[Nat.add_zero,Nat.zero_add] at E c0 f0 HB
   rw[hz2] at E;clear hz2 HZ hz hold hch HI;go_wp2;go_roundw
   case rel=>exact⟨4,by omega,rfl,HB,HC2⟩
   case measure=>simp[intOf]
def xH (w:World):Prop:=∃A c,w.cell? ⟨0,0,none⟩=some (.slice A 4 c)/\ByV w (.slice A 4 c) [70,83,66,49]
theorem xH.ext(h:xH w) (e:Ext w w'):xH w':=by
 obtain⟨A,c,h1,h2⟩:=h;exact⟨A,c,e.cell h1,h2.ext e⟩
def q36 (w:World) (l:Byt) (e:Ending) (w':World):Prop:=∃g,e=.returned (.slice (some ⟨g,0,none⟩) 64 64)/\w.heap.size<=g/\PgB w' g l/\Ext w w'
theorem qw{t:TypeId}{x0 x1 x2 x3 x4 x5:Value}(h:w.heap[g]?=some (.cells #[x0,x1,x2,x3,x4,x5] t (0,0))):w.cell? ⟨g,0,none⟩=some x0/\w.cell? ⟨g,1,none⟩=some x1/\w.cell? ⟨g,2,none⟩=some x2/\w.cell? ⟨g,3,none⟩=some x3/\w.cell? ⟨g,4,none⟩=some x4/\w.cell? ⟨g,5,none⟩=some x5 :=
 ⟨qj h 0,qj h 1,qj h 2,qj h 3,qj h 4,qj h 5⟩
theorem zQ{size seq half used:Int}{A1 A2:Option Addr}{n1 c1 n2 c2:Nat}(hM:xH w) (q0:0<=seq) (q1:seq<4294967296) (h0:0<=half) (h1:half<256) (u0:0<=used) (u1:used<4294967296) :
  Calls Tryz.prog 84 #[.agg #[.int .i64 size,.int .i64 seq,.int .i64 half,.int .i64 used,.slice A1 n1 c1,.slice A2 n2 c2]] w (q36 w (jq seq half used)):=by
 have HM:=q_h hM;have HQ:=q_h (And.intro q0 q1);have HU:=q_h (And.intro u0 u1);obtain⟨R,hR⟩:=qf (q36 w (jq seq half used));rw[<-hR.out];clear hM q0 q1 u0 u1;go_enter Tryz.func84,Tryz.ntmps84;go_upto_region 1 with (fail);refine qo ?_;intro w1 hE hsz B0;have HB0:=q_h B0;clear B0;go_wp2_with (at_make;refine q_o ?_);refine kM rfl _ _ rfl .i64 .i64 64 64 64 (by rfl) (by rfl) rfl rfl (by omega) ?_;intro w2 hP2 e2;obtain⟨g,hg⟩:=qf w1.heap.size;rw[<-hg.out] at hP2 ⊢;have HE2:=q_h (hE.trans e2);have HB2:=q_h (e2.block HB0.out)
 have HG:Hid (w.heap.size<g/\g<w2.heap.size):=by
  have:=hP2.lt;have:=hg.out;rw[Hid];omega
 obtain⟨A0,c0,m0,m1⟩:=HM.out.ext HE2.out;clear hE e2 HB0 hsz;go_upto_region 2 with (fail);refine wp_region_lit ?_;refine wpList_plain rfl (fun K hK=>?_);go_simp;refine hK _ _ ?_;clear hK K;try simp only[nr]
 refine wpList_plain rfl (fun K hK=>?_);go_simp;refine hK _ _ ?_;clear hK K;try simp only[nr]
 refine kN rfl _ _ rfl (by rfl) (by rfl) hP2 m1 (by rw[zA];omega) ?_;intro w3 hP3 C3;have HP3:Hid (PgB w3 g (jI (zrs 64) 0 [70,83,66,49])):=hP3;have HE3:Hid (Ext w w3):=C3.ext HE2.out (by have:=HG.out;omega);have HB3:=q_h (C3.blk HB2.out (.inl (by have:=HG.out;omega)));clear hP2 hP3 C3 m0 m1 HB2 HE2;obtain⟨p0,p1,-⟩:=qw HB3.out;have HE3d:Hid (Ext w w3.drew):=HE3.out.drew;have HB3d:Hid (w3.drew.heap[w.heap.size]?=w3.heap[w.heap.size]?):=rfl;have HP3d:Hid (PgB w3.drew g (jI (zrs 64) 0 [70,83,66,49])):=HP3.out;go_upto_region 3 with (fail);have eC:=(Ext.refl w3).drew.cell p1;refine ql (fun w'=>w'.cell? ⟨w.heap.size,1,none⟩=some (.int .i64 seq)) [] (by kernel_rfl) (by exact eC) (fun hHeld=>?_);refine sP 0 (h:=?_);refine sP 1 (h:=?_);refine sP 2 (h:=?_);refine sT 3 (h:=?_);refine qg (i:=4) rfl (by kernel_rfl) (fun K hK=>?_);go_simp;refine (wG HP3d.out (by omega) (by decide) HQ.out.1 HQ.out.2 (by decide)).mono ?_;rintro e w4 ⟨rfl,hP4,C4⟩;have HP4:=q_h hP4;have HC4:=q_h C4;replace eC:=C4.cell eC (.inl (by have:=HG.out;show w.heap.size<g;omega));clear hP4 C4;go_wp2_with fail;clear hHeld;refine hK.out _ _ (by exact eC) fun hHeld=>?_
 clear hK K;try simp only[nr]
 refine qm (by kernel_rfl) ?_ _;clear hHeld;have HE4:Hid (Ext w w4):=HC4.out.ext HE3d.out (by have:=HG.out;omega);have HB4:=q_h (HC4.out.blk (HB3d.out.trans HB3.out) (.inl (by have:=HG.out;omega)));clear eC p0 p1 HB3 HE3 HP3 HB3d HP3d HE3d HC4;obtain⟨p0,p1,p2,p3,-⟩:=qw HB4.out;obtain⟨ch,hch⟩:=qf (UInt8.ofNat (half % 256).toNat)
 have HCH:Hid ((ch.toNat:Int)=half):=by
  rw[Hid,hch.out,kT (by omega) (by omega)];omega
 obtain⟨w5,E5,P5,C5⟩:=HP4.out.set (i:=8) ch;rw[HCH.out] at E5;have HP5:=q_h P5;have HE5:Hid (Ext w w5):=C5.ext HE4.out (by have:=HG.out;omega);have HB5:=q_h (C5.blk HB4.out (.inl (by have:=HG.out;omega)));have c8:=HP4.out.cell (i:=8) (by show 8<64;omega);have f8:=qp HP4.out 8;obtain⟨old,hold⟩:=qf (Value.int .u8 (chZ (jI (jI (zrs 64) 0 [70,83,66,49]) 4 (b4 seq)) 8));rw[<-hold.out] at c8;clear P5 C5;have HE5d:Hid (Ext w w5.drew):=HE5.out.drew;have HB5d:Hid (w5.drew.heap[w.heap.size]?=w5.heap[w.heap.size]?):=rfl;have HP5d:Hid (PgB w5.drew g ((jI (jI (zrs 64) 0 [70,83,66,49]) 4 (b4 seq)).set 8 ch)):=HP5.out;have q3:=(qw HB5.out).2.2.2.1;go_upto_region 5 with (fail);clear p0 p1 p2 p3 c8 f8 E5;have eC:=(Ext.refl w5).drew.cell q3;refine ql (fun w'=>w'.cell? ⟨w.heap.size,3,none⟩=some (.int .i64 used)) [] (by kernel_rfl) (by exact eC) (fun hHeld=>?_);refine sP 0 (h:=?_);refine sP 1 (h:=?_);refine sP 2 (h:=?_);refine sT 3 (h:=?_);refine qg (i:=4) rfl (by kernel_rfl) (fun K hK=>?_);go_simp;refine (wG HP5d.out (by omega) (by show 9+4<=64;omega) HU.out.1 HU.out.2 (by show 64<=1000000;omega)).mono ?_;rintro e w6 ⟨rfl,hP6,C6⟩;have HP6:=q_h hP6;have HC6:=q_h C6;replace eC:=C6.cell eC (.inl (by have:=HG.out;show w.heap.size<g;omega));clear hP6 C6;go_wp2_with fail;clear hHeld;refine hK.out _ _ (by exact eC) fun hHeld=>?_
 clear hK K;try simp only[nr]
 refine qm (by kernel_rfl) ?_ _;clear hHeld;have HE6:Hid (Ext w w6):=HC6.out.ext HE5d.out (by have:=HG.out;omega);clear eC q3;go_wp2
 first|go_ret|skip
 rw[hR.out];refine⟨g,rfl,by have:=HG.out;omega,?_,HE6.out⟩;have h9:=HP6.out;rw[hch.out] at h9;exact h9
theorem yI:Cls 91 3 (.agg #[.int .i64 0,.slice none 0 0,.bool false]) 40:=⟨by kernel_rfl,rfl,by omega,by omega,by omega,by decide⟩
def acC (P:Nat->qX) (D:Nat->Value) (i:Nat):List Value:=(List.range i).flatMap fun j=>[.int .i64 (P j).page,D j,.bool (P j).bar]
theorem Zy (P:Nat->qX) (D:Nat->Value):∀n,(acC P D n).length=n*3
 | 0=>rfl
 | n+1=>by
  have:=Zy P D n;unfold acC at this ⊢;rw[List.range_succ,List.flatMap_append,List.length_append,this]
  simp
  omega
theorem Qj {P P':Nat->qX}{D D':Nat->Value}(h:∀j,j<n->P j=P' j) (h':∀j,j<n->D j=D' j):acC P D n=acC P' D' n:=by
 unfold acC List.flatMap;rw[List.map_congr_left (fun j hj=>?_)];rw[h j (List.mem_range.1 hj),h' j (List.mem_range.1 hj)]
theorem yl (P:Nat->qX) (D:Nat->Value) (i:Nat):acC P D (i+1)=acC P D i ++ [.int .i64 (P i).page,D i,.bool (P i).bar]:=by
 unfold acC;rw[List.range_succ,List.flatMap_append]
 simp
theorem XJ (P:Nat->qX) (D:Nat->Value) (q:Nat) (hq:q<3):∀n i,i<n->(acC P D n)[i*3+q]?=[Value.int .i64 (P i).page,D i,.bool (P i).bar][q]?
 | n+1,i,h=>by
  rw[yl]
  by_cases h2:i<n
  ·rw[List.getElem?_append_left (by rw[Zy];omega)];exact XJ P D q hq n i h2
  ·obtain rfl:i=n:=by omega
   rw[List.getElem?_append_right (by rw[Zy];omega),Zy,Nat.add_sub_cancel_left]
def zG (base:Nat) (w:World) (v:Value) (i:Nat) (P:Nat->qX):Prop:=∃D:Nat->Value,qI 91 3 base w v i (acC P D i)/\∀j,j<i->ByU w (D j) (P j).data
theorem zG.ext{P:Nat->qX}(h:zG base w v i P) (e:Ext w w'):zG base w' v i P:=by
 obtain⟨D,h1,h2⟩:=h;exact⟨D,h1.ext e,fun j hj=>(h2 j hj).ext e⟩
theorem zG.congr{P P':Nat->qX}(h:zG base w v i P) (e:∀j,j<i->P j=P' j):zG base w v i P':=by
 obtain⟨D,h1,h2⟩:=h;refine⟨D,?_,fun j hj=>by rw[<-e j hj];exact h2 j hj⟩;rw[<-Qj e (fun _ _=>rfl)];exact h1
theorem zG.form{P:Nat->qX}(h:zG base w v i P):∃A c,v=.slice A i c/\i<=c/\c<=maxLen:=by
 obtain⟨D,h1,-⟩:=h
 rcases h1.2.2 with ⟨h4,h5⟩|⟨g,cap,cur,hv,hb,-,h4,h5,-⟩
 ·exact⟨none,0,by rw[h5];exact h4,by omega,Nat.zero_le _⟩
 ·exact⟨_,cap,hv,h4,h5⟩
theorem zG.low {b':Nat}{P:Nat->qX}(h:zG base w v i P) (hb:b'<=base):zG b' w v i P:=by
 obtain⟨D,h1,h2⟩:=h;refine⟨D,⟨q_l hb h1.1,h1.2.1,?_⟩,h2⟩
 rcases h1.2.2 with h0|⟨g,cap,cur,hv,hb0,h3⟩
 ·exact .inl h0
 ·exact .inr ⟨g,cap,cur,hv,by omega,h3⟩
theorem zG.acts{L:List qX}(h:zG base w v L.length (fun j=>L.getD j default)):zJ w v L:=by
 obtain⟨A,c,hv,hnc,hcm⟩:=h.form;obtain⟨D,h1,h2⟩:=h;refine⟨A,c,hv,hnc,hcm,fun h0=>?_⟩;obtain⟨g,cap,hv2,hb,-,-,hcell⟩:=h1.at_ h0;rw[hv] at hv2;injection hv2 with e1 e2 e3
 refine⟨g,0,e1,fun i hi=>?_⟩
 have hc:∀q,q<3->∀u,[Value.int .i64 (L.getD i default).page,D i,.bool (L.getD i default).bar][q]?=some u->w.cell? ⟨g,0+i*3+q,none⟩=some u:=fun q hq u hu=>by
  rw[Nat.zero_add];exact hcell _ u ((XJ _ D q hq _ i hi).trans hu)
 exact⟨_,_,_,hc 0 (by omega) _ rfl,hc 1 (by omega) _ rfl,hc 2 (by omega) _ rfl,rfl,(h2 i hi).1,rfl⟩
theorem ByU.appD {ET:TypeId}{u:Value}{xs:List Value}{l:Byt}(h:ByU w u l) (hG:qI ET k base w v n xs) (ht:5≠ET) (hw:v.ownBlock=some g\/g=w.heap.size) (C:Chg g (g+1) w w'):ByU w' u l:=by
 have hk:∀q,u.ownBlock=some q->w'.heap[q]?=w.heap[q]?:=fun q hq=>by
  obtain⟨cs,fr,h1⟩:=h.2 q hq;have hne:=qI.ne hG hw h1 ht;exact C.block q (qK h1) (by omega)
 refine⟨?_,fun q hq=>?_⟩
 ·obtain⟨A,c,rfl,h1,h2,h3⟩:=h.1;refine⟨A,c,rfl,h1,h2,fun hn=>?_⟩;obtain⟨b,off,rfl,h4⟩:=h3 hn;exact⟨b,off,rfl,fun i hi=>by rw[World.cell?_of_block (w:=w) (hk b rfl)];exact h4 i hi⟩
 ·obtain⟨cs,fr,h1⟩:=h.2 q hq;exact⟨cs,fr,(hk q hq).trans h1⟩
theorem zG.snoc{v':Value}{P:Nat->qX}{D:Nat->Value}{d:Value}(hG:qI 91 3 base w v i (acC P D i)) (hD:∀j,j<i->ByU w (D j) (P j).data) (hd:ByU w d (P i).data)
  (hG':qI 91 3 base w' v' (i+1) (acC P D i ++ [.int .i64 (P i).page,d,.bool (P i).bar])) (hw:v.ownBlock=some g\/g=w.heap.size) (C:Chg g (g+1) w w'):zG base w' v' (i+1) P:=by
 refine⟨fun j=>if j=i then d else D j,?_,fun j hj=>?_⟩
 ·rw[yl]
  show qI _ _ _ _ _ _ (acC P (fun j=>if j=i then d else D j) i ++ [.int .i64 (P i).page,(if i=i then d else D i),.bool (P i).bar])
  rw[if_pos rfl,Qj (P':=P) (D':=D) (fun _ _=>rfl) (fun j hj=>by rw[if_neg (by omega)])];exact hG'
 ·show ByU w' (if j=i then d else D j) (P j).data
  by_cases h:j=i
  ·rw[if_pos h,h];exact hd.appD hG (by decide) hw C
  ·rw[if_neg h];exact (hD j (by omega)).appD hG (by decide) hw C
theorem ByU.upd{u:Value}{l:Byt}(h:ByU w u l) (U:Upd g w w'){cs:Array Value}{t:TypeId}{fr:Nat×Nat}(hb:w.heap[g]?=some (.cells cs t fr)) (ht:t≠5):ByU w' u l:=by
 have hk:∀q,u.ownBlock=some q->w'.heap[q]?=w.heap[q]?:=fun q hq=>by
  obtain⟨cs',fr',h1⟩:=h.2 q hq;refine U.block q ?_;rintro rfl;rw[hb] at h1;injection h1 with h1
  injection h1 with h2 h3 h4
  exact ht h3
 refine⟨?_,fun q hq=>?_⟩
 ·obtain⟨A,c,rfl,h1,h2,h3⟩:=h.1;refine⟨A,c,rfl,h1,h2,fun hn=>?_⟩;obtain⟨b,off,rfl,h4⟩:=h3 hn;exact⟨b,off,rfl,fun i hi=>by rw[World.cell?_of_block (w:=w) (hk b rfl)];exact h4 i hi⟩
 ·obtain⟨cs',fr',h1⟩:=h.2 q hq;exact⟨cs',fr',(hk q hq).trans h1⟩
theorem zG.upd{P:Nat->qX}(h:zG base w v i P) (U:Upd g w w'){cs:Array Value}{t:TypeId}{fr:Nat×Nat}(hb:w.heap[g]?=some (.cells cs t fr)) (ht:t≠5) (ht':t≠91):zG base w' v i P:=by
 obtain⟨D,h1,h2⟩:=h;refine⟨D,⟨by rw[U.size];exact h1.1,h1.2.1,?_⟩,fun j hj=>(h2 j hj).upd U hb ht⟩
 rcases h1.2.2 with h0|⟨g0,cap,cur,hv,hb0,hh,h3⟩
 ·exact .inl h0
 ·refine .inr ⟨g0,cap,cur,hv,hb0,(U.block g0 ?_).trans hh,h3⟩;rintro rfl;rw[hb] at hh;injection hh with hh
  injection hh with e1 e2 e3
  exact ht' e2
def q3m (w:World) (n:Nat) (P:Nat->qX) (e:Ending) (w':World):Prop:=∃v,e=.returned v/\zG w.heap.size w' v n P/\Ext w w'
theorem q2A (e:Byt):jI (jI (zrs (pgN e*64)) 0 (b4 e.length)) 4 e=vk e:=by
 have hp:4+e.length<=pgN e*64:=by unfold pgN;omega
 have h4:(b4 (e.length:Int)).length=4:=rfl;refine List.ext_getElem? fun j=>?_
 have h1:(jI (zrs (pgN e*64)) 0 (b4 e.length)).length=pgN e*64:=by rw[vK (by rw[h4,zA];omega),zA]
 rw[vM (by rw[h1];omega),vM (by rw[h4,zA];omega),h4];unfold vk
 by_cases h2:j<4
 ·rw[if_neg (by omega),if_pos (by omega),List.append_assoc,List.getElem?_append_left (by rw[h4];exact h2)]
  rfl
 ·by_cases h3:j<4+e.length
  ·rw[if_pos (by omega),List.append_assoc,List.getElem?_append_right (by rw[h4];omega),h4,List.getElem?_append_left (by omega)]
  ·rw[if_neg (by omega),if_neg (by omega),List.getElem?_append_right (by rw[List.length_append,h4];omega),List.length_append,h4];unfold zrs;rw[List.getElem?_replicate,List.getElem?_replicate]
   by_cases h5:j<pgN e*64
   ·rw[if_pos h5,if_pos (by omega)]
   ·rw[if_neg h5,if_neg (by omega)]
theorem JG{E:Byt}{page:Int}(hE:ByV w v E) (h5:E.length<=5000) (hp0 : -1000000000<=page) (hp1:page<=1000000000):Calls Tryz.prog 120 #[v,.int .i64 page] w (q3m w (pgN E) (fun j=>⟨page+j,pgE E j,false⟩)):=by
 have HE:=q_h hE;obtain⟨R,hR⟩:=qf (q3m w (pgN E) (fun j=>⟨page+j,pgE E j,false⟩));rw[<-hR.out];obtain⟨A,c,rfl,hnc,hcm⟩:=hE.form;obtain⟨n,hn⟩:=qf E.length;rw[<-hn.out] at HE hnc h5 ⊢;obtain⟨p,hp⟩:=qf (pgN E)
 have HP:Hid (64*p<n+68/\n+4<=64*p):=by
  rw[Hid,hp.out,hn.out];unfold pgN;omega
 have hp9:p<=100:=by have:=HP.out;omega
 have hp8:1<=p:=by have:=HP.out;omega
 clear hE hcm;go_enter Tryz.func120,Tryz.ntmps120;go_wp2_with (go_at_call 121;refine q_o ?_);refine (kW HE.out (by have:=hn.out;omega)).mono ?_;rintro e w1 ⟨rfl,e1⟩;rw[<-hp.out];go_wp2_with (at_make;refine q_o ?_);refine kM rfl _ _ rfl .i64 .i64 _ _ (p*64) (by rfl) (by rfl) (by push_cast;rfl) (by push_cast;rfl) (by omega) ?_;intro w2 hP2 e2;obtain⟨g,hg⟩:=qf w1.heap.size;rw[<-hg.out] at hP2 ⊢;have HX2:=q_h (e1.trans e2)
 have HG:Hid (w.heap.size<=g/\g<w2.heap.size):=by
  have:=hP2.lt;have:=hg.out;have:=e1.size;rw[Hid];omega
 have HP2:=q_h hP2;clear e1 e2 hP2;obtain⟨L,hL⟩:=qf (p*64);rw[<-hL.out] at HP2 ⊢;go_wp2_with (go_at_call 138;refine q_o ?_);refine (wG HP2.out (by have:=hL.out;omega) (by rw[zA];have:=hL.out;omega) (by omega) (by omega) (by rw[zA];have:=hL.out;omega)).mono ?_;rintro e w3 ⟨rfl,hP3,C3⟩;have HP3:=q_h hP3;have HX3:Hid (Ext w w3):=C3.ext HX2.out HG.out.1;clear hP3 C3 HP2;have l4:(4:Int)<=(L:Int):=by have:=hL.out;omega
 have l4':¬L=4:=by have:=hL.out;omega
 have hzl:(jI (zrs L) 0 (b4 n)).length=L:=by rw[vK (by rw[kZ,zA];omega),zA]
 have HZL:=q_h hzl;have HNL:Hid (n+4<=L):=by have:=HP.out;have:=hL.out;rw[Hid];omega
 clear hzl;go_upto_region 3 with (fail);refine wp_region_lit ?_;refine wpList_plain rfl (fun K hK=>?_);go_simp;refine hK _ _ ?_;clear hK K;try simp only[nr]
 refine wpList_plain rfl (fun K hK=>?_);go_simp;refine hK _ _ ?_;clear hK K;try simp only[nr]
 refine wpList_plain rfl (fun K hK=>?_);go_simp;refine hK _ _ ?_;clear hK K;try simp only[nr]
 refine kN rfl _ _ rfl (by rfl) (by rfl) HP3.out (HE.out.ext HX3.out) (by rw[HZL.out];omega) ?_;intro w4 hP4 C4
 have HP4:Hid (PgB w4 g (vk E)):=by
  have h1:=q2A E;rw[<-hp.out,<-hL.out,<-hn.out] at h1;rw[List.take_of_length_le (by have:=HNL.out;have:=hn.out;omega),h1] at hP4;exact hP4
 have HX4:Hid (Ext w w4):=C4.ext HX3.out HG.out.1;have HGP:Hid (g<w4.heap.size):=HP4.out.lt;have HA4:Hid (zG w.heap.size w4 (.slice none 0 0) 0 (fun j=>⟨page+j,pgE E j,false⟩)):=⟨fun _=>.int .i64 0,⟨HX4.out.size,rfl,.inl ⟨rfl,rfl⟩⟩,fun j hj=>by omega⟩
 clear hP4 C4 HP3 HZL;go_wp2_with fail
 go_loopw [7,6,1] (fun iv ov pv wr=>∃(i:Nat) (A':Option Addr) (c':Nat),i<=p/\iv=.int .i64 (64*(i:Int))/\ov=.slice A' i c'/\pv=.int .i64 (page+i)/\Hid (zG w.heap.size wr (.slice A' i c') i (fun j=>⟨page+j,pgE E j,false⟩))/\Hid (PgB wr g (vk E))/\Hid (Ext w wr)) (fun iv _ _ _=>L-(intOf iv).toNat)
 case atStart=>exact⟨0,none,0,Nat.zero_le _,by simp,rfl,by simp,HA4,HP4,HX4⟩
 case round =>
  clear HA4 HP4 HX4 HGP;obtain⟨i,A',c',hi9,rfl,rfl,rfl,HAI,HPI,HX⟩:=hrel
  by_cases hlt:i<p
  case neg =>
   obtain rfl:i=p:=by omega
   have u1:decide (64*(i:Int)<(L:Int))=false:=q_f (by have:=hL.out;omega);go_wp2
   first|go_ret|skip
   rw[hR.out,<-hp.out];exact⟨_,rfl,HAI.out,HX.out⟩
  have u1:decide (64*(i:Int)<(L:Int))=true:=q_t (by have:=hL.out;omega);have u2:64*(i:Int)+64<=(L:Int):=by have:=hL.out;omega
  have HLL:Hid ((vk E).length=L):=by rw[Hid,jX,hL.out,hp.out];omega
  go_wp2_with (at_builtin;refine q_o ?_);refine qo ?_;intro w6 e6 hsz6 BX;obtain⟨D,hD,hDB⟩:=(HAI.out.ext e6)
  have hPd:ByU w6 (.slice (some ⟨g,64*i,none⟩) 64 64) (pgE E i):=by
   refine⟨(HPI.out.ext e6).part (off:=64*i) (n:=64) (by rw[HLL.out];omega) (q_r) (by unfold maxLen;omega),fun q hq=>?_⟩;obtain rfl:g=q:=by simpa[Value.ownBlock] using hq
   exact⟨_,_,HPI.out.ext e6⟩
  refine zh yI rfl _ _ 33 Tryz.underlying33 rfl (by rfl) hD (by rfl) (m:=1) (c:=1) (news:=[.int .i64 (page+i),.slice (some ⟨g,64*i,none⟩) 64 64,.bool false]) rfl (fun j u hj=>(zq BX j).trans (by simpa using hj)) (by simp[Value.oneCell']) (by omega) ?_;rintro v7 w7 hG7 - ⟨g7,hg7,hw7,C7⟩;have HX7:Hid (Ext w w7):=C7.ext (HX.out.trans e6) hg7;have HP7:Hid (PgB w7 g (vk E)):=(HPI.out.ext e6).chg C7 (by have:=qI.ne hD hw7 (HPI.out.ext e6) (by decide);omega);have hA7:zG w.heap.size w7 v7 (i+1) (fun j=>⟨page+j,pgE E j,false⟩):=zG.snoc hD hDB hPd hG7 hw7 C7;obtain⟨A7,c7,rfl,-⟩:=hA7.form;have HA7:=q_h hA7;clear hA7 hG7 hw7 C7 hD hDB hPd BX e6;go_wp2;go_roundw
  case rel=>exact⟨i+1,A7,c7,by omega,by go_num,rfl,by go_num,HA7,HP7,HX7⟩
  case measure=>simp[intOf];omega
theorem nilU (w:World):ByU w (.slice none 0 0) []:=⟨⟨none,0,rfl,q_r,Nat.zero_le _,fun h=>by simp at h⟩,fun g hg=>by simp[Value.ownBlock] at hg⟩
def vT (n:Nat) (P:Nat->qX) (L:List qX) (j:Nat):qX:=if j<n then P j else L.getD (j-n) default
theorem zG.three{v':Value}{P:Nat->qX}{D:Nat->Value}{d0 d1 d2:Value}{x0 x1 x2:qX}(hG:qI 91 3 base w v n (acC P D n)) (hD:∀j,j<n->ByU w (D j) (P j).data) (h0:ByU w d0 x0.data) (h1:ByU w d1 x1.data) (h2:ByU w d2 x2.data)
  (hG':qI 91 3 base w' v' (n+3) (acC P D n ++ [.int .i64 x0.page,d0,.bool x0.bar,.int .i64 x1.page,d1,.bool x1.bar,.int .i64 x2.page,d2,.bool x2.bar])) (hw:v.ownBlock=some g\/g=w.heap.size) (C:Chg g (g+1) w w'):zG base w' v' (n+3) (vT n P [x0,x1,x2]):=by
 refine⟨fun j=>if j<n then D j else [d0,d1,d2].getD (j-n) d0,?_,fun j hj=>?_⟩
 ·rw[yl,yl,yl,Qj (n:=n) (P':=P) (D':=D) (fun j hj=>by unfold vT;rw[if_pos hj]) (fun j hj=>by rw[if_pos hj])];have e0:vT n P [x0,x1,x2] n=x0:=by unfold vT;rw[if_neg (by omega),Nat.sub_self];rfl
  have e1:vT n P [x0,x1,x2] (n+1)=x1:=by unfold vT;rw[if_neg (by omega),Nat.add_sub_cancel_left];rfl
  have e2:vT n P [x0,x1,x2] (n+1+1)=x2:=by unfold vT;rw[if_neg (by omega),show n+1+1-n=2 by omega];rfl
  rw[e0,e1,e2]
  show qI _ _ _ _ _ _ (acC P D n ++ [.int .i64 x0.page,(if n<n then D n else [d0,d1,d2].getD (n-n) d0),.bool x0.bar] ++ [.int .i64 x1.page,(if n+1<n then D (n+1) else [d0,d1,d2].getD (n+1-n) d0),.bool x1.bar] ++ [.int .i64 x2.page,(if n+1+1<n then D (n+1+1) else [d0,d1,d2].getD (n+1+1-n) d0),.bool x2.bar])
  rw[if_neg (by omega),if_neg (by omega),if_neg (by omega),Nat.sub_self,Nat.add_sub_cancel_left,show n+1+1-n=2 by omega,List.append_assoc,List.append_assoc];exact hG'
 ·show ByU w' (if j<n then D j else [d0,d1,d2].getD (j-n) d0) (vT n P [x0,x1,x2] j).data
  unfold vT
  by_cases h:j<n
  ·rw[if_pos h,if_pos h];exact (hD j h).appD hG (by decide) hw C
  ·rw[if_neg h,if_neg h];have:j-n=0\/j-n=1\/j-n=2:=by omega
   rcases this with e|e|e<;>rw[e]
   ·exact h0.appD hG (by decide) hw C
   ·exact h1.appD hG (by decide) hw C
   ·exact h2.appD hG (by decide) hw C
theorem PgB.u64{l:Byt}(h:PgB w g l) (hl:l.length=64):ByU w (.slice (some ⟨g,0,none⟩) 64 64) l:=by
 have h1:=h.all (c:=64) (by omega) (by unfold maxLen;omega);rw[hl] at h1;refine⟨h1,fun q hq=>?_⟩;obtain rfl:g=q:=by simpa[Value.ownBlock] using hq
 exact⟨_,_,h⟩
def Zr (seq half used:Int):List qX:=[⟨0,[],true⟩,⟨seq.tmod 2,jq seq half used,false⟩,⟨0,[],true⟩]
def q3j (base:Nat) (w:World) (n:Nat) (P:Nat->qX) (e:Ending) (w':World):Prop:=∃v,e=.returned v/\zG base w' v n P/\Below base w w'
theorem JL{P:Nat->qX}{size seq half used:Int}{A1 A2:Option Addr}{n1 c1 n2 c2:Nat}(hA:zG base w v n P) (hb:base<=w.heap.size) (hn:n<=1000) (hM:xH w) (q0:0<=seq) (q1:seq<4294967296) (h0:0<=half) (h1:half<256) (u0:0<=used) (u1:used<4294967296) :
  Calls Tryz.prog 122 #[v,.agg #[.int .i64 size,.int .i64 seq,.int .i64 half,.int .i64 used,.slice A1 n1 c1,.slice A2 n2 c2]] w (q3j base w (n+3) (vT n P (Zr seq half used))):=by
 have HA:=q_h hA;have HM:=q_h hM;have HQ:=q_h (And.intro q0 q1);have HH:=q_h (And.intro h0 h1);have HU:=q_h (And.intro u0 u1);obtain⟨R,hR⟩:=qf (q3j base w (n+3) (vT n P (Zr seq half used)));rw[<-hR.out];obtain⟨A,c,rfl,hnc,hcm⟩:=hA.form;clear hA hM q1 u0 u1 h0 h1;go_enter Tryz.func122,Tryz.ntmps122;go_upto_region 2 with (fail);refine zu ?_;intro W hE hsz B0 B1;obtain⟨p0,p1,p2,p3,p4,p5⟩:=qw B0;obtain⟨q0',q1',q2',-⟩:=cells3 B1;have HE:=q_h hE;have HEd:Hid (Ext w W.drew):=hE.drew;have HMd:=q_h (HM.out.ext HEd.out);have eC:=(Ext.refl W).drew;refine ql (fun w'=>w'.cell? ⟨w.heap.size,0,none⟩=some (.int .i64 size)/\w'.cell? ⟨w.heap.size,1,none⟩=some (.int .i64 seq)/\w'.cell? ⟨w.heap.size,2,none⟩=some (.int .i64 half)/\w'.cell? ⟨w.heap.size,3,none⟩=some (.int .i64 used)/\w'.cell? ⟨w.heap.size,4,none⟩=some (.slice A1 n1 c1)/\w'.cell? ⟨w.heap.size,5,none⟩=some (.slice A2 n2 c2)/\w'.cell? ⟨w.heap.size+1,0,none⟩=some (.int .i64 0)/\w'.cell? ⟨w.heap.size+1,1,none⟩=some (.slice none 0 0)/\w'.cell? ⟨w.heap.size+1,2,none⟩=some (.bool true)) [10,11] (by kernel_rfl) (by exact⟨eC.cell p0,eC.cell p1,eC.cell p2,eC.cell p3,eC.cell p4,eC.cell p5,eC.cell q0',eC.cell q1',eC.cell q2'⟩) (fun hHeld=>?_);refine sP 0 (h:=?_);refine sT 1 (h:=?_);refine sP 2 (h:=?_);refine sT 3 (h:=?_);refine sP 4 (h:=?_);refine sT 5 (h:=?_);refine sT 8 (h:=?_);refine qg (i:=6) rfl (by kernel_rfl) (fun K hK=>?_)
 go_simp;refine (zQ HMd.out HQ.out.1 HQ.out.2 HH.out.1 HH.out.2 HU.out.1 HU.out.2).mono ?_;rintro e w4 ⟨g4,rfl,hg4,hP4,e4⟩;have HP4:=q_h hP4;replace eC:=eC.trans e4;clear hP4 e4;go_wp2_with fail;clear hHeld;refine hK.out _ _ (by exact⟨eC.cell p0,eC.cell p1,eC.cell p2,eC.cell p3,eC.cell p4,eC.cell p5,eC.cell q0',eC.cell q1',eC.cell q2'⟩) fun hHeld=>?_
 clear hK K;try simp only[nr]
 refine sP 7 (h:=?_);refine qg (i:=9) rfl (by kernel_rfl) (fun K hK=>?_);go_simp
 first|refine qo ?_|refine qY ?_
 intro w5 e5 hsz5 BJ;have HP5:=q_h (HP4.out.ext e5);replace eC:=eC.trans e5;have HX5:=q_h (hE.trans eC);clear hHeld;refine hK.out _ _ (by exact⟨eC.cell p0,eC.cell p1,eC.cell p2,eC.cell p3,eC.cell p4,eC.cell p5,eC.cell q0',eC.cell q1',eC.cell q2'⟩) fun hHeld=>?_
 clear hK K;try simp only[nr]
 refine qC (i:=10) rfl (by kernel_rfl) (by kernel_rfl) (fun K hK=>?_);obtain⟨D,hD,hDB⟩:=(HA.out.ext HX5.out)
 refine zl yI rfl _ _ 33 Tryz.underlying33 rfl (by rfl) hD (by rfl) (m:=3) (c:=3) (news:=[.int .i64 0,.slice none 0 0,.bool true,.int .i64 (seq.tmod 2),.slice (some ⟨g4,0,none⟩) 64 64,.bool false,.int .i64 0,.slice none 0 0,.bool true]) rfl (fun j u hj=>(zq BJ j).trans (by simpa using hj)) (by simp[Value.oneCell']) (by omega) ?_;rintro v7 w7 hG7 - ⟨g7,hg7,hw7,C7⟩;have hA7:zG base w7 v7 (n+3) (vT n P (Zr seq half used)):=zG.three hD hDB (nilU _) (HP5.out.u64 (vG _ _ _)) (nilU _) hG7 hw7 C7;have HA7:=q_h hA7
 have HB7:Hid (Below base w w7):=by
  have e:=HX5.out;refine⟨C7.os.trans e.os,C7.tape.trans e.tape,C7.output.trans e.output,q_l e.size C7.size,fun k hk=>?_⟩;have hks:k<w.heap.size:=by omega
  exact (C7.block k (Nat.lt_of_lt_of_le hks e.size) (.inl (by omega))).trans (Below.block e k hks)
 clear hA7 hG7 hw7 C7 hD hDB BJ;refine hK.out _ _ ?_;clear hK K;try simp only[nr]
 refine qC (i:=11) rfl (by kernel_rfl) (by kernel_rfl) (fun K hK=>?_);go_simp;refine hK.out _ _ ?_;clear hK K;try simp only[nr]
 refine qm (by kernel_rfl) ?_ _;clear hHeld;clear p0 p1 p2 p3 p4 p5 q0' q1' q2' eC;go_wp2
 first|go_ret|skip
 rw[hR.out];exact⟨v7,rfl,HA7.out,HB7.out⟩
theorem q2T (a b c d e f g h i j k l m:UInt8):byC [a,b,c,d,e,f,g,h,i,j,k,l,m]=[.int .u8 (a.toNat:Int),.int .u8 (b.toNat:Int),.int .u8 (c.toNat:Int),.int .u8 (d.toNat:Int),.int .u8 (e.toNat:Int),.int .u8 (f.toNat:Int),.int .u8 (g.toNat:Int),.int .u8 (h.toNat:Int),.int .u8 (i.toNat:Int),.int .u8 (j.toNat:Int),.int .u8 (k.toNat:Int),.int .u8 (l.toNat:Int),.int .u8 (m.toNat:Int)]:=rfl
def supH (seq half used:Int):Byt:=[70,83,66,49]++b4 seq ++ [UInt8.ofNat (half % 256).toNat]++b4 used
theorem q1g (a b c:Int):jq a b c=supH a b c++zrs 51:=rfl
def q3k (w:World) (l:Byt) (e:Ending) (w':World):Prop:=∃v,e=.returned v/\ByU w' v l/\Ext w w'
theorem Qp{seq half used:Int}(q0:0<=seq) (q1:seq<4294967296) (h0:0<=half) (h1:half<256) (u0:0<=used) (u1:used<4294967296) :
  Calls Tryz.prog 99 #[.int .i64 seq,.int .i64 half,.int .i64 used] w (q3k w (jq seq half used)):=by
 obtain⟨R,hR⟩:=qf (q3k w (jq seq half used));rw[<-hR.out];have q2:seq / 16777216<256:=by omega
 have u2:used / 16777216<256:=by omega
 go_enter Tryz.func99,Tryz.ntmps99;go_upto_region 2 with (fail);refine qo ?_;intro W hE hsz BW
 have hP:PgB W w.heap.size (supH seq half used):=PgB.lit BW _ (by
  unfold supH b4
  show _=byC [70,83,66,49,_,_,_,_,_,_,_,_,_]
  rw[q2T,kT (by omega) (by omega),kT (by omega) (by omega),kT (by omega) (by omega),kT (by omega) (by omega),kT (by omega) (by omega),kT (by omega) (by omega),kT (by omega) (by omega),kT (by omega) (by omega),kT (by omega) (by omega)];rw[show seq / 16777216 % 256=seq / 16777216 by omega,show used / 16777216 % 256=used / 16777216 by omega,show half % 256=half by omega]
  rfl)
 have HP:=q_h hP;clear hP BW;go_wp2_with (at_builtin;refine q_o ?_);refine ve rfl _ _ rfl (g:=w.heap.size) (l:=supH seq half used) (k:=51) (by rfl) (by rfl) HP.out (by omega) (by show 13+51<=1000000;omega) ?_;intro v3 w3 hB3 e3;have HB3:Hid (ByU w3 v3 (jq seq half used)):=by rw[q1g];exact hB3
 have HX3:=q_h (hE.trans e3);clear hB3 e3;go_wp2
 first|go_ret|skip
 rw[hR.out];exact⟨v3,rfl,HB3.out,HX3.out⟩
theorem qJ:(Tryz.prog.info? 25).map (·.size)=some 6:=by kernel_rfl
def zSh:Value:=.agg #[.int .i64 0,.int .i64 0,.int .i64 0,.int .i64 0,.slice none 0 0,.slice none 0 0]
def q1d (w:World) (e:Ending) (w':World):Prop:=e=.returned (.tuple #[zSh,.slice none 0 0,.int .i64 17])/\Ext w w'
def q1c (w:World) (sh:Value) (n:Nat) (P:Nat->qX) (e:Ending) (w':World):Prop:=∃v,e=.returned (.tuple #[sh,v,.int .i64 0])/\zG w.heap.size w' v n P/\Ext w w'
theorem PgL.form{P:Nat->Byt}(h:PgL base w v i P):∃A c,v=.slice A i c/\i<=c:=by
 obtain⟨G,h1,-⟩:=h;obtain⟨A,c,h2,h3⟩:=qB.form h1;rw[List.length_map,List.length_range] at h2 h3;exact⟨A,c,h2,h3⟩
theorem PgL.ext{P:Nat->Byt}(h:PgL base w v i P) (e:Ext w w'):PgL base w' v i P:=by
 obtain⟨G,h1,h2⟩:=h;exact⟨G,qB.ext h1 e,fun j hj=>⟨(h2 j hj).1,(h2 j hj).2.ext e⟩⟩
theorem PgL.addr{P:Nat->Byt}(h:PgL base w (.slice A i c) i P) (h0:0<i):∃g off,A=some ⟨g,off,none⟩/\∀j,j<i->∃q,w.cell? ⟨g,off+j,none⟩=some (.slice (some ⟨q,0,none⟩) 64 64)/\PgB w q (P j):=by
 obtain⟨G,h1,h2⟩:=h;obtain⟨g,cap,hv,-,-,-,-,-,hc⟩:=qB.at_ h1 (by simpa using h0);injection hv with e1 e2 e3
 refine⟨g,0,e1,fun j hj=>⟨G j,?_,(h2 j hj).2⟩⟩;have:=hc j (by simpa using hj);rw[Nat.zero_add,this]
 simp
theorem q00{size seq half used:Int}{A1 A2:Option Addr}{n1 c1 n2 c2:Nat}(s0:0<=size) (s1:size<=1000000) (b0:0<=used) (b1:used<=1000000) (hn:n<=1000) (hq:0<=seq/\seq<=2147483647) (hf:qV size<used+n\/seq=2147483647) :
  Calls Tryz.prog 64 #[.agg #[.int .i64 size,.int .i64 seq,.int .i64 half,.int .i64 used,.slice A1 n1 c1,.slice A2 n2 c2],.slice A n c] w (q1d w):=by
 obtain⟨h,hh⟩:=qf (qV size);have hb:=yF s0 s1;rw[<-hh.out] at hb hf;obtain⟨R,hR⟩:=qf (q1d w);rw[<-hR.out];have HH:Hid (∀w,Calls Tryz.prog 103 #[.int .i64 size] w (qH w (.int .i64 h))):=fun w=>by rw[hh.out];exact Z9 s0 s1 w
 go_enter Tryz.func64,Tryz.ntmps64;go_upto_region 1 with (fail);refine zu ?_;intro W hE hsz B0 B1;obtain⟨p0,p1,p2,p3,p4,p5⟩:=qw B0;have HX:=q_h hE;have HB1:=q_h B1;have hwr:IntKind.i64.wrap (used+(n:Int))=used+n:=wrp (by omega) (by omega)
 by_cases hlt:h<used+n
 ·have d1:decide (h<used+(n:Int))=true:=q_t hlt;have eC:=(Ext.refl W).drew;refine ql (fun w'=>w'.cell? ⟨w.heap.size,0,none⟩=some (.int .i64 size)/\w'.cell? ⟨w.heap.size,1,none⟩=some (.int .i64 seq)/\w'.cell? ⟨w.heap.size,3,none⟩=some (.int .i64 used)) [] (by kernel_rfl) (by exact⟨eC.cell p0,eC.cell p1,eC.cell p3⟩) (fun hHeld=>?_);refine sP 0 (h:=?_);refine sT 1 (h:=?_);refine sP 2 (h:=?_);refine sP 3 (h:=?_);refine sP 4 (h:=?_);refine sP 5 (h:=?_);refine sT 6 (h:=?_);refine qg (i:=7) rfl (by kernel_rfl) (fun K hK=>?_);go_simp;refine (HH.out _).mono ?_;rintro e w3 ⟨rfl,e3⟩;replace eC:=eC.trans e3;go_wp2_with fail;clear hHeld;refine hK.out _ _ (by exact⟨eC.cell p0,eC.cell p1,eC.cell p3⟩) fun hHeld=>?_
  clear hK K;try simp only[nr]
  refine sP 8 (h:=?_);refine sP 9 (h:=?_);refine sF 10 (h:=?_);refine sF 11 (h:=?_);refine sF 12 (h:=?_);refine sP 13 (h:=?_);refine qm (by kernel_rfl) ?_ _;clear hHeld;have HB2:=q_h (e3.block HB1.out);have HX3:=q_h (HX.out.trans eC);clear eC e3 p0 p1 p2 p3 p4 p5 B0 B1 hE;go_upto_region 2 with (fail);refine wp_region_lit ?_;refine wpList_plain rfl (fun K hK=>?_);go_simp;refine hK _ _ ?_;clear hK K;try simp only[nr]
  refine qh rfl 25 _ _ rfl (by rfl) (by rfl) HB2.out qJ (by rfl) (by rfl) (by rfl) ?_;intro w9 B9 U9;obtain⟨x0,x1,x2,x3,x4,x5⟩:=qw B9;go_wp2;refine bodyPost_ret (v:=.tuple #[zSh,.slice none 0 0,.int .i64 17]) ?_ rfl ?_
  ·simp[results,x0,x1,x2,x3,x4,x5,go_sem,zSh]
  ·rw[hR.out];exact⟨rfl,(U9.chg (NoU.mk HB2.out (by decide))).ext HX3.out (by omega)⟩
 ·have d1:decide (h<used+(n:Int))=false:=q_f hlt;have hs:seq=2147483647:=by omega
  have e1:(seq == 2147483647)=true:=by rw[hs];rfl
  have e2:decide (seq=2147483647)=true:=q_t hs;have eC:=(Ext.refl W).drew;refine ql (fun w'=>w'.cell? ⟨w.heap.size,0,none⟩=some (.int .i64 size)/\w'.cell? ⟨w.heap.size,1,none⟩=some (.int .i64 seq)/\w'.cell? ⟨w.heap.size,3,none⟩=some (.int .i64 used)) [] (by kernel_rfl) (by exact⟨eC.cell p0,eC.cell p1,eC.cell p3⟩) (fun hHeld=>?_);refine sP 0 (h:=?_);refine sT 1 (h:=?_);refine sP 2 (h:=?_);refine sP 3 (h:=?_);refine sP 4 (h:=?_);refine sP 5 (h:=?_);refine sT 6 (h:=?_);refine qg (i:=7) rfl (by kernel_rfl) (fun K hK=>?_);go_simp;refine (HH.out _).mono ?_;rintro e w3 ⟨rfl,e3⟩;replace eC:=eC.trans e3;go_wp2_with fail;clear hHeld;refine hK.out _ _ (by exact⟨eC.cell p0,eC.cell p1,eC.cell p3⟩) fun hHeld=>?_
  clear hK K;try simp only[nr]
  refine sP 8 (h:=?_);refine sP 9 (h:=?_);refine sP 10 (h:=?_);refine sT 11 (h:=?_);refine sP 12 (h:=?_);refine sP 13 (h:=?_);refine qm (by kernel_rfl) ?_ _;clear hHeld;have HB2:=q_h (e3.block HB1.out);have HX3:=q_h (HX.out.trans eC);clear eC e3 p0 p1 p2 p3 p4 p5 B0 B1 hE;go_upto_region 2 with (fail);refine wp_region_lit ?_;refine wpList_plain rfl (fun K hK=>?_);go_simp;refine hK _ _ ?_;clear hK K;try simp only[nr]
  refine qh rfl 25 _ _ rfl (by rfl) (by rfl) HB2.out qJ (by rfl) (by rfl) (by rfl) ?_;intro w9 B9 U9;obtain⟨x0,x1,x2,x3,x4,x5⟩:=qw B9;go_wp2;refine bodyPost_ret (v:=.tuple #[zSh,.slice none 0 0,.int .i64 17]) ?_ rfl ?_
  ·simp[results,x0,x1,x2,x3,x4,x5,go_sem,zSh]
  ·rw[hR.out];exact⟨rfl,(U9.chg (NoU.mk HB2.out (by decide))).ext HX3.out (by omega)⟩
theorem qF {ops:Array Oper}{o:Oper}{a:Act}{K:Act->World->Prop}{Q:Exit->Act->World->Prop}{E:Prop}(hgd:o.guard=none) (ty:TypeId) (x y:Operand) (ho:o.op=.store ty x y){cs old:Array Value}{t:TypeId}(hx:a.eval x=.pointer (some ⟨g,0,none⟩)) (hy:a.eval y=.agg cs)
  (hg:w.heap[g]?=some (.cells old t (0,0))){sz:Nat}(hi:(Tryz.prog.info? ty).map (·.size)=some sz) (hsz:cs.size=sz) (hold:old.size=cs.size) (h1:cs.toList.all (·.oneCell')=true)
  (h:∀w',w'.heap[g]?=some (.cells cs t (0,0))->Upd g w w'->K (a.put o.dst undef) w') :
  if Region.wanted o (yielded ops a.tmps)=true then Oper.wp Tryz.prog o a w K Q else E:=by
 have hw:Region.wanted o (yielded ops a.tmps)=true:=by simp[Region.wanted,hgd]
 rw[if_pos hw];exact wp_store_row ty x y ho g _ hx hy t _ hg (by rw[hsz];exact hi) hold (by rw[<-Array.all_toList];exact h1) (h _ (setRow_heap w g old cs t (0,0) hg) ⟨rfl,rfl,rfl,by simp[World.setRow],fun k hk=>setRow_other w g k cs hk⟩)
theorem ByV.u_page{q:Nat}{l:Byt}(h:PgB w q l) (hl:l.length=64):ByU w (.slice (some ⟨q,0,none⟩) 64 64) l:=h.u64 hl
def shY (size seq half used:Int) (n:Nat) (X Y:Value):Value:=.agg #[.int .i64 size,.int .i64 (seq+1),.int .i64 half,.int .i64 (used+n),X,Y]
theorem WZ {b0:Nat}{size seq half used:Int}{A1 A2:Option Addr}{n1 c1 n2 c2:Nat}{P:Nat->Byt}(s0:0<=size) (s1:size<=1000000) (d0:0<=used) (hn:n<=1000) (hq0:0<=seq) (hq:seq<2147483647) (hf:used+n<=qV size) (hh0:0<=half) (hh1:half<=1)
  (hP:PgL b0 w (.slice A n c) n P) (hP6:∀j,j<n->(P j).length=64) :
  Calls Tryz.prog 64 #[.agg #[.int .i64 size,.int .i64 seq,.int .i64 half,.int .i64 used,.slice A1 n1 c1,.slice A2 n2 c2],.slice A n c] w (q1c w (shY size seq half used n (.slice A1 n1 c1) (.slice A2 n2 c2)) (n+3) (vT n (fun j=>⟨2+half*qV size+used+j,P j,false⟩) (Zr (seq+1) half (used+n)))):=by
 have HPG:=q_h hP;have HP6:=q_h hP6;obtain⟨h,hh⟩:=qf (qV size);have hb:=yF s0 s1;rw[<-hh.out] at hb hf ⊢;obtain⟨R,hR⟩:=qf (q1c w (shY size seq half used n (.slice A1 n1 c1) (.slice A2 n2 c2)) (n+3) (vT n (fun j=>⟨2+half*h+used+j,P j,false⟩) (Zr (seq+1) half (used+n))));rw[<-hR.out];have HH:Hid (∀w,Calls Tryz.prog 103 #[.int .i64 size] w (qH w (.int .i64 h))):=fun w=>by rw[hh.out];exact Z9 s0 s1 w
 obtain⟨m,hm⟩:=qf (half*h)
 have hmb:0<=m/\m<=1000000:=by
  rw[hm.out];have:half=0\/half=1:=by omega
  rcases this with e|e<;>rw[e]<;>omega
 have HPF:Hid ((fun j:Nat=>(⟨2+half*h+used+j,P j,false⟩:qX))=fun j=>⟨2+m+used+j,P j,false⟩):=by rw[Hid,hm.out]
 rw[HPF.out] at hR;have hm2:half*h=m:=hm.out.symm;have hw0:IntKind.i64.wrap m=m:=wrp (by omega) (by omega);have hw1:IntKind.i64.wrap (2+m)=2+m:=wrp (by omega) (by omega);have hw2:IntKind.i64.wrap (2+m+used)=2+m+used:=wrp (by omega) (by omega);have hwr:IntKind.i64.wrap (used+(n:Int))=used+n:=wrp (by omega) (by omega);have hw3:IntKind.i64.wrap (seq+1)=seq+1:=wrp (by omega) (by omega);have HPS:Hid (0<=half/\half<256/\0<=seq+1/\seq+1<4294967296/\0<=used+n/\used+n<4294967296):=by rw[Hid];omega
 clear hP hP6;go_enter Tryz.func64,Tryz.ntmps64;go_upto_region 1 with (fail);refine zu ?_;intro W hE hsz B0 B1;obtain⟨p0,p1,p2,p3,p4,p5⟩:=qw B0;have HX:=q_h hE;have HB1:=q_h B1;have HB0:=q_h B0;have d1:decide (h<used+(n:Int))=false:=q_f (by omega);have e1:(seq == 2147483647)=false:=by simp;omega
 have e2:decide (seq=2147483647)=false:=q_f (by omega);have eC:=(Ext.refl W).drew;refine ql (fun w'=>w'.cell? ⟨w.heap.size,0,none⟩=some (.int .i64 size)/\w'.cell? ⟨w.heap.size,1,none⟩=some (.int .i64 seq)/\w'.cell? ⟨w.heap.size,3,none⟩=some (.int .i64 used)) [] (by kernel_rfl) (by exact⟨eC.cell p0,eC.cell p1,eC.cell p3⟩) (fun hHeld=>?_);refine sP 0 (h:=?_);refine sT 1 (h:=?_);refine sP 2 (h:=?_);refine sP 3 (h:=?_);refine sP 4 (h:=?_);refine sP 5 (h:=?_);refine sT 6 (h:=?_);refine qg (i:=7) rfl (by kernel_rfl) (fun K hK=>?_);go_simp;refine (HH.out _).mono ?_;rintro e w3 ⟨rfl,e3⟩;replace eC:=eC.trans e3;go_wp2_with fail;clear hHeld;refine hK.out _ _ (by exact⟨eC.cell p0,eC.cell p1,eC.cell p3⟩) fun hHeld=>?_
 clear hK K;try simp only[nr]
 refine sP 8 (h:=?_);refine sP 9 (h:=?_);refine sP 10 (h:=?_);refine sT 11 (h:=?_);refine sP 12 (h:=?_);refine sP 13 (h:=?_);refine qm (by kernel_rfl) ?_ _;clear hHeld;have HB03:=q_h (e3.block HB0.out);have HB13:=q_h (e3.block HB1.out);have HX3:=q_h (HX.out.trans eC);have HA3:Hid (zG w.heap.size w3 (.slice none 0 0) 0 (fun j=>⟨2+m+used+j,P j,false⟩)):=⟨fun _=>.int .i64 0,⟨HX3.out.size,rfl,.inl ⟨rfl,rfl⟩⟩,fun j hj=>by omega⟩
 clear eC e3 p0 p1 p2 p3 p4 p5 B0 B1 hE HB0 HB1;go_wp2_with fail
 go_loopw [27,7] (fun iv ov wr=>∃(i:Nat) (A':Option Addr) (c':Nat),i<=n/\iv=.int .i64 (i:Int)/\ov=.slice A' i c'/\Hid (zG w.heap.size wr (.slice A' i c') i (fun j=>⟨2+m+used+j,P j,false⟩))/\Hid (Ext w wr)/\Hid (wr.heap[w.heap.size]?=some (.cells #[.int .i64 size,.int .i64 seq,.int .i64 half,.int .i64 used,.slice A1 n1 c1,.slice A2 n2 c2] 25 (0,0)))/\Hid (wr.heap[w.heap.size+1]?=some (.cells #[.int .i64 0,.int .i64 0,.int .i64 0,.int .i64 0,.slice none 0 0,.slice none 0 0] 25 (0,0)))) (fun iv _ _=>n-(intOf iv).toNat)
 case atStart=>exact⟨0,none,0,Nat.zero_le _,rfl,rfl,HA3,HX3,HB03,HB13⟩
 case round =>
  clear HA3 HX3 HB03 HB13;obtain⟨i,A',c',hi9,rfl,rfl,HAI,HXI,HBI,HBJ⟩:=hrel
  by_cases hlt:i<n
  case neg =>
   obtain rfl:i=n:=by omega
   have u3:decide ((i:Int)<(i:Int))=false:=q_f (by omega);obtain⟨q0,q1,q2,q3,q4,q5⟩:=qw HBI.out;obtain⟨wa,Ea,Ba,Ua⟩:=qL HBI.out 3 (.int .i64 (used+i));obtain⟨wb,Eb,Bb,Ub⟩:=qL Ba 1 (.int .i64 (seq+1));have f3:=qp HBI.out 3;have f1:=qp Ba 1;have r1:wa.cell? ⟨w.heap.size,1,none⟩=some (.int .i64 seq):=(qj Ba 1).trans rfl;have HBB:Hid (wb.heap[w.heap.size]?=some (.cells #[.int .i64 size,.int .i64 (seq+1),.int .i64 half,.int .i64 (used+i),.slice A1 n1 c1,.slice A2 n2 c2] 25 (0,0))):=Bb;have HBC:Hid (wb.heap[w.heap.size+1]?=some (.cells #[.int .i64 0,.int .i64 0,.int .i64 0,.int .i64 0,.slice none 0 0,.slice none 0 0] 25 (0,0))):=(Ub.block _ (by omega)).trans ((Ua.block _ (by omega)).trans HBJ.out);have Ca:=Ua.chg (NoU.mk HBI.out (by decide));have Cb:=Ub.chg (NoU.mk Ba (by decide));have HXB:Hid (Ext w wb):=Cb.ext (Ca.ext HXI.out (q_r)) (q_r);have HAB:Hid (zG w.heap.size wb (.slice A' i c') i (fun j=>⟨2+m+used+j,P j,false⟩)):=(HAI.out.upd Ua HBI.out (by decide) (by decide)).upd Ub Ba (by decide) (by decide);clear Ca Cb Bb Ub Ba Ua HAI HXI;go_upto_region 11 with (fail);clear f3 f1 r1 Ea Eb q0 q1 q2 q3 q4 q5;obtain⟨q0,q1,q2,q3,q4,q5⟩:=qw HBB.out;obtain⟨wq,hwq⟩:∃wq,wq=wb:=⟨_,rfl⟩
   subst hwq;have HC0:Hid (Ext wq wq.drew):=(Ext.refl wq).drew;clear q0 q1 q2 q3 q4 q5;have eC:=HC0.out.block HBB.out;refine ql (fun w'=>w'.heap[w.heap.size]?=some (.cells #[.int .i64 size,.int .i64 (seq+1),.int .i64 half,.int .i64 (used+i),.slice A1 n1 c1,.slice A2 n2 c2] 25 (0,0))) [17,18,19] (by kernel_rfl) (by exact eC) (fun hHeld=>?_);refine sT 0 (hy:=by (intro w9 hSw;have c9:=qw hSw;go_simp;(try (rw[if_pos (by omega)]));(try with_reducible rfl))) (h:=?_);refine sP 1 (h:=?_);refine sP 2 (h:=?_);refine sP 3 (h:=?_);refine sT 4 (hy:=by (intro w9 hSw;have c9:=qw hSw;go_simp;(try (rw[if_pos (by omega)]));(try with_reducible rfl))) (h:=?_);refine sP 5 (h:=?_);refine sP 6 (h:=?_);refine sT 7 (hy:=by (intro w9 hSw;have c9:=qw hSw;go_simp;(try (rw[if_pos (by omega)]));(try with_reducible rfl))) (h:=?_);refine sP 8 (h:=?_);refine sT 9 (hy:=by (intro w9 hSw;have c9:=qw hSw;go_simp;(try (rw[if_pos (by omega)]));(try with_reducible rfl))) (h:=?_);refine sP 10 (h:=?_);refine sT 11 (hy:=by (intro w9 hSw;have c9:=qw hSw;go_simp;(try (rw[if_pos (by omega)]));(try with_reducible rfl))) (h:=?_);refine sP 14 (h:=?_);refine qg (i:=12) rfl (by kernel_rfl) (fun K hK=>?_);go_simp;refine (Qp HPS.out.2.2.1 HPS.out.2.2.2.1 HPS.out.1 HPS.out.2.1 HPS.out.2.2.2.2.1 HPS.out.2.2.2.2.2).mono ?_;rintro e w5 ⟨v5,rfl,hB5,e5⟩;obtain⟨A5,c5,rfl,-⟩:=hB5.1.form
   have HB5:=q_h hB5;have HC5:=q_h (HC0.out.trans e5);replace eC:=e5.block eC;clear hB5;go_wp2_with fail;clear hHeld;refine hK.out _ _ (by exact eC) fun hHeld=>?_
   clear hK K;try simp only[nr]
   refine sP 13 (h:=?_);refine qg (i:=15) rfl (by kernel_rfl) (fun K hK=>?_);go_simp
   first|refine qo ?_|refine qY ?_
   intro w6 e6 hsz6 BJ;replace eC:=e6.block eC;have HE6:=q_h (HC5.out.trans e6);have HB6:=q_h (HB5.out.ext e6);clear hHeld;refine hK.out _ _ (by exact eC) fun hHeld=>?_
   clear hK K;try simp only[nr]
   refine qg (i:=16) rfl (by kernel_rfl) (fun K hK=>?_);obtain⟨D,hD,hDB⟩:=(HAB.out.ext HE6.out)
   refine zl yI rfl _ _ 33 Tryz.underlying33 rfl (by rfl) hD (by rfl) (m:=3) (c:=3) (news:=[.int .i64 0,.slice none 0 0,.bool true,.int .i64 ((seq+1).tmod 2),.slice A5 (jq (seq+1) half (used+i)).length c5,.bool false,.int .i64 0,.slice none 0 0,.bool true]) rfl (fun j u hj=>(zq BJ j).trans (by simpa using hj)) (by simp[Value.oneCell']) (by omega) ?_;rintro v7 w7 hG7 - ⟨g7,hg7,hw7,C7⟩;have hA7:zG w.heap.size w7 v7 (i+3) (vT i (fun j=>⟨2+m+used+j,P j,false⟩) (Zr (seq+1) half (used+i))):=zG.three hD hDB (nilU _) HB6.out (nilU _) hG7 hw7 C7;have HA7:=q_h hA7;have HX7:Hid (Ext w w7):=C7.ext (HXB.out.trans HE6.out) hg7;have HC7:=q_h (C7.blk (HE6.out.block HBC.out) (by have:=qI.ne hD hw7 (HE6.out.block HBC.out) (by decide);omega));replace eC:=C7.blk eC (by have:=qI.ne hD hw7 eC (by decide);omega);clear hA7 hG7 hw7 C7 hD hDB BJ;clear hHeld;refine hK.out _ _ (by exact eC) fun hHeld=>?_
   clear hK K;try simp only[nr]
   refine qC (i:=17) rfl (by kernel_rfl) (by kernel_rfl) (fun K hK=>?_);refine qF rfl 25 _ _ rfl (by rfl) (by rfl) HC7.out qJ (by rfl) (by rfl) (by rfl) ?_;intro w9 B9 U9;refine hK.out _ _ ?_;clear hK K;try simp only[nr]
   refine qC (i:=18) rfl (by kernel_rfl) (by kernel_rfl) (fun K hK=>?_);go_simp;refine hK.out _ _ ?_;clear hK K;try simp only[nr]
   refine qC (i:=19) rfl (by kernel_rfl) (by kernel_rfl) (fun K hK=>?_);go_simp;refine hK.out _ _ ?_;clear hK K;try simp only[nr]
   refine qm (by kernel_rfl) ?_ _;clear hHeld;clear eC e5 e6;obtain⟨x0,x1,x2,x3,x4,x5⟩:=qw B9;obtain⟨A7,c7,rfl,-⟩:=HA7.out.form;go_wp2;refine bodyPost_ret (v:=.tuple #[shY size seq half used i (.slice A1 n1 c1) (.slice A2 n2 c2),.slice A7 (i+3) c7,.int .i64 0]) ?_ rfl ?_
   ·simp[results,x0,x1,x2,x3,x4,x5,go_sem,shY]
   ·rw[hR.out];exact⟨_,rfl,HA7.out.upd U9 HC7.out (by decide) (by decide),(U9.chg (NoU.mk HC7.out (by decide))).ext HX7.out (by omega)⟩
  have u3:decide ((i:Int)<(n:Int))=true:=q_t (by omega);have u4:(i:Int)<(n:Int):=by omega
  have hw4:IntKind.i64.wrap (2+m+used+(i:Int))=2+m+used+i:=wrp (by omega) (by omega);obtain⟨g,off,rfl,hx⟩:=(HPG.out.ext HXI.out).addr (by omega);obtain⟨q,k0,hq6⟩:=hx i hlt;have HQ6:=q_h (ByV.u_page hq6 (HP6.out i hlt));obtain⟨q0,q1,q2,q3,q4,q5⟩:=qw HBI.out;obtain⟨wq,hwq⟩:∃wq,wq=wr:=⟨_,rfl⟩
  subst hwq;clear hx hq6;go_upto_region 7 with (fail);have eC:=(Ext.refl wq).drew;refine ql (fun w'=>w'.cell? ⟨w.heap.size,0,none⟩=some (.int .i64 size)/\w'.cell? ⟨w.heap.size,2,none⟩=some (.int .i64 half)/\w'.cell? ⟨w.heap.size,3,none⟩=some (.int .i64 used)) [16,17] (by kernel_rfl) (by exact⟨eC.cell q0,eC.cell q2,eC.cell q3⟩) (fun hHeld=>?_);refine sP 0 (h:=?_);refine sP 1 (h:=?_);refine sT 2 (h:=?_);refine sP 3 (h:=?_);refine sT 4 (h:=?_);refine sP 8 (h:=?_);refine sT 9 (h:=?_);refine sP 11 (h:=?_);refine sP 13 (h:=?_);refine qg (i:=5) rfl (by kernel_rfl) (fun K hK=>?_);go_simp;refine (HH.out _).mono ?_;rintro e w5 ⟨rfl,e5⟩;replace eC:=eC.trans e5;go_wp2_with fail;clear hHeld;refine hK.out _ _ (by exact⟨eC.cell q0,eC.cell q2,eC.cell q3⟩) fun hHeld=>?_
  clear hK K;try simp only[nr]
  refine sP 6 (h:=?_);refine sP 7 (h:=?_);refine sP 10 (h:=?_);refine sP 12 (h:=?_);refine sP 14 (h:=?_);refine qg (i:=15) rfl (by kernel_rfl) (fun K hK=>?_);go_simp
  first|refine qo ?_|refine qY ?_
  intro w6 e6 hsz6 BJ;replace eC:=eC.trans e6;have HE6:=q_h eC;clear hHeld;refine hK.out _ _ (by exact⟨eC.cell q0,eC.cell q2,eC.cell q3⟩) fun hHeld=>?_
  clear hK K;try simp only[nr]
  refine qC (i:=16) rfl (by kernel_rfl) (by kernel_rfl) (fun K hK=>?_);obtain⟨D,hD,hDB⟩:=(HAI.out.ext HE6.out)
  refine zl yI rfl _ _ 33 Tryz.underlying33 rfl (by rfl) hD (by rfl) (m:=1) (c:=1) (news:=[.int .i64 (2+m+used+i),.slice (some ⟨q,0,none⟩) 64 64,.bool false]) rfl (fun j u hj=>(zq BJ j).trans (by simpa using hj)) (by simp[Value.oneCell']) (by omega) ?_;rintro v7 w7 hG7 - ⟨g7,hg7,hw7,C7⟩;have hA7:zG w.heap.size w7 v7 (i+1) (fun j=>⟨2+m+used+j,P j,false⟩):=zG.snoc hD hDB (HQ6.out.ext HE6.out) hG7 hw7 C7;obtain⟨A7,c7,rfl,-⟩:=hA7.form;have HA7:=q_h hA7;have HX7:Hid (Ext w w7):=C7.ext (HXI.out.trans HE6.out) hg7;have HB7:=q_h (C7.blk (HE6.out.block HBI.out) (by have:=qI.ne hD hw7 (HE6.out.block HBI.out) (by decide);omega));have HBJ7:=q_h (C7.blk (HE6.out.block HBJ.out) (by have:=qI.ne hD hw7 (HE6.out.block HBJ.out) (by decide);omega));clear hA7 hG7 hw7 C7 hD hDB BJ;refine hK.out _ _ ?_;clear hK K;try simp only[nr]
  refine qC (i:=17) rfl (by kernel_rfl) (by kernel_rfl) (fun K hK=>?_);go_simp;refine hK.out _ _ ?_;clear hK K;try simp only[nr]
  refine qm (by kernel_rfl) ?_ _;clear hHeld;clear eC e5 e6 q0 q1 q2 q3 q4 q5 k0 hw4;go_wp2;go_roundw
  case rel=>exact⟨i+1,A7,c7,by omega,by go_num,rfl,HA7,HX7,HB7,HBJ7⟩
  case measure=>simp[intOf];omega
end Go.Proofs.YtdeeekdbhhenpaaGreatDoor
