import Derived.Test.YtdeeekdbhhenpaaGreatDoorWc08
set_option linter.all false
set_option maxHeartbeats 8000000
set_option maxRecDepth 100000
namespace Go.Proofs.YtdeeekdbhhenpaaGreatDoor
variable {w w':World} {n k g base c b j:Nat} {v:Value} {A:Option Addr}
section
open Go.RowKit
def StU (w:World) (v:Value) (l:List Byt):Prop:=qZ w v l/\∀g,v.ownBlock=some g->∃cs fr,w.heap[g]?=some (.cells cs 9 fr)
theorem StU.ext{l:List Byt}(h:StU w v l) (e:Ext w w'):StU w' v l:=⟨h.1.ext e,fun g hg=>by
 obtain⟨cs,fr,h1⟩:=h.2 g hg
 exact⟨cs,fr,e.block h1⟩⟩
theorem GrS.u{l:List Byt}(h:GrS base w v l):StU w v l:=by
 refine⟨h.strs,fun g hg=>?_⟩
 rcases h.2.2 with ⟨rfl,h0⟩|⟨g0,cap,cur,rfl,hb,hh,-⟩
 ·simp[Value.ownBlock] at hg
 ·obtain rfl:g0=g:=by simpa[Value.ownBlock] using hg
  exact⟨_,_,hh⟩
def KpT (w w':World):Prop:=∀(k:Nat) (cs:Array Value) (t:TypeId) (fr:Nat×Nat),w.heap[k]?=some (Obj.cells cs t fr)->t≠99->t≠29->w'.heap[k]?=some (Obj.cells cs t fr)
theorem KpT.ext(e:Ext w w'):KpT w w':=fun k cs t fr h _ _=>e.block h
theorem KpT.trans {a b c:World}(h:KpT a b) (k:KpT b c):KpT a c:=fun i cs t fr h0 h1 h2=>k i cs t fr (h i cs t fr h0 h1 h2) h1 h2
theorem KpT.chg(C:Chg g (g+1) w w'){o:Obj}(hb:w.heap[g]?=some o\/w.heap.size<=g) (ht:∀cs t fr,o=.cells cs t fr->t=99\/t=29):KpT w w':=fun k cs t fr h h1 h2=>by
 refine C.blk h ?_
 have hne:k≠g:=by
  rintro rfl
  rcases hb with hb|hb
  ·rw[h] at hb;injection hb with hb
   rcases ht cs t fr hb.symm with e|e
   ·exact h1 e
   ·exact h2 e
  ·have:=qK h;omega
 omega
theorem StU.kp{l:List Byt}(h:StU w v l) (e:KpT w w'):StU w' v l:=by
 have hk:∀q,v.ownBlock=some q->w'.heap[q]?=w.heap[q]?:=fun q hq=>by
  obtain⟨cs,fr,h1⟩:=h.2 q hq;rw[h1];exact e q cs _ fr h1 (by decide) (by decide)
 refine⟨?_,fun q hq=>?_⟩
 ·obtain⟨A,c,rfl,h1,h2,h3⟩:=h.1;refine⟨A,c,rfl,h1,h2,fun hn=>?_⟩;obtain⟨b,off,rfl,h4⟩:=h3 hn;refine⟨b,off,rfl,fun i hi=>?_⟩;obtain⟨x,h5,h6⟩:=h4 i hi;exact⟨x,by rw[World.cell?_of_block (w:=w) (hk b rfl)];exact h5,h6⟩
 ·obtain⟨cs,fr,h1⟩:=h.2 q hq;exact⟨cs,fr,(hk q hq).trans h1⟩
theorem ByU.kp{l:Byt}(h:ByU w v l) (e:KpT w w'):ByU w' v l:=by
 have hk:∀q,v.ownBlock=some q->w'.heap[q]?=w.heap[q]?:=fun q hq=>by
  obtain⟨cs,fr,h1⟩:=h.2 q hq;rw[h1];exact e q cs _ fr h1 (by decide) (by decide)
 refine⟨?_,fun q hq=>?_⟩
 ·obtain⟨A,c,rfl,h1,h2,h3⟩:=h.1;refine⟨A,c,rfl,h1,h2,fun hn=>?_⟩;obtain⟨b,off,rfl,h4⟩:=h3 hn;exact⟨b,off,rfl,fun i hi=>by rw[World.cell?_of_block (w:=w) (hk b rfl)];exact h4 i hi⟩
 ·obtain⟨cs,fr,h1⟩:=h.2 q hq;exact⟨cs,fr,(hk q hq).trans h1⟩
theorem q1N:Cls 29 2 (.agg #[.slice none 0 0,.slice none 0 0]) 48:=⟨by kernel_rfl,rfl,by omega,by omega,by omega,by decide⟩
def obX (X Y:Nat->Value) (i:Nat):List Value:=(List.range i).flatMap fun j=>[X j,Y j]
theorem xq (X Y:Nat->Value):∀n,(obX X Y n).length=n*2
 | 0=>rfl
 | n+1=>by
  have:=xq X Y n;unfold obX at this ⊢;rw[List.range_succ,List.flatMap_append,List.length_append,this]
  simp
  omega
theorem vI (X Y:Nat->Value) (i:Nat):obX X Y (i+1)=obX X Y i ++ [X i,Y i]:=by
 unfold obX;rw[List.range_succ,List.flatMap_append]
 simp
theorem Kq {X X' Y Y':Nat->Value}(h:∀j,j<n->X j=X' j/\Y j=Y' j):obX X Y n=obX X' Y' n:=by
 unfold obX List.flatMap;rw[List.map_congr_left (fun j hj=>?_)];rw[(h j (List.mem_range.1 hj)).1,(h j (List.mem_range.1 hj)).2]
theorem yC (X Y:Nat->Value) (q:Nat) (hq:q<2):∀n i,i<n->(obX X Y n)[i*2+q]?=[X i,Y i][q]?
 | n+1,i,h=>by
  rw[vI]
  by_cases h2:i<n
  ·rw[List.getElem?_append_left (by rw[xq];omega)];exact yC X Y q hq n i h2
  ·obtain rfl:i=n:=by omega
   rw[List.getElem?_append_right (by rw[xq];omega),xq,Nat.add_sub_cancel_left]
def ObG (base:Nat) (w:World) (v:Value) (L:List Ob):Prop:=∃X Y:Nat->Value,qI 29 2 base w v L.length (obX X Y L.length)/\∀j,j<L.length->StU w (X j) (L.getD j default).links/\ByU w (Y j) (L.getD j default).data
theorem ObG.ext{L:List Ob}(h:ObG base w v L) (e:Ext w w'):ObG base w' v L:=by
 obtain⟨X,Y,h1,h2⟩:=h;exact⟨X,Y,h1.ext e,fun j hj=>⟨(h2 j hj).1.ext e,(h2 j hj).2.ext e⟩⟩
theorem ObG.form{L:List Ob}(h:ObG base w v L):∃A c,v=.slice A L.length c/\L.length<=c/\c<=maxLen:=by
 obtain⟨X,Y,h1,-⟩:=h
 rcases h1.2.2 with ⟨h4,h5⟩|⟨g,cap,cur,hv,hb,-,h4,h5,-⟩
 ·exact⟨none,0,by rw[h5];exact h4,by omega,Nat.zero_le _⟩
 ·exact⟨_,cap,hv,h4,h5⟩
theorem ObG.obs{L:List Ob}(h:ObG base w v L):yJ w v L:=by
 obtain⟨A,c,hv,hnc,hcm⟩:=h.form;obtain⟨X,Y,h1,h2⟩:=h;refine⟨A,c,hv,hnc,hcm,fun h0=>?_⟩;obtain⟨g,cap,hv2,hb,-,-,hcell⟩:=h1.at_ h0;rw[hv] at hv2;injection hv2 with e1 e2 e3
 refine⟨g,0,e1,fun i hi=>?_⟩
 have hc:∀q,q<2->∀u,[X i,Y i][q]?=some u->w.cell? ⟨g,0+i*2+q,none⟩=some u:=fun q hq u hu=>by
  rw[Nat.zero_add];exact hcell _ u ((yC X Y q hq _ i hi).trans hu)
 exact⟨_,_,hc 0 (by omega) _ rfl,hc 1 (by omega) _ rfl,(h2 i hi).1.1,(h2 i hi).2.1⟩
theorem ObG.own_lt{L:List Ob}(h:ObG base w v L):∀k,v.ownBlock=some k->base<=k/\k<w.heap.size:=by
 obtain⟨X,Y,h1,-⟩:=h;exact h1.own_lt
theorem Zf {α:Type}{d:α}{L:List α}{o:α}:(L ++ [o]).getD j d=if j<L.length then L.getD j d else if j=L.length then o else d:=by
 by_cases h:j<L.length
 ·rw[if_pos h,List.getD_eq_getElem?_getD,List.getD_eq_getElem?_getD,List.getElem?_append_left h]
 ·rw[if_neg h,List.getD_eq_getElem?_getD,List.getElem?_append_right (by omega)]
  by_cases h2:j=L.length
  ·rw[if_pos h2,h2,Nat.sub_self];rfl
  ·rw[if_neg h2,List.getElem?_eq_none (by simp;omega)];rfl
theorem ObG.snoc{v':Value}{L:List Ob}{o:Ob}{X Y:Nat->Value}{x y:Value}(hE:∀j,j<L.length->StU w (X j) (L.getD j default).links/\ByU w (Y j) (L.getD j default).data) (hx:StU w x o.links) (hy:ByU w y o.data)
  (hG':qI 29 2 base w' v' (L.length+1) (obX X Y L.length ++ [x,y])) (K:KpT w w'):ObG base w' v' (L ++ [o]):=by
 refine⟨fun j=>if j=L.length then x else X j,fun j=>if j=L.length then y else Y j,?_,fun j hj=>?_⟩
 ·rw[List.length_append,List.length_singleton,vI]
  show qI _ _ _ _ _ _ (obX (fun j=>if j=L.length then x else X j) (fun j=>if j=L.length then y else Y j) L.length ++ [(if L.length=L.length then x else X L.length),(if L.length=L.length then y else Y L.length)])
  rw[if_pos rfl,if_pos rfl,Kq (X':=X) (Y':=Y) (fun j hj=>⟨by rw[if_neg (by omega)],by rw[if_neg (by omega)]⟩)];exact hG'
 ·rw[List.length_append,List.length_singleton] at hj
  show StU w' (if j=L.length then x else X j) ((L ++ [o]).getD j default).links/\ByU w' (if j=L.length then y else Y j) ((L ++ [o]).getD j default).data
  rw[Zf]
  by_cases h:j=L.length
  ·simp only[if_pos h,if_neg (show ¬j<L.length by omega)];exact⟨hx.kp K,hy.kp K⟩
  ·simp only[if_neg h,if_pos (show j<L.length by omega)];exact⟨(hE j (by omega)).1.kp K,(hE j (by omega)).2.kp K⟩
theorem ObG.chg{L:List Ob}(h:ObG base w v L) (C:Chg g (g+1) w w'){ob:Obj}(hb:w.heap[g]?=some ob) (ht:∀cs t fr,ob=Obj.cells cs t fr->t=99):ObG base w' v L:=by
 have K:KpT w w':=KpT.chg C (.inl hb) (fun cs t fr e=>.inl (ht cs t fr e));obtain⟨X,Y,h1,h2⟩:=h;refine⟨X,Y,⟨q_l h1.1 C.size,h1.2.1,?_⟩,fun j hj=>⟨(h2 j hj).1.kp K,(h2 j hj).2.kp K⟩⟩
 rcases h1.2.2 with h0|⟨g0,cap,cur,hv,hb0,hh,h3⟩
 ·exact .inl h0
 ·refine .inr ⟨g0,cap,cur,hv,hb0,C.blk hh ?_,h3⟩
  have:g0≠g:=by
   rintro rfl;rw[hh] at hb;injection hb with hb
   exact absurd (ht _ _ _ hb.symm) (by decide)
  omega
theorem Jr(C:Chg g (g+1) w w'){es:Array MapEntry}(hm:w.heap[g]?=some (.map es k)){p:Addr}(h:w.cell? p=some v):w'.cell? p=some v:=by
 refine C.cell h ?_
 have:p.block≠g:=by
  intro e;unfold World.cell? at h;rw[e,hm] at h;cases h
 omega
theorem ObR.map{x y:Value}{o:Ob}(h:ObR w x y o) (C:Chg g (g+1) w w'){es:Array MapEntry}(hm:w.heap[g]?=some (.map es k)):ObR w' x y o:=by
 obtain⟨⟨A,c,h1,h2,h3,h4⟩,⟨A',c',h5,h6,h7,h8⟩⟩:=h;refine⟨⟨A,c,h1,h2,h3,fun hn=>?_⟩,⟨A',c',h5,h6,h7,fun hn=>?_⟩⟩
 ·obtain⟨b,off,e,h9⟩:=h4 hn;refine⟨b,off,e,fun i hi=>?_⟩;obtain⟨u,h10,h11⟩:=h9 i hi;exact⟨u,Jr C hm h10,h11⟩
 ·obtain⟨b,off,e,h9⟩:=h8 hn;exact⟨b,off,e,fun i hi=>Jr C hm (h9 i hi)⟩
def mpO:Nat->List Ob->List (Byt×Value)
 | _,[]=>[]
 | i,o :: l=>(qM o,.int .i64 (i:Int)) :: mpO (i+1) l
theorem V4 (o:Ob):∀(l:List Ob) (i:Nat),mpO i (l ++ [o])=mpO i l ++ [(qM o,.int .i64 ((i+l.length:Nat):Int))]
 | [],i=>rfl
 | p :: l,i=>by
  show _ :: mpO (i+1) (l ++ [o])=_ :: (mpO (i+1) l++_)
  rw[V4 o l (i+1),List.length_cons,show i+1+l.length=i+(l.length+1) by omega]
theorem Jc (k:Byt):∀(l:List Ob) (i:Nat),lkM (mpO i l) k=((l.map qM).idxOf? k).map fun j=>.int .i64 ((i+j:Nat):Int)
 | [],i=>rfl
 | p :: l,i=>by
  unfold mpO lkM;rw[List.map_cons,List.idxOf?_cons]
  by_cases h:k=qM p
  ·rw[if_pos h,if_pos (by rw[h];simp)]
   rfl
  ·rw[if_neg h,if_neg (by simpa using fun e:qM p=k=>h e.symm),Jc k l (i+1),Option.map_map];cases (l.map qM).idxOf? k with
   | none=>rfl
   | some j=>show some (Value.int .i64 ((i+1+j:Nat):Int))=some (Value.int .i64 ((i+(j+1):Nat):Int));rw[show i+1+j=i+(j+1) by omega]
theorem zf (l:List Byt) (k:Byt):(l.idxOf? k).isSome=l.contains k:=by
 rw[Bool.eq_iff_iff,List.isSome_idxOf?]
 simp
structure IxB (base b g:Nat) (size seq half used:Int) (v T:Value) (L:List Ob) (w:World):Prop where
 blk:w.heap[b]?=some (.cells #[.int .i64 size,.int .i64 seq,.int .i64 half,.int .i64 used,v,T,.map (some g)] 99 (0,0))
 hb:base<=b
 hg:base<=g
 obs:ObG base w v L
 mp:MpS w g (mpO 0 L)
section
variable {base b g:Nat}{size seq half used:Int}{v T:Value}{L:List Ob}{w w':World}
theorem IxB.ext (h:IxB base b g size seq half used v T L w) (e:Ext w w'):IxB base b g size seq half used v T L w':=⟨e.block h.blk,h.hb,h.hg,h.obs.ext e,h.mp.ext e⟩
theorem IxB.gb (h:IxB base b g size seq half used v T L w):g≠b:=by
 rintro rfl;obtain⟨es,k,h1,-⟩:=h.mp;rw[h.blk] at h1;cases h1
theorem IxB.ob (h:IxB base b g size seq half used v T L w):∀k,v.ownBlock=some k->k≠b/\k≠g:=by
 intro k hk;obtain⟨X,Y,h1,-⟩:=h.obs
 rcases h1.2.2 with ⟨rfl,h0⟩|⟨g0,cap,cur,rfl,hb,hh,-⟩
 ·simp[Value.ownBlock] at hk
 ·obtain rfl:g0=k:=by simpa[Value.ownBlock] using hk
  constructor
  ·rintro rfl;rw[h.blk] at hh;injection hh with hh
   injection hh with e1 e2 e3
   exact absurd e2 (by decide)
  ·rintro rfl;obtain⟨es,k,h2,-⟩:=h.mp;rw[h2] at hh;cases hh
end
structure Frm (b g:Nat) (v:Value) (w w':World):Prop where
 os:w'.os=w.os
 tape:w'.tape=w.tape
 output:w'.output=w.output
 size:w.heap.size<=w'.heap.size
 block:∀k,k<w.heap.size->k≠b->k≠g->v.ownBlock≠some k->w'.heap[k]?=w.heap[k]?
section
variable {b g:Nat}{v v':Value}{a w w' w'':World}
theorem Frm.ext (e:Ext w w'):Frm b g v w w':=⟨e.os,e.tape,e.output,e.size,fun k hk _ _ _=>Below.block e k hk⟩
theorem Frm.chg {q:Nat}(C:Chg q (q+1) w w') (hq:q=b\/q=g\/v.ownBlock=some q\/w.heap.size<=q):Frm b g v w w':=⟨C.os,C.tape,C.output,C.size,fun k hk h1 h2 h3=>C.block k hk (by
 have:k≠q:=by
  rintro rfl
  rcases hq with h|h|h|h
  ·exact h1 h
  ·exact h2 h
  ·exact h3 h
  ·omega
 omega)⟩
theorem Frm.trans (h:Frm b g v w w') (k:Frm b g v' w' w'') (hv:∀q,v'.ownBlock=some q->v.ownBlock=some q\/w.heap.size<=q):Frm b g v w w'' :=
 ⟨k.os.trans h.os,k.tape.trans h.tape,k.output.trans h.output,q_l h.size k.size,fun q hq h1 h2 h3=>(k.block q (Nat.lt_of_lt_of_le hq h.size) h1 h2 (fun e=>by
  rcases hv q e with e|e
  ·exact h3 e
  ·omega)).trans (h.block q hq h1 h2 h3)⟩
theorem Frm.blk (h:Frm b g v w w'){o:Obj}(hk:w.heap[k]?=some o) (h1:k≠b) (h2:k≠g) (h3:v.ownBlock≠some k):w'.heap[k]?=some o:=(h.block k (qK hk) h1 h2 h3).trans hk
theorem Frm.toExt (h:Frm b g v w w') (e:Ext a w) (h1:a.heap.size<=b) (h2:a.heap.size<=g) (h3:∀k,v.ownBlock=some k->a.heap.size<=k):Ext a w' :=
 ⟨h.os.trans e.os,h.tape.trans e.tape,h.output.trans e.output,q_l e.size h.size,fun k hk=>(h.block k (Nat.lt_of_lt_of_le hk e.size) (by omega) (by omega) (fun e'=>by have:=h3 k e';omega)).trans (Below.block e k hk)⟩
end
end
section
open Go.RowKit
theorem q06:(Tryz.prog.info? 29).map (·.size)=some 2:=by kernel_rfl
def q38 (w:World) (o:Ob) (e:Ending) (w':World):Prop:=∃x y,e=.returned (.agg #[x,y])/\GrS w.heap.size w' x o.links/\GrB w.heap.size w' y o.data/\Ext w w'
theorem JK {o:Ob}{x y:Value}(h:ObR w x y o) (ho:Ok0 o):Calls Tryz.prog 128 #[.agg #[x,y]] w (q38 w o):=by
 have HO:=q_h h;have HK:=q_h ho;obtain⟨R,hR⟩:=qf (q38 w o);rw[<-hR.out];obtain⟨A0,c0,rfl,-⟩:=h.1.form;obtain⟨A9,c9,rfl,-⟩:=h.2.form;obtain⟨n0,hn0⟩:=qf o.links.length;obtain⟨n9,hn9⟩:=qf o.data.length;rw[<-hn0.out,<-hn9.out] at HO ⊢;clear h ho;go_enter Tryz.func128,Tryz.ntmps128;go_upto_region 1 with (fail);refine zu ?_;intro W hE hsz B0 B1;obtain⟨p0,p1,-⟩:=cells2 B0;have HB1:=q_h B1;have HX:=q_h hE;have HC0:Hid (Ext W W.drew):=(Ext.refl W).drew;have eC:=(Ext.refl W).drew;refine ql (fun w'=>w'.cell? ⟨w.heap.size,0,none⟩=some (.slice A0 n0 c0)/\w'.cell? ⟨w.heap.size,1,none⟩=some (.slice A9 n9 c9)) [7] (by kernel_rfl) (by exact⟨eC.cell p0,eC.cell p1⟩) (fun hHeld=>?_);refine sP 0 (h:=?_);refine sT 1 (h:=?_);refine sP 3 (h:=?_);refine sT 4 (h:=?_);refine qg (i:=2) rfl (by kernel_rfl) (fun K hK=>?_);go_simp;refine (wM (HO.out.1.ext (hE.trans eC)) (by have:=HK.out.1;omega)).mono ?_;rintro e w3 ⟨v3,rfl,hG3,e3⟩;have HG3:Hid (GrS w.heap.size w3 v3 o.links):=qB.low hG3 (hE.trans eC).size;obtain⟨A3,c3,rfl,-⟩:=hG3.strs.form;replace eC:=eC.trans e3;clear hG3 e3;go_wp2_with fail;clear hHeld;refine hK.out _ _ (by exact⟨eC.cell p0,eC.cell p1⟩) fun hHeld=>?_
 clear hK K;try simp only[nr]
 refine qg (i:=5) rfl (by kernel_rfl) (fun K hK=>?_);go_simp;refine (yh (HO.out.2.ext (hE.trans eC)) (by have:=HK.out.2.1;omega)).mono ?_;rintro e w4 ⟨v4,rfl,hG4,e4⟩;have HG4:Hid (GrB w.heap.size w4 v4 o.data):=qB.low hG4 (hE.trans eC).size;obtain⟨A4,c4,rfl,-⟩:=hG4.by.form
 have HG34:Hid (GrS w.heap.size w4 (.slice A3 o.links.length c3) o.links):=qB.ext HG3.out e4;replace eC:=eC.trans e4;clear hG4 e4;go_wp2_with fail;clear hHeld;refine hK.out _ _ (by exact⟨eC.cell p0,eC.cell p1⟩) fun hHeld=>?_
 clear hK K;try simp only[nr]
 refine sP 6 (h:=?_);refine qC (i:=7) rfl (by kernel_rfl) (by kernel_rfl) (fun K hK=>?_);have HX4:=q_h (hE.trans eC);have HB4:=q_h (eC.block HB1.out);refine qF rfl 29 _ _ rfl (by rfl) (by rfl) HB4.out q06 (by rfl) (by rfl) (by rfl) ?_;intro w9 B9 U9;refine hK.out _ _ ?_;clear hK K;try simp only[nr]
 refine qm (by kernel_rfl) ?_ _;clear hHeld;clear eC p0 p1;obtain⟨x0,x1,-⟩:=cells2 B9;have C9:=U9.chg (NoU.mk HB4.out (by decide))
 have hne:∀ {q:Nat}{cs:Array Value}{t:TypeId}{fr:Nat×Nat},w4.heap[q]?=some (.cells cs t fr)->t≠29->w9.heap[q]?=some (.cells cs t fr):=fun {q cs t fr} h ht=>(U9.block q (by
  rintro rfl;rw[HB4.out] at h;injection h with h
  injection h with e1 e2 e3
  exact ht e2.symm)).trans h
 have hgs:GrS w.heap.size w9 (.slice A3 o.links.length c3) o.links:=by
  refine⟨by rw[U9.size];exact HG34.out.1,HG34.out.2.1,?_⟩
  rcases HG34.out.2.2 with h0|⟨g,cap,cur,hv,hb,hh,h1⟩
  ·exact .inl h0
  ·exact .inr ⟨g,cap,cur,hv,hb,hne hh (by decide),h1⟩
 have hgb:GrB w.heap.size w9 (.slice A4 o.data.length c4) o.data:=by
  refine⟨by rw[U9.size];exact HG4.out.1,HG4.out.2.1,?_⟩
  rcases HG4.out.2.2 with h0|⟨g,cap,cur,hv,hb,hh,h1⟩
  ·exact .inl h0
  ·exact .inr ⟨g,cap,cur,hv,hb,hne hh (by decide),h1⟩
 have HGS:=q_h hgs;have HGB:=q_h hgb;have HX9:Hid (Ext w w9):=C9.ext HX4.out (by omega);clear hgs hgb hne C9 U9 B9;go_wp2;refine bodyPost_ret (v:=.agg #[.slice A3 o.links.length c3,.slice A4 o.data.length c4]) ?_ rfl ?_
 ·simp[results,x0,x1,go_sem]
 ·rw[hR.out];exact⟨_,_,rfl,HGS.out,HGB.out,HX9.out⟩
def XK (base b g:Nat) (size seq half used:Int) (v T:Value) (L:List Ob) (o:Ob) (w:World) (e:Ending) (w':World):Prop :=
 (e=.returned (.bool false)/\jy (xY ⟨size,seq,half,used,L,[]⟩) o=false/\Ext w w') \/
 (e=.returned (.bool true)/\jy (xY ⟨size,seq,half,used,L,[]⟩) o=true/\∃v',IxB base b g size seq half used v' T (L ++ [o]) w'/\Frm b g v w w'/\∀q,v'.ownBlock=some q->v.ownBlock=some q\/w.heap.size<=q)
theorem XO:Tryz.prog.underlying 97=some (.map 9 3):=by kernel_rfl
theorem XL (w:World):(zeroValue 3).run Tryz.prog w=.ok (.int .i64 0) w:=by kernel_rfl
theorem xR{L:List Ob}(h:MpS w g (mpO 0 L)) (k:Byt):∃z:Int,(Instr.lookup 97 (.map (some g)) (sV k) true).run Tryz.prog w=.ok (.tuple #[.int .i64 z,.bool ((L.map qM).contains k)]) w/\∀j,(L.map qM).idxOf? k=some j->z=(j:Int):=by
 have h1:=QU XO (XL w) h k true;have h2:=Jc k L 0;cases h3:(L.map qM).idxOf? k with
 | none =>
  have h4:=zf (L.map qM) k;rw[h3] at h2 h4;rw[h2] at h1;refine⟨0,?_,fun j hj=>by cases hj⟩;rw[<-h4];exact h1
 | some j =>
  have h4:=zf (L.map qM) k;rw[h3] at h2 h4;rw[h2] at h1;refine⟨(j:Int),?_,fun j' hj=>by rw[Option.some.inj hj]⟩;rw[<-h4];have e:((0+j:Nat):Int)=(j:Int):=by rw[Nat.zero_add]
  simp only[Option.map_some,e] at h1;exact h1
theorem wI (HT:x9){size seq half used:Int}{T:Value}{L:List Ob}{o:Ob}{x y:Value}(hI:IxB base b g size seq half used v T L w) (h:ObR w x y o) (ho:Ok0 o) (ht:kG w) (hn:L.length<=1000) :
  Calls Tryz.prog 60 #[.pointer (some ⟨b,0,none⟩),.agg #[x,y]] w (XK base b g size seq half used v T L o w):=by
 have HI:=q_h hI;have HO:=q_h h;have HK:=q_h ho;have HTB:=q_h ht;obtain⟨R,hR⟩:=qf (XK base b g size seq half used v T L o w);rw[<-hR.out];obtain⟨A0,c0,rfl,-⟩:=h.1.form;obtain⟨A9,c9,rfl,-⟩:=h.2.form;obtain⟨n0,hn0⟩:=qf o.links.length;obtain⟨n9,hn9⟩:=qf o.data.length;rw[<-hn0.out,<-hn9.out] at HO ⊢;have hL9:=HK.out.1;rw[<-hn0.out] at hL9;clear h ho ht hI;go_enter Tryz.func60,Tryz.ntmps60;go_upto_region 1 with (fail);refine qo ?_;intro w1 hE hsz B0;obtain⟨p0,p1,-⟩:=cells2 B0;have HB0:=q_h B0;obtain⟨s0,hs0⟩:=qf (sV (nmO o));obtain⟨z0,hz0⟩:=qf (obC o)
 have HCN:Hid (Calls Tryz.prog 15 #[.agg #[.slice A0 n0 c0,.slice A9 n9 c9]] w1 (qH w1 (.tuple #[s0,.int .i64 z0]))):=by
  rw[hs0.out,hz0.out];exact XU HT (HO.out.ext hE) HK.out (HTB.out.ext hE)
 go_wp2_with (go_at_call 15;refine q_o ?_);refine HCN.out.mono ?_;rintro e w2 ⟨rfl,e2⟩;have HX2:=q_h (hE.trans e2);have HB2:=q_h (e2.block HB0.out);clear p0 p1 HCN B0 HB0 hE e2
 by_cases hz:z0=0
 case neg =>
  have u3:(z0 != 0)=true:=by simpa using hz
  have u4:decide (z0=0)=false:=q_f hz
  have HC:Hid (jy (xY ⟨size,seq,half,used,L,[]⟩) o=false):=by
   rw[Hid];unfold jy;rw[show (obC o == 0)=false from by rw[<-hz0.out];simpa using hz]
   rfl
  go_wp2
  first|go_ret|skip
  rw[hR.out];exact .inl ⟨rfl,HC.out,HX2.out⟩
 have u3:(z0 != 0)=false:=by rw[hz];rfl
 have u4:decide (z0=0)=true:=q_t hz;have HZ:Hid (obC o=0):=by rw[Hid,<-hz0.out];exact hz
 have HNM:Hid (s0=sV (qM o)):=by
  rw[Hid,hs0.out];unfold nmO;rw[HZ.out]
  rfl
 have hK2:=Ko HZ.out;have HI2:=q_h (HI.out.ext HX2.out);obtain⟨z1,hlk,hz1⟩:=xR HI2.out.mp (qM o);rw[<-HNM.out] at hlk;obtain⟨q1,hq1⟩:=qf ((L.map qM).contains (qM o));rw[<-hq1.out] at hlk;have b6:=qj HI2.out.blk 6;have c6:w2.cell? ⟨b,6,none⟩=some (.map (some g)):=b6.trans rfl;clear b6 hz1;cases q1 with
 | true =>
  have HC:Hid (jy (xY ⟨size,seq,half,used,L,[]⟩) o=false):=by
   rw[Hid];unfold jy xY;rw[<-hq1.out]
   simp
  go_wp2
  first|go_ret|skip
  rw[hR.out];exact .inl ⟨rfl,HC.out,HX2.out⟩
 | false =>
  obtain⟨p0,p1,-⟩:=cells2 HB2.out;have HNC:Hid ((L.map qM).contains (qM o)=false):=hq1.out.symm;go_wp2_with fail;clear p0 p1 c6 hlk hq1
  go_loopw [33] (fun iv wr=>∃i:Nat,i<=n0/\iv=.int .i64 (i:Int)/\Hid (∀j,j<i->(L.map qM).contains (o.links.getD j [])=true)/\wr=w2) (fun iv _=>n0-(intOf iv).toNat)
  case atStart=>exact⟨0,Nat.zero_le _,rfl,fun j hj=>by omega,rfl⟩
  case round =>
   obtain⟨i,hi9,rfl,HA,rfl⟩:=hrel;obtain⟨wq,hwq⟩:∃wq,wq=wr:=⟨_,rfl⟩
   subst hwq;have b6:=qj HI2.out.blk 6;have c6:wq.cell? ⟨b,6,none⟩=some (.map (some g)):=b6.trans rfl;clear b6
   by_cases hlt:i<n0
   case pos =>
    have u5:decide ((i:Int)<(n0:Int))=true:=q_t (by omega);have u6:(i:Int)<(n0:Int):=by omega
    obtain⟨gl,off,rfl,hx⟩:=qZ.at_ (HO.out.1.ext HX2.out) hn0.out (by omega);have k0:=hx i hlt;obtain⟨z2,hl2,-⟩:=xR HI2.out.mp (o.links.getD i []);obtain⟨s1,hs1⟩:=qf (sV (o.links.getD i []));rw[<-hs1.out] at k0 hl2;obtain⟨q2,hq2⟩:=qf ((L.map qM).contains (o.links.getD i []));rw[<-hq2.out] at hl2;clear hx;cases q2 with
    | true =>
     have HA2:Hid (∀j,j<i+1->(L.map qM).contains (o.links.getD j [])=true):=fun j hj=>by
      by_cases h9:j=i
      ·rw[h9];exact hq2.out.symm
      ·exact HA.out j (by omega)
     go_wp2;go_roundw
     case rel=>exact⟨i+1,by omega,by go_num,HA2,trivial⟩
     case measure=>simp[intOf];omega
    | false =>
     have HC:Hid (jy (xY ⟨size,seq,half,used,L,[]⟩) o=false):=by
      rw[Hid];unfold jy xY
      have:o.links.all ((L.map qM).contains ·)=false:=by
       rw[List.all_eq_false];refine⟨o.links.getD i [],?_,by rw[<-hq2.out];simp⟩;rw[List.getD_eq_getElem?_getD,List.getElem?_eq_getElem (by have:=hn0.out;omega)];exact List.getElem_mem _
      show (obC o == 0&&(!(L.map qM).contains (qM o)&&o.links.all ((L.map qM).contains ·)))=false
      rw[this]
      simp
     go_wp2
     first|go_ret|skip
     rw[hR.out];exact .inl ⟨rfl,HC.out,HX2.out⟩
   case neg =>
    have u5:decide ((i:Int)<(n0:Int))=false:=q_f (by omega)
    have HC:Hid (jy (xY ⟨size,seq,half,used,L,[]⟩) o=true):=by
     have h1:o.links.all ((L.map qM).contains ·)=true:=by
      rw[List.all_eq_true];intro s hs;obtain⟨j,hj,rfl⟩:=List.getElem_of_mem hs;have h2:=HA.out j (by have:=hn0.out;omega);rw[List.getD_eq_getElem?_getD,List.getElem?_eq_getElem hj] at h2;exact h2
     show (obC o == 0&&(!(L.map qM).contains (qM o)&&o.links.all ((L.map qM).contains ·)))=true
     rw[h1,HNC.out,HZ.out]
     rfl
    obtain⟨A1,c1,hv1,hnc1,-⟩:=HI2.out.obs.form;subst hv1;have c4:wq.cell? ⟨b,4,none⟩=some (.slice A1 L.length c1):=(qj HI2.out.blk 4).trans rfl;go_upto_region 14 with (fail);have HD:Hid (Ext wq wq.drew):=(Ext.refl wq).drew;obtain⟨n,hn9'⟩:=qf L.length;rw[<-hn9'.out] at c4;have hn1:n<=1000:=by rw[hn9'.out];exact hn
    have eC:=(Ext.refl wq).drew;refine ql (fun w'=>w'.cell? ⟨b,6,none⟩=some (.map (some g))/\w'.cell? ⟨b,4,none⟩=some (.slice A1 n c1)) [11] (by kernel_rfl) (by exact⟨eC.cell c6,eC.cell c4⟩) (fun hHeld=>?_);refine sP 0 (h:=?_);refine sP 1 (h:=?_);refine sP 2 (h:=?_);refine sT 3 (h:=?_);refine sP 4 (h:=?_);refine sP 5 (h:=?_);refine sP 6 (h:=?_);refine sP 7 (h:=?_);refine sP 8 (h:=?_);refine sT 9 (h:=?_);refine sP 10 (h:=?_);refine qC (i:=11) rfl (by kernel_rfl) (by kernel_rfl) (fun K hK=>?_);obtain⟨w4,hmu,M4,C4⟩:=J4 XO (HI2.out.mp.ext HD.out) (qM o) (.int .i64 (n:Int));rw[<-HNM.out] at hmu;go_simp;refine hK.out _ _ ?_;clear hK K;try simp only[nr]
    refine qm (by kernel_rfl) ?_ _;clear hHeld
    have HM4:Hid (MpS w4 g (mpO 0 (L ++ [o]))):=by
     have h1:lkM (mpO 0 L) (qM o)=none:=by
      have h2:=zf (L.map qM) (qM o);rw[HNC.out] at h2;rw[Jc];cases h3:(L.map qM).idxOf? (qM o) with
      | none=>rfl
      | some j=>rw[h3] at h2;cases h2
     rw[(vN _ (Xk h1)).2,hn9'.out] at M4;rw[Hid,V4,Nat.zero_add];exact M4
    have hgb:=HI2.out.gb;have hgw:g<w.heap.size:=HI.out.mp.lt;have hbw:b<w.heap.size:=qK HI.out.blk;have HB4:=q_h (C4.blk (HD.out.block HI2.out.blk) (by omega));have HBX:=q_h (C4.blk (HD.out.block HB2.out) (by omega));obtain⟨es,kk,hmb,-⟩:=HI2.out.mp.ext HD.out;have HO4:Hid (ObG base w4 (.slice A1 L.length c1) L):=ObG.chg (HI2.out.obs.ext HD.out) C4 hmb (fun cs t fr e=>by cases e);have HF4:Hid (Frm b g (.slice A1 L.length c1) w w4):=(Frm.ext (HX2.out.trans HD.out)).trans (Frm.chg C4 (.inr (.inl rfl))) (fun q hq=>.inl hq);have HR4:Hid (ObR w4 (.slice A0 n0 c0) (.slice A9 n9 c9) o):=(HO.out.ext (HX2.out.trans HD.out)).map C4 hmb;have HW4:Hid (w.heap.size<w4.heap.size):=qK HBX.out;clear eC c6 c4 M4 C4 hmu hmb;have c4:w4.cell? ⟨b,4,none⟩=some (.slice A1 n c1):=by rw[hn9'.out];exact (qj HB4.out 4).trans rfl
    obtain⟨p0,p1,-⟩:=cells2 HBX.out;obtain⟨wv,hwv⟩:∃wv,wv=w4:=⟨_,rfl⟩
    subst hwv;have HC0:Hid (Ext wv wv.drew):=(Ext.refl wv).drew;have hbw':b≠w.heap.size:=by omega
    go_upto_region 15 with (fail);have eC:=And.intro (HC0.out.cell c4) (And.intro (HC0.out.cell p0) (HC0.out.cell p1));refine ql (fun w'=>w'.cell? ⟨b,4,none⟩=some (.slice A1 n c1)/\w'.cell? ⟨w.heap.size,0,none⟩=some (.slice A0 n0 c0)/\w'.cell? ⟨w.heap.size,1,none⟩=some (.slice A9 n9 c9)) [13] (by kernel_rfl) (by exact eC) (fun hHeld=>?_);refine sP 0 (h:=?_);refine sP 1 (h:=?_);refine sP 2 (h:=?_);refine sP 3 (h:=?_);refine sP 4 (h:=?_);refine sT 5 (h:=?_);refine sT 6 (h:=?_);refine qg (i:=7) rfl (by kernel_rfl) (fun K hK=>?_);go_simp;refine (JK (HR4.out.ext HC0.out) HK.out).mono ?_;rintro e w5 ⟨x5,y5,rfl,hS5,hB5,e5⟩;have HS5:=q_h hS5.u;have HB5:=q_h (GrB.u hB5);obtain⟨A5,c5,rfl,-⟩:=hS5.strs.form;obtain⟨A6,c6,rfl,-⟩:=hB5.by.form
    have HC5:=q_h (HC0.out.trans e5);replace eC:=And.intro (e5.cell eC.1) (And.intro (e5.cell eC.2.1) (e5.cell eC.2.2));clear hS5 hB5 e5;go_wp2_with fail;clear hHeld;refine hK.out _ _ (by exact eC) fun hHeld=>?_
    clear hK K;try simp only[nr]
    refine qg (i:=8) rfl (by kernel_rfl) (fun K hK=>?_);go_simp
    first|refine qo ?_|refine qY ?_
    intro w6 e6 hsz6 BJ;have HS6:=q_h (HS5.out.ext e6);have HB6:=q_h (HB5.out.ext e6);have HC6:=q_h (HC5.out.trans e6);replace eC:=And.intro (e6.cell eC.1) (And.intro (e6.cell eC.2.1) (e6.cell eC.2.2));clear e6;clear hHeld;refine hK.out _ _ (by exact eC) fun hHeld=>?_
    clear hK K;try simp only[nr]
    refine qg (i:=9) rfl (by kernel_rfl) (fun K hK=>?_);obtain⟨X,Y,hG,hXY⟩:=HO4.out.ext HC6.out;have hG2:qI 29 2 base w6 (.slice A1 n c1) n (obX X Y n):=by rw[hn9'.out];exact hG
    refine zl q1N rfl _ _ 22 Tryz.underlying22 rfl (by rfl) hG2 (by rfl) (m:=1) (c:=1) (news:=[.slice A5 o.links.length c5,.slice A6 o.data.length c6]) rfl (fun j u hj=>(zq BJ j).trans (by simpa using hj)) (by simp[Value.oneCell']) (by omega) ?_;rintro v7 w7 hG7 hw7o ⟨g7,hg7,hw7,C7⟩;have HG7f:Hid (∃A7 c7,v7=.slice A7 (n+1) c7):=hG7.form;have hw7':(Value.slice A1 L.length c1).ownBlock=some g7\/g7=w6.heap.size:=by rw[<-hn9'.out];exact hw7
    have hg7w:g7≠w.heap.size/\g7≠g/\g7≠b:=by
     rcases hw7' with hw|hw
     ·have:=(HI.out.obs.own_lt g7 hw).2;have:=HI.out.ob g7 hw;omega
     ·have:=HC6.out.size;have:=HW4.out;omega
    have HK7:Hid (KpT w6 w7):=by
     rcases hw7 with hw|hw
     ·rcases hG2.2.2 with ⟨h8,-⟩|⟨g0,cap,cur,h8,-,hh,-⟩
      ·rw[h8] at hw;simp[Value.ownBlock] at hw
      ·have:g0=g7:=by rw[h8] at hw;simpa[Value.ownBlock] using hw
       subst this;exact KpT.chg C7 (.inl hh) (fun cs t fr e=>by injection e with _ e2 _;exact .inr e2.symm)
     ·exact KpT.chg (o:=.cells #[] 29 (0,0)) C7 (.inr (Nat.le_of_eq hw.symm)) (fun cs t fr e=>by injection e with _ e2 _;exact .inr e2.symm)
    have HO7:Hid (ObG base w7 v7 (L ++ [o])):=by
     rw[hn9'.out] at hG7;exact ObG.snoc hXY HS6.out HB6.out hG7 HK7.out
    have HB7:=q_h (C7.blk (HC6.out.block HB4.out) (by omega));have HM7:Hid (MpS w7 g (mpO 0 (L ++ [o]))):=(HM4.out.ext HC6.out).chg C7 (by omega)
    have HF7:Hid (Frm b g (.slice A1 L.length c1) w w7):=(HF4.out.trans (Frm.ext HC6.out) (fun q hq=>.inl hq)).trans (Frm.chg (v:=.slice A1 L.length c1) C7 (by
     rcases hw7' with hw|hw
     ·exact .inr (.inr (.inl hw))
     ·exact .inr (.inr (.inr (Nat.le_of_eq hw.symm))))) (fun q hq=>.inl hq)
    have HV7:Hid (∀q,v7.ownBlock=some q->(Value.slice A1 L.length c1).ownBlock=some q\/w.heap.size<=q):=fun q hq=>by
     rcases hw7o with h8|h8
     ·rw[h8,hn9'.out] at hq;exact .inl hq
     ·rw[h8] at hq;injection hq with hq
      have:=HC6.out.size;have:=HW4.out;exact .inr (by omega)
    obtain⟨A7,c7,rfl⟩:=HG7f.out;replace eC:=And.intro (C7.cell eC.1 (by show b<g7\/g7+1<=b;omega)) (And.intro (C7.cell eC.2.1 (by show w.heap.size<g7\/g7+1<=w.heap.size;omega)) (C7.cell eC.2.2 (by show w.heap.size<g7\/g7+1<=w.heap.size;omega)));clear hG7 hw7o hw7 hw7' hG hXY hG2 HK7;clear hHeld;refine hK.out _ _ (by exact eC) fun hHeld=>?_
    clear hK K;try simp only[nr]
    refine sP 10 (h:=?_);refine sP 11 (h:=?_);refine sP 12 (h:=?_);refine qC (i:=13) rfl (by kernel_rfl) (by kernel_rfl) (fun K hK=>?_);obtain⟨w8,E8,B8,U8⟩:=qL HB7.out 4 (.slice A7 (n+1) c7);have f0:=qp HB7.out 4;go_simp
    (try rw[E8])
    refine hK.out _ _ ?_;clear hK K;try simp only[nr]
    refine qm (by kernel_rfl) ?_ _;clear hHeld;have C8:=U8.chg (NoU.mk HB7.out (by decide));have HIX:Hid (IxB base b g size seq half used (.slice A7 (n+1) c7) T (L ++ [o]) w8):=⟨B8,HI.out.hb,HI.out.hg,HO7.out.chg C8 HB7.out (fun cs t fr e=>by injection e with _ e2 _;exact e2.symm),HM7.out.chg C8 (by omega)⟩
    have HF8:Hid (Frm b g (.slice A1 L.length c1) w w8):=HF7.out.trans (Frm.chg (v:=.slice A1 L.length c1) C8 (.inl rfl)) (fun q hq=>.inl hq);clear eC c4 p0 p1 E8 B8 U8 C8 f0 C7 BJ;go_wp2
    first|go_ret|skip
    rw[hR.out];exact .inr ⟨rfl,HC.out,_,HIX.out,HF8.out,HV7.out⟩
def bA (l:Byt):ByteArray:=⟨l.toArray⟩
theorem qO (l:Byt):sV l=.string (bA l):=rfl
theorem KU (a b:Byt):((bA a).toList == (bA b).toList)=decide (a=b):=by
 unfold bA;rw[ByteArray.toList_mk,ByteArray.toList_mk]
 by_cases h:a=b
 ·rw[q_t h,h];simp
 ·rw[q_f h];simpa using h
theorem Vt {α:Type} [DecidableEq α] {d:α}{l l':List α}(h:l.length=l'.length) (hj:∀j,j<l.length->l.getD j d=l'.getD j d):l=l':=by
 refine List.ext_getElem h fun j h1 h2=>?_
 have:=hj j h1;rw[List.getD_eq_getElem?_getD,List.getD_eq_getElem?_getD,List.getElem?_eq_getElem h1,List.getElem?_eq_getElem h2] at this;exact this
theorem qZ.atN{l:List Byt}(h:qZ w (.slice A n c) l):n=l.length:=by
 obtain⟨A',c',h1,-⟩:=h;exact (Value.slice.inj h1).2.1
theorem q0N {l l':List Byt}{v':Value}(h:qZ w v l) (h':qZ w v' l') (hl:l.length<=1000000000) (hl':l'.length<=1000000000):Calls Tryz.prog 32 #[v,v'] w (qH w (.bool (decide (l=l')))):=by
 have HS:=q_h h;have HS':=q_h h';obtain⟨r,hr⟩:=qf (decide (l=l'));rw[<-hr.out];obtain⟨A,c,rfl,hnc,-⟩:=h.form;obtain⟨A',c',rfl,hnc',-⟩:=h'.form;obtain⟨n,hn⟩:=qf l.length;obtain⟨n',hn'⟩:=qf l'.length;rw[<-hn.out] at HS hnc hl ⊢;rw[<-hn'.out] at HS' hnc' hl' ⊢;clear h h';go_enter Tryz.func32,Tryz.ntmps32
 by_cases hnn:n=n'
 case neg =>
  have u3:((n:Int) != (n':Int))=true:=by simp;omega
  have u4:decide ((n:Int)=(n':Int))=false:=q_f (by omega);have HR:Hid (r=false):=by rw[Hid,hr.out];exact q_f (fun e=>hnn (by rw[hn.out,hn'.out,e]))
  go_wp2;go_ret;exact⟨qx HR.out.symm,Ext.refl w⟩
 subst hnn;have u3:((n:Int) != (n:Int))=false:=by simp
 go_wp2_with fail
 go_loopw [13] (fun iv wr=>∃i:Nat,i<=n/\iv=.int .i64 (i:Int)/\Hid (∀j,j<i->l.getD j []=l'.getD j [])/\Hid (Ext w wr)) (fun iv _=>n-(intOf iv).toNat)
 case atStart=>exact⟨0,Nat.zero_le _,rfl,fun j hj=>by omega,Ext.refl w⟩
 case round =>
  obtain⟨i,hi9,rfl,HA,HX⟩:=hrel
  by_cases hlt:i<n
  case neg =>
   have u5:decide ((i:Int)<(n:Int))=false:=q_f (by omega)
   have HR:Hid (r=true):=by
    rw[Hid,hr.out];exact q_t (Vt (by rw[<-hn.out,hn'.out]) (fun j hj=>HA.out j (by have:=hn.out;omega)))
   go_wp2
   first|go_ret|skip
   exact⟨qx HR.out.symm,HX.out⟩
  have u5:decide ((i:Int)<(n:Int))=true:=q_t (by omega);have u6:(i:Int)<(n:Int):=by omega
  obtain⟨g1,o1,rfl,hx1⟩:=qZ.at_ (HS.out.ext HX.out) hn.out (by omega);obtain⟨g2,o2,rfl,hx2⟩:=qZ.at_ (HS'.out.ext HX.out) hn'.out (by omega);have k1:=hx1 i hlt;have k2:=hx2 i hlt;rw[qO] at k1 k2;have HB:=q_h (KU (l.getD i []) (l'.getD i []));obtain⟨B1,hB1⟩:=qf (bA (l.getD i []));obtain⟨B2,hB2⟩:=qf (bA (l'.getD i []));rw[<-hB1.out] at k1;rw[<-hB2.out] at k2;rw[<-hB1.out,<-hB2.out] at HB;obtain⟨q,hq⟩:=qf (decide (l.getD i []=l'.getD i []));have ueq:(B1.toList == B2.toList)=q:=by rw[HB.out,hq.out]
  obtain⟨wq,hwq⟩:∃wq,wq=wr:=⟨_,rfl⟩
  subst hwq;clear hx1 hx2;go_upto_region 6 with (fail);have eC:=(Ext.refl wq).drew;refine ql (fun w'=>w'.cell? ⟨g1,o1+i,none⟩=some (.string B1)/\w'.cell? ⟨g2,o2+i,none⟩=some (.string B2)) [] (by kernel_rfl) (by exact⟨eC.cell k1,eC.cell k2⟩) (fun hHeld=>?_);refine sP 0 (h:=?_);refine sP 1 (h:=?_);refine sP 2 (h:=?_);refine sT 3 (h:=?_);refine sP 4 (h:=?_);refine sP 5 (h:=?_);refine sP 6 (h:=?_);refine sT 7 (h:=?_);refine sP 8 (h:=?_);refine qm (by kernel_rfl) ?_ _;clear hHeld;have HX2:=q_h (HX.out.trans eC);clear eC k1 k2;cases q with
  | false =>
   have HR:Hid (r=false):=by
    rw[Hid,hr.out];refine q_f (fun e=>?_);rw[e] at hq;have:=hq.out;simp at this
   go_wp2
   first|go_ret|skip
   exact⟨qx HR.out.symm,HX2.out⟩
  | true =>
   have HA2:Hid (∀j,j<i+1->l.getD j []=l'.getD j []):=fun j hj=>by
    by_cases h9:j=i
    ·rw[h9];exact of_decide_eq_true hq.out.symm
    ·exact HA.out j (by omega)
   go_wp2;go_roundw
   case rel=>exact⟨i+1,by omega,by go_num,HA2,HX2⟩
   case measure=>simp[intOf];omega
theorem Zu {l l':Byt}{v':Value}(h:ByV w v l) (h':ByV w v' l'):Calls Tryz.prog 127 #[v,v'] w (qH w (.bool (decide (l=l')))):=by
 have t1:=ku h;have t2:=ku h';have HB:=q_h (KU l l');rw[qO] at t1 t2;obtain⟨B1,hB1⟩:=qf (bA l);obtain⟨B2,hB2⟩:=qf (bA l');rw[<-hB1.out] at t1 HB;rw[<-hB2.out] at t2 HB;obtain⟨q,hq⟩:=qf (decide (l=l'));rw[<-hq.out];have ueq:(B1.toList == B2.toList)=q:=by rw[HB.out,hq.out]
 obtain⟨A,c,rfl,-⟩:=h.form;obtain⟨A',c',rfl,-⟩:=h'.form;clear h h';go_enter Tryz.func127,Tryz.ntmps127;go_wp2;go_ret;exact⟨rfl,Ext.refl w⟩
theorem WB {o p:Ob}{x y x' y':Value}(h:ObR w x y o) (h':ObR w x' y' p) (ho:Ok0 o) (hp:Ok0 p):Calls Tryz.prog 59 #[.agg #[x,y],.agg #[x',y']] w (qH w (.bool (decide (o=p)))):=by
 have HO:=q_h h;have HP:=q_h h';obtain⟨r,hr⟩:=qf (decide (o=p));rw[<-hr.out];obtain⟨A0,c0,rfl,-⟩:=h.1.form;obtain⟨A1,c1,rfl,-⟩:=h.2.form;obtain⟨A2,c2,rfl,-⟩:=h'.1.form;obtain⟨A3,c3,rfl,-⟩:=h'.2.form;have HL:Hid (o.links.length<=1000000000/\p.links.length<=1000000000):=by have:=ho.1;have:=hp.1;rw[Hid];omega
 obtain⟨n0,hn0⟩:=qf o.links.length;obtain⟨n1,hn1⟩:=qf o.data.length;obtain⟨n2,hn2⟩:=qf p.links.length;obtain⟨n3,hn3⟩:=qf p.data.length;rw[<-hn0.out,<-hn1.out] at HO ⊢;rw[<-hn2.out,<-hn3.out] at HP ⊢;clear h h' ho hp;go_enter Tryz.func59,Tryz.ntmps59;go_upto_region 1 with (fail);refine zu ?_;intro w1 hE hsz B0 B1;obtain⟨p0,p1,-⟩:=cells2 B0;obtain⟨q0,q1,-⟩:=cells2 B1;have HB0:=q_h B0;have HB1:=q_h B1;go_wp2_with (go_at_call 32;refine q_o ?_);refine (q0N (HO.out.1.ext hE) (HP.out.1.ext hE) HL.out.1 HL.out.2).mono ?_;rintro e w2 ⟨rfl,e2⟩;obtain⟨a,ha⟩:=qf (decide (o.links=p.links));rw[<-ha.out];have HX2:=q_h (hE.trans e2);clear p0 p1 q0 q1;obtain⟨p0,p1,-⟩:=cells2 (e2.block HB0.out);obtain⟨q0,q1,-⟩:=cells2 (e2.block HB1.out);cases a with
 | false =>
  have HR:Hid (r=false):=by
   rw[Hid,hr.out];refine q_f (fun e=>?_);rw[e] at ha;have:=ha.out;simp at this
  go_wp2
  first|go_ret|skip
  exact⟨qx HR.out.symm,HX2.out⟩
 | true =>
  go_wp2_with (go_at_call 127;refine q_o ?_);refine (Zu (HO.out.2.ext HX2.out) (HP.out.2.ext HX2.out)).mono ?_;rintro e w3 ⟨rfl,e3⟩;obtain⟨b,hb⟩:=qf (decide (o.data=p.data));rw[<-hb.out]
  have HR:Hid (r=b):=by
   rw[Hid,hr.out,hb.out];have h1:o.links=p.links:=of_decide_eq_true ha.out.symm
   by_cases h2:o.data=p.data
   ·rw[q_t h2,q_t (by cases o;cases p;simp at h1 h2;rw[h1,h2])]
   ·rw[q_f h2,q_f (fun e=>h2 (by rw[e]))]
  have HX3:=q_h (HX2.out.trans e3);clear p0 p1 q0 q1 e3;go_wp2
  first|go_ret|skip
  exact⟨qx HR.out.symm,HX3.out⟩
def kS (base:Nat) (w:World):Prop:=∃W,kG W/\xH W/\W.heap.size<=base/\Ext W w
theorem kS.tab(h:kS base w):kG w:=by
 obtain⟨W,h1,h2,h3,h4⟩:=h;exact h1.ext h4
theorem kS.mark(h:kS base w):xH w:=by
 obtain⟨W,h1,h2,h3,h4⟩:=h;exact h2.ext h4
theorem kS.ext(h:kS base w) (e:Ext w w'):kS base w':=by
 obtain⟨W,h1,h2,h3,h4⟩:=h;exact⟨W,h1,h2,h3,h4.trans e⟩
theorem kS.low {b':Nat}(h:kS base w) (hb:base<=b'):kS b' w:=by
 obtain⟨W,h1,h2,h3,h4⟩:=h;exact⟨W,h1,h2,by omega,h4⟩
theorem kS.frm(h:kS base w) (F:Frm b g v w w') (hb:base<=b) (hg:base<=g) (hv:∀k,v.ownBlock=some k->base<=k):kS base w':=by
 obtain⟨W,h1,h2,h3,h4⟩:=h;exact⟨W,h1,h2,h3,F.toExt h4 (by omega) (by omega) (fun k hk=>by have:=hv k hk;omega)⟩
theorem jO {n:Int}(h1:0<=n) (h2:n<=1000000) (h:Int) (hh:h=qV n) (w:World):Calls Tryz.prog 87 #[.int .i64 n] w (qH w (.int .i64 h)):=by rw[hh];exact WE h1 h2 w
def q1b (base b g:Nat) (size seq half used:Int) (v T:Value) (L:List Ob) (E:Byt) (w:World) (e:Ending) (w':World):Prop :=
 ((qV size<used+pgN E\/seq=2147483647)/\e=.returned (.tuple #[.slice none 0 0,.bool false])/\Ext w w') \/
 (used+pgN E<=qV size/\seq<2147483647/\∃u,e=.returned (.tuple #[u,.bool true])/\zG w.heap.size w' u (pgN E+3) (vT (pgN E) (fun j=>⟨2+half*qV size+used+j,pgE E j,false⟩) (Zr (seq+1) half (used+pgN E)))/\IxB base b g size (seq+1) half (used+pgN E) v T L w'/\Frm b g v w w')
theorem yN{size seq half used:Int}{AT:Option Addr}{nT cT:Nat}{L:List Ob}{E:Byt}{ev:Value}(hI:IxB base b g size seq half used v (.slice AT nT cT) L w) (hE:ByV w ev E) (h5:E.length<=5000) (hM:kS base w)
  (s0:0<=size) (s1:size<=1000000) (d0:0<=used) (d1:used<=1000000) (hq0:0<=seq) (hq1:seq<=2147483647) (hh0:0<=half) (hh1:half<=1) :
  Calls Tryz.prog 61 #[.pointer (some ⟨b,0,none⟩),ev] w (q1b base b g size seq half used v (.slice AT nT cT) L E w):=by
 have HI:=q_h hI;have HE:=q_h hE;have HM:=q_h hM;obtain⟨R,hR⟩:=qf (q1b base b g size seq half used v (.slice AT nT cT) L E w);rw[<-hR.out];obtain⟨A,c,rfl,hnc,hcm⟩:=hE.form;obtain⟨n,hn⟩:=qf E.length;rw[<-hn.out] at HE hnc h5 ⊢;obtain⟨p,hp⟩:=qf (pgN E);have hp9:p<=100:=by rw[hp.out];unfold pgN;have:=hn.out;omega
 obtain⟨h,hh⟩:=qf (qV size);have hb:=yF s0 s1;rw[<-hh.out] at hb;have HH:Hid (∀w,Calls Tryz.prog 87 #[.int .i64 size] w (qH w (.int .i64 h))):=fun w=>jO s0 s1 h hh.out w
 have hwr:IntKind.i64.wrap (used+(p:Int))=used+p:=wrp (by omega) (by omega);have hw3:IntKind.i64.wrap (seq+1)=seq+1:=wrp (by omega) (by omega);obtain⟨m,hm⟩:=qf (half*h)
 have hmb : -1<=m/\m<=1000000:=by
  rw[hm.out];have:half=0\/half=1:=by omega
  rcases this with e|e<;>rw[e]<;>omega
 have hm2:half*h=m:=hm.out.symm;have hw0:IntKind.i64.wrap m=m:=wrp (by omega) (by omega);have hw1:IntKind.i64.wrap (2+m)=2+m:=wrp (by omega) (by omega);have hw2:IntKind.i64.wrap (2+m+used)=2+m+used:=wrp (by omega) (by omega);obtain⟨A1,c1,hv1,-⟩:=hI.obs.form;obtain⟨ln,hln⟩:=qf L.length;have HV1:Hid (v=.slice A1 ln c1):=by rw[Hid,hln.out];exact hv1
 clear hI hE hM hv1 hcm;go_enter Tryz.func61,Tryz.ntmps61;go_wp2_with (go_at_call 121;refine q_o ?_);refine (kW HE.out (by have:=hn.out;omega)).mono ?_;rintro e w1 ⟨rfl,e1⟩;rw[<-hp.out];have HX1:=q_h e1;have HI1:=q_h (HI.out.ext e1);clear e1;have b0:w1.cell? ⟨b,0,none⟩=some (.int .i64 size):=(qj HI1.out.blk 0).trans rfl;have b1:w1.cell? ⟨b,1,none⟩=some (.int .i64 seq):=(qj HI1.out.blk 1).trans rfl;have b3:w1.cell? ⟨b,3,none⟩=some (.int .i64 used):=(qj HI1.out.blk 3).trans rfl;go_upto_region 2 with (fail)
 by_cases hlt:h<used+p
 ·have e1:decide (h<used+(p:Int))=true:=q_t hlt;have eC:=(Ext.refl w1).drew;refine ql (fun w'=>w'.cell? ⟨b,0,none⟩=some (.int .i64 size)/\w'.cell? ⟨b,1,none⟩=some (.int .i64 seq)/\w'.cell? ⟨b,3,none⟩=some (.int .i64 used)) [] (by kernel_rfl) (by exact⟨eC.cell b0,eC.cell b1,eC.cell b3⟩) (fun hHeld=>?_);refine sP 0 (h:=?_);refine sP 1 (h:=?_);refine sP 2 (h:=?_);refine sP 3 (h:=?_);refine sT 4 (h:=?_);refine sP 5 (h:=?_);refine sP 6 (h:=?_);refine sP 7 (h:=?_);refine sP 8 (h:=?_);refine sP 9 (h:=?_);refine sP 10 (h:=?_);refine sT 11 (h:=?_);refine qg (i:=12) rfl (by kernel_rfl) (fun K hK=>?_);go_simp;refine (HH.out _).mono ?_;rintro e w3 ⟨rfl,e3⟩;replace eC:=eC.trans e3;go_wp2_with fail;clear hHeld;refine hK.out _ _ (by exact⟨eC.cell b0,eC.cell b1,eC.cell b3⟩) fun hHeld=>?_
  clear hK K;try simp only[nr]
  refine sP 13 (h:=?_);refine sP 14 (h:=?_);refine sF 15 (h:=?_);refine sF 16 (h:=?_);refine sF 17 (h:=?_);refine sF 18 (h:=?_);refine sF 19 (h:=?_);refine sF 20 (h:=?_);refine sP 21 (h:=?_);refine qm (by kernel_rfl) ?_ _;clear hHeld;have HX3:=q_h (HX1.out.trans eC);clear eC e3 b0 b1 b3;go_wp2
  first|go_ret2|skip
  rw[hR.out];exact .inl ⟨.inl (by rw[<-hh.out,<-hp.out];exact hlt),rfl,HX3.out⟩
 by_cases hs:seq=2147483647
 ·have e1:decide (h<used+(p:Int))=false:=q_f hlt;have e4:(seq == 2147483647)=true:=by rw[hs];rfl
  have e5:decide (seq=2147483647)=true:=q_t hs;have eC:=(Ext.refl w1).drew;refine ql (fun w'=>w'.cell? ⟨b,0,none⟩=some (.int .i64 size)/\w'.cell? ⟨b,1,none⟩=some (.int .i64 seq)/\w'.cell? ⟨b,3,none⟩=some (.int .i64 used)) [] (by kernel_rfl) (by exact⟨eC.cell b0,eC.cell b1,eC.cell b3⟩) (fun hHeld=>?_);refine sP 0 (h:=?_);refine sP 1 (h:=?_);refine sP 2 (h:=?_);refine sP 3 (h:=?_);refine sT 4 (h:=?_);refine sP 5 (h:=?_);refine sP 6 (h:=?_);refine sP 7 (h:=?_);refine sP 8 (h:=?_);refine sP 9 (h:=?_);refine sP 10 (h:=?_);refine sT 11 (h:=?_);refine qg (i:=12) rfl (by kernel_rfl) (fun K hK=>?_);go_simp;refine (HH.out _).mono ?_;rintro e w3 ⟨rfl,e3⟩;replace eC:=eC.trans e3;go_wp2_with fail;clear hHeld;refine hK.out _ _ (by exact⟨eC.cell b0,eC.cell b1,eC.cell b3⟩) fun hHeld=>?_
  clear hK K;try simp only[nr]
  refine sP 13 (h:=?_);refine sP 14 (h:=?_);refine sP 15 (h:=?_);refine sP 16 (h:=?_);refine sP 17 (h:=?_);refine sP 18 (h:=?_);refine sT 19 (h:=?_);refine sP 20 (h:=?_);refine sP 21 (h:=?_);refine qm (by kernel_rfl) ?_ _;clear hHeld;have HX3:=q_h (HX1.out.trans eC);clear eC e3 b0 b1 b3;go_wp2
  first|go_ret2|skip
  rw[hR.out];exact .inl ⟨.inr hs,rfl,HX3.out⟩
 have e1:decide (h<used+(p:Int))=false:=q_f hlt;have e4:(seq == 2147483647)=false:=by simp;omega
 have e5:decide (seq=2147483647)=false:=q_f hs;have eC:=(Ext.refl w1).drew;refine ql (fun w'=>w'.cell? ⟨b,0,none⟩=some (.int .i64 size)/\w'.cell? ⟨b,1,none⟩=some (.int .i64 seq)/\w'.cell? ⟨b,3,none⟩=some (.int .i64 used)) [] (by kernel_rfl) (by exact⟨eC.cell b0,eC.cell b1,eC.cell b3⟩) (fun hHeld=>?_);refine sP 0 (h:=?_);refine sP 1 (h:=?_);refine sP 2 (h:=?_);refine sP 3 (h:=?_);refine sT 4 (h:=?_);refine sP 5 (h:=?_);refine sP 6 (h:=?_);refine sP 7 (h:=?_);refine sP 8 (h:=?_);refine sP 9 (h:=?_);refine sP 10 (h:=?_);refine sT 11 (h:=?_);refine qg (i:=12) rfl (by kernel_rfl) (fun K hK=>?_);go_simp;refine (HH.out _).mono ?_;rintro e w3 ⟨rfl,e3⟩;replace eC:=eC.trans e3;go_wp2_with fail;clear hHeld;refine hK.out _ _ (by exact⟨eC.cell b0,eC.cell b1,eC.cell b3⟩) fun hHeld=>?_
 clear hK K;try simp only[nr]
 refine sP 13 (h:=?_);refine sP 14 (h:=?_);refine sP 15 (h:=?_);refine sP 16 (h:=?_);refine sP 17 (h:=?_);refine sP 18 (h:=?_);refine sT 19 (h:=?_);refine sP 20 (h:=?_);refine sP 21 (h:=?_);refine qm (by kernel_rfl) ?_ _;clear hHeld;have HX3:=q_h (HX1.out.trans eC);have HI3:=q_h (HI1.out.ext eC);clear eC e3 b0 b1 b3 e1 e4 e5;have b0:w3.cell? ⟨b,0,none⟩=some (.int .i64 size):=(qj HI3.out.blk 0).trans rfl;have b2:w3.cell? ⟨b,2,none⟩=some (.int .i64 half):=(qj HI3.out.blk 2).trans rfl;have b3:w3.cell? ⟨b,3,none⟩=some (.int .i64 used):=(qj HI3.out.blk 3).trans rfl;have HPF:Hid ((fun j:Nat=>(⟨2+half*qV size+used+j,pgE E j,false⟩:qX))=fun j=>⟨2+m+used+j,pgE E j,false⟩):=by rw[Hid,hm.out,<-hh.out]
 go_upto_region 4 with (fail);have eC:=(Ext.refl w3).drew;refine ql (fun w'=>w'.cell? ⟨b,0,none⟩=some (.int .i64 size)/\w'.cell? ⟨b,2,none⟩=some (.int .i64 half)/\w'.cell? ⟨b,3,none⟩=some (.int .i64 used)) [] (by kernel_rfl) (by exact⟨eC.cell b0,eC.cell b2,eC.cell b3⟩) (fun hHeld=>?_);refine sP 0 (h:=?_);refine sP 1 (h:=?_);refine sP 2 (h:=?_);refine sP 3 (h:=?_);refine sP 4 (h:=?_);refine sT 5 (h:=?_);refine sP 6 (h:=?_);refine sP 7 (h:=?_);refine sP 8 (h:=?_);refine sP 9 (h:=?_);refine sT 10 (h:=?_);refine sP 14 (h:=?_);refine sP 15 (h:=?_);refine sP 16 (h:=?_);refine sP 17 (h:=?_);refine sT 18 (h:=?_);refine qg (i:=11) rfl (by kernel_rfl) (fun K hK=>?_);go_simp;refine (HH.out _).mono ?_;rintro e w4 ⟨rfl,e4⟩;replace eC:=eC.trans e4;go_wp2_with fail;clear hHeld;refine hK.out _ _ (by exact⟨eC.cell b0,eC.cell b2,eC.cell b3⟩) fun hHeld=>?_
 clear hK K;try simp only[nr]
 refine sP 12 (h:=?_);refine sP 13 (h:=?_);refine sP 19 (h:=?_);refine qg (i:=20) rfl (by kernel_rfl) (fun K hK=>?_);go_simp;refine (JG (page:=2+m+used) (HE.out.ext (HX3.out.trans eC)) (by have:=hn.out;omega) (by omega) (by omega)).mono ?_;rintro e w5 ⟨v5,rfl,hA5,e5⟩;obtain⟨A5,c5,rfl,-⟩:=hA5.form;have HA5:=q_h hA5;have HS5:Hid (w.heap.size<=w4.heap.size/\w4.heap.size<=w5.heap.size):=⟨(HX3.out.trans eC).size,e5.size⟩
 replace eC:=eC.trans e5;clear hA5;go_wp2_with fail;clear hHeld;refine hK.out _ _ (by exact⟨eC.cell b0,eC.cell b2,eC.cell b3⟩) fun hHeld=>?_
 clear hK K;try simp only[nr]
 refine sP 21 (h:=?_);refine qm (by kernel_rfl) ?_ _;clear hHeld;have HX5:=q_h (HX3.out.trans eC);have HI5:=q_h (HI3.out.ext eC);have HE45:Hid (Ext w4 w5):=e5;have HE35:Hid (Ext w3 w5):=eC;have HS34:Hid (w3.heap.size<=w4.heap.size):=Ext.size (w:=w3) (w':=w4) (by first|exact e4|exact Ext.of_drew e4);have HBL:Hid (b<w4.heap.size):=Nat.lt_of_lt_of_le (qK HI3.out.blk) (Ext.size (w':=w4) (by first|exact e4|exact Ext.of_drew e4));clear eC e4 e5 b0 b2 b3;have hv7:=HI5.out.blk;obtain⟨wa,Ea,Ba,Ua⟩:=qL HI5.out.blk 3 (.int .i64 (used+p));obtain⟨wb,Eb,Bb,Ub⟩:=qL Ba 1 (.int .i64 (seq+1));have c3:w5.cell? ⟨b,3,none⟩=some (.int .i64 used):=(qj HI5.out.blk 3).trans rfl;have f3:=qp HI5.out.blk 3;have f1:=qp Ba 1;have r1:wa.cell? ⟨b,1,none⟩=some (.int .i64 seq):=(qj Ba 1).trans rfl;have HBB:Hid (wb.heap[b]?=some (.cells #[.int .i64 size,.int .i64 (seq+1),.int .i64 half,.int .i64 (used+p),v,.slice AT nT cT,.map (some g)] 99 (0,0))):=Bb;have Ca:=Ua.chg (NoU.mk HI5.out.blk (by decide));have Cb:=Ub.chg (NoU.mk Ba (by decide));have HFB:Hid (Frm b g v w wb):=((Frm.ext HX5.out).trans (Frm.chg (v:=v) Ca (.inl rfl)) (fun q hq=>.inl hq)).trans (Frm.chg (v:=v) Cb (.inl rfl)) (fun q hq=>.inl hq);have HAB:=q_h ((HA5.out.upd Ua HI5.out.blk (by decide) (by decide)).upd Ub Ba (by decide) (by decide));have hgb:=HI5.out.gb
 have HIB:Hid (IxB base b g size (seq+1) half (used+p) v (.slice AT nT cT) L wb):=by
  refine⟨HBB.out,HI5.out.hb,HI5.out.hg,?_,(HI5.out.mp.chg Ca (by omega)).chg Cb (by omega)⟩;exact (HI5.out.obs.chg Ca HI5.out.blk (fun cs t fr e=>by injection e with _ e2 _;exact e2.symm)).chg Cb Ba (fun cs t fr e=>by injection e with _ e2 _;exact e2.symm)
 have HU5:Hid (∀k,k≠b->wb.heap[k]?=w5.heap[k]?):=fun k hk=>(Ub.block k hk).trans (Ua.block k hk)
 have HT5:Hid (wb.os=w5.os/\wb.tape=w5.tape/\wb.output=w5.output/\w5.heap.size<=wb.heap.size):=⟨Cb.os.trans Ca.os,Cb.tape.trans Ca.tape,Cb.output.trans Ca.output,q_l Ca.size Cb.size⟩
 have HMB:Hid (xH wb):=(HM.out.frm HFB.out HI.out.hb HI.out.hg (fun k hk=>(HI.out.obs.own_lt k hk).1)).mark;have HSB:Hid (w4.heap.size<=wb.heap.size):=by have:=HE45.out.size;have:=Ca.size;have:=Cb.size;rw[Hid];omega
 clear Ca Cb Bb Ub Ba Ua hv7;go_upto_region 7 with (fail);clear c3 f3 f1 r1 Ea Eb;rw[HV1.out] at HBB;have k0:wb.cell? ⟨b,0,none⟩=some (.int .i64 size):=(qj HBB.out 0).trans rfl;have k1:wb.cell? ⟨b,1,none⟩=some (.int .i64 (seq+1)):=(qj HBB.out 1).trans rfl;have k2:wb.cell? ⟨b,2,none⟩=some (.int .i64 half):=(qj HBB.out 2).trans rfl;have k3:wb.cell? ⟨b,3,none⟩=some (.int .i64 (used+p)):=(qj HBB.out 3).trans rfl;have k4:wb.cell? ⟨b,4,none⟩=some (.slice A1 ln c1):=(qj HBB.out 4).trans rfl;have k5:wb.cell? ⟨b,5,none⟩=some (.slice AT nT cT):=(qj HBB.out 5).trans rfl;go_wp2_with (go_at_call 122;refine q_o ?_);refine (JL HAB.out HSB.out (by have:=hp.out;omega) HMB.out (by omega) (by omega) hh0 (by omega) (by omega) (by omega)).mono ?_;rintro e w9 ⟨v9,rfl,hA9,hB9⟩
 have C39:Chg b (b+1) w3 w9:=by
  have e:=HE35.out;refine⟨hB9.os.trans (HT5.out.1.trans e.os),hB9.tape.trans (HT5.out.2.1.trans e.tape),hB9.output.trans (HT5.out.2.2.1.trans e.output),q_l e.size (q_l HT5.out.2.2.2 hB9.size),fun k hk hc=>?_⟩
  have hkb:k≠b:=by
   rintro rfl
   rcases hc with hc|hc|⟨cs,fr,hc⟩
   ·omega
   ·omega
   ·exact NoU.mk HI3.out.blk (by decide) cs fr hc
  exact (hB9.block k (Nat.lt_of_lt_of_le hk HS34.out)).trans ((HU5.out k hkb).trans (Below.block e k hk))
 have HB9:Hid (w9.heap[b]?=some (.cells #[.int .i64 size,.int .i64 (seq+1),.int .i64 half,.int .i64 (used+p),v,.slice AT nT cT,.map (some g)] 99 (0,0))):=by
  rw[HV1.out];exact (hB9.block b HBL.out).trans HBB.out
 have HI9:Hid (IxB base b g size (seq+1) half (used+p) v (.slice AT nT cT) L w9):=⟨HB9.out,HI.out.hb,HI.out.hg,HI3.out.obs.chg C39 HI3.out.blk (fun cs t fr e=>by injection e with _ e2 _;exact e2.symm),HI3.out.mp.chg C39 (by omega)⟩
 have HF9:Hid (Frm b g v w w9):=(Frm.ext HX3.out).trans (Frm.chg (v:=v) C39 (.inl rfl)) (fun q hq=>.inl hq)
 have HA9:Hid (zG w.heap.size w9 v9 (p+3) (vT p (fun j=>⟨2+half*qV size+used+j,pgE E j,false⟩) (Zr (seq+1) half (used+p)))):=by
  have h1:=hA9.low HS5.out.1;rw[HPF.out];rw[<-hp.out] at h1;exact h1
 clear k0 k1 k2 k3 k4 k5 hA9 hB9 C39;obtain⟨A9,c9,rfl,-⟩:=HA9.out.form;go_wp2
 first|go_ret2|skip
 rw[hR.out];refine .inr ⟨by rw[<-hh.out,<-hp.out];omega,by omega,_,rfl,?_,?_,HF9.out⟩
 ·rw[<-hp.out];exact HA9.out
 ·rw[<-hp.out];exact HI9.out
theorem kF:Cls 86 2 (.agg #[.string ⟨#[]⟩,.string ⟨#[]⟩]) 32:=⟨by kernel_rfl,rfl,by omega,by omega,by omega,by decide⟩
def tgX (l:List Tg) (n:Nat):List Value:=obX (fun j=>sV (l.getD j default).name) (fun j=>sV (l.getD j default).target) n
theorem Yt (l:List Tg) (n:Nat):∀u∈tgX l n,u.oneCell'=true:=by
 intro u hu;unfold tgX obX at hu;obtain⟨j,-,h⟩:=List.mem_flatMap.1 hu
 rcases List.mem_cons.1 h with rfl|h
 ·rfl
 ·rcases List.mem_cons.1 h with rfl|h
  ·rfl
  ·cases h
def TgG (base:Nat) (w:World) (v:Value) (l:List Tg):Prop:=qI 86 2 base w v l.length (tgX l l.length)
theorem TgG.ext{l:List Tg}(h:TgG base w v l) (e:Ext w w'):TgG base w' v l:=qI.ext h e
theorem TgG.low {b':Nat}{l:List Tg}(h:TgG base w v l) (hb:b'<=base):TgG b' w v l:=by
 refine⟨q_l hb h.1,h.2.1,?_⟩
 rcases h.2.2 with h0|⟨g,cap,cur,hv,hb0,h3⟩
 ·exact .inl h0
 ·exact .inr ⟨g,cap,cur,hv,by omega,h3⟩
theorem TgG.chg{l:List Tg}(h:TgG base w v l) (C:Chg g (g+1) w w'){ob:Obj}(hb:w.heap[g]?=some ob) (ht:∀cs t fr,ob=Obj.cells cs t fr->t≠86):TgG base w' v l:=by
 refine⟨q_l h.1 C.size,h.2.1,?_⟩
 rcases h.2.2 with h0|⟨g0,cap,cur,hv,hb0,hh,h3⟩
 ·exact .inl h0
 ·refine .inr ⟨g0,cap,cur,hv,hb0,C.blk hh ?_,h3⟩
  have:g0≠g:=by
   rintro rfl;rw[hh] at hb;injection hb with hb
   exact ht _ _ _ hb.symm rfl
  omega
theorem ObG.low {b':Nat}{L:List Ob}(h:ObG base w v L) (hb:b'<=base):ObG b' w v L:=by
 obtain⟨X,Y,h1,h2⟩:=h;refine⟨X,Y,⟨q_l hb h1.1,h1.2.1,?_⟩,h2⟩
 rcases h1.2.2 with h0|⟨g,cap,cur,hv,hb0,h3⟩
 ·exact .inl h0
 ·exact .inr ⟨g,cap,cur,hv,by omega,h3⟩
def VY (w:World) (l:List Tg) (e:Ending) (w':World):Prop:=∃A c,e=.returned (.slice A l.length c)/\TgG w.heap.size w' (.slice A l.length c) l/\Ext w w'
theorem TgG.tgs{l:List Tg}(h:TgG base w v l):jK w v l:=by
 have hf:∃A c,v=.slice A l.length c/\l.length<=c/\c<=maxLen:=by
  rcases h.2.2 with ⟨h4,h5⟩|⟨g,cap,cur,hv,hb,-,h4,h5,-⟩
  ·exact⟨none,0,by rw[h5];exact h4,by omega,Nat.zero_le _⟩
  ·exact⟨_,cap,hv,h4,h5⟩
 obtain⟨A,c,hv,hnc,hcm⟩:=hf;refine⟨A,c,hv,hnc,hcm,fun h0=>?_⟩;obtain⟨g,cap,hv2,hb,-,-,hcell⟩:=h.at_ h0;rw[hv] at hv2;injection hv2 with e1 e2 e3
 refine⟨g,0,e1,fun i hi=>?_⟩
 have hc:∀q,q<2->∀u,[sV (l.getD i default).name,sV (l.getD i default).target][q]?=some u->w.cell? ⟨g,0+i*2+q,none⟩=some u:=fun q hq u hu=>by
  rw[Nat.zero_add];exact hcell _ u ((yC _ _ q hq _ i hi).trans hu)
 exact⟨_,_,hc 0 (by omega) _ rfl,hc 1 (by omega) _ rfl,rfl,rfl⟩
theorem YD{l:List Tg}(h:jK w v l) (hl:l.length<=10000):Calls Tryz.prog 126 #[v] w (VY w l):=by
 obtain⟨Rf,hRf⟩:=qf (VY w l);rw[<-hRf.out];obtain⟨A,c,rfl,hnc,hcm⟩:=h.form;have HS:=q_h h;have HL:=q_h hl;obtain⟨n,hn⟩:=qf l.length;rw[<-hn.out] at hnc HS ⊢;have hnl:=fun (w:World) (a:Option Addr) (n c:Nat)=>Lib.run_eql_slice_nil (P:=Tryz.prog) w 23 86 a n c 0 0 Tryz.underlying23
 rcases A with _|ad
 ·have h0:n=0:=by
   rcases Nat.eq_zero_or_pos n with h0|h0
   ·exact h0
   ·rw[hn.out] at h0;obtain⟨b,off,h1,-⟩:=KY.addr h h0;cases h1
  have h1:l=[]:=List.eq_nil_of_length_eq_zero (by have:=hn.out;omega);subst h1;clear h hl hcm;go_enter Tryz.func126,Tryz.ntmps126;go_wp2
  first|go_ret|skip
  rw[hRf.out];exact⟨none,0,rfl,⟨q_r,rfl,.inl ⟨rfl,rfl⟩⟩,Ext.refl w⟩
 ·have hnews:∀j u,(tgX l n)[j]?=some u->w.cell? (ad.add j)=some u:=fun j u hj=>by
   have hjl:=(List.getElem?_eq_some_iff.1 hj).1;have hlen:(tgX l n).length=n*2:=xq _ _ n;have h0:0<l.length:=by have:=hn.out;omega
   obtain⟨g,off,e,hx⟩:=KY.addr h h0;injection e with e
   subst e;obtain⟨i,q,hq,rfl⟩:∃i q,q<2/\j=i*2+q:=⟨j / 2,j % 2,by omega,by omega⟩
   obtain⟨x,y,h1,h2,rfl,rfl⟩:=hx i (by have:=hn.out;omega);have h3:(tgX l n)[i*2+q]?=_:=yC _ _ q hq n i (by omega);rw[h3] at hj;rw[qW];have:q=0\/q=1:=by omega
   rcases this with rfl|rfl
   ·rw[<-hj];exact h1
   ·rw[<-hj];exact h2
  have HNW:=q_h hnews;clear h hl hcm hnews;go_enter Tryz.func126,Tryz.ntmps126;go_wp2_with (at_builtin;refine q_o ?_);refine qo ?_;intro W hE hsz B0;refine zh kF rfl _ _ 23 Tryz.underlying23 rfl (by rfl) (qI.empty (q_r) B0) (by rfl) (news:=tgX l n) (xq _ _ n) (fun j u hj=>hE.cell (HNW.out j u hj)) (Yt l n) (by have:=HL.out;have:=hn.out;omega) ?_;rintro v2 w2 hG - ⟨g',hg',-,C2⟩;have hE2:=C2.ext hE (by omega);rw[Nat.zero_add,List.nil_append] at hG;obtain⟨A2,c2,rfl⟩:=hG.form
  have HG:Hid (TgG w.heap.size w2 (.slice A2 n c2) l):=by
   rw[hn.out] at hG ⊢;refine TgG.low (base:=w.heap.size) ?_ (q_r);exact hG
  clear hG C2;go_wp2
  first|go_ret|skip
  rw[hRf.out];refine⟨A2,c2,(show Ending.returned (Value.slice A2 n c2)=_ by rw[hn.out]),?_,hE2⟩;rw[<-hn.out];exact HG.out
end
end Go.Proofs.YtdeeekdbhhenpaaGreatDoor
