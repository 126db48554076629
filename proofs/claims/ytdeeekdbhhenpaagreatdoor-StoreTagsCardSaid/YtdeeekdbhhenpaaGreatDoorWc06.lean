import Derived.Test.YtdeeekdbhhenpaaGreatDoorWc05
import GoSem.Op.String
import Derived.MapKept
set_option linter.all false
set_option maxHeartbeats 8000000
set_option maxRecDepth 100000
namespace Go.Proofs.YtdeeekdbhhenpaaGreatDoor
variable {w w':World} {N n lo hi k g m base c j:Nat} {v:Value} {A:Option Addr}
section
open Go.RowKit
theorem yO {b:Nat}{t:TypeId}{fr:Nat×Nat}:∀(vs:List Value) (o:Nat) (w:World) (cs:Array Value),w.heap[b]?=some (.cells cs t fr)->t≠196->(∃cs',(w.setCells b o vs).heap[b]?=some (.cells cs' t fr))/\Chg b (b+1) w (w.setCells b o vs)
 | [],_,w,cs,h,_=>⟨⟨cs,h⟩,Chg.refl _ _ _⟩
 | v :: r,o,w,cs,h,ht=>by
  have h1:(w.setCell ⟨b,o,none⟩ v).heap[b]?=some (.cells (cs.setIfInBounds o v) t fr):=by simp[World.setCell,Array.getElem?_modify,h]
  obtain⟨h2,h3⟩:=yO r (o+1) _ _ h1 ht
  have h12:Chg b (b+1) w (w.setCell ⟨b,o,none⟩ v):=by
   refine⟨rfl,rfl,rfl,by simp[World.setCell],fun k hk h9=>?_⟩
   have hne:k≠b:=by
    rintro rfl
    rcases h9 with h9|h9|⟨c9,f9,h9⟩
    ·omega
    ·omega
    ·exact NoU.mk h ht c9 f9 h9
   exact Below.heap_setCell _ _ _ _ hne
  have h4:w.setCells b o (v :: r)=(w.setCell ⟨b,o,none⟩ v).setCells b (o+1) r:=rfl;rw[h4];exact⟨h2,h12.trans h3⟩
def GbB (base:Nat) (w:World) (v:Value) (l:Byt):Prop:=∃g cap,v=.slice (some ⟨g,0,none⟩) l.length cap/\base<=g/\(∃cs fr,w.heap[g]?=some (.cells cs 5 fr))/\l.length<=cap/\cap<=maxLen/\(∀i,i<l.length->w.cell? ⟨g,i,none⟩=some (.int .u8 (chZ l i)))/\∀j,j<cap->(w.cell? ⟨g,j,none⟩).isSome=true/\w.frozen? ⟨g,j,none⟩=false
theorem GbB.by {base:Nat}{w:World}{v:Value}{l:Byt}(h:GbB base w v l):ByV w v l:=by
 obtain⟨g,cap,rfl,h1,h2,h3,h4,h5,h6⟩:=h;exact⟨_,cap,rfl,h3,h4,fun _=>⟨g,0,rfl,fun i hi=>by rw[Nat.zero_add];exact h5 i hi⟩⟩
theorem GbB.cnv{l:Byt}(hb0:base<=w.heap.size) (hl:l.length<=65536):GbB base (q0h l w) (.slice (some ⟨w.heap.size,0,none⟩) l.length (ZG l w)) l:=by
 have hb:(q0h l w).heap[w.heap.size]?=some (.cells (bytesRow ⟨l.toArray⟩ (ZG l w)) 5 ((bytesRow ⟨l.toArray⟩ (ZG l w)).size,(bytesRow ⟨l.toArray⟩ (ZG l w)).size+1)):=heap_alloc_new w.drew _
 have hsz:ZG l w<=(bytesRow ⟨l.toArray⟩ (ZG l w)).size:=by
  have h1:l.length<=ZG l w:=grownCap_ge _ _ _ _;have hq:(⟨l.toArray⟩:ByteArray).size=l.length:=by show l.toArray.size=_;rw[List.size_toArray]
  simp[bytesRow]
  omega
 refine⟨_,_,rfl,hb0,⟨_,_,hb⟩,grownCap_ge _ _ _ _,grownCap_le_maxLen _ _ _ _ (by unfold maxLen;omega),fun i hi=>?_,fun j hj=>⟨?_,?_⟩⟩
 ·rw[qj hb];have h9:=bytesRow_at ⟨l.toArray⟩ (ZG l w) i (by show i<l.toArray.size;rw[List.size_toArray];exact hi);rw[h9,jF hi]
  rfl
 ·rw[qj hb,Array.getElem?_eq_getElem (by omega)]
  rfl
 ·unfold World.frozen?;rw[hb];have:¬(bytesRow ⟨l.toArray⟩ (ZG l w)).size<=j:=by omega
  simp[this]
theorem QW{u:Value}{l s:Byt}(ty:TypeId) (h:GbB base w v l) (hu:ByV w u s) (hn:l.length+s.length<=1000000000) :
  ∃v' w',(Builtin.append_ #[27,27] ty #[v,u]).run Tryz.prog w=.ok v' w'/\GbB base w' v' (l++s)/\(∃g',base<=g'/\(v.ownBlock=some g'\/w.heap.size<=g')/\Chg g' (g'+1) w w'):=by
 obtain⟨g,cap,rfl,h1,⟨cs,fr,h2⟩,h3,h4,h5,h6⟩:=h;obtain⟨A,c,rfl,hmc,hcm,hx⟩:=hu;obtain⟨i0,hi0,hi1,hi2,hi3⟩:=info_parts kX.inf
 rcases Nat.eq_zero_or_pos s.length with h0|h0
 ·have es:s=[]:=List.eq_nil_of_length_eq_zero h0;subst es;refine⟨_,w,kC Tryz.underlying27 hi0 _ l.length cap h3 A c w,by rw[List.append_nil];exact⟨g,cap,rfl,h1,⟨cs,fr,h2⟩,h3,h4,h5,h6⟩,g,h1,.inl rfl,Chg.refl _ _ _⟩
 ·obtain⟨b,off,rfl,hc⟩:=hx h0;have hsz:i0.size=1:=hi2
  have hs:Src Tryz.prog i0.size 27 (.slice (some ⟨b,off,none⟩) s.length c) s.length (byC s) w:=by
   refine Src.ofSlice w Tryz.underlying27 _ _ _ _ (by rw[hsz,qy,Nat.mul_one]) (fun j x hj=>?_) q1T
   have hjm:j<s.length:=by
    have:=(List.getElem?_eq_some_iff.1 hj).1
    rwa [qy] at this
   have hj2:=Option.some.inj ((zt hjm).symm.trans hj);rw[<-hj2,qW];exact hc j hjm
  by_cases hr:l.length+s.length<=cap
  ·have hrun:=run_append_room_src (P:=Tryz.prog) (w:=w) 27 27 ty 5 i0 Tryz.underlying27 hi0 g 0 l.length cap _ s.length (byC s) hs hr
    (fun j hj=>by rw[qy] at hj;rw[hsz,Nat.zero_add,Nat.mul_one];exact (h6 _ (by omega)).1) (fun j hj=>by rw[qy] at hj;rw[hsz,Nat.zero_add,Nat.mul_one];exact (h6 _ (by omega)).2)
   rw[hsz,Nat.zero_add,Nat.mul_one] at hrun;obtain⟨⟨cs',k1⟩,k2⟩:=yO (byC s) l.length w cs h2 (by decide);have hin:=World.cell?_setCells_in g (byC s) l.length w (fun j hj=>by rw[qy] at hj;exact (h6 _ (by omega)).1);have hold:∀i,i<l.length->(w.setCells g l.length (byC s)).cell? ⟨g,i,none⟩=w.cell? ⟨g,i,none⟩:=fun i hi=>World.cell?_setCells_out g (byC s) l.length w ⟨g,i,none⟩ (fun _ _=>.inl hi)
   refine⟨_,_,hrun,⟨g,cap,by rw[List.length_append],h1,⟨cs',fr,k1⟩,by rw[List.length_append];exact hr,h4,fun i hi=>?_,fun j hj=>⟨?_,by rw[World.frozen?_setCells];exact (h6 j hj).2⟩⟩,g,h1,.inl rfl,k2⟩
   ·rw[List.length_append] at hi
    by_cases hlt:i<l.length
    ·rw[hold i hlt,h5 i hlt];have e1:=zt (l:=l++s) (i:=i) (by rw[List.length_append];exact hi);rw[zY,List.getElem?_append_left (by rw[qy];exact hlt),zt hlt] at e1;exact e1
    ·obtain⟨j,rfl⟩:∃j,i=l.length+j:=⟨i-l.length,by omega⟩
     have hjl:j<(byC s).length:=by rw[qy];omega
     rw[hin j hjl];have e1:=zt (l:=l++s) (i:=l.length+j) (by rw[List.length_append];exact hi);rw[zY,List.getElem?_append_right (by rw[qy];omega),qy,Nat.add_sub_cancel_left,List.getElem?_eq_getElem hjl] at e1;exact e1
   ·by_cases hlt:l.length<=j/\j<l.length+s.length
    ·obtain⟨q,rfl⟩:∃q,j=l.length+q:=⟨j-l.length,by omega⟩
     rw[hin q (by rw[qy];omega)]
     rfl
    ·rw[World.cell?_setCells_out g (byC s) l.length w ⟨g,j,none⟩ (fun _ _=>by rw[qy];show j<l.length\/l.length+s.length<=j;omega)];exact (h6 j hj).1
  ·have hold:(Builtin.firstCells i0.size l.length (.slice (some ⟨g,0,none⟩) l.length cap)).run Tryz.prog w.drew=.ok (byC l).toArray w.drew:=by
    refine run_firstCells_some w.drew i0.size l.length ⟨g,0,none⟩ l.length cap (byC l) (by rw[hsz,qy,Nat.mul_one]) (fun j x hj=>?_)
    have hjm:j<l.length:=by
     have:=(List.getElem?_eq_some_iff.1 hj).1
     rwa [qy] at this
    have hj2:=Option.some.inj ((zt hjm).symm.trans hj);rw[<-hj2,qW,Nat.zero_add];exact h5 j hjm
   have hrun:=run_append_grow_src (P:=Tryz.prog) w 27 27 ty 5 i0 _ Tryz.underlying27 hi0 hi1 (some ⟨g,0,none⟩) l.length cap (byC l) hold _ s.length (byC s) hs (by omega) (by omega) (growslice_fits (by omega) (by rw[hi3];omega));have hge:=grownCap_ge w (l.length+s.length) cap 5;have hcm2:=grownCap_le_maxLen w (l.length+s.length) cap 5 (by unfold maxLen;omega);obtain⟨k,hk⟩:=qf (grownCap w (l.length+s.length) cap 5);rw[<-hk.out] at hrun hge hcm2;obtain⟨row,hrow⟩:=qf ((byC l++byC s).toArray++Builtin.zeroCells (Value.int .u8 0).cells (k-(l.length+s.length)))
   have hrs:row.size=k:=by
    rw[hrow.out,Array.size_append,List.size_toArray,List.length_append,qy,qy,size_zeroCells,kX.cells];omega
   have hrg:∀i,i<l.length+s.length->row[i]?=some (.int .u8 (chZ (l++s) i)):=fun i hi=>by
    rw[hrow.out,Array.getElem?_append_left (by rw[List.size_toArray,List.length_append,qy,qy];exact hi),List.getElem?_toArray,<-zY];exact zt (by rw[List.length_append];exact hi)
   rw[<-hrow.out] at hrun;have hb:(w.drew.alloc (.cells row 5)).heap[w.heap.size]?=some (.cells row 5 (0,0)):=heap_alloc_new w.drew _;have hg9:g<w.heap.size:=(Array.getElem?_eq_some_iff.1 h2).1;have hbs:base<=w.heap.size:=by omega
   refine⟨_,_,hrun,⟨w.heap.size,k,by rw[List.length_append],?_,⟨_,_,hb⟩,by rw[List.length_append];exact hge,hcm2,fun i hi=>?_,fun j hj=>⟨?_,qp hb j⟩⟩,w.heap.size,?_,.inr (q_r),Ext.chg ((Ext.refl w).drew.alloc _) _ _⟩
   ·exact hbs
   ·rw[List.length_append] at hi;exact (qj hb i).trans (hrg i hi)
   ·rw[qj hb,Array.getElem?_eq_getElem (by omega)]
    rfl
   ·exact hbs
theorem yL{u:Value}{l s:Byt}{o:Oper}{a:Act}{K:Act->World->Prop}{Q:Exit->Act->World->Prop}(p x:Operand)
  (ho:o.op=.call { callee:=.builtin .append,args:=#[p,x],argTypes:=#[27,27] }) (hs:a.eval p=v) (h:GbB base w v l) (hx:a.eval x=u) (hu:ByV w u s) (hn:l.length+s.length<=1000000000)
  (hK:∀v' w',GbB base w' v' (l++s)->(∃g',base<=g'/\(v.ownBlock=some g'\/w.heap.size<=g')/\Chg g' (g'+1) w w')->K (a.put o.dst v') w'):o.wp Tryz.prog a w K Q:=by
 obtain⟨v',w',hrun,h2,h3⟩:=QW o.type h hu hn;unfold Oper.wp execOp;simp only[ho,resolve,invoke,builtin,Sem.run_bind,Sem.run_pure,Result.andThen_ok,List.map_toArray,List.map_cons,List.map_nil,hs,hx,hrun];exact hK v' w' h2 h3
theorem vg{u:Value}{l s:Byt}{ops:Array Oper}{rest:List Oper}{o:Oper}{a:Act}{Q:Exit->Act->World->Prop}(hgd:o.guard=none) (p x:Operand)
  (ho:o.op=.call { callee:=.builtin .append,args:=#[p,x],argTypes:=#[27,27] }) (hs:a.eval p=v) (h:GbB base w v l) (hx:a.eval x=u) (hu:ByV w u s) (hn:l.length+s.length<=1000000000)
  (hK:∀v' w',GbB base w' v' (l++s)->(∃g',base<=g'/\(v.ownBlock=some g'\/w.heap.size<=g')/\Chg g' (g'+1) w w')->wpList Tryz.prog ops Q rest (a.put o.dst v') w'):wpList Tryz.prog ops Q (o :: rest) a w :=
 wpList_plain hgd fun _ hK'=>yL p x ho hs h hx hu hn (fun v' w' a1 a2=>hK' _ _ (hK v' w' a1 a2))
end
section
structure Ob where
 links:List Byt
 data:Byt
structure Tg where
 name:Byt
 target:Byt
structure Shf where
 size:Int
 seq:Int
 half:Int
 used:Int
 objs:List Ob
 tags:List Tg
structure qX where
 page:Int
 data:Byt
 bar:Bool
def ZE (o:Ob):Vl:=.lst (o.links.map .txt)
def qM (o:Ob):Byt:=nmB (enc (.lst [ZE o,.txt o.data]))
def obC (o:Ob):Int:=if 16<o.links.length\/1024<o.data.length then 3 else if o.links.all Ql then 0 else 10
def obE (o:Ob):Byt:=enc (.lst [.int 0,ZE o,.txt o.data])
def tgE (t:Tg):Byt:=enc (.lst [.int 1,.txt t.name,.txt t.target])
def pgN (e:Byt):Nat:=(4+e.length+63) / 64
def isLow (c:UInt8):Bool:=97<=c.toNat&&c.toNat<=122
def X5 (c:UInt8):Bool:=isLow c||(48<=c.toNat&&c.toNat<=57)||c.toNat == 46||c.toNat == 45
def Xr (s:Byt):Bool:=Ql s||(match s with|[]=>false|c :: _=>isLow c&&(s.length<=24&&s.all X5))
def jy (known:List Byt) (o:Ob):Bool:=obC o == 0&&(!known.contains (qM o)&&o.links.all (known.contains ·))
def wV:List Byt->List Ob->Bool
 | _,[]=>true
 | known,o :: l=>jy known o&&wV (known ++ [qM o]) l
def ZB (known:List Byt):Option Byt->List Tg->Bool
 | _,[]=>true
 | p,t :: l=>Xr t.name&&(known.contains t.target&&((match p with|none=>true|some q=>Go.Op.bytesLess q t.name)&&ZB known (some t.name) l))
def pgs (s:Shf):Nat:=(s.objs.map fun o=>pgN (obE o)).sum+(s.tags.map fun t=>pgN (tgE t)).sum
def xY (s:Shf):List Byt:=s.objs.map qM
def qV (n:Int):Int:=(n-2).tdiv 2
def headB (s:Shf):Bool:=decide (8<=s.size)&&(decide (s.size<=4096)&&(decide (0<=s.seq)&&(decide (s.seq<=2147483647)&&(decide (0<=s.half)&&(decide (s.half<=1)&&decide (s.used<=qV s.size))))))
def qE (s:Shf):Bool:=headB s&&(wV [] s.objs&&(ZB (xY s) none s.tags&&decide ((pgs s:Int)<=s.used)))
def b4 (n:Int):Byt:=[UInt8.ofNat (n / 16777216 % 256).toNat,UInt8.ofNat (n / 65536 % 256).toNat,UInt8.ofNat (n / 256 % 256).toNat,UInt8.ofNat (n % 256).toNat]
def jq (seq half used:Int):Byt:=[70,83,66,49]++b4 seq ++ [UInt8.ofNat (half % 256).toNat]++b4 used++List.replicate 51 0
theorem vG (a b c:Int):(jq a b c).length=64:=by simp[jq,b4]
def vk (e:Byt):Byt:=b4 e.length++e++List.replicate (64*pgN e-4-e.length) 0
def wrA (e:Byt) (page:Int):List qX:=(List.range (pgN e)).map fun (i:Nat)=>⟨page+i,((vk e).drop (64*i)).take 64,false⟩
def comA (s:Shf):List qX:=[⟨0,[],true⟩,⟨s.seq.tmod 2,jq s.seq s.half s.used,false⟩,⟨0,[],true⟩]
def QM (s:Shf) (e:Byt):Option (Shf×List qX) :=
 if qV s.size<s.used+pgN e\/s.seq=2147483647 then none
 else
  let t:Shf:={ s with used:=s.used+pgN e,seq:=s.seq+1 }
  some (t,wrA e (2+s.half*qV s.size+s.used)++comA t)
instance:DecidableEq Ob:=fun a b=>by
 cases a;cases b
 rename_i a1 a2 b1 b2
 exact if h:a1=b1/\a2=b2 then .isTrue (by rw[h.1,h.2]) else .isFalse (fun e=>h (by injection e with e1 e2;exact⟨e1,e2⟩))
def zeroS:Shf:=⟨0,0,0,0,[],[]⟩
def QX (s:Shf) (o:Ob):Shf×List qX×Byt×Int :=
 if qE s=false then (zeroS,[],[],1)
 else if obC o≠0 then (zeroS,[],[],obC o)
 else match (xY s).idxOf? (qM o) with
  | some i=>if s.objs[i]?=some o then (s,[],qM o,0) else (zeroS,[],[],18)
  | none =>
   if o.links.all ((xY s).contains ·)=false then (zeroS,[],[],6)
   else match QM s (obE o) with
    | none=>(zeroS,[],[],17)
    | some (t,acts)=>({ t with objs:=s.objs ++ [o] },acts,qM o,0)
end
section
open Go.RowKit
instance:Inhabited Ob:=⟨⟨[],[]⟩⟩
instance:Inhabited Tg:=⟨⟨[],[]⟩⟩
instance:Inhabited qX:=⟨⟨0,[],false⟩⟩
def Qm (R:Nat->Value->Prop) (w:World) (v:Value) (n:Nat):Prop:=∃(A:Option Addr) (c:Nat),v=.slice A n c/\n<=c/\c<=maxLen/\(0<n->∃g off,A=some ⟨g,off,none⟩/\∀i,i<n->∃x,w.cell? ⟨g,off+i,none⟩=some x/\R i x)
def KY (R:Nat->Value->Value->Prop) (w:World) (v:Value) (n:Nat):Prop:=∃(A:Option Addr) (c:Nat),v=.slice A n c/\n<=c/\c<=maxLen/\(0<n->∃g off,A=some ⟨g,off,none⟩/\∀i,i<n->∃x y,w.cell? ⟨g,off+i*2,none⟩=some x/\w.cell? ⟨g,off+i*2+1,none⟩=some y/\R i x y)
def Wp (R:Nat->Value->Value->Value->Prop) (w:World) (v:Value) (n:Nat):Prop:=∃(A:Option Addr) (c:Nat),v=.slice A n c/\n<=c/\c<=maxLen/\(0<n->∃g off,A=some ⟨g,off,none⟩/\∀i,i<n->∃x y z,w.cell? ⟨g,off+i*3,none⟩=some x/\w.cell? ⟨g,off+i*3+1,none⟩=some y/\w.cell? ⟨g,off+i*3+2,none⟩=some z/\R i x y z)
section
variable {w w':World}{v:Value}{n:Nat}
theorem Qm.ext {R R':Nat->Value->Prop}(h:Qm R w v n) (e:Ext w w') (H:∀i x,i<n->R i x->R' i x):Qm R' w' v n:=by
 obtain⟨A,c,h1,h2,h3,h4⟩:=h;refine⟨A,c,h1,h2,h3,fun hn=>?_⟩;obtain⟨g,off,h5,h6⟩:=h4 hn;exact⟨g,off,h5,fun i hi=>by obtain⟨x,h7,h8⟩:=h6 i hi;exact⟨x,e.cell h7,H i x hi h8⟩⟩
theorem KY.ext {R R':Nat->Value->Value->Prop}(h:KY R w v n) (e:Ext w w') (H:∀i x y,i<n->R i x y->R' i x y):KY R' w' v n:=by
 obtain⟨A,c,h1,h2,h3,h4⟩:=h;refine⟨A,c,h1,h2,h3,fun hn=>?_⟩;obtain⟨g,off,h5,h6⟩:=h4 hn;exact⟨g,off,h5,fun i hi=>by obtain⟨x,y,h7,h8,h9⟩:=h6 i hi;exact⟨x,y,e.cell h7,e.cell h8,H i x y hi h9⟩⟩
theorem Wp.ext {R R':Nat->Value->Value->Value->Prop}(h:Wp R w v n) (e:Ext w w') (H:∀i x y z,i<n->R i x y z->R' i x y z):Wp R' w' v n:=by
 obtain⟨A,c,h1,h2,h3,h4⟩:=h;refine⟨A,c,h1,h2,h3,fun hn=>?_⟩;obtain⟨g,off,h5,h6⟩:=h4 hn;exact⟨g,off,h5,fun i hi=>by obtain⟨x,y,z,h7,h8,h9,h0⟩:=h6 i hi;exact⟨x,y,z,e.cell h7,e.cell h8,e.cell h9,H i x y z hi h0⟩⟩
theorem Qm.form {R:Nat->Value->Prop}(h:Qm R w v n):∃A c,v=.slice A n c/\n<=c/\c<=maxLen:=by
 obtain⟨A,c,h1,h2,h3,-⟩:=h;exact⟨A,c,h1,h2,h3⟩
theorem KY.form {R:Nat->Value->Value->Prop}(h:KY R w v n):∃A c,v=.slice A n c/\n<=c/\c<=maxLen:=by
 obtain⟨A,c,h1,h2,h3,-⟩:=h;exact⟨A,c,h1,h2,h3⟩
theorem Wp.form {R:Nat->Value->Value->Value->Prop}(h:Wp R w v n):∃A c,v=.slice A n c/\n<=c/\c<=maxLen:=by
 obtain⟨A,c,h1,h2,h3,-⟩:=h;exact⟨A,c,h1,h2,h3⟩
theorem Qm.addr {R:Nat->Value->Prop}(h:Qm R w (.slice A n k) n) (hn:0<n):∃g off,A=some ⟨g,off,none⟩/\∀i,i<n->∃x,w.cell? ⟨g,off+i,none⟩=some x/\R i x:=by
 obtain⟨A',c,h1,-,-,h4⟩:=h;obtain⟨rfl,-,-⟩:=Value.slice.inj h1;exact h4 hn
theorem KY.addr {R:Nat->Value->Value->Prop}(h:KY R w (.slice A n k) n) (hn:0<n):∃g off,A=some ⟨g,off,none⟩/\∀i,i<n->∃x y,w.cell? ⟨g,off+i*2,none⟩=some x/\w.cell? ⟨g,off+i*2+1,none⟩=some y/\R i x y:=by
 obtain⟨A',c,h1,-,-,h4⟩:=h;obtain⟨rfl,-,-⟩:=Value.slice.inj h1;exact h4 hn
theorem Wp.addr {R:Nat->Value->Value->Value->Prop}(h:Wp R w (.slice A n k) n) (hn:0<n):∃g off,A=some ⟨g,off,none⟩/\∀i,i<n->∃x y z,w.cell? ⟨g,off+i*3,none⟩=some x/\w.cell? ⟨g,off+i*3+1,none⟩=some y/\w.cell? ⟨g,off+i*3+2,none⟩=some z/\R i x y z:=by
 obtain⟨A',c,h1,-,-,h4⟩:=h;obtain⟨rfl,-,-⟩:=Value.slice.inj h1;exact h4 hn
end
def qZ (w:World) (v:Value) (l:List Byt):Prop:=Qm (fun i x=>x=sV (l.getD i [])) w v l.length
def jH (w:World) (v:Value) (l:List Byt):Prop:=Qm (fun i x=>ByV w x (l.getD i [])) w v l.length
def ObR (w:World) (x y:Value) (o:Ob):Prop:=qZ w x o.links/\ByV w y o.data
def ObV (w:World) (v:Value) (o:Ob):Prop:=∃x y,v=.agg #[x,y]/\ObR w x y o
def yJ (w:World) (v:Value) (l:List Ob):Prop:=KY (fun i x y=>ObR w x y (l.getD i default)) w v l.length
def jK (w:World) (v:Value) (l:List Tg):Prop:=KY (fun i x y=>x=sV (l.getD i default).name/\y=sV (l.getD i default).target) w v l.length
def ActR (w:World) (x y z:Value) (a:qX):Prop:=x=.int .i64 a.page/\ByV w y a.data/\z=.bool a.bar
def zJ (w:World) (v:Value) (l:List qX):Prop:=Wp (fun i x y z=>ActR w x y z (l.getD i default)) w v l.length
def q0A (w:World) (v:Value) (s:Shf):Prop:=∃x y,v=.agg #[.int .i64 s.size,.int .i64 s.seq,.int .i64 s.half,.int .i64 s.used,x,y]/\yJ w x s.objs/\jK w y s.tags
section
variable {w w':World}
theorem qZ.ext{l:List Byt}(h:qZ w v l) (e:Ext w w'):qZ w' v l:=Qm.ext h e (fun _ _ _ h=>h)
theorem jH.ext{l:List Byt}(h:jH w v l) (e:Ext w w'):jH w' v l:=Qm.ext h e (fun _ _ _ h=>h.ext e)
theorem ObR.ext {x y:Value}{o:Ob}(h:ObR w x y o) (e:Ext w w'):ObR w' x y o:=⟨h.1.ext e,h.2.ext e⟩
theorem yJ.ext{l:List Ob}(h:yJ w v l) (e:Ext w w'):yJ w' v l:=KY.ext h e (fun _ _ _ _ h=>h.ext e)
theorem jK.ext{l:List Tg}(h:jK w v l) (e:Ext w w'):jK w' v l:=KY.ext h e (fun _ _ _ _ h=>h)
theorem zJ.ext{l:List qX}(h:zJ w v l) (e:Ext w w'):zJ w' v l:=Wp.ext h e (fun _ _ _ _ _ h=>⟨h.1,h.2.1.ext e,h.2.2⟩)
theorem q0A.ext{s:Shf}(h:q0A w v s) (e:Ext w w'):q0A w' v s:=by
 obtain⟨x,y,h1,h2,h3⟩:=h;exact⟨x,y,h1,h2.ext e,h3.ext e⟩
end
theorem ByV.form{l:Byt}(h:ByV w v l):∃A c,v=.slice A l.length c/\l.length<=c/\c<=maxLen:=by
 obtain⟨A,c,h1,h2,h3,-⟩:=h;exact⟨A,c,h1,h2,h3⟩
theorem ByV.addr{l:Byt}(h:ByV w (.slice A n k) l) (hn:0<n):∃g off,A=some ⟨g,off,none⟩/\∀i,i<n->w.cell? ⟨g,off+i,none⟩=some (.int .u8 (chZ l i)):=by
 obtain⟨A',c,h1,-,-,h4⟩:=h;obtain⟨rfl,rfl,-⟩:=Value.slice.inj h1;exact h4 hn
theorem GbB.ext{l:Byt}(h:GbB base w v l) (e:Ext w w'):GbB base w' v l:=by
 obtain⟨g,cap,rfl,h1,⟨cs,fr,h2⟩,h3,h4,h5,h6⟩:=h;refine⟨g,cap,rfl,h1,⟨cs,fr,e.block h2⟩,h3,h4,fun i hi=>e.cell (h5 i hi),fun j hj=>?_⟩;rw[qj (e.block h2),<-qj h2];refine⟨(h6 j hj).1,?_⟩;have h9:=(h6 j hj).2;unfold World.frozen? at h9 ⊢;rw[h2] at h9;rw[e.block h2];exact h9
theorem GbB.mono {b':Nat}{l:Byt}(h:GbB base w v l) (hb:b'<=base):GbB b' w v l:=by
 obtain⟨g,cap,rfl,h1,h2⟩:=h;exact⟨g,cap,rfl,by omega,h2⟩
theorem GbB.form{l:Byt}(h:GbB base w v l):∃g cap,v=.slice (some ⟨g,0,none⟩) l.length cap/\base<=g/\g<w.heap.size/\l.length<=cap/\cap<=maxLen:=by
 obtain⟨g,cap,rfl,h1,⟨cs,fr,h2⟩,h3,h4,-⟩:=h;exact⟨g,cap,rfl,h1,qK h2,h3,h4⟩
theorem GrB.ext{l:Byt}(h:GrB base w v l) (e:Ext w w'):GrB base w' v l:=qB.ext h e
end
section
section
variable {P:Program}{ops:Array Oper}{Q:Exit->Act->World->Prop}{S:World->Prop}{late:List Nat}
theorem sF (i:Nat){oi:Oper}{fuel:Nat}{listed:Array Bool}{a:Act}(hi:ops.toList[i]?=some oi:=by rfl)
  (hs:Region.noSelect ops=true:=by kernel_rfl) (hf:Region.free .any ops listed i=true:=by kernel_rfl) (hr:(Region.ready .any ops listed).contains i=true:=by kernel_rfl)
  (hQ:∀c a w,Q (.panic c) (a.put oi.dst undef) w->Q (.panic c) a w:=by exact fun _ _ _ h=>h) (hg:Region.wanted oi (yielded ops a.tmps)=false:=by rfl)
  {L':Array Bool}{A':Act}(hL:listed.setIfInBounds i true=L':=by first|(simp only[nr];done)|(simp only[nr];rfl)|rfl) (hA:a.put oi.dst undef=A':=by first|(simp only[nr];done)|(simp only[nr];rfl)|rfl)
  (h:xk P ops Q S late fuel L' A' w):xk P ops Q S late (fuel+1) listed a w :=
 Qy hi hs hf hr hQ (Or.inr ⟨hg,rfl⟩) (by rw[hL,hA];exact h)
end
end
section
open Go.RowKit
def q3h (w:World) (l:Byt) (e:Ending) (w':World):Prop:=∃v,e=.returned v/\GbB w.heap.size w' v l/\Ext w w'
theorem WH{ops:Array Oper}{o:Oper}{a:Act}{K:Act->World->Prop}{Q:Exit->Act->World->Prop}{E:Prop}(hgd:o.guard=none) (x:Operand) (ho:o.op=.convert 9 27 x){l:Byt}(hx:a.eval x=sV l) (hl:l.length<=65536)(hb:base<=w.heap.size)
  (hK:∀v' w',GbB base w' v' l->Ext w w'->K (a.put o.dst v') w') :
  if Region.wanted o (yielded ops a.tmps)=true then Oper.wp Tryz.prog o a w K Q else E:=by
 have hw:Region.wanted o (yielded ops a.tmps)=true:=by simp[Region.wanted,hgd]
 rw[if_pos hw];have hrun:=wP l w;have h1:GbB base (q0h l w) (.slice (some ⟨w.heap.size,0,none⟩) l.length (ZG l w)) l:=GbB.cnv hb hl;have h2:=Qa l w
 generalize q0h l w=w' at hrun h1 h2
 generalize Value.slice (some ⟨w.heap.size,0,none⟩) l.length (ZG l w)=v' at hrun h1
 unfold Oper.wp execOp;simp only[ho,hx,Sem.run_bind,hrun,Result.andThen_ok,Sem.run_pure];exact hK _ _ h1 h2
theorem Qo{u:Value}{l s:Byt}{ops:Array Oper}{o:Oper}{a:Act}{K:Act->World->Prop}{Q:Exit->Act->World->Prop}{E:Prop}(hgd:o.guard=none) (p x:Operand)
  (ho:o.op=.call { callee:=.builtin .append,args:=#[p,x],argTypes:=#[27,27] }) (hs:a.eval p=v) (h:GbB base w v l) (hx:a.eval x=u) (hu:ByV w u s) (hn:l.length+s.length<=1000000000)
  (hK:∀v' w',GbB base w' v' (l++s)->(∃g',base<=g'/\(v.ownBlock=some g'\/w.heap.size<=g')/\Chg g' (g'+1) w w')->K (a.put o.dst v') w') :
  if Region.wanted o (yielded ops a.tmps)=true then Oper.wp Tryz.prog o a w K Q else E:=by
 have hw:Region.wanted o (yielded ops a.tmps)=true:=by simp[Region.wanted,hgd]
 rw[if_pos hw];exact yL p x ho hs h hx hu hn hK
theorem GbB.ne{l:Byt}(h:GbB base w v l) (hw:v.ownBlock=some g\/w.heap.size<=g){cs:Array Value}{t:TypeId}{fr:Nat×Nat}(hk:w.heap[k]?=some (.cells cs t fr)) (ht:t≠5):k≠g:=by
 rintro rfl;have h9:=qK hk
 rcases hw with hw|hw
 ·obtain⟨g0,cap,rfl,h1,⟨cs',fr',h2⟩,-⟩:=h;obtain rfl:g0=k:=by simpa[Value.ownBlock] using hw
  rw[hk] at h2;injection h2 with h2
  injection h2 with h3 h4 h5
  exact ht h4
 ·omega
theorem jC {nn:Bool}{N:Nat}:∀(m:Nat) (V:Vl),szV V<=m->∀(w:World) (v:Value),jR V->VlV nn N w V v->(enc V).length<=65536->Calls Tryz.prog 163 #[v] w (q3h w (enc V))
 | 0,V,hm,_,_,_,_,_=>by cases V<;>(unfold szV at hm;omega)
 | m+1,V,hm,w,v,hs,hv,hl=>by
  cases V with
  | int z =>
   unfold VlV at hv;obtain⟨x1,x2,x3,x4,rfl,hI,⟨A1,k1,rfl⟩,⟨A2,k2,rfl⟩⟩:=hv;have HI:=q_h hI;obtain⟨nb,A,n,k,hab,-⟩:=hI.parts;simp only[Value.agg.injEq,Array.mk.injEq,List.cons.injEq,and_true] at hab;obtain⟨rfl,rfl⟩:=hab;have hz:0<=z/\z<10:=by unfold jR at hs;exact hs
   have HZ:=q_h hz;obtain⟨s0,hs0⟩:=qf (sV (Go.Lib.itoa z));have HIL:Hid ((Go.Lib.itoa z).length=1):=by rw[Hid,Zc hz.1 hz.2];rfl
   obtain⟨s1,hs1⟩:=qf (sV ([105]++Go.Lib.itoa z));obtain⟨s2,hs2⟩:=qf (sV ([105]++Go.Lib.itoa z ++ [59]))
   have t1:∀w,(binOp .add 9 (.string ⟨#[105]⟩) s0).run Tryz.prog w=.ok s1 w:=by
    rw[hs0.out,hs1.out];exact zL [105] (Go.Lib.itoa z) (by have:=HIL.out;simp;omega)
   have t2:∀w,(binOp .add 9 s1 (.string ⟨#[59]⟩)).run Tryz.prog w=.ok s2 w:=by
    rw[hs1.out,hs2.out];exact zL ([105]++Go.Lib.itoa z) [59] (by have:=HIL.out;simp;omega)
   have HEN:Hid (enc (.int z)=[105]++Go.Lib.itoa z ++ [59]):=by rw[Hid];unfold enc;rfl
   have HS2:Hid (s2=sV (enc (.int z))):=by rw[Hid,HEN.out,hs2.out]
   have HL:=q_h hl;clear hI hz hs hm hl;go_enter Tryz.func163,Tryz.ntmps163;go_upto_region 1 with (fail);refine qo ?_;intro w1 hE hsz1 B0;obtain⟨p0,p1,p2,p3,p4⟩:=qA B0;go_wp2_with (go_at_call 198;refine q_o ?_);refine (J6 (HI.out.ext hE) HZ.out.1 HZ.out.2).mono ?_;rintro e w2 ⟨rfl,e2⟩;rw[<-hs0.out];have hcw:=wP (enc (.int z)) w2;rw[<-HS2.out] at hcw;have HG:=q_h (GbB.cnv (base:=w.heap.size) (l:=enc (.int z)) (w:=w2) (hE.trans e2).size HL.out);have HX:=q_h ((hE.trans e2).trans (Qa (enc (.int z)) w2));clear p0 p1 p2 p3 p4;go_wp2;go_ret;exact⟨_,rfl,HG.out,HX.out⟩
  | txt s =>
   unfold VlV at hv;obtain⟨c1,c2,c3,rfl,⟨A1,k1,rfl⟩,⟨hby,-⟩,⟨A2,k2,rfl⟩⟩:=hv;obtain⟨A,k,rfl,hnk,hkm⟩:=hby.form;have HS:=q_h hby;have HL:=q_h hl;have hsl:s.length<=65536:=by unfold enc at hl;simp at hl;omega
   obtain⟨n,hn⟩:=qf s.length;rw[<-hn.out] at hnk HS ⊢;have HN6:Hid (n<=65536):=by rw[Hid,hn.out];exact hsl
   clear hby hl hsl hm hs;have hdl:=q_h (xA (n:=n) HN6.out);obtain⟨s0,hs0⟩:=qf (sV (dec n));obtain⟨s1,hs1⟩:=qf (sV ([116]++dec n));obtain⟨h0,hh0⟩:=qf ([116]++dec n ++ [58]);obtain⟨s2,hs2⟩:=qf (sV h0)
   have t1:∀w,(binOp .add 9 (.string ⟨#[116]⟩) s0).run Tryz.prog w=.ok s1 w:=by
    rw[hs0.out,hs1.out];exact zL [116] (dec n) (by have:=hdl.out;simp;omega)
   have t2:∀w,(binOp .add 9 s1 (.string ⟨#[58]⟩)).run Tryz.prog w=.ok s2 w:=by
    rw[hs1.out,hs2.out,hh0.out];exact zL ([116]++dec n) [58] (by have:=hdl.out;simp;omega)
   have HEN:Hid (enc (.txt s)=h0++s):=by rw[Hid,hh0.out,hn.out];unfold enc;simp
   have HH:Hid (h0.length<=10):=by rw[Hid,hh0.out];have:=hdl.out;simp;omega
   go_enter Tryz.func163,Tryz.ntmps163;go_upto_region 1 with (fail);refine qo ?_;intro W hE hsz1 B0;obtain⟨p0,p1,p2,p3,p4⟩:=qA B0;go_upto_region 4 with (fail);have eC:=(Ext.refl W).drew;refine ql (fun w'=>w'.cell? ⟨w.heap.size,3,none⟩=some (.slice A n k)) [] (by kernel_rfl) (by exact eC.cell p3) (fun hHeld=>?_);refine sP 0 (h:=?_);refine sT 1 (h:=?_);refine sP 2 (h:=?_);refine sP 7 (h:=?_);refine sT 8 (h:=?_);refine qg (i:=3) rfl (by kernel_rfl) (fun K hK=>?_);go_simp;refine (xm n n (q_r) HN6.out _).mono ?_;rintro e w2 ⟨rfl,e2⟩;rw[<-hs0.out];replace eC:=eC.trans e2;go_wp2_with fail;clear hHeld;refine hK.out _ _ (by exact eC.cell p3) fun hHeld=>?_
   clear hK K;try simp only[nr]
   refine sP 4 (h:=?_);refine sP 5 (h:=?_);refine qg (i:=6) rfl (by kernel_rfl) (fun K hK=>?_);refine WH rfl _ rfl (l:=h0) (by exact hs2.out) (by have:=HH.out;omega) (base:=W.heap.size) eC.size ?_;intro v3 w3 HG3 e3;replace eC:=eC.trans e3;clear hHeld;refine hK.out _ _ (by exact eC.cell p3) fun hHeld=>?_
   clear hK K;try simp only[nr]
   refine qg (i:=9) rfl (by kernel_rfl) (fun K hK=>?_);refine Qo rfl _ _ rfl (by rfl) HG3 (by rfl) (HS.out.ext (hE.trans eC)) (by have:=HH.out;have:=HN6.out;have:=hn.out;omega) ?_;rintro v4 w4 HG4 ⟨g4,hg4,-,C4⟩;replace eC:=C4.ext eC hg4;clear hHeld;refine hK.out _ _ (by exact eC.cell p3) fun hHeld=>?_
   clear hK K;try simp only[nr]
   refine sP 10 (h:=?_);refine qm (by kernel_rfl) ?_ _;clear hHeld;go_wp2;go_ret;exact⟨_,rfl,by rw[HEN.out];exact HG4.mono hE.size,hE.trans eC⟩
  | lst vs =>
   obtain⟨c1,c2,u,rfl,⟨A1,k1,rfl⟩,⟨A2,k2,rfl⟩,hL⟩:=hv.lst;obtain⟨A,k,rfl,hnk,hkm⟩:=hL.form;unfold maxLen at hkm;have HLV:=q_h hL;obtain⟨n,hn⟩:=qf vs.length
   have hnl:n<=65536:=by
    unfold jR at hs;have:=hn.out;omega
   have HSM:Hid (XX vs):=by unfold jR at hs;exact hs.2
   have HSZ:Hid (szL vs<=m):=by unfold szV at hm;show szL vs<=m;omega
   have HN6:=q_h hnl;have hdl:=q_h (xA (n:=n) HN6.out);obtain⟨s0,hs0⟩:=qf (sV (dec n));obtain⟨s1,hs1⟩:=qf (sV ([108]++dec n));obtain⟨h0,hh0⟩:=qf ([108]++dec n ++ [58]);obtain⟨s2,hs2⟩:=qf (sV h0);have HEN:Hid (enc (.lst vs)=h0++zV vs):=by rw[Hid,hh0.out,hn.out];unfold enc;simp
   have HLL:Hid ((h0++zV vs).length<=65536):=by rw[Hid,<-HEN.out];exact hl
   rw[<-hn.out] at HLV hnk ⊢
   have t1:∀w,(binOp .add 9 (.string ⟨#[108]⟩) s0).run Tryz.prog w=.ok s1 w:=by
    rw[hs0.out,hs1.out];exact zL [108] (dec n) (by have:=hdl.out;simp;omega)
   have t2:∀w,(binOp .add 9 s1 (.string ⟨#[58]⟩)).run Tryz.prog w=.ok s2 w:=by
    rw[hs1.out,hs2.out,hh0.out];exact zL ([108]++dec n) [58] (by have:=hdl.out;simp;omega)
   have HH:Hid (h0.length<=10):=by rw[Hid,hh0.out];have:=hdl.out;simp;omega
   clear hL hv hs hl hm hnl;go_enter Tryz.func163,Tryz.ntmps163;go_upto_region 1 with (fail);refine qo ?_;intro w1 hE hsz B0;obtain⟨p0,p1,p2,p3,p4⟩:=qA B0;have HB0:=q_h B0;go_wp2_with (go_at_call 199;refine q_o ?_);refine (xm n n (q_r) HN6.out _).mono ?_;rintro e w2 ⟨rfl,e2⟩;rw[<-hs0.out];have HX2:=q_h (hE.trans e2);have HB2:=q_h (e2.block HB0.out);have hcw:=wP h0 w2;rw[<-hs2.out] at hcw;obtain⟨w3,hw3⟩:=qf (q0h h0 w2);obtain⟨v3,hv3⟩:=qf (Value.slice (some ⟨w2.heap.size,0,none⟩) h0.length (ZG h0 w2))
   have HG:Hid (GbB w.heap.size w3 v3 (h0++zV (vs.take 0))):=by
    rw[List.take_zero];unfold zV;rw[List.append_nil,hw3.out,hv3.out];exact GbB.cnv HX2.out.size (by have:=HH.out;omega)
   have HX:Hid (Ext w2 w3):=by rw[hw3.out];exact Qa h0 w2
   rw[<-hw3.out,<-hv3.out] at hcw;have HB3:=q_h (HX.out.block HB2.out);have HX3:=q_h (HX2.out.trans HX.out);clear p0 p1 p2 p3 p4 hE e2 B0 HB0 HB2 HX2;obtain⟨p0,p1,p2,p3,p4⟩:=qA HB3.out;go_wp2_with fail
   go_loopw [4,3] (fun iv ov wr=>∃i:Nat,i<=n/\iv=.int .i64 (i:Int)/\Hid (GbB w.heap.size wr ov (h0++zV (vs.take i)))/\Hid (Ext w wr)/\Hid (wr.heap[w.heap.size]?=some (.cells #[.int .i64 2,.bool false,.slice A1 0 k1,.slice A2 0 k2,.slice A n k] 117 (0,0)))) (fun iv _ _=>n-(intOf iv).toNat)
   case atStart=>exact⟨0,Nat.zero_le _,rfl,HG,HX3,HB3⟩
   case round =>
    clear p0 p1 p2 p3 p4 HG hcw;obtain⟨i,hi9,rfl,HGI,HX,HBX⟩:=hrel;obtain⟨p0,p1,p2,p3,p4⟩:=qA HBX.out
    by_cases hlt:i<n
    case neg =>
     have u1:decide ((i:Int)<(n:Int))=false:=q_f (by omega);have u1':decide (i<n)=false:=q_f hlt;go_wp2
     first|go_ret|skip
     refine⟨_,rfl,?_,HX.out⟩;have e9:vs.take i=vs:=List.take_of_length_le (by have:=hn.out;omega);rw[HEN.out,<-e9];exact HGI.out
    have u1:decide ((i:Int)<(n:Int))=true:=q_t (by omega);have u1':decide (i<n)=true:=q_t hlt;have u2:(i:Int)<(n:Int):=by omega
    have hiv:i<vs.length:=by have:=hn.out;omega
    obtain⟨g,off,rfl,hx⟩:=(HLV.out.ext HX.out).addr (by omega);obtain⟨d0,d1,d2,d3,d4,k0,k1',k2',k3,k4,hvi⟩:=hx i hlt
    have HLE:Hid ((enc (vs[i]?.getD default)).length<=65536/\(h0++zV (vs.take i)).length<=65536):=by
     have e1:=y8 vs i hiv;have e2:=Zh vs (i+1);have e3:=Zh vs i;have e4:=HLL.out;rw[List.length_append] at e4;rw[e1,List.length_append] at e2;rw[Hid,List.length_append];omega
    have HW:Hid (Calls Tryz.prog 163 #[.agg #[d0,d1,d2,d3,d4]] wr (q3h wr (enc (vs[i]?.getD default)))):=by
     refine jC m (vs[i]?.getD default) ?_ wr _ (jS vs i HSM.out hiv) hvi HLE.out.1;have h1:=xO vs i hiv;have:=HSZ.out;omega
    clear hx hvi;go_wp2_with (go_at_call 163;refine q_o ?_);refine HW.out.mono ?_;rintro e w5 ⟨v5,rfl,hG5,e5⟩;have HG5:=q_h hG5;have HGI5:=q_h (HGI.out.ext e5);have HX5:=q_h (HX.out.trans e5);have HB5:=q_h (e5.block HBX.out);clear k0 k1' k2' k3 k4 p0 p1 p2 p3 p4 HW e5 hG5;go_wp2_with (at_builtin;refine q_o ?_);refine vg rfl _ _ rfl (by rfl) HGI5.out (by rfl) HG5.out.by (by have:=HLE.out;omega) ?_
    rintro v6 w6 hG6 ⟨g6,hg6,hw6,C6⟩
    have HG6:Hid (GbB w.heap.size w6 v6 (h0++zV (vs.take (i+1)))):=by
     rw[y8 vs i hiv,<-List.append_assoc];exact hG6
    have HX6:Hid (Ext w w6):=C6.ext HX5.out hg6;have HB6:=q_h (C6.blk HB5.out (by have:=HGI5.out.ne hw6 HB5.out (by decide);omega));clear hG6 hw6 C6;go_wp2;go_roundw
    case rel=>exact⟨i+1,by omega,by go_num,HG6,HX6,HB6⟩
    case measure=>simp[intOf];omega
def q3g (w:World) (l:Byt) (e:Ending) (w':World):Prop:=∃v,e=.returned (.tuple #[v,.int .i64 0])/\GbB w.heap.size w' v l/\Ext w w'
theorem YS {nn:Bool}{V:Vl}(hv:VlV nn N w V v) (hN:N<=w.heap.size) (hd:zX V<=8) (hs:jR V) (hl:(enc V).length<=65536) (hz:szV V<=1000000):Calls Tryz.prog 161 #[v] w (qH w (.int .i64 0)):=by
 have HV:=q_h hv;obtain⟨kz,nb,A1,n1,c1,A2,n2,c2,A3,n3,c3,rfl⟩:=hv.cells;have HN:=q_h hN;have HS:=q_h hs;have HL:=q_h hl;have HZ:=q_h hz;obtain⟨q,hq⟩:=qf (zX V);have u1:decide (8<(q:Int))=false:=q_f (by have:=hq.out;omega);have u1':decide (8<q)=false:=q_f (by have:=hq.out;omega);obtain⟨n,hn⟩:=qf (enc V).length;have u2:decide (65536<(n:Int))=false:=q_f (by have:=hn.out;omega);have u2':decide (65536<n)=false:=q_f (by have:=hn.out;omega);clear hv hN hs hl hz;go_enter Tryz.func161,Tryz.ntmps161;go_upto_region 1 with (fail);refine qo ?_;intro w1 hE hsz B0;have HB0:=q_h B0;have HV1:=q_h (HV.out.ext hE);have HN1:=q_h (q_l HN.out hE.size);obtain⟨p0,p1,p2,p3,p4⟩:=qA B0;go_wp2_with (go_at_call 195;refine q_o ?_);refine (QA _ V (q_r) w1 _ HN1.out HV1.out).mono ?_;rintro e w2 ⟨rfl,e2⟩;have HB2:=q_h (e2.block HB0.out);have HV2:=q_h (HV1.out.ext e2);have HX2:=q_h (hE.trans e2);clear p0 p1 p2 p3 p4;obtain⟨p0,p1,p2,p3,p4⟩:=qA HB2.out;go_wp2_with (go_at_call 196;refine q_o ?_);refine (ZZ _ V (q_r) HZ.out w2 _ HV2.out).mono ?_;rintro e w3 ⟨rfl,e3⟩;rw[<-hq.out];have HB3:=q_h (e3.block HB2.out);have HV3:=q_h (HV2.out.ext e3);have HX3:=q_h (HX2.out.trans e3);clear p0 p1 p2 p3 p4;obtain⟨p0,p1,p2,p3,p4⟩:=qA HB3.out;go_wp2_with (go_at_call 197;refine q_o ?_);refine (ZX _ V (q_r) w3 _ HS.out HV3.out).mono ?_;rintro e w4 ⟨rfl,e4⟩
 have HB4:=q_h (e4.block HB3.out);have HV4:=q_h (HV3.out.ext e4);have HX4:=q_h (HX3.out.trans e4);clear p0 p1 p2 p3 p4;obtain⟨p0,p1,p2,p3,p4⟩:=qA HB4.out;go_wp2_with (go_at_call 163;refine q_o ?_);refine (jC _ V (q_r) w4 _ HS.out HV4.out HL.out).mono ?_;rintro e w5 ⟨v5,rfl,hG5,e5⟩;obtain⟨A5,c5,rfl,-⟩:=hG5.by.form
 rw[<-hn.out];go_wp2
 first|go_ret|skip
 exact⟨rfl,HX4.out.trans e5⟩
theorem QB {nn:Bool}{V:Vl}(hv:VlV nn N w V v) (hN:N<=w.heap.size) (hd:zX V<=8) (hs:jR V) (hl:(enc V).length<=65536) (hz:szV V<=1000000):Calls Tryz.prog 135 #[v] w (q3g w (enc V)):=by
 have HV:=q_h hv;obtain⟨kz,nb,A1,n1,c1,A2,n2,c2,A3,n3,c3,rfl⟩:=hv.cells;have HN:=q_h hN;have HS:=q_h hs;have HD:=q_h hd;have HL:=q_h hl;have HZ:=q_h hz;clear hv hN hs hl hz hd;go_enter Tryz.func135,Tryz.ntmps135;go_upto_region 1 with (fail);refine qo ?_;intro w1 hE hsz B0;have HB0:=q_h B0;have HV1:=q_h (HV.out.ext hE);have HN1:=q_h (q_l HN.out hE.size);obtain⟨p0,p1,p2,p3,p4⟩:=qA B0;go_wp2_with (go_at_call 161;refine q_o ?_);refine (YS HV1.out HN1.out HD.out HS.out HL.out HZ.out).mono ?_;rintro e w2 ⟨rfl,e2⟩;have HB2:=q_h (e2.block HB0.out);have HV2:=q_h (HV1.out.ext e2);have HX2:=q_h (hE.trans e2);clear p0 p1 p2 p3 p4;obtain⟨p0,p1,p2,p3,p4⟩:=qA HB2.out;go_wp2_with (go_at_call 163;refine q_o ?_);refine (jC _ V (q_r) w2 _ HS.out HV2.out HL.out).mono ?_;rintro e w5 ⟨v5,rfl,hG5,e5⟩;have HG5:=q_h (hG5.mono HX2.out.size);have HX5:=q_h (HX2.out.trans e5);clear hG5 e5;go_wp2;go_ret2;exact⟨_,rfl,HG5.out,HX5.out⟩
end
section
open Go.RowKit
theorem q0Q {a b:Byt}(h:sV a=sV b):a=b:=by
 unfold sV at h;injection h with h
 injection h with h
 have:=congrArg Array.toList h;simpa using this
theorem q1k (a b:Byt):Instr.sameNow .string (sV a) (sV b)=some (decide (a=b)):=by
 unfold sV Instr.sameNow
 by_cases h:a=b
 ·subst h;have:((⟨a.toArray⟩:ByteArray) == ⟨a.toArray⟩)=true:=(MapKept.bytes_beq _ _).2 rfl;simp[this]
 ·have h1:((⟨a.toArray⟩:ByteArray) == ⟨b.toArray⟩)=false:=by
   cases h2:((⟨a.toArray⟩:ByteArray) == ⟨b.toArray⟩) with
   | false=>rfl
   | true =>
    have h3:=(MapKept.bytes_beq _ _).1 h2;exact absurd (q0Q (by unfold sV;rw[h3])) h
  simp[h1,h]
def ixM:List (Byt×Value)->Byt->Option Nat
 | [],_=>none
 | p :: l,k=>if k=p.1 then some 0 else (ixM l k).map (· + 1)
def lkM:List (Byt×Value)->Byt->Option Value
 | [],_=>none
 | p :: l,k=>if k=p.1 then some p.2 else lkM l k
def puM (v:Value):List (Byt×Value)->Byt->List (Byt×Value)
 | [],k=>[(k,v)]
 | p :: l,k=>if k=p.1 then (k,v) :: l else p :: puM v l k
theorem vN {l:List (Byt×Value)}{k:Byt}(v:Value) (h:ixM l k=none):lkM l k=none/\puM v l k=l ++ [(k,v)]:=by
 induction l with
 | nil=>exact⟨rfl,rfl⟩
 | cons p l ih =>
  unfold ixM at h;unfold lkM puM
  by_cases h9:k=p.1
  ·rw[if_pos h9] at h;cases h
  ·rw[if_neg h9] at h ⊢;rw[if_neg h9];have:=ih (by simpa using h);exact⟨this.1,by rw[this.2];rfl⟩
theorem q1D {l:List (Byt×Value)}{k:Byt}(h:ixM l k=none):∀p∈l,p.1≠k:=by
 induction l with
 | nil=>intro p hp;cases hp
 | cons q l ih =>
  unfold ixM at h
  by_cases h9:k=q.1
  ·rw[if_pos h9] at h;cases h
  ·rw[if_neg h9] at h;intro p hp
   rcases List.mem_cons.1 hp with rfl|hp
   ·exact fun e=>h9 e.symm
   ·exact ih (by simpa using h) p hp
theorem Zb {l:List (Byt×Value)}{k:Byt}(v:Value) (h:ixM l k=some j):∃u,l[j]?=some (k,u)/\lkM l k=some u/\puM v l k=l.set j (k,v):=by
 induction l generalizing j with
 | nil=>cases h
 | cons p l ih =>
  unfold ixM at h;unfold lkM puM
  by_cases h9:k=p.1
  ·rw[if_pos h9] at h ⊢;rw[if_pos h9];obtain rfl:0=j:=by simpa using h
   obtain⟨a,u⟩:=p;subst h9;exact⟨u,rfl,rfl,rfl⟩
  ·rw[if_neg h9] at h ⊢;rw[if_neg h9];simp only[Option.map_eq_some_iff] at h;obtain⟨m,hm,rfl⟩:=h;obtain⟨u,h1,h2,h3⟩:=ih hm;exact⟨u,by simpa using h1,h2,by rw[h3];rfl⟩
theorem Xk {l:List (Byt×Value)}{k:Byt}(h:lkM l k=none):ixM l k=none:=by
 cases h1:ixM l k with
 | none=>rfl
 | some j =>
  obtain⟨u,-,h2,-⟩:=Zb (.int .i64 0) h1;rw[h] at h2;cases h2
def Yk (es:List MapEntry) (l:List (Byt×Value)):Prop:=es.map (fun e=>(e.key,e.val))=l.map (fun p=>(sV p.1,p.2))
theorem Vr (k:Byt):∀(es:List MapEntry) (l:List (Byt×Value)) (i:Nat),Yk es l->Instr.findNow .string (sV k) es i=some (match ixM l k,lkM l k with|some j,some v=>some (i+j,v)|_,_=>none)
 | [],[],i,_=>rfl
 | [],_ :: _,_,h=>by unfold Yk at h;simp at h
 | _ :: _,[],_,h=>by unfold Yk at h;simp at h
 | e :: es,p :: l,i,h=>by
  unfold Yk at h;simp only[List.map_cons,List.cons.injEq,Prod.mk.injEq] at h;obtain⟨⟨h1,h2⟩,h3⟩:=h;have ih:=Vr k es l (i+1) h3;unfold Instr.findNow;rw[h1,q1k];unfold ixM lkM
  by_cases h9:k=p.1
  ·rw[if_pos h9,if_pos h9,q_t h9];simp[h2]
  ·rw[if_neg h9,if_neg h9,q_f h9];simp only[];rw[ih];cases h5:ixM l k with
   | none=>simp
   | some j =>
    cases h6:lkM l k with
    | none=>simp
    | some v=>simp only[Option.map_some];rw[show i+1+j=i+(j+1) by omega]
def MpS (w:World) (g:Nat) (l:List (Byt×Value)):Prop:=∃es clock,w.heap[g]?=some (.map es clock)/\Yk es.toList l/\MapKept.Stamped es clock
theorem MpS.ext{l:List (Byt×Value)}(h:MpS w g l) (e:Ext w w'):MpS w' g l:=by
 obtain⟨es,k,h1,h2⟩:=h;exact⟨es,k,e.block h1,h2⟩
theorem MpS.chg{l:List (Byt×Value)}(h:MpS w g l) (e:Chg lo hi w w') (hg:g<lo\/hi<=g):MpS w' g l:=by
 obtain⟨es,k,h1,h2⟩:=h;exact⟨es,k,e.blk h1 hg,h2⟩
theorem MpS.lt{l:List (Byt×Value)}(h:MpS w g l):g<w.heap.size:=by
 obtain⟨es,k,h1,-⟩:=h;exact (Array.getElem?_eq_some_iff.1 h1).1
theorem MpS.new (w:World):MpS (w.alloc (.map #[] 0)) w.heap.size []:=⟨#[],0,heap_alloc_new w _,rfl,MapKept.stamped_empty 0⟩
theorem Vd (k:Byt):MapKept.IsKey .string (sV k):=trivial
section
variable {mt et:TypeId}{z:Value}
theorem QU (hm:Tryz.prog.underlying mt=some (.map 9 et))(hz:(zeroValue et).run Tryz.prog w=.ok z w){l:List (Byt×Value)}(h:MpS w g l) (k:Byt) (cm:Bool) :
  (Instr.lookup mt (.map (some g)) (sV k) cm).run Tryz.prog w=.ok (if cm then .tuple #[(lkM l k).getD z,.bool (lkM l k).isSome] else (lkM l k).getD z) w:=by
 obtain⟨es,q,h1,h2,-⟩:=h;have hc:∀em,(Instr.checkKey em 10000 9 (sV k)).run Tryz.prog w=.ok () w:=fun em=>MapKept.run_checkKey xh (Vd k) em 9999
 have hf:(Instr.findKey 9 (sV k) es.toList).run Tryz.prog w=.ok (match ixM l k,lkM l k with|some j,some v=>some (0+j,v)|_,_=>none) w:=MapKept.run_findKey xh (Vr k es.toList l 0 h2);unfold Instr.lookup;simp only[Sem.run_bind,run_underlying hm,Result.andThen_ok,MapKept.run_getObj_map h1,Sem.run_pure,hc,hf];cases h5:ixM l k with
 | none =>
  rw[(vN z h5).1];cases cm<;>simp[hz]
 | some j =>
  obtain⟨u,-,h6,-⟩:=Zb z h5;rw[h6];cases cm<;>simp
theorem Kz{o o':Obj}(h:w.heap[g]?=some o):(w.heap.setIfInBounds g o')[g]?=some o':=by
 have hg:g<w.heap.size:=(Array.getElem?_eq_some_iff.1 h).1;rw[Array.getElem?_setIfInBounds,if_pos rfl,if_pos hg]
theorem Jp{es:Array MapEntry}(h:w.heap[g]?=some (.map es k)) (o:Obj):Chg g (g+1) w { w with heap:=w.heap.setIfInBounds g o } :=
 ⟨rfl,rfl,rfl,by simp,fun i _ hd=>by
  have hne:¬g=i:=by
   rintro rfl
   rcases hd with h1|h1|⟨cs,fr,h1⟩
   ·omega
   ·omega
   ·rw[h] at h1;cases h1
  show (w.heap.setIfInBounds g o)[i]?=w.heap[i]?
  rw[Array.getElem?_setIfInBounds,if_neg hne]⟩
theorem Vu {es:List MapEntry}{l:List (Byt×Value)}(h:Yk es l){p:Byt×Value}(hj:l[j]?=some p):∃e,es[j]?=some e/\e.key=sV p.1/\e.val=p.2:=by
 have h1:(es.map fun e=>(e.key,e.val))[j]?=(l.map fun p=>(sV p.1,p.2))[j]?:=by rw[show es.map (fun e=>(e.key,e.val))=_ from h]
 rw[List.getElem?_map,List.getElem?_map,hj] at h1;cases h2:es[j]? with
 | none=>rw[h2] at h1;simp at h1
 | some e =>
  rw[h2] at h1;simp only[Option.map_some,Option.some.injEq,Prod.mk.injEq] at h1;exact⟨e,rfl,h1.1,h1.2⟩
theorem Jk {es:List MapEntry}{l:List (Byt×Value)}(h:Yk es l){e:MapEntry}(he:e∈es):∃p∈l,e.key=sV p.1/\e.val=p.2:=by
 have h1:(e.key,e.val)∈es.map fun e=>(e.key,e.val):=List.mem_map.2 ⟨e,he,rfl⟩
 rw[show es.map (fun e=>(e.key,e.val))=_ from h] at h1;obtain⟨p,hp,h2⟩:=List.mem_map.1 h1;injection h2 with h3 h4
 exact⟨p,hp,h3.symm,h4.symm⟩
theorem q0a {es:List MapEntry}{l:List (Byt×Value)}(h:Yk es l) (j:Nat) (k:Byt) (v:Value):Yk (es.modify j fun e=>{ e with key:=sV k,val:=v }) (l.set j (k,v)):=by
 unfold Yk;refine List.ext_getElem? fun i=>?_
 have h1:(es.map fun e=>(e.key,e.val))[i]?=(l.map fun p=>(sV p.1,p.2))[i]?:=by rw[show es.map (fun e=>(e.key,e.val))=_ from h]
 rw[List.getElem?_map,List.getElem?_map] at h1;rw[List.getElem?_map,List.getElem?_map,List.getElem?_modify,List.getElem?_set]
 by_cases hij:j=i
 ·subst hij;rw[if_pos rfl];cases h2:es[j]? with
  | none =>
   rw[h2] at h1
   have h3:l[j]?=none:=by
    cases h4:l[j]? with
    | none=>rfl
    | some p=>rw[h4] at h1;simp at h1
   rw[if_neg (by rw[List.getElem?_eq_none_iff] at h3;omega)]
   rfl
  | some e =>
   rw[h2] at h1
   have h3:j<l.length:=by
    cases h4:l[j]? with
    | none=>rw[h4] at h1;simp at h1
    | some p=>exact (List.getElem?_eq_some_iff.1 h4).1
   rw[if_pos h3]
   simp
 ·rw[if_neg hij];rw[show (fun e=>if j=i then ({ e with key:=sV k,val:=v }:MapEntry) else e)=id by funext e;rw[if_neg hij];rfl];simpa using h1
theorem J4 (hm:Tryz.prog.underlying mt=some (.map 9 et)){l:List (Byt×Value)}(h:MpS w g l) (k:Byt) (v:Value) :
  ∃w',(Instr.mapUpdate mt (.map (some g)) (sV k) v).run Tryz.prog w=.ok () w'/\MpS w' g (puM v l k)/\Chg g (g+1) w w':=by
 obtain⟨es,q,h1,h2,hst⟩:=h;have hc:∀em,(Instr.checkKey em 10000 9 (sV k)).run Tryz.prog w=.ok () w:=fun em=>MapKept.run_checkKey xh (Vd k) em 9999
 have hf:(Instr.findKey 9 (sV k) es.toList).run Tryz.prog w=.ok (match ixM l k,lkM l k with|some j,some v=>some (0+j,v)|_,_=>none) w:=MapKept.run_findKey xh (Vr k es.toList l 0 h2);unfold Instr.mapUpdate;simp only[Sem.run_bind,run_underlying hm,Result.andThen_ok,MapKept.run_getObj_map h1,Sem.run_pure,hc,hf];cases h5:ixM l k with
 | none =>
  rw[(vN v h5).1,(vN v h5).2];simp only[Result.andThen_ok];rw[MapKept.run_setObj_map _ h1]
  exact⟨_,rfl,⟨_,_,Kz h1,(by
   unfold Yk at h2 ⊢;rw[Array.toList_push,List.map_append,List.map_append,h2]
   rfl),MapKept.stamped_push hst fun x hx e=>by
    obtain⟨p,hp,h6,-⟩:=Jk h2 hx
    exact q1D h5 p hp (q0Q (h6.symm.trans e))⟩,Jp h1 _⟩
 | some j =>
  obtain⟨u,h7,h6,h8⟩:=Zb v h5;rw[h6,h8];obtain⟨e,h9,h10,-⟩:=Vu h2 h7
  have h11:((es[0+j]?).map (·.key)).getD (sV k)=sV k:=by
   rw[Nat.zero_add,<-Array.getElem?_toList,h9];exact h10
  simp only[Result.andThen_ok,Sem.run_bind];rw[h11,MapKept.run_keyThatStays (Vd k),Result.andThen_ok,MapKept.run_setObj_map _ h1,Nat.zero_add]
  exact⟨_,rfl,⟨_,_,Kz h1,(by
   rw[Array.toList_modify]
   exact q0a h2 j k v),MapKept.stamped_modify hst _ _ (fun _ _=>rfl) (fun e' _ he'=>by
    rw[<-Array.getElem?_toList,h9] at he'
    exact (Option.some.inj he') ▸ h10.symm)⟩,Jp h1 _⟩
end
end
section
open Go.RowKit
structure Cls (ET:TypeId) (k:Nat) (z0:Value) (bz:Nat):Prop where
 inf:(Tryz.prog.info? ET).map (fun i=>(i.zero,i.size,i.bytes))=some (some z0,k,bz)
 cells:z0.cells.size=k
 pos:0<k
 lk:k<=10
 le:bz<=100
 ne:ET≠196
def qI (ET:TypeId) (k base:Nat) (w:World) (v:Value) (n:Nat) (xs:List Value):Prop:=base<=w.heap.size/\w.ownsRow base ET k v n xs
section
variable {ET:TypeId}{k:Nat}{z0:Value}{bz:Nat}
theorem qI.empty(hb:base<=g) (h:w.heap[g]?=some (.cells #[] ET (0,0))):qI ET k base w (.slice (some ⟨g,0,none⟩) 0 0) 0 [] :=
 ⟨by have:=qK h;omega,by simp,.inr ⟨g,0,#[],rfl,hb,h,q_r,Nat.zero_le _,by simp,by simp⟩⟩
theorem qI.ext{xs:List Value}(h:qI ET k base w v n xs) (e:Ext w w'):qI ET k base w' v n xs:=by
 refine⟨q_l h.1 e.size,h.2.1,?_⟩
 rcases h.2.2 with h0|⟨g,cap,cur,hv,hb,hh,h1,h2,h3,h4⟩
 ·exact .inl h0
 ·exact .inr ⟨g,cap,cur,hv,hb,e.block hh,h1,h2,h3,h4⟩
theorem yQ (hc:Cls ET k z0 bz){xs:List Value}(t ty:TypeId) (ht:Tryz.prog.underlying t=some (.slice ET)) (h:qI ET k base w v n xs){a:Addr}{news:List Value}(hl:news.length=m*k)
  (hnews:∀j u,news[j]?=some u->w.cell? (a.add j)=some u) (h1:∀u∈news,u.oneCell'=true) (hn:n+m<=1000000) :
  ∃v' w',(Builtin.append_ #[t,t] ty #[v,.slice (some a) m c]).run Tryz.prog w=.ok v' w'/\qI ET k base w' v' (n+m) (xs++news)/\(v'.ownBlock=v.ownBlock\/v'.ownBlock=some w.heap.size)/\(∃g',base<=g'/\(v.ownBlock=some g'\/g'=w.heap.size)/\Chg g' (g'+1) w w'):=by
 obtain⟨i0,hi0,hz0,hz1,hz2⟩:=info_parts hc.inf;obtain⟨hb0,hown⟩:=h;have hle:=hc.le
 obtain⟨v',w',hrun,hO,hgr,-,hat⟩:=run_append_own_at (P:=Tryz.prog) w base t ty ET i0 _ k bz ht hi0 hz0 hz1 hz2 hc.cells hc.pos v n xs hown a m c news (by omega) hnews h1 (by unfold maxLen;omega)
  (q_l (Nat.mul_le_mul hn hc.le) (by decide)) hb0
 refine⟨v',w',hrun,⟨q_l hb0 hgr.size,hO⟩,hat,?_⟩;have hT:NoU w w.heap.size:=fun cs fr h=>by rw[Array.getElem?_eq_none (q_r)] at h;cases h
 rcases hown.2 with ⟨rfl,h0⟩|⟨g0,cap0,cur,rfl,hbb,hh,_⟩
 ·exact⟨w.heap.size,hb0,.inr rfl,jZ hgr (fun k hk=>by simp[Value.ownBlock] at hk) hT⟩
 ·have hT0:NoU w g0:=NoU.mk hh hc.ne;exact⟨g0,hbb,.inl rfl,jZ hgr (fun k hk=>by simpa[Value.ownBlock] using hk.symm) hT0⟩
theorem zh (hc:Cls ET k z0 bz){xs:List Value}{ops:Array Oper}{rest:List Oper}{o:Oper}{a:Act}{Q:Exit->Act->World->Prop}(hgd:o.guard=none) (s x:Operand) (t:TypeId) (ht:Tryz.prog.underlying t=some (.slice ET))
  (ho:o.op=.call { callee:=.builtin .append,args:=#[s,x],argTypes:=#[t,t] }) (hs:a.eval s=v) (h:qI ET k base w v n xs){ad:Addr}{news:List Value}(hx:a.eval x=.slice (some ad) m c) (hl:news.length=m*k)
  (hnews:∀j u,news[j]?=some u->w.cell? (ad.add j)=some u) (h1:∀u∈news,u.oneCell'=true) (hn:n+m<=1000000)
  (hK:∀v' w',qI ET k base w' v' (n+m) (xs++news)->(v'.ownBlock=v.ownBlock\/v'.ownBlock=some w.heap.size)->(∃g',base<=g'/\(v.ownBlock=some g'\/g'=w.heap.size)/\Chg g' (g'+1) w w')->wpList Tryz.prog ops Q rest (a.put o.dst v') w'):wpList Tryz.prog ops Q (o :: rest) a w:=by
 refine wpList_plain hgd fun _ hK'=>?_
 obtain⟨v',w',hrun,h2,h3,h4⟩:=yQ hc t o.type ht h hl hnews h1 hn (c:=c);unfold Oper.wp execOp;simp only[ho,resolve,invoke,builtin,Sem.run_bind,Sem.run_pure,Result.andThen_ok,List.map_toArray,List.map_cons,List.map_nil,hs,hx,hrun];exact hK' _ _ (hK v' w' h2 h3 h4)
theorem qI.at_{xs:List Value}(h:qI ET k base w v n xs) (hn:0<n):∃g cap,v=.slice (some ⟨g,0,none⟩) n cap/\base<=g/\n<=cap/\cap<=maxLen/\∀j u,xs[j]?=some u->w.cell? ⟨g,j,none⟩=some u:=by
 have hl:=h.2.1
 rcases h.2.2 with ⟨-,h⟩|⟨g,cap,cur,hv,hb,hg,hnc,hcm,hcs,htk⟩
 ·omega
 ·refine⟨g,cap,hv,hb,hnc,hcm,fun j u hj=>?_⟩;rw[qj hg]
  have hjl:j<n*k:=by
   rw[<-hl];exact (List.getElem?_eq_some_iff.1 hj).1
  have h9:(cur.toList.take (n*k))[j]?=some u:=by rw[htk];exact hj
  rw[List.getElem?_take,if_pos hjl] at h9;simpa using h9
theorem qI.own_lt{xs:List Value}(h:qI ET k base w v n xs):∀k,v.ownBlock=some k->base<=k/\k<w.heap.size:=by
 rcases h.2.2 with ⟨rfl,h0⟩|⟨g,cap,cur,rfl,hb,hh,-⟩
 ·intro k hk;simp[Value.ownBlock] at hk
 ·intro k hk;obtain rfl:g=k:=by simpa[Value.ownBlock] using hk
  exact⟨hb,qK hh⟩
theorem qI.form{xs:List Value}(h:qI ET k base w v n xs):∃A c,v=.slice A n c:=by
 rcases h.2.2 with ⟨rfl,h0⟩|⟨g,cap,cur,rfl,_⟩
 ·exact⟨_,_,by rw[h0]⟩
 ·exact⟨_,_,rfl⟩
end
end
section
open Go.RowKit
theorem xW:One 9 (.string ⟨#[]⟩) 16:=⟨by kernel_rfl,rfl,by omega,by decide⟩
theorem QY:One 27 (.slice none 0 0) 24:=⟨by kernel_rfl,rfl,by omega,by decide⟩
def AppE (ET:TypeId) (base:Nat) (w:World) (v:Value) (xs:List Value) (v':Value) (w':World):Prop:=qB ET base w' v' xs/\(∀k,v'.ownBlock=some k->v.ownBlock=some k\/k=w.heap.size)/\∃g',base<=g'/\(v.ownBlock=some g'\/w.heap.size<=g')/\Chg g' (g'+1) w w'
theorem ZU {ET:TypeId}{z0:Value}{bz:Nat}(ho:One ET z0 bz) (t ty:TypeId) (ht:Tryz.prog.underlying t=some (.slice ET)){xs:List Value}(h:qB ET base w v xs){news:List Value}(hl:news.length=m)
  (hnews:0<m->∃b off,A=some ⟨b,off,none⟩/\∀j u,news[j]?=some u->w.cell? ⟨b,off+j,none⟩=some u) (h1:∀u∈news,u.oneCell'=true) (hn:xs.length+m<=1000000000) :
  ∃v' w',(Builtin.append_ #[t,t] ty #[v,.slice A m c]).run Tryz.prog w=.ok v' w'/\AppE ET base w v (xs++news) v' w':=by
 rcases Nat.eq_zero_or_pos m with h0|h0
 ·subst h0;have hq:news=[]:=List.eq_nil_of_length_eq_zero hl;subst hq;obtain⟨i0,hi0,-⟩:=info_parts ho.inf;obtain⟨B,k,rfl,hk⟩:=h.form;refine⟨_,w,kC ht hi0 B xs.length k hk A c w,by rw[List.append_nil];exact h,fun k hk=>.inl hk,?_⟩
  rcases h.2.2 with ⟨h2,h3⟩|⟨g,cap,cur,hv,hb,-⟩
  ·exact⟨w.heap.size,h.1,.inr (q_r),Chg.refl _ _ _⟩
  ·exact⟨g,hb,.inl (by rw[hv];rfl),Chg.refl _ _ _⟩
 ·obtain⟨b,off,rfl,hc⟩:=hnews h0;obtain⟨g,cap,w',hrun,hG,hat,g',hg',ho',hC,-⟩:=yP ho t ty ht h hl hc h1 h0 hn (c:=c);refine⟨_,w',hrun,hG,fun k hk=>?_,g',hg',ho'.imp id (fun h=>by omega),hC⟩;obtain rfl:g=k:=by simpa[Value.ownBlock] using hk
  exact hat
theorem vW {ET:TypeId}{z0:Value}{bz:Nat}(h0:One ET z0 bz){o:Oper}{a:Act}{K:Act->World->Prop}{Q:Exit->Act->World->Prop}(s x:Operand) (t:TypeId) (ht:Tryz.prog.underlying t=some (.slice ET))
  (ho:o.op=.call { callee:=.builtin .append,args:=#[s,x],argTypes:=#[t,t] }){xs:List Value}(hs:a.eval s=v) (h:qB ET base w v xs){news:List Value}(hx:a.eval x=.slice A m c) (hl:news.length=m)
  (hnews:0<m->∃b off,A=some ⟨b,off,none⟩/\∀j u,news[j]?=some u->w.cell? ⟨b,off+j,none⟩=some u) (h1:∀u∈news,u.oneCell'=true) (hn:xs.length+m<=1000000000)
  (hK:∀v' w',AppE ET base w v (xs++news) v' w'->K (a.put o.dst v') w'):o.wp Tryz.prog a w K Q:=by
 obtain⟨v',w',hrun,h2⟩:=ZU h0 t o.type ht h hl hnews h1 hn (c:=c);unfold Oper.wp execOp;simp only[ho,resolve,invoke,builtin,Sem.run_bind,Sem.run_pure,Result.andThen_ok,List.map_toArray,List.map_cons,List.map_nil,hs,hx,hrun];exact hK v' w' h2
theorem zC {ET:TypeId}{z0:Value}{bz:Nat}(h0:One ET z0 bz){ops:Array Oper}{rest:List Oper}{o:Oper}{a:Act}{Q:Exit->Act->World->Prop}(hgd:o.guard=none) (s x:Operand) (t:TypeId) (ht:Tryz.prog.underlying t=some (.slice ET))
  (ho:o.op=.call { callee:=.builtin .append,args:=#[s,x],argTypes:=#[t,t] }){xs:List Value}(hs:a.eval s=v) (h:qB ET base w v xs){news:List Value}(hx:a.eval x=.slice A m c) (hl:news.length=m)
  (hnews:0<m->∃b off,A=some ⟨b,off,none⟩/\∀j u,news[j]?=some u->w.cell? ⟨b,off+j,none⟩=some u) (h1:∀u∈news,u.oneCell'=true) (hn:xs.length+m<=1000000000)
  (hK:∀v' w',AppE ET base w v (xs++news) v' w'->wpList Tryz.prog ops Q rest (a.put o.dst v') w'):wpList Tryz.prog ops Q (o :: rest) a w :=
 wpList_plain hgd fun _ hK'=>vW h0 s x t ht ho hs h hx hl hnews h1 hn (fun v' w' a1=>hK' _ _ (hK v' w' a1))
theorem jQ {ET:TypeId}{z0:Value}{bz:Nat}(h0:One ET z0 bz){ops:Array Oper}{o:Oper}{a:Act}{K:Act->World->Prop}{Q:Exit->Act->World->Prop}{E:Prop}(hgd:o.guard=none) (s x:Operand) (t:TypeId) (ht:Tryz.prog.underlying t=some (.slice ET))
  (ho:o.op=.call { callee:=.builtin .append,args:=#[s,x],argTypes:=#[t,t] }){xs:List Value}(hs:a.eval s=v) (h:qB ET base w v xs){news:List Value}(hx:a.eval x=.slice A m c) (hl:news.length=m)
  (hnews:0<m->∃b off,A=some ⟨b,off,none⟩/\∀j u,news[j]?=some u->w.cell? ⟨b,off+j,none⟩=some u) (h1:∀u∈news,u.oneCell'=true) (hn:xs.length+m<=1000000000)
  (hK:∀v' w',AppE ET base w v (xs++news) v' w'->K (a.put o.dst v') w') :
  if Region.wanted o (yielded ops a.tmps)=true then Oper.wp Tryz.prog o a w K Q else E:=by
 have hw:Region.wanted o (yielded ops a.tmps)=true:=by simp[Region.wanted,hgd]
 rw[if_pos hw];exact vW h0 s x t ht ho hs h hx hl hnews h1 hn hK
theorem QS (l:List Byt):∀u∈l.map sV,u.oneCell'=true:=by
 intro u hu;obtain⟨b,-,rfl⟩:=List.mem_map.1 hu
 rfl
theorem qZ.news{l:List Byt}(h:qZ w (.slice A n c) l) (hn:n=l.length):0<n->∃b off,A=some ⟨b,off,none⟩/\∀j u,(l.map sV)[j]?=some u->w.cell? ⟨b,off+j,none⟩=some u:=by
 intro h0;subst hn;obtain⟨g,off,h1,h2⟩:=Qm.addr h h0;refine⟨g,off,h1,fun j u hj=>?_⟩;rw[List.getElem?_map,Option.map_eq_some_iff] at hj;obtain⟨b,hb,rfl⟩:=hj;obtain⟨x,h3,rfl⟩:=h2 j (List.getElem?_eq_some_iff.1 hb).1;rw[h3,List.getD_eq_getElem?_getD,hb]
 rfl
theorem ByV.news{l:Byt}(h:ByV w (.slice A n c) l) (hn:n=l.length):0<n->∃b off,A=some ⟨b,off,none⟩/\∀j u,(byC l)[j]?=some u->w.cell? ⟨b,off+j,none⟩=some u:=by
 intro h0;obtain⟨g,off,h1,h2⟩:=h.addr h0;refine⟨g,off,h1,fun j u hj=>?_⟩
 have hjl:j<l.length:=by
  have:=(List.getElem?_eq_some_iff.1 hj).1
  rwa [qy] at this
 rw[h2 j (by omega)];have:=zt hjl;rw[this] at hj;exact hj
def GrS (base:Nat) (w:World) (v:Value) (l:List Byt):Prop:=qB 9 base w v (l.map sV)
theorem qB.cap {ET:TypeId}{base:Nat}{w:World}{v:Value}{xs:List Value}(h:qB ET base w v xs) (hn:xs.length<=maxLen):∃A c,v=.slice A xs.length c/\xs.length<=c/\c<=maxLen:=by
 rcases h.2.2 with ⟨h2,h3⟩|⟨g,cap,cur,hv,hb,-,h3,h4,-⟩
 ·exact⟨none,0,by rw[h3];exact h2,by omega,Nat.zero_le _⟩
 ·exact⟨_,cap,hv,h3,h4⟩
theorem qB.l1 {ET:TypeId}{xs:List Value}(h:qB ET base w v xs) (R:Nat->Value->Prop) (hR:∀i (hi:i<xs.length),R i xs[i]):Qm R w v xs.length:=by
 rcases Nat.eq_zero_or_pos xs.length with h0|h0
 ·obtain⟨A,c,h1,h2,h3⟩:=h.cap (by omega);exact⟨A,c,h1,h2,h3,fun h=>by omega⟩
 ·obtain⟨g,cap,h1,h2,h3,h4,h5,-,h6⟩:=h.at_ h0;exact⟨_,cap,h1,h5,h4,fun _=>⟨g,0,rfl,fun i hi=>⟨_,by rw[Nat.zero_add];exact h6 i hi,hR i hi⟩⟩⟩
theorem GrS.strs{l:List Byt}(h:GrS base w v l):qZ w v l:=by
 have h9:=qB.l1 h (fun i x=>x=sV (l.getD i [])) (fun i hi=>by
  rw[List.getElem_map,List.getD_eq_getElem?_getD,List.getElem?_eq_getElem (by simpa using hi)]
  rfl)
 rw[List.length_map] at h9;exact h9
def q25 (w:World) (l:List Byt) (e:Ending) (w':World):Prop:=∃v,e=.returned v/\GrS w.heap.size w' v l/\Ext w w'
def q1a (w:World) (l:Byt) (e:Ending) (w':World):Prop:=∃v,e=.returned v/\GrB w.heap.size w' v l/\Ext w w'
theorem wM{l:List Byt}(h:qZ w v l) (hl:l.length<=1000000):Calls Tryz.prog 114 #[v] w (q25 w l):=by
 obtain⟨Rf,hRf⟩:=qf (q25 w l);rw[<-hRf.out];obtain⟨A,c,rfl,hnc,hcm⟩:=h.form;have HS:=q_h h;obtain⟨n,hn⟩:=qf l.length;rw[<-hn.out] at hnc HS ⊢;clear h;have HL:=q_h hl;clear hl hcm;have hnl:=fun (w:World) (a:Option Addr) (n c:Nat)=>Lib.run_eql_slice_nil (P:=Tryz.prog) w 26 9 a n c 0 0 Tryz.underlying26
 rcases A with _|ad
 ·have h0:n=0:=by
   rcases Nat.eq_zero_or_pos n with h0|h0
   ·exact h0
   ·obtain⟨b,off,h1,-⟩:=qZ.news HS.out hn.out h0;cases h1
  have h1:l=[]:=List.eq_nil_of_length_eq_zero (by have:=hn.out;omega);subst h1;go_enter Tryz.func114,Tryz.ntmps114;go_wp2
  first|go_ret|skip
  rw[hRf.out];exact⟨_,rfl,qB.nil (q_r),Ext.refl w⟩
 ·go_enter Tryz.func114,Tryz.ntmps114;go_wp2_with (at_builtin;refine q_o ?_);refine qo ?_;intro W hE hsz B0;refine zC xW rfl _ _ 26 Tryz.underlying26 rfl (by rfl) (qB.empty (q_r) B0) (by rfl) (news:=l.map sV) (by rw[List.length_map];exact hn.out.symm) (qZ.news (HS.out.ext hE) hn.out) (QS l) (by have:=HL.out;have:=hn.out;simp;omega) ?_;rintro v2 w2 ⟨hG,-,g',hg',-,C2⟩;have hE2:=C2.ext hE (by omega)
  have HG:Hid (GrS w.heap.size w2 v2 l):=by
   have h9:qB 9 w.heap.size w2 v2 (l.map sV):=by simpa using hG
   exact h9
  clear hG;go_wp2
  first|go_ret|skip
  rw[hRf.out];exact⟨_,rfl,HG.out,hE2⟩
theorem yh{l:Byt}(h:ByV w v l) (hl:l.length<=1000000):Calls Tryz.prog 92 #[v] w (q1a w l):=by
 obtain⟨Rf,hRf⟩:=qf (q1a w l);rw[<-hRf.out];obtain⟨A,c,rfl,hnc,hcm⟩:=h.form;have HS:=q_h h;obtain⟨n,hn⟩:=qf l.length;rw[<-hn.out] at hnc HS ⊢;clear h;have HL:=q_h hl;clear hl hcm;have hnl:=fun (w:World) (a:Option Addr) (n c:Nat)=>Lib.run_eql_slice_nil (P:=Tryz.prog) w 27 5 a n c 0 0 Tryz.underlying27
 rcases A with _|ad
 ·have h0:n=0:=by
   rcases Nat.eq_zero_or_pos n with h0|h0
   ·exact h0
   ·obtain⟨b,off,h1,-⟩:=ByV.news HS.out hn.out h0;cases h1
  have h1:l=[]:=List.eq_nil_of_length_eq_zero (by have:=hn.out;omega);subst h1;go_enter Tryz.func92,Tryz.ntmps92;go_wp2
  first|go_ret|skip
  rw[hRf.out];exact⟨_,rfl,qB.nil (q_r),Ext.refl w⟩
 ·go_enter Tryz.func92,Tryz.ntmps92;go_wp2_with (at_builtin;refine q_o ?_);refine qo ?_;intro W hE hsz B0;refine zC kX rfl _ _ 27 Tryz.underlying27 rfl (by rfl) (qB.empty (q_r) B0) (by rfl) (news:=byC l) (by rw[qy];exact hn.out.symm) (ByV.news (HS.out.ext hE) hn.out) (jg l) (by have:=HL.out;have:=hn.out;simp;omega) ?_;rintro v2 w2 ⟨hG,-,g',hg',-,C2⟩;have hE2:=C2.ext hE (by omega)
  have HG:Hid (GrB w.heap.size w2 v2 l):=by
   have h9:qB 5 w.heap.size w2 v2 (byC l):=by simpa using hG
   exact h9
  clear hG;go_wp2
  first|go_ret|skip
  rw[hRf.out];exact⟨_,rfl,HG.out,hE2⟩
theorem GbB.upd{l:Byt}(h:GbB base w v l) (U:Upd g w w'){cs:Array Value}{t:TypeId}{fr:Nat×Nat}(hb:w.heap[g]?=some (.cells cs t fr)) (ht:t≠5):GbB base w' v l:=by
 obtain⟨g0,cap,rfl,h1,⟨cs',fr',h2⟩,h3,h4,h5,h6⟩:=h
 have hne:g0≠g:=by
  rintro rfl;rw[hb] at h2;injection h2 with h2
  injection h2 with h7 h8 h9
  exact ht h8
 have hq:w'.heap[g0]?=w.heap[g0]?:=U.block g0 hne;refine⟨g0,cap,rfl,h1,⟨cs',fr',hq.trans h2⟩,h3,h4,fun i hi=>?_,fun j hj=>?_⟩
 ·rw[World.cell?_of_block (w:=w) hq];exact h5 i hi
 ·rw[World.cell?_of_block (w:=w) hq];refine⟨(h6 j hj).1,?_⟩;have h9:=(h6 j hj).2;unfold World.frozen? at h9 ⊢;rw[hq];exact h9
def Yi (w:World) (l:Byt) (e:Ending) (w':World):Prop:=∃c,e=.returned (.agg #[.int .i64 1,.bool false,.slice none 0 0,c,.slice none 0 0])/\GbB w.heap.size w' c l/\Ext w w'
def q39 (N:Nat) (w:World) (n:Int) (e:Ending) (w':World):Prop:=∃b A m k,e=.returned (.agg #[.int .i64 0,.bool b,.slice A m k,.slice none 0 0,.slice none 0 0])/\jA N w' (.agg #[.bool b,.slice A m k]) n/\Ext w w'
theorem xP {l:Byt}(hl:l.length<=65536):Calls Tryz.prog 73 #[sV l] w (Yi w l):=by
 have hcv:=wP l;obtain⟨s0,hs0⟩:=qf (sV l);rw[<-hs0.out] at hcv ⊢;go_enter Tryz.func73,Tryz.ntmps73;go_upto_region 1 with (fail);refine qo ?_;intro w1 hE hsz B0;have HG:=q_h (GbB.cnv (base:=w1.heap.size) (w:=w1) (q_r) hl);obtain⟨w2,hw2⟩:=qf (q0h l w1);have HX2:Hid (Ext w1 w2):=by rw[hw2.out];exact Qa l w1
 obtain⟨n,hn⟩:=qf l.length;obtain⟨k,hk⟩:=qf (ZG l w1);have hcw:=hcv w1;rw[<-hw2.out,<-hk.out,<-hn.out] at hcw;rw[<-hw2.out,<-hk.out,<-hn.out] at HG;have b0:=HX2.out.block B0;clear hcv;refine wp_region_lit ?_;refine wpList_plain rfl (fun K hK=>?_);go_simp;refine hK _ _ ?_;clear hK K;try simp only[nr]
 refine wpList_plain rfl (fun K hK=>?_);go_simp;refine hK _ _ ?_;clear hK K;try simp only[nr]
 refine wpList_plain rfl (fun K hK=>?_);go_simp;refine hK _ _ ?_;clear hK K;try simp only[nr]
 skip
 refine qh rfl 117 _ _ rfl (by rfl) (by rfl) b0 zo (by rfl) (by rfl) (by rfl) ?_;intro w9 B9 U9;go_wp2;refine bodyPost_ret (results_cell_row rfl _ _ _ _ _ _ _ rfl B9 Tryz.underlying117 rfl zo) rfl ?_;have C9:=U9.chg (NoU.mk b0 (by decide));exact⟨_,rfl,(HG.out.upd U9 b0 (by decide)).mono (by omega),C9.ext (hE.trans HX2.out) (q_r)⟩
theorem wW {l:Byt}(hl:l.length<=65536):Calls Tryz.prog 168 #[sV l] w (Yi w l):=by
 have hcv:=wP l;obtain⟨s0,hs0⟩:=qf (sV l);rw[<-hs0.out] at hcv ⊢;go_enter Tryz.func168,Tryz.ntmps168;go_upto_region 1 with (fail);refine qo ?_;intro w1 hE hsz B0;have HG:=q_h (GbB.cnv (base:=w1.heap.size) (w:=w1) (q_r) hl);obtain⟨w2,hw2⟩:=qf (q0h l w1);have HX2:Hid (Ext w1 w2):=by rw[hw2.out];exact Qa l w1
 obtain⟨n,hn⟩:=qf l.length;obtain⟨k,hk⟩:=qf (ZG l w1);have hcw:=hcv w1;rw[<-hw2.out,<-hk.out,<-hn.out] at hcw;rw[<-hw2.out,<-hk.out,<-hn.out] at HG;have b0:=HX2.out.block B0;clear hcv;refine wp_region_lit ?_;refine wpList_plain rfl (fun K hK=>?_);go_simp;refine hK _ _ ?_;clear hK K;try simp only[nr]
 refine wpList_plain rfl (fun K hK=>?_);go_simp;refine hK _ _ ?_;clear hK K;try simp only[nr]
 refine wpList_plain rfl (fun K hK=>?_);go_simp;refine hK _ _ ?_;clear hK K;try simp only[nr]
 refine wpList_plain rfl (fun K hK=>?_);go_simp;refine hK _ _ ?_;clear hK K;try simp only[nr]
 refine qh rfl 117 _ _ rfl (by rfl) (by rfl) b0 zo (by rfl) (by rfl) (by rfl) ?_;intro w9 B9 U9;go_wp2;refine bodyPost_ret (results_cell_row rfl _ _ _ _ _ _ _ rfl B9 Tryz.underlying117 rfl zo) rfl ?_;have C9:=U9.chg (NoU.mk b0 (by decide));exact⟨_,rfl,(HG.out.upd U9 b0 (by decide)).mono (by omega),C9.ext (hE.trans HX2.out) (q_r)⟩
theorem jM:Calls Tryz.prog 71 #[.slice A n k] w (qH w (.agg #[.int .i64 2,.bool false,.slice none 0 0,.slice none 0 0,.slice A n k])):=by
 go_enter Tryz.func71,Tryz.ntmps71;go_upto_region 1 with (fail);refine qo ?_;intro w1 hE hsz B0;refine wp_region_lit ?_;refine wpList_plain rfl (fun K hK=>?_);go_simp;refine hK _ _ ?_;clear hK K;try simp only[nr]
 refine wpList_plain rfl (fun K hK=>?_);go_simp;refine hK _ _ ?_;clear hK K;try simp only[nr]
 refine qh rfl 117 _ _ rfl (by rfl) (by rfl) B0 zo (by rfl) (by rfl) (by rfl) ?_;intro w9 B9 U9;go_wp2;refine bodyPost_ret (results_cell_row rfl _ _ _ _ _ _ _ rfl B9 Tryz.underlying117 rfl zo) rfl ?_;have C9:=U9.chg (NoU.mk B0 (by decide));exact⟨rfl,C9.ext hE (q_r)⟩
theorem jY:Calls Tryz.prog 130 #[.slice A n k] w (qH w (.agg #[.int .i64 2,.bool false,.slice none 0 0,.slice none 0 0,.slice A n k])):=by
 go_enter Tryz.func130,Tryz.ntmps130;go_upto_region 1 with (fail);refine qo ?_;intro w1 hE hsz B0;refine wp_region_lit ?_;refine wpList_plain rfl (fun K hK=>?_);go_simp;refine hK _ _ ?_;clear hK K;try simp only[nr]
 refine wpList_plain rfl (fun K hK=>?_);go_simp;refine hK _ _ ?_;clear hK K;try simp only[nr]
 refine qh rfl 117 _ _ rfl (by rfl) (by rfl) B0 zo (by rfl) (by rfl) (by rfl) ?_;intro w9 B9 U9;go_wp2;refine bodyPost_ret (results_cell_row rfl _ _ _ _ _ _ _ rfl B9 Tryz.underlying117 rfl zo) rfl ?_;have C9:=U9.chg (NoU.mk B0 (by decide));exact⟨rfl,C9.ext hE (q_r)⟩
theorem wH(hN:N<=w.heap.size) (n:Int) (h1 : -9223372036854775808<=n) (h2:n<=9223372036854775807):Calls Tryz.prog 129 #[.int .i64 n] w (q39 N w n):=by
 go_enter Tryz.func129,Tryz.ntmps129;go_upto_region 1 with (fail);refine qo ?_;intro w1 hE hsz B0;refine wp_region_lit ?_;refine wpList_plain rfl (fun K hK=>?_);go_simp;refine hK _ _ ?_;clear hK K;try simp only[nr]
 refine wpList_plain rfl (fun K hK0=>?_);have hK:=q_h hK0;clear hK0;go_simp;refine (i_of (N:=N) (q_l hN hE.size) n h1 h2).mono ?_;rintro e w2 ⟨v2,rfl,hI,e2⟩;obtain⟨nb,A,m,c,rfl,hnb,hG,-⟩:=hI.parts;go_wp2_with fail;refine hK.out _ _ ?_;clear hK K;try simp only[nr]
 have b0:=e2.block B0;refine wpList_plain rfl (fun K hK=>?_);go_simp;refine hK _ _ ?_;clear hK K;try simp only[nr]
 refine qh rfl 117 _ _ rfl (by rfl) (by rfl) b0 zo (by rfl) (by rfl) (by rfl) ?_;intro w9 B9 U9;go_wp2;refine bodyPost_ret (results_cell_row rfl _ _ _ _ _ _ _ rfl B9 Tryz.underlying117 rfl zo) rfl ?_;have C9:=U9.chg (NoU.mk b0 (by decide));have HE9:Ext w w9:=C9.ext (hE.trans e2) (q_r);exact⟨_,_,_,_,rfl,hI.upd U9 hN (NoU.mk b0 (by decide)),HE9⟩
theorem wY(hN:N<=w.heap.size) (n:Int) (h1 : -9223372036854775808<=n) (h2:n<=9223372036854775807):Calls Tryz.prog 131 #[.int .i64 n] w (q39 N w n):=by
 go_enter Tryz.func131,Tryz.ntmps131;go_upto_region 1 with (fail);refine qo ?_;intro w1 hE hsz B0;refine wp_region_lit ?_;refine wpList_plain rfl (fun K hK=>?_);go_simp;refine hK _ _ ?_;clear hK K;try simp only[nr]
 refine wpList_plain rfl (fun K hK0=>?_);have hK:=q_h hK0;clear hK0;go_simp;refine (r1_of (N:=N) (q_l hN hE.size) n h1 h2).mono ?_;rintro e w2 ⟨v2,rfl,hI,e2⟩;obtain⟨nb,A,m,c,rfl,hnb,hG,-⟩:=hI.parts;go_wp2_with fail;refine hK.out _ _ ?_;clear hK K;try simp only[nr]
 have b0:=e2.block B0;refine wpList_plain rfl (fun K hK=>?_);go_simp;refine hK _ _ ?_;clear hK K;try simp only[nr]
 refine qh rfl 117 _ _ rfl (by rfl) (by rfl) b0 zo (by rfl) (by rfl) (by rfl) ?_;intro w9 B9 U9;go_wp2;refine bodyPost_ret (results_cell_row rfl _ _ _ _ _ _ _ rfl B9 Tryz.underlying117 rfl zo) rfl ?_;have C9:=U9.chg (NoU.mk b0 (by decide));have HE9:Ext w w9:=C9.ext (hE.trans e2) (q_r);exact⟨_,_,_,_,rfl,hI.upd U9 hN (NoU.mk b0 (by decide)),HE9⟩
end
end Go.Proofs.YtdeeekdbhhenpaaGreatDoor
