import Derived.Test.YthkkknjcoidioaaGreatWb26
import Derived.Test.YthkkknjcoidioaaGreatWb42
import Derived.Test.YthkkknjcoidioaaGreatWb38
import Derived.SizedLaws
set_option linter.all false
set_option maxHeartbeats 8000000
namespace Go.Proofs.YthkkknjcoidioaaGreat
open Go.RowKit Go.ChangeShapes Go.ChangeAt Go.WideShapes
theorem r2_digitsN {N:Nat} {w:World} {v:Value} {R:Raw} (h:RawV N w v R) (hs:RawL R) :
  Calls Tryz.prog 21 #[v] w (RetV w (.int .i64 ((R.l1.length+R.l2.length:Nat):Int))):=by
 obtain⟨A1,n1,c1,A2,n2,c2,rfl,g1,g2⟩:=h.parts;obtain⟨_,_,_,e1,h1,hc1,hm1⟩:=g1.form;injection e1 with e1 e1' e1''
 subst e1 e1' e1'';obtain⟨_,_,_,e2,h2,hc2,hm2⟩:=g2.form;injection e2 with e2 e2' e2''
 subst e2 e2' e2'';obtain⟨z,hz⟩:=hid_eq (((R.l1.length+R.l2.length:Nat):Int))
 have HB:Hid (wrap64 ((n1:Int)+n2)=z):=by
  obtain⟨s1,s2⟩:=hs;rw [Hid,hz.out];rw [h1.out] at s1;rw [h2.out] at s2;rw [h1.out,h2.out];unfold wrap64;omega
 rw [←hz.out];clear g1 g2 h h1 h2 hs hz;go_enter Tryz.func21,Tryz.ntmps21;go_upto_region 1 with (fail);refine boxes1 ?_;intro W hE hsz B0;obtain⟨a0,a1,a2,a3,-⟩:=cells4 B0;go_wp2
 first | go_ret | skip
 exact⟨ret_int HB.out,hE⟩
def dgn (R:Raw):Nat:=R.l1.length+R.l2.length
theorem dgn_ht {R:Raw} (hok:okR R=true) (h:dgn R≤6):Ht 180 (ratOf R):=by
 have e:=raw_ratOf hok;obtain⟨q,hq⟩:∃ q,q=ratOf R:=⟨_,rfl⟩
 rw [←hq] at e ⊢;clear hq;subst e;unfold dgn at h
 have h1:ln q.num.natAbs≤6:=by
  have:(dg q.num.natAbs).length+(dg q.den).length≤6:=h
  show (dg q.num.natAbs).length≤6
  omega
 have h2:ln q.den≤6:=by
  have:(dg q.num.natAbs).length+(dg q.den).length≤6:=h
  show (dg q.den).length≤6
  omega
 have hp:bs ^ 6≤2 ^ 180:=by unfold bs; decide +kernel
 exact⟨Nat.lt_of_lt_of_le (ln_le_iff.1 h1) hp,Nat.lt_of_lt_of_le (ln_le_iff.1 h2) hp⟩
section
variable {H:Type} {enc:TypeId×Value→H} {w:World} {spare:Nat→Bool} {held:Bool}
theorem bytes_u32:Tryz.prog.bytesOf 132=4:=by kernel_rfl
theorem gs_of_trodW {n:Nat} {v:Value} {x:DataW H×List MemPlace} (h:DataW.trod enc Tryz.prog w 0 spare held n 32 [v]=some x) (hz:∀ k∈x.1.weights Tryz.prog 32,k≤reachBytes) :
  ∃ l,Gs w.heap.size w v l∧l.length≤35184372088000:=by
 obtain⟨l,g⟩:=gs_of_trod h;refine⟨l,g,?_⟩;obtain⟨A,k,c,e1,h1,-,-⟩:=g.form
 rcases Go.Deep.open_slice1 Tryz.underlying32 cells_u32 h with ⟨hcs,-⟩ | ⟨a,len,cap,m,n',V,D,Pl,hcs,-,hl,hm,hmm,hx,-⟩
 ·simp only [List.cons.injEq,and_true] at hcs;rw [hcs] at e1;injection e1 with _ e2 _
  rw [h1.out,←e2]
  decide
 ·simp only [List.cons.injEq,and_true] at hcs;rw [hcs] at e1;injection e1 with _ e2 _
  rw [h1.out,←e2];subst hx;have h9:=hz ((((List.range len).map D).length+((List.range (m - len)).map fun j=>D (len+j)).length)*Tryz.prog.bytesOf 132) (by simp [DataW.weights,Tryz.underlying32]);rw [bytes_u32,List.length_map,List.length_range] at h9;unfold reachBytes at h9;omega
theorem rat_of_trodW {n:Nat} {c0 c1 c2 c3:Value} {x:DataW H×List MemPlace} (h:DataW.trod enc Tryz.prog w 0 spare held n 36 [c0,c1,c2,c3]=some x) (hz:∀ k∈x.1.weights Tryz.prog 36,k≤reachBytes) :
  ∃ R:Raw,c0=.bool R.b1∧c2=.bool R.b2∧Gs w.heap.size w c1 R.l1∧Gs w.heap.size w c3 R.l2∧RawL R:=by
 obtain⟨y0,y1,n1,rfl,-,h0,h1⟩:=trod_struct2 Tryz.underlying36 h;simp only [cells_int,List.drop_zero,List.take_succ_cons,List.take_zero,List.drop_succ_cons] at h0 h1;obtain⟨z0,z1,n2,rfl,-,k0,k1⟩:=trod_struct2 Tryz.underlying34 h0;obtain⟨z2,z3,n3,rfl,-,k2,k3⟩:=trod_struct2 Tryz.underlying34 h1;simp only [cells_bool,cells_u32s,List.drop_zero,List.take_succ_cons,List.take_zero,List.drop_succ_cons] at k0 k1 k2 k3;obtain⟨b1,e1,-⟩:=DataW.trod_bool Tryz.underlying4 k0;obtain⟨b2,e2,-⟩:=DataW.trod_bool Tryz.underlying4 k2;obtain⟨l1,g1,s1⟩:=gs_of_trodW k1 (fun k hk=>hz k (by simp [DataW.weights,DataW.weightsEach,Tryz.underlying36,Tryz.underlying34,hk]));obtain⟨l2,g2,s2⟩:=gs_of_trodW k3 (fun k hk=>hz k (by simp [DataW.weights,DataW.weightsEach,Tryz.underlying36,Tryz.underlying34,hk]));simp only [List.cons.injEq,and_true] at e1 e2;exact⟨⟨b1,l1,b2,l2⟩,e1,e2,g1,g2,⟨Nat.le_trans s1 (by omega),Nat.le_trans s2 (by omega)⟩⟩
set_option maxRecDepth 100000 in
theorem open_rat {r:Reach} {b0:Nat} {v:Value} {d:DataW H} {p:List MemPlace} (hv:Value.okWide Tryz.prog w r b0 36 v) (h:DataW.Trod enc Tryz.prog w 0 spare held 36 v d p) (hz:∀ k∈d.weights Tryz.prog 36,k≤reachBytes) :
  ∃ R:Raw,RawV w.heap.size w v R∧RawL R:=by
 obtain⟨cs,rfl,hsz⟩:=okWide_struct Tryz.underlying36 hv;obtain⟨c0,c1,c2,c3,rfl⟩:=Go.Joins.array4 (hsz.trans cells_rat);obtain⟨fuel,hf⟩:=h;obtain⟨R,e0,e2,g1,g2,s⟩:=rat_of_trodW (c0:=c0) (c1:=c1) (c2:=c2) (c3:=c3) (x:=(d,p)) hf hz;subst e0 e2;exact⟨R,⟨_,_,rfl,g1,g2⟩,s⟩
end
end Go.Proofs.YthkkknjcoidioaaGreat
