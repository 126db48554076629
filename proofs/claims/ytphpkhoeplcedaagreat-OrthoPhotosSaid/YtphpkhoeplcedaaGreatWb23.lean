import Derived.Test.YtphpkhoeplcedaaGreatWb22
set_option linter.all false
set_option maxHeartbeats 8000000
set_option maxRecDepth 100000
namespace Go.Proofs.YtphpkhoeplcedaaGreat
open Go.RowKit Go.Shelf
variable {w w':World} {N n lo hi k g base c b K:Nat} {v:Value} {G:Grd} {x:Rat} {z:Int} {S:Sta} {R:Raw} {A:Option Addr}
attribute [local go_sem] Oper.semAt_some
def q5I (z:Int) (w:World) (e:Ending) (w':World):Prop :=
 ∃ (x:Int) (ok:Bool),e=.returned (.tuple #[.int .i64 x,.bool ok])/\(ok=true->x=z)/\(ok=false->1000000000<=z.natAbs)/\Ext w w'
theorem JY (N:Nat) (w:World) (b:Bool) (A1:Option Addr) (k1 c1:Nat) (z:Int) (h:qZ N w (.agg #[.bool b,.slice A1 k1 c1]) z) (hg:Gs N w (.slice A1 k1 c1) (dg z.natAbs)) (hk0:0 < k1) (hk:k1<=3) (hbig:Hid (1000000000<=z.natAbs)) (hbz:Hid (b=decide (z < 0))) :
  CallsIn Fence.wide 5 Tryz.prog 150 #[.agg #[.bool b,.slice A1 k1 c1]] w (q5I z w):=by
 have hla:Hid ((dg z.natAbs).length=k1):=by obtain⟨A',n',c',hv,hl',-,-⟩:=hg.form; cases hv; exact hl'
 have hI:=h;have hk3:decide (3 < (k1:Int))=false:=q_f (by omega);have hkp:decide (0 < (k1:Int))=true:=q_t (by omega);refine callsIn_of_wp_marks Tryz.func150 rfl trivial ?_ rfl;simp only [Tryz.ntmps150,List.size_toArray,List.length_cons,List.length_nil,Nat.reduceAdd,Nat.reduceSub,Array.replicate_succ,Array.replicate_zero,List.push_toArray,List.append_toArray,List.nil_append,List.cons_append]
 gi_wp2_with (refine⟨trivial,?_⟩; gi_at_call 159; refine q_o ?_)
 refine q0V ?_;intro W hE hsz B0 B1 B2;refine (callsIn_wide.2 (zQ (hI.ext hE))).mono ?_;rintro e w1 ⟨rfl,e1⟩;replace B0:=e1.block B0;replace B1:=e1.block B1;replace B2:=e1.block B2;replace hsz:=q_l hsz e1.size;replace hE:=hE.trans e1;obtain⟨l,hl⟩:=qf (dg z.natAbs);have HV:Hid (val l=z.natAbs):=by rw [Hid,hl.out,qF]
 have hdl:Dig l:=by rw [hl.out]; exact qK _
 rw [<-hl.out] at hg hla;replace hg:=hg.ext hE;clear e1 hl h hI
 gi_wp2_with (refine⟨trivial,?_⟩; gi_at_call 197; refine (Zc Fence.wide _ trivial rfl _ _ _ _).mono ?_; rintro e w' ⟨rfl,rfl⟩)
 refine kE ?_;intro W2 hE2 hsz2 C0 C1
 refine wpIn_rangeFunc_ownF (F:=Fence.wide) (n:=5) rfl (by decide) (gf:=223) (lb:=#[.pointer (some ⟨w1.heap.size+1,0,none⟩)]) rfl trivial (enters_of Tryz.func223 (by kernel_rfl) rfl)
  (jq Fence.wide 4 trivial rfl (by decide) W2 w1 A1 k1 c1 l hg hE2 (w1.heap.size+1) w1.heap.size (by omega) (by omega) (q_r) (zA C1).1)
  wW (QU (by omega) (by omega)) (Below.refl _ _) (fun _=>rfl)
  (fun pre W'=>((W'.cell? ⟨w1.heap.size,0,none⟩=some (.int .u64 ((acc l pre:Nat):Int))/\W'.frozen? ⟨w1.heap.size,0,none⟩=false)/\Hid (acc l pre<=9223372036854775808))/\Below w1.heap.size w1 W')
  (fun c _ W'=>(c=.ret/\W'.cell? ⟨w.heap.size+1,0,none⟩=some (.int .i64 0)/\W'.cell? ⟨w.heap.size+1+1,0,none⟩=some (.bool false))/\Below w.heap.size w W')
  (OwnFrom.and (Own.from (fun s A B row hs hg hr=>⟨⟨cell_kept hs.1.1 hg hr,(frozen_kept hs.1.1 hg hr).trans hs.1.2⟩,hs.2⟩) _) (ownFrom_below (q_r) (by omega)))
  (fun c=>OwnFrom.and (Own.from (fun s A B row hs hg hr=>⟨hs.1,cell_kept hs.2.1 hg hr,cell_kept hs.2.2 hg hr⟩) _) (ownFrom_below (q_r) (by omega)))
  ⟨⟨zA C0,by rw [Hid]; simp [acc]⟩,hE2⟩
  (fun j=>{ tmps:=#[.agg #[.bool b,.slice A1 k1 c1],.pointer (some ⟨w.heap.size,0,none⟩),.pointer (some ⟨w.heap.size+1,0,none⟩),.pointer (some ⟨w.heap.size+1+1,0,none⟩),.slice A1 k1 c1,.pointer (some ⟨w1.heap.size,0,none⟩),undef,.int .u32 ((l[j.1]?.getD 0:Nat):Int),
     .agg #[.bool b,.slice A1 k1 c1],.slice A1 k1 c1,.slice A1 k1 c1,.int .i64 k1,.bool false,.slice A1 k1 c1,.func (.func 223) #[] #[.pointer (some ⟨w1.heap.size+1,0,none⟩)],
     .int .i64 ((j.1:Nat):Int),.int .u32 ((l[j.1]?.getD 0:Nat):Int),undef,undef,undef,undef,undef,undef,undef,undef,undef,undef,undef,undef,undef,undef,undef,undef,undef,undef,undef,undef,undef,undef,undef,undef,undef,undef,undef],defers:=[] }) ?assign ?body ?done ?stop
 case assign =>
  intro l' j W K hK
  dsimp only [Je]
  obtain⟨z,hz⟩:=qf ((l[j.1]?.getD 0:Nat):Int);obtain⟨k,hk⟩:=qf ((j.1:Nat):Int);rw [<-hz.out,<-hk.out] at hK ⊢
  gi_wp2
  exact hK
 case body =>
  rintro l' pre j W1 ⟨⟨⟨a0,a1⟩,HA⟩,hB⟩ hlt;obtain⟨k,hk'⟩:=qf ((j.1:Nat):Int);obtain⟨za,hza⟩:=qf ((l[j.1]?.getD 0:Nat):Int);obtain⟨n,hn⟩:=qf ((acc l pre:Nat):Int);have n0:0<=n:=by rw [hn.out]; omega
  have n1:n<=9223372036854775808:=by have:=HA.out; rw [hn.out]; omega
  have HS:Hid (n*1000000000+za=((acc l (pre ++ [j]):Nat):Int)):=by
   rw [Hid,Qz,hn.out,hza.out,Int.natCast_add,Int.natCast_mul]; rfl
  rw [<-hn.out] at a0;rw [<-hza.out,<-hk'.out];have za0:0<=za:=by rw [hza.out]; omega
  have za1:za < 1000000000:=by have:=hdl.get j.1; unfold bs at this; have:=hza.out; omega
  have B1':=(hE2.block B1)
  have hw1:IntKind.u64.wrap (9223372036854775808 - za)=9223372036854775808 - za:=by
   simp [IntKind.wrap,IntKind.bits,IntKind.signed]; omega
  by_cases hs:n > (9223372036854775808 - za) / 1000000000
  ·have d1:decide ((9223372036854775808 - za) / 1000000000 < n)=true:=q_t hs;obtain⟨q0,q1⟩:=zA ((hB.block _ (by omega)).trans B1);obtain⟨r0,r1⟩:=zA ((hB.block _ (by omega)).trans B2)
   gi_wp2
   have x1:=World.cell?_setCell_same' W1 ⟨w.heap.size+1,0,none⟩ (.int .i64 0) (by rw [q0]; rfl);have x2:=cell_far (g:=w.heap.size+1+1) (i:=0) (.bool false) x1 (by simp);have x3:=World.cell?_setCell_same' (W1.setCell ⟨w.heap.size+1,0,none⟩ (.int .i64 0)) ⟨w.heap.size+1+1,0,none⟩ (.bool false) (by rw [cell_far _ r0 (by simp)]; rfl);exact⟨(KeepsOthers.setCell _ _ _).trans (KeepsOthers.setCell _ _ _),⟨rfl,x2,x3⟩,((hE.trans hB).below.setCell (p:=⟨w.heap.size+1,0,none⟩) (by simp) _).setCell (p:=⟨w.heap.size+1+1,0,none⟩) (by simp; omega) _⟩
  ·have d1:decide ((9223372036854775808 - za) / 1000000000 < n)=false:=q_f hs;have n2:n*1000000000+za<=9223372036854775808:=by omega
   have hw2:IntKind.u64.wrap (n*1000000000)=n*1000000000:=by
    simp [IntKind.wrap,IntKind.bits,IntKind.signed]; omega
   have hw3:IntKind.u64.wrap (n*1000000000+za)=n*1000000000+za:=by
    simp [IntKind.wrap,IntKind.bits,IntKind.signed]; omega
   gi_wp2
   refine⟨KeepsOthers.setCell _ _ _,⟨(Below.refl w1.heap.size W1).setCell (p:=⟨w1.heap.size,0,none⟩) (q_r) _,Below.heap_setCell _ _ _ _ (by simp)⟩,⟨⟨?_,by rw [World.frozen?_setCell]; exact a1⟩,by have:=HS.out; rw [Hid]; omega⟩,hB.setCell (p:=⟨w1.heap.size,0,none⟩) (q_r) _⟩;rw [<-HS.out];exact World.cell?_setCell_same' _ _ _ (by rw [a0]; rfl)
 case done =>
  rintro D ys W1 hD rfl ⟨⟨⟨a0,a1⟩,HA⟩,hB⟩ hK;rw [Yk] at a0 HA;obtain⟨m,hm⟩:=qf ((val l:Nat):Int);rw [<-hm.out] at a0;have m0:1000000000<=m:=by have h1:=hm.out; rw [HV.out] at h1; have:=hbig.out; omega
  have m1:m<=9223372036854775808:=by have:=HA.out; rw [hm.out]; omega
  have HZ:Hid ((z < 0->z = -m)/\(¬ z < 0->z=m)):=by
   have h1:=hm.out;rw [HV.out] at h1;rw [Hid];omega
  have HB:=q_h hbz;replace B0:=(hB.block _ (by omega)).trans B0;replace B1:=(hB.block _ (by omega)).trans B1;replace B2:=(hB.block _ (by omega)).trans B2;obtain⟨p0,p1,-,-⟩:=cells2 B0;obtain⟨q0,q1⟩:=zA B1;obtain⟨r0,r1⟩:=zA B2
  by_cases hz:z < 0
  ·obtain rfl:b=true:=by rw [HB.out]; exact q_t hz
   have hw1:IntKind.u64.wrap (-m)=18446744073709551616 - m:=by
    simp [IntKind.wrap,IntKind.bits,IntKind.signed]; omega
   have hw2:IntKind.i64.wrap (18446744073709551616 - m) = -m:=by
    simp [IntKind.wrap,IntKind.bits,IntKind.signed]; omega
   have HM:Hid (-m=z):=(HZ.out.1 hz).symm
   gi_wp2
   have hK':=(KeepsOthers.setCell (W1.setCell ⟨w.heap.size+1,0,none⟩ (.int .i64 (-m))) ⟨w.heap.size+1+1,0,none⟩ (.bool true)).same D _ ((KeepsOthers.setCell W1 ⟨w.heap.size+1,0,none⟩ (.int .i64 (-m))).same D _ hK rfl) rfl;have x1:=World.cell?_setCell_same' W1 ⟨w.heap.size+1,0,none⟩ (.int .i64 (-m)) (by rw [q0]; rfl);have x2:=cell_far (g:=w.heap.size+1+1) (i:=0) (.bool true) x1 (by simp);have x3:=World.cell?_setCell_same' (W1.setCell ⟨w.heap.size+1,0,none⟩ (.int .i64 (-m))) ⟨w.heap.size+1+1,0,none⟩ (.bool true) (by rw [cell_far _ r0 (by simp)]; rfl);have hc5:=cell_kept x2 (grownBy_putObj' _ D (.deferred none)) (fun r e=>by cases e; exact⟨_,hK',rfl⟩);have hc6:=cell_kept x3 (grownBy_putObj' _ D (.deferred none)) (fun r e=>by cases e; exact⟨_,hK',rfl⟩);refine⟨by simp,.inl ⟨_,_,rfl,run_takeDeferred hK',?_⟩⟩;refine⟨.tuple #[.int .i64 (-m),.bool true],?_,⟨_,_,rfl,fun _=>HM.out,(nomatch ·),(((hE.trans hB).below.setCell (p:=⟨w.heap.size+1,0,none⟩) (by simp) _).setCell (p:=⟨w.heap.size+1+1,0,none⟩) (by simp; omega) _).trans (belowK_b (w:=w) (q_r) _ D _ _ (by omega) hK' rfl rfl)⟩⟩;simp [results,Tryz.results150,go_sem,hc5,hc6]
  ·obtain rfl:b=false:=by rw [HB.out]; exact q_f hz
   clear HB
   by_cases ht:m=9223372036854775808
   ·have d2:(m == 9223372036854775808)=true:=by rw [ht]; rfl
    clear ht
    gi_wp2
    have hK':=(KeepsOthers.setCell (W1.setCell ⟨w.heap.size+1,0,none⟩ (.int .i64 (0))) ⟨w.heap.size+1+1,0,none⟩ (.bool false)).same D _ ((KeepsOthers.setCell W1 ⟨w.heap.size+1,0,none⟩ (.int .i64 (0))).same D _ hK rfl) rfl;have x1:=World.cell?_setCell_same' W1 ⟨w.heap.size+1,0,none⟩ (.int .i64 (0)) (by rw [q0]; rfl);have x2:=cell_far (g:=w.heap.size+1+1) (i:=0) (.bool false) x1 (by simp);have x3:=World.cell?_setCell_same' (W1.setCell ⟨w.heap.size+1,0,none⟩ (.int .i64 (0))) ⟨w.heap.size+1+1,0,none⟩ (.bool false) (by rw [cell_far _ r0 (by simp)]; rfl);have hc5:=cell_kept x2 (grownBy_putObj' _ D (.deferred none)) (fun r e=>by cases e; exact⟨_,hK',rfl⟩);have hc6:=cell_kept x3 (grownBy_putObj' _ D (.deferred none)) (fun r e=>by cases e; exact⟨_,hK',rfl⟩);refine⟨by simp,.inl ⟨_,_,rfl,run_takeDeferred hK',?_⟩⟩;refine⟨.tuple #[.int .i64 (0),.bool false],?_,⟨_,_,rfl,(nomatch ·),fun _=>hbig.out,(((hE.trans hB).below.setCell (p:=⟨w.heap.size+1,0,none⟩) (by simp) _).setCell (p:=⟨w.heap.size+1+1,0,none⟩) (by simp; omega) _).trans (belowK_b (w:=w) (q_r) _ D _ _ (by omega) hK' rfl rfl)⟩⟩;simp [results,Tryz.results150,go_sem,hc5,hc6]
   ·have d2:(m == 9223372036854775808)=false:=by rw [beq_eq_false_iff_ne]; exact ht
    have hw2:IntKind.i64.wrap m=m:=IntWalk.i64_in _ (by omega);have HM:Hid (m=z):=(HZ.out.2 hz).symm
    gi_wp2
    have hK':=(KeepsOthers.setCell (W1.setCell ⟨w.heap.size+1,0,none⟩ (.int .i64 (m))) ⟨w.heap.size+1+1,0,none⟩ (.bool true)).same D _ ((KeepsOthers.setCell W1 ⟨w.heap.size+1,0,none⟩ (.int .i64 (m))).same D _ hK rfl) rfl;have x1:=World.cell?_setCell_same' W1 ⟨w.heap.size+1,0,none⟩ (.int .i64 (m)) (by rw [q0]; rfl);have x2:=cell_far (g:=w.heap.size+1+1) (i:=0) (.bool true) x1 (by simp);have x3:=World.cell?_setCell_same' (W1.setCell ⟨w.heap.size+1,0,none⟩ (.int .i64 (m))) ⟨w.heap.size+1+1,0,none⟩ (.bool true) (by rw [cell_far _ r0 (by simp)]; rfl);have hc5:=cell_kept x2 (grownBy_putObj' _ D (.deferred none)) (fun r e=>by cases e; exact⟨_,hK',rfl⟩);have hc6:=cell_kept x3 (grownBy_putObj' _ D (.deferred none)) (fun r e=>by cases e; exact⟨_,hK',rfl⟩);refine⟨by simp,.inl ⟨_,_,rfl,run_takeDeferred hK',?_⟩⟩;refine⟨.tuple #[.int .i64 (m),.bool true],?_,⟨_,_,rfl,fun _=>HM.out,(nomatch ·),(((hE.trans hB).below.setCell (p:=⟨w.heap.size+1,0,none⟩) (by simp) _).setCell (p:=⟨w.heap.size+1+1,0,none⟩) (by simp; omega) _).trans (belowK_b (w:=w) (q_r) _ D _ _ (by omega) hK' rfl rfl)⟩⟩;simp [results,Tryz.results150,go_sem,hc5,hc6]
 case stop =>
  rintro D c pre W1 hD hpre ⟨⟨rfl,hc1,hc2⟩,hB⟩ hK
  gi_wp2
  refine⟨by simp,.inl ⟨_,_,rfl,run_takeDeferred hK,?_⟩⟩;have hc5:=cell_kept hc1 (grownBy_putObj' _ D (.deferred none)) (fun r e=>by cases e; exact⟨_,hK,rfl⟩);have hc6:=cell_kept hc2 (grownBy_putObj' _ D (.deferred none)) (fun r e=>by cases e; exact⟨_,hK,rfl⟩);refine⟨.tuple #[.int .i64 0,.bool false],?_,⟨_,_,rfl,(nomatch ·),fun _=>hbig.out,hB.trans (belowK_b (w:=w) (q_r) W1 D _ _ (by omega) hK rfl rfl)⟩⟩;simp [results,Tryz.results150,go_sem,hc5,hc6]
theorem YX (h:qZ N w v z) :
  Calls Tryz.prog 150 #[v] w (q5I z w):=by
 by_cases hz:z.natAbs < 1000000000
 ·exact (q0j h hz).mono fun e w' ⟨h1,h2⟩=>⟨z,true,h1,fun _=>rfl,(nomatch ·),h2⟩
 obtain⟨b,A,k,c,rfl,hb,hg,-⟩:=h.parts;obtain⟨A',k',c',hv,hl,-,-⟩:=hg.form;cases hv
 have HZ:Hid (1000000000<=z.natAbs):=Nat.le_of_not_lt hz
 by_cases hk:k<=3
 ·have hk0:0 < k:=by
   rcases Nat.eq_zero_or_pos k with h0 | h0
   ·have h1:=hl.out;have h2:=qF z.natAbs;rw [h0] at h1;rw [List.eq_nil_of_length_eq_zero h1] at h2;have h3:val []=0:=rfl;omega
   ·exact h0
  exact (callsIn_wide (n:=5)).1 (JY N w b A k c z h hg hk0 hk HZ hb)
 have hI:=q_h h;have hk3:decide (3 < (k:Int))=true:=q_t (by omega);clear hz h hk hl;go_enter Tryz.func150,Tryz.ntmps150;go_wp2_with (go_at_call 159; refine q_o ?_);refine kZ ?_;intro W hE hsz B0 B1 B2;refine (zQ (hI.out.ext hE)).mono ?_;rintro e w1 ⟨rfl,e1⟩;obtain⟨q0,q1⟩:=zA (e1.block B1);obtain⟨r0,r1⟩:=zA (e1.block B2);replace hE:=hE.trans e1;clear hI hg B0 B1 B2;go_wp2;have x1:=World.cell?_setCell_same' w1 ⟨w.heap.size+1,0,none⟩ (.int .i64 0) (by rw [q0]; rfl);have x2:=cell_far (g:=w.heap.size+1+1) (i:=0) (.bool false) x1 (by simp);have x3:=World.cell?_setCell_same' (w1.setCell ⟨w.heap.size+1,0,none⟩ (.int .i64 0)) ⟨w.heap.size+1+1,0,none⟩ (.bool false) (by rw [cell_far _ r0 (by simp)]; rfl);refine bodyPost_ret (v:=.tuple #[.int .i64 0,.bool false]) ?_ rfl ⟨_,_,rfl,(nomatch ·),fun _=>HZ.out,(hE.below.setCell (p:=⟨w.heap.size+1,0,none⟩) (by simp) _).setCell (p:=⟨w.heap.size+1+1,0,none⟩) (by simp; omega) _⟩;simp [results,Tryz.results150,x2,x3,go_sem]
end Go.Proofs.YtphpkhoeplcedaaGreat
namespace Go.Proofs.YtphpkhoeplcedaaGreat
open Go.RowKit
variable {w w':World} {N n lo hi k g base c b K:Nat} {v:Value} {G:Grd} {x:Rat} {z:Int} {S:Sta} {R:Raw} {A:Option Addr}
def RetPx (x y:Rat) (W H:Int) (w:World) (e:Ending) (w':World):Prop :=
 ∃ (u v:Int) (ok:Bool),e=.returned (.tuple #[.int .i64 u,.int .i64 v,.bool ok])/\ok=decide (0<=kL x W/\0<=kL y H)/\(ok=true->u=kL x W/\v=kL y H)/\Ext w w'
theorem Zb {n:Int}:0<=kL x n↔(0<=flo (x / 64)/\flo (x / 64) < n):=by
 unfold kL
 split
 ·rename_i h; exact⟨fun _=>h,fun _=>h.1⟩
 ·rename_i h; exact⟨fun h'=>absurd h' (by decide),fun h'=>absurd h' h⟩
theorem q0S {n:Int} (h:0<=flo (x / 64)/\flo (x / 64) < n):kL x n=flo (x / 64):=if_pos h
theorem VA {y:Rat} {W H u v:Int} (h:¬ (0<=kL x W/\0<=kL y H)):Hid (false=decide (0<=kL x W/\0<=kL y H)/\(false=true->u=kL x W/\v=kL y H)):=⟨(q_f h).symm,(nomatch ·)⟩
theorem q4P {y:Rat} {W H u v:Int} (h:u=flo (x / 64)/\v=flo (y / 64)) (h0:0<=u/\u < W) (h1:0<=v/\v < H):Hid (true=decide (0<=kL x W/\0<=kL y H)/\(true=true->u=kL x W/\v=kL y H)):=by
 obtain⟨rfl,rfl⟩:=h;exact⟨(decide_eq_true ⟨Zb.2 h0,Zb.2 h1⟩).symm,fun _=>⟨(q0S h0).symm,(q0S h1).symm⟩⟩
theorem p64 (x:Rat):Rat.divInt 1 64*x=x / 64:=by
 have e:Rat.divInt 1 64=(1 / 64:Rat):=by decide +kernel
 rw [e]; grind
theorem WP:Ht 8 (Rat.divInt 1 64):=by constructor <;> decide +kernel
theorem q3U {y:Rat} (hp:PlV N w v (raw x) (raw y)) (hx:Ht K x) (hy:Ht K y) (hK:K<=100000) (W H:Int) (hW:W<=64) (hH:H<=64) (hN:N<=w.heap.size) :
  Calls Tryz.prog 142 #[v,.int .i64 W,.int .i64 H] w (RetPx x y W H w):=by
 have HS:Hid (Sz x/\Sz y/\Sz (Rat.divInt 1 64)/\Sz (Rat.divInt 1 64*x)/\Sz (Rat.divInt 1 64*y)):=⟨hx.sz (by omega),hy.sz (by omega),WP.sz (by omega),(WP.mul hx).sz (by omega),(WP.mul hy).sz (by omega)⟩
 obtain⟨A1,n1,r1,A2,n2,r2,A3,n3,r3,A4,n4,r4,rfl,hX,hY⟩:=PlV.parts hp;have HX:=q_h hX;have HY:=q_h hY;clear hx hy hp hX hY;go_enter Tryz.func142,Tryz.ntmps142;go_wp2_with (go_at_call 117; refine q_o ?_);refine qM ?_;intro W1 hE hsz B0;refine (f_of (N:=N) (by omega) 1 64 (by omega) (by omega) (by omega) (by omega) (by decide)).mono ?_;rintro e w2 ⟨v2,rfl,hv2,e2⟩;obtain⟨b3,A5,k5,c5,A6,k6,c6,rfl,hb3,gw5,gw6⟩:=qm.parts hv2;go_upto_region 2 with (fail);refine ql ?_;intro w3 e3 hsz3 BH;obtain⟨gH,hgH⟩:∃ gH,gH=w2.heap.size:=⟨_,rfl⟩
 rw [<-hgH] at BH ⊢;have hBH:jL N w3 gH (Rat.divInt 1 64):=jL.mk BH hb3 (gw5.ext e3) (gw6.ext e3);have B0':=e3.block (e2.block B0);replace hE:=(hE.trans e2).trans e3;have hN3:N<=w3.heap.size:=by have:=hE.size; omega
 clear hgH BH gw5 gw6 hb3 hv2 e2 e3 hsz3 B0;obtain⟨q0,q1,q2,q3,q4,q5,q6,q7⟩:=yP B0';obtain⟨fx,hfx⟩:=qf (flo (x / 64));obtain⟨fy,hfy⟩:=qf (flo (y / 64));have HBH:=q_h hBH;have HB0:=q_h B0';clear hBH B0';obtain⟨ns,As,ks,cs,A's,k's,c's,Bs,hbs,ys,zs⟩:=HBH.out;obtain⟨s0,s1,s2,s3,-⟩:=cells4 Bs;have hRs:qm N w3 (.agg #[.bool ns,.slice As ks cs,.bool false,.slice A's k's c's]) ((Rat.divInt 1 64)):=qm.mk hbs ys zs;have hRx:qm N w3 _ x:=HX.out.ext hE;go_wp2_with (go_at_call 104; refine q_o ?_);refine (QR hRs hRx HS.out.2.2.1 HS.out.1).mono ?_;rintro e wm ⟨vm,rfl,hvm,em⟩;obtain⟨bm,Am,km,cm,A'm,k'm,c'm,rfl,-,-,-⟩:=qm.parts hvm;clear s0 s1 s2 s3 hRs q0 q1 q2 q3 q4 q5 q6 q7;go_wp2_with (go_at_call 151; refine q_o ?_);refine (Y9 hvm HS.out.2.2.2.1).mono ?_;rintro e wf ⟨vf,rfl,hvf,ef⟩;replace hvf:qZ N wf vf fx:=by rw [hfx.out,<-p64]; exact hvf
 obtain⟨bf,Af,kf,cf,rfl,-,-,-⟩:=hvf.parts;go_wp2_with (go_at_call 150; refine q_o ?_);refine (YX hvf).mono ?_;rintro e w4 ⟨u1,a1,rfl,h11,h12,es⟩;have HSa1:Hid ((a1=true->u1=fx)/\(a1=false->1000000000<=(fx).natAbs)):=⟨h11,h12⟩
 have e4:Ext w3 w4:=(em.trans ef).trans es;clear hvm hvf em ef es h11 h12;have hE4':=hE.trans e4;obtain⟨q0,q1,q2,q3,q4,q5,q6,q7⟩:=yP (e4.block HB0.out);obtain⟨ns,As,ks,cs,A's,k's,c's,Bs,hbs,ys,zs⟩:=HBH.out.ext e4;obtain⟨s0,s1,s2,s3,-⟩:=cells4 Bs;have hRs:qm N w4 (.agg #[.bool ns,.slice As ks cs,.bool false,.slice A's k's c's]) ((Rat.divInt 1 64)):=qm.mk hbs ys zs;have hRy:qm N w4 _ y:=HY.out.ext hE4';go_upto_region 3 with (fail);go_wp2_with (go_at_call 104; refine q_o ?_);refine (QR hRs hRy HS.out.2.2.1 HS.out.2.1).mono ?_;rintro e wm ⟨vm,rfl,hvm,em⟩;obtain⟨bm,Am,km,cm,A'm,k'm,c'm,rfl,-,-,-⟩:=qm.parts hvm;clear s0 s1 s2 s3 hRs q0 q1 q2 q3 q4 q5 q6 q7;go_wp2_with (go_at_call 151; refine q_o ?_);refine (Y9 hvm HS.out.2.2.2.2).mono ?_;rintro e wf ⟨vf,rfl,hvf,ef⟩;replace hvf:qZ N wf vf fy:=by rw [hfy.out,<-p64]; exact hvf
 obtain⟨bf,Af,kf,cf,rfl,-,-,-⟩:=hvf.parts;go_wp2_with (go_at_call 150; refine q_o ?_);refine (YX hvf).mono ?_;rintro e w5 ⟨u2,a2,rfl,h21,h22,es⟩;have HSa2:Hid ((a2=true->u2=fy)/\(a2=false->1000000000<=(fy).natAbs)):=⟨h21,h22⟩
 have e4:Ext w4 w5:=(em.trans ef).trans es;clear hvm hvf em ef es h21 h22;replace hE:=hE4'.trans e4;clear hE4' e4 hRx hRy Bs hbs ys zs HBH HB0 HX HY;have HCX:Hid (0<=kL x W↔(0<=fx/\fx < W)):=by rw [Hid,hfx.out]; exact Zb
 have HCY:Hid (0<=kL y H↔(0<=fy/\fy < H)):=by rw [Hid,hfy.out]; exact Zb
 cases a1 with
 | false =>
  have HF:=VA (x:=x) (y:=y) (W:=W) (H:=H) (u:=u1) (v:=u2) (by
   rintro⟨g1,-⟩;have:=HCX.out.1 g1;have:=HSa1.out.2 rfl
   omega)
  go_wp2;refine bodyPost_ret (v:=.tuple #[.int .i64 u1,.int .i64 u2,.bool false]) (by simp [results,Tryz.results142,go_sem]) rfl ?_;exact⟨_,_,false,rfl,HF.out.1,HF.out.2,hE⟩
 | true =>
 have e1:Hid (u1=fx):=HSa1.out.1 rfl;cases a2 with
 | false =>
  have HF:=VA (x:=x) (y:=y) (W:=W) (H:=H) (u:=u1) (v:=u2) (by
   rintro⟨-,g1⟩;have:=HCY.out.1 g1;have:=HSa2.out.2 rfl
   omega)
  go_wp2;refine bodyPost_ret (v:=.tuple #[.int .i64 u1,.int .i64 u2,.bool false]) (by simp [results,Tryz.results142,go_sem]) rfl ?_;exact⟨_,_,false,rfl,HF.out.1,HF.out.2,hE⟩
 | true =>
 have e2:Hid (u2=fy):=HSa2.out.1 rfl;clear HSa1 HSa2
 by_cases k1:0<=u1
 case neg =>
  have d1:decide (0<=u1)=false:=decide_eq_false k1
  have HF:=VA (x:=x) (y:=y) (W:=W) (H:=H) (u:=u1) (v:=u2) (by
   rintro⟨g1,-⟩;have:=HCX.out.1 g1;have:=e1.out
   omega)
  clear k1;go_wp2;refine bodyPost_ret (v:=.tuple #[.int .i64 u1,.int .i64 u2,.bool false]) (by simp [results,Tryz.results142,go_sem]) rfl ?_;exact⟨_,_,false,rfl,HF.out.1,HF.out.2,hE⟩
 have d1:decide (0<=u1)=true:=decide_eq_true k1
 by_cases k2:u1 < W
 case neg =>
  have d2:decide (u1 < W)=false:=decide_eq_false k2
  have HF:=VA (x:=x) (y:=y) (W:=W) (H:=H) (u:=u1) (v:=u2) (by
   rintro⟨g1,-⟩;have:=HCX.out.1 g1;have:=e1.out
   omega)
  clear k1 k2;go_wp2;refine bodyPost_ret (v:=.tuple #[.int .i64 u1,.int .i64 u2,.bool false]) (by simp [results,Tryz.results142,go_sem]) rfl ?_;exact⟨_,_,false,rfl,HF.out.1,HF.out.2,hE⟩
 have d2:decide (u1 < W)=true:=decide_eq_true k2
 by_cases k3:0<=u2
 case neg =>
  have d3:decide (0<=u2)=false:=decide_eq_false k3
  have HF:=VA (x:=x) (y:=y) (W:=W) (H:=H) (u:=u1) (v:=u2) (by
   rintro⟨-,g1⟩;have:=HCY.out.1 g1;have:=e2.out
   omega)
  clear k1 k2 k3;go_wp2;refine bodyPost_ret (v:=.tuple #[.int .i64 u1,.int .i64 u2,.bool false]) (by simp [results,Tryz.results142,go_sem]) rfl ?_;exact⟨_,_,false,rfl,HF.out.1,HF.out.2,hE⟩
 have d3:decide (0<=u2)=true:=decide_eq_true k3
 by_cases k4:u2 < H
 case neg =>
  have d4:decide (u2 < H)=false:=decide_eq_false k4
  have HF:=VA (x:=x) (y:=y) (W:=W) (H:=H) (u:=u1) (v:=u2) (by
   rintro⟨-,g1⟩;have:=HCY.out.1 g1;have:=e2.out
   omega)
  clear k1 k2 k3 k4;go_wp2;refine bodyPost_ret (v:=.tuple #[.int .i64 u1,.int .i64 u2,.bool false]) (by simp [results,Tryz.results142,go_sem]) rfl ?_;exact⟨_,_,false,rfl,HF.out.1,HF.out.2,hE⟩
 have d4:decide (u2 < H)=true:=decide_eq_true k4;have HF:=q4P (x:=x) (y:=y) (W:=W) (H:=H) (u:=u1) (v:=u2) ⟨by rw [<-hfx.out]; exact e1.out,by rw [<-hfy.out]; exact e2.out⟩ ⟨k1,k2⟩ ⟨k3,k4⟩;clear k1 k2 k3 k4;go_wp2;refine bodyPost_ret (v:=.tuple #[.int .i64 u1,.int .i64 u2,.bool true]) (by simp [results,Tryz.results142,go_sem]) rfl ?_;exact⟨_,_,true,rfl,HF.out.1,fun _=>HF.out.2 trivial,hE⟩
noncomputable def We (G:Grd) (a b:Nat->Rat):Bool:=@decide (q1h G a b) (Classical.propDecidable _)
theorem vX {a b:Nat->Rat}:We G a b=true↔q1h G a b:=by
 unfold We;exact @decide_eq_true_iff _ (Classical.propDecidable _)
theorem q4i {a b:Nat->Rat} {r:Bool} (h:r=true↔q1h G a b):We G a b=r:=by
 cases r with
 | true=>exact vX.2 (h.1 rfl)
 | false =>
  cases e:We G a b with
  | false=>rfl
  | true=>exact absurd (h.2 (vX.1 e)) (by decide)
theorem q0b {vg:Value} {ca cb:Array Value} {a b:Nat->Rat} (h:yg N lo hi w vg G) (hG:GOk G) (a2:ca.size=12) (a4:PtV N w ca 0 a) (b2:cb.size=12) (b4:PtV N w cb 0 b) (hka:∀ i,i < 3->Ht K (a i)) (hkb:∀ i,i < 3->Ht K (b i)) (hK:K<=1000) (hN:N<=w.heap.size) :
  Calls Tryz.prog 144 #[vg,.agg ca,.agg cb] w (zX w (.bool (We G a b))):=by
 obtain⟨A,c9,rfl,-,-,-⟩:=h.parts;have HG:=q_h h;have HGO:=q_h hG;have HKA:=q_h hka;have HKB:=q_h hkb;have ZA:=q_h a2;have ZB:=q_h b2;have HPA:=q_h a4;have HPB:=q_h b4;obtain⟨r,hr⟩:=qf (We G a b);rw [<-hr.out];have HLN:=q_h (q1p hG);clear h hG hka hkb a2 b2 a4 b4;go_enter Tryz.func144,Tryz.ntmps144;go_upto_region 1 with (fail);refine zW ?_;intro W hE hsz B0 B1 B2;obtain⟨a0,a1,a2,a3,a4,a5⟩:=qG B0;go_wp2_with (go_at_call 52; refine q_o ?_);refine (Kw (HG.out.ext hE) HGO.out).mono ?_;rintro e w1 ⟨At,ct,rfl,hgt,e1⟩;have HB0:=q_h (e1.block B0);have HB1:=q_h (e1.block B1);have HB2:=q_h (e1.block B2);have HGT:=q_h hgt;replace hE:=hE.trans e1;obtain⟨n,hn⟩:=qf (Xc G).length;have HNL:Hid (n<=10000):=by rw [Hid,hn.out]; exact HLN.out
 have hnl:=HNL.out;rw [<-hn.out];clear a0 a1 a2 a3 a4 a5 B0 B1 B2 e1 hgt;go_wp2
 go_loopw [12] (fun iv wr=>∃ i:Nat,i<=n/\iv=.int .i64 i/\Hid (∀ j t,j < i->(Xc G)[j]?=some t->¬ q3w G a b t)/\Ext w1 wr) (fun iv _=>n - (intOf iv).toNat)
 case atStart=>exact⟨0,by omega,rfl,fun j t hj=>absurd hj (by omega),Ext.refl _⟩
 case round =>
  obtain⟨i,hi,rfl,hA,hEr⟩:=hrel
  by_cases hin:i < n
  case neg =>
   obtain rfl:i=n:=by omega
   have HR:Hid (r=true):=by
    rw [Hid,hr.out];refine vX.2 (q0L.2 fun t ht=>?_);obtain⟨j,hj⟩:=List.getElem?_of_mem ht
    have hjl:j < (Xc G).length:=by
     rcases Nat.lt_or_ge j (Xc G).length with h9 | h9
     ·exact h9
     ·rw [List.getElem?_eq_none h9] at hj; cases hj
    exact hA.out j t (by rw [hn.out]; exact hjl) hj
   have hq:decide ((i:Int) < (i:Int))=false:=q_f (by omega);go_wp2;go_ret;rw [HR.out];exact⟨rfl,hE.trans hEr⟩
  have hin':(i:Int) < n:=by omega
  obtain⟨t,ht⟩:∃ t,(Xc G)[i]?=some t:=⟨_,List.getElem?_eq_getElem (by rw [<-hn.out]; exact hin)⟩
  have HTM:Hid (t∈Xc G):=List.mem_of_getElem? ht;have HTI:=q_h ht;have hTO:=q_h (q4A HGO.out HTM.out);obtain⟨gt,hAt,hcell⟩:=(HGT.out.ext hEr).cell ht;subst hAt;have t0:=hcell 0 (by omega);have t1:=hcell 1 (by omega);have t2:=hcell 2 (by omega);have t3:=hcell 3 (by omega);have t4:=hcell 4 (by omega);have t5:=hcell 5 (by omega);rw [Nat.add_zero] at t0;replace t0:wr.cell? ⟨gt,i*6,none⟩=some (.int .i64 t.i):=t0;replace t1:wr.cell? ⟨gt,i*6+1,none⟩=some (.int .i64 t.j):=t1;replace t2:wr.cell? ⟨gt,i*6+2,none⟩=some (.bool t.l):=t2;replace t3:wr.cell? ⟨gt,i*6+3,none⟩=some (.int .i64 t.z0):=t3;replace t4:wr.cell? ⟨gt,i*6+4,none⟩=some (.int .i64 t.z1):=t4;replace t5:wr.cell? ⟨gt,i*6+5,none⟩=some (.int .i64 t.z2):=t5;clear hcell ht;go_upto_region 4 with (fail);refine ql ?_;intro w3 e3 hsz3 B3;clear t0 t1 t2 t3 t4 t5;have E13:=hEr.trans e3;obtain⟨a0,a1,a2,a3,a4,a5⟩:=qG (E13.block HB0.out);obtain⟨t0,t1,t2,t3,t4,t5⟩:=qG B3;have B1:=E13.block HB1.out;have B2:=E13.block HB2.out;refine wp_region_lit ?_;refine wpList_plain rfl (fun K hK=>?_);go_simp;refine hK _ _ ?_;clear hK K;try simp only [nr]
  refine wpList_plain rfl (fun K hK=>?_);go_simp;refine hK _ _ ?_;clear hK K;try simp only [nr]
  refine wpList_load_row rfl 43 _ rfl _ (by rfl) _ ca _ _ B1 Tryz.underlying43 rfl (by rw [ZA.out]; exact qE) ?_;try simp only [nr]
  refine wpList_load_row rfl 43 _ rfl _ (by rfl) _ cb _ _ B2 Tryz.underlying43 rfl (by rw [ZB.out]; exact qE) ?_;try simp only [nr]
  have HH:=VF (HG.out.ext (hE.trans E13)) HGO.out hTO.out ZA.out (HPA.out.ext (hE.trans E13)) ZB.out (HPB.out.ext (hE.trans E13)) HKA.out HKB.out (by omega) (by have:=(hE.trans E13).size; omega);unfold Ju at HH;have HH':=q_h HH;clear HH;go_wp2_with (go_at_call 190; refine q_o ?_);refine (HH'.out).mono ?_;obtain⟨hb,hhb⟩:=qf (q3b G a b t);rw [<-hhb.out];rintro e w4 ⟨rfl,e4⟩
  rename_i K9 hK9
  refine hK9 _ _ ?_;clear hK9 K9 HH' a0 a1 a2 a3 a4 a5 t0 t1 t2 t3 t4 t5 B1 B2 B3;try simp only [nr]
  refine wpList_nil ?_;have E14:=E13.trans e4;cases hb with
  | true =>
   have HR:Hid (r=false):=by
    rw [Hid,hr.out];exact q4i ⟨fun h=>absurd h (by decide),fun h=>absurd (KO.1 hhb.out.symm) (q0L.1 h t HTM.out)⟩
   go_wp2;go_ret;rw [HR.out];exact⟨rfl,hE.trans E14⟩
  | false =>
   have HA2:Hid (∀ j t,j < i+1->(Xc G)[j]?=some t->¬ q3w G a b t):=fun j t' hj ht'=>by
    by_cases hji:j=i
    ·subst hji;rw [HTI.out] at ht';injection ht' with ht'
     subst ht';intro h9;rw [XM h9] at hhb;exact absurd hhb.out (by decide)
    ·exact hA.out j t' (by omega) ht'
   go_wp2;go_roundw
   case rel=>exact⟨i+1,by omega,by go_num,HA2.out,E14⟩
   case measure=>simp [intOf]; omega
theorem q5a {n:Int} (h : -8388608<=n/\n<=8388608):(-8388608:Rat)<=(n:Rat)/\(n:Rat)<=8388608:=by
 have c1:((8388608:Int):Rat)=8388608:=rfl;have c2:((-8388608:Int):Rat) = -8388608:=rfl;rw [<-c2,<-c1];exact⟨q08 h.1,q08 h.2⟩
theorem yR {P:Rat->Prop} {x y:Int} (hx:P (x:Rat)) (hy:P (y:Rat)) (hz:P (z:Rat)) (i:Nat):P (sp3 x y z i):=by
 unfold sp3
 split
 ·exact hx
 ·split
  ·exact hy
  ·exact hz
theorem zS {n:Int} (h : -8388608<=n/\n<=8388608):Ht 24 (n:Rat):=qp (by omega) (by omega)
structure Chs where
 best:Int
 u:Int
 v:Int
 least:Int
def Chs.cells (c:Chs):List Value:=[.int .i64 c.best,.int .i64 c.u,.int .i64 c.v]
def q3j (S:Sta) (X Y:Int):Int:=(S.ax - X)*(S.ax - X)+(S.ay - Y)*(S.ay - Y)
noncomputable def xM (G:Grd) (S:Sta) (p:Nat->Rat) (W H:Int):Bool :=
 decide (0 < dS S p 2 3) && (decide (0<=kL (jU S p) W/\0<=kL (jT S p) H) && We G p (sp3 S.ax S.ay S.az))
noncomputable def jG (G:Grd) (S:Nat->Sta) (W H X Y z:Int):Nat->Chs
 | 0=>⟨-1,0,0,0⟩
 | n+1 =>
  if z=zK\/(0<=(jG G S W H X Y z n).best/\(jG G S W H X Y z n).least<=q3j (S n) X Y) then jG G S W H X Y z n
  else if xM G (S n) (sp3 X Y z) W H then ⟨n,kL (jU (S n) (sp3 X Y z)) W,kL (jT (S n) (sp3 X Y z)) H,q3j (S n) X Y⟩
  else jG G S W H X Y z n
theorem Xa (G:Grd) (S:Nat->Sta) (W H X Y:Int):∀ n,jG G S W H X Y zK n=⟨-1,0,0,0⟩
 | 0=>rfl
 | n+1=>by unfold jG; rw [if_pos (.inl rfl)]; exact Xa G S W H X Y n
theorem q4j {S:Nat->Sta} {W H X Y:Int} (h:0<=(jG G S W H X Y z n).best) (h':(jG G S W H X Y z n).least<=q3j (S n) X Y):jG G S W H X Y z (n+1)=jG G S W H X Y z n:=by
 rw [jG,if_pos (.inr ⟨h,h'⟩)]
theorem X9 {S:Nat->Sta} {W H X Y:Int} (h:xM G (S n) (sp3 X Y z) W H=false):jG G S W H X Y z (n+1)=jG G S W H X Y z n:=by
 rw [jG]
 split
 ·rfl
 ·rw [h]; rfl
theorem q0Q {S:Nat->Sta} {W H X Y:Int} (hz:z≠zK) (h:¬ (0<=(jG G S W H X Y z n).best/\(jG G S W H X Y z n).least<=q3j (S n) X Y)) (h':xM G (S n) (sp3 X Y z) W H=true) :
  jG G S W H X Y z (n+1)=⟨n,kL (jU (S n) (sp3 X Y z)) W,kL (jT (S n) (sp3 X Y z)) H,q3j (S n) X Y⟩:=by
 rw [jG,if_neg (by rintro (h9 | h9); exact hz h9; exact h h9),h']; rfl
def ptX (G:Grd) (k:Nat):Int:=G.x0+((k % G.wd.toNat:Nat):Int)*G.st
def ptY (G:Grd) (k:Nat):Int:=G.y0+((k / G.wd.toNat:Nat):Int)*G.st
noncomputable def q1t (G:Grd) (S:Nat->Sta) (n:Nat) (W H:Int) (k:Nat):Chs:=jG G S W H (ptX G k) (ptY G k) (G.z k) n
noncomputable def Yr (G:Grd) (S:Nat->Sta) (n:Nat) (W H:Int) (m:Nat):List Chs:=(List.range m).map (q1t G S n W H)
theorem Wx (G:Grd) (S:Nat->Sta) (n:Nat) (W H:Int) (m:Nat):Yr G S n W H (m+1)=Yr G S n W H m ++ [q1t G S n W H m]:=by
 unfold Yr; rw [List.range_succ,List.map_append]; rfl
theorem Yq (G:Grd) (S:Nat->Sta) (n:Nat) (W H:Int) (m:Nat):(Yr G S n W H m).length=m:=by unfold Yr; rw [List.length_map,List.length_range]
def jH (base:Nat) (w:World) (v:Value) (ts:List Chs):Prop:=base<=w.heap.size/\w.ownsRow base 146 3 v ts.length (ts.flatMap Chs.cells)
theorem XQ:∀ (ts:List Chs) (k:Nat) (t:Chs) (r:Nat),ts[k]?=some t->r < 3->(ts.flatMap Chs.cells)[k*3+r]?=t.cells[r]?
 | [],_,_,_,h,_=>by simp at h
 | a :: ts,0,t,r,h,hr=>by
  simp only [List.getElem?_cons_zero,Option.some.injEq] at h;subst h;rw [List.flatMap_cons,Nat.zero_mul,Nat.zero_add,List.getElem?_append_left (by show r < 3; exact hr)]
 | a :: ts,k+1,t,r,h,hr=>by
  rw [List.getElem?_cons_succ] at h;rw [List.flatMap_cons,List.getElem?_append_right (by show 3<=_; omega)];have:=XQ ts k t r h hr;rw [<-this]
  show (ts.flatMap Chs.cells)[(k+1)*3+r - 3]?=_
  congr 1
  omega
theorem jH.nil (h:base<=w.heap.size):jH base w (.slice none 0 0) []:=⟨h,by simp,.inl ⟨rfl,rfl⟩⟩
theorem jH.form {ts:List Chs} (h:jH base w v ts):∃ A c,v=.slice A ts.length c:=by
 rcases h.2.2 with ⟨rfl,h0⟩ | ⟨g,cap,cur,rfl,_⟩
 ·exact⟨_,_,by rw [h0]⟩
 ·exact⟨_,_,rfl⟩
theorem jH.ext {ts:List Chs} (h:jH base w v ts) (e:Ext w w'):jH base w' v ts:=by
 refine⟨q_l h.1 e.size,h.2.1,?_⟩
 rcases h.2.2 with h0 | ⟨g,cap,cur,hv,hb,hh,h1,h2,h3,h4⟩
 ·exact .inl h0
 ·exact .inr ⟨g,cap,cur,hv,hb,e.block hh,h1,h2,h3,h4⟩
theorem jH.mono {base':Nat} {ts:List Chs} (h:jH base w v ts) (hb:base'<=base):jH base' w v ts:=by
 refine⟨q_l hb h.1,h.2.1,?_⟩
 rcases h.2.2 with h0 | ⟨g,cap,cur,hv,hB,hh,h1,h2,h3,h4⟩
 ·exact .inl h0
 ·exact .inr ⟨g,cap,cur,hv,q_l hb hB,hh,h1,h2,h3,h4⟩
theorem jH.cell {ts:List Chs} (h:jH base w (.slice A n c) ts) {t:Chs} (ht:ts[k]?=some t):∃ g,A=some ⟨g,0,none⟩/\∀ r,r < 3->w.cell? ⟨g,k*3+r,none⟩=t.cells[r]?:=by
 have hk:=(List.getElem?_eq_some_iff.1 ht).1
 rcases h.2.2 with ⟨-,h⟩ | ⟨g,cap,cur,hv,hb,hg,hnc,hcm,hcs,htk⟩
 ·omega
 ·injection hv with e1 e2 e3
  refine⟨g,e1,fun r hr=>?_⟩;rw [qh hg,<-XQ ts k t r ht hr,<-htk];rw [List.getElem?_take,if_pos (by omega)]
  simp
theorem q27:(Tryz.prog.info? 146).map (fun i=>(i.zero,i.size,i.bytes))=some (some (.agg #[.int .i64 0,.int .i64 0,.int .i64 0]),3,24):=by kernel_rfl
theorem QE {ts:List Chs} {ops:Array Oper} {rest:List Oper} {o:Oper} {a:Act} {Q:Exit->Act->World->Prop} (hgd:o.guard=none) (s x:Operand) (t:TypeId) (ht:Tryz.prog.underlying t=some (.slice 146))
  (ho:o.op=.call { callee:=.builtin .append,args:=#[s,x],argTypes:=#[t,t] }) (hs:a.eval s=v) (h:jH base w v ts) (hx:a.eval x=.slice (some ⟨b,0,none⟩) 1 1) {q:Chs} {fr:Nat×Nat} (hb:w.heap[b]?=some (.cells q.cells.toArray 146 fr)) (hn:ts.length < 1000000000)
  (hK:∀ g cap w',jH base w' (.slice (some ⟨g,0,none⟩) (ts.length+1) cap) (ts ++ [q])->(∃ g',base<=g'/\Chg g' (g'+1) w w')->wpList Tryz.prog ops Q rest (a.put o.dst (.slice (some ⟨g,0,none⟩) (ts.length+1) cap)) w'):wpList Tryz.prog ops Q (o :: rest) a w:=by
 obtain⟨i0,hi0,hz0,hz1,hz2⟩:=info_parts q27;obtain⟨hb0,hown⟩:=h
 obtain⟨g,cap,w',hrun,hO,hgr,hat,hlt⟩:=run_append_lies (P:=Tryz.prog) w t o.type base 146 i0 _ 3 24 ht hi0 hz0 hz1 hz2 rfl (by omega) v ts.length (ts.flatMap Chs.cells) hown ⟨b,0,none⟩ 1 1 q.cells (by rfl)
  (fun j u hj=>by rw [Qy,qh hb,Nat.zero_add]; simpa using hj) (fun u hu=>by unfold Chs.cells at hu; simp at hu; rcases hu with rfl | rfl | rfl <;> rfl) (by omega) (by unfold maxLen; omega)
  (by omega) hb0 w.heap.size rfl
 refine wpList_plain hgd fun _ hK'=>?_
 unfold Oper.wp;simp only [execOp,ho,resolve,invoke,builtin,Sem.run_bind,Sem.run_pure,Result.andThen_ok,List.map_toArray,List.map_cons,List.map_nil,hs,hx,hrun];have hG:jH base w' (.slice (some ⟨g,0,none⟩) (ts.length+1) cap) (ts ++ [q]):=⟨q_l hb0 hgr.size,by rw [List.length_append,List.flatMap_append,List.flatMap_cons,List.flatMap_nil,List.append_nil]; exact hO⟩
 have hT:NoU w w.heap.size:=fun cs fr h=>by rw [Array.getElem?_eq_none (q_r)] at h; cases h
 rcases hown.2 with ⟨rfl,h0⟩ | ⟨g0,cap0,cur,rfl,hbb,hh,_⟩
 ·exact hK' _ _ (hK g cap w' hG ⟨w.heap.size,hb0,kD hgr (fun k hk=>by simp [Value.ownBlock] at hk) hT⟩)
 ·have hT0:NoU w g0:=NoU.mk hh (by decide);exact hK' _ _ (hK g cap w' hG ⟨g0,hbb,kD hgr (fun k hk=>by simpa [Value.ownBlock] using hk.symm) hT0⟩)
def RetSq (w:World) (l:List Chs) (n:Nat) (e:Ending) (w':World):Prop:=∃ A c,e=.returned (.slice A n c)/\jH w.heap.size w' (.slice A n c) l/\Ext w w'
theorem q43:(Tryz.prog.info? 146).map (·.size)=some 3:=by kernel_rfl
theorem q4Q {R':Raw} (h:PlV N w v R R') (e:Ext w w'):PlV N w' v R R':=by
 obtain⟨x0,x1,x2,x3,y0,y1,y2,y3,rfl,h1,h2⟩:=h;exact⟨x0,x1,x2,x3,y0,y1,y2,y3,rfl,h1.ext e,h2.ext e⟩
theorem q1v {d:Int} (h : -6291456<=d/\d<=6291456) : -39582418599936<=d*d/\d*d<=39582418599936:=by
 have h1:(d*d).natAbs<=6291456*6291456:=by
  rw [Int.natAbs_mul];exact Nat.mul_le_mul (by omega) (by omega)
 omega
theorem Vw {p:Nat->Rat} {W H:Int} (h:¬ 0 < dS S p 2 3):xM G S p W H=false:=by
 unfold xM; rw [q_f h]; rfl
theorem q3G {p:Nat->Rat} {W H:Int} (h:false=decide (0<=kL (jU S p) W/\0<=kL (jT S p) H)):xM G S p W H=false:=by
 unfold xM; rw [<-h]; simp
theorem q1G {p:Nat->Rat} {W H:Int} {t:Rat} (h:VV G p (sp3 S.ax S.ay S.az) t):xM G S p W H=false:=by
 have e:We G p (sp3 S.ax S.ay S.az)=false:=by
  cases e:We G p (sp3 S.ax S.ay S.az) with
  | false=>rfl
  | true=>exact absurd (vX.1 e) (q4l h)
 unfold xM; rw [e]; simp
theorem q1E {p:Nat->Rat} {W H:Int} (h:0 < dS S p 2 3) (h':true=decide (0<=kL (jU S p) W/\0<=kL (jT S p) H)) (h'':q1h G p (sp3 S.ax S.ay S.az)):xM G S p W H=true:=by
 unfold xM; rw [q_t h,<-h',vX.2 h'']; rfl
theorem q4I (hG:GOk G) {T:Sta} (hT:ZK T) {X Y:Int} (hX : -1048576<=X/\X<=5242880) (hY : -1048576<=Y/\Y<=5242880) (hz : -1048576<=z/\z<=1048576):SOk G 24 (sp3 X Y z) (sp3 T.ax T.ay T.az):=by
 have a1:=hT.ax;have a2:=hT.ay;have a3:=hT.az;have bd:∀ {n:Int},-8388608<=n/\n<=8388608->(-100000000:Rat)<=(n:Rat)/\(n:Rat)<=100000000:=fun h=>by have:=q5a h; constructor <;> grind
 exact⟨hG,fun i _=>yR (zS (by omega)) (zS (by omega)) (zS (by omega)) i,fun i _=>yR (zS (by omega)) (zS (by omega)) (zS (by omega)) i,
  fun i _=>yR (P:=fun q=>(-100000000:Rat)<=q/\q<=100000000) (bd (by omega)) (bd (by omega)) (bd (by omega)) i,fun i _=>yR (P:=fun q=>(-100000000:Rat)<=q/\q<=100000000) (bd (by omega)) (bd (by omega)) (bd (by omega)) i⟩
theorem YV (h:ZK S) {p:Nat->Rat} (hp:∀ i,i < 3->Ht K (p i)):Ht (6*K+600) (jU S p)/\Ht (6*K+600) (jT S p):=by
 have h0:=J3 h hp 0 3 (by omega);have h1:=J3 h hp 1 3 (by omega);have h2:=J3 h hp 2 3 (by omega);have c1:=h.cx;have c2:=h.cy;have c3:=h.f;have hf:Ht 21 (S.f:Rat):=qp (by omega) (by omega);have hx:Ht 21 (S.cx:Rat):=qp (by omega) (by omega);have hy:Ht 21 (S.cy:Rat):=qp (by omega) (by omega);exact⟨(hx.add ((hf.div h2).mul h0)).mono (by omega),(hy.add ((hf.div h2).mul h1)).mono (by omega)⟩
theorem q4T {lo0 hi0:Nat} {vg vs:Value} {S:Nat->Sta} (h:yg N lo0 hi0 w vg G) (hG:GOk G) (hs:StsV w vs n S) (hok:∀ i,i < n->ZK (S i)) (W H:Int) (hW:W<=64) (hH:H<=64) (hN:N<=w.heap.size) :
  Calls Tryz.prog 86 #[vg,vs,.int .i64 W,.int .i64 H] w (RetSq w (Yr G S n W H G.n) G.n):=by
 obtain⟨A,c,rfl,hnc,hcm,hz⟩:=h.parts;obtain⟨As,cs,rfl,hsc,hscm,hst⟩:=hs;unfold maxLen at hscm;have HG:=q_h h;have HGO:=q_h hG;have HOK:=q_h hok;have HST:=q_h hst;have g1:=hG.w0;have g2:=hG.w1;have g3:=hG.h0;have g4:=hG.h1;have g5:=hG.s0;have g6:=hG.s1;have g7:=hG.x0;have g8:=hG.x1;have g9:=hG.y0;have g10:=hG.y1;have h3:G.wd*G.ht<=64*64:=Int.mul_le_mul g2 g4 (by omega) (by omega);have HN:=q_h hG.n;have hn4:G.n<=4096:=by have:=hG.n; omega
 obtain⟨bz,oz,rfl,hzc⟩:=hz.addr (by have:0 < G.wd*G.ht:=Int.mul_pos (by omega) (by omega); have:=hG.n; omega);have HZ:=q_h hzc;clear h hG hz h3 hzc hok hst;go_enter Tryz.func86,Tryz.ntmps86;go_upto_region 1 with (fail);refine ql ?_;intro W0 hE hsz B0;obtain⟨a0,a1,a2,a3,a4,a5⟩:=qG B0;have HB0:=q_h B0;clear B0;go_wp2_with fail
 go_loopw [31,9] (fun kv lv wr=>∃ k:Nat,k<=G.n/\kv=.int .i64 (k:Int)/\jH W0.heap.size wr lv (Yr G S n W H k)/\Ext W0 wr) (fun kv _ _=>G.n - (intOf kv).toNat)
 case atStart=>exact⟨0,Nat.zero_le _,rfl,jH.nil (q_r),Ext.refl _⟩
 case round =>
  clear a0 a1 a2 a3 a4 a5;obtain⟨k,hk,rfl,HG1,hE1⟩:=hrel;obtain⟨A1,c1,rfl⟩:=HG1.form;have hl1:(Yr G S n W H k).length=k:=Yq G S n W H k;rw [hl1] at HG1 ⊢
  by_cases hlt:k < G.n
  case neg =>
   have hke:k=G.n:=by omega
   have HG9:Hid (jH W0.heap.size wr (.slice A1 G.n c1) (Yr G S n W H G.n)):=by rw [Hid,<-hke]; exact HG1
   have t1:decide ((k:Int) < (G.n:Int))=false:=q_f (by omega);rw [hke] at t1 ⊢;clear hke hlt HG1 hl1;go_wp2;go_ret;exact⟨A1,c1,rfl,HG9.out.mono (by omega),hE.trans hE1⟩
  have t1:decide ((k:Int) < (G.n:Int))=true:=q_t (by omega);have HG1':=q_h HG1;clear HG1 hl1;have B0:=hE1.block HB0.out;obtain⟨a0,a1,a2,a3,a4,a5⟩:=qG B0;obtain⟨z,hz⟩:=qf (G.z k);have p0:=(hE.trans hE1).cell (HZ.out k hlt);rw [<-hz.out] at p0;go_upto_region 6 with (fail);refine ql ?_;intro W1 hE2 hsz2 B1;obtain⟨gB,hgB⟩:∃ gB,gB=wr.heap.size:=⟨_,rfl⟩
  rw [<-hgB] at B1 ⊢;clear p0 a0 a1 a2 a3 a4 a5;have hE12:=hE1.trans hE2;replace B0:=hE2.block B0;obtain⟨a0,a1,a2,a3,a4,a5⟩:=qG B0;obtain⟨wdn,hwdn⟩:∃ wdn:Nat,(wdn:Int)=G.wd:=⟨G.wd.toNat,by omega⟩
  have hwt:G.wd.toNat=wdn:=by omega
  have hwp:0 < wdn:=by omega
  obtain⟨kx,hkx⟩:=qf (k % wdn);obtain⟨ky,hky⟩:=qf (k / wdn);have hkxb:kx < wdn:=by rw [hkx.out]; exact Nat.mod_lt _ hwp
  have hkyb:ky < 64:=by
   rw [hky.out];refine Nat.div_lt_of_lt_mul ?_;have e1:((wdn*G.ht.toNat:Nat):Int)=G.wd*G.ht:=by rw [Int.natCast_mul,hwdn]; congr 1; omega
   have e2:wdn*G.ht.toNat<=wdn*64:=Nat.mul_le_mul_left _ (by omega);have:=HN.out;omega
  have q1:((k:Int).tmod G.wd)=(kx:Int):=by rw [<-hwdn,hkx.out]; exact (Int.ofNat_tmod k wdn).symm
  have q2:((k:Int).tdiv G.wd)=(ky:Int):=by rw [<-hwdn,hky.out]; exact (Int.ofNat_tdiv k wdn).symm
  have q3:(G.wd == 0)=false:=by rw [beq_eq_false_iff_ne]; omega
  have q8:¬ G.wd=0:=by omega
  have q9:IntKind.i64.wrap (ky:Int)=(ky:Int):=IntWalk.i64_in _ (by omega);have mx:0<=(kx:Int)*G.st/\(kx:Int)*G.st<=64*65536:=⟨Int.mul_nonneg (by omega) (by omega),Int.mul_le_mul (by omega) g6 (by omega) (by omega)⟩
  have my:0<=(ky:Int)*G.st/\(ky:Int)*G.st<=64*65536:=⟨Int.mul_nonneg (by omega) (by omega),Int.mul_le_mul (by omega) g6 (by omega) (by omega)⟩
  obtain⟨X,hX⟩:=qf (G.x0+(kx:Int)*G.st);obtain⟨Y,hY⟩:=qf (G.y0+(ky:Int)*G.st);have hXb : -1048576<=X/\X<=5242880:=by rw [hX.out]; omega
  have hYb : -1048576<=Y/\Y<=5242880:=by rw [hY.out]; omega
  have HXY:Hid (q1t G S n W H k=jG G S W H X Y z n):=by
   rw [Hid,hX.out,hY.out,hkx.out,hky.out,hz.out,<-hwt]; rfl
  obtain⟨px,hpx⟩:=qf ((kx:Int)*G.st);obtain⟨py,hpy⟩:=qf ((ky:Int)*G.st);have q4:IntKind.i64.wrap ((kx:Int)*G.st)=px:=by rw [hpx.out]; exact IntWalk.i64_in _ (by omega)
  have q5:IntKind.i64.wrap ((ky:Int)*G.st)=py:=by rw [hpy.out]; exact IntWalk.i64_in _ (by omega)
  have q6:IntKind.i64.wrap (G.x0+px)=X:=by rw [hpx.out,<-hX.out]; exact IntWalk.i64_in _ (by omega)
  have q7:IntKind.i64.wrap (G.y0+py)=Y:=by rw [hpy.out,<-hY.out]; exact IntWalk.i64_in _ (by omega)
  have HZk:=q_h hz.out;clear mx my hkxb hkyb hwt hwp hwdn hz;refine xe [Mn.q w.heap.size 0,Mn.i G.x0,Mn.i (k:Int),Mn.q w.heap.size 3,Mn.i G.wd,Mn.i (kx:Int),Mn.q w.heap.size 2,Mn.i G.st,Mn.i px,Mn.i X,Mn.q w.heap.size 1,Mn.i G.y0,Mn.i (k:Int),Mn.q w.heap.size 3,Mn.i G.wd,Mn.i (ky:Int),Mn.q w.heap.size 2,Mn.i G.st,Mn.i py,Mn.i Y,Mn.i X,Mn.i Y] (sM [37,38,39,40,41,42,43,44,45,46,47,48,49,50,51,52,53,54,55,56,13,14]) [] (rQ 22 0) 0 (by kernel_rfl) ?_ ?_
  ·show ∀ i,i < 22->_
   iterate 22 refine fs ?_ ?_
   ·exact fz
   all_goals intro hl; clear hl; refine stp rfl ?_; intro ac wi eI hB hA K hK
   have o4:=oOf (hB 4) rfl
   rotate_left
   obtain⟨_,s37,rfl⟩:=hA 0 37;have cc0:=eI.cell a0
   rotate_left
   have o10:=oOf (hB 10) rfl
   rotate_left
   have o4:=oOf (hB 4) rfl
   rotate_left
   obtain⟨_,s40,rfl⟩:=hA 3 40;have cc0:=eI.cell a3
   rotate_left
   obtain⟨_,s39,rfl⟩:=hA 2 39;obtain⟨_,s41,rfl⟩:=hA 4 41
   rotate_left
   have o4:=oOf (hB 4) rfl
   rotate_left
   obtain⟨_,s43,rfl⟩:=hA 6 43;have cc0:=eI.cell a2
   rotate_left
   obtain⟨_,s42,rfl⟩:=hA 5 42;obtain⟨_,s44,rfl⟩:=hA 7 44
   rotate_left
   obtain⟨_,s38,rfl⟩:=hA 1 38;obtain⟨_,s45,rfl⟩:=hA 8 45
   rotate_left
   have o4:=oOf (hB 4) rfl
   rotate_left
   obtain⟨_,s47,rfl⟩:=hA 10 47;have cc0:=eI.cell a1
   rotate_left
   have o10:=oOf (hB 10) rfl
   rotate_left
   have o4:=oOf (hB 4) rfl
   rotate_left
   obtain⟨_,s50,rfl⟩:=hA 13 50;have cc0:=eI.cell a3
   rotate_left
   obtain⟨_,s49,rfl⟩:=hA 12 49;obtain⟨_,s51,rfl⟩:=hA 14 51
   rotate_left
   have o4:=oOf (hB 4) rfl
   rotate_left
   obtain⟨_,s53,rfl⟩:=hA 16 53;have cc0:=eI.cell a2
   rotate_left
   obtain⟨_,s52,rfl⟩:=hA 15 52;obtain⟨_,s54,rfl⟩:=hA 17 54
   rotate_left
   obtain⟨_,s48,rfl⟩:=hA 11 48;obtain⟨_,s55,rfl⟩:=hA 18 55
   rotate_left
   obtain⟨_,s46,rfl⟩:=hA 9 46
   rotate_left
   obtain⟨_,s56,rfl⟩:=hA 19 56
   rotate_left
   all_goals clear hB hA; go_simp; exact q_k hK rfl
  intro vals wz eZ hJ;have J13:vals 20=_:=hJ 20 (by decide) (by decide);have J14:vals 21=_:=hJ 21 (by decide) (by decide);clear hJ;simp only [pr,Nat.reduceAdd,J13,J14];clear J13 J14;refine qg (by kernel_rfl) ?_ _;obtain⟨W2,hwx⟩:∃ W2,W2=wz:=⟨_,rfl⟩
  subst hwx;have HXb:=q_h hXb;have HYb:=q_h hYb;have HGX:=q_h (fun (wx:World) (cx:Chg gB (gB+1) W2 wx)=>HG1'.out.ext (cx.ext (hE2.trans eZ) (by rw [hgB]; exact q_r)));have HBl:=q_h (eZ.block B1);have HBG:=q_h (eZ.block B0);have hgBl:gB < W2.heap.size:=qJ HBl.out;have hEw:Ext w W2:=(hE.trans hE12).trans eZ;have hE02:=hE12.trans eZ;have hg0:W0.heap.size<=gB:=by rw [hgB]; exact hE1.size
  have hgw:w.heap.size+1<=gB:=by omega
  have hN2:N<=W2.heap.size:=by have:=hEw.size; omega
  clear q1 q2 q3 q4 q5 q6 q7 q8 q9 a0 a1 a2 a3 a4 a5 B0 B1 HB0 hkx hky hX hY hpx hpy hE1 hE2 hE12 HG1' hgB hsz2 hXb hYb eZ
  go_upto_block 2 with (fail)
  go_cut [] (fun wx=>∃ b u v l:Int,Hid (jG G S W H X Y z n=⟨b,u,v,l⟩)/\wx.heap[gB]?=some (.cells #[.int .i64 b,.int .i64 u,.int .i64 v] 146 (0,0))/\Chg gB (gB+1) W2 wx)
  case first =>
   go_wp2_with fail
   go_loopw [59,15] (fun iv lv wx=>∃ (i:Nat) (b u v l:Int),i<=n/\iv=.int .i64 (i:Int)/\lv=.int .i64 l/\Hid (jG G S W H X Y z i=⟨b,u,v,l⟩)/\wx.heap[gB]?=some (.cells #[.int .i64 b,.int .i64 u,.int .i64 v] 146 (0,0))/\Chg gB (gB+1) W2 wx) (fun iv _ _=>n - (intOf iv).toNat)
   case atStart=>exact⟨0,-1,0,0,0,Nat.zero_le _,rfl,rfl,rfl,HBl.out,Chg.refl _ _ _⟩
   case round =>
    clear HBl;obtain⟨i,b,u,v,l,hi,rfl,rfl,HC,hBB,hC⟩:=hrel
    by_cases hin:i < n
    case neg =>
     obtain rfl:i=n:=by omega
     have t2:decide ((i:Int) < (i:Int))=false:=q_f (by omega);go_wp2_with fail
     go_meet
     exact⟨b,u,v,l,HC,hBB,hC⟩
    have t2:decide ((i:Int) < (n:Int))=true:=q_t (by omega);obtain⟨bs,os,rfl,hsa⟩:=HST.out (by omega);have hEr:Ext w _:=hC.ext hEw (by omega);obtain⟨s0,s1,s2,s3,s4,s5,s6,s7,s8,s9⟩:=(hsa i hin).ext hEr;have HOKi:=q_h (HOK.out i hin);obtain⟨T,hT⟩:=qf (S i);rw [<-hT.out] at s0 s1 s2 s3 s4 s5 s6 s7 s8 s9 HOKi;clear hsa HST;go_upto_region 11 with (fail);refine ql ?_;intro w3 e3 hsz3 B3;clear s0 s1 s2 s3 s4 s5 s6 s7 s8 s9;obtain⟨g7,hg7⟩:∃ g7,g7=wr.heap.size:=⟨_,rfl⟩
    rw [<-hg7] at B3 ⊢;have hg7l:gB < g7:=by have:=qJ hBB; omega
    have C3:=hC.trans (e3.chg gB (gB+1));have HB3:=q_h (e3.block hBB);have HS3:=q_h B3;have hE3:Ext w w3:=hEr.trans e3;have hN3:N<=w3.heap.size:=by have:=hE3.size; omega
    have hgB3:gB < w3.heap.size:=qJ HB3.out;clear hBB hC hg7 B3 e3 hEr hsz3
    by_cases hzn:z = -2147483648
    case pos =>
     have tz:(z == -2147483648)=true:=by simpa using hzn
     have HF:Hid (jG G S W H X Y z n=⟨b,u,v,l⟩):=by
      rw [Hid,<-HC.out,hzn];exact (Xa G S W H X Y n).trans (Xa G S W H X Y i).symm
     clear hzn;go_wp2_with fail
     go_meet
     exact⟨b,u,v,l,HF,HB3.out,C3⟩
    have tz:(z == -2147483648)=false:=by simpa using hzn
    have HZN:Hid (z≠zK/\-1048576<=z/\z<=1048576):=by
     refine⟨hzn,?_⟩;have:=HGO.out.z k hlt;rw [<-HZk.out] at this;exact this.resolve_left hzn
    clear hzn;obtain⟨s0,s1,s2,s3,s4,s5,s6,s7,s8,s9⟩:=zi HS3.out;obtain⟨q0,-⟩:=cells3 HB3.out;have ab:=HOKi.out.ax;have ac:=HOKi.out.ay;have ad:=HOKi.out.az;have hXb:=HXb.out;have hYb:=HYb.out;obtain⟨d1,hd1⟩:=qf (T.ax - X);obtain⟨d2,hd2⟩:=qf (T.ay - Y);have r1 : -6291456<=d1/\d1<=6291456:=by rw [hd1.out]; omega
    have r2 : -6291456<=d2/\d2<=6291456:=by rw [hd2.out]; omega
    obtain⟨f1,hf1⟩:=qf (d1*d1);obtain⟨f2,hf2⟩:=qf (d2*d2);have r3 : -39582418599936<=f1/\f1<=39582418599936:=by rw [hf1.out]; exact q1v r1
    have r4 : -39582418599936<=f2/\f2<=39582418599936:=by rw [hf2.out]; exact q1v r2
    have m1:IntKind.i64.wrap (T.ax - X)=d1:=by rw [<-hd1.out]; exact zM (by omega) (by omega)
    have m2:IntKind.i64.wrap (T.ay - Y)=d2:=by rw [<-hd2.out]; exact zM (by omega) (by omega)
    have m3:IntKind.i64.wrap (d1*d1)=f1:=by rw [<-hf1.out]; exact zM (by omega) (by omega)
    have m4:IntKind.i64.wrap (d2*d2)=f2:=by rw [<-hf2.out]; exact zM (by omega) (by omega)
    obtain⟨fr,hfr⟩:=qf (f1+f2);have m5:IntKind.i64.wrap (f1+f2)=fr:=by rw [hfr.out]; exact zM (by omega) (by omega)
    have HFR:Hid (fr=q3j (S i) X Y):=by
     rw [Hid,hfr.out,hf1.out,hf2.out,hd1.out,hd2.out,hT.out]; rfl
    clear r1 r2 r3 r4;go_upto_region 13 with (fail);clear m1 m2 m3 m4 m5 hd1 hd2 hf1 hf2 hfr hXb hYb;obtain⟨tf,htf⟩:=qf (decide (0<=b/\l<=fr))
    go_cut [96] (fun sv wx=>sv=.bool tf/\wx=w3)
    case first =>
     by_cases k1:0<=b
     case neg =>
      have HT:Hid (false=tf):=by rw [Hid,htf.out]; exact (q_f (fun h=>k1 h.1)).symm
      have d1:decide (0<=b)=false:=decide_eq_false k1;clear k1;go_wp2_with fail
      go_meet
      exact⟨by rw [<-HT.out],rfl⟩
     have d1:decide (0<=b)=true:=decide_eq_true k1
     by_cases k2:l<=fr
     case neg =>
      have HT:Hid (false=tf):=by rw [Hid,htf.out]; exact (q_f (fun h=>k2 h.2)).symm
      have d2:decide (l<=fr)=false:=decide_eq_false k2;clear k1 k2;go_wp2_with fail
      go_meet
      exact⟨by rw [<-HT.out],rfl⟩
     have HT:Hid (true=tf):=by rw [Hid,htf.out]; exact (decide_eq_true ⟨k1,k2⟩).symm
     have d2:decide (l<=fr)=true:=decide_eq_true k2;clear k1 k2;go_wp2_with fail
     go_meet
     exact⟨by rw [<-HT.out],rfl⟩
    obtain⟨rfl,rfl⟩:=hcut;obtain⟨w3,hwx⟩:∃ w3,w3=wc:=⟨_,rfl⟩
    subst hwx;cases tf with
    | true =>
     have HCN:Hid (jG G S W H X Y z (i+1)=⟨b,u,v,l⟩):=by
      have h9:0<=b/\l<=fr:=of_decide_eq_true htf.out.symm;rw [Hid,<-HC.out];refine q4j ?_ ?_
      ·rw [HC.out]; exact h9.1
      ·rw [HC.out,<-HFR.out]; exact h9.2
     clear s0 s1 s2 s3 s4 s5 s6 s7 s8 s9 q0;go_wp2_with fail;go_roundw
     case rel=>exact⟨i+1,b,u,v,l,by omega,by go_num,rfl,HCN.out,HB3.out,C3⟩
     case measure=>simp [intOf]; omega
    | false =>
    have HNF:Hid (¬ (0<=b/\l<=fr)):=of_decide_eq_false htf.out.symm;clear s0 s1 s2 s3 s4 s5 s6 s7 s8 s9 q0 htf;have hXb:=HXb.out;have hYb:=HYb.out;go_upto_region 14 with (fail);go_wp2_with (go_at_call 61; refine q_o ?_);refine (qQ (N:=N) hN3 X (by omega) (by omega)).mono ?_;rintro e w4 ⟨v4,rfl,hv4,e4⟩;obtain⟨ba,Aa,ka,ca,A'a,k'a,c'a,rfl,-,-,-⟩:=hv4.parts;have hz4:=e4.size;go_wp2_with (go_at_call 61; refine q_o ?_);refine (qQ (N:=N) (by omega) Y (by omega) (by omega)).mono ?_;rintro e w5 ⟨v5,rfl,hv5,e5⟩;obtain⟨bb,Ab,kb,cb,A'b,k'b,c'b,rfl,-,-,-⟩:=hv5.parts;have hz5:=e5.size;go_wp2_with (go_at_call 61; refine q_o ?_);refine (qQ (N:=N) (by omega) z (by have:=HZN.out; omega) (by have:=HZN.out; omega)).mono ?_;rintro e w6 ⟨v6,rfl,hv6,e6⟩;obtain⟨bd,Ad,kd,cd,A'd,k'd,c'd,rfl,-,-,-⟩:=hv6.parts;go_upto_region 15 with (fail);refine ql ?_;intro w7 e7 hsz7 BA;have E47:=((e4.trans e5).trans e6).trans e7;have hPT:=Xk (((hv4.ext e5).ext e6).ext e7) ((hv5.ext e6).ext e7) (hv6.ext e7);obtain⟨gA,hgA⟩:∃ gA,gA=w6.heap.size:=⟨_,rfl⟩
    rw [<-hgA] at BA ⊢;have hgAl:gB < gA:=by have:=e6.size; omega
    obtain⟨pa,hpa⟩:=qf (#[.bool ba,.slice Aa ka ca,.bool false,.slice A'a k'a c'a,.bool bb,.slice Ab kb cb,.bool false,.slice A'b k'b c'b,.bool bd,.slice Ad kd cd,.bool false,.slice A'd k'd c'd]:Array Value);have k1:pa.size=12:=by rw [hpa.out]; rfl
    have k2:pa.toList.all (·.oneCell')=true:=by rw [hpa.out]; rfl
    rw [<-hpa.out] at hPT BA;have ZA:=q_h k1;have YA:=q_h k2;have HBA:=q_h BA;have HPA:=q_h hPT;have C7:=C3.trans (E47.chg gB (gB+1));have hE7:Ext w w7:=hE3.trans E47;have hN7:N<=w7.heap.size:=by have:=hE7.size; omega
    have hgB7:gB < w7.heap.size:=by have:=E47.size; omega
    have HB7:=q_h (E47.block HB3.out);have HS7:=q_h (E47.block HS3.out);have HTK:Hid (∀ j,j < 3->Ht 24 (sp3 X Y z j)):=fun j _=>yR (zS (by omega)) (zS (by omega)) (zS (by have:=HZN.out; omega)) j
    clear hpa hPT BA k1 k2 C3 E47 hE3 hN3 hgB3 HB3 HS3 e4 e5 e6 e7 hz4 hz5 hsz7 hgA hv4 hv5 hv6;obtain⟨s0,s1,s2,s3,s4,s5,s6,s7,s8,s9⟩:=zi HS7.out;refine wp_region_lit ?_;refine wpList_plain rfl (fun K hK=>?_);go_simp;refine hK _ _ ?_;clear hK K;try simp only [nr]
    refine wpList_load_row rfl 43 _ rfl _ (by rfl) _ pa _ _ HBA.out Tryz.underlying43 rfl (by rw [ZA.out]; exact qE) ?_;try simp only [nr]
    go_wp2_with (go_at_call 74; refine q_o ?_);refine (q3V (S:=T) HOKi.out ZA.out HPA.out HTK.out (by omega) hN7).mono ?_;rintro e w8 ⟨vi,rfl,hpl,hnl,e8⟩;have hIm:Hid (Ht 1000 (jU T (sp3 X Y z))/\Ht 1000 (jT T (sp3 X Y z))):=⟨(YV HOKi.out HTK.out).1.mono (by omega),(YV HOKi.out HTK.out).2.mono (by omega)⟩
    clear s0 s1 s2 s3 s4 s5 s6 s7 s8 s9
    by_cases hf:0 < dS T (sp3 X Y z) 2 3
    case neg =>
     obtain rfl:=hnl hf
     have HCN:Hid (jG G S W H X Y z (i+1)=⟨b,u,v,l⟩):=by
      rw [Hid,<-HC.out];exact X9 (by rw [<-hT.out]; exact Vw hf)
     rw [q_f hf];clear hf hnl hpl;go_upto_region 16 with (fail);refine ql ?_;intro w9 e9 hsz9 BI;have E79:=e8.trans e9;have C9:=C7.trans (E79.chg gB (gB+1));have HB9:=q_h (E79.block HB7.out);clear BI;go_wp2_with fail;go_roundw
     case rel=>exact⟨i+1,b,u,v,l,by omega,by go_num,rfl,HCN.out,HB9.out,C9⟩
     case measure=>simp [intOf]; omega
    obtain⟨I1,i1,c1',I2,i2,c2',I3,i3,c3',I4,i4,c4',rfl,-,-⟩:=PlV.parts (hpl hf);rw [q_t hf];have HFR0:=q_h hf;replace hpl:=hpl hf;clear hf hnl;go_upto_region 16 with (fail);refine ql ?_;intro w9 e9 hsz9 BI;obtain⟨gI,hgI⟩:∃ gI,gI=w8.heap.size:=⟨_,rfl⟩
    rw [<-hgI] at BI ⊢;have E79:=e8.trans e9;have C9:=C7.trans (E79.chg gB (gB+1));have HB9:=q_h (E79.block HB7.out);have HS9:=q_h (E79.block HS7.out);have HA9:=q_h (E79.block HBA.out);have HPL:=q_h (q4Q hpl e9);have hE9:Ext w w9:=hE7.trans E79;have hN9:N<=w9.heap.size:=by have:=hE9.size; omega
    have hgB9:gB < w9.heap.size:=by have:=E79.size; omega
    have HPA9:=q_h (HPA.out.ext E79);obtain⟨x0,x1,x2,x3,x4,x5,x6,x7⟩:=yP BI;clear hpl BI C7 E79 hE7 hN7 hgB7 HB7 HS7 HBA HPA e8 e9 hgI hsz9;go_wp2_with (go_at_call 142; refine q_o ?_);refine (q3U HPL.out hIm.out.1 hIm.out.2 (by omega) W H hW hH hN9).mono ?_;rintro e wA ⟨pu,pv,ok,rfl,hok,huv,eA⟩;clear x0 x1 x2 x3 x4 x5 x6 x7;have CA:=C9.trans (eA.chg gB (gB+1));have HBB:=q_h (eA.block HB9.out);have HSA:=q_h (eA.block HS9.out);have HAA:=q_h (eA.block HA9.out);have hEA:Ext w wA:=hE9.trans eA;have hNA:N<=wA.heap.size:=by have:=hEA.size; omega
    have hgBA:gB < wA.heap.size:=by have:=eA.size; omega
    have HPAA:=q_h (HPA9.out.ext eA);clear C9 HB9 HS9 HA9 hE9 hN9 hgB9 HPA9 eA HPL;cases ok with
    | false =>
     have HCN:Hid (jG G S W H X Y z (i+1)=⟨b,u,v,l⟩):=by
      rw [Hid,<-HC.out];exact X9 (by rw [<-hT.out]; exact q3G hok)
     clear hok huv;go_wp2_with fail;go_roundw
     case rel=>exact⟨i+1,b,u,v,l,by omega,by go_num,rfl,HCN.out,HBB.out,CA⟩
     case measure=>simp [intOf]; omega
    | true =>
    have HOK2:=q_h hok;have HUV:Hid (pu=kL (jU T (sp3 X Y z)) W/\pv=kL (jT T (sp3 X Y z)) H):=huv rfl;clear hok huv;go_upto_region 19 with (fail);obtain⟨s0,s1,s2,s3,s4,s5,s6,s7,s8,s9⟩:=zi HSA.out;refine xe [Mn.q g7 0,Mn.q g7 0,Mn.i T.ax,Mn.rat N ((T.ax:Int):Rat),Mn.q g7 0,Mn.q g7 1,Mn.i T.ay,Mn.rat N ((T.ay:Int):Rat),Mn.q g7 0,Mn.q g7 2,Mn.i T.az,Mn.rat N ((T.az:Int):Rat),Mn.pt N (sp3 T.ax T.ay T.az),Mn.blk wA.heap.size (.cells #[.bool false,.slice none 0 0,.bool false,.slice none 0 0,.bool false,.slice none 0 0,.bool false,.slice none 0 0,.bool false,.slice none 0 0,.bool false,.slice none 0 0] 43 (0,0)),Mn.any] [some 122,some 123,some 124,some 125,some 126,some 127,some 128,some 129,some 130,some 131,some 132,some 133,some 134,some 25,none] [14] (rQ 14 1) 1 (by kernel_rfl) ?_ ?_
    ·show ∀ i,i < 15->_
     iterate 15 refine fs ?_ ?_
     ·exact fz
     all_goals intro hl; first | exact absurd hl (by decide) | (clear hl; refine stp rfl ?_; intro ac wi eI hB hA K hK)
     have o17:=oOf (hB 17) rfl
     rotate_left
     obtain⟨_,s122,rfl⟩:=hA 0 122
     rotate_left
     obtain⟨_,s123,rfl⟩:=hA 1 123;have cc0:=eI.cell s0
     rotate_left
     obtain⟨_,s124,rfl⟩:=hA 2 124;clear hB hA
     ·go_simp;refine (qQ (q_l hNA eI.size) T.ax (by omega) (by omega)).mono ?_;rintro e wj ⟨vj,rfl,hj,ej⟩;go_wp2_with fail;exact hK.out _ _ ej hj
     have o17:=oOf (hB 17) rfl
     rotate_left
     obtain⟨_,s126,rfl⟩:=hA 4 126
     rotate_left
     obtain⟨_,s127,rfl⟩:=hA 5 127;have cc0:=eI.cell s1
     rotate_left
     obtain⟨_,s128,rfl⟩:=hA 6 128;clear hB hA
     ·go_simp;refine (qQ (q_l hNA eI.size) T.ay (by omega) (by omega)).mono ?_;rintro e wj ⟨vj,rfl,hj,ej⟩;go_wp2_with fail;exact hK.out _ _ ej hj
     have o17:=oOf (hB 17) rfl
     rotate_left
     obtain⟨_,s130,rfl⟩:=hA 8 130
     rotate_left
     obtain⟨_,s131,rfl⟩:=hA 9 131;have cc0:=eI.cell s2
     rotate_left
     obtain⟨_,s132,rfl⟩:=hA 10 132;clear hB hA
     ·go_simp;refine (qQ (q_l hNA eI.size) T.az (by omega) (by omega)).mono ?_;rintro e wj ⟨vj,rfl,hj,ej⟩;go_wp2_with fail;exact hK.out _ _ ej hj
     obtain⟨x125,s125,j125⟩:=hA 3 125;replace j125:Mn.p (Mn.rat N ((T.ax:Int):Rat)) x125 wi:=j125;obtain⟨x129,s129,j129⟩:=hA 7 129;replace j129:Mn.p (Mn.rat N ((T.ay:Int):Rat)) x129 wi:=j129;obtain⟨x133,s133,j133⟩:=hA 11 133;replace j133:Mn.p (Mn.rat N ((T.az:Int):Rat)) x133 wi:=j133;clear hB hA
     ·obtain⟨ba,Aa,ka,ca,A'a,k'a,c'a,rfl,-,-,-⟩:=qm.parts j125;obtain⟨bb,Ab,kb,cb,A'b,k'b,c'b,rfl,-,-,-⟩:=qm.parts j129;obtain⟨bd,Ad,kd,cd,A'd,k'd,c'd,rfl,-,-,-⟩:=qm.parts j133;rw [if_pos (by rfl)];refine xJ 43 _ rfl (l:=[(0,.agg #[.bool ba,.slice Aa ka ca,.bool false,.slice A'a k'a c'a]),(1,.agg #[.bool bb,.slice Ab kb cb,.bool false,.slice A'b k'b c'b]),(2,.agg #[.bool bd,.slice Ad kd cd,.bool false,.slice A'd k'd c'd])]) (by simp only [List.map_toArray,List.map_cons,List.map_nil]; simp [Act.eval,s125,s129,s133]) (yF _ _ _ _ _ _ _ _ _ _ _ _) ?_;exact q_k hK ⟨_,rfl,rfl,rfl,Xk j125 j129 j133⟩
     clear hB hA
     ·go_simp;refine ql ?_;intro wj ej hszj BJ;exact hK.out _ _ ej ⟨_,rfl,eI.size,BJ⟩
     all_goals clear hB hA; go_simp; exact q_k hK rfl
    intro vals wz eZ hJ;have J134:Mn.p (Mn.pt N (sp3 T.ax T.ay T.az)) (vals 12) wz:=hJ 12 (by decide) (by decide);have J25:Mn.p (Mn.blk wA.heap.size (.cells #[.bool false,.slice none 0 0,.bool false,.slice none 0 0,.bool false,.slice none 0 0,.bool false,.slice none 0 0,.bool false,.slice none 0 0,.bool false,.slice none 0 0] 43 (0,0))) (vals 13) wz:=hJ 13 (by decide) (by decide);clear hJ;simp only [pr,Nat.reduceAdd]
    generalize vals 12=z134 at J134 ⊢
    generalize vals 13=z25 at J25 ⊢
    obtain⟨pb,rfl,kb1,kb2,kb3⟩:=J134;obtain⟨gP,rfl,hgP,BP⟩:=J25;refine qi (i:=14) rfl (by kernel_rfl) (by kernel_rfl) (fun K hK=>?_);rw [if_pos (by rfl)];refine zO 43 _ _ rfl (by rfl) (by rfl) BP qE kb1 (Eq.trans (by rfl:Array.size _=12) kb1.symm) kb2 ?_;intro wB DB UB;refine hK.out _ _ ?_;clear hK K;try simp only [nr]
    refine qg (by kernel_rfl) ?_ _;have EAB:Ext wA wB:=UB.ext eZ hgP;have HPB:Hid (PtV N wB pb 0 (sp3 T.ax T.ay T.az)):=fun j hj=>(kb3 j hj).chg (UB.chg (NoU.mk BP (by decide))) (by omega)
    have ZB:=q_h kb1;have YB:=q_h kb2;have CB:=CA.trans (EAB.chg gB (gB+1));have HBC:=q_h (EAB.block HBB.out);have HAC:=q_h (EAB.block HAA.out);have HPAC:=q_h (HPAA.out.ext EAB);have HDB:=q_h DB;have hEB:Ext w wB:=hEA.trans EAB;have hNB:N<=wB.heap.size:=by have:=hEB.size; omega
    have hgBB:gB < wB.heap.size:=by have:=EAB.size; omega
    have BG:=CB.blk HBG.out (.inl (by omega));clear CA HBB HSA HAA hEA hNA hgBA HPAA kb1 kb2 kb3 DB UB BP EAB eZ s0 s1 s2 s3 s4 s5 s6 s7 s8 s9 hgP;obtain⟨a0,a1,a2,a3,a4,a5⟩:=qG BG;obtain⟨cseg,hcs⟩:=qf (#[.int .i64 G.x0,.int .i64 G.y0,.int .i64 G.st,.int .i64 G.wd,.int .i64 G.ht,.slice (some ⟨bz,oz,none⟩) G.n c] ++ pa ++ pb)
    have HSEG:Hid (q15 N lo0 hi0 wB cseg G (sp3 X Y z) (sp3 T.ax T.ay T.az)):=by
     rw [hcs.out];exact WG hNB (HG.out.ext hEB) ⟨HPAC.out,ZA.out,YA.out⟩ ⟨HPB.out,ZB.out,YB.out⟩
    have HSOK:=q_h (q4I HGO.out HOKi.out hXb hYb HZN.out.2);go_upto_region 20 with (fail);refine wp_region_lit ?_;refine wpList_plain rfl (fun K hK=>?_);go_simp;refine hK _ _ ?_;clear hK K;try simp only [nr]
    refine wpList_load_row rfl 43 _ rfl _ (by rfl) _ pa _ _ HAC.out Tryz.underlying43 rfl (by rw [ZA.out]; exact qE) ?_;try simp only [nr]
    refine wpList_load_row rfl 43 _ rfl _ (by rfl) _ pb _ _ HDB.out Tryz.underlying43 rfl (by rw [ZB.out]; exact qE) ?_;try simp only [nr]
    refine kW rfl _ _ rfl (l:=[(0,.agg #[.int .i64 G.x0,.int .i64 G.y0,.int .i64 G.st,.int .i64 G.wd,.int .i64 G.ht,.slice (some ⟨bz,oz,none⟩) G.n c]),(1,.agg pa),(2,.agg pb)]) (by simp only [List.map_toArray,List.map_cons,List.map_nil]; rfl) ((Q8 ZA.out ZB.out).trans (congrArg some hcs.out.symm)) ?_;try simp only [nr]
    go_wp2_with (go_at_call 63; refine q_o ?_);refine (WS HSEG.out HSOK.out (by omega)).mono ?_;clear a0 a1 a2 a3 a4 a5 BG;rintro e wC (⟨vt,t,rfl,hv,hbk,hk9,eC⟩ | ⟨rfl,hcl,eC⟩)
    ·obtain⟨bv,Av,kv,cv,A'v,k'v,c'v,rfl,hbv,yv,zv⟩:=hv.parts
     have HCN:Hid (jG G S W H X Y z (i+1)=⟨b,u,v,l⟩):=by
      rw [Hid,<-HC.out];exact X9 (by rw [<-hT.out]; exact q1G hbk)
     clear hv hbk hk9 yv zv hbv;go_upto_region 21 with (fail);refine ql ?_;intro wD eD hszD BD;have EBD:=eC.trans eD;have CD:=CB.trans (EBD.chg gB (gB+1));have HBD:=q_h (EBD.block HBC.out);clear BD;go_wp2_with fail;go_roundw
     case rel=>exact⟨i+1,b,u,v,l,by omega,by go_num,rfl,HCN.out,HBD.out,CD⟩
     case measure=>simp [intOf]; omega
    ·unfold jc
     have HCN:Hid (jG G S W H X Y z (i+1)=⟨(i:Int),pu,pv,fr⟩):=by
      have h9:=q1E HFR0.out HOK2.out hcl;rw [Hid,q0Q HZN.out.1 (by rw [HC.out,<-HFR.out]; exact HNF.out) (by rw [<-hT.out]; exact h9),<-HFR.out,<-hT.out,HUV.out.1,HUV.out.2]
     clear hcl;go_upto_region 22 with (fail);refine ql ?_;intro wD eD hszD BD;have EBD:=eC.trans eD;have CD:=CB.trans (EBD.chg gB (gB+1));have BX:=EBD.block HBC.out;have hgw9:w.heap.size<=gB:=by omega
     clear BD eC eD EBD;refine wp_region_lit ?_;refine wpList_plain rfl (fun K hK=>?_);go_simp;refine hK _ _ ?_;clear hK K;try simp only [nr]
     refine wpList_plain rfl (fun K hK=>?_);go_simp;refine hK _ _ ?_;clear hK K;try simp only [nr]
     refine wpList_plain rfl (fun K hK=>?_);go_simp;refine hK _ _ ?_;clear hK K;try simp only [nr]
     refine wpList_plain rfl (fun K hK=>?_);go_simp;refine hK _ _ ?_;clear hK K;try simp only [nr]
     refine wpList_plain rfl (fun K hK=>?_);go_simp;refine hK _ _ ?_;clear hK K;try simp only [nr]
     refine qY rfl 146 _ _ rfl (by rfl) (by rfl) BX q43 (by rfl:Array.size _=3) (Eq.trans ((by rfl:Array.size _=3)) (Eq.symm ((by rfl:Array.size _=3)))) (by rfl) ?_;try simp only [nr]
     intro wE DE UE;refine wpList_plain rfl (fun K hK=>?_);go_simp;refine hK _ _ ?_;clear hK K;try simp only [nr]
     refine wpList_nil ?_;have CE:=CD.trans (UE.chg (NoU.mk BX (by decide)));have HDE:=q_h DE;clear DE UE BX;go_wp2_with fail;go_roundw
     case rel=>exact⟨i+1,i,pu,pv,fr,by omega,by go_num,rfl,HCN.out,HDE.out,CE⟩
     case measure=>simp [intOf]; omega
  case rest =>
   obtain⟨b,u,v,l,HC,hBB,hC⟩:=hcut;obtain⟨wE,hwx⟩:∃ wE,wE=wc:=⟨_,rfl⟩
   subst hwx;have hEE:Ext W0 wE:=hC.ext hE02 hg0;have HXK:Hid (q1t G S n W H k=⟨b,u,v,l⟩):=HXY.out.trans HC.out;have HGE:=q_h (HGX.out _ hC);clear HC HXY hC HGX HBG HBl;obtain⟨x0,x1,x2⟩:=cells3 hBB;go_upto_region 24 with (fail);have hl1:(Yr G S n W H k).length=k:=Yq G S n W H k;have HNX:Hid (Yr G S n W H k ++ [⟨b,u,v,l⟩]=Yr G S n W H (k+1)):=by rw [Hid,Wx,HXK.out]
   have hxl:(Yr G S n W H k).length < 1000000000:=by omega
   obtain⟨L,hL⟩:=qf (Yr G S n W H k);rw [<-hL.out] at HNX HGE hl1 hxl;have HLL:=q_h hl1;clear HXK hL hl1;go_wp2_with (at_builtin; refine q_o ?_);refine ql ?_;intro wF eF hszF BF;refine QE rfl _ _ 143 Tryz.underlying143 rfl rfl (HGE.out.ext eF) rfl (q:=⟨b,u,v,l⟩) BF hxl ?_;rintro g' cap w11 hG11 ⟨g9',hlo,C11⟩;rw [HLL.out] at hG11 ⊢;rw [HNX.out] at hG11;have HG11:=q_h hG11;have hE11:=C11.ext (hEE.trans eF) hlo;clear hG11 C11 BF x0 x1 x2 hBB HGE HNX HLL;go_wp2;go_roundw
   case rel=>exact⟨k+1,by omega,by go_num,HG11.out,hE11⟩
   case measure=>simp [intOf]; omega
noncomputable def q5x (G:Grd) (S:Nat->Sta) (n:Nat) (W H:Int) (k:Nat):Int:=(q1t G S n W H k).best
def izL (z:Nat->Int) (n:Nat):List Value:=(List.range n).map fun k=>.int .i64 (z k)
theorem YR (z:Nat->Int) (n:Nat):izL z (n+1)=izL z n ++ [.int .i64 (z n)]:=by unfold izL; rw [List.range_succ,List.map_append]; rfl
theorem Kz (z:Nat->Int) (n:Nat):(izL z n).length=n:=by unfold izL; rw [List.length_map,List.length_range]
structure Ras where
 wd:Int
 ht:Int
 mx:Int
 n:Nat
 px:Nat->Int
def q2H (w:World) (b o:Nat) (R:Ras):Prop :=
 ∃ A c,w.cell? ⟨b,o,none⟩=some (.int .i64 R.wd)/\w.cell? ⟨b,o+1,none⟩=some (.int .i64 R.ht)/\w.cell? ⟨b,o+2,none⟩=some (.int .i64 R.mx)/\w.cell? ⟨b,o+3,none⟩=some (.slice A R.n c)/\IzV 0 0 0 w (.slice A R.n c) R.n R.px
theorem q2H.ext {o:Nat} {R:Ras} (h:q2H w b o R) (e:Ext w w'):q2H w' b o R:=by
 obtain⟨A,c,h0,h1,h2,h3,h4⟩:=h;exact⟨A,c,e.cell h0,e.cell h1,e.cell h2,e.cell h3,h4.ext e⟩
def ImV (w:World) (v:Value) (m:Nat) (I:Nat->Ras):Prop :=
 ∃ A c,v=.slice A m c/\m<=c/\c<=maxLen/\(0 < m->∃ b off,A=some ⟨b,off,none⟩/\∀ i,i < m->q2H w b (off+i*4) (I i))
def wX (m:Nat) (I:Nat->Ras) (W:Int) (C:Chs):Int:=if C.best < 0 then -1 else if C.best < (m:Int) then (I C.best.toNat).px (C.v*W+C.u).toNat else 0
noncomputable def q5j (G:Grd) (S:Nat->Sta) (n:Nat) (W H:Int) (m:Nat) (I:Nat->Ras) (k:Nat):Int:=wX m I W (q1t G S n W H k)
def TwI (base:Nat) (w:World) (v1 v2:Value) (xs ys:List Value):Prop:=zY 3 base w v1 xs/\zY 3 base w v2 ys/\∀ k,v1.ownBlock=some k->v2.ownBlock≠some k
theorem TwI.nil (h:base<=w.heap.size):TwI base w (.slice none 0 0) (.slice none 0 0) [] []:=⟨zY.nil h,zY.nil h,fun k hk=>by simp [Value.ownBlock] at hk⟩
theorem TwI.ext {v1 v2:Value} {xs ys:List Value} (h:TwI base w v1 v2 xs ys) (e:Ext w w'):TwI base w' v1 v2 xs ys:=⟨h.1.ext e,h.2.1.ext e,h.2.2⟩
theorem TwI.swap {v1 v2:Value} {xs ys:List Value} (h:TwI base w v1 v2 xs ys):TwI base w v2 v1 ys xs:=⟨h.2.1,h.1,fun k h1 h2=>h.2.2 k h2 h1⟩
theorem TwI.left {g':Nat} {v1 v2:Value} {xs ys xs':List Value} {cap:Nat} (h:TwI base w v1 v2 xs ys) (h1:zY 3 base w' (.slice (some ⟨g,0,none⟩) n cap) xs') (hg:v1.ownBlock=some g\/g=w.heap.size) (hg':v1.ownBlock=some g'\/g'=w.heap.size) (c:Chg g' (g'+1) w w'):TwI base w' (.slice (some ⟨g,0,none⟩) n cap) v2 xs' ys:=by
 have key:∀ k x,v2.ownBlock=some k->(v1.ownBlock=some x\/x=w.heap.size)->k≠x:=by
  intro k x hk hx h9;subst h9
  rcases hx with hx | hx
  ·exact h.2.2 _ hx hk
  ·have:=(h.2.1.own_lt _ hk).2;omega
 refine⟨h1,h.2.1.far c fun k hk=>?_,fun k hk h2=>?_⟩
 ·have:=key k g' hk hg';omega
 ·have e:g=k:=by simpa [Value.ownBlock] using hk
  exact key k g h2 hg e.symm
theorem sl_eqZ {N' lo' hi':Nat} {u:Value} {z:Nat->Int} (h:IzV N lo hi w v n z) (h':IzV N' lo' hi' w u n z) :
  Calls Tryz.prog 38 #[v,u] w (zX w (.bool true)):=by
 obtain⟨A,c,rfl,hnc,hcm⟩:=h.form;obtain⟨A',c',rfl,hnc',hcm'⟩:=h'.form;unfold maxLen at hcm hcm';have hI:=h;have hI':=h';clear h h';go_enter Tryz.func38,Tryz.ntmps38;go_wp2
 go_loopw [13] (fun i wr=>∃ k:Nat,k<=n/\i=.int .i64 k/\Ext w wr) (fun i _=>n - (intOf i).toNat)
 case atStart=>exact⟨0,Nat.zero_le _,rfl,Ext.refl w⟩
 case round =>
  obtain⟨k,hk,rfl,hE⟩:=hrel
  by_cases hlt:k < n
  ·obtain⟨b,off,rfl,hp⟩:=(hI.ext hE).addr (by omega);obtain⟨b',off',rfl,hp'⟩:=(hI'.ext hE).addr (by omega);have p0:=hp k hlt;have p1:=hp' k hlt;obtain⟨x,hx⟩:=qf (z k);rw [<-hx.out] at p0 p1;clear hp hp' hx;go_upto_region 6 with (fail);refine xe [Mn.eq (.slice (some ⟨b,off,none⟩) n c),Mn.i (k:Int),Mn.q b (off+k),Mn.i x,Mn.eq (.slice (some ⟨b',off',none⟩) n c'),Mn.i (k:Int),Mn.q (b') (off'+k),Mn.i x,Mn.t false] (sM [16,17,18,19,20,21,22,23,24]) [] (rQ 9 0) 0 (by kernel_rfl) ?_ ?_
   ·show ∀ i,i < 9->_
    iterate 9 refine fs ?_ ?_
    ·exact fz
    all_goals intro hl; clear hl; refine stp rfl ?_; intro ac wi eI hB hA K hK
    have o0:=oOf (hB 0) rfl
    rotate_left
    have o5:=oOf (hB 5) rfl
    rotate_left
    obtain⟨_,s16,rfl⟩:=hA 0 16;obtain⟨_,s17,rfl⟩:=hA 1 17
    rotate_left
    obtain⟨_,s18,rfl⟩:=hA 2 18;have cc0:=eI.cell p0
    rotate_left
    have o1:=oOf (hB 1) rfl
    rotate_left
    have o5:=oOf (hB 5) rfl
    rotate_left
    obtain⟨_,s20,rfl⟩:=hA 4 20;obtain⟨_,s21,rfl⟩:=hA 5 21
    rotate_left
    obtain⟨_,s22,rfl⟩:=hA 6 22;have cc0:=eI.cell p1
    rotate_left
    obtain⟨_,s19,rfl⟩:=hA 3 19;obtain⟨_,s23,rfl⟩:=hA 7 23
    rotate_left
    all_goals clear hB hA; go_simp; exact q_k hK rfl
   intro vals wz eZ hJ;have J24:vals 8=_:=hJ 8 (by decide) (by decide);clear hJ;simp only [pr,Nat.reduceAdd,J24];clear J24;refine qg (by kernel_rfl) ?_ _;go_wp2;go_roundw
   case rel=>exact⟨k+1,by omega,by go_num,hE.trans eZ⟩
   case measure=>simp [intOf]; omega
  ·go_wp2;go_ret;exact⟨rfl,hE⟩
theorem q4R {x y W H:Int} (h0:0<=x) (h1:x < W) (h2:0<=y) (h3:y < H):0<=y*W+x/\y*W+x < W*H:=by
 have h4:0<=y*W:=Int.mul_nonneg h2 (by omega);have h5:y*W<=(H - 1)*W:=Int.mul_le_mul_of_nonneg_right (by omega) (by omega);rw [Int.sub_mul,Int.one_mul] at h5;rw [Int.mul_comm W H];omega
theorem q4O {R:Ras} (hz:IzV 0 0 0 w (.slice A R.n c) R.n R.px) (x y:Int) (h0:0<=x) (h1:x < R.wd) (h2:0<=y) (h3:y < R.ht) (hn:(R.n:Int)=R.wd*R.ht) (hw:R.wd<=64) (hh:R.ht<=64) :
  Calls Tryz.prog 88 #[.agg #[.int .i64 R.wd,.int .i64 R.ht,.int .i64 R.mx,.slice A R.n c],.int .i64 x,.int .i64 y] w (zX w (.int .i64 (R.px (y*R.wd+x).toNat))):=by
 obtain⟨h4,h5⟩:=q4R h0 h1 h2 h3;rw [<-hn] at h5;have h6:0<=y*R.wd:=Int.mul_nonneg h2 (by omega);have h7:y*R.wd<=64*64:=Int.mul_le_mul (by omega) hw (by omega) (by omega);obtain⟨q,hq⟩:=qf (y*R.wd);rw [<-hq.out] at h4 h5 h6 h7 ⊢;have m1:IntKind.i64.wrap (y*R.wd)=q:=by rw [<-hq.out]; exact zM (by omega) (by omega)
 obtain⟨k,hk⟩:∃ k:Nat,(k:Int)=q+x:=⟨(q+x).toNat,by omega⟩
 have m2:IntKind.i64.wrap (q+x)=(k:Int):=by rw [hk]; exact zM (by omega) (by omega)
 have e:(q+x).toNat=k:=by omega
 rw [e];have hkn:k < R.n:=by omega
 clear hk h4 h5;obtain⟨b,off,rfl,hp⟩:=hz.addr (by omega);have p0:=hp k hkn;obtain⟨u,hu⟩:=qf (R.px k);rw [<-hu.out] at p0 ⊢;obtain⟨-,cc,hcc,hf1,hf2⟩:=hz.form;unfold maxLen at hf2;clear hz hp hu e hq;go_enter Tryz.func88,Tryz.ntmps88;go_upto_region 1 with (fail);refine ql ?_;intro W hE hsz B0;obtain⟨a0,a1,a2,a3,-⟩:=cells4 B0;replace p0:=hE.cell p0;go_wp2;go_ret;exact⟨rfl,hE⟩
noncomputable def snZ (S:Sta) (p:Nat->Rat) (W H:Int) (z:Int):Int:=if 0 < dS S p 2 3/\0<=kL (jU S p) W/\0<=kL (jT S p) H then z else 0
def RetSn (G:Grd) (S:Sta) (p:Nat->Rat) (W H:Int) (w:World) (e:Ending) (w':World):Prop :=
 e=.returned (.tuple #[.int .i64 (snZ S p W H (kL (jU S p) W)),.int .i64 (snZ S p W H (kL (jT S p) H)),.bool (xM G S p W H)])/\Ext w w'
theorem ZU {p:Nat->Rat} {W H:Int} (h:¬ (0 < dS S p 2 3/\0<=kL (jU S p) W/\0<=kL (jT S p) H)):false=xM G S p W H/\0=snZ S p W H (kL (jU S p) W)/\0=snZ S p W H (kL (jT S p) H):=by
 refine⟨?_,(if_neg h).symm,(if_neg h).symm⟩
 symm
 unfold xM
 by_cases h1:0 < dS S p 2 3
 ·rw [q_f (p:=0<=kL (jU S p) W/\0<=kL (jT S p) H) (fun h2=>h ⟨h1,h2⟩)]; simp
 ·rw [q_f h1]; rfl
theorem q1F {p:Nat->Rat} {W H:Int} (h:0 < dS S p 2 3) (h':0<=kL (jU S p) W/\0<=kL (jT S p) H):xM G S p W H=We G p (sp3 S.ax S.ay S.az):=by
 unfold xM; rw [q_t h,q_t h']; rfl
theorem q1Z {lo0 hi0:Nat} {vg:Value} {T:Sta} {pa:Array Value} {X Y:Int} (h:yg N lo0 hi0 w vg G) (hG:GOk G) (hok:ZK T) (ha1:pa.size=12) (ha2:PtV N w pa 0 (sp3 X Y z)) (hX : -1048576<=X/\X<=5242880) (hY : -1048576<=Y/\Y<=5242880) (hz : -1048576<=z/\z<=1048576) (W H:Int) (hW0:0<=W) (hH0:0<=H) (hW:W<=64) (hH:H<=64) (hN:N<=w.heap.size) :
  Calls Tryz.prog 87 #[vg,T.v,.agg pa,.int .i64 W,.int .i64 H] w (RetSn G T (sp3 X Y z) W H w):=by
 obtain⟨A,c,rfl,-,-,-⟩:=h.parts;have HG:=q_h h;have HGO:=q_h hG;have HOK:=q_h hok;have ZA:=q_h ha1;have HPA:=q_h ha2;have HTK:Hid (∀ j,j < 3->Ht 24 (sp3 X Y z j)):=fun j _=>yR (zS (by omega)) (zS (by omega)) (zS (by omega)) j
 have HIM:Hid (Ht 1000 (jU T (sp3 X Y z))/\Ht 1000 (jT T (sp3 X Y z))):=⟨(YV hok HTK.out).1.mono (by omega),(YV hok HTK.out).2.mono (by omega)⟩
 have HSK:Hid (∀ j,j < 3->Ht 24 (sp3 T.ax T.ay T.az j)):=by
  have a1:=hok.ax;have a2:=hok.ay;have a3:=hok.az;exact fun j _=>yR (zS (by omega)) (zS (by omega)) (zS (by omega)) j
 clear h hG hok ha1 ha2;unfold Sta.v;go_enter Tryz.func87,Tryz.ntmps87;go_upto_region 1 with (fail);refine zW ?_;intro W0 hE hsz B0 B1 B2;obtain⟨s0,s1,s2,s3,s4,s5,s6,s7,s8,s9⟩:=zi B1;refine wp_region_lit ?_;refine wpList_plain rfl (fun K hK=>?_);go_simp;refine hK _ _ ?_;clear hK K;try simp only [nr]
 refine wpList_load_row rfl 43 _ rfl _ (by rfl) _ pa _ _ B2 Tryz.underlying43 rfl (by rw [ZA.out]; exact qE) ?_;try simp only [nr]
 go_wp2_with (go_at_call 30; refine q_o ?_);refine (q0a (S:=T) HOK.out ZA.out (HPA.out.ext hE) HTK.out (by omega) (by omega)).mono ?_;rintro e w1 ⟨vi,rfl,hpl,hnl,e1⟩;clear s0 s1 s2 s3 s4 s5 s6 s7 s8 s9;replace B0:=e1.block B0;replace B1:=e1.block B1;replace B2:=e1.block B2;replace hE:=hE.trans e1
 by_cases hf:0 < dS T (sp3 X Y z) 2 3
 case neg =>
  obtain rfl:=hnl hf;rw [if_neg hf];have HBD:Hid (false=xM G T (sp3 X Y z) W H/\0=snZ T (sp3 X Y z) W H (kL (jU T (sp3 X Y z)) W)/\0=snZ T (sp3 X Y z) W H (kL (jT T (sp3 X Y z)) H)):=ZU (fun h=>hf h.1);clear hf hnl hpl;go_upto_region 2 with (fail);refine ql ?_;intro w9 e9 hsz9 BI;replace hE:=hE.trans e9;clear BI B0 B1 B2;go_wp2;refine bodyPost_ret (v:=.tuple #[.int .i64 0,.int .i64 0,.bool false]) (by simp [results,Tryz.results87,go_sem]) rfl ?_;exact⟨by rw [<-HBD.out.1,<-HBD.out.2.1,<-HBD.out.2.2],hE⟩
 obtain⟨I1,i1,c1',I2,i2,c2',I3,i3,c3',I4,i4,c4',rfl,hkx,hky⟩:=PlV.parts (hpl hf);rw [if_pos hf];have HFR0:=q_h hf;clear hf hnl hpl;go_upto_region 2 with (fail);refine ql ?_;intro w2 e2 hsz2 BI;obtain⟨gI,hgI⟩:∃ gI,gI=w1.heap.size:=⟨_,rfl⟩
 rw [<-hgI] at BI ⊢;replace B0:=e2.block B0;replace B1:=e2.block B1;replace B2:=e2.block B2;replace hE:=hE.trans e2;have hN2:N<=w2.heap.size:=by have:=hE.size; omega
 have KX:=q_h (hkx.ext e2);have KY:=q_h (hky.ext e2);clear e1 e2 hgI hsz2 hkx hky;obtain⟨x0,x1,x2,x3,x4,x5,x6,x7⟩:=yP BI;obtain⟨qx,hqx⟩:=qf (jU T (sp3 X Y z));obtain⟨qy,hqy⟩:=qf (jT T (sp3 X Y z));obtain⟨pu,hpu⟩:=qf (kL qx W);obtain⟨pv,hpv⟩:=qf (kL qy H);rw [<-hqx.out] at KX x0 x2;rw [<-hqy.out] at KY x4 x6;rw [<-hqx.out,<-hqy.out] at HIM;have hAx:=xQ.at4 KX.out x0 x1 x2 x3;have hAy:=xQ.at4 (o:=4) KY.out x4 x5 x6 x7;clear x0 x1 x2 x3 x4 x5 x6 x7 KX KY;obtain⟨ns,As,ks,cs,A's,k's,c's,s0,s1,s2,s3,hRs⟩:=(hAx).opn;obtain⟨nt,At,kt,ct,A't,k't,c't,t0,t1,t2,t3,hRt⟩:=(hAy).opn;have HUV:Hid (pu=kL (jU T (sp3 X Y z)) W/\pv=kL (jT T (sp3 X Y z)) H):=by rw [Hid,<-hqx.out,<-hqy.out]; exact⟨hpu.out,hpv.out⟩
 go_upto_region 4 with (fail);refine xe [Mn.q gI 0,Mn.rat N (qx),Mn.i W,Mn.i pu,Mn.q gI 4,Mn.rat N (qy),Mn.i H,Mn.i pv,Mn.i pu,Mn.i pv] (sM [23,24,25,26,27,28,29,30,10,11]) [] (rQ 10 0) 0 (by kernel_rfl) ?_ ?_
 ·show ∀ i,i < 10->_
  iterate 10 refine fs ?_ ?_
  ·exact fz
  all_goals intro hl; clear hl; refine stp rfl ?_; intro ac wi eI hB hA K hK
  have o13:=oOf (hB 13) rfl
  rotate_left
  obtain⟨_,s23,rfl⟩:=hA 0 23;clear hB hA;have cc0:=eI.cell s0;have cc1:=eI.cell s1;have cc2:=eI.cell s2;have cc3:=eI.cell s3
  ·go_simp;exact q_k hK (hRs.ext eI)
  have o3:=oOf (hB 3) rfl
  rotate_left
  obtain⟨x24,s24,j24⟩:=hA 1 24;replace j24:Mn.p (Mn.rat N (qx)) x24 wi:=j24;obtain⟨_,s25,rfl⟩:=hA 2 25;clear hB hA
  ·go_simp;refine (YQ j24 HIM.out.1 (by omega) hW0 hW).mono ?_;rw [<-hpu.out];rintro e wj ⟨rfl,ej⟩;go_wp2_with fail;exact hK.out _ _ ej rfl
  have o13:=oOf (hB 13) rfl
  rotate_left
  obtain⟨_,s27,rfl⟩:=hA 4 27;clear hB hA;have cc0:=eI.cell t0;have cc1:=eI.cell t1;have cc2:=eI.cell t2;have cc3:=eI.cell t3
  ·go_simp;exact q_k hK (hRt.ext eI)
  have o4:=oOf (hB 4) rfl
  rotate_left
  obtain⟨x28,s28,j28⟩:=hA 5 28;replace j28:Mn.p (Mn.rat N (qy)) x28 wi:=j28;obtain⟨_,s29,rfl⟩:=hA 6 29;clear hB hA
  ·go_simp;refine (YQ j28 HIM.out.2 (by omega) hH0 hH).mono ?_;rw [<-hpv.out];rintro e wj ⟨rfl,ej⟩;go_wp2_with fail;exact hK.out _ _ ej rfl
  obtain⟨_,s26,rfl⟩:=hA 3 26
  rotate_left
  obtain⟨_,s30,rfl⟩:=hA 7 30
  rotate_left
  all_goals clear hB hA; go_simp; exact q_k hK rfl
 intro vals wz eZ hJ;have J10:vals 8=_:=hJ 8 (by decide) (by decide);have J11:vals 9=_:=hJ 9 (by decide) (by decide);clear hJ;simp only [pr,Nat.reduceAdd,J10,J11];clear J10 J11;refine qg (by kernel_rfl) ?_ _;replace B0:=eZ.block B0;replace B1:=eZ.block B1;replace B2:=eZ.block B2;replace hE:=hE.trans eZ;obtain⟨w3,hwx⟩:∃ w3,w3=wz:=⟨_,rfl⟩
 subst hwx;clear s0 s1 s2 s3 t0 t1 t2 t3 hRs hRt hpu hpv hqx hqy eZ BI HIM
 by_cases h1:pu < 0
 case pos =>
  have d1:decide (pu < 0)=true:=q_t h1;have HBD:Hid (false=xM G T (sp3 X Y z) W H/\0=snZ T (sp3 X Y z) W H (kL (jU T (sp3 X Y z)) W)/\0=snZ T (sp3 X Y z) W H (kL (jT T (sp3 X Y z)) H)):=ZU (by rintro⟨-,h,-⟩; rw [<-HUV.out.1] at h; omega);clear h1 B0 B1 B2;go_wp2;refine bodyPost_ret (v:=.tuple #[.int .i64 0,.int .i64 0,.bool false]) (by simp [results,Tryz.results87,go_sem]) rfl ?_;exact⟨by rw [<-HBD.out.1,<-HBD.out.2.1,<-HBD.out.2.2],hE⟩
 have d1:decide (pu < 0)=false:=q_f h1
 by_cases h2:pv < 0
 case pos =>
  have d2:decide (pv < 0)=true:=q_t h2;have HBD:Hid (false=xM G T (sp3 X Y z) W H/\0=snZ T (sp3 X Y z) W H (kL (jU T (sp3 X Y z)) W)/\0=snZ T (sp3 X Y z) W H (kL (jT T (sp3 X Y z)) H)):=ZU (by rintro⟨-,-,h⟩; rw [<-HUV.out.2] at h; omega);clear h1 h2 B0 B1 B2;go_wp2;refine bodyPost_ret (v:=.tuple #[.int .i64 0,.int .i64 0,.bool false]) (by simp [results,Tryz.results87,go_sem]) rfl ?_;exact⟨by rw [<-HBD.out.1,<-HBD.out.2.1,<-HBD.out.2.2],hE⟩
 have d2:decide (pv < 0)=false:=q_f h2;have HYS:Hid (xM G T (sp3 X Y z) W H=We G (sp3 X Y z) (sp3 T.ax T.ay T.az)):=q1F HFR0.out ⟨by rw [<-HUV.out.1]; omega,by rw [<-HUV.out.2]; omega⟩
 have HGD:Hid (snZ T (sp3 X Y z) W H (kL (jU T (sp3 X Y z)) W)=pu/\snZ T (sp3 X Y z) W H (kL (jT T (sp3 X Y z)) H)=pv):=by
  have h9:0 < dS T (sp3 X Y z) 2 3/\0<=kL (jU T (sp3 X Y z)) W/\0<=kL (jT T (sp3 X Y z)) H:=⟨HFR0.out,by rw [<-HUV.out.1]; omega,by rw [<-HUV.out.2]; omega⟩
  exact⟨(if_pos h9).trans HUV.out.1.symm,(if_pos h9).trans HUV.out.2.symm⟩
 obtain⟨cl,hcl⟩:=qf (We G (sp3 X Y z) (sp3 T.ax T.ay T.az));have a1:=HOK.out.ax;have a2:=HOK.out.ay;have a3:=HOK.out.az;clear h1 h2;have HB2:=q_h B2;have hN3:N<=w3.heap.size:=by have:=hE.size; omega
 obtain⟨g0,g1,g2,g3,g4,g5⟩:=qG B0;obtain⟨s0,s1,s2,s3,s4,s5,s6,s7,s8,s9⟩:=zi B1;go_upto_region 7 with (fail);refine q4M [Mn.i pu,Mn.i pv,Mn.eq (.agg #[.int .i64 G.x0,.int .i64 G.y0,.int .i64 G.st,.int .i64 G.wd,.int .i64 G.ht,.slice A G.n c]),Mn.eq (.agg pa),Mn.q (w.heap.size+1) 0,Mn.q (w.heap.size+1) 0,Mn.i T.ax,Mn.rat N ((T.ax:Int):Rat),Mn.q (w.heap.size+1) 0,Mn.q (w.heap.size+1) 1,Mn.i T.ay,Mn.rat N ((T.ay:Int):Rat),Mn.q (w.heap.size+1) 0,Mn.q (w.heap.size+1) 2,Mn.i T.az,Mn.rat N ((T.az:Int):Rat),Mn.pt N (sp3 T.ax T.ay T.az),Mn.t cl,Mn.any,Mn.any,Mn.any] (sM [37,38,39,40,41,42,43,44,45,46,47,48,49,50,51,52,53,54,10,11,12]) [18,19,20] [1] [] (rQ 18 3) 3 (Ext.refl _) (by kernel_rfl) ?_ ?_ ?_ ?_
 ·show ∀ i,i < 21->_
  iterate 21 refine fs ?_ ?_
  ·exact fz
  all_goals intro hl hs hd; first | exact absurd hl (by decide) | exact absurd hs (by decide) | (clear hl hs hd; refine stp rfl ?_; intro ac wi eI hB hA K hK)
  have o10:=oOf (hB 10) rfl
  rotate_left
  have o5:=oOf (hB 5) rfl;have cc0:=eI.cell g0;have cc1:=eI.cell g1;have cc2:=eI.cell g2;have cc3:=eI.cell g3;have cc4:=eI.cell g4;have cc5:=eI.cell g5
  rotate_left
  have o7:=oOf (hB 7) rfl;clear hB hA;have cc0:=eI.cell g0;have cc1:=eI.cell g1;have cc2:=eI.cell g2;have cc3:=eI.cell g3;have cc4:=eI.cell g4;have cc5:=eI.cell g5;have cc6:=eI.cell s0;have cc7:=eI.cell s1;have cc8:=eI.cell s2
  ·refine wp_load_row 43 _ rfl _ (by simp [Act.eval,o7]) _ pa _ _ (eI.block HB2.out) Tryz.underlying43 rfl (by rw [ZA.out]; exact qE) ?_;exact q_k hK rfl
  have o6:=oOf (hB 6) rfl
  rotate_left
  obtain⟨_,s41,rfl⟩:=hA 4 41
  rotate_left
  obtain⟨_,s42,rfl⟩:=hA 5 42;have cc0:=eI.cell s0
  rotate_left
  obtain⟨_,s43,rfl⟩:=hA 6 43;clear hB hA
  ·go_simp;refine (qB (q_l hN3 eI.size) T.ax (by omega) (by omega)).mono ?_;rintro e wj ⟨vj,rfl,hj,ej⟩;go_wp2_with fail;exact hK.out _ _ ej hj
  have o6:=oOf (hB 6) rfl
  rotate_left
  obtain⟨_,s45,rfl⟩:=hA 8 45
  rotate_left
  obtain⟨_,s46,rfl⟩:=hA 9 46;have cc0:=eI.cell s1
  rotate_left
  obtain⟨_,s47,rfl⟩:=hA 10 47;clear hB hA
  ·go_simp;refine (qB (q_l hN3 eI.size) T.ay (by omega) (by omega)).mono ?_;rintro e wj ⟨vj,rfl,hj,ej⟩;go_wp2_with fail;exact hK.out _ _ ej hj
  have o6:=oOf (hB 6) rfl
  rotate_left
  obtain⟨_,s49,rfl⟩:=hA 12 49
  rotate_left
  obtain⟨_,s50,rfl⟩:=hA 13 50;have cc0:=eI.cell s2
  rotate_left
  obtain⟨_,s51,rfl⟩:=hA 14 51;clear hB hA
  ·go_simp;refine (qB (q_l hN3 eI.size) T.az (by omega) (by omega)).mono ?_;rintro e wj ⟨vj,rfl,hj,ej⟩;go_wp2_with fail;exact hK.out _ _ ej hj
  obtain⟨x44,s44,j44⟩:=hA 7 44;replace j44:Mn.p (Mn.rat N ((T.ax:Int):Rat)) x44 wi:=j44;obtain⟨x48,s48,j48⟩:=hA 11 48;replace j48:Mn.p (Mn.rat N ((T.ay:Int):Rat)) x48 wi:=j48;obtain⟨x52,s52,j52⟩:=hA 15 52;replace j52:Mn.p (Mn.rat N ((T.az:Int):Rat)) x52 wi:=j52;clear hB hA
  ·obtain⟨ba,Aa,ka,ca,A'a,k'a,c'a,rfl,-,-,-⟩:=qm.parts j44;obtain⟨bb,Ab,kb,cb,A'b,k'b,c'b,rfl,-,-,-⟩:=qm.parts j48;obtain⟨bd,Ad,kd,cd,A'd,k'd,c'd,rfl,-,-,-⟩:=qm.parts j52;rw [if_pos (by rfl)];refine xJ 43 _ rfl (l:=[(0,.agg #[.bool ba,.slice Aa ka ca,.bool false,.slice A'a k'a c'a]),(1,.agg #[.bool bb,.slice Ab kb cb,.bool false,.slice A'b k'b c'b]),(2,.agg #[.bool bd,.slice Ad kd cd,.bool false,.slice A'd k'd c'd])]) (by simp only [List.map_toArray,List.map_cons,List.map_nil]; simp [Act.eval,s44,s48,s52]) (yF _ _ _ _ _ _ _ _ _ _ _ _) ?_;exact q_k hK ⟨_,rfl,rfl,rfl,Xk j44 j48 j52⟩
  obtain⟨_,s39,rfl⟩:=hA 2 39;obtain⟨_,s40,rfl⟩:=hA 3 40;obtain⟨x53,s53,j53⟩:=hA 16 53;replace j53:Mn.p (Mn.pt N (sp3 T.ax T.ay T.az)) x53 wi:=j53;clear hB hA
  ·obtain⟨pb,rfl,kb1,kb2,kb3⟩:=j53;go_simp;refine (q0b (HG.out.ext (hE.trans eI)) HGO.out ZA.out (HPA.out.ext (hE.trans eI)) kb1 kb3 HTK.out HSK.out (by omega) (q_l hN3 eI.size)).mono ?_;rw [<-hcl.out];rintro e wj ⟨rfl,ej⟩;go_wp2_with fail;exact hK.out _ _ ej rfl
  all_goals clear hB hA; go_simp; exact q_k hK rfl
 ·intro i hs; exact absurd hs (by simp)
 ·intro i hs;have hi':i=1:=by simpa using hs
  clear hs
  rcases hi' with rfl
  ·refine q1D rfl (fun _ _ _ _ h=>h) ?_;intro ac wi eI hB hA;have o11:=oOf (hB 11) rfl;clear hB hA;refine⟨(.int .i64 pv),.inl ⟨rfl,fun w9 _=>?_⟩,rfl⟩;go_simp
 intro vals wz eZ hJ hD;clear hD;have J37:vals 0=_:=hJ 0 (by decide) (by decide);have J38:vals 1=_:=hJ 1 (by decide) (by decide);have J54:vals 17=_:=hJ 17 (by decide) (by decide);clear hJ;simp only [pr,Nat.reduceAdd,J37,J38,J54];clear J37 J38 J54;refine zg (i:=18) rfl (by kernel_rfl) (fun K hK=>?_);go_simp;refine hK.out _ _ (fun e9=>?_) ?_
 ·repeat (first | with_reducible exact e9 | refine Ext.setCell ?_ (by dsimp only; omega) _)
 clear hK K;try simp only [nr]
 refine zg (i:=19) rfl (by kernel_rfl) (fun K hK=>?_);go_simp;refine hK.out _ _ (fun e9=>?_) ?_
 ·repeat (first | with_reducible exact e9 | refine Ext.setCell ?_ (by dsimp only; omega) _)
 clear hK K;try simp only [nr]
 refine zg (i:=20) rfl (by kernel_rfl) (fun K hK=>?_);go_simp;refine hK.out _ _ (fun e9=>?_) ?_
 ·repeat (first | with_reducible exact e9 | refine Ext.setCell ?_ (by dsimp only; omega) _)
 clear hK K;try simp only [nr]
 refine qg (by kernel_rfl) ?_ _;go_wp2;refine bodyPost_ret (v:=.tuple #[.int .i64 pu,.int .i64 pv,.bool cl]) (by simp [results,Tryz.results87,go_sem]) rfl ?_;exact⟨by rw [HYS.out,HGD.out.1,HGD.out.2,<-hcl.out],hE.trans eZ⟩
end Go.Proofs.YtphpkhoeplcedaaGreat
