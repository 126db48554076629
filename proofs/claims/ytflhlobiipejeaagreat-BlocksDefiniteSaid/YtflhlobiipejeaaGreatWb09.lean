import Derived.Test.YtflhlobiipejeaaGreatWb08
set_option linter.all false
set_option maxHeartbeats 8000000
namespace Go.Proofs.YtflhlobiipejeaaGreat
variable {w w':World} {N n k g i m c j d:Nat} {v s:Value} {l:List Nat} {z:Int} {A:Option Addr}
section
open Go.RowKit
theorem q4o {b:Bool}{p q:Nat}(h:z=(if b=true then -(p:Int) else p)+(if b=true then -(q:Int) else q)):z=if b=true then -((p+q:Nat):Int) else ((p+q:Nat):Int):=by
 cases b<;>simp at h ⊢<;>omega
theorem q4p {b c:Bool}{p q:Nat}(hbc:¬b=c) (hle:q<=p) (h:z=(if b=true then -(p:Int) else p)+(if c=true then -(q:Int) else q)):z=if b=true then -((p-q:Nat):Int) else ((p-q:Nat):Int):=by
 cases b<;>cases c<;>simp at h hbc ⊢<;>omega
theorem q1Q {b c:Bool}{p q:Nat}(hbc:¬b=c) (hle:p<=q) (h:z=(if b=true then -(p:Int) else p)+(if c=true then -(q:Int) else q)):z=if c=true then -((q-p:Nat):Int) else ((q-p:Nat):Int):=by
 cases b<;>cases c<;>simp at h hbc ⊢<;>omega
theorem q7v{t:Value}{p q:Nat}(h:Gs N w s (dg p)) (h':Gs N w t (dg q)) (hL:ln p<=1000000000000) (hL':ln q<=1000000000000) :
  Calls Tryz.prog 191 #[s,t] w (QX N w (p+q)):=by
 have:=q6h h h' (qI _) (qI _) hL hL'
 rwa [qC,qC] at this
theorem Jo{t:Value}{p q:Nat}(h:Gs N w s (dg p)) (h':Gs N w t (dg q)) (hL:ln p<=1000000000000) (hle:q<=p) :
  Calls Tryz.prog 192 #[s,t] w (QX N w (p-q)):=by
 have:=q7w h h' (qI _) (qI _) hL (by rw[qC,qC];exact hle)
 rwa [qC,qC] at this
theorem q5b{t:Value}{p q:Nat}(h:Gs N w s (dg p)) (h':Gs N w t (dg q)) (hL:ln p<=500000000000) (hL':ln q<=500000000000) :
  Calls Tryz.prog 179 #[s,t] w (QX N w (p*q)):=by
 have:=q7u h h' (qI _) (qI _) hL hL'
 rwa [qC,qC] at this
theorem kW{p:Nat}{neg:Bool}(h:Gs N w (.slice A n c) (dg p)) (z:Int) (hz:Hid (z=if neg then -(p:Int) else (p:Int))) :
  Calls Tryz.prog 175 #[.bool neg,.slice A n c] w (Kr N w z):=q04 h (qI _) z (by rw[qC];exact hz)
theorem i_sum{n1 n2:Bool}{A1:Option Addr}{k1 c1:Nat}{A2:Option Addr}{k2 c2:Nat}{p q:Nat}(h:Gs N w (.slice A1 k1 c1) (dg p)) (h':Gs N w (.slice A2 k2 c2) (dg q)) (hL:ln p<=100000000000) (hL':ln q<=100000000000) (z:Int) (hz:Hid (z=(if n1=true then -(p:Int) else p)+(if n2=true then -(q:Int) else q))) :
  Calls Tryz.prog 183 #[.bool n1,.slice A1 k1 c1,.bool n2,.slice A2 k2 c2] w (Kr N w z):=by
 have hN:=h.le;have HL:=q_h hL;have HL':=q_h hL';clear hL hL'
 by_cases hnn:n1=n2
 ·subst hnn;have hb:(n1 == n1)=true:=by simp
  go_enter Tryz.func183,Tryz.ntmps183;go_wp2_with (go_at_call 191;refine q_o ?_);refine qW ?_;intro W hE hsz B0;refine (q7v (h.ext hE) (h'.ext hE) (by have:=HL.out;omega) (by have:=HL'.out;omega)).mono ?_;rintro e w1 ⟨A3,k3,c3,rfl,g1,e1,-⟩;go_wp2_with (go_at_call 175;refine q_o ?_);refine (kW g1 z (q4o hz.out)).mono ?_;intro e w2 hh;obtain⟨b4,A4,k4,c4,rfl,hb4,h4,e4⟩:=hh.form;have B1:=e4.block (e1.block B0);obtain⟨r0,r1,r2,r3⟩:=cells2 B1;go_wp2;exact zC rfl rfl rfl ((hE.trans e1).trans e4) B1 (by omega) hN h4 hb4.out rfl
 ·have hb:(n1 == n2)=false:=by simpa using hnn
  have HNN:=q_h hnn;clear hnn;obtain⟨cz,hcz⟩:=qc (Q5 p q);go_enter Tryz.func183,Tryz.ntmps183;go_wp2_with (go_at_call 173;refine q_o ?_);refine qW ?_;intro W hE hsz B0;refine (ZK (h.ext hE) (h'.ext hE)).mono ?_;rintro e wd ⟨rfl,ed⟩;rw[<-hcz.out];replace B0:=ed.block B0;replace hE:=hE.trans ed;replace hsz:=q_l hsz ed.size;clear ed
  by_cases hle:q<=p
  ·have hc:0<=cz:=by rw[hcz.out];exact yt.2 hle
   have Hle:=q_h hle;clear hle;go_wp2_with (go_at_call 192;refine q_o ?_);refine (Jo (h.ext hE) (h'.ext hE) (by have:=HL.out;omega) Hle.out).mono ?_;rintro e w1 ⟨A3,k3,c3,rfl,g1,e1,-⟩;go_wp2_with (go_at_call 175;refine q_o ?_);refine (kW g1 z (q4p HNN.out Hle.out hz.out)).mono ?_;intro e w2 hh;obtain⟨b4,A4,k4,c4,rfl,hb4,h4,e4⟩:=hh.form;have B1:=e4.block (e1.block B0);obtain⟨r0,r1,r2,r3⟩:=cells2 B1;go_wp2;exact zC rfl rfl rfl ((hE.trans e1).trans e4) B1 (by omega) hN h4 hb4.out rfl
  ·have hc:cz<0:=by
    rcases Int.lt_or_le cz 0 with h|h
    ·exact h
    ·rw[hcz.out] at h;exact absurd (yt.1 h) hle
   have Hle:Hid (p<=q):=by unfold Hid;omega
   clear hle;go_wp2_with (go_at_call 192;refine q_o ?_);refine (Jo (h'.ext hE) (h.ext hE) (by have:=HL'.out;omega) Hle.out).mono ?_;rintro e w1 ⟨A3,k3,c3,rfl,g1,e1,-⟩;go_wp2_with (go_at_call 175;refine q_o ?_);refine (kW g1 z (q1Q HNN.out Hle.out hz.out)).mono ?_;intro e w2 hh;obtain⟨b4,A4,k4,c4,rfl,hb4,h4,e4⟩:=hh.form;have B1:=e4.block (e1.block B0);obtain⟨r0,r1,r2,r3⟩:=cells2 B1;go_wp2;exact zC rfl rfl rfl ((hE.trans e1).trans e4) B1 (by omega) hN h4 hb4.out rfl
theorem q67 (x:Int):(if decide (x<0)=true then -(x.natAbs:Int) else (x.natAbs:Int))=x:=by
 split
 ·rename_i h;simp at h;omega
 ·rename_i h;simp at h;omega
theorem i_add{v':Value}{x y:Int}(h:zy N w v x) (h':zy N w v' y) (hL:ln x.natAbs<=100000000000) (hL':ln y.natAbs<=100000000000) :
  Calls Tryz.prog 161 #[v,v'] w (Kr N w (x+y)):=by
 obtain⟨z,hz⟩:=qc (x+y);rw[<-hz.out];have hI:=h;have hI':=h';obtain⟨s,rfl,hs⟩:=h;obtain⟨s',rfl,hs'⟩:=h';have hN:=hs.le;obtain⟨A1,k1,c1,rfl,hlen,-,-⟩:=hs.form;obtain⟨A2,k2,c2,rfl,hlen',-,-⟩:=hs'.form
 generalize hneg:decide (x<0)=n1 at *
 generalize hneg':decide (y<0)=n2 at *
 have Hn1:=q_h hneg;have Hn2:=q_h hneg';clear hneg hneg';have HL:=q_h hL;have HL':=q_h hL';clear hL hL';go_enter Tryz.func161,Tryz.ntmps161;have HZ:Hid (z=(if n1=true then -(x.natAbs:Int) else x.natAbs)+(if n2=true then -(y.natAbs:Int) else y.natAbs)):=by rw[Hid,<-Hn1.out,<-Hn2.out,q67,q67];exact hz.out
 go_wp2;refine xX ?_;intro W hE hsz B0 B1 B2;obtain⟨a0,a1,a2,a3⟩:=cells2 B0;obtain⟨b0,b1,b2,b3⟩:=cells2 B1;have eC:=(Ext.refl W).drew
 go_region_held3 (fun w'=>w'.cell? ⟨w.heap.size,0,none⟩=some (.bool n1)/\w'.cell? ⟨w.heap.size,1,none⟩=some (.slice A1 k1 c1)/\w'.cell? ⟨w.heap.size+1,0,none⟩=some (.bool n2)/\w'.cell? ⟨w.heap.size+1,1,none⟩=some (.slice A2 k2 c2)) ((repeat' apply And.intro)<;>repeat with_reducible first|assumption|exact eC.cell (by assumption)|refine cell_far _ ?_ (by omega))
  (first|(go_at_call 164;refine (kL (by exact hI.ext (hE.trans eC))).mono ?_;rintro e w1 ⟨rfl,e1⟩;replace eC:=eC.trans e1)|(go_at_call 164;refine (kL (by exact hI'.ext (hE.trans eC))).mono ?_;rintro e w1 ⟨rfl,e1⟩;replace eC:=eC.trans e1)|(go_at_call 183;refine (i_sum (by exact hs.ext (hE.trans eC)) (by exact hs'.ext (hE.trans eC)) HL.out HL'.out z HZ).mono ?_;intro e w2 hh;obtain⟨bb,A4,k4,c4,rfl,hb4,h4,e4⟩:=hh.form;replace eC:=eC.trans e4;obtain⟨r0,r1,r2,r3⟩:=cells2 (eC.block B2)))
 go_wp2;exact zC rfl rfl rfl (hE.trans eC) (eC.block B2) (by omega) hN h4 hb4.out rfl
theorem Jn{v':Value}{x y:Int}(h:zy N w v x) (h':zy N w v' y) (hL:ln x.natAbs<=500000000000) (hL':ln y.natAbs<=500000000000) :
  Calls Tryz.prog 156 #[v,v'] w (Kr N w (x*y)):=by
 obtain⟨z,hz⟩:=qc (x*y);rw[<-hz.out];have hI:=h;have hI':=h';obtain⟨s,rfl,hs⟩:=h;obtain⟨s',rfl,hs'⟩:=h';have hN:=hs.le;obtain⟨A1,k1,c1,rfl,hlen,-,-⟩:=hs.form;obtain⟨A2,k2,c2,rfl,hlen',-,-⟩:=hs'.form
 generalize hneg:decide (x<0)=n1 at *
 generalize hneg':decide (y<0)=n2 at *
 have Hn1:=q_h hneg;have Hn2:=q_h hneg';clear hneg hneg';have HL:=q_h hL;have HL':=q_h hL';clear hL hL';go_enter Tryz.func156,Tryz.ntmps156;have HZ:Hid (z=if (n1 != n2)=true then -((x.natAbs*y.natAbs:Nat):Int) else ((x.natAbs*y.natAbs:Nat):Int)):=by rw[Hid,<-Hn1.out,<-Hn2.out,<-WR];exact hz.out
 obtain⟨n3,hn3⟩:=qc (n1 == n2);have t1:(n1 == n2)=n3:=hn3.out.symm;replace HZ:Hid (z=if (!n3)=true then -((x.natAbs*y.natAbs:Nat):Int) else ((x.natAbs*y.natAbs:Nat):Int)):=by rw[<-t1];exact HZ.out
 clear hn3;go_wp2;refine xX ?_;intro W hE hsz B0 B1 B2;obtain⟨a0,a1,a2,a3⟩:=cells2 B0;obtain⟨b0,b1,b2,b3⟩:=cells2 B1;have eC:=(Ext.refl W).drew
 go_region_held3 (fun w'=>w'.cell? ⟨w.heap.size,0,none⟩=some (.bool n1)/\w'.cell? ⟨w.heap.size,1,none⟩=some (.slice A1 k1 c1)/\w'.cell? ⟨w.heap.size+1,0,none⟩=some (.bool n2)/\w'.cell? ⟨w.heap.size+1,1,none⟩=some (.slice A2 k2 c2)) ((repeat' apply And.intro)<;>repeat with_reducible first|assumption|exact eC.cell (by assumption)|refine cell_far _ ?_ (by omega))
  (first|(go_at_call 164;refine (kL (by exact hI.ext (hE.trans eC))).mono ?_;rintro e w1 ⟨rfl,e1⟩;replace eC:=eC.trans e1)|(go_at_call 164;refine (kL (by exact hI'.ext (hE.trans eC))).mono ?_;rintro e w1 ⟨rfl,e1⟩;replace eC:=eC.trans e1)|(go_at_call 179;refine (q5b (by exact hs.ext (hE.trans eC)) (by exact hs'.ext (hE.trans eC)) HL.out HL'.out).mono ?_;rintro e w3 ⟨A3,k3,c3,rfl,g3,e3,-⟩;replace eC:=eC.trans e3)|(go_at_call 175;refine (kW (by exact g3) z HZ).mono ?_;intro e w2 hh;obtain⟨bb,A4,k4,c4,rfl,hb4,h4,e4⟩:=hh.form;replace eC:=eC.trans e4;obtain⟨r0,r1,r2,r3⟩:=cells2 (eC.block B2)))
 go_wp2;exact zC rfl rfl rfl (hE.trans eC) (eC.block B2) (by omega) hN h4 hb4.out rfl
theorem q5y {x y:Int}(h:x.sign≠y.sign):Q4 x.sign y.sign=(x-y).sign:=by
 unfold Q4
 rcases Int.lt_trichotomy x 0 with hx|hx|hx<;>rcases Int.lt_trichotomy y 0 with hy|hy|hy
 all_goals first
  | (rw[Int.sign_eq_neg_one_of_neg hx] at h ⊢)
  | (rw[Int.sign_eq_one_of_pos hx] at h ⊢)
  | (subst hx;rw[Int.sign_zero] at h ⊢)
 all_goals first
  | (rw[Int.sign_eq_neg_one_of_neg hy] at h ⊢)
  | (rw[Int.sign_eq_one_of_pos hy] at h ⊢)
  | (subst hy;rw[Int.sign_zero] at h ⊢)
 all_goals first
  | exact absurd rfl h
  | (rw[Int.sign_eq_neg_one_of_neg (by omega)];rfl)
  | (rw[Int.sign_eq_one_of_pos (by omega)];rfl)
theorem q5x {x y:Int}(h:x.sign=y.sign):(if x<0 then -Q5 x.natAbs y.natAbs else Q5 x.natAbs y.natAbs)=(x-y).sign:=by
 have h1:x<0↔y<0:=by rw[<-Int.sign_neg_iff,<-Int.sign_neg_iff (x:=y),h]
 have h2:0<x↔0<y:=by rw[<-Int.sign_pos_iff,<-Int.sign_pos_iff (x:=y),h]
 rcases Int.lt_trichotomy x y with hxy|hxy|hxy
 ·rw[Int.sign_eq_neg_one_of_neg (by omega:x-y<0)]
  by_cases hx:x<0
  ·rw[if_pos hx,QD (by omega)]
  ·rw[if_neg hx,yl (by omega)]
 ·subst hxy;rw[Int.sub_self,Int.sign_zero,VY rfl]
  split<;>rfl
 ·rw[Int.sign_eq_one_of_pos (by omega:0<x-y)]
  by_cases hx:x<0
  ·rw[if_pos hx,yl (by omega)];rfl
  ·rw[if_neg hx,QD (by omega)]
theorem q8Q{v':Value}{x y:Int}(h:zy N w v x) (h':zy N w v' y) :
  Calls Tryz.prog 153 #[v,v'] w (zH w (.int .i64 (x-y).sign)):=by
 obtain⟨z,hz⟩:=qc ((x-y).sign);obtain⟨sx,hsx⟩:=qc x.sign;obtain⟨sy,hsy⟩:=qc y.sign;rw[<-hz.out];have hL:=trivial;have hL':=trivial;have hI:=h;have hI':=h';obtain⟨s,rfl,hs⟩:=h;obtain⟨s',rfl,hs'⟩:=h';have hN:=hs.le;obtain⟨A1,k1,c1,rfl,hlen,-,-⟩:=hs.form;obtain⟨A2,k2,c2,rfl,hlen',-,-⟩:=hs'.form
 generalize hneg:decide (x<0)=n1 at *
 generalize hneg':decide (y<0)=n2 at *
 have Hn1:=q_h hneg;have Hn2:=q_h hneg';clear hneg hneg';have HL:=q_h hL;have HL':=q_h hL';clear hL hL';go_enter Tryz.func153,Tryz.ntmps153;go_wp2;refine kD ?_;intro W hE hsz B0 B1;obtain⟨a0,a1,a2,a3⟩:=cells2 B0;obtain⟨b0,b1,b2,b3⟩:=cells2 B1;have eC:=(Ext.refl W).drew
 go_region_held3 (fun w'=>w'.cell? ⟨w.heap.size,0,none⟩=some (.bool n1)/\w'.cell? ⟨w.heap.size,1,none⟩=some (.slice A1 k1 c1)/\w'.cell? ⟨w.heap.size+1,0,none⟩=some (.bool n2)/\w'.cell? ⟨w.heap.size+1,1,none⟩=some (.slice A2 k2 c2)) ((repeat' apply And.intro)<;>repeat with_reducible first|assumption|exact eC.cell (by assumption)|refine cell_far _ ?_ (by omega))
  (first|(go_at_call 134;refine (Xl (by exact hI.ext (hE.trans eC))).mono ?_;rintro e w1 ⟨rfl,e1⟩;rw[<-hsx.out];replace eC:=eC.trans e1)|(go_at_call 134;refine (Xl (by exact hI'.ext (hE.trans eC))).mono ?_;rintro e w1 ⟨rfl,e1⟩;rw[<-hsy.out];replace eC:=eC.trans e1))
 replace hE:=hE.trans eC;replace B0:=eC.block B0;replace B1:=eC.block B1;replace hsz:=q_l hsz eC.size;clear a0 a1 a2 a3 b0 b1 b2 b3 eC;obtain⟨a0,a1,a2,a3⟩:=cells2 B0;obtain⟨b0,b1,b2,b3⟩:=cells2 B1
 by_cases hss:sx=sy
 ·have t1:(sx == sy)=true:=by simpa using hss
  have HZ:Hid ((if n1=true then -Q5 x.natAbs y.natAbs else Q5 x.natAbs y.natAbs)=z):=by
   rw[Hid,hz.out,<-q5x (by rw[<-hsx.out,<-hsy.out];exact hss),<-Hn1.out]
   by_cases hx:x<0<;>simp[hx]
  obtain⟨c,hc⟩:=qc (Q5 x.natAbs y.natAbs);rw[<-hc.out] at HZ;have hcb : -1<=c/\c<=1:=by rw[hc.out];exact q5A _ _
  obtain⟨c0,c1'⟩:=hcb;clear hss;go_wp2;have eC:=(Ext.refl w1).drew
  go_region_held3 (fun w'=>w'.cell? ⟨w.heap.size,0,none⟩=some (.bool n1)/\w'.cell? ⟨w.heap.size,1,none⟩=some (.slice A1 k1 c1)/\w'.cell? ⟨w.heap.size+1,0,none⟩=some (.bool n2)/\w'.cell? ⟨w.heap.size+1,1,none⟩=some (.slice A2 k2 c2)) ((repeat' apply And.intro)<;>repeat with_reducible first|assumption|exact eC.cell (by assumption)|refine cell_far _ ?_ (by omega))
   (first|(go_at_call 164;refine (kL (by exact hI.ext (hE.trans eC))).mono ?_;rintro e w2 ⟨rfl,e1⟩;replace eC:=eC.trans e1)|(go_at_call 164;refine (kL (by exact hI'.ext (hE.trans eC))).mono ?_;rintro e w2 ⟨rfl,e1⟩;replace eC:=eC.trans e1)|(go_at_call 173;refine (ZK (by exact hs.ext (hE.trans eC)) (by exact hs'.ext (hE.trans eC))).mono ?_;rintro e w2 ⟨rfl,e1⟩;rw[<-hc.out];replace eC:=eC.trans e1))
  replace hE:=hE.trans eC;replace B0:=eC.block B0;replace B1:=eC.block B1;replace hsz:=q_l hsz eC.size;clear a0 a1 a2 a3 b0 b1 b2 b3 eC;obtain⟨a0,a1,a2,a3⟩:=cells2 B0;obtain⟨b0,b1,b2,b3⟩:=cells2 B1;cases n1
  ·have HZ':Hid (c=z):=HZ;go_wp2;go_ret;exact⟨qJ HZ'.out,hE⟩
  ·have HZ':Hid (-c=z):=HZ;go_wp2;go_ret;exact⟨qJ HZ'.out,hE⟩
 ·have t1:(sx == sy)=false:=by simpa using hss
  have HZ:Hid (Q4 sx sy=z):=by
   rw[Hid,hz.out,hsx.out,hsy.out];exact q5y (by rw[<-hsx.out,<-hsy.out];exact hss)
  clear hss;go_wp2_with (go_at_call 112;refine (QC _ _ _).mono ?_;rintro e w' ⟨rfl,rfl⟩);go_ret;exact⟨qJ HZ.out,hE⟩
def Arp (w:World) (g:Nat) (l:List Nat):Prop:=∃cs:Array Value,w.heap[g]?=some (.cells cs 119 (0,0))/\cs.toList.take l.length=l.map vG/\(∀x∈l,x<4294967296)
theorem Arp.lt(h:Arp w g l):g<w.heap.size:=by
 obtain⟨cs,h1,-,-⟩:=h
 rcases Nat.lt_or_ge g w.heap.size with h2|h2
 ·exact h2
 ·rw[Array.getElem?_eq_none h2] at h1;cases h1
theorem Arp.ext(h:Arp w g l) (e:Ext w w'):Arp w' g l:=by
 obtain⟨cs,h1,h2,h3⟩:=h;exact⟨cs,e.block h1,h2,h3⟩
theorem Arp.of_block(h:Arp w g l) (e:w'.heap[g]?=w.heap[g]?):Arp w' g l:=by
 obtain⟨cs,h1,h2,h3⟩:=h;exact⟨cs,e.trans h1,h2,h3⟩
theorem Wp {cs:List Value}{m:List Value}(h:cs.take n=m) (hk:k<n):cs[k]?=m[k]?:=by
 rw[<-h,List.getElem?_take,if_pos hk]
theorem Arp.at_(h:Arp w g l)(hk:k<l.length) :
  ∃z:Int,w.cell? ⟨g,k,none⟩=some (.int .u32 z)/\w.frozen? ⟨g,k,none⟩=false/\0<=z/\z<4294967296/\Hid (z=((l[k]?.getD 0:Nat):Int)):=by
 obtain⟨cs,h1,h2,h3⟩:=h;refine⟨((l[k]?.getD 0:Nat):Int),?_,qY h1 _,by omega,?_,rfl⟩
 ·rw[qh h1,<-Array.getElem?_toList,Wp h2 hk];simp[List.getElem?_eq_getElem hk]
 ·have:=h3 _ (List.getElem_mem hk);rw[List.getElem?_eq_getElem hk];simp only[Option.getD_some];omega
theorem Arp.set(h:Arp w g l) (k:Nat)(z0:0<=z) (z1:z<4294967296):Arp (w.setCell ⟨g,k,none⟩ (.int .u32 z)) g (l.set k z.toNat):=by
 obtain⟨cs,h1,h2,h3⟩:=h;refine⟨_,heap_set h1 k _,?_,fun x hx=>?_⟩
 ·have e:(Value.int .u32 z)=vG z.toNat:=by unfold vG;rw[Int.toNat_of_nonneg z0]
  rw[e,List.length_set,List.map_set,<-h2,Array.toList_setIfInBounds,List.take_set]
 ·rcases List.mem_or_eq_of_mem_set hx with h4|rfl
  ·exact h3 x h4
  ·omega
theorem Arp.gsN(h:Arp w g l) (hN:N<=w.heap.size)(hn:n<=l.length) (hc:n<=c) (hm:c<=maxLen):Gs N w (.slice (some ⟨g,0,none⟩) n c) (l.take n):=by
 have hlt:=h.lt;obtain⟨cs,h1,h2,h3⟩:=h;refine⟨hN,_,_,_,rfl,by rw[List.length_take];omega,hc,hm,fun x hx=>h3 x (List.mem_of_mem_take hx),fun _=>⟨g,0,rfl,⟨hlt,.inr ⟨_,_,h1⟩⟩,fun i hi=>?_⟩⟩;rw[Nat.zero_add,qh h1,<-Array.getElem?_toList,Wp h2 (by omega),List.getElem?_take,if_pos hi];simp[List.getElem?_eq_getElem (show i<l.length by omega)]
theorem Qj{ops:Array Oper}{rest:List Oper}{o:Oper}{a:Act}{Q:Exit->Act->World->Prop}(hgd:o.guard=none) (s x:Operand)
  (ho:o.op=.call { callee:=.builtin .append,args:=#[s,x],argTypes:=#[31,31] })
  (g n c:Nat) (l:List Nat) (hs:a.eval s=.slice (some ⟨g,0,none⟩) n c) (hA:Arr w g l) (hlc:l.length=c) (hn:n<=c)
  (ad:Addr) (cx:Nat) (hx:a.eval x=.slice (some ad) 1 cx) (z:Nat) (hz:w.cell? ad=some (vG z)) (hzb:z<4294967296) (hcm:c<=maxLen) (hb:(n+1)*4<=140737488355328)
  (h:∀g' c' w',Arp w' g' (l.take n ++ [z])->(g'=g\/g'=w.heap.size)->n+1<=c'->c'<=maxLen->w.grownBy w' (some g)->wpList Tryz.prog ops Q rest (a.put o.dst (.slice (some ⟨g',0,none⟩) (n+1) c')) w'):wpList Tryz.prog ops Q (o :: rest) a w:=by
 refine wpList_plain hgd fun _ hK=>?_
 obtain⟨i0,hi0,hz0,hz1,hz2⟩:=info_parts Jj;have hlt:=hA.lt
 have hown:w.ownsRow g 119 1 (.slice (some ⟨g,0,none⟩) n c) n ((l.take n).map vG):=by
  refine⟨by simp;omega,.inr ⟨g,c,_,rfl,q_r,hA.1,hn,hcm,by simp[hlc],?_⟩⟩
  simp
 obtain⟨v',w',hrun,k2,k3,-,k5⟩:=run_append_own_at (P:=Tryz.prog) w g 31 o.type 119 i0 _ 1 4 Tryz.underlying31 hi0 hz0 hz1 hz2 rfl (by omega) _ n _ hown ad 1 cx [vG z] (by simp)
  (fun j u hu=>by
   cases j with
   | zero =>
    have e:vG z=u:=by simpa using hu
    subst e;have e2:ad.add 0=ad:=by unfold Addr.add;split<;>simp_all
    rw[e2];exact hz
   | succ j=>simp at hu)
  (fun u hu=>by simp at hu;subst hu;rfl) (by unfold maxLen;omega) (by omega) (by omega)
 unfold Oper.wp execOp;simp only[ho,resolve,invoke,builtin,Sem.run_bind,Sem.run_pure,Result.andThen_ok,List.map_toArray,List.map_cons,List.map_nil,hs,hx,hrun]
 rcases k2.2 with ⟨-,h0⟩|⟨g',cap,cur,rfl,hb',hh,hnc,hcm,hcs,htk⟩
 ·omega
 ·refine hK _ _ (h g' cap w' ⟨cur,hh,?_,?_⟩ ?_ hnc hcm k3)
  ·have e:(l.take n ++ [z]).length=(n+1)*1:=by simp;omega
   rw[e,htk];simp
  ·intro y hy
   rcases List.mem_append.1 hy with h1|h1
   ·exact hA.2 y (List.mem_of_mem_take h1)
   ·simp at h1;omega
  ·rcases k5 with k5|k5
   ·left;simpa[Value.ownBlock] using k5
   ·right;simpa[Value.ownBlock] using k5
end
section
theorem q2W {z V M:Nat}(hM:0<M) (hV:0<V) (h:z / M<g*(V / M)):z / V<g:=by
 rcases Nat.lt_or_ge (z / V) g with h1|h1
 ·exact h1
 ·exfalso
  have h2:g*V<=z:=(Nat.le_div_iff_mul_le hV).1 h1
  have h3:g*(V / M)*M<=z:=by
   rw[Nat.mul_assoc];exact q_l (Nat.mul_le_mul_left g (Nat.div_mul_le_self V M)) h2
  have h4:=(Nat.le_div_iff_mul_le hM).2 h3;omega
theorem q0Z {z V M:Nat}(hM:0<M) (hV:0<V) (h:g*(V / M)<=z / M) (hg:g<=V / M+1):g<=z / V+1:=by
 rcases Nat.eq_zero_or_pos g with h0|h0
 ·rw[h0];exact Nat.zero_le _
 ·obtain⟨k,rfl⟩:∃k,g=k+1:=⟨g-1,by omega⟩
  have h1:V<=(V / M+1)*M:=by
   have:=Nat.lt_div_mul_add hM (a:=V);rw[Nat.add_mul,Nat.one_mul];omega
  have h2:k*V<=z:=by
   have a1:k*V<=k*((V / M+1)*M):=Nat.mul_le_mul_left k h1;have a2:k*((V / M+1)*M)=(k*(V / M)+k)*M:=by rw[<-Nat.mul_assoc,Nat.mul_add,Nat.mul_one]
   have a3:(k*(V / M)+k)*M<=((k+1)*(V / M))*M:=by
    refine Nat.mul_le_mul_right M ?_;rw[Nat.add_mul,Nat.one_mul];omega
   have a4:((k+1)*(V / M))*M<=z / M*M:=Nat.mul_le_mul_right M h;have a5:=Nat.div_mul_le_self z M;omega
  have:=(Nat.le_div_iff_mul_le hV).2 h2;omega
theorem Xh {v1 v2 rest u2:Nat}:(g*v2<=rest*bs+u2)↔g*(v1*bs+v2)<=(g*v1+rest)*bs+u2:=by
 rw[Nat.mul_add,Nat.add_mul,<-Nat.mul_assoc];omega
theorem VC {z V M:Nat}(hM:0<M) (h1:0<V / M):z / V<=z / M / (V / M):=by
 rw[Nat.le_div_iff_mul_le h1,Nat.le_div_iff_mul_le hM,Nat.mul_assoc];refine q_l (Nat.mul_le_mul_left _ (Nat.div_mul_le_self V M)) ?_;exact Nat.div_mul_le_self z V
theorem q2V {z V M:Nat}(hM:0<M) (hz:z<V*bs):z / M<(V / M+1)*bs:=by
 rw[Nat.div_lt_iff_lt_mul hM]
 have h1:V<=(V / M+1)*M:=by
  have:=Nat.lt_div_mul_add hM (a:=V);rw[Nat.add_mul,Nat.one_mul];omega
 have h2:=Nat.mul_le_mul_right bs h1;have e:(V / M+1)*M*bs=(V / M+1)*bs*M:=by rw[Nat.mul_assoc,Nat.mul_assoc,Nat.mul_comm M]
 omega
def MS (u0 l v:List Nat) (j g i t:Nat):Prop :=
 l.length=u0.length/\Dig l/\l.take j=u0.take j/\l.drop (j+i)=u0.drop (j+i)/\val u0+bs ^ (j+i)*t=val l+bs ^ j*(g*val (v.take i))
def AB (l1 l v:List Nat) (j i c:Nat):Prop :=
 l.length=l1.length/\Dig l/\l.take j=l1.take j/\l.drop (j+i)=l1.drop (j+i)/\val l+bs ^ (j+i)*c=val l1+bs ^ j*val (v.take i)
theorem Zl{x:Nat}(h:j<=k):(l.set k x).take j=l.take j:=by
 apply List.ext_getElem?
 intro t;rw[List.getElem?_take,List.getElem?_take]
 split
 ·rw[List.getElem?_set_ne (by omega)]
 ·rfl
theorem ZU{x:Nat}(h:k<j):(l.set k x).drop j=l.drop j:=by
 apply List.ext_getElem?
 intro t;rw[List.getElem?_drop,List.getElem?_drop,List.getElem?_set_ne (by omega)]
theorem YQ {a b:List Nat}(h:a.drop k=b.drop k) (hm:k<=m):a.drop m=b.drop m:=by
 obtain⟨d,rfl⟩:∃d,m=k+d:=⟨m-k,by omega⟩
 rw[<-List.drop_drop,<-List.drop_drop,h]
theorem q8H {U L L' P o bw cy T vi pm bw' cy':Nat}(hset:L'+P*o=L+P*d) (hinv:U+P*(bw+cy)=L+T) (hp:g*vi+cy=bs*cy'+pm) (hd:o+bs*bw'=d+bw+pm):U+P*bs*(bw'+cy')=L'+(T+P*(g*vi)):=by
 have h1:=congrArg (P * ·) hp;have h2:=congrArg (P * ·) hd;simp only[Nat.mul_add] at h1 h2 hinv ⊢;rw[Nat.mul_assoc,Nat.mul_assoc];omega
theorem MS.start {u0 v:List Nat}(hd:Dig u0):MS u0 u0 v j g 0 0:=⟨rfl,hd,rfl,rfl,by simp[val]⟩
theorem MS.step {u0 v:List Nat}{bw cy pm bw' cy':Nat}(h:MS u0 l v j g i (bw+cy)) (hk:j+i<l.length) (hd:d<bs) (hp:g*v[i]?.getD 0+cy=bs*cy'+pm) (ho:l[j+i]?.getD 0+bs*bw'=d+bw+pm) :
  MS u0 (l.set (j+i) d) v j g (i+1) (bw'+cy'):=by
 obtain⟨h1,h2,h3,h4,h5⟩:=h;refine⟨by rw[List.length_set];exact h1,h2.set _ _ hd,by rw[Zl (by omega)];exact h3,?_,?_⟩
 ·rw[ZU (by omega)];exact YQ h4 (by omega)
 ·have:=q8H (kG hk d) h5 hp ho;rw[qx,<-Nat.add_assoc,Nat.pow_succ,this,Nat.mul_add,Nat.mul_add]
  congr 2
  rw[Nat.pow_add];simp only[Nat.mul_assoc,Nat.mul_left_comm]
theorem MS.top {u0 v:List Nat}{t t':Nat}(h:MS u0 l v j g n t) (hv:v.length=n) (hk:j+n<l.length) (hd:d<bs) (ho:l[j+n]?.getD 0+bs*t'=d+t) :
  MS u0 (l.set (j+n) d) v j g (n+1) t':=by
 have h0:v[n]?.getD 0=0:=by rw[List.getElem?_eq_none (by omega)];rfl
 have:=MS.step (bw:=t) (cy:=0) (d:=d) (pm:=0) (bw':=t') (cy':=0) h hk hd (by rw[h0];simp) (by omega);simpa using this
theorem AB.start {l1 v:List Nat}(hd:Dig l1):AB l1 l1 v j 0 0:=⟨rfl,hd,rfl,rfl,by simp[val]⟩
theorem q9h {U L L' P o T vi c':Nat}(hset:L'+P*o=L+P*d) (hinv:L+P*c=U+T) (hd:o+vi+c=d+bs*c'):L'+P*bs*c'=U+(T+P*vi):=by
 have h2:=congrArg (P * ·) hd;simp only[Nat.mul_add] at h2 ⊢;rw[Nat.mul_assoc];omega
theorem AB.step {l1 v:List Nat}{c':Nat}(h:AB l1 l v j i c) (hk:j+i<l.length) (hd:d<bs) (ho:l[j+i]?.getD 0+v[i]?.getD 0+c=d+bs*c') :
  AB l1 (l.set (j+i) d) v j (i+1) c':=by
 obtain⟨h1,h2,h3,h4,h5⟩:=h;refine⟨by rw[List.length_set];exact h1,h2.set _ _ hd,by rw[Zl (by omega)];exact h3,?_,?_⟩
 ·rw[ZU (by omega)];exact YQ h4 (by omega)
 ·have:=q9h (kG hk d) h5 ho;rw[qx,<-Nat.add_assoc,Nat.pow_succ,this,Nat.mul_add,Nat.pow_add];simp only[Nat.mul_assoc]
theorem AB.top {l1 v:List Nat}{c':Nat}(h:AB l1 l v j n c) (hv:v.length=n) (hk:j+n<l.length) (hd:d<bs) (ho:l[j+n]?.getD 0+c=d+bs*c') :
  AB l1 (l.set (j+n) d) v j (n+1) c':=by
 have h0:v[n]?.getD 0=0:=by rw[List.getElem?_eq_none (by omega)];rfl
 exact AB.step h hk hd (by rw[h0];omega)
theorem yY (l:List Nat)(h:j<=l.length):val l=val (l.take j)+bs ^ j*val (l.drop j):=by
 have:=jR l j
 rwa [Nat.min_eq_left h] at this
theorem QB {u0:List Nat}(hd:Dig l) (hl:l.length=u0.length) (hdr:l.drop (j+(n+1))=u0.drop (j+(n+1))) (hs:val (u0.drop (j+1))<bs ^ n) (hj:j+n<u0.length):val (l.drop j)<bs ^ (n+1):=by
 have h1:val (u0.drop (j+(n+1)))=0:=by
  have h2:=yY (u0.drop (j+1)) (j:=n) (by rw[List.length_drop];omega);rw[List.drop_drop] at h2;have e:j+1+n=j+(n+1):=by omega
  rw[e] at h2
  rcases Nat.eq_zero_or_pos (val (u0.drop (j+(n+1)))) with h3|h3
  ·exact h3
  ·have:=Nat.mul_le_mul_left (bs ^ n) h3;omega
 have h4:=yY (l.drop j) (j:=n+1) (by rw[List.length_drop];omega);rw[List.drop_drop,hdr,h1,Nat.mul_zero,Nat.add_zero] at h4;rw[h4];have h5:=jS ((hd.drop j).take (n+1));rw[List.length_take,List.length_drop] at h5;rw[Nat.min_eq_left (by omega)] at h5;exact h5
theorem wO {u0:List Nat}{t X:Nat}(hl:l.length=u0.length) (ht:l.take j=u0.take j) (hj:j<=u0.length) (h:val u0+bs ^ (j+n)*t=val l+bs ^ j*X):val (u0.drop j)+bs ^ n*t=val (l.drop j)+X:=by
 rw[yY u0 hj,yY l (j:=j) (by omega),ht,Nat.pow_add] at h
 have h2:bs ^ j*(val (u0.drop j)+bs ^ n*t)=bs ^ j*(val (l.drop j)+X):=by
  rw[Nat.mul_add,Nat.mul_add,<-Nat.mul_assoc];omega
 exact Nat.eq_of_mul_eq_mul_left (Nat.pow_pos qV) h2
theorem VB {u0 v:List Nat}{z V:Nat}(h:MS u0 l v j g (n+1) 0) (hv:v.length=n) (hV:val v=V) (hz:val (u0.drop j)=z) (hj:j+n<u0.length) (hV0:0<V) (hg:z / V<=g) :
  val (l.drop j)<V/\val u0=val l+bs ^ j*(g*V):=by
 obtain⟨h1,h2,h3,h4,h5⟩:=h;rw[qG (by omega),hV,Nat.mul_zero,Nat.add_zero] at h5;have h6:=wO (n:=0) (t:=0) h1 h3 (by omega) (by simpa using h5);rw[hz] at h6;refine⟨?_,h5⟩
 have h7:z<(g+1)*V:=by
  have:=Nat.lt_div_mul_add hV0 (a:=z);have:=Nat.mul_le_mul_right V hg;rw[Nat.add_mul,Nat.one_mul];omega
 rw[Nat.add_mul,Nat.one_mul] at h7;omega
theorem q14 {u0 l1 v:List Nat}{z V:Nat}(h:MS u0 l1 v j g (n+1) 1) (h':AB l1 l v j (n+1) c) (hv:v.length=n) (hV:val v=V) (hz:val (u0.drop j)=z) (hj:j+n<u0.length) (hs:val (u0.drop (j+1))<V) (hVn:V<=bs ^ n) (hV0:0<V) (hg:g<=z / V+1) (hc:c<=1) :
  1<=g/\val (l.drop j)<V/\val u0=val l+bs ^ j*((g-1)*V):=by
 obtain⟨h1,h2,h3,h4,h5⟩:=h;obtain⟨k1,k2,k3,k4,k5⟩:=h';rw[qG (by omega),hV] at h5 k5;have a1:=QB h2 h1 h4 (Nat.lt_of_lt_of_le hs hVn) hj;have a2:=QB k2 (k1.trans h1) (k4.trans h4) (Nat.lt_of_lt_of_le hs hVn) hj;have b1:=wO (n:=n+1) (t:=1) h1 h3 (by omega) h5;have b2:=wO (u0:=l) (l:=l1) (n:=n+1) (t:=c) k1.symm k3.symm (by omega) k5;rw[hz,Nat.mul_one] at b1
 have hg1:1<=g:=by
  rcases Nat.eq_zero_or_pos g with h0|h0
  ·rw[h0] at b1;omega
  ·exact h0
 obtain⟨k,rfl⟩:∃k,g=k+1:=⟨g-1,by omega⟩
 have c1:k*V<=z:=(Nat.le_div_iff_mul_le hV0).1 (by omega);rw[Nat.add_mul,Nat.one_mul] at b1 h5
 have hc1:c=1:=by
  rcases Nat.eq_zero_or_pos c with h0|h0
  ·rw[h0] at b2;omega
  ·omega
 subst hc1;rw[Nat.mul_one] at b2 k5 h5;refine⟨by omega,by omega,?_⟩;rw[Nat.add_sub_cancel];rw[Nat.mul_add] at h5;omega
theorem Jg {z V nn r v1 v2 u2:Nat}(hV0:0<V) (hV2:V / bs ^ (nn-2)=v1*bs+v2) (hZ3:z / bs ^ (nn-2)=z / bs ^ (nn-1)*bs+u2) (hT:g*v1+r=z / bs ^ (nn-1)) (h1:1<=v1) (hg:g<bs) (ht:g*v2<=r*bs+u2):g<=z / V+1:=by
 refine q0Z (M:=bs ^ (nn-2)) (Nat.pow_pos qV) hV0 ?_ ?_
 ·rw[hV2,hZ3,<-hT];exact Xh.1 ht
 ·rw[hV2];have:=Nat.mul_le_mul_right bs h1;omega
theorem Xi {z V nn r v1 v2 u2:Nat}(hV0:0<V) (hz:z<V*bs) (hV2:V / bs ^ (nn-2)=v1*bs+v2) (hZ3:z / bs ^ (nn-2)=z / bs ^ (nn-1)*bs+u2) (hT:g*v1+r=z / bs ^ (nn-1)) (h:bs<=g\/r*bs+u2<g*v2):z / V<=g-1:=by
 rcases h with h|h
 ·have:z / V<bs:=(Nat.div_lt_iff_lt_mul hV0).2 (by rw[Nat.mul_comm];exact hz);omega
 ·have:z / V<g:=by
   refine q2W (M:=bs ^ (nn-2)) (Nat.pow_pos qV) hV0 ?_;rw[hV2,hZ3,<-hT]
   rcases Nat.lt_or_ge ((g*v1+r)*bs+u2) (g*(v1*bs+v2)) with h1|h1
   ·exact h1
   ·have:=Xh.2 h1;omega
  omega
theorem YD {r v1 v2 u2 T:Nat}(hT:g*v1+r=T) (hTb:T<(v1+1)*bs) (hr:bs<=r) (hv2:v2<bs):g<bs/\g*v2<=r*bs+u2:=by
 have h1:g*v1<bs*v1:=by
  rw[Nat.add_mul,Nat.one_mul,Nat.mul_comm v1 bs] at hTb;omega
 have h2:g<bs:=Nat.lt_of_mul_lt_mul_right h1;refine⟨h2,?_⟩;have h3:g*v2<=bs*bs:=Nat.mul_le_mul (Nat.le_of_lt h2) (Nat.le_of_lt hv2);have h4:bs*bs<=r*bs:=Nat.mul_le_mul_right bs hr;omega
theorem WW {V Q Q' L L' X P:Nat}(hq:Q'+P*0=Q+P*g) (hl:L=L'+P*(g*V)) (h:V*Q+L=X):V*Q'+L'=X:=by
 rw[Nat.mul_zero,Nat.add_zero] at hq;rw[hq,Nat.mul_add,<-h,hl,<-Nat.mul_assoc V P g,Nat.mul_comm V P,Nat.mul_assoc P V g,Nat.mul_comm V g];omega
theorem q3g(h:Dig l) (t:Nat):l[t]?.getD 0=val l / bs ^ t % bs:=by
 rcases Nat.lt_or_ge t l.length with ht|ht
 ·have h1:=yY l (j:=t) (by omega);have h2:=jS (h.take t);rw[List.length_take,Nat.min_eq_left (by omega)] at h2
  have h3:val l / bs ^ t=val (l.drop t):=by
   rw[h1,Nat.add_mul_div_left _ _ (Nat.pow_pos qV),Nat.div_eq_of_lt h2,Nat.zero_add]
  rw[h3,xR ht,zW ht];have h4:=h.get t;rw[Nat.add_mul_mod_self_left,Nat.mod_eq_of_lt h4]
 ·rw[List.getElem?_eq_none ht];have h2:=jS h;have h3:val l<bs ^ t:=Nat.lt_of_lt_of_le h2 (Nat.pow_le_pow_right qV ht);rw[Nat.div_eq_of_lt h3];rfl
theorem Jr(h:Dig l) (j t:Nat):l[j+t]?.getD 0=val (l.drop j) / bs ^ t % bs:=by
 rw[<-q3g (h.drop j),List.getElem?_drop]
theorem JU (z m:Nat):z / bs ^ m=z / bs ^ (m+1)*bs+z / bs ^ m % bs:=by
 rw[Nat.pow_succ,<-Nat.div_div_eq_div_mul,Nat.mul_comm];exact (Nat.div_add_mod _ _).symm
theorem q1D {V:Nat}(h:V<bs ^ (m+1)):V / bs ^ m % bs=V / bs ^ m:=by
 refine Nat.mod_eq_of_lt ?_;rw[Nat.div_lt_iff_lt_mul (Nat.pow_pos qV),Nat.mul_comm,<-Nat.pow_succ];exact h
end
end Go.Proofs.YtflhlobiipejeaaGreat
