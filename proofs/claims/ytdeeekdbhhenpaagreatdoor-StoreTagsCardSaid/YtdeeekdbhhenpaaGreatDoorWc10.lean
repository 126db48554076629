import Derived.Test.YtdeeekdbhhenpaaGreatDoorWc09
set_option linter.all false
set_option maxHeartbeats 8000000
set_option maxRecDepth 100000
namespace Go.Proofs.YtdeeekdbhhenpaaGreatDoor
open Go.RowKit
variable {w w':World} {n k g i base c b j:Nat} {v:Value} {A:Option Addr}
theorem zN:(Tryz.prog.info? 99).map (·.size)=some 7:=by kernel_rfl
theorem qP{t:TypeId}{x0 x1 x2 x3 x4 x5 x6:Value}(h:w.heap[g]?=some (.cells #[x0,x1,x2,x3,x4,x5,x6] t (0,0))):w.cell? ⟨g,0,none⟩=some x0/\w.cell? ⟨g,1,none⟩=some x1/\w.cell? ⟨g,2,none⟩=some x2/\w.cell? ⟨g,3,none⟩=some x3/\w.cell? ⟨g,4,none⟩=some x4/\w.cell? ⟨g,5,none⟩=some x5/\w.cell? ⟨g,6,none⟩=some x6 :=
 ⟨qj h 0,qj h 1,qj h 2,qj h 3,qj h 4,qj h 5,qj h 6⟩
theorem YN (w:World):(Instr.makeMap 97 none).run Tryz.prog w=.ok (.map (some w.heap.size)) (w.alloc (.map #[] 0)):=rfl
def q3f (w:World) (e:Ending) (w':World):Prop:=∃(a b c d:Int) (A:Option Addr) (n1 c1:Nat) (B:Option Addr) (n2 c2 g:Nat),e=.returned (.tuple #[.agg #[.int .i64 a,.int .i64 b,.int .i64 c,.int .i64 d,.slice A n1 c1,.slice B n2 c2,.map (some g)],.int .i64 1])/\Ext w w'
def q3e (s:Shf) (w:World) (e:Ending) (w':World):Prop:=∃(A:Option Addr) (c1:Nat) (B:Option Addr) (c2 g:Nat),e=.returned (.tuple #[.agg #[.int .i64 s.size,.int .i64 s.seq,.int .i64 s.half,.int .i64 s.used,.slice A s.objs.length c1,.slice B s.tags.length c2,.map (some g)],.int .i64 0])/\ObG w.heap.size w' (.slice A s.objs.length c1) s.objs/\MpS w' g (mpO 0 s.objs)/\w.heap.size<=g/\TgG w.heap.size w' (.slice B s.tags.length c2) s.tags/\Ext w w'
def q0E (s:Shf) (w:World) (e:Ending) (w':World):Prop:=(qE s=false/\q3f w e w')\/(qE s=true/\q3e s w e w')
theorem zy {s:Shf}(h:¬(8<=s.size/\s.size<=4096/\0<=s.seq/\s.seq<=2147483647/\0<=s.half/\s.half<=1/\s.used<=qV s.size)):qE s=false:=by
 have:headB s=false:=by
  cases h9:headB s with
  | false=>rfl
  | true =>
   unfold headB at h9;simp only[Bool.and_eq_true,decide_eq_true_eq] at h9;exact absurd ⟨h9.1,h9.2.1,h9.2.2.1,h9.2.2.2.1,h9.2.2.2.2.1,h9.2.2.2.2.2.1,h9.2.2.2.2.2.2⟩ h
 unfold qE;rw[this]
 rfl
theorem xX (o:Ob):∀(l:List Ob) (K:List Byt),wV K (l ++ [o])=(wV K l&&jy (K++l.map qM) o)
 | [],K=>by
  show (jy K o&&wV (K ++ [qM o]) [])=(true&&jy (K ++ []) o)
  rw[List.append_nil]
  show (jy K o&&true)=_
  rw[Bool.and_true,Bool.true_and]
 | p :: l,K=>by
  show (jy K p&&wV (K ++ [qM p]) (l ++ [o]))=((jy K p&&wV (K ++ [qM p]) l)&&jy (K++qM p :: l.map qM) o)
  rw[xX o l (K ++ [qM p]),Bool.and_assoc,List.append_assoc]
  rfl
theorem Z4:∀(a b:List Ob) (K:List Byt),wV K (a++b)=true->wV K a=true
 | [],b,K,_=>rfl
 | p :: a,b,K,h=>by
  have h':(jy K p&&wV (K ++ [qM p]) (a++b))=true:=h;rw[Bool.and_eq_true] at h'
  show (jy K p&&wV (K ++ [qM p]) a)=true
  rw[h'.1,Z4 a b _ h'.2]
  rfl
theorem take_snoc {α:Type}(l:List α) (d:α)(h:i<l.length):l.take (i+1)=l.take i ++ [l.getD i d]:=by
 rw[List.take_succ_eq_append_getElem h,List.getD_eq_getElem?_getD,List.getElem?_eq_getElem h]
 rfl
theorem QZ {s:Shf}(hi:i<s.objs.length) (h:wV [] (s.objs.take i)=true) (h2:jy ((s.objs.take i).map qM) (s.objs.getD i default)=false):qE s=false:=by
 have h3:wV [] (s.objs.take (i+1))=false:=by
  rw[take_snoc s.objs default hi,xX,h,List.nil_append,h2]
  rfl
 have h4:wV [] s.objs=false:=by
  cases h5:wV [] s.objs with
  | false=>rfl
  | true =>
   rw[<-List.take_append_drop (i+1) s.objs] at h5;rw[Z4 _ _ _ h5] at h3;cases h3
 unfold qE;rw[h4]
 simp
def pgO (l:List Ob):Nat:=(l.map fun o=>pgN (obE o)).sum
theorem J7 (l:List Ob) (o:Ob):pgO (l ++ [o])=pgO l+pgN (obE o):=by unfold pgO;rw[List.map_append,List.sum_append];simp
def pgT (l:List Tg):Nat:=(l.map fun t=>pgN (tgE t)).sum
theorem vH (l:List Tg) (t:Tg):pgT (l ++ [t])=pgT l+pgN (tgE t):=by unfold pgT;rw[List.map_append,List.sum_append];simp
theorem YV {o:Ob}(h:okO o):pgN (obE o)<=100/\(obE o).length<=4000:=by
 have h1:=(h.fits 0 (by omega) (by omega)).2;have h2:(obE o).length<=4000:=h1;refine⟨?_,h2⟩;unfold pgN;omega
theorem QC {t:Tg}(h:okT t):pgN (tgE t)<=100/\(tgE t).length<=1000:=by
 have h1:=(h.fits 1 (by omega) (by omega)).2;have h2:(tgE t).length<=1000:=h1;refine⟨?_,h2⟩;unfold pgN;omega
theorem Qi {K:List Byt}{o:Ob}(h:jy K o=true):okO o:=by
 unfold jy at h;rw[Bool.and_eq_true] at h;exact Ko (by simpa using h.1)
theorem jh:∀x y:List UInt8,Go.Op.bytesLess x y=!(Go.Op.bytesLess y x||y == x)
 | [],[]=>rfl
 | [],_ :: _=>rfl
 | _ :: _,[]=>rfl
 | a :: x,b :: y=>by
  have ih:=jh x y
  show (decide (a<b)||(a == b&&Go.Op.bytesLess x y))=!((decide (b<a)||(b == a&&Go.Op.bytesLess y x))||(b :: y == a :: x))
  rw[ih];have hc:(b :: y == a :: x)=(b == a&&y == x):=rfl;rw[hc]
  rcases Nat.lt_trichotomy a.toNat b.toNat with h|h|h
  ·have h1:a<b:=h;have h2:¬b<a:=fun h'=>by have:b.toNat<a.toNat:=h';omega
   have h3:(b == a)=false:=by simp;rintro rfl;omega
   have h4:(a == b)=false:=by simp;rintro rfl;omega
   simp[h1,h2,h3,h4]
  ·have h1:a=b:=UInt8.toNat_inj.1 h;subst h1;have h2:¬a<a:=fun h'=>by have:a.toNat<a.toNat:=h';omega
   simp[h2]
  ·have h1:b<a:=h;have h2:¬a<b:=fun h'=>by have:a.toNat<b.toNat:=h';omega
   have h3:(b == a)=false:=by simp;rintro rfl;omega
   have h4:(a == b)=false:=by simp;rintro rfl;omega
   simp[h1,h2,h3,h4]
def ltP (p:Option Byt) (n:Byt):Bool:=match p with|none=>true|some q=>Go.Op.bytesLess q n
def xI (K:List Byt) (p:Option Byt) (t:Tg):Bool:=Xr t.name&&(K.contains t.target&&ltP p t.name)
theorem xK (K:List Byt) (p:Option Byt) (t:Tg) (l:List Tg):ZB K p (t :: l)=(Xr t.name&&(K.contains t.target&&(ltP p t.name&&ZB K (some t.name) l))):=rfl
def lastT (p:Option Byt):List Tg->Option Byt
 | []=>p
 | t :: l=>lastT (some t.name) l
theorem kV (K:List Byt) (t:Tg):∀(l:List Tg) (p:Option Byt),ZB K p (l ++ [t])=(ZB K p l&&xI K (lastT p l) t)
 | [],p=>by
  rw[List.nil_append,xK]
  show (Xr t.name&&(K.contains t.target&&(ltP p t.name&&true)))=(true&&xI K p t)
  rw[Bool.true_and,Bool.and_true]
  rfl
 | u :: l,p=>by
  rw[List.cons_append,xK,xK,kV K t l (some u.name)]
  show _=(_&&xI K (lastT (some u.name) l) t)
  simp only[Bool.and_assoc]
theorem XP (K:List Byt):∀(a b:List Tg) (p:Option Byt),ZB K p (a++b)=true->ZB K p a=true
 | [],b,p,_=>rfl
 | u :: a,b,p,h=>by
  rw[List.cons_append,xK] at h;rw[xK];simp only[Bool.and_eq_true] at h ⊢;exact⟨h.1,h.2.1,h.2.2.1,XP K a b _ h.2.2.2⟩
theorem QE (t:Tg):∀(l:List Tg) (p:Option Byt),lastT p (l ++ [t])=some t.name
 | [],p=>rfl
 | u :: l,p=>QE t l (some u.name)
theorem ji (l:List Tg)(h:i<=l.length):lastT none (l.take i)=if i=0 then none else some (l.getD (i-1) default).name:=by
 cases i with
 | zero=>rfl
 | succ j=>rw[take_snoc l default (by omega),QE,if_neg (by omega)];rfl
theorem yz {s:Shf}(hi:i<s.tags.length) (h2:xI (xY s) (lastT none (s.tags.take i)) (s.tags.getD i default)=false):qE s=false:=by
 have h4:ZB (xY s) none s.tags=false:=by
  cases h5:ZB (xY s) none s.tags with
  | false=>rfl
  | true =>
   rw[<-List.take_append_drop (i+1) s.tags] at h5;have h6:=XP _ _ _ _ h5;rw[take_snoc s.tags default hi,kV,h2,Bool.and_false] at h6;cases h6
 unfold qE;rw[h4]
 simp
theorem yJ.at_{l:List Ob}(h:yJ w (.slice A n c) l) (hn:n=l.length) (h0:0<n):∃g off,A=some ⟨g,off,none⟩/\∀i,i<n->∃A1 n1 c1 A2 n2 c2,w.cell? ⟨g,off+i*2,none⟩=some (.slice A1 n1 c1)/\w.cell? ⟨g,off+i*2+1,none⟩=some (.slice A2 n2 c2)/\ObR w (.slice A1 n1 c1) (.slice A2 n2 c2) (l.getD i default):=by
 subst hn;obtain⟨g,off,h1,h2⟩:=KY.addr h h0;refine⟨g,off,h1,fun i hi=>?_⟩;obtain⟨x,y,h3,h4,h5⟩:=h2 i hi;obtain⟨A1,c1,rfl,-⟩:=h5.1.form;obtain⟨A2,c2,rfl,-⟩:=h5.2.form;exact⟨_,_,_,_,_,_,h3,h4,h5⟩
theorem yJ.len{l:List Ob}(h:yJ w (.slice A n c) l):n=l.length/\n<=c:=by
 obtain⟨A',c',h1,h2,-⟩:=h;obtain⟨-,e1,e2⟩:=Value.slice.inj h1;omega
theorem jK.len{l:List Tg}(h:jK w (.slice A n c) l):n=l.length/\n<=c:=by
 obtain⟨A',c',h1,h2,-⟩:=h;obtain⟨-,e1,e2⟩:=Value.slice.inj h1;omega
theorem wJ (HTX:x9){s:Shf}{A1 A2:Option Addr}{n1 c1 n2 c2:Nat}(hO:yJ w (.slice A1 n1 c1) s.objs) (hT:jK w (.slice A2 n2 c2) s.tags) (hok:∀i,i<s.objs.length->Ok0 (s.objs.getD i default)) (htk:∀i,i<s.tags.length->okT (s.tags.getD i default)) (hno:s.objs.length<=1000) (hnt:s.tags.length<=1000) (htb:kG w) :
  Calls Tryz.prog 58 #[.agg #[.int .i64 s.size,.int .i64 s.seq,.int .i64 s.half,.int .i64 s.used,.slice A1 n1 c1,.slice A2 n2 c2]] w (q0E s w):=by
 obtain⟨size,hsize⟩:=qf s.size;obtain⟨seq,hseq⟩:=qf s.seq;obtain⟨half,hhalf⟩:=qf s.half;obtain⟨used,hused⟩:=qf s.used;rw[<-hsize.out,<-hseq.out,<-hhalf.out,<-hused.out];obtain⟨R,hR⟩:=qf (q0E s w);rw[<-hR.out];have HO:=q_h hO;have HT:=q_h hT;have HOK:=q_h hok;have HTK:=q_h htk;have HTB:=q_h htb;have hn1:=hO.len;have hn2:=hT.len;have hn1c:=hn1.2;have hn2c:=hn2.2;have HN1:=q_h hn1.1;have HN2:=q_h hn2.1;have hb1:n1<=1000:=by omega
 have hb2:n2<=1000:=by omega
 clear hO hT hok htk htb hn1 hn2;have hmk:=YN;go_enter Tryz.func58,Tryz.ntmps58;go_upto_region 2 with (fail);refine q2U ?_;intro W hE hsz B0 B1 B2 B3;have HB0:=q_h B0;have HB1:=q_h B1;have HB2:=q_h B2;have HB3:=q_h B3;have HX:=q_h hE;obtain⟨p0,p1,p2,p3,p4,p5⟩:=qw B0;clear B0 B1 B2 B3 hE hmk
 by_cases hc0:size<8
 ·have d0:decide (size<8)=true:=q_t hc0;have eC:=(Ext.refl W).drew;refine ql (fun w'=>w'.cell? ⟨w.heap.size,0,none⟩=some (.int .i64 size)/\w'.cell? ⟨w.heap.size,1,none⟩=some (.int .i64 seq)/\w'.cell? ⟨w.heap.size,2,none⟩=some (.int .i64 half)/\w'.cell? ⟨w.heap.size,3,none⟩=some (.int .i64 used)) [] (by kernel_rfl) (by exact⟨eC.cell p0,eC.cell p1,eC.cell p2,eC.cell p3⟩) (fun hHeld=>?_);refine sP 0 (h:=?_);refine sT 1 (h:=?_);refine sP 2 (h:=?_);refine sP 3 (h:=?_);refine sF 4 (h:=?_);refine sF 5 (h:=?_);refine sF 6 (h:=?_);refine sP 7 (h:=?_);refine sP 8 (h:=?_);refine sF 9 (h:=?_);refine sF 10 (h:=?_);refine sF 11 (h:=?_);refine sP 12 (h:=?_);refine sP 13 (h:=?_);refine sF 14 (h:=?_);refine sF 15 (h:=?_);refine sF 16 (h:=?_);refine sP 17 (h:=?_);refine sP 18 (h:=?_);refine sF 19 (h:=?_);refine sF 20 (h:=?_);refine sF 21 (h:=?_);refine sP 22 (h:=?_);refine sP 23 (h:=?_);refine sF 24 (h:=?_);refine sF 25 (h:=?_);refine sF 26 (h:=?_);refine sP 27 (h:=?_);refine sP 28 (h:=?_);refine sF 29 (h:=?_);refine sF 30 (h:=?_);refine sF 31 (h:=?_);refine sF 32 (h:=?_);refine sF 33 (h:=?_);refine sF 34 (h:=?_);refine sP 35 (h:=?_);refine qm (by kernel_rfl) ?_ _;clear hHeld;have HVB:Hid (qE s=false):=zy (by rw[<-hsize.out,<-hseq.out,<-hhalf.out,<-hused.out];generalize qV size=h9;omega);have HX9:=q_h (HX.out.trans eC);have HB9:=q_h (eC.block HB3.out)
  have HR9:=q_h (eC.block HB1.out);clear eC p0 p1 p2 p3;go_upto_region 3 with (fail);obtain⟨k0,k1,k2,k3,k4,k5,k6⟩:=qP HB9.out;refine wp_region_lit ?_;refine wpList_plain rfl (fun K hK=>?_);go_simp;refine hK _ _ ?_;clear hK K;try simp only[nr]
  refine qh rfl 99 _ _ rfl (by rfl) (by rfl) HR9.out zN (by rfl) (by rfl) (by rfl) ?_;intro w9 B9 U9;obtain⟨x0,x1,x2,x3,x4,x5,x6⟩:=qP B9;go_wp2;refine bodyPost_ret (v:=.tuple #[.agg #[.int .i64 size,.int .i64 seq,.int .i64 half,.int .i64 used,.slice none 0 0,.slice none 0 0,.map (some (w.heap.size+1+1))],.int .i64 1]) ?_ rfl ?_
  ·simp[results,x0,x1,x2,x3,x4,x5,x6,go_sem]
  ·rw[hR.out];exact .inl ⟨HVB.out,_,_,_,_,_,_,_,_,_,_,_,rfl,(U9.chg (NoU.mk HR9.out (by decide))).ext HX9.out (by omega)⟩
 have d0:decide (size<8)=false:=q_f hc0
 by_cases hc1:4096<size
 ·have d1:decide (4096<size)=true:=q_t hc1;have eC:=(Ext.refl W).drew;refine ql (fun w'=>w'.cell? ⟨w.heap.size,0,none⟩=some (.int .i64 size)/\w'.cell? ⟨w.heap.size,1,none⟩=some (.int .i64 seq)/\w'.cell? ⟨w.heap.size,2,none⟩=some (.int .i64 half)/\w'.cell? ⟨w.heap.size,3,none⟩=some (.int .i64 used)) [] (by kernel_rfl) (by exact⟨eC.cell p0,eC.cell p1,eC.cell p2,eC.cell p3⟩) (fun hHeld=>?_);refine sP 0 (h:=?_);refine sT 1 (h:=?_);refine sP 2 (h:=?_);refine sP 3 (h:=?_);refine sP 4 (h:=?_);refine sT 5 (h:=?_);refine sP 6 (h:=?_);refine sP 7 (h:=?_);refine sP 8 (h:=?_);refine sF 9 (h:=?_);refine sF 10 (h:=?_);refine sF 11 (h:=?_);refine sP 12 (h:=?_);refine sP 13 (h:=?_);refine sF 14 (h:=?_);refine sF 15 (h:=?_);refine sF 16 (h:=?_);refine sP 17 (h:=?_);refine sP 18 (h:=?_);refine sF 19 (h:=?_);refine sF 20 (h:=?_);refine sF 21 (h:=?_);refine sP 22 (h:=?_);refine sP 23 (h:=?_);refine sF 24 (h:=?_);refine sF 25 (h:=?_);refine sF 26 (h:=?_);refine sP 27 (h:=?_);refine sP 28 (h:=?_);refine sF 29 (h:=?_);refine sF 30 (h:=?_);refine sF 31 (h:=?_);refine sF 32 (h:=?_);refine sF 33 (h:=?_);refine sF 34 (h:=?_);refine sP 35 (h:=?_);refine qm (by kernel_rfl) ?_ _;clear hHeld;have HVB:Hid (qE s=false):=zy (by rw[<-hsize.out,<-hseq.out,<-hhalf.out,<-hused.out];generalize qV size=h9;omega);have HX9:=q_h (HX.out.trans eC);have HB9:=q_h (eC.block HB3.out)
  have HR9:=q_h (eC.block HB1.out);clear eC p0 p1 p2 p3;go_upto_region 3 with (fail);obtain⟨k0,k1,k2,k3,k4,k5,k6⟩:=qP HB9.out;refine wp_region_lit ?_;refine wpList_plain rfl (fun K hK=>?_);go_simp;refine hK _ _ ?_;clear hK K;try simp only[nr]
  refine qh rfl 99 _ _ rfl (by rfl) (by rfl) HR9.out zN (by rfl) (by rfl) (by rfl) ?_;intro w9 B9 U9;obtain⟨x0,x1,x2,x3,x4,x5,x6⟩:=qP B9;go_wp2;refine bodyPost_ret (v:=.tuple #[.agg #[.int .i64 size,.int .i64 seq,.int .i64 half,.int .i64 used,.slice none 0 0,.slice none 0 0,.map (some (w.heap.size+1+1))],.int .i64 1]) ?_ rfl ?_
  ·simp[results,x0,x1,x2,x3,x4,x5,x6,go_sem]
  ·rw[hR.out];exact .inl ⟨HVB.out,_,_,_,_,_,_,_,_,_,_,_,rfl,(U9.chg (NoU.mk HR9.out (by decide))).ext HX9.out (by omega)⟩
 have d1:decide (4096<size)=false:=q_f hc1
 by_cases hc2:seq<0
 ·have d2:decide (seq<0)=true:=q_t hc2;have eC:=(Ext.refl W).drew;refine ql (fun w'=>w'.cell? ⟨w.heap.size,0,none⟩=some (.int .i64 size)/\w'.cell? ⟨w.heap.size,1,none⟩=some (.int .i64 seq)/\w'.cell? ⟨w.heap.size,2,none⟩=some (.int .i64 half)/\w'.cell? ⟨w.heap.size,3,none⟩=some (.int .i64 used)) [] (by kernel_rfl) (by exact⟨eC.cell p0,eC.cell p1,eC.cell p2,eC.cell p3⟩) (fun hHeld=>?_);refine sP 0 (h:=?_);refine sT 1 (h:=?_);refine sP 2 (h:=?_);refine sP 3 (h:=?_);refine sP 4 (h:=?_);refine sT 5 (h:=?_);refine sP 6 (h:=?_);refine sP 7 (h:=?_);refine sP 8 (h:=?_);refine sP 9 (h:=?_);refine sT 10 (h:=?_);refine sP 11 (h:=?_);refine sP 12 (h:=?_);refine sP 13 (h:=?_);refine sF 14 (h:=?_);refine sF 15 (h:=?_);refine sF 16 (h:=?_);refine sP 17 (h:=?_);refine sP 18 (h:=?_);refine sF 19 (h:=?_);refine sF 20 (h:=?_);refine sF 21 (h:=?_);refine sP 22 (h:=?_);refine sP 23 (h:=?_);refine sF 24 (h:=?_);refine sF 25 (h:=?_);refine sF 26 (h:=?_);refine sP 27 (h:=?_);refine sP 28 (h:=?_);refine sF 29 (h:=?_);refine sF 30 (h:=?_);refine sF 31 (h:=?_);refine sF 32 (h:=?_);refine sF 33 (h:=?_);refine sF 34 (h:=?_);refine sP 35 (h:=?_);refine qm (by kernel_rfl) ?_ _;clear hHeld;have HVB:Hid (qE s=false):=zy (by rw[<-hsize.out,<-hseq.out,<-hhalf.out,<-hused.out];generalize qV size=h9;omega);have HX9:=q_h (HX.out.trans eC);have HB9:=q_h (eC.block HB3.out)
  have HR9:=q_h (eC.block HB1.out);clear eC p0 p1 p2 p3;go_upto_region 3 with (fail);obtain⟨k0,k1,k2,k3,k4,k5,k6⟩:=qP HB9.out;refine wp_region_lit ?_;refine wpList_plain rfl (fun K hK=>?_);go_simp;refine hK _ _ ?_;clear hK K;try simp only[nr]
  refine qh rfl 99 _ _ rfl (by rfl) (by rfl) HR9.out zN (by rfl) (by rfl) (by rfl) ?_;intro w9 B9 U9;obtain⟨x0,x1,x2,x3,x4,x5,x6⟩:=qP B9;go_wp2;refine bodyPost_ret (v:=.tuple #[.agg #[.int .i64 size,.int .i64 seq,.int .i64 half,.int .i64 used,.slice none 0 0,.slice none 0 0,.map (some (w.heap.size+1+1))],.int .i64 1]) ?_ rfl ?_
  ·simp[results,x0,x1,x2,x3,x4,x5,x6,go_sem]
  ·rw[hR.out];exact .inl ⟨HVB.out,_,_,_,_,_,_,_,_,_,_,_,rfl,(U9.chg (NoU.mk HR9.out (by decide))).ext HX9.out (by omega)⟩
 have d2:decide (seq<0)=false:=q_f hc2
 by_cases hc3:2147483647<seq
 ·have d3:decide (2147483647<seq)=true:=q_t hc3;have eC:=(Ext.refl W).drew;refine ql (fun w'=>w'.cell? ⟨w.heap.size,0,none⟩=some (.int .i64 size)/\w'.cell? ⟨w.heap.size,1,none⟩=some (.int .i64 seq)/\w'.cell? ⟨w.heap.size,2,none⟩=some (.int .i64 half)/\w'.cell? ⟨w.heap.size,3,none⟩=some (.int .i64 used)) [] (by kernel_rfl) (by exact⟨eC.cell p0,eC.cell p1,eC.cell p2,eC.cell p3⟩) (fun hHeld=>?_);refine sP 0 (h:=?_);refine sT 1 (h:=?_);refine sP 2 (h:=?_);refine sP 3 (h:=?_);refine sP 4 (h:=?_);refine sT 5 (h:=?_);refine sP 6 (h:=?_);refine sP 7 (h:=?_);refine sP 8 (h:=?_);refine sP 9 (h:=?_);refine sT 10 (h:=?_);refine sP 11 (h:=?_);refine sP 12 (h:=?_);refine sP 13 (h:=?_);refine sP 14 (h:=?_);refine sT 15 (h:=?_);refine sP 16 (h:=?_);refine sP 17 (h:=?_);refine sP 18 (h:=?_);refine sF 19 (h:=?_);refine sF 20 (h:=?_);refine sF 21 (h:=?_);refine sP 22 (h:=?_);refine sP 23 (h:=?_);refine sF 24 (h:=?_);refine sF 25 (h:=?_);refine sF 26 (h:=?_);refine sP 27 (h:=?_);refine sP 28 (h:=?_);refine sF 29 (h:=?_);refine sF 30 (h:=?_);refine sF 31 (h:=?_);refine sF 32 (h:=?_);refine sF 33 (h:=?_);refine sF 34 (h:=?_);refine sP 35 (h:=?_);refine qm (by kernel_rfl) ?_ _;clear hHeld;have HVB:Hid (qE s=false):=zy (by rw[<-hsize.out,<-hseq.out,<-hhalf.out,<-hused.out];generalize qV size=h9;omega);have HX9:=q_h (HX.out.trans eC);have HB9:=q_h (eC.block HB3.out)
  have HR9:=q_h (eC.block HB1.out);clear eC p0 p1 p2 p3;go_upto_region 3 with (fail);obtain⟨k0,k1,k2,k3,k4,k5,k6⟩:=qP HB9.out;refine wp_region_lit ?_;refine wpList_plain rfl (fun K hK=>?_);go_simp;refine hK _ _ ?_;clear hK K;try simp only[nr]
  refine qh rfl 99 _ _ rfl (by rfl) (by rfl) HR9.out zN (by rfl) (by rfl) (by rfl) ?_;intro w9 B9 U9;obtain⟨x0,x1,x2,x3,x4,x5,x6⟩:=qP B9;go_wp2;refine bodyPost_ret (v:=.tuple #[.agg #[.int .i64 size,.int .i64 seq,.int .i64 half,.int .i64 used,.slice none 0 0,.slice none 0 0,.map (some (w.heap.size+1+1))],.int .i64 1]) ?_ rfl ?_
  ·simp[results,x0,x1,x2,x3,x4,x5,x6,go_sem]
  ·rw[hR.out];exact .inl ⟨HVB.out,_,_,_,_,_,_,_,_,_,_,_,rfl,(U9.chg (NoU.mk HR9.out (by decide))).ext HX9.out (by omega)⟩
 have d3:decide (2147483647<seq)=false:=q_f hc3
 by_cases hc4:half<0
 ·have d4:decide (half<0)=true:=q_t hc4;have eC:=(Ext.refl W).drew;refine ql (fun w'=>w'.cell? ⟨w.heap.size,0,none⟩=some (.int .i64 size)/\w'.cell? ⟨w.heap.size,1,none⟩=some (.int .i64 seq)/\w'.cell? ⟨w.heap.size,2,none⟩=some (.int .i64 half)/\w'.cell? ⟨w.heap.size,3,none⟩=some (.int .i64 used)) [] (by kernel_rfl) (by exact⟨eC.cell p0,eC.cell p1,eC.cell p2,eC.cell p3⟩) (fun hHeld=>?_);refine sP 0 (h:=?_);refine sT 1 (h:=?_);refine sP 2 (h:=?_);refine sP 3 (h:=?_);refine sP 4 (h:=?_);refine sT 5 (h:=?_);refine sP 6 (h:=?_);refine sP 7 (h:=?_);refine sP 8 (h:=?_);refine sP 9 (h:=?_);refine sT 10 (h:=?_);refine sP 11 (h:=?_);refine sP 12 (h:=?_);refine sP 13 (h:=?_);refine sP 14 (h:=?_);refine sT 15 (h:=?_);refine sP 16 (h:=?_);refine sP 17 (h:=?_);refine sP 18 (h:=?_);refine sP 19 (h:=?_);refine sT 20 (h:=?_);refine sP 21 (h:=?_);refine sP 22 (h:=?_);refine sP 23 (h:=?_);refine sF 24 (h:=?_);refine sF 25 (h:=?_);refine sF 26 (h:=?_);refine sP 27 (h:=?_);refine sP 28 (h:=?_);refine sF 29 (h:=?_);refine sF 30 (h:=?_);refine sF 31 (h:=?_);refine sF 32 (h:=?_);refine sF 33 (h:=?_);refine sF 34 (h:=?_);refine sP 35 (h:=?_);refine qm (by kernel_rfl) ?_ _;clear hHeld;have HVB:Hid (qE s=false):=zy (by rw[<-hsize.out,<-hseq.out,<-hhalf.out,<-hused.out];generalize qV size=h9;omega);have HX9:=q_h (HX.out.trans eC);have HB9:=q_h (eC.block HB3.out)
  have HR9:=q_h (eC.block HB1.out);clear eC p0 p1 p2 p3;go_upto_region 3 with (fail);obtain⟨k0,k1,k2,k3,k4,k5,k6⟩:=qP HB9.out;refine wp_region_lit ?_;refine wpList_plain rfl (fun K hK=>?_);go_simp;refine hK _ _ ?_;clear hK K;try simp only[nr]
  refine qh rfl 99 _ _ rfl (by rfl) (by rfl) HR9.out zN (by rfl) (by rfl) (by rfl) ?_;intro w9 B9 U9;obtain⟨x0,x1,x2,x3,x4,x5,x6⟩:=qP B9;go_wp2;refine bodyPost_ret (v:=.tuple #[.agg #[.int .i64 size,.int .i64 seq,.int .i64 half,.int .i64 used,.slice none 0 0,.slice none 0 0,.map (some (w.heap.size+1+1))],.int .i64 1]) ?_ rfl ?_
  ·simp[results,x0,x1,x2,x3,x4,x5,x6,go_sem]
  ·rw[hR.out];exact .inl ⟨HVB.out,_,_,_,_,_,_,_,_,_,_,_,rfl,(U9.chg (NoU.mk HR9.out (by decide))).ext HX9.out (by omega)⟩
 have d4:decide (half<0)=false:=q_f hc4
 by_cases hc5:1<half
 ·have d5:decide (1<half)=true:=q_t hc5;have eC:=(Ext.refl W).drew;refine ql (fun w'=>w'.cell? ⟨w.heap.size,0,none⟩=some (.int .i64 size)/\w'.cell? ⟨w.heap.size,1,none⟩=some (.int .i64 seq)/\w'.cell? ⟨w.heap.size,2,none⟩=some (.int .i64 half)/\w'.cell? ⟨w.heap.size,3,none⟩=some (.int .i64 used)) [] (by kernel_rfl) (by exact⟨eC.cell p0,eC.cell p1,eC.cell p2,eC.cell p3⟩) (fun hHeld=>?_);refine sP 0 (h:=?_);refine sT 1 (h:=?_);refine sP 2 (h:=?_);refine sP 3 (h:=?_);refine sP 4 (h:=?_);refine sT 5 (h:=?_);refine sP 6 (h:=?_);refine sP 7 (h:=?_);refine sP 8 (h:=?_);refine sP 9 (h:=?_);refine sT 10 (h:=?_);refine sP 11 (h:=?_);refine sP 12 (h:=?_);refine sP 13 (h:=?_);refine sP 14 (h:=?_);refine sT 15 (h:=?_);refine sP 16 (h:=?_);refine sP 17 (h:=?_);refine sP 18 (h:=?_);refine sP 19 (h:=?_);refine sT 20 (h:=?_);refine sP 21 (h:=?_);refine sP 22 (h:=?_);refine sP 23 (h:=?_);refine sP 24 (h:=?_);refine sT 25 (h:=?_);refine sP 26 (h:=?_);refine sP 27 (h:=?_);refine sP 28 (h:=?_);refine sF 29 (h:=?_);refine sF 30 (h:=?_);refine sF 31 (h:=?_);refine sF 32 (h:=?_);refine sF 33 (h:=?_);refine sF 34 (h:=?_);refine sP 35 (h:=?_);refine qm (by kernel_rfl) ?_ _;clear hHeld;have HVB:Hid (qE s=false):=zy (by rw[<-hsize.out,<-hseq.out,<-hhalf.out,<-hused.out];generalize qV size=h9;omega);have HX9:=q_h (HX.out.trans eC);have HB9:=q_h (eC.block HB3.out)
  have HR9:=q_h (eC.block HB1.out);clear eC p0 p1 p2 p3;go_upto_region 3 with (fail);obtain⟨k0,k1,k2,k3,k4,k5,k6⟩:=qP HB9.out;refine wp_region_lit ?_;refine wpList_plain rfl (fun K hK=>?_);go_simp;refine hK _ _ ?_;clear hK K;try simp only[nr]
  refine qh rfl 99 _ _ rfl (by rfl) (by rfl) HR9.out zN (by rfl) (by rfl) (by rfl) ?_;intro w9 B9 U9;obtain⟨x0,x1,x2,x3,x4,x5,x6⟩:=qP B9;go_wp2;refine bodyPost_ret (v:=.tuple #[.agg #[.int .i64 size,.int .i64 seq,.int .i64 half,.int .i64 used,.slice none 0 0,.slice none 0 0,.map (some (w.heap.size+1+1))],.int .i64 1]) ?_ rfl ?_
  ·simp[results,x0,x1,x2,x3,x4,x5,x6,go_sem]
  ·rw[hR.out];exact .inl ⟨HVB.out,_,_,_,_,_,_,_,_,_,_,_,rfl,(U9.chg (NoU.mk HR9.out (by decide))).ext HX9.out (by omega)⟩
 have d5:decide (1<half)=false:=q_f hc5;obtain⟨h,hh⟩:=qf (qV size)
 by_cases hc6:h<used
 ·have d6:decide (h<used)=true:=q_t hc6;have eC:=(Ext.refl W).drew;refine ql (fun w'=>w'.cell? ⟨w.heap.size,0,none⟩=some (.int .i64 size)/\w'.cell? ⟨w.heap.size,1,none⟩=some (.int .i64 seq)/\w'.cell? ⟨w.heap.size,2,none⟩=some (.int .i64 half)/\w'.cell? ⟨w.heap.size,3,none⟩=some (.int .i64 used)) [] (by kernel_rfl) (by exact⟨eC.cell p0,eC.cell p1,eC.cell p2,eC.cell p3⟩) (fun hHeld=>?_);refine sP 0 (h:=?_);refine sT 1 (h:=?_);refine sP 2 (h:=?_);refine sP 3 (h:=?_);refine sP 4 (h:=?_);refine sT 5 (h:=?_);refine sP 6 (h:=?_);refine sP 7 (h:=?_);refine sP 8 (h:=?_);refine sP 9 (h:=?_);refine sT 10 (h:=?_);refine sP 11 (h:=?_);refine sP 12 (h:=?_);refine sP 13 (h:=?_);refine sP 14 (h:=?_);refine sT 15 (h:=?_);refine sP 16 (h:=?_);refine sP 17 (h:=?_);refine sP 18 (h:=?_);refine sP 19 (h:=?_);refine sT 20 (h:=?_);refine sP 21 (h:=?_);refine sP 22 (h:=?_);refine sP 23 (h:=?_);refine sP 24 (h:=?_);refine sT 25 (h:=?_);refine sP 26 (h:=?_);refine sP 27 (h:=?_);refine sP 28 (h:=?_);refine sP 29 (h:=?_);refine sT 30 (h:=?_);refine sP 31 (h:=?_);refine sT 32 (h:=?_);refine qg (i:=33) rfl (by kernel_rfl) (fun K hK=>?_);rw[if_pos (by rfl)];go_simp;refine (jO (by omega) (by omega) h hh.out _).mono ?_;rintro e w3 ⟨rfl,e3⟩;replace eC:=eC.trans e3;go_wp2_with fail;clear hHeld;refine hK.out _ _ (by exact⟨eC.cell p0,eC.cell p1,eC.cell p2,eC.cell p3⟩) fun hHeld=>?_
  clear hK K;try simp only[nr]
  refine sP 34 (h:=?_);refine sP 35 (h:=?_);refine qm (by kernel_rfl) ?_ _;clear hHeld;have HVB:Hid (qE s=false):=zy (by rw[<-hsize.out,<-hseq.out,<-hhalf.out,<-hused.out];rw[<-hh.out];omega);have HX9:=q_h (HX.out.trans eC);have HB9:=q_h (eC.block HB3.out);have HR9:=q_h (eC.block HB1.out);clear eC p0 p1 p2 p3 e3;go_upto_region 3 with (fail);obtain⟨k0,k1,k2,k3,k4,k5,k6⟩:=qP HB9.out;refine wp_region_lit ?_;refine wpList_plain rfl (fun K hK=>?_);go_simp;refine hK _ _ ?_;clear hK K;try simp only[nr]
  refine qh rfl 99 _ _ rfl (by rfl) (by rfl) HR9.out zN (by rfl) (by rfl) (by rfl) ?_;intro w9 B9 U9;obtain⟨x0,x1,x2,x3,x4,x5,x6⟩:=qP B9;go_wp2;refine bodyPost_ret (v:=.tuple #[.agg #[.int .i64 size,.int .i64 seq,.int .i64 half,.int .i64 used,.slice none 0 0,.slice none 0 0,.map (some (w.heap.size+1+1))],.int .i64 1]) ?_ rfl ?_
  ·simp[results,x0,x1,x2,x3,x4,x5,x6,go_sem]
  ·rw[hR.out];exact .inl ⟨HVB.out,_,_,_,_,_,_,_,_,_,_,_,rfl,(U9.chg (NoU.mk HR9.out (by decide))).ext HX9.out (by omega)⟩
 have d6:decide (h<used)=false:=q_f hc6;have eC:=(Ext.refl W).drew;refine ql (fun w'=>w'.cell? ⟨w.heap.size,0,none⟩=some (.int .i64 size)/\w'.cell? ⟨w.heap.size,1,none⟩=some (.int .i64 seq)/\w'.cell? ⟨w.heap.size,2,none⟩=some (.int .i64 half)/\w'.cell? ⟨w.heap.size,3,none⟩=some (.int .i64 used)) [] (by kernel_rfl) (by exact⟨eC.cell p0,eC.cell p1,eC.cell p2,eC.cell p3⟩) (fun hHeld=>?_);refine sP 0 (h:=?_);refine sT 1 (h:=?_);refine sP 2 (h:=?_);refine sP 3 (h:=?_);refine sP 4 (h:=?_);refine sT 5 (h:=?_);refine sP 6 (h:=?_);refine sP 7 (h:=?_);refine sP 8 (h:=?_);refine sP 9 (h:=?_);refine sT 10 (h:=?_);refine sP 11 (h:=?_);refine sP 12 (h:=?_);refine sP 13 (h:=?_);refine sP 14 (h:=?_);refine sT 15 (h:=?_);refine sP 16 (h:=?_);refine sP 17 (h:=?_);refine sP 18 (h:=?_);refine sP 19 (h:=?_);refine sT 20 (h:=?_);refine sP 21 (h:=?_);refine sP 22 (h:=?_);refine sP 23 (h:=?_);refine sP 24 (h:=?_);refine sT 25 (h:=?_);refine sP 26 (h:=?_);refine sP 27 (h:=?_);refine sP 28 (h:=?_);refine sP 29 (h:=?_);refine sT 30 (h:=?_);refine sP 31 (h:=?_);refine sT 32 (h:=?_);refine qg (i:=33) rfl (by kernel_rfl) (fun K hK=>?_);rw[if_pos (by rfl)];go_simp;refine (jO (by omega) (by omega) h hh.out _).mono ?_;rintro e w3 ⟨rfl,e3⟩;replace eC:=eC.trans e3;go_wp2_with fail;clear hHeld;refine hK.out _ _ (by exact⟨eC.cell p0,eC.cell p1,eC.cell p2,eC.cell p3⟩) fun hHeld=>?_
 clear hK K;try simp only[nr]
 refine sP 34 (h:=?_);refine sP 35 (h:=?_);refine qm (by kernel_rfl) ?_ _;clear hHeld
 have HHD:Hid (headB s=true):=by
  rw[Hid];unfold headB;rw[<-hsize.out,<-hseq.out,<-hhalf.out,<-hused.out,<-hh.out];simp only[Bool.and_eq_true,decide_eq_true_eq];omega
 have HX3:=q_h (HX.out.trans eC);have HB03:=q_h (eC.block HB0.out);have HB13:=q_h (eC.block HB1.out)
 have HI3:Hid (IxB (w.heap.size+2) (w.heap.size+1+1+1) (w.heap.size+1+1) size seq half used (.slice none 0 0) (.slice none 0 0) (s.objs.take 0) w3):=by
  refine⟨eC.block HB3.out,by omega,by omega,⟨fun _=>.int .i64 0,fun _=>.int .i64 0,⟨by have:=eC.size;omega,rfl,.inl ⟨rfl,rfl⟩⟩,fun j hj=>by simp at hj⟩,?_⟩;exact⟨#[],0,eC.block HB2.out,rfl,MapKept.stamped_empty 0⟩
 clear eC e3 p0 p1 p2 p3 HB0 HB1 HB2 HB3 HX;obtain⟨q0,q1,q2,q3,q4,q5⟩:=qw HB03.out;go_wp2_with fail;clear q0 q1 q2 q3 q4 q5 p4 p5 d0 d1 d2 d3 d4 d5 d6
 go_loopw [63,5] (fun iv nv wr=>∃(i:Nat) (Av:Option Addr) (cv:Nat),i<=n1/\iv=.int .i64 (i:Int)/\nv=.int .i64 ((pgO (s.objs.take i):Nat):Int)/\Hid (pgO (s.objs.take i)<=100*i)/\Hid (wV [] (s.objs.take i)=true)/\Hid (IxB (w.heap.size+2) (w.heap.size+1+1+1) (w.heap.size+1+1) size seq half used (.slice Av i cv) (.slice none 0 0) (s.objs.take i) wr)/\Hid (Ext w wr)
  /\ Hid (wr.heap[w.heap.size]?=some (.cells #[.int .i64 size,.int .i64 seq,.int .i64 half,.int .i64 used,.slice A1 n1 c1,.slice A2 n2 c2] 25 (0,0)))
  /\ Hid (wr.heap[w.heap.size+1]?=some (.cells #[.int .i64 0,.int .i64 0,.int .i64 0,.int .i64 0,.slice none 0 0,.slice none 0 0,.map none] 99 (0,0)))) (fun iv _ _=>n1-(intOf iv).toNat)
 case atStart=>exact⟨0,none,0,Nat.zero_le _,rfl,rfl,Nat.zero_le _,rfl,HI3,HX3,HB03,HB13⟩
 case round =>
  clear HI3 HX3 HB03 HB13;obtain⟨i,Av,cv,hi9,rfl,rfl,HPG,HOB,HI,HX,HB0,HB1⟩:=hrel;obtain⟨pg,hpg⟩:=qf (pgO (s.objs.take i));rw[<-hpg.out] at HPG ⊢
  by_cases hlt:i<n1
  case pos =>
   have u5:decide ((i:Int)<(n1:Int))=true:=q_t (by omega);have u6:(i:Int)<(n1:Int):=by omega
   have hil:i<s.objs.length:=by have:=HN1.out;omega
   obtain⟨go,off,rfl,hx⟩:=HO.out.at_ HN1.out (by omega);obtain⟨B1,m1,d1,B2,m2,d2,k0,k1,hobr⟩:=hx i hlt;have HOR:Hid (∀wq,Ext w wq->ObR wq (.slice B1 m1 d1) (.slice B2 m2 d2) (s.objs.getD i default)):=fun wq e=>hobr.ext e
   replace k0:=HX.out.cell k0;replace k1:=HX.out.cell k1;clear hx hobr;go_upto_region 8 with (fail);refine qo ?_;intro w4 e4 hsz4 BQ;obtain⟨q,hq⟩:=qf wr.heap.size;rw[<-hq.out] at BQ ⊢;have HI4:=q_h (HI.out.ext e4);have HX4:=q_h (HX.out.trans e4);have HBQ:=q_h BQ;obtain⟨k0,k1,-⟩:=cells2 BQ;have HOR4:=q_h (HOR.out w4 HX4.out)
   have HOWN:Hid (∀k,(Value.slice Av i cv).ownBlock=some k->w.heap.size+2<=k/\k<q):=fun k hk=>by
    have:=HI.out.obs.own_lt k hk;have:=hq.out;omega
   have HB04:=q_h (e4.block HB0.out);have HB14:=q_h (e4.block HB1.out)
   have HQ:Hid (w.heap.size+4<=q):=by
    have:=qK HI.out.blk;have:=hq.out;rw[Hid];omega
   clear e4 BQ HI HX HB0 HB1 hsz4;go_wp2_with (go_at_call 60;refine q_o ?_);refine (wI HTX HI4.out HOR4.out (HOK.out i hil) (HTB.out.ext HX4.out) (by rw[List.length_take];omega)).mono ?_;rintro e w5 (⟨rfl,hadd,e5⟩|⟨rfl,hadd,v5,hI5,hF5,hV5⟩)
   ·have HVB:Hid (qE s=false):=QZ hil HOB.out hadd;have HX9:=q_h (HX4.out.trans e5);have HB9:=q_h (e5.block HI4.out.blk);have HR9:=q_h (e5.block HB14.out);clear e5 hadd k0 k1;go_upto_region 9 with (fail);obtain⟨k0,k1,k2,k3,k4,k5,k6⟩:=qP HB9.out;refine wp_region_lit ?_;refine wpList_plain rfl (fun K hK=>?_);go_simp;refine hK _ _ ?_;clear hK K;try simp only[nr]
    refine qh rfl 99 _ _ rfl (by rfl) (by rfl) HR9.out zN (by rfl) (by rfl) (by rfl) ?_;intro w9 B9 U9;obtain⟨x0,x1,x2,x3,x4,x5,x6⟩:=qP B9;go_wp2;refine bodyPost_ret (v:=.tuple #[.agg #[.int .i64 size,.int .i64 seq,.int .i64 half,.int .i64 used,.slice Av i cv,.slice none 0 0,.map (some (w.heap.size+1+1))],.int .i64 1]) ?_ rfl ?_
    ·simp[results,x0,x1,x2,x3,x4,x5,x6,go_sem]
    ·rw[hR.out];exact .inl ⟨HVB.out,_,_,_,_,_,_,_,_,_,_,_,rfl,(U9.chg (NoU.mk HR9.out (by decide))).ext HX9.out (by omega)⟩
   have HOK5:=q_h (Qi hadd)
   have HOB5:Hid (wV [] (s.objs.take (i+1))=true):=by
    rw[Hid,take_snoc s.objs default hil,xX,HOB.out,List.nil_append];exact hadd
   have HI5:Hid (IxB (w.heap.size+2) (w.heap.size+1+1+1) (w.heap.size+1+1) size seq half used v5 (.slice none 0 0) (s.objs.take (i+1)) w5):=by
    rw[take_snoc s.objs default hil];exact hI5
   have HX5:Hid (Ext w w5):=hF5.toExt HX4.out (by omega) (by omega) (fun k hk=>by have:=HOWN.out k hk;omega);have HB05:=q_h (hF5.blk HB04.out (by omega) (by omega) (fun e=>by have:=HOWN.out _ e;omega));have HB15:=q_h (hF5.blk HB14.out (by omega) (by omega) (fun e=>by have:=HOWN.out _ e;omega));have HBQ5:=q_h (hF5.blk HBQ.out (by have:=HQ.out;omega) (by have:=HQ.out;omega) (fun e=>by have:=HOWN.out _ e;omega));have hfrm:=hI5.obs.form;rw[List.length_append,List.length_singleton,List.length_take] at hfrm;obtain⟨A5,c5,hv5,-⟩:=hfrm;rw[show min i s.objs.length+1=i+1 by omega] at hv5;have HV5:=q_h hv5;clear hF5 hV5 hI5 hadd k0 k1 HB04 HB14 HI4 HX4 hv5;obtain⟨k0,k1,-⟩:=cells2 HBQ5.out;go_wp2_with (go_at_call 62;refine q_o ?_);refine (Qw HTX (HOR.out _ HX5.out) HOK5.out (HTB.out.ext HX5.out)).mono ?_;rintro e w6 ⟨v6,rfl,hG6,e6⟩;have HG6:=q_h hG6.by
   have HX6:=q_h (HX5.out.trans e6);have HI6:=q_h (HI5.out.ext e6);have HB06:=q_h (e6.block HB05.out);have HB16:=q_h (e6.block HB15.out);have hpb:=YV HOK5.out;clear hG6 e6 k0 k1 HBQ5 HX5 HI5 HB05 HB15;obtain⟨pn,hpn⟩:=qf (pgN (obE (s.objs.getD i default)));have hpn9:pn<=100:=by rw[hpn.out];exact hpb.1
   have HPL:Hid ((obE (s.objs.getD i default)).length<=1000000):=by have:=hpb.2;rw[Hid];omega
   clear hpb;have hpg9:pg<=100000:=by have:=HPG.out;omega
   go_wp2_with (go_at_call 121;refine q_o ?_);refine (kW HG6.out HPL.out).mono ?_;rintro e w7 ⟨rfl,e7⟩;rw[<-hpn.out];have HX7:=q_h (HX6.out.trans e7);have HI7:=q_h (HI6.out.ext e7);have HB07:=q_h (e7.block HB06.out);have HB17:=q_h (e7.block HB16.out);rw[HV5.out] at HI7;have HSUM:Hid (pgO (s.objs.take (i+1))=pg+pn):=by rw[Hid,take_snoc s.objs default hil,J7,hpg.out,hpn.out]
   have HPG7:Hid (pgO (s.objs.take (i+1))<=100*(i+1)):=by rw[Hid,HSUM.out];have:=HPG.out;omega
   clear e7 HG6 HX6 HI6 HB06 HB16;go_wp2;go_roundw
   case rel=>exact⟨i+1,A5,c5,by omega,by go_num,by rw[HSUM.out];go_num,HPG7,HOB5,HI7,HX7,HB07,HB17⟩
   case measure=>simp[intOf];omega
  obtain rfl:i=n1:=by omega
  have u5:decide ((i:Int)<(i:Int))=false:=q_f (by omega);have HTK1:Hid (s.objs.take i=s.objs):=List.take_of_length_le (by have:=HN1.out;omega);rw[HTK1.out] at HI HOB hpg;obtain⟨q0,q1,q2,q3,q4,q5⟩:=qw HB0.out;obtain⟨w8,hw8⟩:∃w8,w8=wr:=⟨_,rfl⟩
  subst hw8;go_wp2_with fail;clear q0 q1 q2 q3 q4 q5
  go_loopw [80,5] (fun iv nv wr=>∃(j:Nat),j<=n2/\iv=.int .i64 (j:Int)/\nv=.int .i64 ((pg+pgT (s.tags.take j):Nat):Int)/\Hid (pgT (s.tags.take j)<=100*j)/\Hid (ZB (xY s) none (s.tags.take j)=true)/\Hid (Ext w8 wr)) (fun iv _ _=>n2-(intOf iv).toNat)
  case atStart=>exact⟨0,Nat.zero_le _,rfl,by simp[pgT],Nat.zero_le _,rfl,Ext.refl _⟩
  case round =>
   obtain⟨j,hj9,rfl,rfl,HPT,HTB9,HE⟩:=hrel;obtain⟨pt,hpt⟩:=qf (pg+pgT (s.tags.take j));rw[<-hpt.out];have HPT9:Hid (pt<=300000):=by have:=hpt.out;have:=HPT.out;have:=HPG.out;rw[Hid];omega
   by_cases hjl:j<n2
   case pos =>
    have u6:decide ((j:Int)<(n2:Int))=true:=q_t (by omega);have u7:(j:Int)<(n2:Int):=by omega
    obtain⟨gt,ot,rfl,hx⟩:=Yh.addr ⟨HN2.out,HT.out⟩ (by omega);obtain⟨x1,x2,k0,k1,hv⟩:=hx j hjl;have hjs:j<s.tags.length:=by have:=HN2.out;omega
    have e12:x1=.string (bA (s.tags.getD j default).name)/\x2=.string (bA (s.tags.getD j default).target):=by
     have h9:=hv.out;simp only[Value.agg.injEq,Array.mk.injEq,List.cons.injEq,and_true] at h9;exact h9
    obtain⟨B1,hB1⟩:=qf (bA (s.tags.getD j default).name);obtain⟨B2,hB2⟩:=qf (bA (s.tags.getD j default).target);rw[<-hB1.out,<-hB2.out] at e12;obtain⟨rfl,rfl⟩:=e12;have HX2:=q_h (HX.out.trans HE.out);replace k0:=HX2.out.cell k0;replace k1:=HX2.out.cell k1;have HXC:Hid (∀i,i<n2->∃u1 u2,w.cell? ⟨gt,ot+i*2,none⟩=some u1/\w.cell? ⟨gt,ot+i*2+1,none⟩=some u2/\Hid (.agg #[u1,u2]=Value.agg #[sV (s.tags.getD i default).name,sV (s.tags.getD i default).target])):=hx;clear hv hx;go_upto_region 15 with (fail);refine qo ?_;intro wq e4 hsz4 BQ;obtain⟨q,hq⟩:=qf wr.heap.size;rw[<-hq.out] at BQ ⊢;have HX6:=q_h (HX2.out.trans e4);have HE6:=q_h (HE.out.trans e4);have HI6:=q_h (HI.out.ext HE6.out);have HB06:=q_h (HE6.out.block HB0.out);have HB16:=q_h (HE6.out.block HB1.out);have HBQ:=q_h BQ;clear BQ e4 k0 k1;obtain⟨k0,k1,-⟩:=cells2 HBQ.out;obtain⟨z2,hl2,-⟩:=xR HI6.out.mp (s.tags.getD j default).target;rw[qO,<-hB2.out] at hl2;obtain⟨ok,hok9⟩:=qf ((s.objs.map qM).contains (s.tags.getD j default).target);rw[<-hok9.out] at hl2;have c6:wq.cell? ⟨w.heap.size+1+1+1,6,none⟩=some (.map (some (w.heap.size+1+1))):=(qj HI6.out.blk 6).trans rfl;have q5:wq.cell? ⟨w.heap.size,5,none⟩=some (.slice (some ⟨gt,ot,none⟩) n2 c2):=(qj HB06.out 5).trans rfl;go_upto_region 16 with (fail);clear c6 hl2;cases ok with
    | false =>
     have eC:=(Ext.refl wq).drew;refine ql (fun w'=>w'.cell? ⟨q,0,none⟩=some (.string B1)) [] (by kernel_rfl) (by exact eC.cell k0) (fun hHeld=>?_);refine sP 0 (h:=?_);refine sP 1 (h:=?_);refine sP 2 (h:=?_);refine sF 3 (h:=?_);refine sF 4 (h:=?_);refine sF 5 (h:=?_);refine sF 6 (h:=?_);refine sP 7 (h:=?_);refine sP 8 (h:=?_);refine sF 9 (h:=?_);refine sF 10 (h:=?_);refine sF 11 (h:=?_);refine sF 12 (h:=?_);refine sF 13 (h:=?_);refine sF 14 (h:=?_);refine sF 15 (h:=?_);refine sF 16 (h:=?_);refine sF 17 (h:=?_);refine sF 18 (h:=?_);refine sF 19 (h:=?_);refine sF 20 (h:=?_);refine sF 21 (h:=?_);refine sF 22 (h:=?_);refine sP 23 (h:=?_);refine qm (by kernel_rfl) ?_ _;clear hHeld
     have HVB:Hid (qE s=false):=yz hjs (by
      unfold xI xY;rw[<-hok9.out]
      simp)
     clear q5;have HX9:=q_h (HX6.out.trans eC);have HB9:=q_h (eC.block HI6.out.blk);have HR9:=q_h (eC.block HB16.out);clear eC k0 k1;go_upto_region 17 with (fail);obtain⟨k0,k1,k2,k3,k4,k5,k6⟩:=qP HB9.out;refine wp_region_lit ?_;refine wpList_plain rfl (fun K hK=>?_);go_simp;refine hK _ _ ?_;clear hK K;try simp only[nr]
     refine qh rfl 99 _ _ rfl (by rfl) (by rfl) HR9.out zN (by rfl) (by rfl) (by rfl) ?_;intro w9 B9 U9;obtain⟨x0,x1,x2,x3,x4,x5,x6⟩:=qP B9;go_wp2;refine bodyPost_ret (v:=.tuple #[.agg #[.int .i64 size,.int .i64 seq,.int .i64 half,.int .i64 used,.slice Av i cv,.slice none 0 0,.map (some (w.heap.size+1+1))],.int .i64 1]) ?_ rfl ?_
     ·simp[results,x0,x1,x2,x3,x4,x5,x6,go_sem]
     ·rw[hR.out];exact .inl ⟨HVB.out,_,_,_,_,_,_,_,_,_,_,_,rfl,(U9.chg (NoU.mk HR9.out (by decide))).ext HX9.out (by omega)⟩
    | true =>
     obtain⟨it,hit⟩:=qf (Xr (s.tags.getD j default).name)
     have HCT:Hid (∀w',Calls Tryz.prog 115 #[.string B1] w' (qH w' (.bool it))):=fun w'=>by
      rw[hit.out,hB1.out]
      have h9:=wF (bA (s.tags.getD j default).name) (by
       have:=(HTK.out j hjs).1
       show (s.tags.getD j default).name.toArray.size<=_
       rw[List.size_toArray]
       omega) w'
      exact h9
     cases it with
     | false =>
      have eC:=(Ext.refl wq).drew;refine ql (fun w'=>w'.cell? ⟨q,0,none⟩=some (.string B1)) [] (by kernel_rfl) (by exact eC.cell k0) (fun hHeld=>?_);refine sP 0 (h:=?_);refine sP 1 (h:=?_);refine sP 2 (h:=?_);refine sP 3 (h:=?_);refine sT 4 (h:=?_);refine qg (i:=5) rfl (by kernel_rfl) (fun K hK=>?_);rw[if_pos (by rfl)];go_simp;refine (HCT.out _).mono ?_;rintro e w9t ⟨rfl,e9⟩;replace eC:=eC.trans e9;go_wp2_with fail;clear hHeld;refine hK.out _ _ (by exact eC.cell k0) fun hHeld=>?_
      clear hK K;try simp only[nr]
      refine sP 6 (h:=?_);refine sP 7 (h:=?_);refine sP 8 (h:=?_);refine sF 9 (h:=?_);refine sF 10 (h:=?_);refine sF 11 (h:=?_);refine sF 12 (h:=?_);refine sF 13 (h:=?_);refine sF 14 (h:=?_);refine sF 15 (h:=?_);refine sF 16 (h:=?_);refine sF 17 (h:=?_);refine sF 18 (h:=?_);refine sF 19 (h:=?_);refine sF 20 (h:=?_);refine sF 21 (h:=?_);refine sF 22 (h:=?_);refine sP 23 (h:=?_);refine qm (by kernel_rfl) ?_ _;clear hHeld
      have HVB:Hid (qE s=false):=yz hjs (by
       unfold xI;rw[<-hit.out]
       rfl)
      clear q5 e9;have HX9:=q_h (HX6.out.trans eC);have HB9:=q_h (eC.block HI6.out.blk);have HR9:=q_h (eC.block HB16.out);clear eC k0 k1;go_upto_region 17 with (fail);obtain⟨k0,k1,k2,k3,k4,k5,k6⟩:=qP HB9.out;refine wp_region_lit ?_;refine wpList_plain rfl (fun K hK=>?_);go_simp;refine hK _ _ ?_;clear hK K;try simp only[nr]
      refine qh rfl 99 _ _ rfl (by rfl) (by rfl) HR9.out zN (by rfl) (by rfl) (by rfl) ?_;intro w9 B9 U9;obtain⟨x0,x1,x2,x3,x4,x5,x6⟩:=qP B9;go_wp2;refine bodyPost_ret (v:=.tuple #[.agg #[.int .i64 size,.int .i64 seq,.int .i64 half,.int .i64 used,.slice Av i cv,.slice none 0 0,.map (some (w.heap.size+1+1))],.int .i64 1]) ?_ rfl ?_
      ·simp[results,x0,x1,x2,x3,x4,x5,x6,go_sem]
      ·rw[hR.out];exact .inl ⟨HVB.out,_,_,_,_,_,_,_,_,_,_,_,rfl,(U9.chg (NoU.mk HR9.out (by decide))).ext HX9.out (by omega)⟩
     | true =>
      by_cases hj0:j=0
      ·have dj:decide (0<(j:Int))=false:=q_f (by omega);have dj':decide (0<j)=false:=q_f (by omega);have eC:=(Ext.refl wq).drew;refine ql (fun w'=>w'.cell? ⟨q,0,none⟩=some (.string B1)) [] (by kernel_rfl) (by exact eC.cell k0) (fun hHeld=>?_);refine sP 0 (h:=?_);refine sP 1 (h:=?_);refine sP 2 (h:=?_);refine sP 3 (h:=?_);refine sT 4 (h:=?_);refine qg (i:=5) rfl (by kernel_rfl) (fun K hK=>?_);rw[if_pos (by rfl)];go_simp;refine (HCT.out _).mono ?_;rintro e w9t ⟨rfl,e9⟩;replace eC:=eC.trans e9;go_wp2_with fail;clear hHeld;refine hK.out _ _ (by exact eC.cell k0) fun hHeld=>?_
       clear hK K;try simp only[nr]
       refine sP 6 (h:=?_);refine sP 7 (h:=?_);refine sP 8 (h:=?_);refine sP 9 (h:=?_);refine sP 10 (h:=?_);refine sP 11 (h:=?_);refine sF 12 (h:=?_);refine sF 13 (h:=?_);refine sF 14 (h:=?_);refine sF 15 (h:=?_);refine sF 16 (h:=?_);refine sF 17 (h:=?_);refine sF 18 (h:=?_);refine sF 19 (h:=?_);refine sF 20 (h:=?_);refine sF 21 (h:=?_);refine sP 22 (h:=?_);refine sP 23 (h:=?_);refine qm (by kernel_rfl) ?_ _;clear hHeld
       have HT1:Hid (xI (xY s) (lastT none (s.tags.take j)) (s.tags.getD j default)=true):=by
        rw[Hid,ji s.tags (by omega),if_pos hj0];unfold xI xY;rw[<-hit.out,<-hok9.out]
        rfl
       have HX9:=q_h (HX6.out.trans eC);have HE9:=q_h (HE6.out.trans eC);have HBQ9:=q_h (eC.block HBQ.out)
       have HTG9:Hid (ZB (xY s) none (s.tags.take (j+1))=true):=by
        rw[Hid,take_snoc s.tags default hjs,kV,HTB9.out,HT1.out]
        rfl
       clear eC e9 k0 k1 q5;obtain⟨k0,k1,-⟩:=cells2 HBQ9.out
       have HCG:Hid (Calls Tryz.prog 117 #[.agg #[.string B1,.string B2]] w9t (q1a w9t (tgE (s.tags.getD j default)))):=by
        rw[hB1.out,hB2.out];exact yB HTX (HTK.out j hjs) (HTB.out.ext HX9.out)
       go_wp2_with (go_at_call 117;refine q_o ?_);refine HCG.out.mono ?_;rintro e wx ⟨vx,rfl,hGx,ex⟩;have HGx:=q_h hGx.by
       have HEx:=q_h (HE9.out.trans ex);have hpb:=QC (HTK.out j hjs);clear hGx ex k0 k1 HBQ9 HX9 HCG;obtain⟨pn,hpn⟩:=qf (pgN (tgE (s.tags.getD j default)));have hpn9:pn<=100:=by rw[hpn.out];exact hpb.1
       have HPL:Hid ((tgE (s.tags.getD j default)).length<=1000000):=by have:=hpb.2;rw[Hid];omega
       clear hpb;have hpg9:pt<=300000:=HPT9.out;go_wp2_with (go_at_call 121;refine q_o ?_);refine (kW HGx.out HPL.out).mono ?_;rintro e wy ⟨rfl,ey⟩;rw[<-hpn.out];have HEy:=q_h (HEx.out.trans ey);have HSUM:Hid (pgT (s.tags.take (j+1))=pgT (s.tags.take j)+pn):=by rw[Hid,take_snoc s.tags default hjs,vH,hpn.out]
       have HPT2:Hid (pgT (s.tags.take (j+1))<=100*(j+1)):=by rw[Hid,HSUM.out];have:=HPT.out;omega
       have HNW:Hid ((pg+pgT (s.tags.take (j+1)):Nat)=pt+pn):=by rw[Hid,HSUM.out,hpt.out];omega
       clear ey HGx HEx HE9;go_wp2;go_roundw
       case rel=>exact⟨j+1,by omega,by go_num,by rw[HNW.out];go_num,HPT2,HTG9,HEy⟩
       case measure=>simp[intOf];omega
      ·have dj:decide (0<(j:Int))=true:=q_t (by omega);have dj':decide (0<j)=true:=q_t (by omega);obtain⟨jm,hjm⟩:∃jm,jm=j-1:=⟨_,rfl⟩
       have hj1:(j:Int)-1=(jm:Int):=by omega
       have hj2:IntKind.i64.wrap ((j:Int)-1)=(jm:Int):=by rw[hj1];exact wrp (by omega) (by omega)
       have hj5:IntKind.i64.wrap (jm:Int)=(jm:Int):=wrp (by omega) (by omega);have hj3:(jm:Int)<(n2:Int):=by omega
       have hj4:jm<n2:=by omega
       obtain⟨x3,x4,k3,-,hv3⟩:=HXC.out jm hj4
       have e3:x3=.string (bA (s.tags.getD jm default).name):=by
        have h9:=hv3.out;simp only[Value.agg.injEq,Array.mk.injEq,List.cons.injEq,and_true] at h9;exact h9.1
       obtain⟨B3,hB3⟩:=qf (bA (s.tags.getD jm default).name);rw[<-hB3.out] at e3;subst e3;replace k3:=HX6.out.cell k3;obtain⟨le,hle⟩:=qf (ltP (some (s.tags.getD jm default).name) (s.tags.getD j default).name)
       have ule:(Go.Op.bytesLess B1.toList B3.toList||B1.toList == B3.toList)=!le:=by
        rw[hle.out,hB1.out,hB3.out]
        show _=!(Go.Op.bytesLess (s.tags.getD jm default).name (s.tags.getD j default).name)
        unfold bA;rw[ByteArray.toList_mk,ByteArray.toList_mk,jh (s.tags.getD jm default).name,Bool.not_not]
       have HLT:Hid (lastT none (s.tags.take j)=some (s.tags.getD jm default).name):=by
        rw[Hid,ji s.tags (by omega),if_neg hj0,hjm]
       clear hv3 hjm;cases le with
       | false =>
        have eC:=(Ext.refl wq).drew;refine ql (fun w'=>w'.cell? ⟨q,0,none⟩=some (.string B1)/\w'.cell? ⟨w.heap.size,5,none⟩=some (.slice (some ⟨gt,ot,none⟩) n2 c2)/\w'.cell? ⟨gt,ot+jm*2,none⟩=some (.string B3)) [] (by kernel_rfl) (by exact⟨eC.cell k0,eC.cell q5,eC.cell k3⟩) (fun hHeld=>?_);refine sP 0 (h:=?_);refine sP 1 (h:=?_);refine sP 2 (h:=?_);refine sP 3 (h:=?_);refine sT 4 (h:=?_);refine qg (i:=5) rfl (by kernel_rfl) (fun K hK=>?_);rw[if_pos (by rfl)];go_simp;refine (HCT.out _).mono ?_;rintro e w9t ⟨rfl,e9⟩;replace eC:=eC.trans e9;go_wp2_with fail;clear hHeld;refine hK.out _ _ (by exact⟨eC.cell k0,eC.cell q5,eC.cell k3⟩) fun hHeld=>?_
        clear hK K;try simp only[nr]
        refine sP 6 (h:=?_);refine sP 7 (h:=?_);refine sP 8 (h:=?_);refine sP 9 (h:=?_);refine sP 10 (h:=?_);refine sP 11 (h:=?_);refine sP 12 (h:=?_);refine sT 13 (h:=?_);refine sP 14 (h:=?_);refine sT 15 (h:=?_);refine sP 16 (h:=?_);refine sP 17 (h:=?_);refine sP 18 (h:=?_);refine sP 19 (h:=?_);refine sT 20 (h:=?_);refine sP 21 (h:=?_);refine sP 22 (h:=?_);refine sP 23 (h:=?_);refine qm (by kernel_rfl) ?_ _;clear hHeld
        have HVB:Hid (qE s=false):=yz hjs (by
         unfold xI;rw[HLT.out,<-hle.out]
         simp)
        clear q5 e9 k3;have HX9:=q_h (HX6.out.trans eC);have HB9:=q_h (eC.block HI6.out.blk);have HR9:=q_h (eC.block HB16.out);clear eC k0 k1;go_upto_region 17 with (fail);obtain⟨k0,k1,k2,k3,k4,k5,k6⟩:=qP HB9.out;refine wp_region_lit ?_;refine wpList_plain rfl (fun K hK=>?_);go_simp;refine hK _ _ ?_;clear hK K;try simp only[nr]
        refine qh rfl 99 _ _ rfl (by rfl) (by rfl) HR9.out zN (by rfl) (by rfl) (by rfl) ?_;intro w9 B9 U9;obtain⟨x0,x1,x2,x3,x4,x5,x6⟩:=qP B9;go_wp2;refine bodyPost_ret (v:=.tuple #[.agg #[.int .i64 size,.int .i64 seq,.int .i64 half,.int .i64 used,.slice Av i cv,.slice none 0 0,.map (some (w.heap.size+1+1))],.int .i64 1]) ?_ rfl ?_
        ·simp[results,x0,x1,x2,x3,x4,x5,x6,go_sem]
        ·rw[hR.out];exact .inl ⟨HVB.out,_,_,_,_,_,_,_,_,_,_,_,rfl,(U9.chg (NoU.mk HR9.out (by decide))).ext HX9.out (by omega)⟩
       | true =>
        have eC:=(Ext.refl wq).drew;refine ql (fun w'=>w'.cell? ⟨q,0,none⟩=some (.string B1)/\w'.cell? ⟨w.heap.size,5,none⟩=some (.slice (some ⟨gt,ot,none⟩) n2 c2)/\w'.cell? ⟨gt,ot+jm*2,none⟩=some (.string B3)) [] (by kernel_rfl) (by exact⟨eC.cell k0,eC.cell q5,eC.cell k3⟩) (fun hHeld=>?_);refine sP 0 (h:=?_);refine sP 1 (h:=?_);refine sP 2 (h:=?_);refine sP 3 (h:=?_);refine sT 4 (h:=?_);refine qg (i:=5) rfl (by kernel_rfl) (fun K hK=>?_);rw[if_pos (by rfl)];go_simp;refine (HCT.out _).mono ?_;rintro e w9t ⟨rfl,e9⟩;replace eC:=eC.trans e9;go_wp2_with fail;clear hHeld;refine hK.out _ _ (by exact⟨eC.cell k0,eC.cell q5,eC.cell k3⟩) fun hHeld=>?_
        clear hK K;try simp only[nr]
        refine sP 6 (h:=?_);refine sP 7 (h:=?_);refine sP 8 (h:=?_);refine sP 9 (h:=?_);refine sP 10 (h:=?_);refine sP 11 (h:=?_);refine sP 12 (h:=?_);refine sT 13 (h:=?_);refine sP 14 (h:=?_);refine sT 15 (h:=?_);refine sP 16 (h:=?_);refine sP 17 (h:=?_);refine sP 18 (h:=?_);refine sP 19 (h:=?_);refine sT 20 (h:=?_);refine sP 21 (h:=?_);refine sP 22 (h:=?_);refine sP 23 (h:=?_);refine qm (by kernel_rfl) ?_ _;clear hHeld
        have HT1:Hid (xI (xY s) (lastT none (s.tags.take j)) (s.tags.getD j default)=true):=by
         rw[Hid,HLT.out];unfold xI xY;rw[<-hit.out,<-hok9.out,<-hle.out]
         rfl
        clear k3;have HX9:=q_h (HX6.out.trans eC);have HE9:=q_h (HE6.out.trans eC);have HBQ9:=q_h (eC.block HBQ.out)
        have HTG9:Hid (ZB (xY s) none (s.tags.take (j+1))=true):=by
         rw[Hid,take_snoc s.tags default hjs,kV,HTB9.out,HT1.out]
         rfl
        clear eC e9 k0 k1 q5;obtain⟨k0,k1,-⟩:=cells2 HBQ9.out
        have HCG:Hid (Calls Tryz.prog 117 #[.agg #[.string B1,.string B2]] w9t (q1a w9t (tgE (s.tags.getD j default)))):=by
         rw[hB1.out,hB2.out];exact yB HTX (HTK.out j hjs) (HTB.out.ext HX9.out)
        go_wp2_with (go_at_call 117;refine q_o ?_);refine HCG.out.mono ?_;rintro e wx ⟨vx,rfl,hGx,ex⟩;have HGx:=q_h hGx.by
        have HEx:=q_h (HE9.out.trans ex);have hpb:=QC (HTK.out j hjs);clear hGx ex k0 k1 HBQ9 HX9 HCG;obtain⟨pn,hpn⟩:=qf (pgN (tgE (s.tags.getD j default)));have hpn9:pn<=100:=by rw[hpn.out];exact hpb.1
        have HPL:Hid ((tgE (s.tags.getD j default)).length<=1000000):=by have:=hpb.2;rw[Hid];omega
        clear hpb;have hpg9:pt<=300000:=HPT9.out;go_wp2_with (go_at_call 121;refine q_o ?_);refine (kW HGx.out HPL.out).mono ?_;rintro e wy ⟨rfl,ey⟩;rw[<-hpn.out];have HEy:=q_h (HEx.out.trans ey);have HSUM:Hid (pgT (s.tags.take (j+1))=pgT (s.tags.take j)+pn):=by rw[Hid,take_snoc s.tags default hjs,vH,hpn.out]
        have HPT2:Hid (pgT (s.tags.take (j+1))<=100*(j+1)):=by rw[Hid,HSUM.out];have:=HPT.out;omega
        have HNW:Hid ((pg+pgT (s.tags.take (j+1)):Nat)=pt+pn):=by rw[Hid,HSUM.out,hpt.out];omega
        clear ey HGx HEx HE9;go_wp2;go_roundw
        case rel=>exact⟨j+1,by omega,by go_num,by rw[HNW.out];go_num,HPT2,HTG9,HEy⟩
        case measure=>simp[intOf];omega
   obtain rfl:j=n2:=by omega
   have u6:decide ((j:Int)<(j:Int))=false:=q_f (by omega);have HTK2:Hid (s.tags.take j=s.tags):=List.take_of_length_le (by have:=HN2.out;omega);rw[HTK2.out] at HTB9 hpt;have HPS:Hid (pgs s=pt):=by rw[Hid,hpt.out,hpg.out];rfl
   have HX6:=q_h (HX.out.trans HE.out);have HI6:=q_h (HI.out.ext HE.out);have HB06:=q_h (HE.out.block HB0.out);have HB16:=q_h (HE.out.block HB1.out);obtain⟨q0,q1,q2,q3,q4,q5⟩:=qw HB06.out;obtain⟨wq,hwq⟩:∃wq,wq=wr:=⟨_,rfl⟩
   subst hwq
   by_cases hlu:used<(pt:Int)
   ·have u7:decide (used<(pt:Int))=true:=q_t hlu
    have HVB:Hid (qE s=false):=by
     have h9:decide ((pgs s:Int)<=s.used)=false:=q_f (by rw[HPS.out,<-hused.out];omega);rw[Hid];unfold qE;rw[h9]
     simp
    have HX9:=HX6;have HB9:=q_h HI6.out.blk;have HR9:=HB16;go_upto_region 21 with (fail);obtain⟨k0,k1,k2,k3,k4,k5,k6⟩:=qP HB9.out;refine wp_region_lit ?_;refine wpList_plain rfl (fun K hK=>?_);go_simp;refine hK _ _ ?_;clear hK K;try simp only[nr]
    refine qh rfl 99 _ _ rfl (by rfl) (by rfl) HR9.out zN (by rfl) (by rfl) (by rfl) ?_;intro w9 B9 U9;obtain⟨x0,x1,x2,x3,x4,x5,x6⟩:=qP B9;go_wp2;refine bodyPost_ret (v:=.tuple #[.agg #[.int .i64 size,.int .i64 seq,.int .i64 half,.int .i64 used,.slice Av i cv,.slice none 0 0,.map (some (w.heap.size+1+1))],.int .i64 1]) ?_ rfl ?_
    ·simp[results,x0,x1,x2,x3,x4,x5,x6,go_sem]
    ·rw[hR.out];exact .inl ⟨HVB.out,_,_,_,_,_,_,_,_,_,_,_,rfl,(U9.chg (NoU.mk HR9.out (by decide))).ext HX9.out (by omega)⟩
   have u7:decide (used<(pt:Int))=false:=q_f hlu
   have HVB:Hid (qE s=true):=by
    have h9:decide ((pgs s:Int)<=s.used)=true:=q_t (by rw[HPS.out,<-hused.out];omega);rw[Hid];unfold qE;rw[h9,HHD.out,HOB.out,HTB9.out]
    rfl
   go_wp2_with (go_at_call 126;refine q_o ?_);refine (YD (HT.out.ext HX6.out) (by have:=HN2.out;omega)).mono ?_;rintro e w9 ⟨At,ct,rfl,hTs,e9⟩;have HTs:=q_h hTs;rw[<-HN2.out] at HTs;rw[<-HN2.out];have HX9:=q_h (HX6.out.trans e9);have HI9:=q_h (HI6.out.ext e9);have HB19:=q_h (e9.block HB16.out);clear hTs e9 q0 q1 q2 q3 q4 q5;obtain⟨wa,Ea,Ba,Ua⟩:=qL HI9.out.blk 5 (.slice At j ct);have f5:=qp HI9.out.blk 5;have c5:w9.cell? ⟨w.heap.size+1+1+1,5,none⟩=some (.slice none 0 0):=(qj HI9.out.blk 5).trans rfl;have Ca:=Ua.chg (NoU.mk HI9.out.blk (by decide));have HBa:Hid (wa.heap[w.heap.size+1+1+1]?=some (.cells #[.int .i64 size,.int .i64 seq,.int .i64 half,.int .i64 used,.slice Av i cv,.slice At j ct,.map (some (w.heap.size+1+1))] 99 (0,0))):=Ba;have HXa:Hid (Ext w wa):=Ca.ext HX9.out (by omega);have HB1a:Hid (wa.heap[w.heap.size+1]?=some (.cells #[.int .i64 0,.int .i64 0,.int .i64 0,.int .i64 0,.slice none 0 0,.slice none 0 0,.map none] 99 (0,0))):=(Ua.block _ (by omega)).trans HB19.out
   have HOa:Hid (ObG (w.heap.size+2) wa (.slice Av i cv) s.objs):=by
    have h9:=HI9.out.obs;exact h9.chg Ca HI9.out.blk (fun cs t fr e=>by injection e with _ e2 _;exact e2.symm)
   have HMa:Hid (MpS wa (w.heap.size+1+1) (mpO 0 s.objs)):=HI9.out.mp.chg Ca (by omega);have HTa:Hid (TgG w.heap.size wa (.slice At j ct) s.tags):=(HTs.out.low HX6.out.size).chg Ca HI9.out.blk (fun cs t fr e=>by injection e with _ e2 _;rw[<-e2];decide);go_upto_region 23 with (fail);clear c5 f5 Ea;obtain⟨k0,k1,k2,k3,k4,k5,k6⟩:=qP HBa.out;refine wp_region_lit ?_;refine wpList_plain rfl (fun K hK=>?_);go_simp;refine hK _ _ ?_;clear hK K;try simp only[nr]
   refine qh rfl 99 _ _ rfl (by rfl) (by rfl) HB1a.out zN (by rfl) (by rfl) (by rfl) ?_;intro wz Bz Uz;obtain⟨x0,x1,x2,x3,x4,x5,x6⟩:=qP Bz;have Cz:=Uz.chg (NoU.mk HB1a.out (by decide));go_wp2;refine bodyPost_ret (v:=.tuple #[.agg #[.int .i64 size,.int .i64 seq,.int .i64 half,.int .i64 used,.slice Av i cv,.slice At j ct,.map (some (w.heap.size+1+1))],.int .i64 0]) ?_ rfl ?_
   ·simp[results,x0,x1,x2,x3,x4,x5,x6,go_sem]
   ·rw[hR.out];refine .inr ⟨HVB.out,Av,cv,At,ct,w.heap.size+1+1,by rw[<-hsize.out,<-hseq.out,<-hhalf.out,<-hused.out,<-HN1.out,<-HN2.out],?_,HMa.out.chg Cz (by omega),by omega,?_,Cz.ext HXa.out (by omega)⟩
    ·have h9:=HOa.out.chg Cz HB1a.out (fun cs t fr e=>by injection e with _ e2 _;exact e2.symm);rw[<-HN1.out];exact h9.low (by omega)
    ·rw[<-HN2.out];exact HTa.out.chg Cz HB1a.out (fun cs t fr e=>by injection e with _ e2 _;rw[<-e2];decide)
theorem q1u (w:World):yJ w (.slice none 0 0) []:=⟨none,0,rfl,q_r,Nat.zero_le _,fun h=>by simp at h⟩
theorem q1s (w:World):jK w (.slice none 0 0) []:=⟨none,0,rfl,q_r,Nat.zero_le _,fun h=>by simp at h⟩
theorem zi (w:World):zJ w (.slice none 0 0) []:=⟨none,0,rfl,q_r,Nat.zero_le _,fun h=>by simp at h⟩
theorem zH (w:World):q0A w zSh zeroS:=⟨_,_,rfl,q1u w,q1s w⟩
def q34 (r:Shf×List qX×Byt×Int) (w:World) (e:Ending) (w':World):Prop:=∃sv av,e=.returned (.tuple #[sv,av,sV r.2.2.1,.int .i64 r.2.2.2])/\q0A w' sv r.1/\zJ w' av r.2.1/\Ext w w'
def q2Z (w:World) (v:Value) (s:Shf):Prop:=∃x y,v=.agg #[.int .i64 s.size,.int .i64 s.seq,.int .i64 s.half,.int .i64 s.used,x,y]/\(∃b,ObG b w x s.objs)/\∃b,TgG b w y s.tags
theorem q2Z.shf{s:Shf}(h:q2Z w v s):q0A w v s:=by
 obtain⟨x,y,h1,⟨b,h2⟩,⟨c,h3⟩⟩:=h;exact⟨x,y,h1,h2.obs,h3.tgs⟩
theorem q1v (w:World):ObG 0 w (.slice none 0 0) []:=⟨fun _=>undef,fun _=>undef,⟨Nat.zero_le _,by simp[obX],.inl ⟨rfl,rfl⟩⟩,fun j hj=>absurd hj (Nat.not_lt_zero j)⟩
theorem q1t (w:World):TgG 0 w (.slice none 0 0) []:=⟨Nat.zero_le _,by simp[tgX,obX],.inl ⟨rfl,rfl⟩⟩
theorem zK (w:World):q2Z w zSh zeroS:=⟨_,_,rfl,⟨0,q1v w⟩,⟨0,q1t w⟩⟩
def We (r:Shf×List qX×Byt×Int) (w:World) (e:Ending) (w':World):Prop:=∃sv av,e=.returned (.tuple #[sv,av,sV r.2.2.1,.int .i64 r.2.2.2])/\q2Z w' sv r.1/\zJ w' av r.2.1/\Ext w w'
structure OkS (s:Shf):Prop where
 ob:∀i,i<s.objs.length->Ok0 (s.objs.getD i default)
 tg:∀i,i<s.tags.length->okT (s.tags.getD i default)
 no:s.objs.length<=999
 nt:s.tags.length<=1000
theorem yx {s:Shf}(h:qE s=true):8<=s.size/\s.size<=4096/\0<=s.seq/\s.seq<=2147483647/\0<=s.half/\s.half<=1/\s.used<=qV s.size/\0<=s.used:=by
 unfold qE headB at h;simp only[Bool.and_eq_true,decide_eq_true_eq] at h;obtain⟨⟨h1,h2,h3,h4,h5,h6,h7⟩,h8,h9,h10⟩:=h;exact⟨h1,h2,h3,h4,h5,h6,h7,by omega⟩
theorem Xw {n:Int}(h:8<=n) (h2:n<=4096):0<=qV n/\qV n<=2048:=by
 unfold qV;rw[Int.tdiv_eq_ediv_of_nonneg (by omega)];omega
theorem VM (p:Nat) (P:Nat->qX) (M:List qX)(hj:j<p+M.length):vT p P M j=(((List.range p).map P)++M).getD j default:=by
 unfold vT
 by_cases h:j<p
 ·rw[if_pos h,List.getD_eq_getElem?_getD,List.getElem?_append_left (by simpa using h),List.getElem?_map,List.getElem?_range h]
  rfl
 ·rw[if_neg h,List.getD_eq_getElem?_getD,List.getD_eq_getElem?_getD,List.getElem?_append_right (by simpa using Nat.le_of_not_lt h),List.length_map,List.length_range]
theorem zG.list {p:Nat}{P:Nat->qX}{M:List qX}(h:zG base w v (p+M.length) (vT p P M)):zJ w v (((List.range p).map P)++M):=by
 have hl:(((List.range p).map P)++M).length=p+M.length:=by simp
 refine zG.acts (base:=base) ?_;rw[hl];exact h.congr (fun j hj=>VM p P M hj)
theorem JD {K:List Byt}{o:Ob}(h:obC o=0) (h2:K.contains (qM o)=false):jy K o=o.links.all (K.contains ·):=by
 unfold jy;rw[h,h2]
 rfl
theorem neT{q:Nat}{cs cs':Array Value}{t t':TypeId}{fr fr':Nat×Nat}(h:w.heap[g]?=some (.cells cs t fr)) (h':w.heap[q]?=some (.cells cs' t' fr')) (ht:t≠t'):q≠g:=by
 rintro rfl;rw[h] at h';injection h' with h'
 injection h' with e1 e2 e3
 exact ht e2
theorem StU.chgT{l:List Byt}(h:StU w v l) (C:Chg g (g+1) w w'){cs:Array Value}{t:TypeId}{fr:Nat×Nat}(hb:w.heap[g]?=some (.cells cs t fr)) (ht:t≠9):StU w' v l:=by
 have hk:∀q,v.ownBlock=some q->w'.heap[q]?=w.heap[q]?:=fun q hq=>by
  obtain⟨cs',fr',h1⟩:=h.2 q hq;have:=neT hb h1 ht;exact C.block q (qK h1) (by omega)
 refine⟨?_,fun q hq=>?_⟩
 ·obtain⟨A,c,rfl,h1,h2,h3⟩:=h.1;refine⟨A,c,rfl,h1,h2,fun hn=>?_⟩;obtain⟨b,off,rfl,h4⟩:=h3 hn;refine⟨b,off,rfl,fun i hi=>?_⟩;obtain⟨x,h5,h6⟩:=h4 i hi;exact⟨x,by rw[World.cell?_of_block (w:=w) (hk b rfl)];exact h5,h6⟩
 ·obtain⟨cs',fr',h1⟩:=h.2 q hq;exact⟨cs',fr',(hk q hq).trans h1⟩
theorem ByU.chgT{l:Byt}(h:ByU w v l) (C:Chg g (g+1) w w'){cs:Array Value}{t:TypeId}{fr:Nat×Nat}(hb:w.heap[g]?=some (.cells cs t fr)) (ht:t≠5):ByU w' v l:=by
 have hk:∀q,v.ownBlock=some q->w'.heap[q]?=w.heap[q]?:=fun q hq=>by
  obtain⟨cs',fr',h1⟩:=h.2 q hq;have:=neT hb h1 ht;exact C.block q (qK h1) (by omega)
 refine⟨?_,fun q hq=>?_⟩
 ·obtain⟨A,c,rfl,h1,h2,h3⟩:=h.1;refine⟨A,c,rfl,h1,h2,fun hn=>?_⟩;obtain⟨b,off,rfl,h4⟩:=h3 hn;exact⟨b,off,rfl,fun i hi=>by rw[World.cell?_of_block (w:=w) (hk b rfl)];exact h4 i hi⟩
 ·obtain⟨cs',fr',h1⟩:=h.2 q hq;exact⟨cs',fr',(hk q hq).trans h1⟩
theorem qI.chgT {ET:TypeId}{xs:List Value}(h:qI ET k base w v n xs) (C:Chg g (g+1) w w'){cs:Array Value}{t:TypeId}{fr:Nat×Nat}(hb:w.heap[g]?=some (.cells cs t fr)) (ht:t≠ET):qI ET k base w' v n xs:=by
 refine⟨q_l h.1 C.size,h.2.1,?_⟩
 rcases h.2.2 with h0|⟨g0,cap,cur,hv,hb0,hh,h3⟩
 ·exact .inl h0
 ·refine .inr ⟨g0,cap,cur,hv,hb0,C.blk hh ?_,h3⟩;have:=neT hb hh ht;omega
theorem ObG.chgT{L:List Ob}(h:ObG base w v L) (C:Chg g (g+1) w w'){cs:Array Value}{t:TypeId}{fr:Nat×Nat}(hb:w.heap[g]?=some (.cells cs t fr)) (h1:t≠9) (h2:t≠5) (h3:t≠29):ObG base w' v L:=by
 obtain⟨X,Y,h4,h5⟩:=h;exact⟨X,Y,h4.chgT C hb h3,fun j hj=>⟨(h5 j hj).1.chgT C hb h1,(h5 j hj).2.chgT C hb h2⟩⟩
theorem TgG.frm {base':Nat}{size seq half used:Int}{T tv:Value}{L:List Ob}{l:List Tg}(h:TgG base' w tv l) (hI:IxB base b g size seq half used v T L w) (F:Frm b g v w w'):TgG base' w' tv l:=by
 refine⟨q_l h.1 F.size,h.2.1,?_⟩
 rcases h.2.2 with h0|⟨g0,cap,cur,hv,hb0,hh,h3⟩
 ·exact .inl h0
 ·refine .inr ⟨g0,cap,cur,hv,hb0,F.blk hh (neT hI.blk hh (by decide)) ?_ ?_,h3⟩
  ·rintro rfl;obtain⟨es,k,h1,-⟩:=hI.mp;rw[hh] at h1;cases h1
  ·intro e;obtain⟨X,Y,h4,-⟩:=hI.obs
   rcases h4.2.2 with ⟨rfl,-⟩|⟨g1,cap1,cur1,rfl,-,hh1,-⟩
   ·simp[Value.ownBlock] at e
   ·obtain rfl:g1=g0:=by simpa[Value.ownBlock] using e
    exact neT hh1 hh (by decide) rfl
theorem zG.chgT{P:Nat->qX}(h:zG base w v n P) (C:Chg g (g+1) w w'){cs:Array Value}{t:TypeId}{fr:Nat×Nat}(hb:w.heap[g]?=some (.cells cs t fr)) (h2:t≠5) (h3:t≠91):zG base w' v n P:=by
 obtain⟨D,h4,h5⟩:=h;exact⟨D,h4.chgT C hb h3,fun j hj=>(h5 j hj).chgT C hb h2⟩
theorem WF (HT:x9){s:Shf}{o:Ob}{A1 A2:Option Addr}{n1 c1 n2 c2:Nat}{x y:Value}(hO:yJ w (.slice A1 n1 c1) s.objs) (hTg:jK w (.slice A2 n2 c2) s.tags) (hok:OkS s) (hob:ObR w x y o) (ho:Ok0 o) (he:kS w.heap.size w) :
  Calls Tryz.prog 13 #[.agg #[.int .i64 s.size,.int .i64 s.seq,.int .i64 s.half,.int .i64 s.used,.slice A1 n1 c1,.slice A2 n2 c2],.agg #[x,y]] w (We (QX s o) w):=by
 obtain⟨R,hR⟩:=qf (We (QX s o) w);rw[<-hR.out];have HO:=q_h hO;have HTG:=q_h hTg;have HOK:=q_h hok;have HOB:=q_h hob;have HKO:=q_h ho;have HEV:=q_h he;obtain⟨A0,c0,rfl,-⟩:=hob.1.form;obtain⟨A9,c9,rfl,-⟩:=hob.2.form;obtain⟨n0,hn0⟩:=qf o.links.length;obtain⟨n9,hn9⟩:=qf o.data.length;rw[<-hn0.out,<-hn9.out] at HOB ⊢
 have HCI:Hid (∀w',Ext w w'->Calls Tryz.prog 58 #[.agg #[.int .i64 s.size,.int .i64 s.seq,.int .i64 s.half,.int .i64 s.used,.slice A1 n1 c1,.slice A2 n2 c2]] w' (q0E s w')):=fun w' e =>
  wJ HT (HO.out.ext e) (HTG.out.ext e) HOK.out.ob HOK.out.tg (by have:=HOK.out.no;omega) HOK.out.nt (HEV.out.ext e).tab
 obtain⟨size,hsize⟩:=qf s.size;obtain⟨seq,hseq⟩:=qf s.seq;obtain⟨half,hhalf⟩:=qf s.half;obtain⟨used,hused⟩:=qf s.used;rw[<-hsize.out,<-hseq.out,<-hhalf.out,<-hused.out] at HCI ⊢;clear hO hTg hok hob ho he;go_enter Tryz.func13,Tryz.ntmps13;go_upto_region 1 with (fail);refine Jz ?_;intro w1 hE hsz B0 B1 B2;obtain⟨p0,p1,p2,p3,p4,p5⟩:=qw B0;have HB1:=q_h B1;have HB2:=q_h B2;have HX1:=q_h hE;go_wp2_with (go_at_call 58;refine q_o ?_);refine (HCI.out w1 HX1.out).mono ?_;rintro e w2 (⟨hvb,a,b,c,d,Ax,nx,cx,Bx,mx,dx,gx,rfl,e2⟩|⟨hvb,Av,cv,At,ct,gm,rfl,hO2,hM2,hg2,hT2,e2⟩)
 ·have HX2:=q_h (hE.trans e2);have HR2:=q_h (e2.block B2)
  have HP:Hid (QX s o=(zeroS,[],[],1)):=by
   rw[Hid];unfold QX;rw[if_pos hvb]
  clear p0 p1 p2 p3 p4 p5 B0 B1 B2 hE e2;go_upto_region 2 with (fail);refine qo ?_;intro w3 e3 hsz3 B8;clear B8;have HX9:=q_h (HX2.out.trans e3);have HR9:=q_h (e3.block HR2.out);clear e3;go_upto_region 3 with (fail);refine wp_region_lit ?_;refine wpList_plain rfl (fun K hK=>?_);go_simp;refine hK _ _ ?_;clear hK K;try simp only[nr]
  refine wpList_plain rfl (fun K hK=>?_);go_simp;refine hK _ _ ?_;clear hK K;try simp only[nr]
  refine qh rfl 25 _ _ rfl (by rfl) (by rfl) HR9.out qJ (by rfl) (by rfl) (by rfl) ?_;intro wz Bz Uz;obtain⟨x0,x1,x2,x3,x4,x5⟩:=qw Bz;go_wp2;refine bodyPost_ret (v:=.tuple #[zSh,.slice none 0 0,.string ⟨#[]⟩,.int .i64 (1)]) ?_ rfl ?_
  ·simp[results,x0,x1,x2,x3,x4,x5,go_sem,zSh]
  ·rw[hR.out];refine⟨zSh,.slice none 0 0,?_,?_,?_,(Uz.chg (NoU.mk HR9.out (by decide))).ext HX9.out (by omega)⟩
   ·rw[HP.out];rfl
   ·rw[HP.out];first|exact zH _|exact zK _
   ·rw[HP.out];exact zi _
 have HX2:=q_h (hE.trans e2);have HR2:=q_h (e2.block B2);have HB12:=q_h (e2.block B1);have HO2:=q_h hO2;have HM2:=q_h hM2;have HT2:=q_h hT2;have HGS:Hid (w1.heap.size<=gm):=hg2;obtain⟨n,hn⟩:=qf s.objs.length;obtain⟨nt,hnt⟩:=qf s.tags.length;have hh:=yx hvb;have HV:=q_h hvb;have hnn:n<=999:=by rw[hn.out];exact HOK.out.no
 rw[<-hsize.out,<-hseq.out,<-hhalf.out,<-hused.out] at hh;rw[<-hsize.out,<-hseq.out,<-hhalf.out,<-hused.out,<-hn.out,<-hnt.out];rw[<-hn.out] at HO2;rw[<-hnt.out] at HT2;clear p0 p1 p2 p3 p4 p5 B0 B1 B2 hE e2 hO2 hM2 hT2 hg2 hvb;go_upto_region 2 with (fail);refine qo ?_;intro w3 e3 hsz3 B8;obtain⟨b,hb⟩:=qf w2.heap.size;rw[<-hb.out] at B8 ⊢;have HS2:=q_h HX2.out.size;have HI3:Hid (IxB w1.heap.size b gm size seq half used (.slice Av n cv) (.slice At nt ct) s.objs w3):=⟨B8,by have:=HM2.out.lt;have:=hb.out;have:=HGS.out;omega,HGS.out,HO2.out.ext e3,HM2.out.ext e3⟩
 have HT3:=q_h (HT2.out.ext e3);have HX3:=q_h (HX2.out.trans e3);have HR3:=q_h (e3.block HR2.out);have HB13:=q_h (e3.block HB12.out)
 have hbw:w.heap.size+3<=b/\w.heap.size+3<=gm/\w.heap.size+3<=w1.heap.size:=by
  have:=HI3.out.hb;have:=HGS.out;omega
 clear e3 B8 HO2 HM2 HT2 HX2 HR2 HB12;obtain⟨p0,p1,-⟩:=cells2 HB13.out;obtain⟨s0,hs0⟩:=qf (sV (nmO o));obtain⟨z0,hz0⟩:=qf (obC o)
 have HCN:Hid (Calls Tryz.prog 15 #[.agg #[.slice A0 n0 c0,.slice A9 n9 c9]] w3 (qH w3 (.tuple #[s0,.int .i64 z0]))):=by
  rw[hs0.out,hz0.out];exact XU HT (HOB.out.ext HX3.out) HKO.out (HEV.out.ext HX3.out).tab
 go_wp2_with (go_at_call 15;refine q_o ?_);refine HCN.out.mono ?_;rintro e w4 ⟨rfl,e4⟩;have HX4:=q_h (HX3.out.trans e4);have HI4:=q_h (HI3.out.ext e4);have HT4:=q_h (HT3.out.ext e4);have HR4:=q_h (e4.block HR3.out);have HB14:=q_h (e4.block HB13.out);clear e4 p0 p1 HCN HX3 HI3 HT3 HR3 HB13
 by_cases hz:z0=0
 case neg =>
  have u3:(z0 != 0)=true:=by simpa using hz
  have u4:decide (z0=0)=false:=q_f hz
  have HP:Hid (QX s o=(zeroS,[],[],z0)):=by
   rw[Hid];unfold QX;rw[HV.out,if_neg (by simp),if_pos (by rw[<-hz0.out];exact hz),hz0.out]
  have HX9:=HX4;have HR9:=HR4;go_upto_region 6 with (fail);refine wp_region_lit ?_;refine wpList_plain rfl (fun K hK=>?_);go_simp;refine hK _ _ ?_;clear hK K;try simp only[nr]
  refine wpList_plain rfl (fun K hK=>?_);go_simp;refine hK _ _ ?_;clear hK K;try simp only[nr]
  refine qh rfl 25 _ _ rfl (by rfl) (by rfl) HR9.out qJ (by rfl) (by rfl) (by rfl) ?_;intro wz Bz Uz;obtain⟨x0,x1,x2,x3,x4,x5⟩:=qw Bz;go_wp2;refine bodyPost_ret (v:=.tuple #[zSh,.slice none 0 0,.string ⟨#[]⟩,.int .i64 (z0)]) ?_ rfl ?_
  ·simp[results,x0,x1,x2,x3,x4,x5,go_sem,zSh]
  ·rw[hR.out];refine⟨zSh,.slice none 0 0,?_,?_,?_,(Uz.chg (NoU.mk HR9.out (by decide))).ext HX9.out (by omega)⟩
   ·rw[HP.out];rfl
   ·rw[HP.out];first|exact zH _|exact zK _
   ·rw[HP.out];exact zi _
 have u3:(z0 != 0)=false:=by rw[hz];rfl
 have u4:decide (z0=0)=true:=q_t hz;have HZ:Hid (obC o=0):=by rw[Hid,<-hz0.out];exact hz
 have HNM:Hid (s0=sV (qM o)):=by
  rw[Hid,hs0.out];unfold nmO;rw[HZ.out]
  rfl
 obtain⟨z1,hlk,hz1⟩:=xR HI4.out.mp (qM o);rw[<-HNM.out] at hlk;have HZ1:=q_h hz1;obtain⟨q1,hq1⟩:=qf ((s.objs.map qM).contains (qM o));rw[<-hq1.out] at hlk;have c6:w4.cell? ⟨b,6,none⟩=some (.map (some gm)):=(qj HI4.out.blk 6).trans rfl;clear hz1;cases q1 with
 | true =>
  have hsome:∃j,(s.objs.map qM).idxOf? (qM o)=some j:=by
   have h9:=zf (s.objs.map qM) (qM o);rw[<-hq1.out] at h9;cases h8:(s.objs.map qM).idxOf? (qM o) with
   | none=>rw[h8] at h9;cases h9
   | some j=>exact⟨j,rfl⟩
  obtain⟨j,hj⟩:=hsome;have hzj:z1=(j:Int):=HZ1.out j hj
  have hjl:j<s.objs.length:=by
   have h9:=List.idxOf?_eq_some_iff.1 hj;obtain⟨hjj,-⟩:=h9;simpa using hjj
  have HJ:=q_h hj;have hjn:j<n:=by have:=hn.out;omega
  have HOS:=HI4.out.obs.obs;obtain⟨go,off,hAv,hx⟩:=yJ.at_ HOS hn.out (by omega);subst hAv;obtain⟨C1,m1,e1,C2,m2,e2,k0,k1,hor⟩:=hx j hjn;have HOR:=q_h hor;subst hzj;clear hx hor HOS hj;go_upto_region 9 with (fail);obtain⟨p0,p1,-⟩:=cells2 HB14.out;have b4:w4.cell? ⟨b,4,none⟩=some (.slice (some ⟨go,off,none⟩) n cv):=(qj HI4.out.blk 4).trans rfl;have hji:(j:Int)<(n:Int):=by omega
  clear c6 hlk;have eC:=(Ext.refl w4).drew;refine ql (fun w'=>w'.cell? ⟨b,4,none⟩=some (.slice (some ⟨go,off,none⟩) n cv)/\w'.cell? ⟨go,off+j*2,none⟩=some (.slice C1 m1 e1)/\w'.cell? ⟨go,off+j*2+1,none⟩=some (.slice C2 m2 e2)/\w'.cell? ⟨w.heap.size+1,0,none⟩=some (.slice A0 n0 c0)/\w'.cell? ⟨w.heap.size+1,1,none⟩=some (.slice A9 n9 c9)) [] (by kernel_rfl) (by exact⟨eC.cell b4,eC.cell k0,eC.cell k1,eC.cell p0,eC.cell p1⟩) (fun hHeld=>?_);refine sP 0 (h:=?_);refine sP 1 (h:=?_);refine sT 2 (h:=?_);refine sP 3 (h:=?_);refine sP 4 (h:=?_);refine sT 5 (h:=?_);refine sT 6 (h:=?_);refine qg (i:=7) rfl (by kernel_rfl) (fun K hK=>?_);go_simp;refine (WB (HOR.out.ext eC) (HOB.out.ext (HX4.out.trans eC)) (HOK.out.ob j hjl) HKO.out).mono ?_;rintro e w5 ⟨rfl,e5⟩;obtain⟨r,hr⟩:=qf (decide (s.objs.getD j default=o));rw[<-hr.out];replace eC:=eC.trans e5;go_wp2_with fail;clear hHeld;refine hK.out _ _ (by exact⟨eC.cell b4,eC.cell k0,eC.cell k1,eC.cell p0,eC.cell p1⟩) fun hHeld=>?_
  clear hK K;try simp only[nr]
  refine sP 8 (h:=?_);refine qm (by kernel_rfl) ?_ _;clear hHeld;have HX5:=q_h (HX4.out.trans eC);have HI5:=q_h (HI4.out.ext eC);have HT5:=q_h (HT4.out.ext eC);have HR5:=q_h (eC.block HR4.out);clear eC e5 b4 k0 k1 p0 p1
  have HGJ:Hid (s.objs[j]?=some (s.objs.getD j default)):=by
   rw[Hid,List.getD_eq_getElem?_getD,List.getElem?_eq_getElem hjl]
   rfl
  cases r with
  | false =>
   have HP:Hid (QX s o=(zeroS,[],[],18)):=by
    rw[Hid];unfold QX xY;rw[HV.out,if_neg (by simp),if_neg (by simpa using HZ.out),HJ.out]
    have h9:¬s.objs[j]?=some o:=by
     rw[HGJ.out];intro h8;have h7:=hr.out;rw[Option.some.inj h8] at h7;simp at h7
    show (if s.objs[j]?=some o then (s,[],qM o,0) else (zeroS,[],[],18))=_
    rw[if_neg h9]
   have HX9:=HX5;have HR9:=HR5;go_upto_region 10 with (fail);refine wp_region_lit ?_;refine wpList_plain rfl (fun K hK=>?_);go_simp;refine hK _ _ ?_;clear hK K;try simp only[nr]
   refine qh rfl 25 _ _ rfl (by rfl) (by rfl) HR9.out qJ (by rfl) (by rfl) (by rfl) ?_;intro wz Bz Uz;obtain⟨x0,x1,x2,x3,x4,x5⟩:=qw Bz;go_wp2;refine bodyPost_ret (v:=.tuple #[zSh,.slice none 0 0,.string ⟨#[]⟩,.int .i64 (18)]) ?_ rfl ?_
   ·simp[results,x0,x1,x2,x3,x4,x5,go_sem,zSh]
   ·rw[hR.out];refine⟨zSh,.slice none 0 0,?_,?_,?_,(Uz.chg (NoU.mk HR9.out (by decide))).ext HX9.out (by omega)⟩
    ·rw[HP.out];rfl
    ·rw[HP.out];first|exact zH _|exact zK _
    ·rw[HP.out];exact zi _
  | true =>
   have HP:Hid (QX s o=(s,[],qM o,0)):=by
    rw[Hid];unfold QX xY;rw[HV.out,if_neg (by simp),if_neg (by simpa using HZ.out),HJ.out]
    have h9:s.objs[j]?=some o:=by
     rw[HGJ.out,of_decide_eq_true hr.out.symm]
    show (if s.objs[j]?=some o then (s,[],qM o,0) else (zeroS,[],[],18))=_
    rw[if_pos h9]
   go_upto_region 11 with (fail);obtain⟨k0,k1,k2,k3,k4,k5,k6⟩:=qP HI5.out.blk;refine wp_region_lit ?_;refine wpList_plain rfl (fun K hK=>?_);go_simp;refine hK _ _ ?_;clear hK K;try simp only[nr]
   refine wpList_plain rfl (fun K hK=>?_);go_simp;refine hK _ _ ?_;clear hK K;try simp only[nr]
   refine wpList_plain rfl (fun K hK=>?_);go_simp;refine hK _ _ ?_;clear hK K;try simp only[nr]
   refine qh rfl 25 _ _ rfl (by rfl) (by rfl) HR5.out qJ (by rfl) (by rfl) (by rfl) ?_;intro wz Bz Uz;obtain⟨x0,x1,x2,x3,x4,x5⟩:=qw Bz;go_wp2;refine bodyPost_ret (v:=.tuple #[.agg #[.int .i64 size,.int .i64 seq,.int .i64 half,.int .i64 used,.slice (some ⟨go,off,none⟩) n cv,.slice At nt ct],.slice none 0 0,s0,.int .i64 0]) ?_ rfl ?_
   ·simp[results,x0,x1,x2,x3,x4,x5,go_sem]
   ·rw[hR.out];have Cz:=Uz.chg (NoU.mk HR5.out (by decide));refine⟨_,.slice none 0 0,by rw[HP.out,HNM.out],?_,?_,Cz.ext HX5.out (by omega)⟩
    ·rw[HP.out];refine⟨_,_,by rw[<-hsize.out,<-hseq.out,<-hhalf.out,<-hused.out],?_,?_⟩
     ·exact⟨_,HI5.out.obs.chgT Cz HR5.out (by decide) (by decide) (by decide)⟩
     ·have h9:=HT5.out;rw[hnt.out] at h9 ⊢;exact⟨_,qI.chgT h9 Cz HR5.out (by decide)⟩
    ·rw[HP.out];exact zi _
 | false =>
  have HNI:Hid ((s.objs.map qM).idxOf? (qM o)=none):=by
   have h9:=zf (s.objs.map qM) (qM o);rw[<-hq1.out] at h9;cases h8:(s.objs.map qM).idxOf? (qM o) with
   | none=>rfl
   | some j=>rw[h8] at h9;cases h9
  have HAL:Hid (jy (s.objs.map qM) o=o.links.all ((s.objs.map qM).contains ·)):=JD HZ.out hq1.out.symm
  have HPN:Hid (QX s o=if o.links.all ((s.objs.map qM).contains ·)=false then ((zeroS,[],[],6):Shf×List qX×Byt×Int) else match QM s (obE o) with|none=>(zeroS,[],[],17)|some (t,acts)=>({ t with objs:=s.objs ++ [o] },acts,qM o,0)):=by
   rw[Hid];unfold QX xY;rw[HV.out,if_neg (by simp),if_neg (by simpa using HZ.out),HNI.out]
   rfl
  obtain⟨p0,p1,-⟩:=cells2 HB14.out;go_wp2_with (go_at_call 60;refine q_o ?_);refine (wI HT HI4.out (HOB.out.ext HX4.out) HKO.out (HEV.out.ext HX4.out).tab (by have:=hn.out;omega)).mono ?_;clear c6 hlk;rintro e w5 (⟨rfl,hadd,e5⟩|⟨rfl,hadd,v5,hI5,hF5,hV5⟩)
  ·have HP:Hid (QX s o=(zeroS,[],[],6)):=by
    have h9:o.links.all ((s.objs.map qM).contains ·)=false:=by rw[<-HAL.out];exact hadd
    rw[Hid,HPN.out,if_pos h9]
   have HX9:=q_h (HX4.out.trans e5);have HR9:=q_h (e5.block HR4.out);clear p0 p1 e5;go_upto_region 13 with (fail);refine wp_region_lit ?_;refine wpList_plain rfl (fun K hK=>?_);go_simp;refine hK _ _ ?_;clear hK K;try simp only[nr]
   refine qh rfl 25 _ _ rfl (by rfl) (by rfl) HR9.out qJ (by rfl) (by rfl) (by rfl) ?_;intro wz Bz Uz;obtain⟨x0,x1,x2,x3,x4,x5⟩:=qw Bz;go_wp2;refine bodyPost_ret (v:=.tuple #[zSh,.slice none 0 0,.string ⟨#[]⟩,.int .i64 (6)]) ?_ rfl ?_
   ·simp[results,x0,x1,x2,x3,x4,x5,go_sem,zSh]
   ·rw[hR.out];refine⟨zSh,.slice none 0 0,?_,?_,?_,(Uz.chg (NoU.mk HR9.out (by decide))).ext HX9.out (by omega)⟩
    ·rw[HP.out];rfl
    ·rw[HP.out];first|exact zH _|exact zK _
    ·rw[HP.out];exact zi _
  have HOK5:=q_h (Qi hadd)
  have HPY:Hid (QX s o=match QM s (obE o) with|none=>((zeroS,[],[],17):Shf×List qX×Byt×Int)|some (t,acts)=>({ t with objs:=s.objs ++ [o] },acts,qM o,0)):=by
   have h9:o.links.all ((s.objs.map qM).contains ·)=true:=by rw[<-HAL.out];exact hadd
   rw[Hid,HPN.out,if_neg (by rw[h9];simp)]
  have HOWN:Hid (∀k,(Value.slice Av n cv).ownBlock=some k->w.heap.size+3<=k):=fun k hk=>by
   have:=(HI4.out.obs.own_lt k hk).1;omega
  have HX5:Hid (Ext w w5):=hF5.toExt HX4.out (by omega) (by omega) (fun k hk=>by have:=HOWN.out k hk;omega);have HR5:=q_h (hF5.blk HR4.out (by omega) (by omega) (fun e=>by have:=HOWN.out _ e;omega));have HB15:=q_h (hF5.blk HB14.out (by omega) (by omega) (fun e=>by have:=HOWN.out _ e;omega))
  have HT5:Hid (TgG w1.heap.size w5 (.slice At nt ct) s.tags):=by
   have h9:=HT4.out;exact TgG.frm h9 HI4.out hF5
  have HI5:=q_h hI5;clear hF5 hV5 hI5 hadd p0 p1 HI4 HT4 HR4 HB14;obtain⟨p0,p1,-⟩:=cells2 HB15.out;have HE5:=q_h (YV HOK5.out);go_wp2_with (go_at_call 62;refine q_o ?_);refine (Qw HT (HOB.out.ext HX5.out) HOK5.out (HEV.out.ext HX5.out).tab).mono ?_;rintro e w6 ⟨v6,rfl,hG6,e6⟩;have HG6:=q_h hG6.by
  have HX6:=q_h (HX5.out.trans e6);have HI6:=q_h (HI5.out.ext e6);have HT6:=q_h (HT5.out.ext e6);have HR6:=q_h (e6.block HR5.out);clear hG6 e6 p0 p1 HB15 HX5 HI5 HT5 HR5;have HEN:Hid (kS w1.heap.size w6):=(HEV.out.ext HX6.out).low HX1.out.size
  have hs9:0<=used/\used<=1000000:=by
   have:=Xw hh.1 hh.2.1;omega
  go_wp2_with (go_at_call 61;refine q_o ?_);refine (yN HI6.out HG6.out (by have:=HE5.out.2;omega) HEN.out (by omega) (by omega) hs9.1 hs9.2 (by omega) (by omega) (by omega) (by omega)).mono ?_;rintro e w7 (⟨hf,rfl,e7⟩|⟨hf1,hf2,u7,rfl,hA7,hI7,hF7⟩)
  ·have HP:Hid (QX s o=(zeroS,[],[],17)):=by
    have h9:QM s (obE o)=none:=by
     unfold QM;rw[if_pos (by rw[<-hsize.out,<-hused.out,<-hseq.out];exact hf)]
    rw[Hid,HPY.out,h9]
   have HX9:=q_h (HX6.out.trans e7);have HR9:=q_h (e7.block HR6.out);clear e7;go_upto_region 16 with (fail);refine wp_region_lit ?_;refine wpList_plain rfl (fun K hK=>?_);go_simp;refine hK _ _ ?_;clear hK K;try simp only[nr]
   refine qh rfl 25 _ _ rfl (by rfl) (by rfl) HR9.out qJ (by rfl) (by rfl) (by rfl) ?_;intro wz Bz Uz;obtain⟨x0,x1,x2,x3,x4,x5⟩:=qw Bz;go_wp2;refine bodyPost_ret (v:=.tuple #[zSh,.slice none 0 0,.string ⟨#[]⟩,.int .i64 (17)]) ?_ rfl ?_
   ·simp[results,x0,x1,x2,x3,x4,x5,go_sem,zSh]
   ·rw[hR.out];refine⟨zSh,.slice none 0 0,?_,?_,?_,(Uz.chg (NoU.mk HR9.out (by decide))).ext HX9.out (by omega)⟩
    ·rw[HP.out];rfl
    ·rw[HP.out];first|exact zH _|exact zK _
    ·rw[HP.out];exact zi _
  have HOWN6:Hid (∀k,v5.ownBlock=some k->w.heap.size+3<=k):=fun k hk=>by
   have:=(HI6.out.obs.own_lt k hk).1;omega
  have HX7:Hid (Ext w w7):=hF7.toExt HX6.out (by omega) (by omega) (fun k hk=>by have:=HOWN6.out k hk;omega);have HR7:=q_h (hF7.blk HR6.out (by omega) (by omega) (fun e=>by have:=HOWN6.out _ e;omega));have HT7:Hid (TgG w1.heap.size w7 (.slice At nt ct) s.tags):=TgG.frm HT6.out HI6.out hF7;have hfrm:=hI7.obs.form;obtain⟨A7,c7,hv7,-⟩:=hfrm;obtain⟨n7,hn7⟩:=qf (s.objs ++ [o]).length;rw[<-hn7.out] at hv7;subst hv7;obtain⟨B7,d7,rfl,-⟩:=hA7.form;obtain⟨p,hp⟩:=qf (pgN (obE o));rw[<-hp.out] at hA7 hI7 hf1 ⊢;have HA7:=q_h hA7;have HI7:=q_h hI7;clear hA7 hI7 hF7
  have HP:Hid (QX s o=(⟨size,seq+1,half,used+p,s.objs ++ [o],s.tags⟩,((List.range p).map (fun j:Nat=>(⟨2+half*qV size+used+j,pgE (obE o) j,false⟩:qX)))++Zr (seq+1) half (used+p),qM o,0)):=by
   have h9:QM s (obE o)=some (⟨size,seq+1,half,used+p,s.objs,s.tags⟩,((List.range p).map (fun j:Nat=>(⟨2+half*qV size+used+j,pgE (obE o) j,false⟩:qX)))++Zr (seq+1) half (used+p)):=by
    unfold QM;rw[if_neg (by rw[<-hsize.out,<-hused.out,<-hseq.out,<-hp.out];omega)];rw[hsize.out,hseq.out,hhalf.out,hused.out,hp.out]
    rfl
   rw[Hid,HPY.out,h9]
  go_upto_region 17 with (fail);obtain⟨k0,k1,k2,k3,k4,k5,k6⟩:=qP HI7.out.blk;refine wp_region_lit ?_;refine wpList_plain rfl (fun K hK=>?_);go_simp;refine hK _ _ ?_;clear hK K;try simp only[nr]
  refine wpList_plain rfl (fun K hK=>?_);go_simp;refine hK _ _ ?_;clear hK K;try simp only[nr]
  refine wpList_plain rfl (fun K hK=>?_);go_simp;refine hK _ _ ?_;clear hK K;try simp only[nr]
  refine wpList_plain rfl (fun K hK=>?_);go_simp;refine hK _ _ ?_;clear hK K;try simp only[nr]
  refine qh rfl 25 _ _ rfl (by rfl) (by rfl) HR7.out qJ (by rfl) (by rfl) (by rfl) ?_;intro wz Bz Uz;obtain⟨x0,x1,x2,x3,x4,x5⟩:=qw Bz;go_wp2;refine bodyPost_ret (v:=.tuple #[.agg #[.int .i64 size,.int .i64 (seq+1),.int .i64 half,.int .i64 (used+p),.slice A7 n7 c7,.slice At nt ct],.slice B7 (p+3) d7,s0,.int .i64 0]) ?_ rfl ?_
  ·simp[results,x0,x1,x2,x3,x4,x5,go_sem]
  ·rw[hR.out];have Cz:=Uz.chg (NoU.mk HR7.out (by decide));refine⟨_,.slice B7 (p+3) d7,by rw[HP.out,HNM.out],?_,?_,Cz.ext HX7.out (by omega)⟩
   ·rw[HP.out];refine⟨_,_,rfl,⟨_,HI7.out.obs.chgT Cz HR7.out (by decide) (by decide) (by decide)⟩,?_⟩;have h9:=HT7.out;rw[hnt.out] at h9 ⊢;exact⟨_,qI.chgT h9 Cz HR7.out (by decide)⟩
   ·rw[HP.out];exact zG.list (M:=Zr (seq+1) half (used+p)) (HA7.out.chgT Cz HR7.out (by decide) (by decide))
theorem q1j (HT:x9){s:Shf}{o:Ob}{A1 A2:Option Addr}{n1 c1 n2 c2:Nat}{x y:Value}(hO:yJ w (.slice A1 n1 c1) s.objs) (hTg:jK w (.slice A2 n2 c2) s.tags) (hok:OkS s) (hob:ObR w x y o) (ho:Ok0 o) (he:kS w.heap.size w) :
  Calls Tryz.prog 13 #[.agg #[.int .i64 s.size,.int .i64 s.seq,.int .i64 s.half,.int .i64 s.used,.slice A1 n1 c1,.slice A2 n2 c2],.agg #[x,y]] w (q34 (QX s o) w) :=
 (WF HT hO hTg hok hob ho he).mono fun e w' h=>by
  obtain⟨sv,av,h1,h2,h3,h4⟩:=h;exact⟨sv,av,h1,h2.shf,h3,h4⟩
end Go.Proofs.YtdeeekdbhhenpaaGreatDoor
