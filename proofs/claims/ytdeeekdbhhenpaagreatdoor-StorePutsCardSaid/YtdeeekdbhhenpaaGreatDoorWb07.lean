import Derived.Test.YtdeeekdbhhenpaaGreatDoorWb06
import Derived.Lib.AppendZerosOnto
import Derived.Laws.CopyOwn
set_option linter.all false
set_option maxHeartbeats 8000000
set_option maxRecDepth 100000
namespace Go.Proofs.YtdeeekdbhhenpaaGreatDoor
variable {w w':World} {N n lo hi k g i m base c j:Nat} {v:Value} {z:Int} {A:Option Addr}
section
open Go.RowKit
theorem kJ{l:Byt}(h:ByV w v l) (hl:l.length<=1000000):Calls Tryz.prog 121 #[v] w (qG w (.int .i64 (pgN l:Int))):=by
 obtain⟨A,c,rfl,-⟩:=h;obtain⟨n,hn⟩:=qc l.length;obtain⟨r,hr⟩:=qc ((pgN l:Int));rw[<-hn.out,<-hr.out];have hnl:n<=1000000:=by rw[hn.out];exact hl
 have t1:IntKind.i64.wrap (4+(n:Int))=4+(n:Int):=wrp (by omega) (by omega);have t2:IntKind.i64.wrap (4+(n:Int)+64)=4+(n:Int)+64:=wrp (by omega) (by omega);have t3:IntKind.i64.wrap (4+(n:Int)+64-1)=4+(n:Int)+64-1:=wrp (by omega) (by omega);have t4:(4+(n:Int)+64-1) / 64=r:=by rw[hr.out,hn.out];unfold pgN;omega
 have t5:(4+(n:Int)+64-1).tdiv 64=r:=by rw[Int.tdiv_eq_ediv_of_nonneg (by omega)];exact t4
 have t6:IntKind.i64.wrap r=r:=wrp (by omega) (by omega);clear hr;go_enter Tryz.func121,Tryz.ntmps121;go_wp2
 first|go_ret|skip
 exact⟨rfl,Ext.refl _⟩
theorem jP {n:Int}(h1:0<=n) (h2:n<=1000000) : -1<=qP n/\qP n<=1000000:=by
 unfold qP
 by_cases h:2<=n
 ·rw[Int.tdiv_eq_ediv_of_nonneg (by omega)];omega
 ·have:n=0\/n=1:=by omega
  rcases this with rfl|rfl<;>decide
theorem JX {n:Int}(h1:0<=n) (h2:n<=1000000) (w:World):Calls Tryz.prog 87 #[.int .i64 n] w (qG w (.int .i64 (qP n))):=by
 obtain⟨r,hr⟩:=qc (qP n);rw[<-hr.out];have t1:IntKind.i64.wrap (n-2)=n-2:=wrp (by omega) (by omega);have t2:(n-2).tdiv 2=r:=hr.out.symm;have hb:=jP h1 h2;have t3:IntKind.i64.wrap r=r:=wrp (by rw[hr.out];omega) (by rw[hr.out];omega);clear hb;clear hr;go_enter Tryz.func87,Tryz.ntmps87;go_wp2
 first|go_ret|skip
 exact⟨rfl,Ext.refl _⟩
theorem wY {n:Int}(h1:0<=n) (h2:n<=1000000) (w:World):Calls Tryz.prog 103 #[.int .i64 n] w (qG w (.int .i64 (qP n))):=by
 obtain⟨r,hr⟩:=qc (qP n);rw[<-hr.out];have t1:IntKind.i64.wrap (n-2)=n-2:=wrp (by omega) (by omega);have t2:(n-2).tdiv 2=r:=hr.out.symm;have hb:=jP h1 h2;have t3:IntKind.i64.wrap r=r:=wrp (by rw[hr.out];omega) (by rw[hr.out];omega);clear hb;clear hr;go_enter Tryz.func103,Tryz.ntmps103;go_wp2
 first|go_ret|skip
 exact⟨rfl,Ext.refl _⟩
theorem V6 {l:Byt}(hz:z=chZ l i):Zg (l.getD i 0)=((decide (97<=z)&&decide (z<=122))||(decide (48<=z)&&decide (z<=57))||decide (z=46)||decide (z=45)):=by
 unfold chZ at hz;unfold Zg isLow;rw[hz,Bool.eq_iff_iff];simp only[Bool.or_eq_true,Bool.and_eq_true,decide_eq_true_eq,beq_iff_eq];omega
def WF (l:Byt):Bool:=match l with|[]=>false|c :: _=>isLow c&&(l.length<=24&&l.all Zg)
theorem J8 (l:Byt):JJ l=(vG l||WF l):=by
 unfold JJ WF;cases l<;>rfl
theorem ZT {l:Byt}(h:0<l.length):WF l=(isLow (l.getD 0 0)&&(decide (l.length<=24)&&l.all Zg)):=by
 cases l with
 | nil=>exact absurd h (Nat.not_lt_zero 0)
 | cons c r=>rfl
theorem Qx (s:ByteArray):s.toList.isEmpty=decide (s.size=0):=by
 rw[ByteArray.toList_eq,Bool.eq_iff_iff,decide_eq_true_eq,List.isEmpty_iff_length_eq_zero,Array.length_toList]
 rfl
theorem Zj (s:ByteArray) (hs:s.size<=9223372036854775807) (w:World):Calls Tryz.prog 115 #[.string s] w (qG w (.bool (JJ (zS s)))):=by
 rw[J8];obtain⟨a,ha⟩:=qc (vG (zS s));obtain⟨r,hr⟩:=qc (WF (zS s));rw[<-ha.out,<-hr.out];have hem:=Qx s;obtain⟨n,hn⟩:=qc s.size;have HN:Hid ((zS s).length=n):=by rw[Hid,hn.out];exact zQ s
 go_enter Tryz.func115,Tryz.ntmps115;go_wp2_with (go_at_call 68;refine q_o ?_);refine (QZ s hs w).mono ?_;rintro e w1 ⟨rfl,e1⟩;rw[<-ha.out];cases a with
 | true =>
  go_wp2
  first|go_ret|skip
  exact⟨rfl,e1⟩
 | false =>
 by_cases h0:s.size=0
 ·have u0:decide (s.size=0)=true:=q_t h0;rw[u0] at hem
  have HR:Hid (r=false):=by
   rw[Hid,hr.out];have e9:zS s=[]:=List.eq_nil_of_length_eq_zero (by rw[zQ];exact h0);rw[e9];rfl
  clear u0 h0;go_wp2
  first|go_ret|skip
  rw[HR.out];exact⟨rfl,e1⟩
 have u0:decide (s.size=0)=false:=q_f h0;rw[u0] at hem;have hpos:0<s.size:=by omega
 have HR:Hid (r=(isLow ((zS s).getD 0 0)&&(decide (n<=24)&&(zS s).all Zg))):=by
  rw[Hid,hr.out,ZT (by rw[zQ];exact hpos),HN.out]
 obtain⟨c,hc⟩:=qc (chZ (zS s) 0)
 have hix0:∀w,(Instr.index 9 (.string s) (.int .i64 0)).run Tryz.prog w=.ok (.int .u8 c) w:=by
  have h9:=ji (s:=s) (i:=0) (k:=.i64) hpos;rw[<-hc.out] at h9;exact h9
 have HLW:Hid (isLow ((zS s).getD 0 0)=(decide (97<=c)&&decide (c<=122))):=by
  rw[Hid,hc.out];unfold isLow chZ;rw[Bool.eq_iff_iff];simp only[Bool.and_eq_true,decide_eq_true_eq];omega
 rw[HLW.out] at HR;have hnn:n=s.size:=hn.out;clear u0 h0 hr hn
 by_cases h24:24<s.size
 ·have u1:decide ((24:Int)<(s.size:Int))=true:=q_t (by omega);have u1':decide (24<s.size)=true:=q_t h24;have HX:Hid (r=false):=by rw[Hid,HR.out,(q_f (by omega):decide (n<=24)=false),Bool.false_and,Bool.and_false]
  clear h24 hnn;go_wp2
  first|go_ret|skip
  rw[HX.out];exact⟨rfl,e1⟩
 have u1:decide ((24:Int)<(s.size:Int))=false:=q_f (by omega);have u1':decide (24<s.size)=false:=q_f h24
 by_cases hl1:c<97
 ·have u2:decide (c<97)=true:=q_t hl1;have HX:Hid (r=false):=by rw[Hid,HR.out,(q_f (by omega):decide (97<=c)=false),Bool.false_and,Bool.false_and]
  clear h24 hnn hl1;go_wp2
  first|go_ret|skip
  rw[HX.out];exact⟨rfl,e1⟩
 have u2:decide (c<97)=false:=q_f hl1
 by_cases hl2:122<c
 ·have u3:decide (122<c)=true:=q_t hl2;have HX:Hid (r=false):=by rw[Hid,HR.out,(q_f (by omega):decide (c<=122)=false),Bool.and_false,Bool.false_and]
  clear h24 hnn hl1 hl2;go_wp2
  first|go_ret|skip
  rw[HX.out];exact⟨rfl,e1⟩
 have u3:decide (122<c)=false:=q_f hl2
 have HA:Hid (r=(zS s).all Zg):=by
  rw[Hid,HR.out,(q_t (by omega):decide (97<=c)=true),(q_t (by omega):decide (c<=122)=true),(q_t (by omega):decide (n<=24)=true)]
  rfl
 have hn24:s.size<=24:=by omega
 clear h24 hl1 hl2 HR HLW;go_wp2_with fail
 go_loopw [26] (fun iv wr=>∃i:Nat,i<=s.size/\iv=.int .i64 (i:Int)/\Hid (∀j,j<i->Zg ((zS s).getD j 0)=true)/\wr=w1) (fun iv _=>s.size-(intOf iv).toNat)
 case atStart=>exact⟨0,Nat.zero_le _,rfl,fun j hj=>absurd hj (Nat.not_lt_zero j),rfl⟩
 case round =>
  clear hix0;obtain⟨i,hi9,rfl,HI,rfl⟩:=hrel
  by_cases hlt:i<s.size
  case neg =>
   have v1:decide ((i:Int)<(s.size:Int))=false:=q_f (by omega);have v1':decide (i<s.size)=false:=q_f hlt
   have HX:Hid (r=true):=by
    rw[Hid,HA.out];exact yF (n:=i) HI.out (by rw[HN.out];omega)
   go_wp2
   first|go_ret|skip
   rw[HX.out];exact⟨rfl,e1⟩
  have v1:decide ((i:Int)<(s.size:Int))=true:=q_t (by omega);have v1':decide (i<s.size)=true:=q_t hlt;obtain⟨z,hz⟩:=qc (chZ (zS s) i);have hix:=ji (s:=s) (i:=i) (k:=.i64) hlt;rw[<-hz.out] at hix;have HH:=q_h (V6 hz.out)
  by_cases hhx:Zg ((zS s).getD i 0)=true
  case neg =>
   have HX:Hid (r=false):=by
    rw[Hid,HA.out];exact Qm (i:=i) (by rw[HN.out];omega) (by simpa using hhx)
   rw[HH.out] at hhx;simp only[Bool.or_eq_true,Bool.and_eq_true,decide_eq_true_eq] at hhx;have w5:(z != 46)=true:=by simp;omega
   have w6:(z != 45)=true:=by simp;omega
   by_cases h1:z<97
   ·have x1:decide (z<97)=true:=q_t h1
    by_cases h3:z<48
    ·have x3:decide (z<48)=true:=q_t h3;clear hhx h1 h3;go_wp2
     first|go_ret|skip
     rw[HX.out];exact⟨rfl,e1⟩
    have x3:decide (z<48)=false:=q_f h3;have x4:decide (57<z)=true:=q_t (by omega);clear hhx h1 h3;go_wp2
    first|go_ret|skip
    rw[HX.out];exact⟨rfl,e1⟩
   have x1:decide (z<97)=false:=q_f h1;have x2:decide (122<z)=true:=q_t (by omega);have x3:decide (z<48)=false:=q_f (by omega);have x4:decide (57<z)=true:=q_t (by omega);clear hhx h1;go_wp2
   first|go_ret|skip
   rw[HX.out];exact⟨rfl,e1⟩
  have HI2:Hid (∀j,j<i+1->Zg ((zS s).getD j 0)=true):=fun j hj=>by
   by_cases hji:j=i
   ·rw[hji];exact hhx
   ·exact HI.out j (by omega)
  rw[HH.out] at hhx;simp only[Bool.or_eq_true,Bool.and_eq_true,decide_eq_true_eq] at hhx
  by_cases h1:z<97
  ·have x1:decide (z<97)=true:=q_t h1
   by_cases h3:z<48
   ·have x3:decide (z<48)=true:=q_t h3
    by_cases h5:z=46
    ·have x5:(z != 46)=false:=by simp[h5]
     clear hhx h1 h3 h5;go_wp2;go_roundw
     case rel=>exact⟨i+1,by omega,by go_num,HI2,trivial⟩
     case measure=>simp[intOf];omega
    have x5:(z != 46)=true:=by simp[h5]
    have x6:(z != 45)=false:=by simp;omega
    clear hhx h1 h3 h5;go_wp2;go_roundw
    case rel=>exact⟨i+1,by omega,by go_num,HI2,trivial⟩
    case measure=>simp[intOf];omega
   have x3:decide (z<48)=false:=q_f h3;have x4:decide (57<z)=false:=q_f (by omega);clear hhx h1 h3;go_wp2;go_roundw
   case rel=>exact⟨i+1,by omega,by go_num,HI2,trivial⟩
   case measure=>simp[intOf];omega
  have x1:decide (z<97)=false:=q_f h1;have x2:decide (122<z)=false:=q_f (by omega);clear hhx h1;go_wp2;go_roundw
  case rel=>exact⟨i+1,by omega,by go_num,HI2,trivial⟩
  case measure=>simp[intOf];omega
theorem XZ (s:ByteArray) (hs:s.size<=9223372036854775807) (w:World):Calls Tryz.prog 112 #[.string s] w (qG w (.bool (JJ (zS s)))):=by
 rw[J8];obtain⟨a,ha⟩:=qc (vG (zS s));obtain⟨r,hr⟩:=qc (WF (zS s));rw[<-ha.out,<-hr.out];have hem:=Qx s;obtain⟨n,hn⟩:=qc s.size;have HN:Hid ((zS s).length=n):=by rw[Hid,hn.out];exact zQ s
 go_enter Tryz.func112,Tryz.ntmps112;go_wp2_with (go_at_call 75;refine q_o ?_);refine (wC s hs w).mono ?_;rintro e w1 ⟨rfl,e1⟩;rw[<-ha.out];cases a with
 | true =>
  go_wp2
  first|go_ret|skip
  exact⟨rfl,e1⟩
 | false =>
 by_cases h0:s.size=0
 ·have u0:decide (s.size=0)=true:=q_t h0;rw[u0] at hem
  have HR:Hid (r=false):=by
   rw[Hid,hr.out];have e9:zS s=[]:=List.eq_nil_of_length_eq_zero (by rw[zQ];exact h0);rw[e9];rfl
  clear u0 h0;go_wp2
  first|go_ret|skip
  rw[HR.out];exact⟨rfl,e1⟩
 have u0:decide (s.size=0)=false:=q_f h0;rw[u0] at hem;have hpos:0<s.size:=by omega
 have HR:Hid (r=(isLow ((zS s).getD 0 0)&&(decide (n<=24)&&(zS s).all Zg))):=by
  rw[Hid,hr.out,ZT (by rw[zQ];exact hpos),HN.out]
 obtain⟨c,hc⟩:=qc (chZ (zS s) 0)
 have hix0:∀w,(Instr.index 9 (.string s) (.int .i64 0)).run Tryz.prog w=.ok (.int .u8 c) w:=by
  have h9:=ji (s:=s) (i:=0) (k:=.i64) hpos;rw[<-hc.out] at h9;exact h9
 have HLW:Hid (isLow ((zS s).getD 0 0)=(decide (97<=c)&&decide (c<=122))):=by
  rw[Hid,hc.out];unfold isLow chZ;rw[Bool.eq_iff_iff];simp only[Bool.and_eq_true,decide_eq_true_eq];omega
 rw[HLW.out] at HR;have hnn:n=s.size:=hn.out;clear u0 h0 hr hn
 by_cases h24:24<s.size
 ·have u1:decide ((24:Int)<(s.size:Int))=true:=q_t (by omega);have u1':decide (24<s.size)=true:=q_t h24;have HX:Hid (r=false):=by rw[Hid,HR.out,(q_f (by omega):decide (n<=24)=false),Bool.false_and,Bool.and_false]
  clear h24 hnn;go_wp2
  first|go_ret|skip
  rw[HX.out];exact⟨rfl,e1⟩
 have u1:decide ((24:Int)<(s.size:Int))=false:=q_f (by omega);have u1':decide (24<s.size)=false:=q_f h24
 by_cases hl1:c<97
 ·have u2:decide (c<97)=true:=q_t hl1;have HX:Hid (r=false):=by rw[Hid,HR.out,(q_f (by omega):decide (97<=c)=false),Bool.false_and,Bool.false_and]
  clear h24 hnn hl1;go_wp2
  first|go_ret|skip
  rw[HX.out];exact⟨rfl,e1⟩
 have u2:decide (c<97)=false:=q_f hl1
 by_cases hl2:122<c
 ·have u3:decide (122<c)=true:=q_t hl2;have HX:Hid (r=false):=by rw[Hid,HR.out,(q_f (by omega):decide (c<=122)=false),Bool.and_false,Bool.false_and]
  clear h24 hnn hl1 hl2;go_wp2
  first|go_ret|skip
  rw[HX.out];exact⟨rfl,e1⟩
 have u3:decide (122<c)=false:=q_f hl2
 have HA:Hid (r=(zS s).all Zg):=by
  rw[Hid,HR.out,(q_t (by omega):decide (97<=c)=true),(q_t (by omega):decide (c<=122)=true),(q_t (by omega):decide (n<=24)=true)]
  rfl
 have hn24:s.size<=24:=by omega
 clear h24 hl1 hl2 HR HLW;go_wp2_with fail
 go_loopw [26] (fun iv wr=>∃i:Nat,i<=s.size/\iv=.int .i64 (i:Int)/\Hid (∀j,j<i->Zg ((zS s).getD j 0)=true)/\wr=w1) (fun iv _=>s.size-(intOf iv).toNat)
 case atStart=>exact⟨0,Nat.zero_le _,rfl,fun j hj=>absurd hj (Nat.not_lt_zero j),rfl⟩
 case round =>
  clear hix0;obtain⟨i,hi9,rfl,HI,rfl⟩:=hrel
  by_cases hlt:i<s.size
  case neg =>
   have v1:decide ((i:Int)<(s.size:Int))=false:=q_f (by omega);have v1':decide (i<s.size)=false:=q_f hlt
   have HX:Hid (r=true):=by
    rw[Hid,HA.out];exact yF (n:=i) HI.out (by rw[HN.out];omega)
   go_wp2
   first|go_ret|skip
   rw[HX.out];exact⟨rfl,e1⟩
  have v1:decide ((i:Int)<(s.size:Int))=true:=q_t (by omega);have v1':decide (i<s.size)=true:=q_t hlt;obtain⟨z,hz⟩:=qc (chZ (zS s) i);have hix:=ji (s:=s) (i:=i) (k:=.i64) hlt;rw[<-hz.out] at hix;have HH:=q_h (V6 hz.out)
  by_cases hhx:Zg ((zS s).getD i 0)=true
  case neg =>
   have HX:Hid (r=false):=by
    rw[Hid,HA.out];exact Qm (i:=i) (by rw[HN.out];omega) (by simpa using hhx)
   rw[HH.out] at hhx;simp only[Bool.or_eq_true,Bool.and_eq_true,decide_eq_true_eq] at hhx;have w5:(z != 46)=true:=by simp;omega
   have w6:(z != 45)=true:=by simp;omega
   by_cases h1:z<97
   ·have x1:decide (z<97)=true:=q_t h1
    by_cases h3:z<48
    ·have x3:decide (z<48)=true:=q_t h3;clear hhx h1 h3;go_wp2
     first|go_ret|skip
     rw[HX.out];exact⟨rfl,e1⟩
    have x3:decide (z<48)=false:=q_f h3;have x4:decide (57<z)=true:=q_t (by omega);clear hhx h1 h3;go_wp2
    first|go_ret|skip
    rw[HX.out];exact⟨rfl,e1⟩
   have x1:decide (z<97)=false:=q_f h1;have x2:decide (122<z)=true:=q_t (by omega);have x3:decide (z<48)=false:=q_f (by omega);have x4:decide (57<z)=true:=q_t (by omega);clear hhx h1;go_wp2
   first|go_ret|skip
   rw[HX.out];exact⟨rfl,e1⟩
  have HI2:Hid (∀j,j<i+1->Zg ((zS s).getD j 0)=true):=fun j hj=>by
   by_cases hji:j=i
   ·rw[hji];exact hhx
   ·exact HI.out j (by omega)
  rw[HH.out] at hhx;simp only[Bool.or_eq_true,Bool.and_eq_true,decide_eq_true_eq] at hhx
  by_cases h1:z<97
  ·have x1:decide (z<97)=true:=q_t h1
   by_cases h3:z<48
   ·have x3:decide (z<48)=true:=q_t h3
    by_cases h5:z=46
    ·have x5:(z != 46)=false:=by simp[h5]
     clear hhx h1 h3 h5;go_wp2;go_roundw
     case rel=>exact⟨i+1,by omega,by go_num,HI2,trivial⟩
     case measure=>simp[intOf];omega
    have x5:(z != 46)=true:=by simp[h5]
    have x6:(z != 45)=false:=by simp;omega
    clear hhx h1 h3 h5;go_wp2;go_roundw
    case rel=>exact⟨i+1,by omega,by go_num,HI2,trivial⟩
    case measure=>simp[intOf];omega
   have x3:decide (z<48)=false:=q_f h3;have x4:decide (57<z)=false:=q_f (by omega);clear hhx h1 h3;go_wp2;go_roundw
   case rel=>exact⟨i+1,by omega,by go_num,HI2,trivial⟩
   case measure=>simp[intOf];omega
  have x1:decide (z<97)=false:=q_f h1;have x2:decide (122<z)=false:=q_f (by omega);clear hhx h1;go_wp2;go_roundw
  case rel=>exact⟨i+1,by omega,by go_num,HI2,trivial⟩
  case measure=>simp[intOf];omega
mutual
theorem VlV.any(nn:Bool):∀ {V:Vl}{v:Value},VlV true N w V v->VlV nn N w V v
 | .int z,v,h=>by
  unfold VlV at h ⊢;exact h
 | .txt l,v,h=>by
  unfold VlV at h ⊢;obtain⟨b,c,d,h0,h1,⟨h2,h3⟩,h4⟩:=h;exact⟨b,c,d,h0,h1,⟨h2,fun _=>h3 rfl⟩,h4⟩
 | .lst vs,v,h=>by
  unfold VlV at h ⊢;obtain⟨b,c,A,k,h0,h1,h2,h3,h4,h5⟩:=h;refine⟨b,c,A,k,h0,h1,h2,h3,h4,fun hn=>?_⟩;obtain⟨g,off,h6,h7⟩:=h5 hn;exact⟨g,off,h6,VlL.any nn h7⟩
theorem VlL.any(nn:Bool):∀ {vs:List Vl}{g off:Nat},VlL true N w vs g off->VlL nn N w vs g off
 | [],_,_,_=>by unfold VlL;trivial
 | v :: r,g,off,h=>by
  unfold VlL at h ⊢;obtain⟨⟨c0,c1,c2,c3,c4,h0,h1,h2,h3,h4,h5⟩,h6⟩:=h;exact⟨⟨c0,c1,c2,c3,c4,h0,h1,h2,h3,h4,VlV.any nn h5⟩,VlL.any nn h6⟩
end
theorem WR {nn:Bool}{V1 V2:Vl}{a0 a1 a2 a3 a4 b0 b1 b2 b3 b4:Value}{t:TypeId}{fr:Nat×Nat}(hb:w.heap[g]?=some (.cells #[a0,a1,a2,a3,a4,b0,b1,b2,b3,b4] t fr))
  (h1:VlV nn N w V1 (.agg #[a0,a1,a2,a3,a4])) (h2:VlV nn N w V2 (.agg #[b0,b1,b2,b3,b4])):VlV nn N w (.lst [V1,V2]) (.agg #[.int .i64 2,.bool false,.slice none 0 0,.slice none 0 0,.slice (some ⟨g,0,none⟩) 2 2]):=by
 have hc:∀j,w.cell? ⟨g,j,none⟩=(#[a0,a1,a2,a3,a4,b0,b1,b2,b3,b4]:Array Value)[j]?:=qj hb;unfold VlV;refine⟨_,_,_,2,rfl,⟨_,_,rfl⟩,⟨_,_,rfl⟩,q_r,by unfold maxLen;omega,fun _=>⟨g,0,rfl,?_⟩⟩;unfold VlL;refine⟨⟨a0,a1,a2,a3,a4,hc 0,hc 1,hc 2,hc 3,hc 4,h1⟩,?_⟩;unfold VlL;refine⟨⟨b0,b1,b2,b3,b4,hc 5,hc 6,hc 7,hc 8,hc 9,h2⟩,?_⟩;unfold VlL
 trivial
theorem Yh {nn:Bool}{V1 V2 V3:Vl}{a0 a1 a2 a3 a4 b0 b1 b2 b3 b4 c0 c1 c2 c3 c4:Value}{t:TypeId}{fr:Nat×Nat}(hb:w.heap[g]?=some (.cells #[a0,a1,a2,a3,a4,b0,b1,b2,b3,b4,c0,c1,c2,c3,c4] t fr))
  (h1:VlV nn N w V1 (.agg #[a0,a1,a2,a3,a4])) (h2:VlV nn N w V2 (.agg #[b0,b1,b2,b3,b4])) (h3:VlV nn N w V3 (.agg #[c0,c1,c2,c3,c4])):VlV nn N w (.lst [V1,V2,V3]) (.agg #[.int .i64 2,.bool false,.slice none 0 0,.slice none 0 0,.slice (some ⟨g,0,none⟩) 3 3]):=by
 have hc:∀j,w.cell? ⟨g,j,none⟩=(#[a0,a1,a2,a3,a4,b0,b1,b2,b3,b4,c0,c1,c2,c3,c4]:Array Value)[j]?:=qj hb;unfold VlV;refine⟨_,_,_,3,rfl,⟨_,_,rfl⟩,⟨_,_,rfl⟩,q_r,by unfold maxLen;omega,fun _=>⟨g,0,rfl,?_⟩⟩;unfold VlL;refine⟨⟨a0,a1,a2,a3,a4,hc 0,hc 1,hc 2,hc 3,hc 4,h1⟩,?_⟩;unfold VlL;refine⟨⟨b0,b1,b2,b3,b4,hc 5,hc 6,hc 7,hc 8,hc 9,h2⟩,?_⟩;unfold VlL;refine⟨⟨c0,c1,c2,c3,c4,hc 10,hc 11,hc 12,hc 13,hc 14,h3⟩,?_⟩;unfold VlL
 trivial
theorem txV{l:Byt}{c:Value}(h:GbB base w c l):VlV true N w (.txt l) (.agg #[.int .i64 1,.bool false,.slice none 0 0,c,.slice none 0 0]):=by
 obtain⟨g0,cap0,hv0,-,hlt,-⟩:=h.form;unfold VlV;exact⟨_,_,_,rfl,⟨_,_,rfl⟩,⟨h.by,fun _=>⟨_,_,hv0,hlt⟩⟩,⟨_,_,rfl⟩⟩
theorem nuV{n:Int}{b:Bool}(h:jT N w (.agg #[.bool b,.slice A m k]) n):VlV true N w (.int n) (.agg #[.int .i64 0,.bool b,.slice A m k,.slice none 0 0,.slice none 0 0]):=by
 unfold VlV;exact⟨_,_,_,_,rfl,h,⟨_,_,rfl⟩,⟨_,_,rfl⟩⟩
theorem zX {s:Byt}(h:s.length<=65536):(enc (.txt s)).length<=s.length+7:=by
 have:=kZ h;unfold enc
 simp
 omega
theorem kY {l:List Vl}(h:l.length<=65536):(enc (.lst l)).length<=(zK l).length+7:=by
 have:=kZ h;unfold enc
 simp
 omega
theorem y8 {B:Nat}(hB:B<=65536):∀l:List Byt,(∀s∈l,s.length<=B)->(zK (l.map .txt)).length<=l.length*(B+7)
 | [],_=>by unfold zK;simp
 | s :: l,h=>by
  have h1:=y8 hB l (fun s hs=>h s (.tail _ hs));have h2:=h s (.head _);have h3:=zX (s:=s) (by omega);rw[List.map_cons];unfold zK;rw[List.length_append,List.length_cons,Nat.add_mul];omega
theorem ZU:∀l:List Byt,(∀s∈l,s.length<=65536)->ZV (l.map .txt)
 | [],_=>by unfold ZV;trivial
 | s :: l,h=>by
  rw[List.map_cons];unfold ZV jf;exact⟨h s (.head _),ZU l (fun s hs=>h s (.tail _ hs))⟩
theorem KE:∀l:List Byt,x9 (l.map .txt)=0
 | []=>by unfold x9;rfl
 | s :: l=>by
  rw[List.map_cons];unfold x9 zM;rw[KE l]
  rfl
theorem Xv:∀l:List Byt,szL (l.map .txt)=l.length
 | []=>by unfold szL;rfl
 | s :: l=>by
  rw[List.map_cons];unfold szL szV;rw[Xv l,List.length_cons];omega
def okO (o:Ob):Prop:=o.links.length<=16/\o.data.length<=1024/\∀s∈o.links,s.length<=100
theorem yT {o:Ob}(h:obC o=0):okO o:=by
 unfold obC at h
 split at h
 ·cases h
 ·rename_i h1
  split at h
  ·rename_i h2
   refine⟨by omega,by omega,fun s hs=>?_⟩;have h3:=List.all_eq_true.1 h2 s hs;unfold vG at h3;rw[Bool.and_eq_true] at h3;have:=h3.1;simp at this
   omega
  ·cases h
def Fits (V:Vl):Prop:=zM V<=8/\jf V/\(enc V).length<=65536/\szV V<=1000000
theorem okO.lnk {o:Ob}(h:okO o):zM (Qq o)=1/\jf (Qq o)/\(enc (Qq o)).length<=2000/\szV (Qq o)<=100:=by
 obtain⟨h1,h2,h3⟩:=h;unfold Qq;refine⟨?_,?_,?_,?_⟩
 ·unfold zM;rw[KE]
 ·unfold jf;exact⟨by rw[List.length_map];omega,ZU _ (fun s hs=>by have:=h3 s hs;omega)⟩
 ·have e1:=kY (l:=o.links.map .txt) (by rw[List.length_map];omega);have e2:=y8 (B:=100) (by omega) o.links h3;have e3:o.links.length*(100+7)<=16*107:=Nat.mul_le_mul h1 (by omega);omega
 ·unfold szV;rw[Xv];omega
theorem XT (z:Int) (h0:0<=z) (h9:z<10):(enc (.int z)).length=3:=by
 unfold enc;rw[Q5 h0 h9]
 rfl
theorem okO.fits {o:Ob}(h:okO o) (z:Int) (h0:0<=z) (h9:z<10):Fits (.lst [.int z,Qq o,.txt o.data])/\(enc (.lst [.int z,Qq o,.txt o.data])).length<=4000:=by
 obtain⟨h1,h2,h3,h4⟩:=h.lnk;have h5:=h.2.1
 have h6:(enc (.lst [.int z,Qq o,.txt o.data])).length<=4000:=by
  have e1:=kY (l:=[.int z,Qq o,.txt o.data]) (by simp);have e2:=zX (s:=o.data) (by omega);have e3:=XT z h0 h9;simp only[zK,List.length_append,List.length_nil] at e1;omega
 refine⟨⟨?_,?_,by omega,?_⟩,h6⟩
 ·simp only[zM,x9,h1];omega
 ·simp only[jf,ZV];exact⟨by simp,⟨h0,h9⟩,h2,by omega,trivial⟩
 ·simp only[szV,szL];omega
theorem okO.fits2 {o:Ob}(h:okO o):Fits (.lst [Qq o,.txt o.data]):=by
 obtain⟨h1,h2,h3,h4⟩:=h.lnk;have h5:=h.2.1;refine⟨?_,?_,?_,?_⟩
 ·simp only[zM,x9,h1];omega
 ·simp only[jf,ZV];exact⟨by simp,h2,by omega,trivial⟩
 ·have e1:=kY (l:=[Qq o,.txt o.data]) (by simp);have e2:=zX (s:=o.data) (by omega);simp only[zK,List.length_append,List.length_nil] at e1;omega
 ·simp only[szV,szL];omega
def okT (t:Tg):Prop:=t.name.length<=300/\t.target.length<=300
theorem okT.fits {t:Tg}(h:okT t) (z:Int) (h0:0<=z) (h9:z<10):Fits (.lst [.int z,.txt t.name,.txt t.target])/\(enc (.lst [.int z,.txt t.name,.txt t.target])).length<=1000:=by
 obtain⟨h1,h2⟩:=h
 have h6:(enc (.lst [.int z,.txt t.name,.txt t.target])).length<=1000:=by
  have e1:=kY (l:=[.int z,.txt t.name,.txt t.target]) (by simp);have e2:=zX (s:=t.name) (by omega);have e4:=zX (s:=t.target) (by omega);have e3:=XT z h0 h9;simp only[zK,List.length_append,List.length_nil] at e1;omega
 refine⟨⟨?_,?_,by omega,?_⟩,h6⟩
 ·simp only[zM,x9];omega
 ·simp only[jf,ZV];exact⟨by simp,⟨h0,h9⟩,by omega,by omega,trivial⟩
 ·simp only[szV,szL];omega
theorem xQ(HT:xH){V:Vl}(hv:VlV true N w V v) (hf:Fits V) (ht:zY w):Calls Tryz.prog 70 #[v] w (Wy w (enc V)):=by
 have HV:=q_h hv;obtain⟨kz,nb,A1,n1,c1,A2,n2,c2,A3,n3,c3,rfl⟩:=hv.cells;have HF:=q_h hf;have HTB:=q_h ht;clear hv hf ht;go_enter Tryz.func70,Tryz.ntmps70;go_upto_region 1 with (fail);refine qm ?_;intro w1 hE hsz B0;obtain⟨p0,p1,p2,p3,p4⟩:=qy B0;go_wp2_with (go_at_call 134;refine q_o ?_);refine (Z4 HT (HV.out.ext hE) HF.out.1 HF.out.2.1 (HTB.out.ext hE) HF.out.2.2.1).mono ?_;rintro e w2 ⟨v2,rfl,hG2,e2⟩;have HG2:Hid (GrB w.heap.size w2 v2 (enc V)):=qA.low hG2 hE.size;have HX2:=q_h (hE.trans e2);clear hG2 p0 p1 p2 p3 p4;go_wp2;go_ret;exact⟨_,rfl,HG2.out,HX2.out⟩
theorem vT (HT:xH){o:Ob}{x y:Value}(h:ObR w x y o) (ho:okO o) (ht:zY w):Calls Tryz.prog 62 #[.agg #[x,y]] w (Wy w (obE o)):=by
 have HO:=q_h h;have HK:=q_h ho;have HTB:=q_h ht;obtain⟨A0,c0,rfl,-⟩:=h.1.form;obtain⟨A9,c9,rfl,-⟩:=h.2.form;obtain⟨n0,hn0⟩:=qc o.links.length;obtain⟨n9,hn9⟩:=qc o.data.length;rw[<-hn0.out,<-hn9.out] at HO ⊢;obtain⟨s0,hs0⟩:=qc (sV o.data);clear h ho ht;go_enter Tryz.func62,Tryz.ntmps62;go_upto_region 1 with (fail);refine qm ?_;intro W hE hsz B0;obtain⟨p0,p1,-⟩:=cells2 B0
 have HT5:Hid (∀w',Ext W w'->(convert 27 9 (.slice A9 n9 c9)).run Tryz.prog w'=.ok s0 w'):=fun w' e=>by
  rw[hs0.out];exact zT (HO.out.2.ext (hE.trans e))
 have HC0:Hid (Ext W W.drew):=(Ext.refl W).drew;have HN:Hid (W.heap.size<=W.drew.heap.size):=q_r;have eC:=And.intro (HC0.out.cell p0) (And.intro (HC0.out.cell p1) (HT5.out _ HC0.out));refine qh (fun w'=>w'.cell? ⟨w.heap.size,0,none⟩=some (.slice A0 n0 c0)/\w'.cell? ⟨w.heap.size,1,none⟩=some (.slice A9 n9 c9)/\(convert 27 9 (.slice A9 n9 c9)).run Tryz.prog w'=.ok s0 w') [] (by kernel_rfl) (by exact eC) (fun hHeld=>?_);refine sT 1 (h:=?_);refine sP 3 (h:=?_);refine sT 4 (h:=?_);refine sT 5 (hy:=by (intro w9 hSw;have c9:=hSw.2.2;go_simp;(try (rw[if_pos (by omega)]));(try with_reducible rfl))) (h:=?_);refine qf (i:=0) rfl (by kernel_rfl) (fun K hK=>?_);go_simp;refine (yL (N:=W.heap.size) HN.out 0 (by omega) (by omega)).mono ?_;rintro e w2 ⟨nb,A1,m1,k1,rfl,hI,e2⟩;have HV1:=q_h (nuV hI);have HC2:=q_h (HC0.out.trans e2);replace eC:=And.intro (e2.cell eC.1) (And.intro (e2.cell eC.2.1) (HT5.out _ HC2.out));clear hI e2;go_wp2_with fail;clear hHeld;refine hK.out _ _ (by exact eC) fun hHeld=>?_
 clear hK K;try simp only[nr]
 refine qf (i:=2) rfl (by kernel_rfl) (fun K hK=>?_);go_simp;refine (Qz (HO.out.ext (hE.trans HC2.out)) (by have:=HK.out.1;omega) (fun s hs=>by have:=HK.out.2.2 s hs;omega)).mono ?_;rintro e w3 ⟨A2,n2,k2,rfl,hLk,e3⟩;have HV2:=q_h (hLk W.heap.size);have HV13:=q_h (HV1.out.ext e3);have HC3:=q_h (HC2.out.trans e3);replace eC:=And.intro (e3.cell eC.1) (And.intro (e3.cell eC.2.1) (HT5.out _ HC3.out));clear hLk e3 HV1;go_wp2_with fail;clear hHeld;refine hK.out _ _ (by exact eC) fun hHeld=>?_
 clear hK K;try simp only[nr]
 refine qf (i:=6) rfl (by kernel_rfl) (fun K hK=>?_);go_simp;rw[hs0.out];refine (xq (l:=o.data) (by have:=HK.out.2.1;omega)).mono ?_;rintro e w4 ⟨c4,rfl,hG4,e4⟩;have HV3:=q_h (txV (N:=W.heap.size) hG4);obtain⟨g4,cap4,rfl,-⟩:=hG4.form;have HV14:=q_h (HV13.out.ext e4);have HV24:=q_h (HV2.out.ext e4);have HC4:=q_h (HC3.out.trans e4);replace eC:=And.intro (e4.cell eC.1) (And.intro (e4.cell eC.2.1) (HT5.out _ HC4.out));clear HV13 HV2 hG4 e4;go_wp2_with fail;clear hHeld;refine hK.out _ _ (by exact eC) fun hHeld=>?_
 clear hK K;try simp only[nr]
 refine qf (i:=7) rfl (by kernel_rfl) (fun K hK=>?_);go_simp
 first|refine qm ?_|refine qQ ?_
 intro w5 e5 hsz5 BJ;have HVV:=q_h (Yh BJ (HV14.out.ext e5) (HV24.out.ext e5) (HV3.out.ext e5));have HC5:=q_h (HC4.out.trans e5);replace eC:=And.intro (e5.cell eC.1) (And.intro (e5.cell eC.2.1) (HT5.out _ HC5.out));clear HV14 HV24 HV3 BJ e5;clear hHeld;refine hK.out _ _ (by exact eC) fun hHeld=>?_
 clear hK K;try simp only[nr]
 refine qf (i:=8) rfl (by kernel_rfl) (fun K hK=>?_);go_simp;refine jc.mono ?_;rintro e w6 ⟨rfl,e6⟩;have HV6:=q_h (HVV.out.ext e6);have HC6:=q_h (HC5.out.trans e6);replace eC:=And.intro (e6.cell eC.1) (And.intro (e6.cell eC.2.1) (HT5.out _ HC6.out));clear HVV e6;go_wp2_with fail;clear hHeld;refine hK.out _ _ (by exact eC) fun hHeld=>?_
 clear hK K;try simp only[nr]
 refine qf (i:=9) rfl (by kernel_rfl) (fun K hK=>?_);go_simp;refine (xQ HT HV6.out (HK.out.fits 0 (by omega) (by omega)).1 (HTB.out.ext (hE.trans HC6.out))).mono ?_;rintro e w7 ⟨v7,rfl,hG7,e7⟩;have HG7:Hid (GrB w.heap.size w7 v7 (obE o)):=qA.low hG7 (hE.trans HC6.out).size;have HC7:=q_h (HC6.out.trans e7);replace eC:=And.intro (e7.cell eC.1) (And.intro (e7.cell eC.2.1) (HT5.out _ HC7.out));clear hG7 e7;go_wp2_with fail;clear hHeld;refine hK.out _ _ (by exact eC) fun hHeld=>?_
 clear hK K;try simp only[nr]
 refine sP 10 (h:=?_);refine ql (by kernel_rfl) ?_ _;clear hHeld;have HX:=q_h (hE.trans HC7.out);clear eC p0 p1;go_wp2;go_ret;exact⟨_,rfl,HG7.out,HX.out⟩
end
section
open Go.RowKit
def xI (w:World) (v:Value) (n:Nat) (l:List Byt):Prop:=n=l.length/\zF w v l
def YZ (w:World) (v:Value) (n:Nat) (l:List Ob):Prop:=n=l.length/\jH w v l
def Xm (w:World) (v:Value) (n:Nat) (l:List Tg):Prop:=n=l.length/\vM w v l
section
variable {w w':World}{v:Value}{n:Nat}
theorem xI.form {l:List Byt}(h:xI w v n l):∃A c,v=.slice A n c/\n<=c/\c<=maxLen:=by rw[h.1];exact h.2.form
theorem YZ.form {l:List Ob}(h:YZ w v n l):∃A c,v=.slice A n c/\n<=c/\c<=maxLen:=by rw[h.1];exact h.2.form
theorem Xm.form {l:List Tg}(h:Xm w v n l):∃A c,v=.slice A n c/\n<=c/\c<=maxLen:=by rw[h.1];exact h.2.form
theorem xI.ext {l:List Byt}(h:xI w v n l) (e:Ext w w'):xI w' v n l:=⟨h.1,h.2.ext e⟩
theorem YZ.ext {l:List Ob}(h:YZ w v n l) (e:Ext w w'):YZ w' v n l:=⟨h.1,h.2.ext e⟩
theorem Xm.ext {l:List Tg}(h:Xm w v n l) (e:Ext w w'):Xm w' v n l:=⟨h.1,h.2.ext e⟩
theorem xI.addr{l:List Byt}(h:xI w (.slice A n c) n l) (h0:0<n):∃g off,A=some ⟨g,off,none⟩/\∀i,i<n->∃u,w.cell? ⟨g,off+i,none⟩=some u/\Hid (u=sV (l.getD i [])):=by
 obtain⟨rfl,h⟩:=h;exact vN.addr h h0
theorem YZ.addr{l:List Ob}(h:YZ w (.slice A n c) n l) (h0:0<n):∃g off,A=some ⟨g,off,none⟩/\∀i,i<n->∃A1 n1 c1 A2 n2 c2,w.cell? ⟨g,off+i*2,none⟩=some (.slice A1 n1 c1)/\w.cell? ⟨g,off+i*2+1,none⟩=some (.slice A2 n2 c2)/\ObV w (.agg #[.slice A1 n1 c1,.slice A2 n2 c2]) (l.getD i default):=by
 obtain⟨rfl,h⟩:=h;obtain⟨g,off,h1,h2⟩:=Qs.addr h h0;refine⟨g,off,h1,fun i hi=>?_⟩;obtain⟨x,y,h3,h4,h5⟩:=h2 i hi;obtain⟨A1,c1,rfl,-⟩:=h5.1.form;obtain⟨A2,c2,rfl,-⟩:=h5.2.form;exact⟨_,_,_,_,_,_,h3,h4,_,_,rfl,h5⟩
theorem Xm.addr{l:List Tg}(h:Xm w (.slice A n c) n l) (h0:0<n):∃g off,A=some ⟨g,off,none⟩/\∀i,i<n->∃x1 x2,w.cell? ⟨g,off+i*2,none⟩=some x1/\w.cell? ⟨g,off+i*2+1,none⟩=some x2/\Hid (.agg #[x1,x2]=Value.agg #[sV (l.getD i default).name,sV (l.getD i default).target]):=by
 obtain⟨rfl,h⟩:=h;obtain⟨g,off,h1,h2⟩:=Qs.addr h h0;refine⟨g,off,h1,fun i hi=>?_⟩;obtain⟨x,y,h3,h4,rfl,rfl⟩:=h2 i hi;exact⟨_,_,h3,h4,rfl⟩
end
theorem jF (l:List Byt) (p:Byt->Bool):zO l.length (fun i=>!p (l.getD i []))=!l.all p:=by
 cases h:l.all p with
 | true =>
  refine qV.2 fun i hi=>?_
  rw[List.getD_eq_getElem?_getD,List.getElem?_eq_getElem hi];rw[List.all_eq_true] at h;simpa using h _ (List.getElem_mem hi)
 | false =>
  rw[List.all_eq_false] at h;obtain⟨s,hs,h1⟩:=h;obtain⟨i,hi,rfl⟩:=List.getElem_of_mem hs;refine zg hi ?_;rw[List.getD_eq_getElem?_getD,List.getElem?_eq_getElem hi];simpa using h1
theorem Zk {l:Byt}(hl:l.length<=9223372036854775807):Calls Tryz.prog 67 #[sV l] w (qG w (.bool (!vG l))):=by
 obtain⟨r,hr⟩:=qc (vG l);rw[<-hr.out];have HC:=QZ ⟨l.toArray⟩ (by show l.toArray.size<=_;rw[List.size_toArray];exact hl);rw[Zi,<-hr.out] at HC;obtain⟨s0,hs0⟩:=qc (⟨l.toArray⟩:ByteArray);have e0:sV l=.string s0:=by rw[hs0.out];rfl
 rw[e0];rw[<-hs0.out] at HC;go_enter Tryz.func67,Tryz.ntmps67;go_wp2_with (go_at_call 68;refine q_o ?_);refine (HC w).mono ?_;rintro e w1 ⟨rfl,e1⟩;go_wp2;go_ret;exact⟨rfl,e1⟩
theorem ZA {l:Byt}(hl:l.length<=9223372036854775807):Calls Tryz.prog 74 #[sV l] w (qG w (.bool (!vG l))):=by
 obtain⟨r,hr⟩:=qc (vG l);rw[<-hr.out];have HC:=wC ⟨l.toArray⟩ (by show l.toArray.size<=_;rw[List.size_toArray];exact hl);rw[Zi,<-hr.out] at HC;obtain⟨s0,hs0⟩:=qc (⟨l.toArray⟩:ByteArray);have e0:sV l=.string s0:=by rw[hs0.out];rfl
 rw[e0];rw[<-hs0.out] at HC;go_enter Tryz.func74,Tryz.ntmps74;go_wp2_with (go_at_call 75;refine q_o ?_);refine (HC w).mono ?_;rintro e w1 ⟨rfl,e1⟩;go_wp2;go_ret;exact⟨rfl,e1⟩
theorem Zp{l:List Byt}(h:xI w v n l)  (g:Nat->Bool)
  (hf:∀i,i<n->∀w' u,Ext w w'->Hid (u=sV (l.getD i []))->Calls Tryz.prog 67 #[u] w' (qG w' (.bool (g i)))) :
  Calls Tryz.prog 125 #[v,.func (.func 67) #[] #[]] w (xP w (zO n g)):=by
 obtain⟨r,hr⟩:=qc (zO n g);rw[<-hr.out];obtain⟨A,c,rfl,hnc,hcm⟩:=h.form;unfold maxLen at hcm;have hI:=h;have HF:=q_h hf;clear h hf;go_enter Tryz.func125,Tryz.ntmps125;go_wp2
 go_loopw [8] (fun i wr=>∃k:Nat,k<=n/\i=.int .i64 k/\Hid (∀j,j<k->g j=false)/\Ext w wr) (fun i _=>n-(intOf i).toNat)
 case atStart=>exact⟨0,Nat.zero_le _,rfl,fun j hj=>absurd hj (by omega),Ext.refl w⟩
 case round =>
  obtain⟨k,hk,rfl,HA,hE⟩:=hrel
  by_cases hlt:k<n
  ·(obtain⟨b,off,rfl,hx⟩:=(hI.ext hE).addr (by omega));(obtain⟨u,p0,hv⟩:=hx k hlt)
   clear hx;go_wp2_with (go_at_call 67;refine q_o ?_);refine (HF.out k hlt _ _ hE hv).mono ?_;rintro e w1 ⟨rfl,e1⟩;replace hE:=hE.trans e1;obtain⟨o,ho⟩:=qc (g k);rw[<-ho.out];cases o with
   | false =>
    go_wp2;go_roundw
    case rel=>exact⟨k+1,by omega,by go_num,zJ (p:=fun j=>g j=false) HA.out ho.out.symm,hE⟩
    case measure=>simp[intOf];omega
   | true =>
    have HT:Hid (r=true):=by rw[Hid,hr.out];exact zg hlt ho.out.symm
    go_wp2;go_ret;exact⟨_,rfl,by rw[Hid,HT.out];symm;simp,hE⟩
  ·have HT:Hid (r=false):=by rw[Hid,hr.out];exact qV.2 (fun j hj=>HA.out j (by omega))
   go_wp2;go_ret;exact⟨_,rfl,by rw[Hid,HT.out];rfl,hE⟩
theorem X9{l:List Byt}(h:xI w v n l)  (g:Nat->Bool)
  (hf:∀i,i<n->∀w' u,Ext w w'->Hid (u=sV (l.getD i []))->Calls Tryz.prog 67 #[u] w' (qG w' (.bool (g i)))) :
  Calls Tryz.prog 56 #[v,.func (.func 67) #[] #[]] w (qG w (.bool (zO n g))):=by
 obtain⟨r,hr⟩:=qc (zO n g);rw[<-hr.out];obtain⟨A,c,rfl,hnc,hcm⟩:=h.form;have hI:=h;have HF:=q_h hf;clear h hf;go_enter Tryz.func56,Tryz.ntmps56;go_wp2_with (go_at_call 125;refine q_o ?_);refine (Zp hI  g HF.out).mono ?_;rintro e w1 ⟨z,rfl,hz,e1⟩;rw[<-hr.out] at hz;go_wp2;go_ret;exact⟨qw hz.out.symm,e1⟩
theorem Zq{l:List Byt}(h:xI w v n l)  (g:Nat->Bool)
  (hf:∀i,i<n->∀w' u,Ext w w'->Hid (u=sV (l.getD i []))->Calls Tryz.prog 74 #[u] w' (qG w' (.bool (g i)))) :
  Calls Tryz.prog 125 #[v,.func (.func 74) #[] #[]] w (xP w (zO n g)):=by
 obtain⟨r,hr⟩:=qc (zO n g);rw[<-hr.out];obtain⟨A,c,rfl,hnc,hcm⟩:=h.form;unfold maxLen at hcm;have hI:=h;have HF:=q_h hf;clear h hf;go_enter Tryz.func125,Tryz.ntmps125;go_wp2
 go_loopw [8] (fun i wr=>∃k:Nat,k<=n/\i=.int .i64 k/\Hid (∀j,j<k->g j=false)/\Ext w wr) (fun i _=>n-(intOf i).toNat)
 case atStart=>exact⟨0,Nat.zero_le _,rfl,fun j hj=>absurd hj (by omega),Ext.refl w⟩
 case round =>
  obtain⟨k,hk,rfl,HA,hE⟩:=hrel
  by_cases hlt:k<n
  ·(obtain⟨b,off,rfl,hx⟩:=(hI.ext hE).addr (by omega));(obtain⟨u,p0,hv⟩:=hx k hlt)
   clear hx;go_wp2_with (go_at_call 74;refine q_o ?_);refine (HF.out k hlt _ _ hE hv).mono ?_;rintro e w1 ⟨rfl,e1⟩;replace hE:=hE.trans e1;obtain⟨o,ho⟩:=qc (g k);rw[<-ho.out];cases o with
   | false =>
    go_wp2;go_roundw
    case rel=>exact⟨k+1,by omega,by go_num,zJ (p:=fun j=>g j=false) HA.out ho.out.symm,hE⟩
    case measure=>simp[intOf];omega
   | true =>
    have HT:Hid (r=true):=by rw[Hid,hr.out];exact zg hlt ho.out.symm
    go_wp2;go_ret;exact⟨_,rfl,by rw[Hid,HT.out];symm;simp,hE⟩
  ·have HT:Hid (r=false):=by rw[Hid,hr.out];exact qV.2 (fun j hj=>HA.out j (by omega))
   go_wp2;go_ret;exact⟨_,rfl,by rw[Hid,HT.out];rfl,hE⟩
theorem Xa{l:List Byt}(h:xI w v n l)  (g:Nat->Bool)
  (hf:∀i,i<n->∀w' u,Ext w w'->Hid (u=sV (l.getD i []))->Calls Tryz.prog 74 #[u] w' (qG w' (.bool (g i)))) :
  Calls Tryz.prog 56 #[v,.func (.func 74) #[] #[]] w (qG w (.bool (zO n g))):=by
 obtain⟨r,hr⟩:=qc (zO n g);rw[<-hr.out];obtain⟨A,c,rfl,hnc,hcm⟩:=h.form;have hI:=h;have HF:=q_h hf;clear h hf;go_enter Tryz.func56,Tryz.ntmps56;go_wp2_with (go_at_call 125;refine q_o ?_);refine (Zq hI  g HF.out).mono ?_;rintro e w1 ⟨z,rfl,hz,e1⟩;rw[<-hr.out] at hz;go_wp2;go_ret;exact⟨qw hz.out.symm,e1⟩
end
section
open Go.RowKit
theorem Jk (s:Nat×Nat) (c:UInt8):(dgS s c).1<18446744073709551616/\(dgS s c).2<18446744073709551616:=by
 unfold dgS;exact⟨Jj _ _,Ji c.toNat_lt⟩
theorem Jl (c:UInt8) (l:Byt) (s:Nat×Nat):xY (c :: l) s=xY l (dgS s c):=by unfold xY;exact List.foldl_cons ..
theorem Yx (l:Byt):∀(s:Nat×Nat),s.1<18446744073709551616->s.2<18446744073709551616->(xY l s).1<18446744073709551616/\(xY l s).2<18446744073709551616:=by
 induction l with
 | nil=>intro s h1 h2;exact⟨h1,h2⟩
 | cons c l ih =>
  intro s _ _;rw[Jl];exact ih _ (Jk s c).1 (Jk s c).2
theorem Jm (l:Byt):(xY l dg0).1<18446744073709551616/\(xY l dg0).2<18446744073709551616:=Yx l dg0 (by show (14695981039346656037:Nat)<18446744073709551616;decide) (by show (1099511628211:Nat)<18446744073709551616;decide)
theorem QI {x y:Nat}(hx:x<18446744073709551616) (hy:y<18446744073709551616) (ch:UInt8) (w:World) :
  Calls Tryz.prog 217 #[.int .u64 (x:Int),.int .u64 (y:Int),.int .u8 (ch.toNat:Int)] w (qG w (.tuple #[.int .u64 ((dgX x ch.toNat:Nat):Int),.int .u64 ((dgY x y ch.toNat:Nat):Int)])):=by
 obtain⟨X,hX⟩:=qc (x:Int);obtain⟨Y,hY⟩:=qc (y:Int);obtain⟨c,hcc⟩:=qc (ch.toNat:Int);obtain⟨x',hx'⟩:=qc (((dgX x ch.toNat:Nat):Int));obtain⟨y',hy'⟩:=qc (((dgY x y ch.toNat:Nat):Int));rw[<-hX.out,<-hY.out,<-hcc.out,<-hx'.out,<-hy'.out];have hc:0<=c/\c<=255:=by have:=ch.toNat_lt;have:=hcc.out;omega
 have hUX:U64 X:=by rw[hX.out];exact yI hx
 have hUY:U64 Y:=by rw[hY.out];exact yI hy
 have t0:IntKind.u64.wrap c=c:=by rw[wrap64];omega
 obtain⟨xc,hxc⟩:=qc (bits .xor .u64 X c);have t1:=hxc.out.symm
 have t2:IntKind.u64.wrap (xc*1099511628211)=x':=by
  rw[hxc.out,Vh hUX hc,hx'.out,hX.out,hcc.out,Int.toNat_natCast,Int.toNat_natCast]
 obtain⟨r,hr⟩:=qc (((Vr Y.toNat:Nat):Int));have t3:bits .or .u64 (IntKind.u64.wrap (Y*32)) (Y / 576460752303423488)=r:=by rw[hr.out];exact Vb hUY
 obtain⟨v,hv⟩:=qc (IntKind.u64.wrap (r+x'));have t4:=hv.out.symm
 have t5:bits .xor .u64 v c=y':=by
  have h9:=Vg (x:=X) (y:=Y) hc;rw[hv.out,hr.out,hx'.out,hy'.out];rw[hX.out,hY.out,Int.toNat_natCast,Int.toNat_natCast,hcc.out,Int.toNat_natCast] at h9;rw[hY.out,Int.toNat_natCast,hcc.out];exact h9
 clear hUX hUY hc hX hY hcc;go_enter Tryz.func217,Tryz.ntmps217;go_wp2
 first|go_ret2|skip
 exact⟨rfl,Ext.refl _⟩
def dgE (l:Byt) (i:Nat):Array Value:=((List.range 16).map fun j=>Value.int .u8 (if (j<8/\8<=j+i)\/16<=j+i then ((dgB l j:Nat):Int) else 0)).toArray
theorem Qb (l:Byt) (i:Nat):(dgE l i).size=16:=by unfold dgE;rw[List.size_toArray,List.length_map,List.length_range]
theorem Qc (l:Byt) (i:Nat)(h:j<16):(dgE l i)[j]?=some (Value.int .u8 (if (j<8/\8<=j+i)\/16<=j+i then ((dgB l j:Nat):Int) else 0)):=by
 unfold dgE;rw[List.getElem?_toArray,List.getElem?_map,List.getElem?_range h]
 rfl
theorem VN (l:Byt)(h:i<8):((dgE l i).setIfInBounds (7-i) (.int .u8 ((dgB l (7-i):Nat):Int))).setIfInBounds (15-i) (.int .u8 ((dgB l (15-i):Nat):Int))=dgE l (i+1):=by
 apply Array.ext_getElem?
 intro j;rw[Array.getElem?_setIfInBounds,Array.getElem?_setIfInBounds,Array.size_setIfInBounds,Qb]
 by_cases h16:j<16
 ·rw[Qc l i h16,Qc l (i+1) h16]
  by_cases h1:15-i=j
  ·subst h1;rw[if_pos rfl,if_pos h16,if_pos (by omega)]
  ·rw[if_neg h1]
   by_cases h2:7-i=j
   ·subst h2;rw[if_pos rfl,if_pos h16,if_pos (by omega)]
   ·rw[if_neg h2]
    by_cases h3:(j<8/\8<=j+i)\/16<=j+i
    ·rw[if_pos h3,if_pos (by omega)]
    ·rw[if_neg h3,if_neg (by omega)]
 ·rw[Array.getElem?_eq_none (by rw[Qb];omega),Array.getElem?_eq_none (by rw[Qb];omega),if_neg (by omega),if_neg (by omega)]
theorem Yz (l:Byt):dgE l 8=dgC l:=by
 unfold dgE dgC
 have e:(List.range 16).map (fun j=>Value.int .u8 (if (j<8/\8<=j+8)\/16<=j+8 then ((dgB l j:Nat):Int) else 0))=(List.range 16).map fun i=>Value.int .u8 ((dgB l i:Nat):Int):=by
  refine List.map_congr_left fun j hj=>?_
  rw[List.mem_range] at hj;rw[if_pos (by omega)]
 rw[e]
theorem Vt {l:Byt}(h:ByV w v l):Calls Tryz.prog 180 #[v] w (qG w (.agg (dgC l))):=by
 obtain⟨A,c,rfl,hnc,hcm,hl⟩:=h;have HL:=q_h hl;unfold maxLen at hcm;obtain⟨n,hn⟩:=qc l.length;rw[<-hn.out] at HL hnc ⊢;clear hl;obtain⟨Q,hQ⟩:=qc (qG w (.agg (dgC l)));rw[<-hQ.out];go_enter Tryz.func180,Tryz.ntmps180;go_upto_region 1 with (fail);refine qm ?_;intro W hE hsz B0;have HB0:=q_h B0;have HE:=q_h hE;clear B0 hE;go_wp2_with fail
 go_loopw [5,3,4] (fun iv xv yv wr=>∃(i:Nat) (x y:Int),i<=n/\iv=.int .i64 (i:Int)/\xv=.int .u64 x/\yv=.int .u64 y/\Hid (x=((xY (l.take i) dg0).1:Int))/\Hid (y=((xY (l.take i) dg0).2:Int))/\Hid (Ext W wr)) (fun iv _ _ _=>n-(intOf iv).toNat)
 case atStart=>exact⟨0,14695981039346656037,1099511628211,Nat.zero_le _,rfl,rfl,rfl,rfl,rfl,Ext.refl _⟩
 case round =>
  obtain⟨i,x,y,hi9,rfl,rfl,rfl,HXX,HYY,HX⟩:=hrel
  by_cases hlt:i<n
  case pos =>
   have u1:decide ((i:Int)<(n:Int))=true:=q_t (by omega);have u1':decide (i<n)=true:=q_t hlt;have u2:(i:Int)<(n:Int):=by omega
   obtain⟨b,off,rfl,hx⟩:=HL.out (by omega);have p0:=HX.out.cell (HE.out.cell (hx i (by omega)));obtain⟨z,hz⟩:=qc (chZ l i);rw[<-hz.out] at p0;obtain⟨x',hx'⟩:=qc (((xY (l.take (i+1)) dg0).1:Int));obtain⟨y',hy'⟩:=qc (((xY (l.take (i+1)) dg0).2:Int))
   have HS:Hid (Calls Tryz.prog 217 #[.int .u64 x,.int .u64 y,.int .u8 z] wr (qG wr (.tuple #[.int .u64 x',.int .u64 y']))):=by
    have h9:=Jm (l.take i);rw[HXX.out,HYY.out,hz.out,hx'.out,hy'.out,getD_take (by have:=hn.out;omega),jB];exact QI h9.1 h9.2 (l.getD i 0) wr
   clear hx;go_wp2_with (go_at_call 217;refine q_o ?_);refine HS.out.mono ?_;rintro e w2 ⟨rfl,e2⟩;have HX2:=q_h (HX.out.trans e2);clear HS p0 HX e2 HXX HYY;go_wp2;go_roundw
   case rel=>exact⟨i+1,x',y',by omega,by go_num,rfl,rfl,hx',hy',HX2⟩
   case measure=>simp[intOf];omega
  have u1:decide ((i:Int)<(n:Int))=false:=q_f (by omega);have u1':decide (i<n)=false:=q_f hlt;have e:l.take i=l++(len8 n).take 0:=by rw[List.take_of_length_le (by have:=hn.out;omega)];simp
  rw[e] at HXX HYY;obtain⟨w3,hw3⟩:∃w3,w3=wr:=⟨_,rfl⟩
  subst hw3;have HX1:=HX;obtain⟨x0,hx0⟩:∃x0,x0=x:=⟨_,rfl⟩
  subst hx0;obtain⟨y0,hy0⟩:∃y0,y0=y:=⟨_,rfl⟩
  subst hy0;have HQ0:Hid ((n:Int)=((n / 2 ^ (8*0):Nat):Int)):=by rw[Hid];simp
  have u3:IntKind.u64.wrap (n:Int)=(n:Int):=by rw[wrap64];omega
  clear HX hlt hi9 e;go_wp2_with fail
  go_loopw [7,3,4,6] (fun iv xv yv nv wr=>∃(i:Nat) (x y q:Int),i<=8/\iv=.int .i64 (i:Int)/\xv=.int .u64 x/\yv=.int .u64 y/\nv=.int .u64 q/\Hid (q=((n / 2 ^ (8*i):Nat):Int))/\Hid (x=((xY (l++(len8 n).take i) dg0).1:Int))/\Hid (y=((xY (l++(len8 n).take i) dg0).2:Int))/\Hid (Ext W wr)) (fun iv _ _ _ _=>8-(intOf iv).toNat)
  case atStart=>exact⟨0,_,_,_,Nat.zero_le _,rfl,rfl,rfl,rfl,HQ0,HXX,HYY,HX1⟩
  case round =>
   clear HX1 HXX HYY u1 u1' HQ0;obtain⟨i,x,y,q,hi9,rfl,rfl,rfl,rfl,HQQ,HXX,HYY,HX⟩:=hrel
   by_cases hlt:i<8
   case pos =>
    have u1:decide ((i:Int)<8)=true:=q_t (by omega);have u1':decide (i<8)=true:=q_t hlt;obtain⟨z,hz⟩:=qc ((((len8 n).getD i 0).toNat:Int))
    have u5:IntKind.u8.wrap q=z:=by
     rw[hz.out,HQQ.out,len8_get hlt,UInt8.toNat_ofNat',wJ];omega
    obtain⟨q2,hq2⟩:=qc (q / 256);have u6:=hq2.out.symm
    have HQ2:Hid (q2=((n / 2 ^ (8*(i+1)):Nat):Int)):=by
     rw[Hid,hq2.out,HQQ.out,show 8*(i+1)=8*i+8 by omega,Nat.pow_add,<-Nat.div_div_eq_div_mul];omega
    obtain⟨x',hx'⟩:=qc (((xY (l++(len8 n).take (i+1)) dg0).1:Int));obtain⟨y',hy'⟩:=qc (((xY (l++(len8 n).take (i+1)) dg0).2:Int))
    have HS:Hid (Calls Tryz.prog 217 #[.int .u64 x,.int .u64 y,.int .u8 z] wr (qG wr (.tuple #[.int .u64 x',.int .u64 y']))):=by
     have h9:=Jm (l++(len8 n).take i);rw[HXX.out,HYY.out,hz.out,hx'.out,hy'.out,getD_take (by rw[yx];exact hlt),<-List.append_assoc,jB];exact QI h9.1 h9.2 ((len8 n).getD i 0) wr
    go_wp2_with (go_at_call 217;refine q_o ?_);refine HS.out.mono ?_;rintro e w2 ⟨rfl,e2⟩;have HX2:=q_h (HX.out.trans e2);clear HS HX e2 HXX HYY u5;go_wp2;go_roundw
    case rel=>exact⟨i+1,x',y',q2,by omega,by go_num,rfl,rfl,rfl,HQ2,hx',hy',HX2⟩
    case measure=>simp[intOf];omega
   have u1:decide ((i:Int)<8)=false:=q_f (by omega);have u1':decide (i<8)=false:=q_f hlt;have e:l++(len8 n).take i=l++len8 l.length:=by rw[List.take_of_length_le (by rw[yx];omega),hn.out]
   rw[e] at HXX HYY;have HX0:Hid (x=(((dgW l).1 / 2 ^ (8*0):Nat):Int)):=by rw[Hid,HXX.out];simp;rfl
   have HY0:Hid (y=(((dgW l).2 / 2 ^ (8*0):Nat):Int)):=by rw[Hid,HYY.out];simp;rfl
   obtain⟨w4,hw4⟩:∃w4,w4=wr:=⟨_,rfl⟩
   subst hw4;have HX1:=HX;clear HX HXX HYY hlt hi9 e HQQ;go_upto_region 14 with (fail);refine qm ?_;intro w5 e5 hsz5 B5;obtain⟨g9,hg9⟩:=qc w4.heap.size;rw[<-hg9.out] at B5 ⊢;have HB5:Hid (w5.heap[g9]?=some (.cells (dgE l 0) 176 (0,0))):=B5;have HX5:Hid (Ext w4 w5):=e5;have hg9':w4.heap.size<=g9:=by rw[hg9.out];exact q_r
   clear B5 e5 hsz5 hg9;go_wp2_with fail
   go_loopw [9,3,4] (fun iv xv yv wr=>∃(i:Nat) (x y:Int),i<=8/\iv=.int .i64 (i:Int)/\xv=.int .u64 x/\yv=.int .u64 y/\Hid (x=(((dgW l).1 / 2 ^ (8*i):Nat):Int))/\Hid (y=(((dgW l).2 / 2 ^ (8*i):Nat):Int))/\Hid (Ext w4 wr)/\Hid (wr.heap[g9]?=some (.cells (dgE l i) 176 (0,0)))) (fun iv _ _ _=>8-(intOf iv).toNat)
   case atStart=>exact⟨0,_,_,Nat.zero_le _,rfl,rfl,rfl,HX0,HY0,HX5,HB5⟩
   case round =>
    clear HX5 HB5 u1 u1' HX0 HY0;obtain⟨i,x,y,hi9,rfl,rfl,rfl,HXX,HYY,HX,HB⟩:=hrel
    by_cases hlt:i<8
    case pos =>
     have u1:decide ((i:Int)<8)=true:=q_t (by omega);have u1':decide (i<8)=true:=q_t hlt;obtain⟨j7,hj7⟩:=qc (7-i);obtain⟨j15,hj15⟩:=qc (15-i);have h7:j7<16/\j7<8:=by have:=hj7.out;omega
     have h15:j15<16:=by have:=hj15.out;omega
     have hne:j7≠j15:=by have:=hj15.out;omega
     have u2:IntKind.i64.wrap (7-(i:Int))=(j7:Int):=by rw[wrp (by omega) (by omega)];have:=hj7.out;omega
     have u3:IntKind.i64.wrap (15-(i:Int))=(j15:Int):=by rw[wrp (by omega) (by omega)];have:=hj15.out;omega
     obtain⟨z1,hz1⟩:=qc (((dgB l (7-i):Nat):Int));obtain⟨z2,hz2⟩:=qc (((dgB l (15-i):Nat):Int))
     have u4:IntKind.u8.wrap x=z1:=by
      rw[hz1.out,HXX.out,wJ];unfold dgB;rw[if_pos (by omega),show 56-8*(7-i)=8*i by omega];omega
     have u5:IntKind.u8.wrap y=z2:=by
      rw[hz2.out,HYY.out,wJ];unfold dgB;rw[if_neg (by omega),show 56-8*(15-i-8)=8*i by omega];omega
     obtain⟨x2,hx2⟩:=qc (x / 256);obtain⟨y2,hy2⟩:=qc (y / 256);have u6:=hx2.out.symm;have u7':=hy2.out.symm
     have HX2:Hid (x2=(((dgW l).1 / 2 ^ (8*(i+1)):Nat):Int)):=by
      rw[Hid,hx2.out,HXX.out,show 8*(i+1)=8*i+8 by omega,Nat.pow_add,<-Nat.div_div_eq_div_mul];omega
     have HY2:Hid (y2=(((dgW l).2 / 2 ^ (8*(i+1)):Nat):Int)):=by
      rw[Hid,hy2.out,HYY.out,show 8*(i+1)=8*i+8 by omega,Nat.pow_add,<-Nat.div_div_eq_div_mul];omega
     have f0:=qo HB.out j7;have c0:=(qj HB.out j7).trans (Qc l i h7.1);obtain⟨wq,hwq⟩:∃wq,wq=wr:=⟨_,rfl⟩
     subst hwq;have HAS:=q_h (VN l hlt);go_upto_region 18 with (fail);obtain⟨w6,E6,B6,U6⟩:=qI HB.out j7 (.int .u8 z1);rw[E6];have e6:=(U6.chg (NoU.mk HB.out (by decide))).ext HX.out hg9';clear f0 c0 E6;have f0:=qo B6 j15;have c0:w6.cell? ⟨g9,j15,none⟩=some _:=(qj B6 j15).trans (by rw[Array.getElem?_setIfInBounds,if_neg hne,Qc l i h15]);go_upto_region 19 with (fail);obtain⟨w7,E7,B7,U7⟩:=qI B6 j15 (.int .u8 z2);rw[E7];have HX7:Hid (Ext w4 w7):=(U7.chg (NoU.mk B6 (by decide))).ext e6 hg9'
     have HB7:Hid (w7.heap[g9]?=some (.cells (dgE l (i+1)) 176 (0,0))):=by
      rw[hz1.out,hz2.out,hj7.out,hj15.out,HAS.out] at B7;exact B7
     clear f0 c0 E7 B6 B7 U6 U7 e6 HB HX HXX HYY u2 u3 u4 u5;go_wp2;go_roundw
     case rel=>exact⟨i+1,x2,y2,by omega,by go_num,rfl,rfl,HX2,HY2,HX7,HB7⟩
     case measure=>simp[intOf];omega
    have u1:decide ((i:Int)<8)=false:=q_f (by omega);have u1':decide (i<8)=false:=q_f hlt
    have HR:Hid (wr.heap[g9]?=some (.cells (dgC l) 176 (0,0))):=by
     rw[<-Yz l,show 8=i by omega];exact HB.out
    obtain⟨w8,hw8⟩:∃w8,w8=wr:=⟨_,rfl⟩
    subst hw8;have HE8:=q_h (HX1.out.trans HX.out);have HB08:=q_h (HE8.out.block HB0.out);clear HB;go_upto_region 21 with (fail);refine wp_region_lit ?_;refine wpList_load_row rfl 176 _ rfl _ (by rfl) _ (dgC l) _ _ HR.out Tryz.underlying176 rfl (by rw[zI];exact kX) ?_;refine qg rfl 176 _ _ rfl (by rfl) (by rfl) HB08.out kX (zI l) (by rw[zI];rfl) (ZI l) ?_;intro w9 B9 U9;go_wp2;refine bodyPost_ret (results_cell_row rfl _ _ _ _ _ _ _ rfl B9 Tryz.underlying176 rfl (by rw[zI];exact kX)) rfl ?_;rw[hQ.out];exact⟨rfl,(U9.chg (NoU.mk HB08.out (by decide))).ext (HE.out.trans HE8.out) (q_r)⟩
theorem Yd {l:Byt}(h:ByV w v l):Calls Tryz.prog 136 #[v] w (qG w (sV (nmB l))):=by
 have HV:=q_h h;obtain⟨Q,hQ⟩:=qc (qG w (sV (nmB l)));rw[<-hQ.out];go_enter Tryz.func136,Tryz.ntmps136;go_upto_region 1 with (fail);refine wp_region_lit ?_;refine wpList_plain rfl (fun K hK=>?_);go_simp;refine hK _ _ ?_;clear hK K;try simp only[nr]
 refine wpList_plain rfl (fun K hK0=>?_);have hK:=q_h hK0;clear hK0;go_simp;refine (Vt HV.out).mono ?_;rintro e w1 ⟨rfl,e1⟩;go_wp2_with fail;refine hK.out _ _ ?_;clear hK K;try simp only[nr]
 refine wpList_plain rfl (fun K hK=>?_);go_simp;refine hK _ _ ?_;clear hK K;try simp only[nr]
 refine qm (F:=fun W=>wpList _ _ _ _ _ W) ?_;intro w2 e2 hsz2 B2;refine qg rfl 176 _ _ rfl (by rfl) (by rfl) B2 kX (zI l) (by rw[zI];rfl) (ZI l) ?_;intro w3 B3 U3;have HE3:Hid (Ext w w3):=(U3.chg (NoU.mk B2 (by decide))).ext (e1.trans e2) e1.size;obtain⟨g,hg⟩:=qc w1.heap.size;rw[<-hg.out] at B3 ⊢;have HB3:=q_h B3;have hgw:w.heap.size<=g:=by rw[hg.out];exact e1.size
 have hg3:g<w3.heap.size:=qK B3;clear e1 e2 hsz2 B2 B3 U3 hg;try simp only[nr]
 go_upto_region 4 with (fail);refine qm ?_;intro w4 e4 hsz4 B4;have HG4:Hid (GrB w3.heap.size w4 (.slice (some ⟨w3.heap.size,0,none⟩) (2*0) 0) (nmP l 0)):=qA.empty (q_r) B4;have HE4:Hid (Ext w3 w4):=e4;clear e4 hsz4 B4;go_wp2_with fail
 go_loopw [6,5] (fun iv tv wr=>∃(i:Nat) (A:Option Addr) (c:Nat),i<=16/\iv=.int .i64 (i:Int)/\tv=.slice A (2*i) c/\Hid (GrB w3.heap.size wr (.slice A (2*i) c) (nmP l i))/\Hid (Ext w3 wr)) (fun iv _ _=>16-(intOf iv).toNat)
 case atStart=>exact⟨0,_,0,Nat.zero_le _,rfl,rfl,HG4,HE4⟩
 case round =>
  clear HG4 HE4;obtain⟨i,A,c,hi9,rfl,rfl,HG,HE⟩:=hrel
  by_cases hlt:i<16
  case pos =>
   have u1:decide ((i:Int)<16)=true:=q_t (by omega);have u1':decide (i<16)=true:=q_t hlt;obtain⟨z,hz⟩:=qc (((dgB l i:Nat):Int));have p0:w3.cell? ⟨g,i,none⟩=some (.int .u8 z):=by rw[qj HB3.out,VO l hlt,hz.out]
   have hdb:dgB l i<256:=Nat.mod_lt _ (by decide);have hzb:0<=z/\z<256:=by have:=hz.out;omega
   obtain⟨a,ha⟩:=qc (((dgB l i / 16:Nat):Int));obtain⟨b,hb⟩:=qc (((dgB l i % 16:Nat):Int));have u2:z / 16=a:=by rw[hz.out,ha.out];omega
   have u2':z.tdiv 16=a:=by rw[Int.tdiv_eq_ediv_of_nonneg hzb.1];exact u2
   have u3:z % 16=b:=by rw[hz.out,hb.out];omega
   have u3':z.tmod 16=b:=by rw[Int.tmod_eq_emod_of_nonneg hzb.1];exact u3
   have u8a:IntKind.u8.wrap a=a:=by rw[wJ];omega
   have u8b:IntKind.u8.wrap b=b:=by rw[wJ];omega
   obtain⟨z1,hz1⟩:=qc (((ZF (dgB l i / 16)).toNat:Int));obtain⟨z2,hz2⟩:=qc (((ZF (dgB l i % 16)).toNat:Int))
   have u4:∀w,(Instr.index 9 (.string ⟨#[48,49,50,51,52,53,54,55,56,57,97,98,99,100,101,102]⟩) (.int .u8 a)).run Tryz.prog w=.ok (.int .u8 z1) w:=by
    rw[ha.out,hz1.out];exact wP (by omega)
   have u5:∀w,(Instr.index 9 (.string ⟨#[48,49,50,51,52,53,54,55,56,57,97,98,99,100,101,102]⟩) (.int .u8 b)).run Tryz.prog w=.ok (.int .u8 z2) w:=by
    rw[hb.out,hz2.out];exact wP (by omega)
   obtain⟨wq,hwq⟩:∃wq,wq=wr:=⟨_,rfl⟩
   subst hwq;go_upto_region 7 with (fail);have eC:=HE.out.drew;refine qh (fun w'=>w'.cell? ⟨g,i,none⟩=some (.int .u8 z)) [] (by kernel_rfl) (by exact eC.cell p0) (fun hHeld=>?_);refine sP 0 (h:=?_);refine sP 1 (h:=?_);refine sP 2 (h:=?_);refine sP 3 (h:=?_);refine sT 4 (h:=?_);refine sP 5 (h:=?_);refine sP 6 (h:=?_);refine sP 7 (h:=?_);refine sP 8 (h:=?_);refine sP 9 (h:=?_);refine sT 10 (h:=?_);refine sP 11 (h:=?_);refine sP 12 (h:=?_);refine qf (i:=13) rfl (by kernel_rfl) (fun K hK=>?_);go_simp;refine qm (F:=fun W=>K _ W.drew) ?_;intro w6 e6 hsz6 B6;replace eC:Ext w3 w6.drew:=(HE.out.trans e6).drew;have hG6:GrB w3.heap.size w6.drew (.slice A (2*i) c) (nmP l i):=qA.ext HG.out e6.drew;have b6:w6.drew.heap[wq.heap.size]?=some (.cells #[.int .u8 z1,.int .u8 z2] 5 (0,0)):=B6;clear hHeld;refine hK.out _ _ (by exact eC.cell p0) fun hHeld=>?_
   clear hK K;try simp only[nr]
   refine qf (i:=14) rfl (by kernel_rfl) (fun K hK=>?_);refine kP kL _ _ 27 Tryz.underlying27 rfl (by rfl) hG6 (m:=2) (c:=2) (news:=[.int .u8 z1,.int .u8 z2]) (by rfl) rfl (Xu b6) Xt (by omega) (by rw[qx,jM];omega) ?_;intro g7 cap w7 hG7 _ ⟨g',hg',_,C7,_⟩;replace eC:=C7.ext eC hg';clear hHeld;refine hK.out _ _ (by exact eC.cell p0) fun hHeld=>?_
   clear hK K;try simp only[nr]
   refine sP 15 (h:=?_);refine ql (by kernel_rfl) ?_ _;clear hHeld
   have HG2:Hid (GrB w3.heap.size w7 (.slice (some ⟨g7,0,none⟩) (2*(i+1)) cap) (nmP l (i+1))):=by
    rw[qx,jM] at hG7;unfold GrB;rw[Hid,Kt,zN,Jy,<-hz1.out,<-hz2.out];exact hG7
   have HE2:Hid (Ext w3 w7):=eC;rw[qx,jM];clear hG7 C7 eC HG HE u2 u2' u3 u3' u4 u5 u8a u8b p0;go_wp2;go_roundw
   case rel=>exact⟨i+1,_,cap,by omega,by go_num,rfl,HG2,HE2⟩
   case measure=>simp[intOf];omega
  have u1:decide ((i:Int)<16)=false:=q_f (by omega);have u1':decide (i<16)=false:=q_f hlt
  have HN:Hid (nmP l i=nmB l):=by
   rw[Hid,show i=16 by omega]
   rfl
  have hb:=GrB.by HG.out
  have hcv:=zT hb;obtain⟨sv,hsv⟩:=qc (sV (nmP l i));rw[<-hsv.out] at hcv;go_wp2
  show Q (Ending.returned sv) wr
  rw[hQ.out,hsv.out,HN.out];exact⟨rfl,HE3.out.trans HE.out⟩
theorem vS (HT:xH){t:Tg}(ho:okT t) (ht:zY w):Calls Tryz.prog 117 #[.agg #[sV t.name,sV t.target]] w (Wy w (tgE t)):=by
 have HK:=q_h ho;have HTB:=q_h ht;obtain⟨s0,hs0⟩:=qc (sV t.name);obtain⟨s1,hs1⟩:=qc (sV t.target);have f0:s0.oneCell'=true:=by rw[hs0.out];rfl
 have f1:s1.oneCell'=true:=by rw[hs1.out];rfl
 have g0:s0.cells=#[s0]:=by rw[hs0.out];rfl
 have g1:s1.cells=#[s1]:=by rw[hs1.out];rfl
 rw[<-hs0.out,<-hs1.out];clear ho ht;go_enter Tryz.func117,Tryz.ntmps117;go_upto_region 1 with (fail);refine qm ?_;intro W hE hsz B0;obtain⟨p0,p1,-⟩:=cells2 B0;have HN:Hid (W.heap.size<=W.drew.heap.size):=q_r;have eC:=(Ext.refl W).drew;refine qh (fun w'=>w'.cell? ⟨w.heap.size,0,none⟩=some (s0)/\w'.cell? ⟨w.heap.size,1,none⟩=some (s1)) [] (by kernel_rfl) (by exact⟨eC.cell p0,eC.cell p1⟩) (fun hHeld=>?_);refine sP 1 (h:=?_);refine sT 2 (h:=?_);refine sP 4 (h:=?_);refine sT 5 (h:=?_);refine qf (i:=0) rfl (by kernel_rfl) (fun K hK=>?_);go_simp;refine (yL (N:=W.heap.size) HN.out 1 (by omega) (by omega)).mono ?_;rintro e w2 ⟨nb,A1,m1,k1,rfl,hI,e2⟩;have HV1:=q_h (nuV hI);replace eC:=eC.trans e2;clear hI e2;go_wp2_with fail;clear hHeld;refine hK.out _ _ (by exact⟨eC.cell p0,eC.cell p1⟩) fun hHeld=>?_
 clear hK K;try simp only[nr]
 refine qf (i:=3) rfl (by kernel_rfl) (fun K hK=>?_);go_simp;rw[hs0.out];refine (xq (l:=t.name) (by have:=HK.out.1;omega)).mono ?_;rintro e w3 ⟨c3,rfl,hG3,e3⟩;have HV2:=q_h (txV (N:=W.heap.size) hG3);obtain⟨g3,cap3,rfl,-⟩:=hG3.form;have HV13:=q_h (HV1.out.ext e3);replace eC:=eC.trans e3;clear hG3 e3 HV1;go_wp2_with fail;clear hHeld;refine hK.out _ _ (by exact⟨eC.cell p0,eC.cell p1⟩) fun hHeld=>?_
 clear hK K;try simp only[nr]
 refine qf (i:=6) rfl (by kernel_rfl) (fun K hK=>?_);go_simp;rw[hs1.out];refine (xq (l:=t.target) (by have:=HK.out.2;omega)).mono ?_;rintro e w4 ⟨c4,rfl,hG4,e4⟩;have HV3:=q_h (txV (N:=W.heap.size) hG4);obtain⟨g4,cap4,rfl,-⟩:=hG4.form;have HV14:=q_h (HV13.out.ext e4);have HV24:=q_h (HV2.out.ext e4);replace eC:=eC.trans e4;clear HV13 HV2 hG4 e4;go_wp2_with fail;clear hHeld;refine hK.out _ _ (by exact⟨eC.cell p0,eC.cell p1⟩) fun hHeld=>?_
 clear hK K;try simp only[nr]
 refine qf (i:=7) rfl (by kernel_rfl) (fun K hK=>?_);go_simp
 first|refine qm ?_|refine qQ ?_
 intro w5 e5 hsz5 BJ;have HVV:=q_h (Yh BJ (HV14.out.ext e5) (HV24.out.ext e5) (HV3.out.ext e5));replace eC:=eC.trans e5;clear HV14 HV24 HV3 BJ e5;clear hHeld;refine hK.out _ _ (by exact⟨eC.cell p0,eC.cell p1⟩) fun hHeld=>?_
 clear hK K;try simp only[nr]
 refine qf (i:=8) rfl (by kernel_rfl) (fun K hK=>?_);go_simp;refine jc.mono ?_;rintro e w6 ⟨rfl,e6⟩;have HV6:=q_h (HVV.out.ext e6);replace eC:=eC.trans e6;clear HVV e6;go_wp2_with fail;clear hHeld;refine hK.out _ _ (by exact⟨eC.cell p0,eC.cell p1⟩) fun hHeld=>?_
 clear hK K;try simp only[nr]
 refine qf (i:=9) rfl (by kernel_rfl) (fun K hK=>?_);go_simp;refine (xQ HT HV6.out (HK.out.fits 1 (by omega) (by omega)).1 (HTB.out.ext (hE.trans eC))).mono ?_;rintro e w7 ⟨v7,rfl,hG7,e7⟩;have HG7:Hid (GrB w.heap.size w7 v7 (tgE t)):=qA.low hG7 (hE.trans eC).size;replace eC:=eC.trans e7;clear hG7 e7;go_wp2_with fail;clear hHeld;refine hK.out _ _ (by exact⟨eC.cell p0,eC.cell p1⟩) fun hHeld=>?_
 clear hK K;try simp only[nr]
 refine sP 10 (h:=?_);refine ql (by kernel_rfl) ?_ _;clear hHeld;have HX:=q_h (hE.trans eC);clear eC p0 p1;go_wp2;go_ret;exact⟨_,rfl,HG7.out,HX.out⟩
def Ok0 (o:Ob):Prop:=o.links.length<=1000/\o.data.length<=65536/\∀s∈o.links,s.length<=65536
theorem okO.ok0 {o:Ob}(h:okO o):Ok0 o:=⟨by have:=h.1;omega,by have:=h.2.1;omega,fun s hs=>by have:=h.2.2 s hs;omega⟩
def nmO (o:Ob):Byt:=if obC o=0 then qO o else []
theorem wO (HT:xH){o:Ob}{x y:Value}(h:ObR w x y o) (ho:Ok0 o) (ht:zY w):Calls Tryz.prog 15 #[.agg #[x,y]] w (qG w (.tuple #[sV (nmO o),.int .i64 (obC o)])):=by
 have HO:=q_h h;have HK:=q_h ho;have HTB:=q_h ht;obtain⟨R,hR⟩:=qc (qG w (.tuple #[sV (nmO o),.int .i64 (obC o)]));rw[<-hR.out];obtain⟨A0,c0,rfl,-⟩:=h.1.form;obtain⟨A9,c9,rfl,-⟩:=h.2.form;obtain⟨n0,hn0⟩:=qc o.links.length;obtain⟨n9,hn9⟩:=qc o.data.length;rw[<-hn0.out,<-hn9.out] at HO ⊢;obtain⟨s0,hs0⟩:=qc (sV o.data);clear h ho ht;go_enter Tryz.func15,Tryz.ntmps15;go_upto_region 1 with (fail);refine qm ?_;intro w1 hE hsz B0;obtain⟨p0,p1,-⟩:=cells2 B0;have HB0:=q_h B0
 by_cases h1:16<n0
 ·have u1:decide ((16:Int)<(n0:Int))=true:=q_t (by omega);have u1':decide (16<n0)=true:=q_t h1
  have HC:Hid (obC o=3/\nmO o=[]):=by
   have e:obC o=3:=by unfold obC;rw[if_pos (.inl (by have:=hn0.out;omega))]
   exact⟨e,by unfold nmO;rw[e];rfl⟩
  go_wp2
  first|go_ret2|skip
  rw[hR.out,HC.out.1,HC.out.2];exact⟨rfl,hE⟩
 have u1:decide ((16:Int)<(n0:Int))=false:=q_f (by omega);have u1':decide (16<n0)=false:=q_f h1
 by_cases h2:1024<n9
 ·have u2:decide ((1024:Int)<(n9:Int))=true:=q_t (by omega);have u2':decide (1024<n9)=true:=q_t h2
  have HC:Hid (obC o=3/\nmO o=[]):=by
   have e:obC o=3:=by unfold obC;rw[if_pos (.inr (by have:=hn9.out;omega))]
   exact⟨e,by unfold nmO;rw[e];rfl⟩
  go_wp2
  first|go_ret2|skip
  rw[hR.out,HC.out.1,HC.out.2];exact⟨rfl,hE⟩
 have u2:decide ((1024:Int)<(n9:Int))=false:=q_f (by omega);have u2':decide (1024<n9)=false:=q_f h2;have HLE:Hid (n0<=16/\n9<=1024):=⟨by omega,by omega⟩
 obtain⟨q,hq⟩:=qc (o.links.all vG)
 have HCF:Hid (Calls Tryz.prog 56 #[.slice A0 n0 c0,.func (.func 67) #[] #[]] w1 (qG w1 (.bool (!q)))):=by
  have h9:=jF o.links vG;rw[<-hn0.out,<-hq.out] at h9;rw[<-h9];refine X9 (l:=o.links) ⟨hn0.out,HO.out.1.ext hE⟩ _ (fun i hi w' u e hu=>?_);rw[hu.out];refine Zk ?_;rw[List.getD_eq_getElem?_getD,List.getElem?_eq_getElem (by have:=hn0.out;omega)];have:=HK.out.2.2 _ (List.getElem_mem (l:=o.links) (n:=i) (by have:=hn0.out;omega))
  show (o.links[i]).length<=_
  omega
 go_wp2_with (go_at_call 56;refine q_o ?_);refine HCF.out.mono ?_;rintro e W ⟨rfl,e2⟩;have HX:=q_h (hE.trans e2);clear p0 p1 HCF;obtain⟨p0,p1,-⟩:=cells2 (e2.block HB0.out);clear hE e2 B0;cases q with
 | false =>
  have HC:Hid (obC o=10/\nmO o=[]):=by
   have e:obC o=10:=by
    unfold obC;rw[if_neg (by have:=hn0.out;have:=hn9.out;omega),<-hq.out]
    rfl
   exact⟨e,by unfold nmO;rw[e];rfl⟩
  go_wp2
  first|go_ret2|skip
  rw[hR.out,HC.out.1,HC.out.2];exact⟨rfl,HX.out⟩
 | true =>
  have HC:Hid (obC o=0/\nmO o=qO o):=by
   have e:obC o=0:=by
    unfold obC;rw[if_neg (by have:=hn0.out;have:=hn9.out;omega),<-hq.out]
    rfl
   exact⟨e,by unfold nmO;rw[e];rfl⟩
  have HK2:=q_h (yT HC.out.1)
  have HT5:Hid (∀w',Ext W w'->(convert 27 9 (.slice A9 n9 c9)).run Tryz.prog w'=.ok s0 w'):=fun w' e=>by
   rw[hs0.out];exact zT (HO.out.2.ext (HX.out.trans e))
  have HC0:Hid (Ext W W.drew):=(Ext.refl W).drew;go_upto_region 5 with (fail);have eC:=And.intro (HC0.out.cell p0) (And.intro (HC0.out.cell p1) (HT5.out _ HC0.out));refine qh (fun w'=>w'.cell? ⟨w.heap.size,0,none⟩=some (.slice A0 n0 c0)/\w'.cell? ⟨w.heap.size,1,none⟩=some (.slice A9 n9 c9)/\(convert 27 9 (.slice A9 n9 c9)).run Tryz.prog w'=.ok s0 w') [] (by kernel_rfl) (by exact eC) (fun hHeld=>?_);refine sT 0 (h:=?_);refine sP 2 (h:=?_);refine sT 3 (h:=?_);refine sT 4 (hy:=by (intro w9 hSw;have c9:=hSw.2.2;go_simp;(try (rw[if_pos (by omega)]));(try with_reducible rfl))) (h:=?_);refine qf (i:=1) rfl (by kernel_rfl) (fun K hK=>?_);go_simp;refine (Qz (HO.out.ext (HX.out.trans HC0.out)) (by have:=HK.out.1;omega) (fun s hs=>by have:=HK.out.2.2 s hs;omega)).mono ?_;rintro e w3 ⟨A2,n2,k2,rfl,hLk,e3⟩;have HV2:=q_h (hLk W.heap.size);have HC3:=q_h (HC0.out.trans e3);replace eC:=And.intro (e3.cell eC.1) (And.intro (e3.cell eC.2.1) (HT5.out _ HC3.out));clear hLk e3;go_wp2_with fail;clear hHeld;refine hK.out _ _ (by exact eC) fun hHeld=>?_
  clear hK K;try simp only[nr]
  refine qf (i:=5) rfl (by kernel_rfl) (fun K hK=>?_);go_simp;rw[hs0.out];refine (xq (l:=o.data) (by have:=HK.out.2.1;omega)).mono ?_;rintro e w4 ⟨c4,rfl,hG4,e4⟩;have HV3:=q_h (txV (N:=W.heap.size) hG4);obtain⟨g4,cap4,rfl,-⟩:=hG4.form;have HV24:=q_h (HV2.out.ext e4);have HC4:=q_h (HC3.out.trans e4);replace eC:=And.intro (e4.cell eC.1) (And.intro (e4.cell eC.2.1) (HT5.out _ HC4.out));clear HV2 hG4 e4;go_wp2_with fail;clear hHeld;refine hK.out _ _ (by exact eC) fun hHeld=>?_
  clear hK K;try simp only[nr]
  refine qf (i:=6) rfl (by kernel_rfl) (fun K hK=>?_);go_simp
  first|refine qm ?_|refine qQ ?_
  intro w5 e5 hsz5 BJ;have HVV:=q_h (WR BJ (HV24.out.ext e5) (HV3.out.ext e5));have HC5:=q_h (HC4.out.trans e5);replace eC:=And.intro (e5.cell eC.1) (And.intro (e5.cell eC.2.1) (HT5.out _ HC5.out));clear HV24 HV3 BJ e5;clear hHeld;refine hK.out _ _ (by exact eC) fun hHeld=>?_
  clear hK K;try simp only[nr]
  refine qf (i:=7) rfl (by kernel_rfl) (fun K hK=>?_);go_simp;refine jc.mono ?_;rintro e w6 ⟨rfl,e6⟩;have HV6:=q_h (HVV.out.ext e6);have HC6:=q_h (HC5.out.trans e6);replace eC:=And.intro (e6.cell eC.1) (And.intro (e6.cell eC.2.1) (HT5.out _ HC6.out));clear HVV e6;go_wp2_with fail;clear hHeld;refine hK.out _ _ (by exact eC) fun hHeld=>?_
  clear hK K;try simp only[nr]
  refine qf (i:=8) rfl (by kernel_rfl) (fun K hK=>?_);go_simp;refine (xQ HT HV6.out HK2.out.fits2 (HTB.out.ext (HX.out.trans HC6.out))).mono ?_;rintro e w7 ⟨v7,rfl,hG7,e7⟩;have HG7:=q_h hG7.by
  have HC7:=q_h (HC6.out.trans e7);replace eC:=And.intro (e7.cell eC.1) (And.intro (e7.cell eC.2.1) (HT5.out _ HC7.out));clear hG7 e7;go_wp2_with fail;clear hHeld;refine hK.out _ _ (by exact eC) fun hHeld=>?_
  clear hK K;try simp only[nr]
  refine qf (i:=9) rfl (by kernel_rfl) (fun K hK=>?_);go_simp;obtain⟨nm,hnm⟩:=qc (sV (qO o))
  have HCN:Hid (Calls Tryz.prog 69 #[v7] w7 (qG w7 nm)):=by
   rw[hnm.out];exact VU HG7.out
  refine HCN.out.mono ?_;rintro e w8 ⟨rfl,e8⟩;have HC8:=q_h (HC7.out.trans e8);replace eC:=And.intro (e8.cell eC.1) (And.intro (e8.cell eC.2.1) (HT5.out _ HC8.out));clear e8;go_wp2_with fail;clear hHeld;refine hK.out _ _ (by exact eC) fun hHeld=>?_
  clear hK K;try simp only[nr]
  refine sP 10 (h:=?_);refine sP 11 (h:=?_);refine ql (by kernel_rfl) ?_ _;clear hHeld;have HX8:=q_h (HX.out.trans HC8.out);clear eC p0 p1;go_wp2
  first|go_ret2|skip
  rw[hR.out,HC.out.1,HC.out.2,hnm.out];exact⟨rfl,HX8.out⟩
theorem txF{l:Byt}{c:Value}{b:Value}(h:ByV w c l) (hb:Emp b):VlV false N w (.txt l) (.agg #[.int .i64 1,.bool false,b,c,.slice none 0 0]):=by
 unfold VlV;exact⟨_,_,_,rfl,hb,⟨h,fun h=>by cases h⟩,⟨_,_,rfl⟩⟩
theorem Kw {o:Ob}{x y:Value}(h:ObR w x y o) (ho:okO o):Calls Tryz.prog 76 #[.agg #[x,y]] w (qG w (sV (qO o))):=by
 have HO:=q_h h;have HK:=q_h ho;obtain⟨A0,c0,rfl,-⟩:=h.1.form;obtain⟨A9,c9,rfl,-⟩:=h.2.form;obtain⟨n0,hn0⟩:=qc o.links.length;obtain⟨n9,hn9⟩:=qc o.data.length;rw[<-hn0.out,<-hn9.out] at HO ⊢;obtain⟨nm,hnm⟩:=qc (sV (qO o));rw[<-hnm.out];obtain⟨E,hE9⟩:=qc (enc (.lst [Qq o,.txt o.data]));clear h ho;go_enter Tryz.func76,Tryz.ntmps76;go_upto_region 1 with (fail);refine qm ?_;intro W hE hsz B0;obtain⟨p0,p1,-⟩:=cells2 B0;have eC:=(Ext.refl W).drew;refine qh (fun w'=>w'.cell? ⟨w.heap.size,0,none⟩=some (.slice A0 n0 c0)/\w'.cell? ⟨w.heap.size,1,none⟩=some (.slice A9 n9 c9)) [] (by kernel_rfl) (by exact⟨eC.cell p0,eC.cell p1⟩) (fun hHeld=>?_);refine sP 0 (h:=?_);refine sT 1 (h:=?_);refine sP 3 (h:=?_);refine sT 4 (h:=?_);refine sP 5 (h:=?_);refine qf (i:=2) rfl (by kernel_rfl) (fun K hK=>?_);go_simp;refine (QO (HO.out.1.ext (hE.trans eC)) (by have:=HK.out.1;omega) (fun s hs=>by have:=HK.out.2.2 s hs;omega)).mono ?_;rintro e w3 ⟨A2,n2,k2,rfl,hLk,e3⟩;have HV2:=q_h ((hLk W.heap.size).any false);replace eC:=eC.trans e3;clear hLk e3;go_wp2_with fail;clear hHeld;refine hK.out _ _ (by exact⟨eC.cell p0,eC.cell p1⟩) fun hHeld=>?_
 clear hK K;try simp only[nr]
 refine qf (i:=6) rfl (by kernel_rfl) (fun K hK=>?_);go_simp
 first|refine qm ?_|refine qQ ?_
 intro w5 e5 hsz5 BJ;have HVV:=q_h (WR BJ (HV2.out.ext e5) (txF (N:=W.heap.size) (HO.out.2.ext (hE.trans (eC.trans e5))) ⟨_,_,rfl⟩));replace eC:=eC.trans e5;clear HV2 BJ e5;clear hHeld;refine hK.out _ _ (by exact⟨eC.cell p0,eC.cell p1⟩) fun hHeld=>?_
 clear hK K;try simp only[nr]
 refine qf (i:=7) rfl (by kernel_rfl) (fun K hK=>?_);go_simp;refine jr.mono ?_;rintro e w6 ⟨rfl,e6⟩;have HV6:=q_h (HVV.out.ext e6);replace eC:=eC.trans e6;clear HVV e6;go_wp2_with fail;clear hHeld;refine hK.out _ _ (by exact⟨eC.cell p0,eC.cell p1⟩) fun hHeld=>?_
 clear hK K;try simp only[nr]
 refine qf (i:=8) rfl (by kernel_rfl) (fun K hK=>?_);go_simp;refine (vY HV6.out eC.size HK.out.fits2.1 HK.out.fits2.2.1 HK.out.fits2.2.2.1 HK.out.fits2.2.2.2).mono ?_;rintro e w7 ⟨v7,rfl,hG7,e7⟩;have HG7:Hid (ByV w7 v7 (enc (.lst [Qq o,.txt o.data]))):=hG7.by
 replace eC:=eC.trans e7;clear hG7 e7;go_wp2_with fail;clear hHeld;refine hK.out _ _ (by exact⟨eC.cell p0,eC.cell p1⟩) fun hHeld=>?_
 clear hK K;try simp only[nr]
 refine sP 9 (h:=?_);refine sP 10 (h:=?_);refine sP 11 (h:=?_);refine sP 12 (h:=?_);refine sP 13 (h:=?_);refine ql (by kernel_rfl) ?_ _;clear hHeld;have HX:=q_h (hE.trans eC)
 have HCN:Hid (Calls Tryz.prog 136 #[v7] w7 (qG w7 nm)):=by
  rw[hnm.out];exact Yd HG7.out
 clear eC p0 p1;go_wp2_with (go_at_call 136;refine q_o ?_);refine HCN.out.mono ?_;rintro e w8 ⟨rfl,e8⟩;go_wp2;go_ret;exact⟨rfl,HX.out.trans e8⟩
theorem Q3 {o:Ob}{x y:Value}(h:ObR w x y o) (ho:Ok0 o):Calls Tryz.prog 16 #[.agg #[x,y]] w (qG w (.tuple #[sV (nmO o),.int .i64 (obC o)])):=by
 have HO:=q_h h;have HK:=q_h ho;obtain⟨R,hR⟩:=qc (qG w (.tuple #[sV (nmO o),.int .i64 (obC o)]));rw[<-hR.out];obtain⟨A0,c0,rfl,-⟩:=h.1.form;obtain⟨A9,c9,rfl,-⟩:=h.2.form;obtain⟨n0,hn0⟩:=qc o.links.length;obtain⟨n9,hn9⟩:=qc o.data.length;rw[<-hn0.out,<-hn9.out] at HO ⊢;clear h ho;go_enter Tryz.func16,Tryz.ntmps16;go_upto_region 1 with (fail);refine qm ?_;intro w1 hE hsz B0;obtain⟨p0,p1,-⟩:=cells2 B0;have HB0:=q_h B0
 by_cases h1:16<n0
 ·have u1:decide ((16:Int)<(n0:Int))=true:=q_t (by omega);have u1':decide (16<n0)=true:=q_t h1
  have HC:Hid (obC o=3/\nmO o=[]):=by
   have e:obC o=3:=by unfold obC;rw[if_pos (.inl (by have:=hn0.out;omega))]
   exact⟨e,by unfold nmO;rw[e];rfl⟩
  go_wp2
  first|go_ret2|skip
  rw[hR.out,HC.out.1,HC.out.2];exact⟨rfl,hE⟩
 have u1:decide ((16:Int)<(n0:Int))=false:=q_f (by omega);have u1':decide (16<n0)=false:=q_f h1
 by_cases h2:1024<n9
 ·have u2:decide ((1024:Int)<(n9:Int))=true:=q_t (by omega);have u2':decide (1024<n9)=true:=q_t h2
  have HC:Hid (obC o=3/\nmO o=[]):=by
   have e:obC o=3:=by unfold obC;rw[if_pos (.inr (by have:=hn9.out;omega))]
   exact⟨e,by unfold nmO;rw[e];rfl⟩
  go_wp2
  first|go_ret2|skip
  rw[hR.out,HC.out.1,HC.out.2];exact⟨rfl,hE⟩
 have u2:decide ((1024:Int)<(n9:Int))=false:=q_f (by omega);have u2':decide (1024<n9)=false:=q_f h2;have HLE:Hid (n0<=16/\n9<=1024):=⟨by omega,by omega⟩
 obtain⟨q,hq⟩:=qc (o.links.all vG)
 have HCF:Hid (Calls Tryz.prog 56 #[.slice A0 n0 c0,.func (.func 74) #[] #[]] w1 (qG w1 (.bool (!q)))):=by
  have h9:=jF o.links vG;rw[<-hn0.out,<-hq.out] at h9;rw[<-h9];refine Xa (l:=o.links) ⟨hn0.out,HO.out.1.ext hE⟩ _ (fun i hi w' u e hu=>?_);rw[hu.out];refine ZA ?_;rw[List.getD_eq_getElem?_getD,List.getElem?_eq_getElem (by have:=hn0.out;omega)];have:=HK.out.2.2 _ (List.getElem_mem (l:=o.links) (n:=i) (by have:=hn0.out;omega))
  show (o.links[i]).length<=_
  omega
 go_wp2_with (go_at_call 56;refine q_o ?_);refine HCF.out.mono ?_;rintro e W ⟨rfl,e2⟩;have HX:=q_h (hE.trans e2);clear p0 p1 HCF;obtain⟨p0,p1,-⟩:=cells2 (e2.block HB0.out);clear hE e2 B0;cases q with
 | false =>
  have HC:Hid (obC o=10/\nmO o=[]):=by
   have e:obC o=10:=by
    unfold obC;rw[if_neg (by have:=hn0.out;have:=hn9.out;omega),<-hq.out]
    rfl
   exact⟨e,by unfold nmO;rw[e];rfl⟩
  go_wp2
  first|go_ret2|skip
  rw[hR.out,HC.out.1,HC.out.2];exact⟨rfl,HX.out⟩
 | true =>
  have HC:Hid (obC o=0/\nmO o=qO o):=by
   have e:obC o=0:=by
    unfold obC;rw[if_neg (by have:=hn0.out;have:=hn9.out;omega),<-hq.out]
    rfl
   exact⟨e,by unfold nmO;rw[e];rfl⟩
  have HK2:=q_h (yT HC.out.1);obtain⟨nm,hnm⟩:=qc (sV (qO o))
  have HCN:Hid (Calls Tryz.prog 76 #[.agg #[.slice A0 n0 c0,.slice A9 n9 c9]] W (qG W nm)):=by
   rw[hnm.out];exact Kw (HO.out.ext HX.out) HK2.out
  go_wp2_with (go_at_call 76;refine q_o ?_);refine HCN.out.mono ?_;rintro e w8 ⟨rfl,e8⟩;have HX8:=q_h (HX.out.trans e8);clear p0 p1 HCN e8;go_wp2
  first|go_ret2|skip
  rw[hR.out,HC.out.1,HC.out.2,hnm.out];exact⟨rfl,HX8.out⟩
def zrs (n:Nat):Byt:=List.replicate n 0
theorem zk (n:Nat):(zrs n).length=n:=List.length_replicate
theorem XL {ET:TypeId}{z0:Value}{bz:Nat}(ho:One ET z0 bz) (hz:z0.cells=#[z0]) (t:TypeId) (ht:Tryz.prog.underlying t=some (.slice ET)) (w:World) (kl kc:IntKind) (n:Nat) (hn:n<1000000) :
  ∃w' cs,(Instr.makeSlice t (.int kl n) (.int kc n)).run Tryz.prog w=.ok (.slice (some ⟨w.heap.size,0,none⟩) n n) w'/\w'.heap[w.heap.size]?=some (.cells cs ET (0,0))/\cs.size=n/\(∀i,i<n->cs[i]?=some z0)/\Ext w w':=by
 obtain⟨i0,hi0,hz0,hz1,hz2⟩:=info_parts ho.inf;have hle:=ho.le;obtain⟨w',hrun,hown,hgr⟩:=run_make_full (P:=Tryz.prog) w w.heap.size t ET i0 _ 1 ht hi0 hz0 hz1 kl kc n (by rw[hz2];exact q_l (Nat.mul_le_mul hle (Nat.le_of_lt hn)) (by decide)) (by unfold maxLen;omega) (q_r);have hx:=(Ext.refl w).grown hgr (fun k hk=>by cases hk)
 rcases hown.2 with ⟨h,_⟩|⟨g,cap,cur,hv,hg,hh,hnc,hcm,hcs,htk⟩
 ·cases h
 ·have e1:w.heap.size=g:=Option.some.inj (congrArg Value.ownBlock hv);have e3:n=cap:=congrArg (fun v:Value=>match v with|.slice _ _ c=>c|_=>0) hv;subst e1 e3;refine⟨w',cur,hrun,hh,by omega,fun i hi=>?_,hx⟩;rw[hz,toList_madeCells_one] at htk;have h1:(cur.toList.take (n*1))[i]?=(List.replicate (n*1) z0)[i]?:=by rw[htk]
  rw[List.getElem?_take,if_pos (by omega),List.getElem?_replicate,if_pos (by omega)] at h1;simpa using h1
theorem KW {ET:TypeId}{z0:Value}{bz:Nat}(ho:One ET z0 bz) (hz:z0.cells=#[z0]){ops:Array Oper}{rest:List Oper}{o:Oper}{a:Act}{Q:Exit->Act->World->Prop}(hg:o.guard=none) (l c:Operand) (t:TypeId) (ht:Tryz.prog.underlying t=some (.slice ET)) (hop:o.op=Op.makeSlice t l c)
  (kl kc:IntKind) (L C:Int) (n:Nat) (hl:a.eval l=.int kl L) (hc:a.eval c=.int kc C) (hL:L=(n:Int)) (hC:C=(n:Int)) (hn:n<1000000)
  (hK:∀w' cs,w'.heap[w.heap.size]?=some (.cells cs ET (0,0))->cs.size=n->(∀i,i<n->cs[i]?=some z0)->Ext w w'->wpList Tryz.prog ops Q rest (a.put o.dst (.slice (some ⟨w.heap.size,0,none⟩) n n)) w'):wpList Tryz.prog ops Q (o :: rest) a w:=by
 refine wpList_plain hg fun K hK'=>?_
 obtain⟨w',cs,hrun,r1,r2,r3,r4⟩:=XL ho hz t ht w kl kc n hn;subst hL;subst hC;unfold Oper.wp;simp[execOp,hop,hl,hc,hrun,Result.andThen]
 exact hK' _ _ (hK w' cs r1 r2 r3 r4)
def PgB (w:World) (g:Nat) (l:Byt):Prop:=w.heap[g]?=some (.cells (byC l).toArray 5 (0,0))
theorem PgB.ext{l:Byt}(h:PgB w g l) (e:Ext w w'):PgB w' g l:=e.block h
theorem PgB.chg{l:Byt}(h:PgB w g l) (e:Chg lo hi w w') (hg:g<lo\/hi<=g):PgB w' g l:=e.blk h hg
theorem PgB.lt{l:Byt}(h:PgB w g l):g<w.heap.size:=qK h
theorem PgB.cell{l:Byt}(h:PgB w g l)(hi:i<l.length):w.cell? ⟨g,i,none⟩=some (.int .u8 (chZ l i)):=by
 rw[qj h,List.getElem?_toArray];exact zf hi
theorem jC (l:Byt) (a i:Nat):chZ (l.drop a) i=chZ l (a+i):=by
 unfold chZ;rw[List.getD_eq_getElem?_getD,List.getD_eq_getElem?_getD,List.getElem?_drop]
theorem xM (l:Byt)(h:i<n):chZ (l.take n) i=chZ l i:=by
 unfold chZ;rw[List.getD_eq_getElem?_getD,List.getD_eq_getElem?_getD,List.getElem?_take,if_pos h]
theorem PgB.part{off:Nat}{l:Byt}(h:PgB w g l) (hn:off+n<=l.length) (hc:n<=c) (hm:c<=maxLen):ByV w (.slice (some ⟨g,off,none⟩) n c) ((l.drop off).take n):=by
 have hl:((l.drop off).take n).length=n:=by rw[List.length_take,List.length_drop];omega
 refine⟨_,c,by rw[hl],by omega,hm,fun _=>⟨g,off,rfl,fun i hi=>?_⟩⟩;rw[hl] at hi;rw[h.cell (by omega),xM _ hi,jC]
theorem PgB.all{l:Byt}(h:PgB w g l) (hc:l.length<=c) (hm:c<=maxLen):ByV w (.slice (some ⟨g,0,none⟩) l.length c) l:=by
 have:=h.part (off:=0) (n:=l.length) (by omega) hc hm
 rwa [List.drop_zero,List.take_length] at this
theorem ZL (n:Nat):byC (zrs n)=List.replicate n (.int .u8 0):=by
 refine List.ext_getElem? fun i=>?_
 by_cases h:i<n
 ·rw[zf (by rw[zk];exact h),List.getElem?_replicate,if_pos h];unfold chZ zrs;rw[List.getD_eq_getElem?_getD,List.getElem?_replicate,if_pos h]
  rfl
 ·rw[List.getElem?_eq_none (by rw[qx,zk];omega),List.getElem?_replicate,if_neg h]
theorem kC{ops:Array Oper}{rest:List Oper}{o:Oper}{a:Act}{Q:Exit->Act->World->Prop}(hg:o.guard=none) (l c:Operand) (hop:o.op=Op.makeSlice 27 l c)
  (kl kc:IntKind) (L C:Int) (n:Nat) (hl:a.eval l=.int kl L) (hc:a.eval c=.int kc C) (hL:L=(n:Int)) (hC:C=(n:Int)) (hn:n<1000000)
  (hK:∀w',PgB w' w.heap.size (zrs n)->Ext w w'->wpList Tryz.prog ops Q rest (a.put o.dst (.slice (some ⟨w.heap.size,0,none⟩) n n)) w'):wpList Tryz.prog ops Q (o :: rest) a w:=by
 refine KW kL rfl hg l c 27 Tryz.underlying27 hop kl kc L C n hl hc hL hC hn (fun w' cs h1 h2 h3 h4=>hK w' ?_ h4);unfold PgB;rw[h1,ZL]
 congr 2
 refine Array.ext (by simp[h2]) (fun i h5 h6=>?_);have:=h3 i (by omega);rw[Array.getElem?_eq_getElem h5] at this;rw[Option.some.inj this]
 simp
def xX (l:Byt) (off:Nat) (s:Byt):Byt:=l.take off++(s++l.drop (off+s.length))
theorem yz {l s:Byt}{off:Nat}(h:off+s.length<=l.length):(xX l off s).length=l.length:=by
 unfold xX
 simp
 omega
theorem YH (l:Byt) (n:Nat):(byC l).take n=byC (l.take n):=by
 refine List.ext_getElem? fun i=>?_
 rw[List.getElem?_take]
 by_cases h:i<n
 ·rw[if_pos h]
  by_cases h2:i<l.length
  ·rw[zf h2,zf (by rw[List.length_take];omega),xM _ h]
  ·rw[List.getElem?_eq_none (by rw[qx];omega),List.getElem?_eq_none (by rw[qx,List.length_take];omega)]
 ·rw[if_neg h,List.getElem?_eq_none (by rw[qx,List.length_take];omega)]
theorem YJ (l:Byt) (n:Nat):(byC l).drop n=byC (l.drop n):=by
 refine List.ext_getElem? fun i=>?_
 rw[List.getElem?_drop]
 by_cases h2:n+i<l.length
 ·rw[zf h2,zf (by rw[List.length_drop];omega),jC]
 ·rw[List.getElem?_eq_none (by rw[qx];omega),List.getElem?_eq_none (by rw[qx,List.length_drop];omega)]
theorem VZ (l:Byt) (off:Nat) (s:Byt):(byC l).take off++(byC s++(byC l).drop (off+s.length))=byC (xX l off s):=by
 unfold xX;rw[zN,zN,YH,YJ]
theorem Kv (l:Byt) (off:Nat):xX l off []=l:=by
 unfold xX
 simp
theorem kD{ops:Array Oper}{rest:List Oper}{o:Oper}{a:Act}{Q:Exit->Act->World->Prop}(hgd:o.guard=none) (d s:Operand) (ho:o.op=.call { callee:=.builtin .copy,args:=#[d,s],argTypes:=#[27,27] })
  {off dLen dCap:Nat}{l src:Byt}{u:Value}(hd:a.eval d=.slice (some ⟨g,off,none⟩) dLen dCap) (hs:a.eval s=u) (hP:PgB w g l) (hu:ByV w u src) (hfit:off+dLen<=l.length)
  (hK:∀w',PgB w' g (xX l off (src.take dLen))->Chg g (g+1) w w'->wpList Tryz.prog ops Q rest (a.put o.dst (.int .i64 (Nat.min src.length dLen:Nat))) w'):wpList Tryz.prog ops Q (o :: rest) a w:=by
 obtain⟨A,c,rfl,-,-,hx⟩:=hu
 have hsz:(Tryz.prog.info? 5).map (·.size)=some 1:=by
  obtain⟨i0,hi0,-,hi2,-⟩:=info_parts kL.inf;rw[hi0];exact congrArg some hi2
 by_cases h0:Nat.min src.length dLen=0
 ·refine wpList_copy_nothing hgd d s _ _ ho 5 Tryz.underlying27 hsz _ _ dLen dCap src.length c hd hs h0 ?_
  have:=hK w (by
   have e:src.take dLen=[]:=by
    refine List.eq_nil_of_length_eq_zero ?_;rw[List.length_take,Nat.min_comm];exact h0
   rw[e,Kv]
   exact hP) (Chg.refl _ _ _)
  rw[h0] at this;exact this
 ·have hp:0<src.length:=by
   rcases Nat.eq_zero_or_pos src.length with h|h
   ·rw[h] at h0;simp at h0
   ·exact h
  obtain⟨b,o2,rfl,hcell⟩:=hx hp;have hlen:(src.take dLen).length=Nat.min src.length dLen:=by rw[List.length_take,Nat.min_comm]
  refine wpList_copy_own hgd d s _ _ ho 5 Tryz.underlying27 hsz g off dLen dCap _ src.length c hd hs _ _ hP (byC (src.take dLen)) (by rw[qx,hlen]) (fun j v hj=>?_) ?_ (xG _) ?_
  ·have hjl:j<(src.take dLen).length:=by
    have:=(List.getElem?_eq_some_iff.1 hj).1
    rwa [qx] at this
   rw[zf hjl,xM _ (by rw[List.length_take] at hjl;omega)] at hj;rw[<-hj,qU];exact hcell j (by rw[List.length_take] at hjl;omega)
  ·rw[qx,hlen,List.size_toArray,qx];have:Nat.min src.length dLen<=dLen:=Nat.min_le_right src.length dLen;omega
  ·have hrow:(w.setRow g ((byC l).toArray.toList.take off++(byC (src.take dLen)++(byC l).toArray.toList.drop (off+(byC (src.take dLen)).length))).toArray).heap[g]?=some (.cells (byC (xX l off (src.take dLen))).toArray 5 (0,0)):=by
    rw[<-VZ,qx];exact setRow_heap w g _ _ _ _ hP
   have hC:Chg g (g+1) w (w.setRow g ((byC l).toArray.toList.take off++(byC (src.take dLen)++(byC l).toArray.toList.drop (off+(byC (src.take dLen)).length))).toArray):=by
    refine⟨rfl,rfl,rfl,by simp[World.setRow],fun k hk hc=>setRow_other w g k _ ?_⟩;rintro rfl
    rcases hc with hc|hc|⟨cs,fr,hc⟩
    ·omega
    ·omega
    ·exact NoU.mk hP (by decide) cs fr hc
   have:=hK _ hrow hC;rw[show Nat.min src.length dLen=(byC (src.take dLen)).length from by rw[qx,hlen]] at this;exact this
theorem PgB.lit{cs:Array Value}(h:w.heap[g]?=some (.cells cs 5 (0,0))) (l:Byt) (hl:cs.toList=byC l):PgB w g l:=by
 unfold PgB;rw[h,<-hl]
theorem PgB.grow{l:Byt}(h:PgB w g l) (hb:base<=g) (hm:l.length<=maxLen):GrB base w (.slice (some ⟨g,0,none⟩) l.length l.length) l:=by
 refine⟨by have:=h.lt;omega,by rw[qx,Nat.mul_one],.inr ⟨g,l.length,(byC l).toArray,by rw[qx],hb,h,by rw[qx];omega,hm,by rw[List.size_toArray,qx];omega,by
  rw[Nat.mul_one,qx];have:(byC l).toArray.toList=byC l:=rfl
  rw[this,List.take_of_length_le (by rw[qx];omega)]⟩⟩
def ByU (w:World) (v:Value) (l:Byt):Prop:=ByV w v l/\∀g,v.ownBlock=some g->∃cs fr,w.heap[g]?=some (.cells cs 5 fr)
theorem ByU.ext{l:Byt}(h:ByU w v l) (e:Ext w w'):ByU w' v l:=⟨h.1.ext e,fun g hg=>by
 obtain⟨cs,fr,h1⟩:=h.2 g hg
 exact⟨cs,fr,e.block h1⟩⟩
theorem yl{ops:Array Oper}{rest:List Oper}{o:Oper}{a:Act}{Q:Exit->Act->World->Prop}(hgd:o.guard=none) (p x:Operand) (ho:o.op=.call { callee:=.builtin .append,args:=#[p,x],argTypes:=#[27,3] })
{l:Byt}(hp:a.eval p=.slice (some ⟨g,0,none⟩) l.length l.length) (hx:a.eval x=.int .i64 (k:Int)) (hP:PgB w g l) (h0:0<k) (hn:l.length+k<=1000000)
  (hK:∀v' w',ByU w' v' (l++zrs k)->Ext w w'->wpList Tryz.prog ops Q rest (a.put o.dst v') w'):wpList Tryz.prog ops Q (o :: rest) a w:=by
 refine wpList_plain hgd fun K hK'=>?_
 obtain⟨i0,hi0,hi1,hi2,hi3⟩:=info_parts kL.inf;have hsz:i0.size=1:=hi2
 have hold:(Builtin.firstCells i0.size l.length (.slice (some ⟨g,0,none⟩) l.length l.length)).run Tryz.prog w.drew=.ok (byC l).toArray w.drew:=by
  refine run_firstCells_some w.drew i0.size l.length ⟨g,0,none⟩ l.length l.length (byC l) (by rw[hsz,qx,Nat.mul_one]) (fun j x hj=>?_);rw[qU,Nat.zero_add];exact (qj hP j).trans (by rw[List.getElem?_toArray];exact hj)
 have hrun:=Lib.run_append_grow_zeros (P:=Tryz.prog) w 27 3 o.type 5 i0 _ .i64 .i64 Tryz.underlying27 Tryz.underlying3 hi0 hi1 (some ⟨g,0,none⟩) l.length l.length (byC l) hold k h0 (by omega) (by omega) (by omega) (by rw[hi3];omega) (growslice_fits (by omega) (by rw[hi3];omega));have hge:=grownCap_ge w (l.length+k) l.length 5;have hcm:=grownCap_le_maxLen w (l.length+k) l.length 5 (by unfold maxLen;omega)
 generalize grownCap w (l.length+k) l.length 5=cap at hrun hge hcm
 obtain⟨row,hrow⟩:=qc ((byC l).toArray++Builtin.zeroCells (Value.int .u8 0).cells k++Builtin.zeroCells (Value.int .u8 0).cells (cap-(l.length+k)));rw[<-hrow.out] at hrun
 have hzc:∀n,Builtin.zeroCells (Value.int .u8 0).cells n=(byC (zrs n)).toArray:=fun n=>by
  rw[ZL];refine Array.ext (by rw[size_zeroCells,kL.cells];simp) (fun i h5 h6=>?_);simp[Builtin.zeroCells,Value.cells,Nat.mod_one]
 have hrg:∀i,i<l.length+k->row[i]?=some (.int .u8 (chZ (l++zrs k) i)):=fun i hi=>by
  rw[hrow.out,hzc,hzc,Array.getElem?_append_left (by simp[qx,zk];omega),List.append_toArray,<-zN,List.getElem?_toArray];exact zf (by rw[List.length_append,zk];exact hi)
 have hb:(w.drew.alloc (.cells row 5)).heap[w.heap.size]?=some (.cells row 5 (0,0)):=heap_alloc_new w.drew _;unfold Oper.wp execOp;simp only[ho,resolve,invoke,builtin,Sem.run_bind,Sem.run_pure,Result.andThen_ok,List.map_toArray,List.map_cons,List.map_nil,hp,hx,hrun];refine hK' _ _ (hK _ _ ⟨⟨_,cap,by rw[List.length_append,zk],by rw[List.length_append,zk];exact hge,hcm,fun _=>⟨w.heap.size,0,rfl,fun i hi=>?_⟩⟩,fun q hq=>?_⟩ ((Ext.refl w).drew.alloc _))
 ·rw[List.length_append,zk] at hi;rw[Nat.zero_add];exact (qj hb i).trans (hrg i hi)
 ·obtain rfl:w.heap.size=q:=by simpa[Value.ownBlock] using hq
  exact⟨_,_,hb⟩
end
end Go.Proofs.YtdeeekdbhhenpaaGreatDoor
