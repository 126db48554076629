import Derived.Test.YtccepmpebioeiaaGreatWb43
set_option linter.all false
set_option maxHeartbeats 8000000
namespace Go.Proofs.YtccepmpebioeiaaGreat
open Go.RowKit
def RetW4 (N:Nat) (w:World) (m n:Nat) (X:Nat→Nat→Rat) (y p:Nat→Rat) (e:Ending) (w':World):Prop :=
 ∃ A1 c1 A2 c2 A3 c3,e=.returned (.agg #[.slice A1 m c1,.slice A2 m c2,.slice A3 m c3])∧MtV N 0 w'.heap.size w' (.slice A1 m c1) m n X∧LsV N 0 w'.heap.size w' (.slice A2 m c2) m y∧LsV N 0 w'.heap.size w' (.slice A3 m c3) m p∧Ext w w'
def cntw (i k:Nat):Nat:=if k≤i then k else k - 1
theorem skip_cnt {i k:Nat} (h:k≠i):skip i (cntw i k)=k:=by
 unfold skip cntw
 by_cases h1:k≤i
 ·rw [if_pos h1,if_pos (by omega)]
 ·rw [if_neg h1,if_neg (by omega)]; omega
theorem cnt_next {i k:Nat} (h:k≠i):cntw i (k+1)=cntw i k+1:=by
 unfold cntw
 by_cases h1:k≤i
 ·rw [if_pos h1,if_pos (by omega)]
 ·rw [if_neg h1,if_neg (by omega)]; omega
theorem cnt_same (i:Nat):cntw i (i+1)=cntw i i:=by
 unfold cntw; rw [if_neg (by omega),if_pos (by omega)]; omega
theorem cnt_le (i k:Nat):cntw i k≤k:=by unfold cntw; split <;> omega
def MtX (N a b lo hi:Nat) (w:World) (v:Value) (m n:Nat) (X:Nat→Nat→Rat):Prop:=N≤w.heap.size∧b≤w.heap.size∧hi≤w.heap.size∧∃ (A:Option Addr) (c:Nat),v=.slice A m c∧m≤c∧c≤maxLen ∧
  (0 < m→∃ g off,A=some ⟨g,off,none⟩∧a≤g∧g < b∧∀ i,i < m→∃ u,w.cell? ⟨g,off+i,none⟩=some u∧LsV N lo hi w u n (X i))
section
variable {N a b lo hi:Nat} {w w':World} {v:Value} {m n:Nat} {X:Nat→Nat→Rat}
theorem MtX.of (h:MtV N lo hi w v m n X):MtX N lo hi lo hi w v m n X:=by
 obtain⟨h1,h2,A,c,h3,h4,h5,h6⟩:=h;exact⟨h1,h2,h2,A,c,h3,h4,h5,h6⟩
theorem MtX.ext (h:MtX N a b lo hi w v m n X) (e:Ext w w'):MtX N a b lo hi w' v m n X:=by
 obtain⟨h1,h2,h0,A,c,h3,h4,h5,h6⟩:=h;have:=e.size;refine⟨by omega,by omega,by omega,A,c,h3,h4,h5,fun hm=>?_⟩;obtain⟨g,off,k1,k2,k3,k4⟩:=h6 hm
 exact⟨g,off,k1,k2,k3,fun i hi=>by
  obtain⟨u,q1,q2⟩:=k4 i hi
  exact⟨u,e.cell q1,q2.ext e⟩⟩
theorem MtX.chg (h:MtX N a b lo hi w v m n X) {l k:Nat} (c:Chg l k w w') (hN:N≤l) (h1:b≤l∨k≤a) (h2:hi≤l∨k≤lo):MtX N a b lo hi w' v m n X:=by
 obtain⟨p1,p2,p0,A,c9,p3,p4,p5,p6⟩:=h;have:=c.size;refine⟨by omega,by omega,by omega,A,c9,p3,p4,p5,fun hm=>?_⟩;obtain⟨g,off,k1,k2,k3,k4⟩:=p6 hm
 exact⟨g,off,k1,k2,k3,fun i hi=>by
  obtain⟨u,q1,q2⟩:=k4 i hi
  exact⟨u,c.cell q1 (by show g < l∨k≤g; omega),LsR.chg q2 c hN h2⟩⟩
theorem MtX.wide (h:MtX N a b lo hi w v m n X) {a' b':Nat} (h1:a'≤a) (h2:b≤b') (h3:b'≤w.heap.size):MtX N a' b' lo hi w v m n X:=by
 obtain⟨p1,p2,p0,A,c9,p3,p4,p5,p6⟩:=h;refine⟨p1,h3,p0,A,c9,p3,p4,p5,fun hm=>?_⟩;obtain⟨g,off,k1,k2,k3,k4⟩:=p6 hm;exact⟨g,off,k1,by omega,by omega,k4⟩
theorem MtX.all (h:MtX N a b lo hi w v m n X):MtV N 0 w.heap.size w v m n X:=by
 obtain⟨p1,p2,p0,A,c9,p3,p4,p5,p6⟩:=h;refine⟨p1,Nat.le_refl _,A,c9,p3,p4,p5,fun hm=>?_⟩;obtain⟨g,off,k1,k2,k3,k4⟩:=p6 hm
 exact⟨g,off,k1,Nat.zero_le _,by omega,fun i hi=>by
  obtain⟨u,q1,q2⟩:=k4 i hi
  exact⟨u,q1,LsV.all q2⟩⟩
theorem MtX.form (h:MtX N a b lo hi w v m n X):∃ (A:Option Addr) (c:Nat),v=.slice A m c∧m≤c∧c≤maxLen:=MtR.form h.all
theorem MtX.addr {A:Option Addr} {c:Nat} (h:MtX N a b lo hi w (.slice A m c) m n X) (hm:0 < m):∃ g off,A=some ⟨g,off,none⟩∧a≤g∧g < b∧∀ i,i < m→∃ (A':Option Addr) (c':Nat),w.cell? ⟨g,off+i,none⟩=some (.slice A' n c')∧n≤c'∧c'≤maxLen∧LsV N lo hi w (.slice A' n c') n (X i):=by
 obtain⟨p1,p2,p0,A9,c9,p3,p4,p5,p6⟩:=h;injection p3 with e1 _ e3
 subst e1 e3;obtain⟨g,off,k1,k2,k3,k4⟩:=p6 hm
 exact⟨g,off,k1,k2,k3,fun i hi=>by
  obtain⟨u,q1,q2⟩:=k4 i hi;obtain⟨A',c',rfl,q3,q4⟩:=LsR.form q2
  exact⟨A',c',q1,q3,q4,q2⟩⟩
end
def RetW4X (N lo hi:Nat) (w:World) (m n:Nat) (X:Nat→Nat→Rat) (y p:Nat→Rat) (e:Ending) (w':World):Prop :=
 ∃ A1 c1 A2 c2 A3 c3,e=.returned (.agg #[.slice A1 m c1,.slice A2 m c2,.slice A3 m c3])∧MtX N w.heap.size w'.heap.size lo hi w' (.slice A1 m c1) m n X∧LsV N w.heap.size w'.heap.size w' (.slice A2 m c2) m y∧LsV N w.heap.size w'.heap.size w' (.slice A3 m c3) m p∧Ext w w'
set_option maxRecDepth 100000 in
theorem l34_withoutX {N a0 b0 lo hi lo2 hi2 lo3 hi3:Nat} {w:World} {v1 v2 v3:Value} {m n:Nat} {X:Nat→Nat→Rat} {y p:Nat→Rat} (h1:MtX N a0 b0 lo hi w v1 m n X) (h2:LsV N lo2 hi2 w v2 m y) (h3:LsV N lo3 hi3 w v3 m p) (hm1:1 < m) (hm:m≤64) (hn0:0 < n) (hn:n≤64) {i:Nat} {iz:Int} (hiz:iz=(i:Int)) (hi':i < m) :
  Calls Tryz.prog 42 #[.agg #[v1,v2,v3],.int .i64 iz] w (RetW4X N lo hi w (m - 1) n (fun j=>X (skip i j)) (fun j=>y (skip i j)) (fun j=>p (skip i j))):=by
 subst hiz;obtain⟨Rf,hRf⟩:=hid_eq (RetW4X N lo hi w (m - 1) n (fun j=>X (skip i j)) (fun j=>y (skip i j)) (fun j=>p (skip i j)));rw [←hRf.out];obtain⟨Y,hY⟩:=hid_eq (fun j=>y (skip i j));obtain⟨PP,hPP⟩:=hid_eq (fun j=>p (skip i j));have hN:=h1.1;have hhi:=h1.2.2.1;have hhb:=h1.2.1;have hh2:hi2≤w.heap.size:=h2.2.1;have hh3:hi3≤w.heap.size:=h3.2.1;obtain⟨A1,c1,rfl,hmc,hcm⟩:=h1.form;obtain⟨A2,c2,rfl,hmc2,hcm2⟩:=h2.form;obtain⟨A3,c3,rfl,hmc3,hcm3⟩:=h3.form;obtain⟨b1,off1,rfl,-,hb1,-⟩:=h1.addr (by omega);obtain⟨b2,off2,rfl,-,hb2,-⟩:=h2.addr (by omega);obtain⟨b3,off3,rfl,-,hb3,-⟩:=h3.addr (by omega);have hI1:=h1;have hI2:=h2;have hI3:=h3;clear h1 h2 h3;go_enter Tryz.func42,Tryz.ntmps42;go_upto_region 1 with (fail);refine boxes2 ?_;intro W hE hsz B0 B4;go_upto_region 2 with (fail);refine boxes1 ?_;intro w2 e2 hsz2 BT;replace B0:=e2.block B0;replace B4:=e2.block B4;have hE2:=hE.trans e2;have hsW:=hE.size;obtain⟨gt,hgt⟩:∃ gt,gt=W.heap.size:=⟨_,rfl⟩
 rw [←hgt] at BT hsz2 ⊢;have hgw:w.heap.size+1 < gt:=by omega
 obtain⟨base,hbase⟩:∃ base,base=w2.heap.size:=⟨_,rfl⟩
 have hbl:base≤w2.heap.size:=by omega
 have hgb:gt < base:=by omega
 have hNb:N≤base:=by omega
 obtain⟨a0,a1,a2,-⟩:=cells3 B0;clear e2 hgt hbase;go_wp2;clear a0 a1 a2
 go_loopw [10,6] (fun ix _ wr=>∃ a:Nat,a≤m∧ix=.int .i64 a∧Ext w wr∧∃ vA vL vP xs,wr.heap[gt]?=some (.cells #[vA,vL,vP] 26 (0,0))∧xs.length=cntw i a∧St N base wr vA xs vL (cntw i a) Y vP (cntw i a) PP []∧Hid (∀ j (hj:j < xs.length),LsV N lo hi w xs[j] n (X (skip i j))) ∧
  wr.heap[w.heap.size]?=some (.cells #[.slice (some ⟨b1,off1,none⟩) m c1,.slice (some ⟨b2,off2,none⟩) m c2,.slice (some ⟨b3,off3,none⟩) m c3] 26 (0,0))∧wr.heap[w.heap.size+1]?=some (.cells #[.slice none 0 0,.slice none 0 0,.slice none 0 0] 26 (0,0))) (fun ix _ _=>m - (intOf ix).toNat)
 case atStart =>
  exact⟨0,Nat.zero_le _,rfl,hE2,_,_,_,[],BT,by unfold cntw; simp,⟨GrowS.nil0 hbl,Grow.nil hNb hbl _,Grow.nil hNb hbl _,fun k hk=>by simp [Value.ownBlock] at hk,fun k hk=>by simp [Value.ownBlock] at hk,fun k hk=>by simp [Value.ownBlock] at hk,fun k hk=>absurd hk (by simp),fun k hk=>absurd hk (by simp),fun k hk=>absurd hk (by simp),fun k hk=>absurd hk (by simp)⟩,fun j hj=>absurd hj (by simp),B0,B4⟩
 case round =>
  clear hE2 BT B0 B4;obtain⟨a,ha,rfl,hEr,vA,vL,vP,xs,BT,hxs,hS,HR,B0,B4⟩:=hrel
  by_cases hlt:a < m
  ·by_cases hai:a=i
   ·subst hai;obtain⟨a0,a1,a2,-⟩:=cells3 B0;go_wp2;go_roundw
    case rel=>exact⟨a+1,by omega,by go_num,hEr,vA,vL,vP,xs,BT,by rw [cnt_same]; exact hxs,by rw [cnt_same]; exact hS,HR,B0,B4⟩
    case measure=>simp [intOf]; omega
   ·have t1:((a:Int) != (i:Int))=true:=by rw [bne_iff_ne]; omega
    obtain⟨b1',off1',hA,-,-,hx1⟩:=hI1.addr (by omega);obtain⟨rfl,rfl⟩:b1=b1'∧off1=off1':=by injection hA with hA; injection hA with e1 e2; exact⟨e1,e2⟩
    obtain⟨A4,c4,r0,-,-,hrow⟩:=hx1 a hlt;obtain⟨b2',off2',hA2,-,-,hx2⟩:=hI2.addr (by omega);obtain⟨rfl,rfl⟩:b2=b2'∧off2=off2':=by injection hA2 with hA2; injection hA2 with e1 e2; exact⟨e1,e2⟩
    obtain⟨n2,A5,k5,c5,A6,k6,c6,q0,q1,q2,q3,hq,g1,g2⟩:=(hx2 a hlt).open;obtain⟨b3',off3',hA3,-,-,hx3⟩:=hI3.addr (by omega);obtain⟨rfl,rfl⟩:b3=b3'∧off3=off3':=by injection hA3 with hA3; injection hA3 with e1 e2; exact⟨e1,e2⟩
    obtain⟨n3,A7,k7',c7,A8,k8,c8,s0,s1,s2,s3,hs',g3,g4⟩:=(hx3 a hlt).open;have hcl:=cnt_le i a;have hYa:Y (cntw i a)=y a:=by rw [hY.out]; show y (skip i (cntw i a))=y a; rw [skip_cnt hai]
    have hPa:PP (cntw i a)=p a:=by rw [hPP.out]; show p (skip i (cntw i a))=p a; rw [skip_cnt hai]
    have HYA:=Lib.hid hYa;have HPA:=Lib.hid hPa;have hbs:w.heap.size≤base:=by omega
    obtain⟨t0,t1',t2,-⟩:=cells3 BT;obtain⟨f0,f1,f2,-⟩:=cells3 B0;obtain⟨vL1,hvL⟩:∃ x,x=vL:=⟨_,rfl⟩
    have E0:BC base wr ⟨gt,0,none⟩ vA:=⟨hgb,t0⟩
    have E1:BC base wr ⟨gt,1,none⟩ vL:=⟨hgb,t1'⟩
    have E2:BC base wr ⟨gt,2,none⟩ vP:=⟨hgb,t2⟩
    have F0:BC base wr ⟨w.heap.size,0,none⟩ (.slice (some ⟨b1,off1,none⟩) m c1):=⟨by show w.heap.size < base; omega,f0⟩
    have F1:BC base wr ⟨w.heap.size,1,none⟩ (.slice (some ⟨b2,off2,none⟩) m c2):=⟨by show w.heap.size < base; omega,f1⟩
    have F2:BC base wr ⟨w.heap.size,2,none⟩ (.slice (some ⟨b3,off3,none⟩) m c3):=⟨by show w.heap.size < base; omega,f2⟩
    have R0:BC base wr ⟨b1,off1+a,none⟩ (.slice A4 n c4):=⟨by show b1 < base; omega,hEr.cell r0⟩
    have Q0:BC base wr ⟨b2,off2+a*4,none⟩ (.bool n2):=⟨by show b2 < base; omega,hEr.cell q0⟩
    have Q1:BC base wr ⟨b2,off2+a*4+1,none⟩ (.slice A5 k5 c5):=⟨by show b2 < base; omega,hEr.cell q1⟩
    have Q2:BC base wr ⟨b2,off2+a*4+2,none⟩ (.bool false):=⟨by show b2 < base; omega,hEr.cell q2⟩
    have Q3:BC base wr ⟨b2,off2+a*4+3,none⟩ (.slice A6 k6 c6):=⟨by show b2 < base; omega,hEr.cell q3⟩
    have S0:BC base wr ⟨b3,off3+a*4,none⟩ (.bool n3):=⟨by show b3 < base; omega,hEr.cell s0⟩
    have S1:BC base wr ⟨b3,off3+a*4+1,none⟩ (.slice A7 k7' c7):=⟨by show b3 < base; omega,hEr.cell s1⟩
    have S2:BC base wr ⟨b3,off3+a*4+2,none⟩ (.bool false):=⟨by show b3 < base; omega,hEr.cell s2⟩
    have S3:BC base wr ⟨b3,off3+a*4+3,none⟩ (.slice A8 k8 c8):=⟨by show b3 < base; omega,hEr.cell s3⟩
    have hxl:xs.length < 100000:=by omega
    have hcl2:cntw i a < 1000000000:=by omega
    have eX:=hEr;clear hx1 hx2 hx3 hA hA2 hA3 t0 t1' t2 f0 f1 f2 r0 q0 q1 q2 q3 s0 s1 s2 s3 hYa hPa hvL;go_upto_region 6 with (fail)
    have HR2:Hid (∀ j (hj:j < (xs ++ [Value.slice A4 n c4]).length),LsV N lo hi w (xs ++ [Value.slice A4 n c4])[j] n (X (skip i j))):=fun j hj=>by
     by_cases hj2:j < xs.length
     ·rw [List.getElem_append_left hj2]; exact HR.out j hj2
     ·obtain rfl:xs.length=j:=by simp at hj; omega
      rw [List.getElem_append_right (Nat.le_refl _)];simp only [Nat.sub_self,List.getElem_cons_zero];rw [hxs,skip_cnt hai];exact hrow
    have HXL:Hid ((xs ++ [Value.slice A4 n c4]).length=cntw i (a+1)):=by rw [Hid,cnt_next hai,List.length_append,hxs]; rfl
    have HCN:Hid (cntw i (a+1)=cntw i a+1):=cnt_next hai;clear hrow HR hxs;have HS:SX N base gt w.heap.size 26 w wr wr vA vL vP (.cells #[.slice (some ⟨b1,off1,none⟩) m c1,.slice (some ⟨b2,off2,none⟩) m c2,.slice (some ⟨b3,off3,none⟩) m c3] 26 (0,0)) (.cells #[.slice none 0 0,.slice none 0 0,.slice none 0 0] 26 (0,0)) vA xs vL (cntw i a) Y vP (cntw i a) PP []:=⟨hS,Bk.of (Ext.refl wr),hEr,BT,B0,B4,fun p hp=>absurd hp (by simp)⟩
    clear hS BT B0 B4 eX;have HUY:Hid (∀ j,j < cntw i a+1→upd Y (cntw i a) (y a) j=Y j):=fun j _=>by unfold upd; split; (rename_i e; rw [e]; exact HYA.out.symm); rfl
    have HUP:Hid (∀ j,j < cntw i a+1→upd PP (cntw i a) (p a) j=PP j):=fun j _=>by unfold upd; split; (rename_i e; rw [e]; exact HPA.out.symm); rfl
    have hNg:N≤gt:=by omega
    have hwg:w.heap.size≤gt:=by omega
    have eC:=Bk.of (β:=base) (Ext.refl wr).drew;refine region_late (Bk base wr) [28,30,32] (by kernel_rfl) (by exact eC) (fun hHeld=>?_);refine sP 0 (h:=?_);try simp only [nr]
    refine sT 1 (hy:=by (intro w9 hSw; have c9:=Bk.cell hSw E0; go_simp; (try (rw [if_pos (by omega)])); (try with_reducible rfl))) (h:=?_);try simp only [nr]
    refine sP 2 (h:=?_);try simp only [nr]
    refine sT 3 (hy:=by (intro w9 hSw; have c9:=Bk.cell hSw F0; go_simp; (try (rw [if_pos (by omega)])); (try with_reducible rfl))) (h:=?_);try simp only [nr]
    refine sP 4 (h:=?_);try simp only [nr]
    refine sP 5 (h:=?_);try simp only [nr]
    refine sT 6 (hy:=by (intro w9 hSw; have c9:=Bk.cell hSw R0; go_simp; (try (rw [if_pos (by omega)])); (try with_reducible rfl))) (h:=?_);try simp only [nr]
    refine sP 9 (h:=?_);try simp only [nr]
    refine sT 10 (hy:=by (intro w9 hSw; have c9:=Bk.cell hSw E1; go_simp; (try (rw [if_pos (by omega)])); (try with_reducible rfl))) (h:=?_);try simp only [nr]
    refine sP 11 (h:=?_);try simp only [nr]
    refine sT 12 (hy:=by (intro w9 hSw; have c9:=Bk.cell hSw F1; go_simp; (try (rw [if_pos (by omega)])); (try with_reducible rfl))) (h:=?_);try simp only [nr]
    refine sP 13 (h:=?_);try simp only [nr]
    refine sP 14 (h:=?_);try simp only [nr]
    refine sT 15 (hy:=by (intro w9 hSw; have c9:=Bk.cell hSw Q0; have d1:=Bk.cell hSw Q1; have d2:=Bk.cell hSw Q2; have d3:=Bk.cell hSw Q3; go_simp; (try (rw [if_pos (by omega)])); (try with_reducible rfl))) (h:=?_);try simp only [nr]
    refine sP 18 (h:=?_);try simp only [nr]
    refine sT 19 (hy:=by (intro w9 hSw; have c9:=Bk.cell hSw E2; go_simp; (try (rw [if_pos (by omega)])); (try with_reducible rfl))) (h:=?_);try simp only [nr]
    refine sP 20 (h:=?_);try simp only [nr]
    refine sT 21 (hy:=by (intro w9 hSw; have c9:=Bk.cell hSw F2; go_simp; (try (rw [if_pos (by omega)])); (try with_reducible rfl))) (h:=?_);try simp only [nr]
    refine sP 22 (h:=?_);try simp only [nr]
    refine sP 23 (h:=?_);try simp only [nr]
    refine sT 24 (hy:=by (intro w9 hSw; have c9:=Bk.cell hSw S0; have d1:=Bk.cell hSw S1; have d2:=Bk.cell hSw S2; have d3:=Bk.cell hSw S3; go_simp; (try (rw [if_pos (by omega)])); (try with_reducible rfl))) (h:=?_);try simp only [nr]
    refine stepL_three (i:=7) (j:=16) (k:=25) rfl rfl rfl (by kernel_rfl) (fun K hK=>?_) (fun K hK=>?_) (fun K hK=>?_)
    focus
     go_simp
     first | refine boxes1 ?_ | refine boxesD1 ?_
     intro x e z C;obtain⟨j7,hj,HT⟩:=HS.new e z C;rw [←hj];clear HS hj C;have HS:=HT;replace eC:=HS.bk;clear HT e z;clear hHeld;refine hK.out _ _ (by exact eC) fun hHeld=>?_
     clear hK K;try simp only [nr]
     refine stepL_three (i:=8) (j:=16) (k:=25) rfl rfl rfl (by kernel_rfl) (fun K hK=>?_) (fun K hK=>?_) (fun K hK=>?_)
     focus
      refine step_append_row_at rfl _ _ 23 Tryz.underlying23 rfl (by rfl) HS.st.A (by rfl) (HS.tb (j7,.cells #[.slice A4 n c4] 24 (0,0)) (by simp)) rfl hxl ?_;rintro gA cA y p G hb C o1 o2;have HT:=HS.app hgw hgb hbs (HS.st.appA hNb G hb C o1 o2) hb C;clear HS G hb C o1 o2;have HS:=HT;replace eC:=HS.bk;clear HT;clear hHeld;refine hK.out _ _ (by exact eC) fun hHeld=>?_
      clear hK K;try simp only [nr]
      refine sP 27 (h:=?_);try simp only [nr]
      refine stepL_two (i:=16) (j:=25) rfl rfl (by kernel_rfl) (fun K hK=>?_) (fun K hK=>?_)
      focus
       go_simp
       first | refine boxes1 ?_ | refine boxesD1 ?_
       intro x e z C;obtain⟨j16,hj,HT⟩:=HS.new e z C;rw [←hj];clear HS hj C;have HS:=HT;replace eC:=HS.bk;clear HT e z;clear hHeld;refine hK.out _ _ (by exact eC) fun hHeld=>?_
       clear hK K;try simp only [nr]
       refine stepL_two (i:=17) (j:=25) rfl rfl (by kernel_rfl) (fun K hK=>?_) (fun K hK=>?_)
       focus
        refine step_append_rat_at rfl _ _ 24 Tryz.underlying24 rfl (by rfl) HS.st.L (by rfl) (HS.tb (j16,.cells #[.bool n2,.slice A5 k5 c5,.bool false,.slice A6 k6 c6] 44 (0,0)) (by simp)) hq (g1.ext HS.ex) (g2.ext HS.ex) hcl2 ?_;rintro gL cL y p G hb C o1 o2;have HT:=HS.app hgw hgb hbs (HS.st.appL hNb (G.congr (y:=Y) HUY.out) hb C o1 o2) hb C;clear HS G hb C o1 o2;have HS:=HT;replace eC:=HS.bk;clear HT;clear hHeld;refine hK.out _ _ (by exact eC) fun hHeld=>?_
        clear hK K;try simp only [nr]
        refine stepL_only (i:=25) rfl (by kernel_rfl) (fun K hK=>?_);go_simp
        first | refine boxes1 ?_ | refine boxesD1 ?_
        intro x e z C;obtain⟨j25,hj,HT⟩:=HS.new e z C;rw [←hj];clear HS hj C;have HS:=HT;replace eC:=HS.bk;clear HT e z;clear hHeld;refine hK.out _ _ (by exact eC) fun hHeld=>?_
        clear hK K;try simp only [nr]
        refine stepL_only (i:=26) rfl (by kernel_rfl) (fun K hK=>?_);refine step_append_rat_at rfl _ _ 24 Tryz.underlying24 rfl (by rfl) HS.st.P (by rfl) (HS.tb (j25,.cells #[.bool n3,.slice A7 k7' c7,.bool false,.slice A8 k8 c8] 44 (0,0)) (by simp)) hs' (g3.ext HS.ex) (g4.ext HS.ex) hcl2 ?_;rintro gP cP y p G hb C o1 o2;have HT:=HS.app hgw hgb hbs (HS.st.appP hNb (G.congr (y:=PP) HUP.out) hb C o1 o2) hb C;clear HS G hb C o1 o2;have HS:=HT;replace eC:=HS.bk;clear HT;clear hHeld;refine hK.out _ _ (by exact eC) fun hHeld=>?_
        clear hK K;try simp only [nr]
       rotate_left 1
       focus
        go_simp
        first | refine boxes1 ?_ | refine boxesD1 ?_
        intro x e z C;obtain⟨j25,hj,HT⟩:=HS.new e z C;rw [←hj];clear HS hj C;have HS:=HT;replace eC:=HS.bk;clear HT e z;clear hHeld;refine hK.out _ _ (by exact eC) fun hHeld=>?_
        clear hK K;try simp only [nr]
        refine stepL_only (i:=17) rfl (by kernel_rfl) (fun K hK=>?_);refine step_append_rat_at rfl _ _ 24 Tryz.underlying24 rfl (by rfl) HS.st.L (by rfl) (HS.tb (j16,.cells #[.bool n2,.slice A5 k5 c5,.bool false,.slice A6 k6 c6] 44 (0,0)) (by simp)) hq (g1.ext HS.ex) (g2.ext HS.ex) hcl2 ?_;rintro gL cL y p G hb C o1 o2;have HT:=HS.app hgw hgb hbs (HS.st.appL hNb (G.congr (y:=Y) HUY.out) hb C o1 o2) hb C;clear HS G hb C o1 o2;have HS:=HT;replace eC:=HS.bk;clear HT;clear hHeld;refine hK.out _ _ (by exact eC) fun hHeld=>?_
        clear hK K;try simp only [nr]
        refine stepL_only (i:=26) rfl (by kernel_rfl) (fun K hK=>?_);refine step_append_rat_at rfl _ _ 24 Tryz.underlying24 rfl (by rfl) HS.st.P (by rfl) (HS.tb (j25,.cells #[.bool n3,.slice A7 k7' c7,.bool false,.slice A8 k8 c8] 44 (0,0)) (by simp)) hs' (g3.ext HS.ex) (g4.ext HS.ex) hcl2 ?_;rintro gP cP y p G hb C o1 o2;have HT:=HS.app hgw hgb hbs (HS.st.appP hNb (G.congr (y:=PP) HUP.out) hb C o1 o2) hb C;clear HS G hb C o1 o2;have HS:=HT;replace eC:=HS.bk;clear HT;clear hHeld;refine hK.out _ _ (by exact eC) fun hHeld=>?_
        clear hK K;try simp only [nr]
       rotate_left 1
      rotate_left 2
      focus
       go_simp
       first | refine boxes1 ?_ | refine boxesD1 ?_
       intro x e z C;obtain⟨j25,hj,HT⟩:=HS.new e z C;rw [←hj];clear HS hj C;have HS:=HT;replace eC:=HS.bk;clear HT e z;clear hHeld;refine hK.out _ _ (by exact eC) fun hHeld=>?_
       clear hK K;try simp only [nr]
       refine stepL_only (i:=16) rfl (by kernel_rfl) (fun K hK=>?_);go_simp
       first | refine boxes1 ?_ | refine boxesD1 ?_
       intro x e z C;obtain⟨j16,hj,HT⟩:=HS.new e z C;rw [←hj];clear HS hj C;have HS:=HT;replace eC:=HS.bk;clear HT e z;clear hHeld;refine hK.out _ _ (by exact eC) fun hHeld=>?_
       clear hK K;try simp only [nr]
       refine stepL_only (i:=17) rfl (by kernel_rfl) (fun K hK=>?_);refine step_append_rat_at rfl _ _ 24 Tryz.underlying24 rfl (by rfl) HS.st.L (by rfl) (HS.tb (j16,.cells #[.bool n2,.slice A5 k5 c5,.bool false,.slice A6 k6 c6] 44 (0,0)) (by simp)) hq (g1.ext HS.ex) (g2.ext HS.ex) hcl2 ?_;rintro gL cL y p G hb C o1 o2;have HT:=HS.app hgw hgb hbs (HS.st.appL hNb (G.congr (y:=Y) HUY.out) hb C o1 o2) hb C;clear HS G hb C o1 o2;have HS:=HT;replace eC:=HS.bk;clear HT;clear hHeld;refine hK.out _ _ (by exact eC) fun hHeld=>?_
       clear hK K;try simp only [nr]
       refine stepL_only (i:=26) rfl (by kernel_rfl) (fun K hK=>?_);refine step_append_rat_at rfl _ _ 24 Tryz.underlying24 rfl (by rfl) HS.st.P (by rfl) (HS.tb (j25,.cells #[.bool n3,.slice A7 k7' c7,.bool false,.slice A8 k8 c8] 44 (0,0)) (by simp)) hs' (g3.ext HS.ex) (g4.ext HS.ex) hcl2 ?_;rintro gP cP y p G hb C o1 o2;have HT:=HS.app hgw hgb hbs (HS.st.appP hNb (G.congr (y:=PP) HUP.out) hb C o1 o2) hb C;clear HS G hb C o1 o2;have HS:=HT;replace eC:=HS.bk;clear HT;clear hHeld;refine hK.out _ _ (by exact eC) fun hHeld=>?_
       clear hK K;try simp only [nr]
      rotate_left 1
     rotate_left 3
     focus
      go_simp
      first | refine boxes1 ?_ | refine boxesD1 ?_
      intro x e z C;obtain⟨j16,hj,HT⟩:=HS.new e z C;rw [←hj];clear HS hj C;have HS:=HT;replace eC:=HS.bk;clear HT e z;clear hHeld;refine hK.out _ _ (by exact eC) fun hHeld=>?_
      clear hK K;try simp only [nr]
      refine stepL_two (i:=8) (j:=25) rfl rfl (by kernel_rfl) (fun K hK=>?_) (fun K hK=>?_)
      focus
       refine step_append_row_at rfl _ _ 23 Tryz.underlying23 rfl (by rfl) HS.st.A (by rfl) (HS.tb (j7,.cells #[.slice A4 n c4] 24 (0,0)) (by simp)) rfl hxl ?_;rintro gA cA y p G hb C o1 o2;have HT:=HS.app hgw hgb hbs (HS.st.appA hNb G hb C o1 o2) hb C;clear HS G hb C o1 o2;have HS:=HT;replace eC:=HS.bk;clear HT;clear hHeld;refine hK.out _ _ (by exact eC) fun hHeld=>?_
       clear hK K;try simp only [nr]
       refine sP 27 (h:=?_);try simp only [nr]
       refine stepL_two (i:=17) (j:=25) rfl rfl (by kernel_rfl) (fun K hK=>?_) (fun K hK=>?_)
       focus
        refine step_append_rat_at rfl _ _ 24 Tryz.underlying24 rfl (by rfl) HS.st.L (by rfl) (HS.tb (j16,.cells #[.bool n2,.slice A5 k5 c5,.bool false,.slice A6 k6 c6] 44 (0,0)) (by simp)) hq (g1.ext HS.ex) (g2.ext HS.ex) hcl2 ?_;rintro gL cL y p G hb C o1 o2;have HT:=HS.app hgw hgb hbs (HS.st.appL hNb (G.congr (y:=Y) HUY.out) hb C o1 o2) hb C;clear HS G hb C o1 o2;have HS:=HT;replace eC:=HS.bk;clear HT;clear hHeld;refine hK.out _ _ (by exact eC) fun hHeld=>?_
        clear hK K;try simp only [nr]
        refine stepL_only (i:=25) rfl (by kernel_rfl) (fun K hK=>?_);go_simp
        first | refine boxes1 ?_ | refine boxesD1 ?_
        intro x e z C;obtain⟨j25,hj,HT⟩:=HS.new e z C;rw [←hj];clear HS hj C;have HS:=HT;replace eC:=HS.bk;clear HT e z;clear hHeld;refine hK.out _ _ (by exact eC) fun hHeld=>?_
        clear hK K;try simp only [nr]
        refine stepL_only (i:=26) rfl (by kernel_rfl) (fun K hK=>?_);refine step_append_rat_at rfl _ _ 24 Tryz.underlying24 rfl (by rfl) HS.st.P (by rfl) (HS.tb (j25,.cells #[.bool n3,.slice A7 k7' c7,.bool false,.slice A8 k8 c8] 44 (0,0)) (by simp)) hs' (g3.ext HS.ex) (g4.ext HS.ex) hcl2 ?_;rintro gP cP y p G hb C o1 o2;have HT:=HS.app hgw hgb hbs (HS.st.appP hNb (G.congr (y:=PP) HUP.out) hb C o1 o2) hb C;clear HS G hb C o1 o2;have HS:=HT;replace eC:=HS.bk;clear HT;clear hHeld;refine hK.out _ _ (by exact eC) fun hHeld=>?_
        clear hK K;try simp only [nr]
       rotate_left 1
       focus
        go_simp
        first | refine boxes1 ?_ | refine boxesD1 ?_
        intro x e z C;obtain⟨j25,hj,HT⟩:=HS.new e z C;rw [←hj];clear HS hj C;have HS:=HT;replace eC:=HS.bk;clear HT e z;clear hHeld;refine hK.out _ _ (by exact eC) fun hHeld=>?_
        clear hK K;try simp only [nr]
        refine stepL_only (i:=17) rfl (by kernel_rfl) (fun K hK=>?_);refine step_append_rat_at rfl _ _ 24 Tryz.underlying24 rfl (by rfl) HS.st.L (by rfl) (HS.tb (j16,.cells #[.bool n2,.slice A5 k5 c5,.bool false,.slice A6 k6 c6] 44 (0,0)) (by simp)) hq (g1.ext HS.ex) (g2.ext HS.ex) hcl2 ?_;rintro gL cL y p G hb C o1 o2;have HT:=HS.app hgw hgb hbs (HS.st.appL hNb (G.congr (y:=Y) HUY.out) hb C o1 o2) hb C;clear HS G hb C o1 o2;have HS:=HT;replace eC:=HS.bk;clear HT;clear hHeld;refine hK.out _ _ (by exact eC) fun hHeld=>?_
        clear hK K;try simp only [nr]
        refine stepL_only (i:=26) rfl (by kernel_rfl) (fun K hK=>?_);refine step_append_rat_at rfl _ _ 24 Tryz.underlying24 rfl (by rfl) HS.st.P (by rfl) (HS.tb (j25,.cells #[.bool n3,.slice A7 k7' c7,.bool false,.slice A8 k8 c8] 44 (0,0)) (by simp)) hs' (g3.ext HS.ex) (g4.ext HS.ex) hcl2 ?_;rintro gP cP y p G hb C o1 o2;have HT:=HS.app hgw hgb hbs (HS.st.appP hNb (G.congr (y:=PP) HUP.out) hb C o1 o2) hb C;clear HS G hb C o1 o2;have HS:=HT;replace eC:=HS.bk;clear HT;clear hHeld;refine hK.out _ _ (by exact eC) fun hHeld=>?_
        clear hK K;try simp only [nr]
       rotate_left 1
      rotate_left 2
      focus
       go_simp
       first | refine boxes1 ?_ | refine boxesD1 ?_
       intro x e z C;obtain⟨j25,hj,HT⟩:=HS.new e z C;rw [←hj];clear HS hj C;have HS:=HT;replace eC:=HS.bk;clear HT e z;clear hHeld;refine hK.out _ _ (by exact eC) fun hHeld=>?_
       clear hK K;try simp only [nr]
       refine stepL_only (i:=8) rfl (by kernel_rfl) (fun K hK=>?_);refine step_append_row_at rfl _ _ 23 Tryz.underlying23 rfl (by rfl) HS.st.A (by rfl) (HS.tb (j7,.cells #[.slice A4 n c4] 24 (0,0)) (by simp)) rfl hxl ?_;rintro gA cA y p G hb C o1 o2;have HT:=HS.app hgw hgb hbs (HS.st.appA hNb G hb C o1 o2) hb C;clear HS G hb C o1 o2;have HS:=HT;replace eC:=HS.bk;clear HT;clear hHeld;refine hK.out _ _ (by exact eC) fun hHeld=>?_
       clear hK K;try simp only [nr]
       refine sP 27 (h:=?_);try simp only [nr]
       refine stepL_only (i:=17) rfl (by kernel_rfl) (fun K hK=>?_);refine step_append_rat_at rfl _ _ 24 Tryz.underlying24 rfl (by rfl) HS.st.L (by rfl) (HS.tb (j16,.cells #[.bool n2,.slice A5 k5 c5,.bool false,.slice A6 k6 c6] 44 (0,0)) (by simp)) hq (g1.ext HS.ex) (g2.ext HS.ex) hcl2 ?_;rintro gL cL y p G hb C o1 o2;have HT:=HS.app hgw hgb hbs (HS.st.appL hNb (G.congr (y:=Y) HUY.out) hb C o1 o2) hb C;clear HS G hb C o1 o2;have HS:=HT;replace eC:=HS.bk;clear HT;clear hHeld;refine hK.out _ _ (by exact eC) fun hHeld=>?_
       clear hK K;try simp only [nr]
       refine stepL_only (i:=26) rfl (by kernel_rfl) (fun K hK=>?_);refine step_append_rat_at rfl _ _ 24 Tryz.underlying24 rfl (by rfl) HS.st.P (by rfl) (HS.tb (j25,.cells #[.bool n3,.slice A7 k7' c7,.bool false,.slice A8 k8 c8] 44 (0,0)) (by simp)) hs' (g3.ext HS.ex) (g4.ext HS.ex) hcl2 ?_;rintro gP cP y p G hb C o1 o2;have HT:=HS.app hgw hgb hbs (HS.st.appP hNb (G.congr (y:=PP) HUP.out) hb C o1 o2) hb C;clear HS G hb C o1 o2;have HS:=HT;replace eC:=HS.bk;clear HT;clear hHeld;refine hK.out _ _ (by exact eC) fun hHeld=>?_
       clear hK K;try simp only [nr]
      rotate_left 1
     rotate_left 3
     focus
      go_simp
      first | refine boxes1 ?_ | refine boxesD1 ?_
      intro x e z C;obtain⟨j25,hj,HT⟩:=HS.new e z C;rw [←hj];clear HS hj C;have HS:=HT;replace eC:=HS.bk;clear HT e z;clear hHeld;refine hK.out _ _ (by exact eC) fun hHeld=>?_
      clear hK K;try simp only [nr]
      refine stepL_two (i:=8) (j:=16) rfl rfl (by kernel_rfl) (fun K hK=>?_) (fun K hK=>?_)
      focus
       refine step_append_row_at rfl _ _ 23 Tryz.underlying23 rfl (by rfl) HS.st.A (by rfl) (HS.tb (j7,.cells #[.slice A4 n c4] 24 (0,0)) (by simp)) rfl hxl ?_;rintro gA cA y p G hb C o1 o2;have HT:=HS.app hgw hgb hbs (HS.st.appA hNb G hb C o1 o2) hb C;clear HS G hb C o1 o2;have HS:=HT;replace eC:=HS.bk;clear HT;clear hHeld;refine hK.out _ _ (by exact eC) fun hHeld=>?_
       clear hK K;try simp only [nr]
       refine sP 27 (h:=?_);try simp only [nr]
       refine stepL_only (i:=16) rfl (by kernel_rfl) (fun K hK=>?_);go_simp
       first | refine boxes1 ?_ | refine boxesD1 ?_
       intro x e z C;obtain⟨j16,hj,HT⟩:=HS.new e z C;rw [←hj];clear HS hj C;have HS:=HT;replace eC:=HS.bk;clear HT e z;clear hHeld;refine hK.out _ _ (by exact eC) fun hHeld=>?_
       clear hK K;try simp only [nr]
       refine stepL_only (i:=17) rfl (by kernel_rfl) (fun K hK=>?_);refine step_append_rat_at rfl _ _ 24 Tryz.underlying24 rfl (by rfl) HS.st.L (by rfl) (HS.tb (j16,.cells #[.bool n2,.slice A5 k5 c5,.bool false,.slice A6 k6 c6] 44 (0,0)) (by simp)) hq (g1.ext HS.ex) (g2.ext HS.ex) hcl2 ?_;rintro gL cL y p G hb C o1 o2;have HT:=HS.app hgw hgb hbs (HS.st.appL hNb (G.congr (y:=Y) HUY.out) hb C o1 o2) hb C;clear HS G hb C o1 o2;have HS:=HT;replace eC:=HS.bk;clear HT;clear hHeld;refine hK.out _ _ (by exact eC) fun hHeld=>?_
       clear hK K;try simp only [nr]
       refine stepL_only (i:=26) rfl (by kernel_rfl) (fun K hK=>?_);refine step_append_rat_at rfl _ _ 24 Tryz.underlying24 rfl (by rfl) HS.st.P (by rfl) (HS.tb (j25,.cells #[.bool n3,.slice A7 k7' c7,.bool false,.slice A8 k8 c8] 44 (0,0)) (by simp)) hs' (g3.ext HS.ex) (g4.ext HS.ex) hcl2 ?_;rintro gP cP y p G hb C o1 o2;have HT:=HS.app hgw hgb hbs (HS.st.appP hNb (G.congr (y:=PP) HUP.out) hb C o1 o2) hb C;clear HS G hb C o1 o2;have HS:=HT;replace eC:=HS.bk;clear HT;clear hHeld;refine hK.out _ _ (by exact eC) fun hHeld=>?_
       clear hK K;try simp only [nr]
      rotate_left 1
      focus
       go_simp
       first | refine boxes1 ?_ | refine boxesD1 ?_
       intro x e z C;obtain⟨j16,hj,HT⟩:=HS.new e z C;rw [←hj];clear HS hj C;have HS:=HT;replace eC:=HS.bk;clear HT e z;clear hHeld;refine hK.out _ _ (by exact eC) fun hHeld=>?_
       clear hK K;try simp only [nr]
       refine stepL_only (i:=8) rfl (by kernel_rfl) (fun K hK=>?_);refine step_append_row_at rfl _ _ 23 Tryz.underlying23 rfl (by rfl) HS.st.A (by rfl) (HS.tb (j7,.cells #[.slice A4 n c4] 24 (0,0)) (by simp)) rfl hxl ?_;rintro gA cA y p G hb C o1 o2;have HT:=HS.app hgw hgb hbs (HS.st.appA hNb G hb C o1 o2) hb C;clear HS G hb C o1 o2;have HS:=HT;replace eC:=HS.bk;clear HT;clear hHeld;refine hK.out _ _ (by exact eC) fun hHeld=>?_
       clear hK K;try simp only [nr]
       refine sP 27 (h:=?_);try simp only [nr]
       refine stepL_only (i:=17) rfl (by kernel_rfl) (fun K hK=>?_);refine step_append_rat_at rfl _ _ 24 Tryz.underlying24 rfl (by rfl) HS.st.L (by rfl) (HS.tb (j16,.cells #[.bool n2,.slice A5 k5 c5,.bool false,.slice A6 k6 c6] 44 (0,0)) (by simp)) hq (g1.ext HS.ex) (g2.ext HS.ex) hcl2 ?_;rintro gL cL y p G hb C o1 o2;have HT:=HS.app hgw hgb hbs (HS.st.appL hNb (G.congr (y:=Y) HUY.out) hb C o1 o2) hb C;clear HS G hb C o1 o2;have HS:=HT;replace eC:=HS.bk;clear HT;clear hHeld;refine hK.out _ _ (by exact eC) fun hHeld=>?_
       clear hK K;try simp only [nr]
       refine stepL_only (i:=26) rfl (by kernel_rfl) (fun K hK=>?_);refine step_append_rat_at rfl _ _ 24 Tryz.underlying24 rfl (by rfl) HS.st.P (by rfl) (HS.tb (j25,.cells #[.bool n3,.slice A7 k7' c7,.bool false,.slice A8 k8 c8] 44 (0,0)) (by simp)) hs' (g3.ext HS.ex) (g4.ext HS.ex) hcl2 ?_;rintro gP cP y p G hb C o1 o2;have HT:=HS.app hgw hgb hbs (HS.st.appP hNb (G.congr (y:=PP) HUP.out) hb C o1 o2) hb C;clear HS G hb C o1 o2;have HS:=HT;replace eC:=HS.bk;clear HT;clear hHeld;refine hK.out _ _ (by exact eC) fun hHeld=>?_
       clear hK K;try simp only [nr]
      rotate_left 1
     rotate_left 2
    rotate_left 8
    focus
     go_simp
     first | refine boxes1 ?_ | refine boxesD1 ?_
     intro x e z C;obtain⟨j16,hj,HT⟩:=HS.new e z C;rw [←hj];clear HS hj C;have HS:=HT;replace eC:=HS.bk;clear HT e z;clear hHeld;refine hK.out _ _ (by exact eC) fun hHeld=>?_
     clear hK K;try simp only [nr]
     refine stepL_two (i:=7) (j:=25) rfl rfl (by kernel_rfl) (fun K hK=>?_) (fun K hK=>?_)
     focus
      go_simp
      first | refine boxes1 ?_ | refine boxesD1 ?_
      intro x e z C;obtain⟨j7,hj,HT⟩:=HS.new e z C;rw [←hj];clear HS hj C;have HS:=HT;replace eC:=HS.bk;clear HT e z;clear hHeld;refine hK.out _ _ (by exact eC) fun hHeld=>?_
      clear hK K;try simp only [nr]
      refine stepL_two (i:=8) (j:=25) rfl rfl (by kernel_rfl) (fun K hK=>?_) (fun K hK=>?_)
      focus
       refine step_append_row_at rfl _ _ 23 Tryz.underlying23 rfl (by rfl) HS.st.A (by rfl) (HS.tb (j7,.cells #[.slice A4 n c4] 24 (0,0)) (by simp)) rfl hxl ?_;rintro gA cA y p G hb C o1 o2;have HT:=HS.app hgw hgb hbs (HS.st.appA hNb G hb C o1 o2) hb C;clear HS G hb C o1 o2;have HS:=HT;replace eC:=HS.bk;clear HT;clear hHeld;refine hK.out _ _ (by exact eC) fun hHeld=>?_
       clear hK K;try simp only [nr]
       refine sP 27 (h:=?_);try simp only [nr]
       refine stepL_two (i:=17) (j:=25) rfl rfl (by kernel_rfl) (fun K hK=>?_) (fun K hK=>?_)
       focus
        refine step_append_rat_at rfl _ _ 24 Tryz.underlying24 rfl (by rfl) HS.st.L (by rfl) (HS.tb (j16,.cells #[.bool n2,.slice A5 k5 c5,.bool false,.slice A6 k6 c6] 44 (0,0)) (by simp)) hq (g1.ext HS.ex) (g2.ext HS.ex) hcl2 ?_;rintro gL cL y p G hb C o1 o2;have HT:=HS.app hgw hgb hbs (HS.st.appL hNb (G.congr (y:=Y) HUY.out) hb C o1 o2) hb C;clear HS G hb C o1 o2;have HS:=HT;replace eC:=HS.bk;clear HT;clear hHeld;refine hK.out _ _ (by exact eC) fun hHeld=>?_
        clear hK K;try simp only [nr]
        refine stepL_only (i:=25) rfl (by kernel_rfl) (fun K hK=>?_);go_simp
        first | refine boxes1 ?_ | refine boxesD1 ?_
        intro x e z C;obtain⟨j25,hj,HT⟩:=HS.new e z C;rw [←hj];clear HS hj C;have HS:=HT;replace eC:=HS.bk;clear HT e z;clear hHeld;refine hK.out _ _ (by exact eC) fun hHeld=>?_
        clear hK K;try simp only [nr]
        refine stepL_only (i:=26) rfl (by kernel_rfl) (fun K hK=>?_);refine step_append_rat_at rfl _ _ 24 Tryz.underlying24 rfl (by rfl) HS.st.P (by rfl) (HS.tb (j25,.cells #[.bool n3,.slice A7 k7' c7,.bool false,.slice A8 k8 c8] 44 (0,0)) (by simp)) hs' (g3.ext HS.ex) (g4.ext HS.ex) hcl2 ?_;rintro gP cP y p G hb C o1 o2;have HT:=HS.app hgw hgb hbs (HS.st.appP hNb (G.congr (y:=PP) HUP.out) hb C o1 o2) hb C;clear HS G hb C o1 o2;have HS:=HT;replace eC:=HS.bk;clear HT;clear hHeld;refine hK.out _ _ (by exact eC) fun hHeld=>?_
        clear hK K;try simp only [nr]
       rotate_left 1
       focus
        go_simp
        first | refine boxes1 ?_ | refine boxesD1 ?_
        intro x e z C;obtain⟨j25,hj,HT⟩:=HS.new e z C;rw [←hj];clear HS hj C;have HS:=HT;replace eC:=HS.bk;clear HT e z;clear hHeld;refine hK.out _ _ (by exact eC) fun hHeld=>?_
        clear hK K;try simp only [nr]
        refine stepL_only (i:=17) rfl (by kernel_rfl) (fun K hK=>?_);refine step_append_rat_at rfl _ _ 24 Tryz.underlying24 rfl (by rfl) HS.st.L (by rfl) (HS.tb (j16,.cells #[.bool n2,.slice A5 k5 c5,.bool false,.slice A6 k6 c6] 44 (0,0)) (by simp)) hq (g1.ext HS.ex) (g2.ext HS.ex) hcl2 ?_;rintro gL cL y p G hb C o1 o2;have HT:=HS.app hgw hgb hbs (HS.st.appL hNb (G.congr (y:=Y) HUY.out) hb C o1 o2) hb C;clear HS G hb C o1 o2;have HS:=HT;replace eC:=HS.bk;clear HT;clear hHeld;refine hK.out _ _ (by exact eC) fun hHeld=>?_
        clear hK K;try simp only [nr]
        refine stepL_only (i:=26) rfl (by kernel_rfl) (fun K hK=>?_);refine step_append_rat_at rfl _ _ 24 Tryz.underlying24 rfl (by rfl) HS.st.P (by rfl) (HS.tb (j25,.cells #[.bool n3,.slice A7 k7' c7,.bool false,.slice A8 k8 c8] 44 (0,0)) (by simp)) hs' (g3.ext HS.ex) (g4.ext HS.ex) hcl2 ?_;rintro gP cP y p G hb C o1 o2;have HT:=HS.app hgw hgb hbs (HS.st.appP hNb (G.congr (y:=PP) HUP.out) hb C o1 o2) hb C;clear HS G hb C o1 o2;have HS:=HT;replace eC:=HS.bk;clear HT;clear hHeld;refine hK.out _ _ (by exact eC) fun hHeld=>?_
        clear hK K;try simp only [nr]
       rotate_left 1
      rotate_left 2
      focus
       go_simp
       first | refine boxes1 ?_ | refine boxesD1 ?_
       intro x e z C;obtain⟨j25,hj,HT⟩:=HS.new e z C;rw [←hj];clear HS hj C;have HS:=HT;replace eC:=HS.bk;clear HT e z;clear hHeld;refine hK.out _ _ (by exact eC) fun hHeld=>?_
       clear hK K;try simp only [nr]
       refine stepL_only (i:=8) rfl (by kernel_rfl) (fun K hK=>?_);refine step_append_row_at rfl _ _ 23 Tryz.underlying23 rfl (by rfl) HS.st.A (by rfl) (HS.tb (j7,.cells #[.slice A4 n c4] 24 (0,0)) (by simp)) rfl hxl ?_;rintro gA cA y p G hb C o1 o2;have HT:=HS.app hgw hgb hbs (HS.st.appA hNb G hb C o1 o2) hb C;clear HS G hb C o1 o2;have HS:=HT;replace eC:=HS.bk;clear HT;clear hHeld;refine hK.out _ _ (by exact eC) fun hHeld=>?_
       clear hK K;try simp only [nr]
       refine sP 27 (h:=?_);try simp only [nr]
       refine stepL_only (i:=17) rfl (by kernel_rfl) (fun K hK=>?_);refine step_append_rat_at rfl _ _ 24 Tryz.underlying24 rfl (by rfl) HS.st.L (by rfl) (HS.tb (j16,.cells #[.bool n2,.slice A5 k5 c5,.bool false,.slice A6 k6 c6] 44 (0,0)) (by simp)) hq (g1.ext HS.ex) (g2.ext HS.ex) hcl2 ?_;rintro gL cL y p G hb C o1 o2;have HT:=HS.app hgw hgb hbs (HS.st.appL hNb (G.congr (y:=Y) HUY.out) hb C o1 o2) hb C;clear HS G hb C o1 o2;have HS:=HT;replace eC:=HS.bk;clear HT;clear hHeld;refine hK.out _ _ (by exact eC) fun hHeld=>?_
       clear hK K;try simp only [nr]
       refine stepL_only (i:=26) rfl (by kernel_rfl) (fun K hK=>?_);refine step_append_rat_at rfl _ _ 24 Tryz.underlying24 rfl (by rfl) HS.st.P (by rfl) (HS.tb (j25,.cells #[.bool n3,.slice A7 k7' c7,.bool false,.slice A8 k8 c8] 44 (0,0)) (by simp)) hs' (g3.ext HS.ex) (g4.ext HS.ex) hcl2 ?_;rintro gP cP y p G hb C o1 o2;have HT:=HS.app hgw hgb hbs (HS.st.appP hNb (G.congr (y:=PP) HUP.out) hb C o1 o2) hb C;clear HS G hb C o1 o2;have HS:=HT;replace eC:=HS.bk;clear HT;clear hHeld;refine hK.out _ _ (by exact eC) fun hHeld=>?_
       clear hK K;try simp only [nr]
      rotate_left 1
     rotate_left 3
     focus
      go_simp
      first | refine boxes1 ?_ | refine boxesD1 ?_
      intro x e z C;obtain⟨j25,hj,HT⟩:=HS.new e z C;rw [←hj];clear HS hj C;have HS:=HT;replace eC:=HS.bk;clear HT e z;clear hHeld;refine hK.out _ _ (by exact eC) fun hHeld=>?_
      clear hK K;try simp only [nr]
      refine stepL_only (i:=7) rfl (by kernel_rfl) (fun K hK=>?_);go_simp
      first | refine boxes1 ?_ | refine boxesD1 ?_
      intro x e z C;obtain⟨j7,hj,HT⟩:=HS.new e z C;rw [←hj];clear HS hj C;have HS:=HT;replace eC:=HS.bk;clear HT e z;clear hHeld;refine hK.out _ _ (by exact eC) fun hHeld=>?_
      clear hK K;try simp only [nr]
      refine stepL_only (i:=8) rfl (by kernel_rfl) (fun K hK=>?_);refine step_append_row_at rfl _ _ 23 Tryz.underlying23 rfl (by rfl) HS.st.A (by rfl) (HS.tb (j7,.cells #[.slice A4 n c4] 24 (0,0)) (by simp)) rfl hxl ?_;rintro gA cA y p G hb C o1 o2;have HT:=HS.app hgw hgb hbs (HS.st.appA hNb G hb C o1 o2) hb C;clear HS G hb C o1 o2;have HS:=HT;replace eC:=HS.bk;clear HT;clear hHeld;refine hK.out _ _ (by exact eC) fun hHeld=>?_
      clear hK K;try simp only [nr]
      refine sP 27 (h:=?_);try simp only [nr]
      refine stepL_only (i:=17) rfl (by kernel_rfl) (fun K hK=>?_);refine step_append_rat_at rfl _ _ 24 Tryz.underlying24 rfl (by rfl) HS.st.L (by rfl) (HS.tb (j16,.cells #[.bool n2,.slice A5 k5 c5,.bool false,.slice A6 k6 c6] 44 (0,0)) (by simp)) hq (g1.ext HS.ex) (g2.ext HS.ex) hcl2 ?_;rintro gL cL y p G hb C o1 o2;have HT:=HS.app hgw hgb hbs (HS.st.appL hNb (G.congr (y:=Y) HUY.out) hb C o1 o2) hb C;clear HS G hb C o1 o2;have HS:=HT;replace eC:=HS.bk;clear HT;clear hHeld;refine hK.out _ _ (by exact eC) fun hHeld=>?_
      clear hK K;try simp only [nr]
      refine stepL_only (i:=26) rfl (by kernel_rfl) (fun K hK=>?_);refine step_append_rat_at rfl _ _ 24 Tryz.underlying24 rfl (by rfl) HS.st.P (by rfl) (HS.tb (j25,.cells #[.bool n3,.slice A7 k7' c7,.bool false,.slice A8 k8 c8] 44 (0,0)) (by simp)) hs' (g3.ext HS.ex) (g4.ext HS.ex) hcl2 ?_;rintro gP cP y p G hb C o1 o2;have HT:=HS.app hgw hgb hbs (HS.st.appP hNb (G.congr (y:=PP) HUP.out) hb C o1 o2) hb C;clear HS G hb C o1 o2;have HS:=HT;replace eC:=HS.bk;clear HT;clear hHeld;refine hK.out _ _ (by exact eC) fun hHeld=>?_
      clear hK K;try simp only [nr]
     rotate_left 1
    rotate_left 4
    focus
     go_simp
     first | refine boxes1 ?_ | refine boxesD1 ?_
     intro x e z C;obtain⟨j25,hj,HT⟩:=HS.new e z C;rw [←hj];clear HS hj C;have HS:=HT;replace eC:=HS.bk;clear HT e z;clear hHeld;refine hK.out _ _ (by exact eC) fun hHeld=>?_
     clear hK K;try simp only [nr]
     refine stepL_two (i:=7) (j:=16) rfl rfl (by kernel_rfl) (fun K hK=>?_) (fun K hK=>?_)
     focus
      go_simp
      first | refine boxes1 ?_ | refine boxesD1 ?_
      intro x e z C;obtain⟨j7,hj,HT⟩:=HS.new e z C;rw [←hj];clear HS hj C;have HS:=HT;replace eC:=HS.bk;clear HT e z;clear hHeld;refine hK.out _ _ (by exact eC) fun hHeld=>?_
      clear hK K;try simp only [nr]
      refine stepL_two (i:=8) (j:=16) rfl rfl (by kernel_rfl) (fun K hK=>?_) (fun K hK=>?_)
      focus
       refine step_append_row_at rfl _ _ 23 Tryz.underlying23 rfl (by rfl) HS.st.A (by rfl) (HS.tb (j7,.cells #[.slice A4 n c4] 24 (0,0)) (by simp)) rfl hxl ?_;rintro gA cA y p G hb C o1 o2;have HT:=HS.app hgw hgb hbs (HS.st.appA hNb G hb C o1 o2) hb C;clear HS G hb C o1 o2;have HS:=HT;replace eC:=HS.bk;clear HT;clear hHeld;refine hK.out _ _ (by exact eC) fun hHeld=>?_
       clear hK K;try simp only [nr]
       refine sP 27 (h:=?_);try simp only [nr]
       refine stepL_only (i:=16) rfl (by kernel_rfl) (fun K hK=>?_);go_simp
       first | refine boxes1 ?_ | refine boxesD1 ?_
       intro x e z C;obtain⟨j16,hj,HT⟩:=HS.new e z C;rw [←hj];clear HS hj C;have HS:=HT;replace eC:=HS.bk;clear HT e z;clear hHeld;refine hK.out _ _ (by exact eC) fun hHeld=>?_
       clear hK K;try simp only [nr]
       refine stepL_only (i:=17) rfl (by kernel_rfl) (fun K hK=>?_);refine step_append_rat_at rfl _ _ 24 Tryz.underlying24 rfl (by rfl) HS.st.L (by rfl) (HS.tb (j16,.cells #[.bool n2,.slice A5 k5 c5,.bool false,.slice A6 k6 c6] 44 (0,0)) (by simp)) hq (g1.ext HS.ex) (g2.ext HS.ex) hcl2 ?_;rintro gL cL y p G hb C o1 o2;have HT:=HS.app hgw hgb hbs (HS.st.appL hNb (G.congr (y:=Y) HUY.out) hb C o1 o2) hb C;clear HS G hb C o1 o2;have HS:=HT;replace eC:=HS.bk;clear HT;clear hHeld;refine hK.out _ _ (by exact eC) fun hHeld=>?_
       clear hK K;try simp only [nr]
       refine stepL_only (i:=26) rfl (by kernel_rfl) (fun K hK=>?_);refine step_append_rat_at rfl _ _ 24 Tryz.underlying24 rfl (by rfl) HS.st.P (by rfl) (HS.tb (j25,.cells #[.bool n3,.slice A7 k7' c7,.bool false,.slice A8 k8 c8] 44 (0,0)) (by simp)) hs' (g3.ext HS.ex) (g4.ext HS.ex) hcl2 ?_;rintro gP cP y p G hb C o1 o2;have HT:=HS.app hgw hgb hbs (HS.st.appP hNb (G.congr (y:=PP) HUP.out) hb C o1 o2) hb C;clear HS G hb C o1 o2;have HS:=HT;replace eC:=HS.bk;clear HT;clear hHeld;refine hK.out _ _ (by exact eC) fun hHeld=>?_
       clear hK K;try simp only [nr]
      rotate_left 1
      focus
       go_simp
       first | refine boxes1 ?_ | refine boxesD1 ?_
       intro x e z C;obtain⟨j16,hj,HT⟩:=HS.new e z C;rw [←hj];clear HS hj C;have HS:=HT;replace eC:=HS.bk;clear HT e z;clear hHeld;refine hK.out _ _ (by exact eC) fun hHeld=>?_
       clear hK K;try simp only [nr]
       refine stepL_only (i:=8) rfl (by kernel_rfl) (fun K hK=>?_);refine step_append_row_at rfl _ _ 23 Tryz.underlying23 rfl (by rfl) HS.st.A (by rfl) (HS.tb (j7,.cells #[.slice A4 n c4] 24 (0,0)) (by simp)) rfl hxl ?_;rintro gA cA y p G hb C o1 o2;have HT:=HS.app hgw hgb hbs (HS.st.appA hNb G hb C o1 o2) hb C;clear HS G hb C o1 o2;have HS:=HT;replace eC:=HS.bk;clear HT;clear hHeld;refine hK.out _ _ (by exact eC) fun hHeld=>?_
       clear hK K;try simp only [nr]
       refine sP 27 (h:=?_);try simp only [nr]
       refine stepL_only (i:=17) rfl (by kernel_rfl) (fun K hK=>?_);refine step_append_rat_at rfl _ _ 24 Tryz.underlying24 rfl (by rfl) HS.st.L (by rfl) (HS.tb (j16,.cells #[.bool n2,.slice A5 k5 c5,.bool false,.slice A6 k6 c6] 44 (0,0)) (by simp)) hq (g1.ext HS.ex) (g2.ext HS.ex) hcl2 ?_;rintro gL cL y p G hb C o1 o2;have HT:=HS.app hgw hgb hbs (HS.st.appL hNb (G.congr (y:=Y) HUY.out) hb C o1 o2) hb C;clear HS G hb C o1 o2;have HS:=HT;replace eC:=HS.bk;clear HT;clear hHeld;refine hK.out _ _ (by exact eC) fun hHeld=>?_
       clear hK K;try simp only [nr]
       refine stepL_only (i:=26) rfl (by kernel_rfl) (fun K hK=>?_);refine step_append_rat_at rfl _ _ 24 Tryz.underlying24 rfl (by rfl) HS.st.P (by rfl) (HS.tb (j25,.cells #[.bool n3,.slice A7 k7' c7,.bool false,.slice A8 k8 c8] 44 (0,0)) (by simp)) hs' (g3.ext HS.ex) (g4.ext HS.ex) hcl2 ?_;rintro gP cP y p G hb C o1 o2;have HT:=HS.app hgw hgb hbs (HS.st.appP hNb (G.congr (y:=PP) HUP.out) hb C o1 o2) hb C;clear HS G hb C o1 o2;have HS:=HT;replace eC:=HS.bk;clear HT;clear hHeld;refine hK.out _ _ (by exact eC) fun hHeld=>?_
       clear hK K;try simp only [nr]
      rotate_left 1
     rotate_left 2
     focus
      go_simp
      first | refine boxes1 ?_ | refine boxesD1 ?_
      intro x e z C;obtain⟨j16,hj,HT⟩:=HS.new e z C;rw [←hj];clear HS hj C;have HS:=HT;replace eC:=HS.bk;clear HT e z;clear hHeld;refine hK.out _ _ (by exact eC) fun hHeld=>?_
      clear hK K;try simp only [nr]
      refine stepL_only (i:=7) rfl (by kernel_rfl) (fun K hK=>?_);go_simp
      first | refine boxes1 ?_ | refine boxesD1 ?_
      intro x e z C;obtain⟨j7,hj,HT⟩:=HS.new e z C;rw [←hj];clear HS hj C;have HS:=HT;replace eC:=HS.bk;clear HT e z;clear hHeld;refine hK.out _ _ (by exact eC) fun hHeld=>?_
      clear hK K;try simp only [nr]
      refine stepL_only (i:=8) rfl (by kernel_rfl) (fun K hK=>?_);refine step_append_row_at rfl _ _ 23 Tryz.underlying23 rfl (by rfl) HS.st.A (by rfl) (HS.tb (j7,.cells #[.slice A4 n c4] 24 (0,0)) (by simp)) rfl hxl ?_;rintro gA cA y p G hb C o1 o2;have HT:=HS.app hgw hgb hbs (HS.st.appA hNb G hb C o1 o2) hb C;clear HS G hb C o1 o2;have HS:=HT;replace eC:=HS.bk;clear HT;clear hHeld;refine hK.out _ _ (by exact eC) fun hHeld=>?_
      clear hK K;try simp only [nr]
      refine sP 27 (h:=?_);try simp only [nr]
      refine stepL_only (i:=17) rfl (by kernel_rfl) (fun K hK=>?_);refine step_append_rat_at rfl _ _ 24 Tryz.underlying24 rfl (by rfl) HS.st.L (by rfl) (HS.tb (j16,.cells #[.bool n2,.slice A5 k5 c5,.bool false,.slice A6 k6 c6] 44 (0,0)) (by simp)) hq (g1.ext HS.ex) (g2.ext HS.ex) hcl2 ?_;rintro gL cL y p G hb C o1 o2;have HT:=HS.app hgw hgb hbs (HS.st.appL hNb (G.congr (y:=Y) HUY.out) hb C o1 o2) hb C;clear HS G hb C o1 o2;have HS:=HT;replace eC:=HS.bk;clear HT;clear hHeld;refine hK.out _ _ (by exact eC) fun hHeld=>?_
      clear hK K;try simp only [nr]
      refine stepL_only (i:=26) rfl (by kernel_rfl) (fun K hK=>?_);refine step_append_rat_at rfl _ _ 24 Tryz.underlying24 rfl (by rfl) HS.st.P (by rfl) (HS.tb (j25,.cells #[.bool n3,.slice A7 k7' c7,.bool false,.slice A8 k8 c8] 44 (0,0)) (by simp)) hs' (g3.ext HS.ex) (g4.ext HS.ex) hcl2 ?_;rintro gP cP y p G hb C o1 o2;have HT:=HS.app hgw hgb hbs (HS.st.appP hNb (G.congr (y:=PP) HUP.out) hb C o1 o2) hb C;clear HS G hb C o1 o2;have HS:=HT;replace eC:=HS.bk;clear HT;clear hHeld;refine hK.out _ _ (by exact eC) fun hHeld=>?_
      clear hK K;try simp only [nr]
     rotate_left 1
    rotate_left 3
    all_goals
     refine stepL_late (i:=28) rfl (by kernel_rfl) (by kernel_rfl) (fun K hK=>?_);obtain⟨u0,u1,u2,u3,u4,u5⟩:=cells3 HS.bt;go_simp;obtain⟨m28,E,BB,U⟩:=set3 HS.bt (.slice (some ⟨gA,0,none⟩) (xs.length+1) cA);rw [E];have HT:=HS.fin.set hNg (by decide) hgw hgb hwg BB U;clear HS E BB U u0 u1 u2 u3 u4 u5;have HS:=HT;clear HT;refine hK.out _ _ ?_;clear hK K;try simp only [nr]
     refine sP 29 (h:=?_);try simp only [nr]
     refine stepL_late (i:=30) rfl (by kernel_rfl) (by kernel_rfl) (fun K hK=>?_);obtain⟨u0,u1,u2,u3,u4,u5⟩:=cells3 HS.bt;go_simp;obtain⟨m30,E,BB,U⟩:=set31 HS.bt (.slice (some ⟨gL,0,none⟩) (cntw i a+1) cL);rw [E];have HT:=HS.set hNg (by decide) hgw hgb hwg BB U;clear HS E BB U u0 u1 u2 u3 u4 u5;have HS:=HT;clear HT;refine hK.out _ _ ?_;clear hK K;try simp only [nr]
     refine sP 31 (h:=?_);try simp only [nr]
     refine stepL_late (i:=32) rfl (by kernel_rfl) (by kernel_rfl) (fun K hK=>?_);obtain⟨u0,u1,u2,u3,u4,u5⟩:=cells3 HS.bt;go_simp;obtain⟨m32,E,BB,U⟩:=set32 HS.bt (.slice (some ⟨gP,0,none⟩) (cntw i a+1) cP);rw [E];have HT:=HS.set hNg (by decide) hgw hgb hwg BB U;clear HS E BB U u0 u1 u2 u3 u4 u5;have HS:=HT;clear HT;refine hK.out _ _ ?_;clear hK K;try simp only [nr]
     refine stepL_done (by kernel_rfl) ?_ _;clear hHeld;go_wp2;go_roundw
     case rel=>exact⟨a+1,by omega,by go_num,HS.ex,_,_,_,xs ++ [.slice A4 n c4],HS.bt,HXL.out,by rw [HCN.out]; exact HS.st,HR2,HS.b0,HS.b4⟩
     case measure=>simp [intOf]; omega
  ·obtain rfl:m=a:=by omega
   have hcm':cntw i m=m - 1:=by unfold cntw; rw [if_neg (by omega)]
   rw [hcm'] at hxs hS;have HXS:=Lib.hid hxs;obtain⟨gA,capA,rfl,hcmA,hncA,hatA⟩:=hS.A.at_ (by omega);have hgA:=hS.A.own_lt (k:=gA) (by simp [Value.ownBlock]);obtain⟨gL,capL,rfl,-,-,-,-⟩:=hS.L.some (by omega);obtain⟨gP,capP,rfl,-,-,-,-⟩:=hS.P.some (by omega);have hNr:N≤wr.heap.size:=by have:=hEr.size; omega
   have hM:MtX N base wr.heap.size lo hi wr (.slice (some ⟨gA,0,none⟩) xs.length capA) xs.length n (fun j=>X (skip i j)):=⟨hNr,Nat.le_refl _,by have:=hEr.size; omega,_,capA,rfl,hncA,hcmA,fun _=>⟨gA,0,rfl,hgA.1,hgA.2,fun j hj=>⟨xs[j],by rw [Nat.zero_add]; exact hatA j hj,(HR.out j hj).ext hEr⟩⟩⟩
   have hL:LsV N base wr.heap.size wr (.slice (some ⟨gL,0,none⟩) (m - 1) capL) (m - 1) (fun j=>y (skip i j)):=by
    have h9:=hS.L.lsv (Nat.le_refl _) rfl;rw [hY.out] at h9; exact h9
   have hP:LsV N base wr.heap.size wr (.slice (some ⟨gP,0,none⟩) (m - 1) capP) (m - 1) (fun j=>p (skip i j)):=by
    have h9:=hS.P.lsv (Nat.le_refl _) rfl;rw [hPP.out] at h9; exact h9
   rw [hxs] at hM BT;clear hS HR hxs HXS hcm' hatA hcmA hncA;obtain⟨d0,d1,d2,-⟩:=cells3 BT;obtain⟨u0,u1,u2,u3,u4,u5⟩:=cells3 B4;have hT:=NoU.mk B4 (by decide);go_wp2;obtain⟨w8,E8,D8,U8⟩:=ex3 B4 (.slice (some ⟨gA,0,none⟩) (m - 1) capA) (.slice (some ⟨gL,0,none⟩) (m - 1) capL) (.slice (some ⟨gP,0,none⟩) (m - 1) capP);rw [E8];have C8:=U8.chg hT;have M8:=hM.chg C8 (by omega) (.inr (by omega)) (.inl (by omega));have L8:=LsR.chg hL C8 (by omega) (.inr (by omega));have P8:=LsR.chg hP C8 (by omega) (.inr (by omega));have hs8:=C8.size;have hE8:=(U8.chg hT).ext hEr (by omega);obtain⟨x0,x1,x2,-⟩:=cells3 D8;clear d0 d1 d2 u0 u1 u2 u3 u4 u5 E8;refine bodyPost_ret (v:=.agg #[.slice (some ⟨gA,0,none⟩) (m - 1) capA,.slice (some ⟨gL,0,none⟩) (m - 1) capL,.slice (some ⟨gP,0,none⟩) (m - 1) capP]) ?_ rfl ?_
   ·simp [results,x0,x1,x2,go_sem]
   ·rw [hRf.out];exact⟨_,_,_,_,_,_,rfl,M8.wide (by omega) hs8 (Nat.le_refl _),LsR.wide L8 (by omega) hs8 (Nat.le_refl _),LsR.wide P8 (by omega) hs8 (Nat.le_refl _),hE8⟩
theorem l34_without {N lo hi:Nat} {w:World} {v1 v2 v3:Value} {m n:Nat} {X:Nat→Nat→Rat} {y p:Nat→Rat} (h1:MtV N lo hi w v1 m n X) (h2:LsV N lo hi w v2 m y) (h3:LsV N lo hi w v3 m p) (hm1:1 < m) (hm:m≤64) (hn0:0 < n) (hn:n≤64) {i:Nat} {iz:Int} (hiz:iz=(i:Int)) (hi':i < m) :
  Calls Tryz.prog 42 #[.agg #[v1,v2,v3],.int .i64 iz] w (RetW4 N w (m - 1) n (fun j=>X (skip i j)) (fun j=>y (skip i j)) (fun j=>p (skip i j))) :=
 (l34_withoutX (MtX.of h1) h2 h3 hm1 hm hn0 hn hiz hi').mono fun _ _ ⟨A1,c1,A2,c2,A3,c3,h0,k1,k2,k3,k4⟩=>⟨A1,c1,A2,c2,A3,c3,h0,k1.all,LsV.all k2,LsV.all k3,k4⟩
end Go.Proofs.YtccepmpebioeiaaGreat
