import Derived.Test.YtdeeekdbhhenpaaGreatDoorWc11
set_option linter.all false
set_option maxHeartbeats 8000000
set_option maxRecDepth 100000
namespace Go.Proofs.YtdeeekdbhhenpaaGreatDoor
variable {w w':World} {n k g i m base c j d:Nat} {v:Value} {z:Int} {A:Option Addr}
section
open Go.RowKit
theorem zJ.at_{l:List qX}(h:zJ w (.slice A n c) l) (hn:n=l.length) (h0:0<n):∃g off,A=some ⟨g,off,none⟩/\∀i,i<n->∃B m d,w.cell? ⟨g,off+i*3,none⟩=some (.int .i64 (l.getD i default).page)/\w.cell? ⟨g,off+i*3+1,none⟩=some (.slice B m d)/\w.cell? ⟨g,off+i*3+2,none⟩=some (.bool (l.getD i default).bar)/\ByV w (.slice B m d) (l.getD i default).data:=by
 subst hn;obtain⟨g,off,h1,h2⟩:=Wp.addr h h0;refine⟨g,off,h1,fun i hi=>?_⟩;obtain⟨x,y,z,h3,h4,h5,rfl,h6,rfl⟩:=h2 i hi;obtain⟨B,d,rfl,-⟩:=h6.form;exact⟨_,_,_,h3,h4,h5,h6⟩
theorem zO{t:TypeId}{x0 x1 x2:Value}(h:w.heap[g]?=some (.cells #[x0,x1,x2] t (0,0))):w.cell? ⟨g,0,none⟩=some x0/\w.cell? ⟨g,1,none⟩=some x1/\w.cell? ⟨g,2,none⟩=some x2 :=
 ⟨qj h 0,qj h 1,qj h 2⟩
theorem Xo {p:Int}{b:Bool}{l:Byt}{B B':Option Addr}{m' d':Nat}(h:ByV w (.slice B m d) l) (h':ByV w (.slice B' m' d') l) (hl:l.length<=1000000000):Calls Tryz.prog 80 #[.agg #[.int .i64 p,.slice B m d,.bool b],.agg #[.int .i64 p,.slice B' m' d',.bool b]] w (qH w (.bool true)):=by
 have HC:Hid (∀w',Ext w w'->Calls Tryz.prog 81 #[.slice B m d,.slice B' m' d'] w' (qH w' (.bool true))):=fun w' e=>by
  have h9:=q0O (h.ext e) (h'.ext e) hl hl;rw[decide_eq_true rfl] at h9;exact h9
 clear h h' hl;have u1:(p == p)=true:=by simp
 have u2:decide (p=p)=true:=decide_eq_true rfl;have u3:(b == b)=true:=by simp
 go_enter Tryz.func80,Tryz.ntmps80;go_upto_region 1 with (fail);refine zu ?_;intro w1 hE hsz B0 B1;obtain⟨p0,p1,p2⟩:=zO B0;obtain⟨q0,q1,q2⟩:=zO B1;go_wp2_with (go_at_call 81;refine q_o ?_);refine (HC.out w1 hE).mono ?_;rintro e w2 ⟨rfl,e2⟩;go_wp2
 first|go_ret|skip
 exact⟨rfl,hE.trans e2⟩
theorem q2p {L:List qX}{v':Value}(h:zJ w v L) (h':zJ w v' L) (hok:∀i,i<L.length->(L.getD i default).data.length<=1000000000) (hl:L.length<=1000000):Calls Tryz.prog 79 #[v,v',.func (.func 80) #[] #[]] w (qH w (.bool true)):=by
 have HO:=q_h h;have HP:=q_h h';have HOK:=q_h hok;obtain⟨A,c,rfl,hnc,-⟩:=h.form;obtain⟨A',c',rfl,hnc',-⟩:=h'.form;obtain⟨n,hn⟩:=qf L.length;rw[<-hn.out] at HO HP hnc hnc' hl ⊢;clear h h' hok;go_enter Tryz.func79,Tryz.ntmps79;have u3:((n:Int) != (n:Int))=false:=by simp
 go_wp2_with fail
 go_loopw [17] (fun iv wr=>∃i:Nat,i<=n/\iv=.int .i64 (i:Int)/\Hid (Ext w wr)) (fun iv _=>n-(intOf iv).toNat)
 case atStart=>exact⟨0,Nat.zero_le _,rfl,Ext.refl w⟩
 case round =>
  obtain⟨i,hi9,rfl,HX⟩:=hrel
  by_cases hlt:i<n
  case neg =>
   have u5:decide ((i:Int)<(n:Int))=false:=q_f (by omega);go_wp2
   first|go_ret|skip
   exact⟨rfl,HX.out⟩
  have u5:decide ((i:Int)<(n:Int))=true:=q_t (by omega);have u6:(i:Int)<(n:Int):=by omega
  have hil:i<L.length:=by have:=hn.out;omega
  obtain⟨go,off,rfl,hx⟩:=HO.out.at_ hn.out (by omega);obtain⟨B1,m1,d1,k0,k1,k2,hby⟩:=hx i hlt;obtain⟨gp,ofp,rfl,hx2⟩:=HP.out.at_ hn.out (by omega);obtain⟨C1,l1,e1,r0,r1,r2,hby2⟩:=hx2 i hlt;obtain⟨pg,hpg⟩:=qf (L.getD i default).page;obtain⟨br,hbr⟩:=qf (L.getD i default).bar;rw[<-hpg.out] at k0 r0;rw[<-hbr.out] at k2 r2;have HOR:=q_h (hby.ext HX.out);have HPR:=q_h (hby2.ext HX.out);replace k0:=HX.out.cell k0;replace k1:=HX.out.cell k1;replace k2:=HX.out.cell k2;replace r0:=HX.out.cell r0;replace r1:=HX.out.cell r1;replace r2:=HX.out.cell r2;clear hx hx2 hby hby2;go_upto_region 6 with (fail);refine qo ?_;intro w4 e4 hsz4 BQ;have HX4:=q_h (HX.out.trans e4);replace r0:=e4.cell r0;replace r1:=e4.cell r1;replace r2:=e4.cell r2;have HOR4:=q_h (HOR.out.ext e4);have HPR4:=q_h (HPR.out.ext e4);have HBQ:=q_h BQ;clear e4 k0 k1 k2 HX HOR HPR BQ;go_upto_region 7 with (fail);refine qo ?_;intro w5 e5 hsz5 BP;obtain⟨k0,k1,k2⟩:=zO (e5.block HBQ.out);obtain⟨t0,t1,t2⟩:=zO BP;clear r0 r1 r2;go_wp2_with (go_at_call 80;refine q_o ?_);refine (Xo (HOR4.out.ext e5) (HPR4.out.ext e5) (HOK.out i hil)).mono ?_;rintro e w6 ⟨rfl,e6⟩;have HX6:=q_h ((HX4.out.trans e5).trans e6);clear k0 k1 k2 t0 t1 t2 e5 e6;go_wp2;go_roundw
  case rel=>exact⟨i+1,by omega,by go_num,HX6⟩
  case measure=>simp[intOf];omega
theorem q0Z {L:List qX}{v':Value}(h:zJ w v L) (h':zJ w v' L) (hok:∀i,i<L.length->(L.getD i default).data.length<=1000000000) (hl:L.length<=1000000):Calls Tryz.prog 18 #[v,v'] w (qH w (.bool true)):=by
 have HC:=q_h (q2p h h' hok hl);clear h h' hok hl;go_enter Tryz.func18,Tryz.ntmps18;go_wp2_with (go_at_call 79;refine q_o ?_);refine HC.out.mono ?_;rintro e w2 ⟨rfl,e2⟩;go_wp2
 first|go_ret|skip
 exact⟨rfl,e2⟩
theorem q02 {s:Shf}{v':Value}(h:q0A w v s) (h':q0A w v' s) (hok:OkS s\/∀i,i<s.objs.length->Ok0 (s.objs.getD i default)) (hl:s.objs.length<=1000) (hl2:s.tags.length<=1000):Calls Tryz.prog 17 #[v,v'] w (qH w (.bool true)):=by
 have hok':∀i,i<s.objs.length->Ok0 (s.objs.getD i default):=hok.elim (fun h=>h.ob) id;obtain⟨x,y,rfl,hO,hT⟩:=h;obtain⟨x',y',rfl,hO',hT'⟩:=h';have HCO:Hid (∀w',Ext w w'->Calls Tryz.prog 77 #[x,x',.func (.func 42) #[] #[]] w' (qH w' (.bool true))):=fun w' e=>q2o (hO.ext e) (hO'.ext e) hok' hl
 have HCT:Hid (∀w',Ext w w'->Calls Tryz.prog 78 #[y,y'] w' (qH w' (.bool true))):=fun w' e=>q2n (hT.ext e) (hT'.ext e) hl2
 obtain⟨A1,c1,rfl,-⟩:=hO.form;obtain⟨A2,c2,rfl,-⟩:=hT.form;obtain⟨A3,c3,rfl,-⟩:=hO'.form;obtain⟨A4,c4,rfl,-⟩:=hT'.form;obtain⟨size,hsize⟩:=qf s.size;obtain⟨seq,hseq⟩:=qf s.seq;obtain⟨half,hhalf⟩:=qf s.half;obtain⟨used,hused⟩:=qf s.used;obtain⟨n1,hn1⟩:=qf s.objs.length;obtain⟨n2,hn2⟩:=qf s.tags.length;rw[<-hn1.out] at HCO;rw[<-hn2.out] at HCT;rw[<-hsize.out,<-hseq.out,<-hhalf.out,<-hused.out,<-hn1.out,<-hn2.out];clear hO hT hO' hT' hok hok' hl hl2;have u1:∀z:Int,(z == z)=true:=fun z=>by simp
 have u2:∀z:Int,decide (z=z)=true:=fun z=>decide_eq_true rfl
 go_enter Tryz.func17,Tryz.ntmps17;go_upto_region 1 with (fail);refine zu ?_;intro w1 hE hsz B0 B1;have HB0:=q_h B0;have HB1:=q_h B1;obtain⟨p0,p1,p2,p3,p4,p5⟩:=qw B0;obtain⟨q0,q1,q2,q3,q4,q5⟩:=qw B1;go_wp2_with (go_at_call 77;refine q_o ?_);refine (HCO.out w1 hE).mono ?_;rintro e w2 ⟨rfl,e2⟩;have HX2:=q_h (hE.trans e2);replace p5:=e2.cell p5;replace q5:=e2.cell q5;clear p0 p1 p2 p3 p4 q0 q1 q2 q3 q4 e2 hE B0 B1;go_wp2_with (go_at_call 78;refine q_o ?_);refine (HCT.out w2 HX2.out).mono ?_;rintro e w3 ⟨rfl,e3⟩;go_wp2
 first|go_ret|skip
 exact⟨rfl,HX2.out.trans e3⟩
theorem JF{o:Oper}{a:Act}{K:Act->World->Prop}{Q:Exit->Act->World->Prop}(l c:Operand) (hop:o.op=Op.makeSlice 27 l c)
  (kl kc:IntKind) (n:Nat) (hl:a.eval l=.int kl (n:Int)) (hc:a.eval c=.int kc (n:Int)) (hn:n<1000000)
  (hK:∀w',PgB w' w.heap.size (zrs n)->Ext w w'->K (a.put o.dst (.slice (some ⟨w.heap.size,0,none⟩) n n)) w'):o.wp Tryz.prog a w K Q:=by
 obtain⟨w',cs,hrun,h1,h2,h3,h4⟩:=YO kX rfl 27 Tryz.underlying27 w kl kc n hn;unfold Oper.wp;simp[execOp,hop,hl,hc,hrun,Result.andThen]
 refine hK _ ?_ h4;unfold PgB;rw[h1,XH]
 congr 2
 refine Array.ext (by simp[h2]) (fun i h5 h6=>?_);have:=h3 i (by omega);rw[Array.getElem?_eq_getElem h5] at this;rw[Option.some.inj this]
 simp
theorem ZQ{ops:Array Oper}{o:Oper}{a:Act}{K:Act->World->Prop}{Q:Exit->Act->World->Prop}{E:Prop}(hgd:o.guard=none) (l c:Operand) (hop:o.op=Op.makeSlice 27 l c)
  (kl kc:IntKind) (n:Nat) (hl:a.eval l=.int kl (n:Int)) (hc:a.eval c=.int kc (n:Int)) (hn:n<1000000)
  (hK:∀w',PgB w' w.heap.size (zrs n)->Ext w w'->K (a.put o.dst (.slice (some ⟨w.heap.size,0,none⟩) n n)) w') :
  if Region.wanted o (yielded ops a.tmps)=true then Oper.wp Tryz.prog o a w K Q else E:=by
 have hw:Region.wanted o (yielded ops a.tmps)=true:=by simp[Region.wanted,hgd]
 rw[if_pos hw];exact JF l c hop kl kc n hl hc hn hK
theorem qG{t:TypeId}{x0 x1 x2 x3:Value}(h:w.heap[g]?=some (.cells #[x0,x1,x2,x3] t (0,0))):w.cell? ⟨g,0,none⟩=some x0/\w.cell? ⟨g,1,none⟩=some x1/\w.cell? ⟨g,2,none⟩=some x2/\w.cell? ⟨g,3,none⟩=some x3 :=
 ⟨qj h 0,qj h 1,qj h 2,qj h 3⟩
theorem PgL.head {gs:Nat}{P P':Nat->Byt}(h:PgL base w v n P) (h0:0<n) (hgs:base<=gs) (hp:PgB w gs (P' 0)) (hP:∀j,0<j->P' j=P j) :
  ∃(g0 c:Nat) (cur:Array Value) (q0:Nat),v=.slice (some ⟨g0,0,none⟩) n c/\base<=g0/\n<=c/\w.heap[g0]?=some (.cells cur 27 (0,0))/\cur[0]?=some (.slice (some ⟨q0,0,none⟩) 64 64)/\∀w',w'.heap[g0]?=some (.cells (cur.setIfInBounds 0 (.slice (some ⟨gs,0,none⟩) 64 64)) 27 (0,0))->Upd g0 w w'->PgL base w' v n P':=by
 obtain⟨G,hG,hGP⟩:=h
 rcases hG.2.2 with ⟨-,h2⟩|⟨g0,cap,cur,hv,hb,hh,h3,h4,h5,h6⟩
 ·exfalso
  simp at h2
  omega
 have hl:((List.range n).map fun j=>Value.slice (some ⟨G j,0,none⟩) 64 64).length=n:=by simp
 rw[hl] at hv h3 h6;rw[Nat.mul_one] at h5 h6
 have hc0:cur[0]?=some (.slice (some ⟨G 0,0,none⟩) 64 64):=by
  have e1:(cur.toList.take n)[0]?=cur[0]?:=by rw[List.getElem?_take,if_pos h0,Array.getElem?_toList]
  rw[<-e1,h6,List.getElem?_map,List.getElem?_range h0]
  rfl
 refine⟨g0,cap,cur,G 0,hv,hb,h3,hh,hc0,fun w' hw' U=>?_⟩;refine⟨fun j=>if j=0 then gs else G j,?_,fun j hj=>?_⟩
 ·refine⟨by rw[U.size];exact hG.1,by simp,.inr ⟨g0,cap,cur.setIfInBounds 0 (.slice (some ⟨gs,0,none⟩) 64 64),by rw[hv];simp,hb,hw',by simpa using h3,h4,by rw[Array.size_setIfInBounds];omega,?_⟩⟩;rw[List.length_map,List.length_range,Nat.mul_one,Array.toList_setIfInBounds,List.take_set,h6];refine List.ext_getElem? fun j=>?_
  rw[List.getElem?_set]
  by_cases hj:0=j
  ·subst hj;rw[if_pos rfl,if_pos (by simpa using h0),List.getElem?_map,List.getElem?_range h0]
   rfl
  ·rw[if_neg hj,List.getElem?_map,List.getElem?_map]
   by_cases hjn:j<n
   ·rw[List.getElem?_range hjn]
    show some (Value.slice (some ⟨G j,0,none⟩) 64 64)=some (Value.slice (some ⟨if j=0 then gs else G j,0,none⟩) 64 64)
    rw[if_neg (fun e:j=0=>hj e.symm)]
   ·rw[List.getElem?_eq_none (by simpa using hjn)]
    rfl
 ·by_cases h:j=0
  ·show base<=(if j=0 then gs else G j)/\PgB w' (if j=0 then gs else G j) (P' j)
   rw[if_pos h,h];have hne:gs≠g0:=neT hh hp (by decide);exact⟨hgs,(U.block gs hne).trans hp⟩
  ·show base<=(if j=0 then gs else G j)/\PgB w' (if j=0 then gs else G j) (P' j)
   rw[if_neg h,hP j (by omega)];have hne:G j≠g0:=neT hh (hGP j hj).2 (by decide);exact⟨(hGP j hj).1,(U.block _ hne).trans (hGP j hj).2⟩
def q2N (j:Nat):Byt:=if j=0 then jq 0 0 0 else zrs 64
theorem xu:(Tryz.prog.info? 46).map (·.size)=some 4:=by kernel_rfl
def q2c (w:World) (n:Nat) (e:Ending) (w':World):Prop:=∃A c,e=.returned (.tuple #[.agg #[.slice A n c,.slice none 0 0,.int .i64 (-1),.bool false],.int .i64 0])/\PgL w.heap.size w' (.slice A n c) n q2N/\Ext w w'
theorem JM(h8:8<=n) (h9:n<=4096) (he:xH w):Calls Tryz.prog 20 #[.int .i64 (n:Int)] w (q2c w n):=by
 obtain⟨R,hR⟩:=qf (q2c w n);rw[<-hR.out];have HM:=q_h he;clear he;have d1:decide ((n:Int)<8)=false:=q_f (by omega);have d2:decide ((4096:Int)<(n:Int))=false:=q_f (by omega);go_enter Tryz.func20,Tryz.ntmps20;go_upto_region 4 with (fail);refine zu ?_;intro W hE hsz B0 B1;obtain⟨g,hg⟩:=qf (w.heap.size+1);rw[<-hg.out] at B1 ⊢;have HGW:Hid (g=w.heap.size+1):=hg;have HG0:Hid (PgL (g+1) W (.slice none (0:Nat) 0) 0 (fun _=>zrs 64)):=⟨fun _=>0,qB.nil (by have:=hg.out;omega),fun j hj=>absurd hj (Nat.not_lt_zero j)⟩
 have HB0:=q_h B0;have HB1:=q_h B1;have HX:=q_h hE;clear B0 B1 hE;go_wp2_with fail
 go_loopw [14] (fun iv wr=>∃(i:Nat) (A:Option Addr) (c:Nat),i<=n/\iv=.int .i64 (i:Int)/\Hid (wr.heap[g]?=some (.cells #[.slice A i c,.slice none 0 0,.int .i64 (-1),.bool false] 46 (0,0)))/\Hid (PgL (g+1) wr (.slice A i c) i (fun _=>zrs 64))/\Hid (Ext w wr)/\Hid (wr.heap[w.heap.size]?=some (.cells #[.slice none 0 0,.slice none 0 0,.int .i64 0,.bool false] 46 (0,0)))) (fun iv _=>n-(intOf iv).toNat)
 case atStart=>exact⟨0,none,0,Nat.zero_le _,rfl,HB1,HG0,HX,HB0⟩
 case round =>
  clear HB1 HG0 HX HB0;obtain⟨i,A,c,hi9,rfl,HB1,HG,HX,HB0⟩:=hrel;obtain⟨wq,hwq⟩:∃wq,wq=wr:=⟨_,rfl⟩
  subst hwq
  by_cases hlt:i<n
  case neg =>
   obtain rfl:i=n:=by omega
   have u5:decide ((i:Int)<(i:Int))=false:=q_f (by omega);obtain⟨k0,k1,k2,k3⟩:=qG HB1.out;go_upto_region 8 with (fail);obtain⟨ga,ofa,hA,-⟩:=HG.out.addr (by omega);have u7:(0:Int)<(i:Int):=by omega
   subst hA;have eC:=(Ext.refl wq).drew;refine ql (fun w'=>w'.cell? ⟨g,0,none⟩=some (.slice (some ⟨ga,ofa,none⟩) i c)) [5] (by kernel_rfl) (by exact eC.cell k0) (fun hHeld=>?_);refine sP 0 (h:=?_);refine sT 1 (h:=?_);refine sP 2 (h:=?_);refine qg (i:=3) rfl (by kernel_rfl) (fun K hK=>?_);go_simp;refine (zQ (HM.out.ext (HX.out.trans eC)) (by omega) (by omega) (by omega) (by omega) (by omega) (by omega)).mono ?_;rintro e w5 ⟨gs,rfl,hgs,hPs,e5⟩;have hq5:=eC.size;replace eC:=eC.trans e5;go_wp2_with fail;clear hHeld;refine hK.out _ _ (by exact eC.cell k0) fun hHeld=>?_
   clear hK K;try simp only[nr]
   refine sP 4 (h:=?_);refine qC (i:=5) rfl (by kernel_rfl) (by kernel_rfl) (fun K hK=>?_);obtain⟨g0,c0,cur,q0,hv0,hb0,hc0,hh0,hq0,hPL⟩:=PgL.head (gs:=gs) (P':=q2N) (HG.out.ext eC) (by omega) (by have:=qK HB1.out;omega) hPs (fun j hj=>by unfold q2N;rw[if_neg (by omega)]);obtain⟨e1,-,-⟩:=Value.slice.inj hv0;injection e1 with e1
   injection e1 with e1 e2 e3
   subst e1 e2;have HPL:=q_h hPL;clear hv0 hPL;obtain⟨wa,Ea,Ba,Ua⟩:=qL hh0 0 (.slice (some ⟨gs,0,none⟩) 64 64);have f4:=qp hh0 0;have c4':w5.cell? ⟨ga,0,none⟩=some (.slice (some ⟨q0,0,none⟩) 64 64):=(qj hh0 0).trans hq0;go_simp;try rw[Ea]
   clear f4 c4' Ea;refine hK.out _ _ ?_;clear hK K;try simp only[nr]
   refine qm (by kernel_rfl) ?_ _;clear hHeld;have HPa:=q_h (HPL.out wa Ba Ua);have Ca:=Ua.chg (NoU.mk hh0 (by decide));have HXa:Hid (Ext w wa):=Ca.ext (HX.out.trans eC) (by have:=HGW.out;omega);have HBa:=q_h ((Ua.block g (by omega)).trans (eC.block HB1.out));have HRa:=q_h ((Ua.block w.heap.size (by have:=HGW.out;omega)).trans (eC.block HB0.out));clear eC e5 hPs Ca Ba Ua k0 k1 k2 k3 hh0 HPL HB1 HB0 HG HX;obtain⟨k0,k1,k2,k3⟩:=qG HBa.out;go_upto_region 9 with (fail);refine wp_region_lit ?_;refine wpList_plain rfl (fun K hK=>?_);go_simp;refine hK _ _ ?_;clear hK K;try simp only[nr]
   refine qh rfl 46 _ _ rfl (by rfl) (by rfl) HRa.out xu (by rfl) (by rfl) (by rfl) ?_;intro wz Bz Uz;obtain⟨x0,x1,x2,x3⟩:=qG Bz;go_wp2;refine bodyPost_ret (v:=.tuple #[.agg #[.slice (some ⟨ga,0,none⟩) i c,.slice none 0 0,.int .i64 (-1),.bool false],.int .i64 0]) ?_ rfl ?_
   ·simp[results,x0,x1,x2,x3,go_sem]
   ·rw[hR.out];have Cz:=Uz.chg (NoU.mk HRa.out (by decide));refine⟨_,c,rfl,?_,Cz.ext HXa.out (by omega)⟩;obtain⟨G,h1,h2⟩:=HPa.out;refine⟨G,qI.low' (qI.chgT h1 Cz HRa.out (by decide)) (by have:=HGW.out;omega),fun j hj=>⟨by have:=(h2 j hj).1;have:=HGW.out;omega,?_⟩⟩;exact (Uz.block _ (neT HRa.out (h2 j hj).2 (by decide))).trans (h2 j hj).2
  have u5:decide ((i:Int)<(n:Int))=true:=q_t (by omega);obtain⟨k0,k1,k2,k3⟩:=qG HB1.out;obtain⟨G,hG0,hGP0⟩:=HG.out;have HGG:=q_h hG0;have HGP:=q_h hGP0;clear hG0 hGP0;go_upto_region 6 with (fail);have eC:=(Ext.refl wq).drew;refine ql (fun w'=>w'.cell? ⟨g,0,none⟩=some (.slice A i c)) [4,6] (by kernel_rfl) (by exact eC.cell k0) (fun hHeld=>?_);refine sP 0 (h:=?_);refine sT 1 (h:=?_);refine qg (i:=2) rfl (by kernel_rfl) (fun K hK=>?_);refine ZQ rfl _ _ rfl .i64 .i64 64 (by rfl) (by rfl) (by omega) ?_;intro w5 hP5 e5;have hP5q:=eC.size;replace eC:=eC.trans e5;clear hHeld;refine hK.out _ _ (by exact eC.cell k0) fun hHeld=>?_
  clear hK K;try simp only[nr]
  refine qg (i:=3) rfl (by kernel_rfl) (fun K hK=>?_);go_simp
  first|refine qo ?_|refine qY ?_
  intro w6 e6 hsz6 BX;replace eC:=eC.trans e6;clear hHeld;refine hK.out _ _ (by exact eC.cell k0) fun hHeld=>?_
  clear hK K;try simp only[nr]
  refine qC (i:=4) rfl (by kernel_rfl) (by kernel_rfl) (fun K hK=>?_);refine jP QY rfl _ _ 44 Tryz.underlying44 rfl (by rfl) (HGG.out.ext eC) (by rfl) (m:=1) (c:=1) rfl (jD BX) (by simp[Value.oneCell']) (by omega) (by simp;omega) ?_;rintro g9 cap9 w9 hG9 - ⟨g',hg',hw9,C9,-⟩;rw[List.length_map,List.length_range] at hG9 ⊢;have hB9:=C9.blk (eC.block HB1.out) (.inl (by omega));refine hK.out _ _ ?_;clear hK K;try simp only[nr]
  refine sP 5 (h:=?_);refine qC (i:=6) rfl (by kernel_rfl) (by kernel_rfl) (fun K hK=>?_);obtain⟨wa,Ea,Ba,Ua⟩:=qL hB9 0 (.slice (some ⟨g9,0,none⟩) (i+1) cap9);have f4:=qp hB9 0;have c4':=qj hB9 0;go_simp;try rw[Ea]
  clear f4 c4' Ea;refine hK.out _ _ ?_;clear hK K;try simp only[nr]
  refine qm (by kernel_rfl) ?_ _;clear hHeld;have Ca:=Ua.chg (NoU.mk hB9 (by decide))
  have HNE:Hid (∀q l,PgB w6 q l->PgB wa q l):=fun q l h=>by
   have h1:PgB w9 q l:=h.chg C9 (by have:=qI.ne (HGG.out.ext eC) hw9 h (by decide);omega);have h2:=neT hB9 h1 (by decide);exact (Ua.block q h2).trans h1
  have HGN:Hid (PgL (g+1) wa (.slice (some ⟨g9,0,none⟩) (i+1) cap9) (i+1) (fun _=>zrs 64)):=by
   refine PgL.snoc (G:=G) (g:=wq.drew.heap.size) (fun j hj=>⟨(HGP.out j hj).1,HNE.out _ _ ((HGP.out j hj).2.ext eC)⟩) (by have:=qK HB1.out;omega) (HNE.out _ _ (hP5.ext e6)) ?_;have h9:=qI.chgT hG9 Ca hB9 (by decide);exact h9
  have HXa:Hid (Ext w wa):=Ca.ext (C9.ext (HX.out.trans eC) (by have:=HGW.out;omega)) (by have:=HGW.out;omega);have HB0a:Hid (wa.heap[w.heap.size]?=some (.cells #[.slice none 0 0,.slice none 0 0,.int .i64 0,.bool false] 46 (0,0))):=(Ua.block _ (by have:=HGW.out;omega)).trans (C9.blk (eC.block HB0.out) (.inl (by have:=HGW.out;omega)));have HBa:=q_h Ba;clear eC hG9 hw9 C9 Ba Ua Ca hB9 BX e6 e5 hP5 k0 k1 k2 k3;go_wp2;go_roundw
  case rel=>exact⟨i+1,_,cap9,by omega,by go_num,HBa,HGN,HXa,HB0a⟩
  case measure=>simp[intOf];omega
def Qu (a:qX) (n:Nat):Bool:=!a.bar&&(decide (0<=a.page)&&(decide (a.page<(n:Int))&&decide (a.data.length=64)))
theorem wE {a:qX}{B:Option Addr}(hm:m=a.data.length):Calls Tryz.prog 90 #[.agg #[.int .i64 a.page,.slice B m d,.bool a.bar],.int .i64 (n:Int)] w (qH w (.bool (Qu a n))):=by
 obtain⟨r,hr⟩:=qf (Qu a n);rw[<-hr.out];unfold Qu at hr;obtain⟨pg,hpg⟩:=qf a.page;obtain⟨br,hbr⟩:=qf a.bar;rw[<-hpg.out,<-hbr.out,<-hm] at hr;rw[<-hpg.out,<-hbr.out];clear hm;go_enter Tryz.func90,Tryz.ntmps90;go_upto_region 1 with (fail);refine qo ?_;intro W hE hsz B0;obtain⟨p0,p1,p2⟩:=zO B0;cases br with
 | true =>
  have HR:Hid (r=false):=by rw[Hid,hr.out];rfl
  go_wp2
  first|go_ret|skip
  exact⟨qx HR.out.symm,hE⟩
 | false =>
  by_cases h1:0<=pg
  case neg =>
   have d1:decide (0<=pg)=false:=q_f h1;have HR:Hid (r=false):=by rw[Hid,hr.out,d1];rfl
   go_wp2
   first|go_ret|skip
   exact⟨qx HR.out.symm,hE⟩
  have d1:decide (0<=pg)=true:=q_t h1
  by_cases h2:pg<(n:Int)
  case neg =>
   have d2:decide (pg<(n:Int))=false:=q_f h2;have HR:Hid (r=false):=by rw[Hid,hr.out,d1,d2];rfl
   go_wp2
   first|go_ret|skip
   exact⟨qx HR.out.symm,hE⟩
  have d2:decide (pg<(n:Int))=true:=q_t h2;obtain⟨q,hq⟩:=qf (decide (m=64))
  have d3:((m:Int) == 64)=q:=by
   rw[hq.out]
   by_cases h3:m=64
   ·rw[q_t h3,h3];rfl
   ·rw[q_f h3];simp;omega
  have d4:decide ((m:Int)=64)=q:=by
   rw[hq.out]
   by_cases h3:m=64
   ·rw[q_t h3,h3];rfl
   ·rw[q_f h3];exact q_f (by omega)
  have HR:Hid (r=q):=by rw[Hid,hr.out,d1,d2,hq.out];rfl
  go_wp2
  first|go_ret|skip
  exact⟨qx HR.out.symm,hE⟩
theorem ZO {a:qX}{gn:Nat}{B:Option Addr}(hm:m=a.data.length) (hn:w.cell? ⟨gn,0,none⟩=some (.int .i64 (n:Int))):Calls Tryz.prog 140 #[.agg #[.int .i64 a.page,.slice B m d,.bool a.bar],.pointer (some ⟨gn,0,none⟩)] w (qH w (.bool (!Qu a n))):=by
 have HC:Hid (∀w',Calls Tryz.prog 90 #[.agg #[.int .i64 a.page,.slice B m d,.bool a.bar],.int .i64 (n:Int)] w' (qH w' (.bool (Qu a n)))):=fun w'=>wE hm
 obtain⟨r,hr⟩:=qf (Qu a n);obtain⟨pg,hpg⟩:=qf a.page;obtain⟨br,hbr⟩:=qf a.bar;rw[<-hpg.out,<-hbr.out,<-hr.out] at HC;rw[<-hpg.out,<-hbr.out,<-hr.out];clear hm;go_enter Tryz.func140,Tryz.ntmps140;go_upto_region 1 with (fail);refine qo ?_;intro W hE hsz B0;obtain⟨p0,p1,p2⟩:=zO B0;have q0:=hE.cell hn;go_wp2_with (go_at_call 90;refine q_o ?_);refine (HC.out W).mono ?_;rintro e w1 ⟨rfl,e1⟩;go_wp2
 first|go_ret|skip
 exact⟨rfl,hE.trans e1⟩
end
section
open Go.RowKit
def ZA (w:World) (v:Value) (n:Nat) (l:List qX):Prop:=n=l.length/\zJ w v l
def ActN (w:World) (v:Value) (a:qX):Prop:=∃B m d,v=.agg #[.int .i64 a.page,.slice B m d,.bool a.bar]/\ByV w (.slice B m d) a.data
section
variable {w w':World}{v:Value}{n:Nat}
theorem ZA.form {l:List qX}(h:ZA w v n l):∃A c,v=.slice A n c/\n<=c/\c<=maxLen:=by rw[h.1];exact h.2.form
theorem ZA.ext {l:List qX}(h:ZA w v n l) (e:Ext w w'):ZA w' v n l:=⟨h.1,h.2.ext e⟩
theorem ZA.addr{l:List qX}(h:ZA w (.slice A n c) n l) (h0:0<n):∃g off,A=some ⟨g,off,none⟩/\∀i,i<n->∃B m d,w.cell? ⟨g,off+i*3,none⟩=some (.int .i64 (l.getD i default).page)/\w.cell? ⟨g,off+i*3+1,none⟩=some (.slice B m d)/\w.cell? ⟨g,off+i*3+2,none⟩=some (.bool (l.getD i default).bar)/\ActN w (.agg #[.int .i64 (l.getD i default).page,.slice B m d,.bool (l.getD i default).bar]) (l.getD i default):=by
 obtain⟨g,off,h1,h2⟩:=zJ.at_ h.2 h.1 h0;refine⟨g,off,h1,fun i hi=>?_⟩;obtain⟨B,m,d,k0,k1,k2,hb⟩:=h2 i hi;exact⟨B,m,d,k0,k1,k2,B,m,d,rfl,hb⟩
end
theorem YF{l:List qX}(h:ZA w v n l){gq:Nat}(g:Nat->Bool)
  (hf:∀i,i<n->∀w' u,Ext w w'->ActN w' u (l.getD i default)->Calls Tryz.prog 140 #[u,.pointer (some ⟨gq,0,none⟩)] w' (qH w' (.bool (g i)))) :
  Calls Tryz.prog 181 #[v,.func (.func 140) #[] #[.pointer (some ⟨gq,0,none⟩)]] w (yt w (kH n g)):=by
 obtain⟨r,hr⟩:=qf (kH n g);rw[<-hr.out];obtain⟨A,c,rfl,hnc,hcm⟩:=h.form;unfold maxLen at hcm;have hI:=h;have HF:=q_h hf;clear h hf;go_enter Tryz.func181,Tryz.ntmps181;go_wp2
 go_loopw [8] (fun i wr=>∃k:Nat,k<=n/\i=.int .i64 k/\Hid (∀j,j<k->g j=false)/\Ext w wr) (fun i _=>n-(intOf i).toNat)
 case atStart=>exact⟨0,Nat.zero_le _,rfl,fun j hj=>absurd hj (by omega),Ext.refl w⟩
 case round =>
  obtain⟨k,hk,rfl,HA,hE⟩:=hrel
  by_cases hlt:k<n
  ·(obtain⟨b,off,rfl,hx⟩:=(hI.ext hE).addr (by omega));(obtain⟨A1,n1,c1,p0,p1,p2,hv⟩:=hx k hlt)
   clear hx;go_wp2_with (go_at_call 140;refine q_o ?_);refine (HF.out k hlt _ _ hE hv).mono ?_;rintro e w1 ⟨rfl,e1⟩;replace hE:=hE.trans e1;obtain⟨o,ho⟩:=qf (g k);rw[<-ho.out];cases o with
   | false =>
    go_wp2;go_roundw
    case rel=>exact⟨k+1,by omega,by go_num,kw (p:=fun j=>g j=false) HA.out ho.out.symm,hE⟩
    case measure=>simp[intOf];omega
   | true =>
    have HT:Hid (r=true):=by rw[Hid,hr.out];exact zF hlt ho.out.symm
    go_wp2;go_ret;exact⟨_,rfl,by rw[Hid,HT.out];symm;simp,hE⟩
  ·have HT:Hid (r=false):=by rw[Hid,hr.out];exact zg.2 (fun j hj=>HA.out j (by omega))
   go_wp2;go_ret;exact⟨_,rfl,by rw[Hid,HT.out];rfl,hE⟩
theorem WO{l:List qX}(h:ZA w v n l){gq:Nat}(g:Nat->Bool)
  (hf:∀i,i<n->∀w' u,Ext w w'->ActN w' u (l.getD i default)->Calls Tryz.prog 140 #[u,.pointer (some ⟨gq,0,none⟩)] w' (qH w' (.bool (g i)))) :
  Calls Tryz.prog 139 #[v,.func (.func 140) #[] #[.pointer (some ⟨gq,0,none⟩)]] w (qH w (.bool (kH n g))):=by
 obtain⟨r,hr⟩:=qf (kH n g);rw[<-hr.out];obtain⟨A,c,rfl,hnc,hcm⟩:=h.form;have hI:=h;have HF:=q_h hf;clear h hf;go_enter Tryz.func139,Tryz.ntmps139;go_wp2_with (go_at_call 181;refine q_o ?_);refine (YF hI (gq:=gq) g HF.out).mono ?_;rintro e w1 ⟨z,rfl,hz,e1⟩;rw[<-hr.out] at hz;go_wp2;go_ret;exact⟨qx hz.out.symm,e1⟩
end
section
open Go.RowKit
theorem jH.at_{l:List Byt}(h:jH w (.slice A n c) l) (hn:n=l.length) (h0:0<n):∃g off,A=some ⟨g,off,none⟩/\∀i,i<n->∃B m d,w.cell? ⟨g,off+i,none⟩=some (.slice B m d)/\m=(l.getD i []).length/\ByV w (.slice B m d) (l.getD i []):=by
 subst hn;obtain⟨g,off,h1,h2⟩:=Qm.addr h h0;refine⟨g,off,h1,fun i hi=>?_⟩;obtain⟨x,h3,h4⟩:=h2 i hi;obtain⟨B,d,rfl,-⟩:=h4.form;exact⟨_,_,_,h3,rfl,h4⟩
theorem yA {pages:List Byt}{acts:List qX}{left:Int}{dead:Bool}{B:Option Addr}(hP:jH w (.slice A n c) pages) (hn:n=pages.length) (h8:8<=n) (h9:n<=4096) (h64:∀i,i<n->(pages.getD i []).length=64)
  (hA:zJ w (.slice B m d) acts) (hm:m=acts.length) (hw:acts.all (Qu · n)=true) :
  Calls Tryz.prog 85 #[.agg #[.slice A n c,.slice B m d,.int .i64 left,.bool dead]] w (qH w (.bool true)):=by
 have HP:=q_h hP;have HN:=q_h hn;have H64:=q_h h64;have HA:=q_h hA
 have hnc:n<=c:=by
  obtain⟨A',c',h1,h2,-⟩:=hP.form;obtain⟨-,e1,e2⟩:=Value.slice.inj h1;omega
 have HCF:Hid (∀w' gn,Ext w w'->w'.cell? ⟨gn,0,none⟩=some (.int .i64 (n:Int))->Calls Tryz.prog 139 #[.slice B m d,.func (.func 140) #[] #[.pointer (some ⟨gn,0,none⟩)]] w' (qH w' (.bool false))):=fun w' gn e hc=>by
  have e1:kH m (fun i=>!Qu (acts.getD i default) n)=false:=by
   rw[hm,Qh default acts (Qu · n),hw]
   rfl
  rw[<-e1];refine WO (l:=acts) ⟨hm,hA.ext e⟩ _ (fun j hj w9 u e9 hu=>?_);obtain⟨B9,m9,d9,rfl,hb⟩:=hu;obtain⟨A9,c9,h1,-⟩:=hb.form;obtain⟨-,h2,-⟩:=Value.slice.inj h1;exact ZO h2 (e9.cell hc)
 clear hP hn h64 hA hm hw;have d1:decide ((n:Int)<8)=false:=q_f (by omega);have d2:decide ((4096:Int)<(n:Int))=false:=q_f (by omega);go_enter Tryz.func85,Tryz.ntmps85;go_upto_region 2 with (fail);refine zu ?_;intro W hE hsz B0 B1;have HX:=q_h hE;have HB0:=q_h B0;have HB1:=q_h B1;obtain⟨p0,p1,p2,p3⟩:=qG B0;obtain⟨q0,-⟩:=kK B1;clear hE B0 B1;go_wp2_with fail
 go_loopw [18] (fun iv wr=>∃i:Nat,i<=n/\iv=.int .i64 (i:Int)/\Hid (Ext W wr)) (fun iv _=>n-(intOf iv).toNat)
 case atStart=>exact⟨0,Nat.zero_le _,rfl,Ext.refl W⟩
 case round =>
  obtain⟨i,hi9,rfl,HE⟩:=hrel;clear p0 p1 p2 p3 q0;have HX2:=q_h (HX.out.trans HE.out)
  by_cases hlt:i<n
  case neg =>
   have u5:decide ((i:Int)<(n:Int))=false:=q_f (by omega);obtain⟨p0,p1,p2,p3⟩:=qG (HE.out.block HB0.out);obtain⟨q0,-⟩:=kK (HE.out.block HB1.out);go_wp2_with (go_at_call 139;refine q_o ?_);refine (HCF.out _ _ HX2.out q0).mono ?_;rintro e w5 ⟨rfl,e5⟩;go_wp2
   first|go_ret|skip
   exact⟨rfl,HX2.out.trans e5⟩
  have u5:decide ((i:Int)<(n:Int))=true:=q_t (by omega);have u6:(i:Int)<(n:Int):=by omega
  obtain⟨g,off,rfl,hx⟩:=HP.out.at_ HN.out (by omega);obtain⟨B9,m9,d9,k0,hm9,-⟩:=hx i hlt;have h64:m9=64:=hm9.trans (H64.out i hlt);subst h64;replace k0:=HX2.out.cell k0;clear hx hm9;go_wp2;go_roundw
  case rel=>exact⟨i+1,by omega,by go_num,HE⟩
  case measure=>simp[intOf];omega
def PgH (base:Nat) (w0 w:World) (v:Value) (l:List Byt):Prop:=∃xs:List Value,xs.length=l.length/\qB 27 base w v xs/\∀i (hi:i<xs.length),ByV w0 xs[i] (l.getD i [])
def q27 (w0 w:World) (l:List Byt) (e:Ending) (w':World):Prop:=∃v,e=.returned v/\PgH w.heap.size w0 w' v l/\Ext w w'
theorem YE {w0:World}{l:List Byt}(h:jH w0 v l) (hE0:Ext w0 w) (hl:l.length<=1000000):Calls Tryz.prog 30 #[v] w (q27 w0 w l):=by
 obtain⟨Rf,hRf⟩:=qf (q27 w0 w l);rw[<-hRf.out];have HE0:=q_h hE0;obtain⟨A,c,rfl,hnc,hcm⟩:=h.form;have HL:=q_h hl;have HS:=q_h h;obtain⟨n,hn⟩:=qf l.length;rw[<-hn.out] at hnc HS ⊢;have hnl:=fun (w:World) (a:Option Addr) (n c:Nat)=>Lib.run_eql_slice_nil (P:=Tryz.prog) w 44 27 a n c 0 0 Tryz.underlying44
 rcases A with _|ad
 ·have h0:n=0:=by
   rcases Nat.eq_zero_or_pos n with h0|h0
   ·exact h0
   ·rw[hn.out] at h0;obtain⟨b,off,h1,-⟩:=Qm.addr h h0;cases h1
  have h1:l=[]:=List.eq_nil_of_length_eq_zero (by have:=hn.out;omega);subst h1;clear h hl hcm hE0;go_enter Tryz.func30,Tryz.ntmps30;go_wp2
  first|go_ret|skip
  rw[hRf.out];exact⟨_,rfl,⟨[],rfl,qB.nil (q_r),fun i hi=>absurd hi (Nat.not_lt_zero i)⟩,Ext.refl w⟩
 ·obtain⟨xs,hxl,hxc,hxr⟩:∃xs:List Value,xs.length=n/\(0<n->∃b off,some ad=some ⟨b,off,none⟩/\∀j u,xs[j]?=some u->w.cell? ⟨b,off+j,none⟩=some u)/\∀i (hi:i<xs.length),ByV w0 xs[i] (l.getD i []):=by
   rcases Nat.eq_zero_or_pos n with h0|h0
   ·exact⟨[],h0.symm,fun h=>by omega,fun i hi=>absurd hi (Nat.not_lt_zero i)⟩
   ·obtain⟨g,off,e,hx⟩:=Qm.addr h (by have:=hn.out;omega);refine⟨(List.range n).map fun i=>(w0.cell? ⟨g,off+i,none⟩).getD (.slice none 0 0),by simp,fun _=>⟨g,off,e,fun j u hj=>?_⟩,fun i hi=>?_⟩
    ·have hjl:=(List.getElem?_eq_some_iff.1 hj).1;rw[List.length_map,List.length_range] at hjl;obtain⟨x,h1,-⟩:=hx j (by have:=hn.out;omega);rw[List.getElem?_map,List.getElem?_range hjl] at hj;have h2:some ((w0.cell? ⟨g,off+j,none⟩).getD (.slice none 0 0))=some u:=hj;rw[h1] at h2;rw[<-h2];exact hE0.cell h1
    ·rw[List.length_map,List.length_range] at hi;obtain⟨x,h1,h2⟩:=hx i (by have:=hn.out;omega);rw[List.getElem_map,List.getElem_range,h1];exact h2
  have HXC:=q_h hxc;have HXR:=q_h hxr
  have HON:Hid (∀u∈xs,u.oneCell'=true):=fun u hu=>by
   obtain⟨i,hi,rfl⟩:=List.getElem_of_mem hu;obtain⟨A',c',h1,-⟩:=(HXR.out i hi).form;rw[h1]
   rfl
  clear h hl hcm hE0 hxc hxr;go_enter Tryz.func30,Tryz.ntmps30;go_wp2_with (at_builtin;refine q_o ?_);refine qo ?_;intro W hE hsz B0;refine zC QY rfl _ _ 44 Tryz.underlying44 rfl (by rfl) (qB.empty (q_r) B0) (by rfl) (news:=xs) hxl (fun h0=>by obtain⟨b,off,h1,h2⟩:=HXC.out h0;exact⟨b,off,h1,fun j u hj=>hE.cell (h2 j u hj)⟩) HON.out (by have:=HL.out;have:=hn.out;simp;omega) ?_;rintro v2 w2 ⟨hG,-,g',hg',-,C2⟩;have hE2:=C2.ext hE (by omega);rw[List.nil_append] at hG;have HG:Hid (PgH w.heap.size w0 w2 v2 l):=⟨xs,by rw[hxl,hn.out],hG,HXR.out⟩
  clear hG;go_wp2
  first|go_ret|skip
  rw[hRf.out];exact⟨v2,rfl,HG.out,hE2⟩
def PgF (base:Nat) (w:World) (v:Value) (n:Nat) (P:Nat->Byt):Prop:=∃xs:List Value,xs.length=n/\qB 27 base w v xs/\∀i (hi:i<xs.length),ByU w xs[i] (P i)
theorem PgF.nil{P:Nat->Byt}(h:base<=w.heap.size):PgF base w (.slice none (0:Nat) 0) 0 P:=⟨[],rfl,qB.nil h,fun i hi=>absurd hi (Nat.not_lt_zero i)⟩
theorem PgF.ext{P:Nat->Byt}(h:PgF base w v n P) (e:Ext w w'):PgF base w' v n P:=by
 obtain⟨xs,h1,h2,h3⟩:=h;exact⟨xs,h1,h2.ext e,fun i hi=>(h3 i hi).ext e⟩
theorem PgF.low {b':Nat}{P:Nat->Byt}(h:PgF base w v n P) (hb:b'<=base):PgF b' w v n P:=by
 obtain⟨xs,h1,h2,h3⟩:=h;exact⟨xs,h1,h2.low hb,h3⟩
theorem PgF.congr{P P':Nat->Byt}(h:PgF base w v n P) (e:∀j,j<n->P j=P' j):PgF base w v n P':=by
 obtain⟨xs,h1,h2,h3⟩:=h;exact⟨xs,h1,h2,fun i hi=>by rw[<-e i (by omega)];exact h3 i hi⟩
theorem PgF.pgs{l:List Byt}(h:PgF base w v l.length (fun j=>l.getD j [])):jH w v l:=by
 obtain⟨xs,h1,h2,h3⟩:=h;have h9:=qB.l1 h2 (fun i x=>ByV w x (l.getD i [])) (fun i hi=>(h3 i hi).1);rw[h1] at h9;exact h9
theorem PgF.chgT{P:Nat->Byt}(h:PgF base w v n P) (C:Chg g (g+1) w w'){cs:Array Value}{t:TypeId}{fr:Nat×Nat}(hb:w.heap[g]?=some (.cells cs t fr)) (h1:t≠5) (h2:t≠27):PgF base w' v n P:=by
 obtain⟨xs,h3,h4,h5⟩:=h;exact⟨xs,h3,qI.chgT h4 C hb h2,fun i hi=>(h5 i hi).chgT C hb h1⟩
theorem PgF.app {ET:TypeId}{b0:Nat}{u:Value}{xs:List Value}{P:Nat->Byt}(h:PgF b0 w u m P) (hG:qI ET k base w v n xs) (h1:ET≠5) (h2:ET≠27) (hw:v.ownBlock=some g\/g=w.heap.size) (C:Chg g (g+1) w w'):PgF b0 w' u m P:=by
 obtain⟨ys,h3,h4,h5⟩:=h;refine⟨ys,h3,?_,fun i hi=>(h5 i hi).appD hG (fun e=>h1 e.symm) hw C⟩;refine qB.far h4 C fun k hk=>?_
 rcases h4.2.2 with ⟨e1,-⟩|⟨g0,cap,cur,hv,hb,hh,-⟩
 ·rw[e1] at hk;simp[Value.ownBlock] at hk
 ·rw[hv] at hk;obtain rfl:g0=k:=by simpa[Value.ownBlock] using hk
  have:=qI.ne hG hw hh (fun e=>h2 e.symm);omega
theorem PgF.snoc{v' y:Value}{xs:List Value}{P:Nat->Byt}(h1:xs.length=i) (hG:qB 27 base w v xs) (h3:∀j (hj:j<xs.length),ByU w xs[j] (P j)) (hy:ByU w y (P i))
  (hG':qB 27 base w' v' (xs ++ [y])) (hw:v.ownBlock=some g\/g=w.heap.size) (C:Chg g (g+1) w w'):PgF base w' v' (i+1) P:=by
 refine⟨xs ++ [y],by simp[h1],hG',fun j hj=>?_⟩
 by_cases hji:j<xs.length
 ·rw[List.getElem_append_left hji];exact (h3 j hji).app hG (by decide) hw C
 ·have hj2:j=xs.length:=by simp at hj;omega
  subst hj2;rw[List.getElem_append_right (q_r)];simp only[Nat.sub_self,List.getElem_cons_zero];rw[h1];exact hy.app hG (by decide) hw C
theorem PgF.set{y:Value}{P:Nat->Byt}{b:Byt}(h:PgF base w v n P) (hj:j<n) (hy:ByU w y b) :
  ∃(g0 c:Nat) (cur:Array Value) (old:Value),v=.slice (some ⟨g0,0,none⟩) n c/\base<=g0/\n<=c/\w.heap[g0]?=some (.cells cur 27 (0,0))/\cur[j]?=some old/\∀w',w'.heap[g0]?=some (.cells (cur.setIfInBounds j y) 27 (0,0))->Upd g0 w w'->PgF base w' v n (fun k=>if k=j then b else P k):=by
 obtain⟨xs,h1,hG,h3⟩:=h
 rcases hG.2.2 with ⟨-,h2⟩|⟨g0,cap,cur,hv,hb,hh,h4,h5,h6,h7⟩
 ·exfalso
  omega
 rw[h1] at hv h4 h7;rw[Nat.mul_one] at h6 h7
 have hcj:cur[j]?=some (xs[j]'(by omega)):=by
  have e1:(cur.toList.take n)[j]?=cur[j]?:=by rw[List.getElem?_take,if_pos hj,Array.getElem?_toList]
  rw[<-e1,h7,List.getElem?_eq_getElem (by omega)]
 refine⟨g0,cap,cur,_,hv,hb,h4,hh,hcj,fun w' hw' U=>?_⟩;have hup:∀(u:Value) (l:Byt),ByU w u l->ByU w' u l:=fun u l hu=>hu.upd U hh (by decide)
 refine⟨xs.set j y,by simp[h1],?_,fun i hi=>?_⟩
 ·refine⟨by rw[U.size];exact hG.1,by simp,.inr ⟨g0,cap,cur.setIfInBounds j y,by rw[hv];simp[h1],hb,hw',by simp[h1];omega,h5,by rw[Array.size_setIfInBounds];omega,?_⟩⟩;rw[List.length_set,h1,Nat.mul_one,Array.toList_setIfInBounds,List.take_set,h7]
 ·rw[List.getElem_set]
  by_cases hij:j=i
  ·rw[if_pos hij]
   show ByU w' y (if i=j then b else P i)
   rw[if_pos hij.symm];exact hup _ _ hy
  ·rw[if_neg hij]
   show ByU w' _ (if i=j then b else P i)
   rw[if_neg (fun e=>hij e.symm)];exact hup _ _ (h3 i (by simpa using hi))
theorem zG.at_{P:Nat->qX}(h:zG base w (.slice A n c) n P) (h0:0<n):∃g,A=some ⟨g,0,none⟩/\n<=c/\∀i,i<n->∃B m d,w.cell? ⟨g,i*3,none⟩=some (.int .i64 (P i).page)/\w.cell? ⟨g,i*3+1,none⟩=some (.slice B m d)/\w.cell? ⟨g,i*3+2,none⟩=some (.bool (P i).bar)/\ByU w (.slice B m d) (P i).data:=by
 obtain⟨D,h1,h2⟩:=h;obtain⟨g,cap,hv2,hb,hnc,-,hcell⟩:=h1.at_ h0;obtain⟨e1,-,e3⟩:=Value.slice.inj hv2;subst e1 e3;refine⟨g,rfl,hnc,fun i hi=>?_⟩;have hc:∀q,q<3->∀u,[Value.int .i64 (P i).page,D i,.bool (P i).bar][q]?=some u->w.cell? ⟨g,i*3+q,none⟩=some u:=fun q hq u hu=>hcell _ u ((XJ _ D q hq _ i hi).trans hu)
 obtain⟨B,d,hD,-⟩:=(h2 i hi).1.form;have h9:=h2 i hi;rw[hD] at h9;exact⟨B,_,d,hc 0 (by omega) _ rfl,hc 1 (by omega) _ (by rw[<-hD];rfl),hc 2 (by omega) _ rfl,h9⟩
theorem zG.nil{P:Nat->qX}(h:base<=w.heap.size):zG base w (.slice none (0:Nat) 0) 0 P:=⟨fun _=>.int .i64 0,⟨h,rfl,.inl ⟨rfl,rfl⟩⟩,fun j hj=>by omega⟩
structure Med where
 pages:List Byt
 acts:List qX
 left:Int
 dead:Bool
structure xC (m:Med):Prop where
 lo:8<=m.pages.length
 hi:m.pages.length<=4096
 wh:∀i,i<m.pages.length->(m.pages.getD i []).length=64
 ac:m.acts.all (Qu · m.pages.length)=true
def MdF (base:Nat) (w:World) (x y:Value) (m:Med):Prop:=PgF base w x m.pages.length (fun j=>m.pages.getD j [])/\zG base w y m.acts.length (fun j=>m.acts.getD j default)
theorem MdF.ext{x y:Value}{m:Med}(h:MdF base w x y m) (e:Ext w w'):MdF base w' x y m:=⟨h.1.ext e,h.2.ext e⟩
theorem MdF.low {b':Nat}{x y:Value}{m:Med}(h:MdF base w x y m) (hb:b'<=base):MdF b' w x y m:=⟨h.1.low hb,h.2.low hb⟩
theorem MdF.pgs{x y:Value}{m:Med}(h:MdF base w x y m):jH w x m.pages:=h.1.pgs
theorem MdF.acts{x y:Value}{m:Med}(h:MdF base w x y m):zJ w y m.acts:=h.2.acts
theorem xJ {a:qX}(h:Qu a n=true):a.bar=false/\0<=a.page/\a.page<(n:Int)/\a.data.length=64:=by
 unfold Qu at h;simp only[Bool.and_eq_true,decide_eq_true_eq,Bool.not_eq_true'] at h;obtain⟨h1,h2,h3,h4⟩:=h;exact⟨h1,h2,h3,h4⟩
theorem xC.act {m:Med}(h:xC m)(hi:i<m.acts.length):Qu (m.acts.getD i default) m.pages.length=true:=by
 have:=List.all_eq_true.1 h.ac (m.acts.getD i default) (by rw[List.getD_eq_getElem?_getD,List.getElem?_eq_getElem hi];exact List.getElem_mem hi);exact this
def actJ (l:List qX) (j:Nat):qX:=⟨(l.getD j default).page,(l.getD j default).data,false⟩
def Wh (m:Med) (w:World) (e:Ending) (w':World):Prop:=∃A c B d,e=.returned (.agg #[.slice A m.pages.length c,.slice B m.acts.length d,.int .i64 m.left,.bool m.dead])/\MdF w.heap.size w' (.slice A m.pages.length c) (.slice B m.acts.length d) m/\Ext w w'
theorem Qx {m:Med}{B:Option Addr}(hP:jH w (.slice A n c) m.pages) (hn:n=m.pages.length) (hA:zJ w (.slice B k d) m.acts) (hk:k=m.acts.length) (hm:xC m) (hak:k<=1000) :
  Calls Tryz.prog 91 #[.agg #[.slice A n c,.slice B k d,.int .i64 m.left,.bool m.dead]] w (Wh m w):=by
 obtain⟨R,hR⟩:=qf (Wh m w);rw[<-hR.out];have HP:=q_h hP;have HN:=q_h hn;have HA:=q_h hA;have HK:=q_h hk;have HM:=q_h hm;have hn1:n<=4096:=by have:=hm.hi;omega
 have hnc:n<=c:=by
  obtain⟨A',c',h1,h2,-⟩:=hP.form;obtain⟨-,e1,e2⟩:=Value.slice.inj h1;omega
 have hkd:k<=d:=by
  obtain⟨A',c',h1,h2,-⟩:=hA.form;obtain⟨-,e1,e2⟩:=Value.slice.inj h1;omega
 obtain⟨left,hleft⟩:=qf m.left;obtain⟨dead,hdead⟩:=qf m.dead;rw[<-hleft.out,<-hdead.out];clear hP hn hA hk hm;go_enter Tryz.func91,Tryz.ntmps91;go_upto_region 1 with (fail);refine zu ?_;intro W1 hE1 hsz1 B0 B1;have HX1:=q_h hE1;have HB0:=q_h B0;have HB1:=q_h B1;clear hE1 B0 B1;obtain⟨p0,p1,p2,p3⟩:=qG HB0.out;go_upto_region 2 with (fail);refine qo ?_;intro W e2 hsz2 B2;obtain⟨g,hg⟩:=qf W1.heap.size;rw[<-hg.out] at B2 ⊢;have HGW:Hid (w.heap.size+1<g):=by rw[Hid,hg.out];omega
 have HX:=q_h (HX1.out.trans e2);have HW0:=q_h (e2.block HB0.out);have HW1:=q_h (e2.block HB1.out);have HW2:=q_h B2;have HG0:Hid (PgF (g+1) W (.slice none (0:Nat) 0) 0 (fun j=>m.pages.getD j [])):=PgF.nil (by have:=hg.out;omega);clear e2 B2 HX1 HB0 HB1 p0 p1 p2 p3 hsz1 hsz2;obtain⟨p0,p1,p2,p3⟩:=qG HW0.out;go_wp2_with fail;clear p0 p1 p2 p3
 go_loopw [16] (fun iv wr=>∃(i:Nat) (A':Option Addr) (c':Nat),i<=n/\iv=.int .i64 (i:Int)/\Hid (wr.heap[g]?=some (.cells #[.slice A' i c',.slice none 0 0,.int .i64 left,.bool dead] 46 (0,0)))/\Hid (PgF (g+1) wr (.slice A' i c') i (fun j=>m.pages.getD j []))/\Hid (Ext w wr)/\Hid (wr.heap[w.heap.size]?=some (.cells #[.slice A n c,.slice B k d,.int .i64 left,.bool dead] 46 (0,0)))/\Hid (wr.heap[w.heap.size+1]?=some (.cells #[.slice none 0 0,.slice none 0 0,.int .i64 0,.bool false] 46 (0,0)))) (fun iv _=>n-(intOf iv).toNat)
 case atStart=>exact⟨0,none,0,Nat.zero_le _,rfl,HW2,HG0,HX,HW0,HW1⟩
 case round =>
  clear HW2 HG0 HX HW0 HW1;obtain⟨i,A',c',hi9,rfl,HB2,HG,HX,HB0,HB1⟩:=hrel;obtain⟨wq,hwq⟩:∃wq,wq=wr:=⟨_,rfl⟩
  subst hwq
  by_cases hlt:i<n
  case neg =>
   obtain rfl:i=n:=by omega
   have u5:decide ((i:Int)<(i:Int))=false:=q_f (by omega);have HAL0:Hid (zG (g+1) wq (.slice none 0 0) 0 (actJ m.acts)):=⟨fun _=>.int .i64 0,⟨by have:=qK HB2.out;omega,rfl,.inl ⟨rfl,rfl⟩⟩,fun j hj=>by omega⟩
   obtain⟨p0,p1,p2,p3⟩:=qG HB0.out;go_wp2_with fail;clear p0 p1 p2 p3
   go_loopw [31] (fun iv wr=>∃(j:Nat) (B':Option Addr) (d':Nat),j<=k/\iv=.int .i64 (j:Int)/\Hid (wr.heap[g]?=some (.cells #[.slice A' i c',.slice B' j d',.int .i64 left,.bool dead] 46 (0,0)))/\Hid (PgF (g+1) wr (.slice A' i c') i (fun j=>m.pages.getD j []))/\Hid (zG (g+1) wr (.slice B' j d') j (actJ m.acts))/\Hid (Ext w wr)/\Hid (wr.heap[w.heap.size+1]?=some (.cells #[.slice none 0 0,.slice none 0 0,.int .i64 0,.bool false] 46 (0,0)))) (fun iv _=>k-(intOf iv).toNat)
   case atStart=>exact⟨0,none,0,Nat.zero_le _,rfl,HB2,HG,HAL0,HX,HB1⟩
   case round =>
    clear HB2 HG HAL0 HX HB1 HB0;obtain⟨j,B',d',hj9,rfl,HB2,HG,HAL,HX,HB1⟩:=hrel;obtain⟨wp,hwp⟩:∃wp,wp=wr:=⟨_,rfl⟩
    subst hwp
    by_cases hlk:j<k
    case neg =>
     obtain rfl:j=k:=by omega
     have u6:decide ((j:Int)<(j:Int))=false:=q_f (by omega);obtain⟨k0,k1,k2,k3⟩:=qG HB2.out;go_upto_region 12 with (fail);refine wp_region_lit ?_;refine wpList_plain rfl (fun K hK=>?_);go_simp;refine hK _ _ ?_;clear hK K;try simp only[nr]
     refine qh rfl 46 _ _ rfl (by rfl) (by rfl) HB1.out xu (by rfl) (by rfl) (by rfl) ?_;intro wz Bz Uz;obtain⟨x0,x1,x2,x3⟩:=qG Bz;go_wp2;refine bodyPost_ret (v:=.agg #[.slice A' i c',.slice B' j d',.int .i64 left,.bool dead]) ?_ rfl ?_
     ·simp[results,x0,x1,x2,x3,go_sem]
     ·rw[hR.out];have Cz:=Uz.chg (NoU.mk HB1.out (by decide));have hL:zG (g+1) wz (.slice B' j d') j (actJ m.acts):=HAL.out.chgT Cz HB1.out (by decide) (by decide);have hPz:=HG.out.chgT Cz HB1.out (by decide) (by decide);unfold Wh;rw[<-hleft.out,<-hdead.out,<-HN.out,<-HK.out];refine⟨_,_,_,_,rfl,⟨?_,?_⟩,Cz.ext HX.out (by omega)⟩
      ·rw[<-HN.out];exact hPz.low (by have:=HGW.out;omega)
      ·rw[<-HK.out];refine (hL.low (by have:=HGW.out;omega)).congr fun q hq=>?_
       have:=(xJ (HM.out.act (i:=q) (by have:=HK.out;omega))).1
       show (⟨(m.acts.getD q default).page,(m.acts.getD q default).data,false⟩:qX)=_
       rw[<-this]
    have u6:decide ((j:Int)<(k:Int))=true:=q_t (by omega);have u7:(j:Int)<(k:Int):=by omega
    obtain⟨ga,oa,rfl,hx⟩:=(HA.out.ext HX.out).at_ HK.out (by omega);obtain⟨E9,m9,d9,a0,a1,a2,hb9⟩:=hx j hlk;have HBY:=q_h hb9;clear hx hb9;obtain⟨pgj,hpgj⟩:=qf (m.acts.getD j default).page;obtain⟨brj,hbrj⟩:=qf (m.acts.getD j default).bar;rw[<-hpgj.out] at a0;rw[<-hbrj.out] at a2
    have hl9:(m.acts.getD j default).data.length<=1000000:=by
     have:=(xJ (HM.out.act (i:=j) (by have:=HK.out;omega))).2.2.2;omega
    go_upto_region 10 with (fail);refine qo ?_;intro wt et hszt BT;obtain⟨gt,hgt⟩:=qf wp.heap.size;rw[<-hgt.out] at BT ⊢;have HT:=q_h BT;have HB2t:=q_h (et.block HB2.out);have HB1t:=q_h (et.block HB1.out);have HXt:=q_h (HX.out.trans et);have HGt:=q_h (HG.out.ext et);have HALt:=q_h (HAL.out.ext et);have HBYt:=q_h (HBY.out.ext et);clear BT et hszt HB2 HB1 HX HG HAL HBY a0 a1 a2;obtain⟨k0,k1,k2,k3⟩:=qG HB2t.out;obtain⟨t0,t1,t2⟩:=zO HT.out;obtain⟨D,hD,hDB⟩:=HALt.out;have HD:=q_h hD;have HDB:=q_h hDB;clear hD hDB HALt;have eC:=(Ext.refl wt).drew;refine ql (fun w'=>w'.cell? ⟨g,1,none⟩=some (.slice B' j d')/\w'.cell? ⟨gt,0,none⟩=some (.int .i64 pgj)/\w'.cell? ⟨gt,1,none⟩=some (.slice E9 m9 d9)) [9,11] (by kernel_rfl) (by exact⟨eC.cell k1,eC.cell t0,eC.cell t1⟩) (fun hHeld=>?_);refine sP 0 (h:=?_);refine sT 1 (h:=?_);refine sP 2 (h:=?_);refine sT 3 (h:=?_);refine sP 4 (h:=?_);refine sT 5 (h:=?_);refine qg (i:=6) rfl (by kernel_rfl) (fun K hK=>?_);go_simp;refine (yh (HBYt.out.ext eC) hl9).mono ?_;rintro e w5 ⟨v5,rfl,hG5,e5⟩;obtain⟨A5,c5,rfl,-⟩:=hG5.by.form
    replace eC:=eC.trans e5;go_wp2_with fail;clear hHeld;refine hK.out _ _ (by exact⟨eC.cell k1,eC.cell t0,eC.cell t1⟩) fun hHeld=>?_
    clear hK K;try simp only[nr]
    refine sP 7 (h:=?_);refine qg (i:=8) rfl (by kernel_rfl) (fun K hK=>?_);go_simp
    first|refine qo ?_|refine qY ?_
    intro w6 e6 hsz6 BX;replace eC:=eC.trans e6;clear hHeld;refine hK.out _ _ (by exact⟨eC.cell k1,eC.cell t0,eC.cell t1⟩) fun hHeld=>?_
    clear hK K;try simp only[nr]
    refine qC (i:=9) rfl (by kernel_rfl) (by kernel_rfl) (fun K hK=>?_);refine zl yI rfl _ _ 33 Tryz.underlying33 rfl (by rfl) (HD.out.ext eC) (by rfl) (m:=1) (c:=1) (news:=[.int .i64 pgj,.slice A5 (m.acts.getD j default).data.length c5,.bool false]) rfl (fun q u hq=>(zq BX q).trans (by simpa using hq)) (by simp[Value.oneCell']) (by omega) ?_;rintro v9 w9 hG9 - ⟨g',hg',hw9,C9⟩;have hA9:zG (g+1) w9 v9 (j+1) (actJ m.acts):=zG.snoc (HD.out.ext eC) (fun q hq=>(HDB.out q hq).ext eC) ((hG5.ext e6).u) (by rw[hpgj.out] at hG9;exact hG9) hw9 C9;have hP9:PgF (g+1) w9 (.slice A' i c') i (fun j=>m.pages.getD j []):=(HGt.out.ext eC).app (HD.out.ext eC) (by decide) (by decide) hw9 C9;have hB9:=C9.blk (eC.block HB2t.out) (.inl (by omega));have hB19:=C9.blk (eC.block HB1t.out) (.inl (by have:=HGW.out;omega));have hX9:=C9.ext (HXt.out.trans eC) (by have:=HGW.out;omega);obtain⟨A9,c9,rfl,-⟩:=hA9.form;refine hK.out _ _ ?_;clear hK K;try simp only[nr]
    refine sP 10 (h:=?_);refine qC (i:=11) rfl (by kernel_rfl) (by kernel_rfl) (fun K hK=>?_);obtain⟨wa,Ea,Ba,Ua⟩:=qL hB9 1 (.slice A9 (j+1) c9);have f4:=qp hB9 1;have c4':=qj hB9 1;go_simp;try rw[Ea]
    clear f4 c4' Ea;refine hK.out _ _ ?_;clear hK K;try simp only[nr]
    refine qm (by kernel_rfl) ?_ _;clear hHeld;have Ca:=Ua.chg (NoU.mk hB9 (by decide));have HGa:=q_h (hP9.chgT Ca hB9 (by decide) (by decide));have HALa:=q_h (hA9.chgT Ca hB9 (by decide) (by decide));have HXa:Hid (Ext w wa):=Ca.ext hX9 (by have:=HGW.out;omega);have HB1a:=q_h ((Ua.block _ (by have:=HGW.out;omega)).trans hB19);have HB2a:Hid (wa.heap[g]?=some (.cells #[.slice A' i c',.slice A9 (j+1) c9,.int .i64 left,.bool dead] 46 (0,0))):=Ba;clear eC Ca Ua Ba hB9 hB19 hX9 hP9 hA9 hG9 hw9 C9 BX e6 e5 hG5 k0 k1 k2 k3 t0 t1 t2;go_wp2;go_roundw
    case rel=>exact⟨j+1,_,c9,by omega,by go_num,HB2a,HGa,HALa,HXa,HB1a⟩
    case measure=>simp[intOf];omega
  have u5:decide ((i:Int)<(n:Int))=true:=q_t (by omega);have u6:(i:Int)<(n:Int):=by omega
  obtain⟨ga,oa,rfl,hx⟩:=(HP.out.ext HX.out).at_ HN.out (by omega);obtain⟨B9,m9,d9,a0,hm9,hb9⟩:=hx i hlt;have HBY:=q_h hb9;have hl9:(m.pages.getD i []).length<=1000000:=by have:=HM.out.wh i (by have:=HN.out;omega);omega
  clear hx hm9 hb9;obtain⟨k0,k1,k2,k3⟩:=qG HB2.out;obtain⟨xs,hxl,hxG,hxB⟩:=HG.out;have HGG:=q_h hxG;have HGB:=q_h hxB;clear hxG hxB;go_upto_region 5 with (fail);have eC:=(Ext.refl wq).drew;refine ql (fun w'=>w'.cell? ⟨g,0,none⟩=some (.slice A' i c')) [5,7] (by kernel_rfl) (by exact eC.cell k0) (fun hHeld=>?_);refine sP 0 (h:=?_);refine sT 1 (h:=?_);refine sP 2 (h:=?_);refine qg (i:=3) rfl (by kernel_rfl) (fun K hK=>?_);go_simp;refine (yh (HBY.out.ext eC) hl9).mono ?_;rintro e w5 ⟨v5,rfl,hG5,e5⟩;obtain⟨A5,c5,rfl,-⟩:=hG5.by.form
  replace eC:=eC.trans e5;go_wp2_with fail;clear hHeld;refine hK.out _ _ (by exact eC.cell k0) fun hHeld=>?_
  clear hK K;try simp only[nr]
  refine qg (i:=4) rfl (by kernel_rfl) (fun K hK=>?_);go_simp
  first|refine qo ?_|refine qY ?_
  intro w6 e6 hsz6 BX;replace eC:=eC.trans e6;clear hHeld;refine hK.out _ _ (by exact eC.cell k0) fun hHeld=>?_
  clear hK K;try simp only[nr]
  refine qC (i:=5) rfl (by kernel_rfl) (by kernel_rfl) (fun K hK=>?_);refine jP QY rfl _ _ 44 Tryz.underlying44 rfl (by rfl) (HGG.out.ext eC) (by rfl) (m:=1) (c:=1) rfl (jD BX) (by simp[Value.oneCell']) (by omega) (by omega) ?_;rintro g9 cap9 w9 hG9 hw9 ⟨g',hg',hw9',C9,-⟩;rw[hxl] at hG9 ⊢;have hP9:PgF (g+1) w9 (.slice (some ⟨g9,0,none⟩) (i+1) cap9) (i+1) (fun j=>m.pages.getD j []):=PgF.snoc hxl (HGG.out.ext eC) (fun q hq=>(HGB.out q hq).ext eC) ((hG5.ext e6).u) hG9 hw9' C9;have hB9:=C9.blk (eC.block HB2.out) (.inl (by omega));have hB19:=C9.blk (eC.block HB1.out) (.inl (by have:=HGW.out;omega));have hB09:=C9.blk (eC.block HB0.out) (.inl (by have:=HGW.out;omega));have hX9:=C9.ext (HX.out.trans eC) (by have:=HGW.out;omega);refine hK.out _ _ ?_;clear hK K;try simp only[nr]
  refine sP 6 (h:=?_);refine qC (i:=7) rfl (by kernel_rfl) (by kernel_rfl) (fun K hK=>?_);obtain⟨wa,Ea,Ba,Ua⟩:=qL hB9 0 (.slice (some ⟨g9,0,none⟩) (i+1) cap9);have f4:=qp hB9 0;have c4':=qj hB9 0;go_simp;try rw[Ea]
  clear f4 c4' Ea;refine hK.out _ _ ?_;clear hK K;try simp only[nr]
  refine qm (by kernel_rfl) ?_ _;clear hHeld;have Ca:=Ua.chg (NoU.mk hB9 (by decide));have HGa:=q_h (hP9.chgT Ca hB9 (by decide) (by decide));have HXa:Hid (Ext w wa):=Ca.ext hX9 (by have:=HGW.out;omega);have HB0a:=q_h ((Ua.block _ (by have:=HGW.out;omega)).trans hB09);have HB1a:=q_h ((Ua.block _ (by have:=HGW.out;omega)).trans hB19);have HB2a:Hid (wa.heap[g]?=some (.cells #[.slice (some ⟨g9,0,none⟩) (i+1) cap9,.slice none 0 0,.int .i64 left,.bool dead] 46 (0,0))):=Ba;clear eC Ca Ua Ba hB9 hB19 hB09 hX9 hP9 hG9 hw9 hw9' C9 BX e6 e5 hG5 k0 k1 k2 k3 a0;go_wp2;go_roundw
  case rel=>exact⟨i+1,_,cap9,by omega,by go_num,HB2a,HGa,HXa,HB0a,HB1a⟩
  case measure=>simp[intOf];omega
def zk (p:List Byt) (a:List qX):List Byt:=a.foldl (fun p x=>p.set x.page.toNat x.data) p
theorem x8 (a:List qX):∀p:List Byt,(zk p a).length=p.length:=by
 induction a with
 | nil=>intro p;rfl
 | cons x r ih=>intro p;show (zk (p.set _ _) r).length=_;rw[ih,List.length_set]
theorem Qe (p:List Byt) (a:List qX) (x:qX):zk p (a ++ [x])=(zk p a).set x.page.toNat x.data:=by
 unfold zk;rw[List.foldl_append]
 rfl
theorem y7 (p:List Byt) (a:Nat) (b:Byt) (h:a<p.length) (q:Nat):(p.set a b).getD q []=if q=a then b else p.getD q []:=by
 rw[List.getD_eq_getElem?_getD,List.getElem?_set]
 by_cases h1:a=q
 ·subst h1;rw[if_pos rfl,if_pos h,if_pos rfl]
  rfl
 ·rw[if_neg h1,if_neg (fun e=>h1 e.symm),List.getD_eq_getElem?_getD]
def stepM (m:Med) (a:qX):Med :=
 if a.bar then ⟨zk m.pages m.acts,[],(if 0<m.left then m.left-1 else m.left),m.dead⟩ else ⟨m.pages,m.acts ++ [⟨a.page,a.data,false⟩],(if 0<m.left then m.left-1 else m.left),m.dead⟩
def YW:Med->List qX->Med×Int
 | m,[]=>(m,0)
 | m,a :: r=>if m.left=0 then (⟨m.pages,m.acts,m.left,true⟩,16) else YW (stepM m a) r
def xn (m:Med) (l:List qX):Med×Int:=if m.dead then (m,16) else YW m l
def Wn (a:qX) (n:Nat):Bool:=Qu a n||(a.bar&&(decide (a.page=0)&&decide (a.data.length=0)))
theorem xC.apply {p:List Byt}(h8:∀i,i<p.length->(p.getD i []).length=64):∀(a:List qX),a.all (Qu · p.length)=true->∀i,i<p.length->((zk p a).getD i []).length=64:=by
 intro a
 induction a generalizing p with
 | nil=>intro _ i hi;exact h8 i hi
 | cons x r ih =>
  intro ha i hi;rw[List.all_cons,Bool.and_eq_true] at ha;obtain⟨h1,h2,h3,h4⟩:=xJ ha.1;have hl:(p.set x.page.toNat x.data).length=p.length:=List.length_set
  show ((zk (p.set x.page.toNat x.data) r).getD i []).length=64
  refine ih (p:=p.set x.page.toNat x.data) (fun j hj=>?_) (by rw[hl];exact ha.2) i (by rw[hl];exact hi);rw[y7 p _ _ (by omega)]
  by_cases hjx:j=x.page.toNat
  ·rw[if_pos hjx];exact h4
  ·rw[if_neg hjx];exact h8 j (by rw[hl] at hj;exact hj)
theorem ZR (m:Med) (a:qX):(stepM m a).pages.length=m.pages.length:=by
 unfold stepM
 split
 ·exact x8 _ _
 ·rfl
theorem xC.step {m:Med}{a:qX}(h:xC m) (ha:Wn a m.pages.length=true):xC (stepM m a):=by
 have hl:=ZR m a;refine⟨by rw[hl];exact h.lo,by rw[hl];exact h.hi,fun i hi=>?_,?_⟩
 ·rw[hl] at hi;unfold stepM
  split
  ·exact xC.apply h.wh m.acts h.ac i hi
  ·exact h.wh i hi
 ·rw[hl];unfold stepM
  split
  ·rfl
  ·rename_i hb
   rw[List.all_append,Bool.and_eq_true];refine⟨h.ac,?_⟩;unfold Wn at ha;have hb2:a.bar=false:=by simpa using hb
   rw[hb2] at ha;simp only[Bool.false_and,Bool.or_false] at ha;obtain⟨h1,h2,h3,h4⟩:=xJ ha;rw[List.all_cons];unfold Qu;simp[h2,h3,h4]
theorem JO (m:Med) (a:qX):(stepM m a).acts.length<=m.acts.length+1:=by
 unfold stepM
 split
 ·exact Nat.zero_le _
 ·simp
theorem XI {l:List qX}(h:l.all (Wn · n)=true)(hi:i<l.length):Wn (l.getD i default) n=true :=
 List.all_eq_true.1 h (l.getD i default) (by rw[List.getD_eq_getElem?_getD,List.getElem?_eq_getElem hi];exact List.getElem_mem hi)
theorem QD (m:Med) (l:List qX)(hi:i<l.length):YW m (l.drop i)=if m.left=0 then (⟨m.pages,m.acts,m.left,true⟩,16) else YW (stepM m (l.getD i default)) (l.drop (i+1)):=by
 have e1:l.drop i=l.getD i default :: l.drop (i+1):=by
  rw[List.drop_eq_getElem_cons hi,List.getD_eq_getElem?_getD,List.getElem?_eq_getElem hi]
  rfl
 rw[e1]
 rfl
def vC (r:Med×Int) (w:World) (e:Ending) (w':World):Prop:=∃A c B d,e=.returned (.tuple #[.agg #[.slice A r.1.pages.length c,.slice B r.1.acts.length d,.int .i64 r.1.left,.bool r.1.dead],.int .i64 r.2])/\MdF w.heap.size w' (.slice A r.1.pages.length c) (.slice B r.1.acts.length d) r.1/\Ext w w'
theorem vC.mk {r:Med×Int}{mi:Med}{l9:Int}{k9:Nat}{q9:Bool}{B:Option Addr}(hr:r=(mi,z)) (h1:mi.pages.length=n) (h2:mi.acts.length=k9) (h3:mi.left=l9) (h4:mi.dead=q9) (hM:MdF w.heap.size w' (.slice A n c) (.slice B k9 d) mi) (e:Ext w w'):vC r w (.returned (.tuple #[.agg #[.slice A n c,.slice B k9 d,.int .i64 l9,.bool q9],.int .i64 z])) w':=by
 subst hr h1 h2 h3 h4;exact⟨A,c,B,d,rfl,hM,e⟩
structure PfI (r:Med×Int) (l:List qX) (n k:Nat) (mi:Med) (i k9:Nat) (l9:Int):Prop where
 ok:xC mi
 pg:mi.pages.length=n
 ac:mi.acts.length=k9
 le:mi.left=l9
 de:mi.dead=false
 go:YW mi (l.drop i)=r
 bd:k9<=k+i
 b1 : -9223372036854775808<=l9
 b2:l9<=9223372036854775807
theorem PfI.stop {r:Med×Int}{l:List qX}{mi:Med}{k9:Nat}(h:PfI r l n k mi i k9 0) (hi:i<l.length):r=(⟨mi.pages,mi.acts,0,true⟩,16):=by
 have h1:=h.go;rw[QD _ _ hi,if_pos h.le,h.le] at h1;exact h1.symm
def Kt (l9:Int):Int:=if 0<l9 then l9-1 else l9
theorem PfI.step {r:Med×Int}{l:List qX}{mi:Med}{k9:Nat}{l9:Int}(h:PfI r l n k mi i k9 l9) (hi:i<l.length) (h0:¬l9=0) (hal:l.all (Wn · n)=true):PfI r l n k (stepM mi (l.getD i default)) (i+1) (stepM mi (l.getD i default)).acts.length (Kt l9):=by
 have ha:Wn (l.getD i default) mi.pages.length=true:=by rw[h.pg];exact XI hal hi
 refine⟨h.ok.step ha,by rw[ZR,h.pg],rfl,?_,?_,?_,?_,?_,?_⟩
 ·have:=h.le;unfold stepM Kt
  split<;>(show (if 0<mi.left then mi.left-1 else mi.left)=_;rw[this])
 ·have:=h.de;unfold stepM
  split<;>exact this
 ·have h1:=h.go;rw[QD _ _ hi,if_neg (by rw[h.le];exact h0)] at h1;exact h1
 ·have:=JO mi (l.getD i default);have:=h.ac;have:=h.bd;omega
 ·have:=h.b1;unfold Kt
  split<;>omega
 ·have:=h.b2;unfold Kt
  split<;>omega
theorem YA {m:Med}{a:qX}(h:a.bar=true):(stepM m a).pages=zk m.pages m.acts/\(stepM m a).acts=[]:=by
 unfold stepM;rw[if_pos h];exact⟨rfl,rfl⟩
theorem WI {m:Med}{a:qX}(h:a.bar=false):(stepM m a).pages=m.pages/\(stepM m a).acts=m.acts ++ [⟨a.page,a.data,false⟩]:=by
 unfold stepM;rw[if_neg (by rw[h];simp)];exact⟨rfl,rfl⟩
theorem X9 {m:Med}{l:List qX}{k2 d2:Nat}{B C:Option Addr}(hP:jH w (.slice A n c) m.pages) (hn:n=m.pages.length) (hA:zJ w (.slice B k d) m.acts) (hk:k=m.acts.length) (hm:xC m)
  (hL:zJ w (.slice C k2 d2) l) (hk2:k2=l.length) (hal:l.all (Wn · m.pages.length)=true) (hak:k+k2<=900) (hle:m.left<=9223372036854775807) (hle2 : -9223372036854775808<=m.left) :
  Calls Tryz.prog 23 #[.agg #[.slice A n c,.slice B k d,.int .i64 m.left,.bool m.dead],.slice C k2 d2] w (vC (xn m l) w):=by
 obtain⟨R,hR⟩:=qf (vC (xn m l) w);rw[<-hR.out];have HP:=q_h hP;have HN:=q_h hn;have HA:=q_h hA;have HK:=q_h hk;have HM:=q_h hm;have HL:=q_h hL;have HK2:=q_h hk2;have HAL:=q_h hal;have HLE:=q_h (And.intro hle2 hle);have hn1:n<=4096:=by have:=hm.hi;omega
 obtain⟨left,hleft⟩:=qf m.left;obtain⟨dead,hdead⟩:=qf m.dead;have HCV:Hid (∀w',Ext w w'->Calls Tryz.prog 85 #[.agg #[.slice A n c,.slice B k d,.int .i64 left,.bool dead]] w' (qH w' (.bool true))):=fun w' e=>yA (HP.out.ext e) HN.out (by have:=HM.out.lo;omega) hn1 (fun i hi=>HM.out.wh i (by omega)) (HA.out.ext e) HK.out (by rw[HN.out];exact HM.out.ac)
 have HCC:Hid (∀w',Ext w w'->Calls Tryz.prog 91 #[.agg #[.slice A n c,.slice B k d,.int .i64 left,.bool dead]] w' (Wh m w')):=fun w' e=>by
  rw[hleft.out,hdead.out];exact Qx (HP.out.ext e) HN.out (HA.out.ext e) HK.out HM.out (by omega)
 rw[<-hleft.out,<-hdead.out];clear hP hn hA hk hm hL hk2 hal hle hle2;go_enter Tryz.func23,Tryz.ntmps23;go_upto_region 1 with (fail);refine zu ?_;intro W1 hE1 hsz1 B0 B1;have HX1:=q_h hE1;have HB0:=q_h B0;have HB1:=q_h B1;clear hE1 B0 B1;obtain⟨p0,p1,p2,p3⟩:=qG HB0.out;go_wp2_with (go_at_call 85;refine q_o ?_);refine (HCV.out _ HX1.out).mono ?_;rintro e W2 ⟨rfl,e2⟩;have HX2:=q_h (HX1.out.trans e2);have HB02:=q_h (e2.block HB0.out);have HB12:=q_h (e2.block HB1.out);have HS2:Hid (w.heap.size+2<=W2.heap.size):=by have:=e2.size;rw[Hid];omega
 clear e2 HX1 HB0 HB1 HCV p0 p1 p2 p3 hsz1;go_wp2_with fail
 go_loopw [19] (fun iv wr=>∃(i:Nat),i<=k2/\iv=.int .i64 (i:Int)/\Hid (Ext W2 wr)) (fun iv _=>k2-(intOf iv).toNat)
 case atStart=>exact⟨0,Nat.zero_le _,rfl,Ext.refl W2⟩
 case round =>
  obtain⟨i,hi9,rfl,HE⟩:=hrel;obtain⟨wq,hwq⟩:∃wq,wq=wr:=⟨_,rfl⟩
  subst hwq;have HX:=q_h (HX2.out.trans HE.out);have HB0:=q_h (HE.out.block HB02.out);have HB1:=q_h (HE.out.block HB12.out)
  by_cases hlt:i<k2
  ·have u5:decide ((i:Int)<(k2:Int))=true:=q_t (by omega);have u6:(i:Int)<(k2:Int):=by omega
   obtain⟨ga,oa,rfl,hx⟩:=(HL.out.ext HX.out).at_ HK2.out (by omega);obtain⟨E9,m9,d9,a0,a1,a2,hb9⟩:=hx i hlt
   have hm9:m9=(l.getD i default).data.length:=by
    obtain⟨A',c',h1,-⟩:=hb9.form;obtain⟨-,h2,-⟩:=Value.slice.inj h1;exact h2
   have HM9:=q_h hm9;clear hx hb9 hm9;have HAB:=q_h (XI HAL.out (i:=i) (by have:=HK2.out;omega));obtain⟨pg,hpg⟩:=qf (l.getD i default).page;obtain⟨br,hbr⟩:=qf (l.getD i default).bar
   have HCW:Hid (∀w',Calls Tryz.prog 90 #[.agg #[.int .i64 pg,.slice E9 m9 d9,.bool br],.int .i64 (n:Int)] w' (qH w' (.bool (Qu (l.getD i default) n)))):=fun w'=>by
    rw[hpg.out,hbr.out];exact wE HM9.out
   rw[<-hpg.out] at a0;rw[<-hbr.out] at a2;go_upto_region 6 with (fail);refine qo ?_;intro wt et hszt BT;have HT:=q_h BT;have HEt:=q_h (HE.out.trans et);have HB0t:=q_h (et.block HB0.out);clear et BT HB0 HB1 a0 a1 a2 HX;obtain⟨t0,t1,t2⟩:=zO HT.out;obtain⟨p0,p1,p2,p3⟩:=qG HB0t.out;go_wp2_with (go_at_call 90;refine q_o ?_);refine (HCW.out _).mono ?_;rintro e w5 ⟨rfl,e5⟩;have HE5:=q_h (HEt.out.trans e5);replace t0:=e5.cell t0;replace t1:=e5.cell t1;replace t2:=e5.cell t2;clear p0 p1 p2 p3 e5 hszt
   by_cases hwr:Qu (l.getD i default) n=true
   ·rw[hwr];go_wp2;go_roundw
    case rel=>exact⟨i+1,by omega,by go_num,HE5⟩
    case measure=>simp[intOf];omega
   ·have hw0:Qu (l.getD i default) n=false:=by simpa using hwr
    rw[hw0]
    have HQ:Hid (br=true/\pg=0/\m9=0):=by
     have h1:=HAB.out;unfold Wn at h1;rw[<-HN.out,hw0,Bool.false_or] at h1;simp only[Bool.and_eq_true,decide_eq_true_eq] at h1;rw[Hid,hpg.out,hbr.out,HM9.out];exact⟨h1.1,h1.2.1,h1.2.2⟩
    obtain⟨q1,q2,q3⟩:=HQ.out;subst q1 q2 q3;clear hwr hw0 HQ HAB HCW HM9;go_wp2;go_roundw
    case rel=>exact⟨i+1,by omega,by go_num,HE5⟩
    case measure=>simp[intOf];omega
  obtain rfl:k2=i:=by omega
  have u5:decide ((k2:Int)<(k2:Int))=false:=q_f (by omega);clear hlt;obtain⟨p0,p1,p2,p3⟩:=qG HB0.out;go_wp2_with (go_at_call 91;refine q_o ?_);refine (HCC.out _ HX.out).mono ?_;rintro e w5 ⟨A5,c5,B5,d5,rfl,hMD,e5⟩;rw[<-HN.out,<-HK.out] at hMD ⊢;rw[<-hleft.out,<-hdead.out];have HX5:=q_h (HX.out.trans e5);have HB15:=q_h (e5.block HB1.out);have HMD5:Hid (MdF (w.heap.size+2) w5 (.slice A5 n c5) (.slice B5 k d5) m):=hMD.low (by have:=HS2.out;have:=HE.out.size;omega);have HS5:Hid (w.heap.size+2<=w5.heap.size):=by have:=HS2.out;have:=HE.out.size;have:=e5.size;rw[Hid];omega
  clear e5 HX HB1 HB0 hMD p0 p1 p2 p3 HCC HX2 HB02 HB12 HS2 HE;go_upto_region 10 with (fail);refine qo ?_;intro W e6 hsz6 BG;obtain⟨g,hg⟩:=qf w5.heap.size;rw[<-hg.out] at BG ⊢;have HGW:Hid (w.heap.size+2<=g):=by rw[Hid,hg.out];exact HS5.out
  have HG:=q_h BG;have HX:=q_h (HX5.out.trans e6);have HR:=q_h (e6.block HB15.out);have HMD:=q_h (HMD5.out.ext e6);clear e6 BG HX5 HB15 HMD5 HS5 hsz6;obtain⟨p0,p1,p2,p3⟩:=qG HG.out;cases dead with
  | true =>
   have HEQ:Hid (xn m l=(m,16)):=by rw[Hid];unfold xn;rw[if_pos hdead.out.symm]
   have HRB:=HR;have HM1:Hid (m.pages.length=n):=HN.out.symm;have HM2:Hid (m.acts.length=k):=HK.out.symm;have HM3:Hid (m.left=left):=hleft.out.symm;have HM4:Hid (m.dead=true):=hdead.out.symm;go_upto_region 11 with (fail);refine wp_region_lit ?_;refine wpList_plain rfl (fun K hK=>?_);go_simp;refine hK _ _ ?_;clear hK K;try simp only[nr]
   refine qh rfl 46 _ _ rfl (by rfl) (by rfl) HRB.out xu (by rfl) (by rfl) (by rfl) ?_;intro wz Bz Uz;obtain⟨x0,x1,x2,x3⟩:=qG Bz;go_wp2;refine bodyPost_ret (v:=.tuple #[.agg #[.slice A5 n c5,.slice B5 k d5,.int .i64 left,.bool true],.int .i64 16]) ?_ rfl ?_
   ·simp[results,x0,x1,x2,x3,go_sem]
   ·rw[hR.out];have Cz:=Uz.chg (NoU.mk HRB.out (by decide));have hPz:=HMD.out.1.chgT Cz HRB.out (by decide) (by decide);have hLz:=HMD.out.2.chgT Cz HRB.out (by decide) (by decide);exact vC.mk HEQ.out HM1.out HM2.out HM3.out HM4.out (MdF.low ⟨hPz,hLz⟩ (by omega)) (Cz.ext HX.out (by omega))
  | false =>
   obtain⟨r,hr⟩:=qf (xn m l);rw[<-hr.out] at hR;have HI0:Hid (PfI r l n k m 0 k left):=⟨HM.out,HN.out.symm,HK.out.symm,hleft.out.symm,hdead.out.symm,by rw[hr.out];unfold xn;rw[if_neg (by rw[<-hdead.out];simp)];rfl,q_r,by rw[hleft.out];exact HLE.out.1,by rw[hleft.out];exact HLE.out.2⟩
   go_wp2_with fail;clear p0 p1 p2 p3
   go_loopw [54] (fun iv wr=>∃(i:Nat) (mi:Med) (A9:Option Addr) (c9:Nat) (B9:Option Addr) (k9 d9:Nat) (l9:Int),i<=k2/\iv=.int .i64 (i:Int)/\Hid (PfI r l n k mi i k9 l9)/\Hid (wr.heap[g]?=some (.cells #[.slice A9 n c9,.slice B9 k9 d9,.int .i64 l9,.bool false] 46 (0,0)))/\Hid (MdF (w.heap.size+2) wr (.slice A9 n c9) (.slice B9 k9 d9) mi)/\Hid (Ext w wr)/\Hid (wr.heap[w.heap.size+1]?=some (.cells #[.slice none 0 0,.slice none 0 0,.int .i64 0,.bool false] 46 (0,0)))) (fun iv _=>k2-(intOf iv).toNat)
   case atStart=>exact⟨0,m,A5,c5,B5,k,d5,left,Nat.zero_le _,rfl,HI0,HG,HMD,HX,HR⟩
   case round =>
    clear HI0 HG HMD HX HR;obtain⟨i,mi,A9,c9,B9,k9,d9,l9,hi9,rfl,HPI,HG,HMD,HX,HRB⟩:=hrel;obtain⟨wq,hwq⟩:∃wq,wq=wr:=⟨_,rfl⟩
    subst hwq;have HM1:=q_h HPI.out.pg;have HM2:=q_h HPI.out.ac;have HM3:=q_h HPI.out.le;obtain⟨p0,p1,p2,p3⟩:=qG HG.out
    by_cases hlt:i<k2
    case neg =>
     obtain rfl:i=k2:=by omega
     have u5:decide ((i:Int)<(i:Int))=false:=q_f (by omega)
     have HEQ:Hid (r=(mi,0)):=by
      have h1:=HPI.out.go;rw[HK2.out,List.drop_length] at h1;exact h1.symm
     have HM4:=q_h HPI.out.de;go_upto_region 29 with (fail);refine wp_region_lit ?_;refine wpList_plain rfl (fun K hK=>?_);go_simp;refine hK _ _ ?_;clear hK K;try simp only[nr]
     refine qh rfl 46 _ _ rfl (by rfl) (by rfl) HRB.out xu (by rfl) (by rfl) (by rfl) ?_;intro wz Bz Uz;obtain⟨x0,x1,x2,x3⟩:=qG Bz;go_wp2;refine bodyPost_ret (v:=.tuple #[.agg #[.slice A9 n c9,.slice B9 k9 d9,.int .i64 l9,.bool false],.int .i64 0]) ?_ rfl ?_
     ·simp[results,x0,x1,x2,x3,go_sem]
     ·rw[hR.out];have Cz:=Uz.chg (NoU.mk HRB.out (by decide));have hPz:=HMD.out.1.chgT Cz HRB.out (by decide) (by decide);have hLz:=HMD.out.2.chgT Cz HRB.out (by decide) (by decide);exact vC.mk HEQ.out HM1.out HM2.out HM3.out HM4.out (MdF.low ⟨hPz,hLz⟩ (by omega)) (Cz.ext HX.out (by omega))
    have u5:decide ((i:Int)<(k2:Int))=true:=q_t (by omega);have u6:(i:Int)<(k2:Int):=by omega
    obtain⟨ga,oa,rfl,hx⟩:=HL.out.at_ HK2.out (by omega);obtain⟨E9,m9,e9,a0,a1,a2,hb9⟩:=hx i hlt;have HBY0:=q_h hb9;replace a0:=HX.out.cell a0;replace a1:=HX.out.cell a1;replace a2:=HX.out.cell a2;clear hx hb9;obtain⟨pg,hpg⟩:=qf (l.getD i default).page;obtain⟨br,hbr⟩:=qf (l.getD i default).bar;rw[<-hpg.out] at a0;rw[<-hbr.out] at a2;go_upto_region 15 with (fail);refine qo ?_;intro wt et hszt BT;obtain⟨gt,hgt⟩:=qf wq.heap.size;rw[<-hgt.out] at BT ⊢;have HT:=q_h BT;have HNE:Hid (g≠gt):=by rw[Hid,hgt.out];have:=qK HG.out;omega
    replace HG:=q_h (et.block HG.out);replace HMD:=q_h (HMD.out.ext et);replace HX:=q_h (HX.out.trans et);replace HRB:=q_h (et.block HRB.out);clear et BT a0 a1 a2 p0 p1 p2 p3 hszt;obtain⟨p0,p1,p2,p3⟩:=qG HG.out;obtain⟨t0,t1,t2⟩:=zO HT.out
    by_cases hz:l9=0
    ·subst hz;obtain⟨mo,hmo⟩:=qf (⟨mi.pages,mi.acts,0,true⟩:Med);have HEQ:Hid (r=(mo,16)):=by rw[Hid,hmo.out];exact HPI.out.stop (by have:=HK2.out;omega)
     go_upto_region 16 with (fail);refine wp_region_lit ?_;refine wpList_plain rfl (fun K hK=>?_);go_simp;refine hK _ _ ?_;clear hK K;try simp only[nr]
     obtain⟨wa,Ea,Ba,Ua⟩:=qL HG.out 3 (.bool true);have f4:=qp HG.out 3;have c4':=(qj HG.out 3).trans rfl;refine wpList_plain rfl (fun K hK=>?_);go_simp;try rw[Ea]
     refine hK _ _ ?_;clear hK K f4 c4' Ea;try simp only[nr]
     have Ca:=Ua.chg (NoU.mk HG.out (by decide));have hB2:wa.heap[g]?=some (.cells #[.slice A9 n c9,.slice B9 k9 d9,.int .i64 0,.bool true] 46 (0,0)):=Ba
     have hM2:MdF (w.heap.size+2) wa (.slice A9 n c9) (.slice B9 k9 d9) mo:=by
      rw[hmo.out];exact⟨HMD.out.1.chgT Ca HG.out (by decide) (by decide),HMD.out.2.chgT Ca HG.out (by decide) (by decide)⟩
     replace HMD:=q_h hM2;replace HX:Hid (Ext w wa):=Ca.ext HX.out (by have:=HGW.out;omega);replace HRB:=q_h ((Ua.block _ (by have:=HGW.out;omega)).trans HRB.out);replace HG:=q_h hB2;clear hB2 hM2 Ca Ba Ua p0 p1 p2 p3 t0 t1 t2;replace HM3:Hid (mo.left=0):=by rw[Hid,hmo.out]
     have HM4:Hid (mo.dead=true):=by rw[Hid,hmo.out]
     replace HM1:Hid (mo.pages.length=n):=by rw[Hid,hmo.out];exact HM1.out
     replace HM2:Hid (mo.acts.length=k9):=by rw[Hid,hmo.out];exact HM2.out
     obtain⟨p0,p1,p2,p3⟩:=qG HG.out;go_upto_region 17 with (fail);refine wp_region_lit ?_;refine wpList_plain rfl (fun K hK=>?_);go_simp;refine hK _ _ ?_;clear hK K;try simp only[nr]
     refine qh rfl 46 _ _ rfl (by rfl) (by rfl) HRB.out xu (by rfl) (by rfl) (by rfl) ?_;intro wz Bz Uz;obtain⟨x0,x1,x2,x3⟩:=qG Bz;go_wp2;refine bodyPost_ret (v:=.tuple #[.agg #[.slice A9 n c9,.slice B9 k9 d9,.int .i64 0,.bool true],.int .i64 16]) ?_ rfl ?_
     ·simp[results,x0,x1,x2,x3,go_sem]
     ·rw[hR.out];have Cz:=Uz.chg (NoU.mk HRB.out (by decide));have hPz:=HMD.out.1.chgT Cz HRB.out (by decide) (by decide);have hLz:=HMD.out.2.chgT Cz HRB.out (by decide) (by decide);exact vC.mk HEQ.out HM1.out HM2.out HM3.out HM4.out (MdF.low ⟨hPz,hLz⟩ (by omega)) (Cz.ext HX.out (by omega))
    have HSTEP:Hid (PfI r l n k (stepM mi (l.getD i default)) (i+1) (stepM mi (l.getD i default)).acts.length (Kt l9)):=HPI.out.step (by have:=HK2.out;omega) hz (by rw[<-HPI.out.pg];have:=HPI.out.pg;rw[this,HN.out];exact HAL.out);have v1:(l9 == 0)=false:=by simp[hz]
    have v2:decide (l9=0)=false:=q_f hz;obtain⟨l8,hl8⟩:=qf (Kt l9);rw[<-hl8.out] at HSTEP;have HB9:=q_h (And.intro HPI.out.b1 HPI.out.b2);have HMOK:=q_h HPI.out.ok;have HBD:=q_h HPI.out.bd;clear HPI
    go_upto_if 65 with (fail)
    go_cut [] (fun wx=>Hid (wx.heap[g]?=some (.cells #[.slice A9 n c9,.slice B9 k9 d9,.int .i64 l8,.bool false] 46 (0,0)))/\Hid (Chg g (g+1) wt wx))
    case first =>
     by_cases hp:0<l9
     ·have d1:decide (0<l9)=true:=q_t hp;have hw1:IntKind.i64.wrap (l9-1)=l9-1:=wrp (by have:=HB9.out;omega) (by have:=HB9.out;omega);have e8:l9-1=l8:=by rw[hl8.out];unfold Kt;rw[if_pos hp]
      have hw2:IntKind.i64.wrap l8=l8:=by rw[<-e8];exact hw1
      go_upto_region 19 with (fail);refine wp_region_lit ?_;refine wpList_plain rfl (fun K hK=>?_);go_simp;refine hK _ _ ?_;clear hK K;try simp only[nr]
      refine wpList_plain rfl (fun K hK=>?_);go_simp;refine hK _ _ ?_;clear hK K;try simp only[nr]
      refine wpList_plain rfl (fun K hK=>?_);go_simp;refine hK _ _ ?_;clear hK K;try simp only[nr]
      refine wpList_plain rfl (fun K hK=>?_);go_simp;refine hK _ _ ?_;clear hK K;try simp only[nr]
      try rw[e8]
      obtain⟨wa,Ea,Ba,Ua⟩:=qL HG.out 2 (.int .i64 l8);have f4:=qp HG.out 2;have c4':=(qj HG.out 2).trans rfl;refine wpList_plain rfl (fun K hK=>?_);go_simp;try rw[Ea]
      refine hK _ _ ?_;clear hK K f4 c4' Ea;try simp only[nr]
      have Ca:=Ua.chg (NoU.mk HG.out (by decide));have hB2:wa.heap[g]?=some (.cells #[.slice A9 n c9,.slice B9 k9 d9,.int .i64 l8,.bool false] 46 (0,0)):=Ba;go_wp2
      go_meet
      exact⟨hB2,Ca⟩
     ·have d1:decide (0<l9)=false:=q_f hp;have e8:l8=l9:=by rw[hl8.out];unfold Kt;rw[if_neg hp]
      subst e8;go_wp2
      go_meet
      exact⟨HG.out,Chg.refl _ _ _⟩
    obtain⟨hcB,hcC⟩:=hcut;obtain⟨wu,hwu⟩:∃wu,wu=wc:=⟨_,rfl⟩
    subst hwu;replace HMD:Hid (MdF (w.heap.size+2) wu (.slice A9 n c9) (.slice B9 k9 d9) mi):=⟨HMD.out.1.chgT hcC.out HG.out (by decide) (by decide),HMD.out.2.chgT hcC.out HG.out (by decide) (by decide)⟩
    replace HX:Hid (Ext w wu):=hcC.out.ext HX.out (by have:=HGW.out;omega);replace HRB:=q_h (hcC.out.blk HRB.out (by have:=HGW.out;omega));replace HT:=q_h (hcC.out.blk HT.out (by have:=HNE.out;omega));have HBY:=q_h (HBY0.out.ext HX.out);replace HG:=q_h hcB.out;clear hcB hcC p0 p1 p2 p3 t0 t1 t2 v1 v2 hz HB9;obtain⟨t0,t1,t2⟩:=zO HT.out;cases br with
    | false =>
     obtain⟨q1,q2⟩:=WI (m:=mi) hbr.out.symm
     have hl9:(l.getD i default).data.length<=1000000:=by
      have h1:=XI HAL.out (i:=i) (by have:=HK2.out;omega);unfold Wn at h1;rw[<-hbr.out,Bool.false_and,Bool.or_false] at h1;have:=(xJ h1).2.2.2;omega
     obtain⟨p0,p1,p2,p3⟩:=qG HG.out
     have hAL:zG (w.heap.size+2) wu (.slice B9 k9 d9) k9 (fun j=>(stepM mi (l.getD i default)).acts.getD j default):=by
      have h1:=HMD.out.2;rw[HM2.out] at h1;refine h1.congr fun j hj=>?_
      rw[q2,List.getD_eq_getElem?_getD,List.getD_eq_getElem?_getD,List.getElem?_append_left (by have:=HM2.out;omega)]
     obtain⟨D,hD,hDB⟩:=hAL;have HD:=q_h hD;have HDB:=q_h hDB
     have HPi:Hid ((stepM mi (l.getD i default)).acts.getD k9 default=⟨pg,(l.getD i default).data,false⟩):=by
      rw[Hid,q2,List.getD_eq_getElem?_getD,List.getElem?_append_right (by have:=HM2.out;omega),hpg.out];have:=HM2.out;rw[show k9-mi.acts.length=0 by omega]
      rfl
     have HQ1:=q_h q1;have HQ2:Hid ((stepM mi (l.getD i default)).acts.length=k9+1):=by rw[Hid,q2,List.length_append,HM2.out];rfl
     have hk9:k9<=1000:=by have:=HBD.out;omega
     clear hD hDB q1 q2;go_upto_region 21 with (fail);have eC:=(Ext.refl wu).drew;refine ql (fun w'=>w'.cell? ⟨g,1,none⟩=some (.slice B9 k9 d9)/\w'.cell? ⟨gt,0,none⟩=some (.int .i64 pg)/\w'.cell? ⟨gt,1,none⟩=some (.slice E9 m9 e9)) [9,11] (by kernel_rfl) (by exact⟨eC.cell p1,eC.cell t0,eC.cell t1⟩) (fun hHeld=>?_);refine sP 0 (h:=?_);refine sT 1 (h:=?_);refine sP 2 (h:=?_);refine sT 3 (h:=?_);refine sP 4 (h:=?_);refine sT 5 (h:=?_);refine qg (i:=6) rfl (by kernel_rfl) (fun K hK=>?_);go_simp;refine (yh (HBY.out.ext eC) hl9).mono ?_;rintro e w5 ⟨v5,rfl,hG5,e5⟩;obtain⟨A5,c5,rfl,-⟩:=hG5.by.form
     replace eC:=eC.trans e5;go_wp2_with fail;clear hHeld;refine hK.out _ _ (by exact⟨eC.cell p1,eC.cell t0,eC.cell t1⟩) fun hHeld=>?_
     clear hK K;try simp only[nr]
     refine sP 7 (h:=?_);refine qg (i:=8) rfl (by kernel_rfl) (fun K hK=>?_);go_simp
     first|refine qo ?_|refine qY ?_
     intro w6 e6 hsz6 BX;replace eC:=eC.trans e6;clear hHeld;refine hK.out _ _ (by exact⟨eC.cell p1,eC.cell t0,eC.cell t1⟩) fun hHeld=>?_
     clear hK K;try simp only[nr]
     refine qC (i:=9) rfl (by kernel_rfl) (by kernel_rfl) (fun K hK=>?_);refine zl yI rfl _ _ 33 Tryz.underlying33 rfl (by rfl) (HD.out.ext eC) (by rfl) (m:=1) (c:=1) (news:=[.int .i64 pg,.slice A5 (l.getD i default).data.length c5,.bool false]) rfl (fun q u hq=>(zq BX q).trans (by simpa using hq)) (by simp[Value.oneCell']) (by omega) ?_;rintro v9 w9 hG9 - ⟨g',hg',hw9,C9⟩;have hA9:zG (w.heap.size+2) w9 v9 (k9+1) (fun j=>(stepM mi (l.getD i default)).acts.getD j default):=zG.snoc (HD.out.ext eC) (fun q hq=>(HDB.out q hq).ext eC) (by show ByU _ _ ((stepM mi (l.getD i default)).acts.getD k9 default).data;rw[HPi.out];exact (hG5.ext e6).u) (by show qI _ _ _ _ _ _ (_ ++ [.int .i64 ((stepM mi (l.getD i default)).acts.getD k9 default).page,_,.bool ((stepM mi (l.getD i default)).acts.getD k9 default).bar]);rw[HPi.out];exact hG9) hw9 C9;have hP9:PgF (w.heap.size+2) w9 (.slice A9 n c9) mi.pages.length (fun j=>mi.pages.getD j []):=(HMD.out.1.ext eC).app (HD.out.ext eC) (by decide) (by decide) hw9 C9;have hne9:g≠g':=qI.ne (HD.out.ext eC) hw9 (eC.block HG.out) (by decide);have hB9:=C9.blk (eC.block HG.out) (by omega);have hR9:=C9.blk (eC.block HRB.out) (.inl (by omega));have hX9:=C9.ext (HX.out.trans eC) (by omega);obtain⟨A8,c8,rfl,-⟩:=hA9.form;refine hK.out _ _ ?_;clear hK K;try simp only[nr]
     refine sP 10 (h:=?_);refine qC (i:=11) rfl (by kernel_rfl) (by kernel_rfl) (fun K hK=>?_);obtain⟨wa,Ea,Ba,Ua⟩:=qL hB9 1 (.slice A8 (k9+1) c8);have f4:=qp hB9 1;have c4':=qj hB9 1;go_simp;try rw[Ea]
     clear f4 c4' Ea;refine hK.out _ _ ?_;clear hK K;try simp only[nr]
     refine qm (by kernel_rfl) ?_ _;clear hHeld;have Ca:=Ua.chg (NoU.mk hB9 (by decide))
     have HMDa:Hid (MdF (w.heap.size+2) wa (.slice A9 n c9) (.slice A8 (k9+1) c8) (stepM mi (l.getD i default))):=by
      have h1:=hP9.chgT Ca hB9 (by decide) (by decide);have h2:=hA9.chgT Ca hB9 (by decide) (by decide);refine⟨?_,?_⟩
      ·rw[HQ1.out];exact h1
      ·rw[HQ2.out];exact h2
     have HXa:Hid (Ext w wa):=Ca.ext hX9 (by have:=HGW.out;omega);have HRa:=q_h ((Ua.block _ (by have:=HGW.out;omega)).trans hR9);have HB2a:Hid (wa.heap[g]?=some (.cells #[.slice A9 n c9,.slice A8 (k9+1) c8,.int .i64 l8,.bool false] 46 (0,0))):=Ba;rw[HQ2.out] at HSTEP;clear eC Ca Ua Ba hB9 hR9 hX9 hP9 hA9 hG9 hw9 C9 BX e6 e5 hG5 p0 p1 p2 p3 t0 t1 t2;go_wp2;go_roundw
     case rel=>exact⟨i+1,_,A9,c9,A8,k9+1,c8,l8,by omega,by go_num,HSTEP,HB2a,HMDa,HXa,HRa⟩
     case measure=>simp[intOf];omega
    | true =>
     obtain⟨q1,q2⟩:=YA (m:=mi) hbr.out.symm;have hk9:k9<=1000:=by have:=HBD.out;omega
     have HQ1:=q_h q1;have HQ2:=q_h q2
     have HP0:Hid (PgF (w.heap.size+2) wu (.slice A9 n c9) n (fun q=>(zk mi.pages (mi.acts.take 0)).getD q [])):=by
      have h1:=HMD.out.1;rw[HM1.out] at h1;exact h1
     have HA0:Hid (zG (w.heap.size+2) wu (.slice B9 k9 d9) k9 (fun j=>mi.acts.getD j default)):=by
      have h1:=HMD.out.2;rw[HM2.out] at h1;exact h1
     obtain⟨p0,p1,p2,p3⟩:=qG HG.out;clear q1 q2 HMD;go_wp2_with fail;clear p0 p1 p2 p3 t0 t1 t2
     go_loopw [87] (fun iv wr=>∃(j:Nat),j<=k9/\iv=.int .i64 (j:Int)/\Hid (wr.heap[g]?=some (.cells #[.slice A9 n c9,.slice B9 k9 d9,.int .i64 l8,.bool false] 46 (0,0)))/\Hid (PgF (w.heap.size+2) wr (.slice A9 n c9) n (fun q=>(zk mi.pages (mi.acts.take j)).getD q []))/\Hid (zG (w.heap.size+2) wr (.slice B9 k9 d9) k9 (fun j=>mi.acts.getD j default))/\Hid (Ext w wr)/\Hid (wr.heap[w.heap.size+1]?=some (.cells #[.slice none 0 0,.slice none 0 0,.int .i64 0,.bool false] 46 (0,0)))) (fun iv _=>k9-(intOf iv).toNat)
     case atStart=>exact⟨0,Nat.zero_le _,rfl,HG,HP0,HA0,HX,HRB⟩
     case round =>
      clear HG HP0 HA0 HX HRB HBY HT;obtain⟨j,hj9,rfl,HG,HPJ,HAJ,HX,HRB⟩:=hrel;obtain⟨wp,hwp⟩:∃wp,wp=wr:=⟨_,rfl⟩
      subst hwp
      by_cases hlj:j<k9
      ·have u7:decide ((j:Int)<(k9:Int))=true:=q_t (by omega);have u8:(j:Int)<(k9:Int):=by omega
       obtain⟨gb,rfl,hkd9,hx⟩:=HAJ.out.at_ (by omega);obtain⟨B7,m7,d7,b0,b1,b2,hb7⟩:=hx j hlj;have HBU:=q_h hb7;clear hx hb7;have HWR:=q_h (xJ (HMOK.out.act (i:=j) (by have:=HM2.out;omega)));obtain⟨x7,hx7⟩:=qf (mi.acts.getD j default);rw[<-hx7.out] at b0 b2 HBU HWR;obtain⟨pz,hpz⟩:=qf x7.page.toNat
       have HPZ:Hid (x7.page=(pz:Int)/\pz<n):=by
        have h1:=HWR.out.2.1;have h2:=HWR.out.2.2.1;rw[HM1.out] at h2;have h3:=hpz.out;rw[Hid];omega
       rw[HPZ.out.1] at b0;go_upto_region 25 with (fail);refine qo ?_;intro wt7 et hszt BT;obtain⟨gt7,hgt7⟩:=qf wp.heap.size;rw[<-hgt7.out] at BT ⊢;have HT7:=q_h BT;replace HG:=q_h (et.block HG.out);replace HPJ:=q_h (HPJ.out.ext et);replace HAJ:=q_h (HAJ.out.ext et);replace HX:=q_h (HX.out.trans et);replace HRB:=q_h (et.block HRB.out);replace HBU:=q_h (HBU.out.ext et);clear et BT b0 b1 b2 hszt;obtain⟨t0,t1,t2⟩:=zO HT7.out;obtain⟨p0,p1,p2,p3⟩:=qG HG.out;obtain⟨g0,c0,cur,old,hv0,hb0,hc0,hh0,hq0,hPS⟩:=HPJ.out.set (j:=pz) HPZ.out.2 HBU.out;obtain⟨e1,-,e3⟩:=Value.slice.inj hv0;subst e1 e3;have hz8:(pz:Int)<(n:Int):=by have:=HPZ.out.2;omega
       have HNG:Hid (g≠g0):=neT hh0 HG.out (by decide);have HNR:Hid (w.heap.size+1≠g0):=neT hh0 HRB.out (by decide);have HPS:=q_h hPS;clear hv0 hPS;refine wp_region_lit ?_;refine wpList_plain rfl (fun K hK=>?_);go_simp;refine hK _ _ ?_;clear hK K;try simp only[nr]
       refine wpList_plain rfl (fun K hK=>?_);go_simp;refine hK _ _ ?_;clear hK K;try simp only[nr]
       refine wpList_plain rfl (fun K hK=>?_);go_simp;refine hK _ _ ?_;clear hK K;try simp only[nr]
       refine wpList_plain rfl (fun K hK=>?_);go_simp;refine hK _ _ ?_;clear hK K;try simp only[nr]
       refine wpList_plain rfl (fun K hK=>?_);go_simp;refine hK _ _ ?_;clear hK K;try simp only[nr]
       refine wpList_plain rfl (fun K hK=>?_);go_simp;refine hK _ _ ?_;clear hK K;try simp only[nr]
       refine wpList_plain rfl (fun K hK=>?_);go_simp;refine hK _ _ ?_;clear hK K;try simp only[nr]
       obtain⟨wa,Ea,Ba,Ua⟩:=qL hh0 pz (.slice B7 m7 d7);have f4:=qp hh0 pz;have c4':=(qj hh0 pz).trans hq0;refine wpList_plain rfl (fun K hK=>?_);go_simp;try rw[Ea]
       refine hK _ _ ?_;clear hK K f4 c4' Ea;try simp only[nr]
       have Ca:=Ua.chg (NoU.mk hh0 (by decide))
       have HPn:Hid (PgF (w.heap.size+2) wa (.slice (some ⟨g0,0,none⟩) n c9) n (fun q=>(zk mi.pages (mi.acts.take (j+1))).getD q [])):=by
        refine (HPS.out wa Ba Ua).congr fun q hq=>?_
        rw[take_snoc _ default (by have:=HM2.out;omega),Qe,<-hx7.out,y7 _ _ _ (by rw[x8,HM1.out,<-hpz.out];exact HPZ.out.2),<-hpz.out]
       replace HAJ:=q_h (HAJ.out.chgT Ca hh0 (by decide) (by decide));replace HX:Hid (Ext w wa):=Ca.ext HX.out (by omega);replace HRB:=q_h ((Ua.block _ HNR.out).trans HRB.out);replace HG:=q_h ((Ua.block _ HNG.out).trans HG.out);clear HPJ HPS Ca Ba Ua p0 p1 p2 p3 t0 t1 t2 hh0 hq0 HBU HWR HT7;go_wp2;go_roundw
       case rel=>exact⟨j+1,by omega,by go_num,HG,HPn,HAJ,HX,HRB⟩
       case measure=>simp[intOf];omega
      obtain rfl:j=k9:=by omega
      have u7:decide ((j:Int)<(j:Int))=false:=q_f (by omega);obtain⟨p0,p1,p2,p3⟩:=qG HG.out;go_upto_region 27 with (fail);refine wp_region_lit ?_;refine wpList_plain rfl (fun K hK=>?_);go_simp;refine hK _ _ ?_;clear hK K;try simp only[nr]
      obtain⟨wa,Ea,Ba,Ua⟩:=qL HG.out 1 (.slice none 0 0);have f4:=qp HG.out 1;have c4':=(qj HG.out 1).trans rfl;refine wpList_plain rfl (fun K hK=>?_);go_simp;try rw[Ea]
      refine hK _ _ ?_;clear hK K f4 c4' Ea;try simp only[nr]
      have Ca:=Ua.chg (NoU.mk HG.out (by decide));have HB2a:Hid (wa.heap[g]?=some (.cells #[.slice A9 n c9,.slice none 0 0,.int .i64 l8,.bool false] 46 (0,0))):=Ba
      have HMDa:Hid (MdF (w.heap.size+2) wa (.slice A9 n c9) (.slice none 0 0) (stepM mi (l.getD i default))):=by
       refine⟨?_,?_⟩
       ·have h1:=HPJ.out.chgT Ca HG.out (by decide) (by decide);rw[List.take_of_length_le (by have:=HM2.out;omega)] at h1;rw[HQ1.out,x8,HM1.out];exact h1
       ·rw[HQ2.out];exact zG.nil (by have:=qK Ba;have:=HGW.out;omega)
      have HXa:Hid (Ext w wa):=Ca.ext HX.out (by have:=HGW.out;omega);have HRa:=q_h ((Ua.block _ (by have:=HGW.out;omega)).trans HRB.out);rw[HQ2.out] at HSTEP;clear Ca Ba Ua p0 p1 p2 p3 HPJ HAJ HG HX HRB;go_wp2;go_roundw
      case rel=>exact⟨i+1,_,A9,c9,none,0,0,l8,by omega,by go_num,HSTEP,HB2a,HMDa,HXa,HRa⟩
      case measure=>simp[intOf];omega
end
end Go.Proofs.YtdeeekdbhhenpaaGreatDoor
