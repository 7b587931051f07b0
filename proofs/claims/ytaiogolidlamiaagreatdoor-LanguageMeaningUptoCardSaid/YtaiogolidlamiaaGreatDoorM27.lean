import Derived.Test.YtaiogolidlamiaaGreatDoorM26
set_option linter.unusedVariables false
set_option linter.unusedSimpArgs false
namespace Go.Proofs.YtaiogolidlamiaaGreatDoor
set_option maxRecDepth 100000
open Go.RowKit Go.Shelf
def rnC (n:RNode):Array Value:=rnA n.kind n.l n.r n.c n.min n.max
def RxAt (W:World) (b o:Nat) (xs:List RNode):Prop:=∀ i,i<xs.length→W.rangeAt b (o+i*9) (rnC (xs.getD i ⟨0,0,0,0#256,0,0⟩)).toList
theorem RxAt.ext {W W':World} {b o:Nat} {xs:List RNode} (h:RxAt W b o xs) (hE:Ext W W'):RxAt W' b o xs:=fun i hi j v hj=>hE.cell (h i hi j v hj)
def Ce (n:RNode) (j:Nat):Nat:=(if 0<arK n.kind∧n.l=j then 1 else 0)+(if 1<arK n.kind∧n.r=j then 1 else 0)
def par (xs:List RNode) (j:Nat):Nat:=(xs.map fun n=>Ce n j).sum
theorem N7 (xs:List RNode) (n:RNode) (j:Nat):par (xs++[n]) j=par xs j+Ce n j:=by simp [par]
structure VRx (xs:List RNode):Prop where
 pos:0<xs.length
 le:xs.length≤200
 node:∀ i,i<xs.length→VNode (xs.getD i ⟨0,0,0,0#256,0,0⟩).kind (xs.getD i ⟨0,0,0,0#256,0,0⟩).l (xs.getD i ⟨0,0,0,0#256,0,0⟩).r (xs.getD i ⟨0,0,0,0#256,0,0⟩).c (xs.getD i ⟨0,0,0,0#256,0,0⟩).min (xs.getD i ⟨0,0,0,0#256,0,0⟩).max i
 par:∀ j,j+1<xs.length→par xs j=1
theorem Nl (n:RNode):(rnC n).all (·.oneCell')=true:=by simp [rnC,rnA,Value.oneCell']
theorem Iy (n:RNode):(Tryz.prog.info? 64).map (·.size)=some (rnC n).toList.length:=by rw [show (rnC n).toList.length=9 from rfl];exact Cg
theorem Et (n:RNode):(Tryz.prog.info? 64).map (·.size)=some (rnC n).size:=Cg
theorem Kd (xs:List RNode) (i:Nat) (h:i<xs.length):xs.take (i+1)=xs.take i++[xs.getD i ⟨0,0,0,0#256,0,0⟩]:=by
 rw [List.take_succ_eq_append_getElem h,List.getD_eq_getElem?_getD,List.getElem?_eq_getElem h];rfl
def Cw (N:Nat) (f:Nat→Nat):List Nat:=(List.range N).map f
theorem Fa (N:Nat) (f:Nat→Nat):(Cw N f).length=N:=by simp [Cw]
theorem Kr (N:Nat) (f:Nat→Nat) (x:Nat) (hx:x<N):(Cw N f).getD x 0=f x:=Cq _ _ _ _ hx
theorem Nh (N:Nat) (f:Nat→Nat) (x:Nat) (hx:x<N):(Cw N f).set x (f x+1)=Cw N fun j=>f j+if x=j then 1 else 0:=by
 apply List.ext_getElem?;intro i;rw [List.getElem?_set,Fa];simp only [Cw,List.getElem?_map];by_cases e:x=i
 ·subst e;simp [hx]
 ·by_cases hi:i<N
  ·simp [List.getElem?_range hi,e]
  ·simp [e,hi]
theorem W7 (k:Nat):arK k≤2:=by
 unfold arK;split
 ·omega
 ·split<;>omega
theorem S3:∀ (xs:List RNode) (j:Nat),par xs j≤2*xs.length
 | [],j=>by simp [par]
 | n::xs,j=>by
  have:=S3 xs j;have h1:Ce n j≤2:=by unfold Ce;split<;>split<;>omega
  simp only [par,List.map_cons,List.sum_cons,List.length_cons] at this ⊢;omega
theorem Li (p:Nat):iv (p+1)=.int .i64 ((p:Int)+1):=by simp
theorem Ni {N:Nat} {f g:Nat→Nat} (h:∀ j,f j=g j):Cw N f=Cw N g:=by rw [show f=g from funext h]
abbrev Br:Array Value:=#[.int .i64 0,.int .u64 0,.int .u64 0,.int .u64 0,.int .u64 0,.int .i64 0,.int .i64 0,.int .i64 0,.int .i64 0]
set_option maxHeartbeats 4000000 in
theorem Yc (xs:List RNode) (hx:VRx xs) (b o cap:Nat) (w:World) (h:RxAt w b o xs) :
  Calls Tryz.prog 82 #[.slice (some ⟨b,o,none⟩) xs.length cap] w fun e w'=>e=.returned (.int .i64 0)∧Ext w w':=by
 have HX:=Lib.hid hx;have HR:=Lib.hid h;obtain ⟨i0,hi,hz0,hz1,hz2⟩:=info_parts Dm;obtain ⟨N,hN⟩:∃ N,xs.length=N:=⟨_,rfl⟩;have hN0:=hx.pos;have hN1:=hx.le;rw [hN] at hN0 hN1;rw [hN];have HN:=Lib.hid hN;have f116:=fun i (hi:i<N) W=>Lib.hid (W6 _ (HX.out.node i (by rw [HN.out];exact hi)).k1 (HX.out.node i (by rw [HN.out];exact hi)).k8 W)
 have f115:=fun i (hi:i<N) W=>Lib.hid (Ah0 _ _ _ _ _ _ i (HX.out.node i (by rw [HN.out];exact hi)) W)
 have c1:¬ (200:Int)<(N:Int):=by omega
 have c2:((N:Int)==0)=false:=by simp;omega
 have hwN:IntKind.i64.wrap ((N:Int)-1)=((N-1:Nat):Int):=by rw [show (N:Int)-1=((N-1:Nat):Int) by omega];exact IntWalk.i64_in _ ⟨by omega,by omega⟩
 clear hx h hN;go_enter Tryz.func82,Tryz.ntmps82;go_upto_region 6 with (at_make;refine wpList_make_full _ rfl _ _ 68 rfl w.heap.size 3 i0 (.int .i64 0) 1 Tryz.underlying68 hi hz0 hz1 .i64 .i64 _ _ N rfl rfl rfl rfl (by rw [hz2];omega) (by unfold maxLen;omega) (Nat.le_refl _) ?_;intro w1 hown1 hgrow1)
 have hE1:Ext w w1:=(Ext.refl w).grown hgrow1 (fun k e=>by cases e);have hO1:w1.ownsRow w.heap.size 3 1 (.slice (some ⟨w.heap.size,0,none⟩) N N) N ((Cw N fun _=>0).map iv):=by
  have:Cw N (fun _=>0)=List.replicate N 0:=by
   apply List.ext_getElem?;intro j;simp only [Cw,List.getElem?_map,List.getElem?_replicate];by_cases hj:j<N<;>simp [hj]
  rw [this,← Ca];exact hown1
 clear hown1 hgrow1 c1 c2;generalize hg:w.heap.size=g at *;have HG:=Lib.hid hg;clear hg;go_wp2_with (fail);go_loopw [22] (fun v W=>∃ i:Nat,i≤N∧v=.int .i64 i∧Ext w W∧W.ownsRow g 3 1 (.slice (some ⟨g,0,none⟩) N N) N ((Cw N (par (xs.take i))).map iv))
  (fun v _=>N-(intOf v).toNat)
 case atStart=>exact ⟨0,by omega,rfl,hE1,hO1⟩
 case round=>
  clear hE1 hO1;obtain ⟨i,hiN,rfl,hE,hO⟩:=hrel;by_cases hlt:i<N
  ·have hrange:=(HR.out.ext hE) i (by rw [HN.out];exact hlt);have hv:=HX.out.node i (by rw [HN.out];exact hlt);have f116:=f116 i hlt;have f115:=f115 i hlt;have hsn:=Kd xs i (by rw [HN.out];exact hlt);obtain ⟨n,hn⟩:∃ n,xs.getD i ⟨0,0,0,0#256,0,0⟩=n:=⟨_,rfl⟩;rw [hn] at hrange hv f116 f115 hsn;have HSN:=Lib.hid hsn;clear hn hsn;have f115:∀ W,Hid (Calls Tryz.prog 115 #[.agg (rnC n),iv i] W fun e w'=>e=.returned (.int .i64 0)∧Ext W w'):=f115;go_upto_region 9 with (first
    | (refine wpList_load_mid rfl 64 (.tmp 25) rfl b (o+i*9) rfl _ _ hrange Tryz.underlying64 rfl (Iy n) ?_)
    | (refine wpList_store_row rfl 64 (.tmp 5) (.tmp 26) rfl _ _ rfl rfl _ _ (Ab wr (.cells Br 64)) (Et n) rfl (Nl n) ?_))
   have hE2:=((Ext.refl wr).alloc (.cells Br 64)).setRow (Nat.le_refl _) (rnC n);have H5:=setRow_heap (wr.alloc (.cells Br 64)) wr.heap.size _ (rnC n) _ _ (Ab wr (.cells Br 64));obtain ⟨w2,hw2⟩:∃ W,(wr.alloc (.cells Br 64)).setRow wr.heap.size (rnC n)=W:=⟨_,rfl⟩;rw [hw2] at hE2 H5;simp only [hw2];clear hw2 hrange;have hO:=Ah hO hE2;have hE:=hE.trans hE2;have H5:=Lib.hid H5;generalize wr.heap.size=g5 at *;clear hE2;have hln:=S3 (xs.take i);have htl:(xs.take i).length≤200:=by rw [List.length_take];omega
   obtain ⟨f,hf⟩:∃ f,par (xs.take i)=f:=⟨_,rfl⟩;rw [hf] at hO hln;have hnx:Hid (∀ j,par (xs.take (i+1)) j=f j+Ce n j):=Lib.hid fun j=>by rw [HSN.out,N7,hf]
   have hfb:∀ j,f j≤400:=fun j=>by have:=hln j;omega
   have HFB:=Lib.hid hfb;clear hln htl hf hfb;obtain ⟨a,ha⟩:∃ a,arK n.kind=a:=⟨_,rfl⟩;have ha2:=W7 n.kind;have hl1:=hv.l1;have hr1:=hv.r1;rw [ha] at f116 ha2 hl1 hr1;have HA:=Lib.hid ha;clear ha hv;go_upto_region 12 with (first
    | (refine wpList_load_row rfl 64 (.tmp 5) rfl _ rfl _ _ _ _ H5.out Tryz.underlying64 rfl (Et n) ?_)
    | (go_at_call 115;(with_reducible refine (f115 _).out.mono ?_);rintro e w3 ⟨rfl,hE3⟩))
   have hO:=Ah hO hE3;have hE:=hE.trans hE3;have hH5:=hE3.heap H5.out;have q0:=(cell_of_row w3 g5 0 _ _ _ hH5).trans (show (rnC n)[0]? = some (iv n.kind) from rfl);have q5:=(cell_of_row w3 g5 5 _ _ _ hH5).trans (show (rnC n)[5]? = some (iv n.l) from rfl);have q6:=(cell_of_row w3 g5 6 _ _ _ hH5).trans (show (rnC n)[6]? = some (iv n.r) from rfl);have hH5t:=Ev hO hH5 (by decide);have hgo:w.heap.size≤g:=Nat.le_of_eq HG.out;have hg5:g5≠g:=fun e=>by
    rcases hH5t with h|h
    ·cases h
    ·exact h (by rw [e];rfl)
   clear hE3 H5 hH5 hH5t;have hcase:a=0∨a=1∨a=2:=by omega
   rcases hcase with rfl|rfl|rfl
   ·have e1:Cw N (par (xs.take (i+1)))=Cw N f:=Ni fun j=>by rw [hnx.out];unfold Ce;rw [HA.out];simp
    rw [← e1] at hO;clear hl1 hr1 ha2 e1;go_wp2_with (first
     | (go_at_call 116;(with_reducible refine (f116 _).out.mono ?_);rintro e W' ⟨rfl,rfl⟩))
    go_roundw
    case rel=>exact ⟨i+1,by omega,by go_num,hE,hO⟩
    case measure=>simp [intOf];omega
   ·have hl:=hl1 (by omega);have hlN:n.l<N:=by omega
    have cl:=Ap 0 hO (Fa _ _).symm n.l (by rw [Fa];exact hlN);rw [Kr _ _ _ hlN] at cl;have fl:=hO.frozenAt n.l;obtain ⟨hP,hgr⟩:=A3 hO n.l (f n.l+1);rw [Nh _ _ _ hlN] at hP;have e1:Cw N (par (xs.take (i+1)))=Cw N (fun j=>f j+if n.l=j then 1 else 0):=Ni fun j=>by rw [hnx.out];unfold Ce;rw [HA.out];simp
    rw [← e1] at hP;have hEn:=hE.grown hgr (fun k e=>by cases e;exact hgo);have hb:=HFB.out n.l;rw [Li] at hP hEn;clear hl1 hr1 ha2 e1 hgr hO hE;generalize f n.l=p at *;go_wp2_with (first
     | (go_at_call 116;(with_reducible refine (f116 _).out.mono ?_);rintro e W' ⟨rfl,rfl⟩))
    go_roundw
    case rel=>exact ⟨i+1,by omega,by go_num,hEn,hP⟩
    case measure=>simp [intOf];omega
   ·have hl:=hl1 (by omega);have hr:=hr1 (by omega);have hlN:n.l<N:=by omega
    have hrN:n.r<N:=by omega
    have cl:=Ap 0 hO (Fa _ _).symm n.l (by rw [Fa];exact hlN);rw [Kr _ _ _ hlN] at cl;have fl:=hO.frozenAt n.l;obtain ⟨hP,hgr⟩:=A3 hO n.l (f n.l+1);rw [Nh _ _ _ hlN] at hP;have q0':=(hgr.cell_far ⟨g5,0,none⟩ (F2 q0) (by simp [hg5])).trans q0;have q6':=(hgr.cell_far ⟨g5,6,none⟩ (F2 q6) (by simp [hg5])).trans q6;have hEn:=hE.grown hgr (fun k e=>by cases e;exact hgo);have cr:=Ap 0 hP (Fa _ _).symm n.r (by rw [Fa];exact hrN);rw [Kr _ _ _ hrN] at cr;have fr:=hP.frozenAt n.r;obtain ⟨hQ,hgr2⟩:=A3 hP n.r ((f n.r+if n.l=n.r then 1 else 0)+1);have e2:=Nh N (fun j=>f j+if n.l=j then 1 else 0) n.r hrN;rw [e2] at hQ;have e1:Cw N (par (xs.take (i+1)))=Cw N (fun j=>(f j+if n.l=j then 1 else 0)+if n.r=j then 1 else 0):=Ni fun j=>by rw [hnx.out];unfold Ce;rw [HA.out];simp;omega
    rw [← e1] at hQ;have hEq:=hEn.grown hgr2 (fun k e=>by cases e;exact hgo);have hb:=HFB.out n.l;have hb2:(f n.r+if n.l=n.r then 1 else 0)≤401:=by have:=HFB.out n.r;split<;>omega
    clear hl1 hr1 ha2 e1 e2 hgr hgr2 hO hE hP hEn;generalize f n.r+(if n.l=n.r then 1 else 0)=p2 at *;generalize f n.l=p at *;rw [Li] at q0' q6' cr fr;rw [Li,Li] at hQ hEq;go_wp2_with (first
     | (go_at_call 116;(with_reducible refine (f116 _).out.mono ?_);rintro e W' ⟨rfl,rfl⟩))
    go_roundw
    case rel=>exact ⟨i+1,by omega,by go_num,hEq,hQ⟩
    case measure=>simp [intOf];omega
  ·obtain rfl:N=i:=by omega
   rw [show xs.take N=xs by rw [← HN.out];exact List.take_length] at hO;have hOc:=fun k (hk:k<N)=>Ap 0 hO (Fa _ _).symm k (by rw [Fa];exact hk)
   have hP1:=fun k (hk:k<N-1)=>HX.out.par k (by rw [HN.out];omega)
   have HC:=Lib.hid (fun k (hk:k<N-1)=>by
    have:=hOc k (by omega);rw [Kr _ _ _ (by omega),hP1 k hk] at this;exact (this:wr.cell? ⟨g,k,none⟩=some (iv 1)))
   clear hOc hP1 hO;obtain ⟨M,hM⟩:∃ M,N-1=M:=⟨_,rfl⟩;rw [hM] at hwN HC;have hMN:M<N:=by omega
   clear hM;go_upto_region 18 with (fail)
   obtain ⟨wq,hwq⟩:∃ W,W=wr:=⟨_,rfl⟩;subst hwq;go_loopw [62] (fun v W=>∃ k:Nat,k≤M∧v=.int .i64 k∧W=wq) (fun v _=>M-(intOf v).toNat)
   case atStart=>exact ⟨0,by omega,rfl,rfl⟩
   case round=>
    obtain ⟨k,hk,rfl,rfl⟩:=hrel;by_cases hkl:k<M
    ·have ck:wr.cell? ⟨g,k,none⟩=some (.int .i64 1):=HC.out k hkl;go_wp2;go_roundw
     case rel=>exact ⟨k+1,by omega,by go_num,trivial⟩
     case measure=>simp [intOf];omega
    ·obtain rfl:M=k:=by omega
     go_wp2;go_ret;exact ⟨rfl,hE⟩
theorem Sl.setNil {W:World} {v:Value} {k n:Nat} {f:Nat→Value} (h:Sl W v k n f) {g o:Nat} {cs:List Value} (hs:W.heap.size≤(W.setCells g o cs).heap.size) (hnil:∀ j,j<cs.length→W.cell? ⟨g,o+j,none⟩=some (.slice none 0 0)) (hne:∀ i,i<n*k→f i≠.slice none 0 0):Sl (W.setCells g o cs) v k n f:=by
 obtain ⟨h1,h|⟨hn,b,off,cap,hv,hb,hc⟩⟩:=h
 ·exact ⟨h1,.inl h⟩
 ·refine ⟨h1,.inr ⟨hn,b,off,cap,hv,Nat.lt_of_lt_of_le hb hs,fun i hi=>?_⟩⟩;rw [World.cell?_setCells_out]
  ·exact hc i hi
  ·intro e1 _;have e1:b=g:=e1;subst e1;show off+i<o∨o+cs.length≤off+i;apply Classical.byContradiction;intro hcon;have h2:=hnil (off+i-o) (by omega);rw [show o+(off+i-o)=off+i by omega,hc i hi] at h2;injection h2 with h2
   exact hne i hi h2
theorem IsD.setNil {W:World} {v:Value} {d:Dfa} (hv:Val d) (h:IsD W v d) {g o:Nat} {cs:List Value} (hs:W.heap.size≤(W.setCells g o cs).heap.size) (hnil:∀ j,j<cs.length→W.cell? ⟨g,o+j,none⟩=some (.slice none 0 0)):IsD (W.setCells g o cs) v d:=by
 obtain ⟨vc,vn,va,rfl,h1,⟨vs,hvs,hN,hr⟩,h3⟩:=h;refine ⟨vc,vn,va,rfl,Sl.setNil h1 hs hnil (fun i _ e=>by cases e),⟨vs,hvs,Sl.setNil hN hs hnil (fun i hi e=>?_),fun i hi=>Sl.setNil (hr i hi) hs hnil (fun i _ e=>by cases e)⟩,Sl.setNil h3 hs hnil (fun i _ e=>by cases e)⟩;have hi:i<d.nxt.length:=by simpa using hi
 obtain ⟨b,off,cap,hv1,_⟩:=Sl.form (hr i hi) (by rw [hv.row i hi];exact hv.parts.pos);rw [hv1] at e;cases e
theorem Z2 (W:World) (g o:Nat) (a b c:Value):W.setCells g o [a,b,c]=((W.setCell ⟨g,o,none⟩ a).setCell ⟨g,o+1,none⟩ b).setCell ⟨g,o+1+1,none⟩ c:=rfl
theorem Acn {W:World} {base e g n cap size:Nat} {xs:List Value} (h:W.ownsRow base e size (.slice (some ⟨g,0,none⟩) n cap) n xs) (o:Nat) (a b c:Value) :
  (∃ ys,(W.setCells g o [a,b,c]).ownsRow base e size (.slice (some ⟨g,0,none⟩) n cap) n ys)∧W.grownBy (W.setCells g o [a,b,c]) (some g):=by
 have h0:=h.stored o a;have h1:=h0.1.stored (o+1) b;have h2:=h1.1.stored (o+1+1) c;rw [Z2];exact ⟨⟨_,h2.1⟩,h0.2.trans (h1.2.trans h2.2)⟩
structure Lds (W:World) (g N:Nat) (ds:List Dfa):Prop where
 at_:DsAt W g 0 ds
 nil:∀ j,ds.length*3≤j→j<N*3→W.cell? ⟨g,j,none⟩=some (.slice none 0 0)
theorem Lds.ext {W W':World} {g N:Nat} {ds:List Dfa} (h:Lds W g N ds) (hE:Ext W W'):Lds W' g N ds:=⟨h.at_.ext hE,fun j h1 h2=>hE.cell (h.nil j h1 h2)⟩
theorem Lds.store {W:World} {g N:Nat} {ds:List Dfa} (h:Lds W g N ds) (hok:okD ds) (hN:ds.length<N) {a b c:Value} {q:Dfa} (hq:Val q) (hD:IsD W (.agg #[a,b,c]) q) (hs:W.heap.size≤(W.setCells g (ds.length*3) [a,b,c]).heap.size):Lds (W.setCells g (ds.length*3) [a,b,c]) g N (ds++[q]):=by
 have hnil:∀ j,j<[a,b,c].length→W.cell? ⟨g,ds.length*3+j,none⟩=some (.slice none 0 0):=fun j hj=>h.nil _ (by omega) (by have:j<3:=hj;omega)
 refine ⟨fun i hi=>?_,fun j h1 h2=>?_⟩
 ·rw [List.length_append,List.length_singleton] at hi;by_cases e:i<ds.length
  ·obtain ⟨v1,v2,v3,hr,hI⟩:=h.at_ i e;refine ⟨v1,v2,v3,fun j v hj=>?_,?_⟩
   ·have hj3:j<3:=by
     have:=(List.getElem?_eq_some_iff.1 hj).1;exact this
    rw [World.cell?_setCells_out]
    ·exact hr j v hj
    ·intro _ _;left
     show 0+i*3+j<ds.length*3;omega
   ·rw [Bi _ _ _ _ e];exact IsD.setNil (hok i e).1 hI hs hnil
  ·obtain rfl:i=ds.length:=by omega
   refine ⟨a,b,c,fun j v hj=>?_,?_⟩
   ·have hj3:j<[a,b,c].length:=(List.getElem?_eq_some_iff.1 hj).1;have:=World.cell?_setCells_in g [a,b,c] (ds.length*3) W (fun j hj=>by rw [hnil j hj];rfl) j hj3;rw [Nat.zero_add,this,← hj,List.getElem?_eq_getElem hj3]
   ·rw [Bw];exact IsD.setNil hq hD hs hnil
 ·rw [List.length_append,List.length_singleton] at h1;rw [World.cell?_setCells_out]
  ·exact h.nil j (by omega) h2
  ·intro _ _;right
   show ds.length*3+3≤j;omega
theorem Uq {n:RNode} {i:Nat} (h:VNode n.kind n.l n.r n.c n.min n.max i):n.good i∧n.min≤16∧(n.max=-1∨(n.min:Int)≤n.max)∧n.max≤16:=by
 have hm:n.min≤16∧(n.max=-1∨(n.min:Int)≤n.max)∧n.max≤16:=by
  by_cases e:n.kind=8
  ·obtain ⟨h1,h2,h3,h4⟩:=h.m8 e;refine ⟨h1,?_,h2⟩;by_cases e2:n.max=-1
   ·exact .inl e2
   ·exact .inr (h4 e2)
  ·obtain ⟨h1,h2⟩:=h.m0 e;rw [h1,h2];exact ⟨by omega,.inr (by simp),by omega⟩
 refine ⟨⟨fun hk=>?_,fun hk=>?_,?_,h.k1,h.k8⟩,hm⟩
 ·have:arK n.kind=2:=by unfold arK;rw [if_pos hk]
  exact ⟨h.l1 (by omega),h.r1 (by omega)⟩
 ·have:0<arK n.kind:=by unfold arK;rcases hk with hk|hk<;>rw [hk]<;>decide
  exact h.l1 this
 ·rcases hm.2.1 with h1|h1
  ·left;omega
  ·exact .inr h1
theorem Afw:(Tryz.prog.info? 30).map (fun i=>(i.zero,i.size,i.bytes))=some (some zD,3,72):=by kernel_rfl
theorem Aeh (N j:Nat) (hj:j<N*3):(madeCells zD.cells (N*3)).toList[j]? = some (.slice none 0 0):=by
 have hc:zD.cells=#[.slice none 0 0,.slice none 0 0,.slice none 0 0]:=rfl;rw [hc];have h3:j % 3=0∨j % 3=1∨j % 3=2:=by omega
 rcases h3 with h|h|h<;>simp [madeCells,hj,h]
theorem Aix (xs:List RNode) (ds:List Dfa) (hi:ds.length<xs.length) {q:Option Dfa} {r:Option Dfa} (h1:C7 (xs.getD ds.length ⟨0,0,0,0#256,0,0⟩) ds q) (h2:Dz q (fun d=>Bf (xs.drop (ds.length+1)) (ds++[d])) r):Bf (xs.drop ds.length) ds r:=by
 have e:xs.drop ds.length=xs.getD ds.length ⟨0,0,0,0#256,0,0⟩::xs.drop (ds.length+1):=by
  rw [List.drop_eq_getElem_cons hi,List.getD_eq_getElem?_getD,List.getElem?_eq_getElem hi];rfl
 rw [e];exact ⟨q,h1,h2⟩
theorem Tp {n:RNode} {ds:List Dfa} (hok:okD ds) (hg:n.good ds.length) {q:Dfa} (h:C7 n ds (some q)):Val q∧q.nxt.length≤64:=by
 obtain ⟨g1,g2,g3,g4,g5⟩:=hg;unfold C7 at h;have can:∀ {L:Av},Dp L (some q)→Fit q L:=fun ⟨e,e1,e2,e3⟩=>by
  injection e1 with e1
  subst e1;exact ⟨e2,e3⟩
 by_cases c1:n.kind=1
 ·rw [if_pos c1] at h;have hf:=can h;have:=Hs hf (fun _ _=>0) (fun _=>False) 1 (by omega) (fun s x _=>by omega) (fun w=>Iff.rfl);exact ⟨hf.1.val,by omega⟩
 rw [if_neg c1] at h;by_cases c2:n.kind=2
 ·rw [if_pos c2] at h;have hf:=can h;have:=K7 hf;exact ⟨hf.1.val,by omega⟩
 rw [if_neg c2] at h;by_cases c3:n.kind=3
 ·rw [if_pos c3] at h;have hf:=can h;have:=Ou (p:=fun x=>n.c.getLsbD x.toNat=true) hf;exact ⟨hf.1.val,by omega⟩
 rw [if_neg c3] at h;by_cases c4:n.kind=4
 ·rw [if_pos c4] at h;exact Ie h q rfl
 rw [if_neg c4] at h;by_cases c5:n.kind=5
 ·rw [if_pos c5] at h;exact ⟨h.1.val,h.2.2⟩
 rw [if_neg c5] at h;by_cases c6:n.kind=6
 ·rw [if_pos c6] at h;exact ⟨h.1.val,h.2.2⟩
 rw [if_neg c6] at h;by_cases c7:n.kind=7
 ·rw [if_pos c7] at h;have hf:=can h;obtain ⟨hv,hl⟩:=hok n.l (g2 (.inl c7));have:=Wl hf.1 (Tj (Be hv)) (fun w=>by
   rw [Bool.eq_iff_iff,hf.2,Tk (Be hv),Dt];simp)
  exact ⟨hf.1.val,Nat.le_trans this hl⟩
 rw [if_neg c7] at h;obtain ⟨hv,hl⟩:=hok n.l (g2 (.inr (by omega)));exact Sh hv hl h q rfl
set_option maxHeartbeats 4000000 in
theorem P8 (xs:List RNode) (hx:VRx xs) (b o cap:Nat) (w:World) (hT:Tab w) (hsz:0<w.heap.size) (h:RxAt w b o xs) :
  Calls Tryz.prog 36 #[.slice (some ⟨b,o,none⟩) xs.length cap] w fun e w'=>∃ r,ResOf w' e r∧Bf xs [] r∧Ext w w':=by
 have HTa:=Lib.hid (fun W (hW:Ext w W)=>hT.below hW.below hsz);have HX:=Lib.hid hx;have HR:=Lib.hid h;have f82:=fun W (hW:Ext w W)=>Lib.hid (Yc xs hx b o cap W (h.ext hW))
 obtain ⟨i0,hi,hz0,hz1,hz2⟩:=info_parts Afw;obtain ⟨N,hN⟩:∃ N,xs.length=N:=⟨_,rfl⟩;have hN0:=hx.pos;have hN1:=hx.le;rw [hN] at hN0 hN1 f82;rw [hN];have HN:=Lib.hid hN;have hwN:IntKind.i64.wrap ((N:Int)-1)=((N-1:Nat):Int):=by rw [show (N:Int)-1=((N-1:Nat):Int) by omega];exact IntWalk.i64_in _ ⟨by omega,by omega⟩
 have hE0:=(Ext.refl w).alloc (.cells #[.slice none 0 0,.slice none 0 0,.slice none 0 0] 30);have H2:=Ab w (.cells #[.slice none 0 0,.slice none 0 0,.slice none 0 0] 30);clear hx h hN hT;go_enter Tryz.func36,Tryz.ntmps36;go_upto_region 1 with (fail)
 obtain ⟨w1,hw1⟩:∃ W,w.alloc (.cells #[.slice none 0 0,.slice none 0 0,.slice none 0 0] 30)=W:=⟨_,rfl⟩;rw [hw1] at hE0 H2;simp only [hw1];clear hw1;have H2:=Lib.hid H2;have HE0:=Lib.hid hE0;clear hE0;go_upto_region 4 with (go_at_call 82;(with_reducible refine (f82 _ HE0.out).out.mono ?_);rintro e w2 ⟨rfl,hE2⟩;have HE2:=Lib.hid (HE0.out.trans hE2);have H2:=Lib.hid (hE2.heap H2.out);clear hE2)
 have hws:=HE2.out.size;go_upto_region 5 with (at_make;refine wpList_make_full _ rfl _ _ 130 rfl w2.heap.size 30 i0 zD 3 Tryz.underlying130 hi hz0 hz1 .i64 .i64 _ _ N rfl rfl rfl rfl (by rw [hz2];omega) (by unfold maxLen;omega) (Nat.le_refl _) ?_;intro w3 hown3 hgrow3)
 have hE3:=HE2.out.grown hgrow3 (fun k e=>by cases e);have H23:=(hgrow3.block w.heap.size (Ak H2.out) (by simp)).trans H2.out;have hL3:Lds w3 w2.heap.size N []:=⟨fun i hi=>absurd hi (by simp),fun j _ hj=>by rw [hown3.cellAt j hj];exact Aeh N j hj⟩;have hg2:w.heap.size<w2.heap.size:=Ak H2.out;generalize w2.heap.size=g at *;clear hgrow3 f82 HE0;go_wp2_with (fail);go_loopw [21] (fun v W=>∃ ds:List Dfa,ds.length≤N∧v=.int .i64 ds.length∧Ext w W∧(∃ ys,W.ownsRow g 30 3 (.slice (some ⟨g,0,none⟩) N N) N ys)∧Hid (W.heap[w.heap.size]? = some (.cells #[.slice none 0 0,.slice none 0 0,.slice none 0 0] 30 (0,0)))∧
   Hid (Lds W g N ds)∧Hid (okD ds)∧Hid (∀ r,Bf (xs.drop ds.length) ds r→Bf xs [] r))
  (fun v _=>N-(intOf v).toNat)
 case atStart=>exact ⟨[],by simp,rfl,hE3,⟨_,hown3⟩,Lib.hid H23,Lib.hid hL3,Lib.hid (fun i hi=>absurd hi (by simp)),Lib.hid fun r h=>h⟩
 case round=>
  clear hE3 hown3 H23 hL3 H2;obtain ⟨ds,hdN,rfl,hE,⟨ys,hO⟩,H2,HL,HOK,HB⟩:=hrel;by_cases hlt:ds.length<N
  ·have hrange:=(HR.out.ext hE) ds.length (by rw [HN.out];exact hlt);have hv:=HX.out.node ds.length (by rw [HN.out];exact hlt);have hst:=Lib.hid (fun (q r:Option Dfa)=>Aix xs ds (by rw [HN.out];exact hlt) (q:=q) (r:=r));obtain ⟨n,hn⟩:∃ n,xs.getD ds.length ⟨0,0,0,0#256,0,0⟩=n:=⟨_,rfl⟩;rw [hn] at hrange hv hst;obtain ⟨hgood,hm1,hm2,hm3⟩:=Uq hv;have hla:((ds.length:Nat):Int)<(N:Int):=by omega
   have f83:∀ W,Ext wr W→Hid (Calls Tryz.prog 83 #[.agg (rnC n),.slice (some ⟨g,0,none⟩) N N] W fun e w'=>∃ q,ResOf w' e q∧C7 n ds q∧Ext W w'):=fun W hW=>
    Lib.hid (Ado n.kind n.l n.r n.c n.min n.max ds hgood hm1 hm2 hm3 HOK.out g 0 N N (by omega) hN1 W (HTa.out W (hE.trans hW)) (Nat.lt_of_lt_of_le hsz (hE.trans hW).size) (HL.out.at_.ext hW))
   have HGd:=Lib.hid hgood;clear hn hv hgood hm1 hm2 hm3;generalize hdl:ds.length=i at *;have HDL:=Lib.hid hdl;clear hdl;go_upto_region 8 with (first
    | (refine wpList_load_mid rfl 64 (.tmp 24) rfl b (o+i*9) rfl _ _ hrange Tryz.underlying64 rfl (Iy n) ?_)
    | (refine wpList_store_row rfl 64 (.tmp 7) (.tmp 25) rfl _ _ rfl rfl _ _ (Ab wr (.cells Br 64)) (Et n) rfl (Nl n) ?_))
   have hE2:=((Ext.refl wr).alloc (.cells Br 64)).setRow (Nat.le_refl _) (rnC n);have H7:=setRow_heap (wr.alloc (.cells Br 64)) wr.heap.size _ (rnC n) _ _ (Ab wr (.cells Br 64));obtain ⟨w4,hw4⟩:∃ W,(wr.alloc (.cells Br 64)).setRow wr.heap.size (rnC n)=W:=⟨_,rfl⟩;rw [hw4] at hE2 H7;simp only [hw4];clear hw4 hrange;have H7:=Lib.hid H7;have HE24:=Lib.hid hE2;generalize wr.heap.size=g7 at *;clear hE2;go_upto_region 9 with (first
    | (refine wpList_load_row rfl 64 (.tmp 7) rfl _ rfl _ _ _ _ H7.out Tryz.underlying64 rfl (Et n) ?_)
    | (go_at_call 83;(with_reducible refine (f83 _ HE24.out).out.mono ?_);rintro e w5 ⟨q,hres,hnode,hE5⟩;obtain ⟨ac1,lc1,cc1,an1,ln1,cn1,aa1,la1,ca1,k1,rfl⟩:=hres.form;have HRes:=Lib.hid hres;have HNode:=Lib.hid hnode;have HE5:=Lib.hid (HE24.out.trans hE5);clear hres hnode hE5)
    | (refine wpList_store_row rfl 30 (.tmp 8) (.tmp 30) rfl _ _ rfl rfl _ _ (Ab w5 (.cells #[.slice none 0 0,.slice none 0 0,.slice none 0 0] 30)) Ad rfl (An _ _ _ rfl rfl rfl) ?_))
   obtain ⟨hN1',hN2'⟩:=I3 w5 (dA (.slice ac1 lc1 cc1) (.slice an1 ln1 cn1) (.slice aa1 la1 ca1));obtain ⟨w6,hw6⟩:∃ W,(w5.alloc (.cells #[.slice none 0 0,.slice none 0 0,.slice none 0 0] 30)).setRow w5.heap.size (dA (.slice ac1 lc1 cc1) (.slice an1 ln1 cn1) (.slice aa1 la1 ca1))=W:=⟨_,rfl⟩;rw [hw6] at hN1' hN2';simp only [hw6];clear hw6;have hEr6:=HE5.out.trans hN1';have HE6:=Lib.hid (hE.trans hEr6);have H8:=Lib.hid hN2';have H2:=Lib.hid (hEr6.heap H2.out);have HL:=Lib.hid (HL.out.ext hEr6);have hO:=Ah hO hEr6;have HRes:=Lib.hid (HRes.out.ext hN1');generalize w5.heap.size=g8 at *;clear hN1' hN2' hEr6 hE f83 H7 HE24;cases q with
   | none=>
    obtain ⟨rfl,hz⟩:=HRes.out.none_inv;have hBz:=Lib.hid Fl;have HF:=Lib.hid (HB.out none (hst.out none none HNode.out rfl));clear hz hO;go_wp2_with (first
     | (refine Ci rfl 30 _ rfl #[.slice none 0 0,.slice none 0 0,.slice none 0 0] ?_ ?_;(simp;with_reducible exact hBz.out))
     | (refine wpList_store_row rfl 30 (.tmp 2) (.tmp 34) rfl _ _ rfl rfl _ _ H2.out Ad rfl Ex ?_))
    refine bodyPost_ret (v:=.tuple #[zD,.int .i64 2]) (A2 rfl _ _ _ _ _ _ _ rfl _ rfl (setRow_heap w6 _ _ #[.slice none 0 0,.slice none 0 0,.slice none 0 0] 30 (0,0) H2.out) Tryz.underlying30 rfl Ad) rfl ?_;exact ⟨none,rfl,HF.out,HE6.out.setRow (Nat.le_refl _) _⟩
   | some q=>
    obtain ⟨rfl,hDq⟩:=HRes.out.some_inv;obtain ⟨hqv,hql⟩:=Tp HOK.out (by rw [HDL.out];exact HGd.out) HNode.out;obtain ⟨⟨zs,hOn⟩,hgr⟩:=Acn hO (i*3) (.slice ac1 lc1 cc1) (.slice an1 ln1 cn1) (.slice aa1 la1 ca1);have hLn:=HL.out.store HOK.out (by rw [HDL.out];exact hlt) hqv hDq (by rw [HDL.out];exact hgr.size);rw [HDL.out] at hLn;have hth:w6.there g (i*3) 3:=fun j hj=>by
     refine ⟨?_,hO.frozenAt _⟩;rw [HL.out.nil (i*3+j) (by rw [HDL.out];omega) (by omega)];rfl
    have hEn:=HE6.out.grown hgr (fun k e=>by cases e;omega);have H2n:=(hgr.block w.heap.size (Ak H2.out) (by simp;omega)).trans H2.out;have HTH:=Lib.hid hth;have HLn:=Lib.hid hLn;have HOn:=Lib.hid hOn;have HEn:=Lib.hid hEn;have H2n:=Lib.hid H2n;have HOKn:Hid (okD (ds++[q])):=Lib.hid fun j hj=>by
     rw [List.length_append,List.length_singleton] at hj;by_cases e:j<ds.length
     ·rw [Bi _ _ _ _ e];exact HOK.out j e
     ·obtain rfl:j=ds.length:=by omega
      rw [Bw];exact ⟨hqv,hql⟩
    have HBn:Hid (∀ r,Bf (xs.drop (ds++[q]).length) (ds++[q]) r→Bf xs [] r):=Lib.hid fun r hr=>HB.out r (hst.out (some q) r HNode.out (by
     rw [List.length_append,List.length_singleton,HDL.out] at hr;exact hr))
    have hlen:Hid ((ds++[q]).length=i+1):=Lib.hid (by rw [List.length_append,HDL.out];rfl);clear hDq hLn hOn hgr hth hEn hO;go_upto_region 12 with (first
     | (refine wpList_load_row rfl 30 (.tmp 8) rfl _ rfl _ _ _ _ H8.out Tryz.underlying30 rfl Ad ?_)
     | (refine wpList_store_mid rfl 30 (.tmp 39) (.tmp 38) rfl g (i*3) (dA (.slice ac1 lc1 cc1) (.slice an1 ln1 cn1) (.slice aa1 la1 ca1)) rfl rfl HTH.out Ad (An _ _ _ rfl rfl rfl) ?_))
    have hdl3:(dA (.slice ac1 lc1 cc1) (.slice an1 ln1 cn1) (.slice aa1 la1 ca1)).toList=[.slice ac1 lc1 cc1,.slice an1 ln1 cn1,.slice aa1 la1 ca1]:=rfl;rw [hdl3];obtain ⟨w7,hw7⟩:∃ W,w6.setCells g (i*3) [.slice ac1 lc1 cc1,.slice an1 ln1 cn1,.slice aa1 la1 ca1]=W:=⟨_,rfl⟩;rw [hw7] at HLn HOn HEn H2n;rw [hw7];clear hw7 hdl3 HTH;go_wp2;go_roundw
    case rel=>exact ⟨ds++[q],by rw [hlen.out];omega,by rw [hlen.out];go_num,HEn.out,⟨_,HOn.out⟩,H2n,HLn,HOKn,HBn⟩
    case measure=>simp [intOf];omega
  ·have hdn:ds.length=N:=by omega
   have HDN:=Lib.hid hdn;rw [hdn];obtain ⟨v1,v2,v3,hr,hD⟩:=HL.out.at_ (N-1) (by omega);obtain ⟨hqv,hql⟩:=HOK.out (N-1) (by omega);have HF:=Lib.hid (HB.out (some (ds.getD (N-1) dN)) (by
    rw [hdn,List.drop_of_length_le (by rw [HN.out];exact Nat.le_refl _)];show some (ds.getD (N-1) dN)=some (ds.getD (ds.length-1) dN);rw [hdn]))
   clear hdn;obtain ⟨q,hq⟩:∃ q,ds.getD (N-1) dN=q:=⟨_,rfl⟩;rw [hq] at hD hqv hql HF;clear hq;obtain ⟨bx1,bx2,bx3,bx4,bx5,bx6,bx7,bx8,hAe⟩:=hD.agg;injection hAe with hAe
   unfold dA at hAe;injection hAe with hAe
   injection hAe with e1 hAe
   injection hAe with e2 hAe
   injection hAe with e3 _
   subst e1;subst e2;subst e3;rw [Nat.zero_add] at hr;have HRg:=Lib.hid hr;have HDD:=Lib.hid hD;obtain ⟨M,hM⟩:∃ M,N-1=M:=⟨_,rfl⟩;rw [hM] at hwN HRg;have hMN:M<N:=by omega
   clear hM hr hD;go_wp2_with (first
    | (refine wpList_load_mid rfl 30 (.tmp 45) rfl g (M*3) rfl _ _ HRg.out Tryz.underlying30 rfl (Fe _ _ _) ?_)
    | (refine wpList_store_row rfl 30 (.tmp 2) (.tmp 46) rfl _ _ rfl rfl _ _ H2.out Ad rfl (An _ _ _ rfl rfl rfl) ?_))
   refine bodyPost_ret (v:=.tuple #[.agg (dA (.slice bx1 bx2 bx3) (.slice bx4 q.nxt.length bx5) (.slice bx6 bx7 bx8)),.int .i64 0]) (A2 rfl _ _ _ _ _ _ _ rfl _ rfl (setRow_heap wr _ _ (dA (.slice bx1 bx2 bx3) (.slice bx4 q.nxt.length bx5) (.slice bx6 bx7 bx8)) 30 (0,0) H2.out) Tryz.underlying30 rfl Ad) rfl ?_;exact ⟨some q,⟨_,rfl,IsD.setRow hqv HDD.out H2.out _⟩,HF.out,hE.setRow (Nat.le_refl _) _⟩
end Go.Proofs.YtaiogolidlamiaaGreatDoor
