import Derived.Test.YtilncahcpjlfnaaGreatDoorM08
import Derived.Great.FillDense
import Derived.Great.BuildSlice
import Derived.Test.YtilncahcpjlfnaaGreatDoorM01
import Derived.Test.YtilncahcpjlfnaaGreatDoorM06
import Derived.Test.YtilncahcpjlfnaaGreatDoorM03
import Derived.Test.YtilncahcpjlfnaaGreatDoorM02
set_option linter.unusedVariables false
set_option linter.unusedSimpArgs false
set_option maxRecDepth 100000
set_option maxHeartbeats 8000000
open And renaming intro → ï
open Bool renaming true → Α, false → Ε, eq_iff_iff → Ϸ
open Classical renaming byContradiction → Ë
open Go renaming Value → Δ, World → Γ, Calls → ϛ, info_parts → ϓ, wpList_make_full → Ϟ, maxLen → ϐ, wpList_load_mid → å, setRow_heap → Χ, cell_of_row → Τ, bodyPost_ret → ω, Oper → ϳ, wpList_append_lies → Ϙ, cell_one_new → Ý, wpQuiet_step → Ϧ, undef → Ω
open Go.Act renaming put → η
open Go.Ending renaming returned → Ψ
open Go.IntKind renaming i64 → Φ, u64 → ζ, i64 → Ü, u8 → é
open Go.Lib renaming hid → Z
open Go.Obj renaming cells → Β
open Go.Operand renaming tmp → δ
open Go.Proofs.Tryz renaming prog → Η, underlying54 → Ϥ, underlying96 → Ù, underlying40 → Ο, underlying22 → ύ, underlying38 → ä
open Go.Region renaming wanted → ϧ
open Go.RowKit renaming Hid → ϟ
open Go.Value renaming oneCell' → ξ, slice → U, tuple → ϗ, int → Â, slice → Ϗ, pointer → ε, bool → ϊ
open Go.World renaming ownsRow → ϥ, ownsRow_lit → Á
open List renaming getD_eq_getElem?_getD → Ζ, getElem?_eq_getElem → Ι, range → π, ext_getElem? → Ϯ, getElem?_map → ν, length_cons → ϑ, replicate → θ, length_append → Ν, length_singleton → Ϩ, getElem?_eq_some_iff → ο, drop_eq_getElem_cons → Ϝ, getElem?_append_left → χ, getElem?_append_right → ς, getElem?_toArray → Ã, map_append → ϩ, setIfInBounds_toArray → Θ, set_cons_zero → Μ, set_cons_succ → Λ, length_set → υ, drop_zero → ϰ, mem_iff_getElem → Ï, mem_singleton → ϙ, mem_range → ϔ
open List.cons renaming injEq → ì
open Nat renaming le_refl → Υ, le_of_eq → Ô, lt_of_lt_of_le → Ξ, zero_add → ϖ
open Option renaming some → J, none → I
namespace Go.Proofs.YtilncahcpjlfnaaGreatDoor
open Go.RowKit Go.Shelf
def rnC (n:RNode):Array Δ:=rnA n.kind n.l n.r n.c n.min n.max
def RxAt (W:Γ) (b o:Nat) (xs:List RNode):Prop:=∀ i,i<xs.length->W.rangeAt b (o+i*9) (rnC (xs.getD i ⟨0,0,0,0#256,0,0⟩)).toList
theorem RxAt.ext {W W':Γ} {b o:Nat} {xs:List RNode} (h:RxAt W b o xs) (E:Ext W W'):RxAt W' b o xs:=λi hi j v G=>E.cell (h i hi j v G)
def Hg (n:RNode) (j:Nat):Nat:=(if 0<arK n.kind/\n.l=j then 1 else 0)+(if 1<arK n.kind/\n.r=j then 1 else 0)
def par (xs:List RNode) (j:Nat):Nat:=(xs.map λn=>Hg n j).sum
theorem KZ (xs:List RNode) (n:RNode) (j:Nat):par (xs++[n]) j=par xs j+Hg n j:=by simp[par]
structure VRx (xs:List RNode):Prop where
 pos:0<xs.length
 le:xs.length<=200
 node:∀ i,i<xs.length->VNode (xs.getD i ⟨0,0,0,0#256,0,0⟩).kind (xs.getD i ⟨0,0,0,0#256,0,0⟩).l (xs.getD i ⟨0,0,0,0#256,0,0⟩).r (xs.getD i ⟨0,0,0,0#256,0,0⟩).c (xs.getD i ⟨0,0,0,0#256,0,0⟩).min (xs.getD i ⟨0,0,0,0#256,0,0⟩).max i
 par:∀ j,j+1<xs.length->par xs j=1
theorem Li (n:RNode):(rnC n).all (·.oneCell')=Α:=by simp[rnC,rnA,ξ]
theorem Qc (n:RNode):(Η.info? 96).map (·.size)=J (rnC n).toList.length:=by rw[show (rnC n).toList.length=9 from rfl];exact Zd
theorem Dh (n:RNode):(Η.info? 96).map (·.size)=J (rnC n).size:=Zd
theorem FR (xs:List RNode) (i:Nat) (h:i<xs.length):xs.take (i+1)=xs.take i++[xs.getD i ⟨0,0,0,0#256,0,0⟩]:=by rw[List.take_succ_eq_append_getElem h,Ζ,Ι h];rfl
def Dp (N:Nat) (f:Nat->Nat):List Nat:=(π N).map f
theorem Gj (N:Nat) (f:Nat->Nat):(Dp N f).length=N:=by simp[Dp]
theorem Nf (N:Nat) (f:Nat->Nat) (x:Nat) (hx:x<N):(Dp N f).getD x 0=f x:=E0 _ _ _ _ hx
theorem Qa (N:Nat) (f:Nat->Nat) (x:Nat) (hx:x<N):(Dp N f).set x (f x+1)=Dp N λj=>f j+if x=j then 1 else 0:=by
 apply Ϯ;intro i;rw[List.getElem?_set,Gj];simp only[Dp,ν];by_cases e:x=i
 ·subst e;simp[hx]
 by_cases hi:i<N
 ·simp[List.getElem?_range hi,e]
 simp[e,hi]
theorem YM (k:Nat):arK k<=2:=by
 unfold arK;split
 ·omega
 split<;>omega
theorem Wx:∀ (xs:List RNode) (j:Nat),par xs j<=2*xs.length
 | [],j=>by simp[par]
 | n::xs,j=>by
  have:=Wx xs j;have h1:Hg n j<=2:=by unfold Hg;split<;>split<;>omega
  simp only[par,List.map_cons,List.sum_cons,ϑ] at this ⊢;omega
theorem Oa (p:Nat):iv (p+1)=.int Φ ((p:Int)+1):=by simp
theorem Qb {N:Nat} {f g:Nat->Nat} (h:∀ j,f j=g j):Dp N f=Dp N g:=by rw[show f=g from funext h]
abbrev Cn:Array Δ:=#[.int Φ 0,.int ζ 0,.int ζ 0,.int ζ 0,.int ζ 0,.int Φ 0,.int Φ 0,.int Φ 0,.int Φ 0]
theorem Pj (xs:List RNode) (hx:VRx xs) (b o b4:Nat) (w:Γ) (h:RxAt w b o xs) :
  ϛ Η 40 #[U (J ⟨b,o,I⟩) xs.length b4] w λe w'=>e=Ψ (.int Φ 0)/\Ext w w':=by
 have HX:=Z hx;have HR:=Z h;obtain⟨i0,hi,b7,b8,b9⟩:=ϓ Dw;obtain⟨N,hN⟩:=Xq (xs.length);have ca:=hx.pos;have cb:=hx.le;rw[hN] at ca cb;rw[hN];have T:=Z hN;have f116:=λi (hi:i<N) W=>Z (CY _ (HX.o.node i (by rw[T.o];exact hi)).k1 (HX.o.node i (by rw[T.o];exact hi)).k8 W)
 have f115:=λi (hi:i<N) W=>Z (WC _ _ _ _ _ _ i (HX.o.node i (by rw[T.o];exact hi)) W)
 have c1:¬ (200:Int)<(N:Int):=by omega
 have c2:((N:Int)==0)=Ε:=by simp;omega
 have cc:Ü.wrap ((N:Int)-1)=((N-1:Nat):Int):=by rw[show (N:Int)-1=((N-1:Nat):Int) by omega];exact IntWalk.i64_in _ ⟨by omega,by omega⟩
 clear hx h hN;go_enter Tryz.func40,Tryz.ntmps40;go_upto_region 6 with (at_make;refine Ϟ _ rfl _ _ 54 rfl w.heap.size 3 i0 (.int Φ 0) 1 Ϥ hi b7 b8 Φ Φ _ _ N rfl rfl rfl rfl (by rw[b9];omega) (by unfold ϐ;omega) (Υ _) ?_;intro w1 bh bj)
 have bk:Ext w w1:=(Κ w).grown bj (λk e=>by cases e);have bl:w1.ownsRow w.heap.size 3 1 (U (J ⟨w.heap.size,0,I⟩) N N) N ((Dp N λ_=>0).map iv):=by
  have:Dp N (λ_=>0)=θ N 0:=by apply Ϯ;intro j;simp only[Dp,ν,List.getElem?_replicate];by_cases hj:j<N<;>simp[hj]
  rw[this,<-B8];exact bh
 clear bh bj c1 c2;generalize hg:w.heap.size=g at *;have HG:=Z hg;clear hg;go_wp2_with (fail);go_loopw [22] (λv W=>∃ i:Nat,i<=N/\v=.int Φ i/\Ext w W/\W.ownsRow g 3 1 (U (J ⟨g,0,I⟩) N N) N ((Dp N (par (xs.take i))).map iv))
  (λv _=>N-(intOf v).toNat)
 case atStart=>exact⟨0,by omega,rfl,bk,bl⟩
 clear bk bl;obtain⟨i,cy,rfl,G,E⟩:=hrel;by_cases ah:i<N
 ·have ay:=(HR.o.ext G) i (by rw[T.o];exact ah);have hv:=HX.o.node i (by rw[T.o];exact ah);have f116:=f116 i ah;have f115:=f115 i ah;have az:=FR xs i (by rw[T.o];exact ah);obtain⟨n,hn⟩:=Xq (xs.getD i ⟨0,0,0,0#256,0,0⟩);rw[hn] at ay hv f116 f115 az;have cg:=Z az;clear hn az;have f115:∀ W,ϟ (ϛ Η 70 #[.agg (rnC n),iv i] W λe w'=>e=Ψ (.int Φ 0)/\Ext W w'):=f115;go_upto_region 9 with (first
   | (refine å rfl 96 (δ 25) rfl b (o+i*9) rfl _ _ ay Ù rfl (Qc n) ?_)
   | (refine Sr 96 (δ 5) (δ 26) rfl (Ad wr (Β Cn 96)) (Dh n) rfl (Li n) ?_))
  have ar:=((Κ wr).alloc (Β Cn 96)).setRow (Υ _) (rnC n);have H5:=Χ (wr.alloc (Β Cn 96)) wr.heap.size _ (rnC n) _ _ (Ad wr (Β Cn 96));obtain⟨w2,a1⟩:=Xq ((wr.alloc (Β Cn 96)).setRow wr.heap.size (rnC n));rw[a1] at ar H5;simp only[a1];clear a1 ay;have E:=Aa E ar;have G:=G.t ar;have H5:=Z H5;generalize wr.heap.size=g5 at *;clear ar;have a6:=Wx (xs.take i);have cj:(xs.take i).length<=200:=by rw[List.length_take];omega
  obtain⟨f,hf⟩:=Xq (par (xs.take i));rw[hf] at E a6;have a8:ϟ (∀ j,par (xs.take (i+1)) j=f j+Hg n j):=Z λj=>by rw[cg.o,KZ,hf]
  have bn:∀ j,f j<=400:=λj=>by have:=a6 j;omega
  have ba:=Z bn;clear a6 cj hf bn;obtain⟨a,ha⟩:=Xq (arK n.kind);have au:=YM n.kind;have af:=hv.l1;have ai:=hv.r1;rw[ha] at f116 au af ai;have HA:=Z ha;clear ha hv;go_upto_region 12 with (first
   | (refine Lr 96 (δ 5) H5.o Ù (Dh n) ?_)
   | (go_at_call 70;(with_reducible refine (f115 _).o.mono ?_);rintro e w3 ⟨rfl,aw⟩))
  have E:=Aa E aw;have G:=G.t aw;have aj:=aw.heap H5.o;have q0:=(Τ w3 g5 0 _ _ _ aj).trans (show (rnC n)[0]? = J (iv n.kind) from rfl);have q5:=(Τ w3 g5 5 _ _ _ aj).trans (show (rnC n)[5]? = J (iv n.l) from rfl);have q6:=(Τ w3 g5 6 _ _ _ aj).trans (show (rnC n)[6]? = J (iv n.r) from rfl);have bp:=B3 E aj (by decide);have be:w.heap.size<=g:=Ô HG.o;have bq:g5≠g:=λe=>by
   rcases bp with h|h
   ·cases h
   exact h (by rw[e];rfl)
  clear aw H5 aj bp;have cm:a=0\/a=1\/a=2:=by omega
  rcases cm with rfl|rfl|rfl
  ·have X:Dp N (par (xs.take (i+1)))=Dp N f:=Qb λj=>by rw[a8.o];unfold Hg;rw[HA.o];simp
   rw[<-X] at E;clear af ai au X;go_wp2_with (first
    | (go_at_call 71;(with_reducible refine (f116 _).o.mono ?_);rintro e W' ⟨rfl,rfl⟩))
   go_roundw
   case rel=>exact⟨i+1,by omega,by go_num,G,E⟩
   simp[intOf];omega
  ·have hl:=af (by omega);have aa:n.l<N:=by omega
   have cl:=Au 0 E (Gj _ _).symm n.l (by rw[Gj];exact aa);rw[Nf _ _ _ aa] at cl;have fl:=E.frozenAt n.l;obtain⟨H,ab⟩:=Ba E n.l (f n.l+1);rw[Qa _ _ _ aa] at H;have X:Dp N (par (xs.take (i+1)))=Dp N (λj=>f j+if n.l=j then 1 else 0):=Qb λj=>by rw[a8.o];unfold Hg;rw[HA.o];simp
   rw[<-X] at H;have ak:=G.grown ab (λk e=>by cases e;exact be);have hb:=ba.o n.l;rw[Oa] at H ak;clear af ai au X ab E G;generalize f n.l=p at *;go_wp2_with (first
    | (go_at_call 71;(with_reducible refine (f116 _).o.mono ?_);rintro e W' ⟨rfl,rfl⟩))
   go_roundw
   case rel=>exact⟨i+1,by omega,by go_num,ak,H⟩
   simp[intOf];omega
  have hl:=af (by omega);have hr:=ai (by omega);have aa:n.l<N:=by omega
  have bg:n.r<N:=by omega
  have cl:=Au 0 E (Gj _ _).symm n.l (by rw[Gj];exact aa);rw[Nf _ _ _ aa] at cl;have fl:=E.frozenAt n.l;obtain⟨H,ab⟩:=Ba E n.l (f n.l+1);rw[Qa _ _ _ aa] at H;have cq:=(ab.cell_far ⟨g5,0,I⟩ (BL q0) (by simp[bq])).trans q0;have ct:=(ab.cell_far ⟨g5,6,I⟩ (BL q6) (by simp[bq])).trans q6;have ak:=G.grown ab (λk e=>by cases e;exact be);have cr:=Au 0 H (Gj _ _).symm n.r (by rw[Gj];exact bg);rw[Nf _ _ _ bg] at cr;have fr:=H.frozenAt n.r;obtain⟨hQ,br⟩:=Ba H n.r ((f n.r+if n.l=n.r then 1 else 0)+1);have e2:=Qa N (λj=>f j+if n.l=j then 1 else 0) n.r bg;rw[e2] at hQ;have X:Dp N (par (xs.take (i+1)))=Dp N (λj=>(f j+if n.l=j then 1 else 0)+if n.r=j then 1 else 0):=Qb λj=>by rw[a8.o];unfold Hg;rw[HA.o];simp;omega
  rw[<-X] at hQ;have bu:=ak.grown br (λk e=>by cases e;exact be);have hb:=ba.o n.l;have c5:(f n.r+if n.l=n.r then 1 else 0)<=401:=by have:=ba.o n.r;split<;>omega
  clear af ai au X e2 ab br E G H ak;generalize f n.r+(if n.l=n.r then 1 else 0)=p2 at *;generalize f n.l=p at *;rw[Oa] at cq ct cr fr;rw[Oa,Oa] at hQ bu;go_wp2_with (first
   | (go_at_call 71;(with_reducible refine (f116 _).o.mono ?_);rintro e W' ⟨rfl,rfl⟩))
  go_roundw
  case rel=>exact⟨i+1,by omega,by go_num,bu,hQ⟩
  simp[intOf];omega
 obtain rfl:N=i:=by omega
 rw[show xs.take N=xs by rw[<-T.o];exact List.take_length] at E;have bw:=λk (hk:k<N)=>Au 0 E (Gj _ _).symm k (by rw[Gj];exact hk)
 have bz:=λk (hk:k<N-1)=>HX.o.par k (by rw[T.o];omega)
 have HC:=Z (λk (hk:k<N-1)=>by have:=bw k (by omega);rw[Nf _ _ _ (by omega),bz k hk] at this;exact (this:wr.cell? ⟨g,k,I⟩=J (iv 1)))
 clear bw bz E;obtain⟨M,hM⟩:=Xq (N-1);rw[hM] at cc HC;have c7:M<N:=by omega
 clear hM;go_upto_region 18 with (fail)
 obtain⟨wq,cv⟩:∃ W,W=wr:=⟨_,rfl⟩;subst cv;go_loopw [62] (λv W=>∃ k:Nat,k<=M/\v=.int Φ k/\W=wq) (λv _=>M-(intOf v).toNat)
 case atStart=>exact⟨0,by omega,rfl,rfl⟩
 obtain⟨k,hk,rfl,rfl⟩:=hrel;by_cases cw:k<M
 ·have ck:wr.cell? ⟨g,k,I⟩=J (.int Φ 1):=HC.o k cw;go_wp2;go_roundw
  case rel=>exact⟨k+1,by omega,by go_num,trivial⟩
  simp[intOf];omega
 obtain rfl:M=k:=by omega
 go_wp2;go_ret;exact⟨rfl,G⟩
theorem Sl.setNil {W:Γ} {v:Δ} {k n:Nat} {f:Nat->Δ} (h:Sl W v k n f) {g o:Nat} {cs:List Δ} (T:W.heap.size<=(W.setCells g o cs).heap.size) (X:∀ j,j<cs.length->W.cell? ⟨g,o+j,I⟩=J (U I 0 0)) (aa:∀ i,i<n*k->f i≠U I 0 0):Sl (W.setCells g o cs) v k n f:=by
 obtain⟨h1,h|⟨hn,b,E,ad,hv,hb,hc⟩⟩:=h
 ·exact⟨h1,.inl h⟩
 refine⟨h1,.inr ⟨hn,b,E,ad,hv,Ξ hb T,λi hi=>?_⟩⟩;rw[Γ.cell?_setCells_out]
 ·exact hc i hi
 intro H _;have H:b=g:=H;subst H;show E+i<o\/o+cs.length<=E+i;apply Ë;intro af;have G:=X (E+i-o) (by omega);rw[show o+(E+i-o)=E+i by omega,hc i hi] at G;injection G with G
 exact aa i hi G
theorem IsD.setNil {W:Γ} {v:Δ} {d:Dfa} (H:Val d) (h:IsD W v d) {g o:Nat} {cs:List Δ} (E:W.heap.size<=(W.setCells g o cs).heap.size) (G:∀ j,j<cs.length->W.cell? ⟨g,o+j,I⟩=J (U I 0 0)):IsD (W.setCells g o cs) v d:=by
 obtain⟨vc,X,va,rfl,h1,⟨vs,ab,hN,T⟩,h3⟩:=h;refine⟨vc,X,va,rfl,Sl.setNil h1 E G (λi _ e=>by cases e),⟨vs,ab,Sl.setNil hN E G (λi hi e=>?_),λi hi=>Sl.setNil (T i hi) E G (λi _ e=>by cases e)⟩,Sl.setNil h3 E G (λi _ e=>by cases e)⟩;have hi:i<d.n.length:=by simpa using hi
 obtain⟨b,ag,ah,af,_⟩:=â (T i hi) (by rw[H.row i hi];exact H.parts.pos);rw[af] at e;cases e
theorem P6 (W:Γ) (g o:Nat) (a b c:Δ):W.setCells g o [a,b,c]=((W.setCell ⟨g,o,I⟩ a).setCell ⟨g,o+1,I⟩ b).setCell ⟨g,o+1+1,I⟩ c:=rfl
theorem W6 {W:Γ} {base e g n E size:Nat} {xs:List Δ} (h:W.ownsRow base e size (U (J ⟨g,0,I⟩) n E) n xs) (o:Nat) (a b c:Δ) :
  (∃ ys,(W.setCells g o [a,b,c]).ownsRow base e size (U (J ⟨g,0,I⟩) n E) n ys)/\W.grownBy (W.setCells g o [a,b,c]) (J g):=by
 have h0:=h.stored o a;have h1:=h0.1.stored (o+1) b;have G:=h1.1.stored (o+1+1) c;rw[P6];exact⟨⟨_,G.1⟩,h0.2.trans (h1.2.trans G.2)⟩
structure Lds (W:Γ) (g N:Nat) (ds:List Dfa):Prop where
 at_:DsAt W g 0 ds
 nil:∀ j,ds.length*3<=j->j<N*3->W.cell? ⟨g,j,I⟩=J (U I 0 0)
theorem Lds.ext {W W':Γ} {g N:Nat} {ds:List Dfa} (h:Lds W g N ds) (E:Ext W W'):Lds W' g N ds:=⟨h.at_.ext E,λj h1 G=>E.cell (h.nil j h1 G)⟩
theorem Lds.store {W:Γ} {g N:Nat} {ds:List Dfa} (h:Lds W g N ds) (X:okD ds) (hN:ds.length<N) {a b c:Δ} {q:Dfa} (hq:Val q) (hD:IsD W (.agg #[a,b,c]) q) (T:W.heap.size<=(W.setCells g (ds.length*3) [a,b,c]).heap.size):Lds (W.setCells g (ds.length*3) [a,b,c]) g N (ds++[q]):=by
 have G:∀ j,j<[a,b,c].length->W.cell? ⟨g,ds.length*3+j,I⟩=J (U I 0 0):=λj E=>h.nil _ (by omega) (by have:j<3:=E;omega)
 refine⟨λi hi=>?_,λj h1 h2=>?_⟩
 ·rw[Ν,Ϩ] at hi;by_cases e:i<ds.length
  ·obtain⟨v1,v2,v3,hr,hI⟩:=h.at_ i e;refine⟨v1,v2,v3,λj v E=>?_,?_⟩
   ·have H:j<3:=by have:=(ο.1 E).1;exact this
    rw[Γ.cell?_setCells_out]
    ·exact hr j v E
    intro _ _;left
    show 0+i*3+j<ds.length*3;omega
   rw[Ca _ _ _ _ e];exact IsD.setNil (X i e).1 hI T G
  obtain rfl:i=ds.length:=by omega
  refine⟨a,b,c,λj v E=>?_,?_⟩
  ·have H:j<[a,b,c].length:=(ο.1 E).1;have:=Γ.cell?_setCells_in g [a,b,c] (ds.length*3) W (λj E=>by rw[G j E];rfl) j H;rw[ϖ,this,<-E,Ι H]
  rw[Dx];exact IsD.setNil hq hD T G
 rw[Ν,Ϩ] at h1;rw[Γ.cell?_setCells_out]
 ·exact h.nil j (by omega) h2
 intro _ _;right
 show ds.length*3+3<=j;omega
theorem Ry {n:RNode} {i:Nat} (h:VNode n.kind n.l n.r n.c n.min n.max i):n.good i/\n.min<=16/\(n.max=-1\/(n.min:Int)<=n.max)/\n.max<=16:=by
 have hm:n.min<=16/\(n.max=-1\/(n.min:Int)<=n.max)/\n.max<=16:=by
  by_cases e:n.kind=8
  ·obtain⟨h1,G,X,T⟩:=h.m8 e;refine⟨h1,?_,G⟩;by_cases H:n.max=-1
   ·exact .inl H
   exact .inr (T H)
  obtain⟨h1,G⟩:=h.m0 e;rw[h1,G];exact⟨by omega,.inr (by simp),by omega⟩
 refine⟨⟨λE=>?_,λE=>?_,?_,h.k1,h.k8⟩,hm⟩
 ·have:arK n.kind=2:=by unfold arK;rw[if_pos E]
  exact⟨h.l1 (by omega),h.r1 (by omega)⟩
 ·have:0<arK n.kind:=by unfold arK;rcases E with E|E<;>rw[E]<;>decide
  exact h.l1 this
 rcases hm.2.1 with h1|h1
 ·left;omega
 exact .inr h1
theorem Zf:(Η.info? 40).map (λi=>(i.zero,i.size,i.bytes))=J (J zD,3,72):=by kernel_rfl
theorem Yb (N j:Nat) (E:j<N*3):(madeCells zD.cells (N*3)).toList[j]? = J (U I 0 0):=by
 have hc:zD.cells=#[U I 0 0,U I 0 0,U I 0 0]:=rfl;rw[hc];have G:j % 3=0\/j % 3=1\/j % 3=2:=by omega
 rcases G with h|h|h<;>simp[madeCells,E,h]
theorem XR (xs:List RNode) (ds:List Dfa) (hi:ds.length<xs.length) {q:Option Dfa} {r:Option Dfa} (h1:F2 (xs.getD ds.length ⟨0,0,0,0#256,0,0⟩) ds q) (E:Eo q (λd=>Dn (xs.drop (ds.length+1)) (ds++[d])) r):Dn (xs.drop ds.length) ds r:=by
 have e:xs.drop ds.length=xs.getD ds.length ⟨0,0,0,0#256,0,0⟩::xs.drop (ds.length+1):=by rw[Ϝ hi,Ζ,Ι hi];rfl
 rw[e];exact⟨q,h1,E⟩
theorem MX {n:RNode} {ds:List Dfa} (ab:okD ds) (hg:n.good ds.length) {q:Dfa} (h:F2 n ds (J q)):Val q/\q.n.length<=64:=by
 obtain⟨g1,g2,g3,g4,g5⟩:=hg;unfold F2 at h;have G:∀ {L:Ag},Fb L (J q)->Fit q L:=fun⟨e,T,e2,e3⟩=>by
  injection T with T
  subst T;exact⟨e2,e3⟩
 by_cases c1:n.kind=1
 ·rw[if_pos c1] at h;have E:=G h;have:=Gs E (λ_ _=>0) (λ_=>False) 1 (by omega) (λs x _=>by omega) (λw=>Iff.rfl);exact⟨E.1.val,by omega⟩
 rw[if_neg c1] at h;by_cases c2:n.kind=2
 ·rw[if_pos c2] at h;have E:=G h;have:=Gl E;exact⟨E.1.val,by omega⟩
 rw[if_neg c2] at h;by_cases c3:n.kind=3
 ·rw[if_pos c3] at h;have E:=G h;have:=Jy (p:=λx=>n.c.getLsbD x.toNat=Α) E;exact⟨E.1.val,by omega⟩
 rw[if_neg c3] at h;by_cases c4:n.kind=4
 ·rw[if_pos c4] at h;exact I2 h q rfl
 rw[if_neg c4] at h;by_cases c5:n.kind=5
 ·rw[if_pos c5] at h;exact⟨h.1.val,h.2.2⟩
 rw[if_neg c5] at h;by_cases c6:n.kind=6
 ·rw[if_pos c6] at h;exact⟨h.1.val,h.2.2⟩
 rw[if_neg c6] at h;by_cases X:n.kind=7
 ·rw[if_pos X] at h;have E:=G h;obtain⟨H,hl⟩:=ab n.l (g2 (.inl X));have:=WO E.1 (Xj (Bu H)) (λw=>by rw[Ϸ,E.2,Xk (Bu H),Eg];simp)
  exact⟨E.1.val,Nat.le_trans this hl⟩
 rw[if_neg X] at h;obtain⟨H,hl⟩:=ab n.l (g2 (.inr (by omega)));exact V7 H hl h q rfl
theorem CG (xs:List RNode) (hx:VRx xs) (b o b9:Nat) (w:Γ) (hT:Tab w) (cb:0<w.heap.size) (h:RxAt w b o xs) :
  ϛ Η 17 #[U (J ⟨b,o,I⟩) xs.length b9] w λe w'=>∃ r,ResOf w' e r/\Dn xs [] r/\Ext w w':=by
 have dm:=Z (λW (H:Ext w W)=>hT.below H.below cb);have HX:=Z hx;have HR:=Z h;have f82:=λW (H:Ext w W)=>Z (Pj xs hx b o b9 W (h.ext H))
 obtain⟨i0,hi,dr,dt,du⟩:=ϓ Zf;obtain⟨N,hN⟩:=Xq (xs.length);have dv:=hx.pos;have cc:=hx.le;rw[hN] at dv cc f82;rw[hN];have HN:=Z hN;have dw:Ü.wrap ((N:Int)-1)=((N-1:Nat):Int):=by rw[show (N:Int)-1=((N-1:Nat):Int) by omega];exact IntWalk.i64_in _ ⟨by omega,by omega⟩
 have bh:=(Κ w).alloc (Β #[U I 0 0,U I 0 0,U I 0 0] 40);have E:=Ad w (Β #[U I 0 0,U I 0 0,U I 0 0] 40);clear hx h hN hT;go_enter Tryz.func17,Tryz.ntmps17;go_upto_region 1 with (fail)
 obtain⟨w1,bj⟩:=Xq (w.alloc (Β #[U I 0 0,U I 0 0,U I 0 0] 40));rw[bj] at bh E;simp only[bj];clear bj;have E:=Z E;have bk:=Z bh;clear bh;go_upto_region 4 with (go_at_call 40;(with_reducible refine (f82 _ bk.o).o.mono ?_);rintro e w2 ⟨rfl,T⟩;have cd:=Z (bk.o.t T);have E:=Z (T.heap E.o);clear T)
 have ej:=cd.o.size;go_upto_region 5 with (at_make;refine Ϟ _ rfl _ _ 31 rfl w2.heap.size 40 i0 zD 3 Tryz.underlying31 hi dr dt Φ Φ _ _ N rfl rfl rfl rfl (by rw[du];omega) (by unfold ϐ;omega) (Υ _) ?_;intro w3 bl bm)
 have cf:=cd.o.grown bm (λk e=>by cases e);have cg:=(bm.block w.heap.size (Al E.o) (by simp)).trans E.o;have cj:Lds w3 w2.heap.size N []:=⟨λi hi=>absurd hi (by simp),λj _ hj=>by rw[bl.cellAt j hj];exact Yb N j hj⟩;have ek:w.heap.size<w2.heap.size:=Al E.o;generalize w2.heap.size=g at *;clear bm f82 bk;go_wp2_with (fail);go_loopw [21] (λv W=>∃ ds:List Dfa,ds.length<=N/\v=.int Φ ds.length/\Ext w W/\(∃ ys,W.ownsRow g 40 3 (U (J ⟨g,0,I⟩) N N) N ys)/\ϟ (W.heap[w.heap.size]? = J (Β #[U I 0 0,U I 0 0,U I 0 0] 40 (0,0)))/\ϟ (Lds W g N ds)/\ϟ (okD ds)/\ϟ (∀ r,Dn (xs.drop ds.length) ds r->Dn xs [] r))
  (λv _=>N-(intOf v).toNat)
 case atStart=>exact⟨[],by simp,rfl,cf,⟨_,bl⟩,Z cg,Z cj,Z (λi hi=>absurd hi (by simp)),Z λr h=>h⟩
 clear cf bl cg cj E;obtain⟨ds,en,rfl,hE,⟨ys,hO⟩,E,HL,au,HB⟩:=hrel;by_cases ba:ds.length<N
 ·have bo:=(HR.o.ext hE) ds.length (by rw[HN.o];exact ba);have hv:=HX.o.node ds.length (by rw[HN.o];exact ba);have bq:=Z (λ(q r:Option Dfa)=>XR xs ds (by rw[HN.o];exact ba) (q:=q) (r:=r));obtain⟨n,hn⟩:=Xq (xs.getD ds.length ⟨0,0,0,0#256,0,0⟩);rw[hn] at bo hv bq;obtain⟨br,cl,cm,cn⟩:=Ry hv;have eo:((ds.length:Nat):Int)<(N:Int):=by omega
  have f83:∀ W,Ext wr W->ϟ (ϛ Η 41 #[.agg (rnC n),U (J ⟨g,0,I⟩) N N] W λe w'=>∃ q,ResOf w' e q/\F2 n ds q/\Ext W w'):=λW H=>Z (MU n.kind n.l n.r n.c n.min n.max ds br cl cm cn au.o g 0 N N (by omega) cc W (dm.o W (hE.t H)) (Ξ cb (hE.t H).size) (HL.o.at_.ext H))
  have dy:=Z br;clear hn hv br cl cm cn;generalize cp:ds.length=i at *;have X:=Z cp;clear cp;go_upto_region 8 with (first
   | (refine å rfl 96 (δ 24) rfl b (o+i*9) rfl _ _ bo Ù rfl (Qc n) ?_)
   | (refine Sr 96 (δ 7) (δ 25) rfl (Ad wr (Β Cn 96)) (Dh n) rfl (Li n) ?_))
  have T:=((Κ wr).alloc (Β Cn 96)).setRow (Υ _) (rnC n);have H7:=Χ (wr.alloc (Β Cn 96)) wr.heap.size _ (rnC n) _ _ (Ad wr (Β Cn 96));obtain⟨w4,bt⟩:=Xq ((wr.alloc (Β Cn 96)).setRow wr.heap.size (rnC n));rw[bt] at T H7;simp only[bt];clear bt bo;have H7:=Z H7;have bu:=Z T;generalize wr.heap.size=g7 at *;clear T;go_upto_region 9 with (first
   | (refine Lr 96 (δ 7) H7.o Ù (Dh n) ?_)
   | (go_at_call 41;(with_reducible refine (f83 _ bu.o).o.mono ?_);rintro e w5 ⟨q,bw,cq,ct⟩;obtain⟨aa,ab,ad,ae,af,ag,ah,ai,aj,k1,rfl⟩:=bw.form;have bb:=Z bw;have bz:=Z cq;have dz:=Z (bu.o.t ct);clear bw cq ct)
   | (refine Sr 40 (δ 8) (δ 30) rfl (Ad w5 (Β #[U I 0 0,U I 0 0,U I 0 0] 40)) Ae rfl (Av _ _ _ rfl rfl rfl) ?_))
  obtain⟨bc,b0⟩:=Dv w5 (dA (U aa ab ad) (U ae af ag) (U ah ai aj));obtain⟨w6,b5⟩:=Xq ((w5.alloc (Β #[U I 0 0,U I 0 0,U I 0 0] 40)).setRow w5.heap.size (dA (U aa ab ad) (U ae af ag) (U ah ai aj)));rw[b5] at bc b0;simp only[b5];clear b5;have ay:=dz.o.t bc;have cu:=Z (hE.t ay);have H8:=Z b0;have E:=Z (ay.heap E.o);have HL:=Z (HL.o.ext ay);have hO:=Aa hO ay;have bb:=Z (bb.o.ext bc);generalize w5.heap.size=g8 at *;clear bc b0 ay hE f83 H7 bu;cases q with
  | none=>
   obtain⟨rfl,hz⟩:=bb.o.none_inv;have ec:=Z Ga;have HF:=Z (HB.o I (bq.o I I bz.o rfl));clear hz hO;go_wp2_with (first
    | (refine Bk rfl 40 _ rfl #[U I 0 0,U I 0 0,U I 0 0] ?_ ?_;(simp;with_reducible exact ec.o))
    | (refine Sr 40 (δ 2) (δ 34) rfl E.o Ae rfl Fg ?_))
   refine ω (v:=ϗ #[zD,.int Φ 2]) (Bi rfl _ _ _ _ _ _ _ rfl _ rfl (Χ w6 _ _ #[U I 0 0,U I 0 0,U I 0 0] 40 (0,0) E.o) Ο rfl Ae) rfl ?_;exact⟨I,rfl,HF.o,cu.o.setRow (Υ _) _⟩
  | some q=>
   obtain⟨rfl,cv⟩:=bb.o.some_inv;obtain⟨az,b6⟩:=MX au.o (by rw[X.o];exact dy.o) bz.o;obtain⟨⟨zs,cw⟩,be⟩:=W6 hO (i*3) (U aa ab ad) (U ae af ag) (U ah ai aj);have b7:=HL.o.store au.o (by rw[X.o];exact ba) az cv (by rw[X.o];exact be.size);rw[X.o] at b7;have cy:w6.there g (i*3) 3:=λj hj=>by refine⟨?_,hO.frozenAt _⟩;rw[HL.o.nil (i*3+j) (by rw[X.o];omega) (by omega)];rfl
   have cz:=cu.o.grown be (λk e=>by cases e;omega);have bf:=(be.block w.heap.size (Al E.o) (by simp;omega)).trans E.o;have c3:=Z cy;have c4:=Z b7;have c5:=Z cw;have c6:=Z cz;have bf:=Z bf;have ed:ϟ (okD (ds++[q])):=Z λj hj=>by
    rw[Ν,Ϩ] at hj;by_cases e:j<ds.length
    ·rw[Ca _ _ _ _ e];exact au.o j e
    obtain rfl:j=ds.length:=by omega
    rw[Dx];exact⟨az,b6⟩
   have ee:ϟ (∀ r,Dn (xs.drop (ds++[q]).length) (ds++[q]) r->Dn xs [] r):=Z λr hr=>HB.o r (bq.o (J q) r bz.o (by rw[Ν,Ϩ,X.o] at hr;exact hr))
   have c7:ϟ ((ds++[q]).length=i+1):=Z (by rw[Ν,X.o];rfl);clear cv b7 cw be cy cz hO;go_upto_region 12 with (first
    | (refine Lr 40 (δ 8) H8.o Ο Ae ?_)
    | (refine wpList_store_mid rfl 40 (δ 39) (δ 38) rfl g (i*3) (dA (U aa ab ad) (U ae af ag) (U ah ai aj)) rfl rfl c3.o Ae (Av _ _ _ rfl rfl rfl) ?_))
   have c8:(dA (U aa ab ad) (U ae af ag) (U ah ai aj)).toList=[U aa ab ad,U ae af ag,U ah ai aj]:=rfl;rw[c8];obtain⟨w7,b8⟩:=Xq (w6.setCells g (i*3) [U aa ab ad,U ae af ag,U ah ai aj]);rw[b8] at c4 c5 c6 bf;rw[b8];clear b8 c8 c3;go_wp2;go_roundw
   case rel=>exact⟨ds++[q],by rw[c7.o];omega,by rw[c7.o];go_num,c6.o,⟨_,c5.o⟩,bf,c4,ed,ee⟩
   simp[intOf];omega
 have a1:ds.length=N:=by omega
 have ew:=Z a1;rw[a1];obtain⟨v1,v2,v3,hr,hD⟩:=HL.o.at_ (N-1) (by omega);obtain⟨az,b6⟩:=au.o (N-1) (by omega);have HF:=Z (HB.o (J (ds.getD (N-1) dN)) (by rw[a1,List.drop_of_length_le (by rw[HN.o];exact Υ _)];show J (ds.getD (N-1) dN)=J (ds.getD (ds.length-1) dN);rw[a1]))
 clear a1;obtain⟨q,hq⟩:=Xq (ds.getD (N-1) dN);rw[hq] at hD az b6 HF;clear hq;obtain⟨da,db,dc,dd,de,df,dg,dh,G⟩:=hD.agg;injection G with G
 unfold dA at G;injection G with G
 injection G with e1 G
 injection G with e2 G
 injection G with e3 _
 subst e1;subst e2;subst e3;rw[ϖ] at hr;have dk:=Z hr;have ei:=Z hD;obtain⟨M,hM⟩:=Xq (N-1);rw[hM] at dw dk;have e4:M<N:=by omega
 clear hM hr hD;go_wp2_with (first
  | (refine å rfl 40 (δ 45) rfl g (M*3) rfl _ _ dk.o Ο rfl (Dk _ _ _) ?_)
  | (refine Sr 40 (δ 2) (δ 46) rfl E.o Ae rfl (Av _ _ _ rfl rfl rfl) ?_))
 refine ω (v:=ϗ #[.agg (dA (U da db dc) (U dd q.n.length de) (U df dg dh)),.int Φ 0]) (Bi rfl _ _ _ _ _ _ _ rfl _ rfl (Χ wr _ _ (dA (U da db dc) (U dd q.n.length de) (U df dg dh)) 40 (0,0) E.o) Ο rfl Ae) rfl ?_;exact⟨J q,⟨_,rfl,IsD.setRow az ei.o E.o _⟩,HF.o,hE.setRow (Υ _) _⟩
theorem Tl (W:Γ) (l:List UInt8) (fr:Nat × Nat) (G:l.length<=1000000):By (W.alloc (Β (l.map bv).toArray 5 fr)) (U (J ⟨W.heap.size,0,I⟩) l.length l.length) l:=by
 refine⟨by omega,?_⟩;by_cases h0:l.length=0
 ·exact .inl ⟨h0,_,_,by rw[h0]⟩
 refine .inr ⟨by omega,W.heap.size,0,l.length,rfl,by simp,λi hi=>?_⟩;rw[ϖ,Τ _ _ _ _ 5 fr (Ad W _)];have E:i<l.length:=by omega
 simp[Ζ,E]
def flR (E:List RNode):List Δ:=E.flatMap λn=>(rnC n).toList
theorem TC (E:List RNode):(flR E).length=E.length*9:=by
 induction E with
 | nil=>rfl
 | cons x l G=>have e:flR (x::l)=(rnC x).toList++flR l:=rfl;rw[e,Ν,G,ϑ];have:(rnC x).toList.length=9:=rfl;omega
theorem Zy (E:List RNode) (i j:Nat) (hi:i<E.length) (T:j<9):(flR E)[i*9+j]? = (rnC (E.getD i ⟨0,0,0,0#256,0,0⟩)).toList[j]? := by
 induction E generalizing i with
 | nil=>simp at hi
 | cons x l G=>
  have e:flR (x::l)=(rnC x).toList++flR l:=rfl;have H:(rnC x).toList.length=9:=rfl;rw[e];cases i with
  | zero=>rw[χ (by omega)];simp
  | succ i=>rw[ς (by omega),H,show (i+1)*9+j-9=i*9+j by omega];exact G i (by simpa using hi)
theorem JD {W:Γ} {g:Nat} {fr:Nat × Nat} {E:List RNode} (h:W.heap[g]? = J (Β (flR E).toArray 96 fr)):RxAt W g 0 E:=λi hi j v G=>by have H:j<9:=(ο.1 G).1;rw[show 0+i*9+j=i*9+j by omega,Τ W g _ _ _ _ h,Ã,Zy E i j hi H];exact G
theorem RA:(Η.info? 96).map (λi=>(i.zero,i.size,i.bytes))=J (J (.agg #[.int Φ 0,.int ζ 0,.int ζ 0,.int ζ 0,.int ζ 0,.int Φ 0,.int Φ 0,.int Φ 0,.int Φ 0]),9,72):=by kernel_rfl
theorem F3 {ops:Array ϳ} {rest:List ϳ} {o:ϳ} {a:Act} {w:Γ} {Q:Exit->Act->Γ->Prop} (hg:o.guard=I) (E:List RNode) (n:Nat) (X:n=E.length) (h0:0<E.length) (h1:E.length<=100) (parts:Array (Nat × Operand)) (ho:o.op=.buildSlice 46 n parts)
  (hp:(parts.map λ(i,x)=>(i,a.eval x)).toList=((E.map λn=>Δ.agg (rnC n)).zipIdx 0).map λx=>(x.2,x.1))
  (h:wpList Η ops Q rest (a.put o.dst (U (J ⟨w.heap.size,0,I⟩) n n)) (w.alloc (Β (flR E).toArray 96))):wpList Η ops Q (o::rest) a w:=by
 subst X;obtain⟨i,hi,hz,G,hb⟩:=ϓ RA;refine wpList_buildSlice hg 46 96 E.length _ ho (flR E).toArray i _ Tryz.underlying46 hi hz (by rw[G];omega) (by rw[G];omega) ?_ h;rw[hp,G];obtain⟨r,q1,q2,q3⟩:=Great.fill_dense (s:=9) (by omega) (E.map λn=>Δ.agg (rnC n)) 0 ((Array.range (E.length*9)).map ((Δ.agg #[.int Φ 0,.int ζ 0,.int ζ 0,.int ζ 0,.int ζ 0,.int Φ 0,.int Φ 0,.int Φ 0,.int Φ 0]).cells[· % (Δ.agg #[.int Φ 0,.int ζ 0,.int ζ 0,.int ζ 0,.int ζ 0,.int Φ 0,.int Φ 0,.int Φ 0,.int Φ 0]).cells.size]!)) (λv hv=>by obtain⟨n,_,rfl⟩:=List.mem_map.1 hv;rfl) (by simp)
 rw[q1]
 congr 1
 apply Array.ext_getElem?;intro k;rw[q3];by_cases hk:k<E.length*9
 ·rw[if_pos (by simp;omega)];have H:k / 9<E.length:=by omega
  have e1:(E.map λn=>Δ.agg (rnC n))[k / 9-0]? = J (.agg (rnC (E.getD (k / 9) ⟨0,0,0,0#256,0,0⟩))):=by rw[Nat.sub_zero,ν,Ι H,Ζ,Ι H];rfl
  rw[e1];have T:=Zy E (k / 9) (k % 9) H (by omega);rw[show k / 9*9+k % 9=k by omega] at T;refine Eq.trans ?_ (Eq.trans T.symm (Ã ..).symm);simp[Δ.cells]
 rw[if_neg (by simp;omega),Array.getElem?_eq_none (by simp;omega)];refine (Eq.trans (Ã ..) (List.getElem?_eq_none (by rw[TC];omega))).symm
theorem AO {w':Γ} {A:Array Δ} {d:Dfa} (G:IsD w' (.agg A) d):Ext w' ((w'.alloc (Β #[U I 0 0,U I 0 0,U I 0 0] 40)).setRow w'.heap.size A)/\
  ((w'.alloc (Β #[U I 0 0,U I 0 0,U I 0 0] 40)).setRow w'.heap.size A).heap[w'.heap.size]? = J (Β A 40 (0,0))/\IsD ((w'.alloc (Β #[U I 0 0,U I 0 0,U I 0 0] 40)).setRow w'.heap.size A) (.agg A) d:=by
 have E:=((Κ w').alloc (Β #[U I 0 0,U I 0 0,U I 0 0] 40)).setRow (Υ w'.heap.size) A;exact⟨E,Χ _ _ _ _ _ _ (Ad w' _),G.ext E⟩
structure PtN where
 xs:List RNode
 lz:Bool
abbrev pN:PtN:=⟨[],Ε⟩
def PatAt (W:Γ) (b o:Nat) (ps:List PtN):Prop:=∀ i,i<ps.length->∃ b' E G,W.rangeAt b (o+i*2) [U (J ⟨b',E,I⟩) (ps.getD i pN).xs.length G,.bool (ps.getD i pN).lz]/\RxAt W b' E (ps.getD i pN).xs
theorem PatAt.ext {W W':Γ} {b o:Nat} {ps:List PtN} (h:PatAt W b o ps) (E:Ext W W'):PatAt W' b o ps:=λi hi=>by obtain⟨b',G,H,h1,T⟩:=h i hi;exact⟨b',G,H,λj v X=>E.cell (h1 j v X),T.ext E⟩
structure DsOf (ps:List PtN) (ds:List Dfa):Prop where
 len:ds.length=ps.length
 at_:∀ i,i<ds.length->Dn (ps.getD i pN).xs [] (J (ds.getD i dN))/\Cano (ds.getD i dN)/\(ds.getD i dN).n.length<=64
theorem DsOf.unique {ps:List PtN} {ds E:List Dfa} (h:DsOf ps ds) (G:DsOf ps E):ds=E:=by
 refine List.ext_getElem (h.len.trans G.len.symm) λi h1 H=>?_
 have e:=Tp _ _ (h.at_ i h1).1 (G.at_ i H).1;injection e with e
 rw[Ζ,Ι h1,Ζ,Ι H] at e;exact e
structure PatOk (ps:List PtN):Prop where
 pos:0<ps.length
 le:ps.length<=6
 part:∀ i,i<ps.length->VRx (ps.getD i pN).xs/\∀ r,Dn (ps.getD i pN).xs [] r->∃ d,r=J d/\Cano d/\d.n.length<=64
theorem QX:(Η.info? 48).map (·.size)=J 2:=by kernel_rfl
theorem QW (E G:Δ):(Η.info? 48).map (·.size)=J [E,G].length:=by kernel_rfl
theorem O6 (ps:List PtN) (hp:PatOk ps) (b o cz:Nat) (w:Γ) (hT:Tab w) (bw:0<w.heap.size) (h:PatAt w b o ps) :
  ϛ Η 28 #[U (J ⟨b,o,I⟩) ps.length cz] w λe w'=>∃ g ds,e=Ψ (ϗ #[U (J ⟨g,0,I⟩) ps.length ps.length,.int Φ 0])/\DsOf ps ds/\DsAt w' g 0 ds/\Ext w w':=by
 have c3:=Z (λW (E:Ext w W)=>hT.below E.below bw);have HP:=Z hp;have HR:=Z h;obtain⟨i0,hi,c8,c9,da⟩:=ϓ Zf;obtain⟨N,hN⟩:=Xq (ps.length);have db:=hp.pos;have dc:=hp.le;rw[hN] at db dc;rw[hN];have HN:=Z hN;have bz:=Κ w;have dr:((N:Int)==0)=Ε:=by simp;omega
 have dt:¬ (6:Int)<(N:Int):=by omega
 clear hp h hN hT;go_enter Tryz.func28,Tryz.ntmps28;go_upto_region 5 with (fail)
 go_upto_region 6 with (at_make;refine Ϟ _ rfl _ _ 31 rfl w.heap.size 40 i0 zD 3 Tryz.underlying31 hi c8 c9 Φ Φ _ _ N rfl rfl rfl rfl (by rw[da];omega) (by unfold ϐ;omega) (Υ _) ?_;intro w3 aw b0)
 have b4:=bz.grown b0 (λk e=>by cases e);have bb:Lds w3 w.heap.size N []:=⟨λi hi=>absurd hi (by simp),λj _ hj=>by rw[aw.cellAt j hj];exact Yb N j hj⟩;have b5:w.heap.size<=w.heap.size:=Υ _;generalize b6:w.heap.size=g at aw bb;have b5:w.heap.size<=g:=Ô b6;clear b6 b0 bz;go_wp2_with (fail);go_loopw [21] (λv W=>∃ ds:List Dfa,ds.length<=N/\v=.int Φ ds.length/\Ext w W/\(∃ ys,W.ownsRow g 40 3 (U (J ⟨g,0,I⟩) N N) N ys)/\ϟ (Lds W g N ds)/\ϟ (∀ i,i<ds.length->Dn (ps.getD i pN).xs [] (J (ds.getD i dN))/\Cano (ds.getD i dN)/\(ds.getD i dN).n.length<=64))
  (λv _=>N-(intOf v).toNat)
 case atStart=>exact⟨[],by simp,rfl,b4,⟨_,aw⟩,Z bb,Z (λi hi=>absurd hi (by simp))⟩
 clear b4 aw bb;obtain⟨ds,du,rfl,hE,⟨ys,hO⟩,HL,HD⟩:=hrel;have de:ϟ (okD ds):=Z λi hi=>⟨(HD.o i hi).2.1.val,(HD.o i hi).2.2⟩
 by_cases bc:ds.length<N
 ·obtain⟨b',G,H,ay,az⟩:=(HR.o.ext hE) ds.length (by rw[HN.o];exact bc);obtain⟨a1,b7⟩:=HP.o.part ds.length (by rw[HN.o];exact bc);have b8:=Z b7;have dv:((ds.length:Nat):Int)<(N:Int):=by omega
  obtain⟨xs,bd⟩:=Xq ((ps.getD ds.length pN).xs);obtain⟨lz,b9⟩:=Xq ((ps.getD ds.length pN).lz);rw[bd] at a1 az ay b8;rw[b9] at ay;have df:=Z bd;have f95:∀ W,Ext wr W->ϟ (ϛ Η 40 #[U (J ⟨b',G,I⟩) xs.length H] W λe w'=>e=Ψ (.int Φ 0)/\Ext W w'):=λW E=>Z (Pj xs a1 b' G H W (az.ext E))
  have f42:=λW (E:Ext wr W)=>Z (CG xs a1 b' G H W (c3.o W (hE.t E)) (Ξ bw (hE.t E).size) (az.ext E))
  clear a1 az b7 bd b9;generalize xs.length=nx at *;generalize ca:ds.length=i at *;have T:=Z ca;clear ca;go_upto_region 9 with (first
   | (refine å rfl 48 (δ 24) rfl b (o+i*2) rfl _ _ ay Tryz.underlying48 rfl (QW _ _) ?_)
   | (refine Sr 48 (δ 6) (δ 25) rfl (Ad wr (Β #[U I 0 0,.bool Ε] 48)) QX rfl (by simp[ξ]) ?_))
  have be:=((Κ wr).alloc (Β #[U I 0 0,.bool Ε] 48)).setRow (Υ _) #[U (J ⟨b',G,I⟩) nx H,.bool lz];have H6:=Χ (wr.alloc (Β #[U I 0 0,.bool Ε] 48)) wr.heap.size _ #[U (J ⟨b',G,I⟩) nx H,.bool lz] _ _ (Ad wr (Β #[U I 0 0,.bool Ε] 48));obtain⟨w4,bh⟩:=Xq ((wr.alloc (Β #[U I 0 0,.bool Ε] 48)).setRow wr.heap.size #[U (J ⟨b',G,I⟩) nx H,.bool lz]);rw[bh] at be H6;simp only[bh];clear bh ay;have cb:=λW (E:Ext w4 W)=>(Τ W wr.heap.size 0 _ _ _ (E.heap H6)).trans (show (#[U (J ⟨b',G,I⟩) nx H,.bool lz]:Array Δ)[0]? = J (U (J ⟨b',G,I⟩) nx H) from rfl)
  have bj:=Z cb;have a6:=Z be;generalize wr.heap.size=g6 at *;clear be H6 cb;have c6:=bj.o w4 (Κ w4);go_upto_region 12 with (go_at_call 40;(with_reducible refine (f95 _ a6.o).o.mono ?_);rintro e w5 ⟨rfl,cc⟩)
  have bl:=Z cc;clear c6 cc;have c6:=bj.o w5 bl.o;go_upto_region 13 with (first
   | (go_at_call 17;(with_reducible refine (f42 _ (a6.o.t bl.o)).o.mono ?_);rintro e w6 ⟨q,bm,cd,cf⟩;obtain⟨X,aa,ab,ad,ae,af,ag,ah,ai,k1,rfl⟩:=bm.form;have bn:=Z bm;have cg:=Z cd;have dh:=Z ((a6.o.t bl.o).trans cf);clear bm cd cf)
   | (refine Sr 40 (δ 8) (δ 36) rfl (Ad w6 (Β #[U I 0 0,U I 0 0,U I 0 0] 40)) Ae rfl (Av _ _ _ rfl rfl rfl) ?_))
  clear c6;obtain⟨a7,bo⟩:=Dv w6 (dA (U X aa ab) (U ad ae af) (U ag ah ai));obtain⟨w7,bp⟩:=Xq ((w6.alloc (Β #[U I 0 0,U I 0 0,U I 0 0] 40)).setRow w6.heap.size (dA (U X aa ab) (U ad ae af) (U ag ah ai)));rw[bp] at a7 bo;simp only[bp];clear bp;have a8:=dh.o.t a7;have dk:=Z (hE.t a8);have H8:=Z bo;have HL:=Z (HL.o.ext a8);have hO:=Aa hO a8;have bn:=Z (bn.o.ext a7);generalize w6.heap.size=g8 at *;clear a7 bo a8 hE f95 f42 bj a6;obtain⟨q,rfl,ck,dn⟩:=b8.o _ cg.o;obtain⟨rfl,cl⟩:=bn.o.some_inv;obtain⟨⟨zs,cm⟩,bq⟩:=W6 hO (i*3) (U X aa ab) (U ad ae af) (U ag ah ai);have br:=HL.o.store de.o (by rw[T.o];exact bc) ck.val cl (by rw[T.o];exact bq.size);rw[T.o] at br;have cn:w7.there g (i*3) 3:=λj hj=>by refine⟨?_,hO.frozenAt _⟩;rw[HL.o.nil (i*3+j) (by rw[T.o];omega) (by omega)];rfl
  have cp:=dk.o.grown bq (λk e=>by cases e;exact b5);have cq:=Z cn;have ct:=Z br;have cu:=Z cm;have cv:=Z cp;have dp:ϟ (∀ j,j<(ds++[q]).length->Dn (ps.getD j pN).xs [] (J ((ds++[q]).getD j dN))/\Cano ((ds++[q]).getD j dN)/\((ds++[q]).getD j dN).n.length<=64):=Z λj hj=>by
   rw[Ν,Ϩ] at hj;by_cases e:j<ds.length
   ·rw[Ca _ _ _ _ e];exact HD.o j (by rw[<-T.o];exact e)
   obtain rfl:j=ds.length:=by omega
   rw[Dx];refine⟨?_,ck,dn⟩;rw[T.o,df.o];exact cg.o
  have cw:ϟ ((ds++[q]).length=i+1):=Z (by rw[Ν,T.o];rfl);clear cl br cm bq cn cp hO;go_upto_region 16 with (first
   | (refine Lr 40 (δ 8) H8.o Ο Ae ?_)
   | (refine wpList_store_mid rfl 40 (δ 44) (δ 43) rfl g (i*3) (dA (U X aa ab) (U ad ae af) (U ag ah ai)) rfl rfl cq.o Ae (Av _ _ _ rfl rfl rfl) ?_))
  have cy:(dA (U X aa ab) (U ad ae af) (U ag ah ai)).toList=[U X aa ab,U ad ae af,U ag ah ai]:=rfl;rw[cy];obtain⟨w8,bt⟩:=Xq (w7.setCells g (i*3) [U X aa ab,U ad ae af,U ag ah ai]);rw[bt] at ct cu cv;rw[bt];clear bt cy cq;go_wp2;go_roundw
  case rel=>exact⟨ds++[q],by rw[cw.o];omega,by rw[cw.o];go_num,cv.o,⟨_,cu.o⟩,ct,dp⟩
  simp[intOf];omega
 obtain rfl:N=ds.length:=by omega
 have dq:=Z (DsOf.mk (ps:=ps) HN.o.symm HD.o);go_wp2;go_ret2;exact⟨g,ds,rfl,dq.o,HL.o.at_,hE⟩
theorem EV (ps:List PtN) (G:PatOk ps) (b o H:Nat) (w:Γ) (T:Tab w) (X:0<w.heap.size) (h:PatAt w b o ps) :
  ϛ Η 26 #[U (J ⟨b,o,I⟩) ps.length H] w λe w'=>e=Ψ (.int Φ 0)/\Ext w w':=by
 have f106:=Z (O6 ps G b o H w T X h);obtain⟨N,E⟩:=Xq (ps.length);rw[E] at f106;rw[E];clear h G E;go_enter Tryz.func26,Tryz.ntmps26;go_wp2_with (go_at_call 28;(with_reducible refine f106.o.mono ?_);rintro e w2 ⟨g6,ds,rfl,-,-,aa⟩);go_ret;exact⟨rfl,aa⟩
theorem EX (w:Γ) :
  ϛ Η 26 #[U I 0 0] w λe w'=>e=Ψ (.int Φ 1)/\Ext w w':=by
 have f106:ϟ (ϛ Η 28 #[U I 0 0] w λe w'=>e=Ψ (ϗ #[U I 0 0,.int Φ 1])/\Ext w w'):=Z (by go_enter Tryz.func28,Tryz.ntmps28;go_wp2_with (fail);go_ret2;exact⟨rfl,Κ w⟩)
 go_enter Tryz.func26,Tryz.ntmps26;go_wp2_with (go_at_call 28;(with_reducible refine f106.o.mono ?_);rintro e G ⟨rfl,E⟩);go_ret;exact⟨rfl,E⟩
def ByW (W:Γ) (v:Δ) (l:List UInt8):Prop:=
 l.length<=9223372036854775807/\((l.length=0/\∃ a E,v=U a 0 E)\/(0<l.length/\∃ b G E,v=U (J ⟨b,G,I⟩) l.length E/\b<W.heap.size/\∀ i,i<l.length->W.cell? ⟨b,G+i,I⟩=J (bv (l.getD i 0))))
theorem ByW.ext {W W':Γ} {v:Δ} {l:List UInt8} (h:ByW W v l) (E:Ext W W'):ByW W' v l:=by
 obtain⟨h0,h|⟨h1,b,G,H,T,hb,hc⟩⟩:=h
 ·exact⟨h0,.inl h⟩
 exact⟨h0,.inr ⟨h1,b,G,H,T,Ξ hb E.size,λi hi=>E.cell (hc i hi)⟩⟩
theorem ByW.split {W:Γ} {v:Δ} {l:List UInt8} (h:ByW W v l):∃ a b G E,v=U a l.length E/\(0<l.length->a=J ⟨b,G,I⟩)/\(0<l.length->b<W.heap.size)/\∀ i,i<l.length->W.cell? ⟨b,G+i,I⟩=J (bv (l.getD i 0)):=by
 obtain⟨h0,⟨H,a,E,rfl⟩|⟨H,b,G,E,rfl,hb,hc⟩⟩:=h
 ·exact⟨a,0,0,E,by rw[H],by omega,by omega,by omega⟩
 exact⟨_,b,G,E,rfl,λ_=>rfl,λ_=>hb,hc⟩
theorem LE {W:Γ} {b e s n c g:Nat} {xs:List Δ} (h:W.ownsRow b e s (U (J ⟨g,0,I⟩) n c) n xs):n<=c:=by
 obtain⟨_,⟨he,_⟩|⟨H,T,cur,he,_,_,E,_⟩⟩:=h
 ·cases he
 injection he with _ _ G
 rw[G];exact E
theorem Z2 (l:List UInt8) (v:Δ) (n:Nat) (hn:n<=1000) (w:Γ) (hl:ByW w v l) :
  ϛ Η 19 #[v,iv n] w λe w'=>∃ (x:List UInt8) (g c:Nat),e=Ψ (U (J ⟨g,0,I⟩) x.length c)/\x.length<=n/\w'.ownsRow w.heap.size 5 1 (U (J ⟨g,0,I⟩) x.length c) x.length (x.map bv)/\Ext w w':=by
 obtain⟨j0,hj,ah,ai,aj⟩:=ϓ (show (Η.info? 5).map (λi=>(i.zero,i.size,i.bytes))=J (J (.int .u8 0),1,1) by kernel_rfl);obtain⟨a,b,o,ca,rfl,ao,_,aq⟩:=hl.split;have bk:=hl.1;have HC:=Z (λ(W:Γ) (hW:Ext w W) i (hi:i<l.length)=>hW.cell (aq i hi));have HA:=Z ao;clear hl ao aq;have ar:=(Κ w).alloc (Β #[] 5);have au:ϥ (w.alloc (Β #[] 5)) w.heap.size 5 1 (U (J ⟨w.heap.size,0,I⟩) 0 0) 0 []:=Á (base:=w.heap.size) (e:=5) (size:=1) w #[] 0 (Υ _) (by unfold ϐ;omega) rfl;go_enter Tryz.func19,Tryz.ntmps19;go_wp2_with (fail);go_loopw [5,6] (λvx vi W=>∃ (x:List UInt8) (g c:Nat),x.length<=n/\x.length<=l.length/\vx=U (J ⟨g,0,I⟩) x.length c/\vi=.int Φ x.length/\Ext w W/\W.ownsRow w.heap.size 5 1 (U (J ⟨g,0,I⟩) x.length c) x.length (x.map bv))
  (λ_ vi _=>n-(intOf vi).toNat)
 case atStart=>exact⟨[],_,_,by simp,by simp,rfl,rfl,ar,au⟩
 clear ar au;obtain⟨x,g,c,bb,bc,rfl,rfl,H,G⟩:=hrel;obtain⟨wo,be⟩:∃ W,W=wr:=⟨_,rfl⟩;subst be;have bl:=H.size;obtain⟨i,hi⟩:=Xq (x.length);rw[hi] at bb bc G;have E:=Z hi;simp only[hi];clear hi;by_cases aw:i<l.length/\i<n
 ·obtain⟨h1,h2⟩:=aw;have bm:(i:Int)<(l.length:Int):=by omega
  have bn:(i:Int)<(n:Int):=by omega
  obtain rfl:=HA.o (by omega);have cx:=HC.o wo H i h1;obtain⟨y,hy⟩:=Xq (l.getD i 0);rw[hy] at cx;have bo:=y.toNat_lt;clear hy;obtain⟨z,hz⟩:∃ z:UInt8,97+(y.toNat:Int) % 4=(z.toNat:Int):=⟨UInt8.ofNat (97+y.toNat % 4),by rw[u8n _ (by omega)];omega⟩;have HZ:=Z hz;clear hz;have bg:(y.toNat:Int)<97\/(97<=(y.toNat:Int)/\(y.toNat:Int)<=100)\/100<(y.toNat:Int):=by omega
  rcases bg with h|h|h
  ·go_upto_region 8 with (fail)
   clear cx;rw[HZ.o,show (Â é (z.toNat:Int))=bv z from rfl];go_wp2_with (at_builtin;refine Ϙ _ rfl _ _ 22 rfl w.heap.size 5 j0 (.int .u8 0) 1 1 ύ hj ah ai aj rfl (by decide) _ _ _ rfl (G.alloc _) _ 1 1 [bv z] rfl rfl (Ý _ _ _) (by simp[ξ]) (by decide) (by unfold ϐ;omega) (by omega) (by simp;omega) _ rfl ?_;intro T X w7 aa ab a1 _);have ad:=(H.alloc (Β #[bv z] 5)).grown ab (λk e=>by have:=(G.lt k e).1;omega);go_roundw
   case rel=>exact⟨x++[z],T,X,by rw[Ν,E.o];simp;omega,by rw[Ν,E.o];simp;omega,by rw[Ν,E.o];rfl,by rw[Ν,E.o];go_num,ad,by rw[Ν,E.o,ϩ];exact aa⟩
   case measure=>simp[intOf];omega
  ·go_upto_region 8 with (fail)
   clear cx;clear HZ;clear z;obtain⟨z,rfl⟩:∃ z,z=y:=⟨_,rfl⟩
   go_wp2_with (at_builtin;refine Ϙ _ rfl _ _ 22 rfl w.heap.size 5 j0 (.int .u8 0) 1 1 ύ hj ah ai aj rfl (by decide) _ _ _ rfl (G.alloc _) _ 1 1 [bv z] rfl rfl (Ý _ _ _) (by simp[ξ]) (by decide) (by unfold ϐ;omega) (by omega) (by simp;omega) _ rfl ?_;intro T X w7 aa ab a1 _);have ad:=(H.alloc (Β #[bv z] 5)).grown ab (λk e=>by have:=(G.lt k e).1;omega);go_roundw
   case rel=>exact⟨x++[z],T,X,by rw[Ν,E.o];simp;omega,by rw[Ν,E.o];simp;omega,by rw[Ν,E.o];rfl,by rw[Ν,E.o];go_num,ad,by rw[Ν,E.o,ϩ];exact aa⟩
   case measure=>simp[intOf];omega
  go_upto_region 8 with (fail)
  clear cx;rw[HZ.o,show (Â é (z.toNat:Int))=bv z from rfl];go_wp2_with (at_builtin;refine Ϙ _ rfl _ _ 22 rfl w.heap.size 5 j0 (.int .u8 0) 1 1 ύ hj ah ai aj rfl (by decide) _ _ _ rfl (G.alloc _) _ 1 1 [bv z] rfl rfl (Ý _ _ _) (by simp[ξ]) (by decide) (by unfold ϐ;omega) (by omega) (by simp;omega) _ rfl ?_;intro T X w7 aa ab a1 _);have ad:=(H.alloc (Β #[bv z] 5)).grown ab (λk e=>by have:=(G.lt k e).1;omega);go_roundw
  case rel=>exact⟨x++[z],T,X,by rw[Ν,E.o];simp;omega,by rw[Ν,E.o];simp;omega,by rw[Ν,E.o];rfl,by rw[Ν,E.o];go_num,ad,by rw[Ν,E.o,ϩ];exact aa⟩
  case measure=>simp[intOf];omega
 by_cases h1:i<l.length
 ·have h2:¬ i<n:=λh=>aw ⟨h1,h⟩
  go_wp2;go_ret;exact⟨x,g,c,by rw[E.o];rfl,by rw[E.o];omega,by rw[E.o];exact G,H⟩
 go_wp2;go_ret;exact⟨x,g,c,by rw[E.o];rfl,by rw[E.o];omega,by rw[E.o];exact G,H⟩
theorem TR (l:List UInt8) (v:Δ) (n:Nat) (G:n<=1000) (w:Γ) (H:ByW w v l):ϛ Η 19 #[v,iv n] w λe w'=>∃ (x:List UInt8) (g c:Nat),e=Ψ (U (J ⟨g,0,I⟩) x.length c)/\x.length<=n/\By w' (U (J ⟨g,0,I⟩) x.length c) x/\x.length<=c/\Ext w w':=
 (Z2 l v n G w H).mono λe w' ⟨x,g,c,h1,T,E,X⟩=>⟨x,g,c,h1,T,By.of_owns E (by omega),LE E,X⟩
theorem Ly {α:Type} [DecidableEq α] (l E:List α) (d:α) (h:l.length=E.length) (G:∀ q,q<l.length->l.getD q d=E.getD q d):l=E:=by apply List.ext_getElem h;intro i h1 H;have:=G i h1;rw[Ζ,Ζ,Ι h1,Ι H] at this;exact this
theorem IX (l E:List Nat) (v v':Δ) (w:Γ) (h:Ints w v l) (h':Ints w v' E) :
  ϛ Η 38 #[v,v'] w λe w'=>e=Ψ (.bool (decide (l=E)))/\Ext w w':=by
 obtain⟨a,c,rfl⟩:=Sl.len h;obtain⟨a',c',rfl⟩:=Sl.len h';by_cases T:l.length=E.length
 ·have hb:=h.1;have HC:ϟ (0<l.length->∃ b o b' H,a=J ⟨b,o,I⟩/\a'=J ⟨b',H,I⟩/\(∀ i,i<l.length->w.cell? ⟨b,o+i,I⟩=J (iv (l.getD i 0)))/\∀ i,i<l.length->w.cell? ⟨b',H+i,I⟩=J (iv (E.getD i 0))):=Z λh0=>by
   obtain⟨b,o,c1,e1,k1⟩:=â h h0;obtain⟨b',H,c2,e2,G⟩:=â h' (by omega);injection e1 with e1
   injection e2 with e2
   exact⟨b,o,b',H,e1,e2,λi hi=>k1 i (by omega),λi hi=>G i (by omega)⟩
  have HL:=Z T;rw[<-T];obtain⟨n,X⟩:=Xq (l.length);rw[X] at HC hb;rw[X];have HN:=Z X;clear h h' T X;go_enter Tryz.func38,Tryz.ntmps38;go_wp2_with (fail);go_loopw [5] (λvi W=>∃ j:Nat,j<=n/\vi=.int Φ j/\Ext w W/\ϟ (∀ q,q<j->l.getD q 0=E.getD q 0))
   (λvi _=>n-(intOf vi).toNat)
  case atStart=>exact⟨0,by omega,rfl,Κ w,Z λq hq=>by omega⟩
  obtain⟨j,hj,rfl,hE,HQ⟩:=hrel;by_cases ao:j<n
  ·obtain⟨b,o,b',H,rfl,rfl,k1,G⟩:=HC.o (by omega);have k1:=Aw (hE.cell (k1 j ao));have G:=Aw (hE.cell (G j ao));obtain⟨x,hx⟩:=Xq (l.getD j 0);obtain⟨y,hy⟩:=Xq (E.getD j 0);rw[hx] at k1;rw[hy] at G;have HX:=Z hx;have HY:=Z hy;clear hx hy;go_upto_region 6 with (fail)
   refine B2 (by kernel_rfl) (by kernel_rfl) ?_;iterate 9 (with_reducible refine Ϧ (λK hK=>?_);go_simp;first|(refine hK _ ?_;clear hK K))
   refine wpQuiet_nil ?_;rintro _ ⟨e,rfl⟩;have au:=hE.t e.ext;clear k1 G;generalize e.W=w5 at *;by_cases aw:x=y
   ·have a1:(x:Int)=(y:Int):=by omega
    go_wp2;go_roundw
    case rel=>exact⟨j+1,by omega,by go_num,au,Z λq hq=>by
     by_cases a6:q<j
     ·exact HQ.o q a6
     obtain rfl:q=j:=by omega
     rw[HX.o,HY.o,aw]⟩
    case measure=>simp[intOf];omega
   have a1:¬ (x:Int)=(y:Int):=by omega
   have ai:ϟ (decide (l=E)=Ε):=Z (decide_eq_false λe=>aw (by rw[<-HX.o,<-HY.o,e]));go_wp2;go_ret;exact⟨by rw[ai.o];rfl,au⟩
  obtain rfl:j=n:=by omega
  have a7:ϟ (decide (l=E)=Α):=Z (decide_eq_true (Ly l E 0 HL.o λq hq=>HQ.o q (by rw[<-HN.o];exact hq)));go_wp2;go_ret;exact⟨by rw[a7.o];rfl,hE⟩
 have ai:ϟ (decide (l=E)=Ε):=Z (decide_eq_false λe=>T (by rw[e]));have bc:¬ (l.length:Int)=(E.length:Int):=by omega
 go_enter Tryz.func38,Tryz.ntmps38;go_wp2_with (fail);go_ret;exact⟨by rw[ai.o];rfl,Κ w⟩
def spF (l:List (Nat × Nat)) (i:Nat):Δ:=if i % 2=0 then iv (l.getD (i / 2) (0,0)).1 else iv (l.getD (i / 2) (0,0)).2
def SpV (W:Γ) (v:Δ) (l:List (Nat × Nat)):Prop:=Sl W v 2 l.length (spF l)
theorem SpV.ext {W W':Γ} {v:Δ} {l:List (Nat × Nat)} (h:SpV W v l) (E:Ext W W'):SpV W' v l:=Sl.ext h E
theorem P0 (l:List (Nat × Nat)) (j:Nat):spF l (j*2)=iv (l.getD j (0,0)).1:=by unfold spF;rw[if_pos (by omega),Nat.mul_div_cancel _ (by omega)]
theorem Pz (l:List (Nat × Nat)) (j:Nat):spF l (j*2+1)=iv (l.getD j (0,0)).2:=by unfold spF;rw[if_neg (by omega),show (j*2+1) / 2=j by omega]
theorem Ro (E G:Δ):(Η.info? 60).map (·.size)=J [E,G].length:=by kernel_rfl
theorem UG (a b c d:Int) (w:Γ):(Op.equalIn 10000 60 (.agg #[.int Φ a,.int Φ b]) (.agg #[.int Φ c,.int Φ d])).run Η w=.ok (a==c&&b==d) w:=by
 rw[run_equalIn_struct (P:=Η) w 9999 60 _ _ (by kernel_rfl) (by kernel_rfl)];have e:∀ (x y:Int) (w:Γ),(Op.equalIn 9999 3 (.int Φ x) (.int Φ y)).run Η w=.ok (x==y) w:=λx y w=>run_equalIn_int (P:=Η) w 9998 3 Φ Φ x y Tryz.underlying3
 have H:∀ (a b:Int) (w:Γ),(part 3 #[.int Φ a,.int Φ b] 0).run Η w=.ok (.int Φ a) w:=λa b w=>by kernel_rfl
 have E:∀ (a b:Int) (w:Γ),(part 3 #[.int Φ a,.int Φ b] 1).run Η w=.ok (.int Φ b) w:=λa b w=>by kernel_rfl
 have h : (Η.fieldsOf 60).toList.map (fun f => (decide (f.name ≠ "_"), f.type, f.offset)) = [(Α, 3, 0), (Α, 3, 1)] := by kernel_rfl
 generalize (Η.fieldsOf 60).toList=G at h ⊢;rcases G with _|⟨f,_|⟨g,_|⟨k,G⟩⟩⟩
 ·simp at h
 ·simp at h
 ·simp only[List.map_cons,List.map_nil,ì,Prod.mk.injEq,decide_eq_true_eq,and_true] at h;obtain⟨⟨h1,T,X⟩,h4,h5,h6⟩:=h;simp only[Op.eqFields,h1,T,X,h4,h5,h6,ne_eq,not_false_eq_true,if_true,Sem.run_bind,H,E,Result.andThen_ok,e];cases a==c<;>cases hb:b==d<;>simp[E,e,hb]
 simp at h
theorem NA (a b c d:Int) (w:Γ):(binOp .neq 60 (.agg #[.int Φ a,.int Φ b]) (.agg #[.int Φ c,.int Φ d])).run Η w=.ok (.bool (!(a==c&&b==d))) w:=by rw[run_neq_struct,UG];rfl
theorem Vh {W:Γ} {l:List (Nat × Nat)} {b o:Nat} (h:∀ i,i<l.length*2->W.cell? ⟨b,o+i,I⟩=J (spF l i)) (j:Nat) (G:j<l.length):W.rangeAt b (o+j*2) [iv (l.getD j (0,0)).1,iv (l.getD j (0,0)).2]:=λi v E=>by
 rcases i with _|_|i
 ·have:=h (j*2) (by omega);rw[P0] at this;have E:iv (l.getD j (0,0)).1=v:=by simpa using E
  rw[<-E];exact this
 ·have:=h (j*2+1) (by omega);rw[Pz] at this;have E:iv (l.getD j (0,0)).2=v:=by simpa using E
  rw[<-E,<-this]
  congr 2
 simp at E
theorem IW (l E:List (Nat × Nat)) (v v':Δ) (w:Γ) (h:SpV w v l) (h':SpV w v' E) :
  ϛ Η 25 #[v,v'] w λe w'=>e=Ψ (.bool (decide (l=E)))/\Ext w w':=by
 obtain⟨a,c,rfl⟩:=Sl.len h;obtain⟨a',c',rfl⟩:=Sl.len h';by_cases X:l.length=E.length
 ·have hb:=h.1;have HC:ϟ (0<l.length->∃ b o b' H,a=J ⟨b,o,I⟩/\a'=J ⟨b',H,I⟩/\(∀ j,j<l.length->w.rangeAt b (o+j*2) [iv (l.getD j (0,0)).1,iv (l.getD j (0,0)).2])/\∀ j,j<l.length->w.rangeAt b' (H+j*2) [iv (E.getD j (0,0)).1,iv (E.getD j (0,0)).2]):=Z λh0=>by
   obtain⟨b,o,c1,e1,k1⟩:=â h h0;obtain⟨b',H,c2,e2,k2⟩:=â h' (by omega);injection e1 with e1
   injection e2 with e2
   exact⟨b,o,b',H,e1,e2,λj hj=>Vh k1 j hj,λj hj=>Vh k2 j (by omega)⟩
  have HL:=Z X;rw[<-X];obtain⟨n,hn⟩:=Xq (l.length);rw[hn] at HC hb;rw[hn];have HN:=Z hn;clear h h' X hn;go_enter Tryz.func25,Tryz.ntmps25;go_wp2_with (fail);go_loopw [5] (λvi W=>∃ j:Nat,j<=n/\vi=.int Φ j/\Ext w W/\ϟ (∀ q,q<j->l.getD q (0,0)=E.getD q (0,0)))
   (λvi _=>n-(intOf vi).toNat)
  case atStart=>exact⟨0,by omega,rfl,Κ w,Z λq T=>by omega⟩
  obtain⟨j,hj,rfl,hE,HQ⟩:=hrel;by_cases az:j<n
  ·obtain⟨b,o,b',H,rfl,rfl,k1,k2⟩:=HC.o (by omega);have K1:=Z (λV (G:Ext w V) i v hv=>G.cell (k1 j az i v hv));have K2:=Z (λV (G:Ext w V) i v hv=>G.cell (k2 j az i v hv));clear k1 k2;obtain⟨x,hx⟩:=Xq (l.getD j (0,0));obtain⟨y,hy⟩:=Xq (E.getD j (0,0));rw[hx] at K1;rw[hy] at K2;have HX:=Z hx;have HY:=Z hy;clear hx hy;go_upto_region 6 with (fail)
   refine Bl 8 [(0,Α),(1,Α),(2,Α),(3,Α),(4,Α),(5,Α),(6,Α),(7,Α),(8,Ε)] (by kernel_rfl) (by kernel_rfl) (λ_ _ _ _ h=>h) (λV=>Ext w V) (hE.t (Κ wr).drew) ?_;have an:=hE.t (Κ wr).drew;obtain⟨w5,ao⟩:=Xq (wr.drew);rw[ao] at an;rw[ao];clear ao;iterate 3
    refine Af (v:=?_) rfl rfl (λV G=>?_) ?_
    rotate_left
    ·clear G;go_simp;first|done|with_reducible rfl
    simp only[η,Θ,Μ,Λ]
   refine Af (v:=.agg #[iv x.1,iv x.2]) rfl rfl (λV G=>?_) ?_
   ·exact Cg 60 (δ 19) rfl b (o+j*2) rfl _ _ (K1.o V G) Tryz.underlying60 rfl (Ro _ _)
   simp only[η,Θ,Μ,Λ];iterate 3
    refine Af (v:=?_) rfl rfl (λV G=>?_) ?_
    rotate_left
    ·clear G;go_simp;first|done|with_reducible rfl
    simp only[η,Θ,Μ,Λ]
   refine Af (v:=.agg #[iv y.1,iv y.2]) rfl rfl (λV G=>?_) ?_
   ·exact Cg 60 (δ 23) rfl b' (H+j*2) rfl _ _ (K2.o V G) Tryz.underlying60 rfl (Ro _ _)
   simp only[η,Θ,Μ,Λ];have T:=NA x.1 x.2 y.1 y.2;obtain⟨bx,aq⟩:=Xq ((!((x.1:Int)==(y.1:Int)&&(x.2:Int)==(y.2:Int))));rw[aq] at T;have ba:=Z aq;clear aq;refine Ao rfl (λKk hK=>?_);go_simp;refine hK _ _ (λh=>absurd h (by omega)) ?_;clear hK Kk;refine Bj ?_;cases bx with
   | false=>
    have ar:x=y:=by have:=ba.o;simp at this;exact Prod.ext (by omega) (by omega)
    go_wp2;go_roundw
    case rel=>exact⟨j+1,by omega,by go_num,an,Z λq T=>by
     by_cases bf:q<j
     ·exact HQ.o q bf
     obtain rfl:q=j:=by omega
     rw[HX.o,HY.o,ar]⟩
    case measure=>simp[intOf];omega
   | true=>
    have ar:x≠y:=λh=>by have:=ba.o;rw[h] at this;simp at this
    have au:ϟ (decide (l=E)=Ε):=Z (decide_eq_false λe=>ar (by rw[<-HX.o,<-HY.o,e]));go_wp2;go_ret;exact⟨by rw[au.o];rfl,an⟩
  obtain rfl:j=n:=by omega
  have bg:ϟ (decide (l=E)=Α):=Z (decide_eq_true (Ly l E (0,0) HL.o λq T=>HQ.o q (by rw[<-HN.o];exact T)));go_wp2;go_ret;exact⟨by rw[bg.o];rfl,hE⟩
 have au:ϟ (decide (l=E)=Ε):=Z (decide_eq_false λe=>X (by rw[e]));have bk:¬ (l.length:Int)=(E.length:Int):=by omega
 go_enter Tryz.func25,Tryz.ntmps25;go_wp2_with (fail);go_ret;exact⟨by rw[au.o];rfl,Κ w⟩
def pts (ps:List PtN) (ds:List Dfa):List Pt:=List.zipWith (λp d=>(⟨d,p.lz⟩:Pt)) ps ds
theorem Et {ps:List PtN} {ds:List Dfa} (h:ds.length=ps.length):(pts ps ds).map (·.d)=ds:=by unfold pts;rw[List.map_zipWith];exact List.ext_getElem (by simp[h]) λi h1 E=>by simp
theorem Qh {ps:List PtN} {ds:List Dfa} (h:ds.length=ps.length) {j:Nat} (E:j<ds.length):(pts ps ds).drop j=⟨ds.getD j dN,(ps.getD j pN).lz⟩::(pts ps ds).drop (j+1):=by
 have G:j<(pts ps ds).length:=by simp[pts,h];omega
 rw[Ϝ G];simp[pts,Ζ,Ι E,Ι (h▸E)]
theorem Wn {ps:List PtN} {ds:List Dfa} (h:ds.length=ps.length) (j:Nat):((pts ps ds).drop j).map (·.d)=ds.drop j:=by rw[List.map_drop,Et h]
theorem BS {ds:List Dfa} {j:Nat} (E:j<ds.length):Bp (ds.drop j)=Cat (wd1 (ds.getD j dN)) (Bp (ds.drop (j+1))):=by rw[Ϝ E,Ζ,Ι E];rfl
def MatOut (W:Γ) (e:Ending) (ps:List PtN) (x:List UInt8):Prop:=∃ ds,DsOf ps ds/\((¬ Bp ds x/\e=Ψ (ϗ #[U I 0 0,.bool Ε]))\/∃ l v,Cb (pts ps ds) x 0 l/\SpV W v l/\e=Ψ (ϗ #[v,.bool Α]))
theorem YV (S:Nat) (E:S<18446744073709551616):(bits BinOp.and IntKind.u64 (S:Int) 1==1)=decide (S % 2=1):=by
 rw[show (1:Int)=((1:Nat):Int) from rfl,u64_and_nat _ _ E (by decide),Nat.and_one_is_mod,Ϸ];simp
 omega
theorem Ju (z:Δ) (n:Nat):(madeCells #[z] (n*1)).toList=θ n z:=by rw[Nat.mul_one,toList_madeCells_one]
theorem J5 {α:Type} (n j:Nat) (z d:α) (h:j<n):(θ n z).getD j d=z:=by simp[Ζ,h]
theorem C7 {W:Γ} {base e g n E:Nat} {xs:List Δ} (h:W.ownsRow base e 1 (U (J ⟨g,0,I⟩) n E) n xs) (k:Nat) (G:k<xs.length):W.cell? ⟨g,k,I⟩=J (xs.getD k Ω):=by have H:xs.length=n*1:=h.1;rw[ϥ.cellAt h k (by omega),Ζ,Ι G];rfl
theorem Di {W:Γ} {base e g n E:Nat} {xs:List Δ} (h:W.ownsRow base e 1 (U (J ⟨g,0,I⟩) n E) n xs):xs.length=n:=by have G:xs.length=n*1:=h.1;omega
theorem Cd {W:Γ} {base e s g n E:Nat} {xs:List Δ} (_h:W.ownsRow base e s (U (J ⟨g,0,I⟩) n E) n xs) {k:Nat} (G:g≠k):(Ϗ (J ⟨g,0,I⟩) n E).ownBlock=I\/(Ϗ (J ⟨g,0,I⟩) n E).ownBlock≠J k:=.inr (by simp[Δ.ownBlock];exact G)
theorem La {P:Program} {ops:Array ϳ} {o:ϳ} {a:Act} {w:Γ} {K:Act->Γ->Prop} {Q:Exit->Act->Γ->Prop} {E:Prop} (ty:TypeId) (x y:Operand) (H:o.op=.store ty x y) (T:o.guard=I)
  (b G:Nat) (cells:Array Δ) (hx:a.eval x=ε (J ⟨b,G,I⟩)) (X:a.eval y=.agg cells) (ht:w.there b G cells.size) (hi:(P.info? ty).map (·.size)=J cells.size) (h1:cells.all (·.oneCell')=Α)
  (h:K (a.put o.dst Ω) (w.setCells b G cells.toList)):if ϧ o (yielded ops a.tmps)=Α then ϳ.wp P o a w K Q else E:=by
 have hw:ϧ o (yielded ops a.tmps)=Α:=by simp[ϧ,T]
 rw[if_pos hw];exact wp_store_mid ty x y H b G cells hx X ht hi h1 h
theorem WY (a b:Int):Η.built 60 [(0,.int Φ a),(1,.int Φ b)]=J #[.int Φ a,.int Φ b]:=by kernel_rfl
theorem LC {W:Γ} {base e g n E size:Nat} {xs:List Δ} (h:W.ownsRow base e size (U (J ⟨g,0,I⟩) n E) n xs) (o:Nat) (a b:Δ) :
  (W.setCells g o [a,b]).ownsRow base e size (U (J ⟨g,0,I⟩) n E) n ((xs.set o a).set (o+1) b)/\W.grownBy (W.setCells g o [a,b]) (J g):=by
 have h0:=h.stored o a;have h1:=h0.1.stored (o+1) b;exact⟨h1.1,h0.2.trans h1.2⟩
theorem IC {l:List (Nat × Nat)} {xs:List Δ} {a q:Nat} (hx:l.length*2+1<xs.length) (h:∀ i,i<l.length*2->xs.getD i Ω=spF l i) (i:Nat) (hi:i<(l++[(a,q)]).length*2) :
  ((xs.set (l.length*2) (iv a)).set (l.length*2+1) (iv q)).getD i Ω=spF (l++[(a,q)]) i:=by
 rw[Ν,Ϩ] at hi;by_cases E:i=l.length*2+1
 ·subst E;rw[B7 (by rw[υ];omega),Pz];simp[Ζ]
 rw[Be E];by_cases G:i=l.length*2
 ·subst G;rw[B7 (by omega),P0];simp[Ζ]
 rw[Be G,h i (by omega)];unfold spF;have:i / 2<l.length:=by omega
 simp[Ζ,χ this]
theorem Jt (ps:List PtN) (hp:PatOk ps) (x:List UInt8) (hx:x.length<=1000) (b o ga:Nat) (vb:Δ) (w:Γ) (hT:Tab w) (gb:0<w.heap.size) (h:PatAt w b o ps) (hb:By w vb x) :
  ϛ Η 21 #[U (J ⟨b,o,I⟩) ps.length ga,vb] w λe w'=>MatOut w' e ps x/\Ext w w':=by
 obtain⟨ab,bb,ob,cb,rfl,jc,jd⟩:=hb.split;have lv:=Z (λW (hW:Ext w W)=>hT.below hW.below gb);have HP:=Z hp;have je:=Z h;obtain⟨iM,jg,jh,ji,jk⟩:=ϓ (show (Η.info? 115).map (λi=>(i.zero,i.size,i.bytes))=J (J (.pointer I),1,8) by kernel_rfl);obtain⟨iL,jm,jn,jo,jq⟩:=ϓ (show (Η.info? 38).map (λi=>(i.zero,i.size,i.bytes))=J (J (U I 0 0),1,24) by kernel_rfl);obtain⟨iV,js,jt,ju,jv⟩:=ϓ (show (Η.info? 117).map (λi=>(i.zero,i.size,i.bytes))=J (J (U I 0 0),1,24) by kernel_rfl);obtain⟨iB,hiB,gi,gk,gl⟩:=ϓ (show (Η.info? 4).map (λi=>(i.zero,i.size,i.bytes))=J (J (.bool Ε),1,1) by kernel_rfl);have f106:=Z (O6 ps hp b o ga w hT gb h);obtain⟨n,da⟩:=Xq (x.length);obtain⟨m,dv⟩:=Xq (ps.length);have jw:=hp.pos;have jx:=hp.le;rw[dv] at jw jx f106;rw[da] at hx;simp only[dv,da];rw[da] at hb;have HB:=Z hb;have G:=Z da;have ep:=Z dv;clear hp h hb hT jc jd da dv;go_enter Tryz.func21,Tryz.ntmps21;go_upto_region 2 with (go_at_call 28;(with_reducible refine f106.o.mono ?_);rintro e w2 ⟨g6,ds,rfl,db,gp,er⟩)
 have dc:=Z er;have dd:=Z db;have jz:=Z gp;have T:ϟ (ds.length=m):=Z (by rw[db.len,ep.o]);have cw:ϟ (okD ds):=Z λi hi=>⟨(db.at_ i hi).2.1.val,(db.at_ i hi).2.2⟩
 have j0:=er.size;clear er db gp f106;go_upto_region 5 with (at_make;refine Ϟ _ rfl _ _ 112 rfl w2.heap.size 115 iM (.pointer I) 1 Tryz.underlying112 jg jh ji Φ Φ _ _ m rfl rfl rfl rfl (by rw[jk];omega) (by unfold ϐ;omega) (Υ _) ?_;intro w3 aq de)
 have H:Ext w2 w3:=(Κ w2).grown de (λk e=>by cases e);have aq:w3.ownsRow w2.heap.size 115 1 (U (J ⟨w2.heap.size,0,I⟩) m m) m (θ m (.pointer I)):=by rw[<-Ju];exact aq
 have s3:w2.heap.size<w3.heap.size:=(aq.lt _ rfl).2;go_upto_region 6 with (at_make;refine Ϟ _ rfl _ _ 113 rfl w3.heap.size 38 iL (U I 0 0) 1 Tryz.underlying113 jm jn jo Φ Φ _ _ (m+1) (by push_cast;rfl) (by push_cast;rfl) rfl rfl (by rw[jq];omega) (by unfold ϐ;omega) (Υ _) ?_;intro w4 ai bn)
 have b7:=H.grown bn (λk e=>by cases e);have bd:=Bz aq bn;have ai:w4.ownsRow w3.heap.size 38 1 (U (J ⟨w3.heap.size,0,I⟩) (m+1) (m+1)) (m+1) (θ (m+1) (U I 0 0)):=by rw[<-Ju];exact ai
 have s4:w3.heap.size<w4.heap.size:=(ai.lt _ rfl).2;go_upto_region 7 with (at_make;refine Ϟ _ rfl _ _ 114 rfl w4.heap.size 117 iV (U I 0 0) 1 Tryz.underlying114 js jt ju Φ Φ _ _ m rfl rfl rfl rfl (by rw[jv];omega) (by unfold ϐ;omega) (Υ _) ?_;intro w5 af dw)
 have bo:=b7.grown dw (λk e=>by cases e);have et:=Bz bd dw;have eu:=Bz ai dw;have af:w5.ownsRow w4.heap.size 117 1 (U (J ⟨w4.heap.size,0,I⟩) m m) m (θ m (U I 0 0)):=by rw[<-Ju];exact af
 have s5:w4.heap.size<w5.heap.size:=(af.lt _ rfl).2;clear aq bd ai de bn dw H b7;obtain⟨gM,dy⟩:=Xq (w2.heap.size);obtain⟨gL,ev⟩:=Xq (w3.heap.size);obtain⟨gV,ew⟩:=Xq (w4.heap.size);obtain⟨gB,dz⟩:=Xq (w5.heap.size);rw[dy] at et s3 j0;rw[ev] at eu s3 s4;rw[ew] at af s4 s5;rw[dz] at s5;simp only[dy,ev,ew];have cy:=Z dy;have j1:=Z dz;clear dy ev ew;go_upto_region 8 with (at_make;refine Ϟ _ rfl _ _ 38 rfl w5.heap.size 4 iB (.bool Ε) 1 ä hiB gi gk Φ Φ _ _ (n+1) (by push_cast;rfl) (by push_cast;rfl) rfl rfl (by rw[gl];omega) (by unfold ϐ;omega) (Υ _) ?_;rw[dz];intro w6 cz ah;have bq:=Bz eu ah;have cL:=C7 bq m (by simp);have fL:=bq.frozenAt m)
 have s6:gB<w6.heap.size:=(cz.lt _ rfl).2;have cz:w6.ownsRow gB 4 1 (U (J ⟨gB,0,I⟩) (n+1) (n+1)) (n+1) ((θ (n+1) Ε).map ϊ):=by rw[<-B8];exact cz
 have br:=Bz et ah;have be:=Bz af ah;have bf:=bo.grown ah (λk e=>by cases e);obtain⟨ak,an⟩:=bq.stored m (U (J ⟨gB,0,I⟩) (n+1) (n+1));have c3:=bf.grown an (λk e=>by cases e;rw[cy.o];exact Nat.le_of_lt s3);have ea:=br.kept an (Cd br (Nat.ne_of_lt s3));have eb:=be.kept an (Cd be (Ne.symm (Nat.ne_of_lt s4)));have ao:=cz.kept an (Cd cz (Ne.symm (Nat.ne_of_lt (Nat.lt_trans s4 s5))));have s7:gB<(w6.setCell ⟨gL,m,I⟩ (U (J ⟨gB,0,I⟩) (n+1) (n+1))).heap.size:=(ao.lt _ rfl).2;clear et eu af bo ah cL fL bq br be cz bf an s6;obtain⟨w7,ez⟩:=Xq (w6.setCell ⟨gL,m,I⟩ (U (J ⟨gB,0,I⟩) (n+1) (n+1)));rw[ez] at ak c3 ea eb ao s7;simp only[ez];clear ez;have cL:w7.cell? ⟨gL,m,I⟩=J (U (J ⟨gB,0,I⟩) (n+1) (n+1)):=by have:=C7 ak m (by simp);rw[this,B7 (by simp)]
 have cB:=Au Ε ao (by simp) n (by simp);have fB:=ao.frozenAt n;go_upto_region 9 with (fail)
 obtain⟨bt,aw⟩:=Ba ao n Α;have b9:=c3.grown aw (λk e=>by cases e;rw[cy.o];omega);have ca:=ea.kept aw (Cd ea (by omega));have cc:=ak.kept aw (Cd ak (by omega));have a8:=eb.kept aw (Cd eb (by omega));have s8:gB<(w7.setCell ⟨gB,n,I⟩ (.bool Α)).heap.size:=(bt.lt _ rfl).2;clear ao ea ak eb c3 aw cL cB fB s7;obtain⟨w8,cd⟩:=Xq (w7.setCell ⟨gB,n,I⟩ (.bool Α));rw[cd] at cc b9 ca a8 bt s8;simp only[cd];clear cd;have gy:ϟ (MtInv w8 ds x (θ m (.pointer I)) ((θ (m+1) (U I 0 0)).set m (U (J ⟨gB,0,I⟩) (n+1) (n+1))) (θ m (U I 0 0)) m):=Z (by
  have gz:=T.o;refine⟨λj h1 h2=>by omega,λj h1 h2=>?_,λj h1 h2=>by omega,λj h1 h2=>J5 _ _ _ _ h1,λj h1 h2=>?_,λj h1 h2=>J5 _ _ _ _ h1⟩
  ·obtain rfl:j=m:=by omega
   rw[B7 (by simp)];refine⟨(θ (n+1) Ε).set n Α,λq hq=>?_,?_⟩
   ·rw[G.o] at hq;rw[List.drop_of_length_le (by omega)];show _↔x.drop q=[];rw[List.drop_eq_nil_iff,G.o];by_cases e:q=n
    ·subst e;rw[B7 (by simp)];simp
    rw[Be e,J5 _ _ _ _ (by omega)];simp
    omega
   rw[G.o];exact Sl.congr (Sl.of_owns bt (by omega) Ω) λq hq=>by
    have ec:q<((θ (n+1) Ε).set n Α).length:=by simp;omega
    rw[Ζ,ν,Ι ec,Ζ,Ι ec];rfl
  rw[Be (by omega),J5 _ _ _ _ (by omega)])
 clear bt;go_wp2_with (fail);go_loopw [11] (λvi W=>∃ (z:Int) (k:Nat) (M Lt Lv:List Δ),z+1=(k:Int)/\k<=m/\vi=.int Φ z/\Ext w2 W/\W.ownsRow gM 115 1 (U (J ⟨gM,0,I⟩) m m) m M/\W.ownsRow gL 38 1 (U (J ⟨gL,0,I⟩) (m+1) (m+1)) (m+1) Lt/\W.ownsRow gV 117 1 (U (J ⟨gV,0,I⟩) m m) m Lv/\gV<W.heap.size/\ϟ (MtInv W ds x M Lt Lv k))
  (λvi _=>(intOf vi+1).toNat)
 case atStart=>exact⟨(m:Int)-1,m,_,_,_,by omega,by omega,by go_num,b9,ca,cc,a8,by omega,gy⟩
 clear b9 ca cc a8 gy s8 s5 j1 dz;obtain⟨z,k,M,Lt,Lv,hz,ly,rfl,hE,hM,X,E,j3,HI⟩:=hrel;by_cases hf:z<0
 ·obtain rfl:k=0:=by omega
  have l2:¬ (0:Int)<=z:=by omega
  have df:=HI.o.l 0 (by omega) (by omega);have e3:=C7 X 0 (by have:=Di X;omega);obtain⟨vl,bg⟩:=Xq (Lt.getD 0 Ω);rw[bg] at df e3;obtain⟨ok,bw,bz⟩:=df;obtain⟨bl,ol,cl,rfl,hh⟩:=â bz (by omega);have e4:=hh 0 (by omega);rw[Nat.add_zero] at e4;rw[G.o] at e3;obtain⟨o0,hn⟩:=Xq (ok.getD 0 Ε);have ee:=bw 0 (by omega);rw[hn] at e4 ee;rw[ϰ,ϰ] at ee;have ho:=Z ee;clear hz hf bg bw bz hh hn ee;cases o0 with
  | false=>go_wp2_with (fail);go_ret2;exact⟨⟨ds,dd.o,.inl ⟨λh=>by simpa using ho.o.2 h,rfl⟩⟩,dc.o.t hE⟩
  | true=>
   have j4:=Z (ho.o.1 rfl);obtain⟨iO,j6,j7,j8,j9⟩:=ϓ (show (Η.info? 60).map (λi=>(i.zero,i.size,i.bytes))=J (J (.agg #[.int Φ 0,.int Φ 0]),2,16) by kernel_rfl);obtain⟨gO,e5⟩:=Xq (wr.heap.size);go_upto_region 23 with (at_make;refine Ϟ _ rfl _ _ 56 rfl wr.heap.size 60 iO (.agg #[.int Φ 0,.int Φ 0]) 2 Tryz.underlying56 j6 j7 j8 Φ Φ _ _ m rfl rfl rfl rfl (by rw[j9];omega) (by unfold ϐ;omega) (Υ _) ?_;rw[e5];intro w3 bh de)
   have H:=(Κ wr).grown de (λk e=>by cases e);obtain⟨we,ka⟩:∃ V,V=wr:=⟨_,rfl⟩;subst ka;have kb:=Z e5;clear e3 e4 de e5;go_wp2_with (fail);go_loopw [15,118] (λva vj W=>∃ (j p:Nat) (l:List (Nat × Nat)) (xs:List Δ),j<=m/\vj=iv j/\va=iv p/\Ext we W/\W.ownsRow gO 60 2 (U (J ⟨gO,0,I⟩) m m) m xs/\ϟ (l.length=j/\(∀ i,i<l.length*2->xs.getD i Ω=spF l i)/\p<=n/\Bp (ds.drop j) (x.drop p)/\∀ l',Cb ((pts ps ds).drop j) x p l'->Cb (pts ps ds) x 0 (l++l')))
    (λ_ vj _=>m-(intOf vj).toNat)
   case atStart=>exact⟨0,0,[],_,by omega,rfl,rfl,H,bh,Z ⟨rfl,λi hi=>absurd hi (by simp),by omega,by simpa using j4.o,λl' h=>h⟩⟩
   clear H bh;obtain⟨j,p,l,xs,hj,rfl,rfl,H,bh,HL⟩:=hrel;by_cases c4:j<m
   ·obtain⟨gj,hr,hs⟩:=HI.o.m j (by omega) (by rw[T.o];exact c4);have df:=HI.o.l (j+1) (by omega) (by rw[T.o];omega);have ht:=HI.o.v j (by omega) (by rw[T.o];exact c4);have cM:=C7 hM j (by have:=Di hM;omega);have cL:=C7 X (j+1) (by have:=Di X;omega);have cV:=C7 E j (by have:=Di E;omega);rw[hr] at cM;obtain⟨vl,bg⟩:=Xq (Lt.getD (j+1) Ω);obtain⟨vv,hv⟩:=Xq (Lv.getD j Ω);rw[bg] at df cL;rw[hv] at ht cV;obtain⟨ok,bw,bz⟩:=df;obtain⟨S,dh,dk⟩:=ht;obtain⟨b',o',c',hy,_⟩:=je.o j (by rw[ep.o];exact c4);have dm:=hy 1 (.bool (ps.getD j pN).lz) rfl;obtain⟨lz,e8⟩:=Xq ((ps.getD j pN).lz);rw[e8] at dm;have kd:=Z e8;have dm:=(dc.o.t hE).cell dm;obtain⟨b5,ef⟩:=cw.o j (by rw[T.o];exact c4);have h6:Bp (ds.drop j)=Cat (wd1 (ds.getD j dN)) (Bp (ds.drop (j+1))):=BS (by rw[T.o];exact c4);have h7:∃ q,C1 (ds.getD j dN) (Bp (ds.drop (j+1))) x p q:=(Sn (by rw[G.o];exact HL.o.2.2.1)).1 (by rw[<-h6];exact HL.o.2.2.2.1);have f113:=Z (λV (E:Ext we V)=>UJ lz (ds.getD j dN) b5 ef (Bp (ds.drop (j+1))) x (by rw[G.o];omega) p (by rw[G.o];exact HL.o.2.2.1) h7 ok bw S dh gj (U ab n cb) vl vv V (hs.ext E) (HB.o.ext ((dc.o.t hE).trans E)) (bz.ext E) (dk.ext E));have HK:=Z (λV (E:Ext we V)=>ï (E.cell cL) (ï (E.cell cV) (E.cell dm)));have cM:=H.cell cM;have c5:xs.length=m*2:=bh.1;have h9:∀ V,Ext wr V->V.there gO (j*2) 2:=λV E jj l9=>by have ia:=Aa bh E;refine⟨?_,ia.frozenAt _⟩;rw[ia.cellAt (j*2+jj) (by omega),Ι (by omega)];rfl
    have ib:=Z h9;have eg:=Z H;have ic:=Z bh;have ie:=Z c5;clear hr hs bw bz dh dk bg hv hy e8 dm cL cV h6 h7 bh c5 h9 H;have e9:Ü.wrap ((j:Int)+1)=(j:Int)+1:=IntKind.wrap_i64_id (by omega) (by omega);have fa:(j:Int)+1<(m:Int)+1:=by omega
    have fb:(0:Int)<=(j:Int)+1:=by omega
    have fc:((j:Int)+1).toNat=j+1:=by omega
    have ma:(j:Int)<(m:Int):=by omega
    go_upto_region 27 with (fail)
    clear cM;refine Bl 23 [(0,Α),(1,Α),(2,Α),(3,Α),(4,Α),(5,Α),(6,Α),(7,Α),(8,Α),(9,Α),(10,Α),(11,Α),(12,Α),(13,Α),(14,Α),(15,Α),(16,Α),(17,Α),(18,Α),(19,Α),(20,Ε),(21,Α),(22,Α),(23,Ε)] (by kernel_rfl) (by kernel_rfl) (λ_ _ _ _ h=>h) (λV=>Ext wr V) (Κ wr).drew ?_;have bj:=(Κ wr).drew;obtain⟨wy,cn⟩:=Xq (wr.drew);rw[cn] at bj;rw[cn];clear cn;iterate 20
     refine Af (v:=?_) rfl rfl (λV E=>?_) ?_
     rotate_left
     ·obtain⟨k1,k2,k3⟩:=HK.o V (eg.o.t E);clear E;go_simp;first|done|with_reducible rfl
     simp only[η,Θ,Μ,Λ]
    refine Ao rfl (λKk hK=>?_);go_simp
    (with_reducible refine (f113.o wy (eg.o.t bj)).mono ?_)
    rintro e w5 ⟨q,rfl,eh,bo⟩;have ad:=bj.t bo;refine hK _ _ (λ_=>ad) ?_;clear hK Kk f113 bj bo HK;have ig:=Z (WY (p:Int) (q:Int));refine Af (v:=.agg #[iv p,iv q]) rfl rfl (λV _=>?_) ?_
    ·exact Fy 60 _ rfl (by simpa [Act.eval] using ig.o) V
    simp only[η,Θ,Μ,Λ];refine Af (v:=?_) rfl rfl (λV E=>?_) ?_
    rotate_left
    ·clear E;go_simp;first|done|with_reducible rfl
    simp only[η,Θ,Μ,Λ];refine Ao rfl (λKk hK=>?_);refine La 60 (δ 145) (δ 144) rfl rfl gO (j*2) #[iv p,iv q] rfl rfl (ib.o w5 ad) (Ro _ _) (by simp[ξ]) ?_;obtain⟨ff,ah⟩:=LC (Aa ic.o ad) (j*2) (iv p) (iv q);have bf:=(eg.o.t ad).grown ah (λk e=>by cases e;exact Ô kb.o);refine hK _ _ (λh=>absurd h (by omega)) ?_;clear hK Kk;refine Bj ?_;have ih:(#[iv p,iv q]:Array Δ).toList=[iv p,iv q]:=rfl;rw[ih];obtain⟨w6,ct⟩:=Xq (w5.setCells gO (j*2) [iv p,iv q]);rw[ct] at ff bf;rw[ct];have c1:w6.cell? ⟨gO,j*2+1,I⟩=J (iv q):=by rw[ff.cellAt (j*2+1) (by omega),List.getElem?_set_self (by rw[υ,ie.o];omega)]
    have fg:ϟ ((l++[(p,q)]).length=j+1/\(∀ i,i<(l++[(p,q)]).length*2->((xs.set (j*2) (iv p)).set (j*2+1) (iv q)).getD i Ω=spF (l++[(p,q)]) i)/\q<=n/\Bp (ds.drop (j+1)) (x.drop q)/\∀ l',Cb ((pts ps ds).drop (j+1)) x q l'->Cb (pts ps ds) x 0 ((l++[(p,q)])++l')):=Z (by
     obtain⟨h1,h2,h3,h4,h5⟩:=HL.o;refine⟨by rw[Ν,h1];rfl,?_,?_,eh.1.2.2.2,λl' kh=>?_⟩
     ·rw[<-h1];exact IC (by rw[h1,ie.o];omega) h2
     ·rw[<-G.o];exact eh.1.2.1
     rw[List.append_assoc];refine h5 _ ?_;rw[Qh dd.o.len (by rw[T.o];exact c4)];refine⟨q,l',rfl,?_,kh⟩;rw[Wn dd.o.len,kd.o];exact eh)
    clear ih ct ah ad eh eg ib ic e9 fa fb fc ig;go_wp2_with (fail);go_roundw
    case rel=>exact⟨j+1,q,l++[(p,q)],_,by omega,by go_num,rfl,bf,ff,fg⟩
    simp[intOf]<;>omega
   obtain rfl:j=m:=by omega
   have ki:ϟ (Cb (pts ps ds) x 0 l):=Z (by
    obtain⟨h1,h2,h3,h4,h5⟩:=HL.o;have kj:ds.drop j=[]:=List.drop_of_length_le (by rw[T.o];exact Υ _);rw[kj] at h4;have h4:x.drop p=[]:=h4;rw[List.drop_eq_nil_iff,G.o] at h4;have:=h5 [] (by rw[List.drop_of_length_le (by simp[pts,dd.o.len,ep.o])];exact⟨rfl,by rw[G.o];omega⟩)
    rwa [List.append_nil] at this)
   have kk:ϟ (SpV wr (U (J ⟨gO,0,I⟩) j j) l):=Z (by have hl:=HL.o.1;have:=Sl.of_owns bh (by omega) Ω;unfold SpV;rw[hl];exact Sl.congr this λi hi=>HL.o.2.1 i (by rw[hl];exact hi))
   clear bh;go_wp2_with (fail);go_ret2;exact⟨⟨ds,dd.o,.inr ⟨l,_,ki.o,kk.o,rfl⟩⟩,(dc.o.t hE).trans H⟩
 obtain⟨i,rfl⟩:∃ i:Nat,z=i:=⟨z.toNat,by omega⟩;obtain rfl:k=i+1:=by omega
 have dp:i<m:=by omega
 have mc:(0:Int)<=(i:Int):=by omega
 obtain⟨y1,y2,y3,fj,ik⟩:=(jz.o.ext hE) i (by rw[T.o];exact dp);obtain⟨b5,ef⟩:=cw.o i (by rw[T.o];exact dp);have f111:=Z (Q5 (ds.getD i dN) b5 _ wr ik);rw[ϖ] at fj;have kl:=Di hM;clear hz hf ik;go_upto_region 13 with (first
  | (refine å rfl 40 (δ 62) rfl g6 (i*3) rfl _ _ fj Ο rfl (Dk _ _ _) ?_)
  | (go_at_call 50;(with_reducible refine f111.o.mono ?_);rintro e w3 ⟨gm,rfl,il,H⟩;have aq:=Aa hM H;have cM:=C7 aq i (by omega);have fM:=aq.frozenAt i))
 have im:M.getD i Ω=ε I:=HI.o.m0 i (by omega) (by rw[T.o];exact dp);rw[im] at cM;obtain⟨bd,bn⟩:=aq.stored i (ε (J ⟨gm,0,I⟩));have fk:=(NilX.refl w3).set (v:=ε (J ⟨gm,0,I⟩)) aq (by decide) cM (.inr rfl);have fl:=(NilX.of_ext H).trans fk;have b7:=(hE.t H).grown bn (λk e=>by cases e;rw[cy.o];exact Υ _);have ai:=(Aa X H).kept bn (Cd X (Ne.symm (Nat.ne_of_lt s3)));have dq:=(Aa E H).kept bn (Cd E (Ne.symm (Nat.ne_of_lt (Nat.lt_trans s3 s4))));have ei:=il.nilx b5 fk;have kn:gV<(w3.setCell ⟨gM,i,I⟩ (ε (J ⟨gm,0,I⟩))).heap.size:=(dq.lt _ rfl).2;clear bn fk aq cM fM im il H hM X E hE j3 fj f111;obtain⟨w4,fm⟩:=Xq (w3.setCell ⟨gM,i,I⟩ (ε (J ⟨gm,0,I⟩)));rw[fm] at bd ai dq b7 fl ei kn;simp only[fm];clear fm;have cv:=HI.o.nilx cw.o fl;have ko:=Di bd;have kq:=Di ai;have kr:=Di dq;obtain⟨vl,bg⟩:=Xq (Lt.getD (i+1) Ω);have ir:=cv.l (i+1) (by omega) (by rw[T.o];omega);rw[bg] at ir;have iu:=cv.v0 i (by omega) (by rw[T.o];exact dp);have iw:=cv.l0 i (by omega) (by rw[T.o];omega);have fo:=C7 bd i (by omega);rw[B7 (by omega)] at fo;have dr:=C7 ai (i+1) (by omega);rw[bg] at dr;have cv:=Z cv;have ix:=Z (λV (E:Ext w4 V)=>ï (E.cell fo) (E.cell dr));obtain⟨ok,bw,bz⟩:=ir;have f112:=Z (λV (E:Ext w4 V)=>OX (ds.getD i dN) b5 ef (Bp (ds.drop (i+1))) x (by rw[G.o];omega) ok bw gm (U ab n cb) vl V (ei.ext E) (HB.o.ext ((dc.o.t b7).trans E)) (bz.ext E));have ks:=Z ei;have kt:=Z iu;have fg:=Z iw;clear fl HI bg fo dr bw bz ok ei iu iw ko kq kr kl;have e9:Ü.wrap ((i:Int)+1)=(i:Int)+1:=IntKind.wrap_i64_id (by omega) (by omega);have fa:(i:Int)+1<(m:Int)+1:=by omega
 have fb:(0:Int)<=(i:Int)+1:=by omega
 have fc:((i:Int)+1).toNat=i+1:=by omega
 have mh:(i:Int)<(m:Int):=by omega
 refine Bl 14 [(0,Α),(1,Α),(2,Α),(3,Α),(4,Α),(5,Α),(6,Α),(7,Α),(8,Α),(9,Α),(10,Α),(11,Α),(12,Ε),(13,Α),(14,Ε)] (by kernel_rfl) (by kernel_rfl) (λ_ _ _ _ h=>h) (λV=>Ext w4 V) (Κ w4).drew ?_;have bj:=(Κ w4).drew;obtain⟨wy,cn⟩:=Xq (w4.drew);rw[cn] at bj;rw[cn];clear cn;iterate 12
  refine Af (v:=?_) rfl rfl (λV E=>?_) ?_
  rotate_left
  ·obtain⟨k1,k2⟩:=ix.o V E;clear E;go_simp;first|done|with_reducible rfl
  simp only[η,Θ,Μ,Λ]
 refine Ao rfl (λKk hK=>?_);go_simp
 (with_reducible refine (f112.o wy bj).mono ?_)
 rintro e w5 ⟨vv,rfl,fp,bo⟩;have ad:=bj.t bo;obtain⟨bS,oS,cS,rfl⟩:∃ bS oS cS,vv=U (J ⟨bS,oS,I⟩) (n+1) cS:=by obtain⟨S,_,hS⟩:=fp;obtain⟨bS,oS,cS,e',_⟩:=â hS (by omega);rw[G.o] at e';exact⟨bS,oS,cS,e'⟩
 refine hK _ _ (λ_=>ad) ?_;clear hK Kk f112 bj bo ix;have af:=Aa dq ad;have cV:=C7 af i (by have:=Di af;omega);rw[kt.o] at cV;have fV:=af.frozenAt i;obtain⟨be,ah⟩:=af.stored i (U (J ⟨bS,oS,I⟩) (n+1) cS);have br:=(Aa bd ad).kept ah (Cd bd (Nat.ne_of_lt (Nat.lt_trans s3 s4)));have bq:=(Aa ai ad).kept ah (Cd ai (Nat.ne_of_lt s4));have ej:=(NilX.refl w5).set (v:=U (J ⟨bS,oS,I⟩) (n+1) cS) af (by decide) cV (.inl rfl);have bf:=(b7.t ad).grown ah (λk e=>by cases e;rw[cy.o];exact Nat.le_of_lt (Nat.lt_trans s3 s4));have fq:=(cv.o.nilx cw.o (NilX.of_ext ad)).nilx cw.o ej;have fs:=fp.nilx ej;have ft:=(ks.o.ext ad).nilx b5 ej;have fu:gV<(w5.setCell ⟨gV,i,I⟩ (U (J ⟨bS,oS,I⟩) (n+1) cS)).heap.size:=(be.lt _ rfl).2;obtain⟨w6,ct⟩:=Xq (w5.setCell ⟨gV,i,I⟩ (U (J ⟨bS,oS,I⟩) (n+1) cS));refine Af (v:=?_) rfl rfl (λV E=>?_) ?_
 rotate_left
 ·clear E;go_simp;first|done|with_reducible rfl
 simp only[η,Θ,Μ,Λ];refine Ao rfl (λKk hK=>?_);go_simp;refine hK _ _ (λh=>absurd h (by omega)) ?_;clear hK Kk;refine Bj ?_;rw[ct] at be br bq bf fq fs ft fu;try rw[ct]
 clear ct af cV fV ah ej fp ad dq bd ai b7 e9 fa fb fc cv;obtain⟨gN,ek⟩:=Xq (w6.heap.size);rw[ek] at fu;go_upto_region 15 with (at_make;refine Ϟ _ rfl _ _ 38 rfl w6.heap.size 4 iB (.bool Ε) 1 ä hiB gi gk Φ Φ _ _ (n+1) (by push_cast;rfl) (by push_cast;rfl) rfl rfl (by rw[gl];omega) (by unfold ϐ;omega) (Υ _) ?_;rw[ek];intro w7 ao an;have ak:=Bz bq an;have cL:=C7 ak i (by have:=Di ak;omega);have fL:=ak.frozenAt i)
 rw[fg.o] at cL;have ao:w7.ownsRow gN 4 1 (U (J ⟨gN,0,I⟩) (n+1) (n+1)) (n+1) ((θ (n+1) Ε).map ϊ):=by rw[<-B8];exact ao
 obtain⟨cc,aw⟩:=ak.stored i (U (J ⟨gN,0,I⟩) (n+1) (n+1));have c3:=bf.grown an (λk e=>by cases e);have iy:NilX w6 w7:=NilX.of_ext ((Κ w6).grown an (λk e=>by cases e));have fv:=iy.set (v:=U (J ⟨gN,0,I⟩) (n+1) (n+1)) ak (by decide) cL (.inl rfl);have b9:=c3.grown aw (λk e=>by cases e;rw[cy.o];exact Nat.le_of_lt s3);have ca:=(Bz br an).kept aw (Cd br (Nat.ne_of_lt s3));have a8:=(Bz be an).kept aw (Cd be (Ne.symm (Nat.ne_of_lt s4)));have bt:=ao.kept aw (Cd ao (Ne.symm (Nat.ne_of_lt (Nat.lt_trans s4 fu))));have fw:=C7 a8 i (by have:=Di a8;omega);rw[B7 (by have:=Di a8;simp at this;omega)] at fw;have kx:=Z ek;have ky:=Z fq;have iz:=Z fs;have kz:=Z ft;clear an aw ak cL fL ao c3 iy bf br be bq ek fq fs ft;obtain⟨w8,cd⟩:=Xq (w7.setCell ⟨gL,i,I⟩ (U (J ⟨gN,0,I⟩) (n+1) (n+1)));rw[cd] at cc fv b9 ca a8 bt fw;simp only[cd];clear cd;obtain⟨S,dh,dk⟩:=iz.o;have k0:ϟ (∀ W,NilX w6 W->∀ q,q<n+1->W.cell? ⟨bS,oS+q,I⟩=J (.int ζ (S.getD q 0:Nat))):=Z λW hW q hq=>by
  obtain⟨mi,mj,ml,e',hc⟩:=â dk (by omega);injection e' with e' _ _
  injection e' with e'
  injection e' with e1 e2 _
  subst e1 e2;exact hW.cell _ _ (hc q (by rw[G.o];omega)) (λe=>by cases e) (λe=>by cases e)
 have k7:ϟ (∀ q,q<=n->Gc (ds.getD i dN) (Bp (ds.drop (i+1))) x q (S.getD q 0)):=Z λq hq=>dh q (by rw[G.o];exact hq)
 have k9:ϟ (Bp (ds.drop i)=Cat (wd1 (ds.getD i dN)) (Bp (ds.drop (i+1)))):=Z (BS (by rw[T.o];exact dp));clear dh dk;go_wp2_with (fail);clear fw;go_loopw [92] (λva W=>∃ (q:Nat) (bm:List Bool),q<=n+1/\va=iv q/\Ext w2 W/\NilX w6 W/\W.ownsRow gM 115 1 (U (J ⟨gM,0,I⟩) m m) m (M.set i (ε (J ⟨gm,0,I⟩)))/\W.ownsRow gL 38 1 (U (J ⟨gL,0,I⟩) (m+1) (m+1)) (m+1) (Lt.set i (U (J ⟨gN,0,I⟩) (n+1) (n+1)))/\W.ownsRow gV 117 1 (U (J ⟨gV,0,I⟩) m m) m (Lv.set i (U (J ⟨bS,oS,I⟩) (n+1) cS))/\W.ownsRow gN 4 1 (U (J ⟨gN,0,I⟩) (n+1) (n+1)) (n+1) (bm.map ϊ)/\ϟ (bm.length=n+1/\∀ q',q'<q->(bm.getD q' Ε=Α↔Bp (ds.drop i) (x.drop q'))))
  (λva _=>n+1-(intOf va).toNat)
 case atStart=>exact⟨0,_,by omega,rfl,b9,fv,ca,cc,a8,bt,Z ⟨by simp,λq hq=>by omega⟩⟩
 clear b9 fv ca cc a8 bt;obtain⟨q,bm,hq,rfl,hE,hX,hM,X,E,dt,HQ⟩:=hrel;by_cases la:q<n+1
 ·have cq:=k0.o wr hX q la;have dr:=C7 X i (by have:=Di X;omega);rw[B7 (by have:=Di X;simp at this;omega)] at dr;have c5:=HQ.o.1;have cB:=Au Ε dt c5.symm q (by omega);have fB:=dt.frozenAt q;have fx:=k7.o q (by omega);have ja:=YV (S.getD q 0) (Ξ fx.1 (Nat.pow_le_pow_right (by omega) ef));have HZ:=Z (OV b5 (by rw[G.o];omega) fx);obtain⟨mm,hZ⟩:=Xq (((S.getD q 0:Nat):Int):Int);rw[hZ] at cq ja;obtain⟨bb,fy⟩:=Xq (decide (S.getD q 0 % 2=1));rw[fy] at ja;have lg:=Z fy;clear hZ fy fx;have mo:(q:Int)<(n:Int)+1:=by omega
  obtain⟨lh,c7⟩:=Ba (f:=ϊ) dt q bb;have lj:=hE.grown c7 (λk e=>by cases e;rw[cy.o];omega);have lk:=hM.kept c7 (Cd hM (by omega));have ll:=X.kept c7 (Cd X (by omega));have ln:=E.kept c7 (Cd E (by omega));have lo:=hX.fresh c7 (Ô kx.o);have lp:ϟ ((bm.set q bb).length=n+1/\∀ q',q'<q+1->((bm.set q bb).getD q' Ε=Α↔Bp (ds.drop i) (x.drop q'))):=Z ⟨by rw[υ];exact c5,λq' fz=>by
   by_cases e:q'=q
   ·subst e;rw[B7 (by omega),k9.o,<-HZ.o,<-lg.o];simp
   rw[Be e];exact HQ.o.2 q' (by omega)⟩
  clear c7 hE hX hM X E dt HQ c5;go_wp2_with (fail);go_roundw
  case rel=>exact⟨q+1,bm.set q bb,by omega,by go_num,lj,lo,lk,ll,ln,lh,lp⟩
  simp[intOf];omega
 obtain rfl:q=n+1:=by omega
 have gz:=T.o;have lq:ϟ (MtInv wr ds x (M.set i (ε (J ⟨gm,0,I⟩))) (Lt.set i (U (J ⟨gN,0,I⟩) (n+1) (n+1))) (Lv.set i (U (J ⟨bS,oS,I⟩) (n+1) cS)) i):=Z (by
  refine MtInv.step (ky.o.nilx cw.o hX) (by omega) ?_ ?_ ?_ (kz.o.nilx b5 hX) ⟨bm,λq' fz=>HQ.o.2 q' (by rw[G.o] at fz;omega),?_⟩ (iz.o.nilx hX)
  ·have:=Di hM;simp at this;omega
  ·have:=Di X;simp at this;omega
  ·have:=Di E;simp at this;omega
  rw[G.o];exact Sl.congr (Sl.of_owns dt (by omega) Ω) λq' fz=>by
   have ec:q'<bm.length:=by rw[HQ.o.1];omega
   simp[Ζ,ec])
 have lr:gV<wr.heap.size:=(E.lt _ rfl).2;clear gz;go_wp2_with (fail);go_roundw
 case rel=>exact⟨(i:Int)-1,i,_,_,_,by omega,by omega,by go_num,hE,hM,X,E,lr,lq⟩
 simp[intOf]<;>omega
theorem Fl {α:Type} (l:List α) (x d:α):(l++[x]).getD l.length d=x:=by rw[Ζ,ς (Υ _),Nat.sub_self];rfl
theorem Fw {α:Type} (l:List α) (x d:α) {i:Nat} (h:i<l.length):(l++[x]).getD i d=l.getD i d:=by rw[Ζ,χ h,<-Ζ]
theorem Ip {α:Type} {l:List α} {i:Nat} {d:α} (h:i<l.length):l.getD i d∈l:=by rw[Ζ,Ι h];exact List.getElem_mem h
theorem Zq {α:Type} {l:List α} {x d:α} (h:x∈l):∃ i,i<l.length/\l.getD i d=x:=by obtain⟨i,hi,rfl⟩:=Ï.1 h;exact⟨i,hi,by rw[Ζ,Ι hi];rfl⟩
structure GInv (ρ:Nat->Option Dfa) (n s:Nat) (rs:List Dfa) (mb:List (List Bool)):Prop where
 len:mb.length=rs.length
 nodup:rs.Nodup
 from_:∀ d,d∈rs->(∃ x,x<s/\ρ x=J d)/\∃ v,d.has v=Α
 all:∀ x,x<s->∀ d,ρ x=J d->(∃ v,d.has v=Α)->d∈rs
 mlen:∀ i,i<rs.length->(mb.getD i []).length=n
 mem:∀ i,i<rs.length->∀ x,x<n->((mb.getD i []).getD x Ε=Α↔x<s/\ρ x=J (rs.getD i dN))
 le:rs.length<=s
theorem SO (ρ:Nat->Option Dfa) (n:Nat):GInv ρ n 0 [] []:=
 ⟨rfl,List.nodup_nil,λd h=>absurd h (by simp),λx h=>by omega,λi h=>absurd h (by simp),λi h=>absurd h (by simp),Υ _⟩
section
variable {ρ:Nat->Option Dfa} {n s:Nat} {rs:List Dfa} {mb:List (List Bool)}
theorem GInv.skip (h:GInv ρ n s rs mb) (H:∀ d,ρ s=J d->∀ v,d.has v=Ε):GInv ρ n (s+1) rs mb where
 len:=h.len
 nodup:=h.nodup
 from_:=λd hd=>by obtain⟨⟨x,h1,G⟩,T⟩:=h.from_ d hd;exact⟨⟨x,by omega,G⟩,T⟩
 all:=λx hx d hd E=>by
  by_cases e:x=s
  ·subst e;obtain⟨v,E⟩:=E;rw[H d hd v] at E;cases E
  exact h.all x (by omega) d hd E
 mlen:=h.mlen
 mem:=λi hi x hx=>by
  rw[h.mem i hi x hx];constructor
  ·rintro⟨h1,G⟩;exact⟨by omega,G⟩
  rintro⟨h1,G⟩;refine⟨?_,G⟩;by_cases e:x=s
  ·subst e;obtain⟨_,v,E⟩:=h.from_ _ (Ip (d:=dN) hi);rw[H _ G v] at E;cases E
  omega
 le:=by have:=h.le;omega
theorem GInv.hit (h:GInv ρ n s rs mb) (hn:s<n) {a:Nat} (X:a<rs.length) (H:ρ s=J (rs.getD a dN)):GInv ρ n (s+1) rs (mb.set a ((mb.getD a []).set s Α)) where
 len:=by rw[υ];exact h.len
 nodup:=h.nodup
 from_:=λd hd=>by obtain⟨⟨x,h1,E⟩,T⟩:=h.from_ d hd;exact⟨⟨x,by omega,E⟩,T⟩
 all:=λx hx d hd hv=>by
  by_cases e:x=s
  ·subst e;rw[H] at hd;injection hd with hd
   rw[<-hd];exact Ip X
  exact h.all x (by omega) d hd hv
 mlen:=λi hi=>by
  by_cases e:i=a
  ·subst e;rw[B7 (by rw[h.len];exact hi),υ];exact h.mlen i hi
  rw[Be e];exact h.mlen i hi
 mem:=λi hi x hx=>by
  by_cases e:i=a
  ·subst e;rw[B7 (by rw[h.len];exact hi)];by_cases G:x=s
   ·subst G;rw[B7 (by rw[h.mlen i hi];exact hn)];exact⟨λ_=>⟨by omega,H⟩,λ_=>rfl⟩
   rw[Be G,h.mem i hi x hx];constructor
   ·rintro⟨h1,E⟩;exact⟨by omega,E⟩
   rintro⟨h1,E⟩;exact⟨by omega,E⟩
  rw[Be e,h.mem i hi x hx];constructor
  ·rintro⟨h1,E⟩;exact⟨by omega,E⟩
  rintro⟨h1,E⟩;refine⟨?_,E⟩;by_cases G:x=s
  ·subst G;rw[H] at E;injection E with E
   have T:rs[a]'X=rs[i]'hi:=by rw[Ζ,Ι X,Ζ,Ι hi] at E;exact E
   exact absurd ((List.getElem_inj h.nodup).1 T).symm e
  omega
 le:=by have:=h.le;omega
theorem GInv.new (h:GInv ρ n s rs mb) (X:s<n) {d:Dfa} (hd:d∉rs) (H:ρ s=J d) (T:∃ v,d.has v=Α):GInv ρ n (s+1) (rs++[d]) (mb++[(θ n Ε).set s Α]) where
 len:=by rw[Ν,Ν,h.len];rfl
 nodup:=by rw[List.nodup_append];refine⟨h.nodup,by simp,λa ha b hb=>?_⟩;rw[ϙ] at hb;subst hb;rintro rfl;exact hd ha
 from_:=λe he=>by
  rcases List.mem_append.1 he with he|he
  ·obtain⟨⟨x,h1,E⟩,h3⟩:=h.from_ e he;exact⟨⟨x,by omega,E⟩,h3⟩
  rw[ϙ] at he;subst he;exact⟨⟨s,by omega,H⟩,T⟩
 all:=λx hx e he T=>by
  by_cases G:x=s
  ·subst G;rw[H] at he;injection he with he
   rw[<-he];simp
  exact List.mem_append_left _ (h.all x (by omega) e he T)
 mlen:=λi hi=>by
  rw[Ν,Ϩ] at hi;by_cases e:i<rs.length
  ·rw[Fw _ _ _ (by rw[h.len];exact e)];exact h.mlen i e
  obtain rfl:i=mb.length:=by rw[h.len];omega
  rw[Fl];simp
 mem:=λi hi x hx=>by
  rw[Ν,Ϩ] at hi;by_cases e:i<rs.length
  ·rw[Fw _ _ _ (by rw[h.len];exact e),Fw _ _ _ e,h.mem i e x hx];constructor
   ·rintro⟨h1,E⟩;exact⟨by omega,E⟩
   rintro⟨h1,E⟩;refine⟨?_,E⟩;by_cases G:x=s
   ·subst G;rw[H] at E;injection E with E
    rw[E] at hd;exact absurd (Ip e) hd
   omega
  obtain rfl:i=rs.length:=by omega
  rw[show rs.length=mb.length from h.len.symm,Fl,h.len,Fl];by_cases G:x=s
  ·subst G;rw[B7 (by simp;exact X)];exact⟨λ_=>⟨by omega,H⟩,λ_=>rfl⟩
  rw[Be G,J5 _ _ _ _ hx];constructor
  ·intro h1;cases h1
  rintro⟨h1,E⟩;exact absurd (h.all x (by omega) d E T) hd
 le:=by rw[Ν,Ϩ];have:=h.le;omega
theorem SP (h:GInv ρ n n rs mb) {nx:Nat->Nat->Nat} (hρ:∀ s d,ρ s=J d->s<n/\Cano d) (T:∀ u,Aq nx 0 u<n) (af:∀ s,s<n->∃ u,Aq nx 0 u=s) {E:List Dfa} (hl:E.length=rs.length)
  (hh:∀ i,i<rs.length->Cano (E.getD i dN)/\∀ u,(E.getD i dN).has u=Α↔(mb.getD i []).getD (Aq nx 0 u) Ε=Α):CollR nx ρ (List.zipWith Opt.mk E rs):=by
 have hz:∀ o,o∈List.zipWith Opt.mk E rs->∃ i,i<rs.length/\o.head=E.getD i dN/\o.rest=rs.getD i dN:=λo G=>by
  obtain⟨i,hi,rfl⟩:=Ï.1 G;rw[List.length_zipWith] at hi;have h1:i<E.length:=by omega
  have H:i<rs.length:=by omega
  refine⟨i,H,?_,?_⟩
  ·simp[Ζ,Ι h1]
  simp[Ζ,Ι H]
 have hm:∀ i,i<rs.length->∀ u,(E.getD i dN).has u=Α↔ρ (Aq nx 0 u)=J (rs.getD i dN):=λi hi u=>by rw[(hh i hi).2 u,h.mem i hi _ (T u)];exact⟨λh1=>h1.2,λh1=>⟨T u,h1⟩⟩
 refine⟨λo G=>?_,λo G w=>?_,λw d hd hv=>?_,?_⟩
 ·obtain⟨i,hi,X,e2⟩:=hz o G;obtain⟨⟨x,hx,h1⟩,H⟩:=h.from_ _ (Ip (d:=dN) hi);obtain⟨u,hu⟩:=af x hx;rw[X,e2];exact⟨(hh i hi).1,(hρ x _ h1).2,H,u,by rw[hu];exact h1⟩
 ·obtain⟨i,hi,X,e2⟩:=hz o G;rw[X,e2];exact hm i hi w
 ·obtain⟨i,hi,e⟩:=Zq (d:=dN) (h.all _ (T w) d hd hv);have h1:i<E.length:=by omega
  refine⟨⟨E.getD i dN,rs.getD i dN⟩,?_,e⟩;rw[Ï];refine⟨i,by rw[List.length_zipWith];omega,?_⟩;simp[Ζ,Ι h1,Ι hi]
 rw[List.pairwise_iff_getElem];intro i j hi hj aj;rw[List.length_zipWith] at hi hj;simp only[List.getElem_zipWith];intro e;have:=(List.getElem_inj h.nodup).1 e;omega
end
theorem CollR.perm {nx:Nat->Nat->Nat} {ρ:Nat->Option Dfa} {os H:List Opt} (h:CollR nx ρ os) (G:os.Perm H):CollR nx ρ H where
 hc:=λo E=>h.hc o (G.mem_iff.2 E)
 head:=λo E=>h.head o (G.mem_iff.2 E)
 all:=λw d hd T=>by obtain⟨o,E,e⟩:=h.all w d hd T;exact⟨o,G.mem_iff.1 E,e⟩
 dis:=G.pairwise h.dis λh=>Ne.symm h
def IsW (W:Γ) (A:Array Δ) (L:List Cls) (N:List (List Nat)):Prop:=∃ vc E,A=#[vc,E]/\Cs W vc L/\Rows W E N
theorem IsW.ext {W W':Γ} {A:Array Δ} {L:List Cls} {N:List (List Nat)} (h:IsW W A L N) (E:Ext W W'):IsW W' A L N:=by obtain⟨vc,G,H,h1,T⟩:=h;exact⟨vc,G,H,h1.ext E,T.ext E⟩
theorem IsW.opened {W:Γ} {A:Array Δ} {L:List Cls} {t:Tbl} (h:IsW W A L t.n) (H:TVal t):∃ E G T,A.size=2/\A.all (·.oneCell')=Α/\A[1]? = J (U (J ⟨E,G,I⟩) t.n.length T)/\RowsAt W E G t.n.length t.cells t.ent2:=by obtain⟨vc,vn,rfl,X,hN⟩:=h;obtain⟨ac,cc,rfl⟩:=Sl.len X;obtain⟨E,G,T,rfl,hr⟩:=Lh hN t.cells H.pos H.cpos H.row;exact⟨E,G,T,rfl,by simp[ξ],rfl,hr⟩
theorem EC (L:List Cls) (t:Tbl) (X:TVal t) (hn:t.n.length<=65536) (A:Array Δ) (w:Γ) (h:IsW w A L t.n) :
  ϛ Η 79 #[.agg A] w λe w'=>∃ v l,e=Ψ v/\Reached t l/\Ints w' v l/\Ext w w':=by
 obtain⟨bn,on,cn,b6,b7,bc,hR⟩:=h.opened X;have b8:=X.pos;have dm:=X.cpos;have dn:=X.cle;have HR:=Z hR;have HV:=Z X;obtain⟨i0,hi,cb,cc,cd⟩:=ϓ Dw;obtain⟨j0,hj,cj,ck,cm⟩:=ϓ Fi;have au:=(Κ w).alloc (Β A 128);have H0:=Ad w (Β A 128);have HK:=Z (λ(W:Γ) (hW:Ext (w.alloc (Β A 128)) W)=>(Τ W w.heap.size 1 _ _ _ (hW.heap H0)).trans bc);clear hR X h H0 bc b7 b6;go_enter Tryz.func79,Tryz.ntmps79;go_upto_region 1 with (fail)
 generalize w.alloc (Β A 128)=w1 at *;have k1:=HK.o w1 (Κ w1);go_upto_region 2 with (at_make;refine Ϟ _ rfl _ _ 38 rfl w1.heap.size 4 j0 (.bool Ε) 1 ä hj cj ck Φ Φ _ _ t.n.length rfl rfl rfl rfl (by rw[cm];omega) (by unfold ϐ;omega) (Υ _) ?_;intro w2 bg bh)
 have ct:Ext w1 w2:=(Κ w1).grown bh (λk e=>by cases e);have af:w2.ownsRow w1.heap.size 4 1 (U (J ⟨w1.heap.size,0,I⟩) t.n.length t.n.length) t.n.length ((Ei t.n.length []).map ϊ):=by rw[Vq,<-B8];exact bg
 have cs:=Au Ε af (Hc _ _).symm 0 (by rw[Hc];exact b8);have fs:=af.frozenAt 0;obtain⟨bj,bk⟩:=Ba af 0 Α;rw[Na,List.nil_append] at bj;have bl:=ct.grown bk (λk e=>by cases e;exact Υ _);clear bg bh k1 af bk;go_upto_region 3 with (fail)
 clear cs fs;obtain⟨w3,bo⟩:=Xq (w2.setCell ⟨w1.heap.size,0,I⟩ (.bool Α));simp only[bo] at *;clear bo;have cv:=bl.alloc (Β #[.int Φ 0] 3);have cw:=bj.alloc (Β #[.int Φ 0] 3);have cy:=Á (base:=w1.heap.size) (e:=3) (size:=1) w3 #[.int Φ 0] 1 bl.size (by unfold ϐ;omega) rfl;generalize bp:w1.heap.size=G at *;have bq:=Z bp;clear bp;go_wp2_with (fail);go_loopw [4,5] (λv i W=>∃ (l:List Nat) (k g c:Nat),k<=l.length/\i=.int Φ k/\v=U (J ⟨g,0,I⟩) l.length c/\Ext w1 W/\OwnI W G v l/\W.ownsRow G 4 1 (U (J ⟨G,0,I⟩) t.n.length t.n.length) t.n.length ((Ei t.n.length l).map ϊ)/\ϟ (BInv t l k 0))
  (λ_ i _=>t.n.length-(intOf i).toNat)
 case atStart=>exact⟨[0],0,w3.heap.size,1,by omega,rfl,rfl,cv,cy,cw,Z (CO HV.o)⟩
 obtain⟨l,k,g,c,hk,rfl,rfl,hE,hI,hS,HI⟩:=hrel;have dq:=HI.o.le;by_cases ay:k<l.length
 ·have cl:=Aw (Au 0 hI rfl k ay);have az:=HI.o.lt _ (Dm l k 0 ay);obtain⟨s,a1⟩:=Xq (l.getD k 0);rw[a1] at cl az;have cz:=Z a1;clear a1;obtain⟨br,or',cr,bu,bw⟩:=HR.o s az;have c3:=Aw ((au.t hE).cell bu);have k1:=Aw (HK.o wr hE);have c4:=Z bw;clear bu bw;go_upto_region 7 with (fail)
  refine B2 (by kernel_rfl) (by kernel_rfl) ?_;iterate 10 (with_reducible refine Ϧ (λK hK=>?_);go_simp;(refine hK _ ?_;clear hK K))
  refine wpQuiet_nil ?_;rintro _ ⟨e,rfl⟩;clear cl c3 k1;have c5:=hE.t e.ext;have hI:=Aa hI e.ext;have hS:=Aa hS e.ext;generalize e.W=w5 at *;have c6:w1.heap.size<=G:=Ô bq.o;have du:G<=w1.heap.size:=Ô bq.o.symm;go_wp2_with (fail);go_loopw [4,30] (λv i W=>∃ (E:List Nat) (q g' c':Nat),q<=t.cells/\i=.int Φ q/\v=U (J ⟨g',0,I⟩) E.length c'/\Ext w1 W/\OwnI W G v E/\W.ownsRow G 4 1 (U (J ⟨G,0,I⟩) t.n.length t.n.length) t.n.length ((Ei t.n.length E).map ϊ)/\ϟ (BInv t E k q)/\ϟ (k<E.length/\E.getD k 0=s))
   (λ_ i _=>t.cells-(intOf i).toNat)
  case atStart=>exact⟨l,0,g,c,by omega,rfl,rfl,c5,hI,hS,HI,Z ⟨ay,cz.o⟩⟩
  obtain⟨E,q,g',c',hq,rfl,rfl,ad,ae,T,ak,H⟩:=hrel;have dw:=ak.o.le;by_cases a6:q<t.cells
  ·have cq:=(au.t ad).cell (c4.o q a6);have a7:=HV.o.tgt s az q a6;obtain⟨x,a8⟩:=Xq (t.ent2 s q);rw[a8] at cq a7;have ba:=Z a8;clear a8;have an:=Au Ε T (Hc _ _).symm x (by rw[Hc];exact a7);rw[Vr _ _ _ a7] at an;have c8:=T.frozenAt x;have dx:=ad.size;by_cases hx:x∈E
   ·rw[decide_eq_true hx] at an;have HN:=Z (CP ak.o (by rw[H.o.2,ba.o];exact hx));clear hx;go_wp2;go_roundw
    case rel=>exact⟨E,q+1,g',c',by omega,by go_num,rfl,ad,ae,T,HN,H⟩
    simp[intOf];omega
   rw[decide_eq_false hx] at an;have HN:=Z (CR HV.o ak.o H.o.1 a6 (by rw[H.o.2,ba.o];exact hx));rw[H.o.2,ba.o] at HN;clear hx;obtain⟨ao,b0⟩:=Ba T x Α;rw[Na] at ao;have aq:=ae.kept b0 (Aj ae T (by decide));have b4:=ad.grown b0 (λk e=>by cases e;exact c6);go_upto_region 12 with (fail)
   obtain⟨w6,b5⟩:=Xq (wr.setCell ⟨G,x,I⟩ (.bool Α));simp only[b5] at *;clear b5 an c8 T ae cq;have dz:=b4.size;go_wp2_with (at_builtin;refine Ϙ _ rfl _ _ 54 rfl G 3 i0 (.int Φ 0) 1 8 Ϥ hi cb cc cd rfl (by decide) _ _ _ rfl (aq.alloc _) _ 1 1 [iv x] rfl rfl (Ý _ _ _) (by simp[ξ]) (by decide) (by unfold ϐ;omega) (by omega) (by simp;omega) _ rfl ?_);intro g7 c7 w7 db bb _ _;have dc:=(ao.alloc (Β #[iv x] 3)).kept bb (Aj ao aq (by decide));have dd:=(b4.alloc (Β #[iv x] 3)).grown bb (λk e=>by have:=(aq.lt k e).1;omega);clear bb aq ao;go_wp2;go_roundw
   case rel=>refine⟨E++[x],q+1,g7,c7,by omega,by go_num,by rw[Ν];rfl,dd,?_,dc,HN,Z ⟨by rw[Ν];have:=H.o.1;omega,by rw[Ca _ _ _ _ H.o.1];exact H.o.2⟩⟩;show ϥ _ _ _ _ _ _ _;rw[Ν,ϩ];exact db
   case measure=>simp[intOf];omega
  obtain rfl:q=t.cells:=by omega
  have HN:=Z (CQ ak.o);go_wp2;go_roundw
  case rel=>exact⟨E,k+1,g',c',by have:=H.o.1;omega,by go_num,rfl,ad,ae,T,HN⟩
  simp[intOf];omega
 obtain rfl:k=l.length:=by omega
 have de:=Z (CS HI.o);go_wp2;go_ret;exact⟨_,l,rfl,de.o,hI.ints (by omega),au.t hE⟩
open Go.Maps (Keyed)
def Big (L:List UInt8->Prop):Prop:=∃ E:List (List UInt8),64<E.length/\E.Pairwise λu v=>∃ x,¬ (L (u++x)↔L (v++x))
def Dc (L:List UInt8->Prop):Option Dfa->Prop
 | some d=>Cano d/\(∀ w,d.has w=Α↔L w)/\d.n.length<=64
 | none=>Big L
theorem Tu {L:List UInt8->Prop} (h:Big L) {d:Dfa} (E:Val d) (hd:∀ w,d.has w=Α↔L w):64<d.n.length:=by obtain⟨G,h1,H⟩:=h;refine Ξ h1 (WP E G (H.imp λ{u v} ⟨x,hx⟩=>⟨x,λe=>hx ?_⟩));rw[<-hd,<-hd,e]
theorem PE {L:List UInt8->Prop} {r G:Option Dfa} (h:Dc L r) (E:Dc L G):r=G:=by
 cases r<;>cases G
 ·rfl
 ·have:=Tu h E.1.val E.2.1;have:=E.2.2;omega
 ·have:=Tu E h.1.val h.2.1;have:=h.2.2;omega
 rw[I4 h.1 E.1 h.2.1 E.2.1]
theorem XW {t:Tbl} (hv:TVal t) {R:List Nat} {B:Nat->Nat} {l:List Nat} (T:Reached t l) (hb:Blocks t l B R) (X:64<R.length):Big λw=>t.has w=Α:=by
 classical
 have E:∀ s:Nat,∃ w,s∈l->t.run 0 w=s:=λs=>by
  by_cases H:s∈l
  ·obtain⟨w,E⟩:=T.all s H;exact⟨w,λ_=>E⟩
  exact⟨[],λh=>absurd h H⟩
 refine⟨(π R.length).map λi=>(E (R.getD i 0)).choose,by simpa using X,?_⟩;rw[List.pairwise_map];refine List.Pairwise.imp_of_mem (λ{i j} hi G aa=>?_) (List.nodup_iff_pairwise_ne.1 List.nodup_range);have hi:=ϔ.1 hi;have G:=ϔ.1 G;refine Ë λhx=>aa ?_
 have hx:∀ x,(t.has ((E (R.getD i 0)).choose++x)=Α↔t.has ((E (R.getD j 0)).choose++x)=Α):=λx=>Ë λab=>hx ⟨x,ab⟩
 rw[<-hb.blk.rep i hi,<-hb.blk.rep j G];refine (hb.leq _ (hb.blk.mem i hi) _ (hb.blk.mem j G)).2 λx=>?_
 have:=hx x;rw[<-Ϸ] at this;unfold Tbl.has at this;rw[K0,K0,(E (R.getD i 0)).choose_spec (hb.blk.mem i hi),(E (R.getD j 0)).choose_spec (hb.blk.mem j G)] at this;exact this
section
variable {κ:Type} {W:World} {k:TypeId} {key:κ->Value} {b n:Nat} {f:κ->Option Nat}
variable {ops:Array Oper} {rest:List Oper} {o:Oper} {a:Act} {Q:Exit->Act->World->Prop}
end
def Az (L:List Cls) (N:List (List Nat)) (A:List Bool):Tbl:=⟨Am L,L.length,N,A⟩
structure WVal (L:List Cls) (N:List (List Nat)) (A:List Bool):Prop where
 pos:0<N.length
 accL:A.length=N.length
 row:∀ s,s<N.length->(N.getD s []).length=L.length
 tgt:∀ s,s<N.length->∀ k,k<L.length->(N.getD s []).getD k 0<N.length
 parts:Parts L
theorem WVal.tval {L:List Cls} {N:List (List Nat)} {A:List Bool} (h:WVal L N A):TVal (Az L N A) where
 pos:=h.pos
 accL:=h.accL
 row:=h.row
 tgt:=h.tgt
 cell_lt:=λb hb=>cell_lt h.parts hb
 onto:=λk E=>Mj h.parts E
structure QuotD (L:List Cls) (t:Tbl) (B:Nat->Nat) (R:List Nat) (d:Dfa):Prop where
 cls:d.cls=L
 len:d.n.length=R.length
 acl:d.acc.length=R.length
 row:∀ i,i<R.length->(d.n.getD i []).length=L.length
 tgt:∀ i,i<R.length->∀ k,k<L.length->d.ent2 i k=B (t.ent2 (R.getD i 0) k)
 acc:∀ i,i<R.length->d.ok i=t.ok (R.getD i 0)
theorem JV {L:List Cls} {N:List (List Nat)} {A:List Bool} (hw:WVal L N A) {l:List Nat} (G:Reached (Az L N A) l) {B:Nat->Nat} {R:List Nat} (hb:Blocks (Az L N A) l B R) (h0:B 0=0) {d:Dfa} (h:QuotD L (Az L N A) B R d) :
  Val d/\∀ w,d.has w=(Az L N A).has w:=by
 have T:=hw.tval;have hR:0<R.length:=by have:=hb.blk.lt 0 G.zero;omega
 have ae:Val d:=by
  refine⟨by rw[h.len];exact hR,by rw[h.acl,h.len],λs E=>?_,λs E k hk=>?_,by rw[h.cls];exact hw.parts⟩
  ·rw[h.len] at E;rw[h.row s E,h.cls]
  rw[h.len] at E ⊢;rw[h.cls] at hk;rw[h.tgt s E k hk];exact hb.blk.lt _ (G.closed _ (hb.blk.mem s E) k hk)
 have af:∀ s∈l,d.ok (B s)=(Az L N A).ok s:=λs E=>by have H:=hb.blk.lt s E;rw[h.acc _ H];have:=(hb.leq _ (hb.blk.mem _ H) s E).1 (hb.blk.rep _ H) [];exact this
 have ag:∀ s∈l,∀ b,b<256->d.stp (B s) b=B ((Az L N A).stp s b):=λs E b X=>by have H:=hb.blk.lt s E;have hc:=cell_lt hw.parts X;unfold Dfa.stp;rw[h.cls,h.tgt _ H _ hc];have hm:=hb.blk.mem _ H;have ah:=((hb.leq _ hm s E).1 (hb.blk.rep _ H)).step b X;exact (hb.leq _ (G.stp T hm X) _ (G.stp T E X)).2 ah
 have ai:∀ (w:List UInt8) s,s∈l->d.run (B s) w=B ((Az L N A).run s w):=λw=>by
  induction w with
  | nil=>intro s _;rfl
  | cons x w ih=>intro s E;show d.run (d.stp (B s) x.toNat) w=B ((Az L N A).run ((Az L N A).stp s x.toNat) w);rw[ag s E _ x.toNat_lt];exact ih _ (G.stp T E x.toNat_lt)
 refine⟨ae,λw=>?_⟩;have h1:=ai w 0 G.zero;rw[h0] at h1;show d.ok (d.run 0 w)=_;rw[h1];exact af _ (G.run T w G.zero)
theorem XV {L:List Cls} {N:List (List Nat)} {A:List Bool} (E:WVal L N A) {l:List Nat} (G:Reached (Az L N A) l) {B:Nat->Nat} {R:List Nat} (hb:Blocks (Az L N A) l B R) (H:64<R.length):Dc (λw=>(Az L N A).has w=Α) I:=XW E.tval G hb H
end Go.Proofs.YtilncahcpjlfnaaGreatDoor
