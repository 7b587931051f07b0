import Derived.RangeFuncNested
import Derived.RangeFuncBound
import Derived.RangeFuncCalls
import Derived.RangeFuncLeaves
import Derived.RangeFuncBox
import Derived.OwnWalkIn
import Derived.TacticsInMore
import Derived.LoopNIn
import Derived.LoopIn
import Derived.Test.YtilncahcpjlfnaaGreatDoorM01
import Derived.Maps.AppendAt
import Derived.Shelf.SlLaysF0
import Derived.Ground.SlsfProg
import Derived.Shelf.SlGeneric
import Derived.Test.YtilncahcpjlfnaaGreatDoorProg
import Derived.Sort.Grow
import Derived.Deep.Draws
import Derived.Shelf.SlSortCmp.WholeK
import Derived.Laws.IdiomStrings
import Derived.Deep.AppendLies
import Derived.Deep.MidRow
import Derived.Deep.RegionHeldLaw
import Derived.Maps.OwnSet
import Derived.WideKeyPair
import Derived.DeepKeys4
set_option linter.unusedVariables false
set_option linter.unusedSimpArgs false
set_option maxRecDepth 100000
set_option maxHeartbeats 2000000
open Array renaming getElem?_eq_some_iff → ϝ
open BitVec renaming getLsbD_zero → û
open Bool renaming true → Α, false → Ε, false_eq_true → Ó
open Go renaming Program → Þ, Value → Δ, World → Γ, Operand → Ñ, cell_of_row → Τ, bodyPost_ret → ω, TypeId → ϡ, heap_alloc_new → É, heap_alloc2_new → ϒ, undef → Ω, frozen_of_row → È, setCell_eq_setRow → Ϭ, setRow_heap → Χ, Calls → ϛ, info_parts → ϓ, cell_one_new → Ý, maxLen → ϐ, wpQuiet_step → Ϧ, wpList_store_row → ë
open Go.Ending renaming returned → Ψ
open Go.IntKind renaming u64 → ϯ, i64 → Φ, u64 → ζ, i64 → Ü
open Go.Lib renaming hid → Z
open Go.Obj renaming cells → Β
open Go.Operand renaming tmp → δ
open Go.Proofs.Tryz renaming prog → Η, underlying22 → ύ, underlying5 → ϫ, zeroCells84 → γ, underlying91 → ϋ, underlying84 → ϸ, zeroCells82 → Ϣ
open Go.RowKit renaming Hid → ϟ
open Go.Value renaming pointer → ε, int → Â, slice → U, oneCell' → ξ, tuple → ϗ, slice → Ϗ
open Go.World renaming size_alloc → Ρ, ownsRow_nil → À, ownsRow → ϥ
open List renaming length_cons → ϑ, length_nil → ç, nil_append → ã, length_append → Ν, getElem?_append_left → χ, getElem?_append_right → ς, getD_eq_getElem?_getD → Ζ, pairwise_iff_getElem → Ϫ, length_take → Ö, append_nil → õ, ext_getElem? → Ϯ, getElem?_set → Ú, length_set → υ, range → π, mem_range → ϔ, mem_append → Ê, mem_map → ϴ, not_mem_nil → ô, replicate → θ, take_succ_eq_append_getElem → Õ, getElem?_eq_getElem → Ι, mem_singleton → ϙ, getElem_mem → ϣ, getElem?_map → ν
open Nat renaming le_refl → Υ, le_trans → μ, lt_of_lt_of_le → Ξ, zero_add → ϖ
open Option renaming some → J, none → I, isSome → ñ
open UInt8 renaming ofNat → ώ
namespace Go.Proofs.YtilncahcpjlfnaaGreatDoor
open Go Go.RowKit
def Pa {α:Type} (F:Fence) (n:Nat) (P:Þ) (g:Nat) (T:Array Δ) (X:α->Array Δ) (Nx:List α->α->Prop) (S Sp:List α->Prop) (w:Γ):Prop:=
 ∀ (l:Nat) (E G:List α->Γ->Prop) (W:Γ),(∀ pre W',E pre W'->Below w.heap.size w W')->(∀ pre x H,E pre H->Nx pre x->YieldAt F (n-1) P l (X x) H λe W'=>(e=Ψ (.bool Α)/\E (pre++[x]) W')\/(e=Ψ (.bool Ε)/\G (pre++[x]) W'))->E [] W->CallsIn F n P g (#[.func (.yield l) #[] #[]]++T) W λe W'=>(∃ v,e=Ψ v)/\((∃ xs,S xs/\E xs W')\/(∃ pre,Sp pre/\G pre W'))
def LG {α:Type} (G:List α->Γ->Prop) (E:Code->List α->Γ->Prop) (xs:List α) (W:Γ):Exit->Act->Γ->Prop
 | .normal,_,W'=>KeepsOthers W W'/\G xs W'
 | .ret,_,W'=>KeepsOthers W W'/\E .ret xs W'
 | .exit id,_,W'=>KeepsOthers W W'/\E (.exit id) xs W'
 | .goto t,_,W'=>KeepsOthers W W'/\E (.goto t) xs W'
 | .panic _,_,_=>False
 | .outgrown,_,_=>False
def DP {β:Type} (B:Nat) (E:β->Γ->Prop):Prop:=∀ s W l (o G:Obj),E s W->B<=l->W.heap[l]? = J o->o.isCells=Ε->E s (W.putObj l G)
def ZE {β:Type} (E:β->Γ->Prop):Prop:=∀ s W (o:Obj),E s W->E s (W.alloc o)
variable {F:Fence} {n:Nat} {P:Program}
theorem Uf {α:Type} {g:Ñ} {ps:Array Tmp} {assign body:Code} {Q:Exit->Act->Γ->Prop} {a:Act} {w:Γ}
  (a6:F.round=I) (h1:1<=n) {gf:Nat} {lb:Array Δ} (hg:a.eval g=.func (.func gf) #[] lb) (a7:F.fn gf) (eg:∀ args w,(callFunc gf args).run P w=.ok (.enter gf args) w)
  {ak:α->Array Δ} {Nx:List α->α->Prop} {S Sp:List α->Prop} {w0:Γ} (ba:Pa F (n-1) P gf lb ak Nx S Sp w0) (bb:∀ x,(ak x).size=ps.size)
  (ab:List α->Γ->Prop) (Ix:Code->List α->Γ->Prop) (hI:DP w.heap.size ab) (ax:ZE ab) (ao:∀ c,DP w.heap.size (Ix c)) (hb:∀ pre W,ab pre W->Below w0.heap.size w0 W) (h0:ab [] w) (a₁:α->Act)
  (bc:∀ (l:Nat) (x:α) (W:Γ) (K:Act->Γ->Prop),K (a₁ x) W->assign.wpIn (F.inRound l) (n-1-1) P (Exit.then K (λ_ _ _=>False)) { tmps:=(ps.zip (ak x)).foldl (λt (p,v)=>t.setIfInBounds p v) a.tmps,defers:=[] } W)
  (bd:∀ (l:Nat) (pre:List α) (x:α) (W:Γ),ab pre W->Nx pre x->body.wpIn (F.inRound l) (n-1-1) P (LG ab Ix (pre++[x]) W) (a₁ x) W)
  (be:∀ (D:Nat) (xs:List α) (W:Γ),w.heap.size<=D->S xs->ab xs W->W.heap[D]? = J (.deferred (J []))->Q .normal { a with defers:={ target:=.collected D,args:=#[] }::a.defers } W)
  (bf:∀ (D:Nat) (c:Code) (pre:List α) (W:Γ),w.heap.size<=D->Sp pre->Ix c pre W->W.heap[D]? = J (.deferred (J []))->c.wpIn F n P Q { a with defers:={ target:=.collected D,args:=#[] }::a.defers } W) :
  (Code.rangeFunc g ps assign body).wpIn F n P Q a w:=by
 refine wpIn_rangeFunc ?_;intro fn bg;rw[a6];obtain⟨rec,T⟩:∃ rec:LoopState->Option Code->Loop,rec=λst pe=>{ state:=st,pending:=pe,fn,tmps:=a.tmps,params:=ps,assign,body,defers:=w.heap.size }:=⟨_,rfl⟩
 obtain⟨W1,aq⟩:=Xq ((w.alloc (.deferred (J []))).alloc (.loop (rec .ready I)));have bj:W1.heap[w.heap.size+1]? = J (.loop (rec .ready I)):=by rw[<-aq];have:=Γ.alloc_heap_new (w.alloc (.deferred (J []))) (.loop (rec .ready I));rwa [Ρ] at this
 have bk:W1.heap[w.heap.size]? = J (.deferred (J [])):=by rw[<-aq];exact (Below.heap_alloc _ _ _ (by simp)).trans (Γ.alloc_heap_new w _)
 have bl:ab [] W1:=by rw[<-aq];exact ax _ _ _ (ax _ _ _ h0)
 refine⟨w.heap.size+1,[{ target:=.collected w.heap.size,args:=#[] }],W1,{ target:=.fn (.func gf) lb,args:=#[.func (.yield (w.heap.size+1)) #[] #[]] },W1,gf,#[.func (.yield (w.heap.size+1)) #[] #[]]++lb,W1,?_,?_,?_,?_,λ_=>h1,?_⟩
 ·rw[<-aq,T];exact run_enterLoop_outer _ _ _ _ _
 ·simp only[resolve,hg];simp[go_sem]
 ·intro f' az;simp[Target.leads] at az;subst az;exact a7
 ·simp[invoke,go_sem,eg]
 refine (ba (w.heap.size+1)
  (λpre W=>ab pre W/\W.heap[w.heap.size+1]? = J (.loop (rec .ready I))/\W.heap[w.heap.size]? = J (.deferred (J [])))
  (λpre W=>∃ c,Ix c pre W/\W.heap[w.heap.size+1]? = J (.loop (rec .done (J c)))/\W.heap[w.heap.size]? = J (.deferred (J [])))
  W1 (λpre W h=>hb _ _ h.1) ?_ ⟨bl,bj,bk⟩).mono ?_
 ·rintro pre x W ⟨hi,X,hk⟩ bm;have bn:w.heap.size+1<W.heap.size:=(ϝ.1 X).1;have hy:=run_yield (P:=P) (args:=ak x) X (by rw[T];exact bb x);rw[T] at hy;refine⟨fn,_,assign,body,hy,roundIn_of_wpIn bg (bc _ x W _ ⟨_,run_beginRound X (by rw[T]),?_⟩)⟩;have bo:(W.putObj (w.heap.size+1) (.loop { rec .ready I with state:=.busy })).heap[w.heap.size+1]? = J (.loop { rec .ready I with state:=.busy }):=Γ.putObj_heap_same bn;have bp:(W.putObj (w.heap.size+1) (.loop { rec .ready I with state:=.busy })).heap[w.heap.size]? = J (.deferred (J [])):=(Γ.putObj_heap_other (by omega)).trans hk;refine wpIn_mono (bd _ pre x _ (hI _ _ _ _ _ hi (by omega) X rfl) bm) ?_;have ar:∀ (E:Option Code) (G:Γ),KeepsOthers (W.putObj (w.heap.size+1) (.loop { rec .ready I with state:=.busy })) G->(Instr.endRound (w.heap.size+1) E).run P G=.ok (.bool E.isNone) (G.putObj (w.heap.size+1) (.loop (rec (if E.isNone then .ready else .done) E)))/\G.heap[w.heap.size+1]? = J (.loop { rec .ready I with state:=.busy })/\(G.putObj (w.heap.size+1) (.loop (rec (if E.isNone then .ready else .done) E))).heap[w.heap.size+1]? = J (.loop (rec (if E.isNone then .ready else .done) E))/\
    (G.putObj (w.heap.size+1) (.loop (rec (if E.isNone then .ready else .done) E))).heap[w.heap.size]? = J (.deferred (J [])):=λE G aa=>by
   have H:=aa.same _ _ bo rfl;have:=run_endRound (P:=P) E H;rw[T] at this ⊢;exact⟨this,by rw[T] at H;exact H,Γ.putObj_heap_same (ϝ.1 H).1,(Γ.putObj_heap_other (by omega)).trans (aa.same _ _ bp rfl)⟩
  rintro e a3 G hp;cases e with
  | normal=>obtain⟨aa,ae⟩:=hp;obtain⟨hr,H,ag,ah⟩:=ar I G aa;exact⟨_,_,hr,.inl ⟨rfl,hI _ _ _ _ _ ae (by omega) H rfl,ag,ah⟩⟩
  | ret=>obtain⟨aa,ae⟩:=hp;obtain⟨hr,H,ag,ah⟩:=ar (J .ret) G aa;exact⟨_,_,hr,.inr ⟨rfl,.ret,ao _ _ _ _ _ _ ae (by omega) H rfl,ag,ah⟩⟩
  | exit id=>obtain⟨aa,ae⟩:=hp;obtain⟨hr,H,ag,ah⟩:=ar (J (.exit id)) G aa;exact⟨_,_,hr,.inr ⟨rfl,.exit id,ao _ _ _ _ _ _ ae (by omega) H rfl,ag,ah⟩⟩
  | goto t=>obtain⟨aa,ae⟩:=hp;obtain⟨hr,H,ag,ah⟩:=ar (J (.goto t)) G aa;exact⟨_,_,hr,.inr ⟨rfl,.goto t,ao _ _ _ _ _ _ ae (by omega) H rfl,ag,ah⟩⟩
  | panic ch=>exact hp.elim
  | outgrown=>exact hp.elim
 rintro e W2 ⟨⟨v,rfl⟩,(⟨xs,hS,hi,X,hk⟩|⟨pre,br,c,hi,X,hk⟩)⟩
 ·exact⟨I,_,by have:=run_endLoop (P:=P) X (by rw[T];simp);rw[T] at this;exact this,be _ xs _ (Υ _) hS (hI _ _ _ _ _ hi (by omega) X rfl) ((Γ.putObj_heap_other (by omega)).trans hk)⟩
 exact⟨J c,_,by have:=run_endLoop (P:=P) X (by rw[T];simp);rw[T] at this;exact this,bf _ c pre _ (Υ _) br (ao c _ _ _ _ _ hi (by omega) X rfl) ((Γ.putObj_heap_other (by omega)).trans hk)⟩
theorem Ext.putObj {a b:Γ} (h:Ext a b) {l:Nat} (E:a.heap.size<=l) (o:Obj):Ext a (b.putObj l o):=
 h.grown (grownBy_putObj' b l o) (λk e=>by cases e;exact E)
open Go.RowKit Go.Shelf
attribute [local go_sem] Oper.semAt_some
def Tab (w:Γ):Prop:=∀ j,j<64->w.cell? ⟨0,j,I⟩=J (.int .u8 (Lib.deBruijn64tab.getD j 0:Nat))
theorem Tab.below {w W:Γ} {B:Nat} (h:Tab w) (hb:Below B w W) (E:0<B):Tab W:=λj G=>(hb.cell (p:=⟨0,j,I⟩) E).trans (h j G)
theorem FJ (x a:Nat) (hx:x<18446744073709551616) (H:x≠0) (E:x &&& (18446744073709551616-x)=a) :
  ϯ.wrap (bits BinOp.and ϯ (x:Int) (ϯ.wrap (-(x:Int)))*285870213051353865) / 288230376151711744=((a*285870213051353865 % 18446744073709551616 / 288230376151711744:Nat):Int):=by
 have G:ϯ.wrap (-(x:Int))=((18446744073709551616-x:Nat):Int):=by rw[IntKind.wrap_u64];omega
 rw[G,u64_and_nat x _ hx (by omega),E,IntKind.wrap_u64];omega
theorem FK (F:Fence) (n:Nat) (G:F.fn 109) (H:F.round=I) (x k E:Nat) (w:Γ) (T:((x:Int)==0)=Ε)
  (key:ϯ.wrap (bits BinOp.and ϯ (x:Int) (ϯ.wrap (-(x:Int)))*285870213051353865) / 288230376151711744=(E:Int))
  (hi:E<64) (X:k<64) (aa:w.cell? ⟨0,E,I⟩=J (.int .u8 (k:Nat))) :
  CallsIn F n Η 109 #[.int ζ (x:Int)] w λe w'=>e=Ψ (.int Φ (k:Nat))/\w'=w:=by
 refine callsIn_of_wp Tryz.func109 rfl G ?_ H;simp only[Tryz.ntmps109,List.size_toArray,ϑ,ç,Nat.reduceAdd,Nat.reduceSub,Array.replicate_succ,Array.replicate_zero,List.push_toArray,List.append_toArray,ã,List.cons_append]
 gi_wp2_with (simp only[key])
 go_ret;exact⟨rfl,rfl⟩
theorem FL (F:Fence) (n:Nat) (T:F.fn 109) (X:F.round=I) (x:Nat) (hx:x<18446744073709551616) (E:x≠0) (w:Γ) (hT:Tab w) :
  CallsIn F n Η 109 #[.int ζ (x:Int)] w λe w'=>e=Ψ (.int Φ (Lib.ctz 64 x:Nat))/\w'=w:=by
 obtain⟨ab,G⟩:=Lib.lowest_bit 64 x E hx;obtain⟨hi,ad⟩:=Lib.deBruijn64_at _ G;have H:=hT _ hi;rw[ad] at H;exact FK F n T X x _ _ w (by simp;omega) (FJ x _ hx E ab) hi G H
theorem DA (y:Nat) (h0:y≠0) (h:y<18446744073709551616):bits BinOp.and ϯ (y:Int) ((y:Int)-1)=((y &&& (y-1):Nat):Int):=by rw[show ((y:Int)-1)=((y-1:Nat):Int) by omega,u64_and_nat _ _ h (by omega)]
theorem FI (k:Nat) (h:k<256):((ώ k).toNat:Int)=(k:Int):=by
 simp
 omega
set_option maxRecDepth 100000 in
theorem NS (F:Fence) (n:Nat) (ar:F.fn 108) (au:F.fn 109) (ae:F.round=I) (hn:1<=n) (l Bc:Nat) (c:Cls) (E Jx:List UInt8->Γ->Prop)
  (hT:∀ pre W,E pre W->Tab W)
  (hY:∀ pre x W,E pre W->(pre++[x]) <+: Ax c 256->YieldAt F (n-1) Η l #[bv x] W λe W'=>(e=Ψ (.bool Α)/\E (pre++[x]) W')\/(e=Ψ (.bool Ε)/\Jx (pre++[x]) W'))
  (W:Γ) (hc:W.heap[Bc]? = J (Β (Ab c) 91 (0,0))) (h0:E [] W) :
  CallsIn F n Η 108 #[.func (.yield l) #[] #[],ε (J ⟨Bc,0,I⟩)] W λe W'=>(∃ v,e=Ψ v)/\((∃ xs,xs=Ax c 256/\E xs W')\/(∃ pre,pre <+: Ax c 256/\Jx pre W')):=by
 have c0:=(Τ W _ 0 _ _ _ hc).trans rfl;have c1:=(Τ W _ 1 _ _ _ hc).trans rfl;have c2:=(Τ W _ 2 _ _ _ hc).trans rfl;have c3:=(Τ W _ 3 _ _ _ hc).trans rfl;clear hc;refine callsIn_of_wp Tryz.func108 rfl ar ?_ ae;simp only[Tryz.ntmps108,List.size_toArray,ϑ,ç,Nat.reduceAdd,Nat.reduceSub,Array.replicate_succ,Array.replicate_zero,List.push_toArray,List.append_toArray,ã,List.cons_append]
 gi_wp2
 clear c0 c1 c2 c3
 gi_loopw [6] (λX wr=>∃ k:Nat,k<=4/\X=.int Φ k/\E (Ax c (64*k)) wr) (λX _=>4-(intOf X).toNat)
 case atStart=>exact⟨0,by omega,rfl,h0⟩
 obtain⟨k,hk,rfl,hJ⟩:=hrel;by_cases az:k<4
 ·have a1:=Zg c k az;have a6:decide ((k:Int)<4)=Α:=by simp;omega
  gi_wp2
  obtain⟨wo,rfl⟩:∃ wo:Γ,wo=wr:=⟨_,rfl⟩;clear a1 a6
  gi_loopw [4] (λv4 wr=>∃ p:Nat,p<=64/\v4=.int ζ (hiB (wn c k) p:Nat)/\E (Ax c (64*k+p)) wr) (λv4 _=>(intOf v4).toNat)
  case atStart=>exact⟨0,by omega,by rw[RZ];rfl,hJ⟩
  obtain⟨p,hp,rfl,H⟩:=hrel;have T:hiB (wn c k) p<18446744073709551616:=Nat.lt_of_le_of_lt (Zk _ _) (D4 c k);by_cases G:hiB (wn c k) p=0
  ·have aj:=NU c k p hp G;rw[G];rw[<-aj] at H;clear aj G T
   gi_wp2
   go_roundw
   case rel=>exact⟨k+1,by omega,by go_num,H⟩
   simp[intOf];omega
  obtain⟨ht,ab,ad⟩:=NT c k p G;have ak:=FL F (n-1) au ae (hiB (wn c k) p) T G wr (hT _ _ H);have an:Ax c (64*k+p)++[ώ (64*k+Lib.ctz 64 (hiB (wn c k) p))] <+: Ax c 256:=by rw[<-ad];exact BZ c _ _ (by omega)
  obtain⟨fn,bf,bg,bh,hy,hR⟩:=hY _ _ wr H an;rw[<-ad] at hR;have HAnd:=Z ab;have bj:hiB (wn c k) (Lib.ctz 64 (hiB (wn c k) p)+1)<hiB (wn c k) p:=by rw[<-ab];have:=Nat.and_le_right (n:=hiB (wn c k) p) (m:=hiB (wn c k) p-1);omega
  clear ab ad an;generalize hiB (wn c k) p=y at *;generalize Lib.ctz 64 y=t at *;have hb:bv (ώ (64*k+t))=.int .u8 (64*(k:Int)+(t:Int)):=by
   show Â .u8 ((ώ (64*k+t)).toNat:Int)=_;rw[FI _ (by omega)]
   congr 1
  have hw:IntKind.u8.wrap (64*(k:Int)+(t:Int))=64*(k:Int)+(t:Int):=IntWalk.u8_in _ ⟨by omega,by omega⟩;rw[hb] at hy;have bl:((y:Int) != 0)=Α:=by simp;omega
  have bm:1<=y:=by omega
  have HT:=Z ak;clear ak hb G
  gi_wp2_with (gi_at_call 109;refine HT.o.mono ?_;clear HT;rintro e w' ⟨rfl,rfl⟩)
  refine hR.mono ?_;rintro e W3 (⟨rfl,ba⟩|⟨rfl,bb⟩)
  ·gi_wp2
   go_roundw
   case rel=>exact⟨t+1,by omega,by rw[DA y (by omega) T,HAnd.o],ba⟩
   rw[DA y (by omega) T,HAnd.o];simp[intOf];omega
  gi_wp2
  refine ω (results_none rfl _ _ _) rfl ?_;exact⟨⟨_,rfl⟩,.inr ⟨_,BZ c _ _ (by omega),bb⟩⟩
 obtain rfl:k=4:=by omega
 gi_wp2
 go_end0
 exact⟨⟨_,rfl⟩,.inl ⟨_,rfl,hJ⟩⟩
attribute [local go_sem] Oper.semAt_some
theorem Xy (F:Fence) (n:Nat) (G:F.fn 108) (H:F.fn 109) (T:F.round=I) (X:1<=n) (E:Nat) (c:Cls) (w:Γ) (hT:Tab w) (hc:w.heap[E]? = J (Β (Ab c) 91 (0,0))) :
  Pa F n Η 108 #[ε (J ⟨E,0,I⟩)] (λx=>#[bv x]) (λpre x=>(pre++[x]) <+: Ax c 256) (·=Ax c 256) (· <+: Ax c 256) w:=by
 intro l ab Jx W hb hY h0;have af:=Al hc;exact NS F n G H T X l E c ab Jx (λpre W' h=>hT.below (hb _ _ h) (by omega)) hY W (((hb _ _ h0).block E af).trans hc) h0
theorem Xz (F:Fence) (n:Nat) (E:F.fn 90) (G:F.round=I) (c:Cls) (w:Γ) :
  CallsIn F n Η 90 #[.agg (Ab c)] w λe w'=>e=Ψ (.func (.func 108) #[] #[ε (J ⟨w.heap.size,0,I⟩)])/\w'=w.alloc (Β (Ab c) 91):=by
 refine callsIn_of_wp Tryz.func90 rfl E ?_ G;simp only[Tryz.ntmps90,List.size_toArray,ϑ,ç,Nat.reduceAdd,Nat.reduceSub,Array.replicate_succ,Array.replicate_zero,List.push_toArray,List.append_toArray,ã,List.cons_append]
 gi_wp2
 go_ret;exact⟨rfl,rfl⟩
theorem Nn {W:Γ} {k l:Nat} {o o':Obj} {cs:Array Δ} {t:ϡ} {fr:Nat × Nat} (h:W.heap[k]? = J (Β cs t fr)) (E:W.heap[l]? = J o) (G:o.isCells=Ε):(W.putObj l o').heap[k]? = J (Β cs t fr):=by
 have H:k≠l:=by rintro rfl;rw[h] at E;cases E;cases G
 exact (Γ.putObj_heap_other H).trans h
theorem PL (F:Fence) (n:Nat) (ax:F.fn 98) (ay:F.fn 90) (ai:F.fn 108) (az:F.fn 109) (aa:F.round=I) (hn:3<=n) (c:Cls) (w:Γ) (hT:Tab w) (a6:0<w.heap.size) :
  CallsIn F n Η 98 #[.agg (Ab c)] w λe w'=>e=Ψ (.int Φ (Bx (Ax c 256)))/\Ext w w'/\w.drawn<=w'.drawn:=by
 have h1:1<=n:=by omega
 have h2:1<=n-1:=by omega
 have hA:=Ah (É w (Β (Ab c) 91)) (Β #[.int Φ 0] 3);have hR:=ϒ w (Β (Ab c) 91) (Β #[.int Φ 0] 3);have G:=((Κ w).alloc (Β (Ab c) 91)).alloc (Β #[.int Φ 0] 3);have H:w.drawn<=((w.alloc (Β (Ab c) 91)).alloc (Β #[.int Φ 0] 3)).drawn:=Υ _;have hs:((w.alloc (Β (Ab c) 91)).alloc (Β #[.int Φ 0] 3)).heap.size=w.heap.size+1+1:=by simp
 refine callsIn_of_wp_marks Tryz.func98 rfl ax ?_ aa;simp only[Tryz.ntmps98,List.size_toArray,ϑ,ç,Nat.reduceAdd,Nat.reduceSub,Array.replicate_succ,Array.replicate_zero,List.push_toArray,List.append_toArray,ã,List.cons_append]
 gi_wp2_with (gi_at_call 90;refine (Xz F (n-1) ay aa c _).mono ?_;rintro e w' ⟨rfl,rfl⟩)
 have ak:=Ah hR (Β (Ab c) 91);have an:=É ((w.alloc (Β (Ab c) 91)).alloc (Β #[.int Φ 0] 3)) (Β (Ab c) 91);rw[hs] at an;have ae:=G.alloc (Β (Ab c) 91);have ao:w.drawn<=(((w.alloc (Β (Ab c) 91)).alloc (Β #[.int Φ 0] 3)).alloc (Β (Ab c) 91)).drawn:=Υ _;have bj:w.heap.size+2<(((w.alloc (Β (Ab c) 91)).alloc (Β #[.int Φ 0] 3)).alloc (Β (Ab c) 91)).heap.size:=by simp
 clear hA hR G H hs;generalize ((w.alloc (Β (Ab c) 91)).alloc (Β #[.int Φ 0] 3)).alloc (Β (Ab c) 91)=w3 at *;have ba:=hT.below ae.below a6;have aq:=Z ak;clear ak;refine Uf aa h1 (gf:=108) (lb:=#[ε (J ⟨w.heap.size+1+1,0,I⟩)]) rfl ai (enters_of Tryz.func108 (by kernel_rfl) rfl)
  (Xy F (n-1) ai az aa h2 (w.heap.size+1+1) c w3 ba an) (λ_=>rfl)
  (λpre W=>pre=[]/\Ext w3 W/\w3.drawn<=W.drawn)
  (λk pre W=>k=.ret/\∃ x,pre=[x]/\Ext w W/\w.drawn<=W.drawn/\W.heap[w.heap.size+1]? = J (Β #[.int Φ (x.toNat:Int)] 3 (0,0)))
  (λs W l o X h hl ho hc=>⟨h.1,h.2.1.putObj hl X,h.2.2⟩)
  (λs W o h=>⟨h.1,h.2.1.alloc o,h.2.2⟩)
  (λk s W l o X h hl ho hc=>by obtain⟨hk,x,hs,G,H,E⟩:=h;exact⟨hk,x,hs,G.putObj (by omega) X,H,Nn E ho hc⟩)
  (λpre W h=>h.2.1.below) ⟨rfl,Κ _,Υ _⟩
  (λx=>{ tmps:=#[.agg (Ab c),ε (J ⟨w.heap.size,0,I⟩),ε (J ⟨w.heap.size+1,0,I⟩),bv x,.agg (Ab c),.func (.func 108) #[] #[ε (J ⟨w.heap.size+1+1,0,I⟩)],bv x,Ω,Ω],defers:=[] }) ?assign ?body ?done ?stop
 case assign=>
  intro l x W K hK
  gi_wp2
  exact hK
 case body=>
  rintro l pre x W ⟨rfl,G,H⟩ _;have E:=G.heap aq.o;have bc:=(Τ W _ 0 _ _ _ E).trans rfl;have bd:=È W _ 0 _ _ E;have T:=Z E;have hx:=x.toNat_lt;clear E
  gi_wp2
  refine⟨KeepsOthers.setCell _ _ _,rfl,x,rfl,(ae.t G).setCell (by simp) _,μ ao H,?_⟩;rw[Ϭ W _ _ _ _ _ _ T.o,show (#[Â Φ 0]:Array Δ).setIfInBounds 0 (.int Φ (x.toNat:Int))=#[.int Φ (x.toNat:Int)] from rfl];exact Χ W _ _ _ _ _ T.o
 case done=>
  rintro D ys W be rfl ⟨he,G,H⟩ hK;have E:=G.heap aq.o;have bc:=(Τ W _ 0 _ _ _ E).trans rfl;have bd:=È W _ 0 _ _ E;have T:=Z E;have HB:=Z he;have HK:=Z hK;clear E he hK
  gi_wp2
  have aw:=(KeepsOthers.setCell W ⟨w.heap.size+1,0,I⟩ (.int Φ (-1))).same D _ HK.o rfl;refine⟨by simp,.inl ⟨_,_,rfl,run_takeDeferred aw,?_⟩⟩;have h5:=Nn (o':=.deferred I) (by rw[Ϭ W _ _ _ _ _ _ T.o];exact Χ W _ _ _ _ _ T.o) aw rfl;have ah:=(Τ _ _ 0 _ _ _ h5).trans rfl;refine⟨.int Φ (-1),?_,by rw[HB.o];rfl,((ae.t G).setCell (by simp) _).putObj (by omega) _,μ ao H⟩;simp[results,Tryz.f98,go_sem,ah]
 case stop=>
  rintro D k pre W be bg ⟨rfl,x,rfl,G,H,E⟩ hK;have T:=Z E;have HK:=Z hK;clear E hK
  gi_wp2
  refine⟨by simp,.inl ⟨_,_,rfl,run_takeDeferred HK.o,?_⟩⟩;have h5:=Nn (o':=.deferred I) T.o HK.o rfl;have ah:=(Τ _ _ 0 _ _ _ h5).trans rfl;refine⟨.int Φ (x.toNat:Int),?_,?_,G.putObj (by omega) _,H⟩
  ·simp[results,Tryz.f98,go_sem,ah]
  obtain⟨r,E⟩:=bg;rw[<-E];rfl
theorem Re (c:Cls) (w:Γ) (E:Tab w) (G:0<w.heap.size):ϛ Η 98 #[.agg (Ab c)] w λe w'=>e=Ψ (.int Φ (Bx (Ax c 256)))/\Ext w w'/\w.drawn<=w'.drawn:=
 callsIn_wide.1 (PL Fence.wide 3 trivial trivial trivial trivial rfl (Υ _) c w E G)
attribute [local go_sem] Oper.semAt_some
set_option maxRecDepth 100000 in
theorem YN (F:Fence) (n:Nat) (ah:F.fn 107) (ad:F.round=I) (hn:2<=n) (g:Nat) (H:Array Δ) (ai:F.fn g) (eg:∀ args w,(callFunc g args).run Η w=.ok (.enter g args) w)
  (Nx:List UInt8->UInt8->Prop) (S Sp:List UInt8->Prop) (hN:∀ pre x,Nx pre x->pre.length<256) (w:Γ) (ao:Pa F (n-1) Η g H (λx=>#[bv x]) Nx S Sp w) :
  CallsIn F n Η 107 #[U I 0 0,.func (.func g) #[] H] w λe w'=>∃ v xs,e=Ψ v/\S xs/\w'.ownsRow w.heap.size 5 1 v xs.length (xs.map bv)/\Ext w w':=by
 have h1:1<=n:=by omega
 obtain⟨i0,hi,ar,au,aw⟩:=ϓ L7;have ax:Boxed (w.alloc (Β #[U I 0 0] 22)) w.heap.size 22 (U I 0 0):=Boxed.new w 22 _;have ay:=(Κ w).alloc (Β #[U I 0 0] 22);have bd:w.heap.size<(w.alloc (Β #[U I 0 0] 22)).heap.size:=by simp
 refine callsIn_of_wp_marks Tryz.func107 rfl ah ?_ ad;simp only[Tryz.ntmps107,List.size_toArray,ϑ,ç,Nat.reduceAdd,Nat.reduceSub,Array.replicate_succ,Array.replicate_zero,List.push_toArray,List.append_toArray,ã,List.cons_append]
 gi_wp2
 generalize w.alloc (Β #[U I 0 0] 22)=w1 at *;refine Uf ad h1 (gf:=g) (lb:=H) rfl ai eg ao (λ_=>rfl)
  (λpre W=>(∃ v,Boxed W w.heap.size 22 v/\W.ownsRow w.heap.size 5 1 v pre.length (pre.map bv))/\Ext w W)
  (λ_ _ _=>False)
  (λs W l o X h hl ho hc=>by obtain⟨⟨v,E,hr⟩,G⟩:=h;exact⟨⟨v,Nn E ho hc,ownsRow_putObj hr X ho hc⟩,G.putObj (by omega) X⟩)
  (λs W o h=>by obtain⟨⟨v,E,hr⟩,G⟩:=h;exact⟨⟨v,E.alloc o,hr.alloc o⟩,G.alloc o⟩)
  (λ_ s W l o X h _ _ _=>h)
  (λpre W h=>h.2.below) ⟨⟨_,ax,À _ _ _ _⟩,ay⟩
  (λx=>{ tmps:=#[U I 0 0,.func (.func g) #[] H,ε (J ⟨w.heap.size,0,I⟩),Ω,U I 0 0,bv x,.func (.func g) #[] H,bv x,Ω,Ω,Ω,Ω,Ω],defers:=[] }) ?assign ?body ?done ?stop
 case assign=>
  intro l x W K hK
  gi_wp2
  exact hK
 case body=>
  rintro l pre x W ⟨⟨v,E,T⟩,G⟩ az;have bj:=hN pre x az;have hc:=E.cell;have hB:=G.below;have hx:=x.toNat_lt
  gi_wp2_with (gi_at_builtin;refine wpListIn_append_own _ rfl _ _ 22 rfl w.heap.size 5 i0 (.int .u8 0) 1 1 ύ hi ar au aw rfl (by decide) _ _ _ rfl (T.alloc _) ⟨W.heap.size,0,I⟩ 1 1 [bv x] rfl rfl (Ý _ _ _) (by simp[ξ]) (by unfold ϐ;omega) (by omega) (by have:=hB.size;simp;omega) ?_;intro v' w1 af a1 _;obtain⟨g',bm,rfl⟩:=ownsRow_succ af;obtain⟨ag,a6,a7,a8,ba⟩:=E.appended (by decide) T hB.size (Υ _) af a1;have bn:=ag.cell;have bo:=ag.frozen)
  exact⟨a8,⟨_,a6,by simpa using a7⟩,⟨hB.trans ba⟩⟩
 case done=>
  rintro D ys W hD hS ⟨⟨v,E,T⟩,G⟩ hK;have hc:=E.cell
  gi_wp2
  refine⟨by simp,.inl ⟨_,_,rfl,run_takeDeferred hK,?_⟩⟩;exact⟨_,results_tmp rfl _ _ _,v,ys,rfl,hS,ownsRow_putObj T _ hK rfl,G.putObj (by omega) _⟩
 case stop=>rintro D k pre W _ _ h _;exact h.elim
theorem VM (F:Fence) (n:Nat) (T:F.fn 89) (X:F.fn 107) (G:F.round=I) (hn:3<=n) (g:Nat) (E:Array Δ) (aa:F.fn g) (eg:∀ args w,(callFunc g args).run Η w=.ok (.enter g args) w)
  (Nx:List UInt8->UInt8->Prop) (S H:List UInt8->Prop) (hN:∀ pre x,Nx pre x->pre.length<256) (w:Γ) (ae:Pa F (n-1-1) Η g E (λx=>#[bv x]) Nx S H w) :
  CallsIn F n Η 89 #[.func (.func g) #[] E] w λe w'=>∃ v xs,e=Ψ v/\S xs/\w'.ownsRow w.heap.size 5 1 v xs.length (xs.map bv)/\Ext w w':=by
 have h1:1<=n:=by omega
 refine callsIn_of_wp Tryz.func89 rfl T ?_ G;simp only[Tryz.ntmps89,List.size_toArray,ϑ,ç,Nat.reduceAdd,Nat.reduceSub,Array.replicate_succ,Array.replicate_zero,List.push_toArray,List.append_toArray,ã,List.cons_append]
 gi_wp2_with (gi_at_call 107;refine (YN F (n-1) X G (by omega) g E aa eg Nx S H hN _ ae).mono ?_;rintro e w' ⟨v,xs,rfl,hS,ag,hb⟩)
 go_ret;exact⟨v,xs,rfl,hS,ag,hb⟩
theorem WT (F:Fence) (n:Nat) (ad:F.fn 65) (ae:F.fn 89) (af:F.fn 90) (ag:F.fn 107) (T:F.fn 108) (ah:F.fn 109) (G:F.round=I) (hn:5<=n) (c:Cls) (w:Γ) (hT:Tab w) (aj:0<w.heap.size) :
  CallsIn F n Η 65 #[.agg (Ab c)] w λe w'=>∃ v,e=Ψ v/\By w' v (Ax c 256)/\Ext w w':=by
 have h1:1<=n:=by omega
 have E:=É w (Β (Ab c) 91);have hE:=(Κ w).alloc (Β (Ab c) 91);have X:=hE.alloc (Β (Ab c) 91);have H:=É (w.alloc (Β (Ab c) 91)) (Β (Ab c) 91);have c0:=(Τ _ _ 0 _ _ _ E).trans rfl;have c1:=(Τ _ _ 1 _ _ _ E).trans rfl;have c2:=(Τ _ _ 2 _ _ _ E).trans rfl;have c3:=(Τ _ _ 3 _ _ _ E).trans rfl;rw[Ρ] at H;have aa:=hT.below X.below aj;have ab:=Xy F (n-1-1-1) T ah G (by omega) (w.heap.size+1) c _ aa H;clear E H aa;have an:=Z ab;clear ab;refine callsIn_of_wp Tryz.func65 rfl ad ?_ G;simp only[Tryz.ntmps65,List.size_toArray,ϑ,ç,Nat.reduceAdd,Nat.reduceSub,Array.replicate_succ,Array.replicate_zero,List.push_toArray,List.append_toArray,ã,List.cons_append]
 gi_wp2_with (first
  | (gi_at_call 90;refine (Xz F (n-1) af G c _).mono ?_;rintro e w' ⟨rfl,rfl⟩)
  | (gi_at_call 89;refine (VM F (n-1) ae ag G (by omega) 108 _ T (enters_of Tryz.func108 (by kernel_rfl) rfl) _ _ _ (λpre x h=>by have h2:=h.length_le;have h3:=Th c 256;simp at h2;omega) _ an.o).mono ?_;rintro e w' ⟨v,xs,rfl,rfl,aq,hb⟩))
 go_ret;exact⟨v,rfl,By.of_owns aq (by have:=Th c 256;omega),X.t hb⟩
theorem WU (c:Cls) (w:Γ) (E:Tab w) (G:0<w.heap.size):ϛ Η 65 #[.agg (Ab c)] w λe w'=>∃ v,e=Ψ v/\By w' v (Ax c 256)/\Ext w w':=
 callsIn_wide.1 (WT Fence.wide 5 trivial trivial trivial trivial trivial trivial rfl (Υ _) c w E G)
end Go.Proofs.YtilncahcpjlfnaaGreatDoor
namespace Go.Proofs
open Go.Shelf
def Tryz.l112_ren:Go.Shelf.Ren:=⟨fun|6=>112|15=>120|14=>119|28=>129|29=>130|20=>121|21=>122|22=>123|23=>124|24=>125|25=>126|26=>127|27=>128|46=>131|47=>132|48=>133|49=>134|50=>135|57=>136|n=>n,fun|22=>36|24=>91|25=>196|3=>3|39=>169|0=>0|53=>208|55=>89|4=>4|46=>202|45=>201|50=>138|5=>5|9=>9|66=>209|70=>213|76=>215|77=>216|n=>n,fun|n=>n⟩
theorem Tryz.l112:Go.Proofs.SlLaysF0.n6 Η Tryz.l112_ren:={
 mixed:=by kernel_rfl
 f6:=⟨Tryz.f112.name,by decide,Tryz.func112.trans (congrArg J (by kernel_rfl))⟩
 f14:=⟨Tryz.f119.name,by decide,Tryz.func119.trans (congrArg J (by kernel_rfl))⟩
 f15:=Tryz.func120.trans (congrArg J (by kernel_rfl))
 f20:=⟨Tryz.f121.name,by decide,Tryz.func121.trans (congrArg J (by kernel_rfl))⟩
 f21:=⟨Tryz.f122.name,by decide,Tryz.func122.trans (congrArg J (by kernel_rfl))⟩
 f22:=⟨Tryz.f123.name,by decide,Tryz.func123.trans (congrArg J (by kernel_rfl))⟩
 f23:=⟨Tryz.f124.name,by decide,Tryz.func124.trans (congrArg J (by kernel_rfl))⟩
 f24:=⟨Tryz.f125.name,by decide,Tryz.func125.trans (congrArg J (by kernel_rfl))⟩
 f25:=⟨Tryz.f126.name,by decide,Tryz.func126.trans (congrArg J (by kernel_rfl))⟩
 f26:=⟨Tryz.f127.name,by decide,Tryz.func127.trans (congrArg J (by kernel_rfl))⟩
 f27:=⟨Tryz.f128.name,by decide,Tryz.func128.trans (congrArg J (by kernel_rfl))⟩
 f28:=Tryz.func129.trans (congrArg J (by kernel_rfl))
 f29:=Tryz.func130.trans (congrArg J (by kernel_rfl))
 f46:=⟨Tryz.f131.name,by decide,Tryz.func131.trans (congrArg J (by kernel_rfl))⟩
 f47:=Tryz.func132.trans (congrArg J (by kernel_rfl))
 f48:=Tryz.func133.trans (congrArg J (by kernel_rfl))
 f49:=⟨Tryz.f134.name,by decide,Tryz.func134.trans (congrArg J (by kernel_rfl))⟩
 f50:=⟨Tryz.f135.name,by decide,Tryz.func135.trans (congrArg J (by kernel_rfl))⟩
 f57:=⟨Tryz.f136.name,by decide,Tryz.func136.trans (congrArg J (by kernel_rfl))⟩
 t0:=Tryz.underlying0
 a0:=Tryz.isAgg0
 z0:=Tryz.sizeOf0
 v0:=Tryz.zeroValue0
 t3:=Tryz.underlying3
 a3:=Tryz.isAgg3
 z3:=Tryz.sizeOf3
 v3:=Tryz.zeroValue3
 t4:=Tryz.underlying4
 a4:=Tryz.isAgg4
 z4:=Tryz.sizeOf4
 v4:=Tryz.zeroValue4
 t5:=ϫ
 a5:=Tryz.isAgg5
 z5:=Tryz.sizeOf5
 v5:=Tryz.zeroValue5
 t9:=Tryz.underlying9
 a9:=Tryz.isAgg9
 z9:=Tryz.sizeOf9
 v9:=Tryz.zeroValue9
 t22:=Tryz.underlying36
 a22:=Tryz.isAgg36
 z22:=Tryz.sizeOf36
 v22:=Tryz.zeroValue36
 t25:=Tryz.underlying196
 a25:=Tryz.isAgg196
 z25:=Tryz.sizeOf196
 v25:=Tryz.zeroValue196
 t39:=Tryz.underlying169
 a39:=Tryz.isAgg169
 z39:=Tryz.sizeOf169
 v39:=Tryz.zeroValue169
 t45:=Tryz.underlying201
 a45:=Tryz.isAgg201
 z45:=Tryz.sizeOf201
 v45:=Tryz.zeroValue201
 t46:=Tryz.underlying202
 a46:=Tryz.isAgg202
 z46:=Tryz.sizeOf202
 v46:=Tryz.zeroValue202
 t50:=Tryz.underlying138
 a50:=Tryz.isAgg138
 z50:=Tryz.sizeOf138
 v50:=Tryz.zeroValue138
 t53:=Tryz.underlying208
 a53:=Tryz.isAgg208
 z53:=Tryz.sizeOf208
 v53:=Tryz.zeroValue208
 t55:=Tryz.underlying89
 a55:=Tryz.isAgg89
 z55:=Tryz.sizeOf89
 v55:=Tryz.zeroValue89
 t66:=Tryz.underlying209
 a66:=Tryz.isAgg209
 z66:=Tryz.sizeOf209
 v66:=Tryz.zeroValue209
 t70:=Tryz.underlying213
 a70:=Tryz.isAgg213
 z70:=Tryz.sizeOf213
 v70:=Tryz.zeroValue213
 t76:=Tryz.underlying215
 a76:=Tryz.isAgg215
 z76:=Tryz.sizeOf215
 v76:=Tryz.zeroValue215
 t77:=Tryz.underlying216
 a77:=Tryz.isAgg216
 z77:=Tryz.sizeOf216
 v77:=Tryz.zeroValue216 }
end Go.Proofs
namespace Go.Proofs.YtilncahcpjlfnaaGreatDoor
open Go.RowKit Go.Shelf Go.Sort
structure ED (w:Γ) where
 W:Γ
 ext:Ext w W
 drawn:w.drawn<=W.drawn
instance (w:Γ):Nonempty (ED w):=⟨⟨w,Κ w,Υ _⟩⟩
section
variable {P:Program}
theorem JQ {id:Nat} {Q:Exit->Act->Γ->Prop} {a:Act} {w:Γ} {l:List Oper} (hm:P.follows .mixedOrders=Α) (E:Region.lexB .any l.toArray=Α)
  (h:wpQuiet P l.toArray (λW=>∃ e:ED w,W=e.W) (λG=>∀ w',(∃ e:ED w,w'=e.W)->Q .normal G w') l a):(Code.region id l.toArray Α).wp P Q a w:=
 wp_region_quiet (C:=λW=>∃ e:ED w,W=e.W) hm E ⟨⟨_,(Κ w).drawn1,Nat.le_succ _⟩,rfl⟩ (by simpa using h)
theorem BV {f:FuncId} {args:Array Δ} {w:Γ} {E:ED w} {v:Δ} (h:ϛ P f args E.W λe w'=>e=Ψ v/\Ext E.W w'/\E.W.drawn<=w'.drawn):ϛ P f args E.W λe G=>e=Ψ v/\∃ H:ED w,G=H.W:=
 h.mono λ_ w' ⟨he,T,hd⟩=>⟨he,⟨w',E.ext.trans T,μ E.drawn hd⟩,rfl⟩
theorem Oq {w:Γ} {p:Addr} {v:Δ} (h:w.cell? p=J v):∀ e:ED w,e.W.cell? p=J v:=λe=>e.ext.cell h
end
theorem TZ {w W:Γ} (h:Ext w W) (hd:w.drawn<=W.drawn):∃ q os,W=grow (w.drewN q) os:=by
 refine⟨W.drawn-w.drawn,W.heap.extract w.heap.size,?_⟩;have h1:=h.below.os;have E:=h.below.tape;have G:=h.below.output;have T:=h.below.size;have H:=h.below.block;obtain⟨X,o,t,d,out⟩:=W;obtain⟨aa,o',t',d',af⟩:=w;simp only at *;subst h1 E G;simp only[grow,Γ.drewN]
 congr 1
 ·refine Array.ext_getElem? λi=>?_
  rw[Array.getElem?_append];split
  ·rename_i hi;exact H i hi
  rename_i hi
  rw[Array.getElem?_extract];split
  ·congr 1;omega
  rw[Array.getElem?_eq_none (by omega)]
 omega
theorem Zl (l:List UInt8):-1<=Bx l/\Bx l<256:=by
 cases l with
 | nil=>simp[Bx]
 | cons x t=>have:=x.toNat_lt;simp[Bx];omega
theorem AH {w:Γ} {B:Nat} {c:Cls} (h:w.heap[B]? = J (Β (Ab c) 91 (0,0))):(∀ e:ED w,e.W.cell? ⟨B,0,I⟩=J (.int ζ (wd c 0)))/\(∀ e:ED w,e.W.cell? ⟨B,1,I⟩=J (.int ζ (wd c 1)))/\
  (∀ e:ED w,e.W.cell? ⟨B,2,I⟩=J (.int ζ (wd c 2)))/\(∀ e:ED w,e.W.cell? ⟨B,3,I⟩=J (.int ζ (wd c 3))):=by
 have H:∀ j v,(Ab c)[j]? = J v->w.cell? ⟨B,j,I⟩=J v:=λj v E=>by rw[Τ w B j _ _ (0,0) h];exact E
 exact⟨Oq (H 0 _ rfl),Oq (H 1 _ rfl),Oq (H 2 _ rfl),Oq (H 3 _ rfl)⟩
theorem Ad (w:Γ) (o:Obj):(w.alloc o).heap[w.heap.size]? = J o:=by show (w.heap.push o)[w.heap.size]? = J o;simp
theorem VZ (a b:Cls) (w:Γ) (H:Tab w) (E:0<w.heap.size) :
  ϛ Η 113 #[.agg (Ab a),.agg (Ab b)] w λe w'=>e=Ψ (.int Φ (Bx (Ax a 256)-Bx (Ax b 256)))/\Ext w w'/\w.drawn<=w'.drawn:=by
 have h1:=λW H E=>Z (Re a W H E)
 have h2:=λW H E=>Z (Re b W H E)
 have Hx:=Z (Zl (Ax a 256));have Hy:=Z (Zl (Ax b 256));generalize Bx (Ax a 256)=x at *;generalize Bx (Ax b 256)=y at *;go_enter Tryz.func113,Tryz.ntmps113;go_upto_region 1 with (fail)
 have ai:Ü.wrap (x-y)=x-y:=IntWalk.i64_in _ ⟨by have:=Hx.o;have:=Hy.o;omega,by have:=Hx.o;have:=Hy.o;omega⟩;obtain⟨W0,G⟩:=Xq (((w.alloc (Β (Ab a) 91)).alloc (Β (Ab b) 91)));have T:Ext w W0:=G▸((Κ w).alloc (Β (Ab a) 91)).alloc (Β (Ab b) 91);have r1:W0.heap[w.heap.size]? = J (Β (Ab a) 91 (0,0)):=by rw[<-G];exact Ah (Ad w _) _
 have r2:W0.heap[w.heap.size+1]? = J (Β (Ab b) 91 (0,0)):=by
  rw[<-G];have:=Ad (w.alloc (Β (Ab a) 91)) (Β (Ab b) 91)
  simpa using this
 have hd:w.drawn<=W0.drawn:=by rw[<-G];exact Υ _
 simp only[G];have X:=λ(e:ED W0)=>H.below (T.t e.ext).below E
 have aa:=λ(e:ED W0)=>Ξ E (T.t e.ext).size
 have ag:=λ(e:ED W0)=>h1 e.W (X e) (aa e)
 have ah:=λ(e:ED W0)=>h2 e.W (X e) (aa e)
 obtain⟨a0,a1,a2,a3⟩:=AH r1;obtain⟨b0,b1,b2,b3⟩:=AH r2;clear h1 h2 X aa r1 r2 G;refine JQ (by kernel_rfl) (by kernel_rfl) ?_;iterate 6 (refine Ϧ (λK hK=>?_);go_simp;first|(refine hK _ ?_;clear hK K)|(apply Exists.intro;refine⟨λ_=>?_,hK _ ?_⟩;(first|(with_reducible exact BV (ag _).o)|(with_reducible exact BV (ah _).o));clear hK K))
 refine wpQuiet_nil ?_;rintro _ ⟨e,rfl⟩;go_wp2;go_ret;exact⟨rfl,T.t e.ext,μ hd e.drawn⟩
def Mi (a b:Cls):Int:=Bx (Ax a 256)-Bx (Ax b 256)
open Go.RowKit Go.Shelf
def Cq (c:Cls):List Δ:=[.int ζ (wd c 0),.int ζ (wd c 1),.int ζ (wd c 2),.int ζ (wd c 3)]
theorem AD (c:Cls):∀ j,j<4->(Cq c)[j]! = .int ζ (wd c j)
 | 0,_=>rfl
 | 1,_=>rfl
 | 2,_=>rfl
 | 3,_=>rfl
 | n+4,h=>by omega
def Cm (L:List Cls):List Δ:=L.flatMap Cq
theorem Oj (L M:List Cls):Cm (L++M)=Cm L++Cm M:=by simp[Cm]
theorem Oi (c:Cls):Cm [c]=Cq c:=by simp[Cm]
theorem Iu (L:List Cls):(Cm L).length=L.length*4:=by
 induction L with
 | nil=>rfl
 | cons c L E=>show (Cq c++Cm L).length=_;rw[Ν,E,ϑ];show 4+_=_;omega
theorem Fx (L:List Cls):∀ i,i<L.length*4->(Cm L)[i]? = J (.int ζ (wd (L.getD (i / 4) 0#256) (i % 4))):=by
 induction L with
 | nil=>intro i h;simp at h
 | cons c L G=>
  intro i h;show (Cq c++Cm L)[i]? = _;by_cases E:i<4
  ·rw[χ (show i<(Cq c).length from E),Nat.div_eq_of_lt E,Nat.mod_eq_of_lt E]
   match i,E with
   | 0,_=>rfl
   | 1,_=>rfl
   | 2,_=>rfl
   | 3,_=>rfl
   | n+4,h=>omega
  simp only[ϑ] at h;rw[ς (show (Cq c).length<=i from by show 4<=i;omega)];show (Cm L)[i-4]? = _;rw[G (i-4) (by omega),show i / 4=(i-4) / 4+1 by omega,show i % 4=(i-4) % 4 by omega];rfl
abbrev Row (W:Γ) (base:Nat) (v:Δ) (L:List Cls):Prop:=W.ownsRow base 91 4 v L.length (Cm L)
theorem Row.cells {W:Γ} {base:Nat} {v:Δ} {L:List Cls} (h:Row W base v L) (H:0<L.length):∃ g E,v=U (J ⟨g,0,I⟩) L.length E/\base<=g/\g<W.heap.size/\(∀ i,W.frozen? ⟨g,i,I⟩=Ε)/\
  ∀ i,i<L.length*4->W.cell? ⟨g,0+i,I⟩=J (.int ζ (wd (L.getD (i / 4) 0#256) (i % 4))):=by
 obtain⟨T,⟨_,h0⟩|⟨g,E,cur,rfl,hb,hg,X,aa,ab,G⟩⟩:=h
 ·omega
 refine⟨g,E,rfl,hb,Al hg,λi=>?_,λi hi=>?_⟩
 ·simp[Γ.frozen?,hg]
 rw[ϖ,Τ W g i cur 91 (0,0) hg,<-Fx L i hi,<-G,List.getElem?_take,if_pos hi,Array.getElem?_toList]
theorem Row.toCs {W:Γ} {base:Nat} {v:Δ} {L:List Cls} (h:Row W base v L) (G:L.length<=4611686018427387904):Cs W v L:=by
 refine⟨G,?_⟩;by_cases h0:L.length=0
 ·obtain⟨T,⟨rfl,_⟩|⟨g,E,cur,rfl,_⟩⟩:=h
  ·exact .inl ⟨h0,_,_,rfl⟩
  exact .inl ⟨h0,_,_,by rw[h0]⟩
 obtain⟨g,E,rfl,_,H,_,hc⟩:=h.cells (by omega);exact .inr ⟨by omega,g,0,E,rfl,H,hc⟩
theorem Row.mono {W:Γ} {b b':Nat} {v:Δ} {L:List Cls} (h:Row W b v L) (hb:b'<=b):Row W b' v L:=by
 obtain⟨E,h|⟨g,G,cur,H,hg,r⟩⟩:=h
 ·exact⟨E,.inl h⟩
 exact⟨E,.inr ⟨g,G,cur,H,μ hb hg,r⟩⟩
theorem Kf {W:Γ} {b E:Nat} {l:List Cls} (h:∀ i,i<l.length*4->W.cell? ⟨b,E+i,I⟩=J (.int ζ (wd (l.getD (i / 4) 0#256) (i % 4)))) (k:Nat) (G:k<l.length):W.cell? ⟨b,E+k*4,I⟩=J (.int ζ (wd (l.getD k 0#256) 0))/\W.cell? ⟨b,E+k*4+1,I⟩=J (.int ζ (wd (l.getD k 0#256) 1))/\
  W.cell? ⟨b,E+k*4+2,I⟩=J (.int ζ (wd (l.getD k 0#256) 2))/\W.cell? ⟨b,E+k*4+3,I⟩=J (.int ζ (wd (l.getD k 0#256) 3)):=by
 obtain⟨a0,H,T,X⟩:=Sy h k G;exact⟨a0 ⟨W,Κ W⟩,H ⟨W,Κ W⟩,T ⟨W,Κ W⟩,X ⟨W,Κ W⟩⟩
theorem MK (w:Γ):ϛ Η 64 #[.agg zA] w λe w'=>e=Ψ (.agg (Ab allC))/\Ext w w':=by
 have:=Xi 0#256 w
 rwa [encA_zero] at this
theorem RM (a b c d e f g h:Int) (w:Γ):(Instr.index 194 (.agg #[.int ζ a,.int ζ b,.int ζ c,.int ζ d,.int ζ e,.int ζ f,.int ζ g,.int ζ h]) (.int Φ 0)).run Η w=.ok (.agg #[.int ζ a,.int ζ b,.int ζ c,.int ζ d]) w:=by kernel_rfl
theorem RL (a b c d e f g h:Int) (w:Γ):(Instr.index 194 (.agg #[.int ζ a,.int ζ b,.int ζ c,.int ζ d,.int ζ e,.int ζ f,.int ζ g,.int ζ h]) (.int Φ 1)).run Η w=.ok (.agg #[.int ζ e,.int ζ f,.int ζ g,.int ζ h]) w:=by kernel_rfl
theorem Rq:(Η.info? 91).map (λi=>(i.zero,i.size,i.bytes))=J (J (.agg zA),4,32):=by kernel_rfl
def Ej (x y:Cls):Nat->List Cls
 | 0=>[]
 | 1=>if x=0#256 then [] else [x]
 | _=>(if x=0#256 then [] else [x])++(if y=0#256 then [] else [y])
theorem KD (x y:Cls):Ej x y 0=[]:=rfl
theorem KC (S:List Cls) (x y:Cls):S++Ej x y 1=(S++Ej x y 0)++if (x==0#256) then [] else [x]:=by simp[Ej]
theorem KB (S:List Cls) (x y:Cls):S++Ej x y 2=(S++Ej x y 1)++if (y==0#256) then [] else [y]:=by simp[Ej]
theorem Wq (S:List Cls) (x y:Cls) (q:Nat):(S++Ej x y q).length<=S.length+2:=by
 match q with
 | 0=>simp[Ej]
 | 1=>simp only[Ej,Ν];split<;>simp
 | n+2=>simp only[Ej,Ν];split<;>split<;>simp
theorem P9 (w:Γ) (x:Cls):∀ j u,(Cq x)[j]? = J u->(w.alloc (Β (Ab x) 91)).cell? ((⟨w.heap.size,0,I⟩:Addr).add j)=J u:=by intro j u h;rw[show ((⟨w.heap.size,0,I⟩:Addr).add j)=⟨w.heap.size,j,I⟩ by rw[Addr.add_lit,ϖ],Τ _ _ _ _ 91 (0,0) (É w _)];rw[<-List.getElem?_toArray] at h;exact h
theorem ltC (x y:Cls):ltOf Mi x y=decide (Bx (Ax x 256)<Bx (Ax y 256)):=by
 unfold ltOf Mi;by_cases h:Bx (Ax x 256)<Bx (Ax y 256)
 ·simp only[h,decide_true,decide_eq_true_eq];omega
 simp only[h,decide_false,decide_eq_false_iff_not];omega
theorem FY:Go.Sort.SWO (ltOf Mi) where
 irrefl x:=by rw[ltC];simp
 trans x y z h1 E:=by rw[ltC] at *;simp at *;omega
 ntrans x y z h1 E:=by rw[ltC] at *;simp at *;omega
theorem Vi {α:Type} [Inhabited α] (E:α->List Δ) (k:Nat) (w:Γ) (blk G m:Nat) (H:Array α) (os:Array Obj):w.grownBy (sortWorldK E k w blk G m H os) (J blk):=by
 refine⟨rfl,rfl,rfl,Go.Proofs.size_sortWorldK_c E k w blk G m H os,λi hi T=>?_⟩;have X:i≠blk:=λe=>T (by rw[e])
 unfold sortWorldK Go.Sort.putRowK Go.Sort.putRow Go.Sort.mapBlock;show ((w.heap.modify blk _)++os)[i]? = _;rw[Array.getElem?_append,if_pos (by simpa using hi),Array.getElem?_modify,if_neg (λe=>X e.symm)]
theorem ID (l:List Cls) (blk E ad:Nat) (w:Γ) (hT:Tab w) (bb:0<blk) (ae:blk<w.heap.size) (ao:l.length<4611686018427387904)
  (hc:∀ i,i<l.length*4->w.cell? ⟨blk,E+i,I⟩=J (.int ζ (wd (l.getD (i / 4) 0#256) (i % 4)))) (hf:∀ i,w.frozen? ⟨blk,i,I⟩=Ε) :
  ϛ Η 112 #[U (J ⟨blk,E,I⟩) l.length ad,.func (.func 113) #[] #[]] w λe w'=>e=Ψ (ϗ #[])/\w.grownBy w' (J blk)/\
   ∃ T:List Cls,T.length=l.length/\T.Perm l/\T.Pairwise (λa b=>Bx (Ax a 256)<=Bx (Ax b 256))/\∀ i,i<T.length*4->w'.cell? ⟨blk,E+i,I⟩=J (.int ζ (wd (T.getD (i / 4) 0#256) (i % 4))):=by
 have hk:∀ x,(Cq x).length=4:=λ_=>rfl
 have hH:Go.Sort.HoldsK Cq 4 w blk E l.toArray:=λj H=>by
  rw[Go.Sort.size_flatK] at H;simp only[List.size_toArray] at H;refine⟨?_,hf _⟩;rw[hc j H,Go.Sort.get_flatK _ _ _ _ (by simpa using H),AD _ _ (by omega)]
  congr 2
  have:j / 4<l.length:=by omega
  simp[Ζ,this]
 have eg:∀ args w,(callFunc 113 args).run Η w=.ok (.enter 113 args) w:=enters_of Tryz.func113 (by kernel_rfl) rfl;have aw:CmpLays Η 113 #[] Cq 4 Mi blk E l.toArray.size w:=λm os dk _ x y=>by
  have hg:=Vi Cq 4 w blk E m dk os;have ax:Tab (sortWorldK Cq 4 w blk E m dk os):=λj H=>by rw[Γ.cell?_of_block (hg.block 0 (by omega) (λe=>by injection e with e;omega))];exact hT j H
  exact (VZ x y _ ax (by have:=hg.size;omega)).mono λe w' ⟨he,hE,hd⟩=>⟨he,TZ hE hd⟩
 have ah:=AnyQ.slices_SortFunc Tryz.l112 4 Tryz.isAgg91 Tryz.sizeOf91 Cq hk (λx v hv=>by simp[Cq] at hv;rcases hv with rfl|rfl|rfl|rfl<;>rfl) Mi FY 113 #[] blk E ad l.toArray w eg aw hH ae (by simpa using ao);change ϛ Η 112 _ _ _ at ah
 refine ah.mono ?_;rintro e w' ⟨he,G,n,os,hp,hs,rfl⟩;have a1:=Vi Cq 4 w blk E n G os;refine⟨he,a1,G.toList,?_⟩;obtain⟨X,_,aa⟩:=hp;simp only[List.size_toArray] at X aa hs;have a6:=holdsK_sortWorldK_c Cq 4 w blk E l.toArray G n os hH ae (by simpa using X);have ak:G.toList.length=l.length:=by simpa using X
 refine⟨ak,?_,?_,λi hi=>?_⟩
 ·have e2:(l.toArray.extract 0 l.length)=l.toArray:=by simp
  have e3:(G.extract 0 l.length)=G:=by rw[<-X];simp
  rw[e2,e3] at aa;exact aa
 ·rw[Ϫ];intro i j hi H a8;have:=hs i j (Nat.zero_le _) a8 (by rw[<-ak];exact H);rw[ltC,decide_eq_false_iff_not] at this;have e1:G[i]! = G.toList[i]:=by simp at hi;simp[hi]
  have e2:G[j]! = G.toList[j]:=by simp at H;simp[H]
  rw[e1,e2] at this;omega
 have h1:i / 4<G.size:=by simp at hi;omega
 have:=(a6.cell (i:=i / 4) (c:=i % 4) h1 (by omega)).1;rw[show E+i / 4*4+i % 4=E+i by omega,AD _ _ (by omega)] at this;rw[this]
 congr 3
 simp[Ζ,h1]
set_option maxRecDepth 100000 in
theorem BI (l:List Cls) (hl:l.length<=4611686018427387904) (a:Option Addr) (b bb bu:Nat) (w:Γ) (hT:Tab w) (bz:0<w.heap.size) (ha:0<l.length->a=J ⟨b,bb,I⟩)
  (hc:∀ i,i<l.length*4->w.cell? ⟨b,bb+i,I⟩=J (.int ζ (wd (l.getD (i / 4) 0#256) (i % 4)))) :
  ϛ Η 95 #[U a l.length bu] w λe w'=>∃ v L,e=Ψ v/\Cs w' v L/\L.Perm (F0 l)/\L.Pairwise (λa b=>Bx (Ax a 256)<=Bx (Ax b 256))/\Ext w w':=by
 have hN:=Z (MK w);obtain⟨i0,hi,be,bf,bg⟩:=ϓ Rq;go_enter Tryz.func95,Tryz.ntmps95;go_wp2_with (first|(go_at_call 64;refine hN.o.mono ?_;rintro e w1 ⟨rfl,bh⟩));clear hN;go_loopw [3,16] (λv i W=>∃ k:Nat,k<=l.length/\i=.int Φ k/\Ext w W/\Row W w.heap.size v (F0 (l.take k)))
  (λ_ i _=>l.length-(intOf i).toNat)
 case atStart=>refine⟨0,by omega,rfl,bh.alloc _,?_⟩;exact⟨rfl,.inr ⟨w1.heap.size,1,Ab allC,rfl,bh.size,É w1 _,Υ _,by unfold ϐ;omega,rfl,rfl⟩⟩
 obtain⟨k,hk,rfl,hE,E⟩:=hrel;by_cases bj:k<l.length
 ·have e:=ha (by omega);obtain⟨a0,a1,a2,a3⟩:=Kf (W:=wr) (λi hi=>hE.cell (hc i hi)) k bj;have HC:=Z hc;have HA:=Z ha;clear ha hc;subst e;have bk:=Z (WE l k bj);have T:=Z (Zt (l.take k));generalize F0 (l.take k)=C at *;obtain⟨c,bl⟩:=Xq (l.getD k 0#256);rw[bl] at a0 a1 a2 a3 bk;clear bl;obtain⟨g,ar,rfl,bm,bn,an,ai⟩:=E.cells T.o.pos;have c4:=T.o.len;have b6:=T.o.pos;clear E an;go_wp2;obtain⟨G,ao⟩:=Xq (wr.alloc (Β (Ab c) 91));simp only[ao];have au:Ext wr G:=ao▸(Κ wr).alloc _;have h5:G.heap[wr.heap.size]? = J (Β (Ab c) 91 (0,0)):=ao▸Ad wr _;have H5:=Z h5;clear ao h5 a0 a1 a2 a3;have b8:=Z (λ(i:Nat) (hi:i<C.length*4)=>au.cell (ai i hi));clear ai;go_loopw [6,22] (λu i W=>∃ j:Nat,j<=C.length/\i=.int Φ j/\Ext G W/\Row W G.heap.size u (Dg c (C.take j)))
   (λ_ i _=>C.length-(intOf i).toNat)
  case atStart=>exact⟨0,by omega,rfl,Κ G,À _ _ _ _⟩
  obtain⟨j,hj,rfl,X,E⟩:=hrel;by_cases bo:j<C.length
  ·obtain⟨a0,a1,a2,a3⟩:=Kf (W:=wr) (λi hi=>X.cell (b8.o i hi)) j bo;have bp:=Z (GV c C j bo);have b9:=GW c (C.take j);rw[Ö] at b9;generalize Dg c (C.take j)=S at *;obtain⟨d,hd⟩:=Xq (C.getD j 0#256);rw[hd] at a0 a1 a2 a3 bp;simp only[ϖ] at a0 a1 a2 a3;clear hd;go_upto_region 9 with (fail)
   obtain⟨w2,aq⟩:=Xq (wr.alloc (Β (Ab d) 91));simp only[aq];have ay:Ext wr w2:=aq▸(Κ wr).alloc _;have h8:w2.heap[wr.heap.size]? = J (Β (Ab d) 91 (0,0)):=aq▸Ad wr _;clear aq;obtain⟨b0,b1,b2,b3⟩:=Om h8;obtain⟨c0,c1,c2,c3⟩:=Om ((X.t ay).heap H5.o);clear h8 a0 a1 a2 a3;have E:=Aa E ay;have X:=X.t ay;have h1:=λ(W:Γ)=>Z (Za d c W)
   have h2:=λ(W:Γ)=>Z (NM d c W)
   have HX:=Z (Py c d);generalize Eh c d=sp at *;generalize d &&& c=x at *;generalize d &&& ~~~c=y at *;go_cut [32,33] (λv m W=>v=.agg #[.int ζ (wd x 0),.int ζ (wd x 1),.int ζ (wd x 2),.int ζ (wd x 3),.int ζ (wd y 0),.int ζ (wd y 1),.int ζ (wd y 2),.int ζ (wd y 3)]/\m=.int Φ 0/\∃ e:EW w2,W=e.W)
   case first=>
    refine B2 (by kernel_rfl) (by kernel_rfl) ?_;iterate 8 (refine Ϧ (λK hK=>?_);go_simp;first|(refine hK _ ?_;clear hK K)|(apply Exists.intro;refine⟨λ_=>?_,hK _ ?_⟩;(first|(with_reducible exact Ev (h1 _).o)|(with_reducible exact Ev (h2 _).o));clear hK K))
    refine wpQuiet_nil ?_;rintro _ ⟨e,rfl⟩;go_wp2;go_meet
    exact⟨rfl,rfl,e,rfl⟩
   case rest=>
    obtain⟨rfl,rfl,e,rfl⟩:=hcut;have E:=Aa E e.ext;have X:=X.t e.ext;clear b0 b1 b2 b3 c0 c1 c2 c3 h1 h2;generalize e.W=w3 at *;go_wp2_with (fail);go_loopw [6,33] (λu m W=>∃ q:Nat,q<=2/\m=.int Φ q/\Ext G W/\Row W G.heap.size u (S++Ej x y q))
     (λ_ m _=>2-(intOf m).toNat)
    case atStart=>exact⟨0,by omega,rfl,X,by rw[KD,õ];exact E⟩
    obtain⟨q,hq,rfl,aa,E⟩:=hrel;obtain rfl|rfl|rfl:q=0\/q=1\/q=2:=by omega
    ·have ix:=RM (wd x 0) (wd x 1) (wd x 2) (wd x 3) (wd y 0) (wd y 1) (wd y 2) (wd y 3) wr;have HN:=λW=>Nd x 0#256 W
     rw[encA_zero] at HN;have cf:=Ma;have cg:=aa.size;have a6:=Wq S x y 0;have H:=Z (KC S x y);generalize S++Ej x y 0=P at E a6 H;generalize (x==0#256)=bx at HN H;cases bx
     ·go_wp2_with (at_builtin;(refine wpList_append_own _ rfl _ _ 36 rfl G.heap.size 91 i0 (.agg zA) 4 32 Tryz.underlying36 hi be bf bg rfl (by decide) _ _ _ rfl ((E.alloc _).alloc _) _ 1 1 (Cq x) rfl rfl ?_ (by simp[Cq,ξ]) (by unfold ϐ;omega) (by omega) (by simp;omega) ?_))
      ·have:=P9 (wr.alloc (Β (Ab x) 91)) x
       rwa [Ρ] at this
      intro v' w4 aj ak _;have a8:Ext G w4:=((aa.alloc _).alloc _).grown ak (λg e=>(E.lt g e).1);clear E ak HN ix;go_wp2;go_roundw
      case rel=>refine⟨1,by omega,rfl,a8,?_⟩;rw[H.o];simp only[Ó,if_false];show ϥ _ _ _ _ _ _ _;rw[Ν,Oj,Oi];exact aj
      case measure=>simp[intOf]
     go_wp2;refine⟨⟨1,by omega,rfl,aa.alloc _,?_⟩,by simp[intOf]⟩;rw[H.o];simp only[if_true,õ];exact E.alloc _
    ·have ix:=RL (wd x 0) (wd x 1) (wd x 2) (wd x 3) (wd y 0) (wd y 1) (wd y 2) (wd y 3) wr;have HN:=λW=>Nd y 0#256 W
     rw[encA_zero] at HN;have cf:=Ma;have cg:=aa.size;have a6:=Wq S x y 1;have H:=Z (KB S x y);generalize S++Ej x y 1=P at E a6 H;generalize (y==0#256)=bx at HN H;cases bx
     ·go_wp2_with (at_builtin;(refine wpList_append_own _ rfl _ _ 36 rfl G.heap.size 91 i0 (.agg zA) 4 32 Tryz.underlying36 hi be bf bg rfl (by decide) _ _ _ rfl ((E.alloc _).alloc _) _ 1 1 (Cq y) rfl rfl ?_ (by simp[Cq,ξ]) (by unfold ϐ;omega) (by omega) (by simp;omega) ?_))
      ·have:=P9 (wr.alloc (Β (Ab y) 91)) y
       rwa [Ρ] at this
      intro v' w4 aj ak _;have a8:Ext G w4:=((aa.alloc _).alloc _).grown ak (λg e=>(E.lt g e).1);clear E ak HN ix;go_wp2;go_roundw
      case rel=>refine⟨2,by omega,rfl,a8,?_⟩;rw[H.o];simp only[Ó,if_false];show ϥ _ _ _ _ _ _ _;rw[Ν,Oj,Oi];exact aj
      case measure=>simp[intOf]
     go_wp2;refine⟨⟨2,by omega,rfl,aa.alloc _,?_⟩,by simp[intOf]⟩;rw[H.o];simp only[if_true,õ];exact E.alloc _
    have H:ϟ (S++Ej x y 2=S++sp):=Z (by rw[HX.o];rfl);rw[H.o,<-bp.o] at E;go_wp2;go_roundw
    case rel=>exact⟨j+1,by omega,by go_num,aa,E⟩
    simp[intOf];omega
  obtain rfl:j=C.length:=by omega
  rw[List.take_length,<-bk.o] at E;have ck:=(hE.t au).trans X;have aj:Row wr w.heap.size u6 (F0 (l.take (k+1))):=E.mono (hE.t au).size;have ha:=HA.o;have hc:=HC.o;go_wp2;go_roundw
  case rel=>exact⟨k+1,by omega,by go_num,ck,aj⟩
  simp[intOf];omega
 obtain rfl:k=l.length:=by omega
 rw[List.take_length] at E;have T:=Zt l;obtain⟨C,hC⟩:=Xq (F0 l);rw[hC] at E T;have HU:=Z hC;clear hC;obtain⟨g,ar,rfl,bm,bn,an,ai⟩:=E.cells T.pos;have cm:=Z (ID C g 0 ar wr (hT.below hE.below bz) (by omega) bn (by have:=T.len;omega) ai an);have cn:=Z T.len;clear E an ai ha hc;go_wp2_with (go_at_call 112;refine cm.o.mono ?_;rintro e w5 ⟨rfl,bt,L,cq,ct,cu,cv⟩);go_ret;have cw:Ext w w5:=hE.grown bt (λk e=>by cases e;exact bm);refine⟨_,L,rfl,?_,by rw[HU.o];exact ct,cu,cw⟩;have h5:=cn.o;have h6:=bt.size;have b6:=T.pos;rw[<-cq];exact⟨by omega,.inr ⟨by omega,g,0,ar,rfl,by omega,cv⟩⟩
theorem BJ (l:List Cls) (v:Δ) (w:Γ) (G:Tab w) (H:0<w.heap.size) (h:Cs w v l) :
  ϛ Η 95 #[v] w λe w'=>∃ T L,e=Ψ T/\Cs w' T L/\L.Perm (F0 l)/\L.Pairwise (λa b=>Bx (Ax a 256)<=Bx (Ax b 256))/\Ext w w':=by
 obtain⟨h0,⟨X,a,E,rfl⟩|⟨X,b,aa,E,rfl,hb,hc⟩⟩:=h
 ·have:=BI l h0 a 0 0 E w G H (by omega) (λi hi=>by omega)
  rwa [X] at this
 exact BI l h0 (J ⟨b,aa,I⟩) b aa E w G H (λ_=>rfl) hc
theorem K9 (v:Δ) (l:List UInt8) (W:Γ) (h:By W v l):(convert 22 9 v).run Η W=.ok (.string ⟨l.toArray⟩) W:=by
 obtain⟨h0,⟨H,a,E,rfl⟩|⟨H,b,T,E,rfl,hb,hc⟩⟩:=h
 ·obtain rfl:l=[]:=List.eq_nil_of_length_eq_zero H;cases a with
  | some a=>exact run_convert_bytes_back W 22 9 5 a E [] ύ ϫ Tryz.underlying9 (λj G=>by simp at G)
  | none=>
   rw[run_convert_bytes_string W 22 9 5 I 0 E ύ ϫ Tryz.underlying9]
   kernel_rfl
 refine run_convert_bytes_back W 22 9 5 ⟨b,T,I⟩ E l ύ ϫ Tryz.underlying9 (λj G=>?_);rw[Addr.add_lit,hc j (by omega)];simp[Ζ,G]
open Go
theorem Z7 {w W':Γ} {e:EW w} (h:Ext e.W W'):∃ E:EW w,W'=E.W:=⟨⟨W',e.ext.trans h⟩,rfl⟩
theorem UD (w:Γ):∃ e:EW w,w=e.W:=⟨⟨w,Κ w⟩,rfl⟩
theorem Aj {W:Γ} {b b':Nat} {e G:ϡ} {s s' n m:Nat} {v u:Δ} {xs ys:List Δ} (h:W.ownsRow b e s v n xs) (H:W.ownsRow b' G s' u m ys) (T:e≠G):v.ownBlock=I\/v.ownBlock≠u.ownBlock:=by
 obtain⟨_,⟨rfl,_⟩|⟨g,aa,cur,rfl,_,hg,_⟩⟩:=h
 ·exact .inl rfl
 obtain⟨_,⟨rfl,_⟩|⟨X,ab,ad,rfl,_,E,_⟩⟩:=H
 ·exact .inr (by simp[Δ.ownBlock])
 refine .inr λhb=>?_
 have:g=X:=by simpa [Δ.ownBlock] using hb
 subst this;rw[hg] at E;simp at E;exact T E.2
theorem SY (L:List Cls) (k:Nat) (c:Cls) (G:k<L.length) :
  Cm (L.set k c)=((((Cm L).set (k*4) (.int ζ (wd c 0))).set (k*4+1) (.int ζ (wd c 1))).set (k*4+1+1) (.int ζ (wd c 2))).set (k*4+1+1+1) (.int ζ (wd c 3)):=by
 have E:=Iu L;apply Ϯ;intro i;by_cases hi:i<L.length*4
 ·rw[Fx _ i (by simpa using hi)];simp only[Ú,υ,E];by_cases hd:i / 4=k
  ·subst hd;rw[Rz _ _ _ _ G];have:i % 4=0\/i % 4=1\/i % 4=2\/i % 4=3:=by omega
   rcases this with h|h|h|h
   ·rw[if_neg (by omega),if_neg (by omega),if_neg (by omega),if_pos (by omega),if_pos (by omega),h]
   ·rw[if_neg (by omega),if_neg (by omega),if_pos (by omega),if_pos (by omega),h]
   ·rw[if_neg (by omega),if_pos (by omega),if_pos (by omega),h]
   rw[if_pos (by omega),if_pos (by omega),h]
  rw[R4 _ _ _ _ _ (Ne.symm hd),if_neg (by omega),if_neg (by omega),if_neg (by omega),if_neg (by omega),Fx _ i hi]
 rw[List.getElem?_eq_none (by rw[Iu,υ];omega),List.getElem?_eq_none (by simp only[υ,E];omega)]
theorem JF {W:Γ} {base g E:Nat} {L:List Cls} (h:Row W base (U (J ⟨g,0,I⟩) L.length E) L) (k:Nat) (T:k<L.length) (c:Cls) :
  Row (W.setCells g (k*4) (Ab c).toList) base (U (J ⟨g,0,I⟩) L.length E) (L.set k c)/\W.grownBy (W.setCells g (k*4) (Ab c).toList) (J g):=by
 have e:W.setCells g (k*4) (Ab c).toList=(((W.setCell ⟨g,k*4,I⟩ (.int ζ (wd c 0))).setCell ⟨g,k*4+1,I⟩ (.int ζ (wd c 1))).setCell ⟨g,k*4+1+1,I⟩ (.int ζ (wd c 2))).setCell ⟨g,k*4+1+1+1,I⟩ (.int ζ (wd c 3)):=rfl;have h0:=h.stored (k*4) (.int ζ (wd c 0));have h1:=h0.1.stored (k*4+1) (.int ζ (wd c 1));have G:=h1.1.stored (k*4+1+1) (.int ζ (wd c 2));have H:=G.1.stored (k*4+1+1+1) (.int ζ (wd c 3));rw[e];refine⟨?_,h0.2.trans (h1.2.trans (G.2.trans H.2))⟩;show ϥ _ _ _ _ _ _ _;rw[SY L k c T,υ];exact H.1
theorem Nr {W:Γ} {b:Nat} {e:ϡ} {s n:Nat} {v:Δ} {xs:List Δ} (h:W.ownsRow b e s v n xs):∃ a E,v=U a n E:=by
 obtain⟨_,⟨rfl,rfl⟩|⟨g,E,cur,rfl,_⟩⟩:=h
 ·exact⟨_,_,rfl⟩
 exact⟨_,_,rfl⟩
theorem LB {W:Γ} {b:Nat} {e:ϡ} {s n m E:Nat} {a:Option Addr} {xs:List Δ} (h:W.ownsRow b e s (U a m E) n xs) (H:0<n):∃ g,a=J ⟨g,0,I⟩:=by
 obtain⟨_,⟨_,h0⟩|⟨g,E,cur,G,_⟩⟩:=h
 ·omega
 simp at G;exact⟨g,G.1⟩
theorem UE {W:Γ} {base g E:Nat} {L:List Cls} (h:Row W base (U (J ⟨g,0,I⟩) L.length E) L) (k:Nat) (G:k<L.length):W.cell? ⟨g,k*4,I⟩=J (.int ζ (wd (L.getD k 0#256) 0))/\W.cell? ⟨g,k*4+1,I⟩=J (.int ζ (wd (L.getD k 0#256) 1))/\
  W.cell? ⟨g,k*4+2,I⟩=J (.int ζ (wd (L.getD k 0#256) 2))/\W.cell? ⟨g,k*4+3,I⟩=J (.int ζ (wd (L.getD k 0#256) 3)):=by
 have H:∀ j,j<4->W.cell? ⟨g,k*4+j,I⟩=J (.int ζ (wd (L.getD k 0#256) j)):=λj T=>by rw[h.cellAt _ (by omega),Fx _ _ (by omega),show (k*4+j) / 4=k by omega,show (k*4+j) % 4=j by omega]
 exact⟨H 0 (by omega),H 1 (by omega),H 2 (by omega),H 3 (by omega)⟩
abbrev iv (x:Nat):Δ:=.int Φ (x:Int)
def Ints (W:Γ) (v:Δ) (l:List Nat):Prop:=Sl W v 1 l.length (λi=>iv (l.getD i 0))
def Bools (W:Γ) (v:Δ) (l:List Bool):Prop:=Sl W v 1 l.length (λi=>.bool (l.getD i Ε))
def Rows (W:Γ) (v:Δ) (N:List (List Nat)):Prop:=
 ∃ vs:List Δ,vs.length=N.length/\Sl W v 1 N.length (λi=>vs.getD i Ω)/\∀ i,i<N.length->Ints W (vs.getD i Ω) (N.getD i [])
theorem Ints.ext {W W':Γ} {v:Δ} {l:List Nat} (h:Ints W v l) (E:Ext W W'):Ints W' v l:=Sl.ext h E
theorem Bools.ext {W W':Γ} {v:Δ} {l:List Bool} (h:Bools W v l) (E:Ext W W'):Bools W' v l:=Sl.ext h E
theorem Rows.ext {W W':Γ} {v:Δ} {N:List (List Nat)} (h:Rows W v N) (E:Ext W W'):Rows W' v N:=by obtain⟨vs,h1,G,H⟩:=h;exact⟨vs,h1,G.ext E,λi hi=>(H i hi).ext E⟩
theorem â {W:Γ} {v:Δ} {k n:Nat} {f:Nat->Δ} (h:Sl W v k n f) (h0:0<n) :
  ∃ b E G,v=U (J ⟨b,E,I⟩) n G/\∀ i,i<n*k->W.cell? ⟨b,E+i,I⟩=J (f i):=by
 obtain⟨_,⟨T,_⟩|⟨_,b,E,G,H,_,hc⟩⟩:=h
 ·omega
 exact⟨b,E,G,H,hc⟩
theorem Sl.len {W:Γ} {v:Δ} {k n:Nat} {f:Nat->Δ} (h:Sl W v k n f):∃ a E,v=U a n E:=by
 obtain⟨_,⟨G,a,E,rfl⟩|⟨_,b,H,E,rfl,_⟩⟩:=h
 ·exact⟨a,E,by rw[G]⟩
 exact⟨_,E,rfl⟩
def IsD (W:Γ) (v:Δ) (d:Dfa):Prop:=∃ vc E G,v=.agg #[vc,E,G]/\Cs W vc d.cls/\Rows W E d.n/\Bools W G d.acc
theorem IsD.ext {W W':Γ} {v:Δ} {d:Dfa} (h:IsD W v d) (E:Ext W W'):IsD W' v d:=by obtain⟨vc,G,H,T,h1,X,h3⟩:=h;exact⟨vc,G,H,T,h1.ext E,X.ext E,h3.ext E⟩
def Es (c:Nat->Nat) (n:Nat) (E G:Δ):List Δ:=(π 256).map (λb=>iv (c b))++[iv n,E,G]
def Ak (c:Nat->Nat) (n:Nat) (E G:Δ):Array Δ:=(Es c n E G).toArray
theorem Ex (c:Nat->Nat) (n:Nat) (E G:Δ):(Ak c n E G).size=259:=by simp[Ak,Es]
theorem Pn (c:Nat->Nat) (n:Nat) (E G:Δ) (b:Nat) (hb:b<256):(Ak c n E G)[b]? = J (iv (c b)):=by simp[Ak,Es,χ,hb]
theorem FO (c:Nat->Nat) (n:Nat) (E G:Δ):(Ak c n E G)[256]? = J (iv n):=by simp[Ak,Es,ς]
theorem K7 (c:Nat->Nat) (n:Nat) (E G:Δ):(Ak c n E G)[257]? = J E:=by simp[Ak,Es,ς]
theorem Ie (c:Nat->Nat) (n:Nat) (G E:Δ):(Ak c n G E)[258]? = J E:=by simp[Ak,Es,ς]
theorem Id {c c':Nat->Nat} (h:∀ b,b<256->c b=c' b) (n:Nat) (E G:Δ):Ak c n E G=Ak c' n E G:=by
 unfold Ak Es
 congr 2
 exact List.map_congr_left λb hb=>by rw[h b (ϔ.1 hb)]
theorem Ut (c:Nat->Nat) (n:Nat) (E G:Δ) (b x:Nat) (hb:b<256):(Ak c n E G).setIfInBounds b (iv x)=Ak (λy=>if y=b then x else c y) n E G:=by
 apply Array.ext';rw[Array.toList_setIfInBounds];unfold Ak;simp only;apply Ϯ;intro i;unfold Es;rw[Ú];by_cases hi:i<256
 ·by_cases e:b=i
  ·subst e;simp[χ,hb];omega
  simp[χ,hi,e,Ne.symm e]
 have:b≠i:=by omega
 rw[if_neg this,ς (by simp;omega),ς (by simp;omega)];simp
theorem Ic (c:Nat->Nat) (n:Nat) (E G:Δ) (H:E.oneCell'=Α) (T:G.oneCell'=Α):(Ak c n E G).all (·.oneCell')=Α:=by
 rw[Array.all_eq_true_iff_forall_mem];intro x hx;simp only[Ak,Es,List.mem_toArray,Ê,ϴ,List.mem_cons,ô,or_false] at hx;rcases hx with⟨b,_,rfl⟩|rfl|rfl|rfl
 ·rfl
 ·rfl
 ·exact H
 exact T
theorem Ci:(Η.info? 84).map (·.size)=J 259:=by kernel_rfl
def IsT (W:Γ) (A:Array Δ) (t:Tbl):Prop:=∃ E G,A=Ak t.cell t.cells E G/\Rows W E t.n/\Bools W G t.acc
theorem IsT.ext {W W':Γ} {A:Array Δ} {t:Tbl} (h:IsT W A t) (E:Ext W W'):IsT W' A t:=by obtain⟨G,H,T,X,h3⟩:=h;exact⟨G,H,T,X.ext E,h3.ext E⟩
theorem XQ (n:Int) (a:Option Addr) (l c:Nat) (E:Option Addr) (G H:Nat):Η.built 84 [(1,.int Φ n),(2,U a l c),(3,U E G H)]=J ((θ 256 (Â Φ 0)++[Â Φ n,Ϗ a l c,Ϗ E G H]).toArray):=by kernel_rfl
theorem FN (n:Nat) (E G:Δ):Ak (λ_=>0) n E G=(θ 256 (Â Φ 0)++[iv n,E,G]).toArray:=by unfold Ak Es;simp[List.map_const']
theorem By.split {W:Γ} {v:Δ} {l:List UInt8} (h:By W v l):∃ a b G E,v=U a l.length E/\(0<l.length->a=J ⟨b,G,I⟩)/\∀ i,i<l.length->W.cell? ⟨b,G+i,I⟩=J (bv (l.getD i 0)):=by
 obtain⟨h0,⟨H,a,E,rfl⟩|⟨H,b,G,E,rfl,hb,hc⟩⟩:=h
 ·exact⟨a,0,0,E,by rw[H],by omega,by omega⟩
 exact⟨_,b,G,E,rfl,λ_=>rfl,λi hi=>hc i (by omega)⟩
theorem FP (c:Nat->Nat) (n:Nat) (a:Option Addr) (l E:Nat) (G:Option Addr) (H T:Nat) (i:Nat) (x:Int):(Ak c n (U a l E) (U G H T))[i]?≠J (.int .u8 x):=by intro h;have:=Array.mem_of_getElem? h;simp only[Ak,Es,List.mem_toArray,Ê,ϴ,List.mem_cons,ô,or_false] at this;rcases this with⟨b,_,hb⟩|hb|hb|hb<;>simp at hb
theorem BK (w:Γ) (g:Nat) (cs:Array Δ) (p:Addr) (h:p.block≠g):(w.setRow g cs).cell? p=w.cell? p:=Γ.cell?_of_block (setRow_other w g p.block cs h)
theorem Bk {P:Þ} {ops:Array Oper} {rest:List Oper} {o:Oper} {a:Act} {w:Γ} {Q:Exit->Act->Γ->Prop} (hg:o.guard=I) (t:ϡ) (parts:Array (Nat × Ñ)) (E:o.op=.build t parts)
  (A:Array Δ) (hb:P.built t (parts.map λ(i,x)=>(i,a.eval x)).toList=J A) (h:wpList P ops Q rest (a.put o.dst (.agg A)) w):wpList P ops Q (o::rest) a w:=
 wpList_build hg t parts E (by rw[hb];rfl) (by rw[hb];exact h)
theorem Dd:γ.size=259:=by kernel_rfl
theorem Po (d:Dfa) (hv:Val d) (v:Δ) (w:Γ) (hT:Tab w) (bt:0<w.heap.size) (h:IsD w v d) :
  ϛ Η 34 #[v] w λe w'=>∃ A,e=Ψ (.agg A)/\(∀ W,IsD W v d->IsT W A (Ai d))/\Ext w w':=by
 obtain⟨vc,vn,va,rfl,hC,hN,hA⟩:=h;obtain⟨bc,oc,cc,rfl,hc⟩:=â hC (by obtain⟨c,hc,_⟩:=hv.parts.cov 0 (by omega);exact List.length_pos_of_mem hc);obtain⟨G,H,T,rfl⟩:∃ a n c,vn=U a n c:=by obtain⟨vs,_,hs,_⟩:=hN;obtain⟨a,c,rfl⟩:=hs.len;exact⟨_,_,_,rfl⟩
 obtain⟨X,la,ca,rfl⟩:∃ a n c,va=U a n c:=by obtain⟨a,c,rfl⟩:=Sl.len hA;exact⟨_,_,_,rfl⟩
 have eg:d.cls.length<=4611686018427387904:=hC.1;have HN:=Z hN;have HA:=Z hA;have HC:=Z hc;clear hN hA hc hC;have hB:ϟ (Η.built 84 [(1,.int Φ (d.cls.length:Int)),(2,U G H T),(3,U X la ca)]=J (Ak (λ_=>0) d.cls.length (U G H T) (U X la ca))):=Z (by rw[XQ,FN]);go_enter Tryz.func34,Tryz.ntmps34;go_upto_region 1 with (fail)
 have bw:=((Κ w).alloc (Β #[U (J ⟨bc,oc,I⟩) d.cls.length cc,U G H T,U X la ca] 40)).alloc (Β γ 84);have H0:=Z (Ah (Ad w (Β #[U (J ⟨bc,oc,I⟩) d.cls.length cc,U G H T,U X la ca] 40)) (Β γ 84));have H1:=Z (ϒ w (Β #[U (J ⟨bc,oc,I⟩) d.cls.length cc,U G H T,U X la ca] 40) (Β γ 84));obtain⟨E,bz⟩:=Xq ((w.alloc (Β #[U (J ⟨bc,oc,I⟩) d.cls.length cc,U G H T,U X la ca] 40)).alloc (Β γ 84));simp only[bz] at *;clear bz;have c0:E.cell? ⟨w.heap.size,0,I⟩=J (U (J ⟨bc,oc,I⟩) d.cls.length cc):=(Τ E _ 0 _ _ _ H0.o).trans rfl;have c1:E.cell? ⟨w.heap.size,1,I⟩=J (U G H T):=(Τ E _ 1 _ _ _ H0.o).trans rfl;have c2:E.cell? ⟨w.heap.size,2,I⟩=J (U X la ca):=(Τ E _ 2 _ _ _ H0.o).trans rfl;obtain⟨A0,ar⟩:=Xq (Ak (λ_=>0) d.cls.length (U G H T) (U X la ca));have bf:A0.size=259:=by rw[<-ar,Ex]
 have b0:A0.all (·.oneCell')=Α:=by rw[<-ar];exact Ic _ _ _ _ rfl rfl
 rw[ar] at hB;have dh:=Z ar;have HS:=Z (show γ.size=A0.size by rw[Dd,bf]);clear ar;go_upto_region 2 with (first
  | (refine Bk rfl 84 _ rfl A0 ?_ ?_;(simp[Act.eval];with_reducible exact hB.o))
  | (refine ë rfl 84 (δ 3) (δ 15) rfl E.heap.size A0 rfl rfl _ _ (Ad E (Β γ 84)) (by rw[bf];exact Ci) HS.o b0 ?_))
 have b4:=bw.size;have dk:Ext w ((E.alloc (Β γ 84)).setRow E.heap.size A0):=(bw.alloc _).setRow b4 _;have H3:=Χ (E.alloc (Β γ 84)) _ _ A0 84 (0,0) (Ad E (Β γ 84));have b5:=Bm (Ah H0.o (Β γ 84)) (g:=E.heap.size) (by have:=Al H0.o;omega) A0;have ej:=Al H1.o;have bg:=Bm (Ah H1.o (Β γ 84)) (g:=E.heap.size) (by omega) A0;obtain⟨w3,b7⟩:=Xq ((E.alloc (Β γ 84)).setRow E.heap.size A0);simp only[b7] at *;clear b7;have c0:w3.cell? ⟨w.heap.size,0,I⟩=J (U (J ⟨bc,oc,I⟩) d.cls.length cc):=(Τ w3 _ 0 _ _ _ b5).trans rfl;rw[<-dh.o] at H3;have H3:=Z H3;have bg:=Z bg;clear c1 c2 b5 HS bf b0 H0 H1;generalize E.heap.size=B at *;go_wp2_with (fail);clear c0;go_loopw [19] (λi W=>∃ k:Nat,k<=d.cls.length/\i=.int Φ k/\Ext w W/\W.heap[B]? = J (Β (Ak (λb=>if Am d.cls b<k then Am d.cls b else 0) d.cls.length (U G H T) (U X la ca)) 84 (0,0))/\W.heap[w.heap.size+1]? = J (Β γ 84 (0,0)))
  (λi _=>d.cls.length-(intOf i).toNat)
 case atStart=>refine⟨0,by omega,rfl,dk,?_,bg.o⟩;rw[H3.o,Id (c:=λb=>if Am d.cls b<0 then Am d.cls b else 0) (c':=λ_=>0) (λb _=>by simp)]
 obtain⟨k,hk,rfl,hE,b8,b9⟩:=hrel;have HB:=Z b8;have HR:=Z b9;clear b8 b9;by_cases cd:k<d.cls.length
 ·obtain⟨a0,a1,a2,a3⟩:=Kf (W:=wr) (λi hi=>hE.cell (HC.o i hi)) k cd;have HK:=Z (λb hb=>Gw hv.parts (b:=b) hb cd);have cm:=Z (λb hb=>Gx hv.parts (b:=b) hb);obtain⟨c,bk⟩:=Xq (d.cls.getD k 0#256);rw[bk] at a0 a1 a2 a3;have cp:=Z bk;have bl:ϟ (∀ b,b<256->(ώ b∈Ax c 256↔Am d.cls b=k)):=Z λb hb=>by rw[Ny,u8n b hb,<-cp.o];exact⟨HK.o b hb,λe=>by rw[<-e];exact cm.o b hb⟩
  clear bk cp HK cm;have dm:=hT.below hE.below bt;have cq:0<wr.heap.size:=Ξ bt hE.size;have dn:=Z (Th c 256);have en:=Al HB.o;go_upto_region 5 with (fail)
  obtain⟨wi,a7⟩:=Xq (wr.alloc (Β (Ab c) 91));simp only[a7];have aw:Ext wr wi:=a7▸(Κ wr).alloc _;have H5:=Z (show wi.heap[wr.heap.size]? = J (Β (Ab c) 91 (0,0)) from a7▸Ad wr _);clear a7 a0 a1 a2 a3;have f109:=Z (WU c wi (dm.below aw.below cq) (Ξ cq aw.size));generalize Ax c 256=l at *;go_wp2_with (first
   | (refine Lr 91 (δ 5) H5.o ϋ Bg ?_)
   | (go_at_call 65;with_reducible refine f109.o.mono ?_;rintro e w5 ⟨vb,rfl,cu,bn⟩;obtain⟨ab,bb,ob,cb,cw,cy,bo⟩:=cu.split;rw[cw]))
  clear f109 H5 cu cw;have dr:=(hE.t aw).trans bn;have cz:=Z (bn.heap (aw.heap HB.o));have dt:=Z (bn.heap (aw.heap HR.o));have c3:=Z bo;have c4:=Z cy;have c5:ϟ (0<l.length->bb≠B):=Z λh0 e=>by have h1:=bo 0 h0;rw[e,Τ w5 B _ _ _ _ cz.o] at h1;exact FP _ _ _ _ _ _ _ _ _ _ h1
  clear bo cy;go_loopw [27] (λi W=>∃ j:Nat,j<=l.length/\i=.int Φ j/\Ext w W/\ϟ (∀ i,i<l.length->W.cell? ⟨bb,ob+i,I⟩=J (bv (l.getD i 0)))/\W.heap[B]? = J (Β (Ak (λb=>if ώ b∈l.take j then k else if Am d.cls b<k then Am d.cls b else 0) d.cls.length (U G H T) (U X la ca)) 84 (0,0))/\W.heap[w.heap.size+1]? = J (Β γ 84 (0,0)))
   (λi _=>l.length-(intOf i).toNat)
  case atStart=>exact⟨0,by omega,rfl,dr,c3,by simpa using cz.o,dt.o⟩
  obtain⟨j,hj,rfl,c6,bp,c7,c8⟩:=hrel;have ai:=Z c7;have c9:=Z c8;clear c7 c8;by_cases bq:j<l.length
  ·have e:=c4.o (by omega);subst e;have cj:=bp.o j bq;have et:=dn.o;have dv:=Z (Õ bq);have da:ϟ (l.getD j 0=l[j]):=Z (by rw[Ζ,Ι bq];rfl);obtain⟨x,db⟩:=Xq (l.getD j 0);rw[db] at cj da;clear db;have hx:=x.toNat_lt;have eu:=(Τ wr B x.toNat _ _ _ ai.o).trans (Pn _ _ _ _ x.toNat hx);have ev:=È wr B x.toNat _ _ ai.o;generalize (if ώ x.toNat∈l.take j then k else if Am d.cls x.toNat<k then Am d.cls x.toNat else 0)=ew at *;go_wp2;go_roundw
   case rel=>
    rw[Ϭ wr _ _ _ _ _ _ ai.o,Ut _ _ _ _ _ _ hx];refine⟨j+1,by omega,by go_num,c6.setRow b4 _,Z λi hi=>?_,?_,Bm c9.o (by omega) _⟩
    ·rw[BK _ _ _ _ (c5.o (by omega))];exact bp.o i hi
    have hq:=Id (c:=λb=>if ώ b∈l.take (j+1) then k else if Am d.cls b<k then Am d.cls b else 0) (c':=λy=>if y=x.toNat then k else if ώ y∈l.take j then k else if Am d.cls y<k then Am d.cls y else 0) (λb hb=>by
     rw[dv.o,<-da.o];have dx:ώ b=x↔b=x.toNat:=by rw[<-UInt8.toNat_inj,u8n b hb]
     simp only[Ê,ϙ,dx];by_cases h1:b=x.toNat<;>by_cases h2:ώ b∈l.take j<;>simp[h1,h2]) d.cls.length (U G H T) (U X la ca)
    rw[hq];exact Χ wr _ _ _ _ _ ai.o
   case measure=>simp[intOf];omega
  obtain rfl:j=l.length:=by omega
  rw[List.take_length] at ai;have ag:=ai.o;rw[Id (c':=λb=>if Am d.cls b<k+1 then Am d.cls b else 0) (λb hb=>by
   by_cases h1:ώ b∈l
   ·have:=(bl.o b hb).1 h1;simp[h1,this]
   have:Am d.cls b≠k:=λe=>h1 ((bl.o b hb).2 e)
   have h2:Am d.cls b<k+1↔Am d.cls b<k:=by omega
   simp[h1,h2])] at ag
  have ag:=Z ag;clear ai bl c3 bp c4 c5;go_wp2;go_roundw
  case rel=>exact⟨k+1,by omega,by go_num,c6,ag.o,c9.o⟩
  simp[intOf];omega
 obtain rfl:k=d.cls.length:=by omega
 have ag:=HB.o;rw[Id (c':=Am d.cls) (λb hb=>by rw[if_pos (cell_lt hv.parts hb)])] at ag;obtain⟨A,hA⟩:=Xq (Ak (Am d.cls) d.cls.length (U G H T) (U X la ca));have a8:A.size=259:=by rw[<-hA,Ex]
 have dy:A.all (·.oneCell')=Α:=by rw[<-hA];exact Ic _ _ _ _ rfl rfl
 rw[hA] at ag;have ag:=Z ag;have dz:=Z hA;have HS:=Z (show γ.size=A.size by rw[Dd,a8]);clear hA HB;go_wp2_with (first
  | (refine Lr 84 (δ 3) ag.o ϸ (by rw[a8];exact Ci) ?_)
  | (refine ë rfl 84 (δ 2) (δ 37) rfl _ A rfl rfl _ _ HR.o (by rw[a8];exact Ci) HS.o dy ?_))
 refine ω (v:=.agg A) (results_cell_row rfl _ _ _ _ _ _ _ rfl (Χ wr _ _ A 84 (0,0) HR.o) ϸ rfl (by rw[a8];exact Ci)) rfl ?_;have ea:=hE.setRow (g:=w.heap.size+1) (by omega) A;exact⟨A,rfl,λW hW=>by
  obtain⟨ey,ez,e3,he,_,ec,ed⟩:=hW;injection he with he
  injection he with he
  injection he with e0 he
  injection he with e1 he
  injection he with e2 he
  subst e1;subst e2
  exact⟨_,_,dz.o.symm,ec,ed⟩,ea⟩
theorem K8 (d:Dfa) (E:Val d) (v:Δ) (w0 w:Γ) (G:Ext w0 w) (H:Tab w) (T:0<w.heap.size) (h:IsD w0 v d):ϛ Η 34 #[v] w λe w'=>∃ A,e=Ψ (.agg A)/\IsT w0 A (Ai d)/\Ext w w':=
 (Po d E v w H T (h.ext G)).mono λ_ _ ⟨A,he,X,hE⟩=>⟨A,he,X w0 h,hE⟩
theorem Jc (d:Dfa) (G:Val d) (v:Δ) (w:Γ) (H:Tab w) (T:0<w.heap.size) (h:IsD w v d):ϛ Η 34 #[v] w λe w'=>∃ A,e=Ψ (.agg A)/\IsT w' A (Ai d)/\Ext w w':=
 (K8 d G v w w (Κ w) H T h).mono λ_ _ ⟨A,he,X,E⟩=>⟨A,he,X.ext E,E⟩
def uTo (p:Cls->Bool) (L:List Cls) (i:Nat):Cls:=(L.take i).foldl (λd c=>if p c then d ||| c else d) 0#256
theorem FG (p:Cls->Bool) (L:List Cls):uTo p L 0=0#256:=rfl
theorem FH (p:Cls->Bool) (L:List Cls) (i:Nat) (h:i<L.length):uTo p L (i+1)=if p (L.getD i 0#256) then uTo p L i ||| L.getD i 0#256 else uTo p L i:=by unfold uTo;rw[Õ h,List.foldl_append];simp[Ζ,h]
theorem Zw (p:Cls->Bool) (b:Nat):∀ (L:List Cls) (d:Cls),(L.foldl (λd c=>if p c then d ||| c else d) d).getLsbD b=(d.getLsbD b||L.any λc=>p c&&c.getLsbD b)
 | [],d=>by simp
 | c::L,d=>by
  rw[List.foldl_cons,Zw p b L,List.any_cons];cases E:p c
  ·simp
  rw[if_pos rfl,BitVec.getLsbD_or];simp[Bool.or_assoc]
theorem Up (p:Cls->Bool) (L:List Cls) (i b:Nat):(uTo p L i).getLsbD b=(L.take i).any λc=>p c&&c.getLsbD b:=by unfold uTo;rw[Zw];simp
theorem KT {l L:List Cls} (h:IsCells l L) (i:Nat) (hi:i<L.length):uTo (λ_=>Α) L i &&& L.getD i 0#256=0#256:=by apply BitVec.eq_of_getLsbD_eq;intro b hb;rw[BitVec.getLsbD_and,Up,û,<-Bool.not_eq_true];intro G;rw[Bool.and_eq_true,List.any_eq_true] at G;obtain⟨⟨c,hc,E⟩,hd⟩:=G;rw[Bool.true_and] at E;obtain⟨j,H,rfl⟩:=List.mem_iff_getElem.1 hc;rw[Ö] at H;rw[List.getElem_take] at E;rw[Ζ,Ι hi] at hd;exact (Ϫ.1 h.dis j i (by omega) hi (by omega)) b ⟨E,hd⟩
theorem KU {l L:List Cls} (h:IsCells l L):uTo (λ_=>Α) L L.length=allC:=by
 apply BitVec.eq_of_getLsbD_eq;intro b hb;rw[Up,List.take_length];have h1:allC.getLsbD b=Α:=by unfold allC;rw[BitVec.getLsbD_not,û];simp[hb]
 rw[h1,List.any_eq_true];obtain⟨c,hc,E⟩:=h.cover b hb;exact⟨c,hc,by simp[E]⟩
theorem On (x:Cls) (m:Bool) (h:(x==0#256)=m) (W:Γ):(Op.equalIn 10000 91 (.agg (Ab x)) (.agg zA)).run Η W=.ok m W:=by have:=Nd x 0#256 W;rw[encA_zero,h] at this;exact this
theorem Parts.pos {L:List Cls} (h:Parts L):0<L.length:=by obtain⟨c,hc,_⟩:=h.cov 0 (by omega);exact List.length_pos_of_mem hc
theorem Parts.le {L:List Cls} (h:Parts L):L.length<=256:=by
 have:=Jq (λb=>Am L b) 256 L.length λj E=>by obtain⟨b,hb,e⟩:=Mj h E;exact⟨b,hb,e⟩
 exact this
theorem MF : ~~~allC=0#256:=by decide
theorem Fp (d:Dfa) (E:Val d) (hn:d.n.length<=64) (v:Δ) (w:Γ) (h:IsD w v d) :
  ϛ Η 33 #[v] w λe w'=>e=Ψ (.bool Α)/\Ext w w':=by
 obtain⟨vc,vn,va,rfl,hC,⟨vs,cm,hN,bk⟩,hA⟩:=h;have bm:=E.parts.pos;have df:=E.parts.le;have cp:=E.pos;obtain⟨bc,oc,cc,rfl,hc⟩:=â hC bm;obtain⟨bn,on,cn,rfl,bo⟩:=â hN cp;obtain⟨aa,ca,rfl⟩:=Sl.len hA;rw[E.accL];have HC:=Z hc;have ct:=Z bo;have cu:=Z (λs (X:s<d.n.length)=>by obtain⟨b,aq,az,cv,cw⟩:=â (bk s X) (by rw[E.row s X];exact bm);exact (⟨b,aq,az,by rw[<-E.row s X];exact cv,λk hk=>by rw[cw k (by rw[E.row s X];omega)];rfl⟩:∃ b aq az,vs.getD s Ω=U (J ⟨b,aq,I⟩) d.cls.length az/\∀ k,k<d.cls.length->w.cell? ⟨b,aq+k,I⟩=J (iv (d.ent2 s k))))
 have cy:=Z E.tgt;have HP:=Z E.parts;clear hc bo hN hA hC bk cm E;have d1:decide ((d.n.length:Int)<1)=Ε:=by simp;omega
 have d2:decide ((64:Int)<(d.n.length:Int))=Ε:=by simp;omega
 have dn:((d.n.length:Int) != (d.n.length:Int))=Ε:=by simp
 have d3:decide ((d.cls.length:Int)<1)=Ε:=by simp;omega
 have d4:decide ((256:Int)<(d.cls.length:Int))=Ε:=by simp;omega
 have ar:=(Κ w).alloc (Β #[U (J ⟨bc,oc,I⟩) d.cls.length cc,U (J ⟨bn,on,I⟩) d.n.length cn,U aa d.n.length ca] 40);have H0:=Ad w (Β #[U (J ⟨bc,oc,I⟩) d.cls.length cc,U (J ⟨bn,on,I⟩) d.n.length cn,U aa d.n.length ca] 40);go_enter Tryz.func33,Tryz.ntmps33;go_upto_region 1 with (fail)
 obtain⟨w1,bp⟩:=Xq (w.alloc (Β #[U (J ⟨bc,oc,I⟩) d.cls.length cc,U (J ⟨bn,on,I⟩) d.n.length cn,U aa d.n.length ca] 40));simp only[bp] at *;clear bp;have HK:=Z (λ(W:Γ) (hW:Ext w1 W)=>(⟨(Τ W _ 0 _ _ _ (hW.heap H0)).trans rfl,(Τ W _ 1 _ _ _ (hW.heap H0)).trans rfl,(Τ W _ 2 _ _ _ (hW.heap H0)).trans rfl⟩:W.cell? ⟨w.heap.size,0,I⟩=J (U (J ⟨bc,oc,I⟩) d.cls.length cc)/\W.cell? ⟨w.heap.size,1,I⟩=J (U (J ⟨bn,on,I⟩) d.n.length cn)/\W.cell? ⟨w.heap.size,2,I⟩=J (U aa d.n.length ca)))
 clear H0;obtain⟨H,k1,T⟩:=HK.o w1 (Κ w1);go_upto_region 4 with (fail)
 clear H k1 T;go_upto_region 5 with (fail)
 have bq:=(Κ w1).alloc (Β zA 91);have cz:=Z (Ad w1 (Β zA 91));obtain⟨w2,bt⟩:=Xq (w1.alloc (Β zA 91));simp only[bt] at *;clear bt;obtain⟨H,k1,T⟩:=HK.o w2 bq;go_wp2_with (fail);clear H k1 T d1 d2 d3 d4;go_loopw [42] (λi W=>∃ k:Nat,k<=d.cls.length/\i=.int Φ k/\Ext w1 W/\W.heap[w1.heap.size]? = J (Β (Ab (uTo (λ_=>Α) d.cls k)) 91 (0,0)))
  (λi _=>d.cls.length-(intOf i).toNat)
 case atStart=>exact⟨0,by omega,rfl,bq,by rw[FG,encA_zero];exact cz.o⟩
 obtain⟨k,hk,rfl,hE,bu⟩:=hrel;have G:=Z bu;clear bu;by_cases ab:k<d.cls.length
 ·obtain⟨a0,a1,a2,a3⟩:=Kf (W:=wr) (λi hi=>(ar.t hE).cell (HC.o i hi)) k ab;have ba:=KT (Ob HP.o) k ab;have bb:=HP.o.nz (d.cls.getD k 0#256) (by rw[Ζ,Ι ab];exact ϣ ab);have bd:=FH (λ_=>Α) d.cls k ab;rw[if_pos rfl] at bd;have b4:=Z bd;clear bd;obtain⟨c,b5⟩:=Xq (d.cls.getD k 0#256);rw[b5] at a0 a1 a2 a3 ba bb b4;clear b5;generalize uTo (λ_=>Α) d.cls k=A at *;have f92:=λW=>Z (Za A c W)
  have f93:=λW=>Z (Uo A c W)
  have g1:=On c Ε (by simpa using bb);have g2:=On (A &&& c) Α (by rw[ba];rfl);have g3:=Ma;clear ba bb;generalize A &&& c=x at *;have dk:=Al G.o;go_upto_region 8 with (fail)
  obtain⟨wi,ay⟩:=Xq (wr.alloc (Β (Ab c) 91));simp only[ay];have b8:Ext wr wi:=ay▸(Κ wr).alloc _;have H6:=Z (show wi.heap[wr.heap.size]? = J (Β (Ab c) 91 (0,0)) from ay▸Ad wr _);have G:=Z (b8.heap G.o);clear ay a0 a1 a2 a3;obtain⟨x0,x1,x2,x3⟩:=Om H6.o;obtain⟨y0,y1,y2,y3⟩:=Om G.o;obtain⟨e0,b9⟩:=UD wi;rw[b9];clear b9;go_wp2_with (first
   | (go_at_call 62;with_reducible refine (f92 _).o.mono ?_;rintro e w' ⟨rfl,bf⟩;obtain⟨e',rfl⟩:=Z7 bf)
   | (go_at_call 63;with_reducible refine (f93 _).o.mono ?_;rintro e w' ⟨rfl,bf⟩;obtain⟨e',rfl⟩:=Z7 bf)
   | (refine Sr 91 (δ 4) (δ 58) rfl (e'.ext.heap G.o) Bg rfl (En _) ?_))
  go_roundw
  case rel=>exact⟨k+1,by omega,by go_num,((hE.t b8).trans e'.ext).setRow (Υ _) _,by rw[b4.o];exact Χ e'.W _ _ _ _ _ (e'.ext.heap G.o)⟩
  simp[intOf];omega
 obtain rfl:k=d.cls.length:=by omega
 rw[KU (Ob HP.o)] at G;have f94:=λW=>Z (Xi allC W)
 have g1:=On (~~~allC) Α (by rw[MF];rfl);have g3:=Ma;generalize ~~~allC=x at *;generalize allC=uA at *;go_wp2_with (first
  | (refine Lr 91 (δ 4) G.o ϋ Bg ?_)
  | (go_at_call 64;with_reducible refine (f94 _).o.mono ?_;rintro e w5 ⟨rfl,cb⟩;obtain⟨H,k1,T⟩:=HK.o w5 (hE.t cb)))
 clear H k1 T f94 g1 g3 G;have c6:=hE.t cb;go_loopw [67] (λi W=>∃ s:Nat,s<=d.n.length/\i=.int Φ s/\Ext w1 W) (λi _=>d.n.length-(intOf i).toNat)
 case atStart=>exact⟨0,by omega,rfl,c6⟩
 obtain⟨s,X,rfl,ae⟩:=hrel;by_cases cd:s<d.n.length
 ·have cs:=(ar.t ae).cell (ct.o s (by omega));obtain⟨br,or',cr,cf,cg⟩:=cu.o s cd;rw[cf] at cs;have c7:=Z (λk hk=>(ar.t ae).cell (cg k hk));have HT:=Z (cy.o s cd);have dm:((d.cls.length:Int) != (d.cls.length:Int))=Ε:=by simp
  have ds:decide ((s:Int)<(d.n.length:Int))=Α:=by simp;omega
  obtain⟨H,k1,T⟩:=HK.o wr ae;clear cf cg;obtain⟨wo,da⟩:∃ W,W=wr:=⟨_,rfl⟩;subst da;go_wp2_with (fail);clear H k1 T cs dm ds;go_loopw [79] (λi W=>∃ j:Nat,j<=d.cls.length/\i=.int Φ j/\Ext wo W) (λi _=>d.cls.length-(intOf i).toNat)
  case atStart=>exact⟨0,by omega,rfl,Κ wo⟩
  obtain⟨j,hj,rfl,bg⟩:=hrel;by_cases cl:j<d.cls.length
  ·have cj:=bg.cell (c7.o j cl);have ht:=HT.o j cl;generalize d.ent2 s j=t at *;have e1:decide ((t:Int)<0)=Ε:=by simp
   have e2:decide ((d.n.length:Int)<=(t:Int))=Ε:=by simp;omega
   go_wp2;go_roundw
   case rel=>exact⟨j+1,by omega,by go_num,bg⟩
   simp[intOf];omega
  obtain rfl:j=d.cls.length:=by omega
  have db:=ae.t bg;go_wp2;go_roundw
  case rel=>exact⟨s+1,by omega,by go_num,db⟩
  simp[intOf];omega
 obtain rfl:s=d.n.length:=by omega
 go_wp2;go_ret;exact⟨rfl,ar.t ae⟩
structure BInv (t:Tbl) (l:List Nat) (k q:Nat):Prop where
 pos:0<l.length
 head:l.getD 0 0=0
 nodup:l.Nodup
 lt:∀ s∈l,s<t.n.length
 all:∀ s∈l,∃ w,t.run 0 w=s
 done:∀ j,j<k->∀ c,c<t.cells->t.ent2 (l.getD j 0) c∈l
 cur:∀ c,c<q->t.ent2 (l.getD k 0) c∈l
theorem Dm {α:Type} (l:List α) (k:Nat) (d:α) (h:k<l.length):l.getD k d∈l:=by rw[Ζ,Ι h];exact ϣ h
theorem CO {t:Tbl} (G:TVal t):BInv t [0] 0 0 where
 pos:=by simp
 head:=rfl
 nodup:=by simp
 lt:=λs E=>by rw[ϙ] at E;subst E;exact G.pos
 all:=λs E=>by rw[ϙ] at E;subst E;exact⟨[],rfl⟩
 done:=λj H=>by omega
 cur:=λc hc=>by omega
theorem CP {t:Tbl} {l:List Nat} {k q:Nat} (h:BInv t l k q) (hm:t.ent2 (l.getD k 0) q∈l):BInv t l k (q+1):=
 ⟨h.pos,h.head,h.nodup,h.lt,h.all,h.done,λc hc=>by
  by_cases e:c=q
  ·subst e;exact hm
  exact h.cur c (by omega)⟩
theorem CR {t:Tbl} (H:TVal t) {l:List Nat} {k q:Nat} (h:BInv t l k q) (T:k<l.length) (X:q<t.cells) (hm:t.ent2 (l.getD k 0) q∉l):BInv t (l++[t.ent2 (l.getD k 0) q]) k (q+1):=by
 have hs:=Dm l k 0 T;have hg:∀ j,j<l.length->(l++[t.ent2 (l.getD k 0) q]).getD j 0=l.getD j 0:=λj G=>Ca _ _ _ _ G
 refine⟨by simp,by rw[hg 0 h.pos];exact h.head,?_,λs E=>?_,λs E=>?_,λj G c hc=>?_,λc hc=>?_⟩
 ·rw[List.nodup_append];exact⟨h.nodup,by simp,λa ha b hb=>by rw[ϙ] at hb;subst hb;rintro rfl;exact hm ha⟩
 ·rw[Ê,ϙ] at E;rcases E with E|rfl
  ·exact h.lt s E
  exact H.tgt _ (h.lt _ hs) q X
 ·rw[Ê,ϙ] at E;rcases E with E|rfl
  ·exact h.all s E
  obtain⟨w,hw⟩:=h.all _ hs;obtain⟨b,hb,ae⟩:=H.onto q X;refine⟨w++[ώ b],?_⟩;rw[Gf,hw,u8n b hb];unfold Tbl.stp;rw[ae]
 ·have af:j<l.length:=by omega
  rw[hg j af,Ê];exact .inl (h.done j G c hc)
 rw[hg k T,Ê,ϙ];by_cases e:c=q
 ·subst e;exact .inr rfl
 exact .inl (h.cur c (by omega))
theorem CQ {t:Tbl} {l:List Nat} {k:Nat} (h:BInv t l k t.cells):BInv t l (k+1) 0:=
 ⟨h.pos,h.head,h.nodup,h.lt,h.all,λj E c hc=>by
  by_cases e:j=k
  ·subst e;exact h.cur c hc
  exact h.done j (by omega) c hc,λc hc=>by omega⟩
theorem CS {t:Tbl} {l:List Nat} (h:BInv t l l.length 0):Reached t l where
 head:=h.head
 ne:=h.pos
 nodup:=h.nodup
 lt:=h.lt
 closed:=λs E k G=>by obtain⟨j,H,rfl⟩:=Ls (d:=0) E;exact h.done j H k G
 all:=h.all
theorem BInv.le {t:Tbl} {l:List Nat} {k q:Nat} (h:BInv t l k q):l.length<=t.n.length:=by
 have:=D8 l (π t.n.length) h.nodup λs E=>ϔ.2 (h.lt s E)
 simpa using this
def Ei (n:Nat) (l:List Nat):List Bool:=(π n).map λs=>decide (s∈l)
theorem Hc (n:Nat) (l:List Nat):(Ei n l).length=n:=by simp[Ei]
theorem Vr (n:Nat) (l:List Nat) (s:Nat) (h:s<n):(Ei n l).getD s Ε=decide (s∈l):=by simp[Ei,Ζ,h]
theorem Vq (n:Nat):Ei n []=θ n Ε:=by unfold Ei;rw[List.eq_replicate_iff];exact⟨by simp,λx hx=>by obtain⟨b,_,rfl⟩:=ϴ.1 hx;simp⟩
theorem Na (n:Nat) (l:List Nat) (s:Nat):(Ei n l).set s Α=Ei n (l++[s]):=by
 unfold Ei;apply Ϯ;intro i;rw[Ú];by_cases hi:i<n
 ·by_cases e:s=i
  ·subst e;simp[hi]
  simp[hi,e,Ne.symm e]
 by_cases e:s=i
 ·subst e;simp[hi]
 simp[hi,e]
def RowsAt (W:Γ) (G H n m:Nat) (f:Nat->Nat->Nat):Prop:=
 ∀ s,s<n->∃ b E T,W.cell? ⟨G,H+s,I⟩=J (U (J ⟨b,E,I⟩) m T)/\∀ k,k<m->W.cell? ⟨b,E+k,I⟩=J (iv (f s k))
theorem RowsAt.ext {W W':Γ} {E G n m:Nat} {f:Nat->Nat->Nat} (h:RowsAt W E G n m f) (H:Ext W W'):RowsAt W' E G n m f:=λs T=>by obtain⟨b,X,aa,h1,h2⟩:=h s T;exact⟨b,X,aa,H.cell h1,λk hk=>H.cell (h2 k hk)⟩
theorem Lh {W:Γ} {v:Δ} {N:List (List Nat)} (h:Rows W v N) (m:Nat) (h0:0<N.length) (hm:0<m) (T:∀ s,s<N.length->(N.getD s []).length=m) :
  ∃ E G X,v=U (J ⟨E,G,I⟩) N.length X/\RowsAt W E G N.length m (λs k=>(N.getD s []).getD k 0):=by
 obtain⟨vs,_,hN,ab⟩:=h;obtain⟨E,G,X,rfl,ad⟩:=â hN h0;refine⟨E,G,X,rfl,λs H=>?_⟩;obtain⟨b,ae,af,ag,ah⟩:=â (ab s H) (by rw[T s H];exact hm);refine⟨b,ae,af,?_,λk hk=>ah k (by rw[T s H];omega)⟩;rw[ad s (by omega),ag,T s H]
theorem O4 {W:Γ} {v:Δ} {l:List Bool} (h:Bools W v l) (h0:0<l.length):∃ E G H,v=U (J ⟨E,G,I⟩) l.length H/\∀ s,s<l.length->W.cell? ⟨E,G+s,I⟩=J (.bool (l.getD s Ε)):=by obtain⟨b,o,c,rfl,hc⟩:=â h h0;exact⟨b,o,c,rfl,λs T=>hc s (by omega)⟩
theorem TVal.cpos {t:Tbl} (E:TVal t):0<t.cells:=by have:=E.cell_lt 0 (by omega);omega
theorem TVal.cle {t:Tbl} (E:TVal t):t.cells<=256:=Jq t.cell 256 t.cells E.onto
theorem IsT.opened {W:Γ} {A:Array Δ} {t:Tbl} (h:IsT W A t) (E:TVal t):∃ G H cn T X ca,A.size=259/\A.all (·.oneCell')=Α/\(∀ b,b<256->A[b]? = J (iv (t.cell b)))/\A[256]? = J (iv t.cells)/\
  A[257]? = J (U (J ⟨G,H,I⟩) t.n.length cn)/\A[258]? = J (U (J ⟨T,X,I⟩) t.n.length ca)/\RowsAt W G H t.n.length t.cells t.ent2/\∀ s,s<t.n.length->W.cell? ⟨T,X+s,I⟩=J (.bool (t.ok s)):=by
 obtain⟨vn,va,rfl,hN,hA⟩:=h;obtain⟨G,H,cn,rfl,hr⟩:=Lh hN t.cells E.pos E.cpos E.row;obtain⟨T,X,ca,rfl,ha⟩:=O4 hA (by rw[E.accL];exact E.pos);refine⟨G,H,cn,T,X,ca,Ex _ _ _ _,Ic _ _ _ _ rfl rfl,λb hb=>Pn _ _ _ _ b hb,FO _ _ _ _,K7 _ _ _ _,by rw[Ie,E.accL],hr,λs hs=>ha s (by rw[E.accL];exact hs)⟩
abbrev OwnI (W:Γ) (base:Nat) (v:Δ) (l:List Nat):Prop:=W.ownsRow base 3 1 v l.length (l.map iv)
abbrev OwnB (W:Γ) (base:Nat) (v:Δ) (l:List Bool):Prop:=W.ownsRow base 4 1 v l.length (l.map Δ.bool)
theorem Au {α:Type} {W:Γ} {base e g n E:Nat} {l:List α} {f:α->Δ} (d:α) (h:W.ownsRow base e 1 (U (J ⟨g,0,I⟩) n E) n (l.map f)) (G:n=l.length) (k:Nat) (H:k<l.length) :
  W.cell? ⟨g,k,I⟩=J (f (l.getD k d)):=by
 subst G;rw[ϥ.cellAt h k (by omega)];simp[Ζ,H]
theorem Ba {α:Type} {W:Γ} {base e g n E:Nat} {l:List α} {f:α->Δ} (h:W.ownsRow base e 1 (U (J ⟨g,0,I⟩) n E) n (l.map f)) (k:Nat) (x:α) :
  (W.setCell ⟨g,k,I⟩ (f x)).ownsRow base e 1 (U (J ⟨g,0,I⟩) n E) n ((l.set k x).map f)/\W.grownBy (W.setCell ⟨g,k,I⟩ (f x)) (J g):=by
 have:=h.stored k (f x);rw[List.map_set];exact this
theorem OwnI.ints {W:Γ} {base:Nat} {v:Δ} {l:List Nat} (h:OwnI W base v l) (E:l.length<=4611686018427387904):Ints W v l:=
 (Sl.of_owns h E (iv 0)).congr λi hi=>by simp only[Ζ,ν];cases l[i]?<;>rfl
theorem OwnB.bools {W:Γ} {base:Nat} {v:Δ} {l:List Bool} (h:OwnB W base v l) (E:l.length<=4611686018427387904):Bools W v l:=
 (Sl.of_owns h E (.bool Ε)).congr λi hi=>by simp only[Ζ,ν];cases l[i]?<;>rfl
theorem Dw:(Η.info? 3).map (λi=>(i.zero,i.size,i.bytes))=J (J (.int Φ 0),1,8):=by kernel_rfl
theorem Fi:(Η.info? 4).map (λi=>(i.zero,i.size,i.bytes))=J (J (.bool Ε),1,1):=by kernel_rfl
theorem B8 {α:Type} (f:α->Δ) (x:α) (n:Nat):(madeCells #[f x] (n*1)).toList=(θ n x).map f:=by rw[Nat.mul_one,toList_madeCells_one,List.map_replicate]
open Go.Maps (Keyed)
def IsMp {κ:Type} (W:Γ) (k:ϡ) (key:κ->Δ) (b n:Nat) (f:κ->Option Nat):Prop:=
 ∃ D:DataW Unit,W.ownsMap Η k (plainElem Η 3) b n D/\∀ x l,keyOf Η k (key x)=J l->Maps.has D l=(f x).isSome/\D.atKey l (.lit (.int Φ 0))=.lit (.int Φ ((f x).getD 0:Nat))
section
variable {κ:Type} {W:World} {k:TypeId} {key:κ->Value} {b n:Nat} {f:κ->Option Nat}
theorem It (W:Γ) (k:ϡ) (key:κ->Δ):IsMp (W.alloc (.map #[] 0)) k key W.heap.size 0 (λ_=>I):=
 ⟨.map [],Γ.ownsMap_made W _ _ _,λ_ _ _=>⟨rfl,rfl⟩⟩
theorem IsMp.kept {W':Γ} {row:Option Nat} (h:IsMp W k key b n f) (hg:W.grownBy W' row) (E:J b≠row):IsMp W' k key b n f:=by obtain⟨D,h1,G⟩:=h;exact⟨D,h1.kept hg E,G⟩
theorem IsMp.ext {W':Γ} (h:IsMp W k key b n f) (E:Ext W W'):IsMp W' k key b n f:=h.kept (E.grownBy I) (by simp)
theorem IsMp.alloc (h:IsMp W k key b n f) (o:Obj):IsMp (W.alloc o) k key b n f:=by obtain⟨D,h1,E⟩:=h;exact⟨D,h1.alloc o,E⟩
theorem IsMp.lt (h:IsMp W k key b n f):b<W.heap.size:=by obtain⟨D,h1,_⟩:=h;exact h1.lt
theorem IsMp.ne_row {base e size:Nat} {v:Δ} {m:Nat} {xs:List Δ} (h:IsMp W k key b n f) (E:W.ownsRow base e size v m xs):J b≠v.ownBlock:=by
 obtain⟨_,⟨es,G,hb,_⟩,_⟩:=h;obtain⟨H,⟨rfl,rfl⟩|⟨g,T,cur,rfl,_,hg,_⟩⟩:=E
 ·simp[Δ.ownBlock]
 intro e;simp only[Δ.ownBlock,Option.some.injEq] at e;rw[e,hg] at hb;cases hb
theorem A3 {W:Γ} {base e size:Nat} {v:Δ} {m:Nat} {xs:List Δ} (E:W.ownsRow base e size v m xs) {g:Nat} (hg:g<base):v.ownBlock=I\/v.ownBlock≠J g:=
 .inr λe=>by have:=(E.lt _ e).1;omega
theorem IsMp.far {base e size:Nat} {v:Δ} {m:Nat} {xs:List Δ} (h:IsMp W k key b n f) (E:W.ownsRow base e size v m xs):v.ownBlock=I\/v.ownBlock≠J b:=.inr (λe=>h.ne_row E e.symm)
theorem Bz {W W':Γ} {base e size:Nat} {v:Δ} {m:Nat} {xs:List Δ} (E:W.ownsRow base e size v m xs) (hg:W.grownBy W' I):W'.ownsRow base e size v m xs:=E.kept hg (by cases v.ownBlock<;>simp)
theorem DW (W:Γ):(zeroValue 3).run Η W=.ok (.int Φ 0) W:=by kernel_rfl
end
section
variable {κ:Type} {W:World} {k:TypeId} {key:κ->Value} {b n:Nat} {f:κ->Option Nat} {ops:Array Oper} {rest:List Oper} {o:Oper} {a:Act} {Q:Exit->Act->World->Prop}
theorem D0 (hg:o.guard=I) (m x:Ñ) (t:ϡ) (G:o.op=Op.lookup t m x Α) (K:Keyed Η k) (H:Η.underlying t=J (.map k 3)) (hm:a.eval m=.map (J b)) (h:IsMp W k key b n f)
  (y:κ) (hx:a.eval x=key y) (E:∃ l,keyOf Η k (key y)=J l) (hK:wpList Η ops Q rest (a.put o.dst (ϗ #[iv ((f y).getD 0),.bool (f y).isSome])) W):wpList Η ops Q (o::rest) a W:=by
 obtain⟨D,h1,T⟩:=h;obtain⟨l,E⟩:=E;obtain⟨X,e2⟩:=T y l E;refine wpList_lookup_own_ok_int W hg m x t G k 3 Φ K H Tryz.underlying3 (DW W) b n D hm h1 (key y) l hx E ?_;intro c hc _;rw[e2] at hc;rw[X];injection hc with hc
 injection hc with _ hc
 rw[<-hc];exact hK
theorem G0 [DecidableEq κ] (hg:o.guard=I) (m x v:Ñ) (t:ϡ) (T:o.op=Op.mapUpdate t m x v) (K:Keyed Η k) (X:Η.underlying t=J (.map k 3)) (hm:a.eval m=.map (J b)) (h:IsMp W k key b n f) (hn:n<ϐ)
  (ab:∀ y z,key y=key z->y=z) (y:κ) (hx:a.eval x=key y) (E:∃ l,keyOf Η k (key y)=J l) (i:Nat) (hv:a.eval v=iv i) (hi:i<9223372036854775808)
  (hK:∀ W',IsMp W' k key b (n+1) (λz=>if z=y then J i else f z)->W.grownBy W' (J b)->wpList Η ops Q rest (a.put o.dst Ω) W'):wpList Η ops Q (o::rest) a W:=by
 obtain⟨D,h1,h2⟩:=h;obtain⟨l,E⟩:=E;have af:(Lit.int Φ (i:Int)).wf=Α:=by have e1:Ü.min=-9223372036854775808:=rfl;simp[Lit.wf,IntKind.wrap,IntKind.signed,IntKind.bits,e1];omega
 refine wpList_mapUpdate_own W hg m x v t T k 3 K X (plainElem Η 3) b n D hm h1 hn (key y) (iv i) l hx hv E (.lit (.int Φ i)) [] (plainElem_int Tryz.underlying3 af) ?_;intro W' hW ai;refine hK W' ⟨_,hW,λz lz G=>?_⟩ ai;by_cases e:z=y
 ·subst e;rw[E] at G;cases G
  simp only[if_true];exact⟨Maps.has_put_same h1.isMap (K.key E) _,Maps.atKey_put_same h1.isMap (K.key E) _ _⟩
 have H:lz≠l:=λe'=>e (ab _ _ (K.inj G (e'▸E)))
 simp only[e,if_false];rw[Maps.has_put_other H,Maps.atKey_put_other H];exact h2 z lz G
end
open Go.RowKit Go.Shelf Go.WideMaps
theorem N9:laidOutB Η=Α:=by kernel_rfl
theorem YL:ArrKey Η 158 3 2:=⟨Tryz.underlying158,by kernel_rfl,by kernel_rfl,by kernel_rfl⟩
theorem IJ:∃ m,Η.types.size=m+1:=⟨_,(Nat.succ_pred_eq_of_pos (of_decide_eq_true (by kernel_rfl))).symm⟩
theorem J1:Keyed Η 158:=Keyed.of_law (deep_law_laid N9 (m:=2) (by omega) (of_decide_eq_true (by kernel_rfl)) (by kernel_rfl) (by rw[Tryz.underlying158]))
def C6 (x:Nat × Nat):Δ:=.agg #[iv x.1,iv x.2]
theorem Qn (x y:Nat × Nat) (h:C6 x=C6 y):x=y:=by simp[C6] at h;exact Prod.ext (by omega) (by omega)
theorem M2 (i:Nat) (hi:i<9223372036854775808):(Lit.int Φ (i:Int)).wf=Α:=by have E:Ü.min=-9223372036854775808:=rfl;simp[Lit.wf,IntKind.wrap,IntKind.signed,IntKind.bits,E];omega
theorem Wy (x:Nat × Nat) (h1:x.1<9223372036854775808) (E:x.2<9223372036854775808):∃ l,keyOf Η 158 (C6 x)=J l:=
 ⟨_,keyOf_pair YL Tryz.underlying3 IJ (M2 _ h1) (M2 _ E)⟩
theorem Gn:Keyed Η 9:=Go.Maps.string_keyed Tryz.underlying9
structure JInv (a b:Nat->Nat) (x:Nat) (c:Nat->Nat) (bs:List Nat) (f:Nat × Nat->Option Nat):Prop where
 le:bs.length<=x
 lt:∀ y,y<x->c y<bs.length
 byte:∀ k,k<bs.length->bs.getD k 0<x/\c (bs.getD k 0)=k
 same:∀ y z,y<x->z<x->(c y=c z↔a y=a z/\b y=b z)
 has:∀ y,y<x->f (a y,b y)=J (c y)
 from_:∀ p i,f p=J i->∃ y,y<x/\p=(a y,b y)/\i=c y
theorem Yy (a b:Nat->Nat):JInv a b 0 (λ_=>0) [] (λ_=>I) where
 le:=by simp
 lt:=λy E=>by omega
 byte:=λk G=>by simp at G
 same:=λy z E=>by omega
 has:=λy E=>by omega
 from_:=λp i h=>by simp at h
theorem Yz {a b:Nat->Nat} {x:Nat} {c:Nat->Nat} {bs:List Nat} {f:Nat × Nat->Option Nat} (h:JInv a b x c bs f) (i:Nat) (hi:f (a x,b x)=J i):JInv a b (x+1) (λy=>if y=x then i else c y) bs f:=by
 obtain⟨z,H,E,rfl⟩:=h.from_ _ _ hi;simp only[Prod.mk.injEq] at E;refine⟨by have:=h.le;omega,λy T=>?_,λk hk=>?_,λy X T ad=>?_,λy T=>?_,λp i E=>?_⟩
 ·split
  ·exact h.lt z H
  exact h.lt y (by omega)
 ·obtain⟨h1,h2⟩:=h.byte k hk;rw[if_neg (by omega)];exact⟨by omega,h2⟩
 ·by_cases e:y=x<;>by_cases G:X=x
  ·subst e;subst G;simp
  ·subst e;rw[if_pos rfl,if_neg G,h.same z X H (by omega),E.1,E.2]
  ·subst G;rw[if_neg e,if_pos rfl,h.same y z (by omega) H,E.1,E.2]
  rw[if_neg e,if_neg G];exact h.same y X (by omega) (by omega)
 ·by_cases e:y=x
  ·subst e;rw[if_pos rfl];exact hi
  rw[if_neg e];exact h.has y (by omega)
 obtain⟨y,T,h1,h2⟩:=h.from_ p i E;exact⟨y,by omega,h1,by rw[if_neg (by omega)];exact h2⟩
theorem Y2 {a b:Nat->Nat} {x:Nat} {c:Nat->Nat} {bs:List Nat} {f:Nat × Nat->Option Nat} (h:JInv a b x c bs f) (hi:f (a x,b x)=I) :
  JInv a b (x+1) (λy=>if y=x then bs.length else c y) (bs++[x]) (λp=>if p=(a x,b x) then J bs.length else f p):=by
 have aa:∀ y,y<x->¬ (a y=a x/\b y=b x):=λy G he=>by have:=h.has y G;rw[he.1,he.2,hi] at this;cases this
 have hl:(bs++[x]).length=bs.length+1:=by simp
 refine⟨by have:=h.le;omega,λy G=>?_,λk hk=>?_,λy H G af=>?_,λy G=>?_,λp i T=>?_⟩
 ·rw[hl];split
  ·omega
  have:=h.lt y (by omega);omega
 ·rw[hl] at hk;by_cases e:k=bs.length
  ·subst e;have:(bs++[x]).getD bs.length 0=x:=by simp[Ζ]
   rw[this,if_pos rfl];exact⟨by omega,rfl⟩
  have ad:k<bs.length:=by omega
  obtain⟨h1,E⟩:=h.byte k ad;rw[Ca _ _ _ _ ad,if_neg (by omega)];exact⟨by omega,E⟩
 ·by_cases e:y=x<;>by_cases X:H=x
  ·subst e;subst X;simp
  ·subst e;have h1:=h.lt H (by omega);rw[if_pos rfl,if_neg X];exact⟨λE=>by omega,λE=>absurd ⟨E.1.symm,E.2.symm⟩ (aa H (by omega))⟩
  ·subst X;have h1:=h.lt y (by omega);rw[if_neg e,if_pos rfl];exact⟨λE=>by omega,λE=>absurd E (aa y (by omega))⟩
  rw[if_neg e,if_neg X];exact h.same y H (by omega) (by omega)
 ·by_cases e:y=x
  ·subst e;simp
  have h1:=aa y (by omega);rw[if_neg e,if_neg (by simpa using h1)];exact h.has y (by omega)
 by_cases e:p=(a x,b x)
 ·simp only[e,if_true] at T;cases T
  exact⟨x,by omega,e,by rw[if_pos rfl]⟩
 simp only[e,if_false] at T;obtain⟨y,G,h1,E⟩:=h.from_ p i T;exact⟨y,by omega,h1,by rw[if_neg (by omega)];exact E⟩
theorem Y3 {a b c:Nat->Nat} {bs:List Nat} {f:Nat × Nat->Option Nat} (h:JInv a b 256 c bs f):Joint a b c bs:=
 ⟨h.lt,h.byte,h.same⟩
def B0 (c:Nat->Nat):Array Δ:=((π 256).map (λb=>iv (c b))).toArray
theorem Kv:Ϣ=B0 (λ_=>0):=by kernel_rfl
theorem E7 (c:Nat->Nat):(B0 c).size=256:=by simp[B0]
theorem BN (c:Nat->Nat) (b:Nat) (hb:b<256):(B0 c)[b]? = J (iv (c b)):=by simp[B0,hb]
theorem BM (c:Nat->Nat) (b x:Nat) (hb:b<256):(B0 c).setIfInBounds b (iv x)=B0 (λy=>if y=b then x else c y):=by
 apply Array.ext';rw[Array.toList_setIfInBounds];unfold B0;simp only;apply Ϯ;intro i;rw[Ú];by_cases hi:i<256
 ·by_cases e:b=i
  ·subst e;simp[hb]
  simp[hi,e,Ne.symm e]
 have:b≠i:=by omega
 rw[if_neg this];simp[hi]
theorem Oy (c:Nat->Nat):(B0 c).all (·.oneCell')=Α:=by rw[Array.all_eq_true_iff_forall_mem];intro x hx;simp only[B0,List.mem_toArray,ϴ] at hx;obtain⟨b,_,rfl⟩:=hx;rfl
theorem L5:(Η.info? 82).map (·.size)=J 256:=by kernel_rfl
theorem J2:(Η.info? 158).map (·.size)=J 2:=by kernel_rfl
theorem Bi {P:Þ} {fn:Func} {p u:Tmp} {ty:ϡ} (h:fn.results=#[.cell p ty,.tmp u]) (E:Array Δ) (w:Γ) (g:Nat) (t:ϡ) (cs:Array Δ) (fr:Nat × Nat) (d:TypeDesc)
  (G:E.getD p Ω=ε (J ⟨g,0,I⟩)) (v:Δ) (H:E.getD u Ω=v) (hg:w.heap[g]? = J (Β cs t fr))
  (hu:P.underlying ty=J d) (hd:(match d with|.struct _|.array _ _=>Α|_=>Ε)=Α) (hi:(P.info? ty).map (·.size)=J cs.size) :
  (results fn E).run P w=.ok (ϗ #[.agg cs,v]) w:=by
 rw[results_cell_tmp h,G,H];simp[asAddr,run_loadVar_row w g t ty cs fr d hg hu hd hi,Result.andThen]
theorem Rk (t u:Tbl) (ht:TVal t) (hu:TVal u) (A B:Array Δ) (w:Γ) (hA:IsT w A t) (hB:IsT w B u) :
  ϛ Η 42 #[.agg A,.agg B] w λe w'=>∃ c bs v,e=Ψ (ϗ #[.agg (B0 c),v])/\Joint t.cell u.cell c bs/\Ints w' v bs/\Ext w w':=by
 obtain⟨_,_,_,_,_,_,b9,cc,bj,_⟩:=hA.opened ht;obtain⟨_,_,_,_,_,_,cd,cf,bk,_⟩:=hB.opened hu;clear hA hB;obtain⟨i0,hi,cj,ck,cl⟩:=ϓ Dw;have cm:=@run_makeMap Η;have cn:=((Κ w).alloc (Β A 84)).alloc (Β B 84);have H0:=Ah (Ad w (Β A 84)) (Β B 84);have H1:=ϒ w (Β A 84) (Β B 84);go_enter Tryz.func42,Tryz.ntmps42;go_upto_region 3 with (fail)
 obtain⟨w0,a7⟩:=Xq ((w.alloc (Β A 84)).alloc (Β B 84));have a8:w0.heap.size=w.heap.size+1+1:=by rw[<-a7,Ρ,Ρ]
 simp only[a7] at *;clear a7;have cq:=Z (λ(W:Γ) (hW:Ext w0 W) (b:Nat) (hb:b<256)=>(Τ W w.heap.size b _ _ _ (hW.heap H0)).trans (bj b hb));have ct:=Z (λ(W:Γ) (hW:Ext w0 W) (b:Nat) (hb:b<256)=>(Τ W (w.heap.size+1) b _ _ _ (hW.heap H1)).trans (bk b hb));have cu:=Z (λ(b:Nat) (hb:b<256)=>And.intro (Ξ (ht.cell_lt b hb) ht.cle) (Ξ (hu.cell_lt b hb) hu.cle));clear H0 H1 b9 cc bj cd cf bk ht hu;go_upto_region 4 with (fail)
 clear cm;have R2:=Ah (Ah (Ad w0 (Β Ϣ 82)) (Β Ϣ 82)) (.map #[] 0);have R3:=Ah (ϒ w0 (Β Ϣ 82) (Β Ϣ 82)) (.map #[] 0);have T:=It ((w0.alloc (Β Ϣ 82)).alloc (Β Ϣ 82)) 158 C6;have cv:=(((Κ w0).alloc (Β Ϣ 82)).alloc (Β Ϣ 82)).alloc (.map #[] 0);have dk:(((w0.alloc (Β Ϣ 82)).alloc (Β Ϣ 82)).alloc (.map #[] 0)).heap.size=w.heap.size+1+1+1+1+1:=by rw[Ρ,Ρ,Ρ,a8]
 rw[Ρ,Ρ,a8] at T;rw[a8] at R2 R3;obtain⟨w1,bn⟩:=Xq (((w0.alloc (Β Ϣ 82)).alloc (Β Ϣ 82)).alloc (.map #[] 0));simp only[bn] at *;clear bn;have H:=À w1 w1.heap.size 3 1;have R2:=Z R2;have R3:ϟ (w1.heap[w.heap.size+1+1+1]? = J (Β (B0 λ_=>0) 82 (0,0))):=Z (by rw[R3,Kv]);go_wp2_with (fail);go_loopw [7,14] (λv i W=>∃ (x:Nat) (bs:List Nat) (a:Option Addr) (cp:Nat) (c:Nat->Nat) (f:Nat × Nat->Option Nat),x<=256/\i=.int Φ x/\v=U a bs.length cp/\Ext w0 W/\w1.heap.size<=W.heap.size/\OwnI W w1.heap.size v bs/\IsMp W 158 C6 (w.heap.size+1+1+1+1) bs.length f/\W.heap[w.heap.size+1+1]? = J (Β Ϣ 82 (0,0))/\W.heap[w.heap.size+1+1+1]? = J (Β (B0 c) 82 (0,0))/\ϟ (JInv t.cell u.cell x c bs f))
  (λ_ i _=>256-(intOf i).toNat)
 case atStart=>exact⟨0,[],I,0,_,_,by omega,rfl,rfl,cv,Υ _,H,T,R2.o,R3.o,Z (Yy _ _)⟩
 obtain⟨x,bs,a,cp,c,f,hx,rfl,rfl,hE,bo,H,T,bp,bq,HJ⟩:=hrel;have dm:=HJ.o.le;have G:=Z bp;have E:=Z bq;clear bp bq;by_cases ae:x<256
 ·have dn:(x:Int)<256:=by omega
  have ka:=cq.o wr hE x ae;have kb:=ct.o wr hE x ae;obtain⟨ha,hb⟩:=cu.o x ae;have bb:=Wy (t.cell x,u.cell x) (by show t.cell x<_;omega) (by show u.cell x<_;omega);generalize bu:t.cell x=X at *;generalize bw:u.cell x=cb at *;have bc:=Z bu;have bd:=Z bw;clear bu bw;go_upto_region 7 with (fail)
  have na:=Γ.new_ne wr _ ka;have nb:=Γ.new_ne wr _ kb;go_region_held (λW=>W.cell? ⟨w.heap.size,x,I⟩=J (iv X)/\W.cell? ⟨w.heap.size+1,x,I⟩=J (iv cb)) (go_keep) (fail)
  have e5:Ext wr (wr.alloc (Β #[iv X,iv cb] 158)).drew:=((Κ wr).alloc _).drew;have K5:ϟ ((wr.alloc (Β #[iv X,iv cb] 158)).drew.heap[wr.heap.size]? = J (Β #[iv X,iv cb] 158 (0,0))):=Z (Ad wr _);obtain⟨w5,bz⟩:=Xq ((wr.alloc (Β #[iv X,iv cb] 158)).drew);simp only[bz] at *;clear bz ka kb na nb;rename_i cz
  clear cz;have b0:=hE.t e5;have b4:=μ bo e5.size;have H:=Aa H e5;have T:=T.ext e5;have G:=Z (e5.heap G.o);have E:=Z (e5.heap E.o);have dq:w1.heap.size<=wr.heap.size:=bo;cases hf:f (X,cb) with
  | some i=>
   have c4:=HJ.o;have HN:=Z (Yz HJ.o i (by rw[bc.o,bd.o];exact hf));have dr:i<bs.length:=by obtain⟨z,hz,_,rfl⟩:=HJ.o.from_ _ _ hf;exact HJ.o.lt z hz
   clear c4;have c3:=(Τ w5 (w.heap.size+1+1+1) x _ _ _ E.o).trans (BN c x ae);have f3:=È w5 (w.heap.size+1+1+1) x _ _ E.o;go_wp2_with (first
    | (refine Lr 158 (δ 10) K5.o Tryz.underlying158 J2 ?_)
    | (at_lookup;refine D0 rfl _ _ 157 rfl J1 Tryz.underlying157 rfl T (X,cb) rfl bb ?_;rw[hf];dsimp only [ñ,Option.getD]))
   go_roundw
   case rel=>rw[Ϭ w5 _ _ _ _ _ _ E.o,BM _ _ _ ae];have ag:=Cc w5 (w.heap.size+1+1+1) (B0 λy=>if y=x then i else c y);refine⟨x+1,bs,a,cp,_,f,by omega,by go_num,rfl,b0.setRow (by omega) _,by rw[size_setRow];exact b4,H.kept ag (A3 H (by omega)),T.kept ag (by simp),Bm G.o (by omega) _,Χ w5 _ _ _ _ _ E.o,HN⟩
   case measure=>simp[intOf];omega
  | none=>
   have HN:=Y2 HJ.o (by rw[bc.o,bd.o];exact hf);rw[bc.o,bd.o] at HN;have HN:=Z HN;have c8:=K5;go_upto_region 11 with (first
    | (refine Lr 158 (δ 10) K5.o Tryz.underlying158 J2 ?_)
    | (at_lookup;refine D0 rfl _ _ 157 rfl J1 Tryz.underlying157 rfl T (X,cb) rfl bb ?_;rw[hf];dsimp only [ñ,Option.getD]))
   go_upto_region 12 with (first
    | (refine Lr 158 (δ 10) K5.o Tryz.underlying158 J2 ?_)
    | (at_mapUpdate;refine G0 rfl _ _ _ 157 rfl J1 Tryz.underlying157 rfl T (by unfold ϐ;omega) Qn (X,cb) rfl bb bs.length rfl (by omega) ?_;intro w6 b5 ai))
   clear T c8;have aj:=H.kept ai (A3 H (by omega));have G:ϟ (w6.heap[w.heap.size+1+1]? = _):=Z ((ai.block _ (Al G.o) (by simp)).trans G.o);have E:ϟ (w6.heap[w.heap.size+1+1+1]? = _):=Z ((ai.block _ (Al E.o) (by simp)).trans E.o);have c9:=b0.grown ai (λk e=>by cases e;omega);have da:w1.heap.size<=w6.heap.size:=μ b4 ai.size;clear ai H K5 e5;go_upto_region 13 with (at_builtin;refine wpList_append_lies _ rfl _ _ 54 rfl w1.heap.size 3 i0 (.int Φ 0) 1 8 Tryz.underlying54 hi cj ck cl rfl (by decide) _ _ _ rfl (aj.alloc _) _ 1 1 [iv x] rfl rfl (Ý _ _ _) (by simp[ξ]) (by decide) (by unfold ϐ;omega) (by omega) (by simp;omega) _ rfl ?_;intro g7 c7 w7 az ak _ _)
   have dc:=Al E.o;have dd:=Al G.o;have G:ϟ (w7.heap[w.heap.size+1+1]? = _):=Z ((ak.block _ (Ξ dd (by rw[Ρ];omega)) (λe=>by have:=(aj.lt _ e.symm).1;omega)).trans (Ah G.o _));have E:ϟ (w7.heap[w.heap.size+1+1+1]? = _):=Z ((ak.block _ (Ξ dc (by rw[Ρ];omega)) (λe=>by have:=(aj.lt _ e.symm).1;omega)).trans (Ah E.o _));have de:=(b5.alloc (Β #[iv x] 3)).kept ak (λe=>by have:=(aj.lt _ e.symm).1;omega);have df:=(c9.alloc (Β #[iv x] 3)).grown ak (λk e=>by have:=(aj.lt k e).1;omega);have dg:w1.heap.size<=w7.heap.size:=μ da (by have:=ak.size;rw[Ρ] at this;omega);clear ak aj b5;have az:OwnI w7 w1.heap.size (U (J ⟨g7,0,I⟩) (bs.length+1) c7) (bs++[x]):=by show ϥ _ _ _ _ _ _ _;rw[Ν,List.map_append];exact az
   have c3:=(Τ w7 (w.heap.size+1+1+1) x _ _ _ E.o).trans (BN c x ae);have f3:=È w7 (w.heap.size+1+1+1) x _ _ E.o;go_wp2;go_roundw
   case rel=>rw[Ϭ w7 _ _ _ _ _ _ E.o,BM _ _ _ ae];have ag:=Cc w7 (w.heap.size+1+1+1) (B0 λy=>if y=x then bs.length else c y);refine⟨x+1,bs++[x],_,c7,_,_,by omega,by go_num,by rw[Ν];rfl,df.setRow (by omega) _,by rw[size_setRow];exact dg,az.kept ag (A3 az (by omega)),IsMp.kept (by rw[Ν];exact de) ag (by simp),Bm G.o (by omega) _,Χ w7 _ _ _ _ _ E.o,HN⟩
   case measure=>simp[intOf];omega
 obtain rfl:x=256:=by omega
 have HC:=Z (show (Ϣ).size=(B0 c).size by rw[Kv,E7,E7]);have HO:=Z (Oy c);have a1:=Z (show (Η.info? 82).map (·.size)=J (B0 c).size by rw[E7];exact L5);obtain⟨A',bf⟩:=Xq (B0 c);rw[bf] at HC HO a1 E;have dh:=Z bf;clear bf;go_wp2_with (first
  | (refine Lr 82 (δ 6) E.o Tryz.underlying82 a1.o ?_)
  | (refine ë rfl 82 (δ 4) (δ 47) rfl _ A' rfl rfl _ _ G.o a1.o HC.o HO.o ?_))
 refine ω (v:=ϗ #[.agg A',U a bs.length cp]) (Bi rfl _ _ _ _ _ _ _ rfl _ rfl (Χ wr _ _ A' 82 (0,0) G.o) Tryz.underlying82 rfl a1.o) rfl ?_;have ag:=Cc wr (w.heap.size+1+1) A';refine⟨c,bs,_,by rw[dh.o],Y3 HJ.o,OwnI.ints (H.kept ag (A3 H (by omega))) (by omega),(cn.t hE).setRow (by omega) _⟩
end Go.Proofs.YtilncahcpjlfnaaGreatDoor
