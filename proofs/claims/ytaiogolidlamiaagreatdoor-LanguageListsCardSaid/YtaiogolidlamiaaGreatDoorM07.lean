import Derived.Lib.TrailingZeros
import Derived.Test.YtaiogolidlamiaaGreatDoorM04
import Derived.RangeFuncNested
import Derived.RangeFuncBound
import Derived.RangeFuncCalls
import Derived.RangeFuncLeaves
import Derived.RangeFuncBox
import Derived.OwnWalkIn
import Derived.TacticsInMore
import Derived.LoopNIn
import Derived.LoopIn
import Derived.Test.YtaiogolidlamiaaGreatDoorM01
import Derived.Test.YtaiogolidlamiaaGreatDoorM05
import Derived.Maps.AppendAt
import Derived.Test.YtaiogolidlamiaaGreatDoorM06
import Derived.Shelf.SlLaysF0
import Derived.Ground.SlsfProg
import Derived.Shelf.SlGeneric
import Derived.Test.YtaiogolidlamiaaGreatDoorProg
set_option linter.unusedVariables false
set_option linter.unusedSimpArgs false
namespace Go.Proofs.YtaiogolidlamiaaGreatDoor
set_option maxRecDepth 100000
open Go.RowKit
def hiB (x p:Nat):Nat:=x / 2 ^ p*2 ^ p
theorem Ad8 (x:Nat):hiB x 0=x:=by simp [hiB]
theorem S3 (x p:Nat):hiB x p≤x:=Nat.div_mul_le_self _ _
theorem G2 (x p j:Nat):(hiB x p).testBit j=(decide (p≤j)&&x.testBit j):=by
 unfold hiB;rw [Nat.testBit_mul_two_pow,← Nat.shiftRight_eq_div_pow,Nat.testBit_shiftRight];by_cases h:p≤j
 ·simp only [h,decide_true,Bool.true_and];congr 1;omega
 ·simp [h]
theorem Aci (x p:Nat) (hx:x<2 ^ 64) (h:hiB x p≠0) :
  p≤Lib.ctz 64 (hiB x p)∧Lib.ctz 64 (hiB x p)<64∧hiB x p &&& (hiB x p-1)=hiB x (Lib.ctz 64 (hiB x p)+1)∧x.testBit (Lib.ctz 64 (hiB x p))=true∧∀ j,p≤j→j<Lib.ctz 64 (hiB x p)→x.testBit j=false:=by
 have hy:hiB x p<2 ^ 64:=Nat.lt_of_le_of_lt (S3 x p) hx;obtain ⟨m,hm,ht⟩:=Lib.ctzFrom_spec 64 (hiB x p) (by omega) hy;have e:Lib.ctz 64 (hiB x p)=Lib.ctzFrom 64 (hiB x p):=by simp [Lib.ctz,h]
 rw [e];generalize hT:Lib.ctzFrom 64 (hiB x p)=t at *;have bitsY:∀ j,(hiB x p).testBit j=(decide (t≤j)&&(2*m+1).testBit (j-t)):=fun j=>by
  rw [hm,Nat.mul_comm,Nat.testBit_mul_two_pow]
 have hpt:p≤t:=by
  apply Nat.le_of_not_lt;intro hlt;have h1:=G2 x p t;rw [bitsY t] at h1;simp only [Nat.le_refl,decide_true,Bool.true_and,Nat.sub_self,Nat.testBit_zero] at h1;have:decide (p≤t)=false:=by simp;omega
  rw [this,Bool.false_and] at h1;simp at h1
 have bit_t:x.testBit t=true:=by
  have h1:=G2 x p t;rw [bitsY t] at h1;simp only [Nat.le_refl,decide_true,Bool.true_and,Nat.sub_self,Nat.testBit_zero,hpt] at h1;rw [← h1];simp
 refine ⟨hpt,ht,?_,bit_t,fun j hj1 hj2=>?_⟩
 ·have h1:hiB x p=2 ^ t*(2*m+1)+0:=by rw [hm];rfl
  have hpos:0<2 ^ t:=Nat.pow_pos (by omega);have h2:hiB x p-1=2 ^ t*(2*m)+(2 ^ t-1):=by rw [hm,Nat.mul_add];omega
  rw [h2,h1,Gd t _ _ _ _ hpos (by omega),Nat.zero_and,Nat.add_zero];have h3:(2*m+1) &&& (2*m)=2*m:=by
   have:=Gd 1 m 1 m 0 (by omega) (by omega)
   simpa [Nat.and_self] using this
  rw [h3];apply Nat.eq_of_testBit_eq;intro j;rw [G2,show 2 ^ t*(2*m)=m*2 ^ (t+1) by rw [Nat.pow_succ,Nat.mul_comm m,Nat.mul_assoc],Nat.testBit_mul_two_pow];by_cases hj:t+1≤j
  ·simp only [hj,decide_true,Bool.true_and];have h4:=G2 x p j;rw [bitsY j] at h4;rw [show decide (t≤j)=true by simp;omega,show decide (p≤j)=true by simp;omega,Bool.true_and,Bool.true_and] at h4;rw [← h4,show j-t=(j-(t+1))+1 by omega,Nat.testBit_succ]
   congr 1;omega
  ·simp [hj]
 ·have h1:=G2 x p j;rw [bitsY j,show decide (t≤j)=false by simp;omega,show decide (p≤j)=true by simp;omega,Bool.false_and,Bool.true_and] at h1;exact h1.symm
theorem Ux (c:Cls) (a b:Nat) (hab:a≤b) (h:∀ j,a≤j→j<b→c.getLsbD j=false):Ak c b=Ak c a:=by
 induction b with
 | zero=>rw [show a=0 by omega]
 | succ b ih=>
  by_cases hb:a=b+1
  ·rw [hb]
  ·simp only [Ak];rw [h b (by omega) (by omega),ih (by omega) (fun j h1 h2=>h j h1 (by omega))];simp
theorem Ab7 (c:Cls) (i p:Nat) (h:hiB (wn c i) p≠0) :
  Lib.ctz 64 (hiB (wn c i) p)<64∧hiB (wn c i) p &&& (hiB (wn c i) p-1)=hiB (wn c i) (Lib.ctz 64 (hiB (wn c i) p)+1)∧
  Ak c (64*i+(Lib.ctz 64 (hiB (wn c i) p)+1))=Ak c (64*i+p)++[UInt8.ofNat (64*i+Lib.ctz 64 (hiB (wn c i) p))]:=by
 obtain ⟨h1,h2,h3,h4,h5⟩:=Aci (wn c i) p (C8 c i) h;refine ⟨h2,h3,?_⟩;generalize Lib.ctz 64 (hiB (wn c i) p)=t at *;have hb:∀ j,p≤j→j<t→c.getLsbD (64*i+j)=false:=fun j hj1 hj2=>by
  have:=h5 j hj1 hj2;rw [B8,show decide (j<64)=true by simp;omega,Bool.true_and] at this;exact this
 have ht:c.getLsbD (64*i+t)=true:=by
  rw [B8,show decide (t<64)=true by simp;omega,Bool.true_and] at h4;exact h4
 rw [← Nat.add_assoc];show (if c.getLsbD (64*i+t) then Ak c (64*i+t)++[UInt8.ofNat (64*i+t)] else Ak c (64*i+t))=_;rw [if_pos ht,Ux c (64*i+p) (64*i+t) (by omega) (fun j hj1 hj2=>by
  have:=hb (j-64*i) (by omega) (by omega)
  rwa [show 64*i+(j-64*i)=j by omega] at this)]
theorem Ab8 (c:Cls) (i p:Nat) (hp:p≤64) (h:hiB (wn c i) p=0):Ak c (64*(i+1))=Ak c (64*i+p):=by
 refine Ux c _ _ (by omega) (fun j hj1 hj2=>?_);have:=G2 (wn c i) p (j-64*i);rw [h,Nat.zero_testBit,show decide (p≤j-64*i)=true by simp;omega,Bool.true_and,B8,show decide (j-64*i<64)=true by simp;omega,Bool.true_and,show 64*i+(j-64*i)=j by omega] at this;exact this.symm
theorem Uy (c:Cls) (a b:Nat) (hab:a≤b):Ak c a <+: Ak c b:=by
 induction b with
 | zero=>rw [show a=0 by omega];exact List.prefix_refl _
 | succ b ih=>
  by_cases hb:a=b+1
  ·rw [hb];exact List.prefix_refl _
  ·have ih:=ih (by omega);simp only [Ak];split
   ·exact ih.trans (List.prefix_append _ _)
   ·exact ih
open Go Go.RowKit
def Lm {α:Type} (F:Fence) (n:Nat) (P:Program) (g:Nat) (lb:Array Value) (encs:α→Array Value) (Nx:List α→α→Prop) (S Sp:List α→Prop) (w:World):Prop:=
 ∀ (l:Nat) (J Jx:List α→World→Prop) (W:World),(∀ pre W',J pre W'→Below w.heap.size w W')→
  (∀ pre x W1,J pre W1→Nx pre x→YieldAt F (n-1) P l (encs x) W1 fun e W'=>(e=.returned (.bool true)∧J (pre++[x]) W')∨(e=.returned (.bool false)∧Jx (pre++[x]) W'))→
  J [] W→
  CallsIn F n P g (#[.func (.yield l) #[] #[]]++lb) W fun e W'=>(∃ v,e=.returned v)∧((∃ xs,S xs∧J xs W')∨(∃ pre,Sp pre∧Jx pre W'))
def Aaw {α:Type} (I:List α→World→Prop) (Ix:Code→List α→World→Prop) (xs:List α) (W:World):Exit→Act→World→Prop
 | .normal,_,W'=>KeepsOthers W W'∧I xs W'
 | .ret,_,W'=>KeepsOthers W W'∧Ix .ret xs W'
 | .exit id,_,W'=>KeepsOthers W W'∧Ix (.exit id) xs W'
 | .goto t,_,W'=>KeepsOthers W W'∧Ix (.goto t) xs W'
 | .panic _,_,_=>False
 | .outgrown,_,_=>False
def Ln {β:Type} (B:Nat) (I:β→World→Prop):Prop:=∀ s W l (o o':Obj),I s W→B≤l→W.heap[l]? = some o→o.isCells=false→I s (W.putObj l o')
def Ahw {β:Type} (I:β→World→Prop):Prop:=∀ s W (o:Obj),I s W→I s (W.alloc o)
variable {F:Fence} {n:Nat} {P:Program}
theorem O8 {α:Type} {g:Operand} {ps:Array Tmp} {assign body:Code} {Q:Exit→Act→World→Prop} {a:Act} {w:World}
  (hro:F.round=none) (h1:1≤n) {gf:Nat} {lb:Array Value} (hg:a.eval g=.func (.func gf) #[] lb) (hFg:F.fn gf) (eg:∀ args w,(callFunc gf args).run P w=.ok (.enter gf args) w)
  {encs:α→Array Value} {Nx:List α→α→Prop} {S Sp:List α→Prop} {w0:World} (hseq:Lm F (n-1) P gf lb encs Nx S Sp w0) (hps:∀ x,(encs x).size=ps.size)
  (I:List α→World→Prop) (Ix:Code→List α→World→Prop) (hI:Ln w.heap.size I) (hIn:Ahw I) (hIx:∀ c,Ln w.heap.size (Ix c)) (hb:∀ pre W,I pre W→Below w0.heap.size w0 W) (h0:I [] w) (a₁:α→Act)
  (hassign:∀ (l:Nat) (x:α) (W:World) (K:Act→World→Prop),K (a₁ x) W→
   assign.wpIn (F.inRound l) (n-1-1) P (Exit.then K (fun _ _ _=>False)) { tmps:=(ps.zip (encs x)).foldl (fun t (p,v)=>t.setIfInBounds p v) a.tmps,defers:=[] } W)
  (hbody:∀ (l:Nat) (pre:List α) (x:α) (W:World),I pre W→Nx pre x→body.wpIn (F.inRound l) (n-1-1) P (Aaw I Ix (pre++[x]) W) (a₁ x) W)
  (hdone:∀ (D:Nat) (xs:List α) (W:World),w.heap.size≤D→S xs→I xs W→W.heap[D]? = some (.deferred (some []))→Q .normal { a with defers:={ target:=.collected D,args:=#[] }::a.defers } W)
  (hstop:∀ (D:Nat) (c:Code) (pre:List α) (W:World),w.heap.size≤D→Sp pre→Ix c pre W→W.heap[D]? = some (.deferred (some []))→c.wpIn F n P Q { a with defers:={ target:=.collected D,args:=#[] }::a.defers } W) :
  (Code.rangeFunc g ps assign body).wpIn F n P Q a w:=by
 refine wpIn_rangeFunc ?_;intro fn hfn;rw [hro];obtain ⟨rec,hrec⟩:∃ rec:LoopState→Option Code→Loop,rec=fun st pe=>{ state:=st,pending:=pe,fn,tmps:=a.tmps,params:=ps,assign,body,defers:=w.heap.size }:=⟨_,rfl⟩
 obtain ⟨W1,hW1⟩:∃ W1,(w.alloc (.deferred (some []))).alloc (.loop (rec .ready none))=W1:=⟨_,rfl⟩;have hL1:W1.heap[w.heap.size+1]? = some (.loop (rec .ready none)):=by
  rw [← hW1];have:=World.alloc_heap_new (w.alloc (.deferred (some []))) (.loop (rec .ready none));rwa [World.size_alloc] at this
 have hK1:W1.heap[w.heap.size]? = some (.deferred (some [])):=by
  rw [← hW1];exact (Below.heap_alloc _ _ _ (by simp)).trans (World.alloc_heap_new w _)
 have hI1:I [] W1:=by rw [← hW1];exact hIn _ _ _ (hIn _ _ _ h0)
 refine ⟨w.heap.size+1,[{ target:=.collected w.heap.size,args:=#[] }],W1,{ target:=.fn (.func gf) lb,args:=#[.func (.yield (w.heap.size+1)) #[] #[]] },W1,gf,
  #[.func (.yield (w.heap.size+1)) #[] #[]]++lb,W1,?_,?_,?_,?_,fun _=>h1,?_⟩
 ·rw [← hW1,hrec];exact run_enterLoop_outer _ _ _ _ _
 ·simp only [resolve,hg];simp [go_sem]
 ·intro f' hf';simp [Target.leads] at hf';subst hf';exact hFg
 ·simp [invoke,go_sem,eg]
 ·refine (hseq (w.heap.size+1)
   (fun pre W=>I pre W∧W.heap[w.heap.size+1]? = some (.loop (rec .ready none))∧W.heap[w.heap.size]? = some (.deferred (some [])))
   (fun pre W=>∃ c,Ix c pre W∧W.heap[w.heap.size+1]? = some (.loop (rec .done (some c)))∧W.heap[w.heap.size]? = some (.deferred (some [])))
   W1 (fun pre W h=>hb _ _ h.1) ?_ ⟨hI1,hL1,hK1⟩).mono ?_
  ·rintro pre x W ⟨hi,hl,hk⟩ hnx;have hlt:w.heap.size+1<W.heap.size:=(Array.getElem?_eq_some_iff.1 hl).1;have hy:=run_yield (P:=P) (args:=encs x) hl (by rw [hrec];exact hps x);rw [hrec] at hy;refine ⟨fn,_,assign,body,hy,roundIn_of_wpIn hfn (hassign _ x W _ ⟨_,run_beginRound hl (by rw [hrec]),?_⟩)⟩;have hl2:(W.putObj (w.heap.size+1) (.loop { rec .ready none with state:=.busy })).heap[w.heap.size+1]? = some (.loop { rec .ready none with state:=.busy }):=World.putObj_heap_same hlt;have hk2:(W.putObj (w.heap.size+1) (.loop { rec .ready none with state:=.busy })).heap[w.heap.size]? = some (.deferred (some [])):=(World.putObj_heap_other (by omega)).trans hk;refine wpIn_mono (hbody _ pre x _ (hI _ _ _ _ _ hi (by omega) hl rfl) hnx) ?_;have fin:∀ (jump:Option Code) (W3:World),KeepsOthers (W.putObj (w.heap.size+1) (.loop { rec .ready none with state:=.busy })) W3→
     (Instr.endRound (w.heap.size+1) jump).run P W3=.ok (.bool jump.isNone) (W3.putObj (w.heap.size+1) (.loop (rec (if jump.isNone then .ready else .done) jump)))∧
     W3.heap[w.heap.size+1]? = some (.loop { rec .ready none with state:=.busy })∧
     (W3.putObj (w.heap.size+1) (.loop (rec (if jump.isNone then .ready else .done) jump))).heap[w.heap.size+1]? = some (.loop (rec (if jump.isNone then .ready else .done) jump))∧
     (W3.putObj (w.heap.size+1) (.loop (rec (if jump.isNone then .ready else .done) jump))).heap[w.heap.size]? = some (.deferred (some [])):=fun jump W3 hk3=>by
    have hl3:=hk3.same _ _ hl2 rfl;have:=run_endRound (P:=P) jump hl3;rw [hrec] at this ⊢;exact ⟨this,by rw [hrec] at hl3;exact hl3,World.putObj_heap_same (Array.getElem?_eq_some_iff.1 hl3).1,(World.putObj_heap_other (by omega)).trans (hk3.same _ _ hk2 rfl)⟩
   rintro e a3 W3 hp;cases e with
   | normal=>
    obtain ⟨hk3,hi3⟩:=hp;obtain ⟨hr,hl3,hl4,hk4⟩:=fin none W3 hk3;exact ⟨_,_,hr,.inl ⟨rfl,hI _ _ _ _ _ hi3 (by omega) hl3 rfl,hl4,hk4⟩⟩
   | ret=>
    obtain ⟨hk3,hi3⟩:=hp;obtain ⟨hr,hl3,hl4,hk4⟩:=fin (some .ret) W3 hk3;exact ⟨_,_,hr,.inr ⟨rfl,.ret,hIx _ _ _ _ _ _ hi3 (by omega) hl3 rfl,hl4,hk4⟩⟩
   | exit id=>
    obtain ⟨hk3,hi3⟩:=hp;obtain ⟨hr,hl3,hl4,hk4⟩:=fin (some (.exit id)) W3 hk3;exact ⟨_,_,hr,.inr ⟨rfl,.exit id,hIx _ _ _ _ _ _ hi3 (by omega) hl3 rfl,hl4,hk4⟩⟩
   | goto t=>
    obtain ⟨hk3,hi3⟩:=hp;obtain ⟨hr,hl3,hl4,hk4⟩:=fin (some (.goto t)) W3 hk3;exact ⟨_,_,hr,.inr ⟨rfl,.goto t,hIx _ _ _ _ _ _ hi3 (by omega) hl3 rfl,hl4,hk4⟩⟩
   | panic ch=>exact hp.elim
   | outgrown=>exact hp.elim
  ·rintro e W2 ⟨⟨v,rfl⟩,(⟨xs,hS,hi,hl,hk⟩|⟨pre,hSp,c,hi,hl,hk⟩)⟩
   ·exact ⟨none,_,by have:=run_endLoop (P:=P) hl (by rw [hrec];simp);rw [hrec] at this;exact this,hdone _ xs _ (Nat.le_refl _) hS (hI _ _ _ _ _ hi (by omega) hl rfl) ((World.putObj_heap_other (by omega)).trans hk)⟩
   ·exact ⟨some c,_,by have:=run_endLoop (P:=P) hl (by rw [hrec];simp);rw [hrec] at this;exact this,hstop _ c pre _ (Nat.le_refl _) hSp (hIx c _ _ _ _ _ hi (by omega) hl rfl) ((World.putObj_heap_other (by omega)).trans hk)⟩
theorem Ext.putObj {a b:World} (h:Ext a b) {l:Nat} (hl:a.heap.size≤l) (o:Obj):Ext a (b.putObj l o):=
 h.grown (grownBy_putObj' b l o) (fun k e=>by cases e;exact hl)
open Go.RowKit Go.Shelf
attribute [local go_sem] Oper.semAt_some
def Tab (w:World):Prop:=∀ j,j<64→w.cell? ⟨0,j,none⟩=some (.int .u8 (Lib.deBruijn64tab.getD j 0:Nat))
theorem Tab.below {w W:World} {B:Nat} (h:Tab w) (hb:Below B w W) (hB:0<B):Tab W:=fun j hj=>(hb.cell (p:=⟨0,j,none⟩) hB).trans (h j hj)
theorem Ws (x a:Nat) (hx:x<18446744073709551616) (hx0:x≠0) (hlow:x &&& (18446744073709551616-x)=a) :
  IntKind.u64.wrap (bits BinOp.and IntKind.u64 (x:Int) (IntKind.u64.wrap (-(x:Int)))*285870213051353865) / 288230376151711744=((a*285870213051353865 % 18446744073709551616 / 288230376151711744:Nat):Int):=by
 have e1:IntKind.u64.wrap (-(x:Int))=((18446744073709551616-x:Nat):Int):=by rw [IntKind.wrap_u64];omega
 rw [e1,u64_and_nat x _ hx (by omega),hlow,IntKind.wrap_u64];omega
theorem Wt (F:Fence) (n:Nat) (h57:F.fn 153) (hro:F.round=none) (x k idx:Nat) (w:World) (hx0:((x:Int)==0)=false)
  (key:IntKind.u64.wrap (bits BinOp.and IntKind.u64 (x:Int) (IntKind.u64.wrap (-(x:Int)))*285870213051353865) / 288230376151711744=(idx:Int))
  (hi:idx<64) (hk:k<64) (hcell:w.cell? ⟨0,idx,none⟩=some (.int .u8 (k:Nat))) :
  CallsIn F n Tryz.prog 153 #[.int .u64 (x:Int)] w fun e w'=>e=.returned (.int .i64 (k:Nat))∧w'=w:=by
 refine callsIn_of_wp Tryz.func153 rfl h57 ?_ hro;simp only [Tryz.ntmps153,List.size_toArray,List.length_cons,List.length_nil,Nat.reduceAdd,Nat.reduceSub,Array.replicate_succ,Array.replicate_zero,List.push_toArray,List.append_toArray,List.nil_append,List.cons_append]
 gi_wp2_with (simp only [key])
 go_ret;exact ⟨rfl,rfl⟩
theorem Wu (F:Fence) (n:Nat) (h57:F.fn 153) (hro:F.round=none) (x:Nat) (hx:x<18446744073709551616) (hx0:x≠0) (w:World) (hT:Tab w) :
  CallsIn F n Tryz.prog 153 #[.int .u64 (x:Int)] w fun e w'=>e=.returned (.int .i64 (Lib.ctz 64 x:Nat))∧w'=w:=by
 obtain ⟨hlow,hk⟩:=Lib.lowest_bit 64 x hx0 hx;obtain ⟨hi,htab⟩:=Lib.deBruijn64_at _ hk;have hcell:=hT _ hi;rw [htab] at hcell;exact Wt F n h57 hro x _ _ w (by simp;omega) (Ws x _ hx hx0 hlow) hi hk hcell
theorem Vf (y:Nat) (h0:y≠0) (h:y<18446744073709551616):bits BinOp.and IntKind.u64 (y:Int) ((y:Int)-1)=((y &&& (y-1):Nat):Int):=by
 rw [show ((y:Int)-1)=((y-1:Nat):Int) by omega,u64_and_nat _ _ h (by omega)]
theorem Wr (k:Nat) (h:k<256):((UInt8.ofNat k).toNat:Int)=(k:Int):=by
 simp
 omega
set_option maxRecDepth 100000 in
theorem Ab6 (F:Fence) (n:Nat) (h56:F.fn 152) (h57:F.fn 153) (hro:F.round=none) (hn:1≤n) (l Bc:Nat) (c:Cls) (J Jx:List UInt8→World→Prop)
  (hT:∀ pre W,J pre W→Tab W)
  (hY:∀ pre x W,J pre W→(pre++[x]) <+: Ak c 256→YieldAt F (n-1) Tryz.prog l #[bv x] W fun e W'=>(e=.returned (.bool true)∧J (pre++[x]) W')∨(e=.returned (.bool false)∧Jx (pre++[x]) W'))
  (W:World) (hc:W.heap[Bc]? = some (.cells (Aa c) 62 (0,0))) (h0:J [] W) :
  CallsIn F n Tryz.prog 152 #[.func (.yield l) #[] #[],.pointer (some ⟨Bc,0,none⟩)] W fun e W'=>(∃ v,e=.returned v)∧((∃ xs,xs=Ak c 256∧J xs W')∨(∃ pre,pre <+: Ak c 256∧Jx pre W')):=by
 have c0:=(cell_of_row W _ 0 _ _ _ hc).trans rfl;have c1:=(cell_of_row W _ 1 _ _ _ hc).trans rfl;have c2:=(cell_of_row W _ 2 _ _ _ hc).trans rfl;have c3:=(cell_of_row W _ 3 _ _ _ hc).trans rfl;clear hc;refine callsIn_of_wp Tryz.func152 rfl h56 ?_ hro;simp only [Tryz.ntmps152,List.size_toArray,List.length_cons,List.length_nil,Nat.reduceAdd,Nat.reduceSub,Array.replicate_succ,Array.replicate_zero,List.push_toArray,List.append_toArray,List.nil_append,List.cons_append]
 gi_wp2
 clear c0 c1 c2 c3
 gi_loopw [6] (fun v6 wr=>∃ k:Nat,k≤4∧v6=.int .i64 k∧J (Ak c (64*k)) wr) (fun v6 _=>4-(intOf v6).toNat)
 case atStart=>exact ⟨0,by omega,rfl,h0⟩
 case round=>
  obtain ⟨k,hk,rfl,hJ⟩:=hrel;by_cases hlt:k<4
  ·have hix:=Sy c k hlt;have hdk:decide ((k:Int)<4)=true:=by simp;omega
   gi_wp2
   obtain ⟨wo,rfl⟩:∃ wo:World,wo=wr:=⟨_,rfl⟩;clear hix hdk
   gi_loopw [4] (fun v4 wr=>∃ p:Nat,p≤64∧v4=.int .u64 (hiB (wn c k) p:Nat)∧J (Ak c (64*k+p)) wr) (fun v4 _=>(intOf v4).toNat)
   case atStart=>exact ⟨0,by omega,by rw [Ad8];rfl,hJ⟩
   case round=>
    obtain ⟨p,hp,rfl,hJ1⟩:=hrel;have hy64:hiB (wn c k) p<18446744073709551616:=Nat.lt_of_le_of_lt (S3 _ _) (C8 c k);by_cases hy0:hiB (wn c k) p=0
    ·have hend:=Ab8 c k p hp hy0;rw [hy0];rw [← hend] at hJ1;clear hend hy0 hy64
     gi_wp2
     go_roundw
     case rel=>exact ⟨k+1,by omega,by go_num,hJ1⟩
     case measure=>simp [intOf];omega
    ·obtain ⟨ht,hand,hbt⟩:=Ab7 c k p hy0;have htz:=Wu F (n-1) h57 hro (hiB (wn c k) p) hy64 hy0 wr (hT _ _ hJ1);have hpre:Ak c (64*k+p)++[UInt8.ofNat (64*k+Lib.ctz 64 (hiB (wn c k) p))] <+: Ak c 256:=by
      rw [← hbt];exact Uy c _ _ (by omega)
     obtain ⟨fn,tmps,assign,body,hy,hR⟩:=hY _ _ wr hJ1 hpre;rw [← hbt] at hR;have HAnd:=Lib.hid hand;have hlt2:hiB (wn c k) (Lib.ctz 64 (hiB (wn c k) p)+1)<hiB (wn c k) p:=by
      rw [← hand];have:=Nat.and_le_right (n:=hiB (wn c k) p) (m:=hiB (wn c k) p-1);omega
     clear hand hbt hpre;generalize hiB (wn c k) p=y at *;generalize Lib.ctz 64 y=t at *;have hb:bv (UInt8.ofNat (64*k+t))=.int .u8 (64*(k:Int)+(t:Int)):=by
      show Value.int .u8 ((UInt8.ofNat (64*k+t)).toNat:Int)=_;rw [Wr _ (by omega)]
      congr 1
     have hw:IntKind.u8.wrap (64*(k:Int)+(t:Int))=64*(k:Int)+(t:Int):=IntWalk.u8_in _ ⟨by omega,by omega⟩;rw [hb] at hy;have hne:((y:Int) != 0)=true:=by simp;omega
     have hy1:1≤y:=by omega
     have HT:=Lib.hid htz;clear htz hb hy0
     gi_wp2_with (gi_at_call 153;refine HT.out.mono ?_;clear HT;rintro e w' ⟨rfl,rfl⟩)
     refine hR.mono ?_;rintro e W3 (⟨rfl,hJ3⟩|⟨rfl,hJx3⟩)
     ·gi_wp2
      go_roundw
      case rel=>exact ⟨t+1,by omega,by rw [Vf y (by omega) hy64,HAnd.out],hJ3⟩
      case measure=>rw [Vf y (by omega) hy64,HAnd.out];simp [intOf];omega
     ·gi_wp2
      refine bodyPost_ret (results_none rfl _ _ _) rfl ?_;exact ⟨⟨_,rfl⟩,.inr ⟨_,Uy c _ _ (by omega),hJx3⟩⟩
  ·obtain rfl:k=4:=by omega
   gi_wp2
   go_end0
   exact ⟨⟨_,rfl⟩,.inl ⟨_,rfl,hJ⟩⟩
attribute [local go_sem] Oper.semAt_some
theorem R8 (F:Fence) (n:Nat) (h56:F.fn 152) (h57:F.fn 153) (hro:F.round=none) (hn:1≤n) (Bc:Nat) (c:Cls) (w:World) (hT:Tab w) (hc:w.heap[Bc]? = some (.cells (Aa c) 62 (0,0))) :
  Lm F n Tryz.prog 152 #[.pointer (some ⟨Bc,0,none⟩)] (fun x=>#[bv x]) (fun pre x=>(pre++[x]) <+: Ak c 256) (·=Ak c 256) (· <+: Ak c 256) w:=by
 intro l J Jx W hb hY h0;have hlt:=Al hc;exact Ab6 F n h56 h57 hro hn l Bc c J Jx (fun pre W' h=>hT.below (hb _ _ h) (by omega)) hY W (((hb _ _ h0).block Bc hlt).trans hc) h0
theorem R9 (F:Fence) (n:Nat) (h45:F.fn 138) (hro:F.round=none) (c:Cls) (w:World) :
  CallsIn F n Tryz.prog 138 #[.agg (Aa c)] w fun e w'=>e=.returned (.func (.func 152) #[] #[.pointer (some ⟨w.heap.size,0,none⟩)])∧w'=w.alloc (.cells (Aa c) 62):=by
 refine callsIn_of_wp Tryz.func138 rfl h45 ?_ hro;simp only [Tryz.ntmps138,List.size_toArray,List.length_cons,List.length_nil,Nat.reduceAdd,Nat.reduceSub,Array.replicate_succ,Array.replicate_zero,List.push_toArray,List.append_toArray,List.nil_append,List.cons_append]
 gi_wp2
 go_ret;exact ⟨rfl,rfl⟩
theorem Ih {W:World} {k l:Nat} {o o':Obj} {cs:Array Value} {t:TypeId} {fr:Nat × Nat} (h:W.heap[k]? = some (.cells cs t fr)) (hl:W.heap[l]? = some o) (ho:o.isCells=false):(W.putObj l o').heap[k]? = some (.cells cs t fr):=by
 have hne:k≠l:=by rintro rfl;rw [h] at hl;cases hl;cases ho
 exact (World.putObj_heap_other hne).trans h
theorem Ade (F:Fence) (n:Nat) (h23:F.fn 144) (h45:F.fn 138) (h56:F.fn 152) (h57:F.fn 153) (hro:F.round=none) (hn:3≤n) (c:Cls) (w:World) (hT:Tab w) (hsz:0<w.heap.size) :
  CallsIn F n Tryz.prog 144 #[.agg (Aa c)] w fun e w'=>e=.returned (.int .i64 (Bj (Ak c 256)))∧Ext w w'∧w.drawn≤w'.drawn:=by
 have h1:1≤n:=by omega
 have h2:1≤n-1:=by omega
 have hA:=Af (heap_alloc_new w (.cells (Aa c) 62)) (.cells #[.int .i64 0] 3);have hR:=heap_alloc2_new w (.cells (Aa c) 62) (.cells #[.int .i64 0] 3);have hE:=((Ext.refl w).alloc (.cells (Aa c) 62)).alloc (.cells #[.int .i64 0] 3);have hD:w.drawn≤((w.alloc (.cells (Aa c) 62)).alloc (.cells #[.int .i64 0] 3)).drawn:=Nat.le_refl _;have hs:((w.alloc (.cells (Aa c) 62)).alloc (.cells #[.int .i64 0] 3)).heap.size=w.heap.size+1+1:=by simp
 refine callsIn_of_wp_marks Tryz.func144 rfl h23 ?_ hro;simp only [Tryz.ntmps144,List.size_toArray,List.length_cons,List.length_nil,Nat.reduceAdd,Nat.reduceSub,Array.replicate_succ,Array.replicate_zero,List.push_toArray,List.append_toArray,List.nil_append,List.cons_append]
 gi_wp2_with (gi_at_call 138;refine (R9 F (n-1) h45 hro c _).mono ?_;rintro e w' ⟨rfl,rfl⟩)
 have hR3:=Af hR (.cells (Aa c) 62);have hC3:=heap_alloc_new ((w.alloc (.cells (Aa c) 62)).alloc (.cells #[.int .i64 0] 3)) (.cells (Aa c) 62);rw [hs] at hC3;have hE3:=hE.alloc (.cells (Aa c) 62);have hD3:w.drawn≤(((w.alloc (.cells (Aa c) 62)).alloc (.cells #[.int .i64 0] 3)).alloc (.cells (Aa c) 62)).drawn:=Nat.le_refl _;have hS3:w.heap.size+2<(((w.alloc (.cells (Aa c) 62)).alloc (.cells #[.int .i64 0] 3)).alloc (.cells (Aa c) 62)).heap.size:=by simp
 clear hA hR hE hD hs;generalize ((w.alloc (.cells (Aa c) 62)).alloc (.cells #[.int .i64 0] 3)).alloc (.cells (Aa c) 62)=w3 at *;have hT3:=hT.below hE3.below hsz;have HR3:=Lib.hid hR3;clear hR3;refine O8 hro h1 (gf:=152) (lb:=#[.pointer (some ⟨w.heap.size+1+1,0,none⟩)]) rfl h56 (enters_of Tryz.func152 (by kernel_rfl) rfl)
  (R8 F (n-1) h56 h57 hro h2 (w.heap.size+1+1) c w3 hT3 hC3) (fun _=>rfl)
  (fun pre W=>pre=[]∧Ext w3 W∧w3.drawn≤W.drawn)
  (fun k pre W=>k=.ret∧∃ x,pre=[x]∧Ext w W∧w.drawn≤W.drawn∧W.heap[w.heap.size+1]? = some (.cells #[.int .i64 (x.toNat:Int)] 3 (0,0)))
  (fun s W l o o' h hl ho hc=>⟨h.1,h.2.1.putObj hl o',h.2.2⟩)
  (fun s W o h=>⟨h.1,h.2.1.alloc o,h.2.2⟩)
  (fun k s W l o o' h hl ho hc=>by
   obtain ⟨hk,x,hs,hE,hD,hr⟩:=h;exact ⟨hk,x,hs,hE.putObj (by omega) o',hD,Ih hr ho hc⟩)
  (fun pre W h=>h.2.1.below) ⟨rfl,Ext.refl _,Nat.le_refl _⟩
  (fun x=>{ tmps:=#[.agg (Aa c),.pointer (some ⟨w.heap.size,0,none⟩),.pointer (some ⟨w.heap.size+1,0,none⟩),bv x,.agg (Aa c),.func (.func 152) #[] #[.pointer (some ⟨w.heap.size+1+1,0,none⟩)],bv x,undef,undef],defers:=[] }) ?assign ?body ?done ?stop
 case assign=>
  intro l x W K hK
  gi_wp2
  exact hK
 case body=>
  rintro l pre x W ⟨rfl,hE,hD⟩ _;have hr:=hE.heap HR3.out;have hrc:=(cell_of_row W _ 0 _ _ _ hr).trans rfl;have hrf:=frozen_of_row W _ 0 _ _ hr;have HR:=Lib.hid hr;have hx:=x.toNat_lt;clear hr
  gi_wp2
  refine ⟨KeepsOthers.setCell _ _ _,rfl,x,rfl,(hE3.trans hE).setCell (by simp) _,Nat.le_trans hD3 hD,?_⟩;rw [setCell_eq_setRow W _ _ _ _ _ _ HR.out,show (#[Value.int .i64 0]:Array Value).setIfInBounds 0 (.int .i64 (x.toNat:Int))=#[.int .i64 (x.toNat:Int)] from rfl];exact setRow_heap W _ _ _ _ _ HR.out
 case done=>
  rintro D ys W hDl rfl ⟨he,hE,hD⟩ hK;have hr:=hE.heap HR3.out;have hrc:=(cell_of_row W _ 0 _ _ _ hr).trans rfl;have hrf:=frozen_of_row W _ 0 _ _ hr;have HR:=Lib.hid hr;have HB:=Lib.hid he;have HK:=Lib.hid hK;clear hr he hK
  gi_wp2
  have hK':=(KeepsOthers.setCell W ⟨w.heap.size+1,0,none⟩ (.int .i64 (-1))).same D _ HK.out rfl;refine ⟨by simp,.inl ⟨_,_,rfl,run_takeDeferred hK',?_⟩⟩;have h5:=Ih (o':=.deferred none) (by rw [setCell_eq_setRow W _ _ _ _ _ _ HR.out];exact setRow_heap W _ _ _ _ _ HR.out) hK' rfl;have hc5:=(cell_of_row _ _ 0 _ _ _ h5).trans rfl;refine ⟨.int .i64 (-1),?_,by rw [HB.out];rfl,((hE3.trans hE).setCell (by simp) _).putObj (by omega) _,Nat.le_trans hD3 hD⟩;simp [results,Tryz.f144,go_sem,hc5]
 case stop=>
  rintro D k pre W hDl hpre ⟨rfl,x,rfl,hE,hD,hr⟩ hK;have HR:=Lib.hid hr;have HK:=Lib.hid hK;clear hr hK
  gi_wp2
  refine ⟨by simp,.inl ⟨_,_,rfl,run_takeDeferred HK.out,?_⟩⟩;have h5:=Ih (o':=.deferred none) HR.out HK.out rfl;have hc5:=(cell_of_row _ _ 0 _ _ _ h5).trans rfl;refine ⟨.int .i64 (x.toNat:Int),?_,?_,hE.putObj (by omega) _,hD⟩
  ·simp [results,Tryz.f144,go_sem,hc5]
  ·obtain ⟨r,hr⟩:=hpre;rw [← hr];rfl
theorem Nm (c:Cls) (w:World) (hT:Tab w) (hsz:0<w.heap.size) :
  Calls Tryz.prog 144 #[.agg (Aa c)] w fun e w'=>e=.returned (.int .i64 (Bj (Ak c 256)))∧Ext w w'∧w.drawn≤w'.drawn:=
 callsIn_wide.1 (Ade Fence.wide 3 trivial trivial trivial trivial rfl (Nat.le_refl _) c w hT hsz)
attribute [local go_sem] Oper.semAt_some
set_option maxRecDepth 100000 in
theorem Ahi (F:Fence) (n:Nat) (h55:F.fn 151) (hro:F.round=none) (hn:2≤n) (g:Nat) (lb:Array Value) (hFg:F.fn g) (eg:∀ args w,(callFunc g args).run Tryz.prog w=.ok (.enter g args) w)
  (Nx:List UInt8→UInt8→Prop) (S Sp:List UInt8→Prop) (hN:∀ pre x,Nx pre x→pre.length<256) (w:World) (hseq:Lm F (n-1) Tryz.prog g lb (fun x=>#[bv x]) Nx S Sp w) :
  CallsIn F n Tryz.prog 151 #[.slice none 0 0,.func (.func g) #[] lb] w fun e w'=>∃ v xs,e=.returned v∧S xs∧w'.ownsRow w.heap.size 5 1 v xs.length (xs.map bv)∧Ext w w':=by
 have h1:1≤n:=by omega
 obtain ⟨i0,hi,hz0,hz1,hz2⟩:=info_parts Ny;have hB0:Boxed (w.alloc (.cells #[.slice none 0 0] 22)) w.heap.size 22 (.slice none 0 0):=Boxed.new w 22 _;have hE0:=(Ext.refl w).alloc (.cells #[.slice none 0 0] 22);have hs0:w.heap.size<(w.alloc (.cells #[.slice none 0 0] 22)).heap.size:=by simp
 refine callsIn_of_wp_marks Tryz.func151 rfl h55 ?_ hro;simp only [Tryz.ntmps151,List.size_toArray,List.length_cons,List.length_nil,Nat.reduceAdd,Nat.reduceSub,Array.replicate_succ,Array.replicate_zero,List.push_toArray,List.append_toArray,List.nil_append,List.cons_append]
 gi_wp2
 generalize w.alloc (.cells #[.slice none 0 0] 22)=w1 at *;refine O8 hro h1 (gf:=g) (lb:=lb) rfl hFg eg hseq (fun _=>rfl)
  (fun pre W=>(∃ v,Boxed W w.heap.size 22 v∧W.ownsRow w.heap.size 5 1 v pre.length (pre.map bv))∧Ext w W)
  (fun _ _ _=>False)
  (fun s W l o o' h hl ho hc=>by
   obtain ⟨⟨v,hv,hr⟩,hE⟩:=h;exact ⟨⟨v,Ih hv ho hc,ownsRow_putObj hr o' ho hc⟩,hE.putObj (by omega) o'⟩)
  (fun s W o h=>by
   obtain ⟨⟨v,hv,hr⟩,hE⟩:=h;exact ⟨⟨v,hv.alloc o,hr.alloc o⟩,hE.alloc o⟩)
  (fun _ s W l o o' h _ _ _=>h)
  (fun pre W h=>h.2.below) ⟨⟨_,hB0,World.ownsRow_nil _ _ _ _⟩,hE0⟩
  (fun x=>{ tmps:=#[.slice none 0 0,.func (.func g) #[] lb,.pointer (some ⟨w.heap.size,0,none⟩),undef,.slice none 0 0,bv x,.func (.func g) #[] lb,bv x,undef,undef,undef,undef,undef],defers:=[] }) ?assign ?body ?done ?stop
 case assign=>
  intro l x W K hK
  gi_wp2
  exact hK
 case body=>
  rintro l pre x W ⟨⟨v,hv,hrow⟩,hE⟩ hnx;have hlen:=hN pre x hnx;have hc:=hv.cell;have hB:=hE.below;have hx:=x.toNat_lt
  gi_wp2_with (gi_at_builtin;refine wpListIn_append_own _ rfl _ _ 22 rfl w.heap.size 5 i0 (.int .u8 0) 1 1 Tryz.underlying22 hi hz0 hz1 hz2 rfl (by decide) _ _ _ rfl (hrow.alloc _) ⟨W.heap.size,0,none⟩ 1 1 [bv x] rfl rfl (cell_one_new _ _ _) (by simp [Value.oneCell']) (by unfold maxLen;omega) (by omega) (by have:=hB.size;simp;omega) ?_;intro v' w1 hown' hgrow _;obtain ⟨g',cap',rfl⟩:=ownsRow_succ hown';obtain ⟨hv1,hv2,hr2,hk2,hb2⟩:=hv.appended (by decide) hrow hB.size (Nat.le_refl _) hown' hgrow;have hc1:=hv1.cell;have hf1:=hv1.frozen)
  exact ⟨hk2,⟨_,hv2,by simpa using hr2⟩,⟨hB.trans hb2⟩⟩
 case done=>
  rintro D ys W hD hS ⟨⟨v,hv,hrow⟩,hE⟩ hK;have hc:=hv.cell
  gi_wp2
  refine ⟨by simp,.inl ⟨_,_,rfl,run_takeDeferred hK,?_⟩⟩;exact ⟨_,results_tmp rfl _ _ _,v,ys,rfl,hS,ownsRow_putObj hrow _ hK rfl,hE.putObj (by omega) _⟩
 case stop=>
  rintro D k pre W _ _ h _;exact h.elim
theorem Af0 (F:Fence) (n:Nat) (h44:F.fn 137) (h55:F.fn 151) (hro:F.round=none) (hn:3≤n) (g:Nat) (lb:Array Value) (hFg:F.fn g) (eg:∀ args w,(callFunc g args).run Tryz.prog w=.ok (.enter g args) w)
  (Nx:List UInt8→UInt8→Prop) (S Sp:List UInt8→Prop) (hN:∀ pre x,Nx pre x→pre.length<256) (w:World) (hseq:Lm F (n-1-1) Tryz.prog g lb (fun x=>#[bv x]) Nx S Sp w) :
  CallsIn F n Tryz.prog 137 #[.func (.func g) #[] lb] w fun e w'=>∃ v xs,e=.returned v∧S xs∧w'.ownsRow w.heap.size 5 1 v xs.length (xs.map bv)∧Ext w w':=by
 have h1:1≤n:=by omega
 refine callsIn_of_wp Tryz.func137 rfl h44 ?_ hro;simp only [Tryz.ntmps137,List.size_toArray,List.length_cons,List.length_nil,Nat.reduceAdd,Nat.reduceSub,Array.replicate_succ,Array.replicate_zero,List.push_toArray,List.append_toArray,List.nil_append,List.cons_append]
 gi_wp2_with (gi_at_call 151;refine (Ahi F (n-1) h55 hro (by omega) g lb hFg eg Nx S Sp hN _ hseq).mono ?_;rintro e w' ⟨v,xs,rfl,hS,hrow,hb⟩)
 go_ret;exact ⟨v,xs,rfl,hS,hrow,hb⟩
theorem Agp (F:Fence) (n:Nat) (h19:F.fn 109) (h44:F.fn 137) (h45:F.fn 138) (h55:F.fn 151) (h56:F.fn 152) (h57:F.fn 153) (hro:F.round=none) (hn:5≤n) (c:Cls) (w:World) (hT:Tab w) (hsz:0<w.heap.size) :
  CallsIn F n Tryz.prog 109 #[.agg (Aa c)] w fun e w'=>∃ v,e=.returned v∧By w' v (Ak c 256)∧Ext w w':=by
 have h1:1≤n:=by omega
 have hA:=heap_alloc_new w (.cells (Aa c) 62);have hE:=(Ext.refl w).alloc (.cells (Aa c) 62);have hE2:=hE.alloc (.cells (Aa c) 62);have hC2:=heap_alloc_new (w.alloc (.cells (Aa c) 62)) (.cells (Aa c) 62);have c0:=(cell_of_row _ _ 0 _ _ _ hA).trans rfl;have c1:=(cell_of_row _ _ 1 _ _ _ hA).trans rfl;have c2:=(cell_of_row _ _ 2 _ _ _ hA).trans rfl;have c3:=(cell_of_row _ _ 3 _ _ _ hA).trans rfl;rw [World.size_alloc] at hC2;have hT2:=hT.below hE2.below hsz;have hseq:=R8 F (n-1-1-1) h56 h57 hro (by omega) (w.heap.size+1) c _ hT2 hC2;clear hA hC2 hT2;have HSeq:=Lib.hid hseq;clear hseq;refine callsIn_of_wp Tryz.func109 rfl h19 ?_ hro;simp only [Tryz.ntmps109,List.size_toArray,List.length_cons,List.length_nil,Nat.reduceAdd,Nat.reduceSub,Array.replicate_succ,Array.replicate_zero,List.push_toArray,List.append_toArray,List.nil_append,List.cons_append]
 gi_wp2_with (first
  | (gi_at_call 138;refine (R9 F (n-1) h45 hro c _).mono ?_;rintro e w' ⟨rfl,rfl⟩)
  | (gi_at_call 137;refine (Af0 F (n-1) h44 h55 hro (by omega) 152 _ h56 (enters_of Tryz.func152 (by kernel_rfl) rfl) _ _ _ (fun pre x h=>by have h2:=h.length_le;have h3:=Oo c 256;simp at h2;omega) _ HSeq.out).mono ?_;rintro e w' ⟨v,xs,rfl,rfl,hrow,hb⟩))
 go_ret;exact ⟨v,rfl,By.of_owns hrow (by have:=Oo c 256;omega),hE2.trans hb⟩
theorem Agq (c:Cls) (w:World) (hT:Tab w) (hsz:0<w.heap.size) :
  Calls Tryz.prog 109 #[.agg (Aa c)] w fun e w'=>∃ v,e=.returned v∧By w' v (Ak c 256)∧Ext w w':=
 callsIn_wide.1 (Agp Fence.wide 5 trivial trivial trivial trivial trivial trivial rfl (Nat.le_refl _) c w hT hsz)
def Jy (lo hi:Nat):Cls:=N3 (fun b=>decide (lo≤b)) (hi+1)
theorem Ad3 (c:Cls) (x:Int) (hx0:0≤x) (hx:x<256) (B:Nat) (w:World) (hc:w.cell? ⟨B,0,none⟩=some (.int .u8 x)) (_hB:B<w.heap.size) :
  Calls Tryz.prog 130 #[.agg (Aa c),.pointer (some ⟨B,0,none⟩)] w fun e w'=>e=.returned (.bool (Bg c x))∧Ext w w':=by
 have hA:=heap_alloc_new w (.cells (Aa c) 62);have hE:=(Ext.refl w).alloc (.cells (Aa c) 62);have hc1:=hE.cell hc;have HA:=Lib.hid hA;clear hA hc;go_enter Tryz.func130,Tryz.ntmps130;go_wp2_with (first
  | (refine wpList_load_row rfl 62 (.tmp 2) rfl _ rfl _ _ _ _ HA.out Tryz.underlying62 rfl A3 ?_)
  | (go_at_call 131;refine (S6 c x hx0 hx _).mono ?_;rintro e w' ⟨rfl,hE'⟩))
 go_ret;exact ⟨rfl,hE.trans hE'⟩
set_option maxRecDepth 100000 in
theorem Sx (l:List Cls) (x:Int) (hx0:0≤x) (hx:x<256) (hl:l.length≤4611686018427387904) (a:Option Addr) (b off cap:Nat) (B:Nat) (w:World) (hcx:w.cell? ⟨B,0,none⟩=some (.int .u8 x)) (hB:B<w.heap.size) (ha:0<l.length→a=some ⟨b,off,none⟩)
  (hc:∀ i,i<l.length*4→w.cell? ⟨b,off+i,none⟩=some (.int .u64 (wd (l.getD (i / 4) 0#256) (i % 4)))) :
  Calls Tryz.prog 129 #[.slice a l.length cap,.func (.func 130) #[] #[.pointer (some ⟨B,0,none⟩)]] w fun e w'=>e=.returned (.int .i64 (Ff l x))∧Ext w w':=by
 go_enter Tryz.func129,Tryz.ntmps129;go_wp2_with (fail);go_loopw [8] (fun i W=>∃ k:Nat,k≤l.length∧i=.int .i64 k∧Ext w W∧Hid (∀ j,j<k→Bg (l.getD j 0#256) x=false))
  (fun i _=>l.length-(intOf i).toNat)
 case atStart=>exact ⟨0,by omega,rfl,Ext.refl w,Lib.hid (fun j hj=>by omega)⟩
 case round=>
  obtain ⟨k,hk,rfl,hE,hall⟩:=hrel;by_cases hlt:k<l.length
  ·have e:=ha (by omega);obtain ⟨a0,a1,a2,a3⟩:=Oc (W:=wr) (fun i hi=>hE.cell (hc i hi)) k hlt;have Hcx:=Lib.hid hcx;clear ha hc hcx;subst e;obtain ⟨c,hcd⟩:∃ c,l.getD k 0#256=c:=⟨_,rfl⟩;rw [hcd] at a0 a1 a2 a3;have HCd:=Lib.hid hcd;clear hcd;go_upto_region 4 with (fail)
   have h1:=fun (e:EW wr)=>Lib.hid (Ad3 c x hx0 hx B e.W ((hE.trans e.ext).cell Hcx.out) (Nat.lt_of_lt_of_le hB (hE.trans e.ext).size))
   generalize hm1:Bg c x=m1 at h1;have HM1:=Lib.hid hm1;clear hm1;go_cut [16] (fun v W=>v=.bool m1∧∃ e:EW wr,W=e.W)
   case first=>
    refine Zd 6 ?_;simp only [List.take_succ_cons,List.drop_succ_cons,List.take_nil,List.drop_nil];iterate 6 (refine wpQuiet_step (fun K hK=>?_);go_simp;first|(refine hK _ ?_;clear hK K)|(apply Exists.intro;refine ⟨fun _=>?_,hK _ ?_⟩;(with_reducible exact Gb (h1 _).out);clear hK K))
    refine wpQuiet_nil ?_;rintro _ ⟨e,rfl⟩;refine wpList_nil ?_;go_wp2;go_meet
    exact ⟨rfl,e,rfl⟩
   case rest=>
    obtain ⟨rfl,e,rfl⟩:=hcut;clear a0 a1 a2 a3 h1;have hE':=hE.trans e.ext;generalize e.W=w1 at *;cases m1
    ·go_wp2;go_roundw
     case rel=>exact ⟨k+1,by omega,by go_num,hE',Lib.hid (fun j hj=>by
      by_cases hjk:j=k
      ·subst hjk;rw [HCd.out,HM1.out]
      ·exact hall.out j (by omega))⟩
     case measure=>simp [intOf];omega
    ·have HF:=Lib.hid (S2 l x k hlt (by rw [HCd.out,HM1.out]) hall.out);go_wp2;go_ret;exact ⟨Mi HF.out.symm,hE'⟩
  ·obtain rfl:k=l.length:=by omega
   have HF:=Lib.hid (Ad4 l x hall.out);clear hall;go_wp2;go_ret;exact ⟨Mi HF.out.symm,hE⟩
theorem Sw (l:List Cls) (v:Value) (x:Int) (hx0:0≤x) (hx:x<256) (w:World) (h:Cs w v l) :
  Calls Tryz.prog 95 #[v,.int .u8 x] w fun e w'=>e=.returned (.int .i64 (Ff l x))∧Ext w w':=by
 have hE:=(Ext.refl w).alloc (.cells #[.int .u8 x] 5);have hcx:=Oi w #[.int .u8 x] 5 0 _ rfl;have hB:w.heap.size<(w.alloc (.cells #[.int .u8 x] 5)).heap.size:=by simp
 have h':=h.ext hE;have hcon:Calls Tryz.prog 129 #[v,.func (.func 130) #[] #[.pointer (some ⟨w.heap.size,0,none⟩)]] (w.alloc (.cells #[.int .u8 x] 5)) fun e w'=>e=.returned (.int .i64 (Ff l x))∧Ext (w.alloc (.cells #[.int .u8 x] 5)) w':=by
  obtain ⟨h0,⟨hn,a,cap,rfl⟩|⟨hn,b,off,cap,rfl,hb,hc⟩⟩:=h'
  ·have:=Sx l x hx0 hx (by omega) a 0 0 cap w.heap.size _ hcx hB (by omega) (fun i hi=>by omega)
   rwa [hn] at this
  ·exact Sx l x hx0 hx h0 (some ⟨b,off,none⟩) b off cap w.heap.size _ hcx hB (fun _=>rfl) hc
 have Hcon:=Lib.hid hcon;clear hcon hcx h h';go_enter Tryz.func95,Tryz.ntmps95;go_wp2_with (go_at_call 129;refine Hcon.out.mono ?_;rintro e w' ⟨rfl,hE'⟩);go_ret;exact ⟨rfl,hE.trans hE'⟩
end Go.Proofs.YtaiogolidlamiaaGreatDoor
namespace Go.Proofs
open Go.Shelf
def Tryz.l155_ren:Go.Shelf.Ren:=⟨fun|6=>155|15=>161|14=>160|28=>170|29=>171|20=>162|21=>163|22=>164|23=>165|24=>166|25=>167|26=>168|27=>169|46=>172|47=>173|48=>174|49=>175|50=>176|57=>177|n=>n,fun|22=>26|24=>62|25=>204|3=>3|39=>156|0=>0|53=>216|55=>60|4=>4|46=>210|45=>209|50=>91|5=>5|9=>9|66=>217|70=>221|76=>223|77=>224|n=>n,fun|n=>n⟩
theorem Tryz.l155:Go.Proofs.SlLaysF0.n6 Tryz.prog Tryz.l155_ren:={
 mixed:=by kernel_rfl
 f6:=⟨Tryz.f155.name,by decide,Tryz.func155.trans (congrArg some (by kernel_rfl))⟩
 f14:=⟨Tryz.f160.name,by decide,Tryz.func160.trans (congrArg some (by kernel_rfl))⟩
 f15:=Tryz.func161.trans (congrArg some (by kernel_rfl))
 f20:=⟨Tryz.f162.name,by decide,Tryz.func162.trans (congrArg some (by kernel_rfl))⟩
 f21:=⟨Tryz.f163.name,by decide,Tryz.func163.trans (congrArg some (by kernel_rfl))⟩
 f22:=⟨Tryz.f164.name,by decide,Tryz.func164.trans (congrArg some (by kernel_rfl))⟩
 f23:=⟨Tryz.f165.name,by decide,Tryz.func165.trans (congrArg some (by kernel_rfl))⟩
 f24:=⟨Tryz.f166.name,by decide,Tryz.func166.trans (congrArg some (by kernel_rfl))⟩
 f25:=⟨Tryz.f167.name,by decide,Tryz.func167.trans (congrArg some (by kernel_rfl))⟩
 f26:=⟨Tryz.f168.name,by decide,Tryz.func168.trans (congrArg some (by kernel_rfl))⟩
 f27:=⟨Tryz.f169.name,by decide,Tryz.func169.trans (congrArg some (by kernel_rfl))⟩
 f28:=Tryz.func170.trans (congrArg some (by kernel_rfl))
 f29:=Tryz.func171.trans (congrArg some (by kernel_rfl))
 f46:=⟨Tryz.f172.name,by decide,Tryz.func172.trans (congrArg some (by kernel_rfl))⟩
 f47:=Tryz.func173.trans (congrArg some (by kernel_rfl))
 f48:=Tryz.func174.trans (congrArg some (by kernel_rfl))
 f49:=⟨Tryz.f175.name,by decide,Tryz.func175.trans (congrArg some (by kernel_rfl))⟩
 f50:=⟨Tryz.f176.name,by decide,Tryz.func176.trans (congrArg some (by kernel_rfl))⟩
 f57:=⟨Tryz.f177.name,by decide,Tryz.func177.trans (congrArg some (by kernel_rfl))⟩
 t0:=Tryz.underlying0
 a0:=Tryz.isAgg0
 z0:=Tryz.sizeOf0
 v0:=Tryz.zeroValue0
 t3:=Tryz.underlying3
 a3:=Tryz.isAgg3
 z3:=Tryz.sizeOf3
 v3:=Tryz.zeroValue3
 t4:=Tryz.underlying4
 a4:=Tryz.isAgg4
 z4:=Tryz.sizeOf4
 v4:=Tryz.zeroValue4
 t5:=Tryz.underlying5
 a5:=Tryz.isAgg5
 z5:=Tryz.sizeOf5
 v5:=Tryz.zeroValue5
 t9:=Tryz.underlying9
 a9:=Tryz.isAgg9
 z9:=Tryz.sizeOf9
 v9:=Tryz.zeroValue9
 t22:=Tryz.underlying26
 a22:=Tryz.isAgg26
 z22:=Tryz.sizeOf26
 v22:=Tryz.zeroValue26
 t25:=Tryz.underlying204
 a25:=Tryz.isAgg204
 z25:=Tryz.sizeOf204
 v25:=Tryz.zeroValue204
 t39:=Tryz.underlying156
 a39:=Tryz.isAgg156
 z39:=Tryz.sizeOf156
 v39:=Tryz.zeroValue156
 t45:=Tryz.underlying209
 a45:=Tryz.isAgg209
 z45:=Tryz.sizeOf209
 v45:=Tryz.zeroValue209
 t46:=Tryz.underlying210
 a46:=Tryz.isAgg210
 z46:=Tryz.sizeOf210
 v46:=Tryz.zeroValue210
 t50:=Tryz.underlying91
 a50:=Tryz.isAgg91
 z50:=Tryz.sizeOf91
 v50:=Tryz.zeroValue91
 t53:=Tryz.underlying216
 a53:=Tryz.isAgg216
 z53:=Tryz.sizeOf216
 v53:=Tryz.zeroValue216
 t55:=Tryz.underlying60
 a55:=Tryz.isAgg60
 z55:=Tryz.sizeOf60
 v55:=Tryz.zeroValue60
 t66:=Tryz.underlying217
 a66:=Tryz.isAgg217
 z66:=Tryz.sizeOf217
 v66:=Tryz.zeroValue217
 t70:=Tryz.underlying221
 a70:=Tryz.isAgg221
 z70:=Tryz.sizeOf221
 v70:=Tryz.zeroValue221
 t76:=Tryz.underlying223
 a76:=Tryz.isAgg223
 z76:=Tryz.sizeOf223
 v76:=Tryz.zeroValue223
 t77:=Tryz.underlying224
 a77:=Tryz.isAgg224
 z77:=Tryz.sizeOf224
 v77:=Tryz.zeroValue224 }
end Go.Proofs
namespace Go.Proofs.YtaiogolidlamiaaGreatDoor
end Go.Proofs.YtaiogolidlamiaaGreatDoor
