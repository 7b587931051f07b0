import Derived.WalkKit
import Derived.Deep.Quiet
import Derived.Lib.Hide
import Derived.Deep.QuietTactic
import Derived.StillTail
import Derived.OrdersHeld
set_option linter.unusedVariables false
set_option linter.unusedSimpArgs false
namespace Go.Proofs.YtaiogolidlamiaaGreatDoor
set_option maxRecDepth 100000
open Go.RowKit
structure Ext (w W:World):Prop where
 below:Below w.heap.size w W
theorem Ext.refl (w:World):Ext w w:=⟨Below.refl _ _⟩
theorem Ext.trans {a b c:World} (h:Ext a b) (k:Ext b c):Ext a c:=
 ⟨h.below.trans (k.below.mono h.below.size)⟩
theorem Ext.alloc {a b:World} (h:Ext a b) (o:Obj):Ext a (b.alloc o):=⟨h.below.alloc h.below.size o⟩
theorem Ext.drew {a b:World} (h:Ext a b):Ext a b.drew:=⟨h.below.drew⟩
theorem Ext.drawn1 {a b:World} (h:Ext a b):Ext a { b with drawn:=b.drawn+1 }:=h.drew
theorem Ext.setCell {a b:World} (h:Ext a b) {p:Addr} (hp:a.heap.size≤p.block) (v:Value):Ext a (b.setCell p v):=⟨h.below.setCell hp v⟩
theorem Bv (w:World) (g:Nat) (cs:Array Value):w.grownBy (w.setRow g cs) (some g):=
 ⟨rfl,rfl,rfl,by simp,fun k _ hk=>setRow_other w g k cs (fun e=>hk (by rw [e]))⟩
theorem Ext.setRow {a b:World} (h:Ext a b) {g:Nat} (hg:a.heap.size≤g) (cs:Array Value):Ext a (b.setRow g cs):=
 ⟨h.below.grown (Bv b g cs) h.below.size (fun k e=>by cases e;exact hg)⟩
theorem Ext.grown {a b c:World} {row:Option Nat} (h:Ext a b) (hg:b.grownBy c row) (hr:∀ k,row=some k→a.heap.size≤k):Ext a c:=⟨h.below.grown hg h.below.size hr⟩
theorem Ext.size {a b:World} (h:Ext a b):a.heap.size≤b.heap.size:=h.below.size
theorem Ext.block {a b:World} (h:Ext a b) {k:Nat} (hk:k<a.heap.size):b.heap[k]? = a.heap[k]? := h.below.block k hk
theorem Ext.heap {a b:World} (h:Ext a b) {k:Nat} {o:Obj} (hk:a.heap[k]? = some o):b.heap[k]? = some o:=
 (h.block (Array.getElem?_eq_some_iff.1 hk).1).trans hk
theorem Ext.cell {a b:World} (h:Ext a b) {p:Addr} {v:Value} (hc:a.cell? p=some v):b.cell? p=some v:=
 (h.below.cell (World.block_lt_of_cell? a p hc)).trans hc
theorem Af {w:World} {k:Nat} {o:Obj} (h:w.heap[k]? = some o) (x:Obj):(w.alloc x).heap[k]? = some o:=
 (Below.heap_alloc w x k (Array.getElem?_eq_some_iff.1 h).1).trans h
theorem Bq {w:World} {k:Nat} {o:Obj} (h:w.heap[k]? = some o) {g:Nat} (hne:k≠g) (cs:Array Value):(w.setRow g cs).heap[k]? = some o:=
 (setRow_other w g k cs hne).trans h
theorem Al {w:World} {k:Nat} {o:Obj} (h:w.heap[k]? = some o):k<w.heap.size:=(Array.getElem?_eq_some_iff.1 h).1
def Sl (W:World) (v:Value) (k n:Nat) (f:Nat→Value):Prop:=
 n≤4611686018427387904∧((n=0∧∃ a cap,v=.slice a 0 cap)∨
  (0<n∧∃ b off cap,v=.slice (some ⟨b,off,none⟩) n cap∧b<W.heap.size∧∀ i,i<n*k→W.cell? ⟨b,off+i,none⟩=some (f i)))
theorem Sl.ext {W W':World} {v:Value} {k n:Nat} {f:Nat→Value} (h:Sl W v k n f) (hE:Ext W W'):Sl W' v k n f:=by
 obtain ⟨h0,h|⟨hn,b,off,cap,hv,hb,hc⟩⟩:=h
 ·exact ⟨h0,.inl h⟩
 ·exact ⟨h0,.inr ⟨hn,b,off,cap,hv,Nat.lt_of_lt_of_le hb hE.size,fun i hi=>hE.cell (hc i hi)⟩⟩
theorem Sl.congr {W:World} {v:Value} {k n:Nat} {f g:Nat→Value} (h:Sl W v k n f) (hfg:∀ i,i<n*k→f i=g i):Sl W v k n g:=by
 obtain ⟨h0,h|⟨hn,b,off,cap,hv,hb,hc⟩⟩:=h
 ·exact ⟨h0,.inl h⟩
 ·exact ⟨h0,.inr ⟨hn,b,off,cap,hv,hb,fun i hi=>by rw [hc i hi,hfg i hi]⟩⟩
theorem Sl.nil (W:World) (k:Nat) (f:Nat→Value):Sl W (.slice none 0 0) k 0 f:=⟨by omega,.inl ⟨rfl,_,_,rfl⟩⟩
abbrev bv (x:UInt8):Value:=.int .u8 (x.toNat:Int)
def By (W:World) (v:Value) (l:List UInt8):Prop:=Sl W v 1 l.length (fun i=>bv (l.getD i 0))
theorem Ext.grownBy {a b:World} (h:Ext a b) (row:Option Nat):a.grownBy b row:=⟨h.below.os,h.below.tape,h.below.output,h.size,fun _ hk _=>h.block hk⟩
theorem Ah {a b:World} {base:Nat} {e:TypeId} {size:Nat} {v:Value} {n:Nat} {xs:List Value} (h:a.ownsRow base e size v n xs) (hE:Ext a b):b.ownsRow base e size v n xs:=
 h.kept (hE.grownBy none) (by cases v.ownBlock<;>simp)
theorem Sl.of_owns {w:World} {base:Nat} {e:TypeId} {k:Nat} {v:Value} {n:Nat} {xs:List Value} (h:w.ownsRow base e k v n xs) (hn:n≤4611686018427387904) (d:Value):Sl w v k n (fun i=>xs.getD i d):=by
 refine ⟨hn,?_⟩;obtain ⟨hl,⟨rfl,rfl⟩|⟨g,cap,cur,rfl,hb,hg,hnc,hcm,hcs,htake⟩⟩:=h
 ·exact .inl ⟨rfl,_,_,rfl⟩
 ·by_cases h0:n=0
  ·subst h0;exact .inl ⟨rfl,_,_,rfl⟩
  ·refine .inr ⟨by omega,g,0,cap,rfl,Al hg,fun i hi=>?_⟩;rw [Nat.zero_add,cell_of_row w g i cur e (0,0) hg];have h1:xs[i]? = cur.toList[i]? := by rw [← htake,List.getElem?_take,if_pos hi]
   have h2:i<xs.length:=by omega
   show cur[i]? = some (xs.getD i d);rw [List.getD_eq_getElem?_getD,List.getElem?_eq_getElem h2,Option.getD_some,← Array.getElem?_toList,← h1,List.getElem?_eq_getElem h2]
theorem By.of_owns {w:World} {base:Nat} {v:Value} {l:List UInt8} (h:w.ownsRow base 5 1 v l.length (l.map bv)) (hn:l.length≤4611686018427387904):By w v l:=
 (Sl.of_owns h hn (bv 0)).congr fun i hi=>by
  simp only [List.getD_eq_getElem?_getD,List.getElem?_map];cases l[i]?<;>rfl
theorem By.ext {W W':World} {v:Value} {l:List UInt8} (h:By W v l) (hE:Ext W W'):By W' v l:=Sl.ext h hE
theorem By.len {W:World} {v:Value} {l:List UInt8} (h:By W v l):∃ a cap,v=.slice a l.length cap:=by
 obtain ⟨_,⟨hn,a,cap,rfl⟩|⟨_,b,off,cap,rfl,_⟩⟩:=h
 ·exact ⟨a,cap,by rw [hn]⟩
 ·exact ⟨_,cap,rfl⟩
open Go
section
variable {P:Program} {ops:Array Oper} {md:Region.Mode} {C:World→Prop}
def It (P:Program) (md:Region.Mode) (ops:Array Oper) (C:World→Prop) (n:Nat) (L:Array Bool→Act→Prop):Nat→Array Bool→Act→Prop
 | 0,listed,a=>L listed a
 | f+1,listed,a=>
  Region.ready md ops listed≠[]∧∀ i∈Region.ready md ops listed,i<n∧qOp P ops C i (It P md ops C n L f (listed.setIfInBounds i true)) a
theorem Ahk {n g:Nat} {L:Array Bool→Act→Prop} {Q':Exit→Act→World→Prop} (hL:∀ listed a w,C w→L listed a→wpAny P md ops Q' g listed a w) :
  ∀ (f:Nat) (listed:Array Bool) (a:Act) (w:World),C w→It P md ops C n L f listed a→wpAny P md ops Q' (f+g) listed a w:=by
 intro f;induction f with
 | zero=>intro listed a w hw h;rw [Nat.zero_add];exact hL _ _ _ hw h
 | succ f ih=>
  intro listed a w hw h;rw [show f+1+g=(f+g)+1 by omega];exact ⟨fun h0=>absurd h0 h.1,fun i hi=>wpOp_of_qOp hw (fun a' w' hw' h'=>ih _ a' w' hw' h') (h.2 i hi).2⟩
theorem Aea {n i:Nat} {oi:Oper} {v:Value} {L:Array Bool→Act→Prop} (hi:ops[i]? = some oi) (hsel:∀ (j:Nat) (o:Oper) cs b,ops[j]? = some o→o.op≠.select cs b)
  (hs:Region.sinkB md ops n=true) (hc:Region.chainB md ops n=true) (hn:n<ops.size) (hin:i<n)
  (hdone:∀ listed a,L listed a→∀ j∈Region.ready md ops listed,n≤j) :
  ∀ (f:Nat) (listed:Array Bool) (a:Act),HeadInv md ops n listed→
   (∀ j oj,ops[j]? = some oj→j≠i→listed.getD j true=false→(∀ e∈oj.after,Region.binds md e=true→e.on≠i)→oi.apart ops oj=true)→
   i∈Region.ready md ops listed→YieldsIn P ops C oi v a→
   It P md ops C n L f (listed.setIfInBounds i true) (a.put oi.dst v)→It P md ops C n L (f+1) listed a:=by
 intro f;induction f with
 | zero=>
  intro listed a inv _ hr hy H;refine ⟨fun h=>(by rw [h] at hr;cases hr),fun j hj=>?_⟩;have hjn:j<n:=Nat.lt_of_not_le fun h=>tail_waits hs hc hn inv _ i rfl hin (mem_ready.1 hr).1 j h hj
  refine ⟨hjn,?_⟩;by_cases hji:j=i
  ·subst hji;exact hy.qOp hi H
  ·exact absurd (hdone _ _ H j (ready_mono hj hji)) (by omega)
 | succ f ih=>
  intro listed a inv hfree hr hy H;have hun:=(mem_ready.1 hr).1;refine ⟨fun h=>(by rw [h] at hr;cases hr),fun j hj=>?_⟩;have hjn:j<n:=Nat.lt_of_not_le fun h=>tail_waits hs hc hn inv _ i rfl hin hun j h hj
  refine ⟨hjn,?_⟩;by_cases hji:j=i
  ·subst hji;exact hy.qOp hi H
  ·obtain ⟨hjun,oj,hoj,hall⟩:=mem_ready.1 hj;have hnot:∀ e∈oj.after,Region.binds md e=true→e.on≠i:=fun e he hb heq=>by
    have h1:=hall e he hb;rw [heq,getD_both hun] at h1;cases h1
   have h2:=qOp_put hoj (hfree j oj hoj hji hjun hnot) (fun cs b=>hsel i oi cs b hi) (fun cs b=>hsel j oj cs b hoj) hy (H.2 j (ready_mono hj hji)).2;refine qOp_mono (fun a' h3=>ih (listed.setIfInBounds j true) a' (inv.set hj hjn) (fun k ok hk hki hunk hno=>?_) (ready_mono hr (Ne.symm hji)) h3.1 ?_) h2
   ·refine hfree k ok hk hki ?_ hno;by_cases hjk:j=k
    ·subst hjk;exact hjun
    ·rwa [getD_set_ne true hjk] at hunk
   ·rw [Array.setIfInBounds_comm _ _ hji];exact h3.2
theorem Ad9 {n g:Nat} {Lq:Act→Prop} (hsel:Region.noSelect ops=true) (hs:Region.sinkB md ops n=true) (hc:Region.chainB md ops n=true) (hn:n<ops.size) :
  ∀ (l:List Oper) (k:Nat) (listed:Array Bool) (a:Act),(∀ j,j<l.length→l[j]? = ops[k+j]?)→k+l.length=n→HeadInv md ops n listed→
  Region.lexHead md ops g l.length k listed=true→wpQuiet P ops C Lq l a→
  It P md ops C n (fun listed' a'=>Region.seqB md ops g n listed'=true∧Lq a') l.length listed a:=by
 intro l;induction l with
 | nil=>
  intro k listed a _ hk _ hB h;obtain rfl:k=n:=by simpa using hk
  exact ⟨by simpa [Region.lexHead] using hB,h⟩
 | cons o l ih=>
  intro k listed a hl hk inv hB h;have h0:ops[k]? = some o:=by simpa using (hl 0 (by simp)).symm
  simp only [List.length_cons,Region.lexHead,Bool.and_eq_true] at hB;have hkn:k<n:=by simp only [List.length_cons] at hk;omega
  have hr':k∈Region.ready md ops listed:=by simpa using hB.1.1
  have hst:qOp P ops C k (wpQuiet P ops C Lq l) a:=by unfold qOp;simp only [h0];exact h
  obtain ⟨v,hy,hK⟩:=yieldsIn_of_qOp h0 hst;exact Aea h0 (Region.noSelect_spec hsel) hs hc hn hkn (fun listed' a' hL=>seqB_ready hL.1) l.length listed a inv (Region.free_spec h0 hB.1.2) hr' hy
   (ih (k+1) _ _ (fun j hj=>by have:=hl (j+1) (by simp;omega);simpa [Nat.add_assoc,Nat.add_comm 1 j] using this) (by simp only [List.length_cons] at hk;omega) (inv.set hr' hkn) hB.2 hK)
theorem Vz {id:Nat} {Q:Exit→Act→World→Prop} {a:Act} {w:World} {l:List Oper} (n:Nat) (hm:P.follows .mixedOrders=true) (hB:Region.lexTailB .any l.toArray n=true) (hC:C { w with drawn:=w.drawn+1 })
  (h:wpQuiet P l.toArray C (fun a'=>∀ w',C w'→wpList P l.toArray Q (l.drop n) a' w') (l.take n) a):(Code.region id l.toArray true).wp P Q a w:=by
 simp only [Region.lexTailB,Bool.and_eq_true,decide_eq_true_eq] at hB;obtain ⟨⟨⟨⟨hsel,hn⟩,hs⟩,hc⟩,hlex⟩:=hB;have hn':n<l.length:=by simpa using hn
 have htl:(l.take n).length=n:=by simp;omega
 have hdl:(l.drop n).length=l.toArray.size-n:=by simp
 have inv0:HeadInv .any l.toArray n (Array.replicate l.toArray.size false):=
  ⟨by simp,fun j oj _ hl=>(by rw [getD_replicate_false] at hl;cases hl),fun t _ ht=>getD_in (by simpa using ht) (getD_replicate_false _ _)⟩
 have H:=Ad9 (md:=.any) (g:=l.toArray.size-n) hsel hs hc hn (l.take n) 0 _ a (fun j hj=>by
  have hj':j<n:=by rw [htl] at hj;exact hj
  simp [hj']) (by simpa using htl) inv0 (by rw [htl];exact hlex) h
 refine wp_region_any hm ?_;have:=Ahk (Q':=Q) (g:=l.toArray.size-n) (fun listed a' w' hw' hL=>by
  have:=wpAny_of_seq (md:=.any) (Q':=Q) (l.drop n) n listed a' w' (fun j=>by simp [List.getElem?_drop]) (by rw [hdl];exact hL.1) (hL.2 w' hw')
  rwa [hdl] at this) _ _ _ _ hC H
 rw [htl,show n+(l.toArray.size-n)=l.toArray.size by omega] at this;exact this
theorem V4 {Q:Exit→Act→World→Prop} (r:List Oper):∀ (l:List Oper) (a:Act) (w:World),C w→wpQuiet P ops C (fun a'=>∀ w',C w'→wpList P ops Q r a' w') l a→wpList P ops Q (l++r) a w:=by
 intro l;induction l with
 | nil=>intro a w hw h;exact h w hw
 | cons o l ih=>
  intro a w hw h;show if _ then _ else _
  unfold wpQuiet at h;split at h
  ·rename_i hwa
   rw [if_pos hwa];exact .inl (Oper.wp_of_quiet hw (fun a' w' hw' h'=>ih a' w' hw' h') h)
  ·rename_i hwa
   rw [if_neg hwa];exact ih _ _ hw h
theorem Vy {id:Nat} {Q:Exit→Act→World→Prop} {a:Act} {w:World} {l:List Oper} (n:Nat) (hC:C w)
  (h:wpQuiet P l.toArray C (fun a'=>∀ w',C w'→wpList P l.toArray Q (l.drop n) a' w') (l.take n) a):(Code.region id l.toArray false).wp P Q a w:=by
 refine wp_region_lit ?_;have:=V4 (l.drop n) (l.take n) a w hC h
 rwa [List.take_append_drop] at this
end
structure EW (w:World) where
 W:World
 ext:Ext w W
instance (w:World):Nonempty (EW w):=⟨⟨w,Ext.refl w⟩⟩
section
variable {P:Program}
theorem Ew {id:Nat} {Q:Exit→Act→World→Prop} {a:Act} {w:World} {l:List Oper} (hm:P.follows .mixedOrders=true) (hB:Region.lexB .any l.toArray=true)
  (h:wpQuiet P l.toArray (fun W=>∃ e:EW w,W=e.W) (fun a'=>∀ w',(∃ e:EW w,w'=e.W)→Q .normal a' w') l a):(Code.region id l.toArray true).wp P Q a w:=
 wp_region_quiet (C:=fun W=>∃ e:EW w,W=e.W) hm hB ⟨⟨_,(Ext.refl w).drawn1⟩,rfl⟩ (by simpa using h)
theorem Ze {id:Nat} {Q:Exit→Act→World→Prop} {a:Act} {w:World} {l:List Oper} (n:Nat) (hm:P.follows .mixedOrders=true) (hB:Region.lexTailB .any l.toArray n=true)
  (h:wpQuiet P l.toArray (fun W=>∃ e:EW w,W=e.W) (fun a'=>∀ w',(∃ e:EW w,w'=e.W)→wpList P l.toArray Q (l.drop n) a' w') (l.take n) a):(Code.region id l.toArray true).wp P Q a w:=
 Vz (C:=fun W=>∃ e:EW w,W=e.W) n hm hB ⟨⟨_,(Ext.refl w).drawn1⟩,rfl⟩ h
theorem Zd {id:Nat} {Q:Exit→Act→World→Prop} {a:Act} {w:World} {l:List Oper} (n:Nat)
  (h:wpQuiet P l.toArray (fun W=>∃ e:EW w,W=e.W) (fun a'=>∀ w',(∃ e:EW w,w'=e.W)→wpList P l.toArray Q (l.drop n) a' w') (l.take n) a):(Code.region id l.toArray false).wp P Q a w:=
 Vy (C:=fun W=>∃ e:EW w,W=e.W) n ⟨⟨_,Ext.refl w⟩,rfl⟩ h
theorem Gb {f:FuncId} {args:Array Value} {w:World} {e0:EW w} {v:Value} (h:Calls P f args e0.W fun e w'=>e=.returned v∧Ext e0.W w') :
  Calls P f args e0.W fun e w''=>e=.returned v∧∃ e1:EW w,w''=e1.W:=
 h.mono fun _ w' ⟨he,hw⟩=>⟨he,⟨w',e0.ext.trans hw⟩,rfl⟩
end
section
variable {P:Program} {md:Region.Mode} {ops:Array Oper} {Q:Exit→Act→World→Prop} {C:World→Prop} {n:Nat}
def Jd (P:Program) (md:Region.Mode) (ops:Array Oper) (Q:Exit→Act→World→Prop) (C:World→Prop) (n:Nat):Nat→Array Bool→Act→World→Prop
 | 0,listed,a,w=>Region.ready md ops listed=[]∧Q .normal a w
 | f+1,listed,a,w=>(Region.ready md ops listed=[]→Q .normal a w)∧
  ∀ i∈Region.ready md ops listed,wpOp P ops Q i (fun a' w'=>(i<n→C w')∧Jd P md ops Q C n f (listed.setIfInBounds i true) a' w') a w
theorem Ve:∀ (f:Nat) (listed:Array Bool) (a:Act) (w:World),Jd P md ops Q C n f listed a w→wpAny P md ops Q f listed a w
 | 0,_,_,_,h=>h
 | f+1,_,_,_,h=>⟨h.1,fun i hi=>wpOp_mono (fun _ _ h'=>Ve f _ _ _ h'.2) (h.2 i hi)⟩
theorem Ahl {i:Nat} {oi:Oper} {v:Value} (hi:ops[i]? = some oi) (hsel:∀ (j:Nat) (o:Oper) cs b,ops[j]? = some o→o.op≠.select cs b)
  (hs:Region.sinkB md ops n=true) (hc:Region.chainB md ops n=true) (hn:n<ops.size) (hin:i<n)
  (hQ:∀ c a w,Q (.panic c) (a.put oi.dst v) w→Q (.panic c) a w) :
  ∀ (f:Nat) (listed:Array Bool) (a:Act) (w:World),HeadInv md ops n listed→
   (∀ j oj,ops[j]? = some oj→j≠i→listed.getD j true=false→(∀ e∈oj.after,Region.binds md e=true→e.on≠i)→oi.apart ops oj=true)→
   i∈Region.ready md ops listed→YieldsIf P ops C oi v a→C w→
   Jd P md ops Q C n f (listed.setIfInBounds i true) (a.put oi.dst v) w→Jd P md ops Q C n (f+1) listed a w:=by
 intro f;induction f with
 | zero=>
  intro listed a w _ _ hr hy hC H;refine ⟨fun h=>(by rw [h] at hr;cases hr),fun j hj=>?_⟩;by_cases hji:j=i
  ·subst hji;exact hy.wpOp hi hC ⟨fun _=>hC,H⟩
  ·have:=ready_mono hj hji;rw [H.1] at this;cases this
 | succ f ih=>
  intro listed a w inv hfree hr hy hC H;have hun:=(mem_ready.1 hr).1;refine ⟨fun h=>(by rw [h] at hr;cases hr),fun j hj=>?_⟩;by_cases hji:j=i
  ·subst hji;exact hy.wpOp hi hC ⟨fun _=>hC,H⟩
  ·have hjn:j<n:=Nat.lt_of_not_le fun h=>tail_waits hs hc hn inv _ i rfl hin hun j h hj
   have h1:=H.2 j (ready_mono hj hji);obtain ⟨hjun,oj,hoj,hall⟩:=mem_ready.1 hj;have hnot:∀ e∈oj.after,Region.binds md e=true→e.on≠i:=fun e he hb heq=>by
    have h1:=hall e he hb;rw [heq,getD_both hun] at h1;cases h1
   have h2:=wpOp_putIf hoj (hfree j oj hoj hji hjun hnot) (fun cs b=>hsel i oi cs b hi) (fun cs b=>hsel j oj cs b hoj) hQ hy h1;have hfree':∀ k ok,ops[k]? = some ok→k≠i→(listed.setIfInBounds j true).getD k true=false→
     (∀ e∈ok.after,Region.binds md e=true→e.on≠i)→oi.apart ops ok=true:=fun k ok hk hki hunk hno=>by
    refine hfree k ok hk hki ?_ hno;by_cases hjk:j=k
    ·subst hjk;exact hjun
    ·rw [getD_set_ne true hjk] at hunk;exact hunk
   refine wpOp_mono (fun a' w' h3=>⟨fun _=>h3.2.1 hjn,ih (listed.setIfInBounds j true) a' w' (inv.set hj hjn) hfree' (ready_mono hr (Ne.symm hji)) h3.1 (h3.2.1 hjn) ?_⟩) h2;rw [Array.setIfInBounds_comm _ _ hji];exact h3.2.2
def Dt (P:Program) (ops:Array Oper) (Q:Exit→Act→World→Prop) (C:World→Prop) (n:Nat):List (Nat × Bool)→Act→World→Prop
 | [],a,w=>Q .normal a w
 | (i,true)::is,a,w=>∃ o v,ops[i]? = some o∧YieldsIf P ops C o v a∧Dt P ops Q C n is (a.put o.dst v) w
 | (i,false)::is,a,w=>wpOp P ops Q i (fun a' w'=>(i<n→C w')∧Dt P ops Q C n is a' w') a w
def D8 (md:Region.Mode) (ops:Array Oper) (n:Nat):List (Nat × Bool)→Array Bool→Bool
 | [],listed=>(Region.ready md ops listed).isEmpty
 | (i,true)::is,listed=>(Region.ready md ops listed).contains i&&decide (i<n)&&Region.free md ops listed i&&D8 md ops n is (listed.setIfInBounds i true)
 | (i,false)::is,listed=>decide (Region.ready md ops listed=[i])&&(is.isEmpty||decide (i<n))&&D8 md ops n is (listed.setIfInBounds i true)
theorem Ov (hsel:Region.noSelect ops=true) (hs:Region.sinkB md ops n=true) (hc:Region.chainB md ops n=true) (hn:n<ops.size)
  (hQ:∀ c a tm w,Q (.panic c) { tmps:=tm,defers:=a.defers } w→Q (.panic c) a w):∀ (is:List (Nat × Bool)) (listed:Array Bool) (a:Act) (w:World),(is≠[]→HeadInv md ops n listed)→D8 md ops n is listed=true→(is≠[]→C w)→
   Dt P ops Q C n is a w→Jd P md ops Q C n is.length listed a w
 | [],listed,a,w,_,hB,_,h=>⟨by simpa [D8] using hB,h⟩
 | (i,true)::is,listed,a,w,inv,hB,hC,⟨o,v,ho,hy,h⟩=>by
  simp only [D8,Bool.and_eq_true,decide_eq_true_eq] at hB;obtain ⟨⟨⟨hr,hin⟩,hf⟩,hB'⟩:=hB;have hr':i∈Region.ready md ops listed:=by simpa using hr
  have inv:=inv (by simp);have hC:=hC (by simp);exact Ahl ho (Region.noSelect_spec hsel) hs hc hn hin (fun c a w hp=>by
    cases hd:o.dst with
    | none=>rw [hd] at hp;exact hp
    | some t=>rw [hd] at hp;exact hQ c a _ w hp) _ listed a w inv (Region.free_spec ho hf) hr' hy hC
   (Ov hsel hs hc hn hQ is _ _ w (fun _=>inv.set hr' hin) hB' (fun _=>hC) h)
 | (i,false)::is,listed,a,w,inv,hB,hC,h=>by
  simp only [D8,Bool.and_eq_true,decide_eq_true_eq,Bool.or_eq_true,List.isEmpty_iff] at hB;obtain ⟨⟨hr,hin⟩,hB'⟩:=hB;have hr':i∈Region.ready md ops listed:=by rw [hr];simp
  refine ⟨fun h1=>(by rw [hr] at h1;cases h1),fun j hj=>?_⟩;rw [hr] at hj;have:j=i:=by simpa using hj
  subst this;refine wpOp_mono (fun a' w' h'=>⟨h'.1,Ov hsel hs hc hn hQ is _ a' w' (fun hne=>?_) hB' (fun hne=>?_) h'.2⟩) h
  ·rcases hin with h0|h0
   ·exact absurd h0 hne
   ·exact (inv (by simp)).set hr' h0
  ·rcases hin with h0|h0
   ·exact absurd h0 hne
   ·exact h'.1 h0
def J1 (md:Region.Mode) (ops:Array Oper) (n:Nat) (is:List (Nat × Bool)):Bool:=
 Region.noSelect ops&&Region.sinkB md ops n&&Region.chainB md ops n&&decide (n<ops.size)&&decide (is.length=ops.size)&&D8 md ops n is (Array.replicate ops.size false)
theorem Cr {id:Nat} {a:Act} {w:World} (n:Nat) (is:List (Nat × Bool)) (hm:P.follows .mixedOrders=true) (hB:J1 .any ops n is=true) (hQ:∀ c a tm w,Q (.panic c) { tmps:=tm,defers:=a.defers } w→Q (.panic c) a w)
  (C:World→Prop) (hC:C w.drew) (h:Dt P ops Q C n is a w.drew):(Code.region id ops true).wp P Q a w:=by
 simp only [J1,Bool.and_eq_true,decide_eq_true_eq] at hB;obtain ⟨⟨⟨⟨⟨hsel,hs⟩,hc⟩,hn⟩,hlen⟩,hB⟩:=hB;refine wp_region_any hm (Ve (C:=C) (n:=n) _ _ _ _ ?_);rw [← hlen];have inv:HeadInv .any ops n (Array.replicate is.length false):=by
  rw [hlen];exact ⟨by simp,fun j oj _ hl=>(by rw [getD_replicate_false] at hl;cases hl),fun t _ ht=>getD_in (by simpa using ht) (getD_replicate_false _ _)⟩
 exact Ov hsel hs hc hn hQ is _ a _ (fun _=>inv) (by rw [hlen];exact hB) (fun _=>hC) h
theorem Cu {a:Act} {w:World} (h:Q .normal a w):Dt P ops Q C n [] a w:=h
theorem D7 {i:Nat} {is:List (Nat × Bool)} {o:Oper} {v:Value} {a:Act} {w:World} (h0:ops[i]? = some o) (hw:Region.wanted o (yielded ops a.tmps)=true) (hy:∀ W,C W→(execOp a.eval o).run P W=.ok (.value v) W)
  (h:Dt P ops Q C n is (a.put o.dst v) w):Dt P ops Q C n ((i,true)::is) a w:=⟨o,v,h0,.inl ⟨hw,hy⟩,h⟩
theorem Cg {i:Nat} {is:List (Nat × Bool)} {o:Oper} {a:Act} {w:World} (h0:ops[i]? = some o)
  (h:∀ K:Act→World→Prop,(∀ a' w',(i<n→C w')→Dt P ops Q C n is a' w'→K a' w')→if Region.wanted o (yielded ops a.tmps)=true then Oper.wp P o a w K Q else K (a.put o.dst undef) w):Dt P ops Q C n ((i,false)::is) a w:=by
 show wpOp P ops Q i _ a w;unfold wpOp;rw [h0];have:=h _ (fun a' w' hc ht=>And.intro hc ht);show if _ then _ else _
 by_cases hw:Region.wanted o (yielded ops a.tmps)=true
 ·rw [if_pos hw] at this ⊢;exact .inl this
 ·rw [if_neg hw] at this ⊢;exact this
end
end Go.Proofs.YtaiogolidlamiaaGreatDoor
