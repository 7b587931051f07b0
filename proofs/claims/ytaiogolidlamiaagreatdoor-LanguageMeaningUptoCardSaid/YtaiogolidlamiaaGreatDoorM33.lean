import Derived.OrdersIn
import Derived.TacticsInMore
import Derived.Test.YtaiogolidlamiaaGreatDoorM08
import Derived.Deep.Upon
import Derived.Test.YtaiogolidlamiaaGreatDoorM32
set_option linter.unusedVariables false
set_option linter.unusedSimpArgs false
namespace Go.Proofs.YtaiogolidlamiaaGreatDoor
set_option maxRecDepth 100000
open Go
section
variable {F:Fence} {m:Nat} {P:Program} {md:Region.Mode} {ops:Array Oper} {Q:Exit→Act→World→Prop} {C:World→Prop} {n:Nat}
def K6 (ops:Array Oper):Bool:=(List.range ops.size).all fun j=>match ops[j]? with
 | some o=>(match o.op with|.defer _=>false|_=>true)
 | none=>true
theorem Oi (h:K6 ops=true) {j:Nat} {o:Oper} (hj:ops[j]? = some o):∀ c,o.op≠.defer c:=by
 intro c hc;have hlt:j<ops.size:=(Array.getElem?_eq_some_iff.1 hj).1;have:=List.all_eq_true.1 h j (List.mem_range.2 hlt);rw [hj] at this;simp [hc] at this
theorem Ql (hfn:∀ f,F.fn f) {i:Nat} {o:Oper} {v:Value} {a:Act} (hi:ops[i]? = some o) (hnd:∀ c,o.op≠.defer c) (hy:YieldsIf P ops C o v a)
  {K:Act→World→Prop} {w:World} (hC:C w) (h:K (a.put o.dst v) w):wpOpIn F m P ops Q i K a w:=by
 unfold Go.wpOpIn;simp only [hi];rcases hy with ⟨hw,hv⟩|⟨hw,rfl⟩
 ·simp only [hw,if_true,Oper.wpIn,Oper.semAt_eq _ _ _ hnd,hv w hC,Oper.uponIn];exact ⟨fun f _=>hfn f,h⟩
 ·simp only [hw,Bool.false_eq_true,if_false];exact ⟨fun f _=>hfn f,h⟩
theorem Xw (hfn:∀ f,F.fn f) {j:Nat} {oi oj:Oper} {v:Value} (hj:ops[j]? = some oj) (hnd:∀ c,oj.op≠.defer c) (hap:oi.apart ops oj=true)
  (hsi:∀ cs b,oi.op≠.select cs b) (hsj:∀ cs b,oj.op≠.select cs b)
  (hQ:∀ c a w,Q (.panic c) (a.put oi.dst v) w→Q (.panic c) a w) {K:Act→World→Prop} {a:Act} {w:World}
  (hy:YieldsIf P ops C oi v a) (h:wpOpIn F m P ops Q j K (a.put oi.dst v) w) :
  wpOpIn F m P ops Q j (fun a' w'=>YieldsIf P ops C oi v a'∧K (a'.put oi.dst v) w') a w:=by
 obtain ⟨h1,h2,h3⟩:=Oper.apart_spec hap;have keep:∀ (a:Act),YieldsIf P ops C oi v a→∀ u,YieldsIf P ops C oi v (a.put oj.dst u):=fun a hy u=>
  hy.of_same (execOp_put oi hsi a oj.dst u h3) (wanted_put oi a oj.dst u h3)
 have keepD:∀ d,YieldsIf P ops C oi v { a with defers:=d::a.defers }:=fun d=>hy.of_same rfl rfl
 unfold wpOpIn at *;simp only [hj] at *;rw [wanted_put oj a oi.dst v h1] at h;split
 ·rename_i hw
  simp only [hw,if_true] at h;unfold Oper.wpIn at *;refine ⟨fun f _=>hfn f,?_⟩;have h:=h.2;rw [Oper.semAt_eq _ _ _ hnd,execOp_put oj hsj a oi.dst v h1] at h;rw [Oper.semAt_eq _ _ _ hnd];generalize (execOp a.eval oj).run P w=r at *;cases r with
  | ok x w'=>
   cases x<;>simp only [Oper.uponIn] at h ⊢
   case value u=>exact ⟨keep a hy u,by rw [← Act.put_comm a v u h2];exact h⟩
   case skip=>exact ⟨keep a hy _,by rw [← Act.put_comm a v undef h2];exact h⟩
   case defer d=>
    refine ⟨keep _ (keepD d) _,?_⟩;rw [← Act.put_comm _ v undef h2,← Act.put_defers];exact h
   case enter f args=>
    refine ⟨h.1,CallsIn.mono h.2 fun e w'' he=>?_⟩;cases e with
    | returned u=>exact ⟨keep a hy u,by rw [← Act.put_comm a v u h2];exact he⟩
    | panicked c=>exact hQ _ _ _ he
    | outgrown=>exact he
   case row row args=>exact ⟨h.1,RowsIn.mono h.2 fun u w'' he=>⟨keep a hy u,by rw [← Act.put_comm a v u h2];exact he⟩⟩
   case round l f tmps assign body=>
    refine ⟨h.1,RoundIn.mono h.2 fun e w'' he=>?_⟩;cases e with
    | returned u=>exact ⟨keep a hy u,by rw [← Act.put_comm a v u h2];exact he⟩
    | panicked c=>exact hQ _ _ _ he
    | outgrown=>exact he
  | halt x w'=>
   cases x<;>simp only [Oper.uponIn] at h ⊢
   case panic u=>exact hQ _ _ _ h
 ·rename_i hw
  simp only [hw] at h;exact ⟨fun f _=>hfn f,keep a hy _,by rw [← Act.put_comm a v undef h2];exact h.2⟩
def Jw (F:Fence) (m:Nat) (P:Program) (md:Region.Mode) (ops:Array Oper) (Q:Exit→Act→World→Prop) (C:World→Prop) (n:Nat):Nat→Array Bool→Act→World→Prop
 | 0,listed,a,w=>Region.ready md ops listed=[]∧Q .normal a w
 | f+1,listed,a,w=>(Region.ready md ops listed=[]→Q .normal a w)∧
  ∀ i∈Region.ready md ops listed,wpOpIn F m P ops Q i (fun a' w'=>(i<n→C w')∧Jw F m P md ops Q C n f (listed.setIfInBounds i true) a' w') a w
theorem W8:∀ (f:Nat) (listed:Array Bool) (a:Act) (w:World),Jw F m P md ops Q C n f listed a w→wpAnyIn F m P md ops Q f listed a w
 | 0,_,_,_,h=>h
 | f+1,_,_,_,h=>⟨h.1,fun i hi=>wpOpIn_mono (fun _ _ h'=>W8 f _ _ _ h'.2) (h.2 i hi)⟩
theorem Aji (hfn:∀ f,F.fn f) (hnd:K6 ops=true) {i:Nat} {oi:Oper} {v:Value} (hi:ops[i]? = some oi) (hsel:∀ (j:Nat) (o:Oper) cs b,ops[j]? = some o→o.op≠.select cs b)
  (hs:Region.sinkB md ops n=true) (hc:Region.chainB md ops n=true) (hn:n<ops.size) (hin:i<n)
  (hQ:∀ c a w,Q (.panic c) (a.put oi.dst v) w→Q (.panic c) a w) :
  ∀ (f:Nat) (listed:Array Bool) (a:Act) (w:World),HeadInv md ops n listed→
   (∀ j oj,ops[j]? = some oj→j≠i→listed.getD j true=false→(∀ e∈oj.after,Region.binds md e=true→e.on≠i)→oi.apart ops oj=true)→
   i∈Region.ready md ops listed→YieldsIf P ops C oi v a→C w→
   Jw F m P md ops Q C n f (listed.setIfInBounds i true) (a.put oi.dst v) w→Jw F m P md ops Q C n (f+1) listed a w:=by
 intro f;induction f with
 | zero=>
  intro listed a w _ _ hr hy hC H;refine ⟨fun h=>(by rw [h] at hr;cases hr),fun j hj=>?_⟩;by_cases hji:j=i
  ·subst hji;exact Ql hfn hi (Oi hnd hi) hy hC ⟨fun _=>hC,H⟩
  ·have:=ready_mono hj hji;rw [H.1] at this;cases this
 | succ f ih=>
  intro listed a w inv hfree hr hy hC H;have hun:=(mem_ready.1 hr).1;refine ⟨fun h=>(by rw [h] at hr;cases hr),fun j hj=>?_⟩;by_cases hji:j=i
  ·subst hji;exact Ql hfn hi (Oi hnd hi) hy hC ⟨fun _=>hC,H⟩
  ·have hjn:j<n:=Nat.lt_of_not_le fun h=>tail_waits hs hc hn inv _ i rfl hin hun j h hj
   have h1:=H.2 j (ready_mono hj hji);obtain ⟨hjun,oj,hoj,hall⟩:=mem_ready.1 hj;have hnot:∀ e∈oj.after,Region.binds md e=true→e.on≠i:=fun e he hb heq=>by
    have h1:=hall e he hb;rw [heq,getD_both hun] at h1;cases h1
   have h2:=Xw hfn hoj (Oi hnd hoj) (hfree j oj hoj hji hjun hnot) (fun cs b=>hsel i oi cs b hi) (fun cs b=>hsel j oj cs b hoj) hQ hy h1;have hfree':∀ k ok,ops[k]? = some ok→k≠i→(listed.setIfInBounds j true).getD k true=false→
     (∀ e∈ok.after,Region.binds md e=true→e.on≠i)→oi.apart ops ok=true:=fun k ok hk hki hunk hno=>by
    refine hfree k ok hk hki ?_ hno;by_cases hjk:j=k
    ·subst hjk;exact hjun
    ·rw [getD_set_ne true hjk] at hunk;exact hunk
   refine wpOpIn_mono (fun a' w' h3=>⟨fun _=>h3.2.1 hjn,ih (listed.setIfInBounds j true) a' w' (inv.set hj hjn) hfree' (ready_mono hr (Ne.symm hji)) h3.1 (h3.2.1 hjn) ?_⟩) h2;rw [Array.setIfInBounds_comm _ _ hji];exact h3.2.2
def E9 (F:Fence) (m:Nat) (P:Program) (ops:Array Oper) (Q:Exit→Act→World→Prop) (C:World→Prop) (n:Nat):List (Nat × Bool)→Act→World→Prop
 | [],a,w=>Q .normal a w
 | (i,true)::is,a,w=>∃ o v,ops[i]? = some o∧YieldsIf P ops C o v a∧E9 F m P ops Q C n is (a.put o.dst v) w
 | (i,false)::is,a,w=>wpOpIn F m P ops Q i (fun a' w'=>(i<n→C w')∧E9 F m P ops Q C n is a' w') a w
theorem Qf (hfn:∀ f,F.fn f) (hnd:K6 ops=true) (hsel:Region.noSelect ops=true) (hs:Region.sinkB md ops n=true) (hc:Region.chainB md ops n=true) (hn:n<ops.size)
  (hQ:∀ c a tm w,Q (.panic c) { tmps:=tm,defers:=a.defers } w→Q (.panic c) a w):∀ (is:List (Nat × Bool)) (listed:Array Bool) (a:Act) (w:World),(is≠[]→HeadInv md ops n listed)→Ej md ops n is listed=true→(is≠[]→C w)→
   E9 F m P ops Q C n is a w→Jw F m P md ops Q C n is.length listed a w
 | [],listed,a,w,_,hB,_,h=>⟨by simpa [Ej] using hB,h⟩
 | (i,true)::is,listed,a,w,inv,hB,hC,⟨o,v,ho,hy,h⟩=>by
  simp only [Ej,Bool.and_eq_true,decide_eq_true_eq] at hB;obtain ⟨⟨⟨hr,hin⟩,hf⟩,hB'⟩:=hB;have hr':i∈Region.ready md ops listed:=by simpa using hr
  have inv:=inv (by simp);have hC:=hC (by simp);exact Aji hfn hnd ho (Region.noSelect_spec hsel) hs hc hn hin (fun c a w hp=>by
    cases hd:o.dst with
    | none=>rw [hd] at hp;exact hp
    | some t=>rw [hd] at hp;exact hQ c a _ w hp) _ listed a w inv (Region.free_spec ho hf) hr' hy hC
   (Qf hfn hnd hsel hs hc hn hQ is _ _ w (fun _=>inv.set hr' hin) hB' (fun _=>hC) h)
 | (i,false)::is,listed,a,w,inv,hB,hC,h=>by
  simp only [Ej,Bool.and_eq_true,decide_eq_true_eq,Bool.or_eq_true,List.isEmpty_iff] at hB;obtain ⟨⟨hr,hin⟩,hB'⟩:=hB;have hr':i∈Region.ready md ops listed:=by rw [hr];simp
  refine ⟨fun h1=>(by rw [hr] at h1;cases h1),fun j hj=>?_⟩;rw [hr] at hj;have:j=i:=by simpa using hj
  subst this;refine wpOpIn_mono (fun a' w' h'=>⟨h'.1,Qf hfn hnd hsel hs hc hn hQ is _ a' w' (fun hne=>?_) hB' (fun hne=>?_) h'.2⟩) h
  ·rcases hin with h0|h0
   ·exact absurd h0 hne
   ·exact (inv (by simp)).set hr' h0
  ·rcases hin with h0|h0
   ·exact absurd h0 hne
   ·exact h'.1 h0
theorem X0 {id:Nat} {a:Act} {w:World} (n:Nat) (is:List (Nat × Bool)) (hfn:∀ f,F.fn f) (hm:P.follows .mixedOrders=true) (hnd:K6 ops=true) (hB:Ku .any ops n is=true) (hQ:∀ c a tm w,Q (.panic c) { tmps:=tm,defers:=a.defers } w→Q (.panic c) a w)
  (C:World→Prop) (hC:C w.drew) (h:E9 F m P ops Q C n is a w.drew):(Code.region id ops true).wpIn F m P Q a w:=by
 simp only [Ku,Bool.and_eq_true,decide_eq_true_eq] at hB;obtain ⟨⟨⟨⟨⟨hsel,hs⟩,hc⟩,hn⟩,hlen⟩,hB⟩:=hB;refine wpIn_region_any hm (W8 (C:=C) (n:=n) _ _ _ _ ?_);rw [← hlen];have inv:HeadInv .any ops n (Array.replicate is.length false):=by
  rw [hlen];exact ⟨by simp,fun j oj _ hl=>(by rw [getD_replicate_false] at hl;cases hl),fun t _ ht=>getD_in (by simpa using ht) (getD_replicate_false _ _)⟩
 exact Qf hfn hnd hsel hs hc hn hQ is _ a _ (fun _=>inv) (by rw [hlen];exact hB) (fun _=>hC) h
theorem Y6 {a:Act} {w:World} (h:Q .normal a w):E9 F m P ops Q C n [] a w:=h
theorem Y5 {i:Nat} {is:List (Nat × Bool)} {o:Oper} {v:Value} {a:Act} {w:World} (h0:ops.toList[i]? = some o) (hw:Region.wanted o (yielded ops a.tmps)=true) (hy:∀ W,C W→(execOp a.eval o).run P W=.ok (.value v) W)
  (h:E9 F m P ops Q C n is (a.put o.dst v) w):E9 F m P ops Q C n ((i,true)::is) a w:=⟨o,v,by rw [← Array.getElem?_toList];exact h0,.inl ⟨hw,hy⟩,h⟩
theorem Kg (hfn:∀ f,F.fn f) {i:Nat} {is:List (Nat × Bool)} {o:Oper} {a:Act} {w:World} (h0:ops.toList[i]? = some o) (hnd:∀ c,o.op≠.defer c)
  (h:∀ K:Act→World→Prop,(∀ a' w',(i<n→C w')→E9 F m P ops Q C n is a' w'→K a' w')→if Region.wanted o (yielded ops a.tmps)=true then o.uponIn F m P a K Q ((execOp a.eval o).run P w) else K (a.put o.dst undef) w):E9 F m P ops Q C n ((i,false)::is) a w:=by
 show wpOpIn F m P ops Q i _ a w;unfold wpOpIn;rw [Array.getElem?_toList] at h0;rw [h0];have:=h _ (fun a' w' hc ht=>And.intro hc ht);show if _ then _ else _
 by_cases hw:Region.wanted o (yielded ops a.tmps)=true
 ·rw [if_pos hw] at this ⊢;unfold Oper.wpIn;rw [Oper.semAt_eq _ _ _ hnd];exact ⟨fun f _=>hfn f,this⟩
 ·rw [if_neg hw] at this ⊢;exact ⟨fun f _=>hfn f,this⟩
end
open Go.RowKit Go.Shelf
attribute [local go_sem] Oper.semAt_some
def WBox (W:World) (Bd Bl Bs Bn:Nat) (Vd:Array Value) (gl N s n:Nat):Prop:=
 W.heap[Bd]? = some (.cells Vd 30 (0,0))∧W.heap[Bl]? = some (.cells #[.slice (some ⟨gl,0,none⟩) (N+1) (N+1)] 27 (0,0))∧W.heap[Bs]? = some (.cells #[iv s] 3 (0,0))∧W.heap[Bn]? = some (.cells #[iv n] 3 (0,0))
theorem WBox.kp {B:Nat} {W W':World} {Bd Bl Bs Bn gl N s n:Nat} {Vd:Array Value} (h:WBox W Bd Bl Bs Bn Vd gl N s n) (hk:Kp B W W'):WBox W' Bd Bl Bs Bn Vd gl N s n:=
 ⟨hk.cells h.1 (by decide) (by decide),hk.cells h.2.1 (by decide) (by decide),hk.cells h.2.2.1 (by decide) (by decide),hk.cells h.2.2.2 (by decide) (by decide)⟩
theorem WBox.ext {W W':World} {Bd Bl Bs Bn gl N s n:Nat} {Vd:Array Value} (h:WBox W Bd Bl Bs Bn Vd gl N s n) (hE:Ext W W'):WBox W' Bd Bl Bs Bn Vd gl N s n:=h.kp (B:=0) (Kp.of_ext hE)
theorem Qt (Vd:Array Value) (gl N s n:Nat) (W:World) :
  Calls Tryz.prog 64 #[.agg Vd,.slice (some ⟨gl,0,none⟩) (N+1) (N+1),iv s,iv n] W fun e w'=>∃ Bd Bl Bs Bn,e=.returned (.func (.func 107) #[] #[.pointer (some ⟨Bl,0,none⟩),.pointer (some ⟨Bn,0,none⟩),.pointer (some ⟨Bs,0,none⟩),.pointer (some ⟨Bd,0,none⟩)])∧
   WBox w' Bd Bl Bs Bn Vd gl N s n∧Ext W w':=by
 have h0:=Ab W (.cells Vd 30);have h1:=Ab (W.alloc (.cells Vd 30)) (.cells #[.slice (some ⟨gl,0,none⟩) (N+1) (N+1)] 27);have h2:=Ab ((W.alloc (.cells Vd 30)).alloc (.cells #[.slice (some ⟨gl,0,none⟩) (N+1) (N+1)] 27)) (.cells #[iv s] 3);have h3:=Ab (((W.alloc (.cells Vd 30)).alloc (.cells #[.slice (some ⟨gl,0,none⟩) (N+1) (N+1)] 27)).alloc (.cells #[iv s] 3)) (.cells #[iv n] 3);have k0:=Af (Af (Af h0 (.cells #[.slice (some ⟨gl,0,none⟩) (N+1) (N+1)] 27)) (.cells #[iv s] 3)) (.cells #[iv n] 3);have k1:=Af (Af h1 (.cells #[iv s] 3)) (.cells #[iv n] 3);have k2:=Af h2 (.cells #[iv n] 3);simp only [World.size_alloc] at k1 k2 h3;have hB:=Lib.hid (And.intro k0 (And.intro k1 (And.intro k2 h3)));clear h0 h1 h2 h3 k0 k1 k2;go_enter Tryz.func64,Tryz.ntmps64;go_wp2;go_ret;exact ⟨_,_,_,_,rfl,hB.out,(((Ext.refl W).alloc _).alloc _).alloc _ |>.alloc _⟩
theorem Ajd (W:World) (b:UInt8) (v:Value) (x:List UInt8) (hv:By W v x) (hx:x.length≤64) (ty:TypeId) :
  ∃ v' W',(Builtin.append_ #[22,22] ty #[.slice (some ⟨W.heap.size,0,none⟩) 1 1,v]).run Tryz.prog (W.alloc (.cells #[bv b] 5))=.ok v' W'∧WordV W' v' (b::x)∧Ext W W':=by
 obtain ⟨i5,hi5,hy0,hy1,hy2⟩:=info_parts (show (Tryz.prog.info? 5).map (fun i=>(i.zero,i.size,i.bytes))=some (some (.int .u8 0),1,1) by kernel_rfl);have hown:(W.alloc (.cells #[bv b] 5)).ownsRow W.heap.size 5 1 (.slice (some ⟨W.heap.size,0,none⟩) 1 1) 1 [bv b]:=World.ownsRow_lit (base:=W.heap.size) (e:=5) (size:=1) W #[bv b] 1 (Nat.le_refl _) (by unfold maxLen;omega) rfl;have hE:=(Ext.refl W).alloc (.cells #[bv b] 5);cases x with
 | nil=>
  obtain ⟨a,cap,rfl⟩:=hv.len;have hs:Src Tryz.prog i5.size 22 (.slice a 0 cap) 0 [] (W.alloc (.cells #[bv b] 5)):=by
   cases a with
   | none=>exact Src.ofNil _ Tryz.underlying22 cap
   | some p=>exact Src.ofSlice _ Tryz.underlying22 p 0 cap [] (by simp) (fun j u h=>by simp at h) (fun u h=>by cases h)
  exact ⟨_,_,run_append_nothing _ 22 22 ty 5 i5 Tryz.underlying22 hi5 _ 1 1 (Nat.le_refl _) _ hs,Oa hown,hE⟩
 | cons y x=>
  obtain ⟨p,off,cap,rfl,hc⟩:=Sl.form hv (by simp);have hnews:∀ j u,((y::x).map bv)[j]? = some u→(W.alloc (.cells #[bv b] 5)).cell? ((⟨p,off,none⟩:Addr).add j)=some u:=fun j u hj=>by
   obtain ⟨hj1,hj2⟩:=List.getElem?_eq_some_iff.1 hj;have hjl:j<(y::x).length:=by rwa [List.length_map] at hj1
   have e:(⟨p,off,none⟩:Addr).add j=⟨p,off+j,none⟩:=by
    unfold Addr.add;by_cases h0:j=0
    ·subst h0;rfl
    ·simp [h0]
   rw [e,hE.cell (hc j (by omega)),← hj2,List.getElem_map,List.getD_eq_getElem?_getD,List.getElem?_eq_getElem hjl];rfl
  obtain ⟨g,c,W',hr,h2,h3,h4,h5⟩:=run_append_lies (P:=Tryz.prog) (w:=W.alloc (.cells #[bv b] 5)) 22 ty W.heap.size 5 i5 (.int .u8 0) 1 1 Tryz.underlying22 hi5 hy0 hy1 hy2 rfl (by decide) _ 1 [bv b] hown ⟨p,off,none⟩ (y::x).length cap ((y::x).map bv) (by simp) hnews
   (fun u hu=>by obtain ⟨b',_,rfl⟩:=List.mem_map.1 hu;rfl) (by simp) (by simp at hx ⊢;unfold maxLen;omega) (by simp at hx ⊢;omega) (by rw [World.size_alloc];omega) _ rfl
  refine ⟨_,W',hr,Oa (base:=W.heap.size) ?_,hE.grown h3 (fun k e=>by have:W.heap.size=k:=Option.some.inj e;omega)⟩;have:1+(y::x).length=(b::y::x).length:=by simp;omega
  rw [this] at h2 ⊢;exact h2
theorem Ahc {P:Program} {o:Oper} {a:Act} {W W':World} (s x:Operand) (t:TypeId) (ho:o.op=.call { callee:=.builtin .append,args:=#[s,x],argTypes:=#[t,t] }) (v u:Value) (hs:a.eval s=v) (hx:a.eval x=u) {v':Value}
  (hr:(Builtin.append_ #[t,t] o.type #[v,u]).run P W=.ok v' W'):(execOp a.eval o).run P W=.ok (.value v') W':=by
 unfold execOp;simp only [ho,resolve,invoke,builtin,Sem.run_bind,Sem.run_pure,Result.andThen_ok,List.map_toArray,List.map_cons,List.map_nil,hs,hx,hr]
theorem Aga (L:List UInt8→Bool) (n:Nat) {k k':Nat} (h:k≤k'):E0 L n k <+: E0 L n k':=by
 induction k' with
 | zero=>rw [Nat.le_zero.1 h];exact List.prefix_rfl
 | succ m ih=>
  rcases Nat.lt_or_ge k (m+1) with h1|h1
  ·rw [Pe];exact (ih (by omega)).trans (List.prefix_append _ _)
  ·rw [show k=m+1 by omega];exact List.prefix_rfl
set_option maxHeartbeats 4000000 in
theorem X4 (d:Dfa) (hv:Val d) (hn:d.nxt.length≤64) (N gl bc oc cc bn on cn:Nat) (va:Value) (hN:N≤64) (w0:World) (hC:Cs w0 (.slice (some ⟨bc,oc,none⟩) d.cls.length cc) d.cls) (hR:RowsAt w0 bn on d.nxt.length d.cls.length d.ent2) (hL:CntT w0 gl d N) :
  ∀ n,n≤N→∀ s,s<d.nxt.length→∀ (w:World) (Bd Bl Bs Bn:Nat),Ext w0 w→WBox w Bd Bl Bs Bn (dA (.slice (some ⟨bc,oc,none⟩) d.cls.length cc) (.slice (some ⟨bn,on,none⟩) d.nxt.length cn) va) gl N s n→
   Xl w0.heap.size Tryz.prog 107 #[.pointer (some ⟨Bl,0,none⟩),.pointer (some ⟨Bn,0,none⟩),.pointer (some ⟨Bs,0,none⟩),.pointer (some ⟨Bd,0,none⟩)] (Bm (fun u=>d.ok (d.run s u)) n) w:=by
 have HC:=Lib.hid (fun (W:World) (hW:Ext w0 W)=>hC.ext hW);have HR:=Lib.hid (fun (W:World) (hW:Ext w0 W)=>hR.ext hW);have HL:=Lib.hid hL;have HV:=Lib.hid hv;have hn0:=hv.pos;have hm0:=hv.parts.pos;have hm1:=hv.parts.le;clear hC hR hL hv;obtain ⟨Vd,hVd⟩:∃ X,dA (.slice (some ⟨bc,oc,none⟩) d.cls.length cc) (.slice (some ⟨bn,on,none⟩) d.nxt.length cn) va=X:=⟨_,rfl⟩;rw [hVd];have HVd:=Lib.hid hVd;clear hVd;intro n;induction n using Nat.strongRecOn with
 | _ n ih=>
  intro hnN s hs w Bd Bl Bs Bn hE0 hB l J W hEW hJe hJp hY h0 k;have HB:=Lib.hid (hB.ext hEW);have hE1:=hE0.trans hEW;obtain ⟨gi,hgi,hgs⟩:=HL.out n hnN;have hE2:=hE1.alloc (.cells #[.func (.yield l) #[] #[]] 159);have hEy:=(Ext.refl W).alloc (.cells #[.func (.yield l) #[] #[]] 159);have HY5:=Ab W (.cells #[.func (.yield l) #[] #[]] 159);have HB1:=Lib.hid (HB.out.ext hEy);obtain ⟨q0,q1,q2,q3⟩:=HB1.out;have k1:=Aw ((cell_of_row _ Bl 0 _ _ _ q1).trans rfl);have k2:=Aw ((cell_of_row _ Bn 0 _ _ _ q3).trans rfl);have k3:=Aw ((cell_of_row _ Bs 0 _ _ _ q2).trans rfl);have k4:=Aw (hE2.cell hgi);have k5:=Aw (hE2.cell (hgs s hs));have HY5:=Lib.hid HY5;have h01:Hid (Bq d n s=Bp (fun u=>d.ok (d.run s u)) n):=Lib.hid (Lx HV.out n s hs);have hnN1:(n:Int)<(N:Int)+1:=by omega
  clear q0 q1 q2 q3 hgi hgs;refine callsIn_of_wp_marks Tryz.func107 rfl trivial ?_ rfl;refine wpIn_wide.2 ?_;simp only [Tryz.ntmps107,List.size_toArray,List.length_cons,List.length_nil,Nat.reduceAdd,Nat.reduceSub,Array.replicate_succ,Array.replicate_zero,List.push_toArray,List.append_toArray,List.nil_append,List.cons_append];go_upto_region 1 with (fail)
  obtain ⟨w1,hw1⟩:∃ X,W.alloc (.cells #[.func (.yield l) #[] #[]] 159)=X:=⟨_,rfl⟩;rw [hw1] at k1 k2 k3 k4 k5 hE2 hEy HB1 HY5;simp only [hw1];clear hw1;obtain ⟨g5,hg5⟩:∃ x,W.heap.size=x:=⟨_,rfl⟩;rw [hg5] at HY5;rw [hg5];have hG5w:g5<w1.heap.size:=Ak HY5.out;clear hg5;obtain ⟨ct,hct⟩:∃ c,Bq d n s=c:=⟨_,rfl⟩;rw [hct] at k5 h01;clear hct;refine Da (by kernel_rfl) (by kernel_rfl) ?_;iterate 8 (with_reducible refine wpQuiet_step (fun K hK=>?_);go_simp;(refine hK _ ?_;clear hK K))
  refine wpQuiet_nil ?_;rintro _ ⟨e,rfl⟩;have hEe:=e.ext;have hE3:=hE2.trans hEe;have hE4:=hEy.trans hEe;have HY6:=Lib.hid (hEe.heap HY5.out);have HB2:=Lib.hid (HB1.out.ext hEe);clear k1 k3 k4 k5;generalize e.W=w2 at *;have hJ2:=Lib.hid (hJe _ _ _ h0 hE4);have HYY:=Lib.hid hY;have HJe:=Lib.hid hJe;have HJp:=Lib.hid hJp;have HIH:=Lib.hid ih;have HE3:=Lib.hid hE3;have HE4:=Lib.hid hE4;have HGW:=Lib.hid hG5w;clear hY hJe hJp ih h0 hE0 hB hEW HB hE1 hE2 hEy HY5 HB1 hEe hE3 hE4 hG5w;by_cases hz:ct=0
  ·have hse:((sat ct:Nat):Int)=0:=by rw [hz];rfl
   have hse2:(((sat ct:Nat):Int)==0)=true:=by rw [hse];rfl
   have HCT:Hid (Bp (fun u=>d.ok (d.run s u)) n=0):=Lib.hid (by rw [← h01.out];exact hz);clear hz hse;go_wp2;refine ⟨_,results_none rfl _ _ _,⟨_,rfl⟩,?_⟩;rw [X2 HCT.out];exact hJ2.out
  ·have hse2:(((sat ct:Nat):Int)==0)=false:=by
    have:sat ct≠0:=by unfold sat;omega
    simp;omega
   obtain ⟨q0,q1,q2,q3⟩:=HB2.out;have c2:=(cell_of_row _ Bn 0 _ _ _ q3).trans rfl;clear q0 q1 q2 q3;rcases n with _|n
   ·have hpos:Bm (fun u=>d.ok (d.run s u)) 0=[[]]:=by
     have h1:(Bm (fun u=>d.ok (d.run s u)) 0).length≠0:=fun h=>hz (h01.out.trans h)
     have h2:∀ y,y∈Bm (fun u=>d.ok (d.run s u)) 0→y=[]:=fun y hy=>List.eq_nil_of_length_eq_zero ((G2 0 _ y).1 hy).1
     unfold Bm at h1 h2 ⊢;split at h1
     ·rename_i h;rw [if_pos h]
     ·exact absurd rfl h1
    obtain ⟨fn,tm,as_,bo,hy,hR⟩:=HYY.out 2 [] [] (.slice none 0 0) w2 hJ2.out (World.ownsRow_nil _ _ _ _) (by rw [hpos];exact List.prefix_rfl);have HR0:=Lib.hid hR;have c5:=(cell_of_row w2 g5 0 _ _ _ HY6.out).trans (show (#[Value.func (.yield l) #[] #[]]:Array Value)[0]? = some (.func (.yield l) #[] #[]) from rfl);have HPO:=Lib.hid hpos;clear hR hpos;go_upto_region 3 with (fail)
    refine (wpIn_wide (n:=3)).1 ?_
    gi_wp2
    refine RoundIn.mono HR0.out ?_;rintro e W3 ⟨rfl,hJ3,hK3⟩;have HJ3:=Lib.hid hJ3;clear hy hJ3 hK3 c5
    gi_wp2
    go_wp2;refine ⟨_,results_none rfl _ _ _,⟨_,rfl⟩,?_⟩;rw [HPO.out];exact HJ3.out
   ·have hne:(((n+1:Nat):Int)==0)=false:=by simp;omega
    go_upto_region 3 with (fail)
    clear k2 c2;refine wp_loop (fun a' w'=>∃ (b:Nat) (u6 u7 u8 u9 u10 u11 u12 u13 u14 u15 u16 u17 u18 u19 u20 u22 u23 u24 u25 u26 u27 u28 u29 u30 u31 u32 u33 u34 u35 u36 u37 u38 u39 u40 u41 u42 u43 u44 u45 u46 u47 u48 u49 u50 u51:Value) (ds:List Deferred),b≤256∧J (E0 (fun u=>d.ok (d.run s u)) n b) w'∧Kp w0.heap.size w2 w'∧Marks W.heap.size w' ds∧
      a'={ tmps:=#[.func (.yield l) #[] #[],.pointer (some ⟨Bl,0,none⟩),.pointer (some ⟨Bn,0,none⟩),.pointer (some ⟨Bs,0,none⟩),.pointer (some ⟨Bd,0,none⟩),.pointer (some ⟨g5,0,none⟩),u6,u7,u8,u9,u10,u11,u12,u13,u14,u15,u16,u17,u18,u19,u20,iv b,u22,u23,u24,u25,u26,u27,u28,u29,u30,u31,u32,u33,u34,u35,u36,u37,u38,u39,u40,u41,u42,u43,u44,u45,u46,u47,u48,u49,u50,u51],defers:=ds }) (fun a' _=>256-(intOf (a'.tmps.getD 21 undef)).toNat) ?_ ?_
    ·exact ⟨0,_,_,_,_,_,_,_,_,_,_,_,_,_,_,_,_,_,_,_,_,_,_,_,_,_,_,_,_,_,_,_,_,_,_,_,_,_,_,_,_,_,_,_,_,_,[],by omega,hJ2.out,Kp.refl _ _,Marks.nil _ _,rfl⟩
    ·rintro a' wr ⟨b,u6,u7,u8,u9,u10,u11,u12,u13,u14,u15,u16,u17,u18,u19,u20,u22,u23,u24,u25,u26,u27,u28,u29,u30,u31,u32,u33,u34,u35,u36,u37,u38,u39,u40,u41,u42,u43,u44,u45,u46,u47,u48,u49,u50,u51,ds,hb,hJ,hK,hM,rfl⟩;clear hJ2;by_cases hlt:b<256
     ·have hEr:=hK.ext HE3.out (Nat.le_refl _);have HBr:=Lib.hid (HB2.out.kp hK);have HYr:=Lib.hid (hK.cells HY6.out (by decide) (by decide));have hE6:=(Ext.refl wr).alloc (.cells #[iv b] 3);have hX6:=Ab wr (.cells #[iv b] 3);have HJ:=Lib.hid hJ;have HM:=Lib.hid hM;have HK:=Lib.hid hK;have hbI:(b:Int)<256:=by omega
      have hbw:IntKind.u8.wrap (b:Int)=(b:Int):=by
       simp [IntKind.wrap,IntKind.signed,IntKind.bits];omega
      clear hJ hM hK;go_upto_region 7 with (fail)
      obtain ⟨w4,hw4⟩:∃ X,wr.alloc (.cells #[iv b] 3)=X:=⟨_,rfl⟩;rw [hw4] at hE6 hX6;simp only [hw4];clear hw4;obtain ⟨gb,hgb⟩:∃ x,wr.heap.size=x:=⟨_,rfl⟩;rw [hgb] at hX6;rw [hgb];have HGB:=Lib.hid hgb;clear hgb;have HXb:=Lib.hid hX6;have HB4:=Lib.hid (HBr.out.ext hE6);have HY4:=Lib.hid (hE6.heap HYr.out);have hE4:=hEr.trans hE6;obtain ⟨br,or',cr,hrc,hrr⟩:=(HR.out w4 hE4) s hs;have r1:=Aw hrc;have hk:=cell_lt HV.out.parts hlt;have r2:=Aw (hrr _ hk);obtain ⟨q0,q1,q2,q3⟩:=HB4.out;have kd0:=Aw ((cell_of_row _ Bd 0 _ _ _ q0).trans (show Vd[0]? = some (.slice (some ⟨bc,oc,none⟩) d.cls.length cc) by rw [← HVd.out];rfl));have kd1:=Aw ((cell_of_row _ Bd 1 _ _ _ q0).trans (show Vd[1]? = some (.slice (some ⟨bn,on,none⟩) d.nxt.length cn) by rw [← HVd.out];rfl));have ks:=Aw ((cell_of_row _ Bs 0 _ _ _ q2).trans (show (#[iv s]:Array Value)[0]? = some (iv s) from rfl));have kb:=Aw ((cell_of_row _ gb 0 _ _ _ hX6).trans (show (#[iv b]:Array Value)[0]? = some (iv b) from rfl));have f95:=fun (e:EW w4)=>Lib.hid (Ug d.cls _ (b:Int) (by omega) (by omega) e.W (HC.out _ (hE4.trans e.ext)))
      rw [Uj HV.out.parts hlt] at f95;obtain ⟨kc,hkc⟩:∃ x,Aj d.cls b=x:=⟨_,rfl⟩;have HKC:Hid (d.ent2 s kc=d.stp s b):=Lib.hid (by rw [← hkc];rfl);rw [hkc] at hk r2 f95;rw [HKC.out] at r2;obtain ⟨s2,hs2⟩:∃ x,d.stp s b=x:=⟨_,rfl⟩;have hs2n:s2<d.nxt.length:=by rw [← hs2];exact HV.out.stp_lt hs hlt
      rw [hs2] at r2;have HS2:=Lib.hid hs2;clear hkc hs2 q0 q1 q2 q3 hrc hrr hX6 HKC;refine Da (by kernel_rfl) (by kernel_rfl) ?_;iterate 13 (with_reducible refine wpQuiet_step (fun K hK=>?_);go_simp;first|(refine hK _ ?_;clear hK K)|(apply Exists.intro;refine ⟨fun _=>?_,hK _ ?_⟩;(with_reducible exact F4 (f95 _).out);clear hK K))
      refine wpQuiet_nil ?_;rintro _ ⟨e,rfl⟩;have hE45:=hE6.trans e.ext;have hE5:=hE4.trans e.ext;have HB5:=Lib.hid (HB4.out.ext e.ext);have HY5:=Lib.hid (e.ext.heap HY4.out);have HX5:=Lib.hid (e.ext.heap HXb.out);have HJ5:=Lib.hid (HJe.out _ _ _ HJ.out hE45);have HM5:=Lib.hid (HM.out.kp (B':=0) (Kp.of_ext hE45));have HK5:=Lib.hid (HK.out.trans (Kp.of_ext hE45));clear r1 r2 kd0 kd1 ks kb f95 hE6 hE4 HB4 HY4 HXb HJ HM HK HBr HYr HGB hE45 hbw hEr;generalize e.W=w5 at *;obtain ⟨q0,q1,q2,q3⟩:=HB5.out;have HQ0:=Lib.hid q0;have hc1:=(cell_of_row _ Bl 0 _ _ _ q1).trans (show (#[Value.slice (some ⟨gl,0,none⟩) (N+1) (N+1)]:Array Value)[0]? = some (.slice (some ⟨gl,0,none⟩) (N+1) (N+1)) from rfl);have hc2:=(cell_of_row _ Bn 0 _ _ _ q3).trans (show (#[iv (n+1)]:Array Value)[0]? = some (iv (n+1)) from rfl);have hiVd:(Tryz.prog.info? 30).map (·.size)=some Vd.size:=by rw [← HVd.out];exact Ad
      clear q0 q1 q2 q3;go_wp2_with (first
       | (refine wpList_load_row rfl 30 (.tmp 4) rfl _ rfl _ _ _ _ HQ0.out Tryz.underlying30 rfl hiVd ?_)
       | (go_at_call 64;(with_reducible refine (Qt Vd gl N s2 n w5).mono ?_);rintro e w6 ⟨Bd',Bl',Bs',Bn',rfl,hB6,hE56⟩))
      clear hc1 hc2 hiVd HQ0 HB5;have hseq:=HIH.out n (by omega) (by omega) s2 hs2n w6 Bd' Bl' Bs' Bn' (hE5.trans hE56) hB6;have HY6x:=Lib.hid (hE56.heap HY5.out);have HX6:=Lib.hid (hE56.heap HX5.out);have HJ6:=Lib.hid (HJe.out _ _ _ HJ5.out hE56);have HM6:=Lib.hid (HM5.out.kp (B':=0) (Kp.of_ext hE56));have HK6:=Lib.hid (HK5.out.trans (Kp.of_ext hE56));have hW6:W.heap.size≤w6.heap.size:=Nat.le_trans HE4.out.size HK6.out.size;clear HY5 HX5 HJ5 HM5 HK5 hB6 HIH;refine (wpIn_wide (n:=3)).1 ?_;refine Qr (gf:=107) rfl (enters_of Tryz.func107 (by kernel_rfl) rfl) hseq rfl
       (fun pre W'=>J (E0 (fun u=>d.ok (d.run s u)) n b++pre.map (UInt8.ofNat b::·)) W'∧Kp w0.heap.size w6 W')
       (fun st W1 W2 h hE=>⟨HJe.out _ _ _ h.1 hE,h.2.trans (Kp.of_ext hE)⟩)
       (fun st W1 l' o o' h hl ho hc=>⟨HJp.out _ W1 l' o o' h.1 (Nat.le_trans hW6 hl) ho hc,h.2.put_new hl o'⟩)
       ⟨by simpa using HJ6.out,Kp.refl _ _⟩
       (fun v=>{ tmps:=#[.func (.yield l) #[] #[],.pointer (some ⟨Bl,0,none⟩),.pointer (some ⟨Bn,0,none⟩),.pointer (some ⟨Bs,0,none⟩),.pointer (some ⟨Bd,0,none⟩),.pointer (some ⟨g5,0,none⟩),.pointer (some ⟨gb,0,none⟩),iv s2,v,u9,u10,u11,u12,u13,u14,u15,u16,u17,u18,u19,u20,iv b,.bool true,iv b,.pointer (some ⟨Bd,1,none⟩),.slice (some ⟨bn,on,none⟩) d.nxt.length cn,iv s,.pointer (some ⟨bn,on+s,none⟩),.slice (some ⟨br,or',none⟩) d.cls.length cr,.pointer (some ⟨Bd,0,none⟩),.slice (some ⟨bc,oc,none⟩) d.cls.length cc,iv b,.int .u8 (b:Int),.int .i64 (kc:Int),.pointer (some ⟨br,or'+kc,none⟩),iv s2,.agg Vd,.slice (some ⟨gl,0,none⟩) (N+1) (N+1),iv s2,iv (n+1),.int .i64 (n:Int),.func (.func 107) #[] #[.pointer (some ⟨Bl',0,none⟩),.pointer (some ⟨Bn',0,none⟩),.pointer (some ⟨Bs',0,none⟩),.pointer (some ⟨Bd',0,none⟩)],v,u43,u44,u45,u46,u47,u48,u49,u50,u51],defers:=[] }) ?assign ?body ?done
      case assign=>
       intro l' v W1 K hK
       gi_wp2
       exact hK
      case body=>
       rintro l' pre x v W1 ⟨hJ1,hK1⟩ hv1 hpre m;have HYa:=Lib.hid (hK1.cells HY6x.out (by decide) (by decide));have HXa:=Lib.hid (hK1.cells HX6.out (by decide) (by decide));have HJ1:=Lib.hid hJ1;have HV1:=Lib.hid hv1;have HK1:=Lib.hid hK1;clear hJ1 hK1 hv1;refine wpIn_block (wpIn_seq ?_);have hbw:IntKind.u8.wrap (b:Int)=((UInt8.ofNat b).toNat:Int):=by
        rw [u8n b hlt];simp [IntKind.wrap,IntKind.signed,IntKind.bits];omega
       have hxl:x.length≤64:=by
        have h1:x∈Bm (fun u=>d.ok (d.run s2 u)) n:=hpre.subset (by simp);have:=((G2 n _ x).1 h1).1;omega
       obtain ⟨v2,W2,hrun,hv2,hE12⟩:=Ajd W1.drew (UInt8.ofNat b) v x ((HV1.out.ext (Ext.refl W1).drew).by (by omega)) hxl 22;have hpre2:(E0 (fun u=>d.ok (d.run s u)) n b++pre.map (UInt8.ofNat b::·))++[UInt8.ofNat b::x] <+: Bm (fun u=>d.ok (d.run s u)) (n+1):=by
        have e:(fun w=>d.ok (d.run s (UInt8.ofNat b::w)))=fun u=>d.ok (d.run s2 u):=by
         funext u
         show d.ok (d.run (d.stp s (UInt8.ofNat b).toNat) u)=_;rw [u8n b hlt,HS2.out]
        refine List.IsPrefix.trans ?_ (Aga (fun u=>d.ok (d.run s u)) n (show b+1≤256 by omega));rw [Pe,e,List.append_assoc];refine (List.prefix_append_right_inj _).2 ?_;rw [show pre.map (UInt8.ofNat b::·)++[UInt8.ofNat b::x]=(pre++[x]).map (UInt8.ofNat b::·) by simp];exact hpre.map _
       have hJ2:=HJe.out _ _ _ HJ1.out ((Ext.refl W1).drew.trans hE12);obtain ⟨fn,tm,as_,bo,hy,hR⟩:=HYY.out (m-1) _ _ v2 W2 hJ2 hv2 hpre2;have hKd:Kp w0.heap.size W1 W2:=Kp.of_ext ((Ext.refl W1).drew.trans hE12);refine X0 7 [(0,true),(1,true),(2,true),(4,true),(3,false),(5,false),(6,false),(7,false)] (fun _=>trivial) (by kernel_rfl) (by kernel_rfl) (by kernel_rfl) (fun _ _ _ _ h=>h) (fun X=>X.heap[g5]? = some (.cells #[.func (.yield l) #[] #[]] 159 (0,0))∧X.heap[gb]? = some (.cells #[iv b] 3 (0,0))) ⟨HYa.out,HXa.out⟩ ?_;iterate 4
        refine Y5 (v:=?_) rfl rfl (fun X hX=>?_) ?_
        rotate_left
        ·obtain ⟨x5,x6⟩:=hX;have c5:=(cell_of_row X g5 0 _ _ _ x5).trans (show (#[Value.func (.yield l) #[] #[]]:Array Value)[0]? = some (.func (.yield l) #[] #[]) from rfl);have c6:=(cell_of_row X gb 0 _ _ _ x6).trans (show (#[iv b]:Array Value)[0]? = some (iv b) from rfl);clear x5 x6;go_simp;first|done|with_reducible rfl
        simp only [Act.put,List.setIfInBounds_toArray,List.set_cons_zero,List.set_cons_succ]
       refine Kg (fun _=>trivial) rfl (fun c h=>by cases h) (fun K hK=>?_);go_simp;refine hK _ _ (fun _=>⟨Af HYa.out _,Af HXa.out _⟩) ?_;clear hK K;refine Kg (fun _=>trivial) rfl (fun c h=>by cases h) (fun K hK=>?_);refine (if_pos (by rfl)).mpr ?_;rw [Ahc _ _ 22 rfl _ _ rfl rfl hrun];refine hK _ _ (fun _=>⟨hE12.heap HYa.out,hE12.heap HXa.out⟩) ?_;clear hK K;simp only [Act.put,List.setIfInBounds_toArray,List.set_cons_zero,List.set_cons_succ];refine Kg (fun _=>trivial) rfl (fun c h=>by cases h) (fun K hK=>?_);go_simp;refine ⟨fun h=>(by cases h),RoundIn.mono (show RoundIn (Fence.wide.inRound l') _ _ _ _ _ _ _ _ _ from hR) ?_⟩;rintro e W3 ⟨rfl,hJ3,hK3⟩;refine hK _ _ (fun _=>⟨hK3.cells (hE12.heap HYa.out) (by decide) (by decide),hK3.cells (hE12.heap HXa.out) (by decide) (by decide)⟩) ?_;clear hK K hy;refine Kg (fun _=>trivial) rfl (fun c h=>by cases h) (fun K hK=>?_);go_simp;refine hK _ _ (fun h=>absurd h (by omega)) ?_;clear hK K;refine Y6 ?_;have HF:=Lib.hid (And.intro (hKd.trans hK3) (And.intro hJ3 (HK1.out.trans (hKd.trans hK3))));clear hJ3 hK3 hR hrun hJ2 hv2 hE12 hKd hpre2
       gi_wp2
       refine ⟨HF.out.1,?_,HF.out.2.2⟩;rw [List.map_append,List.map_cons,List.map_nil,← List.append_assoc];exact HF.out.2.1
      case done=>
       rintro D W1 hD ⟨hJ1,hK1⟩ hDd;have hKx:=HK6.out.trans hK1;have hMx:=HM6.out.cons hK1 (Nat.le_trans hW6 hD) hD hDd;have hJx:J (E0 (fun u=>d.ok (d.run s u)) n (b+1)) W1:=by
        rw [Pe];have e:(fun w=>d.ok (d.run s (UInt8.ofNat b::w)))=fun u=>d.ok (d.run s2 u):=by
         funext u
         show d.ok (d.run (d.stp s (UInt8.ofNat b).toNat) u)=_;rw [u8n b hlt,HS2.out]
        rw [e];exact hJ1
       clear hJ1 hDd;go_wp2;refine ⟨⟨b+1,_,_,_,_,_,_,_,_,_,_,_,_,_,_,_,_,_,_,_,_,_,_,_,_,_,_,_,_,_,_,_,_,_,_,_,_,_,_,_,_,_,_,_,_,_,_,by omega,hJx,hKx,hMx,rfl⟩,?_⟩;simp [intOf];omega
     ·obtain rfl:b=256:=by omega
      go_wp2;exact Ox (fun W'=>J (E0 (fun u=>d.ok (d.run s u)) n 256) W') (fun W' l o o' h hB hl hc=>HJp.out _ W' l o o' h hB hl hc) (fun W' h=>⟨_,results_none rfl _ _ _,⟨_,rfl⟩,h⟩) ds wr hM hJ
end Go.Proofs.YtaiogolidlamiaaGreatDoor
