/-
  The walks of slices.AppendSeq, slices.Collect and Bytes.
-/
import Derived.Test.YthfmjhicmopclaaDoorW12
import Derived.Maps.AppendAt
namespace Go.Proofs.YthfmjhicmopclaaDoor
open Go.RowKit Go.Shelf
attribute [local go_sem] Oper.semAt_some

set_option maxRecDepth 100000 in
theorem appendSeq_in (F : Fence) (n : Nat) (h55 : F.fn 55) (hro : F.round = none) (hn : 2 ≤ n) (g : Nat) (lb : Array Value) (hFg : F.fn g) (eg : ∀ args w, (callFunc g args).run Tryd.prog w = .ok (.enter g args) w)
    (Nx : List UInt8 → UInt8 → Prop) (S Sp : List UInt8 → Prop) (hN : ∀ pre x, Nx pre x → pre.length < 256) (w : World) (hseq : SeqQ F (n - 1) Tryd.prog g lb (fun x => #[bv x]) Nx S Sp w) :
    CallsIn F n Tryd.prog 55 #[.slice none 0 0, .func (.func g) #[] lb] w fun e w' => ∃ v xs, e = .returned v ∧ S xs ∧ w'.ownsRow w.heap.size 5 1 v xs.length (xs.map bv) ∧ Ext w w' := by
  have h1 : 1 ≤ n := by omega
  obtain ⟨i0, hi, hz0, hz1, hz2⟩ := info_parts info5
  have hB0 : Boxed (w.alloc (.cells #[.slice none 0 0] 31)) w.heap.size 31 (.slice none 0 0) := Boxed.new w 31 _
  have hE0 := (Ext.refl w).alloc (.cells #[.slice none 0 0] 31)
  have hs0 : w.heap.size < (w.alloc (.cells #[.slice none 0 0] 31)).heap.size := by simp
  refine callsIn_of_wp_marks Tryd.func55 rfl h55 ?_ hro
  simp only [Tryd.ntmps55, List.size_toArray, List.length_cons, List.length_nil, Nat.reduceAdd, Nat.reduceSub, Array.replicate_succ, Array.replicate_zero, List.push_toArray, List.append_toArray, List.nil_append, List.cons_append]
  gi_wp2
  generalize w.alloc (.cells #[.slice none 0 0] 31) = w1 at *
  refine wpIn_range_q hro h1 (gf := g) (lb := lb) rfl hFg eg hseq (fun _ => rfl)
    (fun pre W => (∃ v, Boxed W w.heap.size 31 v ∧ W.ownsRow w.heap.size 5 1 v pre.length (pre.map bv)) ∧ Ext w W)
    (fun _ _ _ => False)
    (fun s W l o o' h hl ho hc => by
      obtain ⟨⟨v, hv, hr⟩, hE⟩ := h
      exact ⟨⟨v, put_other hv ho hc, ownsRow_putObj hr o' ho hc⟩, hE.putObj (by omega) o'⟩)
    (fun s W o h => by
      obtain ⟨⟨v, hv, hr⟩, hE⟩ := h
      exact ⟨⟨v, hv.alloc o, hr.alloc o⟩, hE.alloc o⟩)
    (fun _ s W l o o' h _ _ _ => h)
    (fun pre W h => h.2.below) ⟨⟨_, hB0, World.ownsRow_nil _ _ _ _⟩, hE0⟩
    (fun x => { tmps := #[.slice none 0 0, .func (.func g) #[] lb, .pointer (some ⟨w.heap.size, 0, none⟩), undef, .slice none 0 0, bv x, .func (.func g) #[] lb, bv x, undef, undef, undef, undef, undef], defers := [] }) ?assign ?body ?done ?stop
  case assign =>
    intro l x W K hK
    gi_wp2
    exact hK
  case body =>
    rintro l pre x W ⟨⟨v, hv, hrow⟩, hE⟩ hnx
    have hlen := hN pre x hnx
    have hc := hv.cell
    have hB := hE.below
    have hx := x.toNat_lt
    gi_wp2_with (gi_at_builtin; refine wpListIn_append_own _ rfl _ _ 31 rfl w.heap.size 5 i0 (.int .u8 0) 1 1 Tryd.underlying31 hi hz0 hz1 hz2 rfl (by decide) _ _ _ rfl (hrow.alloc _) ⟨W.heap.size, 0, none⟩ 1 1 [bv x] rfl rfl (cell_one_new _ _ _) (by simp [Value.oneCell']) (by unfold maxLen; omega) (by omega) (by have := hB.size; simp; omega) ?_; intro v' w1 hown' hgrow _; obtain ⟨g', cap', rfl⟩ := ownsRow_succ hown'; obtain ⟨hv1, hv2, hr2, hk2, hb2⟩ := hv.appended (by decide) hrow hB.size (Nat.le_refl _) hown' hgrow; have hc1 := hv1.cell; have hf1 := hv1.frozen)
    exact ⟨hk2, ⟨_, hv2, by simpa using hr2⟩, ⟨hB.trans hb2⟩⟩
  case done =>
    rintro D ys W hD hS ⟨⟨v, hv, hrow⟩, hE⟩ hK
    have hc := hv.cell
    gi_wp2
    refine ⟨by simp, .inl ⟨_, _, rfl, run_takeDeferred hK, ?_⟩⟩
    exact ⟨_, results_tmp rfl _ _ _, v, ys, rfl, hS, ownsRow_putObj hrow _ hK rfl, hE.putObj (by omega) _⟩
  case stop =>
    rintro D k pre W _ _ h _
    exact h.elim

theorem collect_in (F : Fence) (n : Nat) (h44 : F.fn 44) (h55 : F.fn 55) (hro : F.round = none) (hn : 3 ≤ n) (g : Nat) (lb : Array Value) (hFg : F.fn g) (eg : ∀ args w, (callFunc g args).run Tryd.prog w = .ok (.enter g args) w)
    (Nx : List UInt8 → UInt8 → Prop) (S Sp : List UInt8 → Prop) (hN : ∀ pre x, Nx pre x → pre.length < 256) (w : World) (hseq : SeqQ F (n - 1 - 1) Tryd.prog g lb (fun x => #[bv x]) Nx S Sp w) :
    CallsIn F n Tryd.prog 44 #[.func (.func g) #[] lb] w fun e w' => ∃ v xs, e = .returned v ∧ S xs ∧ w'.ownsRow w.heap.size 5 1 v xs.length (xs.map bv) ∧ Ext w w' := by
  have h1 : 1 ≤ n := by omega
  refine callsIn_of_wp Tryd.func44 rfl h44 ?_ hro
  simp only [Tryd.ntmps44, List.size_toArray, List.length_cons, List.length_nil, Nat.reduceAdd, Nat.reduceSub, Array.replicate_succ, Array.replicate_zero, List.push_toArray, List.append_toArray, List.nil_append, List.cons_append]
  gi_wp2_with (gi_at_call 55; refine (appendSeq_in F (n - 1) h55 hro (by omega) g lb hFg eg Nx S Sp hN _ hseq).mono ?_; rintro e w' ⟨v, xs, rfl, hS, hrow, hb⟩)
  go_ret
  exact ⟨v, xs, rfl, hS, hrow, hb⟩

theorem bytes_in (F : Fence) (n : Nat) (h19 : F.fn 19) (h44 : F.fn 44) (h45 : F.fn 45) (h55 : F.fn 55) (h56 : F.fn 56) (h57 : F.fn 57) (hro : F.round = none) (hn : 5 ≤ n) (c : Cls) (w : World) (hT : Tab w) (hsz : 0 < w.heap.size) :
    CallsIn F n Tryd.prog 19 #[.agg (encA c)] w fun e w' => ∃ v, e = .returned v ∧ By w' v (bytesTo c 256) ∧ Ext w w' := by
  have h1 : 1 ≤ n := by omega
  have hA := heap_alloc_new w (.cells (encA c) 30)
  have hE := (Ext.refl w).alloc (.cells (encA c) 30)
  have hE2 := hE.alloc (.cells (encA c) 30)
  have hC2 := heap_alloc_new (w.alloc (.cells (encA c) 30)) (.cells (encA c) 30)
  have c0 := (cell_of_row _ _ 0 _ _ _ hA).trans rfl
  have c1 := (cell_of_row _ _ 1 _ _ _ hA).trans rfl
  have c2 := (cell_of_row _ _ 2 _ _ _ hA).trans rfl
  have c3 := (cell_of_row _ _ 3 _ _ _ hA).trans rfl
  rw [World.size_alloc] at hC2
  have hT2 := hT.below hE2.below hsz
  have hseq := members_seq F (n - 1 - 1 - 1) h56 h57 hro (by omega) (w.heap.size + 1) c _ hT2 hC2
  clear hA hC2 hT2
  have HSeq := Lib.hid hseq
  clear hseq
  refine callsIn_of_wp Tryd.func19 rfl h19 ?_ hro
  simp only [Tryd.ntmps19, List.size_toArray, List.length_cons, List.length_nil, Nat.reduceAdd, Nat.reduceSub, Array.replicate_succ, Array.replicate_zero, List.push_toArray, List.append_toArray, List.nil_append, List.cons_append]
  gi_wp2_with (first
    | (gi_at_call 45; refine (members_in F (n - 1) h45 hro c _).mono ?_; rintro e w' ⟨rfl, rfl⟩)
    | (gi_at_call 44; refine (collect_in F (n - 1) h44 h55 hro (by omega) 56 _ h56 (enters_of Tryd.func56 (by kernel_rfl) rfl) _ _ _ (fun pre x h => by have h2 := h.length_le; have h3 := bytesTo_len c 256; simp at h2; omega) _ HSeq.out).mono ?_; rintro e w' ⟨v, xs, rfl, rfl, hrow, hb⟩))
  go_ret
  exact ⟨v, rfl, By.of_owns hrow (by have := bytesTo_len c 256; omega), hE2.trans hb⟩

theorem bytes_any (c : Cls) (w : World) (hT : Tab w) (hsz : 0 < w.heap.size) :
    Calls Tryd.prog 19 #[.agg (encA c)] w fun e w' => ∃ v, e = .returned v ∧ By w' v (bytesTo c 256) ∧ Ext w w' :=
  callsIn_wide.1 (bytes_in Fence.wide 5 trivial trivial trivial trivial trivial trivial rfl (Nat.le_refl _) c w hT hsz)

end Go.Proofs.YthfmjhicmopclaaDoor
