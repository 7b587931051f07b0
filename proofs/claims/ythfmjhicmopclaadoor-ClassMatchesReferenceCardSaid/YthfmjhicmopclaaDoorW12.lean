/-
  The walks of members and Least.
-/
import Derived.Test.YthfmjhicmopclaaDoorW11
import Derived.Test.YthfmjhicmopclaaDoorW7
namespace Go.Proofs.YthfmjhicmopclaaDoor
open Go.RowKit Go.Shelf
attribute [local go_sem] Oper.semAt_some

theorem members_seq (F : Fence) (n : Nat) (h56 : F.fn 56) (h57 : F.fn 57) (hro : F.round = none) (hn : 1 ≤ n) (Bc : Nat) (c : Cls) (w : World) (hT : Tab w) (hc : w.heap[Bc]? = some (.cells (encA c) 30 (0, 0))) :
    SeqQ F n Tryd.prog 56 #[.pointer (some ⟨Bc, 0, none⟩)] (fun x => #[bv x]) (fun pre x => (pre ++ [x]) <+: bytesTo c 256) (· = bytesTo c 256) (· <+: bytesTo c 256) w := by
  intro l J Jx W hb hY h0
  have hlt := lt_of_heap hc
  exact members1_in F n h56 h57 hro hn l Bc c J Jx (fun pre W' h => hT.below (hb _ _ h) (by omega)) hY W (((hb _ _ h0).block Bc hlt).trans hc) h0

theorem members_in (F : Fence) (n : Nat) (h45 : F.fn 45) (hro : F.round = none) (c : Cls) (w : World) :
    CallsIn F n Tryd.prog 45 #[.agg (encA c)] w fun e w' => e = .returned (.func (.func 56) #[] #[.pointer (some ⟨w.heap.size, 0, none⟩)]) ∧ w' = w.alloc (.cells (encA c) 30) := by
  refine callsIn_of_wp Tryd.func45 rfl h45 ?_ hro
  simp only [Tryd.ntmps45, List.size_toArray, List.length_cons, List.length_nil, Nat.reduceAdd, Nat.reduceSub, Array.replicate_succ, Array.replicate_zero, List.push_toArray, List.append_toArray, List.nil_append, List.cons_append]
  gi_wp2
  go_ret
  exact ⟨rfl, rfl⟩

theorem put_other {W : World} {k l : Nat} {o o' : Obj} {cs : Array Value} {t : TypeId} {fr : Nat × Nat} (h : W.heap[k]? = some (.cells cs t fr)) (hl : W.heap[l]? = some o) (ho : o.isCells = false) : (W.putObj l o').heap[k]? = some (.cells cs t fr) := by
  have hne : k ≠ l := by rintro rfl; rw [h] at hl; cases hl; cases ho
  exact (World.putObj_heap_other hne).trans h

theorem least_in (F : Fence) (n : Nat) (h23 : F.fn 23) (h45 : F.fn 45) (h56 : F.fn 56) (h57 : F.fn 57) (hro : F.round = none) (hn : 3 ≤ n) (c : Cls) (w : World) (hT : Tab w) (hsz : 0 < w.heap.size) :
    CallsIn F n Tryd.prog 23 #[.agg (encA c)] w fun e w' => e = .returned (.int .i64 (headI (bytesTo c 256))) ∧ Ext w w' ∧ w.drawn ≤ w'.drawn := by
  have h1 : 1 ≤ n := by omega
  have h2 : 1 ≤ n - 1 := by omega
  have hA := heap_alloc_keep (heap_alloc_new w (.cells (encA c) 30)) (.cells #[.int .i64 0] 3)
  have hR := heap_alloc2_new w (.cells (encA c) 30) (.cells #[.int .i64 0] 3)
  have hE := ((Ext.refl w).alloc (.cells (encA c) 30)).alloc (.cells #[.int .i64 0] 3)
  have hD : w.drawn ≤ ((w.alloc (.cells (encA c) 30)).alloc (.cells #[.int .i64 0] 3)).drawn := Nat.le_refl _
  have hs : ((w.alloc (.cells (encA c) 30)).alloc (.cells #[.int .i64 0] 3)).heap.size = w.heap.size + 1 + 1 := by simp
  refine callsIn_of_wp_marks Tryd.func23 rfl h23 ?_ hro
  simp only [Tryd.ntmps23, List.size_toArray, List.length_cons, List.length_nil, Nat.reduceAdd, Nat.reduceSub, Array.replicate_succ, Array.replicate_zero, List.push_toArray, List.append_toArray, List.nil_append, List.cons_append]
  gi_wp2_with (gi_at_call 45; refine (members_in F (n - 1) h45 hro c _).mono ?_; rintro e w' ⟨rfl, rfl⟩)
  have hR3 := heap_alloc_keep hR (.cells (encA c) 30)
  have hC3 := heap_alloc_new ((w.alloc (.cells (encA c) 30)).alloc (.cells #[.int .i64 0] 3)) (.cells (encA c) 30)
  rw [hs] at hC3
  have hE3 := hE.alloc (.cells (encA c) 30)
  have hD3 : w.drawn ≤ (((w.alloc (.cells (encA c) 30)).alloc (.cells #[.int .i64 0] 3)).alloc (.cells (encA c) 30)).drawn := Nat.le_refl _
  have hS3 : w.heap.size + 2 < (((w.alloc (.cells (encA c) 30)).alloc (.cells #[.int .i64 0] 3)).alloc (.cells (encA c) 30)).heap.size := by simp
  clear hA hR hE hD hs
  generalize ((w.alloc (.cells (encA c) 30)).alloc (.cells #[.int .i64 0] 3)).alloc (.cells (encA c) 30) = w3 at *
  have hT3 := hT.below hE3.below hsz
  have HR3 := Lib.hid hR3
  clear hR3
  refine wpIn_range_q hro h1 (gf := 56) (lb := #[.pointer (some ⟨w.heap.size + 1 + 1, 0, none⟩)]) rfl h56 (enters_of Tryd.func56 (by kernel_rfl) rfl)
    (members_seq F (n - 1) h56 h57 hro h2 (w.heap.size + 1 + 1) c w3 hT3 hC3) (fun _ => rfl)
    (fun pre W => pre = [] ∧ Ext w3 W ∧ w3.drawn ≤ W.drawn)
    (fun k pre W => k = .ret ∧ ∃ x, pre = [x] ∧ Ext w W ∧ w.drawn ≤ W.drawn ∧ W.heap[w.heap.size + 1]? = some (.cells #[.int .i64 (x.toNat : Int)] 3 (0, 0)))
    (fun s W l o o' h hl ho hc => ⟨h.1, h.2.1.putObj hl o', h.2.2⟩)
    (fun s W o h => ⟨h.1, h.2.1.alloc o, h.2.2⟩)
    (fun k s W l o o' h hl ho hc => by
      obtain ⟨hk, x, hs, hE, hD, hr⟩ := h
      exact ⟨hk, x, hs, hE.putObj (by omega) o', hD, put_other hr ho hc⟩)
    (fun pre W h => h.2.1.below) ⟨rfl, Ext.refl _, Nat.le_refl _⟩
    (fun x => { tmps := #[.agg (encA c), .pointer (some ⟨w.heap.size, 0, none⟩), .pointer (some ⟨w.heap.size + 1, 0, none⟩), bv x, .agg (encA c), .func (.func 56) #[] #[.pointer (some ⟨w.heap.size + 1 + 1, 0, none⟩)], bv x, undef, undef], defers := [] }) ?assign ?body ?done ?stop
  case assign =>
    intro l x W K hK
    gi_wp2
    exact hK
  case body =>
    rintro l pre x W ⟨rfl, hE, hD⟩ _
    have hr := hE.heap HR3.out
    have hrc := (cell_of_row W _ 0 _ _ _ hr).trans rfl
    have hrf := frozen_of_row W _ 0 _ _ hr
    have HR := Lib.hid hr
    have hx := x.toNat_lt
    clear hr
    gi_wp2
    refine ⟨KeepsOthers.setCell _ _ _, rfl, x, rfl, (hE3.trans hE).setCell (by simp) _, Nat.le_trans hD3 hD, ?_⟩
    rw [setCell_eq_setRow W _ _ _ _ _ _ HR.out, show (#[Value.int .i64 0] : Array Value).setIfInBounds 0 (.int .i64 (x.toNat : Int)) = #[.int .i64 (x.toNat : Int)] from rfl]
    exact setRow_heap W _ _ _ _ _ HR.out
  case done =>
    rintro D ys W hDl rfl ⟨he, hE, hD⟩ hK
    have hr := hE.heap HR3.out
    have hrc := (cell_of_row W _ 0 _ _ _ hr).trans rfl
    have hrf := frozen_of_row W _ 0 _ _ hr
    have HR := Lib.hid hr
    have HB := Lib.hid he
    have HK := Lib.hid hK
    clear hr he hK
    gi_wp2
    have hK' := (KeepsOthers.setCell W ⟨w.heap.size + 1, 0, none⟩ (.int .i64 (-1))).same D _ HK.out rfl
    refine ⟨by simp, .inl ⟨_, _, rfl, run_takeDeferred hK', ?_⟩⟩
    have h5 := put_other (o' := .deferred none) (by rw [setCell_eq_setRow W _ _ _ _ _ _ HR.out]; exact setRow_heap W _ _ _ _ _ HR.out) hK' rfl
    have hc5 := (cell_of_row _ _ 0 _ _ _ h5).trans rfl
    refine ⟨.int .i64 (-1), ?_, by rw [HB.out]; rfl, ((hE3.trans hE).setCell (by simp) _).putObj (by omega) _, Nat.le_trans hD3 hD⟩
    simp [results, Tryd.f23, go_sem, hc5]
  case stop =>
    rintro D k pre W hDl hpre ⟨rfl, x, rfl, hE, hD, hr⟩ hK
    have HR := Lib.hid hr
    have HK := Lib.hid hK
    clear hr hK
    gi_wp2
    refine ⟨by simp, .inl ⟨_, _, rfl, run_takeDeferred HK.out, ?_⟩⟩
    have h5 := put_other (o' := .deferred none) HR.out HK.out rfl
    have hc5 := (cell_of_row _ _ 0 _ _ _ h5).trans rfl
    refine ⟨.int .i64 (x.toNat : Int), ?_, ?_, hE.putObj (by omega) _, hD⟩
    · simp [results, Tryd.f23, go_sem, hc5]
    · obtain ⟨r, hr⟩ := hpre
      rw [← hr]; rfl

theorem least_any (c : Cls) (w : World) (hT : Tab w) (hsz : 0 < w.heap.size) :
    Calls Tryd.prog 23 #[.agg (encA c)] w fun e w' => e = .returned (.int .i64 (headI (bytesTo c 256))) ∧ Ext w w' ∧ w.drawn ≤ w'.drawn :=
  callsIn_wide.1 (least_in Fence.wide 3 trivial trivial trivial trivial rfl (Nat.le_refl _) c w hT hsz)

end Go.Proofs.YthfmjhicmopclaaDoor
