/-
  The walks of combine, Union, Intersect, Minus, Not.
-/
import Derived.Test.YthfmjhicmopclaaDoorW1
import Derived.Shelf.Abstract
import Derived.Deep.RegionWith
import Derived.Deep.CutBlock
namespace Go.Proofs.YthfmjhicmopclaaDoor
open Go.RowKit Go.Shelf

def upto (g : Nat → Int) (i : Nat) : Array Value :=
  #[.int .u64 (if 0 < i then g 0 else 0), .int .u64 (if 1 < i then g 1 else 0), .int .u64 (if 2 < i then g 2 else 0), .int .u64 (if 3 < i then g 3 else 0)]
theorem upto_set (g : Nat → Int) (i : Nat) (h : i < 4) : (upto g i).setIfInBounds i (.int .u64 (g i)) = upto g (i + 1) := by
  match i, h with
  | 0, _ => rfl
  | 1, _ => rfl
  | 2, _ => rfl
  | 3, _ => rfl
theorem upto_at (g : Nat → Int) (i j : Nat) (h : j < 4) : (upto g i)[j]? = some (.int .u64 (if j < i then g j else 0)) := by
  match j, h with
  | 0, _ => rfl
  | 1, _ => rfl
  | 2, _ => rfl
  | 3, _ => rfl

/-- What is asked of a closure on two words. -/
def WordOp (g : Nat) (F : Int → Int → Int) : Prop :=
  ∀ (x y : Int) (w : World), 0 ≤ x → x < 18446744073709551616 → 0 ≤ y → y < 18446744073709551616 →
    Calls Tryd.prog g #[.int .u64 x, .int .u64 y] w fun e w' => e = .returned (.int .u64 (F x y)) ∧ w' = w

theorem combine_any (g : Nat) (F : Int → Int → Int) (hg : WordOp g F) (eg : ∀ args w, (callFunc g args).run Tryd.prog w = .ok (.enter g args) w) (a b c : Cls) (hc : ∀ i, i < 4 → F (wd a i) (wd b i) = wd c i) (w : World) :
    Calls Tryd.prog 48 #[.agg (encA a), .agg (encA b), .func (.func g) #[] #[]] w fun e w' => e = .returned (.agg (encA c)) ∧ Ext w w' := by
  go_enter Tryd.func48, Tryd.ntmps48
  go_wp2_with (fail)
  have hz : (#[.int .u64 0, .int .u64 0, .int .u64 0, .int .u64 0] : Array Value) = upto (wd c) 0 := rfl
  go_loopw [9] (fun i W => ∃ k : Nat, k ≤ 4 ∧ i = .int .i64 k ∧ Ext w W ∧ W.heap[w.heap.size]? = some (.cells (encA a) 30 (0, 0)) ∧ W.heap[w.heap.size + 1]? = some (.cells (encA b) 30 (0, 0)) ∧
      W.heap[w.heap.size + 1 + 1]? = some (.cells (upto (wd c) 0) 30 (0, 0)) ∧ W.heap[w.heap.size + 1 + 1 + 1]? = some (.cells (upto (wd c) k) 30 (0, 0)))
    (fun i _ => 4 - (intOf i).toNat)
  case atStart =>
    refine ⟨0, by omega, rfl, ((((Ext.refl w).alloc _).alloc _).alloc _).alloc _, ?_, ?_, ?_, ?_⟩
    · exact heap_alloc_keep (heap_alloc_keep (heap_alloc_keep (heap_alloc_new w _) _) _) _
    · have h := heap_alloc_keep (heap_alloc_keep (heap_alloc_new (w.alloc (.cells (encA a) 30)) (.cells (encA b) 30)) (.cells (upto (wd c) 0) 30)) (.cells (upto (wd c) 0) 30)
      rwa [World.size_alloc] at h
    · have h := heap_alloc_keep (heap_alloc_new ((w.alloc (.cells (encA a) 30)).alloc (.cells (encA b) 30)) (.cells (upto (wd c) 0) 30)) (.cells (upto (wd c) 0) 30)
      rwa [World.size_alloc, World.size_alloc] at h
    · have h := heap_alloc_new (((w.alloc (.cells (encA a) 30)).alloc (.cells (encA b) 30)).alloc (.cells (upto (wd c) 0) 30)) (.cells (upto (wd c) 0) 30)
      rwa [World.size_alloc, World.size_alloc, World.size_alloc] at h
  case round =>
    obtain ⟨k, hk, rfl, hE, hA, hB, hR, hC⟩ := hrel
    have HA := Lib.hid hA
    have HB := Lib.hid hB
    have HC := Lib.hid hC
    have HR := Lib.hid hR
    clear hA hB hC hR hz
    by_cases hlt : k < 4
    · have cA := (cell_of_row wr _ k _ _ _ HA.out).trans (encA_at a k hlt)
      have cB := (cell_of_row wr _ k _ _ _ HB.out).trans (encA_at b k hlt)
      have cC := (cell_of_row wr _ k _ _ _ HC.out).trans (upto_at (wd c) k k hlt)
      have fC := frozen_of_row wr _ k _ _ HC.out
      have ba := wd_bd a k
      have bb := wd_bd b k
      go_upto_block 1 with (fail)
      go_cut [] (fun W => Ext w W ∧ W.heap[w.heap.size]? = some (.cells (encA a) 30 (0, 0)) ∧ W.heap[w.heap.size + 1]? = some (.cells (encA b) 30 (0, 0)) ∧
        W.heap[w.heap.size + 1 + 1]? = some (.cells (upto (wd c) 0) 30 (0, 0)) ∧ W.heap[w.heap.size + 1 + 1 + 1]? = some (.cells (upto (wd c) (k + 1)) 30 (0, 0)))
      case first =>
        go_wp2
        go_region_with (go_at_fn g; refine (hg _ _ _ ba.1 ba.2 bb.1 bb.2).mono ?_; rintro e w' ⟨rfl, rfl⟩)
        all_goals
          go_wp2
          go_meet
          rw [setCell_eq_setRow wr _ _ _ _ _ _ HC.out, upto_set _ _ hlt]
          exact ⟨(hE.setRow (by omega) _).drew, heap_setRow_keep HA.out (by omega) _, heap_setRow_keep HB.out (by omega) _, heap_setRow_keep HR.out (by omega) _, setRow_heap wr _ _ _ _ _ HC.out⟩
      case rest =>
        obtain ⟨hE', hA', hB', hR', hC'⟩ := hcut
        have HA' := Lib.hid hA'
        have HB' := Lib.hid hB'
        have HC' := Lib.hid hC'
        have HR' := Lib.hid hR'
        clear hA' hB' hC' hR' cA cB cC fC
        go_wp2
        go_roundw
        case rel => exact ⟨k + 1, by omega, by go_num, hE', HA'.out, HB'.out, HR'.out, HC'.out⟩
        case measure => simp [intOf]; omega
    · obtain rfl : k = 4 := by omega
      have hC4 : wr.heap[w.heap.size + 1 + 1 + 1]? = some (.cells (encA c) 30 (0, 0)) := HC.out
      have HC4 := Lib.hid hC4
      clear hC4
      go_wp2_with (first
        | (refine wpList_load_row rfl 30 _ rfl _ rfl _ _ _ _ HC4.out Tryd.underlying30 rfl info30 ?_)
        | (refine wpList_store_row rfl 30 _ _ rfl _ _ rfl rfl _ _ HR.out info30 rfl (encA_one _) ?_))
      refine bodyPost_ret (v := .agg (encA c)) (results_cell_row rfl _ _ _ _ _ _ _ rfl (setRow_heap wr _ _ (encA c) 30 (0, 0) HR.out) Tryd.underlying30 rfl info30) rfl ?_
      exact ⟨rfl, hE.setRow (by omega) _⟩
