/-
  The walks of the small functions on classes.
-/
import Derived.Test.YthfmjhicmopclaaDoorProg
import Derived.Test.YthfmjhicmopclaaDoorPlain
import Derived.Test.YthfmjhicmopclaaDoorLib
import Derived.Outline
import Derived.BigRegion
import Derived.Deep.DeepCutAuto
namespace Go.Proofs.YthfmjhicmopclaaDoor
open Go.RowKit

theorem ret_bool {a b : Bool} (h : a = b) : Ending.returned (.bool a) = .returned (.bool b) := by rw [h]
theorem ret_int {k : IntKind} {a b : Int} (h : a = b) : Ending.returned (.int k a) = .returned (.int k b) := by rw [h]
theorem cell_new_at (w : World) (cs : Array Value) (t : TypeId) (i : Nat) (v : Value) (h : cs[i]? = some v) : (w.alloc (.cells cs t)).cell? ⟨w.heap.size, i, none⟩ = some v :=
  (cell_of_row _ _ i cs t (0, 0) (heap_alloc_new w _)).trans h

theorem rHas_any (c : Cls) (b : Int) (hb0 : 0 ≤ b) (hb : b < 256) (w : World) :
    Calls Tryd.prog 43 #[.agg (encA c), .int .u8 b] w fun e w' => e = .returned (.bool (memB c b)) ∧ Ext w w' := by
  have hc := cell_new_at w (encA c) 30 (b / 64).toNat _ (encA_at c _ (by omega))
  have ⟨h1, h2⟩ := wd_bd c (b / 64).toNat
  go_enter Tryd.func43, Tryd.ntmps43
  go_wp2
  go_ret
  exact ⟨ret_bool (rHas_bit c b hb0 hb), (Ext.refl w).alloc _⟩

theorem has_any (c : Cls) (b : Int) (hb0 : 0 ≤ b) (hb : b < 256) (w : World) :
    Calls Tryd.prog 20 #[.agg (encA c), .int .u8 b] w fun e w' => e = .returned (.bool (memB c b)) ∧ Ext w w' := by
  have hc := cell_new_at w (encA c) 30 (b / 64).toNat _ (encA_at c _ (by omega))
  have ⟨h1, h2⟩ := wd_bd c (b / 64).toNat
  go_enter Tryd.func20, Tryd.ntmps20
  go_wp2
  go_ret
  exact ⟨ret_bool (cHas_bit c b hb0 hb), (Ext.refl w).alloc _⟩

theorem info30 : (Tryd.prog.info? 30).map (·.size) = some 4 := by kernel_rfl

theorem encA_one (c : Cls) : (encA c).all (·.oneCell') = true := by simp [Value.oneCell']

theorem with_any (c : Cls) (b : Int) (hb0 : 0 ≤ b) (hb : b < 256) (w : World) :
    Calls Tryd.prog 40 #[.agg (encA c), .int .u8 b] w fun e w' => e = .returned (.agg (encA (addB c b))) ∧ Ext w w' := by
  have ⟨h1, h2⟩ := wd_bd c (b / 64).toNat
  go_enter Tryd.func40, Tryd.ntmps40
  go_upto_region 2 with (fail)
  go_cut [] (fun W => Ext w W ∧ W.heap[w.heap.size]? = some (.cells (encA (addB c b)) 30 (0, 0)) ∧ W.heap[w.heap.size + 1]? = some (.cells #[.int .u64 0, .int .u64 0, .int .u64 0, .int .u64 0] 30 (0, 0)))
  case first =>
    have hE := ((Ext.refl w).alloc (.cells (encA c) 30)).alloc (.cells #[.int .u64 0, .int .u64 0, .int .u64 0, .int .u64 0] 30)
    have hB := heap_alloc_keep (heap_alloc_new w (.cells (encA c) 30)) (.cells #[.int .u64 0, .int .u64 0, .int .u64 0, .int .u64 0] 30)
    have hR := heap_alloc2_new w (.cells (encA c) 30) (.cells #[.int .u64 0, .int .u64 0, .int .u64 0, .int .u64 0] 30)
    generalize (w.alloc (.cells (encA c) 30)).alloc (.cells #[.int .u64 0, .int .u64 0, .int .u64 0, .int .u64 0] 30) = W at *
    have hc := (cell_of_row W _ (b / 64).toNat _ _ _ hB).trans (encA_at c _ (by omega))
    have hf := frozen_of_row W _ (b / 64).toNat _ _ hB
    go_wp2
    go_meet
    rw [add_val c b hb0 hb, setCell_eq_setRow W _ _ _ _ _ _ hB, add_row c b hb0 hb]
    exact ⟨hE.setRow (Nat.le_refl _) _, setRow_heap W _ _ _ _ _ hB, heap_setRow_keep hR (by omega) _⟩
  case rest =>
    obtain ⟨hE, hB, hR⟩ := hcut
    have HB := Lib.hid hB
    have HR := Lib.hid hR
    clear hB hR
    go_wp2_with (first
      | (refine wpList_load_row rfl 30 _ rfl _ rfl _ _ _ _ HB.out Tryd.underlying30 rfl info30 ?_)
      | (refine wpList_store_row rfl 30 _ _ rfl _ _ rfl rfl _ _ HR.out info30 rfl (encA_one _) ?_))
    refine bodyPost_ret (v := .agg (encA (addB c b))) (results_cell_row rfl _ _ _ _ _ _ _ rfl (setRow_heap wc _ _ (encA (addB c b)) 30 (0, 0) HR.out) Tryd.underlying30 rfl info30) rfl ?_
    exact ⟨rfl, hE.setRow (by omega) _⟩
