/-
  The walks of Union, Intersect, Minus, Not (printed by wip/tools/gen_w3.py).
-/
import Derived.Test.YthfmjhicmopclaaDoorW2
namespace Go.Proofs.YthfmjhicmopclaaDoor
open Go.RowKit Go.Shelf

theorem op49 : WordOp 49 (bits BinOp.or IntKind.u64) := by
  intro x y w h1 h2 h3 h4
  go_enter Tryd.func49, Tryd.ntmps49
  go_wp2
  go_ret
  exact ⟨rfl, rfl⟩
theorem op50 : WordOp 50 (bits BinOp.and IntKind.u64) := by
  intro x y w h1 h2 h3 h4
  go_enter Tryd.func50, Tryd.ntmps50
  go_wp2
  go_ret
  exact ⟨rfl, rfl⟩
theorem op51 : WordOp 51 (bits BinOp.andNot IntKind.u64) := by
  intro x y w h1 h2 h3 h4
  go_enter Tryd.func51, Tryd.ntmps51
  go_wp2
  go_ret
  exact ⟨rfl, rfl⟩
theorem op52 : WordOp 52 (fun x _ => bits BinOp.xor IntKind.u64 IntKind.u64.max x) := by
  intro x y w h1 h2 h3 h4
  go_enter Tryd.func52, Tryd.ntmps52
  go_wp2
  all_goals go_ret
  all_goals exact ⟨rfl, rfl⟩

theorem union_any (a b : Cls) (w : World) :
    Calls Tryd.prog 25 #[.agg (encA a), .agg (encA b)] w fun e w' => e = .returned (.agg (encA (a ||| b))) ∧ Ext w w' := by
  have eg : ∀ args w, (callFunc 49 args).run Tryd.prog w = .ok (.enter 49 args) w := enters_of Tryd.func49 (by kernel_rfl) rfl
  have hA := heap_alloc_keep (heap_alloc_keep (heap_alloc_new w (.cells (encA a) 30)) (.cells (encA b) 30)) (.cells #[.int .u64 0, .int .u64 0, .int .u64 0, .int .u64 0] 30)
  have hB := heap_alloc_keep (heap_alloc_new (w.alloc (.cells (encA a) 30)) (.cells (encA b) 30)) (.cells #[.int .u64 0, .int .u64 0, .int .u64 0, .int .u64 0] 30)
  have hR := heap_alloc_new ((w.alloc (.cells (encA a) 30)).alloc (.cells (encA b) 30)) (.cells #[.int .u64 0, .int .u64 0, .int .u64 0, .int .u64 0] 30)
  have hE := (((Ext.refl w).alloc (.cells (encA a) 30)).alloc (.cells (encA b) 30)).alloc (.cells #[.int .u64 0, .int .u64 0, .int .u64 0, .int .u64 0] 30)
  rw [World.size_alloc] at hB
  rw [World.size_alloc, World.size_alloc] at hR
  have HB := Lib.hid hB
  clear hB
  have HA := Lib.hid hA
  have HR := Lib.hid hR
  clear hA hR
  have hcon := fun W => combine_any 49 _ op49 eg a b (a ||| b) (fun i hi => or_word a b i hi) W
  clear eg
  go_enter Tryd.func25, Tryd.ntmps25
  go_wp2_with (first
    | (refine wpList_load_row rfl 30 (.tmp 2) rfl _ rfl _ _ _ _ HA.out Tryd.underlying30 rfl info30 ?_)
    | (refine wpList_load_row rfl 30 (.tmp 3) rfl _ rfl _ _ _ _ HB.out Tryd.underlying30 rfl info30 ?_)
    | (go_at_call 48; refine (hcon _).mono ?_; rintro e w' ⟨rfl, hE'⟩; have HR' := Lib.hid (hE'.heap HR.out); clear hcon)
    | (refine wpList_store_row rfl 30 _ _ rfl _ _ rfl rfl _ _ HR'.out info30 rfl (encA_one _) ?_))
  refine bodyPost_ret (v := .agg (encA (a ||| b))) (results_cell_row rfl _ _ _ _ _ _ _ rfl (setRow_heap w' _ _ (encA (a ||| b)) 30 (0, 0) HR'.out) Tryd.underlying30 rfl info30) rfl ?_
  exact ⟨rfl, (hE.trans hE').setRow (by omega) _⟩

theorem inter_any (a b : Cls) (w : World) :
    Calls Tryd.prog 27 #[.agg (encA a), .agg (encA b)] w fun e w' => e = .returned (.agg (encA (a &&& b))) ∧ Ext w w' := by
  have eg : ∀ args w, (callFunc 50 args).run Tryd.prog w = .ok (.enter 50 args) w := enters_of Tryd.func50 (by kernel_rfl) rfl
  have hA := heap_alloc_keep (heap_alloc_keep (heap_alloc_new w (.cells (encA a) 30)) (.cells (encA b) 30)) (.cells #[.int .u64 0, .int .u64 0, .int .u64 0, .int .u64 0] 30)
  have hB := heap_alloc_keep (heap_alloc_new (w.alloc (.cells (encA a) 30)) (.cells (encA b) 30)) (.cells #[.int .u64 0, .int .u64 0, .int .u64 0, .int .u64 0] 30)
  have hR := heap_alloc_new ((w.alloc (.cells (encA a) 30)).alloc (.cells (encA b) 30)) (.cells #[.int .u64 0, .int .u64 0, .int .u64 0, .int .u64 0] 30)
  have hE := (((Ext.refl w).alloc (.cells (encA a) 30)).alloc (.cells (encA b) 30)).alloc (.cells #[.int .u64 0, .int .u64 0, .int .u64 0, .int .u64 0] 30)
  rw [World.size_alloc] at hB
  rw [World.size_alloc, World.size_alloc] at hR
  have HB := Lib.hid hB
  clear hB
  have HA := Lib.hid hA
  have HR := Lib.hid hR
  clear hA hR
  have hcon := fun W => combine_any 50 _ op50 eg a b (a &&& b) (fun i hi => and_word a b i hi) W
  clear eg
  go_enter Tryd.func27, Tryd.ntmps27
  go_wp2_with (first
    | (refine wpList_load_row rfl 30 (.tmp 2) rfl _ rfl _ _ _ _ HA.out Tryd.underlying30 rfl info30 ?_)
    | (refine wpList_load_row rfl 30 (.tmp 3) rfl _ rfl _ _ _ _ HB.out Tryd.underlying30 rfl info30 ?_)
    | (go_at_call 48; refine (hcon _).mono ?_; rintro e w' ⟨rfl, hE'⟩; have HR' := Lib.hid (hE'.heap HR.out); clear hcon)
    | (refine wpList_store_row rfl 30 _ _ rfl _ _ rfl rfl _ _ HR'.out info30 rfl (encA_one _) ?_))
  refine bodyPost_ret (v := .agg (encA (a &&& b))) (results_cell_row rfl _ _ _ _ _ _ _ rfl (setRow_heap w' _ _ (encA (a &&& b)) 30 (0, 0) HR'.out) Tryd.underlying30 rfl info30) rfl ?_
  exact ⟨rfl, (hE.trans hE').setRow (by omega) _⟩

theorem minus_any (a b : Cls) (w : World) :
    Calls Tryd.prog 29 #[.agg (encA a), .agg (encA b)] w fun e w' => e = .returned (.agg (encA (a &&& ~~~b))) ∧ Ext w w' := by
  have eg : ∀ args w, (callFunc 51 args).run Tryd.prog w = .ok (.enter 51 args) w := enters_of Tryd.func51 (by kernel_rfl) rfl
  have hA := heap_alloc_keep (heap_alloc_keep (heap_alloc_new w (.cells (encA a) 30)) (.cells (encA b) 30)) (.cells #[.int .u64 0, .int .u64 0, .int .u64 0, .int .u64 0] 30)
  have hB := heap_alloc_keep (heap_alloc_new (w.alloc (.cells (encA a) 30)) (.cells (encA b) 30)) (.cells #[.int .u64 0, .int .u64 0, .int .u64 0, .int .u64 0] 30)
  have hR := heap_alloc_new ((w.alloc (.cells (encA a) 30)).alloc (.cells (encA b) 30)) (.cells #[.int .u64 0, .int .u64 0, .int .u64 0, .int .u64 0] 30)
  have hE := (((Ext.refl w).alloc (.cells (encA a) 30)).alloc (.cells (encA b) 30)).alloc (.cells #[.int .u64 0, .int .u64 0, .int .u64 0, .int .u64 0] 30)
  rw [World.size_alloc] at hB
  rw [World.size_alloc, World.size_alloc] at hR
  have HB := Lib.hid hB
  clear hB
  have HA := Lib.hid hA
  have HR := Lib.hid hR
  clear hA hR
  have hcon := fun W => combine_any 51 _ op51 eg a b (a &&& ~~~b) (fun i hi => minus_word a b i hi) W
  clear eg
  go_enter Tryd.func29, Tryd.ntmps29
  go_wp2_with (first
    | (refine wpList_load_row rfl 30 (.tmp 2) rfl _ rfl _ _ _ _ HA.out Tryd.underlying30 rfl info30 ?_)
    | (refine wpList_load_row rfl 30 (.tmp 3) rfl _ rfl _ _ _ _ HB.out Tryd.underlying30 rfl info30 ?_)
    | (go_at_call 48; refine (hcon _).mono ?_; rintro e w' ⟨rfl, hE'⟩; have HR' := Lib.hid (hE'.heap HR.out); clear hcon)
    | (refine wpList_store_row rfl 30 _ _ rfl _ _ rfl rfl _ _ HR'.out info30 rfl (encA_one _) ?_))
  refine bodyPost_ret (v := .agg (encA (a &&& ~~~b))) (results_cell_row rfl _ _ _ _ _ _ _ rfl (setRow_heap w' _ _ (encA (a &&& ~~~b)) 30 (0, 0) HR'.out) Tryd.underlying30 rfl info30) rfl ?_
  exact ⟨rfl, (hE.trans hE').setRow (by omega) _⟩

theorem not_any (a : Cls) (w : World) :
    Calls Tryd.prog 31 #[.agg (encA a)] w fun e w' => e = .returned (.agg (encA (~~~a))) ∧ Ext w w' := by
  have eg : ∀ args w, (callFunc 52 args).run Tryd.prog w = .ok (.enter 52 args) w := enters_of Tryd.func52 (by kernel_rfl) rfl
  have hA := heap_alloc_keep (heap_alloc_new w (.cells (encA a) 30)) (.cells #[.int .u64 0, .int .u64 0, .int .u64 0, .int .u64 0] 30)
  have hR := heap_alloc_new (w.alloc (.cells (encA a) 30)) (.cells #[.int .u64 0, .int .u64 0, .int .u64 0, .int .u64 0] 30)
  have hE := ((Ext.refl w).alloc (.cells (encA a) 30)).alloc (.cells #[.int .u64 0, .int .u64 0, .int .u64 0, .int .u64 0] 30)
  rw [World.size_alloc] at hR
  have HA := Lib.hid hA
  have HR := Lib.hid hR
  clear hA hR
  have hcon := fun W => combine_any 52 _ op52 eg a a (~~~a) (fun i hi => not_word a i hi) W
  clear eg
  go_enter Tryd.func31, Tryd.ntmps31
  go_wp2_with (first
    | (refine wpList_load_row rfl 30 (.tmp 1) rfl _ rfl _ _ _ _ HA.out Tryd.underlying30 rfl info30 ?_)
    | (go_at_call 48; refine (hcon _).mono ?_; rintro e w' ⟨rfl, hE'⟩; have HR' := Lib.hid (hE'.heap HR.out); clear hcon)
    | (refine wpList_store_row rfl 30 _ _ rfl _ _ rfl rfl _ _ HR'.out info30 rfl (encA_one _) ?_))
  refine bodyPost_ret (v := .agg (encA (~~~a))) (results_cell_row rfl _ _ _ _ _ _ _ rfl (setRow_heap w' _ _ (encA (~~~a)) 30 (0, 0) HR'.out) Tryd.underlying30 rfl info30) rfl ?_
  exact ⟨rfl, (hE.trans hE').setRow (by omega) _⟩

end Go.Proofs.YthfmjhicmopclaaDoor
