/-
  The walk of ClassCellsMatchReference.
-/
import Derived.Test.YthfmjhicmopclaaDoorW19
import Derived.Test.YthfmjhicmopclaaDoorW21
import Derived.Test.YthfmjhicmopclaaDoorIn
namespace Go.Proofs.YthfmjhicmopclaaDoor
open Go.RowKit Go.Shelf

theorem same_self (L : List Cls) (u1 u2 : Value) (W : World) (h1 : Cs W u1 L) (h2 : Cs W u2 L) : Calls Tryd.prog 14 #[u1, u2] W fun e w' => e = .returned (.bool true) ∧ Ext W w' := by
  have := same_any L L u1 u2 W h1 h2
  rwa [beq_self_eq_true] at this
theorem cellsS_ew {w : World} {v : Value} {l : List Cls} (hT : Tab w) (hsz : 0 < w.heap.size) (h : Cs w v l) (e : EW w) :
    Calls Tryd.prog 15 #[v] e.W fun r w' => ∃ v', r = .returned v' ∧ Cs w' v' (cellsS l) ∧ Ext e.W w' :=
  cellsS_any l v e.W (hT.below e.ext.below hsz) (Nat.lt_of_lt_of_le hsz e.ext.size) (h.ext e.ext)

set_option maxHeartbeats 2000000 in
set_option maxRecDepth 100000 in
theorem cellsref_any (l : List Cls) (v : Value) (x : Nat) (hx : x < 256) (w : World) (hT : Tab w) (hsz : 0 < w.heap.size) (s : CsW w v l) :
    Calls Tryd.prog 3 #[v, .int .u8 (x : Int)] w fun e w' => e = .returned (.bool true) ∧ Ext w w' := by
  obtain ⟨a, b, off, cap, rfl, _, _⟩ := s.split
  have hS := Lib.hid (sanity_any w hT hsz)
  by_cases hl : l.length ≤ 12
  · have HC := Lib.hid (s.short (by omega))
    have d : decide ((12 : Int) < (l.length : Int)) = false := by simp; omega
    have f15 := fun e : EW w => Lib.hid (cellsS_ew hT hsz HC.out e)
    have f16 := fun e : EW w => Lib.hid (rcells_any l _ e.W (HC.out.ext e.ext))
    have f14 := fun (u1 u2 : Value) (W : World) h1 h2 => Lib.hid (same_self (cellsS l) u1 u2 W h1 h2)
    have f17 := fun e : EW w => Lib.hid (index_any l _ (x : Int) (by omega) (by omega) e.W (HC.out.ext e.ext))
    have f18 := fun e : EW w => Lib.hid (rindex_any l _ (x : Int) (by omega) (by omega) e.W (HC.out.ext e.ext))
    have f17b := fun (u : Value) (W : World) h => Lib.hid (index_any (cellsS l) u (x : Int) (by omega) (by omega) W h)
    have f18b := fun (u : Value) (W : World) h => Lib.hid (rindex_any (cellsS l) u (x : Int) (by omega) (by omega) W h)
    generalize idxC (cellsS l) (x : Int) = n2 at *
    generalize idxC l (x : Int) = n1 at *
    generalize cellsS l = L at *
    clear s
    go_enter Tryd.func3, Tryd.ntmps3
    go_upto_region 2 with (go_at_call 13; with_reducible refine hS.out.mono ?_; rintro e w1 ⟨rfl, hE1⟩)
    obtain ⟨e0, rfl⟩ : ∃ e0 : EW w, w1 = e0.W := ⟨⟨w1, hE1⟩, rfl⟩
    clear hE1 hS
    go_wp2_with (first
      | (go_at_call 15; with_reducible refine (f15 _).out.mono ?_; rintro e w' ⟨v1, rfl, hc1, hE1⟩; obtain ⟨e1, rfl⟩ := ew_next hE1)
      | (go_at_call 16; with_reducible refine (f16 _).out.mono ?_; rintro e w' ⟨v2, rfl, hc2, hE2⟩; obtain ⟨e2, rfl⟩ := ew_next hE2)
      | (go_at_call 14; with_reducible refine (f14 _ _ _ (hc1.ext hE2) hc2).out.mono ?_; rintro e w' ⟨rfl, hE'⟩; obtain ⟨e', rfl⟩ := ew_next hE')
      | (go_at_call 17; with_reducible refine (f17 _).out.mono ?_; rintro e w' ⟨rfl, hE'⟩; obtain ⟨e', rfl⟩ := ew_next hE')
      | (go_at_call 17; with_reducible refine (f17b _ _ hc1).out.mono ?_; rintro e w' ⟨rfl, hE'⟩; obtain ⟨e', rfl⟩ := ew_next hE')
      | (go_at_call 18; with_reducible refine (f18 _).out.mono ?_; rintro e w' ⟨rfl, hE'⟩; obtain ⟨e', rfl⟩ := ew_next hE')
      | (go_at_call 18; with_reducible refine (f18b _ _ hc2).out.mono ?_; rintro e w' ⟨rfl, hE'⟩; obtain ⟨e', rfl⟩ := ew_next hE'))
    go_ret
    exact ⟨rfl, e'.ext⟩
  · have d : decide ((12 : Int) < (l.length : Int)) = true := by simp; omega
    clear s
    go_enter Tryd.func3, Tryd.ntmps3
    go_wp2_with (go_at_call 13; with_reducible refine hS.out.mono ?_; rintro e w1 ⟨rfl, hE1⟩)
    go_ret
    exact ⟨rfl, hE1⟩

end Go.Proofs.YthfmjhicmopclaaDoor
