/-
  The walk of the reference's Cells.
-/
import Derived.Test.YthfmjhicmopclaaDoorPL
import Derived.Test.YthfmjhicmopclaaDoorRW
import Derived.Deep.AppendLies
import Derived.Deep.MidRow
namespace Go.Proofs.YthfmjhicmopclaaDoor
open Go.RowKit Go.Shelf

theorem own_ne {W : World} {b b' : Nat} {e e' : TypeId} {s s' n m : Nat} {v u : Value} {xs ys : List Value} (h : W.ownsRow b e s v n xs) (h' : W.ownsRow b' e' s' u m ys) (hne : e ≠ e') : v.ownBlock = none ∨ v.ownBlock ≠ u.ownBlock := by
  obtain ⟨_, ⟨rfl, _⟩ | ⟨g, cap, cur, rfl, _, hg, _⟩⟩ := h
  · exact .inl rfl
  · obtain ⟨_, ⟨rfl, _⟩ | ⟨g', cap', cur', rfl, _, hg', _⟩⟩ := h'
    · exact .inr (by simp [Value.ownBlock])
    · refine .inr fun hb => ?_
      have : g = g' := by simpa [Value.ownBlock] using hb
      subst this
      rw [hg] at hg'
      simp at hg'
      exact hne hg'.2
theorem flatE_set (L : List Cls) (k : Nat) (c : Cls) (hk : k < L.length) :
    flatE (L.set k c) = ((((flatE L).set (k * 4) (.int .u64 (wd c 0))).set (k * 4 + 1) (.int .u64 (wd c 1))).set (k * 4 + 1 + 1) (.int .u64 (wd c 2))).set (k * 4 + 1 + 1 + 1) (.int .u64 (wd c 3)) := by
  have hl := flatE_len L
  apply List.ext_getElem?
  intro i
  by_cases hi : i < L.length * 4
  · rw [flatE_get _ i (by simpa using hi)]
    simp only [List.getElem?_set, List.length_set, hl]
    by_cases hd : i / 4 = k
    · subst hd
      rw [getD_set_self _ _ _ _ hk]
      have : i % 4 = 0 ∨ i % 4 = 1 ∨ i % 4 = 2 ∨ i % 4 = 3 := by omega
      rcases this with h | h | h | h
      · rw [if_neg (by omega), if_neg (by omega), if_neg (by omega), if_pos (by omega), if_pos (by omega), h]
      · rw [if_neg (by omega), if_neg (by omega), if_pos (by omega), if_pos (by omega), h]
      · rw [if_neg (by omega), if_pos (by omega), if_pos (by omega), h]
      · rw [if_pos (by omega), if_pos (by omega), h]
    · rw [getD_set_oth _ _ _ _ _ (Ne.symm hd), if_neg (by omega), if_neg (by omega), if_neg (by omega), if_neg (by omega), flatE_get _ i hi]
  · rw [List.getElem?_eq_none (by rw [flatE_len, List.length_set]; omega), List.getElem?_eq_none (by simp only [List.length_set, hl]; omega)]
theorem row_set4 {W : World} {base g cap : Nat} {L : List Cls} (h : Row W base (.slice (some ⟨g, 0, none⟩) L.length cap) L) (k : Nat) (hk : k < L.length) (c : Cls) :
    Row (W.setCells g (k * 4) (encA c).toList) base (.slice (some ⟨g, 0, none⟩) L.length cap) (L.set k c) ∧ W.grownBy (W.setCells g (k * 4) (encA c).toList) (some g) := by
  have e : W.setCells g (k * 4) (encA c).toList = (((W.setCell ⟨g, k * 4, none⟩ (.int .u64 (wd c 0))).setCell ⟨g, k * 4 + 1, none⟩ (.int .u64 (wd c 1))).setCell ⟨g, k * 4 + 1 + 1, none⟩ (.int .u64 (wd c 2))).setCell ⟨g, k * 4 + 1 + 1 + 1, none⟩ (.int .u64 (wd c 3)) := rfl
  have h0 := h.stored (k * 4) (.int .u64 (wd c 0))
  have h1 := h0.1.stored (k * 4 + 1) (.int .u64 (wd c 1))
  have h2 := h1.1.stored (k * 4 + 1 + 1) (.int .u64 (wd c 2))
  have h3 := h2.1.stored (k * 4 + 1 + 1 + 1) (.int .u64 (wd c 3))
  rw [e]
  refine ⟨?_, h0.2.trans (h1.2.trans (h2.2.trans h3.2))⟩
  show World.ownsRow _ _ _ _ _ _ _
  rw [flatE_set L k c hk, List.length_set]
  exact h3.1
theorem row_there {W : World} {base g cap : Nat} {L : List Cls} (h : Row W base (.slice (some ⟨g, 0, none⟩) L.length cap) L) (k : Nat) (hk : k < L.length) : W.there g (k * 4) 4 := by
  intro j hj
  refine ⟨?_, h.frozenAt _⟩
  rw [h.cellAt _ (by omega), flatE_get _ _ (by omega)]
  rfl
/-- An owned row of bytes. -/
abbrev RowB (W : World) (base : Nat) (v : Value) (l : List UInt8) : Prop := W.ownsRow base 5 1 v l.length (l.map bv)
theorem RowB.cell {W : World} {base g n cap : Nat} {l : List UInt8} (h : W.ownsRow base 5 1 (.slice (some ⟨g, 0, none⟩) n cap) l.length (l.map bv)) (hn : n = l.length) (k : Nat) (hk : k < l.length) : W.cell? ⟨g, k, none⟩ = some (bv (l.getD k 0)) := by
  subst hn
  rw [World.ownsRow.cellAt h k (by omega)]
  simp [List.getD_eq_getElem?_getD, hk]
theorem RowB.form {W : World} {base : Nat} {v : Value} {l : List UInt8} (h : RowB W base v l) : (v = .slice none 0 0 ∧ l.length = 0) ∨ ∃ g cap, v = .slice (some ⟨g, 0, none⟩) l.length cap := by
  obtain ⟨_, h | ⟨g, cap, cur, hv, _⟩⟩ := h
  · exact .inl h
  · exact .inr ⟨g, cap, hv⟩

end Go.Proofs.YthfmjhicmopclaaDoor
