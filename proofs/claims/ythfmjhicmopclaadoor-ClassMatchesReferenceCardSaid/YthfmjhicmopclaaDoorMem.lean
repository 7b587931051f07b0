/-
  Plain mathematics of the iterator over the members of a class: the lowest bit of a word is taken off until none is left.
-/
import Derived.Test.YthfmjhicmopclaaDoorPop
import Derived.Lib.TrailingZeros
namespace Go.Proofs.YthfmjhicmopclaaDoor
open Go.RowKit

/-- The bits of x from p on. -/
def hiB (x p : Nat) : Nat := x / 2 ^ p * 2 ^ p
theorem hiB_zero (x : Nat) : hiB x 0 = x := by simp [hiB]
theorem hiB_le (x p : Nat) : hiB x p ≤ x := Nat.div_mul_le_self _ _
theorem hiB_testBit (x p j : Nat) : (hiB x p).testBit j = (decide (p ≤ j) && x.testBit j) := by
  unfold hiB
  rw [Nat.testBit_mul_two_pow, ← Nat.shiftRight_eq_div_pow, Nat.testBit_shiftRight]
  by_cases h : p ≤ j
  · simp only [h, decide_true, Bool.true_and]; congr 1; omega
  · simp [h]

theorem low_step (x p : Nat) (hx : x < 2 ^ 64) (h : hiB x p ≠ 0) :
    p ≤ Lib.ctz 64 (hiB x p) ∧ Lib.ctz 64 (hiB x p) < 64 ∧ hiB x p &&& (hiB x p - 1) = hiB x (Lib.ctz 64 (hiB x p) + 1) ∧ x.testBit (Lib.ctz 64 (hiB x p)) = true ∧ ∀ j, p ≤ j → j < Lib.ctz 64 (hiB x p) → x.testBit j = false := by
  have hy : hiB x p < 2 ^ 64 := Nat.lt_of_le_of_lt (hiB_le x p) hx
  obtain ⟨m, hm, ht⟩ := Lib.ctzFrom_spec 64 (hiB x p) (by omega) hy
  have e : Lib.ctz 64 (hiB x p) = Lib.ctzFrom 64 (hiB x p) := by simp [Lib.ctz, h]
  rw [e]
  generalize hT : Lib.ctzFrom 64 (hiB x p) = t at *
  have bitsY : ∀ j, (hiB x p).testBit j = (decide (t ≤ j) && (2 * m + 1).testBit (j - t)) := fun j => by
    rw [hm, Nat.mul_comm, Nat.testBit_mul_two_pow]
  have hpt : p ≤ t := by
    apply Nat.le_of_not_lt
    intro hlt
    have h1 := hiB_testBit x p t
    rw [bitsY t] at h1
    simp only [Nat.le_refl, decide_true, Bool.true_and, Nat.sub_self, Nat.testBit_zero] at h1
    have : decide (p ≤ t) = false := by simp; omega
    rw [this, Bool.false_and] at h1
    simp at h1
  have bit_t : x.testBit t = true := by
    have h1 := hiB_testBit x p t
    rw [bitsY t] at h1
    simp only [Nat.le_refl, decide_true, Bool.true_and, Nat.sub_self, Nat.testBit_zero, hpt] at h1
    rw [← h1]; simp
  refine ⟨hpt, ht, ?_, bit_t, fun j hj1 hj2 => ?_⟩
  · have h1 : hiB x p = 2 ^ t * (2 * m + 1) + 0 := by rw [hm]; rfl
    have hpos : 0 < 2 ^ t := Nat.pow_pos (by omega)
    have h2 : hiB x p - 1 = 2 ^ t * (2 * m) + (2 ^ t - 1) := by rw [hm, Nat.mul_add]; omega
    rw [h2, h1, and_split t _ _ _ _ hpos (by omega), Nat.zero_and, Nat.add_zero]
    have h3 : (2 * m + 1) &&& (2 * m) = 2 * m := by
      have := and_split 1 m 1 m 0 (by omega) (by omega)
      simpa [Nat.and_self] using this
    rw [h3]
    apply Nat.eq_of_testBit_eq
    intro j
    rw [hiB_testBit, show 2 ^ t * (2 * m) = m * 2 ^ (t + 1) by rw [Nat.pow_succ, Nat.mul_comm m, Nat.mul_assoc], Nat.testBit_mul_two_pow]
    by_cases hj : t + 1 ≤ j
    · simp only [hj, decide_true, Bool.true_and]
      have h4 := hiB_testBit x p j
      rw [bitsY j] at h4
      rw [show decide (t ≤ j) = true by simp; omega, show decide (p ≤ j) = true by simp; omega, Bool.true_and, Bool.true_and] at h4
      rw [← h4, show j - t = (j - (t + 1)) + 1 by omega, Nat.testBit_succ]
      congr 1; omega
    · simp [hj]
  · have h1 := hiB_testBit x p j
    rw [bitsY j, show decide (t ≤ j) = false by simp; omega, show decide (p ≤ j) = true by simp; omega, Bool.false_and, Bool.true_and] at h1
    exact h1.symm

theorem bytesTo_skip (c : Cls) (a b : Nat) (hab : a ≤ b) (h : ∀ j, a ≤ j → j < b → c.getLsbD j = false) : bytesTo c b = bytesTo c a := by
  induction b with
  | zero => rw [show a = 0 by omega]
  | succ b ih =>
    by_cases hb : a = b + 1
    · rw [hb]
    · simp only [bytesTo]
      rw [h b (by omega) (by omega), ih (by omega) (fun j h1 h2 => h j h1 (by omega))]
      simp

theorem member_step (c : Cls) (i p : Nat) (h : hiB (wn c i) p ≠ 0) :
    Lib.ctz 64 (hiB (wn c i) p) < 64 ∧ hiB (wn c i) p &&& (hiB (wn c i) p - 1) = hiB (wn c i) (Lib.ctz 64 (hiB (wn c i) p) + 1) ∧
    bytesTo c (64 * i + (Lib.ctz 64 (hiB (wn c i) p) + 1)) = bytesTo c (64 * i + p) ++ [UInt8.ofNat (64 * i + Lib.ctz 64 (hiB (wn c i) p))] := by
  obtain ⟨h1, h2, h3, h4, h5⟩ := low_step (wn c i) p (wn_lt c i) h
  refine ⟨h2, h3, ?_⟩
  generalize Lib.ctz 64 (hiB (wn c i) p) = t at *
  have hb : ∀ j, p ≤ j → j < t → c.getLsbD (64 * i + j) = false := fun j hj1 hj2 => by
    have := h5 j hj1 hj2
    rw [wn_testBit, show decide (j < 64) = true by simp; omega, Bool.true_and] at this
    exact this
  have ht : c.getLsbD (64 * i + t) = true := by
    rw [wn_testBit, show decide (t < 64) = true by simp; omega, Bool.true_and] at h4
    exact h4
  rw [← Nat.add_assoc]
  show (if c.getLsbD (64 * i + t) then bytesTo c (64 * i + t) ++ [UInt8.ofNat (64 * i + t)] else bytesTo c (64 * i + t)) = _
  rw [if_pos ht, bytesTo_skip c (64 * i + p) (64 * i + t) (by omega) (fun j hj1 hj2 => by
    have := hb (j - 64 * i) (by omega) (by omega)
    rwa [show 64 * i + (j - 64 * i) = j by omega] at this)]
theorem member_end (c : Cls) (i p : Nat) (hp : p ≤ 64) (h : hiB (wn c i) p = 0) : bytesTo c (64 * (i + 1)) = bytesTo c (64 * i + p) := by
  refine bytesTo_skip c _ _ (by omega) (fun j hj1 hj2 => ?_)
  have := hiB_testBit (wn c i) p (j - 64 * i)
  rw [h, Nat.zero_testBit, show decide (p ≤ j - 64 * i) = true by simp; omega, Bool.true_and, wn_testBit, show decide (j - 64 * i < 64) = true by simp; omega, Bool.true_and, show 64 * i + (j - 64 * i) = j by omega] at this
  exact this.symm
theorem bytesTo_prefix (c : Cls) (a b : Nat) (hab : a ≤ b) : bytesTo c a <+: bytesTo c b := by
  induction b with
  | zero => rw [show a = 0 by omega]; exact List.prefix_refl _
  | succ b ih =>
    by_cases hb : a = b + 1
    · rw [hb]; exact List.prefix_refl _
    · have ih := ih (by omega)
      simp only [bytesTo]
      split
      · exact ih.trans (List.prefix_append _ _)
      · exact ih

end Go.Proofs.YthfmjhicmopclaaDoor
