/-
  Plain mathematics of classes of bytes: 256-bit vectors, their four words.
-/
import GoSem.Core.Value
import Derived.WalkKit
import Derived.Laws.BitsAllLaws
namespace Go.Proofs.YthfmjhicmopclaaDoor
open Go.RowKit

/-- A class of bytes: bit b says whether b is a member. -/
abbrev Cls := BitVec 256

/-- Word i of a class, as a number. -/
def wn (c : Cls) (i : Nat) : Nat := c.toNat / 2 ^ (64 * i) % 2 ^ 64
/-- Word i of a class. -/
def wd (c : Cls) (i : Nat) : Int := (wn c i : Nat)

/-- The four cells of a class. -/
abbrev encA (c : Cls) : Array Value := #[.int .u64 (wd c 0), .int .u64 (wd c 1), .int .u64 (wd c 2), .int .u64 (wd c 3)]

def memB (c : Cls) (b : Int) : Bool := c.getLsbD b.toNat
/-- One byte more. -/
def addB (c : Cls) (b : Int) : Cls := c ||| BitVec.twoPow 256 b.toNat

theorem wn_lt (c : Cls) (i : Nat) : wn c i < 18446744073709551616 := by unfold wn; omega
theorem wd_bd (c : Cls) (i : Nat) : 0 ≤ wd c i ∧ wd c i < 18446744073709551616 := by
  have := wn_lt c i; unfold wd; omega

theorem encA_at (c : Cls) (i : Nat) (h : i < 4) : (encA c)[i]? = some (.int .u64 (wd c i)) := by
  match i, h with
  | 0, _ => rfl
  | 1, _ => rfl
  | 2, _ => rfl
  | 3, _ => rfl

theorem wn_testBit (c : Cls) (i j : Nat) : (wn c i).testBit j = (decide (j < 64) && c.getLsbD (64 * i + j)) := by
  unfold wn
  rw [Nat.testBit_mod_two_pow, ← Nat.shiftRight_eq_div_pow, Nat.testBit_shiftRight]
  rfl

theorem wn_ext {c d : Cls} (h : ∀ i, i < 4 → wn c i = wn d i) : c = d := by
  apply BitVec.eq_of_getLsbD_eq
  intro k hk
  have h1 := wn_testBit c (k / 64) (k % 64)
  have h2 := wn_testBit d (k / 64) (k % 64)
  rw [h (k / 64) (by omega)] at h1
  have hm : k % 64 < 64 := Nat.mod_lt _ (by omega)
  have he : 64 * (k / 64) + k % 64 = k := by omega
  rw [he] at h1 h2
  simp only [hm, decide_true, Bool.true_and] at h1 h2
  exact h1.symm.trans h2

theorem rHas_bit (c : Cls) (b : Int) (h0 : 0 ≤ b) (h1 : b < 256) :
    ((wd c (b / 64).toNat / 2 ^ (b % 64).toNat).tmod 2 == 1) = memB c b := by
  obtain ⟨n, rfl⟩ := Int.eq_ofNat_of_zero_le h0
  have e1 : ((n : Int) / 64).toNat = n / 64 := by omega
  have e2 : ((n : Int) % 64).toNat = n % 64 := by omega
  rw [e1, e2]
  unfold wd memB
  have ht := wn_testBit c (n / 64) (n % 64)
  rw [show 64 * (n / 64) + n % 64 = n by omega, show decide (n % 64 < 64) = true by simp; omega, Bool.true_and] at ht
  rw [show ((n : Int)).toNat = n from rfl, ← ht, Nat.testBit_eq_decide_div_mod_eq]
  have e3 : ((wn c (n / 64) : Nat) : Int) / 2 ^ (n % 64) = ((wn c (n / 64) / 2 ^ (n % 64) : Nat) : Int) := by
    rw [Int.natCast_ediv]; simp
  rw [e3]
  generalize wn c (n / 64) / 2 ^ (n % 64) = m
  rw [Int.tmod_eq_emod_of_nonneg (by omega)]
  rw [Bool.eq_iff_iff]; simp; omega

theorem pow_lt64 (k : Nat) (h : k < 64) : 2 ^ k < 18446744073709551616 := by
  show 2 ^ k < 2 ^ 64
  exact Nat.pow_lt_pow_right (by omega) h

theorem wrap_pow (k : Nat) (h : k < 64) : IntKind.u64.wrap (2 ^ k) = ((2 ^ k : Nat) : Int) := by
  rw [IntKind.wrap_u64]
  have h' := pow_lt64 k h
  rw [show ((2 : Int) ^ k) = ((2 ^ k : Nat) : Int) by simp]
  generalize 2 ^ k = m at *
  omega

theorem cHas_bit (c : Cls) (b : Int) (h0 : 0 ≤ b) (h1 : b < 256) :
    (bits BinOp.and IntKind.u64 (wd c (b / 64).toNat) (IntKind.u64.wrap (2 ^ (b % 64).toNat)) != 0) = memB c b := by
  obtain ⟨n, rfl⟩ := Int.eq_ofNat_of_zero_le h0
  have e1 : ((n : Int) / 64).toNat = n / 64 := by omega
  have e2 : ((n : Int) % 64).toNat = n % 64 := by omega
  have hl : n % 64 < 64 := Nat.mod_lt _ (by omega)
  have hp := pow_lt64 _ hl
  rw [e1, e2, wrap_pow _ hl]
  unfold wd memB
  rw [u64_and_nat _ _ (wn_lt _ _) hp]
  have ht := wn_testBit c (n / 64) (n % 64)
  rw [show 64 * (n / 64) + n % 64 = n by omega, show decide (n % 64 < 64) = true by simp; omega, Bool.true_and] at ht
  rw [show ((n : Int)).toNat = n from rfl, ← ht]
  rw [nat_bit, Nat.testBit_eq_decide_div_mod_eq]
  have hpos : 0 < 2 ^ (n % 64) := Nat.pow_pos (by omega)
  generalize 2 ^ (n % 64) = m at *
  rcases Nat.mod_two_eq_zero_or_one (wn c (n / 64) / m) with h | h
  · simp [h]
  · rw [h, Bool.eq_iff_iff]; simp; omega

theorem add_word (c : Cls) (n i : Nat) (hi : i < 4) (hn : n < 256) :
    wn (addB c (n : Int)) i = if i = n / 64 then wn c i ||| 2 ^ (n % 64) else wn c i := by
  apply Nat.eq_of_testBit_eq
  intro j
  rw [wn_testBit]
  unfold addB
  rw [show ((n : Int)).toNat = n from rfl, BitVec.getLsbD_or, BitVec.getLsbD_twoPow]
  split
  · rename_i e; subst e
    rw [Nat.testBit_or, wn_testBit, Nat.testBit_two_pow]
    by_cases hj : j < 64
    · simp only [hj, decide_true, Bool.true_and]
      congr 1
      rw [Bool.eq_iff_iff]; simp; omega
    · simp only [hj, decide_false, Bool.false_and, Bool.false_or]
      simp; omega
  · rename_i e
    rw [wn_testBit]
    by_cases hj : j < 64
    · simp only [hj, decide_true, Bool.true_and]
      have : (decide (n < 256) && decide (n = 64 * i + j)) = false := by simp; omega
      rw [this, Bool.or_false]
    · simp [hj]

/-- What 'add' and 'With' store into the word b/64. -/
theorem add_val (c : Cls) (b : Int) (h0 : 0 ≤ b) (h1 : b < 256) :
    bits BinOp.or IntKind.u64 (wd c (b / 64).toNat) (IntKind.u64.wrap (2 ^ (b % 64).toNat)) = wd (addB c b) (b / 64).toNat := by
  obtain ⟨n, rfl⟩ := Int.eq_ofNat_of_zero_le h0
  have e1 : ((n : Int) / 64).toNat = n / 64 := by omega
  have e2 : ((n : Int) % 64).toNat = n % 64 := by omega
  have hl : n % 64 < 64 := Nat.mod_lt _ (by omega)
  have hp := pow_lt64 _ hl
  rw [e1, e2, wrap_pow _ hl]
  unfold wd
  rw [u64_or_nat _ _ (wn_lt _ _) hp, add_word c n _ (by omega) (by omega), if_pos rfl]

theorem add_row (c : Cls) (b : Int) (h0 : 0 ≤ b) (h1 : b < 256) :
    (encA c).setIfInBounds (b / 64).toNat (.int .u64 (wd (addB c b) (b / 64).toNat)) = encA (addB c b) := by
  obtain ⟨n, rfl⟩ := Int.eq_ofNat_of_zero_le h0
  have e1 : ((n : Int) / 64).toNat = n / 64 := by omega
  rw [e1]
  have hw : ∀ i, i < 4 → i ≠ n / 64 → wd (addB c (n : Int)) i = wd c i := fun i hi hne => by
    unfold wd; rw [add_word c n i hi (by omega), if_neg hne]
  have h4 : n / 64 < 4 := by omega
  generalize hk : n / 64 = k at *
  match k, h4 with
  | 0, _ => simp [encA, hw 1 (by omega) (by omega), hw 2 (by omega) (by omega), hw 3 (by omega) (by omega)]
  | 1, _ => simp [encA, hw 0 (by omega) (by omega), hw 2 (by omega) (by omega), hw 3 (by omega) (by omega)]
  | 2, _ => simp [encA, hw 0 (by omega) (by omega), hw 1 (by omega) (by omega), hw 3 (by omega) (by omega)]
  | 3, _ => simp [encA, hw 0 (by omega) (by omega), hw 1 (by omega) (by omega), hw 2 (by omega) (by omega)]

theorem wd_zero (i : Nat) : wd 0#256 i = 0 := by unfold wd wn; simp

theorem or_word (a b : Cls) (i : Nat) (_hi : i < 4) : bits BinOp.or IntKind.u64 (wd a i) (wd b i) = wd (a ||| b) i := by
  unfold wd
  rw [u64_or_nat _ _ (wn_lt _ _) (wn_lt _ _)]
  congr 1
  apply Nat.eq_of_testBit_eq
  intro j
  rw [Nat.testBit_or, wn_testBit, wn_testBit, wn_testBit, BitVec.getLsbD_or]
  cases decide (j < 64) <;> rfl
theorem and_word (a b : Cls) (i : Nat) (_hi : i < 4) : bits BinOp.and IntKind.u64 (wd a i) (wd b i) = wd (a &&& b) i := by
  unfold wd
  rw [u64_and_nat _ _ (wn_lt _ _) (wn_lt _ _)]
  congr 1
  apply Nat.eq_of_testBit_eq
  intro j
  rw [Nat.testBit_and, wn_testBit, wn_testBit, wn_testBit, BitVec.getLsbD_and]
  cases decide (j < 64) <;> simp
theorem not_testBit (x j : Nat) (hx : x < 18446744073709551616) : (18446744073709551615 - x).testBit j = (decide (j < 64) && !x.testBit j) := by
  have := Nat.testBit_two_pow_sub_succ (x := x) (n := 64) hx j
  rwa [show (2 ^ 64 - (x + 1) : Nat) = 18446744073709551615 - x by omega] at this
theorem not_word_n (a : Cls) (i : Nat) (hi : i < 4) : 18446744073709551615 - wn a i = wn (~~~a) i := by
  apply Nat.eq_of_testBit_eq
  intro j
  rw [not_testBit _ _ (wn_lt _ _), wn_testBit, wn_testBit, BitVec.getLsbD_not]
  by_cases hj : j < 64
  · simp only [hj, decide_true, Bool.true_and]
    rw [show decide (64 * i + j < 256) = true by simp; omega, Bool.true_and]
  · simp [hj]
theorem minus_word (a b : Cls) (i : Nat) (hi : i < 4) : bits BinOp.andNot IntKind.u64 (wd a i) (wd b i) = wd (a &&& ~~~b) i := by
  unfold wd
  rw [u64_andNot_nat _ _ (wn_lt _ _) (wn_lt _ _), not_word_n b i hi]
  congr 1
  apply Nat.eq_of_testBit_eq
  intro j
  rw [Nat.testBit_and, wn_testBit, wn_testBit, wn_testBit, BitVec.getLsbD_and]
  cases decide (j < 64) <;> simp

theorem not_word (a : Cls) (i : Nat) (hi : i < 4) : bits BinOp.xor IntKind.u64 IntKind.u64.max (wd a i) = wd (~~~a) i := by
  unfold wd
  rw [show IntKind.u64.max = ((18446744073709551615 : Nat) : Int) from rfl, u64_xor_nat _ _ (by omega) (wn_lt _ _)]
  congr 1
  rw [← not_word_n a i hi]
  apply Nat.eq_of_testBit_eq
  intro j
  rw [Nat.testBit_xor, not_testBit _ _ (wn_lt _ _), show (18446744073709551615 : Nat) = 2 ^ 64 - 1 by omega, Nat.testBit_two_pow_sub_one, wn_testBit]
  cases decide (j < 64) <;> simp

/-- The class of the bytes below k for which p holds. -/
def filtB (p : Nat → Bool) : Nat → Cls
  | 0 => 0#256
  | k + 1 => if p k then addB (filtB p k) (k : Int) else filtB p k
theorem getLsbD_addB (c : Cls) (n b : Nat) (hn : n < 256) : (addB c (n : Int)).getLsbD b = (c.getLsbD b || decide (b = n)) := by
  unfold addB
  rw [show ((n : Int)).toNat = n from rfl, BitVec.getLsbD_or, BitVec.getLsbD_twoPow]
  congr 1
  rw [Bool.eq_iff_iff]; simp; omega
theorem getLsbD_filtB (p : Nat → Bool) (k b : Nat) (hk : k ≤ 256) : (filtB p k).getLsbD b = (decide (b < k) && p b) := by
  induction k with
  | zero => simp [filtB]
  | succ k ih =>
    have ih := ih (by omega)
    unfold filtB
    by_cases hb : b = k
    · subst hb
      split
      · rename_i h; rw [getLsbD_addB _ _ _ (by omega), ih]; simp [h]
      · rename_i h; rw [ih]; simp [h]
    · have e : decide (b < k + 1) = decide (b < k) := by rw [Bool.eq_iff_iff]; simp; omega
      split
      · rw [getLsbD_addB _ _ _ (by omega), ih, e]; simp [hb]
      · rw [ih, e]
theorem filtB_all (p : Nat → Bool) (c : Cls) (h : ∀ b, b < 256 → p b = c.getLsbD b) : filtB p 256 = c := by
  apply BitVec.eq_of_getLsbD_eq
  intro b hb
  rw [getLsbD_filtB p 256 b (by omega), h b hb]
  simp [hb]

/-- The members below k, in increasing order. -/
def bytesTo (c : Cls) : Nat → List UInt8
  | 0 => []
  | k + 1 => if c.getLsbD k then bytesTo c k ++ [UInt8.ofNat k] else bytesTo c k
theorem bytesTo_len (c : Cls) (k : Nat) : (bytesTo c k).length ≤ k := by
  induction k with
  | zero => simp [bytesTo]
  | succ k ih =>
    unfold bytesTo
    split
    · simp; omega
    · omega

end Go.Proofs.YthfmjhicmopclaaDoor
