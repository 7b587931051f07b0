/-
  Plain mathematics of OnesCount64: the sum of the bits of a word by halves; the number of the members of a class.
-/
import Derived.Test.YthfmjhicmopclaaDoorPlain
namespace Go.Proofs.YthfmjhicmopclaaDoor
open Go.RowKit

theorem and_split (k q p q' p' : Nat) (hp : p < 2 ^ k) (hp' : p' < 2 ^ k) : (2 ^ k * q + p) &&& (2 ^ k * q' + p') = 2 ^ k * (q &&& q') + (p &&& p') := by
  have h3 : p &&& p' < 2 ^ k := Nat.and_lt_two_pow _ hp'
  apply Nat.eq_of_testBit_eq
  intro j
  rw [Nat.testBit_and, Nat.testBit_two_pow_mul_add _ hp, Nat.testBit_two_pow_mul_add _ hp', Nat.testBit_two_pow_mul_add _ h3]
  split <;> simp [Nat.testBit_and]

def ofD : List Nat → Nat
  | [] => 0
  | d :: l => 256 * ofD l + d
def mk (c n : Nat) : Nat := ofD (List.replicate n c)
theorem mk_succ (c n : Nat) : mk c (n + 1) = 256 * mk c n + c := rfl

def b1 (d : Nat) : Nat := (d / 2 &&& 85) + (d &&& 85)
def b2 (d : Nat) : Nat := (d / 4 &&& 51) + (d &&& 51)
def b3 (d : Nat) : Nat := (d / 16 + d) &&& 15
def nib (d : Nat) : Bool := d % 16 ≤ 4 && d / 16 ≤ 4

theorem t1 : ∀ d, d < 256 → ∀ t, t < 2 → ((128 * t + d / 2) &&& 85) + (d &&& 85) = b1 d ∧ b1 d < 256 := by decide +kernel
theorem t2 : ∀ d, d < 256 → ∀ t, t < 4 → ((64 * t + d / 4) &&& 51) + (d &&& 51) = b2 d ∧ b2 d < 256 := by decide +kernel
theorem t3 : ∀ d, d < 256 → nib d = true → ∀ t, t < 5 → (16 * t + d / 16 + d) &&& 15 = b3 d ∧ 16 * t + d / 16 + d < 256 ∧ b3 d < 16 := by decide +kernel
theorem t4 : ∀ d, d < 256 → nib (b2 (b1 d)) = true := by decide +kernel

theorem s1_digits (l : List Nat) (h : ∀ d ∈ l, d < 256) : (ofD l / 2 &&& mk 85 l.length) + (ofD l &&& mk 85 l.length) = ofD (l.map b1) := by
  induction l with
  | nil => rfl
  | cons d l ih =>
    have ih := ih (fun x hx => h x (by simp [hx]))
    have hd := h d (by simp)
    have e1 : ofD (d :: l) / 2 = 2 ^ 8 * (ofD l / 2) + (128 * (ofD l % 2) + d / 2) := by simp only [ofD]; omega
    have e2 : ofD (d :: l) = 2 ^ 8 * ofD l + d := rfl
    have e3 : mk 85 (d :: l).length = 2 ^ 8 * mk 85 l.length + 85 := rfl
    rw [e1, e2, e3, and_split 8 _ _ _ _ (by omega) (by omega), and_split 8 _ _ _ _ (by omega) (by omega)]
    have h1 := (t1 d hd (ofD l % 2) (by omega)).1
    show _ = 256 * ofD (l.map b1) + b1 d
    omega
theorem s2_digits (l : List Nat) (h : ∀ d ∈ l, d < 256) : (ofD l / 4 &&& mk 51 l.length) + (ofD l &&& mk 51 l.length) = ofD (l.map b2) := by
  induction l with
  | nil => rfl
  | cons d l ih =>
    have ih := ih (fun x hx => h x (by simp [hx]))
    have hd := h d (by simp)
    have e1 : ofD (d :: l) / 4 = 2 ^ 8 * (ofD l / 4) + (64 * (ofD l % 4) + d / 4) := by simp only [ofD]; omega
    have e2 : ofD (d :: l) = 2 ^ 8 * ofD l + d := rfl
    have e3 : mk 51 (d :: l).length = 2 ^ 8 * mk 51 l.length + 51 := rfl
    rw [e1, e2, e3, and_split 8 _ _ _ _ (by omega) (by omega), and_split 8 _ _ _ _ (by omega) (by omega)]
    have h1 := (t2 d hd (ofD l % 4) (by omega)).1
    show _ = 256 * ofD (l.map b2) + b2 d
    omega
theorem low_nib (l : List Nat) (h : ∀ d ∈ l, d < 256 ∧ nib d = true) : ofD l % 16 < 5 := by
  cases l with
  | nil => simp [ofD]
  | cons d l =>
    have := (h d (by simp)).2
    simp only [nib, Bool.and_eq_true, decide_eq_true_eq] at this
    simp only [ofD]; omega
theorem s3_digits (l : List Nat) (h : ∀ d ∈ l, d < 256 ∧ nib d = true) : (ofD l / 16 + ofD l) &&& mk 15 l.length = ofD (l.map b3) := by
  induction l with
  | nil => rfl
  | cons d l ih =>
    have hl : ∀ d ∈ l, d < 256 ∧ nib d = true := fun x hx => h x (by simp [hx])
    have ih := ih hl
    have hd := h d (by simp)
    have h1 := t3 d hd.1 hd.2 (ofD l % 16) (low_nib l hl)
    have e1 : ofD (d :: l) / 16 + ofD (d :: l) = 2 ^ 8 * (ofD l / 16 + ofD l) + (16 * (ofD l % 16) + d / 16 + d) := by simp only [ofD]; omega
    have e3 : mk 15 (d :: l).length = 2 ^ 8 * mk 15 l.length + 15 := rfl
    rw [e1, e3, and_split 8 _ _ _ _ (by omega) (by omega)]
    show _ = 256 * ofD (l.map b3) + b3 d
    omega

/-- The number of the k < n with p k. -/
def cnt (p : Nat → Bool) : Nat → Nat
  | 0 => 0
  | n + 1 => cnt p n + (if p n then 1 else 0)
theorem cnt_congr (p q : Nat → Bool) (n : Nat) (h : ∀ k, k < n → p k = q k) : cnt p n = cnt q n := by
  induction n with
  | zero => rfl
  | succ n ih => simp only [cnt]; rw [ih (fun k hk => h k (by omega)), h n (by omega)]
theorem cnt_add (p : Nat → Bool) (m n : Nat) : cnt p (m + n) = cnt p m + cnt (fun k => p (m + k)) n := by
  induction n with
  | zero => rfl
  | succ n ih => rw [← Nat.add_assoc]; simp only [cnt]; rw [ih]; omega

theorem pc_byte : ∀ d, d < 256 → b3 (b2 (b1 d)) = cnt d.testBit 8 := by decide +kernel
theorem cnt_le (p : Nat → Bool) (n : Nat) : cnt p n ≤ n := by
  induction n with
  | zero => simp [cnt]
  | succ n ih => simp only [cnt]; split <;> omega

theorem cnt_digits (l : List Nat) (h : ∀ d ∈ l, d < 256) : cnt (ofD l).testBit (8 * l.length) = (l.map fun d => cnt d.testBit 8).sum := by
  induction l with
  | nil => rfl
  | cons d l ih =>
    have ih := ih (fun x hx => h x (by simp [hx]))
    have hd : d < 2 ^ 8 := h d (by simp)
    rw [show 8 * (d :: l).length = 8 + 8 * l.length by simp; omega, cnt_add]
    have e2 : ofD (d :: l) = 2 ^ 8 * ofD l + d := rfl
    have h1 : cnt (ofD (d :: l)).testBit 8 = cnt d.testBit 8 := cnt_congr _ _ _ fun k hk => by
      rw [e2, Nat.testBit_two_pow_mul_add _ hd, if_pos hk]
    have h2 : cnt (fun k => (ofD (d :: l)).testBit (8 + k)) (8 * l.length) = cnt (ofD l).testBit (8 * l.length) := cnt_congr _ _ _ fun k hk => by
      rw [e2, Nat.testBit_two_pow_mul_add _ hd, if_neg (by omega)]; congr 1; omega
    rw [h1, h2, ih]; simp

theorem digits8 (x : Nat) (h : x < 18446744073709551616) : x = ofD [x % 256, x / 256 % 256, x / 65536 % 256, x / 16777216 % 256, x / 4294967296 % 256, x / 1099511627776 % 256, x / 281474976710656 % 256, x / 72057594037927936 % 256] := by
  simp only [ofD]; omega

def st1 (x : Nat) : Nat := (x / 2 &&& 6148914691236517205) + (x &&& 6148914691236517205)
def st2 (x : Nat) : Nat := (x / 4 &&& 3689348814741910323) + (x &&& 3689348814741910323)
def st3 (x : Nat) : Nat := (x / 16 + x) &&& 1085102592571150095
def st4 (x : Nat) : Nat := x + x / 256
def st5 (x : Nat) : Nat := x + x / 65536
def st6 (x : Nat) : Nat := x + x / 4294967296

theorem sum8 (a b c d e f g h : Nat) (ha : a ≤ 8) (hb : b ≤ 8) (hc : c ≤ 8) (hd : d ≤ 8) (he : e ≤ 8) (hf : f ≤ 8) (hg : g ≤ 8) (hh : h ≤ 8) :
    st6 (st5 (st4 (ofD [a, b, c, d, e, f, g, h]))) % 128 = a + b + c + d + e + f + g + h := by
  have hdiv : ∀ (a : Nat) (l : List Nat), a < 256 → ofD (a :: l) / 256 = ofD l := fun a l h => by simp only [ofD]; omega
  have e4 : st4 (ofD [a, b, c, d, e, f, g, h]) = ofD [a + b, b + c, c + d, d + e, e + f, f + g, g + h, h] := by
    unfold st4
    rw [hdiv a _ (by omega)]
    simp only [ofD]; omega
  have e5 : st5 (ofD [a + b, b + c, c + d, d + e, e + f, f + g, g + h, h]) = ofD [a + b + c + d, b + c + d + e, c + d + e + f, d + e + f + g, e + f + g + h, f + g + h, g + h, h] := by
    unfold st5
    rw [show (65536 : Nat) = 256 * 256 from rfl, ← Nat.div_div_eq_div_mul, hdiv _ _ (by omega), hdiv _ _ (by omega)]
    simp only [ofD]; omega
  have e6 : st6 (ofD [a + b + c + d, b + c + d + e, c + d + e + f, d + e + f + g, e + f + g + h, f + g + h, g + h, h]) = ofD [a + b + c + d + e + f + g + h, b + c + d + e + f + g + h, c + d + e + f + g + h, d + e + f + g + h, e + f + g + h, f + g + h, g + h, h] := by
    unfold st6
    rw [show (4294967296 : Nat) = 256 * 256 * 256 * 256 from rfl, ← Nat.div_div_eq_div_mul, ← Nat.div_div_eq_div_mul, ← Nat.div_div_eq_div_mul, hdiv _ _ (by omega), hdiv _ _ (by omega), hdiv _ _ (by omega), hdiv _ _ (by omega)]
    simp only [ofD]; omega
  rw [e4, e5, e6]
  have : ∀ (s : Nat) (l : List Nat), ofD (s :: l) % 128 = s % 128 := fun s l => by simp only [ofD]; omega
  rw [this]; omega

theorem stages (x : Nat) (h : x < 18446744073709551616) :
    st1 x < 18446744073709551616 ∧ st2 (st1 x) ≤ 4919131752989213764 ∧ st3 (st2 (st1 x)) ≤ 578721382704613384 ∧ st6 (st5 (st4 (st3 (st2 (st1 x))))) % 128 = cnt x.testBit 64 := by
  have hx := digits8 x h
  generalize hl : [x % 256, x / 256 % 256, x / 65536 % 256, x / 16777216 % 256, x / 4294967296 % 256, x / 1099511627776 % 256, x / 281474976710656 % 256, x / 72057594037927936 % 256] = l at hx
  have hlen : l.length = 8 := by rw [← hl]; rfl
  have hb : ∀ d ∈ l, d < 256 := by
    rw [← hl]; intro d hd
    simp only [List.mem_cons, List.not_mem_nil, or_false] at hd
    omega
  have e1 : st1 x = ofD (l.map b1) := by
    rw [hx, ← s1_digits l hb, hlen]; rfl
  have hb1 : ∀ d ∈ l.map b1, d < 256 := by
    intro d hd
    obtain ⟨d0, h0, rfl⟩ := List.mem_map.1 hd
    exact (t1 d0 (hb d0 h0) 0 (by omega)).2
  have e2 : st2 (st1 x) = ofD ((l.map b1).map b2) := by
    rw [e1, ← s2_digits _ hb1, List.length_map, hlen]; rfl
  have hb2 : ∀ d ∈ (l.map b1).map b2, d < 256 ∧ nib d = true := by
    intro d hd
    obtain ⟨d0, h0, rfl⟩ := List.mem_map.1 hd
    obtain ⟨d1, h1, rfl⟩ := List.mem_map.1 h0
    exact ⟨(t2 _ (t1 d1 (hb d1 h1) 0 (by omega)).2 0 (by omega)).2, t4 d1 (hb d1 h1)⟩
  have e3 : st3 (st2 (st1 x)) = ofD (((l.map b1).map b2).map b3) := by
    rw [e2, ← s3_digits _ hb2, List.length_map, List.length_map, hlen]; rfl
  have e4 : ((l.map b1).map b2).map b3 = l.map fun d => cnt d.testBit 8 := by
    rw [List.map_map, List.map_map]
    apply List.map_congr_left
    intro d hd
    exact pc_byte d (hb d hd)
  have e5 := cnt_digits l hb
  rw [hlen, ← hx] at e5
  rw [e4] at e3
  have hlt1 : ∀ (m : List Nat), m.length = 8 → (∀ d ∈ m, d < 256) → ofD m < 18446744073709551616 := by
    intro m hm hd
    match m, hm with
    | [a, b, c, d, e, f, g, i], _ =>
      simp only [List.mem_cons, List.not_mem_nil, or_false, forall_eq_or_imp, forall_eq] at hd
      simp only [ofD]; omega
  have hlt2 : ∀ (m : List Nat), m.length = 8 → (∀ d ∈ m, d < 256 ∧ nib d = true) → ofD m ≤ 4919131752989213764 := by
    intro m hm hd
    have hd' : ∀ d ∈ m, d ≤ 68 := fun d h => by
      have := (hd d h).2
      simp only [nib, Bool.and_eq_true, decide_eq_true_eq] at this
      omega
    match m, hm with
    | [a, b, c, d, e, f, g, i], _ =>
      simp only [List.mem_cons, List.not_mem_nil, or_false, forall_eq_or_imp, forall_eq] at hd'
      simp only [ofD]; omega
  refine ⟨by rw [e1]; exact hlt1 _ (by simp [hlen]) hb1, by rw [e2]; exact hlt2 _ (by simp [hlen]) hb2, ?_, ?_⟩
  · rw [e3]
    match l, hlen with
    | [a, b, c, d, e, f, g, i], _ =>
      simp only [List.map_cons, List.map_nil, ofD]
      have := cnt_le a.testBit 8; have := cnt_le b.testBit 8; have := cnt_le c.testBit 8; have := cnt_le d.testBit 8
      have := cnt_le e.testBit 8; have := cnt_le f.testBit 8; have := cnt_le g.testBit 8; have := cnt_le i.testBit 8
      omega
  · rw [e3, e5]
    match l, hlen with
    | [a, b, c, d, e, f, g, i], _ =>
      rw [List.map_cons, List.map_cons, List.map_cons, List.map_cons, List.map_cons, List.map_cons, List.map_cons, List.map_cons, List.map_nil]
      rw [sum8 _ _ _ _ _ _ _ _ (cnt_le _ _) (cnt_le _ _) (cnt_le _ _) (cnt_le _ _) (cnt_le _ _) (cnt_le _ _) (cnt_le _ _) (cnt_le _ _)]
      simp only [List.sum_cons, List.sum_nil]; omega

end Go.Proofs.YthfmjhicmopclaaDoor
