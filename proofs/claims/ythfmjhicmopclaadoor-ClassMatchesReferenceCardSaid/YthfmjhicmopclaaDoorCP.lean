/-
  Plain: splitting classes by a class; partitions. No program.
-/
import Derived.Test.YthfmjhicmopclaaDoorPop
import Derived.Test.YthfmjhicmopclaaDoorW10
namespace Go.Proofs.YthfmjhicmopclaaDoor

/-- What a class is split into. -/
def split1 (k c : Cls) : List Cls := [c &&& k, c &&& ~~~k].filter (· != 0#256)
def splitC (k : Cls) (L : List Cls) : List Cls := L.flatMap (split1 k)
/-- Every byte. -/
def allC : Cls := ~~~(0#256)
/-- The cells, in the order of the splitting. -/
def cellsU (l : List Cls) : List Cls := l.foldl (fun L k => splitC k L) [allC]

theorem cnt_or (p q r : Nat → Bool) (n : Nat) (h : ∀ k, k < n → (p k).toNat = (q k).toNat + (r k).toNat) : cnt p n = cnt q n + cnt r n := by
  induction n with
  | zero => rfl
  | succ n ih =>
    have h1 := ih (fun k hk => h k (by omega))
    have h2 := h n (by omega)
    simp only [cnt]
    cases hp : p n <;> cases hq : q n <;> cases hr : r n <;> simp_all <;> omega

theorem sz_split (k c : Cls) : sz c = sz (c &&& k) + sz (c &&& ~~~k) := by
  unfold sz
  refine cnt_or _ _ _ 256 fun j hj => ?_
  simp only [BitVec.getLsbD_and, BitVec.getLsbD_not, hj, decide_true, Bool.true_and]
  cases c.getLsbD j <;> cases k.getLsbD j <;> rfl

theorem cnt_zero {p : Nat → Bool} {n : Nat} (h : cnt p n = 0) : ∀ k, k < n → p k = false := by
  induction n with
  | zero => intro k hk; omega
  | succ n ih =>
    simp only [cnt] at h
    intro k hk
    by_cases hkn : k = n
    · subst hkn
      cases hp : p k
      · rfl
      · rw [hp] at h; simp at h
    · exact ih (by omega) k (by omega)
theorem sz_zero : sz 0#256 = 0 := by
  unfold sz
  have : ∀ n, cnt (0#256).getLsbD n = 0 := fun n => by
    induction n with
    | zero => rfl
    | succ n ih => simp [cnt, ih]
  exact this 256
theorem sz_eq_zero (c : Cls) : sz c = 0 ↔ c = 0#256 := by
  refine ⟨fun h => ?_, fun h => by rw [h]; exact sz_zero⟩
  apply BitVec.eq_of_getLsbD_eq
  intro i hi
  rw [cnt_zero h i hi]; simp
theorem sz_all : sz allC = 256 := by
  unfold sz allC
  have : ∀ n, n ≤ 256 → cnt (~~~(0#256)).getLsbD n = n := fun n => by
    induction n with
    | zero => intro _; rfl
    | succ n ih =>
      intro hn
      have := ih (by omega)
      simp only [cnt, this, BitVec.getLsbD_not, BitVec.getLsbD_zero]
      simp; omega
  exact this 256 (Nat.le_refl _)

/-- The sum of the sizes. -/
def szs (L : List Cls) : Nat := (L.map sz).sum
theorem split1_eq (k c : Cls) : split1 k c = (if c &&& k = 0#256 then [] else [c &&& k]) ++ (if c &&& ~~~k = 0#256 then [] else [c &&& ~~~k]) := by
  unfold split1
  generalize c &&& k = x
  generalize c &&& ~~~k = y
  by_cases h1 : x = 0#256 <;> by_cases h2 : y = 0#256 <;> simp [h1, h2]
theorem szs_split1 (k c : Cls) : szs (split1 k c) = sz c := by
  rw [sz_split k c]
  rw [split1_eq]
  unfold szs
  generalize c &&& k = x
  generalize c &&& ~~~k = y
  by_cases h1 : x = 0#256 <;> by_cases h2 : y = 0#256 <;> simp [h1, h2, sz_zero]
theorem szs_append (L M : List Cls) : szs (L ++ M) = szs L + szs M := by simp [szs]
theorem szs_splitC (k : Cls) (L : List Cls) : szs (splitC k L) = szs L := by
  induction L with
  | nil => rfl
  | cons c L ih =>
    show szs (split1 k c ++ splitC k L) = szs ([c] ++ L)
    rw [szs_append, szs_append, szs_split1, ih]
    simp [szs]
theorem split1_nz (k c : Cls) : ∀ x ∈ split1 k c, x ≠ 0#256 := by
  intro x hx
  simpa using (List.mem_filter.1 hx).2
theorem splitC_nz (k : Cls) (L : List Cls) : ∀ x ∈ splitC k L, x ≠ 0#256 := by
  intro x hx
  obtain ⟨c, _, hc⟩ := List.mem_flatMap.1 hx
  exact split1_nz k c x hc

/-- 256 bytes in all, no class empty. -/
def Full (L : List Cls) : Prop := szs L = 256 ∧ ∀ c ∈ L, c ≠ 0#256
theorem full_one : Full [allC] := ⟨by simp [szs, sz_all], fun c hc => by simp at hc; subst hc; decide⟩
theorem Full.split {L : List Cls} (h : Full L) (k : Cls) : Full (splitC k L) := ⟨by rw [szs_splitC, h.1], splitC_nz k L⟩
theorem len_le_szs (L : List Cls) (h : ∀ c ∈ L, c ≠ 0#256) : L.length ≤ szs L := by
  induction L with
  | nil => simp
  | cons c L ih =>
    have h1 := ih (fun x hx => h x (by simp [hx]))
    have h2 : sz c ≠ 0 := fun e => h c (by simp) ((sz_eq_zero c).1 e)
    simp only [szs, List.map_cons, List.sum_cons, List.length_cons] at *
    omega
theorem Full.len {L : List Cls} (h : Full L) : L.length ≤ 256 := by rw [← h.1]; exact len_le_szs L h.2
theorem Full.pos {L : List Cls} (h : Full L) : 0 < L.length := by
  cases L with
  | nil => exact absurd h.1 (by simp [szs])
  | cons => simp
theorem full_cellsU (l : List Cls) : Full (cellsU l) := by
  have : ∀ (l : List Cls) (L : List Cls), Full L → Full (l.foldl (fun L k => splitC k L) L) := fun l => by
    induction l with
    | nil => intro L h; exact h
    | cons k l ih => intro L h; exact ih _ (h.split k)
  exact this l _ full_one
theorem cellsU_take_succ (l : List Cls) (k : Nat) (h : k < l.length) : cellsU (l.take (k + 1)) = splitC (l.getD k 0#256) (cellsU (l.take k)) := by
  have e : l.take (k + 1) = l.take k ++ [l.getD k 0#256] := by
    rw [List.take_add_one]; congr 1; simp [List.getElem?_eq_getElem h]
  rw [e]; simp [cellsU, List.foldl_append]
theorem splitC_take_succ (k : Cls) (L : List Cls) (j : Nat) (h : j < L.length) : splitC k (L.take (j + 1)) = splitC k (L.take j) ++ split1 k (L.getD j 0#256) := by
  have e : L.take (j + 1) = L.take j ++ [L.getD j 0#256] := by
    rw [List.take_add_one]; congr 1; simp [List.getElem?_eq_getElem h]
  rw [e]; simp [splitC, List.flatMap_append]
theorem split1_len (k c : Cls) : (split1 k c).length ≤ 2 := by
  rw [split1_eq]; split <;> split <;> simp
theorem splitC_len (k : Cls) (L : List Cls) : (splitC k L).length ≤ 2 * L.length := by
  induction L with
  | nil => simp [splitC]
  | cons c L ih =>
    have := split1_len k c
    show (split1 k c ++ splitC k L).length ≤ _
    simp only [List.length_append, List.length_cons]; omega
end Go.Proofs.YthfmjhicmopclaaDoor
