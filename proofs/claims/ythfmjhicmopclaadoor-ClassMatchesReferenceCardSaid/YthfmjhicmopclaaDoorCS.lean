/-
  Plain: the cells are disjoint; sorted by their least members they are one list. No program.
-/
import Derived.Test.YthfmjhicmopclaaDoorCP
import Derived.Test.YthfmjhicmopclaaDoorW7
import Derived.Test.YthfmjhicmopclaaDoorW8
namespace Go.Proofs.YthfmjhicmopclaaDoor

theorem u8n (k : Nat) (h : k < 256) : (UInt8.ofNat k).toNat = k := by simp; omega
/-- The members. -/
theorem mem_bytesTo (c : Cls) (k : Nat) (hk : k ≤ 256) (x : UInt8) : x ∈ bytesTo c k ↔ x.toNat < k ∧ c.getLsbD x.toNat = true := by
  induction k with
  | zero => simp [bytesTo]
  | succ k ih =>
    have ih := ih (by omega)
    have hx : x = UInt8.ofNat k ↔ x.toNat = k := by
      rw [← UInt8.toNat_inj, u8n k (by omega)]
    simp only [bytesTo]
    split
    · rename_i h
      rw [List.mem_append, ih, List.mem_singleton, hx]
      constructor
      · rintro (⟨h1, h2⟩ | h1)
        · exact ⟨by omega, h2⟩
        · exact ⟨by omega, by rw [h1]; exact h⟩
      · rintro ⟨h1, h2⟩
        by_cases h3 : x.toNat = k
        · exact .inr h3
        · exact .inl ⟨by omega, h2⟩
    · rename_i h
      rw [ih]
      constructor
      · rintro ⟨h1, h2⟩; exact ⟨by omega, h2⟩
      · rintro ⟨h1, h2⟩
        refine ⟨?_, h2⟩
        by_cases h3 : x.toNat = k
        · rw [h3] at h2; exact absurd h2 h
        · omega
theorem mem_bytes (c : Cls) (x : UInt8) : x ∈ bytesTo c 256 ↔ c.getLsbD x.toNat = true := by
  rw [mem_bytesTo c 256 (Nat.le_refl _)]
  exact ⟨fun h => h.2, fun h => ⟨x.toNat_lt, h⟩⟩
/-- A class's least member is one. -/
theorem least_mem (c : Cls) (h : c ≠ 0#256) : 0 ≤ headI (bytesTo c 256) ∧ headI (bytesTo c 256) < 256 ∧ c.getLsbD (headI (bytesTo c 256)).toNat = true := by
  cases hb : bytesTo c 256 with
  | nil =>
    exfalso; apply h
    apply BitVec.eq_of_getLsbD_eq
    intro i hi
    rw [BitVec.getLsbD_zero]
    cases hc : c.getLsbD i
    · rfl
    · have := (mem_bytes c (UInt8.ofNat i)).2 (by rw [u8n i hi]; exact hc)
      rw [hb] at this; cases this
  | cons x t =>
    have hx := (mem_bytes c x).1 (by rw [hb]; exact List.mem_cons_self)
    have := x.toNat_lt
    simp only [headI]
    exact ⟨by omega, by omega, by simpa using hx⟩

/-- No byte in both. -/
def Dis (a b : Cls) : Prop := ∀ i, ¬ (a.getLsbD i = true ∧ b.getLsbD i = true)
theorem split1_sub (k c x : Cls) (h : x ∈ split1 k c) (i : Nat) (hi : x.getLsbD i = true) : c.getLsbD i = true := by
  have := (List.mem_filter.1 h).1
  simp only [List.mem_cons, List.not_mem_nil, or_false] at this
  rcases this with rfl | rfl <;> (rw [BitVec.getLsbD_and] at hi; simp only [Bool.and_eq_true] at hi; exact hi.1)
theorem split1_dis (k c : Cls) : (split1 k c).Pairwise Dis := by
  unfold split1
  refine List.Pairwise.filter _ ?_
  refine List.Pairwise.cons (fun y hy => ?_) (List.pairwise_singleton _ _)
  simp only [List.mem_singleton] at hy
  subst hy
  rintro i ⟨h1, h2⟩
  simp only [BitVec.getLsbD_and, BitVec.getLsbD_not, Bool.and_eq_true, Bool.not_eq_true'] at h1 h2
  rw [h1.2] at h2
  exact absurd h2.2.2 (by simp)
theorem splitC_dis (k : Cls) (L : List Cls) (h : L.Pairwise Dis) : (splitC k L).Pairwise Dis := by
  unfold splitC
  rw [List.pairwise_flatMap]
  refine ⟨fun c _ => split1_dis k c, h.imp ?_⟩
  intro a b hab x hx y hy i ⟨h1, h2⟩
  exact hab i ⟨split1_sub k a x hx i h1, split1_sub k b y hy i h2⟩
theorem cellsU_dis (l : List Cls) : (cellsU l).Pairwise Dis := by
  have : ∀ (l : List Cls) (L : List Cls), L.Pairwise Dis → (l.foldl (fun L k => splitC k L) L).Pairwise Dis := fun l => by
    induction l with
    | nil => intro L h; exact h
    | cons k l ih => intro L h; exact ih _ (splitC_dis k L h)
  exact this l _ (List.pairwise_singleton _ _)

/-- A class's key. -/
def key (c : Cls) : Int := headI (bytesTo c 256)
theorem Dis.symm {a b : Cls} (h : Dis a b) : Dis b a := fun i ⟨h1, h2⟩ => h i ⟨h2, h1⟩
theorem key_inj {L : List Cls} (hd : L.Pairwise Dis) (hz : ∀ c ∈ L, c ≠ 0#256) (a b : Cls) (ha : a ∈ L) (hb : b ∈ L) (h : key a = key b) : a = b := by
  have h1 := (least_mem a (hz a ha)).2.2
  have h2 := (least_mem b (hz b hb)).2.2
  apply Classical.byContradiction
  intro hne
  have hd' : Dis a b := by
    obtain ⟨s, t, rfl⟩ := List.append_of_mem ha
    rw [List.mem_append, List.mem_cons] at hb
    rcases hb with hb | hb | hb
    · exact ((List.pairwise_append.1 hd).2.2 b hb a List.mem_cons_self).symm
    · exact absurd hb.symm hne
    · exact (List.pairwise_cons.1 (List.pairwise_append.1 hd).2.1).1 b hb
  unfold key at h
  rw [← h] at h2
  exact hd' _ ⟨h1, h2⟩

/-- The cells, sorted. -/
def cellsS (l : List Cls) : List Cls := (cellsU l).mergeSort fun a b => decide (key a ≤ key b)
theorem cellsS_perm (l : List Cls) : (cellsS l).Perm (cellsU l) := List.mergeSort_perm _ _
theorem cellsS_sorted (l : List Cls) : (cellsS l).Pairwise fun a b => key a ≤ key b := by
  have := List.pairwise_mergeSort (le := fun a b : Cls => decide (key a ≤ key b)) (fun a b c h1 h2 => by simp only [decide_eq_true_eq] at *; omega) (fun a b => by simp only [Bool.or_eq_true, decide_eq_true_eq]; omega) (cellsU l)
  exact this.imp (fun h => of_decide_eq_true h)
/-- Whatever is a sorted permutation of the split list is that list. -/
theorem cells_unique {L M : List Cls} (hd : M.Pairwise Dis) (hz : ∀ c ∈ M, c ≠ 0#256) (hp : L.Perm M) (hs : L.Pairwise fun a b => key a ≤ key b) {N : List Cls} (hp' : N.Perm M) (hs' : N.Pairwise fun a b => key a ≤ key b) : L = N :=
  List.Perm.eq_of_pairwise (fun a b ha hb h1 h2 => key_inj hd hz a b (hp.mem_iff.1 ha) (hp'.mem_iff.1 hb) (Int.le_antisymm h1 h2)) hs hs' (hp.trans hp'.symm)
theorem cellsS_unique {l L : List Cls} (hp : L.Perm (cellsU l)) (hs : L.Pairwise fun a b => key a ≤ key b) : L = cellsS l :=
  cells_unique (cellsU_dis l) (full_cellsU l).2 hp hs (cellsS_perm l) (cellsS_sorted l)
theorem cellsS_len (l : List Cls) : (cellsS l).length ≤ 256 := by rw [(cellsS_perm l).length_eq]; exact (full_cellsU l).len

end Go.Proofs.YthfmjhicmopclaaDoor
