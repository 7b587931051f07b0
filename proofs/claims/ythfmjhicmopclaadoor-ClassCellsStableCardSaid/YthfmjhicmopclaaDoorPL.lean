/-
  Plain: what the cells are; whoever has the same cells has the same list. No program.
-/
import Derived.Test.YthfmjhicmopclaaDoorCS
namespace Go.Proofs.YthfmjhicmopclaaDoor

/-- Two bytes are members of the same classes. -/
def Alk (l : List Cls) (i j : Nat) : Prop := ∀ c ∈ l, c.getLsbD i = c.getLsbD j
theorem Alk.refl (l : List Cls) (i : Nat) : Alk l i i := fun _ _ => rfl
theorem Alk.symm {l : List Cls} {i j : Nat} (h : Alk l i j) : Alk l j i := fun c hc => (h c hc).symm
theorem Alk.trans {l : List Cls} {i j k : Nat} (h : Alk l i j) (h' : Alk l j k) : Alk l i k := fun c hc => (h c hc).trans (h' c hc)

/-- The list L has the cells of l. -/
structure IsCells (l L : List Cls) : Prop where
  dis : L.Pairwise Dis
  nz : ∀ c ∈ L, c ≠ 0#256
  cover : ∀ i, i < 256 → ∃ c ∈ L, c.getLsbD i = true
  cls : ∀ c ∈ L, ∀ i, i < 256 → c.getLsbD i = true → ∀ j, j < 256 → (c.getLsbD j = true ↔ Alk l i j)

theorem mem_split1 (k c x : Cls) : x ∈ split1 k c ↔ (x = c &&& k ∨ x = c &&& ~~~k) ∧ x ≠ 0#256 := by
  unfold split1
  rw [List.mem_filter]
  simp
theorem nz_of_bit {c : Cls} {i : Nat} (h : c.getLsbD i = true) : c ≠ 0#256 := by
  rintro rfl; simp at h
theorem bit_of_nz {c : Cls} (h : c ≠ 0#256) : ∃ i, i < 256 ∧ c.getLsbD i = true := by
  have h1 := least_mem c h
  exact ⟨_, by omega, h1.2.2⟩
theorem isCells_split {l L : List Cls} (k : Cls) (h : IsCells l L) : IsCells (l ++ [k]) (splitC k L) where
  dis := splitC_dis k L h.dis
  nz := splitC_nz k L
  cover := fun i hi => by
    obtain ⟨c, hc, hci⟩ := h.cover i hi
    cases hk : k.getLsbD i
    · have hx : (c &&& ~~~k).getLsbD i = true := by rw [BitVec.getLsbD_and, BitVec.getLsbD_not, hci, hk]; simp [hi]
      exact ⟨_, List.mem_flatMap.2 ⟨c, hc, (mem_split1 k c _).2 ⟨.inr rfl, nz_of_bit hx⟩⟩, hx⟩
    · have hx : (c &&& k).getLsbD i = true := by rw [BitVec.getLsbD_and, hci, hk]; rfl
      exact ⟨_, List.mem_flatMap.2 ⟨c, hc, (mem_split1 k c _).2 ⟨.inl rfl, nz_of_bit hx⟩⟩, hx⟩
  cls := fun x hx i hi hxi j hj => by
    obtain ⟨c, hc, hx⟩ := List.mem_flatMap.1 hx
    obtain ⟨hx, -⟩ := (mem_split1 k c x).1 hx
    have hal : Alk (l ++ [k]) i j ↔ Alk l i j ∧ k.getLsbD i = k.getLsbD j := by
      constructor
      · intro h; exact ⟨fun c hc => h c (by simp [hc]), h k (by simp)⟩
      · rintro ⟨h1, h2⟩ c hc
        rw [List.mem_append, List.mem_singleton] at hc
        rcases hc with hc | rfl
        · exact h1 c hc
        · exact h2
    rw [hal]
    rcases hx with rfl | rfl
    · rw [BitVec.getLsbD_and, Bool.and_eq_true] at hxi
      rw [← h.cls c hc i hi hxi.1 j hj, BitVec.getLsbD_and, Bool.and_eq_true, hxi.2]
      cases k.getLsbD j <;> simp
    · simp only [BitVec.getLsbD_and, BitVec.getLsbD_not, hi, hj, decide_true, Bool.true_and, Bool.and_eq_true, Bool.not_eq_true'] at hxi ⊢
      rw [← h.cls c hc i hi hxi.1 j hj, hxi.2]
      cases k.getLsbD j <;> simp
theorem isCells_cellsU (l : List Cls) : IsCells l (cellsU l) := by
  have : ∀ (l m L : List Cls), IsCells m L → IsCells (m ++ l) (l.foldl (fun L k => splitC k L) L) := fun l => by
    induction l with
    | nil => intro m L h; rw [List.append_nil]; exact h
    | cons k l ih =>
      intro m L h
      have := ih (m ++ [k]) _ (isCells_split k h)
      rw [List.append_assoc, List.singleton_append] at this
      exact this
  have h0 : IsCells [] [allC] := by
    refine ⟨List.pairwise_singleton _ _, full_one.2, fun i hi => ⟨allC, List.mem_singleton.2 rfl, ?_⟩, fun c hc i hi _ j hj => ?_⟩
    · unfold allC; rw [BitVec.getLsbD_not, BitVec.getLsbD_zero]; simp [hi]
    · rw [List.mem_singleton] at hc
      subst hc
      constructor
      · intro _ c hc; cases hc
      · intro _; unfold allC; rw [BitVec.getLsbD_not, BitVec.getLsbD_zero]; simp [hj]
  exact this l [] [allC] h0
theorem IsCells.perm {l L M : List Cls} (h : IsCells l L) (hp : M.Perm L) : IsCells l M where
  dis := hp.symm.pairwise h.dis (fun hab => Dis.symm hab)
  nz := fun c hc => h.nz c (hp.mem_iff.1 hc)
  cover := fun i hi => by obtain ⟨c, hc, hi⟩ := h.cover i hi; exact ⟨c, hp.mem_iff.2 hc, hi⟩
  cls := fun c hc => h.cls c (hp.mem_iff.1 hc)
theorem isCells_S (l : List Cls) : IsCells l (cellsS l) := (isCells_cellsU l).perm (cellsS_perm l)

theorem IsCells.nodup {l L : List Cls} (h : IsCells l L) : L.Nodup := by
  refine List.Pairwise.imp_of_mem ?_ h.dis
  rintro a b ha hb hab rfl
  obtain ⟨i, _, hi⟩ := bit_of_nz (h.nz a ha)
  exact hab i ⟨hi, hi⟩
theorem IsCells.sub {l m L M : List Cls} (h : IsCells l L) (h' : IsCells m M) (hs : ∀ i j, i < 256 → j < 256 → (Alk l i j ↔ Alk m i j)) (c : Cls) (hc : c ∈ L) : c ∈ M := by
  obtain ⟨i, hi, hci⟩ := bit_of_nz (h.nz c hc)
  obtain ⟨d, hd, hdi⟩ := h'.cover i hi
  have : c = d := by
    apply BitVec.eq_of_getLsbD_eq
    intro j hj
    have h1 := h.cls c hc i hi hci j hj
    have h2 := h'.cls d hd i hi hdi j hj
    rw [hs i j hi hj] at h1
    rw [Bool.eq_iff_iff, h1, h2]
  rw [this]; exact hd
theorem IsCells.eq {l m L M : List Cls} (h : IsCells l L) (h' : IsCells m M) (hs : ∀ i j, i < 256 → j < 256 → (Alk l i j ↔ Alk m i j)) (hL : L.Pairwise fun a b => key a ≤ key b) (hM : M.Pairwise fun a b => key a ≤ key b) : L = M := by
  have hp : L.Perm M := (List.perm_ext_iff_of_nodup h.nodup h'.nodup).2 fun c => ⟨h.sub h' hs c, h'.sub h (fun i j hi hj => (hs i j hi hj).symm) c⟩
  exact List.Perm.eq_of_pairwise (fun a b ha hb h1 h2 => key_inj h'.dis h'.nz a b (hp.mem_iff.1 ha) hb (Int.le_antisymm h1 h2)) hL hM hp
theorem cellsS_eq {l m : List Cls} (hs : ∀ i j, i < 256 → j < 256 → (Alk l i j ↔ Alk m i j)) : cellsS l = cellsS m :=
  (isCells_S l).eq (isCells_S m) hs (cellsS_sorted l) (cellsS_sorted m)

theorem alk_cells (l : List Cls) (i j : Nat) (hi : i < 256) (hj : j < 256) : Alk (cellsS l) i j ↔ Alk l i j := by
  have h := isCells_S l
  constructor
  · intro ha
    obtain ⟨c, hc, hci⟩ := h.cover i hi
    exact (h.cls c hc i hi hci j hj).1 (by rw [← ha c hc]; exact hci)
  · intro ha c hc
    rw [Bool.eq_iff_iff]
    exact ⟨fun hci => (h.cls c hc i hi hci j hj).2 ha, fun hcj => (h.cls c hc j hj hcj i hi).2 ha.symm⟩

/-- The key is the least member. -/
theorem key_of (c : Cls) (m : Nat) (hm : m < 256) (h : c.getLsbD m = true) (hl : ∀ j, j < m → c.getLsbD j = false) : key c = m := by
  have h1 := least_mem c (nz_of_bit h)
  have h2 := hl (headI (bytesTo c 256)).toNat
  unfold key
  have h3 : ¬ (headI (bytesTo c 256)).toNat < m := fun hlt => by rw [h2 hlt] at h1; exact absurd h1.2.2 (by simp)
  have h4 : headI (bytesTo c 256) ≤ m := by
    have hmem : UInt8.ofNat m ∈ bytesTo c 256 := (mem_bytes c _).2 (by rw [u8n m hm]; exact h)
    have hinc : (bytesTo c 256).Pairwise fun a b => a.toNat < b.toNat := by
      have : ∀ k, k ≤ 256 → (bytesTo c k).Pairwise fun a b => a.toNat < b.toNat := fun k => by
        induction k with
        | zero => intro _; exact List.Pairwise.nil
        | succ k ih =>
          intro hk
          simp only [bytesTo]
          split
          · rw [List.pairwise_append]
            refine ⟨ih (by omega), List.pairwise_singleton _ _, fun a ha b hb => ?_⟩
            rw [List.mem_singleton] at hb
            subst hb
            rw [u8n k (by omega)]
            exact ((mem_bytesTo c k (by omega) a).1 ha).1
          · exact ih (by omega)
      exact this 256 (Nat.le_refl _)
    cases hb : bytesTo c 256 with
    | nil => rw [hb] at hmem; cases hmem
    | cons x t =>
      rw [hb] at hmem hinc
      simp only [headI]
      rcases List.mem_cons.1 hmem with e | e
      · rw [← e, u8n m hm]; exact Int.le_refl _
      · have := (List.pairwise_cons.1 hinc).1 _ e
        rw [u8n m hm] at this
        omega
  omega

/-- Where the reference stands before the byte i. -/
structure RInv (l : List Cls) (i : Nat) (out : List Cls) (le : List UInt8) : Prop where
  len : out.length = le.length
  bound : le.length ≤ i
  bits : ∀ k, k < le.length → ∀ j, j < 256 → ((out.getD k 0#256).getLsbD j = true ↔ j < i ∧ Alk l (le.getD k 0).toNat j)
  inc : ∀ k, k < le.length → (le.getD k 0).toNat < i
  srt : ∀ m k, m < k → k < le.length → (le.getD m 0).toNat < (le.getD k 0).toNat
  sep : ∀ k j, k < le.length → j < (le.getD k 0).toNat → ¬ Alk l j (le.getD k 0).toNat
  all : ∀ j, j < i → ∃ k, k < le.length ∧ Alk l (le.getD k 0).toNat j
theorem rinv_start (l : List Cls) : RInv l 0 [] [] := by
  refine ⟨rfl, ?_, ?_, ?_, ?_, ?_, ?_⟩ <;> simp
theorem getD_app_lt {α : Type} (l : List α) (x d : α) (k : Nat) (h : k < l.length) : (l ++ [x]).getD k d = l.getD k d := by
  rw [List.getD_eq_getElem?_getD, List.getElem?_append_left h, ← List.getD_eq_getElem?_getD]
theorem getD_app_eq {α : Type} (l : List α) (x d : α) : (l ++ [x]).getD l.length d = x := by
  rw [List.getD_eq_getElem?_getD, List.getElem?_append_right (Nat.le_refl _)]; simp
theorem getD_set_self {α : Type} (l : List α) (x d : α) (k : Nat) (h : k < l.length) : (l.set k x).getD k d = x := by
  simp [List.getD_eq_getElem?_getD, h]
theorem getD_set_oth {α : Type} (l : List α) (x d : α) (k m : Nat) (h : k ≠ m) : (l.set k x).getD m d = l.getD m d := by
  simp [List.getD_eq_getElem?_getD, List.getElem?_set_ne h]
theorem rinv_new {l : List Cls} {i : Nat} {out : List Cls} {le : List UInt8} (h : RInv l i out le) (hi : i < 256) (hn : ∀ k, k < le.length → ¬ Alk l (le.getD k 0).toNat i) :
    RInv l (i + 1) (out ++ [addB 0#256 (i : Int)]) (le ++ [UInt8.ofNat i]) := by
  have hu := u8n i hi
  have hlen := h.len
  have hlt : ∀ k, k < (le ++ [UInt8.ofNat i]).length → k < le.length ∨ k = le.length := fun k hk => by simp at hk; omega
  refine ⟨by simp [hlen], by have := h.bound; simp; omega, fun k hk j hj => ?_, fun k hk => ?_, fun m k hmk hk => ?_, fun k j hk hj => ?_, fun j hj => ?_⟩
  · rcases hlt k hk with hk | rfl
    · rw [getD_app_lt _ _ _ _ (by omega), getD_app_lt _ _ _ _ hk, h.bits k hk j hj]
      constructor
      · rintro ⟨h1, h2⟩; exact ⟨by omega, h2⟩
      · rintro ⟨h1, h2⟩
        refine ⟨?_, h2⟩
        by_cases e : j = i
        · rw [e] at h2; exact absurd h2 (hn k hk)
        · omega
    · rw [← hlen, getD_app_eq, hlen, getD_app_eq, hu, getLsbD_addB _ _ _ hi]
      simp only [BitVec.getLsbD_zero, Bool.false_or, decide_eq_true_eq]
      constructor
      · rintro rfl; exact ⟨by omega, Alk.refl _ _⟩
      · rintro ⟨h1, h2⟩
        by_cases e : j = i
        · exact e
        · obtain ⟨k, hk, hka⟩ := h.all j (by omega)
          exact absurd (hka.trans h2.symm) (hn k hk)
  · rcases hlt k hk with hk | rfl
    · rw [getD_app_lt _ _ _ _ hk]; have := h.inc k hk; omega
    · rw [getD_app_eq, hu]; omega
  · rcases hlt k hk with hk | rfl
    · rw [getD_app_lt _ _ _ _ hk, getD_app_lt _ _ _ _ (by omega)]; exact h.srt m k hmk hk
    · rw [getD_app_eq, hu, getD_app_lt _ _ _ _ hmk]; exact h.inc m hmk
  · rcases hlt k hk with hk | rfl
    · rw [getD_app_lt _ _ _ _ hk] at hj ⊢; exact h.sep k j hk hj
    · rw [getD_app_eq, hu] at hj ⊢
      intro ha
      obtain ⟨k, hk, hka⟩ := h.all j hj
      exact hn k hk (hka.trans ha)
  · by_cases e : j = i
    · subst e
      exact ⟨le.length, by simp, by rw [getD_app_eq, hu]; exact Alk.refl _ _⟩
    · obtain ⟨k, hk, hka⟩ := h.all j (by omega)
      exact ⟨k, by simp; omega, by rw [getD_app_lt _ _ _ _ hk]; exact hka⟩
theorem rinv_old {l : List Cls} {i : Nat} {out : List Cls} {le : List UInt8} (h : RInv l i out le) (hi : i < 256) (k : Nat) (hk : k < le.length) (ha : Alk l (le.getD k 0).toNat i) :
    RInv l (i + 1) (out.set k (addB (out.getD k 0#256) (i : Int))) le := by
  have hlen := h.len
  refine ⟨by simp [hlen], by have := h.bound; omega, fun m hm j hj => ?_, fun m hm => by have := h.inc m hm; omega, h.srt, h.sep, fun j hj => ?_⟩
  · by_cases e : k = m
    · subst e
      rw [getD_set_self _ _ _ _ (by omega), getLsbD_addB _ _ _ hi, Bool.or_eq_true, h.bits k hk j hj, decide_eq_true_eq]
      constructor
      · rintro (⟨h1, h2⟩ | rfl)
        · exact ⟨by omega, h2⟩
        · exact ⟨by omega, ha⟩
      · rintro ⟨h1, h2⟩
        by_cases e : j = i
        · exact .inr e
        · exact .inl ⟨by omega, h2⟩
    · rw [getD_set_oth _ _ _ _ _ e, h.bits m hm j hj]
      constructor
      · rintro ⟨h1, h2⟩; exact ⟨by omega, h2⟩
      · rintro ⟨h1, h2⟩
        refine ⟨?_, h2⟩
        by_cases e' : j = i
        · exfalso
          subst e'
          have hkm := ha.trans h2.symm
          rcases Nat.lt_or_gt_of_ne e with hlt | hgt
          · exact h.sep m _ hm (h.srt k m hlt hm) hkm
          · exact h.sep k _ hk (h.srt m k hgt hk) hkm.symm
        · omega
  · by_cases e : j = i
    · subst e; exact ⟨k, hk, ha⟩
    · exact h.all j (by omega)
theorem mem_getD {α : Type} {l : List α} {x d : α} (h : x ∈ l) : ∃ k, k < l.length ∧ l.getD k d = x := by
  obtain ⟨k, hk, rfl⟩ := List.mem_iff_getElem.1 h
  exact ⟨k, hk, by rw [List.getD_eq_getElem?_getD, List.getElem?_eq_getElem hk]; rfl⟩
theorem rinv_end {l : List Cls} {out : List Cls} {le : List UInt8} (h : RInv l 256 out le) : out = cellsS l := by
  have hlen := h.len
  have hat : ∀ k (hk : k < out.length), out[k] = out.getD k 0#256 := fun k hk => by rw [List.getD_eq_getElem?_getD, List.getElem?_eq_getElem hk]; rfl
  have hself : ∀ k, k < le.length → (out.getD k 0#256).getLsbD (le.getD k 0).toNat = true := fun k hk =>
    (h.bits k hk _ (UInt8.toNat_lt _)).2 ⟨UInt8.toNat_lt _, Alk.refl _ _⟩
  have hkey : ∀ k, k < le.length → key (out.getD k 0#256) = ((le.getD k 0).toNat : Int) := fun k hk =>
    key_of _ _ (UInt8.toNat_lt _) (hself k hk) fun j hj => by
      rw [← Bool.not_eq_true]
      intro hb
      exact h.sep k j hk hj ((h.bits k hk j (by have := UInt8.toNat_lt (le.getD k 0); omega)).1 hb).2.symm
  have hcells : IsCells l out := by
    refine ⟨?_, fun c hc => ?_, fun i hi => ?_, fun c hc i hi hci j hj => ?_⟩
    · rw [List.pairwise_iff_getElem]
      intro m k hm hk hmk i ⟨h1, h2⟩
      rw [hat m hm] at h1
      rw [hat k hk] at h2
      have hi : i < 256 := by
        apply Classical.byContradiction; intro hn
        rw [BitVec.getLsbD_of_ge _ _ (by omega)] at h1; cases h1
      have a1 := ((h.bits m (by omega) i hi).1 h1).2
      have a2 := ((h.bits k (by omega) i hi).1 h2).2
      exact h.sep k _ (by omega) (h.srt m k hmk (by omega)) (a1.trans a2.symm)
    · obtain ⟨k, hk, rfl⟩ := mem_getD (d := 0#256) hc
      exact nz_of_bit (hself k (by omega))
    · obtain ⟨k, hk, ha⟩ := h.all i hi
      refine ⟨out.getD k 0#256, ?_, (h.bits k hk i hi).2 ⟨hi, ha⟩⟩
      rw [← hat k (by omega)]; exact List.getElem_mem _
    · obtain ⟨k, hk, rfl⟩ := mem_getD (d := 0#256) hc
      have ai := ((h.bits k (by omega) i hi).1 hci).2
      rw [h.bits k (by omega) j hj]
      exact ⟨fun ⟨_, aj⟩ => ai.symm.trans aj, fun aij => ⟨hj, ai.trans aij⟩⟩
  refine hcells.eq (isCells_S l) (fun _ _ _ _ => Iff.rfl) ?_ (cellsS_sorted l)
  rw [List.pairwise_iff_getElem]
  intro m k hm hk hmk
  rw [hat m hm, hat k hk, hkey m (by omega), hkey k (by omega)]
  have := h.srt m k hmk (by omega)
  omega

/-- How the reference's 'Alike' says it. -/
theorem alk_all (l : List Cls) (x y : Nat) : (l.all fun c => memB c (x : Int) == memB c (y : Int)) = true ↔ Alk l x y := by
  simp [Alk, memB]
theorem alk_all_not (l : List Cls) (x y : Nat) : (l.all fun c => memB c (x : Int) == memB c (y : Int)) = false ↔ ¬ Alk l x y := by
  rw [← alk_all, Bool.not_eq_true]

end Go.Proofs.YthfmjhicmopclaaDoor
