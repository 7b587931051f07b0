/-
  Plain: unions of cells. No program.
-/
import Derived.Test.YthfmjhicmopclaaDoorPL
namespace Go.Proofs.YthfmjhicmopclaaDoor

/-- The union of the first i classes that p takes. -/
def uTo (p : Cls → Bool) (L : List Cls) (i : Nat) : Cls := (L.take i).foldl (fun d c => if p c then d ||| c else d) 0#256
theorem uTo_zero (p : Cls → Bool) (L : List Cls) : uTo p L 0 = 0#256 := rfl
theorem uTo_succ (p : Cls → Bool) (L : List Cls) (i : Nat) (h : i < L.length) : uTo p L (i + 1) = if p (L.getD i 0#256) then uTo p L i ||| L.getD i 0#256 else uTo p L i := by
  unfold uTo
  rw [List.take_succ_eq_append_getElem h, List.foldl_append]
  simp [List.getD_eq_getElem?_getD, h]
theorem fold_bit (p : Cls → Bool) (b : Nat) : ∀ (L : List Cls) (d : Cls), (L.foldl (fun d c => if p c then d ||| c else d) d).getLsbD b = (d.getLsbD b || L.any fun c => p c && c.getLsbD b)
  | [], d => by simp
  | c :: L, d => by
    rw [List.foldl_cons, fold_bit p b L, List.any_cons]
    cases hp : p c
    · simp
    · rw [if_pos rfl, BitVec.getLsbD_or]; simp [Bool.or_assoc]
theorem uTo_bit (p : Cls → Bool) (L : List Cls) (i b : Nat) : (uTo p L i).getLsbD b = (L.take i).any fun c => p c && c.getLsbD b := by
  unfold uTo
  rw [fold_bit]; simp
theorem bit_ge (c : Cls) (b : Nat) (h : 256 ≤ b) : c.getLsbD b = false := BitVec.getLsbD_of_ge _ _ (by omega)

theorem part_dis {l L : List Cls} (h : IsCells l L) (i : Nat) (hi : i < L.length) : uTo (fun _ => true) L i &&& L.getD i 0#256 = 0#256 := by
  apply BitVec.eq_of_getLsbD_eq
  intro b hb
  rw [BitVec.getLsbD_and, uTo_bit, BitVec.getLsbD_zero, ← Bool.not_eq_true]
  intro hh
  rw [Bool.and_eq_true, List.any_eq_true] at hh
  obtain ⟨⟨c, hc, hcb⟩, hd⟩ := hh
  rw [Bool.true_and] at hcb
  obtain ⟨j, hj, rfl⟩ := List.mem_iff_getElem.1 hc
  rw [List.length_take] at hj
  rw [List.getElem_take] at hcb
  rw [List.getD_eq_getElem?_getD, List.getElem?_eq_getElem hi] at hd
  exact (List.pairwise_iff_getElem.1 h.dis j i (by omega) hi (by omega)) b ⟨hcb, hd⟩
theorem part_all {l L : List Cls} (h : IsCells l L) : uTo (fun _ => true) L L.length = allC := by
  apply BitVec.eq_of_getLsbD_eq
  intro b hb
  rw [uTo_bit, List.take_length]
  have h1 : allC.getLsbD b = true := by unfold allC; rw [BitVec.getLsbD_not, BitVec.getLsbD_zero]; simp [hb]
  rw [h1, List.any_eq_true]
  obtain ⟨c, hc, hcb⟩ := h.cover b hb
  exact ⟨c, hc, by simp [hcb]⟩
theorem part_nz {l L : List Cls} (h : IsCells l L) (i : Nat) (hi : i < L.length) : sz (L.getD i 0#256) ≠ 0 := by
  rw [List.getD_eq_getElem?_getD, List.getElem?_eq_getElem hi]
  exact fun e => h.nz _ (List.getElem_mem hi) ((sz_eq_zero _).1 e)
theorem part_lt (l : List Cls) (i : Nat) (hi : i < (cellsS l).length) (h0 : 0 < i) : key ((cellsS l).getD (i - 1) 0#256) < key ((cellsS l).getD i 0#256) := by
  have h := isCells_S l
  have hs := List.pairwise_iff_getElem.1 (cellsS_sorted l) (i - 1) i (by omega) hi (by omega)
  rw [List.getD_eq_getElem?_getD, List.getD_eq_getElem?_getD, List.getElem?_eq_getElem hi, List.getElem?_eq_getElem (by omega)]
  simp only [Option.getD_some]
  rcases Int.lt_or_eq_of_le hs with hlt | heq
  · exact hlt
  · exfalso
    have he := key_inj h.dis h.nz _ _ (List.getElem_mem _) (List.getElem_mem _) heq
    have hn := List.pairwise_iff_getElem.1 h.nodup (i - 1) i (by omega) hi (by omega)
    exact hn he
theorem part_met {l L : List Cls} (h : IsCells l L) (c : Cls) (hc : c ∈ l) : uTo (fun d => (d &&& c) != 0#256) L L.length = c := by
  apply BitVec.eq_of_getLsbD_eq
  intro b hb
  rw [uTo_bit, List.take_length, Bool.eq_iff_iff, List.any_eq_true]
  constructor
  · rintro ⟨d, hd, hdb⟩
    rw [Bool.and_eq_true] at hdb
    obtain ⟨b', hb', hbb⟩ := bit_of_nz (c := d &&& c) (by simpa using hdb.1)
    rw [BitVec.getLsbD_and, Bool.and_eq_true] at hbb
    have := (h.cls d hd b' hb' hbb.1 b hb).1 hdb.2 c hc
    rw [← this]; exact hbb.2
  · intro hcb
    obtain ⟨d, hd, hdb⟩ := h.cover b hb
    refine ⟨d, hd, ?_⟩
    rw [Bool.and_eq_true]
    refine ⟨?_, hdb⟩
    have : (d &&& c) ≠ 0#256 := nz_of_bit (i := b) (by rw [BitVec.getLsbD_and, hdb, hcb]; rfl)
    simpa using this

end Go.Proofs.YthfmjhicmopclaaDoor
