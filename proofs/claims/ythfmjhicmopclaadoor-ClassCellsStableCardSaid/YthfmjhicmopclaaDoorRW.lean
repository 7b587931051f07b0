/-
  Rows of classes.
-/
import Derived.Test.YthfmjhicmopclaaDoorW8
import Derived.Test.YthfmjhicmopclaaDoorCP
import Derived.Test.YthfmjhicmopclaaDoorEq
import Derived.Test.YthfmjhicmopclaaDoorW4
namespace Go.Proofs.YthfmjhicmopclaaDoor
open Go.RowKit Go.Shelf

/-- A class's four cells. -/
def encL (c : Cls) : List Value := [.int .u64 (wd c 0), .int .u64 (wd c 1), .int .u64 (wd c 2), .int .u64 (wd c 3)]
theorem encL_get (c : Cls) : ∀ j, j < 4 → (encL c)[j]! = .int .u64 (wd c j)
  | 0, _ => rfl
  | 1, _ => rfl
  | 2, _ => rfl
  | 3, _ => rfl
  | n + 4, h => by omega

/-- The cells of a row of classes. -/
def flatE (L : List Cls) : List Value := L.flatMap encL
theorem flatE_nil : flatE [] = [] := rfl
theorem flatE_append (L M : List Cls) : flatE (L ++ M) = flatE L ++ flatE M := by simp [flatE]
theorem flatE_one (c : Cls) : flatE [c] = encL c := by simp [flatE]
theorem flatE_len (L : List Cls) : (flatE L).length = L.length * 4 := by
  induction L with
  | nil => rfl
  | cons c L ih =>
    show (encL c ++ flatE L).length = _
    rw [List.length_append, ih, List.length_cons]
    show 4 + _ = _
    omega
theorem flatE_get (L : List Cls) : ∀ i, i < L.length * 4 → (flatE L)[i]? = some (.int .u64 (wd (L.getD (i / 4) 0#256) (i % 4))) := by
  induction L with
  | nil => intro i h; simp at h
  | cons c L ih =>
    intro i h
    show (encL c ++ flatE L)[i]? = _
    by_cases h4 : i < 4
    · rw [List.getElem?_append_left (show i < (encL c).length from h4), Nat.div_eq_of_lt h4, Nat.mod_eq_of_lt h4]
      match i, h4 with
      | 0, _ => rfl
      | 1, _ => rfl
      | 2, _ => rfl
      | 3, _ => rfl
      | n + 4, h => omega
    · simp only [List.length_cons] at h
      rw [List.getElem?_append_right (show (encL c).length ≤ i from by show 4 ≤ i; omega)]
      show (flatE L)[i - 4]? = _
      rw [ih (i - 4) (by omega), show i / 4 = (i - 4) / 4 + 1 by omega, show i % 4 = (i - 4) % 4 by omega]
      rfl
/-- An owned row of classes. -/
abbrev Row (W : World) (base : Nat) (v : Value) (L : List Cls) : Prop := W.ownsRow base 30 4 v L.length (flatE L)
theorem Row.cells {W : World} {base : Nat} {v : Value} {L : List Cls} (h : Row W base v L) (hn : 0 < L.length) : ∃ g cap, v = .slice (some ⟨g, 0, none⟩) L.length cap ∧ base ≤ g ∧ g < W.heap.size ∧ (∀ i, W.frozen? ⟨g, i, none⟩ = false) ∧
    ∀ i, i < L.length * 4 → W.cell? ⟨g, 0 + i, none⟩ = some (.int .u64 (wd (L.getD (i / 4) 0#256) (i % 4))) := by
  obtain ⟨hl, ⟨_, h0⟩ | ⟨g, cap, cur, rfl, hb, hg, hnc, hcm, hcs, htake⟩⟩ := h
  · omega
  · refine ⟨g, cap, rfl, hb, lt_of_heap hg, fun i => ?_, fun i hi => ?_⟩
    · simp [World.frozen?, hg]
    · rw [Nat.zero_add, cell_of_row W g i cur 30 (0, 0) hg, ← flatE_get L i hi, ← htake, List.getElem?_take, if_pos hi, Array.getElem?_toList]
theorem Row.toCs {W : World} {base : Nat} {v : Value} {L : List Cls} (h : Row W base v L) (hn : L.length ≤ 4611686018427387904) : Cs W v L := by
  refine ⟨hn, ?_⟩
  by_cases h0 : L.length = 0
  · obtain ⟨hl, ⟨rfl, _⟩ | ⟨g, cap, cur, rfl, _⟩⟩ := h
    · exact .inl ⟨h0, _, _, rfl⟩
    · exact .inl ⟨h0, _, _, by rw [h0]⟩
  · obtain ⟨g, cap, rfl, _, hlt, _, hc⟩ := h.cells (by omega)
    exact .inr ⟨by omega, g, 0, cap, rfl, hlt, hc⟩

theorem Row.mono {W : World} {b b' : Nat} {v : Value} {L : List Cls} (h : Row W b v L) (hb : b' ≤ b) : Row W b' v L := by
  obtain ⟨hl, h | ⟨g, cap, cur, hv, hg, r⟩⟩ := h
  · exact ⟨hl, .inl h⟩
  · exact ⟨hl, .inr ⟨g, cap, cur, hv, Nat.le_trans hb hg, r⟩⟩
theorem cells4 {W : World} {b off : Nat} {l : List Cls} (h : ∀ i, i < l.length * 4 → W.cell? ⟨b, off + i, none⟩ = some (.int .u64 (wd (l.getD (i / 4) 0#256) (i % 4)))) (k : Nat) (hk : k < l.length) :
    W.cell? ⟨b, off + k * 4, none⟩ = some (.int .u64 (wd (l.getD k 0#256) 0)) ∧ W.cell? ⟨b, off + k * 4 + 1, none⟩ = some (.int .u64 (wd (l.getD k 0#256) 1)) ∧
    W.cell? ⟨b, off + k * 4 + 2, none⟩ = some (.int .u64 (wd (l.getD k 0#256) 2)) ∧ W.cell? ⟨b, off + k * 4 + 3, none⟩ = some (.int .u64 (wd (l.getD k 0#256) 3)) := by
  obtain ⟨a0, a1, a2, a3⟩ := cs_cells h k hk
  exact ⟨a0 ⟨W, Ext.refl W⟩, a1 ⟨W, Ext.refl W⟩, a2 ⟨W, Ext.refl W⟩, a3 ⟨W, Ext.refl W⟩⟩
theorem not0_any (w : World) : Calls Tryd.prog 31 #[.agg zA] w fun e w' => e = .returned (.agg (encA allC)) ∧ Ext w w' := by
  have := not_any 0#256 w
  rwa [encA_zero] at this

theorem idx46_0 (a b c d e f g h : Int) (w : World) : (Instr.index 46 (.agg #[.int .u64 a, .int .u64 b, .int .u64 c, .int .u64 d, .int .u64 e, .int .u64 f, .int .u64 g, .int .u64 h]) (.int .i64 0)).run Tryd.prog w = .ok (.agg #[.int .u64 a, .int .u64 b, .int .u64 c, .int .u64 d]) w := by kernel_rfl
theorem idx46_1 (a b c d e f g h : Int) (w : World) : (Instr.index 46 (.agg #[.int .u64 a, .int .u64 b, .int .u64 c, .int .u64 d, .int .u64 e, .int .u64 f, .int .u64 g, .int .u64 h]) (.int .i64 1)).run Tryd.prog w = .ok (.agg #[.int .u64 e, .int .u64 f, .int .u64 g, .int .u64 h]) w := by kernel_rfl
theorem info30' : (Tryd.prog.info? 30).map (fun i => (i.zero, i.size, i.bytes)) = some (some (.agg zA), 4, 32) := by kernel_rfl
/-- The first q of the two, without the empty ones. -/
def pre2 (x y : Cls) : Nat → List Cls
  | 0 => []
  | 1 => if x = 0#256 then [] else [x]
  | _ => (if x = 0#256 then [] else [x]) ++ (if y = 0#256 then [] else [y])
theorem pre2_0 (x y : Cls) : pre2 x y 0 = [] := rfl

theorem pre2_succ0 (S : List Cls) (x y : Cls) : S ++ pre2 x y 1 = (S ++ pre2 x y 0) ++ if (x == 0#256) then [] else [x] := by simp [pre2]
theorem pre2_succ1 (S : List Cls) (x y : Cls) : S ++ pre2 x y 2 = (S ++ pre2 x y 1) ++ if (y == 0#256) then [] else [y] := by simp [pre2]
theorem pre2_len (S : List Cls) (x y : Cls) (q : Nat) : (S ++ pre2 x y q).length ≤ S.length + 2 := by
  match q with
  | 0 => simp [pre2]
  | 1 => simp only [pre2, List.length_append]; split <;> simp
  | n + 2 => simp only [pre2, List.length_append]; split <;> split <;> simp
theorem row_new_cells (w : World) (x : Cls) : ∀ j u, (encL x)[j]? = some u → (w.alloc (.cells (encA x) 30)).cell? ((⟨w.heap.size, 0, none⟩ : Addr).add j) = some u := by
  intro j u h
  rw [show ((⟨w.heap.size, 0, none⟩ : Addr).add j) = ⟨w.heap.size, j, none⟩ by rw [Addr.add_lit, Nat.zero_add], cell_of_row _ _ _ _ 30 (0, 0) (heap_alloc_new w _)]
  rw [← List.getElem?_toArray] at h
  exact h

end Go.Proofs.YthfmjhicmopclaaDoor
