/-
  Laws on worlds: a world that a call leaves which only lays new blocks and draws ('Ext'); cells of rows. No program.
-/
import Derived.WalkKit
import Derived.Deep.Quiet
import Derived.Lib.Hide
namespace Go.Proofs.YthfmjhicmopclaaDoor
open Go.RowKit

/-- W is w with further blocks and draws. -/
structure Ext (w W : World) : Prop where
  below : Below w.heap.size w W

theorem Ext.refl (w : World) : Ext w w := ⟨Below.refl _ _⟩
theorem Ext.trans {a b c : World} (h : Ext a b) (k : Ext b c) : Ext a c :=
  ⟨h.below.trans (k.below.mono h.below.size)⟩
theorem Ext.alloc {a b : World} (h : Ext a b) (o : Obj) : Ext a (b.alloc o) := ⟨h.below.alloc h.below.size o⟩
theorem Ext.drew {a b : World} (h : Ext a b) : Ext a b.drew := ⟨h.below.drew⟩
theorem Ext.drawn1 {a b : World} (h : Ext a b) : Ext a { b with drawn := b.drawn + 1 } := h.drew
theorem Ext.setCell {a b : World} (h : Ext a b) {p : Addr} (hp : a.heap.size ≤ p.block) (v : Value) : Ext a (b.setCell p v) := ⟨h.below.setCell hp v⟩
theorem setRow_grown (w : World) (g : Nat) (cs : Array Value) : w.grownBy (w.setRow g cs) (some g) :=
  ⟨rfl, rfl, rfl, by simp, fun k _ hk => setRow_other w g k cs (fun e => hk (by rw [e]))⟩
theorem Ext.setRow {a b : World} (h : Ext a b) {g : Nat} (hg : a.heap.size ≤ g) (cs : Array Value) : Ext a (b.setRow g cs) :=
  ⟨h.below.grown (setRow_grown b g cs) h.below.size (fun k e => by cases e; exact hg)⟩
theorem Ext.grown {a b c : World} {row : Option Nat} (h : Ext a b) (hg : b.grownBy c row) (hr : ∀ k, row = some k → a.heap.size ≤ k) : Ext a c := ⟨h.below.grown hg h.below.size hr⟩
theorem Ext.size {a b : World} (h : Ext a b) : a.heap.size ≤ b.heap.size := h.below.size
theorem Ext.block {a b : World} (h : Ext a b) {k : Nat} (hk : k < a.heap.size) : b.heap[k]? = a.heap[k]? := h.below.block k hk
theorem Ext.heap {a b : World} (h : Ext a b) {k : Nat} {o : Obj} (hk : a.heap[k]? = some o) : b.heap[k]? = some o :=
  (h.block (Array.getElem?_eq_some_iff.1 hk).1).trans hk
theorem Ext.cell {a b : World} (h : Ext a b) {p : Addr} {v : Value} (hc : a.cell? p = some v) : b.cell? p = some v :=
  (h.below.cell (World.block_lt_of_cell? a p hc)).trans hc
theorem Ext.toBelow {a b : World} (h : Ext a b) : Below a.heap.size a b := h.below

theorem heap_alloc_keep {w : World} {k : Nat} {o : Obj} (h : w.heap[k]? = some o) (x : Obj) : (w.alloc x).heap[k]? = some o :=
  (Below.heap_alloc w x k (Array.getElem?_eq_some_iff.1 h).1).trans h
theorem heap_setRow_keep {w : World} {k : Nat} {o : Obj} (h : w.heap[k]? = some o) {g : Nat} (hne : k ≠ g) (cs : Array Value) : (w.setRow g cs).heap[k]? = some o :=
  (setRow_other w g k cs hne).trans h
theorem lt_of_heap {w : World} {k : Nat} {o : Obj} (h : w.heap[k]? = some o) : k < w.heap.size := (Array.getElem?_eq_some_iff.1 h).1

/-- The value v is a slice of n elements of k cells each, whose cells are f 0, f 1, .. in W. -/
def Sl (W : World) (v : Value) (k n : Nat) (f : Nat → Value) : Prop :=
  n ≤ 4611686018427387904 ∧ ((n = 0 ∧ ∃ a cap, v = .slice a 0 cap) ∨
    (0 < n ∧ ∃ b off cap, v = .slice (some ⟨b, off, none⟩) n cap ∧ b < W.heap.size ∧ ∀ i, i < n * k → W.cell? ⟨b, off + i, none⟩ = some (f i)))

theorem Sl.ext {W W' : World} {v : Value} {k n : Nat} {f : Nat → Value} (h : Sl W v k n f) (hE : Ext W W') : Sl W' v k n f := by
  obtain ⟨h0, h | ⟨hn, b, off, cap, hv, hb, hc⟩⟩ := h
  · exact ⟨h0, .inl h⟩
  · exact ⟨h0, .inr ⟨hn, b, off, cap, hv, Nat.lt_of_lt_of_le hb hE.size, fun i hi => hE.cell (hc i hi)⟩⟩
theorem Sl.congr {W : World} {v : Value} {k n : Nat} {f g : Nat → Value} (h : Sl W v k n f) (hfg : ∀ i, i < n * k → f i = g i) : Sl W v k n g := by
  obtain ⟨h0, h | ⟨hn, b, off, cap, hv, hb, hc⟩⟩ := h
  · exact ⟨h0, .inl h⟩
  · exact ⟨h0, .inr ⟨hn, b, off, cap, hv, hb, fun i hi => by rw [hc i hi, hfg i hi]⟩⟩
theorem Sl.nil (W : World) (k : Nat) (f : Nat → Value) : Sl W (.slice none 0 0) k 0 f := ⟨by omega, .inl ⟨rfl, _, _, rfl⟩⟩

/-- A byte. -/
abbrev bv (x : UInt8) : Value := .int .u8 (x.toNat : Int)
/-- A slice of bytes. -/
def By (W : World) (v : Value) (l : List UInt8) : Prop := Sl W v 1 l.length (fun i => bv (l.getD i 0))

theorem Ext.grownBy {a b : World} (h : Ext a b) (row : Option Nat) : a.grownBy b row := ⟨h.below.os, h.below.tape, h.below.output, h.size, fun _ hk _ => h.block hk⟩
theorem owns_ext {a b : World} {base : Nat} {e : TypeId} {size : Nat} {v : Value} {n : Nat} {xs : List Value} (h : a.ownsRow base e size v n xs) (hE : Ext a b) : b.ownsRow base e size v n xs :=
  h.kept (hE.grownBy none) (by cases v.ownBlock <;> simp)
theorem Sl.of_owns {w : World} {base : Nat} {e : TypeId} {k : Nat} {v : Value} {n : Nat} {xs : List Value} (h : w.ownsRow base e k v n xs) (hn : n ≤ 4611686018427387904) (d : Value) : Sl w v k n (fun i => xs.getD i d) := by
  refine ⟨hn, ?_⟩
  obtain ⟨hl, ⟨rfl, rfl⟩ | ⟨g, cap, cur, rfl, hb, hg, hnc, hcm, hcs, htake⟩⟩ := h
  · exact .inl ⟨rfl, _, _, rfl⟩
  · by_cases h0 : n = 0
    · subst h0; exact .inl ⟨rfl, _, _, rfl⟩
    · refine .inr ⟨by omega, g, 0, cap, rfl, lt_of_heap hg, fun i hi => ?_⟩
      rw [Nat.zero_add, cell_of_row w g i cur e (0, 0) hg]
      have h1 : xs[i]? = cur.toList[i]? := by rw [← htake, List.getElem?_take, if_pos hi]
      have h2 : i < xs.length := by omega
      show cur[i]? = some (xs.getD i d)
      rw [List.getD_eq_getElem?_getD, List.getElem?_eq_getElem h2, Option.getD_some, ← Array.getElem?_toList, ← h1, List.getElem?_eq_getElem h2]
theorem By.of_owns {w : World} {base : Nat} {v : Value} {l : List UInt8} (h : w.ownsRow base 5 1 v l.length (l.map bv)) (hn : l.length ≤ 4611686018427387904) : By w v l :=
  (Sl.of_owns h hn (bv 0)).congr fun i hi => by
    simp only [List.getD_eq_getElem?_getD, List.getElem?_map]
    cases l[i]? <;> rfl
theorem By.ext {W W' : World} {v : Value} {l : List UInt8} (h : By W v l) (hE : Ext W W') : By W' v l := Sl.ext h hE

theorem By.len {W : World} {v : Value} {l : List UInt8} (h : By W v l) : ∃ a cap, v = .slice a l.length cap := by
  obtain ⟨_, ⟨hn, a, cap, rfl⟩ | ⟨_, b, off, cap, rfl, _⟩⟩ := h
  · exact ⟨a, cap, by rw [hn]⟩
  · exact ⟨_, cap, rfl⟩
theorem By.at0 {W : World} {v : Value} {x : UInt8} {l : List UInt8} (h : By W v (x :: l)) : ∃ b off cap, v = .slice (some ⟨b, off, none⟩) (l.length + 1) cap ∧ W.cell? ⟨b, off, none⟩ = some (bv x) := by
  obtain ⟨_, ⟨hn, _⟩ | ⟨hn, b, off, cap, rfl, hb, hc⟩⟩ := h
  · simp at hn
  · exact ⟨b, off, cap, rfl, hc 0 (by simp)⟩

end Go.Proofs.YthfmjhicmopclaaDoor
