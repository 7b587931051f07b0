/-
  Bytes, slices of bytes and of classes that come in.
-/
import Derived.Test.YthfmjhicmopclaaDoorR0
import Derived.Test.YthfmjhicmopclaaDoorIn
namespace Go.Proofs.YthfmjhicmopclaaDoor
open Go.ChangeShapes Go.WideShapes Go.ChangeAt Go.WideMaps Go.WideElems Go.RowKit

theorem byte_of {k : Int} (h : (Lit.int .u8 k).wf = true) : ∃ n : Nat, k = n ∧ n < 256 := by
  simp [Lit.wf, IntKind.min, IntKind.max, IntKind.bits, IntKind.signed] at h
  exact ⟨k.toNat, by omega, by omega⟩
theorem open_u8 {H : Type} {enc : TypeId × Value → H} {W : World} {b0 : Nat} {v : Value} {d : DataW H} {p : List MemPlace} (hv : Value.okWide Tryd.prog W .any b0 5 v) (h : DataW.Trod enc Tryd.prog W 0 (fun _ => true) true 5 v d p) :
    ∃ n : Nat, n < 256 ∧ v = .int .u8 (n : Int) := by
  obtain ⟨a, rfl, _, _, wa⟩ := open_int Tryd.underlying5 hv h
  obtain ⟨n, rfl, hn⟩ := byte_of wa
  exact ⟨n, hn, rfl⟩

theorem open_by {H : Type} {enc : TypeId × Value → H} {W : World} {b0 : Nat} {v : Value} {d : DataW H} {p : List MemPlace} (hv : Value.okWide Tryd.prog W .any b0 31 v) (h : DataW.Trod enc Tryd.prog W 0 (fun _ => true) true 31 v d p) :
    ∃ l : List UInt8, ByW W v l := by
  obtain ⟨a, len, cap, rfl⟩ := okWide_slice Tryd.underlying31 hv
  obtain ⟨fuel, hf⟩ := h
  rcases open_ints Tryd.underlying31 Tryd.underlying5 (by kernel_rfl) hf with ⟨hcs, _⟩ | ⟨x, l, c, zs, hcs, _, hl, hm, hz, _, hcell, hwz⟩
  · simp [Value.cells] at hcs
    obtain ⟨rfl, rfl, rfl⟩ := hcs
    exact ⟨[], by simp, .inl ⟨rfl, _, _, rfl⟩⟩
  · simp [Value.cells] at hcs
    obtain ⟨rfl, rfl, rfl⟩ := hcs
    have hz : zs.length = cap := by simpa using hz
    have hlen : ((zs.take len).map fun z => UInt8.ofNat z.toNat).length = len := by simp; omega
    refine ⟨(zs.take len).map fun z => UInt8.ofNat z.toNat, by rw [hlen]; exact Nat.le_trans hl hm, ?_⟩
    rw [hlen]
    by_cases h0 : len = 0
    · subst h0; exact .inl ⟨rfl, _, _, rfl⟩
    · obtain ⟨b, off, spot⟩ := x
      have hc := hcell 0 (by omega)
      have hspot : spot = none := by simpa [Addr.add] using World.cell?_spot hc
      subst hspot
      refine .inr ⟨by omega, b, off, cap, rfl, World.block_lt_of_cell? W _ hc, fun i hi => ?_⟩
      have h1 := hcell i (by omega)
      have h2 : i < zs.length := by omega
      have hw := hwz _ (List.getElem_mem h2)
      obtain ⟨n, hn, hn2⟩ := byte_of hw
      rw [Addr.add_lit] at h1
      rw [h1]
      simp only [List.getD_eq_getElem?_getD, List.getElem?_map, List.getElem?_take, List.getElem?_eq_getElem h2, Option.getD_some, Option.map_some, if_pos hi, hn, bv, Int.toNat_natCast]
      congr 2
      rw [u8n n hn2]

theorem exists_list {α : Type} (Q : Nat → α → Prop) (d : α) : ∀ n : Nat, (∀ i, i < n → ∃ x, Q i x) → ∃ l : List α, l.length = n ∧ ∀ i, i < n → Q i (l.getD i d)
  | 0, _ => ⟨[], rfl, fun i hi => by omega⟩
  | n + 1, h => by
    obtain ⟨l, hl, hq⟩ := exists_list Q d n fun i hi => h i (by omega)
    obtain ⟨x, hx⟩ := h n (by omega)
    refine ⟨l ++ [x], by simp [hl], fun i hi => ?_⟩
    by_cases hin : i < n
    · have := hq i hin
      rw [List.getD_eq_getElem?_getD, List.getElem?_append_left (by omega), ← List.getD_eq_getElem?_getD]
      exact this
    · obtain rfl : i = n := by omega
      rw [List.getD_eq_getElem?_getD, List.getElem?_append_right (by omega), hl]
      simpa using hx

theorem open_cs {H : Type} {enc : TypeId × Value → H} {W : World} {b0 : Nat} {v : Value} {d : DataW H} {p : List MemPlace} (hv : Value.okWide Tryd.prog W .any b0 22 v) (h : DataW.Trod enc Tryd.prog W 0 (fun _ => true) true 22 v d p) :
    ∃ l : List Cls, CsW W v l := by
  obtain ⟨a, len, cap, rfl⟩ := okWide_slice Tryd.underlying22 hv
  obtain ⟨fuel, hf⟩ := h
  have hc28 : Tryd.prog.cellsOf 28 = 1 := by kernel_rfl
  have hc30 : Tryd.prog.cellsOf 30 = 4 := by kernel_rfl
  rcases DataW.trod_slice Tryd.underlying22 hf with ⟨hcs, _⟩ | ⟨x, l, c, elems, rest, m, _, hcs, _, _, hl, hm, hlen, hel, _, _⟩
  · simp [Value.cells] at hcs
    obtain ⟨rfl, rfl, rfl⟩ := hcs
    exact ⟨[], by simp, .inl ⟨rfl, _, _, rfl⟩⟩
  · simp [Value.cells] at hcs
    obtain ⟨rfl, rfl, rfl⟩ := hcs
    obtain ⟨L, hL, hq⟩ := exists_list (fun i (c : Cls) => ∀ j, j < 4 → W.cell? (x.add (i * 4 + j)) = some (.int .u64 (wd c j))) 0#256 len fun i hi => by
      have h1 := hel i hi
      rw [hc30, List.getElem?_eq_getElem (by omega), Option.bind_eq_some_iff] at h1
      obtain ⟨cs, h2, h3⟩ := h1
      obtain ⟨xs, m, _, _, hln, hxl, hel'⟩ := DataW.trod_array Tryd.underlying30 h3
      rw [hc30] at hln
      rw [hc28] at hel'
      obtain ⟨c, hc⟩ := agg_cls hln fun i hi => by
        have h4 := hel' i hi
        rw [Nat.mul_one, List.getElem?_eq_getElem (by omega)] at h4
        obtain ⟨k, e1, _, hw⟩ := DataW.trod_int Tryd.underlying28 h4
        exact ⟨k, e1, hw⟩
      refine ⟨c, fun j hj => ?_⟩
      have h5 := (World.cells?_some h2).2.2 j hj
      rw [Addr.add_add] at h5
      rw [h5, hc]
      match j, hj with
      | 0, _ => rfl
      | 1, _ => rfl
      | 2, _ => rfl
      | 3, _ => rfl
    refine ⟨L, by rw [hL]; exact Nat.le_trans hl hm, ?_⟩
    rw [hL]
    by_cases h0 : len = 0
    · subst h0; exact .inl ⟨rfl, _, _, rfl⟩
    · obtain ⟨b, off, spot⟩ := x
      have hc := hq 0 (by omega) 0 (by omega)
      have hspot : spot = none := by simpa [Addr.add] using World.cell?_spot hc
      subst hspot
      refine .inr ⟨by omega, b, off, cap, rfl, World.block_lt_of_cell? W _ hc, fun i hi => ?_⟩
      have h1 := hq (i / 4) (by omega) (i % 4) (by omega)
      rw [show i / 4 * 4 + i % 4 = i by omega, Addr.add_lit] at h1
      exact h1

end Go.Proofs.YthfmjhicmopclaaDoor
