/-
  Slices of any length that come in.
-/
import Derived.Test.YthfmjhicmopclaaDoorCS
namespace Go.Proofs.YthfmjhicmopclaaDoor
open Go.RowKit Go.Shelf

/-- A slice of bytes, of any length. -/
def ByW (W : World) (v : Value) (l : List UInt8) : Prop :=
  l.length ≤ 9223372036854775807 ∧ ((l.length = 0 ∧ ∃ a cap, v = .slice a 0 cap) ∨
    (0 < l.length ∧ ∃ b off cap, v = .slice (some ⟨b, off, none⟩) l.length cap ∧ b < W.heap.size ∧ ∀ i, i < l.length → W.cell? ⟨b, off + i, none⟩ = some (bv (l.getD i 0))))
/-- A slice of classes, of any length. -/
def CsW (W : World) (v : Value) (l : List Cls) : Prop :=
  l.length ≤ 9223372036854775807 ∧ ((l.length = 0 ∧ ∃ a cap, v = .slice a 0 cap) ∨
    (0 < l.length ∧ ∃ b off cap, v = .slice (some ⟨b, off, none⟩) l.length cap ∧ b < W.heap.size ∧ ∀ i, i < l.length * 4 → W.cell? ⟨b, off + i, none⟩ = some (.int .u64 (wd (l.getD (i / 4) 0#256) (i % 4)))))
theorem ByW.short {W : World} {v : Value} {l : List UInt8} (h : ByW W v l) (hl : l.length ≤ 1000000) : By W v l := by
  obtain ⟨_, h | ⟨h0, b, off, cap, hv, hb, hc⟩⟩ := h
  · exact ⟨by omega, .inl h⟩
  · exact ⟨by omega, .inr ⟨h0, b, off, cap, hv, hb, fun i hi => hc i (by omega)⟩⟩
theorem CsW.short {W : World} {v : Value} {l : List Cls} (h : CsW W v l) (hl : l.length ≤ 1000000) : Cs W v l := by
  obtain ⟨_, h⟩ := h
  exact ⟨by omega, h⟩
theorem ByW.split {W : World} {v : Value} {l : List UInt8} (h : ByW W v l) : ∃ a b off cap, v = .slice a l.length cap ∧ (0 < l.length → a = some ⟨b, off, none⟩) ∧ (0 < l.length → b < W.heap.size) ∧ ∀ i, i < l.length → W.cell? ⟨b, off + i, none⟩ = some (bv (l.getD i 0)) := by
  obtain ⟨h0, ⟨hn, a, cap, rfl⟩ | ⟨hn, b, off, cap, rfl, hb, hc⟩⟩ := h
  · exact ⟨a, 0, 0, cap, by rw [hn], by omega, by omega, by omega⟩
  · exact ⟨_, b, off, cap, rfl, fun _ => rfl, fun _ => hb, hc⟩
theorem CsW.split {W : World} {v : Value} {l : List Cls} (h : CsW W v l) : ∃ a b off cap, v = .slice a l.length cap ∧ (0 < l.length → a = some ⟨b, off, none⟩) ∧ ∀ i, i < l.length * 4 → W.cell? ⟨b, off + i, none⟩ = some (.int .u64 (wd (l.getD (i / 4) 0#256) (i % 4))) := by
  obtain ⟨h0, ⟨hn, a, cap, rfl⟩ | ⟨hn, b, off, cap, rfl, hb, hc⟩⟩ := h
  · exact ⟨a, 0, 0, cap, by rw [hn], by omega, by omega⟩
  · exact ⟨_, b, off, cap, rfl, fun _ => rfl, hc⟩
theorem of_w (l : List UInt8) (v : Value) (w : World) (h : ByW w v l) : Calls Tryd.prog 21 #[v] w fun e w' => e = .returned (.agg (encA (ofL l))) ∧ Ext w w' := by
  obtain ⟨h0, ⟨hn, a, cap, rfl⟩ | ⟨hn, b, off, cap, rfl, hb, hc⟩⟩ := h
  · have := of_walk l (by omega) a 0 0 cap w (by omega) (by omega) (fun i hi => by omega)
    rwa [hn] at this
  · exact of_walk l h0 (some ⟨b, off, none⟩) b off cap w (fun _ => rfl) (fun _ => hb) hc

end Go.Proofs.YthfmjhicmopclaaDoor
