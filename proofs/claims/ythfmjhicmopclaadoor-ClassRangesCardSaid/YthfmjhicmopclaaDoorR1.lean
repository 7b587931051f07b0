/-
  Bytes, slices of bytes and of classes that come in.
-/
import Derived.Test.YthfmjhicmopclaaDoorR0
namespace Go.Proofs.YthfmjhicmopclaaDoor
open Go.ChangeShapes Go.WideShapes Go.ChangeAt Go.WideMaps Go.WideElems Go.RowKit

theorem byte_of {k : Int} (h : (Lit.int .u8 k).wf = true) : ∃ n : Nat, k = n ∧ n < 256 := by
  simp [Lit.wf, IntKind.min, IntKind.max, IntKind.bits, IntKind.signed] at h
  exact ⟨k.toNat, by omega, by omega⟩
theorem open_u8 {H : Type} {enc : TypeId × Value → H} {W : World} {b0 : Nat} {v : Value} {d : DataW H} {p : List MemPlace} (hv : Value.okWide Tryd.prog W .any b0 5 v) (h : DataW.Trod enc Tryd.prog W 0 (fun _ => true) true 5 v d p) :
    ∃ n : Nat, n < 256 ∧ v = .int .u8 (n : Int) := by
  obtain ⟨a, rfl, _, _, wa⟩ := open_int Tryd.underlying5 hv h
  obtain ⟨n, rfl, hn⟩ := byte_of wa
  exact ⟨n, hn, rfl⟩

end Go.Proofs.YthfmjhicmopclaaDoor
