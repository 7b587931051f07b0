/-
  What the rows' proofs have in common: the laid table, classes and slices that come in.
-/
import Derived.Test.YthfmjhicmopclaaDoorRows
import Derived.Test.YthfmjhicmopclaaDoorW11
import Derived.Test.YthfmjhicmopclaaDoorW8
import Derived.ProofKit
import Derived.LaidMore
import Derived.OpenShut
import Derived.Stop.Joined
import Derived.Lib.LaidTab
namespace Go.Proofs.YthfmjhicmopclaaDoor
open Go.ChangeShapes Go.WideShapes Go.ChangeAt Go.WideMaps Go.WideElems Go.RowKit

/-- The one listed variable. -/
def laid1 : List (String × DataW Unit) := [("math/bits.deBruijn64tab", Rows.laid_math_bits_deBruijn64tab)]
theorem ownT : ownKnob Tryd.prog.godebug = none := by kernel_rfl
theorem gTab : Tryd.prog.globalNamed "math/bits.deBruijn64tab" = some 0 := by kernel_rfl
theorem tTab : (Tryd.prog.globals[0]?).map (·.type) = some 75 := by kernel_rfl
theorem laidOutT : laidOutB Tryd.prog = true := by kernel_rfl
theorem dTab {H : Type} : (Rows.laid_math_bits_deBruijn64tab : DataW H) = Lib.tabData .u8 (Lib.deBruijn64tab.map Int.ofNat) := rfl

theorem door_met (os : Os) (args : Array Value) : laidMetH Tryd.prog laid1 ((World.doorLaid Tryd.prog 400 os).forCall (fun _ _ => 0) ⟨#[], args, []⟩).memory :=
  laidMetH_of_parts3 (fuel := 8) (laidMet_of_run' 8 (by kernel_rfl) (by kernel_rfl)) (by kernel_rfl) (by kernel_rfl)

theorem tab_of_laid {W : World} (h : laidMetH Tryd.prog laid1 W) : Tab W ∧ 0 < W.heap.size := by
  rw [MakeChecks.laidMetH_plain _ _ _ (by kernel_rfl)] at h
  have h1 : Lib.TabIs Tryd.prog W "math/bits.deBruijn64tab" .u8 (Lib.deBruijn64tab.map Int.ofNat) :=
    Lib.tabIs_of_head gTab tTab Tryd.underlying75 Tryd.underlying5 (by kernel_rfl) (by kernel_rfl) h
  have hT : Tab W := fun j hj => by
    rw [h1.cell gTab j (by simpa [Lib.deBruijn64tab] using hj)]
    have hj' : j < Lib.deBruijn64tab.length := by simpa [Lib.deBruijn64tab] using hj
    simp [List.getD_eq_getElem?_getD, hj']
  exact ⟨hT, World.block_lt_of_cell? W _ (hT 0 (by decide))⟩

theorem cls_of (n0 n1 n2 n3 : Nat) (h0 : n0 < 18446744073709551616) (h1 : n1 < 18446744073709551616) (h2 : n2 < 18446744073709551616) (h3 : n3 < 18446744073709551616) :
    ∃ c : Cls, wn c 0 = n0 ∧ wn c 1 = n1 ∧ wn c 2 = n2 ∧ wn c 3 = n3 := by
  refine ⟨BitVec.ofNat 256 (n0 + 18446744073709551616 * n1 + 340282366920938463463374607431768211456 * n2 + 6277101735386680763835789423207666416102355444464034512896 * n3), ?_⟩
  have e : (BitVec.ofNat 256 (n0 + 18446744073709551616 * n1 + 340282366920938463463374607431768211456 * n2 + 6277101735386680763835789423207666416102355444464034512896 * n3)).toNat = n0 + 18446744073709551616 * n1 + 340282366920938463463374607431768211456 * n2 + 6277101735386680763835789423207666416102355444464034512896 * n3 := by
    rw [BitVec.toNat_ofNat]
    apply Nat.mod_eq_of_lt
    omega
  unfold wn
  rw [e]
  refine ⟨?_, ?_, ?_, ?_⟩ <;> simp only [Nat.mul_zero, Nat.mul_one, Nat.reduceMul, Nat.reducePow] <;> omega

theorem word_of {k : Int} (h : (Lit.int .u64 k).wf = true) : ∃ n : Nat, k = n ∧ n < 18446744073709551616 := by
  simp [Lit.wf, IntKind.min, IntKind.max, IntKind.bits, IntKind.signed] at h
  exact ⟨k.toNat, by omega, by omega⟩

theorem agg_cls {cs : List Value} (hl : cs.length = 4) (h : ∀ i, i < 4 → ∃ k, (cs.drop i).take 1 = [Value.int .u64 k] ∧ (Lit.int .u64 k).wf = true) : ∃ c : Cls, cs = [.int .u64 (wd c 0), .int .u64 (wd c 1), .int .u64 (wd c 2), .int .u64 (wd c 3)] := by
  match cs, hl with
  | [a, b, c, d], _ =>
    obtain ⟨k0, e0, w0⟩ := h 0 (by omega)
    obtain ⟨k1, e1, w1⟩ := h 1 (by omega)
    obtain ⟨k2, e2, w2⟩ := h 2 (by omega)
    obtain ⟨k3, e3, w3⟩ := h 3 (by omega)
    simp at e0 e1 e2 e3
    obtain ⟨n0, rfl, b0⟩ := word_of w0
    obtain ⟨n1, rfl, b1⟩ := word_of w1
    obtain ⟨n2, rfl, b2⟩ := word_of w2
    obtain ⟨n3, rfl, b3⟩ := word_of w3
    obtain ⟨C, f0, f1, f2, f3⟩ := cls_of n0 n1 n2 n3 b0 b1 b2 b3
    exact ⟨C, by rw [e0, e1, e2, e3]; unfold wd; rw [f0, f1, f2, f3]⟩

/-- A class that comes in by value. -/
theorem open_cls {H : Type} {enc : TypeId × Value → H} {W : World} {b0 : Nat} {spare : Nat → Bool} {held : Bool} {v : Value} {d : DataW H} {p : List MemPlace} (hv : Value.okWide Tryd.prog W .any b0 30 v) (h : DataW.Trod enc Tryd.prog W 0 spare held 30 v d p) :
    ∃ c : Cls, v = .agg (encA c) := by
  unfold Value.okWide at hv
  rw [Tryd.underlying30] at hv
  obtain ⟨cs, rfl, hsz, _⟩ := hv
  obtain ⟨fuel, hf⟩ := h
  obtain ⟨xs, m, _, _, hlen, hxl, hel⟩ := DataW.trod_array Tryd.underlying30 hf
  have hc28 : Tryd.prog.cellsOf 28 = 1 := by kernel_rfl
  have hc30 : Tryd.prog.cellsOf 30 = 4 := by kernel_rfl
  rw [hc30] at hlen
  rw [hc28] at hel
  obtain ⟨c, hc⟩ := agg_cls hlen fun i hi => by
    have h1 := hel i hi
    rw [Nat.mul_one, List.getElem?_eq_getElem (by omega)] at h1
    obtain ⟨k, e1, _, hw⟩ := DataW.trod_int Tryd.underlying28 h1
    exact ⟨k, e1, hw⟩
  refine ⟨c, ?_⟩
  have : cs = encA c := Array.ext' hc
  rw [this]

end Go.Proofs.YthfmjhicmopclaaDoor
