/-
  What sanity calls, at its constants; string(bytes).
-/
import Derived.Test.YthfmjhicmopclaaDoorCS
import Derived.Test.YthfmjhicmopclaaDoorW14
import Derived.Test.YthfmjhicmopclaaDoorW17
import Derived.Laws.IdiomStrings
namespace Go.Proofs.YthfmjhicmopclaaDoor
open Go.RowKit Go.Shelf

theorem str_any (v : Value) (l : List UInt8) (W : World) (h : By W v l) : (convert 31 9 v).run Tryd.prog W = .ok (.string ⟨l.toArray⟩) W := by
  obtain ⟨h0, ⟨hn, a, cap, rfl⟩ | ⟨hn, b, off, cap, rfl, hb, hc⟩⟩ := h
  · obtain rfl : l = [] := List.eq_nil_of_length_eq_zero hn
    cases a with
    | some a => exact run_convert_bytes_back W 31 9 5 a cap [] Tryd.underlying31 Tryd.underlying5 Tryd.underlying9 (fun j hj => by simp at hj)
    | none =>
      rw [run_convert_bytes_string W 31 9 5 none 0 cap Tryd.underlying31 Tryd.underlying5 Tryd.underlying9]
      kernel_rfl
  · refine run_convert_bytes_back W 31 9 5 ⟨b, off, none⟩ cap l Tryd.underlying31 Tryd.underlying5 Tryd.underlying9 (fun j hj => ?_)
    rw [Addr.add_lit, hc j (by omega)]
    simp [List.getD_eq_getElem?_getD, hj]

/-- The cells by their list. -/
theorem cellsS_any (l : List Cls) (v : Value) (w : World) (hT : Tab w) (hsz : 0 < w.heap.size) (h : Cs w v l) :
    Calls Tryd.prog 15 #[v] w fun e w' => ∃ v', e = .returned v' ∧ Cs w' v' (cellsS l) ∧ Ext w w' :=
  (cells_any l v w hT hsz h).mono fun e w' ⟨v', L, he, hc, hp, hs, hE⟩ => ⟨v', he, by rw [← cellsS_unique hp hs]; exact hc, hE⟩

def q0 : Cls := ~~~(rngC 97 100)
def q1 : Cls := rngC 97 97
def q2 : Cls := rngC 98 99
def q3 : Cls := rngC 100 100
set_option maxRecDepth 100000 in
theorem cells_ab : cellsS [rngC 97 99, rngC 98 100] = [q0, q1, q2, q3] :=
  (cellsS_unique (by decide +kernel) (by decide +kernel)).symm
set_option maxRecDepth 100000 in
theorem cells_nil : cellsS [] = [allC] := (cellsS_unique (by decide +kernel) (by decide +kernel)).symm

def k4 : Cls := ofL [97, 98, 99, 97]
def k3 : Cls := ofL [99, 97, 98]

end Go.Proofs.YthfmjhicmopclaaDoor
