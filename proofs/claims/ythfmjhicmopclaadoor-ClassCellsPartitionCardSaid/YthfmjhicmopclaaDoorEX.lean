/-
  Regions at a world of the class 'w and new blocks'.
-/
import Derived.Test.YthfmjhicmopclaaDoorQuiet
namespace Go.Proofs.YthfmjhicmopclaaDoor
open Go

theorem region_at {P : Program} {id : Nat} {Q : Exit → Act → World → Prop} {a : Act} {w : World} {e0 : EW w} {l : List Oper} (hm : P.follows .mixedOrders = true) (hB : Region.lexB .any l.toArray = true)
    (h : wpQuiet P l.toArray (fun W => ∃ e : EW w, W = e.W) (fun a' => ∀ w', (∃ e : EW w, w' = e.W) → Q .normal a' w') l a) : (Code.region id l.toArray true).wp P Q a e0.W :=
  wp_region_quiet (C := fun W => ∃ e : EW w, W = e.W) hm hB ⟨⟨_, e0.ext.drawn1⟩, rfl⟩ (by simpa using h)
theorem region_tail_at {P : Program} {id : Nat} {Q : Exit → Act → World → Prop} {a : Act} {w : World} {e0 : EW w} {l : List Oper} (n : Nat) (hm : P.follows .mixedOrders = true) (hB : Region.lexTailB .any l.toArray n = true)
    (h : wpQuiet P l.toArray (fun W => ∃ e : EW w, W = e.W) (fun a' => ∀ w', (∃ e : EW w, w' = e.W) → wpList P l.toArray Q (l.drop n) a' w') (l.take n) a) : (Code.region id l.toArray true).wp P Q a e0.W :=
  wp_region_quietTail (C := fun W => ∃ e : EW w, W = e.W) n hm hB ⟨⟨_, e0.ext.drawn1⟩, rfl⟩ h

end Go.Proofs.YthfmjhicmopclaaDoor
