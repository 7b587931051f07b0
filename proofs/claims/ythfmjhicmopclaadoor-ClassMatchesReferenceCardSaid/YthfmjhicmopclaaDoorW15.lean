/-
  The walk of the order that Cells sorts by; its world to the block.
-/
import Derived.Test.YthfmjhicmopclaaDoorW12
import Derived.Sort.Grow
import Derived.Deep.Draws
namespace Go.Proofs.YthfmjhicmopclaaDoor
open Go.RowKit Go.Shelf Go.Sort

/-- The worlds that are w with new blocks and no fewer draws. -/
structure ED (w : World) where
  W : World
  ext : Ext w W
  drawn : w.drawn ≤ W.drawn
instance (w : World) : Nonempty (ED w) := ⟨⟨w, Ext.refl w, Nat.le_refl _⟩⟩

section
variable {P : Program}
theorem region_ed {id : Nat} {Q : Exit → Act → World → Prop} {a : Act} {w : World} {l : List Oper} (hm : P.follows .mixedOrders = true) (hB : Region.lexB .any l.toArray = true)
    (h : wpQuiet P l.toArray (fun W => ∃ e : ED w, W = e.W) (fun a' => ∀ w', (∃ e : ED w, w' = e.W) → Q .normal a' w') l a) : (Code.region id l.toArray true).wp P Q a w :=
  wp_region_quiet (C := fun W => ∃ e : ED w, W = e.W) hm hB ⟨⟨_, (Ext.refl w).drawn1, Nat.le_succ _⟩, rfl⟩ (by simpa using h)
theorem calls_ed {f : FuncId} {args : Array Value} {w : World} {e0 : ED w} {v : Value} (h : Calls P f args e0.W fun e w' => e = .returned v ∧ Ext e0.W w' ∧ e0.W.drawn ≤ w'.drawn) :
    Calls P f args e0.W fun e w'' => e = .returned v ∧ ∃ e1 : ED w, w'' = e1.W :=
  h.mono fun _ w' ⟨he, hw, hd⟩ => ⟨he, ⟨w', e0.ext.trans hw, Nat.le_trans e0.drawn hd⟩, rfl⟩
theorem ed_cell {w : World} {p : Addr} {v : Value} (h : w.cell? p = some v) : ∀ e : ED w, e.W.cell? p = some v := fun e => e.ext.cell h
end

/-- A world that grew by blocks and draws, to the block. -/
theorem ext_grow {w W : World} (h : Ext w W) (hd : w.drawn ≤ W.drawn) : ∃ q os, W = grow (w.drewN q) os := by
  refine ⟨W.drawn - w.drawn, W.heap.extract w.heap.size, ?_⟩
  have h1 := h.below.os
  have h2 := h.below.tape
  have h3 := h.below.output
  have h4 := h.below.size
  have h5 := h.below.block
  obtain ⟨hp, o, t, d, out⟩ := W
  obtain ⟨hp', o', t', d', out'⟩ := w
  simp only at *
  subst h1 h2 h3
  simp only [grow, World.drewN]
  congr 1
  · refine Array.ext_getElem? fun i => ?_
    rw [Array.getElem?_append]
    split
    · rename_i hi; exact h5 i hi
    · rename_i hi
      rw [Array.getElem?_extract]
      split
      · congr 1; omega
      · rw [Array.getElem?_eq_none (by omega)]
  · omega

theorem headI_lo (l : List UInt8) : -1 ≤ headI l ∧ headI l < 256 := by
  cases l with
  | nil => simp [headI]
  | cons x t => have := x.toNat_lt; simp [headI]; omega

theorem ed_cells {w : World} {B : Nat} {c : Cls} (h : w.heap[B]? = some (.cells (encA c) 30 (0, 0))) :
    (∀ e : ED w, e.W.cell? ⟨B, 0, none⟩ = some (.int .u64 (wd c 0))) ∧ (∀ e : ED w, e.W.cell? ⟨B, 1, none⟩ = some (.int .u64 (wd c 1))) ∧
    (∀ e : ED w, e.W.cell? ⟨B, 2, none⟩ = some (.int .u64 (wd c 2))) ∧ (∀ e : ED w, e.W.cell? ⟨B, 3, none⟩ = some (.int .u64 (wd c 3))) := by
  have H : ∀ j v, (encA c)[j]? = some v → w.cell? ⟨B, j, none⟩ = some v := fun j v hv => by rw [cell_of_row w B j _ _ (0, 0) h]; exact hv
  exact ⟨ed_cell (H 0 _ rfl), ed_cell (H 1 _ rfl), ed_cell (H 2 _ rfl), ed_cell (H 3 _ rfl)⟩

theorem heap_alloc_at (w : World) (o : Obj) : (w.alloc o).heap[w.heap.size]? = some o := by show (w.heap.push o)[w.heap.size]? = some o; simp

theorem cmp_any (a b : Cls) (w : World) (hT : Tab w) (hsz : 0 < w.heap.size) :
    Calls Tryd.prog 38 #[.agg (encA a), .agg (encA b)] w fun e w' => e = .returned (.int .i64 (headI (bytesTo a 256) - headI (bytesTo b 256))) ∧ Ext w w' ∧ w.drawn ≤ w'.drawn := by
  have h1 := fun W hT hsz => Lib.hid (least_any a W hT hsz)
  have h2 := fun W hT hsz => Lib.hid (least_any b W hT hsz)
  have Hx := Lib.hid (headI_lo (bytesTo a 256))
  have Hy := Lib.hid (headI_lo (bytesTo b 256))
  generalize headI (bytesTo a 256) = x at *
  generalize headI (bytesTo b 256) = y at *
  go_enter Tryd.func38, Tryd.ntmps38
  go_upto_region 1 with (fail)
  have hwr : IntKind.i64.wrap (x - y) = x - y := IntWalk.i64_in _ ⟨by have := Hx.out; have := Hy.out; omega, by have := Hx.out; have := Hy.out; omega⟩
  obtain ⟨W0, hW0⟩ : ∃ W, ((w.alloc (.cells (encA a) 30)).alloc (.cells (encA b) 30)) = W := ⟨_, rfl⟩
  have hE : Ext w W0 := hW0 ▸ ((Ext.refl w).alloc (.cells (encA a) 30)).alloc (.cells (encA b) 30)
  have r1 : W0.heap[w.heap.size]? = some (.cells (encA a) 30 (0, 0)) := by rw [← hW0]; exact heap_alloc_keep (heap_alloc_at w _) _
  have r2 : W0.heap[w.heap.size + 1]? = some (.cells (encA b) 30 (0, 0)) := by
    rw [← hW0]
    have := heap_alloc_at (w.alloc (.cells (encA a) 30)) (.cells (encA b) 30)
    simpa using this
  have hd : w.drawn ≤ W0.drawn := by rw [← hW0]; exact Nat.le_refl _
  simp only [hW0]
  have hT' := fun (e : ED W0) => hT.below (hE.trans e.ext).below hsz
  have hs' := fun (e : ED W0) => Nat.lt_of_lt_of_le hsz (hE.trans e.ext).size
  have h1' := fun (e : ED W0) => h1 e.W (hT' e) (hs' e)
  have h2' := fun (e : ED W0) => h2 e.W (hT' e) (hs' e)
  obtain ⟨a0, a1, a2, a3⟩ := ed_cells r1
  obtain ⟨b0, b1, b2, b3⟩ := ed_cells r2
  clear h1 h2 hT' hs' r1 r2 hW0
  refine region_ed (by kernel_rfl) (by kernel_rfl) ?_
  iterate 6 (refine wpQuiet_step (fun K hK => ?_); go_simp; first | (refine hK _ ?_; clear hK K) | (apply Exists.intro; refine ⟨fun _ => ?_, hK _ ?_⟩; (first | (with_reducible exact calls_ed (h1' _).out) | (with_reducible exact calls_ed (h2' _).out)); clear hK K))
  refine wpQuiet_nil ?_
  rintro _ ⟨e, rfl⟩
  go_wp2
  go_ret
  exact ⟨rfl, hE.trans e.ext, Nat.le_trans hd e.drawn⟩

/-- The order of Cells. -/
def cmpC (a b : Cls) : Int := headI (bytesTo a 256) - headI (bytesTo b 256)

end Go.Proofs.YthfmjhicmopclaaDoor
