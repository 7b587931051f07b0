/-
  The walks of the reference's Of, Union, Intersect, Not, Minus.
-/
import Derived.Test.YthfmjhicmopclaaDoorW4
import Derived.Test.YthfmjhicmopclaaDoorQuiet
namespace Go.Proofs.YthfmjhicmopclaaDoor
open Go.RowKit Go.Shelf

/-- The four cells of a block in every later world. -/
theorem ew_cells {w : World} {B : Nat} {c : Cls} {t : TypeId} {fr : Nat × Nat} (h : w.heap[B]? = some (.cells (encA c) t fr)) :
    (∀ e : EW w, e.W.cell? ⟨B, 0, none⟩ = some (.int .u64 (wd c 0))) ∧ (∀ e : EW w, e.W.cell? ⟨B, 1, none⟩ = some (.int .u64 (wd c 1))) ∧
    (∀ e : EW w, e.W.cell? ⟨B, 2, none⟩ = some (.int .u64 (wd c 2))) ∧ (∀ e : EW w, e.W.cell? ⟨B, 3, none⟩ = some (.int .u64 (wd c 3))) :=
  ⟨fun e => (cell_of_row e.W _ 0 _ _ _ (e.ext.heap h)).trans rfl, fun e => (cell_of_row e.W _ 1 _ _ _ (e.ext.heap h)).trans rfl,
   fun e => (cell_of_row e.W _ 2 _ _ _ (e.ext.heap h)).trans rfl, fun e => (cell_of_row e.W _ 3 _ _ _ (e.ext.heap h)).trans rfl⟩
theorem ew_cell {w : World} {p : Addr} {v : Value} (h : w.cell? p = some v) : ∀ e : EW w, e.W.cell? p = some v := fun e => e.ext.cell h

theorem rof_walk (l : List UInt8) (hl : l.length ≤ 4611686018427387904) (a : Option Addr) (b off cap : Nat) (w : World) (ha : 0 < l.length → a = some ⟨b, off, none⟩) (_hb : 0 < l.length → b < w.heap.size)
    (hc : ∀ i, i < l.length → w.cell? ⟨b, off + i, none⟩ = some (bv (l.getD i 0))) :
    Calls Tryd.prog 24 #[.slice a l.length cap] w fun e w' => e = .returned (.agg (encA (ofL l))) ∧ Ext w w' := by
  go_enter Tryd.func24, Tryd.ntmps24
  go_wp2_with (fail)
  go_loopw [4] (fun i W => ∃ k : Nat, k ≤ l.length ∧ i = .int .i64 k ∧ Ext w W ∧ W.heap[w.heap.size]? = some (.cells zA 30 (0, 0)) ∧ W.heap[w.heap.size + 1]? = some (.cells (encA (ofL (l.take k))) 30 (0, 0)))
    (fun i _ => l.length - (intOf i).toNat)
  case atStart =>
    refine ⟨0, by omega, rfl, ((Ext.refl w).alloc _).alloc _, heap_alloc_keep (heap_alloc_new w _) _, ?_⟩
    rw [show ofL (l.take 0) = 0#256 from rfl, encA_zero]
    exact heap_alloc2_new w _ _
  case round =>
    obtain ⟨k, hk, rfl, hE, hR, hC⟩ := hrel
    have HC := Lib.hid hC
    have HR := Lib.hid hR
    clear hC hR
    by_cases hlt : k < l.length
    · have cA := ew_cell (hE.cell (hc k hlt))
      obtain ⟨c0, c1, c2, c3⟩ := ew_cells HC.out
      have HS := Lib.hid (ofL_snoc l k (by omega))
      have hx := (l.getD k 0).toNat_lt
      have e := ha (by omega)
      clear ha hc
      subst e
      generalize l.getD k 0 = x at *
      have HA := fun (W : World) => Lib.hid (with_any (ofL (l.take k)) (x.toNat : Int) (by omega) (by omega) W)
      go_upto_block 1 with (fail)
      go_cut [] (fun W => Ext w W ∧ W.heap[w.heap.size]? = some (.cells zA 30 (0, 0)) ∧ W.heap[w.heap.size + 1]? = some (.cells (encA (ofL (l.take (k + 1)))) 30 (0, 0)))
      case first =>
        go_wp2
        refine region_ew_tail 6 (by kernel_rfl) (by kernel_rfl) ?_
        simp only [List.take_succ_cons, List.take_zero, List.drop_succ_cons, List.drop_zero]
        iterate 6 (refine wpQuiet_step (fun K hK => ?_); go_simp; first | (refine hK _ ?_; clear hK K) | (apply Exists.intro; refine ⟨fun _ => ?_, hK _ ?_⟩; (exact calls_ew (HA _).out); clear hK K))
        refine wpQuiet_nil ?_
        rintro _ ⟨e, rfl⟩
        clear c0 c1 c2 c3 cA HA
        go_wp2_with (refine wpList_store_row rfl 30 _ _ rfl _ _ rfl rfl _ _ (e.ext.heap HC.out) info30 rfl (encA_one _) ?_)
        go_meet
        rw [HS.out]
        exact ⟨(hE.trans e.ext).setRow (by omega) _, heap_setRow_keep (e.ext.heap HR.out) (by omega) _, setRow_heap e.W _ _ _ _ _ (e.ext.heap HC.out)⟩
      case rest =>
        obtain ⟨hE', hR', hC'⟩ := hcut
        have HR' := Lib.hid hR'
        have HC' := Lib.hid hC'
        clear hR' hC' c0 c1 c2 c3 cA HA
        go_wp2
        go_roundw
        case rel => exact ⟨k + 1, by omega, by go_num, hE', HR'.out, HC'.out⟩
        case measure => simp [intOf]; omega
    · obtain rfl : k = l.length := by omega
      rw [List.take_of_length_le (by omega)] at HC
      go_wp2_with (first
        | (refine wpList_load_row rfl 30 (.tmp 3) rfl _ rfl _ _ _ _ HC.out Tryd.underlying30 rfl info30 ?_)
        | (refine wpList_store_row rfl 30 _ _ rfl _ _ rfl rfl _ _ HR.out info30 rfl (encA_one _) ?_))
      refine bodyPost_ret (v := .agg (encA (ofL l))) (results_cell_row rfl _ _ _ _ _ _ _ rfl (setRow_heap wr _ _ (encA (ofL l)) 30 (0, 0) HR.out) Tryd.underlying30 rfl info30) rfl ?_
      exact ⟨rfl, hE.setRow (Nat.le_refl _) _⟩

theorem rof_any (l : List UInt8) (v : Value) (w : World) (h : By w v l) : Calls Tryd.prog 24 #[v] w fun e w' => e = .returned (.agg (encA (ofL l))) ∧ Ext w w' := by
  obtain ⟨h0, ⟨hn, a, cap, rfl⟩ | ⟨hn, b, off, cap, rfl, hb, hc⟩⟩ := h
  · have := rof_walk l (by omega) a 0 0 cap w (by omega) (by omega) (fun i hi => by omega)
    rwa [hn] at this
  · exact rof_walk l h0 (some ⟨b, off, none⟩) b off cap w (fun _ => rfl) (fun _ => hb) (fun i hi => hc i (by omega))

end Go.Proofs.YthfmjhicmopclaaDoor
