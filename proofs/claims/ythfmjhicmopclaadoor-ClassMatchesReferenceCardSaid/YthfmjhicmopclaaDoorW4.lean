/-
  The walks of add, Of, Range, OnesCount64, Size.
-/
import Derived.Test.YthfmjhicmopclaaDoorW3
namespace Go.Proofs.YthfmjhicmopclaaDoor
open Go.RowKit Go.Shelf

theorem add_any (c : Cls) (b : Int) (hb0 : 0 ≤ b) (hb : b < 256) (B : Nat) (t : TypeId) (w : World) (hB : w.heap[B]? = some (.cells (encA c) t (0, 0))) :
    Calls Tryd.prog 46 #[.pointer (some ⟨B, 0, none⟩), .int .u8 b] w fun e w' => e = .returned (.tuple #[]) ∧ w' = (w.setRow B (encA (addB c b))).drew := by
  have hc := (cell_of_row w _ (b / 64).toNat _ _ _ hB).trans (encA_at c _ (by omega))
  have hf := frozen_of_row w _ (b / 64).toNat _ _ hB
  have ⟨h1, h2⟩ := wd_bd c (b / 64).toNat
  have HB := Lib.hid hB
  clear hB
  go_enter Tryd.func46, Tryd.ntmps46
  go_wp2
  go_region
  all_goals
    go_end0
    rw [add_val c b hb0 hb, setCell_eq_setRow w _ _ _ _ _ _ HB.out, add_row c b hb0 hb]
    exact ⟨rfl, rfl⟩

def ofL (l : List UInt8) : Cls := l.foldl (fun c x => addB c (x.toNat : Int)) 0#256
theorem ofL_snoc (l : List UInt8) (k : Nat) (h : k < l.length) : ofL (l.take (k + 1)) = addB (ofL (l.take k)) ((l.getD k 0).toNat : Int) := by
  unfold ofL
  rw [List.take_succ_eq_append_getElem h, List.foldl_append]
  simp [List.getD_eq_getElem?_getD, h]

abbrev zA : Array Value := #[.int .u64 0, .int .u64 0, .int .u64 0, .int .u64 0]
theorem encA_zero : encA 0#256 = zA := by simp [encA, wd_zero]

theorem of_walk (l : List UInt8) (hl : l.length ≤ 9223372036854775807) (a : Option Addr) (b off cap : Nat) (w : World) (ha : 0 < l.length → a = some ⟨b, off, none⟩) (_hb : 0 < l.length → b < w.heap.size)
    (hc : ∀ i, i < l.length → w.cell? ⟨b, off + i, none⟩ = some (bv (l.getD i 0))) :
    Calls Tryd.prog 21 #[.slice a l.length cap] w fun e w' => e = .returned (.agg (encA (ofL l))) ∧ Ext w w' := by
  go_enter Tryd.func21, Tryd.ntmps21
  go_wp2_with (fail)
  go_loopw [8] (fun i W => ∃ k : Nat, k ≤ l.length ∧ i = .int .i64 k ∧ Ext w W ∧ W.heap[w.heap.size]? = some (.cells zA 30 (0, 0)) ∧ W.heap[w.heap.size + 1]? = some (.cells (encA (ofL (l.take k))) 30 (0, 0)))
    (fun i _ => l.length - (intOf i).toNat)
  case atStart =>
    refine ⟨0, by omega, rfl, ((Ext.refl w).alloc _).alloc _, heap_alloc_keep (heap_alloc_new w _) _, ?_⟩
    rw [show ofL (l.take 0) = 0#256 from rfl, encA_zero]
    exact heap_alloc2_new w _ _
  case round =>
    obtain ⟨k, hk, rfl, hE, hR, hC⟩ := hrel
    have HC := Lib.hid hC
    have HR := Lib.hid hR
    clear hC hR
    by_cases hlt : k < l.length
    · have cA := hE.cell (hc k hlt)
      have HS := Lib.hid (ofL_snoc l k (by omega))
      have hx := (l.getD k 0).toNat_lt
      have e := ha (by omega)
      clear ha hc
      subst e
      generalize l.getD k 0 = x at *
      have HA := Lib.hid (add_any (ofL (l.take k)) (x.toNat : Int) (by omega) (by omega) (w.heap.size + 1) 30 wr HC.out)
      go_wp2_with (go_at_call 46; refine HA.out.mono ?_; rintro e w' ⟨rfl, rfl⟩; clear HA)
      go_roundw
      case rel =>
        refine ⟨k + 1, by omega, by go_num, (hE.setRow (by omega) _).drew, heap_setRow_keep HR.out (by omega) _, ?_⟩
        rw [HS.out]
        exact setRow_heap wr _ _ _ _ _ HC.out
      case measure => simp [intOf]; omega
    · obtain rfl : k = l.length := by omega
      rw [List.take_of_length_le (by omega)] at HC
      go_wp2_with (first
        | (refine wpList_load_row rfl 30 _ rfl _ rfl _ _ _ _ HC.out Tryd.underlying30 rfl info30 ?_)
        | (refine wpList_store_row rfl 30 _ _ rfl _ _ rfl rfl _ _ HR.out info30 rfl (encA_one _) ?_))
      refine bodyPost_ret (v := .agg (encA (ofL l))) (results_cell_row rfl _ _ _ _ _ _ _ rfl (setRow_heap wr _ _ (encA (ofL l)) 30 (0, 0) HR.out) Tryd.underlying30 rfl info30) rfl ?_
      exact ⟨rfl, hE.setRow (Nat.le_refl _) _⟩

theorem of_any (l : List UInt8) (v : Value) (w : World) (h : By w v l) : Calls Tryd.prog 21 #[v] w fun e w' => e = .returned (.agg (encA (ofL l))) ∧ Ext w w' := by
  obtain ⟨h0, ⟨hn, a, cap, rfl⟩ | ⟨hn, b, off, cap, rfl, hb, hc⟩⟩ := h
  · have := of_walk l (by omega) a 0 0 cap w (by omega) (by omega) (fun i hi => by omega)
    rwa [hn] at this
  · exact of_walk l (by omega) (some ⟨b, off, none⟩) b off cap w (fun _ => rfl) (fun _ => hb) (fun i hi => hc i (by omega))

end Go.Proofs.YthfmjhicmopclaaDoor
