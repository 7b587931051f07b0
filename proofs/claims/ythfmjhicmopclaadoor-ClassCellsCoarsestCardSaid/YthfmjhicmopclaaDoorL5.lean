/-
  The walk of ClassCellsCoarsest.
-/
import Derived.Test.YthfmjhicmopclaaDoorL3
namespace Go.Proofs.YthfmjhicmopclaaDoor
open Go.RowKit Go.Shelf

theorem idxC_cells (l : List Cls) (x : Nat) (hx : x < 256) : ∃ k : Nat, k < (cellsS l).length ∧ idxC (cellsS l) (x : Int) = k ∧ ((cellsS l).getD k 0#256).getLsbD x = true ∧ ∀ j, j < k → ((cellsS l).getD j 0#256).getLsbD x = false := by
  obtain ⟨c, hc, hcx⟩ := (isCells_S l).cover x hx
  cases hf : (cellsS l).findIdx? (fun c => memB c (x : Int)) with
  | none =>
    rw [List.findIdx?_eq_none_iff] at hf
    have := hf c hc
    simp [memB, hcx] at this
  | some k =>
    have he : idxC (cellsS l) (x : Int) = k := by unfold idxC; rw [hf]
    rw [List.findIdx?_eq_some_iff_getElem] at hf
    obtain ⟨hk, h1, h2⟩ := hf
    refine ⟨k, hk, he, ?_, fun j hj => ?_⟩
    · rw [List.getD_eq_getElem?_getD, List.getElem?_eq_getElem hk]; simpa [memB] using h1
    · have := h2 j hj
      rw [List.getD_eq_getElem?_getD, List.getElem?_eq_getElem (by omega)]; simpa [memB] using this
theorem idxC_same (l : List Cls) (x y : Nat) (hx : x < 256) (hy : y < 256) : (idxC (cellsS l) (x : Int) == idxC (cellsS l) (y : Int)) = (l.all fun c => memB c (x : Int) == memB c (y : Int)) := by
  obtain ⟨k, hk, ek, bk, lk⟩ := idxC_cells l x hx
  obtain ⟨m, hm, em, bm, lm⟩ := idxC_cells l y hy
  have hmem : ∀ q, q < (cellsS l).length → (cellsS l).getD q 0#256 ∈ cellsS l := fun q hq => by
    rw [List.getD_eq_getElem?_getD, List.getElem?_eq_getElem hq]; exact List.getElem_mem hq
  have hc := (isCells_S l).cls
  rw [Bool.eq_iff_iff, alk_all, beq_iff_eq, ek, em]
  constructor
  · intro h
    have h : k = m := by omega
    subst h
    exact (hc _ (hmem k hk) x hx bk y hy).1 bm
  · intro h
    have h1 := (hc _ (hmem k hk) x hx bk y hy).2 h
    have h2 := (hc _ (hmem m hm) y hy bm x hx).2 h.symm
    have : ¬ k < m := fun hlt => by rw [lm k hlt] at h1; cases h1
    have : ¬ m < k := fun hlt => by rw [lk m hlt] at h2; cases h2
    omega

theorem all_take_succ (l : List Cls) (f : Cls → Bool) (k : Nat) (h : k < l.length) : (l.take (k + 1)).all f = ((l.take k).all f && f (l.getD k 0#256)) := by
  rw [List.take_succ_eq_append_getElem h, List.all_append]
  simp [List.getD_eq_getElem?_getD, h]

set_option maxHeartbeats 2000000 in
set_option maxRecDepth 100000 in
theorem coarsest_any (l : List Cls) (v : Value) (x : Nat) (hx : x < 256) (y : Nat) (hy : y < 256) (w : World) (hT : Tab w) (hsz : 0 < w.heap.size) (s : CsW w v l) :
    Calls Tryd.prog 5 #[v, .int .u8 (x : Int), .int .u8 (y : Int)] w fun e w' => e = .returned (.bool true) ∧ Ext w w' := by
  obtain ⟨a, b, off, cap, rfl, ha, hc⟩ := s.split
  have hS := Lib.hid (sanity_any w hT hsz)
  by_cases hl : l.length ≤ 12
  · have HC := Lib.hid (s.short (by omega))
    have HA := Lib.hid ha
    have HCC := Lib.hid hc
    have d : decide ((12 : Int) < (l.length : Int)) = false := by simp; omega
    have HI := Lib.hid (idxC_same l x y hx hy)
    obtain ⟨n1, hn1, en1, _, _⟩ := idxC_cells l x hx
    obtain ⟨n2, hn2, en2, _, _⟩ := idxC_cells l y hy
    rw [en1, en2] at HI
    have f17a := fun (u : Value) (W : World) h => Lib.hid (index_any (cellsS l) u (x : Int) (by omega) (by omega) W h)
    have f17b := fun (u : Value) (W : World) h => Lib.hid (index_any (cellsS l) u (y : Int) (by omega) (by omega) W h)
    simp only [en1] at f17a
    simp only [en2] at f17b
    clear s ha hc hn1 hn2 en1 en2
    go_enter Tryd.func5, Tryd.ntmps5
    go_wp2_with (go_at_call 13; with_reducible refine hS.out.mono ?_; rintro e w1 ⟨rfl, hE1⟩)
    go_loopw [8, 9] (fun m i W => ∃ k : Nat, k ≤ l.length ∧ i = .int .i64 k ∧ m = .bool ((l.take k).all fun c => memB c (x : Int) == memB c (y : Int)) ∧ Ext w W)
      (fun _ i _ => l.length - (intOf i).toNat)
    case atStart => exact ⟨0, by omega, rfl, rfl, hE1⟩
    case round =>
      obtain ⟨k, hk, rfl, rfl, hE⟩ := hrel
      by_cases hlt : k < l.length
      · have e := HA.out (by omega)
        subst e
        obtain ⟨a0, a1, a2, a3⟩ := cs_cells (W := wr) (fun i hi => hE.cell (HCC.out i hi)) k hlt
        have HS := Lib.hid (all_take_succ l (fun c => memB c (x : Int) == memB c (y : Int)) k hlt)
        obtain ⟨c, hcd⟩ : ∃ c, l.getD k 0#256 = c := ⟨_, rfl⟩
        rw [hcd] at a0 a1 a2 a3 HS
        clear hcd
        have h1 := fun (W : World) => Lib.hid (has_any c (x : Int) (by omega) (by omega) W)
        have h2 := fun (W : World) => Lib.hid (has_any c (y : Int) (by omega) (by omega) W)
        generalize ((l.take k).all fun c => memB c (x : Int) == memB c (y : Int)) = p at *
        generalize memB c (x : Int) = m1 at *
        generalize memB c (y : Int) = m2 at *
        go_upto_region 8 with (fail)
        cases p
        all_goals
          refine region_ew (by kernel_rfl) (by kernel_rfl) ?_
          iterate 17 (with_reducible refine wpQuiet_step (fun K hK => ?_); go_simp; first | (refine hK _ ?_; clear hK K) | (apply Exists.intro; refine ⟨fun _ => ?_, hK _ ?_⟩; (first | (with_reducible exact calls_ew (h1 _).out) | (with_reducible exact calls_ew (h2 _).out)); clear hK K))
          refine wpQuiet_nil ?_
          rintro _ ⟨e, rfl⟩
          clear a0 a1 a2 a3 h1 h2
          have hE' := hE.trans e.ext
          generalize e.W = w2 at *
          go_wp2
          go_roundw
          case rel => exact ⟨k + 1, by omega, by go_num, by rw [HS.out]; rfl, hE'⟩
          case measure => simp [intOf]; omega
      · obtain rfl : k = l.length := by omega
        have hT' := hT.below hE.below hsz
        have hs' : 0 < wr.heap.size := Nat.lt_of_lt_of_le hsz hE.size
        have f15 := Lib.hid (cellsS_any l _ wr hT' hs' (HC.out.ext hE))
        rw [List.take_length] at *
        rw [← HI.out] at *
        clear HI HA HCC
        generalize cellsS l = L at *
        have hn1 : decide ((0 : Int) ≤ (n1 : Int)) = true := by simp
        have hn2 : decide ((0 : Int) ≤ (n2 : Int)) = true := by simp
        go_wp2_with (first
          | (go_at_call 15; with_reducible refine f15.out.mono ?_; rintro e w' ⟨v1, rfl, hc1, hE1⟩)
          | (go_at_call 17; with_reducible refine (f17a _ _ hc1).out.mono ?_; rintro e w' ⟨rfl, hE2⟩)
          | (go_at_call 17; with_reducible refine (f17b _ _ (hc1.ext hE2)).out.mono ?_; rintro e w' ⟨rfl, hE3⟩))
        go_ret
        exact ⟨by simp, ((hE.trans hE1).trans hE2).trans hE3⟩
  · have d : decide ((12 : Int) < (l.length : Int)) = true := by simp; omega
    clear s ha hc
    go_enter Tryd.func5, Tryd.ntmps5
    go_wp2_with (go_at_call 13; with_reducible refine hS.out.mono ?_; rintro e w1 ⟨rfl, hE1⟩)
    go_ret
    exact ⟨rfl, hE1⟩

end Go.Proofs.YthfmjhicmopclaaDoor
