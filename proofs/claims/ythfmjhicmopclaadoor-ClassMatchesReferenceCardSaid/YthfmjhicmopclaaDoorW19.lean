/-
  The walk of sanity.
-/
import Derived.Test.YthfmjhicmopclaaDoorW18
import Derived.Lib.SlBytesConst
namespace Go.Proofs.YthfmjhicmopclaaDoor
open Go.RowKit Go.Shelf

theorem r_ac (W : World) : Calls Tryd.prog 36 #[.int .u8 97, .int .u8 99] W fun e w' => e = .returned (.agg (encA (rngC 97 99))) ∧ Ext W w' := range_any 97 99 (by decide) (by decide) W
theorem r_bd (W : World) : Calls Tryd.prog 36 #[.int .u8 98, .int .u8 100] W fun e w' => e = .returned (.agg (encA (rngC 98 100))) ∧ Ext W w' := range_any 98 100 (by decide) (by decide) W
theorem r_ca (W : World) : Calls Tryd.prog 36 #[.int .u8 99, .int .u8 97] W fun e w' => e = .returned (.agg (encA 0#256)) ∧ Ext W w' := by
  have h : rngC 99 97 = 0#256 := by decide +kernel
  have := range_any 99 97 (by decide) (by decide) W
  rw [h] at this
  exact this
theorem r_all (W : World) : Calls Tryd.prog 36 #[.int .u8 0, .int .u8 255] W fun e w' => e = .returned (.agg (encA allC)) ∧ Ext W w' := by
  have h : rngC 0 255 = allC := by decide +kernel
  have := range_any 0 255 (by decide) (by decide) W
  rw [h] at this
  exact this
theorem cs_two (W : World) (a b : Cls) : Cs (W.alloc (.cells #[.int .u64 (wd a 0), .int .u64 (wd a 1), .int .u64 (wd a 2), .int .u64 (wd a 3), .int .u64 (wd b 0), .int .u64 (wd b 1), .int .u64 (wd b 2), .int .u64 (wd b 3)] 30)) (.slice (some ⟨W.heap.size, 0, none⟩) 2 2) [a, b] := by
  have := World.ownsRow_lit (base := W.heap.size) (e := 30) (size := 4) W #[.int .u64 (wd a 0), .int .u64 (wd a 1), .int .u64 (wd a 2), .int .u64 (wd a 3), .int .u64 (wd b 0), .int .u64 (wd b 1), .int .u64 (wd b 2), .int .u64 (wd b 3)] 2 (Nat.le_refl _) (by unfold maxLen; omega) rfl
  exact Row.toCs (L := [a, b]) this (by simp)
theorem c_ab (W W0 : World) (hT : Tab W0) (hsz : 0 < W0.heap.size) (hE : Ext W0 W) :
    Calls Tryd.prog 15 #[.slice (some ⟨W.heap.size, 0, none⟩) 2 2] (W.alloc (.cells #[.int .u64 (wd (rngC 97 99) 0), .int .u64 (wd (rngC 97 99) 1), .int .u64 (wd (rngC 97 99) 2), .int .u64 (wd (rngC 97 99) 3), .int .u64 (wd (rngC 98 100) 0), .int .u64 (wd (rngC 98 100) 1), .int .u64 (wd (rngC 98 100) 2), .int .u64 (wd (rngC 98 100) 3)] 30)) fun e w' =>
      ∃ b off cap, e = .returned (.slice (some ⟨b, off, none⟩) 4 cap) ∧ Ext W0 w' ∧ b < w'.heap.size ∧ ∀ i, i < [q0, q1, q2, q3].length * 4 → w'.cell? ⟨b, off + i, none⟩ = some (.int .u64 (wd ([q0, q1, q2, q3].getD (i / 4) 0#256) (i % 4))) := by
  have hE1 := hE.alloc (.cells #[.int .u64 (wd (rngC 97 99) 0), .int .u64 (wd (rngC 97 99) 1), .int .u64 (wd (rngC 97 99) 2), .int .u64 (wd (rngC 97 99) 3), .int .u64 (wd (rngC 98 100) 0), .int .u64 (wd (rngC 98 100) 1), .int .u64 (wd (rngC 98 100) 2), .int .u64 (wd (rngC 98 100) 3)] 30)
  refine (cellsS_any _ _ _ (hT.below hE1.below hsz) (by have := hE1.size; omega) (cs_two W _ _)).mono fun e w' ⟨v', he, hc, hE'⟩ => ?_
  rw [cells_ab] at hc
  obtain ⟨h0, ⟨hn, _⟩ | ⟨hn, b, off, cap, rfl, hb, hc⟩⟩ := hc
  · simp at hn
  · exact ⟨b, off, cap, he, hE1.trans hE', hb, hc⟩
theorem c_nil (W W0 : World) (hT : Tab W0) (hsz : 0 < W0.heap.size) (hE : Ext W0 W) : Calls Tryd.prog 15 #[.slice none 0 0] W fun e w' => ∃ a cap, e = .returned (.slice a 1 cap) ∧ Ext W0 w' := by
  refine (cellsS_any [] _ _ (hT.below hE.below hsz) (by have := hE.size; omega) (Sl.nil _ _ _)).mono fun e w' ⟨v', he, hc, hE'⟩ => ?_
  rw [cells_nil] at hc
  obtain ⟨h0, ⟨hn, _⟩ | ⟨hn, b, off, cap, rfl, hb, hc⟩⟩ := hc
  · simp at hn
  · exact ⟨_, cap, he, hE.trans hE'⟩

theorem ew_next {w W' : World} {e : EW w} (h : Ext e.W W') : ∃ e' : EW w, W' = e'.W := ⟨⟨W', e.ext.trans h⟩, rfl⟩
theorem ew_next1 {w W' : World} {e : EW w} {o : Obj} (h : Ext (e.W.alloc o) W') : ∃ e' : EW w, W' = e'.W := ⟨⟨W', (e.ext.alloc o).trans h⟩, rfl⟩
theorem ew_start (w : World) : ∃ e : EW w, w = e.W := ⟨⟨w, Ext.refl w⟩, rfl⟩

theorem by_lit (W : World) (l : List UInt8) (fr : Nat × Nat) (hl : l.length ≤ 1000000) : By (W.alloc (.cells (l.map bv).toArray 5 fr)) (.slice (some ⟨W.heap.size, 0, none⟩) l.length l.length) l := by
  refine ⟨by omega, ?_⟩
  by_cases h0 : l.length = 0
  · exact .inl ⟨h0, _, _, by rw [h0]⟩
  · refine .inr ⟨by omega, W.heap.size, 0, l.length, rfl, by simp, fun i hi => ?_⟩
    rw [Nat.zero_add, cell_of_row _ _ _ _ 5 fr (heap_alloc_at W _)]
    have hi' : i < l.length := by omega
    simp [List.getD_eq_getElem?_getD, hi']
theorem o_4 (W : World) : Calls Tryd.prog 21 #[.slice (some ⟨W.heap.size, 0, none⟩) 4 4] (W.alloc (.cells #[.int .u8 97, .int .u8 98, .int .u8 99, .int .u8 97] 5 (4, 5))) fun e w' => e = .returned (.agg (encA k4)) ∧ Ext (W.alloc (.cells #[.int .u8 97, .int .u8 98, .int .u8 99, .int .u8 97] 5 (4, 5))) w' :=
  of_any [97, 98, 99, 97] _ _ (by_lit W [97, 98, 99, 97] (4, 5) (by decide))
theorem o_3 (W : World) : Calls Tryd.prog 21 #[.slice (some ⟨W.heap.size, 0, none⟩) 3 3] (W.alloc (.cells #[.int .u8 99, .int .u8 97, .int .u8 98] 5 (3, 4))) fun e w' => e = .returned (.agg (encA k3)) ∧ Ext (W.alloc (.cells #[.int .u8 99, .int .u8 97, .int .u8 98] 5 (3, 4))) w' :=
  of_any [99, 97, 98] _ _ (by_lit W [99, 97, 98] (3, 4) (by decide))
theorem o_5 (W : World) : Calls Tryd.prog 21 #[.slice (some ⟨W.heap.size, 0, none⟩) 3 3] (W.alloc (.cells #[.int .u8 99, .int .u8 98, .int .u8 97] 5 (3, 4))) fun e w' => e = .returned (.agg (encA (rngC 97 99))) ∧ Ext (W.alloc (.cells #[.int .u8 99, .int .u8 98, .int .u8 97] 5 (3, 4))) w' := by
  have h := of_any [99, 98, 97] _ _ (by_lit W [99, 98, 97] (3, 4) (by decide))
  rw [show ofL [99, 98, 97] = rngC 97 99 by decide +kernel] at h
  exact h
theorem s_any (c : Cls) (n : Int) (h : (sz c : Int) = n) (W : World) : Calls Tryd.prog 22 #[.agg (encA c)] W fun e w' => e = .returned (.int .i64 n) ∧ Ext W w' := h ▸ size_any c W
theorem l_any (c : Cls) (n : Int) (h : headI (bytesTo c 256) = n) (W W0 : World) (hT : Tab W0) (hsz : 0 < W0.heap.size) (hE : Ext W0 W) : Calls Tryd.prog 23 #[.agg (encA c)] W fun e w' => e = .returned (.int .i64 n) ∧ Ext W w' :=
  (least_any c W (hT.below hE.below hsz) (Nat.lt_of_lt_of_le hsz hE.size)).mono fun _ _ ⟨h1, h2, _⟩ => ⟨h ▸ h1, h2⟩
theorem i_any (l : List Cls) (v : Value) (x n : Int) (hx0 : 0 ≤ x) (hx : x < 256) (h : idxC l x = n) (W : World) (hc : Cs W v l) : Calls Tryd.prog 17 #[v, .int .u8 x] W fun e w' => e = .returned (.int .i64 n) ∧ Ext W w' :=
  h ▸ index_any l v x hx0 hx W hc
theorem h_any (c : Cls) (x : Int) (hx0 : 0 ≤ x) (hx : x < 256) (m : Bool) (h : memB c x = m) (W : World) : Calls Tryd.prog 20 #[.agg (encA c), .int .u8 x] W fun e w' => e = .returned (.bool m) ∧ Ext W w' :=
  h ▸ has_any c x hx0 hx W
theorem four_cells {W : World} {b off : Nat} {v0 v1 v2 v3 : Cls} (h : ∀ i, i < [v0, v1, v2, v3].length * 4 → W.cell? ⟨b, off + i, none⟩ = some (.int .u64 (wd ([v0, v1, v2, v3].getD (i / 4) 0#256) (i % 4)))) :
    (∀ e : EW W, e.W.cell? ⟨b, off, none⟩ = some (.int .u64 (wd v0 0))) ∧
    (∀ e : EW W, e.W.cell? ⟨b, off + 1, none⟩ = some (.int .u64 (wd v0 1))) ∧
    (∀ e : EW W, e.W.cell? ⟨b, off + 2, none⟩ = some (.int .u64 (wd v0 2))) ∧
    (∀ e : EW W, e.W.cell? ⟨b, off + 3, none⟩ = some (.int .u64 (wd v0 3))) ∧
    (∀ e : EW W, e.W.cell? ⟨b, off + 4, none⟩ = some (.int .u64 (wd v1 0))) ∧
    (∀ e : EW W, e.W.cell? ⟨b, off + 5, none⟩ = some (.int .u64 (wd v1 1))) ∧
    (∀ e : EW W, e.W.cell? ⟨b, off + 6, none⟩ = some (.int .u64 (wd v1 2))) ∧
    (∀ e : EW W, e.W.cell? ⟨b, off + 7, none⟩ = some (.int .u64 (wd v1 3))) ∧
    (∀ e : EW W, e.W.cell? ⟨b, off + 8, none⟩ = some (.int .u64 (wd v2 0))) ∧
    (∀ e : EW W, e.W.cell? ⟨b, off + 9, none⟩ = some (.int .u64 (wd v2 1))) ∧
    (∀ e : EW W, e.W.cell? ⟨b, off + 10, none⟩ = some (.int .u64 (wd v2 2))) ∧
    (∀ e : EW W, e.W.cell? ⟨b, off + 11, none⟩ = some (.int .u64 (wd v2 3))) ∧
    (∀ e : EW W, e.W.cell? ⟨b, off + 12, none⟩ = some (.int .u64 (wd v3 0))) ∧
    (∀ e : EW W, e.W.cell? ⟨b, off + 13, none⟩ = some (.int .u64 (wd v3 1))) ∧
    (∀ e : EW W, e.W.cell? ⟨b, off + 14, none⟩ = some (.int .u64 (wd v3 2))) ∧
    (∀ e : EW W, e.W.cell? ⟨b, off + 15, none⟩ = some (.int .u64 (wd v3 3))) :=
  ⟨ew_cell (h 0 (by simp)), ew_cell (h 1 (by simp)), ew_cell (h 2 (by simp)), ew_cell (h 3 (by simp)), ew_cell (h 4 (by simp)), ew_cell (h 5 (by simp)), ew_cell (h 6 (by simp)), ew_cell (h 7 (by simp)), ew_cell (h 8 (by simp)), ew_cell (h 9 (by simp)), ew_cell (h 10 (by simp)), ew_cell (h 11 (by simp)), ew_cell (h 12 (by simp)), ew_cell (h 13 (by simp)), ew_cell (h 14 (by simp)), ew_cell (h 15 (by simp))⟩

theorem eqT (c : Cls) (W : World) : (Op.equalIn 10000 30 (.agg (encA c)) (.agg (encA c))).run Tryd.prog W = .ok true W := by
  rw [run_eq30]; simp

theorem b_3 (W W0 : World) (hT : Tab W0) (hsz : 0 < W0.heap.size) (hE : Ext W0 W) : Calls Tryd.prog 19 #[.agg (encA k3)] W fun e w' => ∃ v, e = .returned v ∧ (convert 31 9 v).run Tryd.prog w' = .ok (.string ⟨#[97, 98, 99]⟩) w' ∧ Ext W w' := by
  have h : bytesTo k3 256 = [97, 98, 99] := by decide +kernel
  refine (bytes_any k3 W (hT.below hE.below hsz) (Nat.lt_of_lt_of_le hsz hE.size)).mono fun e w' ⟨v, h1, h2, h3⟩ => ⟨v, h1, ?_, h3⟩
  rw [h] at h2
  exact str_any v _ w' h2

set_option maxHeartbeats 1000000 in
set_option maxRecDepth 100000 in
theorem sanity_any (w : World) (hT : Tab w) (hsz : 0 < w.heap.size) :
    Calls Tryd.prog 13 #[] w fun e w' => e = .returned (.bool true) ∧ Ext w w' := by
  have h1 := fun W => Lib.hid (r_ac W)
  have h2 := fun W => Lib.hid (r_bd W)
  have h3 := fun W => Lib.hid (r_ca W)
  have h4 := fun W hE => Lib.hid (c_ab W w hT hsz hE)
  go_enter Tryd.func13, Tryd.ntmps13
  go_upto_region 3 with (first
    | (go_at_call 36; with_reducible refine (h1 _).out.mono ?_; rintro e w1 ⟨rfl, hE1⟩; clear h1)
    | (go_at_call 36; with_reducible refine (h2 _).out.mono ?_; rintro e w2 ⟨rfl, hE2⟩; clear h2)
    | (go_at_call 15; with_reducible refine (h4 _ (hE1.trans hE2)).out.mono ?_; rintro e w3 ⟨b, off, cap, rfl, hE3, hb, hc⟩; clear h4)
    | (go_at_call 36; with_reducible refine (h3 _).out.mono ?_; rintro e w4 ⟨rfl, hE4⟩; clear h3))
  obtain ⟨wb, hwb⟩ : ∃ W, w4.alloc (.cells (encA 0#256) 30) = W := ⟨_, rfl⟩
  simp only [hwb]
  have hE5 : Ext w3 wb := hwb ▸ hE4.alloc _
  have hx := hwb ▸ heap_alloc_at w4 (.cells (encA 0#256) 30)
  clear hwb
  obtain ⟨x0, x1, x2, x3⟩ := ew_cells hx
  have hcb := fun i hi => hE5.cell (hc i hi)
  obtain ⟨a0, a1, a2, a3, a4, a5, a6, a7, a8, a9, a10, a11, a12, a13, a14, a15⟩ := four_cells hcb
  have hCs : Cs wb (.slice (some ⟨b, off, none⟩) 4 cap) [q0, q1, q2, q3] := ⟨by decide, .inr ⟨by decide, b, off, cap, rfl, Nat.lt_of_lt_of_le hb hE5.size, hcb⟩⟩
  have hEw := hE3.trans hE5
  have hTb := hT.below hEw.below hsz
  have hsb : 0 < wb.heap.size := Nat.lt_of_lt_of_le hsz hEw.size
  clear hc hcb hx hE5 hE4 hE3 hb hE1 hE2
  have f15 := fun e : EW wb => Lib.hid (c_nil e.W e.W (hTb.below e.ext.below hsb) (Nat.lt_of_lt_of_le hsb e.ext.size) (Ext.refl _))
  have f21a := fun W => Lib.hid (o_4 W)
  have f21b := fun W => Lib.hid (o_3 W)
  have f21c := fun W => Lib.hid (o_5 W)
  have f20a := fun W => Lib.hid (h_any k4 98 (by decide) (by decide) true (by decide +kernel) W)
  have f20b := fun W => Lib.hid (h_any k4 100 (by decide) (by decide) false (by decide +kernel) W)
  have f22a := fun W => Lib.hid (s_any k4 3 (by decide +kernel) W)
  have f22b := fun W => Lib.hid (s_any 0#256 0 (by decide +kernel) W)
  have f22c := fun W => Lib.hid (s_any allC 256 (by decide +kernel) W)
  have f22d := fun W => Lib.hid (s_any q2 2 (by decide +kernel) W)
  have f23a := fun e : EW wb => Lib.hid (l_any k3 97 (by decide +kernel) e.W wb hTb hsb e.ext)
  have f23b := fun e : EW wb => Lib.hid (l_any 0#256 (-1) (by decide +kernel) e.W wb hTb hsb e.ext)
  have f23c := fun e : EW wb => Lib.hid (l_any q0 0 (by decide +kernel) e.W wb hTb hsb e.ext)
  have f23d := fun e : EW wb => Lib.hid (l_any q1 97 (by decide +kernel) e.W wb hTb hsb e.ext)
  have f23e := fun e : EW wb => Lib.hid (l_any q3 100 (by decide +kernel) e.W wb hTb hsb e.ext)
  have f17a := fun e : EW wb => Lib.hid (i_any [q0, q1, q2, q3] _ 99 2 (by decide) (by decide) (by decide +kernel) e.W (hCs.ext e.ext))
  have f17b := fun e : EW wb => Lib.hid (i_any [q0, q1, q2, q3] _ 122 0 (by decide) (by decide) (by decide +kernel) e.W (hCs.ext e.ext))
  have f17c := fun e : EW wb => Lib.hid (i_any [] (.slice none 0 0) 97 (-1) (by decide) (by decide) (by decide +kernel) e.W (Sl.nil _ _ _))
  have f19 := fun e : EW wb => Lib.hid (b_3 e.W wb hTb hsb e.ext)
  have f36a := fun W => Lib.hid (r_ac W)
  have f36b := fun W => Lib.hid (r_all W)
  have f31 := fun W => Lib.hid (not0_any W)
  have g1 := eqT (rngC 97 99)
  have g2 := eqT allC
  have g3 := gt30
  have kc := fun (w : World) (C : Array Value) (n c : Nat) => Lib.run_convert_bytes_const (P := Tryd.prog) w 31 5 C n c Tryd.underlying31 Tryd.underlying5
  clear hTb hsb hCs
  generalize k4 = u4 at *
  generalize k3 = u3 at *
  generalize q0 = v0 at *
  generalize q1 = v1 at *
  generalize q2 = v2 at *
  generalize q3 = v3 at *
  generalize allC = uA at *
  generalize rngC 97 99 = u5 at *
  generalize rngC 98 100 = u6 at *
  obtain ⟨e0, he0⟩ := ew_start wb
  rw [he0]
  clear he0
  go_wp2_with (first
    | (go_at_call 15; with_reducible refine (f15 _).out.mono ?_; rintro e w' ⟨an, capn, rfl, hE'⟩; obtain ⟨e', rfl⟩ := ew_next hE')
    | (go_at_call 21; with_reducible refine (f21a _).out.mono ?_; rintro e w' ⟨rfl, hE'⟩; obtain ⟨e', rfl⟩ := ew_next1 hE')
    | (go_at_call 21; with_reducible refine (f21b _).out.mono ?_; rintro e w' ⟨rfl, hE'⟩; obtain ⟨e', rfl⟩ := ew_next1 hE')
    | (go_at_call 21; with_reducible refine (f21c _).out.mono ?_; rintro e w' ⟨rfl, hE'⟩; obtain ⟨e', rfl⟩ := ew_next1 hE')
    | (go_at_call 19; with_reducible refine (f19 _).out.mono ?_; rintro e w' ⟨vb, rfl, hcv, hE'⟩; obtain ⟨e', rfl⟩ := ew_next hE')
    | (go_at_call 20; with_reducible refine (f20a _).out.mono ?_; rintro e w' ⟨rfl, hE'⟩; obtain ⟨e', rfl⟩ := ew_next hE')
    | (go_at_call 20; with_reducible refine (f20b _).out.mono ?_; rintro e w' ⟨rfl, hE'⟩; obtain ⟨e', rfl⟩ := ew_next hE')
    | (go_at_call 22; with_reducible refine (f22a _).out.mono ?_; rintro e w' ⟨rfl, hE'⟩; obtain ⟨e', rfl⟩ := ew_next hE')
    | (go_at_call 22; with_reducible refine (f22b _).out.mono ?_; rintro e w' ⟨rfl, hE'⟩; obtain ⟨e', rfl⟩ := ew_next hE')
    | (go_at_call 22; with_reducible refine (f22c _).out.mono ?_; rintro e w' ⟨rfl, hE'⟩; obtain ⟨e', rfl⟩ := ew_next hE')
    | (go_at_call 22; with_reducible refine (f22d _).out.mono ?_; rintro e w' ⟨rfl, hE'⟩; obtain ⟨e', rfl⟩ := ew_next hE')
    | (go_at_call 23; with_reducible refine (f23a _).out.mono ?_; rintro e w' ⟨rfl, hE'⟩; obtain ⟨e', rfl⟩ := ew_next hE')
    | (go_at_call 23; with_reducible refine (f23b _).out.mono ?_; rintro e w' ⟨rfl, hE'⟩; obtain ⟨e', rfl⟩ := ew_next hE')
    | (go_at_call 23; with_reducible refine (f23c _).out.mono ?_; rintro e w' ⟨rfl, hE'⟩; obtain ⟨e', rfl⟩ := ew_next hE')
    | (go_at_call 23; with_reducible refine (f23d _).out.mono ?_; rintro e w' ⟨rfl, hE'⟩; obtain ⟨e', rfl⟩ := ew_next hE')
    | (go_at_call 23; with_reducible refine (f23e _).out.mono ?_; rintro e w' ⟨rfl, hE'⟩; obtain ⟨e', rfl⟩ := ew_next hE')
    | (go_at_call 17; with_reducible refine (f17a _).out.mono ?_; rintro e w' ⟨rfl, hE'⟩; obtain ⟨e', rfl⟩ := ew_next hE')
    | (go_at_call 17; with_reducible refine (f17b _).out.mono ?_; rintro e w' ⟨rfl, hE'⟩; obtain ⟨e', rfl⟩ := ew_next hE')
    | (go_at_call 17; with_reducible refine (f17c _).out.mono ?_; rintro e w' ⟨rfl, hE'⟩; obtain ⟨e', rfl⟩ := ew_next hE')
    | (go_at_call 36; with_reducible refine (f36a _).out.mono ?_; rintro e w' ⟨rfl, hE'⟩; obtain ⟨e', rfl⟩ := ew_next hE')
    | (go_at_call 36; with_reducible refine (f36b _).out.mono ?_; rintro e w' ⟨rfl, hE'⟩; obtain ⟨e', rfl⟩ := ew_next hE')
    | (go_at_call 31; with_reducible refine (f31 _).out.mono ?_; rintro e w' ⟨rfl, hE'⟩; obtain ⟨e', rfl⟩ := ew_next hE'))
  go_ret
  exact ⟨rfl, hEw.trans e'.ext⟩

end Go.Proofs.YthfmjhicmopclaaDoor
