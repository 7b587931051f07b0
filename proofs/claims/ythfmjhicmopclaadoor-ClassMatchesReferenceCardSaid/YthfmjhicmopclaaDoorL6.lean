/-
  The walk of ClassMatchesReference.
-/
import Derived.Test.YthfmjhicmopclaaDoorW19
import Derived.Test.YthfmjhicmopclaaDoorIn
import Derived.Deep.RegionHeld
namespace Go.Proofs.YthfmjhicmopclaaDoor
open Go.RowKit Go.Shelf

theorem bstr_any (c : Cls) (W W0 : World) (hT : Tab W0) (hsz : 0 < W0.heap.size) (hE : Ext W0 W) :
    Calls Tryd.prog 19 #[.agg (encA c)] W fun e w' => ∃ v, e = .returned v ∧ (∀ X, Ext w' X → (convert 31 9 v).run Tryd.prog X = .ok (.string ⟨(bytesTo c 256).toArray⟩) X) ∧ Ext W w' :=
  (bytes_any c W (hT.below hE.below hsz) (Nat.lt_of_lt_of_le hsz hE.size)).mono fun _ _ ⟨v, h1, h2, h3⟩ => ⟨v, h1, fun X hX => str_any v _ X (h2.ext hX), h3⟩
theorem rbstr_any (c : Cls) (W : World) :
    Calls Tryd.prog 35 #[.agg (encA c)] W fun e w' => ∃ v, e = .returned v ∧ (∀ X, Ext w' X → (convert 31 9 v).run Tryd.prog X = .ok (.string ⟨(bytesTo c 256).toArray⟩) X) ∧ Ext W w' :=
  (rbytes_any c W).mono fun _ _ ⟨v, h1, h2, h3⟩ => ⟨v, h1, fun X hX => str_any v _ X (h2.ext hX), h3⟩
/-- Eight cells and the world they are in, further on. -/
theorem held8 {w1 W W' : World} {p0 p1 p2 p3 p4 p5 p6 p7 : Addr} {v0 v1 v2 v3 v4 v5 v6 v7 : Value}
    (h : Ext w1 W ∧ W.cell? p0 = some v0 ∧ W.cell? p1 = some v1 ∧ W.cell? p2 = some v2 ∧ W.cell? p3 = some v3 ∧ W.cell? p4 = some v4 ∧ W.cell? p5 = some v5 ∧ W.cell? p6 = some v6 ∧ W.cell? p7 = some v7) (hE : Ext W W') :
    Ext w1 W' ∧ W'.cell? p0 = some v0 ∧ W'.cell? p1 = some v1 ∧ W'.cell? p2 = some v2 ∧ W'.cell? p3 = some v3 ∧ W'.cell? p4 = some v4 ∧ W'.cell? p5 = some v5 ∧ W'.cell? p6 = some v6 ∧ W'.cell? p7 = some v7 := by
  obtain ⟨h, a, b, c, d, e, f, g, i⟩ := h
  exact ⟨h.trans hE, hE.cell a, hE.cell b, hE.cell c, hE.cell d, hE.cell e, hE.cell f, hE.cell g, hE.cell i⟩

set_option maxHeartbeats 2000000 in
set_option maxRecDepth 100000 in
theorem matches_any (a b : Cls) (l : List UInt8) (v : Value) (w : World) (hT : Tab w) (hsz : 0 < w.heap.size) (s : ByW w v l) :
    Calls Tryd.prog 6 #[.agg (encA a), .agg (encA b), v] w fun e w' => e = .returned (.bool true) ∧ Ext w w' := by
  obtain ⟨pa, pb, off, cap, rfl, _, _⟩ := s.split
  have hS := fun W hT hs => Lib.hid (sanity_any W hT hs)
  have hE0 := ((Ext.refl w).alloc (.cells (encA a) 30)).alloc (.cells (encA b) 30)
  have H1 := Lib.hid (heap_alloc_keep (heap_alloc_at w (.cells (encA a) 30)) (.cells (encA b) 30))
  have H2 := Lib.hid (heap_alloc2_new w (.cells (encA a) 30) (.cells (encA b) 30))
  by_cases hl : l.length ≤ 1000
  · have HB := Lib.hid (s.short (by omega))
    have d : decide ((1000 : Int) < (l.length : Int)) = false := by simp; omega
    clear s
    go_enter Tryd.func6, Tryd.ntmps6
    go_upto_region 2 with (go_at_call 13; with_reducible refine (hS _ (hT.below hE0.below hsz) (by have := hE0.size; omega)).out.mono ?_; rintro e w1 ⟨rfl, hE1⟩)
    have H1 := Lib.hid (hE1.heap H1.out)
    have H2 := Lib.hid (hE1.heap H2.out)
    have hE := hE0.trans hE1
    have hT1 := hT.below hE.below hsz
    have hs1 : 0 < w1.heap.size := Nat.lt_of_lt_of_le hsz hE.size
    have HB := Lib.hid (HB.out.ext hE)
    clear hE0 hE1 hS hT
    have hS0 : (fun W : World => Ext w1 W ∧ W.cell? ⟨w.heap.size, 0, none⟩ = some (.int .u64 (wd a 0)) ∧ W.cell? ⟨w.heap.size, 1, none⟩ = some (.int .u64 (wd a 1)) ∧ W.cell? ⟨w.heap.size, 2, none⟩ = some (.int .u64 (wd a 2)) ∧ W.cell? ⟨w.heap.size, 3, none⟩ = some (.int .u64 (wd a 3)) ∧ W.cell? ⟨w.heap.size + 1, 0, none⟩ = some (.int .u64 (wd b 0)) ∧ W.cell? ⟨w.heap.size + 1, 1, none⟩ = some (.int .u64 (wd b 1)) ∧ W.cell? ⟨w.heap.size + 1, 2, none⟩ = some (.int .u64 (wd b 2)) ∧ W.cell? ⟨w.heap.size + 1, 3, none⟩ = some (.int .u64 (wd b 3))) w1 := ⟨Ext.refl w1, (cell_of_row w1 _ 0 _ _ _ H1.out).trans rfl, (cell_of_row w1 _ 1 _ _ _ H1.out).trans rfl, (cell_of_row w1 _ 2 _ _ _ H1.out).trans rfl, (cell_of_row w1 _ 3 _ _ _ H1.out).trans rfl, (cell_of_row w1 _ 0 _ _ _ H2.out).trans rfl, (cell_of_row w1 _ 1 _ _ _ H2.out).trans rfl, (cell_of_row w1 _ 2 _ _ _ H2.out).trans rfl, (cell_of_row w1 _ 3 _ _ _ H2.out).trans rfl⟩
    have HS0 := Lib.hid hS0
    have key := fun (W : World) (h : Ext w1 W ∧ W.cell? ⟨w.heap.size, 0, none⟩ = some (.int .u64 (wd a 0)) ∧ W.cell? ⟨w.heap.size, 1, none⟩ = some (.int .u64 (wd a 1)) ∧ W.cell? ⟨w.heap.size, 2, none⟩ = some (.int .u64 (wd a 2)) ∧ W.cell? ⟨w.heap.size, 3, none⟩ = some (.int .u64 (wd a 3)) ∧ W.cell? ⟨w.heap.size + 1, 0, none⟩ = some (.int .u64 (wd b 0)) ∧ W.cell? ⟨w.heap.size + 1, 1, none⟩ = some (.int .u64 (wd b 1)) ∧ W.cell? ⟨w.heap.size + 1, 2, none⟩ = some (.int .u64 (wd b 2)) ∧ W.cell? ⟨w.heap.size + 1, 3, none⟩ = some (.int .u64 (wd b 3))) => h.1
    clear hS0
    have f21 := fun W (h : Ext w1 W) => Lib.hid (of_any l _ W (HB.out.ext h))
    have f24 := fun W (h : Ext w1 W) => Lib.hid (rof_any l _ W (HB.out.ext h))
    have f25 := fun W => Lib.hid (union_any a b W)
    have f26 := fun W => Lib.hid (runion_any a b W)
    have f27 := fun W => Lib.hid (inter_any a b W)
    have f28 := fun W => Lib.hid (rinter_any a b W)
    have f29 := fun W => Lib.hid (minus_any a b W)
    have f30 := fun W => Lib.hid (rminus_any a b W)
    have f31 := fun W => Lib.hid (not_any a W)
    have f32 := fun W => Lib.hid (rnot_any a W)
    have f22 := fun W => Lib.hid (s_any a ((bytesTo a 256).length : Int) (by rw [bytesTo_cnt a 256]; rfl) W)
    have f33 := fun W => Lib.hid (rsize_any a W)
    have f23 := fun W (h : Ext w1 W) => Lib.hid (l_any a (headI (bytesTo a 256)) rfl W w1 hT1 hs1 h)
    have f34 := fun W => Lib.hid (rleast_any a W)
    have f19 := fun W (h : Ext w1 W) => Lib.hid (bstr_any a W w1 hT1 hs1 h)
    have f35 := fun W => Lib.hid (rbstr_any a W)
    generalize ((bytesTo a 256).length : Int) = n at *
    generalize headI (bytesTo a 256) = h at *
    generalize (bytesTo a 256).toArray = t at *
    generalize ofL l = o at *
    generalize a ||| b = u at *
    generalize a &&& ~~~b = m at *
    generalize a &&& b = i at *
    generalize ~~~a = na at *
    have g0 := gt30
    have g1 := eqT o
    have g2 := eqT u
    have g3 := eqT m
    have g4 := eqT i
    have g5 := eqT na
    go_wp2_with (fail)
    try simp only [List.append]
    go_region_held (fun W => Ext w1 W ∧ W.cell? ⟨w.heap.size, 0, none⟩ = some (.int .u64 (wd a 0)) ∧ W.cell? ⟨w.heap.size, 1, none⟩ = some (.int .u64 (wd a 1)) ∧ W.cell? ⟨w.heap.size, 2, none⟩ = some (.int .u64 (wd a 2)) ∧ W.cell? ⟨w.heap.size, 3, none⟩ = some (.int .u64 (wd a 3)) ∧ W.cell? ⟨w.heap.size + 1, 0, none⟩ = some (.int .u64 (wd b 0)) ∧ W.cell? ⟨w.heap.size + 1, 1, none⟩ = some (.int .u64 (wd b 1)) ∧ W.cell? ⟨w.heap.size + 1, 2, none⟩ = some (.int .u64 (wd b 2)) ∧ W.cell? ⟨w.heap.size + 1, 3, none⟩ = some (.int .u64 (wd b 3)))
      (first | assumption | exact held8 (by assumption) hE' | exact held8 HS0.out (Ext.refl w1).drew)
      (first
      | (go_at_call 21; with_reducible refine (f21 _ (key _ (by assumption))).out.mono ?_; rintro e w' ⟨rfl, hE'⟩)
      | (go_at_call 24; with_reducible refine (f24 _ (key _ (by assumption))).out.mono ?_; rintro e w' ⟨rfl, hE'⟩)
      | (go_at_call 25; with_reducible refine (f25 _).out.mono ?_; rintro e w' ⟨rfl, hE'⟩)
      | (go_at_call 26; with_reducible refine (f26 _).out.mono ?_; rintro e w' ⟨rfl, hE'⟩)
      | (go_at_call 27; with_reducible refine (f27 _).out.mono ?_; rintro e w' ⟨rfl, hE'⟩)
      | (go_at_call 28; with_reducible refine (f28 _).out.mono ?_; rintro e w' ⟨rfl, hE'⟩)
      | (go_at_call 29; with_reducible refine (f29 _).out.mono ?_; rintro e w' ⟨rfl, hE'⟩)
      | (go_at_call 30; with_reducible refine (f30 _).out.mono ?_; rintro e w' ⟨rfl, hE'⟩)
      | (go_at_call 31; with_reducible refine (f31 _).out.mono ?_; rintro e w' ⟨rfl, hE'⟩)
      | (go_at_call 32; with_reducible refine (f32 _).out.mono ?_; rintro e w' ⟨rfl, hE'⟩)
      | (go_at_call 22; with_reducible refine (f22 _).out.mono ?_; rintro e w' ⟨rfl, hE'⟩)
      | (go_at_call 33; with_reducible refine (f33 _).out.mono ?_; rintro e w' ⟨rfl, hE'⟩)
      | (go_at_call 23; with_reducible refine (f23 _ (key _ (by assumption))).out.mono ?_; rintro e w' ⟨rfl, hE'⟩)
      | (go_at_call 34; with_reducible refine (f34 _).out.mono ?_; rintro e w' ⟨rfl, hE'⟩)
      | (go_at_call 19; with_reducible refine (f19 _ (key _ (by assumption))).out.mono ?_; rintro e w' ⟨vb, rfl, hcv, hE'⟩; have hcv0 := hcv _ (Ext.refl _))
      | (go_at_call 35; with_reducible refine (f35 _).out.mono ?_; rintro e w' ⟨vb2, rfl, hcv2, hE'⟩; have hcv20 := hcv2 _ (Ext.refl _); have hcv1 := hcv _ hE'))
    all_goals
      go_wp2
      go_ret
      exact ⟨rfl, hE.trans (key _ (by assumption))⟩
  · have d : decide ((1000 : Int) < (l.length : Int)) = true := by simp; omega
    clear s
    go_enter Tryd.func6, Tryd.ntmps6
    go_wp2_with (go_at_call 13; with_reducible refine (hS _ (hT.below hE0.below hsz) (by have := hE0.size; omega)).out.mono ?_; rintro e w1 ⟨rfl, hE1⟩)
    go_ret
    exact ⟨rfl, hE0.trans hE1⟩

end Go.Proofs.YthfmjhicmopclaaDoor
