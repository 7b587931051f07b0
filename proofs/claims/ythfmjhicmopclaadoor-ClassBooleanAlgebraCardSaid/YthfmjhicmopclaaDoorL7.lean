/-
  The walk of ClassBooleanAlgebra (printed by wip/tools/gen_l7.py).
-/
import Derived.Test.YthfmjhicmopclaaDoorW19
namespace Go.Proofs.YthfmjhicmopclaaDoor
open Go.RowKit Go.Shelf

theorem bv_ext {x y : Cls} (h : ∀ i, i < 256 → x.getLsbD i = y.getLsbD i) : (x == y) = true := by
  rw [BitVec.eq_of_getLsbD_eq h]; simp

/-- The laws of a Boolean algebra, for four functions. -/
structure BA (U I M : Cls → Cls → Cls) (N : Cls → Cls) (Z : Cls) : Prop where
  uc : ∀ a b, (U a b == U b a) = true
  ic : ∀ a b, (I a b == I b a) = true
  uu : ∀ a, (U a a == a) = true
  ii : ∀ a, (I a a == a) = true
  ua : ∀ a b c, (U (U a b) c == U a (U b c)) = true
  ia : ∀ a b c, (I (I a b) c == I a (I b c)) = true
  iu : ∀ a b c, (I a (U b c) == U (I a b) (I a c)) = true
  ui : ∀ a b c, (U a (I b c) == I (U a b) (U a c)) = true
  dm : ∀ a b, (N (U a b) == I (N a) (N b)) = true
  nn : ∀ a, (N (N a) == a) = true
  un : ∀ a, (U a (N a) == N Z) = true
  inn : ∀ a, (I a (N a) == Z) = true
  mi : ∀ a b, (M a b == I a (N b)) = true
  uz : ∀ a, (U a Z == a) = true
  ial : ∀ a, (I a (N Z) == a) = true

theorem ba_all : BA (fun a b => a ||| b) (fun a b => a &&& b) (fun a b => a &&& ~~~b) (fun a => ~~~a) 0#256 := by
  constructor
  all_goals intros
  all_goals refine bv_ext fun i hi => ?_
  all_goals simp only [BitVec.getLsbD_or, BitVec.getLsbD_and, BitVec.getLsbD_not, BitVec.getLsbD_zero, hi, decide_true, Bool.true_and]
  all_goals (first | done | (rename_i a b c; generalize a.getLsbD i = x; generalize b.getLsbD i = y; generalize c.getLsbD i = z; revert x y z; decide) | (rename_i a b; generalize a.getLsbD i = x; generalize b.getLsbD i = y; revert x y; decide) | (rename_i a; generalize a.getLsbD i = x; revert x; decide))

/-- The four functions by contract. -/
structure Con (U I M : Cls → Cls → Cls) (N : Cls → Cls) (Z : Cls) : Prop where
  ba : BA U I M N Z
  u : ∀ a b W, Calls Tryd.prog 25 #[.agg (encA a), .agg (encA b)] W fun e w' => e = .returned (.agg (encA (U a b))) ∧ Ext W w'
  i : ∀ a b W, Calls Tryd.prog 27 #[.agg (encA a), .agg (encA b)] W fun e w' => e = .returned (.agg (encA (I a b))) ∧ Ext W w'
  m : ∀ a b W, Calls Tryd.prog 29 #[.agg (encA a), .agg (encA b)] W fun e w' => e = .returned (.agg (encA (M a b))) ∧ Ext W w'
  n : ∀ a W, Calls Tryd.prog 31 #[.agg (encA a)] W fun e w' => e = .returned (.agg (encA (N a))) ∧ Ext W w'
  z : encA Z = zA
  nz : ∀ W, Calls Tryd.prog 31 #[.agg zA] W fun e w' => e = .returned (.agg (encA (N Z))) ∧ Ext W w'
theorem con_all : Con (fun a b => a ||| b) (fun a b => a &&& b) (fun a b => a &&& ~~~b) (fun a => ~~~a) 0#256 where
  ba := ba_all
  u := union_any
  i := inter_any
  m := minus_any
  n := not_any
  z := encA_zero
  nz W := by have := not_any 0#256 W; rwa [encA_zero] at this
theorem eq_of (c d : Cls) (h : (c == d) = true) (W : World) : (Op.equalIn 10000 30 (.agg (encA c)) (.agg (encA d))).run Tryd.prog W = .ok true W := by
  rw [run_eq30, h]

theorem zheap {w : World} {B : Nat} {t : TypeId} {fr : Nat × Nat} {Z : Cls} (hz : encA Z = zA) (h : w.heap[B]? = some (.cells zA t fr)) : w.heap[B]? = some (.cells (encA Z) t fr) := by
  rw [hz]; exact h

set_option maxHeartbeats 8000000 in
set_option maxRecDepth 100000 in
theorem algebra_walk (U I M : Cls → Cls → Cls) (N : Cls → Cls) (Z : Cls) (hcon : Con U I M N Z) (a b c : Cls) (w : World) (hT : Tab w) (hsz : 0 < w.heap.size) :
    Calls Tryd.prog 7 #[.agg (encA a), .agg (encA b), .agg (encA c)] w fun e w' => e = .returned (.bool true) ∧ Ext w w' := by
  have hS := fun W hT hs => Lib.hid (sanity_any W hT hs)
  have fu := fun (a b : Cls) (W : World) => Lib.hid (hcon.u a b W)
  have fi := fun (a b : Cls) (W : World) => Lib.hid (hcon.i a b W)
  have fm := fun (a b : Cls) (W : World) => Lib.hid (hcon.m a b W)
  have fn := fun (a : Cls) (W : World) => Lib.hid (hcon.n a W)
  have Hz := Lib.hid hcon.z
  have fnz := fun (W : World) => Lib.hid (hcon.nz W)
  have HB := Lib.hid hcon.ba
  clear hcon
  have g3 := gt30
  have hE0 := (((Ext.refl w).alloc (.cells (encA a) 30)).alloc (.cells (encA b) 30)).alloc (.cells (encA c) 30)
  have H1 := heap_alloc_keep (heap_alloc_keep (heap_alloc_at w (.cells (encA a) 30)) (.cells (encA b) 30)) (.cells (encA c) 30)
  have H2 := heap_alloc_keep (heap_alloc_at (w.alloc (.cells (encA a) 30)) (.cells (encA b) 30)) (.cells (encA c) 30)
  have H3 := heap_alloc_at ((w.alloc (.cells (encA a) 30)).alloc (.cells (encA b) 30)) (.cells (encA c) 30)
  rw [World.size_alloc] at H2
  rw [World.size_alloc, World.size_alloc] at H3
  generalize hW0 : ((w.alloc (.cells (encA a) 30)).alloc (.cells (encA b) 30)).alloc (.cells (encA c) 30) = W0 at hE0 H1 H2 H3
  have HW0 := Lib.hid hW0
  clear hW0
  have H1 := Lib.hid H1
  have H2 := Lib.hid H2
  have H3 := Lib.hid H3
  go_enter Tryd.func7, Tryd.ntmps7
  go_upto_region 1 with (fail)
  simp only [HW0.out]
  go_upto_region 4 with (first
    | (go_at_call 13; refine (hS _ (hT.below hE0.below hsz) (by have := hE0.size; omega)).out.mono ?_; rintro e w1 ⟨rfl, hE1⟩)
    | (go_at_call 31; refine (fnz _).out.mono ?_; rintro e w2 ⟨rfl, hE2⟩))
  have hE3 := (hE1.alloc (.cells zA 30)).trans (hE2.alloc (.cells (encA (N Z)) 30))
  have H4 := Lib.hid (zheap Hz.out (hE2.alloc (.cells (encA (N Z)) 30) |>.heap (heap_alloc_at w1 (.cells zA 30))))
  have H5 := Lib.hid (heap_alloc_at w2 (.cells (encA (N Z)) 30))
  have H1 := Lib.hid (hE3.heap H1.out)
  have H2 := Lib.hid (hE3.heap H2.out)
  have H3 := Lib.hid (hE3.heap H3.out)
  have hE := hE0.trans hE3
  generalize w2.alloc (.cells (encA (N Z)) 30) = wA at *
  clear hS hE1 hE2 hE3 hE0 HW0
  -- region 4
  go_upto_region 4 with (fail)
  go_cut [43] (fun v W => v = .bool false ∧ ∃ e : EW wA, W = e.W)
  case first =>
    obtain ⟨x10, x11, x12, x13⟩ := ew_cells H1.out
    obtain ⟨x20, x21, x22, x23⟩ := ew_cells H2.out
    have q0 := eq_of _ _ (HB.out.uc a b)
    have q1 := eq_of _ _ (HB.out.ic a b)
    have q2 := eq_of _ _ (HB.out.uu a)
    have q3 := eq_of _ _ (HB.out.ii a)
    refine region_ew (by kernel_rfl) (by kernel_rfl) ?_
    iterate 30 (with_reducible refine wpQuiet_step (fun K hK => ?_); go_simp; first | (refine hK _ ?_; clear hK K) | (apply Exists.intro; refine ⟨fun _ => ?_, hK _ ?_⟩; (first | (with_reducible exact calls_ew (fu _ _ _).out) | (with_reducible exact calls_ew (fi _ _ _).out) | (with_reducible exact calls_ew (fm _ _ _).out) | (with_reducible exact calls_ew (fn _ _).out)); clear hK K))
    refine wpQuiet_nil ?_
    rintro _ ⟨e, rfl⟩
    go_wp2
    go_meet
    exact ⟨rfl, e, rfl⟩
  case rest =>
    obtain ⟨rfl, e, rfl⟩ := hcut
    have H1 := Lib.hid (e.ext.heap H1.out)
    have H2 := Lib.hid (e.ext.heap H2.out)
    have H3 := Lib.hid (e.ext.heap H3.out)
    have H4 := Lib.hid (e.ext.heap H4.out)
    have H5 := Lib.hid (e.ext.heap H5.out)
    have hE := hE.trans e.ext
    generalize e.W = wA at *
    -- region 6
    go_upto_region 6 with (fail)
    go_cut [67] (fun v W => v = .bool false ∧ ∃ e : EW wA, W = e.W)
    case first =>
      obtain ⟨x10, x11, x12, x13⟩ := ew_cells H1.out
      obtain ⟨x20, x21, x22, x23⟩ := ew_cells H2.out
      obtain ⟨x30, x31, x32, x33⟩ := ew_cells H3.out
      have q0 := eq_of _ _ (HB.out.ua a b c)
      have q1 := eq_of _ _ (HB.out.ia a b c)
      refine region_ew (by kernel_rfl) (by kernel_rfl) ?_
      iterate 24 (with_reducible refine wpQuiet_step (fun K hK => ?_); go_simp; first | (refine hK _ ?_; clear hK K) | (apply Exists.intro; refine ⟨fun _ => ?_, hK _ ?_⟩; (first | (with_reducible exact calls_ew (fu _ _ _).out) | (with_reducible exact calls_ew (fi _ _ _).out) | (with_reducible exact calls_ew (fm _ _ _).out) | (with_reducible exact calls_ew (fn _ _).out)); clear hK K))
      refine wpQuiet_nil ?_
      rintro _ ⟨e, rfl⟩
      go_wp2
      go_meet
      exact ⟨rfl, e, rfl⟩
    case rest =>
      obtain ⟨rfl, e, rfl⟩ := hcut
      have H1 := Lib.hid (e.ext.heap H1.out)
      have H2 := Lib.hid (e.ext.heap H2.out)
      have H3 := Lib.hid (e.ext.heap H3.out)
      have H4 := Lib.hid (e.ext.heap H4.out)
      have H5 := Lib.hid (e.ext.heap H5.out)
      have hE := hE.trans e.ext
      generalize e.W = wA at *
      -- region 8
      go_upto_region 8 with (fail)
      go_cut [95] (fun v W => v = .bool false ∧ ∃ e : EW wA, W = e.W)
      case first =>
        obtain ⟨x10, x11, x12, x13⟩ := ew_cells H1.out
        obtain ⟨x20, x21, x22, x23⟩ := ew_cells H2.out
        obtain ⟨x30, x31, x32, x33⟩ := ew_cells H3.out
        have q0 := eq_of _ _ (HB.out.iu a b c)
        have q1 := eq_of _ _ (HB.out.ui a b c)
        refine region_ew (by kernel_rfl) (by kernel_rfl) ?_
        iterate 28 (with_reducible refine wpQuiet_step (fun K hK => ?_); go_simp; first | (refine hK _ ?_; clear hK K) | (apply Exists.intro; refine ⟨fun _ => ?_, hK _ ?_⟩; (first | (with_reducible exact calls_ew (fu _ _ _).out) | (with_reducible exact calls_ew (fi _ _ _).out) | (with_reducible exact calls_ew (fm _ _ _).out) | (with_reducible exact calls_ew (fn _ _).out)); clear hK K))
        refine wpQuiet_nil ?_
        rintro _ ⟨e, rfl⟩
        go_wp2
        go_meet
        exact ⟨rfl, e, rfl⟩
      case rest =>
        obtain ⟨rfl, e, rfl⟩ := hcut
        have H1 := Lib.hid (e.ext.heap H1.out)
        have H2 := Lib.hid (e.ext.heap H2.out)
        have H3 := Lib.hid (e.ext.heap H3.out)
        have H4 := Lib.hid (e.ext.heap H4.out)
        have H5 := Lib.hid (e.ext.heap H5.out)
        have hE := hE.trans e.ext
        generalize e.W = wA at *
        go_upto_region 10 with (fail)
        obtain ⟨x10, x11, x12, x13⟩ := ew_cells H1.out
        obtain ⟨x20, x21, x22, x23⟩ := ew_cells H2.out
        obtain ⟨x40, x41, x42, x43⟩ := ew_cells H4.out
        obtain ⟨x50, x51, x52, x53⟩ := ew_cells H5.out
        have q0 := eq_of _ _ (HB.out.dm a b)
        have q1 := eq_of _ _ (HB.out.nn a)
        have q2 := eq_of _ _ (HB.out.un a)
        have q3 := eq_of _ _ (HB.out.inn a)
        have q4 := eq_of _ _ (HB.out.mi a b)
        have q5 := eq_of _ _ (HB.out.uz a)
        have q6 := eq_of _ _ (HB.out.ial a)
        refine region_ew (by kernel_rfl) (by kernel_rfl) ?_
        iterate 61 (with_reducible refine wpQuiet_step (fun K hK => ?_); go_simp; first | (refine hK _ ?_; clear hK K) | (apply Exists.intro; refine ⟨fun _ => ?_, hK _ ?_⟩; (first | (with_reducible exact calls_ew (fu _ _ _).out) | (with_reducible exact calls_ew (fi _ _ _).out) | (with_reducible exact calls_ew (fm _ _ _).out) | (with_reducible exact calls_ew (fn _ _).out)); clear hK K))
        refine wpQuiet_nil ?_
        rintro _ ⟨e, rfl⟩
        go_wp2
        go_ret
        exact ⟨rfl, hE.trans e.ext⟩

theorem algebra_any (a b c : Cls) (w : World) (hT : Tab w) (hsz : 0 < w.heap.size) :
    Calls Tryd.prog 7 #[.agg (encA a), .agg (encA b), .agg (encA c)] w fun e w' => e = .returned (.bool true) ∧ Ext w w' :=
  algebra_walk _ _ _ _ _ con_all a b c w hT hsz

end Go.Proofs.YthfmjhicmopclaaDoor
