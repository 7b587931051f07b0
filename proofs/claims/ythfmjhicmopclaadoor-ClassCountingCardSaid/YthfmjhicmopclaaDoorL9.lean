/-
  The walk of ClassCounting.
-/
import Derived.Test.YthfmjhicmopclaaDoorW19
namespace Go.Proofs.YthfmjhicmopclaaDoor
open Go.RowKit Go.Shelf

theorem sz_or_and (a b : Cls) : sz (a ||| b) + sz (a &&& b) = sz a + sz b := by
  have h1 : sz (a ||| b) = sz a + sz (b &&& ~~~a) := by
    unfold sz
    refine cnt_or _ _ _ 256 fun j hj => ?_
    simp only [BitVec.getLsbD_or, BitVec.getLsbD_and, BitVec.getLsbD_not, hj, decide_true, Bool.true_and]
    cases a.getLsbD j <;> cases b.getLsbD j <;> rfl
  have h2 := sz_split a b
  rw [BitVec.and_comm b a] at h2
  omega
theorem sz_not (a : Cls) : sz a + sz (~~~a) = 256 := by
  have h := sz_or_and a (~~~a)
  have h1 : a &&& ~~~a = 0#256 := by simp
  have h2 : a ||| ~~~a = allC := by unfold allC; simp
  rw [h1, h2, sz_zero, sz_all] at h
  omega
theorem sz_minus (a b : Cls) : (sz (a &&& ~~~b) : Int) = sz a - sz (a &&& b) := by
  have := sz_split b a
  omega

set_option maxRecDepth 100000 in
theorem counting_any (a b : Cls) (w : World) (hT : Tab w) (hsz : 0 < w.heap.size) :
    Calls Tryd.prog 9 #[.agg (encA a), .agg (encA b)] w fun e w' => e = .returned (.bool true) ∧ Ext w w' := by
  have hS := fun W hT hs => Lib.hid (sanity_any W hT hs)
  have f25 := fun (W : World) => Lib.hid (union_any a b W)
  have f27 := fun (W : World) => Lib.hid (inter_any a b W)
  have f29 := fun (W : World) => Lib.hid (minus_any a b W)
  have f31 := fun (W : World) => Lib.hid (not_any a W)
  have s1 := fun (W : World) => Lib.hid (size_any (a ||| b) W)
  have s2 := fun (W : World) => Lib.hid (size_any (a &&& b) W)
  have s3 := fun (W : World) => Lib.hid (size_any (a &&& ~~~b) W)
  have s4 := fun (W : World) => Lib.hid (size_any (~~~a) W)
  have s5 := fun (W : World) => Lib.hid (size_any a W)
  have s6 := fun (W : World) => Lib.hid (size_any b W)
  have b1 := Lib.hid (sz_le (a ||| b)); have b2 := Lib.hid (sz_le (a &&& b)); have b3 := Lib.hid (sz_le (a &&& ~~~b)); have b4 := Lib.hid (sz_le (~~~a)); have b5 := Lib.hid (sz_le a); have b6 := Lib.hid (sz_le b)
  have e1 := Lib.hid (sz_or_and a b); have e2 := Lib.hid (sz_not a); have e3 := Lib.hid (sz_minus a b)
  generalize sz (a ||| b) = n1 at *
  generalize sz (a &&& b) = n2 at *
  generalize sz (a &&& ~~~b) = n3 at *
  generalize sz (~~~a) = n4 at *
  generalize sz a = n5 at *
  generalize sz b = n6 at *
  generalize a ||| b = c1 at *
  generalize a &&& b = c2 at *
  generalize a &&& ~~~b = c3 at *
  generalize ~~~a = c4 at *
  have w1 : IntKind.i64.wrap ((n1 : Int) + n2) = (n1 : Int) + n2 := IntWalk.i64_in _ ⟨by have := b1.out; omega, by have := b1.out; have := b2.out; omega⟩
  have w2 : IntKind.i64.wrap ((n5 : Int) + n6) = (n5 : Int) + n6 := IntWalk.i64_in _ ⟨by have := b1.out; omega, by have := b5.out; have := b6.out; omega⟩
  have w3 : IntKind.i64.wrap ((n5 : Int) + n4) = (n5 : Int) + n4 := IntWalk.i64_in _ ⟨by have := b1.out; omega, by have := b5.out; have := b4.out; omega⟩
  have w4 : IntKind.i64.wrap ((n5 : Int) - n2) = (n5 : Int) - n2 := IntWalk.i64_in _ ⟨by have := b2.out; omega, by have := b5.out; omega⟩
  have q1 : ((n1 : Int) + n2 == (n5 : Int) + n6) = true := by have := e1.out; simp; omega
  have q2 : ((n5 : Int) + n4 == 256) = true := by have := e2.out; simp; omega
  have q3 : ((n3 : Int) == (n5 : Int) - n2) = true := by have := e3.out; simp; omega
  clear b1 b2 b3 b4 b5 b6 e1 e2 e3
  go_enter Tryd.func9, Tryd.ntmps9
  have hE0 := ((Ext.refl w).alloc (.cells (encA a) 30)).alloc (.cells (encA b) 30)
  go_upto_region 2 with (go_at_call 13; refine (hS _ (hT.below hE0.below hsz) (by have := hE0.size; omega)).out.mono ?_; rintro e w1 ⟨rfl, hE1⟩)
  have hE := hE0.trans hE1
  obtain ⟨x0, x1, x2, x3⟩ := ew_cells (hE1.heap (heap_alloc_keep (heap_alloc_at w (.cells (encA a) 30)) (.cells (encA b) 30)))
  have hb2 := heap_alloc_at (w.alloc (.cells (encA a) 30)) (.cells (encA b) 30)
  rw [World.size_alloc] at hb2
  obtain ⟨y0, y1, y2, y3⟩ := ew_cells (hE1.heap hb2)
  clear hS hb2 hE0
  refine region_ew (by kernel_rfl) (by kernel_rfl) ?_
  iterate 42 (refine wpQuiet_step (fun K hK => ?_); go_simp; first | (refine hK _ ?_; clear hK K) | (apply Exists.intro; refine ⟨fun _ => ?_, hK _ ?_⟩; (first | (with_reducible exact calls_ew (f25 _).out) | (with_reducible exact calls_ew (f27 _).out) | (with_reducible exact calls_ew (f29 _).out) | (with_reducible exact calls_ew (f31 _).out) | (with_reducible exact calls_ew (s1 _).out) | (with_reducible exact calls_ew (s2 _).out) | (with_reducible exact calls_ew (s3 _).out) | (with_reducible exact calls_ew (s4 _).out) | (with_reducible exact calls_ew (s5 _).out) | (with_reducible exact calls_ew (s6 _).out)); clear hK K))
  refine wpQuiet_nil ?_
  rintro _ ⟨e, rfl⟩
  go_wp2
  go_ret
  exact ⟨rfl, hE.trans e.ext⟩

end Go.Proofs.YthfmjhicmopclaaDoor
