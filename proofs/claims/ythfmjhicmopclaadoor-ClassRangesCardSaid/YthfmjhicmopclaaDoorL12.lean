/-
  The walk of ClassRanges.
-/
import Derived.Test.YthfmjhicmopclaaDoorW19
namespace Go.Proofs.YthfmjhicmopclaaDoor
open Go.RowKit Go.Shelf

theorem rngC_at (lo hi i : Nat) (hhi : hi < 256) (hi' : i < 256) : (rngC lo hi).getLsbD i = (decide (lo ≤ i) && decide (i ≤ hi)) := by
  unfold rngC
  rw [getLsbD_filtB _ _ _ (by omega)]
  by_cases h1 : lo ≤ i <;> by_cases h2 : i ≤ hi <;> simp [h1, h2] <;> omega
theorem rng_cnt (lo hi n : Nat) : cnt (fun i => decide (lo ≤ i) && decide (i ≤ hi)) n = min n (hi + 1) - lo := by
  induction n with
  | zero => simp [cnt]
  | succ n ih =>
    simp only [cnt, ih]
    by_cases h1 : lo ≤ n <;> by_cases h2 : n ≤ hi <;> simp [h1, h2] <;> omega
theorem rng_sz (lo hi : Nat) (hhi : hi < 256) : sz (rngC lo hi) = hi + 1 - lo := by
  unfold sz
  rw [cnt_congr _ _ 256 (fun i h => rngC_at lo hi i hhi h), rng_cnt]
  omega
theorem headI_of (c : Cls) (k : Nat) (hk : k < 256) (h : c.getLsbD k = true) (hmin : ∀ j, j < k → c.getLsbD j = false) : headI (bytesTo c 256) = k := by
  have h0 : bytesTo c k = [] := bytesTo_skip c 0 k (Nat.zero_le _) (fun j _ hj => hmin j hj)
  have h1 : bytesTo c (k + 1) = [UInt8.ofNat k] := by simp only [bytesTo]; rw [if_pos h, h0]; rfl
  obtain ⟨t, ht⟩ := bytesTo_prefix c (k + 1) 256 (by omega)
  rw [← ht, h1]
  simp only [headI, List.singleton_append]
  rw [u8n k hk]
theorem rng_least (lo hi : Nat) (hhi : hi < 256) (h : lo ≤ hi) : headI (bytesTo (rngC lo hi) 256) = lo :=
  headI_of _ lo (by omega) (by rw [rngC_at lo hi lo hhi (by omega)]; simp [h]) (fun j hj => by rw [rngC_at lo hi j hhi (by omega)]; simp; omega)
theorem rng_union (lo x hi : Nat) (hhi : hi < 256) (h1 : lo ≤ x) (h2 : x ≤ hi) : (rngC lo x ||| rngC x hi == rngC lo hi) = true := by
  have : rngC lo x ||| rngC x hi = rngC lo hi := by
    apply BitVec.eq_of_getLsbD_eq
    intro i hi'
    rw [BitVec.getLsbD_or, rngC_at lo x i (by omega) hi', rngC_at x hi i hhi hi', rngC_at lo hi i hhi hi']
    by_cases a : lo ≤ i <;> by_cases b : i ≤ x <;> by_cases c : x ≤ i <;> by_cases d : i ≤ hi <;> simp [a, b, c, d] <;> omega
  rw [this]; simp
theorem ofL_one (x : UInt8) (i : Nat) (hi : i < 256) : (ofL [x]).getLsbD i = decide (i = x.toNat) := by
  have hx := x.toNat_lt
  simp only [ofL, List.foldl_cons, List.foldl_nil, addB, BitVec.getLsbD_or, BitVec.getLsbD_zero, Bool.false_or, BitVec.getLsbD_twoPow]
  by_cases h : i = x.toNat
  · subst h; simp [hx]
  · simp [h, Ne.symm h]
theorem rng_inter (lo x hi : Nat) (hhi : hi < 256) (h1 : lo ≤ x) (h2 : x ≤ hi) : (rngC lo x &&& rngC x hi == ofL [UInt8.ofNat x]) = true := by
  have : rngC lo x &&& rngC x hi = ofL [UInt8.ofNat x] := by
    apply BitVec.eq_of_getLsbD_eq
    intro i hi'
    rw [BitVec.getLsbD_and, rngC_at lo x i (by omega) hi', rngC_at x hi i hhi hi', ofL_one _ i hi', u8n x (by omega)]
    by_cases a : lo ≤ i <;> by_cases b : i ≤ x <;> by_cases c : x ≤ i <;> by_cases d : i ≤ hi <;> by_cases e : i = x <;> simp [a, b, c, d, e] <;> omega
  rw [this]; simp
theorem eq_of' (c d : Cls) (h : (c == d) = true) (W : World) : (Op.equalIn 10000 30 (.agg (encA c)) (.agg (encA d))).run Tryd.prog W = .ok true W := by
  rw [run_eq30, h]
theorem o_1 (x : Nat) (hx : x < 256) (W : World) : Calls Tryd.prog 21 #[.slice (some ⟨W.heap.size, 0, none⟩) 1 1] (W.alloc (.cells #[.int .u8 (x : Int)] 5)) fun e w' => e = .returned (.agg (encA (ofL [UInt8.ofNat x]))) ∧ Ext (W.alloc (.cells #[.int .u8 (x : Int)] 5)) w' := by
  have h := of_any [UInt8.ofNat x] _ _ (by_lit W [UInt8.ofNat x] (0, 0) (by simp))
  rw [show ([UInt8.ofNat x].map bv).toArray = #[.int .u8 (x : Int)] by simp only [List.map_cons, List.map_nil, bv]; rw [u8n x hx]] at h
  exact h

set_option maxRecDepth 100000 in
theorem ranges_in (lo hi x : Nat) (hlo : lo < 256) (hhi : hi < 256) (hx : x < 256) (h1 : lo ≤ x) (h2 : x ≤ hi) (w : World) (hT : Tab w) (hsz : 0 < w.heap.size) :
    Calls Tryd.prog 12 #[.int .u8 (lo : Int), .int .u8 (hi : Int), .int .u8 (x : Int)] w fun e w' => e = .returned (.bool true) ∧ Ext w w' := by
  have hS := fun W hT hs => Lib.hid (sanity_any W hT hs)
  have f36 := fun W => Lib.hid (range_any lo hi hlo hhi W)
  have f20 := fun W => Lib.hid (h_any (rngC lo hi) (x : Int) (by omega) (by omega) true (by unfold memB; rw [Int.toNat_natCast, rngC_at lo hi x hhi hx]; simp; omega) W)
  have f22 := fun W => Lib.hid (s_any (rngC lo hi) (max 0 ((hi : Int) - lo + 1)) (by rw [rng_sz lo hi hhi]; omega) W)
  have f36a := fun W => Lib.hid (range_any lo x hlo hx W)
  have f36b := fun W => Lib.hid (range_any x hi hx hhi W)
  have f25 := fun W => Lib.hid (union_any (rngC lo x) (rngC x hi) W)
  have f27 := fun W => Lib.hid (inter_any (rngC lo x) (rngC x hi) W)
  have f21 := fun W => Lib.hid (o_1 x hx W)
  have f23 := fun W hE => Lib.hid (l_any (rngC lo hi) (lo : Int) (rng_least lo hi hhi (by omega)) W w hT hsz hE)
  have g1 := eq_of' _ _ (rng_union lo x hi hhi h1 h2)
  have g2 := eq_of' _ _ (rng_inter lo x hi hhi h1 h2)
  have g3 := gt30
  have d1 : decide ((lo : Int) ≤ (x : Int)) = true := by simp; omega
  have d2 : decide ((x : Int) ≤ (hi : Int)) = true := by simp; omega
  have w1 : IntKind.i64.wrap ((hi : Int) - lo) = (hi : Int) - lo := IntWalk.i64_in _ ⟨by omega, by omega⟩
  have w2 : IntKind.i64.wrap ((hi : Int) - lo + 1) = (hi : Int) - lo + 1 := IntWalk.i64_in _ ⟨by omega, by omega⟩
  have w3 : IntKind.i64.wrap (hi : Int) = hi := IntWalk.i64_in _ ⟨by omega, by omega⟩
  have w4 : IntKind.i64.wrap (lo : Int) = lo := IntWalk.i64_in _ ⟨by omega, by omega⟩
  generalize rngC lo x ||| rngC x hi = c1 at *
  generalize rngC lo x &&& rngC x hi = c2 at *
  generalize rngC lo x = c3 at *
  generalize rngC x hi = c4 at *
  generalize ofL [UInt8.ofNat x] = c5 at *
  generalize rngC lo hi = c at *
  go_enter Tryd.func12, Tryd.ntmps12
  go_upto_region 3 with (first
    | (go_at_call 13; with_reducible refine (hS _ hT hsz).out.mono ?_; rintro e w1 ⟨rfl, hE1⟩)
    | (go_at_call 36; with_reducible refine (f36 _).out.mono ?_; rintro e w2 ⟨rfl, hE2⟩))
  have hE := (hE1.trans hE2).alloc (.cells (encA c) 30)
  have H8 := Lib.hid (heap_alloc_at w2 (.cells (encA c) 30))
  generalize w2.alloc (.cells (encA c) 30) = wb at *
  obtain ⟨x0, x1, x2, x3⟩ := ew_cells H8.out
  obtain ⟨e0, he0⟩ := ew_start wb
  rw [he0]
  clear he0 hE1 hE2 hS
  go_upto_region 7 with (first
    | (go_at_call 20; with_reducible refine (f20 _).out.mono ?_; rintro e w' ⟨rfl, hE'⟩; obtain ⟨e', rfl⟩ := ew_next hE')
    | (go_at_call 22; with_reducible refine (f22 _).out.mono ?_; rintro e w' ⟨rfl, hE'⟩; obtain ⟨e', rfl⟩ := ew_next hE'))
  go_upto_region 8 with (first
    | (go_at_call 36; with_reducible refine (f36a _).out.mono ?_; rintro e w' ⟨rfl, hE'⟩; obtain ⟨e', rfl⟩ := ew_next hE')
    | (go_at_call 36; with_reducible refine (f36b _).out.mono ?_; rintro e w' ⟨rfl, hE'⟩; obtain ⟨e', rfl⟩ := ew_next hE')
    | (go_at_call 25; with_reducible refine (f25 _).out.mono ?_; rintro e w' ⟨rfl, hE'⟩; obtain ⟨e', rfl⟩ := ew_next hE'))
  have hEb := hE.trans (e'.ext.alloc (.cells (encA c1) 30))
  have H8b := Lib.hid ((e'.ext.alloc (.cells (encA c1) 30)).heap H8.out)
  have H9 := Lib.hid (heap_alloc_at e'.W (.cells (encA c1) 30))
  clear hE x0 x1 x2 x3
  generalize e'.W.alloc (.cells (encA c1) 30) = wc at *
  obtain ⟨x0, x1, x2, x3⟩ := ew_cells H8b.out
  obtain ⟨y0, y1, y2, y3⟩ := ew_cells H9.out
  obtain ⟨e0, he0⟩ := ew_start wc
  rw [he0]
  clear he0
  have f23' := fun e : EW wc => f23 e.W (hEb.trans e.ext)
  clear f23
  go_wp2_with (first
    | (go_at_call 36; with_reducible refine (f36a _).out.mono ?_; rintro e w' ⟨rfl, hE'⟩; obtain ⟨e', rfl⟩ := ew_next hE')
    | (go_at_call 36; with_reducible refine (f36b _).out.mono ?_; rintro e w' ⟨rfl, hE'⟩; obtain ⟨e', rfl⟩ := ew_next hE')
    | (go_at_call 27; with_reducible refine (f27 _).out.mono ?_; rintro e w' ⟨rfl, hE'⟩; obtain ⟨e', rfl⟩ := ew_next hE')
    | (go_at_call 21; with_reducible refine (f21 _).out.mono ?_; rintro e w' ⟨rfl, hE'⟩; obtain ⟨e', rfl⟩ := ew_next1 hE')
    | (go_at_call 23; with_reducible refine (f23' _).out.mono ?_; rintro e w' ⟨rfl, hE'⟩; obtain ⟨e', rfl⟩ := ew_next hE'))
  go_ret
  exact ⟨rfl, hEb.trans e'.ext⟩

set_option maxRecDepth 100000 in
theorem ranges_gt (lo hi x : Nat) (hlo : lo < 256) (hhi : hi < 256) (hx : x < 256) (h1 : lo ≤ x) (h2 : hi < x) (w : World) (hT : Tab w) (hsz : 0 < w.heap.size) :
    Calls Tryd.prog 12 #[.int .u8 (lo : Int), .int .u8 (hi : Int), .int .u8 (x : Int)] w fun e w' => e = .returned (.bool true) ∧ Ext w w' := by
  have hS := fun W hT hs => Lib.hid (sanity_any W hT hs)
  have f36 := fun W => Lib.hid (range_any lo hi hlo hhi W)
  have f20 := fun W => Lib.hid (h_any (rngC lo hi) (x : Int) (by omega) (by omega) false (by unfold memB; rw [Int.toNat_natCast, rngC_at lo hi x hhi hx]; simp; omega) W)
  have f22 := fun W => Lib.hid (s_any (rngC lo hi) (max 0 ((hi : Int) - lo + 1)) (by rw [rng_sz lo hi hhi]; omega) W)
  have d1 : decide ((lo : Int) ≤ (x : Int)) = true := by simp; omega
  have d2 : decide ((x : Int) ≤ (hi : Int)) = false := by simp; omega
  have w1 : IntKind.i64.wrap ((hi : Int) - lo) = (hi : Int) - lo := IntWalk.i64_in _ ⟨by omega, by omega⟩
  have w2 : IntKind.i64.wrap ((hi : Int) - lo + 1) = (hi : Int) - lo + 1 := IntWalk.i64_in _ ⟨by omega, by omega⟩
  have w3 : IntKind.i64.wrap (hi : Int) = hi := IntWalk.i64_in _ ⟨by omega, by omega⟩
  have w4 : IntKind.i64.wrap (lo : Int) = lo := IntWalk.i64_in _ ⟨by omega, by omega⟩
  generalize rngC lo hi = c at *
  go_enter Tryd.func12, Tryd.ntmps12
  go_upto_region 3 with (first
    | (go_at_call 13; with_reducible refine (hS _ hT hsz).out.mono ?_; rintro e w1 ⟨rfl, hE1⟩)
    | (go_at_call 36; with_reducible refine (f36 _).out.mono ?_; rintro e w2 ⟨rfl, hE2⟩))
  have hE := (hE1.trans hE2).alloc (.cells (encA c) 30)
  have H8 := Lib.hid (heap_alloc_at w2 (.cells (encA c) 30))
  generalize w2.alloc (.cells (encA c) 30) = wb at *
  obtain ⟨x0, x1, x2, x3⟩ := ew_cells H8.out
  obtain ⟨e0, he0⟩ := ew_start wb
  rw [he0]
  clear he0 hE1 hE2 hS
  go_wp2_with (first
    | (go_at_call 20; with_reducible refine (f20 _).out.mono ?_; rintro e w' ⟨rfl, hE'⟩; obtain ⟨e', rfl⟩ := ew_next hE')
    | (go_at_call 22; with_reducible refine (f22 _).out.mono ?_; rintro e w' ⟨rfl, hE'⟩; obtain ⟨e', rfl⟩ := ew_next hE'))
  go_ret
  exact ⟨rfl, hE.trans e'.ext⟩

set_option maxRecDepth 100000 in
theorem ranges_lt (lo hi x : Nat) (hlo : lo < 256) (hhi : hi < 256) (hx : x < 256) (h1 : x < lo) (w : World) (hT : Tab w) (hsz : 0 < w.heap.size) :
    Calls Tryd.prog 12 #[.int .u8 (lo : Int), .int .u8 (hi : Int), .int .u8 (x : Int)] w fun e w' => e = .returned (.bool true) ∧ Ext w w' := by
  have hS := fun W hT hs => Lib.hid (sanity_any W hT hs)
  have f36 := fun W => Lib.hid (range_any lo hi hlo hhi W)
  have f20 := fun W => Lib.hid (h_any (rngC lo hi) (x : Int) (by omega) (by omega) false (by unfold memB; rw [Int.toNat_natCast, rngC_at lo hi x hhi hx]; simp; omega) W)
  have f22 := fun W => Lib.hid (s_any (rngC lo hi) (max 0 ((hi : Int) - lo + 1)) (by rw [rng_sz lo hi hhi]; omega) W)
  have d1 : decide ((lo : Int) ≤ (x : Int)) = false := by simp; omega
  have w1 : IntKind.i64.wrap ((hi : Int) - lo) = (hi : Int) - lo := IntWalk.i64_in _ ⟨by omega, by omega⟩
  have w2 : IntKind.i64.wrap ((hi : Int) - lo + 1) = (hi : Int) - lo + 1 := IntWalk.i64_in _ ⟨by omega, by omega⟩
  have w3 : IntKind.i64.wrap (hi : Int) = hi := IntWalk.i64_in _ ⟨by omega, by omega⟩
  have w4 : IntKind.i64.wrap (lo : Int) = lo := IntWalk.i64_in _ ⟨by omega, by omega⟩
  generalize rngC lo hi = c at *
  go_enter Tryd.func12, Tryd.ntmps12
  go_upto_region 3 with (first
    | (go_at_call 13; with_reducible refine (hS _ hT hsz).out.mono ?_; rintro e w1 ⟨rfl, hE1⟩)
    | (go_at_call 36; with_reducible refine (f36 _).out.mono ?_; rintro e w2 ⟨rfl, hE2⟩))
  have hE := (hE1.trans hE2).alloc (.cells (encA c) 30)
  have H8 := Lib.hid (heap_alloc_at w2 (.cells (encA c) 30))
  generalize w2.alloc (.cells (encA c) 30) = wb at *
  obtain ⟨x0, x1, x2, x3⟩ := ew_cells H8.out
  obtain ⟨e0, he0⟩ := ew_start wb
  rw [he0]
  clear he0 hE1 hE2 hS
  go_wp2_with (first
    | (go_at_call 20; with_reducible refine (f20 _).out.mono ?_; rintro e w' ⟨rfl, hE'⟩; obtain ⟨e', rfl⟩ := ew_next hE')
    | (go_at_call 22; with_reducible refine (f22 _).out.mono ?_; rintro e w' ⟨rfl, hE'⟩; obtain ⟨e', rfl⟩ := ew_next hE'))
  go_ret
  exact ⟨rfl, hE.trans e'.ext⟩

theorem ranges_any (lo hi x : Nat) (hlo : lo < 256) (hhi : hi < 256) (hx : x < 256) (w : World) (hT : Tab w) (hsz : 0 < w.heap.size) :
    Calls Tryd.prog 12 #[.int .u8 (lo : Int), .int .u8 (hi : Int), .int .u8 (x : Int)] w fun e w' => e = .returned (.bool true) ∧ Ext w w' := by
  by_cases h1 : lo ≤ x
  · by_cases h2 : x ≤ hi
    · exact ranges_in lo hi x hlo hhi hx h1 h2 w hT hsz
    · exact ranges_gt lo hi x hlo hhi hx h1 (by omega) w hT hsz
  · exact ranges_lt lo hi x hlo hhi hx (by omega) w hT hsz

end Go.Proofs.YthfmjhicmopclaaDoor
