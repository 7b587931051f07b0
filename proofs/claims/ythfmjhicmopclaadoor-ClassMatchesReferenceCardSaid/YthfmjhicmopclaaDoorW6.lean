/-
  The walks of the reference's Union, Intersect, Not, Minus.
-/
import Derived.Test.YthfmjhicmopclaaDoorW5
namespace Go.Proofs.YthfmjhicmopclaaDoor
open Go.RowKit Go.Shelf

set_option maxRecDepth 100000 in
theorem runion_any (a b : Cls) (w : World) :
    Calls Tryd.prog 26 #[.agg (encA a), .agg (encA b)] w fun e w' => e = .returned (.agg (encA (a ||| b))) ∧ Ext w w' := by
  go_enter Tryd.func26, Tryd.ntmps26
  go_wp2_with (fail)
  go_loopw [6] (fun i W => ∃ k : Nat, k ≤ 256 ∧ i = .int .i64 k ∧ Ext w W ∧ W.heap[w.heap.size]? = some (.cells (encA a) 30 (0, 0)) ∧ W.heap[w.heap.size + 1]? = some (.cells (encA b) 30 (0, 0)) ∧
      W.heap[w.heap.size + 1 + 1]? = some (.cells zA 30 (0, 0)) ∧ W.heap[w.heap.size + 1 + 1 + 1]? = some (.cells (encA (filtB (fun i => memB a i || memB b i) k)) 30 (0, 0)))
    (fun i _ => 256 - (intOf i).toNat)
  case atStart =>
    refine ⟨0, by omega, rfl, ((((Ext.refl w).alloc _).alloc _).alloc _).alloc _, ?_, ?_, ?_, ?_⟩
    · exact heap_alloc_keep (heap_alloc_keep (heap_alloc_keep (heap_alloc_new w _) _) _) _
    · have h := heap_alloc_keep (heap_alloc_keep (heap_alloc_new (w.alloc (.cells (encA a) 30)) (.cells (encA b) 30)) (.cells zA 30)) (.cells zA 30)
      rwa [World.size_alloc] at h
    · have h := heap_alloc_keep (heap_alloc_new ((w.alloc (.cells (encA a) 30)).alloc (.cells (encA b) 30)) (.cells zA 30)) (.cells zA 30)
      rwa [World.size_alloc, World.size_alloc] at h
    · have h := heap_alloc_new (((w.alloc (.cells (encA a) 30)).alloc (.cells (encA b) 30)).alloc (.cells zA 30)) (.cells zA 30)
      rw [World.size_alloc, World.size_alloc, World.size_alloc] at h
      rwa [show filtB (fun i => memB a i || memB b i) 0 = 0#256 from rfl, encA_zero]
  case round =>
    obtain ⟨k, hk, rfl, hE, hA, hB, hR, hC⟩ := hrel
    have HA := Lib.hid hA
    have HB := Lib.hid hB
    have HC := Lib.hid hC
    have HR := Lib.hid hR
    clear hA hB hC hR
    by_cases hlt : k < 256
    · go_upto_region 5 with (fail)
      have hw : IntKind.u8.wrap (k : Int) = k := IntWalk.u8_in _ ⟨by omega, by omega⟩
      have hHa := fun (W : World) => Lib.hid (rHas_any a (k : Int) (by omega) (by omega) W)
      have hHb := fun (W : World) => Lib.hid (rHas_any b (k : Int) (by omega) (by omega) W)
      obtain ⟨a0, a1, a2, a3⟩ := ew_cells HA.out
      obtain ⟨b0, b1, b2, b3⟩ := ew_cells HB.out
      have HS : Hid (filtB (fun i => memB a i || memB b i) (k + 1) = if memB a (k : Int) || memB b (k : Int) then addB (filtB (fun i => memB a i || memB b i) k) (k : Int) else filtB (fun i => memB a i || memB b i) k) := Lib.hid rfl
      generalize memB a (k : Int) = ma at *
      generalize memB b (k : Int) = mb at *
      go_cut [21] (fun v W => v = .bool (ma || mb) ∧ ∃ e : EW wr, W = e.W)
      case first =>
        refine region_ew_text 10 ?_
        simp only [List.take_succ_cons, List.drop_succ_cons, List.take_nil, List.drop_nil]
        cases ma
        all_goals
          iterate 10 (refine wpQuiet_step (fun K hK => ?_); go_simp; first | (refine hK _ ?_; clear hK K) | (apply Exists.intro; refine ⟨fun _ => ?_, hK _ ?_⟩; (first | (with_reducible exact calls_ew (hHa _).out) | (with_reducible exact calls_ew (hHb _).out)); clear hK K))
          refine wpQuiet_nil ?_
          rintro _ ⟨e, rfl⟩
          refine wpList_nil ?_
          go_wp2
          go_meet
          exact ⟨rfl, e, rfl⟩
      case rest =>
        obtain ⟨rfl, e, rfl⟩ := hcut
        have HA' := Lib.hid (e.ext.heap HA.out)
        have HB' := Lib.hid (e.ext.heap HB.out)
        have HC' := Lib.hid (e.ext.heap HC.out)
        have HR' := Lib.hid (e.ext.heap HR.out)
        have hE' := hE.trans e.ext
        clear a0 a1 a2 a3 b0 b1 b2 b3 hHa hHb HA HB HC HR hE
        generalize e.W = w1 at *
        cases hm : (ma || mb)
        · rw [hm] at HS
          have HS := HS.out
          simp only [Bool.false_eq_true, if_false] at HS
          rw [← HS] at HC'
          clear HS
          go_wp2
          go_roundw
          case rel => exact ⟨k + 1, by omega, by go_num, hE', HA'.out, HB'.out, HR'.out, HC'.out⟩
          case measure => simp [intOf]; omega
        · rw [hm] at HS
          have HS := HS.out
          simp only [if_true] at HS
          have HS := Lib.hid HS
          have hWi := fun (W : World) => Lib.hid (with_any (filtB (fun i => memB a i || memB b i) k) (k : Int) (by omega) (by omega) W)
          go_upto_region 6 with (fail)
          refine region_ew_text 4 ?_
          simp only [List.take_succ_cons, List.take_zero, List.drop_succ_cons, List.drop_zero]
          obtain ⟨c0, c1, c2, c3⟩ := ew_cells HC'.out
          iterate 4 (refine wpQuiet_step (fun K hK => ?_); go_simp; first | (refine hK _ ?_; clear hK K) | (apply Exists.intro; refine ⟨fun _ => ?_, hK _ ?_⟩; (with_reducible exact calls_ew (hWi _).out); clear hK K))
          refine wpQuiet_nil ?_
          rintro _ ⟨e, rfl⟩
          clear c0 c1 c2 c3 hWi
          go_wp2_with (refine wpList_store_row rfl 30 _ _ rfl _ _ rfl rfl _ _ (e.ext.heap HC'.out) info30 rfl (encA_one _) ?_)
          go_roundw
          case rel => exact ⟨k + 1, by omega, by go_num, (hE'.trans e.ext).setRow (by omega) _, heap_setRow_keep (e.ext.heap HA'.out) (by omega) _, heap_setRow_keep (e.ext.heap HB'.out) (by omega) _, heap_setRow_keep (e.ext.heap HR'.out) (by omega) _, (by rw [HS.out]; exact setRow_heap _ _ _ _ _ _ (e.ext.heap HC'.out))⟩
          case measure => simp [intOf]; omega
    · obtain rfl : k = 256 := by omega
      rw [filtB_all (fun i => memB a i || memB b i) (a ||| b) (fun i hi => (BitVec.getLsbD_or).symm)] at HC
      go_wp2_with (first
        | (refine wpList_load_row rfl 30 (.tmp 5) rfl _ rfl _ _ _ _ HC.out Tryd.underlying30 rfl info30 ?_)
        | (refine wpList_store_row rfl 30 _ _ rfl _ _ rfl rfl _ _ HR.out info30 rfl (encA_one _) ?_))
      refine bodyPost_ret (v := .agg (encA (a ||| b))) (results_cell_row rfl _ _ _ _ _ _ _ rfl (setRow_heap wr _ _ (encA (a ||| b)) 30 (0, 0) HR.out) Tryd.underlying30 rfl info30) rfl ?_
      exact ⟨rfl, hE.setRow (by omega) _⟩

set_option maxRecDepth 100000 in
theorem rinter_any (a b : Cls) (w : World) :
    Calls Tryd.prog 28 #[.agg (encA a), .agg (encA b)] w fun e w' => e = .returned (.agg (encA (a &&& b))) ∧ Ext w w' := by
  go_enter Tryd.func28, Tryd.ntmps28
  go_wp2_with (fail)
  go_loopw [6] (fun i W => ∃ k : Nat, k ≤ 256 ∧ i = .int .i64 k ∧ Ext w W ∧ W.heap[w.heap.size]? = some (.cells (encA a) 30 (0, 0)) ∧ W.heap[w.heap.size + 1]? = some (.cells (encA b) 30 (0, 0)) ∧
      W.heap[w.heap.size + 1 + 1]? = some (.cells zA 30 (0, 0)) ∧ W.heap[w.heap.size + 1 + 1 + 1]? = some (.cells (encA (filtB (fun i => memB a i && memB b i) k)) 30 (0, 0)))
    (fun i _ => 256 - (intOf i).toNat)
  case atStart =>
    refine ⟨0, by omega, rfl, ((((Ext.refl w).alloc _).alloc _).alloc _).alloc _, ?_, ?_, ?_, ?_⟩
    · exact heap_alloc_keep (heap_alloc_keep (heap_alloc_keep (heap_alloc_new w _) _) _) _
    · have h := heap_alloc_keep (heap_alloc_keep (heap_alloc_new (w.alloc (.cells (encA a) 30)) (.cells (encA b) 30)) (.cells zA 30)) (.cells zA 30)
      rwa [World.size_alloc] at h
    · have h := heap_alloc_keep (heap_alloc_new ((w.alloc (.cells (encA a) 30)).alloc (.cells (encA b) 30)) (.cells zA 30)) (.cells zA 30)
      rwa [World.size_alloc, World.size_alloc] at h
    · have h := heap_alloc_new (((w.alloc (.cells (encA a) 30)).alloc (.cells (encA b) 30)).alloc (.cells zA 30)) (.cells zA 30)
      rw [World.size_alloc, World.size_alloc, World.size_alloc] at h
      rwa [show filtB (fun i => memB a i && memB b i) 0 = 0#256 from rfl, encA_zero]
  case round =>
    obtain ⟨k, hk, rfl, hE, hA, hB, hR, hC⟩ := hrel
    have HA := Lib.hid hA
    have HB := Lib.hid hB
    have HC := Lib.hid hC
    have HR := Lib.hid hR
    clear hA hB hC hR
    by_cases hlt : k < 256
    · go_upto_region 5 with (fail)
      have hw : IntKind.u8.wrap (k : Int) = k := IntWalk.u8_in _ ⟨by omega, by omega⟩
      have hHa := fun (W : World) => Lib.hid (rHas_any a (k : Int) (by omega) (by omega) W)
      have hHb := fun (W : World) => Lib.hid (rHas_any b (k : Int) (by omega) (by omega) W)
      obtain ⟨a0, a1, a2, a3⟩ := ew_cells HA.out
      obtain ⟨b0, b1, b2, b3⟩ := ew_cells HB.out
      have HS : Hid (filtB (fun i => memB a i && memB b i) (k + 1) = if memB a (k : Int) && memB b (k : Int) then addB (filtB (fun i => memB a i && memB b i) k) (k : Int) else filtB (fun i => memB a i && memB b i) k) := Lib.hid rfl
      generalize memB a (k : Int) = ma at *
      generalize memB b (k : Int) = mb at *
      go_cut [21] (fun v W => v = .bool (ma && mb) ∧ ∃ e : EW wr, W = e.W)
      case first =>
        refine region_ew_text 10 ?_
        simp only [List.take_succ_cons, List.drop_succ_cons, List.take_nil, List.drop_nil]
        cases ma
        all_goals
          iterate 10 (refine wpQuiet_step (fun K hK => ?_); go_simp; first | (refine hK _ ?_; clear hK K) | (apply Exists.intro; refine ⟨fun _ => ?_, hK _ ?_⟩; (first | (with_reducible exact calls_ew (hHa _).out) | (with_reducible exact calls_ew (hHb _).out)); clear hK K))
          refine wpQuiet_nil ?_
          rintro _ ⟨e, rfl⟩
          refine wpList_nil ?_
          go_wp2
          go_meet
          exact ⟨rfl, e, rfl⟩
      case rest =>
        obtain ⟨rfl, e, rfl⟩ := hcut
        have HA' := Lib.hid (e.ext.heap HA.out)
        have HB' := Lib.hid (e.ext.heap HB.out)
        have HC' := Lib.hid (e.ext.heap HC.out)
        have HR' := Lib.hid (e.ext.heap HR.out)
        have hE' := hE.trans e.ext
        clear a0 a1 a2 a3 b0 b1 b2 b3 hHa hHb HA HB HC HR hE
        generalize e.W = w1 at *
        cases hm : (ma && mb)
        · rw [hm] at HS
          have HS := HS.out
          simp only [Bool.false_eq_true, if_false] at HS
          rw [← HS] at HC'
          clear HS
          go_wp2
          go_roundw
          case rel => exact ⟨k + 1, by omega, by go_num, hE', HA'.out, HB'.out, HR'.out, HC'.out⟩
          case measure => simp [intOf]; omega
        · rw [hm] at HS
          have HS := HS.out
          simp only [if_true] at HS
          have HS := Lib.hid HS
          have hWi := fun (W : World) => Lib.hid (with_any (filtB (fun i => memB a i && memB b i) k) (k : Int) (by omega) (by omega) W)
          go_upto_region 6 with (fail)
          refine region_ew_text 4 ?_
          simp only [List.take_succ_cons, List.take_zero, List.drop_succ_cons, List.drop_zero]
          obtain ⟨c0, c1, c2, c3⟩ := ew_cells HC'.out
          iterate 4 (refine wpQuiet_step (fun K hK => ?_); go_simp; first | (refine hK _ ?_; clear hK K) | (apply Exists.intro; refine ⟨fun _ => ?_, hK _ ?_⟩; (with_reducible exact calls_ew (hWi _).out); clear hK K))
          refine wpQuiet_nil ?_
          rintro _ ⟨e, rfl⟩
          clear c0 c1 c2 c3 hWi
          go_wp2_with (refine wpList_store_row rfl 30 _ _ rfl _ _ rfl rfl _ _ (e.ext.heap HC'.out) info30 rfl (encA_one _) ?_)
          go_roundw
          case rel => exact ⟨k + 1, by omega, by go_num, (hE'.trans e.ext).setRow (by omega) _, heap_setRow_keep (e.ext.heap HA'.out) (by omega) _, heap_setRow_keep (e.ext.heap HB'.out) (by omega) _, heap_setRow_keep (e.ext.heap HR'.out) (by omega) _, (by rw [HS.out]; exact setRow_heap _ _ _ _ _ _ (e.ext.heap HC'.out))⟩
          case measure => simp [intOf]; omega
    · obtain rfl : k = 256 := by omega
      rw [filtB_all (fun i => memB a i && memB b i) (a &&& b) (fun i hi => (BitVec.getLsbD_and).symm)] at HC
      go_wp2_with (first
        | (refine wpList_load_row rfl 30 (.tmp 5) rfl _ rfl _ _ _ _ HC.out Tryd.underlying30 rfl info30 ?_)
        | (refine wpList_store_row rfl 30 _ _ rfl _ _ rfl rfl _ _ HR.out info30 rfl (encA_one _) ?_))
      refine bodyPost_ret (v := .agg (encA (a &&& b))) (results_cell_row rfl _ _ _ _ _ _ _ rfl (setRow_heap wr _ _ (encA (a &&& b)) 30 (0, 0) HR.out) Tryd.underlying30 rfl info30) rfl ?_
      exact ⟨rfl, hE.setRow (by omega) _⟩

set_option maxRecDepth 100000 in
theorem rnot_any (a : Cls) (w : World) :
    Calls Tryd.prog 32 #[.agg (encA a)] w fun e w' => e = .returned (.agg (encA (~~~a))) ∧ Ext w w' := by
  go_enter Tryd.func32, Tryd.ntmps32
  go_wp2_with (fail)
  go_loopw [4] (fun i W => ∃ k : Nat, k ≤ 256 ∧ i = .int .i64 k ∧ Ext w W ∧ W.heap[w.heap.size]? = some (.cells (encA a) 30 (0, 0)) ∧
      W.heap[w.heap.size + 1]? = some (.cells zA 30 (0, 0)) ∧ W.heap[w.heap.size + 1 + 1]? = some (.cells (encA (filtB (fun i => !memB a i) k)) 30 (0, 0)))
    (fun i _ => 256 - (intOf i).toNat)
  case atStart =>
    refine ⟨0, by omega, rfl, (((Ext.refl w).alloc _).alloc _).alloc _, ?_, ?_, ?_⟩
    · exact heap_alloc_keep (heap_alloc_keep (heap_alloc_new w _) _) _
    · have h := heap_alloc_keep (heap_alloc_new (w.alloc (.cells (encA a) 30)) (.cells zA 30)) (.cells zA 30)
      rwa [World.size_alloc] at h
    · have h := heap_alloc_new ((w.alloc (.cells (encA a) 30)).alloc (.cells zA 30)) (.cells zA 30)
      rw [World.size_alloc, World.size_alloc] at h
      rwa [show filtB (fun i => !memB a i) 0 = 0#256 from rfl, encA_zero]
  case round =>
    obtain ⟨k, hk, rfl, hE, hA, hR, hC⟩ := hrel
    have HA := Lib.hid hA
    have HC := Lib.hid hC
    have HR := Lib.hid hR
    clear hA hC hR
    by_cases hlt : k < 256
    · go_upto_region 5 with (fail)
      have hw : IntKind.u8.wrap (k : Int) = k := IntWalk.u8_in _ ⟨by omega, by omega⟩
      have hHa := fun (W : World) => Lib.hid (rHas_any a (k : Int) (by omega) (by omega) W)
      obtain ⟨a0, a1, a2, a3⟩ := ew_cells HA.out
      have HS : Hid (filtB (fun i => !memB a i) (k + 1) = if !memB a (k : Int) then addB (filtB (fun i => !memB a i) k) (k : Int) else filtB (fun i => !memB a i) k) := Lib.hid rfl
      generalize memB a (k : Int) = ma at *
      go_cut [14] (fun v W => v = .bool (!ma) ∧ ∃ e : EW wr, W = e.W)
      case first =>
        refine region_ew_text 5 ?_
        simp only [List.take_succ_cons, List.drop_succ_cons, List.take_nil, List.drop_nil]
        iterate 5 (refine wpQuiet_step (fun K hK => ?_); go_simp; first | (refine hK _ ?_; clear hK K) | (apply Exists.intro; refine ⟨fun _ => ?_, hK _ ?_⟩; (with_reducible exact calls_ew (hHa _).out); clear hK K))
        refine wpQuiet_nil ?_
        rintro _ ⟨e, rfl⟩
        refine wpList_nil ?_
        go_wp2
        go_meet
        exact ⟨rfl, e, rfl⟩
      case rest =>
        obtain ⟨rfl, e, rfl⟩ := hcut
        have HA' := Lib.hid (e.ext.heap HA.out)
        have HC' := Lib.hid (e.ext.heap HC.out)
        have HR' := Lib.hid (e.ext.heap HR.out)
        have hE' := hE.trans e.ext
        clear a0 a1 a2 a3 hHa HA HC HR hE
        generalize e.W = w1 at *
        cases ma
        · have HS := HS.out
          simp only [Bool.not_false, if_true] at HS
          have HS := Lib.hid HS
          have hWi := fun (W : World) => Lib.hid (with_any (filtB (fun i => !memB a i) k) (k : Int) (by omega) (by omega) W)
          go_upto_region 6 with (fail)
          refine region_ew_text 4 ?_
          simp only [List.take_succ_cons, List.take_zero, List.drop_succ_cons, List.drop_zero]
          obtain ⟨c0, c1, c2, c3⟩ := ew_cells HC'.out
          iterate 4 (refine wpQuiet_step (fun K hK => ?_); go_simp; first | (refine hK _ ?_; clear hK K) | (apply Exists.intro; refine ⟨fun _ => ?_, hK _ ?_⟩; (with_reducible exact calls_ew (hWi _).out); clear hK K))
          refine wpQuiet_nil ?_
          rintro _ ⟨e, rfl⟩
          clear c0 c1 c2 c3 hWi
          go_wp2_with (refine wpList_store_row rfl 30 _ _ rfl _ _ rfl rfl _ _ (e.ext.heap HC'.out) info30 rfl (encA_one _) ?_)
          go_roundw
          case rel => exact ⟨k + 1, by omega, by go_num, (hE'.trans e.ext).setRow (by omega) _, heap_setRow_keep (e.ext.heap HA'.out) (by omega) _, heap_setRow_keep (e.ext.heap HR'.out) (by omega) _, (by rw [HS.out]; exact setRow_heap _ _ _ _ _ _ (e.ext.heap HC'.out))⟩
          case measure => simp [intOf]; omega
        · have HS := HS.out
          simp only [Bool.not_true, Bool.false_eq_true, if_false] at HS
          rw [← HS] at HC'
          clear HS
          go_wp2
          go_roundw
          case rel => exact ⟨k + 1, by omega, by go_num, hE', HA'.out, HR'.out, HC'.out⟩
          case measure => simp [intOf]; omega
    · obtain rfl : k = 256 := by omega
      rw [filtB_all (fun i => !memB a i) (~~~a) (fun i hi => by rw [BitVec.getLsbD_not]; simp [memB, hi])] at HC
      go_wp2_with (first
        | (refine wpList_load_row rfl 30 (.tmp 3) rfl _ rfl _ _ _ _ HC.out Tryd.underlying30 rfl info30 ?_)
        | (refine wpList_store_row rfl 30 _ _ rfl _ _ rfl rfl _ _ HR.out info30 rfl (encA_one _) ?_))
      refine bodyPost_ret (v := .agg (encA (~~~a))) (results_cell_row rfl _ _ _ _ _ _ _ rfl (setRow_heap wr _ _ (encA (~~~a)) 30 (0, 0) HR.out) Tryd.underlying30 rfl info30) rfl ?_
      exact ⟨rfl, hE.setRow (by omega) _⟩

set_option maxRecDepth 100000 in
theorem rminus_any (a b : Cls) (w : World) :
    Calls Tryd.prog 30 #[.agg (encA a), .agg (encA b)] w fun e w' => e = .returned (.agg (encA (a &&& ~~~b))) ∧ Ext w w' := by
  have hA := heap_alloc_keep (heap_alloc_keep (heap_alloc_new w (.cells (encA a) 30)) (.cells (encA b) 30)) (.cells zA 30)
  have hB := heap_alloc_keep (heap_alloc_new (w.alloc (.cells (encA a) 30)) (.cells (encA b) 30)) (.cells zA 30)
  have hR := heap_alloc_new ((w.alloc (.cells (encA a) 30)).alloc (.cells (encA b) 30)) (.cells zA 30)
  have hE := (((Ext.refl w).alloc (.cells (encA a) 30)).alloc (.cells (encA b) 30)).alloc (.cells zA 30)
  rw [World.size_alloc] at hB
  rw [World.size_alloc, World.size_alloc] at hR
  have HA := Lib.hid hA
  have HB := Lib.hid hB
  have HR := Lib.hid hR
  clear hA hB hR
  go_enter Tryd.func30, Tryd.ntmps30
  go_upto_region 1 with (fail)
  generalize ((w.alloc (.cells (encA a) 30)).alloc (.cells (encA b) 30)).alloc (.cells zA 30) = w1 at *
  obtain ⟨a0, a1, a2, a3⟩ := ew_cells HA.out
  obtain ⟨b0, b1, b2, b3⟩ := ew_cells HB.out
  have h1 := fun (W : World) => Lib.hid (rnot_any b W)
  have h2 := fun (W : World) => Lib.hid (rinter_any a (~~~b) W)
  refine region_ew_tail 4 (by kernel_rfl) (by kernel_rfl) ?_
  simp only [List.take_succ_cons, List.take_zero, List.drop_succ_cons, List.drop_zero]
  iterate 4 (refine wpQuiet_step (fun K hK => ?_); go_simp; first | (refine hK _ ?_; clear hK K) | (apply Exists.intro; refine ⟨fun _ => ?_, hK _ ?_⟩; (first | (with_reducible exact calls_ew (h1 _).out) | (with_reducible exact calls_ew (h2 _).out)); clear hK K))
  refine wpQuiet_nil ?_
  rintro _ ⟨e, rfl⟩
  clear a0 a1 a2 a3 b0 b1 b2 b3 h1 h2
  go_wp2_with (refine wpList_store_row rfl 30 _ _ rfl _ _ rfl rfl _ _ (e.ext.heap HR.out) info30 rfl (encA_one _) ?_)
  refine bodyPost_ret (v := .agg (encA (a &&& ~~~b))) (results_cell_row rfl _ _ _ _ _ _ _ rfl (setRow_heap e.W _ _ (encA (a &&& ~~~b)) 30 (0, 0) (e.ext.heap HR.out)) Tryd.underlying30 rfl info30) rfl ?_
  exact ⟨rfl, (hE.trans e.ext).setRow (by omega) _⟩

end Go.Proofs.YthfmjhicmopclaaDoor
