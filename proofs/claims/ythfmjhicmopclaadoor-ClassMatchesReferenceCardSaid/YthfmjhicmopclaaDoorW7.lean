/-
  The walks of the reference's Bytes, Size, Least.
-/
import Derived.Test.YthfmjhicmopclaaDoorW6
import Derived.Maps.AppendAt
namespace Go.Proofs.YthfmjhicmopclaaDoor
open Go.RowKit Go.Shelf

theorem u8_nat (k : Nat) (h : k < 256) : ((UInt8.ofNat k).toNat : Int) = (k : Int) := by
  simp
  omega
theorem info5 : (Tryd.prog.info? 5).map (fun i => (i.zero, i.size, i.bytes)) = some (some (.int .u8 0), 1, 1) := by kernel_rfl

set_option maxRecDepth 100000 in
theorem rbytes_any (c : Cls) (w : World) :
    Calls Tryd.prog 35 #[.agg (encA c)] w fun e w' => ∃ v, e = .returned v ∧ By w' v (bytesTo c 256) ∧ Ext w w' := by
  obtain ⟨i0, hi, hz0, hz1, hz2⟩ := info_parts info5
  go_enter Tryd.func35, Tryd.ntmps35
  go_wp2_with (fail)
  go_loopw [3, 4] (fun v i W => ∃ k : Nat, k ≤ 256 ∧ i = .int .i64 k ∧ Ext w W ∧ W.heap[w.heap.size]? = some (.cells (encA c) 30 (0, 0)) ∧
      W.ownsRow (w.heap.size + 1) 5 1 v (bytesTo c k).length ((bytesTo c k).map bv))
    (fun _ i _ => 256 - (intOf i).toNat)
  case atStart =>
    refine ⟨0, by omega, rfl, ((Ext.refl w).alloc _).alloc _, heap_alloc_keep (heap_alloc_new w _) _, ?_⟩
    have h := World.ownsRow_made (base := w.heap.size + 1) (e := 5) (size := 1) (w.alloc (.cells (encA c) 30)) #[] 0 (by simp) (by unfold maxLen; omega) rfl
    rwa [World.size_alloc] at h
  case round =>
    obtain ⟨k, hk, rfl, hE, hA, hown⟩ := hrel
    have HA := Lib.hid hA
    clear hA
    by_cases hlt : k < 256
    · go_upto_region 5 with (fail)
      have hw : IntKind.u8.wrap (k : Int) = k := IntWalk.u8_in _ ⟨by omega, by omega⟩
      have hHa := fun (W : World) => Lib.hid (rHas_any c (k : Int) (by omega) (by omega) W)
      obtain ⟨a0, a1, a2, a3⟩ := ew_cells HA.out
      have hlen := bytesTo_len c k
      have HS : Hid (bytesTo c (k + 1) = if memB c (k : Int) then bytesTo c k ++ [UInt8.ofNat k] else bytesTo c k) := Lib.hid rfl
      generalize memB c (k : Int) = ma at *
      go_cut [13] (fun v W => v = .bool ma ∧ ∃ e : EW wr, W = e.W)
      case first =>
        refine region_ew_text 4 ?_
        simp only [List.take_succ_cons, List.drop_succ_cons, List.take_nil, List.drop_nil]
        iterate 4 (refine wpQuiet_step (fun K hK => ?_); go_simp; first | (refine hK _ ?_; clear hK K) | (apply Exists.intro; refine ⟨fun _ => ?_, hK _ ?_⟩; (with_reducible exact calls_ew (hHa _).out); clear hK K))
        refine wpQuiet_nil ?_
        rintro _ ⟨e, rfl⟩
        refine wpList_nil ?_
        go_wp2
        go_meet
        exact ⟨rfl, e, rfl⟩
      case rest =>
        obtain ⟨rfl, e, rfl⟩ := hcut
        have HA' := Lib.hid (e.ext.heap HA.out)
        have hE' := hE.trans e.ext
        have hown := owns_ext hown e.ext
        clear a0 a1 a2 a3 hHa HA hE
        generalize e.W = w1 at *
        cases ma
        · have HS := HS.out
          simp only [Bool.false_eq_true, if_false] at HS
          rw [← HS] at hown
          clear HS
          go_wp2
          go_roundw
          case rel => exact ⟨k + 1, by omega, by go_num, hE', HA'.out, hown⟩
          case measure => simp [intOf]; omega
        · have hs1 := HS.out
          simp only [if_true] at hs1
          have HS2 := Lib.hid hs1
          clear hs1 HS
          have hb := hE'.size
          have hx : (k : Int) = ((UInt8.ofNat k).toNat : Int) := (u8_nat k hlt).symm
          have HX := Lib.hid hx
          clear hx
          go_wp2_with (at_builtin; refine wpList_append_own _ rfl _ _ 31 rfl (w.heap.size + 1) 5 i0 (.int .u8 0) 1 1 Tryd.underlying31 hi hz0 hz1 hz2 rfl (by decide) _ _ _ rfl (hown.alloc _) ⟨w1.heap.size, 0, none⟩ 1 1 [.int .u8 (k : Int)] rfl rfl (cell_one_new _ _ _) (by simp [Value.oneCell']) (by unfold maxLen; omega) (by omega) (by simp; omega) ?_)
          intro v' w2 hown' hgrow _
          have hE2 : Ext w w2 := (hE'.alloc _).grown hgrow (fun k e => by have := (hown.lt k e).1; omega)
          have hA2 : w2.heap[w.heap.size]? = some (.cells (encA c) 30 (0, 0)) := (hgrow.block _ (by simp; omega) (fun e => by have := (hown.lt _ e.symm).1; omega)).trans (heap_alloc_keep HA'.out _)
          have HA2 := Lib.hid hA2
          clear hA2 hown
          go_wp2
          go_roundw
          case rel => exact ⟨k + 1, by omega, by go_num, hE2, HA2.out, by rw [HS2.out, List.length_append, List.map_append]; rw [HX.out] at hown'; exact hown'⟩
          case measure => simp [intOf]; omega
    · obtain rfl : k = 256 := by omega
      have hlen := bytesTo_len c 256
      go_wp2
      go_ret
      exact ⟨_, rfl, By.of_owns hown (by omega), hE⟩

theorem rsize_any (c : Cls) (w : World) :
    Calls Tryd.prog 33 #[.agg (encA c)] w fun e w' => e = .returned (.int .i64 (bytesTo c 256).length) ∧ Ext w w' := by
  have hA := heap_alloc_new w (.cells (encA c) 30)
  have hE := (Ext.refl w).alloc (.cells (encA c) 30)
  have HA := Lib.hid hA
  clear hA
  go_enter Tryd.func33, Tryd.ntmps33
  go_wp2_with (first
    | (refine wpList_load_row rfl 30 (.tmp 1) rfl _ rfl _ _ _ _ HA.out Tryd.underlying30 rfl info30 ?_)
    | (go_at_call 35; refine (rbytes_any c _).mono ?_; rintro e w' ⟨v, rfl, hB, hE'⟩; obtain ⟨a, cap, hv⟩ := By.len hB; rw [hv]))
  go_ret
  exact ⟨rfl, hE.trans hE'⟩

/-- The first byte, or -1. -/
def headI (l : List UInt8) : Int := match l with | [] => -1 | x :: _ => (x.toNat : Int)

theorem rleast_any (c : Cls) (w : World) :
    Calls Tryd.prog 34 #[.agg (encA c)] w fun e w' => e = .returned (.int .i64 (headI (bytesTo c 256))) ∧ Ext w w' := by
  have hA := heap_alloc_new w (.cells (encA c) 30)
  have hE := (Ext.refl w).alloc (.cells (encA c) 30)
  have HA := Lib.hid hA
  clear hA
  have hcon := fun W => Lib.hid (rbytes_any c W)
  generalize bytesTo c 256 = l at *
  cases l with
  | nil =>
    go_enter Tryd.func34, Tryd.ntmps34
    go_wp2_with (first
      | (refine wpList_load_row rfl 30 (.tmp 1) rfl _ rfl _ _ _ _ HA.out Tryd.underlying30 rfl info30 ?_)
      | (go_at_call 35; refine (hcon _).out.mono ?_; rintro e w' ⟨v, rfl, hB, hE'⟩; obtain ⟨a, cap, hv⟩ := By.len hB; rw [hv]))
    go_ret
    exact ⟨rfl, hE.trans hE'⟩
  | cons x l =>
    have hx := x.toNat_lt
    go_enter Tryd.func34, Tryd.ntmps34
    go_wp2_with (first
      | (refine wpList_load_row rfl 30 (.tmp 1) rfl _ rfl _ _ _ _ HA.out Tryd.underlying30 rfl info30 ?_)
      | (go_at_call 35; refine (hcon _).out.mono ?_; rintro e w' ⟨v, rfl, hB, hE'⟩; obtain ⟨b, off, cap, hv, hc⟩ := By.at0 hB; rw [hv]))
    go_ret
    exact ⟨rfl, hE.trans hE'⟩

end Go.Proofs.YthfmjhicmopclaaDoor
