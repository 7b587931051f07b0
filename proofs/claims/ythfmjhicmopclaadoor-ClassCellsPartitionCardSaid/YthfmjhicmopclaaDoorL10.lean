/-
  The walk of ClassCellsPartition.
-/
import Derived.Test.YthfmjhicmopclaaDoorL3
import Derived.Test.YthfmjhicmopclaaDoorPM
import Derived.Test.YthfmjhicmopclaaDoorEX
namespace Go.Proofs.YthfmjhicmopclaaDoor
open Go.RowKit Go.Shelf

theorem cs_split {W : World} {v : Value} {l : List Cls} (h : Cs W v l) (h0 : 0 < l.length) : ∃ b off cap, v = .slice (some ⟨b, off, none⟩) l.length cap ∧ ∀ i, i < l.length * 4 → W.cell? ⟨b, off + i, none⟩ = some (.int .u64 (wd (l.getD (i / 4) 0#256) (i % 4))) := by
  obtain ⟨_, ⟨hn, _⟩ | ⟨_, b, off, cap, hv, _, hc⟩⟩ := h
  · omega
  · exact ⟨b, off, cap, hv, hc⟩
theorem eqz_of (x : Cls) (m : Bool) (h : (x == 0#256) = m) (W : World) : (Op.equalIn 10000 30 (.agg (encA x)) (.agg zA)).run Tryd.prog W = .ok m W := by
  have := run_eq30 x 0#256 W
  rw [encA_zero, h] at this
  exact this

set_option maxHeartbeats 8000000 in
set_option maxRecDepth 100000 in
theorem partition_any (l : List Cls) (v : Value) (w : World) (hT : Tab w) (hsz : 0 < w.heap.size) (s : CsW w v l) :
    Calls Tryd.prog 10 #[v] w fun e w' => e = .returned (.bool true) ∧ Ext w w' := by
  obtain ⟨a, b, off, cap, rfl, ha, hc⟩ := s.split
  have hS := Lib.hid (sanity_any w hT hsz)
  by_cases hl : l.length ≤ 12
  · have HC := Lib.hid (s.short (by omega))
    have HA := Lib.hid ha
    have HCC := Lib.hid hc
    have d : decide ((12 : Int) < (l.length : Int)) = false := by simp; omega
    have f15 := fun e : EW w => Lib.hid (cellsS_ew hT hsz HC.out e)
    have HI := Lib.hid (isCells_S l)
    have HLT := Lib.hid (part_lt l)
    have HP := Lib.hid ((full_cellsU l).pos)
    have HLen := Lib.hid (cellsS_len l)
    have hpos : 0 < (cellsS l).length := by rw [(cellsS_perm l).length_eq]; exact HP.out
    have HPos := Lib.hid hpos
    clear hpos HP
    generalize cellsS l = L at *
    clear s ha hc
    go_enter Tryd.func10, Tryd.ntmps10
    go_upto_region 2 with (go_at_call 13; with_reducible refine hS.out.mono ?_; rintro e w1 ⟨rfl, hE1⟩)
    obtain ⟨e0, rfl⟩ : ∃ e0 : EW w, w1 = e0.W := ⟨⟨w1, hE1⟩, rfl⟩
    clear hE1 hS
    go_upto_region 5 with (go_at_call 15; with_reducible refine (f15 _).out.mono ?_; rintro e w2 ⟨v1, rfl, hc1, hE2⟩)
    have hE := e0.ext.trans hE2
    have hL0 := HPos.out
    have hL256 := HLen.out
    obtain ⟨bL, oL, capL, rfl, hcL⟩ := cs_split hc1 hL0
    have HCL := Lib.hid hcL
    clear hcL hc1 f15 hE2
    have hT2 := hT.below hE.below hsz
    have hs2 : 0 < w2.heap.size := Nat.lt_of_lt_of_le hsz hE.size
    go_wp2_with (fail)
    have hB0 := heap_alloc_at w2 (.cells zA 30)
    have hE3 := (Ext.refl w2).alloc (.cells zA 30)
    generalize w2.alloc (.cells zA 30) = w3 at *
    have HB0 := Lib.hid hB0
    clear hB0
    go_loopw [6] (fun i W => ∃ k : Nat, k ≤ L.length ∧ i = .int .i64 k ∧ Ext w2 W ∧ W.heap[w2.heap.size]? = some (.cells (encA (uTo (fun _ => true) L k)) 30 (0, 0)))
      (fun i _ => L.length - (intOf i).toNat)
    case atStart => exact ⟨0, by omega, rfl, hE3, by rw [uTo_zero, encA_zero]; exact HB0.out⟩
    case round =>
      obtain ⟨k, hk, rfl, hEk, hB⟩ := hrel
      have HB := Lib.hid hB
      clear hB
      by_cases hlt : k < L.length
      · obtain ⟨a0, a1, a2, a3⟩ := cs_cells (W := wr) (fun i hi => hEk.cell (HCL.out i hi)) k hlt
        obtain ⟨p0, p1, p2, p3⟩ := cs_cells (W := wr) (fun i hi => hEk.cell (HCL.out i hi)) (k - 1) (by omega)
        obtain ⟨c0, c1, c2, c3⟩ := ew_cells HB.out
        have hnz := part_nz HI.out k hlt
        have hdi := part_dis HI.out k hlt
        have hus := uTo_succ (fun _ => true) L k hlt
        rw [if_pos rfl] at hus
        have HUS := Lib.hid hus
        have HKL : Hid (0 < k → key (L.getD (k - 1) 0#256) < key (L.getD k 0#256)) := Lib.hid (HLT.out k hlt)
        clear hus
        obtain ⟨c, hcd⟩ : ∃ c, L.getD k 0#256 = c := ⟨_, rfl⟩
        obtain ⟨p, hpd⟩ : ∃ p, L.getD (k - 1) 0#256 = p := ⟨_, rfl⟩
        rw [hcd] at a0 a1 a2 a3 hnz hdi HUS HKL
        rw [hpd] at p0 p1 p2 p3 HKL
        clear hcd hpd
        have hsz0 : ((sz c : Int) == 0) = false := by simp; omega
        have f22 := fun W => Lib.hid (s_any c _ rfl W)
        have f23c := fun e : EW wr => Lib.hid (l_any c (key c) rfl e.W w2 hT2 hs2 (hEk.trans e.ext))
        have f23p := fun e : EW wr => Lib.hid (l_any p (key p) rfl e.W w2 hT2 hs2 (hEk.trans e.ext))
        generalize (sz c : Int) = z at *
        generalize uTo (fun _ => true) L k = A at *
        have f27 := fun W => Lib.hid (inter_any A c W)
        have f25 := fun W => Lib.hid (union_any A c W)
        have g1 := eqz_of (A &&& c) true (by rw [hdi]; rfl)
        have g3 := gt30
        clear hdi hnz
        generalize A &&& c = x at *
        generalize key c = kc at *
        generalize key p = kp at *
        go_upto_region 9 with (fail)
        go_cut [57] (fun v W => v = .bool false ∧ ∃ e : EW wr, W = e.W)
        case first =>
          by_cases hk0 : 0 < k
          · have d0 : decide (0 < k) = true := by simpa using hk0
            have d1 : decide (kc ≤ kp) = false := by have := HKL.out hk0; simp; omega
            have wk : IntKind.i64.wrap ((k : Int) - 1) = ((k - 1 : Nat) : Int) := by rw [IntWalk.i64_in _ ⟨by omega, by omega⟩]; omega
            have hm : k - 1 < L.length := by omega
            generalize k - 1 = m at *
            refine region_ew (by kernel_rfl) (by kernel_rfl) ?_
            iterate 34 (with_reducible refine wpQuiet_step (fun K hK => ?_); go_simp; first | (refine hK _ ?_; clear hK K) | (apply Exists.intro; refine ⟨fun _ => ?_, hK _ ?_⟩; (first | (with_reducible exact calls_ew (f22 _).out) | (with_reducible exact calls_ew (f27 _).out) | (with_reducible exact calls_ew (f23c _).out) | (with_reducible exact calls_ew (f23p _).out)); clear hK K))
            refine wpQuiet_nil ?_
            rintro _ ⟨e, rfl⟩
            go_wp2
            go_meet
            exact ⟨rfl, e, rfl⟩
          · have d0 : decide (0 < k) = false := by simpa using hk0
            clear p0 p1 p2 p3 HKL hk0
            refine region_ew (by kernel_rfl) (by kernel_rfl) ?_
            iterate 34 (with_reducible refine wpQuiet_step (fun K hK => ?_); go_simp; first | (refine hK _ ?_; clear hK K) | (apply Exists.intro; refine ⟨fun _ => ?_, hK _ ?_⟩; (first | (with_reducible exact calls_ew (f22 _).out) | (with_reducible exact calls_ew (f27 _).out) | (with_reducible exact calls_ew (f23c _).out) | (with_reducible exact calls_ew (f23p _).out)); clear hK K))
            refine wpQuiet_nil ?_
            rintro _ ⟨e, rfl⟩
            go_wp2
            go_meet
            exact ⟨rfl, e, rfl⟩
        case rest =>
          obtain ⟨rfl, e, rfl⟩ := hcut
          clear p0 p1 p2 p3 f22 f23c f23p f27 g1 g3 HKL
          go_upto_region 11 with (fail)
          refine region_tail_at 6 (by kernel_rfl) (by kernel_rfl) ?_
          simp only [List.take_succ_cons, List.take_zero, List.drop_succ_cons, List.drop_zero]
          iterate 6 (with_reducible refine wpQuiet_step (fun K hK => ?_); go_simp; first | (refine hK _ ?_; clear hK K) | (apply Exists.intro; refine ⟨fun _ => ?_, hK _ ?_⟩; (with_reducible exact calls_ew (f25 _).out); clear hK K))
          refine wpQuiet_nil ?_
          rintro _ ⟨e2, rfl⟩
          have hB2 := Lib.hid (e2.ext.heap HB.out)
          have hE4 := hEk.trans e2.ext
          clear c0 c1 c2 c3 a0 a1 a2 a3 f25 HB
          generalize e2.W = w4 at *
          go_wp2_with (refine wpList_store_row rfl 30 _ _ rfl _ _ rfl rfl _ _ hB2.out info30 rfl (encA_one _) ?_)
          go_roundw
          case rel => exact ⟨k + 1, by omega, by go_num, hE4.setRow (Nat.le_refl _) _, by rw [HUS.out]; exact setRow_heap w4 _ _ _ _ _ hB2.out⟩
          case measure => simp [intOf]; omega
      · obtain rfl : k = L.length := by omega
        rw [part_all HI.out] at HB
        have HPM := Lib.hid (fun c hc => part_met (L := L) HI.out c hc)
        have f31 := fun W => Lib.hid (not0_any W)
        have gA := eqT allC
        have g3 := gt30
        generalize allC = uA at *
        clear HI HLT HB0
        go_wp2_with (fail)
        go_loopw [7] (fun i W => ∃ q : Nat, q ≤ l.length ∧ i = .int .i64 q ∧ Ext w2 W ∧ W.heap[w2.heap.size]? = some (.cells (encA uA) 30 (0, 0)))
          (fun i _ => l.length - (intOf i).toNat)
        case atStart => exact ⟨0, by omega, rfl, hEk, HB.out⟩
        case round =>
          obtain ⟨q, hq, rfl, hEq, hB⟩ := hrel
          have HB := Lib.hid hB
          clear hB
          by_cases hlt : q < l.length
          · have e := HA.out (by omega)
            subst e
            have hmem : l.getD q 0#256 ∈ l := by rw [List.getD_eq_getElem?_getD, List.getElem?_eq_getElem hlt]; exact List.getElem_mem hlt
            have HMet := Lib.hid (HPM.out _ hmem)
            have HCq := Lib.hid (fun (W : World) (hW : Ext w W) => cs_cells (W := W) (fun i hi => hW.cell (HCC.out i hi)) q hlt)
            obtain ⟨c, hcd⟩ : ∃ c, l.getD q 0#256 = c := ⟨_, rfl⟩
            simp only [hcd] at HMet HCq
            clear hcd hmem
            obtain ⟨wo, hwo⟩ : ∃ W, W = wr := ⟨_, rfl⟩
            subst hwo
            have dq : decide ((q : Int) < (l.length : Int)) = true := by simp; omega
            have HM0 := Lib.hid (heap_alloc_at wo (.cells zA 30))
            have hE5 := (Ext.refl wo).alloc (.cells zA 30)
            go_wp2_with (fail)
            generalize wo.alloc (.cells zA 30) = wi at *
            go_loopw [9] (fun i W => ∃ j : Nat, j ≤ L.length ∧ i = .int .i64 j ∧ Ext wo W ∧ W.heap[wo.heap.size]? = some (.cells (encA (uTo (fun d => (d &&& c) != 0#256) L j)) 30 (0, 0)))
              (fun i _ => L.length - (intOf i).toNat)
            case atStart => exact ⟨0, by omega, rfl, hE5, by rw [uTo_zero, encA_zero]; exact HM0.out⟩
            case round =>
              obtain ⟨j, hj, rfl, hEj, hM⟩ := hrel
              have HM := Lib.hid hM
              clear hM
              have hEw := hE.trans (hEq.trans hEj)
              obtain ⟨a0, a1, a2, a3⟩ := HCq.out wr hEw
              obtain ⟨m0, m1, m2, m3⟩ := ew_cells HM.out
              by_cases hjl : j < L.length
              · obtain ⟨p0, p1, p2, p3⟩ := cs_cells (W := wr) (fun i hi => (hEq.trans hEj).cell (HCL.out i hi)) j hjl
                have HUS := Lib.hid (uTo_succ (fun d => (d &&& c) != 0#256) L j hjl)
                obtain ⟨d, hdd⟩ : ∃ d, L.getD j 0#256 = d := ⟨_, rfl⟩
                rw [hdd] at p0 p1 p2 p3 HUS
                clear hdd
                generalize uTo (fun d => (d &&& c) != 0#256) L j = M at *
                have f27 := fun W => Lib.hid (inter_any d c W)
                have f25 := fun W => Lib.hid (union_any M d W)
                have HD := Lib.hid (show ((d &&& c) != 0#256) = !((d &&& c) == 0#256) from rfl)
                have g1 := eqz_of (d &&& c) _ rfl
                generalize ((d &&& c) == 0#256) = mm at *
                generalize d &&& c = x at *
                go_upto_region 19 with (fail)
                go_cut [87] (fun v W => v = .bool (!mm) ∧ ∃ e : EW wr, W = e.W)
                case first =>
                  refine region_ew (by kernel_rfl) (by kernel_rfl) ?_
                  iterate 11 (with_reducible refine wpQuiet_step (fun K hK => ?_); go_simp; first | (refine hK _ ?_; clear hK K) | (apply Exists.intro; refine ⟨fun _ => ?_, hK _ ?_⟩; (with_reducible exact calls_ew (f27 _).out); clear hK K))
                  refine wpQuiet_nil ?_
                  rintro _ ⟨e, rfl⟩
                  go_wp2
                  go_meet
                  exact ⟨rfl, e, rfl⟩
                case rest =>
                  obtain ⟨rfl, e, rfl⟩ := hcut
                  clear f27 g1
                  cases mm
                  · have hus := HUS.out
                    rw [HD.out] at hus
                    have HUS := Lib.hid hus
                    clear hus
                    go_upto_region 20 with (fail)
                    refine region_tail_at 6 (by kernel_rfl) (by kernel_rfl) ?_
                    simp only [List.take_succ_cons, List.take_zero, List.drop_succ_cons, List.drop_zero]
                    iterate 6 (with_reducible refine wpQuiet_step (fun K hK => ?_); go_simp; first | (refine hK _ ?_; clear hK K) | (apply Exists.intro; refine ⟨fun _ => ?_, hK _ ?_⟩; (with_reducible exact calls_ew (f25 _).out); clear hK K))
                    refine wpQuiet_nil ?_
                    rintro _ ⟨e2, rfl⟩
                    have hB2 := Lib.hid (e2.ext.heap HM.out)
                    have hE4 := hEj.trans e2.ext
                    clear a0 a1 a2 a3 m0 m1 m2 m3 p0 p1 p2 p3 f25 HM
                    generalize e2.W = w4 at *
                    go_wp2_with (refine wpList_store_row rfl 30 _ _ rfl _ _ rfl rfl _ _ hB2.out info30 rfl (encA_one _) ?_)
                    go_roundw
                    case rel => exact ⟨j + 1, by omega, by go_num, hE4.setRow (Nat.le_refl _) _, by rw [HUS.out]; exact setRow_heap w4 _ _ _ _ _ hB2.out⟩
                    case measure => simp [intOf]; omega
                  · have hus := HUS.out
                    rw [HD.out] at hus
                    have HUS := Lib.hid hus
                    clear hus
                    have hM2 := Lib.hid (e.ext.heap HM.out)
                    have hE4 := hEj.trans e.ext
                    clear a0 a1 a2 a3 m0 m1 m2 m3 p0 p1 p2 p3 f25 HM
                    generalize e.W = w4 at *
                    go_wp2
                    go_roundw
                    case rel => exact ⟨j + 1, by omega, by go_num, hE4, by rw [HUS.out]; exact hM2.out⟩
                    case measure => simp [intOf]; omega
              · obtain rfl : j = L.length := by omega
                rw [HMet.out] at m0 m1 m2 m3
                have gc := eqT c
                go_upto_region 21 with (fail)
                refine region_ew (by kernel_rfl) (by kernel_rfl) ?_
                iterate 6 (with_reducible refine wpQuiet_step (fun K hK => ?_); go_simp; (refine hK _ ?_; clear hK K))
                refine wpQuiet_nil ?_
                rintro _ ⟨e, rfl⟩
                have hE4 := hEj.trans e.ext
                clear a0 a1 a2 a3 m0 m1 m2 m3 gc HM
                generalize e.W = w4 at *
                go_wp2
                go_roundw
                case rel => exact ⟨q + 1, by omega, by go_num, hEq.trans hE4, hE4.heap HB.out⟩
                case measure => simp [intOf]; omega
          · obtain rfl : q = l.length := by omega
            obtain ⟨c0, c1, c2, c3⟩ := ew_cells HB.out
            go_upto_region 23 with (fail)
            refine region_ew (by kernel_rfl) (by kernel_rfl) ?_
            iterate 8 (with_reducible refine wpQuiet_step (fun K hK => ?_); go_simp; first | (refine hK _ ?_; clear hK K) | (apply Exists.intro; refine ⟨fun _ => ?_, hK _ ?_⟩; (with_reducible exact calls_ew (f31 _).out); clear hK K))
            refine wpQuiet_nil ?_
            rintro _ ⟨e, rfl⟩
            go_wp2
            go_ret
            exact ⟨rfl, hE.trans (hEq.trans e.ext)⟩
  · have d : decide ((12 : Int) < (l.length : Int)) = true := by simp; omega
    clear s ha hc
    go_enter Tryd.func10, Tryd.ntmps10
    go_wp2_with (go_at_call 13; with_reducible refine hS.out.mono ?_; rintro e w1 ⟨rfl, hE1⟩)
    go_ret
    exact ⟨rfl, hE1⟩

end Go.Proofs.YthfmjhicmopclaaDoor
