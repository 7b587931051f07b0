/-
  The walk of Cells.
-/
import Derived.Test.YthfmjhicmopclaaDoorW16
import Derived.Test.YthfmjhicmopclaaDoorCP
import Derived.Test.YthfmjhicmopclaaDoorEq
import Derived.Test.YthfmjhicmopclaaDoorW4
namespace Go.Proofs.YthfmjhicmopclaaDoor
open Go.RowKit Go.Shelf

set_option maxRecDepth 100000 in
theorem cells_walk (l : List Cls) (hl : l.length ≤ 4611686018427387904) (a : Option Addr) (b off cap : Nat) (w : World) (hT : Tab w) (hsz : 0 < w.heap.size) (ha : 0 < l.length → a = some ⟨b, off, none⟩)
    (hc : ∀ i, i < l.length * 4 → w.cell? ⟨b, off + i, none⟩ = some (.int .u64 (wd (l.getD (i / 4) 0#256) (i % 4)))) :
    Calls Tryd.prog 15 #[.slice a l.length cap] w fun e w' => ∃ v L, e = .returned v ∧ Cs w' v L ∧ L.Perm (cellsU l) ∧ L.Pairwise (fun a b => headI (bytesTo a 256) ≤ headI (bytesTo b 256)) ∧ Ext w w' := by
  have hN := Lib.hid (not0_any w)
  obtain ⟨i0, hi, hz0, hz1, hz2⟩ := info_parts info30'
  go_enter Tryd.func15, Tryd.ntmps15
  go_wp2_with (first | (go_at_call 31; refine hN.out.mono ?_; rintro e w1 ⟨rfl, hE1⟩))
  clear hN
  go_loopw [3, 16] (fun v i W => ∃ k : Nat, k ≤ l.length ∧ i = .int .i64 k ∧ Ext w W ∧ Row W w.heap.size v (cellsU (l.take k)))
    (fun _ i _ => l.length - (intOf i).toNat)
  case atStart =>
    refine ⟨0, by omega, rfl, hE1.alloc _, ?_⟩
    exact ⟨rfl, .inr ⟨w1.heap.size, 1, encA allC, rfl, hE1.size, heap_alloc_new w1 _, Nat.le_refl _, by unfold maxLen; omega, rfl, rfl⟩⟩
  case round =>
    obtain ⟨k, hk, rfl, hE, hrow⟩ := hrel
    by_cases hlt : k < l.length
    · have e := ha (by omega)
      obtain ⟨a0, a1, a2, a3⟩ := cells4 (W := wr) (fun i hi => hE.cell (hc i hi)) k hlt
      have HC := Lib.hid hc
      have HA := Lib.hid ha
      clear ha hc
      subst e
      have HSC := Lib.hid (cellsU_take_succ l k hlt)
      have HF := Lib.hid (full_cellsU (l.take k))
      generalize cellsU (l.take k) = C at *
      obtain ⟨c, hcd⟩ : ∃ c, l.getD k 0#256 = c := ⟨_, rfl⟩
      rw [hcd] at a0 a1 a2 a3 HSC
      clear hcd
      obtain ⟨g, cap', rfl, hgb, hglt, hgf, hgc⟩ := hrow.cells HF.out.pos
      have hC256 := HF.out.len
      have hC0 := HF.out.pos
      clear hrow hgf
      go_wp2
      obtain ⟨wi, hwi⟩ : ∃ W, wr.alloc (.cells (encA c) 30) = W := ⟨_, rfl⟩
      simp only [hwi]
      have hEi : Ext wr wi := hwi ▸ (Ext.refl wr).alloc _
      have h5 : wi.heap[wr.heap.size]? = some (.cells (encA c) 30 (0, 0)) := hwi ▸ heap_alloc_at wr _
      have H5 := Lib.hid h5
      clear hwi h5 a0 a1 a2 a3
      have HGC := Lib.hid (fun (i : Nat) (hi : i < C.length * 4) => hEi.cell (hgc i hi))
      clear hgc
      go_loopw [6, 22] (fun u i W => ∃ j : Nat, j ≤ C.length ∧ i = .int .i64 j ∧ Ext wi W ∧ Row W wi.heap.size u (splitC c (C.take j)))
        (fun _ i _ => C.length - (intOf i).toNat)
      case atStart => exact ⟨0, by omega, rfl, Ext.refl wi, World.ownsRow_nil _ _ _ _⟩
      case round =>
        obtain ⟨j, hj, rfl, hEj, hrow⟩ := hrel
        by_cases hlt2 : j < C.length
        · obtain ⟨a0, a1, a2, a3⟩ := cells4 (W := wr) (fun i hi => hEj.cell (HGC.out i hi)) j hlt2
          have HSS := Lib.hid (splitC_take_succ c C j hlt2)
          have hlenS := splitC_len c (C.take j)
          rw [List.length_take] at hlenS
          generalize splitC c (C.take j) = S at *
          obtain ⟨d, hd⟩ : ∃ d, C.getD j 0#256 = d := ⟨_, rfl⟩
          rw [hd] at a0 a1 a2 a3 HSS
          simp only [Nat.zero_add] at a0 a1 a2 a3
          clear hd
          go_upto_region 9 with (fail)
          obtain ⟨w2, hw2⟩ : ∃ W, wr.alloc (.cells (encA d) 30) = W := ⟨_, rfl⟩
          simp only [hw2]
          have hE2 : Ext wr w2 := hw2 ▸ (Ext.refl wr).alloc _
          have h8 : w2.heap[wr.heap.size]? = some (.cells (encA d) 30 (0, 0)) := hw2 ▸ heap_alloc_at wr _
          clear hw2
          obtain ⟨b0, b1, b2, b3⟩ := ew_cells h8
          obtain ⟨c0, c1, c2, c3⟩ := ew_cells ((hEj.trans hE2).heap H5.out)
          clear h8 a0 a1 a2 a3
          have hrow := owns_ext hrow hE2
          have hEj := hEj.trans hE2
          have h1 := fun (W : World) => Lib.hid (inter_any d c W)
          have h2 := fun (W : World) => Lib.hid (minus_any d c W)
          have HX := Lib.hid (split1_eq c d)
          generalize split1 c d = sp at *
          generalize d &&& c = x at *
          generalize d &&& ~~~c = y at *
          go_cut [32, 33] (fun v m W => v = .agg #[.int .u64 (wd x 0), .int .u64 (wd x 1), .int .u64 (wd x 2), .int .u64 (wd x 3), .int .u64 (wd y 0), .int .u64 (wd y 1), .int .u64 (wd y 2), .int .u64 (wd y 3)] ∧ m = .int .i64 0 ∧ ∃ e : EW w2, W = e.W)
          case first =>
            refine region_ew (by kernel_rfl) (by kernel_rfl) ?_
            iterate 8 (refine wpQuiet_step (fun K hK => ?_); go_simp; first | (refine hK _ ?_; clear hK K) | (apply Exists.intro; refine ⟨fun _ => ?_, hK _ ?_⟩; (first | (with_reducible exact calls_ew (h1 _).out) | (with_reducible exact calls_ew (h2 _).out)); clear hK K))
            refine wpQuiet_nil ?_
            rintro _ ⟨e, rfl⟩
            go_wp2
            go_meet
            exact ⟨rfl, rfl, e, rfl⟩
          case rest =>
            obtain ⟨rfl, rfl, e, rfl⟩ := hcut
            have hrow := owns_ext hrow e.ext
            have hEj := hEj.trans e.ext
            clear b0 b1 b2 b3 c0 c1 c2 c3 h1 h2
            generalize e.W = w3 at *
            go_wp2_with (fail)
            go_loopw [6, 33] (fun u m W => ∃ q : Nat, q ≤ 2 ∧ m = .int .i64 q ∧ Ext wi W ∧ Row W wi.heap.size u (S ++ pre2 x y q))
              (fun _ m _ => 2 - (intOf m).toNat)
            case atStart => exact ⟨0, by omega, rfl, hEj, by rw [pre2_0, List.append_nil]; exact hrow⟩
            case round =>
              obtain ⟨q, hq, rfl, hEq, hrow⟩ := hrel
              obtain rfl | rfl | rfl : q = 0 ∨ q = 1 ∨ q = 2 := by omega
              · have ix := idx46_0 (wd x 0) (wd x 1) (wd x 2) (wd x 3) (wd y 0) (wd y 1) (wd y 2) (wd y 3) wr
                have HN := fun W => run_eq30 x 0#256 W
                rw [encA_zero] at HN
                have hg30 := gt30
                have hs1 := hEq.size
                have hPl := pre2_len S x y 0
                have HP := Lib.hid (pre2_succ0 S x y)
                generalize S ++ pre2 x y 0 = P at hrow hPl HP
                generalize (x == 0#256) = bx at HN HP
                cases bx
                · go_wp2_with (at_builtin; (refine wpList_append_own _ rfl _ _ 22 rfl wi.heap.size 30 i0 (.agg zA) 4 32 Tryd.underlying22 hi hz0 hz1 hz2 rfl (by decide) _ _ _ rfl ((hrow.alloc _).alloc _) _ 1 1 (encL x) rfl rfl ?_ (by simp [encL, Value.oneCell']) (by unfold maxLen; omega) (by omega) (by simp; omega) ?_))
                  · have := row_new_cells (wr.alloc (.cells (encA x) 30)) x
                    rwa [World.size_alloc] at this
                  · intro v' w4 hrow' hgrow _
                    have hE4 : Ext wi w4 := ((hEq.alloc _).alloc _).grown hgrow (fun g e => (hrow.lt g e).1)
                    clear hrow hgrow HN ix
                    go_wp2
                    go_roundw
                    case rel =>
                      refine ⟨1, by omega, rfl, hE4, ?_⟩
                      rw [HP.out]
                      simp only [Bool.false_eq_true, if_false]
                      show World.ownsRow _ _ _ _ _ _ _
                      rw [List.length_append, flatE_append, flatE_one]
                      exact hrow'
                    case measure => simp [intOf]
                · go_wp2
                  refine ⟨⟨1, by omega, rfl, hEq.alloc _, ?_⟩, by simp [intOf]⟩
                  rw [HP.out]
                  simp only [if_true, List.append_nil]
                  exact hrow.alloc _
              · have ix := idx46_1 (wd x 0) (wd x 1) (wd x 2) (wd x 3) (wd y 0) (wd y 1) (wd y 2) (wd y 3) wr
                have HN := fun W => run_eq30 y 0#256 W
                rw [encA_zero] at HN
                have hg30 := gt30
                have hs1 := hEq.size
                have hPl := pre2_len S x y 1
                have HP := Lib.hid (pre2_succ1 S x y)
                generalize S ++ pre2 x y 1 = P at hrow hPl HP
                generalize (y == 0#256) = bx at HN HP
                cases bx
                · go_wp2_with (at_builtin; (refine wpList_append_own _ rfl _ _ 22 rfl wi.heap.size 30 i0 (.agg zA) 4 32 Tryd.underlying22 hi hz0 hz1 hz2 rfl (by decide) _ _ _ rfl ((hrow.alloc _).alloc _) _ 1 1 (encL y) rfl rfl ?_ (by simp [encL, Value.oneCell']) (by unfold maxLen; omega) (by omega) (by simp; omega) ?_))
                  · have := row_new_cells (wr.alloc (.cells (encA y) 30)) y
                    rwa [World.size_alloc] at this
                  · intro v' w4 hrow' hgrow _
                    have hE4 : Ext wi w4 := ((hEq.alloc _).alloc _).grown hgrow (fun g e => (hrow.lt g e).1)
                    clear hrow hgrow HN ix
                    go_wp2
                    go_roundw
                    case rel =>
                      refine ⟨2, by omega, rfl, hE4, ?_⟩
                      rw [HP.out]
                      simp only [Bool.false_eq_true, if_false]
                      show World.ownsRow _ _ _ _ _ _ _
                      rw [List.length_append, flatE_append, flatE_one]
                      exact hrow'
                    case measure => simp [intOf]
                · go_wp2
                  refine ⟨⟨2, by omega, rfl, hEq.alloc _, ?_⟩, by simp [intOf]⟩
                  rw [HP.out]
                  simp only [if_true, List.append_nil]
                  exact hrow.alloc _
              · have HP : Hid (S ++ pre2 x y 2 = S ++ sp) := Lib.hid (by rw [HX.out]; rfl)
                rw [HP.out, ← HSS.out] at hrow
                go_wp2
                go_roundw
                case rel => exact ⟨j + 1, by omega, by go_num, hEq, hrow⟩
                case measure => simp [intOf]; omega
        · obtain rfl : j = C.length := by omega
          rw [List.take_length, ← HSC.out] at hrow
          have hE' := (hE.trans hEi).trans hEj
          have hrow' : Row wr w.heap.size u6 (cellsU (l.take (k + 1))) := hrow.mono (hE.trans hEi).size
          have ha := HA.out
          have hc := HC.out
          go_wp2
          go_roundw
          case rel => exact ⟨k + 1, by omega, by go_num, hE', hrow'⟩
          case measure => simp [intOf]; omega
    · obtain rfl : k = l.length := by omega
      rw [List.take_length] at hrow
      have HF := full_cellsU l
      obtain ⟨C, hC⟩ : ∃ C, cellsU l = C := ⟨_, rfl⟩
      rw [hC] at hrow HF
      have HU := Lib.hid hC
      clear hC
      obtain ⟨g, cap', rfl, hgb, hglt, hgf, hgc⟩ := hrow.cells HF.pos
      have hsort := Lib.hid (sort_any C g 0 cap' wr (hT.below hE.below hsz) (by omega) hglt (by have := HF.len; omega) hgc hgf)
      have hlen := Lib.hid HF.len
      clear hrow hgf hgc ha hc
      go_wp2_with (go_at_call 37; refine hsort.out.mono ?_; rintro e w5 ⟨rfl, hg5, L, hL1, hL2, hL3, hL4⟩)
      go_ret
      have hE5 : Ext w w5 := hE.grown hg5 (fun k e => by cases e; exact hgb)
      refine ⟨_, L, rfl, ?_, by rw [HU.out]; exact hL2, hL3, hE5⟩
      have h5 := hlen.out
      have h6 := hg5.size
      have hC0 := HF.pos
      rw [← hL1]
      exact ⟨by omega, .inr ⟨by omega, g, 0, cap', rfl, by omega, hL4⟩⟩

theorem cells_any (l : List Cls) (v : Value) (w : World) (hT : Tab w) (hsz : 0 < w.heap.size) (h : Cs w v l) :
    Calls Tryd.prog 15 #[v] w fun e w' => ∃ v' L, e = .returned v' ∧ Cs w' v' L ∧ L.Perm (cellsU l) ∧ L.Pairwise (fun a b => headI (bytesTo a 256) ≤ headI (bytesTo b 256)) ∧ Ext w w' := by
  obtain ⟨h0, ⟨hn, a, cap, rfl⟩ | ⟨hn, b, off, cap, rfl, hb, hc⟩⟩ := h
  · have := cells_walk l h0 a 0 0 cap w hT hsz (by omega) (fun i hi => by omega)
    rwa [hn] at this
  · exact cells_walk l h0 (some ⟨b, off, none⟩) b off cap w hT hsz (fun _ => rfl) hc

end Go.Proofs.YthfmjhicmopclaaDoor
