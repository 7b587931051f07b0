/-
  The walk of the reference's Same.
-/
import Derived.Test.YthfmjhicmopclaaDoorW8
import Derived.Test.YthfmjhicmopclaaDoorEq
namespace Go.Proofs.YthfmjhicmopclaaDoor
open Go.RowKit Go.Shelf

theorem same_walk_ne (l r : List Cls) (hne : l.length ≠ r.length) (_hl : l.length ≤ 4611686018427387904) (_hr : r.length ≤ 4611686018427387904) (a a' : Option Addr) (cap cap' : Nat) (w : World) :
    Calls Tryd.prog 14 #[.slice a l.length cap, .slice a' r.length cap'] w fun e w' => e = .returned (.bool (l == r)) ∧ Ext w w' := by
  have h : (l == r) = false := by
    rw [beq_eq_false_iff_ne]; intro e; exact hne (by rw [e])
  have H := Lib.hid h
  clear h
  have hn : ((l.length : Int) != (r.length : Int)) = true := by simp; omega
  go_enter Tryd.func14, Tryd.ntmps14
  go_wp2
  go_ret
  exact ⟨ret_bool H.out.symm, Ext.refl w⟩

theorem list_eq_of (l r : List Cls) (hlen : l.length = r.length) (h : ∀ j, j < l.length → l.getD j 0#256 = r.getD j 0#256) : l = r := by
  apply List.ext_getElem hlen
  intro i h1 h2
  have := h i h1
  rwa [List.getD_eq_getElem?_getD, List.getD_eq_getElem?_getD, List.getElem?_eq_getElem h1, List.getElem?_eq_getElem h2] at this

set_option maxRecDepth 100000 in
theorem same_walk (l r : List Cls) (hlen : Hid (r.length = l.length)) (hl : l.length ≤ 4611686018427387904) (a a' : Option Addr) (b off b' off' cap cap' : Nat) (w : World) (ha : 0 < l.length → a = some ⟨b, off, none⟩) (ha' : 0 < l.length → a' = some ⟨b', off', none⟩)
    (hc : ∀ i, i < l.length * 4 → w.cell? ⟨b, off + i, none⟩ = some (.int .u64 (wd (l.getD (i / 4) 0#256) (i % 4))))
    (hc' : ∀ i, i < l.length * 4 → w.cell? ⟨b', off' + i, none⟩ = some (.int .u64 (wd (r.getD (i / 4) 0#256) (i % 4)))) :
    Calls Tryd.prog 14 #[.slice a l.length cap, .slice a' l.length cap'] w fun e w' => e = .returned (.bool (l == r)) ∧ Ext w w' := by
  have hn : ((l.length : Int) != (l.length : Int)) = false := by simp
  go_enter Tryd.func14, Tryd.ntmps14
  go_wp2_with (fail)
  clear hn
  go_loopw [5] (fun i W => ∃ k : Nat, k ≤ l.length ∧ i = .int .i64 k ∧ Ext w W ∧ Hid (∀ j, j < k → l.getD j 0#256 = r.getD j 0#256))
    (fun i _ => l.length - (intOf i).toNat)
  case atStart => exact ⟨0, by omega, rfl, Ext.refl w, Lib.hid (fun j hj => by omega)⟩
  case round =>
    obtain ⟨k, hk, rfl, hE, hall⟩ := hrel
    by_cases hlt : k < l.length
    · have e := ha (by omega)
      have e' := ha' (by omega)
      obtain ⟨a0, a1, a2, a3⟩ := cs_cells (W := wr) (fun i hi => hE.cell (hc i hi)) k hlt
      obtain ⟨b0, b1, b2, b3⟩ := cs_cells (W := wr) (l := r) (fun i hi => hE.cell (hc' i (by rw [hlen.out] at hi; exact hi))) k (by rw [hlen.out]; exact hlt)
      clear ha ha' hc hc'
      subst e
      subst e'
      obtain ⟨c, hcd⟩ : ∃ c, l.getD k 0#256 = c := ⟨_, rfl⟩
      rw [hcd] at a0 a1 a2 a3
      have HCd := Lib.hid hcd
      clear hcd
      obtain ⟨d, hdd⟩ : ∃ d, r.getD k 0#256 = d := ⟨_, rfl⟩
      rw [hdd] at b0 b1 b2 b3
      have HDd := Lib.hid hdd
      clear hdd
      go_upto_region 6 with (fail)
      have h1 := fun W => run_eq30 c d W
      have h2 := gt30
      generalize hm : (c == d) = m at h1
      have HM := Lib.hid hm
      clear hm
      go_cut [25] (fun v W => v = .bool (!m) ∧ ∃ e : EW wr, W = e.W)
      case first =>
        refine region_ew (by kernel_rfl) (by kernel_rfl) ?_
        iterate 9 (refine wpQuiet_step (fun K hK => ?_); go_simp; (refine hK _ ?_; clear hK K))
        refine wpQuiet_nil ?_
        rintro _ ⟨e, rfl⟩
        go_wp2
        go_meet
        exact ⟨rfl, e, rfl⟩
      case rest =>
        obtain ⟨rfl, e, rfl⟩ := hcut
        clear a0 a1 a2 a3 b0 b1 b2 b3 h1 h2
        have hE' := hE.trans e.ext
        generalize e.W = w1 at *
        cases m
        · have hf : (l == r) = false := by
            rw [beq_eq_false_iff_ne]; rintro rfl
            have := HM.out
            rw [← HCd.out, ← HDd.out] at this
            simp at this
          have HF := Lib.hid hf
          clear hf
          go_wp2
          go_ret
          exact ⟨ret_bool HF.out.symm, hE'⟩
        · go_wp2
          go_roundw
          case rel => exact ⟨k + 1, by omega, by go_num, hE', Lib.hid (fun j hj => by
            by_cases hjk : j = k
            · subst hjk; rw [HCd.out, HDd.out]; exact beq_iff_eq.1 HM.out
            · exact hall.out j (by omega))⟩
          case measure => simp [intOf]; omega
    · obtain rfl : k = l.length := by omega
      have hf : (l == r) = true := by
        rw [beq_iff_eq]
        exact list_eq_of l r hlen.out.symm hall.out
      have HF := Lib.hid hf
      clear hf hall
      go_wp2
      go_ret
      exact ⟨ret_bool HF.out.symm, hE⟩

theorem same_any (l r : List Cls) (v u : Value) (w : World) (h : Cs w v l) (h' : Cs w u r) :
    Calls Tryd.prog 14 #[v, u] w fun e w' => e = .returned (.bool (l == r)) ∧ Ext w w' := by
  by_cases hlen : l.length = r.length
  · obtain ⟨h0, ⟨hn, a, cap, rfl⟩ | ⟨hn, b, off, cap, rfl, hb, hc⟩⟩ := h
    · obtain ⟨h0', ⟨hn', a', cap', rfl⟩ | ⟨hn', b', off', cap', rfl, hb', hc'⟩⟩ := h'
      · have := same_walk l r (Lib.hid hlen.symm) (by omega) a a' 0 0 0 0 cap cap' w (by omega) (by omega) (fun i hi => by omega) (fun i hi => by omega)
        rwa [hn] at this
      · omega
    · obtain ⟨h0', ⟨hn', a', cap', rfl⟩ | ⟨hn', b', off', cap', rfl, hb', hc'⟩⟩ := h'
      · omega
      · have := same_walk l r (Lib.hid hlen.symm) h0 (some ⟨b, off, none⟩) (some ⟨b', off', none⟩) b off b' off' cap cap' w (fun _ => rfl) (fun _ => rfl) hc (fun i hi => hc' i (by rw [← hlen]; exact hi))
        rw [show Value.slice (some ⟨b', off', none⟩) l.length cap' = Value.slice (some ⟨b', off', none⟩) r.length cap' by rw [hlen]] at this
        exact this
  · obtain ⟨a, cap, hv⟩ : ∃ a cap, v = .slice a l.length cap := by
      obtain ⟨h0, ⟨hn, a, cap, rfl⟩ | ⟨hn, b, off, cap, rfl, hb, hc⟩⟩ := h
      · exact ⟨a, cap, by rw [hn]⟩
      · exact ⟨_, cap, rfl⟩
    obtain ⟨a', cap', hu⟩ : ∃ a cap, u = .slice a r.length cap := by
      obtain ⟨h0, ⟨hn, a, cap, rfl⟩ | ⟨hn, b, off, cap, rfl, hb, hc⟩⟩ := h'
      · exact ⟨a, cap, by rw [hn]⟩
      · exact ⟨_, cap, rfl⟩
    rw [hv, hu]
    exact same_walk_ne l r hlen h.1 h'.1 a a' cap cap' w

end Go.Proofs.YthfmjhicmopclaaDoor
