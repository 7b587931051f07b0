/-
  The walks of the reference's Alike, Index, Same.
-/
import Derived.Test.YthfmjhicmopclaaDoorW7
namespace Go.Proofs.YthfmjhicmopclaaDoor
open Go.RowKit Go.Shelf

/-- A slice of classes. -/
def Cs (W : World) (v : Value) (l : List Cls) : Prop := Sl W v 4 l.length (fun i => .int .u64 (wd (l.getD (i / 4) 0#256) (i % 4)))
theorem Cs.ext {W W' : World} {v : Value} {l : List Cls} (h : Cs W v l) (hE : Ext W W') : Cs W' v l := Sl.ext h hE
theorem cs_cells {W : World} {b off : Nat} {l : List Cls} (h : ∀ i, i < l.length * 4 → W.cell? ⟨b, off + i, none⟩ = some (.int .u64 (wd (l.getD (i / 4) 0#256) (i % 4)))) (k : Nat) (hk : k < l.length) :
    (∀ e : EW W, e.W.cell? ⟨b, off + k * 4, none⟩ = some (.int .u64 (wd (l.getD k 0#256) 0))) ∧ (∀ e : EW W, e.W.cell? ⟨b, off + k * 4 + 1, none⟩ = some (.int .u64 (wd (l.getD k 0#256) 1))) ∧
    (∀ e : EW W, e.W.cell? ⟨b, off + k * 4 + 2, none⟩ = some (.int .u64 (wd (l.getD k 0#256) 2))) ∧ (∀ e : EW W, e.W.cell? ⟨b, off + k * 4 + 3, none⟩ = some (.int .u64 (wd (l.getD k 0#256) 3))) := by
  have H : ∀ j, j < 4 → W.cell? ⟨b, off + k * 4 + j, none⟩ = some (.int .u64 (wd (l.getD k 0#256) j)) := fun j hj => by
    have := h (k * 4 + j) (by omega)
    rwa [show (k * 4 + j) / 4 = k by omega, show (k * 4 + j) % 4 = j by omega, ← Nat.add_assoc] at this
  exact ⟨ew_cell (H 0 (by omega)), ew_cell (H 1 (by omega)), ew_cell (H 2 (by omega)), ew_cell (H 3 (by omega))⟩

set_option maxRecDepth 100000 in
theorem alike_walk (l : List Cls) (x y : Int) (hx0 : 0 ≤ x) (hx : x < 256) (hy0 : 0 ≤ y) (hy : y < 256) (hl : l.length ≤ 4611686018427387904) (a : Option Addr) (b off cap : Nat) (w : World) (ha : 0 < l.length → a = some ⟨b, off, none⟩)
    (hc : ∀ i, i < l.length * 4 → w.cell? ⟨b, off + i, none⟩ = some (.int .u64 (wd (l.getD (i / 4) 0#256) (i % 4)))) :
    Calls Tryd.prog 39 #[.slice a l.length cap, .int .u8 x, .int .u8 y] w fun e w' => e = .returned (.bool (l.all fun c => memB c x == memB c y)) ∧ Ext w w' := by
  go_enter Tryd.func39, Tryd.ntmps39
  go_wp2_with (fail)
  go_loopw [7] (fun i W => ∃ k : Nat, k ≤ l.length ∧ i = .int .i64 k ∧ Ext w W ∧ Hid (∀ j, j < k → memB (l.getD j 0#256) x = memB (l.getD j 0#256) y))
    (fun i _ => l.length - (intOf i).toNat)
  case atStart => exact ⟨0, by omega, rfl, Ext.refl w, Lib.hid (fun j hj => by omega)⟩
  case round =>
    obtain ⟨k, hk, rfl, hE, hall⟩ := hrel
    by_cases hlt : k < l.length
    · have e := ha (by omega)
      obtain ⟨a0, a1, a2, a3⟩ := cs_cells (W := wr) (fun i hi => hE.cell (hc i hi)) k hlt
      clear ha hc
      subst e
      obtain ⟨c, hcd⟩ : ∃ c, l.getD k 0#256 = c := ⟨_, rfl⟩
      rw [hcd] at a0 a1 a2 a3
      have HCd := Lib.hid hcd
      clear hcd
      go_upto_region 4 with (fail)
      have h1 := fun (W : World) => Lib.hid (rHas_any c x hx0 hx W)
      have h2 := fun (W : World) => Lib.hid (rHas_any c y hy0 hy W)
      generalize hm1 : memB c x = m1 at h1
      generalize hm2 : memB c y = m2 at h2
      have HM1 := Lib.hid hm1
      have HM2 := Lib.hid hm2
      clear hm1 hm2
      go_cut [26] (fun v W => v = .bool (m1 != m2) ∧ ∃ e : EW wr, W = e.W)
      case first =>
        refine region_ew (by kernel_rfl) (by kernel_rfl) ?_
        iterate 13 (refine wpQuiet_step (fun K hK => ?_); go_simp; first | (refine hK _ ?_; clear hK K) | (apply Exists.intro; refine ⟨fun _ => ?_, hK _ ?_⟩; (first | (with_reducible exact calls_ew (h1 _).out) | (with_reducible exact calls_ew (h2 _).out)); clear hK K))
        refine wpQuiet_nil ?_
        rintro _ ⟨e, rfl⟩
        go_wp2
        go_meet
        exact ⟨rfl, e, rfl⟩
      case rest =>
        obtain ⟨rfl, e, rfl⟩ := hcut
        clear a0 a1 a2 a3 h1 h2
        have hE' := hE.trans e.ext
        generalize e.W = w1 at *
        generalize hmm : (m1 != m2) = mm at *
        have HMM := Lib.hid hmm
        clear hmm
        cases mm
        · go_wp2
          go_roundw
          case rel => exact ⟨k + 1, by omega, by go_num, hE', Lib.hid (fun j hj => by
            by_cases hjk : j = k
            · subst hjk; rw [HCd.out, HM1.out, HM2.out]; simpa using HMM.out
            · exact hall.out j (by omega))⟩
          case measure => simp [intOf]; omega
        · have hf : (l.all fun c => memB c x == memB c y) = false := by
            rw [List.all_eq_false]
            refine ⟨c, ?_, by rw [HM1.out, HM2.out]; simpa using HMM.out⟩
            rw [← HCd.out, List.getD_eq_getElem?_getD, List.getElem?_eq_getElem hlt]
            exact List.getElem_mem hlt
          have HF := Lib.hid hf
          clear hf
          go_wp2
          go_ret
          exact ⟨ret_bool HF.out.symm, hE'⟩
    · obtain rfl : k = l.length := by omega
      have hf : (l.all fun c => memB c x == memB c y) = true := by
        rw [List.all_eq_true]
        intro c hcm
        obtain ⟨j, hj, rfl⟩ := List.mem_iff_getElem.1 hcm
        have := hall.out j hj
        rw [List.getD_eq_getElem?_getD, List.getElem?_eq_getElem hj] at this
        simpa using this
      have HF := Lib.hid hf
      clear hf hall
      go_wp2
      go_ret
      exact ⟨ret_bool HF.out.symm, hE⟩

theorem alike_any (l : List Cls) (v : Value) (x y : Int) (hx0 : 0 ≤ x) (hx : x < 256) (hy0 : 0 ≤ y) (hy : y < 256) (w : World) (h : Cs w v l) :
    Calls Tryd.prog 39 #[v, .int .u8 x, .int .u8 y] w fun e w' => e = .returned (.bool (l.all fun c => memB c x == memB c y)) ∧ Ext w w' := by
  obtain ⟨h0, ⟨hn, a, cap, rfl⟩ | ⟨hn, b, off, cap, rfl, hb, hc⟩⟩ := h
  · have := alike_walk l x y hx0 hx hy0 hy (by omega) a 0 0 cap w (by omega) (fun i hi => by omega)
    rwa [hn] at this
  · exact alike_walk l x y hx0 hx hy0 hy h0 (some ⟨b, off, none⟩) b off cap w (fun _ => rfl) hc

/-- The first index of a class that holds b, or -1. -/
def idxC (l : List Cls) (b : Int) : Int := match l.findIdx? (fun c => memB c b) with | some i => (i : Int) | none => -1
theorem idxC_hit (l : List Cls) (b : Int) (k : Nat) (hk : k < l.length) (h : memB (l.getD k 0#256) b = true) (hne : ∀ j, j < k → memB (l.getD j 0#256) b = false) : idxC l b = k := by
  have : l.findIdx? (fun c => memB c b) = some k := by
    rw [List.findIdx?_eq_some_iff_getElem]
    refine ⟨hk, by rwa [List.getD_eq_getElem?_getD, List.getElem?_eq_getElem hk] at h, fun j hj => ?_⟩
    have h1 := hne j hj
    rw [List.getD_eq_getElem?_getD, List.getElem?_eq_getElem (by omega)] at h1
    simpa using h1
  unfold idxC; rw [this]
theorem idxC_miss (l : List Cls) (b : Int) (hne : ∀ j, j < l.length → memB (l.getD j 0#256) b = false) : idxC l b = -1 := by
  have : l.findIdx? (fun c => memB c b) = none := by
    rw [List.findIdx?_eq_none_iff]
    intro c hc
    obtain ⟨j, hj, rfl⟩ := List.mem_iff_getElem.1 hc
    have h1 := hne j hj
    rwa [List.getD_eq_getElem?_getD, List.getElem?_eq_getElem hj] at h1
  unfold idxC; rw [this]

set_option maxRecDepth 100000 in
theorem rindex_walk (l : List Cls) (x : Int) (hx0 : 0 ≤ x) (hx : x < 256) (hl : l.length ≤ 4611686018427387904) (a : Option Addr) (b off cap : Nat) (w : World) (ha : 0 < l.length → a = some ⟨b, off, none⟩)
    (hc : ∀ i, i < l.length * 4 → w.cell? ⟨b, off + i, none⟩ = some (.int .u64 (wd (l.getD (i / 4) 0#256) (i % 4)))) :
    Calls Tryd.prog 18 #[.slice a l.length cap, .int .u8 x] w fun e w' => e = .returned (.int .i64 (idxC l x)) ∧ Ext w w' := by
  go_enter Tryd.func18, Tryd.ntmps18
  go_wp2_with (fail)
  go_loopw [5] (fun i W => ∃ k : Nat, k ≤ l.length ∧ i = .int .i64 k ∧ Ext w W ∧ Hid (∀ j, j < k → memB (l.getD j 0#256) x = false))
    (fun i _ => l.length - (intOf i).toNat)
  case atStart => exact ⟨0, by omega, rfl, Ext.refl w, Lib.hid (fun j hj => by omega)⟩
  case round =>
    obtain ⟨k, hk, rfl, hE, hall⟩ := hrel
    by_cases hlt : k < l.length
    · have e := ha (by omega)
      obtain ⟨a0, a1, a2, a3⟩ := cs_cells (W := wr) (fun i hi => hE.cell (hc i hi)) k hlt
      clear ha hc
      subst e
      obtain ⟨c, hcd⟩ : ∃ c, l.getD k 0#256 = c := ⟨_, rfl⟩
      rw [hcd] at a0 a1 a2 a3
      have HCd := Lib.hid hcd
      clear hcd
      go_upto_region 4 with (fail)
      have h1 := fun (W : World) => Lib.hid (rHas_any c x hx0 hx W)
      generalize hm1 : memB c x = m1 at h1
      have HM1 := Lib.hid hm1
      clear hm1
      go_cut [17] (fun v W => v = .bool m1 ∧ ∃ e : EW wr, W = e.W)
      case first =>
        refine region_ew_text 6 ?_
        simp only [List.take_succ_cons, List.drop_succ_cons, List.take_nil, List.drop_nil]
        iterate 6 (refine wpQuiet_step (fun K hK => ?_); go_simp; first | (refine hK _ ?_; clear hK K) | (apply Exists.intro; refine ⟨fun _ => ?_, hK _ ?_⟩; (with_reducible exact calls_ew (h1 _).out); clear hK K))
        refine wpQuiet_nil ?_
        rintro _ ⟨e, rfl⟩
        refine wpList_nil ?_
        go_wp2
        go_meet
        exact ⟨rfl, e, rfl⟩
      case rest =>
        obtain ⟨rfl, e, rfl⟩ := hcut
        clear a0 a1 a2 a3 h1
        have hE' := hE.trans e.ext
        generalize e.W = w1 at *
        cases m1
        · go_wp2
          go_roundw
          case rel => exact ⟨k + 1, by omega, by go_num, hE', Lib.hid (fun j hj => by
            by_cases hjk : j = k
            · subst hjk; rw [HCd.out, HM1.out]
            · exact hall.out j (by omega))⟩
          case measure => simp [intOf]; omega
        · have HF := Lib.hid (idxC_hit l x k hlt (by rw [HCd.out, HM1.out]) hall.out)
          go_wp2
          go_ret
          exact ⟨ret_int HF.out.symm, hE'⟩
    · obtain rfl : k = l.length := by omega
      have HF := Lib.hid (idxC_miss l x hall.out)
      clear hall
      go_wp2
      go_ret
      exact ⟨ret_int HF.out.symm, hE⟩

theorem rindex_any (l : List Cls) (v : Value) (x : Int) (hx0 : 0 ≤ x) (hx : x < 256) (w : World) (h : Cs w v l) :
    Calls Tryd.prog 18 #[v, .int .u8 x] w fun e w' => e = .returned (.int .i64 (idxC l x)) ∧ Ext w w' := by
  obtain ⟨h0, ⟨hn, a, cap, rfl⟩ | ⟨hn, b, off, cap, rfl, hb, hc⟩⟩ := h
  · have := rindex_walk l x hx0 hx (by omega) a 0 0 cap w (by omega) (fun i hi => by omega)
    rwa [hn] at this
  · exact rindex_walk l x hx0 hx h0 (some ⟨b, off, none⟩) b off cap w (fun _ => rfl) hc

end Go.Proofs.YthfmjhicmopclaaDoor
