/-
  The walk of ClassBytesInverse.
-/
import Derived.Test.YthfmjhicmopclaaDoorW19
namespace Go.Proofs.YthfmjhicmopclaaDoor
open Go.RowKit Go.Shelf

theorem By.split {W : World} {v : Value} {l : List UInt8} (h : By W v l) : ∃ a b off cap, v = .slice a l.length cap ∧ (0 < l.length → a = some ⟨b, off, none⟩) ∧ ∀ i, i < l.length → W.cell? ⟨b, off + i, none⟩ = some (bv (l.getD i 0)) := by
  obtain ⟨h0, ⟨hn, a, cap, rfl⟩ | ⟨hn, b, off, cap, rfl, hb, hc⟩⟩ := h
  · exact ⟨a, 0, 0, cap, by rw [hn], by omega, by omega⟩
  · exact ⟨_, b, off, cap, rfl, fun _ => rfl, fun i hi => hc i (by omega)⟩

theorem bytes_inc (c : Cls) (k : Nat) (hk : k ≤ 256) : (bytesTo c k).Pairwise fun a b => a.toNat < b.toNat := by
  induction k with
  | zero => exact List.Pairwise.nil
  | succ k ih =>
    simp only [bytesTo]
    split
    · rw [List.pairwise_append]
      refine ⟨ih (by omega), List.pairwise_singleton _ _, fun a ha b hb => ?_⟩
      rw [List.mem_singleton] at hb
      subst hb
      rw [u8n k (by omega)]
      exact ((mem_bytesTo c k (by omega) a).1 ha).1
    · exact ih (by omega)
theorem ofL_at (l : List UInt8) (i : Nat) (hi : i < 256) : (ofL l).getLsbD i = decide (UInt8.ofNat i ∈ l) := by
  have key : ∀ (l : List UInt8) (d : Cls), (l.foldl (fun d x => addB d (x.toNat : Int)) d).getLsbD i = (d.getLsbD i || decide (UInt8.ofNat i ∈ l)) := by
    intro l
    induction l with
    | nil => intro d; simp
    | cons x l ih =>
      intro d
      rw [List.foldl_cons, ih]
      have hx : (UInt8.ofNat i = x) ↔ i = x.toNat := by rw [← UInt8.toNat_inj, u8n i hi]
      simp only [addB, Int.toNat_natCast, BitVec.getLsbD_or, BitVec.getLsbD_twoPow, List.mem_cons, hx]
      have := x.toNat_lt
      by_cases h : i = x.toNat
      · subst h; simp [hi]
      · simp [h, Ne.symm h]
  have := key l 0#256
  rw [BitVec.getLsbD_zero, Bool.false_or] at this
  exact this
theorem ofL_bytes (c : Cls) : ofL (bytesTo c 256) = c := by
  apply BitVec.eq_of_getLsbD_eq
  intro i hi
  rw [ofL_at _ i hi]
  have := mem_bytes c (UInt8.ofNat i)
  rw [u8n i hi] at this
  cases h : c.getLsbD i
  · simp [this, h]
  · simp [this, h]

theorem headI_getD (l : List UInt8) (h : 0 < l.length) : headI l = ((l.getD 0 0).toNat : Int) := by
  cases l with
  | nil => simp at h
  | cons x t => rfl

set_option maxHeartbeats 2000000 in
set_option maxRecDepth 100000 in
theorem inverse_any (c : Cls) (w : World) (hT : Tab w) (hsz : 0 < w.heap.size) :
    Calls Tryd.prog 4 #[.agg (encA c)] w fun e w' => e = .returned (.bool true) ∧ Ext w w' := by
  have hS := fun W hT hs => Lib.hid (sanity_any W hT hs)
  have f19 := fun W hT hs => Lib.hid (bytes_any c W hT hs)
  have HM := Lib.hid (fun i (hi : i < (bytesTo c 256).length) => (mem_bytes c ((bytesTo c 256).getD i 0)).1 (by rw [List.getD_eq_getElem?_getD, List.getElem?_eq_getElem hi]; exact List.getElem_mem hi))
  have HI := Lib.hid (bytes_inc c 256 (Nat.le_refl _))
  have HO := Lib.hid (ofL_bytes c)
  have HZ := Lib.hid (bytesTo_cnt c 256)
  have HL := Lib.hid (bytesTo_len c 256)
  have f23 := fun (l : List UInt8) (h : bytesTo c 256 = l) W w hT hsz hE => Lib.hid (l_any c (headI l) (by rw [h]) W w hT hsz hE)
  obtain ⟨l, hl⟩ : ∃ l, bytesTo c 256 = l := ⟨_, rfl⟩
  have f23 := f23 l hl
  rw [hl] at HM HI HO HZ HL
  simp only [hl] at f19
  clear hl
  have hE0 := (Ext.refl w).alloc (.cells (encA c) 30)
  have H1 := Lib.hid (heap_alloc_at w (.cells (encA c) 30))
  go_enter Tryd.func4, Tryd.ntmps4
  go_upto_region 2 with (go_at_call 13; with_reducible refine (hS _ (hT.below hE0.below hsz) (by have := hE0.size; omega)).out.mono ?_; rintro e w1 ⟨rfl, hE1⟩)
  have H1 := Lib.hid (hE1.heap H1.out)
  have hE1 := hE0.trans hE1
  go_wp2_with (first
    | (refine wpList_load_row rfl 30 (.tmp 1) rfl _ rfl _ _ _ _ H1.out Tryd.underlying30 rfl info30 ?_)
    | (go_at_call 19; with_reducible refine (f19 _ (hT.below hE1.below hsz) (by have := hE1.size; omega)).out.mono ?_; rintro e w2 ⟨v, rfl, hB, hE2⟩))
  have hE := hE1.trans hE2
  have H1 := Lib.hid (hE2.heap H1.out)
  obtain ⟨a, b, off, cap, rfl, ha, hc⟩ := hB.split
  have HBy := Lib.hid hB
  clear hS f19 hE0 hE1 hE2 hB
  have f21 := fun e : EW w2 => Lib.hid (by have := of_any l _ e.W (HBy.out.ext e.ext); rwa [HO.out] at this : Calls Tryd.prog 21 #[.slice a l.length cap] e.W fun r w' => r = .returned (.agg (encA c)) ∧ Ext e.W w')
  go_loopw [5] (fun i W => ∃ k : Nat, k ≤ l.length ∧ i = .int .i64 k ∧ Ext w2 W) (fun i _ => l.length - (intOf i).toNat)
  case atStart => exact ⟨0, by omega, rfl, Ext.refl _⟩
  case round =>
    obtain ⟨k, hk, rfl, hEk⟩ := hrel
    have hl256 := HL.out
    by_cases hlt : k < l.length
    · have e := ha (by omega)
      have ck := ew_cell (hEk.cell (hc k hlt))
      have cm := ew_cell (hEk.cell (hc (k - 1) (by omega)))
      have hxm := HM.out k hlt
      have HX : Hid (0 < k → (l.getD (k - 1) 0).toNat < (l.getD k 0).toNat) := Lib.hid fun h0 => by
        have := List.pairwise_iff_getElem.1 HI.out (k - 1) k (by omega) hlt (by omega)
        simpa [List.getD_eq_getElem?_getD, hlt, show k - 1 < l.length by omega] using this
      have HA := Lib.hid ha
      have HC := Lib.hid hc
      clear ha hc
      subst e
      generalize l.getD k 0 = x at *
      generalize l.getD (k - 1) 0 = y at *
      have hxlt := x.toNat_lt
      have f20 := fun W => Lib.hid (h_any c (x.toNat : Int) (by omega) (by omega) true (by unfold memB; rw [Int.toNat_natCast]; exact hxm) W)
      clear hxm
      obtain ⟨x0, x1, x2, x3⟩ := ew_cells (hEk.heap H1.out)
      go_upto_region 6 with (fail)
      go_cut [38] (fun v W => v = .bool false ∧ ∃ e : EW wr, W = e.W)
      case first =>
        by_cases hk0 : 0 < k
        · have d0 : decide (0 < k) = true := by simpa using hk0
          have d1 : decide (x.toNat ≤ y.toNat) = false := by have := HX.out hk0; simpa using this
          have wk : IntKind.i64.wrap ((k : Int) - 1) = ((k - 1 : Nat) : Int) := by rw [IntWalk.i64_in _ ⟨by omega, by omega⟩]; omega
          have hm : k - 1 < l.length := by omega
          generalize k - 1 = m at *
          refine region_ew (by kernel_rfl) (by kernel_rfl) ?_
          iterate 23 (with_reducible refine wpQuiet_step (fun K hK => ?_); go_simp; first | (refine hK _ ?_; clear hK K) | (apply Exists.intro; refine ⟨fun _ => ?_, hK _ ?_⟩; (first | (with_reducible exact calls_ew (f20 _).out)); clear hK K))
          refine wpQuiet_nil ?_
          rintro _ ⟨e, rfl⟩
          go_wp2
          go_meet
          exact ⟨rfl, e, rfl⟩
        · have d0 : decide (0 < k) = false := by simpa using hk0
          clear cm HX hk0
          refine region_ew (by kernel_rfl) (by kernel_rfl) ?_
          iterate 23 (with_reducible refine wpQuiet_step (fun K hK => ?_); go_simp; first | (refine hK _ ?_; clear hK K) | (apply Exists.intro; refine ⟨fun _ => ?_, hK _ ?_⟩; (first | (with_reducible exact calls_ew (f20 _).out)); clear hK K))
          refine wpQuiet_nil ?_
          rintro _ ⟨e, rfl⟩
          go_wp2
          go_meet
          exact ⟨rfl, e, rfl⟩
      case rest =>
        obtain ⟨rfl, e, rfl⟩ := hcut
        have hE' := hEk.trans e.ext
        clear ck cm x0 x1 x2 x3 f20
        generalize e.W = w3 at *
        have ha := HA.out
        have hc := HC.out
        go_wp2
        go_roundw
        case rel => exact ⟨k + 1, by omega, by go_num, hE'⟩
        case measure => simp [intOf]; omega
    · obtain rfl : k = l.length := by omega
      clear hlt hl256
      have HD := Lib.hid hEk
      have f21' := fun e : EW wr => f21 ⟨e.W, HD.out.trans e.ext⟩
      have f22 := fun W => Lib.hid (s_any c (l.length : Int) (by rw [HZ.out]; rfl) W)
      have f23' := fun e : EW wr => f23 e.W w hT hsz (hE.trans (HD.out.trans e.ext))
      have g1 := eqT c
      have g3 := gt30
      obtain ⟨x0, x1, x2, x3⟩ := ew_cells (HD.out.heap H1.out)
      clear f21 f23 hEk
      by_cases h0 : 0 < l.length
      · have e := ha h0
        have c0 := HD.out.cell (hc 0 h0)
        have HH := Lib.hid (headI_getD l h0)
        have hxlt := (l.getD 0 0).toNat_lt
        rw [Nat.add_zero] at c0
        clear ha hc
        subst e
        rw [HH.out] at f23'
        clear HH
        generalize l.getD 0 0 = x at *
        have w3 : IntKind.i64.wrap (x.toNat : Int) = x.toNat := IntWalk.i64_in _ ⟨by omega, by omega⟩
        have d0 : decide (0 < l.length) = true := by simpa using h0
        go_upto_region 11 with (fail)
        refine region_ew (by kernel_rfl) (by kernel_rfl) ?_
        iterate 21 (with_reducible refine wpQuiet_step (fun K hK => ?_); go_simp; first | (refine hK _ ?_; clear hK K) | (apply Exists.intro; refine ⟨fun _ => ?_, hK _ ?_⟩; (first | (with_reducible exact calls_ew (f21' _).out) | (with_reducible exact calls_ew (f22 _).out) | (with_reducible exact calls_ew (f23' _).out)); clear hK K))
        refine wpQuiet_nil ?_
        rintro _ ⟨e, rfl⟩
        go_wp2
        go_ret
        exact ⟨rfl, hE.trans (HD.out.trans e.ext)⟩
      · have hnil : l = [] := List.eq_nil_of_length_eq_zero (by omega)
        have HN : Hid (headI l = -1) := Lib.hid (by rw [hnil]; rfl)
        clear hnil ha hc
        rw [HN.out] at f23'
        have d0 : decide (0 < l.length) = false := by simpa using h0
        go_upto_region 11 with (fail)
        refine region_ew (by kernel_rfl) (by kernel_rfl) ?_
        iterate 21 (with_reducible refine wpQuiet_step (fun K hK => ?_); go_simp; first | (refine hK _ ?_; clear hK K) | (apply Exists.intro; refine ⟨fun _ => ?_, hK _ ?_⟩; (first | (with_reducible exact calls_ew (f21' _).out) | (with_reducible exact calls_ew (f22 _).out) | (with_reducible exact calls_ew (f23' _).out)); clear hK K))
        refine wpQuiet_nil ?_
        rintro _ ⟨e, rfl⟩
        go_wp2
        go_ret
        exact ⟨rfl, hE.trans (HD.out.trans e.ext)⟩

end Go.Proofs.YthfmjhicmopclaaDoor
