/-
  The walks of Range, slices.IndexFunc, Index and the order of Cells.
-/
import Derived.Test.YthfmjhicmopclaaDoorW9
import Derived.Test.YthfmjhicmopclaaDoorW13
namespace Go.Proofs.YthfmjhicmopclaaDoor
open Go.RowKit Go.Shelf

/-- The bytes from lo to hi. -/
def rngC (lo hi : Nat) : Cls := filtB (fun b => decide (lo ≤ b)) (hi + 1)
theorem filtB_lo (lo k : Nat) (h : k ≤ lo) (hk : k ≤ 256) : filtB (fun b => decide (lo ≤ b)) k = 0#256 := by
  apply BitVec.eq_of_getLsbD_eq
  intro b hb
  rw [getLsbD_filtB _ _ _ hk]
  simp; omega
theorem filtB_hi (lo hi : Nat) (h : hi + 1 ≤ lo) (hk : lo ≤ 256) : filtB (fun b => decide (lo ≤ b)) lo = rngC lo hi := by
  rw [filtB_lo lo lo (Nat.le_refl _) hk]
  exact (filtB_lo lo (hi + 1) h (by omega)).symm

set_option maxRecDepth 100000 in
theorem range_any (lo hi : Nat) (hlo : lo < 256) (hhi : hi < 256) (w : World) :
    Calls Tryd.prog 36 #[.int .u8 (lo : Int), .int .u8 (hi : Int)] w fun e w' => e = .returned (.agg (encA (rngC lo hi))) ∧ Ext w w' := by
  go_enter Tryd.func36, Tryd.ntmps36
  go_wp2_with (fail)
  go_loopw [6] (fun i W => ∃ k : Nat, lo ≤ k ∧ (k ≤ hi + 1 ∨ k = lo) ∧ i = .int .i64 k ∧ Ext w W ∧ W.heap[w.heap.size]? = some (.cells zA 30 (0, 0)) ∧ W.heap[w.heap.size + 1]? = some (.cells (encA (filtB (fun b => decide (lo ≤ b)) k)) 30 (0, 0)))
    (fun i _ => hi + 1 - (intOf i).toNat)
  case atStart =>
    refine ⟨lo, by omega, .inr rfl, rfl, ((Ext.refl w).alloc _).alloc _, heap_alloc_keep (heap_alloc_new w _) _, ?_⟩
    rw [filtB_lo lo lo (Nat.le_refl _) (by omega), encA_zero]
    exact heap_alloc2_new w _ _
  case round =>
    obtain ⟨k, hk, hk2, rfl, hE, hR, hC⟩ := hrel
    have HC := Lib.hid hC
    have HR := Lib.hid hR
    clear hC hR
    by_cases hlt : k ≤ hi
    · have hw : IntKind.u8.wrap (k : Int) = k := IntWalk.u8_in _ ⟨by omega, by omega⟩
      have HS : Hid (filtB (fun b => decide (lo ≤ b)) (k + 1) = addB (filtB (fun b => decide (lo ≤ b)) k) (k : Int)) := Lib.hid (by simp only [filtB]; rw [if_pos (by simpa using hk)])
      have HA := Lib.hid (add_any (filtB (fun b => decide (lo ≤ b)) k) (k : Int) (by omega) (by omega) (w.heap.size + 1) 30 wr HC.out)
      clear hk2
      go_wp2_with (go_at_call 46; refine HA.out.mono ?_; rintro e w' ⟨rfl, rfl⟩; clear HA)
      go_roundw
      case rel =>
        refine ⟨k + 1, by omega, .inl (by omega), by go_num, (hE.setRow (by omega) _).drew, heap_setRow_keep HR.out (by omega) _, ?_⟩
        rw [HS.out]
        exact setRow_heap wr _ _ _ _ _ HC.out
      case measure => simp [intOf]; omega
    · have he : filtB (fun b => decide (lo ≤ b)) k = rngC lo hi := by
        rcases hk2 with h | h
        · obtain rfl : k = hi + 1 := by omega
          rfl
        · subst h; exact filtB_hi _ _ (by omega) (by omega)
      rw [he] at HC
      clear he hk2
      go_wp2_with (first
        | (refine wpList_load_row rfl 30 (.tmp 5) rfl _ rfl _ _ _ _ HC.out Tryd.underlying30 rfl info30 ?_)
        | (refine wpList_store_row rfl 30 _ _ rfl _ _ rfl rfl _ _ HR.out info30 rfl (encA_one _) ?_))
      refine bodyPost_ret (v := .agg (encA (rngC lo hi))) (results_cell_row rfl _ _ _ _ _ _ _ rfl (setRow_heap wr _ _ (encA (rngC lo hi)) 30 (0, 0) HR.out) Tryd.underlying30 rfl info30) rfl ?_
      exact ⟨rfl, hE.setRow (Nat.le_refl _) _⟩

/-- The closure of Index. -/
theorem idxclo_any (c : Cls) (x : Int) (hx0 : 0 ≤ x) (hx : x < 256) (B : Nat) (w : World) (hc : w.cell? ⟨B, 0, none⟩ = some (.int .u8 x)) (_hB : B < w.heap.size) :
    Calls Tryd.prog 42 #[.agg (encA c), .pointer (some ⟨B, 0, none⟩)] w fun e w' => e = .returned (.bool (memB c x)) ∧ Ext w w' := by
  have hA := heap_alloc_new w (.cells (encA c) 30)
  have hE := (Ext.refl w).alloc (.cells (encA c) 30)
  have hc1 := hE.cell hc
  have HA := Lib.hid hA
  clear hA hc
  go_enter Tryd.func42, Tryd.ntmps42
  go_wp2_with (first
    | (refine wpList_load_row rfl 30 (.tmp 2) rfl _ rfl _ _ _ _ HA.out Tryd.underlying30 rfl info30 ?_)
    | (go_at_call 20; refine (has_any c x hx0 hx _).mono ?_; rintro e w' ⟨rfl, hE'⟩))
  go_ret
  exact ⟨rfl, hE.trans hE'⟩

set_option maxRecDepth 100000 in
theorem indexFunc_walk (l : List Cls) (x : Int) (hx0 : 0 ≤ x) (hx : x < 256) (hl : l.length ≤ 4611686018427387904) (a : Option Addr) (b off cap : Nat) (B : Nat) (w : World) (hcx : w.cell? ⟨B, 0, none⟩ = some (.int .u8 x)) (hB : B < w.heap.size) (ha : 0 < l.length → a = some ⟨b, off, none⟩)
    (hc : ∀ i, i < l.length * 4 → w.cell? ⟨b, off + i, none⟩ = some (.int .u64 (wd (l.getD (i / 4) 0#256) (i % 4)))) :
    Calls Tryd.prog 41 #[.slice a l.length cap, .func (.func 42) #[] #[.pointer (some ⟨B, 0, none⟩)]] w fun e w' => e = .returned (.int .i64 (idxC l x)) ∧ Ext w w' := by
  go_enter Tryd.func41, Tryd.ntmps41
  go_wp2_with (fail)
  go_loopw [8] (fun i W => ∃ k : Nat, k ≤ l.length ∧ i = .int .i64 k ∧ Ext w W ∧ Hid (∀ j, j < k → memB (l.getD j 0#256) x = false))
    (fun i _ => l.length - (intOf i).toNat)
  case atStart => exact ⟨0, by omega, rfl, Ext.refl w, Lib.hid (fun j hj => by omega)⟩
  case round =>
    obtain ⟨k, hk, rfl, hE, hall⟩ := hrel
    by_cases hlt : k < l.length
    · have e := ha (by omega)
      obtain ⟨a0, a1, a2, a3⟩ := cs_cells (W := wr) (fun i hi => hE.cell (hc i hi)) k hlt
      have Hcx := Lib.hid hcx
      clear ha hc hcx
      subst e
      obtain ⟨c, hcd⟩ : ∃ c, l.getD k 0#256 = c := ⟨_, rfl⟩
      rw [hcd] at a0 a1 a2 a3
      have HCd := Lib.hid hcd
      clear hcd
      go_upto_region 4 with (fail)
      have h1 := fun (e : EW wr) => Lib.hid (idxclo_any c x hx0 hx B e.W ((hE.trans e.ext).cell Hcx.out) (Nat.lt_of_lt_of_le hB (hE.trans e.ext).size))
      generalize hm1 : memB c x = m1 at h1
      have HM1 := Lib.hid hm1
      clear hm1
      go_cut [16] (fun v W => v = .bool m1 ∧ ∃ e : EW wr, W = e.W)
      case first =>
        refine region_ew_text 6 ?_
        simp only [List.take_succ_cons, List.drop_succ_cons, List.take_nil, List.drop_nil]
        iterate 6 (refine wpQuiet_step (fun K hK => ?_); go_simp; first | (refine hK _ ?_; clear hK K) | (apply Exists.intro; refine ⟨fun _ => ?_, hK _ ?_⟩; (with_reducible exact calls_ew (h1 _).out); clear hK K))
        refine wpQuiet_nil ?_
        rintro _ ⟨e, rfl⟩
        refine wpList_nil ?_
        go_wp2
        go_meet
        exact ⟨rfl, e, rfl⟩
      case rest =>
        obtain ⟨rfl, e, rfl⟩ := hcut
        clear a0 a1 a2 a3 h1
        have hE' := hE.trans e.ext
        generalize e.W = w1 at *
        cases m1
        · go_wp2
          go_roundw
          case rel => exact ⟨k + 1, by omega, by go_num, hE', Lib.hid (fun j hj => by
            by_cases hjk : j = k
            · subst hjk; rw [HCd.out, HM1.out]
            · exact hall.out j (by omega))⟩
          case measure => simp [intOf]; omega
        · have HF := Lib.hid (idxC_hit l x k hlt (by rw [HCd.out, HM1.out]) hall.out)
          go_wp2
          go_ret
          exact ⟨ret_int HF.out.symm, hE'⟩
    · obtain rfl : k = l.length := by omega
      have HF := Lib.hid (idxC_miss l x hall.out)
      clear hall
      go_wp2
      go_ret
      exact ⟨ret_int HF.out.symm, hE⟩

theorem index_any (l : List Cls) (v : Value) (x : Int) (hx0 : 0 ≤ x) (hx : x < 256) (w : World) (h : Cs w v l) :
    Calls Tryd.prog 17 #[v, .int .u8 x] w fun e w' => e = .returned (.int .i64 (idxC l x)) ∧ Ext w w' := by
  have hE := (Ext.refl w).alloc (.cells #[.int .u8 x] 5)
  have hcx := cell_new_at w #[.int .u8 x] 5 0 _ rfl
  have hB : w.heap.size < (w.alloc (.cells #[.int .u8 x] 5)).heap.size := by simp
  have h' := h.ext hE
  have hcon : Calls Tryd.prog 41 #[v, .func (.func 42) #[] #[.pointer (some ⟨w.heap.size, 0, none⟩)]] (w.alloc (.cells #[.int .u8 x] 5)) fun e w' => e = .returned (.int .i64 (idxC l x)) ∧ Ext (w.alloc (.cells #[.int .u8 x] 5)) w' := by
    obtain ⟨h0, ⟨hn, a, cap, rfl⟩ | ⟨hn, b, off, cap, rfl, hb, hc⟩⟩ := h'
    · have := indexFunc_walk l x hx0 hx (by omega) a 0 0 cap w.heap.size _ hcx hB (by omega) (fun i hi => by omega)
      rwa [hn] at this
    · exact indexFunc_walk l x hx0 hx h0 (some ⟨b, off, none⟩) b off cap w.heap.size _ hcx hB (fun _ => rfl) hc
  have Hcon := Lib.hid hcon
  clear hcon hcx h h'
  go_enter Tryd.func17, Tryd.ntmps17
  go_wp2_with (go_at_call 41; refine Hcon.out.mono ?_; rintro e w' ⟨rfl, hE'⟩)
  go_ret
  exact ⟨rfl, hE.trans hE'⟩

end Go.Proofs.YthfmjhicmopclaaDoor
