/-
  The walk of ClassMembership.
-/
import Derived.Test.YthfmjhicmopclaaDoorL4
import Derived.Test.YthfmjhicmopclaaDoorIn
namespace Go.Proofs.YthfmjhicmopclaaDoor
open Go.RowKit Go.Shelf

theorem memB_or (a b : Cls) (x : Int) : memB (a ||| b) x = (memB a x || memB b x) := by simp [memB]
theorem memB_and (a b : Cls) (x : Int) : memB (a &&& b) x = (memB a x && memB b x) := by simp [memB]
theorem memB_not (a : Cls) (x : UInt8) : memB (~~~a) (x.toNat : Int) = !memB a (x.toNat : Int) := by
  have := x.toNat_lt
  simp only [memB, Int.toNat_natCast]
  rw [BitVec.getLsbD_not, show decide (x.toNat < 256) = true by simp; omega, Bool.true_and]
theorem memB_minus (a b : Cls) (x : UInt8) : memB (a &&& ~~~b) (x.toNat : Int) = (memB a (x.toNat : Int) && !memB b (x.toNat : Int)) := by
  rw [memB_and, memB_not]
theorem memB_of (l : List UInt8) (x : UInt8) (h : x ∈ l) : memB (ofL l) (x.toNat : Int) = true := by
  unfold memB
  rw [Int.toNat_natCast, ofL_at l x.toNat x.toNat_lt]
  have : UInt8.ofNat x.toNat = x := by simp
  rw [this]
  simpa using h
theorem cnt_put (p : Nat → Bool) (k n : Nat) : cnt (fun i => p i || decide (i = k)) n ≤ cnt p n + 1 ∧ (n ≤ k → cnt (fun i => p i || decide (i = k)) n = cnt p n) := by
  induction n with
  | zero => exact ⟨by simp [cnt], fun _ => rfl⟩
  | succ n ih =>
    obtain ⟨h1, h2⟩ := ih
    simp only [cnt]
    refine ⟨?_, fun h => ?_⟩
    · by_cases hk : n = k
      · subst hk
        rw [h2 (Nat.le_refl _)]
        rcases Bool.eq_false_or_eq_true (p n) with hp | hp <;> simp [hp]
      · rcases Bool.eq_false_or_eq_true (p n) with hp | hp <;> simp [hp, hk] <;> omega
    · have : n ≠ k := by omega
      rw [h2 (by omega)]
      simp [this]
theorem sz_addB (c : Cls) (k : Nat) (hk : k < 256) : sz (addB c (k : Int)) ≤ sz c + 1 := by
  unfold sz
  have : (addB c (k : Int)).getLsbD = fun i => c.getLsbD i || decide (i = k) := by
    funext i
    exact getLsbD_addB c k i hk
  rw [this]
  exact (cnt_put c.getLsbD k 256).1
set_option maxRecDepth 10000 in
theorem sz_ofL (l : List UInt8) : sz (ofL l) ≤ l.length := by
  have : ∀ (l : List UInt8) (d : Cls), sz (l.foldl (fun d x => addB d (x.toNat : Int)) d) ≤ sz d + l.length := fun l => by
    induction l with
    | nil => intro d; exact Nat.le_refl _
    | cons x l ih =>
      intro d
      have h1 := ih (addB d (x.toNat : Int))
      have h2 := sz_addB d x.toNat x.toNat_lt
      rw [List.foldl_cons, List.length_cons]
      omega
  have := this l 0#256
  rw [sz_zero, Nat.zero_add] at this
  exact this

theorem region_ew_at {P : Program} {id : Nat} {Q : Exit → Act → World → Prop} {a : Act} {w : World} {e0 : EW w} {l : List Oper} (hm : P.follows .mixedOrders = true) (hB : Region.lexB .any l.toArray = true)
    (h : wpQuiet P l.toArray (fun W => ∃ e : EW w, W = e.W) (fun a' => ∀ w', (∃ e : EW w, w' = e.W) → Q .normal a' w') l a) : (Code.region id l.toArray true).wp P Q a e0.W :=
  wp_region_quiet (C := fun W => ∃ e : EW w, W = e.W) hm hB ⟨⟨_, e0.ext.drawn1⟩, rfl⟩ (by simpa using h)

set_option maxHeartbeats 8000000 in
set_option maxRecDepth 100000 in
theorem member_any (a b : Cls) (l : List UInt8) (v : Value) (w : World) (hT : Tab w) (hsz : 0 < w.heap.size) (s : ByW w v l) :
    Calls Tryd.prog 8 #[.agg (encA a), .agg (encA b), v] w fun e w' => e = .returned (.bool true) ∧ Ext w w' := by
  have HB := Lib.hid s
  obtain ⟨pa, pb, off, cap, rfl, ha, _, hc⟩ := s.split
  have hS := fun W hT hs => Lib.hid (sanity_any W hT hs)
  have hE0 := ((Ext.refl w).alloc (.cells (encA a) 30)).alloc (.cells (encA b) 30)
  have H1 := Lib.hid (heap_alloc_keep (heap_alloc_at w (.cells (encA a) 30)) (.cells (encA b) 30))
  have H2 := Lib.hid (heap_alloc2_new w (.cells (encA a) 30) (.cells (encA b) 30))
  have HA := Lib.hid ha
  have HC := Lib.hid hc
  have HM := Lib.hid (memB_of l)
  have HZ := Lib.hid (sz_ofL l)
  have HL := Lib.hid s.1
  have f21 := fun W (hE : Ext w W) => Lib.hid (of_w l _ W (by
    obtain ⟨h0, h | ⟨hn, b', off', cap', hv, hb, hcc⟩⟩ := HB.out
    · exact ⟨h0, .inl h⟩
    · exact ⟨h0, .inr ⟨hn, b', off', cap', hv, Nat.lt_of_lt_of_le hb hE.size, fun i hi => hE.cell (hcc i hi)⟩⟩))
  obtain ⟨o, ho⟩ : ∃ o, ofL l = o := ⟨_, rfl⟩
  rw [ho] at HM HZ
  simp only [ho] at f21
  clear s ha hc ho HB
  go_enter Tryd.func8, Tryd.ntmps8
  go_upto_region 3 with (first
    | (go_at_call 13; with_reducible refine (hS _ (hT.below hE0.below hsz) (by have := hE0.size; omega)).out.mono ?_; rintro e w1 ⟨rfl, hE1⟩)
    | (go_at_call 21; with_reducible refine (f21 _ (hE0.trans hE1)).out.mono ?_; rintro e w2 ⟨rfl, hE2⟩))
  have hE3 := (hE0.trans hE1).trans (hE2.alloc (.cells (encA o) 30))
  have H3 := Lib.hid (heap_alloc_at w2 (.cells (encA o) 30))
  have H1 := Lib.hid ((hE1.trans (hE2.alloc (.cells (encA o) 30))).heap H1.out)
  have H2 := Lib.hid ((hE1.trans (hE2.alloc (.cells (encA o) 30))).heap H2.out)
  generalize w2.alloc (.cells (encA o) 30) = wA at *
  clear hE0 hE1 hE2 hS f21
  go_wp2_with (fail)
  go_loopw [9] (fun i W => ∃ k : Nat, k ≤ l.length ∧ k ≤ 200 ∧ i = .int .i64 k ∧ Ext wA W) (fun i _ => 200 - (intOf i).toNat)
  case atStart => exact ⟨0, by omega, by omega, rfl, Ext.refl wA⟩
  case round =>
    obtain ⟨k, hk, hk2, rfl, hE⟩ := hrel
    have hl63 := HL.out
    by_cases hgo : k < l.length ∧ k < 200
    · obtain ⟨hlt, h200⟩ := hgo
      have e := HA.out (by omega)
      subst e
      have d1 : decide ((k : Int) < (l.length : Int)) = true := by simp; omega
      have d2 : decide ((k : Int) < 200) = true := by simp; omega
      have ck := ew_cell (hE.cell (hE3.cell (HC.out k hlt)))
      have hmx := HM.out (l.getD k 0) (by rw [List.getD_eq_getElem?_getD, List.getElem?_eq_getElem hlt]; exact List.getElem_mem hlt)
      obtain ⟨x, hxd⟩ : ∃ x, l.getD k 0 = x := ⟨_, rfl⟩
      rw [hxd] at ck hmx
      clear hxd
      have hx := x.toNat_lt
      obtain ⟨x10, x11, x12, x13⟩ := ew_cells (hE.heap H1.out)
      obtain ⟨x20, x21, x22, x23⟩ := ew_cells (hE.heap H2.out)
      obtain ⟨x30, x31, x32, x33⟩ := ew_cells (hE.heap H3.out)
      have f20a := fun W => Lib.hid (h_any a (x.toNat : Int) (by omega) (by omega) _ rfl W)
      have f20b := fun W => Lib.hid (h_any b (x.toNat : Int) (by omega) (by omega) _ rfl W)
      have f20o := fun W => Lib.hid (h_any o (x.toNat : Int) (by omega) (by omega) true hmx W)
      have f20u := fun W => Lib.hid (h_any (a ||| b) (x.toNat : Int) (by omega) (by omega) _ (memB_or a b _) W)
      have f20i := fun W => Lib.hid (h_any (a &&& b) (x.toNat : Int) (by omega) (by omega) _ (memB_and a b _) W)
      have f20m := fun W => Lib.hid (h_any (a &&& ~~~b) (x.toNat : Int) (by omega) (by omega) _ (memB_minus a b x) W)
      have f20n := fun W => Lib.hid (h_any (~~~a) (x.toNat : Int) (by omega) (by omega) _ (memB_not a x) W)
      have f25 := fun W => Lib.hid (union_any a b W)
      have f27 := fun W => Lib.hid (inter_any a b W)
      have f29 := fun W => Lib.hid (minus_any a b W)
      have f31 := fun W => Lib.hid (not_any a W)
      generalize memB a (x.toNat : Int) = ma at *
      generalize memB b (x.toNat : Int) = mb at *
      generalize a ||| b = u at *
      generalize a &&& ~~~b = m at *
      generalize a &&& b = i at *
      generalize ~~~a = n at *
      clear hmx
      go_upto_region 6 with (fail)
      refine region_ew (by kernel_rfl) (by kernel_rfl) ?_
      iterate 7 (with_reducible refine wpQuiet_step (fun K hK => ?_); go_simp; first | (refine hK _ ?_; clear hK K) | (apply Exists.intro; refine ⟨fun _ => ?_, hK _ ?_⟩; (with_reducible exact calls_ew (f20a _).out); clear hK K))
      refine wpQuiet_nil ?_
      rintro _ ⟨e6, rfl⟩
      go_upto_region 7 with (fail)
      refine region_ew_at (by kernel_rfl) (by kernel_rfl) ?_
      iterate 7 (with_reducible refine wpQuiet_step (fun K hK => ?_); go_simp; first | (refine hK _ ?_; clear hK K) | (apply Exists.intro; refine ⟨fun _ => ?_, hK _ ?_⟩; (with_reducible exact calls_ew (f20b _).out); clear hK K))
      refine wpQuiet_nil ?_
      rintro _ ⟨e7, rfl⟩
      go_upto_region 8 with (fail)
      go_cut [101] (fun v W => v = .bool false ∧ ∃ e : EW wr, W = e.W)
      case first =>
        cases ma
        all_goals
          simp only [List.append]
          refine region_ew_at (by kernel_rfl) (by kernel_rfl) ?_
          iterate 65 (with_reducible refine wpQuiet_step (fun K hK => ?_); go_simp; first | (refine hK _ ?_; clear hK K) | (apply Exists.intro; refine ⟨fun _ => ?_, hK _ ?_⟩; (first | (with_reducible exact calls_ew (f20o _).out) | (with_reducible exact calls_ew (f20u _).out) | (with_reducible exact calls_ew (f20i _).out) | (with_reducible exact calls_ew (f20m _).out) | (with_reducible exact calls_ew (f20n _).out) | (with_reducible exact calls_ew (f25 _).out) | (with_reducible exact calls_ew (f27 _).out) | (with_reducible exact calls_ew (f29 _).out) | (with_reducible exact calls_ew (f31 _).out)); clear hK K))
          refine wpQuiet_nil ?_
          rintro _ ⟨e, rfl⟩
          go_wp2
          go_meet
          exact ⟨rfl, e, rfl⟩
      case rest =>
        obtain ⟨rfl, e, rfl⟩ := hcut
        have hE' := hE.trans e.ext
        clear ck x10 x11 x12 x13 x20 x21 x22 x23 x30 x31 x32 x33 f20a f20b f20o f20u f20i f20m f20n f25 f27 f29 f31
        generalize e.W = w3 at *
        go_wp2
        go_roundw
        case rel => exact ⟨k + 1, by omega, by omega, by go_num, hE'⟩
        case measure => simp [intOf]; omega
    · obtain ⟨x30, x31, x32, x33⟩ := ew_cells (hE.heap H3.out)
      have f22 := fun W => Lib.hid (s_any o _ rfl W)
      have dz : decide ((sz o : Int) ≤ (l.length : Int)) = true := by have := HZ.out; simp; omega
      generalize (sz o : Int) = z at *
      obtain ⟨e0, he0⟩ := ew_start wr
      by_cases hlt : k < l.length
      · have d1 : decide ((k : Int) < (l.length : Int)) = true := by simp; omega
        have d2 : decide ((k : Int) < 200) = false := by simp; omega
        rw [he0]
        go_wp2_with (go_at_call 22; with_reducible refine (f22 _).out.mono ?_; rintro e w' ⟨rfl, hE'⟩; obtain ⟨e', rfl⟩ := ew_next hE')
        go_ret
        exact ⟨rfl, hE3.trans (hE.trans e'.ext)⟩
      · have d1 : decide ((k : Int) < (l.length : Int)) = false := by simp; omega
        rw [he0]
        go_wp2_with (go_at_call 22; with_reducible refine (f22 _).out.mono ?_; rintro e w' ⟨rfl, hE'⟩; obtain ⟨e', rfl⟩ := ew_next hE')
        go_ret
        exact ⟨rfl, hE3.trans (hE.trans e'.ext)⟩

end Go.Proofs.YthfmjhicmopclaaDoor
