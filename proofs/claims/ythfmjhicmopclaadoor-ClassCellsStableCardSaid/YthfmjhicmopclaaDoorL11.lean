/-
  The walk of ClassCellsStable.
-/
import Derived.Test.YthfmjhicmopclaaDoorL3
import Derived.Deep.RegionHeldLaw
namespace Go.Proofs.YthfmjhicmopclaaDoor
open Go.RowKit Go.Shelf

/-- Every class and its complement. -/
def tw (M : List Cls) : List Cls := M.flatMap fun c => [c, ~~~c]
theorem tw_snoc (M : List Cls) (c : Cls) : tw (M ++ [c]) = tw M ++ [c, ~~~c] := by simp [tw]
theorem drop_rev (l : List Cls) (q : Nat) (h : q < l.length) : (l.drop q).reverse = (l.drop (q + 1)).reverse ++ [l.getD q 0#256] := by
  rw [List.drop_eq_getElem_cons h, List.reverse_cons]
  simp [List.getD_eq_getElem?_getD, h]
theorem cells_rev (l : List Cls) : cellsS l.reverse = cellsS l := cellsS_eq fun i j _ _ => by simp [Alk]
theorem cells_cells (l : List Cls) : cellsS (cellsS l) = cellsS l := cellsS_eq (alk_cells l)
theorem cells_tw (l extra : List Cls) (hx : ∀ c ∈ extra, ∃ x ∈ l, ∃ y ∈ l, c = x ||| y ∨ c = x &&& ~~~y) : cellsS (tw l.reverse ++ extra) = cellsS l :=
  cellsS_eq fun i j hi hj => by
    constructor
    · intro h c hc
      exact h c (by simp only [tw, List.mem_append, List.mem_flatMap, List.mem_reverse]; exact .inl ⟨c, hc, by simp⟩)
    · intro h c hc
      simp only [tw, List.mem_append, List.mem_flatMap, List.mem_reverse] at hc
      rcases hc with ⟨d, hd, hc⟩ | hc
      · simp only [List.mem_cons, List.not_mem_nil, or_false] at hc
        rcases hc with rfl | rfl
        · exact h c hd
        · rw [BitVec.getLsbD_not, BitVec.getLsbD_not, h d hd]; simp [hi, hj]
      · obtain ⟨x, hx, y, hy, rfl | rfl⟩ := hx c hc
        · rw [BitVec.getLsbD_or, BitVec.getLsbD_or, h x hx, h y hy]
        · rw [BitVec.getLsbD_and, BitVec.getLsbD_and, BitVec.getLsbD_not, BitVec.getLsbD_not, h x hx, h y hy]; simp [hi, hj]
theorem cells_tw0 : cellsS (tw ([] : List Cls).reverse) = cellsS [] := rfl

theorem row_new2_cells (w : World) (x y : Cls) : ∀ j u, (encL x ++ encL y)[j]? = some u → (w.alloc (.cells #[.int .u64 (wd x 0), .int .u64 (wd x 1), .int .u64 (wd x 2), .int .u64 (wd x 3), .int .u64 (wd y 0), .int .u64 (wd y 1), .int .u64 (wd y 2), .int .u64 (wd y 3)] 30)).cell? ((⟨w.heap.size, 0, none⟩ : Addr).add j) = some u := by
  intro j u h
  rw [show ((⟨w.heap.size, 0, none⟩ : Addr).add j) = ⟨w.heap.size, j, none⟩ by rw [Addr.add_lit, Nat.zero_add], cell_of_row _ _ _ _ 30 (0, 0) (heap_alloc_new w _)]
  rw [← List.getElem?_toArray] at h
  exact h
theorem own_apart {g1 g2 n cap : Nat} (h : g1 ≠ g2) : (Value.slice (some ⟨g1, 0, none⟩) n cap).ownBlock ≠ some g2 := by
  simp [Value.ownBlock]; exact h
theorem row_len {W : World} {b n m cap g : Nat} {L : List Cls} (h : W.ownsRow b 30 4 (.slice (some ⟨g, 0, none⟩) n cap) m (flatE L)) (hn : n = L.length) (hm : m = L.length) : Row W b (.slice (some ⟨g, 0, none⟩) L.length cap) L := by
  subst hn; subst hm; exact h

theorem cellsL_ew {w : World} {v : Value} {l L : List Cls} (hT : Tab w) (hsz : 0 < w.heap.size) (h : Cs w v l) (he : cellsS l = L) (e : EW w) :
    Calls Tryd.prog 15 #[v] e.W fun r w' => ∃ v', r = .returned v' ∧ Cs w' v' L ∧ Ext e.W w' := he ▸ cellsS_ew hT hsz h e

theorem two_boxes {W W' : World} {p q : Nat} {x y : Cls} (h : W.cell? ⟨p, 0, none⟩ = some (.int .u64 (wd x 0)) ∧ W.cell? ⟨p, 1, none⟩ = some (.int .u64 (wd x 1)) ∧ W.cell? ⟨p, 2, none⟩ = some (.int .u64 (wd x 2)) ∧ W.cell? ⟨p, 3, none⟩ = some (.int .u64 (wd x 3)) ∧ W.cell? ⟨q, 0, none⟩ = some (.int .u64 (wd y 0)) ∧ W.cell? ⟨q, 1, none⟩ = some (.int .u64 (wd y 1)) ∧ W.cell? ⟨q, 2, none⟩ = some (.int .u64 (wd y 2)) ∧ W.cell? ⟨q, 3, none⟩ = some (.int .u64 (wd y 3))) (hE : Ext W W') :
    W'.cell? ⟨p, 0, none⟩ = some (.int .u64 (wd x 0)) ∧ W'.cell? ⟨p, 1, none⟩ = some (.int .u64 (wd x 1)) ∧ W'.cell? ⟨p, 2, none⟩ = some (.int .u64 (wd x 2)) ∧ W'.cell? ⟨p, 3, none⟩ = some (.int .u64 (wd x 3)) ∧ W'.cell? ⟨q, 0, none⟩ = some (.int .u64 (wd y 0)) ∧ W'.cell? ⟨q, 1, none⟩ = some (.int .u64 (wd y 1)) ∧ W'.cell? ⟨q, 2, none⟩ = some (.int .u64 (wd y 2)) ∧ W'.cell? ⟨q, 3, none⟩ = some (.int .u64 (wd y 3)) := by
  obtain ⟨a, b, c, d, e, f, g, i⟩ := h
  exact ⟨hE.cell a, hE.cell b, hE.cell c, hE.cell d, hE.cell e, hE.cell f, hE.cell g, hE.cell i⟩
theorem two_grown {W W' : World} {p q r : Nat} {x y : Cls} (hg : W.grownBy W' (some r)) (hp : p ≠ r) (hq : q ≠ r) (h : W.cell? ⟨p, 0, none⟩ = some (.int .u64 (wd x 0)) ∧ W.cell? ⟨p, 1, none⟩ = some (.int .u64 (wd x 1)) ∧ W.cell? ⟨p, 2, none⟩ = some (.int .u64 (wd x 2)) ∧ W.cell? ⟨p, 3, none⟩ = some (.int .u64 (wd x 3)) ∧ W.cell? ⟨q, 0, none⟩ = some (.int .u64 (wd y 0)) ∧ W.cell? ⟨q, 1, none⟩ = some (.int .u64 (wd y 1)) ∧ W.cell? ⟨q, 2, none⟩ = some (.int .u64 (wd y 2)) ∧ W.cell? ⟨q, 3, none⟩ = some (.int .u64 (wd y 3))) :
    W'.cell? ⟨p, 0, none⟩ = some (.int .u64 (wd x 0)) ∧ W'.cell? ⟨p, 1, none⟩ = some (.int .u64 (wd x 1)) ∧ W'.cell? ⟨p, 2, none⟩ = some (.int .u64 (wd x 2)) ∧ W'.cell? ⟨p, 3, none⟩ = some (.int .u64 (wd x 3)) ∧ W'.cell? ⟨q, 0, none⟩ = some (.int .u64 (wd y 0)) ∧ W'.cell? ⟨q, 1, none⟩ = some (.int .u64 (wd y 1)) ∧ W'.cell? ⟨q, 2, none⟩ = some (.int .u64 (wd y 2)) ∧ W'.cell? ⟨q, 3, none⟩ = some (.int .u64 (wd y 3)) := by
  have H : ∀ (s : Nat) (k : Nat) (v : Value), s ≠ r → W.cell? ⟨s, k, none⟩ = some v → W'.cell? ⟨s, k, none⟩ = some v := fun s k v hs hv =>
    (hg.cell_far ⟨s, k, none⟩ (World.block_lt_of_cell? W _ hv) (fun e => hs (Option.some.inj e))).trans hv
  obtain ⟨a, b, c, d, e, f, g, i⟩ := h
  exact ⟨H _ _ _ hp a, H _ _ _ hp b, H _ _ _ hp c, H _ _ _ hp d, H _ _ _ hq e, H _ _ _ hq f, H _ _ _ hq g, H _ _ _ hq i⟩

set_option maxHeartbeats 8000000 in
set_option maxRecDepth 100000 in
theorem stable_any (l : List Cls) (v : Value) (n1 : Nat) (h1 : n1 < 256) (n2 : Nat) (h2 : n2 < 256) (w : World) (hT : Tab w) (hsz : 0 < w.heap.size) (s : CsW w v l) :
    Calls Tryd.prog 11 #[v, .int .u8 (n1 : Int), .int .u8 (n2 : Int)] w fun e w' => e = .returned (.bool true) ∧ Ext w w' := by
  obtain ⟨a, b, off, cap, rfl, ha, hc⟩ := s.split
  have hS := Lib.hid (sanity_any w hT hsz)
  by_cases hl : l.length ≤ 10
  · have HC := Lib.hid (s.short (by omega))
    have HA := Lib.hid ha
    have HCC := Lib.hid hc
    have d : decide ((10 : Int) < (l.length : Int)) = false := by simp; omega
    have f15 := fun e : EW w => Lib.hid (cellsS_ew hT hsz HC.out e)
    obtain ⟨L, hL⟩ : ∃ L, cellsS l = L := ⟨_, rfl⟩
    have HL := Lib.hid hL
    simp only [hL] at f15
    clear s ha hc hL
    obtain ⟨i0, hi, hz0, hz1, hz2⟩ := info_parts info30'
    go_enter Tryd.func11, Tryd.ntmps11
    go_upto_region 2 with (go_at_call 13; with_reducible refine hS.out.mono ?_; rintro e w1 ⟨rfl, hE1⟩)
    obtain ⟨e0, rfl⟩ : ∃ e0 : EW w, w1 = e0.W := ⟨⟨w1, hE1⟩, rfl⟩
    clear hE1 hS
    go_upto_region 5 with (go_at_call 15; with_reducible refine (f15 _).out.mono ?_; rintro e w2 ⟨v1, rfl, hc1, hE2⟩)
    have hE := e0.ext.trans hE2
    have HC1 := Lib.hid hc1
    have hT2 := hT.below hE.below hsz
    have hs2 : 0 < w2.heap.size := Nat.lt_of_lt_of_le hsz hE.size
    have wl : IntKind.i64.wrap ((l.length : Int) - 1) = (l.length : Int) - 1 := IntWalk.i64_in _ ⟨by omega, by omega⟩
    clear f15 hE2 hc1
    go_wp2_with (fail)
    go_loopw [9, 10, 11] (fun u t i W => ∃ (j : Nat) (R T : List Cls) (g1 c1 g2 c2 : Nat), j ≤ l.length ∧ i = .int .i64 ((j : Int) - 1) ∧ u = .slice (some ⟨g1, 0, none⟩) R.length c1 ∧ t = .slice (some ⟨g2, 0, none⟩) T.length c2 ∧ g1 ≠ g2 ∧
        Ext w2 W ∧ Row W w2.heap.size u R ∧ Row W w2.heap.size t T ∧ Hid (R = (l.drop j).reverse ∧ T = tw (l.drop j).reverse ∧ R.length ≤ 10 - j ∧ T.length ≤ 20 - 2 * j))
      (fun _ _ i _ => ((intOf i) + 1).toNat)
    case atStart =>
      refine ⟨l.length, [], [], w2.heap.size, 0, w2.heap.size + 1, 0, by omega, rfl, rfl, rfl, by omega, ((Ext.refl w2).alloc _).alloc _, ?_, ?_, Lib.hid ⟨by simp, by simp [tw], by simp, by simp⟩⟩
      · exact (World.ownsRow_made (base := w2.heap.size) (e := 30) (size := 4) w2 #[] 0 (by simp) (by unfold maxLen; omega) rfl).alloc _
      · have h := World.ownsRow_made (base := w2.heap.size) (e := 30) (size := 4) (w2.alloc (.cells #[] 30)) #[] 0 (by simp) (by unfold maxLen; omega) rfl
        rwa [World.size_alloc] at h
    case round =>
      obtain ⟨j, R, T, g1, c1, g2, c2, hj, rfl, rfl, rfl, hg, hEj, hR, hTw, HRT⟩ := hrel
      cases j with
      | succ q =>
        have e := HA.out (by omega)
        subst e
        obtain ⟨hRl, hTl⟩ := HRT.out.2.2
        have hs1 := hEj.size
        rw [show (((q + 1 : Nat) : Int) - 1) = (q : Int) by omega]
        have dq : decide ((0 : Int) ≤ (q : Int)) = true := by simp
        have wq : IntKind.i64.wrap ((q : Int) - 1) = (q : Int) - 1 := IntWalk.i64_in _ ⟨by omega, by omega⟩
        have hlt : q < l.length := by omega
        have hcell := fun (W : World) (hW : Ext w2 W) => cells4 (W := W) (fun i hi => (hE.trans hW).cell (HCC.out i hi)) q hlt
        have HD := Lib.hid (drop_rev l q hlt)
        obtain ⟨c, hcd⟩ : ∃ c, l.getD q 0#256 = c := ⟨_, rfl⟩
        simp only [hcd] at hcell HD
        clear hcd
        obtain ⟨a0, a1, a2, a3⟩ := hcell wr hEj
        have Hcell := Lib.hid hcell
        clear hcell
        have hlt1 := (hR.lt g1 rfl).2
        have hlt2 := (hTw.lt g2 rfl).2
        go_upto_region 11 with (at_builtin; (refine wpList_append_lies _ rfl _ _ 22 rfl w2.heap.size 30 i0 (.agg zA) 4 32 Tryd.underlying22 hi hz0 hz1 hz2 rfl (by decide) _ _ _ rfl (hR.alloc _) _ 1 1 (encL c) rfl rfl (row_new_cells _ _) (by simp [encL, Value.oneCell']) (by decide) (by unfold maxLen; omega) (by omega) (by simp; omega) _ rfl ?_))
        intro g cap3 w3 hR3 hgrow3 hat3 hlt3
        have hE3 : Ext w2 w3 := (hEj.alloc _).grown hgrow3 (fun g e => (hR.lt g e).1)
        have hT3 := (hTw.alloc _).kept hgrow3 (.inr (own_apart (Ne.symm hg)))
        have hgg : g ≠ g2 := by
          rcases hat3 with h | h
          · simp [Value.ownBlock] at h; omega
          · rw [h]; simp; omega
        have hs3 := hE3.size
        have hkeep : ∀ W, Ext w2 W → Ext w2 W ∧ W.cell? ⟨b, off + q * 4, none⟩ = some (.int .u64 (wd c 0)) ∧ W.cell? ⟨b, off + q * 4 + 1, none⟩ = some (.int .u64 (wd c 1)) ∧ W.cell? ⟨b, off + q * 4 + 2, none⟩ = some (.int .u64 (wd c 2)) ∧ W.cell? ⟨b, off + q * 4 + 3, none⟩ = some (.int .u64 (wd c 3)) := fun W h => ⟨h, Hcell.out W h⟩
        have f31 := fun W => Lib.hid (not_any c W)
        clear hgrow3 hat3 a0 a1 a2 a3 hR hTw
        go_upto_region 11 with (fail)
        go_region_held_law (fun W => Ext w2 W ∧ W.cell? ⟨b, off + q * 4, none⟩ = some (.int .u64 (wd c 0)) ∧ W.cell? ⟨b, off + q * 4 + 1, none⟩ = some (.int .u64 (wd c 1)) ∧ W.cell? ⟨b, off + q * 4 + 2, none⟩ = some (.int .u64 (wd c 2)) ∧ W.cell? ⟨b, off + q * 4 + 3, none⟩ = some (.int .u64 (wd c 3)))
          (first | exact hkeep _ hE5 | exact hkeep _ ((hE3.drew.trans hE4).alloc _) | exact hkeep _ (hE3.drew.trans hE4) | exact hkeep _ hE3.drew)
          (first
            | (refine step_append_lies _ rfl _ _ 22 rfl w2.heap.size 30 i0 (.agg zA) 4 32 Tryd.underlying22 hi hz0 hz1 hz2 rfl (by decide) _ _ _ rfl ((owns_ext hT3 ((Ext.refl w3).drew.trans hE4)).alloc _) _ 2 2 (encL c ++ encL (~~~c)) rfl rfl (row_new2_cells _ _ _) (by simp [encL, Value.oneCell']) (by decide) (by unfold maxLen; omega) (by omega) (by have := hE4.size; simp at this ⊢; omega) _ rfl ?_
               intro g5 cap5 w5 hT5 hgrow5 hat5 hlt5
               have hE5 : Ext w2 w5 := ((hE3.drew.trans hE4).alloc _).grown hgrow5 (fun g e => (hT3.lt g e).1)
               have hR5 := ((owns_ext hR3 ((Ext.refl w3).drew.trans hE4)).alloc _).kept hgrow5 (.inr (own_apart hgg)))
            | (go_at_call 31; with_reducible refine (f31 _).out.mono ?_; rintro e w4 ⟨rfl, hE4⟩))
        go_wp2
        go_roundw
        case rel =>
          have hs4 := hE4.size
          refine ⟨q, R ++ [c], T ++ [c, ~~~c], g, cap3, g5, cap5, by omega, by go_num, by rw [List.length_append]; rfl, by rw [List.length_append]; rfl, ?_, hE5, ?_, ?_, Lib.hid ⟨?_, ?_, ?_, ?_⟩⟩
          · rcases hat5 with h | h
            · have h' : g2 = g5 := Option.some.inj (show some g2 = some g5 from h)
              exact fun e => hgg (e.trans h'.symm)
            · rw [h]; simp at hs4 ⊢; omega
          · show World.ownsRow _ _ _ _ _ _ _
            rw [List.length_append, flatE_append, flatE_one]
            exact hR5
          · show World.ownsRow _ _ _ _ _ _ _
            rw [List.length_append, flatE_append, show flatE [c, ~~~c] = encL c ++ encL (~~~c) by simp [flatE]]
            exact hT5
          · rw [HD.out, HRT.out.1]
          · rw [HD.out, tw_snoc, HRT.out.2.1]
          · rw [List.length_append]; simp; omega
          · rw [List.length_append]; simp; omega
        case measure => simp [intOf]
      | zero =>
        obtain ⟨hRe, hTe, hRl, hTl⟩ := HRT.out
        rw [List.drop_zero] at hRe hTe
        rw [show (((0 : Nat) : Int) - 1) = -1 from rfl]
        have dm : decide ((0 : Int) ≤ -1) = false := by decide
        have HRc : Hid (cellsS R = L) := Lib.hid (by rw [hRe, cells_rev, HL.out])
        have f14 := fun (u1 u2 : Value) (W : World) h1 h2 => Lib.hid (same_self L u1 u2 W h1 h2)
        by_cases h0 : l.length = 0
        · have d0 : decide (0 < l.length) = false := decide_eq_false (by omega)
          have hl0 : l = [] := List.eq_nil_of_length_eq_zero h0
          have HTc : Hid (cellsS T = L) := Lib.hid (by rw [hTe, hl0, cells_tw0, ← hl0, HL.out])
          have hTr := hT2.below hEj.below hs2
          have hsr : 0 < wr.heap.size := Nat.lt_of_lt_of_le hs2 hEj.size
          have fa := fun e : EW wr => Lib.hid (cellsL_ew hTr hsr (hR.toCs (by omega)) HRc.out e)
          have fb := fun e : EW wr => Lib.hid (cellsL_ew hTr hsr (hTw.toCs (by omega)) HTc.out e)
          have fc := fun e : EW wr => Lib.hid (cellsL_ew hTr hsr (HC1.out.ext hEj) (show cellsS L = L by rw [← HL.out, cells_cells]) e)
          have hEz := hE.trans hEj
          have HCz := Lib.hid (HC1.out.ext hEj)
          clear hR hTw hRe hTe hl0 HRT HRc HTc
          obtain ⟨e0, he0⟩ := ew_start wr
          rw [he0]
          clear he0
          go_wp2_with (first
            | (go_at_call 15; with_reducible refine (fa _).out.mono ?_; rintro e w' ⟨u1, rfl, hu1, hE'⟩; obtain ⟨e', rfl⟩ := ew_next hE')
            | (go_at_call 15; with_reducible refine (fb _).out.mono ?_; rintro e w' ⟨u1, rfl, hu1, hE'⟩; obtain ⟨e', rfl⟩ := ew_next hE')
            | (go_at_call 15; with_reducible refine (fc _).out.mono ?_; rintro e w' ⟨u1, rfl, hu1, hE'⟩; obtain ⟨e', rfl⟩ := ew_next hE')
            | (go_at_call 14; with_reducible refine (f14 _ _ _ hu1 (HCz.out.ext e'.ext)).out.mono ?_; rintro e w' ⟨rfl, hE'⟩; obtain ⟨e', rfl⟩ := ew_next hE'))
          go_ret
          exact ⟨rfl, hEz.trans e'.ext⟩
        · have d0 : decide (0 < l.length) = true := decide_eq_true (by omega)
          have e := HA.out (by omega)
          subst e
          obtain ⟨r1, hr1, er1⟩ : ∃ r : Nat, r < l.length ∧ (n1 : Int) % (l.length : Int) = (r : Int) := ⟨n1 % l.length, Nat.mod_lt _ (by omega), by simp⟩
          obtain ⟨r2, hr2, er2⟩ : ∃ r : Nat, r < l.length ∧ (n2 : Int) % (l.length : Int) = (r : Int) := ⟨n2 % l.length, Nat.mod_lt _ (by omega), by simp⟩
          have hm1 : l.getD r1 0#256 ∈ l := by rw [List.getD_eq_getElem?_getD, List.getElem?_eq_getElem hr1]; exact List.getElem_mem hr1
          have hm2 : l.getD r2 0#256 ∈ l := by rw [List.getD_eq_getElem?_getD, List.getElem?_eq_getElem hr2]; exact List.getElem_mem hr2
          obtain ⟨a0, a1, a2, a3⟩ := cells4 (W := wr) (fun i hi => (hE.trans hEj).cell (HCC.out i hi)) r1 hr1
          obtain ⟨b0, b1, b2, b3⟩ := cells4 (W := wr) (fun i hi => (hE.trans hEj).cell (HCC.out i hi)) r2 hr2
          obtain ⟨x, hxd⟩ : ∃ x, l.getD r1 0#256 = x := ⟨_, rfl⟩
          obtain ⟨y, hyd⟩ : ∃ y, l.getD r2 0#256 = y := ⟨_, rfl⟩
          rw [hxd] at hm1 a0 a1 a2 a3
          rw [hyd] at hm2 b0 b1 b2 b3
          have HTc : Hid (cellsS (T ++ [x ||| y, x &&& ~~~y]) = L) := Lib.hid (by
            rw [hTe, cells_tw l _ (fun c hc => ⟨x, hm1, y, hm2, by simpa using hc⟩), HL.out])
          have f25 := fun W => Lib.hid (union_any x y W)
          have f29 := fun W => Lib.hid (minus_any x y W)
          generalize x ||| y = u at *
          generalize x &&& ~~~y = m at *
          clear hm1 hm2 hxd hyd hRe hTe HRT
          have hlt1 := (hR.lt g1 rfl).2
          have hlt2 := (hTw.lt g2 rfl).2
          have hs1 := hEj.size
          go_upto_region 14 with (fail)
          obtain ⟨wx, hwx⟩ : ∃ W, wr.alloc (.cells (encA x) 30) = W := ⟨_, rfl⟩
          simp only [hwx]
          have hEx : Ext wr wx := hwx ▸ (Ext.refl wr).alloc _
          have Hx := Lib.hid (show wx.heap[wr.heap.size]? = some (.cells (encA x) 30 (0, 0)) from hwx ▸ heap_alloc_at wr _)
          have hsx := hEx.size
          clear hwx
          have b0 := hEx.cell b0
          have b1 := hEx.cell b1
          have b2 := hEx.cell b2
          have b3 := hEx.cell b3
          clear a0 a1 a2 a3
          go_upto_region 15 with (fail)
          obtain ⟨wy, hwy⟩ : ∃ W, wx.alloc (.cells (encA y) 30) = W := ⟨_, rfl⟩
          simp only [hwy]
          have hEy : Ext wx wy := hwy ▸ (Ext.refl wx).alloc _
          have Hy := Lib.hid (show wy.heap[wx.heap.size]? = some (.cells (encA y) 30 (0, 0)) from hwy ▸ heap_alloc_at wx _)
          clear hwy
          have Hx := Lib.hid (hEy.heap Hx.out)
          have HS0 : Hid (wy.cell? ⟨wr.heap.size, 0, none⟩ = some (.int .u64 (wd x 0)) ∧ wy.cell? ⟨wr.heap.size, 1, none⟩ = some (.int .u64 (wd x 1)) ∧ wy.cell? ⟨wr.heap.size, 2, none⟩ = some (.int .u64 (wd x 2)) ∧ wy.cell? ⟨wr.heap.size, 3, none⟩ = some (.int .u64 (wd x 3)) ∧ wy.cell? ⟨wx.heap.size, 0, none⟩ = some (.int .u64 (wd y 0)) ∧ wy.cell? ⟨wx.heap.size, 1, none⟩ = some (.int .u64 (wd y 1)) ∧ wy.cell? ⟨wx.heap.size, 2, none⟩ = some (.int .u64 (wd y 2)) ∧ wy.cell? ⟨wx.heap.size, 3, none⟩ = some (.int .u64 (wd y 3))) := Lib.hid ⟨(cell_of_row wy _ 0 _ _ _ Hx.out).trans rfl, (cell_of_row wy _ 1 _ _ _ Hx.out).trans rfl, (cell_of_row wy _ 2 _ _ _ Hx.out).trans rfl, (cell_of_row wy _ 3 _ _ _ Hx.out).trans rfl, (cell_of_row wy _ 0 _ _ _ Hy.out).trans rfl, (cell_of_row wy _ 1 _ _ _ Hy.out).trans rfl, (cell_of_row wy _ 2 _ _ _ Hy.out).trans rfl, (cell_of_row wy _ 3 _ _ _ Hy.out).trans rfl⟩
          have hEjy := hEj.trans (hEx.trans hEy)
          have hR := owns_ext hR (hEx.trans hEy)
          have hTw := owns_ext hTw (hEx.trans hEy)
          have hsy := hEy.size
          clear b0 b1 b2 b3 Hx Hy
          go_region_held_law (fun W => W.cell? ⟨wr.heap.size, 0, none⟩ = some (.int .u64 (wd x 0)) ∧ W.cell? ⟨wr.heap.size, 1, none⟩ = some (.int .u64 (wd x 1)) ∧ W.cell? ⟨wr.heap.size, 2, none⟩ = some (.int .u64 (wd x 2)) ∧ W.cell? ⟨wr.heap.size, 3, none⟩ = some (.int .u64 (wd x 3)) ∧ W.cell? ⟨wx.heap.size, 0, none⟩ = some (.int .u64 (wd y 0)) ∧ W.cell? ⟨wx.heap.size, 1, none⟩ = some (.int .u64 (wd y 1)) ∧ W.cell? ⟨wx.heap.size, 2, none⟩ = some (.int .u64 (wd y 2)) ∧ W.cell? ⟨wx.heap.size, 3, none⟩ = some (.int .u64 (wd y 3)))
            (first | exact two_grown hg6 (by omega) (by omega) (by assumption) | exact two_boxes (by assumption) ((Ext.refl _).alloc _) | exact two_boxes (by assumption) hE5 | exact two_boxes (by assumption) hE4 | exact two_boxes HS0.out (Ext.refl wy).drew)
            (first
              | (refine step_append_lies _ rfl _ _ 22 rfl w2.heap.size 30 i0 (.agg zA) 4 32 Tryd.underlying22 hi hz0 hz1 hz2 rfl (by decide) _ _ _ rfl ((owns_ext (owns_ext hTw ((Ext.refl wy).drew.trans hE4)) hE5).alloc _) _ 2 2 (encL u ++ encL m) rfl rfl (row_new2_cells _ _ _) (by simp [encL, Value.oneCell']) (by decide) (by unfold maxLen; omega) (by omega) (by have := hE4.size; have := hE5.size; simp at *; omega) _ rfl ?_
                 intro g6 cap6 w6 hT6 hgrow6 hat6 hlt6
                 have hg6 : World.grownBy _ w6 (some g2) := hgrow6
                 have hEz : Ext w2 w6 := (((hEjy.drew.trans hE4).trans hE5).alloc _).grown hgrow6 (fun g e => (hTw.lt g e).1)
                 have hR6 := ((owns_ext (owns_ext hR ((Ext.refl wy).drew.trans hE4)) hE5).alloc _).kept hgrow6 (.inr (own_apart hg)))
              | (go_at_call 25; with_reducible refine (f25 _).out.mono ?_; rintro e w4 ⟨rfl, hE4⟩)
              | (go_at_call 29; with_reducible refine (f29 _).out.mono ?_; rintro e w5 ⟨rfl, hE5⟩))
          go_upto_region 16 with (fail)
          have hRz : Row w6 w2.heap.size (.slice (some ⟨g1, 0, none⟩) R.length c1) R := hR6
          have hTz : Row w6 w2.heap.size (.slice (some ⟨g6, 0, none⟩) (T.length + 2) cap6) (T ++ [u, m]) := by
            show World.ownsRow _ _ _ _ _ _ _
            rw [List.length_append, flatE_append, show flatE [u, m] = encL u ++ encL m by simp [flatE]]
            exact hT6
          have hTr := hT2.below hEz.below hs2
          have hsr : 0 < w6.heap.size := Nat.lt_of_lt_of_le hs2 hEz.size
          have fa := fun e : EW w6 => Lib.hid (cellsL_ew hTr hsr (hRz.toCs (by omega)) HRc.out e)
          have fb := fun e : EW w6 => Lib.hid (cellsL_ew hTr hsr (hTz.toCs (by rw [List.length_append]; simp; omega)) HTc.out e)
          have fc := fun e : EW w6 => Lib.hid (cellsL_ew hTr hsr (HC1.out.ext hEz) (show cellsS L = L by rw [← HL.out, cells_cells]) e)
          have HCz := Lib.hid (HC1.out.ext hEz)
          have hEz := hE.trans hEz
          clear hR6 hT6 hRz hTz hgrow6 hg6 hR hTw HRc HTc
          obtain ⟨e0, he0⟩ := ew_start w6
          rw [he0]
          clear he0
          go_wp2_with (first
            | (go_at_call 15; with_reducible refine (fa _).out.mono ?_; rintro e w' ⟨u1, rfl, hu1, hE'⟩; obtain ⟨e', rfl⟩ := ew_next hE')
            | (go_at_call 15; with_reducible refine (fb _).out.mono ?_; rintro e w' ⟨u1, rfl, hu1, hE'⟩; obtain ⟨e', rfl⟩ := ew_next hE')
            | (go_at_call 15; with_reducible refine (fc _).out.mono ?_; rintro e w' ⟨u1, rfl, hu1, hE'⟩; obtain ⟨e', rfl⟩ := ew_next hE')
            | (go_at_call 14; with_reducible refine (f14 _ _ _ hu1 (HCz.out.ext e'.ext)).out.mono ?_; rintro e w' ⟨rfl, hE'⟩; obtain ⟨e', rfl⟩ := ew_next hE'))
          go_ret
          exact ⟨rfl, hEz.trans e'.ext⟩
  · have d : decide ((10 : Int) < (l.length : Int)) = true := by simp; omega
    clear s ha hc
    go_enter Tryd.func11, Tryd.ntmps11
    go_wp2_with (go_at_call 13; with_reducible refine hS.out.mono ?_; rintro e w1 ⟨rfl, hE1⟩)
    go_ret
    exact ⟨rfl, hE1⟩

end Go.Proofs.YthfmjhicmopclaaDoor
