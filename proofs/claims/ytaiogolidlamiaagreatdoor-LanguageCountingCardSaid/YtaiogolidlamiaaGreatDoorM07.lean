import Derived.Test.YtaiogolidlamiaaGreatDoorM06
import Derived.Test.YtaiogolidlamiaaGreatDoorM02
import Derived.Test.YtaiogolidlamiaaGreatDoorM05
import Derived.Laws.IdiomStrings
import Derived.Test.YtaiogolidlamiaaGreatDoorM03
import Derived.Deep.AppendLies
import Derived.Deep.MidRow
set_option linter.unusedVariables false
set_option linter.unusedSimpArgs false
namespace Go.Proofs.YtaiogolidlamiaaGreatDoor
set_option maxRecDepth 100000
open Go.RowKit Go.Shelf
set_option maxRecDepth 100000 in
theorem cells_walk (l : List Cls) (hl : l.length ≤ 4611686018427387904) (a : Option Addr) (b off cap : Nat) (w : World) (hT : Tab w) (hsz : 0 < w.heap.size) (ha : 0 < l.length → a = some ⟨b, off, none⟩)
  (hc : ∀ i, i < l.length * 4 → w.cell? ⟨b, off + i, none⟩ = some (.int .u64 (wd (l.getD (i / 4) 0#256) (i % 4)))) :
  Calls Tryz.prog 143 #[.slice a l.length cap] w fun e w' => ∃ v L, e = .returned v ∧ Cs w' v L ∧ L.Perm (cellsU l) ∧ L.Pairwise (fun a b => headI (bytesTo a 256) ≤ headI (bytesTo b 256)) ∧ Ext w w' := by
 have hN := Lib.hid (not0_any w)
 obtain ⟨i0, hi, hz0, hz1, hz2⟩ := info_parts info30'
 go_enter Tryz.func143, Tryz.ntmps143
 go_wp2_with (first | (go_at_call 94; refine hN.out.mono ?_; rintro e w1 ⟨rfl, hE1⟩))
 clear hN
 go_loopw [3, 16] (fun v i W => ∃ k : Nat, k ≤ l.length ∧ i = .int .i64 k ∧ Ext w W ∧ Row W w.heap.size v (cellsU (l.take k)))
  (fun _ i _ => l.length - (intOf i).toNat)
 case atStart =>
  refine ⟨0, by omega, rfl, hE1.alloc _, ?_⟩
  exact ⟨rfl, .inr ⟨w1.heap.size, 1, encA allC, rfl, hE1.size, heap_alloc_new w1 _, Nat.le_refl _, by unfold maxLen; omega, rfl, rfl⟩⟩
 case round =>
  obtain ⟨k, hk, rfl, hE, hrow⟩ := hrel
  by_cases hlt : k < l.length
  ·have e := ha (by omega)
   obtain ⟨a0, a1, a2, a3⟩ := cells4 (W := wr) (fun i hi => hE.cell (hc i hi)) k hlt
   have HC := Lib.hid hc
   have HA := Lib.hid ha
   clear ha hc
   subst e
   have HSC := Lib.hid (cellsU_take_succ l k hlt)
   have HF := Lib.hid (full_cellsU (l.take k))
   generalize cellsU (l.take k) = C at *
   obtain ⟨c, hcd⟩ : ∃ c, l.getD k 0#256 = c := ⟨_, rfl⟩
   rw [hcd] at a0 a1 a2 a3 HSC
   clear hcd
   obtain ⟨g, cap', rfl, hgb, hglt, hgf, hgc⟩ := hrow.cells HF.out.pos
   have hC256 := HF.out.len
   have hC0 := HF.out.pos
   clear hrow hgf
   go_wp2
   obtain ⟨wi, hwi⟩ : ∃ W, wr.alloc (.cells (encA c) 62) = W := ⟨_, rfl⟩
   simp only [hwi]
   have hEi : Ext wr wi := hwi ▸ (Ext.refl wr).alloc _
   have h5 : wi.heap[wr.heap.size]? = some (.cells (encA c) 62 (0, 0)) := hwi ▸ heap_alloc_at wr _
   have H5 := Lib.hid h5
   clear hwi h5 a0 a1 a2 a3
   have HGC := Lib.hid (fun (i : Nat) (hi : i < C.length * 4) => hEi.cell (hgc i hi))
   clear hgc
   go_loopw [6, 22] (fun u i W => ∃ j : Nat, j ≤ C.length ∧ i = .int .i64 j ∧ Ext wi W ∧ Row W wi.heap.size u (splitC c (C.take j)))
    (fun _ i _ => C.length - (intOf i).toNat)
   case atStart => exact ⟨0, by omega, rfl, Ext.refl wi, World.ownsRow_nil _ _ _ _⟩
   case round =>
    obtain ⟨j, hj, rfl, hEj, hrow⟩ := hrel
    by_cases hlt2 : j < C.length
    ·obtain ⟨a0, a1, a2, a3⟩ := cells4 (W := wr) (fun i hi => hEj.cell (HGC.out i hi)) j hlt2
     have HSS := Lib.hid (splitC_take_succ c C j hlt2)
     have hlenS := splitC_len c (C.take j)
     rw [List.length_take] at hlenS
     generalize splitC c (C.take j) = S at *
     obtain ⟨d, hd⟩ : ∃ d, C.getD j 0#256 = d := ⟨_, rfl⟩
     rw [hd] at a0 a1 a2 a3 HSS
     simp only [Nat.zero_add] at a0 a1 a2 a3
     clear hd
     go_upto_region 9 with (fail)
     obtain ⟨w2, hw2⟩ : ∃ W, wr.alloc (.cells (encA d) 62) = W := ⟨_, rfl⟩
     simp only [hw2]
     have hE2 : Ext wr w2 := hw2 ▸ (Ext.refl wr).alloc _
     have h8 : w2.heap[wr.heap.size]? = some (.cells (encA d) 62 (0, 0)) := hw2 ▸ heap_alloc_at wr _
     clear hw2
     obtain ⟨b0, b1, b2, b3⟩ := ew_cells h8
     obtain ⟨c0, c1, c2, c3⟩ := ew_cells ((hEj.trans hE2).heap H5.out)
     clear h8 a0 a1 a2 a3
     have hrow := owns_ext hrow hE2
     have hEj := hEj.trans hE2
     have h1 := fun (W : World) => Lib.hid (inter_any d c W)
     have h2 := fun (W : World) => Lib.hid (minus_any d c W)
     have HX := Lib.hid (split1_eq c d)
     generalize split1 c d = sp at *
     generalize d &&& c = x at *
     generalize d &&& ~~~c = y at *
     go_cut [32, 33] (fun v m W => v = .agg #[.int .u64 (wd x 0), .int .u64 (wd x 1), .int .u64 (wd x 2), .int .u64 (wd x 3), .int .u64 (wd y 0), .int .u64 (wd y 1), .int .u64 (wd y 2), .int .u64 (wd y 3)] ∧ m = .int .i64 0 ∧ ∃ e : EW w2, W = e.W)
     case first =>
      refine region_ew (by kernel_rfl) (by kernel_rfl) ?_
      iterate 8 (refine wpQuiet_step (fun K hK => ?_); go_simp; first | (refine hK _ ?_; clear hK K) | (apply Exists.intro; refine ⟨fun _ => ?_, hK _ ?_⟩; (first | (with_reducible exact calls_ew (h1 _).out) | (with_reducible exact calls_ew (h2 _).out)); clear hK K))
      refine wpQuiet_nil ?_
      rintro _ ⟨e, rfl⟩
      go_wp2
      go_meet
      exact ⟨rfl, rfl, e, rfl⟩
     case rest =>
      obtain ⟨rfl, rfl, e, rfl⟩ := hcut
      have hrow := owns_ext hrow e.ext
      have hEj := hEj.trans e.ext
      clear b0 b1 b2 b3 c0 c1 c2 c3 h1 h2
      generalize e.W = w3 at *
      go_wp2_with (fail)
      go_loopw [6, 33] (fun u m W => ∃ q : Nat, q ≤ 2 ∧ m = .int .i64 q ∧ Ext wi W ∧ Row W wi.heap.size u (S ++ pre2 x y q))
       (fun _ m _ => 2 - (intOf m).toNat)
      case atStart => exact ⟨0, by omega, rfl, hEj, by rw [pre2_0, List.append_nil]; exact hrow⟩
      case round =>
       obtain ⟨q, hq, rfl, hEq, hrow⟩ := hrel
       obtain rfl | rfl | rfl : q = 0 ∨ q = 1 ∨ q = 2 := by omega
       ·have ix := idx46_0 (wd x 0) (wd x 1) (wd x 2) (wd x 3) (wd y 0) (wd y 1) (wd y 2) (wd y 3) wr
        have HN := fun W => run_eq30 x 0#256 W
        rw [encA_zero] at HN
        have hg30 := gt30
        have hs1 := hEq.size
        have hPl := pre2_len S x y 0
        have HP := Lib.hid (pre2_succ0 S x y)
        generalize S ++ pre2 x y 0 = P at hrow hPl HP
        generalize (x == 0#256) = bx at HN HP
        cases bx
        ·go_wp2_with (at_builtin; (refine wpList_append_own _ rfl _ _ 26 rfl wi.heap.size 62 i0 (.agg zA) 4 32 Tryz.underlying26 hi hz0 hz1 hz2 rfl (by decide) _ _ _ rfl ((hrow.alloc _).alloc _) _ 1 1 (encL x) rfl rfl ?_ (by simp [encL, Value.oneCell']) (by unfold maxLen; omega) (by omega) (by simp; omega) ?_))
         ·have := row_new_cells (wr.alloc (.cells (encA x) 62)) x
          rwa [World.size_alloc] at this
         ·intro v' w4 hrow' hgrow _
          have hE4 : Ext wi w4 := ((hEq.alloc _).alloc _).grown hgrow (fun g e => (hrow.lt g e).1)
          clear hrow hgrow HN ix
          go_wp2
          go_roundw
          case rel =>
           refine ⟨1, by omega, rfl, hE4, ?_⟩
           rw [HP.out]
           simp only [Bool.false_eq_true, if_false]
           show World.ownsRow _ _ _ _ _ _ _
           rw [List.length_append, flatE_append, flatE_one]
           exact hrow'
          case measure => simp [intOf]
        ·go_wp2
         refine ⟨⟨1, by omega, rfl, hEq.alloc _, ?_⟩, by simp [intOf]⟩
         rw [HP.out]
         simp only [if_true, List.append_nil]
         exact hrow.alloc _
       ·have ix := idx46_1 (wd x 0) (wd x 1) (wd x 2) (wd x 3) (wd y 0) (wd y 1) (wd y 2) (wd y 3) wr
        have HN := fun W => run_eq30 y 0#256 W
        rw [encA_zero] at HN
        have hg30 := gt30
        have hs1 := hEq.size
        have hPl := pre2_len S x y 1
        have HP := Lib.hid (pre2_succ1 S x y)
        generalize S ++ pre2 x y 1 = P at hrow hPl HP
        generalize (y == 0#256) = bx at HN HP
        cases bx
        ·go_wp2_with (at_builtin; (refine wpList_append_own _ rfl _ _ 26 rfl wi.heap.size 62 i0 (.agg zA) 4 32 Tryz.underlying26 hi hz0 hz1 hz2 rfl (by decide) _ _ _ rfl ((hrow.alloc _).alloc _) _ 1 1 (encL y) rfl rfl ?_ (by simp [encL, Value.oneCell']) (by unfold maxLen; omega) (by omega) (by simp; omega) ?_))
         ·have := row_new_cells (wr.alloc (.cells (encA y) 62)) y
          rwa [World.size_alloc] at this
         ·intro v' w4 hrow' hgrow _
          have hE4 : Ext wi w4 := ((hEq.alloc _).alloc _).grown hgrow (fun g e => (hrow.lt g e).1)
          clear hrow hgrow HN ix
          go_wp2
          go_roundw
          case rel =>
           refine ⟨2, by omega, rfl, hE4, ?_⟩
           rw [HP.out]
           simp only [Bool.false_eq_true, if_false]
           show World.ownsRow _ _ _ _ _ _ _
           rw [List.length_append, flatE_append, flatE_one]
           exact hrow'
          case measure => simp [intOf]
        ·go_wp2
         refine ⟨⟨2, by omega, rfl, hEq.alloc _, ?_⟩, by simp [intOf]⟩
         rw [HP.out]
         simp only [if_true, List.append_nil]
         exact hrow.alloc _
       ·have HP : Hid (S ++ pre2 x y 2 = S ++ sp) := Lib.hid (by rw [HX.out]; rfl)
        rw [HP.out, ← HSS.out] at hrow
        go_wp2
        go_roundw
        case rel => exact ⟨j + 1, by omega, by go_num, hEq, hrow⟩
        case measure => simp [intOf]; omega
    ·obtain rfl : j = C.length := by omega
     rw [List.take_length, ← HSC.out] at hrow
     have hE' := (hE.trans hEi).trans hEj
     have hrow' : Row wr w.heap.size u6 (cellsU (l.take (k + 1))) := hrow.mono (hE.trans hEi).size
     have ha := HA.out
     have hc := HC.out
     go_wp2
     go_roundw
     case rel => exact ⟨k + 1, by omega, by go_num, hE', hrow'⟩
     case measure => simp [intOf]; omega
  ·obtain rfl : k = l.length := by omega
   rw [List.take_length] at hrow
   have HF := full_cellsU l
   obtain ⟨C, hC⟩ : ∃ C, cellsU l = C := ⟨_, rfl⟩
   rw [hC] at hrow HF
   have HU := Lib.hid hC
   clear hC
   obtain ⟨g, cap', rfl, hgb, hglt, hgf, hgc⟩ := hrow.cells HF.pos
   have hsort := Lib.hid (sort_any C g 0 cap' wr (hT.below hE.below hsz) (by omega) hglt (by have := HF.len; omega) hgc hgf)
   have hlen := Lib.hid HF.len
   clear hrow hgf hgc ha hc
   go_wp2_with (go_at_call 155; refine hsort.out.mono ?_; rintro e w5 ⟨rfl, hg5, L, hL1, hL2, hL3, hL4⟩)
   go_ret
   have hE5 : Ext w w5 := hE.grown hg5 (fun k e => by cases e; exact hgb)
   refine ⟨_, L, rfl, ?_, by rw [HU.out]; exact hL2, hL3, hE5⟩
   have h5 := hlen.out
   have h6 := hg5.size
   have hC0 := HF.pos
   rw [← hL1]
   exact ⟨by omega, .inr ⟨by omega, g, 0, cap', rfl, by omega, hL4⟩⟩
theorem cells_any (l : List Cls) (v : Value) (w : World) (hT : Tab w) (hsz : 0 < w.heap.size) (h : Cs w v l) :
  Calls Tryz.prog 143 #[v] w fun e w' => ∃ v' L, e = .returned v' ∧ Cs w' v' L ∧ L.Perm (cellsU l) ∧ L.Pairwise (fun a b => headI (bytesTo a 256) ≤ headI (bytesTo b 256)) ∧ Ext w w' := by
 obtain ⟨h0, ⟨hn, a, cap, rfl⟩ | ⟨hn, b, off, cap, rfl, hb, hc⟩⟩ := h
 ·have := cells_walk l h0 a 0 0 cap w hT hsz (by omega) (fun i hi => by omega)
  rwa [hn] at this
 ·exact cells_walk l h0 (some ⟨b, off, none⟩) b off cap w hT hsz (fun _ => rfl) hc
end Go.Proofs.YtaiogolidlamiaaGreatDoor
namespace Go.Proofs.YtaiogolidlamiaaGreatDoor
set_option maxRecDepth 100000
open Go.RowKit Go.Shelf
theorem str_any (v : Value) (l : List UInt8) (W : World) (h : By W v l) : (convert 22 9 v).run Tryz.prog W = .ok (.string ⟨l.toArray⟩) W := by
 obtain ⟨h0, ⟨hn, a, cap, rfl⟩ | ⟨hn, b, off, cap, rfl, hb, hc⟩⟩ := h
 ·obtain rfl : l = [] := List.eq_nil_of_length_eq_zero hn
  cases a with
  | some a => exact run_convert_bytes_back W 22 9 5 a cap [] Tryz.underlying22 Tryz.underlying5 Tryz.underlying9 (fun j hj => by simp at hj)
  | none =>
   rw [run_convert_bytes_string W 22 9 5 none 0 cap Tryz.underlying22 Tryz.underlying5 Tryz.underlying9]
   kernel_rfl
 ·refine run_convert_bytes_back W 22 9 5 ⟨b, off, none⟩ cap l Tryz.underlying22 Tryz.underlying5 Tryz.underlying9 (fun j hj => ?_)
  rw [Addr.add_lit, hc j (by omega)]
  simp [List.getD_eq_getElem?_getD, hj]
theorem cellsS_any (l : List Cls) (v : Value) (w : World) (hT : Tab w) (hsz : 0 < w.heap.size) (h : Cs w v l) :
  Calls Tryz.prog 143 #[v] w fun e w' => ∃ v', e = .returned v' ∧ Cs w' v' (cellsS l) ∧ Ext w w' :=
 (cells_any l v w hT hsz h).mono fun e w' ⟨v', L, he, hc, hp, hs, hE⟩ => ⟨v', he, by rw [← cellsS_unique hp hs]; exact hc, hE⟩
def q0 : Cls := ~~~(rngC 97 100)
def q1 : Cls := rngC 97 97
def q2 : Cls := rngC 98 99
def q3 : Cls := rngC 100 100
set_option maxRecDepth 100000 in
theorem cells_ab : cellsS [rngC 97 99, rngC 98 100] = [q0, q1, q2, q3] :=
 (cellsS_unique (by decide +kernel) (by decide +kernel)).symm
set_option maxRecDepth 100000 in
theorem cells_nil : cellsS [] = [allC] := (cellsS_unique (by decide +kernel) (by decide +kernel)).symm
def k4 : Cls := ofL [97, 98, 99, 97]
def k3 : Cls := ofL [99, 97, 98]
end Go.Proofs.YtaiogolidlamiaaGreatDoor
namespace Go.Proofs.YtaiogolidlamiaaGreatDoor
open Go
theorem region_at {P : Program} {id : Nat} {Q : Exit → Act → World → Prop} {a : Act} {w : World} {e0 : EW w} {l : List Oper} (hm : P.follows .mixedOrders = true) (hB : Region.lexB .any l.toArray = true)
  (h : wpQuiet P l.toArray (fun W => ∃ e : EW w, W = e.W) (fun a' => ∀ w', (∃ e : EW w, w' = e.W) → Q .normal a' w') l a) : (Code.region id l.toArray true).wp P Q a e0.W :=
 wp_region_quiet (C := fun W => ∃ e : EW w, W = e.W) hm hB ⟨⟨_, e0.ext.drawn1⟩, rfl⟩ (by simpa using h)
theorem region_tail_at {P : Program} {id : Nat} {Q : Exit → Act → World → Prop} {a : Act} {w : World} {e0 : EW w} {l : List Oper} (n : Nat) (hm : P.follows .mixedOrders = true) (hB : Region.lexTailB .any l.toArray n = true)
  (h : wpQuiet P l.toArray (fun W => ∃ e : EW w, W = e.W) (fun a' => ∀ w', (∃ e : EW w, w' = e.W) → wpList P l.toArray Q (l.drop n) a' w') (l.take n) a) : (Code.region id l.toArray true).wp P Q a e0.W :=
 wp_region_quietTail (C := fun W => ∃ e : EW w, W = e.W) n hm hB ⟨⟨_, e0.ext.drawn1⟩, rfl⟩ h
theorem ew_next {w W' : World} {e : EW w} (h : Ext e.W W') : ∃ e' : EW w, W' = e'.W := ⟨⟨W', e.ext.trans h⟩, rfl⟩
theorem ew_next1 {w W' : World} {e : EW w} {o : Obj} (h : Ext (e.W.alloc o) W') : ∃ e' : EW w, W' = e'.W := ⟨⟨W', (e.ext.alloc o).trans h⟩, rfl⟩
theorem ew_start (w : World) : ∃ e : EW w, w = e.W := ⟨⟨w, Ext.refl w⟩, rfl⟩
end Go.Proofs.YtaiogolidlamiaaGreatDoor
namespace Go.Proofs.YtaiogolidlamiaaGreatDoor
set_option maxRecDepth 100000
open Go.RowKit Go.Shelf
theorem own_ne {W : World} {b b' : Nat} {e e' : TypeId} {s s' n m : Nat} {v u : Value} {xs ys : List Value} (h : W.ownsRow b e s v n xs) (h' : W.ownsRow b' e' s' u m ys) (hne : e ≠ e') : v.ownBlock = none ∨ v.ownBlock ≠ u.ownBlock := by
 obtain ⟨_, ⟨rfl, _⟩ | ⟨g, cap, cur, rfl, _, hg, _⟩⟩ := h
 ·exact .inl rfl
 ·obtain ⟨_, ⟨rfl, _⟩ | ⟨g', cap', cur', rfl, _, hg', _⟩⟩ := h'
  ·exact .inr (by simp [Value.ownBlock])
  ·refine .inr fun hb => ?_
   have : g = g' := by simpa [Value.ownBlock] using hb
   subst this
   rw [hg] at hg'
   simp at hg'
   exact hne hg'.2
theorem flatE_set (L : List Cls) (k : Nat) (c : Cls) (hk : k < L.length) :
  flatE (L.set k c) = ((((flatE L).set (k * 4) (.int .u64 (wd c 0))).set (k * 4 + 1) (.int .u64 (wd c 1))).set (k * 4 + 1 + 1) (.int .u64 (wd c 2))).set (k * 4 + 1 + 1 + 1) (.int .u64 (wd c 3)) := by
 have hl := flatE_len L
 apply List.ext_getElem?
 intro i
 by_cases hi : i < L.length * 4
 ·rw [flatE_get _ i (by simpa using hi)]
  simp only [List.getElem?_set, List.length_set, hl]
  by_cases hd : i / 4 = k
  ·subst hd
   rw [getD_set_self _ _ _ _ hk]
   have : i % 4 = 0 ∨ i % 4 = 1 ∨ i % 4 = 2 ∨ i % 4 = 3 := by omega
   rcases this with h | h | h | h
   ·rw [if_neg (by omega), if_neg (by omega), if_neg (by omega), if_pos (by omega), if_pos (by omega), h]
   ·rw [if_neg (by omega), if_neg (by omega), if_pos (by omega), if_pos (by omega), h]
   ·rw [if_neg (by omega), if_pos (by omega), if_pos (by omega), h]
   ·rw [if_pos (by omega), if_pos (by omega), h]
  ·rw [getD_set_oth _ _ _ _ _ (Ne.symm hd), if_neg (by omega), if_neg (by omega), if_neg (by omega), if_neg (by omega), flatE_get _ i hi]
 ·rw [List.getElem?_eq_none (by rw [flatE_len, List.length_set]; omega), List.getElem?_eq_none (by simp only [List.length_set, hl]; omega)]
theorem row_set4 {W : World} {base g cap : Nat} {L : List Cls} (h : Row W base (.slice (some ⟨g, 0, none⟩) L.length cap) L) (k : Nat) (hk : k < L.length) (c : Cls) :
  Row (W.setCells g (k * 4) (encA c).toList) base (.slice (some ⟨g, 0, none⟩) L.length cap) (L.set k c) ∧ W.grownBy (W.setCells g (k * 4) (encA c).toList) (some g) := by
 have e : W.setCells g (k * 4) (encA c).toList = (((W.setCell ⟨g, k * 4, none⟩ (.int .u64 (wd c 0))).setCell ⟨g, k * 4 + 1, none⟩ (.int .u64 (wd c 1))).setCell ⟨g, k * 4 + 1 + 1, none⟩ (.int .u64 (wd c 2))).setCell ⟨g, k * 4 + 1 + 1 + 1, none⟩ (.int .u64 (wd c 3)) := rfl
 have h0 := h.stored (k * 4) (.int .u64 (wd c 0))
 have h1 := h0.1.stored (k * 4 + 1) (.int .u64 (wd c 1))
 have h2 := h1.1.stored (k * 4 + 1 + 1) (.int .u64 (wd c 2))
 have h3 := h2.1.stored (k * 4 + 1 + 1 + 1) (.int .u64 (wd c 3))
 rw [e]
 refine ⟨?_, h0.2.trans (h1.2.trans (h2.2.trans h3.2))⟩
 show World.ownsRow _ _ _ _ _ _ _
 rw [flatE_set L k c hk, List.length_set]
 exact h3.1
theorem row_there {W : World} {base g cap : Nat} {L : List Cls} (h : Row W base (.slice (some ⟨g, 0, none⟩) L.length cap) L) (k : Nat) (hk : k < L.length) : W.there g (k * 4) 4 := by
 intro j hj
 refine ⟨?_, h.frozenAt _⟩
 rw [h.cellAt _ (by omega), flatE_get _ _ (by omega)]
 rfl
abbrev RowB (W : World) (base : Nat) (v : Value) (l : List UInt8) : Prop := W.ownsRow base 5 1 v l.length (l.map bv)
theorem RowB.cell {W : World} {base g n cap : Nat} {l : List UInt8} (h : W.ownsRow base 5 1 (.slice (some ⟨g, 0, none⟩) n cap) l.length (l.map bv)) (hn : n = l.length) (k : Nat) (hk : k < l.length) : W.cell? ⟨g, k, none⟩ = some (bv (l.getD k 0)) := by
 subst hn
 rw [World.ownsRow.cellAt h k (by omega)]
 simp [List.getD_eq_getElem?_getD, hk]
theorem RowB.form {W : World} {base : Nat} {v : Value} {l : List UInt8} (h : RowB W base v l) : (v = .slice none 0 0 ∧ l.length = 0) ∨ ∃ g cap, v = .slice (some ⟨g, 0, none⟩) l.length cap := by
 obtain ⟨_, h | ⟨g, cap, cur, hv, _⟩⟩ := h
 ·exact .inl h
 ·exact .inr ⟨g, cap, hv⟩
end Go.Proofs.YtaiogolidlamiaaGreatDoor
namespace Go.Proofs.YtaiogolidlamiaaGreatDoor
set_option maxRecDepth 100000
open Go.RowKit Go.Shelf
theorem own_len {W : World} {b : Nat} {e : TypeId} {s n : Nat} {v : Value} {xs : List Value} (h : W.ownsRow b e s v n xs) : ∃ a cap, v = .slice a n cap := by
 obtain ⟨_, ⟨rfl, rfl⟩ | ⟨g, cap, cur, rfl, _⟩⟩ := h
 ·exact ⟨_, _, rfl⟩
 ·exact ⟨_, _, rfl⟩
theorem own_some {W : World} {b : Nat} {e : TypeId} {s n m cap : Nat} {a : Option Addr} {xs : List Value} (h : W.ownsRow b e s (.slice a m cap) n xs) (hn : 0 < n) : ∃ g, a = some ⟨g, 0, none⟩ := by
 obtain ⟨_, ⟨_, h0⟩ | ⟨g, cap, cur, hv, _⟩⟩ := h
 ·omega
 ·simp at hv; exact ⟨g, hv.1⟩
theorem ew_row {W : World} {base g cap : Nat} {L : List Cls} (h : Row W base (.slice (some ⟨g, 0, none⟩) L.length cap) L) (k : Nat) (hk : k < L.length) :
  W.cell? ⟨g, k * 4, none⟩ = some (.int .u64 (wd (L.getD k 0#256) 0)) ∧ W.cell? ⟨g, k * 4 + 1, none⟩ = some (.int .u64 (wd (L.getD k 0#256) 1)) ∧
  W.cell? ⟨g, k * 4 + 2, none⟩ = some (.int .u64 (wd (L.getD k 0#256) 2)) ∧ W.cell? ⟨g, k * 4 + 3, none⟩ = some (.int .u64 (wd (L.getD k 0#256) 3)) := by
 have H : ∀ j, j < 4 → W.cell? ⟨g, k * 4 + j, none⟩ = some (.int .u64 (wd (L.getD k 0#256) j)) := fun j hj => by
  rw [h.cellAt _ (by omega), flatE_get _ _ (by omega), show (k * 4 + j) / 4 = k by omega, show (k * 4 + j) % 4 = j by omega]
 exact ⟨H 0 (by omega), H 1 (by omega), H 2 (by omega), H 3 (by omega)⟩
set_option maxHeartbeats 4000000 in
set_option maxRecDepth 100000 in
theorem rcells_any (l : List Cls) (v : Value) (w : World) (h : Cs w v l) :
  Calls Tryz.prog 91 #[v] w fun e w' => ∃ v', e = .returned v' ∧ Cs w' v' (cellsS l) ∧ Ext w w' := by
 have HL := Lib.hid h
 clear h
 obtain ⟨i0, hi, hz0, hz1, hz2⟩ := info_parts info30'
 obtain ⟨j0, hj, hy0, hy1, hy2⟩ := info_parts info5
 go_enter Tryz.func91, Tryz.ntmps91
 go_wp2_with (fail)
 go_loopw [3, 4, 5] (fun o t i W => ∃ (k : Nat) (out : List Cls) (le : List UInt8), k ≤ 256 ∧ i = .int .i64 k ∧ Ext w W ∧ Row W w.heap.size o out ∧ RowB W w.heap.size t le ∧ Hid (RInv l k out le))
  (fun _ _ i _ => 256 - (intOf i).toNat)
 case atStart =>
  refine ⟨0, [], [], by omega, rfl, ((Ext.refl w).alloc _).alloc _, ?_, ?_, Lib.hid (rinv_start l)⟩
  ·exact (World.ownsRow_made (base := w.heap.size) (e := 62) (size := 4) w #[] 0 (by simp) (by unfold maxLen; omega) rfl).alloc _
  ·have h := World.ownsRow_made (base := w.heap.size) (e := 5) (size := 1) (w.alloc (.cells #[] 62)) #[] 0 (by simp) (by unfold maxLen; omega) rfl
   rwa [World.size_alloc] at h
 case round =>
  obtain ⟨k, out, le, hk, rfl, hE, hrow, hrb, hinv⟩ := hrel
  by_cases hlt : k < 256
  ·have hlen := Lib.hid hinv.out.len
   have hbd := hinv.out.bound
   have hol : out.length ≤ k := by have := hlen.out; omega
   obtain ⟨ao, co, rfl⟩ := own_len hrow
   obtain ⟨al, cl, rfl⟩ := own_len hrb
   have hw : IntKind.u8.wrap (k : Int) = k := IntWalk.u8_in _ ⟨by omega, by omega⟩
   obtain ⟨wo, hwo⟩ : ∃ W, W = wr := ⟨_, rfl⟩
   subst hwo
   have hd : decide ((k : Int) < 256) = true := by simp; omega
   go_wp2_with (fail)
   go_loopw [6] (fun j W => ∃ m : Nat, m ≤ out.length ∧ j = .int .i64 m ∧ Ext wo W ∧ Hid (∀ q, q < m → ¬ Alk l (le.getD q 0).toNat k))
    (fun j _ => out.length - (intOf j).toNat)
   case atStart => exact ⟨0, by omega, rfl, Ext.refl wo, Lib.hid (fun q hq => by omega)⟩
   case round =>
    obtain ⟨m, hm, rfl, hEm, hno⟩ := hrel
    have hE' := hE.trans hEm
    have hrow := owns_ext hrow hEm
    have hrb := owns_ext hrb hEm
    have hs1 := hE'.size
    by_cases hm2 : m < out.length
    ·have hm3 : m < le.length := by have := hlen.out; omega
     obtain ⟨g, rfl⟩ := own_some hrow (by omega)
     obtain ⟨g', rfl⟩ := own_some hrb (by have := hlen.out; omega)
     have cl := RowB.cell hrb rfl m hm3
     obtain ⟨x, hxd⟩ : ∃ x, le.getD m 0 = x := ⟨_, rfl⟩
     rw [hxd] at cl
     have HXD := Lib.hid hxd
     clear hxd
     have HAB := Lib.hid (alk_all l x.toNat k)
     have hx := x.toNat_lt
     have hA := Lib.hid (alike_any l v (x.toNat : Int) (k : Int) (by omega) (by omega) (by omega) (by omega) wr (HL.out.ext hE'))
     generalize (l.all fun c => memB c (x.toNat : Int) == memB c (k : Int)) = b at hA HAB
     cases b
     ·go_wp2_with (go_at_call 123; with_reducible refine hA.out.mono ?_; rintro e w1 ⟨rfl, hE1⟩)
      clear hA cl
      go_roundw
      case rel => exact ⟨m + 1, by omega, by go_num, hEm.trans hE1, Lib.hid fun q hq => by
       by_cases hqm : q = m
       ·rw [hqm, HXD.out]; exact fun ha => Bool.false_ne_true (HAB.out.2 ha)
       ·exact hno.out q (by omega)⟩
      case measure => simp [intOf]; omega
     ·have hne : ((m : Int) == (out.length : Int)) = false := by simp; omega
      have HS := Lib.hid (rinv_old hinv.out (by omega) m hm3 (by rw [HXD.out]; exact HAB.out.1 rfl))
      obtain ⟨a0, a1, a2, a3⟩ := ew_row hrow m hm2
      generalize out.getD m 0#256 = d at *
      have hW := fun W => Lib.hid (with_any d (k : Int) (by omega) (by omega) W)
      go_wp2_with (first
       | (go_at_call 123; with_reducible refine hA.out.mono ?_; rintro e w1 ⟨rfl, hE1⟩; have a0 := hE1.cell a0; have a1 := hE1.cell a1; have a2 := hE1.cell a2; have a3 := hE1.cell a3; have hrow1 := owns_ext hrow hE1)
       | (go_at_call 124; with_reducible refine (hW _).out.mono ?_; rintro e w2 ⟨rfl, hE2⟩)
       | (refine wpList_store_mid rfl 62 (.tmp 52) (.tmp 51) rfl g (m * 4) (encA (addB d (k : Int))) rfl rfl (row_there (owns_ext hrow1 hE2) m hm2) info30 (encA_one _) ?_))
      go_roundw
      case rel =>
       have hr := row_set4 (owns_ext hrow1 hE2) m hm2 (addB d (k : Int))
       have hgb := (hrow.lt g rfl).1
       refine ⟨k + 1, _, le, by omega, by go_num, ((hE'.trans hE1).trans hE2).grown hr.2 (fun q e => by cases e; exact hgb), ?_, ?_, HS⟩
       ·have := hr.1
        show World.ownsRow _ _ _ _ _ _ _
        rw [List.length_set]
        rw [show Row _ _ _ _ = World.ownsRow _ _ _ _ _ _ _ from rfl, List.length_set] at this
        exact this
       ·exact (owns_ext (owns_ext hrb hE1) hE2).kept hr.2 (own_ne (owns_ext (owns_ext hrb hE1) hE2) (owns_ext hrow1 hE2) (by decide))
      case measure => simp [intOf]; omega
    ·obtain rfl : m = out.length := by omega
     have heq : ((out.length : Int) == (out.length : Int)) = true := by simp
     have HS := Lib.hid (rinv_new hinv.out (by omega) (by rw [← hlen.out]; exact hno.out))
     have hnew := row_new_cells wr 0#256
     rw [encA_zero] at hnew
     have hW := fun W => Lib.hid (with_any 0#256 (k : Int) (by omega) (by omega) W)
     have HN := Lib.hid hnew
     clear hnew
     go_wp2_with (at_builtin; (refine wpList_append_lies _ rfl _ _ 26 rfl w.heap.size 62 i0 (.agg zA) 4 32 Tryz.underlying26 hi hz0 hz1 hz2 rfl (by decide) _ _ _ rfl (hrow.alloc _) _ 1 1 (encL 0#256) rfl rfl HN.out (by simp [encL, Value.oneCell']) (by decide) (by unfold maxLen; omega) (by omega) (by simp; omega) _ rfl ?_))
     intro g cap3 w3 hrow3 hgrow3 _ hlt3
     have hE3 : Ext w w3 := (hE'.alloc _).grown hgrow3 (fun q e => by have := (hrow.lt q e).1; omega)
     have hrb3 := (hrb.alloc _).kept hgrow3 (own_ne hrb hrow (by decide))
     have hs3 := hE3.size
     clear HN hgrow3 hrb
     go_wp2_with (at_builtin; (refine wpList_append_lies _ rfl _ _ 22 rfl w.heap.size 5 j0 (.int .u8 0) 1 1 Tryz.underlying22 hj hy0 hy1 hy2 rfl (by decide) _ _ _ rfl (hrb3.alloc _) _ 1 1 [.int .u8 (k : Int)] rfl rfl (cell_one_new _ _ _) (by simp [Value.oneCell']) (by decide) (by unfold maxLen; omega) (by omega) (by simp; omega) _ rfl ?_))
     intro g4 cap4 w4 hrb4 hgrow4 _ hlt4
     have hE4 : Ext w w4 := (hE3.alloc _).grown hgrow4 (fun q e => by have := (hrb3.lt q e).1; omega)
     have hrow4 := (hrow3.alloc _).kept hgrow4 (own_ne hrow3 hrb3 (by decide))
     have HR4 : Hid (Row w4 w.heap.size (.slice (some ⟨g, 0, none⟩) (out ++ [0#256]).length cap3) (out ++ [0#256])) := Lib.hid (by
      show World.ownsRow _ _ _ _ _ _ _
      rw [flatE_append, flatE_one, List.length_append]
      exact hrow4)
     obtain ⟨a0, a1, a2, a3⟩ := ew_row HR4.out out.length (by simp)
     rw [getD_app_eq] at a0 a1 a2 a3
     have hu : ((UInt8.ofNat k).toNat : Int) = k := by rw [u8n k hlt]
     have HU := Lib.hid hu
     clear hu hgrow4 hrb3 hrow3 hrow4
     go_wp2_with (first
      | (go_at_call 124; with_reducible refine (hW _).out.mono ?_; rintro e w5 ⟨rfl, hE5⟩)
      | (refine wpList_store_mid rfl 62 (.tmp 52) (.tmp 51) rfl g (out.length * 4) (encA (addB 0#256 (k : Int))) rfl rfl (row_there (owns_ext HR4.out hE5) out.length (by simp)) info30 (encA_one _) ?_))
     go_roundw
     case rel =>
      have hr := row_set4 (owns_ext HR4.out hE5) out.length (by simp) (addB 0#256 (k : Int))
      have hgb := (HR4.out.lt g rfl).1
      have es : (out ++ [0#256]).set out.length (addB 0#256 (k : Int)) = out ++ [addB 0#256 (k : Int)] := by simp
      rw [es] at hr
      refine ⟨k + 1, out ++ [addB 0#256 (k : Int)], le ++ [UInt8.ofNat k], by omega, by go_num, (hE4.trans hE5).grown hr.2 (fun q e => by cases e; exact hgb), ?_, ?_, HS⟩
      ·have := hr.1
       simp only [List.length_append, List.length_singleton] at this ⊢
       exact this
      ·have := (owns_ext hrb4 hE5).kept hr.2 (own_ne (owns_ext hrb4 hE5) (owns_ext HR4.out hE5) (by decide))
       show World.ownsRow _ _ _ _ _ _ _
       rw [List.length_append, List.map_append, List.map_singleton, bv, HU.out]
       exact this
     case measure => simp [intOf]; omega
  ·obtain rfl : k = 256 := by omega
   have he := rinv_end hinv.out
   have hcs := hrow.toCs (by have := hinv.out.len; have := hinv.out.bound; omega)
   rw [he] at hcs
   go_wp2
   go_ret
   exact ⟨_, rfl, hcs, hE⟩
end Go.Proofs.YtaiogolidlamiaaGreatDoor
namespace Go.Proofs.YtaiogolidlamiaaGreatDoor
set_option maxRecDepth 100000
open Go.RowKit Go.Shelf
abbrev iv (x : Nat) : Value := .int .i64 (x : Int)
def Ints (W : World) (v : Value) (l : List Nat) : Prop := Sl W v 1 l.length (fun i => iv (l.getD i 0))
def Bools (W : World) (v : Value) (l : List Bool) : Prop := Sl W v 1 l.length (fun i => .bool (l.getD i false))
def Rows (W : World) (v : Value) (N : List (List Nat)) : Prop :=
 ∃ vs : List Value, vs.length = N.length ∧ Sl W v 1 N.length (fun i => vs.getD i undef) ∧ ∀ i, i < N.length → Ints W (vs.getD i undef) (N.getD i [])
theorem Ints.ext {W W' : World} {v : Value} {l : List Nat} (h : Ints W v l) (hE : Ext W W') : Ints W' v l := Sl.ext h hE
theorem Bools.ext {W W' : World} {v : Value} {l : List Bool} (h : Bools W v l) (hE : Ext W W') : Bools W' v l := Sl.ext h hE
theorem Rows.ext {W W' : World} {v : Value} {N : List (List Nat)} (h : Rows W v N) (hE : Ext W W') : Rows W' v N := by
 obtain ⟨vs, h1, h2, h3⟩ := h
 exact ⟨vs, h1, h2.ext hE, fun i hi => (h3 i hi).ext hE⟩
theorem Sl.form {W : World} {v : Value} {k n : Nat} {f : Nat → Value} (h : Sl W v k n f) (h0 : 0 < n) :
  ∃ b off cap, v = .slice (some ⟨b, off, none⟩) n cap ∧ ∀ i, i < n * k → W.cell? ⟨b, off + i, none⟩ = some (f i) := by
 obtain ⟨_, ⟨hn, _⟩ | ⟨_, b, off, cap, hv, _, hc⟩⟩ := h
 ·omega
 ·exact ⟨b, off, cap, hv, hc⟩
theorem Sl.len {W : World} {v : Value} {k n : Nat} {f : Nat → Value} (h : Sl W v k n f) : ∃ a cap, v = .slice a n cap := by
 obtain ⟨_, ⟨hn, a, cap, rfl⟩ | ⟨_, b, off, cap, rfl, _⟩⟩ := h
 ·exact ⟨a, cap, by rw [hn]⟩
 ·exact ⟨_, cap, rfl⟩
def IsD (W : World) (v : Value) (d : Dfa) : Prop := ∃ vc vn va, v = .agg #[vc, vn, va] ∧ Cs W vc d.cls ∧ Rows W vn d.nxt ∧ Bools W va d.acc
theorem IsD.ext {W W' : World} {v : Value} {d : Dfa} (h : IsD W v d) (hE : Ext W W') : IsD W' v d := by
 obtain ⟨vc, vn, va, hv, h1, h2, h3⟩ := h
 exact ⟨vc, vn, va, hv, h1.ext hE, h2.ext hE, h3.ext hE⟩
def tblL (c : Nat → Nat) (n : Nat) (vn va : Value) : List Value := (List.range 256).map (fun b => iv (c b)) ++ [iv n, vn, va]
def tblA (c : Nat → Nat) (n : Nat) (vn va : Value) : Array Value := (tblL c n vn va).toArray
theorem tbl_size (c : Nat → Nat) (n : Nat) (vn va : Value) : (tblA c n vn va).size = 259 := by simp [tblA, tblL]
theorem tbl_cell (c : Nat → Nat) (n : Nat) (vn va : Value) (b : Nat) (hb : b < 256) : (tblA c n vn va)[b]? = some (iv (c b)) := by
 simp [tblA, tblL, List.getElem?_append_left, hb]
theorem tbl_n (c : Nat → Nat) (n : Nat) (vn va : Value) : (tblA c n vn va)[256]? = some (iv n) := by
 simp [tblA, tblL, List.getElem?_append_right]
theorem tbl_next (c : Nat → Nat) (n : Nat) (vn va : Value) : (tblA c n vn va)[257]? = some vn := by
 simp [tblA, tblL, List.getElem?_append_right]
theorem tbl_acc (c : Nat → Nat) (n : Nat) (vn va : Value) : (tblA c n vn va)[258]? = some va := by
 simp [tblA, tblL, List.getElem?_append_right]
theorem tbl_congr {c c' : Nat → Nat} (h : ∀ b, b < 256 → c b = c' b) (n : Nat) (vn va : Value) : tblA c n vn va = tblA c' n vn va := by
 unfold tblA tblL
 congr 2
 exact List.map_congr_left fun b hb => by rw [h b (List.mem_range.1 hb)]
theorem tbl_set (c : Nat → Nat) (n : Nat) (vn va : Value) (b x : Nat) (hb : b < 256) : (tblA c n vn va).setIfInBounds b (iv x) = tblA (fun y => if y = b then x else c y) n vn va := by
 apply Array.ext'
 rw [Array.toList_setIfInBounds]
 unfold tblA
 simp only
 apply List.ext_getElem?
 intro i
 unfold tblL
 rw [List.getElem?_set]
 by_cases hi : i < 256
 ·by_cases e : b = i
  ·subst e; simp [List.getElem?_append_left, hb]; omega
  ·simp [List.getElem?_append_left, hi, e, Ne.symm e]
 ·have : b ≠ i := by omega
  rw [if_neg this, List.getElem?_append_right (by simp; omega), List.getElem?_append_right (by simp; omega)]
  simp
theorem tbl_one (c : Nat → Nat) (n : Nat) (vn va : Value) (hn : vn.oneCell' = true) (ha : va.oneCell' = true) : (tblA c n vn va).all (·.oneCell') = true := by
 rw [Array.all_eq_true_iff_forall_mem]
 intro x hx
 simp only [tblA, tblL, List.mem_toArray, List.mem_append, List.mem_map, List.mem_cons, List.not_mem_nil, or_false] at hx
 rcases hx with ⟨b, _, rfl⟩ | rfl | rfl | rfl
 ·rfl
 ·rfl
 ·exact hn
 ·exact ha
theorem slice_one (a : Option Addr) (n cap : Nat) : (Value.slice a n cap).oneCell' = true := rfl
theorem info108 : (Tryz.prog.info? 108).map (·.size) = some 259 := by kernel_rfl
def IsT (W : World) (A : Array Value) (t : Tbl) : Prop := ∃ vn va, A = tblA t.cell t.cells vn va ∧ Rows W vn t.nxt ∧ Bools W va t.acc
theorem IsT.ext {W W' : World} {A : Array Value} {t : Tbl} (h : IsT W A t) (hE : Ext W W') : IsT W' A t := by
 obtain ⟨vn, va, hv, h2, h3⟩ := h
 exact ⟨vn, va, hv, h2.ext hE, h3.ext hE⟩
end Go.Proofs.YtaiogolidlamiaaGreatDoor
