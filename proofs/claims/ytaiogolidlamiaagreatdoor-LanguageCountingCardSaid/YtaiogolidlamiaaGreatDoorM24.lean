import Derived.Test.YtaiogolidlamiaaGreatDoorM22
import Derived.Test.YtaiogolidlamiaaGreatDoorM23
import Derived.Test.YtaiogolidlamiaaGreatDoorM19
set_option linter.unusedVariables false
set_option linter.unusedSimpArgs false
namespace Go.Proofs.YtaiogolidlamiaaGreatDoor
set_option maxRecDepth 100000
open Go.RowKit Go.Shelf
theorem Sl.first {W : World} {v : Value} {k n : Nat} {f : Nat → Value} (h : Sl W v k n f) (hn : 0 < n) (hk : 0 < k) : ∃ b off cap, v = .slice (some ⟨b, off, none⟩) n cap ∧ W.cell? ⟨b, off, none⟩ = some (f 0) := by
 obtain ⟨b, off, cap, rfl, hc⟩ := Sl.form h hn
 exact ⟨b, off, cap, rfl, hc 0 (Nat.mul_pos hn hk)⟩
theorem sl_clash {W : World} {v : Value} {k n k' n' : Nat} {f f' : Nat → Value} (h : Sl W v k n f) (hn : 0 < n) (hk : 0 < k) (h' : Sl W v k' n' f') (hn' : 0 < n') (hk' : 0 < k') : f 0 = f' 0 := by
 obtain ⟨b, off, cap, hv, hc⟩ := h.first hn hk
 obtain ⟨b', off', cap', hv', hc'⟩ := h'.first hn' hk'
 rw [hv] at hv'
 injection hv' with e _ _
 injection e with e
 injection e with e1 e2 _
 subst e1
 subst e2
 rw [hc] at hc'
 injection hc'
theorem IsD.setBox {W : World} {v : Value} {q p : Dfa} (hq : Val q) (h : IsD W v q) (hp : Val p) {A : Array Value} (hA : IsD W (.agg A) p) {g : Nat} {e : TypeId} {fr : Nat × Nat} (hg : W.heap[g]? = some (.cells A e fr)) (cs : Array Value) : IsD (W.setRow g cs) v q := by
 obtain ⟨vc, vn, va, rfl, h1, ⟨vs, hvs, hN, hr⟩, h3⟩ := h
 obtain ⟨pc, pn, pa, hpe, g1, ⟨ps, hps, gN, gr⟩, g3⟩ := hA
 injection hpe with hpe
 have hmq := hq.parts.pos
 have hmp := hp.parts.pos
 have hsl : ∀ (o : Nat) (x : Value), A[o]? = some x → x = pc ∨ x = pn ∨ x = pa := fun o x hx => by
  have := Array.mem_of_getElem? hx
  rw [hpe] at this
  simpa using this
 obtain ⟨ac, cc, hpc⟩ := Sl.len g1
 obtain ⟨an, cn, hpn⟩ := Sl.len gN
 obtain ⟨aa, ca, hpa⟩ := Sl.len g3
 have hss : ∀ (o : Nat) (x : Value), A[o]? = some x → ∃ a n c, x = .slice a n c := fun o x hx => by
  rcases hsl o x hx with rfl | rfl | rfl
  ·exact ⟨_, _, _, hpc⟩
  ·exact ⟨_, _, _, hpn⟩
  ·exact ⟨_, _, _, hpa⟩
 refine ⟨vc, vn, va, rfl, Sl.setRow h1 hg (fun i hi o hx => ?_) (by omega) cs, ⟨vs, hvs, Sl.setRow hN hg (fun i hi o hx => ?_) (by omega) cs, fun i hi => Sl.setRow (hr i hi) hg (fun j hj o hx => ?_) (by omega) cs⟩, Sl.setRow h3 hg (fun i hi o hx => ?_) (by omega) cs⟩
 ·obtain ⟨a, n, c, he⟩ := hss _ _ hx
  cases he
 ·have hi' : i < q.nxt.length := by omega
  have hri := hr i hi'
  have hrl : 0 < (q.nxt.getD i []).length := by rw [hq.row i hi']; exact hmq
  have hpn0 := hp.pos
  rcases hsl _ _ hx with e' | e' | e'
  ·rw [e'] at hri
   have := sl_clash hri hrl (by omega) g1 hmp (by omega)
   cases this
  ·rw [e'] at hri
   have h0 := sl_clash hri hrl (by omega) gN hpn0 (by omega)
   obtain ⟨a, c, hz⟩ := Sl.len (gr 0 hpn0)
   rw [hz] at h0
   cases h0
  ·rw [e'] at hri
   have := sl_clash hri hrl (by omega) g3 (by rw [hp.accL]; exact hpn0) (by omega)
   cases this
 ·obtain ⟨a, n, c, he⟩ := hss _ _ hx
  cases he
 ·obtain ⟨a, n, c, he⟩ := hss _ _ hx
  cases he
theorem catR_none {a b : Dfa} {r : Option Dfa} (h : CatR a b r) (d : Dfa) (hd : r = some d) : Val d ∧ d.nxt.length ≤ 64 := by
 subst hd
 obtain ⟨h1, h2⟩ := catR_fit h (fun _ => Iff.rfl) (fun _ => Iff.rfl)
 exact ⟨h1.1.val, h2⟩
set_option maxHeartbeats 2000000 in
theorem power_any (p d : Dfa) (hp : Val p) (hd : Val d) (hpn : p.nxt.length ≤ 64) (hdn : d.nxt.length ≤ 64) (n : Nat) (hn : n ≤ 1000) (vp vd : Value) (w : World) (hT : Tab w) (hsz : 0 < w.heap.size) (hvp : IsD w vp p) (hvd : IsD w vd d) :
  Calls Tryz.prog 146 #[vp, vd, iv n] w fun e w' => ∃ r, ResOf w' e r ∧ PowR p d n r ∧ Ext w w' := by
 have HTa := Lib.hid (fun W (hW : Ext w W) => hT.below hW.below hsz)
 have HDp := Lib.hid hvp
 have HDd := Lib.hid hvd
 have HVd := Lib.hid hd
 obtain ⟨ac, lc, cc, an, cn, aa, la, ca, rfl⟩ := hvp.agg
 obtain ⟨ac', lc', cc', an', cn', aa', la', ca', rfl⟩ := hvd.agg
 obtain ⟨Vd, hVd⟩ : ∃ X, dA (.slice ac' lc' cc') (.slice an' d.nxt.length cn') (.slice aa' la' ca') = X := ⟨_, rfl⟩
 have hiVd : (Tryz.prog.info? 30).map (·.size) = some Vd.size := by rw [← hVd]; exact info30d
 rw [hVd] at HDd
 rw [hVd]
 obtain ⟨Vp, hVp⟩ : ∃ X, dA (.slice ac lc cc) (.slice an p.nxt.length cn) (.slice aa la ca) = X := ⟨_, rfl⟩
 have hVps : Hid (Vp.size = 3) := Lib.hid (by rw [← hVp]; rfl)
 rw [hVp] at HDp
 rw [hVp]
 have hE0 := (((Ext.refl w).alloc (.cells Vp 30)).alloc (.cells Vd 30)).alloc (.cells #[.slice none 0 0, .slice none 0 0, .slice none 0 0] 30)
 have H3 := heap_alloc_keep (heap_alloc_keep (heap_alloc_at w (.cells Vp 30)) (.cells Vd 30)) (.cells #[.slice none 0 0, .slice none 0 0, .slice none 0 0] 30)
 have H4 := heap_alloc_keep (heap_alloc2_new w (.cells Vp 30) (.cells Vd 30)) (.cells #[.slice none 0 0, .slice none 0 0, .slice none 0 0] 30)
 have H6 := heap_alloc_at ((w.alloc (.cells Vp 30)).alloc (.cells Vd 30)) (.cells #[.slice none 0 0, .slice none 0 0, .slice none 0 0] 30)
 rw [World.size_alloc, World.size_alloc] at H6
 clear hvp hvd hd hT hVd
 go_enter Tryz.func146, Tryz.ntmps146
 go_upto_region 1 with (fail)
 obtain ⟨w1, hw1⟩ : ∃ W, ((w.alloc (.cells Vp 30)).alloc (.cells Vd 30)).alloc (.cells #[.slice none 0 0, .slice none 0 0, .slice none 0 0] 30) = W := ⟨_, rfl⟩
 rw [hw1] at hE0 H3 H4 H6
 simp only [hw1]
 clear hw1
 have HIp := Lib.hid (HDp.out.ext hE0)
 clear hVp HDp
 go_wp2_with (fail)
 go_loopw [8, 10] (fun ve vi W => ∃ (i : Nat) (q : Dfa) (A : Array Value), i ≤ n ∧ ve = .int .i64 0 ∧ vi = .int .i64 i ∧ Ext w W ∧ Hid (W.heap[w.heap.size]? = some (.cells A 30 (0, 0))) ∧ Hid (W.heap[w.heap.size + 1]? = some (.cells Vd 30 (0, 0))) ∧
   Hid (W.heap[w.heap.size + 1 + 1]? = some (.cells #[.slice none 0 0, .slice none 0 0, .slice none 0 0] 30 (0, 0))) ∧ Hid (A.size = 3) ∧ Hid (IsD W (.agg A) q) ∧ Hid (Val q ∧ q.nxt.length ≤ 64) ∧ Hid (∀ r, PowR q d (n - i) r → PowR p d n r))
  (fun _ vi _ => n - (intOf vi).toNat)
 case atStart => exact ⟨0, p, Vp, by omega, rfl, rfl, hE0, Lib.hid H3, Lib.hid H4, Lib.hid H6, hVps, HIp, Lib.hid ⟨hp, hpn⟩, Lib.hid fun r h => h⟩
 case round =>
  clear hE0 H3 H4 H6 HIp hp
  obtain ⟨i, q, A, hi, rfl, rfl, hE, H3, H4, H6, HA, HI, HQ, HP⟩ := hrel
  have hiA : (Tryz.prog.info? 30).map (·.size) = some A.size := by rw [HA.out]; exact info30d
  obtain ⟨bx1, bx2, bx3, bx4, bx5, bx6, bx7, bx8, hAe⟩ := HI.out.agg
  injection hAe with hAe
  by_cases hlt : i < n
  ·have f31 := Lib.hid (concat_any q d HQ.out.1 HVd.out HQ.out.2 hdn _ _ wr (HTa.out wr hE) (Nat.lt_of_lt_of_le hsz hE.size) HI.out (HDd.out.ext hE))
   clear hAe
   go_upto_region 5 with (first
    | (refine wpList_load_row rfl 30 (.tmp 3) rfl _ rfl _ _ _ _ H3.out Tryz.underlying30 rfl hiA ?_)
    | (refine wpList_load_row rfl 30 (.tmp 4) rfl _ rfl _ _ _ _ H4.out Tryz.underlying30 rfl hiVd ?_)
    | (go_at_call 31; (with_reducible refine f31.out.mono ?_); rintro e w5 ⟨r, hres, hcat, hE5⟩; obtain ⟨ac2, lc2, cc2, an2, ln2, cn2, aa2, la2, ca2, k2, rfl⟩ := hres.form; have HRes := Lib.hid hres; have HCat := Lib.hid hcat; have HE5 := Lib.hid hE5; have H35 := Lib.hid (hE5.heap H3.out); clear hres hcat hE5)
    | (refine wpList_store_row rfl 30 (.tmp 3) (.tmp 16) rfl _ _ rfl rfl _ _ H35.out info30d HA.out (dA_one _ _ _ rfl rfl rfl) ?_))
   have hE6 := (hE.trans HE5.out).setRow (Nat.le_refl w.heap.size) (dA (.slice ac2 lc2 cc2) (.slice an2 ln2 cn2) (.slice aa2 la2 ca2))
   have G3 := setRow_heap w5 _ _ (dA (.slice ac2 lc2 cc2) (.slice an2 ln2 cn2) (.slice aa2 la2 ca2)) 30 (0, 0) H35.out
   have G4 := heap_setRow_keep (HE5.out.heap H4.out) (show w.heap.size + 1 ≠ w.heap.size by omega) (dA (.slice ac2 lc2 cc2) (.slice an2 ln2 cn2) (.slice aa2 la2 ca2))
   have G6 := heap_setRow_keep (HE5.out.heap H6.out) (show w.heap.size + 1 + 1 ≠ w.heap.size by omega) (dA (.slice ac2 lc2 cc2) (.slice an2 ln2 cn2) (.slice aa2 la2 ca2))
   have HBox := Lib.hid (fun (q' : Dfa) (hq' : Val q') (h : IsD w5 (.agg (dA (.slice ac2 lc2 cc2) (.slice an2 ln2 cn2) (.slice aa2 la2 ca2))) q') => IsD.setBox hq' h HQ.out.1 (HI.out.ext HE5.out) H35.out (dA (.slice ac2 lc2 cc2) (.slice an2 ln2 cn2) (.slice aa2 la2 ca2)))
   obtain ⟨w6, hw6⟩ : ∃ W, w5.setRow w.heap.size (dA (.slice ac2 lc2 cc2) (.slice an2 ln2 cn2) (.slice aa2 la2 ca2)) = W := ⟨_, rfl⟩
   rw [hw6] at hE6 G3 G4 G6 HBox
   simp only [hw6]
   clear hw6 f31
   have G6 := Lib.hid G6
   cases r with
   | none =>
    have hk : k2 = 2 := by
     have := HRes.out
     unfold ResOf at this
     injection this with this
     injection this with this
     injection this with this
     injection this with _ this
     injection this with this _
     injection this
    subst hk
    have hBz := Lib.hid built30z
    have hpw : PowR q d (n - i) none := by
     rw [show n - i = (n - (i + 1)) + 1 by omega]
     exact ⟨none, HCat.out, rfl⟩
    have HPw := Lib.hid (HP.out none hpw)
    clear hpw G3 G4
    go_wp2_with (first
     | (refine wpList_build_eq rfl 30 _ rfl #[.slice none 0 0, .slice none 0 0, .slice none 0 0] ?_ ?_; (simp; with_reducible exact hBz.out))
     | (refine wpList_store_row rfl 30 (.tmp 6) (.tmp 20) rfl _ _ rfl rfl _ _ G6.out info30d rfl nil_one ?_))
    refine bodyPost_ret (v := .tuple #[zD, .int .i64 2]) (results_cell_row2 rfl _ _ _ _ _ _ _ rfl _ rfl (setRow_heap w6 _ _ #[.slice none 0 0, .slice none 0 0, .slice none 0 0] 30 (0, 0) G6.out) Tryz.underlying30 rfl info30d) rfl ?_
    exact ⟨none, rfl, HPw.out, hE6.setRow (by omega) _⟩
   | some q' =>
    obtain ⟨v', hv', hD'⟩ := HRes.out
    injection hv' with hv'
    injection hv' with hv'
    injection hv' with hv'
    injection hv' with h1 hv'
    injection hv' with h2 _
    injection h2 with _ h2
    subst h2
    rw [← h1] at hD'
    obtain ⟨hqv, hql⟩ := catR_none HCat.out q' rfl
    have hI6 := HBox.out q' hqv hD'
    have HI6 := Lib.hid hI6
    have HN6 := Lib.hid (fun r (h : PowR q' d (n - (i + 1)) r) => HP.out r (by
     rw [show n - i = (n - (i + 1)) + 1 by omega]
     exact ⟨some q', HCat.out, h⟩))
    clear hI6 hD' h1
    go_wp2
    go_roundw
    case rel => exact ⟨i + 1, q', _, by omega, rfl, by go_num, hE6, Lib.hid G3, Lib.hid G4, G6, Lib.hid rfl, HI6, Lib.hid ⟨hqv, hql⟩, HN6⟩
    case measure => simp [intOf]; omega
  ·obtain rfl : n = i := by omega
   have hA1 : A.all (·.oneCell') = true := by rw [hAe]; exact dA_one _ _ _ rfl rfl rfl
   clear hAe
   have HPw := Lib.hid (HP.out (some q) (by rw [Nat.sub_self]; rfl))
   go_wp2_with (first
    | (refine wpList_load_row rfl 30 (.tmp 3) rfl _ rfl _ _ _ _ H3.out Tryz.underlying30 rfl hiA ?_)
    | (refine wpList_store_row rfl 30 (.tmp 6) (.tmp 23) rfl _ _ rfl rfl _ _ H6.out hiA HA.out.symm hA1 ?_))
   refine bodyPost_ret (v := .tuple #[.agg A, .int .i64 0]) (results_cell_row2 rfl _ _ _ _ _ _ _ rfl _ rfl (setRow_heap wr _ _ A 30 (0, 0) H6.out) Tryz.underlying30 rfl hiA) rfl ?_
   exact ⟨some q, ⟨_, rfl, IsD.setRow HQ.out.1 HI.out H6.out _⟩, HPw.out, hE.setRow (by omega) _⟩
end Go.Proofs.YtaiogolidlamiaaGreatDoor
namespace Go.Proofs.YtaiogolidlamiaaGreatDoor
set_option maxRecDepth 100000
open Go.RowKit Go.Shelf
theorem built108w : Tryz.prog.built 108 [(1, .int .i64 256)] = some (tblA (fun _ => 0) 256 (.slice none 0 0) (.slice none 0 0)) := by kernel_rfl
def idC (k y : Nat) : Nat := if y < k then y else 0
theorem idC_set (k : Nat) (hk : k < 256) (n : Nat) (vn va : Value) : (tblA (idC k) n vn va).setIfInBounds k (iv k) = tblA (idC (k + 1)) n vn va := by
 rw [tbl_set _ _ _ _ _ _ hk]
 refine tbl_congr (fun b hb => ?_) n vn va
 unfold idC
 by_cases e : b = k
 ·subst e; simp
 ·rw [if_neg e]
  by_cases h : b < k
  ·rw [if_pos h, if_pos (by omega)]
  ·rw [if_neg h, if_neg (by omega)]
def filN (m k : Nat) : List Nat := (List.range 256).map fun j => if j < k then m else 0
theorem filN_len (m k : Nat) : (filN m k).length = 256 := by simp [filN]
theorem filN_zero (m : Nat) : filN m 0 = List.replicate 256 0 := by
 apply List.ext_getElem?
 intro i
 simp only [filN, List.getElem?_map, List.getElem?_replicate, Nat.not_lt_zero, if_false]
 by_cases h : i < 256
 ·simp [h]
 ·simp [h]
theorem filN_set (m k : Nat) (hk : k < 256) : (filN m k).set k m = filN m (k + 1) := by
 apply List.ext_getElem?
 intro i
 rw [List.getElem?_set, filN_len]
 simp only [filN, List.getElem?_map]
 by_cases h : i < 256
 ·rw [List.getElem?_range h]
  by_cases e : k = i
  ·subst e; simp [hk]
  ·simp only [e, if_false, Option.map_some]
   by_cases h1 : i < k
   ·rw [if_pos h1, if_pos (by omega)]
   ·rw [if_neg h1, if_neg (by omega)]
 ·rw [if_neg (by omega)]
  simp [h]
theorem wrow_hit (l : List UInt8) (s : Nat) (hs : s < l.length) : (filN (l.length + 1) 256).set (l.getD s 0).toNat (s + 1) = wrow l s := by
 apply List.ext_getElem?
 intro i
 rw [List.getElem?_set, filN_len]
 have hx := (l.getD s 0).toNat_lt
 simp only [filN, wrow, List.getElem?_map]
 by_cases h : i < 256
 ·rw [List.getElem?_range h]
  by_cases e : (l.getD s 0).toNat = i
  ·rw [if_pos e, if_pos (by omega), Option.map_some, if_pos ⟨hs, e⟩]
  ·rw [if_neg e, Option.map_some, Option.map_some, if_pos h, if_neg (fun h' => e h'.2)]
 ·rw [if_neg (by omega)]
  simp [h]
theorem wrow_miss (l : List UInt8) (s : Nat) (hs : ¬ s < l.length) : filN (l.length + 1) 256 = wrow l s := by
 unfold filN wrow
 refine List.map_congr_left fun b hb => ?_
 have := List.mem_range.1 hb
 rw [if_pos this, if_neg (fun h => hs h.1)]
set_option maxHeartbeats 2000000 in
theorem word_any (l : List UInt8) (hl : l.length ≤ 62) (v : Value) (w : World) (h : By w v l) :
  Calls Tryz.prog 45 #[v] w fun e w' => ∃ r, ResOf w' e (some r) ∧ Cano r ∧ (∀ u, r.has u = true ↔ u = l) ∧ Ext w w' := by
 obtain ⟨ab, bb, ob, cb, rfl, hab, hcb⟩ := h.split
 obtain ⟨i0, hi, hz0, hz1, hz2⟩ := info_parts info3
 obtain ⟨i4, hi4, hy0, hy1, hy2⟩ := info_parts info4
 obtain ⟨i6, hi6, hx0, hx1, hx2⟩ := info_parts (show (Tryz.prog.info? 68).map (fun i => (i.zero, i.size, i.bytes)) = some (some (.slice none 0 0), 1, 24) by kernel_rfl)
 have HAB := Lib.hid hab
 have HCB := Lib.hid hcb
 have hB0 := Lib.hid built108w
 obtain ⟨T0, hT0⟩ : ∃ X, tblA (fun _ => 0) 256 (.slice none 0 0) (.slice none 0 0) = X := ⟨_, rfl⟩
 rw [hT0] at hB0
 have hsC : Tryz.zeroCells108.size = T0.size := by rw [← hT0, zero108, tbl_size]
 have hiC : (Tryz.prog.info? 108).map (·.size) = some T0.size := by rw [← hT0, tbl_size]; exact info108
 have hoC : T0.all (·.oneCell') = true := by rw [← hT0]; exact tbl_one _ _ (.slice none 0 0) (.slice none 0 0) rfl rfl
 have HT0 := Lib.hid hT0
 have hE0 := (Ext.refl w).alloc (.cells #[.slice none 0 0, .slice none 0 0, .slice none 0 0] 30)
 have H2 := heap_alloc_at w (.cells #[.slice none 0 0, .slice none 0 0, .slice none 0 0] 30)
 clear hT0 h hab hcb
 go_enter Tryz.func45, Tryz.ntmps45
 go_upto_region 1 with (fail)
 obtain ⟨w1, hw1⟩ : ∃ W, w.alloc (.cells #[.slice none 0 0, .slice none 0 0, .slice none 0 0] 30) = W := ⟨_, rfl⟩
 have hs1 : w.heap.size < w1.heap.size := by rw [← hw1, World.size_alloc]; omega
 rw [hw1] at hE0 H2
 simp only [hw1]
 clear hw1
 have HB2 := Lib.hid H2
 clear H2
 go_upto_region 5 with (first
  | (refine wpList_build_eq rfl 108 _ rfl T0 ?_ ?_; (simp [Act.eval]; with_reducible exact hB0.out))
  | (refine wpList_store_row rfl 108 (.tmp 5) (.tmp 15) rfl _ _ rfl rfl _ _ (heap_alloc_at w1 (.cells Tryz.zeroCells108 108)) hiC hsC hoC ?_))
 have hEa := ((Ext.refl w1).alloc (.cells Tryz.zeroCells108 108)).setRow (Nat.le_refl _) T0
 have hDa := setRow_heap (w1.alloc (.cells Tryz.zeroCells108 108)) w1.heap.size _ T0 _ _ (heap_alloc_at w1 _)
 have hsa : w1.heap.size + 1 ≤ ((w1.alloc (.cells Tryz.zeroCells108 108)).setRow w1.heap.size T0).heap.size := by rw [size_setRow, World.size_alloc]; exact Nat.le_refl _
 obtain ⟨wa, hwa⟩ : ∃ W, (w1.alloc (.cells Tryz.zeroCells108 108)).setRow w1.heap.size T0 = W := ⟨_, rfl⟩
 rw [hwa] at hEa hDa hsa
 simp only [hwa]
 clear hwa hsC hiC hoC
 rw [← HT0.out] at hDa
 have HDa : Hid (wa.heap[w1.heap.size]? = some (.cells (tblA (idC 0) 256 (.slice none 0 0) (.slice none 0 0)) 108 (0, 0))) := Lib.hid (by
  rw [hDa, tbl_congr (c := fun _ => 0) (c' := idC 0) (fun b hb => by simp [idC])])
 clear hDa
 go_wp2_with (fail)
 go_loopw [16] (fun i W => ∃ k : Nat, k ≤ 256 ∧ i = .int .i64 k ∧ Ext w1 W ∧ w1.heap.size + 1 ≤ W.heap.size ∧ Hid (W.heap[w1.heap.size]? = some (.cells (tblA (idC k) 256 (.slice none 0 0) (.slice none 0 0)) 108 (0, 0)))) (fun i _ => 256 - (intOf i).toNat)
 case atStart => exact ⟨0, by omega, rfl, hEa, hsa, HDa⟩
 case round =>
  clear hEa hsa HDa
  obtain ⟨k, hk, rfl, hE, hsz, HD⟩ := hrel
  by_cases hlt : k < 256
  ·have hki : (k : Int) < 256 := by omega
   have ck := (cell_of_row wr w1.heap.size k _ _ _ HD.out).trans (tbl_cell _ _ _ _ k hlt)
   have fk := frozen_of_row wr w1.heap.size k _ _ HD.out
   have hE' := hE.setRow (Nat.le_refl _) (tblA (idC (k + 1)) 256 (.slice none 0 0) (.slice none 0 0))
   have HD' := Lib.hid (setRow_heap wr w1.heap.size _ (tblA (idC (k + 1)) 256 (.slice none 0 0) (.slice none 0 0)) _ _ HD.out)
   have HSC : Hid (wr.setCell ⟨w1.heap.size, k, none⟩ (iv k) = wr.setRow w1.heap.size (tblA (idC (k + 1)) 256 (.slice none 0 0) (.slice none 0 0))) := Lib.hid (by rw [setCell_eq_setRow wr _ _ _ _ _ _ HD.out, idC_set _ hlt])
   go_wp2_with (fail)
   go_roundw
   case rel => exact ⟨k + 1, by omega, by go_num, by rw [show wr.setCell ⟨w1.heap.size, k, none⟩ (.int .i64 (k : Int)) = _ from HSC.out]; exact hE', by rw [show wr.setCell ⟨w1.heap.size, k, none⟩ (.int .i64 (k : Int)) = _ from HSC.out, size_setRow]; exact hsz, by rw [show wr.setCell ⟨w1.heap.size, k, none⟩ (.int .i64 (k : Int)) = _ from HSC.out]; exact HD'⟩
   case measure => simp [intOf]; omega
  ·obtain rfl : k = 256 := by omega
   have e256 : ((256 : Nat) : Int) = 256 := rfl
   simp only [e256]
   clear e256
   go_wp2_with (fail)
   have hNo := World.ownsRow_nil wr (w1.heap.size + 1) 68 1
   have hAo := World.ownsRow_nil wr (w1.heap.size + 1) 4 1
   have hVo : RowsO wr (w1.heap.size + 1) [] ((List.range 0).map (wrow l)) (fun _ => False) := ⟨rfl, fun j hj => by simp at hj⟩
   go_loopw [26] (fun i W => ∃ (s : Nat) (vs : List Value) (vnx vac : Value), s ≤ l.length + 2 ∧ i = .int .i64 s ∧ Ext w1 W ∧ w1.heap.size + 1 ≤ W.heap.size ∧ Hid (W.heap[w1.heap.size]? = some (.cells (tblA (idC 256) 256 vnx vac) 108 (0, 0))) ∧
     W.ownsRow (w1.heap.size + 1) 68 1 vnx vs.length vs ∧ OwnB W (w1.heap.size + 1) vac ((List.range s).map fun q => q == l.length) ∧ RowsO W (w1.heap.size + 1) vs ((List.range s).map (wrow l)) (fun _ => False) ∧ Hid (vs.length = s))
    (fun i _ => l.length + 2 - (intOf i).toNat)
   case atStart => exact ⟨0, [], _, _, by omega, rfl, hE, hsz, HD, hNo, hAo, hVo, Lib.hid rfl⟩
   case round =>
    clear hE hsz HD hNo hAo hVo
    obtain ⟨s, vs, vnx, vac, hs, rfl, hE, hsz, HD, hN, hA, hV, HVS⟩ := hrel
    by_cases hlt : s < l.length + 2
    ·obtain ⟨wo, hwo⟩ : ∃ W, W = wr := ⟨_, rfl⟩
     subst hwo
     go_upto_region 14 with (at_make; refine wpList_make_full _ rfl _ _ 68 rfl (w1.heap.size + 1) 3 i0 (.int .i64 0) 1 Tryz.underlying68 hi hz0 hz1 .i64 .i64 _ _ 256 rfl rfl rfl rfl (by rw [hz2]; omega) (by unfold maxLen; omega) (by omega) ?_; intro w5 hown5 hgr5)
     have hE5 := hE.grown hgr5 (fun k e => by cases e)
     have hQ5 : w5.ownsRow (w1.heap.size + 1) 3 1 (.slice (some ⟨wo.heap.size, 0, none⟩) 256 256) 256 ((filN (l.length + 1) 0).map iv) := by rw [filN_zero, ← made_one]; exact hown5
     have HD5 := Lib.hid ((hgr5.block w1.heap.size (lt_of_heap HD.out) (by simp)).trans HD.out)
     have hN5 := own_none hN hgr5
     have hA5 := own_none hA hgr5
     have hV5 := (hV.av (av' := fun o => o = some wo.heap.size) (fun v l ho hav e => by
      have := (ho.lt _ e).2; omega)).kept hgr5 (fun v l ho hav => by cases v.ownBlock <;> simp)
     have hsz5 := Nat.le_trans hsz hgr5.size
     have hgb := (hQ5.lt wo.heap.size rfl).1
     generalize wo.heap.size = gr at *
     clear hown5 hgr5 HD hN hA hV hE hsz
     go_wp2_with (fail)
     go_loopw [32] (fun i W => ∃ k : Nat, k ≤ 256 ∧ i = .int .i64 k ∧ Ext w1 W ∧ w1.heap.size + 1 ≤ W.heap.size ∧ Hid (W.heap[w1.heap.size]? = some (.cells (tblA (idC 256) 256 vnx vac) 108 (0, 0))) ∧
       W.ownsRow (w1.heap.size + 1) 68 1 vnx vs.length vs ∧ OwnB W (w1.heap.size + 1) vac ((List.range s).map fun q => q == l.length) ∧ RowsO W (w1.heap.size + 1) vs ((List.range s).map (wrow l)) (fun o => o = some gr) ∧
       W.ownsRow (w1.heap.size + 1) 3 1 (.slice (some ⟨gr, 0, none⟩) 256 256) 256 ((filN (l.length + 1) k).map iv))
      (fun i _ => 256 - (intOf i).toNat)
     case atStart => exact ⟨0, by omega, rfl, hE5, hsz5, HD5, hN5, hA5, hV5, hQ5⟩
     case round =>
      clear hE5 hsz5 HD5 hN5 hA5 hV5 hQ5
      obtain ⟨k, hk, rfl, hE5, hsz5, HD5, hN5, hA5, hV5, hQ5⟩ := hrel
      by_cases hkc : k < 256
      ·have cq := own_cell 0 hQ5 (filN_len _ _).symm k (by rw [filN_len]; exact hkc)
       have fq := hQ5.frozenAt k
       obtain ⟨hQ6, hgr6⟩ := own_put hQ5 k (l.length + 1)
       rw [filN_set _ _ hkc] at hQ6
       have hE6 := hE5.grown hgr6 (fun k e => by cases e; omega)
       have hN6 := hN5.kept hgr6 (own_ne hN5 hQ5 (by decide))
       have hA6 := hA5.kept hgr6 (own_ne hA5 hQ5 (by decide))
       have hV6 := hV5.kept hgr6 (fun v l ho hav => .inr (fun e => hav e))
       have HD6 := Lib.hid ((hgr6.block w1.heap.size (lt_of_heap HD5.out) (fun e => by have := Option.some.inj e; omega)).trans HD5.out)
       have hsz6 := Nat.le_trans hsz5 hgr6.size
       clear hgr6 hE5 hN5 hA5 hV5 HD5 hQ5
       go_wp2_with (fail)
       go_roundw
       case rel => exact ⟨k + 1, by omega, by go_num, hE6, hsz6, HD6, hN6, hA6, hV6, hQ6⟩
       case measure => simp [intOf]; omega
      ·obtain rfl : k = 256 := by omega
       have e256 : ((256 : Nat) : Int) = 256 := rfl
       simp only [e256]
       clear e256
       go_upto_if 43 with (fail)
       go_cut [] (fun W => Ext w1 W ∧ w1.heap.size + 1 ≤ W.heap.size ∧ Hid (W.heap[w1.heap.size]? = some (.cells (tblA (idC 256) 256 vnx vac) 108 (0, 0))) ∧
        W.ownsRow (w1.heap.size + 1) 68 1 vnx vs.length vs ∧ OwnB W (w1.heap.size + 1) vac ((List.range s).map fun q => q == l.length) ∧ RowsO W (w1.heap.size + 1) vs ((List.range s).map (wrow l)) (fun o => o = some gr) ∧
        W.ownsRow (w1.heap.size + 1) 3 1 (.slice (some ⟨gr, 0, none⟩) 256 256) 256 ((wrow l s).map iv))
       case first =>
        by_cases hsl : s < l.length
        ·have e := HAB.out (by omega)
         subst e
         have cx := (hE0.trans hE5).cell (HCB.out s hsl)
         have hWR := Lib.hid (wrow_hit l s hsl)
         obtain ⟨x, hxd⟩ : ∃ x, l.getD s 0 = x := ⟨_, rfl⟩
         rw [hxd] at cx hWR
         have hx := x.toNat_lt
         clear hxd
         have cq := own_cell 0 hQ5 (filN_len _ _).symm x.toNat (by rw [filN_len]; omega)
         have fq := hQ5.frozenAt x.toNat
         obtain ⟨hQ6, hgr6⟩ := own_put hQ5 x.toNat (s + 1)
         rw [hWR.out] at hQ6
         have hE6 := hE5.grown hgr6 (fun k e => by cases e; omega)
         have hN6 := hN5.kept hgr6 (own_ne hN5 hQ5 (by decide))
         have hA6 := hA5.kept hgr6 (own_ne hA5 hQ5 (by decide))
         have hV6 := hV5.kept hgr6 (fun v l ho hav => .inr (fun e => hav e))
         have HD6 := Lib.hid ((hgr6.block w1.heap.size (lt_of_heap HD5.out) (fun e => by have := Option.some.inj e; omega)).trans HD5.out)
         have hsz6 := Nat.le_trans hsz5 hgr6.size
         clear hgr6 hE5 hN5 hA5 hV5 HD5 hQ5
         go_wp2_with (fail)
         go_meet
         exact ⟨hE6, hsz6, HD6, hN6, hA6, hV6, hQ6⟩
        ·rw [wrow_miss l s hsl] at hQ5
         go_wp2_with (fail)
         go_meet
         exact ⟨hE5, hsz5, HD5, hN5, hA5, hV5, hQ5⟩
       case rest =>
        clear hE5 hsz5 HD5 hN5 hA5 hV5 hQ5
        obtain ⟨hE, hsz, HD, hNx, hAx, hV, hQ⟩ := hcut
        have c1 := (cell_of_row wc w1.heap.size 257 _ _ _ HD.out).trans (tbl_next _ _ _ _)
        have hvb : vs.length ≤ 64 := by rw [HVS.out]; omega
        go_upto_region 22 with (at_builtin; refine wpList_append_lies _ rfl _ _ 27 rfl (w1.heap.size + 1) 68 i6 (.slice none 0 0) 1 24 Tryz.underlying27 hi6 hx0 hx1 hx2 rfl (by decide) vnx vs.length vs rfl (hNx.alloc _) _ 1 1 [.slice (some ⟨gr, 0, none⟩) 256 256] rfl rfl (cell_one_new _ _ _) (by simp [Value.oneCell']) (by decide) (by unfold maxLen; omega) (by omega) (by simp; omega) _ rfl ?_; intro g7 c7 w7 hN7 hgr7 _ _; have HD7 : Hid (w7.heap[w1.heap.size]? = _) := Lib.hid ((hgr7.block w1.heap.size (Nat.lt_of_lt_of_le (lt_of_heap HD.out) (by rw [World.size_alloc]; omega)) (fun e => by have := (hNx.lt _ e.symm).1; omega)).trans (heap_alloc_keep HD.out _)); have c17 := (cell_of_row w7 w1.heap.size 257 _ _ _ HD7.out).trans (tbl_next _ _ _ _); have f17 := frozen_of_row w7 w1.heap.size 257 _ _ HD7.out)
        clear c1 c17 f17
        have hQ7 := (hQ.alloc (.cells #[.slice (some ⟨gr, 0, none⟩) 256 256] 68)).kept hgr7 (own_ne hQ hNx (by decide))
        have hA7 := (hAx.alloc (.cells #[.slice (some ⟨gr, 0, none⟩) 256 256] 68)).kept hgr7 (own_ne hAx hNx (by decide))
        have hV7 := (hV.alloc (.cells #[.slice (some ⟨gr, 0, none⟩) 256 256] 68)).kept hgr7 (fun v l ho _ => own_ne ho (hNx.alloc (.cells #[.slice (some ⟨gr, 0, none⟩) 256 256] 68)) (by decide))
        have hE7 := (hE.alloc (.cells #[.slice (some ⟨gr, 0, none⟩) 256 256] 68)).grown hgr7 (fun k e => by have := (hNx.lt k e).1; omega)
        have hsz7 : w1.heap.size + 1 ≤ w7.heap.size := by
         have := hgr7.size
         rw [World.size_alloc] at this
         omega
        clear hgr7 hQ hAx hV hE hNx HD
        have hN7 : w7.ownsRow (w1.heap.size + 1) 68 1 (.slice (some ⟨g7, 0, none⟩) (vs.length + 1) c7) (vs ++ [Value.slice (some ⟨gr, 0, none⟩) 256 256]).length (vs ++ [Value.slice (some ⟨gr, 0, none⟩) 256 256]) := by
         rw [List.length_append]
         exact hN7
        obtain ⟨row, hrowd⟩ : ∃ v, Value.slice (some ⟨gr, 0, none⟩) 256 256 = v := ⟨_, rfl⟩
        rw [hrowd] at hN7 hQ7
        clear hrowd
        obtain ⟨vn8, hvn8⟩ : ∃ v, Value.slice (some ⟨g7, 0, none⟩) (vs.length + 1) c7 = v := ⟨_, rfl⟩
        rw [hvn8] at hN7
        have hgr8 := setRow_grown w7 w1.heap.size (tblA (idC 256) 256 vn8 vac)
        have hsc : w7.setCell ⟨w1.heap.size, 257, none⟩ vn8 = w7.setRow w1.heap.size (tblA (idC 256) 256 vn8 vac) := by
         rw [setCell_eq_setRow w7 _ _ _ _ _ _ HD7.out, tbl_set_next]
        have hE8 := hE7.setRow (Nat.le_refl _) (tblA (idC 256) 256 vn8 vac)
        have hQ8 := hQ7.kept hgr8 (own_far hQ7 (by omega))
        have hN8 := hN7.kept hgr8 (own_far hN7 (by omega))
        have hA8 := hA7.kept hgr8 (own_far hA7 (by omega))
        have hV8 := hV7.kept hgr8 (fun v l ho _ => own_far ho (by omega))
        have HD8 := Lib.hid (setRow_heap w7 w1.heap.size _ (tblA (idC 256) 256 vn8 vac) _ _ HD7.out)
        have hsz8 : w1.heap.size + 1 ≤ (w7.setRow w1.heap.size (tblA (idC 256) 256 vn8 vac)).heap.size := by rw [size_setRow]; exact hsz7
        rw [hvn8, hsc]
        clear hgr8 hQ7 hN7 hA7 hV7 hE7 hsz7 HD7 hsc
        obtain ⟨w8, hw8⟩ : ∃ W, w7.setRow w1.heap.size (tblA (idC 256) 256 vn8 vac) = W := ⟨_, rfl⟩
        rw [hw8] at hQ8 hN8 hA8 hV8 HD8 hE8 hsz8
        rw [hw8]
        clear hw8
        have k2 := (cell_of_row w8 w1.heap.size 258 _ _ _ HD8.out).trans (tbl_acc _ _ _ _)
        obtain ⟨bx, hbx⟩ : ∃ b, (s == l.length) = b := ⟨_, rfl⟩
        have heq : ((s : Int) == (l.length : Int)) = bx := by
         rw [← hbx, Bool.eq_iff_iff]
         simp
         omega
        have HBX := Lib.hid hbx
        clear hbx
        have hAs : ((List.range s).map fun q => q == l.length).length ≤ 64 := by simp; omega
        obtain ⟨Ac, hAc⟩ : ∃ X, ((List.range s).map fun q => q == l.length) = X := ⟨_, rfl⟩
        have HAC := Lib.hid hAc
        rw [hAc] at hA8 hAs
        clear hAc
        go_upto_region 23 with (at_builtin; refine wpList_append_lies _ rfl _ _ 28 rfl (w1.heap.size + 1) 4 i4 (.bool false) 1 1 Tryz.underlying28 hi4 hy0 hy1 hy2 rfl (by decide) vac Ac.length (Ac.map Value.bool) rfl (hA8.alloc _) _ 1 1 [.bool bx] rfl rfl (cell_one_new _ _ _) (by simp [Value.oneCell']) (by decide) (by unfold maxLen; omega) (by omega) (by simp; omega) _ rfl ?_; intro g9 c9 w9 hA9 hgr9 _ _; have HD9 : Hid (w9.heap[w1.heap.size]? = _) := Lib.hid ((hgr9.block w1.heap.size (Nat.lt_of_lt_of_le (lt_of_heap HD8.out) (by rw [World.size_alloc]; omega)) (fun e => by have := (hA8.lt _ e.symm).1; omega)).trans (heap_alloc_keep HD8.out _)); have c29 := (cell_of_row w9 w1.heap.size 258 _ _ _ HD9.out).trans (tbl_acc _ _ _ _); have f29 := frozen_of_row w9 w1.heap.size 258 _ _ HD9.out)
        clear k2 c29 f29
        have hQ9 := (hQ8.alloc (.cells #[.bool bx] 4)).kept hgr9 (own_ne hQ8 hA8 (by decide))
        have hN9 := (hN8.alloc (.cells #[.bool bx] 4)).kept hgr9 (own_ne hN8 hA8 (by decide))
        have hV9 := (hV8.alloc (.cells #[.bool bx] 4)).kept hgr9 (fun v l ho _ => own_ne ho (hA8.alloc (.cells #[.bool bx] 4)) (by decide))
        have hE9 := (hE8.alloc (.cells #[.bool bx] 4)).grown hgr9 (fun k e => by have := (hA8.lt k e).1; omega)
        have hsz9 : w1.heap.size + 1 ≤ w9.heap.size := by
         have := hgr9.size
         rw [World.size_alloc] at this
         omega
        have hA9 : OwnB w9 (w1.heap.size + 1) (.slice (some ⟨g9, 0, none⟩) (Ac.length + 1) c9) (Ac ++ [bx]) := by
         show World.ownsRow _ _ _ _ _ _ _
         rw [List.length_append, List.map_append]
         exact hA9
        clear hgr9 hQ8 hN8 hA8 hV8 HD8 hE8 hsz8
        obtain ⟨va8, hva8⟩ : ∃ v, Value.slice (some ⟨g9, 0, none⟩) (Ac.length + 1) c9 = v := ⟨_, rfl⟩
        rw [hva8] at hA9
        have hgr10 := setRow_grown w9 w1.heap.size (tblA (idC 256) 256 vn8 va8)
        have hsc : w9.setCell ⟨w1.heap.size, 258, none⟩ va8 = w9.setRow w1.heap.size (tblA (idC 256) 256 vn8 va8) := by
         rw [setCell_eq_setRow w9 _ _ _ _ _ _ HD9.out, tbl_set_acc]
        have hE10 := hE9.setRow (Nat.le_refl _) (tblA (idC 256) 256 vn8 va8)
        have hQ10 := hQ9.kept hgr10 (own_far hQ9 (by omega))
        have hN10 := hN9.kept hgr10 (own_far hN9 (by omega))
        have hA10 := hA9.kept hgr10 (own_far hA9 (by omega))
        have hV10 := hV9.kept hgr10 (fun v l ho _ => own_far ho (by omega))
        have HD10 := Lib.hid (setRow_heap w9 w1.heap.size _ (tblA (idC 256) 256 vn8 va8) _ _ HD9.out)
        have hsz10 : w1.heap.size + 1 ≤ (w9.setRow w1.heap.size (tblA (idC 256) 256 vn8 va8)).heap.size := by rw [size_setRow]; exact hsz9
        rw [hva8, hsc]
        clear hgr10 hQ9 hN9 hA9 hV9 hE9 hsz9 HD9 hsc
        obtain ⟨w10, hw10⟩ : ∃ W, w9.setRow w1.heap.size (tblA (idC 256) 256 vn8 va8) = W := ⟨_, rfl⟩
        rw [hw10] at hQ10 hN10 hA10 hV10 HD10 hE10 hsz10
        rw [hw10]
        clear hw10
        have hQ11 : OwnI w10 (w1.heap.size + 1) row (wrow l s) := by
         show World.ownsRow _ _ _ _ _ _ _
         rw [show (wrow l s).length = 256 by simp [wrow]]
         exact hQ10
        have hV11 := (hV10.av (av' := fun _ => False) (fun v l _ _ e => e)).snoc hQ11 (fun e => e)
        have HV11 : Hid (RowsO w10 (w1.heap.size + 1) (vs ++ [row]) ((List.range (s + 1)).map (wrow l)) (fun _ => False)) := Lib.hid (by
         rw [List.range_succ, List.map_append]
         exact hV11)
        have HA11 : Hid (OwnB w10 (w1.heap.size + 1) va8 ((List.range (s + 1)).map fun q => q == l.length)) := Lib.hid (by
         rw [List.range_succ, List.map_append, HAC.out, List.map_singleton, HBX.out]
         exact hA10)
        have HVL : Hid ((vs ++ [row]).length = s + 1) := Lib.hid (by rw [List.length_append, HVS.out]; rfl)
        clear hQ10 hV10 hQ11 hV11 hA10
        go_wp2
        go_roundw
        case rel => exact ⟨s + 1, vs ++ [row], vn8, va8, by omega, by go_num, hE10, hsz10, HD10, hN10, HA11.out, HV11.out, HVL⟩
        case measure => simp [intOf]; omega
    ·obtain rfl : s = l.length + 2 := by omega
     have hIT : IsT wr (tblA (idC 256) 256 vnx vac) (wordT l) := by
      refine ⟨vnx, vac, tbl_congr (fun b hb => by show idC 256 b = b; simp [idC, hb]) _ _ _, ?_, OwnB.bools (l := (List.range (l.length + 2)).map fun q => q == l.length) hA (by simp; omega)⟩
      exact hV.rows hN (by simp; omega) (fun j hj => by
       rw [getD_map_range _ _ _ _ (by simpa using hj)]
       simp [wrow])
     have hC := Lib.hid (canonical_any (wordT l) (wordT_val l) (by rw [wordT_len]; omega) _ wr hIT)
     obtain ⟨A6, hA6⟩ : ∃ X, tblA (idC 256) 256 vnx vac = X := ⟨_, rfl⟩
     have hiB : (Tryz.prog.info? 108).map (·.size) = some A6.size := by rw [← hA6, tbl_size]; exact info108
     rw [hA6] at HD hC
     clear hA6 hIT hN hA hV
     have HB2r := Lib.hid (hE.heap HB2.out)
     have HEr := Lib.hid (hE0.trans hE)
     go_wp2_with (first
      | (refine wpList_load_row rfl 108 (.tmp 5) rfl _ rfl _ _ _ _ HD.out Tryz.underlying108 rfl hiB ?_)
      | (go_at_call 69; (with_reducible refine hC.out.mono ?_); rintro e w7 ⟨v, r, rfl, hr, hcan, hhas, hE9⟩; have HR := Lib.hid hr; have HCa := Lib.hid hcan; have HH := Lib.hid hhas; clear hcan hhas; obtain ⟨ac', lc', cc', an'', cn'', aa', la', ca'', rfl⟩ := hr.agg; clear hr; have HB2r := Lib.hid (hE9.heap HB2r.out))
      | (refine wpList_store_row rfl 30 (.tmp 2) (.tmp 68) rfl _ _ rfl rfl _ _ HB2r.out info30d rfl (dA_one _ _ _ rfl rfl rfl) ?_))
     refine bodyPost_ret (v := .tuple #[.agg (dA (.slice ac' lc' cc') (.slice an'' r.nxt.length cn'') (.slice aa' la' ca'')), .int .i64 0]) (results_cell_row2 rfl _ _ _ _ _ _ _ rfl _ rfl (setRow_heap w7 _ _ (dA (.slice ac' lc' cc') (.slice an'' r.nxt.length cn'') (.slice aa' la' ca'')) 30 (0, 0) HB2r.out) Tryz.underlying30 rfl info30d) rfl ?_
     exact ⟨r, ⟨_, rfl, HR.out.setRow HCa.out.val HB2r.out _⟩, HCa.out, fun u => by rw [HH.out]; exact wordT_has l u, (HEr.out.trans hE9).setRow (Nat.le_refl _) _⟩
end Go.Proofs.YtaiogolidlamiaaGreatDoor
