import Derived.Test.YtaiogolidlamiaaGreatDoorM35
import Derived.Test.YtaiogolidlamiaaGreatDoorM39
set_option linter.unusedVariables false
set_option linter.unusedSimpArgs false
namespace Go.Proofs.YtaiogolidlamiaaGreatDoor
set_option maxRecDepth 100000
open Go.RowKit Go.Shelf
def Bx (S : Nat) (a : Option Addr) (n c A : Nat) : Array Value := #[.int .u8 S, .slice a n c, .int .u8 A]
theorem Kq (S : Nat) (a : Option Addr) (n c A : Nat) : (Tryz.prog.info? 24).map (·.size) = some (Bx S a n c A).size := by
 show _ = some 3
 kernel_rfl
structure RawAt (W : World) (S : Nat) (a : Option Addr) (n c A : Nat) : Prop where
 hs : S < 256
 ha : A < 256
 by_ : ∃ l : List UInt8, l.length = n ∧ ByW W (.slice a n c) l
theorem RawAt.ext {W W' : World} {S : Nat} {a : Option Addr} {n c A : Nat} (h : RawAt W S a n c A) (hE : Ext W W') : RawAt W' S a n c A :=
 ⟨h.hs, h.ha, by obtain ⟨l, h1, h2⟩ := h.by_; exact ⟨l, h1, h2.ext hE⟩⟩
abbrev Ja (R : Array Value) (W : World) : Prop := Calls Tryz.prog 26 #[.agg R] W fun e w' => ∃ d v, e = .returned v ∧ IsD w' v d ∧ (Val d ∧ d.nxt.length ≤ 5) ∧ Ext W w'
theorem Kf {w : World} {S : Nat} {a : Option Addr} {n c A : Nat} (h : RawAt w S a n c A) :
  Ja (Bx S a n c A) w := by
 obtain ⟨hS, hA, l, rfl, hb⟩ := h;exact (Acc S A hS hA _ l w hb).mono fun e w' ⟨v, d, h1, h2, h3, h4, h5⟩ => ⟨d, v, h1, h2, ⟨h3, h4⟩, h5⟩
theorem M3 {W : World} {b e s n c g : Nat} {xs : List Value} (h : W.ownsRow b e s (.slice (some ⟨g, 0, none⟩) n c) n xs) : n ≤ c := by
 obtain ⟨_, ⟨he, _⟩ | ⟨g', cap, cur, he, _, _, hnc, _⟩⟩ := h
 ·cases he
 ·injection he with _ _ h3
  rw [h3]; exact hnc
set_option maxHeartbeats 2000000 in
theorem Tw (l : List UInt8) (v : Value) (n : Nat) (hn : n ≤ 1000) (w : World) (hl : ByW w v l) :
  Calls Tryz.prog 27 #[v, iv n] w fun e w' => ∃ (x : List UInt8) (g c : Nat), e = .returned (.slice (some ⟨g, 0, none⟩) x.length c) ∧ x.length ≤ n ∧ By w' (.slice (some ⟨g, 0, none⟩) x.length c) x ∧ x.length ≤ c ∧ Ext w w' := by
 obtain ⟨j0, hj, hy0, hy1, hy2⟩ := info_parts (show (Tryz.prog.info? 5).map (fun i => (i.zero, i.size, i.bytes)) = some (some (.int .u8 0), 1, 1) by kernel_rfl);obtain ⟨a, b, o, ca, rfl, ha1, _, ha3⟩ := hl.split;have hl63 := hl.1;have HC := Lib.hid (fun (W : World) (hW : Ext w W) i (hi : i < l.length) => hW.cell (ha3 i hi));have HA := Lib.hid ha1;clear hl ha1 ha3;have hE0 := (Ext.refl w).alloc (.cells #[] 5);have hO0 : World.ownsRow (w.alloc (.cells #[] 5)) w.heap.size 5 1 (.slice (some ⟨w.heap.size, 0, none⟩) 0 0) 0 [] := World.ownsRow_lit (base := w.heap.size) (e := 5) (size := 1) w #[] 0 (Nat.le_refl _) (by unfold maxLen; omega) rfl;go_enter Tryz.func27, Tryz.ntmps27;go_wp2_with (fail);go_loopw [5, 6] (fun vx vi W => ∃ (x : List UInt8) (g c : Nat), x.length ≤ n ∧ x.length ≤ l.length ∧ vx = .slice (some ⟨g, 0, none⟩) x.length c ∧ vi = .int .i64 x.length ∧ Ext w W ∧ W.ownsRow w.heap.size 5 1 (.slice (some ⟨g, 0, none⟩) x.length c) x.length (x.map bv))
  (fun _ vi _ => n - (intOf vi).toNat)
 case atStart => exact ⟨[], _, _, by simp, by simp, rfl, rfl, hE0, hO0⟩
 case round =>
  clear hE0 hO0;obtain ⟨x, g, c, hx1, hx2, rfl, rfl, hE, hO⟩ := hrel;obtain ⟨wo, hwo⟩ : ∃ W, W = wr := ⟨_, rfl⟩;subst hwo;have hsz := hE.size;obtain ⟨i, hi⟩ : ∃ i, x.length = i := ⟨_, rfl⟩;rw [hi] at hx1 hx2 hO;have HI := Lib.hid hi;simp only [hi];clear hi;by_cases hlt : i < l.length ∧ i < n
  ·obtain ⟨h1, h2⟩ := hlt;have hc1 : (i : Int) < (l.length : Int) := by omega
   have hc2 : (i : Int) < (n : Int) := by omega
   obtain rfl := HA.out (by omega);have cx := HC.out wo hE i h1;obtain ⟨y, hy⟩ : ∃ y, l.getD i 0 = y := ⟨_, rfl⟩;rw [hy] at cx;have hy8 := y.toNat_lt;clear hy;obtain ⟨z, hz⟩ : ∃ z : UInt8, 97 + (y.toNat : Int) % 4 = (z.toNat : Int) := ⟨UInt8.ofNat (97 + y.toNat % 4), by rw [u8n _ (by omega)]; omega⟩;have HZ := Lib.hid hz;clear hz;have hcase : (y.toNat : Int) < 97 ∨ (97 ≤ (y.toNat : Int) ∧ (y.toNat : Int) ≤ 100) ∨ 100 < (y.toNat : Int) := by omega
   rcases hcase with h | h | h
   ·go_upto_region 8 with (fail)
    clear cx;rw [HZ.out, show (Value.int IntKind.u8 (z.toNat : Int)) = bv z from rfl];go_wp2_with (at_builtin; refine wpList_append_lies _ rfl _ _ 22 rfl w.heap.size 5 j0 (.int .u8 0) 1 1 Tryz.underlying22 hj hy0 hy1 hy2 rfl (by decide) _ _ _ rfl (hO.alloc _) _ 1 1 [bv z] rfl rfl (cell_one_new _ _ _) (by simp [Value.oneCell']) (by decide) (by unfold maxLen; omega) (by omega) (by simp; omega) _ rfl ?_; intro g7 c7 w7 hO7 hgr7 hat7 _);have hE7 := (hE.alloc (.cells #[bv z] 5)).grown hgr7 (fun k e => by have := (hO.lt k e).1; omega);go_roundw
    case rel => exact ⟨x ++ [z], g7, c7, by rw [List.length_append, HI.out]; simp; omega, by rw [List.length_append, HI.out]; simp; omega, by rw [List.length_append, HI.out]; rfl, by rw [List.length_append, HI.out]; go_num, hE7, by
     rw [List.length_append, HI.out, List.map_append]; exact hO7⟩
    case measure => simp [intOf]; omega
   ·go_upto_region 8 with (fail)
    clear cx;clear HZ; clear z; obtain ⟨z, rfl⟩ : ∃ z, z = y := ⟨_, rfl⟩
    go_wp2_with (at_builtin; refine wpList_append_lies _ rfl _ _ 22 rfl w.heap.size 5 j0 (.int .u8 0) 1 1 Tryz.underlying22 hj hy0 hy1 hy2 rfl (by decide) _ _ _ rfl (hO.alloc _) _ 1 1 [bv z] rfl rfl (cell_one_new _ _ _) (by simp [Value.oneCell']) (by decide) (by unfold maxLen; omega) (by omega) (by simp; omega) _ rfl ?_; intro g7 c7 w7 hO7 hgr7 hat7 _);have hE7 := (hE.alloc (.cells #[bv z] 5)).grown hgr7 (fun k e => by have := (hO.lt k e).1; omega);go_roundw
    case rel => exact ⟨x ++ [z], g7, c7, by rw [List.length_append, HI.out]; simp; omega, by rw [List.length_append, HI.out]; simp; omega, by rw [List.length_append, HI.out]; rfl, by rw [List.length_append, HI.out]; go_num, hE7, by
     rw [List.length_append, HI.out, List.map_append]; exact hO7⟩
    case measure => simp [intOf]; omega
   ·go_upto_region 8 with (fail)
    clear cx;rw [HZ.out, show (Value.int IntKind.u8 (z.toNat : Int)) = bv z from rfl];go_wp2_with (at_builtin; refine wpList_append_lies _ rfl _ _ 22 rfl w.heap.size 5 j0 (.int .u8 0) 1 1 Tryz.underlying22 hj hy0 hy1 hy2 rfl (by decide) _ _ _ rfl (hO.alloc _) _ 1 1 [bv z] rfl rfl (cell_one_new _ _ _) (by simp [Value.oneCell']) (by decide) (by unfold maxLen; omega) (by omega) (by simp; omega) _ rfl ?_; intro g7 c7 w7 hO7 hgr7 hat7 _);have hE7 := (hE.alloc (.cells #[bv z] 5)).grown hgr7 (fun k e => by have := (hO.lt k e).1; omega);go_roundw
    case rel => exact ⟨x ++ [z], g7, c7, by rw [List.length_append, HI.out]; simp; omega, by rw [List.length_append, HI.out]; simp; omega, by rw [List.length_append, HI.out]; rfl, by rw [List.length_append, HI.out]; go_num, hE7, by
     rw [List.length_append, HI.out, List.map_append]; exact hO7⟩
    case measure => simp [intOf]; omega
  ·have hby : By wo (.slice (some ⟨g, 0, none⟩) x.length c) x := by
    have h0 : World.ownsRow wo w.heap.size 5 1 (.slice (some ⟨g, 0, none⟩) x.length c) x.length (x.map bv) := by rw [HI.out]; exact hO
    exact By.of_owns h0 (by rw [HI.out]; omega)
   rw [HI.out] at hby;by_cases h1 : i < l.length
   ·have h2 : ¬ i < n := fun h => hlt ⟨h1, h⟩
    go_wp2;go_ret;exact ⟨x, g, c, by rw [HI.out]; rfl, by rw [HI.out]; omega, by rw [HI.out]; exact hby, by rw [HI.out]; exact M3 hO, hE⟩
   ·go_wp2;go_ret;exact ⟨x, g, c, by rw [HI.out]; rfl, by rw [HI.out]; omega, by rw [HI.out]; exact hby, by rw [HI.out]; exact M3 hO, hE⟩
theorem Aey (l : List UInt8) (v : Value) (n : Nat) (hn : n ≤ 1000) (w : World) (hl : ByW w v l) :
  Calls Tryz.prog 27 #[v, iv n] w fun e w' => ∃ (x : List UInt8) (g c : Nat), e = .returned (.slice (some ⟨g, 0, none⟩) x.length c) ∧ x.length ≤ n ∧ By w' (.slice (some ⟨g, 0, none⟩) x.length c) x ∧ Ext w w' :=
 (Tw l v n hn w hl).mono fun e w' ⟨x, g, c, h1, h2, h3, _, h4⟩ => ⟨x, g, c, h1, h2, h3, h4⟩
theorem Kg {α : Type} [DecidableEq α] (l l' : List α) (d : α) (h : l.length = l'.length) (hq : ∀ q, q < l.length → l.getD q d = l'.getD q d) : l = l' := by
 apply List.ext_getElem h;intro i h1 h2;have := hq i h1;rw [List.getD_eq_getElem?_getD, List.getD_eq_getElem?_getD, List.getElem?_eq_getElem h1, List.getElem?_eq_getElem h2] at this;exact this
set_option maxHeartbeats 1000000 in
theorem Yp (l l' : List Nat) (v v' : Value) (w : World) (h : Ints w v l) (h' : Ints w v' l') :
  Calls Tryz.prog 66 #[v, v'] w fun e w' => e = .returned (.bool (decide (l = l'))) ∧ Ext w w' := by
 obtain ⟨a, c, rfl⟩ := Sl.len h;obtain ⟨a', c', rfl⟩ := Sl.len h';by_cases hl : l.length = l'.length
 ·have hb := h.1;have HC : Hid (0 < l.length → ∃ b o b' o', a = some ⟨b, o, none⟩ ∧ a' = some ⟨b', o', none⟩ ∧ (∀ i, i < l.length → w.cell? ⟨b, o + i, none⟩ = some (iv (l.getD i 0))) ∧ ∀ i, i < l.length → w.cell? ⟨b', o' + i, none⟩ = some (iv (l'.getD i 0))) := Lib.hid fun h0 => by
   obtain ⟨b, o, c1, e1, k1⟩ := Sl.form h h0;obtain ⟨b', o', c2, e2, k2⟩ := Sl.form h' (by omega);injection e1 with e1
   injection e2 with e2
   exact ⟨b, o, b', o', e1, e2, fun i hi => k1 i (by omega), fun i hi => k2 i (by omega)⟩
  have HL := Lib.hid hl;rw [← hl];obtain ⟨n, hn⟩ : ∃ n, l.length = n := ⟨_, rfl⟩;rw [hn] at HC hb;rw [hn];have HN := Lib.hid hn;clear h h' hl hn;go_enter Tryz.func66, Tryz.ntmps66;go_wp2_with (fail);go_loopw [5] (fun vi W => ∃ j : Nat, j ≤ n ∧ vi = .int .i64 j ∧ Ext w W ∧ Hid (∀ q, q < j → l.getD q 0 = l'.getD q 0))
   (fun vi _ => n - (intOf vi).toNat)
  case atStart => exact ⟨0, by omega, rfl, Ext.refl w, Lib.hid fun q hq => by omega⟩
  case round =>
   obtain ⟨j, hj, rfl, hE, HQ⟩ := hrel;by_cases hlt : j < n
   ·obtain ⟨b, o, b', o', rfl, rfl, k1, k2⟩ := HC.out (by omega);have k1 := At (hE.cell (k1 j hlt));have k2 := At (hE.cell (k2 j hlt));obtain ⟨x, hx⟩ : ∃ x, l.getD j 0 = x := ⟨_, rfl⟩;obtain ⟨y, hy⟩ : ∃ y, l'.getD j 0 = y := ⟨_, rfl⟩;rw [hx] at k1;rw [hy] at k2;have HX := Lib.hid hx;have HY := Lib.hid hy;clear hx hy;go_upto_region 6 with (fail)
    refine C1 (by kernel_rfl) (by kernel_rfl) ?_;iterate 9 (with_reducible refine wpQuiet_step (fun K hK => ?_); go_simp; first | (refine hK _ ?_; clear hK K))
    refine wpQuiet_nil ?_;rintro _ ⟨e, rfl⟩;have hE' := hE.trans e.ext;clear k1 k2;generalize e.W = w5 at *;by_cases hxy : x = y
    ·have hxi : (x : Int) = (y : Int) := by omega
     go_wp2;go_roundw
     case rel => exact ⟨j + 1, by omega, by go_num, hE', Lib.hid fun q hq => by
      by_cases hqj : q < j
      ·exact HQ.out q hqj
      ·obtain rfl : q = j := by omega
       rw [HX.out, HY.out, hxy]⟩
     case measure => simp [intOf]; omega
    ·have hxi : ¬ (x : Int) = (y : Int) := by omega
     have hne : Hid (decide (l = l') = false) := Lib.hid (decide_eq_false fun e => hxy (by rw [← HX.out, ← HY.out, e]));go_wp2;go_ret;exact ⟨by rw [hne.out]; rfl, hE'⟩
   ·obtain rfl : j = n := by omega
    have heq : Hid (decide (l = l') = true) := Lib.hid (decide_eq_true (Kg l l' 0 HL.out fun q hq => HQ.out q (by rw [← HN.out]; exact hq)));go_wp2;go_ret;exact ⟨by rw [heq.out]; rfl, hE⟩
 ·have hne : Hid (decide (l = l') = false) := Lib.hid (decide_eq_false fun e => hl (by rw [e]));have hli : ¬ (l.length : Int) = (l'.length : Int) := by omega
  go_enter Tryz.func66, Tryz.ntmps66;go_wp2_with (fail);go_ret;exact ⟨by rw [hne.out]; rfl, Ext.refl w⟩
theorem Uc {d d' : Dfa} (h1 : d.cls = d'.cls) (h2 : d.nxt = d'.nxt) (h3 : d.acc = d'.acc) : d = d' := by
 cases d; cases d'; simp at h1 h2 h3; simp [h1, h2, h3]
theorem Aff (d d' : Dfa) : (d.cls = d'.cls ∧ d.nxt = d'.nxt ∧ d.acc = d'.acc) ↔ d = d' :=
 ⟨fun ⟨h1, h2, h3⟩ => Uc h1 h2 h3, fun h => by subst h; exact ⟨rfl, rfl, rfl⟩⟩
instance dfaDec : DecidableEq Dfa := fun d d' => decidable_of_iff _ (Aff d d')
theorem Afh {w W : World} {a a' : Option Addr} {c c' : Nat} {l l' : List Cls} (h : Cs w (.slice a l.length c) l) (h' : Cs w (.slice a' l'.length c') l') (hE : Ext w W) (j : Nat) (hj : j < l.length) (hj' : j < l'.length) :
  ∃ b o b' o', a = some ⟨b, o, none⟩ ∧ a' = some ⟨b', o', none⟩ ∧ ((∀ e : EW W, e.W.cell? ⟨b, o + j * 4, none⟩ = some (.int .u64 (wd (l.getD j 0#256) 0))) ∧ (∀ e : EW W, e.W.cell? ⟨b, o + j * 4 + 1, none⟩ = some (.int .u64 (wd (l.getD j 0#256) 1))) ∧
  (∀ e : EW W, e.W.cell? ⟨b, o + j * 4 + 2, none⟩ = some (.int .u64 (wd (l.getD j 0#256) 2))) ∧ (∀ e : EW W, e.W.cell? ⟨b, o + j * 4 + 3, none⟩ = some (.int .u64 (wd (l.getD j 0#256) 3)))) ∧
  ((∀ e : EW W, e.W.cell? ⟨b', o' + j * 4, none⟩ = some (.int .u64 (wd (l'.getD j 0#256) 0))) ∧ (∀ e : EW W, e.W.cell? ⟨b', o' + j * 4 + 1, none⟩ = some (.int .u64 (wd (l'.getD j 0#256) 1))) ∧
  (∀ e : EW W, e.W.cell? ⟨b', o' + j * 4 + 2, none⟩ = some (.int .u64 (wd (l'.getD j 0#256) 2))) ∧ (∀ e : EW W, e.W.cell? ⟨b', o' + j * 4 + 3, none⟩ = some (.int .u64 (wd (l'.getD j 0#256) 3)))) := by
 obtain ⟨b, o, c1, he1, hx⟩ := Sl.form h (by omega);obtain ⟨b', o', c2, he2, hy⟩ := Sl.form h' (by omega);injection he1 with he1 _ _
 injection he2 with he2 _ _
 exact ⟨b, o, b', o', he1, he2, It (fun i hi => hE.cell (hx i hi)) j hj, It (fun i hi => hE.cell (hy i hi)) j hj'⟩
theorem Qh {w W : World} {a a' : Option Addr} {c c' n n' : Nat} {f f' : Nat → Value} (h : Sl w (.slice a n c) 1 n f) (h' : Sl w (.slice a' n' c') 1 n' f') (hE : Ext w W) (j : Nat) (hj : j < n) (hj' : j < n') :
  ∃ b o b' o', a = some ⟨b, o, none⟩ ∧ a' = some ⟨b', o', none⟩ ∧ (∀ e : EW W, e.W.cell? ⟨b, o + j, none⟩ = some (f j)) ∧ (∀ e : EW W, e.W.cell? ⟨b', o' + j, none⟩ = some (f' j)) := by
 obtain ⟨b, o, c1, he1, hx⟩ := Sl.form h (by omega);obtain ⟨b', o', c2, he2, hy⟩ := Sl.form h' (by omega);injection he1 with he1 _ _
 injection he2 with he2 _ _
 exact ⟨b, o, b', o', he1, he2, At (hE.cell (hx j (by omega))), At (hE.cell (hy j (by omega)))⟩
set_option maxHeartbeats 4000000 in
theorem Hs (d d' : Dfa) (v v' : Value) (w : World) (h : IsD w v d) (h' : IsD w v' d') :
  Calls Tryz.prog 24 #[v, v'] w fun e w' => e = .returned (.bool (decide (d = d'))) ∧ Ext w w' := by
 obtain ⟨vc, vn, va, rfl, hc, hr, ha⟩ := h;obtain ⟨vc', vn', va', rfl, hc', hr', ha'⟩ := h';obtain ⟨vs, hvs, hrs, hri⟩ := hr;obtain ⟨vs', hvs', hrs', hri'⟩ := hr';obtain ⟨ac, cc, rfl⟩ := Sl.len hc;obtain ⟨ac', cc', rfl⟩ := Sl.len hc';obtain ⟨an, cn, rfl⟩ := Sl.len hrs;obtain ⟨an', cn', rfl⟩ := Sl.len hrs';obtain ⟨aa, ca, rfl⟩ := Sl.len ha;obtain ⟨aa', ca', rfl⟩ := Sl.len ha';have hE0 := ((Ext.refl w).alloc (.cells (dA (.slice ac d.cls.length cc) (.slice an d.nxt.length cn) (.slice aa d.acc.length ca)) 30)).alloc (.cells (dA (.slice ac' d'.cls.length cc') (.slice an' d'.nxt.length cn') (.slice aa' d'.acc.length ca')) 30);have H2 := Af (Ab w (.cells (dA (.slice ac d.cls.length cc) (.slice an d.nxt.length cn) (.slice aa d.acc.length ca)) 30)) (.cells (dA (.slice ac' d'.cls.length cc') (.slice an' d'.nxt.length cn') (.slice aa' d'.acc.length ca')) 30);have H3 := heap_alloc2_new w (.cells (dA (.slice ac d.cls.length cc) (.slice an d.nxt.length cn) (.slice aa d.acc.length ca)) 30) (.cells (dA (.slice ac' d'.cls.length cc') (.slice an' d'.nxt.length cn') (.slice aa' d'.acc.length ca')) 30);obtain ⟨w1, hw1⟩ : ∃ W, (w.alloc (.cells (dA (.slice ac d.cls.length cc) (.slice an d.nxt.length cn) (.slice aa d.acc.length ca)) 30)).alloc (.cells (dA (.slice ac' d'.cls.length cc') (.slice an' d'.nxt.length cn') (.slice aa' d'.acc.length ca')) 30) = W := ⟨_, rfl⟩;have HK : Hid (∀ W, Ext w1 W → (W.cell? ⟨w.heap.size, 0, none⟩ = some (.slice ac d.cls.length cc) ∧ W.cell? ⟨w.heap.size, 1, none⟩ = some (.slice an d.nxt.length cn) ∧ W.cell? ⟨w.heap.size, 2, none⟩ = some (.slice aa d.acc.length ca)) ∧
   (W.cell? ⟨w.heap.size + 1, 0, none⟩ = some (.slice ac' d'.cls.length cc') ∧ W.cell? ⟨w.heap.size + 1, 1, none⟩ = some (.slice an' d'.nxt.length cn') ∧ W.cell? ⟨w.heap.size + 1, 2, none⟩ = some (.slice aa' d'.acc.length ca'))) := Lib.hid fun W hW => by
  rw [hw1] at H2 H3;exact ⟨⟨(cell_of_row W _ 0 _ _ _ (hW.heap H2)).trans rfl, (cell_of_row W _ 1 _ _ _ (hW.heap H2)).trans rfl, (cell_of_row W _ 2 _ _ _ (hW.heap H2)).trans rfl⟩,
   (cell_of_row W _ 0 _ _ _ (hW.heap H3)).trans rfl, (cell_of_row W _ 1 _ _ _ (hW.heap H3)).trans rfl, (cell_of_row W _ 2 _ _ _ (hW.heap H3)).trans rfl⟩
 rw [hw1] at hE0;have HE0 := Lib.hid hE0;have HC := Lib.hid (fun W (hW : Ext w1 W) j (h1 : j < d.cls.length) (h2 : j < d'.cls.length) => Afh hc hc' (hE0.trans hW) j h1 h2);have HR := Lib.hid (fun W (hW : Ext w1 W) j (h1 : j < d.nxt.length) (h2 : j < d'.nxt.length) => Qh hrs hrs' (hE0.trans hW) j h1 h2);have HRI := Lib.hid (fun W (hW : Ext w1 W) j (h1 : j < d.nxt.length) (h2 : j < d'.nxt.length) => Yp _ _ _ _ W ((hri j h1).ext (hE0.trans hW)) ((hri' j h2).ext (hE0.trans hW)));have HA := Lib.hid (fun W (hW : Ext w1 W) j (h1 : j < d.acc.length) (h2 : j < d'.acc.length) => Qh ha ha' (hE0.trans hW) j h1 h2);obtain ⟨n1, hn1⟩ : ∃ n, d.cls.length = n := ⟨_, rfl⟩;obtain ⟨n2, hn2⟩ : ∃ n, d.nxt.length = n := ⟨_, rfl⟩;obtain ⟨n3, hn3⟩ : ∃ n, d.acc.length = n := ⟨_, rfl⟩;obtain ⟨m1, hm1⟩ : ∃ n, d'.cls.length = n := ⟨_, rfl⟩;obtain ⟨m2, hm2⟩ : ∃ n, d'.nxt.length = n := ⟨_, rfl⟩;obtain ⟨m3, hm3⟩ : ∃ n, d'.acc.length = n := ⟨_, rfl⟩;have b1 := hc.1;have b2 := hrs.1;have b3 := ha.1;rw [hn1, hn2, hn3, hm1, hm2, hm3] at HK;rw [hn1] at b1;rw [hn2] at b2;rw [hn3] at b3;rw [hn1, hm1] at HC;rw [hn2, hm2] at HR HRI;rw [hn3, hm3] at HA;have HN := Lib.hid (And.intro hn1 (And.intro hn2 hn3));have HM := Lib.hid (And.intro hm1 (And.intro hm2 hm3));have hz : ∀ W, W = w1 → Ext w1 W := fun W h => h ▸ Ext.refl w1
 have hw2 := hw1;rw [hn1, hn2, hn3, hm1, hm2, hm3] at hw2;have HW := Lib.hid hw2;have hne : Hid (¬ (n1 = m1 ∧ n2 = m2 ∧ n3 = m3) → ¬ d = d') := Lib.hid fun hx e => hx (by subst e; exact ⟨HN.out.1.symm.trans HM.out.1, HN.out.2.1.symm.trans HM.out.2.1, HN.out.2.2.symm.trans HM.out.2.2⟩)
 rw [hn1, hn2, hn3, hm1, hm2, hm3];clear hn1 hn2 hn3 hm1 hm2 hm3 hc hc' hrs hrs' hri hri' ha ha' H2 H3 hE0 hw1 hw2 hvs hvs';go_enter Tryz.func24, Tryz.ntmps24;go_upto_region 1 with (fail)
 simp only [dA] at HW;rw [HW.out];clear HW;obtain ⟨⟨k0, k1, k2⟩, k3, k4, k5⟩ := HK.out w1 (Ext.refl w1);by_cases e1 : n1 = m1
 ·by_cases e2 : n2 = m2
  ·by_cases e3 : n3 = m3
   ·subst e1 e2 e3;go_wp2_with (fail);clear k0 k1 k2 k3 k4 k5;go_loopw [5] (fun vi W => ∃ j : Nat, j ≤ n1 ∧ vi = .int .i64 j ∧ Ext w1 W ∧ Hid (∀ q, q < j → d.cls.getD q 0#256 = d'.cls.getD q 0#256))
     (fun vi _ => n1 - (intOf vi).toNat)
    case atStart => exact ⟨0, by omega, rfl, Ext.refl w1, Lib.hid fun q hq => by omega⟩
    case round =>
     obtain ⟨j, hj, rfl, hE, HQ⟩ := hrel;obtain ⟨⟨k0, k1, k2⟩, k3, k4, k5⟩ := HK.out wr hE;by_cases hlt : j < n1
     ·obtain ⟨b, o, b', o', rfl, rfl, ⟨x0, x1, x2, x3⟩, y0, y1, y2, y3⟩ := HC.out wr hE j hlt hlt;obtain ⟨x, hxd⟩ : ∃ x, d.cls.getD j 0#256 = x := ⟨_, rfl⟩;obtain ⟨y, hyd⟩ : ∃ y, d'.cls.getD j 0#256 = y := ⟨_, rfl⟩;rw [hxd] at x0 x1 x2 x3;rw [hyd] at y0 y1 y2 y3;have HX := Lib.hid hxd;have HY := Lib.hid hyd;have hg := Abp x y;obtain ⟨bx, hbx⟩ : ∃ b, (x != y) = b := ⟨_, rfl⟩;rw [hbx] at hg;have HBX := Lib.hid hbx;clear hbx;clear hxd hyd;have k0 := At k0;have k3 := At k3;go_upto_region 6 with (fail)
      refine C1 (by kernel_rfl) (by kernel_rfl) ?_;iterate 11 (with_reducible refine wpQuiet_step (fun K hK => ?_); go_simp; first | (refine hK _ ?_; clear hK K))
      refine wpQuiet_nil ?_;rintro _ ⟨e, rfl⟩;have hE' := hE.trans e.ext;clear k0 k1 k2 k3 k4 k5 x0 x1 x2 x3 y0 y1 y2 y3;generalize e.W = w5 at *;cases bx with
      | false =>
       have hxy : x = y := by have := HBX.out; simpa using this
       go_wp2;go_roundw
       case rel => exact ⟨j + 1, by omega, by go_num, hE', Lib.hid fun q hq => by
        by_cases hqj : q < j
        ·exact HQ.out q hqj
        ·obtain rfl : q = j := by omega
         rw [HX.out, HY.out, hxy]⟩
       case measure => simp [intOf]; omega
      | true =>
       have hxy : ¬ x = y := by have := HBX.out; simpa using this
       have hdd : Hid (¬ d = d') := Lib.hid fun e => hxy (by rw [← HX.out, ← HY.out, e])
       go_wp2;go_ret;exact ⟨by rw [decide_eq_false hdd.out]; rfl, HE0.out.trans hE'⟩
     ·obtain rfl : j = n1 := by omega
      have HQ1 := HQ;have hE1 := hE;clear k1 k2 k4 k5 hE;go_wp2_with (fail);clear k0 k3;go_loopw [6] (fun vi W => ∃ j : Nat, j ≤ n2 ∧ vi = .int .i64 j ∧ Ext w1 W ∧ Hid (∀ q, q < j → d.nxt.getD q [] = d'.nxt.getD q []))
       (fun vi _ => n2 - (intOf vi).toNat)
      case atStart => exact ⟨0, by omega, rfl, hE1, Lib.hid fun q hq => by omega⟩
      case round =>
       clear hE1;obtain ⟨j, hj, rfl, hE, HQ⟩ := hrel;obtain ⟨⟨k0, k1, k2⟩, k3, k4, k5⟩ := HK.out wr hE;by_cases hlt : j < n2
       ·obtain ⟨b, o, b', o', rfl, rfl, r1, r2⟩ := HR.out wr hE j hlt hlt;obtain ⟨u, hu⟩ : ∃ u, vs.getD j undef = u := ⟨_, rfl⟩;obtain ⟨u', hu'⟩ : ∃ u, vs'.getD j undef = u := ⟨_, rfl⟩;have f66 := fun (e : EW wr) => Lib.hid (HRI.out e.W (hE.trans e.ext) j hlt hlt)
        rw [hu] at r1 f66;rw [hu'] at r2 f66;obtain ⟨x, hxd⟩ : ∃ x, d.nxt.getD j [] = x := ⟨_, rfl⟩;obtain ⟨y, hyd⟩ : ∃ y, d'.nxt.getD j [] = y := ⟨_, rfl⟩;rw [hxd, hyd] at f66;have HX := Lib.hid hxd;have HY := Lib.hid hyd;obtain ⟨bx, hbx⟩ : ∃ b, decide (x = y) = b := ⟨_, rfl⟩;rw [hbx] at f66;have HBX := Lib.hid hbx;clear hbx hxd hyd hu hu';have k1 := At k1;have k4 := At k4;go_upto_region 11 with (fail)
        refine C1 (by kernel_rfl) (by kernel_rfl) ?_;iterate 12 (with_reducible refine wpQuiet_step (fun K hK => ?_); go_simp; first | (refine hK _ ?_; clear hK K) | (apply Exists.intro; refine ⟨fun _ => ?_, hK _ ?_⟩; (with_reducible exact Fn (f66 _).out); clear hK K))
        refine wpQuiet_nil ?_;rintro _ ⟨e, rfl⟩;have hE' := hE.trans e.ext;clear k0 k1 k2 k3 k4 k5 r1 r2 f66;generalize e.W = w5 at *;cases bx with
        | true =>
         have hxy : x = y := of_decide_eq_true HBX.out;go_wp2;go_roundw
         case rel => exact ⟨j + 1, by omega, by go_num, hE', Lib.hid fun q hq => by
          by_cases hqj : q < j
          ·exact HQ.out q hqj
          ·obtain rfl : q = j := by omega
           rw [HX.out, HY.out, hxy]⟩
         case measure => simp [intOf]; omega
        | false =>
         have hxy : ¬ x = y := of_decide_eq_false HBX.out;have hdd : Hid (¬ d = d') := Lib.hid fun e => hxy (by rw [← HX.out, ← HY.out, e])
         go_wp2;go_ret;exact ⟨by rw [decide_eq_false hdd.out]; rfl, HE0.out.trans hE'⟩
       ·obtain rfl : j = n2 := by omega
        have HQ2 := HQ;have hE1 := hE;clear k0 k2 k3 k5 hE;go_wp2_with (fail);clear k1 k4;go_loopw [7] (fun vi W => ∃ j : Nat, j ≤ n3 ∧ vi = .int .i64 j ∧ Ext w1 W ∧ Hid (∀ q, q < j → d.acc.getD q false = d'.acc.getD q false))
         (fun vi _ => n3 - (intOf vi).toNat)
        case atStart => exact ⟨0, by omega, rfl, hE1, Lib.hid fun q hq => by omega⟩
        case round =>
         clear hE1;obtain ⟨j, hj, rfl, hE, HQ⟩ := hrel;obtain ⟨⟨k0, k1, k2⟩, k3, k4, k5⟩ := HK.out wr hE;by_cases hlt : j < n3
         ·obtain ⟨b, o, b', o', rfl, rfl, r1, r2⟩ := HA.out wr hE j hlt hlt;obtain ⟨x, hxd⟩ : ∃ x, d.acc.getD j false = x := ⟨_, rfl⟩;obtain ⟨y, hyd⟩ : ∃ y, d'.acc.getD j false = y := ⟨_, rfl⟩;rw [hxd] at r1;rw [hyd] at r2;have HX := Lib.hid hxd;have HY := Lib.hid hyd;clear hxd hyd;have k2 := At k2;have k5 := At k5;rcases (show (x = true ∧ y = true) ∨ (x = false ∧ y = false) ∨ (x = true ∧ y = false) ∨ (x = false ∧ y = true) by cases x <;> cases y <;> simp) with h | h | h | h
          ·obtain ⟨rfl, rfl⟩ := h;go_upto_region 16 with (fail)
           refine C1 (by kernel_rfl) (by kernel_rfl) ?_;iterate 11 (with_reducible refine wpQuiet_step (fun K hK => ?_); go_simp; first | (refine hK _ ?_; clear hK K))
           refine wpQuiet_nil ?_;rintro _ ⟨e, rfl⟩;have hE' := hE.trans e.ext;clear k0 k1 k2 k3 k4 k5 r1 r2;generalize e.W = w5 at *;go_wp2;go_roundw
           case rel => exact ⟨j + 1, by omega, by go_num, hE', Lib.hid fun q hq => by
            by_cases hqj : q < j
            ·exact HQ.out q hqj
            ·obtain rfl : q = j := by omega
             rw [HX.out, HY.out]⟩
           case measure => simp [intOf]; omega
          ·obtain ⟨rfl, rfl⟩ := h;go_upto_region 16 with (fail)
           refine C1 (by kernel_rfl) (by kernel_rfl) ?_;iterate 11 (with_reducible refine wpQuiet_step (fun K hK => ?_); go_simp; first | (refine hK _ ?_; clear hK K))
           refine wpQuiet_nil ?_;rintro _ ⟨e, rfl⟩;have hE' := hE.trans e.ext;clear k0 k1 k2 k3 k4 k5 r1 r2;generalize e.W = w5 at *;go_wp2;go_roundw
           case rel => exact ⟨j + 1, by omega, by go_num, hE', Lib.hid fun q hq => by
            by_cases hqj : q < j
            ·exact HQ.out q hqj
            ·obtain rfl : q = j := by omega
             rw [HX.out, HY.out]⟩
           case measure => simp [intOf]; omega
          ·obtain ⟨rfl, rfl⟩ := h;go_upto_region 16 with (fail)
           refine C1 (by kernel_rfl) (by kernel_rfl) ?_;iterate 11 (with_reducible refine wpQuiet_step (fun K hK => ?_); go_simp; first | (refine hK _ ?_; clear hK K))
           refine wpQuiet_nil ?_;rintro _ ⟨e, rfl⟩;have hE' := hE.trans e.ext;clear k0 k1 k2 k3 k4 k5 r1 r2;generalize e.W = w5 at *;have hdd : Hid (¬ d = d') := Lib.hid fun e => by
            have h1 := HX.out;have h2 := HY.out;rw [e, h2] at h1;cases h1
           go_wp2;go_ret;exact ⟨by rw [decide_eq_false hdd.out]; rfl, HE0.out.trans hE'⟩
          ·obtain ⟨rfl, rfl⟩ := h;go_upto_region 16 with (fail)
           refine C1 (by kernel_rfl) (by kernel_rfl) ?_;iterate 11 (with_reducible refine wpQuiet_step (fun K hK => ?_); go_simp; first | (refine hK _ ?_; clear hK K))
           refine wpQuiet_nil ?_;rintro _ ⟨e, rfl⟩;have hE' := hE.trans e.ext;clear k0 k1 k2 k3 k4 k5 r1 r2;generalize e.W = w5 at *;have hdd : Hid (¬ d = d') := Lib.hid fun e => by
            have h1 := HX.out;have h2 := HY.out;rw [e, h2] at h1;cases h1
           go_wp2;go_ret;exact ⟨by rw [decide_eq_false hdd.out]; rfl, HE0.out.trans hE'⟩
         ·obtain rfl : j = n3 := by omega
          have hdd : Hid (d = d') := Lib.hid (Uc (Kg _ _ 0#256 (HN.out.1.trans HM.out.1.symm) fun q hq => HQ1.out q (by rw [← HN.out.1]; exact hq))
           (Kg _ _ [] (HN.out.2.1.trans HM.out.2.1.symm) fun q hq => HQ2.out q (by rw [← HN.out.2.1]; exact hq)) (Kg _ _ false (HN.out.2.2.trans HM.out.2.2.symm) fun q hq => HQ.out q (by rw [← HN.out.2.2]; exact hq)))
          clear k0 k1 k3 k4;go_wp2;go_ret;exact ⟨by rw [decide_eq_true hdd.out]; rfl, HE0.out.trans hE⟩
   ·have e3i : ¬ (n3 : Int) = (m3 : Int) := by omega
    subst e1 e2;go_wp2;go_ret;exact ⟨by rw [decide_eq_false (hne.out (by omega))]; rfl, HE0.out⟩
  ·have e2i : ¬ (n2 : Int) = (m2 : Int) := by omega
   subst e1;go_wp2;go_ret;exact ⟨by rw [decide_eq_false (hne.out (by omega))]; rfl, HE0.out⟩
 ·have e1i : ¬ (n1 : Int) = (m1 : Int) := by omega
  go_wp2;go_ret;exact ⟨by rw [decide_eq_false (hne.out (by omega))]; rfl, HE0.out⟩
end Go.Proofs.YtaiogolidlamiaaGreatDoor
