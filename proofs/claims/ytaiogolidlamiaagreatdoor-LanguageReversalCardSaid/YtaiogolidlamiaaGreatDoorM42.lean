import Derived.Test.YtaiogolidlamiaaGreatDoorM34
import Derived.Test.YtaiogolidlamiaaGreatDoorM40
set_option linter.unusedVariables false
set_option linter.unusedSimpArgs false
namespace Go.Proofs.YtaiogolidlamiaaGreatDoor
def Eq : Nat → List (List Bool)
 | 0 => [[]]
 | n + 1 => (Eq n).map (false :: ·) ++ (Eq n).map (true :: ·)
theorem Lh : ∀ n, (Eq n).length = 2 ^ n
 | 0 => rfl
 | n + 1 => by simp only [Eq, List.length_append, List.length_map, Lh n, Nat.pow_succ]; omega
theorem Vs : ∀ (l : List Bool), l ∈ Eq l.length
 | [] => List.mem_singleton.2 rfl
 | b :: l => by
  have ih := Vs l;simp only [List.length_cons, Eq, List.mem_append, List.mem_map];cases b
  ·exact .inl ⟨l, ih, rfl⟩
  ·exact .inr ⟨l, ih, rfl⟩
def vec (d : Dfa) (w : List UInt8) : List Bool := (List.range d.nxt.length).map fun s => d.ok (d.run s w)
theorem Lv (d : Dfa) (w : List UInt8) : vec d w ∈ Eq d.nxt.length := by
 have := Vs (vec d w)
 rwa [show (vec d w).length = d.nxt.length by simp [vec]] at this
theorem Wv {d : Dfa} {w w' : List UInt8} (h : vec d w = vec d w') {s : Nat} (hs : s < d.nxt.length) : d.ok (d.run s w) = d.ok (d.run s w') := by
 have := congrArg (fun l => l.getD s false) h
 simpa only [vec, Cf _ _ _ _ hs] using this
theorem Mu {n : Nat} (h : n ≤ 5) : 2 ^ n ≤ 32 := Nat.le_trans (Nat.pow_le_pow_right (by decide) h) (by decide)
theorem Ag3 {L : List UInt8 → Prop} {α : Type} [DecidableEq α] (g : List UInt8 → α) (hg : ∀ u v, g u = g v → ∀ x, (L (u ++ x) ↔ L (v ++ x))) (M : List α) (hM : ∀ u, g u ∈ M) (hm : M.length ≤ 64) : ¬ Big L := by
 rintro ⟨U, hU, hp⟩;have hn : (U.map g).Nodup := by
  rw [List.nodup_iff_pairwise_ne, List.pairwise_map];exact hp.imp fun {u v} ⟨x, hx⟩ e => hx (hg u v e x)
 have := Cx _ M hn fun a ha => by
  obtain ⟨u, _, rfl⟩ := List.mem_map.1 ha;exact hM u
 rw [List.length_map] at this;omega
theorem Zg {d : Dfa} (hd : Val d) (h5 : d.nxt.length ≤ 5) {r : Option Dfa} (h : Gb d r) : ∃ p, r = some p ∧ Cano p ∧ (∀ w, p.has w = d.has w.reverse) ∧ p.nxt.length ≤ 32 := by
 obtain ⟨x, hx, ex, _, h2⟩ := h;have hx5 : x.nxt.length ≤ 5 := Nat.le_trans (I1 hx hd ex) h5;have h3 := h2 (Mi hx.val (by omega) 4096 (Eq x.nxt.length) (fun w => Lv x w.reverse) (by rw [Lh]; exact Nat.le_trans (Mu hx5) (by decide)));have key : ∀ u v, vec d (u : List UInt8).reverse = vec d (v : List UInt8).reverse → ∀ y, d.has (u ++ y).reverse = d.has (v ++ y).reverse := fun u v e y => by
  rw [List.reverse_append, List.reverse_append];unfold Dfa.has;rw [Bq, Bq];exact Wv e (hd.run_lt _ hd.pos)
 cases r with
 | none => exact absurd (show Big fun w => d.has w.reverse = true from h3) (Ag3 (fun u => vec d u.reverse) (fun u v e y => by show d.has _ = true ↔ d.has _ = true; rw [key u v e y]) (Eq d.nxt.length) (fun u => Lv d _) (by rw [Lh]; exact Nat.le_trans (Mu h5) (by decide)))
 | some p =>
  obtain ⟨k1, k2, k3⟩ := h3;refine ⟨p, rfl, k1, fun w => by rw [Bool.eq_iff_iff, k2], ?_⟩;have := E5 k1 (fun u => vec d u.reverse) (fun u v e y => by rw [Bool.eq_iff_iff, k2, k2]; show d.has _ = true ↔ d.has _ = true; rw [key u v e y]) (Eq d.nxt.length) fun u => Lv d _
  rw [Lh] at this;exact Nat.le_trans this (Mu h5)
theorem Zi {d p : Dfa} (hd : Val d) (h5 : d.nxt.length ≤ 5) (hp : Cano p) (h64 : p.nxt.length ≤ 64) (hh : ∀ w, p.has w = d.has w.reverse) {r : Option Dfa} (h : Gb p r) : ∃ q, r = some q ∧ Cano q ∧ ∀ w, q.has w = d.has w := by
 classical
 obtain ⟨x, hx, ex, _, h2⟩ := h;obtain rfl : x = p := Ep hx hp ex;have hu : ∀ s : Nat, ∃ w, s < x.nxt.length → x.run 0 w = s := fun s => by
  by_cases hs : s < x.nxt.length
  ·obtain ⟨w, hw⟩ := hx.reach s hs;exact ⟨w, fun _ => hw⟩
  ·exact ⟨[], fun h => absurd h hs⟩
 have h3 := h2 (Mi hx.val h64 4096 ((List.range d.nxt.length).map fun t => (List.range x.nxt.length).map fun s => d.ok (d.run t (hu s).choose.reverse)) (fun w => List.mem_map.2 ⟨d.run 0 w, List.mem_range.2 (hd.run_lt _ hd.pos), by
  refine List.map_congr_left fun s hs => ?_
  have hs' := List.mem_range.1 hs;have e := (hu s).choose_spec hs';have := hh ((hu s).choose ++ w.reverse);unfold Dfa.has at this;rw [Bq, e, List.reverse_append, List.reverse_reverse, Bq] at this;exact this.symm⟩) (by simp only [List.length_map, List.length_range]; omega))
 have hq : ∀ w, x.has w.reverse = d.has w := fun w => by rw [hh, List.reverse_reverse]
 cases r with
 | none => exact absurd h3 (fun hb => by
   have := Ag2 (L := fun w => x.has w.reverse = true) hb hd fun w => by rw [hq]
   omega)
 | some q => exact ⟨q, rfl, h3.1, fun w => by rw [Bool.eq_iff_iff, h3.2.1]; show x.has _ = true ↔ _; rw [hq]⟩
theorem Af3 {A B : List UInt8 → Prop} (w : List UInt8) : Cat (fun u => B u.reverse) (fun u => A u.reverse) w ↔ Cat A B w.reverse := by
 constructor
 ·rintro ⟨u, v, rfl, h1, h2⟩;exact ⟨v.reverse, u.reverse, List.reverse_append, h2, h1⟩
 ·rintro ⟨u, v, e, h1, h2⟩;refine ⟨v.reverse, u.reverse, ?_, by show B _; rw [List.reverse_reverse]; exact h2, by show A _; rw [List.reverse_reverse]; exact h1⟩;rw [← List.reverse_append, ← e, List.reverse_reverse]
theorem Zj {d : Dfa} {r : Dfa} (h : Gb d (some r)) : Cano r ∧ ∀ w, r.has w = true ↔ d.has w.reverse = true := by
 obtain ⟨x, hx, ex, h1, h2⟩ := h;by_cases hm : Bv (rnx x) (rst x) 4096
 ·cases h1 hm
 ·exact ⟨(h2 hm).1, (h2 hm).2.1⟩
theorem Iy {a b : Dfa} {r : Dfa} (h : Di a b (some r)) : (Cano r ∧ r.nxt.length ≤ 64) ∧ ∀ w, r.has w = true ↔ Cat (fun w => a.has w = true) (fun w => b.has w = true) w := by
 obtain ⟨x, y, hx, hy, ex, ey, h1, h2⟩ := h;by_cases hm : Bv (cnx (Ae x) (Ae y)) (cst (Ae x)) 4096
 ·cases h1 hm
 ·exact ⟨⟨(h2 hm).1, (h2 hm).2.2⟩, (h2 hm).2.1⟩
theorem Zh {d f r s one two three : Dfa} (hr : ∀ w, r.has w = d.has w.reverse) (hs : ∀ w, s.has w = f.has w.reverse) (h1 : Di d f (some one)) (h2 : Di s r (some two)) (h3 : Gb one (some three)) : three = two := by
 obtain ⟨k1, k2⟩ := Zj h3;refine Ep k1 (Iy h2).1.1 fun w => ?_
 rw [Bool.eq_iff_iff, k2, (Iy h1).2, (Iy h2).2, ← Af3];have e1 : (fun w => s.has w = true) = fun u => f.has u.reverse = true := funext fun u => by rw [hs]
 have e2 : (fun w => r.has w = true) = fun u => d.has u.reverse = true := funext fun u => by rw [hr]
 rw [e1, e2]
set_option maxRecDepth 100000
open Go.RowKit Go.Shelf
set_option maxHeartbeats 2000000 in
theorem Ag5 (x : List UInt8) (v : Value) (hn : x.length ≤ 1000) (w : World) (hl : By w v x) :
  Calls Tryz.prog 30 #[v] w fun e w' => ∃ (g c : Nat), e = .returned (.slice (some ⟨g, 0, none⟩) x.length c) ∧ By w' (.slice (some ⟨g, 0, none⟩) x.length c) x.reverse ∧ Ext w w' := by
 obtain ⟨j0, hj, hy0, hy1, hy2⟩ := info_parts (show (Tryz.prog.info? 5).map (fun i => (i.zero, i.size, i.bytes)) = some (some (.int .u8 0), 1, 1) by kernel_rfl);obtain ⟨a, b, o, ca, rfl, ha1, ha3⟩ := hl.split;have HC := Lib.hid (fun (W : World) (hW : Ext w W) i (hi : i < x.length) => hW.cell (ha3 i hi));have HA := Lib.hid ha1;clear hl ha1 ha3;have hE0 := (Ext.refl w).alloc (.cells #[] 5);have hO0 : World.ownsRow (w.alloc (.cells #[] 5)) w.heap.size 5 1 (.slice (some ⟨w.heap.size, 0, none⟩) 0 0) 0 [] := World.ownsRow_lit (base := w.heap.size) (e := 5) (size := 1) w #[] 0 (Nat.le_refl _) (by unfold maxLen; omega) rfl;go_enter Tryz.func30, Tryz.ntmps30;go_wp2_with (fail);go_loopw [3, 4] (fun vx vi W => ∃ (y : List UInt8) (k g c : Nat), k ≤ x.length ∧ Hid (y = (x.drop k).reverse) ∧ Hid (y.length + k = x.length) ∧ vx = .slice (some ⟨g, 0, none⟩) y.length c ∧ vi = .int .i64 ((k : Int) - 1) ∧ Ext w W ∧ W.ownsRow w.heap.size 5 1 (.slice (some ⟨g, 0, none⟩) y.length c) y.length (y.map bv))
  (fun _ vi _ => (intOf vi + 1).toNat)
 case atStart => exact ⟨[], x.length, _, _, by omega, Lib.hid (by simp), Lib.hid (by simp), rfl, rfl, hE0, hO0⟩
 case round =>
  clear hE0 hO0;obtain ⟨y, k, g, c, hk, HY, HL, rfl, rfl, hE, hO⟩ := hrel;obtain ⟨wo, hwo⟩ : ∃ W, W = wr := ⟨_, rfl⟩;subst hwo;have hsz := hE.size;obtain ⟨m, hm⟩ : ∃ m, y.length = m := ⟨_, rfl⟩;have hmb : m ≤ 1000 := by have := HL.out; omega
  rw [hm] at hO;have HM := Lib.hid hm;simp only [hm];clear hm;by_cases h0 : 1 ≤ k
  ·obtain ⟨i, rfl⟩ : ∃ i, k = i + 1 := ⟨k - 1, by omega⟩;obtain rfl := HA.out (by omega);have cx := HC.out wo hE i (by omega);obtain ⟨z, hz⟩ : ∃ z, x.getD i 0 = z := ⟨_, rfl⟩;have HZ := Lib.hid hz;rw [hz] at cx;clear hz;have hi1 : ((i + 1 : Nat) : Int) - 1 = (i : Int) := by omega
   simp only [hi1];have hix : (i : Int) < (x.length : Int) := by omega
   go_wp2_with (at_builtin; refine wpList_append_lies _ rfl _ _ 22 rfl w.heap.size 5 j0 (.int .u8 0) 1 1 Tryz.underlying22 hj hy0 hy1 hy2 rfl (by decide) _ _ _ rfl (hO.alloc _) _ 1 1 [bv z] rfl rfl (cell_one_new _ _ _) (by simp [Value.oneCell']) (by decide) (by unfold maxLen; omega) (by omega) (by simp; omega) _ rfl ?_; intro g7 c7 w7 hO7 hgr7 hat7 _);have hE7 := (hE.alloc (.cells #[bv z] 5)).grown hgr7 (fun k e => by have := (hO.lt k e).1; omega);go_roundw
   case rel => exact ⟨y ++ [z], i, g7, c7, by omega, Lib.hid (by
    rw [HY.out, ← HZ.out, List.drop_eq_getElem_cons (show i < x.length by omega), List.reverse_cons, List.getD_eq_getElem?_getD, List.getElem?_eq_getElem (show i < x.length by omega)]; try rfl), Lib.hid (by rw [List.length_append, List.length_singleton]; have := HL.out; omega), by rw [List.length_append, HM.out]; rfl, by go_num, hE7, by
     rw [List.length_append, HM.out, List.map_append]; exact hO7⟩
   case measure => simp [intOf]
  ·obtain rfl : k = 0 := by omega
   have hyx : y = x.reverse := by rw [HY.out]; simp
   have hlx : x.length = m := by have := HL.out; rw [HM.out] at this; omega
   have hby : By wo (.slice (some ⟨g, 0, none⟩) y.length c) y := by
    have h0 : World.ownsRow wo w.heap.size 5 1 (.slice (some ⟨g, 0, none⟩) y.length c) y.length (y.map bv) := by rw [HM.out]; exact hO
    exact By.of_owns h0 (by rw [HM.out]; omega)
   rw [HM.out, ← hlx, hyx] at hby;have HBY := Lib.hid hby;have HLX := Lib.hid hlx;clear hby hlx hyx;go_wp2;go_ret;exact ⟨g, c, by rw [HLX.out]; rfl, HBY.out, hE⟩
end Go.Proofs.YtaiogolidlamiaaGreatDoor
