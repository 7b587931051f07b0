import Derived.Test.YtaiogolidlamiaaGreatDoorM11
import Derived.Deep.AppendLies
set_option linter.unusedVariables false
set_option linter.unusedSimpArgs false
namespace Go.Proofs.YtaiogolidlamiaaGreatDoor
def Ba (x : Nat) : List UInt8 := [UInt8.ofNat x, UInt8.ofNat (x / 256)]
theorem Sm {x y : Nat} (hx : x < 65536) (hy : y < 65536) (h : Ba x = Ba y) : x = y := by
 simp only [Ba, List.cons.injEq, and_true] at h;have h1 := congrArg UInt8.toNat h.1;have h2 := congrArg UInt8.toNat h.2;simp only [UInt8.toNat_ofNat'] at h1 h2;omega
theorem Ng (x : Nat) : (Ba x).length = 2 := rfl
def Ax (g : Nat → Nat) : Nat → List UInt8
 | 0 => []
 | n + 1 => Ax g n ++ Ba (g n)
theorem Hc (g : Nat → Nat) : ∀ n, (Ax g n).length = 2 * n
 | 0 => rfl
 | n + 1 => by rw [Ax, List.length_append, Hc g n, Ng]; omega
theorem K2 (g g' : Nat → Nat) : ∀ n, (∀ k, k < n → g k < 65536) → (∀ k, k < n → g' k < 65536) → (Ax g n = Ax g' n ↔ ∀ k, k < n → g k = g' k)
 | 0, _, _ => by simp [Ax]
 | n + 1, hg, hg' => by
  have ih := K2 g g' n (fun k hk => hg k (by omega)) (fun k hk => hg' k (by omega));simp only [Ax];constructor
  ·intro h;obtain ⟨h1, h2⟩ := List.append_inj h (by rw [Hc, Hc]);intro k hk;by_cases e : k = n
   ·subst e; exact Sm (hg k (by omega)) (hg' k (by omega)) h2
   ·exact ih.1 h1 k (by omega)
  ·intro h;rw [ih.2 fun k hk => h k (by omega), h n (by omega)]
def Cy (t : Tbl) (B : Nat → Nat) (s : Nat) : List UInt8 := Ba (B s) ++ Ax (fun k => B (t.ent2 s k)) t.cells
theorem Adj (t : Tbl) (B : Nat → Nat) (s s' : Nat) (h1 : B s < 65536) (h2 : B s' < 65536) (h3 : ∀ k, k < t.cells → B (t.ent2 s k) < 65536) (h4 : ∀ k, k < t.cells → B (t.ent2 s' k) < 65536) :
  Cy t B s = Cy t B s' ↔ B s = B s' ∧ ∀ k, k < t.cells → B (t.ent2 s k) = B (t.ent2 s' k) := by
 unfold Cy;constructor
 ·intro h;obtain ⟨e1, e2⟩ := List.append_inj h rfl;exact ⟨Sm h1 h2 e1, (K2 _ _ _ h3 h4).1 e2⟩
 ·rintro ⟨e1, e2⟩;rw [e1, (K2 _ _ _ h3 h4).2 e2]
theorem Bb {α : Type} (l : List α) (i j : Nat) (x d : α) (h : i < l.length) : (l.set i x).getD j d = if j = i then x else l.getD j d := by
 rw [List.getD_eq_getElem?_getD, List.getD_eq_getElem?_getD, List.getElem?_set];by_cases e : j = i
 ·subst e; simp [h]
 ·rw [if_neg (Ne.symm e), if_neg e]
theorem Sa {l : List Nat} (h : l.Nodup) {i j : Nat} (hi : i < l.length) (hj : j < l.length) (hij : i ≠ j) : l.getD i 0 ≠ l.getD j 0 := by
 rw [List.getD_eq_getElem?_getD, List.getD_eq_getElem?_getD, List.getElem?_eq_getElem hi, List.getElem?_eq_getElem hj];intro e;exact hij ((List.getElem_inj h).1 e)
theorem F0 {l : List Nat} {s : Nat} (h : s ∈ l) : ∃ j, j < l.length ∧ l.getD j 0 = s := F1 (d := 0) h
structure NInv (l : List Nat) (key : Nat → List UInt8) (j : Nat) (N R : List Nat) (f : List UInt8 → Option Nat) : Prop where
 le : R.length ≤ j
 has : ∀ q, q < j → f (key (l.getD q 0)) = some (N.getD (l.getD q 0) 0)
 lt : ∀ q, q < j → N.getD (l.getD q 0) 0 < R.length
 rep : ∀ i, i < R.length → (∃ q, q < j ∧ R.getD i 0 = l.getD q 0) ∧ N.getD (R.getD i 0) 0 = i
 from_ : ∀ k i, f k = some i → ∃ q, q < j ∧ k = key (l.getD q 0) ∧ i = N.getD (l.getD q 0) 0
 same : ∀ q q', q < j → q' < j → (N.getD (l.getD q 0) 0 = N.getD (l.getD q' 0) 0 ↔ key (l.getD q 0) = key (l.getD q' 0))
theorem Abm (l : List Nat) (key : Nat → List UInt8) (N : List Nat) : NInv l key 0 N [] (fun _ => none) where
 le := by simp
 has := fun q hq => by omega
 lt := fun q hq => by omega
 rep := fun i hi => by simp at hi
 from_ := fun k i h => by simp at h
 same := fun q q' hq => by omega
section
variable {l : List Nat} {key : Nat → List UInt8} {j : Nat} {N R : List Nat} {f : List UInt8 → Option Nat}
theorem Abn (h : NInv l key j N R f) (hn : l.Nodup) (hj : j < l.length) (hs : l.getD j 0 < N.length) (i : Nat) (hi : f (key (l.getD j 0)) = some i) : NInv l key (j + 1) (N.set (l.getD j 0) i) R f := by
 obtain ⟨z, hz, hk, hzi⟩ := h.from_ _ _ hi;have ne : ∀ q, q < j → l.getD q 0 ≠ l.getD j 0 := fun q hq => Sa hn (by omega) hj (by omega)
 have g1 : ∀ q, q < j → (N.set (l.getD j 0) i).getD (l.getD q 0) 0 = N.getD (l.getD q 0) 0 := fun q hq => by rw [Bb _ _ _ _ _ hs, if_neg (ne q hq)]
 have g2 : (N.set (l.getD j 0) i).getD (l.getD j 0) 0 = i := by rw [Bb _ _ _ _ _ hs, if_pos rfl]
 refine ⟨by have := h.le; omega, fun q hq => ?_, fun q hq => ?_, fun r hr => ?_, fun k i' hk' => ?_, fun q q' hq hq' => ?_⟩
 ·by_cases e : q = j
  ·subst e; rw [g2]; exact hi
  ·rw [g1 q (by omega)]; exact h.has q (by omega)
 ·by_cases e : q = j
  ·subst e; rw [g2, hzi]; exact h.lt z hz
  ·rw [g1 q (by omega)]; exact h.lt q (by omega)
 ·obtain ⟨⟨q, hq, e⟩, e2⟩ := h.rep r hr;refine ⟨⟨q, by omega, e⟩, ?_⟩;rw [e, g1 q hq, ← e]; exact e2
 ·obtain ⟨q, hq, e1, e2⟩ := h.from_ k i' hk';exact ⟨q, by omega, e1, by rw [g1 q hq]; exact e2⟩
 ·by_cases e : q = j <;> by_cases e' : q' = j
  ·subst e; subst e'; simp
  ·subst e; rw [g2, g1 q' (by omega), hzi, h.same z q' hz (by omega), hk]
  ·subst e'; rw [g2, g1 q (by omega), hzi, h.same q z (by omega) hz, hk]
  ·rw [g1 q (by omega), g1 q' (by omega)]; exact h.same q q' (by omega) (by omega)
theorem Abo (h : NInv l key j N R f) (hn : l.Nodup) (hj : j < l.length) (hs : l.getD j 0 < N.length) (hi : f (key (l.getD j 0)) = none) :
  NInv l key (j + 1) (N.set (l.getD j 0) R.length) (R ++ [l.getD j 0]) (fun k => if k = key (l.getD j 0) then some R.length else f k) := by
 have ne : ∀ q, q < j → l.getD q 0 ≠ l.getD j 0 := fun q hq => Sa hn (by omega) hj (by omega)
 have nk : ∀ q, q < j → key (l.getD q 0) ≠ key (l.getD j 0) := fun q hq e => by
  have := h.has q hq;rw [e, hi] at this;cases this
 have g1 : ∀ q, q < j → (N.set (l.getD j 0) R.length).getD (l.getD q 0) 0 = N.getD (l.getD q 0) 0 := fun q hq => by rw [Bb _ _ _ _ _ hs, if_neg (ne q hq)]
 have g2 : (N.set (l.getD j 0) R.length).getD (l.getD j 0) 0 = R.length := by rw [Bb _ _ _ _ _ hs, if_pos rfl]
 have hl : (R ++ [l.getD j 0]).length = R.length + 1 := by simp
 refine ⟨by have := h.le; omega, fun q hq => ?_, fun q hq => ?_, fun r hr => ?_, fun k i' hk' => ?_, fun q q' hq hq' => ?_⟩
 ·by_cases e : q = j
  ·subst e; rw [g2]; simp
  ·rw [g1 q (by omega), if_neg (nk q (by omega))]; exact h.has q (by omega)
 ·rw [hl];by_cases e : q = j
  ·subst e; rw [g2]; omega
  ·rw [g1 q (by omega)]; have := h.lt q (by omega); omega
 ·rw [hl] at hr;by_cases e : r = R.length
  ·have e1 : (R ++ [l.getD j 0]).getD r 0 = l.getD j 0 := by rw [e]; simp [List.getD_eq_getElem?_getD]
   rw [e1, g2];exact ⟨⟨j, by omega, rfl⟩, e.symm⟩
  ·have hr' : r < R.length := by omega
   obtain ⟨⟨q, hq, e1⟩, e2⟩ := h.rep r hr';rw [Bi _ _ _ _ hr'];refine ⟨⟨q, by omega, e1⟩, ?_⟩;rw [e1, g1 q hq, ← e1]; exact e2
 ·by_cases e : k = key (l.getD j 0)
  ·simp only [e, if_true] at hk';cases hk'
   exact ⟨j, by omega, e, g2.symm⟩
  ·simp only [e, if_false] at hk';obtain ⟨q, hq, e1, e2⟩ := h.from_ k i' hk';exact ⟨q, by omega, e1, by rw [g1 q hq]; exact e2⟩
 ·by_cases e : q = j <;> by_cases e' : q' = j
  ·subst e; subst e'; simp
  ·subst e;have h1 := h.lt q' (by omega);rw [g2, g1 q' (by omega)];exact ⟨fun e => by omega, fun e => absurd e.symm (nk q' (by omega))⟩
  ·subst e';have h1 := h.lt q (by omega);rw [g2, g1 q (by omega)];exact ⟨fun e => by omega, fun e => absurd e (nk q (by omega))⟩
  ·rw [g1 q (by omega), g1 q' (by omega)]; exact h.same q q' (by omega) (by omega)
theorem Se (h : NInv l key l.length N R f) : Blk l (fun s => N.getD s 0) R ∧ ∀ s ∈ l, ∀ s' ∈ l, (N.getD s 0 = N.getD s' 0 ↔ key s = key s') := by
 refine ⟨⟨fun s hs => ?_, fun i hi => ?_, fun i hi => (h.rep i hi).2⟩, fun s hs s' hs' => ?_⟩
 ·obtain ⟨q, hq, rfl⟩ := F0 hs;exact h.lt q hq
 ·obtain ⟨⟨q, hq, e⟩, _⟩ := h.rep i hi;rw [e]; exact Cz l q 0 hq
 ·obtain ⟨q, hq, rfl⟩ := F0 hs;obtain ⟨q', hq', rfl⟩ := F0 hs';exact h.same q q' hq hq'
end
theorem Jt {t : Tbl} {l : List Nat} (hl : Reached t l) {B N : Nat → Nat} (hB : ∀ s ∈ l, B s < 65536) (h : ∀ s ∈ l, ∀ s' ∈ l, (N s = N s' ↔ Cy t B s = Cy t B s')) : Fr t l B N := fun s hs s' hs' => by
 rw [h s hs s' hs', Adj t B s s' (hB s hs) (hB s' hs') (fun k hk => hB _ (hl.closed s hs k hk)) (fun k hk => hB _ (hl.closed s' hs' k hk))]
structure AInv (t : Tbl) (l : List Nat) (j : Nat) (B : List Nat) : Prop where
 len : B.length = t.nxt.length
 at_ : ∀ s, B.getD s 0 = if s ∈ l.take j ∧ t.ok s = true then 1 else 0
theorem Vx (t : Tbl) (l : List Nat) : AInv t l 0 (List.replicate t.nxt.length 0) where
 len := by simp
 at_ := fun s => by
  simp [List.getD_eq_getElem?_getD, List.getElem?_replicate];split <;> rfl
theorem Pz {l : List Nat} {j : Nat} (hj : j < l.length) (s : Nat) : s ∈ l.take (j + 1) ↔ s ∈ l.take j ∨ s = l.getD j 0 := by
 rw [List.take_add_one, List.mem_append, List.getElem?_eq_getElem hj, List.getD_eq_getElem?_getD, List.getElem?_eq_getElem hj];simp
theorem Vw {t : Tbl} {l : List Nat} {j : Nat} {B : List Nat} (h : AInv t l j B) (hj : j < l.length) (hs : l.getD j 0 < t.nxt.length) (hok : t.ok (l.getD j 0) = true) : AInv t l (j + 1) (B.set (l.getD j 0) 1) where
 len := by rw [List.length_set]; exact h.len
 at_ := fun s => by
  rw [Bb _ _ _ _ _ (by rw [h.len]; exact hs), h.at_ s];have ht := Pz hj s;generalize l.getD j 0 = x at *;by_cases e : s = x
  ·subst e; simp [ht, hok]
  ·simp [ht, e]
theorem Vy {t : Tbl} {l : List Nat} {j : Nat} {B : List Nat} (h : AInv t l j B) (hj : j < l.length) (hok : t.ok (l.getD j 0) = false) : AInv t l (j + 1) B where
 len := h.len
 at_ := fun s => by
  rw [h.at_ s];have ht := Pz hj s;generalize l.getD j 0 = x at *;by_cases e : s = x
  ·subst e; simp [hok]
  ·simp [ht, e]
theorem Vz {t : Tbl} {l : List Nat} {B : List Nat} (h : AInv t l l.length B) : Refi t l (fun s => B.getD s 0) 0 ∧ ∀ s, B.getD s 0 < 65536 := by
 refine ⟨Zs t l _ fun s hs => ?_, fun s => ?_⟩
 ·show B.getD s 0 = _;rw [h.at_ s, List.take_length];simp [hs]
 ·rw [h.at_ s]; split <;> omega
structure OInv (t : Tbl) (l : List Nat) (B : List Nat) (n : Nat) : Prop where
 len : B.length = t.nxt.length
 refi : Refi t l (fun s => B.getD s 0) n
 lt : ∀ s ∈ l, B.getD s 0 < 65536
 le : n ≤ l.length
theorem Ru {t : Tbl} {l : List Nat} {B : List Nat} (h : AInv t l l.length B) : OInv t l B 0 :=
 ⟨h.len, (Vz h).1, fun s _ => (Vz h).2 s, by omega⟩
theorem Le {l : List Nat} {B : Nat → Nat} {R : List Nat} (h : Blk l B R) : R.length ≤ l.length := by
 have := Cx (R.map fun s => s) l (by
  rw [List.map_id'];rw [List.nodup_iff_pairwise_ne, List.pairwise_iff_getElem];intro i j hi hj hij e;have h1 := h.rep i hi;have h2 := h.rep j hj;rw [List.getD_eq_getElem?_getD, List.getElem?_eq_getElem hi] at h1;rw [List.getD_eq_getElem?_getD, List.getElem?_eq_getElem hj] at h2;simp only [Option.getD_some] at h1 h2;rw [e, h2] at h1;omega) fun s hs => by
   rw [List.map_id'] at hs;obtain ⟨i, hi, rfl⟩ := F0 hs;exact h.mem i hi
 simpa using this
theorem Aa8 {t : Tbl} (hv : TVal t) {l : List Nat} (hl : Reached t l) {B N R : List Nat} {f : List UInt8 → Option Nat} {n : Nat} (h : OInv t l B n) (hm : l.length ≤ 65536) (hN : N.length = t.nxt.length)
  (hi : NInv l (Cy t fun s => B.getD s 0) l.length N R f) (hne : R.length ≠ n) : OInv t l N R.length ∧ n < R.length := by
 obtain ⟨hb, hs⟩ := Se hi;have hr : Fr t l (fun s => B.getD s 0) (fun s => N.getD s 0) := Jt hl h.lt hs;have hle := Le hb;refine ⟨⟨hN, Ml hv hl h.refi hr hb, fun s hs => ?_, hle⟩, ?_⟩
 ·have := hb.lt s hs;show N.getD s 0 < 65536;omega
 ·have := (Mm h.refi hr hb hl.ne).1;omega
theorem Aa9 {t : Tbl} (hv : TVal t) {l : List Nat} (hl : Reached t l) {B N R : List Nat} {f : List UInt8 → Option Nat} {n : Nat} (h : OInv t l B n)
  (hi : NInv l (Cy t fun s => B.getD s 0) l.length N R f) (he : R.length = n) : Blocks t l (fun s => N.getD s 0) R := by
 obtain ⟨hb, hs⟩ := Se hi;have hr : Fr t l (fun s => B.getD s 0) (fun s => N.getD s 0) := Jt hl h.lt hs;exact ⟨hb, Q1 hv hl h.refi hr hb he⟩
set_option maxRecDepth 100000
open Go.RowKit Go.Shelf
def Cq (l : List UInt8) : Value := .string ⟨l.toArray⟩
theorem L4 (x y : List UInt8) (h : Cq x = Cq y) : x = y := by simpa [Cq] using h
theorem L3 (l : List UInt8) (hl : l.length ≤ maxLen) : ∃ k, keyOf Tryz.prog 9 (Cq l) = some k :=
 ⟨_, Go.WideMaps.keyOf_string_mk Tryz.underlying9 (by simpa [ByteArray.size] using hl)⟩
theorem Iw (w : World) (a b : Value) (t : TypeId) : ∀ j u, [a, b][j]? = some u → (w.alloc (.cells #[a, b] t)).cell? ((⟨w.heap.size, 0, none⟩ : Addr).add j) = some u := fun j u hu =>
 World.news_of_block (Ab w (.cells #[a, b] t)) j u hu
set_option maxHeartbeats 4000000 in
theorem Zr (t : Tbl) (hv : TVal t) (hn : t.nxt.length ≤ 65536) (l : List Nat) (hl : Reached t l) (A : Array Value) (vl : Value) (w : World) (h : IsT w A t) (hil : Ints w vl l) :
  Calls Tryz.prog 110 #[.agg A, vl] w fun e w' => ∃ vN vR N R, e = .returned (.tuple #[vN, vR]) ∧ N.length = t.nxt.length ∧ Blocks t l (fun s => N.getD s 0) R ∧ Ints w' vN N ∧ Ints w' vR R ∧ Ext w w' := by
 obtain ⟨bn, on, cn, ba, oa, ca, hAs, hAo, _, _, hA7, hA8, hR, hacc⟩ := h.opened hv;obtain ⟨bl, ol, cl, rfl, hlc⟩ := Sl.form hil hl.ne;have hn0 := hv.pos;have hm0 := hv.cpos;have hm1 := hv.cle;have hl0 := hl.ne;have hll : l.length ≤ t.nxt.length := by
  have := Cx l (List.range t.nxt.length) hl.nodup fun s hs => List.mem_range.2 (hl.lt s hs)
  simpa using this
 have HR := Lib.hid hR;have HV := Lib.hid hv;have HL := Lib.hid hl;have HLC := Lib.hid (fun k (hk : k < l.length) => hlc k (by omega));have HAcc := Lib.hid hacc;obtain ⟨i0, hi, hz0, hz1, hz2⟩ := info_parts C2;obtain ⟨i5, hi5, hy0, hy1, hy2⟩ := info_parts (show (Tryz.prog.info? 5).map (fun i => (i.zero, i.size, i.bytes)) = some (some (.int .u8 0), 1, 1) by kernel_rfl);have hE0 := (Ext.refl w).alloc (.cells A 108);have H0 := Ab w (.cells A 108);have HK := Lib.hid (fun (W : World) (hW : Ext (w.alloc (.cells A 108)) W) => (cell_of_row W w.heap.size 257 _ _ _ (hW.heap H0)).trans hA7);have HK8 := Lib.hid (fun (W : World) (hW : Ext (w.alloc (.cells A 108)) W) => (cell_of_row W w.heap.size 258 _ _ _ (hW.heap H0)).trans hA8);clear hR hv h H0 hA7 hA8 hAo hAs hlc hil hacc hl;go_enter Tryz.func110, Tryz.ntmps110;go_upto_region 1 with (fail)
 obtain ⟨w1, hw1⟩ : ∃ W, w.alloc (.cells A 108) = W := ⟨_, rfl⟩;rw [hw1] at hE0 HK HK8;simp only [hw1];clear hw1;have k1 := HK.out w1 (Ext.refl w1);go_upto_region 2 with (at_make; refine wpList_make_full _ rfl _ _ 68 rfl w1.heap.size 3 i0 (.int .i64 0) 1 Tryz.underlying68 hi hz0 hz1 .i64 .i64 _ _ t.nxt.length rfl rfl rfl rfl (by rw [hz2]; omega) (by unfold maxLen; omega) (Nat.le_refl _) ?_; intro w2 hown2 hgrow2)
 have hE2 : Ext w1 w2 := (Ext.refl w1).grown hgrow2 (fun k e => by cases e);have hB2 : w2.ownsRow w1.heap.size 3 1 (.slice (some ⟨w1.heap.size, 0, none⟩) t.nxt.length t.nxt.length) t.nxt.length ((List.replicate t.nxt.length 0).map iv) := by rw [← B7]; exact hown2
 clear hown2 hgrow2 k1;generalize hgb : w1.heap.size = gb at *;have HGB := Lib.hid hgb;clear hgb;go_wp2_with (fail);go_loopw [26] (fun i W => ∃ (j : Nat) (B : List Nat), j ≤ l.length ∧ i = .int .i64 j ∧ Ext w1 W ∧
   W.ownsRow gb 3 1 (.slice (some ⟨gb, 0, none⟩) t.nxt.length t.nxt.length) t.nxt.length (B.map iv) ∧ Hid (AInv t l j B))
  (fun i _ => l.length - (intOf i).toNat)
 case atStart => exact ⟨0, _, by omega, rfl, hE2, hB2, Lib.hid (Vx t l)⟩
 case round =>
  obtain ⟨j, B, hj, rfl, hE, hB, HI⟩ := hrel;by_cases hlt : j < l.length
  ·have cl := (hE0.trans hE).cell (HLC.out j hlt);have hsn := HL.out.lt _ (Cz l j 0 hlt);obtain ⟨s, hsd⟩ : ∃ s, l.getD j 0 = s := ⟨_, rfl⟩;rw [hsd] at cl hsn;have HSD := Lib.hid hsd;clear hsd;have k8 := HK8.out wr hE;have cacc := (hE0.trans hE).cell (HAcc.out s hsn);have hBl := Lib.hid HI.out.len;have hgb1 : w1.heap.size ≤ gb := Nat.le_of_eq HGB.out;have HY := Lib.hid (fun ho => Vw HI.out hlt (by rw [HSD.out]; exact hsn) ho);have HN := Lib.hid (fun ho => Vy HI.out hlt ho);rw [HSD.out] at HY HN;cases hok : t.ok s
   ·rw [hok] at cacc;have HN' := Lib.hid (HN.out hok);clear hok;go_wp2_with (fail);go_roundw
    case rel => exact ⟨j + 1, B, by omega, by go_num, hE, hB, HN'⟩
    case measure => simp [intOf]; omega
   ·rw [hok] at cacc;have HY' := Lib.hid (HY.out hok);clear hok;obtain ⟨hB', hgr⟩ := A5 hB s 1;have cs := Ap 0 hB hBl.out.symm s (by rw [hBl.out]; exact hsn);have fs := hB.frozenAt s;go_wp2_with (fail);go_roundw
    case rel => exact ⟨j + 1, B.set s 1, by omega, by go_num, hE.grown hgr (fun k e => by cases e; exact hgb1), hB', HY'⟩
    case measure => simp [intOf]; omega
  ·obtain rfl : j = l.length := by omega
   have HO := Lib.hid (Ru HI.out);clear HI;go_upto_region 8 with (fail)
   obtain ⟨w3, hw3⟩ : ∃ W, W = wr := ⟨_, rfl⟩;subst hw3;have HC3 : Hid (∀ s, s < t.nxt.length → w3.cell? ⟨gb, s, none⟩ = some (iv (B.getD s 0))) := Lib.hid fun s hs => Ap 0 hB HO.out.len.symm s (by rw [HO.out.len]; exact hs)
   have hgl3 : gb < w3.heap.size := (hB.lt gb rfl).2;clear hB;go_wp2_with (fail);go_loopw [6, 9] (fun v c W => ∃ (B : List Nat) (n g cp : Nat), v = .slice (some ⟨g, 0, none⟩) t.nxt.length cp ∧ c = .int .i64 n ∧ Ext w1 W ∧ g < W.heap.size ∧
     Hid (∀ s, s < t.nxt.length → W.cell? ⟨g, s, none⟩ = some (iv (B.getD s 0))) ∧ Hid (OInv t l B n))
    (fun _ c _ => l.length - (intOf c).toNat)
   case atStart => exact ⟨B, 0, gb, _, rfl, rfl, hE, hgl3, HC3, HO⟩
   case round =>
    clear HC3 HO hgl3 hE;clear B;obtain ⟨B, n, g, cp, rfl, rfl, hE, hgl, HC, HO⟩ := hrel;have hnl := HO.out.le;obtain ⟨wo, hwo⟩ : ∃ W, W = wr := ⟨_, rfl⟩;subst hwo;have hEw := hE0.trans hE;have HKo := Lib.hid (fun (W : World) (hW : Ext wo W) => HK.out W (hE.trans hW));have HRo := Lib.hid (fun (W : World) (hW : Ext wo W) => HR.out.ext (hEw.trans hW));have HLo := Lib.hid (fun (W : World) (hW : Ext wo W) k (hk : k < l.length) => (hEw.trans hW).cell (HLC.out k hk));have HCo := Lib.hid (fun (W : World) (hW : Ext wo W) s (hs : s < t.nxt.length) => hW.cell (HC.out s hs));have hmm := @run_makeMap Tryz.prog;go_upto_region 10 with (fail)
    clear hmm;have hE3 := (Ext.refl wo).alloc (.map #[] 0);have hmp := Ig wo 9 Cq;have hs3 : (wo.alloc (.map #[] 0)).heap.size = wo.heap.size + 1 := World.size_alloc _ _;obtain ⟨w3, hw3⟩ : ∃ W, wo.alloc (.map #[] 0) = W := ⟨_, rfl⟩;simp only [hw3] at *;clear hw3;go_upto_region 11 with (at_make; refine wpList_make_full _ rfl _ _ 68 rfl w3.heap.size 3 i0 (.int .i64 0) 1 Tryz.underlying68 hi hz0 hz1 .i64 .i64 _ _ t.nxt.length rfl rfl rfl rfl (by rw [hz2]; omega) (by unfold maxLen; omega) (Nat.le_refl _) ?_; intro w4 hown4 hgr4)
    have hE4 := hE3.grown hgr4 (fun k e => by cases e);have hN4 : w4.ownsRow w3.heap.size 3 1 (.slice (some ⟨w3.heap.size, 0, none⟩) t.nxt.length t.nxt.length) t.nxt.length ((List.replicate t.nxt.length 0).map iv) := by rw [← B7]; exact hown4
    have hmp4 := hmp.kept hgr4 (by simp);have hsz4 : wo.heap.size + 1 < w4.heap.size := by have : w3.heap.size < w4.heap.size := (hN4.lt _ rfl).2; omega
    rw [hs3] at hN4;clear hown4 hgr4 hmp hE3;have hI4 := World.ownsRow_nil w4 (wo.heap.size + 1 + 1) 3 1;generalize hgn : w3.heap.size = gn at *;obtain rfl : gn = wo.heap.size + 1 := hs3;go_wp2_with (fail);go_loopw [12, 45] (fun v i W => ∃ (j : Nat) (N R : List Nat) (f : List UInt8 → Option Nat) (a : Option Addr) (cp' : Nat), j ≤ l.length ∧ i = .int .i64 j ∧ v = .slice a R.length cp' ∧ Ext wo W ∧ wo.heap.size + 1 < W.heap.size ∧
      W.ownsRow (wo.heap.size + 1) 3 1 (.slice (some ⟨wo.heap.size + 1, 0, none⟩) t.nxt.length t.nxt.length) t.nxt.length (N.map iv) ∧ OwnI W (wo.heap.size + 1 + 1) v R ∧ IsMp W 9 Cq wo.heap.size R.length f ∧
      Hid (NInv l (Cy t fun s => B.getD s 0) j N R f ∧ N.length = t.nxt.length))
     (fun _ i _ => l.length - (intOf i).toNat)
    case atStart => exact ⟨0, _, [], _, none, 0, by omega, rfl, rfl, hE4, hsz4, hN4, hI4, hmp4, Lib.hid ⟨Abm l _ _, by simp⟩⟩
    case round =>
     clear hN4 hI4 hmp4 hE4 hsz4;obtain ⟨j, N, R, f, a, cp', hj, rfl, rfl, hE4, hsz4, hN4, hI4, hmp4, HN⟩ := hrel;have hRl := HN.out.1.le;obtain ⟨w4, hw4⟩ : ∃ W, W = wr := ⟨_, rfl⟩;subst hw4;by_cases hlt : j < l.length
     ·have cl := HLo.out w4 hE4 j hlt;have hsm := Cz l j 0 hlt;have hsn := HL.out.lt _ hsm;have hx := HO.out.lt _ hsm;have hgf := Lib.hid (fun k (hk : k < t.cells) => HO.out.lt _ (HL.out.closed _ hsm k hk));obtain ⟨s, hsd⟩ : ∃ s, l.getD j 0 = s := ⟨_, rfl⟩;rw [hsd] at cl hsn hx hgf;have HSD := Lib.hid hsd;clear hsd hsm;obtain ⟨br, or', cr, hrc, hrr⟩ := HRo.out wo (Ext.refl wo) s hsn;have HRC := Lib.hid (fun (W : World) (hW : Ext wo W) => hW.cell hrc);have HRR := Lib.hid (fun (W : World) (hW : Ext wo W) k (hk : k < t.cells) => hW.cell (hrr k hk));have HXN := Lib.hid (fun k (hk : k < t.cells) => HV.out.tgt s hsn k hk);clear hrc hrr;obtain ⟨x, hxd⟩ : ∃ x, B.getD s 0 = x := ⟨_, rfl⟩;rw [hxd] at hx;have HX := Lib.hid (fun (W : World) (hW : Ext wo W) => (hW.cell (HC.out s hsn)).trans (by rw [hxd]));have HXD := Lib.hid hxd;clear hxd;have k1 := HKo.out w4 hE4;have k2 := HRC.out w4 hE4;go_upto_region 15 with (fail)
      go_upto_region 16 with (at_make; refine wpList_make_own _ rfl _ _ 22 rfl (wo.heap.size + 1 + 1) 5 i5 (.int .u8 0) 1 Tryz.underlying22 hi5 hy0 hy1 .i64 .i64 _ (2 + 2 * t.cells) rfl rfl (by push_cast; rfl) (by rw [hy2]; omega) (by unfold maxLen; omega) (by omega) ?_; intro w5 hown5 hgr5)
      have hE5 := hE4.grown hgr5 (fun k e => by cases e);have hN5 := Bt hN4 hgr5;have hI5 := Bt hI4 hgr5;have hmp5 := hmp4.kept hgr5 (by simp);have hsz5 : wo.heap.size + 1 < w5.heap.size := Nat.lt_of_lt_of_le hsz4 hgr5.size;have hkeep : ∀ W, Ext wo W → Ext wo W ∧ W.cell? ⟨g, s, none⟩ = some (iv x) := fun W hW => ⟨hW, HX.out W hW⟩
      have cx := HX.out w5 hE5;clear k1 k2 cl hgr5 hN4 hI4 hmp4;go_region_held_law (fun W => Ext wo W ∧ W.cell? ⟨g, s, none⟩ = some (iv x))
       (first | exact hkeep _ hE6 | exact hkeep _ (hE5.drew.alloc _) | exact hkeep _ hE5.drew)
       ((refine step_append_lies _ rfl _ _ 22 rfl (wo.heap.size + 1 + 1) 5 i5 (.int .u8 0) 1 1 Tryz.underlying22 hi5 hy0 hy1 hy2 rfl (by decide) _ _ _ rfl ((Ah hown5 (Ext.refl w5).drew).alloc _) _ 2 2 ((Ba x).map bv) rfl rfl (Iw _ _ _ _) (by simp [Ba, Value.oneCell']) (by decide) (by unfold maxLen; omega) (by omega) (by simp; omega) _ rfl ?_
         intro g6 c6 w6 hK6 hgr6 hat6 hlt6;have hE6 : Ext wo w6 := (hE5.drew.alloc _).grown hgr6 (fun k e => by have := (hown5.lt k e).1; omega)))
      have hN6 := ((Ah hN5 (Ext.refl w5).drew).alloc _).kept hgr6 (Ag hN5 hown5 (by decide));have hI6 := ((Ah hI5 (Ext.refl w5).drew).alloc _).kept hgr6 (Ag hI5 hown5 (by decide));have hmp6 := ((hmp5.ext (Ext.refl w5).drew).alloc _).kept hgr6 (hmp5.ne_row hown5);have hsz6 : wo.heap.size + 1 < w6.heap.size := by
       have h1 : (w5.drew.alloc (.cells _ 5)).heap.size ≤ w6.heap.size := hgr6.size;rw [World.size_alloc] at h1;have h2 : w5.heap.size ≤ w5.drew.heap.size := (Ext.refl w5).drew.size;omega
      obtain ⟨gf, hgfd⟩ : ∃ gf : Nat → Nat, (fun k => B.getD (t.ent2 s k) 0) = gf := ⟨_, rfl⟩;have HGF := Lib.hid hgfd;have hK6 : w6.ownsRow (wo.heap.size + 1 + 1) 5 1 (.slice (some ⟨g6, 0, none⟩) (2 + 2 * 0) c6) (2 + 2 * 0) ((Ba x ++ Ax gf 0).map bv) := by
       rw [show Ba x ++ Ax gf 0 = Ba x by simp [Ax]];exact hK6
      have k1 := HKo.out w6 hE6;have k2 := HRC.out w6 hE6;clear hgfd hN5 hI5 hmp5 hown5 hgr6 hat6 hlt6 cx hkeep hE5 hsz5;go_wp2_with (fail);clear k1 k2;go_loopw [15, 78] (fun v i W => ∃ (k gk ck : Nat), k ≤ t.cells ∧ i = .int .i64 k ∧ v = .slice (some ⟨gk, 0, none⟩) (2 + 2 * k) ck ∧ Ext wo W ∧ wo.heap.size + 1 < W.heap.size ∧
        W.ownsRow (wo.heap.size + 1) 3 1 (.slice (some ⟨wo.heap.size + 1, 0, none⟩) t.nxt.length t.nxt.length) t.nxt.length (N.map iv) ∧ OwnI W (wo.heap.size + 1 + 1) (.slice a R.length cp') R ∧ IsMp W 9 Cq wo.heap.size R.length f ∧
        W.ownsRow (wo.heap.size + 1 + 1) 5 1 v (2 + 2 * k) ((Ba x ++ Ax gf k).map bv))
       (fun _ i _ => t.cells - (intOf i).toNat)
      case atStart => exact ⟨0, g6, c6, by omega, rfl, rfl, hE6, hsz6, hN6, hI6, hmp6, hK6⟩
      case round =>
       clear hE6 hsz6 hN6 hI6 hmp6 hK6;obtain ⟨k, gk, ck, hk, rfl, rfl, hE5, hsz5, hN5, hI5, hmp5, hown5⟩ := hrel;obtain ⟨w5, hw5⟩ : ∃ W, W = wr := ⟨_, rfl⟩;subst hw5;by_cases hkc : k < t.cells
       ·have hyn := HXN.out k hkc;have hz := hgf.out k hkc;have cy := HRR.out w5 hE5 k hkc;obtain ⟨y, hyd⟩ : ∃ y, t.ent2 s k = y := ⟨_, rfl⟩;have HZD : Hid (gf k = B.getD y 0) := Lib.hid (by rw [← HGF.out, ← hyd]);rw [hyd] at cy hyn hz;clear hyd;obtain ⟨z, hzd⟩ : ∃ z, B.getD y 0 = z := ⟨_, rfl⟩;rw [hzd] at hz HZD;have HZ := Lib.hid (fun (W : World) (hW : Ext wo W) => (hW.cell (HC.out y hyn)).trans (by rw [hzd]));clear hzd;have hkeep : ∀ W, Ext wo W → Ext wo W ∧ W.cell? ⟨g, y, none⟩ = some (iv z) := fun W hW => ⟨hW, HZ.out W hW⟩
        have cz := HZ.out w5 hE5;go_upto_region 20 with (fail)
        clear cy;go_region_held_law (fun W => Ext wo W ∧ W.cell? ⟨g, y, none⟩ = some (iv z))
         (first | exact hkeep _ hE6 | exact hkeep _ (hE5.drew.alloc _) | exact hkeep _ hE5.drew)
         ((refine step_append_lies _ rfl _ _ 22 rfl (wo.heap.size + 1 + 1) 5 i5 (.int .u8 0) 1 1 Tryz.underlying22 hi5 hy0 hy1 hy2 rfl (by decide) _ _ _ rfl ((Ah hown5 (Ext.refl w5).drew).alloc _) _ 2 2 ((Ba z).map bv) rfl rfl (Iw _ _ _ _) (by simp [Ba, Value.oneCell']) (by decide) (by unfold maxLen; omega) (by omega) (by simp; omega) _ rfl ?_
           intro g6 c6 w6 hK6 hgr6 hat6 hlt6;have hE6 : Ext wo w6 := (hE5.drew.alloc _).grown hgr6 (fun k e => by have := (hown5.lt k e).1; omega)))
        have hN6 := ((Ah hN5 (Ext.refl w5).drew).alloc _).kept hgr6 (Ag hN5 hown5 (by decide));have hI6 := ((Ah hI5 (Ext.refl w5).drew).alloc _).kept hgr6 (Ag hI5 hown5 (by decide));have hmp6 := ((hmp5.ext (Ext.refl w5).drew).alloc _).kept hgr6 (hmp5.ne_row hown5);have hsz6 : wo.heap.size + 1 < w6.heap.size := by
         have h1 : (w5.drew.alloc (.cells _ 5)).heap.size ≤ w6.heap.size := hgr6.size;rw [World.size_alloc] at h1;have h2 : w5.heap.size ≤ w5.drew.heap.size := (Ext.refl w5).drew.size;omega
        have hK6 : w6.ownsRow (wo.heap.size + 1 + 1) 5 1 (.slice (some ⟨g6, 0, none⟩) (2 + 2 * (k + 1)) c6) (2 + 2 * (k + 1)) ((Ba x ++ Ax gf (k + 1)).map bv) := by
         rw [show Ba x ++ Ax gf (k + 1) = (Ba x ++ Ax gf k) ++ Ba z by rw [Ax, HZD.out, List.append_assoc], List.map_append];exact hK6
        clear hN5 hI5 hmp5 hown5 hgr6 hat6 hlt6 cz hkeep hE5 hsz5;go_wp2;go_roundw
        case rel => exact ⟨k + 1, g6, c6, by omega, by go_num, rfl, hE6, hsz6, hN6, hI6, hmp6, hK6⟩
        case measure => simp [intOf]; omega
       ·obtain rfl : k = t.cells := by omega
        have hlenK : (Ba x ++ Ax gf t.cells).length = 2 + 2 * t.cells := by rw [List.length_append, Hc, Ng]
        have hkeyS : Cy t (fun s => B.getD s 0) s = Ba x ++ Ax gf t.cells := by
         show Ba (B.getD s 0) ++ Ax (fun k => B.getD (t.ent2 s k) 0) t.cells = _;rw [HXD.out, HGF.out]
        obtain ⟨ky, hky⟩ : ∃ ky, Ba x ++ Ax gf t.cells = ky := ⟨_, rfl⟩;rw [hky] at hlenK hkeyS hown5;have HKY := Lib.hid hkeyS;clear hky hkeyS;have hcv : (convert 22 9 (.slice (some ⟨gk, 0, none⟩) (2 + 2 * t.cells) ck)).run Tryz.prog w5 = .ok (Cq ky) w5 := Ji _ _ _ (By.of_owns (by rw [hlenK]; exact hown5) (by rw [hlenK]; omega));have hkey := L3 ky (by rw [hlenK]; unfold maxLen; omega);have HLK := Lib.hid hlenK;clear hlenK;cases hf : f ky with
        | some i =>
         have HN' := Abn HN.out.1 HL.out.nodup hlt (by rw [HSD.out, HN.out.2]; exact hsn) i (by rw [HSD.out, HKY.out]; exact hf);rw [HSD.out] at HN';have HN' := Lib.hid (And.intro HN' (show (N.set s i).length = t.nxt.length by rw [List.length_set]; exact HN.out.2));have cn := Ap 0 hN5 HN.out.2.symm s (by rw [HN.out.2]; exact hsn);have fn := hN5.frozenAt s;obtain ⟨hN6, hgr6⟩ := A5 hN5 s i;have hE6 := hE5.grown hgr6 (fun k e => by cases e; omega);have hI6 := hI5.kept hgr6 (An hI5 (by omega));have hmp6 := hmp5.kept hgr6 (by simp);have hsz6 := Nat.lt_of_lt_of_le hsz5 hgr6.size;clear hgr6 hI5 hN5 hE5 hsz5;go_wp2_with (at_lookup; refine Dw rfl _ _ 155 rfl Ez Tryz.underlying155 rfl hmp5 ky rfl hkey ?_; rw [hf]; dsimp only [Option.isSome, Option.getD]);go_roundw
         case rel => exact ⟨j + 1, N.set s i, R, f, a, cp', by omega, by go_num, rfl, hE6, hsz6, hN6, hI6, hmp6, HN'⟩
         case measure => simp [intOf]; omega
        | none =>
         have HN' := Abo HN.out.1 HL.out.nodup hlt (by rw [HSD.out, HN.out.2]; exact hsn) (by rw [HSD.out, HKY.out]; exact hf);rw [HSD.out, HKY.out] at HN';have HN' := Lib.hid (And.intro HN' (show (N.set s R.length).length = t.nxt.length by rw [List.length_set]; exact HN.out.2));have hown6 := hown5;go_upto_region 25 with (at_lookup; refine Dw rfl _ _ 155 rfl Ez Tryz.underlying155 rfl hmp5 ky rfl hkey ?_; rw [hf]; dsimp only [Option.isSome, Option.getD])
         go_upto_region 26 with (at_mapUpdate; refine Hl rfl _ _ _ 155 rfl Ez Tryz.underlying155 rfl hmp5 (by unfold maxLen; omega) L4 ky rfl hkey R.length rfl (by omega) ?_; intro w6 hmp6 hgr6)
         clear hcv;have hN6 := hN5.kept hgr6 (hmp5.far hN5);have hI6 := hI5.kept hgr6 (hmp5.far hI5);have hE6 := hE5.grown hgr6 (fun k e => by cases e; omega);have hsz6 := Nat.lt_of_lt_of_le hsz5 hgr6.size;clear hgr6 hI5 hN5 hE5 hsz5 hmp5 hown5 hown6;go_upto_region 27 with (at_builtin; refine wpList_append_lies _ rfl _ _ 68 rfl (wo.heap.size + 1 + 1) 3 i0 (.int .i64 0) 1 8 Tryz.underlying68 hi hz0 hz1 hz2 rfl (by decide) _ _ _ rfl (hI6.alloc _) _ 1 1 [iv s] rfl rfl (cell_one_new _ _ _) (by simp [Value.oneCell']) (by decide) (by unfold maxLen; omega) (by omega) (by simp; omega) _ rfl ?_; intro g7 c7 w7 hI7 hgr7 _ _)
         have hN7 := (hN6.alloc (.cells #[iv s] 3)).kept hgr7 (.inr (fun e => by have := (hI6.lt (wo.heap.size + 1) e.symm).1; omega));have hmp7 := (hmp6.alloc (.cells #[iv s] 3)).kept hgr7 (fun e => by have := (hI6.lt wo.heap.size e.symm).1; omega);have hE7 := (hE6.alloc (.cells #[iv s] 3)).grown hgr7 (fun k e => by have := (hI6.lt k e).1; omega);have hsz7 : wo.heap.size + 1 < w7.heap.size := by
          have := hgr7.size;rw [World.size_alloc] at this;omega
         have hI7 : OwnI w7 (wo.heap.size + 1 + 1) (.slice (some ⟨g7, 0, none⟩) (R.length + 1) c7) (R ++ [s]) := by
          show World.ownsRow _ _ _ _ _ _ _;rw [List.length_append, List.map_append];exact hI7
         clear hgr7 hI6 hN6 hE6 hsz6 hmp6;have cn := Ap 0 hN7 HN.out.2.symm s (by rw [HN.out.2]; exact hsn);have fn := hN7.frozenAt s;obtain ⟨hN8, hgr8⟩ := A5 hN7 s R.length;have hE8 := hE7.grown hgr8 (fun k e => by cases e; omega);have hI8 := hI7.kept hgr8 (An hI7 (by omega));have hmp8 := hmp7.kept hgr8 (by simp);have hsz8 := Nat.lt_of_lt_of_le hsz7 hgr8.size;clear hgr8 hI7 hN7 hE7 hsz7 hmp7;go_wp2;go_roundw
         case rel => exact ⟨j + 1, N.set s R.length, R ++ [s], _, _, c7, by omega, by go_num, by rw [List.length_append]; rfl, hE8, hsz8, hN8, hI8, by rw [List.length_append]; exact hmp8, HN'⟩
         case measure => simp [intOf]; omega
     ·obtain rfl : j = l.length := by omega
      by_cases he : R.length = n
      ·have heq : ((R.length : Int) == (n : Int)) = true := by simp [he]
       have HB := Lib.hid (Aa9 HV.out HL.out HO.out HN.out.1 he);have hRle : R.length ≤ 4611686018427387904 := by omega
       have hIN : Ints w4 (.slice (some ⟨wo.heap.size + 1, 0, none⟩) t.nxt.length t.nxt.length) N := OwnI.ints (base := wo.heap.size + 1) (by
        show World.ownsRow _ _ _ _ _ _ _;rw [HN.out.2]; exact hN4) (by rw [HN.out.2]; omega)
       have hIR := hI4.ints hRle;have HN2 := Lib.hid HN.out.2;clear he HO HN;go_wp2;go_ret2;exact ⟨_, _, N, R, rfl, HN2.out, HB.out, hIN, hIR, hEw.trans hE4⟩
      ·have heq : ((R.length : Int) == (n : Int)) = false := by simp; omega
       obtain ⟨HO', hlt'⟩ := Aa8 HV.out HL.out HO.out (by omega) HN.out.2 HN.out.1 he;have HO' := Lib.hid HO';have HC' : Hid (∀ s, s < t.nxt.length → w4.cell? ⟨wo.heap.size + 1, s, none⟩ = some (iv (N.getD s 0))) := Lib.hid fun s hs => Ap 0 hN4 HN.out.2.symm s (by rw [HN.out.2]; exact hs)
       clear he;go_wp2;go_roundw
       case rel => exact ⟨N, R.length, wo.heap.size + 1, _, rfl, rfl, hE.trans hE4, hsz4, HC', HO'⟩
       case measure => simp [intOf]; omega
end Go.Proofs.YtaiogolidlamiaaGreatDoor
