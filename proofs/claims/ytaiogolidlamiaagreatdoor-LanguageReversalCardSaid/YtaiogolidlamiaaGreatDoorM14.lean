import Derived.Test.YtaiogolidlamiaaGreatDoorM11
import Derived.Test.YtaiogolidlamiaaGreatDoorM13
set_option linter.unusedVariables false
set_option linter.unusedSimpArgs false
namespace Go.Proofs.YtaiogolidlamiaaGreatDoor
set_option maxRecDepth 100000
open Go.RowKit Go.Shelf
set_option maxHeartbeats 2000000 in
theorem Zt (t : Tbl) (hv : TVal t) (hn : t.nxt.length ≤ 65536) (A : Array Value) (w : World) (h : IsT w A t) :
  Calls Tryz.prog 111 #[.agg A] w fun e w' => ∃ v l, e = .returned v ∧ Reached t l ∧ Ints w' v l ∧ Ext w w' := by
 obtain ⟨bn, on, cn, ba, oa, ca, hAs, hAo, _, _, hA7, _, hR, _⟩ := h.opened hv;have hn0 := hv.pos;have hm0 := hv.cpos;have hm1 := hv.cle;have HR := Lib.hid hR;have HV := Lib.hid hv;obtain ⟨i0, hi, hz0, hz1, hz2⟩ := info_parts C2;obtain ⟨j0, hj, hy0, hy1, hy2⟩ := info_parts El;have hE0 := (Ext.refl w).alloc (.cells A 108);have H0 := Ab w (.cells A 108);have HK := Lib.hid (fun (W : World) (hW : Ext (w.alloc (.cells A 108)) W) => (cell_of_row W w.heap.size 257 _ _ _ (hW.heap H0)).trans hA7);clear hR hv h H0 hA7 hAo hAs;go_enter Tryz.func111, Tryz.ntmps111;go_upto_region 1 with (fail)
 generalize w.alloc (.cells A 108) = w1 at *;have k1 := HK.out w1 (Ext.refl w1);go_upto_region 2 with (at_make; refine wpList_make_full _ rfl _ _ 28 rfl w1.heap.size 4 j0 (.bool false) 1 Tryz.underlying28 hj hy0 hy1 .i64 .i64 _ _ t.nxt.length rfl rfl rfl rfl (by rw [hy2]; omega) (by unfold maxLen; omega) (Nat.le_refl _) ?_; intro w2 hown2 hgrow2)
 have hE2 : Ext w1 w2 := (Ext.refl w1).grown hgrow2 (fun k e => by cases e);have hs2 : w2.ownsRow w1.heap.size 4 1 (.slice (some ⟨w1.heap.size, 0, none⟩) t.nxt.length t.nxt.length) t.nxt.length ((Dy t.nxt.length []).map Value.bool) := by rw [Yj, ← B7]; exact hown2
 have cs := Ap false hs2 (Jm _ _).symm 0 (by rw [Jm]; exact hn0);have fs := hs2.frozenAt 0;obtain ⟨hst, hgr⟩ := A5 hs2 0 true;rw [Qo, List.nil_append] at hst;have hE3 := hE2.grown hgr (fun k e => by cases e; exact Nat.le_refl _);clear hown2 hgrow2 k1 hs2 hgr;go_upto_region 3 with (fail)
 clear cs fs;obtain ⟨w3, hw3⟩ : ∃ W, w2.setCell ⟨w1.heap.size, 0, none⟩ (.bool true) = W := ⟨_, rfl⟩;simp only [hw3] at *;clear hw3;have hE4 := hE3.alloc (.cells #[.int .i64 0] 3);have hst4 := hst.alloc (.cells #[.int .i64 0] 3);have hl4 := World.ownsRow_lit (base := w1.heap.size) (e := 3) (size := 1) w3 #[.int .i64 0] 1 hE3.size (by unfold maxLen; omega) rfl;generalize hgs : w1.heap.size = gs at *;have HGS := Lib.hid hgs;clear hgs;go_wp2_with (fail);go_loopw [4, 5] (fun v i W => ∃ (l : List Nat) (k g c : Nat), k ≤ l.length ∧ i = .int .i64 k ∧ v = .slice (some ⟨g, 0, none⟩) l.length c ∧ Ext w1 W ∧ OwnI W gs v l ∧
   W.ownsRow gs 4 1 (.slice (some ⟨gs, 0, none⟩) t.nxt.length t.nxt.length) t.nxt.length ((Dy t.nxt.length l).map Value.bool) ∧ Hid (BInv t l k 0))
  (fun _ i _ => t.nxt.length - (intOf i).toNat)
 case atStart => exact ⟨[0], 0, w3.heap.size, 1, by omega, rfl, rfl, hE4, hl4, hst4, Lib.hid (Agx HV.out)⟩
 case round =>
  obtain ⟨l, k, g, c, hk, rfl, rfl, hE, hI, hS, HI⟩ := hrel;have hln := HI.out.le;by_cases hkl : k < l.length
  ·have cl := At (Ap 0 hI rfl k hkl);have hsn := HI.out.lt _ (Cz l k 0 hkl);obtain ⟨s, hsd⟩ : ∃ s, l.getD k 0 = s := ⟨_, rfl⟩;rw [hsd] at cl hsn;have HSD := Lib.hid hsd;clear hsd;obtain ⟨br, or', cr, hrc, hrr⟩ := HR.out s hsn;have cr1 := At ((hE0.trans hE).cell hrc);have k1 := At (HK.out wr hE);have HRR := Lib.hid hrr;clear hrc hrr;go_upto_region 7 with (fail)
   refine C1 (by kernel_rfl) (by kernel_rfl) ?_;iterate 10 (with_reducible refine wpQuiet_step (fun K hK => ?_); go_simp; (refine hK _ ?_; clear hK K))
   refine wpQuiet_nil ?_;rintro _ ⟨e, rfl⟩;clear cl cr1 k1;have hE5 := hE.trans e.ext;have hI := Ah hI e.ext;have hS := Ah hS e.ext;generalize e.W = w5 at *;have hgs1 : w1.heap.size ≤ gs := Nat.le_of_eq HGS.out;have hgs2 : gs ≤ w1.heap.size := Nat.le_of_eq HGS.out.symm;go_wp2_with (fail);go_loopw [4, 30] (fun v i W => ∃ (l' : List Nat) (q g' c' : Nat), q ≤ t.cells ∧ i = .int .i64 q ∧ v = .slice (some ⟨g', 0, none⟩) l'.length c' ∧ Ext w1 W ∧ OwnI W gs v l' ∧
     W.ownsRow gs 4 1 (.slice (some ⟨gs, 0, none⟩) t.nxt.length t.nxt.length) t.nxt.length ((Dy t.nxt.length l').map Value.bool) ∧ Hid (BInv t l' k q) ∧ Hid (k < l'.length ∧ l'.getD k 0 = s))
    (fun _ i _ => t.cells - (intOf i).toNat)
   case atStart => exact ⟨l, 0, g, c, by omega, rfl, rfl, hE5, hI, hS, HI, Lib.hid ⟨hkl, HSD.out⟩⟩
   case round =>
    obtain ⟨l', q, g', c', hq, rfl, rfl, hEq, hIq, hSq, HIq, HKq⟩ := hrel;have hl' := HIq.out.le;by_cases hqc : q < t.cells
    ·have cq := (hE0.trans hEq).cell (HRR.out q hqc);have hxn := HV.out.tgt s hsn q hqc;obtain ⟨x, hxd⟩ : ∃ x, t.ent2 s q = x := ⟨_, rfl⟩;rw [hxd] at cq hxn;have HXD := Lib.hid hxd;clear hxd;have csx := Ap false hSq (Jm _ _).symm x (by rw [Jm]; exact hxn);rw [Yk _ _ _ hxn] at csx;have fsx := hSq.frozenAt x;have hsz := hEq.size;by_cases hx : x ∈ l'
     ·rw [decide_eq_true hx] at csx;have HN := Lib.hid (Agy HIq.out (by rw [HKq.out.2, HXD.out]; exact hx));clear hx;go_wp2;go_roundw
      case rel => exact ⟨l', q + 1, g', c', by omega, by go_num, rfl, hEq, hIq, hSq, HN, HKq⟩
      case measure => simp [intOf]; omega
     ·rw [decide_eq_false hx] at csx;have HN := Lib.hid (Ag0 HV.out HIq.out HKq.out.1 hqc (by rw [HKq.out.2, HXD.out]; exact hx));rw [HKq.out.2, HXD.out] at HN;clear hx;obtain ⟨hst6, hgr6⟩ := A5 hSq x true;rw [Qo] at hst6;have hI6 := hIq.kept hgr6 (Ag hIq hSq (by decide));have hE6 := hEq.grown hgr6 (fun k e => by cases e; exact hgs1);go_upto_region 12 with (fail)
      obtain ⟨w6, hw6⟩ : ∃ W, wr.setCell ⟨gs, x, none⟩ (.bool true) = W := ⟨_, rfl⟩;simp only [hw6] at *;clear hw6 csx fsx hSq hIq cq;have hs6 := hE6.size;go_wp2_with (at_builtin; refine wpList_append_lies _ rfl _ _ 68 rfl gs 3 i0 (.int .i64 0) 1 8 Tryz.underlying68 hi hz0 hz1 hz2 rfl (by decide) _ _ _ rfl (hI6.alloc _) _ 1 1 [iv x] rfl rfl (cell_one_new _ _ _) (by simp [Value.oneCell']) (by decide) (by unfold maxLen; omega) (by omega) (by simp; omega) _ rfl ?_);intro g7 c7 w7 hI7 hgr7 _ _;have hS7 := (hst6.alloc (.cells #[iv x] 3)).kept hgr7 (Ag hst6 hI6 (by decide));have hE7 := (hE6.alloc (.cells #[iv x] 3)).grown hgr7 (fun k e => by have := (hI6.lt k e).1; omega);clear hgr7 hI6 hst6;go_wp2;go_roundw
      case rel =>
       refine ⟨l' ++ [x], q + 1, g7, c7, by omega, by go_num, by rw [List.length_append]; rfl, hE7, ?_, hS7, HN, Lib.hid ⟨by rw [List.length_append]; have := HKq.out.1; omega, by rw [Bi _ _ _ _ HKq.out.1]; exact HKq.out.2⟩⟩;show World.ownsRow _ _ _ _ _ _ _;rw [List.length_append, List.map_append];exact hI7
      case measure => simp [intOf]; omega
    ·obtain rfl : q = t.cells := by omega
     have HN := Lib.hid (Agz HIq.out);go_wp2;go_roundw
     case rel => exact ⟨l', k + 1, g', c', by have := HKq.out.1; omega, by go_num, rfl, hEq, hIq, hSq, HN⟩
     case measure => simp [intOf]; omega
  ·obtain rfl : k = l.length := by omega
   have HEnd := Lib.hid (Ag1 HI.out);go_wp2;go_ret;exact ⟨_, l, rfl, HEnd.out, hI.ints (by omega), hE0.trans hE⟩
def evN (N : List (List Nat)) (r : List Nat) (m p : Nat) : Nat := if p / m < N.length then (N.getD (p / m) []).getD (p % m) 0 else r.getD (p % m) 0
theorem Ir {m k : Nat} (hk : k < m) (i : Nat) : (i * m + k) / m = i ∧ (i * m + k) % m = k := by
 have h0 : 0 < m := by omega
 constructor
 ·rw [Nat.mul_comm, Nat.mul_add_div h0, Nat.div_eq_of_lt hk, Nat.add_zero]
 ·rw [Nat.mul_comm, Nat.mul_add_mod, Nat.mod_eq_of_lt hk]
theorem Oh {m k i p : Nat} (h0 : 0 < m) (hk : k ≤ m) (hp : p < i * m + k) : p / m < i ∨ (p / m = i ∧ p % m < k) := by
 have h1 := Nat.div_add_mod p m;have h2 := Nat.mod_lt p h0;rcases Nat.lt_trichotomy (p / m) i with h | h | h
 ·exact .inl h
 ·refine .inr ⟨h, ?_⟩;rw [h, Nat.mul_comm] at h1;omega
 ·exfalso
  have : (i + 1) * m ≤ p / m * m := Nat.mul_le_mul_right _ h;rw [Nat.succ_mul, Nat.mul_comm (p / m)] at this;omega
structure LInv (t : Tbl) (B : Nat → Nat) (R K : List Nat) (i k : Nat) (O : List Nat) (P : List (Option Nat)) (N : List (List Nat)) (r : List Nat) : Prop where
 lenP : P.length = R.length
 place : ∀ x v, P.getD x none = some v ↔ x < R.length ∧ v < O.length ∧ O.getD v 0 = x
 lt : ∀ v, v < O.length → O.getD v 0 < R.length
 pos : 0 < O.length
 zero : O.getD 0 0 = B 0
 lenN : N.length = i
 rows : ∀ j, j < i → (N.getD j []).length = K.length
 lenr : r.length = K.length
 le : i ≤ O.length
 ent : ∀ p, p < i * K.length + k → evN N r K.length p < O.length ∧ O.getD (evN N r K.length p) 0 = B (t.ent2 (R.getD (O.getD (p / K.length) 0) 0) (K.getD (p % K.length) 0))
 mx : mxf (evN N r K.length) (i * K.length + k) + 1 = O.length
 rgf : ∀ p, p < i * K.length + k → evN N r K.length p ≤ mxf (evN N r K.length) p + 1
 rch : ∀ x, 0 < x → x < O.length → ∃ p, p < i * K.length + k ∧ p / K.length < x ∧ evN N r K.length p = x
section
variable {t : Tbl} {B : Nat → Nat} {R K : List Nat} {i k : Nat} {O : List Nat} {P : List (Option Nat)} {N : List (List Nat)} {r : List Nat}
theorem Acn (h0 : B 0 < R.length) (n : Nat) (hn : n = R.length) (r : List Nat) (hr : r.length = K.length) : LInv t B R K 0 0 [B 0] ((List.replicate n none).set (B 0) (some 0)) [] r where
 lenP := by rw [List.length_set, List.length_replicate, hn]
 place := fun x v => by
  subst hn;rw [Bb _ _ _ _ _ (by rw [List.length_replicate]; exact h0)];by_cases e : x = B 0
  ·subst e;rw [if_pos rfl];constructor
   ·intro h; cases h; exact ⟨h0, by simp, rfl⟩
   ·rintro ⟨_, h1, _⟩;have : v = 0 := by simpa using h1
    rw [this]
  ·rw [if_neg e];constructor
   ·intro h;rw [List.getD_eq_getElem?_getD, List.getElem?_replicate] at h;split at h <;> simp at h
   ·rintro ⟨_, h1, h2⟩;have : v = 0 := by simpa using h1
    subst this;exact absurd h2.symm e
 lt := fun v hv => by
  have : v = 0 := by simpa using hv
  subst this; exact h0
 pos := by simp
 zero := rfl
 lenN := rfl
 rows := fun j hj => by omega
 lenr := hr
 le := by simp
 ent := fun p hp => by omega
 mx := by simp [mxf]
 rgf := fun p hp => by omega
 rch := fun x h1 h2 => by
  have : x = 0 := by simpa using h2
  omega
theorem T2 (hN : N.length = i) (hk : k < K.length) (hr : r.length = K.length) (v : Nat) : (∀ p, p < i * K.length + k → evN N (r.set k v) K.length p = evN N r K.length p) ∧ evN N (r.set k v) K.length (i * K.length + k) = v := by
 refine ⟨fun p hp => ?_, ?_⟩
 ·unfold evN;rw [hN];rcases Oh (by omega) (by omega) hp with h | ⟨h1, h2⟩
  ·rw [if_pos h, if_pos h]
  ·rw [if_neg (by omega), if_neg (by omega), Bb _ _ _ _ _ (by omega), if_neg (by omega)]
 ·obtain ⟨h1, h2⟩ := Ir hk i;unfold evN;rw [h1, h2, if_neg (by omega), Bb _ _ _ _ _ (by omega), if_pos rfl]
theorem Acp (h : LInv t B R K i k O P N r) (hk : k < K.length) (v : Nat) (hv : P.getD (B (t.ent2 (R.getD (O.getD i 0) 0) (K.getD k 0))) none = some v) : LInv t B R K i (k + 1) O P N (r.set k v) := by
 obtain ⟨_, hvl, hvo⟩ := (h.place _ _).1 hv;obtain ⟨e1, e2⟩ := T2 h.lenN hk h.lenr v;obtain ⟨d1, d2⟩ := Ir hk i;have emx : mxf (evN N (r.set k v) K.length) (i * K.length + k) = mxf (evN N r K.length) (i * K.length + k) := Ff _ _ _ fun q hq => e1 q hq
 refine ⟨h.lenP, h.place, h.lt, h.pos, h.zero, h.lenN, h.rows, by rw [List.length_set]; exact h.lenr, h.le, fun p hp => ?_, ?_, fun p hp => ?_, fun x hx hx' => ?_⟩
 ·by_cases e : p = i * K.length + k
  ·rw [e, e2, d1, d2]; exact ⟨hvl, hvo⟩
  ·rw [e1 p (by omega)]; exact h.ent p (by omega)
 ·have := h.mx;rw [← Nat.add_assoc];simp only [mxf];rw [e2, emx];omega
 ·by_cases e : p = i * K.length + k
  ·rw [e, e2, emx];have := h.mx;omega
  ·rw [e1 p (by omega), Ff _ (evN N r K.length) p fun q hq => e1 q (by omega)];exact h.rgf p (by omega)
 ·obtain ⟨p, hp, h1, h2⟩ := h.rch x hx hx';exact ⟨p, by omega, h1, by rw [e1 p hp]; exact h2⟩
theorem Acq (h : LInv t B R K i k O P N r) (hk : k < K.length) (hi : i < O.length) (hlt : B (t.ent2 (R.getD (O.getD i 0) 0) (K.getD k 0)) < R.length) (hv : P.getD (B (t.ent2 (R.getD (O.getD i 0) 0) (K.getD k 0))) none = none) :
  LInv t B R K i (k + 1) (O ++ [B (t.ent2 (R.getD (O.getD i 0) 0) (K.getD k 0))]) (P.set (B (t.ent2 (R.getD (O.getD i 0) 0) (K.getD k 0))) (some O.length)) N (r.set k O.length) := by
 obtain ⟨e1, e2⟩ := T2 h.lenN hk h.lenr O.length;obtain ⟨d1, d2⟩ := Ir hk i;have hto : ∀ x, x = B (t.ent2 (R.getD (O.getD i 0) 0) (K.getD k 0)) → (O ++ [x]).getD O.length 0 = B (t.ent2 (R.getD (O.getD i 0) 0) (K.getD k 0)) := fun x e => by rw [B8, e]
 have emx : mxf (evN N (r.set k O.length) K.length) (i * K.length + k) = mxf (evN N r K.length) (i * K.length + k) := Ff _ _ _ fun q hq => e1 q hq
 have hg : ∀ x v, v < O.length → (O ++ [x]).getD v 0 = O.getD v 0 := fun x v hv => Bi _ _ _ _ hv
 have hlen : ∀ x, (O ++ [x]).length = O.length + 1 := fun x => by simp
 have hto := hto _ rfl;have hmx := h.mx;refine ⟨by rw [List.length_set]; exact h.lenP, fun x v => ?_, fun v hv => ?_, by rw [hlen]; omega, by rw [hg _ _ h.pos]; exact h.zero, h.lenN, h.rows, by rw [List.length_set]; exact h.lenr, by rw [hlen]; omega, fun p hp => ?_, ?_, fun p hp => ?_, fun x hx hx' => ?_⟩
 ·rw [Bb _ _ _ _ _ (by rw [h.lenP]; exact hlt), hlen];by_cases e : x = B (t.ent2 (R.getD (O.getD i 0) 0) (K.getD k 0))
  ·rw [if_pos e];constructor
   ·intro h1;cases h1
    exact ⟨by rw [e]; exact hlt, by omega, by rw [hto, e]⟩
   ·rintro ⟨h1, h2, h3⟩;by_cases ev : v = O.length
    ·rw [ev]
    ·rw [hg _ v (by omega)] at h3;have := (h.place x v).2 ⟨h1, by omega, h3⟩;rw [e, hv] at this;cases this
  ·rw [if_neg e, h.place x v];constructor
   ·rintro ⟨h1, h2, h3⟩;exact ⟨h1, by omega, by rw [hg _ v h2]; exact h3⟩
   ·rintro ⟨h1, h2, h3⟩;by_cases ev : v = O.length
    ·rw [ev, hto] at h3; exact absurd h3.symm e
    ·rw [hg _ v (by omega)] at h3;exact ⟨h1, by omega, h3⟩
 ·rw [hlen] at hv;by_cases ev : v = O.length
  ·rw [ev, hto]; exact hlt
  ·rw [hg _ v (by omega)]; exact h.lt v (by omega)
 ·rw [hlen];by_cases e : p = i * K.length + k
  ·rw [e, e2, d1, d2, hg _ i hi, hto];exact ⟨by omega, rfl⟩
  ·obtain ⟨h1, h2⟩ := h.ent p (by omega);have hpi : p / K.length < O.length := by
    rcases Oh (by omega) (by omega) (show p < i * K.length + k by omega) with h | ⟨h, _⟩ <;> omega
   rw [e1 p (by omega), hg _ _ h1, hg _ _ hpi];exact ⟨by omega, h2⟩
 ·rw [hlen, ← Nat.add_assoc];simp only [mxf];rw [e2, emx];omega
 ·by_cases e : p = i * K.length + k
  ·rw [e, e2, emx];omega
  ·rw [e1 p (by omega), Ff _ (evN N r K.length) p fun q hq => e1 q (by omega)];exact h.rgf p (by omega)
 ·rw [hlen] at hx';by_cases ex : x = O.length
  ·exact ⟨i * K.length + k, by omega, by rw [d1]; omega, by rw [e2, ex]⟩
  ·obtain ⟨p, hp, h1, h2⟩ := h.rch x hx (by omega);exact ⟨p, by omega, h1, by rw [e1 p hp]; exact h2⟩
theorem Aco (h : LInv t B R K i K.length O P N r) (hi : i < O.length) (r' : List Nat) (hr' : r'.length = K.length) : LInv t B R K (i + 1) 0 O P (N ++ [r]) r' := by
 by_cases h0 : 0 < K.length
 ·have hl : (N ++ [r]).length = i + 1 := by simp [h.lenN]
  have ev : ∀ p, p < i * K.length + K.length → evN (N ++ [r]) r' K.length p = evN N r K.length p := fun p hp => by
   unfold evN;rw [hl, h.lenN];rcases Oh h0 (Nat.le_refl _) hp with h1 | ⟨h1, h2⟩
   ·rw [if_pos (by omega), if_pos h1, Bi _ _ _ _ (by rw [h.lenN]; exact h1)]
   ·rw [if_pos (by omega), if_neg (by omega), h1, ← h.lenN, B8]
  have eq : (i + 1) * K.length + 0 = i * K.length + K.length := by rw [Nat.succ_mul]; rfl
  refine ⟨h.lenP, h.place, h.lt, h.pos, h.zero, hl, fun j hj => ?_, hr', by omega, fun p hp => ?_, ?_, fun p hp => ?_, fun x hx hx' => ?_⟩
  ·by_cases e : j = i
   ·subst e; rw [← h.lenN, B8]; exact h.lenr
   ·rw [Bi _ _ _ _ (by rw [h.lenN]; omega)]; exact h.rows j (by omega)
  ·rw [eq] at hp; rw [ev p hp]; exact h.ent p hp
  ·rw [eq, Ff _ (evN N r K.length) _ fun q hq => ev q hq]; exact h.mx
  ·rw [eq] at hp; rw [ev p hp, Ff _ (evN N r K.length) p fun q hq => ev q (by omega)]; exact h.rgf p hp
  ·obtain ⟨p, hp, h1, h2⟩ := h.rch x hx hx';exact ⟨p, by rw [eq]; exact hp, h1, by rw [ev p hp]; exact h2⟩
 ·have hz : K.length = 0 := by omega
  refine ⟨h.lenP, h.place, h.lt, h.pos, h.zero, by simp [h.lenN], fun j hj => ?_, hr', by omega, fun p hp => by rw [hz] at hp; simp at hp, ?_, fun p hp => by rw [hz] at hp; simp at hp, fun x hx hx' => ?_⟩
  ·by_cases e : j = i
   ·subst e; rw [← h.lenN, B8]; exact h.lenr
   ·rw [Bi _ _ _ _ (by rw [h.lenN]; omega)]; exact h.rows j (by omega)
  ·have := h.mx;rw [hz] at this ⊢
   simpa [mxf] using this
  ·obtain ⟨p, hp, _⟩ := h.rch x hx hx';rw [hz] at hp; simp at hp
theorem LInv.nodup (h : LInv t B R K i k O P N r) : O.Nodup := by
 rw [List.nodup_iff_pairwise_ne, List.pairwise_iff_getElem];intro a b ha hb hab e;have h1 := (h.place (O.getD a 0) a).2 ⟨h.lt a ha, ha, rfl⟩;have h2 := (h.place (O.getD b 0) b).2 ⟨h.lt b hb, hb, rfl⟩;have e' : O.getD a 0 = O.getD b 0 := by
  rw [List.getD_eq_getElem?_getD, List.getD_eq_getElem?_getD, List.getElem?_eq_getElem ha, List.getElem?_eq_getElem hb, e]
 rw [e', h2] at h1;cases h1
 omega
theorem LInv.len_le (h : LInv t B R K i k O P N r) : O.length ≤ R.length := by
 have := Cx O (List.range R.length) h.nodup fun s hs => by
  obtain ⟨j, hj, rfl⟩ := F0 hs;exact List.mem_range.2 (h.lt j hj)
 simpa using this
theorem Acr {L : List Cls} (hK : K.length = L.length) (h0 : 0 < K.length) {A : List Bool} (h : LInv t B R K i 0 O P N r) (hi : i = O.length) (hA : A.length = i) (hok : ∀ j, j < i → A.getD j false = t.ok (R.getD (O.getD j 0) 0)) :
  Laid t B R K L O ⟨L, N, A⟩ := by
 subst hi;have ev : ∀ j q, j < O.length → q < K.length → evN N r K.length (j * K.length + q) = (N.getD j []).getD q 0 := fun j q hj hq => by
  obtain ⟨h1, h2⟩ := Ir hq j;unfold evN;rw [h1, h2, h.lenN, if_pos hj]
 have pos : ∀ j q, j < O.length → q < K.length → j * K.length + q < O.length * K.length + 0 := fun j q hj hq => by
  have : (j + 1) * K.length ≤ O.length * K.length := Nat.mul_le_mul_right _ hj;rw [Nat.succ_mul] at this;omega
 have ent : ∀ p, p < O.length * K.length → (Dfa.mk L N A).ent p = evN N r K.length p := fun p hp => by
  have h1 := Nat.div_add_mod p K.length;have h2 := Nat.mod_lt p h0;have h3 : p / K.length < O.length := Nat.div_lt_of_lt_mul (by rw [Nat.mul_comm]; exact hp);show (N.getD (p / L.length) []).getD (p % L.length) 0 = _;unfold evN;rw [← hK, h.lenN, if_pos h3]
 refine ⟨rfl, h.lenN, hA, h.zero, h.pos, h.nodup, h.lt, h.rows, fun j hj q hq => ?_, fun j hj => hok j hj, fun p hp => ?_, fun x hx hx' => ?_⟩
 ·obtain ⟨h1, h2⟩ := Ir hq j;have := h.ent _ (pos j q hj hq);rw [ev j q hj hq, h1, h2] at this;exact this
 ·have hp' : p < O.length * K.length := by
   have e : (Dfa.mk L N A).nxt.length * (Dfa.mk L N A).cls.length = O.length * K.length := by
    show N.length * L.length = _;rw [h.lenN, hK]
   rw [e] at hp; exact hp
  rw [ent p hp', Ff _ (evN N r K.length) p fun q hq => ent q (by omega)];exact h.rgf p (by omega)
 ·obtain ⟨p, hp, h1, h2⟩ := h.rch x hx hx';refine ⟨p / K.length, p % K.length, h1, Nat.mod_lt _ h0, ?_⟩;rw [← h2, ← ent p (by omega)];show _ = (N.getD (p / L.length) []).getD (p % L.length) 0;rw [← hK];rfl
end
section
variable {σ : Type}
def evR (N : List (List Nat)) (r : List Nat) (j q : Nat) : Nat := if j < N.length then (N.getD j []).getD q 0 else r.getD q 0
structure EInv (bs : List Nat) (st : σ) (nx : σ → Nat → σ) (i k : Nat) (l : List σ) (f : σ → Option Nat) (N : List (List Nat)) (r : List Nat) : Prop where
 zero : l[0]? = some st
 num : ∀ x v, f x = some v ↔ l[v]? = some x
 le : i ≤ l.length
 lenN : N.length = i
 rows : ∀ j, j < i → (N.getD j []).length = bs.length
 lenr : r.length = bs.length
 ent : ∀ j s q, l[j]? = some s → (j < i ∧ q < bs.length) ∨ (j = i ∧ q < k) → l[evR N r j q]? = some (nx s (bs.getD q 0))
 reach : ∀ s, s ∈ l → ∃ w, Ar nx st w = s
variable {bs : List Nat} {st : σ} {nx : σ → Nat → σ} {i k : Nat} {l : List σ} {f : σ → Option Nat} {N : List (List Nat)} {r : List Nat}
theorem EInv.pos (h : EInv bs st nx i k l f N r) : 0 < l.length := by
 have := h.zero;rw [List.getElem?_eq_some_iff] at this;exact this.1
theorem EInv.nodup (h : EInv bs st nx i k l f N r) : l.Nodup := by
 rw [List.nodup_iff_pairwise_ne, List.pairwise_iff_getElem];intro a b ha hb hab e;have h1 := (h.num _ a).2 (List.getElem?_eq_getElem ha);have h2 := (h.num _ b).2 (List.getElem?_eq_getElem hb);rw [e, h2] at h1;cases h1
 omega
theorem EInv.lt (h : EInv bs st nx i k l f N r) {x : σ} {v : Nat} (hf : f x = some v) : v < l.length := by
 have := (h.num x v).1 hf;rw [List.getElem?_eq_some_iff] at this;exact this.1
theorem T5 [DecidableEq σ] (bs : List Nat) (st : σ) (nx : σ → Nat → σ) (r : List Nat) (hr : r.length = bs.length) : EInv bs st nx 0 0 [st] (fun x => if x = st then some 0 else none) [] r where
 zero := rfl
 num := fun x v => by
  by_cases e : x = st
  ·subst e;rw [if_pos rfl];constructor
   ·intro h; cases h; rfl
   ·intro h;rw [List.getElem?_eq_some_iff] at h;obtain ⟨h1, _⟩ := h;have : v = 0 := by simpa using h1
    rw [this]
  ·rw [if_neg e];constructor
   ·intro h; cases h
   ·intro h;rw [List.getElem?_eq_some_iff] at h;obtain ⟨h1, h2⟩ := h;have : v = 0 := by simpa using h1
    subst this;exact absurd h2.symm e
 le := by omega
 lenN := rfl
 rows := fun j hj => by omega
 lenr := hr
 ent := fun j s q _ h => by omega
 reach := fun s hs => by rw [List.mem_singleton] at hs; subst hs; exact ⟨[], rfl⟩
theorem T3 (hN : N.length = i) (hr : r.length = bs.length) (hk : k < bs.length) (v : Nat) : evR N (r.set k v) i k = v ∧ ∀ j q, (j < i ∧ q < bs.length) ∨ (j = i ∧ q < k) → evR N (r.set k v) j q = evR N r j q := by
 unfold evR;rw [hN];refine ⟨by rw [if_neg (by omega), Bb _ _ _ _ _ (by omega), if_pos rfl], fun j q h => ?_⟩;rcases h with ⟨h1, _⟩ | ⟨h1, h2⟩
 ·rw [if_pos h1, if_pos h1]
 ·rw [if_neg (by omega), if_neg (by omega), Bb _ _ _ _ _ (by omega), if_neg (by omega)]
theorem T7 (h : EInv bs st nx i k l f N r) (hk : k < bs.length) {s : σ} (hs : l[i]? = some s) (v : Nat) (hv : f (nx s (bs.getD k 0)) = some v) : EInv bs st nx i (k + 1) l f N (r.set k v) := by
 obtain ⟨e1, e2⟩ := T3 (bs := bs) h.lenN h.lenr hk v;refine ⟨h.zero, h.num, h.le, h.lenN, h.rows, by rw [List.length_set]; exact h.lenr, fun j s' q hj hq => ?_, h.reach⟩;by_cases e : j = i ∧ q = k
 ·obtain ⟨rfl, rfl⟩ := e;rw [hs] at hj; cases hj
  rw [e1];exact (h.num _ _).1 hv
 ·rw [e2 j q (by omega)];exact h.ent j s' q hj (by omega)
theorem T8 [DecidableEq σ] (h : EInv bs st nx i k l f N r) (hk : k < bs.length) (hb : ∀ q, q < bs.length → bs.getD q 0 < 256) {s : σ} (hs : l[i]? = some s) (hv : f (nx s (bs.getD k 0)) = none) :
  EInv bs st nx i (k + 1) (l ++ [nx s (bs.getD k 0)]) (fun x => if x = nx s (bs.getD k 0) then some l.length else f x) N (r.set k l.length) := by
 obtain ⟨e1, e2⟩ := T3 (bs := bs) h.lenN h.lenr hk l.length;have old : ∀ v, v < l.length → (l ++ [nx s (bs.getD k 0)])[v]? = l[v]? := fun v hv => List.getElem?_append_left hv
 have new : (l ++ [nx s (bs.getD k 0)])[l.length]? = some (nx s (bs.getD k 0)) := by simp
 have hi : i < l.length := by rw [List.getElem?_eq_some_iff] at hs; exact hs.1
 refine ⟨by rw [old _ h.pos]; exact h.zero, fun x v => ?_, by simp; omega, h.lenN, h.rows, by rw [List.length_set]; exact h.lenr, fun j s' q hj hq => ?_, fun x hx => ?_⟩
 ·by_cases e : x = nx s (bs.getD k 0)
  ·rw [if_pos e];constructor
   ·intro h1; cases h1; rw [new, e]
   ·intro h1;by_cases hl : v < l.length
    ·rw [old v hl] at h1;have := (h.num x v).2 h1;rw [e, hv] at this;cases this
    ·have h2 := h1;rw [List.getElem?_eq_some_iff] at h2;obtain ⟨h2, _⟩ := h2;simp at h2;have : v = l.length := by omega
     rw [this]
  ·rw [if_neg e, h.num x v];constructor
   ·intro h1;have h2 := h1;rw [List.getElem?_eq_some_iff] at h2;rw [old v h2.1]; exact h1
   ·intro h1;by_cases hl : v < l.length
    ·rw [old v hl] at h1; exact h1
    ·have h2 := h1;rw [List.getElem?_eq_some_iff] at h2;obtain ⟨h2, _⟩ := h2;simp at h2;have : v = l.length := by omega
     rw [this, new] at h1;cases h1
     exact absurd rfl e
 ·by_cases e : j = i ∧ q = k
  ·obtain ⟨rfl, rfl⟩ := e;rw [old _ hi, hs] at hj; cases hj
   rw [e1, new]
  ·have hjl : j < l.length := by omega
   rw [old j hjl] at hj;rw [e2 j q (by omega)];have h1 := h.ent j s' q hj (by omega);have h2 := h1;rw [List.getElem?_eq_some_iff] at h2;rw [old _ h2.1]; exact h1
 ·rw [List.mem_append, List.mem_singleton] at hx;rcases hx with hx | rfl
  ·exact h.reach x hx
  ·obtain ⟨w, hw⟩ := h.reach s (List.mem_of_getElem? hs);refine ⟨w ++ [UInt8.ofNat (bs.getD k 0)], ?_⟩;rw [D5, hw, u8n _ (hb k hk)]
theorem T6 (h : EInv bs st nx i bs.length l f N r) (hi : i < l.length) (r' : List Nat) (hr' : r'.length = bs.length) : EInv bs st nx (i + 1) 0 l f (N ++ [r]) r' := by
 have hl : (N ++ [r]).length = i + 1 := by simp [h.lenN]
 refine ⟨h.zero, h.num, by omega, hl, fun j hj => ?_, hr', fun j s q hj hq => ?_, h.reach⟩
 ·by_cases e : j = i
  ·subst e; rw [← h.lenN, B8]; exact h.lenr
  ·rw [Bi _ _ _ _ (by rw [h.lenN]; omega)]; exact h.rows j (by omega)
 ·have hji : j < i + 1 := by omega
  have hqb : q < bs.length := by omega
  have e : evR (N ++ [r]) r' j q = evR N r j q := by
   unfold evR;rw [hl, h.lenN, if_pos hji];by_cases e : j = i
   ·subst e; rw [if_neg (by omega), ← h.lenN, B8]
   ·rw [if_pos (by omega), Bi _ _ _ _ (by rw [h.lenN]; omega)]
  rw [e];exact h.ent j s q hj (by omega)
theorem T9 {c : Nat → Nat} {ac : σ → Bool} {A : List Bool} (h : EInv bs st nx i 0 l f N r) (hi : i = l.length) (hA : A.length = i) (hac : ∀ (j : Nat) s, l[j]? = some s → A.getD j false = ac s) :
  Expl c bs st nx ac l ⟨c, bs.length, N, A⟩ := by
 subst hi;refine ⟨rfl, rfl, h.lenN, hA, h.pos, h.nodup, h.zero, h.rows, fun j s hj q hq => ?_, fun j s hj => hac j s hj, fun j s hj => h.reach s (List.mem_of_getElem? hj)⟩;have hjl : j < l.length := by rw [List.getElem?_eq_some_iff] at hj; exact hj.1
 have h1 := h.ent j s q hj (.inl ⟨hjl, hq⟩);have e : evR N r j q = (Tbl.mk c bs.length N A).ent2 j q := by
  unfold evR;rw [h.lenN, if_pos hjl]; rfl
 rw [e] at h1;have h2 := h1;rw [List.getElem?_eq_some_iff] at h2;exact ⟨h2.1, h1⟩
theorem Expl.closed {c : Nat → Nat} {ac : σ → Bool} {t : Tbl} (h : Expl c bs st nx ac l t) {a b : Nat → Nat} (hj : Joint a b c bs) (hn : ∀ s x, x < 256 → nx s (bs.getD (c x) 0) = nx s x) (w : List UInt8) : Ar nx st w ∈ l := by
 have : ∀ (w : List UInt8) s, s ∈ l → Ar nx s w ∈ l := fun w => by
  induction w with
  | nil => intro s hs; exact hs
  | cons x w ih =>
   intro s hs;obtain ⟨i, hi, e⟩ := List.mem_iff_getElem.1 hs;have h1 := (h.tgt i s (by rw [List.getElem?_eq_getElem hi, e]) _ (hj.lt _ x.toNat_lt)).2;rw [hn s _ x.toNat_lt] at h1;exact ih _ (List.mem_of_getElem? h1)
 exact this w st (List.mem_of_getElem? h.zero)
theorem Expl.most {c : Nat → Nat} {ac : σ → Bool} {t : Tbl} (h : Expl c bs st nx ac l t) {a b : Nat → Nat} (hj : Joint a b c bs) (hn : ∀ s x, x < 256 → nx s (bs.getD (c x) 0) = nx s x) {m : List σ} (hm : m.Nodup) (hr : ∀ s, s ∈ m → ∃ w, Ar nx st w = s) [DecidableEq σ] : m.length ≤ l.length :=
 Cx m l hm fun s hs => by
  obtain ⟨w, rfl⟩ := hr s hs;exact h.closed hj hn w
end
def rk (w : List UInt8) : Nat := w.foldl (fun a x => 256 * a + x.toNat + 1) 0
theorem Mh (w : List UInt8) (x : UInt8) : rk (w ++ [x]) = 256 * rk w + x.toNat + 1 := by simp [rk, List.foldl_append]
structure FB (t : Tbl) (i b : Nat) (l : List Nat) (W : Nat → List UInt8) (F : List (Option Nat)) (Y : List UInt8) : Prop where
 pos : 0 < l.length
 head : l.getD 0 0 = 0
 nodup : l.Nodup
 lt : ∀ s ∈ l, s < t.nxt.length
 run : ∀ s ∈ l, t.run 0 (W s) = s
 w0 : W 0 = []
 inc : ∀ j k, j < k → k < l.length → rk (W (l.getD j 0)) < rk (W (l.getD k 0))
 bound : i < l.length → ∀ s ∈ l, rk (W s) ≤ 256 * rk (W (l.getD i 0)) + b
 done : ∀ j, j < i → ∀ x, x < 256 → t.stp (l.getD j 0) x ∈ l ∧ rk (W (t.stp (l.getD j 0) x)) ≤ 256 * rk (W (l.getD j 0)) + x + 1
 cur : ∀ x, x < b → t.stp (l.getD i 0) x ∈ l ∧ rk (W (t.stp (l.getD i 0) x)) ≤ 256 * rk (W (l.getD i 0)) + x + 1
 no : ∀ j, j < i → t.ok (l.getD j 0) = false
 lenF : F.length = t.nxt.length
 lenY : Y.length = t.nxt.length
 seen : ∀ s, s < t.nxt.length → ((F.getD s none).isSome ↔ s ∈ l)
 from_ : ∀ s p, F.getD s none = some p → s ≠ 0 → p ∈ l ∧ W s = W p ++ [Y.getD s 0]
section
variable {t : Tbl} {i b : Nat} {l : List Nat} {W : Nat → List UInt8} {F : List (Option Nat)} {Y : List UInt8}
theorem Aez (hv : TVal t) (n : Nat) (hn : n = t.nxt.length) : FB t 0 0 [0] (fun _ => []) ((List.replicate n none).set 0 (some 0)) (List.replicate n 0) where
 pos := by simp
 head := rfl
 nodup := by simp
 lt := fun s hs => by rw [List.mem_singleton] at hs; subst hs; exact hv.pos
 run := fun s hs => by rw [List.mem_singleton] at hs; subst hs; rfl
 w0 := rfl
 inc := fun j k h1 h2 => by simp at h2; omega
 bound := fun _ s _ => by show rk [] ≤ _; exact Nat.zero_le _
 done := fun j hj => by omega
 cur := fun x hx => by omega
 no := fun j hj => by omega
 lenF := by simp [hn]
 lenY := by simp [hn]
 seen := fun s hs => by
  rw [Bb _ _ _ _ _ (by rw [List.length_replicate]; omega)];by_cases e : s = 0
  ·simp [e]
  ·rw [if_neg e];have : (List.replicate n (none : Option Nat)).getD s none = none := by
    rw [List.getD_eq_getElem?_getD, List.getElem?_replicate]; split <;> rfl
   rw [this]; simp [e]
 from_ := fun s p h hs => by
  by_cases hl : 0 < n
  ·rw [Bb _ _ _ _ _ (by rw [List.length_replicate]; omega), if_neg hs] at h;rw [List.getD_eq_getElem?_getD, List.getElem?_replicate] at h;split at h <;> cases h
  ·have : n = 0 := by omega
   subst this;simp at h
theorem Ae1 (h : FB t i b l W F Y) (hi : i < l.length) (hs : t.stp (l.getD i 0) b < t.nxt.length) (hm : F.getD (t.stp (l.getD i 0) b) none ≠ none) : FB t i (b + 1) l W F Y := by
 have hmem : t.stp (l.getD i 0) b ∈ l := (h.seen _ hs).1 (by cases h' : F.getD (t.stp (l.getD i 0) b) none <;> simp_all);refine { h with bound := fun hi s hs => ?_, cur := fun x hx => ?_ }
 ·have := h.bound hi s hs; omega
 ·by_cases e : x = b
  ·subst e;exact ⟨hmem, by have := h.bound hi _ hmem; omega⟩
  ·exact h.cur x (by omega)
theorem Ae4 (hv : TVal t) (h : FB t i b l W F Y) (hi : i < l.length) (hb : b < 256) (hm : F.getD (t.stp (l.getD i 0) b) none = none) :
  FB t i (b + 1) (l ++ [t.stp (l.getD i 0) b]) (fun s => if s = t.stp (l.getD i 0) b then W (l.getD i 0) ++ [UInt8.ofNat b] else W s) (F.set (t.stp (l.getD i 0) b) (some (l.getD i 0))) (Y.set (t.stp (l.getD i 0) b) (UInt8.ofNat b)) := by
 have hli := Cz l i 0 hi;have hto : t.stp (l.getD i 0) b < t.nxt.length := hv.stp_lt (h.lt _ hli) hb;have hno : t.stp (l.getD i 0) b ∉ l := fun hc => by
  have := (h.seen _ hto).2 hc;rw [hm] at this;cases this
 have hrun : t.run 0 (W (l.getD i 0) ++ [UInt8.ofNat b]) = t.stp (l.getD i 0) b := by rw [Eu, h.run _ hli, u8n b hb]
 have hrk : rk (W (l.getD i 0) ++ [UInt8.ofNat b]) = 256 * rk (W (l.getD i 0)) + b + 1 := by rw [Mh, u8n b hb]
 have hbound := h.bound hi;have hcur := h.cur;have hseen := h.seen;have hfrom := h.from_;generalize hs : l.getD i 0 = s at *;generalize htx : t.stp s b = x at *;have wold : ∀ q, q ∈ l → (if q = x then W s ++ [UInt8.ofNat b] else W q) = W q := fun q hq => if_neg (fun e : q = x => hno (e ▸ hq))
 have hx0 : x ≠ 0 := fun e => hno (by
  have := Cz l 0 0 h.pos;rw [h.head] at this;rw [e]; exact this)
 have gold : ∀ j, j < l.length → (l ++ [x]).getD j 0 = l.getD j 0 := fun j hj => Bi _ _ _ _ hj
 have hl : (l ++ [x]).length = l.length + 1 := by simp
 refine ⟨by omega, by rw [gold 0 h.pos]; exact h.head, ?_, fun q hq => ?_, fun q hq => ?_, ?_, fun j k hjk hk => ?_, fun _ q hq => ?_, fun j hj y hy => ?_, fun y hy => ?_, fun j hj => ?_, by rw [List.length_set]; exact h.lenF, by rw [List.length_set]; exact h.lenY, fun q hq => ?_, fun q p hp hq => ?_⟩
 ·rw [List.nodup_append];exact ⟨h.nodup, by simp, fun a ha b hb => by rw [List.mem_singleton] at hb; subst hb; rintro rfl; exact hno ha⟩
 ·rw [List.mem_append, List.mem_singleton] at hq;rcases hq with hq | rfl
  ·exact h.lt q hq
  ·exact hto
 ·rw [List.mem_append, List.mem_singleton] at hq;rcases hq with hq | rfl
  ·show t.run 0 (if q = x then _ else _) = q;rw [wold q hq]; exact h.run q hq
  ·show t.run 0 (if q = q then _ else _) = q;rw [if_pos rfl]; exact hrun
 ·show (if 0 = x then _ else _) = _;rw [if_neg (Ne.symm hx0)]; exact h.w0
 ·rw [hl] at hk;have hjl : j < l.length := by omega
  show rk (if (l ++ [x]).getD j 0 = x then _ else _) < rk (if (l ++ [x]).getD k 0 = x then _ else _);rw [gold j hjl, wold _ (Cz l j 0 hjl)];by_cases e : k = l.length
  ·rw [e, B8, if_pos rfl, hrk];have := hbound _ (Cz l j 0 hjl);omega
  ·rw [gold k (by omega), wold _ (Cz l k 0 (by omega))];exact h.inc j k hjk (by omega)
 ·show rk (if q = x then _ else _) ≤ 256 * rk (if (l ++ [x]).getD i 0 = x then _ else _) + (b + 1);rw [gold i hi, hs, wold s hli];rw [List.mem_append, List.mem_singleton] at hq;rcases hq with hq | rfl
  ·rw [wold q hq]; have := hbound q hq; omega
  ·rw [if_pos rfl, hrk]; omega
 ·have hjl : j < l.length := by omega
  rw [gold j hjl];obtain ⟨h1, h2⟩ := h.done j hj y hy;show _ ∧ rk (if t.stp (l.getD j 0) y = x then _ else _) ≤ 256 * rk (if l.getD j 0 = x then _ else _) + y + 1;rw [wold _ h1, wold _ (Cz l j 0 hjl)];exact ⟨List.mem_append_left _ h1, h2⟩
 ·rw [gold i hi, hs];show _ ∧ rk (if t.stp s y = x then _ else _) ≤ 256 * rk (if s = x then _ else _) + y + 1;rw [wold s hli];by_cases e : y = b
  ·subst e;rw [htx, if_pos rfl, hrk];exact ⟨by simp, Nat.le_refl _⟩
  ·obtain ⟨h1, h2⟩ := hcur y (by omega);rw [wold _ h1];exact ⟨List.mem_append_left _ h1, h2⟩
 ·rw [gold j (by omega)]; exact h.no j hj
 ·rw [Bb _ _ _ _ _ (by rw [h.lenF]; exact hto), List.mem_append, List.mem_singleton];by_cases e : q = x
  ·rw [if_pos e]; simp [e]
  ·rw [if_neg e, hseen q hq]; simp [e]
 ·rw [Bb _ _ _ _ _ (by rw [h.lenF]; exact hto)] at hp;rw [Bb _ _ _ _ _ (by rw [h.lenY]; exact hto)];by_cases e : q = x
  ·rw [if_pos e] at hp ⊢;cases hp
   refine ⟨List.mem_append_left _ hli, ?_⟩;rw [wold s hli, if_pos e]
  ·rw [if_neg e] at hp ⊢;obtain ⟨h1, h2⟩ := hfrom q p hp hq;refine ⟨List.mem_append_left _ h1, ?_⟩;rw [wold p h1, if_neg e]; exact h2
theorem Ae3 (h : FB t i 256 l W F Y) (hi : i < l.length) (hok : t.ok (l.getD i 0) = false) : FB t (i + 1) 0 l W F Y :=
 { h with
  bound := fun hi' s hs => by
   have h1 := h.bound hi s hs;have h2 := h.inc i (i + 1) (by omega) hi';omega
  done := fun j hj x hx => by
   by_cases e : j = i
   ·subst e; exact h.cur x hx
   ·exact h.done j (by omega) x hx
  cur := fun x hx => by omega
  no := fun j hj => by
   by_cases e : j = i
   ·subst e; exact hok
   ·exact h.no j (by omega) }
theorem FB.len_le (h : FB t i b l W F Y) : l.length ≤ t.nxt.length := by
 have := Cx l (List.range t.nxt.length) h.nodup fun s hs => List.mem_range.2 (h.lt s hs)
 simpa using this
theorem Tx (h : FB t i b l W F Y) (u : List UInt8) : (∃ j, j < i ∧ j < l.length ∧ t.run 0 u = l.getD j 0 ∧ rk (W (l.getD j 0)) ≤ rk u) ∨ (i < l.length ∧ rk (W (l.getD i 0)) ≤ rk u) ∨ (i < l.length ∧ False) := by
 have key : ∀ k s, s ∈ l → rk (W s) ≤ k → (∃ j, j < i ∧ j < l.length ∧ s = l.getD j 0 ∧ rk (W (l.getD j 0)) ≤ k) ∨ (i < l.length ∧ rk (W (l.getD i 0)) ≤ k) := fun k s hs hk => by
  obtain ⟨j, hj, rfl⟩ := F0 hs;rcases Nat.lt_trichotomy j i with hji | rfl | hji
  ·exact .inl ⟨j, hji, hj, rfl, hk⟩
  ·exact .inr ⟨hj, hk⟩
  ·have := h.inc i j hji hj;exact .inr ⟨by omega, by omega⟩
 have : (∃ j, j < i ∧ j < l.length ∧ t.run 0 u = l.getD j 0 ∧ rk (W (l.getD j 0)) ≤ rk u) ∨ (i < l.length ∧ rk (W (l.getD i 0)) ≤ rk u) := by
  induction u using D7 with
  | h0 =>
   refine key _ 0 ?_ (by rw [h.w0]; exact Nat.le_refl _);have := Cz l 0 0 h.pos
   rwa [h.head] at this
  | h1 u x ih =>
   rw [Eu, Mh];rcases ih with ⟨j, hj, hjl, e, hle⟩ | ⟨hi, hle⟩
   ·obtain ⟨h1, h2⟩ := h.done j hj x.toNat x.toNat_lt;rw [e];exact key _ _ h1 (by omega)
   ·exact .inr ⟨hi, by omega⟩
 rcases this with h1 | h1
 ·exact .inl h1
 ·exact .inr (.inl h1)
theorem Ae2 (h : FB t i b l W F Y) (hi : l.length ≤ i) (u : List UInt8) : t.has u = false := by
 rcases Tx h u with ⟨j, hj, hjl, e, _⟩ | ⟨h1, _⟩ | ⟨_, h1⟩
 ·show t.ok (t.run 0 u) = false;rw [e]; exact h.no j hj
 ·omega
 ·exact h1.elim
theorem Ae0 (h : FB t i b l W F Y) (hi : i < l.length) (hok : t.ok (l.getD i 0) = true) : t.has (W (l.getD i 0)) = true ∧ ∀ u, t.has u = true → rk (W (l.getD i 0)) ≤ rk u := by
 refine ⟨?_, fun u hu => ?_⟩
 ·show t.ok (t.run 0 _) = true;rw [h.run _ (Cz l i 0 hi)]; exact hok
 ·rcases Tx h u with ⟨j, hj, hjl, e, _⟩ | ⟨_, h1⟩ | ⟨_, h1⟩
  ·have : t.ok (t.run 0 u) = true := hu;rw [e, h.no j hj] at this;cases this
  ·exact h1
  ·exact h1.elim
end
end Go.Proofs.YtaiogolidlamiaaGreatDoor
