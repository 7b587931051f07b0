import Derived.Test.YtaiogolidlamiaaGreatDoorM20
import Derived.Test.YtaiogolidlamiaaGreatDoorM11
import Derived.Deep.MidRow
set_option linter.unusedVariables false
set_option linter.unusedSimpArgs false
namespace Go.Proofs.YtaiogolidlamiaaGreatDoor
set_option maxRecDepth 100000
open Go.RowKit Go.Shelf
theorem Dn {P : Program} {ops : Array Oper} {rest : List Oper} {o : Oper} {a : Act} {w : World} {Q : Exit → Act → World → Prop} (hw : Region.wanted o (yielded ops a.tmps) = true) (h : o.wp P a w (wpList P ops Q rest) Q) : wpList P ops Q (o :: rest) a w := by
 show if _ then _ else _
 rw [if_pos hw];exact .inl h
theorem ResOf.form {W : World} {e : Ending} {r : Option Dfa} (h : ResOf W e r) : ∃ ac lc cc an ln cn aa la ca k, e = .returned (.tuple #[.agg (dA (.slice ac lc cc) (.slice an ln cn) (.slice aa la ca)), .int .i64 k]) := by
 cases r with
 | none => exact ⟨none, 0, 0, none, 0, 0, none, 0, 0, 2, h⟩
 | some d =>
  obtain ⟨v, he, hD⟩ := h;obtain ⟨ac, lc, cc, an, cn, aa, la, ca, rfl⟩ := hD.agg;exact ⟨_, _, _, _, _, _, _, _, _, _, he⟩
theorem ResOf.ext {W W' : World} {e : Ending} {r : Option Dfa} (h : ResOf W e r) (hE : Ext W W') : ResOf W' e r := by
 cases r with
 | none => exact h
 | some d =>
  obtain ⟨v, he, hD⟩ := h;exact ⟨v, he, hD.ext hE⟩
theorem ResOf.setRow {W : World} {e : Ending} {r : Option Dfa} (h : ResOf W e r) (hv : ∀ d, r = some d → Val d) {g : Nat} {t : TypeId} {fr : Nat × Nat} (hg : W.heap[g]? = some (.cells #[.slice none 0 0, .slice none 0 0, .slice none 0 0] t fr)) (cs : Array Value) : ResOf (W.setRow g cs) e r := by
 cases r with
 | none => exact h
 | some d =>
  obtain ⟨v, he, hD⟩ := h;exact ⟨v, he, hD.setRow (hv d rfl) hg cs⟩
theorem F2 {L : List UInt8 → Prop} {r : Option Dfa} (h : Lim L r) (d : Dfa) (hd : r = some d) : Val d := by
 subst hd;exact h.1.val
set_option maxHeartbeats 1000000 in
theorem Ug (a b : Dfa) (ha : Val a) (hb : Val b) (hna : a.nxt.length ≤ 64) (hnb : b.nxt.length ≤ 64) (gh : Nat) (g : Bool → Bool → Bool) (hg : Jd gh g) (eh : ∀ args w, (callFunc gh args).run Tryz.prog w = .ok (.enter gh args) w) (va vb : Value) (w : World) (hT : Tab w) (hsz : 0 < w.heap.size) (hva : IsD w va a) (hvb : IsD w vb b) :
  Calls Tryz.prog 78 #[va, vb, .func (.func gh) #[] #[]] w fun e w' => ∃ r, ResOf w' e r ∧ Lim (fun u => g (a.has u) (b.has u) = true) r ∧ Ext w w' := by
 have HDa := Lib.hid hva;have HDb := Lib.hid hvb;obtain ⟨ac, lc, cc, an, cn, aa, la, ca, rfl⟩ := hva.agg;obtain ⟨ac', lc', cc', an', cn', aa', la', ca', rfl⟩ := hvb.agg;have f47a := fun W (hW : Ext w W) => Lib.hid (Dp a ha hna _ W (HDa.out.ext hW))
 have f47b := fun W (hW : Ext w W) => Lib.hid (Dp b hb hnb _ W (HDb.out.ext hW))
 have f85 := fun W (hW : Ext w W) => Lib.hid (Z2 a b ha hb hna hnb gh g hg eh _ _ W (hT.below hW.below hsz) (Nat.lt_of_lt_of_le hsz hW.size) (HDa.out.ext hW) (HDb.out.ext hW))
 obtain ⟨Va, hVa⟩ : ∃ X, dA (.slice ac lc cc) (.slice an a.nxt.length cn) (.slice aa la ca) = X := ⟨_, rfl⟩;obtain ⟨Vb, hVb⟩ : ∃ X, dA (.slice ac' lc' cc') (.slice an' b.nxt.length cn') (.slice aa' la' ca') = X := ⟨_, rfl⟩;have hiVa : (Tryz.prog.info? 30).map (·.size) = some Va.size := by rw [← hVa]; exact Ad
 have hiVb : (Tryz.prog.info? 30).map (·.size) = some Vb.size := by rw [← hVb]; exact Ad
 rw [hVa] at f47a f85 HDa;rw [hVb] at f47b f85 HDb;rw [hVa, hVb];have hE0 := (((Ext.refl w).alloc (.cells Va 30)).alloc (.cells Vb 30)).alloc (.cells #[.slice none 0 0, .slice none 0 0, .slice none 0 0] 30);have H3 := Af (Af (Ab w (.cells Va 30)) (.cells Vb 30)) (.cells #[.slice none 0 0, .slice none 0 0, .slice none 0 0] 30);have H4 := Af (heap_alloc2_new w (.cells Va 30) (.cells Vb 30)) (.cells #[.slice none 0 0, .slice none 0 0, .slice none 0 0] 30);have H6 := Ab ((w.alloc (.cells Va 30)).alloc (.cells Vb 30)) (.cells #[.slice none 0 0, .slice none 0 0, .slice none 0 0] 30);rw [World.size_alloc, World.size_alloc] at H6;clear hva hvb ha hb hg hT hVa hVb;go_enter Tryz.func78, Tryz.ntmps78;go_upto_region 1 with (fail)
 obtain ⟨w1, hw1⟩ : ∃ W, ((w.alloc (.cells Va 30)).alloc (.cells Vb 30)).alloc (.cells #[.slice none 0 0, .slice none 0 0, .slice none 0 0] 30) = W := ⟨_, rfl⟩;have hs1 : w.heap.size + 1 + 1 < w1.heap.size := by rw [← hw1, World.size_alloc, World.size_alloc, World.size_alloc]; omega
 rw [hw1] at hE0 H3 H4 H6;simp only [hw1];clear hw1;have HB3 := Lib.hid H3;have HB4 := Lib.hid H4;have HB6 := Lib.hid H6;clear H3 H4 H6;go_upto_region 3 with (first
  | (refine wpList_load_row rfl 30 (.tmp 3) rfl _ rfl _ _ _ _ HB3.out Tryz.underlying30 rfl hiVa ?_)
  | (refine Dn rfl (wp_load_row 30 (.tmp 4) rfl _ rfl _ _ _ _ HB4.out Tryz.underlying30 rfl hiVb ?_))
  | (go_at_call 47; (with_reducible refine (f47a _ hE0).out.mono ?_); rintro e w2 ⟨rfl, hE2⟩; have hE3 := hE0.trans hE2; have HB4 := Lib.hid (hE2.heap HB4.out))
  | (go_at_call 47; (with_reducible refine (f47b _ hE3).out.mono ?_); rintro e w3 ⟨rfl, hE4⟩; have hE5 := hE3.trans hE4))
 have HB3 := Lib.hid ((hE2.trans hE4).heap HB3.out);have HB4 := Lib.hid (hE4.heap HB4.out);have HB6 := Lib.hid ((hE2.trans hE4).heap HB6.out);have HE5 := Lib.hid hE5;have hs5 := hE5.size;clear f47a f47b hE0 hE2 hE3 hE4;go_wp2_with (first
  | (refine wpList_load_row rfl 30 (.tmp 3) rfl _ rfl _ _ _ _ HB3.out Tryz.underlying30 rfl hiVa ?_)
  | (refine wpList_load_row rfl 30 (.tmp 4) rfl _ rfl _ _ _ _ HB4.out Tryz.underlying30 rfl hiVb ?_)
  | (go_at_call 85; (with_reducible refine (f85 _ HE5.out).out.mono ?_); rintro e w4 ⟨A, t, rfl, hIT, htv, htn, hhas, hE6⟩; have hL := Lib.hid (Nk t htv (show t.nxt.length ≤ 65536 by omega) A w4 hIT); have HH := Lib.hid hhas; clear hhas)
  | (go_at_call 77; (with_reducible refine hL.out.mono ?_); rintro e w5 ⟨r, hres, hlim, hE7⟩; obtain ⟨ac1, lc1, cc1, an1, ln1, cn1, aa1, la1, ca1, k1, rfl⟩ := hres.form; have HRes := Lib.hid hres; have HLim := Lib.hid hlim; clear hres hlim; have HB6 := Lib.hid ((hE6.trans hE7).heap HB6.out))
  | (refine wpList_store_row rfl 30 (.tmp 6) (.tmp 22) rfl _ _ rfl rfl _ _ HB6.out Ad rfl (Ak _ _ _ rfl rfl rfl) ?_))
 refine bodyPost_ret (v := .tuple #[.agg (dA (.slice ac1 lc1 cc1) (.slice an1 ln1 cn1) (.slice aa1 la1 ca1)), .int .i64 k1]) (Az rfl _ _ _ _ _ _ _ rfl _ rfl (setRow_heap w5 _ _ (dA (.slice ac1 lc1 cc1) (.slice an1 ln1 cn1) (.slice aa1 la1 ca1)) 30 (0, 0) HB6.out) Tryz.underlying30 rfl Ad) rfl ?_;exact ⟨r, HRes.out.setRow (F2 HLim.out) HB6.out _, Gu HLim.out (fun u => by rw [HH.out]), ((HE5.out.trans hE6).trans hE7).setRow (by omega) _⟩
set_option maxHeartbeats 1000000 in
theorem M6 (a b : Dfa) (ha : Val a) (hb : Val b) (hna : a.nxt.length ≤ 64) (hnb : b.nxt.length ≤ 64) (va vb : Value) (w : World) (hT : Tab w) (hsz : 0 < w.heap.size) (hva : IsD w va a) (hvb : IsD w vb b) :
  Calls Tryz.prog 33 #[va, vb] w fun e w' => ∃ r, ResOf w' e r ∧ Lim (fun u => a.has u = true ∨ b.has u = true) r ∧ Ext w w' := by
 have HDa := Lib.hid hva;have HDb := Lib.hid hvb;obtain ⟨ac, lc, cc, an, cn, aa, la, ca, rfl⟩ := hva.agg;obtain ⟨ac', lc', cc', an', cn', aa', la', ca', rfl⟩ := hvb.agg;have f78 := fun W (hW : Ext w W) => Lib.hid (Ug a b ha hb hna hnb 79 (fun x y => x || y) Aay (enters_of Tryz.func79 (by kernel_rfl) rfl) _ _ W (hT.below hW.below hsz) (Nat.lt_of_lt_of_le hsz hW.size) (HDa.out.ext hW) (HDb.out.ext hW))
 obtain ⟨Va, hVa⟩ : ∃ X, dA (.slice ac lc cc) (.slice an a.nxt.length cn) (.slice aa la ca) = X := ⟨_, rfl⟩;obtain ⟨Vb, hVb⟩ : ∃ X, dA (.slice ac' lc' cc') (.slice an' b.nxt.length cn') (.slice aa' la' ca') = X := ⟨_, rfl⟩;have hiVa : (Tryz.prog.info? 30).map (·.size) = some Va.size := by rw [← hVa]; exact Ad
 have hiVb : (Tryz.prog.info? 30).map (·.size) = some Vb.size := by rw [← hVb]; exact Ad
 rw [hVa] at f78 HDa;rw [hVb] at f78 HDb;rw [hVa, hVb];have hE0 := (((Ext.refl w).alloc (.cells Va 30)).alloc (.cells Vb 30)).alloc (.cells #[.slice none 0 0, .slice none 0 0, .slice none 0 0] 30);have H3 := Af (Af (Ab w (.cells Va 30)) (.cells Vb 30)) (.cells #[.slice none 0 0, .slice none 0 0, .slice none 0 0] 30);have H4 := Af (heap_alloc2_new w (.cells Va 30) (.cells Vb 30)) (.cells #[.slice none 0 0, .slice none 0 0, .slice none 0 0] 30);have H6 := Ab ((w.alloc (.cells Va 30)).alloc (.cells Vb 30)) (.cells #[.slice none 0 0, .slice none 0 0, .slice none 0 0] 30);rw [World.size_alloc, World.size_alloc] at H6;clear hva hvb ha hb hT hVa hVb;go_enter Tryz.func33, Tryz.ntmps33;go_upto_region 1 with (fail)
 obtain ⟨w1, hw1⟩ : ∃ W, ((w.alloc (.cells Va 30)).alloc (.cells Vb 30)).alloc (.cells #[.slice none 0 0, .slice none 0 0, .slice none 0 0] 30) = W := ⟨_, rfl⟩;rw [hw1] at hE0 H3 H4 H6;simp only [hw1];clear hw1;have HB3 := Lib.hid H3;have HB4 := Lib.hid H4;have HB6 := Lib.hid H6;have HE0 := Lib.hid hE0;clear H3 H4 H6 hE0;go_wp2_with (first
  | (refine wpList_load_row rfl 30 (.tmp 2) rfl _ rfl _ _ _ _ HB3.out Tryz.underlying30 rfl hiVa ?_)
  | (refine wpList_load_row rfl 30 (.tmp 3) rfl _ rfl _ _ _ _ HB4.out Tryz.underlying30 rfl hiVb ?_)
  | (go_at_call 78; (with_reducible refine (f78 _ HE0.out).out.mono ?_); rintro e w5 ⟨r, hres, hlim, hE7⟩; obtain ⟨ac1, lc1, cc1, an1, ln1, cn1, aa1, la1, ca1, k1, rfl⟩ := hres.form; have HRes := Lib.hid hres; have HLim := Lib.hid hlim; clear hres hlim; have HB6 := Lib.hid (hE7.heap HB6.out))
  | (refine wpList_store_row rfl 30 (.tmp 4) (.tmp 9) rfl _ _ rfl rfl _ _ HB6.out Ad rfl (Ak _ _ _ rfl rfl rfl) ?_))
 refine bodyPost_ret (v := .tuple #[.agg (dA (.slice ac1 lc1 cc1) (.slice an1 ln1 cn1) (.slice aa1 la1 ca1)), .int .i64 k1]) (Az rfl _ _ _ _ _ _ _ rfl _ rfl (setRow_heap w5 _ _ (dA (.slice ac1 lc1 cc1) (.slice an1 ln1 cn1) (.slice aa1 la1 ca1)) 30 (0, 0) HB6.out) Tryz.underlying30 rfl Ad) rfl ?_;exact ⟨r, HRes.out.setRow (F2 HLim.out) HB6.out _, Gu HLim.out (fun u => by simp), (HE0.out.trans hE7).setRow (by omega) _⟩
set_option maxHeartbeats 1000000 in
theorem Ahf (a b : Dfa) (ha : Val a) (hb : Val b) (hna : a.nxt.length ≤ 64) (hnb : b.nxt.length ≤ 64) (va vb : Value) (w : World) (hT : Tab w) (hsz : 0 < w.heap.size) (hva : IsD w va a) (hvb : IsD w vb b) :
  Calls Tryz.prog 34 #[va, vb] w fun e w' => ∃ r, ResOf w' e r ∧ Lim (fun u => a.has u = true ∧ b.has u = true) r ∧ Ext w w' := by
 have HDa := Lib.hid hva;have HDb := Lib.hid hvb;obtain ⟨ac, lc, cc, an, cn, aa, la, ca, rfl⟩ := hva.agg;obtain ⟨ac', lc', cc', an', cn', aa', la', ca', rfl⟩ := hvb.agg;have f78 := fun W (hW : Ext w W) => Lib.hid (Ug a b ha hb hna hnb 80 (fun x y => x && y) Ahd (enters_of Tryz.func80 (by kernel_rfl) rfl) _ _ W (hT.below hW.below hsz) (Nat.lt_of_lt_of_le hsz hW.size) (HDa.out.ext hW) (HDb.out.ext hW))
 obtain ⟨Va, hVa⟩ : ∃ X, dA (.slice ac lc cc) (.slice an a.nxt.length cn) (.slice aa la ca) = X := ⟨_, rfl⟩;obtain ⟨Vb, hVb⟩ : ∃ X, dA (.slice ac' lc' cc') (.slice an' b.nxt.length cn') (.slice aa' la' ca') = X := ⟨_, rfl⟩;have hiVa : (Tryz.prog.info? 30).map (·.size) = some Va.size := by rw [← hVa]; exact Ad
 have hiVb : (Tryz.prog.info? 30).map (·.size) = some Vb.size := by rw [← hVb]; exact Ad
 rw [hVa] at f78 HDa;rw [hVb] at f78 HDb;rw [hVa, hVb];have hE0 := (((Ext.refl w).alloc (.cells Va 30)).alloc (.cells Vb 30)).alloc (.cells #[.slice none 0 0, .slice none 0 0, .slice none 0 0] 30);have H3 := Af (Af (Ab w (.cells Va 30)) (.cells Vb 30)) (.cells #[.slice none 0 0, .slice none 0 0, .slice none 0 0] 30);have H4 := Af (heap_alloc2_new w (.cells Va 30) (.cells Vb 30)) (.cells #[.slice none 0 0, .slice none 0 0, .slice none 0 0] 30);have H6 := Ab ((w.alloc (.cells Va 30)).alloc (.cells Vb 30)) (.cells #[.slice none 0 0, .slice none 0 0, .slice none 0 0] 30);rw [World.size_alloc, World.size_alloc] at H6;clear hva hvb ha hb hT hVa hVb;go_enter Tryz.func34, Tryz.ntmps34;go_upto_region 1 with (fail)
 obtain ⟨w1, hw1⟩ : ∃ W, ((w.alloc (.cells Va 30)).alloc (.cells Vb 30)).alloc (.cells #[.slice none 0 0, .slice none 0 0, .slice none 0 0] 30) = W := ⟨_, rfl⟩;rw [hw1] at hE0 H3 H4 H6;simp only [hw1];clear hw1;have HB3 := Lib.hid H3;have HB4 := Lib.hid H4;have HB6 := Lib.hid H6;have HE0 := Lib.hid hE0;clear H3 H4 H6 hE0;go_wp2_with (first
  | (refine wpList_load_row rfl 30 (.tmp 2) rfl _ rfl _ _ _ _ HB3.out Tryz.underlying30 rfl hiVa ?_)
  | (refine wpList_load_row rfl 30 (.tmp 3) rfl _ rfl _ _ _ _ HB4.out Tryz.underlying30 rfl hiVb ?_)
  | (go_at_call 78; (with_reducible refine (f78 _ HE0.out).out.mono ?_); rintro e w5 ⟨r, hres, hlim, hE7⟩; obtain ⟨ac1, lc1, cc1, an1, ln1, cn1, aa1, la1, ca1, k1, rfl⟩ := hres.form; have HRes := Lib.hid hres; have HLim := Lib.hid hlim; clear hres hlim; have HB6 := Lib.hid (hE7.heap HB6.out))
  | (refine wpList_store_row rfl 30 (.tmp 4) (.tmp 9) rfl _ _ rfl rfl _ _ HB6.out Ad rfl (Ak _ _ _ rfl rfl rfl) ?_))
 refine bodyPost_ret (v := .tuple #[.agg (dA (.slice ac1 lc1 cc1) (.slice an1 ln1 cn1) (.slice aa1 la1 ca1)), .int .i64 k1]) (Az rfl _ _ _ _ _ _ _ rfl _ rfl (setRow_heap w5 _ _ (dA (.slice ac1 lc1 cc1) (.slice an1 ln1 cn1) (.slice aa1 la1 ca1)) 30 (0, 0) HB6.out) Tryz.underlying30 rfl Ad) rfl ?_;exact ⟨r, HRes.out.setRow (F2 HLim.out) HB6.out _, Gu HLim.out (fun u => by simp), (HE0.out.trans hE7).setRow (by omega) _⟩
theorem Vl (S q : Nat) (hS : S < 18446744073709551616) : (bits BinOp.and IntKind.u64 ((S : Int) / 2 ^ q) 1 == 1) = S.testBit q := by
 have e3 : ((S : Nat) : Int) / 2 ^ q = ((S / 2 ^ q : Nat) : Int) := by rw [Int.natCast_ediv]; simp
 have hlt : S / 2 ^ q < 18446744073709551616 := Nat.lt_of_le_of_lt (Nat.div_le_self _ _) hS;rw [e3, show (1 : Int) = ((1 : Nat) : Int) from rfl, u64_and_nat _ _ hlt (by omega), Nat.testBit_eq_decide_div_mod_eq, Nat.and_one_is_mod];generalize S / 2 ^ q = m;rw [Bool.eq_iff_iff]; simp; omega
theorem Yb (t : Tbl) (S : Nat) (h : ∀ q, q < t.nxt.length → (t.ok q && S.testBit q) = false) : Ca t S = false := by
 rw [← Bool.not_eq_true, Hr];rintro ⟨q, hq, h1, h2⟩;have := h q hq;rw [h1, h2] at this;cases this
theorem Yc (t : Tbl) (S q : Nat) (hq : q < t.nxt.length) (h : (t.ok q && S.testBit q) = true) : Ca t S = true := by
 rw [Bool.and_eq_true] at h;exact (Hr t S).2 ⟨q, hq, h.1, h.2⟩
set_option maxHeartbeats 2000000 in
theorem L6 (t : Tbl) (hv : TVal t) (hn : t.nxt.length ≤ 64) (A : Array Value) (S : Nat) (hS : S < 18446744073709551616) (w : World) (h : IsT w A t) :
  Calls Tryz.prog 76 #[.agg A, .agg #[.int .u64 (S : Int)]] w fun e w' => e = .returned (.bool (Ca t S)) ∧ Ext w w' := by
 obtain ⟨bn, on, cn, ba, oa, ca, hAs, hAo, _, _, _, hA8, _, hacc⟩ := h.opened hv;have hn0 := hv.pos;have HAcc := Lib.hid hacc;have hE0 := ((Ext.refl w).alloc (.cells A 108)).alloc (.cells #[.int .u64 (S : Int)] 114);have H0 := Af (Ab w (.cells A 108)) (.cells #[.int .u64 (S : Int)] 114);have H1 := heap_alloc2_new w (.cells A 108) (.cells #[.int .u64 (S : Int)] 114);clear hacc hv h;go_enter Tryz.func76, Tryz.ntmps76;go_upto_region 1 with (fail)
 generalize (w.alloc (.cells A 108)).alloc (.cells #[.int .u64 (S : Int)] 114) = w1 at *;have k8 := (cell_of_row w1 w.heap.size 258 _ _ _ H0).trans hA8;have HK := Lib.hid (fun (W : World) (hW : Ext w1 W) => (cell_of_row W (w.heap.size + 1) 0 _ _ _ (hW.heap H1)).trans rfl);clear H0 H1 hA8 hAo hAs;go_wp2_with (fail);clear k8;go_loopw [10] (fun i W => ∃ k : Nat, k ≤ t.nxt.length ∧ i = .int .i64 k ∧ Ext w1 W ∧ Hid (∀ q, q < k → (t.ok q && S.testBit q) = false)) (fun i _ => t.nxt.length - (intOf i).toNat)
 case atStart => exact ⟨0, by omega, rfl, Ext.refl w1, Lib.hid (fun q hq => by omega)⟩
 case round =>
  obtain ⟨k, hk, rfl, hE, hall⟩ := hrel;by_cases hlt : k < t.nxt.length
  ·have ca := (hE0.trans hE).cell (HAcc.out k hlt);have cs := HK.out wr hE;have hb := Vl S k hS;have HH := Lib.hid (Yc t S k hlt);have hall' : Hid ((t.ok k && S.testBit k) = false → ∀ q, q < k + 1 → (t.ok q && S.testBit q) = false) := Lib.hid fun h0 q hq => by
    by_cases e : q = k
    ·subst e; exact h0
    ·exact hall.out q (by omega)
   generalize t.ok k = b1 at *;generalize S.testBit k = b2 at *;cases b1
   ·go_wp2;go_roundw
    case rel => exact ⟨k + 1, by omega, by go_num, hE, Lib.hid (hall'.out rfl)⟩
    case measure => simp [intOf]; omega
   ·cases b2
    ·go_wp2;go_roundw
     case rel => exact ⟨k + 1, by omega, by go_num, hE, Lib.hid (hall'.out rfl)⟩
     case measure => simp [intOf]; omega
    ·have HF := Lib.hid (HH.out rfl);go_wp2;go_ret;exact ⟨Gn HF.out.symm, hE0.trans hE⟩
  ·obtain rfl : k = t.nxt.length := by omega
   have HF := Lib.hid (Yb t S hall.out);go_wp2;go_ret;exact ⟨Gn HF.out.symm, hE0.trans hE⟩
theorem Gh {t : Tbl} (hv : TVal t) (hn : t.nxt.length ≤ 64) (S c : Nat) (hc : c < 256) : ∀ n, n ≤ t.nxt.length → Aq t S c n < 18446744073709551616
 | 0, _ => by simp [Aq]
 | n + 1, h => by
  have ih := Gh hv hn S c hc n (by omega);simp only [Aq];split
  ·have h1 := hv.stp_lt (s := n) (by omega) hc;have h2 : 2 ^ t.stp n c < 2 ^ 64 := Nat.pow_lt_pow_right (by omega) (by omega);have := Nat.or_lt_two_pow (x := Aq t S c n) (y := 2 ^ t.stp n c) (n := 64) ih h2;exact this
  ·exact ih
theorem Rt (x : Int) : (#[Value.int .u64 x]).all (·.oneCell') = true := by simp [Value.oneCell']
theorem Aa0 (x r : Nat) (hx : x < 18446744073709551616) (hr : r < 64) : bits BinOp.or IntKind.u64 (x : Int) (IntKind.u64.wrap (2 ^ r)) = ((x ||| 2 ^ r : Nat) : Int) := by
 rw [Lp r hr, u64_or_nat _ _ hx (J2 r hr)]
set_option maxHeartbeats 2000000 in
theorem Py (t : Tbl) (hv : TVal t) (hn : t.nxt.length ≤ 64) (A : Array Value) (S : Nat) (hS : S < 18446744073709551616) (c : Nat) (hc : c < 256) (w : World) (h : IsT w A t) :
  Calls Tryz.prog 73 #[.agg A, .agg #[.int .u64 (S : Int)], .int .i64 (c : Int)] w fun e w' => e = .returned (.agg #[.int .u64 (Aq t S c t.nxt.length : Nat)]) ∧ Ext w w' := by
 obtain ⟨bn, on, cn, ba, oa, ca, hAs, hAo, hAc, _, hA7, _, hR, _⟩ := h.opened hv;have hn0 := hv.pos;have HR := Lib.hid hR;have HV := Lib.hid hv;have hE0 := ((((Ext.refl w).alloc (.cells A 108)).alloc (.cells #[.int .u64 (S : Int)] 114)).alloc (.cells #[.int .u64 0] 114)).alloc (.cells #[.int .u64 0] 114);have H0 := Af (Af (Af (Ab w (.cells A 108)) (.cells #[.int .u64 (S : Int)] 114)) (.cells #[.int .u64 0] 114)) (.cells #[.int .u64 0] 114);have H1 := Af (Af (heap_alloc2_new w (.cells A 108) (.cells #[.int .u64 (S : Int)] 114)) (.cells #[.int .u64 0] 114)) (.cells #[.int .u64 0] 114);have H2 := Af (Ab ((w.alloc (.cells A 108)).alloc (.cells #[.int .u64 (S : Int)] 114)) (.cells #[.int .u64 0] 114)) (.cells #[.int .u64 0] 114);have H3 := Ab (((w.alloc (.cells A 108)).alloc (.cells #[.int .u64 (S : Int)] 114)).alloc (.cells #[.int .u64 0] 114)) (.cells #[.int .u64 0] 114);rw [World.size_alloc, World.size_alloc] at H2;rw [World.size_alloc, World.size_alloc, World.size_alloc] at H3;clear hR hv h;go_enter Tryz.func73, Tryz.ntmps73;go_upto_region 2 with (fail)
 obtain ⟨w2, hw2⟩ : ∃ W, (((w.alloc (.cells A 108)).alloc (.cells #[.int .u64 (S : Int)] 114)).alloc (.cells #[.int .u64 0] 114)).alloc (.cells #[.int .u64 0] 114) = W := ⟨_, rfl⟩;simp only [hw2] at *;clear hw2;have HA7 := Lib.hid hA7;have HAC := Lib.hid hAc;have k7 := (cell_of_row w2 w.heap.size 257 _ _ _ H0).trans hA7;have HH0 := Lib.hid H0;have HH1 := Lib.hid H1;have HH2 := Lib.hid H2;have HH3 := Lib.hid H3;clear H0 H1 H2 H3 hA7 hAc hAo hAs;go_wp2_with (fail);clear k7;go_loopw [12] (fun i W => ∃ k : Nat, k ≤ t.nxt.length ∧ i = .int .i64 k ∧ Ext w W ∧ W.heap[w.heap.size]? = some (.cells A 108 (0, 0)) ∧ W.heap[w.heap.size + 1]? = some (.cells #[.int .u64 (S : Int)] 114 (0, 0)) ∧
   W.heap[w.heap.size + 1 + 1]? = some (.cells #[.int .u64 0] 114 (0, 0)) ∧ W.heap[w.heap.size + 1 + 1 + 1]? = some (.cells #[.int .u64 (Aq t S c k : Nat)] 114 (0, 0))) (fun i _ => t.nxt.length - (intOf i).toNat)
 case atStart => exact ⟨0, by omega, rfl, hE0, HH0.out, HH1.out, HH2.out, HH3.out⟩
 case round =>
  obtain ⟨k, hk, rfl, hE, hB0, hB1, hB2, hB3⟩ := hrel;have HB0 := Lib.hid hB0;have HB1 := Lib.hid hB1;have HB2 := Lib.hid hB2;have HB3 := Lib.hid hB3;clear hB0 hB1 hB2 hB3;by_cases hlt : k < t.nxt.length
  ·have cS := (cell_of_row wr (w.heap.size + 1) 0 _ _ _ HB1.out).trans (show (#[Value.int .u64 (S : Int)])[0]? = some (.int .u64 (S : Int)) from rfl);have hb := Vl S k hS;have HT : Hid (Aq t S c (k + 1) = if S.testBit k then Aq t S c k ||| 2 ^ t.stp k c else Aq t S c k) := Lib.hid rfl;have htl := Gh HV.out hn S c hc k (by omega);have hr64 : t.stp k c < 64 := by have := HV.out.stp_lt hlt hc; omega
   generalize S.testBit k = b at *;cases b
   ·have hT := HT.out;simp only [Bool.false_eq_true, if_false] at hT;have HT := Lib.hid hT;clear hT;go_wp2;go_roundw
    case rel => exact ⟨k + 1, by omega, by go_num, hE, HB0.out, HB1.out, HB2.out, by rw [HT.out]; exact HB3.out⟩
    case measure => simp [intOf]; omega
   ·have hT := HT.out;simp only [if_true] at hT;have HT := Lib.hid hT;have hcell := HV.out.cell_lt c hc;obtain ⟨br, or', cr, hrc, hrr⟩ := HR.out k hlt;have r1 := At (hE.cell hrc);have r2 := At (hE.cell (hrr _ hcell));have k7 := At ((cell_of_row wr w.heap.size 257 _ _ _ HB0.out).trans HA7.out);have kc := At ((cell_of_row wr w.heap.size c _ _ _ HB0.out).trans (HAC.out c hc));have ko := At ((cell_of_row wr (w.heap.size + 1 + 1 + 1) 0 _ _ _ HB3.out).trans (show (#[Value.int .u64 (Aq t S c k : Nat)])[0]? = some (.int .u64 (Aq t S c k : Nat)) from rfl));have hst : t.ent2 k (t.cell c) = t.stp k c := rfl;rw [hst] at r2;have HO := Lib.hid (Aa0 (Aq t S c k) (t.stp k c) htl hr64);clear hst hrc hrr htl hT;have hci : (c : Int) < 256 := by omega
    generalize Aq t S c k = x at *;generalize t.stp k c = r at *;generalize t.cell c = q at *;go_upto_region 6 with (fail)
    refine Zn 16 (by kernel_rfl) (by kernel_rfl) ?_;simp only [List.take_succ_cons, List.take_zero, List.drop_succ_cons, List.drop_zero];iterate 16 (with_reducible refine wpQuiet_step (fun K hK => ?_); go_simp; (refine hK _ ?_; clear hK K))
    refine wpQuiet_nil ?_;rintro _ ⟨e, rfl⟩;have HB0 := Lib.hid (e.ext.heap HB0.out);have HB1 := Lib.hid (e.ext.heap HB1.out);have HB2 := Lib.hid (e.ext.heap HB2.out);have HB3 := Lib.hid (e.ext.heap HB3.out);have hE' := hE.trans e.ext;have ko' := ko e;have fo := frozen_of_row e.W (w.heap.size + 1 + 1 + 1) 0 _ _ HB3.out;clear r1 r2 k7 kc ko cS;generalize e.W = w5 at *;go_wp2;go_roundw
    case rel =>
     rw [setCell_eq_setRow w5 _ _ _ _ _ _ HB3.out, HO.out];refine ⟨k + 1, by omega, by go_num, hE'.setRow (by omega) _, Br HB0.out (by omega) _, Br HB1.out (by omega) _, Br HB2.out (by omega) _, ?_⟩;rw [HT.out];exact setRow_heap w5 _ _ _ _ _ HB3.out
    case measure => simp [intOf]; omega
  ·obtain rfl : k = t.nxt.length := by omega
   have D2 : (Tryz.prog.info? 114).map (·.size) = some 1 := by kernel_rfl
   go_wp2_with (first
    | (refine wpList_load_row rfl 114 (.tmp 7) rfl _ rfl _ _ _ _ HB3.out Tryz.underlying114 rfl D2 ?_)
    | (refine wpList_store_row rfl 114 (.tmp 6) (.tmp 38) rfl _ _ rfl rfl _ _ HB2.out D2 rfl (Rt _) ?_))
   refine bodyPost_ret (v := .agg #[.int .u64 (Aq t S c t.nxt.length : Nat)]) (results_cell_row rfl _ _ _ _ _ _ _ rfl (setRow_heap wr _ _ #[.int .u64 (Aq t S c t.nxt.length : Nat)] 114 (0, 0) HB2.out) Tryz.underlying114 rfl D2) rfl ?_;exact ⟨rfl, hE.setRow (by omega) _⟩
theorem Vm {σ τ : Type} {nx : σ → Nat → σ} {ny : τ → Nat → τ} (φ : σ → τ) (h : ∀ s b, φ (nx s b) = ny (φ s) b) (w : List UInt8) : ∀ s, φ (Ar nx s w) = Ar ny (φ s) w := by
 induction w with
 | nil => exact fun s => rfl
 | cons x w ih =>
  intro s;show φ (Ar nx (nx s x.toNat) w) = Ar ny (ny (φ s) x.toNat) w;rw [ih, h]
theorem Sb {σ τ : Type} {nx : σ → Nat → σ} {st : σ} (φ : σ → τ) (hi : ∀ w w', φ (Ar nx st w) = φ (Ar nx st w') → Ar nx st w = Ar nx st w') (l : List σ) (hl : l.Nodup) (hr : ∀ s, s ∈ l → ∃ w, Ar nx st w = s) : (l.map φ).Nodup := by
 rw [List.nodup_iff_pairwise_ne, List.pairwise_map];refine List.Pairwise.imp_of_mem (fun {a b} ha hb hab e => hab ?_) (List.nodup_iff_pairwise_ne.1 hl);obtain ⟨w, rfl⟩ := hr a ha;obtain ⟨w', rfl⟩ := hr b hb;exact hi w w' e
theorem Expl.conv {σ τ : Type} {c : Nat → Nat} {bs : List Nat} {st : σ} {nx : σ → Nat → σ} {ac : σ → Bool} {l : List σ} {t : Tbl} (h : Expl c bs st nx ac l t) (φ : σ → τ) {ny : τ → Nat → τ} {ad : τ → Bool} (hn : ∀ s b, φ (nx s b) = ny (φ s) b) (ha : ∀ s, ac s = ad (φ s))
  (hi : ∀ w w', φ (Ar nx st w) = φ (Ar nx st w') → Ar nx st w = Ar nx st w') : Expl c bs (φ st) ny ad (l.map φ) t where
 cell := h.cell
 cells := h.cells
 len := by rw [List.length_map]; exact h.len
 acl := by rw [List.length_map]; exact h.acl
 pos := by rw [List.length_map]; exact h.pos
 nodup := Sb φ hi l h.nodup fun s hs => by
  obtain ⟨i, hi⟩ := List.getElem?_of_mem hs;exact h.reach i s hi
 zero := by rw [List.getElem?_map, h.zero]; rfl
 row := fun i hl => h.row i (by simpa using hl)
 tgt := fun i s hs k hk => by
  rw [List.getElem?_map] at hs;obtain ⟨x, hx, rfl⟩ := Option.map_eq_some_iff.1 hs;obtain ⟨h1, h2⟩ := h.tgt i x hx k hk;exact ⟨by simpa using h1, by rw [List.getElem?_map, h2, ← hn]; rfl⟩
 acc := fun i s hs => by
  rw [List.getElem?_map] at hs;obtain ⟨x, hx, rfl⟩ := Option.map_eq_some_iff.1 hs;rw [h.acc i x hx, ha]
 reach := fun i s hs => by
  rw [List.getElem?_map] at hs;obtain ⟨x, hx, rfl⟩ := Option.map_eq_some_iff.1 hs;obtain ⟨w, rfl⟩ := h.reach i x hx;exact ⟨w, (Vm φ hn w st).symm⟩
theorem Sk {σ τ : Type} {st : σ} {nx : σ → Nat → σ} {m : Nat} (h : Bv nx st m) (φ : σ → τ) {ny : τ → Nat → τ} (hn : ∀ s b, φ (nx s b) = ny (φ s) b) (hi : ∀ w w', φ (Ar nx st w) = φ (Ar nx st w') → Ar nx st w = Ar nx st w') : Bv ny (φ st) m := by
 obtain ⟨l, h1, h2, h3⟩ := h;refine ⟨l.map φ, Sb φ hi l h1 h2, fun s hs => ?_, by simpa using h3⟩;obtain ⟨x, hx, rfl⟩ := List.mem_map.1 hs;obtain ⟨w, rfl⟩ := h2 x hx;exact ⟨w, (Vm φ hn w st).symm⟩
theorem Tz {σ : Type} [DecidableEq σ] {c : Nat → Nat} {bs : List Nat} {st : σ} {nx : σ → Nat → σ} {ac : σ → Bool} {l : List σ} {t : Tbl} (h : Expl c bs st nx ac l t) {a b : Nat → Nat} (hj : Joint a b c bs) (hn : ∀ s x, x < 256 → nx s (bs.getD (c x) 0) = nx s x) {m : Nat} (hm : l.length ≤ m) : ¬ Bv nx st m := by
 refine Ic l (fun w => ?_) hm;have : ∀ (w : List UInt8) i s, l[i]? = some s → Ar nx s w ∈ l := fun w => by
  induction w with
  | nil => intro i s hi; exact List.mem_of_getElem? hi
  | cons x w ih =>
   intro i s hi;have h1 := (h.tgt i s hi _ (hj.lt _ x.toNat_lt)).2;rw [hn s _ x.toNat_lt] at h1;exact ih _ _ h1
 exact this w 0 st h.zero
def stP (s : Sta) : Nat × Nat := (s.p, s.s)
theorem Jk {s t : Sta} (hs : s.q = 0) (ht : t.q = 0) (h : stP s = stP t) : s = t := by
 cases s; cases t
 simp [stP] at h hs ht;simp [h, hs, ht]
def sNx (x : Tbl) (s : Sta) (b : Nat) : Sta := ⟨0, 0, if Ca x (Aq x s.s b x.nxt.length) then Aq x s.s b x.nxt.length ||| 1 else Aq x s.s b x.nxt.length⟩
def sAc (x : Tbl) (s : Sta) : Bool := s.p == 1 || Ca x s.s
def Jo (s : Sta) : Prop := s.p < 2 ∧ s.q = 0 ∧ s.s < 18446744073709551616
theorem Y1 {x : Tbl} (hx : TVal x) (hn : x.nxt.length ≤ 64) (s : Sta) (b : Nat) (hb : b < 256) : Jo (sNx x s b) := by
 refine ⟨by show 0 < 2; omega, rfl, ?_⟩;have h := Gh hx hn s.s b hb _ (Nat.le_refl _);unfold sNx;simp only;split
 ·exact Nat.or_lt_two_pow (n := 64) h (by omega)
 ·exact h
theorem Jn (x : Tbl) (w : List UInt8) : (Ar (sNx x) ⟨1, 0, 1⟩ w).q = 0 := by
 induction w using D7 with
 | h0 => rfl
 | h1 w y ih => rw [D5]; rfl
theorem D2 : (Tryz.prog.info? 114).map (·.size) = some 1 := by kernel_rfl
theorem Agi (x : Int) : Tryz.prog.built 116 [(2, .agg #[.int .u64 x])] = some #[.int .i64 0, .int .i64 0, .int .u64 x] := by kernel_rfl
theorem Rp (x : Nat) (hx : x < 18446744073709551616) : bits BinOp.or IntKind.u64 (x : Int) 1 = ((x ||| 1 : Nat) : Int) := by
 rw [show (1 : Int) = ((1 : Nat) : Int) from rfl, u64_or_nat _ _ hx (by omega)]
set_option maxHeartbeats 1000000 in
theorem Yd (x : Tbl) (hx : TVal x) (hn : x.nxt.length ≤ 64) (A : Array Value) (gx : Nat) (w : World) (hA : IsT w A x) (hgx : w.heap[gx]? = some (.cells A 108 (0, 0))) :
  Ll w 157 #[.pointer (some ⟨gx, 0, none⟩)] (sNx x) Jo := by
 intro W hW s hs b hb;obtain ⟨-, -, hss⟩ := hs;have hIT := hA.ext hW;obtain ⟨_, _, _, _, _, _, hAs, hAo, _⟩ := hIT.opened hx;have hiA : (Tryz.prog.info? 108).map (·.size) = some A.size := by rw [hAs]; exact Bu
 have hgx := hW.heap hgx;have f73 := fun V (hV : Ext W V) => Lib.hid (Py x hx hn A s.s hss b hb V (hIT.ext hV))
 have htl := Gh hx hn s.s b hb _ (Nat.le_refl _);have f76 := fun V (hV : Ext W V) => Lib.hid (L6 x hx hn A (Aq x s.s b x.nxt.length) htl V (hIT.ext hV))
 show Calls _ _ _ _ fun e w' => e = .returned (.agg #[.int .i64 ((0 : Nat) : Int), .int .i64 ((0 : Nat) : Int), .int .u64 ((if Ca x (Aq x s.s b x.nxt.length) then Aq x s.s b x.nxt.length ||| 1 else Aq x s.s b x.nxt.length : Nat) : Int)]) ∧ Ext W w'
 have hE0 := ((Ext.refl W).alloc (.cells #[iv s.p, iv s.q, .int .u64 (s.s : Int)] 116)).alloc (.cells #[.int .i64 0, .int .i64 0, .int .u64 0] 116);have H3 := Af (Ab W (.cells #[iv s.p, iv s.q, .int .u64 (s.s : Int)] 116)) (.cells #[.int .i64 0, .int .i64 0, .int .u64 0] 116);have H5 := heap_alloc2_new W (.cells #[iv s.p, iv s.q, .int .u64 (s.s : Int)] 116) (.cells #[.int .i64 0, .int .i64 0, .int .u64 0] 116);generalize Aq x s.s b x.nxt.length = T at *;generalize Ca x T = bo at *;have HO := Lib.hid (Rp T htl);clear hA hIT hW;go_enter Tryz.func157, Tryz.ntmps157;go_upto_region 1 with (fail)
 obtain ⟨w1, hw1⟩ : ∃ V, (W.alloc (.cells #[iv s.p, iv s.q, .int .u64 (s.s : Int)] 116)).alloc (.cells #[.int .i64 0, .int .i64 0, .int .u64 0] 116) = V := ⟨_, rfl⟩;have hs1 : W.heap.size + 1 < w1.heap.size := by rw [← hw1, World.size_alloc, World.size_alloc]; omega
 rw [hw1] at hE0 H3 H5;simp only [hw1];clear hw1;have HGX := Lib.hid (hE0.heap hgx);have hr3 : w1.rangeAt W.heap.size 2 [.int .u64 (s.s : Int)] := fun j v hv => by
  obtain rfl : j = 0 := by
   rcases j with _ | j
   ·rfl
   ·simp at hv
  rw [cell_of_row w1 W.heap.size _ _ _ _ H3];exact hv
 have HB5 := Lib.hid H5;have HE0 := Lib.hid hE0;clear H3 H5 hgx hE0;go_upto_region 2 with (first
  | (refine wpList_load_row rfl 108 (.tmp 2) rfl _ rfl _ _ _ _ HGX.out Tryz.underlying108 rfl hiA ?_)
  | (refine wpList_load_mid rfl 114 (.tmp 8) rfl _ 2 rfl _ _ hr3 Tryz.underlying114 rfl D2 ?_)
  | (go_at_call 73; (with_reducible refine (f73 _ HE0.out).out.mono ?_); rintro e w2 ⟨rfl, hE2⟩)
  | (refine wpList_store_row rfl 114 (.tmp 6) (.tmp 11) rfl _ _ rfl rfl _ _ (Ab w2 (.cells #[.int .u64 0] 114)) D2 rfl (Rt _) ?_))
 have hE3 := ((Ext.refl w2).alloc (.cells #[.int .u64 0] 114)).setRow (Nat.le_refl _) #[.int .u64 (T : Int)];have H6 := setRow_heap (w2.alloc (.cells #[.int .u64 0] 114)) w2.heap.size _ #[.int .u64 (T : Int)] _ _ (Ab w2 _);obtain ⟨w3, hw3⟩ : ∃ V, (w2.alloc (.cells #[.int .u64 0] 114)).setRow w2.heap.size #[.int .u64 (T : Int)] = V := ⟨_, rfl⟩;rw [hw3] at hE3 H6;simp only [hw3];clear hw3;have hE4 := hE2.trans hE3;have hs2 := hE2.size;have HB5 := Lib.hid (hE4.heap HB5.out);have HGX := Lib.hid (hE4.heap HGX.out);have HB6 := Lib.hid H6;have HE4 := Lib.hid (HE0.out.trans hE4);generalize w2.heap.size = g6 at *;clear H6 hE2 hE3 hE4 hr3 f73;go_upto_if 14 with (first
  | (refine wpList_load_row rfl 108 (.tmp 2) rfl _ rfl _ _ _ _ HGX.out Tryz.underlying108 rfl hiA ?_)
  | (refine wpList_load_row rfl 114 (.tmp 6) rfl _ rfl _ _ _ _ HB6.out Tryz.underlying114 rfl D2 ?_)
  | (go_at_call 76; (with_reducible refine (f76 _ HE4.out).out.mono ?_); rintro e w5 ⟨rfl, hE5⟩; have HB5 := Lib.hid (hE5.heap HB5.out); have HB6 := Lib.hid (hE5.heap HB6.out); have HE5 := Lib.hid (HE4.out.trans hE5)))
 have c6 := (cell_of_row w5 g6 0 _ _ _ HB6.out).trans (show (#[Value.int .u64 (T : Int)])[0]? = some (.int .u64 (T : Int)) from rfl);have f6 := frozen_of_row w5 g6 0 _ _ HB6.out;have hb0 := fun z => Lib.hid (Agi z)
 cases bo
 ·go_wp2_with (first
   | (refine wpList_load_row rfl 114 (.tmp 6) rfl _ rfl _ _ _ _ HB6.out Tryz.underlying114 rfl D2 ?_)
   | (refine Cd rfl 116 _ rfl #[.int .i64 0, .int .i64 0, .int .u64 (T : Int)] ?_ ?_; (simp [Act.eval]; with_reducible exact (hb0 _).out))
   | (refine wpList_store_row rfl 116 (.tmp 5) (.tmp 20) rfl _ _ rfl rfl _ _ HB5.out C3 rfl (by simp [Value.oneCell']) ?_))
  refine bodyPost_ret (v := .agg #[.int .i64 0, .int .i64 0, .int .u64 (T : Int)]) (results_cell_row rfl _ _ _ _ _ _ _ rfl (setRow_heap w5 _ _ _ 116 (0, 0) HB5.out) Tryz.underlying116 rfl C3) rfl ?_;exact ⟨rfl, HE5.out.setRow (by omega) _⟩
 ·go_upto_region 4 with (fail)
  have hsc : w5.setCell ⟨g6, 0, none⟩ (.int .u64 (bits BinOp.or IntKind.u64 (T : Int) 1)) = w5.setRow g6 #[.int .u64 ((T ||| 1 : Nat) : Int)] := by
   rw [setCell_eq_setRow w5 _ _ _ _ _ _ HB6.out, HO.out];rfl
  have hne : W.heap.size + 1 ≠ g6 := fun e => by
   have h1 := HB5.out;rw [e, HB6.out] at h1;injection h1 with h1
   injection h1 with h1 _
   simp at h1
  rw [hsc];have H6' := setRow_heap w5 g6 _ #[.int .u64 ((T ||| 1 : Nat) : Int)] _ _ HB6.out;have H5' := Br HB5.out hne #[.int .u64 ((T ||| 1 : Nat) : Int)];have hE6 := HE5.out.setRow (show W.heap.size ≤ g6 by omega) #[.int .u64 ((T ||| 1 : Nat) : Int)];obtain ⟨z, hz⟩ : ∃ z : Int, ((T ||| 1 : Nat) : Int) = z := ⟨_, rfl⟩;rw [hz] at H6' H5' hE6;rw [hz];obtain ⟨w6, hw6⟩ : ∃ V, w5.setRow g6 #[.int .u64 z] = V := ⟨_, rfl⟩;rw [hw6] at H6' H5' hE6;rw [hw6];have HB6 := Lib.hid H6';have HB5 := Lib.hid H5';have HE6 := Lib.hid hE6;have HZ := Lib.hid hz;clear c6 f6 hsc H5' H6' hE6 hz HO hw6;go_wp2_with (first
   | (refine wpList_load_row rfl 114 (.tmp 6) rfl _ rfl _ _ _ _ HB6.out Tryz.underlying114 rfl D2 ?_)
   | (refine Cd rfl 116 _ rfl #[.int .i64 0, .int .i64 0, .int .u64 z] ?_ ?_; (simp [Act.eval]; with_reducible exact (hb0 _).out))
   | (refine wpList_store_row rfl 116 (.tmp 5) (.tmp 20) rfl _ _ rfl rfl _ _ HB5.out C3 rfl (by simp [Value.oneCell']) ?_))
  refine bodyPost_ret (v := .agg #[.int .i64 0, .int .i64 0, .int .u64 z]) (results_cell_row rfl _ _ _ _ _ _ _ rfl (setRow_heap w6 _ _ _ 116 (0, 0) HB5.out) Tryz.underlying116 rfl C3) rfl ?_;exact ⟨by rw [← HZ.out], HE6.out.setRow (by omega) _⟩
set_option maxHeartbeats 1000000 in
theorem Xp (x : Tbl) (hx : TVal x) (hn : x.nxt.length ≤ 64) (A : Array Value) (gx : Nat) (w : World) (hA : IsT w A x) (hgx : w.heap[gx]? = some (.cells A 108 (0, 0))) :
  Li w 158 #[.pointer (some ⟨gx, 0, none⟩)] (sAc x) Jo := by
 intro W hW s hs;obtain ⟨hp, -, hss⟩ := hs;have hIT := hA.ext hW;obtain ⟨_, _, _, _, _, _, hAs, hAo, _⟩ := hIT.opened hx;have hiA : (Tryz.prog.info? 108).map (·.size) = some A.size := by rw [hAs]; exact Bu
 have hgx := hW.heap hgx;have f76 := fun V (hV : Ext W V) => Lib.hid (L6 x hx hn A s.s hss V (hIT.ext hV))
 show Calls _ _ _ _ fun e w' => e = .returned (.bool (s.p == 1 || Ca x s.s)) ∧ Ext W w'
 have hE0 := (Ext.refl W).alloc (.cells #[iv s.p, iv s.q, .int .u64 (s.s : Int)] 116);have H2 := Ab W (.cells #[iv s.p, iv s.q, .int .u64 (s.s : Int)] 116);generalize Ca x s.s = bo at *;clear hA hIT hW;go_enter Tryz.func158, Tryz.ntmps158;go_upto_region 1 with (fail)
 obtain ⟨w1, hw1⟩ : ∃ V, W.alloc (.cells #[iv s.p, iv s.q, .int .u64 (s.s : Int)] 116) = V := ⟨_, rfl⟩;rw [hw1] at hE0 H2;simp only [hw1];clear hw1;have HGX := Lib.hid (hE0.heap hgx);have hr2 : w1.rangeAt W.heap.size 2 [.int .u64 (s.s : Int)] := fun j v hv => by
  obtain rfl : j = 0 := by
   rcases j with _ | j
   ·rfl
   ·simp at hv
  rw [cell_of_row w1 W.heap.size _ _ _ _ H2];exact hv
 have c0 := (cell_of_row w1 W.heap.size 0 _ _ _ H2).trans (show (#[iv s.p, iv s.q, .int .u64 (s.s : Int)] : Array Value)[0]? = some (iv s.p) from rfl);have HE0 := Lib.hid hE0;clear H2 hgx hE0;obtain ⟨bp, hbp⟩ : ∃ b, (s.p == 1) = b := ⟨_, rfl⟩;have heq : ((s.p : Int) == 1) = bp := by
  rw [← hbp, Bool.eq_iff_iff];simp
  omega
 have HBP := Lib.hid hbp;clear hbp hp hss;cases bp
 ·go_wp2_with (first
   | (refine Dn rfl (wp_load_row 108 (.tmp 1) rfl _ rfl _ _ _ _ HGX.out Tryz.underlying108 rfl hiA ?_))
   | (refine Dn rfl (wp_load_mid 114 (.tmp 9) rfl _ 2 rfl _ _ hr2 Tryz.underlying114 rfl D2 ?_))
   | (go_at_call 76; (with_reducible refine (f76 _ HE0.out).out.mono ?_); rintro e w5 ⟨rfl, hE5⟩; have HE5 := Lib.hid (HE0.out.trans hE5)))
  go_ret;exact ⟨by rw [HBP.out]; rfl, HE5.out⟩
 ·clear hr2 f76 HGX hiA;go_wp2_with (fail);go_ret;exact ⟨by rw [HBP.out]; rfl, HE0.out⟩
end Go.Proofs.YtaiogolidlamiaaGreatDoor
