import Derived.Deep.Upon
import Derived.Test.YtaiogolidlamiaaGreatDoorM13
import Derived.Test.YtaiogolidlamiaaGreatDoorM14
import Derived.Test.YtaiogolidlamiaaGreatDoorM04
import Derived.Test.YtaiogolidlamiaaGreatDoorM40
import Derived.Test.YtaiogolidlamiaaGreatDoorM21
import Derived.Test.YtaiogolidlamiaaGreatDoorRows
import Derived.ProofKit
import Derived.LaidMore
import Derived.OpenShut
import Derived.Stop.Joined
import Derived.Lib.LaidTab
set_option linter.unusedVariables false
set_option linter.unusedSimpArgs false
namespace Go.Proofs.YtaiogolidlamiaaGreatDoor
set_option maxRecDepth 100000
open Go.RowKit Go.Shelf
theorem Lt {P : Program} {w : World} {ops : Array Oper} {rest : List Oper} {o : Oper} {a : Act} {Q : Exit → Act → World → Prop} (hgd : o.guard = none) (s x : Operand) (t : TypeId)
  (ho : o.op = .call { callee := .builtin .append, args := #[s, x], argTypes := #[t, t] })
  (e : TypeId) (i : TypeInfo) (ht : P.underlying t = some (.slice e)) (hi : P.info? e = some i)
  (ad : Option Addr) (n c : Nat) (hnc : n ≤ c) (hs : a.eval s = .slice ad n c) (ad' : Addr) (c' : Nat) (hx : a.eval x = .slice (some ad') 0 c')
  (h : wpList P ops Q rest (a.put o.dst (.slice ad n c)) w) : wpList P ops Q (o :: rest) a w := by
 refine wpList_plain hgd fun K hK => ?_
 have hrun := run_append_nothing (P := P) w t t o.type e i ht hi ad n c hnc _ (Src.ofSlice w ht ad' 0 c' [] (by simp) (by simp) (by simp));unfold Oper.wp;simp [execOp, ho, resolve, invoke, builtin, hs, hx, hrun, Result.andThen];exact hK _ _ h
def LeastF (L : List UInt8 → Bool) (W : World) (e : Ending) : Prop :=
 (∃ u v, e = .returned (.tuple #[v, .bool true]) ∧ By W v u ∧ L u = true ∧ ∀ u', L u' = true → rk u ≤ rk u') ∨ (e = .returned (.tuple #[.slice none 0 0, .bool false]) ∧ ∀ u, L u = false)
theorem Ty {t : Tbl} {i b : Nat} {l : List Nat} {W : Nat → List UInt8} {F : List (Option Nat)} {Y : List UInt8} (h : FB t i b l W F Y) : ∀ k j, j ≤ k → j < l.length → (W (l.getD j 0)).length ≤ j
 | 0, j, hj, hl => by
  obtain rfl : j = 0 := by omega
  rw [h.head, h.w0]; simp
 | k + 1, j, hj, hl => by
  by_cases h0 : l.getD j 0 = 0
  ·rw [h0, h.w0]; simp
  ·have hm := Cz l j 0 hl;have hs := (h.seen _ (h.lt _ hm)).2 hm;obtain ⟨p, hp⟩ := Option.isSome_iff_exists.1 hs;obtain ⟨hpl, hw⟩ := h.from_ _ p hp h0;obtain ⟨q, hq, rfl⟩ := F0 hpl;have hr : rk (W (l.getD q 0)) < rk (W (l.getD j 0)) := by rw [hw, Mh]; omega
   have hqj : q < j := by
    rcases Nat.lt_trichotomy q j with h1 | h1 | h1
    ·exact h1
    ·subst h1; omega
    ·have := h.inc j q h1 hq; omega
   have := Ty h k q (by omega) hq;rw [hw, List.length_append, List.length_singleton];omega
theorem Age {W : World} {g : Nat} {l : List UInt8} (h : ∀ k, k < l.length → W.cell? ⟨g, k, none⟩ = some (bv (l.getD k 0))) (j : Nat) (u : Value) (hj : (l.map bv)[j]? = some u) : W.cell? ((⟨g, 0, none⟩ : Addr).add j) = some u := by
 obtain ⟨hj1, hj2⟩ := List.getElem?_eq_some_iff.1 hj;have hjl : j < l.length := by rwa [List.length_map] at hj1
 have e : (⟨g, 0, none⟩ : Addr).add j = ⟨g, j, none⟩ := by
  unfold Addr.add;by_cases h0 : j = 0
  ·subst h0; rfl
  ·simp [h0]
 rw [e, h j hjl, ← hj2, List.getElem_map, List.getD_eq_getElem?_getD, List.getElem?_eq_getElem hjl];rfl
set_option maxHeartbeats 2000000 in
theorem Xa (t : Tbl) (hv : TVal t) (hn : t.nxt.length ≤ 65536) (A : Array Value) (w : World) (h : IsT w A t) :
  Calls Tryz.prog 87 #[.agg A] w fun e w' => LeastF t.has w' e ∧ Ext w w' := by
 obtain ⟨bn, on, cn, ba, oa, ca, hAs, hAo, hAc, _, hA7, hA8, hR, hacc⟩ := h.opened hv;have hn0 := hv.pos;have HR := Lib.hid hR;have HV := Lib.hid hv;have HACC := Lib.hid hacc;obtain ⟨i0, hi, hz0, hz1, hz2⟩ := info_parts C2;obtain ⟨j0, hj, hy0, hy1, hy2⟩ := info_parts N0;have hE0 := (Ext.refl w).alloc (.cells A 108);have H0 := Ab w (.cells A 108);have HK7 := Lib.hid (fun (W : World) (hW : Ext (w.alloc (.cells A 108)) W) => (cell_of_row W w.heap.size 257 _ _ _ (hW.heap H0)).trans hA7);have HK8 := Lib.hid (fun (W : World) (hW : Ext (w.alloc (.cells A 108)) W) => (cell_of_row W w.heap.size 258 _ _ _ (hW.heap H0)).trans hA8);have HKC := Lib.hid (fun (W : World) (hW : Ext (w.alloc (.cells A 108)) W) b (hb : b < 256) => (cell_of_row W w.heap.size b _ _ _ (hW.heap H0)).trans (hAc b hb));clear hR hv h H0 hA7 hA8 hAc hAo hAs hacc;go_enter Tryz.func87, Tryz.ntmps87;go_upto_region 1 with (fail)
 generalize w.alloc (.cells A 108) = w1 at *;have k1 := HK7.out w1 (Ext.refl w1);go_upto_region 2 with (at_make; refine wpList_make_full _ rfl _ _ 68 rfl w1.heap.size 3 i0 (.int .i64 0) 1 Tryz.underlying68 hi hz0 hz1 .i64 .i64 _ _ t.nxt.length rfl rfl rfl rfl (by rw [hz2]; omega) (by unfold maxLen; omega) (Nat.le_refl _) ?_; intro w2 hown2 hgrow2)
 have hE2 : Ext w1 w2 := (Ext.refl w1).grown hgrow2 (fun k e => by cases e);have hF2 : w2.ownsRow w1.heap.size 3 1 (.slice (some ⟨w1.heap.size, 0, none⟩) t.nxt.length t.nxt.length) t.nxt.length ((Dg t.nxt.length 0).map ov) := by rw [N8, ← B7]; exact hown2
 have hs2 : w1.heap.size < w2.heap.size := (hF2.lt _ rfl).2;clear hown2 hgrow2 k1;have k2 := HK7.out w2 hE2;go_upto_region 3 with (at_make; refine wpList_make_full _ rfl _ _ 22 rfl w2.heap.size 5 j0 (.int .u8 0) 1 Tryz.underlying22 hj hy0 hy1 .i64 .i64 _ _ t.nxt.length rfl rfl rfl rfl (by rw [hy2]; omega) (by unfold maxLen; omega) (Nat.le_refl _) ?_; intro w3 hown3 hgrow3)
 have hE3 := hE2.grown hgrow3 (fun k e => by cases e);have hF3 := Bt hF2 hgrow3;have hY3 : w3.ownsRow w2.heap.size 5 1 (.slice (some ⟨w2.heap.size, 0, none⟩) t.nxt.length t.nxt.length) t.nxt.length ((List.replicate t.nxt.length (0 : UInt8)).map bv) := by rw [← B7]; exact hown3
 have hs3 : w2.heap.size < w3.heap.size := (hY3.lt _ rfl).2;clear hown3 hgrow3 k2 hF2 hE2;generalize hgs : w1.heap.size = gs at *;generalize hg5 : w2.heap.size = g5 at *;have HGS := Lib.hid hgs;clear hgs hg5;go_wp2_with (fail);go_loopw [23] (fun i W => ∃ k : Nat, k ≤ t.nxt.length ∧ i = .int .i64 k ∧ Ext w1 W ∧ g5 < W.heap.size ∧
   W.ownsRow gs 3 1 (.slice (some ⟨gs, 0, none⟩) t.nxt.length t.nxt.length) t.nxt.length ((Dg t.nxt.length k).map ov) ∧
   W.ownsRow g5 5 1 (.slice (some ⟨g5, 0, none⟩) t.nxt.length t.nxt.length) t.nxt.length ((List.replicate t.nxt.length (0 : UInt8)).map bv))
  (fun i _ => t.nxt.length - (intOf i).toNat)
 case atStart => exact ⟨0, by omega, rfl, hE3, hs3, hF3, hY3⟩
 case round =>
  clear hE3 hF3 hY3 hs3;obtain ⟨k, hk, rfl, hE, hsz, hF, hY⟩ := hrel;have hgs1 : w1.heap.size ≤ gs := Nat.le_of_eq HGS.out;by_cases hlt : k < t.nxt.length
  ·have co := Ap none hF (F3 _ _).symm k (by rw [F3]; exact hlt);have fo := hF.frozenAt k;obtain ⟨hFd, hgrd⟩ := A5 hF k none;rw [N9 _ _ hlt] at hFd;have hEd := hE.grown hgrd (fun k e => by cases e; exact hgs1);have hYd := hY.kept hgrd (Ag hY hF (by decide));have hszd := Nat.lt_of_lt_of_le hsz hgrd.size;clear hgrd hF hE hY;go_wp2_with (fail);go_roundw
   case rel => exact ⟨k + 1, by omega, by go_num, hEd, hszd, hFd, hYd⟩
   case measure => simp [intOf]; omega
  ·obtain rfl : k = t.nxt.length := by omega
   rw [Oa] at hF;have co := Ap none hF (by simp) 0 (by simpa using hn0);have fo := hF.frozenAt 0;obtain ⟨hFd, hgrd⟩ := A5 hF 0 (some 0);have hEd := hE.grown hgrd (fun k e => by cases e; exact hgs1);have hYd := hY.kept hgrd (Ag hY hF (by decide));have hszd := Nat.lt_of_lt_of_le hsz hgrd.size;clear hgrd hF hE hY hsz;go_upto_region 9 with (fail)
   clear co fo;have hsc : wr.setCell ⟨gs, 0, none⟩ (ov (some 0)) = wr.setCell ⟨gs, 0, none⟩ (.int .i64 0) := rfl;rw [hsc] at hFd hEd hYd hszd;clear hsc;obtain ⟨w4, hw4⟩ : ∃ W, wr.setCell ⟨gs, 0, none⟩ (.int .i64 0) = W := ⟨_, rfl⟩;simp only [hw4] at *;clear hw4;have hE5 := hEd.alloc (.cells #[.int .i64 0] 3);have hF5 := hFd.alloc (.cells #[.int .i64 0] 3);have hY5 := hYd.alloc (.cells #[.int .i64 0] 3);have hl5 : OwnI (w4.alloc (.cells #[iv 0] 3)) (g5 + 1) (.slice (some ⟨w4.heap.size, 0, none⟩) 1 1) [0] := World.ownsRow_lit (base := g5 + 1) (e := 3) (size := 1) w4 #[.int .i64 0] 1 (by omega) (by unfold maxLen; omega) rfl;have HS := Lib.hid (Aez HV.out t.nxt.length rfl);clear hEd hFd hYd;go_wp2_with (fail);go_loopw [7, 8] (fun v vi W => ∃ (i : Nat) (l : List Nat) (Wd : Nat → List UInt8) (F : List (Option Nat)) (Y : List UInt8) (g c : Nat), i ≤ l.length ∧ vi = .int .i64 i ∧ v = .slice (some ⟨g, 0, none⟩) l.length c ∧ Ext w1 W ∧ g5 < W.heap.size ∧
     W.ownsRow gs 3 1 (.slice (some ⟨gs, 0, none⟩) t.nxt.length t.nxt.length) t.nxt.length (F.map ov) ∧ W.ownsRow g5 5 1 (.slice (some ⟨g5, 0, none⟩) t.nxt.length t.nxt.length) t.nxt.length (Y.map bv) ∧
     OwnI W (g5 + 1) v l ∧ Hid (FB t i 0 l Wd F Y))
    (fun _ vi _ => t.nxt.length - (intOf vi).toNat)
   case atStart => exact ⟨0, [0], fun _ => [], _, _, w4.heap.size, 1, by omega, rfl, rfl, hE5, by rw [World.size_alloc]; omega, hF5, hY5, hl5, HS⟩
   case round =>
    clear hE5 hF5 hY5 hl5 HS hszd;obtain ⟨i, l, Wd, F, Y, g, c, hil, rfl, rfl, hE, hsz, hF, hY, hI, HF⟩ := hrel;have hln := HF.out.len_le;have HlF := Lib.hid HF.out.lenF;have HlY := Lib.hid HF.out.lenY;by_cases hlt : i < l.length
    ·have cl := Ap 0 hI rfl i hlt;have hsn := HF.out.lt _ (Cz l i 0 hlt);obtain ⟨s, hsd⟩ : ∃ s, l.getD i 0 = s := ⟨_, rfl⟩;rw [hsd] at cl hsn;have HSD := Lib.hid hsd;clear hsd;have k8 := HK8.out wr hE;have ka := (hE0.trans hE).cell (HACC.out s hsn);obtain ⟨bo, hbo⟩ : ∃ b, t.ok s = b := ⟨_, rfl⟩;rw [hbo] at ka;have HBO := Lib.hid hbo;clear hbo;cases bo
     ·obtain ⟨br, or', cr, hrc, hrr⟩ := HR.out s hsn;have HRR := Lib.hid hrr;have HRC := Lib.hid hrc;clear hrc hrr;have hok : t.ok (l.getD i 0) = false := by rw [HSD.out]; exact HBO.out
      have hgs1 : w1.heap.size ≤ gs := Nat.le_of_eq HGS.out;have hgs5 : gs < g5 := hs2;go_upto_region 21 with (fail)
      clear cl k8 ka;go_loopw [7, 63] (fun v vb W => ∃ (b : Nat) (l' : List Nat) (Wd' : Nat → List UInt8) (F' : List (Option Nat)) (Y' : List UInt8) (g' c' : Nat), b ≤ 256 ∧ vb = .int .i64 b ∧ v = .slice (some ⟨g', 0, none⟩) l'.length c' ∧ Ext w1 W ∧ g5 < W.heap.size ∧
        W.ownsRow gs 3 1 (.slice (some ⟨gs, 0, none⟩) t.nxt.length t.nxt.length) t.nxt.length (F'.map ov) ∧ W.ownsRow g5 5 1 (.slice (some ⟨g5, 0, none⟩) t.nxt.length t.nxt.length) t.nxt.length (Y'.map bv) ∧
        OwnI W (g5 + 1) v l' ∧ Hid (FB t i b l' Wd' F' Y') ∧ Hid (i < l'.length ∧ l'.getD i 0 = s))
       (fun _ vb _ => 256 - (intOf vb).toNat)
      case atStart => exact ⟨0, l, Wd, F, Y, g, c, by omega, rfl, rfl, hE, hsz, hF, hY, hI, HF, Lib.hid ⟨hlt, HSD.out⟩⟩
      case round =>
       clear hE hsz hF hY hI HlF HlY;obtain ⟨b, l', Wd', F', Y', g', c', hb, rfl, rfl, hE, hsz, hF, hY, hI, HF', HK'⟩ := hrel;have hln' := HF'.out.len_le;have HlF := Lib.hid HF'.out.lenF;have HlY := Lib.hid HF'.out.lenY;by_cases hb2 : b < 256
       ·have hcx := HV.out.cell_lt b hb2;have cb := At (HKC.out wr hE b hb2);have k7 := At (HK7.out wr hE);have cr1 := At ((hE0.trans hE).cell HRC.out);have cr2 := At ((hE0.trans hE).cell (HRR.out _ hcx));have hxs : t.ent2 s (t.cell b) = t.stp s b := rfl;have hxn := HV.out.stp_lt hsn hb2;rw [hxs] at cr2;obtain ⟨x, hxd⟩ : ∃ x, t.stp s b = x := ⟨_, rfl⟩;rw [hxd] at cr2 hxn;have HXD := Lib.hid hxd;clear hxd hxs;generalize t.cell b = cx at *;have hbi : (b : Int) < 256 := by omega
        generalize htc : t.cells = mx at *;go_upto_region 23 with (fail)
        refine C1 (by kernel_rfl) (by kernel_rfl) ?_;iterate 12 (with_reducible refine wpQuiet_step (fun K hK => ?_); go_simp; (refine hK _ ?_; clear hK K))
        refine wpQuiet_nil ?_;rintro _ ⟨e, rfl⟩;clear cb k7 cr1 cr2;have hE := hE.trans e.ext;have hF := Ah hF e.ext;have hY := Ah hY e.ext;have hI := Ah hI e.ext;have hsz := Nat.lt_of_lt_of_le hsz e.ext.size;generalize e.W = w5 at *;obtain ⟨fo, hfo⟩ : ∃ o, F'.getD x none = o := ⟨_, rfl⟩;have co := Ap none hF HlF.out.symm x (by rw [HlF.out]; exact hxn);rw [hfo] at co;cases fo with
        | some p =>
         have HN := Lib.hid (Ae1 HF'.out HK'.out.1 (by rw [HK'.out.2, HXD.out]; exact hxn) (by rw [HK'.out.2, HXD.out, hfo]; simp));replace co : w5.cell? ⟨gs, x, none⟩ = some (.int .i64 p) := co;have hp0 : ¬ ((p : Int) < 0) := by omega
         clear hfo;go_wp2;go_roundw
         case rel => exact ⟨b + 1, l', Wd', F', Y', g', c', by omega, by go_num, rfl, hE, hsz, hF, hY, hI, HN, HK'⟩
         case measure => simp [intOf]; omega
        | none =>
         have HN := Lib.hid (Ae4 HV.out HF'.out HK'.out.1 hb2 (by rw [HK'.out.2, HXD.out]; exact hfo));rw [HK'.out.2, HXD.out] at HN;replace co : w5.cell? ⟨gs, x, none⟩ = some (.int .i64 (-1)) := co;have frF := hF.frozenAt x;obtain ⟨hF6, hgr6⟩ := A5 hF x (some s);rw [show ov (some s) = .int .i64 (s : Int) from rfl] at hF6 hgr6;have hE6 := hE.grown hgr6 (fun k e => by cases e; exact hgs1);have hY6 := hY.kept hgr6 (Ag hY hF (by decide));have hI6 := hI.kept hgr6 (An hI (by omega));have hsz6 := Nat.lt_of_lt_of_le hsz hgr6.size;have cy6 := Ap 0 hY6 HlY.out.symm x (by rw [HlY.out]; exact hxn);have frY := hY6.frozenAt x;obtain ⟨hY7, hgr7⟩ := A5 hY6 x (UInt8.ofNat b);have hE7 := hE6.grown hgr7 (fun k e => by cases e; omega);have hF7 := hF6.kept hgr7 (Ag hF6 hY6 (by decide));have hI7 := hI6.kept hgr7 (An hI6 (by omega));have hsz7 := Nat.lt_of_lt_of_le hsz6 hgr7.size;have hwb : IntKind.u8.wrap (b : Int) = (b : Int) := IntWalk.u8_in _ ⟨by omega, by omega⟩;have hbb : bv (UInt8.ofNat b) = .int .u8 (b : Int) := by rw [bv, u8n b hb2]
         rw [hbb] at hY7 hgr7 hE7 hF7 hI7 hsz7;clear hfo hgr6 hgr7 hF hY hI hE hsz hE6 hF6 hI6 hsz6;go_upto_region 26 with (fail)
         obtain ⟨w7, hw7⟩ : ∃ W, (w5.setCell ⟨gs, x, none⟩ (.int .i64 (s : Int))).setCell ⟨g5, x, none⟩ (.int .u8 (b : Int)) = W := ⟨_, rfl⟩;simp only [hw7] at *;clear hw7 co frF cy6 frY hY6 hwb hbb;have hgs7 := hE7.size;go_wp2_with (at_builtin; refine wpList_append_lies _ rfl _ _ 68 rfl (g5 + 1) 3 i0 (.int .i64 0) 1 8 Tryz.underlying68 hi hz0 hz1 hz2 rfl (by decide) _ _ _ rfl (hI7.alloc _) _ 1 1 [iv x] rfl rfl (cell_one_new _ _ _) (by simp [Value.oneCell']) (by decide) (by unfold maxLen; omega) (by omega) (by simp; omega) _ rfl ?_);intro g8 c8 w8 hI8 hgr8 _ _;have hb8 := fun k (hk : (Value.slice (some ⟨g', 0, none⟩) l'.length c').ownBlock = some k) => (hI7.lt k hk).1
         have hF8 := (hF7.alloc (.cells #[iv x] 3)).kept hgr8 (.inr fun e => by have := hb8 gs e.symm; omega);have hY8 := (hY7.alloc (.cells #[iv x] 3)).kept hgr8 (.inr fun e => by have := hb8 g5 e.symm; omega);have hE8 := (hE7.alloc (.cells #[iv x] 3)).grown hgr8 (fun k e => by have := hb8 k e; omega);have hsz8 : g5 < w8.heap.size := by have := hgr8.size; rw [World.size_alloc] at this; omega
         clear hgr8 hI7 hF7 hY7;go_wp2;go_roundw
         case rel =>
          refine ⟨b + 1, l' ++ [x], _, _, _, g8, c8, by omega, by go_num, by rw [List.length_append]; rfl, hE8, hsz8, hF8, hY8, ?_, HN, Lib.hid ⟨by rw [List.length_append]; have := HK'.out.1; omega, by rw [Bi _ _ _ _ HK'.out.1]; exact HK'.out.2⟩⟩;show World.ownsRow _ _ _ _ _ _ _;rw [List.length_append, List.map_append];exact hI8
         case measure => simp [intOf]; omega
       ·obtain rfl : b = 256 := by omega
        have e256 : ((256 : Nat) : Int) = 256 := rfl;simp only [e256];clear e256;have HN := Lib.hid (Ae3 HF'.out HK'.out.1 (by rw [HK'.out.2]; exact HBO.out));go_wp2;go_roundw
        case rel => exact ⟨i + 1, l', Wd', F', Y', g', c', by have := HK'.out.1; omega, by go_num, rfl, hE, hsz, hF, hY, hI, HN⟩
        case measure => simp [intOf]; omega
     ·go_upto_region 15 with (fail)
      clear cl k8 ka;go_wp2_with (fail);have hE6 := (Ext.refl wr).alloc (.cells #[] 5);have hsn0 : Wd s ++ [] = Wd s := List.append_nil _;have hsl := Cz l i 0 hlt;rw [HSD.out] at hsl;have hwl : (Wd s).length ≤ 65536 := by
       have := Ty HF.out i i (Nat.le_refl _) hlt;rw [HSD.out] at this;omega
      go_loopw [9, 10] (fun v9 v10 W => ∃ (x : Nat) (suf : List UInt8) (g' c' : Nat), v9 = .int .i64 x ∧ v10 = .slice (some ⟨g', 0, none⟩) suf.length c' ∧ (∀ k, k < suf.length → W.cell? ⟨g', k, none⟩ = some (bv (suf.getD k 0))) ∧ g' < W.heap.size ∧ Ext wr W ∧ x ∈ l ∧ Hid (Wd x ++ suf = Wd s))
       (fun v9 _ _ => (Wd (intOf v9).toNat).length)
      case atStart => exact ⟨s, [], wr.heap.size, 0, rfl, rfl, fun k hk => by simp at hk, by rw [World.size_alloc]; omega, hE6, hsl, Lib.hid hsn0⟩
      case round =>
       clear hE6 hsn0 hsl;obtain ⟨wl, hwl'⟩ : ∃ W, W = wr := ⟨_, rfl⟩;subst hwl';obtain ⟨x, suf, g', c', rfl, rfl, hcs, hgs', hEx, hxl, HX⟩ := hrel;have hxn := HF.out.lt x hxl;by_cases hx0 : x = 0
       ·subst hx0;have hsu : suf = Wd s := by have := HX.out; rw [HF.out.w0] at this; simpa using this
        have hBy : By wl (.slice (some ⟨g', 0, none⟩) suf.length c') suf := by
         refine ⟨by rw [hsu]; omega, ?_⟩;rcases Nat.eq_zero_or_pos suf.length with h0 | h0
         ·exact .inl ⟨h0, _, _, by rw [h0]⟩
         ·exact .inr ⟨h0, g', 0, c', rfl, hgs', fun k hk => by rw [Nat.zero_add]; exact hcs k (by omega)⟩
        have HB := Lib.hid hBy;have hok := Ae0 HF.out hlt (by rw [HSD.out]; exact HBO.out);rw [HSD.out, ← hsu] at hok;have HOK := Lib.hid hok;clear hBy hok hsu hcs;go_wp2;go_ret2;exact ⟨.inl ⟨suf, _, rfl, HB.out, HOK.out.1, HOK.out.2⟩, (hE0.trans hE).trans hEx⟩
       ·have hsx := (HF.out.seen x hxn).2 hxl;obtain ⟨p, hp⟩ := Option.isSome_iff_exists.1 hsx;obtain ⟨hpl, hw⟩ := HF.out.from_ x p hp hx0;have cY := Ap 0 (Ah hY hEx) HlY.out.symm x (by rw [HlY.out]; exact hxn);have cF := Ap none (Ah hF hEx) HlF.out.symm x (by rw [HlF.out]; exact hxn);rw [hp] at cF;obtain ⟨y, hy⟩ : ∃ y, Y.getD x 0 = y := ⟨_, rfl⟩;rw [hy] at cY hw;have hX' : Wd p ++ (y :: suf) = Wd s := by rw [← HX.out, hw]; simp
        have hsl' : suf.length + 1 ≤ 65536 := by
         have := congrArg List.length hX';simp at this;omega
        have HX' := Lib.hid hX';have hwx : (Wd x).length = (Wd p).length + 1 := by rw [hw]; simp
        have cF' : wl.cell? ⟨gs, x, none⟩ = some (.int .i64 p) := cF;have HCF := Lib.hid (fun (W : World) (hW : Ext wl W) => hW.cell cF');have hpx := hpl;clear hy hp hw cF hX' hsx cF';rcases suf with _ | ⟨z, suf⟩
        ·have hal := Ab wl (.cells #[bv y] 5);have hca := (cell_of_row (wl.alloc (.cells #[bv y] 5)) wl.heap.size 0 _ _ _ hal).trans (show (#[bv y] : Array Value)[0]? = some (bv y) from rfl);have hE7 := hEx.alloc (.cells #[bv y] 5);have c4 := HCF.out _ ((Ext.refl wl).alloc (.cells #[bv y] 5));go_wp2_with (at_builtin; refine Lt rfl _ _ 22 rfl 5 j0 Tryz.underlying22 hj _ _ _ (by omega) rfl _ _ rfl ?_);go_roundw
         case rel => exact ⟨p, [y], wl.heap.size, 1, rfl, rfl, fun k hk => by simp at hk; subst hk; exact hca, by rw [World.size_alloc]; omega, hE7, hpx, HX'⟩
         case measure => simp [intOf]; omega
        ·have hszx := hEx.size;have hlit := World.ownsRow_lit (base := wl.heap.size) (e := 5) (size := 1) wl #[bv y] 1 (Nat.le_refl _) (by unfold maxLen; omega) rfl;have hE7 := (Ext.refl wl).alloc (.cells #[bv y] 5);have hnews := Age (fun k hk => hE7.cell (hcs k hk));have HNW := Lib.hid hnews;have hgz : g' < (wl.alloc (.cells #[bv y] 5)).heap.size := by rw [World.size_alloc]; omega
         clear hnews;go_wp2_with (at_builtin; refine wpList_append_lies _ rfl _ _ 22 rfl wl.heap.size 5 j0 (.int .u8 0) 1 1 Tryz.underlying22 hj hy0 hy1 hy2 rfl (by decide) _ 1 [bv y] rfl hlit ⟨g', 0, none⟩ (suf.length + 1) _ ((z :: suf).map bv) rfl (by simp) HNW.out (by simp [Value.oneCell']) (by omega) (by unfold maxLen; simp at hsl'; omega) (by simp at hsl'; omega) (by rw [World.size_alloc]; omega) _ rfl ?_);intro g7 c7 w7 hI7 hgr7 _ hg7;have hI7' : w7.ownsRow wl.heap.size 5 1 (.slice (some ⟨g7, 0, none⟩) (1 + (suf.length + 1)) c7) (1 + (suf.length + 1)) ((y :: z :: suf).map bv) := hI7;have hc7 := fun k (hk : k < (y :: z :: suf).length) => Ap 0 hI7' (by simp; omega) k hk
         have hE8 : Ext wr w7 := (hEx.alloc (.cells #[bv y] 5)).grown hgr7 (fun k e => by have : wl.heap.size = k := Option.some.inj e; omega);have c4 := HCF.out w7 (hE7.grown hgr7 (fun k e => by have : wl.heap.size = k := Option.some.inj e; omega));clear hI7 hgr7 hlit hI7';go_wp2;go_roundw
         case rel => exact ⟨p, y :: z :: suf, g7, c7, rfl, by simp; omega, hc7, hg7, hE8, hpx, HX'⟩
         case measure => simp [intOf]; omega
    ·obtain rfl : i = l.length := by omega
     have HN := Lib.hid (Ae2 HF.out (Nat.le_refl _));go_wp2;go_ret2;exact ⟨.inr ⟨rfl, HN.out⟩, hE0.trans hE⟩
def ldA {w : World} {g : Nat} {V : Array Value} (h : w.heap[g]? = some (.cells V 30 (0, 0))) (hi : (Tryz.prog.info? 30).map (·.size) = some V.size) : Sc Tryz.prog w :=
 .load 30 g V 30 (0, 0) _ (fun _ hE => hE.heap h) Tryz.underlying30 rfl hi
def Fo {P : Program} {w : World} (f : FuncId) (he : Enters P f) (args : List Value) (v : Value) (h : ∀ W, Ext w W → Calls P f args.toArray W fun e w' => e = .returned v ∧ Ext W w') : Sc P w :=
 .call f he (args.map AV.c) (.c v) (AV.mono_c v) fun W vs hE hh => by
  rw [Ii hh];exact (h W hE).mono fun e w' ⟨h1, h2⟩ => ⟨v, h1, rfl, h2⟩
theorem Of : Enters Tryz.prog 24 := enters_of Tryz.func24 (by kernel_rfl) rfl
theorem G9 : Enters Tryz.prog 29 := enters_of Tryz.func29 (by kernel_rfl) rfl
theorem Afd : Enters Tryz.prog 30 := enters_of Tryz.func30 (by kernel_rfl) rfl
theorem LeastF.ext {L : List UInt8 → Bool} {W W' : World} {e : Ending} (h : LeastF L W e) (hE : Ext W W') : LeastF L W' e := by
 rcases h with ⟨u, v, h1, h2, h3, h4⟩ | h
 ·exact .inl ⟨u, v, h1, h2.ext hE, h3, h4⟩
 ·exact .inr h
theorem LeastF.congr {L M : List UInt8 → Bool} {W : World} {e : Ending} (h : LeastF L W e) (hLM : ∀ u, L u = M u) : LeastF M W e := by
 rw [show M = L from funext fun u => (hLM u).symm]; exact h
theorem LeastF.form {L : List UInt8 → Bool} {W : World} {e : Ending} (h : LeastF L W e) : ∃ a n c b, e = .returned (.tuple #[.slice a n c, .bool b]) := by
 rcases h with ⟨u, v, h1, h2, _⟩ | ⟨h, _⟩
 ·obtain ⟨a, c, rfl⟩ := h2.len;exact ⟨_, _, _, _, h1⟩
 ·exact ⟨_, _, _, _, h⟩
set_option maxHeartbeats 1000000 in
theorem Ac6 (a : Dfa) (ha : Val a) (hna : a.nxt.length ≤ 64) (va : Value) (w : World) (hT : Tab w) (hsz : 0 < w.heap.size) (hva : IsD w va a) :
  Calls Tryz.prog 40 #[va] w fun e w' => LeastF a.has w' e ∧ Ext w w' := by
 have HDa := Lib.hid hva;obtain ⟨ac, lc, cc, an, cn, aa, la, ca, rfl⟩ := hva.agg;have f47a := fun W (hW : Ext w W) => Lib.hid (Dp a ha hna _ W (HDa.out.ext hW))
 have f68a := fun W (hW : Ext w W) => Lib.hid (Gi a ha _ W (hT.below hW.below hsz) (Nat.lt_of_lt_of_le hsz hW.size) (HDa.out.ext hW))
 obtain ⟨Va, hVa⟩ : ∃ X, dA (.slice ac lc cc) (.slice an a.nxt.length cn) (.slice aa la ca) = X := ⟨_, rfl⟩;have hiVa : (Tryz.prog.info? 30).map (·.size) = some Va.size := by rw [← hVa]; exact Ad
 have HTv := Lib.hid (Be ha);rw [hVa] at f47a f68a HDa;rw [hVa];have hE0 := (Ext.refl w).alloc (.cells Va 30);have H1 := Ab w (.cells Va 30);clear hva ha hT hVa;go_enter Tryz.func40, Tryz.ntmps40;go_upto_region 1 with (fail)
 obtain ⟨w1, hw1⟩ : ∃ W, w.alloc (.cells Va 30) = W := ⟨_, rfl⟩;rw [hw1] at hE0 H1;simp only [hw1];clear hw1;have HB1 := Lib.hid H1;clear H1;go_upto_region 3 with (first
  | (refine wpList_load_row rfl 30 (.tmp 1) rfl _ rfl _ _ _ _ HB1.out Tryz.underlying30 rfl hiVa ?_)
  | (go_at_call 47; (with_reducible refine (f47a _ hE0).out.mono ?_); rintro e w2 ⟨rfl, hE2⟩; have hE3 := hE0.trans hE2; have HB1 := Lib.hid (hE2.heap HB1.out)))
 go_wp2_with (first
  | (refine wpList_load_row rfl 30 (.tmp 1) rfl _ rfl _ _ _ _ HB1.out Tryz.underlying30 rfl hiVa ?_)
  | (go_at_call 68; (with_reducible refine (f68a _ hE3).out.mono ?_); rintro e w3 ⟨A, rfl, hA, hE4⟩; have hL := Lib.hid (Xa (Ae a) HTv.out (show a.nxt.length ≤ 65536 by omega) A w3 hA); have hE5 := hE3.trans hE4)
  | (go_at_call 87; (with_reducible refine hL.out.mono ?_); rintro e w4 ⟨hr, hE6⟩; obtain ⟨ra, rn, rc, rb, rfl⟩ := hr.form; have HR := Lib.hid hr; have HE6 := Lib.hid (hE5.trans hE6); clear hr hE6))
 go_ret2;exact ⟨HR.out.congr (fun u => Db a u), HE6.out⟩
theorem Ob (n : Nat) (k : Int) (hk : k = n) (hn : n ≤ 1000) (l : List UInt8) (v : Value) (w : World) (hl : ByW w v l) :
  Calls Tryz.prog 27 #[v, .int .i64 k] w fun e w' => ∃ (x : List UInt8) (g c : Nat), e = .returned (.slice (some ⟨g, 0, none⟩) x.length c) ∧ x.length ≤ n ∧ By w' (.slice (some ⟨g, 0, none⟩) x.length c) x ∧ Ext w w' := by
 subst hk;exact Aey l v n hn w hl
theorem Ve {W : World} {x : List UInt8} {g c : Nat} (h : By W (.slice (some ⟨g, 0, none⟩) x.length c) x) : ∀ j u, (x.map bv)[j]? = some u → W.cell? ((⟨g, 0, none⟩ : Addr).add j) = some u := fun j u hj => by
 obtain ⟨hj1, hj2⟩ := List.getElem?_eq_some_iff.1 hj;have hjl : j < x.length := by rwa [List.length_map] at hj1
 obtain ⟨b, o, cap, he, hc⟩ := Sl.form h (by omega);injection he with he _ _
 injection he with he
 injection he with e1 e2 _
 subst e1 e2;have e : (⟨g, 0, none⟩ : Addr).add j = ⟨g, 0 + j, none⟩ := by
  unfold Addr.add;by_cases h0 : j = 0
  ·subst h0; rfl
  ·simp [h0]
 rw [e, hc j (by omega), ← hj2, List.getElem_map, List.getD_eq_getElem?_getD, List.getElem?_eq_getElem hjl];rfl
theorem Hu (d : Dfa) (hd : Val d ∧ d.nxt.length ≤ 64) (v : Value) (l : List UInt8) (u : Value) (w : World) (hT : Tab w) (hsz : 0 < w.heap.size) (h : IsD w v d) (hb : By w u l) :
  Calls Tryz.prog 14 #[v, u] w fun e w' => ∃ q x, e = .returned (.tuple #[x, .int .i64 0]) ∧ IsD w' x q ∧ (Cano q ∧ q.nxt.length ≤ 64 ∧ ∀ z, q.has z = d.has (l ++ z)) ∧ Ext w w' :=
 (Q4 d hd.1 hd.2 v l u w hT hsz h hb).mono fun e w' ⟨q, ⟨x, h1, h2⟩, h3, h4, h5⟩ => ⟨q, x, h1, h2, ⟨h3, Nat.le_trans (Q5 hd.1 h3 h4) hd.2, h4⟩, h5⟩
theorem U2 (d : Dfa) (hd : Val d ∧ d.nxt.length ≤ 64) (v : Value) (w : World) (hT : Tab w) (hsz : 0 < w.heap.size) (h : IsD w v d) :
  Calls Tryz.prog 28 #[v] w fun e w' => ∃ q x, e = .returned (.tuple #[x, .int .i64 0]) ∧ IsD w' x q ∧ (Cano q ∧ ∀ z, q.has z = d.has z) ∧ Ext w w' :=
 (F8 d hd.1 hd.2 v w hT hsz h).mono fun e w' ⟨q, ⟨x, h1, h2⟩, h3, h4, h5⟩ => ⟨q, x, h1, h2, ⟨h3, h4⟩, h5⟩
theorem Aex (n : Nat) (k : Int) (hk : k = n) (hn : n ≤ 1000) (l : List UInt8) (v : Value) (w : World) (hl : ByW w v l) :
  Calls Tryz.prog 27 #[v, .int .i64 k] w fun e w' => ∃ (x : List UInt8) (g c : Nat), e = .returned (.slice (some ⟨g, 0, none⟩) x.length c) ∧ x.length ≤ n ∧ By w' (.slice (some ⟨g, 0, none⟩) x.length c) x ∧ x.length ≤ c ∧ Ext w w' := by
 subst hk;exact Tw l v n hn w hl
theorem Re (d : Dfa) (hd : Val d ∧ d.nxt.length ≤ 64) (v : Value) (w : World) (hT : Tab w) (hsz : 0 < w.heap.size) (h : IsD w v d) :
  Calls Tryz.prog 16 #[v] w fun e w' => ∃ q x, e = .returned (.tuple #[x, .int .i64 0]) ∧ IsD w' x q ∧ (Cano q ∧ q.nxt.length ≤ 64 ∧ ∀ z, q.has z = true ↔ ∃ u, d.has (z ++ u) = true) ∧ Ext w w' :=
 (Rd d hd.1 hd.2 v w hT hsz h).mono fun e w' ⟨q, ⟨x, h1, h2⟩, h3, h4, h5⟩ => ⟨q, x, h1, h2, ⟨h3, Nat.le_trans (Rf hd.1 h3 h4) hd.2, h4⟩, h5⟩
theorem Ac4 (d : Dfa) (hd : Val d ∧ d.nxt.length ≤ 64) (b : Bool) (hb : b = true ↔ ∃ u, d.has u = true) (v : Value) (w : World) (hT : Tab w) (hsz : 0 < w.heap.size) (h : IsD w v d) :
  Calls Tryz.prog 40 #[v] w fun e w' => ∃ a n c, e = .returned (.tuple #[.slice a n c, .bool b]) ∧ Ext w w' :=
 (Ac6 d hd.1 hd.2 v w hT hsz h).mono fun e w' ⟨h1, h2⟩ => by
  rcases h1 with ⟨u, v, h3, h4, h5, -⟩ | ⟨h3, h4⟩
  ·obtain ⟨a, c, rfl⟩ := h4.len;obtain rfl : b = true := hb.2 ⟨u, h5⟩;exact ⟨_, _, _, h3, h2⟩
  ·obtain rfl : b = false := by
    cases b with
    | false => rfl
    | true => obtain ⟨u, hu⟩ := hb.1 rfl; rw [h4] at hu; cases hu
   exact ⟨_, _, _, h3, h2⟩
theorem Agd {W : World} {x : List UInt8} {g c : Nat} (h : By W (.slice (some ⟨g, 0, none⟩) x.length c) x) (n : Nat) (hn : n ≤ x.length) : By W (.slice (some ⟨g, 0, none⟩) n c) (x.take n) := by
 have hl : (x.take n).length = n := by simp; omega
 unfold By;rw [hl];refine ⟨by have := h.1; omega, ?_⟩;by_cases h0 : n = 0
 ·subst h0; exact .inl ⟨rfl, _, _, rfl⟩
 ·obtain ⟨_, ⟨h1, _⟩ | ⟨h1, b, o, cap, he, hb, hc⟩⟩ := h
  ·omega
  ·injection he with e1 _ e2
   injection e1 with e1
   injection e1 with e3 e4 _
   subst e2 e3 e4;refine .inr ⟨by omega, _, _, _, rfl, hb, fun i hi => ?_⟩;rw [hc i (by omega)];simp only [List.getD_eq_getElem?_getD, List.getElem?_take];rw [if_pos (by omega)]
theorem Ye (ρ : Operand → Value) (o : Oper) (W : World) (s t g n c i : Nat) (hn : n ≤ c) (hi : i ≤ n) (ho : o.op = .slice 22 (.tmp s) none (some (.tmp t)) none) (hh : C4 W [.c (.slice (some ⟨g, 0, none⟩) n c), .c (.int .i64 i)] ((Op.slice 22 (.tmp s) none (some (.tmp t)) none).operands.toList.map ρ)) :
  ∃ v, (execOp ρ o).run Tryz.prog W = .ok (.value v) W ∧ (AV.c (.slice (some ⟨g, 0, none⟩) i c)).holds W v := by
 have h := Ii (us := [.slice (some ⟨g, 0, none⟩) n c, .int .i64 i]) hh;have h1 : ρ (.tmp s) = .slice (some ⟨g, 0, none⟩) n c := by injection h
 have h2 : ρ (.tmp t) = .int .i64 i := by injection h with _ h; injection h
 have hic : (i : Int) ≤ (c : Int) := by omega
 refine ⟨_, ?_, rfl⟩;unfold execOp;simp only [ho, h1, h2, Option.map_some, Option.map_none];go_simp
open Go.ChangeShapes Go.WideShapes Go.ChangeAt Go.WideMaps Go.WideElems Go.RowKit
def D9 : List (String × DataW Unit) := [("math/bits.deBruijn64tab", Rows.laid_math_bits_deBruijn64tab)]
theorem M5 : ownKnob Tryz.prog.godebug = none := by kernel_rfl
theorem Ti : Tryz.prog.globalNamed "math/bits.deBruijn64tab" = some 0 := by kernel_rfl
theorem Xg : (Tryz.prog.globals[0]?).map (·.type) = some 205 := by kernel_rfl
theorem Fg : laidOutB Tryz.prog = true := by kernel_rfl
theorem Og (os : Os) (args : Array Value) : laidMetH Tryz.prog D9 ((World.doorLaid Tryz.prog 400 os).forCall (fun _ _ => 0) ⟨#[], args, []⟩).memory :=
 laidMetH_of_parts3 (fuel := 8) (laidMet_of_run' 8 (by kernel_rfl) (by kernel_rfl)) (by kernel_rfl) (by kernel_rfl)
theorem L0 {W : World} (h : laidMetH Tryz.prog D9 W) : Tab W ∧ 0 < W.heap.size := by
 rw [MakeChecks.laidMetH_plain _ _ _ (by kernel_rfl)] at h;have h1 : Lib.TabIs Tryz.prog W "math/bits.deBruijn64tab" .u8 (Lib.deBruijn64tab.map Int.ofNat) :=
  Lib.tabIs_of_head Ti Xg Tryz.underlying205 Tryz.underlying5 (by kernel_rfl) (by kernel_rfl) h
 have hT : Tab W := fun j hj => by
  rw [h1.cell Ti j (by simpa [Lib.deBruijn64tab] using hj)];have hj' : j < Lib.deBruijn64tab.length := by simpa [Lib.deBruijn64tab] using hj
  simp [List.getD_eq_getElem?_getD, hj']
 exact ⟨hT, World.block_lt_of_cell? W _ (hT 0 (by decide))⟩
theorem Ou {k : Int} (h : (Lit.int .u8 k).wf = true) : ∃ n : Nat, k = n ∧ n < 256 := by
 simp [Lit.wf, IntKind.min, IntKind.max, IntKind.bits, IntKind.signed] at h;exact ⟨k.toNat, by omega, by omega⟩
theorem U9 {H : Type} {enc : TypeId × Value → H} {W : World} {fuel : Nat} {x : DataW H × List MemPlace} {a : Option Addr} {len cap : Nat} (hf : DataW.trod enc Tryz.prog W 0 (fun _ => true) true fuel 22 [.slice a len cap] = some x) :
  ∃ l : List UInt8, l.length = len ∧ ByW W (.slice a len cap) l := by
 rcases open_ints Tryz.underlying22 Tryz.underlying5 (by kernel_rfl) hf with ⟨hcs, _⟩ | ⟨x, l, c, zs, hcs, _, hl, hm, hz, _, hcell, hwz⟩
 ·simp at hcs;obtain ⟨rfl, rfl, rfl⟩ := hcs;exact ⟨[], rfl, by simp, .inl ⟨rfl, _, _, rfl⟩⟩
 ·simp at hcs;obtain ⟨rfl, rfl, rfl⟩ := hcs;have hz : zs.length = cap := by simpa using hz
  have hlen : ((zs.take len).map fun z => UInt8.ofNat z.toNat).length = len := by simp; omega
  refine ⟨(zs.take len).map fun z => UInt8.ofNat z.toNat, hlen, by rw [hlen]; exact Nat.le_trans hl hm, ?_⟩;rw [hlen];by_cases h0 : len = 0
  ·subst h0; exact .inl ⟨rfl, _, _, rfl⟩
  ·obtain ⟨b, off, spot⟩ := x;have hc := hcell 0 (by omega);have hspot : spot = none := by simpa [Addr.add] using World.cell?_spot hc
   subst hspot;refine .inr ⟨by omega, b, off, cap, rfl, World.block_lt_of_cell? W _ hc, fun i hi => ?_⟩;have h1 := hcell i (by omega);have h2 : i < zs.length := by omega
   have hw := hwz _ (List.getElem_mem h2);obtain ⟨n, hn, hn2⟩ := Ou hw;rw [Addr.add_lit] at h1;rw [h1];simp only [List.getD_eq_getElem?_getD, List.getElem?_map, List.getElem?_take, List.getElem?_eq_getElem h2, Option.getD_some, Option.map_some, if_pos hi, hn, bv, Int.toNat_natCast]
   congr 2
   rw [u8n n hn2]
theorem J6 {H : Type} {enc : TypeId × Value → H} {W : World} {b0 : Nat} {v : Value} {d : DataW H} {p : List MemPlace} (hv : Value.okWide Tryz.prog W .any b0 22 v) (h : DataW.Trod enc Tryz.prog W 0 (fun _ => true) true 22 v d p) :
  ∃ l : List UInt8, ByW W v l := by
 obtain ⟨a, len, cap, rfl⟩ := okWide_slice Tryz.underlying22 hv;obtain ⟨fuel, hf⟩ := h;obtain ⟨l, _, hl⟩ := U9 hf;exact ⟨l, hl⟩
theorem Yf {H : Type} {enc : TypeId × Value → H} {W : World} {fuel : Nat} {cs : List Value} {x : DataW H × List MemPlace} (hf : DataW.trod enc Tryz.prog W 0 (fun _ => true) true fuel 22 cs = some x) : ∃ a len cap, cs = [.slice a len cap] := by
 rcases open_ints Tryz.underlying22 Tryz.underlying5 (by kernel_rfl) hf with ⟨hcs, _⟩ | ⟨x, l, c, zs, hcs, _⟩
 ·exact ⟨_, _, _, hcs⟩
 ·exact ⟨_, _, _, hcs⟩
theorem J5 {H : Type} {enc : TypeId × Value → H} {W : World} {b0 : Nat} {v : Value} {d : DataW H} {p : List MemPlace} (hv : Value.okWide Tryz.prog W .any b0 24 v) (h : DataW.Trod enc Tryz.prog W 0 (fun _ => true) true 24 v d p) :
  ∃ S a n c A, v = .agg (Bx S a n c A) ∧ RawAt W S a n c A := by
 obtain ⟨cs, rfl, hsz⟩ := okWide_struct Tryz.underlying24 hv;obtain ⟨fuel, hf⟩ := h;obtain ⟨xs, m, _, _, hlen, hxl, hel⟩ := DataW.trod_struct Tryz.underlying24 hf;have hc24 : Tryz.prog.cellsOf 24 = 3 := by kernel_rfl
 have hc5 : Tryz.prog.cellsOf 5 = 1 := by kernel_rfl
 have hc22 : Tryz.prog.cellsOf 22 = 1 := by kernel_rfl
 rw [hc24] at hsz;obtain ⟨L⟩ := cs
 match L, hsz with
 | [u, s, t], _ =>
  match xs, hxl with
  | [x0, x1, x2], _ =>
   have h0 : DataW.trod enc Tryz.prog W 0 (fun _ => true) true m 5 (([u, s, t].drop 0).take (Tryz.prog.cellsOf 5)) = some x0 := hel 0 _ rfl;have h1 : DataW.trod enc Tryz.prog W 0 (fun _ => true) true m 22 (([u, s, t].drop 1).take (Tryz.prog.cellsOf 22)) = some x1 := hel 1 _ rfl;have h2 : DataW.trod enc Tryz.prog W 0 (fun _ => true) true m 5 (([u, s, t].drop 2).take (Tryz.prog.cellsOf 5)) = some x2 := hel 2 _ rfl;rw [hc5] at h0 h2;rw [hc22] at h1;obtain ⟨k0, e0, _, w0⟩ := DataW.trod_int Tryz.underlying5 h0;obtain ⟨k2, e2, _, w2⟩ := DataW.trod_int Tryz.underlying5 h2;obtain ⟨a, len, cap, e1⟩ := Yf h1;rw [e1] at h1;obtain ⟨l, hl, hb⟩ := U9 h1;obtain ⟨S, rfl, hS⟩ := Ou w0;obtain ⟨A, rfl, hA⟩ := Ou w2;have f0 : u = .int .u8 S := by injection e0
   have f1 : s = .slice a len cap := by injection e1
   have f2 : t = .int .u8 A := by injection e2
   subst f0 f1 f2;exact ⟨S, a, len, cap, A, rfl, hS, hA, l, hl, hb⟩
end Go.Proofs.YtaiogolidlamiaaGreatDoor
