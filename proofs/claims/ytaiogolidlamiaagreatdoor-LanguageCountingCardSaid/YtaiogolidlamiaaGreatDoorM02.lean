import Derived.Test.YtaiogolidlamiaaGreatDoorM01
import Derived.Deep.QuietTactic
import Derived.StillTail
set_option linter.unusedVariables false
set_option linter.unusedSimpArgs false
namespace Go.Proofs.YtaiogolidlamiaaGreatDoor
set_option maxRecDepth 100000
open Go.RowKit Go.Shelf
theorem op49 : WordOp 127 (bits BinOp.or IntKind.u64) := by
 intro x y w h1 h2 h3 h4
 go_enter Tryz.func127, Tryz.ntmps127
 go_wp2
 go_ret
 exact ⟨rfl, rfl⟩
theorem op50 : WordOp 126 (bits BinOp.and IntKind.u64) := by
 intro x y w h1 h2 h3 h4
 go_enter Tryz.func126, Tryz.ntmps126
 go_wp2
 go_ret
 exact ⟨rfl, rfl⟩
theorem op51 : WordOp 159 (bits BinOp.andNot IntKind.u64) := by
 intro x y w h1 h2 h3 h4
 go_enter Tryz.func159, Tryz.ntmps159
 go_wp2
 go_ret
 exact ⟨rfl, rfl⟩
theorem op52 : WordOp 128 (fun x _ => bits BinOp.xor IntKind.u64 IntKind.u64.max x) := by
 intro x y w h1 h2 h3 h4
 go_enter Tryz.func128, Tryz.ntmps128
 go_wp2
 all_goals go_ret
 all_goals exact ⟨rfl, rfl⟩
theorem union_any (a b : Cls) (w : World) :
  Calls Tryz.prog 93 #[.agg (encA a), .agg (encA b)] w fun e w' => e = .returned (.agg (encA (a ||| b))) ∧ Ext w w' := by
 have eg : ∀ args w, (callFunc 127 args).run Tryz.prog w = .ok (.enter 127 args) w := enters_of Tryz.func127 (by kernel_rfl) rfl
 have hA := heap_alloc_keep (heap_alloc_keep (heap_alloc_new w (.cells (encA a) 62)) (.cells (encA b) 62)) (.cells #[.int .u64 0, .int .u64 0, .int .u64 0, .int .u64 0] 62)
 have hB := heap_alloc_keep (heap_alloc_new (w.alloc (.cells (encA a) 62)) (.cells (encA b) 62)) (.cells #[.int .u64 0, .int .u64 0, .int .u64 0, .int .u64 0] 62)
 have hR := heap_alloc_new ((w.alloc (.cells (encA a) 62)).alloc (.cells (encA b) 62)) (.cells #[.int .u64 0, .int .u64 0, .int .u64 0, .int .u64 0] 62)
 have hE := (((Ext.refl w).alloc (.cells (encA a) 62)).alloc (.cells (encA b) 62)).alloc (.cells #[.int .u64 0, .int .u64 0, .int .u64 0, .int .u64 0] 62)
 rw [World.size_alloc] at hB
 rw [World.size_alloc, World.size_alloc] at hR
 have HB := Lib.hid hB
 clear hB
 have HA := Lib.hid hA
 have HR := Lib.hid hR
 clear hA hR
 have hcon := fun W => combine_any 127 _ op49 eg a b (a ||| b) (fun i hi => or_word a b i hi) W
 clear eg
 go_enter Tryz.func93, Tryz.ntmps93
 go_wp2_with (first
  | (refine wpList_load_row rfl 62 (.tmp 2) rfl _ rfl _ _ _ _ HA.out Tryz.underlying62 rfl info30 ?_)
  | (refine wpList_load_row rfl 62 (.tmp 3) rfl _ rfl _ _ _ _ HB.out Tryz.underlying62 rfl info30 ?_)
  | (go_at_call 125; refine (hcon _).mono ?_; rintro e w' ⟨rfl, hE'⟩; have HR' := Lib.hid (hE'.heap HR.out); clear hcon)
  | (refine wpList_store_row rfl 62 _ _ rfl _ _ rfl rfl _ _ HR'.out info30 rfl (encA_one _) ?_))
 refine bodyPost_ret (v := .agg (encA (a ||| b))) (results_cell_row rfl _ _ _ _ _ _ _ rfl (setRow_heap w' _ _ (encA (a ||| b)) 62 (0, 0) HR'.out) Tryz.underlying62 rfl info30) rfl ?_
 exact ⟨rfl, (hE.trans hE').setRow (by omega) _⟩
theorem inter_any (a b : Cls) (w : World) :
  Calls Tryz.prog 92 #[.agg (encA a), .agg (encA b)] w fun e w' => e = .returned (.agg (encA (a &&& b))) ∧ Ext w w' := by
 have eg : ∀ args w, (callFunc 126 args).run Tryz.prog w = .ok (.enter 126 args) w := enters_of Tryz.func126 (by kernel_rfl) rfl
 have hA := heap_alloc_keep (heap_alloc_keep (heap_alloc_new w (.cells (encA a) 62)) (.cells (encA b) 62)) (.cells #[.int .u64 0, .int .u64 0, .int .u64 0, .int .u64 0] 62)
 have hB := heap_alloc_keep (heap_alloc_new (w.alloc (.cells (encA a) 62)) (.cells (encA b) 62)) (.cells #[.int .u64 0, .int .u64 0, .int .u64 0, .int .u64 0] 62)
 have hR := heap_alloc_new ((w.alloc (.cells (encA a) 62)).alloc (.cells (encA b) 62)) (.cells #[.int .u64 0, .int .u64 0, .int .u64 0, .int .u64 0] 62)
 have hE := (((Ext.refl w).alloc (.cells (encA a) 62)).alloc (.cells (encA b) 62)).alloc (.cells #[.int .u64 0, .int .u64 0, .int .u64 0, .int .u64 0] 62)
 rw [World.size_alloc] at hB
 rw [World.size_alloc, World.size_alloc] at hR
 have HB := Lib.hid hB
 clear hB
 have HA := Lib.hid hA
 have HR := Lib.hid hR
 clear hA hR
 have hcon := fun W => combine_any 126 _ op50 eg a b (a &&& b) (fun i hi => and_word a b i hi) W
 clear eg
 go_enter Tryz.func92, Tryz.ntmps92
 go_wp2_with (first
  | (refine wpList_load_row rfl 62 (.tmp 2) rfl _ rfl _ _ _ _ HA.out Tryz.underlying62 rfl info30 ?_)
  | (refine wpList_load_row rfl 62 (.tmp 3) rfl _ rfl _ _ _ _ HB.out Tryz.underlying62 rfl info30 ?_)
  | (go_at_call 125; refine (hcon _).mono ?_; rintro e w' ⟨rfl, hE'⟩; have HR' := Lib.hid (hE'.heap HR.out); clear hcon)
  | (refine wpList_store_row rfl 62 _ _ rfl _ _ rfl rfl _ _ HR'.out info30 rfl (encA_one _) ?_))
 refine bodyPost_ret (v := .agg (encA (a &&& b))) (results_cell_row rfl _ _ _ _ _ _ _ rfl (setRow_heap w' _ _ (encA (a &&& b)) 62 (0, 0) HR'.out) Tryz.underlying62 rfl info30) rfl ?_
 exact ⟨rfl, (hE.trans hE').setRow (by omega) _⟩
theorem minus_any (a b : Cls) (w : World) :
  Calls Tryz.prog 154 #[.agg (encA a), .agg (encA b)] w fun e w' => e = .returned (.agg (encA (a &&& ~~~b))) ∧ Ext w w' := by
 have eg : ∀ args w, (callFunc 159 args).run Tryz.prog w = .ok (.enter 159 args) w := enters_of Tryz.func159 (by kernel_rfl) rfl
 have hA := heap_alloc_keep (heap_alloc_keep (heap_alloc_new w (.cells (encA a) 62)) (.cells (encA b) 62)) (.cells #[.int .u64 0, .int .u64 0, .int .u64 0, .int .u64 0] 62)
 have hB := heap_alloc_keep (heap_alloc_new (w.alloc (.cells (encA a) 62)) (.cells (encA b) 62)) (.cells #[.int .u64 0, .int .u64 0, .int .u64 0, .int .u64 0] 62)
 have hR := heap_alloc_new ((w.alloc (.cells (encA a) 62)).alloc (.cells (encA b) 62)) (.cells #[.int .u64 0, .int .u64 0, .int .u64 0, .int .u64 0] 62)
 have hE := (((Ext.refl w).alloc (.cells (encA a) 62)).alloc (.cells (encA b) 62)).alloc (.cells #[.int .u64 0, .int .u64 0, .int .u64 0, .int .u64 0] 62)
 rw [World.size_alloc] at hB
 rw [World.size_alloc, World.size_alloc] at hR
 have HB := Lib.hid hB
 clear hB
 have HA := Lib.hid hA
 have HR := Lib.hid hR
 clear hA hR
 have hcon := fun W => combine_any 159 _ op51 eg a b (a &&& ~~~b) (fun i hi => minus_word a b i hi) W
 clear eg
 go_enter Tryz.func154, Tryz.ntmps154
 go_wp2_with (first
  | (refine wpList_load_row rfl 62 (.tmp 2) rfl _ rfl _ _ _ _ HA.out Tryz.underlying62 rfl info30 ?_)
  | (refine wpList_load_row rfl 62 (.tmp 3) rfl _ rfl _ _ _ _ HB.out Tryz.underlying62 rfl info30 ?_)
  | (go_at_call 125; refine (hcon _).mono ?_; rintro e w' ⟨rfl, hE'⟩; have HR' := Lib.hid (hE'.heap HR.out); clear hcon)
  | (refine wpList_store_row rfl 62 _ _ rfl _ _ rfl rfl _ _ HR'.out info30 rfl (encA_one _) ?_))
 refine bodyPost_ret (v := .agg (encA (a &&& ~~~b))) (results_cell_row rfl _ _ _ _ _ _ _ rfl (setRow_heap w' _ _ (encA (a &&& ~~~b)) 62 (0, 0) HR'.out) Tryz.underlying62 rfl info30) rfl ?_
 exact ⟨rfl, (hE.trans hE').setRow (by omega) _⟩
theorem not_any (a : Cls) (w : World) :
  Calls Tryz.prog 94 #[.agg (encA a)] w fun e w' => e = .returned (.agg (encA (~~~a))) ∧ Ext w w' := by
 have eg : ∀ args w, (callFunc 128 args).run Tryz.prog w = .ok (.enter 128 args) w := enters_of Tryz.func128 (by kernel_rfl) rfl
 have hA := heap_alloc_keep (heap_alloc_new w (.cells (encA a) 62)) (.cells #[.int .u64 0, .int .u64 0, .int .u64 0, .int .u64 0] 62)
 have hR := heap_alloc_new (w.alloc (.cells (encA a) 62)) (.cells #[.int .u64 0, .int .u64 0, .int .u64 0, .int .u64 0] 62)
 have hE := ((Ext.refl w).alloc (.cells (encA a) 62)).alloc (.cells #[.int .u64 0, .int .u64 0, .int .u64 0, .int .u64 0] 62)
 rw [World.size_alloc] at hR
 have HA := Lib.hid hA
 have HR := Lib.hid hR
 clear hA hR
 have hcon := fun W => combine_any 128 _ op52 eg a a (~~~a) (fun i hi => not_word a i hi) W
 clear eg
 go_enter Tryz.func94, Tryz.ntmps94
 go_wp2_with (first
  | (refine wpList_load_row rfl 62 (.tmp 1) rfl _ rfl _ _ _ _ HA.out Tryz.underlying62 rfl info30 ?_)
  | (go_at_call 125; refine (hcon _).mono ?_; rintro e w' ⟨rfl, hE'⟩; have HR' := Lib.hid (hE'.heap HR.out); clear hcon)
  | (refine wpList_store_row rfl 62 _ _ rfl _ _ rfl rfl _ _ HR'.out info30 rfl (encA_one _) ?_))
 refine bodyPost_ret (v := .agg (encA (~~~a))) (results_cell_row rfl _ _ _ _ _ _ _ rfl (setRow_heap w' _ _ (encA (~~~a)) 62 (0, 0) HR'.out) Tryz.underlying62 rfl info30) rfl ?_
 exact ⟨rfl, (hE.trans hE').setRow (by omega) _⟩
end Go.Proofs.YtaiogolidlamiaaGreatDoor
namespace Go.Proofs.YtaiogolidlamiaaGreatDoor
set_option maxRecDepth 100000
open Go.RowKit Go.Shelf
theorem add_any (c : Cls) (b : Int) (hb0 : 0 ≤ b) (hb : b < 256) (B : Nat) (t : TypeId) (w : World) (hB : w.heap[B]? = some (.cells (encA c) t (0, 0))) :
  Calls Tryz.prog 90 #[.pointer (some ⟨B, 0, none⟩), .int .u8 b] w fun e w' => e = .returned (.tuple #[]) ∧ w' = (w.setRow B (encA (addB c b))).drew := by
 have hc := (cell_of_row w _ (b / 64).toNat _ _ _ hB).trans (encA_at c _ (by omega))
 have hf := frozen_of_row w _ (b / 64).toNat _ _ hB
 have ⟨h1, h2⟩ := wd_bd c (b / 64).toNat
 have HB := Lib.hid hB
 clear hB
 go_enter Tryz.func90, Tryz.ntmps90
 go_wp2
 go_region
 all_goals
  go_end0
  rw [add_val c b hb0 hb, setCell_eq_setRow w _ _ _ _ _ _ HB.out, add_row c b hb0 hb]
  exact ⟨rfl, rfl⟩
def ofL (l : List UInt8) : Cls := l.foldl (fun c x => addB c (x.toNat : Int)) 0#256
theorem ofL_snoc (l : List UInt8) (k : Nat) (h : k < l.length) : ofL (l.take (k + 1)) = addB (ofL (l.take k)) ((l.getD k 0).toNat : Int) := by
 unfold ofL
 rw [List.take_succ_eq_append_getElem h, List.foldl_append]
 simp [List.getD_eq_getElem?_getD, h]
abbrev zA : Array Value := #[.int .u64 0, .int .u64 0, .int .u64 0, .int .u64 0]
theorem encA_zero : encA 0#256 = zA := by simp [encA, wd_zero]
theorem of_walk (l : List UInt8) (hl : l.length ≤ 9223372036854775807) (a : Option Addr) (b off cap : Nat) (w : World) (ha : 0 < l.length → a = some ⟨b, off, none⟩) (_hb : 0 < l.length → b < w.heap.size)
  (hc : ∀ i, i < l.length → w.cell? ⟨b, off + i, none⟩ = some (bv (l.getD i 0))) :
  Calls Tryz.prog 44 #[.slice a l.length cap] w fun e w' => e = .returned (.agg (encA (ofL l))) ∧ Ext w w' := by
 go_enter Tryz.func44, Tryz.ntmps44
 go_wp2_with (fail)
 go_loopw [8] (fun i W => ∃ k : Nat, k ≤ l.length ∧ i = .int .i64 k ∧ Ext w W ∧ W.heap[w.heap.size]? = some (.cells zA 62 (0, 0)) ∧ W.heap[w.heap.size + 1]? = some (.cells (encA (ofL (l.take k))) 62 (0, 0)))
  (fun i _ => l.length - (intOf i).toNat)
 case atStart =>
  refine ⟨0, by omega, rfl, ((Ext.refl w).alloc _).alloc _, heap_alloc_keep (heap_alloc_new w _) _, ?_⟩
  rw [show ofL (l.take 0) = 0#256 from rfl, encA_zero]
  exact heap_alloc2_new w _ _
 case round =>
  obtain ⟨k, hk, rfl, hE, hR, hC⟩ := hrel
  have HC := Lib.hid hC
  have HR := Lib.hid hR
  clear hC hR
  by_cases hlt : k < l.length
  ·have cA := hE.cell (hc k hlt)
   have HS := Lib.hid (ofL_snoc l k (by omega))
   have hx := (l.getD k 0).toNat_lt
   have e := ha (by omega)
   clear ha hc
   subst e
   generalize l.getD k 0 = x at *
   have HA := Lib.hid (add_any (ofL (l.take k)) (x.toNat : Int) (by omega) (by omega) (w.heap.size + 1) 62 wr HC.out)
   go_wp2_with (go_at_call 90; refine HA.out.mono ?_; rintro e w' ⟨rfl, rfl⟩; clear HA)
   go_roundw
   case rel =>
    refine ⟨k + 1, by omega, by go_num, (hE.setRow (by omega) _).drew, heap_setRow_keep HR.out (by omega) _, ?_⟩
    rw [HS.out]
    exact setRow_heap wr _ _ _ _ _ HC.out
   case measure => simp [intOf]; omega
  ·obtain rfl : k = l.length := by omega
   rw [List.take_of_length_le (by omega)] at HC
   go_wp2_with (first
    | (refine wpList_load_row rfl 62 _ rfl _ rfl _ _ _ _ HC.out Tryz.underlying62 rfl info30 ?_)
    | (refine wpList_store_row rfl 62 _ _ rfl _ _ rfl rfl _ _ HR.out info30 rfl (encA_one _) ?_))
   refine bodyPost_ret (v := .agg (encA (ofL l))) (results_cell_row rfl _ _ _ _ _ _ _ rfl (setRow_heap wr _ _ (encA (ofL l)) 62 (0, 0) HR.out) Tryz.underlying62 rfl info30) rfl ?_
   exact ⟨rfl, hE.setRow (Nat.le_refl _) _⟩
theorem of_any (l : List UInt8) (v : Value) (w : World) (h : By w v l) : Calls Tryz.prog 44 #[v] w fun e w' => e = .returned (.agg (encA (ofL l))) ∧ Ext w w' := by
 obtain ⟨h0, ⟨hn, a, cap, rfl⟩ | ⟨hn, b, off, cap, rfl, hb, hc⟩⟩ := h
 ·have := of_walk l (by omega) a 0 0 cap w (by omega) (by omega) (fun i hi => by omega)
  rwa [hn] at this
 ·exact of_walk l (by omega) (some ⟨b, off, none⟩) b off cap w (fun _ => rfl) (fun _ => hb) (fun i hi => hc i (by omega))
end Go.Proofs.YtaiogolidlamiaaGreatDoor
namespace Go.Proofs.YtaiogolidlamiaaGreatDoor
set_option maxRecDepth 100000
open Go
section
variable {P : Program} {ops : Array Oper} {md : Region.Mode} {C : World → Prop}
def headQ (P : Program) (md : Region.Mode) (ops : Array Oper) (C : World → Prop) (n : Nat) (L : Array Bool → Act → Prop) : Nat → Array Bool → Act → Prop
 | 0, listed, a => L listed a
 | f + 1, listed, a =>
  Region.ready md ops listed ≠ [] ∧ ∀ i ∈ Region.ready md ops listed, i < n ∧ qOp P ops C i (headQ P md ops C n L f (listed.setIfInBounds i true)) a
theorem any_of_headQ {n g : Nat} {L : Array Bool → Act → Prop} {Q' : Exit → Act → World → Prop} (hL : ∀ listed a w, C w → L listed a → wpAny P md ops Q' g listed a w) :
  ∀ (f : Nat) (listed : Array Bool) (a : Act) (w : World), C w → headQ P md ops C n L f listed a → wpAny P md ops Q' (f + g) listed a w := by
 intro f
 induction f with
 | zero => intro listed a w hw h; rw [Nat.zero_add]; exact hL _ _ _ hw h
 | succ f ih =>
  intro listed a w hw h
  rw [show f + 1 + g = (f + g) + 1 by omega]
  exact ⟨fun h0 => absurd h0 h.1, fun i hi => wpOp_of_qOp hw (fun a' w' hw' h' => ih _ a' w' hw' h') (h.2 i hi).2⟩
theorem headQ_first {n i : Nat} {oi : Oper} {v : Value} {L : Array Bool → Act → Prop} (hi : ops[i]? = some oi) (hsel : ∀ (j : Nat) (o : Oper) cs b, ops[j]? = some o → o.op ≠ .select cs b)
  (hs : Region.sinkB md ops n = true) (hc : Region.chainB md ops n = true) (hn : n < ops.size) (hin : i < n)
  (hdone : ∀ listed a, L listed a → ∀ j ∈ Region.ready md ops listed, n ≤ j) :
  ∀ (f : Nat) (listed : Array Bool) (a : Act), HeadInv md ops n listed →
   (∀ j oj, ops[j]? = some oj → j ≠ i → listed.getD j true = false → (∀ e ∈ oj.after, Region.binds md e = true → e.on ≠ i) → oi.apart ops oj = true) →
   i ∈ Region.ready md ops listed → YieldsIn P ops C oi v a →
   headQ P md ops C n L f (listed.setIfInBounds i true) (a.put oi.dst v) → headQ P md ops C n L (f + 1) listed a := by
 intro f
 induction f with
 | zero =>
  intro listed a inv _ hr hy H
  refine ⟨fun h => (by rw [h] at hr; cases hr), fun j hj => ?_⟩
  have hjn : j < n := Nat.lt_of_not_le fun h => tail_waits hs hc hn inv _ i rfl hin (mem_ready.1 hr).1 j h hj
  refine ⟨hjn, ?_⟩
  by_cases hji : j = i
  ·subst hji; exact hy.qOp hi H
  ·exact absurd (hdone _ _ H j (ready_mono hj hji)) (by omega)
 | succ f ih =>
  intro listed a inv hfree hr hy H
  have hun := (mem_ready.1 hr).1
  refine ⟨fun h => (by rw [h] at hr; cases hr), fun j hj => ?_⟩
  have hjn : j < n := Nat.lt_of_not_le fun h => tail_waits hs hc hn inv _ i rfl hin hun j h hj
  refine ⟨hjn, ?_⟩
  by_cases hji : j = i
  ·subst hji; exact hy.qOp hi H
  ·obtain ⟨hjun, oj, hoj, hall⟩ := mem_ready.1 hj
   have hnot : ∀ e ∈ oj.after, Region.binds md e = true → e.on ≠ i := fun e he hb heq => by
    have h1 := hall e he hb
    rw [heq, getD_both hun] at h1
    cases h1
   have h2 := qOp_put hoj (hfree j oj hoj hji hjun hnot) (fun cs b => hsel i oi cs b hi) (fun cs b => hsel j oj cs b hoj) hy (H.2 j (ready_mono hj hji)).2
   refine qOp_mono (fun a' h3 => ih (listed.setIfInBounds j true) a' (inv.set hj hjn) (fun k ok hk hki hunk hno => ?_) (ready_mono hr (Ne.symm hji)) h3.1 ?_) h2
   ·refine hfree k ok hk hki ?_ hno
    by_cases hjk : j = k
    ·subst hjk; exact hjun
    ·rwa [getD_set_ne true hjk] at hunk
   ·rw [Array.setIfInBounds_comm _ _ hji]
    exact h3.2
theorem headQ_lex {n g : Nat} {Lq : Act → Prop} (hsel : Region.noSelect ops = true) (hs : Region.sinkB md ops n = true) (hc : Region.chainB md ops n = true) (hn : n < ops.size) :
  ∀ (l : List Oper) (k : Nat) (listed : Array Bool) (a : Act), (∀ j, j < l.length → l[j]? = ops[k + j]?) → k + l.length = n → HeadInv md ops n listed →
  Region.lexHead md ops g l.length k listed = true → wpQuiet P ops C Lq l a →
  headQ P md ops C n (fun listed' a' => Region.seqB md ops g n listed' = true ∧ Lq a') l.length listed a := by
 intro l
 induction l with
 | nil =>
  intro k listed a _ hk _ hB h
  obtain rfl : k = n := by simpa using hk
  exact ⟨by simpa [Region.lexHead] using hB, h⟩
 | cons o l ih =>
  intro k listed a hl hk inv hB h
  have h0 : ops[k]? = some o := by simpa using (hl 0 (by simp)).symm
  simp only [List.length_cons, Region.lexHead, Bool.and_eq_true] at hB
  have hkn : k < n := by simp only [List.length_cons] at hk; omega
  have hr' : k ∈ Region.ready md ops listed := by simpa using hB.1.1
  have hst : qOp P ops C k (wpQuiet P ops C Lq l) a := by unfold qOp; simp only [h0]; exact h
  obtain ⟨v, hy, hK⟩ := yieldsIn_of_qOp h0 hst
  exact headQ_first h0 (Region.noSelect_spec hsel) hs hc hn hkn (fun listed' a' hL => seqB_ready hL.1) l.length listed a inv (Region.free_spec h0 hB.1.2) hr' hy
   (ih (k + 1) _ _ (fun j hj => by have := hl (j + 1) (by simp; omega); simpa [Nat.add_assoc, Nat.add_comm 1 j] using this) (by simp only [List.length_cons] at hk; omega) (inv.set hr' hkn) hB.2 hK)
theorem wp_region_quietTail {id : Nat} {Q : Exit → Act → World → Prop} {a : Act} {w : World} {l : List Oper} (n : Nat) (hm : P.follows .mixedOrders = true) (hB : Region.lexTailB .any l.toArray n = true) (hC : C { w with drawn := w.drawn + 1 })
  (h : wpQuiet P l.toArray C (fun a' => ∀ w', C w' → wpList P l.toArray Q (l.drop n) a' w') (l.take n) a) : (Code.region id l.toArray true).wp P Q a w := by
 simp only [Region.lexTailB, Bool.and_eq_true, decide_eq_true_eq] at hB
 obtain ⟨⟨⟨⟨hsel, hn⟩, hs⟩, hc⟩, hlex⟩ := hB
 have hn' : n < l.length := by simpa using hn
 have htl : (l.take n).length = n := by simp; omega
 have hdl : (l.drop n).length = l.toArray.size - n := by simp
 have inv0 : HeadInv .any l.toArray n (Array.replicate l.toArray.size false) :=
  ⟨by simp, fun j oj _ hl => (by rw [getD_replicate_false] at hl; cases hl), fun t _ ht => getD_in (by simpa using ht) (getD_replicate_false _ _)⟩
 have H := headQ_lex (md := .any) (g := l.toArray.size - n) hsel hs hc hn (l.take n) 0 _ a (fun j hj => by
  have hj' : j < n := by rw [htl] at hj; exact hj
  simp [hj']) (by simpa using htl) inv0 (by rw [htl]; exact hlex) h
 refine wp_region_any hm ?_
 have := any_of_headQ (Q' := Q) (g := l.toArray.size - n) (fun listed a' w' hw' hL => by
  have := wpAny_of_seq (md := .any) (Q' := Q) (l.drop n) n listed a' w' (fun j => by simp [List.getElem?_drop]) (by rw [hdl]; exact hL.1) (hL.2 w' hw')
  rwa [hdl] at this) _ _ _ _ hC H
 rw [htl, show n + (l.toArray.size - n) = l.toArray.size by omega] at this
 exact this
theorem wpList_of_quiet {Q : Exit → Act → World → Prop} (r : List Oper) : ∀ (l : List Oper) (a : Act) (w : World), C w → wpQuiet P ops C (fun a' => ∀ w', C w' → wpList P ops Q r a' w') l a → wpList P ops Q (l ++ r) a w := by
 intro l
 induction l with
 | nil => intro a w hw h; exact h w hw
 | cons o l ih =>
  intro a w hw h
  show if _ then _ else _
  unfold wpQuiet at h
  split at h
  ·rename_i hwa
   rw [if_pos hwa]
   exact .inl (Oper.wp_of_quiet hw (fun a' w' hw' h' => ih a' w' hw' h') h)
  ·rename_i hwa
   rw [if_neg hwa]
   exact ih _ _ hw h
theorem wp_region_quietText {id : Nat} {Q : Exit → Act → World → Prop} {a : Act} {w : World} {l : List Oper} (n : Nat) (hC : C w)
  (h : wpQuiet P l.toArray C (fun a' => ∀ w', C w' → wpList P l.toArray Q (l.drop n) a' w') (l.take n) a) : (Code.region id l.toArray false).wp P Q a w := by
 refine wp_region_lit ?_
 have := wpList_of_quiet (l.drop n) (l.take n) a w hC h
 rwa [List.take_append_drop] at this
end
structure EW (w : World) where
 W : World
 ext : Ext w W
instance (w : World) : Nonempty (EW w) := ⟨⟨w, Ext.refl w⟩⟩
section
variable {P : Program}
theorem region_ew {id : Nat} {Q : Exit → Act → World → Prop} {a : Act} {w : World} {l : List Oper} (hm : P.follows .mixedOrders = true) (hB : Region.lexB .any l.toArray = true)
  (h : wpQuiet P l.toArray (fun W => ∃ e : EW w, W = e.W) (fun a' => ∀ w', (∃ e : EW w, w' = e.W) → Q .normal a' w') l a) : (Code.region id l.toArray true).wp P Q a w :=
 wp_region_quiet (C := fun W => ∃ e : EW w, W = e.W) hm hB ⟨⟨_, (Ext.refl w).drawn1⟩, rfl⟩ (by simpa using h)
theorem region_ew_tail {id : Nat} {Q : Exit → Act → World → Prop} {a : Act} {w : World} {l : List Oper} (n : Nat) (hm : P.follows .mixedOrders = true) (hB : Region.lexTailB .any l.toArray n = true)
  (h : wpQuiet P l.toArray (fun W => ∃ e : EW w, W = e.W) (fun a' => ∀ w', (∃ e : EW w, w' = e.W) → wpList P l.toArray Q (l.drop n) a' w') (l.take n) a) : (Code.region id l.toArray true).wp P Q a w :=
 wp_region_quietTail (C := fun W => ∃ e : EW w, W = e.W) n hm hB ⟨⟨_, (Ext.refl w).drawn1⟩, rfl⟩ h
theorem region_ew_text {id : Nat} {Q : Exit → Act → World → Prop} {a : Act} {w : World} {l : List Oper} (n : Nat)
  (h : wpQuiet P l.toArray (fun W => ∃ e : EW w, W = e.W) (fun a' => ∀ w', (∃ e : EW w, w' = e.W) → wpList P l.toArray Q (l.drop n) a' w') (l.take n) a) : (Code.region id l.toArray false).wp P Q a w :=
 wp_region_quietText (C := fun W => ∃ e : EW w, W = e.W) n ⟨⟨_, Ext.refl w⟩, rfl⟩ h
theorem calls_ew {f : FuncId} {args : Array Value} {w : World} {e0 : EW w} {v : Value} (h : Calls P f args e0.W fun e w' => e = .returned v ∧ Ext e0.W w') :
  Calls P f args e0.W fun e w'' => e = .returned v ∧ ∃ e1 : EW w, w'' = e1.W :=
 h.mono fun _ w' ⟨he, hw⟩ => ⟨he, ⟨w', e0.ext.trans hw⟩, rfl⟩
theorem calls_ew_same {f : FuncId} {args : Array Value} {w : World} {e0 : EW w} {v : Value} (h : Calls P f args e0.W fun e w' => e = .returned v ∧ w' = e0.W) :
  Calls P f args e0.W fun e w'' => e = .returned v ∧ ∃ e1 : EW w, w'' = e1.W :=
 h.mono fun _ _ ⟨he, hw⟩ => ⟨he, e0, hw⟩
end
end Go.Proofs.YtaiogolidlamiaaGreatDoor
namespace Go.Proofs.YtaiogolidlamiaaGreatDoor
set_option maxRecDepth 100000
open Go.RowKit Go.Shelf
theorem ew_cells {w : World} {B : Nat} {c : Cls} {t : TypeId} {fr : Nat × Nat} (h : w.heap[B]? = some (.cells (encA c) t fr)) :
  (∀ e : EW w, e.W.cell? ⟨B, 0, none⟩ = some (.int .u64 (wd c 0))) ∧ (∀ e : EW w, e.W.cell? ⟨B, 1, none⟩ = some (.int .u64 (wd c 1))) ∧
  (∀ e : EW w, e.W.cell? ⟨B, 2, none⟩ = some (.int .u64 (wd c 2))) ∧ (∀ e : EW w, e.W.cell? ⟨B, 3, none⟩ = some (.int .u64 (wd c 3))) :=
 ⟨fun e => (cell_of_row e.W _ 0 _ _ _ (e.ext.heap h)).trans rfl, fun e => (cell_of_row e.W _ 1 _ _ _ (e.ext.heap h)).trans rfl,
  fun e => (cell_of_row e.W _ 2 _ _ _ (e.ext.heap h)).trans rfl, fun e => (cell_of_row e.W _ 3 _ _ _ (e.ext.heap h)).trans rfl⟩
theorem ew_cell {w : World} {p : Addr} {v : Value} (h : w.cell? p = some v) : ∀ e : EW w, e.W.cell? p = some v := fun e => e.ext.cell h
end Go.Proofs.YtaiogolidlamiaaGreatDoor
namespace Go.Proofs.YtaiogolidlamiaaGreatDoor
set_option maxRecDepth 100000
open Go.RowKit Go.Shelf
theorem stI1 (x : Nat) (h : x < 18446744073709551616) (h1 : st1 x < 18446744073709551616) :
  IntKind.u64.wrap (bits BinOp.and IntKind.u64 ((x : Int) / 2) 6148914691236517205 + bits BinOp.and IntKind.u64 (x : Int) 6148914691236517205) = (st1 x : Int) := by
 rw [show ((x : Int) / 2) = ((x / 2 : Nat) : Int) by omega, show (6148914691236517205 : Int) = ((6148914691236517205 : Nat) : Int) from rfl, u64_and_nat _ _ (by omega) (by omega), u64_and_nat _ _ h (by omega)]
 rw [IntKind.wrap_u64]; unfold st1 at *; omega
theorem stI2 (x : Nat) (h : x < 18446744073709551616) (h1 : st2 x < 18446744073709551616) :
  IntKind.u64.wrap (bits BinOp.and IntKind.u64 ((x : Int) / 4) 3689348814741910323 + bits BinOp.and IntKind.u64 (x : Int) 3689348814741910323) = (st2 x : Int) := by
 rw [show ((x : Int) / 4) = ((x / 4 : Nat) : Int) by omega, show (3689348814741910323 : Int) = ((3689348814741910323 : Nat) : Int) from rfl, u64_and_nat _ _ (by omega) (by omega), u64_and_nat _ _ h (by omega)]
 rw [IntKind.wrap_u64]; unfold st2 at *; omega
theorem stI3 (x : Nat) (h : x ≤ 4919131752989213764) : bits BinOp.and IntKind.u64 ((x : Int) / 16 + (x : Int)) 1085102592571150095 = (st3 x : Int) := by
 rw [show ((x : Int) / 16 + (x : Int)) = ((x / 16 + x : Nat) : Int) by omega, show (1085102592571150095 : Int) = ((1085102592571150095 : Nat) : Int) from rfl, u64_and_nat _ _ (by omega) (by omega)]
 rfl
theorem stI7 (x : Nat) (h : x < 9223372036854775808) : bits BinOp.and IntKind.i64 (x : Int) 127 = ((x % 128 : Nat) : Int) := by
 show IntKind.i64.wrap ((BitVec.ofInt 64 (x : Int) &&& BitVec.ofInt 64 ((127 : Nat) : Int)).toNat : Int) = _
 rw [BitVec.toNat_and, ofInt_u64 x (by omega), ofInt_u64 127 (by omega), show (127 : Nat) = 2 ^ 7 - 1 from rfl, Nat.and_two_pow_sub_one_eq_mod]
 exact IntWalk.i64_in _ ⟨by omega, by omega⟩
theorem ones_any (x : Nat) (hx : x < 18446744073709551616) (w : World) :
  Calls Tryz.prog 135 #[.int .u64 (x : Int)] w fun e w' => e = .returned (.int .i64 (cnt x.testBit 64)) ∧ w' = w := by
 obtain ⟨h1, h2, h3, h4⟩ := stages x hx
 have H4 := Lib.hid h4
 clear h4
 go_enter Tryz.func135, Tryz.ntmps135
 go_upto_region 1 with (fail)
 go_cut [0] (fun v W => v = .int .u64 (st1 x : Int) ∧ W = w)
 case first =>
  go_wp2
  go_meet
  exact ⟨by rw [stI1 x hx h1], rfl⟩
 case rest =>
 obtain ⟨rfl, rfl⟩ := hcut
 generalize st1 x = x1 at *
 go_upto_region 2 with (fail)
 go_cut [0] (fun v W => v = .int .u64 (st2 x1 : Int) ∧ W = wc)
 case first =>
  go_wp2
  go_meet
  exact ⟨by rw [stI2 x1 h1 (by omega)], rfl⟩
 case rest =>
 obtain ⟨rfl, rfl⟩ := hcut
 generalize st2 x1 = x2 at *
 go_upto_region 3 with (fail)
 go_cut [0] (fun v W => v = .int .u64 (st3 x2 : Int) ∧ W = wc)
 case first =>
  go_wp2
  go_meet
  exact ⟨by rw [stI3 x2 h2], rfl⟩
 case rest =>
 obtain ⟨rfl, rfl⟩ := hcut
 generalize st3 x2 = x3 at *
 go_upto_region 4 with (fail)
 go_cut [0] (fun v W => v = .int .u64 (st4 x3 : Int) ∧ W = wc)
 case first =>
  go_wp2
  go_meet
  exact ⟨by unfold st4; go_num, rfl⟩
 case rest =>
 obtain ⟨rfl, rfl⟩ := hcut
 have h5 : st4 x3 ≤ 1157442765409226768 := by unfold st4; omega
 generalize st4 x3 = x4 at *
 go_upto_region 5 with (fail)
 go_cut [0] (fun v W => v = .int .u64 (st5 x4 : Int) ∧ W = wc)
 case first =>
  go_wp2
  go_meet
  exact ⟨by unfold st5; go_num, rfl⟩
 case rest =>
 obtain ⟨rfl, rfl⟩ := hcut
 have h6 : st5 x4 ≤ 1157492765409226768 := by unfold st5; omega
 generalize st5 x4 = x5 at *
 go_upto_region 6 with (fail)
 go_cut [0] (fun v W => v = .int .u64 (st6 x5 : Int) ∧ W = wc)
 case first =>
  go_wp2
  go_meet
  exact ⟨by unfold st6; go_num, rfl⟩
 case rest =>
 obtain ⟨rfl, rfl⟩ := hcut
 have h7 : st6 x5 ≤ 1157500000000000000 := by unfold st6; omega
 generalize st6 x5 = x6 at *
 go_wp2
 go_ret
 exact ⟨ret_int (by rw [stI7 x6 (by omega), H4.out]), rfl⟩
def sz (c : Cls) : Nat := cnt c.getLsbD 256
theorem sz_le (c : Cls) : sz c ≤ 256 := cnt_le _ _
theorem bytesTo_cnt (c : Cls) (k : Nat) : (bytesTo c k).length = cnt c.getLsbD k := by
 induction k with
 | zero => rfl
 | succ k ih => simp only [bytesTo, cnt]; split <;> simp [ih]
theorem cnt_word (c : Cls) (k : Nat) : cnt c.getLsbD (64 * (k + 1)) = cnt c.getLsbD (64 * k) + cnt (wn c k).testBit 64 := by
 rw [show 64 * (k + 1) = 64 * k + 64 by omega, cnt_add]
 congr 1
 exact cnt_congr _ _ _ fun i hi => by rw [wn_testBit]; simp [hi]
theorem ones_wd (c : Cls) (k : Nat) (w : World) : Calls Tryz.prog 135 #[.int .u64 (wd c k)] w fun e w' => e = .returned (.int .i64 (cnt (wn c k).testBit 64)) ∧ w' = w :=
 ones_any (wn c k) (wn_lt c k) w
theorem index30 (c : Cls) (k : Nat) (h : k < 4) (w : World) : (Instr.index 62 (.agg (encA c)) (.int .i64 (k : Int))).run Tryz.prog w = .ok (.int .u64 (wd c k)) w := by
 match k, h with
 | 0, _ => exact (by kernel_rfl : (Instr.index 62 (.agg (encA c)) (.int .i64 ((0 : Nat) : Int))).run Tryz.prog w = .ok (.int .u64 (wd c 0)) w)
 | 1, _ => exact (by kernel_rfl : (Instr.index 62 (.agg (encA c)) (.int .i64 ((1 : Nat) : Int))).run Tryz.prog w = .ok (.int .u64 (wd c 1)) w)
 | 2, _ => exact (by kernel_rfl : (Instr.index 62 (.agg (encA c)) (.int .i64 ((2 : Nat) : Int))).run Tryz.prog w = .ok (.int .u64 (wd c 2)) w)
 | 3, _ => exact (by kernel_rfl : (Instr.index 62 (.agg (encA c)) (.int .i64 ((3 : Nat) : Int))).run Tryz.prog w = .ok (.int .u64 (wd c 3)) w)
theorem size_any (c : Cls) (w : World) :
  Calls Tryz.prog 105 #[.agg (encA c)] w fun e w' => e = .returned (.int .i64 (sz c)) ∧ Ext w w' := by
 have hA := heap_alloc_new w (.cells (encA c) 62)
 have hE := (Ext.refl w).alloc (.cells (encA c) 62)
 have HA := Lib.hid hA
 clear hA
 go_enter Tryz.func105, Tryz.ntmps105
 go_wp2_with (refine wpList_load_row rfl 62 (.tmp 1) rfl _ rfl _ _ _ _ HA.out Tryz.underlying62 rfl info30 ?_)
 generalize w.alloc (.cells (encA c) 62) = w1 at *
 go_loop [3, 7] (fun n i => ∃ k : Nat, k ≤ 4 ∧ i = .int .i64 k ∧ n = .int .i64 (cnt c.getLsbD (64 * k) : Nat)) (fun _ i => 4 - (intOf i).toNat)
 case atStart => exact ⟨0, by omega, rfl, rfl⟩
 case round =>
  obtain ⟨k, hk, rfl, rfl⟩ := hrel
  by_cases hlt : k < 4
  ·have hix := index30 c k hlt
   have hcon := fun W => Lib.hid (ones_wd c k W)
   have hb := cnt_le c.getLsbD (64 * k)
   have hb2 := cnt_le (wn c k).testBit 64
   have HS := Lib.hid (cnt_word c k)
   generalize cnt (wn c k).testBit 64 = y at *
   generalize cnt c.getLsbD (64 * k) = z at *
   go_wp2_with (go_at_call 135; refine (hcon _).out.mono ?_; rintro e w' ⟨rfl, rfl⟩)
   go_round
   case rel => exact ⟨k + 1, by omega, by go_num, by rw [HS.out]; go_num⟩
   case measure => simp [intOf]; omega
  ·obtain rfl : k = 4 := by omega
   go_wp2
   go_ret
   exact ⟨rfl, hE⟩
end Go.Proofs.YtaiogolidlamiaaGreatDoor
namespace Go.Proofs.YtaiogolidlamiaaGreatDoor
set_option maxRecDepth 100000
def split1 (k c : Cls) : List Cls := [c &&& k, c &&& ~~~k].filter (· != 0#256)
def splitC (k : Cls) (L : List Cls) : List Cls := L.flatMap (split1 k)
def allC : Cls := ~~~(0#256)
def cellsU (l : List Cls) : List Cls := l.foldl (fun L k => splitC k L) [allC]
theorem cnt_or (p q r : Nat → Bool) (n : Nat) (h : ∀ k, k < n → (p k).toNat = (q k).toNat + (r k).toNat) : cnt p n = cnt q n + cnt r n := by
 induction n with
 | zero => rfl
 | succ n ih =>
  have h1 := ih (fun k hk => h k (by omega))
  have h2 := h n (by omega)
  simp only [cnt]
  cases hp : p n <;> cases hq : q n <;> cases hr : r n <;> simp_all <;> omega
theorem sz_split (k c : Cls) : sz c = sz (c &&& k) + sz (c &&& ~~~k) := by
 unfold sz
 refine cnt_or _ _ _ 256 fun j hj => ?_
 simp only [BitVec.getLsbD_and, BitVec.getLsbD_not, hj, decide_true, Bool.true_and]
 cases c.getLsbD j <;> cases k.getLsbD j <;> rfl
theorem cnt_zero {p : Nat → Bool} {n : Nat} (h : cnt p n = 0) : ∀ k, k < n → p k = false := by
 induction n with
 | zero => intro k hk; omega
 | succ n ih =>
  simp only [cnt] at h
  intro k hk
  by_cases hkn : k = n
  ·subst hkn
   cases hp : p k
   ·rfl
   ·rw [hp] at h; simp at h
  ·exact ih (by omega) k (by omega)
theorem sz_zero : sz 0#256 = 0 := by
 unfold sz
 have : ∀ n, cnt (0#256).getLsbD n = 0 := fun n => by
  induction n with
  | zero => rfl
  | succ n ih => simp [cnt, ih]
 exact this 256
theorem sz_eq_zero (c : Cls) : sz c = 0 ↔ c = 0#256 := by
 refine ⟨fun h => ?_, fun h => by rw [h]; exact sz_zero⟩
 apply BitVec.eq_of_getLsbD_eq
 intro i hi
 rw [cnt_zero h i hi]; simp
theorem sz_all : sz allC = 256 := by
 unfold sz allC
 have : ∀ n, n ≤ 256 → cnt (~~~(0#256)).getLsbD n = n := fun n => by
  induction n with
  | zero => intro _; rfl
  | succ n ih =>
   intro hn
   have := ih (by omega)
   simp only [cnt, this, BitVec.getLsbD_not, BitVec.getLsbD_zero]
   simp; omega
 exact this 256 (Nat.le_refl _)
def szs (L : List Cls) : Nat := (L.map sz).sum
theorem split1_eq (k c : Cls) : split1 k c = (if c &&& k = 0#256 then [] else [c &&& k]) ++ (if c &&& ~~~k = 0#256 then [] else [c &&& ~~~k]) := by
 unfold split1
 generalize c &&& k = x
 generalize c &&& ~~~k = y
 by_cases h1 : x = 0#256 <;> by_cases h2 : y = 0#256 <;> simp [h1, h2]
theorem szs_split1 (k c : Cls) : szs (split1 k c) = sz c := by
 rw [sz_split k c]
 rw [split1_eq]
 unfold szs
 generalize c &&& k = x
 generalize c &&& ~~~k = y
 by_cases h1 : x = 0#256 <;> by_cases h2 : y = 0#256 <;> simp [h1, h2, sz_zero]
theorem szs_append (L M : List Cls) : szs (L ++ M) = szs L + szs M := by simp [szs]
theorem szs_splitC (k : Cls) (L : List Cls) : szs (splitC k L) = szs L := by
 induction L with
 | nil => rfl
 | cons c L ih =>
  show szs (split1 k c ++ splitC k L) = szs ([c] ++ L)
  rw [szs_append, szs_append, szs_split1, ih]
  simp [szs]
theorem split1_nz (k c : Cls) : ∀ x ∈ split1 k c, x ≠ 0#256 := by
 intro x hx
 simpa using (List.mem_filter.1 hx).2
theorem splitC_nz (k : Cls) (L : List Cls) : ∀ x ∈ splitC k L, x ≠ 0#256 := by
 intro x hx
 obtain ⟨c, _, hc⟩ := List.mem_flatMap.1 hx
 exact split1_nz k c x hc
def Full (L : List Cls) : Prop := szs L = 256 ∧ ∀ c ∈ L, c ≠ 0#256
theorem full_one : Full [allC] := ⟨by simp [szs, sz_all], fun c hc => by simp at hc; subst hc; decide⟩
theorem Full.split {L : List Cls} (h : Full L) (k : Cls) : Full (splitC k L) := ⟨by rw [szs_splitC, h.1], splitC_nz k L⟩
theorem len_le_szs (L : List Cls) (h : ∀ c ∈ L, c ≠ 0#256) : L.length ≤ szs L := by
 induction L with
 | nil => simp
 | cons c L ih =>
  have h1 := ih (fun x hx => h x (by simp [hx]))
  have h2 : sz c ≠ 0 := fun e => h c (by simp) ((sz_eq_zero c).1 e)
  simp only [szs, List.map_cons, List.sum_cons, List.length_cons] at *
  omega
theorem Full.len {L : List Cls} (h : Full L) : L.length ≤ 256 := by rw [← h.1]; exact len_le_szs L h.2
theorem Full.pos {L : List Cls} (h : Full L) : 0 < L.length := by
 cases L with
 | nil => exact absurd h.1 (by simp [szs])
 | cons => simp
theorem full_cellsU (l : List Cls) : Full (cellsU l) := by
 have : ∀ (l : List Cls) (L : List Cls), Full L → Full (l.foldl (fun L k => splitC k L) L) := fun l => by
  induction l with
  | nil => intro L h; exact h
  | cons k l ih => intro L h; exact ih _ (h.split k)
 exact this l _ full_one
theorem cellsU_take_succ (l : List Cls) (k : Nat) (h : k < l.length) : cellsU (l.take (k + 1)) = splitC (l.getD k 0#256) (cellsU (l.take k)) := by
 have e : l.take (k + 1) = l.take k ++ [l.getD k 0#256] := by
  rw [List.take_add_one]; congr 1; simp [List.getElem?_eq_getElem h]
 rw [e]; simp [cellsU, List.foldl_append]
theorem splitC_take_succ (k : Cls) (L : List Cls) (j : Nat) (h : j < L.length) : splitC k (L.take (j + 1)) = splitC k (L.take j) ++ split1 k (L.getD j 0#256) := by
 have e : L.take (j + 1) = L.take j ++ [L.getD j 0#256] := by
  rw [List.take_add_one]; congr 1; simp [List.getElem?_eq_getElem h]
 rw [e]; simp [splitC, List.flatMap_append]
theorem split1_len (k c : Cls) : (split1 k c).length ≤ 2 := by
 rw [split1_eq]; split <;> split <;> simp
theorem splitC_len (k : Cls) (L : List Cls) : (splitC k L).length ≤ 2 * L.length := by
 induction L with
 | nil => simp [splitC]
 | cons c L ih =>
  have := split1_len k c
  show (split1 k c ++ splitC k L).length ≤ _
  simp only [List.length_append, List.length_cons]; omega
end Go.Proofs.YtaiogolidlamiaaGreatDoor
namespace Go.Proofs.YtaiogolidlamiaaGreatDoor
set_option maxRecDepth 100000
open Go.RowKit Go.Shelf
end Go.Proofs.YtaiogolidlamiaaGreatDoor
