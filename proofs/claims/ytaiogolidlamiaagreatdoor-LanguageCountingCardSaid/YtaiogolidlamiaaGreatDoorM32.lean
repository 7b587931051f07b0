import Derived.Test.YtaiogolidlamiaaGreatDoorM31
set_option linter.unusedVariables false
set_option linter.unusedSimpArgs false
namespace Go.Proofs.YtaiogolidlamiaaGreatDoor
set_option maxRecDepth 100000
open Go.RowKit Go.Shelf
open Go.Maps (Keyed)
theorem finv_congr {κ : Type} {key : Nat → κ} {x : Nat} {c c' : Nat → Nat} {bs : List Nat} {f : κ → Option Nat} (h : FInv key x c bs f) (hc : ∀ y, y < x → c' y = c y) : FInv key x c' bs f where
 le := h.le
 lt := fun y hy => by rw [hc y hy]; exact h.lt y hy
 byte := fun k hk => by
  obtain ⟨h1, h2⟩ := h.byte k hk
  exact ⟨h1, by rw [hc _ h1]; exact h2⟩
 same := fun y z hy hz => by rw [hc y hy, hc z hz]; exact h.same y z hy hz
 has := fun y hy => by rw [hc y hy]; exact h.has y hy
 from_ := fun p i hp => by
  obtain ⟨y, hy, h1, h2⟩ := h.from_ p i hp
  exact ⟨y, hy, h1, by rw [hc y hy]; exact h2⟩
 first := fun y hy => by rw [hc y hy]; exact h.first y hy
 inc := h.inc
theorem finv_set_old {κ : Type} {key : Nat → κ} {x : Nat} {N bs : List Nat} {f : κ → Option Nat} (h : FInv key x (fun s => N.getD s 0) bs f) (hx : x < N.length) (i : Nat) (hi : f (key x) = some i) : FInv key (x + 1) (fun s => (N.set x i).getD s 0) bs f :=
 finv_congr (finv_old h i hi) fun y _ => by
  rw [getD_set _ _ _ _ _ hx]
theorem finv_set_new {κ : Type} [DecidableEq κ] {key : Nat → κ} {x : Nat} {N bs : List Nat} {f : κ → Option Nat} (h : FInv key x (fun s => N.getD s 0) bs f) (hx : x < N.length) (hi : f (key x) = none) :
  FInv key (x + 1) (fun s => (N.set x bs.length).getD s 0) (bs ++ [x]) (fun p => if p = key x then some bs.length else f p) :=
 finv_congr (finv_new h hi) fun y _ => by
  rw [getD_set _ _ _ _ _ hx]
def Big (L : List UInt8 → Prop) : Prop := ∃ U : List (List UInt8), 64 < U.length ∧ U.Pairwise fun u v => ∃ x, ¬ (L (u ++ x) ↔ L (v ++ x))
def Lim2 (L : List UInt8 → Prop) : Option Dfa → Prop
 | some d => Cano d ∧ (∀ w, d.has w = true ↔ L w) ∧ d.nxt.length ≤ 64
 | none => Big L
theorem big_not {L : List UInt8 → Prop} (h : Big L) {d : Dfa} (hv : Val d) (hd : ∀ w, d.has w = true ↔ L w) : 64 < d.nxt.length := by
 obtain ⟨U, h1, h2⟩ := h
 refine Nat.lt_of_lt_of_le h1 (cano_ge hv U (h2.imp fun {u v} ⟨x, hx⟩ => ⟨x, fun e => hx ?_⟩))
 rw [← hd, ← hd, e]
theorem lim2_unique {L : List UInt8 → Prop} {r r' : Option Dfa} (h : Lim2 L r) (h' : Lim2 L r') : r = r' := by
 cases r <;> cases r'
 ·rfl
 ·have := big_not h h'.1.val h'.2.1
  have := h'.2.2
  omega
 ·have := big_not h' h.1.val h.2.1
  have := h.2.2
  omega
 ·rw [can_unique' h.1 h'.1 h.2.1 h'.2.1]
theorem lim2_some {L : List UInt8 → Prop} {r : Option Dfa} (h : Lim2 L r) {e : Dfa} (he : Val e) (hL : ∀ w, e.has w = true ↔ L w) (hn : e.nxt.length ≤ 64) : ∃ d, r = some d ∧ Cano d ∧ (∀ w, d.has w = true ↔ L w) ∧ d.nxt.length ≤ e.nxt.length := by
 cases r with
 | none => have := big_not h he hL; omega
 | some d => exact ⟨d, rfl, h.1, h.2.1, cano_le_val h.1 he fun w => by rw [Bool.eq_iff_iff, h.2.1, hL]⟩
theorem blocks_big {t : Tbl} (hv : TVal t) {R : List Nat} {B : Nat → Nat} {l : List Nat} (hl : Reached t l) (hb : Blocks t l B R) (hR : 64 < R.length) : Big fun w => t.has w = true := by
 classical
 have hw : ∀ s : Nat, ∃ w, s ∈ l → t.run 0 w = s := fun s => by
  by_cases hs : s ∈ l
  ·obtain ⟨w, hw⟩ := hl.all s hs
   exact ⟨w, fun _ => hw⟩
  ·exact ⟨[], fun h => absurd h hs⟩
 refine ⟨(List.range R.length).map fun i => (hw (R.getD i 0)).choose, by simpa using hR, ?_⟩
 rw [List.pairwise_map]
 refine List.Pairwise.imp_of_mem (fun {i j} hi hj hij => ?_) (List.nodup_iff_pairwise_ne.1 List.nodup_range)
 have hi := List.mem_range.1 hi
 have hj := List.mem_range.1 hj
 refine Classical.byContradiction fun hx => hij ?_
 have hx : ∀ x, (t.has ((hw (R.getD i 0)).choose ++ x) = true ↔ t.has ((hw (R.getD j 0)).choose ++ x) = true) := fun x => Classical.byContradiction fun hne => hx ⟨x, hne⟩
 rw [← hb.blk.rep i hi, ← hb.blk.rep j hj]
 refine (hb.leq _ (hb.blk.mem i hi) _ (hb.blk.mem j hj)).2 fun x => ?_
 have := hx x
 rw [← Bool.eq_iff_iff] at this
 unfold Tbl.has at this
 rw [trun_app, trun_app, (hw (R.getD i 0)).choose_spec (hb.blk.mem i hi), (hw (R.getD j 0)).choose_spec (hb.blk.mem j hj)] at this
 exact this
def IsMq {κ : Type} (W : World) (k : TypeId) (key : κ → Value) (b n : Nat) (f : κ → Option Nat) : Prop :=
 ∃ D : DataW Unit, W.ownsMap Tryz.prog k (plainElem Tryz.prog 3) b n D ∧ Maps.size D = n ∧ ∀ x l, keyOf Tryz.prog k (key x) = some l → Maps.has D l = (f x).isSome ∧ D.atKey l (.lit (.int .i64 0)) = .lit (.int .i64 ((f x).getD 0 : Nat))
section
variable {κ : Type} {W : World} {k : TypeId} {key : κ → Value} {b n : Nat} {f : κ → Option Nat}
theorem isMq_made (W : World) (k : TypeId) (key : κ → Value) : IsMq (W.alloc (.map #[] 0)) k key W.heap.size 0 (fun _ => none) :=
 ⟨.map [], World.ownsMap_made W _ _ _, rfl, fun _ _ _ => ⟨rfl, rfl⟩⟩
theorem IsMq.mp (h : IsMq W k key b n f) : IsMp W k key b n f := by
 obtain ⟨D, h1, _, h2⟩ := h
 exact ⟨D, h1, h2⟩
theorem IsMq.kept {W' : World} {row : Option Nat} (h : IsMq W k key b n f) (hg : W.grownBy W' row) (hne : some b ≠ row) : IsMq W' k key b n f := by
 obtain ⟨D, h1, h2⟩ := h
 exact ⟨D, h1.kept hg hne, h2⟩
theorem IsMq.ext {W' : World} (h : IsMq W k key b n f) (hE : Ext W W') : IsMq W' k key b n f := h.kept (hE.grownBy none) (by simp)
theorem IsMq.alloc (h : IsMq W k key b n f) (o : Obj) : IsMq (W.alloc o) k key b n f := by
 obtain ⟨D, h1, h2⟩ := h
 exact ⟨D, h1.alloc o, h2⟩
theorem IsMq.ne_row {base e size : Nat} {v : Value} {m : Nat} {xs : List Value} (h : IsMq W k key b n f) (ho : W.ownsRow base e size v m xs) : some b ≠ v.ownBlock := h.mp.ne_row ho
theorem IsMq.far {base e size : Nat} {v : Value} {m : Nat} {xs : List Value} (h : IsMq W k key b n f) (ho : W.ownsRow base e size v m xs) : v.ownBlock = none ∨ v.ownBlock ≠ some b := h.mp.far ho
variable {ops : Array Oper} {rest : List Oper} {o : Oper} {a : Act} {Q : Exit → Act → World → Prop}
theorem wpList_mq_len (hg : o.guard = none) (m : Operand) (t : TypeId) (hop : o.op = Op.call { callee := Callee.builtin Builtin.len, args := #[m], argTypes := #[t] })
  (ht : Tryz.prog.underlying t = some (.map k 3)) (hm : a.eval m = .map (some b)) (h : IsMq W k key b n f)
  (hK : wpList Tryz.prog ops Q rest (a.put o.dst (iv n)) W) : wpList Tryz.prog ops Q (o :: rest) a W := by
 obtain ⟨D, h1, h2, _⟩ := h
 refine wpList_len_own W hg m t hop k 3 ht _ b n D hm h1 ?_
 rw [h2]; exact hK
theorem wpList_mq_put [DecidableEq κ] (hg : o.guard = none) (m x v : Operand) (t : TypeId) (hop : o.op = Op.mapUpdate t m x v) (K : Keyed Tryz.prog k) (ht : Tryz.prog.underlying t = some (.map k 3)) (hm : a.eval m = .map (some b)) (h : IsMq W k key b n f) (hn : n < maxLen)
  (hinj : ∀ y z, key y = key z → y = z) (y : κ) (hf : f y = none) (hx : a.eval x = key y) (hl : ∃ l, keyOf Tryz.prog k (key y) = some l) (i : Nat) (hv : a.eval v = iv i) (hi : i < 9223372036854775808)
  (hK : ∀ W', IsMq W' k key b (n + 1) (fun z => if z = y then some i else f z) → W.grownBy W' (some b) → wpList Tryz.prog ops Q rest (a.put o.dst undef) W') : wpList Tryz.prog ops Q (o :: rest) a W := by
 obtain ⟨D, h1, hs, h2⟩ := h
 obtain ⟨l, hl⟩ := hl
 refine wpList_mapUpdate_own W hg m x v t hop k 3 K ht (plainElem Tryz.prog 3) b n D hm h1 hn (key y) (iv i) l hx hv hl (.lit (.int .i64 i)) [] (plainElem_int Tryz.underlying3 (wf_nat i hi)) ?_
 intro W' hW hgr
 refine hK W' ⟨_, hW, ?_, fun z lz hz => ?_⟩ hgr
 ·rw [Maps.size_put (h1.tidy K), (h2 y l hl).1, hf, hs]; rfl
 by_cases e : z = y
 ·subst e
  rw [hl] at hz
  cases hz
  simp only [if_true]
  exact ⟨Maps.has_put_same h1.isMap (K.key hl) _, Maps.atKey_put_same h1.isMap (K.key hl) _ _⟩
 ·have hne : lz ≠ l := fun e' => e (hinj _ _ (K.inj hz (e' ▸ hl)))
  simp only [e, if_false]
  rw [Maps.has_put_other hne, Maps.atKey_put_other hne]
  exact h2 z lz hz
end
end Go.Proofs.YtaiogolidlamiaaGreatDoor
