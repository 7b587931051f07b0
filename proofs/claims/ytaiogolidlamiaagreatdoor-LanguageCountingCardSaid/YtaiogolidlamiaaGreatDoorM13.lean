import Derived.Test.YtaiogolidlamiaaGreatDoorM12
set_option linter.unusedVariables false
set_option linter.unusedSimpArgs false
namespace Go.Proofs.YtaiogolidlamiaaGreatDoor
theorem cano_le {d : Dfa} (hd : Cano d) {α : Type} [DecidableEq α] (g : List UInt8 → α) (hg : ∀ w w', g w = g w' → ∀ u, d.has (w ++ u) = d.has (w' ++ u)) (l : List α) (hl : ∀ w, g w ∈ l) : d.nxt.length ≤ l.length := by
 classical
 have hr : ∀ s : Nat, ∃ w, s < d.nxt.length → d.run 0 w = s := fun s => by
  by_cases hs : s < d.nxt.length
  ·obtain ⟨w, hw⟩ := hd.reach s hs; exact ⟨w, fun _ => hw⟩
  ·exact ⟨[], fun h => absurd h hs⟩
 have key : ∀ w w', g w = g w' → d.run 0 w = d.run 0 w' := fun w w' h => by
  refine hd.red _ _ (hd.val.run_lt _ hd.val.pos) (hd.val.run_lt _ hd.val.pos) fun u => ?_
  rw [← run_app, ← run_app]
  exact hg w w' h u
 let f : Nat → α := fun s => g (hr s).choose
 have hinj : ∀ s s', s < d.nxt.length → s' < d.nxt.length → f s = f s' → s = s' := fun s s' hs hs' h => by
  have := key _ _ h
  rw [(hr s).choose_spec hs, (hr s').choose_spec hs'] at this
  exact this
 have hn : ((List.range d.nxt.length).map f).Nodup := by
  rw [List.nodup_iff_pairwise_ne, List.pairwise_map]
  refine List.Pairwise.imp_of_mem (fun {a b} ha hb hab e => hab (hinj a b (List.mem_range.1 ha) (List.mem_range.1 hb) e)) (List.nodup_iff_pairwise_ne.1 List.nodup_range)
 have := nodup_le _ l hn fun x hx => by
  obtain ⟨s, _, rfl⟩ := List.mem_map.1 hx
  exact hl _
 simpa using this
theorem cano_ge {d : Dfa} (hv : Val d) (U : List (List UInt8)) (hU : U.Pairwise fun u v => ∃ x, d.has (u ++ x) ≠ d.has (v ++ x)) : U.length ≤ d.nxt.length := by
 have hn : (U.map fun u => d.run 0 u).Nodup := by
  rw [List.nodup_iff_pairwise_ne, List.pairwise_map]
  refine hU.imp fun {u v} ⟨x, hx⟩ e => hx ?_
  unfold Dfa.has
  rw [run_app, run_app, e]
 have := nodup_le _ (List.range d.nxt.length) hn fun s hs => by
  obtain ⟨u, _, rfl⟩ := List.mem_map.1 hs
  exact List.mem_range.2 (hv.run_lt _ hv.pos)
 simpa using this
theorem cano_le_val {d e : Dfa} (hd : Cano d) (he : Val e) (h : ∀ w, d.has w = e.has w) : d.nxt.length ≤ e.nxt.length := by
 have := cano_le hd (fun w => e.run 0 w) (fun w w' hw u => by
  rw [h, h]; unfold Dfa.has; rw [run_app, run_app, hw]) (List.range e.nxt.length) fun w => List.mem_range.2 (he.run_lt _ he.pos)
 simpa using this
theorem cano_le_tbl {d : Dfa} (hd : Cano d) {t : Tbl} (ht : TVal t) (h : ∀ w, d.has w = t.has w) : d.nxt.length ≤ t.nxt.length := by
 have := cano_le hd (fun w => t.run 0 w) (fun w w' hw u => by
  rw [h, h]; unfold Tbl.has; rw [trun_app, trun_app, hw]) (List.range t.nxt.length) fun w => List.mem_range.2 (ht.run_lt _ ht.pos)
 simpa using this
def swp (a s : Nat) : Nat := if s = 0 then a else if s = a then 0 else s
theorem swp_swp (a s : Nat) : swp a (swp a s) = s := by unfold swp; split <;> split <;> (try split) <;> omega
theorem swp_inj {a s s' : Nat} (h : swp a s = swp a s') : s = s' := by rw [← swp_swp a s, h, swp_swp]
theorem swp_lt {a s n : Nat} (ha : a < n) (hs : s < n) : swp a s < n := by unfold swp; split <;> (try split) <;> omega
structure Quot (d q : Dfa) (a : Nat) : Prop where
 cls : q.cls = d.cls
 len : q.nxt.length = d.nxt.length
 acl : q.acc.length = d.nxt.length
 row : ∀ s, s < d.nxt.length → (q.nxt.getD (swp a s) []).length = d.cls.length
 ent : ∀ s, s < d.nxt.length → ∀ k, k < d.cls.length → q.ent2 (swp a s) k = swp a (d.ent2 s k)
 acc : ∀ s, s < d.nxt.length → q.ok (swp a s) = d.ok s
theorem Quot.val {d q : Dfa} {a : Nat} (h : Quot d q a) (hd : Val d) (ha : a < d.nxt.length) : Val q where
 pos := by rw [h.len]; exact hd.pos
 accL := by rw [h.acl, h.len]
 row := fun s hs => by
  rw [h.len] at hs
  have := h.row (swp a s) (swp_lt ha hs)
  rw [swp_swp] at this
  rw [this, h.cls]
 tgt := fun s hs k hk => by
  rw [h.len] at hs
  rw [h.cls] at hk
  have := h.ent (swp a s) (swp_lt ha hs) k hk
  rw [swp_swp] at this
  rw [this, h.len]
  exact swp_lt ha (hd.tgt _ (swp_lt ha hs) k hk)
 parts := by rw [h.cls]; exact hd.parts
theorem Quot.run {d q : Dfa} {a : Nat} (h : Quot d q a) (hd : Val d) : ∀ (w : List UInt8) s, s < d.nxt.length → q.run (swp a s) w = swp a (d.run s w)
 | [], _, _ => rfl
 | x :: w, s, hs => by
  show q.run (q.stp (swp a s) x.toNat) w = swp a (d.run (d.stp s x.toNat) w)
  have h1 : q.stp (swp a s) x.toNat = swp a (d.stp s x.toNat) := by
   unfold Dfa.stp
   rw [h.cls]
   exact h.ent s hs _ (cell_lt hd.parts x.toNat_lt)
  rw [h1]
  exact Quot.run h hd w _ (hd.stp_lt hs x.toNat_lt)
theorem quot_has {d q : Dfa} {u : List UInt8} (hd : Val d) (h : Quot d q (d.run 0 u)) (w : List UInt8) : q.has w = d.has (u ++ w) := by
 have ha : d.run 0 u < d.nxt.length := hd.run_lt _ hd.pos
 have h1 := h.run hd w _ ha
 have h0 : swp (d.run 0 u) (d.run 0 u) = 0 := by unfold swp; split <;> simp_all
 rw [h0] at h1
 unfold Dfa.has
 rw [h1, run_app]
 exact h.acc _ (hd.run_lt _ ha)
def Live (d : Dfa) (s : Nat) : Prop := ∃ w, d.ok (d.run s w) = true
structure PInv (d : Dfa) (V : List Bool) : Prop where
 len : V.length = d.nxt.length
 live : ∀ s, V.getD s false = true → Live d s
 acc : ∀ s, d.ok s = true → V.getD s false = true
theorem pinv_start {d : Dfa} (hd : Val d) : PInv d d.acc where
 len := hd.accL
 live := fun s hs => ⟨[], hs⟩
 acc := fun s hs => hs
theorem pinv_mark {d : Dfa} (hd : Val d) {V : List Bool} (h : PInv d V) {s k : Nat} (hs : s < d.nxt.length) (hk : k < d.cls.length) (hm : V.getD (d.ent2 s k) false = true) : PInv d (V.set s true) where
 len := by rw [List.length_set]; exact h.len
 live := fun s' hs' => by
  by_cases e : s' = s
  ·subst e
   obtain ⟨w, hw⟩ := h.live _ hm
   obtain ⟨b, hb, hc⟩ := cell_of_all hd.parts hk
   refine ⟨UInt8.ofNat b :: w, ?_⟩
   show d.ok (d.run (d.stp s' (UInt8.ofNat b).toNat) w) = true
   rw [u8n b hb]
   unfold Dfa.stp
   rw [hc]; exact hw
  ·rw [getD_set V s s' true false (by rw [h.len]; exact hs), if_neg e] at hs'
   exact h.live _ hs'
 acc := fun s' hs' => by
  rw [getD_set V s s' true false (by rw [h.len]; exact hs)]
  split
  ·rfl
  ·exact h.acc _ hs'
theorem pinv_end {d : Dfa} (hd : Val d) {V : List Bool} (h : PInv d V) (hq : ∀ s, s < d.nxt.length → V.getD s false = true ∨ ∀ k, k < d.cls.length → V.getD (d.ent2 s k) false = false) (s : Nat) (hs : s < d.nxt.length) : V.getD s false = true ↔ Live d s := by
 refine ⟨h.live s, ?_⟩
 rintro ⟨w, hw⟩
 induction w generalizing s with
 | nil => exact h.acc s hw
 | cons x w ih =>
  have h1 := ih (d.stp s x.toNat) (hd.stp_lt hs x.toNat_lt) hw
  rcases hq s hs with h2 | h2
  ·exact h2
  ·have := h2 _ (cell_lt hd.parts x.toNat_lt)
   unfold Dfa.stp at h1
   rw [this] at h1; cases h1
def cntT (V : List Bool) : Nat := V.count true
theorem cntT_set {V : List Bool} {s : Nat} (hs : s < V.length) (h : V.getD s false = false) : cntT (V.set s true) = cntT V + 1 := by
 unfold cntT
 rw [List.count_set hs]
 have : V[s] = false := by simpa [List.getD_eq_getElem?_getD, List.getElem?_eq_getElem hs] using h
 simp [this]
theorem cntT_le (V : List Bool) : cntT V ≤ V.length := List.count_le_length
theorem pref_has {d : Dfa} (hd : Val d) {V : List Bool} (h : ∀ s, s < d.nxt.length → (V.getD s false = true ↔ Live d s)) (w : List UInt8) : (Dfa.mk d.cls d.nxt V).has w = true ↔ ∃ u, d.has (w ++ u) = true := by
 have hrun : ∀ (w : List UInt8) s, (Dfa.mk d.cls d.nxt V).run s w = d.run s w := fun w s => rfl
 unfold Dfa.has
 rw [hrun]
 show V.getD (d.run 0 w) false = true ↔ _
 rw [h _ (hd.run_lt _ hd.pos)]
 unfold Live
 simp only [run_app]
theorem pref_val {d : Dfa} (hd : Val d) {V : List Bool} (h : V.length = d.nxt.length) : Val ⟨d.cls, d.nxt, V⟩ where
 pos := hd.pos
 accL := h
 row := hd.row
 tgt := hd.tgt
 parts := hd.parts
end Go.Proofs.YtaiogolidlamiaaGreatDoor
namespace Go.Proofs.YtaiogolidlamiaaGreatDoor
section
variable {t : Tbl} {n : Nat} {B N R : List Nat} {f : List UInt8 → Option Nat} {m : Nat}
theorem finv_blk (h : FInv (keyS t fun s => B.getD s 0) n (fun s => N.getD s 0) R f) : Blk (List.range n) (fun s => N.getD s 0) R ∧ ∀ s ∈ List.range n, ∀ s' ∈ List.range n, (N.getD s 0 = N.getD s' 0 ↔ keyS t (fun s => B.getD s 0) s = keyS t (fun s => B.getD s 0) s') :=
 ⟨⟨fun s hs => h.lt s (List.mem_range.1 hs), fun i hi => List.mem_range.2 (h.byte i hi).1, fun i hi => (h.byte i hi).2⟩, fun s hs s' hs' => h.same s s' (List.mem_range.1 hs) (List.mem_range.1 hs')⟩
theorem finv_zero (h : FInv (keyS t fun s => B.getD s 0) n (fun s => N.getD s 0) R f) (hn : 0 < n) : N.getD 0 0 = 0 := by
 have h1 := h.first 0 hn
 have h2 := h.lt 0 hn
 rcases Nat.eq_zero_or_pos (N.getD 0 0) with e | e
 ·exact e
 ·have h1 : R.getD (N.getD 0 0) 0 ≤ 0 := h1
  have := h.inc 0 (N.getD 0 0) e h2
  omega
theorem fo_next (hv : TVal t) (hl : Reached t (List.range n)) (h : OInv t (List.range n) B m) (hm : n ≤ 65536) (hN : N.length = t.nxt.length)
  (hi : FInv (keyS t fun s => B.getD s 0) n (fun s => N.getD s 0) R f) (hne : R.length ≠ m) : OInv t (List.range n) N R.length ∧ m < R.length := by
 obtain ⟨hb, hs⟩ := finv_blk hi
 have hr : Round t (List.range n) (fun s => B.getD s 0) (fun s => N.getD s 0) := round_of hl h.lt hs
 have hle := blk_le hb
 rw [List.length_range] at hle
 refine ⟨⟨hN, refi_next hv hl h.refi hr hb, fun s hs => ?_, by rw [List.length_range]; exact hle⟩, ?_⟩
 ·have := hb.lt s hs
  show N.getD s 0 < 65536
  omega
 ·have := (refi_le h.refi hr hb hl.ne).1
  omega
theorem fo_end (hv : TVal t) (hl : Reached t (List.range n)) (h : OInv t (List.range n) B m)
  (hi : FInv (keyS t fun s => B.getD s 0) n (fun s => N.getD s 0) R f) (he : R.length = m) : Blocks t (List.range n) (fun s => N.getD s 0) R := by
 obtain ⟨hb, hs⟩ := finv_blk hi
 have hr : Round t (List.range n) (fun s => B.getD s 0) (fun s => N.getD s 0) := round_of hl h.lt hs
 exact ⟨hb, refi_end hv hl h.refi hr hb he⟩
end
structure Mrg (t : Tbl) (B : Nat → Nat) (n : Nat) (L : List Cls) (d : Dfa) : Prop where
 cls : d.cls = L
 len : d.nxt.length = n
 acl : d.acc.length = n
 row : ∀ s, s < t.nxt.length → (d.nxt.getD (B s) []).length = t.cells
 ent : ∀ s, s < t.nxt.length → ∀ k, k < t.cells → d.ent2 (B s) k = B (t.ent2 s k)
 acc : ∀ s, s < t.nxt.length → d.ok (B s) = t.ok s
theorem mrg_has {t : Tbl} (hv : TVal t) {L : List Cls} (hL : Parts L) (hc : t.cells = L.length) (hcell : ∀ b, b < 256 → t.cell b = cellOf L b) {B : Nat → Nat} {R : List Nat} (hb : Blocks t (List.range t.nxt.length) B R) (h0 : B 0 = 0) {d : Dfa} (h : Mrg t B R.length L d) :
  Val d ∧ ∀ w, d.has w = t.has w := by
 have hR : ∀ i, i < R.length → ∃ s, s < t.nxt.length ∧ B s = i := fun i hi => ⟨_, List.mem_range.1 (hb.blk.mem i hi), hb.blk.rep i hi⟩
 have hval : Val d := by
  refine ⟨?_, by rw [h.acl, h.len], fun i hi => ?_, fun i hi k hk => ?_, by rw [h.cls]; exact hL⟩
  ·rw [h.len]
   have := hb.blk.lt 0 (List.mem_range.2 hv.pos)
   omega
  ·rw [h.len] at hi
   obtain ⟨s, hs, rfl⟩ := hR i hi
   rw [h.row s hs, h.cls, hc]
  ·rw [h.len] at hi ⊢
   rw [h.cls, ← hc] at hk
   obtain ⟨s, hs, rfl⟩ := hR i hi
   rw [h.ent s hs k hk]
   exact hb.blk.lt _ (List.mem_range.2 (hv.tgt s hs k hk))
 refine ⟨hval, fun w => ?_⟩
 have hrun : ∀ (w : List UInt8) s, s < t.nxt.length → d.run (B s) w = B (t.run s w) := fun w => by
  induction w with
  | nil => intro s _; rfl
  | cons x w ih =>
   intro s hs
   show d.run (d.stp (B s) x.toNat) w = B (t.run (t.stp s x.toNat) w)
   have h1 : d.stp (B s) x.toNat = B (t.stp s x.toNat) := by
    unfold Dfa.stp Tbl.stp
    rw [h.cls, ← hcell _ x.toNat_lt]
    exact h.ent s hs _ (hv.cell_lt _ x.toNat_lt)
   rw [h1]
   exact ih _ (hv.stp_lt hs x.toNat_lt)
 unfold Dfa.has
 have := hrun w 0 hv.pos
 rw [h0] at this
 rw [this]
 exact h.acc _ (hv.run_lt w hv.pos)
theorem blocks_cano {t : Tbl} (hv : TVal t) {R : List Nat} {B : Nat → Nat} {l : List Nat} (hl : Reached t l) (hb : Blocks t l B R) {e : Dfa} (he : Cano e) (h : ∀ w, e.has w = t.has w) : e.nxt.length = R.length := by
 have h1 : e.nxt.length ≤ R.length := by
  have := cano_le he (fun w => B (t.run 0 w)) (fun w w' hw u => by
   rw [h, h]
   unfold Tbl.has
   rw [trun_app, trun_app]
   exact ((hb.leq _ (hl.run hv w hl.zero) _ (hl.run hv w' hl.zero)).1 hw) u) (List.range R.length) fun w => List.mem_range.2 (hb.blk.lt _ (hl.run hv w hl.zero))
  simpa using this
 have h2 : R.length ≤ e.nxt.length := by
  classical
  have hw : ∀ s : Nat, ∃ w, s ∈ l → t.run 0 w = s := fun s => by
   by_cases hs : s ∈ l
   ·obtain ⟨w, hw⟩ := hl.all s hs
    exact ⟨w, fun _ => hw⟩
   ·exact ⟨[], fun h => absurd h hs⟩
  have := cano_ge he.val ((List.range R.length).map fun i => (hw (R.getD i 0)).choose) (by
   rw [List.pairwise_map]
   refine List.Pairwise.imp_of_mem (fun {i j} hi hj hij => ?_) (List.nodup_iff_pairwise_ne.1 List.nodup_range)
   have hi := List.mem_range.1 hi
   have hj := List.mem_range.1 hj
   refine Classical.byContradiction fun hx => hij ?_
   have hx : ∀ x, e.has ((hw (R.getD i 0)).choose ++ x) = e.has ((hw (R.getD j 0)).choose ++ x) := fun x => Classical.byContradiction fun hne => hx ⟨x, hne⟩
   rw [← hb.blk.rep i hi, ← hb.blk.rep j hj]
   refine (hb.leq _ (hb.blk.mem i hi) _ (hb.blk.mem j hj)).2 fun x => ?_
   have := hx x
   rw [h, h] at this
   unfold Tbl.has at this
   rw [trun_app, trun_app, (hw (R.getD i 0)).choose_spec (hb.blk.mem i hi), (hw (R.getD j 0)).choose_spec (hb.blk.mem j hj)] at this
   exact this)
  simpa using this
 omega
def rnx (d : Dfa) (S : List Bool) (x : Nat) : List Bool := (List.range 64).map fun s => decide (s < d.nxt.length) && S.getD (d.stp s x) false
def rst (d : Dfa) : List Bool := (List.range 64).map fun s => d.ok s
theorem rnx_len (d : Dfa) (S : List Bool) (x : Nat) : (rnx d S x).length = 64 := by simp [rnx]
theorem rst_len (d : Dfa) : (rst d).length = 64 := by simp [rst]
theorem map_range_getD (g : Nat → Bool) (s : Nat) (hs : s < 64) : ((List.range 64).map g).getD s false = g s := by
 simp [List.getD_eq_getElem?_getD, hs]
theorem rev_set {d : Dfa} (hd : Val d) (h64 : d.nxt.length ≤ 64) (w : List UInt8) (s : Nat) (hs : s < d.nxt.length) : (arun (rnx d) (rst d) w).getD s false = d.ok (d.run s w.reverse) := by
 revert s
 induction w using snoc_ind with
 | h0 => intro s hs; exact map_range_getD _ s (by omega)
 | h1 w x ih =>
  intro s hs
  rw [arun_snoc, rnx, map_range_getD _ s (by omega)]
  simp only [hs, decide_true, Bool.true_and]
  rw [ih _ (hd.stp_lt hs x.toNat_lt), List.reverse_append]
  rfl
theorem rev_len {d : Dfa} (w : List UInt8) : (arun (rnx d) (rst d) w).length = 64 := by
 induction w using snoc_ind with
 | h0 => exact rst_len d
 | h1 w x ih => rw [arun_snoc]; exact rnx_len _ _ _
theorem rev_above {d : Dfa} (hd : Val d) (w : List UInt8) (s : Nat) (hs : d.nxt.length ≤ s) : (arun (rnx d) (rst d) w).getD s false = false := by
 induction w using snoc_ind with
 | h0 =>
  by_cases h : s < 64
  ·show ((List.range 64).map _).getD s false = false
   rw [map_range_getD _ s h]
   unfold Dfa.ok
   rw [List.getD_eq_getElem?_getD, List.getElem?_eq_none (by rw [hd.accL]; exact hs)]; rfl
  ·rw [List.getD_eq_getElem?_getD, List.getElem?_eq_none (by show (rst d).length ≤ s; rw [rst_len]; omega)]; rfl
 | h1 w x ih =>
  rw [arun_snoc]
  by_cases h : s < 64
  ·rw [rnx, map_range_getD _ s h]
   have : ¬ s < d.nxt.length := by omega
   simp [this]
  ·rw [List.getD_eq_getElem?_getD, List.getElem?_eq_none (by rw [rnx_len]; omega)]; rfl
theorem rev_same {d : Dfa} (hd : Val d) (h64 : d.nxt.length ≤ 64) (w w' : List UInt8) : arun (rnx d) (rst d) w = arun (rnx d) (rst d) w' ↔ ∀ s, s < d.nxt.length → d.ok (d.run s w.reverse) = d.ok (d.run s w'.reverse) := by
 constructor
 ·intro h s hs
  rw [← rev_set hd h64 w s hs, ← rev_set hd h64 w' s hs, h]
 ·intro h
  refine List.ext_getElem? fun s => ?_
  have e : ∀ w : List UInt8, (arun (rnx d) (rst d) w)[s]? = if s < 64 then some ((arun (rnx d) (rst d) w).getD s false) else none := fun w => by
   by_cases h1 : s < 64
   ·rw [if_pos h1, List.getD_eq_getElem?_getD, List.getElem?_eq_getElem (by rw [rev_len]; exact h1)]; rfl
   ·rw [if_neg h1, List.getElem?_eq_none (by rw [rev_len]; omega)]
  rw [e, e]
  by_cases hs : s < d.nxt.length
  ·rw [rev_set hd h64 w s hs, rev_set hd h64 w' s hs, h s hs]
  ·rw [rev_above hd w s (by omega), rev_above hd w' s (by omega)]
theorem rev_has {d : Dfa} (hd : Val d) (h64 : d.nxt.length ≤ 64) {c : Nat → Nat} {bs : List Nat} {l : List (List Bool)} {t : Tbl} (h : Expl c bs (rst d) (rnx d) (fun S => S.getD 0 false) l t) {a b : Nat → Nat} (hj : Joint a b c bs)
  (hn : ∀ x, x < 256 → cellOf d.cls (bs.getD (c x) 0) = cellOf d.cls x) (w : List UInt8) : t.has w = d.has w.reverse := by
 rw [h.has hj (fun s x hx => by unfold rnx Dfa.stp; rw [hn x hx]) w]
 exact rev_set hd h64 w 0 hd.pos
end Go.Proofs.YtaiogolidlamiaaGreatDoor
namespace Go.Proofs.YtaiogolidlamiaaGreatDoor
def wordsOf (L : List UInt8 → Bool) : Nat → List (List UInt8)
 | 0 => if L [] then [[]] else []
 | n + 1 => (List.range 256).flatMap fun b => (wordsOf (fun w => L (UInt8.ofNat b :: w)) n).map (UInt8.ofNat b :: ·)
def cntL (L : List UInt8 → Bool) (n : Nat) : Nat := (wordsOf L n).length
def Lex (u v : List UInt8) : Prop := ∃ p a b u' v', u = p ++ a :: u' ∧ v = p ++ b :: v' ∧ a.toNat < b.toNat
theorem wordsOf_mem : ∀ (n : Nat) (L : List UInt8 → Bool) (w : List UInt8), w ∈ wordsOf L n ↔ w.length = n ∧ L w = true
 | 0, L, w => by
  unfold wordsOf
  cases h : L []
  ·simp only [Bool.false_eq_true, if_false, List.not_mem_nil, false_iff]
   rintro ⟨h1, h2⟩
   rw [List.eq_nil_of_length_eq_zero h1, h] at h2; cases h2
  ·simp only [if_true, List.mem_singleton]
   constructor
   ·rintro rfl; exact ⟨rfl, h⟩
   ·rintro ⟨h1, _⟩; exact List.eq_nil_of_length_eq_zero h1
 | n + 1, L, w => by
  unfold wordsOf
  simp only [List.mem_flatMap, List.mem_range, List.mem_map]
  constructor
  ·rintro ⟨b, hb, v, hv, rfl⟩
   obtain ⟨h1, h2⟩ := (wordsOf_mem n _ v).1 hv
   exact ⟨by rw [List.length_cons, h1], h2⟩
  ·rintro ⟨h1, h2⟩
   cases w with
   | nil => simp at h1
   | cons x w =>
    have hx : UInt8.ofNat x.toNat = x := by simp
    refine ⟨x.toNat, x.toNat_lt, w, (wordsOf_mem n _ w).2 ⟨by simpa using h1, by rw [hx]; exact h2⟩, by rw [hx]⟩
theorem wordsOf_sorted : ∀ (n : Nat) (L : List UInt8 → Bool), (wordsOf L n).Pairwise Lex
 | 0, L => by unfold wordsOf; split <;> simp
 | n + 1, L => by
  unfold wordsOf
  rw [List.pairwise_flatMap]
  refine ⟨fun b _ => ?_, ?_⟩
  ·rw [List.pairwise_map]
   refine (wordsOf_sorted n _).imp fun {u v} h => ?_
   obtain ⟨p, a, c, u', v', rfl, rfl, hlt⟩ := h
   exact ⟨UInt8.ofNat b :: p, a, c, u', v', rfl, rfl, hlt⟩
  ·refine List.Pairwise.imp_of_mem (fun {a b} ha hb hab => ?_) List.pairwise_lt_range
   intro u hu v hv
   obtain ⟨u', _, rfl⟩ := List.mem_map.1 hu
   obtain ⟨v', _, rfl⟩ := List.mem_map.1 hv
   exact ⟨[], _, _, u', v', rfl, rfl, by rw [u8n _ (List.mem_range.1 ha), u8n _ (List.mem_range.1 hb)]; exact hab⟩
theorem wordsOf_congr : ∀ (n : Nat) {L M : List UInt8 → Bool}, (∀ w, L w = M w) → wordsOf L n = wordsOf M n := fun n L M h => by rw [show L = M from funext h]
theorem cntL_zero (L : List UInt8 → Bool) : cntL L 0 = if L [] then 1 else 0 := by unfold cntL wordsOf; split <;> rfl
theorem cntL_succ (L : List UInt8 → Bool) (n : Nat) : cntL L (n + 1) = ((List.range 256).map fun b => cntL (fun w => L (UInt8.ofNat b :: w)) n).sum := by
 unfold cntL
 rw [wordsOf, List.length_flatMap]
 simp
theorem sum_map_add {α : Type} (f g : α → Nat) : ∀ l : List α, (l.map fun x => f x + g x).sum = (l.map f).sum + (l.map g).sum
 | [] => rfl
 | a :: l => by simp only [List.map_cons, List.sum_cons, sum_map_add f g l]; omega
theorem sum_map_const {α : Type} (k : Nat) : ∀ l : List α, (l.map fun _ => k).sum = l.length * k
 | [] => by simp
 | a :: l => by simp only [List.map_cons, List.sum_cons, sum_map_const k l, List.length_cons, Nat.add_mul]; omega
theorem cntL_not : ∀ (n : Nat) (L : List UInt8 → Bool), cntL L n + cntL (fun w => !L w) n = 256 ^ n
 | 0, L => by rw [cntL_zero, cntL_zero]; cases L [] <;> rfl
 | n + 1, L => by
  rw [cntL_succ, cntL_succ, ← sum_map_add]
  rw [show (fun b => cntL (fun w => L (UInt8.ofNat b :: w)) n + cntL (fun w => !L (UInt8.ofNat b :: w)) n) = fun _ : Nat => 256 ^ n from funext fun b => cntL_not n _]
  rw [sum_map_const, List.length_range, Nat.pow_succ]; omega
theorem cntL_or_and : ∀ (n : Nat) (L M : List UInt8 → Bool), cntL (fun w => L w || M w) n + cntL (fun w => L w && M w) n = cntL L n + cntL M n
 | 0, L, M => by simp only [cntL_zero]; cases L [] <;> cases M [] <;> rfl
 | n + 1, L, M => by
  simp only [cntL_succ]
  rw [← sum_map_add, ← sum_map_add]
  congr 1
  exact List.map_congr_left fun b _ => cntL_or_and n _ _
theorem cntL_le (L : List UInt8 → Bool) (n : Nat) : cntL L n ≤ 256 ^ n := by have := cntL_not n L; omega
def cntD (d : Dfa) : Nat → Nat → Nat
 | 0, s => if d.ok s then 1 else 0
 | n + 1, s => ((List.range d.cls.length).map fun k => sz (d.cls.getD k 0#256) * cntD d n (d.ent2 s k)).sum
theorem cnt_sum (p : Nat → Bool) : ∀ n, cnt p n = ((List.range n).map fun b => if p b then 1 else 0).sum
 | 0 => rfl
 | n + 1 => by
  rw [cnt, cnt_sum p n, List.range_succ, List.map_append, List.sum_append]
  simp
theorem sum_swap {α β : Type} (f : α → β → Nat) (l : List α) : ∀ m : List β, (l.map fun a => (m.map fun b => f a b).sum).sum = (m.map fun b => (l.map fun a => f a b).sum).sum
 | [] => by simp [sum_map_const]
 | b :: m => by
  simp only [List.map_cons, List.sum_cons]
  rw [sum_map_add, sum_swap f l m]
theorem sum_one (g : Nat → Nat) (j : Nat) : ∀ n, j < n → ((List.range n).map fun k => if j = k then g k else 0).sum = g j
 | 0, h => by omega
 | n + 1, h => by
  rw [List.range_succ, List.map_append, List.sum_append]
  by_cases e : j = n
  ·subst e
   have : ((List.range j).map fun k => if j = k then g k else 0) = (List.range j).map fun _ => 0 :=
    List.map_congr_left fun k hk => by rw [if_neg]; have := List.mem_range.1 hk; omega
   rw [this, sum_map_const]
   simp
  ·rw [sum_one g j n (by omega)]
   simp [e]
theorem sum_mul (k : Nat) {α : Type} (f : α → Nat) : ∀ l : List α, (l.map f).sum * k = (l.map fun a => f a * k).sum
 | [] => by simp
 | a :: l => by simp only [List.map_cons, List.sum_cons, Nat.add_mul, sum_mul k f l]
theorem sum_cells {L : List Cls} (hL : Parts L) (g : Nat → Nat) : ((List.range 256).map fun b => g (cellOf L b)).sum = ((List.range L.length).map fun k => sz (L.getD k 0#256) * g k).sum := by
 have h1 : ∀ k ∈ List.range L.length, sz (L.getD k 0#256) * g k = ((List.range 256).map fun b => if cellOf L b = k then g k else 0).sum := fun k hk => by
  unfold sz
  rw [cnt_sum, sum_mul]
  congr 1
  refine List.map_congr_left fun b hb => ?_
  have hb := List.mem_range.1 hb
  have hk := List.mem_range.1 hk
  by_cases e : cellOf L b = k
  ·have := cell_at hL hb
   rw [e] at this
   simp only [this, e, if_true, Nat.one_mul]
  ·have : (L.getD k 0#256).getLsbD b = false := by
    rw [← Bool.not_eq_true]
    exact fun h => e (cell_uniq hL hb hk h)
   simp only [this, e, if_false, Bool.false_eq_true, Nat.zero_mul]
 rw [List.map_congr_left h1, sum_swap]
 congr 1
 refine List.map_congr_left fun b hb => ?_
 exact (sum_one g _ _ (cell_lt hL (List.mem_range.1 hb))).symm
theorem cntD_eq {d : Dfa} (hd : Val d) : ∀ (n s : Nat), s < d.nxt.length → cntD d n s = cntL (fun w => d.ok (d.run s w)) n
 | 0, s, _ => by rw [cntL_zero]; rfl
 | n + 1, s, hs => by
  rw [cntL_succ]
  show ((List.range d.cls.length).map fun k => sz (d.cls.getD k 0#256) * cntD d n (d.ent2 s k)).sum = _
  rw [← sum_cells hd.parts fun k => cntD d n (d.ent2 s k)]
  congr 1
  refine List.map_congr_left fun b hb => ?_
  have hb := List.mem_range.1 hb
  show cntD d n (d.stp s b) = _
  rw [cntD_eq hd n _ (hd.stp_lt hs hb)]
  unfold cntL
  rw [wordsOf_congr n fun w => ?_]
  show d.ok (d.run (d.stp s b) w) = d.ok (d.run (d.stp s (UInt8.ofNat b).toNat) w)
  rw [u8n b hb]
def sat (x : Nat) : Nat := min x 1099511627777
theorem sat_le (x : Nat) : sat x ≤ 1099511627777 := Nat.min_le_right _ _
def accD (d : Dfa) (n s k : Nat) : Nat := ((List.range k).map fun k => sz (d.cls.getD k 0#256) * cntD d n (d.ent2 s k)).sum
theorem accD_succ (d : Dfa) (n s k : Nat) : accD d n s (k + 1) = accD d n s k + sz (d.cls.getD k 0#256) * cntD d n (d.ent2 s k) := by
 unfold accD
 rw [List.range_succ, List.map_append, List.sum_append]
 simp
theorem accD_full (d : Dfa) (n s : Nat) : accD d n s d.cls.length = cntD d (n + 1) s := rfl
theorem sat_step (a z x : Nat) (hz : 0 < z) : min (sat a + z * sat x) 1099511627777 = sat (a + z * x) := by
 unfold sat
 by_cases h : x ≤ 1099511627777
 ·rw [Nat.min_eq_left h]
  omega
 ·have h1 : min x 1099511627777 = 1099511627777 := by omega
  have h2 : 1099511627777 ≤ z * 1099511627777 := Nat.le_mul_of_pos_left _ hz
  have h3 : x ≤ z * x := Nat.le_mul_of_pos_left _ hz
  rw [h1]
  omega
end Go.Proofs.YtaiogolidlamiaaGreatDoor
namespace Go.Proofs.YtaiogolidlamiaaGreatDoor
def wrow (w : List UInt8) (s : Nat) : List Nat := (List.range 256).map fun b => if s < w.length ∧ (w.getD s 0).toNat = b then s + 1 else w.length + 1
def wordT (w : List UInt8) : Tbl := ⟨fun b => b, 256, (List.range (w.length + 2)).map (wrow w), (List.range (w.length + 2)).map fun s => s == w.length⟩
theorem getD_map_range {α : Type} (g : Nat → α) (n s : Nat) (d : α) (hs : s < n) : ((List.range n).map g).getD s d = g s := by
 simp [List.getD_eq_getElem?_getD, hs]
theorem wordT_len (w : List UInt8) : (wordT w).nxt.length = w.length + 2 := by simp [wordT]
theorem wordT_ent (w : List UInt8) (s k : Nat) (hs : s < w.length + 2) (hk : k < 256) : (wordT w).ent2 s k = if s < w.length ∧ (w.getD s 0).toNat = k then s + 1 else w.length + 1 := by
 unfold Tbl.ent2
 show (((List.range (w.length + 2)).map (wrow w)).getD s []).getD k 0 = _
 rw [getD_map_range _ _ _ _ hs]
 unfold wrow
 rw [getD_map_range _ _ _ _ hk]
theorem wordT_val (w : List UInt8) : TVal (wordT w) where
 pos := by rw [wordT_len]; omega
 accL := by rw [wordT_len]; simp [wordT]
 row := fun s hs => by
  rw [wordT_len] at hs
  show (((List.range (w.length + 2)).map (wrow w)).getD s []).length = 256
  rw [getD_map_range _ _ _ _ hs]
  simp [wrow]
 tgt := fun s hs k hk => by
  rw [wordT_len] at hs ⊢
  rw [wordT_ent w s k hs hk]
  split <;> omega
 cell_lt := fun b hb => hb
 onto := fun k hk => ⟨k, hk, rfl⟩
theorem wordT_ok (w : List UInt8) (s : Nat) (hs : s < w.length + 2) : (wordT w).ok s = (s == w.length) := by
 unfold Tbl.ok
 show ((List.range (w.length + 2)).map fun s => s == w.length).getD s false = _
 rw [getD_map_range _ _ _ _ hs]
theorem wordT_stp (w : List UInt8) (s : Nat) (x : UInt8) (hs : s < w.length + 2) : (wordT w).stp s x.toNat = if s < w.length ∧ w.getD s 0 = x then s + 1 else w.length + 1 := by
 show (wordT w).ent2 s x.toNat = _
 rw [wordT_ent w s _ hs x.toNat_lt]
 congr 1
 rw [UInt8.toNat_inj]
theorem wordT_dead (w : List UInt8) : ∀ u : List UInt8, (wordT w).run (w.length + 1) u = w.length + 1
 | [] => rfl
 | x :: u => by
  show (wordT w).run ((wordT w).stp (w.length + 1) x.toNat) u = _
  rw [wordT_stp w _ x (by omega), if_neg (by omega)]
  exact wordT_dead w u
theorem wordT_run (w : List UInt8) : ∀ (u : List UInt8) (s : Nat), s ≤ w.length → ((wordT w).ok ((wordT w).run s u) = true ↔ u = w.drop s)
 | [], s, hs => by
  show (wordT w).ok s = true ↔ _
  rw [wordT_ok w s (by omega)]
  constructor
  ·intro h
   have : s = w.length := by simpa using h
   rw [this, List.drop_length]
  ·intro h
   have := congrArg List.length h
   rw [List.length_drop] at this
   simp only [List.length_nil] at this
   simp; omega
 | x :: u, s, hs => by
  show (wordT w).ok ((wordT w).run ((wordT w).stp s x.toNat) u) = true ↔ _
  rw [wordT_stp w s x (by omega)]
  by_cases h : s < w.length ∧ w.getD s 0 = x
  ·rw [if_pos h, wordT_run w u (s + 1) (by omega), List.drop_eq_getElem_cons h.1]
   have : w[s]'h.1 = x := by
    have h2 := h.2
    rw [List.getD_eq_getElem?_getD, List.getElem?_eq_getElem h.1] at h2
    exact h2
   rw [this]
   simp
  ·rw [if_neg h, wordT_dead, wordT_ok w _ (by omega)]
   constructor
   ·intro h1
    simp at h1
   ·intro h1
    exfalso
    by_cases hl : s < w.length
    ·rw [List.drop_eq_getElem_cons hl] at h1
     injection h1 with h1 _
     exact h ⟨hl, by rw [h1, List.getD_eq_getElem?_getD, List.getElem?_eq_getElem hl]; rfl⟩
    ·rw [List.drop_eq_nil_of_le (by omega)] at h1
     cases h1
theorem wordT_has (w u : List UInt8) : (wordT w).has u = true ↔ u = w := by
 have := wordT_run w u 0 (by omega)
 rw [List.drop_zero] at this
 exact this
def notT (t : Tbl) : Tbl := ⟨t.cell, t.cells, t.nxt, t.acc.map (!·)⟩
theorem notT_val {t : Tbl} (h : TVal t) : TVal (notT t) where
 pos := h.pos
 accL := by simp [notT, h.accL]
 row := h.row
 tgt := h.tgt
 cell_lt := h.cell_lt
 onto := h.onto
theorem notT_has {t : Tbl} (h : TVal t) (w : List UInt8) : (notT t).has w = !t.has w := by
 have hr : ∀ (w : List UInt8) s, (notT t).run s w = t.run s w := fun _ _ => rfl
 unfold Tbl.has
 rw [hr]
 have hlt := h.run_lt w h.pos
 unfold Tbl.ok notT
 rw [List.getD_eq_getElem?_getD, List.getElem?_map, List.getElem?_eq_getElem (by rw [h.accL]; exact hlt), List.getD_eq_getElem?_getD, List.getElem?_eq_getElem (by rw [h.accL]; exact hlt)]
 rfl
def letD (L : List Cls) (p : Cls → Bool) : Dfa := ⟨L, [L.map fun k => if p k then 1 else 2, L.map fun _ => 2, L.map fun _ => 2], [false, true, false]⟩
theorem letD_val {L : List Cls} (hL : Parts L) (p : Cls → Bool) : Val (letD L p) where
 pos := by simp [letD]
 accL := rfl
 row := fun s hs => by
  have : s < 3 := hs
  match s, this with
  | 0, _ => simp [letD]
  | 1, _ => simp [letD]
  | 2, _ => simp [letD]
 tgt := fun s hs k hk => by
  have hs : s < 3 := hs
  have hk : k < L.length := hk
  show (letD L p).ent2 s k < 3
  unfold Dfa.ent2 letD
  match s, hs with
  | 0, _ => simp [List.getD_eq_getElem?_getD, hk]; split <;> omega
  | 1, _ => simp [List.getD_eq_getElem?_getD, hk]
  | 2, _ => simp [List.getD_eq_getElem?_getD, hk]
 parts := hL
theorem letD_has {L : List Cls} (hL : Parts L) (p : Cls → Bool) (c : Cls) (hp : ∀ b, b < 256 → (p (L.getD (cellOf L b) 0#256) = true ↔ c.getLsbD b = true)) (w : List UInt8) : (letD L p).has w = true ↔ ∃ x : UInt8, w = [x] ∧ c.getLsbD x.toNat = true := by
 have s0 : ∀ b, b < 256 → (letD L p).stp 0 b = if p (L.getD (cellOf L b) 0#256) then 1 else 2 := fun b hb => by
  have hk := cell_lt hL hb
  show ((L.map fun k => if p k then 1 else 2).getD (cellOf L b) 0) = _
  simp only [List.getD_eq_getElem?_getD, List.getElem?_map, List.getElem?_eq_getElem hk, Option.map_some, Option.getD_some]
 have s1 : ∀ b, b < 256 → (letD L p).stp 1 b = 2 := fun b hb => by
  have hk := cell_lt hL hb
  show ((L.map fun _ => 2).getD (cellOf L b) 0) = _
  simp only [List.getD_eq_getElem?_getD, List.getElem?_map, List.getElem?_eq_getElem hk, Option.map_some, Option.getD_some]
 have s2 : ∀ b, b < 256 → (letD L p).stp 2 b = 2 := fun b hb => by
  have hk := cell_lt hL hb
  show ((L.map fun _ => 2).getD (cellOf L b) 0) = _
  simp only [List.getD_eq_getElem?_getD, List.getElem?_map, List.getElem?_eq_getElem hk, Option.map_some, Option.getD_some]
 have dead : ∀ u : List UInt8, (letD L p).run 2 u = 2 := fun u => by
  induction u with
  | nil => rfl
  | cons x u ih =>
   show (letD L p).run ((letD L p).stp 2 x.toNat) u = 2
   rw [s2 _ x.toNat_lt]; exact ih
 match w with
 | [] =>
  constructor
  ·intro h; exact absurd h (by show ¬ (false = true); decide)
  ·rintro ⟨x, h, _⟩; cases h
 | x :: u =>
  show (letD L p).ok ((letD L p).run ((letD L p).stp 0 x.toNat) u) = true ↔ _
  rw [s0 _ x.toNat_lt]
  have hx := hp _ x.toNat_lt
  cases hc : p (L.getD (cellOf L x.toNat) 0#256)
  ·simp only [Bool.false_eq_true, if_false]
   rw [dead]
   constructor
   ·intro h; exact absurd h (by show ¬ (false = true); decide)
   ·rintro ⟨y, h, hy⟩
    injection h with h1 h2
    subst h1
    rw [hc] at hx
    exact absurd (hx.2 hy) (by decide)
  ·simp only [if_true]
   match u with
   | [] =>
    constructor
    ·intro _; exact ⟨x, rfl, hx.1 hc⟩
    ·intro _; rfl
   | y :: v =>
    show (letD L p).ok ((letD L p).run ((letD L p).stp 1 y.toNat) v) = true ↔ _
    rw [s1 _ y.toNat_lt, dead]
    constructor
    ·intro h; exact absurd h (by show ¬ (false = true); decide)
    ·rintro ⟨z, h, _⟩; injection h with _ h; cases h
def oneD (c : Cls) (a : Bool) : Dfa := ⟨[c], [[0]], [a]⟩
theorem oneD_has (c : Cls) (hc : ∀ b, b < 256 → c.getLsbD b = true) (a : Bool) (w : List UInt8) : (oneD c a).has w = a := by
 have s0 : ∀ b, b < 256 → (oneD c a).stp 0 b = 0 := fun b hb => by
  unfold Dfa.stp Dfa.ent2 oneD
  have : cellOf [c] b = 0 := by unfold cellOf; simp [hc b hb]
  rw [this]; rfl
 have : ∀ w : List UInt8, (oneD c a).run 0 w = 0 := fun w => by
  induction w with
  | nil => rfl
  | cons x u ih =>
   show (oneD c a).run ((oneD c a).stp 0 x.toNat) u = 0
   rw [s0 _ x.toNat_lt]; exact ih
 unfold Dfa.has
 rw [this]
 rfl
theorem oneD_cano (c : Cls) (hc : ∀ b, b < 256 → c.getLsbD b = true) (a : Bool) : Cano (oneD c a) where
 val := by
  refine ⟨by simp [oneD], rfl, fun s hs => ?_, fun s hs k hk => ?_, ⟨fun x hx => ?_, by simp [oneD], fun i hi => ⟨c, by simp [oneD], hc i hi⟩⟩⟩
  ·have : s < 1 := hs
   obtain rfl : s = 0 := by omega
   rfl
  ·have : s < 1 := hs
   have hk : k < 1 := hk
   obtain rfl : s = 0 := by omega
   obtain rfl : k = 0 := by omega
   show (0 : Nat) < 1
   omega
  ·simp [oneD] at hx
   subst hx
   exact nz_of_bit (hc 0 (by omega))
 reach := fun s hs => ⟨[], by have : s < 1 := hs; show 0 = s; omega⟩
 red := fun s t hs ht _ => by have : s < 1 := hs; have : t < 1 := ht; omega
 col := fun i j hi hj _ => by have : i < 1 := hi; have : j < 1 := hj; omega
 srt := by simp [oneD]
 rgf := fun p hp => by
  have : p < 1 * 1 := hp
  obtain rfl : p = 0 := by omega
  have : (oneD c a).ent 0 = 0 := by simp [Dfa.ent, Dfa.ent2, oneD]
  rw [this]
  omega
end Go.Proofs.YtaiogolidlamiaaGreatDoor
