import Derived.Test.YtaiogolidlamiaaGreatDoorM14
set_option linter.unusedVariables false
set_option linter.unusedSimpArgs false
namespace Go.Proofs.YtaiogolidlamiaaGreatDoor
theorem E5 {d : Dfa} (hd : Cano d) {α : Type} [DecidableEq α] (g : List UInt8 → α) (hg : ∀ w w', g w = g w' → ∀ u, d.has (w ++ u) = d.has (w' ++ u)) (l : List α) (hl : ∀ w, g w ∈ l) : d.nxt.length ≤ l.length := by
 classical
 have hr : ∀ s : Nat, ∃ w, s < d.nxt.length → d.run 0 w = s := fun s => by
  by_cases hs : s < d.nxt.length
  ·obtain ⟨w, hw⟩ := hd.reach s hs; exact ⟨w, fun _ => hw⟩
  ·exact ⟨[], fun h => absurd h hs⟩
 have key : ∀ w w', g w = g w' → d.run 0 w = d.run 0 w' := fun w w' h => by
  refine hd.red _ _ (hd.val.run_lt _ hd.val.pos) (hd.val.run_lt _ hd.val.pos) fun u => ?_
  rw [← Bq, ← Bq];exact hg w w' h u
 let f : Nat → α := fun s => g (hr s).choose
 have hinj : ∀ s s', s < d.nxt.length → s' < d.nxt.length → f s = f s' → s = s' := fun s s' hs hs' h => by
  have := key _ _ h;rw [(hr s).choose_spec hs, (hr s').choose_spec hs'] at this;exact this
 have hn : ((List.range d.nxt.length).map f).Nodup := by
  rw [List.nodup_iff_pairwise_ne, List.pairwise_map];refine List.Pairwise.imp_of_mem (fun {a b} ha hb hab e => hab (hinj a b (List.mem_range.1 ha) (List.mem_range.1 hb) e)) (List.nodup_iff_pairwise_ne.1 List.nodup_range)
 have := Cx _ l hn fun x hx => by
  obtain ⟨s, _, rfl⟩ := List.mem_map.1 hx;exact hl _
 simpa using this
theorem K8 {d : Dfa} (hv : Val d) (U : List (List UInt8)) (hU : U.Pairwise fun u v => ∃ x, d.has (u ++ x) ≠ d.has (v ++ x)) : U.length ≤ d.nxt.length := by
 have hn : (U.map fun u => d.run 0 u).Nodup := by
  rw [List.nodup_iff_pairwise_ne, List.pairwise_map];refine hU.imp fun {u v} ⟨x, hx⟩ e => hx ?_
  unfold Dfa.has;rw [Bq, Bq, e]
 have := Cx _ (List.range d.nxt.length) hn fun s hs => by
  obtain ⟨u, _, rfl⟩ := List.mem_map.1 hs;exact List.mem_range.2 (hv.run_lt _ hv.pos)
 simpa using this
theorem I1 {d e : Dfa} (hd : Cano d) (he : Val e) (h : ∀ w, d.has w = e.has w) : d.nxt.length ≤ e.nxt.length := by
 have := E5 hd (fun w => e.run 0 w) (fun w w' hw u => by
  rw [h, h]; unfold Dfa.has; rw [Bq, Bq, hw]) (List.range e.nxt.length) fun w => List.mem_range.2 (he.run_lt _ he.pos)
 simpa using this
theorem U3 {d : Dfa} (hd : Cano d) {t : Tbl} (ht : TVal t) (h : ∀ w, d.has w = t.has w) : d.nxt.length ≤ t.nxt.length := by
 have := E5 hd (fun w => t.run 0 w) (fun w w' hw u => by
  rw [h, h]; unfold Tbl.has; rw [Cu, Cu, hw]) (List.range t.nxt.length) fun w => List.mem_range.2 (ht.run_lt _ ht.pos)
 simpa using this
def swp (a s : Nat) : Nat := if s = 0 then a else if s = a then 0 else s
theorem E9 (a s : Nat) : swp a (swp a s) = s := by unfold swp; split <;> split <;> (try split) <;> omega
theorem Fa {a s n : Nat} (ha : a < n) (hs : s < n) : swp a s < n := by unfold swp; split <;> (try split) <;> omega
structure Quot (d q : Dfa) (a : Nat) : Prop where
 cls : q.cls = d.cls
 len : q.nxt.length = d.nxt.length
 acl : q.acc.length = d.nxt.length
 row : ∀ s, s < d.nxt.length → (q.nxt.getD (swp a s) []).length = d.cls.length
 ent : ∀ s, s < d.nxt.length → ∀ k, k < d.cls.length → q.ent2 (swp a s) k = swp a (d.ent2 s k)
 acc : ∀ s, s < d.nxt.length → q.ok (swp a s) = d.ok s
theorem Quot.val {d q : Dfa} {a : Nat} (h : Quot d q a) (hd : Val d) (ha : a < d.nxt.length) : Val q where
 pos := by rw [h.len]; exact hd.pos
 accL := by rw [h.acl, h.len]
 row := fun s hs => by
  rw [h.len] at hs;have := h.row (swp a s) (Fa ha hs);rw [E9] at this;rw [this, h.cls]
 tgt := fun s hs k hk => by
  rw [h.len] at hs;rw [h.cls] at hk;have := h.ent (swp a s) (Fa ha hs) k hk;rw [E9] at this;rw [this, h.len];exact Fa ha (hd.tgt _ (Fa ha hs) k hk)
 parts := by rw [h.cls]; exact hd.parts
theorem Quot.run {d q : Dfa} {a : Nat} (h : Quot d q a) (hd : Val d) : ∀ (w : List UInt8) s, s < d.nxt.length → q.run (swp a s) w = swp a (d.run s w)
 | [], _, _ => rfl
 | x :: w, s, hs => by
  show q.run (q.stp (swp a s) x.toNat) w = swp a (d.run (d.stp s x.toNat) w);have h1 : q.stp (swp a s) x.toNat = swp a (d.stp s x.toNat) := by
   unfold Dfa.stp;rw [h.cls];exact h.ent s hs _ (cell_lt hd.parts x.toNat_lt)
  rw [h1];exact Quot.run h hd w _ (hd.stp_lt hs x.toNat_lt)
theorem Zy {d q : Dfa} {u : List UInt8} (hd : Val d) (h : Quot d q (d.run 0 u)) (w : List UInt8) : q.has w = d.has (u ++ w) := by
 have ha : d.run 0 u < d.nxt.length := hd.run_lt _ hd.pos;have h1 := h.run hd w _ ha;have h0 : swp (d.run 0 u) (d.run 0 u) = 0 := by unfold swp; split <;> simp_all
 rw [h0] at h1;unfold Dfa.has;rw [h1, Bq];exact h.acc _ (hd.run_lt _ ha)
def Lm (d : Dfa) (s : Nat) : Prop := ∃ w, d.ok (d.run s w) = true
structure PInv (d : Dfa) (V : List Bool) : Prop where
 len : V.length = d.nxt.length
 live : ∀ s, V.getD s false = true → Lm d s
 acc : ∀ s, d.ok s = true → V.getD s false = true
theorem Aae {d : Dfa} (hd : Val d) : PInv d d.acc where
 len := hd.accL
 live := fun s hs => ⟨[], hs⟩
 acc := fun s hs => hs
theorem Aaf {d : Dfa} (hd : Val d) {V : List Bool} (h : PInv d V) {s k : Nat} (hs : s < d.nxt.length) (hk : k < d.cls.length) (hm : V.getD (d.ent2 s k) false = true) : PInv d (V.set s true) where
 len := by rw [List.length_set]; exact h.len
 live := fun s' hs' => by
  by_cases e : s' = s
  ·subst e;obtain ⟨w, hw⟩ := h.live _ hm;obtain ⟨b, hb, hc⟩ := He hd.parts hk;refine ⟨UInt8.ofNat b :: w, ?_⟩;show d.ok (d.run (d.stp s' (UInt8.ofNat b).toNat) w) = true;rw [u8n b hb];unfold Dfa.stp;rw [hc]; exact hw
  ·rw [Bb V s s' true false (by rw [h.len]; exact hs), if_neg e] at hs';exact h.live _ hs'
 acc := fun s' hs' => by
  rw [Bb V s s' true false (by rw [h.len]; exact hs)];split
  ·rfl
  ·exact h.acc _ hs'
theorem Aag {d : Dfa} (hd : Val d) {V : List Bool} (h : PInv d V) (hq : ∀ s, s < d.nxt.length → V.getD s false = true ∨ ∀ k, k < d.cls.length → V.getD (d.ent2 s k) false = false) (s : Nat) (hs : s < d.nxt.length) : V.getD s false = true ↔ Lm d s := by
 refine ⟨h.live s, ?_⟩;rintro ⟨w, hw⟩;induction w generalizing s with
 | nil => exact h.acc s hw
 | cons x w ih =>
  have h1 := ih (d.stp s x.toNat) (hd.stp_lt hs x.toNat_lt) hw;rcases hq s hs with h2 | h2
  ·exact h2
  ·have := h2 _ (cell_lt hd.parts x.toNat_lt);unfold Dfa.stp at h1;rw [this] at h1; cases h1
def Fl (V : List Bool) : Nat := V.count true
theorem Afs {V : List Bool} {s : Nat} (hs : s < V.length) (h : V.getD s false = false) : Fl (V.set s true) = Fl V + 1 := by
 unfold Fl;rw [List.count_set hs];have : V[s] = false := by simpa [List.getD_eq_getElem?_getD, List.getElem?_eq_getElem hs] using h
 simp [this]
theorem Aft (V : List Bool) : Fl V ≤ V.length := List.count_le_length
theorem Z8 {d : Dfa} (hd : Val d) {V : List Bool} (h : ∀ s, s < d.nxt.length → (V.getD s false = true ↔ Lm d s)) (w : List UInt8) : (Dfa.mk d.cls d.nxt V).has w = true ↔ ∃ u, d.has (w ++ u) = true := by
 have hrun : ∀ (w : List UInt8) s, (Dfa.mk d.cls d.nxt V).run s w = d.run s w := fun w s => rfl
 unfold Dfa.has;rw [hrun];show V.getD (d.run 0 w) false = true ↔ _;rw [h _ (hd.run_lt _ hd.pos)];unfold Lm;simp only [Bq]
theorem Z7 {d : Dfa} (hd : Val d) {V : List Bool} (h : V.length = d.nxt.length) : Val ⟨d.cls, d.nxt, V⟩ where
 pos := hd.pos
 accL := h
 row := hd.row
 tgt := hd.tgt
 parts := hd.parts
section
variable {t : Tbl} {n : Nat} {B N R : List Nat} {f : List UInt8 → Option Nat} {m : Nat}
theorem Tu (h : FInv (Cy t fun s => B.getD s 0) n (fun s => N.getD s 0) R f) : Blk (List.range n) (fun s => N.getD s 0) R ∧ ∀ s ∈ List.range n, ∀ s' ∈ List.range n, (N.getD s 0 = N.getD s' 0 ↔ Cy t (fun s => B.getD s 0) s = Cy t (fun s => B.getD s 0) s') :=
 ⟨⟨fun s hs => h.lt s (List.mem_range.1 hs), fun i hi => List.mem_range.2 (h.byte i hi).1, fun i hi => (h.byte i hi).2⟩, fun s hs s' hs' => h.same s s' (List.mem_range.1 hs) (List.mem_range.1 hs')⟩
theorem Aeh (h : FInv (Cy t fun s => B.getD s 0) n (fun s => N.getD s 0) R f) (hn : 0 < n) : N.getD 0 0 = 0 := by
 have h1 := h.first 0 hn;have h2 := h.lt 0 hn;rcases Nat.eq_zero_or_pos (N.getD 0 0) with e | e
 ·exact e
 ·have h1 : R.getD (N.getD 0 0) 0 ≤ 0 := h1;have := h.inc 0 (N.getD 0 0) e h2;omega
theorem Ad7 (hv : TVal t) (hl : Reached t (List.range n)) (h : OInv t (List.range n) B m) (hm : n ≤ 65536) (hN : N.length = t.nxt.length)
  (hi : FInv (Cy t fun s => B.getD s 0) n (fun s => N.getD s 0) R f) (hne : R.length ≠ m) : OInv t (List.range n) N R.length ∧ m < R.length := by
 obtain ⟨hb, hs⟩ := Tu hi;have hr : Fr t (List.range n) (fun s => B.getD s 0) (fun s => N.getD s 0) := Jt hl h.lt hs;have hle := Le hb;rw [List.length_range] at hle;refine ⟨⟨hN, Ml hv hl h.refi hr hb, fun s hs => ?_, by rw [List.length_range]; exact hle⟩, ?_⟩
 ·have := hb.lt s hs;show N.getD s 0 < 65536;omega
 ·have := (Mm h.refi hr hb hl.ne).1;omega
theorem Ad8 (hv : TVal t) (hl : Reached t (List.range n)) (h : OInv t (List.range n) B m)
  (hi : FInv (Cy t fun s => B.getD s 0) n (fun s => N.getD s 0) R f) (he : R.length = m) : Blocks t (List.range n) (fun s => N.getD s 0) R := by
 obtain ⟨hb, hs⟩ := Tu hi;have hr : Fr t (List.range n) (fun s => B.getD s 0) (fun s => N.getD s 0) := Jt hl h.lt hs;exact ⟨hb, Q1 hv hl h.refi hr hb he⟩
end
structure Mrg (t : Tbl) (B : Nat → Nat) (n : Nat) (L : List Cls) (d : Dfa) : Prop where
 cls : d.cls = L
 len : d.nxt.length = n
 acl : d.acc.length = n
 row : ∀ s, s < t.nxt.length → (d.nxt.getD (B s) []).length = t.cells
 ent : ∀ s, s < t.nxt.length → ∀ k, k < t.cells → d.ent2 (B s) k = B (t.ent2 s k)
 acc : ∀ s, s < t.nxt.length → d.ok (B s) = t.ok s
theorem Abq {t : Tbl} (hv : TVal t) {L : List Cls} (hL : Parts L) (hc : t.cells = L.length) (hcell : ∀ b, b < 256 → t.cell b = Aj L b) {B : Nat → Nat} {R : List Nat} (hb : Blocks t (List.range t.nxt.length) B R) (h0 : B 0 = 0) {d : Dfa} (h : Mrg t B R.length L d) :
  Val d ∧ ∀ w, d.has w = t.has w := by
 have hR : ∀ i, i < R.length → ∃ s, s < t.nxt.length ∧ B s = i := fun i hi => ⟨_, List.mem_range.1 (hb.blk.mem i hi), hb.blk.rep i hi⟩
 have hval : Val d := by
  refine ⟨?_, by rw [h.acl, h.len], fun i hi => ?_, fun i hi k hk => ?_, by rw [h.cls]; exact hL⟩
  ·rw [h.len];have := hb.blk.lt 0 (List.mem_range.2 hv.pos);omega
  ·rw [h.len] at hi;obtain ⟨s, hs, rfl⟩ := hR i hi;rw [h.row s hs, h.cls, hc]
  ·rw [h.len] at hi ⊢;rw [h.cls, ← hc] at hk;obtain ⟨s, hs, rfl⟩ := hR i hi;rw [h.ent s hs k hk];exact hb.blk.lt _ (List.mem_range.2 (hv.tgt s hs k hk))
 refine ⟨hval, fun w => ?_⟩;have hrun : ∀ (w : List UInt8) s, s < t.nxt.length → d.run (B s) w = B (t.run s w) := fun w => by
  induction w with
  | nil => intro s _; rfl
  | cons x w ih =>
   intro s hs;show d.run (d.stp (B s) x.toNat) w = B (t.run (t.stp s x.toNat) w);have h1 : d.stp (B s) x.toNat = B (t.stp s x.toNat) := by
    unfold Dfa.stp Tbl.stp;rw [h.cls, ← hcell _ x.toNat_lt];exact h.ent s hs _ (hv.cell_lt _ x.toNat_lt)
   rw [h1];exact ih _ (hv.stp_lt hs x.toNat_lt)
 unfold Dfa.has;have := hrun w 0 hv.pos;rw [h0] at this;rw [this];exact h.acc _ (hv.run_lt w hv.pos)
theorem Agv {t : Tbl} (hv : TVal t) {R : List Nat} {B : Nat → Nat} {l : List Nat} (hl : Reached t l) (hb : Blocks t l B R) {e : Dfa} (he : Cano e) (h : ∀ w, e.has w = t.has w) : e.nxt.length = R.length := by
 have h1 : e.nxt.length ≤ R.length := by
  have := E5 he (fun w => B (t.run 0 w)) (fun w w' hw u => by
   rw [h, h];unfold Tbl.has;rw [Cu, Cu];exact ((hb.leq _ (hl.run hv w hl.zero) _ (hl.run hv w' hl.zero)).1 hw) u) (List.range R.length) fun w => List.mem_range.2 (hb.blk.lt _ (hl.run hv w hl.zero))
  simpa using this
 have h2 : R.length ≤ e.nxt.length := by
  classical
  have hw : ∀ s : Nat, ∃ w, s ∈ l → t.run 0 w = s := fun s => by
   by_cases hs : s ∈ l
   ·obtain ⟨w, hw⟩ := hl.all s hs;exact ⟨w, fun _ => hw⟩
   ·exact ⟨[], fun h => absurd h hs⟩
  have := K8 he.val ((List.range R.length).map fun i => (hw (R.getD i 0)).choose) (by
   rw [List.pairwise_map];refine List.Pairwise.imp_of_mem (fun {i j} hi hj hij => ?_) (List.nodup_iff_pairwise_ne.1 List.nodup_range);have hi := List.mem_range.1 hi;have hj := List.mem_range.1 hj;refine Classical.byContradiction fun hx => hij ?_
   have hx : ∀ x, e.has ((hw (R.getD i 0)).choose ++ x) = e.has ((hw (R.getD j 0)).choose ++ x) := fun x => Classical.byContradiction fun hne => hx ⟨x, hne⟩
   rw [← hb.blk.rep i hi, ← hb.blk.rep j hj];refine (hb.leq _ (hb.blk.mem i hi) _ (hb.blk.mem j hj)).2 fun x => ?_
   have := hx x;rw [h, h] at this;unfold Tbl.has at this;rw [Cu, Cu, (hw (R.getD i 0)).choose_spec (hb.blk.mem i hi), (hw (R.getD j 0)).choose_spec (hb.blk.mem j hj)] at this;exact this)
  simpa using this
 omega
def rnx (d : Dfa) (S : List Bool) (x : Nat) : List Bool := (List.range 64).map fun s => decide (s < d.nxt.length) && S.getD (d.stp s x) false
def rst (d : Dfa) : List Bool := (List.range 64).map fun s => d.ok s
theorem Mg (d : Dfa) (S : List Bool) (x : Nat) : (rnx d S x).length = 64 := by simp [rnx]
theorem Ht (d : Dfa) : (rst d).length = 64 := by simp [rst]
theorem Ke (g : Nat → Bool) (s : Nat) (hs : s < 64) : ((List.range 64).map g).getD s false = g s := by
 simp [List.getD_eq_getElem?_getD, hs]
theorem Fb {d : Dfa} (hd : Val d) (h64 : d.nxt.length ≤ 64) (w : List UInt8) (s : Nat) (hs : s < d.nxt.length) : (Ar (rnx d) (rst d) w).getD s false = d.ok (d.run s w.reverse) := by
 revert s
 induction w using D7 with
 | h0 => intro s hs; exact Ke _ s (by omega)
 | h1 w x ih =>
  intro s hs;rw [D5, rnx, Ke _ s (by omega)];simp only [hs, decide_true, Bool.true_and];rw [ih _ (hd.stp_lt hs x.toNat_lt), List.reverse_append];rfl
theorem Qv {d : Dfa} (w : List UInt8) : (Ar (rnx d) (rst d) w).length = 64 := by
 induction w using D7 with
 | h0 => exact Ht d
 | h1 w x ih => rw [D5]; exact Mg _ _ _
theorem Qw {d : Dfa} (hd : Val d) (w : List UInt8) (s : Nat) (hs : d.nxt.length ≤ s) : (Ar (rnx d) (rst d) w).getD s false = false := by
 induction w using D7 with
 | h0 =>
  by_cases h : s < 64
  ·show ((List.range 64).map _).getD s false = false;rw [Ke _ s h];unfold Dfa.ok;rw [List.getD_eq_getElem?_getD, List.getElem?_eq_none (by rw [hd.accL]; exact hs)]; rfl
  ·rw [List.getD_eq_getElem?_getD, List.getElem?_eq_none (by show (rst d).length ≤ s; rw [Ht]; omega)]; rfl
 | h1 w x ih =>
  rw [D5];by_cases h : s < 64
  ·rw [rnx, Ke _ s h];have : ¬ s < d.nxt.length := by omega
   simp [this]
  ·rw [List.getD_eq_getElem?_getD, List.getElem?_eq_none (by rw [Mg]; omega)]; rfl
theorem Ze {d : Dfa} (hd : Val d) (h64 : d.nxt.length ≤ 64) (w w' : List UInt8) : Ar (rnx d) (rst d) w = Ar (rnx d) (rst d) w' ↔ ∀ s, s < d.nxt.length → d.ok (d.run s w.reverse) = d.ok (d.run s w'.reverse) := by
 constructor
 ·intro h s hs;rw [← Fb hd h64 w s hs, ← Fb hd h64 w' s hs, h]
 ·intro h;refine List.ext_getElem? fun s => ?_
  have e : ∀ w : List UInt8, (Ar (rnx d) (rst d) w)[s]? = if s < 64 then some ((Ar (rnx d) (rst d) w).getD s false) else none := fun w => by
   by_cases h1 : s < 64
   ·rw [if_pos h1, List.getD_eq_getElem?_getD, List.getElem?_eq_getElem (by rw [Qv]; exact h1)]; rfl
   ·rw [if_neg h1, List.getElem?_eq_none (by rw [Qv]; omega)]
  rw [e, e];by_cases hs : s < d.nxt.length
  ·rw [Fb hd h64 w s hs, Fb hd h64 w' s hs, h s hs]
  ·rw [Qw hd w s (by omega), Qw hd w' s (by omega)]
theorem Zf {d : Dfa} (hd : Val d) (h64 : d.nxt.length ≤ 64) {c : Nat → Nat} {bs : List Nat} {l : List (List Bool)} {t : Tbl} (h : Expl c bs (rst d) (rnx d) (fun S => S.getD 0 false) l t) {a b : Nat → Nat} (hj : Joint a b c bs)
  (hn : ∀ x, x < 256 → Aj d.cls (bs.getD (c x) 0) = Aj d.cls x) (w : List UInt8) : t.has w = d.has w.reverse := by
 rw [h.has hj (fun s x hx => by unfold rnx Dfa.stp; rw [hn x hx]) w];exact Fb hd h64 w 0 hd.pos
def Bk (L : List UInt8 → Bool) : Nat → List (List UInt8)
 | 0 => if L [] then [[]] else []
 | n + 1 => (List.range 256).flatMap fun b => (Bk (fun w => L (UInt8.ofNat b :: w)) n).map (UInt8.ofNat b :: ·)
def Bo (L : List UInt8 → Bool) (n : Nat) : Nat := (Bk L n).length
def Lex (u v : List UInt8) : Prop := ∃ p a b u' v', u = p ++ a :: u' ∧ v = p ++ b :: v' ∧ a.toNat < b.toNat
theorem Gf : ∀ (n : Nat) (L : List UInt8 → Bool) (w : List UInt8), w ∈ Bk L n ↔ w.length = n ∧ L w = true
 | 0, L, w => by
  unfold Bk;cases h : L []
  ·simp only [Bool.false_eq_true, if_false, List.not_mem_nil, false_iff];rintro ⟨h1, h2⟩;rw [List.eq_nil_of_length_eq_zero h1, h] at h2; cases h2
  ·simp only [if_true, List.mem_singleton];constructor
   ·rintro rfl; exact ⟨rfl, h⟩
   ·rintro ⟨h1, _⟩; exact List.eq_nil_of_length_eq_zero h1
 | n + 1, L, w => by
  unfold Bk;simp only [List.mem_flatMap, List.mem_range, List.mem_map];constructor
  ·rintro ⟨b, hb, v, hv, rfl⟩;obtain ⟨h1, h2⟩ := (Gf n _ v).1 hv;exact ⟨by rw [List.length_cons, h1], h2⟩
  ·rintro ⟨h1, h2⟩;cases w with
   | nil => simp at h1
   | cons x w =>
    have hx : UInt8.ofNat x.toNat = x := by simp
    refine ⟨x.toNat, x.toNat_lt, w, (Gf n _ w).2 ⟨by simpa using h1, by rw [hx]; exact h2⟩, by rw [hx]⟩
theorem Pg : ∀ (n : Nat) (L : List UInt8 → Bool), (Bk L n).Pairwise Lex
 | 0, L => by unfold Bk; split <;> simp
 | n + 1, L => by
  unfold Bk;rw [List.pairwise_flatMap];refine ⟨fun b _ => ?_, ?_⟩
  ·rw [List.pairwise_map];refine (Pg n _).imp fun {u v} h => ?_
   obtain ⟨p, a, c, u', v', rfl, rfl, hlt⟩ := h;exact ⟨UInt8.ofNat b :: p, a, c, u', v', rfl, rfl, hlt⟩
  ·refine List.Pairwise.imp_of_mem (fun {a b} ha hb hab => ?_) List.pairwise_lt_range;intro u hu v hv;obtain ⟨u', _, rfl⟩ := List.mem_map.1 hu;obtain ⟨v', _, rfl⟩ := List.mem_map.1 hv;exact ⟨[], _, _, u', v', rfl, rfl, by rw [u8n _ (List.mem_range.1 ha), u8n _ (List.mem_range.1 hb)]; exact hab⟩
theorem Wm : ∀ (n : Nat) {L M : List UInt8 → Bool}, (∀ w, L w = M w) → Bk L n = Bk M n := fun n L M h => by rw [show L = M from funext h]
theorem Ok (L : List UInt8 → Bool) : Bo L 0 = if L [] then 1 else 0 := by unfold Bo Bk; split <;> rfl
theorem Ol (L : List UInt8 → Bool) (n : Nat) : Bo L (n + 1) = ((List.range 256).map fun b => Bo (fun w => L (UInt8.ofNat b :: w)) n).sum := by
 unfold Bo;rw [Bk, List.length_flatMap];simp
theorem L2 {α : Type} (f g : α → Nat) : ∀ l : List α, (l.map fun x => f x + g x).sum = (l.map f).sum + (l.map g).sum
 | [] => rfl
 | a :: l => by simp only [List.map_cons, List.sum_cons, L2 f g l]; omega
theorem Gj {α : Type} (k : Nat) : ∀ l : List α, (l.map fun _ => k).sum = l.length * k
 | [] => by simp
 | a :: l => by simp only [List.map_cons, List.sum_cons, Gj k l, List.length_cons, Nat.add_mul]; omega
theorem Un : ∀ (n : Nat) (L : List UInt8 → Bool), Bo L n + Bo (fun w => !L w) n = 256 ^ n
 | 0, L => by rw [Ok, Ok]; cases L [] <;> rfl
 | n + 1, L => by
  rw [Ol, Ol, ← L2];rw [show (fun b => Bo (fun w => L (UInt8.ofNat b :: w)) n + Bo (fun w => !L (UInt8.ofNat b :: w)) n) = fun _ : Nat => 256 ^ n from funext fun b => Un n _];rw [Gj, List.length_range, Nat.pow_succ]; omega
def Bp (d : Dfa) : Nat → Nat → Nat
 | 0, s => if d.ok s then 1 else 0
 | n + 1, s => ((List.range d.cls.length).map fun k => sz (d.cls.getD k 0#256) * Bp d n (d.ent2 s k)).sum
theorem Uk (p : Nat → Bool) : ∀ n, cnt p n = ((List.range n).map fun b => if p b then 1 else 0).sum
 | 0 => rfl
 | n + 1 => by
  rw [cnt, Uk p n, List.range_succ, List.map_append, List.sum_append];simp
theorem P3 {α β : Type} (f : α → β → Nat) (l : List α) : ∀ m : List β, (l.map fun a => (m.map fun b => f a b).sum).sum = (m.map fun b => (l.map fun a => f a b).sum).sum
 | [] => by simp [Gj]
 | b :: m => by
  simp only [List.map_cons, List.sum_cons];rw [L2, P3 f l m]
theorem P4 (g : Nat → Nat) (j : Nat) : ∀ n, j < n → ((List.range n).map fun k => if j = k then g k else 0).sum = g j
 | 0, h => by omega
 | n + 1, h => by
  rw [List.range_succ, List.map_append, List.sum_append];by_cases e : j = n
  ·subst e;have : ((List.range j).map fun k => if j = k then g k else 0) = (List.range j).map fun _ => 0 :=
    List.map_congr_left fun k hk => by rw [if_neg]; have := List.mem_range.1 hk; omega
   rw [this, Gj];simp
  ·rw [P4 g j n (by omega)];simp [e]
theorem P5 (k : Nat) {α : Type} (f : α → Nat) : ∀ l : List α, (l.map f).sum * k = (l.map fun a => f a * k).sum
 | [] => by simp
 | a :: l => by simp only [List.map_cons, List.sum_cons, Nat.add_mul, P5 k f l]
theorem Xn {L : List Cls} (hL : Parts L) (g : Nat → Nat) : ((List.range 256).map fun b => g (Aj L b)).sum = ((List.range L.length).map fun k => sz (L.getD k 0#256) * g k).sum := by
 have h1 : ∀ k ∈ List.range L.length, sz (L.getD k 0#256) * g k = ((List.range 256).map fun b => if Aj L b = k then g k else 0).sum := fun k hk => by
  unfold sz;rw [Uk, P5]
  congr 1
  refine List.map_congr_left fun b hb => ?_
  have hb := List.mem_range.1 hb;have hk := List.mem_range.1 hk;by_cases e : Aj L b = k
  ·have := E4 hL hb;rw [e] at this;simp only [this, e, if_true, Nat.one_mul]
  ·have : (L.getD k 0#256).getLsbD b = false := by
    rw [← Bool.not_eq_true];exact fun h => e (E3 hL hb hk h)
   simp only [this, e, if_false, Bool.false_eq_true, Nat.zero_mul]
 rw [List.map_congr_left h1, P3]
 congr 1
 refine List.map_congr_left fun b hb => ?_
 exact (P4 g _ _ (cell_lt hL (List.mem_range.1 hb))).symm
theorem K3 {d : Dfa} (hd : Val d) : ∀ (n s : Nat), s < d.nxt.length → Bp d n s = Bo (fun w => d.ok (d.run s w)) n
 | 0, s, _ => by rw [Ok]; rfl
 | n + 1, s, hs => by
  rw [Ol];show ((List.range d.cls.length).map fun k => sz (d.cls.getD k 0#256) * Bp d n (d.ent2 s k)).sum = _;rw [← Xn hd.parts fun k => Bp d n (d.ent2 s k)]
  congr 1
  refine List.map_congr_left fun b hb => ?_
  have hb := List.mem_range.1 hb;show Bp d n (d.stp s b) = _;rw [K3 hd n _ (hd.stp_lt hs hb)];unfold Bo;rw [Wm n fun w => ?_];show d.ok (d.run (d.stp s b) w) = d.ok (d.run (d.stp s (UInt8.ofNat b).toNat) w);rw [u8n b hb]
def sat (x : Nat) : Nat := min x 1099511627777
theorem L9 (x : Nat) : sat x ≤ 1099511627777 := Nat.min_le_right _ _
def Es (d : Dfa) (n s k : Nat) : Nat := ((List.range k).map fun k => sz (d.cls.getD k 0#256) * Bp d n (d.ent2 s k)).sum
theorem Ahk (d : Dfa) (n s k : Nat) : Es d n s (k + 1) = Es d n s k + sz (d.cls.getD k 0#256) * Bp d n (d.ent2 s k) := by
 unfold Es;rw [List.range_succ, List.map_append, List.sum_append];simp
theorem Ahl (d : Dfa) (n s : Nat) : Es d n s d.cls.length = Bp d (n + 1) s := rfl
theorem Yl (a z x : Nat) (hz : 0 < z) : min (sat a + z * sat x) 1099511627777 = sat (a + z * x) := by
 unfold sat;by_cases h : x ≤ 1099511627777
 ·rw [Nat.min_eq_left h];omega
 ·have h1 : min x 1099511627777 = 1099511627777 := by omega
  have h2 : 1099511627777 ≤ z * 1099511627777 := Nat.le_mul_of_pos_left _ hz;have h3 : x ≤ z * x := Nat.le_mul_of_pos_left _ hz;rw [h1];omega
def Ci (w : List UInt8) (s : Nat) : List Nat := (List.range 256).map fun b => if s < w.length ∧ (w.getD s 0).toNat = b then s + 1 else w.length + 1
def B9 (w : List UInt8) : Tbl := ⟨fun b => b, 256, (List.range (w.length + 2)).map (Ci w), (List.range (w.length + 2)).map fun s => s == w.length⟩
theorem Cf {α : Type} (g : Nat → α) (n s : Nat) (d : α) (hs : s < n) : ((List.range n).map g).getD s d = g s := by
 simp [List.getD_eq_getElem?_getD, hs]
theorem Dx (w : List UInt8) : (B9 w).nxt.length = w.length + 2 := by simp [B9]
theorem Po (w : List UInt8) (s k : Nat) (hs : s < w.length + 2) (hk : k < 256) : (B9 w).ent2 s k = if s < w.length ∧ (w.getD s 0).toNat = k then s + 1 else w.length + 1 := by
 unfold Tbl.ent2;show (((List.range (w.length + 2)).map (Ci w)).getD s []).getD k 0 = _;rw [Cf _ _ _ _ hs];unfold Ci;rw [Cf _ _ _ _ hk]
theorem Ed (w : List UInt8) : TVal (B9 w) where
 pos := by rw [Dx]; omega
 accL := by rw [Dx]; simp [B9]
 row := fun s hs => by
  rw [Dx] at hs;show (((List.range (w.length + 2)).map (Ci w)).getD s []).length = 256;rw [Cf _ _ _ _ hs];simp [Ci]
 tgt := fun s hs k hk => by
  rw [Dx] at hs ⊢;rw [Po w s k hs hk];split <;> omega
 cell_lt := fun b hb => hb
 onto := fun k hk => ⟨k, hk, rfl⟩
theorem Pn (w : List UInt8) (s : Nat) (hs : s < w.length + 2) : (B9 w).ok s = (s == w.length) := by
 unfold Tbl.ok;show ((List.range (w.length + 2)).map fun s => s == w.length).getD s false = _;rw [Cf _ _ _ _ hs]
theorem Pl (w : List UInt8) (s : Nat) (x : UInt8) (hs : s < w.length + 2) : (B9 w).stp s x.toNat = if s < w.length ∧ w.getD s 0 = x then s + 1 else w.length + 1 := by
 show (B9 w).ent2 s x.toNat = _;rw [Po w s _ hs x.toNat_lt]
 congr 1
 rw [UInt8.toNat_inj]
theorem Pp (w : List UInt8) : ∀ u : List UInt8, (B9 w).run (w.length + 1) u = w.length + 1
 | [] => rfl
 | x :: u => by
  show (B9 w).run ((B9 w).stp (w.length + 1) x.toNat) u = _;rw [Pl w _ x (by omega), if_neg (by omega)];exact Pp w u
theorem Pm (w : List UInt8) : ∀ (u : List UInt8) (s : Nat), s ≤ w.length → ((B9 w).ok ((B9 w).run s u) = true ↔ u = w.drop s)
 | [], s, hs => by
  show (B9 w).ok s = true ↔ _;rw [Pn w s (by omega)];constructor
  ·intro h;have : s = w.length := by simpa using h
   rw [this, List.drop_length]
  ·intro h;have := congrArg List.length h;rw [List.length_drop] at this;simp only [List.length_nil] at this;simp; omega
 | x :: u, s, hs => by
  show (B9 w).ok ((B9 w).run ((B9 w).stp s x.toNat) u) = true ↔ _;rw [Pl w s x (by omega)];by_cases h : s < w.length ∧ w.getD s 0 = x
  ·rw [if_pos h, Pm w u (s + 1) (by omega), List.drop_eq_getElem_cons h.1];have : w[s]'h.1 = x := by
    have h2 := h.2;rw [List.getD_eq_getElem?_getD, List.getElem?_eq_getElem h.1] at h2;exact h2
   rw [this];simp
  ·rw [if_neg h, Pp, Pn w _ (by omega)];constructor
   ·intro h1;simp at h1
   ·intro h1;exfalso
    by_cases hl : s < w.length
    ·rw [List.drop_eq_getElem_cons hl] at h1;injection h1 with h1 _
     exact h ⟨hl, by rw [h1, List.getD_eq_getElem?_getD, List.getElem?_eq_getElem hl]; rfl⟩
    ·rw [List.drop_eq_nil_of_le (by omega)] at h1;cases h1
theorem Ee (w u : List UInt8) : (B9 w).has u = true ↔ u = w := by
 have := Pm w u 0 (by omega);rw [List.drop_zero] at this;exact this
def Fz (t : Tbl) : Tbl := ⟨t.cell, t.cells, t.nxt, t.acc.map (!·)⟩
theorem R6 {t : Tbl} (h : TVal t) : TVal (Fz t) where
 pos := h.pos
 accL := by simp [Fz, h.accL]
 row := h.row
 tgt := h.tgt
 cell_lt := h.cell_lt
 onto := h.onto
theorem R7 {t : Tbl} (h : TVal t) (w : List UInt8) : (Fz t).has w = !t.has w := by
 have hr : ∀ (w : List UInt8) s, (Fz t).run s w = t.run s w := fun _ _ => rfl
 unfold Tbl.has;rw [hr];have hlt := h.run_lt w h.pos;unfold Tbl.ok Fz;rw [List.getD_eq_getElem?_getD, List.getElem?_map, List.getElem?_eq_getElem (by rw [h.accL]; exact hlt), List.getD_eq_getElem?_getD, List.getElem?_eq_getElem (by rw [h.accL]; exact hlt)];rfl
def Cc (L : List Cls) (p : Cls → Bool) : Dfa := ⟨L, [L.map fun k => if p k then 1 else 2, L.map fun _ => 2, L.map fun _ => 2], [false, true, false]⟩
theorem Ac1 {L : List Cls} (hL : Parts L) (p : Cls → Bool) : Val (Cc L p) where
 pos := by simp [Cc]
 accL := rfl
 row := fun s hs => by
  have : s < 3 := hs
  match s, this with
  | 0, _ => simp [Cc]
  | 1, _ => simp [Cc]
  | 2, _ => simp [Cc]
 tgt := fun s hs k hk => by
  have hs : s < 3 := hs;have hk : k < L.length := hk;show (Cc L p).ent2 s k < 3;unfold Dfa.ent2 Cc
  match s, hs with
  | 0, _ => simp [List.getD_eq_getElem?_getD, hk]; split <;> omega
  | 1, _ => simp [List.getD_eq_getElem?_getD, hk]
  | 2, _ => simp [List.getD_eq_getElem?_getD, hk]
 parts := hL
theorem Ac2 {L : List Cls} (hL : Parts L) (p : Cls → Bool) (c : Cls) (hp : ∀ b, b < 256 → (p (L.getD (Aj L b) 0#256) = true ↔ c.getLsbD b = true)) (w : List UInt8) : (Cc L p).has w = true ↔ ∃ x : UInt8, w = [x] ∧ c.getLsbD x.toNat = true := by
 have s0 : ∀ b, b < 256 → (Cc L p).stp 0 b = if p (L.getD (Aj L b) 0#256) then 1 else 2 := fun b hb => by
  have hk := cell_lt hL hb;show ((L.map fun k => if p k then 1 else 2).getD (Aj L b) 0) = _;simp only [List.getD_eq_getElem?_getD, List.getElem?_map, List.getElem?_eq_getElem hk, Option.map_some, Option.getD_some]
 have s1 : ∀ b, b < 256 → (Cc L p).stp 1 b = 2 := fun b hb => by
  have hk := cell_lt hL hb;show ((L.map fun _ => 2).getD (Aj L b) 0) = _;simp only [List.getD_eq_getElem?_getD, List.getElem?_map, List.getElem?_eq_getElem hk, Option.map_some, Option.getD_some]
 have s2 : ∀ b, b < 256 → (Cc L p).stp 2 b = 2 := fun b hb => by
  have hk := cell_lt hL hb;show ((L.map fun _ => 2).getD (Aj L b) 0) = _;simp only [List.getD_eq_getElem?_getD, List.getElem?_map, List.getElem?_eq_getElem hk, Option.map_some, Option.getD_some]
 have dead : ∀ u : List UInt8, (Cc L p).run 2 u = 2 := fun u => by
  induction u with
  | nil => rfl
  | cons x u ih =>
   show (Cc L p).run ((Cc L p).stp 2 x.toNat) u = 2;rw [s2 _ x.toNat_lt]; exact ih
 match w with
 | [] =>
  constructor
  ·intro h; exact absurd h (by show ¬ (false = true); decide)
  ·rintro ⟨x, h, _⟩; cases h
 | x :: u =>
  show (Cc L p).ok ((Cc L p).run ((Cc L p).stp 0 x.toNat) u) = true ↔ _;rw [s0 _ x.toNat_lt];have hx := hp _ x.toNat_lt;cases hc : p (L.getD (Aj L x.toNat) 0#256)
  ·simp only [Bool.false_eq_true, if_false];rw [dead];constructor
   ·intro h; exact absurd h (by show ¬ (false = true); decide)
   ·rintro ⟨y, h, hy⟩;injection h with h1 h2
    subst h1;rw [hc] at hx;exact absurd (hx.2 hy) (by decide)
  ·simp only [if_true]
   match u with
   | [] =>
    constructor
    ·intro _; exact ⟨x, rfl, hx.1 hc⟩
    ·intro _; rfl
   | y :: v =>
    show (Cc L p).ok ((Cc L p).run ((Cc L p).stp 1 y.toNat) v) = true ↔ _;rw [s1 _ y.toNat_lt, dead];constructor
    ·intro h; exact absurd h (by show ¬ (false = true); decide)
    ·rintro ⟨z, h, _⟩; injection h with _ h; cases h
def Cm (c : Cls) (a : Bool) : Dfa := ⟨[c], [[0]], [a]⟩
theorem Rs (c : Cls) (hc : ∀ b, b < 256 → c.getLsbD b = true) (a : Bool) (w : List UInt8) : (Cm c a).has w = a := by
 have s0 : ∀ b, b < 256 → (Cm c a).stp 0 b = 0 := fun b hb => by
  unfold Dfa.stp Dfa.ent2 Cm;have : Aj [c] b = 0 := by unfold Aj; simp [hc b hb]
  rw [this]; rfl
 have : ∀ w : List UInt8, (Cm c a).run 0 w = 0 := fun w => by
  induction w with
  | nil => rfl
  | cons x u ih =>
   show (Cm c a).run ((Cm c a).stp 0 x.toNat) u = 0;rw [s0 _ x.toNat_lt]; exact ih
 unfold Dfa.has;rw [this];rfl
theorem J7 (c : Cls) (hc : ∀ b, b < 256 → c.getLsbD b = true) (a : Bool) : Cano (Cm c a) where
 val := by
  refine ⟨by simp [Cm], rfl, fun s hs => ?_, fun s hs k hk => ?_, ⟨fun x hx => ?_, by simp [Cm], fun i hi => ⟨c, by simp [Cm], hc i hi⟩⟩⟩
  ·have : s < 1 := hs;obtain rfl : s = 0 := by omega
   rfl
  ·have : s < 1 := hs;have hk : k < 1 := hk;obtain rfl : s = 0 := by omega
   obtain rfl : k = 0 := by omega
   show (0 : Nat) < 1;omega
  ·simp [Cm] at hx;subst hx;exact Fd (hc 0 (by omega))
 reach := fun s hs => ⟨[], by have : s < 1 := hs; show 0 = s; omega⟩
 red := fun s t hs ht _ => by have : s < 1 := hs; have : t < 1 := ht; omega
 col := fun i j hi hj _ => by have : i < 1 := hi; have : j < 1 := hj; omega
 srt := by simp [Cm]
 rgf := fun p hp => by
  have : p < 1 * 1 := hp;obtain rfl : p = 0 := by omega
  have : (Cm c a).ent 0 = 0 := by simp [Dfa.ent, Dfa.ent2, Cm]
  rw [this];omega
def Bv {σ : Type} (nx : σ → Nat → σ) (st : σ) (m : Nat) : Prop := ∃ l : List σ, l.Nodup ∧ (∀ s, s ∈ l → ∃ w, Ar nx st w = s) ∧ m < l.length
theorem Ic {σ : Type} [DecidableEq σ] {nx : σ → Nat → σ} {st : σ} {m : Nat} (M : List σ) (hM : ∀ w, Ar nx st w ∈ M) (hm : M.length ≤ m) : ¬ Bv nx st m := by
 rintro ⟨l, hn, hr, hl⟩;have := Cx l M hn fun s hs => by
  obtain ⟨w, rfl⟩ := hr s hs;exact hM w
 omega
def Lim (L : List UInt8 → Prop) : Option Dfa → Prop
 | some d => Cano d ∧ (∀ w, d.has w = true ↔ L w) ∧ d.nxt.length ≤ 64
 | none => ∃ d, Cano d ∧ (∀ w, d.has w = true ↔ L w) ∧ 64 < d.nxt.length
theorem Gu {L M : List UInt8 → Prop} {r : Option Dfa} (h : Lim L r) (hLM : ∀ w, L w ↔ M w) : Lim M r := by
 rw [show M = L from funext fun w => propext (hLM w).symm]; exact h
def Di (a b : Dfa) (r : Option Dfa) : Prop := ∃ x y, Cano x ∧ Cano y ∧ (∀ w, x.has w = a.has w) ∧ (∀ w, y.has w = b.has w) ∧
 (Bv (cnx (Ae x) (Ae y)) (cst (Ae x)) 4096 → r = none) ∧ (¬ Bv (cnx (Ae x) (Ae y)) (cst (Ae x)) 4096 → Lim (Cat (fun w => a.has w = true) fun w => b.has w = true) r)
def Hi (a : Dfa) (r : Option Dfa) : Prop := ∃ x, Cano x ∧ (∀ w, x.has w = a.has w) ∧
 (Bv (snx (Ae x)) (1, 1) 4096 → r = none) ∧ (¬ Bv (snx (Ae x)) (1, 1) 4096 → Lim (Star fun w => a.has w = true) r)
theorem Lw {y : Tbl} (hy : TVal y) (S c : Nat) (hc : c < 256) : ∀ n, n ≤ y.nxt.length → Aq y S c n < 2 ^ y.nxt.length
 | 0, _ => Nat.two_pow_pos _
 | n + 1, h => by
  have ih := Lw hy S c hc n (by omega);simp only [Aq];split
  ·exact Nat.or_lt_two_pow ih (Nat.pow_lt_pow_right (by omega) (hy.stp_lt (by omega) hc))
  ·exact ih
theorem Rq {S m : Nat} (hm : 0 < m) (h : S < 2 ^ m) : S ||| 1 < 2 ^ m := Nat.or_lt_two_pow h (by
 have := Nat.pow_lt_pow_right (show 1 < 2 by omega) hm
 simpa using this)
theorem Ux {x y : Tbl} (hx : TVal x) (hy : TVal y) (w : List UInt8) : (Ar (cnx x y) (cst x) w).1 < x.nxt.length ∧ (Ar (cnx x y) (cst x) w).2 < 2 ^ y.nxt.length := by
 have hc : ∀ p S, p < x.nxt.length → S < 2 ^ y.nxt.length → (E2 x p S).1 < x.nxt.length ∧ (E2 x p S).2 < 2 ^ y.nxt.length := fun p S hp hS => by
  refine ⟨hp, ?_⟩;unfold E2;simp only;split
  ·exact Rq hy.pos hS
  ·exact hS
 induction w using D7 with
 | h0 => exact hc 0 0 hx.pos (Nat.two_pow_pos _)
 | h1 w b ih =>
  rw [D5];exact hc _ _ (hx.stp_lt ih.1 b.toNat_lt) (Lw hy _ _ b.toNat_lt _ (Nat.le_refl _))
theorem P8 {x : Tbl} (hx : TVal x) (w : List UInt8) : (Ar (snx x) (1, 1) w).1 < 2 ∧ (Ar (snx x) (1, 1) w).2 < 2 ^ x.nxt.length := by
 induction w using D7 with
 | h0 =>
  refine ⟨by show 1 < 2; omega, ?_⟩;have := Nat.pow_lt_pow_right (show 1 < 2 by omega) hx.pos;show 1 < _
  simpa using this
 | h1 w b ih =>
  rw [D5];refine ⟨by show 0 < 2; omega, ?_⟩;unfold snx;have := Lw hx (Ar (snx x) (1, 1) w).2 b.toNat b.toNat_lt _ (Nat.le_refl _);simp only;split
  ·exact Rq hx.pos this
  ·exact this
def box (n m : Nat) : List (Nat × Nat) := (List.range n).flatMap fun p => (List.range m).map fun q => (p, q)
theorem I4 (n m : Nat) : (box n m).length = n * m := by
 unfold box;rw [List.length_flatMap];simp only [List.length_map, List.length_range];rw [Gj, List.length_range]
theorem I3 {n m : Nat} {s : Nat × Nat} (h1 : s.1 < n) (h2 : s.2 < m) : s ∈ box n m := by
 unfold box;rw [List.mem_flatMap];exact ⟨s.1, List.mem_range.2 h1, List.mem_map.2 ⟨s.2, List.mem_range.2 h2, rfl⟩⟩
theorem Af5 {x y : Tbl} (hx : TVal x) (hy : TVal y) (h : x.nxt.length * 2 ^ y.nxt.length ≤ 4096) : ¬ Bv (cnx x y) (cst x) 4096 :=
 Ic (box x.nxt.length (2 ^ y.nxt.length)) (fun w => I3 (Ux hx hy w).1 (Ux hx hy w).2) (by rw [I4]; exact h)
theorem Xt {x : Tbl} (hx : TVal x) (h : 2 * 2 ^ x.nxt.length ≤ 4096) : ¬ Bv (snx x) (1, 1) 4096 :=
 Ic (box 2 (2 ^ x.nxt.length)) (fun w => I3 (P8 hx w).1 (P8 hx w).2) (by rw [I4]; exact h)
theorem Rc {x y : Tbl} (hx : TVal x) (hy : TVal y) {g : Bool → Bool → Bool} {d : Dfa} (hd : Cano d) (h : ∀ w, d.has w = g (x.has w) (y.has w)) : d.nxt.length ≤ x.nxt.length * y.nxt.length := by
 rw [← I4];refine E5 hd (fun w => (x.run 0 w, y.run 0 w)) (fun w w' e u => ?_) _ fun w => I3 (hx.run_lt w hx.pos) (hy.run_lt w hy.pos)
 injection e with e1 e2
 rw [h, h];unfold Tbl.has;rw [Cu, Cu, Cu, Cu, e1, e2]
theorem Mi {d : Dfa} (hd : Val d) (h64 : d.nxt.length ≤ 64) (m : Nat) (M : List (List Bool)) (hM : ∀ w : List UInt8, ((List.range d.nxt.length).map fun s => d.ok (d.run s w.reverse)) ∈ M) (hm : M.length ≤ m) : ¬ Bv (rnx d) (rst d) m := by
 rintro ⟨l, hn, hr, hl⟩;have hl' : (l.map fun S => (List.range d.nxt.length).map fun s => S.getD s false).Nodup := by
  rw [List.nodup_iff_pairwise_ne, List.pairwise_map];refine List.Pairwise.imp_of_mem (fun {a b} ha hb hab e => hab ?_) (List.nodup_iff_pairwise_ne.1 hn);obtain ⟨w, rfl⟩ := hr a ha;obtain ⟨w', rfl⟩ := hr b hb;refine (Ze hd h64 w w').2 fun s hs => ?_
  have := congrArg (fun l => l.getD s false) e;simp only [Cf _ _ _ _ hs] at this;rw [Fb hd h64 w s hs, Fb hd h64 w' s hs] at this;exact this
 have := Cx _ M hl' fun S hS => by
  obtain ⟨T, hT, rfl⟩ := List.mem_map.1 hS;obtain ⟨w, rfl⟩ := hr T hT;rw [show ((List.range d.nxt.length).map fun s => (Ar (rnx d) (rst d) w).getD s false) = (List.range d.nxt.length).map fun s => d.ok (d.run s w.reverse) from
   List.map_congr_left fun s hs => Fb hd h64 w s (List.mem_range.1 hs)]
  exact hM w
 rw [List.length_map] at this;omega
end Go.Proofs.YtaiogolidlamiaaGreatDoor
