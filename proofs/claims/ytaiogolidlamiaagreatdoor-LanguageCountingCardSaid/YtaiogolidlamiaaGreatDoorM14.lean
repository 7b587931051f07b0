import Derived.Test.YtaiogolidlamiaaGreatDoorM13
set_option linter.unusedVariables false
set_option linter.unusedSimpArgs false
namespace Go.Proofs.YtaiogolidlamiaaGreatDoor
def Many {σ : Type} (nx : σ → Nat → σ) (st : σ) (m : Nat) : Prop := ∃ l : List σ, l.Nodup ∧ (∀ s, s ∈ l → ∃ w, arun nx st w = s) ∧ m < l.length
theorem many_not {σ : Type} [DecidableEq σ] {nx : σ → Nat → σ} {st : σ} {m : Nat} (M : List σ) (hM : ∀ w, arun nx st w ∈ M) (hm : M.length ≤ m) : ¬ Many nx st m := by
 rintro ⟨l, hn, hr, hl⟩
 have := nodup_le l M hn fun s hs => by
  obtain ⟨w, rfl⟩ := hr s hs
  exact hM w
 omega
def Lim (L : List UInt8 → Prop) : Option Dfa → Prop
 | some d => Cano d ∧ (∀ w, d.has w = true ↔ L w) ∧ d.nxt.length ≤ 64
 | none => ∃ d, Cano d ∧ (∀ w, d.has w = true ↔ L w) ∧ 64 < d.nxt.length
theorem can_unique' {d e : Dfa} {L : List UInt8 → Prop} (hd : Cano d) (he : Cano e) (h : ∀ w, d.has w = true ↔ L w) (k : ∀ w, e.has w = true ↔ L w) : d = e :=
 can_unique hd he fun w => by rw [Bool.eq_iff_iff, h, k]
theorem lim_unique {L : List UInt8 → Prop} {r r' : Option Dfa} (h : Lim L r) (h' : Lim L r') : r = r' := by
 cases r <;> cases r'
 ·rfl
 ·obtain ⟨d, h1, h2, h3⟩ := h
  obtain ⟨k1, k2, k3⟩ := h'
  have := can_unique' h1 k1 h2 k2
  subst this; omega
 ·obtain ⟨d, h1, h2, h3⟩ := h'
  obtain ⟨k1, k2, k3⟩ := h
  have := can_unique' h1 k1 h2 k2
  subst this; omega
 ·rw [can_unique' h.1 h'.1 h.2.1 h'.2.1]
theorem lim_congr {L M : List UInt8 → Prop} {r : Option Dfa} (h : Lim L r) (hLM : ∀ w, L w ↔ M w) : Lim M r := by
 rw [show M = L from funext fun w => propext (hLM w).symm]; exact h
theorem lim_some {L : List UInt8 → Prop} {r : Option Dfa} (h : Lim L r) {e : Dfa} (he : Val e) (hL : ∀ w, e.has w = true ↔ L w) (hn : e.nxt.length ≤ 64) : ∃ d, r = some d ∧ Cano d ∧ (∀ w, d.has w = true ↔ L w) ∧ d.nxt.length ≤ e.nxt.length := by
 cases r with
 | none =>
  obtain ⟨d, h1, h2, h3⟩ := h
  have := cano_le_val h1 he fun w => by rw [Bool.eq_iff_iff, h2, hL]
  omega
 | some d => exact ⟨d, rfl, h.1, h.2.1, cano_le_val h.1 he fun w => by rw [Bool.eq_iff_iff, h.2.1, hL]⟩
theorem lim_some_tbl {L : List UInt8 → Prop} {r : Option Dfa} (h : Lim L r) {t : Tbl} (ht : TVal t) (hL : ∀ w, t.has w = true ↔ L w) (hn : t.nxt.length ≤ 64) : ∃ d, r = some d ∧ Cano d ∧ (∀ w, d.has w = true ↔ L w) ∧ d.nxt.length ≤ t.nxt.length := by
 cases r with
 | none =>
  obtain ⟨d, h1, h2, h3⟩ := h
  have := cano_le_tbl h1 ht fun w => by rw [Bool.eq_iff_iff, h2, hL]
  omega
 | some d => exact ⟨d, rfl, h.1, h.2.1, cano_le_tbl h.1 ht fun w => by rw [Bool.eq_iff_iff, h.2.1, hL]⟩
def CatR (a b : Dfa) (r : Option Dfa) : Prop := ∃ x y, Cano x ∧ Cano y ∧ (∀ w, x.has w = a.has w) ∧ (∀ w, y.has w = b.has w) ∧
 (Many (cnx (tblOf x) (tblOf y)) (cst (tblOf x)) 4096 → r = none) ∧ (¬ Many (cnx (tblOf x) (tblOf y)) (cst (tblOf x)) 4096 → Lim (Cat (fun w => a.has w = true) fun w => b.has w = true) r)
theorem catR_unique {a b : Dfa} {r r' : Option Dfa} (h : CatR a b r) (h' : CatR a b r') : r = r' := by
 obtain ⟨x, y, hx, hy, ex, ey, h1, h2⟩ := h
 obtain ⟨x', y', hx', hy', ex', ey', h1', h2'⟩ := h'
 obtain rfl := can_unique hx hx' fun w => by rw [ex, ex']
 obtain rfl := can_unique hy hy' fun w => by rw [ey, ey']
 by_cases hm : Many (cnx (tblOf x) (tblOf y)) (cst (tblOf x)) 4096
 ·rw [h1 hm, h1' hm]
 ·exact lim_unique (h2 hm) (h2' hm)
def StarR (a : Dfa) (r : Option Dfa) : Prop := ∃ x, Cano x ∧ (∀ w, x.has w = a.has w) ∧
 (Many (snx (tblOf x)) (1, 1) 4096 → r = none) ∧ (¬ Many (snx (tblOf x)) (1, 1) 4096 → Lim (Star fun w => a.has w = true) r)
theorem starR_unique {a : Dfa} {r r' : Option Dfa} (h : StarR a r) (h' : StarR a r') : r = r' := by
 obtain ⟨x, hx, ex, h1, h2⟩ := h
 obtain ⟨x', hx', ex', h1', h2'⟩ := h'
 obtain rfl := can_unique hx hx' fun w => by rw [ex, ex']
 by_cases hm : Many (snx (tblOf x)) (1, 1) 4096
 ·rw [h1 hm, h1' hm]
 ·exact lim_unique (h2 hm) (h2' hm)
theorem tgts_two {y : Tbl} (hy : TVal y) (S c : Nat) (hc : c < 256) : ∀ n, n ≤ y.nxt.length → tgts y S c n < 2 ^ y.nxt.length
 | 0, _ => Nat.two_pow_pos _
 | n + 1, h => by
  have ih := tgts_two hy S c hc n (by omega)
  simp only [tgts]
  split
  ·exact Nat.or_lt_two_pow ih (Nat.pow_lt_pow_right (by omega) (hy.stp_lt (by omega) hc))
  ·exact ih
theorem or_one_two {S m : Nat} (hm : 0 < m) (h : S < 2 ^ m) : S ||| 1 < 2 ^ m := Nat.or_lt_two_pow h (by
 have := Nat.pow_lt_pow_right (show 1 < 2 by omega) hm
 simpa using this)
theorem cat_in {x y : Tbl} (hx : TVal x) (hy : TVal y) (w : List UInt8) : (arun (cnx x y) (cst x) w).1 < x.nxt.length ∧ (arun (cnx x y) (cst x) w).2 < 2 ^ y.nxt.length := by
 have hc : ∀ p S, p < x.nxt.length → S < 2 ^ y.nxt.length → (cent x p S).1 < x.nxt.length ∧ (cent x p S).2 < 2 ^ y.nxt.length := fun p S hp hS => by
  refine ⟨hp, ?_⟩
  unfold cent
  simp only
  split
  ·exact or_one_two hy.pos hS
  ·exact hS
 induction w using snoc_ind with
 | h0 => exact hc 0 0 hx.pos (Nat.two_pow_pos _)
 | h1 w b ih =>
  rw [arun_snoc]
  exact hc _ _ (hx.stp_lt ih.1 b.toNat_lt) (tgts_two hy _ _ b.toNat_lt _ (Nat.le_refl _))
theorem star_in {x : Tbl} (hx : TVal x) (w : List UInt8) : (arun (snx x) (1, 1) w).1 < 2 ∧ (arun (snx x) (1, 1) w).2 < 2 ^ x.nxt.length := by
 induction w using snoc_ind with
 | h0 =>
  refine ⟨by show 1 < 2; omega, ?_⟩
  have := Nat.pow_lt_pow_right (show 1 < 2 by omega) hx.pos
  show 1 < _
  simpa using this
 | h1 w b ih =>
  rw [arun_snoc]
  refine ⟨by show 0 < 2; omega, ?_⟩
  unfold snx
  have := tgts_two hx (arun (snx x) (1, 1) w).2 b.toNat b.toNat_lt _ (Nat.le_refl _)
  simp only
  split
  ·exact or_one_two hx.pos this
  ·exact this
def box (n m : Nat) : List (Nat × Nat) := (List.range n).flatMap fun p => (List.range m).map fun q => (p, q)
theorem box_len (n m : Nat) : (box n m).length = n * m := by
 unfold box
 rw [List.length_flatMap]
 simp only [List.length_map, List.length_range]
 rw [sum_map_const, List.length_range]
theorem box_mem {n m : Nat} {s : Nat × Nat} (h1 : s.1 < n) (h2 : s.2 < m) : s ∈ box n m := by
 unfold box
 rw [List.mem_flatMap]
 exact ⟨s.1, List.mem_range.2 h1, List.mem_map.2 ⟨s.2, List.mem_range.2 h2, rfl⟩⟩
theorem cat_few {x y : Tbl} (hx : TVal x) (hy : TVal y) (h : x.nxt.length * 2 ^ y.nxt.length ≤ 4096) : ¬ Many (cnx x y) (cst x) 4096 :=
 many_not (box x.nxt.length (2 ^ y.nxt.length)) (fun w => box_mem (cat_in hx hy w).1 (cat_in hx hy w).2) (by rw [box_len]; exact h)
theorem star_few {x : Tbl} (hx : TVal x) (h : 2 * 2 ^ x.nxt.length ≤ 4096) : ¬ Many (snx x) (1, 1) 4096 :=
 many_not (box 2 (2 ^ x.nxt.length)) (fun w => box_mem (star_in hx w).1 (star_in hx w).2) (by rw [box_len]; exact h)
theorem prod_in {x y : Tbl} (hx : TVal x) (hy : TVal y) (w : List UInt8) : (arun (pnx x y) (0, 0) w).1 < x.nxt.length ∧ (arun (pnx x y) (0, 0) w).2 < y.nxt.length := by
 rw [prod_run]
 exact ⟨hx.run_lt w hx.pos, hy.run_lt w hy.pos⟩
theorem prod_le {x y : Tbl} (hx : TVal x) (hy : TVal y) {g : Bool → Bool → Bool} {d : Dfa} (hd : Cano d) (h : ∀ w, d.has w = g (x.has w) (y.has w)) : d.nxt.length ≤ x.nxt.length * y.nxt.length := by
 rw [← box_len]
 refine cano_le hd (fun w => (x.run 0 w, y.run 0 w)) (fun w w' e u => ?_) _ fun w => box_mem (hx.run_lt w hx.pos) (hy.run_lt w hy.pos)
 injection e with e1 e2
 rw [h, h]
 unfold Tbl.has
 rw [trun_app, trun_app, trun_app, trun_app, e1, e2]
theorem rev_few {d : Dfa} (hd : Val d) (h64 : d.nxt.length ≤ 64) (m : Nat) (M : List (List Bool)) (hM : ∀ w : List UInt8, ((List.range d.nxt.length).map fun s => d.ok (d.run s w.reverse)) ∈ M) (hm : M.length ≤ m) : ¬ Many (rnx d) (rst d) m := by
 rintro ⟨l, hn, hr, hl⟩
 have hl' : (l.map fun S => (List.range d.nxt.length).map fun s => S.getD s false).Nodup := by
  rw [List.nodup_iff_pairwise_ne, List.pairwise_map]
  refine List.Pairwise.imp_of_mem (fun {a b} ha hb hab e => hab ?_) (List.nodup_iff_pairwise_ne.1 hn)
  obtain ⟨w, rfl⟩ := hr a ha
  obtain ⟨w', rfl⟩ := hr b hb
  refine (rev_same hd h64 w w').2 fun s hs => ?_
  have := congrArg (fun l => l.getD s false) e
  simp only [getD_map_range _ _ _ _ hs] at this
  rw [rev_set hd h64 w s hs, rev_set hd h64 w' s hs] at this
  exact this
 have := nodup_le _ M hl' fun S hS => by
  obtain ⟨T, hT, rfl⟩ := List.mem_map.1 hS
  obtain ⟨w, rfl⟩ := hr T hT
  rw [show ((List.range d.nxt.length).map fun s => (arun (rnx d) (rst d) w).getD s false) = (List.range d.nxt.length).map fun s => d.ok (d.run s w.reverse) from
   List.map_congr_left fun s hs => rev_set hd h64 w s (List.mem_range.1 hs)]
  exact hM w
 rw [List.length_map] at this
 omega
def RevR (a : Dfa) (r : Option Dfa) : Prop := ∃ x, Cano x ∧ (∀ w, x.has w = a.has w) ∧
 (Many (rnx x) (rst x) 4096 → r = none) ∧ (¬ Many (rnx x) (rst x) 4096 → Lim (fun w => a.has w.reverse = true) r)
theorem revR_unique {a : Dfa} {r r' : Option Dfa} (h : RevR a r) (h' : RevR a r') : r = r' := by
 obtain ⟨x, hx, ex, h1, h2⟩ := h
 obtain ⟨x', hx', ex', h1', h2'⟩ := h'
 obtain rfl := can_unique hx hx' fun w => by rw [ex, ex']
 by_cases hm : Many (rnx x) (rst x) 4096
 ·rw [h1 hm, h1' hm]
 ·exact lim_unique (h2 hm) (h2' hm)
end Go.Proofs.YtaiogolidlamiaaGreatDoor
namespace Go.Proofs.YtaiogolidlamiaaGreatDoor
abbrev Lang := List UInt8 → Prop
def wd1 (d : Dfa) : Lang := fun w => d.has w = true
theorem cat_congr {L L' M M' : Lang} (h : ∀ w, L w ↔ L' w) (k : ∀ w, M w ↔ M' w) (w : List UInt8) : Cat L M w ↔ Cat L' M' w := by
 unfold Cat
 constructor
 ·rintro ⟨u, v, e, hu, hv⟩; exact ⟨u, v, e, (h u).1 hu, (k v).1 hv⟩
 ·rintro ⟨u, v, e, hu, hv⟩; exact ⟨u, v, e, (h u).2 hu, (k v).2 hv⟩
theorem cat_assoc (L M N : Lang) (w : List UInt8) : Cat (Cat L M) N w ↔ Cat L (Cat M N) w := by
 constructor
 ·rintro ⟨_, v, rfl, ⟨a, b, rfl, ha, hb⟩, hv⟩
  exact ⟨a, b ++ v, by simp, ha, b, v, rfl, hb, hv⟩
 ·rintro ⟨a, _, rfl, ha, b, v, rfl, hb, hv⟩
  exact ⟨a ++ b, v, by simp, ⟨a, b, rfl, ha, hb⟩, hv⟩
theorem cat_nil_l (L : Lang) (w : List UInt8) : Cat (fun u => u = []) L w ↔ L w := by
 constructor
 ·rintro ⟨u, v, rfl, rfl, hv⟩; simpa using hv
 ·intro h; exact ⟨[], w, rfl, rfl, h⟩
theorem cat_nil_r (L : Lang) (w : List UInt8) : Cat L (fun u => u = []) w ↔ L w := by
 constructor
 ·rintro ⟨u, v, rfl, hu, rfl⟩; simpa using hu
 ·intro h; exact ⟨w, [], by simp, h, rfl⟩
def pwc (P L : Lang) : Nat → Lang
 | 0 => P
 | n + 1 => pwc (Cat P L) L n
theorem pwc_congr {P P' L L' : Lang} (h : ∀ w, P w ↔ P' w) (k : ∀ w, L w ↔ L' w) (n : Nat) (w : List UInt8) : pwc P L n w ↔ pwc P' L' n w := by
 rw [show P = P' from funext fun w => propext (h w), show L = L' from funext fun w => propext (k w)]
theorem pwc_cat (A P L : Lang) : ∀ (n : Nat) (w : List UInt8), pwc (Cat A P) L n w ↔ Cat A (pwc P L n) w
 | 0, w => Iff.rfl
 | n + 1, w => by
  show pwc (Cat (Cat A P) L) L n w ↔ Cat A (pwc (Cat P L) L n) w
  rw [← pwc_cat A (Cat P L) L n w]
  exact pwc_congr (fun w => cat_assoc A P L w) (fun _ => Iff.rfl) n w
def pw (L : Lang) (n : Nat) : Lang := pwc (fun w => w = []) L n
theorem pwc_pw (P L : Lang) (n : Nat) (w : List UInt8) : pwc P L n w ↔ Cat P (pw L n) w := by
 rw [pw, ← pwc_cat]
 exact pwc_congr (fun w => (cat_nil_r P w).symm) (fun _ => Iff.rfl) n w
theorem pw_succ (L : Lang) (n : Nat) (w : List UInt8) : pw L (n + 1) w ↔ Cat L (pw L n) w := by
 show pwc (Cat (fun w => w = []) L) L n w ↔ _
 rw [pwc_pw]
 exact cat_congr (cat_nil_l L) (fun _ => Iff.rfl) w
theorem pw_add (L : Lang) : ∀ (m n : Nat) (w : List UInt8), pw L (m + n) w ↔ Cat (pw L m) (pw L n) w
 | 0, n, w => by rw [Nat.zero_add]; exact (cat_nil_l _ w).symm
 | m + 1, n, w => by
  rw [show m + 1 + n = (m + n) + 1 by omega, pw_succ]
  rw [cat_congr (fun _ => Iff.rfl) (pw_add L m n) w, ← cat_assoc]
  exact cat_congr (fun w => (pw_succ L m w).symm) (fun _ => Iff.rfl) w
theorem pw_opt (L : Lang) : ∀ (n : Nat) (w : List UInt8), pw (fun w => L w ∨ w = []) n w ↔ ∃ k, k ≤ n ∧ pw L k w
 | 0, w => by
  constructor
  ·intro h; exact ⟨0, by omega, h⟩
  ·rintro ⟨k, hk, h⟩
   obtain rfl : k = 0 := by omega
   exact h
 | n + 1, w => by
  rw [pw_succ]
  constructor
  ·rintro ⟨u, v, rfl, hu, hv⟩
   obtain ⟨k, hk, h⟩ := (pw_opt L n v).1 hv
   rcases hu with hu | rfl
   ·exact ⟨k + 1, by omega, (pw_succ L k _).2 ⟨u, v, rfl, hu, h⟩⟩
   ·exact ⟨k, by omega, by simpa using h⟩
  ·rintro ⟨k, hk, h⟩
   by_cases e : k = n + 1
   ·subst e
    obtain ⟨u, v, rfl, hu, hv⟩ := (pw_succ L n w).1 h
    exact ⟨u, v, rfl, .inl hu, (pw_opt L n v).2 ⟨n, by omega, hv⟩⟩
   ·exact ⟨[], w, rfl, .inr rfl, (pw_opt L n w).2 ⟨k, by omega, h⟩⟩
theorem star_pw (L : Lang) (w : List UInt8) : Star L w ↔ ∃ k, pw L k w := by
 constructor
 ·intro h
  induction h with
  | nil => exact ⟨0, rfl⟩
  | app hu hv ih =>
   obtain ⟨k, hk⟩ := ih
   refine ⟨k + 1, (pw_add L k 1 _).2 ⟨_, _, rfl, hk, ?_⟩⟩
   rw [pw_succ]
   exact (cat_nil_r L _).2 hv
 ·rintro ⟨k, hk⟩
  induction k generalizing w with
  | zero =>
   have : w = [] := hk
   subst this; exact .nil
  | succ k ih =>
   obtain ⟨u, v, rfl, hu, hv⟩ := (pw_add L k 1 w).1 hk
   have hv : L v := by
    rw [pw_succ] at hv
    exact (cat_nil_r L _).1 hv
   exact .app (ih u hu) hv
def rep (L : Lang) (lo : Nat) (hi : Int) : Lang := fun w => ∃ k, lo ≤ k ∧ (hi < 0 ∨ (k : Int) ≤ hi) ∧ pw L k w
structure RNode where
 kind : Nat
 l : Nat
 r : Nat
 c : Cls
 min : Nat
 max : Int
def nodeL (n : RNode) (l : List Lang) : Lang :=
 if n.kind = 1 then fun _ => False else if n.kind = 2 then fun w => w = [] else if n.kind = 3 then fun w => ∃ x : UInt8, w = [x] ∧ n.c.getLsbD x.toNat = true else
 if n.kind = 4 then Cat (l.getD n.l fun _ => False) (l.getD n.r fun _ => False) else if n.kind = 5 then fun w => l.getD n.l (fun _ => False) w ∨ l.getD n.r (fun _ => False) w else
 if n.kind = 6 then fun w => l.getD n.l (fun _ => False) w ∧ l.getD n.r (fun _ => False) w else if n.kind = 7 then fun w => ¬ l.getD n.l (fun _ => False) w else rep (l.getD n.l fun _ => False) n.min n.max
def langs : List RNode → List Lang → List Lang
 | [], l => l
 | n :: x, l => langs x (l ++ [nodeL n l])
def CanR (L : Lang) (r : Option Dfa) : Prop := ∃ d, r = some d ∧ Cano d ∧ ∀ w, d.has w = true ↔ L w
def bind2 (r : Option Dfa) (f : Dfa → Option Dfa → Prop) (q : Option Dfa) : Prop := match r with | none => q = none | some d => f d q
def PowR (p d : Dfa) : Nat → Option Dfa → Prop
 | 0, r => r = some p
 | n + 1, r => ∃ q, CatR p d q ∧ bind2 q (fun p' => PowR p' d n) r
def RepR (d : Dfa) (lo : Nat) (hi : Int) (r : Option Dfa) : Prop :=
 ∃ e, (Cano e ∧ ∀ w, e.has w = true ↔ w = []) ∧ ∃ q, PowR e d lo q ∧ bind2 q (fun p r => if hi = lo then r = some p else
  if hi < 0 then ∃ s, StarR d s ∧ bind2 s (fun s r => CatR p s r) r else ∃ o, Lim (fun w => d.has w = true ∨ e.has w = true) o ∧ bind2 o (fun o r => PowR p o (hi - lo).toNat r) r) r
def dN : Dfa := ⟨[], [], []⟩
def NodeR (n : RNode) (l : List Dfa) (r : Option Dfa) : Prop :=
 if n.kind = 1 then CanR (fun _ => False) r else if n.kind = 2 then CanR (fun w => w = []) r else if n.kind = 3 then CanR (fun w => ∃ x : UInt8, w = [x] ∧ n.c.getLsbD x.toNat = true) r else
 if n.kind = 4 then CatR (l.getD n.l dN) (l.getD n.r dN) r else if n.kind = 5 then Lim (fun w => (l.getD n.l dN).has w = true ∨ (l.getD n.r dN).has w = true) r else
 if n.kind = 6 then Lim (fun w => (l.getD n.l dN).has w = true ∧ (l.getD n.r dN).has w = true) r else if n.kind = 7 then CanR (fun w => ¬ (l.getD n.l dN).has w = true) r else RepR (l.getD n.l dN) n.min n.max r
def BuildR : List RNode → List Dfa → Option Dfa → Prop
 | [], l, r => r = some (l.getD (l.length - 1) dN)
 | n :: x, l, r => ∃ q, NodeR n l q ∧ bind2 q (fun d => BuildR x (l ++ [d])) r
theorem canR_unique {L : Lang} {r r' : Option Dfa} (h : CanR L r) (h' : CanR L r') : r = r' := by
 obtain ⟨d, rfl, h1, h2⟩ := h
 obtain ⟨d', rfl, h1', h2'⟩ := h'
 rw [can_unique' h1 h1' h2 h2']
theorem bind2_unique {q : Option Dfa} {f : Dfa → Option Dfa → Prop} {r r' : Option Dfa} (hf : ∀ d r r', f d r → f d r' → r = r') (h : bind2 q f r) (h' : bind2 q f r') : r = r' := by
 cases q with
 | none => exact h.trans h'.symm
 | some d => exact hf d r r' h h'
theorem powR_unique (d : Dfa) : ∀ (n : Nat) (p : Dfa) {r r' : Option Dfa}, PowR p d n r → PowR p d n r' → r = r'
 | 0, p, r, r', h, h' => h.trans h'.symm
 | n + 1, p, r, r', ⟨q, h1, h2⟩, ⟨q', h1', h2'⟩ => by
  obtain rfl := catR_unique h1 h1'
  exact bind2_unique (fun d' _ _ => powR_unique d n d') h2 h2'
theorem repR_unique {d : Dfa} {lo : Nat} {hi : Int} {r r' : Option Dfa} (h : RepR d lo hi r) (h' : RepR d lo hi r') : r = r' := by
 obtain ⟨e, he, q, h1, h2⟩ := h
 obtain ⟨e', he', q', h1', h2'⟩ := h'
 obtain rfl := can_unique' he.1 he'.1 he.2 he'.2
 obtain rfl := powR_unique d lo e h1 h1'
 refine bind2_unique (fun p r r' k k' => ?_) h2 h2'
 by_cases c1 : hi = lo
 ·rw [if_pos c1] at k k'; exact k.trans k'.symm
 ·rw [if_neg c1] at k k'
  by_cases c2 : hi < 0
  ·rw [if_pos c2] at k k'
   obtain ⟨s, s1, s2⟩ := k
   obtain ⟨s', s1', s2'⟩ := k'
   obtain rfl := starR_unique s1 s1'
   exact bind2_unique (fun d r r' (h : CatR p d r) (h' : CatR p d r') => catR_unique h h') s2 s2'
  ·rw [if_neg c2] at k k'
   obtain ⟨s, s1, s2⟩ := k
   obtain ⟨s', s1', s2'⟩ := k'
   obtain rfl := lim_unique s1 s1'
   exact bind2_unique (fun o _ _ => powR_unique o _ p) s2 s2'
theorem nodeR_unique {n : RNode} {l : List Dfa} {r r' : Option Dfa} (h : NodeR n l r) (h' : NodeR n l r') : r = r' := by
 unfold NodeR at h h'
 split at h
 ·rename_i c; rw [if_pos c] at h'; exact canR_unique h h'
 rename_i c1; rw [if_neg c1] at h'
 split at h
 ·rename_i c; rw [if_pos c] at h'; exact canR_unique h h'
 rename_i c2; rw [if_neg c2] at h'
 split at h
 ·rename_i c; rw [if_pos c] at h'; exact canR_unique h h'
 rename_i c3; rw [if_neg c3] at h'
 split at h
 ·rename_i c; rw [if_pos c] at h'; exact catR_unique h h'
 rename_i c4; rw [if_neg c4] at h'
 split at h
 ·rename_i c; rw [if_pos c] at h'; exact lim_unique h h'
 rename_i c5; rw [if_neg c5] at h'
 split at h
 ·rename_i c; rw [if_pos c] at h'; exact lim_unique h h'
 rename_i c6; rw [if_neg c6] at h'
 split at h
 ·rename_i c; rw [if_pos c] at h'; exact canR_unique h h'
 rename_i c7; rw [if_neg c7] at h'
 exact repR_unique h h'
theorem buildR_unique : ∀ (x : List RNode) (l : List Dfa) {r r' : Option Dfa}, BuildR x l r → BuildR x l r' → r = r'
 | [], l, r, r', h, h' => h.trans h'.symm
 | n :: x, l, r, r', ⟨q, h1, h2⟩, ⟨q', h1', h2'⟩ => by
  obtain rfl := nodeR_unique h1 h1'
  exact bind2_unique (fun d _ _ => buildR_unique x (l ++ [d])) h2 h2'
def Fit (d : Dfa) (L : Lang) : Prop := Cano d ∧ ∀ w, d.has w = true ↔ L w
theorem lim_fit {L : Lang} {d : Dfa} (h : Lim L (some d)) : Fit d L := ⟨h.1, h.2.1⟩
theorem catR_fit {a b d : Dfa} {L M : Lang} (h : CatR a b (some d)) (ha : ∀ w, a.has w = true ↔ L w) (hb : ∀ w, b.has w = true ↔ M w) : Fit d (Cat L M) ∧ d.nxt.length ≤ 64 := by
 obtain ⟨x, y, hx, hy, ex, ey, h1, h2⟩ := h
 by_cases hm : Many (cnx (tblOf x) (tblOf y)) (cst (tblOf x)) 4096
 ·cases h1 hm
 ·obtain ⟨k1, k2, k3⟩ := h2 hm
  exact ⟨⟨k1, fun w => (k2 w).trans (cat_congr ha hb w)⟩, k3⟩
theorem starR_fit {a d : Dfa} {L : Lang} (h : StarR a (some d)) (ha : ∀ w, a.has w = true ↔ L w) : Fit d (Star L) ∧ d.nxt.length ≤ 64 := by
 obtain ⟨x, hx, ex, h1, h2⟩ := h
 by_cases hm : Many (snx (tblOf x)) (1, 1) 4096
 ·cases h1 hm
 ·obtain ⟨k1, k2, k3⟩ := h2 hm
  refine ⟨⟨k1, fun w => ?_⟩, k3⟩
  rw [k2, show L = fun w => a.has w = true from funext fun w => propext (ha w).symm]
theorem powR_fit {d : Dfa} {L : Lang} (hd : ∀ w, d.has w = true ↔ L w) : ∀ (n : Nat) (p : Dfa) (P : Lang) (q : Dfa), Fit p P → PowR p d n (some q) → Fit q (pwc P L n)
 | 0, p, P, q, hp, h => by
  injection (show some q = some p from h) with h
  subst h; exact hp
 | n + 1, p, P, q, hp, ⟨q', h1, h2⟩ => by
  cases q' with
  | none => cases (show some q = none from h2)
  | some p' => exact powR_fit hd n p' (Cat P L) q (catR_fit h1 hp.2 hd).1 h2
theorem repR_fit {d q : Dfa} {L : Lang} {lo : Nat} {hi : Int} (hd : ∀ w, d.has w = true ↔ L w) (hlh : hi < 0 ∨ (lo : Int) ≤ hi) (h : RepR d lo hi (some q)) : Fit q (rep L lo hi) := by
 obtain ⟨e, he, p, h1, h2⟩ := h
 cases p with
 | none => cases (show some q = none from h2)
 | some p =>
  have hp : Fit p (pw L lo) := powR_fit hd lo e _ p ⟨he.1, he.2⟩ h1
  change (if hi = (lo : Int) then _ else _) at h2
  by_cases c1 : hi = lo
  ·rw [if_pos c1] at h2
   injection h2 with h2
   subst h2
   refine ⟨hp.1, fun w => (hp.2 w).trans ?_⟩
   constructor
   ·intro h; exact ⟨lo, Nat.le_refl _, .inr (by omega), h⟩
   ·rintro ⟨k, k1, k2, h⟩
    obtain rfl : k = lo := by omega
    exact h
  ·rw [if_neg c1] at h2
   by_cases c2 : hi < 0
   ·rw [if_pos c2] at h2
    obtain ⟨s, s1, s2⟩ := h2
    cases s with
    | none => cases (show some q = none from s2)
    | some s =>
     have hs := (starR_fit s1 hd).1
     have hq := (catR_fit (show CatR p s (some q) from s2) hp.2 hs.2).1
     refine ⟨hq.1, fun w => (hq.2 w).trans ?_⟩
     rw [cat_congr (fun _ => Iff.rfl) (star_pw L) w]
     constructor
     ·rintro ⟨u, v, rfl, hu, k, hv⟩
      exact ⟨lo + k, by omega, .inl c2, (pw_add L lo k _).2 ⟨u, v, rfl, hu, hv⟩⟩
     ·rintro ⟨k, k1, _, h⟩
      obtain ⟨m, rfl⟩ : ∃ m, k = lo + m := ⟨k - lo, by omega⟩
      obtain ⟨u, v, rfl, hu, hv⟩ := (pw_add L lo m w).1 h
      exact ⟨u, v, rfl, hu, m, hv⟩
   ·rw [if_neg c2] at h2
    obtain ⟨s, s1, s2⟩ := h2
    cases s with
    | none => cases (show some q = none from s2)
    | some s =>
     have hs : ∀ w, s.has w = true ↔ L w ∨ w = [] := fun w => by
      refine (s1.2.1 w).trans ?_
      show (d.has w = true ∨ e.has w = true) ↔ _
      rw [hd, he.2]
     have hq := powR_fit hs _ p _ q hp s2
     refine ⟨hq.1, fun w => (hq.2 w).trans ?_⟩
     rw [pwc_pw, cat_congr (fun _ => Iff.rfl) (pw_opt L _) w]
     constructor
     ·rintro ⟨u, v, rfl, hu, k, hk, hv⟩
      exact ⟨lo + k, by omega, .inr (by omega), (pw_add L lo k _).2 ⟨u, v, rfl, hu, hv⟩⟩
     ·rintro ⟨k, k1, k2, h⟩
      obtain ⟨m, rfl⟩ : ∃ m, k = lo + m := ⟨k - lo, by omega⟩
      obtain ⟨u, v, rfl, hu, hv⟩ := (pw_add L lo m w).1 h
      exact ⟨u, v, rfl, hu, m, by omega, hv⟩
def RNode.good (n : RNode) (i : Nat) : Prop := (n.kind = 4 ∨ n.kind = 5 ∨ n.kind = 6 → n.l < i ∧ n.r < i) ∧ (n.kind = 7 ∨ n.kind = 8 → n.l < i) ∧ (n.max < 0 ∨ (n.min : Int) ≤ n.max) ∧ 1 ≤ n.kind ∧ n.kind ≤ 8
def Fits (ds : List Dfa) (ls : List Lang) : Prop := ds.length = ls.length ∧ ∀ i, i < ds.length → Fit (ds.getD i dN) (ls.getD i fun _ => False)
theorem nodeR_fit {n : RNode} {ds : List Dfa} {ls : List Lang} (hf : Fits ds ls) (hg : n.good ds.length) {d : Dfa} (h : NodeR n ds (some d)) : Fit d (nodeL n ls) := by
 obtain ⟨g1, g2, g3, g4, g5⟩ := hg
 have can : ∀ {L : Lang}, CanR L (some d) → Fit d L := fun ⟨e, e1, e2, e3⟩ => by
  injection e1 with e1
  subst e1; exact ⟨e2, e3⟩
 unfold NodeR at h
 unfold nodeL
 split at h
 ·rename_i c; rw [if_pos c]; exact can h
 rename_i c1; rw [if_neg c1]
 split at h
 ·rename_i c; rw [if_pos c]; exact can h
 rename_i c2; rw [if_neg c2]
 split at h
 ·rename_i c; rw [if_pos c]; exact can h
 rename_i c3; rw [if_neg c3]
 split at h
 ·rename_i c; rw [if_pos c]
  obtain ⟨hl, hr⟩ := g1 (.inl c)
  exact (catR_fit h (hf.2 _ hl).2 (hf.2 _ hr).2).1
 rename_i c4; rw [if_neg c4]
 split at h
 ·rename_i c; rw [if_pos c]
  obtain ⟨hl, hr⟩ := g1 (.inr (.inl c))
  refine ⟨h.1, fun w => (h.2.1 w).trans ?_⟩
  simp only
  rw [(hf.2 _ hl).2, (hf.2 _ hr).2]
 rename_i c5; rw [if_neg c5]
 split at h
 ·rename_i c; rw [if_pos c]
  obtain ⟨hl, hr⟩ := g1 (.inr (.inr c))
  refine ⟨h.1, fun w => (h.2.1 w).trans ?_⟩
  simp only
  rw [(hf.2 _ hl).2, (hf.2 _ hr).2]
 rename_i c6; rw [if_neg c6]
 split at h
 ·rename_i c; rw [if_pos c]
  have hl := g2 (.inl c)
  have := can h
  refine ⟨this.1, fun w => (this.2 w).trans ?_⟩
  simp only
  rw [(hf.2 _ hl).2]
 rename_i c7; rw [if_neg c7]
 have hl := g2 (.inr (by omega))
 exact repR_fit (hf.2 _ hl).2 g3 h
theorem getD_snoc {α : Type} (l : List α) (x d : α) (i : Nat) : (l ++ [x]).getD i d = if i < l.length then l.getD i d else if i = l.length then x else d := by
 by_cases h : i < l.length
 ·rw [if_pos h, getD_app_lt _ _ _ _ h]
 ·rw [if_neg h]
  by_cases e : i = l.length
  ·rw [if_pos e, e, getD_app_eq]
  ·rw [if_neg e, List.getD_eq_getElem?_getD, List.getElem?_eq_none (by simp; omega)]; rfl
theorem fits_snoc {ds : List Dfa} {ls : List Lang} (h : Fits ds ls) {d : Dfa} {L : Lang} (hd : Fit d L) : Fits (ds ++ [d]) (ls ++ [L]) := by
 refine ⟨by rw [List.length_append, List.length_append, h.1]; rfl, fun i hi => ?_⟩
 rw [List.length_append, List.length_singleton] at hi
 rw [getD_snoc, getD_snoc, ← h.1]
 by_cases e : i < ds.length
 ·rw [if_pos e, if_pos e]; exact h.2 i e
 ·rw [if_neg e, if_neg e, if_pos (by omega), if_pos (by omega)]; exact hd
def goods : List RNode → Nat → Prop
 | [], _ => True
 | n :: x, i => n.good i ∧ goods x (i + 1)
theorem buildR_fit : ∀ (x : List RNode) (ds : List Dfa) (ls : List Lang), Fits ds ls → goods x ds.length → (x = [] → 0 < ds.length) → ∀ d, BuildR x ds (some d) → Fit d ((langs x ls).getD ((langs x ls).length - 1) fun _ => False)
 | [], ds, ls, hf, _, h0, d, h => by
  injection (show some d = some _ from h) with h
  subst h
  show Fit _ (ls.getD (ls.length - 1) _)
  rw [← hf.1]
  exact hf.2 _ (by have := h0 rfl; omega)
 | n :: x, ds, ls, hf, hg, _, d, ⟨q, h1, h2⟩ => by
  cases q with
  | none => cases (show some d = none from h2)
  | some e =>
   have he := nodeR_fit hf hg.1 h1
   exact buildR_fit x (ds ++ [e]) (ls ++ [nodeL n ls]) (fits_snoc hf he) (by rw [List.length_append]; exact hg.2) (by intro _; simp) d h2
end Go.Proofs.YtaiogolidlamiaaGreatDoor
