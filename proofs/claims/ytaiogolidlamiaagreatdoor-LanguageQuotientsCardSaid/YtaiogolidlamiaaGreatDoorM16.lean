import Derived.Test.YtaiogolidlamiaaGreatDoorM15
set_option linter.unusedVariables false
set_option linter.unusedSimpArgs false
namespace Go.Proofs.YtaiogolidlamiaaGreatDoor
abbrev Ay := List UInt8 → Prop
theorem F7 {L L' M M' : Ay} (h : ∀ w, L w ↔ L' w) (k : ∀ w, M w ↔ M' w) (w : List UInt8) : Cat L M w ↔ Cat L' M' w := by
 unfold Cat;constructor
 ·rintro ⟨u, v, e, hu, hv⟩; exact ⟨u, v, e, (h u).1 hu, (k v).1 hv⟩
 ·rintro ⟨u, v, e, hu, hv⟩; exact ⟨u, v, e, (h u).2 hu, (k v).2 hv⟩
theorem U0 (L M N : Ay) (w : List UInt8) : Cat (Cat L M) N w ↔ Cat L (Cat M N) w := by
 constructor
 ·rintro ⟨_, v, rfl, ⟨a, b, rfl, ha, hb⟩, hv⟩;exact ⟨a, b ++ v, by simp, ha, b, v, rfl, hb, hv⟩
 ·rintro ⟨a, _, rfl, ha, b, v, rfl, hb, hv⟩;exact ⟨a ++ b, v, by simp, ⟨a, b, rfl, ha, hb⟩, hv⟩
theorem K7 (L : Ay) (w : List UInt8) : Cat (fun u => u = []) L w ↔ L w := by
 constructor
 ·rintro ⟨u, v, rfl, rfl, hv⟩; simpa using hv
 ·intro h; exact ⟨[], w, rfl, rfl, h⟩
theorem On (L : Ay) (w : List UInt8) : Cat L (fun u => u = []) w ↔ L w := by
 constructor
 ·rintro ⟨u, v, rfl, hu, rfl⟩; simpa using hu
 ·intro h; exact ⟨w, [], by simp, h, rfl⟩
def pwc (P L : Ay) : Nat → Ay
 | 0 => P
 | n + 1 => pwc (Cat P L) L n
theorem Q7 {P P' L L' : Ay} (h : ∀ w, P w ↔ P' w) (k : ∀ w, L w ↔ L' w) (n : Nat) (w : List UInt8) : pwc P L n w ↔ pwc P' L' n w := by
 rw [show P = P' from funext fun w => propext (h w), show L = L' from funext fun w => propext (k w)]
theorem Q8 (A P L : Ay) : ∀ (n : Nat) (w : List UInt8), pwc (Cat A P) L n w ↔ Cat A (pwc P L n) w
 | 0, w => Iff.rfl
 | n + 1, w => by
  show pwc (Cat (Cat A P) L) L n w ↔ Cat A (pwc (Cat P L) L n) w;rw [← Q8 A (Cat P L) L n w];exact Q7 (fun w => U0 A P L w) (fun _ => Iff.rfl) n w
def pw (L : Ay) (n : Nat) : Ay := pwc (fun w => w = []) L n
theorem Q6 (P L : Ay) (n : Nat) (w : List UInt8) : pwc P L n w ↔ Cat P (pw L n) w := by
 rw [pw, ← Q8];exact Q7 (fun w => (On P w).symm) (fun _ => Iff.rfl) n w
theorem Ex (L : Ay) (n : Nat) (w : List UInt8) : pw L (n + 1) w ↔ Cat L (pw L n) w := by
 show pwc (Cat (fun w => w = []) L) L n w ↔ _;rw [Q6];exact F7 (K7 L) (fun _ => Iff.rfl) w
theorem Fy (L : Ay) : ∀ (m n : Nat) (w : List UInt8), pw L (m + n) w ↔ Cat (pw L m) (pw L n) w
 | 0, n, w => by rw [Nat.zero_add]; exact (K7 _ w).symm
 | m + 1, n, w => by
  rw [show m + 1 + n = (m + n) + 1 by omega, Ex];rw [F7 (fun _ => Iff.rfl) (Fy L m n) w, ← U0];exact F7 (fun w => (Ex L m w).symm) (fun _ => Iff.rfl) w
theorem J1 (L : Ay) : ∀ (n : Nat) (w : List UInt8), pw (fun w => L w ∨ w = []) n w ↔ ∃ k, k ≤ n ∧ pw L k w
 | 0, w => by
  constructor
  ·intro h; exact ⟨0, by omega, h⟩
  ·rintro ⟨k, hk, h⟩;obtain rfl : k = 0 := by omega
   exact h
 | n + 1, w => by
  rw [Ex];constructor
  ·rintro ⟨u, v, rfl, hu, hv⟩;obtain ⟨k, hk, h⟩ := (J1 L n v).1 hv;rcases hu with hu | rfl
   ·exact ⟨k + 1, by omega, (Ex L k _).2 ⟨u, v, rfl, hu, h⟩⟩
   ·exact ⟨k, by omega, by simpa using h⟩
  ·rintro ⟨k, hk, h⟩;by_cases e : k = n + 1
   ·subst e;obtain ⟨u, v, rfl, hu, hv⟩ := (Ex L n w).1 h;exact ⟨u, v, rfl, .inl hu, (J1 L n v).2 ⟨n, by omega, hv⟩⟩
   ·exact ⟨[], w, rfl, .inr rfl, (J1 L n w).2 ⟨k, by omega, h⟩⟩
theorem P6 (L : Ay) (w : List UInt8) : Star L w ↔ ∃ k, pw L k w := by
 constructor
 ·intro h;induction h with
  | nil => exact ⟨0, rfl⟩
  | app hu hv ih =>
   obtain ⟨k, hk⟩ := ih;refine ⟨k + 1, (Fy L k 1 _).2 ⟨_, _, rfl, hk, ?_⟩⟩;rw [Ex];exact (On L _).2 hv
 ·rintro ⟨k, hk⟩;induction k generalizing w with
  | zero =>
   have : w = [] := hk;subst this; exact .nil
  | succ k ih =>
   obtain ⟨u, v, rfl, hu, hv⟩ := (Fy L k 1 w).1 hk;have hv : L v := by
    rw [Ex] at hv;exact (On L _).1 hv
   exact .app (ih u hu) hv
def rep (L : Ay) (lo : Nat) (hi : Int) : Ay := fun w => ∃ k, lo ≤ k ∧ (hi < 0 ∨ (k : Int) ≤ hi) ∧ pw L k w
structure RNode where
 kind : Nat
 l : Nat
 r : Nat
 c : Cls
 min : Nat
 max : Int
def J9 (n : RNode) (l : List Ay) : Ay :=
 if n.kind = 1 then fun _ => False else if n.kind = 2 then fun w => w = [] else if n.kind = 3 then fun w => ∃ x : UInt8, w = [x] ∧ n.c.getLsbD x.toNat = true else
 if n.kind = 4 then Cat (l.getD n.l fun _ => False) (l.getD n.r fun _ => False) else if n.kind = 5 then fun w => l.getD n.l (fun _ => False) w ∨ l.getD n.r (fun _ => False) w else
 if n.kind = 6 then fun w => l.getD n.l (fun _ => False) w ∧ l.getD n.r (fun _ => False) w else if n.kind = 7 then fun w => ¬ l.getD n.l (fun _ => False) w else rep (l.getD n.l fun _ => False) n.min n.max
def Nt : List RNode → List Ay → List Ay
 | [], l => l
 | n :: x, l => Nt x (l ++ [J9 n l])
def Et (L : Ay) (r : Option Dfa) : Prop := ∃ d, r = some d ∧ Cano d ∧ ∀ w, d.has w = true ↔ L w
def D4 (r : Option Dfa) (f : Dfa → Option Dfa → Prop) (q : Option Dfa) : Prop := match r with | none => q = none | some d => f d q
def Dh (p d : Dfa) : Nat → Option Dfa → Prop
 | 0, r => r = some p
 | n + 1, r => ∃ q, Di p d q ∧ D4 q (fun p' => Dh p' d n) r
def Gc (d : Dfa) (lo : Nat) (hi : Int) (r : Option Dfa) : Prop :=
 ∃ e, (Cano e ∧ ∀ w, e.has w = true ↔ w = []) ∧ ∃ q, Dh e d lo q ∧ D4 q (fun p r => if hi = lo then r = some p else
  if hi < 0 then ∃ s, Hi d s ∧ D4 s (fun s r => Di p s r) r else ∃ o, Lim (fun w => d.has w = true ∨ e.has w = true) o ∧ D4 o (fun o r => Dh p o (hi - lo).toNat r) r) r
def dN : Dfa := ⟨[], [], []⟩
def Fs (n : RNode) (l : List Dfa) (r : Option Dfa) : Prop :=
 if n.kind = 1 then Et (fun _ => False) r else if n.kind = 2 then Et (fun w => w = []) r else if n.kind = 3 then Et (fun w => ∃ x : UInt8, w = [x] ∧ n.c.getLsbD x.toNat = true) r else
 if n.kind = 4 then Di (l.getD n.l dN) (l.getD n.r dN) r else if n.kind = 5 then Lim (fun w => (l.getD n.l dN).has w = true ∨ (l.getD n.r dN).has w = true) r else
 if n.kind = 6 then Lim (fun w => (l.getD n.l dN).has w = true ∧ (l.getD n.r dN).has w = true) r else if n.kind = 7 then Et (fun w => ¬ (l.getD n.l dN).has w = true) r else Gc (l.getD n.l dN) n.min n.max r
def Eb : List RNode → List Dfa → Option Dfa → Prop
 | [], l, r => r = some (l.getD (l.length - 1) dN)
 | n :: x, l, r => ∃ q, Fs n l q ∧ D4 q (fun d => Eb x (l ++ [d])) r
def Fit (d : Dfa) (L : Ay) : Prop := Cano d ∧ ∀ w, d.has w = true ↔ L w
theorem Sn {L : Ay} {d : Dfa} (h : Lim L (some d)) : Fit d L := ⟨h.1, h.2.1⟩
theorem Iz {a b d : Dfa} {L M : Ay} (h : Di a b (some d)) (ha : ∀ w, a.has w = true ↔ L w) (hb : ∀ w, b.has w = true ↔ M w) : Fit d (Cat L M) ∧ d.nxt.length ≤ 64 := by
 obtain ⟨x, y, hx, hy, ex, ey, h1, h2⟩ := h;by_cases hm : Bv (cnx (Ae x) (Ae y)) (cst (Ae x)) 4096
 ·cases h1 hm
 ·obtain ⟨k1, k2, k3⟩ := h2 hm;exact ⟨⟨k1, fun w => (k2 w).trans (F7 ha hb w)⟩, k3⟩
theorem P9 {a d : Dfa} {L : Ay} (h : Hi a (some d)) (ha : ∀ w, a.has w = true ↔ L w) : Fit d (Star L) ∧ d.nxt.length ≤ 64 := by
 obtain ⟨x, hx, ex, h1, h2⟩ := h;by_cases hm : Bv (snx (Ae x)) (1, 1) 4096
 ·cases h1 hm
 ·obtain ⟨k1, k2, k3⟩ := h2 hm;refine ⟨⟨k1, fun w => ?_⟩, k3⟩;rw [k2, show L = fun w => a.has w = true from funext fun w => propext (ha w).symm]
theorem Mv {d : Dfa} {L : Ay} (hd : ∀ w, d.has w = true ↔ L w) : ∀ (n : Nat) (p : Dfa) (P : Ay) (q : Dfa), Fit p P → Dh p d n (some q) → Fit q (pwc P L n)
 | 0, p, P, q, hp, h => by
  injection (show some q = some p from h) with h
  subst h; exact hp
 | n + 1, p, P, q, hp, ⟨q', h1, h2⟩ => by
  cases q' with
  | none => cases (show some q = none from h2)
  | some p' => exact Mv hd n p' (Cat P L) q (Iz h1 hp.2 hd).1 h2
theorem Zl {d q : Dfa} {L : Ay} {lo : Nat} {hi : Int} (hd : ∀ w, d.has w = true ↔ L w) (hlh : hi < 0 ∨ (lo : Int) ≤ hi) (h : Gc d lo hi (some q)) : Fit q (rep L lo hi) := by
 obtain ⟨e, he, p, h1, h2⟩ := h;cases p with
 | none => cases (show some q = none from h2)
 | some p =>
  have hp : Fit p (pw L lo) := Mv hd lo e _ p ⟨he.1, he.2⟩ h1;change (if hi = (lo : Int) then _ else _) at h2
  by_cases c1 : hi = lo
  ·rw [if_pos c1] at h2;injection h2 with h2
   subst h2;refine ⟨hp.1, fun w => (hp.2 w).trans ?_⟩;constructor
   ·intro h; exact ⟨lo, Nat.le_refl _, .inr (by omega), h⟩
   ·rintro ⟨k, k1, k2, h⟩;obtain rfl : k = lo := by omega
    exact h
  ·rw [if_neg c1] at h2;by_cases c2 : hi < 0
   ·rw [if_pos c2] at h2;obtain ⟨s, s1, s2⟩ := h2;cases s with
    | none => cases (show some q = none from s2)
    | some s =>
     have hs := (P9 s1 hd).1;have hq := (Iz (show Di p s (some q) from s2) hp.2 hs.2).1;refine ⟨hq.1, fun w => (hq.2 w).trans ?_⟩;rw [F7 (fun _ => Iff.rfl) (P6 L) w];constructor
     ·rintro ⟨u, v, rfl, hu, k, hv⟩;exact ⟨lo + k, by omega, .inl c2, (Fy L lo k _).2 ⟨u, v, rfl, hu, hv⟩⟩
     ·rintro ⟨k, k1, _, h⟩;obtain ⟨m, rfl⟩ : ∃ m, k = lo + m := ⟨k - lo, by omega⟩;obtain ⟨u, v, rfl, hu, hv⟩ := (Fy L lo m w).1 h;exact ⟨u, v, rfl, hu, m, hv⟩
   ·rw [if_neg c2] at h2;obtain ⟨s, s1, s2⟩ := h2;cases s with
    | none => cases (show some q = none from s2)
    | some s =>
     have hs : ∀ w, s.has w = true ↔ L w ∨ w = [] := fun w => by
      refine (s1.2.1 w).trans ?_;show (d.has w = true ∨ e.has w = true) ↔ _;rw [hd, he.2]
     have hq := Mv hs _ p _ q hp s2;refine ⟨hq.1, fun w => (hq.2 w).trans ?_⟩;rw [Q6, F7 (fun _ => Iff.rfl) (J1 L _) w];constructor
     ·rintro ⟨u, v, rfl, hu, k, hk, hv⟩;exact ⟨lo + k, by omega, .inr (by omega), (Fy L lo k _).2 ⟨u, v, rfl, hu, hv⟩⟩
     ·rintro ⟨k, k1, k2, h⟩;obtain ⟨m, rfl⟩ : ∃ m, k = lo + m := ⟨k - lo, by omega⟩;obtain ⟨u, v, rfl, hu, hv⟩ := (Fy L lo m w).1 h;exact ⟨u, v, rfl, hu, m, by omega, hv⟩
def RNode.good (n : RNode) (i : Nat) : Prop := (n.kind = 4 ∨ n.kind = 5 ∨ n.kind = 6 → n.l < i ∧ n.r < i) ∧ (n.kind = 7 ∨ n.kind = 8 → n.l < i) ∧ (n.max < 0 ∨ (n.min : Int) ≤ n.max) ∧ 1 ≤ n.kind ∧ n.kind ≤ 8
def Ln (ds : List Dfa) (ls : List Ay) : Prop := ds.length = ls.length ∧ ∀ i, i < ds.length → Fit (ds.getD i dN) (ls.getD i fun _ => False)
theorem Abl {n : RNode} {ds : List Dfa} {ls : List Ay} (hf : Ln ds ls) (hg : n.good ds.length) {d : Dfa} (h : Fs n ds (some d)) : Fit d (J9 n ls) := by
 obtain ⟨g1, g2, g3, g4, g5⟩ := hg;have can : ∀ {L : Ay}, Et L (some d) → Fit d L := fun ⟨e, e1, e2, e3⟩ => by
  injection e1 with e1
  subst e1; exact ⟨e2, e3⟩
 unfold Fs at h;unfold J9;split at h
 ·rename_i c; rw [if_pos c]; exact can h
 rename_i c1; rw [if_neg c1]
 split at h
 ·rename_i c; rw [if_pos c]; exact can h
 rename_i c2; rw [if_neg c2]
 split at h
 ·rename_i c; rw [if_pos c]; exact can h
 rename_i c3; rw [if_neg c3]
 split at h
 ·rename_i c; rw [if_pos c]
  obtain ⟨hl, hr⟩ := g1 (.inl c);exact (Iz h (hf.2 _ hl).2 (hf.2 _ hr).2).1
 rename_i c4; rw [if_neg c4]
 split at h
 ·rename_i c; rw [if_pos c]
  obtain ⟨hl, hr⟩ := g1 (.inr (.inl c));refine ⟨h.1, fun w => (h.2.1 w).trans ?_⟩;simp only;rw [(hf.2 _ hl).2, (hf.2 _ hr).2]
 rename_i c5; rw [if_neg c5]
 split at h
 ·rename_i c; rw [if_pos c]
  obtain ⟨hl, hr⟩ := g1 (.inr (.inr c));refine ⟨h.1, fun w => (h.2.1 w).trans ?_⟩;simp only;rw [(hf.2 _ hl).2, (hf.2 _ hr).2]
 rename_i c6; rw [if_neg c6]
 split at h
 ·rename_i c; rw [if_pos c]
  have hl := g2 (.inl c);have := can h;refine ⟨this.1, fun w => (this.2 w).trans ?_⟩;simp only;rw [(hf.2 _ hl).2]
 rename_i c7; rw [if_neg c7]
 have hl := g2 (.inr (by omega));exact Zl (hf.2 _ hl).2 g3 h
theorem Im {α : Type} (l : List α) (x d : α) (i : Nat) : (l ++ [x]).getD i d = if i < l.length then l.getD i d else if i = l.length then x else d := by
 by_cases h : i < l.length
 ·rw [if_pos h, Bi _ _ _ _ h]
 ·rw [if_neg h];by_cases e : i = l.length
  ·rw [if_pos e, e, B8]
  ·rw [if_neg e, List.getD_eq_getElem?_getD, List.getElem?_eq_none (by simp; omega)]; rfl
theorem Aeg {ds : List Dfa} {ls : List Ay} (h : Ln ds ls) {d : Dfa} {L : Ay} (hd : Fit d L) : Ln (ds ++ [d]) (ls ++ [L]) := by
 refine ⟨by rw [List.length_append, List.length_append, h.1]; rfl, fun i hi => ?_⟩;rw [List.length_append, List.length_singleton] at hi;rw [Im, Im, ← h.1];by_cases e : i < ds.length
 ·rw [if_pos e, if_pos e]; exact h.2 i e
 ·rw [if_neg e, if_neg e, if_pos (by omega), if_pos (by omega)]; exact hd
def Te : List RNode → Nat → Prop
 | [], _ => True
 | n :: x, i => n.good i ∧ Te x (i + 1)
theorem Vi : ∀ (x : List RNode) (ds : List Dfa) (ls : List Ay), Ln ds ls → Te x ds.length → (x = [] → 0 < ds.length) → ∀ d, Eb x ds (some d) → Fit d ((Nt x ls).getD ((Nt x ls).length - 1) fun _ => False)
 | [], ds, ls, hf, _, h0, d, h => by
  injection (show some d = some _ from h) with h
  subst h;show Fit _ (ls.getD (ls.length - 1) _);rw [← hf.1];exact hf.2 _ (by have := h0 rfl; omega)
 | n :: x, ds, ls, hf, hg, _, d, ⟨q, h1, h2⟩ => by
  cases q with
  | none => cases (show some d = none from h2)
  | some e =>
   have he := Abl hf hg.1 h1;exact Vi x (ds ++ [e]) (ls ++ [J9 n ls]) (Aeg hf he) (by rw [List.length_append]; exact hg.2) (by intro _; simp) d h2
end Go.Proofs.YtaiogolidlamiaaGreatDoor
