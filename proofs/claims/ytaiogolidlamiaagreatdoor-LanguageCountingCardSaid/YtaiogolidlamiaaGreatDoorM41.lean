import Derived.Test.YtaiogolidlamiaaGreatDoorM36
import Derived.Test.YtaiogolidlamiaaGreatDoorM40
import Derived.Test.YtaiogolidlamiaaGreatDoorRows
import Derived.ProofKit
import Derived.LaidMore
import Derived.OpenShut
import Derived.Stop.Joined
import Derived.Lib.LaidTab
set_option linter.unusedVariables false
set_option linter.unusedSimpArgs false
namespace Go.Proofs.YtaiogolidlamiaaGreatDoor
set_option maxRecDepth 100000
open Go.RowKit Go.Shelf
def rawA (S : Nat) (a : Option Addr) (n c A : Nat) : Array Value := #[.int .u8 S, .slice a n c, .int .u8 A]
theorem info24r (S : Nat) (a : Option Addr) (n c A : Nat) : (Tryz.prog.info? 24).map (·.size) = some (rawA S a n c A).size := by
 show _ = some 3
 kernel_rfl
structure RawAt (W : World) (S : Nat) (a : Option Addr) (n c A : Nat) : Prop where
 hs : S < 256
 ha : A < 256
 by_ : ∃ l : List UInt8, l.length = n ∧ ByW W (.slice a n c) l
theorem RawAt.ext {W W' : World} {S : Nat} {a : Option Addr} {n c A : Nat} (h : RawAt W S a n c A) (hE : Ext W W') : RawAt W' S a n c A :=
 ⟨h.hs, h.ha, by obtain ⟨l, h1, h2⟩ := h.by_; exact ⟨l, h1, h2.ext hE⟩⟩
abbrev MadeOf (R : Array Value) (W : World) : Prop := Calls Tryz.prog 26 #[.agg R] W fun e w' => ∃ d v, e = .returned v ∧ IsD w' v d ∧ (Val d ∧ d.nxt.length ≤ 5) ∧ Ext W w'
theorem made_raw {w : World} {S : Nat} {a : Option Addr} {n c A : Nat} (h : RawAt w S a n c A) :
  MadeOf (rawA S a n c A) w := by
 obtain ⟨hS, hA, l, rfl, hb⟩ := h
 exact (made_any S A hS hA _ l w hb).mono fun e w' ⟨v, d, h1, h2, h3, h4, h5⟩ => ⟨d, v, h1, h2, ⟨h3, h4⟩, h5⟩
theorem box_list_len (n m : Nat) : n * m ≤ n * m := Nat.le_refl _
theorem lim_two {d f : Dfa} (hd : Val d ∧ d.nxt.length ≤ 5) (hf : Val f ∧ f.nxt.length ≤ 5) {L : List UInt8 → Prop} {r : Option Dfa} (h : Lim L r) (g : Bool → Bool → Bool) (hg : ∀ u, L u ↔ g (d.has u) (f.has u) = true) :
  ∃ p, r = some p ∧ (Val p ∧ p.nxt.length ≤ 64) ∧ ∀ u, p.has u = g (d.has u) (f.has u) := by
 have key : ∀ p : Dfa, Cano p → (∀ u, p.has u = true ↔ L u) → p.nxt.length ≤ 25 := fun p hp hh => by
  have := prod_le (tval_of hd.1) (tval_of hf.1) (g := g) hp (fun w => by
   rw [Bool.eq_iff_iff, hh, hg, tblOf_has, tblOf_has])
  rw [show (tblOf d).nxt = d.nxt from rfl, show (tblOf f).nxt = f.nxt from rfl] at this
  exact Nat.le_trans this (Nat.mul_le_mul hd.2 hf.2)
 cases r with
 | none =>
  obtain ⟨p, h1, h2, h3⟩ := h
  have := key p h1 h2
  omega
 | some p =>
  obtain ⟨h1, h2, h3⟩ := h
  exact ⟨p, rfl, ⟨h1.val, h3⟩, fun u => by rw [Bool.eq_iff_iff, h2, hg]⟩
theorem or_small (d f : Dfa) (hd : Val d ∧ d.nxt.length ≤ 5) (hf : Val f ∧ f.nxt.length ≤ 5) (va vb : Value) (w : World) (hT : Tab w) (hsz : 0 < w.heap.size) (h1 : IsD w va d) (h2 : IsD w vb f) :
  Calls Tryz.prog 33 #[va, vb] w fun e w' => ∃ p v, e = .returned (.tuple #[v, .int .i64 0]) ∧ IsD w' v p ∧ ((Val p ∧ p.nxt.length ≤ 64) ∧ ∀ u, p.has u = (d.has u || f.has u)) ∧ Ext w w' :=
 (orD_any d f hd.1 hf.1 (by have := hd.2; omega) (by have := hf.2; omega) va vb w hT hsz h1 h2).mono fun e w' ⟨r, q1, q2, q3⟩ => by
  obtain ⟨p, rfl, hp, hh⟩ := lim_two hd hf q2 (fun a b => a || b) (fun u => by simp)
  obtain ⟨v, he, hD⟩ := q1
  exact ⟨p, v, he, hD, ⟨hp, hh⟩, q3⟩
theorem and_small (d f : Dfa) (hd : Val d ∧ d.nxt.length ≤ 5) (hf : Val f ∧ f.nxt.length ≤ 5) (va vb : Value) (w : World) (hT : Tab w) (hsz : 0 < w.heap.size) (h1 : IsD w va d) (h2 : IsD w vb f) :
  Calls Tryz.prog 34 #[va, vb] w fun e w' => ∃ p v, e = .returned (.tuple #[v, .int .i64 0]) ∧ IsD w' v p ∧ ((Val p ∧ p.nxt.length ≤ 64) ∧ ∀ u, p.has u = (d.has u && f.has u)) ∧ Ext w w' :=
 (andD_any d f hd.1 hf.1 (by have := hd.2; omega) (by have := hf.2; omega) va vb w hT hsz h1 h2).mono fun e w' ⟨r, q1, q2, q3⟩ => by
  obtain ⟨p, rfl, hp, hh⟩ := lim_two hd hf q2 (fun a b => a && b) (fun u => by simp)
  obtain ⟨v, he, hD⟩ := q1
  exact ⟨p, v, he, hD, ⟨hp, hh⟩, q3⟩
theorem not_small (d : Dfa) (hd : Val d ∧ d.nxt.length ≤ 5) (v : Value) (w : World) (hT : Tab w) (hsz : 0 < w.heap.size) (h : IsD w v d) :
  Calls Tryz.prog 32 #[v] w fun e w' => ∃ p u, e = .returned (.tuple #[u, .int .i64 0]) ∧ IsD w' u p ∧ ((Val p ∧ p.nxt.length ≤ 64) ∧ ∀ x, p.has x = !d.has x) ∧ Ext w w' :=
 (notD_any d hd.1 (by have := hd.2; omega) v w hT hsz h).mono fun e w' ⟨q, ⟨u, h1, h2⟩, h3, h4, h5⟩ =>
  ⟨q, u, h1, h2, ⟨⟨h3.val, Nat.le_trans (not_le hd.1 h3 h4) (by have := hd.2; omega)⟩, h4⟩, h5⟩
theorem count_small (d : Dfa) (hd : Val d ∧ d.nxt.length ≤ 64) (n : Nat) (hn : n ≤ 4) (v : Value) (w : World) (h : IsD w v d) :
  Calls Tryz.prog 20 #[v, iv n] w fun e w' => e = .returned (.tuple #[.int .i64 (cntL d.has n : Nat), .int .i64 0]) ∧ Ext w w' :=
 (count_any d hd.1 hd.2 n (by omega) v w h).mono fun e w' ⟨h1, h2⟩ => ⟨by
  rw [h1]
  unfold CountE
  rw [if_pos (Nat.le_trans (cntL_le _ _) (Nat.le_trans (Nat.pow_le_pow_right (by decide) hn) (by decide)))], h2⟩
end Go.Proofs.YtaiogolidlamiaaGreatDoor
namespace Go.Proofs.YtaiogolidlamiaaGreatDoor
set_option maxRecDepth 100000
open Go.ChangeShapes Go.WideShapes Go.ChangeAt Go.WideMaps Go.WideElems Go.RowKit
def laid1 : List (String × DataW Unit) := [("math/bits.deBruijn64tab", Rows.laid_math_bits_deBruijn64tab)]
theorem ownT : ownKnob Tryz.prog.godebug = none := by kernel_rfl
theorem gTab : Tryz.prog.globalNamed "math/bits.deBruijn64tab" = some 0 := by kernel_rfl
theorem tTab : (Tryz.prog.globals[0]?).map (·.type) = some 205 := by kernel_rfl
theorem laidOutT : laidOutB Tryz.prog = true := by kernel_rfl
theorem dTab {H : Type} : (Rows.laid_math_bits_deBruijn64tab : DataW H) = Lib.tabData .u8 (Lib.deBruijn64tab.map Int.ofNat) := rfl
theorem door_met (os : Os) (args : Array Value) : laidMetH Tryz.prog laid1 ((World.doorLaid Tryz.prog 400 os).forCall (fun _ _ => 0) ⟨#[], args, []⟩).memory :=
 laidMetH_of_parts3 (fuel := 8) (laidMet_of_run' 8 (by kernel_rfl) (by kernel_rfl)) (by kernel_rfl) (by kernel_rfl)
theorem tab_of_laid {W : World} (h : laidMetH Tryz.prog laid1 W) : Tab W ∧ 0 < W.heap.size := by
 rw [MakeChecks.laidMetH_plain _ _ _ (by kernel_rfl)] at h
 have h1 : Lib.TabIs Tryz.prog W "math/bits.deBruijn64tab" .u8 (Lib.deBruijn64tab.map Int.ofNat) :=
  Lib.tabIs_of_head gTab tTab Tryz.underlying205 Tryz.underlying5 (by kernel_rfl) (by kernel_rfl) h
 have hT : Tab W := fun j hj => by
  rw [h1.cell gTab j (by simpa [Lib.deBruijn64tab] using hj)]
  have hj' : j < Lib.deBruijn64tab.length := by simpa [Lib.deBruijn64tab] using hj
  simp [List.getD_eq_getElem?_getD, hj']
 exact ⟨hT, World.block_lt_of_cell? W _ (hT 0 (by decide))⟩
theorem byte_of {k : Int} (h : (Lit.int .u8 k).wf = true) : ∃ n : Nat, k = n ∧ n < 256 := by
 simp [Lit.wf, IntKind.min, IntKind.max, IntKind.bits, IntKind.signed] at h
 exact ⟨k.toNat, by omega, by omega⟩
theorem open_u8 {H : Type} {enc : TypeId × Value → H} {W : World} {b0 : Nat} {v : Value} {d : DataW H} {p : List MemPlace} (hv : Value.okWide Tryz.prog W .any b0 5 v) (h : DataW.Trod enc Tryz.prog W 0 (fun _ => true) true 5 v d p) :
  ∃ n : Nat, n < 256 ∧ v = .int .u8 (n : Int) := by
 obtain ⟨a, rfl, _, _, wa⟩ := open_int Tryz.underlying5 hv h
 obtain ⟨n, rfl, hn⟩ := byte_of wa
 exact ⟨n, hn, rfl⟩
theorem by_of_trod {H : Type} {enc : TypeId × Value → H} {W : World} {fuel : Nat} {x : DataW H × List MemPlace} {a : Option Addr} {len cap : Nat} (hf : DataW.trod enc Tryz.prog W 0 (fun _ => true) true fuel 22 [.slice a len cap] = some x) :
  ∃ l : List UInt8, l.length = len ∧ ByW W (.slice a len cap) l := by
 rcases open_ints Tryz.underlying22 Tryz.underlying5 (by kernel_rfl) hf with ⟨hcs, _⟩ | ⟨x, l, c, zs, hcs, _, hl, hm, hz, _, hcell, hwz⟩
 ·simp at hcs
  obtain ⟨rfl, rfl, rfl⟩ := hcs
  exact ⟨[], rfl, by simp, .inl ⟨rfl, _, _, rfl⟩⟩
 ·simp at hcs
  obtain ⟨rfl, rfl, rfl⟩ := hcs
  have hz : zs.length = cap := by simpa using hz
  have hlen : ((zs.take len).map fun z => UInt8.ofNat z.toNat).length = len := by simp; omega
  refine ⟨(zs.take len).map fun z => UInt8.ofNat z.toNat, hlen, by rw [hlen]; exact Nat.le_trans hl hm, ?_⟩
  rw [hlen]
  by_cases h0 : len = 0
  ·subst h0; exact .inl ⟨rfl, _, _, rfl⟩
  ·obtain ⟨b, off, spot⟩ := x
   have hc := hcell 0 (by omega)
   have hspot : spot = none := by simpa [Addr.add] using World.cell?_spot hc
   subst hspot
   refine .inr ⟨by omega, b, off, cap, rfl, World.block_lt_of_cell? W _ hc, fun i hi => ?_⟩
   have h1 := hcell i (by omega)
   have h2 : i < zs.length := by omega
   have hw := hwz _ (List.getElem_mem h2)
   obtain ⟨n, hn, hn2⟩ := byte_of hw
   rw [Addr.add_lit] at h1
   rw [h1]
   simp only [List.getD_eq_getElem?_getD, List.getElem?_map, List.getElem?_take, List.getElem?_eq_getElem h2, Option.getD_some, Option.map_some, if_pos hi, hn, bv, Int.toNat_natCast]
   congr 2
   rw [u8n n hn2]
theorem open_by {H : Type} {enc : TypeId × Value → H} {W : World} {b0 : Nat} {v : Value} {d : DataW H} {p : List MemPlace} (hv : Value.okWide Tryz.prog W .any b0 22 v) (h : DataW.Trod enc Tryz.prog W 0 (fun _ => true) true 22 v d p) :
  ∃ l : List UInt8, ByW W v l := by
 obtain ⟨a, len, cap, rfl⟩ := okWide_slice Tryz.underlying22 hv
 obtain ⟨fuel, hf⟩ := h
 obtain ⟨l, _, hl⟩ := by_of_trod hf
 exact ⟨l, hl⟩
theorem slice_of_trod {H : Type} {enc : TypeId × Value → H} {W : World} {fuel : Nat} {cs : List Value} {x : DataW H × List MemPlace} (hf : DataW.trod enc Tryz.prog W 0 (fun _ => true) true fuel 22 cs = some x) : ∃ a len cap, cs = [.slice a len cap] := by
 rcases open_ints Tryz.underlying22 Tryz.underlying5 (by kernel_rfl) hf with ⟨hcs, _⟩ | ⟨x, l, c, zs, hcs, _⟩
 ·exact ⟨_, _, _, hcs⟩
 ·exact ⟨_, _, _, hcs⟩
theorem open_raw {H : Type} {enc : TypeId × Value → H} {W : World} {b0 : Nat} {v : Value} {d : DataW H} {p : List MemPlace} (hv : Value.okWide Tryz.prog W .any b0 24 v) (h : DataW.Trod enc Tryz.prog W 0 (fun _ => true) true 24 v d p) :
  ∃ S a n c A, v = .agg (rawA S a n c A) ∧ RawAt W S a n c A := by
 obtain ⟨cs, rfl, hsz⟩ := okWide_struct Tryz.underlying24 hv
 obtain ⟨fuel, hf⟩ := h
 obtain ⟨xs, m, _, _, hlen, hxl, hel⟩ := DataW.trod_struct Tryz.underlying24 hf
 have hc24 : Tryz.prog.cellsOf 24 = 3 := by kernel_rfl
 have hc5 : Tryz.prog.cellsOf 5 = 1 := by kernel_rfl
 have hc22 : Tryz.prog.cellsOf 22 = 1 := by kernel_rfl
 rw [hc24] at hsz
 obtain ⟨L⟩ := cs
 match L, hsz with
 | [u, s, t], _ =>
  match xs, hxl with
  | [x0, x1, x2], _ =>
   have h0 : DataW.trod enc Tryz.prog W 0 (fun _ => true) true m 5 (([u, s, t].drop 0).take (Tryz.prog.cellsOf 5)) = some x0 := hel 0 _ rfl
   have h1 : DataW.trod enc Tryz.prog W 0 (fun _ => true) true m 22 (([u, s, t].drop 1).take (Tryz.prog.cellsOf 22)) = some x1 := hel 1 _ rfl
   have h2 : DataW.trod enc Tryz.prog W 0 (fun _ => true) true m 5 (([u, s, t].drop 2).take (Tryz.prog.cellsOf 5)) = some x2 := hel 2 _ rfl
   rw [hc5] at h0 h2
   rw [hc22] at h1
   obtain ⟨k0, e0, _, w0⟩ := DataW.trod_int Tryz.underlying5 h0
   obtain ⟨k2, e2, _, w2⟩ := DataW.trod_int Tryz.underlying5 h2
   obtain ⟨a, len, cap, e1⟩ := slice_of_trod h1
   rw [e1] at h1
   obtain ⟨l, hl, hb⟩ := by_of_trod h1
   obtain ⟨S, rfl, hS⟩ := byte_of w0
   obtain ⟨A, rfl, hA⟩ := byte_of w2
   have f0 : u = .int .u8 S := by injection e0
   have f1 : s = .slice a len cap := by injection e1
   have f2 : t = .int .u8 A := by injection e2
   subst f0 f1 f2
   exact ⟨S, a, len, cap, A, rfl, hS, hA, l, hl, hb⟩
end Go.Proofs.YtaiogolidlamiaaGreatDoor
