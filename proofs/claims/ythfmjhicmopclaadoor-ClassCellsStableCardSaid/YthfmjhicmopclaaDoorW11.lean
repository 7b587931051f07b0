/-
  The walks of TrailingZeros64 and of the iterator over the members of a class.
-/
import Derived.Test.YthfmjhicmopclaaDoorW10
import Derived.Test.YthfmjhicmopclaaDoorMem
import Derived.Test.YthfmjhicmopclaaDoorSeq
namespace Go.Proofs.YthfmjhicmopclaaDoor
open Go.RowKit Go.Shelf
attribute [local go_sem] Oper.semAt_some

/-- The table of TrailingZeros64 lies in its variable. -/
def Tab (w : World) : Prop := ∀ j, j < 64 → w.cell? ⟨0, j, none⟩ = some (.int .u8 (Lib.deBruijn64tab.getD j 0 : Nat))
theorem Tab.below {w W : World} {B : Nat} (h : Tab w) (hb : Below B w W) (hB : 0 < B) : Tab W := fun j hj => (hb.cell (p := ⟨0, j, none⟩) hB).trans (h j hj)

theorem tz_key (x a : Nat) (hx : x < 18446744073709551616) (hx0 : x ≠ 0) (hlow : x &&& (18446744073709551616 - x) = a) :
    IntKind.u64.wrap (bits BinOp.and IntKind.u64 (x : Int) (IntKind.u64.wrap (-(x : Int))) * 285870213051353865) / 288230376151711744 = ((a * 285870213051353865 % 18446744073709551616 / 288230376151711744 : Nat) : Int) := by
  have e1 : IntKind.u64.wrap (-(x : Int)) = ((18446744073709551616 - x : Nat) : Int) := by rw [IntKind.wrap_u64]; omega
  rw [e1, u64_and_nat x _ hx (by omega), hlow, IntKind.wrap_u64]
  omega

theorem tz_core (F : Fence) (n : Nat) (h57 : F.fn 57) (hro : F.round = none) (x k idx : Nat) (w : World) (hx0 : ((x : Int) == 0) = false)
    (key : IntKind.u64.wrap (bits BinOp.and IntKind.u64 (x : Int) (IntKind.u64.wrap (-(x : Int))) * 285870213051353865) / 288230376151711744 = (idx : Int))
    (hi : idx < 64) (hk : k < 64) (hcell : w.cell? ⟨0, idx, none⟩ = some (.int .u8 (k : Nat))) :
    CallsIn F n Tryd.prog 57 #[.int .u64 (x : Int)] w fun e w' => e = .returned (.int .i64 (k : Nat)) ∧ w' = w := by
  refine callsIn_of_wp Tryd.func57 rfl h57 ?_ hro
  simp only [Tryd.ntmps57, List.size_toArray, List.length_cons, List.length_nil, Nat.reduceAdd, Nat.reduceSub, Array.replicate_succ, Array.replicate_zero, List.push_toArray, List.append_toArray, List.nil_append, List.cons_append]
  gi_wp2_with (simp only [key])
  go_ret
  exact ⟨rfl, rfl⟩

theorem tz_any (F : Fence) (n : Nat) (h57 : F.fn 57) (hro : F.round = none) (x : Nat) (hx : x < 18446744073709551616) (hx0 : x ≠ 0) (w : World) (hT : Tab w) :
    CallsIn F n Tryd.prog 57 #[.int .u64 (x : Int)] w fun e w' => e = .returned (.int .i64 (Lib.ctz 64 x : Nat)) ∧ w' = w := by
  obtain ⟨hlow, hk⟩ := Lib.lowest_bit 64 x hx0 hx
  obtain ⟨hi, htab⟩ := Lib.deBruijn64_at _ hk
  have hcell := hT _ hi
  rw [htab] at hcell
  exact tz_core F n h57 hro x _ _ w (by simp; omega) (tz_key x _ hx hx0 hlow) hi hk hcell

theorem and_pred (y : Nat) (h0 : y ≠ 0) (h : y < 18446744073709551616) : bits BinOp.and IntKind.u64 (y : Int) ((y : Int) - 1) = ((y &&& (y - 1) : Nat) : Int) := by
  rw [show ((y : Int) - 1) = ((y - 1 : Nat) : Int) by omega, u64_and_nat _ _ h (by omega)]
theorem u8_nat' (k : Nat) (h : k < 256) : ((UInt8.ofNat k).toNat : Int) = (k : Int) := by
  simp
  omega

set_option maxRecDepth 100000 in
theorem members1_in (F : Fence) (n : Nat) (h56 : F.fn 56) (h57 : F.fn 57) (hro : F.round = none) (hn : 1 ≤ n) (l Bc : Nat) (c : Cls) (J Jx : List UInt8 → World → Prop)
    (hT : ∀ pre W, J pre W → Tab W)
    (hY : ∀ pre x W, J pre W → (pre ++ [x]) <+: bytesTo c 256 → YieldAt F (n - 1) Tryd.prog l #[bv x] W fun e W' => (e = .returned (.bool true) ∧ J (pre ++ [x]) W') ∨ (e = .returned (.bool false) ∧ Jx (pre ++ [x]) W'))
    (W : World) (hc : W.heap[Bc]? = some (.cells (encA c) 30 (0, 0))) (h0 : J [] W) :
    CallsIn F n Tryd.prog 56 #[.func (.yield l) #[] #[], .pointer (some ⟨Bc, 0, none⟩)] W fun e W' => (∃ v, e = .returned v) ∧ ((∃ xs, xs = bytesTo c 256 ∧ J xs W') ∨ (∃ pre, pre <+: bytesTo c 256 ∧ Jx pre W')) := by
  have c0 := (cell_of_row W _ 0 _ _ _ hc).trans rfl
  have c1 := (cell_of_row W _ 1 _ _ _ hc).trans rfl
  have c2 := (cell_of_row W _ 2 _ _ _ hc).trans rfl
  have c3 := (cell_of_row W _ 3 _ _ _ hc).trans rfl
  clear hc
  refine callsIn_of_wp Tryd.func56 rfl h56 ?_ hro
  simp only [Tryd.ntmps56, List.size_toArray, List.length_cons, List.length_nil, Nat.reduceAdd, Nat.reduceSub, Array.replicate_succ, Array.replicate_zero, List.push_toArray, List.append_toArray, List.nil_append, List.cons_append]
  gi_wp2
  clear c0 c1 c2 c3
  gi_loopw [6] (fun v6 wr => ∃ k : Nat, k ≤ 4 ∧ v6 = .int .i64 k ∧ J (bytesTo c (64 * k)) wr) (fun v6 _ => 4 - (intOf v6).toNat)
  case atStart => exact ⟨0, by omega, rfl, h0⟩
  case round =>
    obtain ⟨k, hk, rfl, hJ⟩ := hrel
    by_cases hlt : k < 4
    · have hix := index30 c k hlt
      have hdk : decide ((k : Int) < 4) = true := by simp; omega
      gi_wp2
      obtain ⟨wo, rfl⟩ : ∃ wo : World, wo = wr := ⟨_, rfl⟩
      clear hix hdk
      gi_loopw [4] (fun v4 wr => ∃ p : Nat, p ≤ 64 ∧ v4 = .int .u64 (hiB (wn c k) p : Nat) ∧ J (bytesTo c (64 * k + p)) wr) (fun v4 _ => (intOf v4).toNat)
      case atStart => exact ⟨0, by omega, by rw [hiB_zero]; rfl, hJ⟩
      case round =>
        obtain ⟨p, hp, rfl, hJ1⟩ := hrel
        have hy64 : hiB (wn c k) p < 18446744073709551616 := Nat.lt_of_le_of_lt (hiB_le _ _) (wn_lt c k)
        by_cases hy0 : hiB (wn c k) p = 0
        · have hend := member_end c k p hp hy0
          rw [hy0]
          rw [← hend] at hJ1
          clear hend hy0 hy64
          gi_wp2
          go_roundw
          case rel => exact ⟨k + 1, by omega, by go_num, hJ1⟩
          case measure => simp [intOf]; omega
        · obtain ⟨ht, hand, hbt⟩ := member_step c k p hy0
          have htz := tz_any F (n - 1) h57 hro (hiB (wn c k) p) hy64 hy0 wr (hT _ _ hJ1)
          have hpre : bytesTo c (64 * k + p) ++ [UInt8.ofNat (64 * k + Lib.ctz 64 (hiB (wn c k) p))] <+: bytesTo c 256 := by
            rw [← hbt]; exact bytesTo_prefix c _ _ (by omega)
          obtain ⟨fn, tmps, assign, body, hy, hR⟩ := hY _ _ wr hJ1 hpre
          rw [← hbt] at hR
          have HAnd := Lib.hid hand
          have hlt2 : hiB (wn c k) (Lib.ctz 64 (hiB (wn c k) p) + 1) < hiB (wn c k) p := by
            rw [← hand]
            have := Nat.and_le_right (n := hiB (wn c k) p) (m := hiB (wn c k) p - 1)
            omega
          clear hand hbt hpre
          generalize hiB (wn c k) p = y at *
          generalize Lib.ctz 64 y = t at *
          have hb : bv (UInt8.ofNat (64 * k + t)) = .int .u8 (64 * (k : Int) + (t : Int)) := by
            show Value.int .u8 ((UInt8.ofNat (64 * k + t)).toNat : Int) = _
            rw [u8_nat' _ (by omega)]
            congr 1
          have hw : IntKind.u8.wrap (64 * (k : Int) + (t : Int)) = 64 * (k : Int) + (t : Int) := IntWalk.u8_in _ ⟨by omega, by omega⟩
          rw [hb] at hy
          have hne : ((y : Int) != 0) = true := by simp; omega
          have hy1 : 1 ≤ y := by omega
          have HT := Lib.hid htz
          clear htz hb hy0
          gi_wp2_with (gi_at_call 57; refine HT.out.mono ?_; clear HT; rintro e w' ⟨rfl, rfl⟩)
          refine hR.mono ?_
          rintro e W3 (⟨rfl, hJ3⟩ | ⟨rfl, hJx3⟩)
          · gi_wp2
            go_roundw
            case rel => exact ⟨t + 1, by omega, by rw [and_pred y (by omega) hy64, HAnd.out], hJ3⟩
            case measure => rw [and_pred y (by omega) hy64, HAnd.out]; simp [intOf]; omega
          · gi_wp2
            refine bodyPost_ret (results_none rfl _ _ _) rfl ?_
            exact ⟨⟨_, rfl⟩, .inr ⟨_, bytesTo_prefix c _ _ (by omega), hJx3⟩⟩
    · obtain rfl : k = 4 := by omega
      gi_wp2
      go_end0
      exact ⟨⟨_, rfl⟩, .inl ⟨_, rfl, hJ⟩⟩

end Go.Proofs.YthfmjhicmopclaaDoor
