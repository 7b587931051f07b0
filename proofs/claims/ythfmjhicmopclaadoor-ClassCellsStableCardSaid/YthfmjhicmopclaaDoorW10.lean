/-
  The walks of OnesCount64 and Size.
-/
import Derived.Test.YthfmjhicmopclaaDoorW5
import Derived.Test.YthfmjhicmopclaaDoorPop
namespace Go.Proofs.YthfmjhicmopclaaDoor
open Go.RowKit Go.Shelf

theorem stI1 (x : Nat) (h : x < 18446744073709551616) (h1 : st1 x < 18446744073709551616) :
    IntKind.u64.wrap (bits BinOp.and IntKind.u64 ((x : Int) / 2) 6148914691236517205 + bits BinOp.and IntKind.u64 (x : Int) 6148914691236517205) = (st1 x : Int) := by
  rw [show ((x : Int) / 2) = ((x / 2 : Nat) : Int) by omega, show (6148914691236517205 : Int) = ((6148914691236517205 : Nat) : Int) from rfl, u64_and_nat _ _ (by omega) (by omega), u64_and_nat _ _ h (by omega)]
  rw [IntKind.wrap_u64]; unfold st1 at *; omega
theorem stI2 (x : Nat) (h : x < 18446744073709551616) (h1 : st2 x < 18446744073709551616) :
    IntKind.u64.wrap (bits BinOp.and IntKind.u64 ((x : Int) / 4) 3689348814741910323 + bits BinOp.and IntKind.u64 (x : Int) 3689348814741910323) = (st2 x : Int) := by
  rw [show ((x : Int) / 4) = ((x / 4 : Nat) : Int) by omega, show (3689348814741910323 : Int) = ((3689348814741910323 : Nat) : Int) from rfl, u64_and_nat _ _ (by omega) (by omega), u64_and_nat _ _ h (by omega)]
  rw [IntKind.wrap_u64]; unfold st2 at *; omega

theorem stI3 (x : Nat) (h : x ≤ 4919131752989213764) : bits BinOp.and IntKind.u64 ((x : Int) / 16 + (x : Int)) 1085102592571150095 = (st3 x : Int) := by
  rw [show ((x : Int) / 16 + (x : Int)) = ((x / 16 + x : Nat) : Int) by omega, show (1085102592571150095 : Int) = ((1085102592571150095 : Nat) : Int) from rfl, u64_and_nat _ _ (by omega) (by omega)]
  rfl
theorem stI7 (x : Nat) (h : x < 9223372036854775808) : bits BinOp.and IntKind.i64 (x : Int) 127 = ((x % 128 : Nat) : Int) := by
  show IntKind.i64.wrap ((BitVec.ofInt 64 (x : Int) &&& BitVec.ofInt 64 ((127 : Nat) : Int)).toNat : Int) = _
  rw [BitVec.toNat_and, ofInt_u64 x (by omega), ofInt_u64 127 (by omega), show (127 : Nat) = 2 ^ 7 - 1 from rfl, Nat.and_two_pow_sub_one_eq_mod]
  exact IntWalk.i64_in _ ⟨by omega, by omega⟩

theorem ones_any (x : Nat) (hx : x < 18446744073709551616) (w : World) :
    Calls Tryd.prog 47 #[.int .u64 (x : Int)] w fun e w' => e = .returned (.int .i64 (cnt x.testBit 64)) ∧ w' = w := by
  obtain ⟨h1, h2, h3, h4⟩ := stages x hx
  have H4 := Lib.hid h4
  clear h4
  go_enter Tryd.func47, Tryd.ntmps47
  go_upto_region 1 with (fail)
  go_cut [0] (fun v W => v = .int .u64 (st1 x : Int) ∧ W = w)
  case first =>
    go_wp2
    go_meet
    exact ⟨by rw [stI1 x hx h1], rfl⟩
  case rest =>
  obtain ⟨rfl, rfl⟩ := hcut
  generalize st1 x = x1 at *
  go_upto_region 2 with (fail)
  go_cut [0] (fun v W => v = .int .u64 (st2 x1 : Int) ∧ W = wc)
  case first =>
    go_wp2
    go_meet
    exact ⟨by rw [stI2 x1 h1 (by omega)], rfl⟩
  case rest =>
  obtain ⟨rfl, rfl⟩ := hcut
  generalize st2 x1 = x2 at *
  go_upto_region 3 with (fail)
  go_cut [0] (fun v W => v = .int .u64 (st3 x2 : Int) ∧ W = wc)
  case first =>
    go_wp2
    go_meet
    exact ⟨by rw [stI3 x2 h2], rfl⟩
  case rest =>
  obtain ⟨rfl, rfl⟩ := hcut
  generalize st3 x2 = x3 at *
  go_upto_region 4 with (fail)
  go_cut [0] (fun v W => v = .int .u64 (st4 x3 : Int) ∧ W = wc)
  case first =>
    go_wp2
    go_meet
    exact ⟨by unfold st4; go_num, rfl⟩
  case rest =>
  obtain ⟨rfl, rfl⟩ := hcut
  have h5 : st4 x3 ≤ 1157442765409226768 := by unfold st4; omega
  generalize st4 x3 = x4 at *
  go_upto_region 5 with (fail)
  go_cut [0] (fun v W => v = .int .u64 (st5 x4 : Int) ∧ W = wc)
  case first =>
    go_wp2
    go_meet
    exact ⟨by unfold st5; go_num, rfl⟩
  case rest =>
  obtain ⟨rfl, rfl⟩ := hcut
  have h6 : st5 x4 ≤ 1157492765409226768 := by unfold st5; omega
  generalize st5 x4 = x5 at *
  go_upto_region 6 with (fail)
  go_cut [0] (fun v W => v = .int .u64 (st6 x5 : Int) ∧ W = wc)
  case first =>
    go_wp2
    go_meet
    exact ⟨by unfold st6; go_num, rfl⟩
  case rest =>
  obtain ⟨rfl, rfl⟩ := hcut
  have h7 : st6 x5 ≤ 1157500000000000000 := by unfold st6; omega
  generalize st6 x5 = x6 at *
  go_wp2
  go_ret
  exact ⟨ret_int (by rw [stI7 x6 (by omega), H4.out]), rfl⟩

/-- The number of the members. -/
def sz (c : Cls) : Nat := cnt c.getLsbD 256
theorem sz_le (c : Cls) : sz c ≤ 256 := cnt_le _ _
theorem bytesTo_cnt (c : Cls) (k : Nat) : (bytesTo c k).length = cnt c.getLsbD k := by
  induction k with
  | zero => rfl
  | succ k ih => simp only [bytesTo, cnt]; split <;> simp [ih]
theorem cnt_word (c : Cls) (k : Nat) : cnt c.getLsbD (64 * (k + 1)) = cnt c.getLsbD (64 * k) + cnt (wn c k).testBit 64 := by
  rw [show 64 * (k + 1) = 64 * k + 64 by omega, cnt_add]
  congr 1
  exact cnt_congr _ _ _ fun i hi => by rw [wn_testBit]; simp [hi]

theorem ones_wd (c : Cls) (k : Nat) (w : World) : Calls Tryd.prog 47 #[.int .u64 (wd c k)] w fun e w' => e = .returned (.int .i64 (cnt (wn c k).testBit 64)) ∧ w' = w :=
  ones_any (wn c k) (wn_lt c k) w
theorem index30 (c : Cls) (k : Nat) (h : k < 4) (w : World) : (Instr.index 30 (.agg (encA c)) (.int .i64 (k : Int))).run Tryd.prog w = .ok (.int .u64 (wd c k)) w := by
  match k, h with
  | 0, _ => exact (by kernel_rfl : (Instr.index 30 (.agg (encA c)) (.int .i64 ((0 : Nat) : Int))).run Tryd.prog w = .ok (.int .u64 (wd c 0)) w)
  | 1, _ => exact (by kernel_rfl : (Instr.index 30 (.agg (encA c)) (.int .i64 ((1 : Nat) : Int))).run Tryd.prog w = .ok (.int .u64 (wd c 1)) w)
  | 2, _ => exact (by kernel_rfl : (Instr.index 30 (.agg (encA c)) (.int .i64 ((2 : Nat) : Int))).run Tryd.prog w = .ok (.int .u64 (wd c 2)) w)
  | 3, _ => exact (by kernel_rfl : (Instr.index 30 (.agg (encA c)) (.int .i64 ((3 : Nat) : Int))).run Tryd.prog w = .ok (.int .u64 (wd c 3)) w)

theorem size_any (c : Cls) (w : World) :
    Calls Tryd.prog 22 #[.agg (encA c)] w fun e w' => e = .returned (.int .i64 (sz c)) ∧ Ext w w' := by
  have hA := heap_alloc_new w (.cells (encA c) 30)
  have hE := (Ext.refl w).alloc (.cells (encA c) 30)
  have HA := Lib.hid hA
  clear hA
  go_enter Tryd.func22, Tryd.ntmps22
  go_wp2_with (refine wpList_load_row rfl 30 (.tmp 1) rfl _ rfl _ _ _ _ HA.out Tryd.underlying30 rfl info30 ?_)
  generalize w.alloc (.cells (encA c) 30) = w1 at *
  go_loop [3, 7] (fun n i => ∃ k : Nat, k ≤ 4 ∧ i = .int .i64 k ∧ n = .int .i64 (cnt c.getLsbD (64 * k) : Nat)) (fun _ i => 4 - (intOf i).toNat)
  case atStart => exact ⟨0, by omega, rfl, rfl⟩
  case round =>
    obtain ⟨k, hk, rfl, rfl⟩ := hrel
    by_cases hlt : k < 4
    · have hix := index30 c k hlt
      have hcon := fun W => Lib.hid (ones_wd c k W)
      have hb := cnt_le c.getLsbD (64 * k)
      have hb2 := cnt_le (wn c k).testBit 64
      have HS := Lib.hid (cnt_word c k)
      generalize cnt (wn c k).testBit 64 = y at *
      generalize cnt c.getLsbD (64 * k) = z at *
      go_wp2_with (go_at_call 47; refine (hcon _).out.mono ?_; rintro e w' ⟨rfl, rfl⟩)
      go_round
      case rel => exact ⟨k + 1, by omega, by go_num, by rw [HS.out]; go_num⟩
      case measure => simp [intOf]; omega
    · obtain rfl : k = 4 := by omega
      go_wp2
      go_ret
      exact ⟨rfl, hE⟩

end Go.Proofs.YthfmjhicmopclaaDoor
