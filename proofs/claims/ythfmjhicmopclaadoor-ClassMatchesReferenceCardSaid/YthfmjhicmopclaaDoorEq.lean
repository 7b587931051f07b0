/-
  '==' and '!=' on classes.
-/
import Derived.Test.YthfmjhicmopclaaDoorW1
import Derived.Laws.StructEq
import Derived.ChangeKeysEq
namespace Go.Proofs.YthfmjhicmopclaaDoor
open Go.RowKit
theorem wd_eq (c d : Cls) : (c == d) = (wd c 0 == wd d 0 && (wd c 1 == wd d 1 && (wd c 2 == wd d 2 && wd c 3 == wd d 3))) := by
  rw [Bool.eq_iff_iff]
  simp only [beq_iff_eq, Bool.and_eq_true]
  constructor
  · rintro rfl; exact ⟨rfl, rfl, rfl, rfl⟩
  · rintro ⟨h0, h1, h2, h3⟩
    unfold wd at *
    exact wn_ext fun i hi => by
      match i, hi with
      | 0, _ => omega
      | 1, _ => omega
      | 2, _ => omega
      | 3, _ => omega
theorem part0 (a b c d : Int) (w : World) : (part 28 #[.int .u64 a, .int .u64 b, .int .u64 c, .int .u64 d] 0).run Tryd.prog w = .ok (.int .u64 a) w := by kernel_rfl
theorem part1 (a b c d : Int) (w : World) : (part 28 #[.int .u64 a, .int .u64 b, .int .u64 c, .int .u64 d] 1).run Tryd.prog w = .ok (.int .u64 b) w := by kernel_rfl
theorem part2 (a b c d : Int) (w : World) : (part 28 #[.int .u64 a, .int .u64 b, .int .u64 c, .int .u64 d] 2).run Tryd.prog w = .ok (.int .u64 c) w := by kernel_rfl
theorem part3 (a b c d : Int) (w : World) : (part 28 #[.int .u64 a, .int .u64 b, .int .u64 c, .int .u64 d] 3).run Tryd.prog w = .ok (.int .u64 d) w := by kernel_rfl
theorem cellsOf28 : Tryd.prog.cellsOf 28 = 1 := by kernel_rfl
theorem run_eq30 (c d : Cls) (w : World) : (Op.equalIn 10000 30 (.agg (encA c)) (.agg (encA d))).run Tryd.prog w = .ok (c == d) w := by
  obtain ⟨i, hi⟩ : ∃ i, Tryd.prog.info? 28 = some i := by
    cases h : Tryd.prog.info? 28 with
    | some i => exact ⟨i, rfl⟩
    | none => exact absurd h (by intro h; have : (Tryd.prog.info? 28).isSome = true := by kernel_rfl
                                 rw [h] at this; cases this)
  rw [wd_eq]
  have h := run_equalIn_array (P := Tryd.prog) (w := w) 9999 (encA c) (encA d) Tryd.underlying30 hi
  refine h.trans ?_
  rw [cellsOf28]
  have e : ∀ (x y : Int) (w : World), (Op.equalIn 9999 28 (.int .u64 x) (.int .u64 y)).run Tryd.prog w = .ok (x == y) w := fun x y w => run_equalIn_int (P := Tryd.prog) w 9998 28 .u64 .u64 x y Tryd.underlying28
  simp only [List.range, List.range.loop, Op.eqItems, Sem.run_bind, part0, Result.andThen_ok, e, Nat.mul_one]
  cases wd c 0 == wd d 0
  · simp
  simp only [Bool.not_true, Bool.false_eq_true, if_false, Bool.true_and, Sem.run_bind, part1, Result.andThen_ok, e]
  cases wd c 1 == wd d 1
  · simp
  simp only [Bool.not_true, Bool.false_eq_true, if_false, Bool.true_and, Sem.run_bind, part2, Result.andThen_ok, e]
  cases wd c 2 == wd d 2
  · simp
  simp only [Bool.not_true, Bool.false_eq_true, if_false, Bool.true_and, Sem.run_bind, part3, Result.andThen_ok, e]
  cases wd c 3 == wd d 3 <;> simp
/-- '==' on classes. -/
theorem eql30 (c d : Cls) (w : World) : (binOp .eql 30 (.agg (encA c)) (.agg (encA d))).run Tryd.prog w = .ok (.bool (c == d)) w := by
  rw [run_eql_struct, run_eq30]; rfl
theorem neq30 (c d : Cls) (w : World) : (binOp .neq 30 (.agg (encA c)) (.agg (encA d))).run Tryd.prog w = .ok (.bool (c != d)) w := by
  rw [run_neq_struct, run_eq30]; rfl
theorem guard30 (op : BinOp) (x y : Operand) (xs ys : Array Value) (w : World) : (eqGuard op 30 x y (.agg xs) (.agg ys)).run Tryd.prog w = .ok () w :=
  run_eqGuard_agg w op 30 x y xs ys (by kernel_rfl)
theorem gt30 : Tryd.prog.eqGuardType Tryd.prog.depth 30 = false := by kernel_rfl
end Go.Proofs.YthfmjhicmopclaaDoor
