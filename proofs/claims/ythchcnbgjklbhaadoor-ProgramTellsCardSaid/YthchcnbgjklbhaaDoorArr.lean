/- Arrays of ints are compared by their numbers. -/
import Derived.Test.YthchcnbgjklbhaaDoorBase
import Derived.ChangeKeysEq
namespace Go.Proofs.YthchcnbgjklbhaaDoor
open Go.RowKit
section
variable {P : Program} (w : World)
theorem run_eqItems_ints {e : TypeId} (he : P.underlying e = some (.int .i64)) (hk : P.plainKey e = true) (d : Nat) (xs ys : List Int) :
    ∀ (is : List Nat), (∀ j ∈ is, j < xs.length ∧ j < ys.length) →
    (Op.eqItems (d + 1) e 1 (xs.map (Value.int .i64)).toArray (ys.map (Value.int .i64)).toArray is).run P w = .ok (is.all fun j => xs.getD j 0 == ys.getD j 0) w
  | [], _ => by simp [Op.eqItems]
  | j :: is, h => by
    obtain ⟨h1, h2⟩ := h j (by simp)
    have e1 : (xs.map (Value.int .i64)).toArray[j * 1]? = some (.int .i64 (xs.getD j 0)) := by simp [h1]
    have e2 : (ys.map (Value.int .i64)).toArray[j * 1]? = some (.int .i64 (ys.getD j 0)) := by simp [h2]
    have p1 := run_part_plain (P := P) (w := w) hk e1
    have p2 := run_part_plain (P := P) (w := w) hk e2
    have p3 := run_equalIn_int (P := P) w d e .i64 .i64 (xs.getD j 0) (ys.getD j 0) he
    simp only [Op.eqItems, Sem.run_bind, p1, p2, p3, Result.andThen_ok]
    have ih := run_eqItems_ints he hk d xs ys is fun k hk' => h k (by simp [hk'])
    cases hb : xs.getD j 0 == ys.getD j 0
    · simp only [Bool.not_false, if_true, Sem.run_pure, List.all_cons, hb, Bool.false_and]
    · simp only [Bool.not_true, Bool.false_eq_true, if_false, List.all_cons, hb, Bool.true_and]
      exact ih
theorem run_equalIn_ints {t e : TypeId} {n : Nat} {i : TypeInfo} (hu : P.underlying t = some (.array n e)) (he : P.underlying e = some (.int .i64)) (hk : P.plainKey e = true) (hi : P.info? e = some i) (hc : P.cellsOf e = 1)
    (d : Nat) (xs ys : List Int) (hx : xs.length = n) (hy : ys.length = n) :
    (Op.equalIn (d + 2) t (.agg (xs.map (Value.int .i64)).toArray) (.agg (ys.map (Value.int .i64)).toArray)).run P w = .ok ((List.range n).all fun j => xs.getD j 0 == ys.getD j 0) w := by
  rw [run_equalIn_array (P := P) w (d + 1) _ _ hu hi, hc]
  exact run_eqItems_ints w he hk d xs ys _ fun j hj => by have := List.mem_range.1 hj; omega
theorem run_eql_arr3 {t e : TypeId} {i : TypeInfo} (hu : P.underlying t = some (.array 3 e)) (he : P.underlying e = some (.int .i64)) (hk : P.plainKey e = true) (hi : P.info? e = some i) (hc : P.cellsOf e = 1) (a b c a' b' c' : Int) :
    (binOp .eql t (.agg #[.int .i64 a, .int .i64 b, .int .i64 c]) (.agg #[.int .i64 a', .int .i64 b', .int .i64 c'])).run P w = .ok (.bool (a == a' && b == b' && c == c')) w := by
  rw [run_eql_struct]
  have h := run_equalIn_ints (P := P) w hu he hk hi hc 9998 [a, b, c] [a', b', c'] rfl rfl
  simp only [List.map_cons, List.map_nil] at h
  rw [h]
  simp [Result.andThen, List.range_succ, Bool.and_assoc]
theorem run_neq_arr3 {t e : TypeId} {i : TypeInfo} (hu : P.underlying t = some (.array 3 e)) (he : P.underlying e = some (.int .i64)) (hk : P.plainKey e = true) (hi : P.info? e = some i) (hc : P.cellsOf e = 1) (a b c a' b' c' : Int) :
    (binOp .neq t (.agg #[.int .i64 a, .int .i64 b, .int .i64 c]) (.agg #[.int .i64 a', .int .i64 b', .int .i64 c'])).run P w = .ok (.bool (!(a == a' && b == b' && c == c'))) w := by
  rw [run_neq_struct]
  have h := run_equalIn_ints (P := P) w hu he hk hi hc 9998 [a, b, c] [a', b', c'] rfl rfl
  simp only [List.map_cons, List.map_nil] at h
  rw [h]
  simp [Result.andThen, List.range_succ, Bool.and_assoc]
end
theorem arr_info : (Tryd.prog.info? 3).isSome = true := by kernel_rfl
/-- [3]int, compared. -/
theorem eql_arr3 (w : World) (a b c a' b' c' : Int) :
    (binOp .eql 30 (.agg #[.int .i64 a, .int .i64 b, .int .i64 c]) (.agg #[.int .i64 a', .int .i64 b', .int .i64 c'])).run Tryd.prog w = .ok (.bool (a == a' && b == b' && c == c')) w := by
  obtain ⟨i, hi⟩ := Option.isSome_iff_exists.1 arr_info
  exact run_eql_arr3 w (by kernel_rfl) (by kernel_rfl) (by kernel_rfl) hi (by kernel_rfl) a b c a' b' c'
theorem neq_arr3 (w : World) (a b c a' b' c' : Int) :
    (binOp .neq 30 (.agg #[.int .i64 a, .int .i64 b, .int .i64 c]) (.agg #[.int .i64 a', .int .i64 b', .int .i64 c'])).run Tryd.prog w = .ok (.bool (!(a == a' && b == b' && c == c'))) w := by
  obtain ⟨i, hi⟩ := Option.isSome_iff_exists.1 arr_info
  exact run_neq_arr3 w (by kernel_rfl) (by kernel_rfl) (by kernel_rfl) hi (by kernel_rfl) a b c a' b' c'
end Go.Proofs.YthchcnbgjklbhaaDoor
