/- Walks: the document's own form, get, set, may. -/
import Derived.Test.YthchcnbgjklbhaaDoorPgBack
namespace Go.Proofs.YthchcnbgjklbhaaDoor
open Go.RowKit
/-- The letters of a part: which field; what that may be. -/
def flet (f : Nat) : Int := if f = 1 then 65 else if f = 2 then 66 else if f = 3 then 73 else 78
def clet (h : Int) : Int := if h = 5 then 82 else if h = 7 then 70 else if h = 4 then 83 else 86
def letters (ps : List Pg.Pt) : List UInt8 := ps.flatMap fun p => [UInt8.ofNat (flet p.f).toNat, UInt8.ofNat (clet p.hi).toNat]
def RFormSaid (k : Int) (w : World) : Prop := Calls Tryd.prog 22 #[.int .i64 k] w fun e w' =>
    e = .returned (.tuple #[.string (wordB k), .string (strB (letters (Pg.parts k))), .bool (decide (1 ≤ k ∧ k ≤ 14))]) ∧ w = w'
theorem rform_any (k : Int) (w : World) : RFormSaid k w := by
  unfold RFormSaid
  by_cases h : 1 ≤ k ∧ k ≤ 14
  · rw [decide_eq_true h]
    rcases Pg.kinds h with rfl | rfl | rfl | rfl | rfl | rfl | rfl | rfl | rfl | rfl | rfl | rfl | rfl | rfl
    all_goals
      clear h
      go_enter Tryd.func22, Tryd.ntmps22
      go_wp2
      go_ret3
      exact ⟨rfl, rfl⟩
  · rw [decide_eq_false h]
    have hw : wordB k = ⟨#[]⟩ := by
      unfold wordB Pg.wordS
      repeat (rw [if_neg (by omega)])
      rfl
    have hp : Pg.parts k = [] := by
      unfold Pg.parts
      repeat (rw [if_neg (by omega)])
    rw [hw, hp]
    clear hw hp
    have n1 : (k == 1) = false := beq_eq_false_iff_ne.2 (by omega)
    have n2 : (k == 2) = false := beq_eq_false_iff_ne.2 (by omega)
    have n3 : (k == 3) = false := beq_eq_false_iff_ne.2 (by omega)
    have n4 : (k == 4) = false := beq_eq_false_iff_ne.2 (by omega)
    have n5 : (k == 5) = false := beq_eq_false_iff_ne.2 (by omega)
    have n6 : (k == 6) = false := beq_eq_false_iff_ne.2 (by omega)
    have n7 : (k == 7) = false := beq_eq_false_iff_ne.2 (by omega)
    have n8 : (k == 8) = false := beq_eq_false_iff_ne.2 (by omega)
    have n9 : (k == 9) = false := beq_eq_false_iff_ne.2 (by omega)
    have n10 : (k == 10) = false := beq_eq_false_iff_ne.2 (by omega)
    have n11 : (k == 11) = false := beq_eq_false_iff_ne.2 (by omega)
    have n12 : (k == 12) = false := beq_eq_false_iff_ne.2 (by omega)
    have n13 : (k == 13) = false := beq_eq_false_iff_ne.2 (by omega)
    have n14 : (k == 14) = false := beq_eq_false_iff_ne.2 (by omega)
    clear h
    go_enter Tryd.func22, Tryd.ntmps22
    go_wp2
    go_ret3
    exact ⟨rfl, rfl⟩
theorem rget_any (k a b i n : Int) (f : Nat) (hf : f = 1 ∨ f = 2 ∨ f = 3 ∨ f = 4) (w : World) :
    Calls Tryd.prog 24 #[.agg #[.int .i64 k, .int .i64 a, .int .i64 b, .int .i64 i, .int .i64 n], .int .u8 (flet f)] w fun e w' =>
      e = .returned (.int .i64 (Pg.D.get ⟨k, a, b, i, n⟩ f)) ∧ Below w.heap.size w w' := by
  rcases hf with rfl | rfl | rfl | rfl
  all_goals
    simp only [flet, Nat.reduceEqDiff, if_true, if_false]
    go_enter Tryd.func24, Tryd.ntmps24
    go_wp2
    go_ret
    exact ⟨rfl, balloc (Below.refl _ _) _⟩
theorem rset_any (k a b i n v : Int) (f : Nat) (hf : f = 1 ∨ f = 2 ∨ f = 3 ∨ f = 4) (w : World) :
    Calls Tryd.prog 26 #[.agg #[.int .i64 k, .int .i64 a, .int .i64 b, .int .i64 i, .int .i64 n], .int .u8 (flet f), .int .i64 v] w fun e w' =>
      e = .returned (.agg (dcells (Pg.D.set ⟨k, a, b, i, n⟩ f v))) ∧ Below w.heap.size w w' := by
  rcases hf with rfl | rfl | rfl | rfl
  all_goals
    simp only [flet, Nat.reduceEqDiff, if_true, if_false]
    go_enter Tryd.func26, Tryd.ntmps26
    go_wp2
    refine bodyPost_ret (v := .agg (dcells (Pg.D.set ⟨k, a, b, i, n⟩ _ v))) (by simp [results, Tryd.results26, go_sem, dcells, Pg.D.set]) rfl ⟨rfl, ?_⟩
    repeat (first | exact Below.refl _ _ | refine balloc ?_ _)
theorem rmay_any (n lo hi : Int) (h : (lo = 0 ∧ (hi = 5 ∨ hi = 7 ∨ hi = 4)) ∨ (lo = -1000000 ∧ hi = 1000000)) (w : World) :
    Calls Tryd.prog 25 #[.int .i64 n, .int .u8 (clet hi)] w fun e w' =>
      e = .returned (.bool (decide (lo ≤ n ∧ n ≤ hi))) ∧ w = w' := by
  rcases h with ⟨rfl, rfl | rfl | rfl⟩ | ⟨rfl, rfl⟩
  all_goals
    simp only [clet, Int.reduceEq, if_true, if_false]
    go_enter Tryd.func25, Tryd.ntmps25
    go_wp2
    all_goals go_ret
    all_goals exact ⟨by simp; omega, rfl⟩
end Go.Proofs.YthchcnbgjklbhaaDoor
