/- Walks of the clock's methods. -/
import Derived.Test.YtoljkjajfmafaaaRows
import Derived.WalkKit
import Derived.Lib.Hide
import Derived.BigQuiet
import Derived.Deep.QuietTactic
namespace Go.Proofs.Ytoljkjajfmafaaa
/-- A bound as the clock takes it. -/
def bnd (m : Int) : Int := min (max m 0) 1099511627776
theorem bnd_lo (m : Int) : 0 ≤ bnd m := by unfold bnd; omega
theorem bnd_hi (m : Int) : bnd m ≤ 1099511627776 := by unfold bnd; omega
/-- The clock at block b: where it is, and its bound. -/
def ck (n m : Int) : Obj := .cells #[.int .i64 n, .int .i64 m] 41
theorem ck_new (m : Int) (w : World) :
    Calls Try.prog 9 #[.int .i64 m] w fun e w' => e = .returned (.pointer (some ⟨w.heap.size, 0, none⟩)) ∧ w' = w.alloc (ck 0 (bnd m)) := by
  rcases Int.lt_or_le m 0 with h | h
  · have e : bnd m = 0 := by unfold bnd; omega
    rw [e]
    go_enter Try.func9, Try.ntmps9
    go_wp2
    go_ret
    exact ⟨rfl, rfl⟩
  · rcases Int.lt_or_le 1099511627776 m with h2 | h2
    · have e : bnd m = 1099511627776 := by unfold bnd; omega
      rw [e]
      go_enter Try.func9, Try.ntmps9
      go_wp2
      go_ret
      exact ⟨rfl, rfl⟩
    · have e : bnd m = m := by unfold bnd; omega
      rw [e]; clear e
      go_enter Try.func9, Try.ntmps9
      go_wp2
      go_ret
      exact ⟨rfl, rfl⟩
theorem ck_now (b : Nat) (n : Int) (w : World) (h0 : w.cell? ⟨b, 0, none⟩ = some (.int .i64 n)) :
    Calls Try.prog 13 #[.pointer (some ⟨b, 0, none⟩)] w fun e w' => e = .returned (.int .i64 n) ∧ w' = w := by
  have hl := run_call_load (P := Try.prog) Try.func19 (by kernel_rfl) (by kernel_rfl) (by kernel_rfl) .i64 (by kernel_rfl) h0
  go_enter Try.func13, Try.ntmps13
  go_wp2
  go_ret
  exact ⟨rfl, rfl⟩
theorem ck_may (b : Nat) (n m k : Int) (w : World) (h0 : w.cell? ⟨b, 0, none⟩ = some (.int .i64 n)) (h1 : w.cell? ⟨b, 1, none⟩ = some (.int .i64 m)) (l0 : 0 ≤ n) (l1 : n ≤ m) (l2 : m ≤ 1099511627776) :
    Calls Try.prog 15 #[.pointer (some ⟨b, 0, none⟩), .int .i64 k] w fun e w' => e = .returned (.bool (decide (0 ≤ k ∧ k ≤ m - n))) ∧ ∃ j, w' = w.drewN j := by
  by_cases hk : 0 ≤ k
  · have hd : decide (0 ≤ k) = true := by simpa using hk
    have e : decide (0 ≤ k ∧ k ≤ m - n) = decide (k ≤ m - n) := by simp [hk]
    rw [e]; clear e
    go_enter Try.func15, Try.ntmps15
    go_wp2
    go_quiet ((go_at_call 13; exact Calls.quiet_of_same (ck_now _ _ _ h0)))
    go_wp2
    go_ret
    exact ⟨rfl, nq, rfl⟩
  · have hd : decide (0 ≤ k) = false := by simpa using hk
    have e : decide (0 ≤ k ∧ k ≤ m - n) = false := by simp [hk]
    rw [e]; clear e
    go_enter Try.func15, Try.ntmps15
    go_wp2
    go_quiet (fail)
    go_wp2
    go_ret
    exact ⟨rfl, nq, rfl⟩
end Go.Proofs.Ytoljkjajfmafaaa
