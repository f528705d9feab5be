/- Walks of the clock's methods: Tick; the document's clock. -/
import Derived.Test.YtoljkjajfmafaaaCk1
namespace Go.Proofs.Ytoljkjajfmafaaa
theorem ck_tick_yes (b : Nat) (n m : Int) (w : World) (h0 : w.cell? ⟨b, 0, none⟩ = some (.int .i64 n)) (h1 : w.cell? ⟨b, 1, none⟩ = some (.int .i64 m)) (f0 : w.frozen? ⟨b, 0, none⟩ = false) (l0 : 0 ≤ n) (l1 : n < m) (l2 : m ≤ 1099511627776) :
    Calls Try.prog 11 #[.pointer (some ⟨b, 0, none⟩)] w fun e w' => e = .returned (.tuple #[.int .i64 (n + 1), .bool true]) ∧ w' = w.setCell ⟨b, 0, none⟩ (.int .i64 (n + 1)) := by
  have hl := run_call_load (P := Try.prog) Try.func19 (by kernel_rfl) (by kernel_rfl) (by kernel_rfl) .i64 (by kernel_rfl) h0
  have hcas := run_call_cas_hit (P := Try.prog) Try.func20 (by kernel_rfl) (by kernel_rfl) (by kernel_rfl) .i64 (by kernel_rfl) (y := n + 1) h0 f0
  go_enter Try.func11, Try.ntmps11
  go_wp2
  refine wp_loop_rounds 1 ?_; rw [rounds_succ]
  go_wp2
  go_ret2
  exact ⟨rfl, rfl⟩
theorem ck_tick_no (b : Nat) (n m : Int) (w : World) (h0 : w.cell? ⟨b, 0, none⟩ = some (.int .i64 n)) (h1 : w.cell? ⟨b, 1, none⟩ = some (.int .i64 m)) (l1 : m ≤ n) :
    Calls Try.prog 11 #[.pointer (some ⟨b, 0, none⟩)] w fun e w' => e = .returned (.tuple #[.int .i64 0, .bool false]) ∧ w' = w := by
  have hl := run_call_load (P := Try.prog) Try.func19 (by kernel_rfl) (by kernel_rfl) (by kernel_rfl) .i64 (by kernel_rfl) h0
  go_enter Try.func11, Try.ntmps11
  go_wp2
  refine wp_loop_rounds 1 ?_; rw [rounds_succ]
  go_wp2
  go_ret2
  exact ⟨rfl, rfl⟩
theorem rk_new (m : Int) (w : World) :
    Calls Try.prog 10 #[.int .i64 m] w fun e w' => e = .returned (.pointer (some ⟨w.heap.size, 0, none⟩)) ∧ w' = w.alloc (.cells #[.int .i64 0, .int .i64 (bnd m)] 43) := by
  rcases Int.lt_or_le m 0 with h | h
  · have e : bnd m = 0 := by unfold bnd; omega
    rw [e]
    go_enter Try.func10, Try.ntmps10
    go_wp2
    go_ret
    exact ⟨rfl, rfl⟩
  · rcases Int.lt_or_le 1099511627776 m with h2 | h2
    · have e : bnd m = 1099511627776 := by unfold bnd; omega
      rw [e]
      go_enter Try.func10, Try.ntmps10
      go_wp2
      go_ret
      exact ⟨rfl, rfl⟩
    · have e : bnd m = m := by unfold bnd; omega
      rw [e]; clear e
      go_enter Try.func10, Try.ntmps10
      go_wp2
      go_ret
      exact ⟨rfl, rfl⟩
theorem rk_now (b : Nat) (n : Int) (w : World) (h0 : w.cell? ⟨b, 0, none⟩ = some (.int .i64 n)) :
    Calls Try.prog 14 #[.pointer (some ⟨b, 0, none⟩)] w fun e w' => e = .returned (.int .i64 n) ∧ w' = w := by
  go_enter Try.func14, Try.ntmps14
  go_wp2
  go_ret
  exact ⟨rfl, rfl⟩
theorem rk_may (b : Nat) (n m k : Int) (w : World) (h0 : w.cell? ⟨b, 0, none⟩ = some (.int .i64 n)) (h1 : w.cell? ⟨b, 1, none⟩ = some (.int .i64 m)) (l0 : 0 ≤ n) (l1 : n ≤ m) (l2 : m ≤ 1099511627776) :
    Calls Try.prog 16 #[.pointer (some ⟨b, 0, none⟩), .int .i64 k] w fun e w' => e = .returned (.bool (decide (0 ≤ k ∧ k ≤ m - n))) ∧ ∃ j, w' = w.drewN j := by
  by_cases hk : 0 ≤ k
  · have hd : decide (0 ≤ k) = true := by simpa using hk
    have e : decide (0 ≤ k ∧ k ≤ m - n) = decide (k ≤ m - n) := by simp [hk]
    rw [e]; clear e
    go_enter Try.func16, Try.ntmps16
    go_wp2
    go_quiet (fail)
    go_wp2
    go_ret
    exact ⟨rfl, nq, rfl⟩
  · have hd : decide (0 ≤ k) = false := by simpa using hk
    have e : decide (0 ≤ k ∧ k ≤ m - n) = false := by simp [hk]
    rw [e]; clear e
    go_enter Try.func16, Try.ntmps16
    go_wp2
    go_quiet (fail)
    go_wp2
    go_ret
    exact ⟨rfl, nq, rfl⟩
theorem rk_tick_yes (b : Nat) (n m : Int) (w : World) (h0 : w.cell? ⟨b, 0, none⟩ = some (.int .i64 n)) (h1 : w.cell? ⟨b, 1, none⟩ = some (.int .i64 m)) (f0 : w.frozen? ⟨b, 0, none⟩ = false) (l0 : 0 ≤ n) (l1 : n < m) (l2 : m ≤ 1099511627776) :
    Calls Try.prog 12 #[.pointer (some ⟨b, 0, none⟩)] w fun e w' => e = .returned (.tuple #[.int .i64 (n + 1), .bool true]) ∧ ∃ j, w' = (w.setCell ⟨b, 0, none⟩ (.int .i64 (n + 1))).drewN j := by
  have e : ∀ nq, (w.drewN nq).setCell ⟨b, 0, none⟩ (.int .i64 (n + 1)) = (w.setCell ⟨b, 0, none⟩ (.int .i64 (n + 1))).drewN nq := fun _ => rfl
  go_enter Try.func12, Try.ntmps12
  go_wp2
  go_quiet (fail)
  go_wp2
  go_ret2
  exact ⟨rfl, nq, rfl⟩
theorem rk_tick_no (b : Nat) (n m : Int) (w : World) (h0 : w.cell? ⟨b, 0, none⟩ = some (.int .i64 n)) (h1 : w.cell? ⟨b, 1, none⟩ = some (.int .i64 m)) (l1 : m ≤ n) :
    Calls Try.prog 12 #[.pointer (some ⟨b, 0, none⟩)] w fun e w' => e = .returned (.tuple #[.int .i64 0, .bool false]) ∧ ∃ j, w' = w.drewN j := by
  go_enter Try.func12, Try.ntmps12
  go_wp2
  go_quiet (fail)
  go_wp2
  go_ret2
  exact ⟨rfl, nq, rfl⟩
/-- Which of n things a raw number speaks of. -/
def pk (c n : Int) : Int := (if c < 0 then -(c + 1) else c) % n
theorem pk_lo (c n : Int) (hn : 0 < n) : 0 ≤ pk c n := by unfold pk; exact Int.emod_nonneg _ (by omega)
theorem pk_hi (c n : Int) (hn : 0 < n) : pk c n < n := by unfold pk; exact Int.emod_lt_of_pos _ hn
theorem ret_int {k : IntKind} {a b : Int} (h : a = b) : Ending.returned (.int k a) = .returned (.int k b) := by rw [h]
theorem pick_any (c n : Int) (w : World) (hn : 0 < n) (hn2 : n ≤ 1000) (hc : -9223372036854775808 ≤ c ∧ c ≤ 9223372036854775807) :
    Calls Try.prog 8 #[.int .i64 c, .int .i64 n] w fun e w' => e = .returned (.int .i64 (pk c n)) ∧ w = w' := by
  rcases Int.lt_or_le c 0 with h | h
  · have e : pk c n = -(c + 1).tmod n := by
      unfold pk; rw [if_pos h, ← Int.neg_tmod, Int.tmod_eq_emod_of_nonneg (by omega)]
    rw [e]; clear e
    go_enter Try.func8, Try.ntmps8
    go_wp2
    go_ret
    exact ⟨rfl, rfl⟩
  · have e : pk c n = c % n := by unfold pk; rw [if_neg (by omega)]
    rw [e]; clear e
    go_enter Try.func8, Try.ntmps8
    go_wp2
    go_ret
    exact ⟨rfl, rfl⟩
end Go.Proofs.Ytoljkjajfmafaaa
