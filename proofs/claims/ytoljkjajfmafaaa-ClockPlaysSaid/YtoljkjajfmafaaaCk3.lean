/- The clock's example. -/
import Derived.Test.YtoljkjajfmafaaaCk2
namespace Go.Proofs.Ytoljkjajfmafaaa
open Go.RowKit
theorem bnd2 : bnd 2 = 2 := by unfold bnd; omega
/-- A clock at block b. -/
structure At (w : World) (b : Nat) (n m : Int) : Prop where
  h0 : w.cell? ⟨b, 0, none⟩ = some (.int .i64 n)
  h1 : w.cell? ⟨b, 1, none⟩ = some (.int .i64 m)
  f0 : w.frozen? ⟨b, 0, none⟩ = false
  l0 : 0 ≤ n
  l1 : n ≤ m
  l2 : m ≤ 1099511627776
/-- New memory alone, and the clock's block, are written. -/
structure Fr (b : Nat) (w w' : World) : Prop where
  os : w'.os = w.os
  tape : w'.tape = w.tape
  output : w'.output = w.output
  size : w.heap.size ≤ w'.heap.size
  block : ∀ k, k < w.heap.size → k ≠ b → w'.heap[k]? = w.heap[k]?
theorem tick_any (b : Nat) (n m : Int) (w : World) (h : At w b n m) :
    Calls Try.prog 11 #[.pointer (some ⟨b, 0, none⟩)] w fun e w' => e = .returned (.tuple #[.int .i64 (if n < m then n + 1 else 0), .bool (decide (n < m))]) ∧ At w' b (if n < m then n + 1 else n) m ∧ Fr b w w' := by
  by_cases hn : n < m
  · simp only [hn, if_true, decide_true]
    refine (ck_tick_yes b n m w h.h0 h.h1 h.f0 h.l0 hn h.l2).mono ?_
    rintro e w' ⟨rfl, rfl⟩
    refine ⟨rfl, ⟨?_, ?_, ?_, ?_, ?_, h.l2⟩, ⟨rfl, rfl, rfl, by simp [World.setCell], ?_⟩⟩
    · have := h.h0; have := h.f0; simp [go_sem, *]
    · have := h.h1; simp [go_sem, *]
    · have := h.f0; simp [go_sem, *]
    · have := h.l0; omega
    · omega
    · intro k hk hne; exact Below.heap_setCell _ _ _ _ hne
  · simp only [hn, if_false, decide_false]
    refine (ck_tick_no b n m w h.h0 h.h1 (by omega)).mono ?_
    rintro e w' ⟨rfl, rfl⟩
    exact ⟨rfl, h, ⟨rfl, rfl, rfl, Nat.le_refl _, fun _ _ _ => rfl⟩⟩
theorem At.drewN {w : World} {b : Nat} {n m : Int} (h : At w b n m) (j : Nat) : At (w.drewN j) b n m := ⟨h.h0, h.h1, h.f0, h.l0, h.l1, h.l2⟩
theorem At.below {B : Nat} {w w' : World} {b : Nat} {n m : Int} (h : At w b n m) (k : Below B w w') (hb : b < B) : At w' b n m :=
  ⟨by rw [k.cell hb]; exact h.h0, by rw [k.cell hb]; exact h.h1, by rw [k.frozen hb]; exact h.f0, h.l0, h.l1, h.l2⟩
theorem At.fr {w w' : World} {b c : Nat} {n m : Int} (h : At w b n m) (k : Fr c w w') (hb : b < w.heap.size) (hc : b ≠ c) : At w' b n m :=
  ⟨by rw [World.cell?_of_block (w := w) (k.block b hb hc)]; exact h.h0, by rw [World.cell?_of_block (w := w) (k.block b hb hc)]; exact h.h1, by rw [World.frozen?_of_block (w := w) (k.block b hb hc)]; exact h.f0, h.l0, h.l1, h.l2⟩
theorem At.made (w : World) (m : Int) : At (w.alloc (ck 0 (bnd m))) w.heap.size 0 (bnd m) :=
  ⟨by simp [ck], by simp [ck], by simp [ck, go_sem], by omega, bnd_lo m, bnd_hi m⟩
theorem At.lt {w : World} {b : Nat} {n m : Int} (h : At w b n m) : b < w.heap.size := by
  have := h.h0
  unfold World.cell? at this
  split at this
  · rename_i h'; exact (Array.getElem?_eq_some_iff.1 h').1
  · cases this
theorem new_any (m : Int) (w : World) :
    Calls Try.prog 9 #[.int .i64 m] w fun e w' => e = .returned (.pointer (some ⟨w.heap.size, 0, none⟩)) ∧ At w' w.heap.size 0 (bnd m) ∧ Below w.heap.size w w' ∧ w.heap.size < w'.heap.size :=
  (ck_new m w).mono fun _ _ ⟨he, hw⟩ => ⟨he, by rw [hw]; exact At.made w m, by rw [hw]; exact (Below.refl _ _).alloc (Nat.le_refl _) _, by rw [hw]; simp⟩
theorem may_any (b : Nat) (n m k : Int) (w : World) (h : At w b n m) :
    Calls Try.prog 15 #[.pointer (some ⟨b, 0, none⟩), .int .i64 k] w fun e w' => e = .returned (.bool (decide (0 ≤ k ∧ k ≤ m - n))) ∧ ∃ j, w' = w.drewN j :=
  ck_may b n m k w h.h0 h.h1 h.l0 h.l1 h.l2
theorem now_any (b : Nat) (n m : Int) (w : World) (h : At w b n m) :
    Calls Try.prog 13 #[.pointer (some ⟨b, 0, none⟩)] w fun e w' => e = .returned (.int .i64 n) ∧ w = w' := (ck_now b n w h.h0).mono fun _ _ ⟨a, b⟩ => ⟨a, b.symm⟩
theorem Fr.below {B b : Nat} {w w' : World} (h : Fr b w w') (hb : B ≤ b) (hB : B ≤ w.heap.size) : Below B w w' :=
  ⟨h.os, h.tape, h.output, h.size, fun k hk => h.block k (by omega) (by omega)⟩
theorem bdrewN {B : Nat} {a w : World} (h : Below B a w) (n : Nat) : Below B a (w.drewN n) := ⟨h.os, h.tape, h.output, h.size, h.block⟩
theorem tick_yes (b : Nat) (n m : Int) (w : World) (h : At w b n m) (hn : n < m) :
    Calls Try.prog 11 #[.pointer (some ⟨b, 0, none⟩)] w fun e w' => e = .returned (.tuple #[.int .i64 (n + 1), .bool true]) ∧ At w' b (n + 1) m ∧ Fr b w w' :=
  (tick_any b n m w h).mono (by simp only [hn, if_true, decide_true]; exact fun _ _ h => h)
theorem tick_no (b : Nat) (n m : Int) (w : World) (h : At w b n m) (hn : m ≤ n) :
    Calls Try.prog 11 #[.pointer (some ⟨b, 0, none⟩)] w fun e w' => e = .returned (.tuple #[.int .i64 0, .bool false]) ∧ w = w' :=
  (ck_tick_no b n m w h.h0 h.h1 hn).mono fun _ _ ⟨a, b⟩ => ⟨a, b.symm⟩
theorem may_is (b : Nat) (n m k : Int) (v : Bool) (w : World) (h : At w b n m) (hv : decide (0 ≤ k ∧ k ≤ m - n) = v) :
    Calls Try.prog 15 #[.pointer (some ⟨b, 0, none⟩), .int .i64 k] w fun e w' => e = .returned (.bool v) ∧ ∃ j, w' = w.drewN j := by
  subst hv; exact may_any b n m k w h
set_option maxHeartbeats 1000000 in
theorem awake_any (w : World) : Calls Try.prog 7 #[] w fun e w' => e = .returned (.bool true) ∧ Below w.heap.size w w' := by
  go_enter Try.func7, Try.ntmps7
  go_wp2_with fail
  refine (new_any _ _).mono ?_
  rintro e w1 ⟨rfl, ha, hb, hs⟩
  rw [bnd2] at ha
  go_wp2_with fail
  refine (tick_yes _ _ _ _ ha (by omega)).mono ?_
  rintro e w2 ⟨rfl, ha2, hf2⟩
  go_wp2_with fail
  refine (may_is _ _ _ _ true _ ha2 (by decide)).mono ?_
  rintro e w3 ⟨rfl, j1, rfl⟩
  go_wp2_with fail
  refine (may_is _ _ _ _ false _ (ha2.drewN _) (by decide)).mono ?_
  rintro e w3 ⟨rfl, j2, rfl⟩
  go_wp2_with fail
  refine (tick_yes _ _ _ _ (ha2.drewN _) (by omega)).mono ?_
  rintro e w3 ⟨rfl, ha3, hf3⟩
  go_wp2_with fail
  refine (tick_no _ _ _ _ ha3 (by omega)).mono ?_
  rintro e w4 ⟨rfl, rfl⟩
  go_wp2_with fail
  refine (now_any _ _ _ _ ha3).mono ?_
  rintro e w5 ⟨rfl, rfl⟩
  go_wp2_with fail
  refine (may_is _ _ _ _ true _ ha3 (by decide)).mono ?_
  rintro e w5 ⟨rfl, j3, rfl⟩
  go_wp2_with fail
  go_ret
  refine ⟨rfl, ?_⟩
  exact (bdrewN (hb.trans (hf2.below (Nat.le_refl _) (by omega))) _).trans (bdrewN (hf3.below (Nat.le_refl _) (by have := hf2.size; simp [go_sem]; omega)) _)
end Go.Proofs.Ytoljkjajfmafaaa
