/- Walks: pick and Fit of the statements: of a raw deed, a right one. -/
import Derived.Test.YthchcnbgjklbhaaDoorPgRight
namespace Go.Proofs.YthchcnbgjklbhaaDoor
open Go.RowKit
/-- Which of n things a raw number speaks of. -/
def pk (c n : Int) : Int := (if c < 0 then -(c + 1) else c) % n
theorem pk_lo (c n : Int) (hn : 0 < n) : 0 ≤ pk c n := by unfold pk; exact Int.emod_nonneg _ (by omega)
theorem pk_hi (c n : Int) (hn : 0 < n) : pk c n < n := by unfold pk; exact Int.emod_lt_of_pos _ hn
/-- An int of Go. -/
def I64 (c : Int) : Prop := -9223372036854775808 ≤ c ∧ c ≤ 9223372036854775807
theorem pick_any (c n : Int) (w : World) (hn : 0 < n) (hn2 : n ≤ 100000000000) (hc : I64 c) :
    Calls Tryd.prog 17 #[.int .i64 c, .int .i64 n] w fun e w' => e = .returned (.int .i64 (pk c n)) ∧ w = w' := by
  obtain ⟨hc1, hc2⟩ := hc
  rcases Int.lt_or_le c 0 with h | h
  · have e : pk c n = -(c + 1).tmod n := by
      unfold pk; rw [if_pos h, ← Int.neg_tmod, Int.tmod_eq_emod_of_nonneg (by omega)]
    rw [e]; clear e
    go_enter Tryd.func17, Tryd.ntmps17
    go_wp2
    go_ret
    exact ⟨rfl, rfl⟩
  · have e : pk c n = c % n := by unfold pk; rw [if_neg (by omega)]
    rw [e]; clear e
    go_enter Tryd.func17, Tryd.ntmps17
    go_wp2
    go_ret
    exact ⟨rfl, rfl⟩
/-- Of a raw deed, a right one. -/
def fitK (k a b i n : Int) : Pg.D :=
  if k = 1 ∨ k = 2 then ⟨k, pk a 6, 0, pk i 5, pk n 5⟩
  else if k = 3 ∨ k = 9 ∨ k = 11 ∨ k = 12 then ⟨k, pk a 6, pk b 6, 0, 0⟩
  else if k = 4 ∨ k = 5 then ⟨k, pk a 6, pk b 6, pk i 8, 0⟩
  else if k = 6 then ⟨k, pk a 6, 0, pk i 8, 0⟩
  else if k = 7 then ⟨k, pk a 6, 0, pk i 8, pk n 2000001 - 1000000⟩
  else if k = 14 then ⟨k, 0, 0, 0, 0⟩
  else ⟨k, pk a 6, 0, 0, 0⟩
def fit (d : Pg.D) : Pg.D := fitK (1 + pk d.k 14) d.a d.b d.i d.n
theorem fit_right (d : Pg.D) : Pg.right (fit d) = true := by
  have h1 := pk_lo d.k 14 (by omega)
  have h2 := pk_hi d.k 14 (by omega)
  unfold fit
  generalize hk : 1 + pk d.k 14 = k
  have hk' : 1 ≤ k ∧ k ≤ 14 := by omega
  clear hk h1 h2
  have a1 := pk_lo d.a 6 (by omega)
  have a2 := pk_hi d.a 6 (by omega)
  have b1 := pk_lo d.b 6 (by omega)
  have b2 := pk_hi d.b 6 (by omega)
  have i1 := pk_lo d.i 5 (by omega)
  have i2 := pk_hi d.i 5 (by omega)
  have j1 := pk_lo d.i 8 (by omega)
  have j2 := pk_hi d.i 8 (by omega)
  have n1 := pk_lo d.n 5 (by omega)
  have n2 := pk_hi d.n 5 (by omega)
  have v1 := pk_lo d.n 2000001 (by omega)
  have v2 := pk_hi d.n 2000001 (by omega)
  rcases Pg.kinds hk' with rfl | rfl | rfl | rfl | rfl | rfl | rfl | rfl | rfl | rfl | rfl | rfl | rfl | rfl
  all_goals
    simp [fitK, Pg.right, Pg.parts, Pg.strip, Pg.pa, Pg.pb, Pg.pf, Pg.ps, Pg.pn, Pg.pv, Pg.D.get, Pg.D.set, Pg.bare]
    try omega
set_option maxHeartbeats 2000000 in
theorem fit_any (d : Pg.D) (hk : I64 d.k) (ha : I64 d.a) (hb : I64 d.b) (hi : I64 d.i) (hn : I64 d.n) (w : World) :
    Calls Tryd.prog 10 #[.agg (dcells d)] w fun e w' => e = .returned (.agg (dcells (fit d))) ∧ Below w.heap.size w w' := by
  obtain ⟨rk, a, b, i, n⟩ := d
  simp only [fit] at *
  have h1 := pk_lo rk 14 (by omega)
  have h2 := pk_hi rk 14 (by omega)
  have hh : ∃ k, k = 1 + pk rk 14 ∧ 1 ≤ k ∧ k ≤ 14 := ⟨_, rfl, by omega, by omega⟩
  obtain ⟨k, hke, hk1⟩ := hh
  rw [← hke]
  have hpk : pk rk 14 = k - 1 := by omega
  have HPK := Lib.hid hpk
  clear hke h1 h2 hpk
  have v1 := pk_lo n 2000001 (by omega)
  have v2 := pk_hi n 2000001 (by omega)
  simp only [dcells]
  rcases Pg.kinds hk1 with rfl | rfl | rfl | rfl | rfl | rfl | rfl | rfl | rfl | rfl | rfl | rfl | rfl | rfl
  all_goals
    clear hk1
    go_enter Tryd.func10, Tryd.ntmps10
    go_wp2_with fail
    refine (pick_any _ _ _ (by omega) (by omega) hk).mono ?_
    rw [HPK.out]
    rintro e w' ⟨rfl, rfl⟩
    go_wp2_with (first | (go_at_call 17; refine (pick_any _ _ _ (by omega) (by omega) (by assumption)).mono ?_; rintro e w' ⟨rfl, rfl⟩) | fail)
    refine bodyPost_ret (v := .agg (dcells (fitK _ _ _ _ _))) (by simp [results, Tryd.results10, go_sem, dcells, fitK]) rfl ⟨rfl, ?_⟩
    repeat (first | exact Below.refl _ _ | refine balloc ?_ _ | refine bset ?_ (by simp; try omega) _)
end Go.Proofs.YthchcnbgjklbhaaDoor
