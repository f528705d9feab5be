/- Walk: the statement that a deed with a wrong part is right no more. -/
import Derived.Test.YthchcnbgjklbhaaDoorPgBack
namespace Go.Proofs.YthchcnbgjklbhaaDoor
open Go.RowKit
theorem right_bd {k a b i n : Int} (h : Pg.right ⟨k, a, b, i, n⟩ = true) : a ≤ 1000000 ∧ b ≤ 1000000 ∧ i ≤ 1000000 ∧ n ≤ 1000000 := by
  have hk := Pg.right_kind h
  have hp := Pg.right_parts h
  have hs := Pg.right_strip h
  rcases Pg.kinds hk with rfl | rfl | rfl | rfl | rfl | rfl | rfl | rfl | rfl | rfl | rfl | rfl | rfl | rfl <;>
    simp [Pg.strip, Pg.parts, Pg.pa, Pg.pb, Pg.pf, Pg.ps, Pg.pn, Pg.pv, Pg.D.get, Pg.D.set, Pg.bare] at hp hs <;> omega
theorem wrong_a {k a b i n : Int} (h : 1000000 < a ∨ 1000000 < b ∨ 1000000 < i ∨ 1000000 < n) : Pg.right ⟨k, a, b, i, n⟩ = false := by
  cases hr : Pg.right ⟨k, a, b, i, n⟩
  · rfl
  · have := right_bd hr; omega
theorem check_wrong {k a b i n : Int} (h : Pg.right ⟨k, a, b, i, n⟩ = false) : check [[[⟨14, 0, 0, 0, 0⟩, ⟨k, a, b, i, n⟩]]] = (150, 0, 0, 1) := by
  have h1 : Pg.right ⟨14, 0, 0, 0, 0⟩ = true := by decide +kernel
  simp [check, tErr, bErr, first, dErr, h, h1]
theorem right_no {k a b i n : Int} (h : Pg.right ⟨k, a, b, i, n⟩ = false) (w : World) :
    Calls Tryd.prog 15 #[.agg #[.int .i64 k, .int .i64 a, .int .i64 b, .int .i64 i, .int .i64 n]] w fun e w' => e = .returned (.bool false) ∧ Below w.heap.size w w' := by
  have h' := right_any k a b i n w
  rw [h] at h'
  exact h'
theorem threads_one {W : World} {b1 b3 b4 : Nat} {t3 t4 : TypeId} {k a b i n : Int} {W0 : World} {X0 : Nat} (_ : Blk W0 X0 #[.int .i64 k, .int .i64 a, .int .i64 b, .int .i64 i, .int .i64 n] 23) (h1 : Blk W b1 #[.int .i64 14, .int .i64 0, .int .i64 0, .int .i64 0, .int .i64 0, .int .i64 k, .int .i64 a, .int .i64 b, .int .i64 i, .int .i64 n] 23)
    (h3 : Blk W b3 #[.slice (some ⟨b1, 0, none⟩) 2 2] t3) (h4 : Blk W b4 #[.slice (some ⟨b3, 0, none⟩) 1 1] t4) :
    ThreadsAt W (.slice (some ⟨b4, 0, none⟩) 1 1) [[[⟨14, 0, 0, 0, 0⟩, ⟨k, a, b, i, n⟩]]] := by
  have k1 : DeedsAt W (.slice (some ⟨b1, 0, none⟩) 2 2) [⟨14, 0, 0, 0, 0⟩, ⟨k, a, b, i, n⟩] := ⟨by simp [maxLen], Sl.blk h1⟩
  have k3 : BlocksAt W (.slice (some ⟨b3, 0, none⟩) 1 1) [[⟨14, 0, 0, 0, 0⟩, ⟨k, a, b, i, n⟩]] := by
    refine ⟨by simp [maxLen], _, ?_, Sl.blk h3, ?_⟩
    · rfl
    · intro j l hl
      match j with
      | 0 => simp at hl; subst hl; exact ⟨_, rfl, k1⟩
      | j + 1 => simp at hl
  refine ⟨by simp [maxLen], _, ?_, Sl.blk h4, ?_⟩
  · rfl
  · intro j l hl
    match j with
    | 0 => simp at hl; subst hl; exact ⟨_, rfl, k3⟩
    | j + 1 => simp at hl
set_option maxRecDepth 100000 in
set_option maxHeartbeats 4000000 in
theorem wrong_any (d : Pg.D) (part pby : Int) (h : I64 d.k ∧ I64 d.a ∧ I64 d.b ∧ I64 d.i ∧ I64 d.n) (hp : I64 part) (hq : I64 pby) (w : World) (hE : Env w) :
    Calls Tryd.prog 8 #[.agg #[.int .i64 d.k, .int .i64 d.a, .int .i64 d.b, .int .i64 d.i, .int .i64 d.n], .int .i64 part, .int .i64 pby] w
      fun e w' => e = .returned (.bool true) ∧ Below w.heap.size w w' := by
  obtain ⟨k, a, b, i, n, hx⟩ : ∃ k a b i n, fit d = ⟨k, a, b, i, n⟩ := ⟨_, _, _, _, _, rfl⟩
  obtain ⟨z, hz⟩ : ∃ z, z = pk pby 1000000 := ⟨_, rfl⟩
  have z1 := pk_lo pby 1000000 (by omega)
  have z2 := pk_hi pby 1000000 (by omega)
  rw [← hz] at z1 z2
  have hcase : ∃ c, pk part 4 = c ∧ (c = 0 ∨ c = 1 ∨ c = 2 ∨ c = 3) := ⟨_, rfl, by have := pk_lo part 4 (by omega); have := pk_hi part 4 (by omega); omega⟩
  have HE := Lib.hid hE
  have HX := Lib.hid hx
  have HH := Lib.hid h
  have HZ := Lib.hid hz
  have hae := eql_arr3
  obtain ⟨c, hc, hcc⟩ := hcase
  have HC := Lib.hid hc
  clear hE hx h hz hc
  rcases hcc with rfl | rfl | rfl | rfl
  all_goals
    go_enter Tryd.func8, Tryd.ntmps8
    go_wp2_with fail
    refine (awake_any _ (HE.out.below (balloc (Below.refl _ _) _))).mono ?_
    rintro e w1 ⟨rfl, hb1⟩
    have hD1 : Blk w1 w.heap.size #[.int .i64 d.k, .int .i64 d.a, .int .i64 d.b, .int .i64 d.i, .int .i64 d.n] 23 := (Blk.new_at _ _ _ _ _ rfl rfl).below hb1 (by simp)
    have hw1 : Below w.heap.size w w1 := btrans (balloc (Below.refl _ _) _) hb1
    clear hb1
    have c1 := hD1.cell
    have s1 := hD1.lt
    go_wp2_with fail
    refine (fit_to d HH.out k a b i n HX.out _).mono ?_
    rintro e w2 ⟨rfl, hb2⟩
    have hw2 := btrans hw1 hb2
    clear hb2 c1 s1 hw1 hD1
    go_wp2_with fail
    refine (pick_any pby 1000000 _ (by omega) (by omega) hq).mono ?_
    rintro e w2' ⟨rfl, rfl⟩
    rw [← HZ.out]
    go_wp2_with fail
    refine (pick_any part 4 _ (by omega) (by omega) hp).mono ?_
    rintro e w2' ⟨rfl, rfl⟩
    rw [HC.out]
    go_wp2_with fail
    refine (print_wrong (wrong_a (by omega)) _ (HE.out.below (balloc hw2 _))).mono ?_
    rintro e w3 ⟨rfl, hb3⟩
    have hX3 := (Blk.new_at _ _ _ _ _ rfl rfl).below hb3 (by simp)
    have hw3 := btrans (balloc hw2 _) hb3
    clear hb3 hw2
    obtain ⟨X, hX⟩ : ∃ X, X = w2.heap.size := ⟨_, rfl⟩
    rw [← hX] at hX3 ⊢
    clear hX
    have c3 := hX3.cell
    have s3 := hX3.lt
    go_wp2_with fail
    refine (check_any _ _ _ (threads_one hX3 (t3 := 41) (t4 := 42) (b1 := w3.heap.size) (b3 := w3.heap.size + 1) (b4 := w3.heap.size + 1 + 1) ?_ ?_ ?_)).mono ?_
    · exact ((Blk.new_at _ _ _ _ _ rfl rfl).alloc _).alloc _
    · exact (Blk.new_at _ _ _ _ _ (by simp) rfl).alloc _
    · exact Blk.new_at _ _ _ _ _ (by simp) rfl
    rw [check_wrong (wrong_a (by omega))]
    rintro e w4 ⟨rfl, hb4⟩
    simp only [checkV]
    have hw4 : Below w.heap.size w w4 := by
      refine btrans ?_ hb4
      repeat (first | exact hw3 | refine balloc ?_ _)
    have hX4 := (((hX3.alloc _).alloc _).alloc _).below hb4 (by simp; omega)
    clear hb4 c3 s3 hX3 hw3
    have c4 := hX4.cell
    have s4 := hX4.lt
    go_wp2_with fail
    refine (right_no (wrong_a (by omega)) _).mono ?_
    rintro e w5 ⟨rfl, hb5⟩
    have hA5 := (Blk.new_at _ _ _ _ _ rfl rfl).below hb5 (by simp)
    have hw5 := btrans (balloc hw4 _) hb5
    clear hb5 c4 s4 hX4 hw4
    have c5 := hA5.cell
    have s5 := hA5.lt
    go_wp2_with fail
    go_ret
    refine ⟨rfl, ?_⟩
    repeat (first | exact hw5 | refine balloc ?_ _)
end Go.Proofs.YthchcnbgjklbhaaDoor
