/- Walk: the statement that Parse undoes Print. -/
import Derived.Test.YthchcnbgjklbhaaDoorPgAwake
namespace Go.Proofs.YthchcnbgjklbhaaDoor
open Go.RowKit
theorem fit_to (d : Pg.D) (h : I64 d.k ∧ I64 d.a ∧ I64 d.b ∧ I64 d.i ∧ I64 d.n) (k a b i n : Int) (e : fit d = ⟨k, a, b, i, n⟩) (w : World) :
    Calls Tryd.prog 10 #[.agg #[.int .i64 d.k, .int .i64 d.a, .int .i64 d.b, .int .i64 d.i, .int .i64 d.n]] w fun e w' =>
      e = .returned (.agg #[.int .i64 k, .int .i64 a, .int .i64 b, .int .i64 i, .int .i64 n]) ∧ Below w.heap.size w w' := by
  have h' := fit_any d h.1 h.2.1 h.2.2.1 h.2.2.2.1 h.2.2.2.2 w
  rw [e] at h'
  exact h'
theorem print_right {k a b i n : Int} (h : Pg.right ⟨k, a, b, i, n⟩ = true) {s : ByteArray} (hs : s = strB (Pg.print ⟨k, a, b, i, n⟩)) (w : World) (hE : Env w) :
    Calls Tryd.prog 11 #[.agg #[.int .i64 k, .int .i64 a, .int .i64 b, .int .i64 i, .int .i64 n]] w fun e w' =>
    e = .returned (.tuple #[.string s, .int .i64 0]) ∧ Below w.heap.size w w' := by
  have h' := print_any k a b i n w hE
  simp only [printed, printE, h, if_true] at h'
  rw [hs]; exact h'
theorem print_wrong {k a b i n : Int} (h : Pg.right ⟨k, a, b, i, n⟩ = false) (w : World) (hE : Env w) :
    Calls Tryd.prog 11 #[.agg #[.int .i64 k, .int .i64 a, .int .i64 b, .int .i64 i, .int .i64 n]] w fun e w' =>
    e = .returned (.tuple #[.string ⟨#[]⟩, .int .i64 1]) ∧ Below w.heap.size w w' := by
  have h' := print_any k a b i n w hE
  simp only [printed, printE, h, if_false, Bool.false_eq_true] at h'
  exact h'
theorem flat_len (g : Pg.Pt → List UInt8) (n : Nat) : ∀ (ps : List Pg.Pt), (∀ p ∈ ps, (g p).length ≤ n) → (ps.flatMap g).length ≤ n * ps.length
  | [], _ => by simp
  | p :: ps, h => by
    have h1 := flat_len g n ps (fun q hq => h q (.tail _ hq))
    have h2 := h p (.head _)
    simp only [List.flatMap_cons, List.length_append, List.length_cons, Nat.mul_add]
    omega
theorem print_len {d : Pg.D} (h : Pg.right d = true) : 3 ≤ (Pg.print d).length ∧ (Pg.print d).length ≤ 32 := by
  have h1 := Pg.word_len d.k (Pg.right_kind h)
  have h2 : (Pg.tail d).length ≤ 9 * (Pg.parts d.k).length := by
    unfold Pg.tail
    refine flat_len _ 9 _ fun p hp => ?_
    have hb := Pg.parts_bd (k := d.k) p hp
    have hr := Pg.right_parts h p hp
    have := Pg.itoa_len (d.get p.f) (by omega)
    simp; omega
  unfold Pg.print
  rw [List.length_append]
  omega
theorem parse_right {k a b i n : Int} (h : Pg.right ⟨k, a, b, i, n⟩ = true) {s : ByteArray} (hs : s = strB (Pg.print ⟨k, a, b, i, n⟩)) (w : World) (hE : Env w) :
    Calls Tryd.prog 18 #[.string s] w fun e w' =>
    e = .returned (.tuple #[.agg #[.int .i64 k, .int .i64 a, .int .i64 b, .int .i64 i, .int .i64 n], .int .i64 0]) ∧ Below w.heap.size w w' := by
  have hl := print_len h
  have h' := parse_any s (by rw [hs, strB_size]; omega) w hE
  have e1 : s.data.toList = Pg.print ⟨k, a, b, i, n⟩ := by rw [hs]; simp [strB]
  have e2 : Pg.parse s.data.toList = some ⟨k, a, b, i, n⟩ := by rw [e1]; exact Pg.parse_print h
  unfold ParseEnd parsed parseE at h'
  rw [e2] at h'
  exact h'
/-- Two texts, compared. -/
theorem strB_eq {k a b i n k' a' b' i' n' : Int} (h : Pg.right ⟨k, a, b, i, n⟩ = true) (h' : Pg.right ⟨k', a', b', i', n'⟩ = true) (hne : (⟨k, a, b, i, n⟩ : Pg.D) ≠ ⟨k', a', b', i', n'⟩)
    {s t : ByteArray} (hs : s = strB (Pg.print ⟨k, a, b, i, n⟩)) (ht : t = strB (Pg.print ⟨k', a', b', i', n'⟩)) : (s.toList == t.toList) = false := by
  refine beq_eq_false_iff_ne.2 fun e => hne (Pg.print_inj h h' ?_)
  rw [ByteArray.toList_eq, ByteArray.toList_eq, hs, ht] at e
  simpa [strB] using e
set_option maxRecDepth 100000 in
set_option maxHeartbeats 4000000 in
theorem back_any (d d' : Pg.D) (h : I64 d.k ∧ I64 d.a ∧ I64 d.b ∧ I64 d.i ∧ I64 d.n) (h' : I64 d'.k ∧ I64 d'.a ∧ I64 d'.b ∧ I64 d'.i ∧ I64 d'.n) (w : World) (hE : Env w) :
    Calls Tryd.prog 4 #[.agg #[.int .i64 d.k, .int .i64 d.a, .int .i64 d.b, .int .i64 d.i, .int .i64 d.n], .agg #[.int .i64 d'.k, .int .i64 d'.a, .int .i64 d'.b, .int .i64 d'.i, .int .i64 d'.n]] w
      fun e w' => e = .returned (.bool true) ∧ Below w.heap.size w w' := by
  obtain ⟨k, a, b, i, n, hx⟩ : ∃ k a b i n, fit d = ⟨k, a, b, i, n⟩ := ⟨_, _, _, _, _, rfl⟩
  obtain ⟨k', a', b', i', n', hy⟩ : ∃ k a b i n, fit d' = ⟨k, a, b, i, n⟩ := ⟨_, _, _, _, _, rfl⟩
  have hr := fit_right d
  have hr' := fit_right d'
  rw [hx] at hr
  rw [hy] at hr'
  obtain ⟨s, hs⟩ : ∃ s, s = strB (Pg.print ⟨k, a, b, i, n⟩) := ⟨_, rfl⟩
  obtain ⟨t, ht⟩ : ∃ s, s = strB (Pg.print ⟨k', a', b', i', n'⟩) := ⟨_, rfl⟩
  have HE := Lib.hid hE
  have HX := Lib.hid hx
  have HY := Lib.hid hy
  have HR := Lib.hid hr
  have HR' := Lib.hid hr'
  have HS := Lib.hid hs
  have HT := Lib.hid ht
  have HH := Lib.hid h
  have HH' := Lib.hid h'
  have hcase : (k = k' ∧ a = a' ∧ b = b' ∧ i = i' ∧ n = n') ∨ ((k == k') = false ∧ (s.toList == t.toList) = false) ∨ (k = k' ∧ (a == a') = false ∧ (s.toList == t.toList) = false) ∨ (k = k' ∧ a = a' ∧ (b == b') = false ∧ (s.toList == t.toList) = false) ∨
      (k = k' ∧ a = a' ∧ b = b' ∧ (i == i') = false ∧ (s.toList == t.toList) = false) ∨ (k = k' ∧ a = a' ∧ b = b' ∧ i = i' ∧ (n == n') = false ∧ (s.toList == t.toList) = false) := by
    by_cases e : (⟨k, a, b, i, n⟩ : Pg.D) = ⟨k', a', b', i', n'⟩
    · simp only [Pg.D.mk.injEq] at e
      exact .inl e
    · have hq := strB_eq hr hr' e hs ht
      by_cases e1 : k = k'
      · by_cases e2 : a = a'
        · by_cases e3 : b = b'
          · by_cases e4 : i = i'
            · have e5 : n ≠ n' := fun e5 => e (by rw [e1, e2, e3, e4, e5])
              exact .inr (.inr (.inr (.inr (.inr ⟨e1, e2, e3, e4, beq_eq_false_iff_ne.2 e5, hq⟩))))
            · exact .inr (.inr (.inr (.inr (.inl ⟨e1, e2, e3, beq_eq_false_iff_ne.2 e4, hq⟩))))
          · exact .inr (.inr (.inr (.inl ⟨e1, e2, beq_eq_false_iff_ne.2 e3, hq⟩)))
        · exact .inr (.inr (.inl ⟨e1, beq_eq_false_iff_ne.2 e2, hq⟩))
      · exact .inr (.inl ⟨beq_eq_false_iff_ne.2 e1, hq⟩)
  clear hE hx hy hr hr' hs ht h h'
  go_enter Tryd.func4, Tryd.ntmps4
  go_wp2_with fail
  refine (awake_any _ (HE.out.below (balloc (balloc (Below.refl _ _) _) _))).mono ?_
  rintro e w1 ⟨rfl, hb1⟩
  have hD1 : Blk w1 w.heap.size #[.int .i64 d.k, .int .i64 d.a, .int .i64 d.b, .int .i64 d.i, .int .i64 d.n] 23 := ((Blk.new w _ _).alloc _).below hb1 (by simp; omega)
  have hF1 : Blk w1 (w.heap.size + 1) #[.int .i64 d'.k, .int .i64 d'.a, .int .i64 d'.b, .int .i64 d'.i, .int .i64 d'.n] 23 := (Blk.new_at _ _ _ _ _ (by simp) rfl).below hb1 (by simp)
  have hw1 : Below w.heap.size w w1 := btrans (balloc (balloc (Below.refl _ _) _) _) hb1
  clear hb1
  have c1 := hD1.cell
  have s1 := hD1.lt
  have c1' := hF1.cell
  have s1' := hF1.lt
  go_wp2_with fail
  refine (fit_to d HH.out k a b i n HX.out _).mono ?_
  rintro e w2 ⟨rfl, hb2⟩
  have hw2 := btrans hw1 hb2
  have hF2 := hF1.below hb2 hF1.lt
  clear hb2 c1 s1 c1' s1' hw1 hD1 hF1
  have c2 := hF2.cell
  have s2 := hF2.lt
  go_wp2_with fail
  refine (fit_to d' HH'.out k' a' b' i' n' HY.out _).mono ?_
  rintro e w3 ⟨rfl, hb3⟩
  have hX3 : Blk w3 w2.heap.size #[.int .i64 k, .int .i64 a, .int .i64 b, .int .i64 i, .int .i64 n] 23 := (Blk.new_at _ _ _ _ _ rfl rfl).below hb3 (by simp)
  have hw3 := btrans (balloc hw2 _) hb3
  have e2 := hF2.lt
  clear hb3 hw2 hF2 c2 s2
  obtain ⟨X, hX⟩ : ∃ X, X = w2.heap.size := ⟨_, rfl⟩
  rw [← hX] at hX3 ⊢
  clear hX e2
  have c3 := hX3.cell
  have s3 := hX3.lt
  go_wp2_with fail
  refine (print_right HR.out HS.out _ (HE.out.below (balloc hw3 _))).mono ?_
  rintro e w4 ⟨rfl, hb4⟩
  have hX4 := (hX3.alloc _).below hb4 (hX3.alloc _).lt
  have hY4 : Blk w4 w3.heap.size #[.int .i64 k', .int .i64 a', .int .i64 b', .int .i64 i', .int .i64 n'] 23 := (Blk.new_at _ _ _ _ _ rfl rfl).below hb4 (by simp)
  have hw4 := btrans (balloc hw3 _) hb4
  clear hb4 hw3 hX3 c3 s3
  obtain ⟨Y, hY⟩ : ∃ Y, Y = w3.heap.size := ⟨_, rfl⟩
  rw [← hY] at hY4 ⊢
  clear hY
  have c4 := hX4.cell
  have s4 := hX4.lt
  have c4' := hY4.cell
  have s4' := hY4.lt
  go_wp2_with fail
  refine (print_right HR'.out HT.out _ (HE.out.below hw4)).mono ?_
  rintro e w5 ⟨rfl, hb5⟩
  have hX5 := hX4.below hb5 hX4.lt
  have hY5 := hY4.below hb5 hY4.lt
  have hw5 := btrans hw4 hb5
  clear hb5 hw4 hX4 c4 s4 hY4 c4' s4'
  have c5 := hX5.cell
  have s5 := hX5.lt
  have c5' := hY5.cell
  have s5' := hY5.lt
  go_wp2_with fail
  refine (parse_right HR.out HS.out _ (HE.out.below hw5)).mono ?_
  rintro e w6 ⟨rfl, hb6⟩
  have hX6 := hX5.below hb6 hX5.lt
  have hY6 := hY5.below hb6 hY5.lt
  have hw6 := btrans hw5 hb6
  clear hb6 hw5 hX5 c5 s5 hY5 c5' s5'
  have c6 := hX6.cell
  have s6 := hX6.lt
  have c6' := hY6.cell
  have s6' := hY6.lt
  rcases hcase with ⟨rfl, rfl, rfl, rfl, rfl⟩ | ⟨e1, e0⟩ | ⟨rfl, e1, e0⟩ | ⟨rfl, rfl, e1, e0⟩ | ⟨rfl, rfl, rfl, e1, e0⟩ | ⟨rfl, rfl, rfl, rfl, e1, e0⟩
  · obtain rfl : s = t := HS.out.trans HT.out.symm
    go_wp2_with fail
    go_ret
    exact ⟨rfl, balloc hw6 _⟩
  all_goals
    go_wp2_with fail
    go_ret
    exact ⟨rfl, balloc hw6 _⟩
end Go.Proofs.YthchcnbgjklbhaaDoor
