/- Walk: the statement on a text with a blank more, or a byte less. -/
import Derived.Test.YthchcnbgjklbhaaDoorPgLoosePure
import Derived.Deep.Cut
import Derived.Deep.DeepCutAuto
namespace Go.Proofs.YthchcnbgjklbhaaDoor
open Go.RowKit
theorem drewB {w : World} {b : Nat} {cs : Array Value} {t : TypeId} (h : Blk w b cs t) : Blk w.drew b cs t := h
set_option maxRecDepth 100000 in
set_option maxHeartbeats 4000000 in
theorem loose_any (d : Pg.D) (z : Int) (h : I64 d.k ∧ I64 d.a ∧ I64 d.b ∧ I64 d.i ∧ I64 d.n) (hz : I64 z) (w : World) (hE : Env w) :
    Calls Tryd.prog 7 #[.agg #[.int .i64 d.k, .int .i64 d.a, .int .i64 d.b, .int .i64 d.i, .int .i64 d.n], .int .i64 z] w
      fun e w' => e = .returned (.bool true) ∧ Below w.heap.size w w' := by
  obtain ⟨k, a, b, i, n, hx⟩ : ∃ k a b i n, fit d = ⟨k, a, b, i, n⟩ := ⟨_, _, _, _, _, rfl⟩
  have hr := fit_right d
  rw [hx] at hr
  obtain ⟨s, hs⟩ : ∃ s, s = strB (Pg.print ⟨k, a, b, i, n⟩) := ⟨_, rfl⟩
  have hl := print_len hr
  have hsz : s.size = (Pg.print ⟨k, a, b, i, n⟩).length := by rw [hs, strB_size]
  rw [← hsz] at hl
  obtain ⟨hl1, hl2⟩ := hl
  obtain ⟨p, hp, hp1⟩ : ∃ p : Nat, pk z ((s.size : Int) + 1) = p ∧ p ≤ s.size := ⟨(pk z ((s.size : Int) + 1)).toNat, by have := pk_lo z ((s.size : Int) + 1) (by omega); omega, by have := pk_hi z ((s.size : Int) + 1) (by omega); omega⟩
  obtain ⟨q, hq, hq1⟩ : ∃ p : Nat, pk z (s.size : Int) = p ∧ p < s.size := ⟨(pk z (s.size : Int)).toNat, by have := pk_lo z (s.size : Int) (by omega); omega, by have := pk_hi z (s.size : Int) (by omega); omega⟩
  have HE := Lib.hid hE
  have HX := Lib.hid hx
  have HR := Lib.hid hr
  have HS := Lib.hid hs
  have HH := Lib.hid h
  have HP := Lib.hid hp
  have HQ := Lib.hid hq
  have HZ := Lib.hid hsz
  clear hE hx hr hs h hp hq hsz
  have hne := nonempty_of hl1
  go_enter Tryd.func7, Tryd.ntmps7
  go_wp2_with fail
  refine (awake_any _ (HE.out.below (balloc (Below.refl _ _) _))).mono ?_
  rintro e w1 ⟨rfl, hb1⟩
  have hD1 : Blk w1 w.heap.size #[.int .i64 d.k, .int .i64 d.a, .int .i64 d.b, .int .i64 d.i, .int .i64 d.n] 23 := (Blk.new_at _ _ _ _ _ rfl rfl).below hb1 (by simp)
  have hw1 : Below w.heap.size w w1 := btrans (balloc (Below.refl _ _) _) hb1
  clear hb1
  have c1 := hD1.cell
  have s1 := hD1.lt
  go_wp2_with fail
  refine (fit_to d HH.out k a b i n HX.out _).mono ?_
  rintro e w2 ⟨rfl, hb2⟩
  have hw2 := btrans hw1 hb2
  clear hb2 c1 s1 hw1 hD1
  go_wp2_with fail
  refine (print_right HR.out HS.out _ (HE.out.below (balloc hw2 _))).mono ?_
  rintro e w3 ⟨rfl, hb3⟩
  have hX3 : Blk w3 w2.heap.size #[.int .i64 k, .int .i64 a, .int .i64 b, .int .i64 i, .int .i64 n] 23 := (Blk.new_at _ _ _ _ _ rfl rfl).below hb3 (by simp)
  have hw3 := btrans (balloc hw2 _) hb3
  clear hb3 hw2
  obtain ⟨X, hX⟩ : ∃ X, X = w2.heap.size := ⟨_, rfl⟩
  rw [← hX] at hX3 ⊢
  clear hX
  have c3 := hX3.cell
  have s3 := hX3.lt
  go_wp2_with fail
  refine (pick_any z _ _ (by omega) (by omega) hz).mono ?_
  rw [HP.out]
  rintro e w3' ⟨rfl, rfl⟩
  go_upto_region 7 with fail
  clear c3 s3
  have hlt3 := hX3.lt
  have hsz3 := hw3.size
  have hne3 : X ≠ w3.heap.size := Nat.ne_of_lt hlt3
  have hN : Pg.parse (((s.extract 0 p ++ ⟨#[32]⟩) ++ s.extract p s.size : ByteArray)).data.toList = none := by
    have e1 : (((s.extract 0 p ++ ⟨#[32]⟩) ++ s.extract p s.size : ByteArray)).data.toList = s.data.toList.take p ++ 32 :: s.data.toList.drop p := by
      rw [ByteArray.data_append, ByteArray.data_append, Array.toList_append, Array.toList_append, bytes_left, bytes_right]
      simp
    have e2 : s.data.toList = Pg.print ⟨k, a, b, i, n⟩ := by rw [HS.out]; simp [strB]
    rw [e1, e2]
    exact Pg.blank_none HR.out p
  have hNs : (((s.extract 0 p ++ ⟨#[32]⟩) ++ s.extract p s.size : ByteArray)).size < 4294967281 := by
    simp only [ByteArray.size_append, ByteArray.size_extract]
    have : (⟨#[32]⟩ : ByteArray).size = 1 := rfl
    omega
  have HN := Lib.hid hN
  have HNs := Lib.hid hNs
  clear hN hNs
  go_cut [10, 11] (fun vp ve wx => ve = .int .i64 151 ∧ Blk wx X #[.int .i64 k, .int .i64 a, .int .i64 b, .int .i64 i, .int .i64 n] 23 ∧ Below w.heap.size w wx)
  case first =>
    go_region_with (first
      | (go_at_call 18; refine (parse_fails _ HN.out HNs.out _ (HE.out.below (Below.drew hw3))).mono ?_; rintro e w4 ⟨rfl, hb4⟩; have hX4 := (drewB hX3).below hb4 (drewB hX3).lt; have hw4 := btrans (Below.drew hw3) hb4; clear hb4)
      | (go_at_call 18; refine (parse_fails _ HN.out HNs.out _ (HE.out.below (Below.drew (balloc hw3 _)))).mono ?_; rintro e w4 ⟨rfl, hb4⟩; have hX4 := (drewB (hX3.alloc _)).below hb4 (drewB (hX3.alloc _)).lt; have hw4 := btrans (Below.drew (balloc hw3 _)) hb4; have hB4 := (drewB (Blk.new w3 _ _)).below hb4 (drewB (Blk.new w3 _ _)).lt; have c4 := hB4.cell; have z4 := hB4.free; have s4 := hB4.lt; clear hb4)
      | fail)
    · go_wp2_with fail
      go_meet
      exact ⟨rfl, hX4.alloc _, balloc hw4 _⟩
    all_goals
      go_wp2_with fail
      go_meet
      exact ⟨rfl, ((((hX4.set_other hne3 _).set_other hne3 _).set_other hne3 _).set_other hne3 _).set_other hne3 _, bset (bset (bset (bset (bset hw4 hsz3 _) hsz3 _) hsz3 _) hsz3 _) hsz3 _⟩
  case rest =>
    obtain ⟨rfl, hX4, hw4⟩ := hcut
    clear hX3 hw3
    go_wp2_with fail
    refine (pick_any z _ _ (by omega) (by omega) hz).mono ?_
    rw [HQ.out]
    rintro e w3' ⟨rfl, rfl⟩
    go_upto_region 11 with fail
    go_quiet (fail)
    go_wp2_with fail
    obtain ⟨t, ht⟩ : ∃ t, t = s.extract 0 q ++ s.extract (q + 1) s.size := ⟨_, rfl⟩
    rw [← ht]
    have htl : t.size + 1 = s.size := by
      rw [ht]
      simp only [ByteArray.size_append, ByteArray.size_extract]
      omega
    clear ht
    have hdn : Below w.heap.size w (wc.drewN nq) := below_drewN hw4 nq
    have hXd : Blk (wc.drewN nq) X #[.int .i64 k, .int .i64 a, .int .i64 b, .int .i64 i, .int .i64 n] 23 := hX4.drewN nq
    clear hX4 hw4
    generalize wc.drewN nq = W0 at hdn hXd ⊢
    cases hpt : Pg.parse t.data.toList with
    | none =>
      have HPT := Lib.hid hpt
      clear hpt
      refine (parse_fails t HPT.out (by omega) _ (HE.out.below hdn)).mono ?_
      rintro e w5 ⟨rfl, hb5⟩
      have hw5 := btrans hdn hb5
      clear hb5 hdn
      go_wp2_with fail
      go_ret
      exact ⟨rfl, balloc hw5 _⟩
    | some y =>
      obtain ⟨yk, ya, yb, yi, yn⟩ := y
      have hy := (Pg.parse_iff _ _).1 hpt
      have hts : t = strB (Pg.print ⟨yk, ya, yb, yi, yn⟩) := by rw [hy.2]; cases t; simp [strB]
      have hyx : (⟨yk, ya, yb, yi, yn⟩ : Pg.D) ≠ ⟨k, a, b, i, n⟩ := by
        intro e
        have h1 := congrArg List.length hy.2
        rw [e, ← HZ.out] at h1
        have h2 : t.data.toList.length = t.size := by rw [Array.length_toList]; rfl
        omega
      have hdiff : ((yk == k) = false) ∨ (yk = k ∧ (ya == a) = false) ∨ (yk = k ∧ ya = a ∧ (yb == b) = false) ∨ (yk = k ∧ ya = a ∧ yb = b ∧ (yi == i) = false) ∨ (yk = k ∧ ya = a ∧ yb = b ∧ yi = i ∧ (yn == n) = false) := by
        simp only [beq_eq_false_iff_ne]
        by_cases e1 : yk = k
        · by_cases e2 : ya = a
          · by_cases e3 : yb = b
            · by_cases e4 : yi = i
              · have e5 : yn ≠ n := fun e5 => hyx (by rw [e1, e2, e3, e4, e5])
                exact .inr (.inr (.inr (.inr ⟨e1, e2, e3, e4, e5⟩)))
              · exact .inr (.inr (.inr (.inl ⟨e1, e2, e3, e4⟩)))
            · exact .inr (.inr (.inl ⟨e1, e2, e3⟩))
          · exact .inr (.inl ⟨e1, e2⟩)
        · exact .inl e1
      have HY := Lib.hid hy.1
      have HPT := Lib.hid hpt
      have HTS := Lib.hid hts
      clear hpt hy hts hyx
      refine (parse_gives t HPT.out (by omega) _ (HE.out.below hdn)).mono ?_
      rintro e w5 ⟨rfl, hb5⟩
      have hw5 := btrans hdn hb5
      have hX5 := hXd.below hb5 hXd.lt
      clear hb5 hdn hXd
      have c5 := hX5.cell
      have s5 := hX5.lt
      go_wp2_with fail
      refine (print_right HY.out HTS.out _ (HE.out.below (balloc hw5 _))).mono ?_
      rintro e w6 ⟨rfl, hb6⟩
      have hw6 := btrans (balloc hw5 _) hb6
      have hX6 := (hX5.alloc _).below hb6 (hX5.alloc _).lt
      have hY6 : Blk w6 w5.heap.size #[.int .i64 yk, .int .i64 ya, .int .i64 yb, .int .i64 yi, .int .i64 yn] 23 := (Blk.new_at _ _ _ _ _ rfl rfl).below hb6 (by simp)
      clear hb6 hw5 hX5 c5 s5
      have c6 := hX6.cell
      have s6 := hX6.lt
      have d6 := hY6.cell
      have t6 := hY6.lt
      rcases hdiff with e1 | ⟨rfl, e1⟩ | ⟨rfl, rfl, e1⟩ | ⟨rfl, rfl, rfl, e1⟩ | ⟨rfl, rfl, rfl, rfl, e1⟩
      all_goals
        go_wp2_with fail
        go_ret
        exact ⟨rfl, hw6⟩
end Go.Proofs.YthchcnbgjklbhaaDoor
