/- The statement ClockMay is proved: for every input the law returns true and each argument reads behind the call as it read before; there is no further condition. -/
import Derived.Test.YtoljkjajfmafaaaCk3
import Derived.WalkKit
import Derived.ProofKit
import Derived.OpenShut
import Derived.Below
namespace Go.Proofs.Ytoljkjajfmafaaa.clockMay
open Go.ChangeShapes Go.WideShapes Go.ChangeAt Go.RowKit
set_option linter.unusedVariables false      -- a walk need not use every 'w<i>' (that an integer argument fits its kind)

theorem own : ownKnob Try.prog.godebug = none := by kernel_rfl

theorem int_bd {a : Int} (h : (Lit.int .i64 a).wf = true) : -9223372036854775808 ≤ a ∧ a ≤ 9223372036854775807 := by
  simp only [Lit.wf, Bool.and_eq_true, decide_eq_true_eq] at h; exact h
set_option maxHeartbeats 2000000 in
theorem may (a0 a1 a2 m q t : Int) (h0 : -9223372036854775808 ≤ a0 ∧ a0 ≤ 9223372036854775807) (h1 : -9223372036854775808 ≤ a1 ∧ a1 ≤ 9223372036854775807) (h2 : -9223372036854775808 ≤ a2 ∧ a2 ≤ 9223372036854775807)
    (hm : m = pk a0 201) (ht : t = pk a1 220) (hq : q = pk a2 220) (w : World) :
    Calls Try.prog 6 #[.int .i64 a0, .int .i64 a1, .int .i64 a2] w fun e w' => e = .returned (.bool true) ∧ Below w.heap.size w w' := by
  have m0 := pk_lo a0 201 (by omega)
  have m1 := pk_hi a0 201 (by omega)
  have t0 := pk_lo a1 220 (by omega)
  have t1 := pk_hi a1 220 (by omega)
  have q0 := pk_lo a2 220 (by omega)
  have q1 := pk_hi a2 220 (by omega)
  rw [← hm] at m0 m1
  rw [← ht] at t0 t1
  rw [← hq] at q0 q1
  have hbm : bnd m = m := by unfold bnd; omega
  have HB := Lib.hid hbm
  have HM := Lib.hid hm
  have HQ := Lib.hid hq
  have HT := Lib.hid ht
  clear hbm hm hq ht
  go_enter Try.func6, Try.ntmps6
  go_wp2_with fail
  refine (awake_any _).mono ?_
  rintro e w1 ⟨rfl, hb1⟩
  go_wp2_with fail
  refine (pick_any _ _ _ (by omega) (by omega) h0).mono ?_
  rw [← HM.out]
  rintro e w2 ⟨rfl, rfl⟩
  go_wp2_with fail
  refine (new_any _ _).mono ?_
  rw [HB.out]
  rintro e w2 ⟨rfl, ha, hb2, hs2⟩
  go_wp2_with fail
  have hfin : Below w.heap.size w w2 := hb1.trans (hb2.mono hb1.size)
  have hle : w.heap.size ≤ w1.heap.size := hb1.size
  go_loopw [10] (fun i wr => ∃ k n : Int, i = .int .i64 k ∧ 0 ≤ k ∧ k ≤ t ∧ n = min k m ∧ At wr w1.heap.size n m ∧ Below w.heap.size w wr) (fun i _ => (t - intOf i).toNat)
  case atStart => exact ⟨0, 0, rfl, by omega, by omega, by omega, ha, hfin⟩
  case round =>
    obtain ⟨k, n, rfl, k0, k1, hn, hak, hbk⟩ := hrel
    have HN := Lib.hid hn
    clear hn
    by_cases hlt : k < t
    · go_wp2_with fail
      refine (pick_any _ _ _ (by omega) (by omega) h1).mono ?_
      rw [← HT.out]
      rintro e w3 ⟨rfl, rfl⟩
      go_wp2_with fail
      by_cases hnm : n < m
      · refine (tick_yes _ _ _ _ hak (by omega)).mono ?_
        rintro e w4 ⟨rfl, ha4, hf4⟩
        go_wp2_with fail
        go_roundw
        case rel => exact ⟨k + 1, n + 1, rfl, by omega, by omega, by have := HN.out; omega, ha4, hbk.trans (hf4.below hle hbk.size)⟩
        case measure => simp [intOf]; omega
      · refine (tick_no _ _ _ _ hak (by omega)).mono ?_
        rintro e w4 ⟨rfl, rfl⟩
        go_wp2_with fail
        go_roundw
        case rel => exact ⟨k + 1, n, rfl, by omega, by omega, by have := HN.out; omega, hak, hbk⟩
        case measure => simp [intOf]; omega
    · obtain rfl : k = t := by omega
      have hle2 : n ≤ m := by have := HN.out; omega
      have hn0 : 0 ≤ n := by have := HN.out; omega
      have hnk : n = m ∨ n < m := by omega
      go_wp2_with fail
      refine (pick_any _ _ _ (by omega) (by omega) h1).mono ?_
      rw [← HT.out]
      rintro e w3 ⟨rfl, rfl⟩
      go_wp2_with fail
      refine (pick_any _ _ _ (by omega) (by omega) h2).mono ?_
      rw [← HQ.out]
      rintro e w3 ⟨rfl, rfl⟩
      go_wp2_with fail
      have hA : q ≤ m - n ∨ ¬ q ≤ m - n := by omega
      have hC : (q = 0) ∨ (0 < q) := by omega
      have hD : q + 1 ≤ m - n ∨ ¬ q + 1 ≤ m - n := by omega
      rcases hnk with rfl | hnk
      · have hkn : n ≤ k := by have := HN.out; omega
        have hkn' : decide (k < n) = false := by simp; omega
        rcases hC with rfl | hC
        · refine (may_is _ _ _ _ true _ hak (by simp)).mono ?_
          rintro e w3 ⟨rfl, j1, rfl⟩
          go_wp2_with fail
          refine (may_is _ _ _ _ false _ (hak.drewN _) (by simp)).mono ?_
          rintro e w3 ⟨rfl, j2, rfl⟩
          go_wp2_with fail
          refine (tick_no _ _ _ _ (hak.drewN _) (by omega)).mono ?_
          rintro e w4 ⟨rfl, rfl⟩
          go_wp2_with fail
          refine (pick_any _ _ _ (by omega) (by omega) h1).mono ?_
          rw [← HT.out]
          rintro e w3 ⟨rfl, rfl⟩
          go_wp2_with fail
          refine (now_any _ _ _ _ (hak.drewN _)).mono ?_
          rintro e w3 ⟨rfl, rfl⟩
          go_wp2_with fail
          go_ret
          exact ⟨rfl, bdrewN hbk _⟩
        · refine (may_is _ _ _ _ false _ hak (by simp; omega)).mono ?_
          rintro e w3 ⟨rfl, j1, rfl⟩
          go_wp2_with fail
          refine (may_is _ _ _ _ false _ (hak.drewN _) (by simp; omega)).mono ?_
          rintro e w3 ⟨rfl, j2, rfl⟩
          go_wp2_with fail
          refine (tick_no _ _ _ _ (hak.drewN _) (by omega)).mono ?_
          rintro e w4 ⟨rfl, rfl⟩
          go_wp2_with fail
          refine (pick_any _ _ _ (by omega) (by omega) h1).mono ?_
          rw [← HT.out]
          rintro e w3 ⟨rfl, rfl⟩
          go_wp2_with fail
          refine (now_any _ _ _ _ (hak.drewN _)).mono ?_
          rintro e w3 ⟨rfl, rfl⟩
          go_wp2_with fail
          go_ret
          exact ⟨rfl, bdrewN hbk _⟩
      · have hkn' : k < m := by have := HN.out; omega
        have hnm' : decide (n + 1 ≤ m) = true := by simp; omega
        rcases hA with hA | hA
        · refine (may_is _ _ _ _ true _ hak (by simp; omega)).mono ?_
          rintro e w3 ⟨rfl, j1, rfl⟩
          rcases hC with rfl | hC
          · go_wp2_with fail
            refine (may_is _ _ _ _ true _ (hak.drewN _) (by simp; omega)).mono ?_
            rintro e w3 ⟨rfl, j2, rfl⟩
            go_wp2_with fail
            refine (tick_yes _ _ _ _ (hak.drewN _) (by omega)).mono ?_
            rintro e w4 ⟨rfl, ha4, hf4⟩
            go_wp2_with fail
            refine (pick_any _ _ _ (by omega) (by omega) h1).mono ?_
            rw [← HT.out]
            rintro e w3 ⟨rfl, rfl⟩
            go_wp2_with fail
            refine (may_is _ _ _ _ true _ ha4 (by simp; omega)).mono ?_
            rintro e w3 ⟨rfl, j2, rfl⟩
            go_wp2_with fail
            refine (now_any _ _ _ _ (ha4.drewN _)).mono ?_
            rintro e w3 ⟨rfl, rfl⟩
            go_wp2_with fail
            go_ret
            exact ⟨rfl, bdrewN ((bdrewN hbk _).trans (hf4.below hle (bdrewN hbk _).size)) _⟩
          · go_wp2_with fail
            refine (may_is _ _ _ _ true _ (hak.drewN _) (by simp; omega)).mono ?_
            rintro e w3 ⟨rfl, j2, rfl⟩
            go_wp2_with fail
            refine (may_is _ _ _ _ (decide (q + 1 ≤ m - n)) _ (hak.drewN _) (by simp; omega)).mono ?_
            rintro e w3 ⟨rfl, j2, rfl⟩
            go_wp2_with fail
            refine (tick_yes _ _ _ _ (hak.drewN _) (by omega)).mono ?_
            rintro e w4 ⟨rfl, ha4, hf4⟩
            go_wp2_with fail
            refine (pick_any _ _ _ (by omega) (by omega) h1).mono ?_
            rw [← HT.out]
            rintro e w3 ⟨rfl, rfl⟩
            rcases hD with hD | hD
            · go_wp2_with fail
              refine (may_is _ _ _ _ true _ ha4 (by simp; omega)).mono ?_
              rintro e w3 ⟨rfl, j2, rfl⟩
              go_wp2_with fail
              refine (now_any _ _ _ _ (ha4.drewN _)).mono ?_
              rintro e w3 ⟨rfl, rfl⟩
              go_wp2_with fail
              go_ret
              exact ⟨rfl, bdrewN ((bdrewN hbk _).trans (hf4.below hle (bdrewN hbk _).size)) _⟩
            · go_wp2_with fail
              refine (now_any _ _ _ _ ha4).mono ?_
              rintro e w3 ⟨rfl, rfl⟩
              go_wp2_with fail
              go_ret
              exact ⟨rfl, (bdrewN hbk _).trans (hf4.below hle (bdrewN hbk _).size)⟩
        · refine (may_is _ _ _ _ false _ hak (by simp; omega)).mono ?_
          rintro e w3 ⟨rfl, j1, rfl⟩
          go_wp2_with fail
          refine (may_is _ _ _ _ false _ (hak.drewN _) (by simp; omega)).mono ?_
          rintro e w3 ⟨rfl, j2, rfl⟩
          go_wp2_with fail
          refine (tick_yes _ _ _ _ (hak.drewN _) (by omega)).mono ?_
          rintro e w4 ⟨rfl, ha4, hf4⟩
          go_wp2_with fail
          refine (pick_any _ _ _ (by omega) (by omega) h1).mono ?_
          rw [← HT.out]
          rintro e w3 ⟨rfl, rfl⟩
          go_wp2_with fail
          refine (now_any _ _ _ _ ha4).mono ?_
          rintro e w3 ⟨rfl, rfl⟩
          go_wp2_with fail
          go_ret
          exact ⟨rfl, (bdrewN hbk _).trans (hf4.below hle (bdrewN hbk _).size)⟩
theorem walk (a0 : Int) (a1 : Int) (a2 : Int) (w0 : (Lit.int .i64 a0).wf = true) (w1 : (Lit.int .i64 a1).wf = true) (w2 : (Lit.int .i64 a2).wf = true) (w : World) :
    Calls Try.prog 6 #[.int .i64 a0, .int .i64 a1, .int .i64 a2] w fun e w' => e = .returned (.bool true) ∧ Below w.heap.size w w' := by
  exact may a0 a1 a2 _ _ _ (int_bd w0) (int_bd w1) (int_bd w2) rfl rfl rfl w

/-! ### THE ROW's STEP: WRITTEN OUT: LEAVE IT -/
set_option maxRecDepth 100000 in
theorem lifted (os : Os) (started : os.Started) (H : Type) (enc : TypeId × Value → H) :
    ReturnsInHanded {} Try.checked os 6 .any (Rows.clockMaySpec.pre6 enc Try.prog Try.f6 Rows.clockMayRow.domain false) (Rows.clockMaySpec.post enc Try.prog Try.f6 false true false false) := by
  refine returnsInHanded_of_change (C := Try.checked) own started (by kernel_rfl) Try.func6
    (ChangeSpec.witness6 (enc := enc) (C := Try.checked) false ⟨#[], #[.int .i64 0, .int .i64 0, .int .i64 0], []⟩ 8 (by kernel_rfl) (by kernel_rfl) (by kernel_rfl) (by kernel_rfl)) ?_
  intro W base args ds gs before hval0 hW hcnd _
  have hval : ∀ (j : Nat) t v, Try.f6.params[j]? = some t → args[j]? = some v → Value.okWide Try.prog W .any base t v := hval0
  have hW' := hW
  obtain ⟨p, q, hA0, hV, rfl, hfz, hnd⟩ := hW
  have hA : DataW.TrodAll enc Try.prog W 0 (fun _ => true) true Try.f6.params.toList args.toList ds p := hA0
  rw [Try.params6] at hA hval
  obtain ⟨v0, vs0, d0, ds0, p0, q0, hargs, rfl, rfl, h0, r0⟩ := trodAll_cons hA
  obtain ⟨v1, vs1, d1, ds1, p1, q1, rfl, rfl, rfl, h1, r1⟩ := trodAll_cons r0
  obtain ⟨v2, vs2, d2, ds2, p2, q2, rfl, rfl, rfl, h2, r2⟩ := trodAll_cons r1
  obtain ⟨rfl, rfl, rfl⟩ := trodAll_nil r2
  obtain rfl : args = #[v0, v1, v2] := by cases args; simp_all
  obtain ⟨rfl, rfl⟩ := trodVars_none hV
  obtain ⟨a0, rfl, rfl, rfl, w0⟩ := open_int Try.underlying3 (hval 0 3 v0 rfl rfl) h0
  obtain ⟨a1, rfl, rfl, rfl, w1⟩ := open_int Try.underlying3 (hval 1 3 v1 rfl rfl) h1
  obtain ⟨a2, rfl, rfl, rfl, w2⟩ := open_int Try.underlying3 (hval 2 3 v2 rfl rfl) h2
  clear hA0 hval0
  simp only [List.append_nil] at hW'
  refine (walk a0 a1 a2 w0 w1 w2 W).mono fun e W' ⟨he, bel⟩ => ?_
  subst he
  exact ⟨_, rfl, _, _, _, [], _, [], hW', (trodAll_cons_mk (shut_bool Try.underlying4 _) trodAll_mk0), (trodAll_cons_mk (shut_int Try.underlying3 w0) (trodAll_cons_mk (shut_int Try.underlying3 w1) (trodAll_cons_mk (shut_int Try.underlying3 w2) trodAll_mk0))), rfl, bel.frame _, fun h => by cases h⟩

theorem over : Rows.clockMayRow.holds Try.pinned (OpenSpec.ofChange Rows.clockMaySpec) :=
  OpenClaim.holds_of_wide 6 Try.f6 rfl rfl rfl rfl rfl rfl rfl ⟨rfl, rfl, rfl, rfl, rfl⟩ rfl rfl rfl rfl rfl (by kernel_rfl) Try.func6 (by kernel_rfl)
    (of_decide_eq_true (by kernel_rfl)) (by unfold Func.isWrapper; first | (rw [if_pos (by decide +kernel)]; kernel_rfl) | (rw [if_neg (by decide +kernel)]; exact ⟨rfl, rfl⟩))
    (fun os started H enc _ => lifted os started H enc)

/-- ████ THE STATEMENT ████ -/
theorem proved : Rows.ClockMaySaid :=
  over
#print axioms proved
end Go.Proofs.Ytoljkjajfmafaaa.clockMay

