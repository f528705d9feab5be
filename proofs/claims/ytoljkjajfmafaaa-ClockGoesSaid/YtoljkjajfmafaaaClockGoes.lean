/- The statement ClockGoes is proved: for every input the law returns true and each argument reads behind the call as it read before; there is no further condition. -/
import Derived.Test.YtoljkjajfmafaaaCk3
import Derived.WalkKit
import Derived.ProofKit
import Derived.OpenShut
import Derived.Below
namespace Go.Proofs.Ytoljkjajfmafaaa.clockGoes
open Go.ChangeShapes Go.WideShapes Go.ChangeAt Go.RowKit
set_option linter.unusedVariables false      -- a walk need not use every 'w<i>' (that an integer argument fits its kind)

theorem own : ownKnob Try.prog.godebug = none := by kernel_rfl

theorem int_bd {a : Int} (h : (Lit.int .i64 a).wf = true) : -9223372036854775808 ≤ a ∧ a ≤ 9223372036854775807 := by
  simp only [Lit.wf, Bool.and_eq_true, decide_eq_true_eq] at h; exact h
set_option maxHeartbeats 2000000 in
theorem goes (a0 a1 m q : Int) (h0 : -9223372036854775808 ≤ a0 ∧ a0 ≤ 9223372036854775807) (h1 : -9223372036854775808 ≤ a1 ∧ a1 ≤ 9223372036854775807)
    (hm : m = pk a0 201) (hq : q = pk a1 300) (w : World) :
    Calls Try.prog 4 #[.int .i64 a0, .int .i64 a1] w fun e w' => e = .returned (.bool true) ∧ Below w.heap.size w w' := by
  have m0 := pk_lo a0 201 (by omega)
  have m1 := pk_hi a0 201 (by omega)
  have q0 := pk_lo a1 300 (by omega)
  have q1 := pk_hi a1 300 (by omega)
  rw [← hm] at m0 m1
  rw [← hq] at q0 q1
  have hbm : bnd m = m := by unfold bnd; omega
  have HB := Lib.hid hbm
  have HM := Lib.hid hm
  have HQ := Lib.hid hq
  clear hbm hm hq
  go_enter Try.func4, Try.ntmps4
  go_wp2_with fail
  refine (awake_any _).mono ?_
  rintro e w1 ⟨rfl, hb1⟩
  go_wp2_with fail
  refine (pick_any _ _ _ (by omega) (by omega) h0).mono ?_
  rw [← HM.out]
  rintro e w2 ⟨rfl, rfl⟩
  go_wp2_with fail
  refine (new_any _ _).mono ?_
  rw [HB.out]
  rintro e w2 ⟨rfl, ha, hb2, hs2⟩
  go_wp2_with fail
  have hfin : Below w.heap.size w w2 := hb1.trans (hb2.mono hb1.size)
  have hle : w.heap.size ≤ w1.heap.size := hb1.size
  go_loopw [8, 9, 10] (fun i _ _ wr => ∃ k : Int, i = .int .i64 k ∧ 0 ≤ k ∧ k ≤ m ∧ At wr w1.heap.size k m ∧ Below w.heap.size w wr) (fun i _ _ _ => (m - intOf i).toNat)
  case atStart => exact ⟨0, rfl, by omega, by omega, ha, hfin⟩
  case round =>
    obtain ⟨k, rfl, k0, k1, hak, hbk⟩ := hrel
    by_cases hlt : k < m
    · go_wp2_with fail
      refine (now_any _ _ _ _ hak).mono ?_
      rintro e w3 ⟨rfl, rfl⟩
      go_wp2_with fail
      refine (pick_any _ _ _ (by omega) (by omega) h1).mono ?_
      rw [← HQ.out]
      rintro e w3 ⟨rfl, rfl⟩
      go_wp2_with fail
      refine (may_is _ _ _ _ (decide (q ≤ m - k)) _ hak (by simp [q0])).mono ?_
      rintro e w3 ⟨rfl, j, rfl⟩
      go_wp2_with fail
      refine (pick_any _ _ _ (by omega) (by omega) h1).mono ?_
      rw [← HQ.out]
      rintro e w3 ⟨rfl, rfl⟩
      go_wp2_with fail
      refine (tick_yes _ _ _ _ (hak.drewN _) (by omega)).mono ?_
      rintro e w4 ⟨rfl, ha4, hf4⟩
      go_wp2_with fail
      go_roundw
      case rel => exact ⟨k + 1, rfl, by omega, by omega, ha4, (bdrewN hbk _).trans (hf4.below hle (bdrewN hbk _).size)⟩
      case measure => simp [intOf]; omega
    · obtain rfl : k = m := by omega
      have hf : decide (k < k) = false := by simp
      go_wp2_with fail
      refine (tick_no _ _ _ _ hak (by omega)).mono ?_
      rintro e w3 ⟨rfl, rfl⟩
      go_wp2_with fail
      refine (now_any _ _ _ _ hak).mono ?_
      rintro e w3 ⟨rfl, rfl⟩
      go_wp2_with fail
      refine (may_is _ _ _ _ false _ hak (by simp)).mono ?_
      rintro e w5 ⟨rfl, j1, rfl⟩
      go_wp2_with fail
      refine (may_is _ _ _ _ true _ (hak.drewN _) (by simp)).mono ?_
      rintro e w5 ⟨rfl, j2, rfl⟩
      go_wp2_with fail
      refine (may_is _ _ _ _ false _ (hak.drewN _) (by simp)).mono ?_
      rintro e w5 ⟨rfl, j3, rfl⟩
      go_wp2_with fail
      go_ret
      exact ⟨rfl, bdrewN hbk _⟩
theorem walk (a0 : Int) (a1 : Int) (w0 : (Lit.int .i64 a0).wf = true) (w1 : (Lit.int .i64 a1).wf = true) (w : World) :
    Calls Try.prog 4 #[.int .i64 a0, .int .i64 a1] w fun e w' => e = .returned (.bool true) ∧ Below w.heap.size w w' := by
  exact goes a0 a1 _ _ (int_bd w0) (int_bd w1) rfl rfl w

/-! ### THE ROW's STEP: WRITTEN OUT: LEAVE IT -/
set_option maxRecDepth 100000 in
theorem lifted (os : Os) (started : os.Started) (H : Type) (enc : TypeId × Value → H) :
    ReturnsInHanded {} Try.checked os 4 .any (Rows.clockGoesSpec.pre6 enc Try.prog Try.f4 Rows.clockGoesRow.domain false) (Rows.clockGoesSpec.post enc Try.prog Try.f4 false true false false) := by
  refine returnsInHanded_of_change (C := Try.checked) own started (by kernel_rfl) Try.func4
    (ChangeSpec.witness6 (enc := enc) (C := Try.checked) false ⟨#[], #[.int .i64 0, .int .i64 0], []⟩ 8 (by kernel_rfl) (by kernel_rfl) (by kernel_rfl) (by kernel_rfl)) ?_
  intro W base args ds gs before hval0 hW hcnd _
  have hval : ∀ (j : Nat) t v, Try.f4.params[j]? = some t → args[j]? = some v → Value.okWide Try.prog W .any base t v := hval0
  have hW' := hW
  obtain ⟨p, q, hA0, hV, rfl, hfz, hnd⟩ := hW
  have hA : DataW.TrodAll enc Try.prog W 0 (fun _ => true) true Try.f4.params.toList args.toList ds p := hA0
  rw [Try.params4] at hA hval
  obtain ⟨v0, vs0, d0, ds0, p0, q0, hargs, rfl, rfl, h0, r0⟩ := trodAll_cons hA
  obtain ⟨v1, vs1, d1, ds1, p1, q1, rfl, rfl, rfl, h1, r1⟩ := trodAll_cons r0
  obtain ⟨rfl, rfl, rfl⟩ := trodAll_nil r1
  obtain rfl : args = #[v0, v1] := by cases args; simp_all
  obtain ⟨rfl, rfl⟩ := trodVars_none hV
  obtain ⟨a0, rfl, rfl, rfl, w0⟩ := open_int Try.underlying3 (hval 0 3 v0 rfl rfl) h0
  obtain ⟨a1, rfl, rfl, rfl, w1⟩ := open_int Try.underlying3 (hval 1 3 v1 rfl rfl) h1
  clear hA0 hval0
  simp only [List.append_nil] at hW'
  refine (walk a0 a1 w0 w1 W).mono fun e W' ⟨he, bel⟩ => ?_
  subst he
  exact ⟨_, rfl, _, _, _, [], _, [], hW', (trodAll_cons_mk (shut_bool Try.underlying4 _) trodAll_mk0), (trodAll_cons_mk (shut_int Try.underlying3 w0) (trodAll_cons_mk (shut_int Try.underlying3 w1) trodAll_mk0)), rfl, bel.frame _, fun h => by cases h⟩

theorem over : Rows.clockGoesRow.holds Try.pinned (OpenSpec.ofChange Rows.clockGoesSpec) :=
  OpenClaim.holds_of_wide 4 Try.f4 rfl rfl rfl rfl rfl rfl rfl ⟨rfl, rfl, rfl, rfl, rfl⟩ rfl rfl rfl rfl rfl (by kernel_rfl) Try.func4 (by kernel_rfl)
    (of_decide_eq_true (by kernel_rfl)) (by unfold Func.isWrapper; first | (rw [if_pos (by decide +kernel)]; kernel_rfl) | (rw [if_neg (by decide +kernel)]; exact ⟨rfl, rfl⟩))
    (fun os started H enc _ => lifted os started H enc)

/-- ████ THE STATEMENT ████ -/
theorem proved : Rows.ClockGoesSaid :=
  over
#print axioms proved
end Go.Proofs.Ytoljkjajfmafaaa.clockGoes

