/- The statement ClockFar is proved: for every input the law returns true and each argument reads behind the call as it read before; there is no further condition. -/
import Derived.Test.YtoljkjajfmafaaaCk3
import Derived.WalkKit
import Derived.ProofKit
import Derived.OpenShut
import Derived.Below
namespace Go.Proofs.Ytoljkjajfmafaaa.clockFar
open Go.ChangeShapes Go.WideShapes Go.ChangeAt Go.RowKit
set_option linter.unusedVariables false      -- a walk need not use every 'w<i>' (that an integer argument fits its kind)

theorem own : ownKnob Try.prog.godebug = none := by kernel_rfl

theorem int_bd {a : Int} (h : (Lit.int .i64 a).wf = true) : -9223372036854775808 ≤ a ∧ a ≤ 9223372036854775807 := by
  simp only [Lit.wf, Bool.and_eq_true, decide_eq_true_eq] at h; exact h
set_option maxHeartbeats 1000000 in
theorem far0 (a0 : Int) (h : a0 < 0 ∨ a0 = 0) (w : World) :
    Calls Try.prog 5 #[.int .i64 a0] w fun e w' => e = .returned (.bool true) ∧ Below w.heap.size w w' := by
  have hm : bnd a0 = 0 := by unfold bnd; omega
  have HM := Lib.hid hm
  clear hm
  rcases h with h | rfl
  all_goals
    go_enter Try.func5, Try.ntmps5
    go_wp2_with fail
    refine (awake_any _).mono ?_
    rintro e w1 ⟨rfl, hb1⟩
    go_wp2_with fail
    refine (new_any _ _).mono ?_
    rintro e w2 ⟨rfl, ha, hb2, hs2⟩
    go_wp2_with fail
    refine (new_any _ _).mono ?_
    rintro e w3 ⟨rfl, hc, hb3, hs3⟩
    rw [HM.out] at ha hc
    replace ha := ha.below hb3 (by omega)
    go_wp2_with fail
    refine (tick_no _ _ _ _ ha (by omega)).mono ?_
    rintro e w4 ⟨rfl, rfl⟩
    go_wp2_with fail
    refine (now_any _ _ _ _ hc).mono ?_
    rintro e w5 ⟨rfl, rfl⟩
    go_wp2_with fail
    refine (may_is _ _ _ _ true _ hc (by decide)).mono ?_
    rintro e w5 ⟨rfl, j1, rfl⟩
    go_wp2_with fail
    refine (may_is _ _ _ _ false _ (hc.drewN _) (by decide)).mono ?_
    rintro e w5 ⟨rfl, j2, rfl⟩
    go_wp2_with fail
    refine (may_is _ _ _ _ true _ (ha.drewN _) (by decide)).mono ?_
    rintro e w5 ⟨rfl, j3, rfl⟩
    go_wp2_with fail
    refine (may_is _ _ _ _ true _ (ha.drewN _) (by decide)).mono ?_
    rintro e w5 ⟨rfl, j4, rfl⟩
    go_wp2_with fail
    go_ret
    exact ⟨rfl, bdrewN (hb1.trans ((hb2.mono hb1.size).trans (hb3.mono (by have := hb1.size; omega)))) _⟩
set_option maxHeartbeats 1000000 in
theorem far1 (a0 m : Int) (hm : 0 < a0 ∧ a0 ≤ 1099511627776 ∧ m = a0 ∨ 1099511627776 < a0 ∧ m = 1099511627776) (w : World) :
    Calls Try.prog 5 #[.int .i64 a0] w fun e w' => e = .returned (.bool true) ∧ Below w.heap.size w w' := by
  have hm' : bnd a0 = m := by unfold bnd; omega
  have hne : (m == 0) = false := beq_eq_false_iff_ne.2 (by omega)
  have HM := Lib.hid hm'
  clear hm'
  rcases hm with ⟨h1, h2, rfl⟩ | ⟨h1, rfl⟩
  all_goals
    go_enter Try.func5, Try.ntmps5
    go_wp2_with fail
    refine (awake_any _).mono ?_
    rintro e w1 ⟨rfl, hb1⟩
    go_wp2_with fail
    refine (new_any _ _).mono ?_
    rintro e w2 ⟨rfl, ha, hb2, hs2⟩
    go_wp2_with fail
    refine (new_any _ _).mono ?_
    rintro e w3 ⟨rfl, hc, hb3, hs3⟩
    rw [HM.out] at ha hc
    replace ha := ha.below hb3 (by omega)
    go_wp2_with fail
    refine (tick_yes _ _ _ _ ha (by omega)).mono ?_
    rintro e w4 ⟨rfl, ha4, hf4⟩
    replace hc := hc.fr hf4 (by omega) (by omega)
    go_wp2_with fail
    refine (now_any _ _ _ _ hc).mono ?_
    rintro e w5 ⟨rfl, rfl⟩
    go_wp2_with fail
    refine (may_is _ _ _ _ true _ hc (by simp; try omega)).mono ?_
    rintro e w5 ⟨rfl, j1, rfl⟩
    go_wp2_with fail
    refine (may_is _ _ _ _ false _ (hc.drewN _) (by simp; try omega)).mono ?_
    rintro e w5 ⟨rfl, j2, rfl⟩
    go_wp2_with fail
    refine (may_is _ _ _ _ true _ (ha4.drewN _) (by simp; try omega)).mono ?_
    rintro e w5 ⟨rfl, j3, rfl⟩
    go_wp2_with fail
    refine (may_is _ _ _ _ false _ (ha4.drewN _) (by simp; try omega)).mono ?_
    rintro e w5 ⟨rfl, j4, rfl⟩
    go_wp2_with fail
    go_ret
    exact ⟨rfl, bdrewN (hb1.trans ((hb2.mono hb1.size).trans ((hb3.mono (by have := hb1.size; omega)).trans (hf4.below hb1.size (by have := hb1.size; omega))))) _⟩
theorem walk (a0 : Int) (w0 : (Lit.int .i64 a0).wf = true) (w : World) :
    Calls Try.prog 5 #[.int .i64 a0] w fun e w' => e = .returned (.bool true) ∧ Below w.heap.size w w' := by
  have hm : (a0 < 0 ∨ a0 = 0) ∨ ∃ m : Int, (0 < a0 ∧ a0 ≤ 1099511627776 ∧ m = a0 ∨ 1099511627776 < a0 ∧ m = 1099511627776) := by
    by_cases h : a0 ≤ 0
    · exact .inl (by omega)
    · by_cases h2 : a0 ≤ 1099511627776
      · exact .inr ⟨a0, .inl ⟨by omega, h2, rfl⟩⟩
      · exact .inr ⟨_, .inr ⟨by omega, rfl⟩⟩
  rcases hm with h | ⟨m, h⟩
  · exact far0 a0 h w
  · exact far1 a0 m h w

/-! ### THE ROW's STEP: WRITTEN OUT: LEAVE IT -/
set_option maxRecDepth 100000 in
theorem lifted (os : Os) (started : os.Started) (H : Type) (enc : TypeId × Value → H) :
    ReturnsInHanded {} Try.checked os 5 .any (Rows.clockFarSpec.pre6 enc Try.prog Try.f5 Rows.clockFarRow.domain false) (Rows.clockFarSpec.post enc Try.prog Try.f5 false true false false) := by
  refine returnsInHanded_of_change (C := Try.checked) own started (by kernel_rfl) Try.func5
    (ChangeSpec.witness6 (enc := enc) (C := Try.checked) false ⟨#[], #[.int .i64 0], []⟩ 8 (by kernel_rfl) (by kernel_rfl) (by kernel_rfl) (by kernel_rfl)) ?_
  intro W base args ds gs before hval0 hW hcnd _
  have hval : ∀ (j : Nat) t v, Try.f5.params[j]? = some t → args[j]? = some v → Value.okWide Try.prog W .any base t v := hval0
  have hW' := hW
  obtain ⟨p, q, hA0, hV, rfl, hfz, hnd⟩ := hW
  have hA : DataW.TrodAll enc Try.prog W 0 (fun _ => true) true Try.f5.params.toList args.toList ds p := hA0
  rw [Try.params5] at hA hval
  obtain ⟨v0, vs0, d0, ds0, p0, q0, hargs, rfl, rfl, h0, r0⟩ := trodAll_cons hA
  obtain ⟨rfl, rfl, rfl⟩ := trodAll_nil r0
  obtain rfl : args = #[v0] := by cases args; simp_all
  obtain ⟨rfl, rfl⟩ := trodVars_none hV
  obtain ⟨a0, rfl, rfl, rfl, w0⟩ := open_int Try.underlying3 (hval 0 3 v0 rfl rfl) h0
  clear hA0 hval0
  simp only [List.append_nil] at hW'
  refine (walk a0 w0 W).mono fun e W' ⟨he, bel⟩ => ?_
  subst he
  exact ⟨_, rfl, _, _, _, [], _, [], hW', (trodAll_cons_mk (shut_bool Try.underlying4 _) trodAll_mk0), (trodAll_cons_mk (shut_int Try.underlying3 w0) trodAll_mk0), rfl, bel.frame _, fun h => by cases h⟩

theorem over : Rows.clockFarRow.holds Try.pinned (OpenSpec.ofChange Rows.clockFarSpec) :=
  OpenClaim.holds_of_wide 5 Try.f5 rfl rfl rfl rfl rfl rfl rfl ⟨rfl, rfl, rfl, rfl, rfl⟩ rfl rfl rfl rfl rfl (by kernel_rfl) Try.func5 (by kernel_rfl)
    (of_decide_eq_true (by kernel_rfl)) (by unfold Func.isWrapper; first | (rw [if_pos (by decide +kernel)]; kernel_rfl) | (rw [if_neg (by decide +kernel)]; exact ⟨rfl, rfl⟩))
    (fun os started H enc _ => lifted os started H enc)

/-- ████ THE STATEMENT ████ -/
theorem proved : Rows.ClockFarSaid :=
  over
#print axioms proved
end Go.Proofs.Ytoljkjajfmafaaa.clockFar

