/- The statement ClockPlays is proved: for every input the law returns true and each argument reads behind the call as it read before; there is no further condition. -/
import Derived.Test.YtoljkjajfmafaaaCk3
import Derived.WalkKit
import Derived.ProofKit
import Derived.OpenShut
import Derived.Below
namespace Go.Proofs.Ytoljkjajfmafaaa.clockPlays
open Go.ChangeShapes Go.WideShapes Go.ChangeAt Go.RowKit
set_option linter.unusedVariables false      -- a walk need not use every 'w<i>' (that an integer argument fits its kind)

theorem own : ownKnob Try.prog.godebug = none := by kernel_rfl

theorem int_bd {a : Int} (h : (Lit.int .i64 a).wf = true) : -9223372036854775808 ≤ a ∧ a ≤ 9223372036854775807 := by
  simp only [Lit.wf, Bool.and_eq_true, decide_eq_true_eq] at h; exact h
theorem rnew_any (m : Int) (w : World) :
    Calls Try.prog 10 #[.int .i64 m] w fun e w' => e = .returned (.pointer (some ⟨w.heap.size, 0, none⟩)) ∧ At w' w.heap.size 0 (bnd m) ∧ Below w.heap.size w w' ∧ w.heap.size < w'.heap.size :=
  (rk_new m w).mono fun _ _ ⟨he, hw⟩ => ⟨he, by rw [hw]; exact ⟨by simp, by simp, by simp [go_sem], by omega, bnd_lo m, bnd_hi m⟩, by rw [hw]; exact (Below.refl _ _).alloc (Nat.le_refl _) _, by rw [hw]; simp⟩
theorem rmay_is (b : Nat) (n m k : Int) (w : World) (h : At w b n m) :
    Calls Try.prog 16 #[.pointer (some ⟨b, 0, none⟩), .int .i64 k] w fun e w' => e = .returned (.bool (decide (0 ≤ k ∧ k ≤ m - n))) ∧ ∃ j, w' = w.drewN j :=
  rk_may b n m k w h.h0 h.h1 h.l0 h.l1 h.l2
theorem rnow_any (b : Nat) (n m : Int) (w : World) (h : At w b n m) :
    Calls Try.prog 14 #[.pointer (some ⟨b, 0, none⟩)] w fun e w' => e = .returned (.int .i64 n) ∧ w = w' := (rk_now b n w h.h0).mono fun _ _ ⟨a, b⟩ => ⟨a, b.symm⟩
theorem rtick_yes (b : Nat) (n m : Int) (w : World) (h : At w b n m) (hn : n < m) :
    Calls Try.prog 12 #[.pointer (some ⟨b, 0, none⟩)] w fun e w' => e = .returned (.tuple #[.int .i64 (n + 1), .bool true]) ∧ At w' b (n + 1) m ∧ Fr b w w' := by
  refine (rk_tick_yes b n m w h.h0 h.h1 h.f0 h.l0 hn h.l2).mono ?_
  rintro e w' ⟨rfl, j, rfl⟩
  have q0 := h.h0; have q1 := h.h1; have q2 := h.f0; have q3 := h.l0
  refine ⟨rfl, ⟨?_, ?_, ?_, by omega, by omega, h.l2⟩, ⟨rfl, rfl, rfl, by simp [World.setCell, go_sem], ?_⟩⟩
  · simp [go_sem, *]
  · simp [go_sem, *]
  · simp [go_sem, *]
  · intro k hk hne; exact Below.heap_setCell _ _ _ _ hne
theorem rtick_no (b : Nat) (n m : Int) (w : World) (h : At w b n m) (hn : m ≤ n) :
    Calls Try.prog 12 #[.pointer (some ⟨b, 0, none⟩)] w fun e w' => e = .returned (.tuple #[.int .i64 0, .bool false]) ∧ ∃ j, w' = w.drewN j :=
  rk_tick_no b n m w h.h0 h.h1 hn
theorem fr_cell {b : Nat} {w w' : World} (h : Fr b w w') {x o : Nat} (hx : x < w.heap.size) (hb : x ≠ b) : w'.cell? ⟨x, o, none⟩ = w.cell? ⟨x, o, none⟩ :=
  World.cell?_of_block (w := w) (a := ⟨x, o, none⟩) (h.block x hx hb)
set_option maxRecDepth 100000 in
set_option maxHeartbeats 4000000 in
theorem plays (a0 a1 a2 p t : Int) (h0 : -9223372036854775808 ≤ a0 ∧ a0 ≤ 9223372036854775807) (h1 : -9223372036854775808 ≤ a1 ∧ a1 ≤ 9223372036854775807) (h2 : -9223372036854775808 ≤ a2 ∧ a2 ≤ 9223372036854775807)
    (hp : p = pk a0 50) (ht : t = pk a1 60) (w : World) :
    Calls Try.prog 3 #[.int .i64 a0, .int .i64 a1, .int .i64 a2] w fun e w' => e = .returned (.bool true) ∧ Below w.heap.size w w' := by
  have p0 := pk_lo a0 50 (by omega)
  have p1 := pk_hi a0 50 (by omega)
  have t0 := pk_lo a1 60 (by omega)
  have t1 := pk_hi a1 60 (by omega)
  rw [← hp] at p0 p1
  rw [← ht] at t0 t1
  have HP := Lib.hid hp
  have HT := Lib.hid ht
  clear hp ht
  go_enter Try.func3, Try.ntmps3
  go_wp2_with fail
  refine (awake_any _).mono ?_
  rintro e w1 ⟨rfl, hb1⟩
  go_wp2_with fail
  refine (pick_any _ _ _ (by omega) (by omega) h0).mono ?_
  rw [← HP.out]
  rintro e w2 ⟨rfl, rfl⟩
  go_wp2_with fail
  have hle : w.heap.size ≤ w1.heap.size := hb1.size
  go_loopw [23, 9, 10, 11, 12, 13, 14, 15, 16] (fun ix _ _ _ _ _ _ _ _ wr => ∃ x : Nat, ix = .int .i64 x ∧ x ≤ 2 ∧ wr.cell? ⟨w1.heap.size, 0, none⟩ = some (.int .i64 a0) ∧ wr.cell? ⟨w1.heap.size, 1, none⟩ = some (.int .i64 p) ∧ w1.heap.size < wr.heap.size ∧ Below w.heap.size w wr) (fun ix _ _ _ _ _ _ _ _ _ => (2 - intOf ix).toNat)
  case atStart => exact ⟨0, rfl, by omega, by simp, by simp, by simp, hb1.alloc hle _⟩
  case round =>
    obtain ⟨x, rfl, hx, hc0, hc1, hsz, hbk⟩ := hrel
    have hx3 : x = 0 ∨ x = 1 ∨ x = 2 := by omega
    obtain ⟨wo, rfl⟩ : ∃ wo : World, wo = wr := ⟨_, rfl⟩
    rcases hx3 with rfl | rfl | rfl
    · have hx3 : True := trivial
      clear hx3
      go_wp2_with fail
      refine (new_any _ _).mono ?_
      rintro e w2 ⟨rfl, ha, hb2, hs2⟩
      go_wp2_with fail
      refine (rnew_any _ _).mono ?_
      rintro e w3 ⟨rfl, hc, hb3, hs3⟩
      replace ha := ha.below hb3 (by omega)
      have hc0' := (hb3.cell (p := ⟨w1.heap.size, 0, none⟩) (by simp; omega)).trans ((hb2.cell (p := ⟨w1.heap.size, 0, none⟩) (by simp; omega)).trans hc0)
      have hc1' := (hb3.cell (p := ⟨w1.heap.size, 1, none⟩) (by simp; omega)).trans ((hb2.cell (p := ⟨w1.heap.size, 1, none⟩) (by simp; omega)).trans hc1)
      have hbk3 : Below w.heap.size w w3 := hbk.trans ((hb2.mono (by omega)).trans (hb3.mono (by omega)))
      generalize hM : bnd a0 = M at ha hc
      clear hM hc0 hc1 hbk hb2 hb3
      go_wp2_with fail
      go_loopw [12, 13, 14, 15, 16] (fun i _ _ _ _ wr => ∃ k n : Int, i = .int .i64 k ∧ 0 ≤ k ∧ k ≤ t ∧ At wr wo.heap.size n M ∧ At wr w2.heap.size n M ∧ wr.cell? ⟨w1.heap.size, 0, none⟩ = some (.int .i64 a0) ∧ wr.cell? ⟨w1.heap.size, 1, none⟩ = some (.int .i64 p) ∧ w3.heap.size ≤ wr.heap.size ∧ Below w.heap.size w wr) (fun i _ _ _ _ _ => (t - intOf i).toNat)
      case atStart => exact ⟨0, 0, rfl, by omega, by omega, ha, hc, hc0', hc1', Nat.le_refl _, hbk3⟩
      case round =>
        obtain ⟨k, n, rfl, k0, k1, hak, hck, d0, d1, hsk, hbk⟩ := hrel
        clear ha hc hc0' hc1' hbk3
        by_cases hlt : k < t
        · go_wp2_with fail
          refine (pick_any _ _ _ (by omega) (by omega) h1).mono ?_
          rw [← HT.out]
          rintro e w4 ⟨rfl, rfl⟩
          go_wp2_with fail
          by_cases hn : n < M
          · refine (tick_yes _ _ _ _ hak hn).mono ?_
            rintro e w4 ⟨rfl, ha4, hf4⟩
            replace hck := hck.fr hf4 (by omega) (by omega)
            go_wp2_with fail
            refine (rtick_yes _ _ _ _ hck hn).mono ?_
            rintro e w5 ⟨rfl, hc5, hf5⟩
            have z4 := hf4.size
            have z5 := hf5.size
            replace ha4 := ha4.fr hf5 (by omega) (by omega)
            have d0' := (fr_cell (o := 0) hf5 (x := w1.heap.size) (by omega) (by omega)).trans ((fr_cell (o := 0) hf4 (x := w1.heap.size) (by omega) (by omega)).trans d0)
            have d1' := (fr_cell (o := 1) hf5 (x := w1.heap.size) (by omega) (by omega)).trans ((fr_cell (o := 1) hf4 (x := w1.heap.size) (by omega) (by omega)).trans d1)
            have hb5 : Below w.heap.size w w5 := hbk.trans ((hf4.below (by omega) hbk.size).trans (hf5.below (by omega) (by have := hbk.size; omega)))
            clear hak hck hf4 hf5 d0 d1 hbk
            go_wp2_with fail
            refine (now_any _ _ _ _ ha4).mono ?_
            rintro e w6 ⟨rfl, rfl⟩
            go_wp2_with fail
            refine (rnow_any _ _ _ _ hc5).mono ?_
            rintro e w6 ⟨rfl, rfl⟩
            go_wp2_with fail
            refine (may_any _ _ _ _ _ ha4).mono ?_
            rintro e w6 ⟨rfl, j1, rfl⟩
            go_wp2_with fail
            refine (rmay_is _ _ _ _ _ (hc5.drewN _)).mono ?_
            rintro e w6 ⟨rfl, j2, rfl⟩
            go_wp2_with fail
            refine (may_any _ _ _ _ _ (ha4.drewN _)).mono ?_
            rintro e w6 ⟨rfl, j3, rfl⟩
            go_wp2_with fail
            refine (rmay_is _ _ _ _ _ (hc5.drewN _)).mono ?_
            rintro e w6 ⟨rfl, j4, rfl⟩
            go_wp2_with fail
            go_roundw
            case rel => exact ⟨k + 1, n + 1, rfl, by omega, by omega, ha4.drewN _, hc5.drewN _, d0', d1', by simp [go_sem]; omega, bdrewN hb5 _⟩
            case measure => simp [intOf]; omega
          · refine (tick_no _ _ _ _ hak (by omega)).mono ?_
            rintro e w4 ⟨rfl, rfl⟩
            go_wp2_with fail
            refine (rtick_no _ _ _ _ hck (by omega)).mono ?_
            rintro e w4 ⟨rfl, j0, rfl⟩
            go_wp2_with fail
            refine (now_any _ _ _ _ (hak.drewN _)).mono ?_
            rintro e w6 ⟨rfl, rfl⟩
            go_wp2_with fail
            refine (rnow_any _ _ _ _ (hck.drewN _)).mono ?_
            rintro e w6 ⟨rfl, rfl⟩
            go_wp2_with fail
            refine (may_any _ _ _ _ _ (hak.drewN _)).mono ?_
            rintro e w6 ⟨rfl, j1, rfl⟩
            go_wp2_with fail
            refine (rmay_is _ _ _ _ _ (hck.drewN _)).mono ?_
            rintro e w6 ⟨rfl, j2, rfl⟩
            go_wp2_with fail
            refine (may_any _ _ _ _ _ (hak.drewN _)).mono ?_
            rintro e w6 ⟨rfl, j3, rfl⟩
            go_wp2_with fail
            refine (rmay_is _ _ _ _ _ (hck.drewN _)).mono ?_
            rintro e w6 ⟨rfl, j4, rfl⟩
            go_wp2_with fail
            go_roundw
            case rel => exact ⟨k + 1, n, rfl, by omega, by omega, hak.drewN _, hck.drewN _, d0, d1, by simp [go_sem]; omega, bdrewN hbk _⟩
            case measure => simp [intOf]; omega
        · go_wp2_with fail
          refine (pick_any _ _ _ (by omega) (by omega) h1).mono ?_
          rw [← HT.out]
          rintro e w4 ⟨rfl, rfl⟩
          go_wp2_with fail
          go_roundw
          case rel => exact ⟨0 + 1, rfl, by omega, d0, d1, by omega, hbk⟩
          case measure => simp [intOf]
    · have hx3 : True := trivial
      clear hx3
      go_wp2_with fail
      refine (new_any _ _).mono ?_
      rintro e w2 ⟨rfl, ha, hb2, hs2⟩
      go_wp2_with fail
      refine (rnew_any _ _).mono ?_
      rintro e w3 ⟨rfl, hc, hb3, hs3⟩
      replace ha := ha.below hb3 (by omega)
      have hc0' := (hb3.cell (p := ⟨w1.heap.size, 0, none⟩) (by simp; omega)).trans ((hb2.cell (p := ⟨w1.heap.size, 0, none⟩) (by simp; omega)).trans hc0)
      have hc1' := (hb3.cell (p := ⟨w1.heap.size, 1, none⟩) (by simp; omega)).trans ((hb2.cell (p := ⟨w1.heap.size, 1, none⟩) (by simp; omega)).trans hc1)
      have hbk3 : Below w.heap.size w w3 := hbk.trans ((hb2.mono (by omega)).trans (hb3.mono (by omega)))
      generalize hM : bnd p = M at ha hc
      clear hM hc0 hc1 hbk hb2 hb3
      go_wp2_with fail
      go_loopw [12, 13, 14, 15, 16] (fun i _ _ _ _ wr => ∃ k n : Int, i = .int .i64 k ∧ 0 ≤ k ∧ k ≤ t ∧ At wr wo.heap.size n M ∧ At wr w2.heap.size n M ∧ wr.cell? ⟨w1.heap.size, 0, none⟩ = some (.int .i64 a0) ∧ wr.cell? ⟨w1.heap.size, 1, none⟩ = some (.int .i64 p) ∧ w3.heap.size ≤ wr.heap.size ∧ Below w.heap.size w wr) (fun i _ _ _ _ _ => (t - intOf i).toNat)
      case atStart => exact ⟨0, 0, rfl, by omega, by omega, ha, hc, hc0', hc1', Nat.le_refl _, hbk3⟩
      case round =>
        obtain ⟨k, n, rfl, k0, k1, hak, hck, d0, d1, hsk, hbk⟩ := hrel
        clear ha hc hc0' hc1' hbk3
        by_cases hlt : k < t
        · go_wp2_with fail
          refine (pick_any _ _ _ (by omega) (by omega) h1).mono ?_
          rw [← HT.out]
          rintro e w4 ⟨rfl, rfl⟩
          go_wp2_with fail
          by_cases hn : n < M
          · refine (tick_yes _ _ _ _ hak hn).mono ?_
            rintro e w4 ⟨rfl, ha4, hf4⟩
            replace hck := hck.fr hf4 (by omega) (by omega)
            go_wp2_with fail
            refine (rtick_yes _ _ _ _ hck hn).mono ?_
            rintro e w5 ⟨rfl, hc5, hf5⟩
            have z4 := hf4.size
            have z5 := hf5.size
            replace ha4 := ha4.fr hf5 (by omega) (by omega)
            have d0' := (fr_cell (o := 0) hf5 (x := w1.heap.size) (by omega) (by omega)).trans ((fr_cell (o := 0) hf4 (x := w1.heap.size) (by omega) (by omega)).trans d0)
            have d1' := (fr_cell (o := 1) hf5 (x := w1.heap.size) (by omega) (by omega)).trans ((fr_cell (o := 1) hf4 (x := w1.heap.size) (by omega) (by omega)).trans d1)
            have hb5 : Below w.heap.size w w5 := hbk.trans ((hf4.below (by omega) hbk.size).trans (hf5.below (by omega) (by have := hbk.size; omega)))
            clear hak hck hf4 hf5 d0 d1 hbk
            go_wp2_with fail
            refine (now_any _ _ _ _ ha4).mono ?_
            rintro e w6 ⟨rfl, rfl⟩
            go_wp2_with fail
            refine (rnow_any _ _ _ _ hc5).mono ?_
            rintro e w6 ⟨rfl, rfl⟩
            go_wp2_with fail
            refine (may_any _ _ _ _ _ ha4).mono ?_
            rintro e w6 ⟨rfl, j1, rfl⟩
            go_wp2_with fail
            refine (rmay_is _ _ _ _ _ (hc5.drewN _)).mono ?_
            rintro e w6 ⟨rfl, j2, rfl⟩
            go_wp2_with fail
            refine (may_any _ _ _ _ _ (ha4.drewN _)).mono ?_
            rintro e w6 ⟨rfl, j3, rfl⟩
            go_wp2_with fail
            refine (rmay_is _ _ _ _ _ (hc5.drewN _)).mono ?_
            rintro e w6 ⟨rfl, j4, rfl⟩
            go_wp2_with fail
            go_roundw
            case rel => exact ⟨k + 1, n + 1, rfl, by omega, by omega, ha4.drewN _, hc5.drewN _, d0', d1', by simp [go_sem]; omega, bdrewN hb5 _⟩
            case measure => simp [intOf]; omega
          · refine (tick_no _ _ _ _ hak (by omega)).mono ?_
            rintro e w4 ⟨rfl, rfl⟩
            go_wp2_with fail
            refine (rtick_no _ _ _ _ hck (by omega)).mono ?_
            rintro e w4 ⟨rfl, j0, rfl⟩
            go_wp2_with fail
            refine (now_any _ _ _ _ (hak.drewN _)).mono ?_
            rintro e w6 ⟨rfl, rfl⟩
            go_wp2_with fail
            refine (rnow_any _ _ _ _ (hck.drewN _)).mono ?_
            rintro e w6 ⟨rfl, rfl⟩
            go_wp2_with fail
            refine (may_any _ _ _ _ _ (hak.drewN _)).mono ?_
            rintro e w6 ⟨rfl, j1, rfl⟩
            go_wp2_with fail
            refine (rmay_is _ _ _ _ _ (hck.drewN _)).mono ?_
            rintro e w6 ⟨rfl, j2, rfl⟩
            go_wp2_with fail
            refine (may_any _ _ _ _ _ (hak.drewN _)).mono ?_
            rintro e w6 ⟨rfl, j3, rfl⟩
            go_wp2_with fail
            refine (rmay_is _ _ _ _ _ (hck.drewN _)).mono ?_
            rintro e w6 ⟨rfl, j4, rfl⟩
            go_wp2_with fail
            go_roundw
            case rel => exact ⟨k + 1, n, rfl, by omega, by omega, hak.drewN _, hck.drewN _, d0, d1, by simp [go_sem]; omega, bdrewN hbk _⟩
            case measure => simp [intOf]; omega
        · go_wp2_with fail
          refine (pick_any _ _ _ (by omega) (by omega) h1).mono ?_
          rw [← HT.out]
          rintro e w4 ⟨rfl, rfl⟩
          go_wp2_with fail
          go_roundw
          case rel => exact ⟨1 + 1, rfl, by omega, d0, d1, by omega, hbk⟩
          case measure => simp [intOf]
    · go_wp2_with fail
      go_ret
      exact ⟨rfl, hbk⟩
theorem walk (a0 : Int) (a1 : Int) (a2 : Int) (w0 : (Lit.int .i64 a0).wf = true) (w1 : (Lit.int .i64 a1).wf = true) (w2 : (Lit.int .i64 a2).wf = true) (w : World) :
    Calls Try.prog 3 #[.int .i64 a0, .int .i64 a1, .int .i64 a2] w fun e w' => e = .returned (.bool true) ∧ Below w.heap.size w w' := by
  exact plays a0 a1 a2 _ _ (int_bd w0) (int_bd w1) (int_bd w2) rfl rfl w

/-! ### THE ROW's STEP: WRITTEN OUT: LEAVE IT -/
set_option maxRecDepth 100000 in
theorem lifted (os : Os) (started : os.Started) (H : Type) (enc : TypeId × Value → H) :
    ReturnsInHanded {} Try.checked os 3 .any (Rows.clockPlaysSpec.pre6 enc Try.prog Try.f3 Rows.clockPlaysRow.domain false) (Rows.clockPlaysSpec.post enc Try.prog Try.f3 false true false false) := by
  refine returnsInHanded_of_change (C := Try.checked) own started (by kernel_rfl) Try.func3
    (ChangeSpec.witness6 (enc := enc) (C := Try.checked) false ⟨#[], #[.int .i64 0, .int .i64 0, .int .i64 0], []⟩ 8 (by kernel_rfl) (by kernel_rfl) (by kernel_rfl) (by kernel_rfl)) ?_
  intro W base args ds gs before hval0 hW hcnd _
  have hval : ∀ (j : Nat) t v, Try.f3.params[j]? = some t → args[j]? = some v → Value.okWide Try.prog W .any base t v := hval0
  have hW' := hW
  obtain ⟨p, q, hA0, hV, rfl, hfz, hnd⟩ := hW
  have hA : DataW.TrodAll enc Try.prog W 0 (fun _ => true) true Try.f3.params.toList args.toList ds p := hA0
  rw [Try.params3] at hA hval
  obtain ⟨v0, vs0, d0, ds0, p0, q0, hargs, rfl, rfl, h0, r0⟩ := trodAll_cons hA
  obtain ⟨v1, vs1, d1, ds1, p1, q1, rfl, rfl, rfl, h1, r1⟩ := trodAll_cons r0
  obtain ⟨v2, vs2, d2, ds2, p2, q2, rfl, rfl, rfl, h2, r2⟩ := trodAll_cons r1
  obtain ⟨rfl, rfl, rfl⟩ := trodAll_nil r2
  obtain rfl : args = #[v0, v1, v2] := by cases args; simp_all
  obtain ⟨rfl, rfl⟩ := trodVars_none hV
  obtain ⟨a0, rfl, rfl, rfl, w0⟩ := open_int Try.underlying3 (hval 0 3 v0 rfl rfl) h0
  obtain ⟨a1, rfl, rfl, rfl, w1⟩ := open_int Try.underlying3 (hval 1 3 v1 rfl rfl) h1
  obtain ⟨a2, rfl, rfl, rfl, w2⟩ := open_int Try.underlying3 (hval 2 3 v2 rfl rfl) h2
  clear hA0 hval0
  simp only [List.append_nil] at hW'
  refine (walk a0 a1 a2 w0 w1 w2 W).mono fun e W' ⟨he, bel⟩ => ?_
  subst he
  exact ⟨_, rfl, _, _, _, [], _, [], hW', (trodAll_cons_mk (shut_bool Try.underlying4 _) trodAll_mk0), (trodAll_cons_mk (shut_int Try.underlying3 w0) (trodAll_cons_mk (shut_int Try.underlying3 w1) (trodAll_cons_mk (shut_int Try.underlying3 w2) trodAll_mk0))), rfl, bel.frame _, fun h => by cases h⟩

theorem over : Rows.clockPlaysRow.holds Try.pinned (OpenSpec.ofChange Rows.clockPlaysSpec) :=
  OpenClaim.holds_of_wide 3 Try.f3 rfl rfl rfl rfl rfl rfl rfl ⟨rfl, rfl, rfl, rfl, rfl⟩ rfl rfl rfl rfl rfl (by kernel_rfl) Try.func3 (by kernel_rfl)
    (of_decide_eq_true (by kernel_rfl)) (by unfold Func.isWrapper; first | (rw [if_pos (by decide +kernel)]; kernel_rfl) | (rw [if_neg (by decide +kernel)]; exact ⟨rfl, rfl⟩))
    (fun os started H enc _ => lifted os started H enc)

/-- ████ THE STATEMENT ████ -/
theorem proved : Rows.ClockPlaysSaid :=
  over
#print axioms proved
end Go.Proofs.Ytoljkjajfmafaaa.clockPlays

