/- Walk: the statement that Print undoes Parse. -/
import Derived.Test.YthchcnbgjklbhaaDoorPgLoosePure
import Derived.Deep.Cut
import Derived.Deep.DeepCutAuto
namespace Go.Proofs.YthchcnbgjklbhaaDoor
open Go.RowKit
theorem weight4 {H : Type} {P : Program} {t0 t1 t2 t3 : TypeId} {ts : List TypeId} {d0 d1 d2 : DataW H} {l : List UInt8} {r : List (DataW H)}
    (h : (DataW.weightsEach P (t0 :: t1 :: t2 :: t3 :: ts) (d0 :: d1 :: d2 :: .lit (.string l) :: r)).all (· ≤ reachBytes) = true) : l.length ≤ 140737488355328 := by
  simp only [DataW.weightsEach, DataW.weights, List.all_append, Bool.and_eq_true, List.all_cons, decide_eq_true_eq] at h
  have h1 := h.2.2.2.1.1
  unfold reachBytes at h1
  omega
theorem drewB {w : World} {b : Nat} {cs : Array Value} {t : TypeId} (h : Blk w b cs t) : Blk w.drew b cs t := h
theorem right_yes {k a b i n : Int} (h : Pg.right ⟨k, a, b, i, n⟩ = true) (w : World) :
    Calls Tryd.prog 15 #[.agg #[.int .i64 k, .int .i64 a, .int .i64 b, .int .i64 i, .int .i64 n]] w fun e w' => e = .returned (.bool true) ∧ Below w.heap.size w w' := by
  have h' := right_any k a b i n w
  rw [h] at h'
  exact h'
set_option maxRecDepth 100000 in
set_option maxHeartbeats 8000000 in
theorem forth_any (s0 : ByteArray) (d : Pg.D) (z : Int) (more : ByteArray) (h : I64 d.k ∧ I64 d.a ∧ I64 d.b ∧ I64 d.i ∧ I64 d.n) (hz : I64 z) (hmo : more.size ≤ 140737488355328) (w : World) (hE : Env w) :
    Calls Tryd.prog 5 #[.string s0, .agg #[.int .i64 d.k, .int .i64 d.a, .int .i64 d.b, .int .i64 d.i, .int .i64 d.n], .int .i64 z, .string more] w
      fun e w' => e = .returned (.bool true) ∧ Below w.heap.size w w' := by
  obtain ⟨k, a, b, i, n, hx⟩ : ∃ k a b i n, fit d = ⟨k, a, b, i, n⟩ := ⟨_, _, _, _, _, rfl⟩
  have hr := fit_right d
  rw [hx] at hr
  obtain ⟨s, hs⟩ : ∃ s, s = strB (Pg.print ⟨k, a, b, i, n⟩) := ⟨_, rfl⟩
  have hl := print_len hr
  have hsz : s.size = (Pg.print ⟨k, a, b, i, n⟩).length := by rw [hs, strB_size]
  rw [← hsz] at hl
  obtain ⟨hl1, hl2⟩ := hl
  obtain ⟨p, hp, hp1⟩ : ∃ p : Nat, pk z ((s.size : Int) + 1) = p ∧ p ≤ s.size := ⟨(pk z ((s.size : Int) + 1)).toNat, by have := pk_lo z ((s.size : Int) + 1) (by omega); omega, by have := pk_hi z ((s.size : Int) + 1) (by omega); omega⟩
  obtain ⟨m, hm, hm1, hm2⟩ : ∃ m : Nat, min ((p : Int) + (more.size : Int)) (s.size : Int) = m ∧ m ≤ s.size ∧ p ≤ m := ⟨(min ((p : Int) + (more.size : Int)) (s.size : Int)).toNat, by omega, by omega, by omega⟩
  have HE := Lib.hid hE
  have HX := Lib.hid hx
  have HR := Lib.hid hr
  have HS := Lib.hid hs
  have HH := Lib.hid h
  have HP := Lib.hid hp
  clear hE hx hr hs h hp hsz
  go_enter Tryd.func5, Tryd.ntmps5
  go_wp2_with fail
  refine (awake_any _ (HE.out.below (balloc (Below.refl _ _) _))).mono ?_
  rintro e w1 ⟨rfl, hb1⟩
  have hD1 : Blk w1 w.heap.size #[.int .i64 d.k, .int .i64 d.a, .int .i64 d.b, .int .i64 d.i, .int .i64 d.n] 23 := (Blk.new_at _ _ _ _ _ rfl rfl).below hb1 (by simp)
  have hw1 : Below w.heap.size w w1 := btrans (balloc (Below.refl _ _) _) hb1
  clear hb1
  have c1 := hD1.cell
  have s1 := hD1.lt
  go_wp2_with fail
  refine (fit_to d HH.out k a b i n HX.out _).mono ?_
  rintro e w2 ⟨rfl, hb2⟩
  have hw2 := btrans hw1 hb2
  clear hb2 c1 s1 hw1 hD1
  go_wp2_with fail
  refine (print_right HR.out HS.out _ (HE.out.below hw2)).mono ?_
  rintro e w3 ⟨rfl, hb3⟩
  have hw3 := btrans hw2 hb3
  clear hb3 hw2
  go_wp2_with fail
  refine (pick_any z _ _ (by omega) (by omega) hz).mono ?_
  rw [HP.out]
  rintro e w3' ⟨rfl, rfl⟩
  go_upto_region 4 with fail
  go_cut [56, 57, 58] (fun vs vl vi wx => ∃ B z2 z3, vs = .slice (some ⟨B, 0, none⟩) 3 3 ∧ vl = .int .i64 3 ∧ vi = .int .i64 0 ∧ w.heap.size ≤ B ∧ Blk wx B #[.string s0, .string z2, .string z3] 9 ∧ Below w.heap.size w wx)
  case first =>
    go_region
    go_wp2_with fail
    go_meet
    exact ⟨w3.heap.size, _, _, rfl, rfl, rfl, hw3.size, drewB (Blk.new w3 _ _), Below.drew (balloc hw3 _)⟩
  case rest =>
    obtain ⟨B, z2, z3, rfl, rfl, rfl, hB, hZ, hwc⟩ := hcut
    clear hw3
    go_wp2_with fail
    go_loopw [58] (fun v wr => ∃ j : Nat, v = .int .i64 j ∧ j ≤ 3 ∧ Blk wr B #[.string s0, .string z2, .string z3] 9 ∧ Below w.heap.size w wr) (fun v _ => 3 - (intOf v).toNat)
    case atStart => exact ⟨0, rfl, by omega, hZ, hwc⟩
    case round =>
      clear hZ hwc
      obtain ⟨j, rfl, hj, hZ, hwr⟩ := hrel
      obtain ⟨wo, rfl⟩ : ∃ wo : World, wo = wr := ⟨_, rfl⟩
      have hBl := hZ.lt
      by_cases hlt : j < 3
      · have hlt' : (j : Int) < 3 := by omega
        obtain ⟨y, hy⟩ : ∃ y : ByteArray, wo.cell? ⟨B, j, none⟩ = some (.string y) := by
          rw [hZ.cell]
          match j, hlt with
          | 0, _ => exact ⟨s0, rfl⟩
          | 1, _ => exact ⟨z2, rfl⟩
          | 2, _ => exact ⟨z3, rfl⟩
        by_cases hy2 : (200 : Int) < (y.size : Int)
        · go_wp2_with fail
          go_roundw
          case rel => exact ⟨j + 1, by simp, by omega, hZ, hwr⟩
          case measure => simp [intOf]; omega
        · have hy3 : (y.size : Int) ≤ 200 := by omega
          clear hy2
          cases hpt : Pg.parse y.data.toList with
          | none =>
            have HPT := Lib.hid hpt
            clear hpt
            go_wp2_with fail
            refine (parse_fails y HPT.out (by omega) _ (HE.out.below hwr)).mono ?_
            rintro e w5 ⟨rfl, hb5⟩
            have hw5 := btrans hwr hb5
            have hZ5 := hZ.below hb5 hZ.lt
            clear hb5 hwr hZ hy
            go_wp2_with fail
            go_roundw
            case rel => exact ⟨j + 1, by simp, by omega, hZ5.alloc _, balloc hw5 _⟩
            case measure => simp [intOf]; omega
          | some q =>
            obtain ⟨yk, ya, yb, yi, yn⟩ := q
            have hq := (Pg.parse_iff _ _).1 hpt
            have hys : y = strB (Pg.print ⟨yk, ya, yb, yi, yn⟩) := by rw [hq.2]; cases y; simp [strB]
            have HQ := Lib.hid hq.1
            have HPT := Lib.hid hpt
            have HYS := Lib.hid hys
            clear hpt hq hys
            go_wp2_with fail
            refine (parse_gives y HPT.out (by omega) _ (HE.out.below hwr)).mono ?_
            rintro e w5 ⟨rfl, hb5⟩
            have hw5 := btrans hwr hb5
            have hZ5 := hZ.below hb5 hZ.lt
            clear hb5 hwr hZ hy
            go_wp2_with fail
            refine (print_right HQ.out HYS.out _ (HE.out.below (balloc hw5 _))).mono ?_
            rintro e w6 ⟨rfl, hb6⟩
            have hw6 := btrans (balloc hw5 _) hb6
            have hZ6 := (hZ5.alloc _).below hb6 (hZ5.alloc _).lt
            have hY6 : Blk w6 w5.heap.size #[.int .i64 yk, .int .i64 ya, .int .i64 yb, .int .i64 yi, .int .i64 yn] 23 := (Blk.new_at _ _ _ _ _ rfl rfl).below hb6 (by simp)
            clear hb6 hw5 hZ5
            have d6 := hY6.cell
            have t6 := hY6.lt
            go_wp2_with fail
            refine (right_yes HQ.out _).mono ?_
            rintro e w7 ⟨rfl, hb7⟩
            have hw7 := btrans hw6 hb7
            have hZ7 := hZ6.below hb7 hZ6.lt
            clear hb7 hw6 hZ6 hY6 d6 t6
            go_wp2_with fail
            go_roundw
            case rel => exact ⟨j + 1, by simp, by omega, hZ7, hw7⟩
            case measure => simp [intOf]; omega
      · obtain rfl : j = 3 := by omega
        go_wp2_with fail
        go_ret
        exact ⟨rfl, hwr⟩
end Go.Proofs.YthchcnbgjklbhaaDoor
