/- Walk: the statement that deeds and programs are as the document tells them. -/
import Derived.Test.YthchcnbgjklbhaaDoorRfParse
import Derived.Test.YthchcnbgjklbhaaDoorRfCheck
import Derived.Test.YthchcnbgjklbhaaDoorPgForth
import Derived.Test.YthchcnbgjklbhaaDoorPgThreads
namespace Go.Proofs.YthchcnbgjklbhaaDoor
open Go.RowKit
theorem weight5 {H : Type} {P : Program} {t0 t1 t2 t3 t4 : TypeId} {ts : List TypeId} {d0 d1 d2 d3 : DataW H} {l : List UInt8} {r : List (DataW H)}
    (h : (DataW.weightsEach P (t0 :: t1 :: t2 :: t3 :: t4 :: ts) (d0 :: d1 :: d2 :: d3 :: .lit (.string l) :: r)).all (· ≤ reachBytes) = true) : l.length ≤ 140737488355328 := by
  simp only [DataW.weightsEach, DataW.weights, List.all_append, Bool.and_eq_true, List.all_cons, decide_eq_true_eq] at h
  have h1 := h.2.2.2.2.1.1
  unfold reachBytes at h1
  omega
theorem ThreadsAt.take {w : World} {a : Option Addr} {n c m : Nat} {ths : List (List (List Pg.D))} (h : ThreadsAt w (.slice a n c) ths) (hm : m ≤ n) : ThreadsAt w (.slice a m c) (ths.take m) := by
  obtain ⟨h0, vs, h1, ⟨a', c', he, h2⟩, h3⟩ := h
  injection he with e1 e2 e3
  subst e1 e2 e3
  refine ⟨by rw [List.length_take]; omega, vs.take m, by rw [List.length_take, List.length_take, h1], ⟨a, c, by rw [List.length_take, Nat.min_eq_left hm], ?_⟩, fun j l hj => ?_⟩
  · rcases h2 with h2 | ⟨b, off, rfl, h2⟩
    · left; rw [h2]; simp
    · right
      refine ⟨b, off, rfl, fun j x hj => h2 j x ?_⟩
      rw [List.getElem?_take] at hj
      split at hj
      · exact hj
      · cases hj
  · rw [List.getElem?_take] at hj
    split at hj
    · rename_i hjm
      obtain ⟨u, hu, hb⟩ := h3 j l hj
      exact ⟨u, by rw [List.getElem?_take, if_pos hjm]; exact hu, hb⟩
    · cases hj
theorem ThreadsAt.len {w : World} {a : Option Addr} {n c : Nat} {ths : List (List (List Pg.D))} (h : ThreadsAt w (.slice a n c) ths) : n = ths.length := by
  obtain ⟨_, vs, _, ⟨a', c', he, _⟩, _⟩ := h
  injection he
theorem right_val (k a b i n : Int) {r : Bool} (h : Pg.right ⟨k, a, b, i, n⟩ = r) (w : World) : Calls Tryd.prog 15 #[.agg #[.int .i64 k, .int .i64 a, .int .i64 b, .int .i64 i, .int .i64 n]] w fun e w' =>
    e = .returned (.bool r) ∧ Below w.heap.size w w' := by
  have h1 := right_any k a b i n w
  rw [h] at h1
  exact h1
theorem print_val (k a b i n : Int) {s : ByteArray} {p : Int} (hs : s = strB (printed ⟨k, a, b, i, n⟩)) (hp : p = printE ⟨k, a, b, i, n⟩) (w : World) (hE : Env w) : Calls Tryd.prog 11 #[.agg #[.int .i64 k, .int .i64 a, .int .i64 b, .int .i64 i, .int .i64 n]] w fun e w' =>
    e = .returned (.tuple #[.string s, .int .i64 p]) ∧ Below w.heap.size w w' := by
  rw [hs, hp]; exact print_any k a b i n w hE
theorem rprint_val (k a b i n : Int) {s : ByteArray} {p : Int} (hs : s = strB (printed ⟨k, a, b, i, n⟩)) (hp : p = printE ⟨k, a, b, i, n⟩) (w : World) : Calls Tryd.prog 12 #[.agg #[.int .i64 k, .int .i64 a, .int .i64 b, .int .i64 i, .int .i64 n]] w fun e w' =>
    e = .returned (.tuple #[.string s, .int .i64 p]) ∧ Below w.heap.size w w' := by
  rw [hs, hp]; exact rprint_any k a b i n w
theorem check_val {v : Value} {ths : List (List (List Pg.D))} {w : World} (h : ThreadsAt w v ths) {r : Int} {x y z : Nat} (hr : check ths = (r, x, y, z)) :
    Calls Tryd.prog 13 #[v] w fun e w' => e = .returned (.tuple #[.int .i64 r, .agg #[.int .i64 x, .int .i64 y, .int .i64 z]]) ∧ Below w.heap.size w w' := by
  have h1 := check_any v ths w h
  unfold CheckSaid at h1
  rw [hr] at h1
  exact h1
theorem rcheck_val {v : Value} {ths : List (List (List Pg.D))} {w : World} (h : ThreadsAt w v ths) {r : Int} {x y z : Nat} (hr : check ths = (r, x, y, z)) :
    Calls Tryd.prog 14 #[v] w fun e w' => e = .returned (.tuple #[.int .i64 r, .agg #[.int .i64 x, .int .i64 y, .int .i64 z]]) ∧ Below w.heap.size w w' := by
  have h1 := rcheck_any v ths w h
  unfold RCheckSaid at h1
  rw [hr] at h1
  exact h1
theorem parse_val (s : ByteArray) (hs : s.size ≤ 200) {k a b i n p : Int} (hd : parsed s.data.toList = ⟨k, a, b, i, n⟩) (hp : parseE s.data.toList = p) (w : World) (hE : Env w) :
    Calls Tryd.prog 18 #[.string s] w fun e w' => e = .returned (.tuple #[.agg #[.int .i64 k, .int .i64 a, .int .i64 b, .int .i64 i, .int .i64 n], .int .i64 p]) ∧ Below w.heap.size w w' := by
  have h' := parse_any s (by omega) w hE
  unfold ParseEnd at h'
  rw [hd, hp] at h'
  exact h'
theorem rparse_val (s : ByteArray) (hs : s.size ≤ 200) {k a b i n p : Int} (hd : parsed s.data.toList = ⟨k, a, b, i, n⟩) (hp : parseE s.data.toList = p) (w : World) :
    Calls Tryd.prog 19 #[.string s] w fun e w' => e = .returned (.tuple #[.agg #[.int .i64 k, .int .i64 a, .int .i64 b, .int .i64 i, .int .i64 n], .int .i64 p]) ∧ Below w.heap.size w w' := by
  have h' := rparse_any s hs w
  unfold RParseEnd at h'
  rw [hd, hp] at h'
  exact h'
set_option maxRecDepth 100000 in
set_option maxHeartbeats 8000000 in
theorem tells_any (d : Pg.D) (v : Value) (ths : List (List (List Pg.D))) (s0 : ByteArray) (z : Int) (more : ByteArray) (h : DI d) (w : World) (hth : ThreadsAt w v ths) (hso : SlOk v) (hz : I64 z) (hmo : more.size ≤ 140737488355328) (hE : Env w) :
    Calls Tryd.prog 3 #[.agg #[.int .i64 d.k, .int .i64 d.a, .int .i64 d.b, .int .i64 d.i, .int .i64 d.n], v, .string s0, .int .i64 z, .string more] w
      fun e w' => e = .returned (.bool true) ∧ Below w.heap.size w w' := by
  obtain ⟨k, a, b, i, n, hx⟩ : ∃ k a b i n, fit d = ⟨k, a, b, i, n⟩ := ⟨_, _, _, _, _, rfl⟩
  have hr := fit_right d
  rw [hx] at hr
  obtain ⟨s, hs⟩ : ∃ s, s = strB (Pg.print ⟨k, a, b, i, n⟩) := ⟨_, rfl⟩
  have hl := print_len hr
  have hsz : s.size = (Pg.print ⟨k, a, b, i, n⟩).length := by rw [hs, strB_size]
  rw [← hsz] at hl
  obtain ⟨hl1, hl2⟩ := hl
  have hsp : s = strB (printed ⟨k, a, b, i, n⟩) := by rw [hs]; unfold printed; rw [if_pos hr]
  have hs0 : (0 : Int) = printE ⟨k, a, b, i, n⟩ := by unfold printE; rw [if_pos hr]
  obtain ⟨p, hp, hp1⟩ : ∃ p : Nat, pk z ((s.size : Int) + 1) = p ∧ p ≤ s.size := ⟨(pk z ((s.size : Int) + 1)).toNat, by have := pk_lo z ((s.size : Int) + 1) (by omega); omega, by have := pk_hi z ((s.size : Int) + 1) (by omega); omega⟩
  obtain ⟨m, hm, hm1, hm2⟩ : ∃ m : Nat, min ((p : Int) + (more.size : Int)) (s.size : Int) = m ∧ m ≤ s.size ∧ p ≤ m := ⟨(min ((p : Int) + (more.size : Int)) (s.size : Int)).toNat, by omega, by omega, by omega⟩
  obtain ⟨td, htd⟩ : ∃ t, t = strB (printed ⟨d.k, d.a, d.b, d.i, d.n⟩) := ⟨_, rfl⟩
  obtain ⟨pd, hpd⟩ : ∃ t, t = printE ⟨d.k, d.a, d.b, d.i, d.n⟩ := ⟨_, rfl⟩
  obtain ⟨rd, hrd⟩ : ∃ t, Pg.right ⟨d.k, d.a, d.b, d.i, d.n⟩ = t := ⟨_, rfl⟩
  obtain ⟨va, vn, vc, rfl, hnc, hcm⟩ := hso
  unfold maxLen at hcm
  have HE := Lib.hid hE
  have HX := Lib.hid hx
  have HR := Lib.hid hr
  have HS := Lib.hid hsp
  have HS0 := Lib.hid hs0
  have HH := Lib.hid h
  have HP := Lib.hid hp
  have HM := Lib.hid hm
  have HTD := Lib.hid htd
  have HPD := Lib.hid hpd
  have HRD := Lib.hid hrd
  have HT := Lib.hid hth
  clear hE hx hr hs hsp hs0 h hp hsz htd hpd hrd hth hm
  go_enter Tryd.func3, Tryd.ntmps3
  go_wp2_with fail
  refine (awake_any _ (HE.out.below (balloc (Below.refl _ _) _))).mono ?_
  rintro e w1 ⟨rfl, hb1⟩
  have hD1 : Blk w1 w.heap.size #[.int .i64 d.k, .int .i64 d.a, .int .i64 d.b, .int .i64 d.i, .int .i64 d.n] 23 := (Blk.new_at _ _ _ _ _ rfl rfl).below hb1 (by simp)
  have hw1 : Below w.heap.size w w1 := btrans (balloc (Below.refl _ _) _) hb1
  clear hb1
  go_upto_if 35 with fail
  go_cut [1] (fun u wx => ∃ ths', wx = w1 ∧ ThreadsAt w1 u ths')
  case first =>
    by_cases h10 : 10 < vn
    · go_wp2_with fail
      go_meet
      exact ⟨ths.take 10, rfl, (HT.out.below hw1).take (by omega)⟩
    · go_wp2_with fail
      go_meet
      exact ⟨ths, rfl, HT.out.below hw1⟩
  case rest =>
    obtain ⟨ths', rfl, hT1⟩ := hcut
    have c1 := hD1.cell
    have s1 := hD1.lt
    go_wp2_with fail
    refine (fit_to d HH.out k a b i n HX.out _).mono ?_
    rintro e w2 ⟨rfl, hb2⟩
    have hw2 := btrans hw1 hb2
    have hD2 := hD1.below hb2 hD1.lt
    have hT2 := hT1.below hb2
    clear hb2 c1 s1 hw1 hD1 hT1
    have c2 := hD2.cell
    have s2 := hD2.lt
    go_wp2_with fail
    refine (print_val d.k d.a d.b d.i d.n HTD.out HPD.out _ (HE.out.below (balloc hw2 _))).mono ?_
    rintro e w3 ⟨rfl, hb3⟩
    have hX3 : Blk w3 w2.heap.size #[.int .i64 k, .int .i64 a, .int .i64 b, .int .i64 i, .int .i64 n] 23 := (Blk.new_at _ _ _ _ _ rfl rfl).below hb3 (by simp)
    have hw3 := btrans (balloc hw2 _) hb3
    have hD3 := (hD2.alloc _).below hb3 (hD2.alloc _).lt
    have hT3 := (hT2.below (balloc (Below.refl _ _) _)).below hb3
    obtain ⟨B, hB⟩ : ∃ B, B = w2.heap.size := ⟨_, rfl⟩
    rw [← hB] at hX3 ⊢
    clear hb3 c2 s2 hw2 hD2 hT2 hB
    have c3 := hD3.cell
    have s3 := hD3.lt
    go_wp2_with fail
    refine (rprint_val d.k d.a d.b d.i d.n HTD.out HPD.out _).mono ?_
    rintro e w4 ⟨rfl, hb4⟩
    have hw4 := btrans hw3 hb4
    have hD4 := hD3.below hb4 hD3.lt
    have hX4 := hX3.below hb4 hX3.lt
    have hT4 := hT3.below hb4
    clear hb4 c3 s3 hw3 hD3 hX3 hT3
    have c4 := hX4.cell
    have s4 := hX4.lt
    go_wp2_with fail
    refine (print_val k a b i n HS.out HS0.out _ (HE.out.below hw4)).mono ?_
    rintro e w5 ⟨rfl, hb5⟩
    have hw5 := btrans hw4 hb5
    have hD5 := hD4.below hb5 hD4.lt
    have hX5 := hX4.below hb5 hX4.lt
    have hT5 := hT4.below hb5
    clear hb5 c4 s4 hw4 hD4 hX4 hT4
    have c5 := hX5.cell
    have s5 := hX5.lt
    go_wp2_with fail
    refine (rprint_val k a b i n HS.out HS0.out _).mono ?_
    rintro e w6 ⟨rfl, hb6⟩
    have hw6 := btrans hw5 hb6
    have hD6 := hD5.below hb6 hD5.lt
    have hX6 := hX5.below hb6 hX5.lt
    have hT6 := hT5.below hb6
    clear hb6 c5 s5 hw5 hD5 hX5 hT5
    obtain ⟨r, x, y, q, hc⟩ : ∃ r x y q, check ths' = (r, x, y, q) := ⟨_, _, _, _, rfl⟩
    have HC := Lib.hid hc
    clear hc
    go_wp2_with fail
    refine (check_val hT6 HC.out).mono ?_
    rintro e w7 ⟨rfl, hb7⟩
    have hw7 := btrans hw6 hb7
    have hD7 := hD6.below hb7 hD6.lt
    have hX7 := hX6.below hb7 hX6.lt
    have hT7 := hT6.below hb7
    clear hb7 hw6 hD6 hX6 hT6
    go_wp2_with fail
    refine (rcheck_val (hT7.below (balloc (Below.refl _ _) _)) HC.out).mono ?_
    rintro e w8 ⟨rfl, hb8⟩
    have hw8 := btrans (balloc hw7 _) hb8
    have hD8 := (hD7.alloc _).below hb8 (hD7.alloc _).lt
    have hX8 := (hX7.alloc _).below hb8 (hX7.alloc _).lt
    have hA8 : Blk w8 w7.heap.size #[.int .i64 x, .int .i64 y, .int .i64 q] 30 := (Blk.new_at _ _ _ _ _ rfl rfl).below hb8 (by simp)
    obtain ⟨A, hA⟩ : ∃ A, A = w7.heap.size := ⟨_, rfl⟩
    rw [← hA] at hA8 ⊢
    clear hb8 hw7 hD7 hX7 hT7 hA
    obtain ⟨w9, hw9⟩ : ∃ w9, w9 = w8.alloc (.cells #[.int .i64 x, .int .i64 y, .int .i64 q] 30) := ⟨_, rfl⟩
    go_upto_region 11 with fail
    rw [← hw9]
    have kD : Blk w9 w.heap.size #[.int .i64 d.k, .int .i64 d.a, .int .i64 d.b, .int .i64 d.i, .int .i64 d.n] 23 := by rw [hw9]; exact hD8.alloc _
    have kX : Blk w9 B #[.int .i64 k, .int .i64 a, .int .i64 b, .int .i64 i, .int .i64 n] 23 := by rw [hw9]; exact hX8.alloc _
    have kA : Blk w9 A #[.int .i64 x, .int .i64 y, .int .i64 q] 30 := by rw [hw9]; exact hA8.alloc _
    obtain ⟨C, hC⟩ : ∃ C, C = w8.heap.size := ⟨_, rfl⟩
    have kC : Blk w9 C #[.int .i64 x, .int .i64 y, .int .i64 q] 30 := by rw [hw9, hC]; exact Blk.new _ _ _
    rw [← hC]
    have kb : Below w.heap.size w w9 := by rw [hw9]; exact balloc hw8 _
    clear hw9 hC hD8 hX8 hA8 hw8
    have lD := fun (e : Later w9) (i : Nat) => Later.cell kD e i
    have lX := fun (e : Later w9) (i : Nat) => Later.cell kX e i
    have lA := fun (e : Later w9) (i : Nat) => Later.cell kA e i
    have lC := fun (e : Later w9) (i : Nat) => Later.cell kC e i
    have hae := fun (w : World) => neq_arr3 w
    refine wp_region_later (by kernel_rfl) (by kernel_rfl) ?_
    repeat (go_big_quiet_step ((first | (go_at_call 16; with_reducible exact later_of (rright_val d.k d.a d.b d.i d.n HRD.out _)) | (go_at_call 15; first | with_reducible exact later_of (right_val d.k d.a d.b d.i d.n HRD.out _) | with_reducible exact later_of (right_val k a b i n HR.out _)))))
    refine wpQuiet_nil ?_
    rintro _ ⟨⟨wt, hbt⟩, rfl⟩
    have hwt := btrans kb hbt
    clear lD lX lA lC hae kD kX kA kC kb hbt
    go_wp2_with fail
    refine (pick_any z _ _ (by omega) (by omega) hz).mono ?_
    rw [HP.out]
    rintro e w3' ⟨rfl, rfl⟩
    have hm := HM.out
    go_upto_region 14 with fail
    go_cut [148, 149, 150] (fun vs vl vi wx => ∃ B z3 z4 z5, vs = .slice (some ⟨B, 0, none⟩) 5 5 ∧ vl = .int .i64 5 ∧ vi = .int .i64 0 ∧ w.heap.size ≤ B ∧ Blk wx B #[.string s0, .string s, .string z3, .string z4, .string z5] 9 ∧ Below w.heap.size w wx)
    case first =>
      go_region
      go_wp2_with fail
      go_meet
      exact ⟨_, _, _, _, rfl, rfl, rfl, hwt.size, drewB (Blk.new _ _ _), Below.drew (balloc hwt _)⟩
    case rest =>
      obtain ⟨B5, z3, z4, z5, rfl, rfl, rfl, hB, hZ, hwc⟩ := hcut
      clear hwt hm
      go_wp2_with fail
      go_loopw [150] (fun v wr => ∃ j : Nat, v = .int .i64 j ∧ j ≤ 5 ∧ Blk wr B5 #[.string s0, .string s, .string z3, .string z4, .string z5] 9 ∧ Below w.heap.size w wr) (fun v _ => 5 - (intOf v).toNat)
      case atStart => exact ⟨0, rfl, by omega, hZ, hwc⟩
      case round =>
        clear hZ hwc
        obtain ⟨j, rfl, hj, hZ, hwr⟩ := hrel
        obtain ⟨wo, rfl⟩ : ∃ wo : World, wo = wr := ⟨_, rfl⟩
        have hBl := hZ.lt
        by_cases hlt : j < 5
        · have hlt' : (j : Int) < 5 := by omega
          obtain ⟨y, hy⟩ : ∃ y : ByteArray, wo.cell? ⟨B5, j, none⟩ = some (.string y) := by
            rw [hZ.cell]
            match j, hlt with
            | 0, _ => exact ⟨s0, rfl⟩
            | 1, _ => exact ⟨s, rfl⟩
            | 2, _ => exact ⟨z3, rfl⟩
            | 3, _ => exact ⟨z4, rfl⟩
            | 4, _ => exact ⟨z5, rfl⟩
          by_cases hy2 : (200 : Int) < (y.size : Int)
          · go_wp2_with fail
            go_roundw
            case rel => exact ⟨j + 1, by simp, by omega, hZ, hwr⟩
            case measure => simp [intOf]; omega
          · have hy3 : (y.size : Int) ≤ 200 := by omega
            have hy4 : y.size ≤ 200 := by omega
            clear hy2
            obtain ⟨yk, ya, yb, yi, yn, hyd⟩ : ∃ k a b i n, parsed y.data.toList = ⟨k, a, b, i, n⟩ := ⟨_, _, _, _, _, rfl⟩
            obtain ⟨ye, hye⟩ : ∃ e, parseE y.data.toList = e := ⟨_, rfl⟩
            have HYD := Lib.hid hyd
            have HYE := Lib.hid hye
            clear hyd hye
            go_wp2_with fail
            refine (parse_val y hy4 HYD.out HYE.out _ (HE.out.below hwr)).mono ?_
            rintro e w5 ⟨rfl, hb5⟩
            have hw5 := btrans hwr hb5
            have hZ5 := hZ.below hb5 hZ.lt
            clear hb5 hwr hZ hy
            go_wp2_with fail
            refine (rparse_val y hy4 HYD.out HYE.out _).mono ?_
            rintro e w6 ⟨rfl, hb6⟩
            have hw6 := btrans (balloc hw5 _) hb6
            have hZ6 := (hZ5.alloc _).below hb6 (hZ5.alloc _).lt
            have hY6 : Blk w6 w5.heap.size #[.int .i64 yk, .int .i64 ya, .int .i64 yb, .int .i64 yi, .int .i64 yn] 23 := (Blk.new_at _ _ _ _ _ rfl rfl).below hb6 (by simp)
            obtain ⟨Y, hY⟩ : ∃ Y, Y = w5.heap.size := ⟨_, rfl⟩
            rw [← hY] at hY6 ⊢
            clear hb6 hw5 hZ5 hY
            have d6 := hY6.cell
            have t6 := hY6.lt
            go_wp2_with fail
            go_roundw
            case rel => exact ⟨j + 1, by simp, by omega, hZ6.alloc _, balloc hw6 _⟩
            case measure => simp [intOf]; omega
        · obtain rfl : j = 5 := by omega
          go_wp2_with fail
          go_ret
          exact ⟨rfl, hwr⟩
end Go.Proofs.YthchcnbgjklbhaaDoor
