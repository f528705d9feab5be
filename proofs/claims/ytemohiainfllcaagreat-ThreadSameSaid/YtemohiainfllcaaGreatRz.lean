/- Arrays of ints are compared by their numbers. -/
import Derived.Test.YtemohiainfllcaaGreatRa
import Derived.Test.YtemohiainfllcaaGreatRp
import Derived.Test.YtemohiainfllcaaGreatRo2
import Derived.ChangeKeysEq
import Derived.ChangeSlices
namespace Go.Proofs.YtemohiainfllcaaGreat
open Go.RowKit
section
variable {P : Program} (w : World)
theorem run_eqItems_ints {e : TypeId} (he : P.underlying e = some (.int .i64)) (hk : P.plainKey e = true) (d : Nat) (xs ys : List Int) :
    ∀ (is : List Nat), (∀ j ∈ is, j < xs.length ∧ j < ys.length) →
    (Op.eqItems (d + 1) e 1 (xs.map (Value.int .i64)).toArray (ys.map (Value.int .i64)).toArray is).run P w = .ok (is.all fun j => xs.getD j 0 == ys.getD j 0) w
  | [], _ => by simp [Op.eqItems]
  | j :: is, h => by
    obtain ⟨h1, h2⟩ := h j (by simp)
    have e1 : (xs.map (Value.int .i64)).toArray[j * 1]? = some (.int .i64 (xs.getD j 0)) := by simp [h1]
    have e2 : (ys.map (Value.int .i64)).toArray[j * 1]? = some (.int .i64 (ys.getD j 0)) := by simp [h2]
    have p1 := run_part_plain (P := P) (w := w) hk e1
    have p2 := run_part_plain (P := P) (w := w) hk e2
    have p3 := run_equalIn_int (P := P) w d e .i64 .i64 (xs.getD j 0) (ys.getD j 0) he
    simp only [Op.eqItems, Sem.run_bind, p1, p2, p3, Result.andThen_ok]
    have ih := run_eqItems_ints he hk d xs ys is fun k hk' => h k (by simp [hk'])
    cases hb : xs.getD j 0 == ys.getD j 0
    · simp only [Bool.not_false, if_true, Sem.run_pure, List.all_cons, hb, Bool.false_and]
    · simp only [Bool.not_true, Bool.false_eq_true, if_false, List.all_cons, hb, Bool.true_and]
      exact ih
theorem run_equalIn_ints {t e : TypeId} {n : Nat} {i : TypeInfo} (hu : P.underlying t = some (.array n e)) (he : P.underlying e = some (.int .i64)) (hk : P.plainKey e = true) (hi : P.info? e = some i) (hc : P.cellsOf e = 1)
    (d : Nat) (xs ys : List Int) (hx : xs.length = n) (hy : ys.length = n) :
    (Op.equalIn (d + 2) t (.agg (xs.map (Value.int .i64)).toArray) (.agg (ys.map (Value.int .i64)).toArray)).run P w = .ok ((List.range n).all fun j => xs.getD j 0 == ys.getD j 0) w := by
  rw [run_equalIn_array (P := P) w (d + 1) _ _ hu hi, hc]
  exact run_eqItems_ints w he hk d xs ys _ fun j hj => by have := List.mem_range.1 hj; omega
theorem run_eql_arr3 {t e : TypeId} {i : TypeInfo} (hu : P.underlying t = some (.array 3 e)) (he : P.underlying e = some (.int .i64)) (hk : P.plainKey e = true) (hi : P.info? e = some i) (hc : P.cellsOf e = 1) (a b c a' b' c' : Int) :
    (binOp .eql t (.agg #[.int .i64 a, .int .i64 b, .int .i64 c]) (.agg #[.int .i64 a', .int .i64 b', .int .i64 c'])).run P w = .ok (.bool (a == a' && b == b' && c == c')) w := by
  rw [run_eql_struct]
  have h := run_equalIn_ints (P := P) w hu he hk hi hc 9998 [a, b, c] [a', b', c'] rfl rfl
  simp only [List.map_cons, List.map_nil] at h
  rw [h]
  simp [Result.andThen, List.range_succ, Bool.and_assoc]
theorem run_neq_arr3 {t e : TypeId} {i : TypeInfo} (hu : P.underlying t = some (.array 3 e)) (he : P.underlying e = some (.int .i64)) (hk : P.plainKey e = true) (hi : P.info? e = some i) (hc : P.cellsOf e = 1) (a b c a' b' c' : Int) :
    (binOp .neq t (.agg #[.int .i64 a, .int .i64 b, .int .i64 c]) (.agg #[.int .i64 a', .int .i64 b', .int .i64 c'])).run P w = .ok (.bool (!(a == a' && b == b' && c == c'))) w := by
  rw [run_neq_struct]
  have h := run_equalIn_ints (P := P) w hu he hk hi hc 9998 [a, b, c] [a', b', c'] rfl rfl
  simp only [List.map_cons, List.map_nil] at h
  rw [h]
  simp [Result.andThen, List.range_succ, Bool.and_assoc]
end
theorem arr_info : (Tryz.prog.info? 3).isSome = true := by kernel_rfl
/-- [3]int, compared. -/
theorem eql_arr3 (w : World) (a b c a' b' c' : Int) :
    (binOp .eql 37 (.agg #[.int .i64 a, .int .i64 b, .int .i64 c]) (.agg #[.int .i64 a', .int .i64 b', .int .i64 c'])).run Tryz.prog w = .ok (.bool (a == a' && b == b' && c == c')) w := by
  obtain ⟨i, hi⟩ := Option.isSome_iff_exists.1 arr_info
  exact run_eql_arr3 w (by kernel_rfl) (by kernel_rfl) (by kernel_rfl) hi (by kernel_rfl) a b c a' b' c'
theorem neq_arr3 (w : World) (a b c a' b' c' : Int) :
    (binOp .neq 37 (.agg #[.int .i64 a, .int .i64 b, .int .i64 c]) (.agg #[.int .i64 a', .int .i64 b', .int .i64 c'])).run Tryz.prog w = .ok (.bool (!(a == a' && b == b' && c == c'))) w := by
  obtain ⟨i, hi⟩ := Option.isSome_iff_exists.1 arr_info
  exact run_neq_arr3 w (by kernel_rfl) (by kernel_rfl) (by kernel_rfl) hi (by kernel_rfl) a b c a' b' c'
end Go.Proofs.YtemohiainfllcaaGreat

/- Arguments that are threads, and lists of numbers; Ints. -/
namespace Go.Proofs.YtemohiainfllcaaGreat
open Go.RowKit Go.ChangeShapes Go.WideShapes Go.Deep Go.ChangeAt
attribute [local go_sem ↓] Go.wp_at_zero Go.wp_at_succ
set_option maxRecDepth 100000 in
set_option maxHeartbeats 1000000 in
theorem open_thread {H : Type} {enc : TypeId × Value → H} {w : World} {base : Nat} {spare : Nat → Bool} {held : Bool} {v : Value} {d : DataW H} {p : List MemPlace} (h : DataW.Trod enc Tryz.prog w base spare held 57 v d p)
    {r : Reach} {b0 : Nat} (hv : Value.okWide Tryz.prog w r b0 57 v) : ∃ t : ThV, v = t.v := by
  obtain ⟨cs, rfl, hsz⟩ := okWide_struct Tryz.underlying57 hv
  have hC : Tryz.prog.cellsOf 57 = 15 := by kernel_rfl
  have hI : Tryz.prog.cellsOf 3 = 1 := by kernel_rfl
  have hB : Tryz.prog.cellsOf 4 = 1 := by kernel_rfl
  have hA : Tryz.prog.cellsOf 55 = 6 := by kernel_rfl
  obtain ⟨l⟩ := cs
  obtain ⟨fuel, hf⟩ := h
  obtain ⟨ys, n', _, _, _, hlen, hg⟩ := DataW.trod_struct Tryz.underlying57 hf
  have hlen : ys.length = 5 := hlen
  match l, hsz.trans hC with
  | [c0, c1, c2, c3, c4, c5, c6, c7, c8, c9, c10, c11, c12, c13, c14], _ =>
    have g : ∀ j, j < 5 → ∃ y, ys[j]? = some y := fun j hj => ⟨_, List.getElem?_eq_getElem (by omega)⟩
    obtain ⟨y0, e0⟩ := g 0 (by omega)
    obtain ⟨y1, e1⟩ := g 1 (by omega)
    obtain ⟨y2, e2⟩ := g 2 (by omega)
    obtain ⟨y3, e3⟩ := g 3 (by omega)
    obtain ⟨y4, e4⟩ := g 4 (by omega)
    have h0 : DataW.trod enc Tryz.prog w base spare held n' 3 [c0] = some y0 := (hg 0 _ rfl).trans e0
    have h1 : DataW.trod enc Tryz.prog w base spare held n' 3 [c1] = some y1 := (hg 1 _ rfl).trans e1
    have h2 : DataW.trod enc Tryz.prog w base spare held n' 55 [c2, c3, c4, c5, c6, c7] = some y2 := (hg 2 _ rfl).trans e2
    have h3 : DataW.trod enc Tryz.prog w base spare held n' 55 [c8, c9, c10, c11, c12, c13] = some y3 := (hg 3 _ rfl).trans e3
    have h4 : DataW.trod enc Tryz.prog w base spare held n' 4 [c14] = some y4 := (hg 4 _ rfl).trans e4
    obtain ⟨zs2, n2, _, _, _, hl2, hz2⟩ := DataW.trod_array Tryz.underlying55 h2
    obtain ⟨zs3, n3, _, _, _, hl3, hz3⟩ := DataW.trod_array Tryz.underlying55 h3
    simp only [hI, Nat.mul_one] at hz2 hz3
    have one : ∀ (n : Nat) (c : Value) (y : DataW H × List MemPlace), DataW.trod enc Tryz.prog w base spare held n 3 [c] = some y → ∃ z : Int, c = .int .i64 z := fun n c y hy => by
      obtain ⟨z, q, _, _⟩ := DataW.trod_int Tryz.underlying3 hy
      simp only [List.cons.injEq, and_true] at q
      exact ⟨z, q⟩
    have g2 : ∀ j, j < 6 → ∃ y, zs2[j]? = some y := fun j hj => ⟨_, List.getElem?_eq_getElem (by omega)⟩
    have g3 : ∀ j, j < 6 → ∃ y, zs3[j]? = some y := fun j hj => ⟨_, List.getElem?_eq_getElem (by omega)⟩
    obtain ⟨z0, rfl⟩ := one _ _ _ h0
    obtain ⟨z1, rfl⟩ := one _ _ _ h1
    obtain ⟨u, hu⟩ := g2 0 (by omega)
    obtain ⟨r0, rfl⟩ := one _ c2 _ ((hz2 0 (by omega)).trans hu)
    obtain ⟨u, hu⟩ := g2 1 (by omega)
    obtain ⟨r1, rfl⟩ := one _ c3 _ ((hz2 1 (by omega)).trans hu)
    obtain ⟨u, hu⟩ := g2 2 (by omega)
    obtain ⟨r2, rfl⟩ := one _ c4 _ ((hz2 2 (by omega)).trans hu)
    obtain ⟨u, hu⟩ := g2 3 (by omega)
    obtain ⟨r3, rfl⟩ := one _ c5 _ ((hz2 3 (by omega)).trans hu)
    obtain ⟨u, hu⟩ := g2 4 (by omega)
    obtain ⟨r4, rfl⟩ := one _ c6 _ ((hz2 4 (by omega)).trans hu)
    obtain ⟨u, hu⟩ := g2 5 (by omega)
    obtain ⟨r5, rfl⟩ := one _ c7 _ ((hz2 5 (by omega)).trans hu)
    obtain ⟨u, hu⟩ := g3 0 (by omega)
    obtain ⟨s0, rfl⟩ := one _ c8 _ ((hz3 0 (by omega)).trans hu)
    obtain ⟨u, hu⟩ := g3 1 (by omega)
    obtain ⟨s1, rfl⟩ := one _ c9 _ ((hz3 1 (by omega)).trans hu)
    obtain ⟨u, hu⟩ := g3 2 (by omega)
    obtain ⟨s2, rfl⟩ := one _ c10 _ ((hz3 2 (by omega)).trans hu)
    obtain ⟨u, hu⟩ := g3 3 (by omega)
    obtain ⟨s3, rfl⟩ := one _ c11 _ ((hz3 3 (by omega)).trans hu)
    obtain ⟨u, hu⟩ := g3 4 (by omega)
    obtain ⟨s4, rfl⟩ := one _ c12 _ ((hz3 4 (by omega)).trans hu)
    obtain ⟨u, hu⟩ := g3 5 (by omega)
    obtain ⟨s5, rfl⟩ := one _ c13 _ ((hz3 5 (by omega)).trans hu)
    obtain ⟨bv, q, _⟩ := DataW.trod_bool Tryz.underlying4 h4
    simp only [List.cons.injEq, and_true] at q
    subst q
    exact ⟨⟨z0, z1, ⟨r0, r1, r2, r3, r4, r5⟩, ⟨s0, s1, s2, s3, s4, s5⟩, bv⟩, rfl⟩
theorem heq6 (w : World) (a0 a1 a2 a3 a4 a5 : Int) : (Op.equalIn 9999 55 (.agg #[.int .i64 a0, .int .i64 a1, .int .i64 a2, .int .i64 a3, .int .i64 a4, .int .i64 a5]) (.agg #[.int .i64 a0, .int .i64 a1, .int .i64 a2, .int .i64 a3, .int .i64 a4, .int .i64 a5])).run Tryz.prog w = .ok true w := by
  obtain ⟨i, hi⟩ := Option.isSome_iff_exists.1 arr_info
  have h := run_equalIn_ints (P := Tryz.prog) w (t := 55) (e := 3) (n := 6) (by kernel_rfl) (by kernel_rfl) (by kernel_rfl) hi (by kernel_rfl) 9997 [a0, a1, a2, a3, a4, a5] [a0, a1, a2, a3, a4, a5] rfl rfl
  simp only [List.map_cons, List.map_nil] at h
  rw [h]
  simp
/-- A list of numbers in memory. -/
def IntsAt (w : World) (v : Value) (l : List Int) : Prop :=
  ∃ a c, v = .slice a l.length c ∧ l.length ≤ c ∧ l.length ≤ maxLen ∧ (l = [] ∨ ∃ b off, a = some ⟨b, off, none⟩ ∧ ∀ (j : Nat) (z : Int), l[j]? = some z → w.cell? ⟨b, off + j, none⟩ = some (.int .i64 z))
set_option maxRecDepth 100000 in
theorem open_intsl {H : Type} {enc : TypeId × Value → H} {w : World} {base : Nat} {spare : Nat → Bool} {held : Bool} {v : Value} {d : DataW H} {p : List MemPlace} (h : DataW.Trod enc Tryz.prog w base spare held 24 v d p)
    {r : Reach} {b0 : Nat} (hv : Value.okWide Tryz.prog w r b0 24 v) : ∃ l, IntsAt w v l := by
  obtain ⟨fuel, h⟩ := h
  obtain ⟨a, n, c, rfl⟩ := okWide_slice Tryz.underlying24 hv
  have h' : DataW.trod enc Tryz.prog w base spare held fuel 24 [.slice a n c] = some (d, p) := h
  rcases open_ints Tryz.underlying24 Tryz.underlying3 (by kernel_rfl) h' with ⟨hcs, _⟩ | ⟨a, len, cap, zs, hcs, _, hle, hcm, hzl, _, hz, _⟩
  · simp only [List.cons.injEq, and_true] at hcs
    exact ⟨[], none, 0, hcs, Nat.le_refl _, by simp, .inl rfl⟩
  · simp only [List.cons.injEq, and_true] at hcs
    have hlz : len ≤ zs.length := by rw [hzl]; split <;> omega
    have htl : (zs.take len).length = len := by rw [List.length_take]; omega
    refine ⟨zs.take len, some a, cap, by rw [htl]; exact hcs, by omega, by omega, ?_⟩
    by_cases h0 : len = 0
    · left; subst h0; simp
    · right
      have hc0 := hz 0 (by omega)
      have ha0 : a.add 0 = a := by unfold Addr.add; simp
      rw [ha0] at hc0
      have hp := addr_plain hc0
      refine ⟨a.block, a.off, by rw [← hp], fun j z hj => ?_⟩
      have hjl : j < len := by have := (List.getElem?_eq_some_iff.1 hj).1; omega
      have hc := hz j (by omega)
      rw [hp, add_plain] at hc
      rw [List.getElem?_take, if_pos hjl] at hj
      rw [List.getD_eq_getElem?_getD, hj] at hc
      exact hc
set_option maxHeartbeats 2000000 in
theorem ints_any (n : Nat) (hn : n ≤ 4096) (g1 o1 c1 g2 o2 c2 : Nat) (z : Nat → Int) (w : World) (h1 : ∀ j, j < n → w.cell? ⟨g1, o1 + j, none⟩ = some (.int .i64 (z j))) (h2 : ∀ j, j < n → w.cell? ⟨g2, o2 + j, none⟩ = some (.int .i64 (z j))) :
    Calls Tryz.prog 33 #[.slice (some ⟨g1, o1, none⟩) n c1, .slice (some ⟨g2, o2, none⟩) n c2] w fun e w' => e = .returned (.bool true) ∧ Below w.heap.size w w' := by
  have H1 := Lib.hid h1
  have H2 := Lib.hid h2
  clear h1 h2
  go_enter Tryz.func33, Tryz.ntmps33
  go_wp2_with fail
  go_loopw [5] (fun ix wr => ∃ j : Nat, ix = .int .i64 j ∧ j ≤ n ∧ Below w.heap.size w wr) (fun ix _ => n - (intOf ix).toNat)
  case atStart => exact ⟨0, rfl, by omega, bsame w⟩
  case round =>
    obtain ⟨j, rfl, hj, hb⟩ := hrel
    obtain ⟨wo, rfl⟩ : ∃ wo : World, wo = wr := ⟨_, rfl⟩
    by_cases hlt : j < n
    · have jI : (j : Int) < (n : Int) := by omega
      have k1 := H1.out j hlt
      have k2 := H2.out j hlt
      have k1 := (hb.cell (p := ⟨g1, o1 + j, none⟩) (cell_in k1)).trans k1
      have k2 := (hb.cell (p := ⟨g2, o2 + j, none⟩) (cell_in k2)).trans k2
      go_upto_region 6 with fail
      go_quiet (fail)
      go_wp2_with fail
      go_roundw
      case rel => exact ⟨j + 1, by simp, by omega, btrans hb (bdrewN (bsame _) _)⟩
      case measure => simp [intOf]; omega
    · obtain rfl : j = n := by omega
      go_wp2_with fail
      go_ret
      exact ⟨rfl, hb⟩
end Go.Proofs.YtemohiainfllcaaGreat
