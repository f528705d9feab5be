/- Arrays of ints are compared by their numbers. -/
import Derived.Test.YtemohiainfllcaaGreatJa
import Derived.Test.YtemohiainfllcaaGreatMb
import Derived.Test.YtemohiainfllcaaGreatKp
import Derived.Test.YtemohiainfllcaaGreatMl
import Derived.ChangeKeysEq
import Derived.ChangeSlices
namespace Go.Proofs.YtemohiainfllcaaGreat
open Go.RowKit
section
variable {P : Program} (w : World)
theorem run_eqItems_ints {e : TypeId} (he : P.underlying e = some (.int .i64)) (hk : P.plainKey e = true) (d : Nat) (xs ys : List Int) :
    ∀ (is : List Nat), (∀ j ∈ is, j < xs.length ∧ j < ys.length) →
    (Op.eqItems (d + 1) e 1 (xs.map (Value.int .i64)).toArray (ys.map (Value.int .i64)).toArray is).run P w = .ok (is.all fun j => xs.getD j 0 == ys.getD j 0) w
  | [], _ => by simp [Op.eqItems]
  | j :: is, h => by
    obtain ⟨h1, h2⟩ := h j (by simp)
    have e1 : (xs.map (Value.int .i64)).toArray[j * 1]? = some (.int .i64 (xs.getD j 0)) := by simp [h1]
    have e2 : (ys.map (Value.int .i64)).toArray[j * 1]? = some (.int .i64 (ys.getD j 0)) := by simp [h2]
    have p1 := run_part_plain (P := P) (w := w) hk e1
    have p2 := run_part_plain (P := P) (w := w) hk e2
    have p3 := run_equalIn_int (P := P) w d e .i64 .i64 (xs.getD j 0) (ys.getD j 0) he
    simp only [Op.eqItems, Sem.run_bind, p1, p2, p3, Result.andThen_ok]
    have ih := run_eqItems_ints he hk d xs ys is fun k hk' => h k (by simp [hk'])
    cases hb : xs.getD j 0 == ys.getD j 0
    · simp only [Bool.not_false, if_true, Sem.run_pure, List.all_cons, hb, Bool.false_and]
    · simp only [Bool.not_true, Bool.false_eq_true, if_false, List.all_cons, hb, Bool.true_and]
      exact ih
theorem run_equalIn_ints {t e : TypeId} {n : Nat} {i : TypeInfo} (hu : P.underlying t = some (.array n e)) (he : P.underlying e = some (.int .i64)) (hk : P.plainKey e = true) (hi : P.info? e = some i) (hc : P.cellsOf e = 1)
    (d : Nat) (xs ys : List Int) (hx : xs.length = n) (hy : ys.length = n) :
    (Op.equalIn (d + 2) t (.agg (xs.map (Value.int .i64)).toArray) (.agg (ys.map (Value.int .i64)).toArray)).run P w = .ok ((List.range n).all fun j => xs.getD j 0 == ys.getD j 0) w := by
  rw [run_equalIn_array (P := P) w (d + 1) _ _ hu hi, hc]
  exact run_eqItems_ints w he hk d xs ys _ fun j hj => by have := List.mem_range.1 hj; omega
theorem run_eql_arr3 {t e : TypeId} {i : TypeInfo} (hu : P.underlying t = some (.array 3 e)) (he : P.underlying e = some (.int .i64)) (hk : P.plainKey e = true) (hi : P.info? e = some i) (hc : P.cellsOf e = 1) (a b c a' b' c' : Int) :
    (binOp .eql t (.agg #[.int .i64 a, .int .i64 b, .int .i64 c]) (.agg #[.int .i64 a', .int .i64 b', .int .i64 c'])).run P w = .ok (.bool (a == a' && b == b' && c == c')) w := by
  rw [run_eql_struct]
  have h := run_equalIn_ints (P := P) w hu he hk hi hc 9998 [a, b, c] [a', b', c'] rfl rfl
  simp only [List.map_cons, List.map_nil] at h
  rw [h]
  simp [Result.andThen, List.range_succ, Bool.and_assoc]
theorem run_neq_arr3 {t e : TypeId} {i : TypeInfo} (hu : P.underlying t = some (.array 3 e)) (he : P.underlying e = some (.int .i64)) (hk : P.plainKey e = true) (hi : P.info? e = some i) (hc : P.cellsOf e = 1) (a b c a' b' c' : Int) :
    (binOp .neq t (.agg #[.int .i64 a, .int .i64 b, .int .i64 c]) (.agg #[.int .i64 a', .int .i64 b', .int .i64 c'])).run P w = .ok (.bool (!(a == a' && b == b' && c == c'))) w := by
  rw [run_neq_struct]
  have h := run_equalIn_ints (P := P) w hu he hk hi hc 9998 [a, b, c] [a', b', c'] rfl rfl
  simp only [List.map_cons, List.map_nil] at h
  rw [h]
  simp [Result.andThen, List.range_succ, Bool.and_assoc]
end
theorem arr_info : (Tryz.prog.info? 3).isSome = true := by kernel_rfl
/-- [3]int, compared. -/
theorem eql_arr3 (w : World) (a b c a' b' c' : Int) :
    (binOp .eql 37 (.agg #[.int .i64 a, .int .i64 b, .int .i64 c]) (.agg #[.int .i64 a', .int .i64 b', .int .i64 c'])).run Tryz.prog w = .ok (.bool (a == a' && b == b' && c == c')) w := by
  obtain ⟨i, hi⟩ := Option.isSome_iff_exists.1 arr_info
  exact run_eql_arr3 w (by kernel_rfl) (by kernel_rfl) (by kernel_rfl) hi (by kernel_rfl) a b c a' b' c'
theorem neq_arr3 (w : World) (a b c a' b' c' : Int) :
    (binOp .neq 37 (.agg #[.int .i64 a, .int .i64 b, .int .i64 c]) (.agg #[.int .i64 a', .int .i64 b', .int .i64 c'])).run Tryz.prog w = .ok (.bool (!(a == a' && b == b' && c == c'))) w := by
  obtain ⟨i, hi⟩ := Option.isSome_iff_exists.1 arr_info
  exact run_neq_arr3 w (by kernel_rfl) (by kernel_rfl) (by kernel_rfl) hi (by kernel_rfl) a b c a' b' c'
end Go.Proofs.YtemohiainfllcaaGreat

/- Arguments that are threads, and lists of numbers; Ints. -/
namespace Go.Proofs.YtemohiainfllcaaGreat
open Go.RowKit Go.ChangeShapes Go.WideShapes Go.Deep Go.ChangeAt
attribute [local go_sem ↓] Go.wp_at_zero Go.wp_at_succ
set_option maxRecDepth 100000 in
set_option maxHeartbeats 1000000 in
theorem open_thread {H : Type} {enc : TypeId × Value → H} {w : World} {base : Nat} {spare : Nat → Bool} {held : Bool} {v : Value} {d : DataW H} {p : List MemPlace} (h : DataW.Trod enc Tryz.prog w base spare held 57 v d p)
    {r : Reach} {b0 : Nat} (hv : Value.okWide Tryz.prog w r b0 57 v) : ∃ t : ThV, v = t.v := by
  obtain ⟨cs, rfl, hsz⟩ := okWide_struct Tryz.underlying57 hv
  have hC : Tryz.prog.cellsOf 57 = 15 := by kernel_rfl
  have hI : Tryz.prog.cellsOf 3 = 1 := by kernel_rfl
  have hB : Tryz.prog.cellsOf 4 = 1 := by kernel_rfl
  have hA : Tryz.prog.cellsOf 55 = 6 := by kernel_rfl
  obtain ⟨l⟩ := cs
  obtain ⟨fuel, hf⟩ := h
  obtain ⟨ys, n', _, _, _, hlen, hg⟩ := DataW.trod_struct Tryz.underlying57 hf
  have hlen : ys.length = 5 := hlen
  match l, hsz.trans hC with
  | [c0, c1, c2, c3, c4, c5, c6, c7, c8, c9, c10, c11, c12, c13, c14], _ =>
    have g : ∀ j, j < 5 → ∃ y, ys[j]? = some y := fun j hj => ⟨_, List.getElem?_eq_getElem (by omega)⟩
    obtain ⟨y0, e0⟩ := g 0 (by omega)
    obtain ⟨y1, e1⟩ := g 1 (by omega)
    obtain ⟨y2, e2⟩ := g 2 (by omega)
    obtain ⟨y3, e3⟩ := g 3 (by omega)
    obtain ⟨y4, e4⟩ := g 4 (by omega)
    have h0 : DataW.trod enc Tryz.prog w base spare held n' 3 [c0] = some y0 := (hg 0 _ rfl).trans e0
    have h1 : DataW.trod enc Tryz.prog w base spare held n' 3 [c1] = some y1 := (hg 1 _ rfl).trans e1
    have h2 : DataW.trod enc Tryz.prog w base spare held n' 55 [c2, c3, c4, c5, c6, c7] = some y2 := (hg 2 _ rfl).trans e2
    have h3 : DataW.trod enc Tryz.prog w base spare held n' 55 [c8, c9, c10, c11, c12, c13] = some y3 := (hg 3 _ rfl).trans e3
    have h4 : DataW.trod enc Tryz.prog w base spare held n' 4 [c14] = some y4 := (hg 4 _ rfl).trans e4
    obtain ⟨zs2, n2, _, _, _, hl2, hz2⟩ := DataW.trod_array Tryz.underlying55 h2
    obtain ⟨zs3, n3, _, _, _, hl3, hz3⟩ := DataW.trod_array Tryz.underlying55 h3
    simp only [hI, Nat.mul_one] at hz2 hz3
    have one : ∀ (n : Nat) (c : Value) (y : DataW H × List MemPlace), DataW.trod enc Tryz.prog w base spare held n 3 [c] = some y → ∃ z : Int, c = .int .i64 z := fun n c y hy => by
      obtain ⟨z, q, _, _⟩ := DataW.trod_int Tryz.underlying3 hy
      simp only [List.cons.injEq, and_true] at q
      exact ⟨z, q⟩
    have g2 : ∀ j, j < 6 → ∃ y, zs2[j]? = some y := fun j hj => ⟨_, List.getElem?_eq_getElem (by omega)⟩
    have g3 : ∀ j, j < 6 → ∃ y, zs3[j]? = some y := fun j hj => ⟨_, List.getElem?_eq_getElem (by omega)⟩
    obtain ⟨z0, rfl⟩ := one _ _ _ h0
    obtain ⟨z1, rfl⟩ := one _ _ _ h1
    obtain ⟨u, hu⟩ := g2 0 (by omega)
    obtain ⟨r0, rfl⟩ := one _ c2 _ ((hz2 0 (by omega)).trans hu)
    obtain ⟨u, hu⟩ := g2 1 (by omega)
    obtain ⟨r1, rfl⟩ := one _ c3 _ ((hz2 1 (by omega)).trans hu)
    obtain ⟨u, hu⟩ := g2 2 (by omega)
    obtain ⟨r2, rfl⟩ := one _ c4 _ ((hz2 2 (by omega)).trans hu)
    obtain ⟨u, hu⟩ := g2 3 (by omega)
    obtain ⟨r3, rfl⟩ := one _ c5 _ ((hz2 3 (by omega)).trans hu)
    obtain ⟨u, hu⟩ := g2 4 (by omega)
    obtain ⟨r4, rfl⟩ := one _ c6 _ ((hz2 4 (by omega)).trans hu)
    obtain ⟨u, hu⟩ := g2 5 (by omega)
    obtain ⟨r5, rfl⟩ := one _ c7 _ ((hz2 5 (by omega)).trans hu)
    obtain ⟨u, hu⟩ := g3 0 (by omega)
    obtain ⟨s0, rfl⟩ := one _ c8 _ ((hz3 0 (by omega)).trans hu)
    obtain ⟨u, hu⟩ := g3 1 (by omega)
    obtain ⟨s1, rfl⟩ := one _ c9 _ ((hz3 1 (by omega)).trans hu)
    obtain ⟨u, hu⟩ := g3 2 (by omega)
    obtain ⟨s2, rfl⟩ := one _ c10 _ ((hz3 2 (by omega)).trans hu)
    obtain ⟨u, hu⟩ := g3 3 (by omega)
    obtain ⟨s3, rfl⟩ := one _ c11 _ ((hz3 3 (by omega)).trans hu)
    obtain ⟨u, hu⟩ := g3 4 (by omega)
    obtain ⟨s4, rfl⟩ := one _ c12 _ ((hz3 4 (by omega)).trans hu)
    obtain ⟨u, hu⟩ := g3 5 (by omega)
    obtain ⟨s5, rfl⟩ := one _ c13 _ ((hz3 5 (by omega)).trans hu)
    obtain ⟨bv, q, _⟩ := DataW.trod_bool Tryz.underlying4 h4
    simp only [List.cons.injEq, and_true] at q
    subst q
    exact ⟨⟨z0, z1, ⟨r0, r1, r2, r3, r4, r5⟩, ⟨s0, s1, s2, s3, s4, s5⟩, bv⟩, rfl⟩
theorem heq6 (w : World) (a0 a1 a2 a3 a4 a5 : Int) : (Op.equalIn 9999 55 (.agg #[.int .i64 a0, .int .i64 a1, .int .i64 a2, .int .i64 a3, .int .i64 a4, .int .i64 a5]) (.agg #[.int .i64 a0, .int .i64 a1, .int .i64 a2, .int .i64 a3, .int .i64 a4, .int .i64 a5])).run Tryz.prog w = .ok true w := by
  obtain ⟨i, hi⟩ := Option.isSome_iff_exists.1 arr_info
  have h := run_equalIn_ints (P := Tryz.prog) w (t := 55) (e := 3) (n := 6) (by kernel_rfl) (by kernel_rfl) (by kernel_rfl) hi (by kernel_rfl) 9997 [a0, a1, a2, a3, a4, a5] [a0, a1, a2, a3, a4, a5] rfl rfl
  simp only [List.map_cons, List.map_nil] at h
  rw [h]
  simp
/-- A list of numbers in memory. -/
def IntsAt (w : World) (v : Value) (l : List Int) : Prop :=
  ∃ a c, v = .slice a l.length c ∧ l.length ≤ c ∧ l.length ≤ maxLen ∧ (l = [] ∨ ∃ b off, a = some ⟨b, off, none⟩ ∧ ∀ (j : Nat) (z : Int), l[j]? = some z → w.cell? ⟨b, off + j, none⟩ = some (.int .i64 z))
set_option maxRecDepth 100000 in
theorem open_intsl {H : Type} {enc : TypeId × Value → H} {w : World} {base : Nat} {spare : Nat → Bool} {held : Bool} {v : Value} {d : DataW H} {p : List MemPlace} (h : DataW.Trod enc Tryz.prog w base spare held 24 v d p)
    {r : Reach} {b0 : Nat} (hv : Value.okWide Tryz.prog w r b0 24 v) : ∃ l, IntsAt w v l := by
  obtain ⟨fuel, h⟩ := h
  obtain ⟨a, n, c, rfl⟩ := okWide_slice Tryz.underlying24 hv
  have h' : DataW.trod enc Tryz.prog w base spare held fuel 24 [.slice a n c] = some (d, p) := h
  rcases open_ints Tryz.underlying24 Tryz.underlying3 (by kernel_rfl) h' with ⟨hcs, _⟩ | ⟨a, len, cap, zs, hcs, _, hle, hcm, hzl, _, hz, _⟩
  · simp only [List.cons.injEq, and_true] at hcs
    exact ⟨[], none, 0, hcs, Nat.le_refl _, by simp, .inl rfl⟩
  · simp only [List.cons.injEq, and_true] at hcs
    have hlz : len ≤ zs.length := by rw [hzl]; split <;> omega
    have htl : (zs.take len).length = len := by rw [List.length_take]; omega
    refine ⟨zs.take len, some a, cap, by rw [htl]; exact hcs, by omega, by omega, ?_⟩
    by_cases h0 : len = 0
    · left; subst h0; simp
    · right
      have hc0 := hz 0 (by omega)
      have ha0 : a.add 0 = a := by unfold Addr.add; simp
      rw [ha0] at hc0
      have hp := addr_plain hc0
      refine ⟨a.block, a.off, by rw [← hp], fun j z hj => ?_⟩
      have hjl : j < len := by have := (List.getElem?_eq_some_iff.1 hj).1; omega
      have hc := hz j (by omega)
      rw [hp, add_plain] at hc
      rw [List.getElem?_take, if_pos hjl] at hj
      rw [List.getD_eq_getElem?_getD, hj] at hc
      exact hc
set_option maxHeartbeats 2000000 in
theorem ints_any (n : Nat) (hn : n ≤ 4096) (g1 o1 c1 g2 o2 c2 : Nat) (z : Nat → Int) (w : World) (h1 : ∀ j, j < n → w.cell? ⟨g1, o1 + j, none⟩ = some (.int .i64 (z j))) (h2 : ∀ j, j < n → w.cell? ⟨g2, o2 + j, none⟩ = some (.int .i64 (z j))) :
    Calls Tryz.prog 33 #[.slice (some ⟨g1, o1, none⟩) n c1, .slice (some ⟨g2, o2, none⟩) n c2] w fun e w' => e = .returned (.bool true) ∧ Below w.heap.size w w' := by
  have H1 := Lib.hid h1
  have H2 := Lib.hid h2
  clear h1 h2
  go_enter Tryz.func33, Tryz.ntmps33
  go_wp2_with fail
  go_loopw [5] (fun ix wr => ∃ j : Nat, ix = .int .i64 j ∧ j ≤ n ∧ Below w.heap.size w wr) (fun ix _ => n - (intOf ix).toNat)
  case atStart => exact ⟨0, rfl, by omega, bsame w⟩
  case round =>
    obtain ⟨j, rfl, hj, hb⟩ := hrel
    obtain ⟨wo, rfl⟩ : ∃ wo : World, wo = wr := ⟨_, rfl⟩
    by_cases hlt : j < n
    · have jI : (j : Int) < (n : Int) := by omega
      have k1 := H1.out j hlt
      have k2 := H2.out j hlt
      have k1 := (hb.cell (p := ⟨g1, o1 + j, none⟩) (cell_in k1)).trans k1
      have k2 := (hb.cell (p := ⟨g2, o2 + j, none⟩) (cell_in k2)).trans k2
      go_upto_region 6 with fail
      go_quiet (fail)
      go_wp2_with fail
      go_roundw
      case rel => exact ⟨j + 1, by simp, by omega, btrans hb (bdrewN (bsame _) _)⟩
      case measure => simp [intOf]; omega
    · obtain rfl : j = n := by omega
      go_wp2_with fail
      go_ret
      exact ⟨rfl, hb⟩
end Go.Proofs.YtemohiainfllcaaGreat

/- The law ThreadRoots, walked (printed by tools/gen_r16.py). -/
namespace Go.Proofs.YtemohiainfllcaaGreat
open Go.RowKit Hp
attribute [local go_sem ↓] Go.wp_at_zero Go.wp_at_succ
set_option maxRecDepth 100000 in
set_option maxHeartbeats 4000000 in
theorem threadRoots_of (haw : ∀ w : World, Calls Tryz.prog 26 #[] w fun e w' => e = .returned (.bool true) ∧ Below w.heap.size w w') (h : ThV) (v1 : Value) (l : List Int) (w : World) (hl1 : IntsAt w v1 l) :
    Calls Tryz.prog 8 #[h.v, v1] w fun e w' => e = .returned (.bool true) ∧ Below w.heap.size w w' := by
  have HAw := Lib.hid haw
  clear haw
  have h6 := heq6
  obtain ⟨hb, hn, ⟨a0, a1, a2, a3, a4, a5⟩, ⟨s0, s1, s2, s3, s4, s5⟩, hl⟩ := h
  show Calls _ _ #[.agg #[.int .i64 hb, .int .i64 hn, .int .i64 a0, .int .i64 a1, .int .i64 a2, .int .i64 a3, .int .i64 a4, .int .i64 a5, .int .i64 s0, .int .i64 s1, .int .i64 s2, .int .i64 s3, .int .i64 s4, .int .i64 s5, .bool hl], v1] _ _
  have HRo := Lib.hid (fun W => show Calls Tryz.prog 31 #[.agg #[.int .i64 hb, .int .i64 hn, .int .i64 a0, .int .i64 a1, .int .i64 a2, .int .i64 a3, .int .i64 a4, .int .i64 a5, .int .i64 s0, .int .i64 s1, .int .i64 s2, .int .i64 s3, .int .i64 s4, .int .i64 s5, .bool hl]] W fun e w' => e = .returned (.slice (some ⟨W.heap.size + 1, 0, none⟩) 12 12) ∧ Blk w' (W.heap.size + 1) #[.int .i64 a0, .int .i64 a1, .int .i64 a2, .int .i64 a3, .int .i64 a4, .int .i64 a5, .int .i64 s0, .int .i64 s1, .int .i64 s2, .int .i64 s3, .int .i64 s4, .int .i64 s5] 3 ∧ Below W.heap.size W w' from roots_any ⟨hb, hn, ⟨a0, a1, a2, a3, a4, a5⟩, ⟨s0, s1, s2, s3, s4, s5⟩, hl⟩ W)
  have HRe := Lib.hid (fun W g (j : Blk W g #[.int .i64 a0, .int .i64 a1, .int .i64 a2, .int .i64 a3, .int .i64 a4, .int .i64 a5, .int .i64 s0, .int .i64 s1, .int .i64 s2, .int .i64 s3, .int .i64 s4, .int .i64 s5] 3) => show Calls Tryz.prog 32 #[.agg #[.int .i64 hb, .int .i64 hn, .int .i64 a0, .int .i64 a1, .int .i64 a2, .int .i64 a3, .int .i64 a4, .int .i64 a5, .int .i64 s0, .int .i64 s1, .int .i64 s2, .int .i64 s3, .int .i64 s4, .int .i64 s5, .bool hl], .slice (some ⟨g, 0, none⟩) 12 12] W fun e w' => e = .returned (.tuple #[.agg #[.int .i64 hb, .int .i64 hn, .int .i64 a0, .int .i64 a1, .int .i64 a2, .int .i64 a3, .int .i64 a4, .int .i64 a5, .int .i64 s0, .int .i64 s1, .int .i64 s2, .int .i64 s3, .int .i64 s4, .int .i64 s5, .bool hl], .bool true]) ∧ Below W.heap.size W w' from
    replace_yes ⟨hb, hn, ⟨a0, a1, a2, a3, a4, a5⟩, ⟨s0, s1, s2, s3, s4, s5⟩, hl⟩ g 0 12 ⟨a0, a1, a2, a3, a4, a5⟩ ⟨s0, s1, s2, s3, s4, s5⟩ W (by omega) j.lt (fun q _ => by rw [Nat.zero_add, j.cell q]))
  obtain ⟨a, c, rfl, hlc, hlm, hcase⟩ := hl1
  have hn0 : (l.length : Int) ≤ 9223372036854775807 := by have := hlm; simp [maxLen] at this; omega
  clear hlm
  have c2 := (Blk.new w #[.int .i64 hb, .int .i64 hn, .int .i64 a0, .int .i64 a1, .int .i64 a2, .int .i64 a3, .int .i64 a4, .int .i64 a5, .int .i64 s0, .int .i64 s1, .int .i64 s2, .int .i64 s3, .int .i64 s4, .int .i64 s5, .bool hl] 57).cell
  go_enter Tryz.func8, Tryz.ntmps8
  clear c2
  go_wp2_with fail
  refine (HAw.out _).mono ?_
  rintro e w1 ⟨rfl, hb1⟩
  have k2 := (Blk.new w #[.int .i64 hb, .int .i64 hn, .int .i64 a0, .int .i64 a1, .int .i64 a2, .int .i64 a3, .int .i64 a4, .int .i64 a5, .int .i64 s0, .int .i64 s1, .int .i64 s2, .int .i64 s3, .int .i64 s4, .int .i64 s5, .bool hl] 57).below hb1 (Blk.new w #[.int .i64 hb, .int .i64 hn, .int .i64 a0, .int .i64 a1, .int .i64 a2, .int .i64 a3, .int .i64 a4, .int .i64 a5, .int .i64 s0, .int .i64 s1, .int .i64 s2, .int .i64 s3, .int .i64 s4, .int .i64 s5, .bool hl] 57).lt
  have bw := btrans (balloc (bsame w) (.cells #[.int .i64 hb, .int .i64 hn, .int .i64 a0, .int .i64 a1, .int .i64 a2, .int .i64 a3, .int .i64 a4, .int .i64 a5, .int .i64 s0, .int .i64 s1, .int .i64 s2, .int .i64 s3, .int .i64 s4, .int .i64 s5, .bool hl] 57)) hb1
  clear hb1 HAw
  have c2 := k2.cell
  go_wp2_with fail
  refine (HRo.out _).mono ?_
  rintro e w2 ⟨rfl, kR, hb2⟩
  replace k2 := k2.below hb2 k2.lt
  replace bw := btrans bw hb2
  obtain ⟨gR, hgR⟩ : ∃ g, g = w1.heap.size + 1 := ⟨_, rfl⟩
  rw [← hgR] at kR ⊢
  clear hb2 c2 hgR
  have c2 := k2.cell
  go_wp2_with fail
  refine (HRe.out _ _ kR).mono ?_
  rintro e w3 ⟨rfl, hb3⟩
  replace k2 := k2.below hb3 k2.lt
  replace bw := btrans bw hb3
  clear hb3 c2 kR HRe
  have c2 := k2.cell
  have l2 := k2.lt
  as_aux_lemma =>
    by_cases h12 : l.length = 12
    · rcases hcase with h0 | ⟨b, off, rfl, hz⟩
      · rw [h0] at h12; simp at h12
      · have hz' : ∀ j, j < 12 → w.cell? ⟨b, off + j, none⟩ = some (.int .i64 (l.getD j 0)) := fun j hj => hz j _ (by rw [List.getD_eq_getElem?_getD, List.getElem?_eq_getElem (by omega)]; rfl)
        have hgb : b < w.heap.size := cell_in (hz' 0 (by omega))

        obtain ⟨p0, hp0⟩ : ∃ z, z = l.getD 0 0 := ⟨_, rfl⟩
        obtain ⟨p1, hp1⟩ : ∃ z, z = l.getD 1 0 := ⟨_, rfl⟩
        obtain ⟨p2, hp2⟩ : ∃ z, z = l.getD 2 0 := ⟨_, rfl⟩
        obtain ⟨p3, hp3⟩ : ∃ z, z = l.getD 3 0 := ⟨_, rfl⟩
        obtain ⟨p4, hp4⟩ : ∃ z, z = l.getD 4 0 := ⟨_, rfl⟩
        obtain ⟨p5, hp5⟩ : ∃ z, z = l.getD 5 0 := ⟨_, rfl⟩
        obtain ⟨q0, hq0⟩ : ∃ z, z = l.getD 6 0 := ⟨_, rfl⟩
        obtain ⟨q1, hq1⟩ : ∃ z, z = l.getD 7 0 := ⟨_, rfl⟩
        obtain ⟨q2, hq2⟩ : ∃ z, z = l.getD 8 0 := ⟨_, rfl⟩
        obtain ⟨q3, hq3⟩ : ∃ z, z = l.getD 9 0 := ⟨_, rfl⟩
        obtain ⟨q4, hq4⟩ : ∃ z, z = l.getD 10 0 := ⟨_, rfl⟩
        obtain ⟨q5, hq5⟩ : ∃ z, z = l.getD 11 0 := ⟨_, rfl⟩
        have hz12 : ∀ j, j < 12 → w.cell? ⟨b, off + j, none⟩ = #[.int .i64 p0, .int .i64 p1, .int .i64 p2, .int .i64 p3, .int .i64 p4, .int .i64 p5, .int .i64 q0, .int .i64 q1, .int .i64 q2, .int .i64 q3, .int .i64 q4, .int .i64 q5][j]? := fun j hj => by
          rw [hz' j hj]
          obtain rfl | rfl | rfl | rfl | rfl | rfl | rfl | rfl | rfl | rfl | rfl | rfl : j = 0 ∨ j = 1 ∨ j = 2 ∨ j = 3 ∨ j = 4 ∨ j = 5 ∨ j = 6 ∨ j = 7 ∨ j = 8 ∨ j = 9 ∨ j = 10 ∨ j = 11 := by omega
          all_goals simp only [hp0, hp1, hp2, hp3, hp4, hp5, hq0, hq1, hq2, hq3, hq4, hq5]; rfl
        have HRl := Lib.hid (fun W (hW : Below w.heap.size w W) => show Calls Tryz.prog 32 #[.agg #[.int .i64 hb, .int .i64 hn, .int .i64 a0, .int .i64 a1, .int .i64 a2, .int .i64 a3, .int .i64 a4, .int .i64 a5, .int .i64 s0, .int .i64 s1, .int .i64 s2, .int .i64 s3, .int .i64 s4, .int .i64 s5, .bool hl], .slice (some ⟨b, off, none⟩) 12 c] W fun e w' => e = .returned (.tuple #[.agg #[.int .i64 hb, .int .i64 hn, .int .i64 p0, .int .i64 p1, .int .i64 p2, .int .i64 p3, .int .i64 p4, .int .i64 p5, .int .i64 q0, .int .i64 q1, .int .i64 q2, .int .i64 q3, .int .i64 q4, .int .i64 q5, .bool hl], .bool true]) ∧ Below W.heap.size W w' from
          replace_yes ⟨hb, hn, ⟨a0, a1, a2, a3, a4, a5⟩, ⟨s0, s1, s2, s3, s4, s5⟩, hl⟩ b off c ⟨p0, p1, p2, p3, p4, p5⟩ ⟨q0, q1, q2, q3, q4, q5⟩ W (by omega) (by have := hW.size; omega) (fun q hq => (hW.cell (p := ⟨b, off + q, none⟩) hgb).trans (hz12 q hq)))
        have HRy := Lib.hid (fun W => show Calls Tryz.prog 31 #[.agg #[.int .i64 hb, .int .i64 hn, .int .i64 p0, .int .i64 p1, .int .i64 p2, .int .i64 p3, .int .i64 p4, .int .i64 p5, .int .i64 q0, .int .i64 q1, .int .i64 q2, .int .i64 q3, .int .i64 q4, .int .i64 q5, .bool hl]] W fun e w' => e = .returned (.slice (some ⟨W.heap.size + 1, 0, none⟩) 12 12) ∧ Blk w' (W.heap.size + 1) #[.int .i64 p0, .int .i64 p1, .int .i64 p2, .int .i64 p3, .int .i64 p4, .int .i64 p5, .int .i64 q0, .int .i64 q1, .int .i64 q2, .int .i64 q3, .int .i64 q4, .int .i64 q5] 3 ∧ Below W.heap.size W w' from roots_any ⟨hb, hn, ⟨p0, p1, p2, p3, p4, p5⟩, ⟨q0, q1, q2, q3, q4, q5⟩, hl⟩ W)
        have HIn := Lib.hid (fun W (hW : Below w.heap.size w W) g (j : Blk W g #[.int .i64 p0, .int .i64 p1, .int .i64 p2, .int .i64 p3, .int .i64 p4, .int .i64 p5, .int .i64 q0, .int .i64 q1, .int .i64 q2, .int .i64 q3, .int .i64 q4, .int .i64 q5] 3) => show Calls Tryz.prog 33 #[.slice (some ⟨g, 0, none⟩) 12 12, .slice (some ⟨b, off, none⟩) 12 c] W fun e w' => e = .returned (.bool true) ∧ Below W.heap.size W w' from
          ints_any 12 (by omega) g 0 12 b off c (fun j => l.getD j 0) W (fun q hq => by rw [Nat.zero_add, j.cell q, ← hz12 q hq, hz' q hq]) (fun q hq => (hW.cell (p := ⟨b, off + q, none⟩) hgb).trans (hz' q hq)))
        have HBw := Lib.hid bw
        rw [h12]
        clear hz hz' hz12 hgb h12 hlc hn0 hp0 hp1 hp2 hp3 hp4 hp5 hq0 hq1 hq2 hq3 hq4 hq5
        as_aux_lemma =>
          go_wp2_with fail
          refine (HRl.out _ (balloc bw _)).mono ?_
          rintro e w4 ⟨rfl, hb4⟩
          have bw4 := btrans (balloc bw (.cells #[.int .i64 hb, .int .i64 hn, .int .i64 a0, .int .i64 a1, .int .i64 a2, .int .i64 a3, .int .i64 a4, .int .i64 a5, .int .i64 s0, .int .i64 s1, .int .i64 s2, .int .i64 s3, .int .i64 s4, .int .i64 s5, .bool hl] 57)) hb4
          replace k2 := (k2.alloc (.cells #[.int .i64 hb, .int .i64 hn, .int .i64 a0, .int .i64 a1, .int .i64 a2, .int .i64 a3, .int .i64 a4, .int .i64 a5, .int .i64 s0, .int .i64 s1, .int .i64 s2, .int .i64 s3, .int .i64 s4, .int .i64 s5, .bool hl] 57)).below hb4 (k2.alloc _).lt
          clear hb4 c2 l2 HRl
          obtain ⟨V, hV⟩ : ∃ V, V = w4.alloc (.cells #[.int .i64 hb, .int .i64 hn, .int .i64 p0, .int .i64 p1, .int .i64 p2, .int .i64 p3, .int .i64 p4, .int .i64 p5, .int .i64 q0, .int .i64 q1, .int .i64 q2, .int .i64 q3, .int .i64 q4, .int .i64 q5, .bool hl] 57) := ⟨_, rfl⟩
          have kY : Blk V w4.heap.size #[.int .i64 hb, .int .i64 hn, .int .i64 p0, .int .i64 p1, .int .i64 p2, .int .i64 p3, .int .i64 p4, .int .i64 p5, .int .i64 q0, .int .i64 q1, .int .i64 q2, .int .i64 q3, .int .i64 q4, .int .i64 q5, .bool hl] 57 := by rw [hV]; exact Blk.new _ _ _
          have kH : Blk V w.heap.size #[.int .i64 hb, .int .i64 hn, .int .i64 a0, .int .i64 a1, .int .i64 a2, .int .i64 a3, .int .i64 a4, .int .i64 a5, .int .i64 s0, .int .i64 s1, .int .i64 s2, .int .i64 s3, .int .i64 s4, .int .i64 s5, .bool hl] 57 := by rw [hV]; exact k2.alloc _
          have bV : Below w.heap.size w V := by rw [hV]; exact balloc bw4 _
          have c2 := k2.cell
          have l2 := k2.lt
          as_aux_lemma =>
            go_wp2_with fail
            rw [← hV]
            clear hV c2 l2 k2
            refine (HRy.out _).mono ?_
            rintro e w5 ⟨rfl, kR5, hb5⟩
            have bw5 := btrans bV hb5
            obtain ⟨g5, hg5⟩ : ∃ g, g = V.heap.size + 1 := ⟨_, rfl⟩
            rw [← hg5] at kR5 ⊢
            clear hg5
            replace kY := kY.below hb5 kY.lt
            replace kH := kH.below hb5 kH.lt
            clear hb5 bV bw4 HRy
            as_aux_lemma =>
              go_wp2_with fail
              refine (HIn.out _ bw5 _ kR5).mono ?_
              rintro e w6 ⟨rfl, hb6⟩
              have cY := (kY.below hb6 kY.lt).cell
              have cH := (kH.below hb6 kH.lt).cell
              have hfin := btrans bw5 hb6
              clear hb6 bw5 kY kH kR5 HIn HBw
              as_aux_lemma =>
                go_wp2_with fail
                go_ret
                exact ⟨rfl, hfin⟩
    · have hlnb : ((l.length : Int) != 12) = true := by rw [bne_iff_ne]; omega
      have HNo := Lib.hid (fun W => show Calls Tryz.prog 32 #[.agg #[.int .i64 hb, .int .i64 hn, .int .i64 a0, .int .i64 a1, .int .i64 a2, .int .i64 a3, .int .i64 a4, .int .i64 a5, .int .i64 s0, .int .i64 s1, .int .i64 s2, .int .i64 s3, .int .i64 s4, .int .i64 s5, .bool hl], .slice a l.length c] W fun e w' => e = .returned (.tuple #[.agg #[.int .i64 hb, .int .i64 hn, .int .i64 a0, .int .i64 a1, .int .i64 a2, .int .i64 a3, .int .i64 a4, .int .i64 a5, .int .i64 s0, .int .i64 s1, .int .i64 s2, .int .i64 s3, .int .i64 s4, .int .i64 s5, .bool hl], .bool false]) ∧ Below W.heap.size W w' from replace_no ⟨hb, hn, ⟨a0, a1, a2, a3, a4, a5⟩, ⟨s0, s1, s2, s3, s4, s5⟩, hl⟩ a l.length c h12 W)
      have HBw := Lib.hid bw
      clear hcase hlc h12
      as_aux_lemma =>
        go_wp2_with fail
        refine (HNo.out _).mono ?_
        rintro e w4 ⟨rfl, hb4⟩
        have bw4 := btrans (balloc bw (.cells #[.int .i64 hb, .int .i64 hn, .int .i64 a0, .int .i64 a1, .int .i64 a2, .int .i64 a3, .int .i64 a4, .int .i64 a5, .int .i64 s0, .int .i64 s1, .int .i64 s2, .int .i64 s3, .int .i64 s4, .int .i64 s5, .bool hl] 57)) hb4
        replace k2 := (k2.alloc (.cells #[.int .i64 hb, .int .i64 hn, .int .i64 a0, .int .i64 a1, .int .i64 a2, .int .i64 a3, .int .i64 a4, .int .i64 a5, .int .i64 s0, .int .i64 s1, .int .i64 s2, .int .i64 s3, .int .i64 s4, .int .i64 s5, .bool hl] 57)).below hb4 (k2.alloc _).lt
        clear hb4 c2 l2 HNo
        have c2 := k2.cell
        have l2 := k2.lt
        have hfin := balloc bw4 (.cells #[.int .i64 hb, .int .i64 hn, .int .i64 a0, .int .i64 a1, .int .i64 a2, .int .i64 a3, .int .i64 a4, .int .i64 a5, .int .i64 s0, .int .i64 s1, .int .i64 s2, .int .i64 s3, .int .i64 s4, .int .i64 s5, .bool hl] 57)
        clear bw4 bw HBw
        as_aux_lemma =>
          go_wp2_with fail
          go_ret
          exact ⟨rfl, hfin⟩
end Go.Proofs.YtemohiainfllcaaGreat
