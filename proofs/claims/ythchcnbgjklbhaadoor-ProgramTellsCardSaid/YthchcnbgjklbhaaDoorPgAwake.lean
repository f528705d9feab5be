/- Walk: the example that every statement of this chapter looks at first. -/
import Derived.Test.YthchcnbgjklbhaaDoorPgParse
import Derived.Test.YthchcnbgjklbhaaDoorPgCheck
import Derived.Test.YthchcnbgjklbhaaDoorPgFit
import Derived.Test.YthchcnbgjklbhaaDoorArr
namespace Go.Proofs.YthchcnbgjklbhaaDoor
open Go.RowKit
/-- put 1 0 2. -/
def exD : Pg.D := ⟨5, 1, 2, 0, 0⟩
def exS : List UInt8 := [112, 117, 116, 32, 49, 32, 48, 32, 50]
theorem itoa1 : Lib.itoa 1 = [49] := by simp [Lib.itoa, Lib.decDigits]
theorem itoa0 : Lib.itoa 0 = [48] := by simp [Lib.itoa, Lib.decDigits]
theorem itoa2 : Lib.itoa 2 = [50] := by simp [Lib.itoa, Lib.decDigits]
theorem ex_right : Pg.right exD = true := by decide +kernel
theorem ex_print : Pg.print exD = exS := by
  have h : Pg.print exD = Pg.word 5 ++ (32 :: Lib.itoa 1 ++ (32 :: Lib.itoa 0 ++ (32 :: Lib.itoa 2 ++ []))) := rfl
  rw [h, itoa0, itoa1, itoa2]
  decide +kernel
theorem ex_printed : printed exD = exS := by unfold printed; rw [if_pos ex_right, ex_print]
theorem ex_printE : printE exD = 0 := by unfold printE; rw [if_pos ex_right]
theorem ex_parse : Pg.parse exS = some exD := by rw [← ex_print]; exact Pg.parse_print ex_right
theorem ex_parsed : parsed exS = exD := by unfold parsed; rw [ex_parse]; rfl
theorem ex_parseE : parseE exS = 0 := by unfold parseE; rw [ex_parse]; rfl
theorem ex_short : Pg.parse [112, 117, 116, 32, 49, 32, 48] = none := by decide +kernel
theorem ex_shortE : parseE [112, 117, 116, 32, 49, 32, 48] = 151 := by unfold parseE; rw [ex_short]; rfl
theorem ex_shortD : parsed [112, 117, 116, 32, 49, 32, 48] = ⟨0, 0, 0, 0, 0⟩ := by unfold parsed; rw [ex_short]; rfl
theorem ex_check : check [[[exD], []]] = (150, 0, 1, 0) := by decide +kernel
theorem print_ex (w : World) (hE : Env w) : Calls Tryd.prog 11 #[.agg #[.int .i64 5, .int .i64 1, .int .i64 2, .int .i64 0, .int .i64 0]] w fun e w' =>
    e = .returned (.tuple #[.string ⟨#[112, 117, 116, 32, 49, 32, 48, 32, 50]⟩, .int .i64 0]) ∧ Below w.heap.size w w' := by
  have h := print_any 5 1 2 0 0 w hE
  rw [show (⟨5, 1, 2, 0, 0⟩ : Pg.D) = exD from rfl, ex_printed, ex_printE] at h
  exact h
theorem parse_ex (w : World) (hE : Env w) : Calls Tryd.prog 18 #[.string ⟨#[112, 117, 116, 32, 49, 32, 48, 32, 50]⟩] w fun e w' =>
    e = .returned (.tuple #[.agg #[.int .i64 5, .int .i64 1, .int .i64 2, .int .i64 0, .int .i64 0], .int .i64 0]) ∧ Below w.heap.size w w' := by
  refine (parse_any ⟨#[112, 117, 116, 32, 49, 32, 48, 32, 50]⟩ (by decide) w hE).mono ?_
  rintro e w' ⟨h, hb⟩
  have e1 : (⟨#[112, 117, 116, 32, 49, 32, 48, 32, 50]⟩ : ByteArray).data.toList = exS := rfl
  rw [e1, ex_parsed, ex_parseE] at h
  exact ⟨h, hb⟩
theorem parse_ex2 (w : World) (hE : Env w) : Calls Tryd.prog 18 #[.string ⟨#[112, 117, 116, 32, 49, 32, 48]⟩] w fun e w' =>
    e = .returned (.tuple #[.agg #[.int .i64 0, .int .i64 0, .int .i64 0, .int .i64 0, .int .i64 0], .int .i64 151]) ∧ Below w.heap.size w w' := by
  refine (parse_any ⟨#[112, 117, 116, 32, 49, 32, 48]⟩ (by decide) w hE).mono ?_
  rintro e w' ⟨h, hb⟩
  have e1 : (⟨#[112, 117, 116, 32, 49, 32, 48]⟩ : ByteArray).data.toList = [112, 117, 116, 32, 49, 32, 48] := rfl
  rw [e1, ex_shortD, ex_shortE] at h
  exact ⟨h, hb⟩
theorem right_ex (w : World) : Calls Tryd.prog 15 #[.agg #[.int .i64 5, .int .i64 1, .int .i64 2, .int .i64 0, .int .i64 0]] w fun e w' =>
    e = .returned (.bool true) ∧ Below w.heap.size w w' := by
  have h := right_any 5 1 2 0 0 w
  rw [show (⟨5, 1, 2, 0, 0⟩ : Pg.D) = exD from rfl, ex_right] at h
  exact h
theorem threads_ex {W : World} {b1 b2 b3 b4 : Nat} {t3 t4 : TypeId} (h1 : Blk W b1 #[.int .i64 5, .int .i64 1, .int .i64 2, .int .i64 0, .int .i64 0] 23)
    (h3 : Blk W b3 #[.slice (some ⟨b1, 0, none⟩) 1 1, .slice (some ⟨b2, 0, none⟩) 0 0] t3) (h4 : Blk W b4 #[.slice (some ⟨b3, 0, none⟩) 2 2] t4) :
    ThreadsAt W (.slice (some ⟨b4, 0, none⟩) 1 1) [[[exD], []]] := by
  have k1 : DeedsAt W (.slice (some ⟨b1, 0, none⟩) 1 1) [exD] := ⟨by decide, Sl.blk h1⟩
  have k2 : DeedsAt W (.slice (some ⟨b2, 0, none⟩) 0 0) [] := ⟨by decide, _, _, rfl, .inl rfl⟩
  have k3 : BlocksAt W (.slice (some ⟨b3, 0, none⟩) 2 2) [[exD], []] := by
    refine ⟨by decide, _, ?_, Sl.blk h3, ?_⟩
    · rfl
    · intro j l hl
      match j with
      | 0 => simp at hl; subst hl; exact ⟨_, rfl, k1⟩
      | 1 => simp at hl; subst hl; exact ⟨_, rfl, k2⟩
      | j + 2 => simp at hl
  refine ⟨by decide, _, ?_, Sl.blk h4, ?_⟩
  · rfl
  · intro j l hl
    match j with
    | 0 => simp at hl; subst hl; exact ⟨_, rfl, k3⟩
    | j + 1 => simp at hl
set_option maxRecDepth 100000 in
set_option maxHeartbeats 2000000 in
theorem awake_any (w : World) (hE : Env w) : Calls Tryd.prog 9 #[] w fun e w' => e = .returned (.bool true) ∧ Below w.heap.size w w' := by
  have HE := Lib.hid hE
  clear hE
  go_enter Tryd.func9, Tryd.ntmps9
  go_wp2_with fail
  refine (print_ex _ (HE.out.below (balloc (Below.refl _ _) _))).mono ?_
  rintro e w1 ⟨rfl, hb1⟩
  have hD1 : Blk w1 w.heap.size #[.int .i64 5, .int .i64 1, .int .i64 2, .int .i64 0, .int .i64 0] 23 := (Blk.new w _ _).below hb1 (by simp)
  have hw1 : Below w.heap.size w w1 := btrans (balloc (Below.refl _ _) _) hb1
  clear hb1
  go_wp2_with fail
  refine (parse_ex _ (HE.out.below hw1)).mono ?_
  rintro e w2 ⟨rfl, hb2⟩
  have hD2 := hD1.below hb2 hD1.lt
  have hw2 := btrans hw1 hb2
  clear hb2 hw1 hD1
  go_wp2_with fail
  refine (parse_ex2 _ (HE.out.below (balloc hw2 _))).mono ?_
  rintro e w3 ⟨rfl, hb3⟩
  have hP3 : Blk w3 w2.heap.size #[.int .i64 5, .int .i64 1, .int .i64 2, .int .i64 0, .int .i64 0] 23 := (Blk.new w2 _ _).below hb3 (by simp)
  have hD3 := (hD2.alloc _).below hb3 (hD2.alloc _).lt
  have hw3 := btrans (balloc hw2 _) hb3
  have c3 := hD3.cell
  have s3 := hD3.lt
  have hlt2 := hD2.lt
  clear hb3 hw2 hD2
  obtain ⟨B, hB⟩ : ∃ B, B = w2.heap.size := ⟨_, rfl⟩
  rw [← hB] at hP3 hlt2 ⊢
  clear hB
  go_wp2_with fail
  refine (check_any _ [[[exD], []]] _ (threads_ex (t3 := 41) (t4 := 42) (b1 := w3.heap.size + 1) (b2 := w3.heap.size + 1 + 1) (b3 := w3.heap.size + 1 + 1 + 1) ?_ ?_ ?_)).mono ?_
  · exact (((Blk.new_at _ _ _ _ _ (by simp) rfl).alloc _).alloc _).alloc _
  · exact (Blk.new_at _ _ _ _ _ (by simp) rfl).alloc _
  · exact Blk.new_at _ _ _ _ _ (by simp) rfl
  rw [ex_check]
  rintro e w4 ⟨rfl, hb4⟩
  simp only [checkV]
  have hw4 : Below w.heap.size w w4 := by
    refine btrans ?_ hb4
    repeat (first | exact hw3 | refine balloc ?_ _)
  have hD4 : Blk w4 w.heap.size #[.int .i64 5, .int .i64 1, .int .i64 2, .int .i64 0, .int .i64 0] 23 := by
    refine Blk.below ?_ hb4 (by simp; omega)
    repeat (first | exact hD3 | refine Blk.alloc ?_ _)
  have hP4 : Blk w4 B #[.int .i64 5, .int .i64 1, .int .i64 2, .int .i64 0, .int .i64 0] 23 := by
    refine Blk.below ?_ hb4 (by have := hP3.lt; simp; omega)
    repeat (first | exact hP3 | refine Blk.alloc ?_ _)
  have c4 := hD4.cell
  have s4 := hD4.lt
  have p4 := hP4.cell
  have ps4 := hP4.lt
  clear hb4 c3 s3 hD3 hP3 hw3
  have hae := eql_arr3
  go_wp2_with (first | (go_at_call 15; refine (right_ex _).mono ?_; rintro e w5 ⟨rfl, hb5⟩) | fail)
  go_ret
  refine ⟨rfl, ?_⟩
  refine btrans ?_ hb5
  repeat (first | exact hw4 | refine balloc ?_ _)
end Go.Proofs.YthchcnbgjklbhaaDoor
