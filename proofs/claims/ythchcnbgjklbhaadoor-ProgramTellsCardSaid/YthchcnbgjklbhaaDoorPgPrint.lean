/- Walk: a deed's text (Print). -/
import Derived.Test.YthchcnbgjklbhaaDoorPgRight
import Derived.Test.YthchcnbgjklbhaaDoorShelf
namespace Go.Proofs.YthchcnbgjklbhaaDoor
open Go.RowKit
/-- What Go's library reads: its variables. -/
structure Env (w : World) : Prop where
  tab : Lib.TabIs Tryd.prog w "internal/strconv.uint64pow10" .u64 Lib.pow10Tab
  mx : ∃ m, w.cell? ⟨3, 0, none⟩ = some (.int .i64 m)
  es : ∃ ev, w.cell? ⟨0, 0, none⟩ = some ev ∧ (ev = .nilIface ∨ ∃ te pe, ev = .iface te pe)
  er : ∃ ev, w.cell? ⟨1, 0, none⟩ = some ev ∧ (ev = .nilIface ∨ ∃ te pe, ev = .iface te pe)
  big : 2 < w.heap.size
theorem cell_lt {w : World} {a : Addr} {v : Value} (h : w.cell? a = some v) : a.block < w.heap.size := by
  unfold World.cell? at h
  split at h
  · rename_i h'; exact (Array.getElem?_eq_some_iff.1 h').1
  · cases h
theorem Env.below {w w' : World} (h : Env w) (k : Below w.heap.size w w') : Env w' := by
  obtain ⟨m, hm⟩ := h.mx
  obtain ⟨e1, h1, h1'⟩ := h.es
  obtain ⟨e2, h2, h2'⟩ := h.er
  refine ⟨?_, ⟨m, (k.cell (cell_lt hm)).trans hm⟩, ⟨e1, (k.cell (cell_lt h1)).trans h1, h1'⟩, ⟨e2, (k.cell (cell_lt h2)).trans h2, h2'⟩, Nat.lt_of_lt_of_le h.big k.size⟩
  exact var?_below k (g := 2) (by kernel_rfl) h.big h.tab
theorem itoa_any (n : Int) (h0 : -1000000 ≤ n) (h1 : n ≤ 1000000) (w : World) (h : Env w) :
    Calls Tryd.prog 21 #[.int .i64 n] w fun e w' => e = .returned (.string ⟨(Lib.itoa n).toArray⟩) ∧ Below w.heap.size w w' := by
  refine (Tryd.strconv_Itoa n (by omega) (by omega) w h.tab).mono ?_
  rintro e w' ⟨rfl, k, os, rfl⟩
  refine ⟨rfl, rfl, rfl, rfl, ?_, ?_⟩
  · simp [Sort.grow]
  · intro b hb; simp [Sort.grow, Array.getElem?_append, hb]
/-- A text of bytes. -/
def strB (l : List UInt8) : ByteArray := ⟨l.toArray⟩
theorem strB_size (l : List UInt8) : (strB l).size = l.length := by simp [strB, ByteArray.size]
theorem strB_app (a b : List UInt8) : strB a ++ (⟨#[32]⟩ ++ ⟨b.toArray⟩ : ByteArray) = strB (a ++ 32 :: b) := by
  apply ByteArray.ext; simp [strB]
theorem strB_toList (l : List UInt8) : (strB l).data.toList = l := by simp [strB]
/-- What Print tells. -/
def printed (d : Pg.D) : List UInt8 := if Pg.right d = true then Pg.print d else []
def printE (d : Pg.D) : Int := if Pg.right d = true then 0 else 1
theorem parts_some {k : Int} (hk : 1 ≤ k ∧ k ≤ 14) : (Pg.parts k = [] ∧ k = 14) ∨ (Pg.parts k ≠ [] ∧ k ≠ 14) := by
  rcases Pg.kinds hk with rfl | rfl | rfl | rfl | rfl | rfl | rfl | rfl | rfl | rfl | rfl | rfl | rfl | rfl <;> decide
theorem wordB_word {k : Int} : wordB k = strB (Pg.word k) := by
  unfold wordB Pg.word strB; rfl
set_option maxHeartbeats 2000000 in
theorem print_yes (k a b i n : Int) (hr : Pg.right ⟨k, a, b, i, n⟩ = true) (w : World) (hE : Env w) : Calls Tryd.prog 11 #[.agg #[.int .i64 k, .int .i64 a, .int .i64 b, .int .i64 i, .int .i64 n]] w fun e w' =>
    e = .returned (.tuple #[.string (strB (Pg.print ⟨k, a, b, i, n⟩)), .int .i64 0]) ∧ Below w.heap.size w w' := by
  have hk := Pg.right_kind hr
  have hpb := Pg.right_parts hr
  have HR := Lib.hid hr
  have HE := Lib.hid hE
  simp only at hk hpb
  have hbd : ∀ p ∈ Pg.parts k, -1000000 ≤ (⟨k, a, b, i, n⟩ : Pg.D).get p.f ∧ (⟨k, a, b, i, n⟩ : Pg.D).get p.f ≤ 1000000 := fun p hp => by
    have := hpb p hp; have := Pg.parts_bd p hp; omega
  have HBD := Lib.hid hbd
  clear hr hE hpb hbd
  go_enter Tryd.func11, Tryd.ntmps11
  go_wp2_with fail
  refine (right_any k a b i n _).mono ?_
  rw [HR.out]
  rintro e w1 ⟨rfl, hb1⟩
  have hB1 : Blk w1 w.heap.size (dcells ⟨k, a, b, i, n⟩) 23 := (Blk.new w _ _).below hb1 (by simp)
  have c1 := hB1.cell
  have s1 := hB1.lt
  simp only [dcells] at c1
  go_wp2_with fail
  refine (form_any k _).mono ?_
  rintro e w2 ⟨v, rfl, hp, hb2⟩
  have hH : Blk w2 w1.heap.size (dcells ⟨k, a, b, i, n⟩) 46 := (Blk.new w1 _ _).below hb2 (by simp)
  have hbw : Below w.heap.size w w2 := btrans (btrans (balloc (Below.refl _ _) _) hb1) (btrans (balloc (Below.refl _ _) _) hb2)
  clear hB1 c1
  have hle : w.heap.size < w1.heap.size := s1
  obtain ⟨H, hHe⟩ : ∃ H, H = w1.heap.size := ⟨_, rfl⟩
  rw [← hHe] at hH hle
  have HHE := Lib.hid hHe
  clear hb1 hb2 s1 hHe
  have hfs : ∀ p ∈ Pg.parts k, p.f = 1 ∨ p.f = 2 ∨ p.f = 3 ∨ p.f = 4 := fun p hp => by have := Pg.parts_bd p hp; omega
  have hpr : Pg.print ⟨k, a, b, i, n⟩ = Pg.word k ++ ((Pg.parts k).flatMap fun p => 32 :: Lib.itoa ((⟨k, a, b, i, n⟩ : Pg.D).get p.f)) := rfl
  rcases hp with ⟨hp, rfl⟩ | ⟨g, rfl, hg⟩
  · rw [hp] at hpr
    have HPR := Lib.hid hpr
    clear hp hpr hfs
    go_wp2_with fail
    refine wp_loop_rounds 1 ?_; rw [rounds_succ]
    go_wp2_with fail
    go_ret2
    refine ⟨?_, hbw⟩
    rw [HPR.out, wordB_word]
    simp
  · have hlen : (Pg.parts k).length ≤ 3 := (Pg.word_len k hk).2.2.1
    have hsg := hg.lt
    generalize Pg.parts k = ps at *
    have HPR := Lib.hid hpr
    clear hpr
    go_wp2_with fail
    rw [← HHE.out]
    go_loopw [21, 5, 8] (fun ix t _ wr => ∃ (j : Nat) (x : List UInt8), ix = .int .i64 j ∧ t = .string (strB x) ∧ x = Pg.word k ++ ((ps.take j).flatMap fun p => 32 :: Lib.itoa ((⟨k, a, b, i, n⟩ : Pg.D).get p.f)) ∧ x.length ≤ 5 + 9 * j ∧ j ≤ ps.length ∧ Blk wr H (dcells ⟨k, a, b, i, n⟩) 46 ∧ Blk wr g (pcells ps).toArray 52 ∧ Below w.heap.size w wr) (fun ix _ _ _ => ps.length - (intOf ix).toNat)
    case atStart => exact ⟨0, _, rfl, by rw [wordB_word], by simp, by have := (Pg.word_len k hk).2.1; omega, by omega, hH, hg, hbw⟩
    case round =>
      obtain ⟨j, x, rfl, rfl, hx, hxl, hj, jH, jg, hbr⟩ := hrel
      have hxs : (strB x).size ≤ 100 := by rw [strB_size]; omega
      have HX := Lib.hid hx
      clear hx hH hg
      by_cases hlt : j < ps.length
      · obtain ⟨p, hpj⟩ : ∃ p, ps[j]? = some p := ⟨ps[j], List.getElem?_eq_getElem hlt⟩
        have hsn := take_snoc' ps j p hpj
        have HSN := Lib.hid hsn
        have hpf := hfs p (List.mem_of_getElem? hpj)
        have hat := pcells_at ps j p hpj
        have hbd := HBD.out p (List.mem_of_getElem? hpj)
        obtain ⟨f, lo, hi⟩ := p
        simp only at hpf hat hbd
        have q0 := (jg.cell (j * 3)).trans (by simpa using hat.1)
        have q1 := (jg.cell (j * 3 + 1)).trans (by simpa using hat.2.1)
        have q2 := (jg.cell (j * 3 + 2)).trans (by simpa using hat.2.2)
        have cH := jH.cell
        have sH := jH.lt
        simp only [dcells] at cH
        clear hat hsn hpj hfs
        rcases hpf with rfl | rfl | rfl | rfl
        all_goals simp only [pfn] at q0
        · have hbd' : -1000000 ≤ a ∧ a ≤ 1000000 := hbd
          have hil := Pg.itoa_len a hbd'
          clear hbd
          go_wp2_with (first | (go_at_call 31; go_in) | fail)
          refine (itoa_any _ hbd'.1 hbd'.2 _ (HE.out.below (balloc hbr _))).mono ?_
          rintro e w3 ⟨rfl, hb3⟩
          go_wp2_with fail
          go_roundw
          case rel =>
            refine ⟨j + 1, _, by go_num, congrArg Value.string (strB_app _ _), ?_, ?_, by omega, ((jH.alloc _).below hb3 (jH.alloc _).lt), ((jg.alloc _).below hb3 (jg.alloc _).lt), btrans (balloc hbr _) hb3⟩
            · rw [HSN.out, HX.out]; simp [Pg.D.get]
            · rw [List.length_append, List.length_cons]; omega
          case measure => simp [intOf]; omega
        · have hbd' : -1000000 ≤ b ∧ b ≤ 1000000 := hbd
          have hil := Pg.itoa_len b hbd'
          clear hbd
          go_wp2_with (first | (go_at_call 32; go_in) | fail)
          refine (itoa_any _ hbd'.1 hbd'.2 _ (HE.out.below (balloc hbr _))).mono ?_
          rintro e w3 ⟨rfl, hb3⟩
          go_wp2_with fail
          go_roundw
          case rel =>
            refine ⟨j + 1, _, by go_num, congrArg Value.string (strB_app _ _), ?_, ?_, by omega, ((jH.alloc _).below hb3 (jH.alloc _).lt), ((jg.alloc _).below hb3 (jg.alloc _).lt), btrans (balloc hbr _) hb3⟩
            · rw [HSN.out, HX.out]; simp [Pg.D.get]
            · rw [List.length_append, List.length_cons]; omega
          case measure => simp [intOf]; omega
        · have hbd' : -1000000 ≤ i ∧ i ≤ 1000000 := hbd
          have hil := Pg.itoa_len i hbd'
          clear hbd
          go_wp2_with (first | (go_at_call 33; go_in) | fail)
          refine (itoa_any _ hbd'.1 hbd'.2 _ (HE.out.below (balloc hbr _))).mono ?_
          rintro e w3 ⟨rfl, hb3⟩
          go_wp2_with fail
          go_roundw
          case rel =>
            refine ⟨j + 1, _, by go_num, congrArg Value.string (strB_app _ _), ?_, ?_, by omega, ((jH.alloc _).below hb3 (jH.alloc _).lt), ((jg.alloc _).below hb3 (jg.alloc _).lt), btrans (balloc hbr _) hb3⟩
            · rw [HSN.out, HX.out]; simp [Pg.D.get]
            · rw [List.length_append, List.length_cons]; omega
          case measure => simp [intOf]; omega
        · have hbd' : -1000000 ≤ n ∧ n ≤ 1000000 := hbd
          have hil := Pg.itoa_len n hbd'
          clear hbd
          go_wp2_with (first | (go_at_call 34; go_in) | fail)
          refine (itoa_any _ hbd'.1 hbd'.2 _ (HE.out.below (balloc hbr _))).mono ?_
          rintro e w3 ⟨rfl, hb3⟩
          go_wp2_with fail
          go_roundw
          case rel =>
            refine ⟨j + 1, _, by go_num, congrArg Value.string (strB_app _ _), ?_, ?_, by omega, ((jH.alloc _).below hb3 (jH.alloc _).lt), ((jg.alloc _).below hb3 (jg.alloc _).lt), btrans (balloc hbr _) hb3⟩
            · rw [HSN.out, HX.out]; simp [Pg.D.get]
            · rw [List.length_append, List.length_cons]; omega
          case measure => simp [intOf]; omega
      · obtain rfl : j = ps.length := by omega
        rw [List.take_length] at HX
        go_wp2_with fail
        go_ret2
        refine ⟨?_, hbr⟩
        rw [HPR.out, ← HX.out]
        rfl
theorem print_no (k a b i n : Int) (hr : Pg.right ⟨k, a, b, i, n⟩ = false) (w : World) : Calls Tryd.prog 11 #[.agg #[.int .i64 k, .int .i64 a, .int .i64 b, .int .i64 i, .int .i64 n]] w fun e w' =>
    e = .returned (.tuple #[.string ⟨#[]⟩, .int .i64 1]) ∧ Below w.heap.size w w' := by
  have HR := Lib.hid hr
  clear hr
  go_enter Tryd.func11, Tryd.ntmps11
  go_wp2_with fail
  refine (right_any k a b i n _).mono ?_
  rw [HR.out]
  rintro e w1 ⟨rfl, hb1⟩
  go_wp2_with fail
  go_ret2
  exact ⟨rfl, btrans (balloc (Below.refl _ _) _) hb1⟩
/-- A deed's text. -/
theorem print_any (k a b i n : Int) (w : World) (hE : Env w) : Calls Tryd.prog 11 #[.agg #[.int .i64 k, .int .i64 a, .int .i64 b, .int .i64 i, .int .i64 n]] w fun e w' =>
    e = .returned (.tuple #[.string (strB (printed ⟨k, a, b, i, n⟩)), .int .i64 (printE ⟨k, a, b, i, n⟩)]) ∧ Below w.heap.size w w' := by
  cases hr : Pg.right ⟨k, a, b, i, n⟩
  · simp only [printed, printE, hr, Bool.false_eq_true, if_false]
    exact print_no k a b i n hr w
  · simp only [printed, printE, hr, if_true]
    exact print_yes k a b i n hr w hE
end Go.Proofs.YthchcnbgjklbhaaDoor
