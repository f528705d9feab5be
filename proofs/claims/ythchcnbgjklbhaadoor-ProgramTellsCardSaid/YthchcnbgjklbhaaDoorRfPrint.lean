/- Walk: the document's own Print. -/
import Derived.Test.YthchcnbgjklbhaaDoorRfRight
namespace Go.Proofs.YthchcnbgjklbhaaDoor
open Go.RowKit
set_option maxRecDepth 100000 in
theorem number_any (n : Int) (h : -1000000000 < n ∧ n < 1000000000) (w : World) : Calls Tryd.prog 23 #[.int .i64 n] w fun e w' =>
    e = .returned (.string (strB (Lib.itoa n))) ∧ Below w.heap.size w w' := by
  by_cases h0 : n < 0
  · obtain ⟨u, hu⟩ : ∃ u : Nat, -n = u := ⟨n.natAbs, by omega⟩
    have hN := number_nat u
    have hl := Pg.dec_len 9 u (by omega)
    have e : strB (Lib.itoa n) = ⟨#[45]⟩ ++ strB (Lib.decDigits u) := by
      unfold Lib.itoa
      rw [if_pos h0, show n.natAbs = u from by omega]
      apply ByteArray.ext
      rw [ByteArray.data_append]
      simp [strB]
    have hl2 : (strB (Lib.decDigits u)).size ≤ 10 := by rw [strB_size]; exact hl
    obtain ⟨D, hD⟩ : ∃ D, D = strB (Lib.decDigits u) := ⟨_, rfl⟩
    rw [← hD] at hN hl2 e
    rw [e]
    have HN := Lib.hid hN
    have HU := Lib.hid hu
    clear hN e hD hl
    have hu2 : u < 1000000000 := by omega
    clear hu
    go_enter Tryd.func23, Tryd.ntmps23
    go_wp2_with fail
    rw [HU.out]
    refine (HN.out _ hu2).mono ?_
    rintro e w1 ⟨rfl, hb1⟩
    go_wp2_with fail
    go_ret
    exact ⟨rfl, hb1⟩
  · obtain ⟨u, rfl⟩ : ∃ u : Nat, n = u := ⟨n.toNat, by omega⟩
    have e : Lib.itoa (u : Int) = Lib.decDigits u := by unfold Lib.itoa; rw [if_neg h0]; rfl
    rw [e]
    exact number_nat u w (by omega)
theorem strB_app2 (x y : List UInt8) : strB x ++ ⟨#[32]⟩ ++ strB y = strB (x ++ 32 :: y) := by
  apply ByteArray.ext
  rw [ByteArray.data_append, ByteArray.data_append]
  simp [strB]
def RPrintSaid (k a b i n : Int) (w : World) : Prop := Calls Tryd.prog 12 #[.agg #[.int .i64 k, .int .i64 a, .int .i64 b, .int .i64 i, .int .i64 n]] w fun e w' =>
    e = .returned (.tuple #[.string (strB (printed ⟨k, a, b, i, n⟩)), .int .i64 (printE ⟨k, a, b, i, n⟩)]) ∧ Below w.heap.size w w'
theorem rprint_no (k a b i n : Int) (hr : Pg.right ⟨k, a, b, i, n⟩ = false) (w : World) : RPrintSaid k a b i n w := by
  unfold RPrintSaid
  simp only [printed, printE, hr, Bool.false_eq_true, if_false]
  have HR := Lib.hid (rright_any k a b i n)
  unfold RRightSaid at HR
  rw [hr] at HR
  clear hr
  go_enter Tryd.func12, Tryd.ntmps12
  go_wp2_with fail
  refine (HR.out _).mono ?_
  rintro e w1 ⟨rfl, hb1⟩
  go_wp2_with fail
  go_ret2
  exact ⟨rfl, btrans (balloc (Below.refl _ _) _) hb1⟩
set_option maxRecDepth 100000 in
set_option maxHeartbeats 4000000 in
theorem rprint_yes (k a b i n : Int) (hr : Pg.right ⟨k, a, b, i, n⟩ = true) (w : World) : RPrintSaid k a b i n w := by
  unfold RPrintSaid
  simp only [printed, printE, hr, if_true]
  have HR := Lib.hid (rright_any k a b i n)
  unfold RRightSaid at HR
  rw [hr] at HR
  have hk := Pg.right_kind hr
  simp only at hk
  have hpb := Pg.right_parts hr
  simp only at hpb
  have hbd : ∀ p ∈ Pg.parts k, -1000000 ≤ (⟨k, a, b, i, n⟩ : Pg.D).get p.f ∧ (⟨k, a, b, i, n⟩ : Pg.D).get p.f ≤ 1000000 := fun p hp => by
    have := hpb p hp; have := Pg.parts_bd p hp; omega
  have hlen : (Pg.parts k).length ≤ 3 := (Pg.word_len k hk).2.2.1
  have hwl := (Pg.word_len k hk).2.1
  have hfs : ∀ p ∈ Pg.parts k, p.f = 1 ∨ p.f = 2 ∨ p.f = 3 ∨ p.f = 4 := fun p hp => by have := Pg.parts_bd p hp; omega
  have hpr : Pg.print ⟨k, a, b, i, n⟩ = Pg.word k ++ ((Pg.parts k).flatMap fun p => 32 :: Lib.itoa ((⟨k, a, b, i, n⟩ : Pg.D).get p.f)) := rfl
  obtain ⟨ps, hps⟩ : ∃ ps, ps = Pg.parts k := ⟨_, rfl⟩
  obtain ⟨L, hL⟩ : ∃ L, L = strB (letters ps) := ⟨_, rfl⟩
  have hLs : L.size = 2 * ps.length := by rw [hL, strB_size, letters_len]
  rw [← hps] at hlen hfs hbd hpr
  have hat : ∀ (j : Nat) (p : Pg.Pt), ps[j]? = some p → ∃ (h1 : 2 * j < L.size), ((L[2 * j]'h1).toNat : Int) = flet p.f := by
    intro j p hp
    have hj := (List.getElem?_eq_some_iff.1 hp).1
    refine ⟨by omega, ?_⟩
    subst hL
    rw [strB_at (letters_at ps j p hp).1, flet_byte]
  have HF := Lib.hid (rform_any k)
  unfold RFormSaid at HF
  rw [← hps, ← hL, decide_eq_true hk, wordB_word] at HF
  have HFS := Lib.hid hfs
  have HBD := Lib.hid hbd
  have HAT := Lib.hid hat
  have HPR := Lib.hid hpr
  clear hfs hbd hat hps hL hr hpb hpr hk
  go_enter Tryd.func12, Tryd.ntmps12
  go_wp2_with fail
  refine (HR.out _).mono ?_
  rintro e w1 ⟨rfl, hb1⟩
  have jA : Blk w1 w.heap.size (dcells ⟨k, a, b, i, n⟩) 23 := (Blk.new w _ _).below hb1 (by simp)
  have hw1 : Below w.heap.size w w1 := btrans (balloc (Below.refl _ _) _) hb1
  clear hb1
  have c1 := jA.cell
  have s1 := jA.lt
  simp only [dcells] at c1
  go_wp2_with fail
  refine (HF.out _).mono ?_
  rintro e w2 ⟨rfl, rfl⟩
  go_wp2_with fail
  go_loopw [5, 8] (fun t ix wr => ∃ (j m : Nat) (x : List UInt8), ix = .int .i64 m ∧ m = 2 * j ∧ t = .string (strB x) ∧ x = Pg.word k ++ ((ps.take j).flatMap fun p => 32 :: Lib.itoa ((⟨k, a, b, i, n⟩ : Pg.D).get p.f)) ∧ x.length ≤ 5 + 9 * j ∧ j ≤ ps.length ∧ Blk wr w.heap.size (dcells ⟨k, a, b, i, n⟩) 23 ∧ Below w.heap.size w wr) (fun _ ix _ => 2 * ps.length - (intOf ix).toNat)
  case atStart => exact ⟨0, 0, _, rfl, rfl, rfl, by simp, by omega, by omega, jA, hw1⟩
  case round =>
    clear jA hw1 c1 s1
    obtain ⟨j, m, x, rfl, hm, rfl, hx, hxl, hj, jA, hbr⟩ := hrel
    obtain ⟨wo, rfl⟩ : ∃ wo : World, wo = wr := ⟨_, rfl⟩
    have hxs : (strB x).size ≤ 100 := by rw [strB_size]; omega
    have HX := Lib.hid hx
    clear hx
    have cA := jA.cell
    have sA := jA.lt
    simp only [dcells] at cA
    by_cases hlt : j < ps.length
    · obtain ⟨p, hpj⟩ : ∃ p, ps[j]? = some p := ⟨ps[j], List.getElem?_eq_getElem hlt⟩
      have hpf := HFS.out p (List.mem_of_getElem? hpj)
      obtain ⟨h1, q1⟩ : ∃ (h1 : m < L.size), ((L[m]'h1).toNat : Int) = flet p.f := by
        subst hm; exact HAT.out j p hpj
      have hbd := HBD.out p (List.mem_of_getElem? hpj)
      have HSN := Lib.hid (take_snoc' ps j p hpj)
      obtain ⟨v, hv⟩ : ∃ v, v = Pg.D.get ⟨k, a, b, i, n⟩ p.f := ⟨_, rfl⟩
      have HG := Lib.hid (rget_any k a b i n p.f hpf)
      rw [← hv] at HG hbd
      have hil := Pg.itoa_len v hbd
      have his : (strB (Lib.itoa v)).size ≤ 8 := by rw [strB_size]; exact hil
      have hml : (m : Int) < 2 * (ps.length : Int) := by omega
      have HM := Lib.hid hm
      have HV := Lib.hid hv
      have HBV := Lib.hid (show -1000000000 < v ∧ v < 1000000000 by omega)
      clear hm hv hpf hpj hbd
      go_upto_region 8 with fail
      go_region_with (first
        | (go_at_call 24; refine (HG.out _).mono ?_; rintro e w2 ⟨rfl, hb2⟩)
        | (go_at_call 23; refine (number_any v HBV.out _).mono ?_; rintro e w3 ⟨rfl, hb3⟩)
        | fail)
      all_goals
        go_wp2_with fail
        go_roundw
        case rel =>
          have hm := HM.out
          refine ⟨j + 1, m + 2, _, by simp, by omega, congrArg Value.string (strB_app2 _ _), ?_, ?_, by omega, ((drewBk jA).below hb2 (drewBk jA).lt).below hb3 ((drewBk jA).below hb2 (drewBk jA).lt).lt, btrans (btrans (Below.drew hbr) hb2) hb3⟩
          · rw [HSN.out, HX.out, HV.out]; simp
          · rw [List.length_append, List.length_cons]; omega
        case measure => simp [intOf]; omega
    · obtain rfl : j = ps.length := by omega
      have hml : ¬ (m : Int) < 2 * (ps.length : Int) := by omega
      rw [List.take_length] at HX
      clear hm
      go_wp2_with fail
      go_ret2
      refine ⟨?_, hbr⟩
      rw [HPR.out, ← HX.out]
      rfl
/-- A deed's text, as the document has it. -/
theorem rprint_any (k a b i n : Int) (w : World) : RPrintSaid k a b i n w := by
  cases hr : Pg.right ⟨k, a, b, i, n⟩
  · exact rprint_no k a b i n hr w
  · exact rprint_yes k a b i n hr w
end Go.Proofs.YthchcnbgjklbhaaDoor
