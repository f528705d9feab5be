/- Walk: the document's own Check. -/
import Derived.Test.YthchcnbgjklbhaaDoorRfRight
import Derived.Test.YthchcnbgjklbhaaDoorPgCheck
namespace Go.Proofs.YthchcnbgjklbhaaDoor
open Go.RowKit
def RCheckSaid (v : Value) (ths : List (List (List Pg.D))) (w : World) : Prop :=
  Calls Tryd.prog 14 #[v] w fun e w' => e = .returned (checkV (check ths)) ∧ Below w.heap.size w w'
theorem rcheck_short (v : Value) (ths : List (List (List Pg.D))) (w : World) (h : ThreadsAt w v ths) (hl : ths.length < 1 ∨ 8 < ths.length) : RCheckSaid v ths w := by
  have he : check ths = (150, 0, 0, 0) := by unfold check; rw [if_pos hl]
  obtain ⟨h0, vs, _, ⟨a, c, rfl, _⟩, _⟩ := h
  unfold RCheckSaid checkV
  rw [he]
  unfold maxLen at h0
  clear he
  rcases hl with hl | hl
  · go_enter Tryd.func14, Tryd.ntmps14
    go_wp2
    refine bodyPost_ret (v := .tuple #[.int .i64 150, .agg #[.int .i64 0, .int .i64 0, .int .i64 0]]) (by simp [results, Tryd.results14, go_sem]) rfl ⟨rfl, ?_⟩
    repeat (first | exact Below.refl _ _ | refine balloc ?_ _ | refine bset ?_ (by simp; try omega) _)
  · go_enter Tryd.func14, Tryd.ntmps14
    go_wp2
    refine bodyPost_ret (v := .tuple #[.int .i64 150, .agg #[.int .i64 0, .int .i64 0, .int .i64 0]]) (by simp [results, Tryd.results14, go_sem]) rfl ⟨rfl, ?_⟩
    repeat (first | exact Below.refl _ _ | refine balloc ?_ _ | refine bset ?_ (by simp; try omega) _)
set_option maxHeartbeats 4000000 in
theorem rcheck_any (v : Value) (ths : List (List (List Pg.D))) (w : World) (h : ThreadsAt w v ths) : RCheckSaid v ths w := by
  by_cases hl : ths.length < 1 ∨ 8 < ths.length
  · exact rcheck_short v ths w h hl
  obtain ⟨h0, vs, hvs, ⟨a, c, rfl, hc⟩, hb⟩ := h
  unfold RCheckSaid
  unfold maxLen at h0
  have hl1 : 1 ≤ ths.length := by omega
  have hl8 : ths.length ≤ 8 := by omega
  obtain ⟨bb, off, rfl, hcc⟩ : ∃ b off, a = some ⟨b, off, none⟩ ∧ ∀ j x, vs[j]? = some x → w.cell? ⟨b, off + j, none⟩ = some x := by
    rcases hc with h | h
    · rw [h] at hvs; simp at hvs; omega
    · exact h
  have HC := Lib.hid hcc
  have HB := Lib.hid hb
  have hbs : bb < w.heap.size := by
    obtain ⟨x, hx⟩ : ∃ x, vs[0]? = some x := ⟨vs[0]'(by omega), List.getElem?_eq_getElem (by omega)⟩
    exact cell_in (hcc 0 x hx)
  clear hl hc hcc hb hvs
  go_enter Tryd.func14, Tryd.ntmps14
  go_wp2_with fail
  go_loopw [4] (fun ix wr => ∃ t : Nat, ix = .int .i64 t ∧ t ≤ ths.length ∧ Hid (∀ (j : Nat) (z : List (List Pg.D)), j < t → ths[j]? = some z → tErr z = none) ∧ Blk wr w.heap.size #[.int .i64 0, .int .i64 0, .int .i64 0] 30 ∧ Below w.heap.size w wr) (fun ix _ => ths.length - (intOf ix).toNat)
  case atStart => exact ⟨0, rfl, by omega, Lib.hid (fun j z h => by omega), Blk.new _ _ _, balloc (Below.refl _ _) _⟩
  case round =>
    obtain ⟨t, rfl, ht, hok, jR, hbr⟩ := hrel
    obtain ⟨wo, rfl⟩ : ∃ wo : World, wo = wr := ⟨_, rfl⟩
    have cR := jR.cell
    have zR := jR.free
    have sR := jR.lt
    by_cases hlt : t < ths.length
    · obtain ⟨ls, hls⟩ : ∃ ls, ths[t]? = some ls := ⟨ths[t], List.getElem?_eq_getElem hlt⟩
      obtain ⟨u, hu, hbu⟩ := HB.out t ls hls
      have qt := (hbr.cell (p := ⟨bb, off + t, none⟩) hbs).trans (HC.out t u hu)
      obtain ⟨hL0, us, hus, ⟨a2, c2, rfl, hc2⟩, hb2⟩ := hbu
      have HQT := Lib.hid (HC.out t _ hu)
      unfold maxLen at hL0
      have HLS := Lib.hid hls
      have HC2 := Lib.hid hc2
      have HB2 := Lib.hid hb2
      clear hls hu hc2 hb2
      by_cases h6 : 6 < ls.length
      · have he := check_t hl1 hl8 hok.out HLS.out (show tErr ls = some (0, 0) by unfold tErr; rw [if_pos h6])
        have HE := Lib.hid he
        clear he hus
        go_wp2_with fail
        refine bodyPost_ret (v := .tuple #[.int .i64 150, .agg #[.int .i64 t, .int .i64 0, .int .i64 0]]) (by simp [results, Tryd.results14, go_sem, cR]) rfl ?_
        refine ⟨by rw [HE.out]; rfl, ?_⟩
        repeat (first | exact hbr | refine bset ?_ (Nat.le_refl _) _)
      · go_wp2_with fail
        go_loopw [5] (fun ix wr => ∃ b : Nat, ix = .int .i64 b ∧ b ≤ ls.length ∧ Hid (∀ (j : Nat) (z : List Pg.D), j < b → ls[j]? = some z → bErr z = none) ∧ Blk wr w.heap.size #[.int .i64 0, .int .i64 0, .int .i64 0] 30 ∧ Below w.heap.size w wr) (fun ix _ => ls.length - (intOf ix).toNat)
        case atStart => exact ⟨0, rfl, by omega, Lib.hid (fun j z h => by omega), jR, hbr⟩
        case round =>
          clear cR zR sR jR hbr
          clear qt
          obtain ⟨b, rfl, hb, hokb, jR, hbr⟩ := hrel
          obtain ⟨wo2, rfl⟩ : ∃ wo2 : World, wo2 = wr := ⟨_, rfl⟩
          have qt := (hbr.cell (p := ⟨bb, off + t, none⟩) hbs).trans HQT.out
          have cR := jR.cell
          have zR := jR.free
          have sR := jR.lt
          by_cases hltb : b < ls.length
          · obtain ⟨l, hl⟩ : ∃ l, ls[b]? = some l := ⟨ls[b], List.getElem?_eq_getElem hltb⟩
            obtain ⟨u2, hu2, hbu2⟩ := HB2.out b l hl
            obtain ⟨bb2, off2, rfl, hcc2⟩ : ∃ b off, a2 = some ⟨b, off, none⟩ ∧ ∀ j x, us[j]? = some x → w.cell? ⟨b, off + j, none⟩ = some x := by
              rcases HC2.out with h | h
              · rw [h] at hus; simp at hus; omega
              · exact h
            have hq2 := hcc2 b u2 hu2
            have q2 := (hbr.cell (p := ⟨bb2, off2 + b, none⟩) (cell_in hq2)).trans hq2
            obtain ⟨hL2, a3, c3, rfl, hc3⟩ := hbu2
            unfold maxLen at hL2
            have HL := Lib.hid hl
            have HC3 := Lib.hid hc3
            clear hl hu2 hq2 hcc2 hc3
            by_cases h12 : l.length < 1 ∨ 12 < l.length
            · have he := check_t hl1 hl8 hok.out HLS.out (tErr_b (by omega) hokb.out HL.out (show bErr l = some 0 by unfold bErr; rw [if_pos h12]))
              have HE := Lib.hid he
              clear he hus
              rcases h12 with h12 | h12
              all_goals
                go_wp2_with fail
                refine bodyPost_ret (v := .tuple #[.int .i64 150, .agg #[.int .i64 t, .int .i64 b, .int .i64 0]]) (by simp [results, Tryd.results14, go_sem, cR]) rfl ?_
                refine ⟨by rw [HE.out]; rfl, ?_⟩
                repeat (first | exact hbr | refine bset ?_ (Nat.le_refl _) _)
            · have hm1 : 1 ≤ l.length := by omega
              have hm12 : l.length ≤ 12 := by omega
              clear h12
              go_wp2_with fail
              go_loopw [7] (fun ix wr => ∃ n : Nat, ix = .int .i64 n ∧ n ≤ l.length ∧ Hid (∀ (j : Nat) (z : Pg.D), j < n → l[j]? = some z → Pg.right z = true) ∧ Blk wr w.heap.size #[.int .i64 0, .int .i64 0, .int .i64 0] 30 ∧ Below w.heap.size w wr) (fun ix _ => l.length - (intOf ix).toNat)
              case atStart => exact ⟨0, rfl, by omega, Lib.hid (fun j z h => by omega), jR, hbr⟩
              case round =>
                clear cR zR sR jR hbr
                obtain ⟨n, rfl, hn, hokn, jR, hbr⟩ := hrel
                have cR := jR.cell
                have zR := jR.free
                have sR := jR.lt
                by_cases hltn : n < l.length
                · obtain ⟨d, hd⟩ : ∃ d, l[n]? = some d := ⟨l[n], List.getElem?_eq_getElem hltn⟩
                  obtain ⟨bb3, off3, rfl, hcc3⟩ : ∃ b off, a3 = some ⟨b, off, none⟩ ∧ ∀ j x, (dflat l)[j]? = some x → w.cell? ⟨b, off + j, none⟩ = some x := by
                    rcases HC3.out with h | h
                    · have := (dflat_at l n d hd).1; rw [h] at this; simp at this
                    · exact h
                  obtain ⟨f0, f1, f2, f3, f4⟩ := dflat_at l n d hd
                  have e0 := hcc3 _ _ f0
                  have hb3 := cell_in e0
                  have e0 := (hbr.cell (p := ⟨bb3, off3 + n * 5, none⟩) hb3).trans e0
                  have e1 := (hbr.cell (p := ⟨bb3, off3 + (n * 5 + 1), none⟩) hb3).trans (hcc3 _ _ f1)
                  have e2 := (hbr.cell (p := ⟨bb3, off3 + (n * 5 + 2), none⟩) hb3).trans (hcc3 _ _ f2)
                  have e3 := (hbr.cell (p := ⟨bb3, off3 + (n * 5 + 3), none⟩) hb3).trans (hcc3 _ _ f3)
                  have e4 := (hbr.cell (p := ⟨bb3, off3 + (n * 5 + 4), none⟩) hb3).trans (hcc3 _ _ f4)
                  simp only [← Nat.add_assoc] at e1 e2 e3 e4
                  have HD := Lib.hid hd
                  clear hd hcc3 f0 f1 f2 f3 f4
                  go_wp2_with fail
                  refine Calls.mono (rright_any _ _ _ _ _ _) ?_
                  rintro e w3 ⟨rfl, hb4⟩
                  have mR := jR.below hb4 jR.lt
                  have nR := mR.cell
                  have nz := mR.free
                  have ns := mR.lt
                  have hbw := btrans hbr hb4
                  clear cR zR sR jR hbr e0 e1 e2 e3 e4
                  cases hri : Pg.right ⟨d.k, d.a, d.b, d.i, d.n⟩
                  · have he := check_t hl1 hl8 hok.out HLS.out (tErr_b (by omega) hokb.out HL.out (bErr_n hm1 hm12 hokn.out HD.out hri))
                    have HE := Lib.hid he
                    clear he hri
                    go_wp2_with fail
                    refine bodyPost_ret (v := .tuple #[.int .i64 150, .agg #[.int .i64 t, .int .i64 b, .int .i64 n]]) (by simp [results, Tryd.results14, go_sem, nR]) rfl ?_
                    refine ⟨by rw [HE.out]; rfl, ?_⟩
                    repeat (first | exact hbw | refine bset ?_ (Nat.le_refl _) _)
                  · have HRI := Lib.hid hri
                    clear hri
                    go_wp2_with fail
                    go_roundw
                    case rel =>
                      refine ⟨n + 1, by go_num, by omega, Lib.hid (fun j z hj hz => ?_), mR, hbw⟩
                      by_cases e : j = n
                      · subst e
                        rw [HD.out] at hz
                        injection hz with hz
                        rw [← hz]; exact HRI.out
                      · exact hokn.out j z (by omega) hz
                    case measure => simp [intOf]; omega
                · obtain rfl : n = l.length := by omega
                  have he := bErr_ok hm1 hm12 hokn.out
                  have HE := Lib.hid he
                  clear he
                  go_wp2_with fail
                  go_roundw
                  case rel =>
                    refine ⟨b + 1, by go_num, by omega, Lib.hid (fun j z hj hz => ?_), jR, hbr⟩
                    by_cases e : j = b
                    · subst e
                      rw [HL.out] at hz
                      injection hz with hz
                      rw [← hz]; exact HE.out
                    · exact hokb.out j z (by omega) hz
                  case measure => simp [intOf]; omega
          · obtain rfl : b = ls.length := by omega
            have he := tErr_ok (by omega) hokb.out
            have HE := Lib.hid he
            clear he hus
            go_wp2_with fail
            go_roundw
            case rel =>
              refine ⟨t + 1, by go_num, by omega, Lib.hid (fun j z hj hz => ?_), jR, hbr⟩
              by_cases e : j = t
              · subst e
                rw [HLS.out] at hz
                injection hz with hz
                rw [← hz]; exact HE.out
              · exact hok.out j z (by omega) hz
            case measure => simp [intOf]; omega
    · obtain rfl : t = ths.length := by omega
      have he := check_ok hl1 hl8 hok.out
      have HE := Lib.hid he
      clear he
      go_wp2_with fail
      refine bodyPost_ret (v := .tuple #[.int .i64 0, .agg #[.int .i64 0, .int .i64 0, .int .i64 0]]) (by simp [results, Tryd.results14, go_sem, cR]) rfl ?_
      refine ⟨by rw [HE.out]; rfl, ?_⟩
      repeat (first | exact hbr | refine bset ?_ (Nat.le_refl _) _)
end Go.Proofs.YthchcnbgjklbhaaDoor
