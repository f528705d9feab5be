/- Walk: where threads' blocks are not right first (Check). -/
import Derived.Test.YthchcnbgjklbhaaDoorPgRight
namespace Go.Proofs.YthchcnbgjklbhaaDoor
open Go.RowKit
/-- A slice whose elements' cells are cs (sz cells each, n elements). -/
def Sl (w : World) (v : Value) (n : Nat) (cs : List Value) : Prop :=
  ∃ a c, v = .slice a n c ∧ (cs = [] ∨ ∃ b off, a = some ⟨b, off, none⟩ ∧ ∀ j x, cs[j]? = some x → w.cell? ⟨b, off + j, none⟩ = some x)
theorem cell_in {w : World} {b o : Nat} {v : Value} (h : w.cell? ⟨b, o, none⟩ = some v) : b < w.heap.size := by
  unfold World.cell? at h
  split at h
  · rename_i h'; exact (Array.getElem?_eq_some_iff.1 h').1
  · cases h
theorem Sl.below {w w' : World} {v : Value} {n : Nat} {cs : List Value} (h : Sl w v n cs) (k : Below w.heap.size w w') : Sl w' v n cs := by
  obtain ⟨a, c, rfl, h0⟩ := h
  refine ⟨a, c, rfl, h0.imp id ?_⟩
  rintro ⟨b, off, rfl, h⟩
  refine ⟨b, off, rfl, fun j x hx => ?_⟩
  have hc := h j x hx
  have hlt : b < w.heap.size := by
    unfold World.cell? at hc
    split at hc
    · rename_i h'; exact (Array.getElem?_eq_some_iff.1 h').1
    · cases hc
  exact (k.cell (p := ⟨b, off + j, none⟩) hlt).trans hc
theorem Sl.blk {w : World} {g n c : Nat} {cs : Array Value} {t : TypeId} (h : Blk w g cs t) : Sl w (.slice (some ⟨g, 0, none⟩) n c) n cs.toList :=
  ⟨_, _, rfl, .inr ⟨g, 0, rfl, fun j x hx => by rw [h.cell]; simpa using hx⟩⟩
theorem Sl.nil (w : World) : Sl w (.slice none 0 0) 0 [] := ⟨_, _, rfl, .inl rfl⟩
def dflat (l : List Pg.D) : List Value := l.flatMap fun d => (dcells d).toList
/-- Deeds, blocks, threads in memory. -/
def DeedsAt (w : World) (v : Value) (l : List Pg.D) : Prop := l.length ≤ maxLen ∧ Sl w v l.length (dflat l)
def BlocksAt (w : World) (v : Value) (ls : List (List Pg.D)) : Prop :=
  ls.length ≤ maxLen ∧ ∃ vs : List Value, vs.length = ls.length ∧ Sl w v ls.length vs ∧ ∀ (j : Nat) (l : List Pg.D), ls[j]? = some l → ∃ u : Value, vs[j]? = some u ∧ DeedsAt w u l
def ThreadsAt (w : World) (v : Value) (ths : List (List (List Pg.D))) : Prop :=
  ths.length ≤ maxLen ∧ ∃ vs : List Value, vs.length = ths.length ∧ Sl w v ths.length vs ∧ ∀ (j : Nat) (l : List (List Pg.D)), ths[j]? = some l → ∃ u : Value, vs[j]? = some u ∧ BlocksAt w u l
theorem DeedsAt.below {w w' : World} {v : Value} {l : List Pg.D} (h : DeedsAt w v l) (k : Below w.heap.size w w') : DeedsAt w' v l := ⟨h.1, h.2.below k⟩
theorem BlocksAt.below {w w' : World} {v : Value} {l : List (List Pg.D)} (h : BlocksAt w v l) (k : Below w.heap.size w w') : BlocksAt w' v l := by
  obtain ⟨h0, vs, h1, h2, h3⟩ := h
  exact ⟨h0, vs, h1, h2.below k, fun j l hl => let ⟨u, hu, hd⟩ := h3 j l hl; ⟨u, hu, hd.below k⟩⟩
theorem ThreadsAt.below {w w' : World} {v : Value} {l : List (List (List Pg.D))} (h : ThreadsAt w v l) (k : Below w.heap.size w w') : ThreadsAt w' v l := by
  obtain ⟨h0, vs, h1, h2, h3⟩ := h
  exact ⟨h0, vs, h1, h2.below k, fun j l hl => let ⟨u, hu, hd⟩ := h3 j l hl; ⟨u, hu, hd.below k⟩⟩
/-! ### the plain law of Check -/
def first {α β : Type} (f : α → Option β) : Nat → List α → Option (Nat × β)
  | _, [] => none
  | i, x :: xs => match f x with
    | some y => some (i, y)
    | none => first f (i + 1) xs
theorem first_at {α β : Type} (f : α → Option β) : ∀ (l : List α) (i k : Nat) (x : α) (y : β), (∀ j z, j < k → l[j]? = some z → f z = none) → l[k]? = some x → f x = some y → first f i l = some (i + k, y)
  | [], i, k, x, y, _, h, _ => by simp at h
  | a :: l, i, 0, x, y, _, h, hy => by
    simp only [List.getElem?_cons_zero, Option.some.injEq] at h
    subst h
    simp [first, hy]
  | a :: l, i, k + 1, x, y, hn, h, hy => by
    have ha : f a = none := hn 0 a (by omega) rfl
    simp only [first, ha]
    rw [first_at f l (i + 1) k x y (fun j z hj hz => hn (j + 1) z (by omega) (by simpa using hz)) (by simpa using h) hy]
    congr 2; omega
theorem first_none {α β : Type} (f : α → Option β) : ∀ (l : List α) (i : Nat), (∀ z ∈ l, f z = none) → first f i l = none
  | [], _, _ => rfl
  | a :: l, i, h => by simp only [first, h a (by simp)]; exact first_none f l (i + 1) fun z hz => h z (by simp [hz])
def dErr (d : Pg.D) : Option Unit := if Pg.right d = true then none else some ()
def bErr (l : List Pg.D) : Option Nat := if l.length < 1 ∨ 12 < l.length then some 0 else (first dErr 0 l).map (·.1)
def tErr (ls : List (List Pg.D)) : Option (Nat × Nat) := if 6 < ls.length then some (0, 0) else first bErr 0 ls
/-- What Check tells. -/
def check (ths : List (List (List Pg.D))) : Int × Nat × Nat × Nat :=
  if ths.length < 1 ∨ 8 < ths.length then (150, 0, 0, 0)
  else match first tErr 0 ths with
    | some (t, b, n) => (150, t, b, n)
    | none => (0, 0, 0, 0)
def checkV (r : Int × Nat × Nat × Nat) : Value := .tuple #[.int .i64 r.1, .agg #[.int .i64 r.2.1, .int .i64 r.2.2.1, .int .i64 r.2.2.2]]
theorem dflat_at : ∀ (l : List Pg.D) (j : Nat) (d : Pg.D), l[j]? = some d →
    (dflat l)[j * 5]? = some (.int .i64 d.k) ∧ (dflat l)[j * 5 + 1]? = some (.int .i64 d.a) ∧ (dflat l)[j * 5 + 2]? = some (.int .i64 d.b) ∧ (dflat l)[j * 5 + 3]? = some (.int .i64 d.i) ∧ (dflat l)[j * 5 + 4]? = some (.int .i64 d.n)
  | [], j, d, h => by simp at h
  | q :: l, 0, d, h => by
    simp only [List.getElem?_cons_zero, Option.some.injEq] at h
    subst h
    exact ⟨rfl, rfl, rfl, rfl, rfl⟩
  | q :: l, j + 1, d, h => by
    have ih := dflat_at l j d (by simpa using h)
    have e : dflat (q :: l) = [.int .i64 q.k, .int .i64 q.a, .int .i64 q.b, .int .i64 q.i, .int .i64 q.n] ++ dflat l := rfl
    rw [e, show (j + 1) * 5 = j * 5 + 5 from by omega]
    refine ⟨?_, ?_, ?_, ?_, ?_⟩ <;> rw [List.getElem?_append_right (by simp)]
    · simpa using ih.1
    · simpa using ih.2.1
    · simpa using ih.2.2.1
    · simpa using ih.2.2.2.1
    · simpa using ih.2.2.2.2
theorem check_t {ths : List (List (List Pg.D))} (h1 : 1 ≤ ths.length) (h8 : ths.length ≤ 8) {t : Nat} {ls : List (List Pg.D)} {b n : Nat}
    (hn : ∀ (j : Nat) (z : List (List Pg.D)), j < t → ths[j]? = some z → tErr z = none) (ht : ths[t]? = some ls) (he : tErr ls = some (b, n)) : check ths = (150, t, b, n) := by
  unfold check
  rw [if_neg (by omega), first_at tErr ths 0 t ls (b, n) hn ht he]
  simp
theorem check_ok {ths : List (List (List Pg.D))} (h1 : 1 ≤ ths.length) (h8 : ths.length ≤ 8)
    (hn : ∀ (j : Nat) (z : List (List Pg.D)), j < ths.length → ths[j]? = some z → tErr z = none) : check ths = (0, 0, 0, 0) := by
  unfold check
  rw [if_neg (by omega), first_none tErr ths 0 (fun z hz => by obtain ⟨j, hj⟩ := List.getElem?_of_mem hz; exact hn j z (List.getElem?_eq_some_iff.1 hj).1 hj)]
theorem tErr_b {ls : List (List Pg.D)} (h6 : ls.length ≤ 6) {b n : Nat} {l : List Pg.D}
    (hn : ∀ (j : Nat) (z : List Pg.D), j < b → ls[j]? = some z → bErr z = none) (hb : ls[b]? = some l) (he : bErr l = some n) : tErr ls = some (b, n) := by
  unfold tErr
  rw [if_neg (by omega), first_at bErr ls 0 b l n hn hb he]
  simp
theorem tErr_ok {ls : List (List Pg.D)} (h6 : ls.length ≤ 6) (hn : ∀ (j : Nat) (z : List Pg.D), j < ls.length → ls[j]? = some z → bErr z = none) : tErr ls = none := by
  unfold tErr
  rw [if_neg (by omega), first_none bErr ls 0 (fun z hz => by obtain ⟨j, hj⟩ := List.getElem?_of_mem hz; exact hn j z (List.getElem?_eq_some_iff.1 hj).1 hj)]
theorem bErr_n {l : List Pg.D} (h1 : 1 ≤ l.length) (h12 : l.length ≤ 12) {n : Nat} {d : Pg.D}
    (hn : ∀ (j : Nat) (z : Pg.D), j < n → l[j]? = some z → Pg.right z = true) (hd : l[n]? = some d) (he : Pg.right d = false) : bErr l = some n := by
  unfold bErr
  rw [if_neg (by omega), first_at dErr l 0 n d () (fun j z hj hz => by simp [dErr, hn j z hj hz]) hd (by simp [dErr, he])]
  simp
theorem bErr_ok {l : List Pg.D} (h1 : 1 ≤ l.length) (h12 : l.length ≤ 12) (hn : ∀ (j : Nat) (z : Pg.D), j < l.length → l[j]? = some z → Pg.right z = true) : bErr l = none := by
  unfold bErr
  rw [if_neg (by omega), first_none dErr l 0 (fun z hz => by obtain ⟨j, hj⟩ := List.getElem?_of_mem hz; simp [dErr, hn j z (List.getElem?_eq_some_iff.1 hj).1 hj])]
  rfl
def CheckSaid (v : Value) (ths : List (List (List Pg.D))) (w : World) : Prop :=
  Calls Tryd.prog 13 #[v] w fun e w' => e = .returned (checkV (check ths)) ∧ Below w.heap.size w w'
theorem check_short (v : Value) (ths : List (List (List Pg.D))) (w : World) (h : ThreadsAt w v ths) (hl : ths.length < 1 ∨ 8 < ths.length) : CheckSaid v ths w := by
  have he : check ths = (150, 0, 0, 0) := by unfold check; rw [if_pos hl]
  obtain ⟨h0, vs, _, ⟨a, c, rfl, _⟩, _⟩ := h
  unfold CheckSaid checkV
  rw [he]
  unfold maxLen at h0
  clear he
  rcases hl with hl | hl
  · go_enter Tryd.func13, Tryd.ntmps13
    go_wp2
    refine bodyPost_ret (v := .tuple #[.int .i64 150, .agg #[.int .i64 0, .int .i64 0, .int .i64 0]]) (by simp [results, Tryd.results13, go_sem]) rfl ⟨rfl, ?_⟩
    repeat (first | exact Below.refl _ _ | refine balloc ?_ _ | refine bset ?_ (by simp; try omega) _)
  · go_enter Tryd.func13, Tryd.ntmps13
    go_wp2
    refine bodyPost_ret (v := .tuple #[.int .i64 150, .agg #[.int .i64 0, .int .i64 0, .int .i64 0]]) (by simp [results, Tryd.results13, go_sem]) rfl ⟨rfl, ?_⟩
    repeat (first | exact Below.refl _ _ | refine balloc ?_ _ | refine bset ?_ (by simp; try omega) _)
set_option maxHeartbeats 4000000 in
theorem check_any (v : Value) (ths : List (List (List Pg.D))) (w : World) (h : ThreadsAt w v ths) : CheckSaid v ths w := by
  by_cases hl : ths.length < 1 ∨ 8 < ths.length
  · exact check_short v ths w h hl
  obtain ⟨h0, vs, hvs, ⟨a, c, rfl, hc⟩, hb⟩ := h
  unfold CheckSaid
  unfold maxLen at h0
  have hl1 : 1 ≤ ths.length := by omega
  have hl8 : ths.length ≤ 8 := by omega
  obtain ⟨bb, off, rfl, hcc⟩ : ∃ b off, a = some ⟨b, off, none⟩ ∧ ∀ j x, vs[j]? = some x → w.cell? ⟨b, off + j, none⟩ = some x := by
    rcases hc with h | h
    · rw [h] at hvs; simp at hvs; omega
    · exact h
  have HC := Lib.hid hcc
  have HB := Lib.hid hb
  have hbs : bb < w.heap.size := by
    obtain ⟨x, hx⟩ : ∃ x, vs[0]? = some x := ⟨vs[0]'(by omega), List.getElem?_eq_getElem (by omega)⟩
    exact cell_in (hcc 0 x hx)
  clear hl hc hcc hb hvs
  go_enter Tryd.func13, Tryd.ntmps13
  go_wp2_with fail
  go_loopw [21, 4, 5, 6, 7, 8, 9] (fun ix _ _ _ _ _ _ wr => ∃ t : Nat, ix = .int .i64 t ∧ t ≤ ths.length ∧ Hid (∀ (j : Nat) (z : List (List Pg.D)), j < t → ths[j]? = some z → tErr z = none) ∧ Blk wr w.heap.size #[.int .i64 0, .int .i64 0, .int .i64 0] 30 ∧ Below w.heap.size w wr) (fun ix _ _ _ _ _ _ _ => ths.length - (intOf ix).toNat)
  case atStart => exact ⟨0, rfl, by omega, Lib.hid (fun j z h => by omega), Blk.new _ _ _, balloc (Below.refl _ _) _⟩
  case round =>
    obtain ⟨t, rfl, ht, hok, jR, hbr⟩ := hrel
    obtain ⟨wo, rfl⟩ : ∃ wo : World, wo = wr := ⟨_, rfl⟩
    have cR := jR.cell
    have zR := jR.free
    have sR := jR.lt
    by_cases hlt : t < ths.length
    · obtain ⟨ls, hls⟩ : ∃ ls, ths[t]? = some ls := ⟨ths[t], List.getElem?_eq_getElem hlt⟩
      obtain ⟨u, hu, hbu⟩ := HB.out t ls hls
      have qt := (hbr.cell (p := ⟨bb, off + t, none⟩) hbs).trans (HC.out t u hu)
      obtain ⟨hL0, us, hus, ⟨a2, c2, rfl, hc2⟩, hb2⟩ := hbu
      unfold maxLen at hL0
      have HLS := Lib.hid hls
      have HC2 := Lib.hid hc2
      have HB2 := Lib.hid hb2
      clear hls hu hc2 hb2
      by_cases h6 : 6 < ls.length
      · have he := check_t hl1 hl8 hok.out HLS.out (show tErr ls = some (0, 0) by unfold tErr; rw [if_pos h6])
        have HE := Lib.hid he
        clear he hus
        go_wp2_with fail
        refine bodyPost_ret (v := .tuple #[.int .i64 150, .agg #[.int .i64 t, .int .i64 0, .int .i64 0]]) (by simp [results, Tryd.results13, go_sem, cR]) rfl ?_
        refine ⟨by rw [HE.out]; rfl, ?_⟩
        repeat (first | exact hbr | refine bset ?_ (Nat.le_refl _) _)
      · go_wp2_with fail
        go_loopw [33, 6, 7, 8, 9] (fun ix _ _ _ _ wr => ∃ b : Nat, ix = .int .i64 b ∧ b ≤ ls.length ∧ Hid (∀ (j : Nat) (z : List Pg.D), j < b → ls[j]? = some z → bErr z = none) ∧ Blk wr w.heap.size #[.int .i64 0, .int .i64 0, .int .i64 0] 30 ∧ Below w.heap.size w wr) (fun ix _ _ _ _ _ => ls.length - (intOf ix).toNat)
        case atStart => exact ⟨0, rfl, by omega, Lib.hid (fun j z h => by omega), jR, hbr⟩
        case round =>
          clear cR zR sR jR hbr
          obtain ⟨b, rfl, hb, hokb, jR, hbr⟩ := hrel
          obtain ⟨wo2, rfl⟩ : ∃ wo2 : World, wo2 = wr := ⟨_, rfl⟩
          have cR := jR.cell
          have zR := jR.free
          have sR := jR.lt
          by_cases hltb : b < ls.length
          · obtain ⟨l, hl⟩ : ∃ l, ls[b]? = some l := ⟨ls[b], List.getElem?_eq_getElem hltb⟩
            obtain ⟨u2, hu2, hbu2⟩ := HB2.out b l hl
            obtain ⟨bb2, off2, rfl, hcc2⟩ : ∃ b off, a2 = some ⟨b, off, none⟩ ∧ ∀ j x, us[j]? = some x → w.cell? ⟨b, off + j, none⟩ = some x := by
              rcases HC2.out with h | h
              · rw [h] at hus; simp at hus; omega
              · exact h
            have hq2 := hcc2 b u2 hu2
            have q2 := (hbr.cell (p := ⟨bb2, off2 + b, none⟩) (cell_in hq2)).trans hq2
            obtain ⟨hL2, a3, c3, rfl, hc3⟩ := hbu2
            unfold maxLen at hL2
            have HL := Lib.hid hl
            have HC3 := Lib.hid hc3
            clear hl hu2 hq2 hcc2 hc3
            by_cases h12 : l.length < 1 ∨ 12 < l.length
            · have he := check_t hl1 hl8 hok.out HLS.out (tErr_b (by omega) hokb.out HL.out (show bErr l = some 0 by unfold bErr; rw [if_pos h12]))
              have HE := Lib.hid he
              clear he hus
              rcases h12 with h12 | h12
              all_goals
                go_wp2_with fail
                refine bodyPost_ret (v := .tuple #[.int .i64 150, .agg #[.int .i64 t, .int .i64 b, .int .i64 0]]) (by simp [results, Tryd.results13, go_sem, cR]) rfl ?_
                refine ⟨by rw [HE.out]; rfl, ?_⟩
                repeat (first | exact hbr | refine bset ?_ (Nat.le_refl _) _)
            · have hm1 : 1 ≤ l.length := by omega
              have hm12 : l.length ≤ 12 := by omega
              clear h12
              go_wp2_with fail
              go_loopw [51, 8, 9] (fun ix _ _ wr => ∃ n : Nat, ix = .int .i64 n ∧ n ≤ l.length ∧ Hid (∀ (j : Nat) (z : Pg.D), j < n → l[j]? = some z → Pg.right z = true) ∧ Blk wr w.heap.size #[.int .i64 0, .int .i64 0, .int .i64 0] 30 ∧ Below w.heap.size w wr) (fun ix _ _ _ => l.length - (intOf ix).toNat)
              case atStart => exact ⟨0, rfl, by omega, Lib.hid (fun j z h => by omega), jR, hbr⟩
              case round =>
                clear cR zR sR jR hbr
                obtain ⟨n, rfl, hn, hokn, jR, hbr⟩ := hrel
                have cR := jR.cell
                have zR := jR.free
                have sR := jR.lt
                by_cases hltn : n < l.length
                · obtain ⟨d, hd⟩ : ∃ d, l[n]? = some d := ⟨l[n], List.getElem?_eq_getElem hltn⟩
                  obtain ⟨bb3, off3, rfl, hcc3⟩ : ∃ b off, a3 = some ⟨b, off, none⟩ ∧ ∀ j x, (dflat l)[j]? = some x → w.cell? ⟨b, off + j, none⟩ = some x := by
                    rcases HC3.out with h | h
                    · have := (dflat_at l n d hd).1; rw [h] at this; simp at this
                    · exact h
                  obtain ⟨f0, f1, f2, f3, f4⟩ := dflat_at l n d hd
                  have e0 := hcc3 _ _ f0
                  have hb3 := cell_in e0
                  have e0 := (hbr.cell (p := ⟨bb3, off3 + n * 5, none⟩) hb3).trans e0
                  have e1 := (hbr.cell (p := ⟨bb3, off3 + (n * 5 + 1), none⟩) hb3).trans (hcc3 _ _ f1)
                  have e2 := (hbr.cell (p := ⟨bb3, off3 + (n * 5 + 2), none⟩) hb3).trans (hcc3 _ _ f2)
                  have e3 := (hbr.cell (p := ⟨bb3, off3 + (n * 5 + 3), none⟩) hb3).trans (hcc3 _ _ f3)
                  have e4 := (hbr.cell (p := ⟨bb3, off3 + (n * 5 + 4), none⟩) hb3).trans (hcc3 _ _ f4)
                  simp only [← Nat.add_assoc] at e1 e2 e3 e4
                  have HD := Lib.hid hd
                  clear hd hcc3 f0 f1 f2 f3 f4
                  go_wp2_with fail
                  refine (right_any _ _ _ _ _ _).mono ?_
                  rintro e w3 ⟨rfl, hb4⟩
                  have mR := (jR.alloc _).below hb4 (jR.alloc _).lt
                  have nR := mR.cell
                  have nz := mR.free
                  have ns := mR.lt
                  have hbw := btrans (balloc hbr _) hb4
                  clear cR zR sR jR hbr e0 e1 e2 e3 e4
                  cases hri : Pg.right ⟨d.k, d.a, d.b, d.i, d.n⟩
                  · have he := check_t hl1 hl8 hok.out HLS.out (tErr_b (by omega) hokb.out HL.out (bErr_n hm1 hm12 hokn.out HD.out hri))
                    have HE := Lib.hid he
                    clear he hri
                    go_wp2_with fail
                    refine bodyPost_ret (v := .tuple #[.int .i64 150, .agg #[.int .i64 t, .int .i64 b, .int .i64 n]]) (by simp [results, Tryd.results13, go_sem, nR]) rfl ?_
                    refine ⟨by rw [HE.out]; rfl, ?_⟩
                    repeat (first | exact hbw | refine bset ?_ (Nat.le_refl _) _)
                  · have HRI := Lib.hid hri
                    clear hri
                    go_wp2_with fail
                    go_roundw
                    case rel =>
                      refine ⟨n + 1, by go_num, by omega, Lib.hid (fun j z hj hz => ?_), mR, hbw⟩
                      by_cases e : j = n
                      · subst e
                        rw [HD.out] at hz
                        injection hz with hz
                        rw [← hz]; exact HRI.out
                      · exact hokn.out j z (by omega) hz
                    case measure => simp [intOf]; omega
                · obtain rfl : n = l.length := by omega
                  have he := bErr_ok hm1 hm12 hokn.out
                  have HE := Lib.hid he
                  clear he
                  go_wp2_with fail
                  go_roundw
                  case rel =>
                    refine ⟨b + 1, by go_num, by omega, Lib.hid (fun j z hj hz => ?_), jR, hbr⟩
                    by_cases e : j = b
                    · subst e
                      rw [HL.out] at hz
                      injection hz with hz
                      rw [← hz]; exact HE.out
                    · exact hokb.out j z (by omega) hz
                  case measure => simp [intOf]; omega
          · obtain rfl : b = ls.length := by omega
            have he := tErr_ok (by omega) hokb.out
            have HE := Lib.hid he
            clear he hus
            go_wp2_with fail
            go_roundw
            case rel =>
              refine ⟨t + 1, by go_num, by omega, Lib.hid (fun j z hj hz => ?_), jR, hbr⟩
              by_cases e : j = t
              · subst e
                rw [HLS.out] at hz
                injection hz with hz
                rw [← hz]; exact HE.out
              · exact hok.out j z (by omega) hz
            case measure => simp [intOf]; omega
    · obtain rfl : t = ths.length := by omega
      have he := check_ok hl1 hl8 hok.out
      have HE := Lib.hid he
      clear he
      go_wp2_with fail
      refine bodyPost_ret (v := .tuple #[.int .i64 0, .agg #[.int .i64 0, .int .i64 0, .int .i64 0]]) (by simp [results, Tryd.results13, go_sem, cR]) rfl ?_
      refine ⟨by rw [HE.out]; rfl, ?_⟩
      repeat (first | exact hbr | refine bset ?_ (Nat.le_refl _) _)
end Go.Proofs.YthchcnbgjklbhaaDoor
