/- Walks: a heap's shapes and pointers, while nothing goes from one space to the other. -/
import Derived.Test.YtemohiainfllcaaGreatJg
namespace Go.Proofs.YtemohiainfllcaaGreat
open Go.RowKit Hp
section
variable {w : World} {o : Own} {l : HLay} {H : Hp} {vc vo vw vf : Value} {f : Nat → Nat}
theorem hshape_in (h : HpIn w o l H vc vo vw vf f) (hk : H.ok) {p : Nat} {ob : Ob} (hp : lk H.cur p = some ob) :
    Calls Tryz.prog 89 #[.pointer (some ⟨l.h, 0, none⟩), .int .i64 p] w fun e w' => e = .returned (.tuple #[shpV ob.shp, .bool ob.freed, .int .i64 0]) ∧ Below w.heap.size w w' := by
  obtain ⟨ha, ho, hl, _⟩ := h.at_ hk hp
  have HH := Lib.hid (fun w' (hw : Below w.heap.size w w') => here_yes (h.below hw) hk hp)
  have HN := Lib.hid (fun w' (hw : Below w.heap.size w w') => oshape_any (h.wds.below hw) ha ho hl p rfl)
  have HC := Lib.hid (fun w' (hw : Below w.heap.size w w') => (h.below hw).words_cell)
  clear h hk hp ha ho hl
  obtain ⟨⟨sp, sd, wk, fn⟩, fr, se, sr, ps, ns⟩ := ob
  simp only at HN ⊢
  go_enter Tryz.func89, Tryz.ntmps89
  go_wp2_with fail
  refine (HH.out _ (balloc (bsame w) _)).mono ?_
  rintro e w1 ⟨rfl, hb1⟩
  have jR : Blk w1 w.heap.size #[.int .i64 0, .int .i64 0, .bool false, .bool false] 80 := (Blk.new w _ _).below hb1 (by simp)
  have hb : Below w.heap.size w w1 := btrans (balloc (bsame w) _) hb1
  clear hb1
  have c1 := HC.out _ hb
  go_wp2_with fail
  refine (HN.out _ hb).mono ?_
  rintro e w2 ⟨rfl, hb2⟩
  have jR2 := jR.below hb2 jR.lt
  have hw2 := btrans hb hb2
  clear hb2 hb jR
  have cR := jR2.cell
  have zR := jR2.free
  have sR := jR2.lt
  go_wp2_with fail
  refine bodyPost_ret (v := .tuple #[shpV ⟨sp, sd, wk, fn⟩, .bool fr, .int .i64 0]) (by simp [results, Tryz.results89, go_sem, cR]) rfl ⟨rfl, ?_⟩
  repeat (first | exact hw2 | refine bset ?_ (Nat.le_refl _) _)
theorem hshape_no (h : HpIn w o l H vc vo vw vf f) (hk : H.ok) {p : Nat} (hp : lk H.cur p = none) :
    Calls Tryz.prog 89 #[.pointer (some ⟨l.h, 0, none⟩), .int .i64 p] w fun e w' => e = .returned (.tuple #[shpV ⟨0, 0, false, false⟩, .bool false, .int .i64 70]) ∧ Below w.heap.size w w' := by
  have HH := Lib.hid (fun w' (hw : Below w.heap.size w w') => here_no (h.below hw) hk hp)
  clear h hk hp
  go_enter Tryz.func89, Tryz.ntmps89
  go_wp2_with fail
  refine (HH.out _ (balloc (bsame w) _)).mono ?_
  rintro e w1 ⟨rfl, hb1⟩
  have jR : Blk w1 w.heap.size #[.int .i64 0, .int .i64 0, .bool false, .bool false] 80 := (Blk.new w _ _).below hb1 (by simp)
  have hb : Below w.heap.size w w1 := btrans (balloc (bsame w) _) hb1
  clear hb1
  have cR := jR.cell
  have zR := jR.free
  have sR := jR.lt
  go_wp2_with fail
  refine bodyPost_ret (v := .tuple #[shpV ⟨0, 0, false, false⟩, .bool false, .int .i64 70]) (by simp [results, Tryz.results89, go_sem, cR]) rfl ⟨rfl, ?_⟩
  repeat (first | exact hb | refine bset ?_ (Nat.le_refl _) _)
theorem there_still (h : HpIn w o l H vc vo vw vf f) (hm : H.moving = false) (z : Int) :
    Calls Tryz.prog 112 #[.pointer (some ⟨l.h, 0, none⟩), .int .i64 z] w fun e w' => e = .returned (.bool false) ∧ w = w' := by
  have HM := Lib.hid (moving_any h)
  rw [hm] at HM
  clear h hm
  go_enter Tryz.func112, Tryz.ntmps112
  go_wp2_with fail
  refine HM.out.mono ?_
  rintro e w1 ⟨rfl, rfl⟩
  go_wp2_with fail
  go_ret
  exact ⟨rfl, rfl⟩
theorem hptr_in (h : HpIn w o l H vc vo vw vf f) (hk : H.ok) (hm : H.moving = false) {p : Nat} {ob : Ob} (hp : lk H.cur p = some ob) (i x : Nat) (hx : ob.ptrs[i]? = some x) :
    Calls Tryz.prog 59 #[.pointer (some ⟨l.h, 0, none⟩), .int .i64 p, .int .i64 i] w fun e w' => e = .returned (.tuple #[.int .i64 x, .int .i64 0]) ∧ Below w.heap.size w w' := by
  obtain ⟨ha, ho, hl, _⟩ := h.at_ hk hp
  have HH := Lib.hid (here_yes h hk hp)
  have HN := Lib.hid (fun w' (hw : Below w.heap.size w w') => optr_get (h.wds.below hw) ha ho hl i x hx p i rfl rfl)
  have HC := Lib.hid (fun w' (hw : Below w.heap.size w w') => (h.below hw).words_cell)
  have HT := Lib.hid (fun w' (hw : Below w.heap.size w w') => there_still (h.below hw) hm x)
  clear h hk hm hp ha ho hl hx
  go_enter Tryz.func59, Tryz.ntmps59
  go_wp2_with fail
  refine HH.out.mono ?_
  rintro e w1 ⟨rfl, hb1⟩
  have c1 := HC.out _ hb1
  go_wp2_with fail
  refine (HN.out _ hb1).mono ?_
  rintro e w2 ⟨rfl, hb2⟩
  go_wp2_with fail
  refine (HT.out _ (btrans hb1 hb2)).mono ?_
  rintro e w3 ⟨rfl, rfl⟩
  go_wp2_with fail
  go_ret2
  exact ⟨rfl, btrans hb1 hb2⟩
theorem hptr_out (h : HpIn w o l H vc vo vw vf f) (hk : H.ok) {p : Nat} {ob : Ob} (hp : lk H.cur p = some ob) (i : Nat) (hx : ob.shp.p ≤ i) :
    Calls Tryz.prog 59 #[.pointer (some ⟨l.h, 0, none⟩), .int .i64 p, .int .i64 i] w fun e w' => e = .returned (.tuple #[.int .i64 0, .int .i64 71]) ∧ Below w.heap.size w w' := by
  obtain ⟨ha, ho, hl, _⟩ := h.at_ hk hp
  have HH := Lib.hid (here_yes h hk hp)
  have HN := Lib.hid (fun w' (hw : Below w.heap.size w w') => optr_no (h.wds.below hw) ha ho hl i hx p i rfl rfl)
  have HC := Lib.hid (fun w' (hw : Below w.heap.size w w') => (h.below hw).words_cell)
  clear h hk hp ha ho hl hx
  go_enter Tryz.func59, Tryz.ntmps59
  go_wp2_with fail
  refine HH.out.mono ?_
  rintro e w1 ⟨rfl, hb1⟩
  have c1 := HC.out _ hb1
  go_wp2_with fail
  refine (HN.out _ hb1).mono ?_
  rintro e w2 ⟨rfl, hb2⟩
  go_wp2_with fail
  go_ret2
  exact ⟨rfl, btrans hb1 hb2⟩
theorem hptr_no (h : HpIn w o l H vc vo vw vf f) (hk : H.ok) {p : Nat} (hp : lk H.cur p = none) (i : Nat) :
    Calls Tryz.prog 59 #[.pointer (some ⟨l.h, 0, none⟩), .int .i64 p, .int .i64 i] w fun e w' => e = .returned (.tuple #[.int .i64 0, .int .i64 70]) ∧ Below w.heap.size w w' := by
  have HH := Lib.hid (here_no h hk hp)
  clear h hk hp
  go_enter Tryz.func59, Tryz.ntmps59
  go_wp2_with fail
  refine HH.out.mono ?_
  rintro e w1 ⟨rfl, hb1⟩
  go_wp2_with fail
  go_ret2
  exact ⟨rfl, hb1⟩
theorem hsetptr_out (h : HpIn w o l H vc vo vw vf f) (hk : H.ok) {p : Nat} {ob : Ob} (hp : lk H.cur p = some ob) (i : Nat) (hx : ob.shp.p ≤ i) :
    Calls Tryz.prog 97 #[.pointer (some ⟨l.h, 0, none⟩), .int .i64 p, .int .i64 i, .int .i64 0] w fun e w' => e = .returned (.int .i64 71) ∧ Below w.heap.size w w' := by
  obtain ⟨ha, ho, hl, _⟩ := h.at_ hk hp
  have HH := Lib.hid (here_yes h hk hp)
  have HN := Lib.hid (fun w' (hw : Below w.heap.size w w') => osetptr_no (h.wds.below hw) ha ho hl i hx p i 0 rfl rfl)
  have HC := Lib.hid (fun w' (hw : Below w.heap.size w w') => (h.below hw).words_cell)
  clear h hk hp ha ho hl hx
  go_enter Tryz.func97, Tryz.ntmps97
  go_wp2_with fail
  refine HH.out.mono ?_
  rintro e w1 ⟨rfl, hb1⟩
  have c1 := HC.out _ hb1
  go_wp2_with fail
  refine (HN.out _ hb1).mono ?_
  rintro e w2 ⟨rfl, hb2⟩
  go_wp2_with fail
  go_ret
  exact ⟨rfl, btrans hb1 hb2⟩
theorem hsetptr_no (h : HpIn w o l H vc vo vw vf f) (hk : H.ok) {p : Nat} (hp : lk H.cur p = none) (i : Nat) (z : Int) :
    Calls Tryz.prog 97 #[.pointer (some ⟨l.h, 0, none⟩), .int .i64 p, .int .i64 i, .int .i64 z] w fun e w' => e = .returned (.int .i64 70) ∧ Below w.heap.size w w' := by
  have HH := Lib.hid (here_no h hk hp)
  clear h hk hp
  go_enter Tryz.func97, Tryz.ntmps97
  go_wp2_with fail
  refine HH.out.mono ?_
  rintro e w1 ⟨rfl, hb1⟩
  go_wp2_with fail
  go_ret
  exact ⟨rfl, hb1⟩
theorem ptr_bd (hk : H.ok) {q : Nat} (hq : q = 0 ∨ (lk H.cur q).isSome = true) : q ≤ 131072 := by
  rcases hq with rfl | hq
  · omega
  · obtain ⟨ob, hob⟩ := Option.isSome_iff_exists.1 hq
    have h1 := laid_mem _ _ _ hk.cl _ (lk_mem hob)
    have h4 := hk.room
    have h5 := H.base_bd H.use
    have h6 := hk.sz
    simp only at h1
    omega
theorem hsetptr_in (h : HpIn w o l H vc vo vw vf f) (hk : H.ok) {p : Nat} {ob : Ob} (hp : lk H.cur p = some ob) (i q : Nat) (hx : i < ob.shp.p) (hq : q = 0 ∨ (lk H.cur q).isSome = true) :
    Calls Tryz.prog 97 #[.pointer (some ⟨l.h, 0, none⟩), .int .i64 p, .int .i64 i, .int .i64 q] w fun e w' => e = .returned (.int .i64 0) ∧ Hp.ok { H with cur := up H.cur p (ob.setPtr i q) } ∧ (∃ f', HpIn w' o l { H with cur := up H.cur p (ob.setPtr i q) } vc vo vw vf f') ∧ Wr l.wd w w' := by
  obtain ⟨ha, ho, hl, _⟩ := h.at_ hk hp
  have hqb := ptr_bd hk hq
  have hok := Hp.ok_up hk hp (Ob.setPtr_ok ho i q hqb) (rfl)
  have HH := Lib.hid (here_yes h hk hp)
  have HN := Lib.hid (fun w' (hw : Below w.heap.size w w') => osetptr_any (h.wds.below hw) ha ho hl i q hx hqb p i q rfl rfl rfl)
  have HC := Lib.hid (fun w' (hw : Below w.heap.size w w') => (h.below hw).words_cell)
  have HE := Lib.hid (fun w1 w' (hw : Below w.heap.size w w1) hT => (h.below hw).turn (w' := w') hk hp (k := 3 + i) (by unfold Ob.size; omega) hT (by rw [show p + (3 + i) = p + 3 + i from by omega]; exact ha.setPtr ho i q hx))
  rw [show p + (3 + i) = p + 3 + i from by omega] at HE
  have HK := Lib.hid hok
  rcases hq with rfl | hq
  · clear h hk hp ha ho hl hok hx hqb
    go_enter Tryz.func97, Tryz.ntmps97
    go_wp2_with fail
    refine HH.out.mono ?_
    rintro e w1 ⟨rfl, hb1⟩
    have c1 := HC.out _ hb1
    go_wp2_with fail
    refine (HN.out _ hb1).mono ?_
    rintro e w2 ⟨rfl, hT⟩
    go_wp2_with fail
    go_ret
    exact ⟨rfl, HK.out, ⟨_, HE.out _ _ hb1 hT⟩, (Wr.of_below hb1).trans hT.2⟩
  · obtain ⟨oq, hoq⟩ := Option.isSome_iff_exists.1 hq
    have HQ := Lib.hid (fun w' (hw : Below w.heap.size w w') => here_yes (h.below hw) hk hoq)
    by_cases h0 : q = 0
    · subst h0
      have := laid_mem _ _ _ hk.cl _ (lk_mem hoq)
      have := H.base_bd H.use
      simp only at *
      omega
    · clear h hk hp ha ho hl hok hx hqb hq hoq
      go_enter Tryz.func97, Tryz.ntmps97
      go_wp2_with fail
      refine HH.out.mono ?_
      rintro e w1 ⟨rfl, hb1⟩
      go_wp2_with fail
      refine (HQ.out _ hb1).mono ?_
      rintro e w2 ⟨rfl, hb2⟩
      have hb := btrans hb1 hb2
      have c1 := HC.out _ hb
      go_wp2_with fail
      refine (HN.out _ hb).mono ?_
      rintro e w3 ⟨rfl, hT⟩
      go_wp2_with fail
      go_ret
      exact ⟨rfl, HK.out, ⟨_, HE.out _ _ hb hT⟩, (Wr.of_below hb).trans hT.2⟩
end
end Go.Proofs.YtemohiainfllcaaGreat
