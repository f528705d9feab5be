/- Walks (printed by gen_h.py): the heap's methods that hand on to package object. -/
import Derived.Test.YtemohiainfllcaaGreatJf
namespace Go.Proofs.YtemohiainfllcaaGreat
open Go.RowKit Hp
section
variable {w : World} {o : Own} {l : HLay} {H : Hp} {vc vo vw vf : Value} {f : Nat → Nat}
theorem hserial_in (h : HpIn w o l H vc vo vw vf f) (hk : H.ok) {p : Nat} {ob : Ob} (hp : lk H.cur p = some ob)   :
    Calls Tryz.prog 90 #[.pointer (some ⟨l.h, 0, none⟩), .int .i64 p] w fun e w' => e = .returned (.tuple #[.int .i64 ob.serial, .int .i64 0]) ∧ Below w.heap.size w w' := by
  obtain ⟨ha, ho, hl, _⟩ := h.at_ hk hp
  have HH := Lib.hid (here_yes h hk hp)
  have HN := Lib.hid (fun w' (hw : Below w.heap.size w w') => oserial_any (h.wds.below hw) ha ho hl p rfl)
  have HC := Lib.hid (fun w' (hw : Below w.heap.size w w') => (h.below hw).words_cell)
  clear h hk hp ha ho hl
  go_enter Tryz.func90, Tryz.ntmps90
  go_wp2_with fail
  refine HH.out.mono ?_
  rintro e w1 ⟨rfl, hb1⟩
  have c1 := HC.out _ hb1
  go_wp2_with fail
  refine (HN.out _ hb1).mono ?_
  rintro e w2 ⟨rfl, hb2⟩
  go_wp2_with fail
  go_ret2
  exact ⟨rfl, btrans hb1 hb2⟩
theorem hserial_no (h : HpIn w o l H vc vo vw vf f) (hk : H.ok) {p : Nat} (hp : lk H.cur p = none)  :
    Calls Tryz.prog 90 #[.pointer (some ⟨l.h, 0, none⟩), .int .i64 p] w fun e w' => e = .returned (.tuple #[.int .i64 0, .int .i64 70]) ∧ Below w.heap.size w w' := by
  have HH := Lib.hid (here_no h hk hp)
  clear h hk hp
  go_enter Tryz.func90, Tryz.ntmps90
  go_wp2_with fail
  refine HH.out.mono ?_
  rintro e w1 ⟨rfl, hb1⟩
  go_wp2_with fail
  go_ret2
  exact ⟨rfl, hb1⟩
theorem hsecond_in (h : HpIn w o l H vc vo vw vf f) (hk : H.ok) {p : Nat} {ob : Ob} (hp : lk H.cur p = some ob)   :
    Calls Tryz.prog 105 #[.pointer (some ⟨l.h, 0, none⟩), .int .i64 p] w fun e w' => e = .returned (.tuple #[.int .u64 ob.second, .int .i64 0]) ∧ Below w.heap.size w w' := by
  obtain ⟨ha, ho, hl, _⟩ := h.at_ hk hp
  have HH := Lib.hid (here_yes h hk hp)
  have HN := Lib.hid (fun w' (hw : Below w.heap.size w w') => osecond_any (h.wds.below hw) ha ho hl p rfl)
  have HC := Lib.hid (fun w' (hw : Below w.heap.size w w') => (h.below hw).words_cell)
  clear h hk hp ha ho hl
  go_enter Tryz.func105, Tryz.ntmps105
  go_wp2_with fail
  refine HH.out.mono ?_
  rintro e w1 ⟨rfl, hb1⟩
  have c1 := HC.out _ hb1
  go_wp2_with fail
  refine (HN.out _ hb1).mono ?_
  rintro e w2 ⟨rfl, hb2⟩
  go_wp2_with fail
  go_ret2
  exact ⟨rfl, btrans hb1 hb2⟩
theorem hsecond_no (h : HpIn w o l H vc vo vw vf f) (hk : H.ok) {p : Nat} (hp : lk H.cur p = none)  :
    Calls Tryz.prog 105 #[.pointer (some ⟨l.h, 0, none⟩), .int .i64 p] w fun e w' => e = .returned (.tuple #[.int .u64 0, .int .i64 70]) ∧ Below w.heap.size w w' := by
  have HH := Lib.hid (here_no h hk hp)
  clear h hk hp
  go_enter Tryz.func105, Tryz.ntmps105
  go_wp2_with fail
  refine HH.out.mono ?_
  rintro e w1 ⟨rfl, hb1⟩
  go_wp2_with fail
  go_ret2
  exact ⟨rfl, hb1⟩
theorem hnum_in (h : HpIn w o l H vc vo vw vf f) (hk : H.ok) {p : Nat} {ob : Ob} (hp : lk H.cur p = some ob) (i : Nat) (n : Int) (hx : ob.nums[i]? = some n) :
    Calls Tryz.prog 48 #[.pointer (some ⟨l.h, 0, none⟩), .int .i64 p, .int .i64 i] w fun e w' => e = .returned (.tuple #[.int .i64 n, .int .i64 0]) ∧ Below w.heap.size w w' := by
  obtain ⟨ha, ho, hl, _⟩ := h.at_ hk hp
  have HH := Lib.hid (here_yes h hk hp)
  have HN := Lib.hid (fun w' (hw : Below w.heap.size w w') => onum_get (h.wds.below hw) ha ho hl i n hx p i rfl rfl)
  have HC := Lib.hid (fun w' (hw : Below w.heap.size w w') => (h.below hw).words_cell)
  clear h hk hp ha ho hl hx
  go_enter Tryz.func48, Tryz.ntmps48
  go_wp2_with fail
  refine HH.out.mono ?_
  rintro e w1 ⟨rfl, hb1⟩
  have c1 := HC.out _ hb1
  go_wp2_with fail
  refine (HN.out _ hb1).mono ?_
  rintro e w2 ⟨rfl, hb2⟩
  go_wp2_with fail
  go_ret2
  exact ⟨rfl, btrans hb1 hb2⟩
theorem hnum_out (h : HpIn w o l H vc vo vw vf f) (hk : H.ok) {p : Nat} {ob : Ob} (hp : lk H.cur p = some ob) (i : Nat) (hx : ob.shp.d ≤ i) :
    Calls Tryz.prog 48 #[.pointer (some ⟨l.h, 0, none⟩), .int .i64 p, .int .i64 i] w fun e w' => e = .returned (.tuple #[.int .i64 0, .int .i64 71]) ∧ Below w.heap.size w w' := by
  obtain ⟨ha, ho, hl, _⟩ := h.at_ hk hp
  have HH := Lib.hid (here_yes h hk hp)
  have HN := Lib.hid (fun w' (hw : Below w.heap.size w w') => onum_no (h.wds.below hw) ha ho hl i hx p i rfl rfl)
  have HC := Lib.hid (fun w' (hw : Below w.heap.size w w') => (h.below hw).words_cell)
  clear h hk hp ha ho hl hx
  go_enter Tryz.func48, Tryz.ntmps48
  go_wp2_with fail
  refine HH.out.mono ?_
  rintro e w1 ⟨rfl, hb1⟩
  have c1 := HC.out _ hb1
  go_wp2_with fail
  refine (HN.out _ hb1).mono ?_
  rintro e w2 ⟨rfl, hb2⟩
  go_wp2_with fail
  go_ret2
  exact ⟨rfl, btrans hb1 hb2⟩
theorem hnum_no (h : HpIn w o l H vc vo vw vf f) (hk : H.ok) {p : Nat} (hp : lk H.cur p = none) (i : Nat) :
    Calls Tryz.prog 48 #[.pointer (some ⟨l.h, 0, none⟩), .int .i64 p, .int .i64 i] w fun e w' => e = .returned (.tuple #[.int .i64 0, .int .i64 70]) ∧ Below w.heap.size w w' := by
  have HH := Lib.hid (here_no h hk hp)
  clear h hk hp
  go_enter Tryz.func48, Tryz.ntmps48
  go_wp2_with fail
  refine HH.out.mono ?_
  rintro e w1 ⟨rfl, hb1⟩
  go_wp2_with fail
  go_ret2
  exact ⟨rfl, hb1⟩
theorem hsetnum_out (h : HpIn w o l H vc vo vw vf f) (hk : H.ok) {p : Nat} {ob : Ob} (hp : lk H.cur p = some ob) (i : Nat) (n : Int) (hx : ob.shp.d ≤ i) :
    Calls Tryz.prog 49 #[.pointer (some ⟨l.h, 0, none⟩), .int .i64 p, .int .i64 i, .int .i64 n] w fun e w' => e = .returned (.int .i64 71) ∧ Below w.heap.size w w' := by
  obtain ⟨ha, ho, hl, _⟩ := h.at_ hk hp
  have HH := Lib.hid (here_yes h hk hp)
  have HN := Lib.hid (fun w' (hw : Below w.heap.size w w') => osetnum_no (h.wds.below hw) ha ho hl i hx p i n rfl rfl)
  have HC := Lib.hid (fun w' (hw : Below w.heap.size w w') => (h.below hw).words_cell)
  clear h hk hp ha ho hl hx
  go_enter Tryz.func49, Tryz.ntmps49
  go_wp2_with fail
  refine HH.out.mono ?_
  rintro e w1 ⟨rfl, hb1⟩
  have c1 := HC.out _ hb1
  go_wp2_with fail
  refine (HN.out _ hb1).mono ?_
  rintro e w2 ⟨rfl, hb2⟩
  go_wp2_with fail
  go_ret
  exact ⟨rfl, btrans hb1 hb2⟩
theorem hsetnum_no (h : HpIn w o l H vc vo vw vf f) (hk : H.ok) {p : Nat} (hp : lk H.cur p = none) (i : Nat) (n : Int) :
    Calls Tryz.prog 49 #[.pointer (some ⟨l.h, 0, none⟩), .int .i64 p, .int .i64 i, .int .i64 n] w fun e w' => e = .returned (.int .i64 70) ∧ Below w.heap.size w w' := by
  have HH := Lib.hid (here_no h hk hp)
  clear h hk hp
  go_enter Tryz.func49, Tryz.ntmps49
  go_wp2_with fail
  refine HH.out.mono ?_
  rintro e w1 ⟨rfl, hb1⟩
  go_wp2_with fail
  go_ret
  exact ⟨rfl, hb1⟩
theorem hsetnum_in (h : HpIn w o l H vc vo vw vf f) (hk : H.ok) {p : Nat} {ob : Ob} (hp : lk H.cur p = some ob) (i : Nat) (n : Int) (hx : i < ob.shp.d) (hn : -9223372036854775808 ≤ n ∧ n ≤ 9223372036854775807) :
    Calls Tryz.prog 49 #[.pointer (some ⟨l.h, 0, none⟩), .int .i64 p, .int .i64 i, .int .i64 n] w fun e w' => e = .returned (.int .i64 0) ∧ Hp.ok { H with cur := up H.cur p (ob.setNum i n) } ∧ (∃ f', HpIn w' o l { H with cur := up H.cur p (ob.setNum i n) } vc vo vw vf f') ∧ Wr l.wd w w' := by
  obtain ⟨ha, ho, hl, _⟩ := h.at_ hk hp
  have hok := Hp.ok_up hk hp (Ob.setNum_ok ho i n hn) (rfl)
  have HH := Lib.hid (here_yes h hk hp)
  have HN := Lib.hid (fun w' (hw : Below w.heap.size w w') => osetnum_at (h.wds.below hw) ha ho hl i n hx hn)
  have HC := Lib.hid (fun w' (hw : Below w.heap.size w w') => (h.below hw).words_cell)
  have HE := Lib.hid (fun w1 w' (hw : Below w.heap.size w w1) hT => (h.below hw).turn (w' := w') hk hp (k := 3 + ob.shp.p + i) (by unfold Ob.size; omega) hT (by rw [show p + (3 + ob.shp.p + i) = p + 3 + ob.shp.p + i from by omega]; exact ha.setNum ho i n hx hn))
  have HK := Lib.hid hok
  clear h hk hp ha ho hl hok hx
  go_enter Tryz.func49, Tryz.ntmps49
  go_wp2_with fail
  refine HH.out.mono ?_
  rintro e w1 ⟨rfl, hb1⟩
  have c1 := HC.out _ hb1
  go_wp2_with fail
  refine (HN.out _ hb1).mono ?_
  rintro e w2 ⟨rfl, hT⟩
  go_wp2_with fail
  go_ret
  exact ⟨rfl, HK.out, ⟨_, HE.out _ _ hb1 hT⟩, (Wr.of_below hb1).trans hT.2⟩
theorem hsetfreed_no (h : HpIn w o l H vc vo vw vf f) (hk : H.ok) {p : Nat} (hp : lk H.cur p = none) (b : Bool) :
    Calls Tryz.prog 64 #[.pointer (some ⟨l.h, 0, none⟩), .int .i64 p, .bool b] w fun e w' => e = .returned (.int .i64 70) ∧ Below w.heap.size w w' := by
  have HH := Lib.hid (here_no h hk hp)
  clear h hk hp
  go_enter Tryz.func64, Tryz.ntmps64
  go_wp2_with fail
  refine HH.out.mono ?_
  rintro e w1 ⟨rfl, hb1⟩
  go_wp2_with fail
  go_ret
  exact ⟨rfl, hb1⟩
theorem hsetfreed_in (h : HpIn w o l H vc vo vw vf f) (hk : H.ok) {p : Nat} {ob : Ob} (hp : lk H.cur p = some ob) (b : Bool)  :
    Calls Tryz.prog 64 #[.pointer (some ⟨l.h, 0, none⟩), .int .i64 p, .bool b] w fun e w' => e = .returned (.int .i64 0) ∧ Hp.ok { H with cur := up H.cur p (ob.setFreed b) } ∧ (∃ f', HpIn w' o l { H with cur := up H.cur p (ob.setFreed b) } vc vo vw vf f') ∧ Wr l.wd w w' := by
  obtain ⟨ha, ho, hl, _⟩ := h.at_ hk hp
  have hok := Hp.ok_up hk hp (Ob.setFreed_ok ho b) (rfl)
  have HH := Lib.hid (here_yes h hk hp)
  have HN := Lib.hid (fun w' (hw : Below w.heap.size w w') => osetfreed_any (h.wds.below hw) ha ho hl b p rfl)
  have HC := Lib.hid (fun w' (hw : Below w.heap.size w w') => (h.below hw).words_cell)
  have HE := Lib.hid (fun w1 w' (hw : Below w.heap.size w w1) hT => (h.below hw).turn (w' := w') hk hp (k := 0) (by unfold Ob.size; omega) hT (ha.setFreed b))
  have HK := Lib.hid hok
  clear h hk hp ha ho hl hok
  go_enter Tryz.func64, Tryz.ntmps64
  go_wp2_with fail
  refine HH.out.mono ?_
  rintro e w1 ⟨rfl, hb1⟩
  have c1 := HC.out _ hb1
  go_wp2_with fail
  refine (HN.out _ hb1).mono ?_
  rintro e w2 ⟨rfl, hT⟩
  go_wp2_with fail
  go_ret
  exact ⟨rfl, HK.out, ⟨_, HE.out _ _ hb1 hT⟩, (Wr.of_below hb1).trans hT.2⟩
theorem hsetsecond_no (h : HpIn w o l H vc vo vw vf f) (hk : H.ok) {p : Nat} (hp : lk H.cur p = none) (v : Nat) :
    Calls Tryz.prog 109 #[.pointer (some ⟨l.h, 0, none⟩), .int .i64 p, .int .u64 v] w fun e w' => e = .returned (.int .i64 70) ∧ Below w.heap.size w w' := by
  have HH := Lib.hid (here_no h hk hp)
  clear h hk hp
  go_enter Tryz.func109, Tryz.ntmps109
  go_wp2_with fail
  refine HH.out.mono ?_
  rintro e w1 ⟨rfl, hb1⟩
  go_wp2_with fail
  go_ret
  exact ⟨rfl, hb1⟩
theorem hsetsecond_in (h : HpIn w o l H vc vo vw vf f) (hk : H.ok) {p : Nat} {ob : Ob} (hp : lk H.cur p = some ob) (v : Nat) (hv : v ≤ 2199023255552) :
    Calls Tryz.prog 109 #[.pointer (some ⟨l.h, 0, none⟩), .int .i64 p, .int .u64 v] w fun e w' => e = .returned (.int .i64 0) ∧ Hp.ok { H with cur := up H.cur p (ob.setSecond v) } ∧ (∃ f', HpIn w' o l { H with cur := up H.cur p (ob.setSecond v) } vc vo vw vf f') ∧ Wr l.wd w w' := by
  obtain ⟨ha, ho, hl, _⟩ := h.at_ hk hp
  have hok := Hp.ok_up hk hp (Ob.setSecond_ok ho v hv) (rfl)
  have HH := Lib.hid (here_yes h hk hp)
  have HN := Lib.hid (fun w' (hw : Below w.heap.size w w') => osetsecond_any (h.wds.below hw) ha ho hl v p v rfl rfl)
  have HC := Lib.hid (fun w' (hw : Below w.heap.size w w') => (h.below hw).words_cell)
  have HE := Lib.hid (fun w1 w' (hw : Below w.heap.size w w1) hT => (h.below hw).turn (w' := w') hk hp (k := 1) (by unfold Ob.size; omega) hT (ha.setSecond v))
  have HK := Lib.hid hok
  clear h hk hp ha ho hl hok
  go_enter Tryz.func109, Tryz.ntmps109
  go_wp2_with fail
  refine HH.out.mono ?_
  rintro e w1 ⟨rfl, hb1⟩
  have c1 := HC.out _ hb1
  go_wp2_with fail
  refine (HN.out _ hb1).mono ?_
  rintro e w2 ⟨rfl, hT⟩
  go_wp2_with fail
  go_ret
  exact ⟨rfl, HK.out, ⟨_, HE.out _ _ hb1 hT⟩, (Wr.of_below hb1).trans hT.2⟩
end
end Go.Proofs.YtemohiainfllcaaGreat
