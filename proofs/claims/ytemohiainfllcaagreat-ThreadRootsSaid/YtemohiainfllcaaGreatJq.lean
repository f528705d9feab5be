/- Walks: a transaction looks at an object that is not to be weak; it holds one. -/
import Derived.Test.YtemohiainfllcaaGreatJp
namespace Go.Proofs.YtemohiainfllcaaGreat
open Go.RowKit Hp
attribute [local go_sem ↓] Go.wp_at_zero Go.wp_at_succ
section
variable {w w' : World} {o o' : Own} {y : SLay} {S : Stt} {x : Tx} {i : Nat}
theorem fields_nil (w : World) (a b : Value) :
    Calls Tryz.prog 100 #[a, b, .int .i64 0] w fun e w' => e = .returned (.int .i64 143) ∧ Below w.heap.size w w' := by
  have HL := Lib.hid (look_nil w a b)
  go_enter Tryz.func100, Tryz.ntmps100
  go_wp2_with fail
  refine HL.out.mono ?_
  rintro e w1 ⟨rfl, hb1⟩
  go_wp2_with fail
  go_ret
  exact ⟨rfl, balloc hb1 _⟩
theorem fields_clash (h : StIn w o y S) (hk : S.ok) (hx : S.txs[i]? = some x) {p : Nat} {ob : Ob} (hp : lk S.H.cur p = some ob) (hs : SecOk ob.second) (hc : clashB i x.start ob.second = true) (h0 : p ≠ 0) :
    Calls Tryz.prog 100 #[ptr y.sb, ptr (y.xb i), .int .i64 p] w fun e w' => e = .returned (.int .i64 141) ∧ Below w.heap.size w w' := by
  have HL := Lib.hid (look_clash h hk hx hp hs hc h0)
  clear h hk hx hp hs hc h0
  go_enter Tryz.func100, Tryz.ntmps100
  go_wp2_with fail
  refine HL.out.mono ?_
  rintro e w1 ⟨rfl, hb1⟩
  go_wp2_with fail
  go_ret
  exact ⟨rfl, balloc hb1 _⟩
def fieldsE (nb fr wk : Bool) : Int := if nb then (if fr then 142 else if wk then 144 else 0) else 130
theorem StIn.alloc (h : StIn w o y S) (x : Obj) : StIn (w.alloc x) o y S := h.below (balloc (bsame w) x)
theorem fields_in (h : StIn w o y S) (hk : S.ok) (hx : S.txs[i]? = some x) {p : Nat} {ob : Ob} (hp : lk S.H.cur p = some ob) (hs : SecOk ob.second) (hc : clashB i x.start ob.second = false) (h0 : p ≠ 0) :
    Calls Tryz.prog 100 #[ptr y.sb, ptr (y.xb i), .int .i64 p] w fun e w' => e = .returned (.int .i64 (fieldsE (noteB x.log.reads p x.log.mr) ob.freed ob.shp.weak)) ∧
      ∃ o', StIn w' o' y { S with txs := S.txs.set i (x.read p) } ∧ Stp (txTag y i) o o' w w' := by
  have HL := Lib.hid (look_in h hk hx hp hs hc h0)
  clear h hk hx hp hs hc h0
  generalize noteB x.log.reads p x.log.mr = nb at *
  obtain ⟨⟨sp, sd, wk, fn⟩, fr, se, sr, ps, ns⟩ := ob
  simp only at HL ⊢
  unfold lookV at HL
  unfold fieldsE
  cases nb <;> cases fr <;> cases wk
  all_goals
    simp only [Bool.and_true, Bool.and_false, Bool.not_true, Bool.not_false, Bool.false_eq_true, if_true, if_false] at HL ⊢
    go_enter Tryz.func100, Tryz.ntmps100
    go_wp2_with fail
    refine HL.out.mono ?_
    rintro e w1 ⟨rfl, o1, hs1, hst⟩
    go_wp2_with fail
    go_ret
    exact ⟨rfl, o1, hs1.alloc _, hst.alloc _⟩
theorem log_hold_full_v (h : StIn w o y S) (hk : S.ok) (hx : S.txs[i]? = some x) {p v : Nat} (hn : ∀ z ∈ x.log.holds, z.1 ≠ p) (hm : x.log.mu ≤ x.log.holds.length) :
    Calls Tryz.prog 116 #[ptr (y.lb i), .agg #[.int .i64 p, .int .i64 v]] w fun e w' => e = .returned (.bool false) ∧ Below w.heap.size w w' := by
  obtain ⟨vr, vk, vh, vu, hl⟩ := (h.txs i x hx).log
  exact log_hold_full hl (hk.lg x (List.mem_of_getElem? hx)) p v hn hm
def Tx.holding (x : Tx) (p v : Nat) : Tx := { x with log := { x.log with holds := x.log.holds ++ [(p, v)] } }
theorem loghold_in (h : StIn w o y S) (hk : S.ok) (hx : S.txs[i]? = some x) {p v : Nat} (hn : ∀ z ∈ x.log.holds, z.1 ≠ p) (hm : x.log.holds.length < x.log.mu) :
    Calls Tryz.prog 116 #[ptr (y.lb i), .agg #[.int .i64 p, .int .i64 v]] w fun e w' => e = .returned (.bool true) ∧
      ∃ o', StIn w' o' y { S with txs := S.txs.set i (x.holding p v) } ∧ Stp (txTag y i) o o' w w' := by
  have ht := h.txs i x hx
  obtain ⟨vr, vk, vh, vu, hl⟩ := ht.log
  refine (log_hold_room hl (hk.lg x (List.mem_of_getElem? hx)) p v hn hm).mono ?_
  rintro e w' ⟨rfl, vh', o', hl', hs⟩
  have hst : Stp (txTag y i) o o' w w' := hs.mono (by rintro _ (rfl | rfl) <;> exact ⟨rfl, by simp <;> omega, by simp <;> omega⟩)
  exact ⟨rfl, o', h.tx ⟨ht.blk.stp hs (by rw [ht.ob]; simp; omega), ⟨_, _, _, _, hl'⟩, (hst.tags _ ht.blk.lt).trans ht.ob⟩ hst, hst⟩
theorem logundo_full (h : StIn w o y S) (hx : S.txs[i]? = some x) (u : Un) (hm : x.log.mu ≤ x.log.undos.length) :
    Calls Tryz.prog 63 #[ptr (y.lb i), unV u] w fun e w' => e = .returned (.bool false) ∧ Below w.heap.size w w' := by
  obtain ⟨vr, vk, vh, vu, hl⟩ := (h.txs i x hx).log
  exact log_undo_full hl u hm
def Tx.undo (x : Tx) (u : Un) : Tx := { x with log := { x.log with undos := x.log.undos ++ [u] } }
theorem logundo_in (h : StIn w o y S) (hk : S.ok) (hx : S.txs[i]? = some x) (u : Un) (hm : x.log.undos.length < x.log.mu) :
    Calls Tryz.prog 63 #[ptr (y.lb i), unV u] w fun e w' => e = .returned (.bool true) ∧
      ∃ o', StIn w' o' y { S with txs := S.txs.set i (x.undo u) } ∧ Stp (txTag y i) o o' w w' := by
  have ht := h.txs i x hx
  obtain ⟨vr, vk, vh, vu, hl⟩ := ht.log
  refine (log_undo_room hl (hk.lg x (List.mem_of_getElem? hx)) u hm).mono ?_
  rintro e w' ⟨rfl, vu', o', hl', hs⟩
  have hst : Stp (txTag y i) o o' w w' := hs.mono (by rintro _ (rfl | rfl) <;> exact ⟨rfl, by simp <;> omega, by simp <;> omega⟩)
  exact ⟨rfl, o', h.tx ⟨ht.blk.stp hs (by rw [ht.ob]; simp; omega), ⟨_, _, _, _, hl'⟩, (hst.tags _ ht.blk.lt).trans ht.ob⟩ hst, hst⟩
/-- It is held already. -/
theorem hold_have (h : StIn w o y S) (hk : S.ok) {p : Nat} {ob : Ob} (hp : lk S.H.cur p = some ob) (hs : SecOk ob.second) (h1 : ob.second % 2 = 1) (b : Value) :
    Calls Tryz.prog 62 #[ptr y.sb, b, .int .i64 p] w fun e w' => e = .returned (.bool true) ∧ Below w.heap.size w w' := by
  obtain ⟨vc, vo, vw, vf, f, hh⟩ := h.hp
  obtain ⟨ha, ho, _, _⟩ := hh.at_ hk.F.ok hp
  have HC := Lib.hid (hsecond_in hh hk.F.ok hp)
  have HO := Lib.hid (fun w => owner_any ob.second ho.sec hs w)
  rw [decide_eq_true h1, if_pos h1, if_pos h1] at HO
  have hb := h.blk
  unfold stCells at hb
  have c := hb.cell
  generalize ob.second = v at *
  clear h hk hh hp ha ho hs h1
  go_enter Tryz.func62, Tryz.ntmps62
  go_wp2_with fail
  refine HC.out.mono ?_
  rintro e w1 ⟨rfl, hb1⟩
  go_wp2_with fail
  refine (HO.out _).mono ?_
  rintro e w2 ⟨rfl, rfl⟩
  go_wp2_with fail
  go_ret
  exact ⟨rfl, hb1⟩
theorem hold_full (h : StIn w o y S) (hk : S.ok) (hx : S.txs[i]? = some x) {p : Nat} {ob : Ob} (hp : lk S.H.cur p = some ob) (h1 : ¬ ob.second % 2 = 1) (hn : ∀ z ∈ x.log.holds, z.1 ≠ p) (hm : x.log.mu ≤ x.log.holds.length) :
    Calls Tryz.prog 62 #[ptr y.sb, ptr (y.xb i), .int .i64 p] w fun e w' => e = .returned (.bool false) ∧ Below w.heap.size w w' := by
  obtain ⟨vc, vo, vw, vf, f, hh⟩ := h.hp
  obtain ⟨ha, ho, _, _⟩ := hh.at_ hk.F.ok hp
  have HC := Lib.hid (hsecond_in hh hk.F.ok hp)
  have HO := Lib.hid (fun w => owner_any ob.second ho.sec (fun e => absurd e h1) w)
  rw [decide_eq_false h1, if_neg h1, if_neg h1] at HO
  have HL := Lib.hid (fun w' (hw : Below w.heap.size w w') => log_hold_full_v (v := ob.second / 2) (h.below hw) hk hx hn hm)
  have hb := h.blk
  unfold stCells at hb
  have c := hb.cell
  have jx := (h.txs i x hx).blk
  generalize ob.second / 2 = v2 at *
  generalize ob.second = v at *
  clear h hk hh hp ha ho h1 hn hm hx
  go_enter Tryz.func62, Tryz.ntmps62
  go_wp2_with fail
  refine HC.out.mono ?_
  rintro e w1 ⟨rfl, hb1⟩
  have cx := (jx.below hb1 jx.lt).cell
  go_wp2_with fail
  refine (HO.out _).mono ?_
  rintro e w2 ⟨rfl, rfl⟩
  go_wp2_with fail
  refine (HL.out _ hb1).mono ?_
  rintro e w2 ⟨rfl, hb2⟩
  go_wp2_with fail
  go_ret
  exact ⟨rfl, btrans hb1 hb2⟩
theorem Stt.ok_tx (hk : S.ok) {x' : Tx} (h1 : x'.log.ok) (h2 : x'.start ≤ S.now) : Stt.ok { S with txs := S.txs.set i x' } := by
  obtain ⟨k1, k2, k3, k4, k5, k6, k7, k8, k9⟩ := hk
  refine ⟨k1, k2, k3, by simpa using k4, by simpa using k5, fun z hz => ?_, fun z hz => ?_, k8, k9⟩
  · rcases List.mem_or_eq_of_mem_set hz with h | rfl
    · exact k6 z h
    · exact h1
  · rcases List.mem_or_eq_of_mem_set hz with h | rfl
    · exact k7 z h
    · exact h2
theorem Lg.ok_hold {L : Lg} (h : L.ok) (p v : Nat) (hm : L.holds.length < L.mu) : Lg.ok { L with holds := L.holds ++ [(p, v)] } :=
  ⟨h.mr, h.mu, h.r, h.k, by simp; omega, h.u⟩
theorem hold_in (h : StIn w o y S) (hk : S.ok) (hx : S.txs[i]? = some x) {p : Nat} {ob : Ob} (hp : lk S.H.cur p = some ob) (h1 : ¬ ob.second % 2 = 1) (hn : ∀ z ∈ x.log.holds, z.1 ≠ p) (hm : x.log.holds.length < x.log.mu) :
    Calls Tryz.prog 62 #[ptr y.sb, ptr (y.xb i), .int .i64 p] w fun e w' => e = .returned (.bool true) ∧
      ∃ o', StIn w' o' y { S with txs := S.txs.set i (x.holding p (ob.second / 2)), H := { S.H with cur := up S.H.cur p (ob.setSecond (2 * i + 1)) } } ∧ Stp (fun t => txTag y i t ∨ (t.1 = y.l.id ∧ t.2 ≤ 6)) o o' w w' := by
  obtain ⟨vc, vo, vw, vf, f, hh⟩ := h.hp
  obtain ⟨ha, ho, _, _⟩ := hh.at_ hk.F.ok hp
  have HC := Lib.hid (hsecond_in hh hk.F.ok hp)
  have HO := Lib.hid (fun w => owner_any ob.second ho.sec (fun e => absurd e h1) w)
  rw [decide_eq_false h1, if_neg h1, if_neg h1] at HO
  have HL := Lib.hid (fun w' (hw : Below w.heap.size w w') => loghold_in (v := ob.second / 2) (h.below hw) hk hx hn hm)
  have hi := (List.getElem?_eq_some_iff.1 hx).1
  have hk2 : Stt.ok { S with txs := S.txs.set i (x.holding p (ob.second / 2)) } := Stt.ok_tx hk (Lg.ok_hold (hk.lg x (List.mem_of_getElem? hx)) _ _ hm) (hk.st x (List.mem_of_getElem? hx))
  have HW := Lib.hid (fun w' o' (hw : StIn w' o' y { S with txs := S.txs.set i (x.holding p (ob.second / 2)) }) => own_in hw hk2 (i := i) (x := x.holding p (ob.second / 2)) (by simp [hi]) hp)
  have hb := h.blk
  unfold stCells at hb
  have c := hb.cell
  have jx := (h.txs i x hx).blk
  generalize ob.second / 2 = v2 at *
  generalize ob.second = v at *
  clear h hk hk2 hh hp ha ho h1 hn hm hx
  go_enter Tryz.func62, Tryz.ntmps62
  go_wp2_with fail
  refine HC.out.mono ?_
  rintro e w1 ⟨rfl, hb1⟩
  have cx := (jx.below hb1 jx.lt).cell
  go_wp2_with fail
  refine (HO.out _).mono ?_
  rintro e w2 ⟨rfl, rfl⟩
  go_wp2_with fail
  refine (HL.out _ hb1).mono ?_
  rintro e w2 ⟨rfl, o2, hS2, hs2⟩
  go_wp2_with fail
  refine (HW.out _ _ hS2).mono ?_
  rintro e w3 ⟨rfl, hS3, hs3⟩
  go_wp2_with fail
  go_ret
  exact ⟨rfl, o2, hS3, ((Stp.of_below hb1).trans (hs2.mono fun _ e => Or.inl e)).trans (hs3.mono fun _ e => Or.inr e)⟩
end
end Go.Proofs.YtemohiainfllcaaGreat
