/- The store in memory, and what stays of it when a part turns. -/
import Derived.Test.YtemohiainfllcaaGreatRf
import Derived.Test.YtemohiainfllcaaGreatRe
namespace Go.Proofs.YtemohiainfllcaaGreat
open Go.RowKit Hp
structure Tx where
  live : Bool
  start : Nat
  log : Lg
structure Stt where
  H : Hp
  now : Nat
  most : Nat
  txs : List Tx
  holder : Int
  version : Nat
structure Stt.ok (S : Stt) : Prop where
  F : HpF S.H
  n1 : S.now ≤ S.most
  n2 : S.most ≤ 1099511627776
  t1 : 1 ≤ S.txs.length
  t8 : S.txs.length ≤ 8
  lg : ∀ x ∈ S.txs, x.log.ok
  st : ∀ x ∈ S.txs, x.start ≤ S.now
  ve : S.version ≤ S.now
  ho : -1 ≤ S.holder ∧ S.holder ≤ 8
/-- Where a store lies. -/
structure SLay where
  sb : Nat
  l : HLay
  cy : Nat
  ck : Nat
  vth : Value
  xb : Nat → Nat
  lb : Nat → Nat
abbrev ptr (b : Nat) : Value := .pointer (some ⟨b, 0, none⟩)
structure TxIn (w : World) (o : Own) (id i xb lb : Nat) (x : Tx) : Prop where
  blk : Blk w xb #[.int .i64 i, .bool x.live, .int .i64 x.start, .int .i64 0, ptr lb, .slice none 0 0] 86
  log : ∃ vr vk vh vu, LgIn w o id (17 + 8 * i) lb x.log vr vk vh vu
  ob : o xb = (id, 16 + 8 * i)
def HpAt (w : World) (o : Own) (l : HLay) (H : Hp) : Prop := ∃ vc vo vw vf f, HpIn w o l H vc vo vw vf f
def stCells (y : SLay) (S : Stt) : Array Value :=
  #[ptr y.l.h, ptr y.cy, ptr y.ck, y.vth, .slice none 0 0, .int .i64 0, .int .i64 S.holder, .int .i64 S.version, .slice none 0 0, .slice none 0 0]
structure StIn (w : World) (o : Own) (y : SLay) (S : Stt) : Prop where
  blk : Blk w y.sb (stCells y S) 92
  hp : HpAt w o y.l S.H
  ck : Blk w y.ck #[.int .i64 S.now, .int .i64 S.most] 144
  thr : Row w o (y.l.id, 12) 81 1 y.vth S.txs.length ((List.range S.txs.length).map fun i => ptr (y.xb i))
  txs : ∀ i x, S.txs[i]? = some x → TxIn w o y.l.id i (y.xb i) (y.lb i) x
  oc : o y.ck = (y.l.id, 10)
  os : o y.sb = (y.l.id, 11)
theorem HpIn.stp {T : Tag → Prop} {w w' : World} {o o' : Own} {l : HLay} {H : Hp} {vc vo vw vf : Value} {f : Nat → Nat} (h : HpIn w o l H vc vo vw vf f) (hs : Stp T o o' w w') (hn : ∀ j, j ≤ 6 → ¬ T (l.id, j)) : HpIn w' o' l H vc vo vw vf f :=
  ⟨h.hb.stp hs (by rw [h.oh]; exact hn 0 (by omega)), h.wds.stp hs (by rw [h.oa]; exact hn 1 (by omega)) (by rw [h.ow]; exact hn 2 (by omega)),
    h.rc.stp hs (hn _ (by split <;> omega)), h.ro.stp hs (hn _ (by split <;> omega)), h.rw.stp hs (hn 5 (by omega)), h.rf.stp hs (hn 6 (by omega)),
    (hs.tags _ h.hb.lt).trans h.oh, (hs.tags _ h.wds.arena.lt).trans h.oa, (hs.tags _ h.wds.lt).trans h.ow, h.obs, h.olds⟩
theorem HpAt.stp {T : Tag → Prop} {w w' : World} {o o' : Own} {l : HLay} {H : Hp} (h : HpAt w o l H) (hs : Stp T o o' w w') (hn : ∀ j, j ≤ 6 → ¬ T (l.id, j)) : HpAt w' o' l H := by
  obtain ⟨vc, vo, vw, vf, f, h⟩ := h
  exact ⟨vc, vo, vw, vf, f, h.stp hs hn⟩
theorem TxIn.stp {T : Tag → Prop} {w w' : World} {o o' : Own} {id i xb lb : Nat} {x : Tx} (h : TxIn w o id i xb lb x) (hs : Stp T o o' w w') (hn : ∀ j, j ≤ 7 → ¬ T (id, 16 + 8 * i + j)) : TxIn w' o' id i xb lb x := by
  obtain ⟨vr, vk, vh, vu, hl⟩ := h.log
  refine ⟨h.blk.stp hs (by rw [h.ob]; exact hn 0 (by omega)), ⟨vr, vk, vh, vu, hl.stp hs fun j hj => ?_⟩, (hs.tags _ h.blk.lt).trans h.ob⟩
  have := hn (1 + j) (by omega)
  rwa [show 16 + 8 * i + (1 + j) = 17 + 8 * i + j from by omega] at this
section
variable {w w' : World} {o o' : Own} {y : SLay} {S : Stt}
theorem StIn.stp {T : Tag → Prop} (h : StIn w o y S) (hs : Stp T o o' w w') (hn : ∀ j, ¬ T (y.l.id, j)) : StIn w' o' y S :=
  ⟨h.blk.stp hs (by rw [h.os]; exact hn _), h.hp.stp hs fun j _ => hn j, h.ck.stp hs (by rw [h.oc]; exact hn _), h.thr.stp hs (hn _), fun i x hx => (h.txs i x hx).stp hs fun j _ => hn _, (hs.tags _ h.ck.lt).trans h.oc, (hs.tags _ h.blk.lt).trans h.os⟩
theorem StIn.below (h : StIn w o y S) (hb : Below w.heap.size w w') : StIn w' o y S := h.stp (T := fun _ => False) (Stp.of_below hb) fun _ h => h
theorem StIn.retag (h : StIn w o y S) (he : ∀ b, b < w.heap.size → o' b = o b) : StIn w o' y S :=
  h.stp (T := fun _ => False) ⟨rfl, rfl, rfl, Nat.le_refl _, he, fun _ _ _ => rfl⟩ fun _ h => h
/-- The heap turned. -/
theorem StIn.heap (h : StIn w o y S) {H' : Hp} (hh : HpAt w' o' y.l H') (hs : Stp (fun t => t.1 = y.l.id ∧ t.2 ≤ 6) o o' w w') : StIn w' o' y { S with H := H' } :=
  ⟨h.blk.stp hs (by rw [h.os]; simp), hh, h.ck.stp hs (by rw [h.oc]; simp), h.thr.stp hs (by simp), fun i x hx => (h.txs i x hx).stp hs fun j _ => by simp; omega, (hs.tags _ h.ck.lt).trans h.oc, (hs.tags _ h.blk.lt).trans h.os⟩
/-- A transaction turned. -/
theorem StIn.tx (h : StIn w o y S) {i : Nat} {x' : Tx} (hx' : TxIn w' o' y.l.id i (y.xb i) (y.lb i) x') (hs : Stp (fun t => t.1 = y.l.id ∧ 16 + 8 * i ≤ t.2 ∧ t.2 ≤ 23 + 8 * i) o o' w w') : StIn w' o' y { S with txs := S.txs.set i x' } := by
  refine ⟨h.blk.stp hs (by rw [h.os]; simp; omega), h.hp.stp hs fun j hj => by simp; omega, h.ck.stp hs (by rw [h.oc]; simp; omega), ?_, fun j x hx => ?_, (hs.tags _ h.ck.lt).trans h.oc, (hs.tags _ h.blk.lt).trans h.os⟩
  · show Row w' o' _ _ 1 y.vth (S.txs.set i x').length _
    rw [List.length_set]
    exact h.thr.stp hs (by simp; omega)
  · simp only [List.getElem?_set] at hx
    split at hx
    · rename_i e; subst e
      split at hx
      · injection hx with hx; subst hx; exact hx'
      · cases hx
    · rename_i e
      exact (h.txs j x hx).stp hs fun k hk => by simp; omega
/-- The clock turned. -/
theorem StIn.clock (h : StIn w o y S) {n : Nat} (hc : Blk w' y.ck #[.int .i64 n, .int .i64 S.most] 144) (hs : Stp (fun t => t = (y.l.id, 10)) o o' w w') : StIn w' o' y { S with now := n } :=
  ⟨h.blk.stp hs (by rw [h.os]; simp), h.hp.stp hs fun j hj => by simp; omega, hc, h.thr.stp hs (by simp), fun i x hx => (h.txs i x hx).stp hs fun j _ => by simp; omega, (hs.tags _ h.ck.lt).trans h.oc, (hs.tags _ h.blk.lt).trans h.os⟩
/-- Who takes, and the version of that, turned. -/
theorem StIn.own (h : StIn w o y S) {z : Int} {v : Nat} (hb : Blk w' y.sb (stCells y { S with holder := z, version := v }) 92) (hs : Stp (fun t => t = (y.l.id, 11)) o o' w w') : StIn w' o' y { S with holder := z, version := v } :=
  ⟨hb, h.hp.stp hs fun j hj => by simp; omega, h.ck.stp hs (by rw [h.oc]; simp), h.thr.stp hs (by simp), fun i x hx => (h.txs i x hx).stp hs fun j _ => by simp; omega, (hs.tags _ h.ck.lt).trans h.oc, (hs.tags _ h.blk.lt).trans h.os⟩
theorem StIn.thrCell (h : StIn w o y S) (i : Nat) (hi : i < S.txs.length) : ∃ g cap, y.vth = .slice (some ⟨g, 0, none⟩) S.txs.length cap ∧ w.cell? ⟨g, i, none⟩ = some (ptr (y.xb i)) ∧ S.txs.length ≤ cap := by
  rcases h.thr.form with ⟨_, h0⟩ | ⟨g, cap, e, hn, hc, _⟩
  · omega
  · refine ⟨g, cap, e, ?_, hn⟩
    have hr := h.thr
    rw [e] at hr
    refine hr.cells i _ ?_
    rw [List.getElem?_map, List.getElem?_range hi]
    rfl
end
end Go.Proofs.YtemohiainfllcaaGreat

/- Walks: the small functions of a store. -/
namespace Go.Proofs.YtemohiainfllcaaGreat
open Go.RowKit Hp
attribute [local go_sem ↓] Go.wp_at_zero Go.wp_at_succ
section
variable {w w' : World} {o o' : Own} {y : SLay} {S : Stt} {x : Tx} {i : Nat}
theorem thread_in (h : StIn w o y S) (hk : S.ok) (hi : i < S.txs.length) :
    Calls Tryz.prog 42 #[ptr y.sb, .int .i64 i] w fun e w' => e = .returned (ptr (y.xb i)) ∧ w = w' := by
  obtain ⟨g, cap, e, hc, hcap⟩ := h.thrCell i hi
  have hb := h.blk
  unfold stCells at hb
  rw [e] at hb
  have c := hb.cell
  have hI : (i : Int) < (S.txs.length : Int) := by omega
  have h8 := hk.t8
  clear h hk
  go_enter Tryz.func42, Tryz.ntmps42
  go_wp2_with fail
  go_ret
  exact ⟨rfl, rfl⟩
theorem TxIn.cell {id xb lb : Nat} (h : TxIn w o id i xb lb x) (j : Nat) : w.cell? ⟨xb, j, none⟩ = (#[.int .i64 i, .bool x.live, .int .i64 x.start, .int .i64 0, ptr lb, .slice none 0 0] : Array Value)[j]? := h.blk.cell j
theorem running_in (h : StIn w o y S) (hk : S.ok) (hx : S.txs[i]? = some x) :
    Calls Tryz.prog 50 #[ptr y.sb, .int .i64 i] w fun e w' => e = .returned (if x.live then ptr (y.xb i) else .pointer none) ∧ w = w' := by
  have HT := Lib.hid (thread_in h hk (List.getElem?_eq_some_iff.1 hx).1)
  have c := (h.txs i x hx).cell
  clear h hk hx
  cases hl : x.live
  all_goals
    rw [hl] at c
    go_enter Tryz.func50, Tryz.ntmps50
    go_wp2_with fail
    refine HT.out.mono ?_
    rintro e w1 ⟨rfl, rfl⟩
    go_wp2_with fail
    go_ret
    exact ⟨rfl, rfl⟩
theorem live_in (h : StIn w o y S) (hk : S.ok) (hx : S.txs[i]? = some x) :
    Calls Tryz.prog 17 #[ptr y.sb, .int .i64 i] w fun e w' => e = .returned (.tuple #[.int .i64 (if x.live then (x.start : Int) else 0), .bool x.live]) ∧ w = w' := by
  have HT := Lib.hid (running_in h hk hx)
  have c := (h.txs i x hx).cell
  clear h hk hx
  cases hl : x.live
  all_goals
    rw [hl] at c HT
    try simp only [if_true, if_false, Bool.false_eq_true] at HT ⊢
    go_enter Tryz.func17, Tryz.ntmps17
    go_wp2_with fail
    refine HT.out.mono ?_
    rintro e w1 ⟨rfl, rfl⟩
    go_wp2_with fail
    go_ret2
    exact ⟨rfl, rfl⟩
theorem now_in (h : StIn w o y S) :
    Calls Tryz.prog 21 #[ptr y.sb] w fun e w' => e = .returned (.int .i64 S.now) ∧ w = w' := by
  have HC := Lib.hid (clk_now h.ck)
  have hb := h.blk
  unfold stCells at hb
  have c := hb.cell
  clear h
  go_enter Tryz.func21, Tryz.ntmps21
  go_wp2_with fail
  refine HC.out.mono ?_
  rintro e w1 ⟨rfl, rfl⟩
  go_wp2_with fail
  go_ret
  exact ⟨rfl, rfl⟩
theorem sroom_in (h : StIn w o y S) (hk : S.ok) :
    Calls Tryz.prog 35 #[ptr y.sb] w fun e w' => e = .returned (.int .i64 ((1 + S.H.size - S.H.top : Nat) : Int)) ∧ Below w.heap.size w w' := by
  obtain ⟨vc, vo, vw, vf, f, hh⟩ := h.hp
  have HC := Lib.hid (room_f hh hk.F.ok hk.F.use hk.F.mov)
  have hb := h.blk
  unfold stCells at hb
  have c := hb.cell
  generalize ((1 + S.H.size - S.H.top : Nat) : Int) = r at *
  clear h hk hh
  go_enter Tryz.func35, Tryz.ntmps35
  go_wp2_with fail
  refine HC.out.mono ?_
  rintro e w1 ⟨rfl, hb1⟩
  go_wp2_with fail
  go_ret
  exact ⟨rfl, hb1⟩
/-- What a second word means. -/
def SecOk (v : Nat) : Prop := v % 2 = 1 → v / 2 < 8
def clashB (i start v : Nat) : Bool := if v % 2 = 1 then decide (v / 2 ≠ i) else decide (start < v / 2)
theorem owner_any (v : Nat) (hv : v ≤ 2199023255552) (hs : SecOk v) (w : World) : Calls Tryz.prog 106 #[.int .u64 v] w fun e w' =>
    e = .returned (.tuple #[.int .i64 (if v % 2 = 1 then ((v / 2 : Nat) : Int) else 0), .int .i64 (if v % 2 = 1 then 0 else ((v / 2 : Nat) : Int)), .bool (decide (v % 2 = 1))]) ∧ w = w' := by
  by_cases h : v % 2 = 1
  · have h8 := hs h
    have e1 : (v : Int) = 2 * ((v / 2 : Nat) : Int) + 1 := by omega
    rw [e1, if_pos h, if_pos h, decide_eq_true h]
    exact owner_held _ ⟨by omega, by omega⟩ w
  · have e1 : (v : Int) = 2 * ((v / 2 : Nat) : Int) := by omega
    rw [e1, if_neg h, if_neg h, decide_eq_false h]
    exact owner_free _ ⟨by omega, by omega⟩ w
theorem clash_in (h : StIn w o y S) (hk : S.ok) (hx : S.txs[i]? = some x) {p : Nat} {ob : Ob} (hp : lk S.H.cur p = some ob) (hs : SecOk ob.second) :
    Calls Tryz.prog 55 #[ptr y.sb, ptr (y.xb i), .int .i64 p] w fun e w' => e = .returned (.bool (clashB i x.start ob.second)) ∧ Below w.heap.size w w' := by
  obtain ⟨vc, vo, vw, vf, f, hh⟩ := h.hp
  obtain ⟨ha, ho, _, _⟩ := hh.at_ hk.F.ok hp
  have HC := Lib.hid (hsecond_in hh hk.F.ok hp)
  have HO := Lib.hid (fun w => owner_any ob.second ho.sec hs w)
  have hb := h.blk
  unfold stCells at hb
  have c := hb.cell
  have jx := (h.txs i x hx).blk
  unfold clashB
  generalize ob.second = v at *
  clear h hk hh hp ha ho hx hs
  by_cases hv : v % 2 = 1
  · rw [if_pos hv]
    rw [if_pos hv, if_pos hv, decide_eq_true hv] at HO
    have hd : decide (v / 2 ≠ i) = decide ((((v / 2 : Nat) : Int)) ≠ (i : Int)) := by
      rw [Bool.eq_iff_iff]; simp only [decide_eq_true_eq]; omega
    rw [hd]
    generalize ((v / 2 : Nat) : Int) = q at *
    clear hv hd
    go_enter Tryz.func55, Tryz.ntmps55
    go_wp2_with fail
    refine HC.out.mono ?_
    rintro e w1 ⟨rfl, hb1⟩
    have cx := (jx.below hb1 jx.lt).cell
    go_wp2_with fail
    refine (HO.out _).mono ?_
    rintro e w2 ⟨rfl, rfl⟩
    go_wp2_with fail
    go_ret
    exact ⟨by simp [bne, BEq.beq], hb1⟩
  · rw [if_neg hv]
    rw [if_neg hv, if_neg hv, decide_eq_false hv] at HO
    have hd : decide (x.start < v / 2) = decide ((x.start : Int) < (((v / 2 : Nat) : Int))) := by
      rw [Bool.eq_iff_iff]; simp only [decide_eq_true_eq]; omega
    rw [hd]
    generalize ((v / 2 : Nat) : Int) = q at *
    clear hv hd
    go_enter Tryz.func55, Tryz.ntmps55
    go_wp2_with fail
    refine HC.out.mono ?_
    rintro e w1 ⟨rfl, hb1⟩
    have cx := (jx.below hb1 jx.lt).cell
    go_wp2_with fail
    refine (HO.out _).mono ?_
    rintro e w2 ⟨rfl, rfl⟩
    go_wp2_with fail
    go_ret
    exact ⟨rfl, hb1⟩
theorem HpF.turn {H : Hp} (h : HpF H) {p : Nat} {ob ob' : Ob} (hp : lk H.cur p = some ob) (ho : ob'.ok) (hs : ob'.size = ob.size) : HpF { H with cur := up H.cur p ob' } :=
  ⟨Hp.ok_up h.ok hp ho hs, h.use, h.mov, by show _ ≤ (up H.cur p ob').length; rw [show (up H.cur p ob').length = H.cur.length from by unfold Go.Proofs.YtemohiainfllcaaGreat.up; simp]; exact h.wl, by show _ ≤ (up H.cur p ob').length; rw [show (up H.cur p ob').length = H.cur.length from by unfold Go.Proofs.YtemohiainfllcaaGreat.up; simp]; exact h.fl⟩
theorem HpAt.of_wr {l : HLay} {H H' : Hp} {vc vo vw vf : Value} {f : Nat → Nat} (hh : HpIn w o l H vc vo vw vf f) (h' : ∃ f', HpIn w' o l H' vc vo vw vf f') (hw : Wr l.wd w w') : HpAt w' o l H' ∧ Stp (fun t => t.1 = l.id ∧ t.2 ≤ 6) o o w w' := by
  obtain ⟨f', h'⟩ := h'
  exact ⟨⟨vc, vo, vw, vf, f', h'⟩, Stp.of_wr hw (by rw [hh.ow]; simp)⟩
/-- An object's second word turned, in a store. -/
theorem own_in (h : StIn w o y S) (hk : S.ok) (hx : S.txs[i]? = some x) {p : Nat} {ob : Ob} (hp : lk S.H.cur p = some ob) :
    Calls Tryz.prog 117 #[ptr y.sb, ptr (y.xb i), .int .i64 p] w fun e w' => e = .returned (.tuple #[]) ∧
      StIn w' o y { S with H := { S.H with cur := up S.H.cur p (ob.setSecond (2 * i + 1)) } } ∧ Stp (fun t => t.1 = y.l.id ∧ t.2 ≤ 6) o o w w' := by
  obtain ⟨vc, vo, vw, vf, f, hh⟩ := h.hp
  have h8 := hk.t8
  have hi := (List.getElem?_eq_some_iff.1 hx).1
  have HC := Lib.hid (hsetsecond_in hh hk.F.ok hp (2 * i + 1) (by omega))
  have HO := Lib.hid (fun w => held_any i ⟨by omega, by omega⟩ w)
  have ei : ((2 * i + 1 : Nat) : Int) = 2 * (i : Int) + 1 := by omega
  rw [ei] at HC
  generalize 2 * (i : Int) + 1 = q at HC HO
  have HI := Lib.hid h
  have HH := Lib.hid hh
  have hb := h.blk
  unfold stCells at hb
  have c := hb.cell
  have cx := (h.txs i x hx).blk.cell
  clear h hk hh hp hx hi h8 ei
  go_enter Tryz.func117, Tryz.ntmps117
  go_wp2_with fail
  refine (HO.out _).mono ?_
  rintro e w1 ⟨rfl, rfl⟩
  go_wp2_with fail
  refine HC.out.mono ?_
  rintro e w2 ⟨rfl, hok, h', hw⟩
  go_wp2_with fail
  go_end0
  obtain ⟨a1, a2⟩ := HpAt.of_wr HH.out h' hw
  exact ⟨rfl, HI.out.heap a1 a2, a2⟩
theorem release_in (h : StIn w o y S) (hk : S.ok) {p v : Nat} {ob : Ob} (hp : lk S.H.cur p = some ob) (hv : v ≤ 1099511627776) :
    Calls Tryz.prog 57 #[ptr y.sb, .int .i64 p, .int .i64 v] w fun e w' => e = .returned (.tuple #[]) ∧
      StIn w' o y { S with H := { S.H with cur := up S.H.cur p (ob.setSecond (2 * v)) } } ∧ Stp (fun t => t.1 = y.l.id ∧ t.2 ≤ 6) o o w w' := by
  obtain ⟨vc, vo, vw, vf, f, hh⟩ := h.hp
  have HC := Lib.hid (hsetsecond_in hh hk.F.ok hp (2 * v) (by omega))
  have HO := Lib.hid (fun w => free_any v ⟨by omega, by omega⟩ w)
  have ei : ((2 * v : Nat) : Int) = 2 * (v : Int) := by omega
  rw [ei] at HC
  generalize 2 * (v : Int) = q at HC HO
  have HI := Lib.hid h
  have HH := Lib.hid hh
  have hb := h.blk
  unfold stCells at hb
  have c := hb.cell
  clear h hk hh hp hv ei
  go_enter Tryz.func57, Tryz.ntmps57
  go_wp2_with fail
  refine (HO.out _).mono ?_
  rintro e w1 ⟨rfl, rfl⟩
  go_wp2_with fail
  refine HC.out.mono ?_
  rintro e w2 ⟨rfl, hok, h', hw⟩
  go_wp2_with fail
  go_end0
  obtain ⟨a1, a2⟩ := HpAt.of_wr HH.out h' hw
  exact ⟨rfl, HI.out.heap a1 a2, a2⟩
/-- A transaction's end. -/
def Tx.ended (x : Tx) : Tx := { x with live := false, log := { x.log with reads := [], keeps := [], holds := [], undos := [] } }
theorem end_in (h : StIn w o y S) (hx : S.txs[i]? = some x) :
    Calls Tryz.prog 53 #[ptr y.sb, ptr (y.xb i)] w fun e w' => e = .returned (.tuple #[]) ∧
      StIn w' o y { S with txs := S.txs.set i x.ended } ∧ Stp (fun t => t.1 = y.l.id ∧ 16 + 8 * i ≤ t.2 ∧ t.2 ≤ 23 + 8 * i) o o w w' := by
  have ht := h.txs i x hx
  obtain ⟨vr, vk, vh, vu, hl⟩ := ht.log
  have HR := Lib.hid (log_reset hl)
  have HI := Lib.hid h
  have jx := ht.blk
  have c := jx.cell
  have ob := ht.ob
  clear h hl ht hx
  go_enter Tryz.func53, Tryz.ntmps53
  go_wp2_with fail
  refine HR.out.mono ?_
  rintro e w1 ⟨rfl, hl1, hs1⟩
  have j1 := jx.stp hs1 (by rw [ob]; simp)
  clear c jx
  have c := j1.cell
  have z := j1.free
  have s := j1.lt
  go_wp2_with fail
  go_end0
  have hs2 : Stp (fun t => t.1 = y.l.id ∧ 16 + 8 * i ≤ t.2 ∧ t.2 ≤ 23 + 8 * i) o o w1 ((w1.setCell ⟨y.xb i, 5, none⟩ (.slice none 0 0)).setCell ⟨y.xb i, 1, none⟩ (.bool false)) :=
    ((Stp.refl _ o w1).setCell (by show (o (y.xb i)).1 = _ ∧ _; rw [ob]; simp) _).setCell (by show (o (y.xb i)).1 = _ ∧ _; rw [ob]; simp) _
  have hs3 : Stp (fun t => t = (y.l.id, 16 + 8 * i)) o o w1 ((w1.setCell ⟨y.xb i, 5, none⟩ (.slice none 0 0)).setCell ⟨y.xb i, 1, none⟩ (.bool false)) :=
    ((Stp.refl _ o w1).setCell (by show o (y.xb i) = _; exact ob) _).setCell (by show o (y.xb i) = _; exact ob) _
  have hs : Stp (fun t => t.1 = y.l.id ∧ 16 + 8 * i ≤ t.2 ∧ t.2 ≤ 23 + 8 * i) o o w _ := (hs1.mono (by rintro _ rfl; simp)).trans hs2
  refine ⟨rfl, HI.out.tx ⟨(j1.set 5 _).set 1 _, ⟨_, _, _, _, hl1.stp hs3 fun j hj => by simp; omega⟩, ob⟩ hs, hs⟩
end
end Go.Proofs.YtemohiainfllcaaGreat

/- Walks: a transaction looks at an object. -/
namespace Go.Proofs.YtemohiainfllcaaGreat
open Go.RowKit Hp
attribute [local go_sem ↓] Go.wp_at_zero Go.wp_at_succ
section
variable {w w' : World} {o o' : Own} {y : SLay} {S : Stt} {x : Tx} {i : Nat}
def Tx.read (x : Tx) (p : Nat) : Tx := { x with log := { x.log with reads := noteL x.log.reads p x.log.mr } }
def txTag (y : SLay) (i : Nat) (t : Tag) : Prop := t.1 = y.l.id ∧ 16 + 8 * i ≤ t.2 ∧ t.2 ≤ 23 + 8 * i
def lookV (ok fr : Bool) (s : Shp) : Value := .tuple #[if ok && !fr then shpV s else shpV ⟨0, 0, false, false⟩, .int .i64 (if ok then (if fr then 142 else 0) else 130)]
theorem StIn.box (h : StIn w o y S) {a : Addr} (ht : o a.block = (y.l.id + 1, 0)) (v : Value) : StIn (w.setCell a v) o y S :=
  h.stp (T := fun t => t = (y.l.id + 1, 0)) ((Stp.refl _ o w).setCell ht v) fun j => by simp
theorem look_nil (w : World) (a b : Value) :
    Calls Tryz.prog 61 #[a, b, .int .i64 0] w fun e w' => e = .returned (.tuple #[shpV ⟨0, 0, false, false⟩, .int .i64 143]) ∧ Below w.heap.size w w' := by
  go_enter Tryz.func61, Tryz.ntmps61
  go_wp2_with fail
  refine bodyPost_ret (v := .tuple #[shpV ⟨0, 0, false, false⟩, .int .i64 143]) (by simp [results, Tryz.results61, go_sem]) rfl ⟨rfl, ?_⟩
  repeat (first | exact balloc (bsame w) _ | refine bset ?_ (Nat.le_refl _) _)
theorem look_clash (h : StIn w o y S) (hk : S.ok) (hx : S.txs[i]? = some x) {p : Nat} {ob : Ob} (hp : lk S.H.cur p = some ob) (hs : SecOk ob.second) (hc : clashB i x.start ob.second = true) (h0 : p ≠ 0) :
    Calls Tryz.prog 61 #[ptr y.sb, ptr (y.xb i), .int .i64 p] w fun e w' => e = .returned (.tuple #[shpV ⟨0, 0, false, false⟩, .int .i64 141]) ∧ Below w.heap.size w w' := by
  obtain ⟨vc, vo, vw, vf, f, hh⟩ := h.hp
  have HS := Lib.hid (fun w' (hw : Below w.heap.size w w') => hshape_in (hh.below hw) hk.F.ok hp)
  have HC := Lib.hid (fun w' (hw : Below w.heap.size w w') => clash_in (h.below hw) hk hx hp hs)
  rw [hc] at HC
  have jb := h.blk
  unfold stCells at jb
  have c := jb.cell
  have sb := jb.lt
  clear h hk hh hp hx hs hc
  obtain ⟨⟨sp, sd, wk, fn⟩, fr, se, sr, ps, ns⟩ := ob
  simp only at HS
  go_enter Tryz.func61, Tryz.ntmps61
  go_wp2_with fail
  refine (HS.out _ (balloc (bsame w) _)).mono ?_
  rintro e w1 ⟨rfl, hb1⟩
  have jR := (Blk.new w #[.int .i64 0, .int .i64 0, .bool false, .bool false] 80).below hb1 (by simp)
  have hw1 := btrans (balloc (bsame w) _) hb1
  clear hb1
  go_wp2_with fail
  refine (HC.out _ (balloc hw1 _)).mono ?_
  rintro e w2 ⟨rfl, hb2⟩
  have jR2 := (jR.alloc (.cells #[.int .i64 sp, .int .i64 sd, .bool wk, .bool fn] 80)).below hb2 (jR.alloc _).lt
  have hw2 := btrans (balloc hw1 _) hb2
  clear hb2 jR c
  have cR := jR2.cell
  have zR := jR2.free
  have sR := jR2.lt
  go_wp2_with fail
  refine bodyPost_ret (v := .tuple #[shpV ⟨0, 0, false, false⟩, .int .i64 141]) (by simp [results, Tryz.results61, go_sem, cR]) rfl ⟨rfl, ?_⟩
  repeat (first | exact hw2 | refine bset ?_ (Nat.le_refl _) _)
set_option maxHeartbeats 2000000 in
theorem look_in (h0 : StIn w o y S) (hk : S.ok) (hx : S.txs[i]? = some x) {p : Nat} {ob : Ob} (hp : lk S.H.cur p = some ob) (hs : SecOk ob.second) (hc : clashB i x.start ob.second = false) (hp0 : p ≠ 0) :
    Calls Tryz.prog 61 #[ptr y.sb, ptr (y.xb i), .int .i64 p] w fun e w' => e = .returned (lookV (noteB x.log.reads p x.log.mr) ob.freed ob.shp) ∧
      ∃ o', StIn w' o' y { S with txs := S.txs.set i (x.read p) } ∧ Stp (txTag y i) o o' w w' := by
  obtain ⟨o1, ho1⟩ : ∃ o1, o1 = ext o w.heap.size (y.l.id + 1, 0) := ⟨_, rfl⟩
  have h := h0.retag (o' := o1) fun b hb => by rw [ho1]; exact ext_lt hb
  have hS0 : Stp (txTag y i) o o1 w w := by rw [ho1]; exact (Stp.refl _ o w).ext _ _ (Nat.le_refl _)
  have hbx : ∀ b, w.heap.size ≤ b → o1 b = (y.l.id + 1, 0) := fun b hb => by rw [ho1]; exact ext_ge hb
  clear ho1 h0
  obtain ⟨vc, vo, vw, vf, f, hh⟩ := h.hp
  have HS := Lib.hid (fun w' (hw : Below w.heap.size w w') => hshape_in (hh.below hw) hk.F.ok hp)
  have HC := Lib.hid (fun w' (hw : Below w.heap.size w w') => clash_in (h.below hw) hk hx hp hs)
  rw [hc] at HC
  obtain ⟨vr, vk, vh, vu, hl⟩ := (h.txs i x hx).log
  have HL := Lib.hid (fun w' (hw : Below w.heap.size w w') => log_read (hl.below hw) (hk.lg x (List.mem_of_getElem? hx)) p)
  have HI := Lib.hid h
  have HX := Lib.hid (h.txs i x hx)
  have jx := (h.txs i x hx).blk
  have jb := h.blk
  unfold stCells at jb
  have c := jb.cell
  have sb := jb.lt
  unfold lookV Tx.read
  generalize noteB x.log.reads p x.log.mr = nb at *
  generalize noteL x.log.reads p x.log.mr = nl at *
  clear h hk hh hp hx hs hc hl
  obtain ⟨⟨sp, sd, wk, fn⟩, fr, se, sr, ps, ns⟩ := ob
  simp only at HS
  go_enter Tryz.func61, Tryz.ntmps61
  go_wp2_with fail
  refine (HS.out _ (balloc (bsame w) _)).mono ?_
  rintro e w1 ⟨rfl, hb1⟩
  have jR := (Blk.new w #[.int .i64 0, .int .i64 0, .bool false, .bool false] 80).below hb1 (by simp)
  have hw1 := btrans (balloc (bsame w) (.cells #[.int .i64 0, .int .i64 0, .bool false, .bool false] 80)) hb1
  have hz1 : w.heap.size < w1.heap.size := jR.lt
  clear hb1
  go_wp2_with fail
  refine (HC.out _ (balloc hw1 _)).mono ?_
  rintro e w2 ⟨rfl, hb2⟩
  have jR2 := (jR.alloc (.cells #[.int .i64 sp, .int .i64 sd, .bool wk, .bool fn] 80)).below hb2 (jR.alloc _).lt
  have jS2 := (Blk.new w1 #[.int .i64 sp, .int .i64 sd, .bool wk, .bool fn] 80).below hb2 (by simp)
  have hw2 := btrans (balloc hw1 (.cells #[.int .i64 sp, .int .i64 sd, .bool wk, .bool fn] 80)) hb2
  clear hb2 jR c
  have cx := (jx.below hw2 jx.lt).cell
  go_wp2_with fail
  refine (HL.out _ hw2).mono ?_
  rintro e w3 ⟨rfl, vr', o3, hl3, hs3⟩
  have jR3 := jR2.stp hs3 (by rw [hbx _ (Nat.le_refl _)]; simp)
  have t3 : o3 w.heap.size = (y.l.id + 1, 0) := (hs3.tags _ jR2.lt).trans (hbx _ (Nat.le_refl _))
  have jS3 := jS2.stp hs3 (by rw [hbx _ (by omega)]; simp)
  have hst : Stp (txTag y i) o1 o3 w w3 := (Stp.of_below hw2).trans (hs3.mono (by rintro _ (rfl | rfl) <;> exact ⟨rfl, by simp <;> omega, by simp <;> omega⟩))
  have hst2 : StIn w3 o3 y { S with txs := S.txs.set i { x with log := { x.log with reads := nl } } } :=
    HI.out.tx ⟨(jx.below hw2 jx.lt).stp hs3 (by rw [HX.out.ob]; simp; omega), ⟨_, _, _, _, hl3⟩, (hst.tags _ HX.out.blk.lt).trans HX.out.ob⟩ hst
  have b3 : w.heap.size ≤ w3.heap.size := Nat.le_trans hw2.size hs3.size
  clear cx jR2 jS2 hl3 hs3
  have cR := jR3.cell
  have zR := jR3.free
  have sR := jR3.lt
  have cS := jS3.cell
  have sS := jS3.lt
  have H2 := Lib.hid hst2
  have H3 := Lib.hid (hS0.trans hst)
  clear hst2 hst hS0
  cases nb
  · go_wp2_with fail
    refine bodyPost_ret (v := .tuple #[shpV ⟨0, 0, false, false⟩, .int .i64 130]) (by simp [results, Tryz.results61, go_sem, cR]) rfl ⟨by cases fr <;> rfl, o3, ?_, ?_⟩
    · repeat (first | exact H2.out | refine StIn.box ?_ t3 _)
    · repeat (first | exact H3.out | refine Stp.setCell_new ?_ (Nat.le_refl _) _)
  · cases fr
    · go_wp2_with fail
      refine bodyPost_ret (v := .tuple #[shpV ⟨sp, sd, wk, fn⟩, .int .i64 0]) (by simp [results, Tryz.results61, go_sem, cR]) rfl ⟨rfl, o3, ?_, ?_⟩
      · repeat (first | exact H2.out | refine StIn.box ?_ t3 _)
      · repeat (first | exact H3.out | refine Stp.setCell_new ?_ (Nat.le_refl _) _)
    · go_wp2_with fail
      refine bodyPost_ret (v := .tuple #[shpV ⟨0, 0, false, false⟩, .int .i64 142]) (by simp [results, Tryz.results61, go_sem, cR]) rfl ⟨rfl, o3, ?_, ?_⟩
      · repeat (first | exact H2.out | refine StIn.box ?_ t3 _)
      · repeat (first | exact H3.out | refine Stp.setCell_new ?_ (Nat.le_refl _) _)
end
end Go.Proofs.YtemohiainfllcaaGreat

/- Walks: a transaction looks at an object that is not to be weak; it holds one. -/
namespace Go.Proofs.YtemohiainfllcaaGreat
open Go.RowKit Hp
attribute [local go_sem ↓] Go.wp_at_zero Go.wp_at_succ
section
variable {w w' : World} {o o' : Own} {y : SLay} {S : Stt} {x : Tx} {i : Nat}
theorem fields_nil (w : World) (a b : Value) :
    Calls Tryz.prog 100 #[a, b, .int .i64 0] w fun e w' => e = .returned (.int .i64 143) ∧ Below w.heap.size w w' := by
  have HL := Lib.hid (look_nil w a b)
  go_enter Tryz.func100, Tryz.ntmps100
  go_wp2_with fail
  refine HL.out.mono ?_
  rintro e w1 ⟨rfl, hb1⟩
  go_wp2_with fail
  go_ret
  exact ⟨rfl, balloc hb1 _⟩
theorem fields_clash (h : StIn w o y S) (hk : S.ok) (hx : S.txs[i]? = some x) {p : Nat} {ob : Ob} (hp : lk S.H.cur p = some ob) (hs : SecOk ob.second) (hc : clashB i x.start ob.second = true) (h0 : p ≠ 0) :
    Calls Tryz.prog 100 #[ptr y.sb, ptr (y.xb i), .int .i64 p] w fun e w' => e = .returned (.int .i64 141) ∧ Below w.heap.size w w' := by
  have HL := Lib.hid (look_clash h hk hx hp hs hc h0)
  clear h hk hx hp hs hc h0
  go_enter Tryz.func100, Tryz.ntmps100
  go_wp2_with fail
  refine HL.out.mono ?_
  rintro e w1 ⟨rfl, hb1⟩
  go_wp2_with fail
  go_ret
  exact ⟨rfl, balloc hb1 _⟩
def fieldsE (nb fr wk : Bool) : Int := if nb then (if fr then 142 else if wk then 144 else 0) else 130
theorem StIn.alloc (h : StIn w o y S) (x : Obj) : StIn (w.alloc x) o y S := h.below (balloc (bsame w) x)
theorem fields_in (h : StIn w o y S) (hk : S.ok) (hx : S.txs[i]? = some x) {p : Nat} {ob : Ob} (hp : lk S.H.cur p = some ob) (hs : SecOk ob.second) (hc : clashB i x.start ob.second = false) (h0 : p ≠ 0) :
    Calls Tryz.prog 100 #[ptr y.sb, ptr (y.xb i), .int .i64 p] w fun e w' => e = .returned (.int .i64 (fieldsE (noteB x.log.reads p x.log.mr) ob.freed ob.shp.weak)) ∧
      ∃ o', StIn w' o' y { S with txs := S.txs.set i (x.read p) } ∧ Stp (txTag y i) o o' w w' := by
  have HL := Lib.hid (look_in h hk hx hp hs hc h0)
  clear h hk hx hp hs hc h0
  generalize noteB x.log.reads p x.log.mr = nb at *
  obtain ⟨⟨sp, sd, wk, fn⟩, fr, se, sr, ps, ns⟩ := ob
  simp only at HL ⊢
  unfold lookV at HL
  unfold fieldsE
  cases nb <;> cases fr <;> cases wk
  all_goals
    simp only [Bool.and_true, Bool.and_false, Bool.not_true, Bool.not_false, Bool.false_eq_true, if_true, if_false] at HL ⊢
    go_enter Tryz.func100, Tryz.ntmps100
    go_wp2_with fail
    refine HL.out.mono ?_
    rintro e w1 ⟨rfl, o1, hs1, hst⟩
    go_wp2_with fail
    go_ret
    exact ⟨rfl, o1, hs1.alloc _, hst.alloc _⟩
theorem log_hold_full_v (h : StIn w o y S) (hk : S.ok) (hx : S.txs[i]? = some x) {p v : Nat} (hn : ∀ z ∈ x.log.holds, z.1 ≠ p) (hm : x.log.mu ≤ x.log.holds.length) :
    Calls Tryz.prog 116 #[ptr (y.lb i), .agg #[.int .i64 p, .int .i64 v]] w fun e w' => e = .returned (.bool false) ∧ Below w.heap.size w w' := by
  obtain ⟨vr, vk, vh, vu, hl⟩ := (h.txs i x hx).log
  exact log_hold_full hl (hk.lg x (List.mem_of_getElem? hx)) p v hn hm
def Tx.holding (x : Tx) (p v : Nat) : Tx := { x with log := { x.log with holds := x.log.holds ++ [(p, v)] } }
theorem loghold_in (h : StIn w o y S) (hk : S.ok) (hx : S.txs[i]? = some x) {p v : Nat} (hn : ∀ z ∈ x.log.holds, z.1 ≠ p) (hm : x.log.holds.length < x.log.mu) :
    Calls Tryz.prog 116 #[ptr (y.lb i), .agg #[.int .i64 p, .int .i64 v]] w fun e w' => e = .returned (.bool true) ∧
      ∃ o', StIn w' o' y { S with txs := S.txs.set i (x.holding p v) } ∧ Stp (txTag y i) o o' w w' := by
  have ht := h.txs i x hx
  obtain ⟨vr, vk, vh, vu, hl⟩ := ht.log
  refine (log_hold_room hl (hk.lg x (List.mem_of_getElem? hx)) p v hn hm).mono ?_
  rintro e w' ⟨rfl, vh', o', hl', hs⟩
  have hst : Stp (txTag y i) o o' w w' := hs.mono (by rintro _ (rfl | rfl) <;> exact ⟨rfl, by simp <;> omega, by simp <;> omega⟩)
  exact ⟨rfl, o', h.tx ⟨ht.blk.stp hs (by rw [ht.ob]; simp; omega), ⟨_, _, _, _, hl'⟩, (hst.tags _ ht.blk.lt).trans ht.ob⟩ hst, hst⟩
theorem logundo_full (h : StIn w o y S) (hx : S.txs[i]? = some x) (u : Un) (hm : x.log.mu ≤ x.log.undos.length) :
    Calls Tryz.prog 63 #[ptr (y.lb i), unV u] w fun e w' => e = .returned (.bool false) ∧ Below w.heap.size w w' := by
  obtain ⟨vr, vk, vh, vu, hl⟩ := (h.txs i x hx).log
  exact log_undo_full hl u hm
def Tx.undo (x : Tx) (u : Un) : Tx := { x with log := { x.log with undos := x.log.undos ++ [u] } }
theorem logundo_in (h : StIn w o y S) (hk : S.ok) (hx : S.txs[i]? = some x) (u : Un) (hm : x.log.undos.length < x.log.mu) :
    Calls Tryz.prog 63 #[ptr (y.lb i), unV u] w fun e w' => e = .returned (.bool true) ∧
      ∃ o', StIn w' o' y { S with txs := S.txs.set i (x.undo u) } ∧ Stp (txTag y i) o o' w w' := by
  have ht := h.txs i x hx
  obtain ⟨vr, vk, vh, vu, hl⟩ := ht.log
  refine (log_undo_room hl (hk.lg x (List.mem_of_getElem? hx)) u hm).mono ?_
  rintro e w' ⟨rfl, vu', o', hl', hs⟩
  have hst : Stp (txTag y i) o o' w w' := hs.mono (by rintro _ (rfl | rfl) <;> exact ⟨rfl, by simp <;> omega, by simp <;> omega⟩)
  exact ⟨rfl, o', h.tx ⟨ht.blk.stp hs (by rw [ht.ob]; simp; omega), ⟨_, _, _, _, hl'⟩, (hst.tags _ ht.blk.lt).trans ht.ob⟩ hst, hst⟩
/-- It is held already. -/
theorem hold_have (h : StIn w o y S) (hk : S.ok) {p : Nat} {ob : Ob} (hp : lk S.H.cur p = some ob) (hs : SecOk ob.second) (h1 : ob.second % 2 = 1) (b : Value) :
    Calls Tryz.prog 62 #[ptr y.sb, b, .int .i64 p] w fun e w' => e = .returned (.bool true) ∧ Below w.heap.size w w' := by
  obtain ⟨vc, vo, vw, vf, f, hh⟩ := h.hp
  obtain ⟨ha, ho, _, _⟩ := hh.at_ hk.F.ok hp
  have HC := Lib.hid (hsecond_in hh hk.F.ok hp)
  have HO := Lib.hid (fun w => owner_any ob.second ho.sec hs w)
  rw [decide_eq_true h1, if_pos h1, if_pos h1] at HO
  have hb := h.blk
  unfold stCells at hb
  have c := hb.cell
  generalize ob.second = v at *
  clear h hk hh hp ha ho hs h1
  go_enter Tryz.func62, Tryz.ntmps62
  go_wp2_with fail
  refine HC.out.mono ?_
  rintro e w1 ⟨rfl, hb1⟩
  go_wp2_with fail
  refine (HO.out _).mono ?_
  rintro e w2 ⟨rfl, rfl⟩
  go_wp2_with fail
  go_ret
  exact ⟨rfl, hb1⟩
theorem hold_full (h : StIn w o y S) (hk : S.ok) (hx : S.txs[i]? = some x) {p : Nat} {ob : Ob} (hp : lk S.H.cur p = some ob) (h1 : ¬ ob.second % 2 = 1) (hn : ∀ z ∈ x.log.holds, z.1 ≠ p) (hm : x.log.mu ≤ x.log.holds.length) :
    Calls Tryz.prog 62 #[ptr y.sb, ptr (y.xb i), .int .i64 p] w fun e w' => e = .returned (.bool false) ∧ Below w.heap.size w w' := by
  obtain ⟨vc, vo, vw, vf, f, hh⟩ := h.hp
  obtain ⟨ha, ho, _, _⟩ := hh.at_ hk.F.ok hp
  have HC := Lib.hid (hsecond_in hh hk.F.ok hp)
  have HO := Lib.hid (fun w => owner_any ob.second ho.sec (fun e => absurd e h1) w)
  rw [decide_eq_false h1, if_neg h1, if_neg h1] at HO
  have HL := Lib.hid (fun w' (hw : Below w.heap.size w w') => log_hold_full_v (v := ob.second / 2) (h.below hw) hk hx hn hm)
  have hb := h.blk
  unfold stCells at hb
  have c := hb.cell
  have jx := (h.txs i x hx).blk
  generalize ob.second / 2 = v2 at *
  generalize ob.second = v at *
  clear h hk hh hp ha ho h1 hn hm hx
  go_enter Tryz.func62, Tryz.ntmps62
  go_wp2_with fail
  refine HC.out.mono ?_
  rintro e w1 ⟨rfl, hb1⟩
  have cx := (jx.below hb1 jx.lt).cell
  go_wp2_with fail
  refine (HO.out _).mono ?_
  rintro e w2 ⟨rfl, rfl⟩
  go_wp2_with fail
  refine (HL.out _ hb1).mono ?_
  rintro e w2 ⟨rfl, hb2⟩
  go_wp2_with fail
  go_ret
  exact ⟨rfl, btrans hb1 hb2⟩
theorem Stt.ok_tx (hk : S.ok) {x' : Tx} (h1 : x'.log.ok) (h2 : x'.start ≤ S.now) : Stt.ok { S with txs := S.txs.set i x' } := by
  obtain ⟨k1, k2, k3, k4, k5, k6, k7, k8, k9⟩ := hk
  refine ⟨k1, k2, k3, by simpa using k4, by simpa using k5, fun z hz => ?_, fun z hz => ?_, k8, k9⟩
  · rcases List.mem_or_eq_of_mem_set hz with h | rfl
    · exact k6 z h
    · exact h1
  · rcases List.mem_or_eq_of_mem_set hz with h | rfl
    · exact k7 z h
    · exact h2
theorem Lg.ok_hold {L : Lg} (h : L.ok) (p v : Nat) (hm : L.holds.length < L.mu) : Lg.ok { L with holds := L.holds ++ [(p, v)] } :=
  ⟨h.mr, h.mu, h.r, h.k, by simp; omega, h.u⟩
theorem hold_in (h : StIn w o y S) (hk : S.ok) (hx : S.txs[i]? = some x) {p : Nat} {ob : Ob} (hp : lk S.H.cur p = some ob) (h1 : ¬ ob.second % 2 = 1) (hn : ∀ z ∈ x.log.holds, z.1 ≠ p) (hm : x.log.holds.length < x.log.mu) :
    Calls Tryz.prog 62 #[ptr y.sb, ptr (y.xb i), .int .i64 p] w fun e w' => e = .returned (.bool true) ∧
      ∃ o', StIn w' o' y { S with txs := S.txs.set i (x.holding p (ob.second / 2)), H := { S.H with cur := up S.H.cur p (ob.setSecond (2 * i + 1)) } } ∧ Stp (fun t => txTag y i t ∨ (t.1 = y.l.id ∧ t.2 ≤ 6)) o o' w w' := by
  obtain ⟨vc, vo, vw, vf, f, hh⟩ := h.hp
  obtain ⟨ha, ho, _, _⟩ := hh.at_ hk.F.ok hp
  have HC := Lib.hid (hsecond_in hh hk.F.ok hp)
  have HO := Lib.hid (fun w => owner_any ob.second ho.sec (fun e => absurd e h1) w)
  rw [decide_eq_false h1, if_neg h1, if_neg h1] at HO
  have HL := Lib.hid (fun w' (hw : Below w.heap.size w w') => loghold_in (v := ob.second / 2) (h.below hw) hk hx hn hm)
  have hi := (List.getElem?_eq_some_iff.1 hx).1
  have hk2 : Stt.ok { S with txs := S.txs.set i (x.holding p (ob.second / 2)) } := Stt.ok_tx hk (Lg.ok_hold (hk.lg x (List.mem_of_getElem? hx)) _ _ hm) (hk.st x (List.mem_of_getElem? hx))
  have HW := Lib.hid (fun w' o' (hw : StIn w' o' y { S with txs := S.txs.set i (x.holding p (ob.second / 2)) }) => own_in hw hk2 (i := i) (x := x.holding p (ob.second / 2)) (by simp [hi]) hp)
  have hb := h.blk
  unfold stCells at hb
  have c := hb.cell
  have jx := (h.txs i x hx).blk
  generalize ob.second / 2 = v2 at *
  generalize ob.second = v at *
  clear h hk hk2 hh hp ha ho h1 hn hm hx
  go_enter Tryz.func62, Tryz.ntmps62
  go_wp2_with fail
  refine HC.out.mono ?_
  rintro e w1 ⟨rfl, hb1⟩
  have cx := (jx.below hb1 jx.lt).cell
  go_wp2_with fail
  refine (HO.out _).mono ?_
  rintro e w2 ⟨rfl, rfl⟩
  go_wp2_with fail
  refine (HL.out _ hb1).mono ?_
  rintro e w2 ⟨rfl, o2, hS2, hs2⟩
  go_wp2_with fail
  refine (HW.out _ _ hS2).mono ?_
  rintro e w3 ⟨rfl, hS3, hs3⟩
  go_wp2_with fail
  go_ret
  exact ⟨rfl, o2, hS3, ((Stp.of_below hb1).trans (hs2.mono fun _ e => Or.inl e)).trans (hs3.mono fun _ e => Or.inr e)⟩
end
end Go.Proofs.YtemohiainfllcaaGreat
