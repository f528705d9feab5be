/- Walks: a new cycle. -/
import Derived.Test.YtemohiainfllcaaGreatJj
import Derived.Test.YtemohiainfllcaaGreatJo
import Derived.Test.YtemohiainfllcaaGreatJt
namespace Go.Proofs.YtemohiainfllcaaGreat
open Go.RowKit Hp
theorem cycle_new (b : Nat) (w : World) :
    Calls Tryz.prog 70 #[.pointer (some ⟨b, 0, none⟩)] w fun e w' => e = .returned (.pointer (some ⟨w.heap.size, 0, none⟩)) ∧ Below w.heap.size w w' := by
  go_enter Tryz.func70, Tryz.ntmps70
  go_wp2_with fail
  go_ret
  exact ⟨rfl, balloc (bsame w) _⟩
end Go.Proofs.YtemohiainfllcaaGreat

/- Walks: a store tells an object's serial. -/
namespace Go.Proofs.YtemohiainfllcaaGreat
open Go.RowKit Hp
theorem sserial_in {w : World} {o : Own} {y : SLay} {S : Stt} (h : StIn w o y S) (hk : S.ok) {p : Nat} {ob : Ob} (hp : lk S.H.cur p = some ob) :
    Calls Tryz.prog 175 #[ptr y.sb, .int .i64 p] w fun e w' => e = .returned (.tuple #[.int .i64 ob.serial, .int .i64 0]) ∧ Below w.heap.size w w' := by
  obtain ⟨vc, vo, vw, vf, f, hh⟩ := h.hp
  have HS := Lib.hid (hserial_in hh hk.F.ok hp)
  have hb := h.blk
  unfold stCells at hb
  have c := hb.cell
  clear h hk hh hp
  go_enter Tryz.func175, Tryz.ntmps175
  go_wp2_with fail
  refine HS.out.mono ?_
  rintro e w1 ⟨rfl, hb1⟩
  go_wp2_with fail
  go_ret2
  exact ⟨rfl, hb1⟩
end Go.Proofs.YtemohiainfllcaaGreat

/- Walks: the public Free. -/
namespace Go.Proofs.YtemohiainfllcaaGreat
open Go.RowKit Hp
attribute [local go_sem ↓] Go.wp_at_zero Go.wp_at_succ
section
variable {w w' : World} {o o' : Own} {y : SLay} {S : Stt} {x : Tx} {i : Nat}
theorem eg_free1 (args : Array Value) (w : World) : (callFunc 60 args).run Tryz.prog w = .ok (.enter 60 args) w := enters_of Tryz.func60 (by kernel_rfl) rfl args w
/-- A freed object is told as freed. -/
theorem free1_freed (h : StIn w o y S) (hk : S.ok) (hx : S.txs[i]? = some x) {p : Nat} {ob : Ob} (hp : lk S.H.cur p = some ob) (hs : SecOk ob.second) (hc : clashB i x.start ob.second = false) (hp0 : p ≠ 0)
    (hnb : noteB x.log.reads p x.log.mr = true) (hf : ob.freed = true) {b1 b2 : Nat} (j1 : Blk w b1 #[ptr y.sb] 23) (j2 : Blk w b2 #[.int .i64 p] 3) :
    Calls Tryz.prog 60 #[ptr (y.xb i), ptr b1, ptr b2] w fun e w' => e = .returned (.tuple #[.int .i64 0, .int .i64 142]) ∧ ∃ o', StIn w' o' y { S with txs := S.txs.set i (x.read p) } ∧ Stp (txTag y i) o o' w w' := by
  have HL := Lib.hid (look_in h hk hx hp hs hc hp0)
  rw [hnb, hf] at HL
  unfold lookV at HL
  simp only [Bool.and_false, Bool.not_true, Bool.false_eq_true, if_true, if_false] at HL
  have c1 := j1.cell
  have c2 := j2.cell
  clear h hk hx hp hs hc hp0 hnb hf
  go_enter Tryz.func60, Tryz.ntmps60
  go_wp2_with fail
  refine HL.out.mono ?_
  rintro e w1 ⟨rfl, o1, hS1, hs1⟩
  go_wp2_with fail
  go_ret2
  exact ⟨rfl, o1, hS1.alloc _, hs1.alloc _⟩
theorem opTag_tx {y : SLay} {i : Nat} {t : Tag} (h : txTag y i t) : opTag y i t := .inl h
set_option maxRecDepth 100000 in
set_option maxHeartbeats 2000000 in
/-- A free object is held, and freed. -/
theorem free1_new (h : StIn w o y S) (hk : S.ok) (hx : S.txs[i]? = some x) {p : Nat} {ob : Ob} (hp : lk S.H.cur p = some ob) (hs : SecOk ob.second) (hc : clashB i x.start ob.second = false) (hp0 : p ≠ 0)
    (hnb : noteB x.log.reads p x.log.mr = true) (hf : ob.freed = false) {b1 b2 : Nat} (j1 : Blk w b1 #[ptr y.sb] 23) (j2 : Blk w b2 #[.int .i64 p] 3) (t1 : o b1 = (y.l.id + 1, 0)) (t2 : o b2 = (y.l.id + 1, 0))
    (S2 S3 S4 : Stt) (x2 : Tx) (hx2 : S2.txs[i]? = some x2) (hold : ∀ w1 o1, StIn w1 o1 y { S with txs := S.txs.set i (x.read p) } → Calls Tryz.prog 62 #[ptr y.sb, ptr (y.xb i), .int .i64 p] w1 fun e w' => e = .returned (.bool true) ∧ ∃ o', StIn w' o' y S2 ∧ Stp (opTag y i) o1 o' w1 w')
    (undo : ∀ w1 o1, StIn w1 o1 y S2 → Calls Tryz.prog 63 #[ptr (y.lb i), .agg #[.int .i64 3, .int .i64 p, .int .i64 0, .int .i64 0]] w1 fun e w' => e = .returned (.bool true) ∧ ∃ o', StIn w' o' y S3 ∧ Stp (txTag y i) o1 o' w1 w')
    (free : ∀ w1 o1, StIn w1 o1 y S3 → Calls Tryz.prog 64 #[ptr y.l.h, .int .i64 p, .bool true] w1 fun e w' => e = .returned (.int .i64 0) ∧ ∃ o', StIn w' o' y S4 ∧ Stp (opTag y i) o1 o' w1 w') :
    Calls Tryz.prog 60 #[ptr (y.xb i), ptr b1, ptr b2] w fun e w' => e = .returned (.tuple #[.int .i64 0, .int .i64 0]) ∧ ∃ o', StIn w' o' y S4 ∧ Stp (opTag y i) o o' w w' := by
  have HL := Lib.hid (look_in h hk hx hp hs hc hp0)
  rw [hnb, hf] at HL
  unfold lookV at HL
  simp only [Bool.and_true, Bool.not_false, Bool.false_eq_true, if_true, if_false] at HL
  have HH := Lib.hid hold
  have HU := Lib.hid undo
  have HF := Lib.hid free
  have HB := Lib.hid (txTag_box y i)
  have HB2 := Lib.hid (opTag_box y i)
  have c1 := j1.cell
  have c2 := j2.cell
  obtain ⟨shp, fr, se, sr, ps, ns⟩ := ob
  obtain ⟨sp, sd, wk, fn⟩ := shp
  simp only at HL
  clear h hk hx hp hs hc hp0 hnb hf hold undo free
  go_enter Tryz.func60, Tryz.ntmps60
  go_wp2_with fail
  refine HL.out.mono ?_
  rintro e w1 ⟨rfl, o1, hS1, hs1⟩
  have k1 := j1.stp hs1 (by rw [t1]; exact HB.out)
  have k2 := j2.stp hs1 (by rw [t2]; exact HB.out)
  clear c1 c2
  go_upto_region 4 with fail
  obtain ⟨W, hW⟩ : ∃ W : World, W = w1.alloc (.cells #[.int .i64 sp, .int .i64 sd, .bool wk, .bool fn] 80) := ⟨_, rfl⟩
  rw [← hW]
  have hbW : Below w1.heap.size w1 W := by rw [hW]; exact balloc (bsame w1) _
  have k1 := k1.below hbW k1.lt
  have k2 := k2.below hbW k2.lt
  have hSW := Lib.hid (hS1.below (btrans hbW (bdrew (bsame W))))
  have u1 : o1 b1 = (y.l.id + 1, 0) := (hs1.tags _ j1.lt).trans t1
  have u2 : o1 b2 = (y.l.id + 1, 0) := (hs1.tags _ j2.lt).trans t2
  clear hW
  have c1 := k1.cell
  have c2 := k2.cell
  have HX2 := Lib.hid (fun w' o' (hS : StIn w' o' y S2) => (hS.txs i x2 hx2).blk)
  go_region_with (first
    | (go_at_call 62; refine (HH.out _ o1 hSW.out).mono ?_; rintro e w2 ⟨rfl, o2, hS2, hs2⟩; have m1 := (drewB k1).stp hs2 (by rw [u1]; exact HB2.out); have m2 := (drewB k2).stp hs2 (by rw [u2]; exact HB2.out); have d1 := m1.cell; have d2 := m2.cell; have dx := (HX2.out _ _ hS2).cell)
    | (go_at_call 63; refine (HU.out _ o2 hS2).mono ?_; rintro e w3 ⟨rfl, o3, hS3, hs3⟩)
    | fail)
  all_goals
    have n1 := m1.stp hs3 (by rw [(hs2.tags _ (drewB k1).lt).trans u1]; exact HB.out)
    have n2 := m2.stp hs3 (by rw [(hs2.tags _ (drewB k2).lt).trans u2]; exact HB.out)
    have jb3 := hS3.blk
    unfold stCells at jb3
    clear d1 d2 dx c1 c2
    have d1 := n1.cell
    have d2 := n2.cell
    have d3 := jb3.cell
    go_upto_region 6 with fail
    have HF2 := Lib.hid (HF.out w3.drew o3 (hS3.below (bdrew (bsame w3))))
    go_region_with (first | (go_at_call 64; refine HF2.out.mono ?_; rintro e w4 ⟨rfl, o4, hS4, hs4⟩) | fail)
    all_goals
      go_wp2_with fail
      go_ret2
      exact ⟨rfl, o4, hS4, ((hs1.mono fun _ => opTag_tx).trans (Stp.of_below (btrans hbW (bdrew (bsame W))))).trans (hs2.trans ((hs3.mono fun _ => opTag_tx).trans ((Stp.of_below (bdrew (bsame w3))).trans hs4)))⟩
end
end Go.Proofs.YtemohiainfllcaaGreat
