/- Walks: a new cycle. -/
import Derived.Test.YtemohiainfllcaaGreatRd
import Derived.Test.YtemohiainfllcaaGreatRg
import Derived.Test.YtemohiainfllcaaGreatRh
namespace Go.Proofs.YtemohiainfllcaaGreat
open Go.RowKit Hp
theorem cycle_new (b : Nat) (w : World) :
    Calls Tryz.prog 70 #[.pointer (some ⟨b, 0, none⟩)] w fun e w' => e = .returned (.pointer (some ⟨w.heap.size, 0, none⟩)) ∧ Below w.heap.size w w' := by
  go_enter Tryz.func70, Tryz.ntmps70
  go_wp2_with fail
  go_ret
  exact ⟨rfl, balloc (bsame w) _⟩
end Go.Proofs.YtemohiainfllcaaGreat

/- Walks: a store tells an object's serial. -/
namespace Go.Proofs.YtemohiainfllcaaGreat
open Go.RowKit Hp
theorem sserial_in {w : World} {o : Own} {y : SLay} {S : Stt} (h : StIn w o y S) (hk : S.ok) {p : Nat} {ob : Ob} (hp : lk S.H.cur p = some ob) :
    Calls Tryz.prog 175 #[ptr y.sb, .int .i64 p] w fun e w' => e = .returned (.tuple #[.int .i64 ob.serial, .int .i64 0]) ∧ Below w.heap.size w w' := by
  obtain ⟨vc, vo, vw, vf, f, hh⟩ := h.hp
  have HS := Lib.hid (hserial_in hh hk.F.ok hp)
  have hb := h.blk
  unfold stCells at hb
  have c := hb.cell
  clear h hk hh hp
  go_enter Tryz.func175, Tryz.ntmps175
  go_wp2_with fail
  refine HS.out.mono ?_
  rintro e w1 ⟨rfl, hb1⟩
  go_wp2_with fail
  go_ret2
  exact ⟨rfl, hb1⟩
end Go.Proofs.YtemohiainfllcaaGreat

/- Walks: the public Free. -/
namespace Go.Proofs.YtemohiainfllcaaGreat
open Go.RowKit Hp
attribute [local go_sem ↓] Go.wp_at_zero Go.wp_at_succ
section
variable {w w' : World} {o o' : Own} {y : SLay} {S : Stt} {x : Tx} {i : Nat}
theorem eg_free1 (args : Array Value) (w : World) : (callFunc 60 args).run Tryz.prog w = .ok (.enter 60 args) w := enters_of Tryz.func60 (by kernel_rfl) rfl args w
/-- A freed object is told as freed. -/
theorem free1_freed (h : StIn w o y S) (hk : S.ok) (hx : S.txs[i]? = some x) {p : Nat} {ob : Ob} (hp : lk S.H.cur p = some ob) (hs : SecOk ob.second) (hc : clashB i x.start ob.second = false) (hp0 : p ≠ 0)
    (hnb : noteB x.log.reads p x.log.mr = true) (hf : ob.freed = true) {b1 b2 : Nat} (j1 : Blk w b1 #[ptr y.sb] 23) (j2 : Blk w b2 #[.int .i64 p] 3) :
    Calls Tryz.prog 60 #[ptr (y.xb i), ptr b1, ptr b2] w fun e w' => e = .returned (.tuple #[.int .i64 0, .int .i64 142]) ∧ ∃ o', StIn w' o' y { S with txs := S.txs.set i (x.read p) } ∧ Stp (txTag y i) o o' w w' := by
  have HL := Lib.hid (look_in h hk hx hp hs hc hp0)
  rw [hnb, hf] at HL
  unfold lookV at HL
  simp only [Bool.and_false, Bool.not_true, Bool.false_eq_true, if_true, if_false] at HL
  have c1 := j1.cell
  have c2 := j2.cell
  clear h hk hx hp hs hc hp0 hnb hf
  go_enter Tryz.func60, Tryz.ntmps60
  go_wp2_with fail
  refine HL.out.mono ?_
  rintro e w1 ⟨rfl, o1, hS1, hs1⟩
  go_wp2_with fail
  go_ret2
  exact ⟨rfl, o1, hS1.alloc _, hs1.alloc _⟩
theorem opTag_tx {y : SLay} {i : Nat} {t : Tag} (h : txTag y i t) : opTag y i t := .inl h
set_option maxRecDepth 100000 in
set_option maxHeartbeats 2000000 in
/-- A free object is held, and freed. -/
theorem free1_new (h : StIn w o y S) (hk : S.ok) (hx : S.txs[i]? = some x) {p : Nat} {ob : Ob} (hp : lk S.H.cur p = some ob) (hs : SecOk ob.second) (hc : clashB i x.start ob.second = false) (hp0 : p ≠ 0)
    (hnb : noteB x.log.reads p x.log.mr = true) (hf : ob.freed = false) {b1 b2 : Nat} (j1 : Blk w b1 #[ptr y.sb] 23) (j2 : Blk w b2 #[.int .i64 p] 3) (t1 : o b1 = (y.l.id + 1, 0)) (t2 : o b2 = (y.l.id + 1, 0))
    (S2 S3 S4 : Stt) (x2 : Tx) (hx2 : S2.txs[i]? = some x2) (hold : ∀ w1 o1, StIn w1 o1 y { S with txs := S.txs.set i (x.read p) } → Calls Tryz.prog 62 #[ptr y.sb, ptr (y.xb i), .int .i64 p] w1 fun e w' => e = .returned (.bool true) ∧ ∃ o', StIn w' o' y S2 ∧ Stp (opTag y i) o1 o' w1 w')
    (undo : ∀ w1 o1, StIn w1 o1 y S2 → Calls Tryz.prog 63 #[ptr (y.lb i), .agg #[.int .i64 3, .int .i64 p, .int .i64 0, .int .i64 0]] w1 fun e w' => e = .returned (.bool true) ∧ ∃ o', StIn w' o' y S3 ∧ Stp (txTag y i) o1 o' w1 w')
    (free : ∀ w1 o1, StIn w1 o1 y S3 → Calls Tryz.prog 64 #[ptr y.l.h, .int .i64 p, .bool true] w1 fun e w' => e = .returned (.int .i64 0) ∧ ∃ o', StIn w' o' y S4 ∧ Stp (opTag y i) o1 o' w1 w') :
    Calls Tryz.prog 60 #[ptr (y.xb i), ptr b1, ptr b2] w fun e w' => e = .returned (.tuple #[.int .i64 0, .int .i64 0]) ∧ ∃ o', StIn w' o' y S4 ∧ Stp (opTag y i) o o' w w' := by
  have HL := Lib.hid (look_in h hk hx hp hs hc hp0)
  rw [hnb, hf] at HL
  unfold lookV at HL
  simp only [Bool.and_true, Bool.not_false, Bool.false_eq_true, if_true, if_false] at HL
  have HH := Lib.hid hold
  have HU := Lib.hid undo
  have HF := Lib.hid free
  have HB := Lib.hid (txTag_box y i)
  have HB2 := Lib.hid (opTag_box y i)
  have c1 := j1.cell
  have c2 := j2.cell
  obtain ⟨shp, fr, se, sr, ps, ns⟩ := ob
  obtain ⟨sp, sd, wk, fn⟩ := shp
  simp only at HL
  clear h hk hx hp hs hc hp0 hnb hf hold undo free
  go_enter Tryz.func60, Tryz.ntmps60
  go_wp2_with fail
  refine HL.out.mono ?_
  rintro e w1 ⟨rfl, o1, hS1, hs1⟩
  have k1 := j1.stp hs1 (by rw [t1]; exact HB.out)
  have k2 := j2.stp hs1 (by rw [t2]; exact HB.out)
  clear c1 c2
  go_upto_region 4 with fail
  obtain ⟨W, hW⟩ : ∃ W : World, W = w1.alloc (.cells #[.int .i64 sp, .int .i64 sd, .bool wk, .bool fn] 80) := ⟨_, rfl⟩
  rw [← hW]
  have hbW : Below w1.heap.size w1 W := by rw [hW]; exact balloc (bsame w1) _
  have k1 := k1.below hbW k1.lt
  have k2 := k2.below hbW k2.lt
  have hSW := Lib.hid (hS1.below (btrans hbW (bdrew (bsame W))))
  have u1 : o1 b1 = (y.l.id + 1, 0) := (hs1.tags _ j1.lt).trans t1
  have u2 : o1 b2 = (y.l.id + 1, 0) := (hs1.tags _ j2.lt).trans t2
  clear hW
  have c1 := k1.cell
  have c2 := k2.cell
  have HX2 := Lib.hid (fun w' o' (hS : StIn w' o' y S2) => (hS.txs i x2 hx2).blk)
  go_region_with (first
    | (go_at_call 62; refine (HH.out _ o1 hSW.out).mono ?_; rintro e w2 ⟨rfl, o2, hS2, hs2⟩; have m1 := (drewB k1).stp hs2 (by rw [u1]; exact HB2.out); have m2 := (drewB k2).stp hs2 (by rw [u2]; exact HB2.out); have d1 := m1.cell; have d2 := m2.cell; have dx := (HX2.out _ _ hS2).cell)
    | (go_at_call 63; refine (HU.out _ o2 hS2).mono ?_; rintro e w3 ⟨rfl, o3, hS3, hs3⟩)
    | fail)
  all_goals
    have n1 := m1.stp hs3 (by rw [(hs2.tags _ (drewB k1).lt).trans u1]; exact HB.out)
    have n2 := m2.stp hs3 (by rw [(hs2.tags _ (drewB k2).lt).trans u2]; exact HB.out)
    have jb3 := hS3.blk
    unfold stCells at jb3
    clear d1 d2 dx c1 c2
    have d1 := n1.cell
    have d2 := n2.cell
    have d3 := jb3.cell
    go_upto_region 6 with fail
    have HF2 := Lib.hid (HF.out w3.drew o3 (hS3.below (bdrew (bsame w3))))
    go_region_with (first | (go_at_call 64; refine HF2.out.mono ?_; rintro e w4 ⟨rfl, o4, hS4, hs4⟩) | fail)
    all_goals
      go_wp2_with fail
      go_ret2
      exact ⟨rfl, o4, hS4, ((hs1.mono fun _ => opTag_tx).trans (Stp.of_below (btrans hbW (bdrew (bsame W))))).trans (hs2.trans ((hs3.mono fun _ => opTag_tx).trans ((Stp.of_below (bdrew (bsame w3))).trans hs4)))⟩
end
end Go.Proofs.YtemohiainfllcaaGreat

/- Walks: a field changes. -/
namespace Go.Proofs.YtemohiainfllcaaGreat
open Go.RowKit Hp
attribute [local go_sem ↓] Go.wp_at_zero Go.wp_at_succ
section
variable {w w' : World} {o o' : Own} {y : SLay} {S : Stt} {x : Tx} {i : Nat}
set_option maxRecDepth 100000 in
set_option maxHeartbeats 2000000 in
theorem change_num (kd p j : Nat) (v old : Int) (S1 S2 S3 S4 : Stt) (x2 : Tx) (hx2 : S2.txs[i]? = some x2) (h : StIn w o y S)
    (fields : ∀ w1 o1, StIn w1 o1 y S → Calls Tryz.prog 100 #[ptr y.sb, ptr (y.xb i), .int .i64 p] w1 fun e w' => e = .returned (.int .i64 0) ∧ ∃ o', StIn w' o' y S1 ∧ Stp (txTag y i) o1 o' w1 w')
    (get : ∀ w1 o1, StIn w1 o1 y S1 → Calls Tryz.prog 48 #[ptr y.l.h, .int .i64 p, .int .i64 j] w1 fun e w' => e = .returned (.tuple #[.int .i64 old, .int .i64 0]) ∧ Below w1.heap.size w1 w')
    (hold : ∀ w1 o1, StIn w1 o1 y S1 → Calls Tryz.prog 62 #[ptr y.sb, ptr (y.xb i), .int .i64 p] w1 fun e w' => e = .returned (.bool true) ∧ ∃ o', StIn w' o' y S2 ∧ Stp (opTag y i) o1 o' w1 w')
    (undo : ∀ w1 o1, StIn w1 o1 y S2 → Calls Tryz.prog 63 #[ptr (y.lb i), .agg #[.int .i64 kd, .int .i64 p, .int .i64 j, .int .i64 old]] w1 fun e w' => e = .returned (.bool true) ∧ ∃ o', StIn w' o' y S3 ∧ Stp (txTag y i) o1 o' w1 w')
    (set : ∀ w1 o1, StIn w1 o1 y S3 → Calls Tryz.prog 49 #[ptr y.l.h, .int .i64 p, .int .i64 j, .int .i64 v] w1 fun e w' => e = .returned (.int .i64 0) ∧ ∃ o', StIn w' o' y S4 ∧ Stp (opTag y i) o1 o' w1 w') :
    Calls Tryz.prog 47 #[ptr y.sb, ptr (y.xb i), .agg #[.int .i64 kd, .int .i64 p, .int .i64 j, .int .i64 0], .func (.func 48) #[ptr y.l.h] #[], .func (.func 49) #[ptr y.l.h] #[], .int .i64 v] w
      fun e w' => e = .returned (.int .i64 0) ∧ ∃ o', StIn w' o' y S4 ∧ Stp (opTag y i) o o' w w' := by
  obtain ⟨o1, ho1⟩ : ∃ o1, o1 = ext o w.heap.size (y.l.id + 1, 0) := ⟨_, rfl⟩
  have hr := h.retag (o' := o1) fun b hb => by rw [ho1]; exact ext_lt hb
  have hS0 : Stp (opTag y i) o o1 w w := by rw [ho1]; exact (Stp.refl _ o w).ext _ _ (Nat.le_refl _)
  have hbx : o1 w.heap.size = (y.l.id + 1, 0) := by rw [ho1]; exact ext_ge (Nat.le_refl _)
  clear ho1 h
  have HF := Lib.hid (fun w' (hw : Below w.heap.size w w') => fields w' o1 (hr.below hw))
  have HG := Lib.hid get
  have HH := Lib.hid hold
  have HU := Lib.hid undo
  have HS := Lib.hid set
  have HB := Lib.hid (txTag_box y i)
  have HB2 := Lib.hid (opTag_box y i)
  have H0 := Lib.hid hS0
  have jU := Blk.new w #[.int .i64 kd, .int .i64 p, .int .i64 j, .int .i64 0] 96
  clear fields get hold undo set hr hS0
  go_enter Tryz.func47, Tryz.ntmps47
  have cU := jU.cell
  go_wp2_with fail
  refine (HF.out _ (balloc (bsame w) _)).mono ?_
  rintro e w1 ⟨rfl, o2, hS1, hs1⟩
  have jU1 := jU.stp hs1 (by rw [hbx]; exact HB.out)
  have tU1 : o2 w.heap.size = (y.l.id + 1, 0) := (hs1.tags _ jU.lt).trans hbx
  clear cU
  have cU := jU1.cell
  go_wp2_with fail
  refine (HG.out _ o2 hS1).mono ?_
  rintro e w2 ⟨rfl, hb2⟩
  have hS1' := Lib.hid (hS1.below hb2)
  have jU2 := jU1.below hb2 jU1.lt
  clear cU
  have cU := jU2.cell
  have zU := jU2.free
  have sU := jU2.lt
  go_upto_region 8 with fail
  obtain ⟨W, hW⟩ : ∃ W : World, W = w2.setCell ⟨w.heap.size, 3, none⟩ (.int .i64 old) := ⟨_, rfl⟩
  rw [← hW]
  have jW : Blk W w.heap.size #[.int .i64 kd, .int .i64 p, .int .i64 j, .int .i64 old] 96 := by rw [hW]; exact jU2.set 3 _
  have hSW : StIn W o2 y S1 := by rw [hW]; exact hS1'.out.box tU1 _
  have hs2 : Stp (opTag y i) o o2 w W := by
    rw [hW]
    exact H0.out.trans (((Stp.of_below (balloc (bsame w) _)).trans ((hs1.mono fun _ => opTag_tx).trans (Stp.of_below hb2))).setCell_new (Nat.le_refl _) _)
  clear hW cU zU sU
  have cW := jW.cell
  have hSW2 := Lib.hid (hSW.below (bdrew (bsame W)))
  have HX2 := Lib.hid (fun w' o' (hS : StIn w' o' y S2) => (hS.txs i x2 hx2).blk)
  go_region_with (first
    | (go_at_call 62; refine (HH.out _ o2 hSW2.out).mono ?_; rintro e w3 ⟨rfl, o3, hS3, hs3⟩; have m1 := (drewB jW).stp hs3 (by rw [tU1]; exact HB2.out); have d1 := m1.cell; have dx := (HX2.out _ _ hS3).cell)
    | (go_at_call 63; refine (HU.out _ o3 hS3).mono ?_; rintro e w4 ⟨rfl, o4, hS4, hs4⟩)
    | fail)
  all_goals
    have n1 := m1.stp hs4 (by rw [(hs3.tags _ (drewB jW).lt).trans tU1]; exact HB.out)
    clear d1 dx cW
    have d1 := n1.cell
    go_wp2_with fail
    refine (HS.out _ o4 hS4).mono ?_
    rintro e w5 ⟨rfl, o5, hS5, hs5⟩
    go_wp2_with fail
    go_ret
    exact ⟨rfl, o5, hS5, (hs2.trans (Stp.of_below (bdrew (bsame W)))).trans (hs3.trans ((hs4.mono fun _ => opTag_tx).trans hs5))⟩
set_option maxRecDepth 100000 in
set_option maxHeartbeats 2000000 in
theorem change_ptr (kd p j : Nat) (v old : Int) (S1 S2 S3 S4 : Stt) (x2 : Tx) (hx2 : S2.txs[i]? = some x2) (h : StIn w o y S)
    (fields : ∀ w1 o1, StIn w1 o1 y S → Calls Tryz.prog 100 #[ptr y.sb, ptr (y.xb i), .int .i64 p] w1 fun e w' => e = .returned (.int .i64 0) ∧ ∃ o', StIn w' o' y S1 ∧ Stp (txTag y i) o1 o' w1 w')
    (get : ∀ w1 o1, StIn w1 o1 y S1 → Calls Tryz.prog 59 #[ptr y.l.h, .int .i64 p, .int .i64 j] w1 fun e w' => e = .returned (.tuple #[.int .i64 old, .int .i64 0]) ∧ Below w1.heap.size w1 w')
    (hold : ∀ w1 o1, StIn w1 o1 y S1 → Calls Tryz.prog 62 #[ptr y.sb, ptr (y.xb i), .int .i64 p] w1 fun e w' => e = .returned (.bool true) ∧ ∃ o', StIn w' o' y S2 ∧ Stp (opTag y i) o1 o' w1 w')
    (undo : ∀ w1 o1, StIn w1 o1 y S2 → Calls Tryz.prog 63 #[ptr (y.lb i), .agg #[.int .i64 kd, .int .i64 p, .int .i64 j, .int .i64 old]] w1 fun e w' => e = .returned (.bool true) ∧ ∃ o', StIn w' o' y S3 ∧ Stp (txTag y i) o1 o' w1 w')
    (set : ∀ w1 o1, StIn w1 o1 y S3 → Calls Tryz.prog 97 #[ptr y.l.h, .int .i64 p, .int .i64 j, .int .i64 v] w1 fun e w' => e = .returned (.int .i64 0) ∧ ∃ o', StIn w' o' y S4 ∧ Stp (opTag y i) o1 o' w1 w') :
    Calls Tryz.prog 47 #[ptr y.sb, ptr (y.xb i), .agg #[.int .i64 kd, .int .i64 p, .int .i64 j, .int .i64 0], .func (.func 59) #[ptr y.l.h] #[], .func (.func 97) #[ptr y.l.h] #[], .int .i64 v] w
      fun e w' => e = .returned (.int .i64 0) ∧ ∃ o', StIn w' o' y S4 ∧ Stp (opTag y i) o o' w w' := by
  obtain ⟨o1, ho1⟩ : ∃ o1, o1 = ext o w.heap.size (y.l.id + 1, 0) := ⟨_, rfl⟩
  have hr := h.retag (o' := o1) fun b hb => by rw [ho1]; exact ext_lt hb
  have hS0 : Stp (opTag y i) o o1 w w := by rw [ho1]; exact (Stp.refl _ o w).ext _ _ (Nat.le_refl _)
  have hbx : o1 w.heap.size = (y.l.id + 1, 0) := by rw [ho1]; exact ext_ge (Nat.le_refl _)
  clear ho1 h
  have HF := Lib.hid (fun w' (hw : Below w.heap.size w w') => fields w' o1 (hr.below hw))
  have HG := Lib.hid get
  have HH := Lib.hid hold
  have HU := Lib.hid undo
  have HS := Lib.hid set
  have HB := Lib.hid (txTag_box y i)
  have HB2 := Lib.hid (opTag_box y i)
  have H0 := Lib.hid hS0
  have jU := Blk.new w #[.int .i64 kd, .int .i64 p, .int .i64 j, .int .i64 0] 96
  clear fields get hold undo set hr hS0
  go_enter Tryz.func47, Tryz.ntmps47
  have cU := jU.cell
  go_wp2_with fail
  refine (HF.out _ (balloc (bsame w) _)).mono ?_
  rintro e w1 ⟨rfl, o2, hS1, hs1⟩
  have jU1 := jU.stp hs1 (by rw [hbx]; exact HB.out)
  have tU1 : o2 w.heap.size = (y.l.id + 1, 0) := (hs1.tags _ jU.lt).trans hbx
  clear cU
  have cU := jU1.cell
  go_wp2_with fail
  refine (HG.out _ o2 hS1).mono ?_
  rintro e w2 ⟨rfl, hb2⟩
  have hS1' := Lib.hid (hS1.below hb2)
  have jU2 := jU1.below hb2 jU1.lt
  clear cU
  have cU := jU2.cell
  have zU := jU2.free
  have sU := jU2.lt
  go_upto_region 8 with fail
  obtain ⟨W, hW⟩ : ∃ W : World, W = w2.setCell ⟨w.heap.size, 3, none⟩ (.int .i64 old) := ⟨_, rfl⟩
  rw [← hW]
  have jW : Blk W w.heap.size #[.int .i64 kd, .int .i64 p, .int .i64 j, .int .i64 old] 96 := by rw [hW]; exact jU2.set 3 _
  have hSW : StIn W o2 y S1 := by rw [hW]; exact hS1'.out.box tU1 _
  have hs2 : Stp (opTag y i) o o2 w W := by
    rw [hW]
    exact H0.out.trans (((Stp.of_below (balloc (bsame w) _)).trans ((hs1.mono fun _ => opTag_tx).trans (Stp.of_below hb2))).setCell_new (Nat.le_refl _) _)
  clear hW cU zU sU
  have cW := jW.cell
  have hSW2 := Lib.hid (hSW.below (bdrew (bsame W)))
  have HX2 := Lib.hid (fun w' o' (hS : StIn w' o' y S2) => (hS.txs i x2 hx2).blk)
  go_region_with (first
    | (go_at_call 62; refine (HH.out _ o2 hSW2.out).mono ?_; rintro e w3 ⟨rfl, o3, hS3, hs3⟩; have m1 := (drewB jW).stp hs3 (by rw [tU1]; exact HB2.out); have d1 := m1.cell; have dx := (HX2.out _ _ hS3).cell)
    | (go_at_call 63; refine (HU.out _ o3 hS3).mono ?_; rintro e w4 ⟨rfl, o4, hS4, hs4⟩)
    | fail)
  all_goals
    have n1 := m1.stp hs4 (by rw [(hs3.tags _ (drewB jW).lt).trans tU1]; exact HB.out)
    clear d1 dx cW
    have d1 := n1.cell
    go_wp2_with fail
    refine (HS.out _ o4 hS4).mono ?_
    rintro e w5 ⟨rfl, o5, hS5, hs5⟩
    go_wp2_with fail
    go_ret
    exact ⟨rfl, o5, hS5, (hs2.trans (Stp.of_below (bdrew (bsame W)))).trans (hs3.trans ((hs4.mono fun _ => opTag_tx).trans hs5))⟩
end
end Go.Proofs.YtemohiainfllcaaGreat

/- Walks: the public Write and Put. -/
namespace Go.Proofs.YtemohiainfllcaaGreat
open Go.RowKit Hp
attribute [local go_sem ↓] Go.wp_at_zero Go.wp_at_succ
section
variable {w w' : World} {o o' : Own} {y : SLay} {S : Stt} {x : Tx} {i : Nat}
theorem eg_write1 (args : Array Value) (w : World) : (callFunc 46 args).run Tryz.prog w = .ok (.enter 46 args) w := enters_of Tryz.func46 (by kernel_rfl) rfl args w
set_option maxRecDepth 100000 in
set_option maxHeartbeats 2000000 in
theorem write1_any (p j : Nat) (v err : Int) (S4 : Stt) (h : StIn w o y S)
    (ch : ∀ w1, Below w.heap.size w w1 → Calls Tryz.prog 47 #[ptr y.sb, ptr (y.xb i), .agg #[.int .i64 2, .int .i64 p, .int .i64 j, .int .i64 0], .func (.func 48) #[ptr y.l.h] #[], .func (.func 49) #[ptr y.l.h] #[], .int .i64 v] w1
      fun e w' => e = .returned (.int .i64 err) ∧ ∃ o', StIn w' o' y S4 ∧ Stp (opTag y i) o o' w1 w')
    {b1 b2 b3 b4 : Nat} (j1 : Blk w b1 #[.int .i64 p] 3) (j2 : Blk w b2 #[.int .i64 j] 3) (j3 : Blk w b3 #[ptr y.sb] 23) (j4 : Blk w b4 #[.int .i64 v] 3) :
    Calls Tryz.prog 46 #[ptr (y.xb i), ptr b1, ptr b2, ptr b3, ptr b4] w fun e w' => e = .returned (.tuple #[.int .i64 0, .int .i64 err]) ∧ ∃ o', StIn w' o' y S4 ∧ Stp (opTag y i) o o' w w' := by
  have hmf : ∀ (fn : Fn) (first cap : Array Value) (w : World), (Instr.makeFunc fn first cap).run Tryz.prog w = .ok (.func fn first cap) w := fun _ _ _ _ => rfl
  have HC := Lib.hid ch
  have jb := h.blk
  unfold stCells at jb
  have c1 := j1.cell
  have c2 := j2.cell
  clear ch h
  go_enter Tryz.func46, Tryz.ntmps46
  go_upto_region 2 with fail
  obtain ⟨W, hW⟩ : ∃ W : World, W = w.alloc (.cells #[.int .i64 2, .int .i64 p, .int .i64 j, .int .i64 0] 96) := ⟨_, rfl⟩
  rw [← hW]
  have hbW : Below w.heap.size w W := by rw [hW]; exact balloc (bsame w) _
  have jU : Blk W w.heap.size #[.int .i64 2, .int .i64 p, .int .i64 j, .int .i64 0] 96 := by rw [hW]; exact Blk.new w _ _
  have k3 := j3.below hbW j3.lt
  have k4 := j4.below hbW j4.lt
  have kb := jb.below hbW jb.lt
  clear hW c1 c2 j1 j2 j3 j4 jb
  have c3 := k3.cell
  have c4 := k4.cell
  have cb := kb.cell
  have cU := jU.cell
  have HC2 := Lib.hid (HC.out W.drew (bdrew hbW))
  go_still_tail 14, (by kernel_rfl)
  change wpList _ _ _ _ _ W.drew
  go_wp2_with fail
  refine HC2.out.mono ?_
  rintro e w2 ⟨rfl, o2, hS2, hs2⟩
  go_wp2_with fail
  go_ret2
  exact ⟨rfl, o2, hS2, (Stp.of_below (bdrew hbW)).trans hs2⟩
end
end Go.Proofs.YtemohiainfllcaaGreat

/- Walks: a new store. -/
namespace Go.Proofs.YtemohiainfllcaaGreat
open Go.RowKit Hp
attribute [local go_sem ↓] Go.wp_at_zero Go.wp_at_succ
def Tx.fresh (r u : Nat) : Tx := ⟨false, 0, Lg.fresh r u⟩
def Stt.fresh (n k r u m : Nat) : Stt := ⟨Hp.fresh n, 0, m, List.replicate k (Tx.fresh r u), -1, 0⟩
theorem Stt.fresh_ok {n k r u m : Nat} (h1 : 16 ≤ n) (h2 : n ≤ 16384) (k1 : 1 ≤ k) (k8 : k ≤ 8) (hr : r ≤ 200) (hu : u ≤ 200) (hm : m ≤ 1099511627776) : (Stt.fresh n k r u m).ok := by
  refine ⟨HpF.fresh h1 h2, Nat.zero_le _, hm, by simpa [Stt.fresh] using k1, by simpa [Stt.fresh] using k8, fun x hx => ?_, fun x hx => ?_, Nat.le_refl _, by simp [Stt.fresh]⟩
  · have := List.eq_of_mem_replicate hx
    subst this
    exact ⟨hr, hu, Nat.zero_le _, Nat.zero_le _, Nat.zero_le _, Nat.zero_le _⟩
  · have := List.eq_of_mem_replicate hx
    subst this
    exact Nat.le_refl _
theorem Stp.strict {T : Tag → Prop} {o o' : Own} {w w' : World} (h : Stp T o o' w w') (ht : ∀ b, b < w.heap.size → ¬ T (o b)) : Stp (fun _ => False) o o' w w' :=
  ⟨h.os, h.tape, h.output, h.size, h.tags, fun b hb _ => h.block b hb (ht b hb)⟩
theorem info_tx : ∃ i, Tryz.prog.info? 81 = some i ∧ i.size = 1 ∧ i.bytes = 8 ∧ i.zero = some (.pointer none) := info_parts (by kernel_rfl)
section
variable {w w' : World} {o o' : Own} {y : SLay} {S : Stt}
/-- A transaction more. -/
theorem StIn.more {n k r u m : Nat} (h : StIn w o y (Stt.fresh n k r u m)) {v' : Value} {lb : Nat}
    (hs : Stp (fun t => t = (y.l.id, 11) ∨ t = (y.l.id, 12)) o o' w w')
    (hb : Blk w' y.sb (stCells { y with vth := v' } (Stt.fresh n k r u m)) 92)
    (hr : Row w' o' (y.l.id, 12) 81 1 v' (k + 1) (((List.range k).map fun i => ptr (y.xb i)) ++ [ptr (lb + 1)]))
    (jx : Blk w' (lb + 1) #[.int .i64 k, .bool false, .int .i64 0, .int .i64 0, ptr lb, .slice none 0 0] 86)
    (jl : Blk w' lb #[.int .i64 r, .int .i64 u, .slice none 0 0, .slice none 0 0, .slice none 0 0, .slice none 0 0] 159)
    (ox : o' (lb + 1) = (y.l.id, 16 + 8 * k)) (ol : o' lb = (y.l.id, 17 + 8 * k)) :
    StIn w' o' { y with vth := v', xb := fun j => if j = k then lb + 1 else y.xb j, lb := fun j => if j = k then lb else y.lb j } (Stt.fresh n (k + 1) r u m) := by
  refine ⟨hb, h.hp.stp hs fun j hj => by simp; omega, h.ck.stp hs (by rw [h.oc]; simp), ?_, fun i x hx => ?_, (hs.tags _ h.ck.lt).trans h.oc, (hs.tags _ h.blk.lt).trans h.os⟩
  · show Row w' o' (y.l.id, 12) _ 1 v' (List.replicate (k + 1) (Tx.fresh r u)).length ((List.range (List.replicate (k + 1) (Tx.fresh r u)).length).map _)
    rw [List.length_replicate, List.range_succ, List.map_append]
    have e1 : ((List.range k).map fun i => ptr (if i = k then lb + 1 else y.xb i)) = (List.range k).map fun i => ptr (y.xb i) := by
      refine List.map_congr_left fun i hi => ?_
      rw [if_neg (by have := List.mem_range.1 hi; omega)]
    simp only [List.map_cons, List.map_nil, if_true]
    rw [e1]; exact hr
  · have hx' : (List.replicate (k + 1) (Tx.fresh r u))[i]? = some x := hx
    have hi : i < k + 1 := by have := (List.getElem?_eq_some_iff.1 hx').1; simpa using this
    have hxe : x = Tx.fresh r u := by rw [List.getElem?_replicate, if_pos hi] at hx'; injection hx' with hx'; exact hx'.symm
    subst hxe
    by_cases e : i = k
    · subst e
      simp only [if_true]
      exact ⟨jx, ⟨_, _, _, _, jl, Row.nil _ _ _ _ _, Row.nil _ _ _ _ _, Row.nil _ _ _ _ _, Row.nil _ _ _ _ _, ol⟩, ox⟩
    · simp only [if_neg e]
      have hk : (List.replicate k (Tx.fresh r u))[i]? = some (Tx.fresh r u) := by rw [List.getElem?_replicate, if_pos (by omega)]
      exact (h.txs i _ hk).stp hs fun j hj => by simp; omega
set_option maxRecDepth 100000 in
set_option maxHeartbeats 4000000 in
theorem new_in (n k r u : Nat) (m : Int) (h1 : 16 ≤ n) (h2 : n ≤ 16384) (k1 : 1 ≤ k) (k8 : k ≤ 8) (hr : r ≤ 200) (hu : u ≤ 200) (o : Own) (id : Nat) (w : World) (hfree : ∀ b, b < w.heap.size → (o b).1 ≠ id) :
    Calls Tryz.prog 28 #[.int .i64 n, .int .i64 k, .int .i64 r, .int .i64 u, .int .i64 m] w fun e w' => ∃ y o', e = .returned (.tuple #[ptr y.sb, .int .i64 0]) ∧ y.l.id = id ∧
      StIn w' o' y (Stt.fresh n k r u (bnd m).toNat) ∧ Stp (fun _ => False) o o' w w' := by
  have HN := Lib.hid (fun w => hnew_any n h1 h2 o id w)
  have HF := Lib.hid hfree
  clear hfree
  have HC := Lib.hid (fun b w => cycle_new b w)
  have HK := Lib.hid (fun w => clk_new m w)
  have HL := Lib.hid (fun w => log_new r u hr hu w)
  have hb0 : 0 ≤ bnd m := by unfold bnd; omega
  have hb1 : bnd m = ((bnd m).toNat : Int) := by omega
  rw [hb1] at HK
  generalize (bnd m).toNat = M at *
  clear hb0 hb1 hr hu h1 h2
  have hu64 := Tryz.underlying90
  have kI1 : (1 : Int) ≤ (k : Int) := by omega
  have kI8 : (k : Int) ≤ 8 := by omega
  go_enter Tryz.func28, Tryz.ntmps28
  go_wp2_with fail
  refine (HN.out _).mono ?_
  rintro e w1 ⟨h, a, wd, o1, rfl, hH, hs1, hle, hid⟩
  go_wp2_with fail
  refine (HC.out _ _).mono ?_
  rintro e w2 ⟨rfl, hb2⟩
  go_wp2_with fail
  refine (HK.out _).mono ?_
  rintro e w3 ⟨rfl, rfl⟩
  obtain ⟨W, hW⟩ : ∃ W : World, W = (w2.alloc (.cells #[.int .i64 0, .int .i64 M] 144)).alloc (.cells #[ptr h, ptr w1.heap.size, ptr w2.heap.size, .slice none 0 0, .slice none 0 0, .int .i64 0, .int .i64 (-1), .int .i64 0, .slice none 0 0, .slice none 0 0] 92) := ⟨_, rfl⟩
  have hb3 : Below w1.heap.size w1 W := by rw [hW]; exact balloc (balloc hb2 _) _
  have jC : Blk W w2.heap.size #[.int .i64 0, .int .i64 M] 144 := by rw [hW]; exact (Blk.new w2 _ _).alloc _
  have jB : Blk W (w2.heap.size + 1) #[ptr h, ptr w1.heap.size, ptr w2.heap.size, .slice none 0 0, .slice none 0 0, .int .i64 0, .int .i64 (-1), .int .i64 0, .slice none 0 0, .slice none 0 0] 92 := by rw [hW]; exact Blk.new_at _ _ _ _ _ (by simp) rfl
  have hz12 : w1.heap.size ≤ w2.heap.size := hb2.size
  obtain ⟨o2, ho2⟩ : ∃ o2 : Own, o2 = fun b => if b = w2.heap.size then (id, 10) else if b = w2.heap.size + 1 then (id, 11) else o1 b := ⟨_, rfl⟩
  have hext : ∀ b, b < w1.heap.size → o2 b = o1 b := fun b hb => by rw [ho2]; show (if _ then _ else _) = _; rw [if_neg (by omega), if_neg (by omega)]
  have oC : o2 w2.heap.size = (id, 10) := by rw [ho2]; exact if_pos rfl
  have oB : o2 (w2.heap.size + 1) = (id, 11) := by rw [ho2]; show (if _ then _ else _) = _; rw [if_neg (by omega), if_pos rfl]
  have hs2 : Stp (fun _ => False) o1 o2 w1 W := ⟨hb3.os, hb3.tape, hb3.output, hb3.size, hext, fun b hb _ => hb3.block b hb⟩
  have hS0 : StIn W o2 ⟨w2.heap.size + 1, ⟨id, h, a, wd⟩, w1.heap.size, w2.heap.size, .slice none 0 0, fun _ => 0, fun _ => 0⟩ (Stt.fresh n 0 r u M) :=
    ⟨jB, ⟨_, _, _, _, _, hH.stp hs2 fun _ _ h => h⟩, jC, Row.nil _ _ _ _ _, fun i x hx => (by cases hx), oC, oB⟩
  have hs3 : Stp (fun t => t.1 = id) o o2 w W := (hs1.trans hs2).mono (fun _ h => h.elim)
  have HS0 := Lib.hid hS0
  have HS3 := Lib.hid hs3
  clear hH hs1 hle hid hb2 hb3 jC hext oC oB hs2 hS0 hs3 ho2
  go_wp2_with fail
  rw [← hW]
  obtain ⟨sb, hsb⟩ : ∃ sb, sb = w2.heap.size + 1 := ⟨_, rfl⟩
  rw [← hsb] at HS0 jB ⊢
  obtain ⟨cy, hcy⟩ : ∃ cy, cy = w1.heap.size := ⟨_, rfl⟩
  obtain ⟨ck, hck⟩ : ∃ ck, ck = w2.heap.size := ⟨_, rfl⟩
  rw [← hcy, ← hck] at HS0 jB
  clear hW hsb hz12 hcy hck jB
  go_loopw [37] (fun ix wr => ∃ (q : Nat) (v : Value) (xb lb : Nat → Nat) (oo : Own), ix = .int .i64 q ∧ q ≤ k ∧ StIn wr oo ⟨sb, ⟨id, h, a, wd⟩, cy, ck, v, xb, lb⟩ (Stt.fresh n q r u M) ∧ Stp (fun t => t.1 = id) o oo w wr) (fun ix _ => k - (intOf ix).toNat)
  case atStart => exact ⟨0, _, _, _, _, rfl, by omega, HS0.out, HS3.out⟩
  case round =>
    obtain ⟨q, v, xb, lb, oo, rfl, hqk, hS, hs⟩ := hrel
    clear HS0 HS3
    by_cases hlt : q < k
    · have qI : (q : Int) < (k : Int) := by omega
      have hB := hS.blk
      unfold stCells at hB
      have hH := Lib.hid hS
      have hsH := Lib.hid hs
      obtain ⟨wo, rfl⟩ : ∃ wo : World, wo = wr := ⟨_, rfl⟩
      have thr := hS.thr
      have hqz : (Stt.fresh n q r u M).txs.length = q := List.length_replicate
      rw [hqz] at thr
      simp only at thr
      clear hqz hS hs hqk
      obtain ⟨pa, cp, rfl⟩ := thr.slc
      have c := hB.cell
      have sB := hB.lt
      obtain ⟨z, hz⟩ : ∃ z, z = wo.heap.size := ⟨_, rfl⟩
      have HL2 := Lib.hid (show Calls Tryz.prog 72 #[.int .i64 r, .int .i64 u] wo.drew fun e w' => e = .returned (ptr z) ∧ Blk w' z #[.int .i64 r, .int .i64 u, .slice none 0 0, .slice none 0 0, .slice none 0 0, .slice none 0 0] 159 ∧ Below wo.heap.size wo w' ∧ w'.heap.size = z + 1 from by
        rw [hz]
        exact (HL.out wo.drew).mono fun e w' ⟨h1, h2, h3, h4⟩ => ⟨h1, h2, btrans (bdrew (bsame wo)) h3, h4⟩)
      obtain ⟨op, hop⟩ : ∃ op : Own, op = fun b => if b = z then (id, 17 + 8 * q) else if b = z + 1 then (id, 16 + 8 * q) else if b < z then oo b else (id + 1, 0) := ⟨_, rfl⟩
      have opl : ∀ b, b < wo.heap.size → op b = oo b := fun b hb => by rw [hop]; show (if _ then _ else _) = _; rw [if_neg (by omega), if_neg (by omega), if_pos (by omega)]
      have opz : op z = (id, 17 + 8 * q) := by rw [hop]; exact if_pos rfl
      have opz1 : op (z + 1) = (id, 16 + 8 * q) := by rw [hop]; show (if _ then _ else _) = _; rw [if_neg (by omega), if_pos rfl]
      have thr2 := thr.retag opl
      obtain ⟨iT, hi, hsI, hyI, hzI⟩ := info_tx
      have hml : q + 1 ≤ maxLen := by simp only [maxLen]; omega
      have hmb : (q + 1) * 8 ≤ 140737488355328 := by omega
      have sbz : sb < z := by rw [hz]; exact sB
      have HZ := Lib.hid hz
      have hone : ∀ u ∈ [ptr (z + 1)], u.oneCell' = true := by intro u hu; simp at hu; subst hu; rfl
      have hfin := Lib.hid (fun (w3 w4 : World) (o4 : Own) (v' : Value) (jl : Blk w3 z #[.int .i64 r, .int .i64 u, .slice none 0 0, .slice none 0 0, .slice none 0 0, .slice none 0 0] 159) (hbl : Below wo.heap.size wo w3) (hz3 : w3.heap.size = z + 1)
          (hown : Row w4 o4 (id, 12) 81 1 v' (q + 1) (((List.range q).map fun i => ptr (xb i)) ++ [ptr (z + 1)]))
          (hst : Stp (fun t => t = (id, 12)) op o4 ((w3.alloc (.cells #[.int .i64 q, .bool false, .int .i64 0, .int .i64 0, ptr z, .slice none 0 0] 86)).alloc (.cells #[ptr (z + 1)] 81)) w4) =>
        show ∃ (xb lb : Nat → Nat) (oo : Own), StIn (w4.setCell ⟨sb, 3, none⟩ v') oo ⟨sb, ⟨id, h, a, wd⟩, cy, ck, v', xb, lb⟩ (Stt.fresh n (q + 1) r u M) ∧ Stp (fun t => t.1 = id) o oo w (w4.setCell ⟨sb, 3, none⟩ v') from by
          have hz := HZ.out
          have e0 : op sb = (id, 11) := (opl _ (by omega)).trans hH.out.os
          have k1 : Below wo.heap.size wo ((w3.alloc (.cells #[.int .i64 q, .bool false, .int .i64 0, .int .i64 0, ptr z, .slice none 0 0] 86)).alloc (.cells #[ptr (z + 1)] 81)) := balloc (balloc hbl _) _
          have k2 : Stp (fun _ => False) oo op wo ((w3.alloc (.cells #[.int .i64 q, .bool false, .int .i64 0, .int .i64 0, ptr z, .slice none 0 0] 86)).alloc (.cells #[ptr (z + 1)] 81)) := ⟨k1.os, k1.tape, k1.output, k1.size, opl, fun b hb _ => k1.block b hb⟩
          have jX : Blk ((w3.alloc (.cells #[.int .i64 q, .bool false, .int .i64 0, .int .i64 0, ptr z, .slice none 0 0] 86)).alloc (.cells #[ptr (z + 1)] 81)) (z + 1) #[.int .i64 q, .bool false, .int .i64 0, .int .i64 0, ptr z, .slice none 0 0] 86 := (Blk.new_at _ _ _ _ _ hz3.symm rfl).alloc _
          have jL := (jl.alloc (.cells #[.int .i64 q, .bool false, .int .i64 0, .int .i64 0, ptr z, .slice none 0 0] 86)).alloc (.cells #[ptr (z + 1)] 81)
          have jS := (hH.out.blk.below k1 (by omega)).stp hst (by rw [e0]; simp)
          have e4 : o4 sb = (id, 11) := (hst.tags _ (hH.out.blk.below k1 (by omega)).lt).trans e0
          have k3 : Stp (fun t => t = (id, 11)) o4 o4 w4 (w4.setCell ⟨sb, 3, none⟩ v') := (Stp.refl _ o4 w4).setCell (by show o4 sb = _; exact e4) _
          have k4 : Stp (fun t => t = (id, 11) ∨ t = (id, 12)) oo o4 wo (w4.setCell ⟨sb, 3, none⟩ v') := (k2.mono fun _ h => h.elim).trans ((hst.mono fun _ h => Or.inr h).trans (k3.mono fun _ h => Or.inl h))
          refine ⟨_, _, o4, hH.out.more k4 ?_ (hown.stp k3 (by simp)) ((jX.stp hst (by rw [opz1]; simp; omega)).set_other (by show z + 1 ≠ sb; omega) _) ((jL.stp hst (by rw [opz]; simp; omega)).set_other (by show z ≠ sb; omega) _) ?_ ?_, hsH.out.trans (k4.mono (by rintro _ (rfl | rfl) <;> rfl))⟩
          · have := jS.set 3 v'
            simpa [stCells] using this
          · exact (hst.tags _ jX.lt).trans opz1
          · exact (hst.tags _ jL.lt).trans opz)
      clear hz opz opz1 hop thr
      go_upto_region 10 with fail
      go_region_law (first
        | (refine step_append_row _ (by rfl) _ _ _ (by rfl) 81 iT _ 1 8 hu64 hi hzI hsI hyI (by rfl) (by decide) op (id, 12) _ _ _ (by rfl) rn ⟨z + 1 + 1, 0, none⟩ 1 1 [ptr (z + 1)] (by rfl) (by rfl) (news_one jn) hone hml hmb ?_; intro v' w4 hown hst; obtain ⟨pa', cp', rfl⟩ := hown.slc; have jX := (jB3.alloc _).alloc _ |>.stp hst (by rw [opl _ sB, hH.out.os]; simp); have cX := jX.cell; have zX := jX.free; have sX := jX.lt)
        | (go_simp; go_wp2_with ((go_at_call 72; refine HL2.out.mono ?_; rintro e w3 ⟨rfl, jl, hbl, hz3⟩; have jB3 := hB.below hbl sB; have cB3 := jB3.cell; have sB3 := jB3.lt; have cA3 := (jB3.alloc (.cells #[.int .i64 q, .bool false, .int .i64 0, .int .i64 0, ptr z, .slice none 0 0] 86)).cell; have cD3 := ((jB3.alloc (.cells #[.int .i64 q, .bool false, .int .i64 0, .int .i64 0, ptr z, .slice none 0 0] 86)).alloc (.cells #[ptr (z + 1)] 81)).cell; have rn := ((thr2.below (w' := w3) hbl).below (balloc (bsame w3) (.cells #[.int .i64 q, .bool false, .int .i64 0, .int .i64 0, ptr z, .slice none 0 0] 86))).below (balloc (bsame _) (.cells #[ptr (z + 1)] 81)); have jn := Blk.new_at (w3.alloc (.cells #[.int .i64 q, .bool false, .int .i64 0, .int .i64 0, ptr z, .slice none 0 0] 86)) #[ptr (z + 1)] #[ptr (z + 1)] 81 (z + 1 + 1) (by rw [World.size_alloc, hz3]) rfl))))
      all_goals
        obtain ⟨xb', lb', oo', hS', hs'⟩ := hfin.out _ _ _ _ jl hbl hz3 hown hst
        go_wp2_with fail
        go_roundw
        case rel => exact ⟨q + 1, _, xb', lb', oo', by simp, by omega, hS', hs'⟩
        case measure => simp [intOf]; omega
    · obtain rfl : q = k := by omega
      clear hlt
      go_wp2_with fail
      go_ret2
      exact ⟨_, oo, rfl, rfl, hS, hs.strict HF.out⟩
end
end Go.Proofs.YtemohiainfllcaaGreat
