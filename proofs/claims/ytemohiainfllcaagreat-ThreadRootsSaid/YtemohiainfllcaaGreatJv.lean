/- Walks: a field changes. -/
import Derived.Test.YtemohiainfllcaaGreatJu
namespace Go.Proofs.YtemohiainfllcaaGreat
open Go.RowKit Hp
attribute [local go_sem ↓] Go.wp_at_zero Go.wp_at_succ
section
variable {w w' : World} {o o' : Own} {y : SLay} {S : Stt} {x : Tx} {i : Nat}
set_option maxRecDepth 100000 in
set_option maxHeartbeats 2000000 in
theorem change_num (kd p j : Nat) (v old : Int) (S1 S2 S3 S4 : Stt) (x2 : Tx) (hx2 : S2.txs[i]? = some x2) (h : StIn w o y S)
    (fields : ∀ w1 o1, StIn w1 o1 y S → Calls Tryz.prog 100 #[ptr y.sb, ptr (y.xb i), .int .i64 p] w1 fun e w' => e = .returned (.int .i64 0) ∧ ∃ o', StIn w' o' y S1 ∧ Stp (txTag y i) o1 o' w1 w')
    (get : ∀ w1 o1, StIn w1 o1 y S1 → Calls Tryz.prog 48 #[ptr y.l.h, .int .i64 p, .int .i64 j] w1 fun e w' => e = .returned (.tuple #[.int .i64 old, .int .i64 0]) ∧ Below w1.heap.size w1 w')
    (hold : ∀ w1 o1, StIn w1 o1 y S1 → Calls Tryz.prog 62 #[ptr y.sb, ptr (y.xb i), .int .i64 p] w1 fun e w' => e = .returned (.bool true) ∧ ∃ o', StIn w' o' y S2 ∧ Stp (opTag y i) o1 o' w1 w')
    (undo : ∀ w1 o1, StIn w1 o1 y S2 → Calls Tryz.prog 63 #[ptr (y.lb i), .agg #[.int .i64 kd, .int .i64 p, .int .i64 j, .int .i64 old]] w1 fun e w' => e = .returned (.bool true) ∧ ∃ o', StIn w' o' y S3 ∧ Stp (txTag y i) o1 o' w1 w')
    (set : ∀ w1 o1, StIn w1 o1 y S3 → Calls Tryz.prog 49 #[ptr y.l.h, .int .i64 p, .int .i64 j, .int .i64 v] w1 fun e w' => e = .returned (.int .i64 0) ∧ ∃ o', StIn w' o' y S4 ∧ Stp (opTag y i) o1 o' w1 w') :
    Calls Tryz.prog 47 #[ptr y.sb, ptr (y.xb i), .agg #[.int .i64 kd, .int .i64 p, .int .i64 j, .int .i64 0], .func (.func 48) #[ptr y.l.h] #[], .func (.func 49) #[ptr y.l.h] #[], .int .i64 v] w
      fun e w' => e = .returned (.int .i64 0) ∧ ∃ o', StIn w' o' y S4 ∧ Stp (opTag y i) o o' w w' := by
  obtain ⟨o1, ho1⟩ : ∃ o1, o1 = ext o w.heap.size (y.l.id + 1, 0) := ⟨_, rfl⟩
  have hr := h.retag (o' := o1) fun b hb => by rw [ho1]; exact ext_lt hb
  have hS0 : Stp (opTag y i) o o1 w w := by rw [ho1]; exact (Stp.refl _ o w).ext _ _ (Nat.le_refl _)
  have hbx : o1 w.heap.size = (y.l.id + 1, 0) := by rw [ho1]; exact ext_ge (Nat.le_refl _)
  clear ho1 h
  have HF := Lib.hid (fun w' (hw : Below w.heap.size w w') => fields w' o1 (hr.below hw))
  have HG := Lib.hid get
  have HH := Lib.hid hold
  have HU := Lib.hid undo
  have HS := Lib.hid set
  have HB := Lib.hid (txTag_box y i)
  have HB2 := Lib.hid (opTag_box y i)
  have H0 := Lib.hid hS0
  have jU := Blk.new w #[.int .i64 kd, .int .i64 p, .int .i64 j, .int .i64 0] 96
  clear fields get hold undo set hr hS0
  go_enter Tryz.func47, Tryz.ntmps47
  have cU := jU.cell
  go_wp2_with fail
  refine (HF.out _ (balloc (bsame w) _)).mono ?_
  rintro e w1 ⟨rfl, o2, hS1, hs1⟩
  have jU1 := jU.stp hs1 (by rw [hbx]; exact HB.out)
  have tU1 : o2 w.heap.size = (y.l.id + 1, 0) := (hs1.tags _ jU.lt).trans hbx
  clear cU
  have cU := jU1.cell
  go_wp2_with fail
  refine (HG.out _ o2 hS1).mono ?_
  rintro e w2 ⟨rfl, hb2⟩
  have hS1' := Lib.hid (hS1.below hb2)
  have jU2 := jU1.below hb2 jU1.lt
  clear cU
  have cU := jU2.cell
  have zU := jU2.free
  have sU := jU2.lt
  go_upto_region 8 with fail
  obtain ⟨W, hW⟩ : ∃ W : World, W = w2.setCell ⟨w.heap.size, 3, none⟩ (.int .i64 old) := ⟨_, rfl⟩
  rw [← hW]
  have jW : Blk W w.heap.size #[.int .i64 kd, .int .i64 p, .int .i64 j, .int .i64 old] 96 := by rw [hW]; exact jU2.set 3 _
  have hSW : StIn W o2 y S1 := by rw [hW]; exact hS1'.out.box tU1 _
  have hs2 : Stp (opTag y i) o o2 w W := by
    rw [hW]
    exact H0.out.trans (((Stp.of_below (balloc (bsame w) _)).trans ((hs1.mono fun _ => opTag_tx).trans (Stp.of_below hb2))).setCell_new (Nat.le_refl _) _)
  clear hW cU zU sU
  have cW := jW.cell
  have hSW2 := Lib.hid (hSW.below (bdrew (bsame W)))
  have HX2 := Lib.hid (fun w' o' (hS : StIn w' o' y S2) => (hS.txs i x2 hx2).blk)
  go_region_with (first
    | (go_at_call 62; refine (HH.out _ o2 hSW2.out).mono ?_; rintro e w3 ⟨rfl, o3, hS3, hs3⟩; have m1 := (drewB jW).stp hs3 (by rw [tU1]; exact HB2.out); have d1 := m1.cell; have dx := (HX2.out _ _ hS3).cell)
    | (go_at_call 63; refine (HU.out _ o3 hS3).mono ?_; rintro e w4 ⟨rfl, o4, hS4, hs4⟩)
    | fail)
  all_goals
    have n1 := m1.stp hs4 (by rw [(hs3.tags _ (drewB jW).lt).trans tU1]; exact HB.out)
    clear d1 dx cW
    have d1 := n1.cell
    go_wp2_with fail
    refine (HS.out _ o4 hS4).mono ?_
    rintro e w5 ⟨rfl, o5, hS5, hs5⟩
    go_wp2_with fail
    go_ret
    exact ⟨rfl, o5, hS5, (hs2.trans (Stp.of_below (bdrew (bsame W)))).trans (hs3.trans ((hs4.mono fun _ => opTag_tx).trans hs5))⟩
set_option maxRecDepth 100000 in
set_option maxHeartbeats 2000000 in
theorem change_ptr (kd p j : Nat) (v old : Int) (S1 S2 S3 S4 : Stt) (x2 : Tx) (hx2 : S2.txs[i]? = some x2) (h : StIn w o y S)
    (fields : ∀ w1 o1, StIn w1 o1 y S → Calls Tryz.prog 100 #[ptr y.sb, ptr (y.xb i), .int .i64 p] w1 fun e w' => e = .returned (.int .i64 0) ∧ ∃ o', StIn w' o' y S1 ∧ Stp (txTag y i) o1 o' w1 w')
    (get : ∀ w1 o1, StIn w1 o1 y S1 → Calls Tryz.prog 59 #[ptr y.l.h, .int .i64 p, .int .i64 j] w1 fun e w' => e = .returned (.tuple #[.int .i64 old, .int .i64 0]) ∧ Below w1.heap.size w1 w')
    (hold : ∀ w1 o1, StIn w1 o1 y S1 → Calls Tryz.prog 62 #[ptr y.sb, ptr (y.xb i), .int .i64 p] w1 fun e w' => e = .returned (.bool true) ∧ ∃ o', StIn w' o' y S2 ∧ Stp (opTag y i) o1 o' w1 w')
    (undo : ∀ w1 o1, StIn w1 o1 y S2 → Calls Tryz.prog 63 #[ptr (y.lb i), .agg #[.int .i64 kd, .int .i64 p, .int .i64 j, .int .i64 old]] w1 fun e w' => e = .returned (.bool true) ∧ ∃ o', StIn w' o' y S3 ∧ Stp (txTag y i) o1 o' w1 w')
    (set : ∀ w1 o1, StIn w1 o1 y S3 → Calls Tryz.prog 97 #[ptr y.l.h, .int .i64 p, .int .i64 j, .int .i64 v] w1 fun e w' => e = .returned (.int .i64 0) ∧ ∃ o', StIn w' o' y S4 ∧ Stp (opTag y i) o1 o' w1 w') :
    Calls Tryz.prog 47 #[ptr y.sb, ptr (y.xb i), .agg #[.int .i64 kd, .int .i64 p, .int .i64 j, .int .i64 0], .func (.func 59) #[ptr y.l.h] #[], .func (.func 97) #[ptr y.l.h] #[], .int .i64 v] w
      fun e w' => e = .returned (.int .i64 0) ∧ ∃ o', StIn w' o' y S4 ∧ Stp (opTag y i) o o' w w' := by
  obtain ⟨o1, ho1⟩ : ∃ o1, o1 = ext o w.heap.size (y.l.id + 1, 0) := ⟨_, rfl⟩
  have hr := h.retag (o' := o1) fun b hb => by rw [ho1]; exact ext_lt hb
  have hS0 : Stp (opTag y i) o o1 w w := by rw [ho1]; exact (Stp.refl _ o w).ext _ _ (Nat.le_refl _)
  have hbx : o1 w.heap.size = (y.l.id + 1, 0) := by rw [ho1]; exact ext_ge (Nat.le_refl _)
  clear ho1 h
  have HF := Lib.hid (fun w' (hw : Below w.heap.size w w') => fields w' o1 (hr.below hw))
  have HG := Lib.hid get
  have HH := Lib.hid hold
  have HU := Lib.hid undo
  have HS := Lib.hid set
  have HB := Lib.hid (txTag_box y i)
  have HB2 := Lib.hid (opTag_box y i)
  have H0 := Lib.hid hS0
  have jU := Blk.new w #[.int .i64 kd, .int .i64 p, .int .i64 j, .int .i64 0] 96
  clear fields get hold undo set hr hS0
  go_enter Tryz.func47, Tryz.ntmps47
  have cU := jU.cell
  go_wp2_with fail
  refine (HF.out _ (balloc (bsame w) _)).mono ?_
  rintro e w1 ⟨rfl, o2, hS1, hs1⟩
  have jU1 := jU.stp hs1 (by rw [hbx]; exact HB.out)
  have tU1 : o2 w.heap.size = (y.l.id + 1, 0) := (hs1.tags _ jU.lt).trans hbx
  clear cU
  have cU := jU1.cell
  go_wp2_with fail
  refine (HG.out _ o2 hS1).mono ?_
  rintro e w2 ⟨rfl, hb2⟩
  have hS1' := Lib.hid (hS1.below hb2)
  have jU2 := jU1.below hb2 jU1.lt
  clear cU
  have cU := jU2.cell
  have zU := jU2.free
  have sU := jU2.lt
  go_upto_region 8 with fail
  obtain ⟨W, hW⟩ : ∃ W : World, W = w2.setCell ⟨w.heap.size, 3, none⟩ (.int .i64 old) := ⟨_, rfl⟩
  rw [← hW]
  have jW : Blk W w.heap.size #[.int .i64 kd, .int .i64 p, .int .i64 j, .int .i64 old] 96 := by rw [hW]; exact jU2.set 3 _
  have hSW : StIn W o2 y S1 := by rw [hW]; exact hS1'.out.box tU1 _
  have hs2 : Stp (opTag y i) o o2 w W := by
    rw [hW]
    exact H0.out.trans (((Stp.of_below (balloc (bsame w) _)).trans ((hs1.mono fun _ => opTag_tx).trans (Stp.of_below hb2))).setCell_new (Nat.le_refl _) _)
  clear hW cU zU sU
  have cW := jW.cell
  have hSW2 := Lib.hid (hSW.below (bdrew (bsame W)))
  have HX2 := Lib.hid (fun w' o' (hS : StIn w' o' y S2) => (hS.txs i x2 hx2).blk)
  go_region_with (first
    | (go_at_call 62; refine (HH.out _ o2 hSW2.out).mono ?_; rintro e w3 ⟨rfl, o3, hS3, hs3⟩; have m1 := (drewB jW).stp hs3 (by rw [tU1]; exact HB2.out); have d1 := m1.cell; have dx := (HX2.out _ _ hS3).cell)
    | (go_at_call 63; refine (HU.out _ o3 hS3).mono ?_; rintro e w4 ⟨rfl, o4, hS4, hs4⟩)
    | fail)
  all_goals
    have n1 := m1.stp hs4 (by rw [(hs3.tags _ (drewB jW).lt).trans tU1]; exact HB.out)
    clear d1 dx cW
    have d1 := n1.cell
    go_wp2_with fail
    refine (HS.out _ o4 hS4).mono ?_
    rintro e w5 ⟨rfl, o5, hS5, hs5⟩
    go_wp2_with fail
    go_ret
    exact ⟨rfl, o5, hS5, (hs2.trans (Stp.of_below (bdrew (bsame W)))).trans (hs3.trans ((hs4.mono fun _ => opTag_tx).trans hs5))⟩
end
end Go.Proofs.YtemohiainfllcaaGreat

/- Walks: the public Write and Put. -/
namespace Go.Proofs.YtemohiainfllcaaGreat
open Go.RowKit Hp
attribute [local go_sem ↓] Go.wp_at_zero Go.wp_at_succ
section
variable {w w' : World} {o o' : Own} {y : SLay} {S : Stt} {x : Tx} {i : Nat}
theorem eg_write1 (args : Array Value) (w : World) : (callFunc 46 args).run Tryz.prog w = .ok (.enter 46 args) w := enters_of Tryz.func46 (by kernel_rfl) rfl args w
set_option maxRecDepth 100000 in
set_option maxHeartbeats 2000000 in
theorem write1_any (p j : Nat) (v err : Int) (S4 : Stt) (h : StIn w o y S)
    (ch : ∀ w1, Below w.heap.size w w1 → Calls Tryz.prog 47 #[ptr y.sb, ptr (y.xb i), .agg #[.int .i64 2, .int .i64 p, .int .i64 j, .int .i64 0], .func (.func 48) #[ptr y.l.h] #[], .func (.func 49) #[ptr y.l.h] #[], .int .i64 v] w1
      fun e w' => e = .returned (.int .i64 err) ∧ ∃ o', StIn w' o' y S4 ∧ Stp (opTag y i) o o' w1 w')
    {b1 b2 b3 b4 : Nat} (j1 : Blk w b1 #[.int .i64 p] 3) (j2 : Blk w b2 #[.int .i64 j] 3) (j3 : Blk w b3 #[ptr y.sb] 23) (j4 : Blk w b4 #[.int .i64 v] 3) :
    Calls Tryz.prog 46 #[ptr (y.xb i), ptr b1, ptr b2, ptr b3, ptr b4] w fun e w' => e = .returned (.tuple #[.int .i64 0, .int .i64 err]) ∧ ∃ o', StIn w' o' y S4 ∧ Stp (opTag y i) o o' w w' := by
  have hmf : ∀ (fn : Fn) (first cap : Array Value) (w : World), (Instr.makeFunc fn first cap).run Tryz.prog w = .ok (.func fn first cap) w := fun _ _ _ _ => rfl
  have HC := Lib.hid ch
  have jb := h.blk
  unfold stCells at jb
  have c1 := j1.cell
  have c2 := j2.cell
  clear ch h
  go_enter Tryz.func46, Tryz.ntmps46
  go_upto_region 2 with fail
  obtain ⟨W, hW⟩ : ∃ W : World, W = w.alloc (.cells #[.int .i64 2, .int .i64 p, .int .i64 j, .int .i64 0] 96) := ⟨_, rfl⟩
  rw [← hW]
  have hbW : Below w.heap.size w W := by rw [hW]; exact balloc (bsame w) _
  have jU : Blk W w.heap.size #[.int .i64 2, .int .i64 p, .int .i64 j, .int .i64 0] 96 := by rw [hW]; exact Blk.new w _ _
  have k3 := j3.below hbW j3.lt
  have k4 := j4.below hbW j4.lt
  have kb := jb.below hbW jb.lt
  clear hW c1 c2 j1 j2 j3 j4 jb
  have c3 := k3.cell
  have c4 := k4.cell
  have cb := kb.cell
  have cU := jU.cell
  have HC2 := Lib.hid (HC.out W.drew (bdrew hbW))
  go_still_tail 14, (by kernel_rfl)
  change wpList _ _ _ _ _ W.drew
  go_wp2_with fail
  refine HC2.out.mono ?_
  rintro e w2 ⟨rfl, o2, hS2, hs2⟩
  go_wp2_with fail
  go_ret2
  exact ⟨rfl, o2, hS2, (Stp.of_below (bdrew hbW)).trans hs2⟩
end
end Go.Proofs.YtemohiainfllcaaGreat
