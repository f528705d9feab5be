/- Threads: what a deed's end makes of one (printed by tools/gen_th.py). -/
import Derived.Test.YtemohiainfllcaaGreatRp
namespace Go.Proofs.YtemohiainfllcaaGreat
open Go.RowKit Hp
attribute [local go_sem ↓] Go.wp_at_zero Go.wp_at_succ
/-- A thread behind a deed that told v and e. -/
def ThV.ended (h : ThV) (e : Int) : ThV :=
  if e = 141 ∨ e = 140 then h.back else if e = 100 ∨ e = 130 then { h.back with b := h.b + 1 } else { h with n := h.n + 1 }
def actOf (v e : Int) : ActV := ⟨2, e, if e = 0 then v else 0⟩
section
variable (b n a0 a1 a2 a3 a4 a5 s0 s1 s2 s3 s4 s5 : Int) (hl : Bool) (v e : Int) (w : World)
set_option maxRecDepth 100000 in
set_option maxHeartbeats 2000000 in
theorem end_zero (n1 : 0 ≤ n) (n2 : n ≤ 4096) : Calls Tryz.prog 131 #[.agg #[.int .i64 b, .int .i64 n, .int .i64 a0, .int .i64 a1, .int .i64 a2, .int .i64 a3, .int .i64 a4, .int .i64 a5, .int .i64 s0, .int .i64 s1, .int .i64 s2, .int .i64 s3, .int .i64 s4, .int .i64 s5, .bool hl], .int .i64 v, .int .i64 0] w fun e' w' => e' = .returned (.tuple #[ThV.v ⟨b, (n + 1), ⟨a0, a1, a2, a3, a4, a5⟩, ⟨s0, s1, s2, s3, s4, s5⟩, hl⟩, ActV.val ⟨2, 0, v⟩]) ∧ Below w.heap.size w w' := by
  go_enter Tryz.func131, Tryz.ntmps131
  go_upto_region 14 with fail
  obtain ⟨W, hW⟩ : ∃ W : World, W = ((((w.alloc (.cells #[.int .i64 b, .int .i64 (n + 1), .int .i64 a0, .int .i64 a1, .int .i64 a2, .int .i64 a3, .int .i64 a4, .int .i64 a5, .int .i64 s0, .int .i64 s1, .int .i64 s2, .int .i64 s3, .int .i64 s4, .int .i64 s5, .bool hl] 57)).alloc (.cells #[.int .i64 0, .int .i64 0, .int .i64 0, .int .i64 0, .int .i64 0, .int .i64 0, .int .i64 0, .int .i64 0, .int .i64 0, .int .i64 0, .int .i64 0, .int .i64 0, .int .i64 0, .int .i64 0, .bool false] 57)).alloc (.cells #[.int .i64 0, .int .i64 0, .int .i64 0] 60)).alloc (.cells #[.int .i64 2, .int .i64 0, .int .i64 v] 60)) := ⟨_, rfl⟩
  rw [← hW]
  have j3 : Blk W w.heap.size #[.int .i64 b, .int .i64 (n + 1), .int .i64 a0, .int .i64 a1, .int .i64 a2, .int .i64 a3, .int .i64 a4, .int .i64 a5, .int .i64 s0, .int .i64 s1, .int .i64 s2, .int .i64 s3, .int .i64 s4, .int .i64 s5, .bool hl] 57 := by rw [hW]; exact (((Blk.new w _ _).alloc _).alloc _).alloc _
  have j6 : Blk W (w.heap.size + 1) #[.int .i64 0, .int .i64 0, .int .i64 0, .int .i64 0, .int .i64 0, .int .i64 0, .int .i64 0, .int .i64 0, .int .i64 0, .int .i64 0, .int .i64 0, .int .i64 0, .int .i64 0, .int .i64 0, .bool false] 57 := by rw [hW]; exact ((Blk.new_at _ _ _ _ _ (by simp) rfl).alloc _).alloc _
  have j7 : Blk W (w.heap.size + 1 + 1) #[.int .i64 0, .int .i64 0, .int .i64 0] 60 := by rw [hW]; exact (Blk.new_at _ _ _ _ _ (by simp) rfl).alloc _
  have j8 : Blk W (w.heap.size + 1 + 1 + 1) #[.int .i64 2, .int .i64 0, .int .i64 v] 60 := by rw [hW]; exact Blk.new_at _ _ _ _ _ (by simp) rfl
  have hbW : Below w.heap.size w W := by rw [hW]; exact balloc (balloc (balloc (balloc (bsame w) _) _) _) _
  clear hW
  have c3 := j3.cell
  have c6 := j6.cell
  have z6 := j6.free
  have l6 := j6.lt
  have c7 := j7.cell
  have z7 := j7.free
  have l7 := j7.lt
  have c8 := j8.cell
  have hres := Lib.hid (res_blk (t6 := 57) (t7 := 60) j6 j7 (by omega) ⟨b, (n + 1), ⟨a0, a1, a2, a3, a4, a5⟩, ⟨s0, s1, s2, s3, s4, s5⟩, hl⟩ ⟨2, 0, v⟩)
  have hrb := Lib.hid (res_below hbW (b6 := w.heap.size + 1) (b7 := w.heap.size + 1 + 1) (by omega) (by omega) ⟨b, (n + 1), ⟨a0, a1, a2, a3, a4, a5⟩, ⟨s0, s1, s2, s3, s4, s5⟩, hl⟩ ⟨2, 0, v⟩)
  clear j3 j6 j7 j8 hbW
  go_region
  all_goals
    go_wp2_with fail
    change bodyPost _ _ _ _ _ (resW W (w.heap.size + 1) (w.heap.size + 1 + 1) ⟨b, (n + 1), ⟨a0, a1, a2, a3, a4, a5⟩, ⟨s0, s1, s2, s3, s4, s5⟩, hl⟩ ⟨2, 0, v⟩).drew
    generalize resW W (w.heap.size + 1) (w.heap.size + 1 + 1) ⟨b, (n + 1), ⟨a0, a1, a2, a3, a4, a5⟩, ⟨s0, s1, s2, s3, s4, s5⟩, hl⟩ ⟨2, 0, v⟩ = X at *
    exact bodyPost_ret (results_two _ _ 6 7 rfl rfl rfl (drewB hres.out.1) (drewB hres.out.2)) rfl ⟨rfl, bdrew hrb.out⟩
set_option maxRecDepth 100000 in
set_option maxHeartbeats 2000000 in
theorem end_plain (n1 : 0 ≤ n) (n2 : n ≤ 4096) (f0 : (e == 0) = false) (f1 : (e == 141) = false) (f2 : (e == 140) = false) (f3 : (e == 100) = false) (f4 : (e == 130) = false) : Calls Tryz.prog 131 #[.agg #[.int .i64 b, .int .i64 n, .int .i64 a0, .int .i64 a1, .int .i64 a2, .int .i64 a3, .int .i64 a4, .int .i64 a5, .int .i64 s0, .int .i64 s1, .int .i64 s2, .int .i64 s3, .int .i64 s4, .int .i64 s5, .bool hl], .int .i64 v, .int .i64 e] w fun e' w' => e' = .returned (.tuple #[ThV.v ⟨b, (n + 1), ⟨a0, a1, a2, a3, a4, a5⟩, ⟨s0, s1, s2, s3, s4, s5⟩, hl⟩, ActV.val ⟨2, e, 0⟩]) ∧ Below w.heap.size w w' := by
  go_enter Tryz.func131, Tryz.ntmps131
  go_upto_region 14 with fail
  obtain ⟨W, hW⟩ : ∃ W : World, W = ((((w.alloc (.cells #[.int .i64 b, .int .i64 (n + 1), .int .i64 a0, .int .i64 a1, .int .i64 a2, .int .i64 a3, .int .i64 a4, .int .i64 a5, .int .i64 s0, .int .i64 s1, .int .i64 s2, .int .i64 s3, .int .i64 s4, .int .i64 s5, .bool hl] 57)).alloc (.cells #[.int .i64 0, .int .i64 0, .int .i64 0, .int .i64 0, .int .i64 0, .int .i64 0, .int .i64 0, .int .i64 0, .int .i64 0, .int .i64 0, .int .i64 0, .int .i64 0, .int .i64 0, .int .i64 0, .bool false] 57)).alloc (.cells #[.int .i64 0, .int .i64 0, .int .i64 0] 60)).alloc (.cells #[.int .i64 2, .int .i64 e, .int .i64 0] 60)) := ⟨_, rfl⟩
  rw [← hW]
  have j3 : Blk W w.heap.size #[.int .i64 b, .int .i64 (n + 1), .int .i64 a0, .int .i64 a1, .int .i64 a2, .int .i64 a3, .int .i64 a4, .int .i64 a5, .int .i64 s0, .int .i64 s1, .int .i64 s2, .int .i64 s3, .int .i64 s4, .int .i64 s5, .bool hl] 57 := by rw [hW]; exact (((Blk.new w _ _).alloc _).alloc _).alloc _
  have j6 : Blk W (w.heap.size + 1) #[.int .i64 0, .int .i64 0, .int .i64 0, .int .i64 0, .int .i64 0, .int .i64 0, .int .i64 0, .int .i64 0, .int .i64 0, .int .i64 0, .int .i64 0, .int .i64 0, .int .i64 0, .int .i64 0, .bool false] 57 := by rw [hW]; exact ((Blk.new_at _ _ _ _ _ (by simp) rfl).alloc _).alloc _
  have j7 : Blk W (w.heap.size + 1 + 1) #[.int .i64 0, .int .i64 0, .int .i64 0] 60 := by rw [hW]; exact (Blk.new_at _ _ _ _ _ (by simp) rfl).alloc _
  have j8 : Blk W (w.heap.size + 1 + 1 + 1) #[.int .i64 2, .int .i64 e, .int .i64 0] 60 := by rw [hW]; exact Blk.new_at _ _ _ _ _ (by simp) rfl
  have hbW : Below w.heap.size w W := by rw [hW]; exact balloc (balloc (balloc (balloc (bsame w) _) _) _) _
  clear hW
  have c3 := j3.cell
  have c6 := j6.cell
  have z6 := j6.free
  have l6 := j6.lt
  have c7 := j7.cell
  have z7 := j7.free
  have l7 := j7.lt
  have c8 := j8.cell
  have hres := Lib.hid (res_blk (t6 := 57) (t7 := 60) j6 j7 (by omega) ⟨b, (n + 1), ⟨a0, a1, a2, a3, a4, a5⟩, ⟨s0, s1, s2, s3, s4, s5⟩, hl⟩ ⟨2, e, 0⟩)
  have hrb := Lib.hid (res_below hbW (b6 := w.heap.size + 1) (b7 := w.heap.size + 1 + 1) (by omega) (by omega) ⟨b, (n + 1), ⟨a0, a1, a2, a3, a4, a5⟩, ⟨s0, s1, s2, s3, s4, s5⟩, hl⟩ ⟨2, e, 0⟩)
  clear j3 j6 j7 j8 hbW
  go_region
  all_goals
    go_wp2_with fail
    change bodyPost _ _ _ _ _ (resW W (w.heap.size + 1) (w.heap.size + 1 + 1) ⟨b, (n + 1), ⟨a0, a1, a2, a3, a4, a5⟩, ⟨s0, s1, s2, s3, s4, s5⟩, hl⟩ ⟨2, e, 0⟩).drew
    generalize resW W (w.heap.size + 1) (w.heap.size + 1 + 1) ⟨b, (n + 1), ⟨a0, a1, a2, a3, a4, a5⟩, ⟨s0, s1, s2, s3, s4, s5⟩, hl⟩ ⟨2, e, 0⟩ = X at *
    exact bodyPost_ret (results_two _ _ 6 7 rfl rfl rfl (drewB hres.out.1) (drewB hres.out.2)) rfl ⟨rfl, bdrew hrb.out⟩
set_option maxRecDepth 100000 in
set_option maxHeartbeats 2000000 in
theorem end_back1 (f0 : (e == 0) = false) (f1 : (e == 141) = true) : Calls Tryz.prog 131 #[.agg #[.int .i64 b, .int .i64 n, .int .i64 a0, .int .i64 a1, .int .i64 a2, .int .i64 a3, .int .i64 a4, .int .i64 a5, .int .i64 s0, .int .i64 s1, .int .i64 s2, .int .i64 s3, .int .i64 s4, .int .i64 s5, .bool hl], .int .i64 v, .int .i64 e] w fun e' w' => e' = .returned (.tuple #[ThV.v ⟨b, 0, ⟨s0, s1, s2, s3, s4, s5⟩, ⟨s0, s1, s2, s3, s4, s5⟩, false⟩, ActV.val ⟨2, e, 0⟩]) ∧ Below w.heap.size w w' := by
  have HB := Lib.hid (fun w => show Calls Tryz.prog 128 #[.agg #[.int .i64 b, .int .i64 n, .int .i64 a0, .int .i64 a1, .int .i64 a2, .int .i64 a3, .int .i64 a4, .int .i64 a5, .int .i64 s0, .int .i64 s1, .int .i64 s2, .int .i64 s3, .int .i64 s4, .int .i64 s5, .bool hl]] w fun e w' => e = .returned (.agg #[.int .i64 b, .int .i64 0, .int .i64 s0, .int .i64 s1, .int .i64 s2, .int .i64 s3, .int .i64 s4, .int .i64 s5, .int .i64 s0, .int .i64 s1, .int .i64 s2, .int .i64 s3, .int .i64 s4, .int .i64 s5, .bool false]) ∧ Below w.heap.size w w' from back_any ⟨b, n, ⟨a0, a1, a2, a3, a4, a5⟩, ⟨s0, s1, s2, s3, s4, s5⟩, hl⟩ w)
  go_enter Tryz.func131, Tryz.ntmps131
  obtain ⟨W0, hW0⟩ : ∃ W : World, W = ((((w.alloc (.cells #[.int .i64 b, .int .i64 n, .int .i64 a0, .int .i64 a1, .int .i64 a2, .int .i64 a3, .int .i64 a4, .int .i64 a5, .int .i64 s0, .int .i64 s1, .int .i64 s2, .int .i64 s3, .int .i64 s4, .int .i64 s5, .bool hl] 57)).alloc (.cells #[.int .i64 0, .int .i64 0, .int .i64 0, .int .i64 0, .int .i64 0, .int .i64 0, .int .i64 0, .int .i64 0, .int .i64 0, .int .i64 0, .int .i64 0, .int .i64 0, .int .i64 0, .int .i64 0, .bool false] 57)).alloc (.cells #[.int .i64 0, .int .i64 0, .int .i64 0] 60)).alloc (.cells #[.int .i64 2, .int .i64 e, .int .i64 0] 60)) := ⟨_, rfl⟩
  have j3 : Blk W0 w.heap.size #[.int .i64 b, .int .i64 n, .int .i64 a0, .int .i64 a1, .int .i64 a2, .int .i64 a3, .int .i64 a4, .int .i64 a5, .int .i64 s0, .int .i64 s1, .int .i64 s2, .int .i64 s3, .int .i64 s4, .int .i64 s5, .bool hl] 57 := by rw [hW0]; exact (((Blk.new w _ _).alloc _).alloc _).alloc _
  have j6 : Blk W0 (w.heap.size + 1) #[.int .i64 0, .int .i64 0, .int .i64 0, .int .i64 0, .int .i64 0, .int .i64 0, .int .i64 0, .int .i64 0, .int .i64 0, .int .i64 0, .int .i64 0, .int .i64 0, .int .i64 0, .int .i64 0, .bool false] 57 := by rw [hW0]; exact ((Blk.new_at _ _ _ _ _ (by simp) rfl).alloc _).alloc _
  have j7 : Blk W0 (w.heap.size + 1 + 1) #[.int .i64 0, .int .i64 0, .int .i64 0] 60 := by rw [hW0]; exact (Blk.new_at _ _ _ _ _ (by simp) rfl).alloc _
  have j8 : Blk W0 (w.heap.size + 1 + 1 + 1) #[.int .i64 2, .int .i64 e, .int .i64 0] 60 := by rw [hW0]; exact Blk.new_at _ _ _ _ _ (by simp) rfl
  have hbW : Below w.heap.size w W0 := by rw [hW0]; exact balloc (balloc (balloc (balloc (bsame w) _) _) _) _
  go_wp2_with fail
  rw [← hW0]
  clear hW0
  refine (HB.out _).mono ?_
  rintro e1 W1 ⟨rfl, hb1⟩
  replace j3 := j3.below hb1 j3.lt
  replace j6 := j6.below hb1 j6.lt
  replace j7 := j7.below hb1 j7.lt
  replace j8 := j8.below hb1 j8.lt
  replace hbW := btrans hbW hb1
  clear hb1 HB
  have c3 := j3.cell
  have z3 := j3.free
  have l3 := j3.lt
  go_upto_region 14 with fail
  clear c3 z3 l3
  obtain ⟨W, hW⟩ : ∃ W : World, W = thW W1 w.heap.size ⟨b, 0, ⟨s0, s1, s2, s3, s4, s5⟩, ⟨s0, s1, s2, s3, s4, s5⟩, false⟩ := ⟨_, rfl⟩
  change Code.wp _ _ _ _ (thW W1 w.heap.size ⟨b, 0, ⟨s0, s1, s2, s3, s4, s5⟩, ⟨s0, s1, s2, s3, s4, s5⟩, false⟩)
  rw [← hW]
  have k3 : Blk W w.heap.size #[.int .i64 b, .int .i64 0, .int .i64 s0, .int .i64 s1, .int .i64 s2, .int .i64 s3, .int .i64 s4, .int .i64 s5, .int .i64 s0, .int .i64 s1, .int .i64 s2, .int .i64 s3, .int .i64 s4, .int .i64 s5, .bool false] 57 := by rw [hW]; exact (thW_blk (g := ⟨b, n, ⟨a0, a1, a2, a3, a4, a5⟩, ⟨s0, s1, s2, s3, s4, s5⟩, hl⟩) j3 ⟨b, 0, ⟨s0, s1, s2, s3, s4, s5⟩, ⟨s0, s1, s2, s3, s4, s5⟩, false⟩)
  have k6 : Blk W (w.heap.size + 1) #[.int .i64 0, .int .i64 0, .int .i64 0, .int .i64 0, .int .i64 0, .int .i64 0, .int .i64 0, .int .i64 0, .int .i64 0, .int .i64 0, .int .i64 0, .int .i64 0, .int .i64 0, .int .i64 0, .bool false] 57 := by rw [hW]; exact (thW_other j6 (by omega) _)
  have k7 : Blk W (w.heap.size + 1 + 1) #[.int .i64 0, .int .i64 0, .int .i64 0] 60 := by rw [hW]; exact (thW_other j7 (by omega) _)
  have k8 : Blk W (w.heap.size + 1 + 1 + 1) #[.int .i64 2, .int .i64 e, .int .i64 0] 60 := by rw [hW]; exact (thW_other j8 (by omega) _)
  have kb : Below w.heap.size w W := by rw [hW]; exact thW_below hbW (Nat.le_refl _) _
  clear hW j3 j6 j7 j8 hbW
  have j3 := k3
  have j6 := k6
  have j7 := k7
  have j8 := k8
  have hbW := kb
  clear k3 k6 k7 k8 kb
  have c3 := j3.cell
  have c6 := j6.cell
  have z6 := j6.free
  have l6 := j6.lt
  have c7 := j7.cell
  have z7 := j7.free
  have l7 := j7.lt
  have c8 := j8.cell
  have hres := Lib.hid (res_blk (t6 := 57) (t7 := 60) j6 j7 (by omega) ⟨b, 0, ⟨s0, s1, s2, s3, s4, s5⟩, ⟨s0, s1, s2, s3, s4, s5⟩, false⟩ ⟨2, e, 0⟩)
  have hrb := Lib.hid (res_below hbW (b6 := w.heap.size + 1) (b7 := w.heap.size + 1 + 1) (by omega) (by omega) ⟨b, 0, ⟨s0, s1, s2, s3, s4, s5⟩, ⟨s0, s1, s2, s3, s4, s5⟩, false⟩ ⟨2, e, 0⟩)
  clear j3 j6 j7 j8 hbW
  go_region
  all_goals
    go_wp2_with fail
    change bodyPost _ _ _ _ _ (resW W (w.heap.size + 1) (w.heap.size + 1 + 1) ⟨b, 0, ⟨s0, s1, s2, s3, s4, s5⟩, ⟨s0, s1, s2, s3, s4, s5⟩, false⟩ ⟨2, e, 0⟩).drew
    generalize resW W (w.heap.size + 1) (w.heap.size + 1 + 1) ⟨b, 0, ⟨s0, s1, s2, s3, s4, s5⟩, ⟨s0, s1, s2, s3, s4, s5⟩, false⟩ ⟨2, e, 0⟩ = X at *
    exact bodyPost_ret (results_two _ _ 6 7 rfl rfl rfl (drewB hres.out.1) (drewB hres.out.2)) rfl ⟨rfl, bdrew hrb.out⟩
set_option maxRecDepth 100000 in
set_option maxHeartbeats 2000000 in
theorem end_back2 (f0 : (e == 0) = false) (f1 : (e == 141) = false) (f2 : (e == 140) = true) : Calls Tryz.prog 131 #[.agg #[.int .i64 b, .int .i64 n, .int .i64 a0, .int .i64 a1, .int .i64 a2, .int .i64 a3, .int .i64 a4, .int .i64 a5, .int .i64 s0, .int .i64 s1, .int .i64 s2, .int .i64 s3, .int .i64 s4, .int .i64 s5, .bool hl], .int .i64 v, .int .i64 e] w fun e' w' => e' = .returned (.tuple #[ThV.v ⟨b, 0, ⟨s0, s1, s2, s3, s4, s5⟩, ⟨s0, s1, s2, s3, s4, s5⟩, false⟩, ActV.val ⟨2, e, 0⟩]) ∧ Below w.heap.size w w' := by
  have HB := Lib.hid (fun w => show Calls Tryz.prog 128 #[.agg #[.int .i64 b, .int .i64 n, .int .i64 a0, .int .i64 a1, .int .i64 a2, .int .i64 a3, .int .i64 a4, .int .i64 a5, .int .i64 s0, .int .i64 s1, .int .i64 s2, .int .i64 s3, .int .i64 s4, .int .i64 s5, .bool hl]] w fun e w' => e = .returned (.agg #[.int .i64 b, .int .i64 0, .int .i64 s0, .int .i64 s1, .int .i64 s2, .int .i64 s3, .int .i64 s4, .int .i64 s5, .int .i64 s0, .int .i64 s1, .int .i64 s2, .int .i64 s3, .int .i64 s4, .int .i64 s5, .bool false]) ∧ Below w.heap.size w w' from back_any ⟨b, n, ⟨a0, a1, a2, a3, a4, a5⟩, ⟨s0, s1, s2, s3, s4, s5⟩, hl⟩ w)
  go_enter Tryz.func131, Tryz.ntmps131
  obtain ⟨W0, hW0⟩ : ∃ W : World, W = ((((w.alloc (.cells #[.int .i64 b, .int .i64 n, .int .i64 a0, .int .i64 a1, .int .i64 a2, .int .i64 a3, .int .i64 a4, .int .i64 a5, .int .i64 s0, .int .i64 s1, .int .i64 s2, .int .i64 s3, .int .i64 s4, .int .i64 s5, .bool hl] 57)).alloc (.cells #[.int .i64 0, .int .i64 0, .int .i64 0, .int .i64 0, .int .i64 0, .int .i64 0, .int .i64 0, .int .i64 0, .int .i64 0, .int .i64 0, .int .i64 0, .int .i64 0, .int .i64 0, .int .i64 0, .bool false] 57)).alloc (.cells #[.int .i64 0, .int .i64 0, .int .i64 0] 60)).alloc (.cells #[.int .i64 2, .int .i64 e, .int .i64 0] 60)) := ⟨_, rfl⟩
  have j3 : Blk W0 w.heap.size #[.int .i64 b, .int .i64 n, .int .i64 a0, .int .i64 a1, .int .i64 a2, .int .i64 a3, .int .i64 a4, .int .i64 a5, .int .i64 s0, .int .i64 s1, .int .i64 s2, .int .i64 s3, .int .i64 s4, .int .i64 s5, .bool hl] 57 := by rw [hW0]; exact (((Blk.new w _ _).alloc _).alloc _).alloc _
  have j6 : Blk W0 (w.heap.size + 1) #[.int .i64 0, .int .i64 0, .int .i64 0, .int .i64 0, .int .i64 0, .int .i64 0, .int .i64 0, .int .i64 0, .int .i64 0, .int .i64 0, .int .i64 0, .int .i64 0, .int .i64 0, .int .i64 0, .bool false] 57 := by rw [hW0]; exact ((Blk.new_at _ _ _ _ _ (by simp) rfl).alloc _).alloc _
  have j7 : Blk W0 (w.heap.size + 1 + 1) #[.int .i64 0, .int .i64 0, .int .i64 0] 60 := by rw [hW0]; exact (Blk.new_at _ _ _ _ _ (by simp) rfl).alloc _
  have j8 : Blk W0 (w.heap.size + 1 + 1 + 1) #[.int .i64 2, .int .i64 e, .int .i64 0] 60 := by rw [hW0]; exact Blk.new_at _ _ _ _ _ (by simp) rfl
  have hbW : Below w.heap.size w W0 := by rw [hW0]; exact balloc (balloc (balloc (balloc (bsame w) _) _) _) _
  go_wp2_with fail
  rw [← hW0]
  clear hW0
  refine (HB.out _).mono ?_
  rintro e1 W1 ⟨rfl, hb1⟩
  replace j3 := j3.below hb1 j3.lt
  replace j6 := j6.below hb1 j6.lt
  replace j7 := j7.below hb1 j7.lt
  replace j8 := j8.below hb1 j8.lt
  replace hbW := btrans hbW hb1
  clear hb1 HB
  have c3 := j3.cell
  have z3 := j3.free
  have l3 := j3.lt
  go_upto_region 14 with fail
  clear c3 z3 l3
  obtain ⟨W, hW⟩ : ∃ W : World, W = thW W1 w.heap.size ⟨b, 0, ⟨s0, s1, s2, s3, s4, s5⟩, ⟨s0, s1, s2, s3, s4, s5⟩, false⟩ := ⟨_, rfl⟩
  change Code.wp _ _ _ _ (thW W1 w.heap.size ⟨b, 0, ⟨s0, s1, s2, s3, s4, s5⟩, ⟨s0, s1, s2, s3, s4, s5⟩, false⟩)
  rw [← hW]
  have k3 : Blk W w.heap.size #[.int .i64 b, .int .i64 0, .int .i64 s0, .int .i64 s1, .int .i64 s2, .int .i64 s3, .int .i64 s4, .int .i64 s5, .int .i64 s0, .int .i64 s1, .int .i64 s2, .int .i64 s3, .int .i64 s4, .int .i64 s5, .bool false] 57 := by rw [hW]; exact (thW_blk (g := ⟨b, n, ⟨a0, a1, a2, a3, a4, a5⟩, ⟨s0, s1, s2, s3, s4, s5⟩, hl⟩) j3 ⟨b, 0, ⟨s0, s1, s2, s3, s4, s5⟩, ⟨s0, s1, s2, s3, s4, s5⟩, false⟩)
  have k6 : Blk W (w.heap.size + 1) #[.int .i64 0, .int .i64 0, .int .i64 0, .int .i64 0, .int .i64 0, .int .i64 0, .int .i64 0, .int .i64 0, .int .i64 0, .int .i64 0, .int .i64 0, .int .i64 0, .int .i64 0, .int .i64 0, .bool false] 57 := by rw [hW]; exact (thW_other j6 (by omega) _)
  have k7 : Blk W (w.heap.size + 1 + 1) #[.int .i64 0, .int .i64 0, .int .i64 0] 60 := by rw [hW]; exact (thW_other j7 (by omega) _)
  have k8 : Blk W (w.heap.size + 1 + 1 + 1) #[.int .i64 2, .int .i64 e, .int .i64 0] 60 := by rw [hW]; exact (thW_other j8 (by omega) _)
  have kb : Below w.heap.size w W := by rw [hW]; exact thW_below hbW (Nat.le_refl _) _
  clear hW j3 j6 j7 j8 hbW
  have j3 := k3
  have j6 := k6
  have j7 := k7
  have j8 := k8
  have hbW := kb
  clear k3 k6 k7 k8 kb
  have c3 := j3.cell
  have c6 := j6.cell
  have z6 := j6.free
  have l6 := j6.lt
  have c7 := j7.cell
  have z7 := j7.free
  have l7 := j7.lt
  have c8 := j8.cell
  have hres := Lib.hid (res_blk (t6 := 57) (t7 := 60) j6 j7 (by omega) ⟨b, 0, ⟨s0, s1, s2, s3, s4, s5⟩, ⟨s0, s1, s2, s3, s4, s5⟩, false⟩ ⟨2, e, 0⟩)
  have hrb := Lib.hid (res_below hbW (b6 := w.heap.size + 1) (b7 := w.heap.size + 1 + 1) (by omega) (by omega) ⟨b, 0, ⟨s0, s1, s2, s3, s4, s5⟩, ⟨s0, s1, s2, s3, s4, s5⟩, false⟩ ⟨2, e, 0⟩)
  clear j3 j6 j7 j8 hbW
  go_region
  all_goals
    go_wp2_with fail
    change bodyPost _ _ _ _ _ (resW W (w.heap.size + 1) (w.heap.size + 1 + 1) ⟨b, 0, ⟨s0, s1, s2, s3, s4, s5⟩, ⟨s0, s1, s2, s3, s4, s5⟩, false⟩ ⟨2, e, 0⟩).drew
    generalize resW W (w.heap.size + 1) (w.heap.size + 1 + 1) ⟨b, 0, ⟨s0, s1, s2, s3, s4, s5⟩, ⟨s0, s1, s2, s3, s4, s5⟩, false⟩ ⟨2, e, 0⟩ = X at *
    exact bodyPost_ret (results_two _ _ 6 7 rfl rfl rfl (drewB hres.out.1) (drewB hres.out.2)) rfl ⟨rfl, bdrew hrb.out⟩
set_option maxRecDepth 100000 in
set_option maxHeartbeats 2000000 in
theorem end_bump1 (b1 : 0 ≤ b) (b2 : b ≤ 4096) (f0 : (e == 0) = false) (f1 : (e == 141) = false) (f2 : (e == 140) = false) (f3 : (e == 100) = true) : Calls Tryz.prog 131 #[.agg #[.int .i64 b, .int .i64 n, .int .i64 a0, .int .i64 a1, .int .i64 a2, .int .i64 a3, .int .i64 a4, .int .i64 a5, .int .i64 s0, .int .i64 s1, .int .i64 s2, .int .i64 s3, .int .i64 s4, .int .i64 s5, .bool hl], .int .i64 v, .int .i64 e] w fun e' w' => e' = .returned (.tuple #[ThV.v ⟨(b + 1), 0, ⟨s0, s1, s2, s3, s4, s5⟩, ⟨s0, s1, s2, s3, s4, s5⟩, false⟩, ActV.val ⟨2, e, 0⟩]) ∧ Below w.heap.size w w' := by
  have HB := Lib.hid (fun w => show Calls Tryz.prog 128 #[.agg #[.int .i64 b, .int .i64 n, .int .i64 a0, .int .i64 a1, .int .i64 a2, .int .i64 a3, .int .i64 a4, .int .i64 a5, .int .i64 s0, .int .i64 s1, .int .i64 s2, .int .i64 s3, .int .i64 s4, .int .i64 s5, .bool hl]] w fun e w' => e = .returned (.agg #[.int .i64 b, .int .i64 0, .int .i64 s0, .int .i64 s1, .int .i64 s2, .int .i64 s3, .int .i64 s4, .int .i64 s5, .int .i64 s0, .int .i64 s1, .int .i64 s2, .int .i64 s3, .int .i64 s4, .int .i64 s5, .bool false]) ∧ Below w.heap.size w w' from back_any ⟨b, n, ⟨a0, a1, a2, a3, a4, a5⟩, ⟨s0, s1, s2, s3, s4, s5⟩, hl⟩ w)
  go_enter Tryz.func131, Tryz.ntmps131
  obtain ⟨W0, hW0⟩ : ∃ W : World, W = ((((w.alloc (.cells #[.int .i64 b, .int .i64 n, .int .i64 a0, .int .i64 a1, .int .i64 a2, .int .i64 a3, .int .i64 a4, .int .i64 a5, .int .i64 s0, .int .i64 s1, .int .i64 s2, .int .i64 s3, .int .i64 s4, .int .i64 s5, .bool hl] 57)).alloc (.cells #[.int .i64 0, .int .i64 0, .int .i64 0, .int .i64 0, .int .i64 0, .int .i64 0, .int .i64 0, .int .i64 0, .int .i64 0, .int .i64 0, .int .i64 0, .int .i64 0, .int .i64 0, .int .i64 0, .bool false] 57)).alloc (.cells #[.int .i64 0, .int .i64 0, .int .i64 0] 60)).alloc (.cells #[.int .i64 2, .int .i64 e, .int .i64 0] 60)) := ⟨_, rfl⟩
  have j3 : Blk W0 w.heap.size #[.int .i64 b, .int .i64 n, .int .i64 a0, .int .i64 a1, .int .i64 a2, .int .i64 a3, .int .i64 a4, .int .i64 a5, .int .i64 s0, .int .i64 s1, .int .i64 s2, .int .i64 s3, .int .i64 s4, .int .i64 s5, .bool hl] 57 := by rw [hW0]; exact (((Blk.new w _ _).alloc _).alloc _).alloc _
  have j6 : Blk W0 (w.heap.size + 1) #[.int .i64 0, .int .i64 0, .int .i64 0, .int .i64 0, .int .i64 0, .int .i64 0, .int .i64 0, .int .i64 0, .int .i64 0, .int .i64 0, .int .i64 0, .int .i64 0, .int .i64 0, .int .i64 0, .bool false] 57 := by rw [hW0]; exact ((Blk.new_at _ _ _ _ _ (by simp) rfl).alloc _).alloc _
  have j7 : Blk W0 (w.heap.size + 1 + 1) #[.int .i64 0, .int .i64 0, .int .i64 0] 60 := by rw [hW0]; exact (Blk.new_at _ _ _ _ _ (by simp) rfl).alloc _
  have j8 : Blk W0 (w.heap.size + 1 + 1 + 1) #[.int .i64 2, .int .i64 e, .int .i64 0] 60 := by rw [hW0]; exact Blk.new_at _ _ _ _ _ (by simp) rfl
  have hbW : Below w.heap.size w W0 := by rw [hW0]; exact balloc (balloc (balloc (balloc (bsame w) _) _) _) _
  go_wp2_with fail
  rw [← hW0]
  clear hW0
  refine (HB.out _).mono ?_
  rintro e1 W1 ⟨rfl, hb1⟩
  replace j3 := j3.below hb1 j3.lt
  replace j6 := j6.below hb1 j6.lt
  replace j7 := j7.below hb1 j7.lt
  replace j8 := j8.below hb1 j8.lt
  replace hbW := btrans hbW hb1
  clear hb1 HB
  have c3 := j3.cell
  have z3 := j3.free
  have l3 := j3.lt
  go_upto_region 14 with fail
  clear c3 z3 l3
  obtain ⟨W, hW⟩ : ∃ W : World, W = (thW W1 w.heap.size ⟨b, 0, ⟨s0, s1, s2, s3, s4, s5⟩, ⟨s0, s1, s2, s3, s4, s5⟩, false⟩).setCell ⟨w.heap.size, 0, none⟩ (.int .i64 (b + 1)) := ⟨_, rfl⟩
  change Code.wp _ _ _ _ ((thW W1 w.heap.size ⟨b, 0, ⟨s0, s1, s2, s3, s4, s5⟩, ⟨s0, s1, s2, s3, s4, s5⟩, false⟩).setCell ⟨w.heap.size, 0, none⟩ (.int .i64 (b + 1)))
  rw [← hW]
  have k3 : Blk W w.heap.size #[.int .i64 (b + 1), .int .i64 0, .int .i64 s0, .int .i64 s1, .int .i64 s2, .int .i64 s3, .int .i64 s4, .int .i64 s5, .int .i64 s0, .int .i64 s1, .int .i64 s2, .int .i64 s3, .int .i64 s4, .int .i64 s5, .bool false] 57 := by rw [hW]; exact (thW_blk (g := ⟨b, n, ⟨a0, a1, a2, a3, a4, a5⟩, ⟨s0, s1, s2, s3, s4, s5⟩, hl⟩) j3 ⟨b, 0, ⟨s0, s1, s2, s3, s4, s5⟩, ⟨s0, s1, s2, s3, s4, s5⟩, false⟩).set 0 (.int .i64 (b + 1))
  have k6 : Blk W (w.heap.size + 1) #[.int .i64 0, .int .i64 0, .int .i64 0, .int .i64 0, .int .i64 0, .int .i64 0, .int .i64 0, .int .i64 0, .int .i64 0, .int .i64 0, .int .i64 0, .int .i64 0, .int .i64 0, .int .i64 0, .bool false] 57 := by rw [hW]; exact (thW_other j6 (by omega) _).set_other (a := ⟨w.heap.size, 0, none⟩) (by show _ ≠ w.heap.size; omega) (.int .i64 (b + 1))
  have k7 : Blk W (w.heap.size + 1 + 1) #[.int .i64 0, .int .i64 0, .int .i64 0] 60 := by rw [hW]; exact (thW_other j7 (by omega) _).set_other (a := ⟨w.heap.size, 0, none⟩) (by show _ ≠ w.heap.size; omega) (.int .i64 (b + 1))
  have k8 : Blk W (w.heap.size + 1 + 1 + 1) #[.int .i64 2, .int .i64 e, .int .i64 0] 60 := by rw [hW]; exact (thW_other j8 (by omega) _).set_other (a := ⟨w.heap.size, 0, none⟩) (by show _ ≠ w.heap.size; omega) (.int .i64 (b + 1))
  have kb : Below w.heap.size w W := by rw [hW]; exact bset (thW_below hbW (Nat.le_refl _) _) (Nat.le_refl _) _
  clear hW j3 j6 j7 j8 hbW
  have j3 := k3
  have j6 := k6
  have j7 := k7
  have j8 := k8
  have hbW := kb
  clear k3 k6 k7 k8 kb
  have c3 := j3.cell
  have c6 := j6.cell
  have z6 := j6.free
  have l6 := j6.lt
  have c7 := j7.cell
  have z7 := j7.free
  have l7 := j7.lt
  have c8 := j8.cell
  have hres := Lib.hid (res_blk (t6 := 57) (t7 := 60) j6 j7 (by omega) ⟨(b + 1), 0, ⟨s0, s1, s2, s3, s4, s5⟩, ⟨s0, s1, s2, s3, s4, s5⟩, false⟩ ⟨2, e, 0⟩)
  have hrb := Lib.hid (res_below hbW (b6 := w.heap.size + 1) (b7 := w.heap.size + 1 + 1) (by omega) (by omega) ⟨(b + 1), 0, ⟨s0, s1, s2, s3, s4, s5⟩, ⟨s0, s1, s2, s3, s4, s5⟩, false⟩ ⟨2, e, 0⟩)
  clear j3 j6 j7 j8 hbW
  go_region
  all_goals
    go_wp2_with fail
    change bodyPost _ _ _ _ _ (resW W (w.heap.size + 1) (w.heap.size + 1 + 1) ⟨(b + 1), 0, ⟨s0, s1, s2, s3, s4, s5⟩, ⟨s0, s1, s2, s3, s4, s5⟩, false⟩ ⟨2, e, 0⟩).drew
    generalize resW W (w.heap.size + 1) (w.heap.size + 1 + 1) ⟨(b + 1), 0, ⟨s0, s1, s2, s3, s4, s5⟩, ⟨s0, s1, s2, s3, s4, s5⟩, false⟩ ⟨2, e, 0⟩ = X at *
    exact bodyPost_ret (results_two _ _ 6 7 rfl rfl rfl (drewB hres.out.1) (drewB hres.out.2)) rfl ⟨rfl, bdrew hrb.out⟩
set_option maxRecDepth 100000 in
set_option maxHeartbeats 2000000 in
theorem end_bump2 (b1 : 0 ≤ b) (b2 : b ≤ 4096) (f0 : (e == 0) = false) (f1 : (e == 141) = false) (f2 : (e == 140) = false) (f3 : (e == 100) = false) (f4 : (e == 130) = true) : Calls Tryz.prog 131 #[.agg #[.int .i64 b, .int .i64 n, .int .i64 a0, .int .i64 a1, .int .i64 a2, .int .i64 a3, .int .i64 a4, .int .i64 a5, .int .i64 s0, .int .i64 s1, .int .i64 s2, .int .i64 s3, .int .i64 s4, .int .i64 s5, .bool hl], .int .i64 v, .int .i64 e] w fun e' w' => e' = .returned (.tuple #[ThV.v ⟨(b + 1), 0, ⟨s0, s1, s2, s3, s4, s5⟩, ⟨s0, s1, s2, s3, s4, s5⟩, false⟩, ActV.val ⟨2, e, 0⟩]) ∧ Below w.heap.size w w' := by
  have HB := Lib.hid (fun w => show Calls Tryz.prog 128 #[.agg #[.int .i64 b, .int .i64 n, .int .i64 a0, .int .i64 a1, .int .i64 a2, .int .i64 a3, .int .i64 a4, .int .i64 a5, .int .i64 s0, .int .i64 s1, .int .i64 s2, .int .i64 s3, .int .i64 s4, .int .i64 s5, .bool hl]] w fun e w' => e = .returned (.agg #[.int .i64 b, .int .i64 0, .int .i64 s0, .int .i64 s1, .int .i64 s2, .int .i64 s3, .int .i64 s4, .int .i64 s5, .int .i64 s0, .int .i64 s1, .int .i64 s2, .int .i64 s3, .int .i64 s4, .int .i64 s5, .bool false]) ∧ Below w.heap.size w w' from back_any ⟨b, n, ⟨a0, a1, a2, a3, a4, a5⟩, ⟨s0, s1, s2, s3, s4, s5⟩, hl⟩ w)
  go_enter Tryz.func131, Tryz.ntmps131
  obtain ⟨W0, hW0⟩ : ∃ W : World, W = ((((w.alloc (.cells #[.int .i64 b, .int .i64 n, .int .i64 a0, .int .i64 a1, .int .i64 a2, .int .i64 a3, .int .i64 a4, .int .i64 a5, .int .i64 s0, .int .i64 s1, .int .i64 s2, .int .i64 s3, .int .i64 s4, .int .i64 s5, .bool hl] 57)).alloc (.cells #[.int .i64 0, .int .i64 0, .int .i64 0, .int .i64 0, .int .i64 0, .int .i64 0, .int .i64 0, .int .i64 0, .int .i64 0, .int .i64 0, .int .i64 0, .int .i64 0, .int .i64 0, .int .i64 0, .bool false] 57)).alloc (.cells #[.int .i64 0, .int .i64 0, .int .i64 0] 60)).alloc (.cells #[.int .i64 2, .int .i64 e, .int .i64 0] 60)) := ⟨_, rfl⟩
  have j3 : Blk W0 w.heap.size #[.int .i64 b, .int .i64 n, .int .i64 a0, .int .i64 a1, .int .i64 a2, .int .i64 a3, .int .i64 a4, .int .i64 a5, .int .i64 s0, .int .i64 s1, .int .i64 s2, .int .i64 s3, .int .i64 s4, .int .i64 s5, .bool hl] 57 := by rw [hW0]; exact (((Blk.new w _ _).alloc _).alloc _).alloc _
  have j6 : Blk W0 (w.heap.size + 1) #[.int .i64 0, .int .i64 0, .int .i64 0, .int .i64 0, .int .i64 0, .int .i64 0, .int .i64 0, .int .i64 0, .int .i64 0, .int .i64 0, .int .i64 0, .int .i64 0, .int .i64 0, .int .i64 0, .bool false] 57 := by rw [hW0]; exact ((Blk.new_at _ _ _ _ _ (by simp) rfl).alloc _).alloc _
  have j7 : Blk W0 (w.heap.size + 1 + 1) #[.int .i64 0, .int .i64 0, .int .i64 0] 60 := by rw [hW0]; exact (Blk.new_at _ _ _ _ _ (by simp) rfl).alloc _
  have j8 : Blk W0 (w.heap.size + 1 + 1 + 1) #[.int .i64 2, .int .i64 e, .int .i64 0] 60 := by rw [hW0]; exact Blk.new_at _ _ _ _ _ (by simp) rfl
  have hbW : Below w.heap.size w W0 := by rw [hW0]; exact balloc (balloc (balloc (balloc (bsame w) _) _) _) _
  go_wp2_with fail
  rw [← hW0]
  clear hW0
  refine (HB.out _).mono ?_
  rintro e1 W1 ⟨rfl, hb1⟩
  replace j3 := j3.below hb1 j3.lt
  replace j6 := j6.below hb1 j6.lt
  replace j7 := j7.below hb1 j7.lt
  replace j8 := j8.below hb1 j8.lt
  replace hbW := btrans hbW hb1
  clear hb1 HB
  have c3 := j3.cell
  have z3 := j3.free
  have l3 := j3.lt
  go_upto_region 14 with fail
  clear c3 z3 l3
  obtain ⟨W, hW⟩ : ∃ W : World, W = (thW W1 w.heap.size ⟨b, 0, ⟨s0, s1, s2, s3, s4, s5⟩, ⟨s0, s1, s2, s3, s4, s5⟩, false⟩).setCell ⟨w.heap.size, 0, none⟩ (.int .i64 (b + 1)) := ⟨_, rfl⟩
  change Code.wp _ _ _ _ ((thW W1 w.heap.size ⟨b, 0, ⟨s0, s1, s2, s3, s4, s5⟩, ⟨s0, s1, s2, s3, s4, s5⟩, false⟩).setCell ⟨w.heap.size, 0, none⟩ (.int .i64 (b + 1)))
  rw [← hW]
  have k3 : Blk W w.heap.size #[.int .i64 (b + 1), .int .i64 0, .int .i64 s0, .int .i64 s1, .int .i64 s2, .int .i64 s3, .int .i64 s4, .int .i64 s5, .int .i64 s0, .int .i64 s1, .int .i64 s2, .int .i64 s3, .int .i64 s4, .int .i64 s5, .bool false] 57 := by rw [hW]; exact (thW_blk (g := ⟨b, n, ⟨a0, a1, a2, a3, a4, a5⟩, ⟨s0, s1, s2, s3, s4, s5⟩, hl⟩) j3 ⟨b, 0, ⟨s0, s1, s2, s3, s4, s5⟩, ⟨s0, s1, s2, s3, s4, s5⟩, false⟩).set 0 (.int .i64 (b + 1))
  have k6 : Blk W (w.heap.size + 1) #[.int .i64 0, .int .i64 0, .int .i64 0, .int .i64 0, .int .i64 0, .int .i64 0, .int .i64 0, .int .i64 0, .int .i64 0, .int .i64 0, .int .i64 0, .int .i64 0, .int .i64 0, .int .i64 0, .bool false] 57 := by rw [hW]; exact (thW_other j6 (by omega) _).set_other (a := ⟨w.heap.size, 0, none⟩) (by show _ ≠ w.heap.size; omega) (.int .i64 (b + 1))
  have k7 : Blk W (w.heap.size + 1 + 1) #[.int .i64 0, .int .i64 0, .int .i64 0] 60 := by rw [hW]; exact (thW_other j7 (by omega) _).set_other (a := ⟨w.heap.size, 0, none⟩) (by show _ ≠ w.heap.size; omega) (.int .i64 (b + 1))
  have k8 : Blk W (w.heap.size + 1 + 1 + 1) #[.int .i64 2, .int .i64 e, .int .i64 0] 60 := by rw [hW]; exact (thW_other j8 (by omega) _).set_other (a := ⟨w.heap.size, 0, none⟩) (by show _ ≠ w.heap.size; omega) (.int .i64 (b + 1))
  have kb : Below w.heap.size w W := by rw [hW]; exact bset (thW_below hbW (Nat.le_refl _) _) (Nat.le_refl _) _
  clear hW j3 j6 j7 j8 hbW
  have j3 := k3
  have j6 := k6
  have j7 := k7
  have j8 := k8
  have hbW := kb
  clear k3 k6 k7 k8 kb
  have c3 := j3.cell
  have c6 := j6.cell
  have z6 := j6.free
  have l6 := j6.lt
  have c7 := j7.cell
  have z7 := j7.free
  have l7 := j7.lt
  have c8 := j8.cell
  have hres := Lib.hid (res_blk (t6 := 57) (t7 := 60) j6 j7 (by omega) ⟨(b + 1), 0, ⟨s0, s1, s2, s3, s4, s5⟩, ⟨s0, s1, s2, s3, s4, s5⟩, false⟩ ⟨2, e, 0⟩)
  have hrb := Lib.hid (res_below hbW (b6 := w.heap.size + 1) (b7 := w.heap.size + 1 + 1) (by omega) (by omega) ⟨(b + 1), 0, ⟨s0, s1, s2, s3, s4, s5⟩, ⟨s0, s1, s2, s3, s4, s5⟩, false⟩ ⟨2, e, 0⟩)
  clear j3 j6 j7 j8 hbW
  go_region
  all_goals
    go_wp2_with fail
    change bodyPost _ _ _ _ _ (resW W (w.heap.size + 1) (w.heap.size + 1 + 1) ⟨(b + 1), 0, ⟨s0, s1, s2, s3, s4, s5⟩, ⟨s0, s1, s2, s3, s4, s5⟩, false⟩ ⟨2, e, 0⟩).drew
    generalize resW W (w.heap.size + 1) (w.heap.size + 1 + 1) ⟨(b + 1), 0, ⟨s0, s1, s2, s3, s4, s5⟩, ⟨s0, s1, s2, s3, s4, s5⟩, false⟩ ⟨2, e, 0⟩ = X at *
    exact bodyPost_ret (results_two _ _ 6 7 rfl rfl rfl (drewB hres.out.1) (drewB hres.out.2)) rfl ⟨rfl, bdrew hrb.out⟩
end
end Go.Proofs.YtemohiainfllcaaGreat

/- Threads: a deed's end in one word; what is told. -/
namespace Go.Proofs.YtemohiainfllcaaGreat
open Go.RowKit Hp
attribute [local go_sem ↓] Go.wp_at_zero Go.wp_at_succ
theorem end_any (h : ThV) (v e : Int) (hn : 0 ≤ h.n ∧ h.n ≤ 4096) (hb : 0 ≤ h.b ∧ h.b ≤ 4096) (w : World) :
    Calls Tryz.prog 131 #[h.v, .int .i64 v, .int .i64 e] w fun e' w' => e' = .returned (.tuple #[(h.ended e).v, (actOf v e).val]) ∧ Below w.heap.size w w' := by
  obtain ⟨b, n, ⟨a0, a1, a2, a3, a4, a5⟩, ⟨s0, s1, s2, s3, s4, s5⟩, hl⟩ := h
  obtain ⟨n1, n2⟩ := hn
  obtain ⟨b1, b2⟩ := hb
  simp only at n1 n2 b1 b2
  by_cases e0 : e = 0
  · subst e0
    have er : ThV.ended ⟨b, n, ⟨a0, a1, a2, a3, a4, a5⟩, ⟨s0, s1, s2, s3, s4, s5⟩, hl⟩ 0 = ⟨b, n + 1, ⟨a0, a1, a2, a3, a4, a5⟩, ⟨s0, s1, s2, s3, s4, s5⟩, hl⟩ := by unfold ThV.ended; rfl
    have ea : actOf v 0 = ⟨2, 0, v⟩ := rfl
    rw [er, ea]
    exact end_zero b n a0 a1 a2 a3 a4 a5 s0 s1 s2 s3 s4 s5 hl v w n1 n2
  have ea : actOf v e = ⟨2, e, 0⟩ := by unfold actOf; rw [if_neg e0]
  have f0 : (e == 0) = false := by rw [beq_eq_false_iff_ne]; exact e0
  rw [ea]
  by_cases e1 : e = 141
  · have er : ThV.ended ⟨b, n, ⟨a0, a1, a2, a3, a4, a5⟩, ⟨s0, s1, s2, s3, s4, s5⟩, hl⟩ e = ⟨b, 0, ⟨s0, s1, s2, s3, s4, s5⟩, ⟨s0, s1, s2, s3, s4, s5⟩, false⟩ := by unfold ThV.ended; rw [if_pos (.inl e1)]; rfl
    rw [er]
    exact end_back1 b n a0 a1 a2 a3 a4 a5 s0 s1 s2 s3 s4 s5 hl v e w f0 (by rw [beq_iff_eq]; exact e1)
  have f1 : (e == 141) = false := by rw [beq_eq_false_iff_ne]; exact e1
  by_cases e2 : e = 140
  · have er : ThV.ended ⟨b, n, ⟨a0, a1, a2, a3, a4, a5⟩, ⟨s0, s1, s2, s3, s4, s5⟩, hl⟩ e = ⟨b, 0, ⟨s0, s1, s2, s3, s4, s5⟩, ⟨s0, s1, s2, s3, s4, s5⟩, false⟩ := by unfold ThV.ended; rw [if_pos (.inr e2)]; rfl
    rw [er]
    exact end_back2 b n a0 a1 a2 a3 a4 a5 s0 s1 s2 s3 s4 s5 hl v e w f0 f1 (by rw [beq_iff_eq]; exact e2)
  have f2 : (e == 140) = false := by rw [beq_eq_false_iff_ne]; exact e2
  have e12 : ¬ (e = 141 ∨ e = 140) := fun h => h.elim e1 e2
  by_cases e3 : e = 100
  · have er : ThV.ended ⟨b, n, ⟨a0, a1, a2, a3, a4, a5⟩, ⟨s0, s1, s2, s3, s4, s5⟩, hl⟩ e = ⟨b + 1, 0, ⟨s0, s1, s2, s3, s4, s5⟩, ⟨s0, s1, s2, s3, s4, s5⟩, false⟩ := by unfold ThV.ended; rw [if_neg e12, if_pos (.inl e3)]; rfl
    rw [er]
    exact end_bump1 b n a0 a1 a2 a3 a4 a5 s0 s1 s2 s3 s4 s5 hl v e w b1 b2 f0 f1 f2 (by rw [beq_iff_eq]; exact e3)
  have f3 : (e == 100) = false := by rw [beq_eq_false_iff_ne]; exact e3
  by_cases e4 : e = 130
  · have er : ThV.ended ⟨b, n, ⟨a0, a1, a2, a3, a4, a5⟩, ⟨s0, s1, s2, s3, s4, s5⟩, hl⟩ e = ⟨b + 1, 0, ⟨s0, s1, s2, s3, s4, s5⟩, ⟨s0, s1, s2, s3, s4, s5⟩, false⟩ := by unfold ThV.ended; rw [if_neg e12, if_pos (.inr e4)]; rfl
    rw [er]
    exact end_bump2 b n a0 a1 a2 a3 a4 a5 s0 s1 s2 s3 s4 s5 hl v e w b1 b2 f0 f1 f2 f3 (by rw [beq_iff_eq]; exact e4)
  have f4 : (e == 130) = false := by rw [beq_eq_false_iff_ne]; exact e4
  have er : ThV.ended ⟨b, n, ⟨a0, a1, a2, a3, a4, a5⟩, ⟨s0, s1, s2, s3, s4, s5⟩, hl⟩ e = ⟨b, n + 1, ⟨a0, a1, a2, a3, a4, a5⟩, ⟨s0, s1, s2, s3, s4, s5⟩, hl⟩ := by unfold ThV.ended; rw [if_neg e12, if_neg (fun h => h.elim e3 e4)]
  rw [er]
  exact end_plain b n a0 a1 a2 a3 a4 a5 s0 s1 s2 s3 s4 s5 hl v e w n1 n2 f0 f1 f2 f3 f4
/-- A block that holds a thread, loaded whole. -/
def thA (h : ThV) : Array Value := h.cells
set_option maxRecDepth 100000 in
set_option maxHeartbeats 2000000 in
theorem told_any (h : ThV) (v e : Int) (hn : 0 ≤ h.n ∧ h.n ≤ 4096) (hb : 0 ≤ h.b ∧ h.b ≤ 4096) (w : World) {b7 : Nat} (j7 : Blk w b7 h.cells 57) :
    Calls Tryz.prog 130 #[.int .i64 v, .int .i64 e, ptr b7] w fun e' w' => e' = .returned (.tuple #[(h.ended e).v, (actOf v e).val]) ∧ Below w.heap.size w w' := by
  have HE := Lib.hid (fun w => end_any h v e hn hb w)
  generalize h.ended e = h' at *
  generalize actOf v e = a' at *
  clear hn hb
  obtain ⟨b, n, ⟨a0, a1, a2, a3, a4, a5⟩, ⟨s0, s1, s2, s3, s4, s5⟩, hl⟩ := h
  obtain ⟨b', n', ⟨r0, r1, r2, r3, r4, r5⟩, ⟨p0, p1, p2, p3, p4, p5⟩, hl'⟩ := h'
  obtain ⟨ak, ae, av⟩ := a'
  have c7 := j7.cell
  unfold ThV.cells at c7
  have l7 := j7.lt
  have HE := Lib.hid (fun w => show Calls Tryz.prog 131 #[.agg #[.int .i64 b, .int .i64 n, .int .i64 a0, .int .i64 a1, .int .i64 a2, .int .i64 a3, .int .i64 a4, .int .i64 a5, .int .i64 s0, .int .i64 s1, .int .i64 s2, .int .i64 s3, .int .i64 s4, .int .i64 s5, .bool hl], .int .i64 v, .int .i64 e] w fun e' w' => e' = .returned (.tuple #[.agg #[.int .i64 b', .int .i64 n', .int .i64 r0, .int .i64 r1, .int .i64 r2, .int .i64 r3, .int .i64 r4, .int .i64 r5, .int .i64 p0, .int .i64 p1, .int .i64 p2, .int .i64 p3, .int .i64 p4, .int .i64 p5, .bool hl'], .agg #[.int .i64 ak, .int .i64 ae, .int .i64 av]]) ∧ Below w.heap.size w w' from HE.out w)
  clear j7
  go_enter Tryz.func130, Tryz.ntmps130
  go_wp2_with fail
  refine (HE.out _).mono ?_
  rintro e1 w1 ⟨rfl, hb1⟩
  have j5 := (Blk.new_at w (ThV.cells ⟨0, 0, ⟨0, 0, 0, 0, 0, 0⟩, ⟨0, 0, 0, 0, 0, 0⟩, false⟩) _ 57 w.heap.size rfl rfl).alloc (.cells #[.int .i64 0, .int .i64 0, .int .i64 0] 60)
  have j6 : Blk _ (w.heap.size + 1) zAct 60 := Blk.new_at (w.alloc (.cells (ThV.cells ⟨0, 0, ⟨0, 0, 0, 0, 0, 0⟩, ⟨0, 0, 0, 0, 0, 0⟩, false⟩) 57)) #[.int .i64 0, .int .i64 0, .int .i64 0] zAct 60 (w.heap.size + 1) (by simp) rfl
  replace j5 := j5.below hb1 j5.lt
  replace j6 := j6.below hb1 j6.lt
  have hb2 := btrans (balloc (balloc (bsame w) _) _) hb1
  have c5 := j5.cell
  unfold ThV.cells at c5
  have z5 := j5.free
  have l5 := j5.lt
  have c6 := j6.cell
  unfold zAct at c6
  have z6 := j6.free
  have l6 := j6.lt
  have hres := Lib.hid (res_blk j5 j6 (by omega) ⟨b', n', ⟨r0, r1, r2, r3, r4, r5⟩, ⟨p0, p1, p2, p3, p4, p5⟩, hl'⟩ ⟨ak, ae, av⟩)
  have hrb := Lib.hid (res_below hb2 (b6 := w.heap.size) (b7 := w.heap.size + 1) (by omega) (by omega) ⟨b', n', ⟨r0, r1, r2, r3, r4, r5⟩, ⟨p0, p1, p2, p3, p4, p5⟩, hl'⟩ ⟨ak, ae, av⟩)
  clear hb1 hb2 j5 j6 c7 l7 HE
  go_wp2_with fail
  change bodyPost _ _ _ _ _ (resW w1 (w.heap.size) (w.heap.size + 1) ⟨b', n', ⟨r0, r1, r2, r3, r4, r5⟩, ⟨p0, p1, p2, p3, p4, p5⟩, hl'⟩ ⟨ak, ae, av⟩)
  generalize resW w1 (w.heap.size) (w.heap.size + 1) ⟨b', n', ⟨r0, r1, r2, r3, r4, r5⟩, ⟨p0, p1, p2, p3, p4, p5⟩, hl'⟩ ⟨ak, ae, av⟩ = X at *
  exact bodyPost_ret (results_two _ _ 5 6 rfl rfl rfl hres.out.1 hres.out.2) rfl ⟨rfl, hrb.out⟩
end Go.Proofs.YtemohiainfllcaaGreat

/- Threads: what a deed led to. -/
namespace Go.Proofs.YtemohiainfllcaaGreat
open Go.RowKit Hp
attribute [local go_sem ↓] Go.wp_at_zero Go.wp_at_succ
def R6.get (r : R6) : Nat → Int
  | 0 => r.a0 | 1 => r.a1 | 2 => r.a2 | 3 => r.a3 | 4 => r.a4 | _ => r.a5
def R6.set (r : R6) (v : Int) : Nat → R6
  | 0 => { r with a0 := v } | 1 => { r with a1 := v } | 2 => { r with a2 := v } | 3 => { r with a3 := v } | 4 => { r with a4 := v } | _ => { r with a5 := v }
def ThV.put (h : ThV) (A : Nat) (v : Int) : ThV := { h with r := h.r.set v A }
theorem six {A : Nat} (h : A < 6) : A = 0 ∨ A = 1 ∨ A = 2 ∨ A = 3 ∨ A = 4 ∨ A = 5 := by omega
theorem put_blk {w : World} {b : Nat} {t : TypeId} {h : ThV} (j : Blk w b h.cells t) {A : Nat} (hA : A < 6) (v : Int) : Blk (w.setCell ⟨b, 2 + A, none⟩ (.int .i64 v)) b (h.put A v).cells t := by
  have e1 : ∀ x, x = (h.put A v).cells → Blk (w.setCell ⟨b, 2 + A, none⟩ (.int .i64 v)) b x t → Blk (w.setCell ⟨b, 2 + A, none⟩ (.int .i64 v)) b (h.put A v).cells t := fun x e k => by rw [← e]; exact k
  refine e1 _ ?_ (j.set (2 + A) (.int .i64 v))
  rcases six hA with rfl | rfl | rfl | rfl | rfl | rfl
  all_goals simp only [ThV.cells, ThV.put, R6.set, List.setIfInBounds_toArray, List.set_cons_zero, List.set_cons_succ, Nat.reduceAdd]
theorem reg_cell {w : World} {b : Nat} {t : TypeId} {h : ThV} (j : Blk w b h.cells t) {A : Nat} (hA : A < 6) : w.cell? ⟨b, 2 + A, none⟩ = some (.int .i64 (h.r.get A)) := by
  rw [j.cell]
  rcases six hA with rfl | rfl | rfl | rfl | rfl | rfl <;> rfl
theorem cell_set_ne {w : World} {b c i j : Nat} {v x : Value} (h : w.cell? ⟨c, j, none⟩ = some v) (hne : c ≠ b) : (w.setCell ⟨b, i, none⟩ x).cell? ⟨c, j, none⟩ = some v := by
  rw [World.cell?_of_block (w := w) (Below.heap_setCell _ _ _ _ hne)]; exact h
theorem res_stp {T : Tag → Prop} {o o' : Own} {w W : World} {b6 b7 : Nat} (h1 : Stp T o o' w W) (h6 : w.heap.size ≤ b6) (h7 : w.heap.size ≤ b7) (h : ThV) (a : ActV) : Stp T o o' w (resW W b6 b7 h a) := ((((((((((((((((((h1.setCell_new (a := ⟨b6, 0, none⟩) h6 _).setCell_new (a := ⟨b6, 1, none⟩) h6 _).setCell_new (a := ⟨b6, 2, none⟩) h6 _).setCell_new (a := ⟨b6, 3, none⟩) h6 _).setCell_new (a := ⟨b6, 4, none⟩) h6 _).setCell_new (a := ⟨b6, 5, none⟩) h6 _).setCell_new (a := ⟨b6, 6, none⟩) h6 _).setCell_new (a := ⟨b6, 7, none⟩) h6 _).setCell_new (a := ⟨b6, 8, none⟩) h6 _).setCell_new (a := ⟨b6, 9, none⟩) h6 _).setCell_new (a := ⟨b6, 10, none⟩) h6 _).setCell_new (a := ⟨b6, 11, none⟩) h6 _).setCell_new (a := ⟨b6, 12, none⟩) h6 _).setCell_new (a := ⟨b6, 13, none⟩) h6 _).setCell_new (a := ⟨b6, 14, none⟩) h6 _).setCell_new (a := ⟨b7, 0, none⟩) h7 _).setCell_new (a := ⟨b7, 1, none⟩) h7 _).setCell_new (a := ⟨b7, 2, none⟩) h7 _)
theorem Wr.set_new {b : Nat} {w W : World} (h : Wr b w W) {a : Addr} (ha : w.heap.size ≤ a.block) (v : Value) : Wr b w (W.setCell a v) :=
  ⟨h.os, h.tape, h.output, by rw [World.size_setCell]; exact h.size, fun k hk hn => (Below.heap_setCell _ _ _ _ (show k ≠ a.block by omega)).trans (h.block k hk hn)⟩
theorem Stp.wr_new {T : Tag → Prop} {o o' : Own} {b : Nat} {w W W' : World} (h : Stp T o o' w W) (k : Wr b W W') (hb : w.heap.size ≤ b) : Stp T o o' w W' :=
  ⟨k.os.trans h.os, k.tape.trans h.tape, k.output.trans h.output, Nat.le_trans h.size k.size, h.tags, fun j hj hn => (k.block j (Nat.lt_of_lt_of_le hj h.size) (by omega)).trans (h.block j hj hn)⟩
theorem res_wr {b : Nat} {w W : World} {b6 b7 : Nat} (h1 : Wr b w W) (h6 : w.heap.size ≤ b6) (h7 : w.heap.size ≤ b7) (h : ThV) (a : ActV) : Wr b w (resW W b6 b7 h a) := (Wr.set_new (Wr.set_new (Wr.set_new (Wr.set_new (Wr.set_new (Wr.set_new (Wr.set_new (Wr.set_new (Wr.set_new (Wr.set_new (Wr.set_new (Wr.set_new (Wr.set_new (Wr.set_new (Wr.set_new (Wr.set_new (Wr.set_new (Wr.set_new h1 (a := ⟨b6, 0, none⟩) h6 _) (a := ⟨b6, 1, none⟩) h6 _) (a := ⟨b6, 2, none⟩) h6 _) (a := ⟨b6, 3, none⟩) h6 _) (a := ⟨b6, 4, none⟩) h6 _) (a := ⟨b6, 5, none⟩) h6 _) (a := ⟨b6, 6, none⟩) h6 _) (a := ⟨b6, 7, none⟩) h6 _) (a := ⟨b6, 8, none⟩) h6 _) (a := ⟨b6, 9, none⟩) h6 _) (a := ⟨b6, 10, none⟩) h6 _) (a := ⟨b6, 11, none⟩) h6 _) (a := ⟨b6, 12, none⟩) h6 _) (a := ⟨b6, 13, none⟩) h6 _) (a := ⟨b6, 14, none⟩) h6 _) (a := ⟨b7, 0, none⟩) h7 _) (a := ⟨b7, 1, none⟩) h7 _) (a := ⟨b7, 2, none⟩) h7 _)
structure DeedV where
  k : Int
  A : Nat
  B : Nat
  i : Int
  n : Int
def DeedV.cells (d : DeedV) : Array Value := #[.int .i64 d.k, .int .i64 d.A, .int .i64 d.B, .int .i64 d.i, .int .i64 d.n]
def DeedV.v (d : DeedV) : Value := .agg d.cells
def ThV.led (h : ThV) (A : Nat) (p e : Int) : ThV := if e = 0 then (h.put A p).ended 0 else h.ended e
def ledA (s e : Int) : ActV := if e = 0 then actOf s 0 else actOf 0 e
def bxT (y : SLay) (t : Tag) : Prop := t = (y.l.id + 1, 0)
theorem bxT_st {y : SLay} {t : Tag} (h : bxT y t) : ¬ stTag y t := by rw [h]; exact stTag_box y
theorem StIn.bx {w w' : World} {o o' : Own} {y : SLay} {S : Stt} (h : StIn w o y S) (hs : Stp (bxT y) o o' w w') : StIn w' o' y S := h.stp hs fun j e => by
  have e : (y.l.id, j) = (y.l.id + 1, 0) := e
  injection e with e1 e2
  omega
theorem res_bx (W : World) (b6 b7 : Nat) {y : SLay} {o : Own} (h6 : bxT y (o b6)) (h7 : bxT y (o b7)) (h : ThV) (a : ActV) : Stp (bxT y) o o W (resW W b6 b7 h a) := (((((((((((((((((((Stp.refl _ o W).setCell (a := ⟨b6, 0, none⟩) h6 _).setCell (a := ⟨b6, 1, none⟩) h6 _).setCell (a := ⟨b6, 2, none⟩) h6 _).setCell (a := ⟨b6, 3, none⟩) h6 _).setCell (a := ⟨b6, 4, none⟩) h6 _).setCell (a := ⟨b6, 5, none⟩) h6 _).setCell (a := ⟨b6, 6, none⟩) h6 _).setCell (a := ⟨b6, 7, none⟩) h6 _).setCell (a := ⟨b6, 8, none⟩) h6 _).setCell (a := ⟨b6, 9, none⟩) h6 _).setCell (a := ⟨b6, 10, none⟩) h6 _).setCell (a := ⟨b6, 11, none⟩) h6 _).setCell (a := ⟨b6, 12, none⟩) h6 _).setCell (a := ⟨b6, 13, none⟩) h6 _).setCell (a := ⟨b6, 14, none⟩) h6 _).setCell (a := ⟨b7, 0, none⟩) h7 _).setCell (a := ⟨b7, 1, none⟩) h7 _).setCell (a := ⟨b7, 2, none⟩) h7 _)
section
variable {w w' : World} {o o' : Own} {y : SLay} {S : Stt}
set_option maxRecDepth 100000 in
set_option maxHeartbeats 2000000 in
theorem led_no (h : ThV) (p e : Int) (he : e ≠ 0) (hn : 0 ≤ h.n ∧ h.n ≤ 4096) (hb : 0 ≤ h.b ∧ h.b ≤ 4096) (w : World) {b10 b7 b6 b4 : Nat}
    (j10 : Blk w b10 #[.func (.func 130) #[] #[ptr b7]] 196) (j7 : Blk w b7 h.cells 57) :
    Calls Tryz.prog 132 #[.int .i64 p, .int .i64 e, ptr b10, ptr b7, ptr b6, ptr b4] w fun e' w' => e' = .returned (.tuple #[(h.ended e).v, (actOf 0 e).val]) ∧ Below w.heap.size w w' := by
  have HT := Lib.hid (fun W (hW : Below w.heap.size w W) => told_any h 0 e hn hb W (j7.below hW j7.lt))
  have heb : (e != 0) = true := by rw [bne_iff_ne]; exact he
  have c10 := j10.cell
  have l10 := j10.lt
  generalize h.ended e = h' at *
  generalize actOf 0 e = a' at *
  clear hn hb he j7
  obtain ⟨b', n', ⟨r0, r1, r2, r3, r4, r5⟩, ⟨p0, p1, p2, p3, p4, p5⟩, hl'⟩ := h'
  obtain ⟨ak, ae, av⟩ := a'
  have HT := Lib.hid (fun W hW => show Calls Tryz.prog 130 #[.int .i64 0, .int .i64 e, ptr b7] W fun e' w' => e' = .returned (.tuple #[.agg #[.int .i64 b', .int .i64 n', .int .i64 r0, .int .i64 r1, .int .i64 r2, .int .i64 r3, .int .i64 r4, .int .i64 r5, .int .i64 p0, .int .i64 p1, .int .i64 p2, .int .i64 p3, .int .i64 p4, .int .i64 p5, .bool hl'], .agg #[.int .i64 ak, .int .i64 ae, .int .i64 av]]) ∧ Below W.heap.size W w' from HT.out W hW)
  clear j10
  go_enter Tryz.func132, Tryz.ntmps132
  go_wp2_with fail
  refine (HT.out _ (balloc (balloc (bsame w) _) _)).mono ?_
  rintro e1 w1 ⟨rfl, hb1⟩
  have j5 := (Blk.new_at w (ThV.cells ⟨0, 0, ⟨0, 0, 0, 0, 0, 0⟩, ⟨0, 0, 0, 0, 0, 0⟩, false⟩) _ 57 w.heap.size rfl rfl).alloc (.cells #[.int .i64 0, .int .i64 0, .int .i64 0] 60)
  have j6 : Blk _ (w.heap.size + 1) zAct 60 := Blk.new_at (w.alloc (.cells (ThV.cells ⟨0, 0, ⟨0, 0, 0, 0, 0, 0⟩, ⟨0, 0, 0, 0, 0, 0⟩, false⟩) 57)) #[.int .i64 0, .int .i64 0, .int .i64 0] zAct 60 (w.heap.size + 1) (by simp) rfl
  replace j5 := j5.below hb1 j5.lt
  replace j6 := j6.below hb1 j6.lt
  have hb2 := btrans (balloc (balloc (bsame w) _) _) hb1
  have c5 := j5.cell
  unfold ThV.cells at c5
  have z5 := j5.free
  have l5 := j5.lt
  have c6 := j6.cell
  unfold zAct at c6
  have z6 := j6.free
  have l6 := j6.lt
  have hres := Lib.hid (res_blk j5 j6 (by omega) ⟨b', n', ⟨r0, r1, r2, r3, r4, r5⟩, ⟨p0, p1, p2, p3, p4, p5⟩, hl'⟩ ⟨ak, ae, av⟩)
  have hrb := Lib.hid (res_below hb2 (b6 := w.heap.size) (b7 := w.heap.size + 1) (by omega) (by omega) ⟨b', n', ⟨r0, r1, r2, r3, r4, r5⟩, ⟨p0, p1, p2, p3, p4, p5⟩, hl'⟩ ⟨ak, ae, av⟩)
  clear hb1 hb2 j5 j6 c10 l10 HT
  go_wp2_with fail
  change bodyPost _ _ _ _ _ (resW w1 (w.heap.size) (w.heap.size + 1) ⟨b', n', ⟨r0, r1, r2, r3, r4, r5⟩, ⟨p0, p1, p2, p3, p4, p5⟩, hl'⟩ ⟨ak, ae, av⟩)
  generalize resW w1 (w.heap.size) (w.heap.size + 1) ⟨b', n', ⟨r0, r1, r2, r3, r4, r5⟩, ⟨p0, p1, p2, p3, p4, p5⟩, hl'⟩ ⟨ak, ae, av⟩ = X at *
  exact bodyPost_ret (results_two _ _ 8 9 rfl rfl rfl hres.out.1 hres.out.2) rfl ⟨rfl, hrb.out⟩
set_option maxRecDepth 100000 in
set_option maxHeartbeats 2000000 in
theorem led_yes (hS : StIn w o y S) (hk : S.ok) (h : ThV) (d : DeedV) {p : Nat} (hp : Plc S p) (hA : d.A < 6) (hn : 0 ≤ h.n ∧ h.n ≤ 4096) (hb : 0 ≤ h.b ∧ h.b ≤ 4096) {b10 b7 b6 b4 : Nat}
    (j10 : Blk w b10 #[.func (.func 130) #[] #[ptr b7]] 196) (j7 : Blk w b7 h.cells 57) (j6 : Blk w b6 d.cells 52) (j4 : Blk w b4 #[ptr y.sb] 23) (t7 : bxT y (o b7)) (n10 : b10 ≠ b7) (n4 : b4 ≠ b7) :
    Calls Tryz.prog 132 #[.int .i64 p, .int .i64 0, ptr b10, ptr b7, ptr b6, ptr b4] w fun e' w' => e' = .returned (.tuple #[((h.put d.A p).ended 0).v, (actOf (S.ser p) 0).val]) ∧ Wr b7 w w' := by
  have hAI : (d.A : Int) < 6 := by omega
  have c7 := j7.cell
  have l7 := j7.lt
  have z7 := j7.free
  have c6 := j6.cell
  unfold DeedV.cells at c6
  have l6 := j6.lt
  have hr := reg_cell j7 hA
  clear c7
  obtain ⟨h', hh'⟩ : ∃ h', h' = (h.put d.A p).ended 0 := ⟨_, rfl⟩
  obtain ⟨a', ha'⟩ : ∃ a', a' = actOf (S.ser p) 0 := ⟨_, rfl⟩
  rw [← hh', ← ha']
  obtain ⟨b', n', ⟨r0, r1, r2, r3, r4, r5⟩, ⟨p0, p1, p2, p3, p4, p5⟩, hl'⟩ := h'
  obtain ⟨ak, ae, av⟩ := a'
  go_enter Tryz.func132, Tryz.ntmps132
  go_upto_region 4 with fail
  obtain ⟨W, hW⟩ : ∃ W : World, W = ((w.setCell ⟨b7, 2 + d.A, none⟩ (.int .i64 p)).alloc (.cells #[.int .i64 0, .int .i64 0, .int .i64 0, .int .i64 0, .int .i64 0, .int .i64 0, .int .i64 0, .int .i64 0, .int .i64 0, .int .i64 0, .int .i64 0, .int .i64 0, .int .i64 0, .int .i64 0, .bool false] 57)).alloc (.cells #[.int .i64 0, .int .i64 0, .int .i64 0] 60) := ⟨_, rfl⟩
  rw [← hW]
  have hsW : Wr b7 w W := by rw [hW]; exact (Wr.set b7 w _ _).below_then (balloc (balloc (bsame _) _) _)
  have hSW := hS.bx (Stp.of_wr hsW t7)
  have i7 : Blk W b7 (h.put d.A p).cells 57 := by rw [hW]; exact ((put_blk j7 hA p).alloc _).alloc _
  have i10 : Blk W b10 #[.func (.func 130) #[] #[ptr b7]] 196 := by rw [hW]; exact ((j10.set_other (a := ⟨b7, 2 + d.A, none⟩) n10 _).alloc _).alloc _
  have i4 : Blk W b4 #[ptr y.sb] 23 := by rw [hW]; exact ((j4.set_other (a := ⟨b7, 2 + d.A, none⟩) n4 _).alloc _).alloc _
  have i8 : Blk W w.heap.size #[.int .i64 0, .int .i64 0, .int .i64 0, .int .i64 0, .int .i64 0, .int .i64 0, .int .i64 0, .int .i64 0, .int .i64 0, .int .i64 0, .int .i64 0, .int .i64 0, .int .i64 0, .int .i64 0, .bool false] 57 := by rw [hW]; exact (Blk.new_at _ _ _ _ _ (by simp) rfl).alloc _
  have i9 : Blk W (w.heap.size + 1) #[.int .i64 0, .int .i64 0, .int .i64 0] 60 := by rw [hW]; exact Blk.new_at _ _ _ _ _ (by simp) rfl
  have HSer := Lib.hid (fun X (hX : Below W.heap.size W X) => tserial_any (hSW.below hX) hk hp)
  have HT := Lib.hid (fun X (hX : Below W.heap.size W X) => told_any (h.put d.A p) (S.ser p) 0 hn hb X (i7.below hX i7.lt))
  have HSW := Lib.hid hsW
  rw [← hh', ← ha'] at HT
  generalize S.ser p = sp at *
  have HT := Lib.hid (fun X hX => show Calls Tryz.prog 130 #[.int .i64 sp, .int .i64 0, ptr b7] X fun e' w' => e' = .returned (.tuple #[.agg #[.int .i64 b', .int .i64 n', .int .i64 r0, .int .i64 r1, .int .i64 r2, .int .i64 r3, .int .i64 r4, .int .i64 r5, .int .i64 p0, .int .i64 p1, .int .i64 p2, .int .i64 p3, .int .i64 p4, .int .i64 p5, .bool hl'], .agg #[.int .i64 ak, .int .i64 ae, .int .i64 av]]) ∧ Below X.heap.size X w' from HT.out X hX)
  have N10 := Lib.hid (show b10 ≠ w.heap.size ∧ b10 ≠ w.heap.size + 1 ∧ b4 ≠ w.heap.size ∧ b4 ≠ w.heap.size + 1 from by have := j10.lt; have := j4.lt; omega)
  have H8 := Lib.hid i8
  have H9 := Lib.hid i9
  have H10 := Lib.hid i10
  have H4 := Lib.hid i4
  have c10 := i10.cell 0
  have c4 := i4.cell 0
  simp at c10 c4
  clear hh' ha' hW hsW hSW i7 i10 i4 i8 i9 hS hk hp hn hb j10 j7 j6 j4 t7 n10 n4 l7 z7 c6 l6 hr
  go_region_held3 (fun w' => w'.cell? ⟨b10, 0, none⟩ = some (.func (.func 130) #[] #[ptr b7]) ∧ w'.cell? ⟨b4, 0, none⟩ = some (ptr y.sb)) (first | (refine ⟨?_, ?_⟩ <;> with_reducible assumption) | go_keep | (refine ⟨?_, ?_⟩ <;> (repeat (refine cell_set_ne ?_ (by with_reducible assumption))) <;> with_reducible assumption)) (first
    | (go_at_call 133; refine (HSer.out _ (bdrew (bsame W))).mono ?_; rintro e3 w3 ⟨rfl, hb3⟩; have hb3 := btrans (bdrew (bsame W)) hb3; have d10 := (H10.out.below hb3 H10.out.lt).cell 0; have d4 := (H4.out.below hb3 H4.out.lt).cell 0; simp at d10 d4)
    | (go_at_call 130; refine (HT.out _ hb3).mono ?_; rintro e5 w5 ⟨rfl, hb5⟩; have hb5 := btrans hb3 hb5; have f10 := (H10.out.below hb5 H10.out.lt).cell 0; have f4 := (H4.out.below hb5 H4.out.lt).cell 0; simp at f10 f4; have k8 := H8.out.below hb5 H8.out.lt; have k9 := H9.out.below hb5 H9.out.lt; have c8 := k8.cell; have z8 := k8.free; have l8 := k8.lt; have c9 := k9.cell; have z9 := k9.free; have l9 := k9.lt; have hres := Lib.hid (res_blk k8 k9 (by omega) ⟨b', n', ⟨r0, r1, r2, r3, r4, r5⟩, ⟨p0, p1, p2, p3, p4, p5⟩, hl'⟩ ⟨ak, ae, av⟩); clear k8 k9; have m10 : b10 ≠ w.heap.size := N10.out.1; have m10' : b10 ≠ w.heap.size + 1 := N10.out.2.1; have m4 : b4 ≠ w.heap.size := N10.out.2.2.1; have m4' : b4 ≠ w.heap.size + 1 := N10.out.2.2.2)
    | fail)
  go_wp2_with fail
  change bodyPost _ _ _ _ _ (resW w5 (w.heap.size) (w.heap.size + 1) ⟨b', n', ⟨r0, r1, r2, r3, r4, r5⟩, ⟨p0, p1, p2, p3, p4, p5⟩, hl'⟩ ⟨ak, ae, av⟩)
  have hrs := Lib.hid (res_wr (HSW.out.below_then hb5) (b6 := w.heap.size) (b7 := w.heap.size + 1) (by omega) (by omega) ⟨b', n', ⟨r0, r1, r2, r3, r4, r5⟩, ⟨p0, p1, p2, p3, p4, p5⟩, hl'⟩ ⟨ak, ae, av⟩)
  generalize resW w5 (w.heap.size) (w.heap.size + 1) ⟨b', n', ⟨r0, r1, r2, r3, r4, r5⟩, ⟨p0, p1, p2, p3, p4, p5⟩, hl'⟩ ⟨ak, ae, av⟩ = X at *
  exact bodyPost_ret (results_two _ _ 8 9 rfl rfl rfl hres.out.1 hres.out.2) rfl ⟨rfl, hrs.out⟩
theorem led_any (R : Res) (hS : StIn w o y R.S) (hk : R.S.ok) (h : ThV) (d : DeedV) (hp : R.e = 0 → ∃ p : Nat, R.v = p ∧ Plc R.S p) (hA : d.A < 6) (hn : 0 ≤ h.n ∧ h.n ≤ 4096) (hb : 0 ≤ h.b ∧ h.b ≤ 4096) {b10 b7 b6 b4 : Nat}
    (j10 : Blk w b10 #[.func (.func 130) #[] #[ptr b7]] 196) (j7 : Blk w b7 h.cells 57) (j6 : Blk w b6 d.cells 52) (j4 : Blk w b4 #[ptr y.sb] 23) (t7 : bxT y (o b7)) (n10 : b10 ≠ b7) (n4 : b4 ≠ b7) :
    Calls Tryz.prog 132 #[.int .i64 R.v, .int .i64 R.e, ptr b10, ptr b7, ptr b6, ptr b4] w fun e' w' => e' = .returned (.tuple #[(h.led d.A R.v R.e).v, (ledA (R.S.ser R.v.toNat) R.e).val]) ∧ Wr b7 w w' := by
  obtain ⟨S, v, e⟩ := R
  simp only at hS hk hp ⊢
  by_cases he : e = 0
  · obtain ⟨p, rfl, hq⟩ := hp he
    subst he
    exact led_yes hS hk h d hq hA hn hb j10 j7 j6 j4 t7 n10 n4
  · have e1 : h.led d.A v e = h.ended e := by unfold ThV.led; rw [if_neg he]
    have e2 : ledA (S.ser v.toNat) e = actOf 0 e := by unfold ledA; rw [if_neg he]
    rw [e1, e2]
    refine (led_no h v e he hn hb w j10 j7).mono ?_
    rintro e' w' ⟨rfl, h1⟩
    exact ⟨rfl, Wr.of_below h1⟩
end
end Go.Proofs.YtemohiainfllcaaGreat
