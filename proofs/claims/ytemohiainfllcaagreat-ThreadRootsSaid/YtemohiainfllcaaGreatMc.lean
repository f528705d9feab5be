/- Threads: what a deed's end makes of one (printed by tools/gen_th.py). -/
import Derived.Test.YtemohiainfllcaaGreatMb
namespace Go.Proofs.YtemohiainfllcaaGreat
open Go.RowKit Hp
attribute [local go_sem ↓] Go.wp_at_zero Go.wp_at_succ
/-- A thread behind a deed that told v and e. -/
def ThV.ended (h : ThV) (e : Int) : ThV :=
  if e = 141 ∨ e = 140 then h.back else if e = 100 ∨ e = 130 then { h.back with b := h.b + 1 } else { h with n := h.n + 1 }
def actOf (v e : Int) : ActV := ⟨2, e, if e = 0 then v else 0⟩
section
variable (b n a0 a1 a2 a3 a4 a5 s0 s1 s2 s3 s4 s5 : Int) (hl : Bool) (v e : Int) (w : World)
set_option maxRecDepth 100000 in
set_option maxHeartbeats 2000000 in
theorem end_zero (n1 : 0 ≤ n) (n2 : n ≤ 4096) : Calls Tryz.prog 131 #[.agg #[.int .i64 b, .int .i64 n, .int .i64 a0, .int .i64 a1, .int .i64 a2, .int .i64 a3, .int .i64 a4, .int .i64 a5, .int .i64 s0, .int .i64 s1, .int .i64 s2, .int .i64 s3, .int .i64 s4, .int .i64 s5, .bool hl], .int .i64 v, .int .i64 0] w fun e' w' => e' = .returned (.tuple #[ThV.v ⟨b, (n + 1), ⟨a0, a1, a2, a3, a4, a5⟩, ⟨s0, s1, s2, s3, s4, s5⟩, hl⟩, ActV.val ⟨2, 0, v⟩]) ∧ Below w.heap.size w w' := by
  go_enter Tryz.func131, Tryz.ntmps131
  go_upto_region 14 with fail
  obtain ⟨W, hW⟩ : ∃ W : World, W = ((((w.alloc (.cells #[.int .i64 b, .int .i64 (n + 1), .int .i64 a0, .int .i64 a1, .int .i64 a2, .int .i64 a3, .int .i64 a4, .int .i64 a5, .int .i64 s0, .int .i64 s1, .int .i64 s2, .int .i64 s3, .int .i64 s4, .int .i64 s5, .bool hl] 57)).alloc (.cells #[.int .i64 0, .int .i64 0, .int .i64 0, .int .i64 0, .int .i64 0, .int .i64 0, .int .i64 0, .int .i64 0, .int .i64 0, .int .i64 0, .int .i64 0, .int .i64 0, .int .i64 0, .int .i64 0, .bool false] 57)).alloc (.cells #[.int .i64 0, .int .i64 0, .int .i64 0] 60)).alloc (.cells #[.int .i64 2, .int .i64 0, .int .i64 v] 60)) := ⟨_, rfl⟩
  rw [← hW]
  have j3 : Blk W w.heap.size #[.int .i64 b, .int .i64 (n + 1), .int .i64 a0, .int .i64 a1, .int .i64 a2, .int .i64 a3, .int .i64 a4, .int .i64 a5, .int .i64 s0, .int .i64 s1, .int .i64 s2, .int .i64 s3, .int .i64 s4, .int .i64 s5, .bool hl] 57 := by rw [hW]; exact (((Blk.new w _ _).alloc _).alloc _).alloc _
  have j6 : Blk W (w.heap.size + 1) #[.int .i64 0, .int .i64 0, .int .i64 0, .int .i64 0, .int .i64 0, .int .i64 0, .int .i64 0, .int .i64 0, .int .i64 0, .int .i64 0, .int .i64 0, .int .i64 0, .int .i64 0, .int .i64 0, .bool false] 57 := by rw [hW]; exact ((Blk.new_at _ _ _ _ _ (by simp) rfl).alloc _).alloc _
  have j7 : Blk W (w.heap.size + 1 + 1) #[.int .i64 0, .int .i64 0, .int .i64 0] 60 := by rw [hW]; exact (Blk.new_at _ _ _ _ _ (by simp) rfl).alloc _
  have j8 : Blk W (w.heap.size + 1 + 1 + 1) #[.int .i64 2, .int .i64 0, .int .i64 v] 60 := by rw [hW]; exact Blk.new_at _ _ _ _ _ (by simp) rfl
  have hbW : Below w.heap.size w W := by rw [hW]; exact balloc (balloc (balloc (balloc (bsame w) _) _) _) _
  clear hW
  have c3 := j3.cell
  have c6 := j6.cell
  have z6 := j6.free
  have l6 := j6.lt
  have c7 := j7.cell
  have z7 := j7.free
  have l7 := j7.lt
  have c8 := j8.cell
  have hres := Lib.hid (res_blk (t6 := 57) (t7 := 60) j6 j7 (by omega) ⟨b, (n + 1), ⟨a0, a1, a2, a3, a4, a5⟩, ⟨s0, s1, s2, s3, s4, s5⟩, hl⟩ ⟨2, 0, v⟩)
  have hrb := Lib.hid (res_below hbW (b6 := w.heap.size + 1) (b7 := w.heap.size + 1 + 1) (by omega) (by omega) ⟨b, (n + 1), ⟨a0, a1, a2, a3, a4, a5⟩, ⟨s0, s1, s2, s3, s4, s5⟩, hl⟩ ⟨2, 0, v⟩)
  clear j3 j6 j7 j8 hbW
  go_region
  all_goals
    go_wp2_with fail
    change bodyPost _ _ _ _ _ (resW W (w.heap.size + 1) (w.heap.size + 1 + 1) ⟨b, (n + 1), ⟨a0, a1, a2, a3, a4, a5⟩, ⟨s0, s1, s2, s3, s4, s5⟩, hl⟩ ⟨2, 0, v⟩).drew
    generalize resW W (w.heap.size + 1) (w.heap.size + 1 + 1) ⟨b, (n + 1), ⟨a0, a1, a2, a3, a4, a5⟩, ⟨s0, s1, s2, s3, s4, s5⟩, hl⟩ ⟨2, 0, v⟩ = X at *
    exact bodyPost_ret (results_two _ _ 6 7 rfl rfl rfl (drewB hres.out.1) (drewB hres.out.2)) rfl ⟨rfl, bdrew hrb.out⟩
set_option maxRecDepth 100000 in
set_option maxHeartbeats 2000000 in
theorem end_plain (n1 : 0 ≤ n) (n2 : n ≤ 4096) (f0 : (e == 0) = false) (f1 : (e == 141) = false) (f2 : (e == 140) = false) (f3 : (e == 100) = false) (f4 : (e == 130) = false) : Calls Tryz.prog 131 #[.agg #[.int .i64 b, .int .i64 n, .int .i64 a0, .int .i64 a1, .int .i64 a2, .int .i64 a3, .int .i64 a4, .int .i64 a5, .int .i64 s0, .int .i64 s1, .int .i64 s2, .int .i64 s3, .int .i64 s4, .int .i64 s5, .bool hl], .int .i64 v, .int .i64 e] w fun e' w' => e' = .returned (.tuple #[ThV.v ⟨b, (n + 1), ⟨a0, a1, a2, a3, a4, a5⟩, ⟨s0, s1, s2, s3, s4, s5⟩, hl⟩, ActV.val ⟨2, e, 0⟩]) ∧ Below w.heap.size w w' := by
  go_enter Tryz.func131, Tryz.ntmps131
  go_upto_region 14 with fail
  obtain ⟨W, hW⟩ : ∃ W : World, W = ((((w.alloc (.cells #[.int .i64 b, .int .i64 (n + 1), .int .i64 a0, .int .i64 a1, .int .i64 a2, .int .i64 a3, .int .i64 a4, .int .i64 a5, .int .i64 s0, .int .i64 s1, .int .i64 s2, .int .i64 s3, .int .i64 s4, .int .i64 s5, .bool hl] 57)).alloc (.cells #[.int .i64 0, .int .i64 0, .int .i64 0, .int .i64 0, .int .i64 0, .int .i64 0, .int .i64 0, .int .i64 0, .int .i64 0, .int .i64 0, .int .i64 0, .int .i64 0, .int .i64 0, .int .i64 0, .bool false] 57)).alloc (.cells #[.int .i64 0, .int .i64 0, .int .i64 0] 60)).alloc (.cells #[.int .i64 2, .int .i64 e, .int .i64 0] 60)) := ⟨_, rfl⟩
  rw [← hW]
  have j3 : Blk W w.heap.size #[.int .i64 b, .int .i64 (n + 1), .int .i64 a0, .int .i64 a1, .int .i64 a2, .int .i64 a3, .int .i64 a4, .int .i64 a5, .int .i64 s0, .int .i64 s1, .int .i64 s2, .int .i64 s3, .int .i64 s4, .int .i64 s5, .bool hl] 57 := by rw [hW]; exact (((Blk.new w _ _).alloc _).alloc _).alloc _
  have j6 : Blk W (w.heap.size + 1) #[.int .i64 0, .int .i64 0, .int .i64 0, .int .i64 0, .int .i64 0, .int .i64 0, .int .i64 0, .int .i64 0, .int .i64 0, .int .i64 0, .int .i64 0, .int .i64 0, .int .i64 0, .int .i64 0, .bool false] 57 := by rw [hW]; exact ((Blk.new_at _ _ _ _ _ (by simp) rfl).alloc _).alloc _
  have j7 : Blk W (w.heap.size + 1 + 1) #[.int .i64 0, .int .i64 0, .int .i64 0] 60 := by rw [hW]; exact (Blk.new_at _ _ _ _ _ (by simp) rfl).alloc _
  have j8 : Blk W (w.heap.size + 1 + 1 + 1) #[.int .i64 2, .int .i64 e, .int .i64 0] 60 := by rw [hW]; exact Blk.new_at _ _ _ _ _ (by simp) rfl
  have hbW : Below w.heap.size w W := by rw [hW]; exact balloc (balloc (balloc (balloc (bsame w) _) _) _) _
  clear hW
  have c3 := j3.cell
  have c6 := j6.cell
  have z6 := j6.free
  have l6 := j6.lt
  have c7 := j7.cell
  have z7 := j7.free
  have l7 := j7.lt
  have c8 := j8.cell
  have hres := Lib.hid (res_blk (t6 := 57) (t7 := 60) j6 j7 (by omega) ⟨b, (n + 1), ⟨a0, a1, a2, a3, a4, a5⟩, ⟨s0, s1, s2, s3, s4, s5⟩, hl⟩ ⟨2, e, 0⟩)
  have hrb := Lib.hid (res_below hbW (b6 := w.heap.size + 1) (b7 := w.heap.size + 1 + 1) (by omega) (by omega) ⟨b, (n + 1), ⟨a0, a1, a2, a3, a4, a5⟩, ⟨s0, s1, s2, s3, s4, s5⟩, hl⟩ ⟨2, e, 0⟩)
  clear j3 j6 j7 j8 hbW
  go_region
  all_goals
    go_wp2_with fail
    change bodyPost _ _ _ _ _ (resW W (w.heap.size + 1) (w.heap.size + 1 + 1) ⟨b, (n + 1), ⟨a0, a1, a2, a3, a4, a5⟩, ⟨s0, s1, s2, s3, s4, s5⟩, hl⟩ ⟨2, e, 0⟩).drew
    generalize resW W (w.heap.size + 1) (w.heap.size + 1 + 1) ⟨b, (n + 1), ⟨a0, a1, a2, a3, a4, a5⟩, ⟨s0, s1, s2, s3, s4, s5⟩, hl⟩ ⟨2, e, 0⟩ = X at *
    exact bodyPost_ret (results_two _ _ 6 7 rfl rfl rfl (drewB hres.out.1) (drewB hres.out.2)) rfl ⟨rfl, bdrew hrb.out⟩
set_option maxRecDepth 100000 in
set_option maxHeartbeats 2000000 in
theorem end_back1 (f0 : (e == 0) = false) (f1 : (e == 141) = true) : Calls Tryz.prog 131 #[.agg #[.int .i64 b, .int .i64 n, .int .i64 a0, .int .i64 a1, .int .i64 a2, .int .i64 a3, .int .i64 a4, .int .i64 a5, .int .i64 s0, .int .i64 s1, .int .i64 s2, .int .i64 s3, .int .i64 s4, .int .i64 s5, .bool hl], .int .i64 v, .int .i64 e] w fun e' w' => e' = .returned (.tuple #[ThV.v ⟨b, 0, ⟨s0, s1, s2, s3, s4, s5⟩, ⟨s0, s1, s2, s3, s4, s5⟩, false⟩, ActV.val ⟨2, e, 0⟩]) ∧ Below w.heap.size w w' := by
  have HB := Lib.hid (fun w => show Calls Tryz.prog 128 #[.agg #[.int .i64 b, .int .i64 n, .int .i64 a0, .int .i64 a1, .int .i64 a2, .int .i64 a3, .int .i64 a4, .int .i64 a5, .int .i64 s0, .int .i64 s1, .int .i64 s2, .int .i64 s3, .int .i64 s4, .int .i64 s5, .bool hl]] w fun e w' => e = .returned (.agg #[.int .i64 b, .int .i64 0, .int .i64 s0, .int .i64 s1, .int .i64 s2, .int .i64 s3, .int .i64 s4, .int .i64 s5, .int .i64 s0, .int .i64 s1, .int .i64 s2, .int .i64 s3, .int .i64 s4, .int .i64 s5, .bool false]) ∧ Below w.heap.size w w' from back_any ⟨b, n, ⟨a0, a1, a2, a3, a4, a5⟩, ⟨s0, s1, s2, s3, s4, s5⟩, hl⟩ w)
  go_enter Tryz.func131, Tryz.ntmps131
  obtain ⟨W0, hW0⟩ : ∃ W : World, W = ((((w.alloc (.cells #[.int .i64 b, .int .i64 n, .int .i64 a0, .int .i64 a1, .int .i64 a2, .int .i64 a3, .int .i64 a4, .int .i64 a5, .int .i64 s0, .int .i64 s1, .int .i64 s2, .int .i64 s3, .int .i64 s4, .int .i64 s5, .bool hl] 57)).alloc (.cells #[.int .i64 0, .int .i64 0, .int .i64 0, .int .i64 0, .int .i64 0, .int .i64 0, .int .i64 0, .int .i64 0, .int .i64 0, .int .i64 0, .int .i64 0, .int .i64 0, .int .i64 0, .int .i64 0, .bool false] 57)).alloc (.cells #[.int .i64 0, .int .i64 0, .int .i64 0] 60)).alloc (.cells #[.int .i64 2, .int .i64 e, .int .i64 0] 60)) := ⟨_, rfl⟩
  have j3 : Blk W0 w.heap.size #[.int .i64 b, .int .i64 n, .int .i64 a0, .int .i64 a1, .int .i64 a2, .int .i64 a3, .int .i64 a4, .int .i64 a5, .int .i64 s0, .int .i64 s1, .int .i64 s2, .int .i64 s3, .int .i64 s4, .int .i64 s5, .bool hl] 57 := by rw [hW0]; exact (((Blk.new w _ _).alloc _).alloc _).alloc _
  have j6 : Blk W0 (w.heap.size + 1) #[.int .i64 0, .int .i64 0, .int .i64 0, .int .i64 0, .int .i64 0, .int .i64 0, .int .i64 0, .int .i64 0, .int .i64 0, .int .i64 0, .int .i64 0, .int .i64 0, .int .i64 0, .int .i64 0, .bool false] 57 := by rw [hW0]; exact ((Blk.new_at _ _ _ _ _ (by simp) rfl).alloc _).alloc _
  have j7 : Blk W0 (w.heap.size + 1 + 1) #[.int .i64 0, .int .i64 0, .int .i64 0] 60 := by rw [hW0]; exact (Blk.new_at _ _ _ _ _ (by simp) rfl).alloc _
  have j8 : Blk W0 (w.heap.size + 1 + 1 + 1) #[.int .i64 2, .int .i64 e, .int .i64 0] 60 := by rw [hW0]; exact Blk.new_at _ _ _ _ _ (by simp) rfl
  have hbW : Below w.heap.size w W0 := by rw [hW0]; exact balloc (balloc (balloc (balloc (bsame w) _) _) _) _
  go_wp2_with fail
  rw [← hW0]
  clear hW0
  refine (HB.out _).mono ?_
  rintro e1 W1 ⟨rfl, hb1⟩
  replace j3 := j3.below hb1 j3.lt
  replace j6 := j6.below hb1 j6.lt
  replace j7 := j7.below hb1 j7.lt
  replace j8 := j8.below hb1 j8.lt
  replace hbW := btrans hbW hb1
  clear hb1 HB
  have c3 := j3.cell
  have z3 := j3.free
  have l3 := j3.lt
  go_upto_region 14 with fail
  clear c3 z3 l3
  obtain ⟨W, hW⟩ : ∃ W : World, W = thW W1 w.heap.size ⟨b, 0, ⟨s0, s1, s2, s3, s4, s5⟩, ⟨s0, s1, s2, s3, s4, s5⟩, false⟩ := ⟨_, rfl⟩
  change Code.wp _ _ _ _ (thW W1 w.heap.size ⟨b, 0, ⟨s0, s1, s2, s3, s4, s5⟩, ⟨s0, s1, s2, s3, s4, s5⟩, false⟩)
  rw [← hW]
  have k3 : Blk W w.heap.size #[.int .i64 b, .int .i64 0, .int .i64 s0, .int .i64 s1, .int .i64 s2, .int .i64 s3, .int .i64 s4, .int .i64 s5, .int .i64 s0, .int .i64 s1, .int .i64 s2, .int .i64 s3, .int .i64 s4, .int .i64 s5, .bool false] 57 := by rw [hW]; exact (thW_blk (g := ⟨b, n, ⟨a0, a1, a2, a3, a4, a5⟩, ⟨s0, s1, s2, s3, s4, s5⟩, hl⟩) j3 ⟨b, 0, ⟨s0, s1, s2, s3, s4, s5⟩, ⟨s0, s1, s2, s3, s4, s5⟩, false⟩)
  have k6 : Blk W (w.heap.size + 1) #[.int .i64 0, .int .i64 0, .int .i64 0, .int .i64 0, .int .i64 0, .int .i64 0, .int .i64 0, .int .i64 0, .int .i64 0, .int .i64 0, .int .i64 0, .int .i64 0, .int .i64 0, .int .i64 0, .bool false] 57 := by rw [hW]; exact (thW_other j6 (by omega) _)
  have k7 : Blk W (w.heap.size + 1 + 1) #[.int .i64 0, .int .i64 0, .int .i64 0] 60 := by rw [hW]; exact (thW_other j7 (by omega) _)
  have k8 : Blk W (w.heap.size + 1 + 1 + 1) #[.int .i64 2, .int .i64 e, .int .i64 0] 60 := by rw [hW]; exact (thW_other j8 (by omega) _)
  have kb : Below w.heap.size w W := by rw [hW]; exact thW_below hbW (Nat.le_refl _) _
  clear hW j3 j6 j7 j8 hbW
  have j3 := k3
  have j6 := k6
  have j7 := k7
  have j8 := k8
  have hbW := kb
  clear k3 k6 k7 k8 kb
  have c3 := j3.cell
  have c6 := j6.cell
  have z6 := j6.free
  have l6 := j6.lt
  have c7 := j7.cell
  have z7 := j7.free
  have l7 := j7.lt
  have c8 := j8.cell
  have hres := Lib.hid (res_blk (t6 := 57) (t7 := 60) j6 j7 (by omega) ⟨b, 0, ⟨s0, s1, s2, s3, s4, s5⟩, ⟨s0, s1, s2, s3, s4, s5⟩, false⟩ ⟨2, e, 0⟩)
  have hrb := Lib.hid (res_below hbW (b6 := w.heap.size + 1) (b7 := w.heap.size + 1 + 1) (by omega) (by omega) ⟨b, 0, ⟨s0, s1, s2, s3, s4, s5⟩, ⟨s0, s1, s2, s3, s4, s5⟩, false⟩ ⟨2, e, 0⟩)
  clear j3 j6 j7 j8 hbW
  go_region
  all_goals
    go_wp2_with fail
    change bodyPost _ _ _ _ _ (resW W (w.heap.size + 1) (w.heap.size + 1 + 1) ⟨b, 0, ⟨s0, s1, s2, s3, s4, s5⟩, ⟨s0, s1, s2, s3, s4, s5⟩, false⟩ ⟨2, e, 0⟩).drew
    generalize resW W (w.heap.size + 1) (w.heap.size + 1 + 1) ⟨b, 0, ⟨s0, s1, s2, s3, s4, s5⟩, ⟨s0, s1, s2, s3, s4, s5⟩, false⟩ ⟨2, e, 0⟩ = X at *
    exact bodyPost_ret (results_two _ _ 6 7 rfl rfl rfl (drewB hres.out.1) (drewB hres.out.2)) rfl ⟨rfl, bdrew hrb.out⟩
set_option maxRecDepth 100000 in
set_option maxHeartbeats 2000000 in
theorem end_back2 (f0 : (e == 0) = false) (f1 : (e == 141) = false) (f2 : (e == 140) = true) : Calls Tryz.prog 131 #[.agg #[.int .i64 b, .int .i64 n, .int .i64 a0, .int .i64 a1, .int .i64 a2, .int .i64 a3, .int .i64 a4, .int .i64 a5, .int .i64 s0, .int .i64 s1, .int .i64 s2, .int .i64 s3, .int .i64 s4, .int .i64 s5, .bool hl], .int .i64 v, .int .i64 e] w fun e' w' => e' = .returned (.tuple #[ThV.v ⟨b, 0, ⟨s0, s1, s2, s3, s4, s5⟩, ⟨s0, s1, s2, s3, s4, s5⟩, false⟩, ActV.val ⟨2, e, 0⟩]) ∧ Below w.heap.size w w' := by
  have HB := Lib.hid (fun w => show Calls Tryz.prog 128 #[.agg #[.int .i64 b, .int .i64 n, .int .i64 a0, .int .i64 a1, .int .i64 a2, .int .i64 a3, .int .i64 a4, .int .i64 a5, .int .i64 s0, .int .i64 s1, .int .i64 s2, .int .i64 s3, .int .i64 s4, .int .i64 s5, .bool hl]] w fun e w' => e = .returned (.agg #[.int .i64 b, .int .i64 0, .int .i64 s0, .int .i64 s1, .int .i64 s2, .int .i64 s3, .int .i64 s4, .int .i64 s5, .int .i64 s0, .int .i64 s1, .int .i64 s2, .int .i64 s3, .int .i64 s4, .int .i64 s5, .bool false]) ∧ Below w.heap.size w w' from back_any ⟨b, n, ⟨a0, a1, a2, a3, a4, a5⟩, ⟨s0, s1, s2, s3, s4, s5⟩, hl⟩ w)
  go_enter Tryz.func131, Tryz.ntmps131
  obtain ⟨W0, hW0⟩ : ∃ W : World, W = ((((w.alloc (.cells #[.int .i64 b, .int .i64 n, .int .i64 a0, .int .i64 a1, .int .i64 a2, .int .i64 a3, .int .i64 a4, .int .i64 a5, .int .i64 s0, .int .i64 s1, .int .i64 s2, .int .i64 s3, .int .i64 s4, .int .i64 s5, .bool hl] 57)).alloc (.cells #[.int .i64 0, .int .i64 0, .int .i64 0, .int .i64 0, .int .i64 0, .int .i64 0, .int .i64 0, .int .i64 0, .int .i64 0, .int .i64 0, .int .i64 0, .int .i64 0, .int .i64 0, .int .i64 0, .bool false] 57)).alloc (.cells #[.int .i64 0, .int .i64 0, .int .i64 0] 60)).alloc (.cells #[.int .i64 2, .int .i64 e, .int .i64 0] 60)) := ⟨_, rfl⟩
  have j3 : Blk W0 w.heap.size #[.int .i64 b, .int .i64 n, .int .i64 a0, .int .i64 a1, .int .i64 a2, .int .i64 a3, .int .i64 a4, .int .i64 a5, .int .i64 s0, .int .i64 s1, .int .i64 s2, .int .i64 s3, .int .i64 s4, .int .i64 s5, .bool hl] 57 := by rw [hW0]; exact (((Blk.new w _ _).alloc _).alloc _).alloc _
  have j6 : Blk W0 (w.heap.size + 1) #[.int .i64 0, .int .i64 0, .int .i64 0, .int .i64 0, .int .i64 0, .int .i64 0, .int .i64 0, .int .i64 0, .int .i64 0, .int .i64 0, .int .i64 0, .int .i64 0, .int .i64 0, .int .i64 0, .bool false] 57 := by rw [hW0]; exact ((Blk.new_at _ _ _ _ _ (by simp) rfl).alloc _).alloc _
  have j7 : Blk W0 (w.heap.size + 1 + 1) #[.int .i64 0, .int .i64 0, .int .i64 0] 60 := by rw [hW0]; exact (Blk.new_at _ _ _ _ _ (by simp) rfl).alloc _
  have j8 : Blk W0 (w.heap.size + 1 + 1 + 1) #[.int .i64 2, .int .i64 e, .int .i64 0] 60 := by rw [hW0]; exact Blk.new_at _ _ _ _ _ (by simp) rfl
  have hbW : Below w.heap.size w W0 := by rw [hW0]; exact balloc (balloc (balloc (balloc (bsame w) _) _) _) _
  go_wp2_with fail
  rw [← hW0]
  clear hW0
  refine (HB.out _).mono ?_
  rintro e1 W1 ⟨rfl, hb1⟩
  replace j3 := j3.below hb1 j3.lt
  replace j6 := j6.below hb1 j6.lt
  replace j7 := j7.below hb1 j7.lt
  replace j8 := j8.below hb1 j8.lt
  replace hbW := btrans hbW hb1
  clear hb1 HB
  have c3 := j3.cell
  have z3 := j3.free
  have l3 := j3.lt
  go_upto_region 14 with fail
  clear c3 z3 l3
  obtain ⟨W, hW⟩ : ∃ W : World, W = thW W1 w.heap.size ⟨b, 0, ⟨s0, s1, s2, s3, s4, s5⟩, ⟨s0, s1, s2, s3, s4, s5⟩, false⟩ := ⟨_, rfl⟩
  change Code.wp _ _ _ _ (thW W1 w.heap.size ⟨b, 0, ⟨s0, s1, s2, s3, s4, s5⟩, ⟨s0, s1, s2, s3, s4, s5⟩, false⟩)
  rw [← hW]
  have k3 : Blk W w.heap.size #[.int .i64 b, .int .i64 0, .int .i64 s0, .int .i64 s1, .int .i64 s2, .int .i64 s3, .int .i64 s4, .int .i64 s5, .int .i64 s0, .int .i64 s1, .int .i64 s2, .int .i64 s3, .int .i64 s4, .int .i64 s5, .bool false] 57 := by rw [hW]; exact (thW_blk (g := ⟨b, n, ⟨a0, a1, a2, a3, a4, a5⟩, ⟨s0, s1, s2, s3, s4, s5⟩, hl⟩) j3 ⟨b, 0, ⟨s0, s1, s2, s3, s4, s5⟩, ⟨s0, s1, s2, s3, s4, s5⟩, false⟩)
  have k6 : Blk W (w.heap.size + 1) #[.int .i64 0, .int .i64 0, .int .i64 0, .int .i64 0, .int .i64 0, .int .i64 0, .int .i64 0, .int .i64 0, .int .i64 0, .int .i64 0, .int .i64 0, .int .i64 0, .int .i64 0, .int .i64 0, .bool false] 57 := by rw [hW]; exact (thW_other j6 (by omega) _)
  have k7 : Blk W (w.heap.size + 1 + 1) #[.int .i64 0, .int .i64 0, .int .i64 0] 60 := by rw [hW]; exact (thW_other j7 (by omega) _)
  have k8 : Blk W (w.heap.size + 1 + 1 + 1) #[.int .i64 2, .int .i64 e, .int .i64 0] 60 := by rw [hW]; exact (thW_other j8 (by omega) _)
  have kb : Below w.heap.size w W := by rw [hW]; exact thW_below hbW (Nat.le_refl _) _
  clear hW j3 j6 j7 j8 hbW
  have j3 := k3
  have j6 := k6
  have j7 := k7
  have j8 := k8
  have hbW := kb
  clear k3 k6 k7 k8 kb
  have c3 := j3.cell
  have c6 := j6.cell
  have z6 := j6.free
  have l6 := j6.lt
  have c7 := j7.cell
  have z7 := j7.free
  have l7 := j7.lt
  have c8 := j8.cell
  have hres := Lib.hid (res_blk (t6 := 57) (t7 := 60) j6 j7 (by omega) ⟨b, 0, ⟨s0, s1, s2, s3, s4, s5⟩, ⟨s0, s1, s2, s3, s4, s5⟩, false⟩ ⟨2, e, 0⟩)
  have hrb := Lib.hid (res_below hbW (b6 := w.heap.size + 1) (b7 := w.heap.size + 1 + 1) (by omega) (by omega) ⟨b, 0, ⟨s0, s1, s2, s3, s4, s5⟩, ⟨s0, s1, s2, s3, s4, s5⟩, false⟩ ⟨2, e, 0⟩)
  clear j3 j6 j7 j8 hbW
  go_region
  all_goals
    go_wp2_with fail
    change bodyPost _ _ _ _ _ (resW W (w.heap.size + 1) (w.heap.size + 1 + 1) ⟨b, 0, ⟨s0, s1, s2, s3, s4, s5⟩, ⟨s0, s1, s2, s3, s4, s5⟩, false⟩ ⟨2, e, 0⟩).drew
    generalize resW W (w.heap.size + 1) (w.heap.size + 1 + 1) ⟨b, 0, ⟨s0, s1, s2, s3, s4, s5⟩, ⟨s0, s1, s2, s3, s4, s5⟩, false⟩ ⟨2, e, 0⟩ = X at *
    exact bodyPost_ret (results_two _ _ 6 7 rfl rfl rfl (drewB hres.out.1) (drewB hres.out.2)) rfl ⟨rfl, bdrew hrb.out⟩
set_option maxRecDepth 100000 in
set_option maxHeartbeats 2000000 in
theorem end_bump1 (b1 : 0 ≤ b) (b2 : b ≤ 4096) (f0 : (e == 0) = false) (f1 : (e == 141) = false) (f2 : (e == 140) = false) (f3 : (e == 100) = true) : Calls Tryz.prog 131 #[.agg #[.int .i64 b, .int .i64 n, .int .i64 a0, .int .i64 a1, .int .i64 a2, .int .i64 a3, .int .i64 a4, .int .i64 a5, .int .i64 s0, .int .i64 s1, .int .i64 s2, .int .i64 s3, .int .i64 s4, .int .i64 s5, .bool hl], .int .i64 v, .int .i64 e] w fun e' w' => e' = .returned (.tuple #[ThV.v ⟨(b + 1), 0, ⟨s0, s1, s2, s3, s4, s5⟩, ⟨s0, s1, s2, s3, s4, s5⟩, false⟩, ActV.val ⟨2, e, 0⟩]) ∧ Below w.heap.size w w' := by
  have HB := Lib.hid (fun w => show Calls Tryz.prog 128 #[.agg #[.int .i64 b, .int .i64 n, .int .i64 a0, .int .i64 a1, .int .i64 a2, .int .i64 a3, .int .i64 a4, .int .i64 a5, .int .i64 s0, .int .i64 s1, .int .i64 s2, .int .i64 s3, .int .i64 s4, .int .i64 s5, .bool hl]] w fun e w' => e = .returned (.agg #[.int .i64 b, .int .i64 0, .int .i64 s0, .int .i64 s1, .int .i64 s2, .int .i64 s3, .int .i64 s4, .int .i64 s5, .int .i64 s0, .int .i64 s1, .int .i64 s2, .int .i64 s3, .int .i64 s4, .int .i64 s5, .bool false]) ∧ Below w.heap.size w w' from back_any ⟨b, n, ⟨a0, a1, a2, a3, a4, a5⟩, ⟨s0, s1, s2, s3, s4, s5⟩, hl⟩ w)
  go_enter Tryz.func131, Tryz.ntmps131
  obtain ⟨W0, hW0⟩ : ∃ W : World, W = ((((w.alloc (.cells #[.int .i64 b, .int .i64 n, .int .i64 a0, .int .i64 a1, .int .i64 a2, .int .i64 a3, .int .i64 a4, .int .i64 a5, .int .i64 s0, .int .i64 s1, .int .i64 s2, .int .i64 s3, .int .i64 s4, .int .i64 s5, .bool hl] 57)).alloc (.cells #[.int .i64 0, .int .i64 0, .int .i64 0, .int .i64 0, .int .i64 0, .int .i64 0, .int .i64 0, .int .i64 0, .int .i64 0, .int .i64 0, .int .i64 0, .int .i64 0, .int .i64 0, .int .i64 0, .bool false] 57)).alloc (.cells #[.int .i64 0, .int .i64 0, .int .i64 0] 60)).alloc (.cells #[.int .i64 2, .int .i64 e, .int .i64 0] 60)) := ⟨_, rfl⟩
  have j3 : Blk W0 w.heap.size #[.int .i64 b, .int .i64 n, .int .i64 a0, .int .i64 a1, .int .i64 a2, .int .i64 a3, .int .i64 a4, .int .i64 a5, .int .i64 s0, .int .i64 s1, .int .i64 s2, .int .i64 s3, .int .i64 s4, .int .i64 s5, .bool hl] 57 := by rw [hW0]; exact (((Blk.new w _ _).alloc _).alloc _).alloc _
  have j6 : Blk W0 (w.heap.size + 1) #[.int .i64 0, .int .i64 0, .int .i64 0, .int .i64 0, .int .i64 0, .int .i64 0, .int .i64 0, .int .i64 0, .int .i64 0, .int .i64 0, .int .i64 0, .int .i64 0, .int .i64 0, .int .i64 0, .bool false] 57 := by rw [hW0]; exact ((Blk.new_at _ _ _ _ _ (by simp) rfl).alloc _).alloc _
  have j7 : Blk W0 (w.heap.size + 1 + 1) #[.int .i64 0, .int .i64 0, .int .i64 0] 60 := by rw [hW0]; exact (Blk.new_at _ _ _ _ _ (by simp) rfl).alloc _
  have j8 : Blk W0 (w.heap.size + 1 + 1 + 1) #[.int .i64 2, .int .i64 e, .int .i64 0] 60 := by rw [hW0]; exact Blk.new_at _ _ _ _ _ (by simp) rfl
  have hbW : Below w.heap.size w W0 := by rw [hW0]; exact balloc (balloc (balloc (balloc (bsame w) _) _) _) _
  go_wp2_with fail
  rw [← hW0]
  clear hW0
  refine (HB.out _).mono ?_
  rintro e1 W1 ⟨rfl, hb1⟩
  replace j3 := j3.below hb1 j3.lt
  replace j6 := j6.below hb1 j6.lt
  replace j7 := j7.below hb1 j7.lt
  replace j8 := j8.below hb1 j8.lt
  replace hbW := btrans hbW hb1
  clear hb1 HB
  have c3 := j3.cell
  have z3 := j3.free
  have l3 := j3.lt
  go_upto_region 14 with fail
  clear c3 z3 l3
  obtain ⟨W, hW⟩ : ∃ W : World, W = (thW W1 w.heap.size ⟨b, 0, ⟨s0, s1, s2, s3, s4, s5⟩, ⟨s0, s1, s2, s3, s4, s5⟩, false⟩).setCell ⟨w.heap.size, 0, none⟩ (.int .i64 (b + 1)) := ⟨_, rfl⟩
  change Code.wp _ _ _ _ ((thW W1 w.heap.size ⟨b, 0, ⟨s0, s1, s2, s3, s4, s5⟩, ⟨s0, s1, s2, s3, s4, s5⟩, false⟩).setCell ⟨w.heap.size, 0, none⟩ (.int .i64 (b + 1)))
  rw [← hW]
  have k3 : Blk W w.heap.size #[.int .i64 (b + 1), .int .i64 0, .int .i64 s0, .int .i64 s1, .int .i64 s2, .int .i64 s3, .int .i64 s4, .int .i64 s5, .int .i64 s0, .int .i64 s1, .int .i64 s2, .int .i64 s3, .int .i64 s4, .int .i64 s5, .bool false] 57 := by rw [hW]; exact (thW_blk (g := ⟨b, n, ⟨a0, a1, a2, a3, a4, a5⟩, ⟨s0, s1, s2, s3, s4, s5⟩, hl⟩) j3 ⟨b, 0, ⟨s0, s1, s2, s3, s4, s5⟩, ⟨s0, s1, s2, s3, s4, s5⟩, false⟩).set 0 (.int .i64 (b + 1))
  have k6 : Blk W (w.heap.size + 1) #[.int .i64 0, .int .i64 0, .int .i64 0, .int .i64 0, .int .i64 0, .int .i64 0, .int .i64 0, .int .i64 0, .int .i64 0, .int .i64 0, .int .i64 0, .int .i64 0, .int .i64 0, .int .i64 0, .bool false] 57 := by rw [hW]; exact (thW_other j6 (by omega) _).set_other (a := ⟨w.heap.size, 0, none⟩) (by show _ ≠ w.heap.size; omega) (.int .i64 (b + 1))
  have k7 : Blk W (w.heap.size + 1 + 1) #[.int .i64 0, .int .i64 0, .int .i64 0] 60 := by rw [hW]; exact (thW_other j7 (by omega) _).set_other (a := ⟨w.heap.size, 0, none⟩) (by show _ ≠ w.heap.size; omega) (.int .i64 (b + 1))
  have k8 : Blk W (w.heap.size + 1 + 1 + 1) #[.int .i64 2, .int .i64 e, .int .i64 0] 60 := by rw [hW]; exact (thW_other j8 (by omega) _).set_other (a := ⟨w.heap.size, 0, none⟩) (by show _ ≠ w.heap.size; omega) (.int .i64 (b + 1))
  have kb : Below w.heap.size w W := by rw [hW]; exact bset (thW_below hbW (Nat.le_refl _) _) (Nat.le_refl _) _
  clear hW j3 j6 j7 j8 hbW
  have j3 := k3
  have j6 := k6
  have j7 := k7
  have j8 := k8
  have hbW := kb
  clear k3 k6 k7 k8 kb
  have c3 := j3.cell
  have c6 := j6.cell
  have z6 := j6.free
  have l6 := j6.lt
  have c7 := j7.cell
  have z7 := j7.free
  have l7 := j7.lt
  have c8 := j8.cell
  have hres := Lib.hid (res_blk (t6 := 57) (t7 := 60) j6 j7 (by omega) ⟨(b + 1), 0, ⟨s0, s1, s2, s3, s4, s5⟩, ⟨s0, s1, s2, s3, s4, s5⟩, false⟩ ⟨2, e, 0⟩)
  have hrb := Lib.hid (res_below hbW (b6 := w.heap.size + 1) (b7 := w.heap.size + 1 + 1) (by omega) (by omega) ⟨(b + 1), 0, ⟨s0, s1, s2, s3, s4, s5⟩, ⟨s0, s1, s2, s3, s4, s5⟩, false⟩ ⟨2, e, 0⟩)
  clear j3 j6 j7 j8 hbW
  go_region
  all_goals
    go_wp2_with fail
    change bodyPost _ _ _ _ _ (resW W (w.heap.size + 1) (w.heap.size + 1 + 1) ⟨(b + 1), 0, ⟨s0, s1, s2, s3, s4, s5⟩, ⟨s0, s1, s2, s3, s4, s5⟩, false⟩ ⟨2, e, 0⟩).drew
    generalize resW W (w.heap.size + 1) (w.heap.size + 1 + 1) ⟨(b + 1), 0, ⟨s0, s1, s2, s3, s4, s5⟩, ⟨s0, s1, s2, s3, s4, s5⟩, false⟩ ⟨2, e, 0⟩ = X at *
    exact bodyPost_ret (results_two _ _ 6 7 rfl rfl rfl (drewB hres.out.1) (drewB hres.out.2)) rfl ⟨rfl, bdrew hrb.out⟩
set_option maxRecDepth 100000 in
set_option maxHeartbeats 2000000 in
theorem end_bump2 (b1 : 0 ≤ b) (b2 : b ≤ 4096) (f0 : (e == 0) = false) (f1 : (e == 141) = false) (f2 : (e == 140) = false) (f3 : (e == 100) = false) (f4 : (e == 130) = true) : Calls Tryz.prog 131 #[.agg #[.int .i64 b, .int .i64 n, .int .i64 a0, .int .i64 a1, .int .i64 a2, .int .i64 a3, .int .i64 a4, .int .i64 a5, .int .i64 s0, .int .i64 s1, .int .i64 s2, .int .i64 s3, .int .i64 s4, .int .i64 s5, .bool hl], .int .i64 v, .int .i64 e] w fun e' w' => e' = .returned (.tuple #[ThV.v ⟨(b + 1), 0, ⟨s0, s1, s2, s3, s4, s5⟩, ⟨s0, s1, s2, s3, s4, s5⟩, false⟩, ActV.val ⟨2, e, 0⟩]) ∧ Below w.heap.size w w' := by
  have HB := Lib.hid (fun w => show Calls Tryz.prog 128 #[.agg #[.int .i64 b, .int .i64 n, .int .i64 a0, .int .i64 a1, .int .i64 a2, .int .i64 a3, .int .i64 a4, .int .i64 a5, .int .i64 s0, .int .i64 s1, .int .i64 s2, .int .i64 s3, .int .i64 s4, .int .i64 s5, .bool hl]] w fun e w' => e = .returned (.agg #[.int .i64 b, .int .i64 0, .int .i64 s0, .int .i64 s1, .int .i64 s2, .int .i64 s3, .int .i64 s4, .int .i64 s5, .int .i64 s0, .int .i64 s1, .int .i64 s2, .int .i64 s3, .int .i64 s4, .int .i64 s5, .bool false]) ∧ Below w.heap.size w w' from back_any ⟨b, n, ⟨a0, a1, a2, a3, a4, a5⟩, ⟨s0, s1, s2, s3, s4, s5⟩, hl⟩ w)
  go_enter Tryz.func131, Tryz.ntmps131
  obtain ⟨W0, hW0⟩ : ∃ W : World, W = ((((w.alloc (.cells #[.int .i64 b, .int .i64 n, .int .i64 a0, .int .i64 a1, .int .i64 a2, .int .i64 a3, .int .i64 a4, .int .i64 a5, .int .i64 s0, .int .i64 s1, .int .i64 s2, .int .i64 s3, .int .i64 s4, .int .i64 s5, .bool hl] 57)).alloc (.cells #[.int .i64 0, .int .i64 0, .int .i64 0, .int .i64 0, .int .i64 0, .int .i64 0, .int .i64 0, .int .i64 0, .int .i64 0, .int .i64 0, .int .i64 0, .int .i64 0, .int .i64 0, .int .i64 0, .bool false] 57)).alloc (.cells #[.int .i64 0, .int .i64 0, .int .i64 0] 60)).alloc (.cells #[.int .i64 2, .int .i64 e, .int .i64 0] 60)) := ⟨_, rfl⟩
  have j3 : Blk W0 w.heap.size #[.int .i64 b, .int .i64 n, .int .i64 a0, .int .i64 a1, .int .i64 a2, .int .i64 a3, .int .i64 a4, .int .i64 a5, .int .i64 s0, .int .i64 s1, .int .i64 s2, .int .i64 s3, .int .i64 s4, .int .i64 s5, .bool hl] 57 := by rw [hW0]; exact (((Blk.new w _ _).alloc _).alloc _).alloc _
  have j6 : Blk W0 (w.heap.size + 1) #[.int .i64 0, .int .i64 0, .int .i64 0, .int .i64 0, .int .i64 0, .int .i64 0, .int .i64 0, .int .i64 0, .int .i64 0, .int .i64 0, .int .i64 0, .int .i64 0, .int .i64 0, .int .i64 0, .bool false] 57 := by rw [hW0]; exact ((Blk.new_at _ _ _ _ _ (by simp) rfl).alloc _).alloc _
  have j7 : Blk W0 (w.heap.size + 1 + 1) #[.int .i64 0, .int .i64 0, .int .i64 0] 60 := by rw [hW0]; exact (Blk.new_at _ _ _ _ _ (by simp) rfl).alloc _
  have j8 : Blk W0 (w.heap.size + 1 + 1 + 1) #[.int .i64 2, .int .i64 e, .int .i64 0] 60 := by rw [hW0]; exact Blk.new_at _ _ _ _ _ (by simp) rfl
  have hbW : Below w.heap.size w W0 := by rw [hW0]; exact balloc (balloc (balloc (balloc (bsame w) _) _) _) _
  go_wp2_with fail
  rw [← hW0]
  clear hW0
  refine (HB.out _).mono ?_
  rintro e1 W1 ⟨rfl, hb1⟩
  replace j3 := j3.below hb1 j3.lt
  replace j6 := j6.below hb1 j6.lt
  replace j7 := j7.below hb1 j7.lt
  replace j8 := j8.below hb1 j8.lt
  replace hbW := btrans hbW hb1
  clear hb1 HB
  have c3 := j3.cell
  have z3 := j3.free
  have l3 := j3.lt
  go_upto_region 14 with fail
  clear c3 z3 l3
  obtain ⟨W, hW⟩ : ∃ W : World, W = (thW W1 w.heap.size ⟨b, 0, ⟨s0, s1, s2, s3, s4, s5⟩, ⟨s0, s1, s2, s3, s4, s5⟩, false⟩).setCell ⟨w.heap.size, 0, none⟩ (.int .i64 (b + 1)) := ⟨_, rfl⟩
  change Code.wp _ _ _ _ ((thW W1 w.heap.size ⟨b, 0, ⟨s0, s1, s2, s3, s4, s5⟩, ⟨s0, s1, s2, s3, s4, s5⟩, false⟩).setCell ⟨w.heap.size, 0, none⟩ (.int .i64 (b + 1)))
  rw [← hW]
  have k3 : Blk W w.heap.size #[.int .i64 (b + 1), .int .i64 0, .int .i64 s0, .int .i64 s1, .int .i64 s2, .int .i64 s3, .int .i64 s4, .int .i64 s5, .int .i64 s0, .int .i64 s1, .int .i64 s2, .int .i64 s3, .int .i64 s4, .int .i64 s5, .bool false] 57 := by rw [hW]; exact (thW_blk (g := ⟨b, n, ⟨a0, a1, a2, a3, a4, a5⟩, ⟨s0, s1, s2, s3, s4, s5⟩, hl⟩) j3 ⟨b, 0, ⟨s0, s1, s2, s3, s4, s5⟩, ⟨s0, s1, s2, s3, s4, s5⟩, false⟩).set 0 (.int .i64 (b + 1))
  have k6 : Blk W (w.heap.size + 1) #[.int .i64 0, .int .i64 0, .int .i64 0, .int .i64 0, .int .i64 0, .int .i64 0, .int .i64 0, .int .i64 0, .int .i64 0, .int .i64 0, .int .i64 0, .int .i64 0, .int .i64 0, .int .i64 0, .bool false] 57 := by rw [hW]; exact (thW_other j6 (by omega) _).set_other (a := ⟨w.heap.size, 0, none⟩) (by show _ ≠ w.heap.size; omega) (.int .i64 (b + 1))
  have k7 : Blk W (w.heap.size + 1 + 1) #[.int .i64 0, .int .i64 0, .int .i64 0] 60 := by rw [hW]; exact (thW_other j7 (by omega) _).set_other (a := ⟨w.heap.size, 0, none⟩) (by show _ ≠ w.heap.size; omega) (.int .i64 (b + 1))
  have k8 : Blk W (w.heap.size + 1 + 1 + 1) #[.int .i64 2, .int .i64 e, .int .i64 0] 60 := by rw [hW]; exact (thW_other j8 (by omega) _).set_other (a := ⟨w.heap.size, 0, none⟩) (by show _ ≠ w.heap.size; omega) (.int .i64 (b + 1))
  have kb : Below w.heap.size w W := by rw [hW]; exact bset (thW_below hbW (Nat.le_refl _) _) (Nat.le_refl _) _
  clear hW j3 j6 j7 j8 hbW
  have j3 := k3
  have j6 := k6
  have j7 := k7
  have j8 := k8
  have hbW := kb
  clear k3 k6 k7 k8 kb
  have c3 := j3.cell
  have c6 := j6.cell
  have z6 := j6.free
  have l6 := j6.lt
  have c7 := j7.cell
  have z7 := j7.free
  have l7 := j7.lt
  have c8 := j8.cell
  have hres := Lib.hid (res_blk (t6 := 57) (t7 := 60) j6 j7 (by omega) ⟨(b + 1), 0, ⟨s0, s1, s2, s3, s4, s5⟩, ⟨s0, s1, s2, s3, s4, s5⟩, false⟩ ⟨2, e, 0⟩)
  have hrb := Lib.hid (res_below hbW (b6 := w.heap.size + 1) (b7 := w.heap.size + 1 + 1) (by omega) (by omega) ⟨(b + 1), 0, ⟨s0, s1, s2, s3, s4, s5⟩, ⟨s0, s1, s2, s3, s4, s5⟩, false⟩ ⟨2, e, 0⟩)
  clear j3 j6 j7 j8 hbW
  go_region
  all_goals
    go_wp2_with fail
    change bodyPost _ _ _ _ _ (resW W (w.heap.size + 1) (w.heap.size + 1 + 1) ⟨(b + 1), 0, ⟨s0, s1, s2, s3, s4, s5⟩, ⟨s0, s1, s2, s3, s4, s5⟩, false⟩ ⟨2, e, 0⟩).drew
    generalize resW W (w.heap.size + 1) (w.heap.size + 1 + 1) ⟨(b + 1), 0, ⟨s0, s1, s2, s3, s4, s5⟩, ⟨s0, s1, s2, s3, s4, s5⟩, false⟩ ⟨2, e, 0⟩ = X at *
    exact bodyPost_ret (results_two _ _ 6 7 rfl rfl rfl (drewB hres.out.1) (drewB hres.out.2)) rfl ⟨rfl, bdrew hrb.out⟩
end
end Go.Proofs.YtemohiainfllcaaGreat
