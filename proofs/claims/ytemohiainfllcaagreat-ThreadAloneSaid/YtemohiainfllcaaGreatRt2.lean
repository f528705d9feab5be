/- Threads: deeds (printed by tools/gen_deed.py T9). -/
import Derived.Test.YtemohiainfllcaaGreatRq
namespace Go.Proofs.YtemohiainfllcaaGreat
open Go.RowKit Hp
attribute [local go_sem ↓] Go.wp_at_zero Go.wp_at_succ
section
variable {w w' : World} {o o' : Own} {y : SLay} {S : Stt} {i : Nat}

set_option maxRecDepth 100000 in
set_option maxHeartbeats 4000000 in
theorem tdeed_same (hS : StIn w o y S) (hI : Inv S) (hb hn a0 a1 a2 a3 a4 a5 s0 s1 s2 s3 s4 s5 : Int) (hl : Bool) (A B : Nat) (fi fn : Int) (ra rb : Nat)
    (hab : ra = rb) (hA : A < 6) (hB : B < 6) (hra : R6.get ⟨a0, a1, a2, a3, a4, a5⟩ A = ra) (hrb : R6.get ⟨a0, a1, a2, a3, a4, a5⟩ B = rb) (hn0 : 0 ≤ hn ∧ hn ≤ 4096) (hb0 : 0 ≤ hb ∧ hb ≤ 4096) :
    Calls Tryz.prog 76 #[ptr y.sb, .int .i64 i, .agg #[.int .i64 11, .int .i64 A, .int .i64 B, .int .i64 fi, .int .i64 fn], .agg #[.int .i64 hb, .int .i64 hn, .int .i64 a0, .int .i64 a1, .int .i64 a2, .int .i64 a3, .int .i64 a4, .int .i64 a5, .int .i64 s0, .int .i64 s1, .int .i64 s2, .int .i64 s3, .int .i64 s4, .int .i64 s5, .bool hl]] w fun e' w' => e' = .returned (.tuple #[(ThV.ended ⟨hb, hn, ⟨a0, a1, a2, a3, a4, a5⟩, ⟨s0, s1, s2, s3, s4, s5⟩, hl⟩ 0).v, (actOf 1 0).val]) ∧ Left y S o w w' := by
  have hmf : ∀ (fn : Fn) (first cap : Array Value) (w : World), (Instr.makeFunc fn first cap).run Tryz.prog w = .ok (.func fn first cap) w := fun _ _ _ _ => rfl
  obtain ⟨o1, ho1⟩ : ∃ o1, o1 = ext o w.heap.size (y.l.id + 1, 0) := ⟨_, rfl⟩
  have h1 := hS.retag (o' := o1) fun b hb => by rw [ho1]; exact ext_lt hb
  have hS0 : Stp (stTag y) o o1 w w := by rw [ho1]; exact (Stp.refl _ o w).ext _ _ (Nat.le_refl _)
  have hbx : ∀ b, w.heap.size ≤ b → bxT y (o1 b) := fun b hb => by rw [ho1]; exact ext_ge hb
  clear ho1 hS
  obtain ⟨W, hW⟩ : ∃ W : World, W = (((((w.alloc (.cells #[ptr y.sb] 23)).alloc (.cells #[.int .i64 11, .int .i64 A, .int .i64 B, .int .i64 fi, .int .i64 fn] 52)).alloc (.cells #[.int .i64 hb, .int .i64 hn, .int .i64 a0, .int .i64 a1, .int .i64 a2, .int .i64 a3, .int .i64 a4, .int .i64 a5, .int .i64 s0, .int .i64 s1, .int .i64 s2, .int .i64 s3, .int .i64 s4, .int .i64 s5, .bool hl] 57)).alloc (.cells #[.int .i64 0, .int .i64 0, .int .i64 0, .int .i64 0, .int .i64 0, .int .i64 0, .int .i64 0, .int .i64 0, .int .i64 0, .int .i64 0, .int .i64 0, .int .i64 0, .int .i64 0, .int .i64 0, .bool false] 57)).alloc (.cells #[.int .i64 0, .int .i64 0, .int .i64 0] 60)).alloc (.cells #[.func (.func 130) #[] #[ptr (w.heap.size + 1 + 1)]] 196) := ⟨_, rfl⟩
  have hbW : Below w.heap.size w W := by rw [hW]; exact balloc (balloc (balloc (balloc (balloc (balloc (bsame w) _) _) _) _) _) _
  have k0 : Blk W w.heap.size #[ptr y.sb] 23 := by rw [hW]; exact (((((Blk.new w _ _).alloc _).alloc _).alloc _).alloc _).alloc _
  have k1 : Blk W (w.heap.size + 1) #[.int .i64 11, .int .i64 A, .int .i64 B, .int .i64 fi, .int .i64 fn] 52 := by rw [hW]; exact ((((Blk.new_at _ _ _ _ _ (by simp) rfl).alloc _).alloc _).alloc _).alloc _
  have k2 : Blk W (w.heap.size + 1 + 1) #[.int .i64 hb, .int .i64 hn, .int .i64 a0, .int .i64 a1, .int .i64 a2, .int .i64 a3, .int .i64 a4, .int .i64 a5, .int .i64 s0, .int .i64 s1, .int .i64 s2, .int .i64 s3, .int .i64 s4, .int .i64 s5, .bool hl] 57 := by rw [hW]; exact (((Blk.new_at _ _ _ _ _ (by simp) rfl).alloc _).alloc _).alloc _
  have k3 : Blk W (w.heap.size + 1 + 1 + 1) #[.int .i64 0, .int .i64 0, .int .i64 0, .int .i64 0, .int .i64 0, .int .i64 0, .int .i64 0, .int .i64 0, .int .i64 0, .int .i64 0, .int .i64 0, .int .i64 0, .int .i64 0, .int .i64 0, .bool false] 57 := by rw [hW]; exact ((Blk.new_at _ _ _ _ _ (by simp) rfl).alloc _).alloc _
  have k4 : Blk W (w.heap.size + 1 + 1 + 1 + 1) #[.int .i64 0, .int .i64 0, .int .i64 0] 60 := by rw [hW]; exact (Blk.new_at _ _ _ _ _ (by simp) rfl).alloc _
  have k5 : Blk W (w.heap.size + 1 + 1 + 1 + 1 + 1) #[.func (.func 130) #[] #[ptr (w.heap.size + 1 + 1)]] 196 := by rw [hW]; exact Blk.new_at _ _ _ _ _ (by simp) rfl
  have hSW := h1.below hbW
  have hsW : Stp (stTag y) o o1 w W := hS0.trans (Stp.of_below hbW)
  have AI : (A : Int) < 6 := by omega
  have BI : (B : Int) < 6 := by omega
  have HB := Lib.hid hbx
  have HT := Lib.hid (fun X (j7 : Blk X (w.heap.size + 1 + 1) (ThV.cells ⟨hb, hn, ⟨a0, a1, a2, a3, a4, a5⟩, ⟨s0, s1, s2, s3, s4, s5⟩, hl⟩) 57) => told_any ⟨hb, hn, ⟨a0, a1, a2, a3, a4, a5⟩, ⟨s0, s1, s2, s3, s4, s5⟩, hl⟩ 1 0 hn0 hb0 X j7)
  obtain ⟨H', hH'⟩ : ∃ H', H' = ThV.ended ⟨hb, hn, ⟨a0, a1, a2, a3, a4, a5⟩, ⟨s0, s1, s2, s3, s4, s5⟩, hl⟩ 0 := ⟨_, rfl⟩
  obtain ⟨A', hA'⟩ : ∃ A', A' = actOf 1 0 := ⟨_, rfl⟩
  rw [← hH', ← hA'] at HT ⊢
  obtain ⟨b', n', ⟨r0, r1, r2, r3, r4, r5⟩, ⟨p0, p1, p2, p3, p4, p5⟩, hl'⟩ := H'
  obtain ⟨ak, ae, av⟩ := A'
  have HT := Lib.hid (fun X j7 => show Calls Tryz.prog 130 #[.int .i64 1, .int .i64 0, ptr (w.heap.size + 1 + 1)] X fun e' w' => e' = .returned (.tuple #[.agg #[.int .i64 b', .int .i64 n', .int .i64 r0, .int .i64 r1, .int .i64 r2, .int .i64 r3, .int .i64 r4, .int .i64 r5, .int .i64 p0, .int .i64 p1, .int .i64 p2, .int .i64 p3, .int .i64 p4, .int .i64 p5, .bool hl'], .agg #[.int .i64 ak, .int .i64 ae, .int .i64 av]]) ∧ Below X.heap.size X w' from HT.out X j7)
  have HI := Lib.hid hI
  clear hH' hA' hI hn0 hb0 h1 hS0 hbx
  go_enter Tryz.func76, Tryz.ntmps76
  go_upto_region 3 with fail
  rw [← hW]
  clear hW
  have cA := reg_cell (h := ⟨hb, hn, ⟨a0, a1, a2, a3, a4, a5⟩, ⟨s0, s1, s2, s3, s4, s5⟩, hl⟩) k2 hA
  have cB := reg_cell (h := ⟨hb, hn, ⟨a0, a1, a2, a3, a4, a5⟩, ⟨s0, s1, s2, s3, s4, s5⟩, hl⟩) k2 hB
  rw [hra] at cA
  rw [hrb] at cB
  have c1 := k1.cell
  have l2 := k2.lt
  go_quiet (fail)
  obtain ⟨V, hV⟩ : ∃ V, V = W.drewN nq := ⟨_, rfl⟩
  have hbV : Below W.heap.size W V := by rw [hV]; exact bdrewN (bsame _) _
  rw [← hV]
  clear hV cA cB c1 l2
  replace k0 := k0.below hbV k0.lt
  replace k1 := k1.below hbV k1.lt
  replace k2 := k2.below hbV k2.lt
  replace k3 := k3.below hbV k3.lt
  replace k4 := k4.below hbV k4.lt
  replace k5 := k5.below hbV k5.lt
  replace hSW := hSW.below hbV
  replace hsW := hsW.trans (Stp.of_below hbV)
  have c0 := k0.cell
  have c1 := k1.cell
  have c5 := k5.cell
  have hcm : ((ra : Int) == (rb : Int)) = true := by rw [beq_iff_eq, hab]
  go_wp2_with fail
  obtain ⟨V2, hV2⟩ : ∃ V2, V2 = V := ⟨_, rfl⟩
  rw [← hV2]
  have i2 : Blk V2 (w.heap.size + 1 + 1) (ThV.cells ⟨hb, hn, ⟨a0, a1, a2, a3, a4, a5⟩, ⟨s0, s1, s2, s3, s4, s5⟩, hl⟩) 57 := by rw [hV2]; exact k2
  have i3 : Blk V2 (w.heap.size + 1 + 1 + 1) #[.int .i64 0, .int .i64 0, .int .i64 0, .int .i64 0, .int .i64 0, .int .i64 0, .int .i64 0, .int .i64 0, .int .i64 0, .int .i64 0, .int .i64 0, .int .i64 0, .int .i64 0, .int .i64 0, .bool false] 57 := by rw [hV2]; exact k3
  have i4 : Blk V2 (w.heap.size + 1 + 1 + 1 + 1) #[.int .i64 0, .int .i64 0, .int .i64 0] 60 := by rw [hV2]; exact k4
  have hw : Wr (w.heap.size + 1 + 1) V V2 := by rw [hV2]; exact Wr.refl _ _
  have t2 : bxT y (o1 (w.heap.size + 1 + 1)) := HB.out _ (by omega)
  have hS2 := hSW.bx (Stp.of_wr hw t2)
  have hs2 := hsW.wr_new hw (by omega)
  clear hV2
  refine (HT.out _ i2).mono ?_
  rintro e5 w5 ⟨rfl, hb5⟩
  have m3 := i3.below hb5 i3.lt
  have m4 := i4.below hb5 i4.lt
  have hS5 := hS2.below hb5
  have hs5 := hs2.trans (Stp.of_below hb5)
  clear c0 c1 c5 HT i2 i3 i4 hw hS2 hs2 hb5 k0 k1 k2 k3 k4 k5 hSW hsW 
  have c3 := m3.cell
  have z3 := m3.free
  have l3 := m3.lt
  have c4 := m4.cell
  have z4 := m4.free
  have l4 := m4.lt
  have hres := Lib.hid (res_blk m3 m4 (by omega) ⟨b', n', ⟨r0, r1, r2, r3, r4, r5⟩, ⟨p0, p1, p2, p3, p4, p5⟩, hl'⟩ ⟨ak, ae, av⟩)
  have hrs := Lib.hid (res_stp hs5 (b6 := (w.heap.size + 1 + 1 + 1)) (b7 := (w.heap.size + 1 + 1 + 1 + 1)) (by omega) (by omega) ⟨b', n', ⟨r0, r1, r2, r3, r4, r5⟩, ⟨p0, p1, p2, p3, p4, p5⟩, hl'⟩ ⟨ak, ae, av⟩)
  have hrS := Lib.hid (hS5.bx (res_bx w5 (w.heap.size + 1 + 1 + 1) (w.heap.size + 1 + 1 + 1 + 1) (o := o1) (HB.out _ (by omega)) (HB.out _ (by omega)) ⟨b', n', ⟨r0, r1, r2, r3, r4, r5⟩, ⟨p0, p1, p2, p3, p4, p5⟩, hl'⟩ ⟨ak, ae, av⟩))
  clear m3 m4 hS5 hs5
  go_wp2_with fail
  change bodyPost _ _ _ _ _ (resW w5 (w.heap.size + 1 + 1 + 1) (w.heap.size + 1 + 1 + 1 + 1) ⟨b', n', ⟨r0, r1, r2, r3, r4, r5⟩, ⟨p0, p1, p2, p3, p4, p5⟩, hl'⟩ ⟨ak, ae, av⟩)
  generalize resW w5 (w.heap.size + 1 + 1 + 1) (w.heap.size + 1 + 1 + 1 + 1) ⟨b', n', ⟨r0, r1, r2, r3, r4, r5⟩, ⟨p0, p1, p2, p3, p4, p5⟩, hl'⟩ ⟨ak, ae, av⟩ = X at *
  exact bodyPost_ret (results_two _ _ 8 9 rfl rfl rfl hres.out.1 hres.out.2) rfl ⟨rfl, o1, hrS.out, HI.out, hrs.out⟩
set_option maxRecDepth 100000 in
set_option maxHeartbeats 4000000 in
theorem tdeed_unlike (hS : StIn w o y S) (hI : Inv S) (hb hn a0 a1 a2 a3 a4 a5 s0 s1 s2 s3 s4 s5 : Int) (hl : Bool) (A B : Nat) (fi fn : Int) (ra rb : Nat)
    (hab : ra ≠ rb) (hA : A < 6) (hB : B < 6) (hra : R6.get ⟨a0, a1, a2, a3, a4, a5⟩ A = ra) (hrb : R6.get ⟨a0, a1, a2, a3, a4, a5⟩ B = rb) (hn0 : 0 ≤ hn ∧ hn ≤ 4096) (hb0 : 0 ≤ hb ∧ hb ≤ 4096) :
    Calls Tryz.prog 76 #[ptr y.sb, .int .i64 i, .agg #[.int .i64 11, .int .i64 A, .int .i64 B, .int .i64 fi, .int .i64 fn], .agg #[.int .i64 hb, .int .i64 hn, .int .i64 a0, .int .i64 a1, .int .i64 a2, .int .i64 a3, .int .i64 a4, .int .i64 a5, .int .i64 s0, .int .i64 s1, .int .i64 s2, .int .i64 s3, .int .i64 s4, .int .i64 s5, .bool hl]] w fun e' w' => e' = .returned (.tuple #[(ThV.ended ⟨hb, hn, ⟨a0, a1, a2, a3, a4, a5⟩, ⟨s0, s1, s2, s3, s4, s5⟩, hl⟩ 0).v, (actOf 0 0).val]) ∧ Left y S o w w' := by
  have hmf : ∀ (fn : Fn) (first cap : Array Value) (w : World), (Instr.makeFunc fn first cap).run Tryz.prog w = .ok (.func fn first cap) w := fun _ _ _ _ => rfl
  obtain ⟨o1, ho1⟩ : ∃ o1, o1 = ext o w.heap.size (y.l.id + 1, 0) := ⟨_, rfl⟩
  have h1 := hS.retag (o' := o1) fun b hb => by rw [ho1]; exact ext_lt hb
  have hS0 : Stp (stTag y) o o1 w w := by rw [ho1]; exact (Stp.refl _ o w).ext _ _ (Nat.le_refl _)
  have hbx : ∀ b, w.heap.size ≤ b → bxT y (o1 b) := fun b hb => by rw [ho1]; exact ext_ge hb
  clear ho1 hS
  obtain ⟨W, hW⟩ : ∃ W : World, W = (((((w.alloc (.cells #[ptr y.sb] 23)).alloc (.cells #[.int .i64 11, .int .i64 A, .int .i64 B, .int .i64 fi, .int .i64 fn] 52)).alloc (.cells #[.int .i64 hb, .int .i64 hn, .int .i64 a0, .int .i64 a1, .int .i64 a2, .int .i64 a3, .int .i64 a4, .int .i64 a5, .int .i64 s0, .int .i64 s1, .int .i64 s2, .int .i64 s3, .int .i64 s4, .int .i64 s5, .bool hl] 57)).alloc (.cells #[.int .i64 0, .int .i64 0, .int .i64 0, .int .i64 0, .int .i64 0, .int .i64 0, .int .i64 0, .int .i64 0, .int .i64 0, .int .i64 0, .int .i64 0, .int .i64 0, .int .i64 0, .int .i64 0, .bool false] 57)).alloc (.cells #[.int .i64 0, .int .i64 0, .int .i64 0] 60)).alloc (.cells #[.func (.func 130) #[] #[ptr (w.heap.size + 1 + 1)]] 196) := ⟨_, rfl⟩
  have hbW : Below w.heap.size w W := by rw [hW]; exact balloc (balloc (balloc (balloc (balloc (balloc (bsame w) _) _) _) _) _) _
  have k0 : Blk W w.heap.size #[ptr y.sb] 23 := by rw [hW]; exact (((((Blk.new w _ _).alloc _).alloc _).alloc _).alloc _).alloc _
  have k1 : Blk W (w.heap.size + 1) #[.int .i64 11, .int .i64 A, .int .i64 B, .int .i64 fi, .int .i64 fn] 52 := by rw [hW]; exact ((((Blk.new_at _ _ _ _ _ (by simp) rfl).alloc _).alloc _).alloc _).alloc _
  have k2 : Blk W (w.heap.size + 1 + 1) #[.int .i64 hb, .int .i64 hn, .int .i64 a0, .int .i64 a1, .int .i64 a2, .int .i64 a3, .int .i64 a4, .int .i64 a5, .int .i64 s0, .int .i64 s1, .int .i64 s2, .int .i64 s3, .int .i64 s4, .int .i64 s5, .bool hl] 57 := by rw [hW]; exact (((Blk.new_at _ _ _ _ _ (by simp) rfl).alloc _).alloc _).alloc _
  have k3 : Blk W (w.heap.size + 1 + 1 + 1) #[.int .i64 0, .int .i64 0, .int .i64 0, .int .i64 0, .int .i64 0, .int .i64 0, .int .i64 0, .int .i64 0, .int .i64 0, .int .i64 0, .int .i64 0, .int .i64 0, .int .i64 0, .int .i64 0, .bool false] 57 := by rw [hW]; exact ((Blk.new_at _ _ _ _ _ (by simp) rfl).alloc _).alloc _
  have k4 : Blk W (w.heap.size + 1 + 1 + 1 + 1) #[.int .i64 0, .int .i64 0, .int .i64 0] 60 := by rw [hW]; exact (Blk.new_at _ _ _ _ _ (by simp) rfl).alloc _
  have k5 : Blk W (w.heap.size + 1 + 1 + 1 + 1 + 1) #[.func (.func 130) #[] #[ptr (w.heap.size + 1 + 1)]] 196 := by rw [hW]; exact Blk.new_at _ _ _ _ _ (by simp) rfl
  have hSW := h1.below hbW
  have hsW : Stp (stTag y) o o1 w W := hS0.trans (Stp.of_below hbW)
  have AI : (A : Int) < 6 := by omega
  have BI : (B : Int) < 6 := by omega
  have HB := Lib.hid hbx
  have HT := Lib.hid (fun X (j7 : Blk X (w.heap.size + 1 + 1) (ThV.cells ⟨hb, hn, ⟨a0, a1, a2, a3, a4, a5⟩, ⟨s0, s1, s2, s3, s4, s5⟩, hl⟩) 57) => told_any ⟨hb, hn, ⟨a0, a1, a2, a3, a4, a5⟩, ⟨s0, s1, s2, s3, s4, s5⟩, hl⟩ 0 0 hn0 hb0 X j7)
  obtain ⟨H', hH'⟩ : ∃ H', H' = ThV.ended ⟨hb, hn, ⟨a0, a1, a2, a3, a4, a5⟩, ⟨s0, s1, s2, s3, s4, s5⟩, hl⟩ 0 := ⟨_, rfl⟩
  obtain ⟨A', hA'⟩ : ∃ A', A' = actOf 0 0 := ⟨_, rfl⟩
  rw [← hH', ← hA'] at HT ⊢
  obtain ⟨b', n', ⟨r0, r1, r2, r3, r4, r5⟩, ⟨p0, p1, p2, p3, p4, p5⟩, hl'⟩ := H'
  obtain ⟨ak, ae, av⟩ := A'
  have HT := Lib.hid (fun X j7 => show Calls Tryz.prog 130 #[.int .i64 0, .int .i64 0, ptr (w.heap.size + 1 + 1)] X fun e' w' => e' = .returned (.tuple #[.agg #[.int .i64 b', .int .i64 n', .int .i64 r0, .int .i64 r1, .int .i64 r2, .int .i64 r3, .int .i64 r4, .int .i64 r5, .int .i64 p0, .int .i64 p1, .int .i64 p2, .int .i64 p3, .int .i64 p4, .int .i64 p5, .bool hl'], .agg #[.int .i64 ak, .int .i64 ae, .int .i64 av]]) ∧ Below X.heap.size X w' from HT.out X j7)
  have HI := Lib.hid hI
  clear hH' hA' hI hn0 hb0 h1 hS0 hbx
  go_enter Tryz.func76, Tryz.ntmps76
  go_upto_region 3 with fail
  rw [← hW]
  clear hW
  have cA := reg_cell (h := ⟨hb, hn, ⟨a0, a1, a2, a3, a4, a5⟩, ⟨s0, s1, s2, s3, s4, s5⟩, hl⟩) k2 hA
  have cB := reg_cell (h := ⟨hb, hn, ⟨a0, a1, a2, a3, a4, a5⟩, ⟨s0, s1, s2, s3, s4, s5⟩, hl⟩) k2 hB
  rw [hra] at cA
  rw [hrb] at cB
  have c1 := k1.cell
  have l2 := k2.lt
  go_quiet (fail)
  obtain ⟨V, hV⟩ : ∃ V, V = W.drewN nq := ⟨_, rfl⟩
  have hbV : Below W.heap.size W V := by rw [hV]; exact bdrewN (bsame _) _
  rw [← hV]
  clear hV cA cB c1 l2
  replace k0 := k0.below hbV k0.lt
  replace k1 := k1.below hbV k1.lt
  replace k2 := k2.below hbV k2.lt
  replace k3 := k3.below hbV k3.lt
  replace k4 := k4.below hbV k4.lt
  replace k5 := k5.below hbV k5.lt
  replace hSW := hSW.below hbV
  replace hsW := hsW.trans (Stp.of_below hbV)
  have c0 := k0.cell
  have c1 := k1.cell
  have c5 := k5.cell
  have hcm : ((ra : Int) == (rb : Int)) = false := by rw [beq_eq_false_iff_ne]; omega
  go_wp2_with fail
  obtain ⟨V2, hV2⟩ : ∃ V2, V2 = V := ⟨_, rfl⟩
  rw [← hV2]
  have i2 : Blk V2 (w.heap.size + 1 + 1) (ThV.cells ⟨hb, hn, ⟨a0, a1, a2, a3, a4, a5⟩, ⟨s0, s1, s2, s3, s4, s5⟩, hl⟩) 57 := by rw [hV2]; exact k2
  have i3 : Blk V2 (w.heap.size + 1 + 1 + 1) #[.int .i64 0, .int .i64 0, .int .i64 0, .int .i64 0, .int .i64 0, .int .i64 0, .int .i64 0, .int .i64 0, .int .i64 0, .int .i64 0, .int .i64 0, .int .i64 0, .int .i64 0, .int .i64 0, .bool false] 57 := by rw [hV2]; exact k3
  have i4 : Blk V2 (w.heap.size + 1 + 1 + 1 + 1) #[.int .i64 0, .int .i64 0, .int .i64 0] 60 := by rw [hV2]; exact k4
  have hw : Wr (w.heap.size + 1 + 1) V V2 := by rw [hV2]; exact Wr.refl _ _
  have t2 : bxT y (o1 (w.heap.size + 1 + 1)) := HB.out _ (by omega)
  have hS2 := hSW.bx (Stp.of_wr hw t2)
  have hs2 := hsW.wr_new hw (by omega)
  clear hV2
  refine (HT.out _ i2).mono ?_
  rintro e5 w5 ⟨rfl, hb5⟩
  have m3 := i3.below hb5 i3.lt
  have m4 := i4.below hb5 i4.lt
  have hS5 := hS2.below hb5
  have hs5 := hs2.trans (Stp.of_below hb5)
  clear c0 c1 c5 HT i2 i3 i4 hw hS2 hs2 hb5 k0 k1 k2 k3 k4 k5 hSW hsW 
  have c3 := m3.cell
  have z3 := m3.free
  have l3 := m3.lt
  have c4 := m4.cell
  have z4 := m4.free
  have l4 := m4.lt
  have hres := Lib.hid (res_blk m3 m4 (by omega) ⟨b', n', ⟨r0, r1, r2, r3, r4, r5⟩, ⟨p0, p1, p2, p3, p4, p5⟩, hl'⟩ ⟨ak, ae, av⟩)
  have hrs := Lib.hid (res_stp hs5 (b6 := (w.heap.size + 1 + 1 + 1)) (b7 := (w.heap.size + 1 + 1 + 1 + 1)) (by omega) (by omega) ⟨b', n', ⟨r0, r1, r2, r3, r4, r5⟩, ⟨p0, p1, p2, p3, p4, p5⟩, hl'⟩ ⟨ak, ae, av⟩)
  have hrS := Lib.hid (hS5.bx (res_bx w5 (w.heap.size + 1 + 1 + 1) (w.heap.size + 1 + 1 + 1 + 1) (o := o1) (HB.out _ (by omega)) (HB.out _ (by omega)) ⟨b', n', ⟨r0, r1, r2, r3, r4, r5⟩, ⟨p0, p1, p2, p3, p4, p5⟩, hl'⟩ ⟨ak, ae, av⟩))
  clear m3 m4 hS5 hs5
  go_wp2_with fail
  change bodyPost _ _ _ _ _ (resW w5 (w.heap.size + 1 + 1 + 1) (w.heap.size + 1 + 1 + 1 + 1) ⟨b', n', ⟨r0, r1, r2, r3, r4, r5⟩, ⟨p0, p1, p2, p3, p4, p5⟩, hl'⟩ ⟨ak, ae, av⟩)
  generalize resW w5 (w.heap.size + 1 + 1 + 1) (w.heap.size + 1 + 1 + 1 + 1) ⟨b', n', ⟨r0, r1, r2, r3, r4, r5⟩, ⟨p0, p1, p2, p3, p4, p5⟩, hl'⟩ ⟨ak, ae, av⟩ = X at *
  exact bodyPost_ret (results_two _ _ 8 9 rfl rfl rfl hres.out.1 hres.out.2) rfl ⟨rfl, o1, hrS.out, HI.out, hrs.out⟩
set_option maxRecDepth 100000 in
set_option maxHeartbeats 4000000 in
theorem tdeed_move (hS : StIn w o y S) (hI : Inv S) (hb hn a0 a1 a2 a3 a4 a5 s0 s1 s2 s3 s4 s5 : Int) (hl : Bool) (A B : Nat) (fi fn : Int) (ra rb : Nat)
     (hA : A < 6) (hB : B < 6) (hra : R6.get ⟨a0, a1, a2, a3, a4, a5⟩ A = ra) (hrb : R6.get ⟨a0, a1, a2, a3, a4, a5⟩ B = rb) (hn0 : 0 ≤ hn ∧ hn ≤ 4096) (hb0 : 0 ≤ hb ∧ hb ≤ 4096) :
    Calls Tryz.prog 76 #[ptr y.sb, .int .i64 i, .agg #[.int .i64 12, .int .i64 A, .int .i64 B, .int .i64 fi, .int .i64 fn], .agg #[.int .i64 hb, .int .i64 hn, .int .i64 a0, .int .i64 a1, .int .i64 a2, .int .i64 a3, .int .i64 a4, .int .i64 a5, .int .i64 s0, .int .i64 s1, .int .i64 s2, .int .i64 s3, .int .i64 s4, .int .i64 s5, .bool hl]] w fun e' w' => e' = .returned (.tuple #[(ThV.ended (ThV.put ⟨hb, hn, ⟨a0, a1, a2, a3, a4, a5⟩, ⟨s0, s1, s2, s3, s4, s5⟩, hl⟩ A rb) 0).v, (actOf 0 0).val]) ∧ Left y S o w w' := by
  have hmf : ∀ (fn : Fn) (first cap : Array Value) (w : World), (Instr.makeFunc fn first cap).run Tryz.prog w = .ok (.func fn first cap) w := fun _ _ _ _ => rfl
  obtain ⟨o1, ho1⟩ : ∃ o1, o1 = ext o w.heap.size (y.l.id + 1, 0) := ⟨_, rfl⟩
  have h1 := hS.retag (o' := o1) fun b hb => by rw [ho1]; exact ext_lt hb
  have hS0 : Stp (stTag y) o o1 w w := by rw [ho1]; exact (Stp.refl _ o w).ext _ _ (Nat.le_refl _)
  have hbx : ∀ b, w.heap.size ≤ b → bxT y (o1 b) := fun b hb => by rw [ho1]; exact ext_ge hb
  clear ho1 hS
  obtain ⟨W, hW⟩ : ∃ W : World, W = (((((w.alloc (.cells #[ptr y.sb] 23)).alloc (.cells #[.int .i64 12, .int .i64 A, .int .i64 B, .int .i64 fi, .int .i64 fn] 52)).alloc (.cells #[.int .i64 hb, .int .i64 hn, .int .i64 a0, .int .i64 a1, .int .i64 a2, .int .i64 a3, .int .i64 a4, .int .i64 a5, .int .i64 s0, .int .i64 s1, .int .i64 s2, .int .i64 s3, .int .i64 s4, .int .i64 s5, .bool hl] 57)).alloc (.cells #[.int .i64 0, .int .i64 0, .int .i64 0, .int .i64 0, .int .i64 0, .int .i64 0, .int .i64 0, .int .i64 0, .int .i64 0, .int .i64 0, .int .i64 0, .int .i64 0, .int .i64 0, .int .i64 0, .bool false] 57)).alloc (.cells #[.int .i64 0, .int .i64 0, .int .i64 0] 60)).alloc (.cells #[.func (.func 130) #[] #[ptr (w.heap.size + 1 + 1)]] 196) := ⟨_, rfl⟩
  have hbW : Below w.heap.size w W := by rw [hW]; exact balloc (balloc (balloc (balloc (balloc (balloc (bsame w) _) _) _) _) _) _
  have k0 : Blk W w.heap.size #[ptr y.sb] 23 := by rw [hW]; exact (((((Blk.new w _ _).alloc _).alloc _).alloc _).alloc _).alloc _
  have k1 : Blk W (w.heap.size + 1) #[.int .i64 12, .int .i64 A, .int .i64 B, .int .i64 fi, .int .i64 fn] 52 := by rw [hW]; exact ((((Blk.new_at _ _ _ _ _ (by simp) rfl).alloc _).alloc _).alloc _).alloc _
  have k2 : Blk W (w.heap.size + 1 + 1) #[.int .i64 hb, .int .i64 hn, .int .i64 a0, .int .i64 a1, .int .i64 a2, .int .i64 a3, .int .i64 a4, .int .i64 a5, .int .i64 s0, .int .i64 s1, .int .i64 s2, .int .i64 s3, .int .i64 s4, .int .i64 s5, .bool hl] 57 := by rw [hW]; exact (((Blk.new_at _ _ _ _ _ (by simp) rfl).alloc _).alloc _).alloc _
  have k3 : Blk W (w.heap.size + 1 + 1 + 1) #[.int .i64 0, .int .i64 0, .int .i64 0, .int .i64 0, .int .i64 0, .int .i64 0, .int .i64 0, .int .i64 0, .int .i64 0, .int .i64 0, .int .i64 0, .int .i64 0, .int .i64 0, .int .i64 0, .bool false] 57 := by rw [hW]; exact ((Blk.new_at _ _ _ _ _ (by simp) rfl).alloc _).alloc _
  have k4 : Blk W (w.heap.size + 1 + 1 + 1 + 1) #[.int .i64 0, .int .i64 0, .int .i64 0] 60 := by rw [hW]; exact (Blk.new_at _ _ _ _ _ (by simp) rfl).alloc _
  have k5 : Blk W (w.heap.size + 1 + 1 + 1 + 1 + 1) #[.func (.func 130) #[] #[ptr (w.heap.size + 1 + 1)]] 196 := by rw [hW]; exact Blk.new_at _ _ _ _ _ (by simp) rfl
  have hSW := h1.below hbW
  have hsW : Stp (stTag y) o o1 w W := hS0.trans (Stp.of_below hbW)
  have AI : (A : Int) < 6 := by omega
  have BI : (B : Int) < 6 := by omega
  have HB := Lib.hid hbx
  have HT := Lib.hid (fun X (j7 : Blk X (w.heap.size + 1 + 1) (ThV.cells (ThV.put ⟨hb, hn, ⟨a0, a1, a2, a3, a4, a5⟩, ⟨s0, s1, s2, s3, s4, s5⟩, hl⟩ A rb)) 57) => told_any (ThV.put ⟨hb, hn, ⟨a0, a1, a2, a3, a4, a5⟩, ⟨s0, s1, s2, s3, s4, s5⟩, hl⟩ A rb) 0 0 hn0 hb0 X j7)
  obtain ⟨H', hH'⟩ : ∃ H', H' = ThV.ended (ThV.put ⟨hb, hn, ⟨a0, a1, a2, a3, a4, a5⟩, ⟨s0, s1, s2, s3, s4, s5⟩, hl⟩ A rb) 0 := ⟨_, rfl⟩
  obtain ⟨A', hA'⟩ : ∃ A', A' = actOf 0 0 := ⟨_, rfl⟩
  rw [← hH', ← hA'] at HT ⊢
  obtain ⟨b', n', ⟨r0, r1, r2, r3, r4, r5⟩, ⟨p0, p1, p2, p3, p4, p5⟩, hl'⟩ := H'
  obtain ⟨ak, ae, av⟩ := A'
  have HT := Lib.hid (fun X j7 => show Calls Tryz.prog 130 #[.int .i64 0, .int .i64 0, ptr (w.heap.size + 1 + 1)] X fun e' w' => e' = .returned (.tuple #[.agg #[.int .i64 b', .int .i64 n', .int .i64 r0, .int .i64 r1, .int .i64 r2, .int .i64 r3, .int .i64 r4, .int .i64 r5, .int .i64 p0, .int .i64 p1, .int .i64 p2, .int .i64 p3, .int .i64 p4, .int .i64 p5, .bool hl'], .agg #[.int .i64 ak, .int .i64 ae, .int .i64 av]]) ∧ Below X.heap.size X w' from HT.out X j7)
  have HI := Lib.hid hI
  clear hH' hA' hI hn0 hb0 h1 hS0 hbx
  go_enter Tryz.func76, Tryz.ntmps76
  go_upto_region 3 with fail
  rw [← hW]
  clear hW
  have cA := reg_cell (h := ⟨hb, hn, ⟨a0, a1, a2, a3, a4, a5⟩, ⟨s0, s1, s2, s3, s4, s5⟩, hl⟩) k2 hA
  have cB := reg_cell (h := ⟨hb, hn, ⟨a0, a1, a2, a3, a4, a5⟩, ⟨s0, s1, s2, s3, s4, s5⟩, hl⟩) k2 hB
  rw [hra] at cA
  rw [hrb] at cB
  have c1 := k1.cell
  have l2 := k2.lt
  go_quiet (fail)
  obtain ⟨V, hV⟩ : ∃ V, V = W.drewN nq := ⟨_, rfl⟩
  have hbV : Below W.heap.size W V := by rw [hV]; exact bdrewN (bsame _) _
  rw [← hV]
  clear hV cA cB c1 l2
  replace k0 := k0.below hbV k0.lt
  replace k1 := k1.below hbV k1.lt
  replace k2 := k2.below hbV k2.lt
  replace k3 := k3.below hbV k3.lt
  replace k4 := k4.below hbV k4.lt
  replace k5 := k5.below hbV k5.lt
  replace hSW := hSW.below hbV
  replace hsW := hsW.trans (Stp.of_below hbV)
  have c0 := k0.cell
  have c1 := k1.cell
  have c5 := k5.cell
  have cR := reg_cell (h := ⟨hb, hn, ⟨a0, a1, a2, a3, a4, a5⟩, ⟨s0, s1, s2, s3, s4, s5⟩, hl⟩) k2 hA
  have z2 := k2.free
  have l2 := k2.lt
  have i5 := k5.set_other (a := ⟨(w.heap.size + 1 + 1), 2 + A, none⟩) (by show _ ≠ (w.heap.size + 1 + 1); omega) (.int .i64 rb)
  have ci5 : (V.setCell ⟨(w.heap.size + 1 + 1), 2 + A, none⟩ (.int .i64 rb)).cell? ⟨(w.heap.size + 1 + 1 + 1 + 1 + 1), 0, none⟩ = _ := i5.cell 0
  go_wp2_with fail
  obtain ⟨V2, hV2⟩ : ∃ V2, V2 = (V.setCell ⟨(w.heap.size + 1 + 1), 2 + A, none⟩ (.int .i64 rb)) := ⟨_, rfl⟩
  rw [← hV2]
  have i2 : Blk V2 (w.heap.size + 1 + 1) (ThV.cells (ThV.put ⟨hb, hn, ⟨a0, a1, a2, a3, a4, a5⟩, ⟨s0, s1, s2, s3, s4, s5⟩, hl⟩ A rb)) 57 := by rw [hV2]; exact put_blk (h := ⟨hb, hn, ⟨a0, a1, a2, a3, a4, a5⟩, ⟨s0, s1, s2, s3, s4, s5⟩, hl⟩) k2 hA _
  have i3 : Blk V2 (w.heap.size + 1 + 1 + 1) #[.int .i64 0, .int .i64 0, .int .i64 0, .int .i64 0, .int .i64 0, .int .i64 0, .int .i64 0, .int .i64 0, .int .i64 0, .int .i64 0, .int .i64 0, .int .i64 0, .int .i64 0, .int .i64 0, .bool false] 57 := by rw [hV2]; exact k3.set_other (a := ⟨(w.heap.size + 1 + 1), 2 + A, none⟩) (by show _ ≠ (w.heap.size + 1 + 1); omega) (.int .i64 rb)
  have i4 : Blk V2 (w.heap.size + 1 + 1 + 1 + 1) #[.int .i64 0, .int .i64 0, .int .i64 0] 60 := by rw [hV2]; exact k4.set_other (a := ⟨(w.heap.size + 1 + 1), 2 + A, none⟩) (by show _ ≠ (w.heap.size + 1 + 1); omega) (.int .i64 rb)
  have hw : Wr (w.heap.size + 1 + 1) V V2 := by rw [hV2]; exact Wr.set _ _ _ _
  have t2 : bxT y (o1 (w.heap.size + 1 + 1)) := HB.out _ (by omega)
  have hS2 := hSW.bx (Stp.of_wr hw t2)
  have hs2 := hsW.wr_new hw (by omega)
  clear hV2
  refine (HT.out _ i2).mono ?_
  rintro e5 w5 ⟨rfl, hb5⟩
  have m3 := i3.below hb5 i3.lt
  have m4 := i4.below hb5 i4.lt
  have hS5 := hS2.below hb5
  have hs5 := hs2.trans (Stp.of_below hb5)
  clear c0 c1 c5 HT i2 i3 i4 hw hS2 hs2 hb5 k0 k1 k2 k3 k4 k5 hSW hsW i5 ci5 cR z2 l2
  have c3 := m3.cell
  have z3 := m3.free
  have l3 := m3.lt
  have c4 := m4.cell
  have z4 := m4.free
  have l4 := m4.lt
  have hres := Lib.hid (res_blk m3 m4 (by omega) ⟨b', n', ⟨r0, r1, r2, r3, r4, r5⟩, ⟨p0, p1, p2, p3, p4, p5⟩, hl'⟩ ⟨ak, ae, av⟩)
  have hrs := Lib.hid (res_stp hs5 (b6 := (w.heap.size + 1 + 1 + 1)) (b7 := (w.heap.size + 1 + 1 + 1 + 1)) (by omega) (by omega) ⟨b', n', ⟨r0, r1, r2, r3, r4, r5⟩, ⟨p0, p1, p2, p3, p4, p5⟩, hl'⟩ ⟨ak, ae, av⟩)
  have hrS := Lib.hid (hS5.bx (res_bx w5 (w.heap.size + 1 + 1 + 1) (w.heap.size + 1 + 1 + 1 + 1) (o := o1) (HB.out _ (by omega)) (HB.out _ (by omega)) ⟨b', n', ⟨r0, r1, r2, r3, r4, r5⟩, ⟨p0, p1, p2, p3, p4, p5⟩, hl'⟩ ⟨ak, ae, av⟩))
  clear m3 m4 hS5 hs5
  go_wp2_with fail
  change bodyPost _ _ _ _ _ (resW w5 (w.heap.size + 1 + 1 + 1) (w.heap.size + 1 + 1 + 1 + 1) ⟨b', n', ⟨r0, r1, r2, r3, r4, r5⟩, ⟨p0, p1, p2, p3, p4, p5⟩, hl'⟩ ⟨ak, ae, av⟩)
  generalize resW w5 (w.heap.size + 1 + 1 + 1) (w.heap.size + 1 + 1 + 1 + 1) ⟨b', n', ⟨r0, r1, r2, r3, r4, r5⟩, ⟨p0, p1, p2, p3, p4, p5⟩, hl'⟩ ⟨ak, ae, av⟩ = X at *
  exact bodyPost_ret (results_two _ _ 8 9 rfl rfl rfl hres.out.1 hres.out.2) rfl ⟨rfl, o1, hrS.out, HI.out, hrs.out⟩
set_option maxRecDepth 100000 in
set_option maxHeartbeats 4000000 in
theorem tdeed_nil (hS : StIn w o y S) (hI : Inv S) (hb hn a0 a1 a2 a3 a4 a5 s0 s1 s2 s3 s4 s5 : Int) (hl : Bool) (A B : Nat) (fi fn : Int) (ra rb : Nat)
     (hA : A < 6) (hB : B < 6) (hra : R6.get ⟨a0, a1, a2, a3, a4, a5⟩ A = ra) (hrb : R6.get ⟨a0, a1, a2, a3, a4, a5⟩ B = rb) (hn0 : 0 ≤ hn ∧ hn ≤ 4096) (hb0 : 0 ≤ hb ∧ hb ≤ 4096) :
    Calls Tryz.prog 76 #[ptr y.sb, .int .i64 i, .agg #[.int .i64 13, .int .i64 A, .int .i64 B, .int .i64 fi, .int .i64 fn], .agg #[.int .i64 hb, .int .i64 hn, .int .i64 a0, .int .i64 a1, .int .i64 a2, .int .i64 a3, .int .i64 a4, .int .i64 a5, .int .i64 s0, .int .i64 s1, .int .i64 s2, .int .i64 s3, .int .i64 s4, .int .i64 s5, .bool hl]] w fun e' w' => e' = .returned (.tuple #[(ThV.ended (ThV.put ⟨hb, hn, ⟨a0, a1, a2, a3, a4, a5⟩, ⟨s0, s1, s2, s3, s4, s5⟩, hl⟩ A 0) 0).v, (actOf 0 0).val]) ∧ Left y S o w w' := by
  have hmf : ∀ (fn : Fn) (first cap : Array Value) (w : World), (Instr.makeFunc fn first cap).run Tryz.prog w = .ok (.func fn first cap) w := fun _ _ _ _ => rfl
  obtain ⟨o1, ho1⟩ : ∃ o1, o1 = ext o w.heap.size (y.l.id + 1, 0) := ⟨_, rfl⟩
  have h1 := hS.retag (o' := o1) fun b hb => by rw [ho1]; exact ext_lt hb
  have hS0 : Stp (stTag y) o o1 w w := by rw [ho1]; exact (Stp.refl _ o w).ext _ _ (Nat.le_refl _)
  have hbx : ∀ b, w.heap.size ≤ b → bxT y (o1 b) := fun b hb => by rw [ho1]; exact ext_ge hb
  clear ho1 hS
  obtain ⟨W, hW⟩ : ∃ W : World, W = (((((w.alloc (.cells #[ptr y.sb] 23)).alloc (.cells #[.int .i64 13, .int .i64 A, .int .i64 B, .int .i64 fi, .int .i64 fn] 52)).alloc (.cells #[.int .i64 hb, .int .i64 hn, .int .i64 a0, .int .i64 a1, .int .i64 a2, .int .i64 a3, .int .i64 a4, .int .i64 a5, .int .i64 s0, .int .i64 s1, .int .i64 s2, .int .i64 s3, .int .i64 s4, .int .i64 s5, .bool hl] 57)).alloc (.cells #[.int .i64 0, .int .i64 0, .int .i64 0, .int .i64 0, .int .i64 0, .int .i64 0, .int .i64 0, .int .i64 0, .int .i64 0, .int .i64 0, .int .i64 0, .int .i64 0, .int .i64 0, .int .i64 0, .bool false] 57)).alloc (.cells #[.int .i64 0, .int .i64 0, .int .i64 0] 60)).alloc (.cells #[.func (.func 130) #[] #[ptr (w.heap.size + 1 + 1)]] 196) := ⟨_, rfl⟩
  have hbW : Below w.heap.size w W := by rw [hW]; exact balloc (balloc (balloc (balloc (balloc (balloc (bsame w) _) _) _) _) _) _
  have k0 : Blk W w.heap.size #[ptr y.sb] 23 := by rw [hW]; exact (((((Blk.new w _ _).alloc _).alloc _).alloc _).alloc _).alloc _
  have k1 : Blk W (w.heap.size + 1) #[.int .i64 13, .int .i64 A, .int .i64 B, .int .i64 fi, .int .i64 fn] 52 := by rw [hW]; exact ((((Blk.new_at _ _ _ _ _ (by simp) rfl).alloc _).alloc _).alloc _).alloc _
  have k2 : Blk W (w.heap.size + 1 + 1) #[.int .i64 hb, .int .i64 hn, .int .i64 a0, .int .i64 a1, .int .i64 a2, .int .i64 a3, .int .i64 a4, .int .i64 a5, .int .i64 s0, .int .i64 s1, .int .i64 s2, .int .i64 s3, .int .i64 s4, .int .i64 s5, .bool hl] 57 := by rw [hW]; exact (((Blk.new_at _ _ _ _ _ (by simp) rfl).alloc _).alloc _).alloc _
  have k3 : Blk W (w.heap.size + 1 + 1 + 1) #[.int .i64 0, .int .i64 0, .int .i64 0, .int .i64 0, .int .i64 0, .int .i64 0, .int .i64 0, .int .i64 0, .int .i64 0, .int .i64 0, .int .i64 0, .int .i64 0, .int .i64 0, .int .i64 0, .bool false] 57 := by rw [hW]; exact ((Blk.new_at _ _ _ _ _ (by simp) rfl).alloc _).alloc _
  have k4 : Blk W (w.heap.size + 1 + 1 + 1 + 1) #[.int .i64 0, .int .i64 0, .int .i64 0] 60 := by rw [hW]; exact (Blk.new_at _ _ _ _ _ (by simp) rfl).alloc _
  have k5 : Blk W (w.heap.size + 1 + 1 + 1 + 1 + 1) #[.func (.func 130) #[] #[ptr (w.heap.size + 1 + 1)]] 196 := by rw [hW]; exact Blk.new_at _ _ _ _ _ (by simp) rfl
  have hSW := h1.below hbW
  have hsW : Stp (stTag y) o o1 w W := hS0.trans (Stp.of_below hbW)
  have AI : (A : Int) < 6 := by omega
  have BI : (B : Int) < 6 := by omega
  have HB := Lib.hid hbx
  have HT := Lib.hid (fun X (j7 : Blk X (w.heap.size + 1 + 1) (ThV.cells (ThV.put ⟨hb, hn, ⟨a0, a1, a2, a3, a4, a5⟩, ⟨s0, s1, s2, s3, s4, s5⟩, hl⟩ A 0)) 57) => told_any (ThV.put ⟨hb, hn, ⟨a0, a1, a2, a3, a4, a5⟩, ⟨s0, s1, s2, s3, s4, s5⟩, hl⟩ A 0) 0 0 hn0 hb0 X j7)
  obtain ⟨H', hH'⟩ : ∃ H', H' = ThV.ended (ThV.put ⟨hb, hn, ⟨a0, a1, a2, a3, a4, a5⟩, ⟨s0, s1, s2, s3, s4, s5⟩, hl⟩ A 0) 0 := ⟨_, rfl⟩
  obtain ⟨A', hA'⟩ : ∃ A', A' = actOf 0 0 := ⟨_, rfl⟩
  rw [← hH', ← hA'] at HT ⊢
  obtain ⟨b', n', ⟨r0, r1, r2, r3, r4, r5⟩, ⟨p0, p1, p2, p3, p4, p5⟩, hl'⟩ := H'
  obtain ⟨ak, ae, av⟩ := A'
  have HT := Lib.hid (fun X j7 => show Calls Tryz.prog 130 #[.int .i64 0, .int .i64 0, ptr (w.heap.size + 1 + 1)] X fun e' w' => e' = .returned (.tuple #[.agg #[.int .i64 b', .int .i64 n', .int .i64 r0, .int .i64 r1, .int .i64 r2, .int .i64 r3, .int .i64 r4, .int .i64 r5, .int .i64 p0, .int .i64 p1, .int .i64 p2, .int .i64 p3, .int .i64 p4, .int .i64 p5, .bool hl'], .agg #[.int .i64 ak, .int .i64 ae, .int .i64 av]]) ∧ Below X.heap.size X w' from HT.out X j7)
  have HI := Lib.hid hI
  clear hH' hA' hI hn0 hb0 h1 hS0 hbx
  go_enter Tryz.func76, Tryz.ntmps76
  go_upto_region 3 with fail
  rw [← hW]
  clear hW
  have cA := reg_cell (h := ⟨hb, hn, ⟨a0, a1, a2, a3, a4, a5⟩, ⟨s0, s1, s2, s3, s4, s5⟩, hl⟩) k2 hA
  have cB := reg_cell (h := ⟨hb, hn, ⟨a0, a1, a2, a3, a4, a5⟩, ⟨s0, s1, s2, s3, s4, s5⟩, hl⟩) k2 hB
  rw [hra] at cA
  rw [hrb] at cB
  have c1 := k1.cell
  have l2 := k2.lt
  go_quiet (fail)
  obtain ⟨V, hV⟩ : ∃ V, V = W.drewN nq := ⟨_, rfl⟩
  have hbV : Below W.heap.size W V := by rw [hV]; exact bdrewN (bsame _) _
  rw [← hV]
  clear hV cA cB c1 l2
  replace k0 := k0.below hbV k0.lt
  replace k1 := k1.below hbV k1.lt
  replace k2 := k2.below hbV k2.lt
  replace k3 := k3.below hbV k3.lt
  replace k4 := k4.below hbV k4.lt
  replace k5 := k5.below hbV k5.lt
  replace hSW := hSW.below hbV
  replace hsW := hsW.trans (Stp.of_below hbV)
  have c0 := k0.cell
  have c1 := k1.cell
  have c5 := k5.cell
  have cR := reg_cell (h := ⟨hb, hn, ⟨a0, a1, a2, a3, a4, a5⟩, ⟨s0, s1, s2, s3, s4, s5⟩, hl⟩) k2 hA
  have z2 := k2.free
  have l2 := k2.lt
  have i5 := k5.set_other (a := ⟨(w.heap.size + 1 + 1), 2 + A, none⟩) (by show _ ≠ (w.heap.size + 1 + 1); omega) (.int .i64 0)
  have ci5 : (V.setCell ⟨(w.heap.size + 1 + 1), 2 + A, none⟩ (.int .i64 0)).cell? ⟨(w.heap.size + 1 + 1 + 1 + 1 + 1), 0, none⟩ = _ := i5.cell 0
  go_wp2_with fail
  obtain ⟨V2, hV2⟩ : ∃ V2, V2 = (V.setCell ⟨(w.heap.size + 1 + 1), 2 + A, none⟩ (.int .i64 0)) := ⟨_, rfl⟩
  rw [← hV2]
  have i2 : Blk V2 (w.heap.size + 1 + 1) (ThV.cells (ThV.put ⟨hb, hn, ⟨a0, a1, a2, a3, a4, a5⟩, ⟨s0, s1, s2, s3, s4, s5⟩, hl⟩ A 0)) 57 := by rw [hV2]; exact put_blk (h := ⟨hb, hn, ⟨a0, a1, a2, a3, a4, a5⟩, ⟨s0, s1, s2, s3, s4, s5⟩, hl⟩) k2 hA _
  have i3 : Blk V2 (w.heap.size + 1 + 1 + 1) #[.int .i64 0, .int .i64 0, .int .i64 0, .int .i64 0, .int .i64 0, .int .i64 0, .int .i64 0, .int .i64 0, .int .i64 0, .int .i64 0, .int .i64 0, .int .i64 0, .int .i64 0, .int .i64 0, .bool false] 57 := by rw [hV2]; exact k3.set_other (a := ⟨(w.heap.size + 1 + 1), 2 + A, none⟩) (by show _ ≠ (w.heap.size + 1 + 1); omega) (.int .i64 0)
  have i4 : Blk V2 (w.heap.size + 1 + 1 + 1 + 1) #[.int .i64 0, .int .i64 0, .int .i64 0] 60 := by rw [hV2]; exact k4.set_other (a := ⟨(w.heap.size + 1 + 1), 2 + A, none⟩) (by show _ ≠ (w.heap.size + 1 + 1); omega) (.int .i64 0)
  have hw : Wr (w.heap.size + 1 + 1) V V2 := by rw [hV2]; exact Wr.set _ _ _ _
  have t2 : bxT y (o1 (w.heap.size + 1 + 1)) := HB.out _ (by omega)
  have hS2 := hSW.bx (Stp.of_wr hw t2)
  have hs2 := hsW.wr_new hw (by omega)
  clear hV2
  refine (HT.out _ i2).mono ?_
  rintro e5 w5 ⟨rfl, hb5⟩
  have m3 := i3.below hb5 i3.lt
  have m4 := i4.below hb5 i4.lt
  have hS5 := hS2.below hb5
  have hs5 := hs2.trans (Stp.of_below hb5)
  clear c0 c1 c5 HT i2 i3 i4 hw hS2 hs2 hb5 k0 k1 k2 k3 k4 k5 hSW hsW i5 ci5 cR z2 l2
  have c3 := m3.cell
  have z3 := m3.free
  have l3 := m3.lt
  have c4 := m4.cell
  have z4 := m4.free
  have l4 := m4.lt
  have hres := Lib.hid (res_blk m3 m4 (by omega) ⟨b', n', ⟨r0, r1, r2, r3, r4, r5⟩, ⟨p0, p1, p2, p3, p4, p5⟩, hl'⟩ ⟨ak, ae, av⟩)
  have hrs := Lib.hid (res_stp hs5 (b6 := (w.heap.size + 1 + 1 + 1)) (b7 := (w.heap.size + 1 + 1 + 1 + 1)) (by omega) (by omega) ⟨b', n', ⟨r0, r1, r2, r3, r4, r5⟩, ⟨p0, p1, p2, p3, p4, p5⟩, hl'⟩ ⟨ak, ae, av⟩)
  have hrS := Lib.hid (hS5.bx (res_bx w5 (w.heap.size + 1 + 1 + 1) (w.heap.size + 1 + 1 + 1 + 1) (o := o1) (HB.out _ (by omega)) (HB.out _ (by omega)) ⟨b', n', ⟨r0, r1, r2, r3, r4, r5⟩, ⟨p0, p1, p2, p3, p4, p5⟩, hl'⟩ ⟨ak, ae, av⟩))
  clear m3 m4 hS5 hs5
  go_wp2_with fail
  change bodyPost _ _ _ _ _ (resW w5 (w.heap.size + 1 + 1 + 1) (w.heap.size + 1 + 1 + 1 + 1) ⟨b', n', ⟨r0, r1, r2, r3, r4, r5⟩, ⟨p0, p1, p2, p3, p4, p5⟩, hl'⟩ ⟨ak, ae, av⟩)
  generalize resW w5 (w.heap.size + 1 + 1 + 1) (w.heap.size + 1 + 1 + 1 + 1) ⟨b', n', ⟨r0, r1, r2, r3, r4, r5⟩, ⟨p0, p1, p2, p3, p4, p5⟩, hl'⟩ ⟨ak, ae, av⟩ = X at *
  exact bodyPost_ret (results_two _ _ 8 9 rfl rfl rfl hres.out.1 hres.out.2) rfl ⟨rfl, o1, hrS.out, HI.out, hrs.out⟩
end
end Go.Proofs.YtemohiainfllcaaGreat

/- Threads: deeds (printed by tools/gen_deed.py T10). -/
namespace Go.Proofs.YtemohiainfllcaaGreat
open Go.RowKit Hp
attribute [local go_sem ↓] Go.wp_at_zero Go.wp_at_succ
theorem thW_wr (W : World) (b : Nat) (h : ThV) : Wr b W (thW W b h) := ((((((((((((((((Wr.refl b W).trans (Wr.set b _ 0 _)).trans (Wr.set b _ 1 _)).trans (Wr.set b _ 2 _)).trans (Wr.set b _ 3 _)).trans (Wr.set b _ 4 _)).trans (Wr.set b _ 5 _)).trans (Wr.set b _ 6 _)).trans (Wr.set b _ 7 _)).trans (Wr.set b _ 8 _)).trans (Wr.set b _ 9 _)).trans (Wr.set b _ 10 _)).trans (Wr.set b _ 11 _)).trans (Wr.set b _ 12 _)).trans (Wr.set b _ 13 _)).trans (Wr.set b _ 14 _))
section
variable {w w' : World} {o o' : Own} {y : SLay} {S : Stt} {i : Nat}

set_option maxRecDepth 100000 in
set_option maxHeartbeats 4000000 in
theorem tdeed_abort (hS : StIn w o y S) (hI : Inv S) (hb hn a0 a1 a2 a3 a4 a5 s0 s1 s2 s3 s4 s5 : Int) (hl : Bool) (A B : Nat) (fi fn : Int) (ra rb : Nat)
    (hi : i < S.txs.length) (hlv : (S.t i).live = true) (hA : A < 6) (hB : B < 6) (hra : R6.get ⟨a0, a1, a2, a3, a4, a5⟩ A = ra) (hrb : R6.get ⟨a0, a1, a2, a3, a4, a5⟩ B = rb) (hb0 : 0 ≤ hb ∧ hb ≤ 4096) :
    Calls Tryz.prog 76 #[ptr y.sb, .int .i64 i, .agg #[.int .i64 14, .int .i64 A, .int .i64 B, .int .i64 fi, .int .i64 fn], .agg #[.int .i64 hb, .int .i64 hn, .int .i64 a0, .int .i64 a1, .int .i64 a2, .int .i64 a3, .int .i64 a4, .int .i64 a5, .int .i64 s0, .int .i64 s1, .int .i64 s2, .int .i64 s3, .int .i64 s4, .int .i64 s5, .bool hl]] w fun e' w' => e' = .returned (.tuple #[ThV.v ⟨(hb + 1), 0, ⟨s0, s1, s2, s3, s4, s5⟩, ⟨s0, s1, s2, s3, s4, s5⟩, false⟩, ActV.val ⟨2, 0, 0⟩]) ∧ Left y (S.abort i) o w w' := by
  have hmf : ∀ (fn : Fn) (first cap : Array Value) (w : World), (Instr.makeFunc fn first cap).run Tryz.prog w = .ok (.func fn first cap) w := fun _ _ _ _ => rfl
  obtain ⟨o1, ho1⟩ : ∃ o1, o1 = ext o w.heap.size (y.l.id + 1, 0) := ⟨_, rfl⟩
  have h1 := hS.retag (o' := o1) fun b hb => by rw [ho1]; exact ext_lt hb
  have hS0 : Stp (stTag y) o o1 w w := by rw [ho1]; exact (Stp.refl _ o w).ext _ _ (Nat.le_refl _)
  have hbx : ∀ b, w.heap.size ≤ b → bxT y (o1 b) := fun b hb => by rw [ho1]; exact ext_ge hb
  clear ho1 hS
  obtain ⟨W, hW⟩ : ∃ W : World, W = (((((w.alloc (.cells #[ptr y.sb] 23)).alloc (.cells #[.int .i64 14, .int .i64 A, .int .i64 B, .int .i64 fi, .int .i64 fn] 52)).alloc (.cells #[.int .i64 hb, .int .i64 hn, .int .i64 a0, .int .i64 a1, .int .i64 a2, .int .i64 a3, .int .i64 a4, .int .i64 a5, .int .i64 s0, .int .i64 s1, .int .i64 s2, .int .i64 s3, .int .i64 s4, .int .i64 s5, .bool hl] 57)).alloc (.cells #[.int .i64 0, .int .i64 0, .int .i64 0, .int .i64 0, .int .i64 0, .int .i64 0, .int .i64 0, .int .i64 0, .int .i64 0, .int .i64 0, .int .i64 0, .int .i64 0, .int .i64 0, .int .i64 0, .bool false] 57)).alloc (.cells #[.int .i64 0, .int .i64 0, .int .i64 0] 60)).alloc (.cells #[.func (.func 130) #[] #[ptr (w.heap.size + 1 + 1)]] 196) := ⟨_, rfl⟩
  have hbW : Below w.heap.size w W := by rw [hW]; exact balloc (balloc (balloc (balloc (balloc (balloc (bsame w) _) _) _) _) _) _
  have k0 : Blk W w.heap.size #[ptr y.sb] 23 := by rw [hW]; exact (((((Blk.new w _ _).alloc _).alloc _).alloc _).alloc _).alloc _
  have k1 : Blk W (w.heap.size + 1) #[.int .i64 14, .int .i64 A, .int .i64 B, .int .i64 fi, .int .i64 fn] 52 := by rw [hW]; exact ((((Blk.new_at _ _ _ _ _ (by simp) rfl).alloc _).alloc _).alloc _).alloc _
  have k2 : Blk W (w.heap.size + 1 + 1) #[.int .i64 hb, .int .i64 hn, .int .i64 a0, .int .i64 a1, .int .i64 a2, .int .i64 a3, .int .i64 a4, .int .i64 a5, .int .i64 s0, .int .i64 s1, .int .i64 s2, .int .i64 s3, .int .i64 s4, .int .i64 s5, .bool hl] 57 := by rw [hW]; exact (((Blk.new_at _ _ _ _ _ (by simp) rfl).alloc _).alloc _).alloc _
  have k3 : Blk W (w.heap.size + 1 + 1 + 1) #[.int .i64 0, .int .i64 0, .int .i64 0, .int .i64 0, .int .i64 0, .int .i64 0, .int .i64 0, .int .i64 0, .int .i64 0, .int .i64 0, .int .i64 0, .int .i64 0, .int .i64 0, .int .i64 0, .bool false] 57 := by rw [hW]; exact ((Blk.new_at _ _ _ _ _ (by simp) rfl).alloc _).alloc _
  have k4 : Blk W (w.heap.size + 1 + 1 + 1 + 1) #[.int .i64 0, .int .i64 0, .int .i64 0] 60 := by rw [hW]; exact (Blk.new_at _ _ _ _ _ (by simp) rfl).alloc _
  have k5 : Blk W (w.heap.size + 1 + 1 + 1 + 1 + 1) #[.func (.func 130) #[] #[ptr (w.heap.size + 1 + 1)]] 196 := by rw [hW]; exact Blk.new_at _ _ _ _ _ (by simp) rfl
  have hSW := h1.below hbW
  have hsW : Stp (stTag y) o o1 w W := hS0.trans (Stp.of_below hbW)
  have AI : (A : Int) < 6 := by omega
  have BI : (B : Int) < 6 := by omega
  have HB := Lib.hid hbx
  have HC := Lib.hid (fun X o2 (h2 : StIn X o2 y S) => by have := c_abort h2 hI hi; rw [hlv] at this; simp only [if_true] at this; exact this)
  have HK := Lib.hid (fun X => show Calls Tryz.prog 128 #[.agg #[.int .i64 hb, .int .i64 hn, .int .i64 a0, .int .i64 a1, .int .i64 a2, .int .i64 a3, .int .i64 a4, .int .i64 a5, .int .i64 s0, .int .i64 s1, .int .i64 s2, .int .i64 s3, .int .i64 s4, .int .i64 s5, .bool hl]] X fun e w' => e = .returned (.agg #[.int .i64 hb, .int .i64 0, .int .i64 s0, .int .i64 s1, .int .i64 s2, .int .i64 s3, .int .i64 s4, .int .i64 s5, .int .i64 s0, .int .i64 s1, .int .i64 s2, .int .i64 s3, .int .i64 s4, .int .i64 s5, .bool false]) ∧ Below X.heap.size X w' from back_any ⟨hb, hn, ⟨a0, a1, a2, a3, a4, a5⟩, ⟨s0, s1, s2, s3, s4, s5⟩, hl⟩ X)
  obtain ⟨b1, b2⟩ := hb0
  generalize S.abort i = SA at *
  clear hI hi hlv h1 hS0 hbx
  go_enter Tryz.func76, Tryz.ntmps76
  go_upto_region 3 with fail
  rw [← hW]
  clear hW
  have cA := reg_cell (h := ⟨hb, hn, ⟨a0, a1, a2, a3, a4, a5⟩, ⟨s0, s1, s2, s3, s4, s5⟩, hl⟩) k2 hA
  have cB := reg_cell (h := ⟨hb, hn, ⟨a0, a1, a2, a3, a4, a5⟩, ⟨s0, s1, s2, s3, s4, s5⟩, hl⟩) k2 hB
  rw [hra] at cA
  rw [hrb] at cB
  have c1 := k1.cell
  have l2 := k2.lt
  go_quiet (fail)
  obtain ⟨V, hV⟩ : ∃ V, V = W.drewN nq := ⟨_, rfl⟩
  have hbV : Below W.heap.size W V := by rw [hV]; exact bdrewN (bsame _) _
  rw [← hV]
  clear hV cA cB c1 l2
  replace k0 := k0.below hbV k0.lt
  replace k1 := k1.below hbV k1.lt
  replace k2 := k2.below hbV k2.lt
  replace k3 := k3.below hbV k3.lt
  replace k4 := k4.below hbV k4.lt
  replace k5 := k5.below hbV k5.lt
  replace hSW := hSW.below hbV
  replace hsW := hsW.trans (Stp.of_below hbV)
  have c0 := k0.cell
  have c1 := k1.cell
  go_wp2_with fail
  refine (HC.out _ _ hSW).mono ?_
  rintro e2 w2 ⟨rfl, o2, hS2, hI2, hs2⟩
  have nt : ∀ b, w.heap.size ≤ b → ¬ stTag y (o1 b) := fun b q1 => bxT_st (HB.out b q1)
  have tg : ∀ b, w.heap.size ≤ b → b < V.heap.size → bxT y (o2 b) := fun b q1 q2 => by have := HB.out b q1; rw [← hs2.tags b q2] at this; exact this
  have t2 := tg (w.heap.size + 1 + 1) (by omega) k2.lt
  have t3 := tg (w.heap.size + 1 + 1 + 1) (by omega) k3.lt
  have t4 := tg (w.heap.size + 1 + 1 + 1 + 1) (by omega) k4.lt
  replace k2 := k2.stp hs2 (nt _ (by omega))
  replace k3 := k3.stp hs2 (nt _ (by omega))
  replace k4 := k4.stp hs2 (nt _ (by omega))
  have hs3 := hsW.trans hs2
  have HI2 := Lib.hid hI2
  clear c0 c1 k0 k1 k5 hs2 hSW hsW HC tg nt hI2
  have c2 := k2.cell
  go_wp2_with fail
  refine (HK.out _).mono ?_
  rintro e3 w3 ⟨rfl, hb3⟩
  replace k2 := k2.below hb3 k2.lt
  replace k3 := k3.below hb3 k3.lt
  replace k4 := k4.below hb3 k4.lt
  have hS3 := hS2.below hb3
  replace hs3 := hs3.trans (Stp.of_below hb3)
  clear c2 hb3 hS2 HK
  have c2 := k2.cell
  have z2 := k2.free
  have l2 := k2.lt
  go_upto_region 37 with fail
  clear c2 z2 l2
  obtain ⟨V2, hV2⟩ : ∃ V2, V2 = (thW w3 (w.heap.size + 1 + 1) ⟨hb, 0, ⟨s0, s1, s2, s3, s4, s5⟩, ⟨s0, s1, s2, s3, s4, s5⟩, false⟩).setCell ⟨(w.heap.size + 1 + 1), 0, none⟩ (.int .i64 (hb + 1)) := ⟨_, rfl⟩
  change Code.wp _ _ _ _ ((thW w3 (w.heap.size + 1 + 1) ⟨hb, 0, ⟨s0, s1, s2, s3, s4, s5⟩, ⟨s0, s1, s2, s3, s4, s5⟩, false⟩).setCell ⟨(w.heap.size + 1 + 1), 0, none⟩ (.int .i64 (hb + 1)))
  rw [← hV2]
  have hw : Wr (w.heap.size + 1 + 1) w3 V2 := by rw [hV2]; exact (thW_wr w3 (w.heap.size + 1 + 1) ⟨hb, 0, ⟨s0, s1, s2, s3, s4, s5⟩, ⟨s0, s1, s2, s3, s4, s5⟩, false⟩).trans (Wr.set _ _ _ _)
  have i2 : Blk V2 (w.heap.size + 1 + 1) #[.int .i64 (hb + 1), .int .i64 0, .int .i64 s0, .int .i64 s1, .int .i64 s2, .int .i64 s3, .int .i64 s4, .int .i64 s5, .int .i64 s0, .int .i64 s1, .int .i64 s2, .int .i64 s3, .int .i64 s4, .int .i64 s5, .bool false] 57 := by rw [hV2]; exact (thW_blk (g := ⟨hb, hn, ⟨a0, a1, a2, a3, a4, a5⟩, ⟨s0, s1, s2, s3, s4, s5⟩, hl⟩) k2 ⟨hb, 0, ⟨s0, s1, s2, s3, s4, s5⟩, ⟨s0, s1, s2, s3, s4, s5⟩, false⟩).set 0 (.int .i64 (hb + 1))
  have i3 := k3.wr hw (by omega)
  have i4 := k4.wr hw (by omega)
  have hS5 := hS3.bx (Stp.of_wr hw t2)
  have hs5 := hs3.wr_new hw (by omega)
  clear hV2 hw k2 k3 k4 hS3 hs3
  have c2 := i2.cell
  have c3 := i3.cell
  have z3 := i3.free
  have l3 := i3.lt
  have c4 := i4.cell
  have z4 := i4.free
  have l4 := i4.lt
  have hres := Lib.hid (res_blk i3 i4 (by omega) ⟨(hb + 1), 0, ⟨s0, s1, s2, s3, s4, s5⟩, ⟨s0, s1, s2, s3, s4, s5⟩, false⟩ ⟨2, 0, 0⟩)
  have hrs := Lib.hid (res_stp hs5 (b6 := (w.heap.size + 1 + 1 + 1)) (b7 := (w.heap.size + 1 + 1 + 1 + 1)) (by omega) (by omega) ⟨(hb + 1), 0, ⟨s0, s1, s2, s3, s4, s5⟩, ⟨s0, s1, s2, s3, s4, s5⟩, false⟩ ⟨2, 0, 0⟩)
  have hrS := Lib.hid (hS5.bx (res_bx V2 (w.heap.size + 1 + 1 + 1) (w.heap.size + 1 + 1 + 1 + 1) (o := o2) t3 t4 ⟨(hb + 1), 0, ⟨s0, s1, s2, s3, s4, s5⟩, ⟨s0, s1, s2, s3, s4, s5⟩, false⟩ ⟨2, 0, 0⟩))
  clear i2 i3 i4 hS5 hs5
  go_wp2_with fail
  change bodyPost _ _ _ _ _ (resW V2 (w.heap.size + 1 + 1 + 1) (w.heap.size + 1 + 1 + 1 + 1) ⟨(hb + 1), 0, ⟨s0, s1, s2, s3, s4, s5⟩, ⟨s0, s1, s2, s3, s4, s5⟩, false⟩ ⟨2, 0, 0⟩)
  generalize resW V2 (w.heap.size + 1 + 1 + 1) (w.heap.size + 1 + 1 + 1 + 1) ⟨(hb + 1), 0, ⟨s0, s1, s2, s3, s4, s5⟩, ⟨s0, s1, s2, s3, s4, s5⟩, false⟩ ⟨2, 0, 0⟩ = X at *
  exact bodyPost_ret (results_two _ _ 8 9 rfl rfl rfl hres.out.1 hres.out.2) rfl ⟨rfl, o2, hrS.out, HI2.out, hrs.out⟩
end
end Go.Proofs.YtemohiainfllcaaGreat
