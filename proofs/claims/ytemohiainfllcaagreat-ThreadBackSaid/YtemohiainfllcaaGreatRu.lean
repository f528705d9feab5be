/- Threads: a transaction's begin and commit (printed by tools/gen_bc.py). -/
import Derived.Test.YtemohiainfllcaaGreatRt2
import Derived.Test.YtemohiainfllcaaGreatRo2
import Derived.Test.YtemohiainfllcaaGreatRr
import Derived.Test.YtemohiainfllcaaGreatRs
namespace Go.Proofs.YtemohiainfllcaaGreat
open Go.RowKit Hp
attribute [local go_sem ↓] Go.wp_at_zero Go.wp_at_succ
section
variable {w w' : World} {o o' : Own} {y : SLay} {S : Stt} {i : Nat}
set_option maxRecDepth 100000 in
set_option maxHeartbeats 4000000 in
theorem tbegin_any (hS : StIn w o y S) (hI : Inv S) (hb hn a0 a1 a2 a3 a4 a5 s0 s1 s2 s3 s4 s5 : Int) (hl : Bool) (nb : Int) (hi : i < S.txs.length) (hlv : (S.t i).live = false) (hr : S.now + 9 ≤ S.most) :
    Calls Tryz.prog 73 #[ptr y.sb, .int .i64 i, .int .i64 nb, .agg #[.int .i64 hb, .int .i64 hn, .int .i64 a0, .int .i64 a1, .int .i64 a2, .int .i64 a3, .int .i64 a4, .int .i64 a5, .int .i64 s0, .int .i64 s1, .int .i64 s2, .int .i64 s3, .int .i64 s4, .int .i64 s5, .bool hl]] w fun e' w' => e' = .returned (.tuple #[ThV.v ⟨hb, 0, ⟨a0, a1, a2, a3, a4, a5⟩, ⟨a0, a1, a2, a3, a4, a5⟩, true⟩, ActV.val ⟨1, 0, S.now⟩]) ∧ Left y (S.begin i) o w w' := by
  obtain ⟨o1, ho1⟩ : ∃ o1, o1 = ext o w.heap.size (y.l.id + 1, 0) := ⟨_, rfl⟩
  have h1 := hS.retag (o' := o1) fun b hb => by rw [ho1]; exact ext_lt hb
  have hS0 : Stp (stTag y) o o1 w w := by rw [ho1]; exact (Stp.refl _ o w).ext _ _ (Nat.le_refl _)
  have hbx : ∀ b, w.heap.size ≤ b → bxT y (o1 b) := fun b hb => by rw [ho1]; exact ext_ge hb
  clear ho1 hS
  obtain ⟨W, hW⟩ : ∃ W : World, W = (((w.alloc (.cells #[.int .i64 hb, .int .i64 hn, .int .i64 a0, .int .i64 a1, .int .i64 a2, .int .i64 a3, .int .i64 a4, .int .i64 a5, .int .i64 s0, .int .i64 s1, .int .i64 s2, .int .i64 s3, .int .i64 s4, .int .i64 s5, .bool hl] 57)).alloc (.cells #[.int .i64 0, .int .i64 0, .int .i64 0, .int .i64 0, .int .i64 0, .int .i64 0, .int .i64 0, .int .i64 0, .int .i64 0, .int .i64 0, .int .i64 0, .int .i64 0, .int .i64 0, .int .i64 0, .bool false] 57)).alloc (.cells #[.int .i64 0, .int .i64 0, .int .i64 0] 60)) := ⟨_, rfl⟩
  have hbW : Below w.heap.size w W := by rw [hW]; exact balloc (balloc (balloc (bsame w) _) _) _
  have k7 : Blk W w.heap.size #[.int .i64 hb, .int .i64 hn, .int .i64 a0, .int .i64 a1, .int .i64 a2, .int .i64 a3, .int .i64 a4, .int .i64 a5, .int .i64 s0, .int .i64 s1, .int .i64 s2, .int .i64 s3, .int .i64 s4, .int .i64 s5, .bool hl] 57 := by rw [hW]; exact ((Blk.new w _ _).alloc _).alloc _
  have k8 : Blk W (w.heap.size + 1) #[.int .i64 0, .int .i64 0, .int .i64 0, .int .i64 0, .int .i64 0, .int .i64 0, .int .i64 0, .int .i64 0, .int .i64 0, .int .i64 0, .int .i64 0, .int .i64 0, .int .i64 0, .int .i64 0, .bool false] 57 := by rw [hW]; exact (Blk.new_at _ _ _ _ _ (by simp) rfl).alloc _
  have k9 : Blk W (w.heap.size + 1 + 1) #[.int .i64 0, .int .i64 0, .int .i64 0] 60 := by rw [hW]; exact Blk.new_at _ _ _ _ _ (by simp) rfl
  have hSW := h1.below hbW
  have hsW : Stp (stTag y) o o1 w W := hS0.trans (Stp.of_below hbW)
  have HC := Lib.hid (fun X o2 (h2 : StIn X o2 y S) => by have := c_begin h2 hI hi hr; rw [hlv] at this; simp only [Bool.false_eq_true, if_false] at this; exact this)
  have hst : ((S.begin i).t i).live = true ∧ ((S.begin i).t i).start = S.now := by
    unfold Stt.begin; rw [hlv]
    simp only [Bool.false_eq_true, if_false]
    rw [tx_t hi, if_pos rfl]
    exact ⟨rfl, rfl⟩
  have HL := Lib.hid (fun X o2 (h2 : StIn X o2 y (S.begin i)) (h3 : Inv (S.begin i)) => by have := c_live h2 h3 (i := i) (by rw [(begin_mv hi).1.len]; exact hi); rw [hst.1, hst.2] at this; simp only [if_true] at this; exact this)
  have HB := Lib.hid hbx
  generalize S.begin i = SB at *
  generalize S.now = nw at *
  clear hI hi hlv hr hst h1 hS0 hbx
  go_enter Tryz.func73, Tryz.ntmps73
  go_wp2_with fail
  rw [← hW]
  clear hW
  refine (HC.out _ _ hSW).mono ?_
  rintro e2 w2 ⟨rfl, o2, hS2, hI2, hs2⟩
  have nt : ∀ b, w.heap.size ≤ b → ¬ stTag y (o1 b) := fun b q1 => bxT_st (HB.out b q1)
  have tg : ∀ b, w.heap.size ≤ b → b < W.heap.size → bxT y (o2 b) := fun b q1 q2 => by have := HB.out b q1; rw [← hs2.tags b q2] at this; exact this
  have t7 := tg w.heap.size (by omega) k7.lt
  have t8 := tg (w.heap.size + 1) (by omega) k8.lt
  have t9 := tg (w.heap.size + 1 + 1) (by omega) k9.lt
  replace k7 := k7.stp hs2 (nt _ (by omega))
  replace k8 := k8.stp hs2 (nt _ (by omega))
  replace k9 := k9.stp hs2 (nt _ (by omega))
  have hs3 := hsW.trans hs2
  have HI2 := Lib.hid hI2
  obtain ⟨w3, hw3⟩ : ∃ w3, w3 = w2.alloc (.cells #[.int .i64 1, .int .i64 0, .int .i64 0] 60) := ⟨_, rfl⟩
  have kA : Blk w3 w2.heap.size #[.int .i64 1, .int .i64 0, .int .i64 0] 60 := by rw [hw3]; exact Blk.new _ _ _
  have hb3 : Below w2.heap.size w2 w3 := by rw [hw3]; exact balloc (bsame _) _
  have l7 := k7.lt
  have l8 := k8.lt
  have l9 := k9.lt
  replace k7 := k7.below hb3 k7.lt
  replace k8 := k8.below hb3 k8.lt
  replace k9 := k9.below hb3 k9.lt
  have hS3 := hS2.below hb3
  have HSA := Lib.hid (show StIn (w3.setCell ⟨w2.heap.size, 2, none⟩ (.int .i64 nw)) o2 y SB from hS2.below (bset (by rw [hw3]; exact balloc (bsame _) _) (Nat.le_refl _) _))
  replace hs3 := hs3.trans (Stp.of_below hb3)
  have hsz : w.heap.size ≤ w2.heap.size := by omega
  clear hs2 hSW hsW HC tg nt hS2 hbW hb3
  go_wp2_with fail
  rw [← hw3]
  clear hw3
  refine (HL.out _ _ hS3 hI2).mono ?_
  rintro e4 w4 ⟨rfl, rfl⟩
  have c7 := k7.cell
  have z7 := k7.free
  have l7' := k7.lt
  have cA := kA.cell
  have zA := kA.free
  have lA := kA.lt
  have ne7 : w.heap.size ≠ w2.heap.size := by omega
  have ne7' : w2.heap.size ≠ w.heap.size := by omega
  go_upto_region 9 with fail
  clear c7 z7 l7' cA zA lA
  obtain ⟨bA, hbA⟩ : ∃ bA, bA = w2.heap.size := ⟨_, rfl⟩
  rw [← hbA] at HSA kA ne7 ne7' hsz l7 l8 l9 ⊢
  clear hbA
  obtain ⟨V, hV⟩ : ∃ V, V = (((((((((w3.setCell ⟨bA, 2, none⟩ (.int .i64 nw)).setCell ⟨w.heap.size, 14, none⟩ (.bool true)).setCell ⟨w.heap.size, 1, none⟩ (.int .i64 0)).setCell ⟨w.heap.size, 8, none⟩ (.int .i64 a0)).setCell ⟨w.heap.size, 9, none⟩ (.int .i64 a1)).setCell ⟨w.heap.size, 10, none⟩ (.int .i64 a2)).setCell ⟨w.heap.size, 11, none⟩ (.int .i64 a3)).setCell ⟨w.heap.size, 12, none⟩ (.int .i64 a4)).setCell ⟨w.heap.size, 13, none⟩ (.int .i64 a5)) := ⟨_, rfl⟩
  rw [← hV]
  have i7 : Blk V w.heap.size #[.int .i64 hb, .int .i64 0, .int .i64 a0, .int .i64 a1, .int .i64 a2, .int .i64 a3, .int .i64 a4, .int .i64 a5, .int .i64 a0, .int .i64 a1, .int .i64 a2, .int .i64 a3, .int .i64 a4, .int .i64 a5, .bool true] 57 := by
    rw [hV]
    have k := (((((((((k7.set_other (a := ⟨bA, 2, none⟩) ne7 (.int .i64 nw)).set 14 (.bool true)).set 1 (.int .i64 0)).set 8 (.int .i64 a0)).set 9 (.int .i64 a1)).set 10 (.int .i64 a2)).set 11 (.int .i64 a3)).set 12 (.int .i64 a4)).set 13 (.int .i64 a5))
    simp only [List.setIfInBounds_toArray, List.set_cons_zero, List.set_cons_succ] at k
    exact k
  have iA : Blk V bA #[.int .i64 1, .int .i64 0, .int .i64 nw] 60 := by rw [hV]; exact (((((((((kA.set 2 (.int .i64 nw)).set_other (a := ⟨w.heap.size, 14, none⟩) ne7' (.bool true)).set_other (a := ⟨w.heap.size, 1, none⟩) ne7' (.int .i64 0)).set_other (a := ⟨w.heap.size, 8, none⟩) ne7' (.int .i64 a0)).set_other (a := ⟨w.heap.size, 9, none⟩) ne7' (.int .i64 a1)).set_other (a := ⟨w.heap.size, 10, none⟩) ne7' (.int .i64 a2)).set_other (a := ⟨w.heap.size, 11, none⟩) ne7' (.int .i64 a3)).set_other (a := ⟨w.heap.size, 12, none⟩) ne7' (.int .i64 a4)).set_other (a := ⟨w.heap.size, 13, none⟩) ne7' (.int .i64 a5))
  have hw1 : Wr bA w3 (w3.setCell ⟨bA, 2, none⟩ (.int .i64 nw)) := Wr.set _ _ _ _
  have hw2 : Wr w.heap.size (w3.setCell ⟨bA, 2, none⟩ (.int .i64 nw)) V := by rw [hV]; exact (((((((((Wr.refl _ _).trans (Wr.set _ _ 14 _)).trans (Wr.set _ _ 1 _)).trans (Wr.set _ _ 8 _)).trans (Wr.set _ _ 9 _)).trans (Wr.set _ _ 10 _)).trans (Wr.set _ _ 11 _)).trans (Wr.set _ _ 12 _)).trans (Wr.set _ _ 13 _))
  have i8 := (k8.wr hw1 (by omega)).wr hw2 (by omega)
  have i9 := (k9.wr hw1 (by omega)).wr hw2 (by omega)
  have hs5 := (hs3.wr_new hw1 hsz).wr_new hw2 (by omega)
  have hS4 : StIn (w3.setCell ⟨bA, 2, none⟩ (.int .i64 nw)) o2 y SB := HSA.out
  have hS5 := hS4.bx (Stp.of_wr hw2 t7)
  have nA8 : bA ≠ w.heap.size + 1 := by omega
  have nA9 : bA ≠ w.heap.size + 1 + 1 := by omega
  clear hV hw1 hw2 k7 k8 k9 kA hS3 hs3 hS4 l7 l8 l9
  have c7 := i7.cell
  have cA := iA.cell
  have c8 := i8.cell
  have z8 := i8.free
  have l8 := i8.lt
  have c9 := i9.cell
  have z9 := i9.free
  have l9 := i9.lt
  have hres := Lib.hid (res_blk i8 i9 (by omega) ⟨hb, 0, ⟨a0, a1, a2, a3, a4, a5⟩, ⟨a0, a1, a2, a3, a4, a5⟩, true⟩ ⟨1, 0, nw⟩)
  have hrs := Lib.hid (res_stp hs5 (b6 := (w.heap.size + 1)) (b7 := (w.heap.size + 1 + 1)) (by omega) (by omega) ⟨hb, 0, ⟨a0, a1, a2, a3, a4, a5⟩, ⟨a0, a1, a2, a3, a4, a5⟩, true⟩ ⟨1, 0, nw⟩)
  have hrS := Lib.hid (hS5.bx (res_bx V (w.heap.size + 1) (w.heap.size + 1 + 1) (o := o2) t8 t9 ⟨hb, 0, ⟨a0, a1, a2, a3, a4, a5⟩, ⟨a0, a1, a2, a3, a4, a5⟩, true⟩ ⟨1, 0, nw⟩))
  clear i7 iA i8 i9 hS5 hs5
  go_region
  all_goals
    go_wp2_with fail
    change bodyPost _ _ _ _ _ (resW V (w.heap.size + 1) (w.heap.size + 1 + 1) ⟨hb, 0, ⟨a0, a1, a2, a3, a4, a5⟩, ⟨a0, a1, a2, a3, a4, a5⟩, true⟩ ⟨1, 0, nw⟩).drew
    generalize resW V (w.heap.size + 1) (w.heap.size + 1 + 1) ⟨hb, 0, ⟨a0, a1, a2, a3, a4, a5⟩, ⟨a0, a1, a2, a3, a4, a5⟩, true⟩ ⟨1, 0, nw⟩ = X at *
    exact bodyPost_ret (results_two _ _ 8 9 rfl rfl rfl (drewB hres.out.1) (drewB hres.out.2)) rfl ⟨rfl, o2, hrS.out.below (bdrew (bsame _)), HI2.out, hrs.out.drew⟩
set_option maxRecDepth 100000 in
set_option maxHeartbeats 4000000 in
theorem tcommit_ok (hS : StIn w o y S) (hI : Inv S) (hb hn a0 a1 a2 a3 a4 a5 s0 s1 s2 s3 s4 s5 : Int) (hl : Bool) (hc : S.chk i = true) (hm : S.now < S.most) (he : (S.commit i).e = 0) (hb0 : 0 ≤ hb ∧ hb ≤ 4096) :
    Calls Tryz.prog 74 #[ptr y.sb, .int .i64 i, .agg #[.int .i64 hb, .int .i64 hn, .int .i64 a0, .int .i64 a1, .int .i64 a2, .int .i64 a3, .int .i64 a4, .int .i64 a5, .int .i64 s0, .int .i64 s1, .int .i64 s2, .int .i64 s3, .int .i64 s4, .int .i64 s5, .bool hl]] w fun e' w' => e' = .returned (.tuple #[ThV.v ⟨(hb + 1), 0, ⟨a0, a1, a2, a3, a4, a5⟩, ⟨a0, a1, a2, a3, a4, a5⟩, false⟩, ActV.val ⟨3, 0, (S.commit i).v⟩]) ∧ Left y (S.commit i).S o w w' := by
  obtain ⟨o1, ho1⟩ : ∃ o1, o1 = ext o w.heap.size (y.l.id + 1, 0) := ⟨_, rfl⟩
  have h1 := hS.retag (o' := o1) fun b hb => by rw [ho1]; exact ext_lt hb
  have hS0 : Stp (stTag y) o o1 w w := by rw [ho1]; exact (Stp.refl _ o w).ext _ _ (Nat.le_refl _)
  have hbx : ∀ b, w.heap.size ≤ b → bxT y (o1 b) := fun b hb => by rw [ho1]; exact ext_ge hb
  clear ho1 hS
  obtain ⟨W, hW⟩ : ∃ W : World, W = (((w.alloc (.cells #[.int .i64 hb, .int .i64 hn, .int .i64 a0, .int .i64 a1, .int .i64 a2, .int .i64 a3, .int .i64 a4, .int .i64 a5, .int .i64 s0, .int .i64 s1, .int .i64 s2, .int .i64 s3, .int .i64 s4, .int .i64 s5, .bool hl] 57)).alloc (.cells #[.int .i64 0, .int .i64 0, .int .i64 0, .int .i64 0, .int .i64 0, .int .i64 0, .int .i64 0, .int .i64 0, .int .i64 0, .int .i64 0, .int .i64 0, .int .i64 0, .int .i64 0, .int .i64 0, .bool false] 57)).alloc (.cells #[.int .i64 0, .int .i64 0, .int .i64 0] 60)) := ⟨_, rfl⟩
  have hbW : Below w.heap.size w W := by rw [hW]; exact balloc (balloc (balloc (bsame w) _) _) _
  have k7 : Blk W w.heap.size #[.int .i64 hb, .int .i64 hn, .int .i64 a0, .int .i64 a1, .int .i64 a2, .int .i64 a3, .int .i64 a4, .int .i64 a5, .int .i64 s0, .int .i64 s1, .int .i64 s2, .int .i64 s3, .int .i64 s4, .int .i64 s5, .bool hl] 57 := by rw [hW]; exact ((Blk.new w _ _).alloc _).alloc _
  have k8 : Blk W (w.heap.size + 1) #[.int .i64 0, .int .i64 0, .int .i64 0, .int .i64 0, .int .i64 0, .int .i64 0, .int .i64 0, .int .i64 0, .int .i64 0, .int .i64 0, .int .i64 0, .int .i64 0, .int .i64 0, .int .i64 0, .bool false] 57 := by rw [hW]; exact (Blk.new_at _ _ _ _ _ (by simp) rfl).alloc _
  have k9 : Blk W (w.heap.size + 1 + 1) #[.int .i64 0, .int .i64 0, .int .i64 0] 60 := by rw [hW]; exact Blk.new_at _ _ _ _ _ (by simp) rfl
  have hSW := h1.below hbW
  have hsW : Stp (stTag y) o o1 w W := hS0.trans (Stp.of_below hbW)
  have HC := Lib.hid (fun X o2 (h2 : StIn X o2 y S) => c_commit h2 hI hc hm)
  have HB := Lib.hid hbx
  obtain ⟨b1, b2⟩ := hb0
  generalize S.commit i = R at *
  clear hI hc hm h1 hS0 hbx
  rw [he] at HC
  go_enter Tryz.func74, Tryz.ntmps74
  go_wp2_with fail
  rw [← hW]
  clear hW
  refine (HC.out _ _ hSW).mono ?_
  rintro e2 w2 ⟨rfl, o2, hS2, hI2, hs2⟩
  have nt : ∀ b, w.heap.size ≤ b → ¬ stTag y (o1 b) := fun b q1 => bxT_st (HB.out b q1)
  have tg : ∀ b, w.heap.size ≤ b → b < W.heap.size → bxT y (o2 b) := fun b q1 q2 => by have := HB.out b q1; rw [← hs2.tags b q2] at this; exact this
  have t7 := tg w.heap.size (by omega) k7.lt
  have t8 := tg (w.heap.size + 1) (by omega) k8.lt
  have t9 := tg (w.heap.size + 1 + 1) (by omega) k9.lt
  replace k7 := k7.stp hs2 (nt _ (by omega))
  replace k8 := k8.stp hs2 (nt _ (by omega))
  replace k9 := k9.stp hs2 (nt _ (by omega))
  have hs3 := hsW.trans hs2
  have HI2 := Lib.hid hI2
  clear hs2 hSW hsW HC tg nt hbW hI2
  have c7 := k7.cell
  have z7 := k7.free
  have l7 := k7.lt
  go_upto_region 8 with fail
  obtain ⟨V, hV⟩ : ∃ V, V = (((((((((w2.setCell ⟨w.heap.size, 14, none⟩ (.bool false)).setCell ⟨w.heap.size, 1, none⟩ (.int .i64 0)).setCell ⟨w.heap.size, 0, none⟩ (.int .i64 (hb + 1))).setCell ⟨w.heap.size, 8, none⟩ (.int .i64 a0)).setCell ⟨w.heap.size, 9, none⟩ (.int .i64 a1)).setCell ⟨w.heap.size, 10, none⟩ (.int .i64 a2)).setCell ⟨w.heap.size, 11, none⟩ (.int .i64 a3)).setCell ⟨w.heap.size, 12, none⟩ (.int .i64 a4)).setCell ⟨w.heap.size, 13, none⟩ (.int .i64 a5)) := ⟨_, rfl⟩
  rw [← hV]
  have i7 : Blk V w.heap.size #[.int .i64 (hb + 1), .int .i64 0, .int .i64 a0, .int .i64 a1, .int .i64 a2, .int .i64 a3, .int .i64 a4, .int .i64 a5, .int .i64 a0, .int .i64 a1, .int .i64 a2, .int .i64 a3, .int .i64 a4, .int .i64 a5, .bool false] 57 := by
    rw [hV]
    have k := (((((((((k7.set 14 (.bool false)).set 1 (.int .i64 0)).set 0 (.int .i64 (hb + 1))).set 8 (.int .i64 a0)).set 9 (.int .i64 a1)).set 10 (.int .i64 a2)).set 11 (.int .i64 a3)).set 12 (.int .i64 a4)).set 13 (.int .i64 a5))
    simp only [List.setIfInBounds_toArray, List.set_cons_zero, List.set_cons_succ] at k
    exact k
  have hw2 : Wr w.heap.size w2 V := by rw [hV]; exact ((((((((((Wr.refl _ _).trans (Wr.set _ _ 14 _)).trans (Wr.set _ _ 1 _)).trans (Wr.set _ _ 0 _)).trans (Wr.set _ _ 8 _)).trans (Wr.set _ _ 9 _)).trans (Wr.set _ _ 10 _)).trans (Wr.set _ _ 11 _)).trans (Wr.set _ _ 12 _)).trans (Wr.set _ _ 13 _))
  have i8 := k8.wr hw2 (by omega)
  have i9 := k9.wr hw2 (by omega)
  have hs5 := hs3.wr_new hw2 (by omega)
  have hS5 := hS2.bx (Stp.of_wr hw2 t7)
  clear hV hw2 k7 k8 k9 hS2 hs3 l7 c7 z7
  have c7 := i7.cell
  have c8 := i8.cell
  have z8 := i8.free
  have l8 := i8.lt
  have c9 := i9.cell
  have z9 := i9.free
  have l9 := i9.lt
  have hres := Lib.hid (res_blk i8 i9 (by omega) ⟨(hb + 1), 0, ⟨a0, a1, a2, a3, a4, a5⟩, ⟨a0, a1, a2, a3, a4, a5⟩, false⟩ ⟨3, 0, R.v⟩)
  have hrs := Lib.hid (res_stp hs5 (b6 := (w.heap.size + 1)) (b7 := (w.heap.size + 1 + 1)) (by omega) (by omega) ⟨(hb + 1), 0, ⟨a0, a1, a2, a3, a4, a5⟩, ⟨a0, a1, a2, a3, a4, a5⟩, false⟩ ⟨3, 0, R.v⟩)
  have hrS := Lib.hid (hS5.bx (res_bx V (w.heap.size + 1) (w.heap.size + 1 + 1) (o := o2) t8 t9 ⟨(hb + 1), 0, ⟨a0, a1, a2, a3, a4, a5⟩, ⟨a0, a1, a2, a3, a4, a5⟩, false⟩ ⟨3, 0, R.v⟩))
  clear i7 i8 i9 hS5 hs5
  go_wp2_with fail
  change bodyPost _ _ _ _ _ (resW V (w.heap.size + 1) (w.heap.size + 1 + 1) ⟨(hb + 1), 0, ⟨a0, a1, a2, a3, a4, a5⟩, ⟨a0, a1, a2, a3, a4, a5⟩, false⟩ ⟨3, 0, R.v⟩)
  generalize resW V (w.heap.size + 1) (w.heap.size + 1 + 1) ⟨(hb + 1), 0, ⟨a0, a1, a2, a3, a4, a5⟩, ⟨a0, a1, a2, a3, a4, a5⟩, false⟩ ⟨3, 0, R.v⟩ = X at *
  exact bodyPost_ret (results_two _ _ 6 7 rfl rfl rfl hres.out.1 hres.out.2) rfl ⟨rfl, o2, hrS.out, HI2.out, hrs.out⟩
set_option maxRecDepth 100000 in
set_option maxHeartbeats 4000000 in
theorem tcommit_no (hS : StIn w o y S) (hI : Inv S) (hb hn a0 a1 a2 a3 a4 a5 s0 s1 s2 s3 s4 s5 : Int) (hl : Bool) (hc : S.chk i = true) (hm : S.now < S.most) (he : (S.commit i).e ≠ 0)  :
    Calls Tryz.prog 74 #[ptr y.sb, .int .i64 i, .agg #[.int .i64 hb, .int .i64 hn, .int .i64 a0, .int .i64 a1, .int .i64 a2, .int .i64 a3, .int .i64 a4, .int .i64 a5, .int .i64 s0, .int .i64 s1, .int .i64 s2, .int .i64 s3, .int .i64 s4, .int .i64 s5, .bool hl]] w fun e' w' => e' = .returned (.tuple #[ThV.v ⟨hb, 0, ⟨s0, s1, s2, s3, s4, s5⟩, ⟨s0, s1, s2, s3, s4, s5⟩, false⟩, ActV.val ⟨3, (S.commit i).e, 0⟩]) ∧ Left y (S.commit i).S o w w' := by
  obtain ⟨o1, ho1⟩ : ∃ o1, o1 = ext o w.heap.size (y.l.id + 1, 0) := ⟨_, rfl⟩
  have h1 := hS.retag (o' := o1) fun b hb => by rw [ho1]; exact ext_lt hb
  have hS0 : Stp (stTag y) o o1 w w := by rw [ho1]; exact (Stp.refl _ o w).ext _ _ (Nat.le_refl _)
  have hbx : ∀ b, w.heap.size ≤ b → bxT y (o1 b) := fun b hb => by rw [ho1]; exact ext_ge hb
  clear ho1 hS
  obtain ⟨W, hW⟩ : ∃ W : World, W = (((w.alloc (.cells #[.int .i64 hb, .int .i64 hn, .int .i64 a0, .int .i64 a1, .int .i64 a2, .int .i64 a3, .int .i64 a4, .int .i64 a5, .int .i64 s0, .int .i64 s1, .int .i64 s2, .int .i64 s3, .int .i64 s4, .int .i64 s5, .bool hl] 57)).alloc (.cells #[.int .i64 0, .int .i64 0, .int .i64 0, .int .i64 0, .int .i64 0, .int .i64 0, .int .i64 0, .int .i64 0, .int .i64 0, .int .i64 0, .int .i64 0, .int .i64 0, .int .i64 0, .int .i64 0, .bool false] 57)).alloc (.cells #[.int .i64 0, .int .i64 0, .int .i64 0] 60)) := ⟨_, rfl⟩
  have hbW : Below w.heap.size w W := by rw [hW]; exact balloc (balloc (balloc (bsame w) _) _) _
  have k7 : Blk W w.heap.size #[.int .i64 hb, .int .i64 hn, .int .i64 a0, .int .i64 a1, .int .i64 a2, .int .i64 a3, .int .i64 a4, .int .i64 a5, .int .i64 s0, .int .i64 s1, .int .i64 s2, .int .i64 s3, .int .i64 s4, .int .i64 s5, .bool hl] 57 := by rw [hW]; exact ((Blk.new w _ _).alloc _).alloc _
  have k8 : Blk W (w.heap.size + 1) #[.int .i64 0, .int .i64 0, .int .i64 0, .int .i64 0, .int .i64 0, .int .i64 0, .int .i64 0, .int .i64 0, .int .i64 0, .int .i64 0, .int .i64 0, .int .i64 0, .int .i64 0, .int .i64 0, .bool false] 57 := by rw [hW]; exact (Blk.new_at _ _ _ _ _ (by simp) rfl).alloc _
  have k9 : Blk W (w.heap.size + 1 + 1) #[.int .i64 0, .int .i64 0, .int .i64 0] 60 := by rw [hW]; exact Blk.new_at _ _ _ _ _ (by simp) rfl
  have hSW := h1.below hbW
  have hsW : Stp (stTag y) o o1 w W := hS0.trans (Stp.of_below hbW)
  have HC := Lib.hid (fun X o2 (h2 : StIn X o2 y S) => c_commit h2 hI hc hm)
  have HB := Lib.hid hbx
  have HK := Lib.hid (fun X => show Calls Tryz.prog 128 #[.agg #[.int .i64 hb, .int .i64 hn, .int .i64 a0, .int .i64 a1, .int .i64 a2, .int .i64 a3, .int .i64 a4, .int .i64 a5, .int .i64 s0, .int .i64 s1, .int .i64 s2, .int .i64 s3, .int .i64 s4, .int .i64 s5, .bool hl]] X fun e w' => e = .returned (.agg #[.int .i64 hb, .int .i64 0, .int .i64 s0, .int .i64 s1, .int .i64 s2, .int .i64 s3, .int .i64 s4, .int .i64 s5, .int .i64 s0, .int .i64 s1, .int .i64 s2, .int .i64 s3, .int .i64 s4, .int .i64 s5, .bool false]) ∧ Below X.heap.size X w' from back_any ⟨hb, hn, ⟨a0, a1, a2, a3, a4, a5⟩, ⟨s0, s1, s2, s3, s4, s5⟩, hl⟩ X)
  generalize S.commit i = R at *
  clear hI hc hm h1 hS0 hbx
  have heb : (R.e != 0) = true := by rw [bne_iff_ne]; exact he
  go_enter Tryz.func74, Tryz.ntmps74
  go_wp2_with fail
  rw [← hW]
  clear hW
  refine (HC.out _ _ hSW).mono ?_
  rintro e2 w2 ⟨rfl, o2, hS2, hI2, hs2⟩
  have nt : ∀ b, w.heap.size ≤ b → ¬ stTag y (o1 b) := fun b q1 => bxT_st (HB.out b q1)
  have tg : ∀ b, w.heap.size ≤ b → b < W.heap.size → bxT y (o2 b) := fun b q1 q2 => by have := HB.out b q1; rw [← hs2.tags b q2] at this; exact this
  have t7 := tg w.heap.size (by omega) k7.lt
  have t8 := tg (w.heap.size + 1) (by omega) k8.lt
  have t9 := tg (w.heap.size + 1 + 1) (by omega) k9.lt
  replace k7 := k7.stp hs2 (nt _ (by omega))
  replace k8 := k8.stp hs2 (nt _ (by omega))
  replace k9 := k9.stp hs2 (nt _ (by omega))
  have hs3 := hsW.trans hs2
  have HI2 := Lib.hid hI2
  clear hs2 hSW hsW HC tg nt hbW hI2
  have c7 := k7.cell
  have z7 := k7.free
  have l7 := k7.lt
  go_wp2_with fail
  refine (HK.out _).mono ?_
  rintro e3 V ⟨rfl, hb3⟩
  have i8 := k8.below hb3 k8.lt
  have i9 := k9.below hb3 k9.lt
  have hS5 := hS2.below hb3
  have hs5 := hs3.trans (Stp.of_below hb3)
  clear k7 k8 k9 hS2 hs3 l7 c7 z7 hb3 HK
  have c8 := i8.cell
  have z8 := i8.free
  have l8 := i8.lt
  have c9 := i9.cell
  have z9 := i9.free
  have l9 := i9.lt
  have hres := Lib.hid (res_blk i8 i9 (by omega) ⟨hb, 0, ⟨s0, s1, s2, s3, s4, s5⟩, ⟨s0, s1, s2, s3, s4, s5⟩, false⟩ ⟨3, R.e, 0⟩)
  have hrs := Lib.hid (res_stp hs5 (b6 := (w.heap.size + 1)) (b7 := (w.heap.size + 1 + 1)) (by omega) (by omega) ⟨hb, 0, ⟨s0, s1, s2, s3, s4, s5⟩, ⟨s0, s1, s2, s3, s4, s5⟩, false⟩ ⟨3, R.e, 0⟩)
  have hrS := Lib.hid (hS5.bx (res_bx V (w.heap.size + 1) (w.heap.size + 1 + 1) (o := o2) t8 t9 ⟨hb, 0, ⟨s0, s1, s2, s3, s4, s5⟩, ⟨s0, s1, s2, s3, s4, s5⟩, false⟩ ⟨3, R.e, 0⟩))
  clear i8 i9 hS5 hs5
  go_wp2_with fail
  change bodyPost _ _ _ _ _ (resW V (w.heap.size + 1) (w.heap.size + 1 + 1) ⟨hb, 0, ⟨s0, s1, s2, s3, s4, s5⟩, ⟨s0, s1, s2, s3, s4, s5⟩, false⟩ ⟨3, R.e, 0⟩)
  generalize resW V (w.heap.size + 1) (w.heap.size + 1 + 1) ⟨hb, 0, ⟨s0, s1, s2, s3, s4, s5⟩, ⟨s0, s1, s2, s3, s4, s5⟩, false⟩ ⟨3, R.e, 0⟩ = X at *
  exact bodyPost_ret (results_two _ _ 6 7 rfl rfl rfl hres.out.1 hres.out.2) rfl ⟨rfl, o2, hrS.out, HI2.out, hrs.out⟩
end
end Go.Proofs.YtemohiainfllcaaGreat

/- Threads: a deed in one word. -/
namespace Go.Proofs.YtemohiainfllcaaGreat
open Go.RowKit Hp
attribute [local go_sem ↓] Go.wp_at_zero Go.wp_at_succ
/-- What is left behind a thread's act. -/
structure TR where
  S : Stt
  h : ThV
  a : ActV
def ledR (R : Res) (h : ThV) (A : Nat) : TR := ⟨R.S, h.led A R.v R.e, ledA (R.S.ser R.v.toNat) R.e⟩
def toldR (S : Stt) (v e : Int) (h : ThV) : TR := ⟨S, h.ended e, actOf v e⟩
/-- The place in a register. -/
def ThV.at (h : ThV) (A : Nat) : Nat := (h.r.get A).toNat
def Stt.tdeed (S : Stt) (i : Nat) (h : ThV) (d : DeedV) : TR :=
  if d.k = 1 then ledR (S.alloc i ⟨d.i.toNat, d.n.toNat, false, false⟩) h d.A
  else if d.k = 2 then ledR (S.alloc i ⟨d.i.toNat, d.n.toNat, false, true⟩) h d.A
  else if d.k = 3 then ledR (S.weak i (h.at d.B)) h d.A
  else if d.k = 4 then ledR (S.get i (h.at d.B) d.i.toNat) h d.A
  else if d.k = 9 then ledR (S.load i (h.at d.B)) h d.A
  else if d.k = 10 then ledR (S.take i) h d.A
  else if d.k = 5 then toldR (S.put i (h.at d.A) d.i.toNat (h.at d.B)).S 0 (S.put i (h.at d.A) d.i.toNat (h.at d.B)).e h
  else if d.k = 6 then toldR (S.read i (h.at d.A) d.i.toNat).S (S.read i (h.at d.A) d.i.toNat).v (S.read i (h.at d.A) d.i.toNat).e h
  else if d.k = 7 then toldR (S.write i (h.at d.A) d.i.toNat d.n).S 0 (S.write i (h.at d.A) d.i.toNat d.n).e h
  else if d.k = 8 then toldR (S.free i (h.at d.A)).S 0 (S.free i (h.at d.A)).e h
  else if d.k = 11 then toldR S (if h.at d.A = h.at d.B then 1 else 0) 0 h
  else if d.k = 12 then toldR S 0 0 (h.put d.A (h.at d.B))
  else if d.k = 13 then toldR S 0 0 (h.put d.A 0)
  else ⟨S.abort i, { h.back with b := h.b + 1 }, ⟨2, 0, 0⟩⟩
theorem tdeed_k1 (S : Stt) (i : Nat) (h : ThV) (d : DeedV) (e : d.k = 1) : S.tdeed i h d = ledR (S.alloc i ⟨d.i.toNat, d.n.toNat, false, false⟩) h d.A := by
  unfold Stt.tdeed
  rw [if_pos e]
theorem tdeed_k2 (S : Stt) (i : Nat) (h : ThV) (d : DeedV) (e : d.k = 2) : S.tdeed i h d = ledR (S.alloc i ⟨d.i.toNat, d.n.toNat, false, true⟩) h d.A := by
  unfold Stt.tdeed
  rw [if_neg (show ¬ d.k = 1 by omega), if_pos e]
theorem tdeed_k3 (S : Stt) (i : Nat) (h : ThV) (d : DeedV) (e : d.k = 3) : S.tdeed i h d = ledR (S.weak i (h.at d.B)) h d.A := by
  unfold Stt.tdeed
  rw [if_neg (show ¬ d.k = 1 by omega), if_neg (show ¬ d.k = 2 by omega), if_pos e]
theorem tdeed_k4 (S : Stt) (i : Nat) (h : ThV) (d : DeedV) (e : d.k = 4) : S.tdeed i h d = ledR (S.get i (h.at d.B) d.i.toNat) h d.A := by
  unfold Stt.tdeed
  rw [if_neg (show ¬ d.k = 1 by omega), if_neg (show ¬ d.k = 2 by omega), if_neg (show ¬ d.k = 3 by omega), if_pos e]
theorem tdeed_k9 (S : Stt) (i : Nat) (h : ThV) (d : DeedV) (e : d.k = 9) : S.tdeed i h d = ledR (S.load i (h.at d.B)) h d.A := by
  unfold Stt.tdeed
  rw [if_neg (show ¬ d.k = 1 by omega), if_neg (show ¬ d.k = 2 by omega), if_neg (show ¬ d.k = 3 by omega), if_neg (show ¬ d.k = 4 by omega), if_pos e]
theorem tdeed_k10 (S : Stt) (i : Nat) (h : ThV) (d : DeedV) (e : d.k = 10) : S.tdeed i h d = ledR (S.take i) h d.A := by
  unfold Stt.tdeed
  rw [if_neg (show ¬ d.k = 1 by omega), if_neg (show ¬ d.k = 2 by omega), if_neg (show ¬ d.k = 3 by omega), if_neg (show ¬ d.k = 4 by omega), if_neg (show ¬ d.k = 9 by omega), if_pos e]
theorem tdeed_k5 (S : Stt) (i : Nat) (h : ThV) (d : DeedV) (e : d.k = 5) : S.tdeed i h d = toldR (S.put i (h.at d.A) d.i.toNat (h.at d.B)).S 0 (S.put i (h.at d.A) d.i.toNat (h.at d.B)).e h := by
  unfold Stt.tdeed
  rw [if_neg (show ¬ d.k = 1 by omega), if_neg (show ¬ d.k = 2 by omega), if_neg (show ¬ d.k = 3 by omega), if_neg (show ¬ d.k = 4 by omega), if_neg (show ¬ d.k = 9 by omega), if_neg (show ¬ d.k = 10 by omega), if_pos e]
theorem tdeed_k6 (S : Stt) (i : Nat) (h : ThV) (d : DeedV) (e : d.k = 6) : S.tdeed i h d = toldR (S.read i (h.at d.A) d.i.toNat).S (S.read i (h.at d.A) d.i.toNat).v (S.read i (h.at d.A) d.i.toNat).e h := by
  unfold Stt.tdeed
  rw [if_neg (show ¬ d.k = 1 by omega), if_neg (show ¬ d.k = 2 by omega), if_neg (show ¬ d.k = 3 by omega), if_neg (show ¬ d.k = 4 by omega), if_neg (show ¬ d.k = 9 by omega), if_neg (show ¬ d.k = 10 by omega), if_neg (show ¬ d.k = 5 by omega), if_pos e]
theorem tdeed_k7 (S : Stt) (i : Nat) (h : ThV) (d : DeedV) (e : d.k = 7) : S.tdeed i h d = toldR (S.write i (h.at d.A) d.i.toNat d.n).S 0 (S.write i (h.at d.A) d.i.toNat d.n).e h := by
  unfold Stt.tdeed
  rw [if_neg (show ¬ d.k = 1 by omega), if_neg (show ¬ d.k = 2 by omega), if_neg (show ¬ d.k = 3 by omega), if_neg (show ¬ d.k = 4 by omega), if_neg (show ¬ d.k = 9 by omega), if_neg (show ¬ d.k = 10 by omega), if_neg (show ¬ d.k = 5 by omega), if_neg (show ¬ d.k = 6 by omega), if_pos e]
theorem tdeed_k8 (S : Stt) (i : Nat) (h : ThV) (d : DeedV) (e : d.k = 8) : S.tdeed i h d = toldR (S.free i (h.at d.A)).S 0 (S.free i (h.at d.A)).e h := by
  unfold Stt.tdeed
  rw [if_neg (show ¬ d.k = 1 by omega), if_neg (show ¬ d.k = 2 by omega), if_neg (show ¬ d.k = 3 by omega), if_neg (show ¬ d.k = 4 by omega), if_neg (show ¬ d.k = 9 by omega), if_neg (show ¬ d.k = 10 by omega), if_neg (show ¬ d.k = 5 by omega), if_neg (show ¬ d.k = 6 by omega), if_neg (show ¬ d.k = 7 by omega), if_pos e]
theorem tdeed_k11 (S : Stt) (i : Nat) (h : ThV) (d : DeedV) (e : d.k = 11) : S.tdeed i h d = toldR S (if h.at d.A = h.at d.B then 1 else 0) 0 h := by
  unfold Stt.tdeed
  rw [if_neg (show ¬ d.k = 1 by omega), if_neg (show ¬ d.k = 2 by omega), if_neg (show ¬ d.k = 3 by omega), if_neg (show ¬ d.k = 4 by omega), if_neg (show ¬ d.k = 9 by omega), if_neg (show ¬ d.k = 10 by omega), if_neg (show ¬ d.k = 5 by omega), if_neg (show ¬ d.k = 6 by omega), if_neg (show ¬ d.k = 7 by omega), if_neg (show ¬ d.k = 8 by omega), if_pos e]
theorem tdeed_k12 (S : Stt) (i : Nat) (h : ThV) (d : DeedV) (e : d.k = 12) : S.tdeed i h d = toldR S 0 0 (h.put d.A (h.at d.B)) := by
  unfold Stt.tdeed
  rw [if_neg (show ¬ d.k = 1 by omega), if_neg (show ¬ d.k = 2 by omega), if_neg (show ¬ d.k = 3 by omega), if_neg (show ¬ d.k = 4 by omega), if_neg (show ¬ d.k = 9 by omega), if_neg (show ¬ d.k = 10 by omega), if_neg (show ¬ d.k = 5 by omega), if_neg (show ¬ d.k = 6 by omega), if_neg (show ¬ d.k = 7 by omega), if_neg (show ¬ d.k = 8 by omega), if_neg (show ¬ d.k = 11 by omega), if_pos e]
theorem tdeed_k13 (S : Stt) (i : Nat) (h : ThV) (d : DeedV) (e : d.k = 13) : S.tdeed i h d = toldR S 0 0 (h.put d.A 0) := by
  unfold Stt.tdeed
  rw [if_neg (show ¬ d.k = 1 by omega), if_neg (show ¬ d.k = 2 by omega), if_neg (show ¬ d.k = 3 by omega), if_neg (show ¬ d.k = 4 by omega), if_neg (show ¬ d.k = 9 by omega), if_neg (show ¬ d.k = 10 by omega), if_neg (show ¬ d.k = 5 by omega), if_neg (show ¬ d.k = 6 by omega), if_neg (show ¬ d.k = 7 by omega), if_neg (show ¬ d.k = 8 by omega), if_neg (show ¬ d.k = 11 by omega), if_neg (show ¬ d.k = 12 by omega), if_pos e]
theorem tdeed_k14 (S : Stt) (i : Nat) (h : ThV) (d : DeedV) (e : d.k = 14) : S.tdeed i h d = ⟨S.abort i, { h.back with b := h.b + 1 }, ⟨2, 0, 0⟩⟩ := by
  unfold Stt.tdeed
  rw [if_neg (show ¬ d.k = 1 by omega), if_neg (show ¬ d.k = 2 by omega), if_neg (show ¬ d.k = 3 by omega), if_neg (show ¬ d.k = 4 by omega), if_neg (show ¬ d.k = 9 by omega), if_neg (show ¬ d.k = 10 by omega), if_neg (show ¬ d.k = 5 by omega), if_neg (show ¬ d.k = 6 by omega), if_neg (show ¬ d.k = 7 by omega), if_neg (show ¬ d.k = 8 by omega), if_neg (show ¬ d.k = 11 by omega), if_neg (show ¬ d.k = 12 by omega), if_neg (show ¬ d.k = 13 by omega)]
/-- A deed that may be. -/
structure DeedV.ok (d : DeedV) : Prop where
  k : 1 ≤ d.k ∧ d.k ≤ 14
  A : d.A < 6
  B : d.B < 6
  i : 0 ≤ d.i
  n : -9223372036854775808 ≤ d.n ∧ d.n ≤ 9223372036854775807
  s : d.k = 1 ∨ d.k = 2 → d.i ≤ 4 ∧ 0 ≤ d.n ∧ d.n ≤ 4
/-- Registers lead to objects. -/
def Rgs (S : Stt) (r : R6) : Prop := ∀ j, j < 6 → ∃ p : Nat, r.get j = p ∧ Plc S p
def LedOk (R : Res) : Prop := R.e = 0 → ∃ p : Nat, R.v = p ∧ Plc R.S p
theorem Rgs.at {S : Stt} {h : ThV} (hr : Rgs S h.r) {A : Nat} (hA : A < 6) : h.r.get A = (h.at A : Int) ∧ Plc S (h.at A) := by
  obtain ⟨p, h1, h2⟩ := hr A hA
  unfold ThV.at
  rw [h1, Int.toNat_natCast]
  exact ⟨rfl, h2⟩
theorem fin_led {r : Res} (i : Nat) (h : LedOk r) : LedOk (r.fin i) := by
  intro he
  unfold Res.fin at he ⊢
  split
  · rename_i ha
    rw [if_pos ha] at he
    simp only at he
    rw [he] at ha
    simp [isAb] at ha
  · rename_i ha
    rw [if_neg ha] at he
    split
    · rename_i h0; exact h h0
    · rename_i h0; rw [if_neg h0] at he; exact absurd he h0
section
variable {w w' : World} {o o' : Own} {y : SLay} {S : Stt} {i : Nat}
theorem alloc_led (hk : S.ok) (i : Nat) (s : Shp) : LedOk (S.alloc i s) := by
  refine fin_led i ?_
  intro he
  unfold Stt.allocR at he ⊢
  split
  · exact ⟨_, rfl, .inr (by rw [lk_laid hk, if_pos rfl]; rfl)⟩
  · rename_i hr; rw [if_neg hr] at he; simp at he
theorem weak_led (hk : S.ok) (i q : Nat) : LedOk (S.weak i q) := by
  refine fin_led i ?_
  intro he
  unfold Stt.weakR at he ⊢
  split
  · rename_i h0; rw [if_pos h0] at he; simp at he
  · rename_i h0
    rw [if_neg h0] at he
    split
    · refine ⟨_, rfl, .inr ?_⟩
      show (lk (up (S.laid i (S.t i) Shp.wk).H.cur S.H.top _) S.H.top).isSome = true
      rw [lk_up, if_pos rfl, lk_laid hk, if_pos rfl]; rfl
    · rename_i hr; rw [if_neg hr] at he; simp at he
theorem lookR_H (x : Tx) (p : Nat) : (S.lookR i x p).1.H = S.H := by
  unfold Stt.lookR; repeat' split
  all_goals rfl
theorem plc_H {S' : Stt} (h : S'.H = S.H) {p : Nat} (hp : Plc S p) : Plc S' p := by unfold Plc at *; rw [h]; exact hp
theorem get_led (hI : Inv S) (i p j : Nat) : LedOk (S.get i p j) := by
  refine fin_led i ?_
  intro he
  unfold Stt.getR at he ⊢
  split
  · rename_i hne; rw [if_pos hne] at he; exact absurd he hne
  · rename_i hne
    rw [if_neg hne] at he
    cases hb : (lk S.H.cur p).bind (·.ptrs[j]?) with
    | none => rw [hb] at he; simp at he
    | some q =>
      refine ⟨q, rfl, plc_H (S := S) (lookR_H _ p) ?_⟩
      obtain ⟨ob, h1, h2⟩ := Option.bind_eq_some_iff.1 hb
      exact hI.lo p ob h1 q (List.mem_of_getElem? h2)
theorem load_led (hI : Inv S) (i p : Nat) : LedOk (S.load i p) := by
  refine fin_led i ?_
  intro he
  unfold Stt.loadR at he ⊢
  split
  · rename_i hne; rw [if_pos hne] at he; exact absurd he hne
  · rename_i hne
    rw [if_neg hne] at he
    cases hb : lk S.H.cur p with
    | none => exact ⟨0, rfl, .inl rfl⟩
    | some ob =>
      rw [hb] at he
      simp only at he ⊢
      split
      · split
        · exact ⟨0, rfl, .inl rfl⟩
        · rename_i h0
          refine ⟨_, rfl, ?_⟩
          show Plc S (ob.ptrs.getD 0 0)
          refine hI.lo p ob hb _ ?_
          rw [List.getD_eq_getElem?_getD] at h0 ⊢
          cases hq : ob.ptrs[0]? with
          | none => rw [hq] at h0; simp at h0
          | some q => exact List.mem_of_getElem? hq
      · rename_i hw; rw [if_neg hw] at he; simp at he
theorem take_led (i : Nat) : LedOk (S.take i) := by
  refine fin_led i ?_
  intro he
  unfold Stt.takeR
  split <;> exact ⟨0, rfl, .inl rfl⟩
/-- What a deed asks. -/
structure Tdy (S : Stt) (i : Nat) (h : ThV) : Prop where
  inv : Inv S
  chk : S.chk i = true
  rg : Rgs S h.r
  ser : S.H.serial < 1099511627776
  n : 0 ≤ h.n ∧ h.n ≤ 4096
  b : 0 ≤ h.b ∧ h.b ≤ 4096
theorem tdeed_any (hS : StIn w o y S) (h : ThV) (d : DeedV) (hd : d.ok) (hT : Tdy S i h) :
    Calls Tryz.prog 76 #[ptr y.sb, .int .i64 i, d.v, h.v] w fun e' w' => e' = .returned (.tuple #[(S.tdeed i h d).h.v, (S.tdeed i h d).a.val]) ∧ Left y (S.tdeed i h d).S o w w' := by
  have hA := hd.A
  have hB := hd.B
  obtain ⟨ea, pa⟩ := hT.rg.at hA
  obtain ⟨eb, pb⟩ := hT.rg.at hB
  obtain ⟨hb, hn, ⟨a0, a1, a2, a3, a4, a5⟩, ⟨s0, s1, s2, s3, s4, s5⟩, hl⟩ := h
  obtain ⟨k, A, B, fi, fn⟩ := d
  have hn0 := hT.n
  have hb0 := hT.b
  have hk := hd.k
  have hi := hd.i
  have hfn := hd.n
  have hs := hd.s
  simp only at hA hB ea eb pa pb hn0 hb0 hk hi hfn hs
  have hlt : i < S.txs.length := by
    have := hT.chk
    unfold Stt.chk at this
    simp only [Bool.and_eq_true, decide_eq_true_eq] at this
    exact this.1.1
  have hlv : (S.t i).live = true := by
    have := hT.chk
    unfold Stt.chk at this
    simp only [Bool.and_eq_true, decide_eq_true_eq] at this
    exact this.1.2
  obtain rfl | rfl | rfl | rfl | rfl | rfl | rfl | rfl | rfl | rfl | rfl | rfl | rfl | rfl : k = 1 ∨ k = 2 ∨ k = 3 ∨ k = 4 ∨ k = 5 ∨ k = 6 ∨ k = 7 ∨ k = 8 ∨ k = 9 ∨ k = 10 ∨ k = 11 ∨ k = 12 ∨ k = 13 ∨ k = 14 := by omega
  · rw [tdeed_k1 _ _ _ _ rfl]
    exact tdeed_alloc hS hT.inv hb hn a0 a1 a2 a3 a4 a5 s0 s1 s2 s3 s4 s5 hl A B fi fn _ _ hT.chk ⟨hi, (hs (.inl rfl)).1⟩ (hs (.inl rfl)).2 hT.ser (alloc_led hT.inv.ok i _) hA hB ea eb hn0 hb0
  · rw [tdeed_k2 _ _ _ _ rfl]
    exact tdeed_final hS hT.inv hb hn a0 a1 a2 a3 a4 a5 s0 s1 s2 s3 s4 s5 hl A B fi fn _ _ hT.chk ⟨hi, (hs (.inr rfl)).1⟩ (hs (.inr rfl)).2 hT.ser (alloc_led hT.inv.ok i _) hA hB ea eb hn0 hb0
  · rw [tdeed_k3 _ _ _ _ rfl]
    exact tdeed_weak hS hT.inv hb hn a0 a1 a2 a3 a4 a5 s0 s1 s2 s3 s4 s5 hl A B fi fn _ _ hT.chk pb hT.ser (weak_led hT.inv.ok i _) hA hB ea eb hn0 hb0
  · rw [tdeed_k4 _ _ _ _ rfl]
    exact tdeed_get hS hT.inv hb hn a0 a1 a2 a3 a4 a5 s0 s1 s2 s3 s4 s5 hl A B fi fn _ _ hT.chk pb hi (get_led hT.inv i _ _) hA hB ea eb hn0 hb0
  · rw [tdeed_k5 _ _ _ _ rfl]
    exact tdeed_put hS hT.inv hb hn a0 a1 a2 a3 a4 a5 s0 s1 s2 s3 s4 s5 hl A B fi fn _ _ hT.chk pa pb hi hA hB ea eb hn0 hb0
  · rw [tdeed_k6 _ _ _ _ rfl]
    exact tdeed_read hS hT.inv hb hn a0 a1 a2 a3 a4 a5 s0 s1 s2 s3 s4 s5 hl A B fi fn _ _ hT.chk pa hi hA hB ea eb hn0 hb0
  · rw [tdeed_k7 _ _ _ _ rfl]
    exact tdeed_write hS hT.inv hb hn a0 a1 a2 a3 a4 a5 s0 s1 s2 s3 s4 s5 hl A B fi fn _ _ hT.chk pa hi hfn hA hB ea eb hn0 hb0
  · rw [tdeed_k8 _ _ _ _ rfl]
    exact tdeed_free hS hT.inv hb hn a0 a1 a2 a3 a4 a5 s0 s1 s2 s3 s4 s5 hl A B fi fn _ _ hT.chk pa hA hB ea eb hn0 hb0
  · rw [tdeed_k9 _ _ _ _ rfl]
    exact tdeed_load hS hT.inv hb hn a0 a1 a2 a3 a4 a5 s0 s1 s2 s3 s4 s5 hl A B fi fn _ _ hT.chk pb (load_led hT.inv i _) hA hB ea eb hn0 hb0
  · rw [tdeed_k10 _ _ _ _ rfl]
    exact tdeed_take hS hT.inv hb hn a0 a1 a2 a3 a4 a5 s0 s1 s2 s3 s4 s5 hl A B fi fn _ _ hT.chk (take_led i) hA hB ea eb hn0 hb0
  · rw [tdeed_k11 _ _ _ _ rfl]
    by_cases hab : (ThV.at ⟨hb, hn, ⟨a0, a1, a2, a3, a4, a5⟩, ⟨s0, s1, s2, s3, s4, s5⟩, hl⟩ A) = (ThV.at ⟨hb, hn, ⟨a0, a1, a2, a3, a4, a5⟩, ⟨s0, s1, s2, s3, s4, s5⟩, hl⟩ B)
    · rw [if_pos hab]
      exact tdeed_same hS hT.inv hb hn a0 a1 a2 a3 a4 a5 s0 s1 s2 s3 s4 s5 hl A B fi fn _ _ hab hA hB ea eb hn0 hb0
    · rw [if_neg hab]
      exact tdeed_unlike hS hT.inv hb hn a0 a1 a2 a3 a4 a5 s0 s1 s2 s3 s4 s5 hl A B fi fn _ _ hab hA hB ea eb hn0 hb0
  · rw [tdeed_k12 _ _ _ _ rfl]
    exact tdeed_move hS hT.inv hb hn a0 a1 a2 a3 a4 a5 s0 s1 s2 s3 s4 s5 hl A B fi fn _ _ hA hB ea eb hn0 hb0
  · rw [tdeed_k13 _ _ _ _ rfl]
    exact tdeed_nil hS hT.inv hb hn a0 a1 a2 a3 a4 a5 s0 s1 s2 s3 s4 s5 hl A B fi fn _ _ hA hB ea eb hn0 hb0
  · rw [tdeed_k14 _ _ _ _ rfl]
    exact tdeed_abort hS hT.inv hb hn a0 a1 a2 a3 a4 a5 s0 s1 s2 s3 s4 s5 hl A B fi fn _ _ hlt hlv hA hB ea eb hb0
end
end Go.Proofs.YtemohiainfllcaaGreat
