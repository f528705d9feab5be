/- Threads: a transaction's begin and commit (printed by tools/gen_bc.py). -/
import Derived.Test.YtemohiainfllcaaGreatMg
import Derived.Test.YtemohiainfllcaaGreatKr
namespace Go.Proofs.YtemohiainfllcaaGreat
open Go.RowKit Hp
attribute [local go_sem ↓] Go.wp_at_zero Go.wp_at_succ
section
variable {w w' : World} {o o' : Own} {y : SLay} {S : Stt} {i : Nat}
set_option maxRecDepth 100000 in
set_option maxHeartbeats 4000000 in
theorem tbegin_any (hS : StIn w o y S) (hI : Inv S) (hb hn a0 a1 a2 a3 a4 a5 s0 s1 s2 s3 s4 s5 : Int) (hl : Bool) (nb : Int) (hi : i < S.txs.length) (hlv : (S.t i).live = false) (hr : S.now + 9 ≤ S.most) :
    Calls Tryz.prog 73 #[ptr y.sb, .int .i64 i, .int .i64 nb, .agg #[.int .i64 hb, .int .i64 hn, .int .i64 a0, .int .i64 a1, .int .i64 a2, .int .i64 a3, .int .i64 a4, .int .i64 a5, .int .i64 s0, .int .i64 s1, .int .i64 s2, .int .i64 s3, .int .i64 s4, .int .i64 s5, .bool hl]] w fun e' w' => e' = .returned (.tuple #[ThV.v ⟨hb, 0, ⟨a0, a1, a2, a3, a4, a5⟩, ⟨a0, a1, a2, a3, a4, a5⟩, true⟩, ActV.val ⟨1, 0, S.now⟩]) ∧ Left y (S.begin i) o w w' := by
  obtain ⟨o1, ho1⟩ : ∃ o1, o1 = ext o w.heap.size (y.l.id + 1, 0) := ⟨_, rfl⟩
  have h1 := hS.retag (o' := o1) fun b hb => by rw [ho1]; exact ext_lt hb
  have hS0 : Stp (stTag y) o o1 w w := by rw [ho1]; exact (Stp.refl _ o w).ext _ _ (Nat.le_refl _)
  have hbx : ∀ b, w.heap.size ≤ b → bxT y (o1 b) := fun b hb => by rw [ho1]; exact ext_ge hb
  clear ho1 hS
  obtain ⟨W, hW⟩ : ∃ W : World, W = (((w.alloc (.cells #[.int .i64 hb, .int .i64 hn, .int .i64 a0, .int .i64 a1, .int .i64 a2, .int .i64 a3, .int .i64 a4, .int .i64 a5, .int .i64 s0, .int .i64 s1, .int .i64 s2, .int .i64 s3, .int .i64 s4, .int .i64 s5, .bool hl] 57)).alloc (.cells #[.int .i64 0, .int .i64 0, .int .i64 0, .int .i64 0, .int .i64 0, .int .i64 0, .int .i64 0, .int .i64 0, .int .i64 0, .int .i64 0, .int .i64 0, .int .i64 0, .int .i64 0, .int .i64 0, .bool false] 57)).alloc (.cells #[.int .i64 0, .int .i64 0, .int .i64 0] 60)) := ⟨_, rfl⟩
  have hbW : Below w.heap.size w W := by rw [hW]; exact balloc (balloc (balloc (bsame w) _) _) _
  have k7 : Blk W w.heap.size #[.int .i64 hb, .int .i64 hn, .int .i64 a0, .int .i64 a1, .int .i64 a2, .int .i64 a3, .int .i64 a4, .int .i64 a5, .int .i64 s0, .int .i64 s1, .int .i64 s2, .int .i64 s3, .int .i64 s4, .int .i64 s5, .bool hl] 57 := by rw [hW]; exact ((Blk.new w _ _).alloc _).alloc _
  have k8 : Blk W (w.heap.size + 1) #[.int .i64 0, .int .i64 0, .int .i64 0, .int .i64 0, .int .i64 0, .int .i64 0, .int .i64 0, .int .i64 0, .int .i64 0, .int .i64 0, .int .i64 0, .int .i64 0, .int .i64 0, .int .i64 0, .bool false] 57 := by rw [hW]; exact (Blk.new_at _ _ _ _ _ (by simp) rfl).alloc _
  have k9 : Blk W (w.heap.size + 1 + 1) #[.int .i64 0, .int .i64 0, .int .i64 0] 60 := by rw [hW]; exact Blk.new_at _ _ _ _ _ (by simp) rfl
  have hSW := h1.below hbW
  have hsW : Stp (stTag y) o o1 w W := hS0.trans (Stp.of_below hbW)
  have HC := Lib.hid (fun X o2 (h2 : StIn X o2 y S) => by have := c_begin h2 hI hi hr; rw [hlv] at this; simp only [Bool.false_eq_true, if_false] at this; exact this)
  have hst : ((S.begin i).t i).live = true ∧ ((S.begin i).t i).start = S.now := by
    unfold Stt.begin; rw [hlv]
    simp only [Bool.false_eq_true, if_false]
    rw [tx_t hi, if_pos rfl]
    exact ⟨rfl, rfl⟩
  have HL := Lib.hid (fun X o2 (h2 : StIn X o2 y (S.begin i)) (h3 : Inv (S.begin i)) => by have := c_live h2 h3 (i := i) (by rw [(begin_mv hi).1.len]; exact hi); rw [hst.1, hst.2] at this; simp only [if_true] at this; exact this)
  have HB := Lib.hid hbx
  generalize S.begin i = SB at *
  generalize S.now = nw at *
  clear hI hi hlv hr hst h1 hS0 hbx
  go_enter Tryz.func73, Tryz.ntmps73
  go_wp2_with fail
  rw [← hW]
  clear hW
  refine (HC.out _ _ hSW).mono ?_
  rintro e2 w2 ⟨rfl, o2, hS2, hI2, hs2⟩
  have nt : ∀ b, w.heap.size ≤ b → ¬ stTag y (o1 b) := fun b q1 => bxT_st (HB.out b q1)
  have tg : ∀ b, w.heap.size ≤ b → b < W.heap.size → bxT y (o2 b) := fun b q1 q2 => by have := HB.out b q1; rw [← hs2.tags b q2] at this; exact this
  have t7 := tg w.heap.size (by omega) k7.lt
  have t8 := tg (w.heap.size + 1) (by omega) k8.lt
  have t9 := tg (w.heap.size + 1 + 1) (by omega) k9.lt
  replace k7 := k7.stp hs2 (nt _ (by omega))
  replace k8 := k8.stp hs2 (nt _ (by omega))
  replace k9 := k9.stp hs2 (nt _ (by omega))
  have hs3 := hsW.trans hs2
  have HI2 := Lib.hid hI2
  obtain ⟨w3, hw3⟩ : ∃ w3, w3 = w2.alloc (.cells #[.int .i64 1, .int .i64 0, .int .i64 0] 60) := ⟨_, rfl⟩
  have kA : Blk w3 w2.heap.size #[.int .i64 1, .int .i64 0, .int .i64 0] 60 := by rw [hw3]; exact Blk.new _ _ _
  have hb3 : Below w2.heap.size w2 w3 := by rw [hw3]; exact balloc (bsame _) _
  have l7 := k7.lt
  have l8 := k8.lt
  have l9 := k9.lt
  replace k7 := k7.below hb3 k7.lt
  replace k8 := k8.below hb3 k8.lt
  replace k9 := k9.below hb3 k9.lt
  have hS3 := hS2.below hb3
  have HSA := Lib.hid (show StIn (w3.setCell ⟨w2.heap.size, 2, none⟩ (.int .i64 nw)) o2 y SB from hS2.below (bset (by rw [hw3]; exact balloc (bsame _) _) (Nat.le_refl _) _))
  replace hs3 := hs3.trans (Stp.of_below hb3)
  have hsz : w.heap.size ≤ w2.heap.size := by omega
  clear hs2 hSW hsW HC tg nt hS2 hbW hb3
  go_wp2_with fail
  rw [← hw3]
  clear hw3
  refine (HL.out _ _ hS3 hI2).mono ?_
  rintro e4 w4 ⟨rfl, rfl⟩
  have c7 := k7.cell
  have z7 := k7.free
  have l7' := k7.lt
  have cA := kA.cell
  have zA := kA.free
  have lA := kA.lt
  have ne7 : w.heap.size ≠ w2.heap.size := by omega
  have ne7' : w2.heap.size ≠ w.heap.size := by omega
  go_upto_region 9 with fail
  clear c7 z7 l7' cA zA lA
  obtain ⟨bA, hbA⟩ : ∃ bA, bA = w2.heap.size := ⟨_, rfl⟩
  rw [← hbA] at HSA kA ne7 ne7' hsz l7 l8 l9 ⊢
  clear hbA
  obtain ⟨V, hV⟩ : ∃ V, V = (((((((((w3.setCell ⟨bA, 2, none⟩ (.int .i64 nw)).setCell ⟨w.heap.size, 14, none⟩ (.bool true)).setCell ⟨w.heap.size, 1, none⟩ (.int .i64 0)).setCell ⟨w.heap.size, 8, none⟩ (.int .i64 a0)).setCell ⟨w.heap.size, 9, none⟩ (.int .i64 a1)).setCell ⟨w.heap.size, 10, none⟩ (.int .i64 a2)).setCell ⟨w.heap.size, 11, none⟩ (.int .i64 a3)).setCell ⟨w.heap.size, 12, none⟩ (.int .i64 a4)).setCell ⟨w.heap.size, 13, none⟩ (.int .i64 a5)) := ⟨_, rfl⟩
  rw [← hV]
  have i7 : Blk V w.heap.size #[.int .i64 hb, .int .i64 0, .int .i64 a0, .int .i64 a1, .int .i64 a2, .int .i64 a3, .int .i64 a4, .int .i64 a5, .int .i64 a0, .int .i64 a1, .int .i64 a2, .int .i64 a3, .int .i64 a4, .int .i64 a5, .bool true] 57 := by
    rw [hV]
    have k := (((((((((k7.set_other (a := ⟨bA, 2, none⟩) ne7 (.int .i64 nw)).set 14 (.bool true)).set 1 (.int .i64 0)).set 8 (.int .i64 a0)).set 9 (.int .i64 a1)).set 10 (.int .i64 a2)).set 11 (.int .i64 a3)).set 12 (.int .i64 a4)).set 13 (.int .i64 a5))
    simp only [List.setIfInBounds_toArray, List.set_cons_zero, List.set_cons_succ] at k
    exact k
  have iA : Blk V bA #[.int .i64 1, .int .i64 0, .int .i64 nw] 60 := by rw [hV]; exact (((((((((kA.set 2 (.int .i64 nw)).set_other (a := ⟨w.heap.size, 14, none⟩) ne7' (.bool true)).set_other (a := ⟨w.heap.size, 1, none⟩) ne7' (.int .i64 0)).set_other (a := ⟨w.heap.size, 8, none⟩) ne7' (.int .i64 a0)).set_other (a := ⟨w.heap.size, 9, none⟩) ne7' (.int .i64 a1)).set_other (a := ⟨w.heap.size, 10, none⟩) ne7' (.int .i64 a2)).set_other (a := ⟨w.heap.size, 11, none⟩) ne7' (.int .i64 a3)).set_other (a := ⟨w.heap.size, 12, none⟩) ne7' (.int .i64 a4)).set_other (a := ⟨w.heap.size, 13, none⟩) ne7' (.int .i64 a5))
  have hw1 : Wr bA w3 (w3.setCell ⟨bA, 2, none⟩ (.int .i64 nw)) := Wr.set _ _ _ _
  have hw2 : Wr w.heap.size (w3.setCell ⟨bA, 2, none⟩ (.int .i64 nw)) V := by rw [hV]; exact (((((((((Wr.refl _ _).trans (Wr.set _ _ 14 _)).trans (Wr.set _ _ 1 _)).trans (Wr.set _ _ 8 _)).trans (Wr.set _ _ 9 _)).trans (Wr.set _ _ 10 _)).trans (Wr.set _ _ 11 _)).trans (Wr.set _ _ 12 _)).trans (Wr.set _ _ 13 _))
  have i8 := (k8.wr hw1 (by omega)).wr hw2 (by omega)
  have i9 := (k9.wr hw1 (by omega)).wr hw2 (by omega)
  have hs5 := (hs3.wr_new hw1 hsz).wr_new hw2 (by omega)
  have hS4 : StIn (w3.setCell ⟨bA, 2, none⟩ (.int .i64 nw)) o2 y SB := HSA.out
  have hS5 := hS4.bx (Stp.of_wr hw2 t7)
  have nA8 : bA ≠ w.heap.size + 1 := by omega
  have nA9 : bA ≠ w.heap.size + 1 + 1 := by omega
  clear hV hw1 hw2 k7 k8 k9 kA hS3 hs3 hS4 l7 l8 l9
  have c7 := i7.cell
  have cA := iA.cell
  have c8 := i8.cell
  have z8 := i8.free
  have l8 := i8.lt
  have c9 := i9.cell
  have z9 := i9.free
  have l9 := i9.lt
  have hres := Lib.hid (res_blk i8 i9 (by omega) ⟨hb, 0, ⟨a0, a1, a2, a3, a4, a5⟩, ⟨a0, a1, a2, a3, a4, a5⟩, true⟩ ⟨1, 0, nw⟩)
  have hrs := Lib.hid (res_stp hs5 (b6 := (w.heap.size + 1)) (b7 := (w.heap.size + 1 + 1)) (by omega) (by omega) ⟨hb, 0, ⟨a0, a1, a2, a3, a4, a5⟩, ⟨a0, a1, a2, a3, a4, a5⟩, true⟩ ⟨1, 0, nw⟩)
  have hrS := Lib.hid (hS5.bx (res_bx V (w.heap.size + 1) (w.heap.size + 1 + 1) (o := o2) t8 t9 ⟨hb, 0, ⟨a0, a1, a2, a3, a4, a5⟩, ⟨a0, a1, a2, a3, a4, a5⟩, true⟩ ⟨1, 0, nw⟩))
  clear i7 iA i8 i9 hS5 hs5
  go_region
  all_goals
    go_wp2_with fail
    change bodyPost _ _ _ _ _ (resW V (w.heap.size + 1) (w.heap.size + 1 + 1) ⟨hb, 0, ⟨a0, a1, a2, a3, a4, a5⟩, ⟨a0, a1, a2, a3, a4, a5⟩, true⟩ ⟨1, 0, nw⟩).drew
    generalize resW V (w.heap.size + 1) (w.heap.size + 1 + 1) ⟨hb, 0, ⟨a0, a1, a2, a3, a4, a5⟩, ⟨a0, a1, a2, a3, a4, a5⟩, true⟩ ⟨1, 0, nw⟩ = X at *
    exact bodyPost_ret (results_two _ _ 8 9 rfl rfl rfl (drewB hres.out.1) (drewB hres.out.2)) rfl ⟨rfl, o2, hrS.out.below (bdrew (bsame _)), HI2.out, hrs.out.drew⟩
set_option maxRecDepth 100000 in
set_option maxHeartbeats 4000000 in
theorem tcommit_ok (hS : StIn w o y S) (hI : Inv S) (hb hn a0 a1 a2 a3 a4 a5 s0 s1 s2 s3 s4 s5 : Int) (hl : Bool) (hc : S.chk i = true) (hm : S.now < S.most) (he : (S.commit i).e = 0) (hb0 : 0 ≤ hb ∧ hb ≤ 4096) :
    Calls Tryz.prog 74 #[ptr y.sb, .int .i64 i, .agg #[.int .i64 hb, .int .i64 hn, .int .i64 a0, .int .i64 a1, .int .i64 a2, .int .i64 a3, .int .i64 a4, .int .i64 a5, .int .i64 s0, .int .i64 s1, .int .i64 s2, .int .i64 s3, .int .i64 s4, .int .i64 s5, .bool hl]] w fun e' w' => e' = .returned (.tuple #[ThV.v ⟨(hb + 1), 0, ⟨a0, a1, a2, a3, a4, a5⟩, ⟨a0, a1, a2, a3, a4, a5⟩, false⟩, ActV.val ⟨3, 0, (S.commit i).v⟩]) ∧ Left y (S.commit i).S o w w' := by
  obtain ⟨o1, ho1⟩ : ∃ o1, o1 = ext o w.heap.size (y.l.id + 1, 0) := ⟨_, rfl⟩
  have h1 := hS.retag (o' := o1) fun b hb => by rw [ho1]; exact ext_lt hb
  have hS0 : Stp (stTag y) o o1 w w := by rw [ho1]; exact (Stp.refl _ o w).ext _ _ (Nat.le_refl _)
  have hbx : ∀ b, w.heap.size ≤ b → bxT y (o1 b) := fun b hb => by rw [ho1]; exact ext_ge hb
  clear ho1 hS
  obtain ⟨W, hW⟩ : ∃ W : World, W = (((w.alloc (.cells #[.int .i64 hb, .int .i64 hn, .int .i64 a0, .int .i64 a1, .int .i64 a2, .int .i64 a3, .int .i64 a4, .int .i64 a5, .int .i64 s0, .int .i64 s1, .int .i64 s2, .int .i64 s3, .int .i64 s4, .int .i64 s5, .bool hl] 57)).alloc (.cells #[.int .i64 0, .int .i64 0, .int .i64 0, .int .i64 0, .int .i64 0, .int .i64 0, .int .i64 0, .int .i64 0, .int .i64 0, .int .i64 0, .int .i64 0, .int .i64 0, .int .i64 0, .int .i64 0, .bool false] 57)).alloc (.cells #[.int .i64 0, .int .i64 0, .int .i64 0] 60)) := ⟨_, rfl⟩
  have hbW : Below w.heap.size w W := by rw [hW]; exact balloc (balloc (balloc (bsame w) _) _) _
  have k7 : Blk W w.heap.size #[.int .i64 hb, .int .i64 hn, .int .i64 a0, .int .i64 a1, .int .i64 a2, .int .i64 a3, .int .i64 a4, .int .i64 a5, .int .i64 s0, .int .i64 s1, .int .i64 s2, .int .i64 s3, .int .i64 s4, .int .i64 s5, .bool hl] 57 := by rw [hW]; exact ((Blk.new w _ _).alloc _).alloc _
  have k8 : Blk W (w.heap.size + 1) #[.int .i64 0, .int .i64 0, .int .i64 0, .int .i64 0, .int .i64 0, .int .i64 0, .int .i64 0, .int .i64 0, .int .i64 0, .int .i64 0, .int .i64 0, .int .i64 0, .int .i64 0, .int .i64 0, .bool false] 57 := by rw [hW]; exact (Blk.new_at _ _ _ _ _ (by simp) rfl).alloc _
  have k9 : Blk W (w.heap.size + 1 + 1) #[.int .i64 0, .int .i64 0, .int .i64 0] 60 := by rw [hW]; exact Blk.new_at _ _ _ _ _ (by simp) rfl
  have hSW := h1.below hbW
  have hsW : Stp (stTag y) o o1 w W := hS0.trans (Stp.of_below hbW)
  have HC := Lib.hid (fun X o2 (h2 : StIn X o2 y S) => c_commit h2 hI hc hm)
  have HB := Lib.hid hbx
  obtain ⟨b1, b2⟩ := hb0
  generalize S.commit i = R at *
  clear hI hc hm h1 hS0 hbx
  rw [he] at HC
  go_enter Tryz.func74, Tryz.ntmps74
  go_wp2_with fail
  rw [← hW]
  clear hW
  refine (HC.out _ _ hSW).mono ?_
  rintro e2 w2 ⟨rfl, o2, hS2, hI2, hs2⟩
  have nt : ∀ b, w.heap.size ≤ b → ¬ stTag y (o1 b) := fun b q1 => bxT_st (HB.out b q1)
  have tg : ∀ b, w.heap.size ≤ b → b < W.heap.size → bxT y (o2 b) := fun b q1 q2 => by have := HB.out b q1; rw [← hs2.tags b q2] at this; exact this
  have t7 := tg w.heap.size (by omega) k7.lt
  have t8 := tg (w.heap.size + 1) (by omega) k8.lt
  have t9 := tg (w.heap.size + 1 + 1) (by omega) k9.lt
  replace k7 := k7.stp hs2 (nt _ (by omega))
  replace k8 := k8.stp hs2 (nt _ (by omega))
  replace k9 := k9.stp hs2 (nt _ (by omega))
  have hs3 := hsW.trans hs2
  have HI2 := Lib.hid hI2
  clear hs2 hSW hsW HC tg nt hbW hI2
  have c7 := k7.cell
  have z7 := k7.free
  have l7 := k7.lt
  go_upto_region 8 with fail
  obtain ⟨V, hV⟩ : ∃ V, V = (((((((((w2.setCell ⟨w.heap.size, 14, none⟩ (.bool false)).setCell ⟨w.heap.size, 1, none⟩ (.int .i64 0)).setCell ⟨w.heap.size, 0, none⟩ (.int .i64 (hb + 1))).setCell ⟨w.heap.size, 8, none⟩ (.int .i64 a0)).setCell ⟨w.heap.size, 9, none⟩ (.int .i64 a1)).setCell ⟨w.heap.size, 10, none⟩ (.int .i64 a2)).setCell ⟨w.heap.size, 11, none⟩ (.int .i64 a3)).setCell ⟨w.heap.size, 12, none⟩ (.int .i64 a4)).setCell ⟨w.heap.size, 13, none⟩ (.int .i64 a5)) := ⟨_, rfl⟩
  rw [← hV]
  have i7 : Blk V w.heap.size #[.int .i64 (hb + 1), .int .i64 0, .int .i64 a0, .int .i64 a1, .int .i64 a2, .int .i64 a3, .int .i64 a4, .int .i64 a5, .int .i64 a0, .int .i64 a1, .int .i64 a2, .int .i64 a3, .int .i64 a4, .int .i64 a5, .bool false] 57 := by
    rw [hV]
    have k := (((((((((k7.set 14 (.bool false)).set 1 (.int .i64 0)).set 0 (.int .i64 (hb + 1))).set 8 (.int .i64 a0)).set 9 (.int .i64 a1)).set 10 (.int .i64 a2)).set 11 (.int .i64 a3)).set 12 (.int .i64 a4)).set 13 (.int .i64 a5))
    simp only [List.setIfInBounds_toArray, List.set_cons_zero, List.set_cons_succ] at k
    exact k
  have hw2 : Wr w.heap.size w2 V := by rw [hV]; exact ((((((((((Wr.refl _ _).trans (Wr.set _ _ 14 _)).trans (Wr.set _ _ 1 _)).trans (Wr.set _ _ 0 _)).trans (Wr.set _ _ 8 _)).trans (Wr.set _ _ 9 _)).trans (Wr.set _ _ 10 _)).trans (Wr.set _ _ 11 _)).trans (Wr.set _ _ 12 _)).trans (Wr.set _ _ 13 _))
  have i8 := k8.wr hw2 (by omega)
  have i9 := k9.wr hw2 (by omega)
  have hs5 := hs3.wr_new hw2 (by omega)
  have hS5 := hS2.bx (Stp.of_wr hw2 t7)
  clear hV hw2 k7 k8 k9 hS2 hs3 l7 c7 z7
  have c7 := i7.cell
  have c8 := i8.cell
  have z8 := i8.free
  have l8 := i8.lt
  have c9 := i9.cell
  have z9 := i9.free
  have l9 := i9.lt
  have hres := Lib.hid (res_blk i8 i9 (by omega) ⟨(hb + 1), 0, ⟨a0, a1, a2, a3, a4, a5⟩, ⟨a0, a1, a2, a3, a4, a5⟩, false⟩ ⟨3, 0, R.v⟩)
  have hrs := Lib.hid (res_stp hs5 (b6 := (w.heap.size + 1)) (b7 := (w.heap.size + 1 + 1)) (by omega) (by omega) ⟨(hb + 1), 0, ⟨a0, a1, a2, a3, a4, a5⟩, ⟨a0, a1, a2, a3, a4, a5⟩, false⟩ ⟨3, 0, R.v⟩)
  have hrS := Lib.hid (hS5.bx (res_bx V (w.heap.size + 1) (w.heap.size + 1 + 1) (o := o2) t8 t9 ⟨(hb + 1), 0, ⟨a0, a1, a2, a3, a4, a5⟩, ⟨a0, a1, a2, a3, a4, a5⟩, false⟩ ⟨3, 0, R.v⟩))
  clear i7 i8 i9 hS5 hs5
  go_wp2_with fail
  change bodyPost _ _ _ _ _ (resW V (w.heap.size + 1) (w.heap.size + 1 + 1) ⟨(hb + 1), 0, ⟨a0, a1, a2, a3, a4, a5⟩, ⟨a0, a1, a2, a3, a4, a5⟩, false⟩ ⟨3, 0, R.v⟩)
  generalize resW V (w.heap.size + 1) (w.heap.size + 1 + 1) ⟨(hb + 1), 0, ⟨a0, a1, a2, a3, a4, a5⟩, ⟨a0, a1, a2, a3, a4, a5⟩, false⟩ ⟨3, 0, R.v⟩ = X at *
  exact bodyPost_ret (results_two _ _ 6 7 rfl rfl rfl hres.out.1 hres.out.2) rfl ⟨rfl, o2, hrS.out, HI2.out, hrs.out⟩
set_option maxRecDepth 100000 in
set_option maxHeartbeats 4000000 in
theorem tcommit_no (hS : StIn w o y S) (hI : Inv S) (hb hn a0 a1 a2 a3 a4 a5 s0 s1 s2 s3 s4 s5 : Int) (hl : Bool) (hc : S.chk i = true) (hm : S.now < S.most) (he : (S.commit i).e ≠ 0)  :
    Calls Tryz.prog 74 #[ptr y.sb, .int .i64 i, .agg #[.int .i64 hb, .int .i64 hn, .int .i64 a0, .int .i64 a1, .int .i64 a2, .int .i64 a3, .int .i64 a4, .int .i64 a5, .int .i64 s0, .int .i64 s1, .int .i64 s2, .int .i64 s3, .int .i64 s4, .int .i64 s5, .bool hl]] w fun e' w' => e' = .returned (.tuple #[ThV.v ⟨hb, 0, ⟨s0, s1, s2, s3, s4, s5⟩, ⟨s0, s1, s2, s3, s4, s5⟩, false⟩, ActV.val ⟨3, (S.commit i).e, 0⟩]) ∧ Left y (S.commit i).S o w w' := by
  obtain ⟨o1, ho1⟩ : ∃ o1, o1 = ext o w.heap.size (y.l.id + 1, 0) := ⟨_, rfl⟩
  have h1 := hS.retag (o' := o1) fun b hb => by rw [ho1]; exact ext_lt hb
  have hS0 : Stp (stTag y) o o1 w w := by rw [ho1]; exact (Stp.refl _ o w).ext _ _ (Nat.le_refl _)
  have hbx : ∀ b, w.heap.size ≤ b → bxT y (o1 b) := fun b hb => by rw [ho1]; exact ext_ge hb
  clear ho1 hS
  obtain ⟨W, hW⟩ : ∃ W : World, W = (((w.alloc (.cells #[.int .i64 hb, .int .i64 hn, .int .i64 a0, .int .i64 a1, .int .i64 a2, .int .i64 a3, .int .i64 a4, .int .i64 a5, .int .i64 s0, .int .i64 s1, .int .i64 s2, .int .i64 s3, .int .i64 s4, .int .i64 s5, .bool hl] 57)).alloc (.cells #[.int .i64 0, .int .i64 0, .int .i64 0, .int .i64 0, .int .i64 0, .int .i64 0, .int .i64 0, .int .i64 0, .int .i64 0, .int .i64 0, .int .i64 0, .int .i64 0, .int .i64 0, .int .i64 0, .bool false] 57)).alloc (.cells #[.int .i64 0, .int .i64 0, .int .i64 0] 60)) := ⟨_, rfl⟩
  have hbW : Below w.heap.size w W := by rw [hW]; exact balloc (balloc (balloc (bsame w) _) _) _
  have k7 : Blk W w.heap.size #[.int .i64 hb, .int .i64 hn, .int .i64 a0, .int .i64 a1, .int .i64 a2, .int .i64 a3, .int .i64 a4, .int .i64 a5, .int .i64 s0, .int .i64 s1, .int .i64 s2, .int .i64 s3, .int .i64 s4, .int .i64 s5, .bool hl] 57 := by rw [hW]; exact ((Blk.new w _ _).alloc _).alloc _
  have k8 : Blk W (w.heap.size + 1) #[.int .i64 0, .int .i64 0, .int .i64 0, .int .i64 0, .int .i64 0, .int .i64 0, .int .i64 0, .int .i64 0, .int .i64 0, .int .i64 0, .int .i64 0, .int .i64 0, .int .i64 0, .int .i64 0, .bool false] 57 := by rw [hW]; exact (Blk.new_at _ _ _ _ _ (by simp) rfl).alloc _
  have k9 : Blk W (w.heap.size + 1 + 1) #[.int .i64 0, .int .i64 0, .int .i64 0] 60 := by rw [hW]; exact Blk.new_at _ _ _ _ _ (by simp) rfl
  have hSW := h1.below hbW
  have hsW : Stp (stTag y) o o1 w W := hS0.trans (Stp.of_below hbW)
  have HC := Lib.hid (fun X o2 (h2 : StIn X o2 y S) => c_commit h2 hI hc hm)
  have HB := Lib.hid hbx
  have HK := Lib.hid (fun X => show Calls Tryz.prog 128 #[.agg #[.int .i64 hb, .int .i64 hn, .int .i64 a0, .int .i64 a1, .int .i64 a2, .int .i64 a3, .int .i64 a4, .int .i64 a5, .int .i64 s0, .int .i64 s1, .int .i64 s2, .int .i64 s3, .int .i64 s4, .int .i64 s5, .bool hl]] X fun e w' => e = .returned (.agg #[.int .i64 hb, .int .i64 0, .int .i64 s0, .int .i64 s1, .int .i64 s2, .int .i64 s3, .int .i64 s4, .int .i64 s5, .int .i64 s0, .int .i64 s1, .int .i64 s2, .int .i64 s3, .int .i64 s4, .int .i64 s5, .bool false]) ∧ Below X.heap.size X w' from back_any ⟨hb, hn, ⟨a0, a1, a2, a3, a4, a5⟩, ⟨s0, s1, s2, s3, s4, s5⟩, hl⟩ X)
  generalize S.commit i = R at *
  clear hI hc hm h1 hS0 hbx
  have heb : (R.e != 0) = true := by rw [bne_iff_ne]; exact he
  go_enter Tryz.func74, Tryz.ntmps74
  go_wp2_with fail
  rw [← hW]
  clear hW
  refine (HC.out _ _ hSW).mono ?_
  rintro e2 w2 ⟨rfl, o2, hS2, hI2, hs2⟩
  have nt : ∀ b, w.heap.size ≤ b → ¬ stTag y (o1 b) := fun b q1 => bxT_st (HB.out b q1)
  have tg : ∀ b, w.heap.size ≤ b → b < W.heap.size → bxT y (o2 b) := fun b q1 q2 => by have := HB.out b q1; rw [← hs2.tags b q2] at this; exact this
  have t7 := tg w.heap.size (by omega) k7.lt
  have t8 := tg (w.heap.size + 1) (by omega) k8.lt
  have t9 := tg (w.heap.size + 1 + 1) (by omega) k9.lt
  replace k7 := k7.stp hs2 (nt _ (by omega))
  replace k8 := k8.stp hs2 (nt _ (by omega))
  replace k9 := k9.stp hs2 (nt _ (by omega))
  have hs3 := hsW.trans hs2
  have HI2 := Lib.hid hI2
  clear hs2 hSW hsW HC tg nt hbW hI2
  have c7 := k7.cell
  have z7 := k7.free
  have l7 := k7.lt
  go_wp2_with fail
  refine (HK.out _).mono ?_
  rintro e3 V ⟨rfl, hb3⟩
  have i8 := k8.below hb3 k8.lt
  have i9 := k9.below hb3 k9.lt
  have hS5 := hS2.below hb3
  have hs5 := hs3.trans (Stp.of_below hb3)
  clear k7 k8 k9 hS2 hs3 l7 c7 z7 hb3 HK
  have c8 := i8.cell
  have z8 := i8.free
  have l8 := i8.lt
  have c9 := i9.cell
  have z9 := i9.free
  have l9 := i9.lt
  have hres := Lib.hid (res_blk i8 i9 (by omega) ⟨hb, 0, ⟨s0, s1, s2, s3, s4, s5⟩, ⟨s0, s1, s2, s3, s4, s5⟩, false⟩ ⟨3, R.e, 0⟩)
  have hrs := Lib.hid (res_stp hs5 (b6 := (w.heap.size + 1)) (b7 := (w.heap.size + 1 + 1)) (by omega) (by omega) ⟨hb, 0, ⟨s0, s1, s2, s3, s4, s5⟩, ⟨s0, s1, s2, s3, s4, s5⟩, false⟩ ⟨3, R.e, 0⟩)
  have hrS := Lib.hid (hS5.bx (res_bx V (w.heap.size + 1) (w.heap.size + 1 + 1) (o := o2) t8 t9 ⟨hb, 0, ⟨s0, s1, s2, s3, s4, s5⟩, ⟨s0, s1, s2, s3, s4, s5⟩, false⟩ ⟨3, R.e, 0⟩))
  clear i8 i9 hS5 hs5
  go_wp2_with fail
  change bodyPost _ _ _ _ _ (resW V (w.heap.size + 1) (w.heap.size + 1 + 1) ⟨hb, 0, ⟨s0, s1, s2, s3, s4, s5⟩, ⟨s0, s1, s2, s3, s4, s5⟩, false⟩ ⟨3, R.e, 0⟩)
  generalize resW V (w.heap.size + 1) (w.heap.size + 1 + 1) ⟨hb, 0, ⟨s0, s1, s2, s3, s4, s5⟩, ⟨s0, s1, s2, s3, s4, s5⟩, false⟩ ⟨3, R.e, 0⟩ = X at *
  exact bodyPost_ret (results_two _ _ 6 7 rfl rfl rfl hres.out.1 hres.out.2) rfl ⟨rfl, o2, hrS.out, HI2.out, hrs.out⟩
end
end Go.Proofs.YtemohiainfllcaaGreat
