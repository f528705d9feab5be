/- Walks: a deed that fails so that the transaction is aborted. -/
import Derived.Test.YtemohiainfllcaaGreatJz
namespace Go.Proofs.YtemohiainfllcaaGreat
open Go.RowKit Hp
attribute [local go_sem ↓] Go.wp_at_zero Go.wp_at_succ
section
variable {w : World} {o : Own} {y : SLay} {S : Stt} {x : Tx} {i : Nat}
def AbPost (y : SLay) (S' : Stt) (i : Nat) (o : Own) (w : World) (be bv : Nat) (err : Int) (tv te : TypeId) (w' : World) : Prop :=
  ∃ o' w1, w' = w1.setCell ⟨bv, 0, none⟩ (.int .i64 0) ∧ StIn w' o' y S' ∧ Stp (abTag y i) o o' w w1 ∧ Blk w' bv #[.int .i64 0] tv ∧ Blk w' be #[.int .i64 err] te
theorem deedD_abort (be bs bx bv : Nat) (err v : Int) (tv te ts tx : TypeId) (he : Blk w be #[.int .i64 err] te) (hs : Blk w bs #[ptr y.sb] ts) (hx : Blk w bx #[ptr (y.xb i)] tx) (hv : Blk w bv #[.int .i64 v] tv) (h0 : err = 141 ∨ err = 130 ∨ err = 100)
    (ob : o be = (y.l.id + 1, 0)) (ov : o bv = (y.l.id + 1, 0)) (hne : be ≠ bv) (S' : Stt)
    (hab : Calls Tryz.prog 67 #[ptr y.sb, ptr (y.xb i)] w fun e w' => e = .returned (.tuple #[]) ∧ ∃ o', StIn w' o' y S' ∧ Stp (abTag y i) o o' w w') :
    CallsD Tryz.prog 99 #[ptr be, ptr bs, ptr bx, ptr bv] .returning w fun e u' w' => u' = .returning ∧ (e = .returned (.tuple #[]) ∧ AbPost y S' i o w be bv err tv te w') := by
  have c := he.cell
  have cs := hs.cell
  have cx := hx.cell
  have HA := Lib.hid hab
  have HB := Lib.hid (abTag_box y i)
  clear hab
  rcases h0 with rfl | rfl | rfl
  all_goals
    go_enter_d Tryz.func99, Tryz.ntmps99
    go_wp2_with fail
    refine HA.out.mono ?_
    rintro e w1 ⟨rfl, o1, hS1, hs1⟩
    have je := he.stp hs1 (by rw [ob]; exact HB.out)
    have jv := hv.stp hs1 (by rw [ov]; exact HB.out)
    have tv : o1 bv = (y.l.id + 1, 0) := (hs1.tags _ hv.lt).trans ov
    clear c cs cx
    have c := je.cell
    have cv := jv.cell
    have zv := jv.free
    have sv := jv.lt
    have hS2 := Lib.hid (hS1.box (a := ⟨bv, 0, none⟩) tv (.int .i64 0))
    go_wp2_with fail
    go_end0
    exact ⟨rfl, o1, _, rfl, hS2.out, hs1, jv.set 0 _, je.set_other hne _⟩
/-- The store behind a deed that fails so. -/
theorem deed_abort (g : Nat) (caps : List Value) (h0 : StIn w o y S) (hk : S.ok) (hx : S.txs[i]? = some x) (hl : x.live = true) (eg : ∀ args w, (callFunc g args).run Tryz.prog w = .ok (.enter g args) w)
    (T : Tag → Prop) (hT : ¬ T (y.l.id + 1, 0)) (S' S2 : Stt) (v err : Int) (he : err = 141 ∨ err = 130 ∨ err = 100)
    (hdo : ∀ w1 o1, Below w.heap.size w w1 → (∀ b, b < w.heap.size → o1 b = o b) → StIn w1 o1 y S → Calls Tryz.prog g (ptr (y.xb i) :: caps).toArray w1 fun e w' => e = .returned (.tuple #[.int .i64 v, .int .i64 err]) ∧ ∃ o', StIn w' o' y S' ∧ Stp T o1 o' w1 w')
    (hab : ∀ w1 o1, StIn w1 o1 y S' → Calls Tryz.prog 67 #[ptr y.sb, ptr (y.xb i)] w1 fun e w' => e = .returned (.tuple #[]) ∧ ∃ o', StIn w' o' y S2 ∧ Stp (abTag y i) o1 o' w1 w') :
    Calls Tryz.prog 45 #[ptr y.sb, .int .i64 i, .func (.func g) #[] caps.toArray] w fun e w' => e = .returned (.tuple #[.int .i64 0, .int .i64 err]) ∧ ∃ o', StIn w' o' y S2 ∧ Stp (fun t => T t ∨ abTag y i t) o o' w w' := by
  have hmf : ∀ (fn : Fn) (first cap : Array Value) (w : World), (Instr.makeFunc fn first cap).run Tryz.prog w = .ok (.func fn first cap) w := fun _ _ _ _ => rfl
  obtain ⟨o1, ho1⟩ : ∃ o1, o1 = ext o w.heap.size (y.l.id + 1, 0) := ⟨_, rfl⟩
  have h := h0.retag (o' := o1) fun b hb => by rw [ho1]; exact ext_lt hb
  have hS0 : Stp T o o1 w w := by rw [ho1]; exact (Stp.refl _ o w).ext _ _ (Nat.le_refl _)
  have hbx : ∀ b, w.heap.size ≤ b → o1 b = (y.l.id + 1, 0) := fun b hb => by rw [ho1]; exact ext_ge hb
  have hext : ∀ b, b < w.heap.size → o1 b = o b := fun b hb => by rw [ho1]; exact ext_lt hb
  clear ho1 h0
  have HR := Lib.hid (fun w' (hw : Below w.heap.size w w') => running_in (h.below hw) hk hx)
  rw [hl] at HR
  simp only [if_true] at HR
  have HD := Lib.hid (fun w' (hw : Below w.heap.size w w') => hdo w' o1 hw hext (h.below hw))
  have HAb := Lib.hid hab
  have HB := Lib.hid hbx
  have HS := Lib.hid hS0
  have HT := Lib.hid hT
  have HEr := Lib.hid he
  clear hdo hbx h hk hx hS0 hT hext hab he
  go_enter_defers Tryz.func45, Tryz.ntmps45
  go_wp2_with fail
  obtain ⟨W, hW⟩ : ∃ W : World, W = ((w.alloc (.cells #[ptr y.sb] 23)).alloc (.cells #[.int .i64 0] 3)).alloc (.cells #[.int .i64 0] 27) := ⟨_, rfl⟩
  rw [← hW]
  have hbW : Below w.heap.size w W := by rw [hW]; exact balloc (balloc (balloc (bsame w) _) _) _
  have hzW : W.heap.size = w.heap.size + 3 := by rw [hW]; simp
  have jS : Blk W w.heap.size #[ptr y.sb] 23 := by rw [hW]; exact ((Blk.new w _ _).alloc _).alloc _
  have jV : Blk W (w.heap.size + 1) #[.int .i64 0] 3 := by rw [hW]; exact (Blk.new_at _ _ _ _ _ (by simp) rfl).alloc _
  have jE : Blk W (w.heap.size + 1 + 1) #[.int .i64 0] 27 := by rw [hW]; exact Blk.new_at _ _ _ _ _ (by simp) rfl
  have jX : Blk (W.alloc (.cells #[ptr (y.xb i)] 81)) (w.heap.size + 3) #[ptr (y.xb i)] 81 := Blk.new_at _ _ _ _ _ hzW.symm rfl
  clear hW
  refine (HR.out _ hbW).mono ?_
  rintro e w1 ⟨rfl, rfl⟩
  go_wp2_with fail
  refine (HD.out _ (balloc hbW _)).mono ?_
  rintro e w2 ⟨rfl, o2, hS2, hs2⟩
  have jV2 := (jV.alloc (.cells #[ptr (y.xb i)] 81)).stp hs2 (by rw [HB.out _ (by omega)]; exact HT.out)
  have jE2 := (jE.alloc (.cells #[ptr (y.xb i)] 81)).stp hs2 (by rw [HB.out _ (by omega)]; exact HT.out)
  have jS2 := (jS.alloc (.cells #[ptr (y.xb i)] 81)).stp hs2 (by rw [HB.out _ (by omega)]; exact HT.out)
  have jX2 := jX.stp hs2 (by rw [HB.out _ (by omega)]; exact HT.out)
  have tV : o2 (w.heap.size + 1) = (y.l.id + 1, 0) := (hs2.tags _ (jV.alloc _).lt).trans (HB.out _ (by omega))
  have tE : o2 (w.heap.size + 1 + 1) = (y.l.id + 1, 0) := (hs2.tags _ (jE.alloc _).lt).trans (HB.out _ (by omega))
  have hst : Stp T o1 o2 w w2 := (Stp.of_below (balloc hbW _)).trans hs2
  clear jV jE jS jX
  have cV := jV2.cell
  have zV := jV2.free
  have sV := jV2.lt
  have cE := jE2.cell
  have zE := jE2.free
  have sE := jE2.lt
  go_wp2_with fail
  have jV3 := (jV2.set 0 (.int .i64 v)).set_other (a := ⟨w.heap.size + 1 + 1, 0, none⟩) (by simp) (.int .i64 err)
  have jE3 := (jE2.set_other (a := ⟨w.heap.size + 1, 0, none⟩) (by simp) (.int .i64 v)).set 0 (.int .i64 err)
  have jS3 := (jS2.set_other (a := ⟨w.heap.size + 1, 0, none⟩) (by simp) (.int .i64 v)).set_other (a := ⟨w.heap.size + 1 + 1, 0, none⟩) (by simp; omega) (.int .i64 err)
  have jX3 := (jX2.set_other (a := ⟨w.heap.size + 1, 0, none⟩) (by simp) (.int .i64 v)).set_other (a := ⟨w.heap.size + 1 + 1, 0, none⟩) (by simp) (.int .i64 err)
  refine leaves_cons (f := 99) (args := #[ptr (w.heap.size + 1 + 1), ptr w.heap.size, ptr (w.heap.size + 3), ptr (w.heap.size + 1)]) (by simp) (by simp [go_sem]) ?_
  refine (deedD_abort _ _ _ _ err v _ _ _ _ (by simpa using jE3) jS3 jX3 (by simpa using jV3) HEr.out tE tV (by omega) S2 (HAb.out _ _ ((hS2.box tV _).box tE _))).mono ?_
  rintro e u' w'' ⟨rfl, rfl, o3, w3, rfl, hS3, hs3, jV4, jE4⟩
  have cV4 := jV4.cell 0
  have cE4 := jE4.cell 0
  simp at cV4 cE4
  simp only [settle, Leaves]
  refine ⟨.tuple #[.int .i64 0, .int .i64 err], by simp [results, Tryz.results45, go_sem, cV4, cE4], rfl, o3, hS3, ?_⟩
  have h1 : Stp T o o2 w _ := HS.out.trans ((hst.setCell_new (a := ⟨w.heap.size + 1, 0, none⟩) (by show w.heap.size ≤ w.heap.size + 1; omega) (.int .i64 v)).setCell_new (a := ⟨w.heap.size + 1 + 1, 0, none⟩) (by show w.heap.size ≤ w.heap.size + 1 + 1; omega) (.int .i64 err))
  exact ((h1.mono fun _ h => Or.inl h).trans (hs3.mono fun _ h => Or.inr h)).setCell_new (by show w.heap.size ≤ w.heap.size + 1; omega) _
end
end Go.Proofs.YtemohiainfllcaaGreat
