/- Walks: a transaction lays an object. -/
import Derived.Test.YtemohiainfllcaaGreatJq
import Derived.Defers
namespace Go.Proofs.YtemohiainfllcaaGreat
open Go.RowKit Hp
attribute [local go_sem ↓] Go.wp_at_zero Go.wp_at_succ
theorem lk_snoc {l : List (Nat × Ob)} {p : Nat} {o : Ob} (q : Nat) : lk (l ++ [(p, o)]) q = match lk l q with | some x => some x | none => if p = q then some o else none := by
  induction l with
  | nil => simp [lk]
  | cons z l ih =>
    obtain ⟨r, x⟩ := z
    simp only [List.cons_append, lk]
    by_cases e : r = q
    · rw [if_pos e, if_pos e]
    · rw [if_neg e, if_neg e]; exact ih
theorem lk_lt {H : Hp} (hk : H.ok) {p : Nat} {ob : Ob} (h : lk H.cur p = some ob) : p < H.top := by
  have h1 := laid_mem _ _ _ hk.cl _ (lk_mem h)
  have h2 := rnd_ge _ (Ob.size_bd (hk.ck _ (lk_mem h))).2
  simp only at h1 h2
  omega
theorem lk_top {H : Hp} (hk : H.ok) : lk H.cur H.top = none := by
  cases h : lk H.cur H.top with
  | none => rfl
  | some ob => have := lk_lt hk h; omega
theorem lk_lay {H : Hp} (hk : H.ok) (s : Shp) : lk (H.lay s).cur H.top = some (Ob.new s (H.serial + 1)) := by
  show lk (H.cur ++ [(H.top, Ob.new s (H.serial + 1))]) H.top = _
  rw [lk_snoc, lk_top hk, if_pos rfl]
section
variable {w w' : World} {o o' : Own} {y : SLay} {S : Stt} {x : Tx} {i : Nat}
theorem Stt.ok_heap (hk : S.ok) {H' : Hp} (h : HpF H') : Stt.ok { S with H := H' } := ⟨h, hk.n1, hk.n2, hk.t1, hk.t8, hk.lg, hk.st, hk.ve, hk.ho⟩
set_option maxRecDepth 100000 in
theorem lay_in (h : StIn w o y S) (hk : S.ok) (hx : S.txs[i]? = some x) (s : Shp) (hs : s.ok) (hr : S.H.top + rnd (3 + s.p + s.d) ≤ 1 + S.H.size) (hser : S.H.serial < 1099511627776) (hn : ∀ z ∈ x.log.holds, z.1 ≠ S.H.top) (hm : x.log.holds.length < x.log.mu) :
    Calls Tryz.prog 95 #[ptr y.sb, ptr (y.xb i), shpV s] w fun e w' => e = .returned (.tuple #[.int .i64 S.H.top, .int .i64 0]) ∧
      ∃ o', StIn w' o' y { S with txs := S.txs.set i (x.holding S.H.top 0), H := { S.H.lay s with cur := up (S.H.lay s).cur S.H.top ((Ob.new s (S.H.serial + 1)).setSecond (2 * i + 1)) } } ∧ Stp (fun t => txTag y i t ∨ (t.1 = y.l.id ∧ t.2 ≤ 6)) o o' w w' := by
  have hi := (List.getElem?_eq_some_iff.1 hx).1
  have HA := Lib.hid (show Calls Tryz.prog 147 #[ptr y.l.h, shpV s] (w.alloc (.cells #[.int .i64 s.p, .int .i64 s.d, .bool s.weak, .bool s.final] 80)).drew fun e w' => e = .returned (.tuple #[.int .i64 S.H.top, .int .i64 0]) ∧
      ∃ o', StIn w' o' y { S with H := S.H.lay s } ∧ Stp (fun t => t.1 = y.l.id ∧ t.2 ≤ 6) o o' w w' from by
    have hB : Below w.heap.size w (w.alloc (.cells #[.int .i64 s.p, .int .i64 s.d, .bool s.weak, .bool s.final] 80)).drew := bdrew (balloc (bsame w) _)
    have h2 := h.below hB
    obtain ⟨vc, vo, vw, vf, f, hh⟩ := h2.hp
    refine (alloc_f hh hk.F s hs hr hser).mono ?_
    rintro e w' ⟨rfl, vc', vw', vf', f', o', hh', hst⟩
    exact ⟨rfl, o', h2.heap ⟨_, _, _, _, _, hh'⟩ hst, (Stp.of_below hB).trans hst⟩)
  have hk2 : Stt.ok { S with H := S.H.lay s } := Stt.ok_heap hk (hk.F.lay hs hr hser)
  have HL := Lib.hid (fun w' o' (hw : StIn w' o' y { S with H := S.H.lay s }) => loghold_in (p := S.H.top) (v := 0) hw hk2 (i := i) hx hn hm)
  have hk3 : Stt.ok { S with H := S.H.lay s, txs := S.txs.set i (x.holding S.H.top 0) } := Stt.ok_tx hk2 (Lg.ok_hold (hk.lg x (List.mem_of_getElem? hx)) _ _ hm) (hk.st x (List.mem_of_getElem? hx))
  have HW := Lib.hid (fun w' o' (hw : StIn w' o' y { S with H := S.H.lay s, txs := S.txs.set i (x.holding S.H.top 0) }) => own_in hw hk3 (i := i) (x := x.holding S.H.top 0) (by simp [hi]) (lk_lay hk.F.ok s))
  have HX := Lib.hid (fun w' o' (hw : StIn w' o' y { S with H := S.H.lay s }) => (hw.txs i x hx).blk)
  have jb := h.blk
  unfold stCells at jb
  have c := jb.cell
  have sb := jb.lt
  generalize S.H.top = tp at *
  clear h hk hk2 hk3 hx hs hr hser hn hm
  go_enter Tryz.func95, Tryz.ntmps95
  go_upto_region 1 with fail
  obtain ⟨W, hW⟩ : ∃ W : World, W = w.alloc (.cells #[.int .i64 s.p, .int .i64 s.d, .bool s.weak, .bool s.final] 80) := ⟨_, rfl⟩
  have jW := jb.alloc (.cells #[.int .i64 s.p, .int .i64 s.d, .bool s.weak, .bool s.final] 80)
  have jB := Blk.new w #[.int .i64 s.p, .int .i64 s.d, .bool s.weak, .bool s.final] 80
  rw [← hW] at HA jW jB ⊢
  clear hW c sb
  have c := jW.cell
  have cB := jB.cell
  go_region_with (first | (go_at_call 147; refine HA.out.mono ?_; rintro e w1 ⟨rfl, o1, hS1, hs1⟩) | fail)
  all_goals
    have cx := (HX.out _ _ hS1).cell
    clear c cB
    go_wp2_with fail
    refine (HL.out _ _ hS1).mono ?_
    rintro e w2 ⟨rfl, o2, hS2, hs2⟩
    clear cx
    go_wp2_with fail
    refine (HW.out _ _ hS2).mono ?_
    rintro e w3 ⟨rfl, hS3, hs3⟩
    go_wp2_with fail
    go_ret2
    exact ⟨rfl, o2, hS3, ((hs1.mono fun _ e => Or.inr e).trans (hs2.mono fun _ e => Or.inl e)).trans (hs3.mono fun _ e => Or.inr e)⟩
end
end Go.Proofs.YtemohiainfllcaaGreat

/- Walks: a transaction's deed, and what is done behind it. -/
namespace Go.Proofs.YtemohiainfllcaaGreat
open Go.RowKit Hp
attribute [local go_sem ↓] Go.wp_at_zero Go.wp_at_succ
section
variable {w : World}
/-- Behind a deed that ended well, or with an error that undoes nothing. -/
theorem deedD_ok (be bs bx bv : Nat) (err : Int) (he : w.cell? ⟨be, 0, none⟩ = some (.int .i64 err)) (h0 : err = 0) :
    CallsD Tryz.prog 99 #[ptr be, ptr bs, ptr bx, ptr bv] .returning w fun e u' w' => u' = .returning ∧ (e = .returned (.tuple #[]) ∧ w' = w) := by
  subst h0
  go_enter_d Tryz.func99, Tryz.ntmps99
  go_wp2_with fail
  go_end0
  exact ⟨rfl, rfl⟩
theorem deedD_err (be bs bx bv : Nat) (err v : Int) (tv : TypeId) (he : w.cell? ⟨be, 0, none⟩ = some (.int .i64 err)) (hv : Blk w bv #[.int .i64 v] tv) (h0 : err ≠ 0) (h1 : err ≠ 141) (h2 : err ≠ 130) (h3 : err ≠ 100) :
    CallsD Tryz.prog 99 #[ptr be, ptr bs, ptr bx, ptr bv] .returning w fun e u' w' => u' = .returning ∧ (e = .returned (.tuple #[]) ∧ w' = w.setCell ⟨bv, 0, none⟩ (.int .i64 0)) := by
  have c := hv.cell 0
  have z := hv.free 0
  have s := hv.lt
  go_enter_d Tryz.func99, Tryz.ntmps99
  go_wp2_with fail
  go_end0
  exact ⟨rfl, rfl⟩
end
section
variable {w : World} {o : Own} {y : SLay} {S : Stt} {x : Tx} {i : Nat}
set_option maxRecDepth 100000 in
theorem deed_ok (g : Nat) (caps : List Value) (h0 : StIn w o y S) (hk : S.ok) (hx : S.txs[i]? = some x) (hl : x.live = true) (eg : ∀ args w, (callFunc g args).run Tryz.prog w = .ok (.enter g args) w)
    (T : Tag → Prop) (hT : ¬ T (y.l.id + 1, 0)) (S' : Stt) (v : Int)
    (hdo : ∀ w1 o1, Below w.heap.size w w1 → (∀ b, b < w.heap.size → o1 b = o b) → StIn w1 o1 y S → Calls Tryz.prog g (ptr (y.xb i) :: caps).toArray w1 fun e w' => e = .returned (.tuple #[.int .i64 v, .int .i64 0]) ∧ ∃ o', StIn w' o' y S' ∧ Stp T o1 o' w1 w') :
    Calls Tryz.prog 45 #[ptr y.sb, .int .i64 i, .func (.func g) #[] caps.toArray] w fun e w' => e = .returned (.tuple #[.int .i64 v, .int .i64 0]) ∧ ∃ o', StIn w' o' y S' ∧ Stp T o o' w w' := by
  have hmf : ∀ (fn : Fn) (first cap : Array Value) (w : World), (Instr.makeFunc fn first cap).run Tryz.prog w = .ok (.func fn first cap) w := fun _ _ _ _ => rfl
  obtain ⟨o1, ho1⟩ : ∃ o1, o1 = ext o w.heap.size (y.l.id + 1, 0) := ⟨_, rfl⟩
  have h := h0.retag (o' := o1) fun b hb => by rw [ho1]; exact ext_lt hb
  have hS0 : Stp T o o1 w w := by rw [ho1]; exact (Stp.refl _ o w).ext _ _ (Nat.le_refl _)
  have hbx : ∀ b, w.heap.size ≤ b → o1 b = (y.l.id + 1, 0) := fun b hb => by rw [ho1]; exact ext_ge hb
  have hext : ∀ b, b < w.heap.size → o1 b = o b := fun b hb => by rw [ho1]; exact ext_lt hb
  clear ho1 h0
  have HR := Lib.hid (fun w' (hw : Below w.heap.size w w') => running_in (h.below hw) hk hx)
  rw [hl] at HR
  simp only [if_true] at HR
  have HD := Lib.hid (fun w' (hw : Below w.heap.size w w') => hdo w' o1 hw hext (h.below hw))
  have HB := Lib.hid hbx
  have HS := Lib.hid hS0
  have HT := Lib.hid hT
  clear hdo hbx h hk hx hS0 hT hext
  go_enter_defers Tryz.func45, Tryz.ntmps45
  go_wp2_with fail
  obtain ⟨W, hW⟩ : ∃ W : World, W = ((w.alloc (.cells #[ptr y.sb] 23)).alloc (.cells #[.int .i64 0] 3)).alloc (.cells #[.int .i64 0] 27) := ⟨_, rfl⟩
  rw [← hW]
  have hbW : Below w.heap.size w W := by rw [hW]; exact balloc (balloc (balloc (bsame w) _) _) _
  have hzW : W.heap.size = w.heap.size + 3 := by rw [hW]; simp
  have jS : Blk W w.heap.size #[ptr y.sb] 23 := by rw [hW]; exact ((Blk.new w _ _).alloc _).alloc _
  have jV : Blk W (w.heap.size + 1) #[.int .i64 0] 3 := by rw [hW]; exact (Blk.new_at _ _ _ _ _ (by simp) rfl).alloc _
  have jE : Blk W (w.heap.size + 1 + 1) #[.int .i64 0] 27 := by rw [hW]; exact Blk.new_at _ _ _ _ _ (by simp) rfl
  clear hW
  refine (HR.out _ hbW).mono ?_
  rintro e w1 ⟨rfl, rfl⟩
  go_wp2_with fail
  refine (HD.out _ (balloc hbW _)).mono ?_
  rintro e w2 ⟨rfl, o2, hS2, hs2⟩
  have jV2 := (jV.alloc (.cells #[ptr (y.xb i)] 81)).stp hs2 (by rw [HB.out _ (by omega)]; exact HT.out)
  have jE2 := (jE.alloc (.cells #[ptr (y.xb i)] 81)).stp hs2 (by rw [HB.out _ (by omega)]; exact HT.out)
  have tV : o2 (w.heap.size + 1) = (y.l.id + 1, 0) := (hs2.tags _ (jV.alloc _).lt).trans (HB.out _ (by omega))
  have tE : o2 (w.heap.size + 1 + 1) = (y.l.id + 1, 0) := (hs2.tags _ (jE.alloc _).lt).trans (HB.out _ (by omega))
  have hst : Stp T o1 o2 w w2 := (Stp.of_below (balloc hbW _)).trans hs2
  clear jV jE jS
  have cV := jV2.cell
  have zV := jV2.free
  have sV := jV2.lt
  have cE := jE2.cell
  have zE := jE2.free
  have sE := jE2.lt
  go_wp2_with fail
  have jV3 := (jV2.set 0 (.int .i64 v)).set_other (a := ⟨w.heap.size + 1 + 1, 0, none⟩) (by simp) (.int .i64 0)
  have jE3 := (jE2.set_other (a := ⟨w.heap.size + 1, 0, none⟩) (by simp) (.int .i64 v)).set 0 (.int .i64 0)
  have cV3 := jV3.cell 0
  have cE3 := jE3.cell 0
  simp at cV3 cE3
  refine leaves_cons (f := 99) (args := #[ptr (w.heap.size + 1 + 1), ptr w.heap.size, ptr (w.heap.size + 3), ptr (w.heap.size + 1)]) (by simp) (by simp [go_sem]) ?_
  refine (deedD_ok _ _ _ _ 0 cE3 rfl).mono ?_
  rintro e u' w'' ⟨rfl, rfl, rfl⟩
  simp only [settle, Leaves]
  refine ⟨.tuple #[.int .i64 v, .int .i64 0], by simp [results, Tryz.results45, go_sem, cV3, cE3], rfl, o2, (hS2.box tV _).box tE _, HS.out.trans ((hst.setCell_new (by show w.heap.size ≤ w.heap.size + 1; omega) _).setCell_new (by show w.heap.size ≤ w.heap.size + 1 + 1; omega) _)⟩
set_option maxRecDepth 100000 in
theorem deed_err (g : Nat) (caps : List Value) (h0 : StIn w o y S) (hk : S.ok) (hx : S.txs[i]? = some x) (hl : x.live = true) (eg : ∀ args w, (callFunc g args).run Tryz.prog w = .ok (.enter g args) w)
    (T : Tag → Prop) (hT : ¬ T (y.l.id + 1, 0)) (S' : Stt) (v err : Int) (e0 : err ≠ 0) (e1 : err ≠ 141) (e2 : err ≠ 130) (e3 : err ≠ 100)
    (hdo : ∀ w1 o1, Below w.heap.size w w1 → (∀ b, b < w.heap.size → o1 b = o b) → StIn w1 o1 y S → Calls Tryz.prog g (ptr (y.xb i) :: caps).toArray w1 fun e w' => e = .returned (.tuple #[.int .i64 v, .int .i64 err]) ∧ ∃ o', StIn w' o' y S' ∧ Stp T o1 o' w1 w') :
    Calls Tryz.prog 45 #[ptr y.sb, .int .i64 i, .func (.func g) #[] caps.toArray] w fun e w' => e = .returned (.tuple #[.int .i64 0, .int .i64 err]) ∧ ∃ o', StIn w' o' y S' ∧ Stp T o o' w w' := by
  have hmf : ∀ (fn : Fn) (first cap : Array Value) (w : World), (Instr.makeFunc fn first cap).run Tryz.prog w = .ok (.func fn first cap) w := fun _ _ _ _ => rfl
  obtain ⟨o1, ho1⟩ : ∃ o1, o1 = ext o w.heap.size (y.l.id + 1, 0) := ⟨_, rfl⟩
  have h := h0.retag (o' := o1) fun b hb => by rw [ho1]; exact ext_lt hb
  have hS0 : Stp T o o1 w w := by rw [ho1]; exact (Stp.refl _ o w).ext _ _ (Nat.le_refl _)
  have hbx : ∀ b, w.heap.size ≤ b → o1 b = (y.l.id + 1, 0) := fun b hb => by rw [ho1]; exact ext_ge hb
  have hext : ∀ b, b < w.heap.size → o1 b = o b := fun b hb => by rw [ho1]; exact ext_lt hb
  clear ho1 h0
  have HR := Lib.hid (fun w' (hw : Below w.heap.size w w') => running_in (h.below hw) hk hx)
  rw [hl] at HR
  simp only [if_true] at HR
  have HD := Lib.hid (fun w' (hw : Below w.heap.size w w') => hdo w' o1 hw hext (h.below hw))
  have HB := Lib.hid hbx
  have HS := Lib.hid hS0
  have HT := Lib.hid hT
  clear hdo hbx h hk hx hS0 hT hext
  go_enter_defers Tryz.func45, Tryz.ntmps45
  go_wp2_with fail
  obtain ⟨W, hW⟩ : ∃ W : World, W = ((w.alloc (.cells #[ptr y.sb] 23)).alloc (.cells #[.int .i64 0] 3)).alloc (.cells #[.int .i64 0] 27) := ⟨_, rfl⟩
  rw [← hW]
  have hbW : Below w.heap.size w W := by rw [hW]; exact balloc (balloc (balloc (bsame w) _) _) _
  have hzW : W.heap.size = w.heap.size + 3 := by rw [hW]; simp
  have jS : Blk W w.heap.size #[ptr y.sb] 23 := by rw [hW]; exact ((Blk.new w _ _).alloc _).alloc _
  have jV : Blk W (w.heap.size + 1) #[.int .i64 0] 3 := by rw [hW]; exact (Blk.new_at _ _ _ _ _ (by simp) rfl).alloc _
  have jE : Blk W (w.heap.size + 1 + 1) #[.int .i64 0] 27 := by rw [hW]; exact Blk.new_at _ _ _ _ _ (by simp) rfl
  clear hW
  refine (HR.out _ hbW).mono ?_
  rintro e w1 ⟨rfl, rfl⟩
  go_wp2_with fail
  refine (HD.out _ (balloc hbW _)).mono ?_
  rintro e w2 ⟨rfl, o2, hS2, hs2⟩
  have jV2 := (jV.alloc (.cells #[ptr (y.xb i)] 81)).stp hs2 (by rw [HB.out _ (by omega)]; exact HT.out)
  have jE2 := (jE.alloc (.cells #[ptr (y.xb i)] 81)).stp hs2 (by rw [HB.out _ (by omega)]; exact HT.out)
  have tV : o2 (w.heap.size + 1) = (y.l.id + 1, 0) := (hs2.tags _ (jV.alloc _).lt).trans (HB.out _ (by omega))
  have tE : o2 (w.heap.size + 1 + 1) = (y.l.id + 1, 0) := (hs2.tags _ (jE.alloc _).lt).trans (HB.out _ (by omega))
  have hst : Stp T o1 o2 w w2 := (Stp.of_below (balloc hbW _)).trans hs2
  clear jV jE jS
  have cV := jV2.cell
  have zV := jV2.free
  have sV := jV2.lt
  have cE := jE2.cell
  have zE := jE2.free
  have sE := jE2.lt
  go_wp2_with fail
  have jV3 := (jV2.set 0 (.int .i64 v)).set_other (a := ⟨w.heap.size + 1 + 1, 0, none⟩) (by simp) (.int .i64 err)
  have jE3 := (jE2.set_other (a := ⟨w.heap.size + 1, 0, none⟩) (by simp) (.int .i64 v)).set 0 (.int .i64 err)
  have cV3 := jV3.cell 0
  have cE3 := jE3.cell 0
  simp at cV3 cE3
  refine leaves_cons (f := 99) (args := #[ptr (w.heap.size + 1 + 1), ptr w.heap.size, ptr (w.heap.size + 3), ptr (w.heap.size + 1)]) (by simp) (by simp [go_sem]) ?_
  refine (deedD_err _ _ _ _ err v _ cE3 (by simpa using jV3) e0 e1 e2 e3).mono ?_
  rintro e u' w'' ⟨rfl, rfl, rfl⟩
  have jV4 := jV3.set 0 (.int .i64 0)
  have jE4 := jE3.set_other (a := ⟨w.heap.size + 1, 0, none⟩) (by simp) (.int .i64 0)
  have cV4 := jV4.cell 0
  have cE4 := jE4.cell 0
  simp at cV4 cE4
  simp only [settle, Leaves]
  refine ⟨.tuple #[.int .i64 0, .int .i64 err], by simp [results, Tryz.results45, go_sem, cV4, cE4], rfl, o2, ((hS2.box tV _).box tE _).box tV _, HS.out.trans (((hst.setCell_new (by show w.heap.size ≤ w.heap.size + 1; omega) _).setCell_new (by show w.heap.size ≤ w.heap.size + 1 + 1; omega) _).setCell_new (by show w.heap.size ≤ w.heap.size + 1; omega) _)⟩
end
end Go.Proofs.YtemohiainfllcaaGreat

/- Walks: the public Alloc. -/
namespace Go.Proofs.YtemohiainfllcaaGreat
open Go.RowKit Hp
attribute [local go_sem ↓] Go.wp_at_zero Go.wp_at_succ
section
variable {w w' : World} {o o' : Own} {y : SLay} {S : Stt} {x : Tx} {i : Nat}
def opTag (y : SLay) (i : Nat) (t : Tag) : Prop := txTag y i t ∨ (t.1 = y.l.id ∧ t.2 ≤ 6)
theorem opTag_box (y : SLay) (i : Nat) : ¬ opTag y i (y.l.id + 1, 0) := by
  rintro (⟨h, _⟩ | ⟨h, _⟩) <;> simp at h
/-- The store behind an object that was laid. -/
def Stt.laid (S : Stt) (i : Nat) (x : Tx) (s : Shp) : Stt :=
  { S with txs := S.txs.set i (x.holding S.H.top 0), H := { S.H.lay s with cur := up (S.H.lay s).cur S.H.top ((Ob.new s (S.H.serial + 1)).setSecond (2 * i + 1)) } }
set_option maxRecDepth 100000 in
theorem alloc1_in (h : StIn w o y S) (hk : S.ok) (hx : S.txs[i]? = some x) (s : Shp) (hs : s.ok) (hwk : s.weak = false) (hr : S.H.top + rnd (3 + s.p + s.d) ≤ 1 + S.H.size) (hser : S.H.serial < 1099511627776) (hn : ∀ z ∈ x.log.holds, z.1 ≠ S.H.top) (hm : x.log.holds.length < x.log.mu)
    {b1 b2 : Nat} (j1 : Blk w b1 #[.int .i64 s.p, .int .i64 s.d, .bool s.weak, .bool s.final] 80) (j2 : Blk w b2 #[ptr y.sb] 23) :
    Calls Tryz.prog 93 #[ptr (y.xb i), ptr b1, ptr b2] w fun e w' => e = .returned (.tuple #[.int .i64 S.H.top, .int .i64 0]) ∧ ∃ o', StIn w' o' y (S.laid i x s) ∧ Stp (opTag y i) o o' w w' := by
  have HR := Lib.hid (fun w => hright_any s hs w)
  have HL := Lib.hid (fun w' (hw : Below w.heap.size w w') => lay_in (h.below hw) hk hx s hs hr hser hn hm)
  rw [hwk] at j1
  have c1 := j1.cell
  have c2 := j2.cell
  rw [show shpV s = .agg #[.int .i64 s.p, .int .i64 s.d, .bool false, .bool s.final] from by rw [← hwk]] at HR HL
  clear h hk hx hs hr hser hn hm hwk
  go_enter Tryz.func93, Tryz.ntmps93
  go_wp2_with fail
  refine (HR.out _).mono ?_
  rintro e w1 ⟨rfl, hb1⟩
  have c1 := (j1.below hb1 j1.lt).cell
  have c2 := (j2.below hb1 j2.lt).cell
  go_wp2_with fail
  refine (HL.out _ hb1).mono ?_
  rintro e w2 ⟨rfl, o2, hS2, hs2⟩
  go_wp2_with fail
  go_ret2
  exact ⟨rfl, o2, hS2, (Stp.of_below hb1).trans hs2⟩
theorem eg_alloc1 (args : Array Value) (w : World) : (callFunc 93 args).run Tryz.prog w = .ok (.enter 93 args) w := enters_of Tryz.func93 (by kernel_rfl) rfl args w
set_option maxRecDepth 100000 in
theorem salloc_in (h : StIn w o y S) (hk : S.ok) (hx : S.txs[i]? = some x) (hl : x.live = true) (s : Shp) (hs : s.ok) (hwk : s.weak = false) (hr : S.H.top + rnd (3 + s.p + s.d) ≤ 1 + S.H.size) (hser : S.H.serial < 1099511627776) (hn : ∀ z ∈ x.log.holds, z.1 ≠ S.H.top) (hm : x.log.holds.length < x.log.mu) :
    Calls Tryz.prog 40 #[ptr y.sb, .int .i64 i, shpV s] w fun e w' => e = .returned (.tuple #[.int .i64 S.H.top, .int .i64 0]) ∧ ∃ o', StIn w' o' y (S.laid i x s) ∧ Stp (opTag y i) o o' w w' := by
  have hmf : ∀ (fn : Fn) (first cap : Array Value) (w : World), (Instr.makeFunc fn first cap).run Tryz.prog w = .ok (.func fn first cap) w := fun _ _ _ _ => rfl
  have HD := Lib.hid (fun w' b1 b2 (hw : Below w.heap.size w w') (j1 : Blk w' b1 #[.int .i64 s.p, .int .i64 s.d, .bool s.weak, .bool s.final] 80) (j2 : Blk w' b2 #[ptr y.sb] 23) =>
    deed_ok 93 [ptr b1, ptr b2] (h.below hw) hk hx hl eg_alloc1 (opTag y i) (opTag_box y i) (S.laid i x s) S.H.top
      (fun w1 o1 hb _ hS => alloc1_in hS hk hx s hs hwk hr hser hn hm (j1.below hb j1.lt) (j2.below hb j2.lt)))
  clear h hk hx hl hs hwk hr hser hn hm
  go_enter Tryz.func40, Tryz.ntmps40
  go_wp2_with fail
  refine (HD.out _ (w.heap.size + 1) w.heap.size (balloc (balloc (bsame w) _) _) (Blk.new_at _ _ _ _ _ (by simp) rfl) ((Blk.new w _ _).alloc _)).mono ?_
  rintro e w2 ⟨rfl, o2, hS2, hs2⟩
  go_wp2_with fail
  go_ret2
  exact ⟨rfl, o2, hS2, (Stp.of_below (balloc (balloc (bsame w) _) _)).trans hs2⟩
end
end Go.Proofs.YtemohiainfllcaaGreat
