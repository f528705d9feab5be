/- Walks: a transaction lays an object. -/
import Derived.Test.YtemohiainfllcaaGreatRg
import Derived.Test.YtemohiainfllcaaGreatRe
import Derived.Defers
namespace Go.Proofs.YtemohiainfllcaaGreat
open Go.RowKit Hp
attribute [local go_sem ↓] Go.wp_at_zero Go.wp_at_succ
theorem lk_snoc {l : List (Nat × Ob)} {p : Nat} {o : Ob} (q : Nat) : lk (l ++ [(p, o)]) q = match lk l q with | some x => some x | none => if p = q then some o else none := by
  induction l with
  | nil => simp [lk]
  | cons z l ih =>
    obtain ⟨r, x⟩ := z
    simp only [List.cons_append, lk]
    by_cases e : r = q
    · rw [if_pos e, if_pos e]
    · rw [if_neg e, if_neg e]; exact ih
theorem lk_lt {H : Hp} (hk : H.ok) {p : Nat} {ob : Ob} (h : lk H.cur p = some ob) : p < H.top := by
  have h1 := laid_mem _ _ _ hk.cl _ (lk_mem h)
  have h2 := rnd_ge _ (Ob.size_bd (hk.ck _ (lk_mem h))).2
  simp only at h1 h2
  omega
theorem lk_top {H : Hp} (hk : H.ok) : lk H.cur H.top = none := by
  cases h : lk H.cur H.top with
  | none => rfl
  | some ob => have := lk_lt hk h; omega
theorem lk_lay {H : Hp} (hk : H.ok) (s : Shp) : lk (H.lay s).cur H.top = some (Ob.new s (H.serial + 1)) := by
  show lk (H.cur ++ [(H.top, Ob.new s (H.serial + 1))]) H.top = _
  rw [lk_snoc, lk_top hk, if_pos rfl]
section
variable {w w' : World} {o o' : Own} {y : SLay} {S : Stt} {x : Tx} {i : Nat}
theorem Stt.ok_heap (hk : S.ok) {H' : Hp} (h : HpF H') : Stt.ok { S with H := H' } := ⟨h, hk.n1, hk.n2, hk.t1, hk.t8, hk.lg, hk.st, hk.ve, hk.ho⟩
set_option maxRecDepth 100000 in
theorem lay_in (h : StIn w o y S) (hk : S.ok) (hx : S.txs[i]? = some x) (s : Shp) (hs : s.ok) (hr : S.H.top + rnd (3 + s.p + s.d) ≤ 1 + S.H.size) (hser : S.H.serial < 1099511627776) (hn : ∀ z ∈ x.log.holds, z.1 ≠ S.H.top) (hm : x.log.holds.length < x.log.mu) :
    Calls Tryz.prog 95 #[ptr y.sb, ptr (y.xb i), shpV s] w fun e w' => e = .returned (.tuple #[.int .i64 S.H.top, .int .i64 0]) ∧
      ∃ o', StIn w' o' y { S with txs := S.txs.set i (x.holding S.H.top 0), H := { S.H.lay s with cur := up (S.H.lay s).cur S.H.top ((Ob.new s (S.H.serial + 1)).setSecond (2 * i + 1)) } } ∧ Stp (fun t => txTag y i t ∨ (t.1 = y.l.id ∧ t.2 ≤ 6)) o o' w w' := by
  have hi := (List.getElem?_eq_some_iff.1 hx).1
  have HA := Lib.hid (show Calls Tryz.prog 147 #[ptr y.l.h, shpV s] (w.alloc (.cells #[.int .i64 s.p, .int .i64 s.d, .bool s.weak, .bool s.final] 80)).drew fun e w' => e = .returned (.tuple #[.int .i64 S.H.top, .int .i64 0]) ∧
      ∃ o', StIn w' o' y { S with H := S.H.lay s } ∧ Stp (fun t => t.1 = y.l.id ∧ t.2 ≤ 6) o o' w w' from by
    have hB : Below w.heap.size w (w.alloc (.cells #[.int .i64 s.p, .int .i64 s.d, .bool s.weak, .bool s.final] 80)).drew := bdrew (balloc (bsame w) _)
    have h2 := h.below hB
    obtain ⟨vc, vo, vw, vf, f, hh⟩ := h2.hp
    refine (alloc_f hh hk.F s hs hr hser).mono ?_
    rintro e w' ⟨rfl, vc', vw', vf', f', o', hh', hst⟩
    exact ⟨rfl, o', h2.heap ⟨_, _, _, _, _, hh'⟩ hst, (Stp.of_below hB).trans hst⟩)
  have hk2 : Stt.ok { S with H := S.H.lay s } := Stt.ok_heap hk (hk.F.lay hs hr hser)
  have HL := Lib.hid (fun w' o' (hw : StIn w' o' y { S with H := S.H.lay s }) => loghold_in (p := S.H.top) (v := 0) hw hk2 (i := i) hx hn hm)
  have hk3 : Stt.ok { S with H := S.H.lay s, txs := S.txs.set i (x.holding S.H.top 0) } := Stt.ok_tx hk2 (Lg.ok_hold (hk.lg x (List.mem_of_getElem? hx)) _ _ hm) (hk.st x (List.mem_of_getElem? hx))
  have HW := Lib.hid (fun w' o' (hw : StIn w' o' y { S with H := S.H.lay s, txs := S.txs.set i (x.holding S.H.top 0) }) => own_in hw hk3 (i := i) (x := x.holding S.H.top 0) (by simp [hi]) (lk_lay hk.F.ok s))
  have HX := Lib.hid (fun w' o' (hw : StIn w' o' y { S with H := S.H.lay s }) => (hw.txs i x hx).blk)
  have jb := h.blk
  unfold stCells at jb
  have c := jb.cell
  have sb := jb.lt
  generalize S.H.top = tp at *
  clear h hk hk2 hk3 hx hs hr hser hn hm
  go_enter Tryz.func95, Tryz.ntmps95
  go_upto_region 1 with fail
  obtain ⟨W, hW⟩ : ∃ W : World, W = w.alloc (.cells #[.int .i64 s.p, .int .i64 s.d, .bool s.weak, .bool s.final] 80) := ⟨_, rfl⟩
  have jW := jb.alloc (.cells #[.int .i64 s.p, .int .i64 s.d, .bool s.weak, .bool s.final] 80)
  have jB := Blk.new w #[.int .i64 s.p, .int .i64 s.d, .bool s.weak, .bool s.final] 80
  rw [← hW] at HA jW jB ⊢
  clear hW c sb
  have c := jW.cell
  have cB := jB.cell
  go_region_with (first | (go_at_call 147; refine HA.out.mono ?_; rintro e w1 ⟨rfl, o1, hS1, hs1⟩) | fail)
  all_goals
    have cx := (HX.out _ _ hS1).cell
    clear c cB
    go_wp2_with fail
    refine (HL.out _ _ hS1).mono ?_
    rintro e w2 ⟨rfl, o2, hS2, hs2⟩
    clear cx
    go_wp2_with fail
    refine (HW.out _ _ hS2).mono ?_
    rintro e w3 ⟨rfl, hS3, hs3⟩
    go_wp2_with fail
    go_ret2
    exact ⟨rfl, o2, hS3, ((hs1.mono fun _ e => Or.inr e).trans (hs2.mono fun _ e => Or.inl e)).trans (hs3.mono fun _ e => Or.inr e)⟩
end
end Go.Proofs.YtemohiainfllcaaGreat

/- Walks: a transaction's deed, and what is done behind it. -/
namespace Go.Proofs.YtemohiainfllcaaGreat
open Go.RowKit Hp
attribute [local go_sem ↓] Go.wp_at_zero Go.wp_at_succ
section
variable {w : World}
/-- Behind a deed that ended well, or with an error that undoes nothing. -/
theorem deedD_ok (be bs bx bv : Nat) (err : Int) (he : w.cell? ⟨be, 0, none⟩ = some (.int .i64 err)) (h0 : err = 0) :
    CallsD Tryz.prog 99 #[ptr be, ptr bs, ptr bx, ptr bv] .returning w fun e u' w' => u' = .returning ∧ (e = .returned (.tuple #[]) ∧ w' = w) := by
  subst h0
  go_enter_d Tryz.func99, Tryz.ntmps99
  go_wp2_with fail
  go_end0
  exact ⟨rfl, rfl⟩
theorem deedD_err (be bs bx bv : Nat) (err v : Int) (tv : TypeId) (he : w.cell? ⟨be, 0, none⟩ = some (.int .i64 err)) (hv : Blk w bv #[.int .i64 v] tv) (h0 : err ≠ 0) (h1 : err ≠ 141) (h2 : err ≠ 130) (h3 : err ≠ 100) :
    CallsD Tryz.prog 99 #[ptr be, ptr bs, ptr bx, ptr bv] .returning w fun e u' w' => u' = .returning ∧ (e = .returned (.tuple #[]) ∧ w' = w.setCell ⟨bv, 0, none⟩ (.int .i64 0)) := by
  have c := hv.cell 0
  have z := hv.free 0
  have s := hv.lt
  go_enter_d Tryz.func99, Tryz.ntmps99
  go_wp2_with fail
  go_end0
  exact ⟨rfl, rfl⟩
end
section
variable {w : World} {o : Own} {y : SLay} {S : Stt} {x : Tx} {i : Nat}
set_option maxRecDepth 100000 in
theorem deed_ok (g : Nat) (caps : List Value) (h0 : StIn w o y S) (hk : S.ok) (hx : S.txs[i]? = some x) (hl : x.live = true) (eg : ∀ args w, (callFunc g args).run Tryz.prog w = .ok (.enter g args) w)
    (T : Tag → Prop) (hT : ¬ T (y.l.id + 1, 0)) (S' : Stt) (v : Int)
    (hdo : ∀ w1 o1, Below w.heap.size w w1 → (∀ b, b < w.heap.size → o1 b = o b) → StIn w1 o1 y S → Calls Tryz.prog g (ptr (y.xb i) :: caps).toArray w1 fun e w' => e = .returned (.tuple #[.int .i64 v, .int .i64 0]) ∧ ∃ o', StIn w' o' y S' ∧ Stp T o1 o' w1 w') :
    Calls Tryz.prog 45 #[ptr y.sb, .int .i64 i, .func (.func g) #[] caps.toArray] w fun e w' => e = .returned (.tuple #[.int .i64 v, .int .i64 0]) ∧ ∃ o', StIn w' o' y S' ∧ Stp T o o' w w' := by
  have hmf : ∀ (fn : Fn) (first cap : Array Value) (w : World), (Instr.makeFunc fn first cap).run Tryz.prog w = .ok (.func fn first cap) w := fun _ _ _ _ => rfl
  obtain ⟨o1, ho1⟩ : ∃ o1, o1 = ext o w.heap.size (y.l.id + 1, 0) := ⟨_, rfl⟩
  have h := h0.retag (o' := o1) fun b hb => by rw [ho1]; exact ext_lt hb
  have hS0 : Stp T o o1 w w := by rw [ho1]; exact (Stp.refl _ o w).ext _ _ (Nat.le_refl _)
  have hbx : ∀ b, w.heap.size ≤ b → o1 b = (y.l.id + 1, 0) := fun b hb => by rw [ho1]; exact ext_ge hb
  have hext : ∀ b, b < w.heap.size → o1 b = o b := fun b hb => by rw [ho1]; exact ext_lt hb
  clear ho1 h0
  have HR := Lib.hid (fun w' (hw : Below w.heap.size w w') => running_in (h.below hw) hk hx)
  rw [hl] at HR
  simp only [if_true] at HR
  have HD := Lib.hid (fun w' (hw : Below w.heap.size w w') => hdo w' o1 hw hext (h.below hw))
  have HB := Lib.hid hbx
  have HS := Lib.hid hS0
  have HT := Lib.hid hT
  clear hdo hbx h hk hx hS0 hT hext
  go_enter_defers Tryz.func45, Tryz.ntmps45
  go_wp2_with fail
  obtain ⟨W, hW⟩ : ∃ W : World, W = ((w.alloc (.cells #[ptr y.sb] 23)).alloc (.cells #[.int .i64 0] 3)).alloc (.cells #[.int .i64 0] 27) := ⟨_, rfl⟩
  rw [← hW]
  have hbW : Below w.heap.size w W := by rw [hW]; exact balloc (balloc (balloc (bsame w) _) _) _
  have hzW : W.heap.size = w.heap.size + 3 := by rw [hW]; simp
  have jS : Blk W w.heap.size #[ptr y.sb] 23 := by rw [hW]; exact ((Blk.new w _ _).alloc _).alloc _
  have jV : Blk W (w.heap.size + 1) #[.int .i64 0] 3 := by rw [hW]; exact (Blk.new_at _ _ _ _ _ (by simp) rfl).alloc _
  have jE : Blk W (w.heap.size + 1 + 1) #[.int .i64 0] 27 := by rw [hW]; exact Blk.new_at _ _ _ _ _ (by simp) rfl
  clear hW
  refine (HR.out _ hbW).mono ?_
  rintro e w1 ⟨rfl, rfl⟩
  go_wp2_with fail
  refine (HD.out _ (balloc hbW _)).mono ?_
  rintro e w2 ⟨rfl, o2, hS2, hs2⟩
  have jV2 := (jV.alloc (.cells #[ptr (y.xb i)] 81)).stp hs2 (by rw [HB.out _ (by omega)]; exact HT.out)
  have jE2 := (jE.alloc (.cells #[ptr (y.xb i)] 81)).stp hs2 (by rw [HB.out _ (by omega)]; exact HT.out)
  have tV : o2 (w.heap.size + 1) = (y.l.id + 1, 0) := (hs2.tags _ (jV.alloc _).lt).trans (HB.out _ (by omega))
  have tE : o2 (w.heap.size + 1 + 1) = (y.l.id + 1, 0) := (hs2.tags _ (jE.alloc _).lt).trans (HB.out _ (by omega))
  have hst : Stp T o1 o2 w w2 := (Stp.of_below (balloc hbW _)).trans hs2
  clear jV jE jS
  have cV := jV2.cell
  have zV := jV2.free
  have sV := jV2.lt
  have cE := jE2.cell
  have zE := jE2.free
  have sE := jE2.lt
  go_wp2_with fail
  have jV3 := (jV2.set 0 (.int .i64 v)).set_other (a := ⟨w.heap.size + 1 + 1, 0, none⟩) (by simp) (.int .i64 0)
  have jE3 := (jE2.set_other (a := ⟨w.heap.size + 1, 0, none⟩) (by simp) (.int .i64 v)).set 0 (.int .i64 0)
  have cV3 := jV3.cell 0
  have cE3 := jE3.cell 0
  simp at cV3 cE3
  refine leaves_cons (f := 99) (args := #[ptr (w.heap.size + 1 + 1), ptr w.heap.size, ptr (w.heap.size + 3), ptr (w.heap.size + 1)]) (by simp) (by simp [go_sem]) ?_
  refine (deedD_ok _ _ _ _ 0 cE3 rfl).mono ?_
  rintro e u' w'' ⟨rfl, rfl, rfl⟩
  simp only [settle, Leaves]
  refine ⟨.tuple #[.int .i64 v, .int .i64 0], by simp [results, Tryz.results45, go_sem, cV3, cE3], rfl, o2, (hS2.box tV _).box tE _, HS.out.trans ((hst.setCell_new (by show w.heap.size ≤ w.heap.size + 1; omega) _).setCell_new (by show w.heap.size ≤ w.heap.size + 1 + 1; omega) _)⟩
set_option maxRecDepth 100000 in
theorem deed_err (g : Nat) (caps : List Value) (h0 : StIn w o y S) (hk : S.ok) (hx : S.txs[i]? = some x) (hl : x.live = true) (eg : ∀ args w, (callFunc g args).run Tryz.prog w = .ok (.enter g args) w)
    (T : Tag → Prop) (hT : ¬ T (y.l.id + 1, 0)) (S' : Stt) (v err : Int) (e0 : err ≠ 0) (e1 : err ≠ 141) (e2 : err ≠ 130) (e3 : err ≠ 100)
    (hdo : ∀ w1 o1, Below w.heap.size w w1 → (∀ b, b < w.heap.size → o1 b = o b) → StIn w1 o1 y S → Calls Tryz.prog g (ptr (y.xb i) :: caps).toArray w1 fun e w' => e = .returned (.tuple #[.int .i64 v, .int .i64 err]) ∧ ∃ o', StIn w' o' y S' ∧ Stp T o1 o' w1 w') :
    Calls Tryz.prog 45 #[ptr y.sb, .int .i64 i, .func (.func g) #[] caps.toArray] w fun e w' => e = .returned (.tuple #[.int .i64 0, .int .i64 err]) ∧ ∃ o', StIn w' o' y S' ∧ Stp T o o' w w' := by
  have hmf : ∀ (fn : Fn) (first cap : Array Value) (w : World), (Instr.makeFunc fn first cap).run Tryz.prog w = .ok (.func fn first cap) w := fun _ _ _ _ => rfl
  obtain ⟨o1, ho1⟩ : ∃ o1, o1 = ext o w.heap.size (y.l.id + 1, 0) := ⟨_, rfl⟩
  have h := h0.retag (o' := o1) fun b hb => by rw [ho1]; exact ext_lt hb
  have hS0 : Stp T o o1 w w := by rw [ho1]; exact (Stp.refl _ o w).ext _ _ (Nat.le_refl _)
  have hbx : ∀ b, w.heap.size ≤ b → o1 b = (y.l.id + 1, 0) := fun b hb => by rw [ho1]; exact ext_ge hb
  have hext : ∀ b, b < w.heap.size → o1 b = o b := fun b hb => by rw [ho1]; exact ext_lt hb
  clear ho1 h0
  have HR := Lib.hid (fun w' (hw : Below w.heap.size w w') => running_in (h.below hw) hk hx)
  rw [hl] at HR
  simp only [if_true] at HR
  have HD := Lib.hid (fun w' (hw : Below w.heap.size w w') => hdo w' o1 hw hext (h.below hw))
  have HB := Lib.hid hbx
  have HS := Lib.hid hS0
  have HT := Lib.hid hT
  clear hdo hbx h hk hx hS0 hT hext
  go_enter_defers Tryz.func45, Tryz.ntmps45
  go_wp2_with fail
  obtain ⟨W, hW⟩ : ∃ W : World, W = ((w.alloc (.cells #[ptr y.sb] 23)).alloc (.cells #[.int .i64 0] 3)).alloc (.cells #[.int .i64 0] 27) := ⟨_, rfl⟩
  rw [← hW]
  have hbW : Below w.heap.size w W := by rw [hW]; exact balloc (balloc (balloc (bsame w) _) _) _
  have hzW : W.heap.size = w.heap.size + 3 := by rw [hW]; simp
  have jS : Blk W w.heap.size #[ptr y.sb] 23 := by rw [hW]; exact ((Blk.new w _ _).alloc _).alloc _
  have jV : Blk W (w.heap.size + 1) #[.int .i64 0] 3 := by rw [hW]; exact (Blk.new_at _ _ _ _ _ (by simp) rfl).alloc _
  have jE : Blk W (w.heap.size + 1 + 1) #[.int .i64 0] 27 := by rw [hW]; exact Blk.new_at _ _ _ _ _ (by simp) rfl
  clear hW
  refine (HR.out _ hbW).mono ?_
  rintro e w1 ⟨rfl, rfl⟩
  go_wp2_with fail
  refine (HD.out _ (balloc hbW _)).mono ?_
  rintro e w2 ⟨rfl, o2, hS2, hs2⟩
  have jV2 := (jV.alloc (.cells #[ptr (y.xb i)] 81)).stp hs2 (by rw [HB.out _ (by omega)]; exact HT.out)
  have jE2 := (jE.alloc (.cells #[ptr (y.xb i)] 81)).stp hs2 (by rw [HB.out _ (by omega)]; exact HT.out)
  have tV : o2 (w.heap.size + 1) = (y.l.id + 1, 0) := (hs2.tags _ (jV.alloc _).lt).trans (HB.out _ (by omega))
  have tE : o2 (w.heap.size + 1 + 1) = (y.l.id + 1, 0) := (hs2.tags _ (jE.alloc _).lt).trans (HB.out _ (by omega))
  have hst : Stp T o1 o2 w w2 := (Stp.of_below (balloc hbW _)).trans hs2
  clear jV jE jS
  have cV := jV2.cell
  have zV := jV2.free
  have sV := jV2.lt
  have cE := jE2.cell
  have zE := jE2.free
  have sE := jE2.lt
  go_wp2_with fail
  have jV3 := (jV2.set 0 (.int .i64 v)).set_other (a := ⟨w.heap.size + 1 + 1, 0, none⟩) (by simp) (.int .i64 err)
  have jE3 := (jE2.set_other (a := ⟨w.heap.size + 1, 0, none⟩) (by simp) (.int .i64 v)).set 0 (.int .i64 err)
  have cV3 := jV3.cell 0
  have cE3 := jE3.cell 0
  simp at cV3 cE3
  refine leaves_cons (f := 99) (args := #[ptr (w.heap.size + 1 + 1), ptr w.heap.size, ptr (w.heap.size + 3), ptr (w.heap.size + 1)]) (by simp) (by simp [go_sem]) ?_
  refine (deedD_err _ _ _ _ err v _ cE3 (by simpa using jV3) e0 e1 e2 e3).mono ?_
  rintro e u' w'' ⟨rfl, rfl, rfl⟩
  have jV4 := jV3.set 0 (.int .i64 0)
  have jE4 := jE3.set_other (a := ⟨w.heap.size + 1, 0, none⟩) (by simp) (.int .i64 0)
  have cV4 := jV4.cell 0
  have cE4 := jE4.cell 0
  simp at cV4 cE4
  simp only [settle, Leaves]
  refine ⟨.tuple #[.int .i64 0, .int .i64 err], by simp [results, Tryz.results45, go_sem, cV4, cE4], rfl, o2, ((hS2.box tV _).box tE _).box tV _, HS.out.trans (((hst.setCell_new (by show w.heap.size ≤ w.heap.size + 1; omega) _).setCell_new (by show w.heap.size ≤ w.heap.size + 1 + 1; omega) _).setCell_new (by show w.heap.size ≤ w.heap.size + 1; omega) _)⟩
end
end Go.Proofs.YtemohiainfllcaaGreat

/- Walks: the public Alloc. -/
namespace Go.Proofs.YtemohiainfllcaaGreat
open Go.RowKit Hp
attribute [local go_sem ↓] Go.wp_at_zero Go.wp_at_succ
section
variable {w w' : World} {o o' : Own} {y : SLay} {S : Stt} {x : Tx} {i : Nat}
def opTag (y : SLay) (i : Nat) (t : Tag) : Prop := txTag y i t ∨ (t.1 = y.l.id ∧ t.2 ≤ 6)
theorem opTag_box (y : SLay) (i : Nat) : ¬ opTag y i (y.l.id + 1, 0) := by
  rintro (⟨h, _⟩ | ⟨h, _⟩) <;> simp at h
/-- The store behind an object that was laid. -/
def Stt.laid (S : Stt) (i : Nat) (x : Tx) (s : Shp) : Stt :=
  { S with txs := S.txs.set i (x.holding S.H.top 0), H := { S.H.lay s with cur := up (S.H.lay s).cur S.H.top ((Ob.new s (S.H.serial + 1)).setSecond (2 * i + 1)) } }
set_option maxRecDepth 100000 in
theorem alloc1_in (h : StIn w o y S) (hk : S.ok) (hx : S.txs[i]? = some x) (s : Shp) (hs : s.ok) (hwk : s.weak = false) (hr : S.H.top + rnd (3 + s.p + s.d) ≤ 1 + S.H.size) (hser : S.H.serial < 1099511627776) (hn : ∀ z ∈ x.log.holds, z.1 ≠ S.H.top) (hm : x.log.holds.length < x.log.mu)
    {b1 b2 : Nat} (j1 : Blk w b1 #[.int .i64 s.p, .int .i64 s.d, .bool s.weak, .bool s.final] 80) (j2 : Blk w b2 #[ptr y.sb] 23) :
    Calls Tryz.prog 93 #[ptr (y.xb i), ptr b1, ptr b2] w fun e w' => e = .returned (.tuple #[.int .i64 S.H.top, .int .i64 0]) ∧ ∃ o', StIn w' o' y (S.laid i x s) ∧ Stp (opTag y i) o o' w w' := by
  have HR := Lib.hid (fun w => hright_any s hs w)
  have HL := Lib.hid (fun w' (hw : Below w.heap.size w w') => lay_in (h.below hw) hk hx s hs hr hser hn hm)
  rw [hwk] at j1
  have c1 := j1.cell
  have c2 := j2.cell
  rw [show shpV s = .agg #[.int .i64 s.p, .int .i64 s.d, .bool false, .bool s.final] from by rw [← hwk]] at HR HL
  clear h hk hx hs hr hser hn hm hwk
  go_enter Tryz.func93, Tryz.ntmps93
  go_wp2_with fail
  refine (HR.out _).mono ?_
  rintro e w1 ⟨rfl, hb1⟩
  have c1 := (j1.below hb1 j1.lt).cell
  have c2 := (j2.below hb1 j2.lt).cell
  go_wp2_with fail
  refine (HL.out _ hb1).mono ?_
  rintro e w2 ⟨rfl, o2, hS2, hs2⟩
  go_wp2_with fail
  go_ret2
  exact ⟨rfl, o2, hS2, (Stp.of_below hb1).trans hs2⟩
theorem eg_alloc1 (args : Array Value) (w : World) : (callFunc 93 args).run Tryz.prog w = .ok (.enter 93 args) w := enters_of Tryz.func93 (by kernel_rfl) rfl args w
set_option maxRecDepth 100000 in
theorem salloc_in (h : StIn w o y S) (hk : S.ok) (hx : S.txs[i]? = some x) (hl : x.live = true) (s : Shp) (hs : s.ok) (hwk : s.weak = false) (hr : S.H.top + rnd (3 + s.p + s.d) ≤ 1 + S.H.size) (hser : S.H.serial < 1099511627776) (hn : ∀ z ∈ x.log.holds, z.1 ≠ S.H.top) (hm : x.log.holds.length < x.log.mu) :
    Calls Tryz.prog 40 #[ptr y.sb, .int .i64 i, shpV s] w fun e w' => e = .returned (.tuple #[.int .i64 S.H.top, .int .i64 0]) ∧ ∃ o', StIn w' o' y (S.laid i x s) ∧ Stp (opTag y i) o o' w w' := by
  have hmf : ∀ (fn : Fn) (first cap : Array Value) (w : World), (Instr.makeFunc fn first cap).run Tryz.prog w = .ok (.func fn first cap) w := fun _ _ _ _ => rfl
  have HD := Lib.hid (fun w' b1 b2 (hw : Below w.heap.size w w') (j1 : Blk w' b1 #[.int .i64 s.p, .int .i64 s.d, .bool s.weak, .bool s.final] 80) (j2 : Blk w' b2 #[ptr y.sb] 23) =>
    deed_ok 93 [ptr b1, ptr b2] (h.below hw) hk hx hl eg_alloc1 (opTag y i) (opTag_box y i) (S.laid i x s) S.H.top
      (fun w1 o1 hb _ hS => alloc1_in hS hk hx s hs hwk hr hser hn hm (j1.below hb j1.lt) (j2.below hb j2.lt)))
  clear h hk hx hl hs hwk hr hser hn hm
  go_enter Tryz.func40, Tryz.ntmps40
  go_wp2_with fail
  refine (HD.out _ (w.heap.size + 1) w.heap.size (balloc (balloc (bsame w) _) _) (Blk.new_at _ _ _ _ _ (by simp) rfl) ((Blk.new w _ _).alloc _)).mono ?_
  rintro e w2 ⟨rfl, o2, hS2, hs2⟩
  go_wp2_with fail
  go_ret2
  exact ⟨rfl, o2, hS2, (Stp.of_below (balloc (balloc (bsame w) _) _)).trans hs2⟩
end
end Go.Proofs.YtemohiainfllcaaGreat

/- Walks: a transaction begins. -/
namespace Go.Proofs.YtemohiainfllcaaGreat
open Go.RowKit Hp
attribute [local go_sem ↓] Go.wp_at_zero Go.wp_at_succ
section
variable {w w' : World} {o o' : Own} {y : SLay} {S : Stt} {x : Tx} {i : Nat}
theorem StIn.thrCells (h : StIn w o y S) (h1 : 1 ≤ S.txs.length) : ∃ g cap, y.vth = .slice (some ⟨g, 0, none⟩) S.txs.length cap ∧ (∀ k, k < S.txs.length → w.cell? ⟨g, k, none⟩ = some (ptr (y.xb k))) ∧ S.txs.length ≤ cap := by
  obtain ⟨g, cap, e, _, hc⟩ := h.thrCell 0 (by omega)
  refine ⟨g, cap, e, fun k hk => ?_, hc⟩
  obtain ⟨g', cap', e', hk', _⟩ := h.thrCell k hk
  rw [e] at e'
  injection e' with e1 _ _
  injection e1 with e1
  injection e1 with e1 _ _
  rw [e1]; exact hk'
theorem begin_live (h : StIn w o y S) (hk : S.ok) (hx : S.txs[i]? = some x) (hl : x.live = true) :
    Calls Tryz.prog 14 #[ptr y.sb, .int .i64 i] w fun e w' => e = .returned (.int .i64 140) ∧ w = w' := by
  have HT := Lib.hid (thread_in h hk (List.getElem?_eq_some_iff.1 hx).1)
  have c := (h.txs i x hx).cell
  rw [hl] at c
  clear h hk hx
  go_enter Tryz.func14, Tryz.ntmps14
  go_wp2_with fail
  refine HT.out.mono ?_
  rintro e w1 ⟨rfl, rfl⟩
  go_wp2_with fail
  go_ret
  exact ⟨rfl, rfl⟩
def Tx.begun (x : Tx) (n : Nat) : Tx := { x with live := true, start := n }
set_option maxRecDepth 100000 in
set_option maxHeartbeats 2000000 in
theorem begin_in (h : StIn w o y S) (hk : S.ok) (hx : S.txs[i]? = some x) (hl : x.live = false) (hr : S.now + 9 ≤ S.most) :
    Calls Tryz.prog 14 #[ptr y.sb, .int .i64 i] w fun e w' => e = .returned (.int .i64 0) ∧ ∃ o', StIn w' o' y { S with txs := S.txs.set i (x.begun S.now) } ∧ Stp (txTag y i) o o' w w' := by
  have HT := Lib.hid (thread_in h hk (List.getElem?_eq_some_iff.1 hx).1)
  have HI := Lib.hid h
  have HX := Lib.hid (h.txs i x hx)
  have jx := (h.txs i x hx).blk
  have cx := jx.cell
  rw [hl] at cx
  obtain ⟨g, cap, ev, hcs, hcap⟩ := h.thrCells hk.t1
  have jb := h.blk
  unfold stCells at jb
  rw [ev] at jb
  have c := jb.cell
  have hn1 := hk.n1
  have hn2 := hk.n2
  have h8 := hk.t8
  have HM := Lib.hid (fun (k : Nat) (hk : k ≤ 9) => clk_may h.ck (k : Int) (by omega) (by omega) (by omega) (by omega))
  have HMd := Lib.hid (fun (k : Nat) (hk : k ≤ 9) => show decide ((k : Int) ≤ (S.most : Int) - (S.now : Int)) = true from by rw [decide_eq_true_eq]; omega)
  have HN := Lib.hid (fun w' (hw : Below w.heap.size w w') => clk_now (h.ck.below hw h.ck.lt))
  have HXS := Lib.hid (fun k (hk : k < S.txs.length) => show ∃ z, (∀ j, w.cell? ⟨y.xb k, j, none⟩ = (#[.int .i64 k, .bool z.live, .int .i64 z.start, .int .i64 0, ptr (y.lb k), .slice none 0 0] : Array Value)[j]?) from
    ⟨S.txs[k], (h.txs k _ (List.getElem?_eq_getElem hk)).blk.cell⟩)
  have hcs := Lib.hid hcs
  clear h hk hx hn1 hn2 hr
  go_enter Tryz.func14, Tryz.ntmps14
  go_wp2_with fail
  refine HT.out.mono ?_
  rintro e w1 ⟨rfl, rfl⟩
  go_wp2_with fail
  go_loopw [25, 6, 8] (fun ix cn _ wr => ∃ k n : Nat, ix = .int .i64 k ∧ cn = .int .i64 n ∧ k ≤ S.txs.length ∧ n ≤ k ∧ wr = w) (fun ix _ _ _ => S.txs.length - (intOf ix).toNat)
  case atStart => exact ⟨0, 0, rfl, rfl, by omega, by omega, rfl⟩
  case round =>
    obtain ⟨k, n, rfl, rfl, hkl, hnk, rfl⟩ := hrel
    by_cases hlt : k < S.txs.length
    · have ck := hcs.out k hlt
      obtain ⟨z, cz⟩ := HXS.out k hlt
      have hI : (k : Int) < (S.txs.length : Int) := by omega
      cases hzl : z.live
      · rw [hzl] at cz
        go_wp2_with fail
        go_roundw
        case rel => exact ⟨k + 1, n, by simp, rfl, by omega, by omega, trivial⟩
        case measure => simp [intOf]; omega
      · rw [hzl] at cz
        have hn8 : (n : Int) < 9 := by omega
        go_wp2_with fail
        go_roundw
        case rel => exact ⟨k + 1, n + 1, by simp, by simp, by omega, by omega, trivial⟩
        case measure => simp [intOf]; omega
    · obtain rfl : k = S.txs.length := by omega
      have hn8 : (n : Int) < 9 := by omega
      have HM2 := Lib.hid (HM.out (n + 1) (by omega))
      rw [HMd.out (n + 1) (by omega), show ((n + 1 : Nat) : Int) = (n : Int) + 1 from by omega] at HM2
      go_wp2_with fail
      refine HM2.out.mono ?_
      rintro e w2 ⟨rfl, hb2⟩
      have jx2 := jx.below hb2 jx.lt
      rw [hl] at jx2
      have jb2 := jb.below hb2 jb.lt
      clear cx c HM2
      have cx := jx2.cell
      have zx := jx2.free
      have sx := jx2.lt
      have c := jb2.cell
      have sb := jb2.lt
      have nsb : y.sb ≠ y.xb i := fun e => by have h1 := HI.out.os; rw [e, HX.out.ob] at h1; injection h1 with _ h1; omega
      have HN2 := Lib.hid (HN.out w2.drew (bdrew hb2))
      have hfin := Lib.hid (show ∃ o', StIn (((w2.setCell ⟨y.xb i, 1, none⟩ (.bool true)).setCell ⟨y.xb i, 2, none⟩ (.int .i64 S.now)).setCell ⟨y.xb i, 3, none⟩ (.int .i64 0)).drew o' y { S with txs := S.txs.set i (x.begun S.now) } ∧ Stp (txTag y i) o o' wr (((w2.setCell ⟨y.xb i, 1, none⟩ (.bool true)).setCell ⟨y.xb i, 2, none⟩ (.int .i64 S.now)).setCell ⟨y.xb i, 3, none⟩ (.int .i64 0)).drew from by
        have ob := HX.out.ob
        have hs0 : Stp (fun t => t = (y.l.id, 16 + 8 * i)) o o w2 (((w2.setCell ⟨y.xb i, 1, none⟩ (.bool true)).setCell ⟨y.xb i, 2, none⟩ (.int .i64 S.now)).setCell ⟨y.xb i, 3, none⟩ (.int .i64 0)).drew :=
          ((((Stp.refl _ o w2).setCell (by show o (y.xb i) = _; exact ob) _).setCell (by show o (y.xb i) = _; exact ob) _).setCell (by show o (y.xb i) = _; exact ob) _).drew
        have hs : Stp (txTag y i) o o wr _ := (Stp.of_below hb2).trans (hs0.mono (by rintro _ rfl; exact ⟨rfl, by simp, by simp⟩))
        obtain ⟨vr, vk, vh, vu, hlg⟩ := HX.out.log
        exact ⟨o, HI.out.tx ⟨drewB (((jx2.set 1 _).set 2 _).set 3 _), ⟨vr, vk, vh, vu, (hlg.below hb2).stp hs0 fun j hj => by simp; omega⟩, ob⟩ hs, hs⟩)
      go_upto_region 13 with fail
      go_region_with (first | (go_at_call 44; refine HN2.out.mono ?_; rintro e w3 ⟨rfl, rfl⟩) | fail)
      all_goals
        go_wp2_with fail
        go_ret
        exact ⟨rfl, hfin.out⟩
end
end Go.Proofs.YtemohiainfllcaaGreat

/- Walks: the public Read and Get. -/
namespace Go.Proofs.YtemohiainfllcaaGreat
open Go.RowKit Hp
attribute [local go_sem ↓] Go.wp_at_zero Go.wp_at_succ
section
variable {w w' : World} {o o' : Own} {y : SLay} {S : Stt} {x : Tx} {i : Nat}
theorem txTag_op {y : SLay} {i : Nat} {t : Tag} (h : txTag y i t) : opTag y i t := .inl h
theorem txTag_box (y : SLay) (i : Nat) : ¬ txTag y i (y.l.id + 1, 0) := fun h => opTag_box y i (.inl h)
set_option maxRecDepth 100000 in
theorem field1_num (h : StIn w o y S) (hk : S.ok) (hx : S.txs[i]? = some x) {p : Nat} {ob : Ob} (hp : lk S.H.cur p = some ob) (hs : SecOk ob.second) (hc : clashB i x.start ob.second = false) (h0 : p ≠ 0)
    (he : fieldsE (noteB x.log.reads p x.log.mr) ob.freed ob.shp.weak = 0) (j : Nat) (v err : Int)
    (hg : ∀ w' o', StIn w' o' y { S with txs := S.txs.set i (x.read p) } → Calls Tryz.prog 48 #[ptr y.l.h, .int .i64 p, .int .i64 j] w' fun e w'' => e = .returned (.tuple #[.int .i64 v, .int .i64 err]) ∧ Below w'.heap.size w' w'')
    {b1 b2 b3 b4 : Nat} (j1 : Blk w b1 #[ptr y.sb] 23) (j2 : Blk w b2 #[.int .i64 p] 3) (j3 : Blk w b3 #[.func (.func 48) #[] #[]] 111) (j4 : Blk w b4 #[.int .i64 j] 3)
    (t1 : o b1 = (y.l.id + 1, 0)) (t2 : o b2 = (y.l.id + 1, 0)) (t3 : o b3 = (y.l.id + 1, 0)) (t4 : o b4 = (y.l.id + 1, 0)) :
    Calls Tryz.prog 110 #[ptr (y.xb i), ptr b1, ptr b2, ptr b3, ptr b4] w fun e w' => e = .returned (.tuple #[.int .i64 v, .int .i64 err]) ∧ ∃ o', StIn w' o' y { S with txs := S.txs.set i (x.read p) } ∧ Stp (txTag y i) o o' w w' := by
  have HF := Lib.hid (fields_in h hk hx hp hs hc h0)
  rw [he] at HF
  have HG := Lib.hid hg
  have HB := Lib.hid (txTag_box y i)
  have c1 := j1.cell
  have c2 := j2.cell
  clear h hk hx hp hs hc h0 he hg
  go_enter Tryz.func110, Tryz.ntmps110
  go_wp2_with fail
  refine HF.out.mono ?_
  rintro e w1 ⟨rfl, o1, hS1, hs1⟩
  have k1 := j1.stp hs1 (by rw [t1]; exact HB.out)
  have k2 := j2.stp hs1 (by rw [t2]; exact HB.out)
  have k3 := j3.stp hs1 (by rw [t3]; exact HB.out)
  have k4 := j4.stp hs1 (by rw [t4]; exact HB.out)
  have jb := hS1.blk
  unfold stCells at jb
  have HG2 := Lib.hid (fun n => HG.out (w1.drewN n) o1 (hS1.below (bdrewN (bsame w1) n)))
  have l1 := fun (e : Later w1) (i : Nat) => Later.cell k1 e i
  have l2 := fun (e : Later w1) (i : Nat) => Later.cell k2 e i
  have l3 := fun (e : Later w1) (i : Nat) => Later.cell k3 e i
  have l4 := fun (e : Later w1) (i : Nat) => Later.cell k4 e i
  have l5 := fun (e : Later w1) (i : Nat) => Later.cell jb e i
  clear c1 c2
  have HS := Lib.hid hS1
  have HG3 := Lib.hid (fun (e : Later w1) => HG.out e.1 o1 (hS1.below e.2))
  go_upto_region 4 with fail
  refine wp_region_later (by kernel_rfl) (by kernel_rfl) ?_
  repeat (go_big_quiet_step ((go_at_call 48; exact later_of (HG3.out _))))
  refine wpQuiet_nil ?_
  rintro _ ⟨⟨wt, hbt⟩, rfl⟩
  go_wp2_with fail
  go_ret2
  exact ⟨rfl, o1, HS.out.below hbt, hs1.trans (Stp.of_below hbt)⟩
set_option maxRecDepth 100000 in
theorem field1_ptr (h : StIn w o y S) (hk : S.ok) (hx : S.txs[i]? = some x) {p : Nat} {ob : Ob} (hp : lk S.H.cur p = some ob) (hs : SecOk ob.second) (hc : clashB i x.start ob.second = false) (h0 : p ≠ 0)
    (he : fieldsE (noteB x.log.reads p x.log.mr) ob.freed ob.shp.weak = 0) (j : Nat) (v err : Int)
    (hg : ∀ w' o', StIn w' o' y { S with txs := S.txs.set i (x.read p) } → Calls Tryz.prog 59 #[ptr y.l.h, .int .i64 p, .int .i64 j] w' fun e w'' => e = .returned (.tuple #[.int .i64 v, .int .i64 err]) ∧ Below w'.heap.size w' w'')
    {b1 b2 b3 b4 : Nat} (j1 : Blk w b1 #[ptr y.sb] 23) (j2 : Blk w b2 #[.int .i64 p] 3) (j3 : Blk w b3 #[.func (.func 59) #[] #[]] 111) (j4 : Blk w b4 #[.int .i64 j] 3)
    (t1 : o b1 = (y.l.id + 1, 0)) (t2 : o b2 = (y.l.id + 1, 0)) (t3 : o b3 = (y.l.id + 1, 0)) (t4 : o b4 = (y.l.id + 1, 0)) :
    Calls Tryz.prog 110 #[ptr (y.xb i), ptr b1, ptr b2, ptr b3, ptr b4] w fun e w' => e = .returned (.tuple #[.int .i64 v, .int .i64 err]) ∧ ∃ o', StIn w' o' y { S with txs := S.txs.set i (x.read p) } ∧ Stp (txTag y i) o o' w w' := by
  have HF := Lib.hid (fields_in h hk hx hp hs hc h0)
  rw [he] at HF
  have HG := Lib.hid hg
  have HB := Lib.hid (txTag_box y i)
  have c1 := j1.cell
  have c2 := j2.cell
  clear h hk hx hp hs hc h0 he hg
  go_enter Tryz.func110, Tryz.ntmps110
  go_wp2_with fail
  refine HF.out.mono ?_
  rintro e w1 ⟨rfl, o1, hS1, hs1⟩
  have k1 := j1.stp hs1 (by rw [t1]; exact HB.out)
  have k2 := j2.stp hs1 (by rw [t2]; exact HB.out)
  have k3 := j3.stp hs1 (by rw [t3]; exact HB.out)
  have k4 := j4.stp hs1 (by rw [t4]; exact HB.out)
  have jb := hS1.blk
  unfold stCells at jb
  have HG2 := Lib.hid (fun n => HG.out (w1.drewN n) o1 (hS1.below (bdrewN (bsame w1) n)))
  have l1 := fun (e : Later w1) (i : Nat) => Later.cell k1 e i
  have l2 := fun (e : Later w1) (i : Nat) => Later.cell k2 e i
  have l3 := fun (e : Later w1) (i : Nat) => Later.cell k3 e i
  have l4 := fun (e : Later w1) (i : Nat) => Later.cell k4 e i
  have l5 := fun (e : Later w1) (i : Nat) => Later.cell jb e i
  clear c1 c2
  have HS := Lib.hid hS1
  have HG3 := Lib.hid (fun (e : Later w1) => HG.out e.1 o1 (hS1.below e.2))
  go_upto_region 4 with fail
  refine wp_region_later (by kernel_rfl) (by kernel_rfl) ?_
  repeat (go_big_quiet_step ((go_at_call 59; exact later_of (HG3.out _))))
  refine wpQuiet_nil ?_
  rintro _ ⟨⟨wt, hbt⟩, rfl⟩
  go_wp2_with fail
  go_ret2
  exact ⟨rfl, o1, HS.out.below hbt, hs1.trans (Stp.of_below hbt)⟩
theorem eg_field1_num (args : Array Value) (w : World) : (callFunc 110 args).run Tryz.prog w = .ok (.enter 110 args) w := enters_of Tryz.func110 (by kernel_rfl) rfl args w
set_option maxRecDepth 100000 in
theorem field_num (h0 : StIn w o y S) (hk : S.ok) (hx : S.txs[i]? = some x) (hl : x.live = true) {p : Nat} {ob : Ob} (hp : lk S.H.cur p = some ob) (hs : SecOk ob.second) (hc : clashB i x.start ob.second = false) (hp0 : p ≠ 0)
    (he : fieldsE (noteB x.log.reads p x.log.mr) ob.freed ob.shp.weak = 0) (j : Nat) (v : Int)
    (hg : ∀ w' o', StIn w' o' y { S with txs := S.txs.set i (x.read p) } → Calls Tryz.prog 48 #[ptr y.l.h, .int .i64 p, .int .i64 j] w' fun e w'' => e = .returned (.tuple #[.int .i64 v, .int .i64 0]) ∧ Below w'.heap.size w' w'') :
    Calls Tryz.prog 58 #[ptr y.sb, .int .i64 i, .int .i64 p, .int .i64 j, .func (.func 48) #[] #[]] w fun e w' => e = .returned (.tuple #[.int .i64 v, .int .i64 0]) ∧ ∃ o', StIn w' o' y { S with txs := S.txs.set i (x.read p) } ∧ Stp (txTag y i) o o' w w' := by
  have hmf : ∀ (fn : Fn) (first cap : Array Value) (w : World), (Instr.makeFunc fn first cap).run Tryz.prog w = .ok (.func fn first cap) w := fun _ _ _ _ => rfl
  obtain ⟨o1, ho1⟩ : ∃ o1, o1 = ext o w.heap.size (y.l.id + 1, 0) := ⟨_, rfl⟩
  have h := h0.retag (o' := o1) fun b hb => by rw [ho1]; exact ext_lt hb
  have hS0 : Stp (txTag y i) o o1 w w := by rw [ho1]; exact (Stp.refl _ o w).ext _ _ (Nat.le_refl _)
  have hbx : ∀ b, w.heap.size ≤ b → o1 b = (y.l.id + 1, 0) := fun b hb => by rw [ho1]; exact ext_ge hb
  clear ho1 h0
  obtain ⟨W, hW⟩ : ∃ W : World, W = (((w.alloc (.cells #[ptr y.sb] 23)).alloc (.cells #[.int .i64 p] 3)).alloc (.cells #[.int .i64 j] 3)).alloc (.cells #[.func (.func 48) #[] #[]] 111) := ⟨_, rfl⟩
  have hbW : Below w.heap.size w W := by rw [hW]; exact balloc (balloc (balloc (balloc (bsame w) _) _) _) _
  have j1 : Blk W w.heap.size #[ptr y.sb] 23 := by rw [hW]; exact (((Blk.new w _ _).alloc _).alloc _).alloc _
  have j2 : Blk W (w.heap.size + 1) #[.int .i64 p] 3 := by rw [hW]; exact ((Blk.new_at _ _ _ _ _ (by simp) rfl).alloc _).alloc _
  have j4 : Blk W (w.heap.size + 1 + 1) #[.int .i64 j] 3 := by rw [hW]; exact (Blk.new_at _ _ _ _ _ (by simp) rfl).alloc _
  have j3 : Blk W (w.heap.size + 1 + 1 + 1) #[.func (.func 48) #[] #[]] 111 := by rw [hW]; exact Blk.new_at _ _ _ _ _ (by simp) rfl
  have HD := Lib.hid (deed_ok 110 [ptr w.heap.size, ptr (w.heap.size + 1), ptr (w.heap.size + 1 + 1 + 1), ptr (w.heap.size + 1 + 1)] (h.below hbW) hk hx hl eg_field1_num (txTag y i) (txTag_box y i) { S with txs := S.txs.set i (x.read p) } v
    (fun w1 o2 hb he2 hS => field1_num hS hk hx hp hs hc hp0 he j v 0 hg (j1.below hb j1.lt) (j2.below hb j2.lt) (j3.below hb j3.lt) (j4.below hb j4.lt)
      ((he2 _ j1.lt).trans (hbx _ (by omega))) ((he2 _ j2.lt).trans (hbx _ (by omega))) ((he2 _ j3.lt).trans (hbx _ (by omega))) ((he2 _ j4.lt).trans (hbx _ (by omega)))))
  have HS := Lib.hid (hS0.trans (Stp.of_below hbW))
  clear h hk hx hl hp hs hc hp0 he hg hbx hS0 hbW j1 j2 j3 j4
  go_enter Tryz.func58, Tryz.ntmps58
  go_wp2_with fail
  rw [← hW]
  refine HD.out.mono ?_
  rintro e w2 ⟨rfl, o2, hS2, hs2⟩
  go_wp2_with fail
  go_ret2
  exact ⟨rfl, o2, hS2, HS.out.trans hs2⟩
theorem eg_field1_ptr (args : Array Value) (w : World) : (callFunc 110 args).run Tryz.prog w = .ok (.enter 110 args) w := enters_of Tryz.func110 (by kernel_rfl) rfl args w
set_option maxRecDepth 100000 in
theorem field_ptr (h0 : StIn w o y S) (hk : S.ok) (hx : S.txs[i]? = some x) (hl : x.live = true) {p : Nat} {ob : Ob} (hp : lk S.H.cur p = some ob) (hs : SecOk ob.second) (hc : clashB i x.start ob.second = false) (hp0 : p ≠ 0)
    (he : fieldsE (noteB x.log.reads p x.log.mr) ob.freed ob.shp.weak = 0) (j : Nat) (v : Int)
    (hg : ∀ w' o', StIn w' o' y { S with txs := S.txs.set i (x.read p) } → Calls Tryz.prog 59 #[ptr y.l.h, .int .i64 p, .int .i64 j] w' fun e w'' => e = .returned (.tuple #[.int .i64 v, .int .i64 0]) ∧ Below w'.heap.size w' w'') :
    Calls Tryz.prog 58 #[ptr y.sb, .int .i64 i, .int .i64 p, .int .i64 j, .func (.func 59) #[] #[]] w fun e w' => e = .returned (.tuple #[.int .i64 v, .int .i64 0]) ∧ ∃ o', StIn w' o' y { S with txs := S.txs.set i (x.read p) } ∧ Stp (txTag y i) o o' w w' := by
  have hmf : ∀ (fn : Fn) (first cap : Array Value) (w : World), (Instr.makeFunc fn first cap).run Tryz.prog w = .ok (.func fn first cap) w := fun _ _ _ _ => rfl
  obtain ⟨o1, ho1⟩ : ∃ o1, o1 = ext o w.heap.size (y.l.id + 1, 0) := ⟨_, rfl⟩
  have h := h0.retag (o' := o1) fun b hb => by rw [ho1]; exact ext_lt hb
  have hS0 : Stp (txTag y i) o o1 w w := by rw [ho1]; exact (Stp.refl _ o w).ext _ _ (Nat.le_refl _)
  have hbx : ∀ b, w.heap.size ≤ b → o1 b = (y.l.id + 1, 0) := fun b hb => by rw [ho1]; exact ext_ge hb
  clear ho1 h0
  obtain ⟨W, hW⟩ : ∃ W : World, W = (((w.alloc (.cells #[ptr y.sb] 23)).alloc (.cells #[.int .i64 p] 3)).alloc (.cells #[.int .i64 j] 3)).alloc (.cells #[.func (.func 59) #[] #[]] 111) := ⟨_, rfl⟩
  have hbW : Below w.heap.size w W := by rw [hW]; exact balloc (balloc (balloc (balloc (bsame w) _) _) _) _
  have j1 : Blk W w.heap.size #[ptr y.sb] 23 := by rw [hW]; exact (((Blk.new w _ _).alloc _).alloc _).alloc _
  have j2 : Blk W (w.heap.size + 1) #[.int .i64 p] 3 := by rw [hW]; exact ((Blk.new_at _ _ _ _ _ (by simp) rfl).alloc _).alloc _
  have j4 : Blk W (w.heap.size + 1 + 1) #[.int .i64 j] 3 := by rw [hW]; exact (Blk.new_at _ _ _ _ _ (by simp) rfl).alloc _
  have j3 : Blk W (w.heap.size + 1 + 1 + 1) #[.func (.func 59) #[] #[]] 111 := by rw [hW]; exact Blk.new_at _ _ _ _ _ (by simp) rfl
  have HD := Lib.hid (deed_ok 110 [ptr w.heap.size, ptr (w.heap.size + 1), ptr (w.heap.size + 1 + 1 + 1), ptr (w.heap.size + 1 + 1)] (h.below hbW) hk hx hl eg_field1_ptr (txTag y i) (txTag_box y i) { S with txs := S.txs.set i (x.read p) } v
    (fun w1 o2 hb he2 hS => field1_ptr hS hk hx hp hs hc hp0 he j v 0 hg (j1.below hb j1.lt) (j2.below hb j2.lt) (j3.below hb j3.lt) (j4.below hb j4.lt)
      ((he2 _ j1.lt).trans (hbx _ (by omega))) ((he2 _ j2.lt).trans (hbx _ (by omega))) ((he2 _ j3.lt).trans (hbx _ (by omega))) ((he2 _ j4.lt).trans (hbx _ (by omega)))))
  have HS := Lib.hid (hS0.trans (Stp.of_below hbW))
  clear h hk hx hl hp hs hc hp0 he hg hbx hS0 hbW j1 j2 j3 j4
  go_enter Tryz.func58, Tryz.ntmps58
  go_wp2_with fail
  rw [← hW]
  refine HD.out.mono ?_
  rintro e w2 ⟨rfl, o2, hS2, hs2⟩
  go_wp2_with fail
  go_ret2
  exact ⟨rfl, o2, hS2, HS.out.trans hs2⟩
/-- Read: a number told. -/
theorem sread_in (h : StIn w o y S) (hk : S.ok) (hx : S.txs[i]? = some x) (hl : x.live = true) {p : Nat} {ob : Ob} (hp : lk S.H.cur p = some ob) (hs : SecOk ob.second) (hc : clashB i x.start ob.second = false) (hp0 : p ≠ 0)
    (he : fieldsE (noteB x.log.reads p x.log.mr) ob.freed ob.shp.weak = 0) (j : Nat) (v : Int) (hv : ob.nums[j]? = some v) :
    Calls Tryz.prog 19 #[ptr y.sb, .int .i64 i, .int .i64 p, .int .i64 j] w fun e w' => e = .returned (.tuple #[.int .i64 v, .int .i64 0]) ∧ ∃ o', StIn w' o' y { S with txs := S.txs.set i (x.read p) } ∧ Stp (txTag y i) o o' w w' := by
  have HF := Lib.hid (field_num h hk hx hl hp hs hc hp0 he j v fun w' o' hS => by
    obtain ⟨vc, vo, vw, vf, f, hh⟩ := hS.hp
    exact hnum_in hh hk.F.ok hp j v hv)
  clear h hk hx hl hp hs hc hp0 he hv
  go_enter Tryz.func19, Tryz.ntmps19
  go_wp2_with fail
  refine HF.out.mono ?_
  rintro e w2 ⟨rfl, o2, hS2, hs2⟩
  go_wp2_with fail
  go_ret2
  exact ⟨rfl, o2, hS2, hs2⟩
/-- Get: a pointer told. -/
theorem sget_in (h : StIn w o y S) (hk : S.ok) (hx : S.txs[i]? = some x) (hl : x.live = true) {p : Nat} {ob : Ob} (hp : lk S.H.cur p = some ob) (hs : SecOk ob.second) (hc : clashB i x.start ob.second = false) (hp0 : p ≠ 0)
    (he : fieldsE (noteB x.log.reads p x.log.mr) ob.freed ob.shp.weak = 0) (j : Nat) (v : Nat) (hv : ob.ptrs[j]? = some v) :
    Calls Tryz.prog 20 #[ptr y.sb, .int .i64 i, .int .i64 p, .int .i64 j] w fun e w' => e = .returned (.tuple #[.int .i64 v, .int .i64 0]) ∧ ∃ o', StIn w' o' y { S with txs := S.txs.set i (x.read p) } ∧ Stp (txTag y i) o o' w w' := by
  have HF := Lib.hid (field_ptr h hk hx hl hp hs hc hp0 he j v fun w' o' hS => by
    obtain ⟨vc, vo, vw, vf, f, hh⟩ := hS.hp
    exact hptr_in hh hk.F.ok hk.F.mov hp j v hv)
  clear h hk hx hl hp hs hc hp0 he hv
  go_enter Tryz.func20, Tryz.ntmps20
  go_wp2_with fail
  refine HF.out.mono ?_
  rintro e w2 ⟨rfl, o2, hS2, hs2⟩
  go_wp2_with fail
  go_ret2
  exact ⟨rfl, o2, hS2, hs2⟩
end
end Go.Proofs.YtemohiainfllcaaGreat

/- Walks: a transaction that only read commits. -/
namespace Go.Proofs.YtemohiainfllcaaGreat
open Go.RowKit Hp
attribute [local go_sem ↓] Go.wp_at_zero Go.wp_at_succ
section
variable {w w' : World} {o o' : Own} {y : SLay} {S : Stt} {x : Tx} {i : Nat}
theorem eg_commit1 (args : Array Value) (w : World) : (callFunc 51 args).run Tryz.prog w = .ok (.enter 51 args) w := enters_of Tryz.func51 (by kernel_rfl) rfl args w
set_option maxRecDepth 100000 in
theorem commit1_read (h : StIn w o y S) (hk : S.ok) (hx : S.txs[i]? = some x) (hh : x.log.holds = []) (hn : S.holder ≠ (i : Int)) {b1 : Nat} (j1 : Blk w b1 #[ptr y.sb] 23) :
    Calls Tryz.prog 51 #[ptr (y.xb i), ptr b1] w fun e w' => e = .returned (.tuple #[.int .i64 0, .int .i64 0]) ∧ ∃ o', StIn w' o' y { S with txs := S.txs.set i x.ended } ∧ Stp (txTag y i) o o' w w' := by
  have hx' := h.txs i x hx
  obtain ⟨vr, vk, vh, vu, hl⟩ := hx'.log
  have HL := Lib.hid (log_holds hl (hk.lg x (List.mem_of_getElem? hx)) (y.l.id + 1, 0))
  rw [hh] at HL
  have HE := Lib.hid (fun w' (hw : Below w.heap.size w w') => end_in (h.below hw) hx)
  have c1 := j1.cell
  have jx := hx'.blk
  have cx := jx.cell
  have jb := h.blk
  unfold stCells at jb
  have hne : (S.holder == (i : Int)) = false := by simpa using hn
  have hne2 : ¬ S.holder = (i : Int) := hn
  clear h hk hx hh hx' hl hn
  go_enter Tryz.func51, Tryz.ntmps51
  go_wp2_with fail
  refine HL.out.mono ?_
  rintro e w1 ⟨v', rfl, hr, hb1⟩
  obtain ⟨pa, cp, rfl⟩ := hr.slc
  have c1 := (j1.below hb1 j1.lt).cell
  have cx := (jx.below hb1 jx.lt).cell
  have c := (jb.below hb1 jb.lt).cell
  have s1 := (j1.below hb1 j1.lt).lt
  go_upto_region 2 with fail
  go_quiet (fail)
  go_wp2_with fail
  refine (HE.out _ (bdrewN hb1 _)).mono ?_
  rintro e w2 ⟨rfl, hS2, hs2⟩
  go_wp2_with fail
  go_ret2
  exact ⟨rfl, o, hS2, (Stp.of_below (bdrewN hb1 _)).trans hs2⟩
theorem commit_read (h : StIn w o y S) (hk : S.ok) (hx : S.txs[i]? = some x) (hl : x.live = true) (hh : x.log.holds = []) (hn : S.holder ≠ (i : Int)) :
    Calls Tryz.prog 18 #[ptr y.sb, .int .i64 i] w fun e w' => e = .returned (.tuple #[.int .i64 0, .int .i64 0]) ∧ ∃ o', StIn w' o' y { S with txs := S.txs.set i x.ended } ∧ Stp (txTag y i) o o' w w' := by
  have hmf : ∀ (fn : Fn) (first cap : Array Value) (w : World), (Instr.makeFunc fn first cap).run Tryz.prog w = .ok (.func fn first cap) w := fun _ _ _ _ => rfl
  have HD := Lib.hid (fun w' b1 (hw : Below w.heap.size w w') (j1 : Blk w' b1 #[ptr y.sb] 23) =>
    deed_ok 51 [ptr b1] (h.below hw) hk hx hl eg_commit1 (txTag y i) (txTag_box y i) { S with txs := S.txs.set i x.ended } 0
      (fun w1 o1 hb _ hS => commit1_read hS hk hx hh hn (j1.below hb j1.lt)))
  clear h hk hx hl hh hn
  go_enter Tryz.func18, Tryz.ntmps18
  go_wp2_with fail
  refine (HD.out _ w.heap.size (balloc (bsame w) _) (Blk.new w _ _)).mono ?_
  rintro e w2 ⟨rfl, o2, hS2, hs2⟩
  go_wp2_with fail
  go_ret2
  exact ⟨rfl, o2, hS2, (Stp.of_below (balloc (bsame w) _)).trans hs2⟩
end
end Go.Proofs.YtemohiainfllcaaGreat

/- Walks: a transaction takes, while nothing waits. -/
namespace Go.Proofs.YtemohiainfllcaaGreat
open Go.RowKit Hp
attribute [local go_sem ↓] Go.wp_at_zero Go.wp_at_succ
section
variable {w w' : World} {o o' : Own} {y : SLay} {S : Stt} {x : Tx} {i : Nat}
theorem eg_take1 (args : Array Value) (w : World) : (callFunc 119 args).run Tryz.prog w = .ok (.enter 119 args) w := enters_of Tryz.func119 (by kernel_rfl) rfl args w
def ownTag (y : SLay) (t : Tag) : Prop := t = (y.l.id, 11)
set_option maxRecDepth 100000 in
theorem take1_in (h : StIn w o y S) (hx : S.txs[i]? = some x) (hn : S.holder = -1 ∨ S.holder = (i : Int)) (hv : S.version ≤ x.start) {b1 : Nat} (j1 : Blk w b1 #[ptr y.sb] 23) (t1 : o b1 = (y.l.id + 1, 0)) :
    Calls Tryz.prog 119 #[ptr (y.xb i), ptr b1] w fun e w' => e = .returned (.tuple #[.int .i64 0, .int .i64 0]) ∧ ∃ o', StIn w' o' y { S with holder := (i : Int), version := S.version } ∧ Stp (ownTag y) o o' w w' := by
  have HI := Lib.hid h
  have jx := (h.txs i x hx).blk
  have jb := h.blk
  have jb0 := Lib.hid jb
  unfold stCells at jb
  have hos := h.os
  have n1 : b1 ≠ y.sb := fun e => by rw [e, hos] at t1; injection t1 with t1 _; omega
  have nx : y.xb i ≠ y.sb := fun e => by have h1 := (h.txs i x hx).ob; rw [e, hos] at h1; injection h1 with _ h1; omega
  have hvI : ¬ (x.start : Int) < (S.version : Int) := by omega
  have c1 := j1.cell
  have cx := jx.cell
  have hfin := Lib.hid (fun (W : World) (hb : Below w.heap.size w W) => show ∃ o', StIn (W.setCell ⟨y.sb, 6, none⟩ (.int .i64 i)) o' y { S with holder := (i : Int), version := S.version } ∧ Stp (ownTag y) o o' w (W.setCell ⟨y.sb, 6, none⟩ (.int .i64 i)) from by
    have hs : Stp (ownTag y) o o w (W.setCell ⟨y.sb, 6, none⟩ (.int .i64 i)) := (Stp.of_below hb).setCell (by show o y.sb = _; exact hos) _
    exact ⟨o, HI.out.own ((jb0.out.below hb jb0.out.lt).set 6 _) hs, hs⟩)
  clear h hx hos hv
  rcases hn with hn | hn
  all_goals
    rw [hn] at jb
    have c := jb.cell
    have z := jb.free
    have s := jb.lt
    go_enter Tryz.func119, Tryz.ntmps119
    go_upto_region 1 with fail
    go_quiet (fail)
    go_upto_region 3 with fail
    go_region_with (fail)
    all_goals
      go_upto_region 4 with fail
      go_quiet (fail)
      go_wp2_with fail
      go_ret2
      obtain ⟨o', hS, hs⟩ := hfin.out _ (bdrewN (bsame w) _)
      exact ⟨rfl, o', hS.below (bdrewN (bsame _) _), hs.trans (Stp.of_below (bdrewN (bsame _) _))⟩
theorem take_in (h0 : StIn w o y S) (hk : S.ok) (hx : S.txs[i]? = some x) (hl : x.live = true) (hn : S.holder = -1 ∨ S.holder = (i : Int)) (hv : S.version ≤ x.start) :
    Calls Tryz.prog 66 #[ptr y.sb, .int .i64 i] w fun e w' => e = .returned (.tuple #[.int .i64 0, .int .i64 0]) ∧ ∃ o', StIn w' o' y { S with holder := (i : Int), version := S.version } ∧ Stp (ownTag y) o o' w w' := by
  have hmf : ∀ (fn : Fn) (first cap : Array Value) (w : World), (Instr.makeFunc fn first cap).run Tryz.prog w = .ok (.func fn first cap) w := fun _ _ _ _ => rfl
  obtain ⟨o1, ho1⟩ : ∃ o1, o1 = ext o w.heap.size (y.l.id + 1, 0) := ⟨_, rfl⟩
  have h := h0.retag (o' := o1) fun b hb => by rw [ho1]; exact ext_lt hb
  have hS0 : Stp (ownTag y) o o1 w w := by rw [ho1]; exact (Stp.refl _ o w).ext _ _ (Nat.le_refl _)
  have hbx : o1 w.heap.size = (y.l.id + 1, 0) := by rw [ho1]; exact ext_ge (Nat.le_refl _)
  clear ho1 h0
  have j1 := Blk.new w #[ptr y.sb] 23
  have HD := Lib.hid (deed_ok 119 [ptr w.heap.size] (h.below (balloc (bsame w) (.cells #[ptr y.sb] 23))) hk hx hl eg_take1 (ownTag y) (by intro e; injection e with e _; omega) { S with holder := (i : Int), version := S.version } 0
      (fun w1 o1 hb he hS => take1_in hS hx hn hv (j1.below hb j1.lt) ((he _ j1.lt).trans hbx)))
  have HS := Lib.hid (hS0.trans (Stp.of_below (balloc (bsame w) (.cells #[ptr y.sb] 23))))
  clear h hk hx hl hn hv hS0 hbx j1
  go_enter Tryz.func66, Tryz.ntmps66
  go_wp2_with fail
  refine HD.out.mono ?_
  rintro e w2 ⟨rfl, o2, hS2, hs2⟩
  go_wp2_with fail
  go_ret2
  exact ⟨rfl, o2, hS2, HS.out.trans hs2⟩
end
end Go.Proofs.YtemohiainfllcaaGreat

/- Walks: no room for an object. -/
namespace Go.Proofs.YtemohiainfllcaaGreat
open Go.RowKit Hp
attribute [local go_sem ↓] Go.wp_at_zero Go.wp_at_succ
section
variable {w : World} {o : Own} {l : HLay} {H : Hp} {vc vo vw vf : Value} {f : Nat → Nat}
set_option maxRecDepth 100000 in
set_option maxHeartbeats 2000000 in
theorem alloc_no (h : HpIn w o l H vc vo vw vf f) (hF : HpF H) (s : Shp) (hs : s.ok) (hr : 1 + H.size < H.top + rnd (3 + s.p + s.d)) :
    Calls Tryz.prog 147 #[.pointer (some ⟨l.h, 0, none⟩), shpV s] w fun e w' => e = .returned (.tuple #[.int .i64 0, .int .i64 100]) ∧ Below w.heap.size w w' := by
  have hk := hF.ok
  have hb := h.cells_f hF.use
  have ht := Hp.top_f hk hF.use
  have hsz := hk.sz
  have hrd := rnd_ge (3 + s.p + s.d) (by obtain ⟨h1, h2, _⟩ := hs; omega)
  have HR := Lib.hid (fun w' (hw : Below w.heap.size w w') => room_f (h.below hw) hk hF.use hF.mov)
  have HS := Lib.hid (fun w => hsize_any s hs w)
  have HN := Lib.hid (fun w => round_any (3 + s.p + s.d) (by omega) (by obtain ⟨h1, h2, _⟩ := hs; omega) _ rfl w)
  have hng : ((1 + H.size - H.top : Nat) : Int) < ((rnd (3 + s.p + s.d) : Nat) : Int) := by omega
  generalize ((1 + H.size - H.top : Nat) : Int) = q at HR hng
  generalize ((rnd (3 + s.p + s.d) : Nat) : Int) = rn at HN hng
  clear h hk hr hF hsz hrd ht hb
  go_enter Tryz.func147, Tryz.ntmps147
  have jS := Blk.new w #[.int .i64 s.p, .int .i64 s.d, .bool s.weak, .bool s.final] 80
  have cS := jS.cell
  go_wp2_with fail
  refine (HS.out _).mono ?_
  rintro e w1 ⟨rfl, hb1⟩
  have hw1 := btrans (balloc (bsame w) _) hb1
  clear hb1 cS
  go_wp2_with fail
  refine (HN.out _).mono ?_
  rintro e w2 ⟨rfl, hb2⟩
  have hw2 := btrans hw1 hb2
  go_wp2_with fail
  refine (HR.out _ hw2).mono ?_
  rintro e w3 ⟨rfl, hb3⟩
  go_wp2_with fail
  go_ret2
  exact ⟨rfl, btrans hw2 hb3⟩
end
end Go.Proofs.YtemohiainfllcaaGreat
