/- A store's public Read, Get, Write and Put. -/
import Derived.Test.YtemohiainfllcaaGreatKc
namespace Go.Proofs.YtemohiainfllcaaGreat
open Go.RowKit Hp
attribute [local go_sem ↓] Go.wp_at_zero Go.wp_at_succ
/-- What a call in a live transaction asks. -/
structure Pre (S : Stt) (i : Nat) (x : Tx) : Prop where
  ok : S.ok
  hx : S.txs[i]? = some x
  live : x.live = true
  secs : SecsOk S
  ab : AbOk S i
  held : ∀ z ∈ x.log.holds, ∀ ob, lk S.H.cur z.1 = some ob → ob.second % 2 = 1
  r1 : x.log.reads.length < x.log.mr
  r2 : x.log.keeps.length < x.log.mr
  r3 : x.log.holds.length < x.log.mu
  r4 : x.log.undos.length < x.log.mu
theorem Tx.read_ok {x : Tx} (h : x.log.ok) (p : Nat) : (x.read p).log.ok := by
  refine ⟨h.mr, h.mu, ?_, h.k, h.h, h.u⟩
  show (noteL x.log.reads p x.log.mr).length ≤ x.log.mr
  have := h.r
  unfold noteL; split
  · exact this
  · split
    · simp; omega
    · exact this
theorem Tx.hold1_ok {x : Tx} (h : x.log.ok) (p : Nat) (ob : Ob) (hm : x.log.holds.length < x.log.mu) : (x.hold1 p ob).log.ok := by
  unfold Tx.hold1; split
  · exact h
  · exact Lg.ok_hold h _ _ hm
theorem Tx.undo_ok {x : Tx} (h : x.log.ok) (u : Un) (hm : x.log.undos.length < x.log.mu) : (x.undo u).log.ok :=
  ⟨h.mr, h.mu, h.r, h.k, h.h, by show (x.log.undos ++ [u]).length ≤ x.log.mu; simp; omega⟩
theorem Tx.hold1_undos (x : Tx) (p : Nat) (ob : Ob) : (x.hold1 p ob).log.undos = x.log.undos ∧ (x.hold1 p ob).log.mu = x.log.mu ∧ (x.hold1 p ob).start = x.start := by
  unfold Tx.hold1; split <;> exact ⟨rfl, rfl, rfl⟩
theorem Ob.held_ok {ob : Ob} (h : ob.ok) {i : Nat} (hi : i ≤ 8) : (ob.held i).ok := by
  unfold Ob.held; split
  · exact h
  · exact Ob.setSecond_ok h _ (by omega)
theorem Ob.held_shp (ob : Ob) (i : Nat) : (ob.held i).shp = ob.shp := by unfold Ob.held; split <;> rfl
theorem fieldsR_ok {S : Stt} {i : Nat} {x : Tx} {p : Nat} (hp : Plc S p) (h : (S.fieldsR i x p).2 = 0) :
    ∃ ob, p ≠ 0 ∧ lk S.H.cur p = some ob ∧ clashB i x.start ob.second = false ∧ fieldsE (noteB x.log.reads p x.log.mr) ob.freed ob.shp.weak = 0 ∧ S.fieldsR i x p = (S.tx i (x.read p), 0) := by
  by_cases h0 : p = 0
  · subst h0; unfold Stt.fieldsR Stt.lookR at h; simp at h
  · obtain ⟨ob, hob⟩ := Option.isSome_iff_exists.1 (hp.resolve_left h0)
    have e0 : S.shpOf p = ob.shp := by unfold Stt.shpOf; rw [hob]
    cases hc : clashB i x.start ob.second with
    | true =>
      have e1 : S.fieldsR i x p = (S, 141) := by unfold Stt.fieldsR Stt.lookR; rw [if_neg h0, hob]; simp [hc]
      rw [e1] at h; simp at h
    | false =>
      have e1 : S.fieldsR i x p = (S.tx i (x.read p), fieldsE (noteB x.log.reads p x.log.mr) ob.freed ob.shp.weak) := by
        unfold Stt.fieldsR Stt.lookR fieldsE; rw [if_neg h0, hob, e0]; simp only [hc]
        cases noteB x.log.reads p x.log.mr <;> cases ob.freed <;> cases ob.shp.weak <;> simp
      rw [e1] at h
      simp only at h
      exact ⟨ob, h0, hob, hc, h, by rw [e1, h]⟩
theorem noteB_room {l : List Nat} {p m : Nat} (h : l.length < m) : noteB l p m = true := by unfold noteB; simp [h]
theorem fieldsR_ab {S : Stt} {i : Nat} {x : Tx} {p : Nat} (hp : Plc S p) (hr : x.log.reads.length < x.log.mr) (h : isAb (S.fieldsR i x p).2 = true) : S.fieldsR i x p = (S, 141) := by
  by_cases h0 : p = 0
  · subst h0; unfold Stt.fieldsR Stt.lookR isAb at h; simp at h
  · obtain ⟨ob, hob⟩ := Option.isSome_iff_exists.1 (hp.resolve_left h0)
    have e0 : S.shpOf p = ob.shp := by unfold Stt.shpOf; rw [hob]
    cases hc : clashB i x.start ob.second with
    | true => unfold Stt.fieldsR Stt.lookR; rw [if_neg h0, hob]; simp [hc]
    | false =>
      have e1 : S.fieldsR i x p = (S.tx i (x.read p), fieldsE (noteB x.log.reads p x.log.mr) ob.freed ob.shp.weak) := by
        unfold Stt.fieldsR Stt.lookR fieldsE; rw [if_neg h0, hob, e0]; simp only [hc]
        cases noteB x.log.reads p x.log.mr <;> cases ob.freed <;> cases ob.shp.weak <;> simp
      rw [e1, noteB_room hr] at h
      have hno : ∀ a b, isAb (fieldsE true a b) = true → False := by decide
      exact (hno _ _ h).elim
section
variable {w w' : World} {o o' : Own} {y : SLay} {S : Stt} {x : Tx} {i : Nat}
theorem change_ferr (kd p j : Nat) (v ef : Int) (he : ef ≠ 0) (vg vs : Value) (S1 : Stt) (h : StIn w o y S)
    (fields : ∀ w1 o1, StIn w1 o1 y S → Calls Tryz.prog 100 #[ptr y.sb, ptr (y.xb i), .int .i64 p] w1 fun e w' => e = .returned (.int .i64 ef) ∧ ∃ o', StIn w' o' y S1 ∧ Stp (txTag y i) o1 o' w1 w') :
    Calls Tryz.prog 47 #[ptr y.sb, ptr (y.xb i), .agg #[.int .i64 kd, .int .i64 p, .int .i64 j, .int .i64 0], vg, vs, .int .i64 v] w
      fun e w' => e = .returned (.int .i64 ef) ∧ ∃ o', StIn w' o' y S1 ∧ Stp (txTag y i) o o' w w' := by
  have HF := Lib.hid (fields _ o (h.below (balloc (bsame w) (.cells #[.int .i64 kd, .int .i64 p, .int .i64 j, .int .i64 0] 96))))
  have jU := Blk.new w #[.int .i64 kd, .int .i64 p, .int .i64 j, .int .i64 0] 96
  have hb : (ef != 0) = true := by rw [bne_iff_ne]; exact he
  have hb2 : (ef == 0) = false := by rw [beq_eq_false_iff_ne]; exact he
  clear fields h
  have cU := jU.cell
  go_enter Tryz.func47, Tryz.ntmps47
  go_wp2_with fail
  refine HF.out.mono ?_
  rintro e w1 ⟨rfl, o2, hS1, hs1⟩
  go_wp2_with fail
  go_ret
  exact ⟨rfl, o2, hS1, (Stp.of_below (balloc (bsame w) _)).trans hs1⟩

/-! ### Num and SetNum -/
theorem change_gerr_num (kd p j : Nat) (v eg : Int) (he : eg ≠ 0) (vs : Value) (S1 : Stt) (h : StIn w o y S)
    (fields : ∀ w1 o1, StIn w1 o1 y S → Calls Tryz.prog 100 #[ptr y.sb, ptr (y.xb i), .int .i64 p] w1 fun e w' => e = .returned (.int .i64 0) ∧ ∃ o', StIn w' o' y S1 ∧ Stp (txTag y i) o1 o' w1 w')
    (get : ∀ w1 o1, StIn w1 o1 y S1 → Calls Tryz.prog 48 #[ptr y.l.h, .int .i64 p, .int .i64 j] w1 fun e w' => e = .returned (.tuple #[.int .i64 0, .int .i64 eg]) ∧ Below w1.heap.size w1 w') :
    Calls Tryz.prog 47 #[ptr y.sb, ptr (y.xb i), .agg #[.int .i64 kd, .int .i64 p, .int .i64 j, .int .i64 0], .func (.func 48) #[ptr y.l.h] #[], vs, .int .i64 v] w
      fun e w' => e = .returned (.int .i64 eg) ∧ ∃ o', StIn w' o' y S1 ∧ Stp (txTag y i) o o' w w' := by
  obtain ⟨o1, ho1⟩ : ∃ o1, o1 = ext o w.heap.size (y.l.id + 1, 0) := ⟨_, rfl⟩
  have hr := h.retag (o' := o1) fun b hb => by rw [ho1]; exact ext_lt hb
  have hS0 : Stp (txTag y i) o o1 w w := by rw [ho1]; exact (Stp.refl _ o w).ext _ _ (Nat.le_refl _)
  have hbx : o1 w.heap.size = (y.l.id + 1, 0) := by rw [ho1]; exact ext_ge (Nat.le_refl _)
  clear ho1 h
  have HF := Lib.hid (fields _ o1 (hr.below (balloc (bsame w) (.cells #[.int .i64 kd, .int .i64 p, .int .i64 j, .int .i64 0] 96))))
  have HG := Lib.hid get
  have HB := Lib.hid (txTag_box y i)
  have jU := Blk.new w #[.int .i64 kd, .int .i64 p, .int .i64 j, .int .i64 0] 96
  have hb : (eg != 0) = true := by rw [bne_iff_ne]; exact he
  have hb2 : (eg == 0) = false := by rw [beq_eq_false_iff_ne]; exact he
  clear fields get hr
  have cU := jU.cell
  go_enter Tryz.func47, Tryz.ntmps47
  go_wp2_with fail
  refine HF.out.mono ?_
  rintro e w1 ⟨rfl, o2, hS1, hs1⟩
  have jU1 := jU.stp hs1 (by rw [hbx]; exact HB.out)
  clear cU
  have cU := jU1.cell
  go_wp2_with fail
  refine (HG.out _ o2 hS1).mono ?_
  rintro e w2 ⟨rfl, hb2⟩
  go_wp2_with fail
  go_ret
  exact ⟨rfl, o2, hS1.below hb2, hS0.trans ((Stp.of_below (balloc (bsame w) _)).trans (hs1.trans (Stp.of_below hb2)))⟩
def Stt.readR (S : Stt) (i : Nat) (x : Tx) (p j : Nat) : Res :=
  if (S.fieldsR i x p).2 ≠ 0 then ⟨(S.fieldsR i x p).1, 0, (S.fieldsR i x p).2⟩ else match (lk S.H.cur p).bind (·.nums[j]?) with
  | some n => ⟨(S.fieldsR i x p).1, n, 0⟩
  | none => ⟨(S.fieldsR i x p).1, 0, 71⟩
set_option maxRecDepth 100000 in
theorem sread_any (h0 : StIn w o y S) (hP : Pre S i x) {p : Nat} (hp : Plc S p) (j : Nat) :
    Calls Tryz.prog 19 #[ptr y.sb, .int .i64 i, .int .i64 p, .int .i64 j] w fun e w' => e = .returned (.tuple #[.int .i64 ((S.readR i x p j).fin i).v, .int .i64 ((S.readR i x p j).fin i).e]) ∧ ∃ o', StIn w' o' y ((S.readR i x p j).fin i).S ∧ Stp (stTag y) o o' w w' := by
  have hmf : ∀ (fn : Fn) (first cap : Array Value) (w : World), (Instr.makeFunc fn first cap).run Tryz.prog w = .ok (.func fn first cap) w := fun _ _ _ _ => rfl
  obtain ⟨o1, ho1⟩ : ∃ o1, o1 = ext o w.heap.size (y.l.id + 1, 0) := ⟨_, rfl⟩
  have h := h0.retag (o' := o1) fun b hb => by rw [ho1]; exact ext_lt hb
  have hS0 : Stp (stTag y) o o1 w w := by rw [ho1]; exact (Stp.refl _ o w).ext _ _ (Nat.le_refl _)
  have hbx : ∀ b, w.heap.size ≤ b → o1 b = (y.l.id + 1, 0) := fun b hb => by rw [ho1]; exact ext_ge hb
  clear ho1 h0
  obtain ⟨W, hW⟩ : ∃ W : World, W = (((w.alloc (.cells #[ptr y.sb] 23)).alloc (.cells #[.int .i64 p] 3)).alloc (.cells #[.int .i64 j] 3)).alloc (.cells #[.func (.func 48) #[] #[]] 111) := ⟨_, rfl⟩
  have hbW : Below w.heap.size w W := by rw [hW]; exact balloc (balloc (balloc (balloc (bsame w) _) _) _) _
  have j1 : Blk W w.heap.size #[ptr y.sb] 23 := by rw [hW]; exact (((Blk.new w _ _).alloc _).alloc _).alloc _
  have j2 : Blk W (w.heap.size + 1) #[.int .i64 p] 3 := by rw [hW]; exact ((Blk.new_at _ _ _ _ _ (by simp) rfl).alloc _).alloc _
  have j4 : Blk W (w.heap.size + 1 + 1) #[.int .i64 j] 3 := by rw [hW]; exact (Blk.new_at _ _ _ _ _ (by simp) rfl).alloc _
  have j3 : Blk W (w.heap.size + 1 + 1 + 1) #[.func (.func 48) #[] #[]] 111 := by rw [hW]; exact Blk.new_at _ _ _ _ _ (by simp) rfl
  have hab : isAb (S.readR i x p j).e = true → AbOk (S.readR i x p j).S i := fun ha => by
    unfold Stt.readR at ha ⊢
    split at ha
    · rename_i hne
      rw [if_pos hne]
      have := fieldsR_ab hp hP.r1 ha
      show AbOk (S.fieldsR i x p).1 i
      rw [this]; exact hP.ab
    · split at ha <;> simp [isAb] at ha
  have HD := Lib.hid (deed_any 110 [ptr w.heap.size, ptr (w.heap.size + 1), ptr (w.heap.size + 1 + 1 + 1), ptr (w.heap.size + 1 + 1)] (h.below hbW) hP.ok hP.hx hP.live eg_field1_num (S.readR i x p j) hab
    (fun w1 o2 hb he2 hS => by
      have a1 := j1.below hb j1.lt
      have a2 := j2.below hb j2.lt
      have a3 := j3.below hb j3.lt
      have a4 := j4.below hb j4.lt
      have tg : ∀ b, w.heap.size ≤ b → b < W.heap.size → o2 b = (y.l.id + 1, 0) := fun b hb1 hb2 => (he2 _ hb2).trans (hbx _ hb1)
      unfold Stt.readR
      by_cases hne : (S.fieldsR i x p).2 = 0
      · rw [if_neg (by simpa using hne)]
        obtain ⟨ob, hp0, hob, hc, hfe, he⟩ := fieldsR_ok hp hne
        rw [hob, Option.bind_some, he]
        have fin : ∀ v err : Int, (∀ w' o', StIn w' o' y { S with txs := S.txs.set i (x.read p) } → Calls Tryz.prog 48 #[ptr y.l.h, .int .i64 p, .int .i64 j] w' fun e w'' => e = .returned (.tuple #[.int .i64 v, .int .i64 err]) ∧ Below w'.heap.size w' w'') →
            Calls Tryz.prog 110 (ptr (y.xb i) :: [ptr w.heap.size, ptr (w.heap.size + 1), ptr (w.heap.size + 1 + 1 + 1), ptr (w.heap.size + 1 + 1)]).toArray w1 fun e w' => e = .returned (.tuple #[.int .i64 v, .int .i64 err]) ∧ ∃ o', StIn w' o' y (S.tx i (x.read p)) ∧ Stp (stTag y) o2 o' w1 w' := fun v err hg => by
          refine (field1_num hS hP.ok hP.hx hob (hP.secs p ob hob) hc hp0 hfe j v err hg a1 a2 a3 a4 (tg _ (Nat.le_refl _) j1.lt) (tg _ (by omega) j2.lt) (tg _ (by omega) j3.lt) (tg _ (by omega) j4.lt)).mono ?_
          rintro e w' ⟨rfl, o', h1, h2⟩
          exact ⟨rfl, o', h1, h2.mono fun _ => stTag_tx⟩
        cases hv : ob.nums[j]? with
        | some v =>
          refine fin v 0 fun w' o' hS' => ?_
          obtain ⟨vc, vo, vw, vf, f, hh⟩ := hS'.hp
          exact hnum_in hh hP.ok.F.ok hob j v hv
        | none =>
          refine fin 0 71 fun w' o' hS' => ?_
          obtain ⟨vc, vo, vw, vf, f, hh⟩ := hS'.hp
          have ho := ok_of_lk hP.ok hob
          exact hnum_out hh hP.ok.F.ok hob j (by have := List.getElem?_eq_none_iff.1 hv; rw [ho.ln] at this; exact this)
      · rw [if_pos (by simpa using hne)]
        refine (field1_err p (S.fieldsR i x p).2 hne (S.fieldsR i x p).1 (fields_any hS hP.ok hP.hx hP.secs hp) a1 a2).mono ?_
        rintro e w' ⟨rfl, o', h1, h2⟩
        exact ⟨rfl, o', h1, h2.mono fun _ => stTag_tx⟩))
  have HS := Lib.hid (hS0.trans (Stp.of_below hbW))
  generalize Res.fin (S.readR i x p j) i = R at *
  clear h hbx hS0 hbW j1 j2 j3 j4 hab hP hp
  have HF := Lib.hid (show Calls Tryz.prog 58 #[ptr y.sb, .int .i64 i, .int .i64 p, .int .i64 j, .func (.func 48) #[] #[]] w fun e w' => e = .returned (.tuple #[.int .i64 R.v, .int .i64 R.e]) ∧ ∃ o', StIn w' o' y R.S ∧ Stp (stTag y) o o' w w' from by
    go_enter Tryz.func58, Tryz.ntmps58
    go_wp2_with fail
    rw [← hW]
    refine HD.out.mono ?_
    rintro e w2 ⟨rfl, o2, hS2, hs2⟩
    go_wp2_with fail
    go_ret2
    exact ⟨rfl, o2, hS2, HS.out.trans hs2⟩)
  clear HD hW HS
  go_enter Tryz.func19, Tryz.ntmps19
  go_wp2_with fail
  refine HF.out.mono ?_
  rintro e w2 ⟨rfl, o2, hS2, hs2⟩
  go_wp2_with fail
  go_ret2
  exact ⟨rfl, o2, hS2, hs2⟩

/-! ### Ptr and SetPtr -/
theorem change_gerr_ptr (kd p j : Nat) (v eg : Int) (he : eg ≠ 0) (vs : Value) (S1 : Stt) (h : StIn w o y S)
    (fields : ∀ w1 o1, StIn w1 o1 y S → Calls Tryz.prog 100 #[ptr y.sb, ptr (y.xb i), .int .i64 p] w1 fun e w' => e = .returned (.int .i64 0) ∧ ∃ o', StIn w' o' y S1 ∧ Stp (txTag y i) o1 o' w1 w')
    (get : ∀ w1 o1, StIn w1 o1 y S1 → Calls Tryz.prog 59 #[ptr y.l.h, .int .i64 p, .int .i64 j] w1 fun e w' => e = .returned (.tuple #[.int .i64 0, .int .i64 eg]) ∧ Below w1.heap.size w1 w') :
    Calls Tryz.prog 47 #[ptr y.sb, ptr (y.xb i), .agg #[.int .i64 kd, .int .i64 p, .int .i64 j, .int .i64 0], .func (.func 59) #[ptr y.l.h] #[], vs, .int .i64 v] w
      fun e w' => e = .returned (.int .i64 eg) ∧ ∃ o', StIn w' o' y S1 ∧ Stp (txTag y i) o o' w w' := by
  obtain ⟨o1, ho1⟩ : ∃ o1, o1 = ext o w.heap.size (y.l.id + 1, 0) := ⟨_, rfl⟩
  have hr := h.retag (o' := o1) fun b hb => by rw [ho1]; exact ext_lt hb
  have hS0 : Stp (txTag y i) o o1 w w := by rw [ho1]; exact (Stp.refl _ o w).ext _ _ (Nat.le_refl _)
  have hbx : o1 w.heap.size = (y.l.id + 1, 0) := by rw [ho1]; exact ext_ge (Nat.le_refl _)
  clear ho1 h
  have HF := Lib.hid (fields _ o1 (hr.below (balloc (bsame w) (.cells #[.int .i64 kd, .int .i64 p, .int .i64 j, .int .i64 0] 96))))
  have HG := Lib.hid get
  have HB := Lib.hid (txTag_box y i)
  have jU := Blk.new w #[.int .i64 kd, .int .i64 p, .int .i64 j, .int .i64 0] 96
  have hb : (eg != 0) = true := by rw [bne_iff_ne]; exact he
  have hb2 : (eg == 0) = false := by rw [beq_eq_false_iff_ne]; exact he
  clear fields get hr
  have cU := jU.cell
  go_enter Tryz.func47, Tryz.ntmps47
  go_wp2_with fail
  refine HF.out.mono ?_
  rintro e w1 ⟨rfl, o2, hS1, hs1⟩
  have jU1 := jU.stp hs1 (by rw [hbx]; exact HB.out)
  clear cU
  have cU := jU1.cell
  go_wp2_with fail
  refine (HG.out _ o2 hS1).mono ?_
  rintro e w2 ⟨rfl, hb2⟩
  go_wp2_with fail
  go_ret
  exact ⟨rfl, o2, hS1.below hb2, hS0.trans ((Stp.of_below (balloc (bsame w) _)).trans (hs1.trans (Stp.of_below hb2)))⟩
def Stt.getR (S : Stt) (i : Nat) (x : Tx) (p j : Nat) : Res :=
  if (S.fieldsR i x p).2 ≠ 0 then ⟨(S.fieldsR i x p).1, 0, (S.fieldsR i x p).2⟩ else match (lk S.H.cur p).bind (·.ptrs[j]?) with
  | some n => ⟨(S.fieldsR i x p).1, n, 0⟩
  | none => ⟨(S.fieldsR i x p).1, 0, 71⟩
set_option maxRecDepth 100000 in
theorem sget_any (h0 : StIn w o y S) (hP : Pre S i x) {p : Nat} (hp : Plc S p) (j : Nat) :
    Calls Tryz.prog 20 #[ptr y.sb, .int .i64 i, .int .i64 p, .int .i64 j] w fun e w' => e = .returned (.tuple #[.int .i64 ((S.getR i x p j).fin i).v, .int .i64 ((S.getR i x p j).fin i).e]) ∧ ∃ o', StIn w' o' y ((S.getR i x p j).fin i).S ∧ Stp (stTag y) o o' w w' := by
  have hmf : ∀ (fn : Fn) (first cap : Array Value) (w : World), (Instr.makeFunc fn first cap).run Tryz.prog w = .ok (.func fn first cap) w := fun _ _ _ _ => rfl
  obtain ⟨o1, ho1⟩ : ∃ o1, o1 = ext o w.heap.size (y.l.id + 1, 0) := ⟨_, rfl⟩
  have h := h0.retag (o' := o1) fun b hb => by rw [ho1]; exact ext_lt hb
  have hS0 : Stp (stTag y) o o1 w w := by rw [ho1]; exact (Stp.refl _ o w).ext _ _ (Nat.le_refl _)
  have hbx : ∀ b, w.heap.size ≤ b → o1 b = (y.l.id + 1, 0) := fun b hb => by rw [ho1]; exact ext_ge hb
  clear ho1 h0
  obtain ⟨W, hW⟩ : ∃ W : World, W = (((w.alloc (.cells #[ptr y.sb] 23)).alloc (.cells #[.int .i64 p] 3)).alloc (.cells #[.int .i64 j] 3)).alloc (.cells #[.func (.func 59) #[] #[]] 111) := ⟨_, rfl⟩
  have hbW : Below w.heap.size w W := by rw [hW]; exact balloc (balloc (balloc (balloc (bsame w) _) _) _) _
  have j1 : Blk W w.heap.size #[ptr y.sb] 23 := by rw [hW]; exact (((Blk.new w _ _).alloc _).alloc _).alloc _
  have j2 : Blk W (w.heap.size + 1) #[.int .i64 p] 3 := by rw [hW]; exact ((Blk.new_at _ _ _ _ _ (by simp) rfl).alloc _).alloc _
  have j4 : Blk W (w.heap.size + 1 + 1) #[.int .i64 j] 3 := by rw [hW]; exact (Blk.new_at _ _ _ _ _ (by simp) rfl).alloc _
  have j3 : Blk W (w.heap.size + 1 + 1 + 1) #[.func (.func 59) #[] #[]] 111 := by rw [hW]; exact Blk.new_at _ _ _ _ _ (by simp) rfl
  have hab : isAb (S.getR i x p j).e = true → AbOk (S.getR i x p j).S i := fun ha => by
    unfold Stt.getR at ha ⊢
    split at ha
    · rename_i hne
      rw [if_pos hne]
      have := fieldsR_ab hp hP.r1 ha
      show AbOk (S.fieldsR i x p).1 i
      rw [this]; exact hP.ab
    · split at ha <;> simp [isAb] at ha
  have HD := Lib.hid (deed_any 110 [ptr w.heap.size, ptr (w.heap.size + 1), ptr (w.heap.size + 1 + 1 + 1), ptr (w.heap.size + 1 + 1)] (h.below hbW) hP.ok hP.hx hP.live eg_field1_num (S.getR i x p j) hab
    (fun w1 o2 hb he2 hS => by
      have a1 := j1.below hb j1.lt
      have a2 := j2.below hb j2.lt
      have a3 := j3.below hb j3.lt
      have a4 := j4.below hb j4.lt
      have tg : ∀ b, w.heap.size ≤ b → b < W.heap.size → o2 b = (y.l.id + 1, 0) := fun b hb1 hb2 => (he2 _ hb2).trans (hbx _ hb1)
      unfold Stt.getR
      by_cases hne : (S.fieldsR i x p).2 = 0
      · rw [if_neg (by simpa using hne)]
        obtain ⟨ob, hp0, hob, hc, hfe, he⟩ := fieldsR_ok hp hne
        rw [hob, Option.bind_some, he]
        have fin : ∀ v err : Int, (∀ w' o', StIn w' o' y { S with txs := S.txs.set i (x.read p) } → Calls Tryz.prog 59 #[ptr y.l.h, .int .i64 p, .int .i64 j] w' fun e w'' => e = .returned (.tuple #[.int .i64 v, .int .i64 err]) ∧ Below w'.heap.size w' w'') →
            Calls Tryz.prog 110 (ptr (y.xb i) :: [ptr w.heap.size, ptr (w.heap.size + 1), ptr (w.heap.size + 1 + 1 + 1), ptr (w.heap.size + 1 + 1)]).toArray w1 fun e w' => e = .returned (.tuple #[.int .i64 v, .int .i64 err]) ∧ ∃ o', StIn w' o' y (S.tx i (x.read p)) ∧ Stp (stTag y) o2 o' w1 w' := fun v err hg => by
          refine (field1_ptr hS hP.ok hP.hx hob (hP.secs p ob hob) hc hp0 hfe j v err hg a1 a2 a3 a4 (tg _ (Nat.le_refl _) j1.lt) (tg _ (by omega) j2.lt) (tg _ (by omega) j3.lt) (tg _ (by omega) j4.lt)).mono ?_
          rintro e w' ⟨rfl, o', h1, h2⟩
          exact ⟨rfl, o', h1, h2.mono fun _ => stTag_tx⟩
        cases hv : ob.ptrs[j]? with
        | some v =>
          refine fin v 0 fun w' o' hS' => ?_
          obtain ⟨vc, vo, vw, vf, f, hh⟩ := hS'.hp
          exact hptr_in hh hP.ok.F.ok hP.ok.F.mov hob j v hv
        | none =>
          refine fin 0 71 fun w' o' hS' => ?_
          obtain ⟨vc, vo, vw, vf, f, hh⟩ := hS'.hp
          have ho := ok_of_lk hP.ok hob
          exact hptr_out hh hP.ok.F.ok hob j (by have := List.getElem?_eq_none_iff.1 hv; rw [ho.lp] at this; exact this)
      · rw [if_pos (by simpa using hne)]
        refine (field1_err p (S.fieldsR i x p).2 hne (S.fieldsR i x p).1 (fields_any hS hP.ok hP.hx hP.secs hp) a1 a2).mono ?_
        rintro e w' ⟨rfl, o', h1, h2⟩
        exact ⟨rfl, o', h1, h2.mono fun _ => stTag_tx⟩))
  have HS := Lib.hid (hS0.trans (Stp.of_below hbW))
  generalize Res.fin (S.getR i x p j) i = R at *
  clear h hbx hS0 hbW j1 j2 j3 j4 hab hP hp
  have HF := Lib.hid (show Calls Tryz.prog 58 #[ptr y.sb, .int .i64 i, .int .i64 p, .int .i64 j, .func (.func 59) #[] #[]] w fun e w' => e = .returned (.tuple #[.int .i64 R.v, .int .i64 R.e]) ∧ ∃ o', StIn w' o' y R.S ∧ Stp (stTag y) o o' w w' from by
    go_enter Tryz.func58, Tryz.ntmps58
    go_wp2_with fail
    rw [← hW]
    refine HD.out.mono ?_
    rintro e w2 ⟨rfl, o2, hS2, hs2⟩
    go_wp2_with fail
    go_ret2
    exact ⟨rfl, o2, hS2, HS.out.trans hs2⟩)
  clear HD hW HS
  go_enter Tryz.func20, Tryz.ntmps20
  go_wp2_with fail
  refine HF.out.mono ?_
  rintro e w2 ⟨rfl, o2, hS2, hs2⟩
  go_wp2_with fail
  go_ret2
  exact ⟨rfl, o2, hS2, hs2⟩
end
end Go.Proofs.YtemohiainfllcaaGreat
