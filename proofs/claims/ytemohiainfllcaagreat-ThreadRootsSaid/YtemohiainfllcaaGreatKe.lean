/- A store's public Write, Put and Free. -/
import Derived.Test.YtemohiainfllcaaGreatKd
namespace Go.Proofs.YtemohiainfllcaaGreat
open Go.RowKit Hp
attribute [local go_sem ↓] Go.wp_at_zero Go.wp_at_succ
section
variable {w w' : World} {o o' : Own} {y : SLay} {S : Stt} {x : Tx} {i : Nat}
theorem Pre.lt (hP : Pre S i x) : i < S.txs.length := (List.getElem?_eq_some_iff.1 hP.hx).1
theorem Pre.i8 (hP : Pre S i x) : i ≤ 8 := by have := hP.lt; have := hP.ok.t8; omega
theorem Pre.lg (hP : Pre S i x) : x.log.ok := hP.ok.lg x (List.mem_of_getElem? hP.hx)
theorem Pre.st (hP : Pre S i x) : x.start ≤ S.now := hP.ok.st x (List.mem_of_getElem? hP.hx)
theorem tx_at (S : Stt) {i : Nat} (hi : i < S.txs.length) (x : Tx) : (S.tx i x).txs[i]? = some x := by simp [hi]
theorem Pre.ok1 (hP : Pre S i x) (p : Nat) : (S.tx i (x.read p)).ok := Stt.ok_tx hP.ok (Tx.read_ok hP.lg p) hP.st
theorem Pre.ok2 (hP : Pre S i x) {p : Nat} {ob : Ob} (hob : lk S.H.cur p = some ob) : ((S.tx i ((x.read p).hold1 p ob)).at' p (ob.held i)).ok := by
  have h1 : (S.tx i ((x.read p).hold1 p ob)).ok := Stt.ok_tx hP.ok (Tx.hold1_ok (Tx.read_ok hP.lg p) p ob hP.r3) (by rw [(Tx.hold1_undos _ _ _).2.2]; exact hP.st)
  exact Stt.ok_at h1 hob (Ob.held_ok (ok_of_lk hP.ok hob) hP.i8) (size_of_shp (Ob.held_shp _ _))
theorem Pre.ok3 (hP : Pre S i x) {p : Nat} {ob : Ob} (hob : lk S.H.cur p = some ob) (u : Un) : ((S.tx i (((x.read p).hold1 p ob).undo u)).at' p (ob.held i)).ok := by
  have hu := Tx.hold1_undos (x.read p) p ob
  have h1 : (S.tx i (((x.read p).hold1 p ob).undo u)).ok := Stt.ok_tx hP.ok (Tx.undo_ok (Tx.hold1_ok (Tx.read_ok hP.lg p) p ob hP.r3) u (by rw [hu.1, hu.2.1]; exact hP.r4)) (by show ((x.read p).hold1 p ob).start ≤ S.now; rw [hu.2.2]; exact hP.st)
  exact Stt.ok_at h1 hob (Ob.held_ok (ok_of_lk hP.ok hob) hP.i8) (size_of_shp (Ob.held_shp _ _))
theorem lk_held {S : Stt} {x : Tx} {i p : Nat} {ob a : Ob} (hob : lk S.H.cur p = some ob) : lk ((S.tx i x).at' p a).H.cur p = some a := by
  show lk (up S.H.cur p a) p = _
  rw [lk_up, if_pos rfl, hob]; rfl
theorem hold_step (hP : Pre S i x) {p : Nat} {ob : Ob} (hob : lk S.H.cur p = some ob) (w1 : World) (o1 : Own) (h : StIn w1 o1 y (S.tx i (x.read p))) :
    Calls Tryz.prog 62 #[ptr y.sb, ptr (y.xb i), .int .i64 p] w1 fun e w' => e = .returned (.bool true) ∧ ∃ o', StIn w' o' y ((S.tx i ((x.read p).hold1 p ob)).at' p (ob.held i)) ∧ Stp (opTag y i) o1 o' w1 w' := by
  refine (hold_any h (hP.ok1 p) (tx_at S hP.lt _) hob (hP.secs p ob hob) (fun hne z hz e => hne (hP.held z hz ob (by rw [e]; exact hob))) hP.r3).mono ?_
  rintro e w' ⟨rfl, o', h1, h2⟩
  rw [Stt.tx_tx] at h1
  exact ⟨rfl, o', h1, h2⟩
theorem undo_step (hP : Pre S i x) {p : Nat} {ob : Ob} (hob : lk S.H.cur p = some ob) (u : Un) (w1 : World) (o1 : Own) (h : StIn w1 o1 y ((S.tx i ((x.read p).hold1 p ob)).at' p (ob.held i))) :
    Calls Tryz.prog 63 #[ptr (y.lb i), unV u] w1 fun e w' => e = .returned (.bool true) ∧ ∃ o', StIn w' o' y ((S.tx i (((x.read p).hold1 p ob).undo u)).at' p (ob.held i)) ∧ Stp (txTag y i) o1 o' w1 w' := by
  have hu := Tx.hold1_undos (x.read p) p ob
  refine (logundo_in h (hP.ok2 hob) (tx_at S hP.lt _) u (by rw [hu.1, hu.2.1]; exact hP.r4)).mono ?_
  rintro e w' ⟨rfl, o', h1, h2⟩
  refine ⟨rfl, o', ?_, h2⟩
  have e1 : ({ (S.tx i ((x.read p).hold1 p ob)).at' p (ob.held i) with txs := ((S.tx i ((x.read p).hold1 p ob)).at' p (ob.held i)).txs.set i (((x.read p).hold1 p ob).undo u) } : Stt) = (S.tx i (((x.read p).hold1 p ob).undo u)).at' p (ob.held i) := by
    simp [List.set_set]
  rw [← e1]; exact h1

def Stt.writeR (S : Stt) (i : Nat) (x : Tx) (p j : Nat) (v : Int) : Res :=
  if (S.fieldsR i x p).2 ≠ 0 then ⟨(S.fieldsR i x p).1, 0, (S.fieldsR i x p).2⟩ else match lk S.H.cur p with
  | none => ⟨(S.fieldsR i x p).1, 0, 0⟩
  | some ob => match ob.nums[j]? with
    | none => ⟨(S.fieldsR i x p).1, 0, 71⟩
    | some old => ⟨(S.tx i (((x.read p).hold1 p ob).undo ⟨2, p, j, old⟩)).at' p ((ob.held i).setNum j v), 0, 0⟩
theorem change_num_any (h : StIn w o y S) (hP : Pre S i x) {p : Nat} (hp : Plc S p) (j : Nat) (v : Int) (hv : -9223372036854775808 ≤ v ∧ v ≤ 9223372036854775807) :
    Calls Tryz.prog 47 #[ptr y.sb, ptr (y.xb i), .agg #[.int .i64 2, .int .i64 p, .int .i64 j, .int .i64 0], .func (.func 48) #[ptr y.l.h] #[], .func (.func 49) #[ptr y.l.h] #[], .int .i64 v] w
      fun e w' => e = .returned (.int .i64 (S.writeR i x p j v).e) ∧ ∃ o', StIn w' o' y (S.writeR i x p j v).S ∧ Stp (opTag y i) o o' w w' := by
  have hfa := fun (w1 : World) (o1 : Own) (h1 : StIn w1 o1 y S) => fields_any h1 hP.ok hP.hx hP.secs hp
  by_cases hne : (S.fieldsR i x p).2 = 0
  · obtain ⟨ob, hp0, hob, hc, hfe, he⟩ := fieldsR_ok hp hne
    rw [he] at hfa
    have ho := ok_of_lk hP.ok hob
    cases hv0 : ob.nums[j]? with
    | none =>
      have e1 : S.writeR i x p j v = ⟨S.tx i (x.read p), 0, 71⟩ := by unfold Stt.writeR; rw [he]; simp only [ne_eq, not_true_eq_false, if_false, hob, hv0]
      rw [e1]
      refine (change_gerr_num 2 p j v 71 (by omega) _ _ h hfa fun w1 o1 h1 => ?_).mono ?_
      · obtain ⟨vc, vo, vw, vf, f, hh⟩ := h1.hp
        exact hnum_out hh hP.ok.F.ok hob j (by have := List.getElem?_eq_none_iff.1 hv0; rw [ho.ln] at this; exact this)
      · rintro e w' ⟨rfl, o', h1, h2⟩
        exact ⟨rfl, o', h1, h2.mono fun _ => opTag_tx⟩
    | some old =>
      have e1 : S.writeR i x p j v = ⟨(S.tx i (((x.read p).hold1 p ob).undo ⟨2, p, j, old⟩)).at' p ((ob.held i).setNum j v), 0, 0⟩ := by unfold Stt.writeR; rw [he]; simp only [ne_eq, not_true_eq_false, if_false, hob, hv0]
      rw [e1]
      have hj : j < ob.nums.length := (List.getElem?_eq_some_iff.1 hv0).1
      rw [ho.ln] at hj
      exact change_num 2 p j v old (S.tx i (x.read p)) ((S.tx i ((x.read p).hold1 p ob)).at' p (ob.held i)) ((S.tx i (((x.read p).hold1 p ob).undo ⟨2, p, j, old⟩)).at' p (ob.held i)) _ _ (tx_at S hP.lt _) h hfa (fun w1 o1 h1 => num_st h1 (hP.ok1 p) hob j old hv0) (hold_step hP hob) (fun w1 o1 h1 => undo_step hP hob ⟨2, p, j, old⟩ w1 o1 h1)
        (fun w1 o1 h1 => by
          refine (setnum_st h1 (hP.ok3 hob _) (lk_held hob) j v (by rw [Ob.held_shp]; exact hj) hv).mono ?_
          rintro e w' ⟨rfl, h2, h3⟩
          rw [Stt.at_at] at h2
          exact ⟨rfl, o1, h2, h3.mono fun _ => opTag_hp⟩)
  · have e1 : S.writeR i x p j v = ⟨(S.fieldsR i x p).1, 0, (S.fieldsR i x p).2⟩ := by unfold Stt.writeR; rw [if_pos hne]
    rw [e1]
    refine (change_ferr 2 p j v _ hne _ _ _ h hfa).mono ?_
    rintro e w' ⟨rfl, o', h1, h2⟩
    exact ⟨rfl, o', h1, h2.mono fun _ => opTag_tx⟩
theorem writeR_ab (hP : Pre S i x) {p : Nat} (hp : Plc S p) (j : Nat) (v : Int) (ha : isAb (S.writeR i x p j v).e = true) : S.writeR i x p j v = ⟨S, 0, 141⟩ := by
  unfold Stt.writeR at ha ⊢
  split at ha
  · rename_i hne
    have := fieldsR_ab hp hP.r1 ha
    rw [if_pos hne, this]
  · split at ha
    · simp [isAb] at ha
    · split at ha <;> simp [isAb] at ha
theorem writeR_v (j : Nat) (v : Int) (p : Nat) : (S.writeR i x p j v).v = 0 := by
  unfold Stt.writeR; repeat' split
  all_goals rfl

def Stt.putR (S : Stt) (i : Nat) (x : Tx) (p j : Nat) (v : Nat) : Res :=
  if (S.fieldsR i x p).2 ≠ 0 then ⟨(S.fieldsR i x p).1, 0, (S.fieldsR i x p).2⟩ else match lk S.H.cur p with
  | none => ⟨(S.fieldsR i x p).1, 0, 0⟩
  | some ob => match ob.ptrs[j]? with
    | none => ⟨(S.fieldsR i x p).1, 0, 71⟩
    | some old => ⟨(S.tx i (((x.read p).hold1 p ob).undo ⟨1, p, j, old⟩)).at' p ((ob.held i).setPtr j v), 0, 0⟩
theorem change_ptr_any (h : StIn w o y S) (hP : Pre S i x) {p : Nat} (hp : Plc S p) (j : Nat) (v : Nat) (hv : Plc S v) :
    Calls Tryz.prog 47 #[ptr y.sb, ptr (y.xb i), .agg #[.int .i64 1, .int .i64 p, .int .i64 j, .int .i64 0], .func (.func 59) #[ptr y.l.h] #[], .func (.func 97) #[ptr y.l.h] #[], .int .i64 v] w
      fun e w' => e = .returned (.int .i64 (S.putR i x p j v).e) ∧ ∃ o', StIn w' o' y (S.putR i x p j v).S ∧ Stp (opTag y i) o o' w w' := by
  have hfa := fun (w1 : World) (o1 : Own) (h1 : StIn w1 o1 y S) => fields_any h1 hP.ok hP.hx hP.secs hp
  by_cases hne : (S.fieldsR i x p).2 = 0
  · obtain ⟨ob, hp0, hob, hc, hfe, he⟩ := fieldsR_ok hp hne
    rw [he] at hfa
    have ho := ok_of_lk hP.ok hob
    cases hv0 : ob.ptrs[j]? with
    | none =>
      have e1 : S.putR i x p j v = ⟨S.tx i (x.read p), 0, 71⟩ := by unfold Stt.putR; rw [he]; simp only [ne_eq, not_true_eq_false, if_false, hob, hv0]
      rw [e1]
      refine (change_gerr_ptr 1 p j v 71 (by omega) _ _ h hfa fun w1 o1 h1 => ?_).mono ?_
      · obtain ⟨vc, vo, vw, vf, f, hh⟩ := h1.hp
        exact hptr_out hh hP.ok.F.ok hob j (by have := List.getElem?_eq_none_iff.1 hv0; rw [ho.lp] at this; exact this)
      · rintro e w' ⟨rfl, o', h1, h2⟩
        exact ⟨rfl, o', h1, h2.mono fun _ => opTag_tx⟩
    | some old =>
      have e1 : S.putR i x p j v = ⟨(S.tx i (((x.read p).hold1 p ob).undo ⟨1, p, j, old⟩)).at' p ((ob.held i).setPtr j v), 0, 0⟩ := by unfold Stt.putR; rw [he]; simp only [ne_eq, not_true_eq_false, if_false, hob, hv0]
      rw [e1]
      have hj : j < ob.ptrs.length := (List.getElem?_eq_some_iff.1 hv0).1
      rw [ho.lp] at hj
      exact change_ptr 1 p j v old (S.tx i (x.read p)) ((S.tx i ((x.read p).hold1 p ob)).at' p (ob.held i)) ((S.tx i (((x.read p).hold1 p ob).undo ⟨1, p, j, old⟩)).at' p (ob.held i)) _ _ (tx_at S hP.lt _) h hfa (fun w1 o1 h1 => ptr_st h1 (hP.ok1 p) hob j old hv0) (hold_step hP hob) (fun w1 o1 h1 => undo_step hP hob ⟨1, p, j, old⟩ w1 o1 h1)
        (fun w1 o1 h1 => by
          refine (setptr_st h1 (hP.ok3 hob _) (lk_held hob) j v (by rw [Ob.held_shp]; exact hj) (hv.imp id fun hh => by show (lk (up S.H.cur p (ob.held i)) v).isSome = true; rw [lk_up]; split; (rw [hob]; rfl); exact hh)).mono ?_
          rintro e w' ⟨rfl, h2, h3⟩
          rw [Stt.at_at] at h2
          exact ⟨rfl, o1, h2, h3.mono fun _ => opTag_hp⟩)
  · have e1 : S.putR i x p j v = ⟨(S.fieldsR i x p).1, 0, (S.fieldsR i x p).2⟩ := by unfold Stt.putR; rw [if_pos hne]
    rw [e1]
    refine (change_ferr 1 p j v _ hne _ _ _ h hfa).mono ?_
    rintro e w' ⟨rfl, o', h1, h2⟩
    exact ⟨rfl, o', h1, h2.mono fun _ => opTag_tx⟩
theorem putR_ab (hP : Pre S i x) {p : Nat} (hp : Plc S p) (j : Nat) (v : Nat) (ha : isAb (S.putR i x p j v).e = true) : S.putR i x p j v = ⟨S, 0, 141⟩ := by
  unfold Stt.putR at ha ⊢
  split at ha
  · rename_i hne
    have := fieldsR_ab hp hP.r1 ha
    rw [if_pos hne, this]
  · split at ha
    · simp [isAb] at ha
    · split at ha <;> simp [isAb] at ha
theorem putR_v (j : Nat) (v : Nat) (p : Nat) : (S.putR i x p j v).v = 0 := by
  unfold Stt.putR; repeat' split
  all_goals rfl

/-! ### the public Write -/
theorem swrite_any (h : StIn w o y S) (hP : Pre S i x) {p : Nat} (hp : Plc S p) (j : Nat) (v : Int) (hv : -9223372036854775808 ≤ v ∧ v ≤ 9223372036854775807) :
    Calls Tryz.prog 16 #[ptr y.sb, .int .i64 i, .int .i64 p, .int .i64 j, .int .i64 v] w fun e w' => e = .returned (.int .i64 ((S.writeR i x p j v).fin i).e) ∧ ∃ o', StIn w' o' y ((S.writeR i x p j v).fin i).S ∧ Stp (stTag y) o o' w w' := by
  have hmf : ∀ (fn : Fn) (first cap : Array Value) (w : World), (Instr.makeFunc fn first cap).run Tryz.prog w = .ok (.func fn first cap) w := fun _ _ _ _ => rfl
  obtain ⟨W, hW⟩ : ∃ W : World, W = (((w.alloc (.cells #[ptr y.sb] 23)).alloc (.cells #[.int .i64 p] 3)).alloc (.cells #[.int .i64 j] 3)).alloc (.cells #[.int .i64 v] 3) := ⟨_, rfl⟩
  have hbW : Below w.heap.size w W := by rw [hW]; exact balloc (balloc (balloc (balloc (bsame w) _) _) _) _
  have j1 : Blk W w.heap.size #[ptr y.sb] 23 := by rw [hW]; exact (((Blk.new w _ _).alloc _).alloc _).alloc _
  have j2 : Blk W (w.heap.size + 1) #[.int .i64 p] 3 := by rw [hW]; exact ((Blk.new_at _ _ _ _ _ (by simp) rfl).alloc _).alloc _
  have j3 : Blk W (w.heap.size + 1 + 1) #[.int .i64 j] 3 := by rw [hW]; exact (Blk.new_at _ _ _ _ _ (by simp) rfl).alloc _
  have j4 : Blk W (w.heap.size + 1 + 1 + 1) #[.int .i64 v] 3 := by rw [hW]; exact Blk.new_at _ _ _ _ _ (by simp) rfl
  have HD := Lib.hid (deed_any 46 [ptr (w.heap.size + 1), ptr (w.heap.size + 1 + 1), ptr w.heap.size, ptr (w.heap.size + 1 + 1 + 1)] (h.below hbW) hP.ok hP.hx hP.live eg_write1 (S.writeR i x p j v) (fun ha => by rw [writeR_ab hP hp j v ha]; exact hP.ab)
    (fun w1 o2 hb he2 hS => by
      rw [writeR_v]
      refine (write1_any p j v _ _ hS (fun w2 hb2 => change_num_any (hS.below hb2) hP hp j v hv) (j2.below hb j2.lt) (j3.below hb j3.lt) (j1.below hb j1.lt) (j4.below hb j4.lt)).mono ?_
      rintro e w' ⟨rfl, o', h1, h2⟩
      exact ⟨rfl, o', h1, h2.mono fun _ => stTag_op⟩))
  have HS := Lib.hid (Stp.of_below (T := stTag y) (o := o) hbW)
  generalize Res.fin (S.writeR i x p j v) i = R at *
  clear h hbW j1 j2 j3 j4 hP hp hv
  go_enter Tryz.func16, Tryz.ntmps16
  go_wp2_with fail
  rw [← hW]
  refine HD.out.mono ?_
  rintro e w2 ⟨rfl, o2, hS2, hs2⟩
  go_wp2_with fail
  go_ret
  exact ⟨rfl, o2, hS2, HS.out.trans hs2⟩
end
end Go.Proofs.YtemohiainfllcaaGreat
