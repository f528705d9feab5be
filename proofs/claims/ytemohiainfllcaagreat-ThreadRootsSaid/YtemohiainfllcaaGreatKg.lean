/- A store's public Free, Commit and Abort. -/
import Derived.Test.YtemohiainfllcaaGreatKf
namespace Go.Proofs.YtemohiainfllcaaGreat
open Go.RowKit Hp
attribute [local go_sem ↓] Go.wp_at_zero Go.wp_at_succ
theorem lookR_ok {S : Stt} {i : Nat} {x : Tx} {p : Nat} (hp : Plc S p) (h : (S.lookR i x p).2 = 0) :
    ∃ ob, p ≠ 0 ∧ lk S.H.cur p = some ob ∧ clashB i x.start ob.second = false ∧ noteB x.log.reads p x.log.mr = true ∧ ob.freed = false ∧ S.lookR i x p = (S.tx i (x.read p), 0) := by
  by_cases h0 : p = 0
  · subst h0; unfold Stt.lookR at h; simp at h
  · obtain ⟨ob, hob⟩ := Option.isSome_iff_exists.1 (hp.resolve_left h0)
    cases hc : clashB i x.start ob.second with
    | true =>
      have e1 : S.lookR i x p = (S, 141) := by unfold Stt.lookR; rw [if_neg h0, hob]; simp [hc]
      rw [e1] at h; simp at h
    | false =>
      have e1 : S.lookR i x p = (S.tx i (x.read p), if noteB x.log.reads p x.log.mr then (if ob.freed then 142 else 0) else 130) := by unfold Stt.lookR; rw [if_neg h0, hob]; simp only; rw [if_neg (by rw [hc]; simp)]
      rw [e1] at h
      simp only at h
      cases hn : noteB x.log.reads p x.log.mr with
      | false => rw [hn] at h; simp at h
      | true =>
        cases hf : ob.freed with
        | true => rw [hn, hf] at h; simp at h
        | false => exact ⟨ob, h0, hob, hc, rfl, hf, by rw [e1, hn, hf]; rfl⟩
theorem lookR_ab {S : Stt} {i : Nat} {x : Tx} {p : Nat} (hp : Plc S p) (hr : x.log.reads.length < x.log.mr) (h : isAb (S.lookR i x p).2 = true) : S.lookR i x p = (S, 141) := by
  by_cases h0 : p = 0
  · subst h0; unfold Stt.lookR isAb at h; simp at h
  · obtain ⟨ob, hob⟩ := Option.isSome_iff_exists.1 (hp.resolve_left h0)
    cases hc : clashB i x.start ob.second with
    | true => unfold Stt.lookR; rw [if_neg h0, hob]; simp [hc]
    | false =>
      have e1 : S.lookR i x p = (S.tx i (x.read p), if noteB x.log.reads p x.log.mr then (if ob.freed then 142 else 0) else 130) := by unfold Stt.lookR; rw [if_neg h0, hob]; simp only; rw [if_neg (by rw [hc]; simp)]
      rw [e1, noteB_room hr] at h
      have hno : ∀ a, isAb (if true = true then (if a = true then 142 else 0) else 130) = true → False := by decide
      exact (hno _ h).elim
section
variable {w w' : World} {o o' : Own} {y : SLay} {S : Stt} {x : Tx} {i : Nat}
theorem free1_err (p : Nat) (el : Int) (he : el ≠ 0) (S1 : Stt) (look : Calls Tryz.prog 61 #[ptr y.sb, ptr (y.xb i), .int .i64 p] w fun e w' => e = .returned (.tuple #[shpV ⟨0, 0, false, false⟩, .int .i64 el]) ∧ ∃ o', StIn w' o' y S1 ∧ Stp (txTag y i) o o' w w')
    {b1 b2 : Nat} (j1 : Blk w b1 #[ptr y.sb] 23) (j2 : Blk w b2 #[.int .i64 p] 3) :
    Calls Tryz.prog 60 #[ptr (y.xb i), ptr b1, ptr b2] w fun e w' => e = .returned (.tuple #[.int .i64 0, .int .i64 el]) ∧ ∃ o', StIn w' o' y S1 ∧ Stp (txTag y i) o o' w w' := by
  have HL := Lib.hid look
  have c1 := j1.cell
  have c2 := j2.cell
  have hb : (el != 0) = true := by rw [bne_iff_ne]; exact he
  have hb2 : (el == 0) = false := by rw [beq_eq_false_iff_ne]; exact he
  clear look
  go_enter Tryz.func60, Tryz.ntmps60
  go_wp2_with fail
  refine HL.out.mono ?_
  rintro e w1 ⟨rfl, o1, hS1, hs1⟩
  go_wp2_with fail
  go_ret2
  exact ⟨rfl, o1, hS1.alloc _, hs1.alloc _⟩
def Stt.freeR (S : Stt) (i : Nat) (x : Tx) (p : Nat) : Res :=
  if (S.lookR i x p).2 ≠ 0 then ⟨(S.lookR i x p).1, 0, (S.lookR i x p).2⟩ else match lk S.H.cur p with
  | none => ⟨(S.lookR i x p).1, 0, 0⟩
  | some ob => ⟨(S.tx i (((x.read p).hold1 p ob).undo ⟨3, p, 0, 0⟩)).at' p ((ob.held i).setFreed true), 0, 0⟩
theorem freeR_ab (hP : Pre S i x) {p : Nat} (hp : Plc S p) (ha : isAb (S.freeR i x p).e = true) : S.freeR i x p = ⟨S, 0, 141⟩ := by
  unfold Stt.freeR at ha ⊢
  split at ha
  · rename_i hne
    have := lookR_ab hp hP.r1 ha
    rw [if_pos hne, this]
  · split at ha <;> simp [isAb] at ha
theorem freeR_v (p : Nat) : (S.freeR i x p).v = 0 := by
  unfold Stt.freeR; repeat' split
  all_goals rfl
theorem sfree_any (h0 : StIn w o y S) (hP : Pre S i x) {p : Nat} (hp : Plc S p) :
    Calls Tryz.prog 23 #[ptr y.sb, .int .i64 i, .int .i64 p] w fun e w' => e = .returned (.int .i64 ((S.freeR i x p).fin i).e) ∧ ∃ o', StIn w' o' y ((S.freeR i x p).fin i).S ∧ Stp (stTag y) o o' w w' := by
  have hmf : ∀ (fn : Fn) (first cap : Array Value) (w : World), (Instr.makeFunc fn first cap).run Tryz.prog w = .ok (.func fn first cap) w := fun _ _ _ _ => rfl
  obtain ⟨o1, ho1⟩ : ∃ o1, o1 = ext o w.heap.size (y.l.id + 1, 0) := ⟨_, rfl⟩
  have h := h0.retag (o' := o1) fun b hb => by rw [ho1]; exact ext_lt hb
  have hS0 : Stp (stTag y) o o1 w w := by rw [ho1]; exact (Stp.refl _ o w).ext _ _ (Nat.le_refl _)
  have hbx : ∀ b, w.heap.size ≤ b → o1 b = (y.l.id + 1, 0) := fun b hb => by rw [ho1]; exact ext_ge hb
  clear ho1 h0
  obtain ⟨W, hW⟩ : ∃ W : World, W = (w.alloc (.cells #[ptr y.sb] 23)).alloc (.cells #[.int .i64 p] 3) := ⟨_, rfl⟩
  have hbW : Below w.heap.size w W := by rw [hW]; exact balloc (balloc (bsame w) _) _
  have j1 : Blk W w.heap.size #[ptr y.sb] 23 := by rw [hW]; exact (Blk.new w _ _).alloc _
  have j2 : Blk W (w.heap.size + 1) #[.int .i64 p] 3 := by rw [hW]; exact Blk.new_at _ _ _ _ _ (by simp) rfl
  have HD := Lib.hid (deed_any 60 [ptr w.heap.size, ptr (w.heap.size + 1)] (h.below hbW) hP.ok hP.hx hP.live eg_free1 (S.freeR i x p) (fun ha => by rw [freeR_ab hP hp ha]; exact hP.ab)
    (fun w1 o2 hb he2 hS => by
      rw [freeR_v]
      have a1 := j1.below hb j1.lt
      have a2 := j2.below hb j2.lt
      have tg : ∀ b, w.heap.size ≤ b → b < W.heap.size → o2 b = (y.l.id + 1, 0) := fun b hb1 hb2 => (he2 _ hb2).trans (hbx _ hb1)
      by_cases hne : (S.lookR i x p).2 = 0
      · obtain ⟨ob, hp0, hob, hc, hnb, hf, he⟩ := lookR_ok hp hne
        have e1 : S.freeR i x p = ⟨(S.tx i (((x.read p).hold1 p ob).undo ⟨3, p, 0, 0⟩)).at' p ((ob.held i).setFreed true), 0, 0⟩ := by unfold Stt.freeR; rw [he]; simp only [ne_eq, not_true_eq_false, if_false, hob]
        rw [e1]
        refine (free1_new hS hP.ok hP.hx hob (hP.secs p ob hob) hc hp0 hnb hf a1 a2 (tg _ (Nat.le_refl _) j1.lt) (tg _ (by omega) j2.lt) ((S.tx i ((x.read p).hold1 p ob)).at' p (ob.held i)) ((S.tx i (((x.read p).hold1 p ob).undo ⟨3, p, 0, 0⟩)).at' p (ob.held i)) ((S.tx i (((x.read p).hold1 p ob).undo ⟨3, p, 0, 0⟩)).at' p ((ob.held i).setFreed true)) _ (tx_at S hP.lt _) (hold_step hP hob) (fun w1 o1 h1 => undo_step hP hob ⟨3, p, 0, 0⟩ w1 o1 h1) (fun w1 o1 h1 => by
          refine (setfreed_st h1 (hP.ok3 hob _) (lk_held hob) true).mono ?_
          rintro e w' ⟨rfl, h2, h3⟩
          rw [Stt.at_at] at h2
          exact ⟨rfl, o1, h2, h3.mono fun _ => opTag_hp⟩)).mono ?_
        rintro e w' ⟨rfl, o', h1, h2⟩
        exact ⟨rfl, o', h1, h2.mono fun _ => stTag_op⟩
      · have e1 : S.freeR i x p = ⟨(S.lookR i x p).1, 0, (S.lookR i x p).2⟩ := by unfold Stt.freeR; rw [if_pos hne]
        rw [e1]
        have hlk := look_any hS hP.ok hP.hx hP.secs hp
        rw [if_neg hne] at hlk
        refine (free1_err p _ hne _ hlk a1 a2).mono ?_
        rintro e w' ⟨rfl, o', h1, h2⟩
        exact ⟨rfl, o', h1, h2.mono fun _ => stTag_tx⟩))
  have HS := Lib.hid (hS0.trans (Stp.of_below hbW))
  generalize Res.fin (S.freeR i x p) i = R at *
  clear h hbx hS0 hbW j1 j2 hP hp
  go_enter Tryz.func23, Tryz.ntmps23
  go_wp2_with fail
  rw [← hW]
  refine HD.out.mono ?_
  rintro e w2 ⟨rfl, o2, hS2, hs2⟩
  go_wp2_with fail
  go_ret
  exact ⟨rfl, o2, hS2, HS.out.trans hs2⟩
/-! ### Commit -/
def Stt.readsClash (S : Stt) (i : Nat) (x : Tx) : Bool := x.log.reads.any fun p => match lk S.H.cur p with | some ob => clashB i x.start ob.second | none => false
def Stt.commitR (S : Stt) (i : Nat) (x : Tx) : Res :=
  if x.log.holds = [] ∧ S.holder ≠ (i : Int) then ⟨S.tx i x.ended, 0, 0⟩ else if S.readsClash i x = true then ⟨S, 0, 141⟩ else ⟨S.committed i x, ((S.now + 1 : Nat) : Int), 0⟩
theorem scommit_any (h0 : StIn w o y S) (hP : Pre S i x) (hR : ∀ p ∈ x.log.reads, (lk S.H.cur p).isSome = true) (hm : S.now < S.most) :
    Calls Tryz.prog 18 #[ptr y.sb, .int .i64 i] w fun e w' => e = .returned (.tuple #[.int .i64 ((S.commitR i x).fin i).v, .int .i64 ((S.commitR i x).fin i).e]) ∧ ∃ o', StIn w' o' y ((S.commitR i x).fin i).S ∧ Stp (stTag y) o o' w w' := by
  have hmf : ∀ (fn : Fn) (first cap : Array Value) (w : World), (Instr.makeFunc fn first cap).run Tryz.prog w = .ok (.func fn first cap) w := fun _ _ _ _ => rfl
  obtain ⟨o1, ho1⟩ : ∃ o1, o1 = ext o w.heap.size (y.l.id + 1, 0) := ⟨_, rfl⟩
  have h := h0.retag (o' := o1) fun b hb => by rw [ho1]; exact ext_lt hb
  have hS0 : Stp (stTag y) o o1 w w := by rw [ho1]; exact (Stp.refl _ o w).ext _ _ (Nat.le_refl _)
  have hbx : o1 w.heap.size = (y.l.id + 1, 0) := by rw [ho1]; exact ext_ge (Nat.le_refl _)
  clear ho1 h0
  have j1 := Blk.new w #[ptr y.sb] 23
  have hR2 : ∀ p ∈ x.log.reads, ∃ ob, lk S.H.cur p = some ob ∧ SecOk ob.second := fun p hp => by
    obtain ⟨ob, hob⟩ := Option.isSome_iff_exists.1 (hR p hp)
    exact ⟨ob, hob, hP.secs p ob hob⟩
  have hab : isAb (S.commitR i x).e = true → AbOk (S.commitR i x).S i := fun ha => by
    unfold Stt.commitR at ha ⊢
    split at ha
    · simp [isAb] at ha
    · rename_i hne
      rw [if_neg hne]
      split at ha
      · rename_i hc; rw [if_pos hc]; exact hP.ab
      · simp [isAb] at ha
  have HD := Lib.hid (deed_any 51 [ptr w.heap.size] (h.below (balloc (bsame w) (.cells #[ptr y.sb] 23))) hP.ok hP.hx hP.live eg_commit1 (S.commitR i x) hab
    (fun w1 o2 hb he2 hS => by
      have a1 := j1.below hb j1.lt
      have t1 : o2 w.heap.size = (y.l.id + 1, 0) := (he2 _ j1.lt).trans hbx
      unfold Stt.commitR
      by_cases hne : x.log.holds = [] ∧ S.holder ≠ (i : Int)
      · rw [if_pos hne]
        refine (commit1_read hS hP.ok hP.hx hne.1 hne.2 a1).mono ?_
        rintro e w' ⟨rfl, o', h1, h2⟩
        exact ⟨rfl, o', h1, h2.mono fun _ => stTag_tx⟩
      · rw [if_neg hne]
        have hw : x.log.holds = [] → S.holder = (i : Int) := fun hh => by
          by_cases e : S.holder = (i : Int)
          · exact e
          · exact absurd ⟨hh, e⟩ hne
        rcases clash_find (i := i) hR2 with hall | hex
        · have hc : ¬ S.readsClash i x = true := by
            unfold Stt.readsClash
            rw [List.any_eq_true]
            rintro ⟨p, hp, hc⟩
            obtain ⟨ob, hob, _, hcl⟩ := hall p hp
            rw [hob] at hc
            simp only at hc
            rw [hcl] at hc; cases hc
          rw [if_neg hc]
          refine (commit1_write hS hP.ok hP.hx hw hm hall (fun z hz => (hP.ab.ho x hP.hx z hz).1) a1 t1).mono ?_
          rintro e w' ⟨rfl, o', h1, h2⟩
          exact ⟨rfl, o', h1, h2.mono fun _ => stTag_cm⟩
        · have hc : S.readsClash i x = true := by
            obtain ⟨j, p, ob, a1, a2, a3, a4, a5⟩ := hex
            unfold Stt.readsClash
            rw [List.any_eq_true]
            exact ⟨p, List.mem_of_getElem? a1, by rw [a2]; exact a4⟩
          rw [if_pos hc]
          refine (commit1_clash hS hP.ok hP.hx hw hex a1).mono ?_
          rintro e w' ⟨rfl, hb'⟩
          exact ⟨rfl, o2, hS.below hb', Stp.of_below hb'⟩))
  have HS := Lib.hid (hS0.trans (Stp.of_below (balloc (bsame w) (.cells #[ptr y.sb] 23))))
  generalize Res.fin (S.commitR i x) i = R at *
  clear h hbx hS0 j1 hP hR hR2 hab hm
  go_enter Tryz.func18, Tryz.ntmps18
  go_wp2_with fail
  refine HD.out.mono ?_
  rintro e w2 ⟨rfl, o2, hS2, hs2⟩
  go_wp2_with fail
  go_ret2
  exact ⟨rfl, o2, hS2, HS.out.trans hs2⟩
/-! ### Abort -/
theorem sabort_any (h : StIn w o y S) (hk : S.ok) (hx : S.txs[i]? = some x) (ha : AbOk S i) :
    Calls Tryz.prog 25 #[ptr y.sb, .int .i64 i] w fun e w' => e = .returned (.int .i64 (if x.live then 0 else 140)) ∧ ∃ o', StIn w' o' y (if x.live then S.abort i else S) ∧ Stp (stTag y) o o' w w' := by
  have HT := Lib.hid (running_in h hk hx)
  have HA := Lib.hid (abort_any h ha)
  have H := Lib.hid h
  clear h hk hx ha
  cases hl : x.live
  · rw [hl] at HT
    simp only [if_false, Bool.false_eq_true] at HT ⊢
    go_enter Tryz.func25, Tryz.ntmps25
    go_wp2_with fail
    refine HT.out.mono ?_
    rintro e w1 ⟨rfl, rfl⟩
    go_wp2_with fail
    go_ret
    exact ⟨rfl, o, H.out, Stp.refl _ _ _⟩
  · rw [hl] at HT
    simp only [if_true] at HT ⊢
    go_enter Tryz.func25, Tryz.ntmps25
    go_wp2_with fail
    refine HT.out.mono ?_
    rintro e w1 ⟨rfl, rfl⟩
    go_wp2_with fail
    refine HA.out.mono ?_
    rintro e w2 ⟨rfl, o2, hS2, hs2⟩
    go_wp2_with fail
    go_ret
    exact ⟨rfl, o2, hS2, hs2.mono fun _ => stTag_ab⟩
end
end Go.Proofs.YtemohiainfllcaaGreat
