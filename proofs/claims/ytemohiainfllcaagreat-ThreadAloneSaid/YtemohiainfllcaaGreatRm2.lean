/- A store's public Free, Commit and Abort. -/
import Derived.Test.YtemohiainfllcaaGreatRl
import Derived.Test.YtemohiainfllcaaGreatRi
import Derived.Test.YtemohiainfllcaaGreatRh
namespace Go.Proofs.YtemohiainfllcaaGreat
open Go.RowKit Hp
attribute [local go_sem ↓] Go.wp_at_zero Go.wp_at_succ
theorem lookR_ok {S : Stt} {i : Nat} {x : Tx} {p : Nat} (hp : Plc S p) (h : (S.lookR i x p).2 = 0) :
    ∃ ob, p ≠ 0 ∧ lk S.H.cur p = some ob ∧ clashB i x.start ob.second = false ∧ noteB x.log.reads p x.log.mr = true ∧ ob.freed = false ∧ S.lookR i x p = (S.tx i (x.read p), 0) := by
  by_cases h0 : p = 0
  · subst h0; unfold Stt.lookR at h; simp at h
  · obtain ⟨ob, hob⟩ := Option.isSome_iff_exists.1 (hp.resolve_left h0)
    cases hc : clashB i x.start ob.second with
    | true =>
      have e1 : S.lookR i x p = (S, 141) := by unfold Stt.lookR; rw [if_neg h0, hob]; simp [hc]
      rw [e1] at h; simp at h
    | false =>
      have e1 : S.lookR i x p = (S.tx i (x.read p), if noteB x.log.reads p x.log.mr then (if ob.freed then 142 else 0) else 130) := by unfold Stt.lookR; rw [if_neg h0, hob]; simp only; rw [if_neg (by rw [hc]; simp)]
      rw [e1] at h
      simp only at h
      cases hn : noteB x.log.reads p x.log.mr with
      | false => rw [hn] at h; simp at h
      | true =>
        cases hf : ob.freed with
        | true => rw [hn, hf] at h; simp at h
        | false => exact ⟨ob, h0, hob, hc, rfl, hf, by rw [e1, hn, hf]; rfl⟩
theorem lookR_ab {S : Stt} {i : Nat} {x : Tx} {p : Nat} (hp : Plc S p) (hr : x.log.reads.length < x.log.mr) (h : isAb (S.lookR i x p).2 = true) : S.lookR i x p = (S, 141) := by
  by_cases h0 : p = 0
  · subst h0; unfold Stt.lookR isAb at h; simp at h
  · obtain ⟨ob, hob⟩ := Option.isSome_iff_exists.1 (hp.resolve_left h0)
    cases hc : clashB i x.start ob.second with
    | true => unfold Stt.lookR; rw [if_neg h0, hob]; simp [hc]
    | false =>
      have e1 : S.lookR i x p = (S.tx i (x.read p), if noteB x.log.reads p x.log.mr then (if ob.freed then 142 else 0) else 130) := by unfold Stt.lookR; rw [if_neg h0, hob]; simp only; rw [if_neg (by rw [hc]; simp)]
      rw [e1, noteB_room hr] at h
      have hno : ∀ a, isAb (if true = true then (if a = true then 142 else 0) else 130) = true → False := by decide
      exact (hno _ h).elim
section
variable {w w' : World} {o o' : Own} {y : SLay} {S : Stt} {x : Tx} {i : Nat}
theorem free1_err (p : Nat) (el : Int) (he : el ≠ 0) (S1 : Stt) (look : Calls Tryz.prog 61 #[ptr y.sb, ptr (y.xb i), .int .i64 p] w fun e w' => e = .returned (.tuple #[shpV ⟨0, 0, false, false⟩, .int .i64 el]) ∧ ∃ o', StIn w' o' y S1 ∧ Stp (txTag y i) o o' w w')
    {b1 b2 : Nat} (j1 : Blk w b1 #[ptr y.sb] 23) (j2 : Blk w b2 #[.int .i64 p] 3) :
    Calls Tryz.prog 60 #[ptr (y.xb i), ptr b1, ptr b2] w fun e w' => e = .returned (.tuple #[.int .i64 0, .int .i64 el]) ∧ ∃ o', StIn w' o' y S1 ∧ Stp (txTag y i) o o' w w' := by
  have HL := Lib.hid look
  have c1 := j1.cell
  have c2 := j2.cell
  have hb : (el != 0) = true := by rw [bne_iff_ne]; exact he
  have hb2 : (el == 0) = false := by rw [beq_eq_false_iff_ne]; exact he
  clear look
  go_enter Tryz.func60, Tryz.ntmps60
  go_wp2_with fail
  refine HL.out.mono ?_
  rintro e w1 ⟨rfl, o1, hS1, hs1⟩
  go_wp2_with fail
  go_ret2
  exact ⟨rfl, o1, hS1.alloc _, hs1.alloc _⟩
def Stt.freeR (S : Stt) (i : Nat) (x : Tx) (p : Nat) : Res :=
  if (S.lookR i x p).2 ≠ 0 then ⟨(S.lookR i x p).1, 0, (S.lookR i x p).2⟩ else match lk S.H.cur p with
  | none => ⟨(S.lookR i x p).1, 0, 0⟩
  | some ob => ⟨(S.tx i (((x.read p).hold1 p ob).undo ⟨3, p, 0, 0⟩)).at' p ((ob.held i).setFreed true), 0, 0⟩
theorem freeR_ab (hP : Pre S i x) {p : Nat} (hp : Plc S p) (ha : isAb (S.freeR i x p).e = true) : S.freeR i x p = ⟨S, 0, 141⟩ := by
  unfold Stt.freeR at ha ⊢
  split at ha
  · rename_i hne
    have := lookR_ab hp hP.r1 ha
    rw [if_pos hne, this]
  · split at ha <;> simp [isAb] at ha
theorem freeR_v (p : Nat) : (S.freeR i x p).v = 0 := by
  unfold Stt.freeR; repeat' split
  all_goals rfl
theorem sfree_any (h0 : StIn w o y S) (hP : Pre S i x) {p : Nat} (hp : Plc S p) :
    Calls Tryz.prog 23 #[ptr y.sb, .int .i64 i, .int .i64 p] w fun e w' => e = .returned (.int .i64 ((S.freeR i x p).fin i).e) ∧ ∃ o', StIn w' o' y ((S.freeR i x p).fin i).S ∧ Stp (stTag y) o o' w w' := by
  have hmf : ∀ (fn : Fn) (first cap : Array Value) (w : World), (Instr.makeFunc fn first cap).run Tryz.prog w = .ok (.func fn first cap) w := fun _ _ _ _ => rfl
  obtain ⟨o1, ho1⟩ : ∃ o1, o1 = ext o w.heap.size (y.l.id + 1, 0) := ⟨_, rfl⟩
  have h := h0.retag (o' := o1) fun b hb => by rw [ho1]; exact ext_lt hb
  have hS0 : Stp (stTag y) o o1 w w := by rw [ho1]; exact (Stp.refl _ o w).ext _ _ (Nat.le_refl _)
  have hbx : ∀ b, w.heap.size ≤ b → o1 b = (y.l.id + 1, 0) := fun b hb => by rw [ho1]; exact ext_ge hb
  clear ho1 h0
  obtain ⟨W, hW⟩ : ∃ W : World, W = (w.alloc (.cells #[ptr y.sb] 23)).alloc (.cells #[.int .i64 p] 3) := ⟨_, rfl⟩
  have hbW : Below w.heap.size w W := by rw [hW]; exact balloc (balloc (bsame w) _) _
  have j1 : Blk W w.heap.size #[ptr y.sb] 23 := by rw [hW]; exact (Blk.new w _ _).alloc _
  have j2 : Blk W (w.heap.size + 1) #[.int .i64 p] 3 := by rw [hW]; exact Blk.new_at _ _ _ _ _ (by simp) rfl
  have HD := Lib.hid (deed_any 60 [ptr w.heap.size, ptr (w.heap.size + 1)] (h.below hbW) hP.ok hP.hx hP.live eg_free1 (S.freeR i x p) (fun ha => by rw [freeR_ab hP hp ha]; exact hP.ab)
    (fun w1 o2 hb he2 hS => by
      rw [freeR_v]
      have a1 := j1.below hb j1.lt
      have a2 := j2.below hb j2.lt
      have tg : ∀ b, w.heap.size ≤ b → b < W.heap.size → o2 b = (y.l.id + 1, 0) := fun b hb1 hb2 => (he2 _ hb2).trans (hbx _ hb1)
      by_cases hne : (S.lookR i x p).2 = 0
      · obtain ⟨ob, hp0, hob, hc, hnb, hf, he⟩ := lookR_ok hp hne
        have e1 : S.freeR i x p = ⟨(S.tx i (((x.read p).hold1 p ob).undo ⟨3, p, 0, 0⟩)).at' p ((ob.held i).setFreed true), 0, 0⟩ := by unfold Stt.freeR; rw [he]; simp only [ne_eq, not_true_eq_false, if_false, hob]
        rw [e1]
        refine (free1_new hS hP.ok hP.hx hob (hP.secs p ob hob) hc hp0 hnb hf a1 a2 (tg _ (Nat.le_refl _) j1.lt) (tg _ (by omega) j2.lt) ((S.tx i ((x.read p).hold1 p ob)).at' p (ob.held i)) ((S.tx i (((x.read p).hold1 p ob).undo ⟨3, p, 0, 0⟩)).at' p (ob.held i)) ((S.tx i (((x.read p).hold1 p ob).undo ⟨3, p, 0, 0⟩)).at' p ((ob.held i).setFreed true)) _ (tx_at S hP.lt _) (hold_step hP hob) (fun w1 o1 h1 => undo_step hP hob ⟨3, p, 0, 0⟩ w1 o1 h1) (fun w1 o1 h1 => by
          refine (setfreed_st h1 (hP.ok3 hob _) (lk_held hob) true).mono ?_
          rintro e w' ⟨rfl, h2, h3⟩
          rw [Stt.at_at] at h2
          exact ⟨rfl, o1, h2, h3.mono fun _ => opTag_hp⟩)).mono ?_
        rintro e w' ⟨rfl, o', h1, h2⟩
        exact ⟨rfl, o', h1, h2.mono fun _ => stTag_op⟩
      · have e1 : S.freeR i x p = ⟨(S.lookR i x p).1, 0, (S.lookR i x p).2⟩ := by unfold Stt.freeR; rw [if_pos hne]
        rw [e1]
        have hlk := look_any hS hP.ok hP.hx hP.secs hp
        rw [if_neg hne] at hlk
        refine (free1_err p _ hne _ hlk a1 a2).mono ?_
        rintro e w' ⟨rfl, o', h1, h2⟩
        exact ⟨rfl, o', h1, h2.mono fun _ => stTag_tx⟩))
  have HS := Lib.hid (hS0.trans (Stp.of_below hbW))
  generalize Res.fin (S.freeR i x p) i = R at *
  clear h hbx hS0 hbW j1 j2 hP hp
  go_enter Tryz.func23, Tryz.ntmps23
  go_wp2_with fail
  rw [← hW]
  refine HD.out.mono ?_
  rintro e w2 ⟨rfl, o2, hS2, hs2⟩
  go_wp2_with fail
  go_ret
  exact ⟨rfl, o2, hS2, HS.out.trans hs2⟩
/-! ### Commit -/
def Stt.readsClash (S : Stt) (i : Nat) (x : Tx) : Bool := x.log.reads.any fun p => match lk S.H.cur p with | some ob => clashB i x.start ob.second | none => false
def Stt.commitR (S : Stt) (i : Nat) (x : Tx) : Res :=
  if x.log.holds = [] ∧ S.holder ≠ (i : Int) then ⟨S.tx i x.ended, 0, 0⟩ else if S.readsClash i x = true then ⟨S, 0, 141⟩ else ⟨S.committed i x, ((S.now + 1 : Nat) : Int), 0⟩
theorem scommit_any (h0 : StIn w o y S) (hP : Pre S i x) (hR : ∀ p ∈ x.log.reads, (lk S.H.cur p).isSome = true) (hm : S.now < S.most) :
    Calls Tryz.prog 18 #[ptr y.sb, .int .i64 i] w fun e w' => e = .returned (.tuple #[.int .i64 ((S.commitR i x).fin i).v, .int .i64 ((S.commitR i x).fin i).e]) ∧ ∃ o', StIn w' o' y ((S.commitR i x).fin i).S ∧ Stp (stTag y) o o' w w' := by
  have hmf : ∀ (fn : Fn) (first cap : Array Value) (w : World), (Instr.makeFunc fn first cap).run Tryz.prog w = .ok (.func fn first cap) w := fun _ _ _ _ => rfl
  obtain ⟨o1, ho1⟩ : ∃ o1, o1 = ext o w.heap.size (y.l.id + 1, 0) := ⟨_, rfl⟩
  have h := h0.retag (o' := o1) fun b hb => by rw [ho1]; exact ext_lt hb
  have hS0 : Stp (stTag y) o o1 w w := by rw [ho1]; exact (Stp.refl _ o w).ext _ _ (Nat.le_refl _)
  have hbx : o1 w.heap.size = (y.l.id + 1, 0) := by rw [ho1]; exact ext_ge (Nat.le_refl _)
  clear ho1 h0
  have j1 := Blk.new w #[ptr y.sb] 23
  have hR2 : ∀ p ∈ x.log.reads, ∃ ob, lk S.H.cur p = some ob ∧ SecOk ob.second := fun p hp => by
    obtain ⟨ob, hob⟩ := Option.isSome_iff_exists.1 (hR p hp)
    exact ⟨ob, hob, hP.secs p ob hob⟩
  have hab : isAb (S.commitR i x).e = true → AbOk (S.commitR i x).S i := fun ha => by
    unfold Stt.commitR at ha ⊢
    split at ha
    · simp [isAb] at ha
    · rename_i hne
      rw [if_neg hne]
      split at ha
      · rename_i hc; rw [if_pos hc]; exact hP.ab
      · simp [isAb] at ha
  have HD := Lib.hid (deed_any 51 [ptr w.heap.size] (h.below (balloc (bsame w) (.cells #[ptr y.sb] 23))) hP.ok hP.hx hP.live eg_commit1 (S.commitR i x) hab
    (fun w1 o2 hb he2 hS => by
      have a1 := j1.below hb j1.lt
      have t1 : o2 w.heap.size = (y.l.id + 1, 0) := (he2 _ j1.lt).trans hbx
      unfold Stt.commitR
      by_cases hne : x.log.holds = [] ∧ S.holder ≠ (i : Int)
      · rw [if_pos hne]
        refine (commit1_read hS hP.ok hP.hx hne.1 hne.2 a1).mono ?_
        rintro e w' ⟨rfl, o', h1, h2⟩
        exact ⟨rfl, o', h1, h2.mono fun _ => stTag_tx⟩
      · rw [if_neg hne]
        have hw : x.log.holds = [] → S.holder = (i : Int) := fun hh => by
          by_cases e : S.holder = (i : Int)
          · exact e
          · exact absurd ⟨hh, e⟩ hne
        rcases clash_find (i := i) hR2 with hall | hex
        · have hc : ¬ S.readsClash i x = true := by
            unfold Stt.readsClash
            rw [List.any_eq_true]
            rintro ⟨p, hp, hc⟩
            obtain ⟨ob, hob, _, hcl⟩ := hall p hp
            rw [hob] at hc
            simp only at hc
            rw [hcl] at hc; cases hc
          rw [if_neg hc]
          refine (commit1_write hS hP.ok hP.hx hw hm hall (fun z hz => (hP.ab.ho x hP.hx z hz).1) a1 t1).mono ?_
          rintro e w' ⟨rfl, o', h1, h2⟩
          exact ⟨rfl, o', h1, h2.mono fun _ => stTag_cm⟩
        · have hc : S.readsClash i x = true := by
            obtain ⟨j, p, ob, a1, a2, a3, a4, a5⟩ := hex
            unfold Stt.readsClash
            rw [List.any_eq_true]
            exact ⟨p, List.mem_of_getElem? a1, by rw [a2]; exact a4⟩
          rw [if_pos hc]
          refine (commit1_clash hS hP.ok hP.hx hw hex a1).mono ?_
          rintro e w' ⟨rfl, hb'⟩
          exact ⟨rfl, o2, hS.below hb', Stp.of_below hb'⟩))
  have HS := Lib.hid (hS0.trans (Stp.of_below (balloc (bsame w) (.cells #[ptr y.sb] 23))))
  generalize Res.fin (S.commitR i x) i = R at *
  clear h hbx hS0 j1 hP hR hR2 hab hm
  go_enter Tryz.func18, Tryz.ntmps18
  go_wp2_with fail
  refine HD.out.mono ?_
  rintro e w2 ⟨rfl, o2, hS2, hs2⟩
  go_wp2_with fail
  go_ret2
  exact ⟨rfl, o2, hS2, HS.out.trans hs2⟩
/-! ### Abort -/
theorem sabort_any (h : StIn w o y S) (hk : S.ok) (hx : S.txs[i]? = some x) (ha : AbOk S i) :
    Calls Tryz.prog 25 #[ptr y.sb, .int .i64 i] w fun e w' => e = .returned (.int .i64 (if x.live then 0 else 140)) ∧ ∃ o', StIn w' o' y (if x.live then S.abort i else S) ∧ Stp (stTag y) o o' w w' := by
  have HT := Lib.hid (running_in h hk hx)
  have HA := Lib.hid (abort_any h ha)
  have H := Lib.hid h
  clear h hk hx ha
  cases hl : x.live
  · rw [hl] at HT
    simp only [if_false, Bool.false_eq_true] at HT ⊢
    go_enter Tryz.func25, Tryz.ntmps25
    go_wp2_with fail
    refine HT.out.mono ?_
    rintro e w1 ⟨rfl, rfl⟩
    go_wp2_with fail
    go_ret
    exact ⟨rfl, o, H.out, Stp.refl _ _ _⟩
  · rw [hl] at HT
    simp only [if_true] at HT ⊢
    go_enter Tryz.func25, Tryz.ntmps25
    go_wp2_with fail
    refine HT.out.mono ?_
    rintro e w1 ⟨rfl, rfl⟩
    go_wp2_with fail
    refine HA.out.mono ?_
    rintro e w2 ⟨rfl, o2, hS2, hs2⟩
    go_wp2_with fail
    go_ret
    exact ⟨rfl, o2, hS2, hs2.mono fun _ => stTag_ab⟩
end
end Go.Proofs.YtemohiainfllcaaGreat

/- Plain terms: what holds of a store behind each call. -/
namespace Go.Proofs.YtemohiainfllcaaGreat
open Hp
/-! ### lists of objects: who owns them -/
def SameS (l l' : List (Nat × Ob)) : Prop := ∀ q, (lk l' q).map (fun o => (o.shp, o.second)) = (lk l q).map (fun o => (o.shp, o.second))
theorem SameS.refl (l : List (Nat × Ob)) : SameS l l := fun _ => rfl
theorem SameS.trans {a b c : List (Nat × Ob)} (h : SameS a b) (k : SameS b c) : SameS a c := fun q => (k q).trans (h q)
theorem SameS.fwd {l l' : List (Nat × Ob)} (h : SameS l l') {q : Nat} {ob : Ob} (hq : lk l q = some ob) : ∃ ob', lk l' q = some ob' ∧ ob'.shp = ob.shp ∧ ob'.second = ob.second := by
  have := h q
  rw [hq] at this
  cases h2 : lk l' q with
  | none => rw [h2] at this; simp at this
  | some z => rw [h2] at this; simp at this; exact ⟨z, rfl, this.1, this.2⟩
theorem SameS.back {l l' : List (Nat × Ob)} (h : SameS l l') {q : Nat} {ob : Ob} (hq : lk l' q = some ob) : ∃ ob', lk l q = some ob' ∧ ob'.shp = ob.shp ∧ ob'.second = ob.second :=
  SameS.fwd (fun q => (h q).symm) hq
theorem undo1_sameS (l : List (Nat × Ob)) (u : Un) : SameS l (undo1 l u) := fun q => by
  unfold undo1; split
  · rename_i ob h
    rw [lk_up]; split
    · rename_i e
      rw [e, h]
      unfold undoOb; repeat' split
      all_goals rfl
    · rfl
  · rfl
theorem undoL_sameS (l : List (Nat × Ob)) (us : List Un) : SameS l (undoL l us) := by
  induction us with
  | nil => exact SameS.refl _
  | cons u us ih => exact ih.trans (undo1_sameS _ _)
theorem relOb_second (ob : Ob) (v : Nat) : (relOb ob v).second = 2 * v := by unfold relOb; split <;> rfl
theorem lk_rel1 (l : List (Nat × Ob)) (z : Nat × Nat) (q : Nat) : lk (rel1 l z) q = if q = z.1 then (lk l q).map (relOb · z.2) else lk l q := by
  unfold rel1; split
  · rename_i ob h
    rw [lk_up]; split
    · rename_i e; rw [e, h]; rfl
    · rfl
  · rename_i h
    split
    · rename_i e; rw [e, h]; rfl
    · rfl
theorem lk_relL : ∀ (zs : List (Nat × Nat)) (l : List (Nat × Ob)) (q : Nat), (q ∉ zs.map (·.1) → lk (relL l zs) q = lk l q) ∧ (q ∈ zs.map (·.1) → ∀ ob, lk (relL l zs) q = some ob → ∃ v, (q, v) ∈ zs ∧ ob.second = 2 * v)
  | [], l, q => ⟨fun _ => rfl, fun h => by cases h⟩
  | z :: zs, l, q => by
    have ih := lk_relL zs (rel1 l z) q
    have e : relL l (z :: zs) = relL (rel1 l z) zs := rfl
    rw [e]
    by_cases hq : q ∈ zs.map (·.1)
    · refine ⟨fun h => absurd (List.mem_cons_of_mem _ hq) h, fun _ ob hob => ?_⟩
      obtain ⟨v, hv, hs⟩ := ih.2 hq ob hob
      exact ⟨v, .tail _ hv, hs⟩
    · rw [ih.1 hq, lk_rel1]
      refine ⟨fun h => if_neg fun e => h (by rw [e]; exact .head _), fun h ob hob => ?_⟩
      have hqz : q = z.1 := by
        rcases List.mem_cons.1 h with h | h
        · exact h
        · exact absurd h hq
      rw [if_pos hqz] at hob
      cases hl : lk l q with
      | none => rw [hl] at hob; cases hob
      | some o1 =>
        rw [hl] at hob
        injection hob with hob
        exact ⟨z.2, by rw [hqz]; exact .head _, by rw [← hob, relOb_second]⟩
theorem lk_com1 (v : Nat) (l : List (Nat × Ob)) (z : Nat × Nat) (q : Nat) : lk (com1 v l z) q = if q = z.1 then (lk l q).map (fun o => o.setSecond (2 * v)) else lk l q := by
  unfold com1; split
  · rename_i ob h
    rw [lk_up]; split
    · rename_i e; rw [e, h]; rfl
    · rfl
  · rename_i h
    split
    · rename_i e; rw [e, h]; rfl
    · rfl
theorem lk_comL (v : Nat) : ∀ (zs : List (Nat × Nat)) (l : List (Nat × Ob)) (q : Nat), (q ∉ zs.map (·.1) → lk (comL l zs v) q = lk l q) ∧ (q ∈ zs.map (·.1) → ∀ ob, lk (comL l zs v) q = some ob → ob.second = 2 * v)
  | [], l, q => ⟨fun _ => rfl, fun h => by cases h⟩
  | z :: zs, l, q => by
    have ih := lk_comL v zs (com1 v l z) q
    have e : comL l (z :: zs) v = comL (com1 v l z) zs v := rfl
    rw [e]
    by_cases hq : q ∈ zs.map (·.1)
    · exact ⟨fun h => absurd (List.mem_cons_of_mem _ hq) h, fun _ => ih.2 hq⟩
    · rw [ih.1 hq, lk_com1]
      refine ⟨fun h => if_neg fun e => h (by rw [e]; exact .head _), fun h ob hob => ?_⟩
      have hqz : q = z.1 := by
        rcases List.mem_cons.1 h with h | h
        · exact h
        · exact absurd h hq
      rw [if_pos hqz] at hob
      cases hl : lk l q with
      | none => rw [hl] at hob; cases hob
      | some o1 =>
        rw [hl] at hob
        injection hob with hob
        rw [← hob]; rfl
/-! ### what holds of a store -/
structure Inv (S : Stt) : Prop where
  ok : S.ok
  odd : ∀ p ob, lk S.H.cur p = some ob → ob.second % 2 = 1 → ∃ x, S.txs[ob.second / 2]? = some x ∧ p ∈ x.log.holds.map (·.1)
  even : ∀ p ob, lk S.H.cur p = some ob → ob.second % 2 ≠ 1 → ob.second / 2 ≤ S.now
  hold : ∀ (i : Nat) (x : Tx), S.txs[i]? = some x → ∀ z ∈ x.log.holds, z.2 ≤ S.now ∧ ∃ ob, lk S.H.cur z.1 = some ob ∧ ob.second = 2 * i + 1
  rd : ∀ (i : Nat) (x : Tx), S.txs[i]? = some x → ∀ p ∈ x.log.reads, (lk S.H.cur p).isSome = true
  un : ∀ (i : Nat) (x : Tx), S.txs[i]? = some x → ∀ u ∈ x.log.undos, UnOk S.H.cur u
  idle : ∀ (i : Nat) (x : Tx), S.txs[i]? = some x → x.live = false → x.log.reads = [] ∧ x.log.keeps = [] ∧ x.log.holds = [] ∧ x.log.undos = []
  lo : ∀ p ob, lk S.H.cur p = some ob → ∀ q ∈ ob.ptrs, Plc S q
theorem get_set {l : List Tx} {i j : Nat} {x y : Tx} (h : (l.set i x)[j]? = some y) : (j = i ∧ y = x) ∨ (j ≠ i ∧ l[j]? = some y) := by
  rw [List.getElem?_set] at h
  split at h
  · rename_i e
    split at h
    · injection h with h; exact .inl ⟨e.symm, h.symm⟩
    · cases h
  · rename_i e; exact .inr ⟨fun e' => e e'.symm, h⟩
theorem set_get {l : List Tx} {i j : Nat} {x y : Tx} (hj : j ≠ i) (h : l[j]? = some y) : (l.set i x)[j]? = some y := by
  rw [List.getElem?_set, if_neg (fun e => hj e.symm)]; exact h
theorem Inv.secs {S : Stt} (h : Inv S) : SecsOk S := fun p ob hob ho => by
  obtain ⟨x, hx, _⟩ := h.odd p ob hob ho
  have := (List.getElem?_eq_some_iff.1 hx).1
  have := h.ok.t8
  omega
theorem Inv.abOk {S : Stt} (h : Inv S) {i : Nat} (hi : i < S.txs.length) : AbOk S i :=
  ⟨h.ok, hi, fun x hx => h.un i x hx, fun x hx z hz => by
    obtain ⟨h1, ob, h2, _⟩ := h.hold i x hx z hz
    have := h.ok.n1
    have := h.ok.n2
    exact ⟨by rw [h2]; rfl, by omega⟩⟩
/-- There is room in a transaction's log. -/
structure Roomy (x : Tx) : Prop where
  r1 : x.log.reads.length < x.log.mr
  r2 : x.log.keeps.length < x.log.mr
  r3 : x.log.holds.length < x.log.mu
  r4 : x.log.undos.length < x.log.mu
theorem Inv.pre {S : Stt} (h : Inv S) {i : Nat} {x : Tx} (hx : S.txs[i]? = some x) (hl : x.live = true) (hr : Roomy x) : Pre S i x :=
  ⟨h.ok, hx, hl, h.secs, h.abOk (List.getElem?_eq_some_iff.1 hx).1, fun z hz ob hob => by
    obtain ⟨_, ob', h2, h3⟩ := h.hold i x hx z hz
    rw [hob] at h2; injection h2 with h2; subst h2; omega, hr.r1, hr.r2, hr.r3, hr.r4⟩
theorem clash_no {i : Nat} {start v : Nat} (hc : clashB i start v = false) (ho : v % 2 = 1) : v = 2 * i + 1 := by
  unfold clashB at hc
  rw [if_pos ho] at hc
  simp at hc
  omega
/-- A transaction noted a place as read. -/
theorem Inv.read {S : Stt} (h : Inv S) {i : Nat} {x : Tx} (hx : S.txs[i]? = some x) (hl : x.live = true) {p : Nat} (hp : (lk S.H.cur p).isSome = true) : Inv (S.tx i (x.read p)) := by
  have hlg := h.ok.lg x (List.mem_of_getElem? hx)
  refine ⟨Stt.ok_tx h.ok (Tx.read_ok hlg p) (h.ok.st x (List.mem_of_getElem? hx)), fun q ob hq ho => ?_, h.even, fun j z hz => ?_, fun j z hz => ?_, fun j z hz => ?_, fun j z hz hzl => ?_, h.lo⟩
  · obtain ⟨x', h1, h2⟩ := h.odd q ob hq ho
    by_cases e : ob.second / 2 = i
    · rw [e, hx] at h1
      injection h1 with h1
      subst h1
      exact ⟨x.read p, by rw [e]; exact tx_at S (List.getElem?_eq_some_iff.1 hx).1 _, h2⟩
    · exact ⟨x', set_get e h1, h2⟩
  · rcases get_set hz with ⟨rfl, rfl⟩ | ⟨hj, hz⟩
    · exact h.hold _ x hx
    · exact h.hold j z hz
  · rcases get_set hz with ⟨rfl, rfl⟩ | ⟨hj, hz⟩
    · intro q hq
      have hq' : q ∈ noteL x.log.reads p x.log.mr := hq
      unfold noteL at hq'
      split at hq'
      · exact h.rd _ x hx q hq'
      · split at hq'
        · rcases List.mem_append.1 hq' with hq' | hq'
          · exact h.rd _ x hx q hq'
          · rw [List.mem_singleton.1 hq']; exact hp
        · exact h.rd _ x hx q hq'
    · exact h.rd j z hz
  · rcases get_set hz with ⟨rfl, rfl⟩ | ⟨hj, hz⟩
    · exact h.un _ x hx
    · exact h.un j z hz
  · rcases get_set hz with ⟨rfl, rfl⟩ | ⟨hj, hz⟩
    · exact absurd hzl (by show ¬ x.live = false; rw [hl]; simp)
    · exact h.idle j z hz hzl
/-- A transaction changed an object. -/
theorem Inv.change {S : Stt} (h : Inv S) {i : Nat} {x : Tx} (hx : S.txs[i]? = some x) (hP : Pre S i x) {p : Nat} {ob ob' : Ob} (hob : lk S.H.cur p = some ob) (hc : clashB i x.start ob.second = false)
    (u : Un) (hu : UnOk S.H.cur u) (hok : ob'.ok) (hshp : ob'.shp = ob.shp) (hsec : ob'.second = (ob.held i).second) (hlo : ∀ q ∈ ob'.ptrs, Plc S q) :
    Inv ((S.tx i (((x.read p).hold1 p ob).undo u)).at' p ob') := by
  have hi := hP.lt
  have hsec2 : ob'.second = 2 * i + 1 := by
    rw [hsec]; unfold Ob.held
    by_cases ho : ob.second % 2 = 1
    · rw [if_pos ho]; exact clash_no hc ho
    · rw [if_neg ho]; rfl
  have hsm : SameK S.H.cur (up S.H.cur p ob') := SameK.up hob hshp
  have hlk : ∀ q, lk ((S.tx i (((x.read p).hold1 p ob).undo u)).at' p ob').H.cur q = if q = p then some ob' else lk S.H.cur q := fun q => by
    show lk (up S.H.cur p ob') q = _
    rw [lk_up, hob]; rfl
  have hh : ((x.read p).hold1 p ob).log.holds = if ob.second % 2 = 1 then x.log.holds else x.log.holds ++ [(p, ob.second / 2)] := by
    unfold Tx.hold1; split <;> rfl
  have hpin : p ∈ (((x.read p).hold1 p ob).undo u).log.holds.map (·.1) := by
    show p ∈ ((x.read p).hold1 p ob).log.holds.map (·.1)
    rw [hh]
    by_cases ho : ob.second % 2 = 1
    · rw [if_pos ho]
      obtain ⟨x', h1, h2⟩ := h.odd p ob hob ho
      have e : ob.second / 2 = i := by have := clash_no hc ho; omega
      rw [e, hx] at h1
      injection h1 with h1
      rw [h1]; exact h2
    · rw [if_neg ho]; simp
  have hsub : ∀ q, q ∈ x.log.holds.map (·.1) → q ∈ (((x.read p).hold1 p ob).undo u).log.holds.map (·.1) := fun q hq => by
    show q ∈ ((x.read p).hold1 p ob).log.holds.map (·.1)
    rw [hh]; split
    · exact hq
    · rw [List.map_append]; exact List.mem_append_left _ hq
  have hPlc : ∀ q, Plc S q → Plc ((S.tx i (((x.read p).hold1 p ob).undo u)).at' p ob') q := fun q hq => hq.imp id hsm.isSome
  refine ⟨?_, fun q oq hq ho => ?_, fun q oq hq ho => ?_, fun j z hz => ?_, fun j z hz => ?_, fun j z hz => ?_, fun j z hz hzl => ?_, fun q oq hq => ?_⟩
  · have h1 := hP.ok3 hob u
    have := Stt.ok_at h1 (lk_held hob) hok (size_of_shp (by rw [hshp, Ob.held_shp]))
    rwa [Stt.at_at] at this
  · rw [hlk] at hq
    by_cases e : q = p
    · rw [if_pos e] at hq
      injection hq with hq
      subst hq
      exact ⟨_, by rw [hsec2, show (2 * i + 1) / 2 = i from by omega]; exact tx_at S hi _, by rw [e]; exact hpin⟩
    · rw [if_neg e] at hq
      obtain ⟨x', h1, h2⟩ := h.odd q oq hq ho
      by_cases e2 : oq.second / 2 = i
      · rw [e2, hx] at h1
        injection h1 with h1
        subst h1
        exact ⟨_, by rw [e2]; exact tx_at S hi _, hsub q h2⟩
      · exact ⟨x', set_get e2 h1, h2⟩
  · rw [hlk] at hq
    by_cases e : q = p
    · rw [if_pos e] at hq
      injection hq with hq
      subst hq
      omega
    · rw [if_neg e] at hq
      exact h.even q oq hq ho
  · intro zz hzz
    rcases get_set hz with ⟨rfl, rfl⟩ | ⟨hj, hz⟩
    · have hzz' : zz ∈ ((x.read p).hold1 p ob).log.holds := hzz
      rw [hh] at hzz'
      have old : zz ∈ x.log.holds → zz.2 ≤ S.now ∧ ∃ ob_1, lk ((S.tx j (((x.read p).hold1 p ob).undo u)).at' p ob').H.cur zz.1 = some ob_1 ∧ ob_1.second = 2 * j + 1 := fun hm => by
        obtain ⟨a1, oz, a2, a3⟩ := h.hold j x hx zz hm
        refine ⟨a1, ?_⟩
        rw [hlk]
        by_cases e : zz.1 = p
        · exact ⟨ob', if_pos e, hsec2⟩
        · exact ⟨oz, by rw [if_neg e]; exact a2, a3⟩
      split at hzz'
      · exact old hzz'
      · rename_i ho
        rcases List.mem_append.1 hzz' with hm | hm
        · exact old hm
        · rw [List.mem_singleton.1 hm]
          refine ⟨h.even p ob hob ho, ob', ?_, hsec2⟩
          rw [hlk, if_pos rfl]
    · obtain ⟨a1, oz, a2, a3⟩ := h.hold j z hz zz hzz
      refine ⟨a1, oz, ?_, a3⟩
      rw [hlk, if_neg]
      · exact a2
      · intro e
        rw [e, hob] at a2
        injection a2 with a2
        subst a2
        have := clash_no hc (by omega)
        omega
  · intro q hq
    refine hsm.isSome ?_
    rcases get_set hz with ⟨rfl, rfl⟩ | ⟨hj, hz⟩
    · have hq' : q ∈ (x.read p).log.reads := by
        have e1 : ((x.read p).hold1 p ob).log.reads = (x.read p).log.reads := by unfold Tx.hold1; split <;> rfl
        rw [← e1]; exact hq
      exact (h.read hx hP.live (by rw [hob]; rfl)).rd j _ (tx_at S hi _) q hq'
    · exact h.rd j z hz q hq
  · intro v hv
    refine UnOk.same hsm ?_
    rcases get_set hz with ⟨rfl, rfl⟩ | ⟨hj, hz⟩
    · have hv' : v ∈ ((x.read p).hold1 p ob).log.undos ++ [u] := hv
      rw [(Tx.hold1_undos _ _ _).1] at hv'
      rcases List.mem_append.1 hv' with hm | hm
      · exact h.un j x hx v hm
      · rw [List.mem_singleton.1 hm]; exact hu
    · exact h.un j z hz v hv
  · rcases get_set hz with ⟨rfl, rfl⟩ | ⟨hj, hz⟩
    · have e1 : (((x.read p).hold1 p ob).undo u).live = x.live := by show ((x.read p).hold1 p ob).live = x.live; unfold Tx.hold1; split <;> rfl
      rw [e1, hP.live] at hzl; cases hzl
    · exact h.idle j z hz hzl
  · rw [hlk] at hq
    intro r hr
    by_cases e : q = p
    · rw [if_pos e] at hq
      injection hq with hq
      subst hq
      exact hPlc r (hlo r hr)
    · rw [if_neg e] at hq
      exact hPlc r (h.lo q oq hq r hr)
theorem Inv.fresh {n k r u m : Nat} (h1 : 16 ≤ n) (h2 : n ≤ 16384) (k1 : 1 ≤ k) (k8 : k ≤ 8) (hr : r ≤ 200) (hu : u ≤ 200) (hm : m ≤ 1099511627776) : Inv (Stt.fresh n k r u m) := by
  have hx : ∀ (i : Nat) (x : Tx), (Stt.fresh n k r u m).txs[i]? = some x → x = Tx.fresh r u := fun i x hx => List.eq_of_mem_replicate (List.mem_of_getElem? hx)
  refine ⟨Stt.fresh_ok h1 h2 k1 k8 hr hu hm, fun p ob hob => (by cases hob), fun p ob hob => (by cases hob), fun i x h z hz => ?_, fun i x h z hz => ?_, fun i x h z hz => ?_, fun i x h _ => ?_, fun p ob hob => (by cases hob)⟩
  all_goals rw [hx i x h] at *
  · cases hz
  · cases hz
  · cases hz
  · exact ⟨rfl, rfl, rfl, rfl⟩
/-- A transaction that held nothing ended; one that held nothing began. -/
theorem Inv.txs {S : Stt} (h : Inv S) {i : Nat} {x x' : Tx} (hx : S.txs[i]? = some x) (hold : x.log.holds = []) (hl : x'.log.ok) (hs : x'.start ≤ S.now) (h1 : x'.log.reads = [] ∧ x'.log.keeps = [] ∧ x'.log.holds = [] ∧ x'.log.undos = []) : Inv (S.tx i x') := by
  obtain ⟨e1, e2, e3, e4⟩ := h1
  refine ⟨Stt.ok_tx h.ok hl hs, fun q ob hq ho => ?_, h.even, fun j z hz => ?_, fun j z hz => ?_, fun j z hz => ?_, fun j z hz hzl => ?_, h.lo⟩
  · obtain ⟨y, a1, a2⟩ := h.odd q ob hq ho
    by_cases e : ob.second / 2 = i
    · rw [e, hx] at a1
      injection a1 with a1
      subst a1
      rw [hold] at a2; cases a2
    · exact ⟨y, set_get e a1, a2⟩
  · rcases get_set hz with ⟨rfl, rfl⟩ | ⟨hj, hz⟩
    · rw [e3]; intro z hz; cases hz
    · exact h.hold j z hz
  · rcases get_set hz with ⟨rfl, rfl⟩ | ⟨hj, hz⟩
    · rw [e1]; intro z hz; cases hz
    · exact h.rd j z hz
  · rcases get_set hz with ⟨rfl, rfl⟩ | ⟨hj, hz⟩
    · rw [e4]; intro z hz; cases hz
    · exact h.un j z hz
  · rcases get_set hz with ⟨rfl, rfl⟩ | ⟨hj, hz⟩
    · exact ⟨e1, e2, e3, e4⟩
    · exact h.idle j z hz hzl
theorem ended_ok {x : Tx} (h : x.log.ok) : x.ended.log.ok := ⟨h.mr, h.mu, Nat.zero_le _, Nat.zero_le _, Nat.zero_le _, Nat.zero_le _⟩
theorem Inv.ended {S : Stt} (h : Inv S) {i : Nat} {x : Tx} (hx : S.txs[i]? = some x) (hh : x.log.holds = []) : Inv (S.tx i x.ended) :=
  h.txs hx hh (ended_ok (h.ok.lg x (List.mem_of_getElem? hx))) (h.ok.st x (List.mem_of_getElem? hx)) ⟨rfl, rfl, rfl, rfl⟩
theorem Inv.begun {S : Stt} (h : Inv S) {i : Nat} {x : Tx} (hx : S.txs[i]? = some x) (hl : x.live = false) : Inv (S.tx i (x.begun S.now)) := by
  obtain ⟨a1, a2, a3, a4⟩ := h.idle i x hx hl
  exact h.txs hx a3 (h.ok.lg x (List.mem_of_getElem? hx)) (Nat.le_refl _) ⟨a1, a2, a3, a4⟩
theorem Stt.ok_own {S : Stt} (h : S.ok) {z : Int} {v : Nat} (hz : -1 ≤ z ∧ z ≤ 8) (hv : v ≤ S.now) : Stt.ok { S with holder := z, version := v } :=
  ⟨h.F, h.n1, h.n2, h.t1, h.t8, h.lg, h.st, hv, hz⟩
theorem Inv.own {S : Stt} (h : Inv S) {z : Int} {v : Nat} (hz : -1 ≤ z ∧ z ≤ 8) (hv : v ≤ S.now) : Inv { S with holder := z, version := v } :=
  ⟨Stt.ok_own h.ok hz hv, h.odd, h.even, h.hold, h.rd, h.un, h.idle, h.lo⟩
theorem Inv.held_not {S : Stt} (h : Inv S) {i j : Nat} {x y : Tx} (hx : S.txs[i]? = some x) (hy : S.txs[j]? = some y) (hj : j ≠ i) {z : Nat × Nat} (hz : z ∈ y.log.holds) : z.1 ∉ x.log.holds.map (·.1) := by
  intro hm
  obtain ⟨zz, h1, h2⟩ := List.mem_map.1 hm
  obtain ⟨_, o1, a1, a2⟩ := h.hold i x hx zz h1
  obtain ⟨_, o2, b1, b2⟩ := h.hold j y hy z hz
  rw [h2, b1] at a1
  injection a1 with a1
  rw [a1] at b2
  omega
theorem UnOk.sameS {l l' : List (Nat × Ob)} (h : SameK l l') {u : Un} (hu : UnOk l u) : UnOk l' u := hu.same h
/-- A transaction was aborted. -/
theorem Inv.aborted {S : Stt} (h : Inv S) {i : Nat} {x : Tx} (hx : S.txs[i]? = some x) (hlo : ∀ p ob, lk (S.aborted i x).H.cur p = some ob → ∀ q ∈ ob.ptrs, Plc (S.aborted i x) q) : Inv (S.aborted i x) := by
  have hi := (List.getElem?_eq_some_iff.1 hx).1
  have hlg := h.ok.lg x (List.mem_of_getElem? hx)
  have hss := undoL_sameS S.H.cur x.log.undos
  have hsk : SameK S.H.cur (S.aborted i x).H.cur := (undoL_same _ _).trans (relL_same _ _)
  have hlk : ∀ q, (q ∉ x.log.holds.map (·.1) → lk (S.aborted i x).H.cur q = lk (undoL S.H.cur x.log.undos) q) ∧ (q ∈ x.log.holds.map (·.1) → ∀ ob, lk (S.aborted i x).H.cur q = some ob → ∃ v, (q, v) ∈ x.log.holds ∧ ob.second = 2 * v) := fun q => lk_relL _ _ q
  have hok1 : (S.cur' (relL (undoL S.H.cur x.log.undos) x.log.holds)).ok := relL_ok (undoL_ok h.ok _ (h.un i x hx)) _ fun z hz => by
    have := (h.hold i x hx z hz).1; have := h.ok.n1; have := h.ok.n2; omega
  have hok2 : Stt.ok ((S.cur' (relL (undoL S.H.cur x.log.undos) x.log.holds)).tx i x.ended) := Stt.ok_tx hok1 (ended_ok hlg) (h.ok.st x (List.mem_of_getElem? hx))
  refine ⟨Stt.ok_own hok2 (by have := h.ok.ho; split <;> omega) h.ok.ve, fun q ob hq ho => ?_, fun q ob hq ho => ?_, fun j z hz => ?_, fun j z hz => ?_, fun j z hz => ?_, fun j z hz hzl => ?_, hlo⟩
  · by_cases hm : q ∈ x.log.holds.map (·.1)
    · obtain ⟨v, _, hv⟩ := (hlk q).2 hm ob hq
      omega
    · rw [(hlk q).1 hm] at hq
      obtain ⟨o1, a1, _, a3⟩ := hss.back hq
      obtain ⟨y, b1, b2⟩ := h.odd q o1 a1 (by rw [a3]; exact ho)
      rw [a3] at b1
      have e : ob.second / 2 ≠ i := fun e => by
        rw [e, hx] at b1
        injection b1 with b1
        rw [b1] at hm; exact hm b2
      exact ⟨y, set_get e b1, b2⟩
  · by_cases hm : q ∈ x.log.holds.map (·.1)
    · obtain ⟨v, hv1, hv⟩ := (hlk q).2 hm ob hq
      have := (h.hold i x hx _ hv1).1
      show ob.second / 2 ≤ S.now
      simp only at this
      omega
    · rw [(hlk q).1 hm] at hq
      obtain ⟨o1, a1, _, a3⟩ := hss.back hq
      have := h.even q o1 a1 (by rw [a3]; exact ho)
      rw [a3] at this
      exact this
  · rcases get_set hz with ⟨rfl, rfl⟩ | ⟨hj, hz⟩
    · intro z hz; cases hz
    · intro zz hzz
      obtain ⟨a1, oz, a2, a3⟩ := h.hold j z hz zz hzz
      obtain ⟨o2, b1, _, b3⟩ := hss.fwd a2
      exact ⟨a1, o2, by rw [(hlk zz.1).1 (h.held_not hx hz hj hzz)]; exact b1, by rw [b3]; exact a3⟩
  · rcases get_set hz with ⟨rfl, rfl⟩ | ⟨hj, hz⟩
    · intro z hz; cases hz
    · exact fun q hq => hsk.isSome (h.rd j z hz q hq)
  · rcases get_set hz with ⟨rfl, rfl⟩ | ⟨hj, hz⟩
    · intro z hz; cases hz
    · exact fun u hu => (h.un j z hz u hu).same hsk
  · rcases get_set hz with ⟨rfl, rfl⟩ | ⟨hj, hz⟩
    · exact ⟨rfl, rfl, rfl, rfl⟩
    · exact h.idle j z hz hzl
/-- What pointers lead to, behind an undo. -/
def PtrsIn (l : List (Nat × Ob)) : Prop := ∀ p ob, lk l p = some ob → ∀ q ∈ ob.ptrs, q = 0 ∨ (lk l q).isSome = true
theorem PtrsIn.up {l : List (Nat × Ob)} (h : PtrsIn l) {p : Nat} {ob ob' : Ob} (hob : lk l p = some ob) (hs : ob'.shp = ob.shp) (hq : ∀ q ∈ ob'.ptrs, q = 0 ∨ (lk l q).isSome = true) : PtrsIn (Go.Proofs.YtemohiainfllcaaGreat.up l p ob') := fun r orr hr q hq' => by
  have hsm : SameK l (Go.Proofs.YtemohiainfllcaaGreat.up l p ob') := SameK.up hob hs
  rw [lk_up, hob] at hr
  by_cases e : r = p
  · rw [if_pos e] at hr
    simp at hr
    subst hr
    exact (hq q hq').imp id hsm.isSome
  · rw [if_neg e] at hr
    exact (h r orr hr q hq').imp id hsm.isSome
theorem undo1_ptrs {l : List (Nat × Ob)} (h : PtrsIn l) {u : Un} (hu : UnOk l u) : PtrsIn (undo1 l u) := by
  obtain ⟨ob, h1, h2⟩ := hu
  unfold undo1
  rw [h1]
  refine h.up h1 (undoOb_shp _ _) fun q hq => ?_
  unfold undoOb at hq
  rcases h2 with ⟨a, b, c, d⟩ | ⟨a, _⟩ | ⟨a, _⟩
  · rw [if_pos a] at hq
    rcases mem_set (show q ∈ ob.ptrs.set u.i u.old.toNat from hq) with hq | hq
    · exact h _ ob h1 q hq
    · rw [hq]; exact d.imp (fun e => by omega) id
  · rw [if_neg (by omega), if_pos a] at hq; exact h _ ob h1 q hq
  · rw [if_neg (by omega), if_neg (by omega)] at hq; exact h _ ob h1 q hq
theorem undoL_ptrs {l : List (Nat × Ob)} (h : PtrsIn l) (us : List Un) (hu : ∀ u ∈ us, UnOk l u) : PtrsIn (undoL l us) := by
  induction us with
  | nil => exact h
  | cons u us ih => exact undo1_ptrs (ih fun v hv => hu v (.tail _ hv)) ((hu u (.head _)).same (undoL_same l us))
theorem rel1_ptrs {l : List (Nat × Ob)} (h : PtrsIn l) (z : Nat × Nat) : PtrsIn (rel1 l z) := by
  unfold rel1; split
  · rename_i ob h1
    refine h.up h1 (relOb_shp _ _) fun q hq => ?_
    have : (relOb ob z.2).ptrs = ob.ptrs := by unfold relOb; split <;> rfl
    rw [this] at hq; exact h _ ob h1 q hq
  · exact h
theorem relL_ptrs {l : List (Nat × Ob)} (h : PtrsIn l) (zs : List (Nat × Nat)) : PtrsIn (relL l zs) := by
  induction zs generalizing l with
  | nil => exact h
  | cons z zs ih => exact ih (rel1_ptrs h z)
theorem comL_ptrs {l : List (Nat × Ob)} (h : PtrsIn l) (zs : List (Nat × Nat)) (v : Nat) : PtrsIn (comL l zs v) := by
  induction zs generalizing l with
  | nil => exact h
  | cons z zs ih =>
    refine ih ?_
    unfold com1; split
    · rename_i ob h1; exact h.up h1 rfl fun q hq => h _ ob h1 q hq
    · exact h
theorem Inv.abort {S : Stt} (h : Inv S) (i : Nat) : Inv (S.abort i) := by
  unfold Stt.abort
  split
  · rename_i x hx
    exact h.aborted hx (relL_ptrs (undoL_ptrs h.lo _ (h.un i x hx)) _)
  · exact h
/-- A transaction that changed something committed. -/
theorem Inv.committed {S : Stt} (h : Inv S) {i : Nat} {x : Tx} (hx : S.txs[i]? = some x) (hm : S.now < S.most) : Inv (S.committed i x) := by
  have hlg := h.ok.lg x (List.mem_of_getElem? hx)
  have hm2 : S.now + 1 ≤ 1099511627776 := by have := h.ok.n2; omega
  have hsk : SameK S.H.cur (S.committed i x).H.cur := comL_same _ _ _
  have hlk : ∀ q, (q ∉ x.log.holds.map (·.1) → lk (S.committed i x).H.cur q = lk S.H.cur q) ∧ (q ∈ x.log.holds.map (·.1) → ∀ ob, lk (S.committed i x).H.cur q = some ob → ob.second = 2 * (S.now + 1)) := fun q => lk_comL _ _ _ q
  have hok0 : (S.cur' (comL S.H.cur x.log.holds (S.now + 1))).ok := comL_ok h.ok _ hm2
  have hok1 : Stt.ok { S.cur' (comL S.H.cur x.log.holds (S.now + 1)) with now := S.now + 1 } :=
    ⟨hok0.F, hm, hok0.n2, hok0.t1, hok0.t8, hok0.lg, fun z hz => by have := hok0.st z hz; show z.start ≤ S.now + 1; exact Nat.le_succ_of_le this, by have := hok0.ve; exact Nat.le_succ_of_le this, hok0.ho⟩
  have hok2 : Stt.ok (Stt.tx { S.cur' (comL S.H.cur x.log.holds (S.now + 1)) with now := S.now + 1 } i x.ended) := Stt.ok_tx hok1 (ended_ok hlg) (by have := h.ok.st x (List.mem_of_getElem? hx); exact Nat.le_succ_of_le this)
  have hve : (if S.holder = (i : Int) then S.now + 1 else S.version) ≤ S.now + 1 := by
    split
    · exact Nat.le_refl _
    · exact Nat.le_succ_of_le h.ok.ve
  refine ⟨Stt.ok_own hok2 (by have := h.ok.ho; split <;> omega) hve, fun q ob hq ho => ?_, fun q ob hq ho => ?_, fun j z hz => ?_, fun j z hz => ?_, fun j z hz => ?_, fun j z hz hzl => ?_, comL_ptrs h.lo _ _⟩
  · by_cases hm : q ∈ x.log.holds.map (·.1)
    · have := (hlk q).2 hm ob hq
      omega
    · rw [(hlk q).1 hm] at hq
      obtain ⟨y, b1, b2⟩ := h.odd q ob hq ho
      have e : ob.second / 2 ≠ i := fun e => by
        rw [e, hx] at b1
        injection b1 with b1
        rw [b1] at hm; exact hm b2
      exact ⟨y, set_get e b1, b2⟩
  · show ob.second / 2 ≤ S.now + 1
    by_cases hm : q ∈ x.log.holds.map (·.1)
    · have := (hlk q).2 hm ob hq
      omega
    · rw [(hlk q).1 hm] at hq
      have := h.even q ob hq ho
      omega
  · rcases get_set hz with ⟨rfl, rfl⟩ | ⟨hj, hz⟩
    · intro z hz; cases hz
    · intro zz hzz
      obtain ⟨a1, oz, a2, a3⟩ := h.hold j z hz zz hzz
      exact ⟨by show zz.2 ≤ S.now + 1; omega, oz, by rw [(hlk zz.1).1 (h.held_not hx hz hj hzz)]; exact a2, a3⟩
  · rcases get_set hz with ⟨rfl, rfl⟩ | ⟨hj, hz⟩
    · intro z hz; cases hz
    · exact fun q hq => hsk.isSome (h.rd j z hz q hq)
  · rcases get_set hz with ⟨rfl, rfl⟩ | ⟨hj, hz⟩
    · intro z hz; cases hz
    · exact fun u hu => (h.un j z hz u hu).same hsk
  · rcases get_set hz with ⟨rfl, rfl⟩ | ⟨hj, hz⟩
    · exact ⟨rfl, rfl, rfl, rfl⟩
    · exact h.idle j z hz hzl
end Go.Proofs.YtemohiainfllcaaGreat

/- Plain terms: what holds of a store behind each public call. -/
namespace Go.Proofs.YtemohiainfllcaaGreat
open Hp
theorem Inv.fin {r : Res} (h : Inv r.S) (i : Nat) : Inv (r.fin i).S := by
  unfold Res.fin; split
  · exact h.abort i
  · split <;> exact h
theorem mem_of_get {l : List Nat} {j q : Nat} (h : l[j]? = some q) : q ∈ l := List.mem_of_getElem? h
section
variable {S : Stt} {i : Nat} {x : Tx} {p : Nat}
theorem Inv.fields (h : Inv S) (hP : Pre S i x) : Inv (S.fieldsR i x p).1 := by
  unfold Stt.fieldsR Stt.lookR
  split
  · exact h
  · rename_i h0
    split
    · exact h
    · rename_i ob hob
      simp only
      split
      · exact h
      · exact h.read hP.hx hP.live (by rw [hob]; rfl)
theorem Inv.look (h : Inv S) (hP : Pre S i x) : Inv (S.lookR i x p).1 := h.fields hP
theorem Inv.readR (h : Inv S) (hP : Pre S i x) (j : Nat) : Inv (S.readR i x p j).S := by
  unfold Stt.readR
  split
  · exact h.fields hP
  · split <;> exact h.fields hP
theorem Inv.getR (h : Inv S) (hP : Pre S i x) (j : Nat) : Inv (S.getR i x p j).S := by
  unfold Stt.getR
  split
  · exact h.fields hP
  · split <;> exact h.fields hP
theorem held_second {ob : Ob} {i : Nat} : (ob.held i).second = if ob.second % 2 = 1 then ob.second else 2 * i + 1 := by
  unfold Ob.held; split <;> rfl
theorem held_ptrs (ob : Ob) (i : Nat) : (ob.held i).ptrs = ob.ptrs := by unfold Ob.held; split <;> rfl
theorem Inv.writeR (h : Inv S) (hP : Pre S i x) (hp : Plc S p) (j : Nat) (v : Int) (hv : -9223372036854775808 ≤ v ∧ v ≤ 9223372036854775807) : Inv (S.writeR i x p j v).S := by
  unfold Stt.writeR
  split
  · exact h.fields hP
  · rename_i hne
    obtain ⟨ob, hp0, hob, hc, _, he⟩ := fieldsR_ok hp (by simpa using hne)
    rw [hob]
    simp only
    have ho := ok_of_lk h.ok hob
    split
    · exact h.fields hP
    · rename_i old hold
      have hj : j < ob.nums.length := (List.getElem?_eq_some_iff.1 hold).1
      rw [ho.ln] at hj
      have hr := ho.num old (List.mem_of_getElem? hold)
      exact h.change hP.hx hP hob hc _ ⟨ob, hob, .inr (.inl ⟨rfl, hj, hr.1, hr.2⟩)⟩ (Ob.setNum_ok (Ob.held_ok ho hP.i8) _ _ hv) (Ob.held_shp _ _) rfl (fun q hq => h.lo p ob hob q (by rw [← held_ptrs ob i]; exact hq))
theorem Inv.putR (h : Inv S) (hP : Pre S i x) (hp : Plc S p) (j v : Nat) (hv : Plc S v) : Inv (S.putR i x p j v).S := by
  unfold Stt.putR
  split
  · exact h.fields hP
  · rename_i hne
    obtain ⟨ob, hp0, hob, hc, _, he⟩ := fieldsR_ok hp (by simpa using hne)
    rw [hob]
    simp only
    have ho := ok_of_lk h.ok hob
    split
    · exact h.fields hP
    · rename_i old hold
      have hj : j < ob.ptrs.length := (List.getElem?_eq_some_iff.1 hold).1
      rw [ho.lp] at hj
      have hr := h.lo p ob hob old (List.mem_of_getElem? hold)
      refine h.change hP.hx hP hob hc _ ⟨ob, hob, .inl ⟨rfl, hj, by simp, hr.imp (fun e => by simp [e]) (fun e => by simpa using e)⟩⟩ (Ob.setPtr_ok (Ob.held_ok ho hP.i8) _ _ (ptr_bd h.ok.F.ok hv)) (Ob.held_shp _ _) rfl (fun q hq => ?_)
      rcases mem_set (show q ∈ (ob.held i).ptrs.set j v from hq) with hq | rfl
      · rw [held_ptrs] at hq; exact h.lo p ob hob q hq
      · exact hv
theorem Inv.freeR (h : Inv S) (hP : Pre S i x) (hp : Plc S p) : Inv (S.freeR i x p).S := by
  unfold Stt.freeR
  split
  · exact h.look hP
  · rename_i hne
    obtain ⟨ob, hp0, hob, hc, _, _, he⟩ := lookR_ok hp (by simpa using hne)
    rw [hob]
    simp only
    have ho := ok_of_lk h.ok hob
    exact h.change hP.hx hP hob hc _ ⟨ob, hob, .inr (.inr ⟨rfl, rfl⟩)⟩ (Ob.setFreed_ok (Ob.held_ok ho hP.i8) _) (Ob.held_shp _ _) rfl (fun q hq => h.lo p ob hob q (by rw [← held_ptrs ob i]; exact hq))
theorem Inv.commitR (h : Inv S) (hP : Pre S i x) (hm : S.now < S.most) : Inv (S.commitR i x).S := by
  unfold Stt.commitR
  split
  · rename_i hh; exact h.ended hP.hx hh.1
  · split
    · exact h
    · exact h.committed hP.hx hm
end
end Go.Proofs.YtemohiainfllcaaGreat
