/- A store's public calls: what each comes to, in one word; a deed behind its closure. -/
import Derived.Test.YtemohiainfllcaaGreatKb
import Derived.Test.YtemohiainfllcaaGreatJt
import Derived.Test.YtemohiainfllcaaGreatJu
namespace Go.Proofs.YtemohiainfllcaaGreat
open Go.RowKit Hp
attribute [local go_sem ↓] Go.wp_at_zero Go.wp_at_succ
/-- The store behind a call, what it told, and how it ended. -/
structure Res where
  S : Stt
  v : Int
  e : Int
def isAb (e : Int) : Bool := e == 141 || e == 130 || e == 100
def Stt.abort (S : Stt) (i : Nat) : Stt := match S.txs[i]? with | some x => S.aborted i x | none => S
def Res.fin (r : Res) (i : Nat) : Res := if isAb r.e = true then ⟨r.S.abort i, 0, r.e⟩ else if r.e = 0 then r else ⟨r.S, 0, r.e⟩
structure AbOk (S : Stt) (i : Nat) : Prop where
  ok : S.ok
  lt : i < S.txs.length
  un : ∀ x, S.txs[i]? = some x → ∀ u ∈ x.log.undos, UnOk S.H.cur u
  ho : ∀ x, S.txs[i]? = some x → ∀ z ∈ x.log.holds, (lk S.H.cur z.1).isSome = true ∧ z.2 ≤ 1099511627776
def stTag (y : SLay) (t : Tag) : Prop := t.1 = y.l.id
theorem stTag_box (y : SLay) : ¬ stTag y (y.l.id + 1, 0) := by unfold stTag; simp
theorem stTag_ab {y : SLay} {i : Nat} {t : Tag} (h : abTag y i t) : stTag y t := by
  rcases h with (⟨h, _⟩ | ⟨h, _⟩) | h
  · exact h
  · exact h
  · unfold ownTag at h; unfold stTag; rw [h]
theorem stTag_cm {y : SLay} {i : Nat} {t : Tag} (h : cmTag y i t) : stTag y t := by
  rcases h with h | h
  · exact stTag_ab h
  · unfold stTag; rw [h]
theorem stTag_op {y : SLay} {i : Nat} {t : Tag} (h : opTag y i t) : stTag y t := stTag_ab (.inl h)
theorem stTag_tx {y : SLay} {i : Nat} {t : Tag} (h : txTag y i t) : stTag y t := stTag_op (opTag_tx h)
theorem stTag_own {y : SLay} {t : Tag} (h : ownTag y t) : stTag y t := stTag_ab (i := 0) (.inr h)
theorem stTag_hp {y : SLay} {t : Tag} (h : hpTag y t) : stTag y t := h.1
section
variable {w w' : World} {o o' : Own} {y : SLay} {S : Stt} {x : Tx} {i : Nat}
theorem abort_any (h : StIn w o y S) (ha : AbOk S i) :
    Calls Tryz.prog 67 #[ptr y.sb, ptr (y.xb i)] w fun e w' => e = .returned (.tuple #[]) ∧ ∃ o', StIn w' o' y (S.abort i) ∧ Stp (abTag y i) o o' w w' := by
  obtain ⟨x, hx⟩ : ∃ x, S.txs[i]? = some x := ⟨_, List.getElem?_eq_getElem ha.lt⟩
  have e1 : S.abort i = S.aborted i x := by unfold Stt.abort; rw [hx]
  rw [e1]
  exact abort_in h ha.ok hx (ha.un _ hx) (ha.ho _ hx)
theorem deed_any (g : Nat) (caps : List Value) (h0 : StIn w o y S) (hk : S.ok) (hx : S.txs[i]? = some x) (hl : x.live = true) (eg : ∀ args w, (callFunc g args).run Tryz.prog w = .ok (.enter g args) w)
    (r : Res) (hab : isAb r.e = true → AbOk r.S i)
    (hdo : ∀ w1 o1, Below w.heap.size w w1 → (∀ b, b < w.heap.size → o1 b = o b) → StIn w1 o1 y S → Calls Tryz.prog g (ptr (y.xb i) :: caps).toArray w1 fun e w' => e = .returned (.tuple #[.int .i64 r.v, .int .i64 r.e]) ∧ ∃ o', StIn w' o' y r.S ∧ Stp (stTag y) o1 o' w1 w') :
    Calls Tryz.prog 45 #[ptr y.sb, .int .i64 i, .func (.func g) #[] caps.toArray] w fun e w' => e = .returned (.tuple #[.int .i64 (r.fin i).v, .int .i64 (r.fin i).e]) ∧ ∃ o', StIn w' o' y (r.fin i).S ∧ Stp (stTag y) o o' w w' := by
  obtain ⟨S', v, e⟩ := r
  cases ha : isAb e with
  | true =>
    have e1 : Res.fin ⟨S', v, e⟩ i = ⟨S'.abort i, 0, e⟩ := by unfold Res.fin; rw [if_pos ha]
    rw [e1]
    have he : e = 141 ∨ e = 130 ∨ e = 100 := by
      unfold isAb at ha
      simp only [Bool.or_eq_true, beq_iff_eq] at ha
      omega
    refine (deed_abort g caps h0 hk hx hl eg (stTag y) (stTag_box y) S' (S'.abort i) v e he hdo fun w1 o1 h1 => abort_any h1 (hab ha)).mono ?_
    rintro e w' ⟨rfl, o', h1, h2⟩
    exact ⟨rfl, o', h1, h2.mono fun _ h => h.elim id stTag_ab⟩
  | false =>
    have hne : e ≠ 141 ∧ e ≠ 130 ∧ e ≠ 100 := by
      unfold isAb at ha
      simp only [Bool.or_eq_false_iff, beq_eq_false_iff_ne] at ha
      exact ⟨ha.1.1, ha.1.2, ha.2⟩
    by_cases h0' : e = 0
    · subst h0'
      have e1 : Res.fin ⟨S', v, 0⟩ i = ⟨S', v, 0⟩ := by unfold Res.fin; rw [if_neg (by rw [ha]; simp), if_pos rfl]
      rw [e1]
      exact deed_ok g caps h0 hk hx hl eg (stTag y) (stTag_box y) S' v hdo
    · have e1 : Res.fin ⟨S', v, e⟩ i = ⟨S', 0, e⟩ := by unfold Res.fin; rw [if_neg (by rw [ha]; simp), if_neg h0']
      rw [e1]
      exact deed_err g caps h0 hk hx hl eg (stTag y) (stTag_box y) S' v e h0' hne.1 hne.2.1 hne.2.2 hdo
/-! ### looking at an object -/
/-- What looking at an object comes to. -/
def Stt.lookR (S : Stt) (i : Nat) (x : Tx) (p : Nat) : Stt × Int :=
  if p = 0 then (S, 143) else match lk S.H.cur p with
  | none => (S, 70)
  | some ob => if clashB i x.start ob.second = true then (S, 141) else (S.tx i (x.read p), if noteB x.log.reads p x.log.mr then (if ob.freed then 142 else 0) else 130)
def Stt.shpOf (S : Stt) (p : Nat) : Shp := match lk S.H.cur p with | some ob => ob.shp | none => ⟨0, 0, false, false⟩
def Stt.fieldsR (S : Stt) (i : Nat) (x : Tx) (p : Nat) : Stt × Int :=
  let r := S.lookR i x p
  (r.1, if r.2 = 0 then (if (S.shpOf p).weak then 144 else 0) else r.2)
/-- All second words may be read as owners. -/
def SecsOk (S : Stt) : Prop := ∀ p ob, lk S.H.cur p = some ob → SecOk ob.second
def Plc (S : Stt) (p : Nat) : Prop := p = 0 ∨ (lk S.H.cur p).isSome = true
theorem look_any (h : StIn w o y S) (hk : S.ok) (hx : S.txs[i]? = some x) (hs : SecsOk S) {p : Nat} (hp : Plc S p) :
    Calls Tryz.prog 61 #[ptr y.sb, ptr (y.xb i), .int .i64 p] w fun e w' =>
      e = .returned (.tuple #[if (S.lookR i x p).2 = 0 then shpV (S.shpOf p) else shpV ⟨0, 0, false, false⟩, .int .i64 (S.lookR i x p).2]) ∧ ∃ o', StIn w' o' y (S.lookR i x p).1 ∧ Stp (txTag y i) o o' w w' := by
  by_cases h0 : p = 0
  · subst h0
    have e1 : S.lookR i x 0 = (S, 143) := by unfold Stt.lookR; rw [if_pos rfl]
    rw [e1]
    refine (look_nil w (ptr y.sb) (ptr (y.xb i))).mono ?_
    rintro e w' ⟨rfl, hb⟩
    exact ⟨rfl, o, h.below hb, Stp.of_below hb⟩
  · obtain ⟨ob, hob⟩ := Option.isSome_iff_exists.1 (hp.resolve_left h0)
    have e0 : S.shpOf p = ob.shp := by unfold Stt.shpOf; rw [hob]
    cases hc : clashB i x.start ob.second with
    | true =>
      have e1 : S.lookR i x p = (S, 141) := by unfold Stt.lookR; rw [if_neg h0, hob]; simp only; rw [if_pos hc]
      rw [e1]
      refine (look_clash h hk hx hob (hs p ob hob) hc h0).mono ?_
      rintro e w' ⟨rfl, hb⟩
      exact ⟨rfl, o, h.below hb, Stp.of_below hb⟩
    | false =>
      have e1 : S.lookR i x p = (S.tx i (x.read p), if noteB x.log.reads p x.log.mr then (if ob.freed then 142 else 0) else 130) := by unfold Stt.lookR; rw [if_neg h0, hob]; simp only; rw [if_neg (by rw [hc]; simp)]
      rw [e1, e0]
      refine (look_in h hk hx hob (hs p ob hob) hc h0).mono ?_
      rintro e w' ⟨rfl, o', h1, h2⟩
      refine ⟨?_, o', h1, h2⟩
      unfold lookV
      cases noteB x.log.reads p x.log.mr <;> cases ob.freed <;> simp
theorem fields_any (h : StIn w o y S) (hk : S.ok) (hx : S.txs[i]? = some x) (hs : SecsOk S) {p : Nat} (hp : Plc S p) :
    Calls Tryz.prog 100 #[ptr y.sb, ptr (y.xb i), .int .i64 p] w fun e w' =>
      e = .returned (.int .i64 (S.fieldsR i x p).2) ∧ ∃ o', StIn w' o' y (S.fieldsR i x p).1 ∧ Stp (txTag y i) o o' w w' := by
  by_cases h0 : p = 0
  · subst h0
    have e1 : S.fieldsR i x 0 = (S, 143) := by unfold Stt.fieldsR Stt.lookR; simp
    rw [e1]
    refine (fields_nil w (ptr y.sb) (ptr (y.xb i))).mono ?_
    rintro e w' ⟨rfl, hb⟩
    exact ⟨rfl, o, h.below hb, Stp.of_below hb⟩
  · obtain ⟨ob, hob⟩ := Option.isSome_iff_exists.1 (hp.resolve_left h0)
    have e0 : S.shpOf p = ob.shp := by unfold Stt.shpOf; rw [hob]
    cases hc : clashB i x.start ob.second with
    | true =>
      have e1 : S.fieldsR i x p = (S, 141) := by unfold Stt.fieldsR Stt.lookR; rw [if_neg h0, hob]; simp [hc]
      rw [e1]
      refine (fields_clash h hk hx hob (hs p ob hob) hc h0).mono ?_
      rintro e w' ⟨rfl, hb⟩
      exact ⟨rfl, o, h.below hb, Stp.of_below hb⟩
    | false =>
      have e1 : S.fieldsR i x p = (S.tx i (x.read p), fieldsE (noteB x.log.reads p x.log.mr) ob.freed ob.shp.weak) := by
        unfold Stt.fieldsR Stt.lookR fieldsE; rw [if_neg h0, hob, e0]; simp only [hc]
        cases noteB x.log.reads p x.log.mr <;> cases ob.freed <;> cases ob.shp.weak <;> simp
      rw [e1]
      refine (fields_in h hk hx hob (hs p ob hob) hc h0).mono ?_
      rintro e w' ⟨rfl, o', h1, h2⟩
      exact ⟨rfl, o', h1, h2⟩
/-! ### Read and Get -/
/-- The closure of Read and Get, when what it looks at is not to be read. -/
theorem field1_err (p : Nat) (ef : Int) (he : ef ≠ 0) (S1 : Stt) (fields : Calls Tryz.prog 100 #[ptr y.sb, ptr (y.xb i), .int .i64 p] w fun e w' => e = .returned (.int .i64 ef) ∧ ∃ o', StIn w' o' y S1 ∧ Stp (txTag y i) o o' w w')
    {b1 b2 b3 b4 : Nat} (j1 : Blk w b1 #[ptr y.sb] 23) (j2 : Blk w b2 #[.int .i64 p] 3) :
    Calls Tryz.prog 110 #[ptr (y.xb i), ptr b1, ptr b2, ptr b3, ptr b4] w fun e w' => e = .returned (.tuple #[.int .i64 0, .int .i64 ef]) ∧ ∃ o', StIn w' o' y S1 ∧ Stp (txTag y i) o o' w w' := by
  have HF := Lib.hid fields
  have c1 := j1.cell
  have c2 := j2.cell
  have hb : (ef != 0) = true := by rw [bne_iff_ne]; exact he
  have hb2 : (ef == 0) = false := by rw [beq_eq_false_iff_ne]; exact he
  clear fields
  go_enter Tryz.func110, Tryz.ntmps110
  go_wp2_with fail
  refine HF.out.mono ?_
  rintro e w1 ⟨rfl, o1, hS1, hs1⟩
  go_wp2_with fail
  go_ret2
  exact ⟨rfl, o1, hS1, hs1⟩
end
end Go.Proofs.YtemohiainfllcaaGreat
