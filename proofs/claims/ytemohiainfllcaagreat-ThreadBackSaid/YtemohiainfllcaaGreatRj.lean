/- Walks: an object is held, whether it was or not; stores turned at one transaction and one object. -/
import Derived.Test.YtemohiainfllcaaGreatRi
import Derived.Test.YtemohiainfllcaaGreatRa
import Derived.StillTailTactics
namespace Go.Proofs.YtemohiainfllcaaGreat
open Go.RowKit Hp
abbrev Stt.tx (S : Stt) (i : Nat) (x : Tx) : Stt := { S with txs := S.txs.set i x }
abbrev Stt.at' (S : Stt) (p : Nat) (ob : Ob) : Stt := { S with H := { S.H with cur := up S.H.cur p ob } }
theorem up_up (l : List (Nat × Ob)) (p : Nat) (a b : Ob) : up (up l p a) p b = up l p b := by
  unfold up
  rw [List.map_map]
  refine List.map_congr_left fun x _ => ?_
  simp only [Function.comp]
  by_cases e : x.1 = p <;> simp [e]
theorem up_self {l : List (Nat × Ob)} {b t p : Nat} {ob : Ob} (hl : laid b l t) (hk : OksL l) (h : lk l p = some ob) : up l p ob = l := by
  unfold up
  conv => rhs; rw [← List.map_id l]
  refine List.map_congr_left fun x hx => ?_
  by_cases e : x.1 = p
  · rw [if_pos e]
    obtain ⟨q, z⟩ := x
    simp only at e
    subst e
    rw [lk_uniq hl hk hx (lk_mem h)]; rfl
  · rw [if_neg e]; rfl
theorem Stt.tx_tx (S : Stt) (i : Nat) (a b : Tx) : (S.tx i a).tx i b = S.tx i b := by
  simp [Stt.tx, List.set_set]
theorem Stt.at_at (S : Stt) (p : Nat) (a b : Ob) : (S.at' p a).at' p b = S.at' p b := by
  simp [Stt.at', up_up]
theorem Stt.tx_self {S : Stt} {i : Nat} {x : Tx} (h : S.txs[i]? = some x) : S.tx i x = S := by
  obtain ⟨hi, rfl⟩ := List.getElem?_eq_some_iff.1 h
  simp [Stt.tx]
theorem Stt.at_self {S : Stt} (hk : S.ok) {p : Nat} {ob : Ob} (h : lk S.H.cur p = some ob) : S.at' p ob = S := by
  show ({ S with H := { S.H with cur := up S.H.cur p ob } } : Stt) = S
  rw [up_self hk.F.ok.cl hk.F.ok.ck h]
theorem Stt.ok_at {S : Stt} (hk : S.ok) {p : Nat} {ob ob' : Ob} (h : lk S.H.cur p = some ob) (ho : ob'.ok) (hs : ob'.size = ob.size) : Stt.ok (S.at' p ob') :=
  Stt.ok_heap hk (hk.F.turn h ho hs)
theorem lk_at {S : Stt} {p : Nat} {ob ob' : Ob} (h : lk S.H.cur p = some ob) (q : Nat) : lk (S.at' p ob').H.cur q = if q = p then some ob' else lk S.H.cur q := by
  show lk (up S.H.cur p ob') q = _
  rw [lk_up, h]; rfl
def Tx.hold1 (x : Tx) (p : Nat) (ob : Ob) : Tx := if ob.second % 2 = 1 then x else x.holding p (ob.second / 2)
def Ob.held (ob : Ob) (i : Nat) : Ob := if ob.second % 2 = 1 then ob else ob.setSecond (2 * i + 1)
section
variable {w w' : World} {o o' : Own} {y : SLay} {S : Stt} {x : Tx} {i : Nat}
theorem hold_any (h : StIn w o y S) (hk : S.ok) (hx : S.txs[i]? = some x) {p : Nat} {ob : Ob} (hp : lk S.H.cur p = some ob) (hs : SecOk ob.second) (hn : ob.second % 2 ≠ 1 → ∀ z ∈ x.log.holds, z.1 ≠ p) (hm : x.log.holds.length < x.log.mu) :
    Calls Tryz.prog 62 #[ptr y.sb, ptr (y.xb i), .int .i64 p] w fun e w' => e = .returned (.bool true) ∧
      ∃ o', StIn w' o' y ((S.tx i (x.hold1 p ob)).at' p (ob.held i)) ∧ Stp (opTag y i) o o' w w' := by
  by_cases h1 : ob.second % 2 = 1
  · refine (hold_have h hk hp hs h1 _).mono ?_
    rintro e w' ⟨rfl, hb⟩
    have e1 : (S.tx i (x.hold1 p ob)).at' p (ob.held i) = S := by
      unfold Tx.hold1 Ob.held
      rw [if_pos h1, if_pos h1, Stt.tx_self hx, Stt.at_self hk hp]
    exact ⟨rfl, o, by rw [e1]; exact h.below hb, Stp.of_below hb⟩
  · refine (hold_in h hk hx hp h1 (hn h1) hm).mono ?_
    rintro e w' ⟨rfl, o', hS, hst⟩
    refine ⟨rfl, o', ?_, hst⟩
    unfold Tx.hold1 Ob.held
    rw [if_neg h1, if_neg h1]
    exact hS
end
end Go.Proofs.YtemohiainfllcaaGreat

/- Walks: a heap's setters, in a store. -/
namespace Go.Proofs.YtemohiainfllcaaGreat
open Go.RowKit Hp
section
variable {w w' : World} {o o' : Own} {y : SLay} {S : Stt} {x : Tx} {i : Nat}
def hpTag (y : SLay) (t : Tag) : Prop := t.1 = y.l.id ∧ t.2 ≤ 6
theorem hpTag_box (y : SLay) : ¬ hpTag y (y.l.id + 1, 0) := by rintro ⟨h, _⟩; simp at h
theorem opTag_hp {y : SLay} {i : Nat} {t : Tag} (h : hpTag y t) : opTag y i t := .inr h
theorem setnum_st (h : StIn w o y S) (hk : S.ok) {p : Nat} {ob : Ob} (hp : lk S.H.cur p = some ob) (j : Nat) (n : Int) (hj : j < ob.shp.d) (hn : -9223372036854775808 ≤ n ∧ n ≤ 9223372036854775807) :
    Calls Tryz.prog 49 #[ptr y.l.h, .int .i64 p, .int .i64 j, .int .i64 n] w fun e w' => e = .returned (.int .i64 0) ∧ StIn w' o y (S.at' p (ob.setNum j n)) ∧ Stp (hpTag y) o o w w' := by
  obtain ⟨vc, vo, vw, vf, f, hh⟩ := h.hp
  refine (hsetnum_in hh hk.F.ok hp j n hj hn).mono ?_
  rintro e w' ⟨rfl, _, h', hw⟩
  obtain ⟨a1, a2⟩ := HpAt.of_wr hh h' hw
  exact ⟨rfl, h.heap a1 a2, a2⟩
theorem setptr_st (h : StIn w o y S) (hk : S.ok) {p : Nat} {ob : Ob} (hp : lk S.H.cur p = some ob) (j q : Nat) (hj : j < ob.shp.p) (hq : q = 0 ∨ (lk S.H.cur q).isSome = true) :
    Calls Tryz.prog 97 #[ptr y.l.h, .int .i64 p, .int .i64 j, .int .i64 q] w fun e w' => e = .returned (.int .i64 0) ∧ StIn w' o y (S.at' p (ob.setPtr j q)) ∧ Stp (hpTag y) o o w w' := by
  obtain ⟨vc, vo, vw, vf, f, hh⟩ := h.hp
  refine (hsetptr_in hh hk.F.ok hp j q hj hq).mono ?_
  rintro e w' ⟨rfl, _, h', hw⟩
  obtain ⟨a1, a2⟩ := HpAt.of_wr hh h' hw
  exact ⟨rfl, h.heap a1 a2, a2⟩
theorem setfreed_st (h : StIn w o y S) (hk : S.ok) {p : Nat} {ob : Ob} (hp : lk S.H.cur p = some ob) (b : Bool) :
    Calls Tryz.prog 64 #[ptr y.l.h, .int .i64 p, .bool b] w fun e w' => e = .returned (.int .i64 0) ∧ StIn w' o y (S.at' p (ob.setFreed b)) ∧ Stp (hpTag y) o o w w' := by
  obtain ⟨vc, vo, vw, vf, f, hh⟩ := h.hp
  refine (hsetfreed_in hh hk.F.ok hp b).mono ?_
  rintro e w' ⟨rfl, _, h', hw⟩
  obtain ⟨a1, a2⟩ := HpAt.of_wr hh h' hw
  exact ⟨rfl, h.heap a1 a2, a2⟩
theorem ptr_st (h : StIn w o y S) (hk : S.ok) {p : Nat} {ob : Ob} (hp : lk S.H.cur p = some ob) (j q : Nat) (hq : ob.ptrs[j]? = some q) :
    Calls Tryz.prog 59 #[ptr y.l.h, .int .i64 p, .int .i64 j] w fun e w' => e = .returned (.tuple #[.int .i64 q, .int .i64 0]) ∧ Below w.heap.size w w' := by
  obtain ⟨vc, vo, vw, vf, f, hh⟩ := h.hp
  exact hptr_in hh hk.F.ok hk.F.mov hp j q hq
theorem num_st (h : StIn w o y S) (hk : S.ok) {p : Nat} {ob : Ob} (hp : lk S.H.cur p = some ob) (j : Nat) (q : Int) (hq : ob.nums[j]? = some q) :
    Calls Tryz.prog 48 #[ptr y.l.h, .int .i64 p, .int .i64 j] w fun e w' => e = .returned (.tuple #[.int .i64 q, .int .i64 0]) ∧ Below w.heap.size w w' := by
  obtain ⟨vc, vo, vw, vf, f, hh⟩ := h.hp
  exact hnum_in hh hk.F.ok hp j q hq
end
/-! ### what an abort leaves: plain terms -/
def undoOb (ob : Ob) (u : Un) : Ob := if u.kind = 1 then ob.setPtr u.i u.old.toNat else if u.kind = 2 then ob.setNum u.i u.old else ob.setFreed (decide (u.old ≠ 0))
def undo1 (l : List (Nat × Ob)) (u : Un) : List (Nat × Ob) := match lk l u.pos with | some ob => up l u.pos (undoOb ob u) | none => l
def undoL (l : List (Nat × Ob)) (us : List Un) : List (Nat × Ob) := us.foldr (fun u l => undo1 l u) l
def relOb (ob : Ob) (v : Nat) : Ob := if v = 0 then (ob.setSecond (2 * v)).setFreed true else ob.setSecond (2 * v)
def rel1 (l : List (Nat × Ob)) (z : Nat × Nat) : List (Nat × Ob) := match lk l z.1 with | some ob => up l z.1 (relOb ob z.2) | none => l
def relL (l : List (Nat × Ob)) (zs : List (Nat × Nat)) : List (Nat × Ob) := zs.foldl rel1 l
/-- The same objects, as to their shapes. -/
def SameK (l l' : List (Nat × Ob)) : Prop := ∀ q, (lk l' q).map (·.shp) = (lk l q).map (·.shp)
theorem SameK.refl (l : List (Nat × Ob)) : SameK l l := fun _ => rfl
theorem SameK.trans {a b c : List (Nat × Ob)} (h : SameK a b) (k : SameK b c) : SameK a c := fun q => (k q).trans (h q)
theorem SameK.up {l : List (Nat × Ob)} {p : Nat} {ob ob' : Ob} (h : lk l p = some ob) (hs : ob'.shp = ob.shp) : SameK l (up l p ob') := fun q => by
  rw [lk_up]; split
  · rename_i e; rw [e, h]; simp [hs]
  · rfl
theorem SameK.some {l l' : List (Nat × Ob)} (h : SameK l l') {q : Nat} {ob : Ob} (hq : lk l q = some ob) : ∃ ob', lk l' q = some ob' ∧ ob'.shp = ob.shp := by
  have := h q
  rw [hq] at this
  cases h2 : lk l' q with
  | none => rw [h2] at this; simp at this
  | some z => rw [h2] at this; simp at this; exact ⟨z, rfl, this⟩
theorem SameK.isSome {l l' : List (Nat × Ob)} (h : SameK l l') {q : Nat} (hq : (lk l q).isSome = true) : (lk l' q).isSome = true := by
  obtain ⟨ob, ho⟩ := Option.isSome_iff_exists.1 hq
  obtain ⟨z, hz, _⟩ := h.some ho
  rw [hz]; rfl
/-- An entry that may be undone. -/
def UnOk (l : List (Nat × Ob)) (u : Un) : Prop :=
  ∃ ob, lk l u.pos = some ob ∧ ((u.kind = 1 ∧ u.i < ob.shp.p ∧ 0 ≤ u.old ∧ (u.old = 0 ∨ (lk l u.old.toNat).isSome = true)) ∨ (u.kind = 2 ∧ u.i < ob.shp.d ∧ -9223372036854775808 ≤ u.old ∧ u.old ≤ 9223372036854775807) ∨ (u.kind = 3 ∧ u.old = 0))
theorem UnOk.same {l l' : List (Nat × Ob)} (h : SameK l l') {u : Un} (hu : UnOk l u) : UnOk l' u := by
  obtain ⟨ob, h1, h2⟩ := hu
  obtain ⟨z, hz, hs⟩ := h.some h1
  refine ⟨z, hz, ?_⟩
  rw [hs]
  rcases h2 with ⟨a, b, c, d⟩ | h2 | h2
  · exact .inl ⟨a, b, c, d.imp id h.isSome⟩
  · exact .inr (.inl h2)
  · exact .inr (.inr h2)
theorem undoOb_shp (ob : Ob) (u : Un) : (undoOb ob u).shp = ob.shp := by unfold undoOb; repeat' split
                                                                         all_goals rfl
theorem relOb_shp (ob : Ob) (v : Nat) : (relOb ob v).shp = ob.shp := by unfold relOb; split <;> rfl
theorem undo1_same (l : List (Nat × Ob)) (u : Un) : SameK l (undo1 l u) := by
  unfold undo1; split
  · rename_i h; exact SameK.up h (undoOb_shp _ _)
  · exact SameK.refl _
theorem rel1_same (l : List (Nat × Ob)) (z : Nat × Nat) : SameK l (rel1 l z) := by
  unfold rel1; split
  · rename_i h; exact SameK.up h (relOb_shp _ _)
  · exact SameK.refl _
theorem undoL_same (l : List (Nat × Ob)) (us : List Un) : SameK l (undoL l us) := by
  induction us with
  | nil => exact SameK.refl _
  | cons u us ih => exact ih.trans (undo1_same _ _)
theorem relL_same (l : List (Nat × Ob)) (zs : List (Nat × Nat)) : SameK l (relL l zs) := by
  induction zs generalizing l with
  | nil => exact SameK.refl _
  | cons z zs ih => exact (rel1_same l z).trans (ih _)
abbrev Stt.cur' (S : Stt) (l : List (Nat × Ob)) : Stt := { S with H := { S.H with cur := l } }
theorem Stt.at_cur (S : Stt) (l : List (Nat × Ob)) (p : Nat) (ob : Ob) : (S.cur' l).at' p ob = S.cur' (up l p ob) := rfl
theorem size_of_shp {a b : Ob} (h : a.shp = b.shp) : a.size = b.size := by unfold Ob.size; rw [h]
theorem Stt.ok_up' {S : Stt} {l : List (Nat × Ob)} (hk : (S.cur' l).ok) {p : Nat} {ob ob' : Ob} (h : lk l p = some ob) (ho : ob'.ok) (hs : ob'.shp = ob.shp) : (S.cur' (up l p ob')).ok :=
  Stt.ok_at (S := S.cur' l) hk h ho (size_of_shp hs)
theorem ok_of_lk {S : Stt} (hk : S.ok) {p : Nat} {ob : Ob} (h : lk S.H.cur p = some ob) : ob.ok := hk.F.ok.ck _ (lk_mem h)
theorem undoOb_ok {S : Stt} (hk : S.ok) {u : Un} {ob : Ob} (h : lk S.H.cur u.pos = some ob) (hu : UnOk S.H.cur u) : (undoOb ob u).ok := by
  obtain ⟨z, hz, h2⟩ := hu
  rw [h] at hz; injection hz with hz; subst hz
  have ho := ok_of_lk hk h
  unfold undoOb
  rcases h2 with ⟨a, b, c, d⟩ | ⟨a, b, c⟩ | ⟨a, b⟩
  · rw [if_pos a]
    refine Ob.setPtr_ok ho _ _ (ptr_bd hk.F.ok ?_)
    rcases d with d | d
    · left; omega
    · exact .inr d
  · rw [if_neg (by omega), if_pos a]; exact Ob.setNum_ok ho _ _ c
  · rw [if_neg (by omega), if_neg (by omega)]; exact Ob.setFreed_ok ho _
theorem relOb_ok {ob : Ob} (ho : ob.ok) {v : Nat} (hv : v ≤ 1099511627776) : (relOb ob v).ok := by
  unfold relOb; split
  · exact Ob.setFreed_ok (Ob.setSecond_ok ho _ (by omega)) _
  · exact Ob.setSecond_ok ho _ (by omega)
theorem undo1_ok {S : Stt} {l : List (Nat × Ob)} (hk : (S.cur' l).ok) {u : Un} (hu : UnOk l u) : (S.cur' (undo1 l u)).ok := by
  obtain ⟨ob, h1, _⟩ := id hu
  unfold undo1
  rw [h1]
  exact Stt.ok_up' hk h1 (undoOb_ok (S := S.cur' l) hk h1 hu) (undoOb_shp _ _)
theorem rel1_ok {S : Stt} {l : List (Nat × Ob)} (hk : (S.cur' l).ok) {z : Nat × Nat} (hv : z.2 ≤ 1099511627776) : (S.cur' (rel1 l z)).ok := by
  unfold rel1; split
  · rename_i ob h; exact Stt.ok_up' hk h (relOb_ok (ok_of_lk (S := S.cur' l) hk h) hv) (relOb_shp _ _)
  · exact hk
theorem undoL_ok {S : Stt} {l : List (Nat × Ob)} (hk : (S.cur' l).ok) (us : List Un) (hu : ∀ u ∈ us, UnOk l u) : (S.cur' (undoL l us)).ok := by
  induction us with
  | nil => exact hk
  | cons u us ih => exact undo1_ok (ih fun v hv => hu v (.tail _ hv)) ((hu u (.head _)).same (undoL_same l us))
theorem relL_ok {S : Stt} {l : List (Nat × Ob)} (hk : (S.cur' l).ok) (zs : List (Nat × Nat)) (hz : ∀ z ∈ zs, z.2 ≤ 1099511627776) : (S.cur' (relL l zs)).ok := by
  induction zs generalizing l with
  | nil => exact hk
  | cons z zs ih => exact ih (rel1_ok hk (hz z (.head _))) fun v hv => hz v (.tail _ hv)
/-- The store behind an abort. -/
def Stt.aborted (S : Stt) (i : Nat) (x : Tx) : Stt :=
  { S with H := { S.H with cur := relL (undoL S.H.cur x.log.undos) x.log.holds }, txs := S.txs.set i x.ended, holder := if S.holder = (i : Int) then -1 else S.holder }
end Go.Proofs.YtemohiainfllcaaGreat

/- A region that draws its order, in a fence that lets all through: reads ahead of one operation that writes. -/
namespace Go.Proofs.YtemohiainfllcaaGreat
open Go.RowKit Hp
section
variable {n : Nat} {P : Program} {ops : Array Oper} {md : Region.Mode} {w : World} {F : Fence}
/-- A fence that lets all through. -/
structure OpenF (F : Fence) (P : Program) : Prop where
  fn : ∀ f, F.fn f
  calls : ∀ {n : Nat} {f : FuncId} {args : Array Value} {w : World} {R : Ending → World → Prop}, Calls P f args w R → (F.depth.isSome = true → 1 ≤ n) ∧ CallsIn F (n - 1) P f args w R
theorem openW (P : Program) : OpenF Fence.wide P := ⟨fun _ => trivial, fun h => ⟨fun h => (by simp [Fence.wide] at h), callsIn_wide.2 h⟩⟩
theorem openR (l : Nat) (P : Program) : OpenF (Fence.wide.inRound l) P := ⟨fun _ => trivial, fun h => ⟨fun h => (by simp [Fence.inRound, Fence.wide] at h), CallsIn.inRound l (callsIn_wide.2 h)⟩⟩
theorem opIn_of_still (hF : OpenF F P) {o : Oper} {a : Act} {K : Act → Prop} {K' : Act → World → Prop} {Q' : Exit → Act → World → Prop} (hd : ∀ c, o.op ≠ .defer c) (h : ∀ a, K a → K' a w) (hh : o.still P a w K) : o.wpIn F n P a w K' Q' := by
  unfold Oper.still at hh
  refine ⟨fun _ _ => hF.fn _, ?_⟩
  rw [Oper.semAt_eq _ _ _ hd]
  generalize (execOp a.eval o).run P w = r at *
  cases r with
  | ok m w' =>
    cases m <;> simp only [Oper.stillUpon] at hh <;> simp only [Oper.uponIn]
    case enter f args =>
      obtain ⟨rfl, v, hc, hn⟩ := hh
      refine hF.calls (hc.mono fun e w'' he => ?_)
      obtain ⟨he, hw⟩ := he
      subst he; subst hw; exact h _ hn
    all_goals (obtain ⟨rfl, h2⟩ := hh; exact h _ h2)
  | halt x w' => simp only [Oper.stillUpon] at hh
theorem anyIn_of_stOp (hF : OpenF F P) {i : Nat} {a : Act} {K : Act → Prop} {K' : Act → World → Prop} {Q' : Exit → Act → World → Prop} (hd : ∀ (j : Nat) (o : Oper) c, ops[j]? = some o → o.op ≠ .defer c) (h : ∀ a, K a → K' a w) (hh : stOp P ops w i K a) : wpOpIn F n P ops Q' i K' a w := by
  unfold stOp at hh
  unfold wpOpIn
  split
  · rename_i ho; simp only [ho] at hh; exact h _ hh
  · rename_i o ho
    simp only [ho] at hh
    split
    · rename_i hw; simp only [hw, if_true] at hh; exact opIn_of_still hF (fun c => hd _ _ c ho) h hh
    · rename_i hw; simp only [hw] at hh; exact ⟨fun _ _ => hF.fn _, h _ hh⟩
theorem anyIn_of_head (hF : OpenF F P) {m g : Nat} {L : Array Bool → Act → Prop} {Q' : Exit → Act → World → Prop} (hd : ∀ (j : Nat) (o : Oper) c, ops[j]? = some o → o.op ≠ .defer c) (hL : ∀ listed a, L listed a → wpAnyIn F n P md ops Q' g listed a w) :
    ∀ (f : Nat) (listed : Array Bool) (a : Act), wpAnyL P md ops w m L f listed a → wpAnyIn F n P md ops Q' (f + g) listed a w
  | 0, listed, a, h => by rw [Nat.zero_add]; exact hL _ _ h
  | f + 1, listed, a, h => by
    rw [show f + 1 + g = (f + g) + 1 by omega]
    exact ⟨fun h0 => absurd h0 h.1, fun i hi => anyIn_of_stOp hF hd (fun a' h' => anyIn_of_head hF hd hL f _ a' h') (h.2 i hi).2⟩
theorem anyIn_of_seq {Q' : Exit → Act → World → Prop} : ∀ (l' : List Oper) (k : Nat) (listed : Array Bool) (a : Act) (w : World), (∀ j, l'[j]? = ops[k + j]?) →
    Region.seqB md ops l'.length k listed = true → wpListIn F n P ops Q' l' a w → wpAnyIn F n P md ops Q' l'.length listed a w
  | [], _, _, _, _, _, hB, h => ⟨by simpa [Region.seqB] using hB, h⟩
  | o :: l', k, listed, a, w, hl, hB, h => by
    have h0 : ops[k]? = some o := by simpa using (hl 0).symm
    simp only [List.length_cons, Region.seqB, Bool.and_eq_true, decide_eq_true_eq] at hB
    refine ⟨fun h1 => (by rw [hB.1] at h1; cases h1), fun i hi => ?_⟩
    rw [hB.1] at hi
    have hik : i = k := by simpa using hi
    subst hik
    have hw : wpOpIn F n P ops Q' i (wpListIn F n P ops Q' l') a w := by unfold wpOpIn; simp only [h0]; exact h
    exact wpOpIn_mono (fun a' w' h' => anyIn_of_seq l' (i + 1) _ a' w' (fun j => by have := hl (j + 1); simpa [Nat.add_assoc, Nat.add_comm 1 j] using this) hB.2 h') hw
def noDefer (l : List Oper) : Bool := l.all fun o => match o.op with | .defer _ => false | _ => true
theorem noDefer_spec {l : List Oper} (h : noDefer l = true) : ∀ (j : Nat) (o : Oper) c, l.toArray[j]? = some o → o.op ≠ .defer c := by
  intro j o c hj e
  have hm : o ∈ l := by rw [List.getElem?_toArray] at hj; exact List.mem_of_getElem? hj
  have := List.all_eq_true.1 h o hm
  rw [e] at this
  cases this
theorem wpIn_region_tail (hF : OpenF F P) {id : Nat} {Q : Exit → Act → World → Prop} {a : Act} {w : World} {l' : List Oper} (m : Nat) (hm : P.follows .mixedOrders = true) (hB : Region.lexTailB .any l'.toArray m = true) (hd : noDefer l' = true)
    (h : wpStill P l'.toArray w.drew (fun a' => wpListIn F n P l'.toArray Q (l'.drop m) a' w.drew) (l'.take m) a) : (Code.region id l'.toArray true).wpIn F n P Q a w := by
  simp only [Region.lexTailB, Bool.and_eq_true, decide_eq_true_eq] at hB
  obtain ⟨⟨⟨⟨hsel, hn⟩, hs⟩, hc⟩, hlex⟩ := hB
  have hn' : m < l'.length := by simpa using hn
  have htl : (l'.take m).length = m := by simp; omega
  have hdl : (l'.drop m).length = l'.toArray.size - m := by simp
  have inv0 : HeadInv .any l'.toArray m (Array.replicate l'.toArray.size false) :=
    ⟨by simp, fun j oj _ hl => (by rw [getD_replicate_false] at hl; cases hl), fun t _ ht => getD_in (by simpa using ht) (getD_replicate_false _ _)⟩
  have H := wpAnyL_lex (md := .any) (g := l'.toArray.size - m) hsel hs hc hn (l'.take m) 0 _ a (fun j hj => by
    have hj' : j < m := by rw [htl] at hj; exact hj
    simp [hj']) (by simpa using htl) inv0 (by rw [htl]; exact hlex) h
  refine wpIn_region_any hm ?_
  have := anyIn_of_head hF (n := n) (Q' := Q) (g := l'.toArray.size - m) (noDefer_spec hd) (fun listed a' hL => by
    have := anyIn_of_seq (F := F) (n := n) (md := .any) (Q' := Q) (l'.drop m) m listed a' w.drew (fun j => by simp [List.getElem?_drop]) (by rw [hdl]; exact hL.1) hL.2
    rwa [hdl] at this) _ _ _ H
  rw [htl, show m + (l'.toArray.size - m) = l'.toArray.size by omega] at this
  exact this
def noPanic (Q : Exit → Act → World → Prop) : Exit → Act → World → Prop
  | .normal, a, w => Q .normal a w
  | _, _, _ => False
theorem wpIn_nopanic {Q : Exit → Act → World → Prop} {c : Code} {a : Act} {w : World} (h : c.wpIn F n P (noPanic Q) a w) : c.wpIn F n P Q a w :=
  wpIn_mono h fun e _ _ hq => by cases e <;> first | exact hq | exact hq.elim
theorem wpIn_calm {K : Act → World → Prop} {Q : Exit → Act → World → Prop} {c : Code} {a : Act} {w : World} (h : c.wpIn F n P (Exit.then K fun _ _ _ => False) a w) : c.wpIn F n P (Exit.then K Q) a w :=
  wpIn_mono h fun e _ _ hq => by cases e <;> first | exact hq | exact hq.elim
end
end Go.Proofs.YtemohiainfllcaaGreat

/- Walks: two lists of nothing, one behind the other. -/
namespace Go.Proofs.YtemohiainfllcaaGreat
open Go.RowKit
theorem grow_nil (w : World) : Calls Tryz.prog 169 #[.slice none 0 0, .int .i64 0] w fun e w' => e = .returned (.slice none 0 0) ∧ w = w' := by
  go_enter Tryz.func169, Tryz.ntmps169
  go_wp2_with fail
  go_ret
  exact ⟨rfl, rfl⟩
theorem concat_nil {w : World} {b : Nat} (hb : Blk w b #[.slice none 0 0, .slice none 0 0] 84) :
    Calls Tryz.prog 123 #[.slice (some ⟨b, 0, none⟩) 2 2] w fun e w' => e = .returned (.slice none 0 0) ∧ w = w' := by
  have c := hb.cell
  have HG := Lib.hid grow_nil
  clear hb
  go_enter Tryz.func123, Tryz.ntmps123
  go_wp2_with fail
  go_loop [3, 11] (fun s ix => ∃ k : Nat, k ≤ 2 ∧ s = .int .i64 0 ∧ ix = .int .i64 k) (fun _ ix => 2 - (intOf ix).toNat)
  case atStart => exact ⟨0, by omega, rfl, rfl⟩
  case round =>
    obtain ⟨k, hk, rfl, rfl⟩ := hrel
    obtain rfl | rfl | rfl : k = 0 ∨ k = 1 ∨ k = 2 := by omega
    · go_wp2_with fail
      go_round
      case rel => exact ⟨1, by omega, rfl, rfl⟩
      case measure => simp [intOf]
    · go_wp2_with fail
      go_round
      case rel => exact ⟨2, by omega, rfl, rfl⟩
      case measure => simp [intOf]
    · go_wp2_with fail
      refine (HG.out _).mono ?_
      rintro e w1 ⟨rfl, rfl⟩
      go_wp2_with fail
      go_loop [6, 27] (fun s ix => ∃ k : Nat, k ≤ 2 ∧ s = .slice none 0 0 ∧ ix = .int .i64 k) (fun _ ix => 2 - (intOf ix).toNat)
      case atStart => exact ⟨0, by omega, rfl, rfl⟩
      case round =>
        obtain ⟨k, hk, rfl, rfl⟩ := hrel
        obtain rfl | rfl | rfl : k = 0 ∨ k = 1 ∨ k = 2 := by omega
        · go_wp2_with fail
          go_round
          case rel => exact ⟨1, by omega, rfl, rfl⟩
          case measure => simp [intOf]
        · go_wp2_with fail
          go_round
          case rel => exact ⟨2, by omega, rfl, rfl⟩
          case measure => simp [intOf]
        · go_wp2_with fail
          go_ret
          exact ⟨rfl, rfl⟩
end Go.Proofs.YtemohiainfllcaaGreat
