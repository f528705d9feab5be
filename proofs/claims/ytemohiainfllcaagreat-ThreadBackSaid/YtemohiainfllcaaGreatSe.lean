/- A thread that goes on alone, in plain Lean: no deed of it meets a conflict, each advances. -/
import Derived.Test.YtemohiainfllcaaGreatSb
import Derived.Test.YtemohiainfllcaaGreatRx
import Derived.Test.YtemohiainfllcaaGreatSa
import Derived.Test.YtemohiainfllcaaGreatRy
import Derived.Test.YtemohiainfllcaaGreatRz
namespace Go.Proofs.YtemohiainfllcaaGreat
open Hp
namespace Us
/-- An error that a thread may be told that goes on alone. -/
def Mild (e : Int) : Prop := e ≠ 141 ∧ e ≠ 100 ∧ e ≠ 130 ∧ e ≠ 140 ∧ e ≠ 70 ∧ e ≠ 120
structure SI (n : Nat) (S : Stt) (h : ThV) : Prop where
  ti : TI 100 100 99 n S 0 h
  one : S.txs.length = 1
  size : S.H.size = 2000
  top : 1 ≤ S.H.top ∧ S.H.top ≤ 1 + 16 * n
  st : h.l = true → (S.t 0).start = S.now
  hol : S.holder = -1 ∨ (h.l = true ∧ S.holder = 0)
variable {S S' : Stt} {n : Nat} {h : ThV}
theorem SI.noclash (t : SI n S h) (hl : h.l = true) {p : Nat} {ob : Ob} (hp : lk S.H.cur p = some ob) : clashB 0 (S.t 0).start ob.second = false := by
  unfold clashB
  split
  · rename_i ho
    obtain ⟨x, h1, _⟩ := t.ti.inv.odd p ob hp ho
    have := (List.getElem?_eq_some_iff.1 h1).1
    have := t.one
    rw [decide_eq_false_iff_not]; omega
  · rename_i ho
    have := t.ti.inv.even p ob hp ho
    rw [decide_eq_false_iff_not, t.st hl]; omega
theorem SI.look (t : SI n S h) (hl : h.l = true) {p : Nat} (hp : Plc S p) : (S.lookR 0 (S.t 0) p).2 = 143 ∨ (S.lookR 0 (S.t 0) p).2 = 0 ∨ (S.lookR 0 (S.t 0) p).2 = 142 := by
  unfold Stt.lookR
  split
  · exact .inl rfl
  · rename_i h0
    obtain ⟨ob, hob⟩ := Option.isSome_iff_exists.1 (hp.resolve_left h0)
    rw [hob]
    have hb : noteB (S.t 0).log.reads p (S.t 0).log.mr = true := by
      unfold noteB; rw [decide_eq_true_eq, t.ti.mr]; right
      have := t.ti.lg.1; have := t.ti.n0; omega
    simp only [t.noclash hl hob, Bool.false_eq_true, if_false, hb, if_true]
    cases ob.freed
    · exact .inr (.inl rfl)
    · exact .inr (.inr rfl)
theorem SI.fields (t : SI n S h) (hl : h.l = true) {p : Nat} (hp : Plc S p) : (S.fieldsR 0 (S.t 0) p).2 = 143 ∨ (S.fieldsR 0 (S.t 0) p).2 = 0 ∨ (S.fieldsR 0 (S.t 0) p).2 = 142 ∨ (S.fieldsR 0 (S.t 0) p).2 = 144 := by
  have := t.look hl hp
  unfold Stt.fieldsR
  simp only
  split
  · split <;> simp
  · rcases this with e | e | e <;> rw [e] <;> simp
theorem mild_of {e : Int} (h : e = 143 ∨ e = 0 ∨ e = 142 ∨ e = 144 ∨ e = 71) : Mild e := by unfold Mild; omega
theorem mild_ab {e : Int} (h : Mild e) : isAb e = false := by
  cases ha : isAb e with
  | false => rfl
  | true => rcases ab_of.1 ha with e1 | e1 | e1 <;> unfold Mild at h <;> omega
theorem fin_mild {r : Res} (h : Mild r.e) : (r.fin 0).e = r.e ∧ (r.fin 0).S = r.S ∧ (r.e = 0 → (r.fin 0).v = r.v) := by
  have ha := mild_ab h
  unfold Res.fin
  rw [if_neg (by rw [ha]; simp)]
  split
  · exact ⟨rfl, rfl, fun _ => rfl⟩
  · exact ⟨rfl, rfl, fun h0 => by contradiction⟩
theorem SI.read (t : SI n S h) (hl : h.l = true) {p : Nat} (hp : Plc S p) (j : Nat) : Mild (S.readR 0 (S.t 0) p j).e := by
  have f := t.fields hl hp
  unfold Stt.readR; split
  · exact mild_of (by simp only; omega)
  · split <;> exact mild_of (by simp)
theorem SI.get (t : SI n S h) (hl : h.l = true) {p : Nat} (hp : Plc S p) (j : Nat) : Mild (S.getR 0 (S.t 0) p j).e := by
  have f := t.fields hl hp
  unfold Stt.getR; split
  · exact mild_of (by simp only; omega)
  · split <;> exact mild_of (by simp)
theorem SI.write (t : SI n S h) (hl : h.l = true) {p : Nat} (hp : Plc S p) (j : Nat) (v : Int) : Mild (S.writeR 0 (S.t 0) p j v).e := by
  have f := t.fields hl hp
  unfold Stt.writeR; split
  · exact mild_of (by simp only; omega)
  · split
    · exact mild_of (by simp)
    · split <;> exact mild_of (by simp)
theorem SI.put' (t : SI n S h) (hl : h.l = true) {p : Nat} (hp : Plc S p) (j v : Nat) : Mild (S.putR 0 (S.t 0) p j v).e := by
  have f := t.fields hl hp
  unfold Stt.putR; split
  · exact mild_of (by simp only; omega)
  · split
    · exact mild_of (by simp)
    · split <;> exact mild_of (by simp)
theorem SI.free (t : SI n S h) (hl : h.l = true) {p : Nat} (hp : Plc S p) : Mild (S.freeR 0 (S.t 0) p).e := by
  have f := t.look hl hp
  unfold Stt.freeR; split
  · exact mild_of (by simp only; omega)
  · split <;> exact mild_of (by simp)
theorem SI.load (t : SI n S h) (hl : h.l = true) {p : Nat} (hp : Plc S p) : Mild (S.loadR 0 (S.t 0) p).e := by
  have f := t.look hl hp
  unfold Stt.loadR; split
  · exact mild_of (by simp only; omega)
  · split
    · exact mild_of (by simp)
    · split
      · split <;> exact mild_of (by simp)
      · exact mild_of (by simp)
theorem SI.room (t : SI n S h) (hn : n ≤ 100) (s : Shp) (hs : rnd (3 + s.p + s.d) ≤ 16) : S.roomFor s := by
  unfold Stt.roomFor
  have := t.top; have := t.size
  omega
theorem SI.alloc (t : SI n S h) (hn : n ≤ 100) (s : Shp) (hs : rnd (3 + s.p + s.d) ≤ 16) : S.allocR 0 (S.t 0) s = ⟨S.laid 0 (S.t 0) s, S.H.top, 0⟩ := by
  unfold Stt.allocR; rw [if_pos (t.room hn s hs)]
theorem SI.weak (t : SI n S h) (hn : n ≤ 100) (q : Nat) : Mild (S.weakR 0 (S.t 0) q).e := by
  unfold Stt.weakR; split
  · exact mild_of (by simp)
  · rw [if_pos (t.room hn Shp.wk (by decide))]; exact mild_of (by simp)
theorem SI.take (t : SI n S h) (hl : h.l = true) : Mild (S.takeR 0 (S.t 0)).e := by
  unfold Stt.takeR
  rw [if_pos]
  · exact mild_of (by simp)
  · refine ⟨?_, by rw [t.st hl]; exact t.ti.inv.ok.ve⟩
    rcases t.hol with e | ⟨_, e⟩
    · exact .inl e
    · exact .inr e
/-- From one state to the next one. -/
theorem SI.next {h' : ThV} (t : SI n S h) (ti : TI 100 100 99 (n + 1) S' 0 h') {k m : Nat} (g : Mvs k m 0 S S') (hk : k ≤ 2) (st : h'.l = true → (S'.t 0).start = S'.now) (hol : S'.holder = 0 → h'.l = true) : SI (n + 1) S' h' := by
  refine ⟨ti, g.len.trans t.one, g.size.trans t.size, ?_, st, ?_⟩
  · have h1 := g.top
    have h2 := t.top
    have h3 := Hp.top_f ti.inv.ok.F.ok ti.inv.ok.F.use
    exact ⟨h3.1, by omega⟩
  · rcases g.hol with e | e | e
    · rcases t.hol with e1 | ⟨_, e1⟩
      · exact .inl (e.trans e1)
      · exact .inr ⟨hol (e.trans e1), e.trans e1⟩
    · exact .inl e
    · exact .inr ⟨hol e, e⟩
/-- What a deed comes to that is no abort. -/
structure Went (n : Nat) (S : Stt) (h : ThV) (r : TR) : Prop where
  si : SI (n + 1) r.S r.h
  b : r.h.b = h.b
  n : r.h.n = h.n + 1
  l : r.h.l = true
  s : r.h.s = h.s
  now : r.S.now = S.now
  k : r.a.k = 2
  e : Mild r.a.e
theorem SI.told (t : SI n S h) (hl : h.l = true) (hn : h.n < 7) {r : Res} (f : Fin 0 S r) (hI : Inv r.S) (hm : Mild r.e) (v : Int) : Went n S h (toldR r.S v r.e h) := by
  have ha := mild_ab hm
  have e1 : h.ended r.e = { h with n := h.n + 1 } := by
    unfold ThV.ended; unfold Mild at hm
    rw [if_neg (by omega), if_neg (by omega)]
  have ti := t.ti.told hl f hI hn
  have kp := f.kp ha
  have hsi : SI (n + 1) r.S (h.ended r.e) := t.next ti f.mv (Nat.le_refl 2) (fun _ => by rw [kp.start, kp.now]; exact t.st hl) (fun _ => by rw [e1]; exact hl)
  refine ⟨hsi, ?_, ?_, ?_, ?_, f.now, rfl, hm⟩
  · show (h.ended r.e).b = _; rw [e1]
  · show (h.ended r.e).n = _; rw [e1]
  · show (h.ended r.e).l = _; rw [e1]; exact hl
  · show (h.ended r.e).s = _; rw [e1]
theorem SI.put (t : SI n S h) {A : Nat} (hA : A < 6) {v : Int} (hv : ∃ p : Nat, v = p ∧ Plc S p) : SI n S (h.put A v) :=
  ⟨t.ti.put hA hv, t.one, t.size, t.top, t.st, t.hol⟩
theorem SI.led (t : SI n S h) (hl : h.l = true) (hn : h.n < 7) {r : Res} (f : Fin 0 S r) (hI : Inv r.S) (hm : Mild r.e) {A : Nat} (hA : A < 6) (hL : LedOk r) : Went n S h (ledR r h A) := by
  have g := t.told hl hn f hI hm 0
  have ea : (ledA (r.S.ser r.v.toNat) r.e).k = 2 ∧ (ledA (r.S.ser r.v.toNat) r.e).e = r.e := by
    unfold ledA actOf
    split
    · rename_i h0; exact ⟨rfl, h0.symm⟩
    · exact ⟨rfl, rfl⟩
  by_cases he : r.e = 0
  · have e1 : h.led A r.v r.e = (h.ended r.e).put A r.v := by unfold ThV.led; rw [if_pos he, he]; rfl
    refine ⟨?_, ?_, ?_, ?_, ?_, g.now, ea.1, ?_⟩
    · show SI (n + 1) r.S (h.led A r.v r.e)
      rw [e1]
      exact SI.put (h := h.ended r.e) g.si hA (hL he)
    · show (h.led A r.v r.e).b = _; rw [e1]; exact g.b
    · show (h.led A r.v r.e).n = _; rw [e1]; exact g.n
    · show (h.led A r.v r.e).l = _; rw [e1]; exact g.l
    · show (h.led A r.v r.e).s = _; rw [e1]; exact g.s
    · show Mild (ledA (r.S.ser r.v.toNat) r.e).e; rw [ea.2]; exact hm
  · have e1 : h.led A r.v r.e = h.ended r.e := by unfold ThV.led; rw [if_neg he]
    refine ⟨?_, ?_, ?_, ?_, ?_, g.now, ea.1, ?_⟩
    · show SI (n + 1) r.S (h.led A r.v r.e)
      rw [e1]; exact g.si
    · show (h.led A r.v r.e).b = _; rw [e1]; exact g.b
    · show (h.led A r.v r.e).n = _; rw [e1]; exact g.n
    · show (h.led A r.v r.e).l = _; rw [e1]; exact g.l
    · show (h.led A r.v r.e).s = _; rw [e1]; exact g.s
    · show Mild (ledA (r.S.ser r.v.toNat) r.e).e; rw [ea.2]; exact hm
theorem SI.deed (t : SI n S h) (hl : h.l = true) (hn : h.n < 7) (hn1 : n ≤ 100) (d : DeedV) (hd : d.ok) (h14 : d.k ≠ 14) : Went n S h (S.tdeed 0 h d) := by
  have hc := t.ti.chk hl (by omega) (by omega)
  have hP := Stt.chk_pre t.ti.inv hc
  have hi := t.ti.lt
  have hlv : (S.t 0).live = true := t.ti.lv.trans hl
  have hI := t.ti.inv
  have hk := hI.ok
  obtain ⟨ea, pa⟩ := t.ti.rr.at hd.A
  obtain ⟨eb, pb⟩ := t.ti.rr.at hd.B
  have hs : S.H.serial < 1099511627776 := by have := t.ti.ser; omega
  have hkk := hd.k
  have fe : ∀ {r : Res}, Mild r.e → Mild (r.fin 0).e := fun {r} h => by rw [(fin_mild h).1]; exact h
  have h13 : d.k = 1 ∨ d.k = 2 ∨ d.k = 3 ∨ d.k = 4 ∨ d.k = 5 ∨ d.k = 6 ∨ d.k = 7 ∨ d.k = 8 ∨ d.k = 9 ∨ d.k = 10 ∨ d.k = 11 ∨ d.k = 12 ∨ d.k = 13 := by omega
  have f0 := fin_same (S := S) (i := 0) hlv 0
  rcases h13 with k | k | k | k | k | k | k | k | k | k | k | k | k
  · rw [tdeed_k1 _ _ _ _ k]
    exact t.led hl hn ((allocR_rok hk hi hlv _ (size_16 hd (.inl k) _ _)).fin hi hlv) ((hI.allocR hP _ (shp_dk hd (.inl k) _) hs).fin 0) (fe (by rw [t.alloc hn1 _ (size_16 hd (.inl k) _ _)]; exact mild_of (by simp))) hd.A (alloc_led hk 0 _)
  · rw [tdeed_k2 _ _ _ _ k]
    exact t.led hl hn ((allocR_rok hk hi hlv _ (size_16 hd (.inr k) _ _)).fin hi hlv) ((hI.allocR hP _ (shp_dk hd (.inr k) _) hs).fin 0) (fe (by rw [t.alloc hn1 _ (size_16 hd (.inr k) _ _)]; exact mild_of (by simp))) hd.A (alloc_led hk 0 _)
  · rw [tdeed_k3 _ _ _ _ k]
    exact t.led hl hn ((weakR_rok hk hi hlv _).fin hi hlv) ((hI.weakR hP pb hs).fin 0) (fe (t.weak hn1 _)) hd.A (weak_led hk 0 _)
  · rw [tdeed_k4 _ _ _ _ k]
    exact t.led hl hn ((getR_rok hi hlv _ _).fin hi hlv) ((hI.getR hP _).fin 0) (fe (t.get hl pb _)) hd.A (get_led hI 0 _ _)
  · rw [tdeed_k5 _ _ _ _ k]
    exact t.told hl hn ((putR_rok hi hlv _ _ _).fin hi hlv) ((hI.putR hP pa _ _ pb).fin 0) (fe (t.put' hl pa _ _)) _
  · rw [tdeed_k6 _ _ _ _ k]
    exact t.told hl hn ((readR_rok hi hlv _ _).fin hi hlv) ((hI.readR hP _).fin 0) (fe (t.read hl pa _)) _
  · rw [tdeed_k7 _ _ _ _ k]
    exact t.told hl hn ((writeR_rok hi hlv _ _ _).fin hi hlv) ((hI.writeR hP pa _ _ hd.n).fin 0) (fe (t.write hl pa _ _)) _
  · rw [tdeed_k8 _ _ _ _ k]
    exact t.told hl hn ((freeR_rok hi hlv _).fin hi hlv) ((hI.freeR hP pa).fin 0) (fe (t.free hl pa)) _
  · rw [tdeed_k9 _ _ _ _ k]
    exact t.led hl hn ((loadR_rok hi hlv _).fin hi hlv) ((hI.loadR hP pb).fin 0) (fe (t.load hl pb)) hd.A (load_led hI 0 _)
  · rw [tdeed_k10 _ _ _ _ k]
    exact t.led hl hn ((takeR_rok hlv).fin hi hlv) ((hI.takeR hP).fin 0) (fe (t.take hl)) hd.A (take_led 0)
  · rw [tdeed_k11 _ _ _ _ k]
    exact t.told (r := ⟨S, 0, 0⟩) hl hn f0 hI (mild_of (by simp)) _
  · rw [tdeed_k12 _ _ _ _ k]
    have g := (t.put hd.A ⟨_, rfl, pb⟩).told (r := ⟨S, 0, 0⟩) hl hn f0 hI (mild_of (by simp)) 0
    exact ⟨g.si, g.b, g.n, g.l, g.s, g.now, g.k, g.e⟩
  · rw [tdeed_k13 _ _ _ _ k]
    have g := (t.put hd.A ⟨0, rfl, .inl rfl⟩).told (r := ⟨S, 0, 0⟩) hl hn f0 hI (mild_of (by simp)) 0
    exact ⟨g.si, g.b, g.n, g.l, g.s, g.now, g.k, g.e⟩
theorem SI.noreads (t : SI n S h) (hl : h.l = true) : S.readsClash 0 (S.t 0) = false := by
  cases hr : S.readsClash 0 (S.t 0) with
  | false => rfl
  | true =>
    unfold Stt.readsClash at hr
    rw [List.any_eq_true] at hr
    obtain ⟨p, hp, hcl⟩ := hr
    cases hl' : lk S.H.cur p with
    | none => rw [hl'] at hcl; cases hcl
    | some ob => rw [hl'] at hcl; simp only [t.noclash hl hl'] at hcl; cases hcl
theorem SI.commits (t : SI n S h) (hl : h.l = true) (hn1 : n < 99) : (S.commit 0).e = 0 ∧ SI (n + 1) (S.tcommit 0 h).S ⟨h.b + 1, 0, h.r, h.r, false⟩ ∧ (S.tcommit 0 h).h = ⟨h.b + 1, 0, h.r, h.r, false⟩ ∧ (S.tcommit 0 h).a.k = 3 ∧ (S.tcommit 0 h).a.e = 0 := by
  have he : (S.commit 0).e = 0 := by
    have hm : (S.commitR 0 (S.t 0)).e = 0 := by
      unfold Stt.commitR
      split
      · rfl
      · rw [t.noreads hl]; rfl
    exact ((fin_mild (mild_of (.inr (.inl hm)))).1).trans hm
  have eh : (S.tcommit 0 h).h = ⟨h.b + 1, 0, h.r, h.r, false⟩ := by unfold Stt.tcommit; rw [if_pos he]
  have ea : (S.tcommit 0 h).a = ⟨3, 0, (S.commit 0).v⟩ := by unfold Stt.tcommit; rw [if_pos he]
  have eS : (S.tcommit 0 h).S = (S.commit 0).S := by unfold Stt.tcommit; rw [if_pos he]
  have ti := t.ti.commit hl (by omega) (by omega) hn1
  obtain ⟨g, l1, _, _⟩ := commit_ends (S := S) t.ti.lt
  rw [eh] at ti
  rw [← eS] at g l1
  refine ⟨he, t.next ti g (by omega) (fun h0 => by cases h0) (fun h0 => ?_), eh, by rw [ea], by rw [ea]⟩
  have := (g.hol2 l1 h0).1
  rw [t.ti.lv, hl] at this; cases this
theorem SI.begins (t : SI n S h) (hl : h.l = false) : SI (n + 1) (S.tbegin 0 h).S (S.tbegin 0 h).h := by
  have ti := t.ti.begin hl
  obtain ⟨g, l1⟩ := begin_mv (S := S) t.ti.lt
  refine t.next ti g (by omega) (fun _ => ?_) (fun _ => rfl)
  have hlv : (S.t 0).live = false := t.ti.lv.trans hl
  have e1 : S.begin 0 = S.tx 0 ((S.t 0).begun S.now) := by unfold Stt.begin; rw [hlv]; rfl
  show ((S.begin 0).t 0).start = (S.begin 0).now
  rw [e1, tx_t t.ti.lt, if_pos rfl]; rfl
/-- The first state. -/
theorem si_fresh (hI : Inv (Stt.fresh 2000 1 100 100 99)) : SI 0 (Stt.fresh 2000 1 100 100 99) Th0 :=
  ⟨ti_fresh hI, List.length_replicate, rfl, ⟨Nat.le_refl 1, Nat.le_refl 1⟩, (fun h => by cases h), .inl rfl⟩
/-- An abort of the thread's own. -/
theorem SI.aborts (t : SI n S h) (hl : h.l = true) (hn : h.n < 7) (hn1 : n ≤ 100) (d : DeedV) (hd : d.ok) (h14 : d.k = 14) :
    SI (n + 1) (S.tdeed 0 h d).S (S.tdeed 0 h d).h ∧ (S.tdeed 0 h d).h = ⟨h.b + 1, 0, h.s, h.s, false⟩ ∧ (S.tdeed 0 h d).S.now = S.now := by
  have ti := t.ti.deed hl (by omega) (by omega) hn (by omega) d hd
  rw [tdeed_k14 _ _ _ _ h14] at ti ⊢
  have g := aborted_mv (S := S) t.ti.lt
  obtain ⟨a1, a2⟩ := aborted_t (S := S) t.ti.lt
  refine ⟨t.next ti g (by omega) (fun h0 => by cases h0) (fun h0 => ?_), rfl, a2⟩
  exfalso
  have := (g.hol2 (by rw [a1]; rfl) h0).1
  rw [t.ti.lv, hl] at this; cases this
end Us
end Go.Proofs.YtemohiainfllcaaGreat

/- A block that is undone by its own abort, in plain Lean. -/
namespace Go.Proofs.YtemohiainfllcaaGreat
open Hp
namespace Us
def D0 : DeedV := ⟨1, 0, 0, 1, 1⟩
def Dab : DeedV := ⟨14, 0, 0, 0, 0⟩
theorem D0_ok : D0.ok := ⟨by decide, by decide, by decide, by decide, by decide, fun _ => by decide⟩
theorem Dab_ok : Dab.ok := ⟨by decide, by decide, by decide, by decide, by decide, fun h => by rcases h with h | h <;> cases h⟩
/-- The blocks of the law. -/
structure Blks (q : List (List DeedV)) : Prop where
  p : Prg q
  z : q[0]? = some [D0]
  o : q.length = 1 ∨ (q.length = 2 ∧ ∃ ds, q[1]? = some (ds ++ [Dab]))
variable {q : List (List DeedV)}
theorem Blks.len (h : Blks q) : 1 ≤ q.length ∧ q.length ≤ 2 := by rcases h.o with e | ⟨e, _⟩ <;> omega
theorem tstep_at {S : Stt} {h : ThV} {l : List (List DeedV)} {ds : List DeedV} (hb : l[h.b.toNat]? = some ds) (hb0 : 0 ≤ h.b) (hl : h.l = true) :
    S.tstep 0 l h = match ds[h.n.toNat]? with | none => S.tcommit 0 h | some d => S.tdeed 0 h d := by
  have := (List.getElem?_eq_some_iff.1 hb).1
  unfold Stt.tstep
  rw [if_neg (by omega), if_neg (by rw [hl]; simp), List.getD_eq_getElem?_getD, hb]; rfl
theorem tstep_bg {S : Stt} {h : ThV} {l : List (List DeedV)} (hb : h.b < (l.length : Int)) (hl : h.l = false) : S.tstep 0 l h = S.tbegin 0 h := by
  unfold Stt.tstep
  rw [if_neg (by omega), if_pos hl]
/-- Behind the first block. -/
structure Bs (n : Nat) (T : TR) (f : R6) : Prop where
  si : SI n T.S T.h
  now : T.S.now = 1
  f0 : f.a0 ≠ 0
theorem back_start (hq : Blks q) (hI : Inv (Stt.fresh 2000 1 100 100 99)) : ∃ f, Bs 3 (It (Stt.fresh 2000 1 100 100 99) q 3) f ∧ (It (Stt.fresh 2000 1 100 100 99) q 3).h = ⟨1, 0, f, f, false⟩ := by
  have hlen := hq.len
  have t0 := si_fresh hI
  have e1 : It (Stt.fresh 2000 1 100 100 99) q 1 = (Stt.fresh 2000 1 100 100 99).tbegin 0 Th0 := tstep_bg (by show (0 : Int) < _; omega) rfl
  have t1 := t0.begins rfl
  rw [← e1] at t1
  have h1 : (It (Stt.fresh 2000 1 100 100 99) q 1).h = ⟨0, 0, Th0.r, Th0.r, true⟩ := by rw [e1]; rfl
  have n1 : (It (Stt.fresh 2000 1 100 100 99) q 1).S.now = 0 := by rw [e1]; rfl
  have e2 : It (Stt.fresh 2000 1 100 100 99) q 2 = (It (Stt.fresh 2000 1 100 100 99) q 1).S.tdeed 0 (It (Stt.fresh 2000 1 100 100 99) q 1).h D0 := by
    have := tstep_at (S := (It (Stt.fresh 2000 1 100 100 99) q 1).S) (h := (It (Stt.fresh 2000 1 100 100 99) q 1).h) (l := q) (ds := [D0]) (by rw [h1]; exact hq.z) (by rw [h1]; exact Int.le_refl 0) (by rw [h1])
    rw [show ((It (Stt.fresh 2000 1 100 100 99) q 1).h).n.toNat = 0 from by rw [h1]; rfl] at this
    exact this
  generalize It (Stt.fresh 2000 1 100 100 99) q 1 = T1 at *
  have g2 := t1.deed (by rw [h1]) (by rw [h1]; show (0 : Int) < 7; omega) (by omega) D0 D0_ok (by decide)
  have ea : T1.S.alloc 0 ⟨1, 1, false, false⟩ = ⟨T1.S.laid 0 (T1.S.t 0) ⟨1, 1, false, false⟩, T1.S.H.top, 0⟩ := by
    unfold Stt.alloc; rw [t1.alloc (by omega) _ (by decide)]; rfl
  have e2' : T1.S.tdeed 0 T1.h D0 = ledR ⟨T1.S.laid 0 (T1.S.t 0) ⟨1, 1, false, false⟩, T1.S.H.top, 0⟩ T1.h 0 := by
    rw [tdeed_k1 _ _ _ _ rfl]; exact congrArg (fun r => ledR r T1.h 0) ea
  rw [← e2] at g2
  have r2 : (It (Stt.fresh 2000 1 100 100 99) q 2).h.r.a0 = (T1.S.H.top : Int) := by
    rw [e2, e2']
    show (T1.h.led 0 _ 0).r.a0 = _
    unfold ThV.led ThV.ended
    rw [if_pos rfl, if_neg (by omega), if_neg (by omega)]; rfl
  have hh : (It (Stt.fresh 2000 1 100 100 99) q 2).S.t 0 = (T1.S.t 0).holding T1.S.H.top 0 := by
    rw [e2, e2']
    show (T1.S.laid 0 (T1.S.t 0) _).t 0 = _
    exact (set_t t1.ti.lt _ 0 _ _ _ _ _).trans (if_pos rfl)
  have top1 := t1.top.1
  have e3 : It (Stt.fresh 2000 1 100 100 99) q 3 = (It (Stt.fresh 2000 1 100 100 99) q 2).S.tcommit 0 (It (Stt.fresh 2000 1 100 100 99) q 2).h := by
    have := tstep_at (S := (It (Stt.fresh 2000 1 100 100 99) q 2).S) (h := (It (Stt.fresh 2000 1 100 100 99) q 2).h) (l := q) (ds := [D0]) (by rw [g2.b, h1]; exact hq.z) (by rw [g2.b, h1]; exact Int.le_refl 0) g2.l
    rw [show ((It (Stt.fresh 2000 1 100 100 99) q 2).h).n.toNat = 1 from by rw [g2.n, h1]; rfl] at this
    exact this
  have b2 := g2.b
  have w2 := g2.now
  have l2 := g2.l
  have t2 := g2.si
  clear e2 e2' g2 ea
  generalize It (Stt.fresh 2000 1 100 100 99) q 2 = T2 at *
  obtain ⟨c1, c2, c3, _, _⟩ := t2.commits l2 (by omega)
  have eS : (T2.S.tcommit 0 T2.h).S = (T2.S.commit 0).S := by unfold Stt.tcommit; rw [if_pos c1]
  have eN : (T2.S.commit 0).S.now = 1 := by
    have e4 : T2.S.commitR 0 (T2.S.t 0) = ⟨T2.S.committed 0 (T2.S.t 0), ((T2.S.now + 1 : Nat) : Int), 0⟩ := by
      unfold Stt.commitR
      rw [if_neg, t2.noreads l2]
      · rfl
      · rintro ⟨h0, _⟩
        rw [hh] at h0
        have h0 : (T1.S.t 0).log.holds ++ [(T1.S.H.top, 0)] = [] := h0
        simp at h0
    have e5 : (T2.S.commit 0).S = T2.S.committed 0 (T2.S.t 0) := by
      unfold Stt.commit; rw [e4]; rfl
    rw [e5]
    show T2.S.now + 1 = 1
    rw [w2, n1]
  refine ⟨T2.h.r, ⟨?_, ?_, ?_⟩, ?_⟩
  · rw [e3, c3]; exact c2
  · rw [e3, eS]; exact eN
  · rw [r2]; omega
  · rw [e3, c3, b2, h1]; rfl
/-- The second block under way, or done. -/
structure Bi (q : List (List DeedV)) (f : R6) (i : Nat) (T : TR) : Prop where
  bs : Bs (3 + i) T f
  st : (T.h.b = q.length ∧ T.h.l = false ∧ T.h.r = f) ∨ (q.length = 2 ∧ T.h.b = 1 ∧ ((T.h.l = false ∧ i = 0 ∧ T.h.r = f) ∨ (T.h.l = true ∧ T.h.n + 1 = i ∧ T.h.s = f ∧ ∃ ds, q[1]? = some (ds ++ [Dab]) ∧ T.h.n ≤ ds.length ∧ ds.length ≤ 6)))
theorem Bi.le {f : R6} {i : Nat} {T : TR} (h : Bi q f i T) : ¬ ((q.length : Int) ≤ T.h.b) → i ≤ 7 := by
  intro hd
  rcases h.st with ⟨h1, _⟩ | ⟨_, _, ⟨_, h3, _⟩ | ⟨_, h3, _, ds, _, h5, h6⟩⟩ <;> omega
theorem Bi.step {f : R6} {i : Nat} {T : TR} (hq : Blks q) (h : Bi q f i T) (hd : ¬ ((q.length : Int) ≤ T.h.b)) (hi : i ≤ 20) : Bi q f (i + 1) (T.S.tstep 0 q T.h) := by
  have hs := h.bs.si
  rcases h.st with ⟨h1, _⟩ | ⟨h2, h3, ⟨h4, h5, h6⟩ | ⟨h4, h5, h6, ds, h7, h8, h9⟩⟩
  · omega
  · have e : T.S.tstep 0 q T.h = T.S.tbegin 0 T.h := tstep_bg (by omega) h4
    rw [e]
    obtain ⟨_, ds, hds⟩ := hq.o.resolve_left (by omega)
    have h7 := (hq.p _ (List.mem_of_getElem? hds)).1
    rw [List.length_append] at h7
    have h7 : ds.length ≤ 6 := by simp at h7; omega
    have hnow : (T.S.begin 0).now = T.S.now := by
      unfold Stt.begin; split <;> rfl
    refine ⟨⟨hs.begins h4, hnow.trans h.bs.now, h.bs.f0⟩, .inr ⟨h2, h3, .inr ⟨rfl, ?_, h6, ds, hds, ?_, h7⟩⟩⟩
    · show (0 : Int) + 1 = ((i + 1 : Nat) : Int); omega
    · show (0 : Int) ≤ _; omega
  · have hn0 := hs.ti.n0
    have hb1 : T.h.b.toNat = 1 := by rw [h3]; rfl
    have e := tstep_at (S := T.S) (h := T.h) (l := q) (ds := ds ++ [Dab]) (by rw [hb1]; exact h7) (by omega) h4
    have hp := hq.p _ (List.mem_of_getElem? h7)
    have hlt : T.h.n.toNat < (ds ++ [Dab]).length := by rw [List.length_append]; simp; omega
    rw [List.getElem?_eq_getElem hlt] at e
    simp only at e
    have hdk := (hp.2 _ (List.getElem_mem hlt)).1
    rw [e]
    by_cases h14 : (ds ++ [Dab])[T.h.n.toNat].k = 14
    · obtain ⟨a1, a2, a3⟩ := hs.aborts h4 (by omega) (by omega) _ hdk h14
      refine ⟨⟨a1, a3.trans h.bs.now, h.bs.f0⟩, .inl ?_⟩
      rw [a2]
      exact ⟨by show T.h.b + 1 = _; omega, rfl, h6⟩
    · have g := hs.deed h4 (by omega) (by omega) _ hdk h14
      have hne : T.h.n.toNat ≠ ds.length := fun e' => by
        have : (ds ++ [Dab])[T.h.n.toNat] = Dab := by simp [e']
        rw [this] at h14; exact h14 rfl
      refine ⟨⟨g.si, g.now.trans h.bs.now, h.bs.f0⟩, .inr ⟨h2, g.b.trans h3, .inr ⟨g.l, ?_, g.s.trans h6, ds, h7, ?_, h9⟩⟩⟩
      · rw [g.n]; omega
      · rw [g.n]; omega
theorem back_first (hq : Blks q) {f : R6} {T : TR} (h : Bs 3 T f) (e : T.h = ⟨1, 0, f, f, false⟩) : Bi q f 0 T := by
  refine ⟨h, ?_⟩
  rw [e]
  rcases hq.o with h1 | ⟨h1, _⟩
  · exact .inl ⟨by rw [h1]; rfl, rfl, rfl⟩
  · exact .inr ⟨h1, rfl, .inl ⟨rfl, rfl, rfl⟩⟩
theorem Bi.done {f : R6} {i : Nat} {T : TR} (h : Bi q f i T) (hd : (q.length : Int) ≤ T.h.b) : T.h.b = q.length ∧ T.h.l = false ∧ T.h.r = f := by
  rcases h.st with h1 | ⟨h2, h3, _⟩
  · exact h1
  · omega
end Us
end Go.Proofs.YtemohiainfllcaaGreat

/- The laws ThreadBack and ThreadAlone: their greater statements, each region a theorem of its own (printed by tools/regs.py). -/
namespace Go.Proofs.YtemohiainfllcaaGreat
open Go.RowKit Hp
attribute [local go_sem ↓] Go.wp_at_zero Go.wp_at_succ
set_option maxRecDepth 1000000 in
set_option maxHeartbeats 8000000 in
theorem bck13_any (Q : Exit → Act → World → Prop) (H H' : ThV) (ak ae av : Int) (P : World → Prop) (V : World) (sb bG : Nat) (vp : Value) (u0 u1 u2 u3 u4 u7 u9 u10 u11 u12 u13 u14 u15 u16 u17 u18 u19 u20 u21 u22 u23 u24 u25 u26 u27 u28 u29 u30 u31 u32 u33 u34 u35 u36 u37 u38 u39 u40 u41 u42 u43 u44 u45 u46 u47 u48 u49 u50 u51 u52 u53 u54 u55 u56 u57 u58 u59 u60 u61 u62 u63 u64 u65 u66 u67 u68 u69 u70 u71 u72 u73 u74 u75 u76 u77 u78 u79 u80 u81 u82 u83 u84 u85 u86 u87 u88 u89 u90 u91 u92 u93 u94 u95 u96 u97 u98 u99 u100 u101 u102 u103 u104 u105 u106 u107 u108 u109 u110 u111 u112 : Value) (j : Blk V bG #[.int .i64 H.b, .int .i64 H.n, .int .i64 H.r.a0, .int .i64 H.r.a1, .int .i64 H.r.a2, .int .i64 H.r.a3, .int .i64 H.r.a4, .int .i64 H.r.a5, .int .i64 H.s.a0, .int .i64 H.s.a1, .int .i64 H.s.a2, .int .i64 H.s.a3, .int .i64 H.s.a4, .int .i64 H.s.a5, .bool H.l] 57)
    (hcall : Calls Tryz.prog 30 #[ptr sb, .int .i64 0, vp, .agg #[.int .i64 H.b, .int .i64 H.n, .int .i64 H.r.a0, .int .i64 H.r.a1, .int .i64 H.r.a2, .int .i64 H.r.a3, .int .i64 H.r.a4, .int .i64 H.r.a5, .int .i64 H.s.a0, .int .i64 H.s.a1, .int .i64 H.s.a2, .int .i64 H.s.a3, .int .i64 H.s.a4, .int .i64 H.s.a5, .bool H.l]] V fun e w' => e = .returned (.tuple #[.agg #[.int .i64 H'.b, .int .i64 H'.n, .int .i64 H'.r.a0, .int .i64 H'.r.a1, .int .i64 H'.r.a2, .int .i64 H'.r.a3, .int .i64 H'.r.a4, .int .i64 H'.r.a5, .int .i64 H'.s.a0, .int .i64 H'.s.a1, .int .i64 H'.s.a2, .int .i64 H'.s.a3, .int .i64 H'.s.a4, .int .i64 H'.s.a5, .bool H'.l], .agg #[.int .i64 ak, .int .i64 ae, .int .i64 av]]) ∧ P w')
    (hP : ∀ w', P w' → Blk w' bG #[.int .i64 H.b, .int .i64 H.n, .int .i64 H.r.a0, .int .i64 H.r.a1, .int .i64 H.r.a2, .int .i64 H.r.a3, .int .i64 H.r.a4, .int .i64 H.r.a5, .int .i64 H.s.a0, .int .i64 H.s.a1, .int .i64 H.s.a2, .int .i64 H.s.a3, .int .i64 H.s.a4, .int .i64 H.s.a5, .bool H.l] 57)
    (hexit : ∀ w' U, P w' → Wr bG w' U → U.heap.size = w'.heap.size → Blk U bG #[.int .i64 H'.b, .int .i64 H'.n, .int .i64 H'.r.a0, .int .i64 H'.r.a1, .int .i64 H'.r.a2, .int .i64 H'.r.a3, .int .i64 H'.r.a4, .int .i64 H'.r.a5, .int .i64 H'.s.a0, .int .i64 H'.s.a1, .int .i64 H'.s.a2, .int .i64 H'.s.a3, .int .i64 H'.s.a4, .int .i64 H'.s.a5, .bool H'.l] 57 → Q .normal ⟨#[u0, u1, u2, u3, u4, vp, ptr sb, u7, ptr bG, u9, u10, u11, u12, u13, u14, u15, u16, u17, u18, u19, u20, u21, u22, u23, u24, u25, u26, u27, u28, u29, u30, u31, u32, u33, u34, u35, u36, u37, u38, u39, u40, u41, u42, u43, u44, u45, u46, u47, u48, (.tuple #[.agg #[.int .i64 H'.b, .int .i64 H'.n, .int .i64 H'.r.a0, .int .i64 H'.r.a1, .int .i64 H'.r.a2, .int .i64 H'.r.a3, .int .i64 H'.r.a4, .int .i64 H'.r.a5, .int .i64 H'.s.a0, .int .i64 H'.s.a1, .int .i64 H'.s.a2, .int .i64 H'.s.a3, .int .i64 H'.s.a4, .int .i64 H'.s.a5, .bool H'.l], .agg #[.int .i64 ak, .int .i64 ae, .int .i64 av]]), ptr sb, vp, .agg #[.int .i64 H.b, .int .i64 H.n, .int .i64 H.r.a0, .int .i64 H.r.a1, .int .i64 H.r.a2, .int .i64 H.r.a3, .int .i64 H.r.a4, .int .i64 H.r.a5, .int .i64 H.s.a0, .int .i64 H.s.a1, .int .i64 H.s.a2, .int .i64 H.s.a3, .int .i64 H.s.a4, .int .i64 H.s.a5, .bool H.l], (.tuple #[.agg #[.int .i64 H'.b, .int .i64 H'.n, .int .i64 H'.r.a0, .int .i64 H'.r.a1, .int .i64 H'.r.a2, .int .i64 H'.r.a3, .int .i64 H'.r.a4, .int .i64 H'.r.a5, .int .i64 H'.s.a0, .int .i64 H'.s.a1, .int .i64 H'.s.a2, .int .i64 H'.s.a3, .int .i64 H'.s.a4, .int .i64 H'.s.a5, .bool H'.l], .agg #[.int .i64 ak, .int .i64 ae, .int .i64 av]]), .agg #[.int .i64 H'.b, .int .i64 H'.n, .int .i64 H'.r.a0, .int .i64 H'.r.a1, .int .i64 H'.r.a2, .int .i64 H'.r.a3, .int .i64 H'.r.a4, .int .i64 H'.r.a5, .int .i64 H'.s.a0, .int .i64 H'.s.a1, .int .i64 H'.s.a2, .int .i64 H'.s.a3, .int .i64 H'.s.a4, .int .i64 H'.s.a5, .bool H'.l], .agg #[.int .i64 ak, .int .i64 ae, .int .i64 av], u56, u57, u58, u59, u60, u61, u62, u63, u64, u65, u66, u67, u68, u69, u70, u71, u72, u73, u74, u75, u76, u77, u78, u79, u80, u81, u82, u83, u84, u85, u86, u87, u88, u89, u90, u91, u92, u93, u94, u95, u96, u97, u98, u99, u100, u101, u102, u103, u104, u105, u106, u107, u108, u109, u110, u111, u112], []⟩ U) :
    Code.wp Tryz.prog ((Tryz.f9.body.bind (findReg 13)).getD .skip) Q ⟨#[u0, u1, u2, u3, u4, vp, ptr sb, u7, ptr bG, u9, u10, u11, u12, u13, u14, u15, u16, u17, u18, u19, u20, u21, u22, u23, u24, u25, u26, u27, u28, u29, u30, u31, u32, u33, u34, u35, u36, u37, u38, u39, u40, u41, u42, u43, u44, u45, u46, u47, u48, u49, u50, u51, u52, u53, u54, u55, u56, u57, u58, u59, u60, u61, u62, u63, u64, u65, u66, u67, u68, u69, u70, u71, u72, u73, u74, u75, u76, u77, u78, u79, u80, u81, u82, u83, u84, u85, u86, u87, u88, u89, u90, u91, u92, u93, u94, u95, u96, u97, u98, u99, u100, u101, u102, u103, u104, u105, u106, u107, u108, u109, u110, u111, u112], []⟩ V := by
  conv => arg 2; whnf
  have HC := Lib.hid hcall
  have HX := Lib.hid hexit
  have c := j.cell
  have HP := Lib.hid hP
  clear hcall hP hexit
  go_wp2_with fail
  refine HC.out.mono ?_
  rintro e w1 ⟨rfl, hp⟩
  have j1 := HP.out w1 hp
  have l4 := j1.lt
  have HE := Lib.hid (HX.out w1 (((((((((((((((w1.setCell ⟨bG, 0, none⟩ (.int .i64 H'.b)).setCell ⟨bG, 1, none⟩ (.int .i64 H'.n)).setCell ⟨bG, 2, none⟩ (.int .i64 H'.r.a0)).setCell ⟨bG, 3, none⟩ (.int .i64 H'.r.a1)).setCell ⟨bG, 4, none⟩ (.int .i64 H'.r.a2)).setCell ⟨bG, 5, none⟩ (.int .i64 H'.r.a3)).setCell ⟨bG, 6, none⟩ (.int .i64 H'.r.a4)).setCell ⟨bG, 7, none⟩ (.int .i64 H'.r.a5)).setCell ⟨bG, 8, none⟩ (.int .i64 H'.s.a0)).setCell ⟨bG, 9, none⟩ (.int .i64 H'.s.a1)).setCell ⟨bG, 10, none⟩ (.int .i64 H'.s.a2)).setCell ⟨bG, 11, none⟩ (.int .i64 H'.s.a3)).setCell ⟨bG, 12, none⟩ (.int .i64 H'.s.a4)).setCell ⟨bG, 13, none⟩ (.int .i64 H'.s.a5)).setCell ⟨bG, 14, none⟩ (.bool H'.l)) hp ((((((((((((((((Wr.refl _ _).trans (Wr.set _ _ 0 _)).trans (Wr.set _ _ 1 _)).trans (Wr.set _ _ 2 _)).trans (Wr.set _ _ 3 _)).trans (Wr.set _ _ 4 _)).trans (Wr.set _ _ 5 _)).trans (Wr.set _ _ 6 _)).trans (Wr.set _ _ 7 _)).trans (Wr.set _ _ 8 _)).trans (Wr.set _ _ 9 _)).trans (Wr.set _ _ 10 _)).trans (Wr.set _ _ 11 _)).trans (Wr.set _ _ 12 _)).trans (Wr.set _ _ 13 _)).trans (Wr.set _ _ 14 _)) (by simp) (by
    have k := (((((((((((((((j1.set 0 (.int .i64 H'.b)).set 1 (.int .i64 H'.n)).set 2 (.int .i64 H'.r.a0)).set 3 (.int .i64 H'.r.a1)).set 4 (.int .i64 H'.r.a2)).set 5 (.int .i64 H'.r.a3)).set 6 (.int .i64 H'.r.a4)).set 7 (.int .i64 H'.r.a5)).set 8 (.int .i64 H'.s.a0)).set 9 (.int .i64 H'.s.a1)).set 10 (.int .i64 H'.s.a2)).set 11 (.int .i64 H'.s.a3)).set 12 (.int .i64 H'.s.a4)).set 13 (.int .i64 H'.s.a5)).set 14 (.bool H'.l))
    simp only [List.setIfInBounds_toArray, List.set_cons_zero, List.set_cons_succ] at k
    exact k))
  have z4 := j1.free
  have c4 := j1.cell
  clear HC HP HX c j1 hp j
  go_wp2_with fail
  exact HE.out
set_option maxRecDepth 1000000 in
set_option maxHeartbeats 8000000 in
theorem bck20_any (Q : Exit → Act → World → Prop) (H H' : ThV) (ak ae av : Int) (P : World → Prop) (V : World) (sb bG : Nat) (vp : Value) (u0 u1 u2 u3 u4 u7 u9 u10 u11 u12 u13 u14 u15 u16 u17 u18 u19 u20 u21 u22 u23 u24 u25 u26 u27 u28 u29 u30 u31 u32 u33 u34 u35 u36 u37 u38 u39 u40 u41 u42 u43 u44 u45 u46 u47 u48 u49 u50 u51 u52 u53 u54 u55 u56 u57 u58 u59 u60 u61 u62 u63 u64 u65 u66 u67 u68 u69 u70 u71 u72 u73 u74 u75 u76 u77 u78 u79 u80 u81 u82 u83 u84 u85 u86 u87 u88 u89 u90 u91 u92 u93 u94 u95 u96 u97 u98 u99 u100 u101 u102 u103 u104 u105 u106 u107 u108 u109 u110 u111 u112 : Value) (j : Blk V bG #[.int .i64 H.b, .int .i64 H.n, .int .i64 H.r.a0, .int .i64 H.r.a1, .int .i64 H.r.a2, .int .i64 H.r.a3, .int .i64 H.r.a4, .int .i64 H.r.a5, .int .i64 H.s.a0, .int .i64 H.s.a1, .int .i64 H.s.a2, .int .i64 H.s.a3, .int .i64 H.s.a4, .int .i64 H.s.a5, .bool H.l] 57)
    (hcall : Calls Tryz.prog 30 #[ptr sb, .int .i64 0, vp, .agg #[.int .i64 H.b, .int .i64 H.n, .int .i64 H.r.a0, .int .i64 H.r.a1, .int .i64 H.r.a2, .int .i64 H.r.a3, .int .i64 H.r.a4, .int .i64 H.r.a5, .int .i64 H.s.a0, .int .i64 H.s.a1, .int .i64 H.s.a2, .int .i64 H.s.a3, .int .i64 H.s.a4, .int .i64 H.s.a5, .bool H.l]] V fun e w' => e = .returned (.tuple #[.agg #[.int .i64 H'.b, .int .i64 H'.n, .int .i64 H'.r.a0, .int .i64 H'.r.a1, .int .i64 H'.r.a2, .int .i64 H'.r.a3, .int .i64 H'.r.a4, .int .i64 H'.r.a5, .int .i64 H'.s.a0, .int .i64 H'.s.a1, .int .i64 H'.s.a2, .int .i64 H'.s.a3, .int .i64 H'.s.a4, .int .i64 H'.s.a5, .bool H'.l], .agg #[.int .i64 ak, .int .i64 ae, .int .i64 av]]) ∧ P w')
    (hP : ∀ w', P w' → Blk w' bG #[.int .i64 H.b, .int .i64 H.n, .int .i64 H.r.a0, .int .i64 H.r.a1, .int .i64 H.r.a2, .int .i64 H.r.a3, .int .i64 H.r.a4, .int .i64 H.r.a5, .int .i64 H.s.a0, .int .i64 H.s.a1, .int .i64 H.s.a2, .int .i64 H.s.a3, .int .i64 H.s.a4, .int .i64 H.s.a5, .bool H.l] 57)
    (hexit : ∀ w' U, P w' → Wr bG w' U → U.heap.size = w'.heap.size → Blk U bG #[.int .i64 H'.b, .int .i64 H'.n, .int .i64 H'.r.a0, .int .i64 H'.r.a1, .int .i64 H'.r.a2, .int .i64 H'.r.a3, .int .i64 H'.r.a4, .int .i64 H'.r.a5, .int .i64 H'.s.a0, .int .i64 H'.s.a1, .int .i64 H'.s.a2, .int .i64 H'.s.a3, .int .i64 H'.s.a4, .int .i64 H'.s.a5, .bool H'.l] 57 → Q .normal ⟨#[u0, u1, u2, u3, u4, vp, ptr sb, u7, ptr bG, u9, u10, u11, u12, u13, u14, u15, u16, u17, u18, u19, u20, u21, u22, u23, u24, u25, u26, u27, u28, u29, u30, u31, u32, u33, u34, u35, u36, u37, u38, u39, u40, u41, u42, u43, u44, u45, u46, u47, u48, u49, u50, u51, u52, u53, u54, u55, u56, u57, u58, u59, u60, u61, u62, u63, u64, u65, u66, u67, u68, u69, u70, u71, u72, u73, u74, u75, (.tuple #[.agg #[.int .i64 H'.b, .int .i64 H'.n, .int .i64 H'.r.a0, .int .i64 H'.r.a1, .int .i64 H'.r.a2, .int .i64 H'.r.a3, .int .i64 H'.r.a4, .int .i64 H'.r.a5, .int .i64 H'.s.a0, .int .i64 H'.s.a1, .int .i64 H'.s.a2, .int .i64 H'.s.a3, .int .i64 H'.s.a4, .int .i64 H'.s.a5, .bool H'.l], .agg #[.int .i64 ak, .int .i64 ae, .int .i64 av]]), ptr sb, vp, .agg #[.int .i64 H.b, .int .i64 H.n, .int .i64 H.r.a0, .int .i64 H.r.a1, .int .i64 H.r.a2, .int .i64 H.r.a3, .int .i64 H.r.a4, .int .i64 H.r.a5, .int .i64 H.s.a0, .int .i64 H.s.a1, .int .i64 H.s.a2, .int .i64 H.s.a3, .int .i64 H.s.a4, .int .i64 H.s.a5, .bool H.l], (.tuple #[.agg #[.int .i64 H'.b, .int .i64 H'.n, .int .i64 H'.r.a0, .int .i64 H'.r.a1, .int .i64 H'.r.a2, .int .i64 H'.r.a3, .int .i64 H'.r.a4, .int .i64 H'.r.a5, .int .i64 H'.s.a0, .int .i64 H'.s.a1, .int .i64 H'.s.a2, .int .i64 H'.s.a3, .int .i64 H'.s.a4, .int .i64 H'.s.a5, .bool H'.l], .agg #[.int .i64 ak, .int .i64 ae, .int .i64 av]]), .agg #[.int .i64 H'.b, .int .i64 H'.n, .int .i64 H'.r.a0, .int .i64 H'.r.a1, .int .i64 H'.r.a2, .int .i64 H'.r.a3, .int .i64 H'.r.a4, .int .i64 H'.r.a5, .int .i64 H'.s.a0, .int .i64 H'.s.a1, .int .i64 H'.s.a2, .int .i64 H'.s.a3, .int .i64 H'.s.a4, .int .i64 H'.s.a5, .bool H'.l], .agg #[.int .i64 ak, .int .i64 ae, .int .i64 av], u83, u84, u85, u86, u87, u88, u89, u90, u91, u92, u93, u94, u95, u96, u97, u98, u99, u100, u101, u102, u103, u104, u105, u106, u107, u108, u109, u110, u111, u112], []⟩ U) :
    Code.wp Tryz.prog ((Tryz.f9.body.bind (findReg 20)).getD .skip) Q ⟨#[u0, u1, u2, u3, u4, vp, ptr sb, u7, ptr bG, u9, u10, u11, u12, u13, u14, u15, u16, u17, u18, u19, u20, u21, u22, u23, u24, u25, u26, u27, u28, u29, u30, u31, u32, u33, u34, u35, u36, u37, u38, u39, u40, u41, u42, u43, u44, u45, u46, u47, u48, u49, u50, u51, u52, u53, u54, u55, u56, u57, u58, u59, u60, u61, u62, u63, u64, u65, u66, u67, u68, u69, u70, u71, u72, u73, u74, u75, u76, u77, u78, u79, u80, u81, u82, u83, u84, u85, u86, u87, u88, u89, u90, u91, u92, u93, u94, u95, u96, u97, u98, u99, u100, u101, u102, u103, u104, u105, u106, u107, u108, u109, u110, u111, u112], []⟩ V := by
  conv => arg 2; whnf
  have HC := Lib.hid hcall
  have HX := Lib.hid hexit
  have c := j.cell
  have HP := Lib.hid hP
  clear hcall hP hexit
  go_wp2_with fail
  refine HC.out.mono ?_
  rintro e w1 ⟨rfl, hp⟩
  have j1 := HP.out w1 hp
  have l4 := j1.lt
  have HE := Lib.hid (HX.out w1 (((((((((((((((w1.setCell ⟨bG, 0, none⟩ (.int .i64 H'.b)).setCell ⟨bG, 1, none⟩ (.int .i64 H'.n)).setCell ⟨bG, 2, none⟩ (.int .i64 H'.r.a0)).setCell ⟨bG, 3, none⟩ (.int .i64 H'.r.a1)).setCell ⟨bG, 4, none⟩ (.int .i64 H'.r.a2)).setCell ⟨bG, 5, none⟩ (.int .i64 H'.r.a3)).setCell ⟨bG, 6, none⟩ (.int .i64 H'.r.a4)).setCell ⟨bG, 7, none⟩ (.int .i64 H'.r.a5)).setCell ⟨bG, 8, none⟩ (.int .i64 H'.s.a0)).setCell ⟨bG, 9, none⟩ (.int .i64 H'.s.a1)).setCell ⟨bG, 10, none⟩ (.int .i64 H'.s.a2)).setCell ⟨bG, 11, none⟩ (.int .i64 H'.s.a3)).setCell ⟨bG, 12, none⟩ (.int .i64 H'.s.a4)).setCell ⟨bG, 13, none⟩ (.int .i64 H'.s.a5)).setCell ⟨bG, 14, none⟩ (.bool H'.l)) hp ((((((((((((((((Wr.refl _ _).trans (Wr.set _ _ 0 _)).trans (Wr.set _ _ 1 _)).trans (Wr.set _ _ 2 _)).trans (Wr.set _ _ 3 _)).trans (Wr.set _ _ 4 _)).trans (Wr.set _ _ 5 _)).trans (Wr.set _ _ 6 _)).trans (Wr.set _ _ 7 _)).trans (Wr.set _ _ 8 _)).trans (Wr.set _ _ 9 _)).trans (Wr.set _ _ 10 _)).trans (Wr.set _ _ 11 _)).trans (Wr.set _ _ 12 _)).trans (Wr.set _ _ 13 _)).trans (Wr.set _ _ 14 _)) (by simp) (by
    have k := (((((((((((((((j1.set 0 (.int .i64 H'.b)).set 1 (.int .i64 H'.n)).set 2 (.int .i64 H'.r.a0)).set 3 (.int .i64 H'.r.a1)).set 4 (.int .i64 H'.r.a2)).set 5 (.int .i64 H'.r.a3)).set 6 (.int .i64 H'.r.a4)).set 7 (.int .i64 H'.r.a5)).set 8 (.int .i64 H'.s.a0)).set 9 (.int .i64 H'.s.a1)).set 10 (.int .i64 H'.s.a2)).set 11 (.int .i64 H'.s.a3)).set 12 (.int .i64 H'.s.a4)).set 13 (.int .i64 H'.s.a5)).set 14 (.bool H'.l))
    simp only [List.setIfInBounds_toArray, List.set_cons_zero, List.set_cons_succ] at k
    exact k))
  have z4 := j1.free
  have c4 := j1.cell
  clear HC HP HX c j1 hp j
  go_wp2_with fail
  exact HE.out
set_option maxRecDepth 1000000 in
set_option maxHeartbeats 8000000 in
theorem aln26_any (Q : Exit → Act → World → Prop) (H H' : ThV) (ak ae av : Int) (P : World → Prop) (V : World) (sb bG : Nat) (vp : Value) (u0 u1 u2 u3 u4 u6 u7 u8 u10 u12 u13 u14 u15 u16 u17 u18 u19 u20 u21 u22 u23 u24 u25 u26 u27 u28 u29 u30 u31 u32 u33 u34 u35 u36 u37 u38 u39 u40 u41 u42 u43 u44 u45 u46 u47 u48 u49 u50 u51 u52 u53 u54 u55 u56 u57 u58 u59 u60 u61 u62 u63 u64 u65 u66 u67 u68 u69 u70 u71 u72 u73 u74 u75 u76 u77 u78 u79 u80 u81 u82 u83 u84 u85 u86 u87 u88 u89 u90 u91 u92 u93 u94 u95 u96 u97 u98 u99 u100 u101 u102 u103 u104 u105 u106 u107 u108 u109 u110 u111 u112 u113 u114 u115 u116 u117 u118 u119 u120 u121 u122 u123 u124 u125 u126 u127 u128 u129 u130 u131 u132 u133 u134 u135 u136 u137 u138 u139 u140 u141 u142 u143 u144 u145 u146 u147 u148 u149 u150 u151 u152 u153 u154 u155 u156 u157 u158 u159 u160 u161 u162 u163 u164 u165 u166 u167 u168 u169 u170 u171 u172 u173 u174 u175 u176 u177 u178 u179 u180 u181 u182 u183 u184 : Value) (j : Blk V bG #[.int .i64 H.b, .int .i64 H.n, .int .i64 H.r.a0, .int .i64 H.r.a1, .int .i64 H.r.a2, .int .i64 H.r.a3, .int .i64 H.r.a4, .int .i64 H.r.a5, .int .i64 H.s.a0, .int .i64 H.s.a1, .int .i64 H.s.a2, .int .i64 H.s.a3, .int .i64 H.s.a4, .int .i64 H.s.a5, .bool H.l] 57)
    (hcall : Calls Tryz.prog 30 #[ptr sb, .int .i64 0, vp, .agg #[.int .i64 H.b, .int .i64 H.n, .int .i64 H.r.a0, .int .i64 H.r.a1, .int .i64 H.r.a2, .int .i64 H.r.a3, .int .i64 H.r.a4, .int .i64 H.r.a5, .int .i64 H.s.a0, .int .i64 H.s.a1, .int .i64 H.s.a2, .int .i64 H.s.a3, .int .i64 H.s.a4, .int .i64 H.s.a5, .bool H.l]] V fun e w' => e = .returned (.tuple #[.agg #[.int .i64 H'.b, .int .i64 H'.n, .int .i64 H'.r.a0, .int .i64 H'.r.a1, .int .i64 H'.r.a2, .int .i64 H'.r.a3, .int .i64 H'.r.a4, .int .i64 H'.r.a5, .int .i64 H'.s.a0, .int .i64 H'.s.a1, .int .i64 H'.s.a2, .int .i64 H'.s.a3, .int .i64 H'.s.a4, .int .i64 H'.s.a5, .bool H'.l], .agg #[.int .i64 ak, .int .i64 ae, .int .i64 av]]) ∧ P w')
    (hexit : ∀ w', P w' → Q .normal ⟨#[u0, u1, u2, u3, u4, vp, u6, u7, u8, ptr sb, u10, ptr bG, u12, u13, ptr w'.heap.size, ptr (w'.heap.size + 1), u16, u17, u18, u19, u20, u21, u22, u23, u24, u25, u26, u27, u28, u29, u30, u31, u32, u33, u34, u35, u36, u37, u38, u39, u40, u41, u42, u43, u44, u45, u46, u47, u48, u49, u50, u51, u52, u53, u54, u55, u56, u57, u58, u59, u60, u61, u62, u63, u64, u65, u66, u67, u68, u69, u70, u71, u72, u73, u74, u75, u76, u77, u78, u79, u80, u81, u82, u83, u84, u85, u86, u87, u88, u89, u90, u91, u92, u93, u94, u95, u96, u97, u98, u99, u100, u101, u102, u103, (.tuple #[.agg #[.int .i64 H'.b, .int .i64 H'.n, .int .i64 H'.r.a0, .int .i64 H'.r.a1, .int .i64 H'.r.a2, .int .i64 H'.r.a3, .int .i64 H'.r.a4, .int .i64 H'.r.a5, .int .i64 H'.s.a0, .int .i64 H'.s.a1, .int .i64 H'.s.a2, .int .i64 H'.s.a3, .int .i64 H'.s.a4, .int .i64 H'.s.a5, .bool H'.l], .agg #[.int .i64 ak, .int .i64 ae, .int .i64 av]]), ptr sb, vp, .agg #[.int .i64 H.b, .int .i64 H.n, .int .i64 H.r.a0, .int .i64 H.r.a1, .int .i64 H.r.a2, .int .i64 H.r.a3, .int .i64 H.r.a4, .int .i64 H.r.a5, .int .i64 H.s.a0, .int .i64 H.s.a1, .int .i64 H.s.a2, .int .i64 H.s.a3, .int .i64 H.s.a4, .int .i64 H.s.a5, .bool H.l], (.tuple #[.agg #[.int .i64 H'.b, .int .i64 H'.n, .int .i64 H'.r.a0, .int .i64 H'.r.a1, .int .i64 H'.r.a2, .int .i64 H'.r.a3, .int .i64 H'.r.a4, .int .i64 H'.r.a5, .int .i64 H'.s.a0, .int .i64 H'.s.a1, .int .i64 H'.s.a2, .int .i64 H'.s.a3, .int .i64 H'.s.a4, .int .i64 H'.s.a5, .bool H'.l], .agg #[.int .i64 ak, .int .i64 ae, .int .i64 av]]), .agg #[.int .i64 H'.b, .int .i64 H'.n, .int .i64 H'.r.a0, .int .i64 H'.r.a1, .int .i64 H'.r.a2, .int .i64 H'.r.a3, .int .i64 H'.r.a4, .int .i64 H'.r.a5, .int .i64 H'.s.a0, .int .i64 H'.s.a1, .int .i64 H'.s.a2, .int .i64 H'.s.a3, .int .i64 H'.s.a4, .int .i64 H'.s.a5, .bool H'.l], .agg #[.int .i64 ak, .int .i64 ae, .int .i64 av], u111, u112, u113, u114, u115, u116, u117, u118, u119, u120, u121, u122, u123, u124, u125, u126, u127, u128, u129, u130, u131, u132, u133, u134, u135, u136, u137, u138, u139, u140, u141, u142, u143, u144, u145, u146, u147, u148, u149, u150, u151, u152, u153, u154, u155, u156, u157, u158, u159, u160, u161, u162, u163, u164, u165, u166, u167, u168, u169, u170, u171, u172, u173, u174, u175, u176, u177, u178, u179, u180, u181, u182, u183, u184], []⟩ ((w'.alloc (.cells #[.int .i64 H'.b, .int .i64 H'.n, .int .i64 H'.r.a0, .int .i64 H'.r.a1, .int .i64 H'.r.a2, .int .i64 H'.r.a3, .int .i64 H'.r.a4, .int .i64 H'.r.a5, .int .i64 H'.s.a0, .int .i64 H'.s.a1, .int .i64 H'.s.a2, .int .i64 H'.s.a3, .int .i64 H'.s.a4, .int .i64 H'.s.a5, .bool H'.l] 57)).alloc (.cells #[.int .i64 ak, .int .i64 ae, .int .i64 av] 60))) :
    Code.wp Tryz.prog ((Tryz.f7.body.bind (findReg 26)).getD .skip) Q ⟨#[u0, u1, u2, u3, u4, vp, u6, u7, u8, ptr sb, u10, ptr bG, u12, u13, u14, u15, u16, u17, u18, u19, u20, u21, u22, u23, u24, u25, u26, u27, u28, u29, u30, u31, u32, u33, u34, u35, u36, u37, u38, u39, u40, u41, u42, u43, u44, u45, u46, u47, u48, u49, u50, u51, u52, u53, u54, u55, u56, u57, u58, u59, u60, u61, u62, u63, u64, u65, u66, u67, u68, u69, u70, u71, u72, u73, u74, u75, u76, u77, u78, u79, u80, u81, u82, u83, u84, u85, u86, u87, u88, u89, u90, u91, u92, u93, u94, u95, u96, u97, u98, u99, u100, u101, u102, u103, u104, u105, u106, u107, u108, u109, u110, u111, u112, u113, u114, u115, u116, u117, u118, u119, u120, u121, u122, u123, u124, u125, u126, u127, u128, u129, u130, u131, u132, u133, u134, u135, u136, u137, u138, u139, u140, u141, u142, u143, u144, u145, u146, u147, u148, u149, u150, u151, u152, u153, u154, u155, u156, u157, u158, u159, u160, u161, u162, u163, u164, u165, u166, u167, u168, u169, u170, u171, u172, u173, u174, u175, u176, u177, u178, u179, u180, u181, u182, u183, u184], []⟩ V := by
  conv => arg 2; whnf
  have HC := Lib.hid hcall
  have HX := Lib.hid hexit
  have c := j.cell
  clear hcall hexit
  go_wp2_with fail
  refine HC.out.mono ?_
  rintro e w1 ⟨rfl, hp⟩
  have HE := Lib.hid (HX.out w1 hp)
  clear HC HX c hp j
  go_wp2_with fail
  exact HE.out
set_option maxRecDepth 1000000 in
set_option maxHeartbeats 8000000 in
theorem aln35_any (Q : Exit → Act → World → Prop) (H H' : ThV) (V : World) (bX bG : Nat) (u0 u1 u2 u3 u4 u5 u6 u7 u8 u9 u10 u12 u13 u15 u16 u17 u18 u19 u20 u21 u22 u23 u24 u25 u26 u27 u28 u29 u30 u31 u32 u33 u34 u35 u36 u37 u38 u39 u40 u41 u42 u43 u44 u45 u46 u47 u48 u49 u50 u51 u52 u53 u54 u55 u56 u57 u58 u59 u60 u61 u62 u63 u64 u65 u66 u67 u68 u69 u70 u71 u72 u73 u74 u75 u76 u77 u78 u79 u80 u81 u82 u83 u84 u85 u86 u87 u88 u89 u90 u91 u92 u93 u94 u95 u96 u97 u98 u99 u100 u101 u102 u103 u104 u105 u106 u107 u108 u109 u110 u111 u112 u113 u114 u115 u116 u117 u118 u119 u120 u121 u122 u123 u124 u125 u126 u127 u128 u129 u130 u131 u132 u133 u134 u135 u136 u137 u138 u139 u140 u141 u142 u143 u144 u145 u146 u147 u148 u149 u150 u151 u152 u153 u154 u155 u156 u157 u158 u159 u160 u161 u162 u163 u164 u165 u166 u167 u168 u169 u170 u171 u172 u173 u174 u175 u176 u177 u178 u179 u180 u181 u182 u183 u184 : Value) (jX : Blk V bX #[.int .i64 H'.b, .int .i64 H'.n, .int .i64 H'.r.a0, .int .i64 H'.r.a1, .int .i64 H'.r.a2, .int .i64 H'.r.a3, .int .i64 H'.r.a4, .int .i64 H'.r.a5, .int .i64 H'.s.a0, .int .i64 H'.s.a1, .int .i64 H'.s.a2, .int .i64 H'.s.a3, .int .i64 H'.s.a4, .int .i64 H'.s.a5, .bool H'.l] 57) (jG : Blk V bG #[.int .i64 H.b, .int .i64 H.n, .int .i64 H.r.a0, .int .i64 H.r.a1, .int .i64 H.r.a2, .int .i64 H.r.a3, .int .i64 H.r.a4, .int .i64 H.r.a5, .int .i64 H.s.a0, .int .i64 H.s.a1, .int .i64 H.s.a2, .int .i64 H.s.a3, .int .i64 H.s.a4, .int .i64 H.s.a5, .bool H.l] 57)
    (hexit : ∀ U, Wr bG V U → U.heap.size = V.heap.size → Blk U bG #[.int .i64 H'.b, .int .i64 H'.n, .int .i64 H'.r.a0, .int .i64 H'.r.a1, .int .i64 H'.r.a2, .int .i64 H'.r.a3, .int .i64 H'.r.a4, .int .i64 H'.r.a5, .int .i64 H'.s.a0, .int .i64 H'.s.a1, .int .i64 H'.s.a2, .int .i64 H'.s.a3, .int .i64 H'.s.a4, .int .i64 H'.s.a5, .bool H'.l] 57 → Q .normal ⟨#[u0, u1, u2, u3, u4, u5, u6, u7, u8, u9, u10, ptr bG, u12, u13, ptr bX, u15, u16, u17, u18, u19, u20, u21, u22, u23, u24, u25, u26, u27, u28, u29, u30, u31, u32, u33, u34, u35, u36, u37, u38, u39, u40, u41, u42, u43, u44, u45, u46, u47, u48, u49, u50, u51, u52, u53, u54, u55, u56, u57, u58, u59, u60, u61, u62, u63, u64, u65, u66, u67, u68, u69, u70, u71, u72, u73, u74, u75, u76, u77, u78, u79, u80, u81, u82, u83, u84, u85, u86, u87, u88, u89, u90, u91, u92, u93, u94, u95, u96, u97, u98, u99, u100, u101, u102, u103, u104, u105, u106, u107, u108, u109, u110, u111, u112, u113, u114, u115, u116, u117, u118, u119, u120, u121, u122, u123, u124, u125, u126, u127, u128, u129, u130, u131, u132, u133, u134, u135, u136, u137, u138, u139, u140, u141, u142, u143, u144, u145, u146, u147, u148, u149, u150, u151, u152, u153, u154, u155, u156, u157, u158, u159, u160, u161, u162, u163, .agg #[.int .i64 H'.b, .int .i64 H'.n, .int .i64 H'.r.a0, .int .i64 H'.r.a1, .int .i64 H'.r.a2, .int .i64 H'.r.a3, .int .i64 H'.r.a4, .int .i64 H'.r.a5, .int .i64 H'.s.a0, .int .i64 H'.s.a1, .int .i64 H'.s.a2, .int .i64 H'.s.a3, .int .i64 H'.s.a4, .int .i64 H'.s.a5, .bool H'.l], u165, u166, u167, u168, u169, u170, u171, u172, u173, u174, u175, u176, u177, u178, u179, u180, u181, u182, u183, u184], []⟩ U) :
    Code.wp Tryz.prog ((Tryz.f7.body.bind (findReg 35)).getD .skip) Q ⟨#[u0, u1, u2, u3, u4, u5, u6, u7, u8, u9, u10, ptr bG, u12, u13, ptr bX, u15, u16, u17, u18, u19, u20, u21, u22, u23, u24, u25, u26, u27, u28, u29, u30, u31, u32, u33, u34, u35, u36, u37, u38, u39, u40, u41, u42, u43, u44, u45, u46, u47, u48, u49, u50, u51, u52, u53, u54, u55, u56, u57, u58, u59, u60, u61, u62, u63, u64, u65, u66, u67, u68, u69, u70, u71, u72, u73, u74, u75, u76, u77, u78, u79, u80, u81, u82, u83, u84, u85, u86, u87, u88, u89, u90, u91, u92, u93, u94, u95, u96, u97, u98, u99, u100, u101, u102, u103, u104, u105, u106, u107, u108, u109, u110, u111, u112, u113, u114, u115, u116, u117, u118, u119, u120, u121, u122, u123, u124, u125, u126, u127, u128, u129, u130, u131, u132, u133, u134, u135, u136, u137, u138, u139, u140, u141, u142, u143, u144, u145, u146, u147, u148, u149, u150, u151, u152, u153, u154, u155, u156, u157, u158, u159, u160, u161, u162, u163, u164, u165, u166, u167, u168, u169, u170, u171, u172, u173, u174, u175, u176, u177, u178, u179, u180, u181, u182, u183, u184], []⟩ V := by
  conv => arg 2; whnf
  have HE := Lib.hid (hexit (((((((((((((((V.setCell ⟨bG, 0, none⟩ (.int .i64 H'.b)).setCell ⟨bG, 1, none⟩ (.int .i64 H'.n)).setCell ⟨bG, 2, none⟩ (.int .i64 H'.r.a0)).setCell ⟨bG, 3, none⟩ (.int .i64 H'.r.a1)).setCell ⟨bG, 4, none⟩ (.int .i64 H'.r.a2)).setCell ⟨bG, 5, none⟩ (.int .i64 H'.r.a3)).setCell ⟨bG, 6, none⟩ (.int .i64 H'.r.a4)).setCell ⟨bG, 7, none⟩ (.int .i64 H'.r.a5)).setCell ⟨bG, 8, none⟩ (.int .i64 H'.s.a0)).setCell ⟨bG, 9, none⟩ (.int .i64 H'.s.a1)).setCell ⟨bG, 10, none⟩ (.int .i64 H'.s.a2)).setCell ⟨bG, 11, none⟩ (.int .i64 H'.s.a3)).setCell ⟨bG, 12, none⟩ (.int .i64 H'.s.a4)).setCell ⟨bG, 13, none⟩ (.int .i64 H'.s.a5)).setCell ⟨bG, 14, none⟩ (.bool H'.l)) ((((((((((((((((Wr.refl _ _).trans (Wr.set _ _ 0 _)).trans (Wr.set _ _ 1 _)).trans (Wr.set _ _ 2 _)).trans (Wr.set _ _ 3 _)).trans (Wr.set _ _ 4 _)).trans (Wr.set _ _ 5 _)).trans (Wr.set _ _ 6 _)).trans (Wr.set _ _ 7 _)).trans (Wr.set _ _ 8 _)).trans (Wr.set _ _ 9 _)).trans (Wr.set _ _ 10 _)).trans (Wr.set _ _ 11 _)).trans (Wr.set _ _ 12 _)).trans (Wr.set _ _ 13 _)).trans (Wr.set _ _ 14 _)) (by simp) (by
    have k := (((((((((((((((jG.set 0 (.int .i64 H'.b)).set 1 (.int .i64 H'.n)).set 2 (.int .i64 H'.r.a0)).set 3 (.int .i64 H'.r.a1)).set 4 (.int .i64 H'.r.a2)).set 5 (.int .i64 H'.r.a3)).set 6 (.int .i64 H'.r.a4)).set 7 (.int .i64 H'.r.a5)).set 8 (.int .i64 H'.s.a0)).set 9 (.int .i64 H'.s.a1)).set 10 (.int .i64 H'.s.a2)).set 11 (.int .i64 H'.s.a3)).set 12 (.int .i64 H'.s.a4)).set 13 (.int .i64 H'.s.a5)).set 14 (.bool H'.l))
    simp only [List.setIfInBounds_toArray, List.set_cons_zero, List.set_cons_succ] at k
    exact k))
  have cX := jX.cell
  have zG := jG.free
  have cG := jG.cell
  have lG := jG.lt
  clear hexit jX jG
  go_wp2_with fail
  exact HE.out
set_option maxRecDepth 1000000 in
set_option maxHeartbeats 8000000 in
theorem aln36_any (Q : Exit → Act → World → Prop) (H H' : ThV) (ak ae av : Int) (P : World → Prop) (V : World) (sb bG : Nat) (vp : Value) (u0 u1 u2 u3 u4 u6 u7 u8 u10 u12 u13 u14 u15 u16 u17 u18 u19 u20 u21 u22 u23 u24 u25 u26 u27 u28 u29 u30 u31 u32 u33 u34 u35 u36 u37 u38 u39 u40 u41 u42 u43 u44 u45 u46 u47 u48 u49 u50 u51 u52 u53 u54 u55 u56 u57 u58 u59 u60 u61 u62 u63 u64 u65 u66 u67 u68 u69 u70 u71 u72 u73 u74 u75 u76 u77 u78 u79 u80 u81 u82 u83 u84 u85 u86 u87 u88 u89 u90 u91 u92 u93 u94 u95 u96 u97 u98 u99 u100 u101 u102 u103 u104 u105 u106 u107 u108 u109 u110 u111 u112 u113 u114 u115 u116 u117 u118 u119 u120 u121 u122 u123 u124 u125 u126 u127 u128 u129 u130 u131 u132 u133 u134 u135 u136 u137 u138 u139 u140 u141 u142 u143 u144 u145 u146 u147 u148 u149 u150 u151 u152 u153 u154 u155 u156 u157 u158 u159 u160 u161 u162 u163 u164 u165 u166 u167 u168 u169 u170 u171 u172 u173 u174 u175 u176 u177 u178 u179 u180 u181 u182 u183 u184 : Value) (j : Blk V bG #[.int .i64 H.b, .int .i64 H.n, .int .i64 H.r.a0, .int .i64 H.r.a1, .int .i64 H.r.a2, .int .i64 H.r.a3, .int .i64 H.r.a4, .int .i64 H.r.a5, .int .i64 H.s.a0, .int .i64 H.s.a1, .int .i64 H.s.a2, .int .i64 H.s.a3, .int .i64 H.s.a4, .int .i64 H.s.a5, .bool H.l] 57)
    (hcall : Calls Tryz.prog 30 #[ptr sb, .int .i64 0, vp, .agg #[.int .i64 H.b, .int .i64 H.n, .int .i64 H.r.a0, .int .i64 H.r.a1, .int .i64 H.r.a2, .int .i64 H.r.a3, .int .i64 H.r.a4, .int .i64 H.r.a5, .int .i64 H.s.a0, .int .i64 H.s.a1, .int .i64 H.s.a2, .int .i64 H.s.a3, .int .i64 H.s.a4, .int .i64 H.s.a5, .bool H.l]] V fun e w' => e = .returned (.tuple #[.agg #[.int .i64 H'.b, .int .i64 H'.n, .int .i64 H'.r.a0, .int .i64 H'.r.a1, .int .i64 H'.r.a2, .int .i64 H'.r.a3, .int .i64 H'.r.a4, .int .i64 H'.r.a5, .int .i64 H'.s.a0, .int .i64 H'.s.a1, .int .i64 H'.s.a2, .int .i64 H'.s.a3, .int .i64 H'.s.a4, .int .i64 H'.s.a5, .bool H'.l], .agg #[.int .i64 ak, .int .i64 ae, .int .i64 av]]) ∧ P w')
    (hexit : ∀ w', P w' → Q .normal ⟨#[u0, u1, u2, u3, u4, vp, u6, u7, u8, ptr sb, u10, ptr bG, u12, u13, u14, u15, u16, u17, ptr w'.heap.size, ptr (w'.heap.size + 1), u20, u21, u22, u23, u24, u25, u26, u27, u28, u29, u30, u31, u32, u33, u34, u35, u36, u37, u38, u39, u40, u41, u42, u43, u44, u45, u46, u47, u48, u49, u50, u51, u52, u53, u54, u55, u56, u57, u58, u59, u60, u61, u62, u63, u64, u65, u66, u67, u68, u69, u70, u71, u72, u73, u74, u75, u76, u77, u78, u79, u80, u81, u82, u83, u84, u85, u86, u87, u88, u89, u90, u91, u92, u93, u94, u95, u96, u97, u98, u99, u100, u101, u102, u103, u104, u105, u106, u107, u108, u109, u110, u111, u112, u113, u114, u115, u116, u117, u118, u119, u120, u121, u122, u123, u124, u125, u126, u127, u128, u129, u130, u131, u132, u133, u134, u135, u136, u137, u138, u139, u140, u141, u142, u143, u144, u145, u146, u147, u148, u149, u150, u151, u152, u153, u154, u155, u156, u157, u158, u159, u160, u161, u162, u163, u164, (.tuple #[.agg #[.int .i64 H'.b, .int .i64 H'.n, .int .i64 H'.r.a0, .int .i64 H'.r.a1, .int .i64 H'.r.a2, .int .i64 H'.r.a3, .int .i64 H'.r.a4, .int .i64 H'.r.a5, .int .i64 H'.s.a0, .int .i64 H'.s.a1, .int .i64 H'.s.a2, .int .i64 H'.s.a3, .int .i64 H'.s.a4, .int .i64 H'.s.a5, .bool H'.l], .agg #[.int .i64 ak, .int .i64 ae, .int .i64 av]]), ptr sb, vp, .agg #[.int .i64 H.b, .int .i64 H.n, .int .i64 H.r.a0, .int .i64 H.r.a1, .int .i64 H.r.a2, .int .i64 H.r.a3, .int .i64 H.r.a4, .int .i64 H.r.a5, .int .i64 H.s.a0, .int .i64 H.s.a1, .int .i64 H.s.a2, .int .i64 H.s.a3, .int .i64 H.s.a4, .int .i64 H.s.a5, .bool H.l], (.tuple #[.agg #[.int .i64 H'.b, .int .i64 H'.n, .int .i64 H'.r.a0, .int .i64 H'.r.a1, .int .i64 H'.r.a2, .int .i64 H'.r.a3, .int .i64 H'.r.a4, .int .i64 H'.r.a5, .int .i64 H'.s.a0, .int .i64 H'.s.a1, .int .i64 H'.s.a2, .int .i64 H'.s.a3, .int .i64 H'.s.a4, .int .i64 H'.s.a5, .bool H'.l], .agg #[.int .i64 ak, .int .i64 ae, .int .i64 av]]), .agg #[.int .i64 H'.b, .int .i64 H'.n, .int .i64 H'.r.a0, .int .i64 H'.r.a1, .int .i64 H'.r.a2, .int .i64 H'.r.a3, .int .i64 H'.r.a4, .int .i64 H'.r.a5, .int .i64 H'.s.a0, .int .i64 H'.s.a1, .int .i64 H'.s.a2, .int .i64 H'.s.a3, .int .i64 H'.s.a4, .int .i64 H'.s.a5, .bool H'.l], .agg #[.int .i64 ak, .int .i64 ae, .int .i64 av], u172, u173, u174, u175, u176, u177, u178, u179, u180, u181, u182, u183, u184], []⟩ ((w'.alloc (.cells #[.int .i64 H'.b, .int .i64 H'.n, .int .i64 H'.r.a0, .int .i64 H'.r.a1, .int .i64 H'.r.a2, .int .i64 H'.r.a3, .int .i64 H'.r.a4, .int .i64 H'.r.a5, .int .i64 H'.s.a0, .int .i64 H'.s.a1, .int .i64 H'.s.a2, .int .i64 H'.s.a3, .int .i64 H'.s.a4, .int .i64 H'.s.a5, .bool H'.l] 57)).alloc (.cells #[.int .i64 ak, .int .i64 ae, .int .i64 av] 60))) :
    Code.wp Tryz.prog ((Tryz.f7.body.bind (findReg 36)).getD .skip) Q ⟨#[u0, u1, u2, u3, u4, vp, u6, u7, u8, ptr sb, u10, ptr bG, u12, u13, u14, u15, u16, u17, u18, u19, u20, u21, u22, u23, u24, u25, u26, u27, u28, u29, u30, u31, u32, u33, u34, u35, u36, u37, u38, u39, u40, u41, u42, u43, u44, u45, u46, u47, u48, u49, u50, u51, u52, u53, u54, u55, u56, u57, u58, u59, u60, u61, u62, u63, u64, u65, u66, u67, u68, u69, u70, u71, u72, u73, u74, u75, u76, u77, u78, u79, u80, u81, u82, u83, u84, u85, u86, u87, u88, u89, u90, u91, u92, u93, u94, u95, u96, u97, u98, u99, u100, u101, u102, u103, u104, u105, u106, u107, u108, u109, u110, u111, u112, u113, u114, u115, u116, u117, u118, u119, u120, u121, u122, u123, u124, u125, u126, u127, u128, u129, u130, u131, u132, u133, u134, u135, u136, u137, u138, u139, u140, u141, u142, u143, u144, u145, u146, u147, u148, u149, u150, u151, u152, u153, u154, u155, u156, u157, u158, u159, u160, u161, u162, u163, u164, u165, u166, u167, u168, u169, u170, u171, u172, u173, u174, u175, u176, u177, u178, u179, u180, u181, u182, u183, u184], []⟩ V := by
  conv => arg 2; whnf
  have HC := Lib.hid hcall
  have HX := Lib.hid hexit
  have c := j.cell
  clear hcall hexit
  go_wp2_with fail
  refine HC.out.mono ?_
  rintro e w1 ⟨rfl, hp⟩
  have HE := Lib.hid (HX.out w1 hp)
  clear HC HX c hp j
  go_wp2_with fail
  exact HE.out
end Go.Proofs.YtemohiainfllcaaGreat

/- The law ThreadBack, walked. -/
namespace Go.Proofs.YtemohiainfllcaaGreat
open Go.RowKit Hp
attribute [local go_sem ↓] Go.wp_at_zero Go.wp_at_succ
/-- One store and a thread's box. -/
structure AIn (w : World) (o : Own) (y : SLay) (A : Stt) (bG : Nat) (h : ThV) (w0 : World) : Prop where
  a : StIn w o y A
  g : Blk w bG h.cells 57
  t : o bG = (9, 1)
  s : Stp (fun t => stTag y t ∨ t.1 = 9) (fun _ => (7, 0)) o w0 w
section
variable {w w' U : World} {o o' : Own} {y : SLay} {A A' : Stt} {bG : Nat} {h h' : ThV} {w0 : World}
theorem AIn.below (k : AIn w o y A bG h w0) (hb : Below w.heap.size w w') : AIn w' o y A bG h w0 :=
  ⟨k.a.below hb, k.g.below hb k.g.lt, k.t, k.s.trans (Stp.of_below hb)⟩
theorem AIn.old (k : AIn w o y A bG h w0) (na : y.l.id ≠ 7) : Below w0.heap.size w0 w :=
  k.s.below fun c _ h => h.elim (fun h => na h.symm) (fun h => by cases h)
theorem AIn.ext (k : AIn w o y A bG h w0) (t : Tag) : AIn w (Go.Proofs.YtemohiainfllcaaGreat.ext o w.heap.size t) y A bG h w0 :=
  ⟨k.a.retag fun _ hb => ext_lt hb, k.g, by rw [ext_lt k.g.lt]; exact k.t, k.s.ext t _ k.s.size⟩
theorem AIn.set (k : AIn w o y A bG h w0) (na : y.l.id ≠ 9) (hw : Wr bG w U) (j : Blk U bG h'.cells 57) : AIn U o y A bG h' w0 := by
  have hs : Stp (fun t => t = (9, 1)) o o w U := Stp.of_wr hw k.t
  exact ⟨k.a.stp hs (fun j h => na (by injection h)), j, k.t, k.s.trans (hs.mono fun t h => .inr (by rw [h]))⟩
theorem AIn.left (k : AIn w o y A bG h w0) (na : y.l.id ≠ 9) (hA : StIn w' o' y A') (hs : Stp (stTag y) o o' w w') : AIn w' o' y A' bG h w0 :=
  ⟨hA, k.g.stp hs (by rw [k.t]; exact fun h => na h.symm), (hs.tags _ k.g.lt).trans k.t, k.s.trans (hs.mono fun _ h => .inl h)⟩
end
theorem heq6b (w : World) (a0 a1 a2 a3 a4 a5 : Int) : (Op.equalIn 10000 55 (.agg #[.int .i64 a0, .int .i64 a1, .int .i64 a2, .int .i64 a3, .int .i64 a4, .int .i64 a5]) (.agg #[.int .i64 a0, .int .i64 a1, .int .i64 a2, .int .i64 a3, .int .i64 a4, .int .i64 a5])).run Tryz.prog w = .ok true w := by
  obtain ⟨i, hi⟩ := Option.isSome_iff_exists.1 arr_info
  have h := run_equalIn_ints (P := Tryz.prog) w (t := 55) (e := 3) (n := 6) (by kernel_rfl) (by kernel_rfl) (by kernel_rfl) hi (by kernel_rfl) 9998 [a0, a1, a2, a3, a4, a5] [a0, a1, a2, a3, a4, a5] rfl rfl
  simp only [List.map_cons, List.map_nil] at h
  rw [h]
  simp
def dD0 : Pg.D := ⟨1, 0, 0, 1, 1⟩
def dAb : Pg.D := ⟨14, 0, 0, 0, 0⟩
/-- The blocks that the law lays. -/
def backQ (t : List (List Pg.D)) : List (List Pg.D) := match t with
  | [] => [[dD0]]
  | ds :: _ => [[dD0], ds ++ [dAb]]
theorem backQ_ok {raw : List (List (List Pg.D))} {t : List (List Pg.D)} (ht : t ∈ progs raw) : Us.Blks (vs (backQ t)) ∧ ∀ l ∈ backQ t, ∀ d ∈ l, 0 ≤ d.a ∧ 0 ≤ d.b := by
  have hp := prg_of ht
  have hg := progs_ge ht
  have h0 : Us.D0.ok ∧ Pg.right Us.D0.D = true := ⟨Us.D0_ok, by decide +kernel⟩
  have h1 : Us.Dab.ok ∧ Pg.right Us.Dab.D = true := ⟨Us.Dab_ok, by decide +kernel⟩
  cases t with
  | nil =>
    refine ⟨⟨fun ds hds => ?_, rfl, .inl rfl⟩, fun l hl d hd => ?_⟩
    · simp [vs, backQ] at hds
      subst hds
      refine ⟨by simp, fun d hd => ?_⟩
      simp at hd
      subst hd
      exact h0
    · simp [backQ] at hl
      subst hl
      simp at hd
      subst hd
      exact ⟨by decide, by decide⟩
  | cons ds t =>
    have h6 := ((mem_progs ht).2 ds (.head _)).2.1
    refine ⟨⟨fun ds' hds => ?_, rfl, .inr ⟨rfl, ds.map toV, ?_⟩⟩, fun l hl d hd => ?_⟩
    · simp [vs, backQ] at hds
      rcases hds with rfl | rfl
      · refine ⟨by simp, fun d hd => ?_⟩
        simp at hd
        subst hd
        exact h0
      · refine ⟨by simp; omega, fun d hd => ?_⟩
        rcases List.mem_append.1 hd with hd | hd
        · exact (hp (ds.map toV) (by unfold vs; exact List.mem_map.2 ⟨ds, .head _, rfl⟩)).2 d hd
        · simp at hd
          subst hd
          exact h1
    · simp [vs, backQ]; rfl
    · simp [backQ] at hl
      rcases hl with rfl | rfl
      · simp at hd
        subst hd
        exact ⟨by decide, by decide⟩
      · rcases List.mem_append.1 hd with hd | hd
        · exact hg ds (.head _) d hd
        · simp at hd
          subst hd
          exact ⟨by decide, by decide⟩
end Go.Proofs.YtemohiainfllcaaGreat
