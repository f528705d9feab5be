/- Generic lemmas on worlds, owners of blocks, owned rows, and regions whose calls make memory. -/
import Derived.Test.YtemohiainfllcaaGreatRows
import Derived.WalkKit
import Derived.Lib.Hide
import Derived.BigQuiet
import Derived.Deep.QuietTactic
import Derived.WalkLawsBesides
import Derived.WalkSpells
import Derived.Laws.EntriesVeiled
import Derived.Laws.Bits64b
import Derived.IntWalk
import Derived.Outline
import Derived.Deep.Cut
import Derived.Deep.DeepCutAuto
import Derived.Deep.RegionWith
namespace Go.Proofs.YtemohiainfllcaaGreat
open Go.RowKit
/-- Who owns a block: an object's number, and a part of it. -/
abbrev Tag := Nat × Nat
abbrev Own := Nat → Tag
/-- What a call may have turned: blocks whose owner is of T, and new blocks. -/
structure Stp (T : Tag → Prop) (o o' : Own) (w w' : World) : Prop where
  os : w'.os = w.os
  tape : w'.tape = w.tape
  output : w'.output = w.output
  size : w.heap.size ≤ w'.heap.size
  tags : ∀ b, b < w.heap.size → o' b = o b
  block : ∀ b, b < w.heap.size → ¬ T (o b) → w'.heap[b]? = w.heap[b]?
theorem Stp.refl (T : Tag → Prop) (o : Own) (w : World) : Stp T o o w w := ⟨rfl, rfl, rfl, Nat.le_refl _, fun _ _ => rfl, fun _ _ _ => rfl⟩
theorem Stp.trans {T : Tag → Prop} {o o1 o2 : Own} {w w1 w2 : World} (h : Stp T o o1 w w1) (k : Stp T o1 o2 w1 w2) : Stp T o o2 w w2 :=
  ⟨k.os.trans h.os, k.tape.trans h.tape, k.output.trans h.output, Nat.le_trans h.size k.size,
   fun b hb => (k.tags b (Nat.lt_of_lt_of_le hb h.size)).trans (h.tags b hb),
   fun b hb ht => (k.block b (Nat.lt_of_lt_of_le hb h.size) (by rw [h.tags b hb]; exact ht)).trans (h.block b hb ht)⟩
theorem Stp.mono {T U : Tag → Prop} {o o' : Own} {w w' : World} (h : Stp T o o' w w') (hu : ∀ t, T t → U t) : Stp U o o' w w' :=
  ⟨h.os, h.tape, h.output, h.size, h.tags, fun b hb ht => h.block b hb fun k => ht (hu _ k)⟩
theorem Stp.of_below {T : Tag → Prop} {o : Own} {w w' : World} (h : Below w.heap.size w w') : Stp T o o w w' :=
  ⟨h.os, h.tape, h.output, h.size, fun _ _ => rfl, fun b hb _ => h.block b hb⟩
theorem Stp.drewN {T : Tag → Prop} {o o' : Own} {w w' : World} (h : Stp T o o' w w') (n : Nat) : Stp T o o' w (w'.drewN n) :=
  ⟨h.os, h.tape, h.output, h.size, h.tags, h.block⟩
theorem Stp.drew {T : Tag → Prop} {o o' : Own} {w w' : World} (h : Stp T o o' w w') : Stp T o o' w w'.drew :=
  ⟨h.os, h.tape, h.output, h.size, h.tags, h.block⟩
theorem Stp.alloc {T : Tag → Prop} {o o' : Own} {w w' : World} (h : Stp T o o' w w') (x : Obj) : Stp T o o' w (w'.alloc x) :=
  h.trans (.of_below ((Below.refl _ _).alloc (Nat.le_refl _) _))
theorem Stp.setCell {T : Tag → Prop} {o o' : Own} {w w' : World} (h : Stp T o o' w w') {a : Addr} (ha : T (o' a.block)) (v : Value) : Stp T o o' w (w'.setCell a v) :=
  h.trans ⟨rfl, rfl, rfl, by simp [World.setCell], fun _ _ => rfl, fun b _ ht => Below.heap_setCell _ _ _ _ (fun e => ht (by rw [e]; exact ha))⟩
/-- A store into a block that the call itself has made. -/
theorem Stp.setCell_new {T : Tag → Prop} {o o' : Own} {w w' : World} (h : Stp T o o' w w') {a : Addr} (ha : w.heap.size ≤ a.block) (v : Value) : Stp T o o' w (w'.setCell a v) :=
  ⟨h.os, h.tape, h.output, by simpa [World.setCell] using h.size, h.tags, fun b hb ht => (Below.heap_setCell _ _ _ _ (by omega)).trans (h.block b hb ht)⟩
/-- All old blocks are a stranger's: nothing that was there has turned. -/
theorem Stp.below {T : Tag → Prop} {o o' : Own} {w w' : World} (h : Stp T o o' w w') (ht : ∀ b, b < w.heap.size → ¬ T (o b)) : Below w.heap.size w w' :=
  ⟨h.os, h.tape, h.output, h.size, fun k hk => h.block k hk (ht k hk)⟩
/-- The owners, all blocks from n on being t's. -/
def ext (o : Own) (n : Nat) (t : Tag) : Own := fun b => if b < n then o b else t
theorem ext_lt {o : Own} {n : Nat} {t : Tag} {b : Nat} (h : b < n) : ext o n t b = o b := by simp [ext, h]
theorem ext_ge {o : Own} {n : Nat} {t : Tag} {b : Nat} (h : n ≤ b) : ext o n t b = t := by simp [ext]; omega
theorem Stp.ext {T : Tag → Prop} {o o' : Own} {w w' : World} (h : Stp T o o' w w') (t : Tag) (n : Nat) (hn : w.heap.size ≤ n) : Stp T o (ext o' n t) w w' :=
  ⟨h.os, h.tape, h.output, h.size, fun b hb => (ext_lt (Nat.lt_of_lt_of_le hb hn)).trans (h.tags b hb), h.block⟩
/-- A block of cells. -/
def Blk (w : World) (b : Nat) (cs : Array Value) (t : TypeId) : Prop := w.heap[b]? = some (.cells cs t (0, 0))
theorem Blk.lt {w : World} {b : Nat} {cs : Array Value} {t : TypeId} (h : Blk w b cs t) : b < w.heap.size := (Array.getElem?_eq_some_iff.1 h).1
theorem Blk.cell {w : World} {b : Nat} {cs : Array Value} {t : TypeId} (h : Blk w b cs t) (i : Nat) : w.cell? ⟨b, i, none⟩ = cs[i]? := by
  unfold Blk at h; simp [World.cell?, h]
theorem Blk.free {w : World} {b : Nat} {cs : Array Value} {t : TypeId} (h : Blk w b cs t) (i : Nat) : w.frozen? ⟨b, i, none⟩ = false := by
  unfold Blk at h; simp [World.frozen?, h]
theorem Blk.of_eq {w w' : World} {b : Nat} {cs : Array Value} {t : TypeId} (h : Blk w b cs t) (e : w'.heap[b]? = w.heap[b]?) : Blk w' b cs t := by
  unfold Blk at *; rw [e]; exact h
theorem Blk.below {w w' : World} {b : Nat} {cs : Array Value} {t : TypeId} (h : Blk w b cs t) {B : Nat} (k : Below B w w') (hb : b < B) : Blk w' b cs t := h.of_eq (k.block b hb)
theorem Blk.stp {T : Tag → Prop} {o o' : Own} {w w' : World} {b : Nat} {cs : Array Value} {t : TypeId} (h : Blk w b cs t) (k : Stp T o o' w w') (ht : ¬ T (o b)) : Blk w' b cs t := h.of_eq (k.block b h.lt ht)
theorem Blk.drewN {w : World} {b : Nat} {cs : Array Value} {t : TypeId} (h : Blk w b cs t) (n : Nat) : Blk (w.drewN n) b cs t := h
theorem Blk.alloc {w : World} {b : Nat} {cs : Array Value} {t : TypeId} (h : Blk w b cs t) (x : Obj) : Blk (w.alloc x) b cs t := h.of_eq (Below.heap_alloc _ _ _ h.lt)
theorem Blk.new (w : World) (cs : Array Value) (t : TypeId) : Blk (w.alloc (.cells cs t)) w.heap.size cs t := by
  unfold Blk; show (w.heap.push _)[w.heap.size]? = _; simp
theorem Blk.set {w : World} {b : Nat} {cs : Array Value} {t : TypeId} (h : Blk w b cs t) (i : Nat) (v : Value) : Blk (w.setCell ⟨b, i, none⟩ v) b (cs.setIfInBounds i v) t := by
  unfold Blk at *; simp only [World.setCell, Array.getElem?_modify, if_true, h]; simp
theorem Blk.set_other {w : World} {b : Nat} {cs : Array Value} {t : TypeId} (h : Blk w b cs t) {a : Addr} (hb : b ≠ a.block) (v : Value) : Blk (w.setCell a v) b cs t :=
  h.of_eq (Below.heap_setCell _ _ _ _ hb)
/-- A world behind which nothing that was there has turned. -/
def Later (w : World) : Type := { w' : World // Below w.heap.size w w' }
instance (w : World) : Nonempty (Later w) := ⟨⟨w, Below.refl _ _⟩⟩
theorem Later.blk {w : World} {b : Nat} {cs : Array Value} {t : TypeId} (h : Blk w b cs t) (e : Later w) : Blk e.1 b cs t := h.below e.2 h.lt
theorem Later.cell {w : World} {b : Nat} {cs : Array Value} {t : TypeId} (h : Blk w b cs t) (e : Later w) (i : Nat) : e.1.cell? ⟨b, i, none⟩ = cs[i]? := (Later.blk h e).cell i
theorem Later.free {w : World} {b : Nat} {cs : Array Value} {t : TypeId} (h : Blk w b cs t) (e : Later w) (i : Nat) : e.1.frozen? ⟨b, i, none⟩ = false := (Later.blk h e).free i
/-- A region that draws its order, whose operations read and whose calls make at most new memory: one walk in the order of the text. -/
theorem wp_region_later {P : Program} {id : Nat} {Q : Exit → Act → World → Prop} {a : Act} {w : World} {l : List Oper} (hm : P.follows .mixedOrders = true) (hB : Region.lexB .any l.toArray = true)
    (h : wpQuiet P l.toArray (fun w' => ∃ e : Later w, w' = e.1) (fun a' => ∀ w', (∃ e : Later w, w' = e.1) → Q .normal a' w') l a) : (Code.region id l.toArray true).wp P Q a w :=
  wp_region_quiet (C := fun w' => ∃ e : Later w, w' = e.1) hm hB ⟨⟨{ w with drawn := w.drawn + 1 }, ⟨rfl, rfl, rfl, Nat.le_refl _, fun _ _ => rfl⟩⟩, rfl⟩ (by simpa using h)
/-- A callee that makes at most new memory, met in such a region. -/
theorem later_of {P : Program} {f : FuncId} {args : Array Value} {w : World} {e : Later w} {v : Value}
    (h : Calls P f args e.1 fun en w' => en = .returned v ∧ Below e.1.heap.size e.1 w') : Calls P f args e.1 fun en w'' => en = .returned v ∧ ∃ e2 : Later w, w'' = e2.1 :=
  h.mono fun _ w' ⟨he, hb⟩ => ⟨he, ⟨w', e.2.trans (hb.mono e.2.size)⟩, rfl⟩
theorem later_same {P : Program} {f : FuncId} {args : Array Value} {w : World} {e : Later w} {v : Value}
    (h : Calls P f args e.1 fun en w' => en = .returned v ∧ e.1 = w') : Calls P f args e.1 fun en w'' => en = .returned v ∧ ∃ e2 : Later w, w'' = e2.1 :=
  h.mono fun _ _ ⟨he, hb⟩ => ⟨he, e, hb.symm⟩
theorem balloc {w W : World} (h : Below w.heap.size w W) (o : Obj) : Below w.heap.size w (W.alloc o) := h.alloc h.size o
theorem bset {w W : World} (h : Below w.heap.size w W) {a : Addr} (ha : w.heap.size ≤ a.block) (v : Value) : Below w.heap.size w (W.setCell a v) := h.setCell ha v
theorem btrans {w W W' : World} (h : Below w.heap.size w W) (k : Below W.heap.size W W') : Below w.heap.size w W' := h.trans (k.mono h.size)
theorem Blk.new_at (w : World) (cs cs' : Array Value) (t : TypeId) (n : Nat) (hn : n = w.heap.size) (hc : cs = cs') : Blk (w.alloc (.cells cs t)) n cs' t := by subst hn; subst hc; exact Blk.new _ _ _
theorem below_drewN {B : Nat} {a w : World} (h : Below B a w) (n : Nat) : Below B a (w.drewN n) := ⟨h.os, h.tape, h.output, h.size, h.block⟩
theorem ret_int {k : IntKind} {a b : Int} (h : a = b) : Ending.returned (.int k a) = .returned (.int k b) := by rw [h]
theorem int_bd {a : Int} (h : (Lit.int .i64 a).wf = true) : -9223372036854775808 ≤ a ∧ a ≤ 9223372036854775807 := by
  simp only [Lit.wf, Bool.and_eq_true, decide_eq_true_eq] at h; exact h
/-- An owned row: the slice v holds just xs (cells of the type e), in a block of the owner t. -/
structure Row (w : World) (o : Own) (t : Tag) (e : TypeId) (size : Nat) (v : Value) (n : Nat) (xs : List Value) : Prop where
  own : w.ownsRow 0 e size v n xs
  tag : ∀ k, v.ownBlock = some k → o k = t
theorem Row.nil (w : World) (o : Own) (t : Tag) (e : TypeId) (size : Nat) : Row w o t e size (.slice none 0 0) 0 [] :=
  ⟨⟨by simp, .inl ⟨rfl, rfl⟩⟩, by intro k hk; simp [Value.ownBlock] at hk⟩
theorem Row.stp {T : Tag → Prop} {o o' : Own} {w w' : World} {t : Tag} {e : TypeId} {size : Nat} {v : Value} {n : Nat} {xs : List Value}
    (h : Row w o t e size v n xs) (k : Stp T o o' w w') (ht : ¬ T t) : Row w' o' t e size v n xs := by
  obtain ⟨⟨h1, h2⟩, h3⟩ := h
  rcases h2 with ⟨rfl, rfl⟩ | ⟨g, cap, cur, rfl, hg, hh, r⟩
  · exact ⟨⟨h1, .inl ⟨rfl, rfl⟩⟩, by intro k' hk'; simp [Value.ownBlock] at hk'⟩
  · have hlt : g < w.heap.size := (Array.getElem?_eq_some_iff.1 hh).1
    have hog := h3 g rfl
    refine ⟨⟨h1, .inr ⟨g, cap, cur, rfl, hg, ?_, r⟩⟩, ?_⟩
    · rw [k.block g hlt (by rw [hog]; exact ht)]; exact hh
    · intro k' hk'
      have : g = k' := by simpa [Value.ownBlock] using hk'
      subst this
      rw [k.tags g hlt]; exact hog
section
variable {P : Program} (w : World)
theorem Row.len {w : World} {o : Own} {t : Tag} {e : TypeId} {size : Nat} {v : Value} {n : Nat} {xs : List Value} (h : Row w o t e size v n xs) : xs.length = n * size := h.own.1
/-- An append onto an owned row: the row is owned still, by the same owner; nobody else's block has turned. -/
theorem run_append_row (t ty e : TypeId) (i : TypeInfo) (z : Value) (size bytes : Nat) (ht : P.underlying t = some (.slice e)) (hi : P.info? e = some i) (hz : i.zero = some z)
    (hsize : i.size = size) (hby : i.bytes = bytes) (hzs : z.cells.size = size) (hsz : 0 < size)
    (o : Own) (tg : Tag) (v : Value) (n : Nat) (xs : List Value) (hown : Row w o tg e size v n xs)
    (a : Addr) (m c : Nat) (news : List Value) (hl : news.length = m * size) (hnews : ∀ j u, news[j]? = some u → w.cell? (a.add j) = some u) (h1 : ∀ u ∈ news, u.oneCell' = true)
    (h63 : n + m ≤ maxLen) (hbytes : (n + m) * bytes ≤ 140737488355328) :
    ∃ v' w', (Builtin.append_ #[t, t] ty #[v, .slice (some a) m c]).run P w = .ok v' w' ∧ Row w' (ext o w.heap.size tg) tg e size v' (n + m) (xs ++ news) ∧ Stp (fun u => u = tg) o (ext o w.heap.size tg) w w' := by
  obtain ⟨v', w', hr, h2, h3, _⟩ := run_append_own (P := P) w 0 t ty e i z size bytes ht hi hz hsize hby hzs hsz v n xs hown.own a m c news hl hnews h1 h63 hbytes (Nat.zero_le _)
  refine ⟨v', w', hr, ?_⟩
  have hb : v'.ownBlock = v.ownBlock ∨ ∀ k, v'.ownBlock = some k → w.heap.size ≤ k := by
    subst hsize
    have hsmall : n + m ≤ 9223372036854775807 := by simp only [maxLen] at h63; omega
    rcases hown.own.2 with ⟨rfl, rfl⟩ | ⟨g, cap, cur, rfl, hbg, hg, hnc, hcm, hcs, htake⟩
    · refine .inr fun k hk => ?_
      have hx : xs = [] := List.eq_nil_of_length_eq_zero (by simpa using hown.own.1)
      subst hx
      by_cases hm : m = 0
      · subst hm
        have hn : news = [] := List.eq_nil_of_length_eq_zero (by simpa using hl)
        subst hn
        have : (Builtin.append_ #[t, t] ty #[.slice none 0 0, .slice (some a) 0 c]).run P w = .ok (.slice none 0 0) w := by
          simp [Builtin.append_, run_underlying ht, sizeOf, typeInfo, hi, Builtin.lenOf, Builtin.firstCells, loadCells, loadCellsFrom]
        rw [this] at hr
        injection hr with e1 e2
        rw [← e1] at hk; simp [Value.ownBlock] at hk
      · have hr' := run_append_nil (P := P) w t ty e i z ht hi hz a m c news hl hnews (by omega) (by omega) (by subst hby; have hb := hbytes; simp only [Nat.zero_add] at hb; omega)
        rw [hr'] at hr
        injection hr with e1 e2
        rw [← e1] at hk
        simp [Value.ownBlock] at hk; omega
    · by_cases hroom : n + m ≤ cap
      · have hfit : n * i.size + news.length ≤ cur.size := by rw [hl, hcs, ← Nat.add_mul]; exact Nat.mul_le_mul_right _ hroom
        have hr' := run_append_room (P := P) w t ty e i ht hi g n cap cur hg a m c news hl hnews h1 hroom hfit
        rw [hr'] at hr
        injection hr with e1 e2
        left; rw [← e1]; rfl
      · refine .inr fun k hk => ?_
        have holds : ∀ j u, xs[j]? = some u → w.cell? ((⟨g, 0, none⟩ : Addr).add j) = some u := hown.own.cells (g := g) rfl
        have hr' := run_append_grow (P := P) w t ty e i z ht hi hz ⟨g, 0, none⟩ n cap xs hown.own.1 holds a m c news hl hnews (by omega) (by omega) (growslice_fits (by omega) (by subst hby; exact hbytes))
        rw [hr'] at hr
        injection hr with e1 e2
        rw [← e1] at hk
        simp [Value.ownBlock] at hk; omega
  refine ⟨⟨h2, ?_⟩, ⟨h3.os, h3.tape, h3.output, h3.size, fun b hb => ext_lt hb, fun b hb' ht => h3.block b hb' ?_⟩⟩
  · intro k hk
    rcases hb with hv | hv
    · have hlt := (hown.own.lt k (hv ▸ hk)).2
      rw [ext_lt hlt]; exact hown.tag k (hv ▸ hk)
    · exact ext_ge (hv k hk)
  · intro e'; exact ht (hown.tag b e'.symm)
theorem wpList_append_row {ops : Array Oper} {rest : List Oper} {op : Oper} {a : Act} {Q : Exit → Act → World → Prop} (hgd : op.guard = none) (s x : Operand) (t : TypeId)
    (ho : op.op = .call { callee := .builtin .append, args := #[s, x], argTypes := #[t, t] })
    (e : TypeId) (i : TypeInfo) (z : Value) (size bytes : Nat) (ht : P.underlying t = some (.slice e)) (hi : P.info? e = some i) (hz : i.zero = some z)
    (hsize : i.size = size) (hby : i.bytes = bytes) (hzs : z.cells.size = size) (hsz : 0 < size)
    (o : Own) (tg : Tag) (v : Value) (n : Nat) (xs : List Value) (hs : a.eval s = v) (hown : Row w o tg e size v n xs)
    (ad : Addr) (m c : Nat) (news : List Value) (hx : a.eval x = .slice (some ad) m c) (hl : news.length = m * size) (hnews : ∀ j u, news[j]? = some u → w.cell? (ad.add j) = some u) (h1 : ∀ u ∈ news, u.oneCell' = true)
    (h63 : n + m ≤ maxLen) (hbytes : (n + m) * bytes ≤ 140737488355328)
    (h : ∀ v' w', Row w' (ext o w.heap.size tg) tg e size v' (n + m) (xs ++ news) → Stp (fun u => u = tg) o (ext o w.heap.size tg) w w' → wpList P ops Q rest (a.put op.dst v') w') : wpList P ops Q (op :: rest) a w :=
  wpList_plain hgd fun K hK => by
    obtain ⟨v', w', hr, h2, h3⟩ := run_append_row (P := P) w t op.type e i z size bytes ht hi hz hsize hby hzs hsz o tg v n xs hown ad m c news hl hnews h1 h63 hbytes
    unfold Oper.wp execOp
    simp only [ho, resolve, invoke, builtin, Sem.run_bind, Sem.run_pure, Result.andThen_ok, List.map_toArray, List.map_cons, List.map_nil, hs, hx, hr]
    exact hK _ _ (h v' w' h2 h3)
end
end Go.Proofs.YtemohiainfllcaaGreat

/- Plain terms of the heap: shapes, words of headers, zigzag. No program is in sight. -/
namespace Go.Proofs.YtemohiainfllcaaGreat.Hp
/-- What an object has. -/
structure Shp where
  p : Nat
  d : Nat
  weak : Bool
  final : Bool
  deriving DecidableEq
def Shp.ok (s : Shp) : Prop := s.p ≤ 8 ∧ s.d ≤ 8 ∧ (s.weak = true → s.p = 1 ∧ s.d = 0 ∧ s.final = false)
def bitOf (k : Nat) (b : Bool) : Nat := if b then 2 ^ k else 0
/-- An object's first word. -/
def head (s : Shp) (fr : Bool) : Nat := 1 + 2 * s.p + 32 * s.d + bitOf 9 s.weak + bitOf 10 s.final + bitOf 11 fr
theorem or_add (i a b : Nat) (h : b < 2 ^ i) : b ||| 2 ^ i * a = b + 2 ^ i * a := by
  rw [Nat.or_comm, ← Nat.two_pow_add_eq_or_of_lt h, Nat.add_comm]
theorem bitOf_le (k : Nat) (b : Bool) : bitOf k b = 0 ∨ bitOf k b = 2 ^ k := by unfold bitOf; cases b <;> simp
theorem or_bit (i a : Nat) (b : Bool) (h : a < 2 ^ i) : a ||| bitOf i b = a + bitOf i b := by
  cases b
  · simp [bitOf]
  · have := or_add i 1 a h
    simpa [bitOf] using this
theorem head_or (s : Shp) (fr : Bool) (h : s.ok) : ((((1 ||| 2 * s.p) ||| 32 * s.d) ||| bitOf 9 s.weak) ||| bitOf 10 s.final) ||| bitOf 11 fr = head s fr := by
  obtain ⟨h1, h2, _⟩ := h
  have e1 : 1 ||| 2 * s.p = 1 + 2 * s.p := or_add 1 s.p 1 (by omega)
  have e2 : (1 + 2 * s.p) ||| 32 * s.d = 1 + 2 * s.p + 32 * s.d := or_add 5 s.d _ (by omega)
  have b9 := bitOf_le 9 s.weak
  have b10 := bitOf_le 10 s.final
  rw [e1, e2, or_bit 9 _ _ (by omega), or_bit 10 _ _ (by omega), or_bit 11 _ _ (by omega)]
  unfold head; rfl
theorem head_lt (s : Shp) (fr : Bool) (h : s.ok) : head s fr < 4096 := by
  obtain ⟨h1, h2, _⟩ := h
  have b9 := bitOf_le 9 s.weak
  have b10 := bitOf_le 10 s.final
  have b11 := bitOf_le 11 fr
  unfold head; omega
theorem head_odd (s : Shp) (fr : Bool) : head s fr % 2 = 1 := by
  have b9 := bitOf_le 9 s.weak
  have b10 := bitOf_le 10 s.final
  have b11 := bitOf_le 11 fr
  unfold head; omega
theorem head_p (s : Shp) (fr : Bool) (h : s.ok) : head s fr / 2 % 16 = s.p := by
  obtain ⟨h1, h2, _⟩ := h
  have b9 := bitOf_le 9 s.weak
  have b10 := bitOf_le 10 s.final
  have b11 := bitOf_le 11 fr
  unfold head; omega
theorem head_d (s : Shp) (fr : Bool) (h : s.ok) : head s fr / 32 % 16 = s.d := by
  obtain ⟨h1, h2, _⟩ := h
  have b9 := bitOf_le 9 s.weak
  have b10 := bitOf_le 10 s.final
  have b11 := bitOf_le 11 fr
  unfold head; omega
theorem head_bits (s : Shp) (fr : Bool) (h : s.ok) : head s fr / 512 % 2 = (if s.weak then 1 else 0) ∧ head s fr / 1024 % 2 = (if s.final then 1 else 0) ∧ head s fr / 2048 % 2 = (if fr then 1 else 0) := by
  obtain ⟨h1, h2, _⟩ := h
  unfold head bitOf
  cases s.weak <;> cases s.final <;> cases fr <;> simp <;> omega
/-- A part of a word. -/
theorem and_mask (w s k : Nat) : (w &&& (2 ^ k - 1) * 2 ^ s) / 2 ^ s = w / 2 ^ s % 2 ^ k := by
  rw [← Nat.shiftLeft_eq, ← Nat.shiftRight_eq_div_pow, ← Nat.shiftRight_eq_div_pow, Nat.shiftRight_and_distrib, Nat.shiftLeft_shiftRight, Nat.and_two_pow_sub_one_eq_mod]
/-- A number as a word. -/
def zig (n : Int) : Int := if 0 ≤ n then 2 * n else -2 * n - 1
theorem zig_bd {n : Int} (h : -9223372036854775808 ≤ n ∧ n ≤ 9223372036854775807) : 0 ≤ zig n ∧ zig n ≤ 18446744073709551615 := by
  unfold zig; split <;> omega
/-- The words that a class has. -/
def rnd (n : Nat) : Nat := if n ≤ 4 then 4 else if n ≤ 6 then 6 else if n ≤ 8 then 8 else if n ≤ 12 then 12 else if n ≤ 16 then 16 else 24
end Go.Proofs.YtemohiainfllcaaGreat.Hp

/- What the walks of this seat import; small lemmas beside Base. -/
namespace Go.Proofs.YtemohiainfllcaaGreat
open Go.RowKit
theorem drewB {w : World} {b : Nat} {cs : Array Value} {t : TypeId} (h : Blk w b cs t) : Blk w.drew b cs t := h
theorem bdrew {w W : World} (h : Below w.heap.size w W) : Below w.heap.size w W.drew := Below.drew h
theorem bdrewN {w W : World} (h : Below w.heap.size w W) (n : Nat) : Below w.heap.size w (W.drewN n) := below_drewN h n
theorem bsame (w : World) : Below w.heap.size w w := Below.refl _ _
theorem later_below {w W : World} (h : Below w.heap.size w W) (e : Later W) : Below w.heap.size w e.1 := btrans h e.2
end Go.Proofs.YtemohiainfllcaaGreat

/- Walks: words and headers. -/
namespace Go.Proofs.YtemohiainfllcaaGreat
open Go.RowKit Hp
theorem wand (w m : Nat) (hw : w < 18446744073709551616) (hm : m < 18446744073709551616) : bits BinOp.and IntKind.u64 (w : Int) (m : Int) = ((w &&& m : Nat) : Int) := bits_and_u64_nat w m hw hm
theorem wor (w m : Nat) (hw : w < 18446744073709551616) (hm : m < 18446744073709551616) : bits BinOp.or IntKind.u64 (w : Int) (m : Int) = ((w ||| m : Nat) : Int) := bits_or_u64_nat w m hw hm
/-- The parts that headers have. -/
def PartOk (s k : Int) : Prop := (s = 1 ∧ k = 4) ∨ (s = 5 ∧ k = 4) ∨ (s = 9 ∧ k = 1) ∨ (s = 10 ∧ k = 1) ∨ (s = 11 ∧ k = 1)
theorem wright_any (s k : Int) (h : PartOk s k) (w : World) : Calls Tryz.prog 220 #[.agg #[.int .i64 s, .int .i64 k]] w fun e w' => e = .returned (.bool true) ∧ Below w.heap.size w w' := by
  rcases h with ⟨rfl, rfl⟩ | ⟨rfl, rfl⟩ | ⟨rfl, rfl⟩ | ⟨rfl, rfl⟩ | ⟨rfl, rfl⟩
  all_goals
    go_enter Tryz.func220, Tryz.ntmps220
    go_wp2_with fail
    go_ret
    exact ⟨rfl, balloc (Below.refl _ _) _⟩
theorem mask_any (s k : Int) (h : PartOk s k) (w : World) : Calls Tryz.prog 221 #[.agg #[.int .i64 s, .int .i64 k]] w fun e w' => e = .returned (.int .u64 ((2 ^ k.toNat - 1) * 2 ^ s.toNat)) ∧ Below w.heap.size w w' := by
  have hr := wright_any s k h
  rcases h with ⟨rfl, rfl⟩ | ⟨rfl, rfl⟩ | ⟨rfl, rfl⟩ | ⟨rfl, rfl⟩ | ⟨rfl, rfl⟩
  all_goals
    have HR := Lib.hid hr
    clear hr
    go_enter Tryz.func221, Tryz.ntmps221
    go_wp2_with fail
    refine (HR.out _).mono ?_
    rintro e w1 ⟨rfl, hb1⟩
    have jA := (Blk.new w (#[_, _]) 277).below hb1 (by simp)
    have cA := jA.cell
    have sA := jA.lt
    have hb := btrans (balloc (Below.refl _ _) _) hb1
    clear hb1 jA
    go_upto_region 3 with fail
    go_quiet (fail)
    go_wp2_with fail
    go_ret
    exact ⟨rfl, below_drewN hb _⟩
theorem get_any (n : Nat) (hn : n < 18446744073709551616) (s k : Int) (h : PartOk s k) (w : World) : Calls Tryz.prog 218 #[.int .u64 n, .agg #[.int .i64 s, .int .i64 k]] w fun e w' => e = .returned (.int .u64 ((n / 2 ^ s.toNat % 2 ^ k.toNat : Nat) : Int)) ∧ Below w.heap.size w w' := by
  have hr := wright_any s k h
  have hm := mask_any s k h
  have ha := and_mask n s.toNat k.toNat
  rcases h with ⟨rfl, rfl⟩ | ⟨rfl, rfl⟩ | ⟨rfl, rfl⟩ | ⟨rfl, rfl⟩ | ⟨rfl, rfl⟩
  all_goals
    have HR := Lib.hid hr
    have HM := Lib.hid hm
    have HA := Lib.hid ha
    have hw := fun (m : Nat) (hm : m < 18446744073709551616) => wand n m hn hm
    clear hr hm ha
    go_enter Tryz.func218, Tryz.ntmps218
    go_wp2_with fail
    refine (HR.out _).mono ?_
    rintro e w1 ⟨rfl, hb1⟩
    have jA := (Blk.new w (#[_, _]) 277).below hb1 (by simp)
    have cA := jA.cell
    have sA := jA.lt
    have hb := btrans (balloc (Below.refl _ _) _) hb1
    clear hb1
    go_upto_region 3 with fail
    have lA := fun (e : Later w1) (i : Nat) => Later.cell jA e i
    clear jA
    refine wp_region_later (by kernel_rfl) (by kernel_rfl) ?_
    repeat (go_big_quiet_step ((go_at_call 221; exact later_of (HM.out _))))
    refine wpQuiet_nil ?_
    rintro _ ⟨⟨wt, hbt⟩, rfl⟩
    clear lA
    go_wp2_with fail
    go_ret
    refine ⟨ret_int ?_, btrans hb hbt⟩
    rw [← HA.out]
    clear HR HM HA cA sA hb hbt
    first
      | (rw [show (30 : Int) = ((30 : Nat) : Int) from rfl, hw 30 (by omega)]; rfl)
      | (rw [show (480 : Int) = ((480 : Nat) : Int) from rfl, hw 480 (by omega)]; rfl)
      | (rw [show bits BinOp.and IntKind.u64 (n : Int) 512 = ((n &&& 512 : Nat) : Int) from hw 512 (by omega)]; rfl)
      | (rw [show bits BinOp.and IntKind.u64 (n : Int) 1024 = ((n &&& 1024 : Nat) : Int) from hw 1024 (by omega)]; rfl)
      | (rw [show bits BinOp.and IntKind.u64 (n : Int) 2048 = ((n &&& 2048 : Nat) : Int) from hw 2048 (by omega)]; rfl)
theorem count_any (n : Nat) (hn : n < 18446744073709551616) (s : Int) (h : s = 1 ∨ s = 5) (w : World) : Calls Tryz.prog 212 #[.int .u64 n, .int .i64 s] w fun e w' => e = .returned (.int .i64 ((n / 2 ^ s.toNat % 16 : Nat) : Int)) ∧ Below w.heap.size w w' := by
  have hg := get_any n hn s 4 (by rcases h with rfl | rfl <;> simp [PartOk])
  have hlt : n / 2 ^ s.toNat % 16 < 16 := Nat.mod_lt _ (by omega)
  have e : n / 2 ^ s.toNat % 2 ^ (4 : Int).toNat = n / 2 ^ s.toNat % 16 := rfl
  rw [e] at hg
  generalize n / 2 ^ s.toNat % 16 = q at *
  have HG := Lib.hid hg
  clear hg h e
  go_enter Tryz.func212, Tryz.ntmps212
  go_wp2_with fail
  refine (HG.out _).mono ?_
  rintro e w1 ⟨rfl, hb1⟩
  go_wp2_with fail
  go_ret
  exact ⟨rfl, hb1⟩
theorem has_any (n : Nat) (hn : n < 18446744073709551616) (s : Int) (h : s = 9 ∨ s = 10 ∨ s = 11) (b : Bool) (hb : n / 2 ^ s.toNat % 2 = if b then 1 else 0) (w : World) :
    Calls Tryz.prog 213 #[.int .u64 n, .int .i64 s] w fun e w' => e = .returned (.bool b) ∧ Below w.heap.size w w' := by
  have hg := get_any n hn s 1 (by rcases h with rfl | rfl | rfl <;> simp [PartOk])
  have e : n / 2 ^ s.toNat % 2 ^ (1 : Int).toNat = n / 2 ^ s.toNat % 2 := rfl
  rw [e, hb] at hg
  have HG := Lib.hid hg
  clear hg h e hb
  cases b
  all_goals
    go_enter Tryz.func213, Tryz.ntmps213
    go_wp2_with fail
    refine (HG.out _).mono ?_
    rintro e w1 ⟨rfl, hb1⟩
    go_wp2_with fail
    go_ret
    exact ⟨rfl, hb1⟩
theorem bit_any (k : Int) (hk : k = 0 ∨ k = 9 ∨ k = 10 ∨ k = 11) (b : Bool) (w : World) : Calls Tryz.prog 203 #[.int .i64 k, .bool b] w fun e w' => e = .returned (.int .u64 (bitOf k.toNat b : Nat)) ∧ w' = w := by
  rcases hk with rfl | rfl | rfl | rfl <;> cases b
  all_goals
    go_enter Tryz.func203, Tryz.ntmps203
    go_wp2_with fail
    go_ret
    exact ⟨rfl, rfl⟩
/-- A shape as the program has it. -/
abbrev shpV (s : Shp) : Value := .agg #[.int .i64 s.p, .int .i64 s.d, .bool s.weak, .bool s.final]
theorem hright_any (s : Shp) (h : s.ok) (w : World) : Calls Tryz.prog 94 #[shpV s] w fun e w' => e = .returned (.bool true) ∧ Below w.heap.size w w' := by
  obtain ⟨p, d, wk, fn⟩ := s
  obtain ⟨h1, h2, h3⟩ := h
  simp only at h1 h2 h3
  cases wk
  · clear h3
    go_enter Tryz.func94, Tryz.ntmps94
    go_wp2_with fail
    go_ret
    exact ⟨rfl, balloc (Below.refl _ _) _⟩
  · obtain ⟨rfl, rfl, rfl⟩ := h3 rfl
    go_enter Tryz.func94, Tryz.ntmps94
    go_wp2_with fail
    go_ret
    exact ⟨rfl, balloc (Below.refl _ _) _⟩
theorem hsize_any (s : Shp) (h : s.ok) (w : World) : Calls Tryz.prog 194 #[shpV s] w fun e w' => e = .returned (.tuple #[.int .i64 ((3 + s.p + s.d : Nat) : Int), .bool true]) ∧ Below w.heap.size w w' := by
  have hr := hright_any s h
  obtain ⟨p, d, wk, fn⟩ := s
  obtain ⟨h1, h2, h3⟩ := h
  simp only at h1 h2 h3 hr
  have HR := Lib.hid hr
  clear h3 hr
  go_enter Tryz.func194, Tryz.ntmps194
  go_wp2_with fail
  refine (HR.out _).mono ?_
  rintro e w1 ⟨rfl, hb1⟩
  have jA := (Blk.new w (#[_, _, _, _]) 80).below hb1 (by simp)
  have cA := jA.cell
  have sA := jA.lt
  have hb := btrans (balloc (Below.refl _ _) _) hb1
  clear hb1 jA
  go_wp2_with fail
  go_ret2
  exact ⟨by simp, hb⟩
end Go.Proofs.YtemohiainfllcaaGreat
