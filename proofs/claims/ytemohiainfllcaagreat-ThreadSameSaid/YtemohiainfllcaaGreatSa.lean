/- Arguments that are threads' blocks of deeds, opened (turned from wip/program/PgCheck and PgThreads). -/
import Derived.Test.YtemohiainfllcaaGreatRv
import Derived.Test.YtemohiainfllcaaGreatRf
import Derived.Deep.Slices
import Derived.Deep.Fields
import Derived.ChangeSame
import Derived.StillTailTactics
import Derived.Deep.DrawnRows
namespace Go.Proofs.YtemohiainfllcaaGreat
open Go.RowKit Go.ChangeShapes Go.WideShapes Go.Deep
def Sl (w : World) (v : Value) (n : Nat) (cs : List Value) : Prop :=
  ∃ a c, v = .slice a n c ∧ (cs = [] ∨ ∃ b off, a = some ⟨b, off, none⟩ ∧ ∀ j x, cs[j]? = some x → w.cell? ⟨b, off + j, none⟩ = some x)
theorem cell_inz {w : World} {b o : Nat} {v : Value} (h : w.cell? ⟨b, o, none⟩ = some v) : b < w.heap.size := by
  unfold World.cell? at h
  split at h
  · rename_i h'; exact (Array.getElem?_eq_some_iff.1 h').1
  · cases h
theorem Sl.below {w w' : World} {v : Value} {n : Nat} {cs : List Value} (h : Sl w v n cs) (k : Below w.heap.size w w') : Sl w' v n cs := by
  obtain ⟨a, c, rfl, h0⟩ := h
  refine ⟨a, c, rfl, h0.imp id ?_⟩
  rintro ⟨b, off, rfl, h⟩
  refine ⟨b, off, rfl, fun j x hx => ?_⟩
  have hc := h j x hx
  have hlt : b < w.heap.size := by
    unfold World.cell? at hc
    split at hc
    · rename_i h'; exact (Array.getElem?_eq_some_iff.1 h').1
    · cases hc
  exact (k.cell (p := ⟨b, off + j, none⟩) hlt).trans hc
theorem Sl.blk {w : World} {g n c : Nat} {cs : Array Value} {t : TypeId} (h : Blk w g cs t) : Sl w (.slice (some ⟨g, 0, none⟩) n c) n cs.toList :=
  ⟨_, _, rfl, .inr ⟨g, 0, rfl, fun j x hx => by rw [h.cell]; simpa using hx⟩⟩
theorem Sl.nil (w : World) : Sl w (.slice none 0 0) 0 [] := ⟨_, _, rfl, .inl rfl⟩
def dflat (l : List Pg.D) : List Value := l.flatMap fun d => (dcells d).toList
/-- Deeds, blocks, threads in memory. -/
def DeedsAt (w : World) (v : Value) (l : List Pg.D) : Prop := l.length ≤ maxLen ∧ Sl w v l.length (dflat l)
def BlocksAt (w : World) (v : Value) (ls : List (List Pg.D)) : Prop :=
  ls.length ≤ maxLen ∧ ∃ vs : List Value, vs.length = ls.length ∧ Sl w v ls.length vs ∧ ∀ (j : Nat) (l : List Pg.D), ls[j]? = some l → ∃ u : Value, vs[j]? = some u ∧ DeedsAt w u l
def ThreadsAt (w : World) (v : Value) (ths : List (List (List Pg.D))) : Prop :=
  ths.length ≤ maxLen ∧ ∃ vs : List Value, vs.length = ths.length ∧ Sl w v ths.length vs ∧ ∀ (j : Nat) (l : List (List Pg.D)), ths[j]? = some l → ∃ u : Value, vs[j]? = some u ∧ BlocksAt w u l
theorem DeedsAt.below {w w' : World} {v : Value} {l : List Pg.D} (h : DeedsAt w v l) (k : Below w.heap.size w w') : DeedsAt w' v l := ⟨h.1, h.2.below k⟩
theorem BlocksAt.below {w w' : World} {v : Value} {l : List (List Pg.D)} (h : BlocksAt w v l) (k : Below w.heap.size w w') : BlocksAt w' v l := by
  obtain ⟨h0, vs, h1, h2, h3⟩ := h
  exact ⟨h0, vs, h1, h2.below k, fun j l hl => let ⟨u, hu, hd⟩ := h3 j l hl; ⟨u, hu, hd.below k⟩⟩
theorem ThreadsAt.below {w w' : World} {v : Value} {l : List (List (List Pg.D))} (h : ThreadsAt w v l) (k : Below w.heap.size w w') : ThreadsAt w' v l := by
  obtain ⟨h0, vs, h1, h2, h3⟩ := h
  exact ⟨h0, vs, h1, h2.below k, fun j l hl => let ⟨u, hu, hd⟩ := h3 j l hl; ⟨u, hu, hd.below k⟩⟩

section
variable {H : Type} {enc : TypeId × Value → H} {P : Program} {w : World} {base : Nat} {spare : Nat → Bool} {held : Bool}
theorem open_slice_fields {t e : TypeId} {fs : Array Field} {fuel : Nat} {cs : List Value} {x : DataW H × List MemPlace} (ht : P.underlying t = some (.slice e)) (he : P.underlying e = some (.struct fs))
    (hone : oneCellFields P fs = true) (hC : P.cellsOf e = fs.size) (h : DataW.trod enc P w base spare held fuel t cs = some x) :
    (cs = [.slice none 0 0] ∧ x = (.nil, [])) ∨
    ∃ (a : Addr) (len cap m : Nat) (D : Nat → DataW H) (Pl : Nat → List MemPlace), cs = [.slice (some a) len cap] ∧ base ≤ a.block ∧ len ≤ cap ∧ cap ≤ maxLen ∧ m = (if spare a.block then cap else len) ∧
      x = (.slice ((List.range len).map D) ((List.range (m - len)).map fun j => D (len + j)), MemPlace.row a (m * fs.size) ++ (List.range m).flatMap Pl) ∧
      ∀ i, i < m → ∃ (ys : List (DataW H × List MemPlace)) (n : Nat), D i = .agg (ys.map (·.1)) ∧ Pl i = ys.flatMap (·.2) ∧ ys.length = fs.size ∧
        ∀ (j : Nat) (f : Field), fs[j]? = some f → ∃ (v : Value) (y : DataW H × List MemPlace), w.cell? (a.add (i * fs.size + j)) = some v ∧ ys[j]? = some y ∧ DataW.trod enc P w base spare held n f.type [v] = some y := by
  rcases open_slice ht h with h0 | ⟨a, len, cap, m, n, D, Pl, hcs, hb, hl, hm, hmm, hx, hi⟩
  · exact .inl h0
  · refine .inr ⟨a, len, cap, m, D, Pl, hcs, hb, hl, hm, hmm, by rw [hC] at hx; exact hx, fun i him => ?_⟩
    obtain ⟨cs', hc, ht'⟩ := hi i him
    rw [hC] at hc
    obtain ⟨ys, n', hn', hy, hlen, hyl, hf⟩ := DataW.trod_struct he ht'
    obtain ⟨_, hcl, hat⟩ := World.cells?_some hc
    simp only [Prod.mk.injEq] at hy
    refine ⟨ys, n', hy.1, hy.2, hyl, fun j f hj => ?_⟩
    obtain ⟨ho, hk⟩ := hone_of hone j f hj
    have hjl : j < fs.size := (Array.getElem?_eq_some_iff.1 hj).1
    have hcell := hat j hjl
    have hv : cs'[j]? = some (cs'[j]'(by omega)) := List.getElem?_eq_getElem (by omega)
    have h1 := hf j f hj
    rw [ho, hk] at h1
    have hone' : (cs'.drop j).take 1 = [cs'[j]'(by omega)] := by
      rw [List.drop_eq_getElem_cons (by omega)]
      rfl
    rw [hone'] at h1
    have hys : ys[j]? = some (ys[j]'(by omega)) := List.getElem?_eq_getElem (by omega)
    refine ⟨_, _, ?_, hys, h1.trans hys⟩
    rw [← Go.Deep.add_add, hcell, hv]
/-- A slice's value, its capacity as Go has it. -/
def SlOk (v : Value) : Prop := ∃ a n c, v = .slice a n c ∧ n ≤ c ∧ c ≤ maxLen
theorem addr_plainz {a : Addr} {v : Value} (h : w.cell? a = some v) : a = ⟨a.block, a.off, none⟩ := by
  obtain ⟨b, o, s⟩ := a
  unfold World.cell? at h
  split at h
  · cases s with
    | none => rfl
    | some x => simp at h
  · cases h
theorem add_plainz (b o j : Nat) : (⟨b, o, none⟩ : Addr).add j = ⟨b, o + j, none⟩ := by unfold Addr.add; split <;> simp_all
def DI (d : Pg.D) : Prop := Z64 d.k ∧ Z64 d.a ∧ Z64 d.b ∧ Z64 d.i ∧ Z64 d.n
instance : Inhabited Pg.D := ⟨⟨0, 0, 0, 0, 0⟩⟩
theorem dflat_get : ∀ (l : List Pg.D) (j : Nat), (dflat l)[j]? = (l[j / 5]?).bind fun d => (dcells d)[j % 5]?
  | [], j => by simp [dflat]
  | d :: l, j => by
    have e : dflat (d :: l) = (dcells d).toList ++ dflat l := rfl
    have hs : (dcells d).toList.length = 5 := rfl
    rw [e]
    by_cases h : j < 5
    · rw [List.getElem?_append_left (by omega), show j / 5 = 0 from by omega, show j % 5 = j from by omega]; simp
    · rw [List.getElem?_append_right (by omega), hs, dflat_get l (j - 5), show j / 5 = (j - 5) / 5 + 1 from by omega, show j % 5 = (j - 5) % 5 from by omega]; simp
theorem open_deeds {t e i : TypeId} {f0 f1 f2 f3 f4 : Field} {fuel : Nat} {cs : List Value} {x : DataW H × List MemPlace} (ht : P.underlying t = some (.slice e)) (he : P.underlying e = some (.struct #[f0, f1, f2, f3, f4]))
    (hi : P.underlying i = some (.int .i64)) (e0 : f0.type = i) (e1 : f1.type = i) (e2 : f2.type = i) (e3 : f3.type = i) (e4 : f4.type = i)
    (hone : oneCellFields P #[f0, f1, f2, f3, f4] = true) (hC : P.cellsOf e = 5) (h : DataW.trod enc P w base spare held fuel t cs = some x) :
    ∃ v l, cs = [v] ∧ DeedsAt w v l ∧ SlOk v ∧ ∀ d ∈ l, DI d := by
  rcases open_slice_fields ht he hone hC h with ⟨rfl, _⟩ | ⟨a, len, cap, m, D, Pl, rfl, _, hl, hm, hmm, _, hx⟩
  · exact ⟨_, [], rfl, ⟨by simp, Sl.nil w⟩, ⟨_, _, _, rfl, by omega, by simp [maxLen]⟩, fun d hd => by cases hd⟩
  have hle : len ≤ m := by rw [hmm]; split <;> omega
  have key : ∀ k, k < len → ∃ d : Pg.D, (∀ r, r < 5 → w.cell? (a.add (k * 5 + r)) = (dcells d)[r]?) ∧ DI d := by
    intro k hk
    obtain ⟨ys, n, _, _, _, hf⟩ := hx k (by omega)
    obtain ⟨v0, y0, c0, _, t0⟩ := hf 0 f0 rfl
    obtain ⟨v1, y1, c1, _, t1⟩ := hf 1 f1 rfl
    obtain ⟨v2, y2, c2, _, t2⟩ := hf 2 f2 rfl
    obtain ⟨v3, y3, c3, _, t3⟩ := hf 3 f3 rfl
    obtain ⟨v4, y4, c4, _, t4⟩ := hf 4 f4 rfl
    rw [e0] at t0
    rw [e1] at t1
    rw [e2] at t2
    rw [e3] at t3
    rw [e4] at t4
    obtain ⟨z0, q0, _, w0⟩ := DataW.trod_int hi t0
    obtain ⟨z1, q1, _, w1⟩ := DataW.trod_int hi t1
    obtain ⟨z2, q2, _, w2⟩ := DataW.trod_int hi t2
    obtain ⟨z3, q3, _, w3⟩ := DataW.trod_int hi t3
    obtain ⟨z4, q4, _, w4⟩ := DataW.trod_int hi t4
    simp only [List.cons.injEq, and_true] at q0 q1 q2 q3 q4
    subst q0 q1 q2 q3 q4
    refine ⟨⟨z0, z1, z2, z3, z4⟩, fun r hr => ?_, int_bd w0, int_bd w1, int_bd w2, int_bd w3, int_bd w4⟩
    obtain rfl | rfl | rfl | rfl | rfl : r = 0 ∨ r = 1 ∨ r = 2 ∨ r = 3 ∨ r = 4 := by omega
    · exact c0
    · exact c1
    · exact c2
    · exact c3
    · exact c4
  obtain ⟨F, hF⟩ := choose_lt key
  refine ⟨_, (List.range len).map F, rfl, ⟨by simp; omega, ?_⟩, ⟨_, _, _, rfl, hl, hm⟩, ?_⟩
  · refine ⟨_, _, by rw [List.length_map, List.length_range], ?_⟩
    by_cases h0 : len = 0
    · left; subst h0; rfl
    · right
      have hc0 := (hF 0 (by omega)).1 0 (by omega)
      rw [Nat.zero_mul, Nat.add_zero] at hc0
      have ha0 : a.add 0 = a := by unfold Addr.add; simp
      rw [ha0] at hc0
      have hp := addr_plainz (hc0.trans (show (dcells (F 0))[0]? = some (.int .i64 (F 0).k) from rfl))
      refine ⟨a.block, a.off, by rw [← hp], fun j x hj => ?_⟩
      rw [dflat_get] at hj
      obtain ⟨d, hd, hr⟩ := Option.bind_eq_some_iff.1 hj
      rw [List.getElem?_map] at hd
      obtain ⟨q, hq, rfl⟩ := Option.map_eq_some_iff.1 hd
      have hql : j / 5 < len := by have := (List.getElem?_eq_some_iff.1 hq).1; simpa using this
      obtain rfl : j / 5 = q := by
        rw [List.getElem?_range hql] at hq
        exact Option.some.inj hq
      have hc := (hF (j / 5) hql).1 (j % 5) (by omega)
      rw [hr, show j / 5 * 5 + j % 5 = j from by omega, hp, add_plainz] at hc
      exact hc
  · intro d hd
    obtain ⟨q, hq, rfl⟩ := List.mem_map.1 hd
    exact (hF q (List.mem_range.1 hq)).2
/-- A slice of one-cell things that came in: what each is. -/
theorem open_each {α : Type} [Inhabited α] {t e : TypeId} {fuel : Nat} {cs : List Value} {x : DataW H × List MemPlace} (ht : P.underlying t = some (.slice e)) (hC : P.cellsOf e = 1) (R : Value → α → Prop)
    (hR : ∀ (n : Nat) (u : Value) (y : DataW H × List MemPlace), DataW.trod enc P w base spare held n e [u] = some y → ∃ l, R u l)
    (h : DataW.trod enc P w base spare held fuel t cs = some x) :
    ∃ (v : Value) (ls : List α), cs = [v] ∧ SlOk v ∧ ls.length ≤ maxLen ∧ ∃ vs : List Value, vs.length = ls.length ∧ Sl w v ls.length vs ∧ ∀ (j : Nat) (l : α), ls[j]? = some l → ∃ u : Value, vs[j]? = some u ∧ R u l := by
  rcases open_slice1 ht hC h with ⟨rfl, _⟩ | ⟨a, len, cap, m, n, V, D, Pl, rfl, _, hl, hm, hmm, _, hx⟩
  · exact ⟨_, [], rfl, ⟨_, _, _, rfl, by omega, by simp [maxLen]⟩, by simp, [], rfl, Sl.nil w, fun j l hj => by simp at hj⟩
  have hle : len ≤ m := by rw [hmm]; split <;> omega
  have key : ∀ k, k < len → ∃ l : α, R (V k) l := fun k hk => hR n _ _ (hx k (by omega)).2
  obtain ⟨F, hF⟩ := choose_lt key
  refine ⟨_, (List.range len).map F, rfl, ⟨_, _, _, rfl, hl, hm⟩, by simp; omega, (List.range len).map V, by simp, ?_, ?_⟩
  · refine ⟨_, _, by rw [List.length_map, List.length_range], ?_⟩
    by_cases h0 : len = 0
    · left; subst h0; rfl
    · right
      have hc0 := (hx 0 (by omega)).1
      have ha0 : a.add 0 = a := by unfold Addr.add; simp
      rw [ha0] at hc0
      have hp := addr_plainz hc0
      refine ⟨a.block, a.off, by rw [← hp], fun j x hj => ?_⟩
      rw [List.getElem?_map] at hj
      obtain ⟨q, hq, rfl⟩ := Option.map_eq_some_iff.1 hj
      have hql : j < len := by have := (List.getElem?_eq_some_iff.1 hq).1; simpa using this
      obtain rfl : j = q := by
        rw [List.getElem?_range hql] at hq
        exact Option.some.inj hq
      have hc := (hx j (by omega)).1
      rw [hp, add_plainz] at hc
      exact hc
  · intro j l hj
    rw [List.getElem?_map] at hj
    obtain ⟨q, hq, rfl⟩ := Option.map_eq_some_iff.1 hj
    have hql : j < len := by have := (List.getElem?_eq_some_iff.1 hq).1; simpa using this
    obtain rfl : j = q := by
      rw [List.getElem?_range hql] at hq
      exact Option.some.inj hq
    exact ⟨V j, by simp [hql], hF j hql⟩
end
/-- All deeds of threads are of plain integers. -/
def TI (ths : List (List (List Pg.D))) : Prop := ∀ t ∈ ths, ∀ b ∈ t, ∀ d ∈ b, DI d
set_option maxRecDepth 100000 in
theorem open_threads {H : Type} {enc : TypeId × Value → H} {w : World} {base : Nat} {spare : Nat → Bool} {held : Bool} {v : Value} {d : DataW H} {p : List MemPlace} (h : DataW.Trod enc Tryz.prog w base spare held 47 v d p)
    {r : Reach} {b0 : Nat} (hv : Value.okWide Tryz.prog w r b0 47 v) :
    ∃ ths, ThreadsAt w v ths ∧ SlOk v ∧ TI ths := by
  obtain ⟨fuel, h⟩ := h
  have hb : ∀ (n : Nat) (u : Value) (y : DataW H × List MemPlace), DataW.trod enc Tryz.prog w base spare held n 50 [u] = some y → ∃ l, DeedsAt w u l ∧ ∀ d ∈ l, DI d := by
    intro n u y hy
    obtain ⟨v', l, hv', h1, _, h3⟩ := open_deeds (i := 3) Tryz.underlying50 Tryz.underlying52 Tryz.underlying3 rfl rfl rfl rfl rfl (by kernel_rfl) (by kernel_rfl) hy
    simp only [List.cons.injEq, and_true] at hv'
    subst hv'
    exact ⟨l, h1, h3⟩
  have ht : ∀ (n : Nat) (u : Value) (y : DataW H × List MemPlace), DataW.trod enc Tryz.prog w base spare held n 48 [u] = some y → ∃ ls, BlocksAt w u ls ∧ ∀ b ∈ ls, ∀ d ∈ b, DI d := by
    intro n u y hy
    obtain ⟨v', ls, hv', _, hl, vs, h1, h2, h3⟩ := open_each Tryz.underlying48 (by kernel_rfl) (fun u l => DeedsAt w u l ∧ ∀ d ∈ l, DI d) hb hy
    simp only [List.cons.injEq, and_true] at hv'
    subst hv'
    refine ⟨ls, ⟨hl, vs, h1, h2, fun j l hj => let ⟨x, hx, hd, _⟩ := h3 j l hj; ⟨x, hx, hd⟩⟩, fun b hb => ?_⟩
    obtain ⟨j, hj⟩ := List.mem_iff_getElem?.1 hb
    obtain ⟨x, _, _, hd⟩ := h3 j b hj
    exact hd
  obtain ⟨a, n, c, rfl⟩ := okWide_slice Tryz.underlying47 hv
  have h' : DataW.trod enc Tryz.prog w base spare held fuel 47 [.slice a n c] = some (d, p) := h
  obtain ⟨v', ths, hv', hs, hl, vs, h1, h2, h3⟩ := open_each Tryz.underlying47 (by kernel_rfl) (fun u ls => BlocksAt w u ls ∧ ∀ b ∈ ls, ∀ d ∈ b, DI d) ht h'
  simp only [List.cons.injEq, and_true] at hv'
  subst hv'
  refine ⟨ths, ⟨hl, vs, h1, h2, fun j l hj => let ⟨x, hx, hd, _⟩ := h3 j l hj; ⟨x, hx, hd⟩⟩, hs, fun t ht => ?_⟩
  obtain ⟨j, hj⟩ := List.mem_iff_getElem?.1 ht
  obtain ⟨x, _, _, hd⟩ := h3 j t hj
  exact hd
end Go.Proofs.YtemohiainfllcaaGreat

/- Walks: Programs of the statements: right programs of raw ones, in fresh memory. -/
namespace Go.Proofs.YtemohiainfllcaaGreat
open Go.RowKit
attribute [local go_sem ↓] Go.wp_at_zero Go.wp_at_succ
/-! ### what is asked of threads in memory, opened -/
theorem ThreadsAt.opened {w : World} {v : Value} {ths : List (List (List Pg.D))} (h : ThreadsAt w v ths) :
    ∃ a c, v = .slice a ths.length c ∧ ths.length ≤ maxLen ∧ ∀ t ls, ths[t]? = some ls → ∃ b off u, a = some ⟨b, off, none⟩ ∧ w.cell? ⟨b, off + t, none⟩ = some u ∧ BlocksAt w u ls := by
  obtain ⟨h0, vs, hl, ⟨a, c, rfl, hc⟩, hb⟩ := h
  refine ⟨a, c, rfl, h0, fun t ls ht => ?_⟩
  obtain ⟨u, hu, hbu⟩ := hb t ls ht
  rcases hc with h | ⟨b, off, rfl, hc⟩
  · rw [h] at hu; cases hu
  · exact ⟨b, off, u, rfl, hc t u hu, hbu⟩
theorem BlocksAt.opened {w : World} {v : Value} {ls : List (List Pg.D)} (h : BlocksAt w v ls) :
    ∃ a c, v = .slice a ls.length c ∧ ls.length ≤ maxLen ∧ ∀ t l, ls[t]? = some l → ∃ b off u, a = some ⟨b, off, none⟩ ∧ w.cell? ⟨b, off + t, none⟩ = some u ∧ DeedsAt w u l := by
  obtain ⟨h0, vs, hl, ⟨a, c, rfl, hc⟩, hb⟩ := h
  refine ⟨a, c, rfl, h0, fun t ls ht => ?_⟩
  obtain ⟨u, hu, hbu⟩ := hb t ls ht
  rcases hc with h | ⟨b, off, rfl, hc⟩
  · rw [h] at hu; cases hu
  · exact ⟨b, off, u, rfl, hc t u hu, hbu⟩
def Cells5 (w : World) (b off : Nat) (d : Pg.D) : Prop :=
  w.cell? ⟨b, off, none⟩ = some (.int .i64 d.k) ∧ w.cell? ⟨b, off + 1, none⟩ = some (.int .i64 d.a) ∧ w.cell? ⟨b, off + 2, none⟩ = some (.int .i64 d.b) ∧ w.cell? ⟨b, off + 3, none⟩ = some (.int .i64 d.i) ∧ w.cell? ⟨b, off + 4, none⟩ = some (.int .i64 d.n)
theorem DeedsAt.opened {w : World} {v : Value} {l : List Pg.D} (h : DeedsAt w v l) :
    ∃ a c, v = .slice a l.length c ∧ l.length ≤ maxLen ∧ ∀ (t : Nat) (d : Pg.D), l[t]? = some d → ∃ b off, a = some ⟨b, off, none⟩ ∧ Cells5 w b (off + t * 5) d := by
  obtain ⟨h0, a, c, rfl, hc⟩ := h
  refine ⟨a, c, rfl, h0, fun t d ht => ?_⟩
  have key : ∀ r, r < 5 → (dflat l)[t * 5 + r]? = (dcells d)[r]? := fun r hr => by
    rw [dflat_get, show (t * 5 + r) / 5 = t from by omega, show (t * 5 + r) % 5 = r from by omega, ht]; rfl
  rcases hc with h | ⟨b, off, rfl, hc⟩
  · have := key 0 (by omega); rw [h] at this; cases this
  · refine ⟨b, off, rfl, ?_, ?_, ?_, ?_, ?_⟩
    · exact hc (t * 5) _ ((key 0 (by omega)).trans rfl)
    · exact (congrArg w.cell? (by rw [Nat.add_assoc])).trans (hc (t * 5 + 1) _ ((key 1 (by omega)).trans rfl))
    · exact (congrArg w.cell? (by rw [Nat.add_assoc])).trans (hc (t * 5 + 2) _ ((key 2 (by omega)).trans rfl))
    · exact (congrArg w.cell? (by rw [Nat.add_assoc])).trans (hc (t * 5 + 3) _ ((key 3 (by omega)).trans rfl))
    · exact (congrArg w.cell? (by rw [Nat.add_assoc])).trans (hc (t * 5 + 4) _ ((key 4 (by omega)).trans rfl))
theorem Cells5.below {w w' : World} {b off : Nat} {d : Pg.D} (h : Cells5 w b off d) (k : Below w.heap.size w w') : Cells5 w' b off d := by
  obtain ⟨h0, h1, h2, h3, h4⟩ := h
  have c : ∀ {j : Nat} {x : Value}, w.cell? ⟨b, j, none⟩ = some x → w'.cell? ⟨b, j, none⟩ = some x := fun {j x} h => (k.cell (p := ⟨b, j, none⟩) (cell_inz h)).trans h
  exact ⟨c h0, c h1, c h2, c h3, c h4⟩
/-! ### right programs of raw ones -/
def fits (l : List Pg.D) : List Pg.D := (l.take 6).map fit
def fitB (t : List (List Pg.D)) : List (List Pg.D) := ((t.take 3).map fits).filter fun l => !l.isEmpty
def fitT (raw : List (List (List Pg.D))) : List (List (List Pg.D)) := (raw.take 4).map fitB
def progs (raw : List (List (List Pg.D))) : List (List (List Pg.D)) := if raw.isEmpty then [[]] else fitT raw
/-- As fitB, of the first b blocks. -/
def fitBn (t : List (List Pg.D)) (b : Nat) : List (List Pg.D) := ((t.take b).map fits).filter fun l => !l.isEmpty
theorem fitBn_snoc {t : List (List Pg.D)} {b : Nat} {l : List Pg.D} (h : t[b]? = some l) : fitBn t (b + 1) = fitBn t b ++ (if (fits l).isEmpty then [] else [fits l]) := by
  unfold fitBn
  rw [take_snoc' _ _ _ h, List.map_append, List.filter_append]
  cases hf : (fits l).isEmpty <;> simp [hf]
theorem fitBn_len (t : List (List Pg.D)) (b : Nat) : (fitBn t b).length ≤ b := by
  unfold fitBn
  refine Nat.le_trans (List.length_filter_le _ _) ?_
  simp; omega
/-! ### rows that are finished -/
theorem Row.chg {w : World} {o : Own} {t : Tag} {e : TypeId} {size : Nat} {v : Value} {n : Nat} {xs : List Value} (h : Row w o t e size v n xs) (o' : Own) (t' : Tag) (he : ∀ k, o k = t → o' k = t') : Row w o' t' e size v n xs :=
  ⟨h.own, fun k hk => he k (h.tag k hk)⟩
def chg (o : Own) (a b : Tag) : Own := fun k => if o k = a then b else o k
theorem chg_at {o : Own} {a b : Tag} {k : Nat} (h : o k = a) : chg o a b k = b := if_pos h
theorem chg_ne {o : Own} {a b : Tag} {k : Nat} (h : o k ≠ a) : chg o a b k = o k := if_neg h
/-- Deeds that nobody changes any more. -/
def FD (W : World) (o : Own) (v : Value) (l : List Pg.D) : Prop := l.length ≤ 6 ∧ Row W o (1, 0) 52 5 v l.length (dflat l)
/-- Blocks of deeds that nobody changes any more, in a row of tg's. -/
def FB (tg : Tag) (W : World) (o : Own) (v : Value) (bs : List (List Pg.D)) : Prop :=
  bs.length ≤ 3 ∧ ∃ vs : List Value, vs.length = bs.length ∧ Row W o tg 50 1 v bs.length vs ∧ ∀ (j : Nat) (l : List Pg.D), bs[j]? = some l → ∃ u : Value, vs[j]? = some u ∧ FD W o u l
def FT (tg : Tag) (W : World) (o : Own) (v : Value) (ths : List (List (List Pg.D))) : Prop :=
  ths.length ≤ 4 ∧ ∃ vs : List Value, vs.length = ths.length ∧ Row W o tg 48 1 v ths.length vs ∧ ∀ (j : Nat) (bs : List (List Pg.D)), ths[j]? = some bs → ∃ u : Value, vs[j]? = some u ∧ FB (1, 0) W o u bs
section
variable {W W' : World} {o o' : Own} {v : Value} {T : Tag → Prop} {tg : Tag}
theorem FD.stp {l : List Pg.D} (h : FD W o v l) (k : Stp T o o' W W') (ht : ¬ T (1, 0)) : FD W' o' v l := ⟨h.1, h.2.stp k ht⟩
theorem FB.stp {bs : List (List Pg.D)} (h : FB tg W o v bs) (k : Stp T o o' W W') (ht : ¬ T (1, 0)) (ht2 : ¬ T tg) : FB tg W' o' v bs := by
  obtain ⟨h0, vs, h1, h2, h3⟩ := h
  exact ⟨h0, vs, h1, h2.stp k ht2, fun j l hj => let ⟨u, hu, hd⟩ := h3 j l hj; ⟨u, hu, hd.stp k ht⟩⟩
theorem FT.stp {ths : List (List (List Pg.D))} (h : FT tg W o v ths) (k : Stp T o o' W W') (ht : ¬ T (1, 0)) (ht2 : ¬ T tg) : FT tg W' o' v ths := by
  obtain ⟨h0, vs, h1, h2, h3⟩ := h
  exact ⟨h0, vs, h1, h2.stp k ht2, fun j l hj => let ⟨u, hu, hd⟩ := h3 j l hj; ⟨u, hu, hd.stp k ht ht⟩⟩
theorem FD.below {l : List Pg.D} (h : FD W o v l) (k : Below W.heap.size W W') : FD W' o v l := h.stp (T := fun _ => False) (Stp.of_below k) id
theorem FB.below {bs : List (List Pg.D)} (h : FB tg W o v bs) (k : Below W.heap.size W W') : FB tg W' o v bs := h.stp (T := fun _ => False) (Stp.of_below k) id id
theorem FT.below {ths : List (List (List Pg.D))} (h : FT tg W o v ths) (k : Below W.heap.size W W') : FT tg W' o v ths := h.stp (T := fun _ => False) (Stp.of_below k) id id
theorem FD.chg {l : List Pg.D} (h : FD W o v l) (he : ∀ k, o k = (1, 0) → o' k = (1, 0)) : FD W o' v l := ⟨h.1, h.2.chg o' _ he⟩
theorem FB.chg {bs : List (List Pg.D)} (h : FB tg W o v bs) (he : ∀ k, o k = (1, 0) → o' k = (1, 0)) (t' : Tag) (he2 : ∀ k, o k = tg → o' k = t') : FB t' W o' v bs := by
  obtain ⟨h0, vs, h1, h2, h3⟩ := h
  exact ⟨h0, vs, h1, h2.chg o' t' he2, fun j l hj => let ⟨u, hu, hd⟩ := h3 j l hj; ⟨u, hu, hd.chg he⟩⟩
theorem FT.chg {ths : List (List (List Pg.D))} (h : FT tg W o v ths) (he : ∀ k, o k = (1, 0) → o' k = (1, 0)) (t' : Tag) (he2 : ∀ k, o k = tg → o' k = t') : FT t' W o' v ths := by
  obtain ⟨h0, vs, h1, h2, h3⟩ := h
  exact ⟨h0, vs, h1, h2.chg o' t' he2, fun j l hj => let ⟨u, hu, hd⟩ := h3 j l hj; ⟨u, hu, hd.chg he _ he⟩⟩
theorem FB.nil (tg : Tag) (W : World) (o : Own) : FB tg W o (.slice none 0 0) [] := ⟨by simp, [], rfl, Row.nil _ _ _ _ _, fun j l h => by simp at h⟩
theorem FT.nil (tg : Tag) (W : World) (o : Own) : FT tg W o (.slice none 0 0) [] := ⟨by simp, [], rfl, Row.nil _ _ _ _ _, fun j l h => by simp at h⟩
theorem Row.sl {e : TypeId} {n : Nat} {size : Nat} {xs : List Value} (h : Row W o tg e size v n xs) : Sl W v n xs := by
  rcases h.own.2 with ⟨rfl, h0⟩ | ⟨g, cap, cur, rfl, _⟩
  · refine ⟨none, 0, by rw [h0], .inl ?_⟩
    have := h.own.1
    rw [h0] at this
    exact List.eq_nil_of_length_eq_zero (by omega)
  · refine ⟨_, _, rfl, .inr ⟨g, 0, rfl, fun j x hx => ?_⟩⟩
    have := h.own.cells (g := g) rfl j x hx
    rw [Nat.zero_add]
    rwa [show (⟨g, 0, none⟩ : Addr).add j = ⟨g, j, none⟩ from by unfold Addr.add; split <;> simp_all] at this
theorem FD.at {l : List Pg.D} (h : FD W o v l) : DeedsAt W v l := ⟨by have := h.1; simp only [maxLen]; omega, h.2.sl⟩
theorem FB.at {bs : List (List Pg.D)} (h : FB tg W o v bs) : BlocksAt W v bs := by
  obtain ⟨h0, vs, h1, h2, h3⟩ := h
  exact ⟨by simp only [maxLen]; omega, vs, h1, h2.sl, fun j l hj => let ⟨u, hu, hd⟩ := h3 j l hj; ⟨u, hu, hd.at⟩⟩
theorem FT.at {ths : List (List (List Pg.D))} (h : FT tg W o v ths) : ThreadsAt W v ths := by
  obtain ⟨h0, vs, h1, h2, h3⟩ := h
  exact ⟨by simp only [maxLen]; omega, vs, h1, h2.sl, fun j l hj => let ⟨u, hu, hd⟩ := h3 j l hj; ⟨u, hu, hd.at⟩⟩
/-- One more block, in a row that grew. -/
theorem FB.snoc {bs : List (List Pg.D)} {l : List Pg.D} {v2 u : Value} (hl : bs.length < 3) (k : Stp (fun t => t = tg) o o' W W') (ht : tg ≠ (1, 0)) {vs : List Value} (hv : vs.length = bs.length) (hd : FD W o u l)
    (hvs : ∀ (j : Nat) (l : List Pg.D), bs[j]? = some l → ∃ u : Value, vs[j]? = some u ∧ FD W o u l) (hr : Row W' o' tg 50 1 v2 (bs.length + 1) (vs ++ [u])) : FB tg W' o' v2 (bs ++ [l]) := by
  refine ⟨by simp; omega, vs ++ [u], by simp [hv], by simpa using hr, fun j l' hj => ?_⟩
  rcases Nat.lt_trichotomy j bs.length with hlt | rfl | hgt
  · rw [List.getElem?_append_left hlt] at hj
    obtain ⟨u', hu', hd'⟩ := hvs j l' hj
    exact ⟨u', by rw [List.getElem?_append_left (by omega)]; exact hu', hd'.stp k (fun e => ht e.symm)⟩
  · rw [List.getElem?_append_right (Nat.le_refl _)] at hj
    simp at hj
    subst hj
    exact ⟨u, by rw [List.getElem?_append_right (by omega)]; simp [hv], hd.stp k (fun e => ht e.symm)⟩
  · rw [List.getElem?_eq_none (by simp; omega)] at hj; cases hj
theorem FT.snoc {ths : List (List (List Pg.D))} {bs : List (List Pg.D)} {v2 u : Value} (hl : ths.length < 4) (k : Stp (fun t => t = tg) o o' W W') (ht : tg ≠ (1, 0)) {vs : List Value} (hv : vs.length = ths.length) (hd : FB (1, 0) W o u bs)
    (hvs : ∀ (j : Nat) (l : List (List Pg.D)), ths[j]? = some l → ∃ u : Value, vs[j]? = some u ∧ FB (1, 0) W o u l) (hr : Row W' o' tg 48 1 v2 (ths.length + 1) (vs ++ [u])) : FT tg W' o' v2 (ths ++ [bs]) := by
  refine ⟨by simp; omega, vs ++ [u], by simp [hv], by simpa using hr, fun j l' hj => ?_⟩
  have h1 : ¬ (fun t => t = tg) (1, 0) := fun e => ht e.symm
  rcases Nat.lt_trichotomy j ths.length with hlt | rfl | hgt
  · rw [List.getElem?_append_left hlt] at hj
    obtain ⟨u', hu', hd'⟩ := hvs j l' hj
    exact ⟨u', by rw [List.getElem?_append_left (by omega)]; exact hu', hd'.stp k h1 h1⟩
  · rw [List.getElem?_append_right (Nat.le_refl _)] at hj
    simp at hj
    subst hj
    exact ⟨u, by rw [List.getElem?_append_right (by omega)]; simp [hv], hd.stp k h1 h1⟩
  · rw [List.getElem?_eq_none (by simp; omega)] at hj; cases hj
/-- A world behind some rounds: nothing that was there has turned. -/
structure Wk (w W : World) (o : Own) : Prop where
  b : Below w.heap.size w W
  z : ∀ b, b < w.heap.size → o b = (0, 0)
theorem Wk.stp {w : World} (h : Wk w W o) (k : Stp T o o' W W') (ht : ¬ T (0, 0)) : Wk w W' o' := by
  refine ⟨⟨k.os.trans h.b.os, k.tape.trans h.b.tape, k.output.trans h.b.output, Nat.le_trans h.b.size k.size, fun c hc => ?_⟩, fun c hc => (k.tags c (Nat.lt_of_lt_of_le hc h.b.size)).trans (h.z c hc)⟩
  exact (k.block c (Nat.lt_of_lt_of_le hc h.b.size) (by rw [h.z c hc]; exact ht)).trans (h.b.block c hc)
theorem Wk.below {w : World} (h : Wk w W o) (k : Below W.heap.size W W') : Wk w W' o := ⟨btrans h.b k, h.z⟩
theorem Wk.chg {w : World} (h : Wk w W o) {a b : Tag} (ha : a ≠ (0, 0)) : Wk w W (Go.Proofs.YtemohiainfllcaaGreat.chg o a b) := ⟨h.b, fun c hc => by rw [chg_ne (by rw [h.z c hc]; exact fun e => ha e.symm)]; exact h.z c hc⟩
end
end Go.Proofs.YtemohiainfllcaaGreat

/- Walks: Programs of the statements. -/
namespace Go.Proofs.YtemohiainfllcaaGreat
open Go.RowKit
attribute [local go_sem ↓] Go.wp_at_zero Go.wp_at_succ
theorem info_deed : ∃ i, Tryz.prog.info? 52 = some i ∧ i.size = 5 ∧ i.bytes = 40 ∧ i.zero = some (.agg #[.int .i64 0, .int .i64 0, .int .i64 0, .int .i64 0, .int .i64 0]) := info_parts (by kernel_rfl)
theorem info_deeds : ∃ i, Tryz.prog.info? 50 = some i ∧ i.size = 1 ∧ i.bytes = 24 ∧ i.zero = some (.slice none 0 0) := info_parts (by kernel_rfl)
theorem info_blocks : ∃ i, Tryz.prog.info? 48 = some i ∧ i.size = 1 ∧ i.bytes = 24 ∧ i.zero = some (.slice none 0 0) := info_parts (by kernel_rfl)
/-- What Programs leaves behind. -/
def ProgsPost (raw : List (List (List Pg.D))) (w : World) (e : Ending) (w' : World) : Prop :=
  ∃ (v : Value) (o : Own), e = .returned v ∧ FT (1, 0) w' o v (progs raw) ∧ Wk w w' o
/-- The row of deeds that grows. -/
def GD (W : World) (o : Own) (v : Value) (l : List Pg.D) (i : Nat) : Prop := Row W o (4, 0) 52 5 v i (dflat ((l.take i).map fit))
theorem dflat_snoc (l : List Pg.D) (d : Pg.D) : dflat (l ++ [d]) = dflat l ++ (dcells d).toList := by simp [dflat]
theorem GD.fd {W : World} {o o' : Own} {v : Value} {l : List Pg.D} {i : Nat} (h : GD W o v l i) (h6 : i ≤ 6) (hl : i ≤ l.length) (hs : ¬ (i < 6 ∧ i < l.length)) (he : ∀ k, o k = (4, 0) → o' k = (1, 0)) : FD W o' v (fits l) := by
  have e : l.take i = l.take 6 := by
    by_cases h : i = 6
    · rw [h]
    · rw [List.take_of_length_le (by omega), List.take_of_length_le (by omega)]
  unfold GD at h
  rw [e] at h
  have hn : (fits l).length = i := by unfold fits; simp; omega
  refine ⟨by omega, ?_⟩
  rw [hn]
  exact h.chg o' _ he
theorem one_slice {a : Option Addr} {n c : Nat} : ∀ u ∈ [Value.slice a n c], u.oneCell' = true := by intro u hu; simp at hu; subst hu; rfl
theorem dcells_one {k a b i n : Int} : ∀ u ∈ [Value.int .i64 k, .int .i64 a, .int .i64 b, .int .i64 i, .int .i64 n], u.oneCell' = true := by
  intro u hu; simp at hu; rcases hu with rfl | rfl | rfl | rfl | rfl <;> rfl
set_option maxRecDepth 100000 in
set_option maxHeartbeats 8000000 in
theorem programs_any (v : Value) (raw : List (List (List Pg.D))) (w : World) (h : ThreadsAt w v raw) (hI : TI raw) :
    Calls Tryz.prog 27 #[v] w (ProgsPost raw w) := by
  obtain ⟨a, c, rfl, hlen, hop⟩ := h.opened
  unfold maxLen at hlen
  have HOp := Lib.hid hop
  have HI := Lib.hid hI
  have HE : Hid ((raw.isEmpty = true → progs raw = [[]]) ∧ (raw.isEmpty = false → progs raw = fitT raw) ∧ (raw.length = 0 → raw.isEmpty = true) ∧ (0 < raw.length → raw.isEmpty = false)) := Lib.hid (by
    unfold progs; cases raw <;> simp)
  obtain ⟨iD, hi5, hs5, hy5, hz5⟩ := info_deed
  obtain ⟨iS, hi1, hs1, hy1, hz1⟩ := info_deeds
  obtain ⟨iB, hi2, hs2, hy2, hz2⟩ := info_blocks
  have hu50 := Tryz.underlying50
  have hu48 := Tryz.underlying48
  have hu47 := Tryz.underlying47
  clear h hop hI
  go_enter Tryz.func27, Tryz.ntmps27
  go_wp2_with fail
  go_loopw [3, 4, 5, 6, 7, 8] (fun vo it _ _ _ _ wr => ∃ (t : Nat) (o : Own), it = .int .i64 t ∧ t ≤ 4 ∧ t ≤ raw.length ∧ FT (2, 0) wr o vo ((raw.take t).map fitB) ∧ Wk w wr o) (fun _ it _ _ _ _ _ => 4 - (intOf it).toNat)
  case atStart => exact ⟨0, fun _ => (0, 0), rfl, by omega, by omega, FT.nil _ _ _, bsame w, fun _ _ => rfl⟩
  case round =>
    obtain ⟨t, o, rfl, ht4, htl, hF, hK⟩ := hrel
    obtain ⟨wo, rfl⟩ : ∃ wo : World, wo = wr := ⟨_, rfl⟩
    obtain ⟨hF0, vs0, hv0, hrow0, hvs0⟩ := id hF
    have hn0 : ((raw.take t).map fitB).length = t := by simp; omega
    rw [hn0] at hrow0 hv0
    obtain ⟨pa0, cp0, rfl⟩ := hrow0.slc
    have hstop : (t < 4 ∧ t < raw.length) ∨ ¬ (t < 4 ∧ t < raw.length) := by omega
    rcases hstop with ⟨h4, hll⟩ | hstop
    · have tI : (t : Int) < 4 := by omega
      have tL : (t : Int) < (raw.length : Int) := by omega
      obtain ⟨ls, hls⟩ : ∃ ls, raw[t]? = some ls := ⟨raw[t], List.getElem?_eq_getElem hll⟩
      obtain ⟨b1, off1, u1, rfl, q1, hB1⟩ := HOp.out t ls hls
      obtain ⟨a1, c1, rfl, hl1, hop1⟩ := hB1.opened
      unfold maxLen at hl1
      have HOp1 := Lib.hid hop1
      have HQ1 := Lib.hid q1
      have HLS := Lib.hid hls
      have r1 := (hK.b.cell (p := ⟨b1, off1 + t, none⟩) (cell_inz q1)).trans q1
      have HV0 := Lib.hid hv0
      clear hB1 hop1 q1 hls hrow0 hvs0 hv0 hn0
      go_wp2_with fail
      clear r1
      go_loopw [5, 6, 7, 8] (fun bo bt _ _ wr => ∃ (b : Nat) (o : Own), bt = .int .i64 b ∧ b ≤ 3 ∧ b ≤ ls.length ∧ FT (2, 0) wr o (.slice pa0 t cp0) ((raw.take t).map fitB) ∧ FB (3, 0) wr o bo (fitBn ls b) ∧ Wk w wr o) (fun _ bt _ _ _ => 3 - (intOf bt).toNat)
      case atStart => exact ⟨0, o, rfl, by omega, by omega, hF, FB.nil _ _ _, hK⟩
      case round =>
        clear hF hK hF0
        obtain ⟨b, o, rfl, hb3, hbl, hF, hG, hK⟩ := hrel
        obtain ⟨wo, rfl⟩ : ∃ wo : World, wo = wr := ⟨_, rfl⟩
        obtain ⟨hG0, vs1, hv1, hrow1, hvs1⟩ := id hG
        obtain ⟨pa1, cp1, rfl⟩ := hrow1.slc
        have r1 := (hK.b.cell (p := ⟨b1, off1 + t, none⟩) (cell_inz HQ1.out)).trans HQ1.out
        have hstop : (b < 3 ∧ b < ls.length) ∨ ¬ (b < 3 ∧ b < ls.length) := by omega
        rcases hstop with ⟨h3, hlb⟩ | hstop
        · have bI : (b : Int) < 3 := by omega
          have bL : (b : Int) < (ls.length : Int) := by omega
          obtain ⟨l, hl⟩ : ∃ l, ls[b]? = some l := ⟨ls[b], List.getElem?_eq_getElem hlb⟩
          obtain ⟨b2, off2, u2, rfl, q2, hB2⟩ := HOp1.out b l hl
          obtain ⟨a2, c2, rfl, hl2, hop2⟩ := hB2.opened
          unfold maxLen at hl2
          have HOp2 := Lib.hid hop2
          have HQ2 := Lib.hid q2
          have HL := Lib.hid hl
          have HDI : Hid (∀ d ∈ l, DI d) := Lib.hid (fun d hd => HI.out ls (List.mem_of_getElem? HLS.out) l (List.mem_of_getElem? hl) d hd)
          have r2 := (hK.b.cell (p := ⟨b2, off2 + b, none⟩) (cell_inz q2)).trans q2
          have HEmpty : ∀ i, i ≤ 6 → i ≤ l.length → ¬ (i < 6 ∧ i < l.length) → (i = 0 → fitBn ls (b + 1) = fitBn ls b) ∧ (0 < i → fitBn ls (b + 1) = fitBn ls b ++ [fits l]) := fun i h1 h2 h3 => by
            rw [fitBn_snoc hl]
            have e : (fits l).length = i := by unfold fits; simp; omega
            refine ⟨fun h => ?_, fun h => ?_⟩
            · rw [List.eq_nil_of_length_eq_zero (e.trans h)]; simp
            · have : (fits l).isEmpty = false := by cases hf : fits l with
                | nil => rw [hf] at e; simp at e; omega
                | cons => rfl
              rw [this]; simp
          have HBn := Lib.hid (fitBn_len ls b)
          clear hB2 hop2 q2 hl hrow1 hvs1 hv1
          generalize hN1 : (fitBn ls b).length = n1 at *
          have HN1 := Lib.hid hN1
          clear hN1
          go_wp2_with fail
          clear r1 r2
          go_loopw [7, 8] (fun lo it wr => ∃ (i : Nat) (o : Own), it = .int .i64 i ∧ i ≤ 6 ∧ i ≤ l.length ∧ FT (2, 0) wr o (.slice pa0 t cp0) ((raw.take t).map fitB) ∧ FB (3, 0) wr o (.slice pa1 n1 cp1) (fitBn ls b) ∧ GD wr o lo l i ∧ Wk w wr o) (fun _ it _ => 6 - (intOf it).toNat)
          case atStart => exact ⟨0, o, rfl, by omega, by omega, hF, hG, Row.nil _ _ _ _ _, hK⟩
          case round =>
            clear hF hG hK hG0
            obtain ⟨i, o, rfl, hi6, hil, hF, hG, hR, hK⟩ := hrel
            obtain ⟨wo, rfl⟩ : ∃ wo : World, wo = wr := ⟨_, rfl⟩
            obtain ⟨pa2, cp2, rfl⟩ := Row.slc hR
            have r1 := (hK.b.cell (p := ⟨b1, off1 + t, none⟩) (cell_inz HQ1.out)).trans HQ1.out
            have r2 := (hK.b.cell (p := ⟨b2, off2 + b, none⟩) (cell_inz HQ2.out)).trans HQ2.out
            have hstop : (i < 6 ∧ i < l.length) ∨ ¬ (i < 6 ∧ i < l.length) := by omega
            rcases hstop with ⟨h6, hli⟩ | hstop
            · have iI : (i : Int) < 6 := by omega
              have iL : (i : Int) < (l.length : Int) := by omega
              obtain ⟨d, hd⟩ : ∃ d, l[i]? = some d := ⟨l[i], List.getElem?_eq_getElem hli⟩
              obtain ⟨b3, off3, rfl, hc5⟩ := HOp2.out i d hd
              obtain ⟨p0, p1, p2, p3, p4⟩ := hc5.below hK.b
              obtain ⟨z0, z1, z2, z3, z4⟩ := HDI.out d (List.mem_of_getElem? hd)
              obtain ⟨fk, fa, fb, fi, fn, hfit⟩ : ∃ fk fa fb fi fn, fit d = ⟨fk, fa, fb, fi, fn⟩ := ⟨_, _, _, _, _, rfl⟩
              have HFit := Lib.hid (show Calls Tryz.prog 68 #[.agg #[.int .i64 d.k, .int .i64 d.a, .int .i64 d.b, .int .i64 d.i, .int .i64 d.n]] wo fun e w' => e = .returned (.agg #[.int .i64 fk, .int .i64 fa, .int .i64 fb, .int .i64 fi, .int .i64 fn]) ∧ Below wo.heap.size wo w' from by
                refine (fit_any d z0 z1 z2 z3 z4 wo).mono ?_
                rintro e w' ⟨rfl, hb⟩
                rw [hfit]
                exact ⟨rfl, hb⟩)
              have hTake := take_snoc' _ _ _ hd
              have HFin := Lib.hid (fun (w4 : World) (o4 : Own) (v4 : Value) (hown : Row w4 o4 (4, 0) 52 5 v4 (i + 1) (dflat ((l.take i).map fit) ++ [.int .i64 fk, .int .i64 fa, .int .i64 fb, .int .i64 fi, .int .i64 fn])) => show GD w4 o4 v4 l (i + 1) from by
                unfold GD
                rw [hTake, List.map_append, List.map_cons, List.map_nil, hfit, dflat_snoc]
                exact hown)
              have hml : i + 1 ≤ maxLen := by simp only [maxLen]; omega
              have hmb : (i + 1) * 40 ≤ 140737488355328 := by omega
              clear hd hc5 z0 z1 z2 z3 z4 hfit hTake
              go_wp2_with (first
                | (go_at_call 68; refine HFit.out.mono ?_; rintro e w3 ⟨rfl, hb3⟩; have rn := (Row.below hR hb3).below (balloc (bsame w3) (.cells #[.int .i64 fk, .int .i64 fa, .int .i64 fb, .int .i64 fi, .int .i64 fn] 52)); have jn := Blk.new w3 #[.int .i64 fk, .int .i64 fa, .int .i64 fb, .int .i64 fi, .int .i64 fn] 52)
                | (at_builtin; refine wpList_append_row _ rfl _ _ _ rfl 52 iD _ 5 40 hu50 hi5 hz5 hs5 hy5 rfl (by decide) o (4, 0) _ _ _ rfl rn ⟨w3.heap.size, 0, none⟩ 1 1 [.int .i64 fk, .int .i64 fa, .int .i64 fb, .int .i64 fi, .int .i64 fn] rfl rfl (news_blk jn) dcells_one hml hmb ?_; intro v' w4 hown hst; obtain ⟨pa', cp', rfl⟩ := hown.slc)
                | fail)
              all_goals
                have k4 := (Stp.of_below (T := fun t => t = (4, 0)) (o := o) (balloc hb3 (.cells #[.int .i64 fk, .int .i64 fa, .int .i64 fb, .int .i64 fi, .int .i64 fn] 52))).trans hst
                have g4 := HFin.out _ _ _ hown
                go_roundw
                case rel => exact ⟨i + 1, _, by simp, by omega, by omega, hF.stp k4 (by simp) (by simp), hG.stp k4 (by simp) (by simp), g4, hK.stp k4 (by simp)⟩
                case measure => simp [intOf]; omega
            · -- the deeds of a block are done
              have hEx := (HEmpty i hi6 hil hstop)
              by_cases hi0 : i = 0
              · subst hi0
                have hE2 := Lib.hid (hEx.1 rfl)
                have HF := Lib.hid hF
                have HG := Lib.hid hG
                have HK := Lib.hid hK
                clear hF hG hR hK hEx
                have hdone : ¬ ((0 : Int) < (l.length : Int)) := by omega
                clear hstop
                go_wp2_with fail
                go_roundw
                case rel => exact ⟨b + 1, o, by simp, by omega, by omega, HF.out, by rw [hE2.out]; exact HG.out, HK.out⟩
                case measure => simp [intOf]; omega
              · have hipos : 0 < i := by omega
                have iI : (0 : Int) < (i : Int) := by omega
                have hE2 := Lib.hid (hEx.2 hipos)
                have hfd := hR.fd hi6 hil hstop (o' := chg o (4, 0) (1, 0)) (fun k hk => chg_at hk)
                have hF2 := Lib.hid (hF.chg (o' := chg o (4, 0) (1, 0)) (fun k hk => by rw [chg_ne (by rw [hk]; simp)]; exact hk) (2, 0) (fun k hk => by rw [chg_ne (by rw [hk]; simp)]; exact hk))
                have hG2 := hG.chg (o' := chg o (4, 0) (1, 0)) (fun k hk => by rw [chg_ne (by rw [hk]; simp)]; exact hk) (3, 0) (fun k hk => by rw [chg_ne (by rw [hk]; simp)]; exact hk)
                have hK2 := Lib.hid (hK.chg (a := (4, 0)) (b := (1, 0)) (by simp))
                generalize chg o (4, 0) (1, 0) = o2 at *
                obtain ⟨hG0, vs1, hv1, hrow1, hvs1⟩ := id hG2
                rw [HN1.out] at hrow1 hv1
                have rn := hrow1.below (balloc (bsame wo) (.cells #[.slice pa2 i cp2] 50))
                have jn := Blk.new wo #[.slice pa2 i cp2] 50
                have hml : n1 + 1 ≤ maxLen := by have := HBn.out; simp only [maxLen]; omega
                have hmb : (n1 + 1) * 24 ≤ 140737488355328 := by have := HBn.out; omega
                have HFD := Lib.hid hfd
                have HG2 := Lib.hid hG2
                have HVS := Lib.hid hvs1
                have HV1 := Lib.hid hv1
                have hsz : n1 < 3 := by have := HBn.out; omega
                have HFin := Lib.hid (fun (w4 : World) (o4 : Own) (v4 : Value) (hown : Row w4 o4 (3, 0) 50 1 v4 (n1 + 1) (vs1 ++ [.slice pa2 i cp2])) (hst : Stp (fun t => t = (3, 0)) o2 o4 (wo.alloc (.cells #[.slice pa2 i cp2] 50)) w4) =>
                  show FT (2, 0) w4 o4 (.slice pa0 t cp0) ((raw.take t).map fitB) ∧ FB (3, 0) w4 o4 v4 (fitBn ls (b + 1)) ∧ Wk w w4 o4 from by
                    have k4 := (Stp.of_below (T := fun t => t = (3, 0)) (o := o2) (balloc (bsame wo) (.cells #[.slice pa2 i cp2] 50))).trans hst
                    refine ⟨hF2.out.stp k4 (by simp) (by simp), ?_, hK2.out.stp k4 (by simp)⟩
                    rw [hE2.out]
                    exact FB.snoc (by rw [HN1.out]; exact hsz) k4 (by simp) (by rw [HN1.out]; exact HV1.out) HFD.out HVS.out (by rw [HN1.out]; exact hown))
                clear hF hG hR hK hEx hfd hG2 hvs1 hv1 hG0 hrow1
                rcases (show (i < l.length ∧ i = 6) ∨ l.length = i by omega) with ⟨hlt, rfl⟩ | hle
                · have iL : (6 : Int) < (l.length : Int) := by omega
                  clear hstop
                  go_wp2_with (first
                    | (at_builtin; refine wpList_append_row _ rfl _ _ _ rfl 50 iS _ 1 24 hu48 hi1 hz1 hs1 hy1 rfl (by decide) o2 (3, 0) _ _ _ rfl rn ⟨wo.heap.size, 0, none⟩ 1 1 [.slice pa2 6 cp2] rfl rfl (news_one jn) one_slice hml hmb ?_; intro v' w4 hown hst; obtain ⟨pa', cp', rfl⟩ := hown.slc)
                    | fail)
                  obtain ⟨f1, f2, f3⟩ := HFin.out _ _ _ hown hst
                  go_roundw
                  case rel => exact ⟨b + 1, _, by simp, by omega, by omega, f1, f2, f3⟩
                  case measure => simp [intOf]; omega
                · have iL : ¬ ((i : Int) < (l.length : Int)) := by omega
                  have HLE := Lib.hid hle
                  clear hstop hle
                  go_wp2_with (first
                    | (at_builtin; refine wpList_append_row _ rfl _ _ _ rfl 50 iS _ 1 24 hu48 hi1 hz1 hs1 hy1 rfl (by decide) o2 (3, 0) _ _ _ rfl rn ⟨wo.heap.size, 0, none⟩ 1 1 [.slice pa2 i cp2] rfl rfl (news_one jn) one_slice hml hmb ?_; intro v' w4 hown hst; obtain ⟨pa', cp', rfl⟩ := hown.slc)
                    | fail)
                  obtain ⟨f1, f2, f3⟩ := HFin.out _ _ _ hown hst
                  go_roundw
                  case rel => exact ⟨b + 1, _, by simp, by omega, by omega, f1, f2, f3⟩
                  case measure => simp [intOf]; omega
        · -- the blocks of a thread are done
          have hfb := hG.chg (o' := chg o (3, 0) (1, 0)) (fun k hk => by rw [chg_ne (by rw [hk]; simp)]; exact hk) (1, 0) (fun k hk => chg_at hk)
          have hF2 := hF.chg (o' := chg o (3, 0) (1, 0)) (fun k hk => by rw [chg_ne (by rw [hk]; simp)]; exact hk) (2, 0) (fun k hk => by rw [chg_ne (by rw [hk]; simp)]; exact hk)
          have hK2 := Lib.hid (hK.chg (a := (3, 0)) (b := (1, 0)) (by simp))
          generalize chg o (3, 0) (1, 0) = o2 at *
          generalize hN1 : (fitBn ls b).length = n1 at *
          have hB : fitBn ls b = fitB ls := by
            unfold fitBn fitB
            have e : ls.take b = ls.take 3 := by
              by_cases h : b = 3
              · rw [h]
              · rw [List.take_of_length_le (by omega), List.take_of_length_le (by omega)]
            rw [e]
          rw [hB] at hfb
          have hE : (raw.take (t + 1)).map fitB = (raw.take t).map fitB ++ [fitB ls] := by
            rw [take_snoc' _ _ _ HLS.out, List.map_append]; rfl
          obtain ⟨hF0, vs0, hv0, hrow0, hvs0⟩ := id hF2
          have hn0 : ((raw.take t).map fitB).length = t := by simp; omega
          rw [hn0] at hrow0 hv0
          have rn := hrow0.below (balloc (bsame wo) (.cells #[.slice pa1 n1 cp1] 48))
          have jn := Blk.new wo #[.slice pa1 n1 cp1] 48
          have hml : t + 1 ≤ maxLen := by simp only [maxLen]; omega
          have hmb : (t + 1) * 24 ≤ 140737488355328 := by omega
          have HFin := Lib.hid (fun (w4 : World) (o4 : Own) (v4 : Value) (hown : Row w4 o4 (2, 0) 48 1 v4 (t + 1) (vs0 ++ [.slice pa1 n1 cp1])) (hst : Stp (fun t => t = (2, 0)) o2 o4 (wo.alloc (.cells #[.slice pa1 n1 cp1] 48)) w4) =>
            show FT (2, 0) w4 o4 v4 ((raw.take (t + 1)).map fitB) ∧ Wk w w4 o4 from by
              have k4 := (Stp.of_below (T := fun t => t = (2, 0)) (o := o2) (balloc (bsame wo) (.cells #[.slice pa1 n1 cp1] 48))).trans hst
              refine ⟨?_, hK2.out.stp k4 (by simp)⟩
              rw [hE]
              exact FT.snoc (by rw [hn0]; omega) k4 (by simp) (by rw [hn0]; exact hv0) hfb hvs0 (by rw [hn0]; exact hown))
          clear hF hG hK hG0 hrow1 hvs1 hv1 hN1 hfb hF2 hB hE hF0 hv0 hrow0 hvs0 hn0
          rcases (show (b < ls.length ∧ b = 3) ∨ ls.length = b by omega) with ⟨hlt, rfl⟩ | hle
          · have iL : (3 : Int) < (ls.length : Int) := by omega
            clear hstop
            go_wp2_with (first
              | (at_builtin; refine wpList_append_row _ rfl _ _ _ rfl 48 iB _ 1 24 hu47 hi2 hz2 hs2 hy2 rfl (by decide) o2 (2, 0) _ _ _ rfl rn ⟨wo.heap.size, 0, none⟩ 1 1 [.slice pa1 n1 cp1] rfl rfl (news_one jn) one_slice hml hmb ?_; intro v' w4 hown hst; obtain ⟨pa', cp', rfl⟩ := hown.slc)
              | fail)
            obtain ⟨f1, f2⟩ := HFin.out _ _ _ hown hst
            go_roundw
            case rel => exact ⟨t + 1, _, by simp, by omega, by omega, f1, f2⟩
            case measure => simp [intOf]; omega
          · have iL : ¬ ((b : Int) < (ls.length : Int)) := by omega
            have HLE := Lib.hid hle
            clear hstop hle
            go_wp2_with (first
              | (at_builtin; refine wpList_append_row _ rfl _ _ _ rfl 48 iB _ 1 24 hu47 hi2 hz2 hs2 hy2 rfl (by decide) o2 (2, 0) _ _ _ rfl rn ⟨wo.heap.size, 0, none⟩ 1 1 [.slice pa1 n1 cp1] rfl rfl (news_one jn) one_slice hml hmb ?_; intro v' w4 hown hst; obtain ⟨pa', cp', rfl⟩ := hown.slc)
              | fail)
            obtain ⟨f1, f2⟩ := HFin.out _ _ _ hown hst
            go_roundw
            case rel => exact ⟨t + 1, _, by simp, by omega, by omega, f1, f2⟩
            case measure => simp [intOf]; omega
    · -- all threads are done
      have hT : (raw.take t).map fitB = fitT raw := by
        unfold fitT
        have e : raw.take t = raw.take 4 := by
          by_cases h : t = 4
          · rw [h]
          · rw [List.take_of_length_le (by omega), List.take_of_length_le (by omega)]
        rw [e]
      have hF2 := hF.chg (o' := chg o (2, 0) (1, 0)) (fun k hk => by rw [chg_ne (by rw [hk]; simp)]; exact hk) (1, 0) (fun k hk => chg_at hk)
      have hK2 := hK.chg (a := (2, 0)) (b := (1, 0)) (by simp)
      rw [hT] at hF2
      have hFin := Lib.hid (show 0 < t → ProgsPost raw w (.returned (.slice pa0 t cp0)) wo from fun h0 => ⟨_, _, rfl, by rw [HE.out.2.1 (HE.out.2.2.2 (by omega))]; exact hF2, hK2⟩)
      have hFin0 := Lib.hid (show t = 0 → ProgsPost raw w (.returned (.slice (some ⟨wo.heap.size, 0, none⟩) 1 1)) (wo.alloc (.cells #[.slice none 0 0] 48)) from fun h0 => by
        refine ⟨_, ext (chg o (2, 0) (1, 0)) wo.heap.size (1, 0), rfl, ?_, ?_⟩
        · rw [HE.out.1 (HE.out.2.2.1 (by omega))]
          refine ⟨by simp, [.slice none 0 0], rfl, ⟨⟨rfl, .inr ⟨wo.heap.size, 1, #[.slice none 0 0], rfl, Nat.zero_le _, Blk.new _ _ _, Nat.le_refl _, by simp [maxLen], rfl, rfl⟩⟩, fun k hk => ?_⟩, fun j bs hj => ?_⟩
          · have : wo.heap.size = k := by simpa [Value.ownBlock] using hk
            subst this
            exact ext_ge (Nat.le_refl _)
          · have : j = 0 := by
              have := (List.getElem?_eq_some_iff.1 hj).1
              simpa using this
            subst this
            simp at hj
            subst hj
            exact ⟨_, rfl, FB.nil _ _ _⟩
        · refine ⟨balloc hK2.b _, fun b hb => ?_⟩
          rw [ext_lt (Nat.lt_of_lt_of_le hb hK2.b.size)]
          exact hK2.z b hb)
      clear hF hK hF2 hK2 hT hF0 hv0 hrow0 hvs0 hn0
      by_cases h0 : t = 0
      · subst h0
        have hl0 : ¬ ((0 : Int) < (raw.length : Int)) := by omega
        have HF0 := Lib.hid (hFin0.out rfl)
        clear hFin hFin0 hstop
        go_wp2_with fail
        go_ret
        exact HF0.out
      · have tP : (0 : Int) < (t : Int) := by omega
        have tN : (((t : Int)) == 0) = false := by rw [beq_eq_false_iff_ne]; omega
        have HF1 := Lib.hid (hFin.out (by omega))
        rcases (show (t < raw.length ∧ t = 4) ∨ raw.length = t by omega) with ⟨hlt, rfl⟩ | hle
        · have iL : (4 : Int) < (raw.length : Int) := by omega
          clear hstop hFin hFin0
          go_wp2_with fail
          go_ret
          exact HF1.out
        · have iL : ¬ ((t : Int) < (raw.length : Int)) := by omega
          have HLE := Lib.hid hle
          clear hstop hle hFin hFin0
          go_wp2_with fail
          go_ret
          exact HF1.out
end Go.Proofs.YtemohiainfllcaaGreat
