/- Arguments that are threads' blocks of deeds, opened: which lists they hold, all in memory. -/
import Derived.Test.YthchcnbgjklbhaaDoorPgFit
import Derived.Test.YthchcnbgjklbhaaDoorPgCheck
import Derived.Deep.Slices
import Derived.Deep.Fields
import Derived.ChangeSame
namespace Go.Proofs.YthchcnbgjklbhaaDoor
open Go.RowKit Go.ChangeShapes Go.WideShapes Go.Deep
section
variable {H : Type} {enc : TypeId × Value → H} {P : Program} {w : World} {base : Nat} {spare : Nat → Bool} {held : Bool}
theorem open_slice_fields {t e : TypeId} {fs : Array Field} {fuel : Nat} {cs : List Value} {x : DataW H × List MemPlace} (ht : P.underlying t = some (.slice e)) (he : P.underlying e = some (.struct fs))
    (hone : oneCellFields P fs = true) (hC : P.cellsOf e = fs.size) (h : DataW.trod enc P w base spare held fuel t cs = some x) :
    (cs = [.slice none 0 0] ∧ x = (.nil, [])) ∨
    ∃ (a : Addr) (len cap m : Nat) (D : Nat → DataW H) (Pl : Nat → List MemPlace), cs = [.slice (some a) len cap] ∧ base ≤ a.block ∧ len ≤ cap ∧ cap ≤ maxLen ∧ m = (if spare a.block then cap else len) ∧
      x = (.slice ((List.range len).map D) ((List.range (m - len)).map fun j => D (len + j)), MemPlace.row a (m * fs.size) ++ (List.range m).flatMap Pl) ∧
      ∀ i, i < m → ∃ (ys : List (DataW H × List MemPlace)) (n : Nat), D i = .agg (ys.map (·.1)) ∧ Pl i = ys.flatMap (·.2) ∧ ys.length = fs.size ∧
        ∀ (j : Nat) (f : Field), fs[j]? = some f → ∃ (v : Value) (y : DataW H × List MemPlace), w.cell? (a.add (i * fs.size + j)) = some v ∧ ys[j]? = some y ∧ DataW.trod enc P w base spare held n f.type [v] = some y := by
  rcases open_slice ht h with h0 | ⟨a, len, cap, m, n, D, Pl, hcs, hb, hl, hm, hmm, hx, hi⟩
  · exact .inl h0
  · refine .inr ⟨a, len, cap, m, D, Pl, hcs, hb, hl, hm, hmm, by rw [hC] at hx; exact hx, fun i him => ?_⟩
    obtain ⟨cs', hc, ht'⟩ := hi i him
    rw [hC] at hc
    obtain ⟨ys, n', hn', hy, hlen, hyl, hf⟩ := DataW.trod_struct he ht'
    obtain ⟨_, hcl, hat⟩ := World.cells?_some hc
    simp only [Prod.mk.injEq] at hy
    refine ⟨ys, n', hy.1, hy.2, hyl, fun j f hj => ?_⟩
    obtain ⟨ho, hk⟩ := hone_of hone j f hj
    have hjl : j < fs.size := (Array.getElem?_eq_some_iff.1 hj).1
    have hcell := hat j hjl
    have hv : cs'[j]? = some (cs'[j]'(by omega)) := List.getElem?_eq_getElem (by omega)
    have h1 := hf j f hj
    rw [ho, hk] at h1
    have hone' : (cs'.drop j).take 1 = [cs'[j]'(by omega)] := by
      rw [List.drop_eq_getElem_cons (by omega)]
      rfl
    rw [hone'] at h1
    have hys : ys[j]? = some (ys[j]'(by omega)) := List.getElem?_eq_getElem (by omega)
    refine ⟨_, _, ?_, hys, h1.trans hys⟩
    rw [← Go.Deep.add_add, hcell, hv]
/-- A slice's value, its capacity as Go has it. -/
def SlOk (v : Value) : Prop := ∃ a n c, v = .slice a n c ∧ n ≤ c ∧ c ≤ maxLen
theorem addr_plain {a : Addr} {v : Value} (h : w.cell? a = some v) : a = ⟨a.block, a.off, none⟩ := by
  obtain ⟨b, o, s⟩ := a
  unfold World.cell? at h
  split at h
  · cases s with
    | none => rfl
    | some x => simp at h
  · cases h
theorem add_plain (b o j : Nat) : (⟨b, o, none⟩ : Addr).add j = ⟨b, o + j, none⟩ := by unfold Addr.add; split <;> simp_all
def DI (d : Pg.D) : Prop := I64 d.k ∧ I64 d.a ∧ I64 d.b ∧ I64 d.i ∧ I64 d.n
instance : Inhabited Pg.D := ⟨⟨0, 0, 0, 0, 0⟩⟩
theorem dflat_get : ∀ (l : List Pg.D) (j : Nat), (dflat l)[j]? = (l[j / 5]?).bind fun d => (dcells d)[j % 5]?
  | [], j => by simp [dflat]
  | d :: l, j => by
    have e : dflat (d :: l) = (dcells d).toList ++ dflat l := rfl
    have hs : (dcells d).toList.length = 5 := rfl
    rw [e]
    by_cases h : j < 5
    · rw [List.getElem?_append_left (by omega), show j / 5 = 0 from by omega, show j % 5 = j from by omega]; simp
    · rw [List.getElem?_append_right (by omega), hs, dflat_get l (j - 5), show j / 5 = (j - 5) / 5 + 1 from by omega, show j % 5 = (j - 5) % 5 from by omega]; simp
theorem open_deeds {t e i : TypeId} {f0 f1 f2 f3 f4 : Field} {fuel : Nat} {cs : List Value} {x : DataW H × List MemPlace} (ht : P.underlying t = some (.slice e)) (he : P.underlying e = some (.struct #[f0, f1, f2, f3, f4]))
    (hi : P.underlying i = some (.int .i64)) (e0 : f0.type = i) (e1 : f1.type = i) (e2 : f2.type = i) (e3 : f3.type = i) (e4 : f4.type = i)
    (hone : oneCellFields P #[f0, f1, f2, f3, f4] = true) (hC : P.cellsOf e = 5) (h : DataW.trod enc P w base spare held fuel t cs = some x) :
    ∃ v l, cs = [v] ∧ DeedsAt w v l ∧ SlOk v ∧ ∀ d ∈ l, DI d := by
  rcases open_slice_fields ht he hone hC h with ⟨rfl, _⟩ | ⟨a, len, cap, m, D, Pl, rfl, _, hl, hm, hmm, _, hx⟩
  · exact ⟨_, [], rfl, ⟨by simp, Sl.nil w⟩, ⟨_, _, _, rfl, by omega, by simp [maxLen]⟩, fun d hd => by cases hd⟩
  have hle : len ≤ m := by rw [hmm]; split <;> omega
  have key : ∀ k, k < len → ∃ d : Pg.D, (∀ r, r < 5 → w.cell? (a.add (k * 5 + r)) = (dcells d)[r]?) ∧ DI d := by
    intro k hk
    obtain ⟨ys, n, _, _, _, hf⟩ := hx k (by omega)
    obtain ⟨v0, y0, c0, _, t0⟩ := hf 0 f0 rfl
    obtain ⟨v1, y1, c1, _, t1⟩ := hf 1 f1 rfl
    obtain ⟨v2, y2, c2, _, t2⟩ := hf 2 f2 rfl
    obtain ⟨v3, y3, c3, _, t3⟩ := hf 3 f3 rfl
    obtain ⟨v4, y4, c4, _, t4⟩ := hf 4 f4 rfl
    rw [e0] at t0
    rw [e1] at t1
    rw [e2] at t2
    rw [e3] at t3
    rw [e4] at t4
    obtain ⟨z0, q0, _, w0⟩ := DataW.trod_int hi t0
    obtain ⟨z1, q1, _, w1⟩ := DataW.trod_int hi t1
    obtain ⟨z2, q2, _, w2⟩ := DataW.trod_int hi t2
    obtain ⟨z3, q3, _, w3⟩ := DataW.trod_int hi t3
    obtain ⟨z4, q4, _, w4⟩ := DataW.trod_int hi t4
    simp only [List.cons.injEq, and_true] at q0 q1 q2 q3 q4
    subst q0 q1 q2 q3 q4
    refine ⟨⟨z0, z1, z2, z3, z4⟩, fun r hr => ?_, int_bd w0, int_bd w1, int_bd w2, int_bd w3, int_bd w4⟩
    obtain rfl | rfl | rfl | rfl | rfl : r = 0 ∨ r = 1 ∨ r = 2 ∨ r = 3 ∨ r = 4 := by omega
    · exact c0
    · exact c1
    · exact c2
    · exact c3
    · exact c4
  obtain ⟨F, hF⟩ := choose_lt key
  refine ⟨_, (List.range len).map F, rfl, ⟨by simp; omega, ?_⟩, ⟨_, _, _, rfl, hl, hm⟩, ?_⟩
  · refine ⟨_, _, by rw [List.length_map, List.length_range], ?_⟩
    by_cases h0 : len = 0
    · left; subst h0; rfl
    · right
      have hc0 := (hF 0 (by omega)).1 0 (by omega)
      rw [Nat.zero_mul, Nat.add_zero] at hc0
      have ha0 : a.add 0 = a := by unfold Addr.add; simp
      rw [ha0] at hc0
      have hp := addr_plain (hc0.trans (show (dcells (F 0))[0]? = some (.int .i64 (F 0).k) from rfl))
      refine ⟨a.block, a.off, by rw [← hp], fun j x hj => ?_⟩
      rw [dflat_get] at hj
      obtain ⟨d, hd, hr⟩ := Option.bind_eq_some_iff.1 hj
      rw [List.getElem?_map] at hd
      obtain ⟨q, hq, rfl⟩ := Option.map_eq_some_iff.1 hd
      have hql : j / 5 < len := by have := (List.getElem?_eq_some_iff.1 hq).1; simpa using this
      obtain rfl : j / 5 = q := by
        rw [List.getElem?_range hql] at hq
        exact Option.some.inj hq
      have hc := (hF (j / 5) hql).1 (j % 5) (by omega)
      rw [hr, show j / 5 * 5 + j % 5 = j from by omega, hp, add_plain] at hc
      exact hc
  · intro d hd
    obtain ⟨q, hq, rfl⟩ := List.mem_map.1 hd
    exact (hF q (List.mem_range.1 hq)).2
/-- A slice of one-cell things that came in: what each is. -/
theorem open_each {α : Type} [Inhabited α] {t e : TypeId} {fuel : Nat} {cs : List Value} {x : DataW H × List MemPlace} (ht : P.underlying t = some (.slice e)) (hC : P.cellsOf e = 1) (R : Value → α → Prop)
    (hR : ∀ (n : Nat) (u : Value) (y : DataW H × List MemPlace), DataW.trod enc P w base spare held n e [u] = some y → ∃ l, R u l)
    (h : DataW.trod enc P w base spare held fuel t cs = some x) :
    ∃ (v : Value) (ls : List α), cs = [v] ∧ SlOk v ∧ ls.length ≤ maxLen ∧ ∃ vs : List Value, vs.length = ls.length ∧ Sl w v ls.length vs ∧ ∀ (j : Nat) (l : α), ls[j]? = some l → ∃ u : Value, vs[j]? = some u ∧ R u l := by
  rcases open_slice1 ht hC h with ⟨rfl, _⟩ | ⟨a, len, cap, m, n, V, D, Pl, rfl, _, hl, hm, hmm, _, hx⟩
  · exact ⟨_, [], rfl, ⟨_, _, _, rfl, by omega, by simp [maxLen]⟩, by simp, [], rfl, Sl.nil w, fun j l hj => by simp at hj⟩
  have hle : len ≤ m := by rw [hmm]; split <;> omega
  have key : ∀ k, k < len → ∃ l : α, R (V k) l := fun k hk => hR n _ _ (hx k (by omega)).2
  obtain ⟨F, hF⟩ := choose_lt key
  refine ⟨_, (List.range len).map F, rfl, ⟨_, _, _, rfl, hl, hm⟩, by simp; omega, (List.range len).map V, by simp, ?_, ?_⟩
  · refine ⟨_, _, by rw [List.length_map, List.length_range], ?_⟩
    by_cases h0 : len = 0
    · left; subst h0; rfl
    · right
      have hc0 := (hx 0 (by omega)).1
      have ha0 : a.add 0 = a := by unfold Addr.add; simp
      rw [ha0] at hc0
      have hp := addr_plain hc0
      refine ⟨a.block, a.off, by rw [← hp], fun j x hj => ?_⟩
      rw [List.getElem?_map] at hj
      obtain ⟨q, hq, rfl⟩ := Option.map_eq_some_iff.1 hj
      have hql : j < len := by have := (List.getElem?_eq_some_iff.1 hq).1; simpa using this
      obtain rfl : j = q := by
        rw [List.getElem?_range hql] at hq
        exact Option.some.inj hq
      have hc := (hx j (by omega)).1
      rw [hp, add_plain] at hc
      exact hc
  · intro j l hj
    rw [List.getElem?_map] at hj
    obtain ⟨q, hq, rfl⟩ := Option.map_eq_some_iff.1 hj
    have hql : j < len := by have := (List.getElem?_eq_some_iff.1 hq).1; simpa using this
    obtain rfl : j = q := by
      rw [List.getElem?_range hql] at hq
      exact Option.some.inj hq
    exact ⟨V j, by simp [hql], hF j hql⟩
end
/-- All deeds of threads are of plain integers. -/
def TI (ths : List (List (List Pg.D))) : Prop := ∀ t ∈ ths, ∀ b ∈ t, ∀ d ∈ b, DI d
set_option maxRecDepth 100000 in
theorem open_threads {H : Type} {enc : TypeId × Value → H} {w : World} {base : Nat} {spare : Nat → Bool} {held : Bool} {v : Value} {d : DataW H} {p : List MemPlace} (h : DataW.Trod enc Tryd.prog w base spare held 24 v d p)
    {r : Reach} {b0 : Nat} (hv : Value.okWide Tryd.prog w r b0 24 v) :
    ∃ ths, ThreadsAt w v ths ∧ SlOk v ∧ TI ths := by
  obtain ⟨fuel, h⟩ := h
  have hb : ∀ (n : Nat) (u : Value) (y : DataW H × List MemPlace), DataW.trod enc Tryd.prog w base spare held n 41 [u] = some y → ∃ l, DeedsAt w u l ∧ ∀ d ∈ l, DI d := by
    intro n u y hy
    obtain ⟨v', l, hv', h1, _, h3⟩ := open_deeds (i := 3) Tryd.underlying41 Tryd.underlying23 Tryd.underlying3 rfl rfl rfl rfl rfl (by kernel_rfl) (by kernel_rfl) hy
    simp only [List.cons.injEq, and_true] at hv'
    subst hv'
    exact ⟨l, h1, h3⟩
  have ht : ∀ (n : Nat) (u : Value) (y : DataW H × List MemPlace), DataW.trod enc Tryd.prog w base spare held n 42 [u] = some y → ∃ ls, BlocksAt w u ls ∧ ∀ b ∈ ls, ∀ d ∈ b, DI d := by
    intro n u y hy
    obtain ⟨v', ls, hv', _, hl, vs, h1, h2, h3⟩ := open_each Tryd.underlying42 (by kernel_rfl) (fun u l => DeedsAt w u l ∧ ∀ d ∈ l, DI d) hb hy
    simp only [List.cons.injEq, and_true] at hv'
    subst hv'
    refine ⟨ls, ⟨hl, vs, h1, h2, fun j l hj => let ⟨x, hx, hd, _⟩ := h3 j l hj; ⟨x, hx, hd⟩⟩, fun b hb => ?_⟩
    obtain ⟨j, hj⟩ := List.mem_iff_getElem?.1 hb
    obtain ⟨x, _, _, hd⟩ := h3 j b hj
    exact hd
  obtain ⟨a, n, c, rfl⟩ := okWide_slice Tryd.underlying24 hv
  have h' : DataW.trod enc Tryd.prog w base spare held fuel 24 [.slice a n c] = some (d, p) := h
  obtain ⟨v', ths, hv', hs, hl, vs, h1, h2, h3⟩ := open_each Tryd.underlying24 (by kernel_rfl) (fun u ls => BlocksAt w u ls ∧ ∀ b ∈ ls, ∀ d ∈ b, DI d) ht h'
  simp only [List.cons.injEq, and_true] at hv'
  subst hv'
  refine ⟨ths, ⟨hl, vs, h1, h2, fun j l hj => let ⟨x, hx, hd, _⟩ := h3 j l hj; ⟨x, hx, hd⟩⟩, hs, fun t ht => ?_⟩
  obtain ⟨j, hj⟩ := List.mem_iff_getElem?.1 ht
  obtain ⟨x, _, _, hd⟩ := h3 j t hj
  exact hd
end Go.Proofs.YthchcnbgjklbhaaDoor
