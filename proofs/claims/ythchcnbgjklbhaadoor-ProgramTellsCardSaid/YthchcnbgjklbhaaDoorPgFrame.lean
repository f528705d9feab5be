/- What the rows' listed variables give: the walks' environment; a world for the witness; arguments that read as they did. -/
import Derived.Test.YthchcnbgjklbhaaDoorPgAwake
import Derived.Test.YthchcnbgjklbhaaDoorCards
import Derived.Test.YthchcnbgjklbhaaDoorTie
import Derived.WalkKit
import Derived.ProofKit
import Derived.OpenShut
import Derived.ShutString
import Derived.Deep.DeepHandedRow
import Derived.Deep.DeepWitnessRowRef
import Derived.LaidSub
import Derived.Lib.LaidU8
import Derived.Lib.SmallJoins
import Derived.Lay
import Derived.Carry
namespace Go.Proofs.YthchcnbgjklbhaaDoor
open Go.ChangeShapes Go.WideShapes Go.ChangeAt Go.RowKit Go.Joins Go.Deep
open Go.ChangeMaps (open_string shut_string)
theorem own : ownKnob Tryd.prog.godebug = none := by kernel_rfl
theorem laidOut : laidOutB Tryd.prog = true := by kernel_rfl
theorem iface_cells {H : Type} {enc : TypeId × Value → H} {P : Program} {w : World} {base : Nat} {sp : Nat → Bool} {held : Bool} {fuel : Nat} {t : TypeId} {ms : Array (String × TypeId)} {cs : List Value} {x : DataW H × List MemPlace}
    (ht : P.underlying t = some (.interface ms)) (h : DataW.trod enc P w base sp held fuel t cs = some x) : cs = [.nilIface] ∨ ∃ u v, cs = [.iface u v] := by
  cases fuel with
  | zero => simp [DataW.trod] at h
  | succ fuel =>
    simp only [DataW.trod, ht] at h
    split at h <;> simp_all
def isIfc (P : Program) (t : TypeId) : Bool := match P.underlying t with | some (.interface _) => true | _ => false
theorem isIfc_of {P : Program} {t : TypeId} (h : isIfc P t = true) : ∃ ms, P.underlying t = some (.interface ms) := by
  unfold isIfc at h
  split at h
  · exact ⟨_, by assumption⟩
  · cases h
theorem err_of {w : World} {n : String} {d : DataW Unit} {g t : Nat} (hg : Tryd.prog.globalNamed n = some g) (hty : (Tryd.prog.globals[g]?).map (·.type) = some t)
    (hi : isIfc Tryd.prog t = true) (h : Lib.VarReads Tryd.prog w n d) : ∃ ev, w.cell? ⟨g, 0, none⟩ = some ev ∧ (ev = .nilIface ∨ ∃ te pe, ev = .iface te pe) := by
  obtain ⟨g', t', cs, fuel, p, hg', ht', hvar, hd⟩ := h
  obtain rfl := Option.some.inj (hg.symm.trans hg')
  obtain rfl := Option.some.inj (hty.symm.trans ht')
  have hc := World.var?_cell hg hvar 0
  obtain ⟨ms, ht⟩ := isIfc_of hi
  rcases iface_cells ht hd with e | ⟨u, v, e⟩
  · have e2 : cs[0]? = some .nilIface := by rw [← Array.getElem?_toList, e]; rfl
    exact ⟨_, hc.trans e2, .inl rfl⟩
  · have e2 : cs[0]? = some (.iface u v) := by rw [← Array.getElem?_toList, e]; rfl
    exact ⟨_, hc.trans e2, .inr ⟨_, _, rfl⟩⟩
theorem tab_of {P : Program} {W : World} {name : String} {k : IntKind} {zs : List Int} {g : Nat} {t e : TypeId} {n : Nat}
    (hg : P.globalNamed name = some g) (hty : (P.globals[g]?).map (·.type) = some t) (ht : P.underlying t = some (.array n e)) (he : P.underlying e = some (.int k)) (hce : P.cellsOf e = 1) (hct : P.cellsOf t = n)
    (h : Lib.VarReads P W name (Lib.tabData k zs)) : Lib.TabIs P W name k zs := by
  obtain ⟨g', t', cs, fuel, p, hg', ht', hvar, hd⟩ := h
  obtain rfl := Option.some.inj (hg.symm.trans hg')
  obtain rfl := Option.some.inj (hty.symm.trans ht')
  unfold Lib.TabIs
  rw [hvar, ← Lib.cells_of_tab ht he hce hct hd]
theorem int_of_shape {P : Program} {w : World} {g : Nat} {t : TypeId} {k : IntKind} {zero : Array Value} (h : w.ShapedOpen P) (hg : g < P.globals.size)
    (h0 : ((begin P (fun _ _ => 0) default).world.heap[g]?).bind Obj.row? = some (zero, t)) (hz : zero.size = 1)
    (hb : P.buildable t = true) (hc : P.cellTypes P.depth t = some [t]) (hu : P.underlying t = some (.int k)) : ∃ n, w.cell? ⟨g, 0, none⟩ = some (.int k n) := by
  obtain ⟨cs, hh, hs, hr⟩ := h.1 g zero t hg h0
  obtain ⟨ts, hts, _, hall⟩ := hr hb
  rw [hc] at hts
  cases hts
  have h1 : 0 < cs.size := by omega
  obtain ⟨u, hu', hok⟩ := hall 0 cs[0] (by simp [h1])
  have : u = t := by simpa using hu'.symm
  subst this
  have hcell : w.cell? ⟨g, 0, none⟩ = some cs[0] := by simp [World.cell?, hh, h1]
  rw [hcell]
  unfold Cell.ok at hok
  rw [hu] at hok
  cases hv : cs[0] <;> rw [hv] at hok <;> simp_all
theorem block_of_shape {P : Program} {w : World} {g : Nat} {t : TypeId} {zero : Array Value} (h : w.ShapedOpen P) (hg : g < P.globals.size)
    (h0 : ((begin P (fun _ _ => 0) default).world.heap[g]?).bind Obj.row? = some (zero, t)) : g < w.heap.size := by
  obtain ⟨cs, hh, hs, hr⟩ := h.1 g zero t hg h0
  exact (Array.getElem?_eq_some_iff.1 hh).1
/-- The list of variables that every row of this chapter bears. -/
noncomputable def laidL : List (String × DataW Unit) := Rows.programTellsRow.laid
theorem laid_plain : (laidL.filter fun x => x.2.handleName?.isNone) = laidL := by kernel_rfl
theorem reads_of {W : World} (h : laidMetH Tryd.prog laidL W) {n : String} {d : DataW Unit} (hm : (n, d) ∈ laidL) : Lib.VarReads Tryd.prog W n d := by
  have h1 := (laidMetH_iff.1 h).1
  rw [laid_plain] at h1
  exact Lib.laidMet.reads h1 hm
theorem mem_tab : ("internal/strconv.uint64pow10", Rows.laid_internal_strconv_uint64pow10) ∈ laidL := .tail _ (.tail _ (.head _))
theorem mem_es : ("strconv.ErrSyntax", Rows.laid_strconv_ErrSyntax) ∈ laidL := .tail _ (.tail _ (.tail _ (.tail _ (.tail _ (.head _)))))
theorem mem_er : ("strconv.ErrRange", Rows.laid_strconv_ErrRange) ∈ laidL := .tail _ (.tail _ (.tail _ (.tail _ (.head _))))
theorem tab_lay : (Rows.laid_internal_strconv_uint64pow10 : DataW Unit) = Lib.tabData .u64 Lib.pow10Tab := by kernel_rfl
theorem env_of {W : World} (h : laidMetH Tryd.prog laidL W) (hs : W.ShapedOpen Tryd.prog) : Env W := by
  have ht := reads_of h mem_tab
  rw [tab_lay] at ht
  refine ⟨?_, ?_, ?_, ?_, ?_⟩
  · exact tab_of (g := 2) (t := 101) (n := 20) (e := 83) (by kernel_rfl) (by kernel_rfl) (by kernel_rfl) (by kernel_rfl) (by kernel_rfl) (by kernel_rfl) ht
  · exact int_of_shape (g := 3) (t := 3) (zero := #[.int .i64 0]) hs (of_decide_eq_true (by kernel_rfl)) (by kernel_rfl) rfl (by kernel_rfl) (by kernel_rfl) (by kernel_rfl)
  · exact err_of (g := 0) (t := 63) (by kernel_rfl) (by kernel_rfl) (by kernel_rfl) (reads_of h mem_es)
  · exact err_of (g := 1) (t := 63) (by kernel_rfl) (by kernel_rfl) (by kernel_rfl) (reads_of h mem_er)
  · exact block_of_shape (g := 2) (t := 101) (zero := Array.replicate 20 (.int .u64 0)) hs (of_decide_eq_true (by kernel_rfl)) (by kernel_rfl)
/-- A world for the witnesses: what the variables hold by the program's text. -/
noncomputable def laidWorld (os : Os) : World := World.laidAll Tryd.prog os laidL
theorem laid_met (os : Os) (args : Array Value) : laidMetH Tryd.prog laidL ((laidWorld os).forCall (fun _ _ => 0) ⟨#[], args, []⟩).memory := by
  have h := laidMet_laidAll (P := Tryd.prog) (os := os) (laid := laidL) args (by kernel_rfl) (by kernel_rfl)
  refine laidMetH_iff.2 ⟨by rw [laid_plain]; exact h, fun x hx => ?_⟩
  have e : (laidL.filter fun x => x.2.handleName?.isSome) = [] := by kernel_rfl
  rw [e] at hx; cases hx
/-- Arguments of readable types, no cell of which is written, read as they did. -/
theorem below_all {H : Type} {enc : TypeId × Value → H} {W W' : World} (hb : Below W.heap.size W W') : ∀ (ts : List TypeId), (∀ t ∈ ts, Tryd.prog.readableRec t = true ∧ t < Tryd.prog.types.size) →
    ∀ (vs : List Value) (ds : List (DataW H)) (ps : List MemPlace), DataW.TrodAll enc Tryd.prog W 0 (fun _ => true) true ts vs ds ps →
    (∃ qs, DataW.TrodAll enc Tryd.prog W' 0 (fun b => decide (b < W.heap.size)) true ts vs ds qs ∧ qs = ps) := by
  intro ts
  induction ts with
  | nil =>
    intro _ vs ds ps h
    cases vs with
    | cons v vs => exact absurd h (by intro h; cases h)
    | nil =>
      obtain ⟨rfl, rfl⟩ : ds = [] ∧ ps = [] := by
        have := trodAll_nil h; simp_all
      exact ⟨_, trodAll_mk0, rfl⟩
  | cons t ts ih =>
    intro hh vs ds ps h
    obtain ⟨v0, vs0, d0, ds0, p0, q0, rfl, rfl, rfl, h0, r0⟩ := trodAll_cons h
    obtain ⟨hr, hsz⟩ := hh t (.head _)
    have lt0 : ∀ x ∈ p0, x.block < W.heap.size := by obtain ⟨m, hm⟩ := h0; exact DataW.trod_lt m _ _ _ hm
    obtain ⟨qs, hq, rfl⟩ := ih (fun u hu => hh u (.tail _ hu)) _ _ _ r0
    exact ⟨_, trodAll_cons_mk (Below.trod laidOut hr hsz h0 hb lt0) hq, rfl⟩
section
variable {H : Type} {enc : TypeId × Value → H} {P : Program} {w : World} {base : Nat} {spare : Nat → Bool} {held : Bool}
/-- A struct of five ints that came in. -/
theorem open_agg5 {r : Reach} {b0 : Nat} {t : TypeId} {f0 f1 f2 f3 f4 : Field} {v : Value} {d : DataW H} {p : List MemPlace} (hs : P.underlying t = some (.struct #[f0, f1, f2, f3, f4])) (hone : oneCellFields P #[f0, f1, f2, f3, f4] = true) (hC : P.cellsOf t = 5)
    (hv : Value.okWide P w r b0 t v) (h : DataW.Trod enc P w base spare held t v d p) :
    ∃ (v0 v1 v2 v3 v4 : Value) (y0 y1 y2 y3 y4 : DataW H × List MemPlace) (n : Nat), v = .agg #[v0, v1, v2, v3, v4] ∧
      DataW.trod enc P w base spare held n f0.type [v0] = some y0 ∧ DataW.trod enc P w base spare held n f1.type [v1] = some y1 ∧ DataW.trod enc P w base spare held n f2.type [v2] = some y2 ∧ DataW.trod enc P w base spare held n f3.type [v3] = some y3 ∧ DataW.trod enc P w base spare held n f4.type [v4] = some y4 := by
  obtain ⟨cs, rfl, hsz⟩ := okWide_struct hs hv
  obtain ⟨l⟩ := cs
  match l, hsz.trans hC with
  | [c0, c1, c2, c3, c4], _ =>
    obtain ⟨fuel, hf⟩ := h
    obtain ⟨xs, n, _, hx, _, hlen, hg⟩ := DataW.trod_struct hs hf
    obtain ⟨o0, k0⟩ := hone_of hone 0 f0 rfl
    obtain ⟨o1, k1⟩ := hone_of hone 1 f1 rfl
    obtain ⟨o2, k2⟩ := hone_of hone 2 f2 rfl
    obtain ⟨o3, k3⟩ := hone_of hone 3 f3 rfl
    obtain ⟨o4, k4⟩ := hone_of hone 4 f4 rfl
    match xs, hlen with
    | [y0, y1, y2, y3, y4], _ =>
      exact ⟨c0, c1, c2, c3, c4, y0, y1, y2, y3, y4, n, rfl, by simpa [Value.cells, o0, k0] using hg 0 f0 rfl, by simpa [Value.cells, o1, k1] using hg 1 f1 rfl, by simpa [Value.cells, o2, k2] using hg 2 f2 rfl, by simpa [Value.cells, o3, k3] using hg 3 f3 rfl, by simpa [Value.cells, o4, k4] using hg 4 f4 rfl⟩
theorem open_deed {t : TypeId} {f0 f1 f2 f3 f4 : Field} {e : TypeId} {v : Value} {d : DataW H} {p : List MemPlace} (hs : P.underlying t = some (.struct #[f0, f1, f2, f3, f4]))
    (he : P.underlying e = some (.int .i64)) (e0 : f0.type = e) (e1 : f1.type = e) (e2 : f2.type = e) (e3 : f3.type = e) (e4 : f4.type = e) (hone : oneCellFields P #[f0, f1, f2, f3, f4] = true) (hC : P.cellsOf t = 5)
    {r : Reach} {b0 : Nat} (hv : Value.okWide P w r b0 t v) (h : DataW.Trod enc P w base spare held t v d p) :
    ∃ x : Pg.D, v = .agg #[.int .i64 x.k, .int .i64 x.a, .int .i64 x.b, .int .i64 x.i, .int .i64 x.n] ∧ I64 x.k ∧ I64 x.a ∧ I64 x.b ∧ I64 x.i ∧ I64 x.n := by
  obtain ⟨v0, v1, v2, v3, v4, y0, y1, y2, y3, y4, n, rfl, h0, h1, h2, h3, h4⟩ := open_agg5 hs hone hC hv h
  rw [e0] at h0
  rw [e1] at h1
  rw [e2] at h2
  rw [e3] at h3
  rw [e4] at h4
  obtain ⟨z0, c0, _, w0⟩ := DataW.trod_int he h0
  obtain ⟨z1, c1, _, w1⟩ := DataW.trod_int he h1
  obtain ⟨z2, c2, _, w2⟩ := DataW.trod_int he h2
  obtain ⟨z3, c3, _, w3⟩ := DataW.trod_int he h3
  obtain ⟨z4, c4, _, w4⟩ := DataW.trod_int he h4
  simp only [List.cons.injEq, and_true] at c0 c1 c2 c3 c4
  subst c0 c1 c2 c3 c4
  exact ⟨⟨z0, z1, z2, z3, z4⟩, rfl, int_bd w0, int_bd w1, int_bd w2, int_bd w3, int_bd w4⟩
end
end Go.Proofs.YthchcnbgjklbhaaDoor
