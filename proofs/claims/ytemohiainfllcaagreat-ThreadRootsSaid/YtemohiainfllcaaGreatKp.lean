/- Readers, in plain Lean: what reads and gets come to while nothing is changed. -/
import Derived.Test.YtemohiainfllcaaGreatKk
import Derived.Test.YtemohiainfllcaaGreatJa
import Derived.Deep.Slices
import Derived.Deep.Fields
import Derived.ChangeSame
import Derived.ChangeArms
import Derived.OpenShut
import Derived.ProofKit
import Derived.Carry
import Derived.Below
import Derived.Deep.DeepHandedRow
namespace Go.Proofs.YtemohiainfllcaaGreat
open Go.RowKit Hp
namespace Rd
def R3 : Stt := (((Yd.Y 400 3).begin 0).begin 1).begin 2
/-- Three live transactions that have read at most n times, and nothing else. -/
structure Ok (B : Stt) (n : Nat) (S : Stt) : Prop where
  eq : S = { B with txs := S.txs }
  len : S.txs.length = 3
  tx : ∀ (i : Nat) (x : Tx), S.txs[i]? = some x → ∃ rs : List Nat, x = ⟨true, 1, ⟨60, 60, rs, [], [], []⟩⟩ ∧ rs.length ≤ n
def obB (B : Stt) (i k : Nat) : Bool := match lk B.H.cur (Yd.pl k) with
  | some ob => !ob.freed && !ob.shp.weak && decide (ob.nums[0]? = some (10 + (k : Int))) && decide (ob.ptrs[0]? = some (Yd.pl ((k + 1) % 4))) && !clashB i 1 ob.second
  | none => false
structure Bs (B : Stt) : Prop where
  ob : ∀ i < 3, ∀ k < 4, obB B i k = true
  st : B.txs = [⟨true, 1, ⟨60, 60, [], [], [], []⟩⟩, ⟨true, 1, ⟨60, 60, [], [], [], []⟩⟩, ⟨true, 1, ⟨60, 60, [], [], [], []⟩⟩]
  ho : B.holder = -1
  nw : B.now = 1
  mo : B.now < B.most
theorem bs : Bs R3 := ⟨by decide +kernel, by kernel_rfl, by decide +kernel, by decide +kernel, by decide +kernel⟩
variable {B : Stt}
theorem Bs.obs (b : Bs B) {i k : Nat} (hi : i < 3) (hk : k < 4) : ∃ ob, lk B.H.cur (Yd.pl k) = some ob ∧ ob.freed = false ∧ ob.shp.weak = false ∧ ob.nums[0]? = some (10 + (k : Int)) ∧ ob.ptrs[0]? = some (Yd.pl ((k + 1) % 4)) ∧ clashB i 1 ob.second = false := by
  have h := b.ob i hi k hk
  unfold obB at h
  cases hl : lk B.H.cur (Yd.pl k) with
  | none => rw [hl] at h; cases h
  | some ob =>
    rw [hl] at h
    simp only [Bool.and_eq_true, Bool.not_eq_true', decide_eq_true_eq] at h
    exact ⟨ob, rfl, h.1.1.1.1, h.1.1.1.2, h.1.1.2, h.1.2, h.2⟩
theorem eta (S : Stt) : S = { S with txs := S.txs } := rfl
theorem eqTx {S B : Stt} (h : S = { B with txs := S.txs }) (i : Nat) (x : Tx) : S.tx i x = { B with txs := (S.tx i x).txs } := by
  obtain ⟨l, hl⟩ : ∃ l, l = S.txs := ⟨_, rfl⟩
  rw [← hl] at h
  subst h
  rfl
theorem Ok.start (b : Bs B) : Ok B 0 B := by
  refine ⟨eta B, by rw [b.st]; rfl, fun i x hx => ?_⟩
  rw [b.st] at hx
  have hm := List.mem_of_getElem? hx
  simp only [List.mem_cons, List.not_mem_nil, or_false, or_self] at hm
  exact ⟨[], hm, Nat.le_refl _⟩
variable {n i k : Nat} {S : Stt}
theorem Ok.H (h : Ok B n S) : S.H = B.H := ((congrArg Stt.H h.eq).trans rfl)
theorem Ok.t (h : Ok B n S) (hi : i < 3) : ∃ rs : List Nat, S.t i = ⟨true, 1, ⟨60, 60, rs, [], [], []⟩⟩ ∧ rs.length ≤ n := h.tx i _ (Stt.t_get (by rw [h.len]; exact hi))
theorem Ok.chk (h : Ok B n S) (hi : i < 3) (hn : n < 60) : S.chk i = true := by
  obtain ⟨rs, hx, hr⟩ := h.t hi
  unfold Stt.chk roomyB
  rw [hx, h.len]
  simp
  omega
theorem Ok.plc (b : Bs B) (h : Ok B n S) (hk : k < 4) : Plc S (Yd.pl k) := by
  obtain ⟨ob, ho, _⟩ := b.obs (i := 0) (by omega) hk
  exact .inr (by rw [h.H, ho]; rfl)
theorem Ok.fields (b : Bs B) (h : Ok B n S) (hi : i < 3) (hk : k < 4) (hn : n < 60) : S.fieldsR i (S.t i) (Yd.pl k) = (S.tx i ((S.t i).read (Yd.pl k)), 0) := by
  obtain ⟨rs, hx, hr⟩ := h.t hi
  obtain ⟨ob, ho, h1, h2, h3, h4, h5⟩ := b.obs hi hk
  have hl : lk S.H.cur (Yd.pl k) = some ob := by rw [h.H]; exact ho
  have hp : Yd.pl k ≠ 0 := by unfold Yd.pl; omega
  have hb : noteB rs (Yd.pl k) 60 = true := by unfold noteB; rw [decide_eq_true_eq]; right; omega
  unfold Stt.fieldsR Stt.lookR Stt.shpOf
  rw [if_neg hp, hl, hx]
  simp only [h5, Bool.false_eq_true, if_false, hb, if_true, h1, h2]
theorem Ok.read (h : Ok B n S) (hi : i < 3) (p : Nat) : Ok B (n + 1) (S.tx i ((S.t i).read p)) := by
  refine ⟨eqTx h.eq _ _, by show (S.txs.set i _).length = 3; rw [List.length_set, h.len], fun j x hx => ?_⟩
  replace hx : (S.txs.set i ((S.t i).read p))[j]? = some x := hx
  by_cases hij : i = j
  · subst hij
    rw [List.getElem?_set_self (by rw [h.len]; exact hi)] at hx
    obtain ⟨rs, hr, hl⟩ := h.t hi
    rw [hr] at hx
    refine ⟨noteL rs p 60, (Option.some.inj hx).symm, ?_⟩
    unfold noteL
    split
    · omega
    · split
      · simp; omega
      · omega
  · rw [List.getElem?_set_ne hij] at hx
    obtain ⟨rs, hr, hl⟩ := h.tx j x hx
    exact ⟨rs, hr, by omega⟩
theorem Ok.has (h : Ok B n S) (hi : i < 3) (p : Nat) (hm : p ∈ (S.t i).log.reads) : Ok B n (S.tx i ((S.t i).read p)) := by
  refine ⟨eqTx h.eq _ _, by show (S.txs.set i _).length = 3; rw [List.length_set, h.len], fun j x hx => ?_⟩
  replace hx : (S.txs.set i ((S.t i).read p))[j]? = some x := hx
  by_cases hij : i = j
  · subst hij
    rw [List.getElem?_set_self (by rw [h.len]; exact hi)] at hx
    obtain ⟨rs, hr, hl⟩ := h.t hi
    rw [hr] at hx hm
    refine ⟨rs, ?_, hl⟩
    have e : noteL rs p 60 = rs := by unfold noteL; exact if_pos hm
    rw [← Option.some.inj hx]
    show (⟨true, 1, ⟨60, 60, noteL rs p 60, [], [], []⟩⟩ : Tx) = _
    rw [e]
  · rw [List.getElem?_set_ne hij] at hx
    exact h.tx j x hx
theorem Ok.mem (h : Ok B n S) (hi : i < 3) (p : Nat) (hn : n < 60) : p ∈ ((S.tx i ((S.t i).read p)).t i).log.reads := by
  have e : (S.tx i ((S.t i).read p)).t i = (S.t i).read p := by
    show (S.txs.set i ((S.t i).read p)).getD i _ = _
    rw [List.getD_eq_getElem?_getD, List.getElem?_set_self (by rw [h.len]; exact hi)]
    rfl
  obtain ⟨rs, hr, hl⟩ := h.t hi
  rw [e, hr]
  show p ∈ noteL rs p 60
  unfold noteL
  split
  · assumption
  · rw [if_pos (by omega)]; simp
theorem Ok.reads (b : Bs B) (h : Ok B n S) (hi : i < 3) (hk : k < 4) (hn : n < 60) : (S.read i (Yd.pl k) 0).v = 10 + (k : Int) ∧ (S.read i (Yd.pl k) 0).e = 0 ∧ Ok B (n + 1) (S.read i (Yd.pl k) 0).S ∧ Yd.pl k ∈ ((S.read i (Yd.pl k) 0).S.t i).log.reads := by
  obtain ⟨ob, ho, h1, h2, h3, h4, h5⟩ := b.obs hi hk
  have hl : lk S.H.cur (Yd.pl k) = some ob := by rw [h.H]; exact ho
  have e : S.read i (Yd.pl k) 0 = ⟨S.tx i ((S.t i).read (Yd.pl k)), 10 + (k : Int), 0⟩ := by
    unfold Stt.read Stt.readR
    rw [Ok.fields b h hi hk hn]
    simp only [ne_eq, not_true_eq_false, if_false, hl, Option.bind_some, h3]
    rfl
  rw [e]
  exact ⟨rfl, rfl, h.read hi _, h.mem hi _ hn⟩
theorem Ok.gets (b : Bs B) (h : Ok B n S) (hi : i < 3) (hk : k < 4) (hn : n < 60) (hm : Yd.pl k ∈ (S.t i).log.reads) : (S.get i (Yd.pl k) 0).v = (Yd.pl ((k + 1) % 4) : Int) ∧ (S.get i (Yd.pl k) 0).e = 0 ∧ Ok B n (S.get i (Yd.pl k) 0).S := by
  obtain ⟨ob, ho, h1, h2, h3, h4, h5⟩ := b.obs hi hk
  have hl : lk S.H.cur (Yd.pl k) = some ob := by rw [h.H]; exact ho
  have e : S.get i (Yd.pl k) 0 = ⟨S.tx i ((S.t i).read (Yd.pl k)), (Yd.pl ((k + 1) % 4) : Int), 0⟩ := by
    unfold Stt.get Stt.getR
    rw [Ok.fields b h hi hk hn]
    simp only [ne_eq, not_true_eq_false, if_false, hl, Option.bind_some, h4]
    rfl
  rw [e]
  exact ⟨rfl, rfl, h.has hi _ hm⟩
/-- The transactions ahead of t are ended, the others live. -/
structure Done (B : Stt) (n t : Nat) (S : Stt) : Prop where
  eq : S = { B with txs := S.txs }
  len : S.txs.length = 3
  tx : ∀ (i : Nat) (x : Tx), t ≤ i → S.txs[i]? = some x → ∃ rs : List Nat, x = ⟨true, 1, ⟨60, 60, rs, [], [], []⟩⟩ ∧ rs.length ≤ n
theorem Ok.done (h : Ok B n S) : Done B n 0 S := ⟨h.eq, h.len, fun i x _ => h.tx i x⟩
theorem Done.ends (b : Bs B) (h : Done B n i S) (hi : i < 3) (hn : n < 60) : S.chk i = true ∧ S.now < S.most ∧ (S.commit i).v = 0 ∧ (S.commit i).e = 0 ∧ Done B n (i + 1) (S.commit i).S := by
  obtain ⟨rs, hx, hr⟩ := h.tx i _ (Nat.le_refl _) (Stt.t_get (by rw [h.len]; exact hi))
  have e : S.commit i = ⟨S.tx i (S.t i).ended, 0, 0⟩ := by
    unfold Stt.commit Stt.commitR
    rw [if_pos ⟨by rw [hx], by rw [show S.holder = B.holder from ((congrArg Stt.holder h.eq).trans rfl), b.ho]; omega⟩]
    rfl
  refine ⟨?_, by rw [show S.now = B.now from ((congrArg Stt.now h.eq).trans rfl), show S.most = B.most from ((congrArg Stt.most h.eq).trans rfl)]; exact b.mo, by rw [e], by rw [e], ?_⟩
  · unfold Stt.chk roomyB
    rw [hx, h.len]
    simp
    omega
  · rw [e]
    refine ⟨eqTx h.eq _ _, by show (S.txs.set i _).length = 3; rw [List.length_set, h.len], fun j x hj hxj => ?_⟩
    replace hxj : (S.txs.set i (S.t i).ended)[j]? = some x := hxj
    rw [List.getElem?_set_ne (by omega)] at hxj
    exact h.tx j x (by omega) hxj
theorem Done.now (b : Bs B) (h : Done B n i S) : S.now = 1 := (((congrArg Stt.now h.eq).trans rfl)).trans b.nw
end Rd
end Go.Proofs.YtemohiainfllcaaGreat

/- Arguments that are lists of ops, opened: which ops they hold, in memory. -/
namespace Go.Proofs.YtemohiainfllcaaGreat
open Go.RowKit Go.ChangeShapes Go.WideShapes Go.Deep Go.ChangeAt
theorem laidOut : laidOutB Tryz.prog = true := by kernel_rfl
/-- A raw op, as it came. -/
structure OpV where
  k : Int
  t : Int
  a : Int
  b : Int
  i : Int
  n : Int
  s0 : Int
  s1 : Int
  s2 : Int
instance : Inhabited OpV := ⟨⟨0, 0, 0, 0, 0, 0, 0, 0, 0⟩⟩
def I64 (x : Int) : Prop := -9223372036854775808 ≤ x ∧ x ≤ 9223372036854775807
def OpV.c (d : OpV) : Nat → Int
  | 0 => d.k | 1 => d.t | 2 => d.a | 3 => d.b | 4 => d.i | 5 => d.n | 6 => d.s0 | 7 => d.s1 | _ => d.s2
def OpV.ok (d : OpV) : Prop := ∀ j, I64 (d.c j)
/-- A list of ops in memory. -/
def OpsAt (w : World) (v : Value) (l : List OpV) : Prop :=
  l.length ≤ maxLen ∧ ∃ a c, v = .slice a l.length c ∧ (l = [] ∨ ∃ b off, a = some ⟨b, off, none⟩ ∧ ∀ (i : Nat) (d : OpV), l[i]? = some d → ∀ j, j < 9 → w.cell? ⟨b, off + i * 9 + j, none⟩ = some (.int .i64 (d.c j)))
theorem cell_in {w : World} {b o : Nat} {v : Value} (h : w.cell? ⟨b, o, none⟩ = some v) : b < w.heap.size := by
  unfold World.cell? at h
  split at h
  · rename_i h'; exact (Array.getElem?_eq_some_iff.1 h').1
  · cases h
theorem OpsAt.below {w w' : World} {v : Value} {l : List OpV} (h : OpsAt w v l) (k : Below w.heap.size w w') : OpsAt w' v l := by
  obtain ⟨hl, a, c, rfl, h0⟩ := h
  refine ⟨hl, a, c, rfl, h0.imp id ?_⟩
  rintro ⟨b, off, rfl, h⟩
  refine ⟨b, off, rfl, fun i d hd j hj => ?_⟩
  have hc := h i d hd j hj
  exact (k.cell (p := ⟨b, off + i * 9 + j, none⟩) (cell_in hc)).trans hc
theorem addr_plain {w : World} {a : Addr} {v : Value} (h : w.cell? a = some v) : a = ⟨a.block, a.off, none⟩ := by
  obtain ⟨b, o, s⟩ := a
  unfold World.cell? at h
  split at h
  · cases s with
    | none => rfl
    | some x => simp at h
  · cases h
theorem add_plain (b o j : Nat) : (⟨b, o, none⟩ : Addr).add j = ⟨b, o + j, none⟩ := by unfold Addr.add; split <;> simp_all
theorem drop_one {cs : List Value} {j : Nat} (h : j < cs.length) : (cs.drop j).take 1 = [cs[j]] := by
  rw [List.drop_eq_getElem_cons h]; rfl
set_option maxRecDepth 100000 in
theorem open_ops {H : Type} {enc : TypeId × Value → H} {w : World} {base : Nat} {spare : Nat → Bool} {held : Bool} {v : Value} {d : DataW H} {p : List MemPlace} (h : DataW.Trod enc Tryz.prog w base spare held 36 v d p) 
    {r : Reach} {b0 : Nat} (hv : Value.okWide Tryz.prog w r b0 36 v) :
    ∃ l, OpsAt w v l ∧ ∀ d ∈ l, d.ok := by
  obtain ⟨fuel, h⟩ := h
  obtain ⟨a, n, c, rfl⟩ := okWide_slice Tryz.underlying36 hv
  have h' : DataW.trod enc Tryz.prog w base spare held fuel 36 [.slice a n c] = some (d, p) := h
  have hC : Tryz.prog.cellsOf 39 = 9 := by kernel_rfl
  have hI : Tryz.prog.cellsOf 3 = 1 := by kernel_rfl
  have hA : Tryz.prog.cellsOf 37 = 3 := by kernel_rfl
  rcases open_slice Tryz.underlying36 h' with ⟨hcs, _⟩ | ⟨a, len, cap, m, fu, D, Pl, hcs, _, hl, hm, hmm, _, hx⟩
  · simp only [List.cons.injEq, and_true] at hcs
    rw [hcs]
    exact ⟨[], ⟨by simp, none, 0, rfl, .inl rfl⟩, fun d hd => by cases hd⟩
  simp only [List.cons.injEq, and_true] at hcs
  rw [hcs]
  have hle : len ≤ m := by rw [hmm]; split <;> omega
  have key : ∀ k, k < len → ∃ d : OpV, (∀ r, r < 9 → w.cell? (a.add (k * 9 + r)) = some (.int .i64 (d.c r))) ∧ d.ok := by
    intro k hk
    obtain ⟨cs', hc, ht⟩ := hx k (by omega)
    rw [hC] at hc
    obtain ⟨_, hcl, hat⟩ := World.cells?_some hc
    obtain ⟨ys, n', _, _, _, _, hf⟩ := DataW.trod_struct Tryz.underlying39 ht
    have hint : ∀ (n : Nat) (j : Nat) (y : DataW H × List MemPlace), j < 9 → DataW.trod enc Tryz.prog w base spare held n 3 ((cs'.drop j).take 1) = some y → ∃ z, w.cell? (a.add (k * 9 + j)) = some (.int .i64 z) ∧ I64 z := by
      intro n j y hj hy
      have hjl : j < cs'.length := by omega
      rw [drop_one hjl] at hy
      obtain ⟨z, q, _, hw⟩ := DataW.trod_int Tryz.underlying3 hy
      simp only [List.cons.injEq, and_true] at q
      refine ⟨z, ?_, int_bd hw⟩
      have hcell := hat j hj
      rw [List.getElem?_eq_getElem hjl, q] at hcell
      rw [← Go.Deep.add_add, hcell]
    have hys : ys.length = 7 := by assumption
    have g : ∀ j, j < 7 → ∃ y, ys[j]? = some y := fun j hj => ⟨_, List.getElem?_eq_getElem (by omega)⟩
    obtain ⟨y0, e0⟩ := g 0 (by omega)
    obtain ⟨y1, e1⟩ := g 1 (by omega)
    obtain ⟨y2, e2⟩ := g 2 (by omega)
    obtain ⟨y3, e3⟩ := g 3 (by omega)
    obtain ⟨y4, e4⟩ := g 4 (by omega)
    obtain ⟨y5, e5⟩ := g 5 (by omega)
    obtain ⟨y6, e6⟩ := g 6 (by omega)
    have h0 : DataW.trod enc Tryz.prog w base spare held n' 3 ((cs'.drop 0).take (Tryz.prog.cellsOf 3)) = some y0 := (hf 0 _ rfl).trans e0
    have h1 : DataW.trod enc Tryz.prog w base spare held n' 3 ((cs'.drop 1).take (Tryz.prog.cellsOf 3)) = some y1 := (hf 1 _ rfl).trans e1
    have h2 : DataW.trod enc Tryz.prog w base spare held n' 3 ((cs'.drop 2).take (Tryz.prog.cellsOf 3)) = some y2 := (hf 2 _ rfl).trans e2
    have h3 : DataW.trod enc Tryz.prog w base spare held n' 3 ((cs'.drop 3).take (Tryz.prog.cellsOf 3)) = some y3 := (hf 3 _ rfl).trans e3
    have h4 : DataW.trod enc Tryz.prog w base spare held n' 3 ((cs'.drop 4).take (Tryz.prog.cellsOf 3)) = some y4 := (hf 4 _ rfl).trans e4
    have h5 : DataW.trod enc Tryz.prog w base spare held n' 3 ((cs'.drop 5).take (Tryz.prog.cellsOf 3)) = some y5 := (hf 5 _ rfl).trans e5
    have h6 : DataW.trod enc Tryz.prog w base spare held n' 37 ((cs'.drop 6).take (Tryz.prog.cellsOf 37)) = some y6 := (hf 6 _ rfl).trans e6
    rw [hI] at h0 h1 h2 h3 h4 h5
    rw [hA] at h6
    obtain ⟨zs, n2, _, _, _, hzl, hz⟩ := DataW.trod_array Tryz.underlying37 h6
    simp only [hI, Nat.mul_one] at hz
    have hsub : ∀ r, r < 3 → ((cs'.drop 6 |>.take 3).drop r).take 1 = (cs'.drop (6 + r)).take 1 := by
      intro r hr
      rw [List.drop_take, List.drop_drop, List.take_take, show min 1 (3 - r) = 1 from by omega]
    have gz : ∀ r, r < 3 → ∃ z, w.cell? (a.add (k * 9 + (6 + r))) = some (.int .i64 z) ∧ I64 z := by
      intro r hr
      have := hz r hr
      rw [hsub r hr, List.getElem?_eq_getElem (by omega)] at this
      exact hint _ _ _ (by omega) this
    obtain ⟨x0, c0, w0⟩ := hint _ 0 _ (by omega) h0
    obtain ⟨x1, c1, w1⟩ := hint _ 1 _ (by omega) h1
    obtain ⟨x2, c2, w2⟩ := hint _ 2 _ (by omega) h2
    obtain ⟨x3, c3, w3⟩ := hint _ 3 _ (by omega) h3
    obtain ⟨x4, c4, w4⟩ := hint _ 4 _ (by omega) h4
    obtain ⟨x5, c5, w5⟩ := hint _ 5 _ (by omega) h5
    obtain ⟨x6, c6, w6⟩ := gz 0 (by omega)
    obtain ⟨x7, c7, w7⟩ := gz 1 (by omega)
    obtain ⟨x8, c8, w8⟩ := gz 2 (by omega)
    refine ⟨⟨x0, x1, x2, x3, x4, x5, x6, x7, x8⟩, fun r hr => ?_, fun j => ?_⟩
    · obtain rfl | rfl | rfl | rfl | rfl | rfl | rfl | rfl | rfl : r = 0 ∨ r = 1 ∨ r = 2 ∨ r = 3 ∨ r = 4 ∨ r = 5 ∨ r = 6 ∨ r = 7 ∨ r = 8 := by omega
      all_goals assumption
    · rcases j with _ | _ | _ | _ | _ | _ | _ | _ | _ <;> assumption
  obtain ⟨F, hF⟩ := choose_lt key
  refine ⟨(List.range len).map F, ⟨by simp; omega, some a, cap, by rw [List.length_map, List.length_range], ?_⟩, ?_⟩
  · by_cases h0 : len = 0
    · left; subst h0; rfl
    · right
      have hc0 := (hF 0 (by omega)).1 0 (by omega)
      rw [Nat.zero_mul, Nat.add_zero] at hc0
      have ha0 : a.add 0 = a := by unfold Addr.add; simp
      rw [ha0] at hc0
      have hp := addr_plain hc0
      refine ⟨a.block, a.off, by rw [← hp], fun i q hq j hj => ?_⟩
      rw [List.getElem?_map] at hq
      obtain ⟨q', hq', rfl⟩ := Option.map_eq_some_iff.1 hq
      have hql : i < len := by have := (List.getElem?_eq_some_iff.1 hq').1; simpa using this
      obtain rfl : i = q' := by
        rw [List.getElem?_range hql] at hq'
        exact Option.some.inj hq'
      have hc := (hF i hql).1 j hj
      rw [hp, add_plain] at hc
      rw [Nat.add_assoc]
      exact hc
  · intro q hq
    obtain ⟨i, hi, rfl⟩ := List.mem_map.1 hq
    exact (hF i (List.mem_range.1 hi)).2
/-- Arguments of readable types, no cell of which is written, read as they did. -/
theorem below_all {H : Type} {enc : TypeId × Value → H} {W W' : World} (hb : Below W.heap.size W W') : ∀ (ts : List TypeId), (∀ t ∈ ts, Tryz.prog.readableRec t = true ∧ t < Tryz.prog.types.size) →
    ∀ (vs : List Value) (ds : List (DataW H)) (ps : List MemPlace), DataW.TrodAll enc Tryz.prog W 0 (fun _ => true) true ts vs ds ps →
    (∃ qs, DataW.TrodAll enc Tryz.prog W' 0 (fun b => decide (b < W.heap.size)) true ts vs ds qs ∧ qs = ps) := by
  intro ts
  induction ts with
  | nil =>
    intro _ vs ds ps h
    cases vs with
    | cons v vs => exact absurd h (by intro h; cases h)
    | nil =>
      obtain ⟨rfl, rfl⟩ : ds = [] ∧ ps = [] := by
        have := trodAll_nil h; simp_all
      exact ⟨_, trodAll_mk0, rfl⟩
  | cons t ts ih =>
    intro hh vs ds ps h
    obtain ⟨v0, vs0, d0, ds0, p0, q0, rfl, rfl, rfl, h0, r0⟩ := trodAll_cons h
    obtain ⟨hr, hsz⟩ := hh t (.head _)
    have lt0 : ∀ x ∈ p0, x.block < W.heap.size := by obtain ⟨m, hm⟩ := h0; exact DataW.trod_lt m _ _ _ hm
    obtain ⟨qs, hq, rfl⟩ := ih (fun u hu => hh u (.tail _ hu)) _ _ _ r0
    exact ⟨_, trodAll_cons_mk (Below.trod laidOut hr hsz h0 hb lt0) hq, rfl⟩
end Go.Proofs.YtemohiainfllcaaGreat

/- The law TxnReaders, walked. -/
namespace Go.Proofs.YtemohiainfllcaaGreat
open Go.RowKit Hp
attribute [local go_sem ↓] Go.wp_at_zero Go.wp_at_succ
namespace Rd
def Bn : Nat → Stt
  | 0 => Yd.Y 400 3
  | t + 1 => (Bn t).begin t
theorem bn : ∀ t < 3, t < (Bn t).txs.length ∧ (Bn t).now + 9 ≤ (Bn t).most ∧ ((Bn t).t t).live = false := by decide +kernel
end Rd
set_option maxRecDepth 100000 in
set_option maxHeartbeats 4000000 in
theorem txnReaders_any (v0 : Value) (l : List OpV) (w : World) (hl : OpsAt w v0 l) (hI : ∀ d ∈ l, d.ok) :
    Calls Tryz.prog 4 #[v0] w fun e w' => e = .returned (.bool true) ∧ Below w.heap.size w w' := by
  have HYd := Lib.hid (fun w => yard_any 400 3 (by decide) w)
  have HAw := Lib.hid awake14_any
  have HBn := Lib.hid Rd.bn
  obtain ⟨hlen, a, c, rfl, hop⟩ := hl
  have HOp := Lib.hid hop
  have HOk := Lib.hid hI
  clear hop hI
  have hlI : (l.length : Int) ≤ 9223372036854775807 := by have := hlen; simp [maxLen] at this; omega
  clear hlen
  go_enter Tryz.func4, Tryz.ntmps4
  go_wp2_with fail
  refine (HAw.out _).mono ?_
  rintro e w1 ⟨rfl, hb1⟩
  go_wp2_with fail
  refine (HYd.out _).mono ?_
  rintro e w2 ⟨y, v, o2, rfl, hid, hS2, hI2, hr2, hs2⟩
  have HID := Lib.hid hid
  have hold := Lib.hid (fun (W : World) (o' : Own) (hs : Stp (yT y) (fun _ => (7, 0)) o' w1 W) => show Below w.heap.size w W from
    btrans hb1 (hs.below fun c _ h => h.elim (fun h => by have h : (7 : Nat) = y.l.id := h; rw [HID.out] at h; cases h) (fun h => by injection h with h _; cases h)))
  clear hid hb1
  obtain ⟨gr, cap, hv, hcap⟩ := (show ∃ g cap, v = .slice (some ⟨g, 0, none⟩) 4 cap ∧ 4 ≤ cap from by
    rcases hr2.form with ⟨_, h0⟩ | ⟨g, cap, e, hn, _⟩
    · cases h0
    · exact ⟨g, cap, e, hn⟩)
  subst hv
  go_wp2_with fail
  go_loopw [6] (fun ix wr => ∃ (t : Nat) (oo : Own), ix = .int .i64 t ∧ t ≤ 3 ∧ StIn wr oo y (Rd.Bn t) ∧ Inv (Rd.Bn t) ∧ Row wr oo (9, 0) 3 1 (.slice (some ⟨gr, 0, none⟩) 4 cap) 4 ((List.range 4).map fun t => nv (Yd.pl t)) ∧ Stp (yT y) (fun _ => (7, 0)) oo w1 wr) (fun ix _ => 3 - (intOf ix).toNat)
  case atStart => exact ⟨0, o2, rfl, by omega, hS2, hI2, hr2, hs2⟩
  case round =>
    clear hS2 hI2 hr2 hs2
    obtain ⟨t, oo, rfl, ht, hS, hI, hr, hs⟩ := hrel
    obtain ⟨wo, rfl⟩ : ∃ wo : World, wo = wr := ⟨_, rfl⟩
    by_cases hlt : t < 3
    · have tI : (t : Int) < 3 := by omega
      obtain ⟨f1, f2, f3⟩ := HBn.out t hlt
      have HA := Lib.hid (c_begin (i := t) hS hI f1 f2)
      rw [f3] at HA
      simp only [Bool.false_eq_true, if_false] at HA
      have HR := Lib.hid hr
      have HS := Lib.hid hs
      clear f1 f2 f3 hS hI hr hs
      go_wp2_with fail
      refine HA.out.mono ?_
      rintro e w3 ⟨rfl, hL⟩
      obtain ⟨o3, hS3, hI3, hs3⟩ := show Left y (Rd.Bn (t + 1)) oo wo w3 from hL
      go_wp2_with fail
      go_roundw
      case rel => exact ⟨t + 1, o3, by simp, by omega, hS3, hI3, HR.out.stp hs3 (nine_st HID.out), HS.out.trans (hs3.mono fun _ h => .inl h)⟩
      case measure => simp [intOf]; omega
    · obtain rfl : t = 3 := by omega
      have hOk0 := Rd.Ok.start Rd.bs
      rw [show ((3 : Nat) : Int) = (3 : Int) from rfl]
      clear hlt ht
      go_wp2_with fail
      go_loopw [7, 8, 9, 10, 11, 12, 13] (fun ix _ _ _ _ _ _ wr => ∃ (t : Nat) (oo : Own) (S : Stt), ix = .int .i64 t ∧ t ≤ 30 ∧ t ≤ l.length ∧ StIn wr oo y S ∧ Inv S ∧ Rd.Ok Rd.R3 t S ∧ Row wr oo (9, 0) 3 1 (.slice (some ⟨gr, 0, none⟩) 4 cap) 4 ((List.range 4).map fun t => nv (Yd.pl t)) ∧ Stp (yT y) (fun _ => (7, 0)) oo w1 wr) (fun ix _ _ _ _ _ _ _ => 30 - (intOf ix).toNat)
      case atStart => exact ⟨0, oo, Rd.R3, rfl, by omega, by omega, hS, hI, hOk0, hr, hs⟩
      case round =>
        clear hS hI hr hs hOk0
        obtain ⟨t, oo, S, rfl, ht, htl, hS, hI, hOk, hr, hs⟩ := hrel
        obtain ⟨wo, rfl⟩ : ∃ wo : World, wo = wr := ⟨_, rfl⟩
        have hstop : (t < 30 ∧ t < l.length) ∨ ¬ (t < 30 ∧ t < l.length) := by omega
        rcases hstop with ⟨h30, hll⟩ | hstop
        · have tI : (t : Int) < 30 := by omega
          have tL : (t : Int) < (l.length : Int) := by omega
          obtain ⟨d, hd⟩ : ∃ d, l[t]? = some d := ⟨l[t], List.getElem?_eq_getElem hll⟩
          obtain ⟨bb, off, rfl, hc⟩ : ∃ b off, a = some ⟨b, off, none⟩ ∧ ∀ (i : Nat) (d : OpV), l[i]? = some d → ∀ j, j < 9 → w.cell? ⟨b, off + i * 9 + j, none⟩ = some (.int .i64 (d.c j)) := by
            rcases HOp.out with h | h
            · rw [h] at hd; simp at hd
            · exact h
          have hbw := hold.out _ _ hs
          have hdo := HOk.out d (List.mem_of_getElem? hd)
          have q1 := hc t d hd 1 (by omega)
          have q3 := hc t d hd 3 (by omega)
          have e1 := (hbw.cell (p := ⟨bb, off + t * 9 + 1, none⟩) (cell_in q1)).trans q1
          have e3 := (hbw.cell (p := ⟨bb, off + t * 9 + 3, none⟩) (cell_in q3)).trans q3
          have P0 := Lib.hid (fun w => pick14_any (d.c 1) (hdo 1) 3 (by omega) (by omega) w)
          have P1 := Lib.hid (fun w => pick14_any (d.c 3) (hdo 3) 4 (by omega) (by omega) w)
          have li := pk_lt (d.c 1) (show 1 ≤ 3 by omega)
          have lk := pk_lt (d.c 3) (show 1 ≤ 4 by omega)
          generalize pk (d.c 1) 3 = i at *
          generalize pk (d.c 3) 4 = k at *
          generalize d.c 1 = dt at *
          generalize d.c 3 = db at *
          obtain ⟨g1, g2, g3, gm⟩ := Rd.Ok.reads Rd.bs hOk li lk (by omega)
          obtain ⟨g4, g5, g6⟩ := Rd.Ok.gets Rd.bs g3 li lk (by omega) gm
          have HRd := Lib.hid (c_read (i := i) hS hI (hOk.chk li (by omega)) (Rd.Ok.plc Rd.bs hOk lk) 0)
          rw [g1, g2] at HRd
          have HGt := Lib.hid (fun (W : World) (o' : Own) (hS' : StIn W o' y (S.read i (Yd.pl k) 0).S) (hI' : Inv (S.read i (Yd.pl k) 0).S) => by
            have := c_get (i := i) hS' hI' (g3.chk li (by omega)) (Rd.Ok.plc Rd.bs g3 lk) 0
            rw [g4, g5] at this
            exact this)
          have HR := Lib.hid hr
          have HS := Lib.hid hs
          have G6 := Lib.hid g6
          have HCe := Lib.hid (fun (W : World) (o' : Own) (hW : Stp (stTag y) oo o' wo W) (t : Nat) (ht : t < 4) => show W.cell? ⟨gr, t, none⟩ = some (.int .i64 (Yd.pl t)) from (hr.stp hW (nine_st HID.out)).cells t _ (by rw [List.getElem?_map, List.getElem?_range ht]; rfl))
          clear g1 g2 g3 gm g4 g5 g6 hS hI hOk hr hs hc hd hdo q1 q3 hbw
          go_wp2_with fail
          refine (P0.out _).mono ?_
          rintro e w' ⟨rfl, rfl⟩
          go_wp2_with fail
          refine (P1.out _).mono ?_
          rintro e w' ⟨rfl, rfl⟩
          have kI : (k : Int) < 4 := by omega
          have ck := HCe.out _ _ (Stp.refl _ _ _) k lk
          go_wp2_with fail
          refine HRd.out.mono ?_
          rintro e w3 ⟨rfl, hL⟩
          obtain ⟨o3, hS3, hI3, hs3⟩ := hL
          have ck := HCe.out _ _ hs3 k lk
          go_wp2_with fail
          refine (HGt.out _ _ hS3 hI3).mono ?_
          rintro e w4 ⟨rfl, hL⟩
          obtain ⟨o4, hS4, hI4, hs4⟩ := hL
          have hs34 := hs3.trans hs4
          have a1 : IntKind.i64.wrap (1 : Int) = 1 := by decide
          have a2 : IntKind.i64.wrap (2 : Int) = 2 := by decide
          have a3 : IntKind.i64.wrap (3 : Int) = 3 := by decide
          have a4 : IntKind.i64.wrap (4 : Int) = 4 := by decide
          have t1 : Int.tmod 1 4 = 1 := by decide
          have t2 : Int.tmod 2 4 = 2 := by decide
          have t3 : Int.tmod 3 4 = 3 := by decide
          have t4 : Int.tmod 4 4 = 0 := by decide
          have c0 := HCe.out _ _ hs34 0 (by omega)
          have c1 := HCe.out _ _ hs34 1 (by omega)
          have c2 := HCe.out _ _ hs34 2 (by omega)
          have c3 := HCe.out _ _ hs34 3 (by omega)
          clear hS3 hI3 hs3 hs4 ck
          obtain rfl | rfl | rfl | rfl : k = 0 ∨ k = 1 ∨ k = 2 ∨ k = 3 := by omega
          all_goals
            go_wp2_with fail
            go_roundw
            case rel => exact ⟨t + 1, o4, _, by simp, by omega, by omega, hS4, hI4, G6.out, HR.out.stp hs34 (nine_st HID.out), HS.out.trans (hs34.mono fun _ h => .inl h)⟩
            case measure => simp [intOf]; omega
        · have hdn := hOk.done
          have hcs : ((t : Int) < (l.length : Int) ∧ ¬ (t : Int) < 30) ∨ ¬ (t : Int) < (l.length : Int) := by omega
          have ht60 : t < 60 := by omega
          clear hOk hstop htl HBn HYd HAw HOp HOk
          rcases hcs with ⟨hA, hB⟩ | hA
          all_goals
            go_wp2_with fail
            go_loopw [14, 15, 16] (fun ix _ _ wr => ∃ (j : Nat) (oo : Own) (S : Stt), ix = .int .i64 j ∧ j ≤ 3 ∧ StIn wr oo y S ∧ Inv S ∧ Rd.Done Rd.R3 t j S ∧ Stp (yT y) (fun _ => (7, 0)) oo w1 wr) (fun ix _ _ _ => 3 - (intOf ix).toNat)
            case atStart => exact ⟨0, oo, S, rfl, by omega, hS, hI, hdn, hs⟩
            case round =>
              clear hS hI hr hs hdn
              obtain ⟨j, oo, S, rfl, hj, hS, hI, hdn, hs⟩ := hrel
              obtain ⟨wo, rfl⟩ : ∃ wo : World, wo = wr := ⟨_, rfl⟩
              by_cases hlt : j < 3
              · have jI : (j : Int) < 3 := by omega
                obtain ⟨g1, g2, g3, g4, g5⟩ := Rd.Done.ends Rd.bs hdn hlt ht60
                have HCm := Lib.hid (c_commit (i := j) hS hI g1 g2)
                rw [g3, g4] at HCm
                have HS := Lib.hid hs
                have G5 := Lib.hid g5
                clear g1 g2 g3 g4 g5 hS hI hdn hs
                go_wp2_with fail
                refine HCm.out.mono ?_
                rintro e w3 ⟨rfl, hL⟩
                obtain ⟨o3, hS3, hI3, hs3⟩ := hL
                go_wp2_with fail
                go_roundw
                case rel => exact ⟨j + 1, o3, _, by simp, by omega, hS3, hI3, G5.out, HS.out.trans (hs3.mono fun _ h => .inl h)⟩
                case measure => simp [intOf]; omega
              · obtain rfl : j = 3 := by omega
                have HN := Lib.hid (now_in hS)
                rw [Rd.Done.now Rd.bs hdn] at HN
                have hfin := hold.out _ _ hs
                rw [show ((3 : Nat) : Int) = (3 : Int) from rfl]
                clear hS hI hdn hs hlt hj
                go_wp2_with fail
                refine HN.out.mono ?_
                rintro e w3 ⟨rfl, rfl⟩
                go_wp2_with fail
                go_ret
                exact ⟨rfl, hfin⟩
end Go.Proofs.YtemohiainfllcaaGreat
