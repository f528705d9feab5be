/- Readers, in plain Lean: what reads and gets come to while nothing is changed. -/
import Derived.Test.YtemohiainfllcaaGreatRn
import Derived.Test.YtemohiainfllcaaGreatRa
import Derived.Deep.Slices
import Derived.Deep.Fields
import Derived.ChangeSame
import Derived.ChangeArms
import Derived.OpenShut
import Derived.ProofKit
import Derived.Carry
import Derived.Below
import Derived.Deep.DeepHandedRow
namespace Go.Proofs.YtemohiainfllcaaGreat
open Go.RowKit Hp
namespace Rd
def R3 : Stt := (((Yd.Y 400 3).begin 0).begin 1).begin 2
/-- Three live transactions that have read at most n times, and nothing else. -/
structure Ok (B : Stt) (n : Nat) (S : Stt) : Prop where
  eq : S = { B with txs := S.txs }
  len : S.txs.length = 3
  tx : ∀ (i : Nat) (x : Tx), S.txs[i]? = some x → ∃ rs : List Nat, x = ⟨true, 1, ⟨60, 60, rs, [], [], []⟩⟩ ∧ rs.length ≤ n
def obB (B : Stt) (i k : Nat) : Bool := match lk B.H.cur (Yd.pl k) with
  | some ob => !ob.freed && !ob.shp.weak && decide (ob.nums[0]? = some (10 + (k : Int))) && decide (ob.ptrs[0]? = some (Yd.pl ((k + 1) % 4))) && !clashB i 1 ob.second
  | none => false
structure Bs (B : Stt) : Prop where
  ob : ∀ i < 3, ∀ k < 4, obB B i k = true
  st : B.txs = [⟨true, 1, ⟨60, 60, [], [], [], []⟩⟩, ⟨true, 1, ⟨60, 60, [], [], [], []⟩⟩, ⟨true, 1, ⟨60, 60, [], [], [], []⟩⟩]
  ho : B.holder = -1
  nw : B.now = 1
  mo : B.now < B.most
theorem bs : Bs R3 := ⟨by decide +kernel, by kernel_rfl, by decide +kernel, by decide +kernel, by decide +kernel⟩
variable {B : Stt}
theorem Bs.obs (b : Bs B) {i k : Nat} (hi : i < 3) (hk : k < 4) : ∃ ob, lk B.H.cur (Yd.pl k) = some ob ∧ ob.freed = false ∧ ob.shp.weak = false ∧ ob.nums[0]? = some (10 + (k : Int)) ∧ ob.ptrs[0]? = some (Yd.pl ((k + 1) % 4)) ∧ clashB i 1 ob.second = false := by
  have h := b.ob i hi k hk
  unfold obB at h
  cases hl : lk B.H.cur (Yd.pl k) with
  | none => rw [hl] at h; cases h
  | some ob =>
    rw [hl] at h
    simp only [Bool.and_eq_true, Bool.not_eq_true', decide_eq_true_eq] at h
    exact ⟨ob, rfl, h.1.1.1.1, h.1.1.1.2, h.1.1.2, h.1.2, h.2⟩
theorem eta (S : Stt) : S = { S with txs := S.txs } := rfl
theorem eqTx {S B : Stt} (h : S = { B with txs := S.txs }) (i : Nat) (x : Tx) : S.tx i x = { B with txs := (S.tx i x).txs } := by
  obtain ⟨l, hl⟩ : ∃ l, l = S.txs := ⟨_, rfl⟩
  rw [← hl] at h
  subst h
  rfl
theorem Ok.start (b : Bs B) : Ok B 0 B := by
  refine ⟨eta B, by rw [b.st]; rfl, fun i x hx => ?_⟩
  rw [b.st] at hx
  have hm := List.mem_of_getElem? hx
  simp only [List.mem_cons, List.not_mem_nil, or_false, or_self] at hm
  exact ⟨[], hm, Nat.le_refl _⟩
variable {n i k : Nat} {S : Stt}
theorem Ok.H (h : Ok B n S) : S.H = B.H := ((congrArg Stt.H h.eq).trans rfl)
theorem Ok.t (h : Ok B n S) (hi : i < 3) : ∃ rs : List Nat, S.t i = ⟨true, 1, ⟨60, 60, rs, [], [], []⟩⟩ ∧ rs.length ≤ n := h.tx i _ (Stt.t_get (by rw [h.len]; exact hi))
theorem Ok.chk (h : Ok B n S) (hi : i < 3) (hn : n < 60) : S.chk i = true := by
  obtain ⟨rs, hx, hr⟩ := h.t hi
  unfold Stt.chk roomyB
  rw [hx, h.len]
  simp
  omega
theorem Ok.plc (b : Bs B) (h : Ok B n S) (hk : k < 4) : Plc S (Yd.pl k) := by
  obtain ⟨ob, ho, _⟩ := b.obs (i := 0) (by omega) hk
  exact .inr (by rw [h.H, ho]; rfl)
theorem Ok.fields (b : Bs B) (h : Ok B n S) (hi : i < 3) (hk : k < 4) (hn : n < 60) : S.fieldsR i (S.t i) (Yd.pl k) = (S.tx i ((S.t i).read (Yd.pl k)), 0) := by
  obtain ⟨rs, hx, hr⟩ := h.t hi
  obtain ⟨ob, ho, h1, h2, h3, h4, h5⟩ := b.obs hi hk
  have hl : lk S.H.cur (Yd.pl k) = some ob := by rw [h.H]; exact ho
  have hp : Yd.pl k ≠ 0 := by unfold Yd.pl; omega
  have hb : noteB rs (Yd.pl k) 60 = true := by unfold noteB; rw [decide_eq_true_eq]; right; omega
  unfold Stt.fieldsR Stt.lookR Stt.shpOf
  rw [if_neg hp, hl, hx]
  simp only [h5, Bool.false_eq_true, if_false, hb, if_true, h1, h2]
theorem Ok.read (h : Ok B n S) (hi : i < 3) (p : Nat) : Ok B (n + 1) (S.tx i ((S.t i).read p)) := by
  refine ⟨eqTx h.eq _ _, by show (S.txs.set i _).length = 3; rw [List.length_set, h.len], fun j x hx => ?_⟩
  replace hx : (S.txs.set i ((S.t i).read p))[j]? = some x := hx
  by_cases hij : i = j
  · subst hij
    rw [List.getElem?_set_self (by rw [h.len]; exact hi)] at hx
    obtain ⟨rs, hr, hl⟩ := h.t hi
    rw [hr] at hx
    refine ⟨noteL rs p 60, (Option.some.inj hx).symm, ?_⟩
    unfold noteL
    split
    · omega
    · split
      · simp; omega
      · omega
  · rw [List.getElem?_set_ne hij] at hx
    obtain ⟨rs, hr, hl⟩ := h.tx j x hx
    exact ⟨rs, hr, by omega⟩
theorem Ok.has (h : Ok B n S) (hi : i < 3) (p : Nat) (hm : p ∈ (S.t i).log.reads) : Ok B n (S.tx i ((S.t i).read p)) := by
  refine ⟨eqTx h.eq _ _, by show (S.txs.set i _).length = 3; rw [List.length_set, h.len], fun j x hx => ?_⟩
  replace hx : (S.txs.set i ((S.t i).read p))[j]? = some x := hx
  by_cases hij : i = j
  · subst hij
    rw [List.getElem?_set_self (by rw [h.len]; exact hi)] at hx
    obtain ⟨rs, hr, hl⟩ := h.t hi
    rw [hr] at hx hm
    refine ⟨rs, ?_, hl⟩
    have e : noteL rs p 60 = rs := by unfold noteL; exact if_pos hm
    rw [← Option.some.inj hx]
    show (⟨true, 1, ⟨60, 60, noteL rs p 60, [], [], []⟩⟩ : Tx) = _
    rw [e]
  · rw [List.getElem?_set_ne hij] at hx
    exact h.tx j x hx
theorem Ok.mem (h : Ok B n S) (hi : i < 3) (p : Nat) (hn : n < 60) : p ∈ ((S.tx i ((S.t i).read p)).t i).log.reads := by
  have e : (S.tx i ((S.t i).read p)).t i = (S.t i).read p := by
    show (S.txs.set i ((S.t i).read p)).getD i _ = _
    rw [List.getD_eq_getElem?_getD, List.getElem?_set_self (by rw [h.len]; exact hi)]
    rfl
  obtain ⟨rs, hr, hl⟩ := h.t hi
  rw [e, hr]
  show p ∈ noteL rs p 60
  unfold noteL
  split
  · assumption
  · rw [if_pos (by omega)]; simp
theorem Ok.reads (b : Bs B) (h : Ok B n S) (hi : i < 3) (hk : k < 4) (hn : n < 60) : (S.read i (Yd.pl k) 0).v = 10 + (k : Int) ∧ (S.read i (Yd.pl k) 0).e = 0 ∧ Ok B (n + 1) (S.read i (Yd.pl k) 0).S ∧ Yd.pl k ∈ ((S.read i (Yd.pl k) 0).S.t i).log.reads := by
  obtain ⟨ob, ho, h1, h2, h3, h4, h5⟩ := b.obs hi hk
  have hl : lk S.H.cur (Yd.pl k) = some ob := by rw [h.H]; exact ho
  have e : S.read i (Yd.pl k) 0 = ⟨S.tx i ((S.t i).read (Yd.pl k)), 10 + (k : Int), 0⟩ := by
    unfold Stt.read Stt.readR
    rw [Ok.fields b h hi hk hn]
    simp only [ne_eq, not_true_eq_false, if_false, hl, Option.bind_some, h3]
    rfl
  rw [e]
  exact ⟨rfl, rfl, h.read hi _, h.mem hi _ hn⟩
theorem Ok.gets (b : Bs B) (h : Ok B n S) (hi : i < 3) (hk : k < 4) (hn : n < 60) (hm : Yd.pl k ∈ (S.t i).log.reads) : (S.get i (Yd.pl k) 0).v = (Yd.pl ((k + 1) % 4) : Int) ∧ (S.get i (Yd.pl k) 0).e = 0 ∧ Ok B n (S.get i (Yd.pl k) 0).S := by
  obtain ⟨ob, ho, h1, h2, h3, h4, h5⟩ := b.obs hi hk
  have hl : lk S.H.cur (Yd.pl k) = some ob := by rw [h.H]; exact ho
  have e : S.get i (Yd.pl k) 0 = ⟨S.tx i ((S.t i).read (Yd.pl k)), (Yd.pl ((k + 1) % 4) : Int), 0⟩ := by
    unfold Stt.get Stt.getR
    rw [Ok.fields b h hi hk hn]
    simp only [ne_eq, not_true_eq_false, if_false, hl, Option.bind_some, h4]
    rfl
  rw [e]
  exact ⟨rfl, rfl, h.has hi _ hm⟩
/-- The transactions ahead of t are ended, the others live. -/
structure Done (B : Stt) (n t : Nat) (S : Stt) : Prop where
  eq : S = { B with txs := S.txs }
  len : S.txs.length = 3
  tx : ∀ (i : Nat) (x : Tx), t ≤ i → S.txs[i]? = some x → ∃ rs : List Nat, x = ⟨true, 1, ⟨60, 60, rs, [], [], []⟩⟩ ∧ rs.length ≤ n
theorem Ok.done (h : Ok B n S) : Done B n 0 S := ⟨h.eq, h.len, fun i x _ => h.tx i x⟩
theorem Done.ends (b : Bs B) (h : Done B n i S) (hi : i < 3) (hn : n < 60) : S.chk i = true ∧ S.now < S.most ∧ (S.commit i).v = 0 ∧ (S.commit i).e = 0 ∧ Done B n (i + 1) (S.commit i).S := by
  obtain ⟨rs, hx, hr⟩ := h.tx i _ (Nat.le_refl _) (Stt.t_get (by rw [h.len]; exact hi))
  have e : S.commit i = ⟨S.tx i (S.t i).ended, 0, 0⟩ := by
    unfold Stt.commit Stt.commitR
    rw [if_pos ⟨by rw [hx], by rw [show S.holder = B.holder from ((congrArg Stt.holder h.eq).trans rfl), b.ho]; omega⟩]
    rfl
  refine ⟨?_, by rw [show S.now = B.now from ((congrArg Stt.now h.eq).trans rfl), show S.most = B.most from ((congrArg Stt.most h.eq).trans rfl)]; exact b.mo, by rw [e], by rw [e], ?_⟩
  · unfold Stt.chk roomyB
    rw [hx, h.len]
    simp
    omega
  · rw [e]
    refine ⟨eqTx h.eq _ _, by show (S.txs.set i _).length = 3; rw [List.length_set, h.len], fun j x hj hxj => ?_⟩
    replace hxj : (S.txs.set i (S.t i).ended)[j]? = some x := hxj
    rw [List.getElem?_set_ne (by omega)] at hxj
    exact h.tx j x (by omega) hxj
theorem Done.now (b : Bs B) (h : Done B n i S) : S.now = 1 := (((congrArg Stt.now h.eq).trans rfl)).trans b.nw
end Rd
end Go.Proofs.YtemohiainfllcaaGreat

/- Arguments that are lists of ops, opened: which ops they hold, in memory. -/
namespace Go.Proofs.YtemohiainfllcaaGreat
open Go.RowKit Go.ChangeShapes Go.WideShapes Go.Deep Go.ChangeAt
theorem laidOut : laidOutB Tryz.prog = true := by kernel_rfl
/-- A raw op, as it came. -/
structure OpV where
  k : Int
  t : Int
  a : Int
  b : Int
  i : Int
  n : Int
  s0 : Int
  s1 : Int
  s2 : Int
instance : Inhabited OpV := ⟨⟨0, 0, 0, 0, 0, 0, 0, 0, 0⟩⟩
def I64 (x : Int) : Prop := -9223372036854775808 ≤ x ∧ x ≤ 9223372036854775807
def OpV.c (d : OpV) : Nat → Int
  | 0 => d.k | 1 => d.t | 2 => d.a | 3 => d.b | 4 => d.i | 5 => d.n | 6 => d.s0 | 7 => d.s1 | _ => d.s2
def OpV.ok (d : OpV) : Prop := ∀ j, I64 (d.c j)
/-- A list of ops in memory. -/
def OpsAt (w : World) (v : Value) (l : List OpV) : Prop :=
  l.length ≤ maxLen ∧ ∃ a c, v = .slice a l.length c ∧ (l = [] ∨ ∃ b off, a = some ⟨b, off, none⟩ ∧ ∀ (i : Nat) (d : OpV), l[i]? = some d → ∀ j, j < 9 → w.cell? ⟨b, off + i * 9 + j, none⟩ = some (.int .i64 (d.c j)))
theorem cell_in {w : World} {b o : Nat} {v : Value} (h : w.cell? ⟨b, o, none⟩ = some v) : b < w.heap.size := by
  unfold World.cell? at h
  split at h
  · rename_i h'; exact (Array.getElem?_eq_some_iff.1 h').1
  · cases h
theorem OpsAt.below {w w' : World} {v : Value} {l : List OpV} (h : OpsAt w v l) (k : Below w.heap.size w w') : OpsAt w' v l := by
  obtain ⟨hl, a, c, rfl, h0⟩ := h
  refine ⟨hl, a, c, rfl, h0.imp id ?_⟩
  rintro ⟨b, off, rfl, h⟩
  refine ⟨b, off, rfl, fun i d hd j hj => ?_⟩
  have hc := h i d hd j hj
  exact (k.cell (p := ⟨b, off + i * 9 + j, none⟩) (cell_in hc)).trans hc
theorem addr_plain {w : World} {a : Addr} {v : Value} (h : w.cell? a = some v) : a = ⟨a.block, a.off, none⟩ := by
  obtain ⟨b, o, s⟩ := a
  unfold World.cell? at h
  split at h
  · cases s with
    | none => rfl
    | some x => simp at h
  · cases h
theorem add_plain (b o j : Nat) : (⟨b, o, none⟩ : Addr).add j = ⟨b, o + j, none⟩ := by unfold Addr.add; split <;> simp_all
theorem drop_one {cs : List Value} {j : Nat} (h : j < cs.length) : (cs.drop j).take 1 = [cs[j]] := by
  rw [List.drop_eq_getElem_cons h]; rfl
set_option maxRecDepth 100000 in
theorem open_ops {H : Type} {enc : TypeId × Value → H} {w : World} {base : Nat} {spare : Nat → Bool} {held : Bool} {v : Value} {d : DataW H} {p : List MemPlace} (h : DataW.Trod enc Tryz.prog w base spare held 36 v d p) 
    {r : Reach} {b0 : Nat} (hv : Value.okWide Tryz.prog w r b0 36 v) :
    ∃ l, OpsAt w v l ∧ ∀ d ∈ l, d.ok := by
  obtain ⟨fuel, h⟩ := h
  obtain ⟨a, n, c, rfl⟩ := okWide_slice Tryz.underlying36 hv
  have h' : DataW.trod enc Tryz.prog w base spare held fuel 36 [.slice a n c] = some (d, p) := h
  have hC : Tryz.prog.cellsOf 39 = 9 := by kernel_rfl
  have hI : Tryz.prog.cellsOf 3 = 1 := by kernel_rfl
  have hA : Tryz.prog.cellsOf 37 = 3 := by kernel_rfl
  rcases open_slice Tryz.underlying36 h' with ⟨hcs, _⟩ | ⟨a, len, cap, m, fu, D, Pl, hcs, _, hl, hm, hmm, _, hx⟩
  · simp only [List.cons.injEq, and_true] at hcs
    rw [hcs]
    exact ⟨[], ⟨by simp, none, 0, rfl, .inl rfl⟩, fun d hd => by cases hd⟩
  simp only [List.cons.injEq, and_true] at hcs
  rw [hcs]
  have hle : len ≤ m := by rw [hmm]; split <;> omega
  have key : ∀ k, k < len → ∃ d : OpV, (∀ r, r < 9 → w.cell? (a.add (k * 9 + r)) = some (.int .i64 (d.c r))) ∧ d.ok := by
    intro k hk
    obtain ⟨cs', hc, ht⟩ := hx k (by omega)
    rw [hC] at hc
    obtain ⟨_, hcl, hat⟩ := World.cells?_some hc
    obtain ⟨ys, n', _, _, _, _, hf⟩ := DataW.trod_struct Tryz.underlying39 ht
    have hint : ∀ (n : Nat) (j : Nat) (y : DataW H × List MemPlace), j < 9 → DataW.trod enc Tryz.prog w base spare held n 3 ((cs'.drop j).take 1) = some y → ∃ z, w.cell? (a.add (k * 9 + j)) = some (.int .i64 z) ∧ I64 z := by
      intro n j y hj hy
      have hjl : j < cs'.length := by omega
      rw [drop_one hjl] at hy
      obtain ⟨z, q, _, hw⟩ := DataW.trod_int Tryz.underlying3 hy
      simp only [List.cons.injEq, and_true] at q
      refine ⟨z, ?_, int_bd hw⟩
      have hcell := hat j hj
      rw [List.getElem?_eq_getElem hjl, q] at hcell
      rw [← Go.Deep.add_add, hcell]
    have hys : ys.length = 7 := by assumption
    have g : ∀ j, j < 7 → ∃ y, ys[j]? = some y := fun j hj => ⟨_, List.getElem?_eq_getElem (by omega)⟩
    obtain ⟨y0, e0⟩ := g 0 (by omega)
    obtain ⟨y1, e1⟩ := g 1 (by omega)
    obtain ⟨y2, e2⟩ := g 2 (by omega)
    obtain ⟨y3, e3⟩ := g 3 (by omega)
    obtain ⟨y4, e4⟩ := g 4 (by omega)
    obtain ⟨y5, e5⟩ := g 5 (by omega)
    obtain ⟨y6, e6⟩ := g 6 (by omega)
    have h0 : DataW.trod enc Tryz.prog w base spare held n' 3 ((cs'.drop 0).take (Tryz.prog.cellsOf 3)) = some y0 := (hf 0 _ rfl).trans e0
    have h1 : DataW.trod enc Tryz.prog w base spare held n' 3 ((cs'.drop 1).take (Tryz.prog.cellsOf 3)) = some y1 := (hf 1 _ rfl).trans e1
    have h2 : DataW.trod enc Tryz.prog w base spare held n' 3 ((cs'.drop 2).take (Tryz.prog.cellsOf 3)) = some y2 := (hf 2 _ rfl).trans e2
    have h3 : DataW.trod enc Tryz.prog w base spare held n' 3 ((cs'.drop 3).take (Tryz.prog.cellsOf 3)) = some y3 := (hf 3 _ rfl).trans e3
    have h4 : DataW.trod enc Tryz.prog w base spare held n' 3 ((cs'.drop 4).take (Tryz.prog.cellsOf 3)) = some y4 := (hf 4 _ rfl).trans e4
    have h5 : DataW.trod enc Tryz.prog w base spare held n' 3 ((cs'.drop 5).take (Tryz.prog.cellsOf 3)) = some y5 := (hf 5 _ rfl).trans e5
    have h6 : DataW.trod enc Tryz.prog w base spare held n' 37 ((cs'.drop 6).take (Tryz.prog.cellsOf 37)) = some y6 := (hf 6 _ rfl).trans e6
    rw [hI] at h0 h1 h2 h3 h4 h5
    rw [hA] at h6
    obtain ⟨zs, n2, _, _, _, hzl, hz⟩ := DataW.trod_array Tryz.underlying37 h6
    simp only [hI, Nat.mul_one] at hz
    have hsub : ∀ r, r < 3 → ((cs'.drop 6 |>.take 3).drop r).take 1 = (cs'.drop (6 + r)).take 1 := by
      intro r hr
      rw [List.drop_take, List.drop_drop, List.take_take, show min 1 (3 - r) = 1 from by omega]
    have gz : ∀ r, r < 3 → ∃ z, w.cell? (a.add (k * 9 + (6 + r))) = some (.int .i64 z) ∧ I64 z := by
      intro r hr
      have := hz r hr
      rw [hsub r hr, List.getElem?_eq_getElem (by omega)] at this
      exact hint _ _ _ (by omega) this
    obtain ⟨x0, c0, w0⟩ := hint _ 0 _ (by omega) h0
    obtain ⟨x1, c1, w1⟩ := hint _ 1 _ (by omega) h1
    obtain ⟨x2, c2, w2⟩ := hint _ 2 _ (by omega) h2
    obtain ⟨x3, c3, w3⟩ := hint _ 3 _ (by omega) h3
    obtain ⟨x4, c4, w4⟩ := hint _ 4 _ (by omega) h4
    obtain ⟨x5, c5, w5⟩ := hint _ 5 _ (by omega) h5
    obtain ⟨x6, c6, w6⟩ := gz 0 (by omega)
    obtain ⟨x7, c7, w7⟩ := gz 1 (by omega)
    obtain ⟨x8, c8, w8⟩ := gz 2 (by omega)
    refine ⟨⟨x0, x1, x2, x3, x4, x5, x6, x7, x8⟩, fun r hr => ?_, fun j => ?_⟩
    · obtain rfl | rfl | rfl | rfl | rfl | rfl | rfl | rfl | rfl : r = 0 ∨ r = 1 ∨ r = 2 ∨ r = 3 ∨ r = 4 ∨ r = 5 ∨ r = 6 ∨ r = 7 ∨ r = 8 := by omega
      all_goals assumption
    · rcases j with _ | _ | _ | _ | _ | _ | _ | _ | _ <;> assumption
  obtain ⟨F, hF⟩ := choose_lt key
  refine ⟨(List.range len).map F, ⟨by simp; omega, some a, cap, by rw [List.length_map, List.length_range], ?_⟩, ?_⟩
  · by_cases h0 : len = 0
    · left; subst h0; rfl
    · right
      have hc0 := (hF 0 (by omega)).1 0 (by omega)
      rw [Nat.zero_mul, Nat.add_zero] at hc0
      have ha0 : a.add 0 = a := by unfold Addr.add; simp
      rw [ha0] at hc0
      have hp := addr_plain hc0
      refine ⟨a.block, a.off, by rw [← hp], fun i q hq j hj => ?_⟩
      rw [List.getElem?_map] at hq
      obtain ⟨q', hq', rfl⟩ := Option.map_eq_some_iff.1 hq
      have hql : i < len := by have := (List.getElem?_eq_some_iff.1 hq').1; simpa using this
      obtain rfl : i = q' := by
        rw [List.getElem?_range hql] at hq'
        exact Option.some.inj hq'
      have hc := (hF i hql).1 j hj
      rw [hp, add_plain] at hc
      rw [Nat.add_assoc]
      exact hc
  · intro q hq
    obtain ⟨i, hi, rfl⟩ := List.mem_map.1 hq
    exact (hF i (List.mem_range.1 hi)).2
/-- Arguments of readable types, no cell of which is written, read as they did. -/
theorem below_all {H : Type} {enc : TypeId × Value → H} {W W' : World} (hb : Below W.heap.size W W') : ∀ (ts : List TypeId), (∀ t ∈ ts, Tryz.prog.readableRec t = true ∧ t < Tryz.prog.types.size) →
    ∀ (vs : List Value) (ds : List (DataW H)) (ps : List MemPlace), DataW.TrodAll enc Tryz.prog W 0 (fun _ => true) true ts vs ds ps →
    (∃ qs, DataW.TrodAll enc Tryz.prog W' 0 (fun b => decide (b < W.heap.size)) true ts vs ds qs ∧ qs = ps) := by
  intro ts
  induction ts with
  | nil =>
    intro _ vs ds ps h
    cases vs with
    | cons v vs => exact absurd h (by intro h; cases h)
    | nil =>
      obtain ⟨rfl, rfl⟩ : ds = [] ∧ ps = [] := by
        have := trodAll_nil h; simp_all
      exact ⟨_, trodAll_mk0, rfl⟩
  | cons t ts ih =>
    intro hh vs ds ps h
    obtain ⟨v0, vs0, d0, ds0, p0, q0, rfl, rfl, rfl, h0, r0⟩ := trodAll_cons h
    obtain ⟨hr, hsz⟩ := hh t (.head _)
    have lt0 : ∀ x ∈ p0, x.block < W.heap.size := by obtain ⟨m, hm⟩ := h0; exact DataW.trod_lt m _ _ _ hm
    obtain ⟨qs, hq, rfl⟩ := ih (fun u hu => hh u (.tail _ hu)) _ _ _ r0
    exact ⟨_, trodAll_cons_mk (Below.trod laidOut hr hsz h0 hb lt0) hq, rfl⟩
end Go.Proofs.YtemohiainfllcaaGreat

/- The laws' deeds of chapter 14, walked: Shape. -/
namespace Go.Proofs.YtemohiainfllcaaGreat
open Go.RowKit Hp
attribute [local go_sem ↓] Go.wp_at_zero Go.wp_at_succ
theorem pick14_q (c : Int) (hc : -9223372036854775808 ≤ c ∧ c ≤ 9223372036854775807) (n : Nat) (h1 : 1 ≤ n) (h2 : n ≤ 100) (w : World) :
    Calls Tryz.prog 15 #[.int .i64 c, .int .i64 n] w fun e w' => e = .returned (.int .i64 (pk c n)) ∧ w' = w :=
  (pick14_any c hc n h1 h2 w).mono fun _ _ h => ⟨h.1, h.2.symm⟩
def OpV.v (d : OpV) : Value := .agg #[.int .i64 d.k, .int .i64 d.t, .int .i64 d.a, .int .i64 d.b, .int .i64 d.i, .int .i64 d.n, .int .i64 d.s0, .int .i64 d.s1, .int .i64 d.s2]
def OpV.shp (d : OpV) : Shp := ⟨1 + pk d.s0 2, 1 + pk d.s1 2, false, pk d.s2 4 == 3⟩
set_option maxRecDepth 100000 in
set_option maxHeartbeats 1000000 in
theorem shape14_any (d : OpV) (hd : d.ok) (w : World) :
    Calls Tryz.prog 65 #[d.v] w fun e w' => e = .returned (shpV d.shp) ∧ Below w.heap.size w w' := by
  have P0 := Lib.hid (fun w => pick14_q d.s0 (hd 6) 2 (by omega) (by omega) w)
  have P1 := Lib.hid (fun w => pick14_q d.s1 (hd 7) 2 (by omega) (by omega) w)
  have P2 := Lib.hid (fun w => pick14_q d.s2 (hd 8) 4 (by omega) (by omega) w)
  have l0 := pk_lt d.s0 (show 1 ≤ 2 by omega)
  have l1 := pk_lt d.s1 (show 1 ≤ 2 by omega)
  have l2 := pk_lt d.s2 (show 1 ≤ 4 by omega)
  have e0 : d.shp = ⟨1 + pk d.s0 2, 1 + pk d.s1 2, false, pk d.s2 4 == 3⟩ := rfl
  rw [e0]
  have e1 : d.v = .agg #[.int .i64 d.k, .int .i64 d.t, .int .i64 d.a, .int .i64 d.b, .int .i64 d.i, .int .i64 d.n, .int .i64 d.s0, .int .i64 d.s1, .int .i64 d.s2] := rfl
  rw [e1]
  generalize pk d.s0 2 = p at *
  generalize pk d.s1 2 = q at *
  generalize pk d.s2 4 = r at *
  have pI : (p : Int) < 2 := by omega
  have qI : (q : Int) < 2 := by omega
  have rI : (r : Int) < 4 := by omega
  clear e0 e1 hd
  obtain ⟨dk, dt, da, db, di, dn, s0, s1, s2⟩ := d
  simp only at P0 P1 P2 ⊢
  go_enter Tryz.func65, Tryz.ntmps65
  go_upto_region 1 with fail
  obtain ⟨W, hW⟩ : ∃ W : World, W = (w.alloc (.cells #[.int .i64 dk, .int .i64 dt, .int .i64 da, .int .i64 db, .int .i64 di, .int .i64 dn, .int .i64 s0, .int .i64 s1, .int .i64 s2] 39)).alloc (.cells #[.int .i64 0, .int .i64 0, .bool false, .bool false] 80) := ⟨_, rfl⟩
  rw [← hW]
  have hbW : Below w.heap.size w W := by rw [hW]; exact balloc (balloc (bsame w) _) _
  have j1 : Blk W w.heap.size #[.int .i64 dk, .int .i64 dt, .int .i64 da, .int .i64 db, .int .i64 di, .int .i64 dn, .int .i64 s0, .int .i64 s1, .int .i64 s2] 39 := by rw [hW]; exact (Blk.new w _ _).alloc _
  have j2 : Blk W (w.heap.size + 1) #[.int .i64 0, .int .i64 0, .bool false, .bool false] 80 := by rw [hW]; exact Blk.new_at _ _ _ _ _ (by simp) rfl
  clear hW
  have c1 := j1.cell
  have c2 := j2.cell
  have z2 := j2.free
  have s2' := j2.lt
  go_still_tail 16, (by kernel_rfl)
  still_call (P0.out _)
  repeat still_step
  still_call (P1.out _)
  repeat still_step
  still_call (P2.out _)
  repeat still_step
  refine wpStill_nil ?_
  change wpList _ _ _ _ _ W.drew
  go_wp2_with fail
  have j3 := ((((j2.set 0 (.int .i64 (1 + (p : Int)))).set 1 (.int .i64 (1 + (q : Int)))).set 2 (.bool false)).set 3 (.bool ((r : Int) == 3)))
  have hr : ((r : Int) == 3) = (r == 3) := by rw [Bool.eq_iff_iff, beq_iff_eq, beq_iff_eq]; omega
  have hfin : Below w.heap.size w ((((W.setCell ⟨w.heap.size + 1, 0, none⟩ (.int .i64 (1 + (p : Int)))).setCell ⟨w.heap.size + 1, 1, none⟩ (.int .i64 (1 + (q : Int)))).setCell ⟨w.heap.size + 1, 2, none⟩ (.bool false)).setCell ⟨w.heap.size + 1, 3, none⟩ (.bool ((r : Int) == 3))) :=
    bset (bset (bset (bset hbW (by simp) _) (by simp) _) (by simp) _) (by simp) _
  generalize (((W.setCell ⟨w.heap.size + 1, 0, none⟩ (.int .i64 (1 + (p : Int)))).setCell ⟨w.heap.size + 1, 1, none⟩ (.int .i64 (1 + (q : Int)))).setCell ⟨w.heap.size + 1, 2, none⟩ (.bool false)).setCell ⟨w.heap.size + 1, 3, none⟩ (.bool ((r : Int) == 3)) = X at *
  have c3 : ∀ i, X.drew.cell? ⟨w.heap.size + 1, i, none⟩ = _ := j3.cell
  refine bodyPost_ret (v := shpV ⟨1 + p, 1 + q, false, r == 3⟩) ?_ rfl ⟨rfl, bdrew hfin⟩
  simp [results, Tryz.results65, go_sem, c3, shpV, hr]
end Go.Proofs.YtemohiainfllcaaGreat

/- A deed of a transaction that is not live: it is refused. -/
namespace Go.Proofs.YtemohiainfllcaaGreat
open Go.RowKit Hp
attribute [local go_sem ↓] Go.wp_at_zero Go.wp_at_succ
section
variable {w w' : World} {o o' : Own} {y : SLay} {S : Stt} {x : Tx} {i : Nat}
set_option maxRecDepth 100000 in
theorem deed_dead (f : Value) (h : StIn w o y S) (hk : S.ok) (hx : S.txs[i]? = some x) (hl : x.live = false) :
    Calls Tryz.prog 45 #[ptr y.sb, .int .i64 i, f] w fun e w' => e = .returned (.tuple #[.int .i64 0, .int .i64 140]) ∧ Below w.heap.size w w' := by
  have HR := Lib.hid (fun w' (hw : Below w.heap.size w w') => running_in (h.below hw) hk hx)
  rw [hl] at HR
  simp only [Bool.false_eq_true, if_false] at HR
  clear h hk hx
  go_enter_defers Tryz.func45, Tryz.ntmps45
  go_wp2_with fail
  obtain ⟨W, hW⟩ : ∃ W : World, W = ((w.alloc (.cells #[ptr y.sb] 23)).alloc (.cells #[.int .i64 0] 3)).alloc (.cells #[.int .i64 0] 27) := ⟨_, rfl⟩
  rw [← hW]
  have hbW : Below w.heap.size w W := by rw [hW]; exact balloc (balloc (balloc (bsame w) _) _) _
  have hzW : W.heap.size = w.heap.size + 3 := by rw [hW]; simp
  have jV : Blk W (w.heap.size + 1) #[.int .i64 0] 3 := by rw [hW]; exact (Blk.new_at _ _ _ _ _ (by simp) rfl).alloc _
  have jE : Blk W (w.heap.size + 1 + 1) #[.int .i64 0] 27 := by rw [hW]; exact Blk.new_at _ _ _ _ _ (by simp) rfl
  clear hW
  refine (HR.out _ hbW).mono ?_
  rintro e w1 ⟨rfl, rfl⟩
  have cV := jV.cell
  have zV := jV.free
  have sV := jV.lt
  have cE := jE.cell
  have zE := jE.free
  have sE := jE.lt
  go_wp2_with fail
  have jV3 := (((jV.set 0 (.int .i64 0)).set_other (a := ⟨w.heap.size + 1 + 1, 0, none⟩) (by simp) (.int .i64 140)).alloc (.cells #[.pointer none] 81))
  have jE3 := (((jE.set_other (a := ⟨w.heap.size + 1, 0, none⟩) (by simp) (.int .i64 0)).set 0 (.int .i64 140)).alloc (.cells #[.pointer none] 81))
  have hfin : Below w.heap.size w (((W.setCell ⟨w.heap.size + 1, 0, none⟩ (.int .i64 0)).setCell ⟨w.heap.size + 1 + 1, 0, none⟩ (.int .i64 140)).alloc (.cells #[.pointer none] 81)) :=
    balloc (bset (bset hbW (by simp) _) (by simp; omega) _) _
  generalize ((W.setCell ⟨w.heap.size + 1, 0, none⟩ (.int .i64 0)).setCell ⟨w.heap.size + 1 + 1, 0, none⟩ (.int .i64 140)).alloc (.cells #[.pointer none] 81) = X at *
  have cV3 := jV3.cell 0
  have cE3 := jE3.cell 0
  simp at cV3 cE3
  simp only [bodyPostD, Leaves]
  exact ⟨.tuple #[.int .i64 0, .int .i64 140], by simp [results, Tryz.results45, go_sem, cV3, cE3], rfl, hfin⟩
/-- A commit of a transaction that is not live. -/
theorem c_commit_dead (h : StIn w o y S) (hI : Inv S) (hi : i < S.txs.length) (hl : (S.t i).live = false) :
    Calls Tryz.prog 18 #[ptr y.sb, .int .i64 i] w fun e w' => e = .returned (.tuple #[.int .i64 0, .int .i64 140]) ∧ Left y S o w w' := by
  have hmf : ∀ (fn : Fn) (first cap : Array Value) (w : World), (Instr.makeFunc fn first cap).run Tryz.prog w = .ok (.func fn first cap) w := fun _ _ _ _ => rfl
  have HD := Lib.hid (fun W (hW : Below w.heap.size w W) (f : Value) => deed_dead f (h.below hW) hI.ok (Stt.t_get hi) hl)
  have hfin : ∀ W, Below w.heap.size w W → Left y S o w W := fun W hW => ⟨o, h.below hW, hI, Stp.of_below hW⟩
  have HF := Lib.hid hfin
  clear h hI hi hl hfin
  go_enter Tryz.func18, Tryz.ntmps18
  go_wp2_with fail
  refine (HD.out _ (balloc (bsame w) _) _).mono ?_
  rintro e w2 ⟨rfl, hb⟩
  go_wp2_with fail
  go_ret2
  exact ⟨rfl, HF.out _ (btrans (balloc (bsame w) _) hb)⟩
end
end Go.Proofs.YtemohiainfllcaaGreat

/- What each call leaves alone, in plain Lean. -/
namespace Go.Proofs.YtemohiainfllcaaGreat
open Hp
structure Lgs (k : Nat) (a b : Lg) : Prop where
  mr : b.mr = a.mr
  mu : b.mu = a.mu
  r : b.reads.length ≤ a.reads.length + k
  e : b.keeps.length ≤ a.keeps.length + k
  h : b.holds.length ≤ a.holds.length + k
  u : b.undos.length ≤ a.undos.length + k
/-- From one store to another one, by what thread i did. -/
structure Mvs (k m i : Nat) (S S' : Stt) : Prop where
  len : S'.txs.length = S.txs.length
  oth : ∀ j, j ≠ i → S'.t j = S.t j
  lg : Lgs k (S.t i).log (S'.t i).log
  ser : S'.H.serial ≤ S.H.serial + k
  top : S'.H.top ≤ S.H.top + 8 * k
  size : S'.H.size = S.H.size
  shp : ∀ p ob, lk S.H.cur p = some ob → ∃ ob', lk S'.H.cur p = some ob' ∧ ob'.shp = ob.shp
  most : S'.most = S.most
  now : S'.now ≤ S.now + m
  hol : S'.holder = S.holder ∨ S'.holder = -1 ∨ S'.holder = (i : Int)
  hol2 : (S'.t i).live = false → S'.holder = (i : Int) → (S.t i).live = false ∧ S.holder = (i : Int)
/-- What a transaction that goes on alone keeps. -/
structure Kp (i : Nat) (S S' : Stt) : Prop where
  live : (S'.t i).live = (S.t i).live
  start : (S'.t i).start = (S.t i).start
  now : S'.now = S.now
theorem Lgs.refl (k : Nat) (a : Lg) : Lgs k a a := ⟨rfl, rfl, by omega, by omega, by omega, by omega⟩
theorem Lgs.trans {k m : Nat} {a b c : Lg} (h : Lgs k a b) (g : Lgs m b c) : Lgs (k + m) a c :=
  ⟨g.mr.trans h.mr, g.mu.trans h.mu, by have := h.r; have := g.r; omega, by have := h.e; have := g.e; omega, by have := h.h; have := g.h; omega, by have := h.u; have := g.u; omega⟩
theorem Mvs.refl (k m i : Nat) (S : Stt) : Mvs k m i S S :=
  ⟨rfl, fun _ _ => rfl, Lgs.refl _ _, by omega, by omega, rfl, fun _ ob h => ⟨ob, h, rfl⟩, rfl, by omega, .inl rfl, fun a b => ⟨a, b⟩⟩
theorem Mvs.trans {k m k' m' i : Nat} {A B C : Stt} (h : Mvs k m i A B) (g : Mvs k' m' i B C) : Mvs (k + k') (m + m') i A C := by
  refine ⟨g.len.trans h.len, fun j hj => (g.oth j hj).trans (h.oth j hj), h.lg.trans g.lg, by have := h.ser; have := g.ser; omega, by have := h.top; have := g.top; omega, g.size.trans h.size, fun p ob ho => ?_, g.most.trans h.most, by have := h.now; have := g.now; omega, ?_, fun a b => ?_⟩
  · obtain ⟨o1, h1, h2⟩ := h.shp p ob ho
    obtain ⟨o2, h3, h4⟩ := g.shp p o1 h1
    exact ⟨o2, h3, h4.trans h2⟩
  · rcases g.hol with e | e | e
    · rw [e]; exact h.hol
    · exact .inr (.inl e)
    · exact .inr (.inr e)
  · obtain ⟨a1, b1⟩ := g.hol2 a b
    exact h.hol2 a1 b1
theorem Kp.refl (i : Nat) (S : Stt) : Kp i S S := ⟨rfl, rfl, rfl⟩
theorem Kp.trans {i : Nat} {A B C : Stt} (h : Kp i A B) (g : Kp i B C) : Kp i A C := ⟨g.live.trans h.live, g.start.trans h.start, g.now.trans h.now⟩
theorem tx_t {S : Stt} {i : Nat} (hi : i < S.txs.length) (x : Tx) (j : Nat) : (S.tx i x).t j = if j = i then x else S.t j := by
  show (S.txs.set i x).getD j _ = _
  rw [List.getD_eq_getElem?_getD]
  split
  · rename_i e; subst e; rw [List.getElem?_set_self hi]; rfl
  · rename_i e; rw [List.getElem?_set_ne (fun h => e h.symm)]; unfold Stt.t; rw [List.getD_eq_getElem?_getD]
theorem set_t {S : Stt} {i : Nat} (hi : i < S.txs.length) (x : Tx) (j : Nat) (H : Hp) (n m : Nat) (h : Int) (v : Nat) : Stt.t ⟨H, n, m, S.txs.set i x, h, v⟩ j = if j = i then x else S.t j := tx_t hi x j
variable {S : Stt} {i k : Nat}
/-- Thread i's transaction was made another one, and nothing else. -/
theorem Mvs.tx (hi : i < S.txs.length) {x : Tx} (hl : Lgs k (S.t i).log x.log) (h2 : x.live = false → S.holder = (i : Int) → (S.t i).live = false) : Mvs k 0 i S (S.tx i x) := by
  refine ⟨List.length_set .., fun j hj => by rw [tx_t hi, if_neg hj], by rw [tx_t hi, if_pos rfl]; exact hl, Nat.le_add_right .., Nat.le_add_right .., rfl, fun _ ob h => ⟨ob, h, rfl⟩, rfl, Nat.le_add_right .., .inl rfl, fun a b => ?_⟩
  rw [tx_t hi, if_pos rfl] at a
  exact ⟨h2 a b, b⟩
theorem Kp.tx (hi : i < S.txs.length) {x : Tx} (h1 : x.live = (S.t i).live) (h2 : x.start = (S.t i).start) : Kp i S (S.tx i x) := by
  refine ⟨?_, ?_, rfl⟩
  · rw [tx_t hi, if_pos rfl]; exact h1
  · rw [tx_t hi, if_pos rfl]; exact h2
/-- The heap's objects were made others of the same shapes. -/
theorem Mvs.cur (l : List (Nat × Ob)) (h : SameK S.H.cur l) : Mvs k 0 i S (S.cur' l) :=
  ⟨rfl, fun _ _ => rfl, Lgs.refl _ _, Nat.le_add_right .., Nat.le_add_right .., rfl, fun _ _ ho => h.some ho, rfl, Nat.le_add_right .., .inl rfl, fun a b => ⟨a, b⟩⟩
theorem Mvs.at' {p : Nat} {ob ob' : Ob} (h : lk S.H.cur p = some ob) (hs : ob'.shp = ob.shp) : Mvs k 0 i S (S.at' p ob') := Mvs.cur _ (SameK.up h hs)
theorem Kp.cur (l : List (Nat × Ob)) : Kp i S (S.cur' l) := ⟨rfl, rfl, rfl⟩
theorem Lgs.read (x : Tx) (p : Nat) : Lgs 1 x.log (x.read p).log := by
  refine ⟨rfl, rfl, ?_, Nat.le_add_right .., Nat.le_add_right .., Nat.le_add_right ..⟩
  show (noteL x.log.reads p x.log.mr).length ≤ _
  unfold noteL; split
  · omega
  · split
    · simp
    · omega
theorem Lgs.change (x : Tx) (p : Nat) (ob : Ob) (u : Un) : Lgs 1 x.log (((x.read p).hold1 p ob).undo u).log := by
  have h := Lgs.read x p
  have h1 : ((x.read p).hold1 p ob).log.holds.length ≤ (x.read p).log.holds.length + 1 ∧ ((x.read p).hold1 p ob).log.mr = (x.read p).log.mr ∧ ((x.read p).hold1 p ob).log.mu = (x.read p).log.mu ∧ ((x.read p).hold1 p ob).log.reads = (x.read p).log.reads ∧ ((x.read p).hold1 p ob).log.keeps = (x.read p).log.keeps ∧ ((x.read p).hold1 p ob).log.undos = (x.read p).log.undos := by
    unfold Tx.hold1; split
    · exact ⟨by omega, rfl, rfl, rfl, rfl, rfl⟩
    · exact ⟨by show (_ ++ [_] : List (Nat × Nat)).length ≤ _; simp, rfl, rfl, rfl, rfl, rfl⟩
  obtain ⟨a1, a2, a3, a4, a5, a6⟩ := h1
  refine ⟨a2.trans h.mr, a3.trans h.mu, ?_, ?_, ?_, ?_⟩
  · show ((x.read p).hold1 p ob).log.reads.length ≤ _; rw [a4]; exact h.r
  · show ((x.read p).hold1 p ob).log.keeps.length ≤ _; rw [a5]; exact h.e
  · show ((x.read p).hold1 p ob).log.holds.length ≤ _; exact a1
  · show (((x.read p).hold1 p ob).log.undos ++ [u]).length ≤ _
    rw [a6]
    show (x.log.undos ++ [u]).length ≤ _
    simp
theorem chg_live (x : Tx) (p : Nat) (ob : Ob) (u : Un) : (((x.read p).hold1 p ob).undo u).live = x.live ∧ (((x.read p).hold1 p ob).undo u).start = x.start := by
  constructor
  · show ((x.read p).hold1 p ob).live = _; unfold Tx.hold1; split <;> rfl
  · show ((x.read p).hold1 p ob).start = _; unfold Tx.hold1; split <;> rfl
/-- One word more in a log, one object turned. -/
def Chg (i : Nat) (S S' : Stt) : Prop := S' = S ∨ (∃ p, S' = S.tx i ((S.t i).read p)) ∨ ∃ p ob ob' u, lk S.H.cur p = some ob ∧ ob'.shp = ob.shp ∧ S' = (S.tx i ((((S.t i).read p).hold1 p ob).undo u)).at' p ob'
theorem Chg.mv {S' : Stt} (hi : i < S.txs.length) (hl : (S.t i).live = true) (h : Chg i S S') : Mvs 1 0 i S S' ∧ Kp i S S' := by
  rcases h with rfl | ⟨p, rfl⟩ | ⟨p, ob, ob', u, h1, h2, rfl⟩
  · exact ⟨Mvs.refl _ _ _ _, Kp.refl _ _⟩
  · exact ⟨Mvs.tx hi (Lgs.read _ p) (fun a _ => by rw [show ((S.t i).read p).live = (S.t i).live from rfl, hl] at a; cases a), Kp.tx hi rfl rfl⟩
  · obtain ⟨a1, a2⟩ := chg_live (S.t i) p ob u
    have g1 : Mvs 1 0 i S (S.tx i ((((S.t i).read p).hold1 p ob).undo u)) := Mvs.tx hi (Lgs.change _ p ob u) (fun a _ => by rw [a1, hl] at a; cases a)
    have g2 : Mvs 0 0 i (S.tx i ((((S.t i).read p).hold1 p ob).undo u)) ((S.tx i ((((S.t i).read p).hold1 p ob).undo u)).at' p ob') := Mvs.at' h1 h2
    exact ⟨g1.trans g2, (Kp.tx hi a1 a2).trans (Kp.cur _)⟩
theorem lookR_chg (p : Nat) : Chg i S (S.lookR i (S.t i) p).1 := by
  unfold Stt.lookR
  split
  · exact .inl rfl
  · split
    · exact .inl rfl
    · split
      · exact .inl rfl
      · exact .inr (.inl ⟨p, rfl⟩)
theorem fieldsR_chg (p : Nat) : Chg i S (S.fieldsR i (S.t i) p).1 := lookR_chg p
theorem readR_chg (p j : Nat) : Chg i S (S.readR i (S.t i) p j).S := by
  unfold Stt.readR; split
  · exact fieldsR_chg p
  · split <;> exact fieldsR_chg p
theorem getR_chg (p j : Nat) : Chg i S (S.getR i (S.t i) p j).S := by
  unfold Stt.getR; split
  · exact fieldsR_chg p
  · split <;> exact fieldsR_chg p
theorem writeR_chg (p j : Nat) (v : Int) : Chg i S (S.writeR i (S.t i) p j v).S := by
  unfold Stt.writeR; split
  · exact fieldsR_chg p
  · split
    · exact fieldsR_chg p
    · rename_i ob hob
      split
      · exact fieldsR_chg p
      · exact .inr (.inr ⟨p, ob, (ob.held i).setNum j v, _, hob, Ob.held_shp ob i, rfl⟩)
theorem putR_chg (p j q : Nat) : Chg i S (S.putR i (S.t i) p j q).S := by
  unfold Stt.putR; split
  · exact fieldsR_chg p
  · split
    · exact fieldsR_chg p
    · rename_i ob hob
      split
      · exact fieldsR_chg p
      · exact .inr (.inr ⟨p, ob, (ob.held i).setPtr j q, _, hob, Ob.held_shp ob i, rfl⟩)
theorem freeR_chg (p : Nat) : Chg i S (S.freeR i (S.t i) p).S := by
  unfold Stt.freeR; split
  · exact lookR_chg p
  · split
    · exact lookR_chg p
    · rename_i ob hob
      exact .inr (.inr ⟨p, ob, (ob.held i).setFreed true, _, hob, Ob.held_shp ob i, rfl⟩)
theorem aborted_mv (hi : i < S.txs.length) : Mvs 0 0 i S (S.abort i) := by
  have hx := Stt.t_get hi
  unfold Stt.abort
  rw [hx]
  simp only
  unfold Stt.aborted
  have hsk : SameK S.H.cur (relL (undoL S.H.cur (S.t i).log.undos) (S.t i).log.holds) := (undoL_same _ _).trans (relL_same _ _)
  refine ⟨List.length_set .., fun j hj => by rw [set_t hi, if_neg hj], ?_, Nat.le_refl _, Nat.le_refl _, rfl, fun _ _ h => hsk.some h, rfl, Nat.le_refl _, ?_, fun _ b => ?_⟩
  · rw [set_t hi, if_pos rfl]
    exact ⟨rfl, rfl, Nat.zero_le _, Nat.zero_le _, Nat.zero_le _, Nat.zero_le _⟩
  · show (if S.holder = (i : Int) then (-1 : Int) else S.holder) = _ ∨ _
    split
    · exact .inr (.inl rfl)
    · exact .inl rfl
  · exfalso
    have b : (if S.holder = (i : Int) then (-1 : Int) else S.holder) = (i : Int) := b
    split at b
    · omega
    · contradiction
theorem fin_mv {r : Res} (hi : i < S.txs.length) {m : Nat} (h : Mvs k m i S r.S) : Mvs k m i S (r.fin i).S := by
  unfold Res.fin; split
  · exact h.trans (aborted_mv (by rw [h.len]; exact hi))
  · split <;> exact h
theorem fin_ok {r : Res} (h : r.e = 0 ∨ r.e = 142) : (r.fin i).S = r.S ∧ (r.fin i).e = r.e := by
  unfold Res.fin
  rcases h with h | h
  · rw [h]; exact ⟨rfl, h⟩
  · rw [h]; exact ⟨rfl, rfl⟩
theorem take_mv (hl : (S.t i).live = true) : Mvs 0 0 i S (S.takeR i (S.t i)).S ∧ Kp i S (S.takeR i (S.t i)).S := by
  unfold Stt.takeR; split
  · exact ⟨⟨rfl, fun _ _ => rfl, Lgs.refl _ _, Nat.le_refl _, Nat.le_refl _, rfl, fun _ ob h => ⟨ob, h, rfl⟩, rfl, Nat.le_refl _, .inr (.inr rfl), fun a _ => by
      have a : (S.t i).live = false := a
      rw [hl] at a; cases a⟩, rfl, rfl, rfl⟩
  · exact ⟨Mvs.refl _ _ _ _, Kp.refl _ _⟩
theorem laid_mv (hk : S.ok) (hi : i < S.txs.length) (hl : (S.t i).live = true) (s : Shp) (hs : rnd (3 + s.p + s.d) ≤ 8) : Mvs 1 0 i S (S.laid i (S.t i) s) ∧ Kp i S (S.laid i (S.t i) s) := by
  have e1 : ∀ j, (S.laid i (S.t i) s).t j = if j = i then (S.t i).holding S.H.top 0 else S.t j := fun j => set_t hi _ _ _ _ _ _ _
  refine ⟨⟨List.length_set .., fun j hj => by rw [e1, if_neg hj], ?_, Nat.le_refl _, by show S.H.top + rnd (3 + s.p + s.d) ≤ _; omega, rfl, fun p ob h => ?_, rfl, Nat.le_add_right .., .inl rfl, fun a _ => ?_⟩, ?_, ?_, rfl⟩
  · rw [e1, if_pos rfl]
    exact ⟨rfl, rfl, Nat.le_add_right .., Nat.le_add_right .., by show (_ ++ [_] : List (Nat × Nat)).length ≤ _; simp, Nat.le_add_right ..⟩
  · refine ⟨ob, ?_, rfl⟩
    rw [lk_laid hk, if_neg]
    · exact h
    · intro e; rw [e, lk_top hk.F.ok] at h; cases h
  · rw [e1, if_pos rfl] at a
    rw [show ((S.t i).holding S.H.top 0).live = (S.t i).live from rfl, hl] at a; cases a
  · rw [e1, if_pos rfl]; rfl
  · rw [e1, if_pos rfl]; rfl
theorem commit_mv (hi : i < S.txs.length) : Mvs 0 1 i S (S.commitR i (S.t i)).S := by
  have hend : Lgs 0 (S.t i).log (S.t i).ended.log := ⟨rfl, rfl, Nat.zero_le _, Nat.zero_le _, Nat.zero_le _, Nat.zero_le _⟩
  unfold Stt.commitR; split
  · rename_i hh
    exact (Mvs.tx hi hend (fun _ b => absurd b hh.2)).trans (Mvs.refl 0 1 i _)
  · split
    · exact Mvs.refl _ _ _ _
    · unfold Stt.committed
      refine ⟨List.length_set .., fun j hj => by rw [set_t hi, if_neg hj], by rw [set_t hi, if_pos rfl]; exact hend, Nat.le_add_right .., Nat.le_add_right .., rfl, fun _ _ h => (comL_same _ _ _).some h, rfl, Nat.le_refl _, ?_, fun _ b => ?_⟩
      · show (if S.holder = (i : Int) then (-1 : Int) else S.holder) = _ ∨ _
        split
        · exact .inr (.inl rfl)
        · exact .inl rfl
      · exfalso
        have b : (if S.holder = (i : Int) then (-1 : Int) else S.holder) = (i : Int) := b
        split at b
        · omega
        · contradiction
theorem begin_mv (hi : i < S.txs.length) : Mvs 0 0 i S (S.begin i) ∧ ((S.begin i).t i).live = true := by
  unfold Stt.begin
  split
  · rename_i h; exact ⟨Mvs.refl _ _ _ _, h⟩
  · exact ⟨Mvs.tx hi (Lgs.refl _ _) (fun a _ => by cases a), by rw [tx_t hi, if_pos rfl]; rfl⟩
end Go.Proofs.YtemohiainfllcaaGreat
