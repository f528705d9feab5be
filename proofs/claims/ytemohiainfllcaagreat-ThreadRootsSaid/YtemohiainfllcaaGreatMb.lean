/- Threads in memory; back, end. -/
import Derived.Test.YtemohiainfllcaaGreatMa
import Derived.Laws.IdiomCopy
import Derived.Laws.MakeOwn
namespace Go.Proofs.YtemohiainfllcaaGreat
open Go.RowKit Hp
attribute [local go_sem ↓] Go.wp_at_zero Go.wp_at_succ
structure R6 where
  a0 : Int
  a1 : Int
  a2 : Int
  a3 : Int
  a4 : Int
  a5 : Int
deriving DecidableEq
/-- A thread, as it stands in memory. -/
structure ThV where
  b : Int
  n : Int
  r : R6
  s : R6
  l : Bool
deriving DecidableEq
def ThV.cells (h : ThV) : Array Value := #[.int .i64 h.b, .int .i64 h.n, .int .i64 h.r.a0, .int .i64 h.r.a1, .int .i64 h.r.a2, .int .i64 h.r.a3, .int .i64 h.r.a4, .int .i64 h.r.a5, .int .i64 h.s.a0, .int .i64 h.s.a1, .int .i64 h.s.a2, .int .i64 h.s.a3, .int .i64 h.s.a4, .int .i64 h.s.a5, .bool h.l]
def ThV.v (h : ThV) : Value := .agg h.cells
structure ActV where
  k : Int
  e : Int
  v : Int
deriving DecidableEq
def ActV.cells (a : ActV) : Array Value := #[.int .i64 a.k, .int .i64 a.e, .int .i64 a.v]
def ActV.val (a : ActV) : Value := .agg a.cells
def ThV.back (h : ThV) : ThV := ⟨h.b, 0, h.s, h.s, false⟩
set_option maxRecDepth 100000 in
set_option maxHeartbeats 1000000 in
theorem back_any (h : ThV) (w : World) : Calls Tryz.prog 128 #[h.v] w fun e w' => e = .returned h.back.v ∧ Below w.heap.size w w' := by
  obtain ⟨hb, hn, ⟨a0, a1, a2, a3, a4, a5⟩, ⟨s0, s1, s2, s3, s4, s5⟩, hl⟩ := h
  show Calls _ _ #[.agg #[.int .i64 hb, .int .i64 hn, .int .i64 a0, .int .i64 a1, .int .i64 a2, .int .i64 a3, .int .i64 a4, .int .i64 a5, .int .i64 s0, .int .i64 s1, .int .i64 s2, .int .i64 s3, .int .i64 s4, .int .i64 s5, .bool hl]] _ _
  go_enter Tryz.func128, Tryz.ntmps128
  go_wp2_with fail
  obtain ⟨W, hW⟩ : ∃ W : World, W = (w.alloc (.cells #[.int .i64 hb, .int .i64 0, .int .i64 s0, .int .i64 s1, .int .i64 s2, .int .i64 s3, .int .i64 s4, .int .i64 s5, .int .i64 s0, .int .i64 s1, .int .i64 s2, .int .i64 s3, .int .i64 s4, .int .i64 s5, .bool false] 57)).alloc (.cells #[.int .i64 hb, .int .i64 0, .int .i64 s0, .int .i64 s1, .int .i64 s2, .int .i64 s3, .int .i64 s4, .int .i64 s5, .int .i64 s0, .int .i64 s1, .int .i64 s2, .int .i64 s3, .int .i64 s4, .int .i64 s5, .bool false] 57) := ⟨_, rfl⟩
  rw [← hW]
  have j8 : Blk W (w.heap.size + 1) #[.int .i64 hb, .int .i64 0, .int .i64 s0, .int .i64 s1, .int .i64 s2, .int .i64 s3, .int .i64 s4, .int .i64 s5, .int .i64 s0, .int .i64 s1, .int .i64 s2, .int .i64 s3, .int .i64 s4, .int .i64 s5, .bool false] 57 := by rw [hW]; exact Blk.new_at _ _ _ _ _ (by simp) rfl
  have hbl : Below w.heap.size w W := by rw [hW]; exact balloc (balloc (bsame w) _) _
  clear hW
  have c8 := j8.cell
  refine bodyPost_ret (v := ThV.v ⟨hb, 0, ⟨s0, s1, s2, s3, s4, s5⟩, ⟨s0, s1, s2, s3, s4, s5⟩, false⟩) ?_ rfl ⟨rfl, hbl⟩
  simp [results, Tryz.results128, go_sem, c8, ThV.v, ThV.cells]
/-- A world in which a thread and an act were put into their blocks. -/
def resW (W : World) (b6 b7 : Nat) (h : ThV) (a : ActV) : World := ((((((((((((((((((W.setCell ⟨b6, 0, none⟩ (.int .i64 h.b)).setCell ⟨b6, 1, none⟩ (.int .i64 h.n)).setCell ⟨b6, 2, none⟩ (.int .i64 h.r.a0)).setCell ⟨b6, 3, none⟩ (.int .i64 h.r.a1)).setCell ⟨b6, 4, none⟩ (.int .i64 h.r.a2)).setCell ⟨b6, 5, none⟩ (.int .i64 h.r.a3)).setCell ⟨b6, 6, none⟩ (.int .i64 h.r.a4)).setCell ⟨b6, 7, none⟩ (.int .i64 h.r.a5)).setCell ⟨b6, 8, none⟩ (.int .i64 h.s.a0)).setCell ⟨b6, 9, none⟩ (.int .i64 h.s.a1)).setCell ⟨b6, 10, none⟩ (.int .i64 h.s.a2)).setCell ⟨b6, 11, none⟩ (.int .i64 h.s.a3)).setCell ⟨b6, 12, none⟩ (.int .i64 h.s.a4)).setCell ⟨b6, 13, none⟩ (.int .i64 h.s.a5)).setCell ⟨b6, 14, none⟩ (.bool h.l)).setCell ⟨b7, 0, none⟩ (.int .i64 a.k)).setCell ⟨b7, 1, none⟩ (.int .i64 a.e)).setCell ⟨b7, 2, none⟩ (.int .i64 a.v))
def zTh : Array Value := #[.int .i64 0, .int .i64 0, .int .i64 0, .int .i64 0, .int .i64 0, .int .i64 0, .int .i64 0, .int .i64 0, .int .i64 0, .int .i64 0, .int .i64 0, .int .i64 0, .int .i64 0, .int .i64 0, .bool false]
def zAct : Array Value := #[.int .i64 0, .int .i64 0, .int .i64 0]
theorem res_blk {W : World} {b6 b7 : Nat} {t6 t7 : TypeId} (j6 : Blk W b6 zTh t6) (j7 : Blk W b7 zAct t7) (hne : b6 ≠ b7) (h : ThV) (a : ActV) : Blk (resW W b6 b7 h a) b6 h.cells t6 ∧ Blk (resW W b6 b7 h a) b7 a.cells t7 := by
  have hne' : b7 ≠ b6 := fun e => hne e.symm
  have a1 := ((((((((((((((((((j6.set 0 (.int .i64 h.b)).set 1 (.int .i64 h.n)).set 2 (.int .i64 h.r.a0)).set 3 (.int .i64 h.r.a1)).set 4 (.int .i64 h.r.a2)).set 5 (.int .i64 h.r.a3)).set 6 (.int .i64 h.r.a4)).set 7 (.int .i64 h.r.a5)).set 8 (.int .i64 h.s.a0)).set 9 (.int .i64 h.s.a1)).set 10 (.int .i64 h.s.a2)).set 11 (.int .i64 h.s.a3)).set 12 (.int .i64 h.s.a4)).set 13 (.int .i64 h.s.a5)).set 14 (.bool h.l)).set_other (a := ⟨b7, 0, none⟩) hne (.int .i64 a.k)).set_other (a := ⟨b7, 1, none⟩) hne (.int .i64 a.e)).set_other (a := ⟨b7, 2, none⟩) hne (.int .i64 a.v))
  have a2 := ((((((((((((((((((j7.set_other (a := ⟨b6, 0, none⟩) hne' (.int .i64 h.b)).set_other (a := ⟨b6, 1, none⟩) hne' (.int .i64 h.n)).set_other (a := ⟨b6, 2, none⟩) hne' (.int .i64 h.r.a0)).set_other (a := ⟨b6, 3, none⟩) hne' (.int .i64 h.r.a1)).set_other (a := ⟨b6, 4, none⟩) hne' (.int .i64 h.r.a2)).set_other (a := ⟨b6, 5, none⟩) hne' (.int .i64 h.r.a3)).set_other (a := ⟨b6, 6, none⟩) hne' (.int .i64 h.r.a4)).set_other (a := ⟨b6, 7, none⟩) hne' (.int .i64 h.r.a5)).set_other (a := ⟨b6, 8, none⟩) hne' (.int .i64 h.s.a0)).set_other (a := ⟨b6, 9, none⟩) hne' (.int .i64 h.s.a1)).set_other (a := ⟨b6, 10, none⟩) hne' (.int .i64 h.s.a2)).set_other (a := ⟨b6, 11, none⟩) hne' (.int .i64 h.s.a3)).set_other (a := ⟨b6, 12, none⟩) hne' (.int .i64 h.s.a4)).set_other (a := ⟨b6, 13, none⟩) hne' (.int .i64 h.s.a5)).set_other (a := ⟨b6, 14, none⟩) hne' (.bool h.l)).set 0 (.int .i64 a.k)).set 1 (.int .i64 a.e)).set 2 (.int .i64 a.v))
  have e1 : ∀ x, x = h.cells → Blk (resW W b6 b7 h a) b6 x t6 → Blk (resW W b6 b7 h a) b6 h.cells t6 := fun x e k => by rw [← e]; exact k
  have e2 : ∀ x, x = a.cells → Blk (resW W b6 b7 h a) b7 x t7 → Blk (resW W b6 b7 h a) b7 a.cells t7 := fun x e k => by rw [← e]; exact k
  refine ⟨e1 _ ?_ a1, e2 _ ?_ a2⟩
  · simp only [zTh, ThV.cells, List.setIfInBounds_toArray, List.set_cons_zero, List.set_cons_succ]
  · simp only [zAct, ActV.cells, List.setIfInBounds_toArray, List.set_cons_zero, List.set_cons_succ]
theorem res_below {w W : World} {b6 b7 : Nat} (h1 : Below w.heap.size w W) (h6 : w.heap.size ≤ b6) (h7 : w.heap.size ≤ b7) (h : ThV) (a : ActV) : Below w.heap.size w (resW W b6 b7 h a) := (bset (bset (bset (bset (bset (bset (bset (bset (bset (bset (bset (bset (bset (bset (bset (bset (bset (bset h1 h6 _) h6 _) h6 _) h6 _) h6 _) h6 _) h6 _) h6 _) h6 _) h6 _) h6 _) h6 _) h6 _) h6 _) h6 _) h7 _) h7 _) h7 _)
/-- A world in which a thread was put into its block. -/
def thW (W : World) (b : Nat) (h : ThV) : World := (((((((((((((((W.setCell ⟨b, 0, none⟩ (.int .i64 h.b)).setCell ⟨b, 1, none⟩ (.int .i64 h.n)).setCell ⟨b, 2, none⟩ (.int .i64 h.r.a0)).setCell ⟨b, 3, none⟩ (.int .i64 h.r.a1)).setCell ⟨b, 4, none⟩ (.int .i64 h.r.a2)).setCell ⟨b, 5, none⟩ (.int .i64 h.r.a3)).setCell ⟨b, 6, none⟩ (.int .i64 h.r.a4)).setCell ⟨b, 7, none⟩ (.int .i64 h.r.a5)).setCell ⟨b, 8, none⟩ (.int .i64 h.s.a0)).setCell ⟨b, 9, none⟩ (.int .i64 h.s.a1)).setCell ⟨b, 10, none⟩ (.int .i64 h.s.a2)).setCell ⟨b, 11, none⟩ (.int .i64 h.s.a3)).setCell ⟨b, 12, none⟩ (.int .i64 h.s.a4)).setCell ⟨b, 13, none⟩ (.int .i64 h.s.a5)).setCell ⟨b, 14, none⟩ (.bool h.l))
theorem thW_blk {W : World} {b : Nat} {t : TypeId} {g : ThV} (j : Blk W b g.cells t) (h : ThV) : Blk (thW W b h) b h.cells t := by
  have a1 := (((((((((((((((j.set 0 (.int .i64 h.b)).set 1 (.int .i64 h.n)).set 2 (.int .i64 h.r.a0)).set 3 (.int .i64 h.r.a1)).set 4 (.int .i64 h.r.a2)).set 5 (.int .i64 h.r.a3)).set 6 (.int .i64 h.r.a4)).set 7 (.int .i64 h.r.a5)).set 8 (.int .i64 h.s.a0)).set 9 (.int .i64 h.s.a1)).set 10 (.int .i64 h.s.a2)).set 11 (.int .i64 h.s.a3)).set 12 (.int .i64 h.s.a4)).set 13 (.int .i64 h.s.a5)).set 14 (.bool h.l))
  have e1 : ∀ x, x = h.cells → Blk (thW W b h) b x t → Blk (thW W b h) b h.cells t := fun x e k => by rw [← e]; exact k
  refine e1 _ ?_ a1
  simp only [ThV.cells, List.setIfInBounds_toArray, List.set_cons_zero, List.set_cons_succ]
theorem thW_other {W : World} {b c : Nat} {t : TypeId} {cs : Array Value} (j : Blk W c cs t) (hne : c ≠ b) (h : ThV) : Blk (thW W b h) c cs t := by
  have a1 := (((((((((((((((j.set_other (a := ⟨b, 0, none⟩) hne (.int .i64 h.b)).set_other (a := ⟨b, 1, none⟩) hne (.int .i64 h.n)).set_other (a := ⟨b, 2, none⟩) hne (.int .i64 h.r.a0)).set_other (a := ⟨b, 3, none⟩) hne (.int .i64 h.r.a1)).set_other (a := ⟨b, 4, none⟩) hne (.int .i64 h.r.a2)).set_other (a := ⟨b, 5, none⟩) hne (.int .i64 h.r.a3)).set_other (a := ⟨b, 6, none⟩) hne (.int .i64 h.r.a4)).set_other (a := ⟨b, 7, none⟩) hne (.int .i64 h.r.a5)).set_other (a := ⟨b, 8, none⟩) hne (.int .i64 h.s.a0)).set_other (a := ⟨b, 9, none⟩) hne (.int .i64 h.s.a1)).set_other (a := ⟨b, 10, none⟩) hne (.int .i64 h.s.a2)).set_other (a := ⟨b, 11, none⟩) hne (.int .i64 h.s.a3)).set_other (a := ⟨b, 12, none⟩) hne (.int .i64 h.s.a4)).set_other (a := ⟨b, 13, none⟩) hne (.int .i64 h.s.a5)).set_other (a := ⟨b, 14, none⟩) hne (.bool h.l))
  exact a1
theorem thW_below {w W : World} {b : Nat} (h1 : Below w.heap.size w W) (h6 : w.heap.size ≤ b) (h : ThV) : Below w.heap.size w (thW W b h) := (bset (bset (bset (bset (bset (bset (bset (bset (bset (bset (bset (bset (bset (bset (bset h1 h6 _) h6 _) h6 _) h6 _) h6 _) h6 _) h6 _) h6 _) h6 _) h6 _) h6 _) h6 _) h6 _) h6 _) h6 _)
set_option maxHeartbeats 1000000 in
theorem results_two {X : World} {b6 b7 : Nat} {t6 t7 : TypeId} {h : ThV} {a : ActV} (fn : Func) (tmps : Array Value) (i j : Nat) (hres : fn.results = #[.cell i 57, .cell j 60]) (ti : tmps.getD i undef = ptr b6) (tj : tmps.getD j undef = ptr b7)
    (j6 : Blk X b6 h.cells t6) (j7 : Blk X b7 a.cells t7) : (results fn tmps).run Tryz.prog X = .ok (.tuple #[h.v, a.val]) X := by
  have d6 := j6.cell
  have d7 := j7.cell
  unfold ThV.cells at d6
  unfold ActV.cells at d7
  rw [Array.getD_eq_getD_getElem?] at ti tj
  unfold ptr at ti tj
  simp only [results, hres]
  simp [go_sem, ti, tj, d6, d7, ThV.v, ThV.cells, ActV.val, ActV.cells]
end Go.Proofs.YtemohiainfllcaaGreat

/- Threads: Done, Roots, Replace, serial. -/
namespace Go.Proofs.YtemohiainfllcaaGreat
open Go.RowKit Hp
attribute [local go_sem ↓] Go.wp_at_zero Go.wp_at_succ
section
variable {w w' : World} {o o' : Own} {y : SLay} {S : Stt} {i : Nat}
/-- What a place's serial is told to be. -/
def Stt.ser (S : Stt) (p : Nat) : Nat := if p = 0 then 0 else match lk S.H.cur p with | some ob => ob.serial | none => 0
theorem tserial_any (h : StIn w o y S) (hk : S.ok) {p : Nat} (hp : Plc S p) :
    Calls Tryz.prog 133 #[ptr y.sb, .int .i64 p] w fun e w' => e = .returned (.int .i64 (S.ser p)) ∧ Below w.heap.size w w' := by
  by_cases h0 : p = 0
  · subst h0
    have e1 : S.ser 0 = 0 := rfl
    rw [e1]
    clear h hk hp e1
    go_enter Tryz.func133, Tryz.ntmps133
    go_wp2_with fail
    go_ret
    exact ⟨rfl, bsame w⟩
  · obtain ⟨ob, hob⟩ := Option.isSome_iff_exists.1 (hp.resolve_left h0)
    have e1 : S.ser p = ob.serial := by unfold Stt.ser; rw [if_neg h0, hob]
    rw [e1]
    have HS := Lib.hid (sserial_in h hk hob)
    have hpb : ((p : Int) == 0) = false := by rw [beq_eq_false_iff_ne]; omega
    clear h hk hp e1 h0 hob
    go_enter Tryz.func133, Tryz.ntmps133
    go_wp2_with fail
    refine HS.out.mono ?_
    rintro e w1 ⟨rfl, hb1⟩
    go_wp2_with fail
    go_ret
    exact ⟨rfl, hb1⟩
end
/-- Has a thread no block left? -/
theorem tdone_any (h : ThV) (a : Option Addr) (n c : Nat) (w : World) :
    Calls Tryz.prog 29 #[.slice a n c, h.v] w fun e w' => e = .returned (.bool (decide (h.b < 0) || decide ((n : Int) ≤ h.b))) ∧ Below w.heap.size w w' := by
  obtain ⟨hb, hn, ⟨a0, a1, a2, a3, a4, a5⟩, ⟨s0, s1, s2, s3, s4, s5⟩, hl⟩ := h
  show Calls _ _ #[.slice a n c, .agg #[.int .i64 hb, .int .i64 hn, .int .i64 a0, .int .i64 a1, .int .i64 a2, .int .i64 a3, .int .i64 a4, .int .i64 a5, .int .i64 s0, .int .i64 s1, .int .i64 s2, .int .i64 s3, .int .i64 s4, .int .i64 s5, .bool hl]] _ _
  simp only
  by_cases h0 : hb < 0
  · rw [decide_eq_true h0, Bool.true_or]
    go_enter Tryz.func29, Tryz.ntmps29
    go_wp2_with fail
    go_ret
    exact ⟨rfl, balloc (bsame w) _⟩
  · rw [decide_eq_false h0, Bool.false_or]
    by_cases h1 : (n : Int) ≤ hb
    · rw [decide_eq_true h1]
      go_enter Tryz.func29, Tryz.ntmps29
      go_wp2_with fail
      go_ret
      exact ⟨rfl, balloc (bsame w) _⟩
    · rw [decide_eq_false h1]
      go_enter Tryz.func29, Tryz.ntmps29
      go_wp2_with fail
      go_ret
      exact ⟨rfl, balloc (bsame w) _⟩
end Go.Proofs.YtemohiainfllcaaGreat

/- Threads: Roots, Replace. -/
namespace Go.Proofs.YtemohiainfllcaaGreat
open Go.RowKit Hp
attribute [local go_sem ↓] Go.wp_at_zero Go.wp_at_succ
theorem run_mk12 (w : World) : (Instr.makeSlice 24 (.int .i64 0) (.int .i64 12)).run Tryz.prog w = .ok (.slice (some ⟨w.heap.size, 0, none⟩) 0 12) (w.alloc (.cells #[.int .i64 0, .int .i64 0, .int .i64 0, .int .i64 0, .int .i64 0, .int .i64 0, .int .i64 0, .int .i64 0, .int .i64 0, .int .i64 0, .int .i64 0, .int .i64 0] 3)) := by
  obtain ⟨iI, hi, hsI, hyI, hzI⟩ := info_int
  have h := run_make (P := Tryz.prog) w 24 3 iI _ Tryz.underlying24 hi hzI .i64 .i64 0 12 (by omega) (by omega) (by rw [hyI]; omega) (by omega)
  rw [hsI, show madeCells (Value.int IntKind.i64 0).cells (Int.toNat 12 * 1) = #[.int .i64 0, .int .i64 0, .int .i64 0, .int .i64 0, .int .i64 0, .int .i64 0, .int .i64 0, .int .i64 0, .int .i64 0, .int .i64 0, .int .i64 0, .int .i64 0] from by kernel_rfl] at h
  exact h
set_option maxHeartbeats 1000000 in
theorem results_thb {X : World} {b6 : Nat} {t6 : TypeId} {h : ThV} {v : Value} (fn : Func) (tmps : Array Value) (i j : Nat) (hres : fn.results = #[.cell i 57, .tmp j]) (ti : tmps.getD i undef = ptr b6) (tj : tmps.getD j undef = v)
    (j6 : Blk X b6 h.cells t6) : (results fn tmps).run Tryz.prog X = .ok (.tuple #[h.v, v]) X := by
  have d6 := j6.cell
  unfold ThV.cells at d6
  rw [Array.getD_eq_getD_getElem?] at ti tj
  unfold ptr at ti
  simp only [results, hres]
  simp [go_sem, ti, tj, d6, ThV.v, ThV.cells]
set_option maxRecDepth 100000 in
set_option maxHeartbeats 2000000 in
theorem roots_any (h : ThV) (w : World) : Calls Tryz.prog 31 #[h.v] w fun e w' => e = .returned (.slice (some ⟨w.heap.size + 1, 0, none⟩) 12 12) ∧
    Blk w' (w.heap.size + 1) #[.int .i64 h.r.a0, .int .i64 h.r.a1, .int .i64 h.r.a2, .int .i64 h.r.a3, .int .i64 h.r.a4, .int .i64 h.r.a5, .int .i64 h.s.a0, .int .i64 h.s.a1, .int .i64 h.s.a2, .int .i64 h.s.a3, .int .i64 h.s.a4, .int .i64 h.s.a5] 3 ∧ Below w.heap.size w w' := by
  have hmk := run_mk12
  obtain ⟨hb, hn, ⟨a0, a1, a2, a3, a4, a5⟩, ⟨s0, s1, s2, s3, s4, s5⟩, hl⟩ := h
  show Calls _ _ #[.agg #[.int .i64 hb, .int .i64 hn, .int .i64 a0, .int .i64 a1, .int .i64 a2, .int .i64 a3, .int .i64 a4, .int .i64 a5, .int .i64 s0, .int .i64 s1, .int .i64 s2, .int .i64 s3, .int .i64 s4, .int .i64 s5, .bool hl]] _ _
  simp only
  go_enter Tryz.func31, Tryz.ntmps31
  go_wp2_with fail
  refine bodyPost_ret (v := .slice (some ⟨w.heap.size + 1, 0, none⟩) 12 12) ?_ rfl ⟨rfl, Blk.new_at _ _ _ _ _ (by simp) rfl, balloc (balloc (bsame w) _) _⟩
  simp [results, Tryz.results31, go_sem]
theorem run_cp6 (W : World) (b o g off c : Nat) (b0 b1 b2 b3 b4 b5 : Int) (hc : ∀ j, j < 6 → (W.cell? ⟨b, o + j, none⟩).isSome = true) (hf : ∀ j, W.frozen? ⟨b, o + j, none⟩ = false)
    (k0 : W.cell? ⟨g, off, none⟩ = some (.int .i64 b0)) (k1 : W.cell? ⟨g, off + 1, none⟩ = some (.int .i64 b1)) (k2 : W.cell? ⟨g, off + 2, none⟩ = some (.int .i64 b2)) (k3 : W.cell? ⟨g, off + 3, none⟩ = some (.int .i64 b3)) (k4 : W.cell? ⟨g, off + 4, none⟩ = some (.int .i64 b4)) (k5 : W.cell? ⟨g, off + 5, none⟩ = some (.int .i64 b5)) :
    (Builtin.copy_ #[24, 24] 3 #[.slice (some ⟨b, o, none⟩) 6 6, .slice (some ⟨g, off, none⟩) 6 c]).run Tryz.prog W = .ok (.int .i64 6) ((((((W.setCell ⟨b, o + 0, none⟩ (.int .i64 b0)).setCell ⟨b, o + 1, none⟩ (.int .i64 b1)).setCell ⟨b, o + 2, none⟩ (.int .i64 b2)).setCell ⟨b, o + 3, none⟩ (.int .i64 b3)).setCell ⟨b, o + 4, none⟩ (.int .i64 b4)).setCell ⟨b, o + 5, none⟩ (.int .i64 b5)) := by
  obtain ⟨iI, hi, hsI, hyI, hzI⟩ := info_int
  refine (run_copy_cells (P := Tryz.prog) W 24 24 3 3 b o 6 6 ⟨g, off, none⟩ 6 c [.int .i64 b0, .int .i64 b1, .int .i64 b2, .int .i64 b3, .int .i64 b4, .int .i64 b5] Tryz.underlying24 (by rw [hi]; simp [hsI]) rfl (fun j v hj => ?_) (fun j hj => hc j hj) (fun j _ => hf j) (fun v hv => ?_)).trans ?_
  · have hadd : (⟨g, off, none⟩ : Addr).add j = ⟨g, off + j, none⟩ := by unfold Addr.add; split <;> simp_all
    rw [hadd]
    obtain rfl | rfl | rfl | rfl | rfl | rfl | hq : j = 0 ∨ j = 1 ∨ j = 2 ∨ j = 3 ∨ j = 4 ∨ j = 5 ∨ 6 ≤ j := by omega
    · exact k0.trans hj
    · exact k1.trans hj
    · exact k2.trans hj
    · exact k3.trans hj
    · exact k4.trans hj
    · exact k5.trans hj
    · rw [List.getElem?_eq_none (by simpa using hq)] at hj; cases hj
  · simp only [List.mem_cons, List.not_mem_nil, or_false] at hv
    rcases hv with rfl | rfl | rfl | rfl | rfl | rfl <;> rfl
  · rfl
set_option maxRecDepth 100000 in
set_option maxHeartbeats 2000000 in
/-- Replace, of twelve places. -/
theorem replace_yes (h : ThV) (g off c : Nat) (r s : R6) (w : World) (hc : 12 ≤ c) (hg : g < w.heap.size) (hl : ∀ j, j < 12 → w.cell? ⟨g, off + j, none⟩ = #[Value.int .i64 r.a0, .int .i64 r.a1, .int .i64 r.a2, .int .i64 r.a3, .int .i64 r.a4, .int .i64 r.a5, .int .i64 s.a0, .int .i64 s.a1, .int .i64 s.a2, .int .i64 s.a3, .int .i64 s.a4, .int .i64 s.a5][j]?) :
    Calls Tryz.prog 32 #[h.v, .slice (some ⟨g, off, none⟩) 12 c] w fun e w' => e = .returned (.tuple #[(ThV.mk h.b h.n r s h.l).v, .bool true]) ∧ Below w.heap.size w w' := by
  obtain ⟨hb, hn, ⟨a0, a1, a2, a3, a4, a5⟩, ⟨s0, s1, s2, s3, s4, s5⟩, hl'⟩ := h
  show Calls _ _ #[.agg #[.int .i64 hb, .int .i64 hn, .int .i64 a0, .int .i64 a1, .int .i64 a2, .int .i64 a3, .int .i64 a4, .int .i64 a5, .int .i64 s0, .int .i64 s1, .int .i64 s2, .int .i64 s3, .int .i64 s4, .int .i64 s5, .bool hl'], .slice (some ⟨g, off, none⟩) 12 c] _ _
  obtain ⟨b0, b1, b2, b3, b4, b5⟩ := r
  obtain ⟨c0, c1, c2, c3, c4, c5⟩ := s
  simp only at hl ⊢
  have k0 := hl 0 (by omega)
  have k1 := hl 1 (by omega)
  have k2 := hl 2 (by omega)
  have k3 := hl 3 (by omega)
  have k4 := hl 4 (by omega)
  have k5 := hl 5 (by omega)
  have k6 := hl 6 (by omega)
  have k7 := hl 7 (by omega)
  have k8 := hl 8 (by omega)
  have k9 := hl 9 (by omega)
  have k10 := hl 10 (by omega)
  have k11 := hl 11 (by omega)
  simp at k0 k1 k2 k3 k4 k5 k6 k7 k8 k9 k10 k11
  clear hl
  have hng : g ≠ w.heap.size := by omega
  have hcI : (6 : Int) ≤ (c : Int) := by omega
  have hcJ : (12 : Int) ≤ (c : Int) := by omega
  go_enter Tryz.func32, Tryz.ntmps32
  go_upto_region 3 with fail
  obtain ⟨W, hW⟩ : ∃ W : World, W = (w.alloc (.cells #[.int .i64 hb, .int .i64 hn, .int .i64 a0, .int .i64 a1, .int .i64 a2, .int .i64 a3, .int .i64 a4, .int .i64 a5, .int .i64 s0, .int .i64 s1, .int .i64 s2, .int .i64 s3, .int .i64 s4, .int .i64 s5, .bool hl'] 57)).alloc (.cells #[.int .i64 0, .int .i64 0, .int .i64 0, .int .i64 0, .int .i64 0, .int .i64 0, .int .i64 0, .int .i64 0, .int .i64 0, .int .i64 0, .int .i64 0, .int .i64 0, .int .i64 0, .int .i64 0, .bool false] 57) := ⟨_, rfl⟩
  rw [← hW]
  have j2 : Blk W w.heap.size #[.int .i64 hb, .int .i64 hn, .int .i64 a0, .int .i64 a1, .int .i64 a2, .int .i64 a3, .int .i64 a4, .int .i64 a5, .int .i64 s0, .int .i64 s1, .int .i64 s2, .int .i64 s3, .int .i64 s4, .int .i64 s5, .bool hl'] 57 := by rw [hW]; exact (Blk.new w _ _).alloc _
  have j4 : Blk W (w.heap.size + 1) #[.int .i64 0, .int .i64 0, .int .i64 0, .int .i64 0, .int .i64 0, .int .i64 0, .int .i64 0, .int .i64 0, .int .i64 0, .int .i64 0, .int .i64 0, .int .i64 0, .int .i64 0, .int .i64 0, .bool false] 57 := by rw [hW]; exact Blk.new_at _ _ _ _ _ (by simp) rfl
  have hbW : Below w.heap.size w W := by rw [hW]; exact balloc (balloc (bsame w) _) _
  have kk : ∀ j, j < 12 → W.cell? ⟨g, off + j, none⟩ = w.cell? ⟨g, off + j, none⟩ := fun j _ => hbW.cell (p := ⟨g, off + j, none⟩) hg
  have q0 := (kk 0 (by omega)).trans k0
  have q1 := (kk 1 (by omega)).trans k1
  have q2 := (kk 2 (by omega)).trans k2
  have q3 := (kk 3 (by omega)).trans k3
  have q4 := (kk 4 (by omega)).trans k4
  have q5 := (kk 5 (by omega)).trans k5
  clear hW k0 k1 k2 k3 k4 k5 kk
  rw [Nat.add_zero] at q0
  have c2 := j2.cell
  have z2 := j2.free
  have l2 := j2.lt
  have hcp := run_cp6 W.drew w.heap.size 2 g off c b0 b1 b2 b3 b4 b5 (fun j hj => by
    have e := c2 (2 + j)
    rw [show W.drew.cell? ⟨w.heap.size, 2 + j, none⟩ = W.cell? ⟨w.heap.size, 2 + j, none⟩ from rfl, e]
    obtain rfl | rfl | rfl | rfl | rfl | rfl : j = 0 ∨ j = 1 ∨ j = 2 ∨ j = 3 ∨ j = 4 ∨ j = 5 := by omega
    all_goals rfl) (fun j => z2 (2 + j)) q0 q1 q2 q3 q4 q5
  go_region
  obtain ⟨X, hX⟩ : ∃ X : World, X = ((((((W.setCell ⟨w.heap.size, 2, none⟩ (.int .i64 b0)).setCell ⟨w.heap.size, 3, none⟩ (.int .i64 b1)).setCell ⟨w.heap.size, 4, none⟩ (.int .i64 b2)).setCell ⟨w.heap.size, 5, none⟩ (.int .i64 b3)).setCell ⟨w.heap.size, 6, none⟩ (.int .i64 b4)).setCell ⟨w.heap.size, 7, none⟩ (.int .i64 b5)).drew := ⟨_, rfl⟩
  rw [← hX]
  have i2 : Blk X w.heap.size #[.int .i64 hb, .int .i64 hn, .int .i64 b0, .int .i64 b1, .int .i64 b2, .int .i64 b3, .int .i64 b4, .int .i64 b5, .int .i64 s0, .int .i64 s1, .int .i64 s2, .int .i64 s3, .int .i64 s4, .int .i64 s5, .bool hl'] 57 := by
    rw [hX]
    have k := drewB ((((((j2.set 2 (.int .i64 b0)).set 3 (.int .i64 b1)).set 4 (.int .i64 b2)).set 5 (.int .i64 b3)).set 6 (.int .i64 b4)).set 7 (.int .i64 b5))
    simp only [List.setIfInBounds_toArray, List.set_cons_zero, List.set_cons_succ] at k
    exact k
  have i4 : Blk X (w.heap.size + 1) #[.int .i64 0, .int .i64 0, .int .i64 0, .int .i64 0, .int .i64 0, .int .i64 0, .int .i64 0, .int .i64 0, .int .i64 0, .int .i64 0, .int .i64 0, .int .i64 0, .int .i64 0, .int .i64 0, .bool false] 57 := by rw [hX]; exact drewB ((((((j4.set_other (a := ⟨w.heap.size, 2, none⟩) (by show w.heap.size + 1 ≠ w.heap.size; omega) (.int .i64 b0)).set_other (a := ⟨w.heap.size, 3, none⟩) (by show w.heap.size + 1 ≠ w.heap.size; omega) (.int .i64 b1)).set_other (a := ⟨w.heap.size, 4, none⟩) (by show w.heap.size + 1 ≠ w.heap.size; omega) (.int .i64 b2)).set_other (a := ⟨w.heap.size, 5, none⟩) (by show w.heap.size + 1 ≠ w.heap.size; omega) (.int .i64 b3)).set_other (a := ⟨w.heap.size, 6, none⟩) (by show w.heap.size + 1 ≠ w.heap.size; omega) (.int .i64 b4)).set_other (a := ⟨w.heap.size, 7, none⟩) (by show w.heap.size + 1 ≠ w.heap.size; omega) (.int .i64 b5))
  have hbX : Below w.heap.size w X := by rw [hX]; exact bdrew (bset (bset (bset (bset (bset (bset hbW (Nat.le_refl _) _) (Nat.le_refl _) _) (Nat.le_refl _) _) (Nat.le_refl _) _) (Nat.le_refl _) _) (Nat.le_refl _) _)
  have kk : ∀ j, j < 12 → X.cell? ⟨g, off + j, none⟩ = w.cell? ⟨g, off + j, none⟩ := fun j _ => hbX.cell (p := ⟨g, off + j, none⟩) hg
  have q6 := (kk 6 (by omega)).trans k6
  have q7 := (kk 7 (by omega)).trans k7
  have q8 := (kk 8 (by omega)).trans k8
  have q9 := (kk 9 (by omega)).trans k9
  have q10 := (kk 10 (by omega)).trans k10
  have q11 := (kk 11 (by omega)).trans k11
  clear hX c2 z2 l2 j2 j4 hbW q0 q1 q2 q3 q4 q5 hcp
  have d2 := i2.cell
  have z2 := i2.free
  have l2 := i2.lt
  go_upto_region 4 with fail
  have hcp := run_cp6 X.drew w.heap.size 8 g (off + 6) (c - 6) c0 c1 c2 c3 c4 c5 (fun j hj => by
    have e := d2 (8 + j)
    rw [show X.drew.cell? ⟨w.heap.size, 8 + j, none⟩ = X.cell? ⟨w.heap.size, 8 + j, none⟩ from rfl, e]
    obtain rfl | rfl | rfl | rfl | rfl | rfl : j = 0 ∨ j = 1 ∨ j = 2 ∨ j = 3 ∨ j = 4 ∨ j = 5 := by omega
    all_goals rfl) (fun j => z2 (8 + j)) q6 q7 q8 q9 q10 q11
  go_region
  obtain ⟨Y, hY⟩ : ∃ Y : World, Y = ((((((X.setCell ⟨w.heap.size, 8, none⟩ (.int .i64 c0)).setCell ⟨w.heap.size, 9, none⟩ (.int .i64 c1)).setCell ⟨w.heap.size, 10, none⟩ (.int .i64 c2)).setCell ⟨w.heap.size, 11, none⟩ (.int .i64 c3)).setCell ⟨w.heap.size, 12, none⟩ (.int .i64 c4)).setCell ⟨w.heap.size, 13, none⟩ (.int .i64 c5)).drew := ⟨_, rfl⟩
  rw [← hY]
  have m2 : Blk Y w.heap.size #[.int .i64 hb, .int .i64 hn, .int .i64 b0, .int .i64 b1, .int .i64 b2, .int .i64 b3, .int .i64 b4, .int .i64 b5, .int .i64 c0, .int .i64 c1, .int .i64 c2, .int .i64 c3, .int .i64 c4, .int .i64 c5, .bool hl'] 57 := by
    rw [hY]
    have k := drewB ((((((i2.set 8 (.int .i64 c0)).set 9 (.int .i64 c1)).set 10 (.int .i64 c2)).set 11 (.int .i64 c3)).set 12 (.int .i64 c4)).set 13 (.int .i64 c5))
    simp only [List.setIfInBounds_toArray, List.set_cons_zero, List.set_cons_succ] at k
    exact k
  have m4 : Blk Y (w.heap.size + 1) #[.int .i64 0, .int .i64 0, .int .i64 0, .int .i64 0, .int .i64 0, .int .i64 0, .int .i64 0, .int .i64 0, .int .i64 0, .int .i64 0, .int .i64 0, .int .i64 0, .int .i64 0, .int .i64 0, .bool false] 57 := by rw [hY]; exact drewB ((((((i4.set_other (a := ⟨w.heap.size, 8, none⟩) (by show w.heap.size + 1 ≠ w.heap.size; omega) (.int .i64 c0)).set_other (a := ⟨w.heap.size, 9, none⟩) (by show w.heap.size + 1 ≠ w.heap.size; omega) (.int .i64 c1)).set_other (a := ⟨w.heap.size, 10, none⟩) (by show w.heap.size + 1 ≠ w.heap.size; omega) (.int .i64 c2)).set_other (a := ⟨w.heap.size, 11, none⟩) (by show w.heap.size + 1 ≠ w.heap.size; omega) (.int .i64 c3)).set_other (a := ⟨w.heap.size, 12, none⟩) (by show w.heap.size + 1 ≠ w.heap.size; omega) (.int .i64 c4)).set_other (a := ⟨w.heap.size, 13, none⟩) (by show w.heap.size + 1 ≠ w.heap.size; omega) (.int .i64 c5))
  have hbY : Below w.heap.size w Y := by rw [hY]; exact bdrew (bset (bset (bset (bset (bset (bset hbX (Nat.le_refl _) _) (Nat.le_refl _) _) (Nat.le_refl _) _) (Nat.le_refl _) _) (Nat.le_refl _) _) (Nat.le_refl _) _)
  clear hY d2 z2 l2 i2 i4 hbX hcp
  have d2 := m2.cell
  have d4 := m4.cell
  have z4 := m4.free
  have l4 := m4.lt
  go_wp2_with fail
  change bodyPost _ _ _ _ _ (thW Y (w.heap.size + 1) ⟨hb, hn, ⟨b0, b1, b2, b3, b4, b5⟩, ⟨c0, c1, c2, c3, c4, c5⟩, hl'⟩)
  have hres := Lib.hid (thW_blk (g := ⟨0, 0, ⟨0, 0, 0, 0, 0, 0⟩, ⟨0, 0, 0, 0, 0, 0⟩, false⟩) m4 ⟨hb, hn, ⟨b0, b1, b2, b3, b4, b5⟩, ⟨c0, c1, c2, c3, c4, c5⟩, hl'⟩)
  have hrb := Lib.hid (thW_below hbY (Nat.le_succ w.heap.size) ⟨hb, hn, ⟨b0, b1, b2, b3, b4, b5⟩, ⟨c0, c1, c2, c3, c4, c5⟩, hl'⟩)
  clear d2 d4 z4 l4 m2 m4 hbY
  generalize thW Y (w.heap.size + 1) ⟨hb, hn, ⟨b0, b1, b2, b3, b4, b5⟩, ⟨c0, c1, c2, c3, c4, c5⟩, hl'⟩ = X at *
  exact bodyPost_ret (results_thb _ _ 4 5 rfl rfl rfl hres.out) rfl ⟨rfl, hrb.out⟩
set_option maxRecDepth 100000 in
set_option maxHeartbeats 2000000 in
/-- Replace, of any other number of places. -/
theorem replace_no (h : ThV) (a : Option Addr) (n c : Nat) (hn12 : n ≠ 12) (w : World) :
    Calls Tryz.prog 32 #[h.v, .slice a n c] w fun e w' => e = .returned (.tuple #[h.v, .bool false]) ∧ Below w.heap.size w w' := by
  have hnb : ((n : Int) != 12) = true := by rw [bne_iff_ne]; omega
  obtain ⟨hb, hn, ⟨a0, a1, a2, a3, a4, a5⟩, ⟨s0, s1, s2, s3, s4, s5⟩, hl'⟩ := h
  show Calls _ _ #[.agg #[.int .i64 hb, .int .i64 hn, .int .i64 a0, .int .i64 a1, .int .i64 a2, .int .i64 a3, .int .i64 a4, .int .i64 a5, .int .i64 s0, .int .i64 s1, .int .i64 s2, .int .i64 s3, .int .i64 s4, .int .i64 s5, .bool hl'], .slice a n c] _ _
  clear hn12
  go_enter Tryz.func32, Tryz.ntmps32
  go_wp2_with fail
  refine bodyPost_ret (results_thb (h := ⟨hb, hn, ⟨a0, a1, a2, a3, a4, a5⟩, ⟨s0, s1, s2, s3, s4, s5⟩, hl'⟩) (b6 := w.heap.size + 1) _ _ 4 5 rfl rfl rfl (Blk.new_at _ _ _ _ _ (by simp) rfl)) rfl ⟨rfl, balloc (balloc (bsame w) _) _⟩
end Go.Proofs.YtemohiainfllcaaGreat
