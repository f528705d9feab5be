/- Walks: an object's first and second word. -/
import Derived.Test.YtemohiainfllcaaGreatJa
namespace Go.Proofs.YtemohiainfllcaaGreat
open Go.RowKit Hp
theorem or_lt (a b k : Nat) (ha : a < 2 ^ k) (hb : b < 2 ^ k) : a ||| b < 2 ^ k := Nat.or_lt_two_pow ha hb
theorem head_bits_or (p d : Nat) (hp : p ≤ 8) (hd : d ≤ 8) (wk fn fr : Bool) :
    bits BinOp.or IntKind.u64 (bits BinOp.or IntKind.u64 (bits BinOp.or IntKind.u64 (bits BinOp.or IntKind.u64 (bits BinOp.or IntKind.u64 ((bitOf 0 true : Nat) : Int) ((p : Int) * 2)) ((d : Int) * 32)) ((bitOf 9 wk : Nat) : Int)) ((bitOf 10 fn : Nat) : Int)) ((bitOf 11 fr : Nat) : Int) =
      ((((((1 ||| 2 * p) ||| 32 * d) ||| bitOf 9 wk) ||| bitOf 10 fn) ||| bitOf 11 fr : Nat) : Int) := by
  have e0 : bitOf 0 true = 1 := rfl
  have e1 : (p : Int) * 2 = ((2 * p : Nat) : Int) := by omega
  have e2 : (d : Int) * 32 = ((32 * d : Nat) : Int) := by omega
  have b9 := bitOf_le 9 wk
  have b10 := bitOf_le 10 fn
  have b11 := bitOf_le 11 fr
  have l1 : 1 ||| 2 * p < 2 ^ 12 := or_lt _ _ _ (by omega) (by omega)
  have l2 : (1 ||| 2 * p) ||| 32 * d < 2 ^ 12 := or_lt _ _ _ l1 (by omega)
  have l3 : ((1 ||| 2 * p) ||| 32 * d) ||| bitOf 9 wk < 2 ^ 12 := or_lt _ _ _ l2 (by omega)
  have l4 : (((1 ||| 2 * p) ||| 32 * d) ||| bitOf 9 wk) ||| bitOf 10 fn < 2 ^ 12 := or_lt _ _ _ l3 (by omega)
  rw [e0, e1, e2, wor 1 (2 * p) (by omega) (by omega), wor _ (32 * d) (by omega) (by omega), wor _ _ (by omega) (by omega), wor _ _ (by omega) (by omega), wor _ _ (by omega) (by omega)]
set_option maxHeartbeats 1000000 in
theorem hhead_any (s : Shp) (h : s.ok) (fr : Bool) (w : World) : Calls Tryz.prog 166 #[shpV s, .bool fr] w fun e w' => e = .returned (.tuple #[.int .u64 (head s fr : Nat), .bool true]) ∧ Below w.heap.size w w' := by
  have hr := hright_any s h
  have ho := head_or s fr h
  obtain ⟨p, d, wk, fn⟩ := s
  obtain ⟨h1, h2, h3⟩ := h
  simp only at h1 h2 h3 hr ho
  have HR := Lib.hid hr
  have HO := Lib.hid ho
  clear h3 hr ho
  go_enter Tryz.func166, Tryz.ntmps166
  go_wp2_with fail
  refine (HR.out _).mono ?_
  rintro e w1 ⟨rfl, hb1⟩
  have jA := (Blk.new w (#[_, _, _, _]) 80).below hb1 (by simp)
  have cA := jA.cell
  have sA := jA.lt
  have hb := btrans (balloc (Below.refl _ _) _) hb1
  clear hb1 jA
  go_upto_region 3 with fail
  go_quiet ((go_at_call 203; exact Calls.quiet_of_same (bit_any 0 (by simp) true _)))
  go_upto_region 4 with fail
  obtain ⟨w2, hw2⟩ : ∃ w2, w2 = w1.drewN nq := ⟨_, rfl⟩
  have cB : ∀ i, w2.cell? ⟨w.heap.size, i, none⟩ = #[Value.int .i64 p, .int .i64 d, .bool wk, .bool fn][i]? := by rw [hw2]; exact cA
  have hbB : Below w.heap.size w w2 := by rw [hw2]; exact bdrewN hb _
  rw [← hw2]
  clear hw2 cA sA hb
  go_quiet ((go_at_call 203; first | with_reducible exact Calls.quiet_of_same (bit_any 9 (by simp) wk _) | with_reducible exact Calls.quiet_of_same (bit_any 10 (by simp) fn _) | with_reducible exact Calls.quiet_of_same (bit_any 11 (by simp) fr _)))
  go_wp2_with fail
  go_ret2
  refine ⟨?_, bdrewN hbB _⟩
  rw [← HO.out, ← head_bits_or p d h1 h2]
  rfl
/-- An object's first word, taken apart. -/
theorem hshape_any (s : Shp) (h : s.ok) (fr : Bool) (w : World) : Calls Tryz.prog 196 #[.int .u64 (head s fr : Nat)] w fun e w' => e = .returned (.tuple #[shpV s, .bool fr, .bool true]) ∧ Below w.heap.size w w' := by
  have hh := hhead_any s h fr
  have hlt := head_lt s fr h
  have hb := head_bits s fr h
  have hp := count_any (head s fr) (by omega) 1 (by simp)
  have hd := count_any (head s fr) (by omega) 5 (by simp)
  have hwk := has_any (head s fr) (by omega) 9 (by simp) s.weak hb.1
  have hfn := has_any (head s fr) (by omega) 10 (by simp) s.final hb.2.1
  have hfr := has_any (head s fr) (by omega) 11 (by simp) fr hb.2.2
  have ep : head s fr / 2 ^ (1 : Int).toNat % 16 = s.p := head_p s fr h
  have ed : head s fr / 2 ^ (5 : Int).toNat % 16 = s.d := head_d s fr h
  rw [ep] at hp
  rw [ed] at hd
  obtain ⟨p, d, wk, fn⟩ := s
  simp only at hh hp hd hwk hfn
  generalize head ⟨p, d, wk, fn⟩ fr = q at *
  have HH := Lib.hid hh
  have HP := Lib.hid hp
  have HD := Lib.hid hd
  have HW := Lib.hid hwk
  have HN := Lib.hid hfn
  have HF := Lib.hid hfr
  clear hh hp hd hwk hfn hfr ep ed h hb
  go_enter Tryz.func196, Tryz.ntmps196
  go_wp2_with fail
  refine (HP.out _).mono ?_
  rintro e w1 ⟨rfl, hb1⟩
  have jR := (Blk.new w (#[_, _, _, _]) 80).below hb1 (by simp)
  have hw1 := btrans (balloc (Below.refl _ _) _) hb1
  clear hb1
  go_wp2_with fail
  refine (HD.out _).mono ?_
  rintro e w2 ⟨rfl, hb2⟩
  have jR2 := jR.below hb2 jR.lt
  have hw2 := btrans hw1 hb2
  clear hb2 jR hw1
  go_wp2_with fail
  refine (HW.out _).mono ?_
  rintro e w3 ⟨rfl, hb3⟩
  have jR3 := jR2.below hb3 jR2.lt
  have hw3 := btrans hw2 hb3
  clear hb3 jR2 hw2
  go_wp2_with fail
  refine (HN.out _).mono ?_
  rintro e w4 ⟨rfl, hb4⟩
  have jR4 := jR3.below hb4 jR3.lt
  have hw4 := btrans hw3 hb4
  have c4 := jR4.cell
  have s4 := jR4.lt
  have z4 := jR4.free
  clear hb4 jR3 hw3
  go_wp2_with fail
  refine (HF.out _).mono ?_
  rintro e w5 ⟨rfl, hb5⟩
  have jR5 : Blk w5 w.heap.size #[.int .i64 p, .int .i64 d, .bool wk, .bool fn] 80 := ((((jR4.set 0 _).set 1 _).set 2 _).set 3 _).below hb5 (by simp; omega)
  have hw5 : Below w.heap.size w w5 := btrans (bset (bset (bset (bset hw4 (Nat.le_refl _) _) (Nat.le_refl _) _) (Nat.le_refl _) _) (Nat.le_refl _) _) hb5
  have c5 := jR5.cell
  have s5 := jR5.lt
  clear hb5 jR4 hw4 c4 s4 z4
  go_wp2_with fail
  refine (HH.out _).mono ?_
  rintro e w6 ⟨rfl, hb6⟩
  have jR6 := jR5.below hb6 jR5.lt
  have hw6 := btrans hw5 hb6
  have c6 := jR6.cell
  have s6 := jR6.lt
  have z6 := jR6.free
  clear hb6 jR5 hw5 c5 s5
  go_wp2_with fail
  refine bodyPost_ret (v := .tuple #[shpV ⟨p, d, wk, fn⟩, .bool fr, .bool true]) (by simp [results, Tryz.results196, go_sem, c6]) rfl ⟨rfl, ?_⟩
  repeat (first | exact hw6 | refine bset ?_ (Nat.le_refl _) _)
theorem free_any (v : Int) (h : 0 ≤ v ∧ v ≤ 1099511627776) (w : World) : Calls Tryz.prog 108 #[.int .i64 v] w fun e w' => e = .returned (.tuple #[.int .u64 (2 * v), .bool true]) ∧ w = w' := by
  obtain ⟨h1, h2⟩ := h
  go_enter Tryz.func108, Tryz.ntmps108
  go_wp2_with fail
  go_ret2
  exact ⟨rfl, rfl⟩
theorem held_any (t : Int) (h : 0 ≤ t ∧ t < 8) (w : World) : Calls Tryz.prog 157 #[.int .i64 t] w fun e w' => e = .returned (.tuple #[.int .u64 (2 * t + 1), .bool true]) ∧ w = w' := by
  obtain ⟨h1, h2⟩ := h
  go_enter Tryz.func157, Tryz.ntmps157
  go_wp2_with fail
  go_ret2
  exact ⟨rfl, rfl⟩
theorem held_no (t : Int) (h : 8 ≤ t) (w : World) : Calls Tryz.prog 157 #[.int .i64 t] w fun e w' => e = .returned (.tuple #[.int .u64 0, .bool false]) ∧ w = w' := by
  have h0 : 0 ≤ t := by omega
  go_enter Tryz.func157, Tryz.ntmps157
  go_wp2_with fail
  go_ret2
  exact ⟨rfl, rfl⟩
/-- Whose a word is, or of which version. -/
theorem owner_held (t : Int) (h : 0 ≤ t ∧ t < 8) (w : World) : Calls Tryz.prog 106 #[.int .u64 (2 * t + 1)] w fun e w' => e = .returned (.tuple #[.int .i64 t, .int .i64 0, .bool true]) ∧ w = w' := by
  have hh := Lib.hid (held_any t h)
  have e1 : (2 * t + 1) / 2 = t := by omega
  have E := Lib.hid e1
  obtain ⟨h1, h2⟩ := h
  clear e1
  obtain ⟨q, hq⟩ : ∃ q, q = 2 * t + 1 := ⟨_, rfl⟩
  rw [← hq] at hh E ⊢
  have hq1 : 0 ≤ q := by omega
  have hq2 : q ≤ 20 := by omega
  clear hq
  go_enter Tryz.func106, Tryz.ntmps106
  go_wp2_with fail
  rw [E.out]
  refine (hh.out _).mono ?_
  rintro e w1 ⟨rfl, rfl⟩
  go_wp2_with fail
  go_ret3
  exact ⟨rfl, rfl⟩
theorem owner_free (v : Int) (h : 0 ≤ v ∧ v ≤ 1099511627776) (w : World) : Calls Tryz.prog 106 #[.int .u64 (2 * v)] w fun e w' => e = .returned (.tuple #[.int .i64 0, .int .i64 v, .bool false]) ∧ w = w' := by
  have hf := Lib.hid (free_any v h)
  have e1 : (2 * v) / 2 = v := by omega
  have E := Lib.hid e1
  obtain ⟨h1, h2⟩ := h
  clear e1
  by_cases h8 : v < 8
  · have hh := Lib.hid (held_any v ⟨h1, h8⟩)
    obtain ⟨q, hq⟩ : ∃ q, q = 2 * v := ⟨_, rfl⟩
    rw [← hq] at hf E hh ⊢
    have hq1 : 0 ≤ q := by omega
    have hq2 : q ≤ 2199023255552 := by omega
    have hne : (q + 1 == q) = false := beq_eq_false_iff_ne.2 (by omega)
    clear hq
    go_enter Tryz.func106, Tryz.ntmps106
    go_wp2_with fail
    try rw [E.out]
    refine (hh.out _).mono ?_
    rintro e w1 ⟨rfl, rfl⟩
    go_wp2_with fail
    try rw [E.out]
    refine (hf.out _).mono ?_
    rintro e w1 ⟨rfl, rfl⟩
    go_wp2_with fail
    go_ret3
    exact ⟨rfl, rfl⟩
  · have hh := Lib.hid (held_no v (by omega))
    obtain ⟨q, hq⟩ : ∃ q, q = 2 * v := ⟨_, rfl⟩
    rw [← hq] at hf E ⊢
    have hq1 : 0 ≤ q := by omega
    have hq2 : q ≤ 2199023255552 := by omega
    clear hq
    go_enter Tryz.func106, Tryz.ntmps106
    go_wp2_with fail
    try rw [E.out]
    refine (hh.out _).mono ?_
    rintro e w1 ⟨rfl, rfl⟩
    go_wp2_with fail
    try rw [E.out]
    refine (hf.out _).mono ?_
    rintro e w1 ⟨rfl, rfl⟩
    go_wp2_with fail
    go_ret3
    exact ⟨rfl, rfl⟩
end Go.Proofs.YtemohiainfllcaaGreat

/- Walks: the clock; the arena of words. -/
namespace Go.Proofs.YtemohiainfllcaaGreat
open Go.RowKit Hp
/-- Block b alone may have turned, beside new blocks. -/
structure Wr (b : Nat) (w w' : World) : Prop where
  os : w'.os = w.os
  tape : w'.tape = w.tape
  output : w'.output = w.output
  size : w.heap.size ≤ w'.heap.size
  block : ∀ k, k < w.heap.size → k ≠ b → w'.heap[k]? = w.heap[k]?
theorem Wr.refl (b : Nat) (w : World) : Wr b w w := ⟨rfl, rfl, rfl, Nat.le_refl _, fun _ _ _ => rfl⟩
theorem Wr.trans {b : Nat} {w w1 w2 : World} (h : Wr b w w1) (k : Wr b w1 w2) : Wr b w w2 :=
  ⟨k.os.trans h.os, k.tape.trans h.tape, k.output.trans h.output, Nat.le_trans h.size k.size, fun j hj hn => (k.block j (Nat.lt_of_lt_of_le hj h.size) hn).trans (h.block j hj hn)⟩
theorem Wr.of_below {b : Nat} {w w' : World} (h : Below w.heap.size w w') : Wr b w w' := ⟨h.os, h.tape, h.output, h.size, fun k hk _ => h.block k hk⟩
theorem Wr.set (b : Nat) (w : World) (i : Nat) (v : Value) : Wr b w (w.setCell ⟨b, i, none⟩ v) := ⟨rfl, rfl, rfl, by simp [World.setCell], fun k _ hn => Below.heap_setCell _ _ _ _ hn⟩
theorem Wr.below_then {b : Nat} {w w1 w2 : World} (h : Wr b w w1) (k : Below w1.heap.size w1 w2) : Wr b w w2 := h.trans (.of_below k)
theorem Blk.wr {b c : Nat} {w w' : World} {cs : Array Value} {t : TypeId} (h : Blk w c cs t) (k : Wr b w w') (hn : c ≠ b) : Blk w' c cs t := h.of_eq (k.block c h.lt hn)
/-! ### the clock -/
def bnd (m : Int) : Int := min (max m 0) 1099511627776
theorem clk_new (m : Int) (w : World) :
    Calls Tryz.prog 71 #[.int .i64 m] w fun e w' => e = .returned (.pointer (some ⟨w.heap.size, 0, none⟩)) ∧ w' = w.alloc (.cells #[.int .i64 0, .int .i64 (bnd m)] 144) := by
  rcases Int.lt_or_le m 0 with h | h
  · have e : bnd m = 0 := by unfold bnd; omega
    rw [e]
    go_enter Tryz.func71, Tryz.ntmps71
    go_wp2
    go_ret
    exact ⟨rfl, rfl⟩
  · rcases Int.lt_or_le 1099511627776 m with h2 | h2
    · have e : bnd m = 1099511627776 := by unfold bnd; omega
      rw [e]
      go_enter Tryz.func71, Tryz.ntmps71
      go_wp2
      go_ret
      exact ⟨rfl, rfl⟩
    · have e : bnd m = m := by unfold bnd; omega
      rw [e]; clear e
      go_enter Tryz.func71, Tryz.ntmps71
      go_wp2
      go_ret
      exact ⟨rfl, rfl⟩
theorem clk_now {w : World} {b : Nat} {n m : Int} (h : Blk w b #[.int .i64 n, .int .i64 m] 144) :
    Calls Tryz.prog 44 #[.pointer (some ⟨b, 0, none⟩)] w fun e w' => e = .returned (.int .i64 n) ∧ w = w' := by
  have h0 : w.cell? ⟨b, 0, none⟩ = some (.int .i64 n) := h.cell 0
  have hl := run_call_load (P := Tryz.prog) Tryz.func148 (by kernel_rfl) (by kernel_rfl) (by kernel_rfl) .i64 (by kernel_rfl) h0
  clear h
  go_enter Tryz.func44, Tryz.ntmps44
  go_wp2
  go_ret
  exact ⟨rfl, rfl⟩
theorem clk_may {w : World} {b : Nat} {n m : Int} (h : Blk w b #[.int .i64 n, .int .i64 m] 144) (k : Int) (l0 : 0 ≤ n) (l1 : n ≤ m) (l2 : m ≤ 1099511627776) (hk : 0 ≤ k) :
    Calls Tryz.prog 43 #[.pointer (some ⟨b, 0, none⟩), .int .i64 k] w fun e w' => e = .returned (.bool (decide (k ≤ m - n))) ∧ Below w.heap.size w w' := by
  have hd : decide (0 ≤ k) = true := by simpa using hk
  have h1 : w.cell? ⟨b, 1, none⟩ = some (.int .i64 m) := h.cell 1
  have H := Lib.hid h
  clear h
  go_enter Tryz.func43, Tryz.ntmps43
  go_wp2
  go_quiet ((go_at_call 44; exact Calls.quiet_of_same ((clk_now (H.out.drewN _)).mono fun _ _ ⟨a, b⟩ => ⟨a, b.symm⟩)))
  go_wp2
  go_ret
  exact ⟨rfl, below_drewN (Below.refl _ _) _⟩
set_option maxRecDepth 100000 in
theorem clk_tick {w : World} {b : Nat} {n m : Int} (h : Blk w b #[.int .i64 n, .int .i64 m] 144) (l0 : 0 ≤ n) (l1 : n < m) (l2 : m ≤ 1099511627776) :
    Calls Tryz.prog 56 #[.pointer (some ⟨b, 0, none⟩)] w fun e w' => e = .returned (.tuple #[.int .i64 (n + 1), .bool true]) ∧ Blk w' b #[.int .i64 (n + 1), .int .i64 m] 144 ∧ Wr b w w' := by
  have h0 : w.cell? ⟨b, 0, none⟩ = some (.int .i64 n) := h.cell 0
  have h1 : w.cell? ⟨b, 1, none⟩ = some (.int .i64 m) := h.cell 1
  have f0 : w.frozen? ⟨b, 0, none⟩ = false := h.free 0
  have hl := run_call_load (P := Tryz.prog) Tryz.func148 (by kernel_rfl) (by kernel_rfl) (by kernel_rfl) .i64 (by kernel_rfl) h0
  have hcas := run_call_cas_hit (P := Tryz.prog) Tryz.func158 (by kernel_rfl) (by kernel_rfl) (by kernel_rfl) .i64 (by kernel_rfl) (y := n + 1) h0 f0
  have H := Lib.hid h
  clear h
  go_enter Tryz.func56, Tryz.ntmps56
  go_wp2
  refine wp_loop_rounds 1 ?_; rw [rounds_succ]
  go_wp2
  go_ret2
  exact ⟨rfl, H.out.set 0 _, Wr.set _ _ _ _⟩
/-! ### the arena -/
/-- An arena's words. -/
structure Wds (w : World) (a wd L : Nat) (f : Nat → Nat) : Prop where
  arena : Blk w a #[.slice (some ⟨wd, 0, none⟩) L L] 234
  ne : a ≠ wd
  words : ∃ cs : Array Value, Blk w wd cs 160 ∧ cs.size = L ∧ ∀ i, i < L → cs[i]? = some (.int .u64 (f i : Int))
  le : L ≤ 65536
theorem Wds.cell {w : World} {a wd L : Nat} {f : Nat → Nat} (h : Wds w a wd L f) {i : Nat} (hi : i < L) : w.cell? ⟨wd, i, none⟩ = some (.int .u64 (f i : Int)) := by
  obtain ⟨cs, hb, _, hc⟩ := h.words
  rw [hb.cell, hc i hi]
theorem Wds.free {w : World} {a wd L : Nat} {f : Nat → Nat} (h : Wds w a wd L f) (i : Nat) : w.frozen? ⟨wd, i, none⟩ = false := by
  obtain ⟨cs, hb, _, _⟩ := h.words
  exact hb.free i
theorem Wds.lt {w : World} {a wd L : Nat} {f : Nat → Nat} (h : Wds w a wd L f) : wd < w.heap.size := by
  obtain ⟨cs, hb, _, _⟩ := h.words
  exact hb.lt
theorem Wds.below {w w' : World} {a wd L : Nat} {f : Nat → Nat} (h : Wds w a wd L f) (k : Below w.heap.size w w') : Wds w' a wd L f := by
  obtain ⟨cs, hb, h1, h2⟩ := h.words
  exact ⟨h.arena.below k h.arena.lt, h.ne, ⟨cs, hb.below k hb.lt, h1, h2⟩, h.le⟩
/-- Word i is another one. -/
def upd (f : Nat → Nat) (i v : Nat) : Nat → Nat := fun j => if j = i then v else f j
theorem upd_at (f : Nat → Nat) (i v : Nat) : upd f i v i = v := by simp [upd]
theorem upd_ne (f : Nat → Nat) (i v j : Nat) (h : j ≠ i) : upd f i v j = f j := by simp [upd, h]
theorem Wds.set {w : World} {a wd L : Nat} {f : Nat → Nat} (h : Wds w a wd L f) (i v : Nat) : Wds (w.setCell ⟨wd, i, none⟩ (.int .u64 (v : Int))) a wd L (upd f i v) := by
  obtain ⟨cs, hb, h1, h2⟩ := h.words
  refine ⟨h.arena.set_other h.ne _, h.ne, ⟨_, hb.set i _, by simpa using h1, fun j hj => ?_⟩, h.le⟩
  by_cases e : j = i
  · subst e; rw [upd_at, Array.getElem?_setIfInBounds_self_of_lt (by omega)]
  · rw [upd_ne _ _ _ _ e, Array.getElem?_setIfInBounds_ne (fun h => e h.symm)]; exact h2 j hj
theorem Wds.wr {b w w' a wd L f} (h : Wds w a wd L f) (k : Wr b w w') (h1 : a ≠ b) (h2 : wd ≠ b) : Wds w' a wd L f := by
  obtain ⟨cs, hb, g1, g2⟩ := h.words
  exact ⟨h.arena.wr k h1, h.ne, ⟨cs, hb.wr k h2, g1, g2⟩, h.le⟩
theorem ar_len {w : World} {a wd L : Nat} {f : Nat → Nat} (h : Wds w a wd L f) :
    Calls Tryz.prog 182 #[.pointer (some ⟨a, 0, none⟩)] w fun e w' => e = .returned (.int .i64 L) ∧ w = w' := by
  have c := h.arena.cell
  have hl := h.le
  clear h
  go_enter Tryz.func182, Tryz.ntmps182
  go_wp2
  go_ret
  exact ⟨rfl, rfl⟩
theorem ar_load {w : World} {a wd L : Nat} {f : Nat → Nat} (h : Wds w a wd L f) (z : Int) (i : Nat) (hz : z = i) (hi : i < L) :
    Calls Tryz.prog 151 #[.pointer (some ⟨a, 0, none⟩), .int .i64 z] w fun e w' => e = .returned (.tuple #[.int .u64 (f i), .int .i64 0]) ∧ w = w' := by
  subst hz
  have c := h.arena.cell
  have ci := h.cell hi
  have hl := h.le
  have H := Lib.hid (ar_len h)
  clear h
  go_enter Tryz.func151, Tryz.ntmps151
  go_wp2_with fail
  refine H.out.mono ?_
  rintro e w1 ⟨rfl, rfl⟩
  go_wp2
  go_ret2
  exact ⟨rfl, rfl⟩
theorem ar_store {w : World} {a wd L : Nat} {f : Nat → Nat} (h : Wds w a wd L f) (z : Int) (i v : Nat) (hz : z = i) (hi : i < L) (u : Int) (hu : u = v) :
    Calls Tryz.prog 183 #[.pointer (some ⟨a, 0, none⟩), .int .i64 z, .int .u64 u] w fun e w' => e = .returned (.int .i64 0) ∧ Wds w' a wd L (upd f i v) ∧ Wr wd w w' := by
  subst hz hu
  have c := h.arena.cell
  have ci := h.cell hi
  have fi := h.free i
  have hl := h.le
  have H := Lib.hid (ar_len h)
  have HH := Lib.hid h
  clear h
  go_enter Tryz.func183, Tryz.ntmps183
  go_wp2_with fail
  refine H.out.mono ?_
  rintro e w1 ⟨rfl, rfl⟩
  go_wp2
  go_ret
  exact ⟨rfl, HH.out.set i v, Wr.set _ _ _ _⟩
end Go.Proofs.YtemohiainfllcaaGreat

/- Walks: an arena made, filled, moved. -/
namespace Go.Proofs.YtemohiainfllcaaGreat
open Go.RowKit Hp
theorem info_u64 : ∃ i, Tryz.prog.info? 160 = some i ∧ i.zero = some (.int .u64 0) ∧ i.size = 1 ∧ i.bytes = 8 := info_parts (by kernel_rfl)
theorem made_at (n j : Nat) (h : j < n) : (madeCells #[Value.int .u64 0] n)[j]? = some (.int .u64 0) := by
  unfold madeCells
  rw [Array.getElem?_map, Array.getElem?_range, if_pos h]
  simp [Nat.mod_one]
set_option maxRecDepth 100000 in
theorem ar_new (L : Nat) (h1 : 1 ≤ L) (h2 : L ≤ 65536) (z : Int) (hz : z = L) (w : World) : Calls Tryz.prog 125 #[.int .i64 z] w fun e w' =>
    ∃ a wd, e = .returned (.tuple #[.pointer (some ⟨a, 0, none⟩), .int .i64 0]) ∧ Wds w' a wd L (fun _ => 0) ∧ w.heap.size ≤ a ∧ w.heap.size ≤ wd ∧ Below w.heap.size w w' := by
  subst hz
  obtain ⟨i1, hi1, hs1, hy1, hz1⟩ := info_u64
  have hmk := fun w => run_make (P := Tryz.prog) w 232 160 i1 (.int .u64 0) (by kernel_rfl) hi1 hs1 .i64 .i64 L L (by omega) (by omega) (by rw [hz1]; omega) (by omega)
  simp only [Int.toNat_natCast, hy1, Nat.mul_one] at hmk
  have HI := Lib.hid hi1
  clear hi1 hs1 hy1 hz1
  go_enter Tryz.func125, Tryz.ntmps125
  go_wp2_with fail
  go_ret2
  refine ⟨w.heap.size + 1, w.heap.size, rfl, ⟨Blk.new_at _ _ _ _ _ (by simp) rfl, by omega, ⟨_, (Blk.new w _ _).alloc _, size_madeCells _ _, fun i hi => made_at L i hi⟩, h2⟩, by omega, by omega, balloc (balloc (Below.refl _ _) _) _⟩
theorem stretch_any {w : World} {a wd L : Nat} {f : Nat → Nat} (h : Wds w a wd L f) (i n : Nat) (z u : Int) (hz : z = i) (hu : u = n) (hi : i + n ≤ L) :
    Calls Tryz.prog 215 #[.pointer (some ⟨a, 0, none⟩), .int .i64 z, .int .i64 u] w fun e w' => e = .returned (.bool true) ∧ w = w' := by
  subst hz hu
  have hl := h.le
  have H := Lib.hid (ar_len h)
  have hi2 : (i : Int) + (n : Int) ≤ (L : Int) := by omega
  clear h
  go_enter Tryz.func215, Tryz.ntmps215
  go_wp2_with fail
  refine H.out.mono ?_
  rintro e w1 ⟨rfl, rfl⟩
  go_wp2_with fail
  refine H.out.mono ?_
  rintro e w1 ⟨rfl, rfl⟩
  go_wp2_with fail
  go_ret
  exact ⟨by simp; omega, rfl⟩
/-- Words i to i + n are all v. -/
def fil (f : Nat → Nat) (i n v : Nat) : Nat → Nat := fun j => if i ≤ j ∧ j < i + n then v else f j
theorem fil_succ (f : Nat → Nat) (i k v : Nat) : upd (fil f i k v) (i + k) v = fil f i (k + 1) v := by
  funext j
  unfold upd fil
  by_cases h : j = i + k
  · rw [if_pos h, if_pos (by omega)]
  · rw [if_neg h]
    by_cases h2 : i ≤ j ∧ j < i + k
    · rw [if_pos h2, if_pos (by omega)]
    · rw [if_neg h2, if_neg (by omega)]
theorem fil_zero (f : Nat → Nat) (i v : Nat) : fil f i 0 v = f := by funext j; unfold fil; rw [if_neg (by omega)]
theorem ar_fill {w : World} {a wd L : Nat} {f : Nat → Nat} (h : Wds w a wd L f) (i n v : Nat) (z u x : Int) (hz : z = i) (hu : u = n) (hx : x = v) (hi : i + n ≤ L) :
    Calls Tryz.prog 214 #[.pointer (some ⟨a, 0, none⟩), .int .i64 z, .int .i64 u, .int .u64 x] w fun e w' => e = .returned (.int .i64 0) ∧ Wds w' a wd L (fil f i n v) ∧ Wr wd w w' := by
  subst hz hu hx
  have hl := h.le
  have H := Lib.hid (stretch_any h i n i n rfl rfl hi)
  go_enter Tryz.func214, Tryz.ntmps214
  go_wp2_with fail
  refine H.out.mono ?_
  rintro e w1 ⟨rfl, rfl⟩
  go_wp2_with fail
  go_loopw [9, 16] (fun _ ix wr => ∃ k : Nat, ix = .int .i64 k ∧ k ≤ n ∧ Wds wr a wd L (fil f i k v) ∧ Wr wd w wr) (fun _ ix _ => n - (intOf ix).toNat)
  case atStart => exact ⟨0, rfl, by omega, by rw [fil_zero]; exact h, Wr.refl _ _⟩
  case round =>
    clear h H
    obtain ⟨k, rfl, hk, hW, hr⟩ := hrel
    have c := hW.arena.cell
    by_cases hlt : k < n
    · have ci := hW.cell (i := i + k) (by omega)
      have fi := hW.free (i + k)
      go_wp2_with fail
      go_roundw
      case rel => exact ⟨k + 1, by simp, by omega, by rw [← fil_succ]; exact hW.set (i + k) v, hr.trans (Wr.set _ _ _ _)⟩
      case measure => simp [intOf]; omega
    · obtain rfl : k = n := by omega
      go_wp2_with fail
      go_ret
      exact ⟨rfl, hW, hr⟩
end Go.Proofs.YtemohiainfllcaaGreat
