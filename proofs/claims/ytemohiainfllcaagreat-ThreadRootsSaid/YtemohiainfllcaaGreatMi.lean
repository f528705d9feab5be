/- Threads: a deed in one word. -/
import Derived.Test.YtemohiainfllcaaGreatMe
import Derived.Test.YtemohiainfllcaaGreatMf
import Derived.Test.YtemohiainfllcaaGreatMg
import Derived.Test.YtemohiainfllcaaGreatMh
namespace Go.Proofs.YtemohiainfllcaaGreat
open Go.RowKit Hp
attribute [local go_sem ↓] Go.wp_at_zero Go.wp_at_succ
/-- What is left behind a thread's act. -/
structure TR where
  S : Stt
  h : ThV
  a : ActV
def ledR (R : Res) (h : ThV) (A : Nat) : TR := ⟨R.S, h.led A R.v R.e, ledA (R.S.ser R.v.toNat) R.e⟩
def toldR (S : Stt) (v e : Int) (h : ThV) : TR := ⟨S, h.ended e, actOf v e⟩
/-- The place in a register. -/
def ThV.at (h : ThV) (A : Nat) : Nat := (h.r.get A).toNat
def Stt.tdeed (S : Stt) (i : Nat) (h : ThV) (d : DeedV) : TR :=
  if d.k = 1 then ledR (S.alloc i ⟨d.i.toNat, d.n.toNat, false, false⟩) h d.A
  else if d.k = 2 then ledR (S.alloc i ⟨d.i.toNat, d.n.toNat, false, true⟩) h d.A
  else if d.k = 3 then ledR (S.weak i (h.at d.B)) h d.A
  else if d.k = 4 then ledR (S.get i (h.at d.B) d.i.toNat) h d.A
  else if d.k = 9 then ledR (S.load i (h.at d.B)) h d.A
  else if d.k = 10 then ledR (S.take i) h d.A
  else if d.k = 5 then toldR (S.put i (h.at d.A) d.i.toNat (h.at d.B)).S 0 (S.put i (h.at d.A) d.i.toNat (h.at d.B)).e h
  else if d.k = 6 then toldR (S.read i (h.at d.A) d.i.toNat).S (S.read i (h.at d.A) d.i.toNat).v (S.read i (h.at d.A) d.i.toNat).e h
  else if d.k = 7 then toldR (S.write i (h.at d.A) d.i.toNat d.n).S 0 (S.write i (h.at d.A) d.i.toNat d.n).e h
  else if d.k = 8 then toldR (S.free i (h.at d.A)).S 0 (S.free i (h.at d.A)).e h
  else if d.k = 11 then toldR S (if h.at d.A = h.at d.B then 1 else 0) 0 h
  else if d.k = 12 then toldR S 0 0 (h.put d.A (h.at d.B))
  else if d.k = 13 then toldR S 0 0 (h.put d.A 0)
  else ⟨S.abort i, { h.back with b := h.b + 1 }, ⟨2, 0, 0⟩⟩
theorem tdeed_k1 (S : Stt) (i : Nat) (h : ThV) (d : DeedV) (e : d.k = 1) : S.tdeed i h d = ledR (S.alloc i ⟨d.i.toNat, d.n.toNat, false, false⟩) h d.A := by
  unfold Stt.tdeed
  rw [if_pos e]
theorem tdeed_k2 (S : Stt) (i : Nat) (h : ThV) (d : DeedV) (e : d.k = 2) : S.tdeed i h d = ledR (S.alloc i ⟨d.i.toNat, d.n.toNat, false, true⟩) h d.A := by
  unfold Stt.tdeed
  rw [if_neg (show ¬ d.k = 1 by omega), if_pos e]
theorem tdeed_k3 (S : Stt) (i : Nat) (h : ThV) (d : DeedV) (e : d.k = 3) : S.tdeed i h d = ledR (S.weak i (h.at d.B)) h d.A := by
  unfold Stt.tdeed
  rw [if_neg (show ¬ d.k = 1 by omega), if_neg (show ¬ d.k = 2 by omega), if_pos e]
theorem tdeed_k4 (S : Stt) (i : Nat) (h : ThV) (d : DeedV) (e : d.k = 4) : S.tdeed i h d = ledR (S.get i (h.at d.B) d.i.toNat) h d.A := by
  unfold Stt.tdeed
  rw [if_neg (show ¬ d.k = 1 by omega), if_neg (show ¬ d.k = 2 by omega), if_neg (show ¬ d.k = 3 by omega), if_pos e]
theorem tdeed_k9 (S : Stt) (i : Nat) (h : ThV) (d : DeedV) (e : d.k = 9) : S.tdeed i h d = ledR (S.load i (h.at d.B)) h d.A := by
  unfold Stt.tdeed
  rw [if_neg (show ¬ d.k = 1 by omega), if_neg (show ¬ d.k = 2 by omega), if_neg (show ¬ d.k = 3 by omega), if_neg (show ¬ d.k = 4 by omega), if_pos e]
theorem tdeed_k10 (S : Stt) (i : Nat) (h : ThV) (d : DeedV) (e : d.k = 10) : S.tdeed i h d = ledR (S.take i) h d.A := by
  unfold Stt.tdeed
  rw [if_neg (show ¬ d.k = 1 by omega), if_neg (show ¬ d.k = 2 by omega), if_neg (show ¬ d.k = 3 by omega), if_neg (show ¬ d.k = 4 by omega), if_neg (show ¬ d.k = 9 by omega), if_pos e]
theorem tdeed_k5 (S : Stt) (i : Nat) (h : ThV) (d : DeedV) (e : d.k = 5) : S.tdeed i h d = toldR (S.put i (h.at d.A) d.i.toNat (h.at d.B)).S 0 (S.put i (h.at d.A) d.i.toNat (h.at d.B)).e h := by
  unfold Stt.tdeed
  rw [if_neg (show ¬ d.k = 1 by omega), if_neg (show ¬ d.k = 2 by omega), if_neg (show ¬ d.k = 3 by omega), if_neg (show ¬ d.k = 4 by omega), if_neg (show ¬ d.k = 9 by omega), if_neg (show ¬ d.k = 10 by omega), if_pos e]
theorem tdeed_k6 (S : Stt) (i : Nat) (h : ThV) (d : DeedV) (e : d.k = 6) : S.tdeed i h d = toldR (S.read i (h.at d.A) d.i.toNat).S (S.read i (h.at d.A) d.i.toNat).v (S.read i (h.at d.A) d.i.toNat).e h := by
  unfold Stt.tdeed
  rw [if_neg (show ¬ d.k = 1 by omega), if_neg (show ¬ d.k = 2 by omega), if_neg (show ¬ d.k = 3 by omega), if_neg (show ¬ d.k = 4 by omega), if_neg (show ¬ d.k = 9 by omega), if_neg (show ¬ d.k = 10 by omega), if_neg (show ¬ d.k = 5 by omega), if_pos e]
theorem tdeed_k7 (S : Stt) (i : Nat) (h : ThV) (d : DeedV) (e : d.k = 7) : S.tdeed i h d = toldR (S.write i (h.at d.A) d.i.toNat d.n).S 0 (S.write i (h.at d.A) d.i.toNat d.n).e h := by
  unfold Stt.tdeed
  rw [if_neg (show ¬ d.k = 1 by omega), if_neg (show ¬ d.k = 2 by omega), if_neg (show ¬ d.k = 3 by omega), if_neg (show ¬ d.k = 4 by omega), if_neg (show ¬ d.k = 9 by omega), if_neg (show ¬ d.k = 10 by omega), if_neg (show ¬ d.k = 5 by omega), if_neg (show ¬ d.k = 6 by omega), if_pos e]
theorem tdeed_k8 (S : Stt) (i : Nat) (h : ThV) (d : DeedV) (e : d.k = 8) : S.tdeed i h d = toldR (S.free i (h.at d.A)).S 0 (S.free i (h.at d.A)).e h := by
  unfold Stt.tdeed
  rw [if_neg (show ¬ d.k = 1 by omega), if_neg (show ¬ d.k = 2 by omega), if_neg (show ¬ d.k = 3 by omega), if_neg (show ¬ d.k = 4 by omega), if_neg (show ¬ d.k = 9 by omega), if_neg (show ¬ d.k = 10 by omega), if_neg (show ¬ d.k = 5 by omega), if_neg (show ¬ d.k = 6 by omega), if_neg (show ¬ d.k = 7 by omega), if_pos e]
theorem tdeed_k11 (S : Stt) (i : Nat) (h : ThV) (d : DeedV) (e : d.k = 11) : S.tdeed i h d = toldR S (if h.at d.A = h.at d.B then 1 else 0) 0 h := by
  unfold Stt.tdeed
  rw [if_neg (show ¬ d.k = 1 by omega), if_neg (show ¬ d.k = 2 by omega), if_neg (show ¬ d.k = 3 by omega), if_neg (show ¬ d.k = 4 by omega), if_neg (show ¬ d.k = 9 by omega), if_neg (show ¬ d.k = 10 by omega), if_neg (show ¬ d.k = 5 by omega), if_neg (show ¬ d.k = 6 by omega), if_neg (show ¬ d.k = 7 by omega), if_neg (show ¬ d.k = 8 by omega), if_pos e]
theorem tdeed_k12 (S : Stt) (i : Nat) (h : ThV) (d : DeedV) (e : d.k = 12) : S.tdeed i h d = toldR S 0 0 (h.put d.A (h.at d.B)) := by
  unfold Stt.tdeed
  rw [if_neg (show ¬ d.k = 1 by omega), if_neg (show ¬ d.k = 2 by omega), if_neg (show ¬ d.k = 3 by omega), if_neg (show ¬ d.k = 4 by omega), if_neg (show ¬ d.k = 9 by omega), if_neg (show ¬ d.k = 10 by omega), if_neg (show ¬ d.k = 5 by omega), if_neg (show ¬ d.k = 6 by omega), if_neg (show ¬ d.k = 7 by omega), if_neg (show ¬ d.k = 8 by omega), if_neg (show ¬ d.k = 11 by omega), if_pos e]
theorem tdeed_k13 (S : Stt) (i : Nat) (h : ThV) (d : DeedV) (e : d.k = 13) : S.tdeed i h d = toldR S 0 0 (h.put d.A 0) := by
  unfold Stt.tdeed
  rw [if_neg (show ¬ d.k = 1 by omega), if_neg (show ¬ d.k = 2 by omega), if_neg (show ¬ d.k = 3 by omega), if_neg (show ¬ d.k = 4 by omega), if_neg (show ¬ d.k = 9 by omega), if_neg (show ¬ d.k = 10 by omega), if_neg (show ¬ d.k = 5 by omega), if_neg (show ¬ d.k = 6 by omega), if_neg (show ¬ d.k = 7 by omega), if_neg (show ¬ d.k = 8 by omega), if_neg (show ¬ d.k = 11 by omega), if_neg (show ¬ d.k = 12 by omega), if_pos e]
theorem tdeed_k14 (S : Stt) (i : Nat) (h : ThV) (d : DeedV) (e : d.k = 14) : S.tdeed i h d = ⟨S.abort i, { h.back with b := h.b + 1 }, ⟨2, 0, 0⟩⟩ := by
  unfold Stt.tdeed
  rw [if_neg (show ¬ d.k = 1 by omega), if_neg (show ¬ d.k = 2 by omega), if_neg (show ¬ d.k = 3 by omega), if_neg (show ¬ d.k = 4 by omega), if_neg (show ¬ d.k = 9 by omega), if_neg (show ¬ d.k = 10 by omega), if_neg (show ¬ d.k = 5 by omega), if_neg (show ¬ d.k = 6 by omega), if_neg (show ¬ d.k = 7 by omega), if_neg (show ¬ d.k = 8 by omega), if_neg (show ¬ d.k = 11 by omega), if_neg (show ¬ d.k = 12 by omega), if_neg (show ¬ d.k = 13 by omega)]
/-- A deed that may be. -/
structure DeedV.ok (d : DeedV) : Prop where
  k : 1 ≤ d.k ∧ d.k ≤ 14
  A : d.A < 6
  B : d.B < 6
  i : 0 ≤ d.i
  n : -9223372036854775808 ≤ d.n ∧ d.n ≤ 9223372036854775807
  s : d.k = 1 ∨ d.k = 2 → d.i ≤ 4 ∧ 0 ≤ d.n ∧ d.n ≤ 4
/-- Registers lead to objects. -/
def Rgs (S : Stt) (r : R6) : Prop := ∀ j, j < 6 → ∃ p : Nat, r.get j = p ∧ Plc S p
def LedOk (R : Res) : Prop := R.e = 0 → ∃ p : Nat, R.v = p ∧ Plc R.S p
theorem Rgs.at {S : Stt} {h : ThV} (hr : Rgs S h.r) {A : Nat} (hA : A < 6) : h.r.get A = (h.at A : Int) ∧ Plc S (h.at A) := by
  obtain ⟨p, h1, h2⟩ := hr A hA
  unfold ThV.at
  rw [h1, Int.toNat_natCast]
  exact ⟨rfl, h2⟩
theorem fin_led {r : Res} (i : Nat) (h : LedOk r) : LedOk (r.fin i) := by
  intro he
  unfold Res.fin at he ⊢
  split
  · rename_i ha
    rw [if_pos ha] at he
    simp only at he
    rw [he] at ha
    simp [isAb] at ha
  · rename_i ha
    rw [if_neg ha] at he
    split
    · rename_i h0; exact h h0
    · rename_i h0; rw [if_neg h0] at he; exact absurd he h0
section
variable {w w' : World} {o o' : Own} {y : SLay} {S : Stt} {i : Nat}
theorem alloc_led (hk : S.ok) (i : Nat) (s : Shp) : LedOk (S.alloc i s) := by
  refine fin_led i ?_
  intro he
  unfold Stt.allocR at he ⊢
  split
  · exact ⟨_, rfl, .inr (by rw [lk_laid hk, if_pos rfl]; rfl)⟩
  · rename_i hr; rw [if_neg hr] at he; simp at he
theorem weak_led (hk : S.ok) (i q : Nat) : LedOk (S.weak i q) := by
  refine fin_led i ?_
  intro he
  unfold Stt.weakR at he ⊢
  split
  · rename_i h0; rw [if_pos h0] at he; simp at he
  · rename_i h0
    rw [if_neg h0] at he
    split
    · refine ⟨_, rfl, .inr ?_⟩
      show (lk (up (S.laid i (S.t i) Shp.wk).H.cur S.H.top _) S.H.top).isSome = true
      rw [lk_up, if_pos rfl, lk_laid hk, if_pos rfl]; rfl
    · rename_i hr; rw [if_neg hr] at he; simp at he
theorem lookR_H (x : Tx) (p : Nat) : (S.lookR i x p).1.H = S.H := by
  unfold Stt.lookR; repeat' split
  all_goals rfl
theorem plc_H {S' : Stt} (h : S'.H = S.H) {p : Nat} (hp : Plc S p) : Plc S' p := by unfold Plc at *; rw [h]; exact hp
theorem get_led (hI : Inv S) (i p j : Nat) : LedOk (S.get i p j) := by
  refine fin_led i ?_
  intro he
  unfold Stt.getR at he ⊢
  split
  · rename_i hne; rw [if_pos hne] at he; exact absurd he hne
  · rename_i hne
    rw [if_neg hne] at he
    cases hb : (lk S.H.cur p).bind (·.ptrs[j]?) with
    | none => rw [hb] at he; simp at he
    | some q =>
      refine ⟨q, rfl, plc_H (S := S) (lookR_H _ p) ?_⟩
      obtain ⟨ob, h1, h2⟩ := Option.bind_eq_some_iff.1 hb
      exact hI.lo p ob h1 q (List.mem_of_getElem? h2)
theorem load_led (hI : Inv S) (i p : Nat) : LedOk (S.load i p) := by
  refine fin_led i ?_
  intro he
  unfold Stt.loadR at he ⊢
  split
  · rename_i hne; rw [if_pos hne] at he; exact absurd he hne
  · rename_i hne
    rw [if_neg hne] at he
    cases hb : lk S.H.cur p with
    | none => exact ⟨0, rfl, .inl rfl⟩
    | some ob =>
      rw [hb] at he
      simp only at he ⊢
      split
      · split
        · exact ⟨0, rfl, .inl rfl⟩
        · rename_i h0
          refine ⟨_, rfl, ?_⟩
          show Plc S (ob.ptrs.getD 0 0)
          refine hI.lo p ob hb _ ?_
          rw [List.getD_eq_getElem?_getD] at h0 ⊢
          cases hq : ob.ptrs[0]? with
          | none => rw [hq] at h0; simp at h0
          | some q => exact List.mem_of_getElem? hq
      · rename_i hw; rw [if_neg hw] at he; simp at he
theorem take_led (i : Nat) : LedOk (S.take i) := by
  refine fin_led i ?_
  intro he
  unfold Stt.takeR
  split <;> exact ⟨0, rfl, .inl rfl⟩
/-- What a deed asks. -/
structure Tdy (S : Stt) (i : Nat) (h : ThV) : Prop where
  inv : Inv S
  chk : S.chk i = true
  rg : Rgs S h.r
  ser : S.H.serial < 1099511627776
  n : 0 ≤ h.n ∧ h.n ≤ 4096
  b : 0 ≤ h.b ∧ h.b ≤ 4096
theorem tdeed_any (hS : StIn w o y S) (h : ThV) (d : DeedV) (hd : d.ok) (hT : Tdy S i h) :
    Calls Tryz.prog 76 #[ptr y.sb, .int .i64 i, d.v, h.v] w fun e' w' => e' = .returned (.tuple #[(S.tdeed i h d).h.v, (S.tdeed i h d).a.val]) ∧ Left y (S.tdeed i h d).S o w w' := by
  have hA := hd.A
  have hB := hd.B
  obtain ⟨ea, pa⟩ := hT.rg.at hA
  obtain ⟨eb, pb⟩ := hT.rg.at hB
  obtain ⟨hb, hn, ⟨a0, a1, a2, a3, a4, a5⟩, ⟨s0, s1, s2, s3, s4, s5⟩, hl⟩ := h
  obtain ⟨k, A, B, fi, fn⟩ := d
  have hn0 := hT.n
  have hb0 := hT.b
  have hk := hd.k
  have hi := hd.i
  have hfn := hd.n
  have hs := hd.s
  simp only at hA hB ea eb pa pb hn0 hb0 hk hi hfn hs
  have hlt : i < S.txs.length := by
    have := hT.chk
    unfold Stt.chk at this
    simp only [Bool.and_eq_true, decide_eq_true_eq] at this
    exact this.1.1
  have hlv : (S.t i).live = true := by
    have := hT.chk
    unfold Stt.chk at this
    simp only [Bool.and_eq_true, decide_eq_true_eq] at this
    exact this.1.2
  obtain rfl | rfl | rfl | rfl | rfl | rfl | rfl | rfl | rfl | rfl | rfl | rfl | rfl | rfl : k = 1 ∨ k = 2 ∨ k = 3 ∨ k = 4 ∨ k = 5 ∨ k = 6 ∨ k = 7 ∨ k = 8 ∨ k = 9 ∨ k = 10 ∨ k = 11 ∨ k = 12 ∨ k = 13 ∨ k = 14 := by omega
  · rw [tdeed_k1 _ _ _ _ rfl]
    exact tdeed_alloc hS hT.inv hb hn a0 a1 a2 a3 a4 a5 s0 s1 s2 s3 s4 s5 hl A B fi fn _ _ hT.chk ⟨hi, (hs (.inl rfl)).1⟩ (hs (.inl rfl)).2 hT.ser (alloc_led hT.inv.ok i _) hA hB ea eb hn0 hb0
  · rw [tdeed_k2 _ _ _ _ rfl]
    exact tdeed_final hS hT.inv hb hn a0 a1 a2 a3 a4 a5 s0 s1 s2 s3 s4 s5 hl A B fi fn _ _ hT.chk ⟨hi, (hs (.inr rfl)).1⟩ (hs (.inr rfl)).2 hT.ser (alloc_led hT.inv.ok i _) hA hB ea eb hn0 hb0
  · rw [tdeed_k3 _ _ _ _ rfl]
    exact tdeed_weak hS hT.inv hb hn a0 a1 a2 a3 a4 a5 s0 s1 s2 s3 s4 s5 hl A B fi fn _ _ hT.chk pb hT.ser (weak_led hT.inv.ok i _) hA hB ea eb hn0 hb0
  · rw [tdeed_k4 _ _ _ _ rfl]
    exact tdeed_get hS hT.inv hb hn a0 a1 a2 a3 a4 a5 s0 s1 s2 s3 s4 s5 hl A B fi fn _ _ hT.chk pb hi (get_led hT.inv i _ _) hA hB ea eb hn0 hb0
  · rw [tdeed_k5 _ _ _ _ rfl]
    exact tdeed_put hS hT.inv hb hn a0 a1 a2 a3 a4 a5 s0 s1 s2 s3 s4 s5 hl A B fi fn _ _ hT.chk pa pb hi hA hB ea eb hn0 hb0
  · rw [tdeed_k6 _ _ _ _ rfl]
    exact tdeed_read hS hT.inv hb hn a0 a1 a2 a3 a4 a5 s0 s1 s2 s3 s4 s5 hl A B fi fn _ _ hT.chk pa hi hA hB ea eb hn0 hb0
  · rw [tdeed_k7 _ _ _ _ rfl]
    exact tdeed_write hS hT.inv hb hn a0 a1 a2 a3 a4 a5 s0 s1 s2 s3 s4 s5 hl A B fi fn _ _ hT.chk pa hi hfn hA hB ea eb hn0 hb0
  · rw [tdeed_k8 _ _ _ _ rfl]
    exact tdeed_free hS hT.inv hb hn a0 a1 a2 a3 a4 a5 s0 s1 s2 s3 s4 s5 hl A B fi fn _ _ hT.chk pa hA hB ea eb hn0 hb0
  · rw [tdeed_k9 _ _ _ _ rfl]
    exact tdeed_load hS hT.inv hb hn a0 a1 a2 a3 a4 a5 s0 s1 s2 s3 s4 s5 hl A B fi fn _ _ hT.chk pb (load_led hT.inv i _) hA hB ea eb hn0 hb0
  · rw [tdeed_k10 _ _ _ _ rfl]
    exact tdeed_take hS hT.inv hb hn a0 a1 a2 a3 a4 a5 s0 s1 s2 s3 s4 s5 hl A B fi fn _ _ hT.chk (take_led i) hA hB ea eb hn0 hb0
  · rw [tdeed_k11 _ _ _ _ rfl]
    by_cases hab : (ThV.at ⟨hb, hn, ⟨a0, a1, a2, a3, a4, a5⟩, ⟨s0, s1, s2, s3, s4, s5⟩, hl⟩ A) = (ThV.at ⟨hb, hn, ⟨a0, a1, a2, a3, a4, a5⟩, ⟨s0, s1, s2, s3, s4, s5⟩, hl⟩ B)
    · rw [if_pos hab]
      exact tdeed_same hS hT.inv hb hn a0 a1 a2 a3 a4 a5 s0 s1 s2 s3 s4 s5 hl A B fi fn _ _ hab hA hB ea eb hn0 hb0
    · rw [if_neg hab]
      exact tdeed_unlike hS hT.inv hb hn a0 a1 a2 a3 a4 a5 s0 s1 s2 s3 s4 s5 hl A B fi fn _ _ hab hA hB ea eb hn0 hb0
  · rw [tdeed_k12 _ _ _ _ rfl]
    exact tdeed_move hS hT.inv hb hn a0 a1 a2 a3 a4 a5 s0 s1 s2 s3 s4 s5 hl A B fi fn _ _ hA hB ea eb hn0 hb0
  · rw [tdeed_k13 _ _ _ _ rfl]
    exact tdeed_nil hS hT.inv hb hn a0 a1 a2 a3 a4 a5 s0 s1 s2 s3 s4 s5 hl A B fi fn _ _ hA hB ea eb hn0 hb0
  · rw [tdeed_k14 _ _ _ _ rfl]
    exact tdeed_abort hS hT.inv hb hn a0 a1 a2 a3 a4 a5 s0 s1 s2 s3 s4 s5 hl A B fi fn _ _ hlt hlv hA hB ea eb hb0
end
end Go.Proofs.YtemohiainfllcaaGreat
