/- Walk: the document's own reading of a word's number (value). -/
import Derived.Test.YthchcnbgjklbhaaDoorRfSplit
namespace Go.Proofs.YthchcnbgjklbhaaDoor
open Go.RowKit
/-- The digits' sum. -/
def horner (l : List UInt8) : Nat := l.foldl (fun a c => 10 * a + (c.toNat - 48)) 0
theorem horner_snoc (l : List UInt8) (c : UInt8) : horner (l ++ [c]) = 10 * horner l + (c.toNat - 48) := by simp [horner]
theorem horner_dec (u : Nat) : horner (Lib.decDigits u) = u := by
  induction u using Nat.strongRecOn with
  | _ u ih =>
    rw [Lib.decDigits]
    split
    · simp [horner]; omega
    · rw [horner_snoc, ih (u / 10) (by omega)]
      have : (UInt8.ofNat (48 + u % 10)).toNat = 48 + u % 10 := by simp; omega
      rw [this]; omega
theorem horner_bd : ∀ (l : List UInt8) (n : Nat), l.length ≤ n → (∀ c ∈ l, 48 ≤ c.toNat ∧ c.toNat ≤ 57) → horner l < 10 ^ n := by
  intro l n
  induction n generalizing l with
  | zero => intro h _; have : l = [] := List.eq_nil_of_length_eq_zero (by omega); subst this; decide
  | succ n ih =>
    intro h hd
    rcases List.eq_nil_or_concat l with rfl | ⟨l', c, rfl⟩
    · simp [horner]; exact Nat.pow_pos (by omega)
    · rw [List.concat_eq_append] at h hd ⊢
      rw [horner_snoc]
      have h1 := ih l' (by simp at h; omega) (fun x hx => hd x (by simp [hx]))
      have h2 := hd c (by simp)
      rw [Nat.pow_succ]; omega
/-- A word's number, as the document reads it: the number, and whether the word is that number's. -/
def digs (l : List UInt8) : Bool := l.all fun c => decide (48 ≤ c.toNat ∧ c.toNat ≤ 57)
def valN (minus : Bool) (d : List UInt8) : Int := if minus then -(horner d : Int) else (horner d : Int)
def valD (minus : Bool) (d l : List UInt8) : Int × Bool :=
  if d.length < 1 ∨ 7 < d.length then (0, false) else if digs d then (valN minus d, decide (Lib.itoa (valN minus d) = l)) else (0, false)
def isMinus (l : List UInt8) : Bool := l.head? == some 45
def val (l : List UInt8) : Int × Bool := if isMinus l then valD true (l.drop 1) l else valD false l l
theorem valD_ok {minus : Bool} {d l : List UInt8} (h : (valD minus d l).2 = true) : Lib.itoa (valD minus d l).1 = l ∧ -10000000 < (valD minus d l).1 ∧ (valD minus d l).1 < 10000000 := by
  unfold valD at h ⊢
  split at h
  · cases h
  · rename_i hl
    rw [if_neg hl]
    split at h
    · rename_i hd
      rw [if_pos hd]
      have hb := horner_bd d 7 (by omega) (fun c hc => by have := List.all_eq_true.1 hd c hc; simpa using this)
      refine ⟨by simpa using h, ?_⟩
      unfold valN
      simp only
      cases minus <;> simp <;> omega
    · cases h
theorem val_ok {l : List UInt8} (h : (val l).2 = true) : Lib.itoa (val l).1 = l ∧ -10000000 < (val l).1 ∧ (val l).1 < 10000000 := by
  unfold val at h ⊢
  split at h
  · rename_i hm; rw [if_pos hm]; exact valD_ok h
  · rename_i hm; rw [if_neg hm]; exact valD_ok h
theorem digs_dec (u : Nat) : digs (Lib.decDigits u) = true := List.all_eq_true.2 fun c hc => decide_eq_true (Pg.dec_digits u c hc)
theorem val_itoa (v : Int) (h : -10000000 < v ∧ v < 10000000) : val (Lib.itoa v) = (v, true) := by
  have hn : ∀ u : Nat, u < 10000000 → ¬ ((Lib.decDigits u).length < 1 ∨ 7 < (Lib.decDigits u).length) := by
    intro u hu
    have h1 := Pg.dec_len 6 u hu
    have h2 := Pg.dec_ne_nil u
    have h3 : (Lib.decDigits u).length ≠ 0 := fun e => h2 (List.eq_nil_of_length_eq_zero e)
    omega
  by_cases h0 : v < 0
  · have e : Lib.itoa v = 45 :: Lib.decDigits v.natAbs := by unfold Lib.itoa; rw [if_pos h0]
    have hv : valN true (Lib.decDigits v.natAbs) = v := by unfold valN; rw [horner_dec]; simp; omega
    rw [e]
    unfold val isMinus
    rw [if_pos (by simp)]
    unfold valD
    rw [List.drop_succ_cons, List.drop_zero, if_neg (hn _ (by omega)), if_pos (digs_dec _), hv, e]
    simp
  · have e : Lib.itoa v = Lib.decDigits v.toNat := by unfold Lib.itoa; rw [if_neg h0]
    have hv : valN false (Lib.decDigits v.toNat) = v := by unfold valN; rw [horner_dec]; simp; omega
    rw [e]
    unfold val isMinus
    rw [if_neg ?_]
    · unfold valD
      rw [if_neg (hn _ (by omega)), if_pos (digs_dec _), hv, e]
      simp
    · cases hd : Lib.decDigits v.toNat with
      | nil => simp
      | cons c r =>
        have := Pg.dec_digits v.toNat c (by rw [hd]; exact .head _)
        intro hc
        have hc' : c = 45 := by simpa using hc
        rw [hc'] at this
        exact absurd this.1 (by decide)
end Go.Proofs.YthchcnbgjklbhaaDoor
