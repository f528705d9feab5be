/- Deeds' texts, in plain terms: which deeds are right, their texts, and which deed a text is. No program is in sight. -/
import Derived.Test.YtemohiainfllcaaGreatRa
import Derived.Lib.AtoiAll
import Derived.Lib.ItoaNum
import Derived.Lib.Split
import Derived.Deep.Cut
import Derived.Deep.DeepCutAuto
namespace Go.Proofs.YtemohiainfllcaaGreat.Pg
open Go.Lib
/-- A deed. -/
structure D where
  k : Int
  a : Int
  b : Int
  i : Int
  n : Int
  deriving DecidableEq
/-- A part of a deed: which field (1 A, 2 B, 3 I, 4 N), and its bounds. -/
structure Pt where
  f : Nat
  lo : Int
  hi : Int
  deriving DecidableEq
def D.get (d : D) : Nat → Int
  | 1 => d.a
  | 2 => d.b
  | 3 => d.i
  | _ => d.n
def D.set (d : D) : Nat → Int → D
  | 1, v => { d with a := v }
  | 2, v => { d with b := v }
  | 3, v => { d with i := v }
  | _, v => { d with n := v }
def bare (k : Int) : D := ⟨k, 0, 0, 0, 0⟩
def pa : Pt := ⟨1, 0, 5⟩
def pb : Pt := ⟨2, 0, 5⟩
def pf : Pt := ⟨3, 0, 7⟩
def ps : Pt := ⟨3, 0, 4⟩
def pn : Pt := ⟨4, 0, 4⟩
def pv : Pt := ⟨4, -1000000, 1000000⟩
/-- The parts of a kind's deeds. -/
def parts (k : Int) : List Pt :=
  if k = 1 then [pa, ps, pn] else if k = 2 then [pa, ps, pn] else if k = 3 then [pa, pb] else if k = 4 then [pa, pb, pf]
  else if k = 5 then [pa, pf, pb] else if k = 6 then [pa, pf] else if k = 7 then [pa, pf, pv] else if k = 8 then [pa]
  else if k = 9 then [pa, pb] else if k = 10 then [pa] else if k = 11 then [pa, pb] else if k = 12 then [pa, pb]
  else if k = 13 then [pa] else []
/-- A kind's word; empty: there is no such kind. -/
def wordS (k : Int) : String :=
  if k = 1 then "alloc" else if k = 2 then "final" else if k = 3 then "weak" else if k = 4 then "get"
  else if k = 5 then "put" else if k = 6 then "read" else if k = 7 then "write" else if k = 8 then "free"
  else if k = 9 then "load" else if k = 10 then "take" else if k = 11 then "same" else if k = 12 then "move"
  else if k = 13 then "nil" else if k = 14 then "abort" else ""
def word (k : Int) : List UInt8 := (wordS k).toUTF8.data.toList
/-- The deed with nothing but what its parts have. -/
def strip (d : D) : D := (parts d.k).foldl (fun x p => x.set p.f (d.get p.f)) (bare d.k)
def right (d : D) : Bool := decide (1 ≤ d.k ∧ d.k ≤ 14) && (parts d.k).all (fun p => decide (p.lo ≤ d.get p.f ∧ d.get p.f ≤ p.hi)) && decide (strip d = d)
/-- What stands behind the word. -/
def tail (d : D) : List UInt8 := (parts d.k).flatMap fun p => 32 :: itoa (d.get p.f)
def print (d : D) : List UInt8 := word d.k ++ tail d
theorem kinds {k : Int} (h : 1 ≤ k ∧ k ≤ 14) : k = 1 ∨ k = 2 ∨ k = 3 ∨ k = 4 ∨ k = 5 ∨ k = 6 ∨ k = 7 ∨ k = 8 ∨ k = 9 ∨ k = 10 ∨ k = 11 ∨ k = 12 ∨ k = 13 ∨ k = 14 := by omega
/-! ### numerals -/
theorem dec_digits (u : Nat) : ∀ c ∈ decDigits u, 48 ≤ c.toNat ∧ c.toNat ≤ 57 := by
  induction u using Nat.strongRecOn with
  | _ u ih =>
    intro c hc
    rw [decDigits] at hc
    split at hc
    · rename_i h
      simp only [List.mem_singleton] at hc
      subst hc
      simp [UInt8.toNat_ofNat']; omega
    · rename_i h
      rcases List.mem_append.1 hc with h' | h'
      · exact ih _ (by omega) _ h'
      · simp only [List.mem_singleton] at h'
        subst h'
        simp [UInt8.toNat_ofNat']; omega
theorem parse_append : ∀ (l r : List UInt8) (acc : Nat), (∀ c ∈ l, 48 ≤ c.toNat ∧ c.toNat ≤ 57) → ∀ v, parseUint10 acc l = .ok v → parseUint10 acc (l ++ r) = parseUint10 v r
  | [], r, acc, _, v, h => by simp only [parseUint10] at h; injection h with h; subst h; rfl
  | c :: l, r, acc, hd, v, h => by
    simp only [List.cons_append, parseUint10] at h ⊢
    have hc := hd c (by simp)
    rw [if_pos hc] at h ⊢
    split at h
    · cases h
    · rename_i h1
      split at h
      · cases h
      · rename_i h2
        rw [if_neg h1, if_neg h2]
        exact parse_append l r _ (fun x hx => hd x (by simp [hx])) v h
theorem parse_dec (u : Nat) (hu : u < 1000000000) : parseUint10 0 (decDigits u) = .ok u := by
  induction u using Nat.strongRecOn with
  | _ u ih =>
    rw [decDigits]
    split
    · rename_i h
      have e : (UInt8.ofNat (48 + u)).toNat = 48 + u := by simp [UInt8.toNat_ofNat']; omega
      simp only [parseUint10, e]
      rw [if_pos (by omega), if_neg (by omega), if_neg (by omega)]
      congr 1; omega
    · rename_i h
      rw [parse_append _ _ _ (dec_digits _) (u / 10) (ih _ (by omega) (by omega))]
      have e : (UInt8.ofNat (48 + u % 10)).toNat = 48 + u % 10 := by simp [UInt8.toNat_ofNat']; omega
      simp only [parseUint10, e]
      rw [if_pos (by omega), if_neg (by omega), if_neg (by omega)]
      congr 1; omega
theorem dec_ne_nil (u : Nat) : decDigits u ≠ [] := by
  rw [decDigits]; split <;> simp
theorem atoi_itoa (v : Int) (h : -1000000 ≤ v ∧ v ≤ 1000000) : atoiAll (itoa v) = .ok v := by
  unfold itoa
  split
  · rename_i hn
    have hp := parse_dec v.natAbs (by omega)
    simp only [atoiAll]
    rw [if_pos (by decide)]
    unfold parseMag
    rw [if_neg (dec_ne_nil _), hp]
    simp only []
    rw [if_neg (by simp), if_neg (by omega), if_pos (by decide)]
    congr 1; omega
  · rename_i hn
    have hp := parse_dec v.toNat (by omega)
    cases hd : decDigits v.toNat with
    | nil => exact absurd hd (dec_ne_nil _)
    | cons c r =>
      have hc := dec_digits v.toNat c (by rw [hd]; simp)
      simp only [atoiAll]
      rw [if_neg (by omega)]
      unfold parseMag
      rw [if_neg (by simp), ← hd, hp]
      simp only []
      rw [if_neg (by omega), if_neg (by omega), if_neg (by omega)]
      congr 1; omega
theorem itoa_inj {u v : Int} (hu : -1000000 ≤ u ∧ u ≤ 1000000) (hv : -1000000 ≤ v ∧ v ≤ 1000000) (h : itoa u = itoa v) : u = v := by
  have := atoi_itoa u hu
  rw [h, atoi_itoa v hv] at this
  injection this with this
  exact this.symm
theorem itoa_no_blank (v : Int) : ∀ c ∈ itoa v, c ≠ 32 := by
  intro c hc e
  subst e
  unfold itoa at hc
  split at hc
  · rcases List.mem_cons.1 hc with h | h
    · cases h
    · have := (dec_digits _ _ h).1; simp at this
  · have := (dec_digits _ _ hc).1; simp at this
theorem itoa_ne_nil (v : Int) : itoa v ≠ [] := by
  unfold itoa; split
  · simp
  · exact dec_ne_nil _
/-! ### words of a text -/
/-- The one-byte separator. -/
def sp : List UInt8 := [32]
theorem index_blank : ∀ (w r : List UInt8), (∀ c ∈ w, c ≠ 32) → index (w ++ 32 :: r) sp = (w.length : Int)
  | [], r, _ => by simp [index, sp, List.isPrefixOf]
  | c :: w, r, h => by
    have ih := index_blank w r (fun x hx => h x (by simp [hx]))
    have hc : (32 == c) = false := by simpa using fun e => h c (by simp) e.symm
    simp only [List.cons_append, index, sp, List.isPrefixOf, hc, Bool.false_and, Bool.false_eq_true, if_false]
    have ih' : index (w ++ 32 :: r) [32] = (w.length : Int) := ih
    rw [ih', if_neg (by simp)]
    simp
theorem index_noblank : ∀ (w : List UInt8), (∀ c ∈ w, c ≠ 32) → index w sp = -1
  | [], _ => by simp [index, sp]
  | c :: w, h => by
    have ih := index_noblank w (fun x hx => h x (by simp [hx]))
    have hc : (32 == c) = false := by simpa using fun e => h c (by simp) e.symm
    have ih' : index w [32] = -1 := ih
    simp [index, sp, List.isPrefixOf, hc, ih']
theorem split_blank (k : Nat) (w r : List UInt8) (h : ∀ c ∈ w, c ≠ 32) : splitK sp 0 (k + 1) (w ++ 32 :: r) = w :: splitK sp 0 k r := by
  rw [splitK, index_blank w r h, if_neg (by simp)]
  have e1 : (w ++ 32 :: r).take (((w.length : Int)).toNat + 0) = w := by simp
  have e2 : (w ++ 32 :: r).drop (((w.length : Int)).toNat + sp.length) = r := by
    rw [show ((w.length : Int)).toNat + sp.length = w.length + 1 from by simp [sp], List.drop_append]
    simp
  rw [e1, e2]
theorem split_noblank (k : Nat) (w : List UInt8) (h : ∀ c ∈ w, c ≠ 32) : splitK sp 0 k w = [w] := by
  cases k with
  | zero => rfl
  | succ k => rw [splitK, index_noblank w h]; rfl
theorem split_parts (g : Pt → Int) : ∀ (ps : List Pt) (k : Nat) (w : List UInt8), (∀ c ∈ w, c ≠ 32) → ps.length ≤ k →
    splitK sp 0 k (w ++ ps.flatMap fun p => 32 :: itoa (g p)) = w :: ps.map fun p => itoa (g p)
  | [], k, w, h, _ => by simpa using split_noblank k w h
  | p :: ps, k, w, h, hk => by
    cases k with
    | zero => simp at hk
    | succ k =>
      simp only [List.flatMap_cons, List.cons_append, List.map_cons]
      rw [split_blank k w _ h, split_parts g ps k (itoa (g p)) (itoa_no_blank _) (by simpa using hk)]
theorem word_blank (k : Int) (h : 1 ≤ k ∧ k ≤ 14) : ∀ c ∈ word k, c ≠ 32 := by
  rcases kinds h with rfl | rfl | rfl | rfl | rfl | rfl | rfl | rfl | rfl | rfl | rfl | rfl | rfl | rfl <;> decide +kernel
theorem word_len (k : Int) (h : 1 ≤ k ∧ k ≤ 14) : 3 ≤ (word k).length ∧ (word k).length ≤ 5 ∧ (parts k).length ≤ 3 ∧ ((parts k).length = 0 → (word k).length = 5) := by
  rcases kinds h with rfl | rfl | rfl | rfl | rfl | rfl | rfl | rfl | rfl | rfl | rfl | rfl | rfl | rfl <;> decide +kernel
/-- The kinds. -/
def ks : List Int := [1, 2, 3, 4, 5, 6, 7, 8, 9, 10, 11, 12, 13, 14]
theorem mem_ks {k : Int} : k ∈ ks ↔ 1 ≤ k ∧ k ≤ 14 := by
  constructor
  · intro h; simp only [ks, List.mem_cons, List.not_mem_nil, or_false] at h; omega
  · intro h; simp only [ks, List.mem_cons, List.not_mem_nil, or_false]; omega
theorem word_inj_all : ks.all (fun j => ks.all fun k => decide (word j = word k → j = k)) = true := by decide +kernel
theorem word_inj {j k : Int} (hj : 1 ≤ j ∧ j ≤ 14) (hk : 1 ≤ k ∧ k ≤ 14) (h : word j = word k) : j = k := by
  have := word_inj_all
  rw [List.all_eq_true] at this
  have h1 := this j (mem_ks.2 hj)
  rw [List.all_eq_true] at h1
  exact of_decide_eq_true (h1 k (mem_ks.2 hk)) h
/-! ### which deed a text is -/
def readParts : List Pt → List (List UInt8) → D → Option D
  | [], [], d => some d
  | p :: ps, w :: ws, d => match atoiAll w with
    | .ok v => readParts ps ws (d.set p.f v)
    | _ => none
  | _, _, _ => none
def ofKind (l : List UInt8) (k : Int) (ws : List (List UInt8)) : Option D :=
  match readParts (parts k) ws (bare k) with
  | some d => if right d = true ∧ print d = l then some d else none
  | none => none
def fits (w : List UInt8) (n : Nat) (k : Int) : Bool := decide (word k = w ∧ (parts k).length = n)
/-- Parse, as the program has it. -/
def parse (l : List UInt8) : Option D :=
  match splitN l sp 5 with
  | [] => none
  | w :: ws => match ks.find? (fits w ws.length) with
    | some k => ofKind l k ws
    | none => none
theorem right_kind {d : D} (h : right d = true) : 1 ≤ d.k ∧ d.k ≤ 14 := by
  simp only [right, Bool.and_eq_true, decide_eq_true_eq] at h; exact h.1.1
theorem right_parts {d : D} (h : right d = true) : ∀ p ∈ parts d.k, p.lo ≤ d.get p.f ∧ d.get p.f ≤ p.hi := by
  simp only [right, Bool.and_eq_true, decide_eq_true_eq, List.all_eq_true] at h; exact h.1.2
theorem right_strip {d : D} (h : right d = true) : strip d = d := by
  simp only [right, Bool.and_eq_true, decide_eq_true_eq] at h; exact h.2
theorem parts_bd {k : Int} : ∀ p ∈ parts k, -1000000 ≤ p.lo ∧ p.hi ≤ 1000000 ∧ 1 ≤ p.f ∧ p.f ≤ 4 := by
  intro p hp
  by_cases h : 1 ≤ k ∧ k ≤ 14
  · revert p
    rcases kinds h with rfl | rfl | rfl | rfl | rfl | rfl | rfl | rfl | rfl | rfl | rfl | rfl | rfl | rfl <;> decide
  · have : parts k = [] := by unfold parts; repeat (rw [if_neg (by omega)])
    rw [this] at hp; cases hp
theorem read_parts (d : D) : ∀ (ps : List Pt) (x : D), (∀ p ∈ ps, -1000000 ≤ d.get p.f ∧ d.get p.f ≤ 1000000) →
    readParts ps (ps.map fun p => itoa (d.get p.f)) x = some (ps.foldl (fun x p => x.set p.f (d.get p.f)) x)
  | [], x, _ => rfl
  | p :: ps, x, h => by
    simp only [List.map_cons, readParts, atoi_itoa _ (h p (by simp)), List.foldl_cons]
    exact read_parts d ps _ (fun q hq => h q (by simp [hq]))
theorem print_split {d : D} (h : right d = true) : splitN (print d) sp 5 = word d.k :: (parts d.k).map fun p => itoa (d.get p.f) := by
  have hk := right_kind h
  have hl := word_len d.k hk
  unfold splitN print tail
  refine split_parts (fun p => d.get p.f) (parts d.k) _ (word d.k) (word_blank d.k hk) ?_
  have : 5 ≤ (word d.k ++ List.flatMap (fun p => 32 :: itoa (d.get p.f)) (parts d.k)).length := by
    rw [List.length_append]
    cases hp : parts d.k with
    | nil => have := hl.2.2.2 (by rw [hp]; rfl); omega
    | cons p ps =>
      simp only [List.flatMap_cons, List.length_append, List.length_cons]
      have := List.length_pos_iff.2 (itoa_ne_nil (d.get p.f))
      omega
  omega
theorem find_fits {k : Int} (hk : 1 ≤ k ∧ k ≤ 14) (n : Nat) (hn : (parts k).length = n) : ks.find? (fits (word k) n) = some k := by
  have h1 : fits (word k) n k = true := by simp [fits, hn]
  cases hf : ks.find? (fits (word k) n) with
  | none => exact absurd h1 (by simpa using List.find?_eq_none.1 hf k (mem_ks.2 hk))
  | some j =>
    have hj := List.find?_some hf
    have hm := List.mem_of_find?_eq_some hf
    simp only [fits, decide_eq_true_eq] at hj
    rw [word_inj (mem_ks.1 hm) hk hj.1]
/-- Parse tells just the right deed whose text it is. -/
theorem parse_iff (l : List UInt8) (d : D) : parse l = some d ↔ right d = true ∧ print d = l := by
  constructor
  · intro h
    unfold parse at h
    split at h
    · cases h
    · split at h
      · rename_i k _
        unfold ofKind at h
        split at h
        · split at h
          · rename_i hr
            injection h with h
            subst h
            exact hr
          · cases h
        · cases h
      · cases h
  · rintro ⟨hr, rfl⟩
    unfold parse
    rw [print_split hr]
    simp only []
    rw [find_fits (right_kind hr) _ (by simp)]
    simp only [ofKind]
    rw [read_parts d (parts d.k) (bare d.k) (fun p hp => by have := right_parts hr p hp; have := parts_bd p hp; omega)]
    simp only []
    have hs : (parts d.k).foldl (fun x p => x.set p.f (d.get p.f)) (bare d.k) = d := right_strip hr
    rw [hs, if_pos ⟨hr, rfl⟩]
theorem parse_print {d : D} (h : right d = true) : parse (print d) = some d := (parse_iff _ _).2 ⟨h, rfl⟩
theorem print_inj {d e : D} (hd : right d = true) (he : right e = true) (h : print d = print e) : d = e := by
  have := parse_print hd
  rw [h, parse_print he] at this
  injection this with this
  exact this.symm
theorem dec_len : ∀ (k u : Nat), u < 10 ^ (k + 1) → (decDigits u).length ≤ k + 1
  | 0, u, h => by
    rw [decDigits, dif_pos (by simpa using h)]; simp
  | k + 1, u, h => by
    rw [decDigits]
    split
    · simp
    · rw [List.length_append]
      have := dec_len k (u / 10) (by rw [Nat.pow_succ] at h; omega)
      simp; omega
theorem itoa_len (v : Int) (h : -1000000 ≤ v ∧ v ≤ 1000000) : (itoa v).length ≤ 8 := by
  unfold itoa
  split
  · have := dec_len 6 v.natAbs (by omega)
    simp; omega
  · have := dec_len 6 v.toNat (by omega)
    omega
end Go.Proofs.YtemohiainfllcaaGreat.Pg

/- Walks: a kind's word and parts (form), and whether a deed is right (Right). -/
namespace Go.Proofs.YtemohiainfllcaaGreat
open Go.RowKit
/-- The method that tells a field's place. -/
def pfn : Nat → Value
  | 1 => .func (.func 171) #[] #[]
  | 2 => .func (.func 172) #[] #[]
  | 3 => .func (.func 173) #[] #[]
  | _ => .func (.func 174) #[] #[]
def pcells (ps : List Pg.Pt) : List Value := ps.flatMap fun p => [pfn p.f, .int .i64 p.lo, .int .i64 p.hi]
/-- Parts in memory. -/
def PartsAt (w : World) (v : Value) (ps : List Pg.Pt) : Prop :=
  ps = [] ∧ v = .slice none 0 0 ∨ ∃ g, v = .slice (some ⟨g, 0, none⟩) ps.length ps.length ∧ Blk w g (pcells ps).toArray 192
def wordB (k : Int) : ByteArray := (Pg.wordS k).toUTF8
/-- What form tells. -/
def FormSaid (k : Int) (w : World) : Prop := Calls Tryz.prog 129 #[.int .i64 k] w fun e w' =>
    ∃ v, e = .returned (.tuple #[.string (wordB k), v]) ∧ PartsAt w' v (Pg.parts k) ∧ Below w.heap.size w w'
set_option maxHeartbeats 1000000 in
theorem form_1 (w : World) : FormSaid 1 w := by
  unfold FormSaid
  go_enter Tryz.func129, Tryz.ntmps129
  go_wp2
  go_region
  go_wp2
  go_ret2
  refine ⟨_, rfl, .inr ⟨_, rfl, Blk.new_at _ _ _ _ _ (by simp) rfl⟩, ?_⟩
  repeat (first | exact Below.refl _ _ | refine Below.drew ?_ | refine balloc ?_ _)
set_option maxHeartbeats 1000000 in
theorem form_2 (w : World) : FormSaid 2 w := by
  unfold FormSaid
  go_enter Tryz.func129, Tryz.ntmps129
  go_wp2
  go_region
  go_wp2
  go_ret2
  refine ⟨_, rfl, .inr ⟨_, rfl, Blk.new_at _ _ _ _ _ (by simp) rfl⟩, ?_⟩
  repeat (first | exact Below.refl _ _ | refine Below.drew ?_ | refine balloc ?_ _)
set_option maxHeartbeats 1000000 in
theorem form_3 (w : World) : FormSaid 3 w := by
  unfold FormSaid
  go_enter Tryz.func129, Tryz.ntmps129
  go_wp2
  go_region
  go_wp2
  go_ret2
  refine ⟨_, rfl, .inr ⟨_, rfl, Blk.new_at _ _ _ _ _ (by simp) rfl⟩, ?_⟩
  repeat (first | exact Below.refl _ _ | refine Below.drew ?_ | refine balloc ?_ _)
set_option maxHeartbeats 1000000 in
theorem form_4 (w : World) : FormSaid 4 w := by
  unfold FormSaid
  go_enter Tryz.func129, Tryz.ntmps129
  go_wp2
  go_region
  go_wp2
  go_ret2
  refine ⟨_, rfl, .inr ⟨_, rfl, Blk.new_at _ _ _ _ _ (by simp) rfl⟩, ?_⟩
  repeat (first | exact Below.refl _ _ | refine Below.drew ?_ | refine balloc ?_ _)
set_option maxHeartbeats 1000000 in
theorem form_5 (w : World) : FormSaid 5 w := by
  unfold FormSaid
  go_enter Tryz.func129, Tryz.ntmps129
  go_wp2
  go_region
  go_wp2
  go_ret2
  refine ⟨_, rfl, .inr ⟨_, rfl, Blk.new_at _ _ _ _ _ (by simp) rfl⟩, ?_⟩
  repeat (first | exact Below.refl _ _ | refine Below.drew ?_ | refine balloc ?_ _)
set_option maxHeartbeats 1000000 in
theorem form_6 (w : World) : FormSaid 6 w := by
  unfold FormSaid
  go_enter Tryz.func129, Tryz.ntmps129
  go_wp2
  go_region
  go_wp2
  go_ret2
  refine ⟨_, rfl, .inr ⟨_, rfl, Blk.new_at _ _ _ _ _ (by simp) rfl⟩, ?_⟩
  repeat (first | exact Below.refl _ _ | refine Below.drew ?_ | refine balloc ?_ _)
set_option maxHeartbeats 1000000 in
theorem form_7 (w : World) : FormSaid 7 w := by
  unfold FormSaid
  go_enter Tryz.func129, Tryz.ntmps129
  go_wp2
  go_region
  go_wp2
  go_ret2
  refine ⟨_, rfl, .inr ⟨_, rfl, Blk.new_at _ _ _ _ _ (by simp) rfl⟩, ?_⟩
  repeat (first | exact Below.refl _ _ | refine Below.drew ?_ | refine balloc ?_ _)
set_option maxHeartbeats 1000000 in
theorem form_8 (w : World) : FormSaid 8 w := by
  unfold FormSaid
  go_enter Tryz.func129, Tryz.ntmps129
  go_wp2
  go_region
  go_wp2
  go_ret2
  refine ⟨_, rfl, .inr ⟨_, rfl, Blk.new_at _ _ _ _ _ (by simp) rfl⟩, ?_⟩
  repeat (first | exact Below.refl _ _ | refine Below.drew ?_ | refine balloc ?_ _)
set_option maxHeartbeats 1000000 in
theorem form_9 (w : World) : FormSaid 9 w := by
  unfold FormSaid
  go_enter Tryz.func129, Tryz.ntmps129
  go_wp2
  go_region
  go_wp2
  go_ret2
  refine ⟨_, rfl, .inr ⟨_, rfl, Blk.new_at _ _ _ _ _ (by simp) rfl⟩, ?_⟩
  repeat (first | exact Below.refl _ _ | refine Below.drew ?_ | refine balloc ?_ _)
set_option maxHeartbeats 1000000 in
theorem form_10 (w : World) : FormSaid 10 w := by
  unfold FormSaid
  go_enter Tryz.func129, Tryz.ntmps129
  go_wp2
  go_region
  go_wp2
  go_ret2
  refine ⟨_, rfl, .inr ⟨_, rfl, Blk.new_at _ _ _ _ _ (by simp) rfl⟩, ?_⟩
  repeat (first | exact Below.refl _ _ | refine Below.drew ?_ | refine balloc ?_ _)
set_option maxHeartbeats 1000000 in
theorem form_11 (w : World) : FormSaid 11 w := by
  unfold FormSaid
  go_enter Tryz.func129, Tryz.ntmps129
  go_wp2
  go_region
  go_wp2
  go_ret2
  refine ⟨_, rfl, .inr ⟨_, rfl, Blk.new_at _ _ _ _ _ (by simp) rfl⟩, ?_⟩
  repeat (first | exact Below.refl _ _ | refine Below.drew ?_ | refine balloc ?_ _)
set_option maxHeartbeats 1000000 in
theorem form_12 (w : World) : FormSaid 12 w := by
  unfold FormSaid
  go_enter Tryz.func129, Tryz.ntmps129
  go_wp2
  go_region
  go_wp2
  go_ret2
  refine ⟨_, rfl, .inr ⟨_, rfl, Blk.new_at _ _ _ _ _ (by simp) rfl⟩, ?_⟩
  repeat (first | exact Below.refl _ _ | refine Below.drew ?_ | refine balloc ?_ _)
set_option maxHeartbeats 1000000 in
theorem form_13 (w : World) : FormSaid 13 w := by
  unfold FormSaid
  go_enter Tryz.func129, Tryz.ntmps129
  go_wp2
  go_region
  go_wp2
  go_ret2
  refine ⟨_, rfl, .inr ⟨_, rfl, Blk.new_at _ _ _ _ _ (by simp) rfl⟩, ?_⟩
  repeat (first | exact Below.refl _ _ | refine Below.drew ?_ | refine balloc ?_ _)
set_option maxHeartbeats 1000000 in
theorem form_14 (w : World) : FormSaid 14 w := by
  unfold FormSaid
  go_enter Tryz.func129, Tryz.ntmps129
  go_wp2
  go_wp2
  go_ret2
  refine ⟨_, rfl, .inl ⟨rfl, rfl⟩, ?_⟩
  repeat (first | exact Below.refl _ _ | refine Below.drew ?_ | refine balloc ?_ _)
set_option maxHeartbeats 1000000 in
theorem form_none (k : Int) (hk : k < 1 ∨ 14 < k) (w : World) : FormSaid k w := by
  have hw : wordB k = ⟨#[]⟩ := by
    unfold wordB Pg.wordS
    repeat (rw [if_neg (by omega)])
    rfl
  have hp : Pg.parts k = [] := by
    unfold Pg.parts
    repeat (rw [if_neg (by omega)])
  unfold FormSaid
  rw [hw, hp]
  clear hw hp
  have n1 : (k == 1) = false := beq_eq_false_iff_ne.2 (by omega)
  have n2 : (k == 2) = false := beq_eq_false_iff_ne.2 (by omega)
  have n3 : (k == 3) = false := beq_eq_false_iff_ne.2 (by omega)
  have n4 : (k == 4) = false := beq_eq_false_iff_ne.2 (by omega)
  have n5 : (k == 5) = false := beq_eq_false_iff_ne.2 (by omega)
  have n6 : (k == 6) = false := beq_eq_false_iff_ne.2 (by omega)
  have n7 : (k == 7) = false := beq_eq_false_iff_ne.2 (by omega)
  have n8 : (k == 8) = false := beq_eq_false_iff_ne.2 (by omega)
  have n9 : (k == 9) = false := beq_eq_false_iff_ne.2 (by omega)
  have n10 : (k == 10) = false := beq_eq_false_iff_ne.2 (by omega)
  have n11 : (k == 11) = false := beq_eq_false_iff_ne.2 (by omega)
  have n12 : (k == 12) = false := beq_eq_false_iff_ne.2 (by omega)
  have n13 : (k == 13) = false := beq_eq_false_iff_ne.2 (by omega)
  have n14 : (k == 14) = false := beq_eq_false_iff_ne.2 (by omega)
  clear hk
  go_enter Tryz.func129, Tryz.ntmps129
  go_wp2
  go_ret2
  refine ⟨_, rfl, .inl ⟨rfl, rfl⟩, ?_⟩
  repeat (first | exact Below.refl _ _ | refine Below.drew ?_ | refine balloc ?_ _)
theorem form_any (k : Int) (w : World) : FormSaid k w := by
  by_cases h : 1 ≤ k ∧ k ≤ 14
  · rcases Pg.kinds h with rfl | rfl | rfl | rfl | rfl | rfl | rfl | rfl | rfl | rfl | rfl | rfl | rfl | rfl
    · exact form_1 w
    · exact form_2 w
    · exact form_3 w
    · exact form_4 w
    · exact form_5 w
    · exact form_6 w
    · exact form_7 w
    · exact form_8 w
    · exact form_9 w
    · exact form_10 w
    · exact form_11 w
    · exact form_12 w
    · exact form_13 w
    · exact form_14 w
  · exact form_none k (by omega) w
end Go.Proofs.YtemohiainfllcaaGreat

/- Walk: whether a deed is right (Right). -/
namespace Go.Proofs.YtemohiainfllcaaGreat
open Go.RowKit
/-- A deed's five cells. -/
def dcells (d : Pg.D) : Array Value := #[.int .i64 d.k, .int .i64 d.a, .int .i64 d.b, .int .i64 d.i, .int .i64 d.n]
theorem wordB_some {k : Int} (h : 1 ≤ k ∧ k ≤ 14) : (wordB k).toList.isEmpty = false := by
  rcases Pg.kinds h with rfl | rfl | rfl | rfl | rfl | rfl | rfl | rfl | rfl | rfl | rfl | rfl | rfl | rfl <;> decide +kernel
theorem pcells_at : ∀ (ps : List Pg.Pt) (j : Nat) (p : Pg.Pt), ps[j]? = some p →
    (pcells ps)[j * 3]? = some (pfn p.f) ∧ (pcells ps)[j * 3 + 1]? = some (.int .i64 p.lo) ∧ (pcells ps)[j * 3 + 2]? = some (.int .i64 p.hi)
  | [], j, p, h => by simp at h
  | q :: ps, 0, p, h => by
    simp only [List.getElem?_cons_zero, Option.some.injEq] at h
    subst h
    exact ⟨rfl, rfl, rfl⟩
  | q :: ps, j + 1, p, h => by
    have ih := pcells_at ps j p (by simpa using h)
    have e : pcells (q :: ps) = [pfn q.f, .int .i64 q.lo, .int .i64 q.hi] ++ pcells ps := rfl
    rw [e, show (j + 1) * 3 = j * 3 + 3 from by omega]
    refine ⟨?_, ?_, ?_⟩
    · rw [List.getElem?_append_right (by simp)]; simpa using ih.1
    · rw [List.getElem?_append_right (by simp)]; simpa using ih.2.1
    · rw [List.getElem?_append_right (by simp)]; simpa using ih.2.2
/-- What the loop has made of the bare deed. -/
def Pg.pre (d : Pg.D) (ps : List Pg.Pt) : Pg.D := ps.foldl (fun x p => x.set p.f (d.get p.f)) (Pg.bare d.k)
theorem pre_snoc (d : Pg.D) (ps : List Pg.Pt) (p : Pg.Pt) : Pg.pre d (ps ++ [p]) = (Pg.pre d ps).set p.f (d.get p.f) := by simp [Pg.pre]
theorem set_k (d : Pg.D) (f : Nat) (v : Int) : (d.set f v).k = d.k := by unfold Pg.D.set; split <;> rfl
theorem fold_k (d : Pg.D) : ∀ (ps : List Pg.Pt) (x : Pg.D), (ps.foldl (fun x p => x.set p.f (d.get p.f)) x).k = x.k
  | [], _ => rfl
  | p :: ps, x => by rw [List.foldl_cons, fold_k d ps, set_k]
theorem pre_k (d : Pg.D) (ps : List Pg.Pt) : (Pg.pre d ps).k = d.k := fold_k d ps _
theorem dcells_set (x : Pg.D) (v : Int) : dcells (x.set 1 v) = (dcells x).setIfInBounds 1 (.int .i64 v) ∧ dcells (x.set 2 v) = (dcells x).setIfInBounds 2 (.int .i64 v)
    ∧ dcells (x.set 3 v) = (dcells x).setIfInBounds 3 (.int .i64 v) ∧ dcells (x.set 4 v) = (dcells x).setIfInBounds 4 (.int .i64 v) := ⟨rfl, rfl, rfl, rfl⟩
theorem right_false {d : Pg.D} {p : Pg.Pt} (hp : p ∈ Pg.parts d.k) (h : d.get p.f < p.lo ∨ p.hi < d.get p.f) : Pg.right d = false := by
  cases hr : Pg.right d with
  | false => rfl
  | true => have := Pg.right_parts hr p hp; omega
theorem right_end {d : Pg.D} (hk : 1 ≤ d.k ∧ d.k ≤ 14) (h : ∀ p ∈ Pg.parts d.k, p.lo ≤ d.get p.f ∧ d.get p.f ≤ p.hi) : Pg.right d = decide (Pg.strip d = d) := by
  have h1 : decide (1 ≤ d.k ∧ d.k ≤ 14) = true := decide_eq_true hk
  have h2 : (Pg.parts d.k).all (fun p => decide (p.lo ≤ d.get p.f ∧ d.get p.f ≤ p.hi)) = true := by
    rw [List.all_eq_true]; exact fun p hp => decide_eq_true (h p hp)
  unfold Pg.right
  rw [h1, h2]; rfl
theorem take_snoc' {α : Type} (l : List α) (j : Nat) (p : α) (h : l[j]? = some p) : l.take (j + 1) = l.take j ++ [p] := by
  rw [List.take_add_one, h]; rfl
set_option maxHeartbeats 2000000 in
theorem right_some (k a b i n : Int) (hk : 1 ≤ k ∧ k ≤ 14) (w : World) : Calls Tryz.prog 75 #[.agg #[.int .i64 k, .int .i64 a, .int .i64 b, .int .i64 i, .int .i64 n]] w fun e w' =>
    e = .returned (.bool (Pg.right ⟨k, a, b, i, n⟩)) ∧ Below w.heap.size w w' := by
  have hwd := wordB_some hk
  go_enter Tryz.func75, Tryz.ntmps75
  go_wp2_with fail
  refine (form_any k _).mono ?_
  rintro e w1 ⟨v, rfl, hp, hb⟩
  have hB : Blk w1 w.heap.size (dcells ⟨k, a, b, i, n⟩) 52 := (Blk.new w _ _).below hb (by simp)
  have c1 := hB.cell
  have s1 := hB.lt
  simp only [dcells] at c1
  go_upto_region 4 with fail
  go_cut [5, 6] (fun vh vb wx => ∃ H B, vh = .pointer (some ⟨H, 0, none⟩) ∧ vb = .pointer (some ⟨B, 0, none⟩) ∧ H ≠ B ∧ w1.heap.size ≤ H ∧ w1.heap.size ≤ B ∧ Blk wx H (dcells ⟨k, a, b, i, n⟩) 189 ∧ Blk wx B (dcells (Pg.bare k)) 189 ∧ Below w1.heap.size w1 wx)
  case first =>
    go_region
    · go_wp2_with fail
      go_meet
      exact ⟨_, _, rfl, rfl, by omega, by omega, by omega, (Blk.new_at _ _ _ _ _ (by simp) rfl).alloc _, Blk.new_at _ _ _ _ _ (by simp) rfl, Below.drew (balloc (balloc (Below.refl _ _) _) _)⟩
    · go_wp2_with fail
      go_meet
      exact ⟨_, _, rfl, rfl, by omega, by omega, by omega, Blk.new_at _ _ _ _ _ (by simp) rfl, (Blk.new_at _ _ _ _ _ (by simp) rfl).alloc _, Below.drew (balloc (balloc (Below.refl _ _) _) _)⟩
  case rest =>
    obtain ⟨H, B, rfl, rfl, hne, hH, hBl, kH, kB, hb2⟩ := hcut
    have hle : w.heap.size < w1.heap.size := by have := hB.lt; omega
    rcases hp with ⟨hp, rfl⟩ | ⟨g, rfl, hg⟩
    · have hbw : Below w.heap.size w wc := btrans (btrans (balloc (Below.refl _ _) _) hb) hb2
      have hx : Pg.strip ⟨k, a, b, i, n⟩ = Pg.bare k := by unfold Pg.strip; rw [show (⟨k, a, b, i, n⟩ : Pg.D).k = k from rfl, hp]; rfl
      have hf : Pg.right ⟨k, a, b, i, n⟩ = decide ((⟨k, 0, 0, 0, 0⟩ : Pg.D) = ⟨k, a, b, i, n⟩) := by
        rw [right_end hk (fun p hq => by rw [show Pg.parts k = [] from hp] at hq; cases hq), hx]; rfl
      have HF := Lib.hid hf
      clear hf
      have cH := kH.cell
      have sH := kH.lt
      have sB := kB.lt
      have cB := kB.cell
      simp only [dcells, Pg.bare] at cH cB
      clear hx hp
      go_wp2_with fail
      refine wp_loop_rounds 1 ?_; rw [rounds_succ]
      go_wp2
      all_goals
        go_ret
        refine ⟨?_, hbw⟩
        rw [HF.out]
        first | (simp [*]; done) | (simp [*]; intros; omega)
    · have hg' := hg.below hb2 hg.lt
      have hsg := hg.lt
      have hbw : Below w.heap.size w wc := btrans (btrans (balloc (Below.refl _ _) _) hb) hb2
      have hlen : (Pg.parts k).length ≤ 3 := (Pg.word_len k hk).2.2.1
      have hfs : ∀ p ∈ Pg.parts k, p.f = 1 ∨ p.f = 2 ∨ p.f = 3 ∨ p.f = 4 := fun p hp => by have := Pg.parts_bd p hp; omega
      generalize hps : Pg.parts k = ps at *
      have HPS := Lib.hid hps
      clear hps
      go_wp2_with fail
      go_loopw [24, 8, 9] (fun ix _ _ wr => ∃ j : Nat, ix = .int .i64 j ∧ j ≤ ps.length ∧ Blk wr H (dcells ⟨k, a, b, i, n⟩) 189 ∧ Blk wr B (dcells (Pg.pre ⟨k, a, b, i, n⟩ (ps.take j))) 189 ∧ (∀ p ∈ ps.take j, p.lo ≤ (⟨k, a, b, i, n⟩ : Pg.D).get p.f ∧ (⟨k, a, b, i, n⟩ : Pg.D).get p.f ≤ p.hi) ∧ Blk wr g (pcells ps).toArray 192 ∧ Below w.heap.size w wr) (fun ix _ _ _ => ps.length - (intOf ix).toNat)
      case atStart => exact ⟨0, rfl, by omega, kH, kB, by simp, hg', hbw⟩
      case round =>
        obtain ⟨j, rfl, hj, jH, jB, hall, jg, hbr⟩ := hrel
        by_cases hlt : j < ps.length
        · obtain ⟨p, hpj⟩ : ∃ p, ps[j]? = some p := ⟨ps[j], List.getElem?_eq_getElem hlt⟩
          have hsn := take_snoc' ps j p hpj
          have hps := pre_snoc ⟨k, a, b, i, n⟩ (ps.take j) p
          rw [← hsn] at hps
          have hpf := hfs p (List.mem_of_getElem? hpj)
          have hat := pcells_at ps j p hpj
          have hsnm : ∀ q ∈ ps.take (j + 1), q ∈ ps.take j ∨ q = p := by rw [hsn]; simp
          have HPP := Lib.hid hps
          clear hps hsn
          obtain ⟨f, lo, hi⟩ := p
          simp only at hpf hat
          have q0 := (jg.cell (j * 3)).trans (by simpa using hat.1)
          have q1 := (jg.cell (j * 3 + 1)).trans (by simpa using hat.2.1)
          have q2 := (jg.cell (j * 3 + 2)).trans (by simpa using hat.2.2)
          have cH := jH.cell
          have sH := jH.lt
          have sB := jB.lt
          have zB := jB.free
          have cB : ∃ x1 x2 x3 x4, ∀ i, wr.cell? ⟨B, i, none⟩ = #[Value.int .i64 k, Value.int .i64 x1, Value.int .i64 x2, Value.int .i64 x3, Value.int .i64 x4][i]? := by
            obtain ⟨x, hx⟩ : ∃ x, x = Pg.pre ⟨k, a, b, i, n⟩ (ps.take j) := ⟨_, rfl⟩
            have hxk : x.k = k := by rw [hx]; exact pre_k _ _
            have := jB.cell
            rw [← hx] at this
            exact ⟨x.a, x.b, x.i, x.n, by rw [← hxk]; exact this⟩
          obtain ⟨x1, x2, x3, x4, cB⟩ := cB
          simp only [dcells] at cH
          clear hat hg hg' kH kB
          rcases hpf with rfl | rfl | rfl | rfl
          all_goals simp only [pfn] at q0
          · have hno : a < lo ∨ hi < a → Pg.right ⟨k, a, b, i, n⟩ = false := fun h => right_false (p := ⟨1, lo, hi⟩) (by show _ ∈ Pg.parts k; rw [HPS.out]; exact List.mem_of_getElem? hpj) h
            have HNO := Lib.hid hno
            clear hno
            go_wp2
            · have h : a < lo ∨ hi < a := by assumption
              go_ret
              rw [HNO.out h]
              exact ⟨rfl, balloc hbr _⟩
            · have h : lo ≤ a ∧ a ≤ hi := by assumption
              go_roundw
              case rel =>
                refine ⟨j + 1, by go_num, by omega, (jH.set_other (a := ⟨B, 1, none⟩) hne _).alloc _, ?_, ?_, (jg.set_other (a := ⟨B, 1, none⟩) (by simp; omega) _).alloc _, balloc (bset hbr (by simp; omega) _) _⟩
                · rw [HPP.out]
                  exact (jB.set 1 _).alloc _
                · intro q hq
                  rcases hsnm q hq with hq | rfl
                  · exact hall q hq
                  · exact h
              case measure => simp [intOf]; omega
            · have h : a < lo := by assumption
              go_ret
              rw [HNO.out (.inl h)]
              exact ⟨rfl, balloc hbr _⟩
          · have hno : b < lo ∨ hi < b → Pg.right ⟨k, a, b, i, n⟩ = false := fun h => right_false (p := ⟨2, lo, hi⟩) (by show _ ∈ Pg.parts k; rw [HPS.out]; exact List.mem_of_getElem? hpj) h
            have HNO := Lib.hid hno
            clear hno
            go_wp2
            · have h : b < lo ∨ hi < b := by assumption
              go_ret
              rw [HNO.out h]
              exact ⟨rfl, balloc hbr _⟩
            · have h : lo ≤ b ∧ b ≤ hi := by assumption
              go_roundw
              case rel =>
                refine ⟨j + 1, by go_num, by omega, (jH.set_other (a := ⟨B, 2, none⟩) hne _).alloc _, ?_, ?_, (jg.set_other (a := ⟨B, 2, none⟩) (by simp; omega) _).alloc _, balloc (bset hbr (by simp; omega) _) _⟩
                · rw [HPP.out]
                  exact (jB.set 2 _).alloc _
                · intro q hq
                  rcases hsnm q hq with hq | rfl
                  · exact hall q hq
                  · exact h
              case measure => simp [intOf]; omega
            · have h : b < lo := by assumption
              go_ret
              rw [HNO.out (.inl h)]
              exact ⟨rfl, balloc hbr _⟩
          · have hno : i < lo ∨ hi < i → Pg.right ⟨k, a, b, i, n⟩ = false := fun h => right_false (p := ⟨3, lo, hi⟩) (by show _ ∈ Pg.parts k; rw [HPS.out]; exact List.mem_of_getElem? hpj) h
            have HNO := Lib.hid hno
            clear hno
            go_wp2
            · have h : i < lo ∨ hi < i := by assumption
              go_ret
              rw [HNO.out h]
              exact ⟨rfl, balloc hbr _⟩
            · have h : lo ≤ i ∧ i ≤ hi := by assumption
              go_roundw
              case rel =>
                refine ⟨j + 1, by go_num, by omega, (jH.set_other (a := ⟨B, 3, none⟩) hne _).alloc _, ?_, ?_, (jg.set_other (a := ⟨B, 3, none⟩) (by simp; omega) _).alloc _, balloc (bset hbr (by simp; omega) _) _⟩
                · rw [HPP.out]
                  exact (jB.set 3 _).alloc _
                · intro q hq
                  rcases hsnm q hq with hq | rfl
                  · exact hall q hq
                  · exact h
              case measure => simp [intOf]; omega
            · have h : i < lo := by assumption
              go_ret
              rw [HNO.out (.inl h)]
              exact ⟨rfl, balloc hbr _⟩
          · have hno : n < lo ∨ hi < n → Pg.right ⟨k, a, b, i, n⟩ = false := fun h => right_false (p := ⟨4, lo, hi⟩) (by show _ ∈ Pg.parts k; rw [HPS.out]; exact List.mem_of_getElem? hpj) h
            have HNO := Lib.hid hno
            clear hno
            go_wp2
            · have h : n < lo ∨ hi < n := by assumption
              go_ret
              rw [HNO.out h]
              exact ⟨rfl, balloc hbr _⟩
            · have h : lo ≤ n ∧ n ≤ hi := by assumption
              go_roundw
              case rel =>
                refine ⟨j + 1, by go_num, by omega, (jH.set_other (a := ⟨B, 4, none⟩) hne _).alloc _, ?_, ?_, (jg.set_other (a := ⟨B, 4, none⟩) (by simp; omega) _).alloc _, balloc (bset hbr (by simp; omega) _) _⟩
                · rw [HPP.out]
                  exact (jB.set 4 _).alloc _
                · intro q hq
                  rcases hsnm q hq with hq | rfl
                  · exact hall q hq
                  · exact h
              case measure => simp [intOf]; omega
            · have h : n < lo := by assumption
              go_ret
              rw [HNO.out (.inl h)]
              exact ⟨rfl, balloc hbr _⟩
        · obtain rfl : j = ps.length := by omega
          rw [List.take_length] at jB hall
          have cH := jH.cell
          have sH := jH.lt
          have sB := jB.lt
          have cB := jB.cell
          have hx : (Pg.pre ⟨k, a, b, i, n⟩ ps) = Pg.strip ⟨k, a, b, i, n⟩ := by unfold Pg.strip; rw [show (⟨k, a, b, i, n⟩ : Pg.D).k = k from rfl, HPS.out]; rfl
          have hxk : (Pg.pre ⟨k, a, b, i, n⟩ ps).k = k := pre_k _ _
          generalize Pg.pre ⟨k, a, b, i, n⟩ ps = x at *
          obtain ⟨xk, x1, x2, x3, x4⟩ := x
          obtain rfl : k = xk := hxk.symm
          have hf : Pg.right ⟨k, a, b, i, n⟩ = decide ((⟨k, x1, x2, x3, x4⟩ : Pg.D) = ⟨k, a, b, i, n⟩) := by
            rw [right_end hk (fun p hp => hall p (by rw [← HPS.out]; exact hp)), hx]
          have HF := Lib.hid hf
          clear hf
          simp only [dcells] at cH cB
          clear hx hall hg hg' kH kB
          clear HPS
          have hc : (a = x1 ∧ b = x2 ∧ i = x3 ∧ n = x4) ∨ ¬ a = x1 ∨ (a = x1 ∧ ¬ b = x2) ∨ (a = x1 ∧ b = x2 ∧ ¬ i = x3) ∨ (a = x1 ∧ b = x2 ∧ i = x3 ∧ ¬ n = x4) := by omega
          rcases hc with ⟨rfl, rfl, rfl, rfl⟩ | h | ⟨rfl, h⟩ | ⟨rfl, rfl, h⟩ | ⟨rfl, rfl, rfl, h⟩
          · go_wp2
            go_ret
            refine ⟨?_, hbr⟩
            rw [HF.out]
            simp
          all_goals
            have h' := beq_eq_false_iff_ne.2 h
            go_wp2
            go_ret
            refine ⟨?_, hbr⟩
            rw [HF.out]
            simp [Ne.symm h]
theorem right_none (k a b i n : Int) (hk : ¬ (1 ≤ k ∧ k ≤ 14)) (w : World) : Calls Tryz.prog 75 #[.agg #[.int .i64 k, .int .i64 a, .int .i64 b, .int .i64 i, .int .i64 n]] w fun e w' =>
    e = .returned (.bool (Pg.right ⟨k, a, b, i, n⟩)) ∧ Below w.heap.size w w' := by
  have hw : wordB k = ⟨#[]⟩ := by
    unfold wordB Pg.wordS
    repeat (rw [if_neg (by omega)])
    rfl
  have hf : Pg.right ⟨k, a, b, i, n⟩ = false := by
    unfold Pg.right
    rw [show decide (1 ≤ (⟨k, a, b, i, n⟩ : Pg.D).k ∧ (⟨k, a, b, i, n⟩ : Pg.D).k ≤ 14) = false from decide_eq_false hk]
    rfl
  have hwd : (wordB k).toList.isEmpty = true := by rw [hw]; decide +kernel
  rw [hf]
  clear hf hw
  go_enter Tryz.func75, Tryz.ntmps75
  go_wp2_with fail
  refine (form_any k _).mono ?_
  rintro e w1 ⟨v, rfl, hp, hb⟩
  go_wp2_with fail
  go_ret
  exact ⟨rfl, btrans (balloc (Below.refl _ _) _) hb⟩
/-- Whether a deed is right. -/
theorem right_any (k a b i n : Int) (w : World) : Calls Tryz.prog 75 #[.agg #[.int .i64 k, .int .i64 a, .int .i64 b, .int .i64 i, .int .i64 n]] w fun e w' =>
    e = .returned (.bool (Pg.right ⟨k, a, b, i, n⟩)) ∧ Below w.heap.size w w' := by
  by_cases h : 1 ≤ k ∧ k ≤ 14
  · exact right_some k a b i n h w
  · exact right_none k a b i n h w
end Go.Proofs.YtemohiainfllcaaGreat

/- Walks (turned from wip/program/PgFit): pick and Fit of the statements: of a raw deed, a right one. -/
namespace Go.Proofs.YtemohiainfllcaaGreat
open Go.RowKit
/-- Which of n things a raw number speaks of. -/
def pkz (c n : Int) : Int := (if c < 0 then -(c + 1) else c) % n
theorem pkz_lo (c n : Int) (hn : 0 < n) : 0 ≤ pkz c n := by unfold pkz; exact Int.emod_nonneg _ (by omega)
theorem pkz_hi (c n : Int) (hn : 0 < n) : pkz c n < n := by unfold pkz; exact Int.emod_lt_of_pos _ hn
/-- An int of Go. -/
def Z64 (c : Int) : Prop := -9223372036854775808 ≤ c ∧ c ≤ 9223372036854775807
theorem pick15_any (c n : Int) (w : World) (hn : 0 < n) (hn2 : n ≤ 100000000000) (hc : Z64 c) :
    Calls Tryz.prog 124 #[.int .i64 c, .int .i64 n] w fun e w' => e = .returned (.int .i64 (pkz c n)) ∧ w = w' := by
  obtain ⟨hc1, hc2⟩ := hc
  rcases Int.lt_or_le c 0 with h | h
  · have e : pkz c n = -(c + 1).tmod n := by
      unfold pkz; rw [if_pos h, ← Int.neg_tmod, Int.tmod_eq_emod_of_nonneg (by omega)]
    rw [e]; clear e
    go_enter Tryz.func124, Tryz.ntmps124
    go_wp2
    go_ret
    exact ⟨rfl, rfl⟩
  · have e : pkz c n = c % n := by unfold pkz; rw [if_neg (by omega)]
    rw [e]; clear e
    go_enter Tryz.func124, Tryz.ntmps124
    go_wp2
    go_ret
    exact ⟨rfl, rfl⟩
/-- Of a raw deed, a right one. -/
def fitK (k a b i n : Int) : Pg.D :=
  if k = 1 ∨ k = 2 then ⟨k, pkz a 6, 0, pkz i 5, pkz n 5⟩
  else if k = 3 ∨ k = 9 ∨ k = 11 ∨ k = 12 then ⟨k, pkz a 6, pkz b 6, 0, 0⟩
  else if k = 4 ∨ k = 5 then ⟨k, pkz a 6, pkz b 6, pkz i 8, 0⟩
  else if k = 6 then ⟨k, pkz a 6, 0, pkz i 8, 0⟩
  else if k = 7 then ⟨k, pkz a 6, 0, pkz i 8, pkz n 2000001 - 1000000⟩
  else if k = 14 then ⟨k, 0, 0, 0, 0⟩
  else ⟨k, pkz a 6, 0, 0, 0⟩
def fit (d : Pg.D) : Pg.D := fitK (1 + pkz d.k 14) d.a d.b d.i d.n
theorem fit_right (d : Pg.D) : Pg.right (fit d) = true := by
  have h1 := pkz_lo d.k 14 (by omega)
  have h2 := pkz_hi d.k 14 (by omega)
  unfold fit
  generalize hk : 1 + pkz d.k 14 = k
  have hk' : 1 ≤ k ∧ k ≤ 14 := by omega
  clear hk h1 h2
  have a1 := pkz_lo d.a 6 (by omega)
  have a2 := pkz_hi d.a 6 (by omega)
  have b1 := pkz_lo d.b 6 (by omega)
  have b2 := pkz_hi d.b 6 (by omega)
  have i1 := pkz_lo d.i 5 (by omega)
  have i2 := pkz_hi d.i 5 (by omega)
  have j1 := pkz_lo d.i 8 (by omega)
  have j2 := pkz_hi d.i 8 (by omega)
  have n1 := pkz_lo d.n 5 (by omega)
  have n2 := pkz_hi d.n 5 (by omega)
  have v1 := pkz_lo d.n 2000001 (by omega)
  have v2 := pkz_hi d.n 2000001 (by omega)
  rcases Pg.kinds hk' with rfl | rfl | rfl | rfl | rfl | rfl | rfl | rfl | rfl | rfl | rfl | rfl | rfl | rfl
  all_goals
    simp [fitK, Pg.right, Pg.parts, Pg.strip, Pg.pa, Pg.pb, Pg.pf, Pg.ps, Pg.pn, Pg.pv, Pg.D.get, Pg.D.set, Pg.bare]
    try omega
set_option maxHeartbeats 2000000 in
theorem fit_any (d : Pg.D) (hk : Z64 d.k) (ha : Z64 d.a) (hb : Z64 d.b) (hi : Z64 d.i) (hn : Z64 d.n) (w : World) :
    Calls Tryz.prog 68 #[.agg (dcells d)] w fun e w' => e = .returned (.agg (dcells (fit d))) ∧ Below w.heap.size w w' := by
  obtain ⟨rk, a, b, i, n⟩ := d
  simp only [fit] at *
  have h1 := pkz_lo rk 14 (by omega)
  have h2 := pkz_hi rk 14 (by omega)
  have hh : ∃ k, k = 1 + pkz rk 14 ∧ 1 ≤ k ∧ k ≤ 14 := ⟨_, rfl, by omega, by omega⟩
  obtain ⟨k, hke, hk1⟩ := hh
  rw [← hke]
  have hpk : pkz rk 14 = k - 1 := by omega
  have HPK := Lib.hid hpk
  clear hke h1 h2 hpk
  have v1 := pkz_lo n 2000001 (by omega)
  have v2 := pkz_hi n 2000001 (by omega)
  simp only [dcells]
  rcases Pg.kinds hk1 with rfl | rfl | rfl | rfl | rfl | rfl | rfl | rfl | rfl | rfl | rfl | rfl | rfl | rfl
  all_goals
    clear hk1
    go_enter Tryz.func68, Tryz.ntmps68
    go_wp2_with fail
    refine (pick15_any _ _ _ (by omega) (by omega) hk).mono ?_
    rw [HPK.out]
    rintro e w' ⟨rfl, rfl⟩
    go_wp2_with (first | (go_at_call 124; refine (pick15_any _ _ _ (by omega) (by omega) (by assumption)).mono ?_; rintro e w' ⟨rfl, rfl⟩) | fail)
    refine bodyPost_ret (v := .agg (dcells (fitK _ _ _ _ _))) (by simp [results, Tryz.results68, go_sem, dcells, fitK]) rfl ⟨rfl, ?_⟩
    repeat (first | exact Below.refl _ _ | refine balloc ?_ _ | refine bset ?_ (by simp; try omega) _)
end Go.Proofs.YtemohiainfllcaaGreat
