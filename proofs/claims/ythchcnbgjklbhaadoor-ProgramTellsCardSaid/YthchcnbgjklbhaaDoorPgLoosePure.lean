/- Plain laws: a text with a blank more is no right deed's; a text's pieces as lists of bytes. -/
import Derived.Test.YthchcnbgjklbhaaDoorPgBack
namespace Go.Proofs.YthchcnbgjklbhaaDoor
open Go.RowKit
namespace Pg
def nb (c : UInt8) : Bool := c != 32
theorem tw_take : ∀ (l : List UInt8) (n : Nat), ∃ r, l.takeWhile nb = (l.take n).takeWhile nb ++ r
  | [], n => ⟨[], by simp⟩
  | c :: l, 0 => ⟨_, by simp; rfl⟩
  | c :: l, n + 1 => by
    obtain ⟨r, hr⟩ := tw_take l n
    simp only [List.take_succ_cons, List.takeWhile_cons]
    cases nb c
    · exact ⟨[], by simp⟩
    · exact ⟨r, by simp [hr]⟩
theorem tw_blank (r : List UInt8) : ∀ (l : List UInt8), (l ++ 32 :: r).takeWhile nb = l.takeWhile nb
  | [] => rfl
  | c :: l => by
    simp only [List.cons_append, List.takeWhile_cons, tw_blank r l]
theorem tw_all : ∀ (l : List UInt8), (∀ c ∈ l, c ≠ 32) → l.takeWhile nb = l ∧ l.count 32 = 0
  | [], _ => ⟨rfl, rfl⟩
  | c :: l, h => by
    have h1 := h c (.head _)
    obtain ⟨e1, e2⟩ := tw_all l fun x hx => h x (.tail _ hx)
    have hn : nb c = true := by simp [nb, h1]
    refine ⟨by rw [List.takeWhile_cons, hn, if_pos rfl, e1], ?_⟩
    rw [List.count_cons_of_ne (by simpa using h1), e2]
theorem count_tail (g : Pt → List UInt8) (hg : ∀ p, (g p).count 32 = 0) : ∀ (ps : List Pt), (ps.flatMap fun p => 32 :: g p).count 32 = ps.length
  | [] => rfl
  | p :: ps => by
    rw [List.flatMap_cons, List.count_append, List.count_cons_self, hg, count_tail g hg ps, List.length_cons]; omega
theorem print_count {d : D} (h : right d = true) : (print d).count 32 = (parts d.k).length := by
  unfold print tail
  rw [List.count_append, (tw_all _ (word_blank d.k (right_kind h))).2, count_tail (fun p => Lib.itoa (d.get p.f)) (fun p => (tw_all _ (itoa_no_blank _)).2)]
  omega
theorem print_tw {d : D} (h : right d = true) : (print d).takeWhile nb = word d.k := by
  unfold print tail
  cases hp : parts d.k with
  | nil => rw [List.flatMap_nil, List.append_nil]; exact (tw_all _ (word_blank d.k (right_kind h))).1
  | cons p ps => rw [List.flatMap_cons, List.cons_append, tw_blank]; exact (tw_all _ (word_blank d.k (right_kind h))).1
theorem prefix_all : ks.all (fun j => ks.all fun k => decide ((word j).isPrefixOf (word k) = true → j = k)) = true := by decide +kernel
theorem prefix_eq {j k : Int} (hj : 1 ≤ j ∧ j ≤ 14) (hk : 1 ≤ k ∧ k ≤ 14) {r : List UInt8} (h : word k = word j ++ r) : j = k := by
  have h1 := prefix_all
  simp only [List.all_eq_true, decide_eq_true_eq] at h1
  exact h1 j (mem_ks.2 hj) k (mem_ks.2 hk) (by rw [h]; simp)
/-- A blank more: no right deed's text. -/
theorem blank_none {d : D} (h : right d = true) (p : Nat) : parse ((print d).take p ++ 32 :: (print d).drop p) = none := by
  cases hp : parse ((print d).take p ++ 32 :: (print d).drop p) with
  | none => rfl
  | some e =>
    exfalso
    obtain ⟨he, hpe⟩ := (parse_iff _ _).1 hp
    obtain ⟨r, hr⟩ := tw_take (print d) p
    have hw : word d.k = word e.k ++ r := by
      rw [← print_tw h, ← print_tw he, hr, hpe, tw_blank]
    have hk := prefix_eq (right_kind he) (right_kind h) hw
    have hc := print_count he
    rw [hpe, List.count_append, List.count_cons_self, hk, ← print_count h] at hc
    have hd : (print d).count 32 = ((print d).take p).count 32 + ((print d).drop p).count 32 := by
      rw [← List.count_append, List.take_append_drop]
    omega
end Pg
theorem bytes_left (s : ByteArray) (p : Nat) : (s.extract 0 p).data.toList = s.data.toList.take p := by
  rw [ByteArray.data_extract]; simp
theorem bytes_right (s : ByteArray) (p : Nat) : (s.extract p s.size).data.toList = s.data.toList.drop p := by
  rw [ByteArray.data_extract]
  simp only [Array.toList_extract, List.extract_eq_take_drop, ByteArray.size]
  rw [List.take_of_length_le]; simp
theorem nonempty_of {s : ByteArray} (h : 3 ≤ s.size) : s.toList.isEmpty = false := by
  rw [ByteArray.toList_eq]
  cases hd : s.data.toList with
  | nil =>
    have h2 := congrArg List.length hd
    simp only [Array.length_toList, List.length_nil] at h2
    have : s.size = s.data.size := rfl
    omega
  | cons c l => rfl
theorem parse_fails (s : ByteArray) (hp : Pg.parse s.data.toList = none) (hs : s.size < 4294967281) (w : World) (hE : Env w) :
    Calls Tryd.prog 18 #[.string s] w fun e w' =>
    e = .returned (.tuple #[.agg #[.int .i64 0, .int .i64 0, .int .i64 0, .int .i64 0, .int .i64 0], .int .i64 151]) ∧ Below w.heap.size w w' := by
  have h' := parse_any s hs w hE
  unfold ParseEnd parsed parseE at h'
  rw [hp] at h'
  exact h'
theorem parse_gives {d : Pg.D} (s : ByteArray) (hp : Pg.parse s.data.toList = some d) (hs : s.size < 4294967281) (w : World) (hE : Env w) :
    Calls Tryd.prog 18 #[.string s] w fun e w' =>
    e = .returned (.tuple #[.agg #[.int .i64 d.k, .int .i64 d.a, .int .i64 d.b, .int .i64 d.i, .int .i64 d.n], .int .i64 0]) ∧ Below w.heap.size w w' := by
  have h' := parse_any s hs w hE
  unfold ParseEnd parsed parseE at h'
  rw [hp] at h'
  exact h'
end Go.Proofs.YthchcnbgjklbhaaDoor
