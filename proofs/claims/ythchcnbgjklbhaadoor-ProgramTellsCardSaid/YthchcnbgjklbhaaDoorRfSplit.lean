/- Walk: the document's own split: a text's pieces between blanks. -/
import Derived.Test.YthchcnbgjklbhaaDoorRfPrint
import Derived.Test.YthchcnbgjklbhaaDoorPgLoosePure
import Derived.Maps.AppendAt
namespace Go.Proofs.YthchcnbgjklbhaaDoor
open Go.RowKit
/-- The pieces between blanks. -/
def pieces : List UInt8 → List (List UInt8)
  | [] => [[]]
  | c :: l => if c = 32 then [] :: pieces l else match pieces l with
    | p :: ps => (c :: p) :: ps
    | [] => [[c]]
theorem pieces_ne : ∀ l, pieces l ≠ []
  | [] => by simp [pieces]
  | c :: l => by
    unfold pieces
    split
    · simp
    · split <;> simp
theorem pieces_none : ∀ (l : List UInt8), (∀ c ∈ l, c ≠ 32) → pieces l = [l]
  | [], _ => rfl
  | c :: l, h => by
    have h1 := h c (.head _)
    rw [pieces, if_neg h1, pieces_none l fun x hx => h x (.tail _ hx)]
theorem pieces_at : ∀ (a r : List UInt8), (∀ c ∈ a, c ≠ 32) → pieces (a ++ 32 :: r) = a :: pieces r
  | [], r, _ => by simp [pieces]
  | c :: a, r, h => by
    have h1 := h c (.head _)
    rw [List.cons_append, pieces, if_neg h1, pieces_at a r fun x hx => h x (.tail _ hx)]
theorem extract_eq (s : ByteArray) (f i : Nat) : s.extract f i = strB ((s.data.toList.drop f).take (i - f)) := by
  apply ByteArray.ext
  rw [ByteArray.data_extract]
  simp [strB, List.extract_eq_take_drop, ← Array.toList_inj]
theorem info_str : ∃ i, Tryd.prog.info? 9 = some i ∧ i.zero = some (.string ⟨#[]⟩) ∧ i.size = 1 ∧ i.bytes = 16 := info_parts (by kernel_rfl)
theorem own_lt' {w : World} {B : Nat} {e : TypeId} {size : Nat} {v : Value} {n : Nat} {xs : List Value} (h : w.ownsRow B e size v n xs) : ∀ k, v.ownBlock = some k → B ≤ k := by
  intro k hk
  obtain ⟨hl, ⟨rfl, rfl⟩ | ⟨g, cap, cur, rfl, hb, _⟩⟩ := h
  · simp [Value.ownBlock] at hk
  · simp [Value.ownBlock] at hk; omega
theorem add0' (g j : Nat) : (⟨g, 0, none⟩ : Addr).add j = ⟨g, j, none⟩ := by unfold Addr.add; split <;> simp_all
def sv (p : List UInt8) : Value := .string (strB p)
set_option maxRecDepth 100000 in
set_option maxHeartbeats 4000000 in
theorem rsplit_any (s : ByteArray) (hs : s.size ≤ 200) (w : World) : Calls Tryd.prog 29 #[.string s] w fun e w' =>
    ∃ v, e = .returned v ∧ w'.ownsRow w.heap.size 9 1 v (pieces s.data.toList).length ((pieces s.data.toList).map sv) ∧ Below w.heap.size w w' := by
  obtain ⟨i1, hi1, hs1, hy1, hz1⟩ := info_str
  have hlen : s.data.toList.length = s.size := by rw [Array.length_toList]; rfl
  go_enter Tryd.func29, Tryd.ntmps29
  go_wp2_with fail
  go_loopw [3, 4, 5] (fun v uf ui wr => ∃ (i f : Nat) (done : List (List UInt8)), ui = .int .i64 i ∧ uf = .int .i64 f ∧ i ≤ s.size ∧ f ≤ i ∧ done.length ≤ i ∧ wr.ownsRow w.heap.size 9 1 v done.length (done.map sv) ∧
      Hid (pieces s.data.toList = done ++ pieces (s.data.toList.drop f)) ∧ Hid (∀ c ∈ (s.data.toList.drop f).take (i - f), c ≠ 32) ∧ Below w.heap.size w wr) (fun _ _ ui _ => s.size - (intOf ui).toNat)
  case atStart => exact ⟨0, 0, [], rfl, rfl, by omega, by omega, by simp, World.ownsRow_nil _ _ _ _, Lib.hid (by simp), Lib.hid (by simp), Below.refl _ _⟩
  case round =>
    obtain ⟨i, f, done, rfl, rfl, hi, hf, hd, hown, HP, HC, hbel⟩ := hrel
    by_cases hlt : i < s.size
    · obtain ⟨c, hc⟩ : ∃ c, c = s[i]'hlt := ⟨_, rfl⟩
      have hcl : s.data.toList[i]? = some c := by
        rw [List.getElem?_eq_getElem (by omega), hc]; rfl
      by_cases h32 : c = 32
      · have hch : ((s[i]'hlt).toNat : Int) = 32 := by rw [← hc, h32]; rfl
        have hdr : s.data.toList.drop f = (s.data.toList.drop f).take (i - f) ++ 32 :: s.data.toList.drop (i + 1) := by
          have h1 : (s.data.toList.drop f).drop (i - f) = 32 :: s.data.toList.drop (i + 1) := by
            rw [List.drop_drop, show f + (i - f) = i from by omega, List.drop_eq_getElem_cons (by omega)]
            congr 1
            rw [← h32]
            exact (List.getElem?_eq_some_iff.1 hcl).2
          rw [← h1, List.take_append_drop]
        have hpc : pieces s.data.toList = (done ++ [(s.data.toList.drop f).take (i - f)]) ++ pieces (s.data.toList.drop (i + 1)) := by
          rw [HP.out, List.append_assoc]
          congr 1
          conv => lhs; rw [hdr]
          exact pieces_at _ _ HC.out
        have HPC := Lib.hid hpc
        have HEX := Lib.hid (extract_eq s f i)
        clear hpc hdr hcl hc h32
        go_wp2_with (first | (at_builtin; refine wpList_append_own_at _ rfl _ _ 35 rfl w.heap.size 9 i1 (.string ⟨#[]⟩) 1 16 (by kernel_rfl) hi1 hs1 hy1 hz1 rfl (by decide) _ _ _ rfl (hown.alloc _) ⟨wr.heap.size, 0, none⟩ 1 1 [.string (s.extract f i)] rfl rfl ?c1 ?c2 ?c3 ?c4 ?c5 ?_) | fail)
        case c1 =>
          intro j u hj
          rw [add0']
          refine ((Blk.new wr ([.string (s.extract f i)]).toArray 9).cell j).trans ?_
          simpa using hj
        case c2 => intro u hu; simp only [List.mem_cons, List.not_mem_nil, or_false] at hu; rw [hu]; rfl
        case c3 => unfold maxLen; omega
        case c4 => omega
        case c5 => have := hbel.size; simp; omega
        · intro v' w9 hown' hgrow _ _
          have hbel' := Below.grown (balloc hbel _) hgrow (by have := hbel.size; simp; omega) (own_lt' hown)
          clear hgrow
          go_wp2
          go_roundw
          case rel => exact ⟨i + 1, i + 1, done ++ [(s.data.toList.drop f).take (i - f)], by simp, by simp, by omega, by omega, by simp; omega, by rw [HEX.out] at hown'; simpa [sv] using hown', HPC, Lib.hid (by simp), hbel'⟩
          case measure => simp [intOf]; omega
      · have hch : (((s[i]'hlt).toNat : Int) == 32) = false := by
          rw [← hc]
          refine beq_eq_false_iff_ne.2 fun e => h32 (UInt8.toNat_inj.1 ?_)
          have : c.toNat = 32 := by omega
          rw [this]; rfl
        have hcc : ∀ x ∈ (s.data.toList.drop f).take (i + 1 - f), x ≠ 32 := by
          have e1 : (s.data.toList.drop f).take (i + 1 - f) = (s.data.toList.drop f).take (i - f) ++ [c] := by
            rw [show i + 1 - f = (i - f) + 1 from by omega, List.take_add_one, List.getElem?_drop, show f + (i - f) = i from by omega, hcl]
            rfl
          intro x hx
          rw [e1] at hx
          rcases List.mem_append.1 hx with hx | hx
          · exact HC.out x hx
          · rw [List.mem_singleton.1 hx]; exact h32
        have HCC := Lib.hid hcc
        clear hcc hcl hc h32
        go_wp2_with fail
        go_roundw
        case rel => exact ⟨i + 1, f, done, by simp, rfl, by omega, by omega, by omega, hown, HP, HCC, hbel⟩
        case measure => simp [intOf]; omega
    · obtain rfl : i = s.size := by omega
      have hall : (s.data.toList.drop f).take (s.size - f) = s.data.toList.drop f := List.take_of_length_le (by simp)
      have hpc : pieces s.data.toList = done ++ [s.data.toList.drop f] := by
        rw [HP.out, pieces_none _ (by rw [← hall]; exact HC.out)]
      have HPC := Lib.hid hpc
      have HEX := Lib.hid ((extract_eq s f s.size).trans (by rw [hall]))
      clear hpc hall
      go_wp2_with (first | (at_builtin; refine wpList_append_own_at _ rfl _ _ 35 rfl w.heap.size 9 i1 (.string ⟨#[]⟩) 1 16 (by kernel_rfl) hi1 hs1 hy1 hz1 rfl (by decide) _ _ _ rfl (hown.alloc _) ⟨wr.heap.size, 0, none⟩ 1 1 [.string (s.extract f s.size)] rfl rfl ?c1 ?c2 ?c3 ?c4 ?c5 ?_) | fail)
      case c1 =>
        intro j u hj
        rw [add0']
        refine ((Blk.new wr ([.string (s.extract f s.size)]).toArray 9).cell j).trans ?_
        simpa using hj
      case c2 => intro u hu; simp only [List.mem_cons, List.not_mem_nil, or_false] at hu; rw [hu]; rfl
      case c3 => unfold maxLen; omega
      case c4 => omega
      case c5 => have := hbel.size; simp; omega
      · intro v' w9 hown' hgrow _ _
        have hbel' := Below.grown (balloc hbel _) hgrow (by have := hbel.size; simp; omega) (own_lt' hown)
        clear hgrow
        go_wp2
        go_ret
        refine ⟨_, rfl, ?_, hbel'⟩
        rw [HPC.out]
        rw [HEX.out] at hown'
        simpa [sv] using hown'
end Go.Proofs.YthchcnbgjklbhaaDoor
