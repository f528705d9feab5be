/- Walk: the statement on how many threads, blocks and deeds may be. -/
import Derived.Test.YthchcnbgjklbhaaDoorPgBack
import Derived.Maps.AppendAt
namespace Go.Proofs.YthchcnbgjklbhaaDoor
open Go.RowKit
def ab : Pg.D := ⟨14, 0, 0, 0, 0⟩
theorem rep_first {α β : Type} (f : α → Option β) (x : α) (i : Nat) : ∀ n, first f i (List.replicate n x) = none ∨ first f i (List.replicate n x) = (f x).map fun y => (i, y)
  | 0 => .inl rfl
  | n + 1 => by
    rw [List.replicate_succ, first]
    cases h : f x with
    | some y => right; rfl
    | none =>
      left
      have : ∀ (m j : Nat), first f j (List.replicate m x) = none := by
        intro m
        induction m with
        | zero => intro j; rfl
        | succ m ih => intro j; rw [List.replicate_succ, first, h]; exact ih _
      exact this _ _
theorem rep_none {α β : Type} (f : α → Option β) (x : α) (h : f x = none) : ∀ (m j : Nat), first f j (List.replicate m x) = none := by
  intro m
  induction m with
  | zero => intro j; rfl
  | succ m ih => intro j; rw [List.replicate_succ, first, h]; exact ih _
theorem rep_some {α β : Type} (f : α → Option β) (x : α) (y : β) (h : f x = some y) (m j : Nat) (hm : 1 ≤ m) : first f j (List.replicate m x) = some (j, y) := by
  obtain ⟨m, rfl⟩ : ∃ k, m = k + 1 := ⟨m - 1, by omega⟩
  rw [List.replicate_succ, first, h]
def allOf (t b d : Nat) : List (List (List Pg.D)) := List.replicate t (List.replicate b (List.replicate d ab))
theorem dErr_ab : dErr ab = none := by
  have h : Pg.right ab = true := by decide +kernel
  unfold dErr; rw [if_pos h]
theorem bErr_rep (d : Nat) : bErr (List.replicate d ab) = if d < 1 ∨ 12 < d then some 0 else none := by
  unfold bErr
  rw [List.length_replicate, rep_none dErr ab dErr_ab]
  rfl
theorem tErr_rep (b d : Nat) : tErr (List.replicate b (List.replicate d ab)) = if 6 < b ∨ (1 ≤ b ∧ (d < 1 ∨ 12 < d)) then some (0, 0) else none := by
  unfold tErr
  rw [List.length_replicate]
  by_cases h : 6 < b
  · rw [if_pos h, if_pos (.inl h)]
  · rw [if_neg h]
    by_cases hd : d < 1 ∨ 12 < d
    · by_cases hb : 1 ≤ b
      · rw [if_pos (.inr ⟨hb, hd⟩)]
        exact rep_some bErr _ 0 (by rw [bErr_rep, if_pos hd]) _ _ hb
      · obtain rfl : b = 0 := by omega
        simp [first]
    · rw [if_neg (by omega)]
      exact rep_none bErr _ (by rw [bErr_rep, if_neg hd]) _ _
theorem check_rep (t b d : Nat) : check (allOf t b d) = (if (1 ≤ t ∧ t ≤ 8) ∧ b ≤ 6 ∧ (b = 0 ∨ 1 ≤ d ∧ d ≤ 12) then 0 else 150, 0, 0, 0) := by
  unfold check allOf
  rw [List.length_replicate]
  by_cases ht : t < 1 ∨ 8 < t
  · rw [if_pos ht, if_neg (by omega)]
  · rw [if_neg ht]
    by_cases h : 6 < b ∨ (1 ≤ b ∧ (d < 1 ∨ 12 < d))
    · rw [rep_some tErr _ (0, 0) (by rw [tErr_rep, if_pos h]) _ _ (by omega), if_neg (by omega)]
    · rw [rep_none tErr _ (by rw [tErr_rep, if_neg h]), if_pos (by omega)]
theorem add0 (g j : Nat) : (⟨g, 0, none⟩ : Addr).add j = ⟨g, j, none⟩ := by unfold Addr.add; split <;> simp_all
/-- The slices that the three loops make. -/
theorem own_sl {w : World} {B : Nat} {e : TypeId} {size : Nat} {v : Value} {n : Nat} {xs : List Value} (h : w.ownsRow B e size v n xs) : Sl w v n xs := by
  obtain ⟨hl, ⟨rfl, rfl⟩ | ⟨g, cap, cur, rfl, hb, hg, h1, h2, h3, h4⟩⟩ := h
  · obtain rfl : xs = [] := List.eq_nil_of_length_eq_zero (by simpa using hl)
    exact Sl.nil w
  · refine ⟨_, _, rfl, .inr ⟨g, 0, rfl, fun j x hx => ?_⟩⟩
    rw [← h4, List.getElem?_take] at hx
    split at hx
    · simp only [World.cell?, hg, Nat.zero_add]
      simpa using hx
    · cases hx
theorem dflat_rep (n : Nat) : dflat (List.replicate n ab) ++ [.int .i64 14, .int .i64 0, .int .i64 0, .int .i64 0, .int .i64 0] = dflat (List.replicate (n + 1) ab) := by
  rw [List.replicate_succ', dflat, dflat, List.flatMap_append]
  rfl
theorem own_lt {w : World} {B : Nat} {e : TypeId} {size : Nat} {v : Value} {n : Nat} {xs : List Value} (h : w.ownsRow B e size v n xs) : ∀ k, v.ownBlock = some k → B ≤ k := by
  intro k hk
  obtain ⟨hl, ⟨rfl, rfl⟩ | ⟨g, cap, cur, rfl, hb, _⟩⟩ := h
  · simp [Value.ownBlock] at hk
  · simp [Value.ownBlock] at hk; omega
theorem blocks_at {w : World} {B : Nat} {e : TypeId} {v u : Value} {b d : Nat} (h : w.ownsRow B e 1 v b (List.replicate b u)) (hb : b ≤ 100) (k : DeedsAt w u (List.replicate d ab)) :
    BlocksAt w v (List.replicate b (List.replicate d ab)) := by
  refine ⟨by simp [maxLen]; omega, List.replicate b u, by simp, by simpa using own_sl h, fun j l hl => ?_⟩
  have hj : j < b := by have := (List.getElem?_eq_some_iff.1 hl).1; simpa using this
  have : l = List.replicate d ab := by rw [List.getElem?_replicate, if_pos hj] at hl; exact (Option.some.inj hl).symm
  subst this
  exact ⟨u, by rw [List.getElem?_replicate, if_pos hj], k⟩
theorem threads_at {w : World} {B : Nat} {e : TypeId} {v u : Value} {t b d : Nat} (h : w.ownsRow B e 1 v t (List.replicate t u)) (ht : t ≤ 100) (k : BlocksAt w u (List.replicate b (List.replicate d ab))) :
    ThreadsAt w v (allOf t b d) := by
  refine ⟨by simp [maxLen, allOf]; omega, List.replicate t u, by simp [allOf], by simpa [allOf] using own_sl h, fun j l hl => ?_⟩
  have hj : j < t := by have := (List.getElem?_eq_some_iff.1 hl).1; simpa [allOf] using this
  have : l = List.replicate b (List.replicate d ab) := by rw [allOf, List.getElem?_replicate, if_pos hj] at hl; exact (Option.some.inj hl).symm
  subst this
  exact ⟨u, by rw [List.getElem?_replicate, if_pos hj], k⟩
theorem info1 : ∃ i, Tryd.prog.info? 23 = some i ∧ i.zero = some (.agg #[.int .i64 0, .int .i64 0, .int .i64 0, .int .i64 0, .int .i64 0]) ∧ i.size = 5 ∧ i.bytes = 40 := by
  have h : ((Tryd.prog.info? 23).map fun i => (i.zero, i.size, i.bytes)) = some (some (.agg #[.int .i64 0, .int .i64 0, .int .i64 0, .int .i64 0, .int .i64 0]), 5, 40) := by kernel_rfl
  obtain ⟨i, hi, he⟩ := Option.map_eq_some_iff.1 h
  simp only [Prod.mk.injEq] at he
  exact ⟨i, hi, he.1, he.2.1, he.2.2⟩
theorem info2 : ∃ i, Tryd.prog.info? 41 = some i ∧ i.zero = some (.slice none 0 0) ∧ i.size = 1 ∧ i.bytes = 24 := by
  have h : ((Tryd.prog.info? 41).map fun i => (i.zero, i.size, i.bytes)) = some (some (.slice none 0 0), 1, 24) := by kernel_rfl
  obtain ⟨i, hi, he⟩ := Option.map_eq_some_iff.1 h
  simp only [Prod.mk.injEq] at he
  exact ⟨i, hi, he.1, he.2.1, he.2.2⟩
theorem info3 : ∃ i, Tryd.prog.info? 42 = some i ∧ i.zero = some (.slice none 0 0) ∧ i.size = 1 ∧ i.bytes = 24 := by
  have h : ((Tryd.prog.info? 42).map fun i => (i.zero, i.size, i.bytes)) = some (some (.slice none 0 0), 1, 24) := by kernel_rfl
  obtain ⟨i, hi, he⟩ := Option.map_eq_some_iff.1 h
  simp only [Prod.mk.injEq] at he
  exact ⟨i, hi, he.1, he.2.1, he.2.2⟩
set_option maxRecDepth 100000 in
set_option maxHeartbeats 4000000 in
theorem bounds_any (x y z : Int) (hx : I64 x) (hy : I64 y) (hz : I64 z) (w : World) (hE : Env w) :
    Calls Tryd.prog 6 #[.int .i64 x, .int .i64 y, .int .i64 z] w
      fun e w' => e = .returned (.bool true) ∧ Below w.heap.size w w' := by
  obtain ⟨i1, hi1, hs1, hy1, hz1⟩ := info1
  obtain ⟨i2, hi2, hs2, hy2, hz2⟩ := info2
  obtain ⟨i3, hi3, hs3, hy3, hz3⟩ := info3
  obtain ⟨t, ht, ht1⟩ : ∃ t : Nat, pk x 11 = t ∧ t ≤ 10 := ⟨(pk x 11).toNat, by have := pk_lo x 11 (by omega); omega, by have := pk_hi x 11 (by omega); omega⟩
  obtain ⟨b, hb, hb1⟩ : ∃ t : Nat, pk y 9 = t ∧ t ≤ 8 := ⟨(pk y 9).toNat, by have := pk_lo y 9 (by omega); omega, by have := pk_hi y 9 (by omega); omega⟩
  obtain ⟨d, hd, hd1⟩ : ∃ t : Nat, pk z 15 = t ∧ t ≤ 14 := ⟨(pk z 15).toNat, by have := pk_lo z 15 (by omega); omega, by have := pk_hi z 15 (by omega); omega⟩
  have HE := Lib.hid hE
  have HT := Lib.hid ht
  have HB := Lib.hid hb
  have HD := Lib.hid hd
  have hae := eql_arr3
  clear hE ht hb hd
  go_enter Tryd.func6, Tryd.ntmps6
  go_wp2_with fail
  refine (awake_any _ HE.out).mono ?_
  rintro e w1 ⟨rfl, hw1⟩
  go_wp2_with fail
  refine (pick_any x 11 _ (by omega) (by omega) hx).mono ?_
  rw [HT.out]
  rintro e w1' ⟨rfl, rfl⟩
  go_wp2_with fail
  refine (pick_any y 9 _ (by omega) (by omega) hy).mono ?_
  rw [HB.out]
  rintro e w1' ⟨rfl, rfl⟩
  go_wp2_with fail
  refine (pick_any z 15 _ (by omega) (by omega) hz).mono ?_
  rw [HD.out]
  rintro e w1' ⟨rfl, rfl⟩
  go_wp2_with fail
  go_loopw [11, 12] (fun v i wr => ∃ k : Nat, i = .int .i64 k ∧ k ≤ d ∧ wr.ownsRow w1.heap.size 23 5 v k (dflat (List.replicate k ab)) ∧ Below w1.heap.size w1 wr) (fun _ i _ => d - (intOf i).toNat)
  case atStart => exact ⟨0, rfl, by omega, World.ownsRow_nil _ _ _ _, Below.refl _ _⟩
  case round =>
    obtain ⟨k, rfl, hk, hown, hbel⟩ := hrel
    by_cases hlt : k < d
    · go_wp2_with (first | (at_builtin; refine wpList_append_own_at _ rfl _ _ 41 rfl w1.heap.size 23 i1 (.agg #[.int .i64 0, .int .i64 0, .int .i64 0, .int .i64 0, .int .i64 0]) 5 40 (by kernel_rfl) hi1 hs1 hy1 hz1 rfl (by decide) _ _ _ rfl (hown.alloc _) ⟨wr.heap.size, 0, none⟩ 1 1 [.int .i64 14, .int .i64 0, .int .i64 0, .int .i64 0, .int .i64 0] rfl rfl ?c1 ?c2 ?c3 ?c4 ?c5 ?_) | fail)
      case c1 =>
        intro j u hj
        rw [add0]
        refine ((Blk.new wr ([.int .i64 14, .int .i64 0, .int .i64 0, .int .i64 0, .int .i64 0]).toArray 23).cell j).trans ?_
        simpa using hj
      case c2 => intro u hu; simp only [List.mem_cons, List.not_mem_nil, or_false] at hu; rcases hu with rfl | rfl | rfl | rfl | rfl <;> rfl
      case c3 => unfold maxLen; omega
      case c4 => omega
      case c5 => have := hbel.size; simp; omega
      · intro v' w9 hown' hgrow _ _
        have hbel' := Below.grown (balloc hbel _) hgrow (by have := hbel.size; simp; omega) (own_lt hown)
        clear hgrow
        go_wp2
        go_roundw
        case rel => exact ⟨k + 1, by simp, by omega, by rw [← dflat_rep]; exact hown', hbel'⟩
        case measure => simp [intOf]; omega
    · obtain rfl : k = d := by omega
      clear hlt hk
      obtain ⟨w2, rfl⟩ : ∃ w2 : World, w2 = wr := ⟨_, rfl⟩
      have hL : DeedsAt w2 u11 (List.replicate k ab) := ⟨by simp [maxLen]; omega, by simpa using own_sl hown⟩
      have hw2 := btrans hw1 hbel
      clear hown hbel
      obtain ⟨q1, p1, rfl⟩ : ∃ a c, u11 = .slice a k c := by
        obtain ⟨_, a, c, rfl, _⟩ := hL
        exact ⟨a, c, by simp⟩
      go_wp2_with fail
      go_loopw [13, 14] (fun v i wr => ∃ n : Nat, i = .int .i64 n ∧ n ≤ b ∧ wr.ownsRow w2.heap.size 41 1 v n (List.replicate n (.slice q1 k p1)) ∧ Below w2.heap.size w2 wr) (fun _ i _ => b - (intOf i).toNat)
      case atStart => exact ⟨0, rfl, by omega, World.ownsRow_nil _ _ _ _, Below.refl _ _⟩
      case round =>
        obtain ⟨n, rfl, hn, hown, hbel⟩ := hrel
        by_cases hlt : n < b
        · go_wp2_with (first | (at_builtin; refine wpList_append_own_at _ rfl _ _ 42 rfl w2.heap.size 41 i2 (.slice none 0 0) 1 24 (by kernel_rfl) hi2 hs2 hy2 hz2 rfl (by decide) _ _ _ rfl (hown.alloc _) ⟨wr.heap.size, 0, none⟩ 1 1 [.slice q1 k p1] rfl rfl ?c1 ?c2 ?c3 ?c4 ?c5 ?_) | fail)
          case c1 =>
            intro j u hj
            rw [add0]
            refine ((Blk.new wr ([.slice q1 k p1]).toArray 41).cell j).trans ?_
            simpa using hj
          case c2 => intro u hu; simp only [List.mem_cons, List.not_mem_nil, or_false] at hu; rw [hu]; rfl
          case c3 => unfold maxLen; omega
          case c4 => omega
          case c5 => have := hbel.size; simp; omega
          · intro v' w9 hown' hgrow _ _
            have hbel' := Below.grown (balloc hbel _) hgrow (by have := hbel.size; simp; omega) (own_lt hown)
            clear hgrow
            go_wp2
            go_roundw
            case rel => exact ⟨n + 1, by simp, by omega, by rw [List.replicate_succ']; exact hown', hbel'⟩
            case measure => simp [intOf]; omega
        · obtain rfl : n = b := by omega
          clear hlt hn
          obtain ⟨w3, rfl⟩ : ∃ w3 : World, w3 = wr := ⟨_, rfl⟩
          have hM : BlocksAt w3 u13 (List.replicate n (List.replicate k ab)) := blocks_at hown (by omega) (hL.below hbel)
          have hw3 := btrans hw2 hbel
          clear hown hbel hL hw2 hw1
          obtain ⟨q3, p3, rfl⟩ : ∃ a c, u13 = .slice a n c := by
            obtain ⟨_, vs, _, ⟨a, c, rfl, _⟩, _⟩ := hM
            exact ⟨a, c, by simp⟩
          go_wp2_with fail
          go_loopw [15, 16] (fun v i wr => ∃ m : Nat, i = .int .i64 m ∧ m ≤ t ∧ wr.ownsRow w3.heap.size 42 1 v m (List.replicate m (.slice q3 n p3)) ∧ Below w3.heap.size w3 wr) (fun _ i _ => t - (intOf i).toNat)
          case atStart => exact ⟨0, rfl, by omega, World.ownsRow_nil _ _ _ _, Below.refl _ _⟩
          case round =>
            obtain ⟨m, rfl, hm, hown, hbel⟩ := hrel
            by_cases hlt : m < t
            · go_wp2_with (first | (at_builtin; refine wpList_append_own_at _ rfl _ _ 24 rfl w3.heap.size 42 i3 (.slice none 0 0) 1 24 (by kernel_rfl) hi3 hs3 hy3 hz3 rfl (by decide) _ _ _ rfl (hown.alloc _) ⟨wr.heap.size, 0, none⟩ 1 1 [.slice q3 n p3] rfl rfl ?c1 ?c2 ?c3 ?c4 ?c5 ?_) | fail)
              case c1 =>
                intro j u hj
                rw [add0]
                refine ((Blk.new wr ([.slice q3 n p3]).toArray 42).cell j).trans ?_
                simpa using hj
              case c2 => intro u hu; simp only [List.mem_cons, List.not_mem_nil, or_false] at hu; rw [hu]; rfl
              case c3 => unfold maxLen; omega
              case c4 => omega
              case c5 => have := hbel.size; simp; omega
              · intro v' w9 hown' hgrow _ _
                have hbel' := Below.grown (balloc hbel _) hgrow (by have := hbel.size; simp; omega) (own_lt hown)
                clear hgrow
                go_wp2
                go_roundw
                case rel => exact ⟨m + 1, by simp, by omega, by rw [List.replicate_succ']; exact hown', hbel'⟩
                case measure => simp [intOf]; omega
            · obtain rfl : m = t := by omega
              clear hlt hm
              have hN : ThreadsAt wr u15 (allOf m n k) := threads_at hown (by omega) (hM.below hbel)
              have hw4 := btrans hw3 hbel
              clear hown hbel hM hw3
              go_wp2_with fail
              refine (check_any _ _ _ hN).mono ?_
              rw [check_rep]
              rintro e w5 ⟨rfl, hb5⟩
              simp only [checkV]
              have hw5 := btrans hw4 hb5
              clear hb5 hN hw4
              have hcases : ((m : Int) < 1 ∧ ¬ (1 ≤ m ∧ m ≤ 8)) ∨ ((1 : Int) ≤ m ∧ (8 : Int) < m ∧ ¬ (1 ≤ m ∧ m ≤ 8)) ∨ ((1 : Int) ≤ m ∧ (m : Int) ≤ 8 ∧ (6 : Int) < n ∧ ¬ (n ≤ 6)) ∨ ((1 : Int) ≤ m ∧ (m : Int) ≤ 8 ∧ n = 0) ∨
                  ((1 : Int) ≤ m ∧ (m : Int) ≤ 8 ∧ (n : Int) ≤ 6 ∧ ((n : Int) == 0) = false ∧ (k : Int) < 1 ∧ ¬ (n = 0 ∨ 1 ≤ k ∧ k ≤ 12)) ∨ ((1 : Int) ≤ m ∧ (m : Int) ≤ 8 ∧ (n : Int) ≤ 6 ∧ ((n : Int) == 0) = false ∧ (1 : Int) ≤ k ∧ (12 : Int) < k ∧ ¬ (n = 0 ∨ 1 ≤ k ∧ k ≤ 12)) ∨
                  ((1 : Int) ≤ m ∧ (m : Int) ≤ 8 ∧ (n : Int) ≤ 6 ∧ ((n : Int) == 0) = false ∧ (1 : Int) ≤ k ∧ (k : Int) ≤ 12 ∧ ((1 ≤ m ∧ m ≤ 8) ∧ n ≤ 6 ∧ (n = 0 ∨ 1 ≤ k ∧ k ≤ 12))) := by
                rw [beq_eq_false_iff_ne]; omega
              rcases hcases with ⟨a1, a9⟩ | ⟨a1, a2, a9⟩ | ⟨a1, a2, a3, a9⟩ | ⟨a1, a2, rfl⟩ | ⟨a1, a2, a3, a4, a5, a9⟩ | ⟨a1, a2, a3, a4, a5, a6, a9⟩ | ⟨a1, a2, a3, a4, a5, a6, a9⟩
              · rw [if_neg (fun h => a9 h.1)]
                clear a9
                go_wp2_with fail
                go_ret
                exact ⟨rfl, balloc hw5 _⟩
              · rw [if_neg (fun h => a9 h.1)]
                clear a9
                go_wp2_with fail
                go_ret
                exact ⟨rfl, balloc hw5 _⟩
              · rw [if_neg (fun h => a9 h.2.1)]
                clear a9
                go_wp2_with fail
                go_ret
                exact ⟨rfl, balloc hw5 _⟩
              · rw [if_pos (by omega)]
                go_wp2_with fail
                go_ret
                exact ⟨rfl, balloc hw5 _⟩
              · rw [if_neg (fun h => a9 h.2.2)]
                clear a9
                go_wp2_with fail
                go_ret
                exact ⟨rfl, balloc hw5 _⟩
              · rw [if_neg (fun h => a9 h.2.2)]
                clear a9
                go_wp2_with fail
                go_ret
                exact ⟨by simp; omega, balloc hw5 _⟩
              · rw [if_pos a9]
                clear a9
                go_wp2_with fail
                go_ret
                exact ⟨rfl, balloc hw5 _⟩
end Go.Proofs.YthchcnbgjklbhaaDoor
