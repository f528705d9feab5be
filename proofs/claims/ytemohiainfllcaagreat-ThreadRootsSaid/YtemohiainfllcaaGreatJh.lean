/- Walks: words moved; objects that are gone. -/
import Derived.Test.YtemohiainfllcaaGreatJg
import Derived.StillTailTactics
import Derived.Laws.CopyOwn
namespace Go.Proofs.YtemohiainfllcaaGreat
open Go.RowKit Hp
/-- n words from i on, laid from j on. -/
def mvF (f : Nat → Nat) (i j n : Nat) : Nat → Nat := fun k => if j ≤ k ∧ k < j + n then f (i + (k - j)) else f k
variable {w : World} {a wd L : Nat} {f : Nat → Nat}
set_option maxRecDepth 100000 in
theorem ar_move (h : Wds w a wd L f) (i j n : Nat) (hi : i + n ≤ L) (hj : j + n ≤ L) (hn : 0 < n) (x y z : Int) (hx : x = i) (hy : y = j) (hz : z = n) :
    Calls Tryz.prog 201 #[.pointer (some ⟨a, 0, none⟩), .int .i64 x, .int .i64 y, .int .i64 z] w fun e w' => e = .returned (.int .i64 0) ∧ Turned w w' a wd L (mvF f i j n) := by
  subst hx hy hz
  have hl := h.le
  have HS := Lib.hid (stretch_any h i n i n rfl rfl hi)
  have HS2 := Lib.hid (stretch_any h j n j n rfl rfl hj)
  have c : w.cell? ⟨a, 0, none⟩ = some (.slice (some ⟨wd, 0, none⟩) L L) := h.arena.cell 0
  obtain ⟨cs, hb, hcs, hat⟩ := h.words
  have hi2 : (i : Int) + (n : Int) ≤ (L : Int) := by omega
  have hj2 : (j : Int) + (n : Int) ≤ (L : Int) := by omega
  have H := Lib.hid h
  have HB := Lib.hid hb
  have HCS := Lib.hid hcs
  have HAT := Lib.hid hat
  clear h hb hcs hat
  go_enter Tryz.func201, Tryz.ntmps201
  go_wp2_with fail
  refine HS.out.mono ?_
  rintro e w1 ⟨rfl, rfl⟩
  go_wp2_with fail
  refine HS2.out.mono ?_
  rintro e w1 ⟨rfl, rfl⟩
  go_upto_region 4 with fail
  have a1 : IntKind.i64.wrap ((j : Int) + (n : Int)) = (j : Int) + (n : Int) := IntWalk.i64_in _ (by omega)
  have a2 : IntKind.i64.wrap ((i : Int) + (n : Int)) = (i : Int) + (n : Int) := IntWalk.i64_in _ (by omega)
  have a3 : ((j : Int) + (n : Int)).toNat = j + n := by omega
  have a4 : ((i : Int) + (n : Int)).toNat = i + n := by omega
  have b1 : (0 : Int) ≤ (j : Int) + (n : Int) := by omega
  have b2 : (0 : Int) ≤ (i : Int) + (n : Int) := by omega
  have b3 : (j : Int) ≤ (j : Int) + (n : Int) := by omega
  have b4 : (i : Int) ≤ (i : Int) + (n : Int) := by omega
  have b5 : j < L := by omega
  have b6 : i < L := by omega
  have b7 : j ≠ L := by omega
  have b8 : i ≠ L := by omega
  have b9 : ¬ L = j := by omega
  have b10 : ¬ L = i := by omega
  have b11 : j ≤ L := by omega
  have b12 : i ≤ L := by omega
  have b13 : j ≤ j + n := by omega
  have b14 : i ≤ i + n := by omega
  go_still_tail 18, (by kernel_rfl)
  have hsz : cs.toList.length = L := by rw [Array.length_toList]; exact HCS.out
  obtain ⟨C, hC⟩ : ∃ C, C = (cs.toList.drop i).take n := ⟨_, rfl⟩
  have hCl : C.length = n := by rw [hC, List.length_take, List.length_drop, hsz]; omega
  have hCat : ∀ k, k < n → C[k]? = some (.int .u64 (f (i + k) : Int)) := fun k hk => by
    rw [hC, List.getElem?_take, if_pos hk, List.getElem?_drop, Array.getElem?_toList, HAT.out (i + k) (by omega)]
  refine wpList_copy_own rfl (.tmp 31) (.tmp 40) _ _ rfl 160 (by kernel_rfl) (by kernel_rfl) wd j n (L - j) ⟨wd, i, none⟩ n (L - i) rfl rfl cs 160 HB.out C (by rw [hCl]; exact (Nat.min_self n).symm) ?_ (by rw [hCl, HCS.out]; omega) ?_ ?_
  · intro k v hk
    have hkn : k < n := by rw [← hCl]; exact (List.getElem?_eq_some_iff.1 hk).1
    rw [hCat k hkn] at hk
    injection hk with hk
    rw [show (⟨wd, i, none⟩ : Addr).add k = ⟨wd, i + k, none⟩ from by unfold Addr.add; split <;> simp_all]
    show w.cell? ⟨wd, i + k, none⟩ = some v
    rw [← hk]; exact H.out.cell (by omega)
  · intro v hv
    obtain ⟨k, hk⟩ := List.mem_iff_getElem?.1 hv
    have hkn : k < n := by rw [← hCl]; exact (List.getElem?_eq_some_iff.1 hk).1
    rw [hCat k hkn] at hk
    injection hk with hk
    rw [← hk]; rfl
  · have HC := Lib.hid hCat
    have HCL := Lib.hid hCl
    clear a1 a2 a3 a4 b1 b2 b3 b4 b5 b6 b7 b8 b9 b10 b11 b12 b13 b14 hC hCat hCl
    obtain ⟨X, hX⟩ : ∃ X, X = (List.take j cs.toList ++ (C ++ List.drop (j + C.length) cs.toList)).toArray := ⟨_, rfl⟩
    obtain ⟨w9, hw9⟩ : ∃ w9, w9 = w.drew.setRow wd X := ⟨_, rfl⟩
    rw [show ({ heap := w.heap, tape := w.tape, drawn := w.drawn + 1, os := w.os, output := w.output } : World) = w.drew from rfl, ← hX, ← hw9]
    have hT : Turned w w9 a wd L (mvF f i j n) := by
      have h9 : w9.heap[wd]? = some (.cells X 160 (0, 0)) := by rw [hw9]; exact setRow_heap _ _ _ _ _ _ HB.out
      have hne : ∀ k, k ≠ wd → w9.heap[k]? = w.heap[k]? := fun k hk => by rw [hw9]; exact setRow_other _ _ _ _ hk
      refine ⟨⟨H.out.arena.of_eq (hne a H.out.ne), H.out.ne, ⟨X, h9, ?_, fun k hk => ?_⟩, H.out.le⟩, ⟨by rw [hw9]; rfl, by rw [hw9]; rfl, by rw [hw9]; rfl, by rw [hw9]; simp [World.setRow], fun k _ hk => hne k hk⟩⟩
      · rw [hX, List.size_toArray, List.length_append, List.length_append, List.length_take, List.length_drop, hsz, HCL.out]; omega
      · rw [hX, List.getElem?_toArray, HCL.out]
        unfold mvF
        have ht : (List.take j cs.toList).length = j := by rw [List.length_take, hsz]; omega
        by_cases h1 : k < j
        · rw [if_neg (by omega), List.getElem?_append_left (by omega), List.getElem?_take, if_pos h1, Array.getElem?_toList, HAT.out k hk]
        · rw [List.getElem?_append_right (by omega), ht]
          by_cases h2 : k < j + n
          · rw [if_pos (by omega), List.getElem?_append_left (by rw [HCL.out]; omega), HC.out (k - j) (by omega)]
          · rw [if_neg (by omega), List.getElem?_append_right (by rw [HCL.out]; omega), HCL.out, List.getElem?_drop, Array.getElem?_toList, show j + n + (k - j - n) = k from by omega, HAT.out k hk]
    clear hX hw9 hsz
    rw [HCL.out]
    go_wp2_with fail
    go_ret
    exact ⟨rfl, hT⟩
end Go.Proofs.YtemohiainfllcaaGreat

/- Walks: where an object is that is gone; an object laid elsewhere. -/
namespace Go.Proofs.YtemohiainfllcaaGreat
open Go.RowKit Hp
theorem or_two (q : Nat) (h : 4 * q + 2 < 18446744073709551616) : bits BinOp.or IntKind.u64 ((4 * q : Nat) : Int) 2 = ((4 * q + 2 : Nat) : Int) := by
  rw [show (2 : Int) = ((2 : Nat) : Int) from rfl, wor _ 2 (by omega) (by omega), Nat.or_comm, show 4 * q = 2 ^ 2 * q from rfl, or_add 2 q 2 (by omega), Nat.add_comm]
theorem gone_yes (q : Nat) (h1 : 1 ≤ q) (h2 : q ≤ 131072) (z : Int) (hz : z = q) (w : World) : Calls Tryz.prog 200 #[.int .i64 z] w fun e w' => e = .returned (.tuple #[.int .u64 ((4 * q + 2 : Nat) : Int), .bool true]) ∧ w = w' := by
  subst hz
  have ho := or_two q (by omega)
  have e1 : (q : Int) * 4 = ((4 * q : Nat) : Int) := by omega
  rw [← e1] at ho
  generalize ((4 * q + 2 : Nat) : Int) = r at *
  clear e1
  go_enter Tryz.func200, Tryz.ntmps200
  go_wp2_with fail
  go_ret2
  exact ⟨rfl, rfl⟩
theorem gone_no (z : Int) (hz : z < 1 ∨ 131072 < z) (w : World) : Calls Tryz.prog 200 #[.int .i64 z] w fun e w' => e = .returned (.tuple #[.int .u64 0, .bool false]) ∧ w = w' := by
  rcases hz with hz | hz
  all_goals
    go_enter Tryz.func200, Tryz.ntmps200
    go_wp2_with fail
    go_ret2
    exact ⟨rfl, rfl⟩
theorem where_gone (q : Nat) (h1 : 1 ≤ q) (h2 : q ≤ 131072) (w : World) : Calls Tryz.prog 206 #[.int .u64 ((4 * q + 2 : Nat) : Int)] w fun e w' => e = .returned (.tuple #[.int .i64 q, .bool true]) ∧ w = w' := by
  have HG := Lib.hid (fun w => gone_yes q h1 h2 q rfl w)
  have e1 : ((4 * q + 2 : Nat) : Int) / 4 = (q : Int) := by omega
  obtain ⟨r, hr⟩ : ∃ r : Int, r = ((4 * q + 2 : Nat) : Int) := ⟨_, rfl⟩
  rw [← hr] at HG e1 ⊢
  have r0 : 0 ≤ r := by omega
  have r1 : r ≤ 600000 := by omega
  clear hr
  go_enter Tryz.func206, Tryz.ntmps206
  go_wp2_with fail
  refine (HG.out _).mono ?_
  rintro e w1 ⟨rfl, rfl⟩
  go_wp2_with fail
  go_ret2
  exact ⟨rfl, rfl⟩
/-- A word that is odd is no gone object's. -/
theorem where_odd (v : Nat) (h : v % 2 = 1) (hv : v < 4096) (w : World) : Calls Tryz.prog 206 #[.int .u64 v] w fun e w' => e = .returned (.tuple #[.int .i64 0, .bool false]) ∧ w = w' := by
  obtain ⟨q, hq⟩ : ∃ q : Nat, (v : Int) / 4 = q := ⟨v / 4, by omega⟩
  have hq2 : q ≤ 1024 := by omega
  by_cases h1 : 1 ≤ q
  · have HG := Lib.hid (fun w => gone_yes q h1 (by omega) q rfl w)
    have hne : ((((4 * q + 2 : Nat) : Int)) != (v : Int)) = true := by rw [bne_iff_ne]; omega
    generalize ((4 * q + 2 : Nat) : Int) = r at *
    clear h
    go_enter Tryz.func206, Tryz.ntmps206
    go_wp2_with fail
    refine (HG.out _).mono ?_
    rintro e w1 ⟨rfl, rfl⟩
    go_wp2_with fail
    go_ret2
    exact ⟨rfl, rfl⟩
  · have hq0 : (v : Int) / 4 = 0 := by omega
    have HG := Lib.hid (fun w => gone_no 0 (by omega) w)
    clear h hq
    go_enter Tryz.func206, Tryz.ntmps206
    go_wp2_with fail
    refine (HG.out _).mono ?_
    rintro e w1 ⟨rfl, rfl⟩
    go_wp2_with fail
    go_ret2
    exact ⟨rfl, rfl⟩
variable {w : World} {a wd L : Nat} {f : Nat → Nat} {p : Nat} {ob : Ob}
theorem mat_gone (h : Wds w a wd L f) (hp : p < L) (q : Nat) (h1 : 1 ≤ q) (h2 : q ≤ 131072) (hf : f p = 4 * q + 2) :
    Calls Tryz.prog 184 #[.pointer (some ⟨a, 0, none⟩), .int .i64 p] w fun e w' => e = .returned (.tuple #[.int .i64 q, .bool true]) ∧ w = w' := by
  have HL := Lib.hid (ar_load_v h p p _ rfl hp hf)
  have HW := Lib.hid (fun w => where_gone q h1 h2 w)
  clear h hf
  go_enter Tryz.func184, Tryz.ntmps184
  go_wp2_with fail
  refine HL.out.mono ?_
  rintro e w1 ⟨rfl, rfl⟩
  go_wp2_with fail
  refine (HW.out _).mono ?_
  rintro e w1 ⟨rfl, rfl⟩
  go_wp2_with fail
  go_ret2
  exact ⟨rfl, rfl⟩
theorem mat_ob (h : Wds w a wd L f) (ho : ObAt f p ob) (hk : ob.ok) (hl : p + ob.size ≤ L) :
    Calls Tryz.prog 184 #[.pointer (some ⟨a, 0, none⟩), .int .i64 p] w fun e w' => e = .returned (.tuple #[.int .i64 0, .bool false]) ∧ w = w' := by
  have hs := Ob.size_bd hk
  have HL := Lib.hid (ar_load_v h p p _ rfl (by omega) ho.h0)
  have HW := Lib.hid (fun w => where_odd (head ob.shp ob.freed) (head_odd _ _) (head_lt _ _ hk.shp) w)
  generalize head ob.shp ob.freed = r at *
  clear h ho hk hl hs
  go_enter Tryz.func184, Tryz.ntmps184
  go_wp2_with fail
  refine HL.out.mono ?_
  rintro e w1 ⟨rfl, rfl⟩
  go_wp2_with fail
  refine (HW.out _).mono ?_
  rintro e w1 ⟨rfl, rfl⟩
  go_wp2_with fail
  go_ret2
  exact ⟨rfl, rfl⟩
end Go.Proofs.YtemohiainfllcaaGreat
