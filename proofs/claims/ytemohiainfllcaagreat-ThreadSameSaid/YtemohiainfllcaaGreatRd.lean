/- Walks: words moved; objects that are gone. -/
import Derived.Test.YtemohiainfllcaaGreatRc
import Derived.StillTailTactics
import Derived.Laws.CopyOwn
import Derived.Deep.RegionLaw
namespace Go.Proofs.YtemohiainfllcaaGreat
open Go.RowKit Hp
/-- n words from i on, laid from j on. -/
def mvF (f : Nat → Nat) (i j n : Nat) : Nat → Nat := fun k => if j ≤ k ∧ k < j + n then f (i + (k - j)) else f k
variable {w : World} {a wd L : Nat} {f : Nat → Nat}
set_option maxRecDepth 100000 in
theorem ar_move (h : Wds w a wd L f) (i j n : Nat) (hi : i + n ≤ L) (hj : j + n ≤ L) (hn : 0 < n) (x y z : Int) (hx : x = i) (hy : y = j) (hz : z = n) :
    Calls Tryz.prog 201 #[.pointer (some ⟨a, 0, none⟩), .int .i64 x, .int .i64 y, .int .i64 z] w fun e w' => e = .returned (.int .i64 0) ∧ Turned w w' a wd L (mvF f i j n) := by
  subst hx hy hz
  have hl := h.le
  have HS := Lib.hid (stretch_any h i n i n rfl rfl hi)
  have HS2 := Lib.hid (stretch_any h j n j n rfl rfl hj)
  have c : w.cell? ⟨a, 0, none⟩ = some (.slice (some ⟨wd, 0, none⟩) L L) := h.arena.cell 0
  obtain ⟨cs, hb, hcs, hat⟩ := h.words
  have hi2 : (i : Int) + (n : Int) ≤ (L : Int) := by omega
  have hj2 : (j : Int) + (n : Int) ≤ (L : Int) := by omega
  have H := Lib.hid h
  have HB := Lib.hid hb
  have HCS := Lib.hid hcs
  have HAT := Lib.hid hat
  clear h hb hcs hat
  go_enter Tryz.func201, Tryz.ntmps201
  go_wp2_with fail
  refine HS.out.mono ?_
  rintro e w1 ⟨rfl, rfl⟩
  go_wp2_with fail
  refine HS2.out.mono ?_
  rintro e w1 ⟨rfl, rfl⟩
  go_upto_region 4 with fail
  have a1 : IntKind.i64.wrap ((j : Int) + (n : Int)) = (j : Int) + (n : Int) := IntWalk.i64_in _ (by omega)
  have a2 : IntKind.i64.wrap ((i : Int) + (n : Int)) = (i : Int) + (n : Int) := IntWalk.i64_in _ (by omega)
  have a3 : ((j : Int) + (n : Int)).toNat = j + n := by omega
  have a4 : ((i : Int) + (n : Int)).toNat = i + n := by omega
  have b1 : (0 : Int) ≤ (j : Int) + (n : Int) := by omega
  have b2 : (0 : Int) ≤ (i : Int) + (n : Int) := by omega
  have b3 : (j : Int) ≤ (j : Int) + (n : Int) := by omega
  have b4 : (i : Int) ≤ (i : Int) + (n : Int) := by omega
  have b5 : j < L := by omega
  have b6 : i < L := by omega
  have b7 : j ≠ L := by omega
  have b8 : i ≠ L := by omega
  have b9 : ¬ L = j := by omega
  have b10 : ¬ L = i := by omega
  have b11 : j ≤ L := by omega
  have b12 : i ≤ L := by omega
  have b13 : j ≤ j + n := by omega
  have b14 : i ≤ i + n := by omega
  go_still_tail 18, (by kernel_rfl)
  have hsz : cs.toList.length = L := by rw [Array.length_toList]; exact HCS.out
  obtain ⟨C, hC⟩ : ∃ C, C = (cs.toList.drop i).take n := ⟨_, rfl⟩
  have hCl : C.length = n := by rw [hC, List.length_take, List.length_drop, hsz]; omega
  have hCat : ∀ k, k < n → C[k]? = some (.int .u64 (f (i + k) : Int)) := fun k hk => by
    rw [hC, List.getElem?_take, if_pos hk, List.getElem?_drop, Array.getElem?_toList, HAT.out (i + k) (by omega)]
  refine wpList_copy_own rfl (.tmp 31) (.tmp 40) _ _ rfl 160 (by kernel_rfl) (by kernel_rfl) wd j n (L - j) ⟨wd, i, none⟩ n (L - i) rfl rfl cs 160 HB.out C (by rw [hCl]; exact (Nat.min_self n).symm) ?_ (by rw [hCl, HCS.out]; omega) ?_ ?_
  · intro k v hk
    have hkn : k < n := by rw [← hCl]; exact (List.getElem?_eq_some_iff.1 hk).1
    rw [hCat k hkn] at hk
    injection hk with hk
    rw [show (⟨wd, i, none⟩ : Addr).add k = ⟨wd, i + k, none⟩ from by unfold Addr.add; split <;> simp_all]
    show w.cell? ⟨wd, i + k, none⟩ = some v
    rw [← hk]; exact H.out.cell (by omega)
  · intro v hv
    obtain ⟨k, hk⟩ := List.mem_iff_getElem?.1 hv
    have hkn : k < n := by rw [← hCl]; exact (List.getElem?_eq_some_iff.1 hk).1
    rw [hCat k hkn] at hk
    injection hk with hk
    rw [← hk]; rfl
  · have HC := Lib.hid hCat
    have HCL := Lib.hid hCl
    clear a1 a2 a3 a4 b1 b2 b3 b4 b5 b6 b7 b8 b9 b10 b11 b12 b13 b14 hC hCat hCl
    obtain ⟨X, hX⟩ : ∃ X, X = (List.take j cs.toList ++ (C ++ List.drop (j + C.length) cs.toList)).toArray := ⟨_, rfl⟩
    obtain ⟨w9, hw9⟩ : ∃ w9, w9 = w.drew.setRow wd X := ⟨_, rfl⟩
    rw [show ({ heap := w.heap, tape := w.tape, drawn := w.drawn + 1, os := w.os, output := w.output } : World) = w.drew from rfl, ← hX, ← hw9]
    have hT : Turned w w9 a wd L (mvF f i j n) := by
      have h9 : w9.heap[wd]? = some (.cells X 160 (0, 0)) := by rw [hw9]; exact setRow_heap _ _ _ _ _ _ HB.out
      have hne : ∀ k, k ≠ wd → w9.heap[k]? = w.heap[k]? := fun k hk => by rw [hw9]; exact setRow_other _ _ _ _ hk
      refine ⟨⟨H.out.arena.of_eq (hne a H.out.ne), H.out.ne, ⟨X, h9, ?_, fun k hk => ?_⟩, H.out.le⟩, ⟨by rw [hw9]; rfl, by rw [hw9]; rfl, by rw [hw9]; rfl, by rw [hw9]; simp [World.setRow], fun k _ hk => hne k hk⟩⟩
      · rw [hX, List.size_toArray, List.length_append, List.length_append, List.length_take, List.length_drop, hsz, HCL.out]; omega
      · rw [hX, List.getElem?_toArray, HCL.out]
        unfold mvF
        have ht : (List.take j cs.toList).length = j := by rw [List.length_take, hsz]; omega
        by_cases h1 : k < j
        · rw [if_neg (by omega), List.getElem?_append_left (by omega), List.getElem?_take, if_pos h1, Array.getElem?_toList, HAT.out k hk]
        · rw [List.getElem?_append_right (by omega), ht]
          by_cases h2 : k < j + n
          · rw [if_pos (by omega), List.getElem?_append_left (by rw [HCL.out]; omega), HC.out (k - j) (by omega)]
          · rw [if_neg (by omega), List.getElem?_append_right (by rw [HCL.out]; omega), HCL.out, List.getElem?_drop, Array.getElem?_toList, show j + n + (k - j - n) = k from by omega, HAT.out k hk]
    clear hX hw9 hsz
    rw [HCL.out]
    go_wp2_with fail
    go_ret
    exact ⟨rfl, hT⟩
end Go.Proofs.YtemohiainfllcaaGreat

/- Walks: where an object is that is gone; an object laid elsewhere. -/
namespace Go.Proofs.YtemohiainfllcaaGreat
open Go.RowKit Hp
theorem or_two (q : Nat) (h : 4 * q + 2 < 18446744073709551616) : bits BinOp.or IntKind.u64 ((4 * q : Nat) : Int) 2 = ((4 * q + 2 : Nat) : Int) := by
  rw [show (2 : Int) = ((2 : Nat) : Int) from rfl, wor _ 2 (by omega) (by omega), Nat.or_comm, show 4 * q = 2 ^ 2 * q from rfl, or_add 2 q 2 (by omega), Nat.add_comm]
theorem gone_yes (q : Nat) (h1 : 1 ≤ q) (h2 : q ≤ 131072) (z : Int) (hz : z = q) (w : World) : Calls Tryz.prog 200 #[.int .i64 z] w fun e w' => e = .returned (.tuple #[.int .u64 ((4 * q + 2 : Nat) : Int), .bool true]) ∧ w = w' := by
  subst hz
  have ho := or_two q (by omega)
  have e1 : (q : Int) * 4 = ((4 * q : Nat) : Int) := by omega
  rw [← e1] at ho
  generalize ((4 * q + 2 : Nat) : Int) = r at *
  clear e1
  go_enter Tryz.func200, Tryz.ntmps200
  go_wp2_with fail
  go_ret2
  exact ⟨rfl, rfl⟩
theorem gone_no (z : Int) (hz : z < 1 ∨ 131072 < z) (w : World) : Calls Tryz.prog 200 #[.int .i64 z] w fun e w' => e = .returned (.tuple #[.int .u64 0, .bool false]) ∧ w = w' := by
  rcases hz with hz | hz
  all_goals
    go_enter Tryz.func200, Tryz.ntmps200
    go_wp2_with fail
    go_ret2
    exact ⟨rfl, rfl⟩
theorem where_gone (q : Nat) (h1 : 1 ≤ q) (h2 : q ≤ 131072) (w : World) : Calls Tryz.prog 206 #[.int .u64 ((4 * q + 2 : Nat) : Int)] w fun e w' => e = .returned (.tuple #[.int .i64 q, .bool true]) ∧ w = w' := by
  have HG := Lib.hid (fun w => gone_yes q h1 h2 q rfl w)
  have e1 : ((4 * q + 2 : Nat) : Int) / 4 = (q : Int) := by omega
  obtain ⟨r, hr⟩ : ∃ r : Int, r = ((4 * q + 2 : Nat) : Int) := ⟨_, rfl⟩
  rw [← hr] at HG e1 ⊢
  have r0 : 0 ≤ r := by omega
  have r1 : r ≤ 600000 := by omega
  clear hr
  go_enter Tryz.func206, Tryz.ntmps206
  go_wp2_with fail
  refine (HG.out _).mono ?_
  rintro e w1 ⟨rfl, rfl⟩
  go_wp2_with fail
  go_ret2
  exact ⟨rfl, rfl⟩
/-- A word that is odd is no gone object's. -/
theorem where_odd (v : Nat) (h : v % 2 = 1) (hv : v < 4096) (w : World) : Calls Tryz.prog 206 #[.int .u64 v] w fun e w' => e = .returned (.tuple #[.int .i64 0, .bool false]) ∧ w = w' := by
  obtain ⟨q, hq⟩ : ∃ q : Nat, (v : Int) / 4 = q := ⟨v / 4, by omega⟩
  have hq2 : q ≤ 1024 := by omega
  by_cases h1 : 1 ≤ q
  · have HG := Lib.hid (fun w => gone_yes q h1 (by omega) q rfl w)
    have hne : ((((4 * q + 2 : Nat) : Int)) != (v : Int)) = true := by rw [bne_iff_ne]; omega
    generalize ((4 * q + 2 : Nat) : Int) = r at *
    clear h
    go_enter Tryz.func206, Tryz.ntmps206
    go_wp2_with fail
    refine (HG.out _).mono ?_
    rintro e w1 ⟨rfl, rfl⟩
    go_wp2_with fail
    go_ret2
    exact ⟨rfl, rfl⟩
  · have hq0 : (v : Int) / 4 = 0 := by omega
    have HG := Lib.hid (fun w => gone_no 0 (by omega) w)
    clear h hq
    go_enter Tryz.func206, Tryz.ntmps206
    go_wp2_with fail
    refine (HG.out _).mono ?_
    rintro e w1 ⟨rfl, rfl⟩
    go_wp2_with fail
    go_ret2
    exact ⟨rfl, rfl⟩
variable {w : World} {a wd L : Nat} {f : Nat → Nat} {p : Nat} {ob : Ob}
theorem mat_gone (h : Wds w a wd L f) (hp : p < L) (q : Nat) (h1 : 1 ≤ q) (h2 : q ≤ 131072) (hf : f p = 4 * q + 2) :
    Calls Tryz.prog 184 #[.pointer (some ⟨a, 0, none⟩), .int .i64 p] w fun e w' => e = .returned (.tuple #[.int .i64 q, .bool true]) ∧ w = w' := by
  have HL := Lib.hid (ar_load_v h p p _ rfl hp hf)
  have HW := Lib.hid (fun w => where_gone q h1 h2 w)
  clear h hf
  go_enter Tryz.func184, Tryz.ntmps184
  go_wp2_with fail
  refine HL.out.mono ?_
  rintro e w1 ⟨rfl, rfl⟩
  go_wp2_with fail
  refine (HW.out _).mono ?_
  rintro e w1 ⟨rfl, rfl⟩
  go_wp2_with fail
  go_ret2
  exact ⟨rfl, rfl⟩
theorem mat_ob (h : Wds w a wd L f) (ho : ObAt f p ob) (hk : ob.ok) (hl : p + ob.size ≤ L) :
    Calls Tryz.prog 184 #[.pointer (some ⟨a, 0, none⟩), .int .i64 p] w fun e w' => e = .returned (.tuple #[.int .i64 0, .bool false]) ∧ w = w' := by
  have hs := Ob.size_bd hk
  have HL := Lib.hid (ar_load_v h p p _ rfl (by omega) ho.h0)
  have HW := Lib.hid (fun w => where_odd (head ob.shp ob.freed) (head_odd _ _) (head_lt _ _ hk.shp) w)
  generalize head ob.shp ob.freed = r at *
  clear h ho hk hl hs
  go_enter Tryz.func184, Tryz.ntmps184
  go_wp2_with fail
  refine HL.out.mono ?_
  rintro e w1 ⟨rfl, rfl⟩
  go_wp2_with fail
  refine (HW.out _).mono ?_
  rintro e w1 ⟨rfl, rfl⟩
  go_wp2_with fail
  go_ret2
  exact ⟨rfl, rfl⟩
end Go.Proofs.YtemohiainfllcaaGreat

/- Walks: a heap's shapes and pointers, while nothing goes from one space to the other. -/
namespace Go.Proofs.YtemohiainfllcaaGreat
open Go.RowKit Hp
section
variable {w : World} {o : Own} {l : HLay} {H : Hp} {vc vo vw vf : Value} {f : Nat → Nat}
theorem hshape_in (h : HpIn w o l H vc vo vw vf f) (hk : H.ok) {p : Nat} {ob : Ob} (hp : lk H.cur p = some ob) :
    Calls Tryz.prog 89 #[.pointer (some ⟨l.h, 0, none⟩), .int .i64 p] w fun e w' => e = .returned (.tuple #[shpV ob.shp, .bool ob.freed, .int .i64 0]) ∧ Below w.heap.size w w' := by
  obtain ⟨ha, ho, hl, _⟩ := h.at_ hk hp
  have HH := Lib.hid (fun w' (hw : Below w.heap.size w w') => here_yes (h.below hw) hk hp)
  have HN := Lib.hid (fun w' (hw : Below w.heap.size w w') => oshape_any (h.wds.below hw) ha ho hl p rfl)
  have HC := Lib.hid (fun w' (hw : Below w.heap.size w w') => (h.below hw).words_cell)
  clear h hk hp ha ho hl
  obtain ⟨⟨sp, sd, wk, fn⟩, fr, se, sr, ps, ns⟩ := ob
  simp only at HN ⊢
  go_enter Tryz.func89, Tryz.ntmps89
  go_wp2_with fail
  refine (HH.out _ (balloc (bsame w) _)).mono ?_
  rintro e w1 ⟨rfl, hb1⟩
  have jR : Blk w1 w.heap.size #[.int .i64 0, .int .i64 0, .bool false, .bool false] 80 := (Blk.new w _ _).below hb1 (by simp)
  have hb : Below w.heap.size w w1 := btrans (balloc (bsame w) _) hb1
  clear hb1
  have c1 := HC.out _ hb
  go_wp2_with fail
  refine (HN.out _ hb).mono ?_
  rintro e w2 ⟨rfl, hb2⟩
  have jR2 := jR.below hb2 jR.lt
  have hw2 := btrans hb hb2
  clear hb2 hb jR
  have cR := jR2.cell
  have zR := jR2.free
  have sR := jR2.lt
  go_wp2_with fail
  refine bodyPost_ret (v := .tuple #[shpV ⟨sp, sd, wk, fn⟩, .bool fr, .int .i64 0]) (by simp [results, Tryz.results89, go_sem, cR]) rfl ⟨rfl, ?_⟩
  repeat (first | exact hw2 | refine bset ?_ (Nat.le_refl _) _)
theorem hshape_no (h : HpIn w o l H vc vo vw vf f) (hk : H.ok) {p : Nat} (hp : lk H.cur p = none) :
    Calls Tryz.prog 89 #[.pointer (some ⟨l.h, 0, none⟩), .int .i64 p] w fun e w' => e = .returned (.tuple #[shpV ⟨0, 0, false, false⟩, .bool false, .int .i64 70]) ∧ Below w.heap.size w w' := by
  have HH := Lib.hid (fun w' (hw : Below w.heap.size w w') => here_no (h.below hw) hk hp)
  clear h hk hp
  go_enter Tryz.func89, Tryz.ntmps89
  go_wp2_with fail
  refine (HH.out _ (balloc (bsame w) _)).mono ?_
  rintro e w1 ⟨rfl, hb1⟩
  have jR : Blk w1 w.heap.size #[.int .i64 0, .int .i64 0, .bool false, .bool false] 80 := (Blk.new w _ _).below hb1 (by simp)
  have hb : Below w.heap.size w w1 := btrans (balloc (bsame w) _) hb1
  clear hb1
  have cR := jR.cell
  have zR := jR.free
  have sR := jR.lt
  go_wp2_with fail
  refine bodyPost_ret (v := .tuple #[shpV ⟨0, 0, false, false⟩, .bool false, .int .i64 70]) (by simp [results, Tryz.results89, go_sem, cR]) rfl ⟨rfl, ?_⟩
  repeat (first | exact hb | refine bset ?_ (Nat.le_refl _) _)
theorem there_still (h : HpIn w o l H vc vo vw vf f) (hm : H.moving = false) (z : Int) :
    Calls Tryz.prog 112 #[.pointer (some ⟨l.h, 0, none⟩), .int .i64 z] w fun e w' => e = .returned (.bool false) ∧ w = w' := by
  have HM := Lib.hid (moving_any h)
  rw [hm] at HM
  clear h hm
  go_enter Tryz.func112, Tryz.ntmps112
  go_wp2_with fail
  refine HM.out.mono ?_
  rintro e w1 ⟨rfl, rfl⟩
  go_wp2_with fail
  go_ret
  exact ⟨rfl, rfl⟩
theorem hptr_in (h : HpIn w o l H vc vo vw vf f) (hk : H.ok) (hm : H.moving = false) {p : Nat} {ob : Ob} (hp : lk H.cur p = some ob) (i x : Nat) (hx : ob.ptrs[i]? = some x) :
    Calls Tryz.prog 59 #[.pointer (some ⟨l.h, 0, none⟩), .int .i64 p, .int .i64 i] w fun e w' => e = .returned (.tuple #[.int .i64 x, .int .i64 0]) ∧ Below w.heap.size w w' := by
  obtain ⟨ha, ho, hl, _⟩ := h.at_ hk hp
  have HH := Lib.hid (here_yes h hk hp)
  have HN := Lib.hid (fun w' (hw : Below w.heap.size w w') => optr_get (h.wds.below hw) ha ho hl i x hx p i rfl rfl)
  have HC := Lib.hid (fun w' (hw : Below w.heap.size w w') => (h.below hw).words_cell)
  have HT := Lib.hid (fun w' (hw : Below w.heap.size w w') => there_still (h.below hw) hm x)
  clear h hk hm hp ha ho hl hx
  go_enter Tryz.func59, Tryz.ntmps59
  go_wp2_with fail
  refine HH.out.mono ?_
  rintro e w1 ⟨rfl, hb1⟩
  have c1 := HC.out _ hb1
  go_wp2_with fail
  refine (HN.out _ hb1).mono ?_
  rintro e w2 ⟨rfl, hb2⟩
  go_wp2_with fail
  refine (HT.out _ (btrans hb1 hb2)).mono ?_
  rintro e w3 ⟨rfl, rfl⟩
  go_wp2_with fail
  go_ret2
  exact ⟨rfl, btrans hb1 hb2⟩
theorem hptr_out (h : HpIn w o l H vc vo vw vf f) (hk : H.ok) {p : Nat} {ob : Ob} (hp : lk H.cur p = some ob) (i : Nat) (hx : ob.shp.p ≤ i) :
    Calls Tryz.prog 59 #[.pointer (some ⟨l.h, 0, none⟩), .int .i64 p, .int .i64 i] w fun e w' => e = .returned (.tuple #[.int .i64 0, .int .i64 71]) ∧ Below w.heap.size w w' := by
  obtain ⟨ha, ho, hl, _⟩ := h.at_ hk hp
  have HH := Lib.hid (here_yes h hk hp)
  have HN := Lib.hid (fun w' (hw : Below w.heap.size w w') => optr_no (h.wds.below hw) ha ho hl i hx p i rfl rfl)
  have HC := Lib.hid (fun w' (hw : Below w.heap.size w w') => (h.below hw).words_cell)
  clear h hk hp ha ho hl hx
  go_enter Tryz.func59, Tryz.ntmps59
  go_wp2_with fail
  refine HH.out.mono ?_
  rintro e w1 ⟨rfl, hb1⟩
  have c1 := HC.out _ hb1
  go_wp2_with fail
  refine (HN.out _ hb1).mono ?_
  rintro e w2 ⟨rfl, hb2⟩
  go_wp2_with fail
  go_ret2
  exact ⟨rfl, btrans hb1 hb2⟩
theorem hptr_no (h : HpIn w o l H vc vo vw vf f) (hk : H.ok) {p : Nat} (hp : lk H.cur p = none) (i : Nat) :
    Calls Tryz.prog 59 #[.pointer (some ⟨l.h, 0, none⟩), .int .i64 p, .int .i64 i] w fun e w' => e = .returned (.tuple #[.int .i64 0, .int .i64 70]) ∧ Below w.heap.size w w' := by
  have HH := Lib.hid (here_no h hk hp)
  clear h hk hp
  go_enter Tryz.func59, Tryz.ntmps59
  go_wp2_with fail
  refine HH.out.mono ?_
  rintro e w1 ⟨rfl, hb1⟩
  go_wp2_with fail
  go_ret2
  exact ⟨rfl, hb1⟩
theorem hsetptr_out (h : HpIn w o l H vc vo vw vf f) (hk : H.ok) {p : Nat} {ob : Ob} (hp : lk H.cur p = some ob) (i : Nat) (hx : ob.shp.p ≤ i) :
    Calls Tryz.prog 97 #[.pointer (some ⟨l.h, 0, none⟩), .int .i64 p, .int .i64 i, .int .i64 0] w fun e w' => e = .returned (.int .i64 71) ∧ Below w.heap.size w w' := by
  obtain ⟨ha, ho, hl, _⟩ := h.at_ hk hp
  have HH := Lib.hid (here_yes h hk hp)
  have HN := Lib.hid (fun w' (hw : Below w.heap.size w w') => osetptr_no (h.wds.below hw) ha ho hl i hx p i 0 rfl rfl)
  have HC := Lib.hid (fun w' (hw : Below w.heap.size w w') => (h.below hw).words_cell)
  clear h hk hp ha ho hl hx
  go_enter Tryz.func97, Tryz.ntmps97
  go_wp2_with fail
  refine HH.out.mono ?_
  rintro e w1 ⟨rfl, hb1⟩
  have c1 := HC.out _ hb1
  go_wp2_with fail
  refine (HN.out _ hb1).mono ?_
  rintro e w2 ⟨rfl, hb2⟩
  go_wp2_with fail
  go_ret
  exact ⟨rfl, btrans hb1 hb2⟩
theorem hsetptr_no (h : HpIn w o l H vc vo vw vf f) (hk : H.ok) {p : Nat} (hp : lk H.cur p = none) (i : Nat) (z : Int) :
    Calls Tryz.prog 97 #[.pointer (some ⟨l.h, 0, none⟩), .int .i64 p, .int .i64 i, .int .i64 z] w fun e w' => e = .returned (.int .i64 70) ∧ Below w.heap.size w w' := by
  have HH := Lib.hid (here_no h hk hp)
  clear h hk hp
  go_enter Tryz.func97, Tryz.ntmps97
  go_wp2_with fail
  refine HH.out.mono ?_
  rintro e w1 ⟨rfl, hb1⟩
  go_wp2_with fail
  go_ret
  exact ⟨rfl, hb1⟩
theorem ptr_bd (hk : H.ok) {q : Nat} (hq : q = 0 ∨ (lk H.cur q).isSome = true) : q ≤ 131072 := by
  rcases hq with rfl | hq
  · omega
  · obtain ⟨ob, hob⟩ := Option.isSome_iff_exists.1 hq
    have h1 := laid_mem _ _ _ hk.cl _ (lk_mem hob)
    have h4 := hk.room
    have h5 := H.base_bd H.use
    have h6 := hk.sz
    simp only at h1
    omega
theorem hsetptr_in (h : HpIn w o l H vc vo vw vf f) (hk : H.ok) {p : Nat} {ob : Ob} (hp : lk H.cur p = some ob) (i q : Nat) (hx : i < ob.shp.p) (hq : q = 0 ∨ (lk H.cur q).isSome = true) :
    Calls Tryz.prog 97 #[.pointer (some ⟨l.h, 0, none⟩), .int .i64 p, .int .i64 i, .int .i64 q] w fun e w' => e = .returned (.int .i64 0) ∧ Hp.ok { H with cur := up H.cur p (ob.setPtr i q) } ∧ (∃ f', HpIn w' o l { H with cur := up H.cur p (ob.setPtr i q) } vc vo vw vf f') ∧ Wr l.wd w w' := by
  obtain ⟨ha, ho, hl, _⟩ := h.at_ hk hp
  have hqb := ptr_bd hk hq
  have hok := Hp.ok_up hk hp (Ob.setPtr_ok ho i q hqb) (rfl)
  have HH := Lib.hid (here_yes h hk hp)
  have HN := Lib.hid (fun w' (hw : Below w.heap.size w w') => osetptr_any (h.wds.below hw) ha ho hl i q hx hqb p i q rfl rfl rfl)
  have HC := Lib.hid (fun w' (hw : Below w.heap.size w w') => (h.below hw).words_cell)
  have HE := Lib.hid (fun w1 w' (hw : Below w.heap.size w w1) hT => (h.below hw).turn (w' := w') hk hp (k := 3 + i) (by unfold Ob.size; omega) hT (by rw [show p + (3 + i) = p + 3 + i from by omega]; exact ha.setPtr ho i q hx))
  rw [show p + (3 + i) = p + 3 + i from by omega] at HE
  have HK := Lib.hid hok
  rcases hq with rfl | hq
  · clear h hk hp ha ho hl hok hx hqb
    go_enter Tryz.func97, Tryz.ntmps97
    go_wp2_with fail
    refine HH.out.mono ?_
    rintro e w1 ⟨rfl, hb1⟩
    have c1 := HC.out _ hb1
    go_wp2_with fail
    refine (HN.out _ hb1).mono ?_
    rintro e w2 ⟨rfl, hT⟩
    go_wp2_with fail
    go_ret
    exact ⟨rfl, HK.out, ⟨_, HE.out _ _ hb1 hT⟩, (Wr.of_below hb1).trans hT.2⟩
  · obtain ⟨oq, hoq⟩ := Option.isSome_iff_exists.1 hq
    have HQ := Lib.hid (fun w' (hw : Below w.heap.size w w') => here_yes (h.below hw) hk hoq)
    by_cases h0 : q = 0
    · subst h0
      have := laid_mem _ _ _ hk.cl _ (lk_mem hoq)
      have := H.base_bd H.use
      simp only at *
      omega
    · clear h hk hp ha ho hl hok hx hqb hq hoq
      go_enter Tryz.func97, Tryz.ntmps97
      go_wp2_with fail
      refine HH.out.mono ?_
      rintro e w1 ⟨rfl, hb1⟩
      go_wp2_with fail
      refine (HQ.out _ hb1).mono ?_
      rintro e w2 ⟨rfl, hb2⟩
      have hb := btrans hb1 hb2
      have c1 := HC.out _ hb
      go_wp2_with fail
      refine (HN.out _ hb).mono ?_
      rintro e w3 ⟨rfl, hT⟩
      go_wp2_with fail
      go_ret
      exact ⟨rfl, HK.out, ⟨_, HE.out _ _ hb hT⟩, (Wr.of_below hb).trans hT.2⟩
end
end Go.Proofs.YtemohiainfllcaaGreat

/- Walks: an object is noted as laid; the law of an append at a step of a region that draws its order. -/
namespace Go.Proofs.YtemohiainfllcaaGreat
open Go.RowKit Hp
theorem info_int : ∃ i, Tryz.prog.info? 3 = some i ∧ i.size = 1 ∧ i.bytes = 8 ∧ i.zero = some (.int .i64 0) := by
  have h : ((Tryz.prog.info? 3).map fun i => (i.zero, i.size, i.bytes)) = some (some (.int .i64 0), 1, 8) := by kernel_rfl
  obtain ⟨i, hi, he⟩ := Option.map_eq_some_iff.1 h
  injection he with e1 e2
  injection e2 with e2 e3
  exact ⟨i, hi, e2, e3, e1⟩
section
variable {P : Program} (w : World)
theorem wp_append_row {op : Oper} {a : Act} {K : Act → World → Prop} {Q : Exit → Act → World → Prop} (s x : Operand) (t : TypeId)
    (ho : op.op = .call { callee := .builtin .append, args := #[s, x], argTypes := #[t, t] })
    (e : TypeId) (i : TypeInfo) (z : Value) (size bytes : Nat) (ht : P.underlying t = some (.slice e)) (hi : P.info? e = some i) (hz : i.zero = some z)
    (hsize : i.size = size) (hby : i.bytes = bytes) (hzs : z.cells.size = size) (hsz : 0 < size)
    (o : Own) (tg : Tag) (v : Value) (n : Nat) (xs : List Value) (hs : a.eval s = v) (hown : Row w o tg e size v n xs)
    (ad : Addr) (m c : Nat) (news : List Value) (hx : a.eval x = .slice (some ad) m c) (hl : news.length = m * size) (hnews : ∀ j u, news[j]? = some u → w.cell? (ad.add j) = some u) (h1 : ∀ u ∈ news, u.oneCell' = true)
    (h63 : n + m ≤ maxLen) (hbytes : (n + m) * bytes ≤ 140737488355328)
    (h : ∀ v' w', Row w' (ext o w.heap.size tg) tg e size v' (n + m) (xs ++ news) → Stp (fun u => u = tg) o (ext o w.heap.size tg) w w' → K (a.put op.dst v') w') : op.wp P a w K Q := by
  obtain ⟨v', w', hr, h2, h3⟩ := run_append_row (P := P) w t op.type e i z size bytes ht hi hz hsize hby hzs hsz o tg v n xs hown ad m c news hl hnews h1 h63 hbytes
  unfold Oper.wp execOp
  simp only [ho, resolve, invoke, builtin, Sem.run_bind, Sem.run_pure, Result.andThen_ok, List.map_toArray, List.map_cons, List.map_nil, hs, hx, hr]
  exact h v' w' h2 h3
theorem step_append_row {ops : Array Oper} {op : Oper} {a : Act} {K : Act → World → Prop} {Q : Exit → Act → World → Prop} {E : Prop} (hgd : op.guard = none) (s x : Operand) (t : TypeId)
    (ho : op.op = .call { callee := .builtin .append, args := #[s, x], argTypes := #[t, t] })
    (e : TypeId) (i : TypeInfo) (z : Value) (size bytes : Nat) (ht : P.underlying t = some (.slice e)) (hi : P.info? e = some i) (hz : i.zero = some z)
    (hsize : i.size = size) (hby : i.bytes = bytes) (hzs : z.cells.size = size) (hsz : 0 < size)
    (o : Own) (tg : Tag) (v : Value) (n : Nat) (xs : List Value) (hs : a.eval s = v) (hown : Row w o tg e size v n xs)
    (ad : Addr) (m c : Nat) (news : List Value) (hx : a.eval x = .slice (some ad) m c) (hl : news.length = m * size) (hnews : ∀ j u, news[j]? = some u → w.cell? (ad.add j) = some u) (h1 : ∀ u ∈ news, u.oneCell' = true)
    (h63 : n + m ≤ maxLen) (hbytes : (n + m) * bytes ≤ 140737488355328)
    (h : ∀ v' w', Row w' (ext o w.heap.size tg) tg e size v' (n + m) (xs ++ news) → Stp (fun u => u = tg) o (ext o w.heap.size tg) w w' → K (a.put op.dst v') w') :
    if Region.wanted op (yielded ops a.tmps) = true then Oper.wp P op a w K Q else E := by
  have hw : Region.wanted op (yielded ops a.tmps) = true := by simp [Region.wanted, hgd]
  rw [if_pos hw]
  exact wp_append_row w s x t ho e i z size bytes ht hi hz hsize hby hzs hsz o tg v n xs hs hown ad m c news hx hl hnews h1 h63 hbytes h
end
theorem Row.slc {w : World} {o : Own} {t : Tag} {e : TypeId} {size n : Nat} {v : Value} {xs : List Value} (h : Row w o t e size v n xs) : ∃ pa cp, v = .slice pa n cp := by
  rcases h.own.2 with ⟨rfl, rfl⟩ | ⟨g, cap, cur, rfl, _⟩
  · exact ⟨_, _, rfl⟩
  · exact ⟨_, _, rfl⟩
theorem news_one {w : World} {B : Nat} {v : Value} {t : TypeId} (h : Blk w B #[v] t) : ∀ j u, [v][j]? = some u → w.cell? ((⟨B, 0, none⟩ : Addr).add j) = some u := fun j u hu => by
  have hadd : (⟨B, 0, none⟩ : Addr).add j = ⟨B, j, none⟩ := by unfold Addr.add; split <;> simp_all
  rw [hadd, h.cell]
  simpa using hu
theorem one_i64 {z : Int} : ∀ u ∈ [Value.int .i64 z], u.oneCell' = true := by intro u hu; simp at hu; subst hu; rfl
set_option maxRecDepth 100000 in
set_option maxHeartbeats 4000000 in
theorem taken_f {w : World} {o : Own} {tg t0 : Tag} {h n sz top otop : Nat} {ps : List Value} {v0 x0 x1 x2 x3 x4 x5 vc vo : Value} (hb : Blk w h #[v0, .int .i64 1, .int .i64 sz, .int .i64 top, .int .i64 (1 + (sz : Int)), .int .i64 sz, .int .i64 otop, vc, vo, .int .i64 0, x0, x1, x2, x3, x4, x5] 154)
    (hr : Row w o tg 3 1 vc n ps) (hn : n < 16384) (hoh : o h = t0) (ht : t0 ≠ tg) (p t : Nat) :
    Calls Tryz.prog 164 #[.pointer (some ⟨h, 0, none⟩), spV 1 sz t, .int .i64 p] w fun e w' => e = .returned (.tuple #[]) ∧
      ∃ vc' o', Blk w' h #[v0, .int .i64 1, .int .i64 sz, .int .i64 t, .int .i64 (1 + (sz : Int)), .int .i64 sz, .int .i64 otop, vc', vo, .int .i64 0, x0, x1, x2, x3, x4, x5] 154 ∧ Row w' o' tg 3 1 vc' (n + 1) (ps ++ [nv p]) ∧ Stp (fun t => t = t0 ∨ t = tg) o o' w w' := by
  have hu64 := Tryz.underlying24
  have c := hb.cell
  have z := hb.free
  have s := hb.lt
  have hne : w.heap.size ≠ h := by omega
  go_enter Tryz.func164, Tryz.ntmps164
  go_upto_region 1 with fail
  have hc9 : w.cell? ⟨h, 9, none⟩ = some (.int .i64 0) := by rw [c]; rfl
  obtain ⟨W, hW⟩ : ∃ W : World, W = ((((w.setCell ⟨h, 1, none⟩ (.int .i64 1)).setCell ⟨h, 2, none⟩ (.int .i64 sz)).setCell ⟨h, 3, none⟩ (.int .i64 t)).alloc (.cells #[.int .i64 1, .int .i64 sz, .int .i64 t] 150)).drew := ⟨_, rfl⟩
  have jW := Blk.alloc (((hb.set 1 (.int .i64 1)).set 2 (.int .i64 sz)).set 3 (.int .i64 t)) (.cells #[.int .i64 1, .int .i64 sz, .int .i64 t] 150)
  have jB := Blk.new_at ((((w.setCell ⟨h, 1, none⟩ (.int .i64 1)).setCell ⟨h, 2, none⟩ (.int .i64 sz)).setCell ⟨h, 3, none⟩ (.int .i64 t))) #[.int .i64 1, .int .i64 sz, .int .i64 t] #[.int .i64 1, .int .i64 sz, .int .i64 t] 150 w.heap.size (by simp) rfl
  have jW := drewB jW
  have jB := drewB jB
  have k9 := jW.cell 9
  have b0 := jB.cell 0
  have b1 := jB.cell 1
  have b2 := jB.cell 2
  simp at k9 b0 b1 b2
  go_region_held3 (fun w' => w'.cell? ⟨h, 9, none⟩ = some (.int .i64 0) ∧ w'.cell? ⟨w.heap.size, 0, none⟩ = some (.int .i64 1) ∧ w'.cell? ⟨w.heap.size, 1, none⟩ = some (.int .i64 sz) ∧ w'.cell? ⟨w.heap.size, 2, none⟩ = some (.int .i64 t)) (go_keep) (fail)
  rw [← hW]
  have hSt : Stp (fun t => t = t0) o o w W := by
    rw [hW]
    exact ((((((Stp.refl _ o w).setCell (by simpa using hoh) _).setCell (by simpa using hoh) _).setCell (by simpa using hoh) _).alloc _).drew)
  have jW2 : Blk W h ((((#[v0, .int .i64 1, .int .i64 sz, .int .i64 top, .int .i64 (1 + (sz : Int)), .int .i64 sz, .int .i64 otop, vc, vo, .int .i64 0, x0, x1, x2, x3, x4, x5] : Array Value).setIfInBounds 1 (.int .i64 1)).setIfInBounds 2 (.int .i64 sz)).setIfInBounds 3 (.int .i64 t)) 154 := by rw [hW]; exact jW
  simp at jW2
  have hr2 := hr.stp hSt (fun e => ht e.symm)
  clear jW jB k9 b0 b1 b2 hW c z s hc9 hr hb hne
  have c := jW2.cell
  have z := jW2.free
  have s := jW2.lt
  go_upto_region 2 with fail
  obtain ⟨iI, hi, hsI, hyI, hzI⟩ := info_int
  have k9 : W.cell? ⟨h, 9, none⟩ = some (.int .i64 0) := by rw [c]; rfl
  have k7 : W.cell? ⟨h, 7, none⟩ = some vc := by rw [c]; rfl
  have hml : n + 1 ≤ maxLen := by simp only [maxLen]; omega
  have hmb : (n + 1) * 8 ≤ 140737488355328 := by omega
  have jn := Blk.new W.drew #[.int .i64 p] 3
  have rn : Row (W.drew.alloc (.cells #[.int .i64 p] 3)) o tg 3 1 vc n ps := hr2.below (balloc (bdrew (bsame W)) _)
  have hkeep := fun (w1 : World) (o1 : Own) (hst : Stp (fun u => u = tg) o o1 (W.drew.alloc (.cells #[.int .i64 p] 3)) w1) => (Blk.alloc (drewB jW2) (.cells #[.int .i64 p] 3)).stp hst (by rw [hoh]; exact ht)
  have hfin := fun (w1 : World) (o1 : Own) (pa : Option Addr) (cp : Nat) (hown : Row w1 o1 tg 3 1 (.slice pa (n + 1) cp) (n + 1) (ps ++ [.int .i64 p])) (hst : Stp (fun u => u = tg) o o1 (W.drew.alloc (.cells #[.int .i64 p] 3)) w1) =>
    show ∃ vc' o', Blk (w1.setCell ⟨h, 7, none⟩ (.slice pa (n + 1) cp)) h #[v0, .int .i64 1, .int .i64 sz, .int .i64 t, .int .i64 (1 + (sz : Int)), .int .i64 sz, .int .i64 otop, vc', vo, .int .i64 0, x0, x1, x2, x3, x4, x5] 154 ∧ Row (w1.setCell ⟨h, 7, none⟩ (.slice pa (n + 1) cp)) o' tg 3 1 vc' (n + 1) (ps ++ [nv p]) ∧ Stp (fun t => t = t0 ∨ t = tg) o o' w (w1.setCell ⟨h, 7, none⟩ (.slice pa (n + 1) cp)) from by
      have hlt : h < (W.drew.alloc (.cells #[.int .i64 p] 3)).heap.size := (Blk.alloc (drewB jW2) _).lt
      have ho1 : o1 h = t0 := by rw [hst.tags h hlt]; exact hoh
      have k1 : Stp (fun t => t = t0) o1 o1 w1 (w1.setCell ⟨h, 7, none⟩ (.slice pa (n + 1) cp)) := (Stp.refl _ o1 w1).setCell (by simpa using ho1) _
      refine ⟨_, o1, (hkeep _ _ hst).set 7 _, hown.stp k1 (fun e => ht e.symm), ?_⟩
      exact ((hSt.mono fun _ e => Or.inl e).trans (Stp.of_below (balloc (bdrew (bsame W)) _))).trans ((hst.mono fun _ e => Or.inr e).trans (k1.mono fun _ e => Or.inl e))
  go_region_law ((refine step_append_row _ (by rfl) _ _ _ (by rfl) 3 iI _ 1 8 hu64 hi hzI hsI hyI (by rfl) (by decide) o tg vc n ps (by rfl) rn ⟨W.heap.size, 0, none⟩ 1 1 [.int .i64 p] (by rfl) (by rfl) (news_one jn) one_i64 hml hmb ?_; intro v' w1 hown hst; obtain ⟨pa, cp, rfl⟩ := hown.slc; have jX := hkeep _ _ hst; have cX := jX.cell; have zX := jX.free; have sX := jX.lt))
  all_goals
    go_wp2_with fail
    go_end0
    exact ⟨rfl, hfin _ _ _ _ hown hst⟩
end Go.Proofs.YtemohiainfllcaaGreat

/- Walks: how much room a heap has; the first steps of Alloc. -/
namespace Go.Proofs.YtemohiainfllcaaGreat
open Go.RowKit Hp
attribute [local go_sem ↓] Go.wp_at_zero Go.wp_at_succ
section
variable {w : World} {o : Own} {l : HLay} {H : Hp} {vc vo vw vf : Value} {f : Nat → Nat}
theorem Hp.owed_zero (hk : H.ok) (hm : H.moving = false) : H.owed = 0 := by
  rw [hk.owe, hk.still hm]; rfl
theorem HpIn.cells_f (h : HpIn w o l H vc vo vw vf f) (hu : H.use = false) : Blk w l.h #[.pointer (some ⟨l.a, 0, none⟩), .int .i64 1, .int .i64 H.size, .int .i64 H.top, .int .i64 (1 + (H.size : Int)), .int .i64 H.size, .int .i64 H.otop, vc, vo, .int .i64 0, .bool H.moving, .int .i64 H.owed, .int .i64 H.scan, .int .i64 H.serial, vw, vf] 154 := by
  have := h.hb
  unfold Hp.cells at this
  rwa [hu, if_neg (by simp)] at this
theorem Hp.top_f (hk : H.ok) (hu : H.use = false) : 1 ≤ H.top ∧ H.top + H.owed ≤ 1 + H.size := by
  have h1 := hk.room
  have h2 := laid_len _ _ _ hk.cl hk.ck
  unfold Hp.base at h1 h2
  rw [hu] at h1 h2
  simp at h1 h2
  omega
set_option maxRecDepth 100000 in
theorem room_f (h : HpIn w o l H vc vo vw vf f) (hk : H.ok) (hu : H.use = false) (hm : H.moving = false) :
    Calls Tryz.prog 77 #[.pointer (some ⟨l.h, 0, none⟩)] w fun e w' => e = .returned (.int .i64 ((1 + H.size - H.top : Nat) : Int)) ∧ Below w.heap.size w w' := by
  have hb := h.cells_f hu
  have ht := Hp.top_f hk hu
  have hz := Hp.owed_zero hk hm
  have hs := hk.sz
  rw [hz] at hb ht
  obtain ⟨sz, use, cur, top, mv, old, otop, owed, scan, serial, weak, final⟩ := H
  simp only at hb ht hs ⊢
  have HL := Lib.hid (fun w => left_any (b := 1) (s := sz) (t := top) ⟨by omega, by omega, by omega, by omega⟩ w)
  have hr : ((1 + sz - top : Nat) : Int) = 1 + (sz : Int) - (top : Int) := by omega
  have hr0 : (0 : Int) ≤ ((1 + sz - top : Nat) : Int) := by omega
  have hr1 : ((1 + sz - top : Nat) : Int) ≤ 65536 := by omega
  generalize ((1 + sz - top : Nat) : Int) = r at *
  clear h hk hu hm hz hr
  have lA := fun (e : Later w) (i : Nat) => Later.cell hb e i
  go_enter Tryz.func77, Tryz.ntmps77
  have cc := hb.cell
  go_upto_region 3 with fail
  clear cc
  refine wp_region_later (by kernel_rfl) (by kernel_rfl) ?_
  repeat (go_big_quiet_step ((go_at_call 136; exact later_of (HL.out _))))
  refine wpQuiet_nil ?_
  rintro _ ⟨⟨wt, hbt⟩, rfl⟩
  go_wp2_with fail
  go_ret
  exact ⟨rfl, hbt⟩
end
end Go.Proofs.YtemohiainfllcaaGreat

/- What a heap is like behind an object that was laid; owners named anew. -/
namespace Go.Proofs.YtemohiainfllcaaGreat
open Go.RowKit Hp
theorem Stp.of_wr {T : Tag → Prop} {o : Own} {b : Nat} {w w' : World} (h : Wr b w w') (ht : T (o b)) : Stp T o o w w' :=
  ⟨h.os, h.tape, h.output, h.size, fun _ _ => rfl, fun k hk hn => h.block k hk fun e => hn (by rw [e]; exact ht)⟩
theorem Wds.stp {T : Tag → Prop} {o o' : Own} {w w' : World} {a wd L : Nat} {f : Nat → Nat} (h : Wds w a wd L f) (k : Stp T o o' w w') (h1 : ¬ T (o a)) (h2 : ¬ T (o wd)) : Wds w' a wd L f := by
  obtain ⟨cs, hb, hc⟩ := h.words
  exact ⟨h.arena.stp k h1, h.ne, ⟨cs, hb.stp k h2, hc⟩, h.le⟩
theorem Row.retag {w : World} {o o' : Own} {t : Tag} {e : TypeId} {size : Nat} {v : Value} {n : Nat} {xs : List Value} (h : Row w o t e size v n xs) (he : ∀ b, b < w.heap.size → o' b = o b) : Row w o' t e size v n xs := by
  refine ⟨h.own, fun k hk => ?_⟩
  rcases h.own.2 with ⟨rfl, _⟩ | ⟨g, cap, cur, rfl, _, hg, _⟩
  · simp [Value.ownBlock] at hk
  · have e1 : g = k := by simpa [Value.ownBlock] using hk
    subst e1
    rw [he g (Array.getElem?_eq_some_iff.1 hg).1]; exact h.tag g rfl
section
variable {w : World} {o : Own} {l : HLay} {H : Hp} {vc vo vw vf : Value} {f : Nat → Nat}
theorem HpIn.retag {o' : Own} (h : HpIn w o l H vc vo vw vf f) (he : ∀ b, b < w.heap.size → o' b = o b) : HpIn w o' l H vc vo vw vf f :=
  ⟨h.hb, h.wds, h.rc.retag he, h.ro.retag he, h.rw.retag he, h.rf.retag he, (he _ h.hb.lt).trans h.oh, (he _ h.wds.arena.lt).trans h.oa, (he _ h.wds.lt).trans h.ow, h.obs, h.olds⟩
/-- A heap of which nothing goes from one space to the other, and nothing ever went. -/
structure HpF (H : Hp) : Prop where
  ok : H.ok
  use : H.use = false
  mov : H.moving = false
  wl : H.weak.length ≤ H.cur.length
  fl : H.final.length ≤ H.cur.length
def Hp.lay (H : Hp) (s : Shp) : Hp :=
  { H with cur := H.cur ++ [(H.top, Ob.new s (H.serial + 1))], top := H.top + rnd (3 + s.p + s.d), serial := H.serial + 1,
           weak := if s.weak then H.weak ++ [H.top] else H.weak, final := if s.final then H.final ++ [H.top] else H.final }
theorem HpF.len (h : HpF H) : H.cur.length ≤ 4096 := by
  have h1 := laid_len _ _ _ h.ok.cl h.ok.ck
  have h2 := h.ok.room
  have h3 := h.ok.sz
  unfold Hp.base at h1 h2
  rw [h.use] at h1 h2
  simp at h1 h2
  omega
theorem HpF.lay (h : HpF H) {s : Shp} (hs : s.ok) (hr : H.top + rnd (3 + s.p + s.d) ≤ 1 + H.size) (hser : H.serial < 1099511627776) : HpF (H.lay s) := by
  have hn := Ob.new_ok hs (H.serial + 1) (by omega)
  have hz := Hp.owed_zero h.ok h.mov
  obtain ⟨⟨k1, k2, k3, k4, k5, k6, k7, k8, k9, k10, k11, k12⟩, hu, hm, hw, hf⟩ := h
  refine ⟨⟨k1, ?_, ?_, k4, k5, k6, k7, k8, ?_, ?_, k11, k12⟩, hu, hm, ?_, ?_⟩
  · exact laid_snoc _ _ _ _ k2
  · intro x hx
    rcases List.mem_append.1 hx with hx | hx
    · exact k3 x hx
    · rw [List.mem_singleton.1 hx]; exact hn
  · show H.top + rnd (3 + s.p + s.d) + H.owed ≤ H.base H.use + H.size
    unfold Hp.base; rw [hu]; simp; omega
  · show H.serial + 1 ≤ _
    omega
  · show List.length (if s.weak then _ else _) ≤ (H.cur ++ _).length
    split <;> simp <;> omega
  · show List.length (if s.final then _ else _) ≤ (H.cur ++ _).length
    split <;> simp <;> omega
theorem HpIn.lay_of (h : HpIn w o l H vc vo vw vf f) (hF : HpF H) (s : Shp) {w' : World} {o' : Own} {vc' vw' vf' : Value}
    (hb : Blk w' l.h ((H.lay s).cells l.a vc' vo vw' vf') 154) (hw : Wds w' l.a l.wd (2 * H.size + 1) (laidF f H.top s (H.serial + 1)))
    (rc : Row w' o' (l.id, 3) 3 1 vc' (H.cur.length + 1) ((H.cur.map fun x => nv x.1) ++ [nv H.top])) (ro : Row w' o' (l.id, 4) 3 1 vo H.old.length (H.old.map fun x => nv x.1))
    (rw' : Row w' o' (l.id, 5) 3 1 vw' (H.lay s).weak.length ((H.lay s).weak.map nv)) (rf : Row w' o' (l.id, 6) 3 1 vf' (H.lay s).final.length ((H.lay s).final.map nv))
    (ht : ∀ b, b < w.heap.size → o' b = o b) : HpIn w' o' l (H.lay s) vc' vo vw' vf' (laidF f H.top s (H.serial + 1)) := by
  refine ⟨hb, hw, ?_, ?_, rw', rf, (ht _ h.hb.lt).trans h.oh, (ht _ h.wds.arena.lt).trans h.oa, (ht _ h.wds.lt).trans h.ow, ?_, ?_⟩
  · show Row w' o' (l.id, if H.use then 4 else 3) _ 1 vc' (H.cur ++ [(H.top, Ob.new s (H.serial + 1))]).length ((H.cur ++ [(H.top, Ob.new s (H.serial + 1))]).map fun x => nv x.1)
    rw [hF.use]
    simpa using rc
  · show Row w' o' (l.id, if H.use then 3 else 4) _ 1 vo H.old.length (H.old.map fun x => nv x.1)
    rw [hF.use]
    simpa using ro
  · intro x hx
    rcases List.mem_append.1 (show x ∈ H.cur ++ [(H.top, Ob.new s (H.serial + 1))] from hx) with hx | hx
    · refine (h.obs x hx).of_eq (hF.ok.ck x hx) fun j h1 h2 => laidF_other _ _ _ _ _ (.inl ?_)
      have h3 := laid_mem _ _ _ hF.ok.cl x hx
      have h4 := rnd_ge _ (Ob.size_bd (hF.ok.ck x hx)).2
      omega
    · rw [List.mem_singleton.1 hx]; exact ObAt.new _ _ _ _
  · intro x hx
    have : H.old = [] := hF.ok.still hF.mov
    rw [show (H.lay s).old = H.old from rfl, this] at hx
    cases hx
end
end Go.Proofs.YtemohiainfllcaaGreat
