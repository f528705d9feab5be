/- Walks: a kind's word and parts (form), and whether a deed is right (Right). -/
import Derived.Test.YthchcnbgjklbhaaDoorBase
import Derived.Test.YthchcnbgjklbhaaDoorPgPure
namespace Go.Proofs.YthchcnbgjklbhaaDoor
open Go.RowKit
/-- The method that tells a field's place. -/
def pfn : Nat → Value
  | 1 => .func (.func 31) #[] #[]
  | 2 => .func (.func 32) #[] #[]
  | 3 => .func (.func 33) #[] #[]
  | _ => .func (.func 34) #[] #[]
def pcells (ps : List Pg.Pt) : List Value := ps.flatMap fun p => [pfn p.f, .int .i64 p.lo, .int .i64 p.hi]
/-- Parts in memory. -/
def PartsAt (w : World) (v : Value) (ps : List Pg.Pt) : Prop :=
  ps = [] ∧ v = .slice none 0 0 ∨ ∃ g, v = .slice (some ⟨g, 0, none⟩) ps.length ps.length ∧ Blk w g (pcells ps).toArray 52
def wordB (k : Int) : ByteArray := (Pg.wordS k).toUTF8
/-- What form tells. -/
def FormSaid (k : Int) (w : World) : Prop := Calls Tryd.prog 20 #[.int .i64 k] w fun e w' =>
    ∃ v, e = .returned (.tuple #[.string (wordB k), v]) ∧ PartsAt w' v (Pg.parts k) ∧ Below w.heap.size w w'
set_option maxHeartbeats 1000000 in
theorem form_1 (w : World) : FormSaid 1 w := by
  unfold FormSaid
  go_enter Tryd.func20, Tryd.ntmps20
  go_wp2
  go_region
  go_wp2
  go_ret2
  refine ⟨_, rfl, .inr ⟨_, rfl, Blk.new_at _ _ _ _ _ (by simp) rfl⟩, ?_⟩
  repeat (first | exact Below.refl _ _ | refine Below.drew ?_ | refine balloc ?_ _)
set_option maxHeartbeats 1000000 in
theorem form_2 (w : World) : FormSaid 2 w := by
  unfold FormSaid
  go_enter Tryd.func20, Tryd.ntmps20
  go_wp2
  go_region
  go_wp2
  go_ret2
  refine ⟨_, rfl, .inr ⟨_, rfl, Blk.new_at _ _ _ _ _ (by simp) rfl⟩, ?_⟩
  repeat (first | exact Below.refl _ _ | refine Below.drew ?_ | refine balloc ?_ _)
set_option maxHeartbeats 1000000 in
theorem form_3 (w : World) : FormSaid 3 w := by
  unfold FormSaid
  go_enter Tryd.func20, Tryd.ntmps20
  go_wp2
  go_region
  go_wp2
  go_ret2
  refine ⟨_, rfl, .inr ⟨_, rfl, Blk.new_at _ _ _ _ _ (by simp) rfl⟩, ?_⟩
  repeat (first | exact Below.refl _ _ | refine Below.drew ?_ | refine balloc ?_ _)
set_option maxHeartbeats 1000000 in
theorem form_4 (w : World) : FormSaid 4 w := by
  unfold FormSaid
  go_enter Tryd.func20, Tryd.ntmps20
  go_wp2
  go_region
  go_wp2
  go_ret2
  refine ⟨_, rfl, .inr ⟨_, rfl, Blk.new_at _ _ _ _ _ (by simp) rfl⟩, ?_⟩
  repeat (first | exact Below.refl _ _ | refine Below.drew ?_ | refine balloc ?_ _)
set_option maxHeartbeats 1000000 in
theorem form_5 (w : World) : FormSaid 5 w := by
  unfold FormSaid
  go_enter Tryd.func20, Tryd.ntmps20
  go_wp2
  go_region
  go_wp2
  go_ret2
  refine ⟨_, rfl, .inr ⟨_, rfl, Blk.new_at _ _ _ _ _ (by simp) rfl⟩, ?_⟩
  repeat (first | exact Below.refl _ _ | refine Below.drew ?_ | refine balloc ?_ _)
set_option maxHeartbeats 1000000 in
theorem form_6 (w : World) : FormSaid 6 w := by
  unfold FormSaid
  go_enter Tryd.func20, Tryd.ntmps20
  go_wp2
  go_region
  go_wp2
  go_ret2
  refine ⟨_, rfl, .inr ⟨_, rfl, Blk.new_at _ _ _ _ _ (by simp) rfl⟩, ?_⟩
  repeat (first | exact Below.refl _ _ | refine Below.drew ?_ | refine balloc ?_ _)
set_option maxHeartbeats 1000000 in
theorem form_7 (w : World) : FormSaid 7 w := by
  unfold FormSaid
  go_enter Tryd.func20, Tryd.ntmps20
  go_wp2
  go_region
  go_wp2
  go_ret2
  refine ⟨_, rfl, .inr ⟨_, rfl, Blk.new_at _ _ _ _ _ (by simp) rfl⟩, ?_⟩
  repeat (first | exact Below.refl _ _ | refine Below.drew ?_ | refine balloc ?_ _)
set_option maxHeartbeats 1000000 in
theorem form_8 (w : World) : FormSaid 8 w := by
  unfold FormSaid
  go_enter Tryd.func20, Tryd.ntmps20
  go_wp2
  go_region
  go_wp2
  go_ret2
  refine ⟨_, rfl, .inr ⟨_, rfl, Blk.new_at _ _ _ _ _ (by simp) rfl⟩, ?_⟩
  repeat (first | exact Below.refl _ _ | refine Below.drew ?_ | refine balloc ?_ _)
set_option maxHeartbeats 1000000 in
theorem form_9 (w : World) : FormSaid 9 w := by
  unfold FormSaid
  go_enter Tryd.func20, Tryd.ntmps20
  go_wp2
  go_region
  go_wp2
  go_ret2
  refine ⟨_, rfl, .inr ⟨_, rfl, Blk.new_at _ _ _ _ _ (by simp) rfl⟩, ?_⟩
  repeat (first | exact Below.refl _ _ | refine Below.drew ?_ | refine balloc ?_ _)
set_option maxHeartbeats 1000000 in
theorem form_10 (w : World) : FormSaid 10 w := by
  unfold FormSaid
  go_enter Tryd.func20, Tryd.ntmps20
  go_wp2
  go_region
  go_wp2
  go_ret2
  refine ⟨_, rfl, .inr ⟨_, rfl, Blk.new_at _ _ _ _ _ (by simp) rfl⟩, ?_⟩
  repeat (first | exact Below.refl _ _ | refine Below.drew ?_ | refine balloc ?_ _)
set_option maxHeartbeats 1000000 in
theorem form_11 (w : World) : FormSaid 11 w := by
  unfold FormSaid
  go_enter Tryd.func20, Tryd.ntmps20
  go_wp2
  go_region
  go_wp2
  go_ret2
  refine ⟨_, rfl, .inr ⟨_, rfl, Blk.new_at _ _ _ _ _ (by simp) rfl⟩, ?_⟩
  repeat (first | exact Below.refl _ _ | refine Below.drew ?_ | refine balloc ?_ _)
set_option maxHeartbeats 1000000 in
theorem form_12 (w : World) : FormSaid 12 w := by
  unfold FormSaid
  go_enter Tryd.func20, Tryd.ntmps20
  go_wp2
  go_region
  go_wp2
  go_ret2
  refine ⟨_, rfl, .inr ⟨_, rfl, Blk.new_at _ _ _ _ _ (by simp) rfl⟩, ?_⟩
  repeat (first | exact Below.refl _ _ | refine Below.drew ?_ | refine balloc ?_ _)
set_option maxHeartbeats 1000000 in
theorem form_13 (w : World) : FormSaid 13 w := by
  unfold FormSaid
  go_enter Tryd.func20, Tryd.ntmps20
  go_wp2
  go_region
  go_wp2
  go_ret2
  refine ⟨_, rfl, .inr ⟨_, rfl, Blk.new_at _ _ _ _ _ (by simp) rfl⟩, ?_⟩
  repeat (first | exact Below.refl _ _ | refine Below.drew ?_ | refine balloc ?_ _)
set_option maxHeartbeats 1000000 in
theorem form_14 (w : World) : FormSaid 14 w := by
  unfold FormSaid
  go_enter Tryd.func20, Tryd.ntmps20
  go_wp2
  go_wp2
  go_ret2
  refine ⟨_, rfl, .inl ⟨rfl, rfl⟩, ?_⟩
  repeat (first | exact Below.refl _ _ | refine Below.drew ?_ | refine balloc ?_ _)
set_option maxHeartbeats 1000000 in
theorem form_none (k : Int) (hk : k < 1 ∨ 14 < k) (w : World) : FormSaid k w := by
  have hw : wordB k = ⟨#[]⟩ := by
    unfold wordB Pg.wordS
    repeat (rw [if_neg (by omega)])
    rfl
  have hp : Pg.parts k = [] := by
    unfold Pg.parts
    repeat (rw [if_neg (by omega)])
  unfold FormSaid
  rw [hw, hp]
  clear hw hp
  have n1 : (k == 1) = false := beq_eq_false_iff_ne.2 (by omega)
  have n2 : (k == 2) = false := beq_eq_false_iff_ne.2 (by omega)
  have n3 : (k == 3) = false := beq_eq_false_iff_ne.2 (by omega)
  have n4 : (k == 4) = false := beq_eq_false_iff_ne.2 (by omega)
  have n5 : (k == 5) = false := beq_eq_false_iff_ne.2 (by omega)
  have n6 : (k == 6) = false := beq_eq_false_iff_ne.2 (by omega)
  have n7 : (k == 7) = false := beq_eq_false_iff_ne.2 (by omega)
  have n8 : (k == 8) = false := beq_eq_false_iff_ne.2 (by omega)
  have n9 : (k == 9) = false := beq_eq_false_iff_ne.2 (by omega)
  have n10 : (k == 10) = false := beq_eq_false_iff_ne.2 (by omega)
  have n11 : (k == 11) = false := beq_eq_false_iff_ne.2 (by omega)
  have n12 : (k == 12) = false := beq_eq_false_iff_ne.2 (by omega)
  have n13 : (k == 13) = false := beq_eq_false_iff_ne.2 (by omega)
  have n14 : (k == 14) = false := beq_eq_false_iff_ne.2 (by omega)
  clear hk
  go_enter Tryd.func20, Tryd.ntmps20
  go_wp2
  go_ret2
  refine ⟨_, rfl, .inl ⟨rfl, rfl⟩, ?_⟩
  repeat (first | exact Below.refl _ _ | refine Below.drew ?_ | refine balloc ?_ _)
theorem form_any (k : Int) (w : World) : FormSaid k w := by
  by_cases h : 1 ≤ k ∧ k ≤ 14
  · rcases Pg.kinds h with rfl | rfl | rfl | rfl | rfl | rfl | rfl | rfl | rfl | rfl | rfl | rfl | rfl | rfl
    · exact form_1 w
    · exact form_2 w
    · exact form_3 w
    · exact form_4 w
    · exact form_5 w
    · exact form_6 w
    · exact form_7 w
    · exact form_8 w
    · exact form_9 w
    · exact form_10 w
    · exact form_11 w
    · exact form_12 w
    · exact form_13 w
    · exact form_14 w
  · exact form_none k (by omega) w
end Go.Proofs.YthchcnbgjklbhaaDoor
