/- The first calls of the laws of chapter 14. -/
import Derived.Test.YtemohiainfllcaaGreatKi
namespace Go.Proofs.YtemohiainfllcaaGreat
open Go.RowKit Hp
attribute [local go_sem ↓] Go.wp_at_zero Go.wp_at_succ
namespace Aw
def s1 : Shp := ⟨0, 1, false, false⟩
def A0 : Stt := Stt.fresh 60 2 9 9 (bnd 99).toNat
def A1 : Stt := A0.begin 0
def A2 : Stt := (A1.alloc 0 s1).S
def A3 : Stt := (A2.write 0 1 0 5).S
def A4 : Stt := (A3.commit 0).S
def A5 : Stt := A4.begin 0
def A6 : Stt := A5.begin 1
def A7 : Stt := (A6.write 0 1 0 6).S
def A8 : Stt := (A7.read 1 1 0).S
def A9 : Stt := if (A8.t 0).live then A8.abort 0 else A8
def A10 : Stt := A9.begin 1
def A11 : Stt := (A10.read 1 1 0).S
end Aw
instance (s : Shp) : Decidable s.ok := by unfold Shp.ok; infer_instance
set_option maxRecDepth 100000 in
set_option maxHeartbeats 4000000 in
theorem awake14_any (w : World) : Calls Tryz.prog 12 #[] w fun e w' => e = .returned (.bool true) ∧ Below w.heap.size w w' := by
  have hfree : ∀ b, b < w.heap.size → ((fun _ => (7, 0) : Own) b).1 ≠ 0 := fun b _ => by simp
  have HN := Lib.hid (c_new 60 2 9 9 99 (by omega) (by omega) (by omega) (by omega) (by omega) (by omega) (fun _ => (7, 0)) 0 w hfree)
  have HE := Lib.hid (fun w => new_no 60 9 9 99 w)
  clear hfree
  go_enter Tryz.func12, Tryz.ntmps12
  go_wp2_with fail
  refine HN.out.mono ?_
  rintro e w0 ⟨y, rfl, hid, hL⟩
  have HID := Lib.hid hid
  obtain ⟨o0, hS0, hI0, hs0⟩ := show Left y Aw.A0 (fun _ => (7, 0)) w w0 from hL
  clear hL hid
  go_wp2_with fail
  refine (HE.out _).mono ?_
  rintro e w' ⟨rfl, rfl⟩
  go_wp2_with fail
  refine (c_begin (i := 0) hS0 hI0 (by decide +kernel) (by decide +kernel)).mono ?_
  rintro e w1 ⟨he, hL⟩
  rw [show (if (Aw.A0.t 0).live then (140 : Int) else 0) = 0 from by decide +kernel] at he
  subst he
  obtain ⟨o1, hS1, hI1, hs'⟩ := show Left y Aw.A1 o0 w0 w1 from hL
  have hs1 := hs0.trans hs'
  clear hL hs' hs0 hS0 hI0
  go_wp2_with fail
  refine (c_alloc (i := 0) hS1 hI1 (by decide +kernel) Aw.s1 (by decide +kernel) rfl (by decide +kernel)).mono ?_
  rintro e w2 ⟨he, hL⟩
  rw [show (Aw.A1.alloc 0 Aw.s1).v = 1 from by decide +kernel, show (Aw.A1.alloc 0 Aw.s1).e = 0 from by decide +kernel] at he
  subst he
  obtain ⟨o2, hS2, hI2, hs'⟩ := show Left y Aw.A2 o1 w1 w2 from hL
  have hs2 := hs1.trans hs'
  clear hL hs' hs1 hS1 hI1
  go_wp2_with fail
  refine (c_write (i := 0) hS2 hI2 (by decide +kernel) (p := 1) (by decide +kernel) 0 5 (by omega)).mono ?_
  rintro e w3 ⟨he, hL⟩
  rw [show (Aw.A2.write 0 1 0 5).e = 0 from by decide +kernel] at he
  subst he
  obtain ⟨o3, hS3, hI3, hs'⟩ := show Left y Aw.A3 o2 w2 w3 from hL
  have hs3 := hs2.trans hs'
  clear hL hs' hs2 hS2 hI2
  go_wp2_with fail
  refine (c_commit (i := 0) hS3 hI3 (by decide +kernel) (by decide +kernel)).mono ?_
  rintro e w4 ⟨he, hL⟩
  rw [show (Aw.A3.commit 0).v = 1 from by decide +kernel, show (Aw.A3.commit 0).e = 0 from by decide +kernel] at he
  subst he
  obtain ⟨o4, hS4, hI4, hs'⟩ := show Left y Aw.A4 o3 w3 w4 from hL
  have hs4 := hs3.trans hs'
  clear hL hs' hs3 hS3 hI3
  go_wp2_with fail
  refine (c_begin (i := 0) hS4 hI4 (by decide +kernel) (by decide +kernel)).mono ?_
  rintro e w5 ⟨he, hL⟩
  rw [show (if (Aw.A4.t 0).live then (140 : Int) else 0) = 0 from by decide +kernel] at he
  subst he
  obtain ⟨o5, hS5, hI5, hs'⟩ := show Left y Aw.A5 o4 w4 w5 from hL
  have hs5 := hs4.trans hs'
  clear hL hs' hs4 hS4 hI4
  go_wp2_with fail
  refine (c_begin (i := 1) hS5 hI5 (by decide +kernel) (by decide +kernel)).mono ?_
  rintro e w6 ⟨he, hL⟩
  rw [show (if (Aw.A5.t 1).live then (140 : Int) else 0) = 0 from by decide +kernel] at he
  subst he
  obtain ⟨o6, hS6, hI6, hs'⟩ := show Left y Aw.A6 o5 w5 w6 from hL
  have hs6 := hs5.trans hs'
  clear hL hs' hs5 hS5 hI5
  go_wp2_with fail
  refine (c_write (i := 0) hS6 hI6 (by decide +kernel) (p := 1) (by decide +kernel) 0 6 (by omega)).mono ?_
  rintro e w7 ⟨he, hL⟩
  rw [show (Aw.A6.write 0 1 0 6).e = 0 from by decide +kernel] at he
  subst he
  obtain ⟨o7, hS7, hI7, hs'⟩ := show Left y Aw.A7 o6 w6 w7 from hL
  have hs7 := hs6.trans hs'
  clear hL hs' hs6 hS6 hI6
  go_wp2_with fail
  refine (c_read (i := 1) hS7 hI7 (by decide +kernel) (p := 1) (by decide +kernel) 0).mono ?_
  rintro e w8 ⟨he, hL⟩
  rw [show (Aw.A7.read 1 1 0).v = 0 from by decide +kernel, show (Aw.A7.read 1 1 0).e = 141 from by decide +kernel] at he
  subst he
  obtain ⟨o8, hS8, hI8, hs'⟩ := show Left y Aw.A8 o7 w7 w8 from hL
  have hs8 := hs7.trans hs'
  clear hL hs' hs7 hS7 hI7
  go_wp2_with fail
  refine (c_live (i := 1) hS8 hI8 (by decide +kernel)).mono ?_
  rintro e w' ⟨he, rfl⟩
  rw [show (Aw.A8.t 1).live = false from by decide +kernel] at he
  subst he
  go_wp2_with fail
  refine (c_abort (i := 0) hS8 hI8 (by decide +kernel)).mono ?_
  rintro e w9 ⟨he, hL⟩
  rw [show (if (Aw.A8.t 0).live then (0 : Int) else 140) = 0 from by decide +kernel] at he
  subst he
  obtain ⟨o9, hS9, hI9, hs'⟩ := show Left y Aw.A9 o8 w8 w9 from hL
  have hs9 := hs8.trans hs'
  clear hL hs' hs8 hS8 hI8
  go_wp2_with fail
  refine (c_begin (i := 1) hS9 hI9 (by decide +kernel) (by decide +kernel)).mono ?_
  rintro e w10 ⟨he, hL⟩
  rw [show (if (Aw.A9.t 1).live then (140 : Int) else 0) = 0 from by decide +kernel] at he
  subst he
  obtain ⟨o10, hS10, hI10, hs'⟩ := show Left y Aw.A10 o9 w9 w10 from hL
  have hs10 := hs9.trans hs'
  clear hL hs' hs9 hS9 hI9
  go_wp2_with fail
  refine (c_read (i := 1) hS10 hI10 (by decide +kernel) (p := 1) (by decide +kernel) 0).mono ?_
  rintro e w11 ⟨he, hL⟩
  rw [show (Aw.A10.read 1 1 0).v = 5 from by decide +kernel, show (Aw.A10.read 1 1 0).e = 0 from by decide +kernel] at he
  subst he
  obtain ⟨o11, hS11, hI11, hs'⟩ := show Left y Aw.A11 o10 w10 w11 from hL
  have hs11 := hs10.trans hs'
  clear hL hs' hs10 hS10 hI10
  go_wp2_with fail
  go_ret
  exact ⟨rfl, hs11.below fun b _ h => by have h : (7 : Nat) = y.l.id := h; rw [HID.out] at h; cases h⟩
end Go.Proofs.YtemohiainfllcaaGreat
