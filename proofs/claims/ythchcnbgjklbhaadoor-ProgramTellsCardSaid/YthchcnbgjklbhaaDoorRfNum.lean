/- Walk: the document's own decimal (number). -/
import Derived.Test.YthchcnbgjklbhaaDoorRfForm
import Derived.Laws.BytesArg
namespace Go.Proofs.YthchcnbgjklbhaaDoor
open Go.RowKit
theorem one_byte (w : World) (u : Nat) : (convert 70 9 (.slice (some ⟨w.heap.size, 0, none⟩) 1 1)).run Tryd.prog (w.alloc (.cells #[.int .u8 (48 + (u : Int) % 10)] 5)) =
    .ok (.string (strB [UInt8.ofNat (48 + u % 10)])) (w.alloc (.cells #[.int .u8 (48 + (u : Int) % 10)] 5)) := by
  have h := run_convert_bytes_arg (P := Tryd.prog) (w.alloc (.cells #[.int .u8 (48 + (u : Int) % 10)] 5)) 70 5 (by kernel_rfl) (by kernel_rfl) w.heap.size 0 1 1 [48 + (u : Int) % 10] rfl (fun i hi => by
    obtain rfl : i = 0 := by omega
    exact (Blk.new w _ _).cell 0) 9 (by kernel_rfl)
  rw [h]
  have e : (48 + (u : Int) % 10).toNat = 48 + u % 10 := by omega
  simp [strOfNums, strB, e]
set_option maxRecDepth 100000 in
theorem number_nat (u : Nat) : ∀ (w : World), u < 1000000000 → Calls Tryd.prog 23 #[.int .i64 u] w fun e w' =>
    e = .returned (.string (strB (Lib.decDigits u))) ∧ Below w.heap.size w w' := by
  induction u using Nat.strongRecOn with
  | _ u ih =>
    intro w hu
    have IH := Lib.hid ih
    clear ih
    have h0 : (0 : Int) ≤ (u : Int) := by omega
    have hcv := one_byte w u
    have hl := Pg.dec_len 9 (u / 10) (by omega)
    obtain ⟨c, hc⟩ : ∃ c, c = strB [UInt8.ofNat (48 + u % 10)] := ⟨_, rfl⟩
    have hc1 : c.size = 1 := by rw [hc, strB_size]; rfl
    rw [← hc] at hcv
    by_cases h : u < 10
    · have h9 : (u : Int) < 10 := by omega
      have e : strB (Lib.decDigits u) = c := by rw [Lib.decDigits, dif_pos h, hc, Nat.mod_eq_of_lt h]
      rw [e]
      clear e h hc
      go_enter Tryd.func23, Tryd.ntmps23
      go_wp2_with fail
      go_ret
      exact ⟨rfl, balloc (Below.refl _ _) _⟩
    · have h9 : (10 : Int) ≤ (u : Int) := by omega
      have e9 : strB (Lib.decDigits u) = strB (Lib.decDigits (u / 10)) ++ c := by
        rw [Lib.decDigits, dif_neg h, hc]
        apply ByteArray.ext
        rw [ByteArray.data_append]
        simp [strB]
      rw [e9]
      have e10 : (u : Int) / 10 = ((u / 10 : Nat) : Int) := by omega
      have hl2 : (strB (Lib.decDigits (u / 10))).size ≤ 10 := by rw [strB_size]; exact hl
      obtain ⟨D, hD⟩ : ∃ D, D = strB (Lib.decDigits (u / 10)) := ⟨_, rfl⟩
      rw [← hD] at hl2 ⊢
      have HD := Lib.hid hD
      have E10 := Lib.hid e10
      clear e9 hc h hl hD e10
      go_enter Tryd.func23, Tryd.ntmps23
      go_wp2_with fail
      rw [E10.out]
      refine (IH.out (u / 10) (by omega) _ (by omega)).mono ?_
      rw [← HD.out]
      rintro e w1 ⟨rfl, hb1⟩
      go_wp2_with fail
      go_ret
      exact ⟨rfl, btrans (balloc (Below.refl _ _) _) hb1⟩
end Go.Proofs.YthchcnbgjklbhaaDoor
