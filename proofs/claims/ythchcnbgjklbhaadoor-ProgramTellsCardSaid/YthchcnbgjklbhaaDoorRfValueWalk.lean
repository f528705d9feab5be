/- Walk: value. -/
import Derived.Test.YthchcnbgjklbhaaDoorRfValue
import Derived.Deep.Cut
import Derived.Deep.DeepCutAuto
namespace Go.Proofs.YthchcnbgjklbhaaDoor
open Go.RowKit
set_option maxRecDepth 100000 in
set_option maxHeartbeats 4000000 in
theorem rvalue_any (s : ByteArray) (hs : s.size ≤ 200) (w : World) : Calls Tryd.prog 30 #[.string s] w fun e w' =>
    e = .returned (.tuple #[.int .i64 (val s.data.toList).1, .bool (val s.data.toList).2]) ∧ Below w.heap.size w w' := by
  have hlen : s.data.toList.length = s.size := by rw [Array.length_toList]; rfl
  have hcase : (s.size = 0 ∧ val s.data.toList = valD false s.data.toList s.data.toList) ∨
      (∃ h : 0 < s.size, ((s[0]'h).toNat : Int) = 45 ∧ val s.data.toList = valD true (s.extract 1 s.size).data.toList s.data.toList) ∨
      (∃ h : 0 < s.size, (((s[0]'h).toNat : Int) == 45) = false ∧ val s.data.toList = valD false s.data.toList s.data.toList) := by
    by_cases h : 0 < s.size
    · right
      have h0 : s.data.toList.head? = some (s[0]'h) := by
        rw [List.head?_eq_getElem?, List.getElem?_eq_getElem (by omega)]; rfl
      by_cases h45 : s[0]'h = 45
      · left
        refine ⟨h, by rw [h45]; rfl, ?_⟩
        unfold val isMinus
        rw [h0, h45, if_pos (by simp), bytes_right]
      · right
        refine ⟨h, beq_eq_false_iff_ne.2 fun e => h45 (UInt8.toNat_inj.1 ?_), ?_⟩
        · have : (s[0]'h).toNat = 45 := by omega
          rw [this]; rfl
        · unfold val isMinus
          rw [h0, if_neg (by simpa using h45)]
    · left
      have h1 : s.size = 0 := by omega
      refine ⟨h1, ?_⟩
      have h2 : s.data.toList = [] := List.eq_nil_of_length_eq_zero (by omega)
      rw [h2]; rfl
  rcases hcase with ⟨h1, h2⟩ | ⟨h, h1, h2⟩ | ⟨h, h1, h2⟩
  · have HV := Lib.hid h2
    clear h2
    have hv : val s.data.toList = (0, false) := by
      rw [HV.out]; unfold valD; rw [if_pos (.inl (by omega))]
    rw [hv]
    clear hv HV
    go_enter Tryd.func30, Tryd.ntmps30
    go_wp2_with fail
    go_ret2
    exact ⟨rfl, Below.refl _ _⟩
  · have HV := Lib.hid h2
    obtain ⟨d, hd⟩ : ∃ d, d = s.extract 1 s.size := ⟨_, rfl⟩
    rw [← hd] at HV
    have hDl : d.data.toList.length = d.size := by rw [Array.length_toList]; rfl
    have hds : d.size ≤ 200 := by rw [hd]; simp; omega
    have HD := Lib.hid hd
    clear h2 hd
    by_cases hl : d.size < 1 ∨ 7 < d.size
    · have hv : val s.data.toList = (0, false) := by
        rw [HV.out]; unfold valD; rw [if_pos (by rw [hDl]; exact hl)]
      rw [hv]
      clear hv HV
      rcases hl with hl | hl
      all_goals
        go_enter Tryd.func30, Tryd.ntmps30
        go_upto_region 5 with fail
        rw [← HD.out]
        go_wp2_with fail
        go_ret2
        exact ⟨rfl, Below.refl _ _⟩
    · have hl1 : 1 ≤ d.size := by omega
      have hl2 : d.size ≤ 7 := by omega
      clear hl
      go_enter Tryd.func30, Tryd.ntmps30
      go_upto_region 5 with fail
      rw [← HD.out]
      go_wp2_with fail
      go_loopw [6, 7] (fun un ui wr => ∃ i m : Nat, ui = .int .i64 i ∧ un = .int .i64 m ∧ i ≤ d.size ∧ m < 10 ^ i ∧ Hid (m = horner (d.data.toList.take i)) ∧ Hid (digs (d.data.toList.take i) = true) ∧ wr = w) (fun _ ui _ => d.size - (intOf ui).toNat)
      case atStart => exact ⟨0, 0, rfl, rfl, by omega, by simp, Lib.hid rfl, Lib.hid rfl, rfl⟩
      case round =>
        obtain ⟨i, m, rfl, rfl, hi, hm, HM, HG, rfl⟩ := hrel
        have hm7 : m < 10000000 := Nat.lt_of_lt_of_le hm (Nat.pow_le_pow_right (by omega) (by omega) : 10 ^ i ≤ 10 ^ 7)
        by_cases hlt : i < d.size
        · obtain ⟨c, hc⟩ : ∃ c, c = d[i]'hlt := ⟨_, rfl⟩
          have hcl : d.data.toList[i]? = some c := by
            rw [List.getElem?_eq_getElem (by omega), hc]; rfl
          have htk : d.data.toList.take (i + 1) = d.data.toList.take i ++ [c] := by rw [List.take_add_one, hcl]; rfl
          have hcn : ((d[i]'hlt).toNat : Int) = (c.toNat : Int) := by rw [hc]
          by_cases hg : 48 ≤ c.toNat ∧ c.toNat ≤ 57
          · have g1 : (48 : Int) ≤ (c.toNat : Int) := by omega
            have g2 : (c.toNat : Int) ≤ 57 := by omega
            have HM2 := Lib.hid (show 10 * m + (c.toNat - 48) = horner (d.data.toList.take (i + 1)) by rw [htk, horner_snoc, ← HM.out])
            have HG2 := Lib.hid (show digs (d.data.toList.take (i + 1)) = true by
              have h3 := HG.out
              unfold digs at h3 ⊢
              rw [htk, List.all_append, h3]; simp [hg])
            clear htk hcl hc
            go_wp2_with fail
            go_roundw
            case rel => exact ⟨i + 1, 10 * m + (c.toNat - 48), by simp, by simp; omega, by omega, by rw [Nat.pow_succ]; omega, HM2, HG2, by trivial⟩
            case measure => simp [intOf]; omega
          · have hnd : digs d.data.toList = false := by
              cases hq : digs d.data.toList with
              | false => rfl
              | true =>
                have := List.all_eq_true.1 hq c (List.mem_of_getElem? hcl)
                exact absurd (by simpa using this) hg
            have hv : val s.data.toList = (0, false) := by
              rw [HV.out]; unfold valD; rw [if_neg (by omega), hnd]; simp
            have HVV := Lib.hid hv
            clear hv HV hnd htk hcl hc
            by_cases hg1 : c.toNat < 48
            · have g1 : (c.toNat : Int) < 48 := by omega
              go_wp2_with fail
              go_ret2
              exact ⟨by rw [HVV.out]; rfl, Below.refl _ _⟩
            · have g1 : (48 : Int) ≤ (c.toNat : Int) := by omega
              have g2 : (57 : Int) < (c.toNat : Int) := by omega
              go_wp2_with fail
              go_ret2
              exact ⟨by rw [HVV.out]; rfl, Below.refl _ _⟩
        · obtain rfl : i = d.size := by omega
          have hal : d.data.toList.take d.size = d.data.toList := List.take_of_length_le (by omega)
          have hv : val s.data.toList = (-(m : Int), decide (Lib.itoa (-(m : Int)) = s.data.toList)) := by
            have h1 := HM.out
            have h2 := HG.out
            rw [hal] at h1 h2
            rw [HV.out]; unfold valD; rw [if_neg (by omega), if_pos h2]
            unfold valN
            rw [← h1]; rfl
          have HVV := Lib.hid hv
          have hns : ((strB (Lib.itoa (-(m : Int)))).toList == s.toList) = decide (Lib.itoa (-(m : Int)) = s.data.toList) := by
            rw [ByteArray.toList_eq, ByteArray.toList_eq]
            show ((strB (Lib.itoa (-(m : Int)))).data.toList == s.data.toList) = _
            simp only [strB]
            exact Bool.eq_iff_iff.2 (by simp)
          clear hv HV hal
          go_wp2_with fail
          refine (number_any (-(m : Int)) (by omega) _).mono ?_
          rintro e w1 ⟨rfl, hb1⟩
          go_wp2_with fail
          go_ret2
          exact ⟨by rw [HVV.out]; rfl, hb1⟩
  · have HV := Lib.hid h2
    clear h2
    have hDl := hlen
    by_cases hl : s.size < 1 ∨ 7 < s.size
    · have hv : val s.data.toList = (0, false) := by
        rw [HV.out]; unfold valD; rw [if_pos (by rw [hDl]; exact hl)]
      rw [hv]
      clear hv HV
      replace hl : 7 < s.size := by omega
      all_goals
        go_enter Tryd.func30, Tryd.ntmps30
        go_upto_region 5 with fail
        go_wp2_with fail
        go_ret2
        exact ⟨rfl, Below.refl _ _⟩
    · have hl1 : 1 ≤ s.size := by omega
      have hl2 : s.size ≤ 7 := by omega
      clear hl
      go_enter Tryd.func30, Tryd.ntmps30
      go_upto_region 5 with fail
      go_wp2_with fail
      go_loopw [6, 7] (fun un ui wr => ∃ i m : Nat, ui = .int .i64 i ∧ un = .int .i64 m ∧ i ≤ s.size ∧ m < 10 ^ i ∧ Hid (m = horner (s.data.toList.take i)) ∧ Hid (digs (s.data.toList.take i) = true) ∧ wr = w) (fun _ ui _ => s.size - (intOf ui).toNat)
      case atStart => exact ⟨0, 0, rfl, rfl, by omega, by simp, Lib.hid rfl, Lib.hid rfl, rfl⟩
      case round =>
        obtain ⟨i, m, rfl, rfl, hi, hm, HM, HG, rfl⟩ := hrel
        have hm7 : m < 10000000 := Nat.lt_of_lt_of_le hm (Nat.pow_le_pow_right (by omega) (by omega) : 10 ^ i ≤ 10 ^ 7)
        by_cases hlt : i < s.size
        · obtain ⟨c, hc⟩ : ∃ c, c = s[i]'hlt := ⟨_, rfl⟩
          have hcl : s.data.toList[i]? = some c := by
            rw [List.getElem?_eq_getElem (by omega), hc]; rfl
          have htk : s.data.toList.take (i + 1) = s.data.toList.take i ++ [c] := by rw [List.take_add_one, hcl]; rfl
          have hcn : ((s[i]'hlt).toNat : Int) = (c.toNat : Int) := by rw [hc]
          by_cases hg : 48 ≤ c.toNat ∧ c.toNat ≤ 57
          · have g1 : (48 : Int) ≤ (c.toNat : Int) := by omega
            have g2 : (c.toNat : Int) ≤ 57 := by omega
            have HM2 := Lib.hid (show 10 * m + (c.toNat - 48) = horner (s.data.toList.take (i + 1)) by rw [htk, horner_snoc, ← HM.out])
            have HG2 := Lib.hid (show digs (s.data.toList.take (i + 1)) = true by
              have h3 := HG.out
              unfold digs at h3 ⊢
              rw [htk, List.all_append, h3]; simp [hg])
            clear htk hcl hc
            go_wp2_with fail
            go_roundw
            case rel => exact ⟨i + 1, 10 * m + (c.toNat - 48), by simp, by simp; omega, by omega, by rw [Nat.pow_succ]; omega, HM2, HG2, by trivial⟩
            case measure => simp [intOf]; omega
          · have hnd : digs s.data.toList = false := by
              cases hq : digs s.data.toList with
              | false => rfl
              | true =>
                have := List.all_eq_true.1 hq c (List.mem_of_getElem? hcl)
                exact absurd (by simpa using this) hg
            have hv : val s.data.toList = (0, false) := by
              rw [HV.out]; unfold valD; rw [if_neg (by omega), hnd]; simp
            have HVV := Lib.hid hv
            clear hv HV hnd htk hcl hc
            by_cases hg1 : c.toNat < 48
            · have g1 : (c.toNat : Int) < 48 := by omega
              go_wp2_with fail
              go_ret2
              exact ⟨by rw [HVV.out]; rfl, Below.refl _ _⟩
            · have g1 : (48 : Int) ≤ (c.toNat : Int) := by omega
              have g2 : (57 : Int) < (c.toNat : Int) := by omega
              go_wp2_with fail
              go_ret2
              exact ⟨by rw [HVV.out]; rfl, Below.refl _ _⟩
        · obtain rfl : i = s.size := by omega
          have hal : s.data.toList.take s.size = s.data.toList := List.take_of_length_le (by omega)
          have hv : val s.data.toList = ((m : Int), decide (Lib.itoa ((m : Int)) = s.data.toList)) := by
            have h1 := HM.out
            have h2 := HG.out
            rw [hal] at h1 h2
            rw [HV.out]; unfold valD; rw [if_neg (by omega), if_pos h2]
            unfold valN
            rw [← h1]; rfl
          have HVV := Lib.hid hv
          have hns : ((strB (Lib.itoa ((m : Int)))).toList == s.toList) = decide (Lib.itoa ((m : Int)) = s.data.toList) := by
            rw [ByteArray.toList_eq, ByteArray.toList_eq]
            show ((strB (Lib.itoa ((m : Int)))).data.toList == s.data.toList) = _
            simp only [strB]
            exact Bool.eq_iff_iff.2 (by simp)
          clear hv HV hal
          go_wp2_with fail
          refine (number_any ((m : Int)) (by omega) _).mono ?_
          rintro e w1 ⟨rfl, hb1⟩
          go_wp2_with fail
          go_ret2
          exact ⟨by rw [HVV.out]; rfl, hb1⟩
end Go.Proofs.YthchcnbgjklbhaaDoor
