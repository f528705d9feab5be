/- The law TxnHolds, walked. -/
import Derived.Test.YtemohiainfllcaaGreatKk
namespace Go.Proofs.YtemohiainfllcaaGreat
open Go.RowKit Hp
attribute [local go_sem ↓] Go.wp_at_zero Go.wp_at_succ
namespace Lh
def S2 : Stt := ((Yd.Y 400 2).begin 0).begin 1
def S3 (a f : Nat) : Stt := (S2.write 0 (Yd.pl a) f 77).S
def S4 (a b f g : Nat) : Stt := ((S3 a f).write 1 (Yd.pl b) g 88).S
def S5 (a b f g : Nat) : Stt := ((S4 a b f g).commit 1).S
theorem f0 : 0 < (Yd.Y 400 2).txs.length ∧ (Yd.Y 400 2).now + 9 ≤ (Yd.Y 400 2).most ∧ ((Yd.Y 400 2).t 0).live = false ∧ 1 < ((Yd.Y 400 2).begin 0).txs.length ∧ ((Yd.Y 400 2).begin 0).now + 9 ≤ ((Yd.Y 400 2).begin 0).most ∧ (((Yd.Y 400 2).begin 0).t 1).live = false := by decide +kernel
theorem f1 : ∀ a < 4, ∀ f < 2, S2.chk 0 = true ∧ Plc S2 (Yd.pl a) ∧ (S2.write 0 (Yd.pl a) f 77).e = 0 := by decide +kernel
theorem f2 : ∀ a < 4, ∀ b < 4, ∀ f < 2, ∀ g < 2, (S3 a f).chk 1 = true ∧ Plc (S3 a f) (Yd.pl b) ∧ ((S3 a f).write 1 (Yd.pl b) g 88).e = if a = b then 141 else 0 := by decide +kernel
def kA (a b f g : Nat) : Bool := a != b || (decide (1 < (S4 a b f g).txs.length) && !((S4 a b f g).t 1).live && (S4 a b f g).chk 0 && decide ((S4 a b f g).now < (S4 a b f g).most) && decide (((S4 a b f g).commit 0).v = 2) && decide (((S4 a b f g).commit 0).e = 0))
def kB (a b f g : Nat) : Bool := a == b || ((S4 a b f g).chk 1 && decide ((S4 a b f g).now < (S4 a b f g).most) && decide (((S4 a b f g).commit 1).v = 2) && decide (((S4 a b f g).commit 1).e = 0) && (S5 a b f g).chk 0 && decide ((S5 a b f g).now < (S5 a b f g).most) && decide (((S5 a b f g).commit 0).v = 3) && decide (((S5 a b f g).commit 0).e = 0))
theorem f3' : ∀ a < 4, ∀ b < 4, ∀ f < 2, ∀ g < 2, kA a b f g = true := by decide +kernel
theorem f4' : ∀ a < 4, ∀ b < 4, ∀ f < 2, ∀ g < 2, kB a b f g = true := by decide +kernel
theorem f3 {a b f g : Nat} (ha : a < 4) (hb : b < 4) (hf : f < 2) (hg : g < 2) (hab : a = b) : 1 < (S4 a b f g).txs.length ∧ ((S4 a b f g).t 1).live = false ∧ (S4 a b f g).chk 0 = true ∧ (S4 a b f g).now < (S4 a b f g).most ∧ ((S4 a b f g).commit 0).v = 2 ∧ ((S4 a b f g).commit 0).e = 0 := by
  have h := f3' a ha b hb f hf g hg
  unfold kA at h
  simp only [Bool.or_eq_true, Bool.and_eq_true, decide_eq_true_eq, bne_iff_ne, Bool.not_eq_true'] at h
  have h := h.resolve_left (fun h => h hab)
  exact ⟨h.1.1.1.1.1, h.1.1.1.1.2, h.1.1.1.2, h.1.1.2, h.1.2, h.2⟩
theorem f4 {a b f g : Nat} (ha : a < 4) (hb : b < 4) (hf : f < 2) (hg : g < 2) (hab : a ≠ b) : (S4 a b f g).chk 1 = true ∧ (S4 a b f g).now < (S4 a b f g).most ∧ ((S4 a b f g).commit 1).v = 2 ∧ ((S4 a b f g).commit 1).e = 0 ∧ (S5 a b f g).chk 0 = true ∧ (S5 a b f g).now < (S5 a b f g).most ∧ ((S5 a b f g).commit 0).v = 3 ∧ ((S5 a b f g).commit 0).e = 0 := by
  have h := f4' a ha b hb f hf g hg
  unfold kB at h
  simp only [Bool.or_eq_true, Bool.and_eq_true, decide_eq_true_eq, beq_iff_eq] at h
  have h := h.resolve_left hab
  exact ⟨h.1.1.1.1.1.1.1, h.1.1.1.1.1.1.2, h.1.1.1.1.1.2, h.1.1.1.1.2, h.1.1.1.2, h.1.1.2, h.1.2, h.2⟩
end Lh
set_option maxRecDepth 100000 in
set_option maxHeartbeats 4000000 in
theorem txnHolds_any (a0 a1 a2 a3 : Int) (h0 : -9223372036854775808 ≤ a0 ∧ a0 ≤ 9223372036854775807) (h1 : -9223372036854775808 ≤ a1 ∧ a1 ≤ 9223372036854775807) (h2 : -9223372036854775808 ≤ a2 ∧ a2 ≤ 9223372036854775807) (h3 : -9223372036854775808 ≤ a3 ∧ a3 ≤ 9223372036854775807) (w : World) :
    Calls Tryz.prog 3 #[.int .i64 a0, .int .i64 a1, .int .i64 a2, .int .i64 a3] w fun e w' => e = .returned (.bool true) ∧ Below w.heap.size w w' := by
  have P0 := Lib.hid (fun w => pick14_any a0 h0 4 (by omega) (by omega) w)
  have P1 := Lib.hid (fun w => pick14_any a1 h1 4 (by omega) (by omega) w)
  have P2 := Lib.hid (fun w => pick14_any a2 h2 2 (by omega) (by omega) w)
  have P3 := Lib.hid (fun w => pick14_any a3 h3 2 (by omega) (by omega) w)
  have la := pk_lt a0 (show 1 ≤ 4 by omega)
  have lb := pk_lt a1 (show 1 ≤ 4 by omega)
  have lf := pk_lt a2 (show 1 ≤ 2 by omega)
  have lg := pk_lt a3 (show 1 ≤ 2 by omega)
  generalize pk a0 4 = a at *
  generalize pk a1 4 = b at *
  generalize pk a2 2 = f at *
  generalize pk a3 2 = g at *
  have aI : (a : Int) < 4 := by omega
  have bI : (b : Int) < 4 := by omega
  have F1 := Lib.hid (Lh.f1 a la f lf)
  have F2 := Lib.hid (Lh.f2 a la b lb f lf g lg)
  have F3 := Lib.hid (fun h => Lh.f3 la lb lf lg h)
  have F4 := Lib.hid (fun h => Lh.f4 la lb lf lg h)
  have HYd := Lib.hid (fun w => yard_any 400 2 (by decide) w)
  have HAw := Lib.hid awake14_any
  clear h0 h1 h2 h3
  go_enter Tryz.func3, Tryz.ntmps3
  go_wp2_with fail
  refine (HAw.out _).mono ?_
  rintro e w1 ⟨rfl, hb1⟩
  go_wp2_with fail
  refine (HYd.out _).mono ?_
  rintro e w2 ⟨y, v, o2, rfl, hid, hS2, hI2, hr2, hs2⟩
  have HID := Lib.hid hid
  have hold := Lib.hid (fun (W : World) (o' : Own) (hs : Stp (yT y) (fun _ => (7, 0)) o' w1 W) => show Below w.heap.size w W from
    btrans hb1 (hs.below fun c _ h => h.elim (fun h => by have h : (7 : Nat) = y.l.id := h; rw [HID.out] at h; cases h) (fun h => by injection h with h _; cases h)))
  clear hid hb1
  go_wp2_with fail
  refine (c_begin (i := 0) hS2 hI2 Lh.f0.1 Lh.f0.2.1).mono ?_
  rintro e w3 ⟨he, hL⟩
  rw [Lh.f0.2.2.1] at he
  simp only [Bool.false_eq_true, if_false] at he
  subst he
  obtain ⟨o3, hS3, hI3, hs3⟩ := hL
  go_wp2_with fail
  refine (c_begin (i := 1) hS3 hI3 Lh.f0.2.2.2.1 Lh.f0.2.2.2.2.1).mono ?_
  rintro e w4 ⟨he, hL⟩
  rw [Lh.f0.2.2.2.2.2] at he
  simp only [Bool.false_eq_true, if_false] at he
  subst he
  obtain ⟨o4, hS4, hI4, hs4⟩ := show Left y Lh.S2 o3 w3 w4 from hL
  have hr4 := hr2.stp (hs3.trans hs4) (nine_st HID.out)
  have hst4 := hs2.trans ((hs3.trans hs4).mono fun _ h => .inl h)
  clear hL hs2 hs3 hs4 hS2 hI2 hS3 hI3 hr2
  obtain ⟨gr, cap, hv, hcap⟩ := (show ∃ g cap, v = .slice (some ⟨g, 0, none⟩) 4 cap ∧ 4 ≤ cap from by
    rcases hr4.form with ⟨_, h0⟩ | ⟨g, cap, e, hn, _⟩
    · cases h0
    · exact ⟨g, cap, e, hn⟩)
  subst hv
  have HCe := Lib.hid (fun (W : World) (o' : Own) (hW : Stp (stTag y) o4 o' w4 W) (t : Nat) (ht : t < 4) => show W.cell? ⟨gr, t, none⟩ = some (.int .i64 (Yd.pl t)) from (hr4.stp hW (nine_st HID.out)).cells t _ (by rw [List.getElem?_map, List.getElem?_range ht]; rfl))
  have ca := HCe.out _ _ (Stp.refl _ _ _) a la
  go_wp2_with fail
  refine (P0.out _).mono ?_
  rintro e w' ⟨rfl, rfl⟩
  go_wp2_with fail
  refine (P1.out _).mono ?_
  rintro e w' ⟨rfl, rfl⟩
  have HW1 := Lib.hid (c_write (i := 0) (hS4.below (bdrew (bsame _))) hI4 F1.out.1 F1.out.2.1 f 77 (by omega))
  rw [F1.out.2.2] at HW1
  clear hS4 hI4 hr4
  go_upto_region 7 with fail
  go_region_with (first
    | (go_at_call 15; refine (P2.out _).mono ?_; rintro e w' ⟨rfl, rfl⟩)
    | (go_at_call 16; refine HW1.out.mono ?_; rintro e w5 ⟨rfl, hL5⟩)
    | fail)
  all_goals
    obtain ⟨o5, hS5, hI5, hs5⟩ := show Left y (Lh.S3 a f) o4 w4.drew w5 from hL5
    have hs45 := (Stp.of_below (T := stTag y) (o := o4) (bdrew (bsame w4))).trans hs5
    clear ca hL5 hs5
    have cb := HCe.out _ _ hs45 b lb
    have HW2 := Lib.hid (c_write (i := 1) (hS5.below (bdrew (bsame _))) hI5 F2.out.1 F2.out.2.1 g 88 (by omega))
    rw [F2.out.2.2] at HW2
    clear hS5 hI5
    go_upto_region 9 with fail
    by_cases hab : a = b
    · rw [if_pos hab] at HW2
      obtain ⟨g1, g2, g3, g4, g5, g6⟩ := F3.out hab
      have habI : ((a : Int) == (b : Int)) = true := by rw [hab]; exact beq_self_eq_true _
      clear hab
      go_region_with (first
        | (go_at_call 15; refine (P3.out _).mono ?_; rintro e w' ⟨rfl, rfl⟩)
        | (go_at_call 16; refine HW2.out.mono ?_; rintro e w6 ⟨rfl, hL6⟩)
        | fail)
      all_goals
        obtain ⟨o6, hS6, hI6, hs6⟩ := show Left y (Lh.S4 a b f g) o5 w5.drew w6 from hL6
        have hs46 := hs45.trans ((Stp.of_below (T := stTag y) (o := o5) (bdrew (bsame w5))).trans hs6)
        clear cb hL6 hs6
        have HLv := Lib.hid (c_live (i := 1) hS6 hI6 g1)
        rw [g2] at HLv
        have HCm := Lib.hid (c_commit (i := 0) hS6 hI6 g3 g4)
        rw [g5, g6] at HCm
        clear g1 g2 g3 g4 g5 g6 hS6 hI6
        go_wp2_with fail
        refine HLv.out.mono ?_
        rintro e w' ⟨rfl, rfl⟩
        go_wp2_with fail
        refine HCm.out.mono ?_
        rintro e w7 ⟨rfl, hL7⟩
        go_wp2_with fail
        go_ret
        obtain ⟨o7, hS7, hI7, hs7⟩ := hL7
        exact ⟨rfl, hold.out _ _ (hst4.trans ((hs46.trans hs7).mono fun _ h => .inl h))⟩
    · rw [if_neg hab] at HW2
      obtain ⟨g1, g2, g3, g4, g5, g6, g7, g8⟩ := F4.out hab
      have habI : ((a : Int) == (b : Int)) = false := by rw [beq_eq_false_iff_ne]; omega
      clear hab
      go_region_with (first
        | (go_at_call 15; refine (P3.out _).mono ?_; rintro e w' ⟨rfl, rfl⟩)
        | (go_at_call 16; refine HW2.out.mono ?_; rintro e w6 ⟨rfl, hL6⟩)
        | fail)
      all_goals
        obtain ⟨o6, hS6, hI6, hs6⟩ := show Left y (Lh.S4 a b f g) o5 w5.drew w6 from hL6
        have hs46 := hs45.trans ((Stp.of_below (T := stTag y) (o := o5) (bdrew (bsame w5))).trans hs6)
        clear cb hL6 hs6
        have HCm := Lib.hid (c_commit (i := 1) hS6 hI6 g1 g2)
        rw [g3, g4] at HCm
        have HCn := Lib.hid (fun (W : World) (o' : Own) (hS' : StIn W o' y (Lh.S5 a b f g)) (hI' : Inv (Lh.S5 a b f g)) => by
          have := c_commit (i := 0) hS' hI' g5 g6
          rw [g7, g8] at this
          exact this)
        clear g1 g2 g3 g4 g5 g6 g7 g8 hS6 hI6
        go_wp2_with fail
        refine HCm.out.mono ?_
        rintro e w7 ⟨rfl, hL7⟩
        obtain ⟨o7, hS7, hI7, hs7⟩ := show Left y (Lh.S5 a b f g) o6 w6 w7 from hL7
        go_wp2_with fail
        refine (HCn.out _ _ hS7 hI7).mono ?_
        rintro e w8 ⟨rfl, hL8⟩
        go_wp2_with fail
        go_ret
        obtain ⟨o8, hS8, hI8, hs8⟩ := hL8
        exact ⟨rfl, hold.out _ _ (hst4.trans (((hs46.trans hs7).trans hs8).mono fun _ h => .inl h))⟩
end Go.Proofs.YtemohiainfllcaaGreat
