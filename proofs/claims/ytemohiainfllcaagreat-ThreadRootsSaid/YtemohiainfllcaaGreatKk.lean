/- The yard of the laws of chapter 14. -/
import Derived.Test.YtemohiainfllcaaGreatKj
namespace Go.Proofs.YtemohiainfllcaaGreat
open Go.RowKit Hp
attribute [local go_sem ↓] Go.wp_at_zero Go.wp_at_succ
/-- Which of n a raw number speaks of. -/
def pk (c : Int) (n : Nat) : Nat := (if c < 0 then (-(c + 1)).toNat else c.toNat) % n
theorem pk_lt (c : Int) {n : Nat} (h : 1 ≤ n) : pk c n < n := Nat.mod_lt _ h
theorem pick14_any (c : Int) (hc : -9223372036854775808 ≤ c ∧ c ≤ 9223372036854775807) (n : Nat) (h1 : 1 ≤ n) (h2 : n ≤ 100) (w : World) :
    Calls Tryz.prog 15 #[.int .i64 c, .int .i64 n] w fun e w' => e = .returned (.int .i64 (pk c n)) ∧ w = w' := by
  obtain ⟨c1, c2⟩ := hc
  have hn0 : ((n : Int) == 0) = false := by rw [beq_eq_false_iff_ne]; omega
  have hnI : (1 : Int) ≤ (n : Int) := by omega
  have hnJ : (n : Int) ≤ 100 := by omega
  rcases Int.lt_or_le c 0 with h | h
  · have e1 : (pk c n : Int) = (-(c + 1)) % (n : Int) := by
      unfold pk; rw [if_pos h]; rw [Int.natCast_emod]; congr 1; omega
    have b1 : 0 ≤ -(c + 1) := by omega
    have b2 : -(c + 1) ≤ 9223372036854775807 := by omega
    have HE := Lib.hid e1
    clear e1 h1 h2
    go_enter Tryz.func15, Tryz.ntmps15
    go_wp2_with fail
    go_ret
    exact ⟨ret_int (by rw [HE.out]; first | rfl | rw [← Int.tmod_eq_emod_of_nonneg b1, Int.neg_tmod]), rfl⟩
  · have e1 : (pk c n : Int) = c % (n : Int) := by
      unfold pk; rw [if_neg (by omega)]; rw [Int.natCast_emod]; congr 1; omega
    have HE := Lib.hid e1
    clear e1 h1 h2
    go_enter Tryz.func15, Tryz.ntmps15
    go_wp2_with fail
    go_ret
    exact ⟨ret_int (by rw [HE.out]), rfl⟩
namespace Yd
def s2 : Shp := ⟨2, 2, false, false⟩
def pl (j : Nat) : Nat := 1 + 8 * j
def B (n k : Nat) : Nat → Stt
  | 0 => (Stt.fresh n k 60 60 (bnd 1073741824).toNat).begin 0
  | j + 1 => ((B n k j).alloc 0 s2).S
def C (n k : Nat) : Nat → Stt
  | 0 => B n k 4
  | j + 1 => ((((C n k j).put 0 (pl j) 0 (pl ((j + 1) % 4))).S).write 0 (pl j) 0 (10 + j)).S
def Y (n k : Nat) : Stt := ((C n k 4).commit 0).S
def L : List (Nat × Nat) := [(400, 2), (400, 3), (2000, 3)]
theorem fB : ∀ q ∈ L, ∀ j < 4, (B q.1 q.2 j).chk 0 = true ∧ ((B q.1 q.2 j).alloc 0 s2).v = pl j ∧ ((B q.1 q.2 j).alloc 0 s2).e = 0 ∧ (B q.1 q.2 j).H.serial < 1099511627776 := by decide +kernel
theorem fC : ∀ q ∈ L, ∀ j < 4, (C q.1 q.2 j).chk 0 = true ∧ Plc (C q.1 q.2 j) (pl j) ∧ Plc (C q.1 q.2 j) (pl ((j + 1) % 4)) ∧ ((C q.1 q.2 j).put 0 (pl j) 0 (pl ((j + 1) % 4))).e = 0 ∧
    (((C q.1 q.2 j).put 0 (pl j) 0 (pl ((j + 1) % 4))).S).chk 0 = true ∧ Plc (((C q.1 q.2 j).put 0 (pl j) 0 (pl ((j + 1) % 4))).S) (pl j) ∧ ((((C q.1 q.2 j).put 0 (pl j) 0 (pl ((j + 1) % 4))).S).write 0 (pl j) 0 (10 + j)).e = 0 := by decide +kernel
theorem fY : ∀ q ∈ L, (C q.1 q.2 4).chk 0 = true ∧ (C q.1 q.2 4).now < (C q.1 q.2 4).most ∧ ((C q.1 q.2 4).commit 0).e = 0 ∧ 16 ≤ q.1 ∧ q.1 ≤ 16384 ∧ 1 ≤ q.2 ∧ q.2 ≤ 8 ∧ ((Stt.fresh q.1 q.2 60 60 (bnd 1073741824).toNat).t 0).live = false ∧ 0 < (Stt.fresh q.1 q.2 60 60 (bnd 1073741824).toNat).txs.length ∧ (Stt.fresh q.1 q.2 60 60 (bnd 1073741824).toNat).now + 9 ≤ (Stt.fresh q.1 q.2 60 60 (bnd 1073741824).toNat).most := by decide +kernel
end Yd
def yT (y : SLay) (t : Tag) : Prop := stTag y t ∨ t = (9, 0)
theorem nine_st {y : SLay} (h : y.l.id = 0) : ¬ stTag y (9, 0) := by unfold stTag; rw [h]; simp
set_option maxRecDepth 100000 in
set_option maxHeartbeats 4000000 in
theorem yard_any (n k : Nat) (hq : (n, k) ∈ Yd.L) (w : World) : Calls Tryz.prog 13 #[.int .i64 n, .int .i64 k] w fun e w' =>
    ∃ y v o', e = .returned (.tuple #[ptr y.sb, v]) ∧ y.l.id = 0 ∧ StIn w' o' y (Yd.Y n k) ∧ Inv (Yd.Y n k) ∧ Row w' o' (9, 0) 3 1 v 4 ((List.range 4).map fun t => nv (Yd.pl t)) ∧ Stp (yT y) (fun _ => (7, 0)) o' w w' := by
  have hfree : ∀ b, b < w.heap.size → ((fun _ => (7, 0) : Own) b).1 ≠ 0 := fun b _ => by simp
  obtain ⟨y1, y2, y3, y4, y5, y6, y7, y8, y9, y10⟩ := Yd.fY _ hq
  simp only at y1 y2 y3 y4 y5 y6 y7 y8 y9 y10
  have HB := Lib.hid (Yd.fB _ hq)
  have HC := Lib.hid (Yd.fC _ hq)
  simp only at HB HC
  have HN := Lib.hid (c_new n k 60 60 1073741824 y4 y5 y6 y7 (by omega) (by omega) (fun _ => (7, 0)) 0 w hfree)
  have HY := Lib.hid (And.intro y1 (And.intro y2 (And.intro y3 (And.intro y8 (And.intro y9 y10)))))
  clear hfree hq y1 y2 y3 y4 y5 y6 y7 y8 y9 y10
  go_enter Tryz.func13, Tryz.ntmps13
  go_wp2_with fail
  refine HN.out.mono ?_
  rintro e w0 ⟨y, rfl, hid, hL⟩
  have HID := Lib.hid hid
  obtain ⟨o0, hS0, hI0, hs0⟩ := hL
  clear hid
  go_wp2_with fail
  refine (c_begin (i := 0) hS0 hI0 HY.out.2.2.2.2.1 HY.out.2.2.2.2.2).mono ?_
  rintro e w1 ⟨he, hL⟩
  rw [HY.out.2.2.2.1] at he
  simp only [Bool.false_eq_true, if_false] at he
  subst he
  obtain ⟨o1, hS1, hI1, hs'⟩ := show Left y (Yd.B n k 0) o0 w0 w1 from hL
  have hs1 : Stp (yT y) (fun _ => (7, 0)) o1 w w1 := (hs0.trans hs').mono fun _ h => .inl h
  clear hL hs' hs0 hS0 hI0
  have hu64 := Tryz.underlying24
  obtain ⟨iI, hi, hsI, hyI, hzI⟩ := info_int
  have hw4 := Lib.hid (fun (j : Nat) (hj : j ≤ 4096) => len_ok hj)
  go_wp2_with fail
  go_loopw [9, 8] (fun ix v wr => ∃ (j : Nat) (oo : Own), ix = .int .i64 j ∧ j ≤ 4 ∧ StIn wr oo y (Yd.B n k j) ∧ Inv (Yd.B n k j) ∧ Row wr oo (9, 0) 3 1 v j ((List.range j).map fun t => nv (Yd.pl t)) ∧ Stp (yT y) (fun _ => (7, 0)) oo w wr) (fun ix _ _ => 4 - (intOf ix).toNat)
  case atStart => exact ⟨0, o1, rfl, by omega, hS1, hI1, Row.nil _ _ _ _ _, hs1⟩
  case round =>
    clear hS1 hI1 hs1
    obtain ⟨j, oo, rfl, hj4, hS, hI, hr, hs⟩ := hrel
    obtain ⟨wo, rfl⟩ : ∃ wo : World, wo = wr := ⟨_, rfl⟩
    by_cases hlt : j < 4
    · have jI : (j : Int) < 4 := by omega
      obtain ⟨f1, f2, f3, f4⟩ := HB.out j hlt
      have HA := Lib.hid (c_alloc (i := 0) hS hI f1 Yd.s2 (by decide +kernel) rfl f4)
      rw [f2, f3] at HA
      obtain ⟨pl, hpl⟩ : ∃ pl, pl = Yd.pl j := ⟨_, rfl⟩
      rw [← hpl] at HA
      have HPL := Lib.hid hpl
      clear f1 f2 f3 f4 hS hI hpl
      go_wp2_with fail
      refine HA.out.mono ?_
      rintro e w2 ⟨rfl, hL⟩
      obtain ⟨o2, hS2, hI2, hs2⟩ := show Left y (Yd.B n k (j + 1)) oo wo w2 from hL
      have hr2 := hr.stp hs2 (nine_st HID.out)
      clear hL hr
      obtain ⟨pv, cv, rfl⟩ := hr2.slc
      go_wp2_with (first | (at_builtin; refine wpList_append_row _ rfl _ _ _ rfl 3 iI _ 1 8 hu64 hi hzI hsI hyI rfl (by decide) o2 (9, 0) _ _ _ rfl (Row.below hr2 (balloc (bsame w2) _)) ⟨w2.heap.size, 0, none⟩ 1 1 [.int .i64 pl] rfl rfl (news_one (Blk.new w2 _ _)) one_i64 (hw4.out j (by omega)).1 (hw4.out j (by omega)).2 ?_; intro v' w8 hown hst))
      have hs8 : Stp (yT y) o2 (ext o2 (w2.alloc (.cells #[.int .i64 pl] 3)).heap.size (9, 0)) w2 w8 := (Stp.of_below (balloc (bsame w2) (.cells #[.int .i64 pl] 3))).trans (hst.mono fun _ h => .inr h)
      have hS8 := (hS2.below (balloc (bsame w2) (.cells #[.int .i64 pl] 3))).stp hst (fun q => by rw [HID.out]; simp)
      go_roundw
      case rel =>
        refine ⟨j + 1, _, by simp, by omega, hS8, hI2, ?_, hs.trans ((hs2.mono fun _ h => .inl h).trans hs8)⟩
        rw [List.range_succ, List.map_append, List.map_cons, List.map_nil, ← HPL.out]
        exact hown
      case measure => simp [intOf]; omega
    · obtain rfl : j = 4 := by omega
      clear hlt
      obtain ⟨g, cap, hv, hcap⟩ := (show ∃ g cap, u8 = .slice (some ⟨g, 0, none⟩) 4 cap ∧ 4 ≤ cap from by
        rcases hr.form with ⟨_, h0⟩ | ⟨g, cap, e, hn, _⟩
        · cases h0
        · exact ⟨g, cap, e, hn⟩)
      subst hv
      rw [show ((4 : Nat) : Int) = (4 : Int) from rfl]
      go_wp2_with fail
      go_loopw [12] (fun ix wr => ∃ (j : Nat) (oo : Own), ix = .int .i64 j ∧ j ≤ 4 ∧ StIn wr oo y (Yd.C n k j) ∧ Inv (Yd.C n k j) ∧ Row wr oo (9, 0) 3 1 (.slice (some ⟨g, 0, none⟩) 4 cap) 4 ((List.range 4).map fun t => nv (Yd.pl t)) ∧ Stp (yT y) (fun _ => (7, 0)) oo w wr) (fun ix _ => 4 - (intOf ix).toNat)
      case atStart => exact ⟨0, oo, rfl, by omega, hS, hI, hr, hs⟩
      case round =>
        have HYY := Lib.hid (And.intro HY.out.1 (And.intro HY.out.2.1 (And.intro HY.out.2.2.1 trivial)))
        clear hS hI hr hs HB hw4 HY hi
        obtain ⟨j, oo, rfl, hj4, hS, hI, hr, hs⟩ := hrel
        obtain ⟨wo, rfl⟩ : ∃ wo : World, wo = wr := ⟨_, rfl⟩
        by_cases hlt : j < 4
        · obtain ⟨f1, f2, f3, f4, f5, f6, f7⟩ := HC.out j hlt
          have HP1 := Lib.hid (fun (W : World) (hW : Below wo.heap.size wo W) => by
            have := c_put (i := 0) (hS.below hW) hI f1 f2 f3 0
            rw [f4] at this
            exact this)
          have HP2 := Lib.hid (fun (W : World) (o' : Own) (hS' : StIn W o' y (((Yd.C n k j).put 0 (Yd.pl j) 0 (Yd.pl ((j + 1) % 4))).S)) (hI' : Inv (((Yd.C n k j).put 0 (Yd.pl j) 0 (Yd.pl ((j + 1) % 4))).S)) => by
            have := c_write (i := 0) hS' hI' f5 f6 0 (10 + (j : Int)) (by omega)
            rw [f7] at this
            exact this)
          have HR := Lib.hid hr
          have HS := Lib.hid hs
          have hcell : ∀ (t : Nat), t < 4 → wo.cell? ⟨g, t, none⟩ = some (.int .i64 (Yd.pl t)) := fun t ht => hr.cells t _ (by rw [List.getElem?_map, List.getElem?_range ht]; rfl)
          have c0 := hcell 0 (by omega)
          have c1 := hcell 1 (by omega)
          have c2 := hcell 2 (by omega)
          have c3 := hcell 3 (by omega)
          have HCe := Lib.hid (fun (W : World) (o' : Own) (hW : Stp (stTag y) oo o' wo W) (t : Nat) (ht : t < 4) => show W.cell? ⟨g, t, none⟩ = some (.int .i64 (Yd.pl t)) from (hr.stp hW (nine_st HID.out)).cells t _ (by rw [List.getElem?_map, List.getElem?_range ht]; rfl))
          clear hS hI f1 f2 f3 f4 f5 f6 f7 hr hs hcell hj4 HC
          have a0 : IntKind.i64.wrap (0 : Int) = 0 := by decide
          have a1 : IntKind.i64.wrap (1 : Int) = 1 := by decide
          have a2 : IntKind.i64.wrap (2 : Int) = 2 := by decide
          have a3 : IntKind.i64.wrap (3 : Int) = 3 := by decide
          have a4 : IntKind.i64.wrap (4 : Int) = 4 := by decide
          have t1 : Int.tmod 1 4 = 1 := by decide
          have t2 : Int.tmod 2 4 = 2 := by decide
          have t3 : Int.tmod 3 4 = 3 := by decide
          have t4 : Int.tmod 4 4 = 0 := by decide
          have a10 : IntKind.i64.wrap (10 : Int) = 10 := by decide
          have a11 : IntKind.i64.wrap (11 : Int) = 11 := by decide
          have a12 : IntKind.i64.wrap (12 : Int) = 12 := by decide
          have a13 : IntKind.i64.wrap (13 : Int) = 13 := by decide
          obtain rfl | rfl | rfl | rfl : j = 0 ∨ j = 1 ∨ j = 2 ∨ j = 3 := by omega
          · have HQ1 := Lib.hid (show Calls Tryz.prog 41 #[ptr y.sb, .int .i64 0, .int .i64 (Yd.pl 0), .int .i64 0, .int .i64 (Yd.pl 1)] wo.drew fun e w' => e = .returned (.int .i64 0) ∧ Left y ((Yd.C n k 0).put 0 (Yd.pl 0) 0 (Yd.pl 1)).S oo wo.drew w' from HP1.out _ (bdrew (bsame _)))
            have HQ2 := Lib.hid (fun (W : World) (o' : Own) (hS' : StIn W o' y ((Yd.C n k 0).put 0 (Yd.pl 0) 0 (Yd.pl 1)).S) (hI' : Inv ((Yd.C n k 0).put 0 (Yd.pl 0) 0 (Yd.pl 1)).S) => show Calls Tryz.prog 16 #[ptr y.sb, .int .i64 0, .int .i64 (Yd.pl 0), .int .i64 0, .int .i64 10] W fun e w' => e = .returned (.int .i64 0) ∧ Left y (Yd.C n k 1) o' W w' from HP2.out W o' hS' hI')
            clear HP1 HP2
            go_upto_region 15 with fail
            go_region_held3 (fun w' => w'.cell? ⟨g, 0, none⟩ = some (.int .i64 (Yd.pl 0)) ∧ w'.cell? ⟨g, 1, none⟩ = some (.int .i64 (Yd.pl 1))) (first | exact ⟨by assumption, by assumption⟩ | go_keep) (first
              | (go_at_call 41; refine HQ1.out.mono ?_; rintro e w3 ⟨rfl, hL3⟩; obtain ⟨o3, hS3, hI3, hs3⟩ := hL3; have hsd := (Stp.of_below (T := stTag y) (o := oo) (bdrew (bsame wo))).trans hs3; have d1 := HCe.out _ _ hsd 0 (by omega); have d2 := HCe.out _ _ hsd 1 (by omega))
              | (go_at_call 16; refine (HQ2.out _ _ hS3 hI3).mono ?_; rintro e w4 ⟨rfl, hL4⟩; obtain ⟨o4, hS4, hI4, hs4⟩ := hL4; have hst := hsd.trans hs4; have e1 := HCe.out _ _ hst 0 (by omega); have e2 := HCe.out _ _ hst 1 (by omega))
              | fail)
            all_goals
              clear a0 a1 a2 a3 a4 t1 t2 t3 t4 a10 a11 a12 a13
              go_wp2_with fail
              go_roundw
              case rel => exact ⟨1, o4, by simp, by omega, hS4, hI4, HR.out.stp hst (nine_st HID.out), HS.out.trans (hst.mono fun _ h => .inl h)⟩
              case measure => simp [intOf]
          · have HQ1 := Lib.hid (show Calls Tryz.prog 41 #[ptr y.sb, .int .i64 0, .int .i64 (Yd.pl 1), .int .i64 0, .int .i64 (Yd.pl 2)] wo.drew fun e w' => e = .returned (.int .i64 0) ∧ Left y ((Yd.C n k 1).put 0 (Yd.pl 1) 0 (Yd.pl 2)).S oo wo.drew w' from HP1.out _ (bdrew (bsame _)))
            have HQ2 := Lib.hid (fun (W : World) (o' : Own) (hS' : StIn W o' y ((Yd.C n k 1).put 0 (Yd.pl 1) 0 (Yd.pl 2)).S) (hI' : Inv ((Yd.C n k 1).put 0 (Yd.pl 1) 0 (Yd.pl 2)).S) => show Calls Tryz.prog 16 #[ptr y.sb, .int .i64 0, .int .i64 (Yd.pl 1), .int .i64 0, .int .i64 11] W fun e w' => e = .returned (.int .i64 0) ∧ Left y (Yd.C n k 2) o' W w' from HP2.out W o' hS' hI')
            clear HP1 HP2
            go_upto_region 15 with fail
            go_region_held3 (fun w' => w'.cell? ⟨g, 1, none⟩ = some (.int .i64 (Yd.pl 1)) ∧ w'.cell? ⟨g, 2, none⟩ = some (.int .i64 (Yd.pl 2))) (first | exact ⟨by assumption, by assumption⟩ | go_keep) (first
              | (go_at_call 41; refine HQ1.out.mono ?_; rintro e w3 ⟨rfl, hL3⟩; obtain ⟨o3, hS3, hI3, hs3⟩ := hL3; have hsd := (Stp.of_below (T := stTag y) (o := oo) (bdrew (bsame wo))).trans hs3; have d1 := HCe.out _ _ hsd 1 (by omega); have d2 := HCe.out _ _ hsd 2 (by omega))
              | (go_at_call 16; refine (HQ2.out _ _ hS3 hI3).mono ?_; rintro e w4 ⟨rfl, hL4⟩; obtain ⟨o4, hS4, hI4, hs4⟩ := hL4; have hst := hsd.trans hs4; have e1 := HCe.out _ _ hst 1 (by omega); have e2 := HCe.out _ _ hst 2 (by omega))
              | fail)
            all_goals
              clear a0 a1 a2 a3 a4 t1 t2 t3 t4 a10 a11 a12 a13
              go_wp2_with fail
              go_roundw
              case rel => exact ⟨2, o4, by simp, by omega, hS4, hI4, HR.out.stp hst (nine_st HID.out), HS.out.trans (hst.mono fun _ h => .inl h)⟩
              case measure => simp [intOf]
          · have HQ1 := Lib.hid (show Calls Tryz.prog 41 #[ptr y.sb, .int .i64 0, .int .i64 (Yd.pl 2), .int .i64 0, .int .i64 (Yd.pl 3)] wo.drew fun e w' => e = .returned (.int .i64 0) ∧ Left y ((Yd.C n k 2).put 0 (Yd.pl 2) 0 (Yd.pl 3)).S oo wo.drew w' from HP1.out _ (bdrew (bsame _)))
            have HQ2 := Lib.hid (fun (W : World) (o' : Own) (hS' : StIn W o' y ((Yd.C n k 2).put 0 (Yd.pl 2) 0 (Yd.pl 3)).S) (hI' : Inv ((Yd.C n k 2).put 0 (Yd.pl 2) 0 (Yd.pl 3)).S) => show Calls Tryz.prog 16 #[ptr y.sb, .int .i64 0, .int .i64 (Yd.pl 2), .int .i64 0, .int .i64 12] W fun e w' => e = .returned (.int .i64 0) ∧ Left y (Yd.C n k 3) o' W w' from HP2.out W o' hS' hI')
            clear HP1 HP2
            go_upto_region 15 with fail
            go_region_held3 (fun w' => w'.cell? ⟨g, 2, none⟩ = some (.int .i64 (Yd.pl 2)) ∧ w'.cell? ⟨g, 3, none⟩ = some (.int .i64 (Yd.pl 3))) (first | exact ⟨by assumption, by assumption⟩ | go_keep) (first
              | (go_at_call 41; refine HQ1.out.mono ?_; rintro e w3 ⟨rfl, hL3⟩; obtain ⟨o3, hS3, hI3, hs3⟩ := hL3; have hsd := (Stp.of_below (T := stTag y) (o := oo) (bdrew (bsame wo))).trans hs3; have d1 := HCe.out _ _ hsd 2 (by omega); have d2 := HCe.out _ _ hsd 3 (by omega))
              | (go_at_call 16; refine (HQ2.out _ _ hS3 hI3).mono ?_; rintro e w4 ⟨rfl, hL4⟩; obtain ⟨o4, hS4, hI4, hs4⟩ := hL4; have hst := hsd.trans hs4; have e1 := HCe.out _ _ hst 2 (by omega); have e2 := HCe.out _ _ hst 3 (by omega))
              | fail)
            all_goals
              clear a0 a1 a2 a3 a4 t1 t2 t3 t4 a10 a11 a12 a13
              go_wp2_with fail
              go_roundw
              case rel => exact ⟨3, o4, by simp, by omega, hS4, hI4, HR.out.stp hst (nine_st HID.out), HS.out.trans (hst.mono fun _ h => .inl h)⟩
              case measure => simp [intOf]
          · have HQ1 := Lib.hid (show Calls Tryz.prog 41 #[ptr y.sb, .int .i64 0, .int .i64 (Yd.pl 3), .int .i64 0, .int .i64 (Yd.pl 0)] wo.drew fun e w' => e = .returned (.int .i64 0) ∧ Left y ((Yd.C n k 3).put 0 (Yd.pl 3) 0 (Yd.pl 0)).S oo wo.drew w' from HP1.out _ (bdrew (bsame _)))
            have HQ2 := Lib.hid (fun (W : World) (o' : Own) (hS' : StIn W o' y ((Yd.C n k 3).put 0 (Yd.pl 3) 0 (Yd.pl 0)).S) (hI' : Inv ((Yd.C n k 3).put 0 (Yd.pl 3) 0 (Yd.pl 0)).S) => show Calls Tryz.prog 16 #[ptr y.sb, .int .i64 0, .int .i64 (Yd.pl 3), .int .i64 0, .int .i64 13] W fun e w' => e = .returned (.int .i64 0) ∧ Left y (Yd.C n k 4) o' W w' from HP2.out W o' hS' hI')
            clear HP1 HP2
            go_upto_region 15 with fail
            go_region_held3 (fun w' => w'.cell? ⟨g, 3, none⟩ = some (.int .i64 (Yd.pl 3)) ∧ w'.cell? ⟨g, 0, none⟩ = some (.int .i64 (Yd.pl 0))) (first | exact ⟨by assumption, by assumption⟩ | go_keep) (first
              | (go_at_call 41; refine HQ1.out.mono ?_; rintro e w3 ⟨rfl, hL3⟩; obtain ⟨o3, hS3, hI3, hs3⟩ := hL3; have hsd := (Stp.of_below (T := stTag y) (o := oo) (bdrew (bsame wo))).trans hs3; have d1 := HCe.out _ _ hsd 3 (by omega); have d2 := HCe.out _ _ hsd 0 (by omega))
              | (go_at_call 16; refine (HQ2.out _ _ hS3 hI3).mono ?_; rintro e w4 ⟨rfl, hL4⟩; obtain ⟨o4, hS4, hI4, hs4⟩ := hL4; have hst := hsd.trans hs4; have e1 := HCe.out _ _ hst 3 (by omega); have e2 := HCe.out _ _ hst 0 (by omega))
              | fail)
            all_goals
              clear a0 a1 a2 a3 a4 t1 t2 t3 t4 a10 a11 a12 a13
              go_wp2_with fail
              go_roundw
              case rel => exact ⟨4, o4, by simp, by omega, hS4, hI4, HR.out.stp hst (nine_st HID.out), HS.out.trans (hst.mono fun _ h => .inl h)⟩
              case measure => simp [intOf]
        · obtain rfl : j = 4 := by omega
          have HCm := Lib.hid (c_commit (i := 0) hS hI HYY.out.1 HYY.out.2.1)
          rw [HYY.out.2.2.1] at HCm
          clear hS hI
          go_wp2_with fail
          refine HCm.out.mono ?_
          rintro e w5 ⟨rfl, hL⟩
          obtain ⟨o5, hS5, hI5, hs5⟩ := show Left y (Yd.Y n k) oo wo w5 from hL
          go_wp2_with fail
          go_ret2
          exact ⟨y, _, o5, rfl, HID.out, hS5, hI5, hr.stp hs5 (nine_st HID.out), hs.trans (hs5.mono fun _ h => .inl h)⟩
end Go.Proofs.YtemohiainfllcaaGreat
