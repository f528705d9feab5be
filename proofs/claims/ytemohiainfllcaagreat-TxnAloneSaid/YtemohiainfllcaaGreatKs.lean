/- The laws' deeds of chapter 14, walked: Deed. -/
import Derived.Test.YtemohiainfllcaaGreatKr
import Derived.Test.YtemohiainfllcaaGreatKn
namespace Go.Proofs.YtemohiainfllcaaGreat
open Go.RowKit Hp
attribute [local go_sem ↓] Go.wp_at_zero Go.wp_at_succ
section
variable {w w' : World} {o o' : Own} {y : SLay} {S : Stt} {i : Nat}
set_option maxRecDepth 100000 in
set_option maxHeartbeats 2000000 in
theorem deed14_read (h : StIn w o y S) (hI : Inv S) (hc : S.chk i = true) (d : OpV) (hd : d.ok) {gr cap : Nat} (hp : Plc S (Yd.pl (pk d.b 4))) (hk : pk d.k 8 = 0 ∨ pk d.k 8 = 1)
    (hr : ∀ t, t < 4 → w.cell? ⟨gr, t, none⟩ = some (.int .i64 (Yd.pl t))) (hg : gr < w.heap.size) :
    Calls Tryz.prog 24 #[ptr y.sb, .int .i64 i, .slice (some ⟨gr, 0, none⟩) 4 cap, d.v] w fun e w' =>
      e = .returned (.tuple #[.int .i64 (S.read i (Yd.pl (pk d.b 4)) (pk d.i 2)).v, .int .i64 (S.read i (Yd.pl (pk d.b 4)) (pk d.i 2)).e]) ∧ Left y (S.read i (Yd.pl (pk d.b 4)) (pk d.i 2)).S o w w' := by
  have PB := Lib.hid (fun w => pick14_any d.b (hd 3) 4 (by omega) (by omega) w)
  have PK := Lib.hid (fun w => pick14_any d.k (hd 0) 8 (by omega) (by omega) w)
  have PI := Lib.hid (fun w => pick14_any d.i (hd 4) 2 (by omega) (by omega) w)
  have lb := pk_lt d.b (show 1 ≤ 4 by omega)
  have HR := Lib.hid (fun W (hW : Below w.heap.size w W) (j : Nat) => c_read (h.below hW) hI hc hp j)
  have e1 : d.v = .agg #[.int .i64 d.k, .int .i64 d.t, .int .i64 d.a, .int .i64 d.b, .int .i64 d.i, .int .i64 d.n, .int .i64 d.s0, .int .i64 d.s1, .int .i64 d.s2] := rfl
  rw [e1]
  generalize pk d.b 4 = b at *
  generalize pk d.k 8 = k at *
  generalize pk d.i 2 = j at *
  obtain ⟨dk, dt, da, db, di, dn, s0, s1, s2⟩ := d
  simp only at PB PK PI ⊢
  have bI : (b : Int) < 4 := by omega
  have cr := (balloc (bsame w) (.cells #[.int .i64 dk, .int .i64 dt, .int .i64 da, .int .i64 db, .int .i64 di, .int .i64 dn, .int .i64 s0, .int .i64 s1, .int .i64 s2] 39)).cell (p := ⟨gr, b, none⟩) hg
  rw [hr b lb] at cr
  clear h hI hc hp hd e1 hr
  go_enter Tryz.func24, Tryz.ntmps24
  go_wp2_with fail
  refine (PB.out _).mono ?_
  rintro e w' ⟨rfl, rfl⟩
  go_wp2_with fail
  refine (PK.out _).mono ?_
  rintro e w' ⟨rfl, rfl⟩
  rcases hk with rfl | rfl
  all_goals
    go_wp2_with fail
    refine (PI.out _).mono ?_
    rintro e w' ⟨rfl, rfl⟩
    go_wp2_with fail
    refine (HR.out _ (balloc (bsame w) _) j).mono ?_
    rintro e w2 ⟨rfl, o2, hS2, hI2, hs2⟩
    go_wp2_with fail
    go_ret2
    exact ⟨rfl, o2, hS2, hI2, (Stp.of_below (balloc (bsame w) _)).trans hs2⟩
set_option maxRecDepth 100000 in
set_option maxHeartbeats 2000000 in
theorem deed14_five (h : StIn w o y S) (hI : Inv S) (hc : S.chk i = true) (d : OpV) (hd : d.ok) {gr cap : Nat} (hp : Plc S (Yd.pl (pk d.b 4))) (hk : pk d.k 8 = 5)
    (hr : ∀ t, t < 4 → w.cell? ⟨gr, t, none⟩ = some (.int .i64 (Yd.pl t))) (hg : gr < w.heap.size) :
    Calls Tryz.prog 24 #[ptr y.sb, .int .i64 i, .slice (some ⟨gr, 0, none⟩) 4 cap, d.v] w fun e w' =>
      e = .returned (.tuple #[.int .i64 0, .int .i64 (if pk d.n 3 = 0 then S.free i (Yd.pl (pk d.b 4)) else S.get i (Yd.pl (pk d.b 4)) 0).e]) ∧ Left y (if pk d.n 3 = 0 then S.free i (Yd.pl (pk d.b 4)) else S.get i (Yd.pl (pk d.b 4)) 0).S o w w' := by
  have PB := Lib.hid (fun w => pick14_any d.b (hd 3) 4 (by omega) (by omega) w)
  have PK := Lib.hid (fun w => pick14_any d.k (hd 0) 8 (by omega) (by omega) w)
  have PI := Lib.hid (fun w => pick14_any d.n (hd 5) 3 (by omega) (by omega) w)
  have lb := pk_lt d.b (show 1 ≤ 4 by omega)
  have HR := Lib.hid (fun W (hW : Below w.heap.size w W) => c_free (h.below hW) hI hc hp)
  have HG := Lib.hid (fun W (hW : Below w.heap.size w W) => c_get (h.below hW) hI hc hp 0)
  have ln := pk_lt d.n (show 1 ≤ 3 by omega)
  have e1 : d.v = .agg #[.int .i64 d.k, .int .i64 d.t, .int .i64 d.a, .int .i64 d.b, .int .i64 d.i, .int .i64 d.n, .int .i64 d.s0, .int .i64 d.s1, .int .i64 d.s2] := rfl
  rw [e1]
  generalize pk d.b 4 = b at *
  generalize pk d.k 8 = k at *
  generalize pk d.n 3 = j at *
  obtain ⟨dk, dt, da, db, di, dn, s0, s1, s2⟩ := d
  simp only at PB PK PI ⊢
  generalize hR : (if j = 0 then S.free i (Yd.pl b) else S.get i (Yd.pl b) 0) = R
  have bI : (b : Int) < 4 := by omega
  have cr := (balloc (bsame w) (.cells #[.int .i64 dk, .int .i64 dt, .int .i64 da, .int .i64 db, .int .i64 di, .int .i64 dn, .int .i64 s0, .int .i64 s1, .int .i64 s2] 39)).cell (p := ⟨gr, b, none⟩) hg
  rw [hr b lb] at cr
  clear h hI hc hp hd e1 hr
  go_enter Tryz.func24, Tryz.ntmps24
  go_wp2_with fail
  refine (PB.out _).mono ?_
  rintro e w' ⟨rfl, rfl⟩
  go_wp2_with fail
  refine (PK.out _).mono ?_
  rintro e w' ⟨rfl, rfl⟩
  subst hk
  go_wp2_with fail
  refine (PI.out _).mono ?_
  rintro e w' ⟨rfl, rfl⟩
  by_cases hj : j = 0
  · subst hj
    rw [if_pos rfl] at hR
    subst hR
    go_wp2_with fail
    refine (HR.out _ (balloc (bsame w) _)).mono ?_
    rintro e w2 ⟨rfl, o2, hS2, hI2, hs2⟩
    go_wp2_with fail
    go_ret2
    exact ⟨rfl, o2, hS2, hI2, (Stp.of_below (balloc (bsame w) _)).trans hs2⟩
  · have hjI : ((j : Int) == 0) = false := by rw [beq_eq_false_iff_ne]; omega
    rw [if_neg hj] at hR
    subst hR
    go_wp2_with fail
    refine (HG.out _ (balloc (bsame w) _)).mono ?_
    rintro e w2 ⟨rfl, o2, hS2, hI2, hs2⟩
    go_wp2_with fail
    go_ret2
    exact ⟨rfl, o2, hS2, hI2, (Stp.of_below (balloc (bsame w) _)).trans hs2⟩
set_option maxRecDepth 100000 in
set_option maxHeartbeats 2000000 in
theorem deed14_take (h : StIn w o y S) (hI : Inv S) (hc : S.chk i = true) (d : OpV) (hd : d.ok) {gr cap : Nat} (hk : pk d.k 8 = 7)
    (hr : ∀ t, t < 4 → w.cell? ⟨gr, t, none⟩ = some (.int .i64 (Yd.pl t))) (hg : gr < w.heap.size) :
    Calls Tryz.prog 24 #[ptr y.sb, .int .i64 i, .slice (some ⟨gr, 0, none⟩) 4 cap, d.v] w fun e w' =>
      e = .returned (.tuple #[.int .i64 0, .int .i64 (S.take i).e]) ∧ Left y (S.take i).S o w w' := by
  have PB := Lib.hid (fun w => pick14_any d.b (hd 3) 4 (by omega) (by omega) w)
  have PK := Lib.hid (fun w => pick14_any d.k (hd 0) 8 (by omega) (by omega) w)
  have lb := pk_lt d.b (show 1 ≤ 4 by omega)
  have HR := Lib.hid (fun W (hW : Below w.heap.size w W) => c_take (h.below hW) hI hc)
  have e1 : d.v = .agg #[.int .i64 d.k, .int .i64 d.t, .int .i64 d.a, .int .i64 d.b, .int .i64 d.i, .int .i64 d.n, .int .i64 d.s0, .int .i64 d.s1, .int .i64 d.s2] := rfl
  rw [e1]
  generalize pk d.b 4 = b at *
  generalize pk d.k 8 = k at *
  obtain ⟨dk, dt, da, db, di, dn, s0, s1, s2⟩ := d
  simp only at PB PK ⊢
  have bI : (b : Int) < 4 := by omega
  have cr := (balloc (bsame w) (.cells #[.int .i64 dk, .int .i64 dt, .int .i64 da, .int .i64 db, .int .i64 di, .int .i64 dn, .int .i64 s0, .int .i64 s1, .int .i64 s2] 39)).cell (p := ⟨gr, b, none⟩) hg
  rw [hr b lb] at cr
  clear h hI hc hd e1 hr
  go_enter Tryz.func24, Tryz.ntmps24
  go_wp2_with fail
  refine (PB.out _).mono ?_
  rintro e w' ⟨rfl, rfl⟩
  go_wp2_with fail
  refine (PK.out _).mono ?_
  rintro e w' ⟨rfl, rfl⟩
  subst hk
  go_wp2_with fail
  refine (HR.out _ (balloc (bsame w) _)).mono ?_
  rintro e w2 ⟨rfl, o2, hS2, hI2, hs2⟩
  go_wp2_with fail
  go_ret2
  exact ⟨rfl, o2, hS2, hI2, (Stp.of_below (balloc (bsame w) _)).trans hs2⟩
set_option maxRecDepth 100000 in
set_option maxHeartbeats 2000000 in
theorem deed14_write (h : StIn w o y S) (hI : Inv S) (hc : S.chk i = true) (d : OpV) (hd : d.ok) {gr cap : Nat} (hp : Plc S (Yd.pl (pk d.b 4))) (hk : pk d.k 8 = 2 ∨ pk d.k 8 = 3)
    (hr : ∀ t, t < 4 → w.cell? ⟨gr, t, none⟩ = some (.int .i64 (Yd.pl t))) (hg : gr < w.heap.size) :
    Calls Tryz.prog 24 #[ptr y.sb, .int .i64 i, .slice (some ⟨gr, 0, none⟩) 4 cap, d.v] w fun e w' =>
      e = .returned (.tuple #[.int .i64 0, .int .i64 (S.write i (Yd.pl (pk d.b 4)) (pk d.i 2) d.n).e]) ∧ Left y (S.write i (Yd.pl (pk d.b 4)) (pk d.i 2) d.n).S o w w' := by
  have PB := Lib.hid (fun w => pick14_any d.b (hd 3) 4 (by omega) (by omega) w)
  have PK := Lib.hid (fun w => pick14_any d.k (hd 0) 8 (by omega) (by omega) w)
  have PI := Lib.hid (fun w => pick14_q d.i (hd 4) 2 (by omega) (by omega) w)
  have lb := pk_lt d.b (show 1 ≤ 4 by omega)
  have HR := Lib.hid (fun W (hW : Below w.heap.size w W) (j : Nat) => c_write (h.below hW) hI hc hp j d.n (hd 5))
  have e1 : d.v = .agg #[.int .i64 d.k, .int .i64 d.t, .int .i64 d.a, .int .i64 d.b, .int .i64 d.i, .int .i64 d.n, .int .i64 d.s0, .int .i64 d.s1, .int .i64 d.s2] := rfl
  rw [e1]
  generalize pk d.b 4 = b at *
  generalize pk d.k 8 = k at *
  generalize pk d.i 2 = j at *
  obtain ⟨dk, dt, da, db, di, dn, s0, s1, s2⟩ := d
  simp only at PB PK PI ⊢
  have bI : (b : Int) < 4 := by omega
  have cr := (balloc (bsame w) (.cells #[.int .i64 dk, .int .i64 dt, .int .i64 da, .int .i64 db, .int .i64 di, .int .i64 dn, .int .i64 s0, .int .i64 s1, .int .i64 s2] 39)).cell (p := ⟨gr, b, none⟩) hg
  rw [hr b lb] at cr
  clear h hI hc hp hd e1 hr
  go_enter Tryz.func24, Tryz.ntmps24
  go_wp2_with fail
  refine (PB.out _).mono ?_
  rintro e w' ⟨rfl, rfl⟩
  go_wp2_with fail
  refine (PK.out _).mono ?_
  rintro e w' ⟨rfl, rfl⟩
  obtain ⟨W, hW⟩ : ∃ W : World, W = w.alloc (.cells #[.int .i64 dk, .int .i64 dt, .int .i64 da, .int .i64 db, .int .i64 di, .int .i64 dn, .int .i64 s0, .int .i64 s1, .int .i64 s2] 39) := ⟨_, rfl⟩
  rw [← hW]
  have hbW : Below w.heap.size w W := by rw [hW]; exact balloc (bsame w) _
  have j1 : Blk W w.heap.size #[.int .i64 dk, .int .i64 dt, .int .i64 da, .int .i64 db, .int .i64 di, .int .i64 dn, .int .i64 s0, .int .i64 s1, .int .i64 s2] 39 := by rw [hW]; exact Blk.new w _ _
  have c1 := j1.cell
  clear hW
  rcases hk with rfl | rfl
  all_goals
    go_upto_region 8 with fail
    go_still_tail 8, (by kernel_rfl)
    still_call (PI.out _)
    repeat still_step
    refine wpStill_nil ?_
    change wpList _ _ _ _ _ W.drew
    go_wp2_with fail
    refine (HR.out _ (bdrew hbW) j).mono ?_
    rintro e w2 ⟨rfl, o2, hS2, hI2, hs2⟩
    go_wp2_with fail
    go_ret2
    exact ⟨rfl, o2, hS2, hI2, (Stp.of_below (bdrew hbW)).trans hs2⟩
set_option maxRecDepth 100000 in
set_option maxHeartbeats 2000000 in
theorem deed14_put (h : StIn w o y S) (hI : Inv S) (hc : S.chk i = true) (d : OpV) (hd : d.ok) {gr cap : Nat} (hp : Plc S (Yd.pl (pk d.b 4))) (hq : Plc S (Yd.pl (pk d.a 4))) (hk : pk d.k 8 = 4)
    (hr : ∀ t, t < 4 → w.cell? ⟨gr, t, none⟩ = some (.int .i64 (Yd.pl t))) (hg : gr < w.heap.size) :
    Calls Tryz.prog 24 #[ptr y.sb, .int .i64 i, .slice (some ⟨gr, 0, none⟩) 4 cap, d.v] w fun e w' =>
      e = .returned (.tuple #[.int .i64 0, .int .i64 (S.put i (Yd.pl (pk d.b 4)) (pk d.i 2) (Yd.pl (pk d.a 4))).e]) ∧ Left y (S.put i (Yd.pl (pk d.b 4)) (pk d.i 2) (Yd.pl (pk d.a 4))).S o w w' := by
  have PB := Lib.hid (fun w => pick14_any d.b (hd 3) 4 (by omega) (by omega) w)
  have PK := Lib.hid (fun w => pick14_any d.k (hd 0) 8 (by omega) (by omega) w)
  have PI := Lib.hid (fun w => pick14_q d.i (hd 4) 2 (by omega) (by omega) w)
  have PA := Lib.hid (fun w => pick14_q d.a (hd 2) 4 (by omega) (by omega) w)
  have la := pk_lt d.a (show 1 ≤ 4 by omega)
  have lb := pk_lt d.b (show 1 ≤ 4 by omega)
  have HR := Lib.hid (fun W (hW : Below w.heap.size w W) (j : Nat) => c_put (h.below hW) hI hc hp hq j)
  have e1 : d.v = .agg #[.int .i64 d.k, .int .i64 d.t, .int .i64 d.a, .int .i64 d.b, .int .i64 d.i, .int .i64 d.n, .int .i64 d.s0, .int .i64 d.s1, .int .i64 d.s2] := rfl
  rw [e1]
  generalize pk d.b 4 = b at *
  generalize pk d.k 8 = k at *
  generalize pk d.a 4 = q at *
  generalize pk d.i 2 = j at *
  obtain ⟨dk, dt, da, db, di, dn, s0, s1, s2⟩ := d
  simp only at PB PK PI PA ⊢
  have bI : (b : Int) < 4 := by omega
  have cr := (balloc (bsame w) (.cells #[.int .i64 dk, .int .i64 dt, .int .i64 da, .int .i64 db, .int .i64 di, .int .i64 dn, .int .i64 s0, .int .i64 s1, .int .i64 s2] 39)).cell (p := ⟨gr, b, none⟩) hg
  rw [hr b lb] at cr
  have qI : (q : Int) < 4 := by omega
  have cq0 := hr q la
  clear h hI hc hp hq hd e1 hr
  go_enter Tryz.func24, Tryz.ntmps24
  go_wp2_with fail
  refine (PB.out _).mono ?_
  rintro e w' ⟨rfl, rfl⟩
  go_wp2_with fail
  refine (PK.out _).mono ?_
  rintro e w' ⟨rfl, rfl⟩
  obtain ⟨W, hW⟩ : ∃ W : World, W = w.alloc (.cells #[.int .i64 dk, .int .i64 dt, .int .i64 da, .int .i64 db, .int .i64 di, .int .i64 dn, .int .i64 s0, .int .i64 s1, .int .i64 s2] 39) := ⟨_, rfl⟩
  rw [← hW]
  have hbW : Below w.heap.size w W := by rw [hW]; exact balloc (bsame w) _
  have j1 : Blk W w.heap.size #[.int .i64 dk, .int .i64 dt, .int .i64 da, .int .i64 db, .int .i64 di, .int .i64 dn, .int .i64 s0, .int .i64 s1, .int .i64 s2] 39 := by rw [hW]; exact Blk.new w _ _
  have c1 := j1.cell
  have cq := (hbW.cell (p := ⟨gr, q, none⟩) hg).trans cq0
  clear hW
  subst hk
  go_upto_region 8 with fail
  go_still_tail 12, (by kernel_rfl)
  still_call (PI.out _)
  repeat still_step
  still_call (PA.out _)
  repeat still_step
  refine wpStill_nil ?_
  change wpList _ _ _ _ _ W.drew
  go_wp2_with fail
  refine (HR.out _ (bdrew hbW) j).mono ?_
  rintro e w2 ⟨rfl, o2, hS2, hI2, hs2⟩
  go_wp2_with fail
  go_ret2
  exact ⟨rfl, o2, hS2, hI2, (Stp.of_below (bdrew hbW)).trans hs2⟩
end
end Go.Proofs.YtemohiainfllcaaGreat

/- The laws' deeds of chapter 14, walked: Deed, in one word. -/
namespace Go.Proofs.YtemohiainfllcaaGreat
open Go.RowKit Hp
attribute [local go_sem ↓] Go.wp_at_zero Go.wp_at_succ
section
variable {w w' : World} {o o' : Own} {y : SLay} {S : Stt} {i : Nat}
set_option maxRecDepth 100000 in
set_option maxHeartbeats 2000000 in
theorem deed14_lay (h : StIn w o y S) (hI : Inv S) (d : OpV) (hd : d.ok) {gr cap : Nat} (hD : Deedy S i d) (hk : pk d.k 8 = 6)
    (hr : ∀ t, t < 4 → w.cell? ⟨gr, t, none⟩ = some (.int .i64 (Yd.pl t))) (hg : gr < w.heap.size) (R : Res) (hR : R = if (S.alloc i d.shp).e = 0 then (S.alloc i d.shp).S.put i (Yd.pl (pk d.b 4)) 1 (S.alloc i d.shp).v.toNat else S.alloc i d.shp) :
    Calls Tryz.prog 24 #[ptr y.sb, .int .i64 i, .slice (some ⟨gr, 0, none⟩) 4 cap, d.v] w fun e w' =>
      e = .returned (.tuple #[.int .i64 0, .int .i64 R.e]) ∧ Left y R.S o w w' := by
  have PB := Lib.hid (fun w => pick14_any d.b (hd 3) 4 (by omega) (by omega) w)
  have PK := Lib.hid (fun w => pick14_any d.k (hd 0) 8 (by omega) (by omega) w)
  have lb := pk_lt d.b (show 1 ≤ 4 by omega)
  have HS := Lib.hid (fun W => shape14_any d hd W)
  have HA := Lib.hid (fun W (hW : Below w.heap.size w W) => c_alloc (h.below hW) hI hD.chk d.shp (Ap.shp_ok d).1 rfl hD.ser)
  have HP := Lib.hid (fun (he : (S.alloc i d.shp).e = 0) (o1 : Own) W (h1 : StIn W o1 y (S.alloc i d.shp).S) (h2 : Inv (S.alloc i d.shp).S) => by
    obtain ⟨b1, b2, b3, b4⟩ := hD.nx he
    have := c_put h1 h2 b1 (b2 _ lb) b3 1
    rw [Int.toNat_of_nonneg b4] at this
    exact this)
  have e1 : d.v = .agg #[.int .i64 d.k, .int .i64 d.t, .int .i64 d.a, .int .i64 d.b, .int .i64 d.i, .int .i64 d.n, .int .i64 d.s0, .int .i64 d.s1, .int .i64 d.s2] := rfl
  generalize d.shp = s at *
  rw [e1] at HS ⊢
  generalize pk d.b 4 = b at *
  generalize pk d.k 8 = k at *
  obtain ⟨dk, dt, da, db, di, dn, s0, s1, s2⟩ := d
  simp only at PB PK HS ⊢
  generalize S.alloc i s = A at *
  have bI : (b : Int) < 4 := by omega
  have cr := (balloc (bsame w) (.cells #[.int .i64 dk, .int .i64 dt, .int .i64 da, .int .i64 db, .int .i64 di, .int .i64 dn, .int .i64 s0, .int .i64 s1, .int .i64 s2] 39)).cell (p := ⟨gr, b, none⟩) hg
  rw [hr b lb] at cr
  clear h hI hD hd e1 hr
  go_enter Tryz.func24, Tryz.ntmps24
  go_wp2_with fail
  refine (PB.out _).mono ?_
  rintro e w' ⟨rfl, rfl⟩
  go_wp2_with fail
  refine (PK.out _).mono ?_
  rintro e w' ⟨rfl, rfl⟩
  subst hk
  go_wp2_with fail
  refine (HS.out _).mono ?_
  rintro e w1 ⟨rfl, hb1⟩
  have hb01 := btrans (balloc (bsame w) (.cells #[.int .i64 dk, .int .i64 dt, .int .i64 da, .int .i64 db, .int .i64 di, .int .i64 dn, .int .i64 s0, .int .i64 s1, .int .i64 s2] 39)) hb1
  go_wp2_with fail
  refine (HA.out _ hb01).mono ?_
  rintro e w2 ⟨rfl, o2, hS2, hI2, hs2⟩
  by_cases he : A.e = 0
  · have heb : (A.e == 0) = true := by rw [beq_iff_eq]; exact he
    rw [if_pos he] at hR
    subst hR
    go_wp2_with fail
    refine (HP.out he o2 _ hS2 hI2).mono ?_
    rintro e w3 ⟨rfl, o3, hS3, hI3, hs3⟩
    go_wp2_with fail
    go_ret2
    exact ⟨rfl, o3, hS3, hI3, ((Stp.of_below hb01).trans hs2).trans hs3⟩
  · have heb : (A.e == 0) = false := by rw [beq_eq_false_iff_ne]; exact he
    rw [if_neg he] at hR
    subst hR
    go_wp2_with fail
    go_ret2
    exact ⟨rfl, o2, hS2, hI2, (Stp.of_below hb01).trans hs2⟩
theorem deed14_any (h : StIn w o y S) (hI : Inv S) (d : OpV) (hd : d.ok) {gr cap : Nat} (hD : Deedy S i d)
    (hr : ∀ t, t < 4 → w.cell? ⟨gr, t, none⟩ = some (.int .i64 (Yd.pl t))) (hg : gr < w.heap.size) :
    Calls Tryz.prog 24 #[ptr y.sb, .int .i64 i, .slice (some ⟨gr, 0, none⟩) 4 cap, d.v] w fun e w' =>
      (∃ v, e = .returned (.tuple #[v, .int .i64 (S.deed14 i d).e])) ∧ Left y (S.deed14 i d).S o w w' := by
  have lb := pk_lt d.b (show 1 ≤ 4 by omega)
  have la := pk_lt d.a (show 1 ≤ 4 by omega)
  have lk := pk_lt d.k (show 1 ≤ 8 by omega)
  have hc := hD.chk
  unfold Stt.deed14
  split
  · rename_i hk
    exact (deed14_read h hI hc d hd (hD.plc _ lb) hk hr hg).mono fun e w' ⟨a, b⟩ => ⟨⟨_, a⟩, b⟩
  split
  · rename_i hk
    exact (deed14_write h hI hc d hd (hD.plc _ lb) hk hr hg).mono fun e w' ⟨a, b⟩ => ⟨⟨_, a⟩, b⟩
  split
  · rename_i hk
    exact (deed14_put h hI hc d hd (hD.plc _ lb) (hD.plc _ la) hk hr hg).mono fun e w' ⟨a, b⟩ => ⟨⟨_, a⟩, b⟩
  split
  · rename_i hk
    exact (deed14_five h hI hc d hd (hD.plc _ lb) hk hr hg).mono fun e w' ⟨a, b⟩ => ⟨⟨_, a⟩, b⟩
  split
  · rename_i hk
    exact (deed14_lay h hI d hd hD hk hr hg _ rfl).mono fun e w' ⟨a, b⟩ => ⟨⟨_, a⟩, b⟩
  · exact (deed14_take h hI hc d hd (by omega) hr hg).mono fun e w' ⟨a, b⟩ => ⟨⟨_, a⟩, b⟩
end
end Go.Proofs.YtemohiainfllcaaGreat

/- The law TxnAlone, walked. -/
namespace Go.Proofs.YtemohiainfllcaaGreat
open Go.RowKit Hp
attribute [local go_sem ↓] Go.wp_at_zero Go.wp_at_succ
def yU (y : SLay) (t : Tag) : Prop := yT y t ∨ t = (9, 1)
set_option maxRecDepth 100000 in
set_option maxHeartbeats 4000000 in
theorem txnAlone_any (v0 v1 : Value) (l m : List OpV) (w : World) (hl : OpsAt w v0 l) (hI : ∀ d ∈ l, d.ok) (hm : OpsAt w v1 m) (hJ : ∀ d ∈ m, d.ok) :
    Calls Tryz.prog 6 #[v0, v1] w fun e w' => e = .returned (.bool true) ∧ Below w.heap.size w w' := by
  have HYd := Lib.hid (fun w => yard_any 2000 3 (by decide) w)
  have HAw := Lib.hid awake14_any
  have HP0 := Lib.hid (Ap.start_of (Y := Yd.Y 2000 3) Ap.yard_b)
  obtain ⟨hlen, a, c, rfl, hop⟩ := hl
  obtain ⟨hlen2, a2, c2, rfl, hop2⟩ := hm
  have HOp := Lib.hid hop
  have HOk := Lib.hid hI
  have HOp2 := Lib.hid hop2
  have HOk2 := Lib.hid hJ
  clear hop hI hop2 hJ
  have hlI : (l.length : Int) ≤ 9223372036854775807 := by have := hlen; simp [maxLen] at this; omega
  have hmI : (m.length : Int) ≤ 9223372036854775807 := by have := hlen2; simp [maxLen] at this; omega
  clear hlen hlen2
  generalize Yd.Y 2000 3 = YS at *
  go_enter Tryz.func6, Tryz.ntmps6
  go_wp2_with fail
  refine (HAw.out _).mono ?_
  rintro e w1 ⟨rfl, hb1⟩
  go_wp2_with fail
  refine (HYd.out _).mono ?_
  rintro e w2 ⟨y, v, o2, rfl, hid, hS2, hI2, hr2, hs2⟩
  have HID := Lib.hid hid
  have hold := Lib.hid (fun (W : World) (o' : Own) (hs : Stp (yU y) (fun _ => (7, 0)) o' w1 W) => show Below w.heap.size w W from
    btrans hb1 (hs.below fun c _ h => h.elim (fun h => h.elim (fun h => by have h : (7 : Nat) = y.l.id := h; rw [HID.out] at h; cases h) (fun h => by injection h with h _; cases h)) (fun h => by injection h with h _; cases h)))
  have hs2 : Stp (yU y) (fun _ => (7, 0)) o2 w1 w2 := hs2.mono fun _ h => .inl h
  have h91 : ¬ stTag y (9, 1) := by unfold stTag; rw [hid]; simp
  have H91 := Lib.hid h91
  clear hid hb1 h91
  obtain ⟨gr, cap, hv, hcap⟩ := (show ∃ g cap, v = .slice (some ⟨g, 0, none⟩) 4 cap ∧ 4 ≤ cap from by
    rcases hr2.form with ⟨_, h0⟩ | ⟨g, cap, e, hn, _⟩
    · cases h0
    · exact ⟨g, cap, e, hn⟩)
  subst hv
  have hP2 := HP0.out hI2
  clear HYd HAw HP0 hI2
  go_wp2_with fail
  go_loopw [8, 9, 10] (fun ix _ _ wr => ∃ (t : Nat) (oo : Own) (S : Stt), ix = .int .i64 t ∧ t ≤ 20 ∧ t ≤ l.length ∧ StIn wr oo y S ∧ Ap.P1 (2 * t) S ∧ Row wr oo (9, 0) 3 1 (.slice (some ⟨gr, 0, none⟩) 4 cap) 4 ((List.range 4).map fun t => nv (Yd.pl t)) ∧ Stp (yU y) (fun _ => (7, 0)) oo w1 wr) (fun ix _ _ _ => 20 - (intOf ix).toNat)
  case atStart => exact ⟨0, o2, _, rfl, by omega, by omega, hS2, hP2, hr2, hs2⟩
  case round =>
    clear hS2 hP2 hr2 hs2
    obtain ⟨t, oo, S, rfl, ht, htl, hS, hP, hr, hs⟩ := hrel
    obtain ⟨wo, rfl⟩ : ∃ wo : World, wo = wr := ⟨_, rfl⟩
    have hstop : (t < 20 ∧ t < l.length) ∨ ¬ (t < 20 ∧ t < l.length) := by omega
    rcases hstop with ⟨h20, hll⟩ | hstop
    · have tI : (t : Int) < 20 := by omega
      have tL : (t : Int) < (l.length : Int) := by omega
      obtain ⟨d, hd⟩ : ∃ d, l[t]? = some d := ⟨l[t], List.getElem?_eq_getElem hll⟩
      obtain ⟨bb, off, rfl, hc⟩ : ∃ b off, a = some ⟨b, off, none⟩ ∧ ∀ (i : Nat) (d : OpV), l[i]? = some d → ∀ j, j < 9 → w.cell? ⟨b, off + i * 9 + j, none⟩ = some (.int .i64 (d.c j)) := by
        rcases HOp.out with h | h
        · rw [h] at hd; simp at hd
        · exact h
      have hdo := HOk.out d (List.mem_of_getElem? hd)
      have hcell := Lib.hid (fun (W : World) (hW : Below w.heap.size w W) (j : Nat) (hj : j < 9) => (hW.cell (p := ⟨bb, off + t * 9 + j, none⟩) (cell_in (hc t d hd j hj))).trans (hc t d hd j hj))
      have li := pk_lt d.t (show 1 ≤ 2 by omega)
      obtain ⟨b1, b2, b3⟩ := (Ap.begin_q hP d).resolve_right (by omega)
      obtain ⟨g1, g2, g3, g4⟩ := Ap.ahead_q hP (by omega) d hdo
      have P0 := Lib.hid (fun w => pick14_any d.t (hdo 1) 2 (by omega) (by omega) w)
      have P1 := Lib.hid (fun w => pick14_any d.k (hdo 0) 8 (by omega) (by omega) w)
      have P2 := Lib.hid (fun w => pick14_any d.a (hdo 2) 5 (by omega) (by omega) w)
      have HBg := Lib.hid (c_begin (i := pk d.t 2) hS hP.q.inv (by rw [hP.q.len]; omega) b3)
      have HDd := Lib.hid (fun (W : World) (o' : Own) (h : StIn W o' y (S.begin (pk d.t 2))) (hr : ∀ t, t < 4 → W.cell? ⟨gr, t, none⟩ = some (.int .i64 (Yd.pl t))) (hg : gr < W.heap.size) => deed14_any (cap := cap) h b1.q.inv (Ap.fix d) (Ap.fix_ok hdo) g1 hr hg)
      have HCm := Lib.hid (fun (W : World) (o' : Own) (h : StIn W o' y (Ap.rnd1 S d)) (hl : ((Ap.rnd1 S d).t (pk d.t 2)).live = true) => c_commit h g2.q.inv (g4 hl).1 (g4 hl).2)
      have HCd := Lib.hid (fun (W : World) (o' : Own) (h : StIn W o' y (Ap.rnd1 S d)) (hl : ((Ap.rnd1 S d).t (pk d.t 2)).live = false) => c_commit_dead h g2.q.inv (by rw [g2.q.len]; omega) hl)
      have HG := Lib.hid (And.intro g2 g3)
      have HR2 := Lib.hid (show pk d.a 5 = 4 → ((Ap.rnd1 S d).t (pk d.t 2)).live = true → Ap.rnd2 S d = ((Ap.rnd1 S d).commit (pk d.t 2)).S from fun h1 h2 => by unfold Ap.rnd2; rw [if_pos ⟨h1, h2⟩])
      have HX := Lib.hid (And.intro hr hs)
      obtain ⟨i, hi⟩ : ∃ i, i = pk d.t 2 := ⟨_, rfl⟩
      have HIi := Lib.hid hi
      rw [← hi] at P0 HBg li HDd HCm HCd HR2
      have q1 := hcell.out _ (hold.out _ _ hs) 1 (by omega)
      change _ = some (Value.int .i64 d.t) at q1
      clear hS hP hr hs b1 b2 b3 g1 g2 g3 g4 hc hd hi HOp HOp2 HOk HOk2
      go_wp2_with fail
      refine (P0.out _).mono ?_
      rintro e w' ⟨rfl, rfl⟩
      generalize (if ((S.t i).live) = true then (140 : Int) else 0) = z at HBg
      go_wp2_with fail
      refine HBg.out.mono ?_
      rintro e w3 ⟨rfl, o3, hS3, hI3, hs3⟩
      have hst3 := HX.out.2.trans (hs3.mono fun _ h => .inl (.inl h))
      have hbw3 := hold.out _ _ hst3
      have q0 := hcell.out _ hbw3 0 (by omega)
      have q1 := hcell.out _ hbw3 1 (by omega)
      have q2 := hcell.out _ hbw3 2 (by omega)
      have q3 := hcell.out _ hbw3 3 (by omega)
      have q4 := hcell.out _ hbw3 4 (by omega)
      have q5 := hcell.out _ hbw3 5 (by omega)
      have q6 := hcell.out _ hbw3 6 (by omega)
      have q7 := hcell.out _ hbw3 7 (by omega)
      have q8 := hcell.out _ hbw3 8 (by omega)
      rw [Nat.add_zero] at q0
      simp only [OpV.c] at q0 q1 q2 q3 q4 q5 q6 q7 q8
      obtain ⟨dk, dt, da, db, di, dn, s0, s1, s2⟩ := d
      simp only at q0 q1 q2 q3 q4 q5 q6 q7 q8 P1 P2
      obtain ⟨o4, ho4⟩ : ∃ o4, o4 = ext o3 w3.heap.size (9, 1) := ⟨_, rfl⟩
      have ho4' : ∀ b, b < w3.heap.size → o4 b = o3 b := fun b hb => by rw [ho4]; exact ext_lt hb
      obtain ⟨W4, hW4⟩ : ∃ W : World, W = w3.alloc (.cells #[.int .i64 dk, .int .i64 dt, .int .i64 da, .int .i64 db, .int .i64 di, .int .i64 dn, .int .i64 s0, .int .i64 s1, .int .i64 s2] 39) := ⟨_, rfl⟩
      have bW4 : Below w3.heap.size w3 W4 := by rw [hW4]; exact balloc (bsame w3) _
      have hS4 := (hS3.retag ho4').below bW4
      have hr4 := ((HX.out.1.stp hs3 (nine_st HID.out)).retag ho4').below bW4
      have jO4 : Box y o4 W4 w3.heap.size #[.int .i64 dk, .int .i64 dt, .int .i64 da, .int .i64 db, .int .i64 di, .int .i64 dn, .int .i64 s0, .int .i64 s1, .int .i64 s2] 39 := ⟨by rw [hW4]; exact Blk.new _ _ _, by rw [ho4, ext_ge (Nat.le_refl _)]; exact H91.out⟩
      have hs4 : Stp (yU y) (fun _ => (7, 0)) o4 w1 W4 := by rw [hW4, ho4]; exact ((hst3.ext (9, 1) w3.heap.size hst3.size).alloc _)
      have tO4 : o4 w3.heap.size = (9, 1) := by rw [ho4]; exact ext_ge (Nat.le_refl _)
      obtain ⟨bO, hbO⟩ : ∃ b, b = w3.heap.size := ⟨_, rfl⟩
      clear ho4 ho4' bW4 hS3 hs3 HX
      go_wp2_with fail
      rw [← hW4, ← hbO]
      rw [← hbO] at jO4 tO4
      have cO := jO4.1.cell
      have zO := jO4.1.free
      have lO := jO4.1.lt
      clear q0 q1 q2 q3 q4 q5 q6 q7 q8 hcell hW4 hbO hst3 hbw3
      refine (P1.out _).mono ?_
      rintro e w' ⟨rfl, rfl⟩
      obtain ⟨e, he⟩ : ∃ e, e = Ap.fix ⟨dk, dt, da, db, di, dn, s0, s1, s2⟩ := ⟨_, rfl⟩
      have hev : e.v = .agg #[.int .i64 (if pk dk 8 = 5 then 0 else dk), .int .i64 dt, .int .i64 da, .int .i64 db, .int .i64 di, .int .i64 dn, .int .i64 s0, .int .i64 s1, .int .i64 s2] := by
        rw [he]; unfold Ap.fix; split <;> rfl
      have er : ((S.begin i).deed14 i e).S = Ap.rnd1 S ⟨dk, dt, da, db, di, dn, s0, s1, s2⟩ := by rw [HIi.out, he]; rfl
      have HER := Lib.hid er
      clear er
      by_cases hk : pk dk 8 = 5
      · rw [hk]
        rw [if_pos hk] at hev
        go_wp2_with fail
        have hw := Wr.set bO W4 0 (.int .i64 0)
        have tO : o4 bO = (9, 1) := tO4
        have hs5 := Stp.of_wr (T := fun t => t = (9, 1)) (o := o4) hw tO
        have hS5 := hS4.stp hs5 (fun q h => by injection h with h _; rw [HID.out] at h; cases h)
        have hr5 := hr4.stp hs5 (by simp)
        have jO5 : Box y o4 _ bO #[.int .i64 0, .int .i64 dt, .int .i64 da, .int .i64 db, .int .i64 di, .int .i64 dn, .int .i64 s0, .int .i64 s1, .int .i64 s2] 39 := ⟨jO4.1.set 0 (.int .i64 0), jO4.2⟩
        have hst5 := hs4.trans (hs5.mono fun _ h => .inr h)
        generalize W4.setCell ⟨bO, 0, none⟩ (.int .i64 0) = W5 at *
        clear cO zO lO hS4 hr4 jO4 hs4 hw hs5
        rw [← he] at HDd
        obtain ⟨kk, hkk⟩ : ∃ kk, kk = (0 : Int) := ⟨_, rfl⟩
        rw [← hkk] at hev jO5 ⊢
        clear hkk he
        rw [← hev]
        have hrc : ∀ t, t < 4 → W5.cell? ⟨gr, t, none⟩ = some (.int .i64 (Yd.pl t)) := fun t ht => hr5.cells t _ (by rw [List.getElem?_map, List.getElem?_range ht]; rfl)
        have hgs := cell_in (hrc 0 (by omega))
        have HQ := Lib.hid (HDd.out W5 o4 hS5 hrc hgs)
        clear hrc hgs hS5 HDd
        refine HQ.out.mono ?_
        rintro e6 w6 ⟨⟨vv, rfl⟩, hL⟩
        obtain ⟨o6, hS6, hI6, hs6⟩ := hL
        rw [HER.out] at hS6
        clear HQ
        have hr6 := hr5.stp hs6 (nine_st HID.out)
        have jO6 := jO5.stp hs6
        have hst6 := hst5.trans (hs6.mono fun _ h => .inl (.inl h))
        have c6 := jO6.1.cell
        clear hr5 jO5 hst5 hs6 hI6
        go_wp2_with fail
        refine (P2.out _).mono ?_
        rintro e w' ⟨rfl, rfl⟩
        have G1 := HG.out.1
        have G2 := HG.out.2
        generalize Ap.rnd1 S ⟨dk, dt, da, db, di, dn, s0, s1, s2⟩ = S1 at *
        by_cases ha : pk da 5 = 4
        · rw [ha]
          cases hlv : (S1.t i).live
          · have HQ := Lib.hid (HCd.out w6 o6 hS6 hlv)
            clear hS6 HCd HCm HG HER c6
            go_wp2_with fail
            refine HQ.out.mono ?_
            rintro e w7 ⟨rfl, hL⟩
            obtain ⟨o7, hS7, hI7, hs7⟩ := hL
            go_wp2_with fail
            go_roundw
            case rel => exact ⟨t + 1, o7, _, by simp, by omega, by omega, hS7, G1, hr6.stp hs7 (nine_st HID.out), hst6.trans (hs7.mono fun _ h => .inl (.inl h))⟩
            case measure => simp [intOf]; omega
          · have HQ := Lib.hid (HCm.out w6 o6 hS6 hlv)
            have e2 : Ap.rnd2 S ⟨dk, dt, da, db, di, dn, s0, s1, s2⟩ = (S1.commit i).S := HR2.out ha hlv
            rw [e2] at G2
            clear hS6 HCd HCm HG HER c6 e2
            go_wp2_with fail
            refine HQ.out.mono ?_
            rintro e w7 ⟨rfl, hL⟩
            obtain ⟨o7, hS7, hI7, hs7⟩ := hL
            go_wp2_with fail
            go_roundw
            case rel => exact ⟨t + 1, o7, _, by simp, by omega, by omega, hS7, G2, hr6.stp hs7 (nine_st HID.out), hst6.trans (hs7.mono fun _ h => .inl (.inl h))⟩
            case measure => simp [intOf]; omega
        · have haI : ((pk da 5 : Int) == 4) = false := by rw [beq_eq_false_iff_ne]; omega
          clear HCd HCm HG HER c6
          go_wp2_with fail
          go_roundw
          case rel => exact ⟨t + 1, o6, _, by simp, by omega, by omega, hS6, G1, hr6, hst6⟩
          case measure => simp [intOf]; omega
      · have hkI : ((pk dk 8 : Int) == 5) = false := by rw [beq_eq_false_iff_ne]; omega
        rw [if_neg hk] at hev
        go_wp2_with fail
        have hst5 := hs4
        have hS5 := hS4
        have hr5 := hr4
        have jO5 := jO4
        obtain ⟨W5, hW5⟩ : ∃ W5 : World, W5 = W4 := ⟨_, rfl⟩
        rw [← hW5] at hst5 hS5 hr5 jO5 ⊢
        clear cO zO lO hS4 hr4 jO4 hs4 hW5
        rw [← he] at HDd
        obtain ⟨kk, hkk⟩ : ∃ kk, kk = dk := ⟨_, rfl⟩
        rw [← hkk] at hev jO5 ⊢
        clear hkk he
        rw [← hev]
        have hrc : ∀ t, t < 4 → W5.cell? ⟨gr, t, none⟩ = some (.int .i64 (Yd.pl t)) := fun t ht => hr5.cells t _ (by rw [List.getElem?_map, List.getElem?_range ht]; rfl)
        have hgs := cell_in (hrc 0 (by omega))
        have HQ := Lib.hid (HDd.out W5 o4 hS5 hrc hgs)
        clear hrc hgs hS5 HDd
        refine HQ.out.mono ?_
        rintro e6 w6 ⟨⟨vv, rfl⟩, hL⟩
        obtain ⟨o6, hS6, hI6, hs6⟩ := hL
        rw [HER.out] at hS6
        clear HQ
        have hr6 := hr5.stp hs6 (nine_st HID.out)
        have jO6 := jO5.stp hs6
        have hst6 := hst5.trans (hs6.mono fun _ h => .inl (.inl h))
        have c6 := jO6.1.cell
        clear hr5 jO5 hst5 hs6 hI6
        go_wp2_with fail
        refine (P2.out _).mono ?_
        rintro e w' ⟨rfl, rfl⟩
        have G1 := HG.out.1
        have G2 := HG.out.2
        generalize Ap.rnd1 S ⟨dk, dt, da, db, di, dn, s0, s1, s2⟩ = S1 at *
        by_cases ha : pk da 5 = 4
        · rw [ha]
          cases hlv : (S1.t i).live
          · have HQ := Lib.hid (HCd.out w6 o6 hS6 hlv)
            clear hS6 HCd HCm HG HER c6
            go_wp2_with fail
            refine HQ.out.mono ?_
            rintro e w7 ⟨rfl, hL⟩
            obtain ⟨o7, hS7, hI7, hs7⟩ := hL
            go_wp2_with fail
            go_roundw
            case rel => exact ⟨t + 1, o7, _, by simp, by omega, by omega, hS7, G1, hr6.stp hs7 (nine_st HID.out), hst6.trans (hs7.mono fun _ h => .inl (.inl h))⟩
            case measure => simp [intOf]; omega
          · have HQ := Lib.hid (HCm.out w6 o6 hS6 hlv)
            have e2 : Ap.rnd2 S ⟨dk, dt, da, db, di, dn, s0, s1, s2⟩ = (S1.commit i).S := HR2.out ha hlv
            rw [e2] at G2
            clear hS6 HCd HCm HG HER c6 e2
            go_wp2_with fail
            refine HQ.out.mono ?_
            rintro e w7 ⟨rfl, hL⟩
            obtain ⟨o7, hS7, hI7, hs7⟩ := hL
            go_wp2_with fail
            go_roundw
            case rel => exact ⟨t + 1, o7, _, by simp, by omega, by omega, hS7, G2, hr6.stp hs7 (nine_st HID.out), hst6.trans (hs7.mono fun _ h => .inl (.inl h))⟩
            case measure => simp [intOf]; omega
        · have haI : ((pk da 5 : Int) == 4) = false := by rw [beq_eq_false_iff_ne]; omega
          clear HCd HCm HG HER c6
          go_wp2_with fail
          go_roundw
          case rel => exact ⟨t + 1, o6, _, by simp, by omega, by omega, hS6, G1, hr6, hst6⟩
          case measure => simp [intOf]; omega
    · have hcs : ((t : Int) < (l.length : Int) ∧ ¬ (t : Int) < 20) ∨ ¬ (t : Int) < (l.length : Int) := by omega
      obtain ⟨a1, a2, a3⟩ := Ap.ab_q hP (show 0 < 2 by omega)
      obtain ⟨s1, s2, s3, s4⟩ := Ap.solo_start hP (by omega)
      have HA0 := Lib.hid (c_abort (i := 0) hS hP.q.inv (by rw [hP.q.len]; omega))
      have HA1 := Lib.hid (fun (W : World) (o' : Own) (h : StIn W o' y (Ap.ab S 0)) => show Calls Tryz.prog 25 #[ptr y.sb, .int .i64 1] W (fun e w' => ∃ z1 : Int, e = .returned (.int .i64 z1) ∧ Left y (Ap.ab (Ap.ab S 0) 1) o' W w') from (c_abort (i := 1) h a1.q.inv (by rw [a1.q.len]; omega)).mono fun _ _ h => ⟨_, h⟩)
      have HB := Lib.hid (fun (W : World) (o' : Own) (h : StIn W o' y (Ap.ab (Ap.ab S 0) 1)) => by
        have := c_begin (i := 2) h s1.q.inv (by rw [s1.q.len]; omega) s3
        rw [s2] at this
        simp only [Bool.false_eq_true, if_false] at this
        exact this)
      have HSo := Lib.hid s4
      have HX := Lib.hid (And.intro hr hs)
      generalize (if ((S.t 0).live) = true then (0 : Int) else 140) = z0 at HA0
      have h2t : 2 * t ≤ 40 := by omega
      clear hS hP hr hs a1 a2 a3 s1 s2 s3 s4 HOp HOk hstop htl ht
      rcases hcs with ⟨hA, hB⟩ | hA
      all_goals
        go_wp2_with fail
        refine HA0.out.mono ?_
        rintro e w3 ⟨rfl, hL⟩
        obtain ⟨o3, hS3, hI3, hs3⟩ := show Left y (Ap.ab S 0) oo wo w3 from hL
        go_wp2_with fail
        refine (HA1.out _ _ hS3).mono ?_
        rintro e w4 ⟨z1, rfl, hL⟩
        obtain ⟨o4, hS4, hI4, hs4⟩ := show Left y (Ap.ab (Ap.ab S 0) 1) o3 w3 w4 from hL
        go_wp2_with fail
        refine (HB.out _ _ hS4).mono ?_
        rintro e w5 ⟨rfl, hL⟩
        obtain ⟨o5, hS5, hI5, hs5⟩ := show Left y ((Ap.ab (Ap.ab S 0) 1).begin 2) o4 w4 w5 from hL
        have h35 := (hs3.trans hs4).trans hs5
        have hr5 := HX.out.1.stp h35 (nine_st HID.out)
        have hst5 := HX.out.2.trans (h35.mono fun _ h => .inl (.inl h))
        have hso5 := HSo.out
        clear hL hS3 hI3 hs3 hS4 hI4 hs4 hI5 hs5 h35 HX HSo HA0 HA1 HB
        go_wp2_with fail
        go_loopw [11, 12, 13] (fun ix _ _ wr => ∃ (j : Nat) (oo : Own) (S : Stt), ix = .int .i64 j ∧ j ≤ 10 ∧ j ≤ m.length ∧ StIn wr oo y S ∧ Ap.Solo (2 * t + 2 * j) (2 * j) S ∧ Row wr oo (9, 0) 3 1 (.slice (some ⟨gr, 0, none⟩) 4 cap) 4 ((List.range 4).map fun t => nv (Yd.pl t)) ∧ Stp (yU y) (fun _ => (7, 0)) oo w1 wr) (fun ix _ _ _ => 10 - (intOf ix).toNat)
        case atStart => exact ⟨0, o5, _, rfl, by omega, by omega, hS5, hso5, hr5, hst5⟩
        case round =>
          clear hS5 hso5 hr5 hst5
          obtain ⟨j, ox, S2, rfl, hj, hjl, hS, hP, hr, hs⟩ := hrel
          obtain ⟨wx, rfl⟩ : ∃ wx : World, wx = wr := ⟨_, rfl⟩
          have hstop : (j < 10 ∧ j < m.length) ∨ ¬ (j < 10 ∧ j < m.length) := by omega
          rcases hstop with ⟨h10, hll⟩ | hstop
          · have tI : (j : Int) < 10 := by omega
            have tL : (j : Int) < (m.length : Int) := by omega
            obtain ⟨d, hd⟩ : ∃ d, m[j]? = some d := ⟨m[j], List.getElem?_eq_getElem hll⟩
            obtain ⟨bb, off, rfl, hc⟩ : ∃ b off, a2 = some ⟨b, off, none⟩ ∧ ∀ (i : Nat) (d : OpV), m[i]? = some d → ∀ j, j < 9 → w.cell? ⟨b, off + i * 9 + j, none⟩ = some (.int .i64 (d.c j)) := by
              rcases HOp2.out with h | h
              · rw [h] at hd; simp at hd
              · exact h
            have hdo := HOk2.out d (List.mem_of_getElem? hd)
            have hcell := Lib.hid (fun (W : World) (hW : Below w.heap.size w W) (q : Nat) (hq : q < 9) => (hW.cell (p := ⟨bb, off + j * 9 + q, none⟩) (cell_in (hc j d hd q hq))).trans (hc j d hd q hq))
            obtain ⟨g1, g2, g3⟩ := Ap.solo_deed hP (by omega) (by omega) d hdo
            have hrc : ∀ t, t < 4 → wx.cell? ⟨gr, t, none⟩ = some (.int .i64 (Yd.pl t)) := fun t ht => hr.cells t _ (by rw [List.getElem?_map, List.getElem?_range ht]; rfl)
            have HDd := Lib.hid (deed14_any (cap := cap) hS hP.q.inv d hdo g1 hrc (cell_in (hrc 0 (by omega))))
            have HX := Lib.hid (And.intro hr hs)
            have HG3 := Lib.hid g3
            have hbw3 := hold.out _ _ hs
            have q0 := hcell.out _ hbw3 0 (by omega)
            have q1 := hcell.out _ hbw3 1 (by omega)
            have q2 := hcell.out _ hbw3 2 (by omega)
            have q3 := hcell.out _ hbw3 3 (by omega)
            have q4 := hcell.out _ hbw3 4 (by omega)
            have q5 := hcell.out _ hbw3 5 (by omega)
            have q6 := hcell.out _ hbw3 6 (by omega)
            have q7 := hcell.out _ hbw3 7 (by omega)
            have q8 := hcell.out _ hbw3 8 (by omega)
            rw [Nat.add_zero] at q0
            simp only [OpV.c] at q0 q1 q2 q3 q4 q5 q6 q7 q8
            have hf : ((S2.deed14 2 d).e = 0) ∨ ((S2.deed14 2 d).e = 142) := g2
            have hv : d.v = .agg #[.int .i64 d.k, .int .i64 d.t, .int .i64 d.a, .int .i64 d.b, .int .i64 d.i, .int .i64 d.n, .int .i64 d.s0, .int .i64 d.s1, .int .i64 d.s2] := rfl
            rw [hv] at HDd
            generalize S2.deed14 2 d = R at *
            clear hS hP hr hs g1 g2 g3 hc hd hrc hbw3 hv hcell HOk2 HOp2
            go_wp2_with fail
            refine HDd.out.mono ?_
            rintro e w6 ⟨⟨vv, rfl⟩, hL⟩
            obtain ⟨o6, hS6, hI6, hs6⟩ := hL
            rcases hf with hf | hf
            all_goals
              rw [hf]
              go_wp2_with fail
              go_roundw
              case rel => exact ⟨j + 1, o6, _, by simp, by omega, by omega, hS6, HG3.out.le (by omega) (by omega), HX.out.1.stp hs6 (nine_st HID.out), HX.out.2.trans (hs6.mono fun _ h => .inl (.inl h))⟩
              case measure => simp [intOf]; omega
          · obtain ⟨g1, g2, g3⟩ := Ap.solo_commit hP (by omega) (by omega)
            have HCm := Lib.hid (c_commit hS hP.q.inv g1 g2)
            rw [g3] at HCm
            have HX := Lib.hid hs
            have hcs : ((j : Int) < (m.length : Int) ∧ ¬ (j : Int) < 10) ∨ ¬ (j : Int) < (m.length : Int) := by omega
            clear hS hP hr hs g1 g2 g3 hstop HOp2 HOk2
            rcases hcs with ⟨hA, hB⟩ | hA
            all_goals
              go_wp2_with fail
              refine HCm.out.mono ?_
              rintro e w6 ⟨rfl, hL⟩
              obtain ⟨o6, hS6, hI6, hs6⟩ := hL
              have hfin := hold.out _ _ (HX.out.trans (hs6.mono fun _ h => .inl (.inl h)))
              go_wp2_with fail
              go_ret
              exact ⟨rfl, hfin⟩
end Go.Proofs.YtemohiainfllcaaGreat
