/- The law TxnFrees, walked. -/
import Derived.Test.YtemohiainfllcaaGreatKk
namespace Go.Proofs.YtemohiainfllcaaGreat
open Go.RowKit Hp
attribute [local go_sem ↓] Go.wp_at_zero Go.wp_at_succ
def Stt.peek (S : Stt) (k i p : Nat) : Res :=
  if k = 0 then S.read i p 0 else if k = 1 then S.write i p 0 1 else if k = 2 then S.get i p 0 else S.free i p
section
variable {w w' : World} {o o' : Own} {y : SLay} {S : Stt} {i : Nat}
set_option maxRecDepth 100000 in
set_option maxHeartbeats 2000000 in
theorem peek_any (h : StIn w o y S) (hI : Inv S) (hc : S.chk i = true) {p : Nat} (hp : Plc S p) (a : Int) (ha : -9223372036854775808 ≤ a ∧ a ≤ 9223372036854775807)
    {b1 b2 b3 : Nat} (j1 : Blk w b1 #[.int .i64 a] 3) (j2 : Blk w b2 #[ptr y.sb] 23) (j3 : Blk w b3 #[.int .i64 p] 3) :
    Calls Tryz.prog 22 #[.int .i64 i, ptr b1, ptr b2, ptr b3] w fun e w' => e = .returned (.int .i64 (S.peek (pk a 4) i p).e) ∧ Left y (S.peek (pk a 4) i p).S o w w' := by
  have HP := Lib.hid (fun w => pick14_any a ha 4 (by omega) (by omega) w)
  have HR := Lib.hid (fun W (hW : Below w.heap.size w W) => c_read (h.below hW) hI hc hp 0)
  have HW := Lib.hid (fun W (hW : Below w.heap.size w W) => c_write (h.below hW) hI hc hp 0 1 (by omega))
  have HG := Lib.hid (fun W (hW : Below w.heap.size w W) => c_get (h.below hW) hI hc hp 0)
  have HF := Lib.hid (fun W (hW : Below w.heap.size w W) => c_free (h.below hW) hI hc hp)
  have hlt := pk_lt a (show 1 ≤ 4 by omega)
  generalize pk a 4 = k at *
  have c1 := j1.cell 0
  have c2 := j2.cell 0
  have c3 := j3.cell 0
  skip
  clear h hI hc hp ha
  go_enter Tryz.func22, Tryz.ntmps22
  go_wp2_with fail
  refine (HP.out _).mono ?_
  rintro e w1 ⟨rfl, rfl⟩
  obtain rfl | rfl | rfl | rfl : k = 0 ∨ k = 1 ∨ k = 2 ∨ k = 3 := by omega
  · go_wp2_with fail
    refine (HR.out _ (bsame _)).mono ?_
    rintro e w2 ⟨rfl, hL⟩
    go_wp2_with fail
    go_ret
    exact ⟨rfl, hL⟩
  · go_wp2_with fail
    refine (HW.out _ (bsame _)).mono ?_
    rintro e w2 ⟨rfl, hL⟩
    go_wp2_with fail
    go_ret
    exact ⟨rfl, hL⟩
  · go_wp2_with fail
    refine (HG.out _ (bsame _)).mono ?_
    rintro e w2 ⟨rfl, hL⟩
    go_wp2_with fail
    go_ret
    exact ⟨rfl, hL⟩
  · go_wp2_with fail
    refine (HF.out _ (bsame _)).mono ?_
    rintro e w2 ⟨rfl, hL⟩
    go_wp2_with fail
    go_ret
    exact ⟨rfl, hL⟩
end
namespace Lf
def T2 : Stt := ((Yd.Y 400 3).begin 0).begin 1
def T3 (a : Nat) : Stt := (T2.free 0 (Yd.pl a)).S
def T4 (a k : Nat) : Stt := ((T3 a).peek k 0 (Yd.pl a)).S
def T5 (a k : Nat) : Stt := ((T4 a k).commit 0).S
def T6 (a k : Nat) : Stt := ((T5 a k).peek k 1 (Yd.pl a)).S
def T7 (a k : Nat) : Stt := (T6 a k).begin 2
def T8 (a k : Nat) : Stt := ((T7 a k).peek k 2 (Yd.pl a)).S
theorem f0 : 0 < (Yd.Y 400 3).txs.length ∧ (Yd.Y 400 3).now + 9 ≤ (Yd.Y 400 3).most ∧ ((Yd.Y 400 3).t 0).live = false ∧ 1 < ((Yd.Y 400 3).begin 0).txs.length ∧ ((Yd.Y 400 3).begin 0).now + 9 ≤ ((Yd.Y 400 3).begin 0).most ∧ (((Yd.Y 400 3).begin 0).t 1).live = false := by decide +kernel
theorem f1 : ∀ a < 4, T2.chk 0 = true ∧ Plc T2 (Yd.pl a) ∧ (T2.free 0 (Yd.pl a)).e = 0 ∧ (T3 a).chk 0 = true ∧ Plc (T3 a) (Yd.pl a) := by decide +kernel
theorem f2 : ∀ a < 4, ∀ k < 4, ((T3 a).peek k 0 (Yd.pl a)).e = 142 ∧ (T4 a k).chk 0 = true ∧ (T4 a k).now < (T4 a k).most ∧ ((T4 a k).commit 0).v = 2 ∧ ((T4 a k).commit 0).e = 0 := by decide +kernel
theorem f3 : ∀ a < 4, ∀ k < 4, (T5 a k).chk 1 = true ∧ Plc (T5 a k) (Yd.pl a) ∧ ((T5 a k).peek k 1 (Yd.pl a)).e = 141 ∧ 2 < (T6 a k).txs.length ∧ (T6 a k).now + 9 ≤ (T6 a k).most ∧ ((T6 a k).t 2).live = false := by decide +kernel
theorem f4 : ∀ a < 4, ∀ k < 4, (T7 a k).chk 2 = true ∧ Plc (T7 a k) (Yd.pl a) ∧ ((T7 a k).peek k 2 (Yd.pl a)).e = 142 ∧ (T8 a k).chk 2 = true ∧ (T8 a k).now < (T8 a k).most ∧ ((T8 a k).commit 2).v = 0 ∧ ((T8 a k).commit 2).e = 0 := by decide +kernel
end Lf
section
variable {w w' : World} {o o' : Own} {y : SLay}
/-- A box of the law's own, which no call of the store turns. -/
def Box (y : SLay) (o : Own) (w : World) (b : Nat) (cs : Array Value) (t : TypeId) : Prop := Blk w b cs t ∧ ¬ stTag y (o b)
theorem Box.stp {b : Nat} {cs : Array Value} {t : TypeId} (h : Box y o w b cs t) (k : Stp (stTag y) o o' w w') : Box y o' w' b cs t :=
  ⟨h.1.stp k h.2, by rw [k.tags _ h.1.lt]; exact h.2⟩
theorem Box.below {b : Nat} {cs : Array Value} {t : TypeId} (h : Box y o w b cs t) (k : Below w.heap.size w w') : Box y o w' b cs t := ⟨h.1.below k h.1.lt, h.2⟩
theorem Box.retag {b : Nat} {cs : Array Value} {t : TypeId} (h : Box y o w b cs t) (k : ∀ b, b < w.heap.size → o' b = o b) : Box y o' w b cs t := ⟨h.1, by rw [k _ h.1.lt]; exact h.2⟩
theorem Box.cell {b : Nat} {v : Value} {t : TypeId} (h : Box y o w b #[v] t) : w.cell? ⟨b, 0, none⟩ = some v := h.1.cell 0
end
theorem eg_peek (args : Array Value) (w : World) : (callFunc 22 args).run Tryz.prog w = .ok (.enter 22 args) w := enters_of Tryz.func22 (by kernel_rfl) rfl args w
set_option maxRecDepth 100000 in
set_option maxHeartbeats 4000000 in
theorem txnFrees_any (a0 a1 : Int) (h0 : -9223372036854775808 ≤ a0 ∧ a0 ≤ 9223372036854775807) (h1 : -9223372036854775808 ≤ a1 ∧ a1 ≤ 9223372036854775807) (w : World) :
    Calls Tryz.prog 5 #[.int .i64 a0, .int .i64 a1] w fun e w' => e = .returned (.bool true) ∧ Below w.heap.size w w' := by
  have P0 := Lib.hid (fun w => pick14_any a0 h0 4 (by omega) (by omega) w)
  have la := pk_lt a0 (show 1 ≤ 4 by omega)
  have lk := pk_lt a1 (show 1 ≤ 4 by omega)
  generalize pk a0 4 = a at *
  obtain ⟨k, hk⟩ : ∃ k, k = pk a1 4 := ⟨_, rfl⟩
  rw [← hk] at lk
  have HPk := Lib.hid (fun (S : Stt) (hI : Inv S) (i p : Nat) (hc : S.chk i = true) (hp : Plc S p) (y : SLay) (b1 b2 b3 : Nat) (W : World) (o : Own) (h : StIn W o y S) (j1 : Blk W b1 #[.int .i64 a1] 3) (j2 : Blk W b2 #[ptr y.sb] 23) (j3 : Blk W b3 #[.int .i64 p] 3) => by
    have := peek_any h hI hc hp a1 h1 j1 j2 j3
    rw [← hk] at this
    exact this)
  have hmf : ∀ (fn : Fn) (first cap : Array Value) (w : World), (Instr.makeFunc fn first cap).run Tryz.prog w = .ok (.func fn first cap) w := fun _ _ _ _ => rfl
  have aI : (a : Int) < 4 := by omega
  have F1 := Lib.hid (Lf.f1 a la)
  have F2 := Lib.hid (Lf.f2 a la k lk)
  have F3 := Lib.hid (Lf.f3 a la k lk)
  have F4 := Lib.hid (Lf.f4 a la k lk)
  have HYd := Lib.hid (fun w => yard_any 400 3 (by decide) w)
  have HAw := Lib.hid awake14_any
  clear h0 h1 hk
  go_enter Tryz.func5, Tryz.ntmps5
  go_wp2_with fail
  refine (HAw.out _).mono ?_
  rintro e w1 ⟨rfl, hb1⟩
  go_wp2_with fail
  refine (HYd.out _).mono ?_
  rintro e w2 ⟨y, v, o2, rfl, hid, hS2, hI2, hr2, hs2⟩
  have HID := Lib.hid hid
  have hold := Lib.hid (fun (W : World) (o' : Own) (hs : Stp (yT y) (fun _ => (7, 0)) o' w1 W) => show Below w.heap.size w W from
    (fun (k : Below w1.heap.size w1 W) => ((balloc (bsame w) _).trans (hb1.mono (by simp))).trans (k.mono (by have := hb1.size; simp at this; omega))) (hs.below fun c _ h => h.elim (fun h => by have h : (7 : Nat) = y.l.id := h; rw [HID.out] at h; cases h) (fun h => by injection h with h _; cases h)))
  have h7 : ¬ stTag y (7, 0) := by unfold stTag; rw [hid]; simp
  have h9 : ¬ stTag y (9, 0) := nine_st hid
  have h91 : ¬ stTag y (9, 1) := by unfold stTag; rw [hid]; simp
  have t7 : ∀ b, b < w1.heap.size → o2 b = (7, 0) := fun b hb => hs2.tags b hb
  have jh1 : Blk w1 w.heap.size #[.int .i64 a1] 3 := (Blk.new w _ _).below hb1 (Blk.new w _ _).lt
  have jH : Box y o2 w2 w.heap.size #[.int .i64 a1] 3 := ⟨jh1.stp hs2 (by unfold yT; rintro (h | h); exact h7 h; cases h), by rw [t7 _ jh1.lt]; exact h7⟩
  obtain ⟨bH, hbH⟩ : ∃ b, b = w.heap.size := ⟨_, rfl⟩
  rw [← hbH] at jH
  clear hid t7 jh1
  obtain ⟨gr, cap, hv, hcap⟩ := (show ∃ g cap, v = .slice (some ⟨g, 0, none⟩) 4 cap ∧ 4 ≤ cap from by
    rcases hr2.form with ⟨_, h0⟩ | ⟨g, cap, e, hn, _⟩
    · cases h0
    · exact ⟨g, cap, e, hn⟩)
  subst hv
  obtain ⟨W2, hW2⟩ : ∃ W : World, W = w2.alloc (.cells #[ptr y.sb] 23) := ⟨_, rfl⟩
  obtain ⟨o3, ho3⟩ : ∃ o3, o3 = ext o2 w2.heap.size (9, 1) := ⟨_, rfl⟩
  have ho3' : ∀ b, b < w2.heap.size → o3 b = o2 b := fun b hb => by rw [ho3]; exact ext_lt hb
  have bW2 : Below w2.heap.size w2 W2 := by rw [hW2]; exact balloc (bsame w2) _
  have hS3 := (hS2.retag ho3').below bW2
  have hr3 := (hr2.retag ho3').below bW2
  have jH3 := (jH.retag ho3').below bW2
  have jS3 : Box y o3 W2 w2.heap.size #[ptr y.sb] 23 := ⟨by rw [hW2]; exact Blk.new _ _ _, by rw [ho3, ext_ge (Nat.le_refl _)]; exact h91⟩
  have hs3 : Stp (yT y) (fun _ => (7, 0)) o3 w1 W2 := by rw [hW2, ho3]; exact ((hs2.ext (9, 1) w2.heap.size hs2.size).alloc _)
  obtain ⟨bS, hbS⟩ : ∃ b, b = w2.heap.size := ⟨_, rfl⟩
  go_wp2_with fail
  rw [← hW2, ← hbS]
  rw [← hbH]
  rw [← hbS] at jS3
  clear hS2 hr2 jH hs2 ho3 ho3' hW2 bW2 hbS hbH hb1
  refine (c_begin (i := 0) hS3 hI2 Lf.f0.1 Lf.f0.2.1).mono ?_
  rintro e w3 ⟨he, hL⟩
  rw [Lf.f0.2.2.1] at he
  simp only [Bool.false_eq_true, if_false] at he
  subst he
  obtain ⟨o4, hS4, hI4, hs4⟩ := hL
  have cS := (jS3.stp hs4).cell
  go_wp2_with fail
  refine (c_begin (i := 1) hS4 hI4 Lf.f0.2.2.2.1 Lf.f0.2.2.2.2.1).mono ?_
  rintro e w4 ⟨he, hL⟩
  rw [Lf.f0.2.2.2.2.2] at he
  simp only [Bool.false_eq_true, if_false] at he
  subst he
  obtain ⟨o5, hS5, hI5, hs5⟩ := show Left y Lf.T2 o4 w3 w4 from hL
  have hs45 := hs4.trans hs5
  have hr5 := hr3.stp hs45 h9
  have jH5 := jH3.stp hs45
  have jS5 := jS3.stp hs45
  have hst5 := hs3.trans (hs45.mono fun _ h => .inl h)
  clear hL hS3 hI2 hS4 hI4 hs4 hs5 hs45 hr3 jH3 jS3 hs3 cS
  have cr : w4.cell? ⟨gr, a, none⟩ = some (.int .i64 (Yd.pl a)) := hr5.cells a _ (by rw [List.getElem?_map, List.getElem?_range la]; rfl)
  have cS := jS5.cell
  go_wp2_with fail
  refine (P0.out _).mono ?_
  rintro e w' ⟨rfl, rfl⟩
  obtain ⟨o6, ho6⟩ : ∃ o6, o6 = ext o5 w4.heap.size (9, 1) := ⟨_, rfl⟩
  have ho6' : ∀ b, b < w4.heap.size → o6 b = o5 b := fun b hb => by rw [ho6]; exact ext_lt hb
  obtain ⟨W4, hW4⟩ : ∃ W : World, W = w4.alloc (.cells #[.int .i64 (Yd.pl a)] 3) := ⟨_, rfl⟩
  have bW4 : Below w4.heap.size w4 W4 := by rw [hW4]; exact balloc (bsame w4) _
  have hS6 := (hS5.retag ho6').below bW4
  have jH6 := (jH5.retag ho6').below bW4
  have jS6 := (jS5.retag ho6').below bW4
  have jA6 : Box y o6 W4 w4.heap.size #[.int .i64 (Yd.pl a)] 3 := ⟨by rw [hW4]; exact Blk.new _ _ _, by rw [ho6, ext_ge (Nat.le_refl _)]; exact h91⟩
  have hs6 : Stp (yT y) (fun _ => (7, 0)) o6 w1 W4 := by rw [hW4, ho6]; exact ((hst5.ext (9, 1) w4.heap.size hst5.size).alloc _)
  obtain ⟨bA, hbA⟩ : ∃ b, b = w4.heap.size := ⟨_, rfl⟩
  rw [← hbA] at jA6
  have cS6 := jS6.cell
  have cA6 := jA6.cell
  rw [hW4] at cS6 cA6
  rw [hbA] at cA6
  clear hS5 hr5 jH5 jS5 hst5 ho6 ho6' bW4
  go_wp2_with fail
  rw [← hW4, ← hbA]
  clear hW4 hbA cS6 cA6 cr cS
  have HF := Lib.hid (c_free (i := 0) hS6 hI5 F1.out.1 F1.out.2.1)
  rw [F1.out.2.2.1] at HF
  refine HF.out.mono ?_
  rintro e w5 ⟨rfl, hL⟩
  obtain ⟨o7, hS7, hI7, hs7⟩ := show Left y (Lf.T3 a) o6 W4 w5 from hL
  have jH7 := jH6.stp hs7
  have jS7 := jS6.stp hs7
  have jA7 := jA6.stp hs7
  have hst7 := hs6.trans (hs7.mono fun _ h => .inl h)
  have cS := jS7.cell
  clear hL hS6 hI5 hs7 jH6 jS6 jA6 hs6 HF
  go_wp2_with fail
  have HQ := Lib.hid (HPk.out _ hI7 0 (Yd.pl a) F1.out.2.2.2.1 F1.out.2.2.2.2 y bH bS bA _ _ hS7 jH7.1 jS7.1 jA7.1)
  rw [F2.out.1] at HQ
  refine HQ.out.mono ?_
  rintro e wx8 ⟨rfl, hL⟩
  obtain ⟨o8, hS8, hI8, hs8⟩ := show Left y (Lf.T4 a k) o7 _ wx8 from hL
  have jH8 := jH7.stp hs8
  have jS8 := jS7.stp hs8
  have jA8 := jA7.stp hs8
  have hst8 := hst7.trans (hs8.mono fun _ h => .inl h)
  have cS := jS8.cell
  clear hL hS7 hI7 hs8 jH7 jS7 jA7 hst7 HQ
  go_wp2_with fail
  have HQ := Lib.hid (by have := c_commit (i := 0) hS8 hI8 F2.out.2.1 F2.out.2.2.1; rw [F2.out.2.2.2.1, F2.out.2.2.2.2] at this; exact this)
  refine HQ.out.mono ?_
  rintro e wx9 ⟨rfl, hL⟩
  obtain ⟨o9, hS9, hI9, hs9⟩ := show Left y (Lf.T5 a k) o8 _ wx9 from hL
  have jH9 := jH8.stp hs9
  have jS9 := jS8.stp hs9
  have jA9 := jA8.stp hs9
  have hst9 := hst8.trans (hs9.mono fun _ h => .inl h)
  have cS := jS9.cell
  clear hL hS8 hI8 hs9 jH8 jS8 jA8 hst8 HQ
  go_wp2_with fail
  have HQ := Lib.hid (HPk.out _ hI9 1 (Yd.pl a) F3.out.1 F3.out.2.1 y bH bS bA _ _ hS9 jH9.1 jS9.1 jA9.1)
  rw [F3.out.2.2.1] at HQ
  refine HQ.out.mono ?_
  rintro e wx10 ⟨rfl, hL⟩
  obtain ⟨o10, hS10, hI10, hs10⟩ := show Left y (Lf.T6 a k) o9 _ wx10 from hL
  have jH10 := jH9.stp hs10
  have jS10 := jS9.stp hs10
  have jA10 := jA9.stp hs10
  have hst10 := hst9.trans (hs10.mono fun _ h => .inl h)
  have cS := jS10.cell
  clear hL hS9 hI9 hs10 jH9 jS9 jA9 hst9 HQ
  go_wp2_with fail
  have HQ := Lib.hid (by have := c_begin (i := 2) hS10 hI10 F3.out.2.2.2.1 F3.out.2.2.2.2.1; rw [F3.out.2.2.2.2.2] at this; simp only [Bool.false_eq_true, if_false] at this; exact this)
  refine HQ.out.mono ?_
  rintro e wx11 ⟨rfl, hL⟩
  obtain ⟨o11, hS11, hI11, hs11⟩ := show Left y (Lf.T7 a k) o10 _ wx11 from hL
  have jH11 := jH10.stp hs11
  have jS11 := jS10.stp hs11
  have jA11 := jA10.stp hs11
  have hst11 := hst10.trans (hs11.mono fun _ h => .inl h)
  have cS := jS11.cell
  clear hL hS10 hI10 hs11 jH10 jS10 jA10 hst10 HQ
  go_wp2_with fail
  have HQ := Lib.hid (HPk.out _ hI11 2 (Yd.pl a) F4.out.1 F4.out.2.1 y bH bS bA _ _ hS11 jH11.1 jS11.1 jA11.1)
  rw [F4.out.2.2.1] at HQ
  refine HQ.out.mono ?_
  rintro e wx12 ⟨rfl, hL⟩
  obtain ⟨o12, hS12, hI12, hs12⟩ := show Left y (Lf.T8 a k) o11 _ wx12 from hL
  have jH12 := jH11.stp hs12
  have jS12 := jS11.stp hs12
  have jA12 := jA11.stp hs12
  have hst12 := hst11.trans (hs12.mono fun _ h => .inl h)
  have cS := jS12.cell
  clear hL hS11 hI11 hs12 jH11 jS11 jA11 hst11 HQ
  go_wp2_with fail
  have HQ := Lib.hid (by have := c_commit (i := 2) hS12 hI12 F4.out.2.2.2.1 F4.out.2.2.2.2.1; rw [F4.out.2.2.2.2.2.1, F4.out.2.2.2.2.2.2] at this; exact this)
  refine HQ.out.mono ?_
  rintro e wz ⟨rfl, oz, hSz, hIz, hsz⟩
  go_wp2_with fail
  go_ret
  exact ⟨rfl, hold.out _ _ (hst12.trans (hsz.mono fun _ h => .inl h))⟩
end Go.Proofs.YtemohiainfllcaaGreat
