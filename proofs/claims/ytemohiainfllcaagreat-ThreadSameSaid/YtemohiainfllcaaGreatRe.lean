/- Walks: an object is laid. -/
import Derived.Test.YtemohiainfllcaaGreatRd
import Derived.StillTailTactics
namespace Go.Proofs.YtemohiainfllcaaGreat
open Go.RowKit Hp
attribute [local go_sem ↓] Go.wp_at_zero Go.wp_at_succ
theorem len_ok {n : Nat} (h : n ≤ 4096) : n + 1 ≤ maxLen ∧ (n + 1) * 8 ≤ 140737488355328 := by
  simp only [maxLen]; omega
section
variable {w : World} {o : Own} {l : HLay} {H : Hp} {vc vo vw vf : Value} {f : Nat → Nat}
set_option maxRecDepth 100000 in
set_option maxHeartbeats 4000000 in
theorem alloc_f (h0 : HpIn w o l H vc vo vw vf f) (hF : HpF H) (s : Shp) (hs : s.ok)
    (hr : H.top + rnd (3 + s.p + s.d) ≤ 1 + H.size) (hser : H.serial < 1099511627776) :
    Calls Tryz.prog 147 #[.pointer (some ⟨l.h, 0, none⟩), shpV s] w fun e w' => e = .returned (.tuple #[.int .i64 H.top, .int .i64 0]) ∧
      ∃ vc' vw' vf' f' o', HpIn w' o' l (H.lay s) vc' vo vw' vf' f' ∧ Stp (fun t => t.1 = l.id ∧ t.2 ≤ 6) o o' w w' := by
  obtain ⟨o1, ho1⟩ : ∃ o1, o1 = ext o w.heap.size (l.id + 1, 0) := ⟨_, rfl⟩
  have h := h0.retag (o' := o1) fun b hb => by rw [ho1]; exact ext_lt hb
  have hS0 : Stp (fun t => t.1 = l.id ∧ t.2 ≤ 6) o o1 w w := by rw [ho1]; exact (Stp.refl _ o w).ext _ _ (Nat.le_refl _)
  have hbx : o1 w.heap.size = (l.id + 1, 0) := by rw [ho1]; exact ext_ge (Nat.le_refl _)
  clear ho1 h0
  have hk := hF.ok
  have hu := hF.use
  have hm := hF.mov
  have hcl := hF.len
  have hHF := Lib.hid hF
  have hHr := Lib.hid hr
  have hHs := Lib.hid hser
  clear hF
  have hb := h.cells_f hu
  have ht := Hp.top_f hk hu
  have hrd := rnd_ge (3 + s.p + s.d) (by obtain ⟨h1, h2, _⟩ := hs; omega)
  have hsz := hk.sz
  have HR := Lib.hid (fun w' (hw : Below w.heap.size w w') => room_f (h.below hw) hk hu hm)
  have HS := Lib.hid (fun w => hsize_any s hs w)
  have HN := Lib.hid (fun w => round_any (3 + s.p + s.d) (by omega) (by obtain ⟨h1, h2, _⟩ := hs; omega) _ rfl w)
  have HT := Lib.hid (fun w => take_any (b := 1) (s := H.size) (t := H.top) ⟨by omega, by omega, by omega, by omega⟩ (3 + s.p + s.d) (by omega) (by obtain ⟨h1, h2, _⟩ := hs; omega) (by omega) _ rfl w)
  have hng : ¬ ((rnd (3 + s.p + s.d) : Nat) : Int) > ((1 + H.size - H.top : Nat) : Int) := by omega
  have hse : (H.serial : Int) < 1099511627776 := by omega
  have hHI := Lib.hid h
  have hHK := Lib.hid hk
  generalize hzz : rnd (3 + s.p + s.d) = rn at *
  clear h hk hr hser
  have hse0 : (0 : Int) ≤ (H.serial : Int) := by omega
  have hss : ((H.serial + 1 : Nat) : Int) = (H.serial : Int) + 1 := by omega
  generalize hE1 : (H.serial : Int) = srl at hb hse hse0 hss
  generalize hE2 : H.size = sz at hb hsz HT HR hng ht
  generalize hE3 : H.top = tp at hb HT HR hng ht ⊢
  generalize hE4 : H.otop = otp at hb
  generalize hE5 : H.owed = owd at hb ht
  generalize hE6 : H.scan = scn at hb
  generalize hE7 : H.moving = mvg at hb
  go_enter Tryz.func147, Tryz.ntmps147
  have jS := Blk.new w #[.int .i64 s.p, .int .i64 s.d, .bool s.weak, .bool s.final] 80
  have cS := jS.cell
  go_wp2_with fail
  refine (HS.out _).mono ?_
  rintro e w1 ⟨rfl, hb1⟩
  have hw1 := btrans (balloc (bsame w) _) hb1
  have jS1 := jS.below hb1 jS.lt
  clear hb1 cS
  go_wp2_with fail
  refine (HN.out _).mono ?_
  rintro e w2 ⟨rfl, hb2⟩
  have hw2 := btrans hw1 hb2
  have jS2 := jS1.below hb2 jS1.lt
  go_wp2_with fail
  refine (HR.out _ hw2).mono ?_
  rintro e w3 ⟨rfl, hb3⟩
  have hw3 := btrans hw2 hb3
  have jS3 := jS2.below hb3 jS2.lt
  have jH3 := hb.below hw3 hb.lt
  have cH := jH3.cell
  go_upto_region 7 with fail
  have sH := jH3.lt
  clear jS2 jS1 hb3 hb2 HR HS HN
  go_cut [7, 10, 11] (fun t7 t10 t11 wx => ∃ B, t10 = .pointer (some ⟨B, 0, none⟩) ∧ t11 = .int .i64 tp ∧ t7 = .bool true ∧ Blk wx B #[.int .i64 1, .int .i64 sz, .int .i64 ((tp + rn : Nat) : Int)] 150 ∧ Below w3.heap.size w3 wx ∧ w3.heap.size ≤ B)
  case first =>
    go_region_with (first | (go_at_call 197; refine (HT.out _).mono ?_; rintro e w4 ⟨rfl, hb4⟩; try (have jB4 : Blk w4 w3.heap.size #[.int .i64 0, .int .i64 0, .int .i64 0] 150 := Blk.below (drewB (Blk.new w3 _ _)) hb4 (by simp); have cB4 := jB4.cell; have zB4 := jB4.free; have sB4 := jB4.lt)) | fail)
    all_goals
      go_wp2_with fail
      go_meet
      first
        | exact ⟨_, rfl, rfl, rfl, Blk.new_at _ _ _ _ _ rfl (by simp), balloc (btrans (bdrew (bsame w3)) hb4) _, hb4.size⟩
        | exact ⟨w3.heap.size, rfl, rfl, rfl, by simpa using ((jB4.set 0 _).set 1 _).set 2 _, bset (bset (bset (btrans (bdrew (balloc (bsame w3) _)) hb4) (Nat.le_refl _) _) (Nat.le_refl _) _) (Nat.le_refl _) _, Nat.le_refl _⟩
  case rest =>
    clear cH sH HT
    obtain ⟨B, rfl, rfl, rfl, jB, hbw, hBge⟩ := hcut
    have hw3s := hw3.size
    obtain ⟨tr, htr⟩ : ∃ tr : Nat, tr = tp + rn := ⟨_, rfl⟩
    rw [← htr] at jB
    replace htr := Lib.hid htr
    have jHc := jH3.below hbw jH3.lt
    have jSc := jS3.below hbw jS3.lt
    have hwc := btrans hw3 hbw
    have HM := Lib.hid (omake_any (hHI.out.wds.below (bdrew hwc)) s hs (at' := tp) (by have := rnd_ge (3 + s.p + s.d) (by obtain ⟨h1, h2, _⟩ := hs; omega); rw [hE2]; omega) (H.serial + 1) (by omega) _ _ rfl hss.symm)
    clear jH3 jS3 hbw hw3
    have cH := jHc.cell
    have cS := jSc.cell
    have sB := jB.lt
    go_upto_region 10 with fail
    go_still_tail 11, (by kernel_rfl)
    change wpList _ _ _ _ _ wc.drew
    go_wp2_with fail
    refine HM.out.mono ?_
    rintro e w5 ⟨rfl, hT⟩
    have nwd : l.h ≠ l.wd := fun e => by have h1 := hHI.out.oh; rw [e, hHI.out.ow] at h1; cases h1
    have lwd := hHI.out.wds.lt
    have jH5 := (drewB jHc).wr hT.2 nwd
    have jS5 := (drewB jSc).wr hT.2 (by omega)
    have jB5 := (drewB jB).wr hT.2 (by omega)
    have S5 : Stp (fun t => t = (l.id, 2)) o1 o1 w w5 := (Stp.of_below (bdrew hwc)).trans (Stp.of_wr hT.2 hHI.out.ow)
    clear jHc jSc jB HM cH cS sB
    have cH := jH5.cell
    have zH := jH5.free
    have cS := jS5.cell
    have sB := jB5.lt
    have sS := jS5.lt
    have cB := jB5.cell
    have neB : B ≠ l.h := by have := hHI.out.hb.lt; omega
    have neS : w.heap.size ≠ l.h := by have := hHI.out.hb.lt; omega
    go_wp2_with fail
    obtain ⟨w6, hw6⟩ : ∃ w6 : World, w6 = w5.setCell ⟨l.h, 13, none⟩ (.int .i64 (srl + 1)) := ⟨_, rfl⟩
    rw [← hw6]
    have S6 : Stp (fun t => t = (l.id, 2) ∨ t = (l.id, 0)) o1 o1 w w6 := by
      rw [hw6]
      exact Stp.setCell (T := fun t => t = (l.id, 2) ∨ t = (l.id, 0)) (S5.mono fun _ e => Or.inl e) (Or.inr hHI.out.oh) _
    have jH6 : Blk w6 l.h #[.pointer (some ⟨l.a, 0, none⟩), .int .i64 1, .int .i64 sz, .int .i64 tp, .int .i64 (1 + (sz : Int)), .int .i64 sz, .int .i64 otp, vc, vo, .int .i64 0, .bool mvg, .int .i64 owd, .int .i64 scn, .int .i64 (srl + 1), vw, vf] 154 := by rw [hw6]; exact jH5.set 13 _
    have jS6 : Blk w6 w.heap.size #[.int .i64 s.p, .int .i64 s.d, .bool s.weak, .bool s.final] 80 := by rw [hw6]; exact jS5.set_other neS _
    have R6 : Row w6 o1 (l.id, 3) 3 1 vc H.cur.length (H.cur.map fun x => nv x.1) := by
      have := hHI.out.rc
      rw [hu] at this
      exact this.stp S6 (by simp)
    refine (taken_f jH6 R6 (Nat.lt_of_le_of_lt hcl (by decide)) hHI.out.oh (by simp) tp tr).mono ?_
    rintro e w7 ⟨rfl, vc', o2, jH7, R7, S7⟩
    have jS7 := jS6.stp S7 (by rw [hbx]; simp)
    have S07 := (S6.mono (U := fun t => t.1 = l.id ∧ t.2 ≤ 6) (by rintro _ (rfl | rfl) <;> simp)).trans (S7.mono (by rintro _ (rfl | rfl) <;> simp))
    have W7 : Wds w7 l.a l.wd (2 * H.size + 1) (laidF f tp s (H.serial + 1)) := by
      have h6 : Wds w6 l.a l.wd (2 * H.size + 1) (laidF f tp s (H.serial + 1)) := by rw [hw6]; exact (hE2 ▸ hT.1 : Wds w5 l.a l.wd (2 * H.size + 1) (laidF f tp s (H.serial + 1))).stp (Stp.setCell (T := fun t => t = (l.id, 0)) (Stp.refl _ o1 w5) hHI.out.oh _) (by rw [hHI.out.oa]; simp) (by rw [hHI.out.ow]; simp)
      exact h6.stp S7 (by rw [hHI.out.oa]; simp) (by rw [hHI.out.ow]; simp)
    have RO7 : Row w7 o2 (l.id, 4) 3 1 vo H.old.length (H.old.map fun x => nv x.1) := by
      have := hHI.out.ro
      rw [hu] at this
      exact (this.stp S6 (by simp)).stp S7 (by simp)
    have RW7 := (hHI.out.rw.stp S6 (by simp)).stp S7 (by simp)
    have RF7 := (hHI.out.rf.stp S6 (by simp)).stp S7 (by simp)
    have hbx6 : w.heap.size < w6.heap.size := jS6.lt
    have S7t := S7.tags
    clear hw6 jH6 jS6 R6 S6 S5 jH5 jS5 jB5 cH zH cS sB sS cB S7 hT neB nwd
    have cH := jH7.cell
    have zH := jH7.free
    have sH := jH7.lt
    have cS := jS7.cell
    have sS := jS7.lt
    have hbx7 : o2 w.heap.size = (l.id + 1, 0) := by rw [S7t _ hbx6]; exact hbx
    have T7 : ∀ b, b < w.heap.size → o2 b = o1 b := fun b hb => S07.tags b hb
    obtain ⟨iI, hi, hsI, hyI, hzI⟩ := info_int
    have hu64 := Tryz.underlying24
    have hwl : H.weak.length + 1 ≤ maxLen ∧ (H.weak.length + 1) * 8 ≤ 140737488355328 := len_ok (Nat.le_trans hHF.out.wl hcl)
    have hfl : H.final.length + 1 ≤ maxLen ∧ (H.final.length + 1) * 8 ≤ 140737488355328 := len_ok (Nat.le_trans hHF.out.fl hcl)
    have HWk := Lib.hid hs.2.2
    have HFin := Lib.hid (fun (w9 : World) (o9 : Own) (vw' vf' : Value) (hb : Blk w9 l.h ((H.lay s).cells l.a vc' vo vw' vf') 154) (rw' : Row w9 o9 (l.id, 5) 3 1 vw' (H.lay s).weak.length ((H.lay s).weak.map nv)) (rf : Row w9 o9 (l.id, 6) 3 1 vf' (H.lay s).final.length ((H.lay s).final.map nv))
        (S : Stp (fun t => t = (l.id, 0) ∨ t = (l.id, 5) ∨ t = (l.id, 6)) o2 o9 w7 w9) =>
      show ∃ vc' vw' vf' f' o', HpIn w9 o' l (H.lay s) vc' vo vw' vf' f' ∧ Stp (fun t => t.1 = l.id ∧ t.2 ≤ 6) o o' w w9 from
        ⟨vc', vw', vf', _, o9, hHI.out.lay_of hHF.out s hb (by
            have := W7.stp S (by rw [T7 _ hHI.out.wds.arena.lt, hHI.out.oa]; simp) (by rw [T7 _ hHI.out.wds.lt, hHI.out.ow]; simp)
            rw [hE3]; exact this) (by have := R7.stp S (by simp); rw [hE3]; exact this) (RO7.stp S (by simp)) rw' rf
            (fun b hb => (S.tags b (Nat.lt_of_lt_of_le hb S07.size)).trans (T7 b hb)), (hS0.trans S07).trans (S.mono (by rintro _ (rfl | rfl | rfl) <;> simp))⟩)
    have HCells := Lib.hid (show ∀ vw' vf', (H.lay s).cells l.a vc' vo vw' vf' = #[.pointer (some ⟨l.a, 0, none⟩), .int .i64 1, .int .i64 sz, .int .i64 tr, .int .i64 (1 + (sz : Int)), .int .i64 sz, .int .i64 otp, vc', vo, .int .i64 0, .bool mvg, .int .i64 owd, .int .i64 scn, .int .i64 (srl + 1), vw', vf'] from fun vw' vf' => by
      unfold Hp.cells Hp.lay
      simp only [hu]
      rw [if_neg (by simp), hE2, hE3, hE4, hE5, hE6, hE7, htr.out, hss, hzz])
    clear W7 R7 RO7 hs
    have oh7 : o2 l.h = (l.id, 0) := (T7 _ hHI.out.hb.lt).trans hHI.out.oh
    have wF : s.weak = false → (H.lay s).weak = H.weak := fun e => by unfold Hp.lay; simp [e]
    have wT : s.weak = true → (H.lay s).weak = H.weak ++ [H.top] := fun e => by unfold Hp.lay; simp [e]
    have fF : s.final = false → (H.lay s).final = H.final := fun e => by unfold Hp.lay; simp [e]
    have fT : s.final = true → (H.lay s).final = H.final ++ [H.top] := fun e => by unfold Hp.lay; simp [e]
    rw [hE3] at wT fT
    replace hwl := Lib.hid hwl
    replace hfl := Lib.hid hfl
    replace RW7 := Lib.hid RW7
    replace RF7 := Lib.hid RF7
    replace hbx7 := Lib.hid hbx7
    replace oh7 := Lib.hid oh7
    cases hwk : s.weak
    · rw [hwk] at jS7
      cases hfn : s.final
      · rw [hfn] at jS7
        have cS := jS7.cell
        go_wp2_with fail
        go_ret2
        exact ⟨rfl, HFin.out w7 o2 vw vf (by rw [HCells.out]; exact jH7) (by rw [wF hwk]; exact RW7.out) (by rw [fF hfn]; exact RF7.out) (Stp.refl _ _ _)⟩
      · rw [hfn] at jS7
        have cS := jS7.cell
        go_wp2_with (first | (at_builtin; refine wpList_append_row _ rfl _ _ _ rfl 3 iI _ 1 8 hu64 hi hzI hsI hyI rfl (by decide) o2 (l.id, 6) _ _ _ rfl (Row.below RF7.out (balloc (bsame w7) _)) ⟨w7.heap.size, 0, none⟩ 1 1 [.int .i64 tp] rfl rfl (news_one (Blk.new w7 _ _)) one_i64 hfl.out.1 hfl.out.2 ?_; intro v' w8 hown hst; obtain ⟨pa, cp, rfl⟩ := hown.slc; have jH8 := (jH7.alloc (.cells #[.int .i64 tp] 3)).stp hst (by rw [oh7.out]; simp); have jS8 := (jS7.alloc (.cells #[.int .i64 tp] 3)).stp hst (by rw [hbx7.out]; simp); have cH8 := jH8.cell; have zH8 := jH8.free; have sH8 := jH8.lt; have cS8 := jS8.cell; have sS8 := jS8.lt) | fail)
        go_ret2
        have k8 := Stp.setCell (T := fun t => t = (l.id, 0)) (Stp.refl _ (ext o2 (w7.alloc (.cells #[.int .i64 tp] 3)).heap.size (l.id, 6)) w8) (a := ⟨l.h, 15, none⟩) (by show ext o2 _ _ l.h = _; rw [ext_lt (jH7.alloc (.cells #[.int .i64 tp] 3)).lt]; exact oh7.out) (.slice pa (H.final.length + 1) cp)
        have s8 : Stp (fun t => t = (l.id, 0) ∨ t = (l.id, 5) ∨ t = (l.id, 6)) o2 _ w7 _ := ((Stp.of_below (T := fun t => t = (l.id, 6)) (balloc (bsame w7) (.cells #[.int .i64 tp] 3))).trans hst |>.mono (by rintro _ rfl; simp)).trans (k8.mono (by rintro _ rfl; simp))
        refine ⟨rfl, HFin.out _ _ _ _ (by rw [HCells.out]; exact jH8.set 15 _) ?_ ?_ s8⟩
        · rw [wF hwk]; exact ((Row.below RW7.out (balloc (bsame w7) _)).stp hst (by simp)).stp k8 (by simp)
        · rw [fT hfn]; simpa [nv] using hown.stp k8 (by simp)
    · rw [hwk, (HWk.out hwk).2.2] at jS7
      have cS := jS7.cell
      go_wp2_with (first | (at_builtin; refine wpList_append_row _ rfl _ _ _ rfl 3 iI _ 1 8 hu64 hi hzI hsI hyI rfl (by decide) o2 (l.id, 5) _ _ _ rfl (Row.below RW7.out (balloc (bsame w7) _)) ⟨w7.heap.size, 0, none⟩ 1 1 [.int .i64 tp] rfl rfl (news_one (Blk.new w7 _ _)) one_i64 hwl.out.1 hwl.out.2 ?_; intro v' w8 hown hst; obtain ⟨pa, cp, rfl⟩ := hown.slc; have jH8 := (jH7.alloc (.cells #[.int .i64 tp] 3)).stp hst (by rw [oh7.out]; simp); have jS8 := (jS7.alloc (.cells #[.int .i64 tp] 3)).stp hst (by rw [hbx7.out]; simp); have cH8 := jH8.cell; have zH8 := jH8.free; have sH8 := jH8.lt; have cS8 := jS8.cell; have sS8 := jS8.lt) | fail)
      go_ret2
      have k8 := Stp.setCell (T := fun t => t = (l.id, 0)) (Stp.refl _ (ext o2 (w7.alloc (.cells #[.int .i64 tp] 3)).heap.size (l.id, 5)) w8) (a := ⟨l.h, 14, none⟩) (by show ext o2 _ _ l.h = _; rw [ext_lt (jH7.alloc (.cells #[.int .i64 tp] 3)).lt]; exact oh7.out) (.slice pa (H.weak.length + 1) cp)
      have s8 : Stp (fun t => t = (l.id, 0) ∨ t = (l.id, 5) ∨ t = (l.id, 6)) o2 _ w7 _ := ((Stp.of_below (T := fun t => t = (l.id, 5)) (balloc (bsame w7) (.cells #[.int .i64 tp] 3))).trans hst |>.mono (by rintro _ rfl; simp)).trans (k8.mono (by rintro _ rfl; simp))
      refine ⟨rfl, HFin.out _ _ _ _ (by rw [HCells.out]; exact jH8.set 14 _) ?_ ?_ s8⟩
      · rw [wT hwk]; simpa [nv] using hown.stp k8 (by simp)
      · rw [fF (HWk.out hwk).2.2]; exact ((Row.below RF7.out (balloc (bsame w7) _)).stp hst (by simp)).stp k8 (by simp)
end
end Go.Proofs.YtemohiainfllcaaGreat

/- Walks: a new heap. -/
namespace Go.Proofs.YtemohiainfllcaaGreat
open Go.RowKit Hp
def Hp.fresh (n : Nat) : Hp := ⟨n, false, [], 1, false, [], 1 + n, 0, 0, 0, [], []⟩
theorem HpF.fresh {n : Nat} (h1 : 16 ≤ n) (h2 : n ≤ 16384) : HpF (Hp.fresh n) := by
  refine ⟨⟨⟨h1, h2⟩, rfl, fun x hx => (by cases hx), rfl, fun x hx => (by cases hx), ?_, fun _ => rfl, rfl, ?_, ?_, ?_, fun x hx => (by cases hx)⟩, rfl, rfl, Nat.le_refl _, Nat.le_refl _⟩
  · show 1 + n ≤ Hp.base _ _ + n
    unfold Hp.base Hp.fresh; simp
  · show 1 + 0 ≤ Hp.base _ _ + n
    unfold Hp.base Hp.fresh; simp
  · show 0 ≤ _
    exact Nat.zero_le _
  · show 0 ≤ _
    exact Nat.zero_le _
set_option maxRecDepth 100000 in
theorem hnew_any (n : Nat) (h1 : 16 ≤ n) (h2 : n ≤ 16384) (o : Own) (id : Nat) (w : World) :
    Calls Tryz.prog 69 #[.int .i64 n] w fun e w' => ∃ h a wd o', e = .returned (.tuple #[.pointer (some ⟨h, 0, none⟩), .int .i64 0]) ∧
      HpIn w' o' ⟨id, h, a, wd⟩ (Hp.fresh n) (.slice none 0 0) (.slice none 0 0) (.slice none 0 0) (.slice none 0 0) (fun _ => 0) ∧ Stp (fun _ => False) o o' w w' ∧ w.heap.size ≤ h ∧ (∀ b, w.heap.size ≤ b → (o' b).1 = id) := by
  have HA := Lib.hid (fun w => ar_new (2 * n + 1) (by omega) (by omega) _ rfl w)
  have HM1 := Lib.hid (fun w => smake_any 1 n (by omega) (by omega) 1 n rfl rfl w)
  have HM2 := Lib.hid (fun w => smake_any (1 + n) n (by omega) (by omega) (1 + n) n (by omega) rfl w)
  have e1 : ((2 * n + 1 : Nat) : Int) = 2 * (n : Int) + 1 := by omega
  rw [e1] at HA
  clear e1
  go_enter Tryz.func69, Tryz.ntmps69
  go_wp2_with fail
  refine (HA.out _).mono ?_
  rintro e w1 ⟨a, wd, rfl, hW, ha, hwd, hb1⟩
  go_wp2_with fail
  refine (HM1.out _).mono ?_
  rintro e w2 ⟨rfl, hb2⟩
  have hb02 := btrans hb1 hb2
  have hW2 := hW.below hb2
  clear hb2 hb1 hW
  go_wp2_with fail
  refine (HM2.out _).mono ?_
  rintro e w3 ⟨rfl, hb3⟩
  have jA := (Blk.new w2 #[.int .i64 1, .int .i64 n, .int .i64 1] 150).below hb3 (by simp)
  have hW3 := hW2.below (btrans (balloc (bsame w2) _) hb3)
  have hb03 := btrans hb02 (btrans (balloc (bsame w2) (.cells #[.int .i64 1, .int .i64 n, .int .i64 1] 150)) hb3)
  clear hW2 hb02 hb3
  have cA := jA.cell
  have sA := jA.lt
  go_wp2_with fail
  go_ret2
  have hle : w.heap.size ≤ w3.heap.size := hb03.size
  have la := hW3.arena.lt
  have lwd := hW3.lt
  have nawd := hW3.ne
  refine ⟨w3.heap.size + 1, a, wd, fun b => if b < w.heap.size then o b else if b = w3.heap.size + 1 then (id, 0) else if b = a then (id, 1) else if b = wd then (id, 2) else (id, 9), rfl, ?_, ?_, by omega, ?_⟩
  · refine ⟨?_, (hW3.below (balloc (balloc (bsame w3) _) _)), Row.nil _ _ _ _ _, Row.nil _ _ _ _ _, Row.nil _ _ _ _ _, Row.nil _ _ _ _ _, ?_, ?_, ?_, fun x hx => (by cases hx), fun x hx => (by cases hx)⟩
    · refine Blk.new_at _ _ _ _ _ (by simp) ?_
      unfold Hp.cells Hp.fresh
      simp
    · show (if w3.heap.size + 1 < w.heap.size then _ else _) = _
      rw [if_neg (by omega), if_pos rfl]
    · show (if a < w.heap.size then _ else if a = w3.heap.size + 1 then _ else _) = _
      rw [if_neg (by omega), if_neg (by omega), if_pos rfl]
    · show (if wd < w.heap.size then _ else if wd = w3.heap.size + 1 then _ else if wd = a then _ else _) = _
      rw [if_neg (by omega), if_neg (by omega), if_neg (by omega), if_pos rfl]
  · have hB := balloc (balloc hb03 (.cells #[.int .i64 (1 + (n : Int)), .int .i64 n, .int .i64 (1 + (n : Int))] 150)) (.cells #[.pointer (some ⟨a, 0, none⟩), .int .i64 1, .int .i64 n, .int .i64 1, .int .i64 (1 + (n : Int)), .int .i64 n, .int .i64 (1 + (n : Int)), .slice none 0 0, .slice none 0 0, .int .i64 0, .bool false, .int .i64 0, .int .i64 0, .int .i64 0, .slice none 0 0, .slice none 0 0] 154)
    exact ⟨hB.os, hB.tape, hB.output, hB.size, fun b hb => if_pos hb, fun b hb _ => hB.block b hb⟩
  · intro b hb
    show (if _ then _ else _ : Tag).1 = _
    rw [if_neg (by omega)]
    repeat' split
    all_goals rfl
end Go.Proofs.YtemohiainfllcaaGreat

/- Contracts of slices.Clone at the log's types, laid as the kit's tool lays them; owned rows cloned. -/
namespace Go.Proofs.YtemohiainfllcaaGreat
open Go.RowKit Go.Lib Go.Shelf Hp
def cloneHold_ren : Go.Shelf.Ren := ⟨fun | 41 => 103 | n => n, fun | 22 => 101 | 23 => 108 | 4 => 4 | n => n, fun | n => n⟩
theorem cloneHold_lay : Go.Proofs.SlLaysE0.n41 Tryz.prog cloneHold_ren := {
  mixed := by kernel_rfl
  f41 := ⟨Tryz.f103.name, by decide, Tryz.func103.trans (congrArg some (by kernel_rfl))⟩
  t4 := Tryz.underlying4
  a4 := Tryz.isAgg4
  z4 := Tryz.sizeOf4
  v4 := Tryz.zeroValue4
  t22 := Tryz.underlying101
  a22 := Tryz.isAgg101
  z22 := Tryz.sizeOf101
  v22 := Tryz.zeroValue101 }
def cloneUndo_ren : Go.Shelf.Ren := ⟨fun | 41 => 168 | n => n, fun | 22 => 157 | 23 => 96 | 4 => 4 | n => n, fun | n => n⟩
theorem cloneUndo_lay : Go.Proofs.SlLaysE0.n41 Tryz.prog cloneUndo_ren := {
  mixed := by kernel_rfl
  f41 := ⟨Tryz.f168.name, by decide, Tryz.func168.trans (congrArg some (by kernel_rfl))⟩
  t4 := Tryz.underlying4
  a4 := Tryz.isAgg4
  z4 := Tryz.sizeOf4
  v4 := Tryz.zeroValue4
  t22 := Tryz.underlying157
  a22 := Tryz.isAgg157
  z22 := Tryz.sizeOf157
  v22 := Tryz.zeroValue157 }
theorem info_parts {t : TypeId} {z : Value} {s b : Nat} (h : ((Tryz.prog.info? t).map fun i => (i.zero, i.size, i.bytes)) = some (some z, s, b)) : ∃ i, Tryz.prog.info? t = some i ∧ i.size = s ∧ i.bytes = b ∧ i.zero = some z := by
  obtain ⟨i, hi, he⟩ := Option.map_eq_some_iff.1 h
  injection he with e1 e2
  injection e2 with e2 e3
  exact ⟨i, hi, e2, e3, e1⟩
theorem info_hold : ∃ i, Tryz.prog.info? 108 = some i ∧ i.size = 2 ∧ i.bytes = 16 ∧ i.zero = some (.agg #[.int .i64 0, .int .i64 0]) := info_parts (by kernel_rfl)
theorem info_undo : ∃ i, Tryz.prog.info? 96 = some i ∧ i.size = 4 ∧ i.bytes = 32 ∧ i.zero = some (.agg #[.int .i64 0, .int .i64 0, .int .i64 0, .int .i64 0]) := info_parts (by kernel_rfl)
theorem row_of_owns {w w' : World} {o : Own} {t : Tag} {e : TypeId} {size n : Nat} {v : Value} {xs : List Value} (h : w'.ownsRow w.heap.size e size v n xs) : Row w' (ext o w.heap.size t) t e size v n xs := by
  refine ⟨⟨h.1, ?_⟩, fun k hk => ?_⟩
  · rcases h.2 with hv | ⟨g, cap, cur, hv, hb, hg⟩
    · exact .inl hv
    · exact .inr ⟨g, cap, cur, hv, Nat.zero_le _, hg⟩
  · rcases h.2 with ⟨rfl, _⟩ | ⟨g, cap, cur, rfl, hb, hg⟩
    · simp [Value.ownBlock] at hk
    · have : g = k := by simpa [Value.ownBlock] using hk
      subst this
      exact ext_ge hb
section
variable {w : World} {o : Own} {t : Tag} {v : Value} {n : Nat} {xs : List Value}
theorem clone_hold (h : Row w o t 108 2 v n xs) (hn : n ≤ 100000) (h1 : ∀ u ∈ xs, u.oneCell' = true) (tg : Tag) :
    Calls Tryz.prog 103 #[v] w fun e w' => ∃ v', e = .returned v' ∧ Row w' (ext o w.heap.size tg) tg 108 2 v' n xs ∧ Below w.heap.size w w' := by
  obtain ⟨i, hi, hs, hb, hz⟩ := info_hold
  rcases h.own.2 with ⟨rfl, rfl⟩ | ⟨g, cap, cur, rfl, _⟩
  · have hx : xs = [] := List.eq_nil_of_length_eq_zero (by simpa using h.len)
    subst hx
    refine (AnyE.slices_Clone_nil cloneHold_lay 0 0 w).mono ?_
    rintro e w' ⟨rfl, rfl⟩
    exact ⟨_, rfl, Row.nil _ _ _ _ _, bsame _⟩
  · refine (AnyE.slices_Clone cloneHold_lay i _ 2 16 hi hz hs hb rfl (by decide) Tryz.sizeOf108 g 0 n cap xs w h.len (by simp only [maxLen]; omega) (by omega) (fun j u hu => ?_) h1).mono ?_
    · have := h.own.cells (g := g) rfl j u hu
      rw [Nat.zero_add]
      rwa [show (⟨g, 0, none⟩ : Addr).add j = ⟨g, j, none⟩ from by unfold Addr.add; split <;> simp_all] at this
    · rintro e w' ⟨v', rfl, ho, _, hb⟩
      exact ⟨v', rfl, row_of_owns ho, hb⟩
theorem clone_undo (h : Row w o t 96 4 v n xs) (hn : n ≤ 100000) (h1 : ∀ u ∈ xs, u.oneCell' = true) (tg : Tag) :
    Calls Tryz.prog 168 #[v] w fun e w' => ∃ v', e = .returned v' ∧ Row w' (ext o w.heap.size tg) tg 96 4 v' n xs ∧ Below w.heap.size w w' := by
  obtain ⟨i, hi, hs, hb, hz⟩ := info_undo
  rcases h.own.2 with ⟨rfl, rfl⟩ | ⟨g, cap, cur, rfl, _⟩
  · have hx : xs = [] := List.eq_nil_of_length_eq_zero (by simpa using h.len)
    subst hx
    refine (AnyE.slices_Clone_nil cloneUndo_lay 0 0 w).mono ?_
    rintro e w' ⟨rfl, rfl⟩
    exact ⟨_, rfl, Row.nil _ _ _ _ _, bsame _⟩
  · refine (AnyE.slices_Clone cloneUndo_lay i _ 4 32 hi hz hs hb rfl (by decide) Tryz.sizeOf96 g 0 n cap xs w h.len (by simp only [maxLen]; omega) (by omega) (fun j u hu => ?_) h1).mono ?_
    · have := h.own.cells (g := g) rfl j u hu
      rw [Nat.zero_add]
      rwa [show (⟨g, 0, none⟩ : Addr).add j = ⟨g, j, none⟩ from by unfold Addr.add; split <;> simp_all] at this
    · rintro e w' ⟨v', rfl, ho, _, hb⟩
      exact ⟨v', rfl, row_of_owns ho, hb⟩
theorem clone_int (h : Row w o t 3 1 v n xs) (hn : n ≤ 100000) (h1 : ∀ u ∈ xs, u.oneCell' = true) (tg : Tag) :
    Calls Tryz.prog 83 #[v] w fun e w' => ∃ v', e = .returned v' ∧ Row w' (ext o w.heap.size tg) tg 3 1 v' n xs ∧ Below w.heap.size w w' := by
  obtain ⟨i, hi, hs, hb, hz⟩ := info_int
  rcases h.own.2 with ⟨rfl, rfl⟩ | ⟨g, cap, cur, rfl, _⟩
  · have hx : xs = [] := List.eq_nil_of_length_eq_zero (by simpa using h.len)
    subst hx
    refine (Tryz.slices_Clone_nil 0 0 w).mono ?_
    rintro e w' ⟨rfl, rfl⟩
    exact ⟨_, rfl, Row.nil _ _ _ _ _, bsame _⟩
  · refine (Tryz.slices_Clone i _ 1 8 hi hz hs hb rfl (by decide) Tryz.sizeOf3 g 0 n cap xs w h.len (by simp only [maxLen]; omega) (by omega) (fun j u hu => ?_) h1).mono ?_
    · have := h.own.cells (g := g) rfl j u hu
      rw [Nat.zero_add]
      rwa [show (⟨g, 0, none⟩ : Addr).add j = ⟨g, j, none⟩ from by unfold Addr.add; split <;> simp_all] at this
    · rintro e w' ⟨v', rfl, ho, _, hb⟩
      exact ⟨v', rfl, row_of_owns ho, hb⟩
/-- Is a number in an owned row? -/
theorem contains_any (ps : List Nat) (h : Row w o t 3 1 v ps.length (ps.map nv)) (hl : ps.length ≤ 100000) (x : Nat) (z : Int) (hz : z = x) :
    Calls Tryz.prog 202 #[v, .int .i64 z] w fun e w' => e = .returned (.bool (decide (x ∈ ps))) ∧ w = w' := by
  subst hz
  rcases h.form with ⟨rfl, h0⟩ | ⟨g, cap, rfl, hn, hc, _, _⟩
  · have : ps = [] := List.eq_nil_of_length_eq_zero h0
    subst this
    refine (Tryz.slices_Contains_int_empty none 0 x w).mono ?_
    rintro e w' ⟨rfl, rfl⟩
    exact ⟨by simp, rfl⟩
  · refine (Tryz.slices_Contains_int g 0 ps.length cap (ps.map fun (p : Nat) => (p : Int)) x w (by simp) (by omega) ?_).mono ?_
    · intro j hj
      have hj' : j < ps.length := by simpa using hj
      rw [Nat.zero_add]
      refine h.cells j _ ?_
      rw [List.getElem?_map, List.getElem?_eq_getElem hj']
      simp [nv, List.getD, List.getElem?_eq_getElem hj']
    · rintro e w' ⟨rfl, rfl⟩
      rw [List.take_of_length_le (by simp)]
      refine ⟨?_, rfl⟩
      have e : ((ps.map fun (p : Nat) => (p : Int)).contains (x : Int)) = decide (x ∈ ps) := by
        rw [Bool.eq_iff_iff]
        simp only [List.contains_eq_mem, List.mem_map, decide_eq_true_eq]
        exact ⟨fun ⟨a, ha, e⟩ => by rw [show x = a by omega]; exact ha, fun h => ⟨x, h, rfl⟩⟩
      rw [e]
end
end Go.Proofs.YtemohiainfllcaaGreat
