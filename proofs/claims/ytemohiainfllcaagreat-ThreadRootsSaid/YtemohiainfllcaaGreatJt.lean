/- Walks: a transaction that only read commits. -/
import Derived.Test.YtemohiainfllcaaGreatJs
import Derived.Test.YtemohiainfllcaaGreatJk
namespace Go.Proofs.YtemohiainfllcaaGreat
open Go.RowKit Hp
attribute [local go_sem ↓] Go.wp_at_zero Go.wp_at_succ
section
variable {w w' : World} {o o' : Own} {y : SLay} {S : Stt} {x : Tx} {i : Nat}
theorem eg_commit1 (args : Array Value) (w : World) : (callFunc 51 args).run Tryz.prog w = .ok (.enter 51 args) w := enters_of Tryz.func51 (by kernel_rfl) rfl args w
set_option maxRecDepth 100000 in
theorem commit1_read (h : StIn w o y S) (hk : S.ok) (hx : S.txs[i]? = some x) (hh : x.log.holds = []) (hn : S.holder ≠ (i : Int)) {b1 : Nat} (j1 : Blk w b1 #[ptr y.sb] 23) :
    Calls Tryz.prog 51 #[ptr (y.xb i), ptr b1] w fun e w' => e = .returned (.tuple #[.int .i64 0, .int .i64 0]) ∧ ∃ o', StIn w' o' y { S with txs := S.txs.set i x.ended } ∧ Stp (txTag y i) o o' w w' := by
  have hx' := h.txs i x hx
  obtain ⟨vr, vk, vh, vu, hl⟩ := hx'.log
  have HL := Lib.hid (log_holds hl (hk.lg x (List.mem_of_getElem? hx)) (y.l.id + 1, 0))
  rw [hh] at HL
  have HE := Lib.hid (fun w' (hw : Below w.heap.size w w') => end_in (h.below hw) hx)
  have c1 := j1.cell
  have jx := hx'.blk
  have cx := jx.cell
  have jb := h.blk
  unfold stCells at jb
  have hne : (S.holder == (i : Int)) = false := by simpa using hn
  have hne2 : ¬ S.holder = (i : Int) := hn
  clear h hk hx hh hx' hl hn
  go_enter Tryz.func51, Tryz.ntmps51
  go_wp2_with fail
  refine HL.out.mono ?_
  rintro e w1 ⟨v', rfl, hr, hb1⟩
  obtain ⟨pa, cp, rfl⟩ := hr.slc
  have c1 := (j1.below hb1 j1.lt).cell
  have cx := (jx.below hb1 jx.lt).cell
  have c := (jb.below hb1 jb.lt).cell
  have s1 := (j1.below hb1 j1.lt).lt
  go_upto_region 2 with fail
  go_quiet (fail)
  go_wp2_with fail
  refine (HE.out _ (bdrewN hb1 _)).mono ?_
  rintro e w2 ⟨rfl, hS2, hs2⟩
  go_wp2_with fail
  go_ret2
  exact ⟨rfl, o, hS2, (Stp.of_below (bdrewN hb1 _)).trans hs2⟩
theorem commit_read (h : StIn w o y S) (hk : S.ok) (hx : S.txs[i]? = some x) (hl : x.live = true) (hh : x.log.holds = []) (hn : S.holder ≠ (i : Int)) :
    Calls Tryz.prog 18 #[ptr y.sb, .int .i64 i] w fun e w' => e = .returned (.tuple #[.int .i64 0, .int .i64 0]) ∧ ∃ o', StIn w' o' y { S with txs := S.txs.set i x.ended } ∧ Stp (txTag y i) o o' w w' := by
  have hmf : ∀ (fn : Fn) (first cap : Array Value) (w : World), (Instr.makeFunc fn first cap).run Tryz.prog w = .ok (.func fn first cap) w := fun _ _ _ _ => rfl
  have HD := Lib.hid (fun w' b1 (hw : Below w.heap.size w w') (j1 : Blk w' b1 #[ptr y.sb] 23) =>
    deed_ok 51 [ptr b1] (h.below hw) hk hx hl eg_commit1 (txTag y i) (txTag_box y i) { S with txs := S.txs.set i x.ended } 0
      (fun w1 o1 hb _ hS => commit1_read hS hk hx hh hn (j1.below hb j1.lt)))
  clear h hk hx hl hh hn
  go_enter Tryz.func18, Tryz.ntmps18
  go_wp2_with fail
  refine (HD.out _ w.heap.size (balloc (bsame w) _) (Blk.new w _ _)).mono ?_
  rintro e w2 ⟨rfl, o2, hS2, hs2⟩
  go_wp2_with fail
  go_ret2
  exact ⟨rfl, o2, hS2, (Stp.of_below (balloc (bsame w) _)).trans hs2⟩
end
end Go.Proofs.YtemohiainfllcaaGreat

/- Walks: a transaction takes, while nothing waits. -/
namespace Go.Proofs.YtemohiainfllcaaGreat
open Go.RowKit Hp
attribute [local go_sem ↓] Go.wp_at_zero Go.wp_at_succ
section
variable {w w' : World} {o o' : Own} {y : SLay} {S : Stt} {x : Tx} {i : Nat}
theorem eg_take1 (args : Array Value) (w : World) : (callFunc 119 args).run Tryz.prog w = .ok (.enter 119 args) w := enters_of Tryz.func119 (by kernel_rfl) rfl args w
def ownTag (y : SLay) (t : Tag) : Prop := t = (y.l.id, 11)
set_option maxRecDepth 100000 in
theorem take1_in (h : StIn w o y S) (hx : S.txs[i]? = some x) (hn : S.holder = -1 ∨ S.holder = (i : Int)) (hv : S.version ≤ x.start) {b1 : Nat} (j1 : Blk w b1 #[ptr y.sb] 23) (t1 : o b1 = (y.l.id + 1, 0)) :
    Calls Tryz.prog 119 #[ptr (y.xb i), ptr b1] w fun e w' => e = .returned (.tuple #[.int .i64 0, .int .i64 0]) ∧ ∃ o', StIn w' o' y { S with holder := (i : Int), version := S.version } ∧ Stp (ownTag y) o o' w w' := by
  have HI := Lib.hid h
  have jx := (h.txs i x hx).blk
  have jb := h.blk
  have jb0 := Lib.hid jb
  unfold stCells at jb
  have hos := h.os
  have n1 : b1 ≠ y.sb := fun e => by rw [e, hos] at t1; injection t1 with t1 _; omega
  have nx : y.xb i ≠ y.sb := fun e => by have h1 := (h.txs i x hx).ob; rw [e, hos] at h1; injection h1 with _ h1; omega
  have hvI : ¬ (x.start : Int) < (S.version : Int) := by omega
  have c1 := j1.cell
  have cx := jx.cell
  have hfin := Lib.hid (fun (W : World) (hb : Below w.heap.size w W) => show ∃ o', StIn (W.setCell ⟨y.sb, 6, none⟩ (.int .i64 i)) o' y { S with holder := (i : Int), version := S.version } ∧ Stp (ownTag y) o o' w (W.setCell ⟨y.sb, 6, none⟩ (.int .i64 i)) from by
    have hs : Stp (ownTag y) o o w (W.setCell ⟨y.sb, 6, none⟩ (.int .i64 i)) := (Stp.of_below hb).setCell (by show o y.sb = _; exact hos) _
    exact ⟨o, HI.out.own ((jb0.out.below hb jb0.out.lt).set 6 _) hs, hs⟩)
  clear h hx hos hv
  rcases hn with hn | hn
  all_goals
    rw [hn] at jb
    have c := jb.cell
    have z := jb.free
    have s := jb.lt
    go_enter Tryz.func119, Tryz.ntmps119
    go_upto_region 1 with fail
    go_quiet (fail)
    go_upto_region 3 with fail
    go_region_with (fail)
    all_goals
      go_upto_region 4 with fail
      go_quiet (fail)
      go_wp2_with fail
      go_ret2
      obtain ⟨o', hS, hs⟩ := hfin.out _ (bdrewN (bsame w) _)
      exact ⟨rfl, o', hS.below (bdrewN (bsame _) _), hs.trans (Stp.of_below (bdrewN (bsame _) _))⟩
theorem take_in (h0 : StIn w o y S) (hk : S.ok) (hx : S.txs[i]? = some x) (hl : x.live = true) (hn : S.holder = -1 ∨ S.holder = (i : Int)) (hv : S.version ≤ x.start) :
    Calls Tryz.prog 66 #[ptr y.sb, .int .i64 i] w fun e w' => e = .returned (.tuple #[.int .i64 0, .int .i64 0]) ∧ ∃ o', StIn w' o' y { S with holder := (i : Int), version := S.version } ∧ Stp (ownTag y) o o' w w' := by
  have hmf : ∀ (fn : Fn) (first cap : Array Value) (w : World), (Instr.makeFunc fn first cap).run Tryz.prog w = .ok (.func fn first cap) w := fun _ _ _ _ => rfl
  obtain ⟨o1, ho1⟩ : ∃ o1, o1 = ext o w.heap.size (y.l.id + 1, 0) := ⟨_, rfl⟩
  have h := h0.retag (o' := o1) fun b hb => by rw [ho1]; exact ext_lt hb
  have hS0 : Stp (ownTag y) o o1 w w := by rw [ho1]; exact (Stp.refl _ o w).ext _ _ (Nat.le_refl _)
  have hbx : o1 w.heap.size = (y.l.id + 1, 0) := by rw [ho1]; exact ext_ge (Nat.le_refl _)
  clear ho1 h0
  have j1 := Blk.new w #[ptr y.sb] 23
  have HD := Lib.hid (deed_ok 119 [ptr w.heap.size] (h.below (balloc (bsame w) (.cells #[ptr y.sb] 23))) hk hx hl eg_take1 (ownTag y) (by intro e; injection e with e _; omega) { S with holder := (i : Int), version := S.version } 0
      (fun w1 o1 hb he hS => take1_in hS hx hn hv (j1.below hb j1.lt) ((he _ j1.lt).trans hbx)))
  have HS := Lib.hid (hS0.trans (Stp.of_below (balloc (bsame w) (.cells #[ptr y.sb] 23))))
  clear h hk hx hl hn hv hS0 hbx j1
  go_enter Tryz.func66, Tryz.ntmps66
  go_wp2_with fail
  refine HD.out.mono ?_
  rintro e w2 ⟨rfl, o2, hS2, hs2⟩
  go_wp2_with fail
  go_ret2
  exact ⟨rfl, o2, hS2, HS.out.trans hs2⟩
end
end Go.Proofs.YtemohiainfllcaaGreat

/- Walks: no room for an object. -/
namespace Go.Proofs.YtemohiainfllcaaGreat
open Go.RowKit Hp
attribute [local go_sem ↓] Go.wp_at_zero Go.wp_at_succ
section
variable {w : World} {o : Own} {l : HLay} {H : Hp} {vc vo vw vf : Value} {f : Nat → Nat}
set_option maxRecDepth 100000 in
set_option maxHeartbeats 2000000 in
theorem alloc_no (h : HpIn w o l H vc vo vw vf f) (hF : HpF H) (s : Shp) (hs : s.ok) (hr : 1 + H.size < H.top + rnd (3 + s.p + s.d)) :
    Calls Tryz.prog 147 #[.pointer (some ⟨l.h, 0, none⟩), shpV s] w fun e w' => e = .returned (.tuple #[.int .i64 0, .int .i64 100]) ∧ Below w.heap.size w w' := by
  have hk := hF.ok
  have hb := h.cells_f hF.use
  have ht := Hp.top_f hk hF.use
  have hsz := hk.sz
  have hrd := rnd_ge (3 + s.p + s.d) (by obtain ⟨h1, h2, _⟩ := hs; omega)
  have HR := Lib.hid (fun w' (hw : Below w.heap.size w w') => room_f (h.below hw) hk hF.use hF.mov)
  have HS := Lib.hid (fun w => hsize_any s hs w)
  have HN := Lib.hid (fun w => round_any (3 + s.p + s.d) (by omega) (by obtain ⟨h1, h2, _⟩ := hs; omega) _ rfl w)
  have hng : ((1 + H.size - H.top : Nat) : Int) < ((rnd (3 + s.p + s.d) : Nat) : Int) := by omega
  generalize ((1 + H.size - H.top : Nat) : Int) = q at HR hng
  generalize ((rnd (3 + s.p + s.d) : Nat) : Int) = rn at HN hng
  clear h hk hr hF hsz hrd ht hb
  go_enter Tryz.func147, Tryz.ntmps147
  have jS := Blk.new w #[.int .i64 s.p, .int .i64 s.d, .bool s.weak, .bool s.final] 80
  have cS := jS.cell
  go_wp2_with fail
  refine (HS.out _).mono ?_
  rintro e w1 ⟨rfl, hb1⟩
  have hw1 := btrans (balloc (bsame w) _) hb1
  clear hb1 cS
  go_wp2_with fail
  refine (HN.out _).mono ?_
  rintro e w2 ⟨rfl, hb2⟩
  have hw2 := btrans hw1 hb2
  go_wp2_with fail
  refine (HR.out _ hw2).mono ?_
  rintro e w3 ⟨rfl, hb3⟩
  go_wp2_with fail
  go_ret2
  exact ⟨rfl, btrans hw2 hb3⟩
end
end Go.Proofs.YtemohiainfllcaaGreat
