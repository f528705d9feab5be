/- A store's public Put, Free, Commit and Abort. -/
import Derived.Test.YtemohiainfllcaaGreatKe
namespace Go.Proofs.YtemohiainfllcaaGreat
open Go.RowKit Hp
attribute [local go_sem ↓] Go.wp_at_zero Go.wp_at_succ
section
variable {w w' : World} {o o' : Own} {y : SLay} {S : Stt} {x : Tx} {i : Nat}
theorem eg_put1 (args : Array Value) (w : World) : (callFunc 96 args).run Tryz.prog w = .ok (.enter 96 args) w := enters_of Tryz.func96 (by kernel_rfl) rfl args w
set_option maxRecDepth 100000 in
set_option maxHeartbeats 2000000 in
theorem put1_any (p j q : Nat) (err : Int) (S4 : Stt) (h : StIn w o y S) (hk : S.ok) (hq : Plc S q)
    (ch : ∀ w1, Below w.heap.size w w1 → Calls Tryz.prog 47 #[ptr y.sb, ptr (y.xb i), .agg #[.int .i64 1, .int .i64 p, .int .i64 j, .int .i64 0], .func (.func 59) #[ptr y.l.h] #[], .func (.func 97) #[ptr y.l.h] #[], .int .i64 q] w1
      fun e w' => e = .returned (.int .i64 err) ∧ ∃ o', StIn w' o' y S4 ∧ Stp (opTag y i) o o' w1 w')
    {b1 b2 b3 b4 : Nat} (j1 : Blk w b1 #[.int .i64 q] 3) (j2 : Blk w b2 #[ptr y.sb] 23) (j3 : Blk w b3 #[.int .i64 p] 3) (j4 : Blk w b4 #[.int .i64 j] 3) :
    Calls Tryz.prog 96 #[ptr (y.xb i), ptr b1, ptr b2, ptr b3, ptr b4] w fun e w' => e = .returned (.tuple #[.int .i64 0, .int .i64 err]) ∧ ∃ o', StIn w' o' y S4 ∧ Stp (opTag y i) o o' w w' := by
  have hmf : ∀ (fn : Fn) (first cap : Array Value) (w : World), (Instr.makeFunc fn first cap).run Tryz.prog w = .ok (.func fn first cap) w := fun _ _ _ _ => rfl
  have HC := Lib.hid ch
  have jb := h.blk
  unfold stCells at jb
  have HH := Lib.hid (fun (e : Later w) (hq0 : q ≠ 0) => by
    obtain ⟨ob, hob⟩ := Option.isSome_iff_exists.1 (hq.resolve_left hq0)
    obtain ⟨vc, vo, vw, vf, f, hh⟩ := (h.below e.2).hp
    exact here_yes hh hk.F.ok hob)
  clear ch h hk hq
  go_enter Tryz.func96, Tryz.ntmps96
  go_upto_region 1 with fail
  rcases Nat.eq_zero_or_pos q with hq0 | hq0
  · have hqb : ((q : Int) != 0) = false := by rw [hq0]; rfl
    have c1 := j1.cell
    clear hq0
    go_quiet (fail)
    obtain ⟨W0, hW0⟩ : ∃ W0, W0 = w.drewN nq := ⟨_, rfl⟩
    have hb0 : Below w.heap.size w W0 := by rw [hW0]; exact bdrewN (bsame _) _
    rw [← hW0]
    clear hW0 c1
    have k1 := j1.below hb0 j1.lt
    have k2 := j2.below hb0 j2.lt
    have k3 := j3.below hb0 j3.lt
    have k4 := j4.below hb0 j4.lt
    have kb := jb.below hb0 jb.lt
    have c3 := k3.cell
    have c4 := k4.cell
    go_upto_region 4 with fail
    clear c3 c4
    obtain ⟨W, hW⟩ : ∃ W : World, W = W0.alloc (.cells #[.int .i64 1, .int .i64 p, .int .i64 j, .int .i64 0] 96) := ⟨_, rfl⟩
    rw [← hW]
    have hbW : Below w.heap.size w W := by rw [hW]; exact balloc hb0 _
    have jU : Blk W W0.heap.size #[.int .i64 1, .int .i64 p, .int .i64 j, .int .i64 0] 96 := by rw [hW]; exact Blk.new W0 _ _
    have k1 := j1.below hbW j1.lt
    have k2 := j2.below hbW j2.lt
    have kb := jb.below hbW jb.lt
    clear hW
    have c3 := k1.cell
    have c4 := k2.cell
    have cb := kb.cell
    have cU := jU.cell
    have HC2 := Lib.hid (HC.out W.drew (bdrew hbW))
    go_still_tail 14, (by kernel_rfl)
    change wpList _ _ _ _ _ W.drew
    go_wp2_with fail
    refine HC2.out.mono ?_
    rintro e w2 ⟨rfl, o2, hS2, hs2⟩
    go_wp2_with fail
    go_ret2
    exact ⟨rfl, o2, hS2, (Stp.of_below (bdrew hbW)).trans hs2⟩
  · have hqb : ((q : Int) != 0) = true := by rw [bne_iff_ne]; omega
    have HH2 := Lib.hid (fun (e : Later w) => HH.out e (by omega))
    have l1 := fun (e : Later w) (i : Nat) => Later.cell j1 e i
    have l2 := fun (e : Later w) (i : Nat) => Later.cell j2 e i
    have l5 := fun (e : Later w) (i : Nat) => Later.cell jb e i
    clear hq0 HH
    refine wp_region_later (by kernel_rfl) (by kernel_rfl) ?_
    repeat (go_big_quiet_step ((go_at_call 81; exact later_of (HH2.out _))))
    refine wpQuiet_nil ?_
    intro w8 hW0
    obtain ⟨⟨W0, hb0⟩, hwt⟩ := hW0
    have hwt : w8 = W0 := hwt
    subst hwt
    clear l1 l2 l5
    have k1 := j1.below hb0 j1.lt
    have k2 := j2.below hb0 j2.lt
    have k3 := j3.below hb0 j3.lt
    have k4 := j4.below hb0 j4.lt
    have kb := jb.below hb0 jb.lt
    have c3 := k3.cell
    have c4 := k4.cell
    go_upto_region 4 with fail
    clear c3 c4
    obtain ⟨W, hW⟩ : ∃ W : World, W = w8.alloc (.cells #[.int .i64 1, .int .i64 p, .int .i64 j, .int .i64 0] 96) := ⟨_, rfl⟩
    rw [← hW]
    have hbW : Below w.heap.size w W := by rw [hW]; exact balloc hb0 _
    have jU : Blk W w8.heap.size #[.int .i64 1, .int .i64 p, .int .i64 j, .int .i64 0] 96 := by rw [hW]; exact Blk.new w8 _ _
    have k1 := j1.below hbW j1.lt
    have k2 := j2.below hbW j2.lt
    have kb := jb.below hbW jb.lt
    clear hW
    have c3 := k1.cell
    have c4 := k2.cell
    have cb := kb.cell
    have cU := jU.cell
    have HC2 := Lib.hid (HC.out W.drew (bdrew hbW))
    go_still_tail 14, (by kernel_rfl)
    change wpList _ _ _ _ _ W.drew
    go_wp2_with fail
    refine HC2.out.mono ?_
    rintro e w2 ⟨rfl, o2, hS2, hs2⟩
    go_wp2_with fail
    go_ret2
    exact ⟨rfl, o2, hS2, (Stp.of_below (bdrew hbW)).trans hs2⟩
theorem sput_any (h : StIn w o y S) (hP : Pre S i x) {p q : Nat} (hp : Plc S p) (hq : Plc S q) (j : Nat) :
    Calls Tryz.prog 41 #[ptr y.sb, .int .i64 i, .int .i64 p, .int .i64 j, .int .i64 q] w fun e w' => e = .returned (.int .i64 ((S.putR i x p j q).fin i).e) ∧ ∃ o', StIn w' o' y ((S.putR i x p j q).fin i).S ∧ Stp (stTag y) o o' w w' := by
  have hmf : ∀ (fn : Fn) (first cap : Array Value) (w : World), (Instr.makeFunc fn first cap).run Tryz.prog w = .ok (.func fn first cap) w := fun _ _ _ _ => rfl
  obtain ⟨W, hW⟩ : ∃ W : World, W = (((w.alloc (.cells #[ptr y.sb] 23)).alloc (.cells #[.int .i64 p] 3)).alloc (.cells #[.int .i64 j] 3)).alloc (.cells #[.int .i64 q] 3) := ⟨_, rfl⟩
  have hbW : Below w.heap.size w W := by rw [hW]; exact balloc (balloc (balloc (balloc (bsame w) _) _) _) _
  have j1 : Blk W w.heap.size #[ptr y.sb] 23 := by rw [hW]; exact (((Blk.new w _ _).alloc _).alloc _).alloc _
  have j2 : Blk W (w.heap.size + 1) #[.int .i64 p] 3 := by rw [hW]; exact ((Blk.new_at _ _ _ _ _ (by simp) rfl).alloc _).alloc _
  have j3 : Blk W (w.heap.size + 1 + 1) #[.int .i64 j] 3 := by rw [hW]; exact (Blk.new_at _ _ _ _ _ (by simp) rfl).alloc _
  have j4 : Blk W (w.heap.size + 1 + 1 + 1) #[.int .i64 q] 3 := by rw [hW]; exact Blk.new_at _ _ _ _ _ (by simp) rfl
  have HD := Lib.hid (deed_any 96 [ptr (w.heap.size + 1 + 1 + 1), ptr w.heap.size, ptr (w.heap.size + 1), ptr (w.heap.size + 1 + 1)] (h.below hbW) hP.ok hP.hx hP.live eg_put1 (S.putR i x p j q) (fun ha => by rw [putR_ab hP hp j q ha]; exact hP.ab)
    (fun w1 o2 hb he2 hS => by
      rw [putR_v]
      refine (put1_any p j q _ _ hS hP.ok hq (fun w2 hb2 => change_ptr_any (hS.below hb2) hP hp j q hq) (j4.below hb j4.lt) (j1.below hb j1.lt) (j2.below hb j2.lt) (j3.below hb j3.lt)).mono ?_
      rintro e w' ⟨rfl, o', h1, h2⟩
      exact ⟨rfl, o', h1, h2.mono fun _ => stTag_op⟩))
  have HS := Lib.hid (Stp.of_below (T := stTag y) (o := o) hbW)
  generalize Res.fin (S.putR i x p j q) i = R at *
  clear h hbW j1 j2 j3 j4 hP hp hq
  go_enter Tryz.func41, Tryz.ntmps41
  go_wp2_with fail
  rw [← hW]
  refine HD.out.mono ?_
  rintro e w2 ⟨rfl, o2, hS2, hs2⟩
  go_wp2_with fail
  go_ret
  exact ⟨rfl, o2, hS2, HS.out.trans hs2⟩
end
end Go.Proofs.YtemohiainfllcaaGreat
