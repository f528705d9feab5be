/- Walks: a transaction begins. -/
import Derived.Test.YtemohiainfllcaaGreatJr
namespace Go.Proofs.YtemohiainfllcaaGreat
open Go.RowKit Hp
attribute [local go_sem ↓] Go.wp_at_zero Go.wp_at_succ
section
variable {w w' : World} {o o' : Own} {y : SLay} {S : Stt} {x : Tx} {i : Nat}
theorem StIn.thrCells (h : StIn w o y S) (h1 : 1 ≤ S.txs.length) : ∃ g cap, y.vth = .slice (some ⟨g, 0, none⟩) S.txs.length cap ∧ (∀ k, k < S.txs.length → w.cell? ⟨g, k, none⟩ = some (ptr (y.xb k))) ∧ S.txs.length ≤ cap := by
  obtain ⟨g, cap, e, _, hc⟩ := h.thrCell 0 (by omega)
  refine ⟨g, cap, e, fun k hk => ?_, hc⟩
  obtain ⟨g', cap', e', hk', _⟩ := h.thrCell k hk
  rw [e] at e'
  injection e' with e1 _ _
  injection e1 with e1
  injection e1 with e1 _ _
  rw [e1]; exact hk'
theorem begin_live (h : StIn w o y S) (hk : S.ok) (hx : S.txs[i]? = some x) (hl : x.live = true) :
    Calls Tryz.prog 14 #[ptr y.sb, .int .i64 i] w fun e w' => e = .returned (.int .i64 140) ∧ w = w' := by
  have HT := Lib.hid (thread_in h hk (List.getElem?_eq_some_iff.1 hx).1)
  have c := (h.txs i x hx).cell
  rw [hl] at c
  clear h hk hx
  go_enter Tryz.func14, Tryz.ntmps14
  go_wp2_with fail
  refine HT.out.mono ?_
  rintro e w1 ⟨rfl, rfl⟩
  go_wp2_with fail
  go_ret
  exact ⟨rfl, rfl⟩
def Tx.begun (x : Tx) (n : Nat) : Tx := { x with live := true, start := n }
set_option maxRecDepth 100000 in
set_option maxHeartbeats 2000000 in
theorem begin_in (h : StIn w o y S) (hk : S.ok) (hx : S.txs[i]? = some x) (hl : x.live = false) (hr : S.now + 9 ≤ S.most) :
    Calls Tryz.prog 14 #[ptr y.sb, .int .i64 i] w fun e w' => e = .returned (.int .i64 0) ∧ ∃ o', StIn w' o' y { S with txs := S.txs.set i (x.begun S.now) } ∧ Stp (txTag y i) o o' w w' := by
  have HT := Lib.hid (thread_in h hk (List.getElem?_eq_some_iff.1 hx).1)
  have HI := Lib.hid h
  have HX := Lib.hid (h.txs i x hx)
  have jx := (h.txs i x hx).blk
  have cx := jx.cell
  rw [hl] at cx
  obtain ⟨g, cap, ev, hcs, hcap⟩ := h.thrCells hk.t1
  have jb := h.blk
  unfold stCells at jb
  rw [ev] at jb
  have c := jb.cell
  have hn1 := hk.n1
  have hn2 := hk.n2
  have h8 := hk.t8
  have HM := Lib.hid (fun (k : Nat) (hk : k ≤ 9) => clk_may h.ck (k : Int) (by omega) (by omega) (by omega) (by omega))
  have HMd := Lib.hid (fun (k : Nat) (hk : k ≤ 9) => show decide ((k : Int) ≤ (S.most : Int) - (S.now : Int)) = true from by rw [decide_eq_true_eq]; omega)
  have HN := Lib.hid (fun w' (hw : Below w.heap.size w w') => clk_now (h.ck.below hw h.ck.lt))
  have HXS := Lib.hid (fun k (hk : k < S.txs.length) => show ∃ z, (∀ j, w.cell? ⟨y.xb k, j, none⟩ = (#[.int .i64 k, .bool z.live, .int .i64 z.start, .int .i64 0, ptr (y.lb k), .slice none 0 0] : Array Value)[j]?) from
    ⟨S.txs[k], (h.txs k _ (List.getElem?_eq_getElem hk)).blk.cell⟩)
  have hcs := Lib.hid hcs
  clear h hk hx hn1 hn2 hr
  go_enter Tryz.func14, Tryz.ntmps14
  go_wp2_with fail
  refine HT.out.mono ?_
  rintro e w1 ⟨rfl, rfl⟩
  go_wp2_with fail
  go_loopw [25, 6, 8] (fun ix cn _ wr => ∃ k n : Nat, ix = .int .i64 k ∧ cn = .int .i64 n ∧ k ≤ S.txs.length ∧ n ≤ k ∧ wr = w) (fun ix _ _ _ => S.txs.length - (intOf ix).toNat)
  case atStart => exact ⟨0, 0, rfl, rfl, by omega, by omega, rfl⟩
  case round =>
    obtain ⟨k, n, rfl, rfl, hkl, hnk, rfl⟩ := hrel
    by_cases hlt : k < S.txs.length
    · have ck := hcs.out k hlt
      obtain ⟨z, cz⟩ := HXS.out k hlt
      have hI : (k : Int) < (S.txs.length : Int) := by omega
      cases hzl : z.live
      · rw [hzl] at cz
        go_wp2_with fail
        go_roundw
        case rel => exact ⟨k + 1, n, by simp, rfl, by omega, by omega, trivial⟩
        case measure => simp [intOf]; omega
      · rw [hzl] at cz
        have hn8 : (n : Int) < 9 := by omega
        go_wp2_with fail
        go_roundw
        case rel => exact ⟨k + 1, n + 1, by simp, by simp, by omega, by omega, trivial⟩
        case measure => simp [intOf]; omega
    · obtain rfl : k = S.txs.length := by omega
      have hn8 : (n : Int) < 9 := by omega
      have HM2 := Lib.hid (HM.out (n + 1) (by omega))
      rw [HMd.out (n + 1) (by omega), show ((n + 1 : Nat) : Int) = (n : Int) + 1 from by omega] at HM2
      go_wp2_with fail
      refine HM2.out.mono ?_
      rintro e w2 ⟨rfl, hb2⟩
      have jx2 := jx.below hb2 jx.lt
      rw [hl] at jx2
      have jb2 := jb.below hb2 jb.lt
      clear cx c HM2
      have cx := jx2.cell
      have zx := jx2.free
      have sx := jx2.lt
      have c := jb2.cell
      have sb := jb2.lt
      have nsb : y.sb ≠ y.xb i := fun e => by have h1 := HI.out.os; rw [e, HX.out.ob] at h1; injection h1 with _ h1; omega
      have HN2 := Lib.hid (HN.out w2.drew (bdrew hb2))
      have hfin := Lib.hid (show ∃ o', StIn (((w2.setCell ⟨y.xb i, 1, none⟩ (.bool true)).setCell ⟨y.xb i, 2, none⟩ (.int .i64 S.now)).setCell ⟨y.xb i, 3, none⟩ (.int .i64 0)).drew o' y { S with txs := S.txs.set i (x.begun S.now) } ∧ Stp (txTag y i) o o' wr (((w2.setCell ⟨y.xb i, 1, none⟩ (.bool true)).setCell ⟨y.xb i, 2, none⟩ (.int .i64 S.now)).setCell ⟨y.xb i, 3, none⟩ (.int .i64 0)).drew from by
        have ob := HX.out.ob
        have hs0 : Stp (fun t => t = (y.l.id, 16 + 8 * i)) o o w2 (((w2.setCell ⟨y.xb i, 1, none⟩ (.bool true)).setCell ⟨y.xb i, 2, none⟩ (.int .i64 S.now)).setCell ⟨y.xb i, 3, none⟩ (.int .i64 0)).drew :=
          ((((Stp.refl _ o w2).setCell (by show o (y.xb i) = _; exact ob) _).setCell (by show o (y.xb i) = _; exact ob) _).setCell (by show o (y.xb i) = _; exact ob) _).drew
        have hs : Stp (txTag y i) o o wr _ := (Stp.of_below hb2).trans (hs0.mono (by rintro _ rfl; exact ⟨rfl, by simp, by simp⟩))
        obtain ⟨vr, vk, vh, vu, hlg⟩ := HX.out.log
        exact ⟨o, HI.out.tx ⟨drewB (((jx2.set 1 _).set 2 _).set 3 _), ⟨vr, vk, vh, vu, (hlg.below hb2).stp hs0 fun j hj => by simp; omega⟩, ob⟩ hs, hs⟩)
      go_upto_region 13 with fail
      go_region_with (first | (go_at_call 44; refine HN2.out.mono ?_; rintro e w3 ⟨rfl, rfl⟩) | fail)
      all_goals
        go_wp2_with fail
        go_ret
        exact ⟨rfl, hfin.out⟩
end
end Go.Proofs.YtemohiainfllcaaGreat

/- Walks: the public Read and Get. -/
namespace Go.Proofs.YtemohiainfllcaaGreat
open Go.RowKit Hp
attribute [local go_sem ↓] Go.wp_at_zero Go.wp_at_succ
section
variable {w w' : World} {o o' : Own} {y : SLay} {S : Stt} {x : Tx} {i : Nat}
theorem txTag_op {y : SLay} {i : Nat} {t : Tag} (h : txTag y i t) : opTag y i t := .inl h
theorem txTag_box (y : SLay) (i : Nat) : ¬ txTag y i (y.l.id + 1, 0) := fun h => opTag_box y i (.inl h)
set_option maxRecDepth 100000 in
theorem field1_num (h : StIn w o y S) (hk : S.ok) (hx : S.txs[i]? = some x) {p : Nat} {ob : Ob} (hp : lk S.H.cur p = some ob) (hs : SecOk ob.second) (hc : clashB i x.start ob.second = false) (h0 : p ≠ 0)
    (he : fieldsE (noteB x.log.reads p x.log.mr) ob.freed ob.shp.weak = 0) (j : Nat) (v err : Int)
    (hg : ∀ w' o', StIn w' o' y { S with txs := S.txs.set i (x.read p) } → Calls Tryz.prog 48 #[ptr y.l.h, .int .i64 p, .int .i64 j] w' fun e w'' => e = .returned (.tuple #[.int .i64 v, .int .i64 err]) ∧ Below w'.heap.size w' w'')
    {b1 b2 b3 b4 : Nat} (j1 : Blk w b1 #[ptr y.sb] 23) (j2 : Blk w b2 #[.int .i64 p] 3) (j3 : Blk w b3 #[.func (.func 48) #[] #[]] 111) (j4 : Blk w b4 #[.int .i64 j] 3)
    (t1 : o b1 = (y.l.id + 1, 0)) (t2 : o b2 = (y.l.id + 1, 0)) (t3 : o b3 = (y.l.id + 1, 0)) (t4 : o b4 = (y.l.id + 1, 0)) :
    Calls Tryz.prog 110 #[ptr (y.xb i), ptr b1, ptr b2, ptr b3, ptr b4] w fun e w' => e = .returned (.tuple #[.int .i64 v, .int .i64 err]) ∧ ∃ o', StIn w' o' y { S with txs := S.txs.set i (x.read p) } ∧ Stp (txTag y i) o o' w w' := by
  have HF := Lib.hid (fields_in h hk hx hp hs hc h0)
  rw [he] at HF
  have HG := Lib.hid hg
  have HB := Lib.hid (txTag_box y i)
  have c1 := j1.cell
  have c2 := j2.cell
  clear h hk hx hp hs hc h0 he hg
  go_enter Tryz.func110, Tryz.ntmps110
  go_wp2_with fail
  refine HF.out.mono ?_
  rintro e w1 ⟨rfl, o1, hS1, hs1⟩
  have k1 := j1.stp hs1 (by rw [t1]; exact HB.out)
  have k2 := j2.stp hs1 (by rw [t2]; exact HB.out)
  have k3 := j3.stp hs1 (by rw [t3]; exact HB.out)
  have k4 := j4.stp hs1 (by rw [t4]; exact HB.out)
  have jb := hS1.blk
  unfold stCells at jb
  have HG2 := Lib.hid (fun n => HG.out (w1.drewN n) o1 (hS1.below (bdrewN (bsame w1) n)))
  have l1 := fun (e : Later w1) (i : Nat) => Later.cell k1 e i
  have l2 := fun (e : Later w1) (i : Nat) => Later.cell k2 e i
  have l3 := fun (e : Later w1) (i : Nat) => Later.cell k3 e i
  have l4 := fun (e : Later w1) (i : Nat) => Later.cell k4 e i
  have l5 := fun (e : Later w1) (i : Nat) => Later.cell jb e i
  clear c1 c2
  have HS := Lib.hid hS1
  have HG3 := Lib.hid (fun (e : Later w1) => HG.out e.1 o1 (hS1.below e.2))
  go_upto_region 4 with fail
  refine wp_region_later (by kernel_rfl) (by kernel_rfl) ?_
  repeat (go_big_quiet_step ((go_at_call 48; exact later_of (HG3.out _))))
  refine wpQuiet_nil ?_
  rintro _ ⟨⟨wt, hbt⟩, rfl⟩
  go_wp2_with fail
  go_ret2
  exact ⟨rfl, o1, HS.out.below hbt, hs1.trans (Stp.of_below hbt)⟩
set_option maxRecDepth 100000 in
theorem field1_ptr (h : StIn w o y S) (hk : S.ok) (hx : S.txs[i]? = some x) {p : Nat} {ob : Ob} (hp : lk S.H.cur p = some ob) (hs : SecOk ob.second) (hc : clashB i x.start ob.second = false) (h0 : p ≠ 0)
    (he : fieldsE (noteB x.log.reads p x.log.mr) ob.freed ob.shp.weak = 0) (j : Nat) (v err : Int)
    (hg : ∀ w' o', StIn w' o' y { S with txs := S.txs.set i (x.read p) } → Calls Tryz.prog 59 #[ptr y.l.h, .int .i64 p, .int .i64 j] w' fun e w'' => e = .returned (.tuple #[.int .i64 v, .int .i64 err]) ∧ Below w'.heap.size w' w'')
    {b1 b2 b3 b4 : Nat} (j1 : Blk w b1 #[ptr y.sb] 23) (j2 : Blk w b2 #[.int .i64 p] 3) (j3 : Blk w b3 #[.func (.func 59) #[] #[]] 111) (j4 : Blk w b4 #[.int .i64 j] 3)
    (t1 : o b1 = (y.l.id + 1, 0)) (t2 : o b2 = (y.l.id + 1, 0)) (t3 : o b3 = (y.l.id + 1, 0)) (t4 : o b4 = (y.l.id + 1, 0)) :
    Calls Tryz.prog 110 #[ptr (y.xb i), ptr b1, ptr b2, ptr b3, ptr b4] w fun e w' => e = .returned (.tuple #[.int .i64 v, .int .i64 err]) ∧ ∃ o', StIn w' o' y { S with txs := S.txs.set i (x.read p) } ∧ Stp (txTag y i) o o' w w' := by
  have HF := Lib.hid (fields_in h hk hx hp hs hc h0)
  rw [he] at HF
  have HG := Lib.hid hg
  have HB := Lib.hid (txTag_box y i)
  have c1 := j1.cell
  have c2 := j2.cell
  clear h hk hx hp hs hc h0 he hg
  go_enter Tryz.func110, Tryz.ntmps110
  go_wp2_with fail
  refine HF.out.mono ?_
  rintro e w1 ⟨rfl, o1, hS1, hs1⟩
  have k1 := j1.stp hs1 (by rw [t1]; exact HB.out)
  have k2 := j2.stp hs1 (by rw [t2]; exact HB.out)
  have k3 := j3.stp hs1 (by rw [t3]; exact HB.out)
  have k4 := j4.stp hs1 (by rw [t4]; exact HB.out)
  have jb := hS1.blk
  unfold stCells at jb
  have HG2 := Lib.hid (fun n => HG.out (w1.drewN n) o1 (hS1.below (bdrewN (bsame w1) n)))
  have l1 := fun (e : Later w1) (i : Nat) => Later.cell k1 e i
  have l2 := fun (e : Later w1) (i : Nat) => Later.cell k2 e i
  have l3 := fun (e : Later w1) (i : Nat) => Later.cell k3 e i
  have l4 := fun (e : Later w1) (i : Nat) => Later.cell k4 e i
  have l5 := fun (e : Later w1) (i : Nat) => Later.cell jb e i
  clear c1 c2
  have HS := Lib.hid hS1
  have HG3 := Lib.hid (fun (e : Later w1) => HG.out e.1 o1 (hS1.below e.2))
  go_upto_region 4 with fail
  refine wp_region_later (by kernel_rfl) (by kernel_rfl) ?_
  repeat (go_big_quiet_step ((go_at_call 59; exact later_of (HG3.out _))))
  refine wpQuiet_nil ?_
  rintro _ ⟨⟨wt, hbt⟩, rfl⟩
  go_wp2_with fail
  go_ret2
  exact ⟨rfl, o1, HS.out.below hbt, hs1.trans (Stp.of_below hbt)⟩
theorem eg_field1_num (args : Array Value) (w : World) : (callFunc 110 args).run Tryz.prog w = .ok (.enter 110 args) w := enters_of Tryz.func110 (by kernel_rfl) rfl args w
set_option maxRecDepth 100000 in
theorem field_num (h0 : StIn w o y S) (hk : S.ok) (hx : S.txs[i]? = some x) (hl : x.live = true) {p : Nat} {ob : Ob} (hp : lk S.H.cur p = some ob) (hs : SecOk ob.second) (hc : clashB i x.start ob.second = false) (hp0 : p ≠ 0)
    (he : fieldsE (noteB x.log.reads p x.log.mr) ob.freed ob.shp.weak = 0) (j : Nat) (v : Int)
    (hg : ∀ w' o', StIn w' o' y { S with txs := S.txs.set i (x.read p) } → Calls Tryz.prog 48 #[ptr y.l.h, .int .i64 p, .int .i64 j] w' fun e w'' => e = .returned (.tuple #[.int .i64 v, .int .i64 0]) ∧ Below w'.heap.size w' w'') :
    Calls Tryz.prog 58 #[ptr y.sb, .int .i64 i, .int .i64 p, .int .i64 j, .func (.func 48) #[] #[]] w fun e w' => e = .returned (.tuple #[.int .i64 v, .int .i64 0]) ∧ ∃ o', StIn w' o' y { S with txs := S.txs.set i (x.read p) } ∧ Stp (txTag y i) o o' w w' := by
  have hmf : ∀ (fn : Fn) (first cap : Array Value) (w : World), (Instr.makeFunc fn first cap).run Tryz.prog w = .ok (.func fn first cap) w := fun _ _ _ _ => rfl
  obtain ⟨o1, ho1⟩ : ∃ o1, o1 = ext o w.heap.size (y.l.id + 1, 0) := ⟨_, rfl⟩
  have h := h0.retag (o' := o1) fun b hb => by rw [ho1]; exact ext_lt hb
  have hS0 : Stp (txTag y i) o o1 w w := by rw [ho1]; exact (Stp.refl _ o w).ext _ _ (Nat.le_refl _)
  have hbx : ∀ b, w.heap.size ≤ b → o1 b = (y.l.id + 1, 0) := fun b hb => by rw [ho1]; exact ext_ge hb
  clear ho1 h0
  obtain ⟨W, hW⟩ : ∃ W : World, W = (((w.alloc (.cells #[ptr y.sb] 23)).alloc (.cells #[.int .i64 p] 3)).alloc (.cells #[.int .i64 j] 3)).alloc (.cells #[.func (.func 48) #[] #[]] 111) := ⟨_, rfl⟩
  have hbW : Below w.heap.size w W := by rw [hW]; exact balloc (balloc (balloc (balloc (bsame w) _) _) _) _
  have j1 : Blk W w.heap.size #[ptr y.sb] 23 := by rw [hW]; exact (((Blk.new w _ _).alloc _).alloc _).alloc _
  have j2 : Blk W (w.heap.size + 1) #[.int .i64 p] 3 := by rw [hW]; exact ((Blk.new_at _ _ _ _ _ (by simp) rfl).alloc _).alloc _
  have j4 : Blk W (w.heap.size + 1 + 1) #[.int .i64 j] 3 := by rw [hW]; exact (Blk.new_at _ _ _ _ _ (by simp) rfl).alloc _
  have j3 : Blk W (w.heap.size + 1 + 1 + 1) #[.func (.func 48) #[] #[]] 111 := by rw [hW]; exact Blk.new_at _ _ _ _ _ (by simp) rfl
  have HD := Lib.hid (deed_ok 110 [ptr w.heap.size, ptr (w.heap.size + 1), ptr (w.heap.size + 1 + 1 + 1), ptr (w.heap.size + 1 + 1)] (h.below hbW) hk hx hl eg_field1_num (txTag y i) (txTag_box y i) { S with txs := S.txs.set i (x.read p) } v
    (fun w1 o2 hb he2 hS => field1_num hS hk hx hp hs hc hp0 he j v 0 hg (j1.below hb j1.lt) (j2.below hb j2.lt) (j3.below hb j3.lt) (j4.below hb j4.lt)
      ((he2 _ j1.lt).trans (hbx _ (by omega))) ((he2 _ j2.lt).trans (hbx _ (by omega))) ((he2 _ j3.lt).trans (hbx _ (by omega))) ((he2 _ j4.lt).trans (hbx _ (by omega)))))
  have HS := Lib.hid (hS0.trans (Stp.of_below hbW))
  clear h hk hx hl hp hs hc hp0 he hg hbx hS0 hbW j1 j2 j3 j4
  go_enter Tryz.func58, Tryz.ntmps58
  go_wp2_with fail
  rw [← hW]
  refine HD.out.mono ?_
  rintro e w2 ⟨rfl, o2, hS2, hs2⟩
  go_wp2_with fail
  go_ret2
  exact ⟨rfl, o2, hS2, HS.out.trans hs2⟩
theorem eg_field1_ptr (args : Array Value) (w : World) : (callFunc 110 args).run Tryz.prog w = .ok (.enter 110 args) w := enters_of Tryz.func110 (by kernel_rfl) rfl args w
set_option maxRecDepth 100000 in
theorem field_ptr (h0 : StIn w o y S) (hk : S.ok) (hx : S.txs[i]? = some x) (hl : x.live = true) {p : Nat} {ob : Ob} (hp : lk S.H.cur p = some ob) (hs : SecOk ob.second) (hc : clashB i x.start ob.second = false) (hp0 : p ≠ 0)
    (he : fieldsE (noteB x.log.reads p x.log.mr) ob.freed ob.shp.weak = 0) (j : Nat) (v : Int)
    (hg : ∀ w' o', StIn w' o' y { S with txs := S.txs.set i (x.read p) } → Calls Tryz.prog 59 #[ptr y.l.h, .int .i64 p, .int .i64 j] w' fun e w'' => e = .returned (.tuple #[.int .i64 v, .int .i64 0]) ∧ Below w'.heap.size w' w'') :
    Calls Tryz.prog 58 #[ptr y.sb, .int .i64 i, .int .i64 p, .int .i64 j, .func (.func 59) #[] #[]] w fun e w' => e = .returned (.tuple #[.int .i64 v, .int .i64 0]) ∧ ∃ o', StIn w' o' y { S with txs := S.txs.set i (x.read p) } ∧ Stp (txTag y i) o o' w w' := by
  have hmf : ∀ (fn : Fn) (first cap : Array Value) (w : World), (Instr.makeFunc fn first cap).run Tryz.prog w = .ok (.func fn first cap) w := fun _ _ _ _ => rfl
  obtain ⟨o1, ho1⟩ : ∃ o1, o1 = ext o w.heap.size (y.l.id + 1, 0) := ⟨_, rfl⟩
  have h := h0.retag (o' := o1) fun b hb => by rw [ho1]; exact ext_lt hb
  have hS0 : Stp (txTag y i) o o1 w w := by rw [ho1]; exact (Stp.refl _ o w).ext _ _ (Nat.le_refl _)
  have hbx : ∀ b, w.heap.size ≤ b → o1 b = (y.l.id + 1, 0) := fun b hb => by rw [ho1]; exact ext_ge hb
  clear ho1 h0
  obtain ⟨W, hW⟩ : ∃ W : World, W = (((w.alloc (.cells #[ptr y.sb] 23)).alloc (.cells #[.int .i64 p] 3)).alloc (.cells #[.int .i64 j] 3)).alloc (.cells #[.func (.func 59) #[] #[]] 111) := ⟨_, rfl⟩
  have hbW : Below w.heap.size w W := by rw [hW]; exact balloc (balloc (balloc (balloc (bsame w) _) _) _) _
  have j1 : Blk W w.heap.size #[ptr y.sb] 23 := by rw [hW]; exact (((Blk.new w _ _).alloc _).alloc _).alloc _
  have j2 : Blk W (w.heap.size + 1) #[.int .i64 p] 3 := by rw [hW]; exact ((Blk.new_at _ _ _ _ _ (by simp) rfl).alloc _).alloc _
  have j4 : Blk W (w.heap.size + 1 + 1) #[.int .i64 j] 3 := by rw [hW]; exact (Blk.new_at _ _ _ _ _ (by simp) rfl).alloc _
  have j3 : Blk W (w.heap.size + 1 + 1 + 1) #[.func (.func 59) #[] #[]] 111 := by rw [hW]; exact Blk.new_at _ _ _ _ _ (by simp) rfl
  have HD := Lib.hid (deed_ok 110 [ptr w.heap.size, ptr (w.heap.size + 1), ptr (w.heap.size + 1 + 1 + 1), ptr (w.heap.size + 1 + 1)] (h.below hbW) hk hx hl eg_field1_ptr (txTag y i) (txTag_box y i) { S with txs := S.txs.set i (x.read p) } v
    (fun w1 o2 hb he2 hS => field1_ptr hS hk hx hp hs hc hp0 he j v 0 hg (j1.below hb j1.lt) (j2.below hb j2.lt) (j3.below hb j3.lt) (j4.below hb j4.lt)
      ((he2 _ j1.lt).trans (hbx _ (by omega))) ((he2 _ j2.lt).trans (hbx _ (by omega))) ((he2 _ j3.lt).trans (hbx _ (by omega))) ((he2 _ j4.lt).trans (hbx _ (by omega)))))
  have HS := Lib.hid (hS0.trans (Stp.of_below hbW))
  clear h hk hx hl hp hs hc hp0 he hg hbx hS0 hbW j1 j2 j3 j4
  go_enter Tryz.func58, Tryz.ntmps58
  go_wp2_with fail
  rw [← hW]
  refine HD.out.mono ?_
  rintro e w2 ⟨rfl, o2, hS2, hs2⟩
  go_wp2_with fail
  go_ret2
  exact ⟨rfl, o2, hS2, HS.out.trans hs2⟩
/-- Read: a number told. -/
theorem sread_in (h : StIn w o y S) (hk : S.ok) (hx : S.txs[i]? = some x) (hl : x.live = true) {p : Nat} {ob : Ob} (hp : lk S.H.cur p = some ob) (hs : SecOk ob.second) (hc : clashB i x.start ob.second = false) (hp0 : p ≠ 0)
    (he : fieldsE (noteB x.log.reads p x.log.mr) ob.freed ob.shp.weak = 0) (j : Nat) (v : Int) (hv : ob.nums[j]? = some v) :
    Calls Tryz.prog 19 #[ptr y.sb, .int .i64 i, .int .i64 p, .int .i64 j] w fun e w' => e = .returned (.tuple #[.int .i64 v, .int .i64 0]) ∧ ∃ o', StIn w' o' y { S with txs := S.txs.set i (x.read p) } ∧ Stp (txTag y i) o o' w w' := by
  have HF := Lib.hid (field_num h hk hx hl hp hs hc hp0 he j v fun w' o' hS => by
    obtain ⟨vc, vo, vw, vf, f, hh⟩ := hS.hp
    exact hnum_in hh hk.F.ok hp j v hv)
  clear h hk hx hl hp hs hc hp0 he hv
  go_enter Tryz.func19, Tryz.ntmps19
  go_wp2_with fail
  refine HF.out.mono ?_
  rintro e w2 ⟨rfl, o2, hS2, hs2⟩
  go_wp2_with fail
  go_ret2
  exact ⟨rfl, o2, hS2, hs2⟩
/-- Get: a pointer told. -/
theorem sget_in (h : StIn w o y S) (hk : S.ok) (hx : S.txs[i]? = some x) (hl : x.live = true) {p : Nat} {ob : Ob} (hp : lk S.H.cur p = some ob) (hs : SecOk ob.second) (hc : clashB i x.start ob.second = false) (hp0 : p ≠ 0)
    (he : fieldsE (noteB x.log.reads p x.log.mr) ob.freed ob.shp.weak = 0) (j : Nat) (v : Nat) (hv : ob.ptrs[j]? = some v) :
    Calls Tryz.prog 20 #[ptr y.sb, .int .i64 i, .int .i64 p, .int .i64 j] w fun e w' => e = .returned (.tuple #[.int .i64 v, .int .i64 0]) ∧ ∃ o', StIn w' o' y { S with txs := S.txs.set i (x.read p) } ∧ Stp (txTag y i) o o' w w' := by
  have HF := Lib.hid (field_ptr h hk hx hl hp hs hc hp0 he j v fun w' o' hS => by
    obtain ⟨vc, vo, vw, vf, f, hh⟩ := hS.hp
    exact hptr_in hh hk.F.ok hk.F.mov hp j v hv)
  clear h hk hx hl hp hs hc hp0 he hv
  go_enter Tryz.func20, Tryz.ntmps20
  go_wp2_with fail
  refine HF.out.mono ?_
  rintro e w2 ⟨rfl, o2, hS2, hs2⟩
  go_wp2_with fail
  go_ret2
  exact ⟨rfl, o2, hS2, hs2⟩
end
end Go.Proofs.YtemohiainfllcaaGreat
