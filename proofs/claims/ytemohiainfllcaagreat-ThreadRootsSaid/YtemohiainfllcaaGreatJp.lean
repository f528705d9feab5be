/- Walks: a transaction looks at an object. -/
import Derived.Test.YtemohiainfllcaaGreatJo
namespace Go.Proofs.YtemohiainfllcaaGreat
open Go.RowKit Hp
attribute [local go_sem ↓] Go.wp_at_zero Go.wp_at_succ
section
variable {w w' : World} {o o' : Own} {y : SLay} {S : Stt} {x : Tx} {i : Nat}
def Tx.read (x : Tx) (p : Nat) : Tx := { x with log := { x.log with reads := noteL x.log.reads p x.log.mr } }
def txTag (y : SLay) (i : Nat) (t : Tag) : Prop := t.1 = y.l.id ∧ 16 + 8 * i ≤ t.2 ∧ t.2 ≤ 23 + 8 * i
def lookV (ok fr : Bool) (s : Shp) : Value := .tuple #[if ok && !fr then shpV s else shpV ⟨0, 0, false, false⟩, .int .i64 (if ok then (if fr then 142 else 0) else 130)]
theorem StIn.box (h : StIn w o y S) {a : Addr} (ht : o a.block = (y.l.id + 1, 0)) (v : Value) : StIn (w.setCell a v) o y S :=
  h.stp (T := fun t => t = (y.l.id + 1, 0)) ((Stp.refl _ o w).setCell ht v) fun j => by simp
theorem look_nil (w : World) (a b : Value) :
    Calls Tryz.prog 61 #[a, b, .int .i64 0] w fun e w' => e = .returned (.tuple #[shpV ⟨0, 0, false, false⟩, .int .i64 143]) ∧ Below w.heap.size w w' := by
  go_enter Tryz.func61, Tryz.ntmps61
  go_wp2_with fail
  refine bodyPost_ret (v := .tuple #[shpV ⟨0, 0, false, false⟩, .int .i64 143]) (by simp [results, Tryz.results61, go_sem]) rfl ⟨rfl, ?_⟩
  repeat (first | exact balloc (bsame w) _ | refine bset ?_ (Nat.le_refl _) _)
theorem look_clash (h : StIn w o y S) (hk : S.ok) (hx : S.txs[i]? = some x) {p : Nat} {ob : Ob} (hp : lk S.H.cur p = some ob) (hs : SecOk ob.second) (hc : clashB i x.start ob.second = true) (h0 : p ≠ 0) :
    Calls Tryz.prog 61 #[ptr y.sb, ptr (y.xb i), .int .i64 p] w fun e w' => e = .returned (.tuple #[shpV ⟨0, 0, false, false⟩, .int .i64 141]) ∧ Below w.heap.size w w' := by
  obtain ⟨vc, vo, vw, vf, f, hh⟩ := h.hp
  have HS := Lib.hid (fun w' (hw : Below w.heap.size w w') => hshape_in (hh.below hw) hk.F.ok hp)
  have HC := Lib.hid (fun w' (hw : Below w.heap.size w w') => clash_in (h.below hw) hk hx hp hs)
  rw [hc] at HC
  have jb := h.blk
  unfold stCells at jb
  have c := jb.cell
  have sb := jb.lt
  clear h hk hh hp hx hs hc
  obtain ⟨⟨sp, sd, wk, fn⟩, fr, se, sr, ps, ns⟩ := ob
  simp only at HS
  go_enter Tryz.func61, Tryz.ntmps61
  go_wp2_with fail
  refine (HS.out _ (balloc (bsame w) _)).mono ?_
  rintro e w1 ⟨rfl, hb1⟩
  have jR := (Blk.new w #[.int .i64 0, .int .i64 0, .bool false, .bool false] 80).below hb1 (by simp)
  have hw1 := btrans (balloc (bsame w) _) hb1
  clear hb1
  go_wp2_with fail
  refine (HC.out _ (balloc hw1 _)).mono ?_
  rintro e w2 ⟨rfl, hb2⟩
  have jR2 := (jR.alloc (.cells #[.int .i64 sp, .int .i64 sd, .bool wk, .bool fn] 80)).below hb2 (jR.alloc _).lt
  have hw2 := btrans (balloc hw1 _) hb2
  clear hb2 jR c
  have cR := jR2.cell
  have zR := jR2.free
  have sR := jR2.lt
  go_wp2_with fail
  refine bodyPost_ret (v := .tuple #[shpV ⟨0, 0, false, false⟩, .int .i64 141]) (by simp [results, Tryz.results61, go_sem, cR]) rfl ⟨rfl, ?_⟩
  repeat (first | exact hw2 | refine bset ?_ (Nat.le_refl _) _)
set_option maxHeartbeats 2000000 in
theorem look_in (h0 : StIn w o y S) (hk : S.ok) (hx : S.txs[i]? = some x) {p : Nat} {ob : Ob} (hp : lk S.H.cur p = some ob) (hs : SecOk ob.second) (hc : clashB i x.start ob.second = false) (hp0 : p ≠ 0) :
    Calls Tryz.prog 61 #[ptr y.sb, ptr (y.xb i), .int .i64 p] w fun e w' => e = .returned (lookV (noteB x.log.reads p x.log.mr) ob.freed ob.shp) ∧
      ∃ o', StIn w' o' y { S with txs := S.txs.set i (x.read p) } ∧ Stp (txTag y i) o o' w w' := by
  obtain ⟨o1, ho1⟩ : ∃ o1, o1 = ext o w.heap.size (y.l.id + 1, 0) := ⟨_, rfl⟩
  have h := h0.retag (o' := o1) fun b hb => by rw [ho1]; exact ext_lt hb
  have hS0 : Stp (txTag y i) o o1 w w := by rw [ho1]; exact (Stp.refl _ o w).ext _ _ (Nat.le_refl _)
  have hbx : ∀ b, w.heap.size ≤ b → o1 b = (y.l.id + 1, 0) := fun b hb => by rw [ho1]; exact ext_ge hb
  clear ho1 h0
  obtain ⟨vc, vo, vw, vf, f, hh⟩ := h.hp
  have HS := Lib.hid (fun w' (hw : Below w.heap.size w w') => hshape_in (hh.below hw) hk.F.ok hp)
  have HC := Lib.hid (fun w' (hw : Below w.heap.size w w') => clash_in (h.below hw) hk hx hp hs)
  rw [hc] at HC
  obtain ⟨vr, vk, vh, vu, hl⟩ := (h.txs i x hx).log
  have HL := Lib.hid (fun w' (hw : Below w.heap.size w w') => log_read (hl.below hw) (hk.lg x (List.mem_of_getElem? hx)) p)
  have HI := Lib.hid h
  have HX := Lib.hid (h.txs i x hx)
  have jx := (h.txs i x hx).blk
  have jb := h.blk
  unfold stCells at jb
  have c := jb.cell
  have sb := jb.lt
  unfold lookV Tx.read
  generalize noteB x.log.reads p x.log.mr = nb at *
  generalize noteL x.log.reads p x.log.mr = nl at *
  clear h hk hh hp hx hs hc hl
  obtain ⟨⟨sp, sd, wk, fn⟩, fr, se, sr, ps, ns⟩ := ob
  simp only at HS
  go_enter Tryz.func61, Tryz.ntmps61
  go_wp2_with fail
  refine (HS.out _ (balloc (bsame w) _)).mono ?_
  rintro e w1 ⟨rfl, hb1⟩
  have jR := (Blk.new w #[.int .i64 0, .int .i64 0, .bool false, .bool false] 80).below hb1 (by simp)
  have hw1 := btrans (balloc (bsame w) (.cells #[.int .i64 0, .int .i64 0, .bool false, .bool false] 80)) hb1
  have hz1 : w.heap.size < w1.heap.size := jR.lt
  clear hb1
  go_wp2_with fail
  refine (HC.out _ (balloc hw1 _)).mono ?_
  rintro e w2 ⟨rfl, hb2⟩
  have jR2 := (jR.alloc (.cells #[.int .i64 sp, .int .i64 sd, .bool wk, .bool fn] 80)).below hb2 (jR.alloc _).lt
  have jS2 := (Blk.new w1 #[.int .i64 sp, .int .i64 sd, .bool wk, .bool fn] 80).below hb2 (by simp)
  have hw2 := btrans (balloc hw1 (.cells #[.int .i64 sp, .int .i64 sd, .bool wk, .bool fn] 80)) hb2
  clear hb2 jR c
  have cx := (jx.below hw2 jx.lt).cell
  go_wp2_with fail
  refine (HL.out _ hw2).mono ?_
  rintro e w3 ⟨rfl, vr', o3, hl3, hs3⟩
  have jR3 := jR2.stp hs3 (by rw [hbx _ (Nat.le_refl _)]; simp)
  have t3 : o3 w.heap.size = (y.l.id + 1, 0) := (hs3.tags _ jR2.lt).trans (hbx _ (Nat.le_refl _))
  have jS3 := jS2.stp hs3 (by rw [hbx _ (by omega)]; simp)
  have hst : Stp (txTag y i) o1 o3 w w3 := (Stp.of_below hw2).trans (hs3.mono (by rintro _ (rfl | rfl) <;> exact ⟨rfl, by simp <;> omega, by simp <;> omega⟩))
  have hst2 : StIn w3 o3 y { S with txs := S.txs.set i { x with log := { x.log with reads := nl } } } :=
    HI.out.tx ⟨(jx.below hw2 jx.lt).stp hs3 (by rw [HX.out.ob]; simp; omega), ⟨_, _, _, _, hl3⟩, (hst.tags _ HX.out.blk.lt).trans HX.out.ob⟩ hst
  have b3 : w.heap.size ≤ w3.heap.size := Nat.le_trans hw2.size hs3.size
  clear cx jR2 jS2 hl3 hs3
  have cR := jR3.cell
  have zR := jR3.free
  have sR := jR3.lt
  have cS := jS3.cell
  have sS := jS3.lt
  have H2 := Lib.hid hst2
  have H3 := Lib.hid (hS0.trans hst)
  clear hst2 hst hS0
  cases nb
  · go_wp2_with fail
    refine bodyPost_ret (v := .tuple #[shpV ⟨0, 0, false, false⟩, .int .i64 130]) (by simp [results, Tryz.results61, go_sem, cR]) rfl ⟨by cases fr <;> rfl, o3, ?_, ?_⟩
    · repeat (first | exact H2.out | refine StIn.box ?_ t3 _)
    · repeat (first | exact H3.out | refine Stp.setCell_new ?_ (Nat.le_refl _) _)
  · cases fr
    · go_wp2_with fail
      refine bodyPost_ret (v := .tuple #[shpV ⟨sp, sd, wk, fn⟩, .int .i64 0]) (by simp [results, Tryz.results61, go_sem, cR]) rfl ⟨rfl, o3, ?_, ?_⟩
      · repeat (first | exact H2.out | refine StIn.box ?_ t3 _)
      · repeat (first | exact H3.out | refine Stp.setCell_new ?_ (Nat.le_refl _) _)
    · go_wp2_with fail
      refine bodyPost_ret (v := .tuple #[shpV ⟨0, 0, false, false⟩, .int .i64 142]) (by simp [results, Tryz.results61, go_sem, cR]) rfl ⟨rfl, o3, ?_, ?_⟩
      · repeat (first | exact H2.out | refine StIn.box ?_ t3 _)
      · repeat (first | exact H3.out | refine Stp.setCell_new ?_ (Nat.le_refl _) _)
end
end Go.Proofs.YtemohiainfllcaaGreat
