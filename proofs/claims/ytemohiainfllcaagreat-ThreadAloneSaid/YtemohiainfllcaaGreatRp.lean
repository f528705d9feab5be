/- A store's public Weak. -/
import Derived.Test.YtemohiainfllcaaGreatRn
import Derived.Laws.IdiomCopy
import Derived.Laws.MakeOwn
namespace Go.Proofs.YtemohiainfllcaaGreat
open Go.RowKit Hp
attribute [local go_sem ↓] Go.wp_at_zero Go.wp_at_succ
def Shp.wk : Shp := ⟨1, 0, true, false⟩
theorem Shp.wk_ok : Shp.wk.ok := ⟨by decide, by decide, fun _ => ⟨rfl, rfl, rfl⟩⟩
/-- A new weak object. -/
def Stt.wkOb (S : Stt) (i q : Nat) : Ob := ((Ob.new Shp.wk (S.H.serial + 1)).setSecond (2 * i + 1)).setPtr 0 q
def Stt.weakR (S : Stt) (i : Nat) (x : Tx) (q : Nat) : Res :=
  if q = 0 then ⟨S, 0, 143⟩ else if S.roomFor Shp.wk then ⟨(S.laid i x Shp.wk).at' S.H.top (S.wkOb i q), S.H.top, 0⟩ else ⟨S, 0, 100⟩
section
variable {w w' : World} {o o' : Own} {y : SLay} {S : Stt} {x : Tx} {i : Nat}
theorem eg_weak1 (args : Array Value) (w : World) : (callFunc 176 args).run Tryz.prog w = .ok (.enter 176 args) w := enters_of Tryz.func176 (by kernel_rfl) rfl args w
theorem laid_plc (hk : S.ok) (s : Shp) {q : Nat} (hq : Plc S q) : Plc (S.laid i x s) q := by
  refine hq.imp id fun h => ?_
  rw [lk_laid hk]; split
  · rfl
  · exact h
theorem weak_set (h : StIn w o y (S.laid i x Shp.wk)) (hk : (S.laid i x Shp.wk).ok) (hk0 : S.ok) {q : Nat} (hq : Plc S q) :
    Calls Tryz.prog 97 #[ptr y.l.h, .int .i64 S.H.top, .int .i64 0, .int .i64 q] w fun e w' => e = .returned (.int .i64 0) ∧ StIn w' o y ((S.laid i x Shp.wk).at' S.H.top (S.wkOb i q)) ∧ Stp (opTag y i) o o w w' := by
  refine (setptr_st h hk (ob := (Ob.new Shp.wk (S.H.serial + 1)).setSecond (2 * i + 1)) (by rw [lk_laid hk0, if_pos rfl]) 0 q (show 0 < 1 from Nat.one_pos) (laid_plc hk0 Shp.wk hq)).mono ?_
  rintro e w' ⟨rfl, h1, h2⟩
  exact ⟨rfl, h1, h2.mono fun _ => opTag_hp⟩
set_option maxRecDepth 100000 in
set_option maxHeartbeats 2000000 in
theorem weak1_any (q : Nat) (h : StIn w o y S) (hI : Inv S) (hP : Pre S i x) (hq : Plc S q) (hser : S.H.serial < 1099511627776)
    {b1 b2 : Nat} (j1 : Blk w b1 #[.int .i64 q] 3) (j2 : Blk w b2 #[ptr y.sb] 23) (t1 : o b1 = (y.l.id + 1, 0)) (t2 : o b2 = (y.l.id + 1, 0)) :
    Calls Tryz.prog 176 #[ptr (y.xb i), ptr b1, ptr b2] w fun e w' => e = .returned (.tuple #[.int .i64 (S.weakR i x q).v, .int .i64 (S.weakR i x q).e]) ∧ ∃ o', StIn w' o' y (S.weakR i x q).S ∧ Stp (opTag y i) o o' w w' := by
  by_cases h0 : q = 0
  · subst h0
    have e1 : S.weakR i x 0 = ⟨S, 0, 143⟩ := by unfold Stt.weakR; rw [if_pos rfl]
    rw [e1]
    have c1 := j1.cell
    have hfin := Lib.hid (fun W (hW : Below w.heap.size w W) => show ∃ o', StIn W o' y S ∧ Stp (opTag y i) o o' w W from ⟨o, h.below hW, Stp.of_below hW⟩)
    clear h hI hP hq hser j1 j2 e1
    go_enter Tryz.func176, Tryz.ntmps176
    go_wp2_with fail
    go_ret2
    exact ⟨rfl, hfin.out _ (bsame w)⟩
  · have hqb : ((q : Int) == 0) = false := by rw [beq_eq_false_iff_ne]; omega
    have jb := h.blk
    unfold stCells at jb
    have HH := Lib.hid (fun (e : Later w) => by
      obtain ⟨ob, hob⟩ := Option.isSome_iff_exists.1 (hq.resolve_left h0)
      obtain ⟨vc, vo, vw, vf, f, hh⟩ := (h.below e.2).hp
      exact here_yes hh hI.ok.F.ok hob)
    have ht1 : ¬ opTag y i (o b1) := by rw [t1]; exact opTag_box y i
    have ht2 : ¬ opTag y i (o b2) := by rw [t2]; exact opTag_box y i
    have hkl : S.roomFor Shp.wk → (S.laid i x Shp.wk).ok := fun hr => (hI.laid hP Shp.wk Shp.wk_ok hr hser).ok
    by_cases hr : S.roomFor Shp.wk
    · have e1 : S.weakR i x q = ⟨(S.laid i x Shp.wk).at' S.H.top (S.wkOb i q), S.H.top, 0⟩ := by unfold Stt.weakR; rw [if_neg h0, if_pos hr]
      rw [e1]
      have HL := Lib.hid (fun W (hW : Below w.heap.size w W) => show Calls Tryz.prog 95 #[ptr y.sb, ptr (y.xb i), .agg #[.int .i64 1, .int .i64 0, .bool true, .bool false]] W fun e w' => e = .returned (.tuple #[.int .i64 S.H.top, .int .i64 0]) ∧ ∃ o', StIn w' o' y (S.laid i x Shp.wk) ∧ Stp (opTag y i) o o' W w' from lay_in (h.below hW) hI.ok hP.hx Shp.wk Shp.wk_ok hr hser (top_not_held hI hP.hx) hP.r3)
      have HS := Lib.hid (fun W o2 (h2 : StIn W o2 y (S.laid i x Shp.wk)) => weak_set h2 (hkl hr) hI.ok hq)
      have HSB := Lib.hid (fun W o2 (h2 : StIn W o2 y (S.laid i x Shp.wk)) => h2.blk)
      generalize S.H.top = tp at *
      obtain ⟨S2, hS2⟩ : ∃ S2, S2 = S.laid i x Shp.wk := ⟨_, rfl⟩
      rw [← hS2] at HS HSB HL ⊢
      generalize S2.at' tp (S.wkOb i q) = S3 at *
      have l1 := fun (e : Later w) (i : Nat) => Later.cell j1 e i
      have l2 := fun (e : Later w) (i : Nat) => Later.cell j2 e i
      have l5 := fun (e : Later w) (i : Nat) => Later.cell jb e i
      have c1 := j1.cell
      clear h hI hP hq hser hr hkl e1 h0 hS2
      go_enter Tryz.func176, Tryz.ntmps176
      go_upto_region 3 with fail
      refine wp_region_later (by kernel_rfl) (by kernel_rfl) ?_
      repeat (go_big_quiet_step ((go_at_call 81; exact later_of (HH.out _))))
      refine wpQuiet_nil ?_
      intro w8 hW0
      obtain ⟨⟨W0, hb0⟩, hwt⟩ := hW0
      have hwt : w8 = W0 := hwt
      subst hwt
      clear l1 l2 l5 c1
      have c2 := (j2.below hb0 j2.lt).cell
      go_wp2_with fail
      refine (HL.out _ hb0).mono ?_
      rintro e w2 ⟨rfl, o2, hS2, hs2⟩
      have hst := (Stp.of_below (T := opTag y i) (o := o) hb0).trans hs2
      have k1 := j1.stp hst ht1
      have k2 := j2.stp hst ht2
      have kb := HSB.out _ _ hS2
      unfold stCells at kb
      clear c2
      have c1 := k1.cell
      have c2 := k2.cell
      have cb := kb.cell
      have HS2 := Lib.hid (HS.out _ _ (hS2.below (bdrew (bsame w2))))
      go_upto_region 8 with fail
      go_still_tail 6, (by kernel_rfl)
      change wpList _ _ _ _ _ w2.drew
      go_wp2_with fail
      refine HS2.out.mono ?_
      rintro e w3 ⟨rfl, hS3, hs3⟩
      go_wp2_with fail
      go_ret2
      exact ⟨rfl, o2, hS3, (hst.trans (Stp.of_below (bdrew (bsame w2)))).trans hs3⟩
    · have e1 : S.weakR i x q = ⟨S, 0, 100⟩ := by unfold Stt.weakR; rw [if_neg h0, if_neg hr]
      rw [e1]
      have hr' : 1 + S.H.size < S.H.top + rnd (3 + Shp.wk.p + Shp.wk.d) := by unfold Stt.roomFor at hr; omega
      have HL := Lib.hid (fun W (hW : Below w.heap.size w W) => show Calls Tryz.prog 95 #[ptr y.sb, ptr (y.xb i), .agg #[.int .i64 1, .int .i64 0, .bool true, .bool false]] W fun e w' => e = .returned (.tuple #[.int .i64 0, .int .i64 100]) ∧ Below W.heap.size W w' from lay_no (h.below hW) hI.ok Shp.wk Shp.wk_ok hr' (ptr (y.xb i)))
      have hfin := Lib.hid (fun W (hW : Below w.heap.size w W) => show ∃ o', StIn W o' y S ∧ Stp (opTag y i) o o' w W from ⟨o, h.below hW, Stp.of_below hW⟩)
      have l1 := fun (e : Later w) (i : Nat) => Later.cell j1 e i
      have l2 := fun (e : Later w) (i : Nat) => Later.cell j2 e i
      have l5 := fun (e : Later w) (i : Nat) => Later.cell jb e i
      have c1 := j1.cell
      clear h hI hP hq hser hr hr' hkl e1 h0
      go_enter Tryz.func176, Tryz.ntmps176
      go_upto_region 3 with fail
      refine wp_region_later (by kernel_rfl) (by kernel_rfl) ?_
      repeat (go_big_quiet_step ((go_at_call 81; exact later_of (HH.out _))))
      refine wpQuiet_nil ?_
      intro w8 hW0
      obtain ⟨⟨W0, hb0⟩, hwt⟩ := hW0
      have hwt : w8 = W0 := hwt
      subst hwt
      clear l1 l2 l5 c1
      have c2 := (j2.below hb0 j2.lt).cell
      go_wp2_with fail
      refine (HL.out _ hb0).mono ?_
      rintro e w2 ⟨rfl, hb2⟩
      go_wp2_with fail
      go_ret2
      exact ⟨rfl, hfin.out _ (btrans hb0 hb2)⟩
theorem weakR_ab (hP : Pre S i x) (q : Nat) (ha : isAb (S.weakR i x q).e = true) : AbOk (S.weakR i x q).S i := by
  unfold Stt.weakR at ha ⊢
  split
  · exact hP.ab
  · rename_i h0
    rw [if_neg h0] at ha
    split
    · rename_i h1
      rw [if_pos h1] at ha
      simp [isAb] at ha
    · exact hP.ab
theorem sweak_any (h0 : StIn w o y S) (hI : Inv S) (hP : Pre S i x) {q : Nat} (hq : Plc S q) (hser : S.H.serial < 1099511627776) :
    Calls Tryz.prog 134 #[ptr y.sb, .int .i64 i, .int .i64 q] w fun e w' => e = .returned (.tuple #[.int .i64 ((S.weakR i x q).fin i).v, .int .i64 ((S.weakR i x q).fin i).e]) ∧ ∃ o', StIn w' o' y ((S.weakR i x q).fin i).S ∧ Stp (stTag y) o o' w w' := by
  have hmf : ∀ (fn : Fn) (first cap : Array Value) (w : World), (Instr.makeFunc fn first cap).run Tryz.prog w = .ok (.func fn first cap) w := fun _ _ _ _ => rfl
  obtain ⟨o1, ho1⟩ : ∃ o1, o1 = ext o w.heap.size (y.l.id + 1, 0) := ⟨_, rfl⟩
  have h := h0.retag (o' := o1) fun b hb => by rw [ho1]; exact ext_lt hb
  have hS0 : Stp (stTag y) o o1 w w := by rw [ho1]; exact (Stp.refl _ o w).ext _ _ (Nat.le_refl _)
  have hbx : ∀ b, w.heap.size ≤ b → o1 b = (y.l.id + 1, 0) := fun b hb => by rw [ho1]; exact ext_ge hb
  clear ho1 h0
  obtain ⟨W, hW⟩ : ∃ W : World, W = (w.alloc (.cells #[ptr y.sb] 23)).alloc (.cells #[.int .i64 q] 3) := ⟨_, rfl⟩
  have hbW : Below w.heap.size w W := by rw [hW]; exact balloc (balloc (bsame w) _) _
  have j1 : Blk W w.heap.size #[ptr y.sb] 23 := by rw [hW]; exact (Blk.new w _ _).alloc _
  have j2 : Blk W (w.heap.size + 1) #[.int .i64 q] 3 := by rw [hW]; exact Blk.new_at _ _ _ _ _ (by simp) rfl
  have HD := Lib.hid (deed_any 176 [ptr (w.heap.size + 1), ptr w.heap.size] (h.below hbW) hP.ok hP.hx hP.live eg_weak1 (S.weakR i x q) (weakR_ab hP q)
    (fun w1 o2 hb he2 hS => by
      have a1 := j1.below hb j1.lt
      have a2 := j2.below hb j2.lt
      have tg : ∀ b, w.heap.size ≤ b → b < W.heap.size → o2 b = (y.l.id + 1, 0) := fun b hb1 hb2 => (he2 _ hb2).trans (hbx _ hb1)
      refine (weak1_any q hS hI hP hq hser a2 a1 (tg _ (by omega) j2.lt) (tg _ (Nat.le_refl _) j1.lt)).mono ?_
      rintro e w' ⟨rfl, o', h1, h2⟩
      exact ⟨rfl, o', h1, h2.mono fun _ => stTag_op⟩))
  have HS := Lib.hid (hS0.trans (Stp.of_below hbW))
  generalize Res.fin (S.weakR i x q) i = R at *
  clear h hbx hS0 hbW j1 j2 hP hq hI hser
  go_enter Tryz.func134, Tryz.ntmps134
  go_wp2_with fail
  rw [← hW]
  refine HD.out.mono ?_
  rintro e w2 ⟨rfl, o2, hS2, hs2⟩
  go_wp2_with fail
  go_ret2
  exact ⟨rfl, o2, hS2, HS.out.trans hs2⟩
/-- One object was turned, but not its shape, nor whose it is. -/
theorem Inv.at' (h : Inv S) {p : Nat} {ob ob' : Ob} (hob : lk S.H.cur p = some ob) (hok : ob'.ok) (hshp : ob'.shp = ob.shp) (hsec : ob'.second = ob.second) (hlo : ∀ q ∈ ob'.ptrs, Plc S q) : Inv (S.at' p ob') := by
  have hsm : SameK S.H.cur (up S.H.cur p ob') := SameK.up hob hshp
  have hlk : ∀ q, lk (S.at' p ob').H.cur q = if q = p then some ob' else lk S.H.cur q := fun q => by
    show lk (up S.H.cur p ob') q = _
    rw [lk_up, hob]; rfl
  have old : ∀ q oq, lk (S.at' p ob').H.cur q = some oq → ∃ oz, lk S.H.cur q = some oz ∧ oz.second = oq.second := fun q oq hq => by
    rw [hlk] at hq
    by_cases e : q = p
    · rw [if_pos e] at hq
      injection hq with hq
      exact ⟨ob, by rw [e]; exact hob, by rw [← hq, hsec]⟩
    · rw [if_neg e] at hq
      exact ⟨oq, hq, rfl⟩
  refine ⟨Stt.ok_at h.ok hob hok (size_of_shp hshp), fun q oq hq ho => ?_, fun q oq hq ho => ?_, fun j z hz => ?_, fun j z hz q hq => hsm.isSome (h.rd j z hz q hq), fun j z hz u hu => (h.un j z hz u hu).same hsm, h.idle, fun q oq hq r hr => ?_⟩
  · obtain ⟨oz, a1, a2⟩ := old q oq hq
    have := h.odd q oz a1 (by rw [a2]; exact ho)
    rw [a2] at this; exact this
  · obtain ⟨oz, a1, a2⟩ := old q oq hq
    have := h.even q oz a1 (by rw [a2]; exact ho)
    rw [a2] at this; exact this
  · intro zz hzz
    obtain ⟨a1, oz, a2, a3⟩ := h.hold j z hz zz hzz
    refine ⟨a1, ?_⟩
    rw [hlk]
    by_cases e : zz.1 = p
    · rw [e, hob] at a2
      injection a2 with a2
      exact ⟨ob', if_pos e, by rw [hsec, a2]; exact a3⟩
    · exact ⟨oz, by rw [if_neg e]; exact a2, a3⟩
  · rw [hlk] at hq
    by_cases e : q = p
    · rw [if_pos e] at hq
      injection hq with hq
      subst hq
      exact (hlo r hr).imp id hsm.isSome
    · rw [if_neg e] at hq
      exact (h.lo q oq hq r hr).imp id hsm.isSome
theorem wkOb_ok (hk : S.ok) (hser : S.H.serial < 1099511627776) (hi : i ≤ 8) {q : Nat} (hq : Plc S q) : (S.wkOb i q).ok :=
  Ob.setPtr_ok (Ob.setSecond_ok (Ob.new_ok Shp.wk_ok _ (by omega)) _ (by omega)) _ _ (ptr_bd hk.F.ok hq)
theorem Inv.weakR (h : Inv S) (hP : Pre S i x) {q : Nat} (hq : Plc S q) (hser : S.H.serial < 1099511627776) : Inv (S.weakR i x q).S := by
  unfold Stt.weakR
  split
  · exact h
  · split
    · rename_i hr
      have hl := h.laid hP Shp.wk Shp.wk_ok hr hser
      refine hl.at' (ob := (Ob.new Shp.wk (S.H.serial + 1)).setSecond (2 * i + 1)) (by rw [lk_laid h.ok, if_pos rfl]) (wkOb_ok h.ok hser hP.i8 hq) rfl rfl fun r hr => ?_
      rcases mem_set (show r ∈ (List.replicate 1 0).set 0 q from hr) with hr | rfl
      · exact .inl (List.eq_of_mem_replicate hr)
      · exact laid_plc h.ok Shp.wk hq
    · exact h
def Stt.weak (S : Stt) (i q : Nat) : Res := (S.weakR i (S.t i) q).fin i
theorem c_weak (h : StIn w o y S) (hI : Inv S) (hc : S.chk i = true) {q : Nat} (hq : Plc S q) (hser : S.H.serial < 1099511627776) :
    Calls Tryz.prog 134 #[ptr y.sb, .int .i64 i, .int .i64 q] w fun e w' => e = .returned (.tuple #[.int .i64 (S.weak i q).v, .int .i64 (S.weak i q).e]) ∧ Left y (S.weak i q).S o w w' := by
  have hP := Stt.chk_pre hI hc
  refine (sweak_any h hI hP hq hser).mono ?_
  rintro e w' ⟨rfl, o', h1, h2⟩
  exact ⟨rfl, o', h1, (hI.weakR hP hq hser).fin i, h2⟩
end
end Go.Proofs.YtemohiainfllcaaGreat

/- A store's public Load. -/
namespace Go.Proofs.YtemohiainfllcaaGreat
open Go.RowKit Hp
attribute [local go_sem ↓] Go.wp_at_zero Go.wp_at_succ
def Tx.keep (x : Tx) (p : Nat) : Tx := { x with log := { x.log with keeps := noteL x.log.keeps p x.log.mr } }
def Stt.loadR (S : Stt) (i : Nat) (x : Tx) (p : Nat) : Res :=
  if (S.lookR i x p).2 ≠ 0 then ⟨(S.lookR i x p).1, 0, (S.lookR i x p).2⟩ else match lk S.H.cur p with
  | none => ⟨(S.lookR i x p).1, 0, 0⟩
  | some ob => if ob.shp.weak = true then (if ob.ptrs.getD 0 0 = 0 then ⟨S.tx i (x.read p), 0, 0⟩ else ⟨S.tx i ((x.read p).keep (ob.ptrs.getD 0 0)), (ob.ptrs.getD 0 0 : Nat), 0⟩) else ⟨(S.lookR i x p).1, 0, 144⟩
section
variable {w w' : World} {o o' : Own} {y : SLay} {S : Stt} {x : Tx} {i : Nat}
theorem logkeep_in (h : StIn w o y S) (hk : S.ok) (hx : S.txs[i]? = some x) (p : Nat) (hm : x.log.keeps.length < x.log.mr) :
    Calls Tryz.prog 178 #[ptr (y.lb i), .int .i64 p] w fun e w' => e = .returned (.bool true) ∧
      ∃ o', StIn w' o' y (S.tx i (x.keep p)) ∧ Stp (txTag y i) o o' w w' := by
  have ht := h.txs i x hx
  obtain ⟨vr, vk, vh, vu, hl⟩ := ht.log
  refine (log_keep hl (hk.lg x (List.mem_of_getElem? hx)) p).mono ?_
  rintro e w' ⟨rfl, vk', o', hl', hs⟩
  have hst : Stp (txTag y i) o o' w w' := hs.mono (by rintro _ (rfl | rfl) <;> exact ⟨rfl, by simp <;> omega, by simp <;> omega⟩)
  rw [noteB_room hm]
  exact ⟨rfl, o', h.tx (x' := x.keep p) ⟨ht.blk.stp hs (by rw [ht.ob]; simp; omega), ⟨_, _, _, _, hl'⟩, (hst.tags _ ht.blk.lt).trans ht.ob⟩ hst, hst⟩
theorem eg_load1 (args : Array Value) (w : World) : (callFunc 177 args).run Tryz.prog w = .ok (.enter 177 args) w := enters_of Tryz.func177 (by kernel_rfl) rfl args w
/-- What is looked at is not to be had. -/
theorem load1_err (p : Nat) (el : Int) (he : el ≠ 0) (S1 : Stt) (look : Calls Tryz.prog 61 #[ptr y.sb, ptr (y.xb i), .int .i64 p] w fun e w' => e = .returned (.tuple #[shpV ⟨0, 0, false, false⟩, .int .i64 el]) ∧ ∃ o', StIn w' o' y S1 ∧ Stp (txTag y i) o o' w w')
    {b1 b2 : Nat} (j1 : Blk w b1 #[ptr y.sb] 23) (j2 : Blk w b2 #[.int .i64 p] 3) :
    Calls Tryz.prog 177 #[ptr (y.xb i), ptr b1, ptr b2] w fun e w' => e = .returned (.tuple #[.int .i64 0, .int .i64 el]) ∧ ∃ o', StIn w' o' y S1 ∧ Stp (txTag y i) o o' w w' := by
  have HL := Lib.hid look
  have c1 := j1.cell
  have c2 := j2.cell
  have hb : (el != 0) = true := by rw [bne_iff_ne]; exact he
  have hb2 : (el == 0) = false := by rw [beq_eq_false_iff_ne]; exact he
  clear look
  go_enter Tryz.func177, Tryz.ntmps177
  go_wp2_with fail
  refine HL.out.mono ?_
  rintro e w1 ⟨rfl, o1, hS1, hs1⟩
  go_wp2_with fail
  go_ret2
  exact ⟨rfl, o1, hS1.alloc _, hs1.alloc _⟩
set_option maxRecDepth 100000 in
/-- It was looked at, and is not weak. -/
theorem load1_shape (p : Nat) (s : Shp) (hw : s.weak = false) (S1 : Stt) (look : Calls Tryz.prog 61 #[ptr y.sb, ptr (y.xb i), .int .i64 p] w fun e w' => e = .returned (.tuple #[shpV s, .int .i64 0]) ∧ ∃ o', StIn w' o' y S1 ∧ Stp (txTag y i) o o' w w')
    {b1 b2 : Nat} (j1 : Blk w b1 #[ptr y.sb] 23) (j2 : Blk w b2 #[.int .i64 p] 3) :
    Calls Tryz.prog 177 #[ptr (y.xb i), ptr b1, ptr b2] w fun e w' => e = .returned (.tuple #[.int .i64 0, .int .i64 144]) ∧ ∃ o', StIn w' o' y S1 ∧ Stp (txTag y i) o o' w w' := by
  have HL := Lib.hid look
  have c1 := j1.cell
  have c2 := j2.cell
  rw [show shpV s = .agg #[.int .i64 s.p, .int .i64 s.d, .bool false, .bool s.final] from by rw [← hw]] at HL
  clear look hw
  obtain ⟨sp, sd, sw, sf⟩ := s
  simp only at HL
  go_enter Tryz.func177, Tryz.ntmps177
  go_wp2_with fail
  refine HL.out.mono ?_
  rintro e w1 ⟨rfl, o1, hS1, hs1⟩
  go_wp2_with fail
  go_ret2
  exact ⟨rfl, o1, hS1.alloc _, hs1.alloc _⟩
set_option maxRecDepth 100000 in
set_option maxHeartbeats 2000000 in
/-- It was looked at, and is weak. -/
theorem load1_weak (p q : Nat) (s : Shp) (hw : s.weak = true) (S1 S2 : Stt) (look : Calls Tryz.prog 61 #[ptr y.sb, ptr (y.xb i), .int .i64 p] w fun e w' => e = .returned (.tuple #[shpV s, .int .i64 0]) ∧ ∃ o', StIn w' o' y S1 ∧ Stp (txTag y i) o o' w w')
    (get : ∀ w1 o1, StIn w1 o1 y S1 → Calls Tryz.prog 59 #[ptr y.l.h, .int .i64 p, .int .i64 0] w1 fun e w' => e = .returned (.tuple #[.int .i64 q, .int .i64 0]) ∧ Below w1.heap.size w1 w')
    (hx1 : ∃ x1, S1.txs[i]? = some x1)
    (kp : q ≠ 0 → ∀ w1 o1, StIn w1 o1 y S1 → Calls Tryz.prog 178 #[ptr (y.lb i), .int .i64 q] w1 fun e w' => e = .returned (.bool true) ∧ ∃ o', StIn w' o' y S2 ∧ Stp (txTag y i) o1 o' w1 w')
    {b1 b2 : Nat} (j1 : Blk w b1 #[ptr y.sb] 23) (j2 : Blk w b2 #[.int .i64 p] 3) (t1 : o b1 = (y.l.id + 1, 0)) (t2 : o b2 = (y.l.id + 1, 0)) :
    Calls Tryz.prog 177 #[ptr (y.xb i), ptr b1, ptr b2] w fun e w' => e = .returned (.tuple #[.int .i64 q, .int .i64 0]) ∧ ∃ o', StIn w' o' y (if q = 0 then S1 else S2) ∧ Stp (txTag y i) o o' w w' := by
  obtain ⟨x1, hx1⟩ := hx1
  generalize hR : (if q = 0 then S1 else S2) = R
  have HL := Lib.hid look
  have HG := Lib.hid get
  have HX := Lib.hid (fun w1 o1 (h : StIn w1 o1 y S1) => (h.txs i x1 hx1).blk)
  have HB := Lib.hid (fun w1 o1 (h : StIn w1 o1 y S1) => h.blk)
  have ht1 : ¬ txTag y i (o b1) := by rw [t1]; exact txTag_box y i
  have ht2 : ¬ txTag y i (o b2) := by rw [t2]; exact txTag_box y i
  have c1 := j1.cell
  have c2 := j2.cell
  rw [show shpV s = .agg #[.int .i64 s.p, .int .i64 s.d, .bool true, .bool s.final] from by rw [← hw]] at HL
  clear look hw get hx1
  obtain ⟨sp, sd, sw, sf⟩ := s
  simp only at HL
  go_enter Tryz.func177, Tryz.ntmps177
  go_wp2_with fail
  refine HL.out.mono ?_
  rintro e w1 ⟨rfl, o1, hS1, hs1⟩
  obtain ⟨W1, hW1⟩ : ∃ W : World, W = w1.alloc (.cells #[.int .i64 sp, .int .i64 sd, .bool true, .bool sf] 80) := ⟨_, rfl⟩
  have jZ : Blk W1 w1.heap.size #[.int .i64 sp, .int .i64 sd, .bool true, .bool sf] 80 := by rw [hW1]; exact Blk.new _ _ _
  have hb1 : Below w1.heap.size w1 W1 := by rw [hW1]; exact balloc (bsame w1) _
  have hSW := hS1.below hb1
  have hsW := hs1.trans (Stp.of_below (T := txTag y i) (o := o1) hb1)
  have k1 := (j1.stp hs1 ht1).below hb1 (j1.stp hs1 ht1).lt
  have k2 := (j2.stp hs1 ht2).below hb1 (j2.stp hs1 ht2).lt
  have kb := HB.out _ _ hSW
  unfold stCells at kb
  clear c1 c2 hS1 hs1 hb1
  go_upto_region 6 with fail
  rw [← hW1]
  clear hW1
  have l1 := fun (e : Later W1) (i : Nat) => Later.cell k1 e i
  have l2 := fun (e : Later W1) (i : Nat) => Later.cell k2 e i
  have l5 := fun (e : Later W1) (i : Nat) => Later.cell kb e i
  have HG3 := Lib.hid (fun (e : Later W1) => HG.out e.1 o1 (hSW.below e.2))
  have HSW := Lib.hid hSW
  have HsW := Lib.hid hsW
  clear hSW hsW HL
  refine wp_region_later (by kernel_rfl) (by kernel_rfl) ?_
  repeat (go_big_quiet_step ((go_at_call 59; exact later_of (HG3.out _))))
  refine wpQuiet_nil ?_
  intro w8 hW0
  obtain ⟨⟨wt, hbt⟩, hwt⟩ := hW0
  have hwt : w8 = wt := hwt
  subst hwt
  clear l1 l2 l5
  have hSt := HSW.out.below hbt
  have hst := HsW.out.trans (Stp.of_below (T := txTag y i) (o := o1) hbt)
  have cx := (HX.out _ _ hSt).cell
  by_cases h0 : q = 0
  · subst h0
    rw [if_pos rfl] at hR
    subst hR
    go_wp2_with fail
    go_ret2
    exact ⟨rfl, o1, hSt, hst⟩
  · have hqb : ((q : Int) != 0) = true := by rw [bne_iff_ne]; omega
    have HK := Lib.hid (kp h0 _ _ hSt)
    rw [if_neg h0] at hR
    subst hR
    clear kp
    go_wp2_with fail
    refine HK.out.mono ?_
    rintro e w3 ⟨rfl, o3, hS3, hs3⟩
    go_wp2_with fail
    go_ret2
    exact ⟨rfl, o3, hS3, hst.trans hs3⟩
theorem loadR_ab (hP : Pre S i x) {p : Nat} (hp : Plc S p) (ha : isAb (S.loadR i x p).e = true) : S.loadR i x p = ⟨S, 0, 141⟩ := by
  unfold Stt.loadR at ha ⊢
  split at ha
  · rename_i hne
    have := lookR_ab hp hP.r1 ha
    rw [if_pos hne, this]
  · split at ha
    · simp [isAb] at ha
    · split at ha
      · split at ha <;> simp [isAb] at ha
      · simp [isAb] at ha
theorem sload_any (h0 : StIn w o y S) (hP : Pre S i x) {p : Nat} (hp : Plc S p) :
    Calls Tryz.prog 135 #[ptr y.sb, .int .i64 i, .int .i64 p] w fun e w' => e = .returned (.tuple #[.int .i64 ((S.loadR i x p).fin i).v, .int .i64 ((S.loadR i x p).fin i).e]) ∧ ∃ o', StIn w' o' y ((S.loadR i x p).fin i).S ∧ Stp (stTag y) o o' w w' := by
  have hmf : ∀ (fn : Fn) (first cap : Array Value) (w : World), (Instr.makeFunc fn first cap).run Tryz.prog w = .ok (.func fn first cap) w := fun _ _ _ _ => rfl
  obtain ⟨o1, ho1⟩ : ∃ o1, o1 = ext o w.heap.size (y.l.id + 1, 0) := ⟨_, rfl⟩
  have h := h0.retag (o' := o1) fun b hb => by rw [ho1]; exact ext_lt hb
  have hS0 : Stp (stTag y) o o1 w w := by rw [ho1]; exact (Stp.refl _ o w).ext _ _ (Nat.le_refl _)
  have hbx : ∀ b, w.heap.size ≤ b → o1 b = (y.l.id + 1, 0) := fun b hb => by rw [ho1]; exact ext_ge hb
  clear ho1 h0
  obtain ⟨W, hW⟩ : ∃ W : World, W = (w.alloc (.cells #[ptr y.sb] 23)).alloc (.cells #[.int .i64 p] 3) := ⟨_, rfl⟩
  have hbW : Below w.heap.size w W := by rw [hW]; exact balloc (balloc (bsame w) _) _
  have j1 : Blk W w.heap.size #[ptr y.sb] 23 := by rw [hW]; exact (Blk.new w _ _).alloc _
  have j2 : Blk W (w.heap.size + 1) #[.int .i64 p] 3 := by rw [hW]; exact Blk.new_at _ _ _ _ _ (by simp) rfl
  have HD := Lib.hid (deed_any 177 [ptr w.heap.size, ptr (w.heap.size + 1)] (h.below hbW) hP.ok hP.hx hP.live eg_load1 (S.loadR i x p) (fun ha => by rw [loadR_ab hP hp ha]; exact hP.ab)
    (fun w1 o2 hb he2 hS => by
      have a1 := j1.below hb j1.lt
      have a2 := j2.below hb j2.lt
      have tg : ∀ b, w.heap.size ≤ b → b < W.heap.size → o2 b = (y.l.id + 1, 0) := fun b hb1 hb2 => (he2 _ hb2).trans (hbx _ hb1)
      by_cases hne : (S.lookR i x p).2 = 0
      · obtain ⟨ob, hp0, hob, hc, hnb, hf, he⟩ := lookR_ok hp hne
        have hlk := look_any hS hP.ok hP.hx hP.secs hp
        rw [if_pos hne, he] at hlk
        have e0 : S.shpOf p = ob.shp := by unfold Stt.shpOf; rw [hob]
        rw [e0] at hlk
        by_cases hw : ob.shp.weak = true
        · have ho := ok_of_lk hP.ok hob
          have hp1 := (ho.shp.2.2 hw).1
          have hv : ob.ptrs[0]? = some (ob.ptrs.getD 0 0) := by
            rw [List.getD_eq_getElem?_getD, List.getElem?_eq_getElem (by rw [ho.lp, hp1]; omega)]; rfl
          have e1 : S.loadR i x p = ⟨if ob.ptrs.getD 0 0 = 0 then S.tx i (x.read p) else S.tx i ((x.read p).keep (ob.ptrs.getD 0 0)), (ob.ptrs.getD 0 0 : Nat), 0⟩ := by
            unfold Stt.loadR; rw [he]; simp only [ne_eq, not_true_eq_false, if_false, hob, hw, if_true]
            split
            · rename_i hz; rw [hz]; rfl
            · rfl
          rw [e1]
          refine (load1_weak p (ob.ptrs.getD 0 0) ob.shp hw (S.tx i (x.read p)) (S.tx i ((x.read p).keep (ob.ptrs.getD 0 0))) hlk (fun w2 o2 h2 => ?_) ⟨_, tx_at S hP.lt _⟩ (fun hq w2 o2 h2 => ?_) a1 a2 (tg _ (Nat.le_refl _) j1.lt) (tg _ (by omega) j2.lt)).mono ?_
          · obtain ⟨vc, vo, vw, vf, f, hh⟩ := h2.hp
            exact hptr_in hh hP.ok.F.ok hP.ok.F.mov hob 0 _ hv
          · have := logkeep_in h2 (Stt.ok_tx hP.ok (Tx.read_ok hP.lg p) hP.st) (tx_at S hP.lt _) (ob.ptrs.getD 0 0) hP.r2
            rwa [Stt.tx_tx] at this
          · rintro e w' ⟨rfl, o', h1, h2⟩
            exact ⟨rfl, o', h1, h2.mono fun _ => stTag_tx⟩
        · have e1 : S.loadR i x p = ⟨S.tx i (x.read p), 0, 144⟩ := by
            unfold Stt.loadR; rw [he]; simp only [ne_eq, not_true_eq_false, if_false, hob]
            rw [if_neg hw]
          rw [e1]
          refine (load1_shape p ob.shp (by simpa using hw) _ hlk a1 a2).mono ?_
          rintro e w' ⟨rfl, o', h1, h2⟩
          exact ⟨rfl, o', h1, h2.mono fun _ => stTag_tx⟩
      · have e1 : S.loadR i x p = ⟨(S.lookR i x p).1, 0, (S.lookR i x p).2⟩ := by unfold Stt.loadR; rw [if_pos hne]
        rw [e1]
        have hlk := look_any hS hP.ok hP.hx hP.secs hp
        rw [if_neg hne] at hlk
        refine (load1_err p _ hne _ hlk a1 a2).mono ?_
        rintro e w' ⟨rfl, o', h1, h2⟩
        exact ⟨rfl, o', h1, h2.mono fun _ => stTag_tx⟩))
  have HS := Lib.hid (hS0.trans (Stp.of_below hbW))
  generalize Res.fin (S.loadR i x p) i = R at *
  clear h hbx hS0 hbW j1 j2 hP hp
  go_enter Tryz.func135, Tryz.ntmps135
  go_wp2_with fail
  rw [← hW]
  refine HD.out.mono ?_
  rintro e w2 ⟨rfl, o2, hS2, hs2⟩
  go_wp2_with fail
  go_ret2
  exact ⟨rfl, o2, hS2, HS.out.trans hs2⟩
/-- A transaction noted what it keeps. -/
theorem Inv.keep (h : Inv S) (hx : S.txs[i]? = some x) (hl : x.live = true) (p : Nat) : Inv (S.tx i (x.keep p)) := by
  have hlg := h.ok.lg x (List.mem_of_getElem? hx)
  have hok : (x.keep p).log.ok := by
    refine ⟨hlg.mr, hlg.mu, hlg.r, ?_, hlg.h, hlg.u⟩
    show (noteL x.log.keeps p x.log.mr).length ≤ x.log.mr
    have := hlg.k
    unfold noteL; split
    · exact this
    · split
      · simp; omega
      · exact this
  refine ⟨Stt.ok_tx h.ok hok (h.ok.st x (List.mem_of_getElem? hx)), fun q ob hq ho => ?_, h.even, fun j z hz => ?_, fun j z hz => ?_, fun j z hz => ?_, fun j z hz hzl => ?_, h.lo⟩
  · obtain ⟨x', h1, h2⟩ := h.odd q ob hq ho
    by_cases e : ob.second / 2 = i
    · rw [e, hx] at h1
      injection h1 with h1
      subst h1
      exact ⟨x.keep p, by rw [e]; exact tx_at S (List.getElem?_eq_some_iff.1 hx).1 _, h2⟩
    · exact ⟨x', set_get e h1, h2⟩
  · rcases get_set hz with ⟨rfl, rfl⟩ | ⟨hj, hz⟩
    · exact h.hold _ x hx
    · exact h.hold j z hz
  · rcases get_set hz with ⟨rfl, rfl⟩ | ⟨hj, hz⟩
    · exact h.rd _ x hx
    · exact h.rd j z hz
  · rcases get_set hz with ⟨rfl, rfl⟩ | ⟨hj, hz⟩
    · exact h.un _ x hx
    · exact h.un j z hz
  · rcases get_set hz with ⟨rfl, rfl⟩ | ⟨hj, hz⟩
    · exact absurd hzl (by show ¬ x.live = false; rw [hl]; simp)
    · exact h.idle j z hz hzl
theorem Inv.loadR (h : Inv S) (hP : Pre S i x) {p : Nat} (hp : Plc S p) : Inv (S.loadR i x p).S := by
  unfold Stt.loadR
  split
  · exact h.look hP
  · rename_i hne
    obtain ⟨ob, hp0, hob, hc, _, _, he⟩ := lookR_ok hp (by simpa using hne)
    rw [hob, he]
    simp only
    have hr := h.read hP.hx hP.live (p := p) (by rw [hob]; rfl)
    split
    · split
      · exact hr
      · have := hr.keep (tx_at S hP.lt _) (by show x.live = true; exact hP.live) (ob.ptrs.getD 0 0)
        rwa [Stt.tx_tx] at this
    · exact hr
def Stt.load (S : Stt) (i p : Nat) : Res := (S.loadR i (S.t i) p).fin i
theorem c_load (h : StIn w o y S) (hI : Inv S) (hc : S.chk i = true) {p : Nat} (hp : Plc S p) :
    Calls Tryz.prog 135 #[ptr y.sb, .int .i64 i, .int .i64 p] w fun e w' => e = .returned (.tuple #[.int .i64 (S.load i p).v, .int .i64 (S.load i p).e]) ∧ Left y (S.load i p).S o w w' := by
  have hP := Stt.chk_pre hI hc
  refine (sload_any h hP hp).mono ?_
  rintro e w' ⟨rfl, o', h1, h2⟩
  exact ⟨rfl, o', h1, (hI.loadR hP hp).fin i, h2⟩
end
end Go.Proofs.YtemohiainfllcaaGreat

/- Threads in memory; back, end. -/
namespace Go.Proofs.YtemohiainfllcaaGreat
open Go.RowKit Hp
attribute [local go_sem ↓] Go.wp_at_zero Go.wp_at_succ
structure R6 where
  a0 : Int
  a1 : Int
  a2 : Int
  a3 : Int
  a4 : Int
  a5 : Int
deriving DecidableEq
/-- A thread, as it stands in memory. -/
structure ThV where
  b : Int
  n : Int
  r : R6
  s : R6
  l : Bool
deriving DecidableEq
def ThV.cells (h : ThV) : Array Value := #[.int .i64 h.b, .int .i64 h.n, .int .i64 h.r.a0, .int .i64 h.r.a1, .int .i64 h.r.a2, .int .i64 h.r.a3, .int .i64 h.r.a4, .int .i64 h.r.a5, .int .i64 h.s.a0, .int .i64 h.s.a1, .int .i64 h.s.a2, .int .i64 h.s.a3, .int .i64 h.s.a4, .int .i64 h.s.a5, .bool h.l]
def ThV.v (h : ThV) : Value := .agg h.cells
structure ActV where
  k : Int
  e : Int
  v : Int
deriving DecidableEq
def ActV.cells (a : ActV) : Array Value := #[.int .i64 a.k, .int .i64 a.e, .int .i64 a.v]
def ActV.val (a : ActV) : Value := .agg a.cells
def ThV.back (h : ThV) : ThV := ⟨h.b, 0, h.s, h.s, false⟩
set_option maxRecDepth 100000 in
set_option maxHeartbeats 1000000 in
theorem back_any (h : ThV) (w : World) : Calls Tryz.prog 128 #[h.v] w fun e w' => e = .returned h.back.v ∧ Below w.heap.size w w' := by
  obtain ⟨hb, hn, ⟨a0, a1, a2, a3, a4, a5⟩, ⟨s0, s1, s2, s3, s4, s5⟩, hl⟩ := h
  show Calls _ _ #[.agg #[.int .i64 hb, .int .i64 hn, .int .i64 a0, .int .i64 a1, .int .i64 a2, .int .i64 a3, .int .i64 a4, .int .i64 a5, .int .i64 s0, .int .i64 s1, .int .i64 s2, .int .i64 s3, .int .i64 s4, .int .i64 s5, .bool hl]] _ _
  go_enter Tryz.func128, Tryz.ntmps128
  go_wp2_with fail
  obtain ⟨W, hW⟩ : ∃ W : World, W = (w.alloc (.cells #[.int .i64 hb, .int .i64 0, .int .i64 s0, .int .i64 s1, .int .i64 s2, .int .i64 s3, .int .i64 s4, .int .i64 s5, .int .i64 s0, .int .i64 s1, .int .i64 s2, .int .i64 s3, .int .i64 s4, .int .i64 s5, .bool false] 57)).alloc (.cells #[.int .i64 hb, .int .i64 0, .int .i64 s0, .int .i64 s1, .int .i64 s2, .int .i64 s3, .int .i64 s4, .int .i64 s5, .int .i64 s0, .int .i64 s1, .int .i64 s2, .int .i64 s3, .int .i64 s4, .int .i64 s5, .bool false] 57) := ⟨_, rfl⟩
  rw [← hW]
  have j8 : Blk W (w.heap.size + 1) #[.int .i64 hb, .int .i64 0, .int .i64 s0, .int .i64 s1, .int .i64 s2, .int .i64 s3, .int .i64 s4, .int .i64 s5, .int .i64 s0, .int .i64 s1, .int .i64 s2, .int .i64 s3, .int .i64 s4, .int .i64 s5, .bool false] 57 := by rw [hW]; exact Blk.new_at _ _ _ _ _ (by simp) rfl
  have hbl : Below w.heap.size w W := by rw [hW]; exact balloc (balloc (bsame w) _) _
  clear hW
  have c8 := j8.cell
  refine bodyPost_ret (v := ThV.v ⟨hb, 0, ⟨s0, s1, s2, s3, s4, s5⟩, ⟨s0, s1, s2, s3, s4, s5⟩, false⟩) ?_ rfl ⟨rfl, hbl⟩
  simp [results, Tryz.results128, go_sem, c8, ThV.v, ThV.cells]
/-- A world in which a thread and an act were put into their blocks. -/
def resW (W : World) (b6 b7 : Nat) (h : ThV) (a : ActV) : World := ((((((((((((((((((W.setCell ⟨b6, 0, none⟩ (.int .i64 h.b)).setCell ⟨b6, 1, none⟩ (.int .i64 h.n)).setCell ⟨b6, 2, none⟩ (.int .i64 h.r.a0)).setCell ⟨b6, 3, none⟩ (.int .i64 h.r.a1)).setCell ⟨b6, 4, none⟩ (.int .i64 h.r.a2)).setCell ⟨b6, 5, none⟩ (.int .i64 h.r.a3)).setCell ⟨b6, 6, none⟩ (.int .i64 h.r.a4)).setCell ⟨b6, 7, none⟩ (.int .i64 h.r.a5)).setCell ⟨b6, 8, none⟩ (.int .i64 h.s.a0)).setCell ⟨b6, 9, none⟩ (.int .i64 h.s.a1)).setCell ⟨b6, 10, none⟩ (.int .i64 h.s.a2)).setCell ⟨b6, 11, none⟩ (.int .i64 h.s.a3)).setCell ⟨b6, 12, none⟩ (.int .i64 h.s.a4)).setCell ⟨b6, 13, none⟩ (.int .i64 h.s.a5)).setCell ⟨b6, 14, none⟩ (.bool h.l)).setCell ⟨b7, 0, none⟩ (.int .i64 a.k)).setCell ⟨b7, 1, none⟩ (.int .i64 a.e)).setCell ⟨b7, 2, none⟩ (.int .i64 a.v))
def zTh : Array Value := #[.int .i64 0, .int .i64 0, .int .i64 0, .int .i64 0, .int .i64 0, .int .i64 0, .int .i64 0, .int .i64 0, .int .i64 0, .int .i64 0, .int .i64 0, .int .i64 0, .int .i64 0, .int .i64 0, .bool false]
def zAct : Array Value := #[.int .i64 0, .int .i64 0, .int .i64 0]
theorem res_blk {W : World} {b6 b7 : Nat} {t6 t7 : TypeId} (j6 : Blk W b6 zTh t6) (j7 : Blk W b7 zAct t7) (hne : b6 ≠ b7) (h : ThV) (a : ActV) : Blk (resW W b6 b7 h a) b6 h.cells t6 ∧ Blk (resW W b6 b7 h a) b7 a.cells t7 := by
  have hne' : b7 ≠ b6 := fun e => hne e.symm
  have a1 := ((((((((((((((((((j6.set 0 (.int .i64 h.b)).set 1 (.int .i64 h.n)).set 2 (.int .i64 h.r.a0)).set 3 (.int .i64 h.r.a1)).set 4 (.int .i64 h.r.a2)).set 5 (.int .i64 h.r.a3)).set 6 (.int .i64 h.r.a4)).set 7 (.int .i64 h.r.a5)).set 8 (.int .i64 h.s.a0)).set 9 (.int .i64 h.s.a1)).set 10 (.int .i64 h.s.a2)).set 11 (.int .i64 h.s.a3)).set 12 (.int .i64 h.s.a4)).set 13 (.int .i64 h.s.a5)).set 14 (.bool h.l)).set_other (a := ⟨b7, 0, none⟩) hne (.int .i64 a.k)).set_other (a := ⟨b7, 1, none⟩) hne (.int .i64 a.e)).set_other (a := ⟨b7, 2, none⟩) hne (.int .i64 a.v))
  have a2 := ((((((((((((((((((j7.set_other (a := ⟨b6, 0, none⟩) hne' (.int .i64 h.b)).set_other (a := ⟨b6, 1, none⟩) hne' (.int .i64 h.n)).set_other (a := ⟨b6, 2, none⟩) hne' (.int .i64 h.r.a0)).set_other (a := ⟨b6, 3, none⟩) hne' (.int .i64 h.r.a1)).set_other (a := ⟨b6, 4, none⟩) hne' (.int .i64 h.r.a2)).set_other (a := ⟨b6, 5, none⟩) hne' (.int .i64 h.r.a3)).set_other (a := ⟨b6, 6, none⟩) hne' (.int .i64 h.r.a4)).set_other (a := ⟨b6, 7, none⟩) hne' (.int .i64 h.r.a5)).set_other (a := ⟨b6, 8, none⟩) hne' (.int .i64 h.s.a0)).set_other (a := ⟨b6, 9, none⟩) hne' (.int .i64 h.s.a1)).set_other (a := ⟨b6, 10, none⟩) hne' (.int .i64 h.s.a2)).set_other (a := ⟨b6, 11, none⟩) hne' (.int .i64 h.s.a3)).set_other (a := ⟨b6, 12, none⟩) hne' (.int .i64 h.s.a4)).set_other (a := ⟨b6, 13, none⟩) hne' (.int .i64 h.s.a5)).set_other (a := ⟨b6, 14, none⟩) hne' (.bool h.l)).set 0 (.int .i64 a.k)).set 1 (.int .i64 a.e)).set 2 (.int .i64 a.v))
  have e1 : ∀ x, x = h.cells → Blk (resW W b6 b7 h a) b6 x t6 → Blk (resW W b6 b7 h a) b6 h.cells t6 := fun x e k => by rw [← e]; exact k
  have e2 : ∀ x, x = a.cells → Blk (resW W b6 b7 h a) b7 x t7 → Blk (resW W b6 b7 h a) b7 a.cells t7 := fun x e k => by rw [← e]; exact k
  refine ⟨e1 _ ?_ a1, e2 _ ?_ a2⟩
  · simp only [zTh, ThV.cells, List.setIfInBounds_toArray, List.set_cons_zero, List.set_cons_succ]
  · simp only [zAct, ActV.cells, List.setIfInBounds_toArray, List.set_cons_zero, List.set_cons_succ]
theorem res_below {w W : World} {b6 b7 : Nat} (h1 : Below w.heap.size w W) (h6 : w.heap.size ≤ b6) (h7 : w.heap.size ≤ b7) (h : ThV) (a : ActV) : Below w.heap.size w (resW W b6 b7 h a) := (bset (bset (bset (bset (bset (bset (bset (bset (bset (bset (bset (bset (bset (bset (bset (bset (bset (bset h1 h6 _) h6 _) h6 _) h6 _) h6 _) h6 _) h6 _) h6 _) h6 _) h6 _) h6 _) h6 _) h6 _) h6 _) h6 _) h7 _) h7 _) h7 _)
/-- A world in which a thread was put into its block. -/
def thW (W : World) (b : Nat) (h : ThV) : World := (((((((((((((((W.setCell ⟨b, 0, none⟩ (.int .i64 h.b)).setCell ⟨b, 1, none⟩ (.int .i64 h.n)).setCell ⟨b, 2, none⟩ (.int .i64 h.r.a0)).setCell ⟨b, 3, none⟩ (.int .i64 h.r.a1)).setCell ⟨b, 4, none⟩ (.int .i64 h.r.a2)).setCell ⟨b, 5, none⟩ (.int .i64 h.r.a3)).setCell ⟨b, 6, none⟩ (.int .i64 h.r.a4)).setCell ⟨b, 7, none⟩ (.int .i64 h.r.a5)).setCell ⟨b, 8, none⟩ (.int .i64 h.s.a0)).setCell ⟨b, 9, none⟩ (.int .i64 h.s.a1)).setCell ⟨b, 10, none⟩ (.int .i64 h.s.a2)).setCell ⟨b, 11, none⟩ (.int .i64 h.s.a3)).setCell ⟨b, 12, none⟩ (.int .i64 h.s.a4)).setCell ⟨b, 13, none⟩ (.int .i64 h.s.a5)).setCell ⟨b, 14, none⟩ (.bool h.l))
theorem thW_blk {W : World} {b : Nat} {t : TypeId} {g : ThV} (j : Blk W b g.cells t) (h : ThV) : Blk (thW W b h) b h.cells t := by
  have a1 := (((((((((((((((j.set 0 (.int .i64 h.b)).set 1 (.int .i64 h.n)).set 2 (.int .i64 h.r.a0)).set 3 (.int .i64 h.r.a1)).set 4 (.int .i64 h.r.a2)).set 5 (.int .i64 h.r.a3)).set 6 (.int .i64 h.r.a4)).set 7 (.int .i64 h.r.a5)).set 8 (.int .i64 h.s.a0)).set 9 (.int .i64 h.s.a1)).set 10 (.int .i64 h.s.a2)).set 11 (.int .i64 h.s.a3)).set 12 (.int .i64 h.s.a4)).set 13 (.int .i64 h.s.a5)).set 14 (.bool h.l))
  have e1 : ∀ x, x = h.cells → Blk (thW W b h) b x t → Blk (thW W b h) b h.cells t := fun x e k => by rw [← e]; exact k
  refine e1 _ ?_ a1
  simp only [ThV.cells, List.setIfInBounds_toArray, List.set_cons_zero, List.set_cons_succ]
theorem thW_other {W : World} {b c : Nat} {t : TypeId} {cs : Array Value} (j : Blk W c cs t) (hne : c ≠ b) (h : ThV) : Blk (thW W b h) c cs t := by
  have a1 := (((((((((((((((j.set_other (a := ⟨b, 0, none⟩) hne (.int .i64 h.b)).set_other (a := ⟨b, 1, none⟩) hne (.int .i64 h.n)).set_other (a := ⟨b, 2, none⟩) hne (.int .i64 h.r.a0)).set_other (a := ⟨b, 3, none⟩) hne (.int .i64 h.r.a1)).set_other (a := ⟨b, 4, none⟩) hne (.int .i64 h.r.a2)).set_other (a := ⟨b, 5, none⟩) hne (.int .i64 h.r.a3)).set_other (a := ⟨b, 6, none⟩) hne (.int .i64 h.r.a4)).set_other (a := ⟨b, 7, none⟩) hne (.int .i64 h.r.a5)).set_other (a := ⟨b, 8, none⟩) hne (.int .i64 h.s.a0)).set_other (a := ⟨b, 9, none⟩) hne (.int .i64 h.s.a1)).set_other (a := ⟨b, 10, none⟩) hne (.int .i64 h.s.a2)).set_other (a := ⟨b, 11, none⟩) hne (.int .i64 h.s.a3)).set_other (a := ⟨b, 12, none⟩) hne (.int .i64 h.s.a4)).set_other (a := ⟨b, 13, none⟩) hne (.int .i64 h.s.a5)).set_other (a := ⟨b, 14, none⟩) hne (.bool h.l))
  exact a1
theorem thW_below {w W : World} {b : Nat} (h1 : Below w.heap.size w W) (h6 : w.heap.size ≤ b) (h : ThV) : Below w.heap.size w (thW W b h) := (bset (bset (bset (bset (bset (bset (bset (bset (bset (bset (bset (bset (bset (bset (bset h1 h6 _) h6 _) h6 _) h6 _) h6 _) h6 _) h6 _) h6 _) h6 _) h6 _) h6 _) h6 _) h6 _) h6 _) h6 _)
set_option maxHeartbeats 1000000 in
theorem results_two {X : World} {b6 b7 : Nat} {t6 t7 : TypeId} {h : ThV} {a : ActV} (fn : Func) (tmps : Array Value) (i j : Nat) (hres : fn.results = #[.cell i 57, .cell j 60]) (ti : tmps.getD i undef = ptr b6) (tj : tmps.getD j undef = ptr b7)
    (j6 : Blk X b6 h.cells t6) (j7 : Blk X b7 a.cells t7) : (results fn tmps).run Tryz.prog X = .ok (.tuple #[h.v, a.val]) X := by
  have d6 := j6.cell
  have d7 := j7.cell
  unfold ThV.cells at d6
  unfold ActV.cells at d7
  rw [Array.getD_eq_getD_getElem?] at ti tj
  unfold ptr at ti tj
  simp only [results, hres]
  simp [go_sem, ti, tj, d6, d7, ThV.v, ThV.cells, ActV.val, ActV.cells]
end Go.Proofs.YtemohiainfllcaaGreat

/- Threads: Done, Roots, Replace, serial. -/
namespace Go.Proofs.YtemohiainfllcaaGreat
open Go.RowKit Hp
attribute [local go_sem ↓] Go.wp_at_zero Go.wp_at_succ
section
variable {w w' : World} {o o' : Own} {y : SLay} {S : Stt} {i : Nat}
/-- What a place's serial is told to be. -/
def Stt.ser (S : Stt) (p : Nat) : Nat := if p = 0 then 0 else match lk S.H.cur p with | some ob => ob.serial | none => 0
theorem tserial_any (h : StIn w o y S) (hk : S.ok) {p : Nat} (hp : Plc S p) :
    Calls Tryz.prog 133 #[ptr y.sb, .int .i64 p] w fun e w' => e = .returned (.int .i64 (S.ser p)) ∧ Below w.heap.size w w' := by
  by_cases h0 : p = 0
  · subst h0
    have e1 : S.ser 0 = 0 := rfl
    rw [e1]
    clear h hk hp e1
    go_enter Tryz.func133, Tryz.ntmps133
    go_wp2_with fail
    go_ret
    exact ⟨rfl, bsame w⟩
  · obtain ⟨ob, hob⟩ := Option.isSome_iff_exists.1 (hp.resolve_left h0)
    have e1 : S.ser p = ob.serial := by unfold Stt.ser; rw [if_neg h0, hob]
    rw [e1]
    have HS := Lib.hid (sserial_in h hk hob)
    have hpb : ((p : Int) == 0) = false := by rw [beq_eq_false_iff_ne]; omega
    clear h hk hp e1 h0 hob
    go_enter Tryz.func133, Tryz.ntmps133
    go_wp2_with fail
    refine HS.out.mono ?_
    rintro e w1 ⟨rfl, hb1⟩
    go_wp2_with fail
    go_ret
    exact ⟨rfl, hb1⟩
end
/-- Has a thread no block left? -/
theorem tdone_any (h : ThV) (a : Option Addr) (n c : Nat) (w : World) :
    Calls Tryz.prog 29 #[.slice a n c, h.v] w fun e w' => e = .returned (.bool (decide (h.b < 0) || decide ((n : Int) ≤ h.b))) ∧ Below w.heap.size w w' := by
  obtain ⟨hb, hn, ⟨a0, a1, a2, a3, a4, a5⟩, ⟨s0, s1, s2, s3, s4, s5⟩, hl⟩ := h
  show Calls _ _ #[.slice a n c, .agg #[.int .i64 hb, .int .i64 hn, .int .i64 a0, .int .i64 a1, .int .i64 a2, .int .i64 a3, .int .i64 a4, .int .i64 a5, .int .i64 s0, .int .i64 s1, .int .i64 s2, .int .i64 s3, .int .i64 s4, .int .i64 s5, .bool hl]] _ _
  simp only
  by_cases h0 : hb < 0
  · rw [decide_eq_true h0, Bool.true_or]
    go_enter Tryz.func29, Tryz.ntmps29
    go_wp2_with fail
    go_ret
    exact ⟨rfl, balloc (bsame w) _⟩
  · rw [decide_eq_false h0, Bool.false_or]
    by_cases h1 : (n : Int) ≤ hb
    · rw [decide_eq_true h1]
      go_enter Tryz.func29, Tryz.ntmps29
      go_wp2_with fail
      go_ret
      exact ⟨rfl, balloc (bsame w) _⟩
    · rw [decide_eq_false h1]
      go_enter Tryz.func29, Tryz.ntmps29
      go_wp2_with fail
      go_ret
      exact ⟨rfl, balloc (bsame w) _⟩
end Go.Proofs.YtemohiainfllcaaGreat

/- Threads: Roots, Replace. -/
namespace Go.Proofs.YtemohiainfllcaaGreat
open Go.RowKit Hp
attribute [local go_sem ↓] Go.wp_at_zero Go.wp_at_succ
theorem run_mk12 (w : World) : (Instr.makeSlice 24 (.int .i64 0) (.int .i64 12)).run Tryz.prog w = .ok (.slice (some ⟨w.heap.size, 0, none⟩) 0 12) (w.alloc (.cells #[.int .i64 0, .int .i64 0, .int .i64 0, .int .i64 0, .int .i64 0, .int .i64 0, .int .i64 0, .int .i64 0, .int .i64 0, .int .i64 0, .int .i64 0, .int .i64 0] 3)) := by
  obtain ⟨iI, hi, hsI, hyI, hzI⟩ := info_int
  have h := run_make (P := Tryz.prog) w 24 3 iI _ Tryz.underlying24 hi hzI .i64 .i64 0 12 (by omega) (by omega) (by rw [hyI]; omega) (by omega)
  rw [hsI, show madeCells (Value.int IntKind.i64 0).cells (Int.toNat 12 * 1) = #[.int .i64 0, .int .i64 0, .int .i64 0, .int .i64 0, .int .i64 0, .int .i64 0, .int .i64 0, .int .i64 0, .int .i64 0, .int .i64 0, .int .i64 0, .int .i64 0] from by kernel_rfl] at h
  exact h
set_option maxHeartbeats 1000000 in
theorem results_thb {X : World} {b6 : Nat} {t6 : TypeId} {h : ThV} {v : Value} (fn : Func) (tmps : Array Value) (i j : Nat) (hres : fn.results = #[.cell i 57, .tmp j]) (ti : tmps.getD i undef = ptr b6) (tj : tmps.getD j undef = v)
    (j6 : Blk X b6 h.cells t6) : (results fn tmps).run Tryz.prog X = .ok (.tuple #[h.v, v]) X := by
  have d6 := j6.cell
  unfold ThV.cells at d6
  rw [Array.getD_eq_getD_getElem?] at ti tj
  unfold ptr at ti
  simp only [results, hres]
  simp [go_sem, ti, tj, d6, ThV.v, ThV.cells]
set_option maxRecDepth 100000 in
set_option maxHeartbeats 2000000 in
theorem roots_any (h : ThV) (w : World) : Calls Tryz.prog 31 #[h.v] w fun e w' => e = .returned (.slice (some ⟨w.heap.size + 1, 0, none⟩) 12 12) ∧
    Blk w' (w.heap.size + 1) #[.int .i64 h.r.a0, .int .i64 h.r.a1, .int .i64 h.r.a2, .int .i64 h.r.a3, .int .i64 h.r.a4, .int .i64 h.r.a5, .int .i64 h.s.a0, .int .i64 h.s.a1, .int .i64 h.s.a2, .int .i64 h.s.a3, .int .i64 h.s.a4, .int .i64 h.s.a5] 3 ∧ Below w.heap.size w w' := by
  have hmk := run_mk12
  obtain ⟨hb, hn, ⟨a0, a1, a2, a3, a4, a5⟩, ⟨s0, s1, s2, s3, s4, s5⟩, hl⟩ := h
  show Calls _ _ #[.agg #[.int .i64 hb, .int .i64 hn, .int .i64 a0, .int .i64 a1, .int .i64 a2, .int .i64 a3, .int .i64 a4, .int .i64 a5, .int .i64 s0, .int .i64 s1, .int .i64 s2, .int .i64 s3, .int .i64 s4, .int .i64 s5, .bool hl]] _ _
  simp only
  go_enter Tryz.func31, Tryz.ntmps31
  go_wp2_with fail
  refine bodyPost_ret (v := .slice (some ⟨w.heap.size + 1, 0, none⟩) 12 12) ?_ rfl ⟨rfl, Blk.new_at _ _ _ _ _ (by simp) rfl, balloc (balloc (bsame w) _) _⟩
  simp [results, Tryz.results31, go_sem]
theorem run_cp6 (W : World) (b o g off c : Nat) (b0 b1 b2 b3 b4 b5 : Int) (hc : ∀ j, j < 6 → (W.cell? ⟨b, o + j, none⟩).isSome = true) (hf : ∀ j, W.frozen? ⟨b, o + j, none⟩ = false)
    (k0 : W.cell? ⟨g, off, none⟩ = some (.int .i64 b0)) (k1 : W.cell? ⟨g, off + 1, none⟩ = some (.int .i64 b1)) (k2 : W.cell? ⟨g, off + 2, none⟩ = some (.int .i64 b2)) (k3 : W.cell? ⟨g, off + 3, none⟩ = some (.int .i64 b3)) (k4 : W.cell? ⟨g, off + 4, none⟩ = some (.int .i64 b4)) (k5 : W.cell? ⟨g, off + 5, none⟩ = some (.int .i64 b5)) :
    (Builtin.copy_ #[24, 24] 3 #[.slice (some ⟨b, o, none⟩) 6 6, .slice (some ⟨g, off, none⟩) 6 c]).run Tryz.prog W = .ok (.int .i64 6) ((((((W.setCell ⟨b, o + 0, none⟩ (.int .i64 b0)).setCell ⟨b, o + 1, none⟩ (.int .i64 b1)).setCell ⟨b, o + 2, none⟩ (.int .i64 b2)).setCell ⟨b, o + 3, none⟩ (.int .i64 b3)).setCell ⟨b, o + 4, none⟩ (.int .i64 b4)).setCell ⟨b, o + 5, none⟩ (.int .i64 b5)) := by
  obtain ⟨iI, hi, hsI, hyI, hzI⟩ := info_int
  refine (run_copy_cells (P := Tryz.prog) W 24 24 3 3 b o 6 6 ⟨g, off, none⟩ 6 c [.int .i64 b0, .int .i64 b1, .int .i64 b2, .int .i64 b3, .int .i64 b4, .int .i64 b5] Tryz.underlying24 (by rw [hi]; simp [hsI]) rfl (fun j v hj => ?_) (fun j hj => hc j hj) (fun j _ => hf j) (fun v hv => ?_)).trans ?_
  · have hadd : (⟨g, off, none⟩ : Addr).add j = ⟨g, off + j, none⟩ := by unfold Addr.add; split <;> simp_all
    rw [hadd]
    obtain rfl | rfl | rfl | rfl | rfl | rfl | hq : j = 0 ∨ j = 1 ∨ j = 2 ∨ j = 3 ∨ j = 4 ∨ j = 5 ∨ 6 ≤ j := by omega
    · exact k0.trans hj
    · exact k1.trans hj
    · exact k2.trans hj
    · exact k3.trans hj
    · exact k4.trans hj
    · exact k5.trans hj
    · rw [List.getElem?_eq_none (by simpa using hq)] at hj; cases hj
  · simp only [List.mem_cons, List.not_mem_nil, or_false] at hv
    rcases hv with rfl | rfl | rfl | rfl | rfl | rfl <;> rfl
  · rfl
set_option maxRecDepth 100000 in
set_option maxHeartbeats 2000000 in
/-- Replace, of twelve places. -/
theorem replace_yes (h : ThV) (g off c : Nat) (r s : R6) (w : World) (hc : 12 ≤ c) (hg : g < w.heap.size) (hl : ∀ j, j < 12 → w.cell? ⟨g, off + j, none⟩ = #[Value.int .i64 r.a0, .int .i64 r.a1, .int .i64 r.a2, .int .i64 r.a3, .int .i64 r.a4, .int .i64 r.a5, .int .i64 s.a0, .int .i64 s.a1, .int .i64 s.a2, .int .i64 s.a3, .int .i64 s.a4, .int .i64 s.a5][j]?) :
    Calls Tryz.prog 32 #[h.v, .slice (some ⟨g, off, none⟩) 12 c] w fun e w' => e = .returned (.tuple #[(ThV.mk h.b h.n r s h.l).v, .bool true]) ∧ Below w.heap.size w w' := by
  obtain ⟨hb, hn, ⟨a0, a1, a2, a3, a4, a5⟩, ⟨s0, s1, s2, s3, s4, s5⟩, hl'⟩ := h
  show Calls _ _ #[.agg #[.int .i64 hb, .int .i64 hn, .int .i64 a0, .int .i64 a1, .int .i64 a2, .int .i64 a3, .int .i64 a4, .int .i64 a5, .int .i64 s0, .int .i64 s1, .int .i64 s2, .int .i64 s3, .int .i64 s4, .int .i64 s5, .bool hl'], .slice (some ⟨g, off, none⟩) 12 c] _ _
  obtain ⟨b0, b1, b2, b3, b4, b5⟩ := r
  obtain ⟨c0, c1, c2, c3, c4, c5⟩ := s
  simp only at hl ⊢
  have k0 := hl 0 (by omega)
  have k1 := hl 1 (by omega)
  have k2 := hl 2 (by omega)
  have k3 := hl 3 (by omega)
  have k4 := hl 4 (by omega)
  have k5 := hl 5 (by omega)
  have k6 := hl 6 (by omega)
  have k7 := hl 7 (by omega)
  have k8 := hl 8 (by omega)
  have k9 := hl 9 (by omega)
  have k10 := hl 10 (by omega)
  have k11 := hl 11 (by omega)
  simp at k0 k1 k2 k3 k4 k5 k6 k7 k8 k9 k10 k11
  clear hl
  have hng : g ≠ w.heap.size := by omega
  have hcI : (6 : Int) ≤ (c : Int) := by omega
  have hcJ : (12 : Int) ≤ (c : Int) := by omega
  go_enter Tryz.func32, Tryz.ntmps32
  go_upto_region 3 with fail
  obtain ⟨W, hW⟩ : ∃ W : World, W = (w.alloc (.cells #[.int .i64 hb, .int .i64 hn, .int .i64 a0, .int .i64 a1, .int .i64 a2, .int .i64 a3, .int .i64 a4, .int .i64 a5, .int .i64 s0, .int .i64 s1, .int .i64 s2, .int .i64 s3, .int .i64 s4, .int .i64 s5, .bool hl'] 57)).alloc (.cells #[.int .i64 0, .int .i64 0, .int .i64 0, .int .i64 0, .int .i64 0, .int .i64 0, .int .i64 0, .int .i64 0, .int .i64 0, .int .i64 0, .int .i64 0, .int .i64 0, .int .i64 0, .int .i64 0, .bool false] 57) := ⟨_, rfl⟩
  rw [← hW]
  have j2 : Blk W w.heap.size #[.int .i64 hb, .int .i64 hn, .int .i64 a0, .int .i64 a1, .int .i64 a2, .int .i64 a3, .int .i64 a4, .int .i64 a5, .int .i64 s0, .int .i64 s1, .int .i64 s2, .int .i64 s3, .int .i64 s4, .int .i64 s5, .bool hl'] 57 := by rw [hW]; exact (Blk.new w _ _).alloc _
  have j4 : Blk W (w.heap.size + 1) #[.int .i64 0, .int .i64 0, .int .i64 0, .int .i64 0, .int .i64 0, .int .i64 0, .int .i64 0, .int .i64 0, .int .i64 0, .int .i64 0, .int .i64 0, .int .i64 0, .int .i64 0, .int .i64 0, .bool false] 57 := by rw [hW]; exact Blk.new_at _ _ _ _ _ (by simp) rfl
  have hbW : Below w.heap.size w W := by rw [hW]; exact balloc (balloc (bsame w) _) _
  have kk : ∀ j, j < 12 → W.cell? ⟨g, off + j, none⟩ = w.cell? ⟨g, off + j, none⟩ := fun j _ => hbW.cell (p := ⟨g, off + j, none⟩) hg
  have q0 := (kk 0 (by omega)).trans k0
  have q1 := (kk 1 (by omega)).trans k1
  have q2 := (kk 2 (by omega)).trans k2
  have q3 := (kk 3 (by omega)).trans k3
  have q4 := (kk 4 (by omega)).trans k4
  have q5 := (kk 5 (by omega)).trans k5
  clear hW k0 k1 k2 k3 k4 k5 kk
  rw [Nat.add_zero] at q0
  have c2 := j2.cell
  have z2 := j2.free
  have l2 := j2.lt
  have hcp := run_cp6 W.drew w.heap.size 2 g off c b0 b1 b2 b3 b4 b5 (fun j hj => by
    have e := c2 (2 + j)
    rw [show W.drew.cell? ⟨w.heap.size, 2 + j, none⟩ = W.cell? ⟨w.heap.size, 2 + j, none⟩ from rfl, e]
    obtain rfl | rfl | rfl | rfl | rfl | rfl : j = 0 ∨ j = 1 ∨ j = 2 ∨ j = 3 ∨ j = 4 ∨ j = 5 := by omega
    all_goals rfl) (fun j => z2 (2 + j)) q0 q1 q2 q3 q4 q5
  go_region
  obtain ⟨X, hX⟩ : ∃ X : World, X = ((((((W.setCell ⟨w.heap.size, 2, none⟩ (.int .i64 b0)).setCell ⟨w.heap.size, 3, none⟩ (.int .i64 b1)).setCell ⟨w.heap.size, 4, none⟩ (.int .i64 b2)).setCell ⟨w.heap.size, 5, none⟩ (.int .i64 b3)).setCell ⟨w.heap.size, 6, none⟩ (.int .i64 b4)).setCell ⟨w.heap.size, 7, none⟩ (.int .i64 b5)).drew := ⟨_, rfl⟩
  rw [← hX]
  have i2 : Blk X w.heap.size #[.int .i64 hb, .int .i64 hn, .int .i64 b0, .int .i64 b1, .int .i64 b2, .int .i64 b3, .int .i64 b4, .int .i64 b5, .int .i64 s0, .int .i64 s1, .int .i64 s2, .int .i64 s3, .int .i64 s4, .int .i64 s5, .bool hl'] 57 := by
    rw [hX]
    have k := drewB ((((((j2.set 2 (.int .i64 b0)).set 3 (.int .i64 b1)).set 4 (.int .i64 b2)).set 5 (.int .i64 b3)).set 6 (.int .i64 b4)).set 7 (.int .i64 b5))
    simp only [List.setIfInBounds_toArray, List.set_cons_zero, List.set_cons_succ] at k
    exact k
  have i4 : Blk X (w.heap.size + 1) #[.int .i64 0, .int .i64 0, .int .i64 0, .int .i64 0, .int .i64 0, .int .i64 0, .int .i64 0, .int .i64 0, .int .i64 0, .int .i64 0, .int .i64 0, .int .i64 0, .int .i64 0, .int .i64 0, .bool false] 57 := by rw [hX]; exact drewB ((((((j4.set_other (a := ⟨w.heap.size, 2, none⟩) (by show w.heap.size + 1 ≠ w.heap.size; omega) (.int .i64 b0)).set_other (a := ⟨w.heap.size, 3, none⟩) (by show w.heap.size + 1 ≠ w.heap.size; omega) (.int .i64 b1)).set_other (a := ⟨w.heap.size, 4, none⟩) (by show w.heap.size + 1 ≠ w.heap.size; omega) (.int .i64 b2)).set_other (a := ⟨w.heap.size, 5, none⟩) (by show w.heap.size + 1 ≠ w.heap.size; omega) (.int .i64 b3)).set_other (a := ⟨w.heap.size, 6, none⟩) (by show w.heap.size + 1 ≠ w.heap.size; omega) (.int .i64 b4)).set_other (a := ⟨w.heap.size, 7, none⟩) (by show w.heap.size + 1 ≠ w.heap.size; omega) (.int .i64 b5))
  have hbX : Below w.heap.size w X := by rw [hX]; exact bdrew (bset (bset (bset (bset (bset (bset hbW (Nat.le_refl _) _) (Nat.le_refl _) _) (Nat.le_refl _) _) (Nat.le_refl _) _) (Nat.le_refl _) _) (Nat.le_refl _) _)
  have kk : ∀ j, j < 12 → X.cell? ⟨g, off + j, none⟩ = w.cell? ⟨g, off + j, none⟩ := fun j _ => hbX.cell (p := ⟨g, off + j, none⟩) hg
  have q6 := (kk 6 (by omega)).trans k6
  have q7 := (kk 7 (by omega)).trans k7
  have q8 := (kk 8 (by omega)).trans k8
  have q9 := (kk 9 (by omega)).trans k9
  have q10 := (kk 10 (by omega)).trans k10
  have q11 := (kk 11 (by omega)).trans k11
  clear hX c2 z2 l2 j2 j4 hbW q0 q1 q2 q3 q4 q5 hcp
  have d2 := i2.cell
  have z2 := i2.free
  have l2 := i2.lt
  go_upto_region 4 with fail
  have hcp := run_cp6 X.drew w.heap.size 8 g (off + 6) (c - 6) c0 c1 c2 c3 c4 c5 (fun j hj => by
    have e := d2 (8 + j)
    rw [show X.drew.cell? ⟨w.heap.size, 8 + j, none⟩ = X.cell? ⟨w.heap.size, 8 + j, none⟩ from rfl, e]
    obtain rfl | rfl | rfl | rfl | rfl | rfl : j = 0 ∨ j = 1 ∨ j = 2 ∨ j = 3 ∨ j = 4 ∨ j = 5 := by omega
    all_goals rfl) (fun j => z2 (8 + j)) q6 q7 q8 q9 q10 q11
  go_region
  obtain ⟨Y, hY⟩ : ∃ Y : World, Y = ((((((X.setCell ⟨w.heap.size, 8, none⟩ (.int .i64 c0)).setCell ⟨w.heap.size, 9, none⟩ (.int .i64 c1)).setCell ⟨w.heap.size, 10, none⟩ (.int .i64 c2)).setCell ⟨w.heap.size, 11, none⟩ (.int .i64 c3)).setCell ⟨w.heap.size, 12, none⟩ (.int .i64 c4)).setCell ⟨w.heap.size, 13, none⟩ (.int .i64 c5)).drew := ⟨_, rfl⟩
  rw [← hY]
  have m2 : Blk Y w.heap.size #[.int .i64 hb, .int .i64 hn, .int .i64 b0, .int .i64 b1, .int .i64 b2, .int .i64 b3, .int .i64 b4, .int .i64 b5, .int .i64 c0, .int .i64 c1, .int .i64 c2, .int .i64 c3, .int .i64 c4, .int .i64 c5, .bool hl'] 57 := by
    rw [hY]
    have k := drewB ((((((i2.set 8 (.int .i64 c0)).set 9 (.int .i64 c1)).set 10 (.int .i64 c2)).set 11 (.int .i64 c3)).set 12 (.int .i64 c4)).set 13 (.int .i64 c5))
    simp only [List.setIfInBounds_toArray, List.set_cons_zero, List.set_cons_succ] at k
    exact k
  have m4 : Blk Y (w.heap.size + 1) #[.int .i64 0, .int .i64 0, .int .i64 0, .int .i64 0, .int .i64 0, .int .i64 0, .int .i64 0, .int .i64 0, .int .i64 0, .int .i64 0, .int .i64 0, .int .i64 0, .int .i64 0, .int .i64 0, .bool false] 57 := by rw [hY]; exact drewB ((((((i4.set_other (a := ⟨w.heap.size, 8, none⟩) (by show w.heap.size + 1 ≠ w.heap.size; omega) (.int .i64 c0)).set_other (a := ⟨w.heap.size, 9, none⟩) (by show w.heap.size + 1 ≠ w.heap.size; omega) (.int .i64 c1)).set_other (a := ⟨w.heap.size, 10, none⟩) (by show w.heap.size + 1 ≠ w.heap.size; omega) (.int .i64 c2)).set_other (a := ⟨w.heap.size, 11, none⟩) (by show w.heap.size + 1 ≠ w.heap.size; omega) (.int .i64 c3)).set_other (a := ⟨w.heap.size, 12, none⟩) (by show w.heap.size + 1 ≠ w.heap.size; omega) (.int .i64 c4)).set_other (a := ⟨w.heap.size, 13, none⟩) (by show w.heap.size + 1 ≠ w.heap.size; omega) (.int .i64 c5))
  have hbY : Below w.heap.size w Y := by rw [hY]; exact bdrew (bset (bset (bset (bset (bset (bset hbX (Nat.le_refl _) _) (Nat.le_refl _) _) (Nat.le_refl _) _) (Nat.le_refl _) _) (Nat.le_refl _) _) (Nat.le_refl _) _)
  clear hY d2 z2 l2 i2 i4 hbX hcp
  have d2 := m2.cell
  have d4 := m4.cell
  have z4 := m4.free
  have l4 := m4.lt
  go_wp2_with fail
  change bodyPost _ _ _ _ _ (thW Y (w.heap.size + 1) ⟨hb, hn, ⟨b0, b1, b2, b3, b4, b5⟩, ⟨c0, c1, c2, c3, c4, c5⟩, hl'⟩)
  have hres := Lib.hid (thW_blk (g := ⟨0, 0, ⟨0, 0, 0, 0, 0, 0⟩, ⟨0, 0, 0, 0, 0, 0⟩, false⟩) m4 ⟨hb, hn, ⟨b0, b1, b2, b3, b4, b5⟩, ⟨c0, c1, c2, c3, c4, c5⟩, hl'⟩)
  have hrb := Lib.hid (thW_below hbY (Nat.le_succ w.heap.size) ⟨hb, hn, ⟨b0, b1, b2, b3, b4, b5⟩, ⟨c0, c1, c2, c3, c4, c5⟩, hl'⟩)
  clear d2 d4 z4 l4 m2 m4 hbY
  generalize thW Y (w.heap.size + 1) ⟨hb, hn, ⟨b0, b1, b2, b3, b4, b5⟩, ⟨c0, c1, c2, c3, c4, c5⟩, hl'⟩ = X at *
  exact bodyPost_ret (results_thb _ _ 4 5 rfl rfl rfl hres.out) rfl ⟨rfl, hrb.out⟩
set_option maxRecDepth 100000 in
set_option maxHeartbeats 2000000 in
/-- Replace, of any other number of places. -/
theorem replace_no (h : ThV) (a : Option Addr) (n c : Nat) (hn12 : n ≠ 12) (w : World) :
    Calls Tryz.prog 32 #[h.v, .slice a n c] w fun e w' => e = .returned (.tuple #[h.v, .bool false]) ∧ Below w.heap.size w w' := by
  have hnb : ((n : Int) != 12) = true := by rw [bne_iff_ne]; omega
  obtain ⟨hb, hn, ⟨a0, a1, a2, a3, a4, a5⟩, ⟨s0, s1, s2, s3, s4, s5⟩, hl'⟩ := h
  show Calls _ _ #[.agg #[.int .i64 hb, .int .i64 hn, .int .i64 a0, .int .i64 a1, .int .i64 a2, .int .i64 a3, .int .i64 a4, .int .i64 a5, .int .i64 s0, .int .i64 s1, .int .i64 s2, .int .i64 s3, .int .i64 s4, .int .i64 s5, .bool hl'], .slice a n c] _ _
  clear hn12
  go_enter Tryz.func32, Tryz.ntmps32
  go_wp2_with fail
  refine bodyPost_ret (results_thb (h := ⟨hb, hn, ⟨a0, a1, a2, a3, a4, a5⟩, ⟨s0, s1, s2, s3, s4, s5⟩, hl'⟩) (b6 := w.heap.size + 1) _ _ 4 5 rfl rfl rfl (Blk.new_at _ _ _ _ _ (by simp) rfl)) rfl ⟨rfl, balloc (balloc (bsame w) _) _⟩
end Go.Proofs.YtemohiainfllcaaGreat
