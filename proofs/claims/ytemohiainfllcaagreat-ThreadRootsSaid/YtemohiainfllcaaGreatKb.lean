/- Walks: a transaction that changed something, or took, commits. -/
import Derived.Test.YtemohiainfllcaaGreatKa
namespace Go.Proofs.YtemohiainfllcaaGreat
open Go.RowKit Hp
attribute [local go_sem ↓] Go.wp_at_zero Go.wp_at_succ
def com1 (v : Nat) (l : List (Nat × Ob)) (z : Nat × Nat) : List (Nat × Ob) := match lk l z.1 with | some ob => up l z.1 (ob.setSecond (2 * v)) | none => l
def comL (l : List (Nat × Ob)) (zs : List (Nat × Nat)) (v : Nat) : List (Nat × Ob) := zs.foldl (com1 v) l
theorem com1_same (v : Nat) (l : List (Nat × Ob)) (z : Nat × Nat) : SameK l (com1 v l z) := by
  unfold com1; split
  · rename_i h; exact SameK.up h rfl
  · exact SameK.refl _
theorem comL_same (l : List (Nat × Ob)) (zs : List (Nat × Nat)) (v : Nat) : SameK l (comL l zs v) := by
  induction zs generalizing l with
  | nil => exact SameK.refl _
  | cons z zs ih => exact (com1_same v l z).trans (ih _)
theorem com1_ok {S : Stt} {l : List (Nat × Ob)} (hk : (S.cur' l).ok) {z : Nat × Nat} {v : Nat} (hv : v ≤ 1099511627776) : (S.cur' (com1 v l z)).ok := by
  unfold com1; split
  · rename_i ob h; exact Stt.ok_up' hk h (Ob.setSecond_ok (ok_of_lk (S := S.cur' l) hk h) _ (by omega)) rfl
  · exact hk
theorem comL_ok {S : Stt} {l : List (Nat × Ob)} (hk : (S.cur' l).ok) (zs : List (Nat × Nat)) {v : Nat} (hv : v ≤ 1099511627776) : (S.cur' (comL l zs v)).ok := by
  induction zs generalizing l with
  | nil => exact hk
  | cons z zs ih => exact ih (com1_ok hk hv)
/-- The store behind a commit. -/
def Stt.committed (S : Stt) (i : Nat) (x : Tx) : Stt :=
  { S with H := { S.H with cur := comL S.H.cur x.log.holds (S.now + 1) }, now := S.now + 1, txs := S.txs.set i x.ended, holder := if S.holder = (i : Int) then -1 else S.holder, version := if S.holder = (i : Int) then S.now + 1 else S.version }
section
variable {w w' : World} {o o' : Own} {y : SLay} {S : Stt} {x : Tx} {i : Nat}
def cmTag (y : SLay) (i : Nat) (t : Tag) : Prop := abTag y i t ∨ t = (y.l.id, 10)
theorem cmTag_box (y : SLay) (i : Nat) : ¬ cmTag y i (y.l.id + 1, 0) := by
  rintro (h | h)
  · exact abTag_box y i h
  · injection h with h _; omega
theorem tick_st (h : StIn w o y S) (hk : S.ok) (hm : S.now < S.most) :
    Calls Tryz.prog 56 #[ptr y.ck] w fun e w' => e = .returned (.tuple #[.int .i64 ((S.now + 1 : Nat) : Int), .bool true]) ∧ StIn w' o y { S with now := S.now + 1 } ∧ Stp (fun t => t = (y.l.id, 10)) o o w w' := by
  refine (clk_tick h.ck (by omega) (by omega) (by have := hk.n2; omega)).mono ?_
  rintro e w' ⟨rfl, hb, hw⟩
  have hs : Stp (fun t => t = (y.l.id, 10)) o o w w' := Stp.of_wr hw h.oc
  exact ⟨by simp, h.clock (n := S.now + 1) (by simpa using hb) hs, hs⟩
set_option maxRecDepth 100000 in
set_option maxHeartbeats 4000000 in
theorem commit1_write (h0 : StIn w o y S) (hk : S.ok) (hx : S.txs[i]? = some x) (hw : x.log.holds = [] → S.holder = (i : Int)) (hm : S.now < S.most)
    (hR : ∀ p ∈ x.log.reads, ∃ ob, lk S.H.cur p = some ob ∧ SecOk ob.second ∧ clashB i x.start ob.second = false) (hH : ∀ z ∈ x.log.holds, (lk S.H.cur z.1).isSome = true)
    {b1 : Nat} (j1 : Blk w b1 #[ptr y.sb] 23) (t1 : o b1 = (y.l.id + 1, 0)) :
    Calls Tryz.prog 51 #[ptr (y.xb i), ptr b1] w fun e w' => e = .returned (.tuple #[.int .i64 ((S.now + 1 : Nat) : Int), .int .i64 0]) ∧ ∃ o', StIn w' o' y (S.committed i x) ∧ Stp (cmTag y i) o o' w w' := by
  have HTk := Lib.hid (fun (w' : World) (o' : Own) (h' : StIn w' o' y S) => tick_st h' hk hm)
  obtain ⟨V, hV⟩ : ∃ V, V = S.now + 1 := ⟨_, rfl⟩
  rw [← hV] at HTk ⊢
  have hM2 : V ≤ 1099511627776 := by have := hk.n2; omega
  have hVm : V ≤ S.most := by omega
  obtain ⟨S1, hS1⟩ : ∃ S1 : Stt, S1 = { S with now := V } := ⟨_, rfl⟩
  rw [← hS1] at HTk
  have hk1 : S1.ok := by rw [hS1]; exact ⟨hk.F, hVm, hk.n2, hk.t1, hk.t8, hk.lg, fun z hz => by have := hk.st z hz; show z.start ≤ V; omega, by have := hk.ve; show S.version ≤ V; omega, hk.ho⟩
  have HK1 := Lib.hid hk1
  have HV := Lib.hid hV
  have HS1 := Lib.hid hS1
  have hcur : S1.H.cur = S.H.cur := by rw [hS1]
  have htxs : S1.txs = S.txs := by rw [hS1]
  have hhol : S1.holder = S.holder := by rw [hS1]
  have hver : S1.version = S.version := by rw [hS1]
  have HCu := Lib.hid hcur
  have HTx := Lib.hid htxs
  have HHl := Lib.hid hhol
  have HVe := Lib.hid hver
  clear hV hS1 hk1 hVm hcur htxs hhol hver
  obtain ⟨o1, ho1⟩ : ∃ o1, o1 = ext o w.heap.size (y.l.id + 1, 0) := ⟨_, rfl⟩
  have h := h0.retag (o' := o1) fun b hb => by rw [ho1]; exact ext_lt hb
  have hS0 : Stp (cmTag y i) o o1 w w := by rw [ho1]; exact (Stp.refl _ o w).ext _ _ (Nat.le_refl _)
  have hbx : ∀ b, w.heap.size ≤ b → o1 b = (y.l.id + 1, 0) := fun b hb => by rw [ho1]; exact ext_ge hb
  have hext : ∀ n, w.heap.size ≤ n → ext o1 n (y.l.id + 1, 0) = o1 := fun n hn => by rw [ho1]; exact ext_ext _ _ _ _ hn
  have u1 : o1 b1 = (y.l.id + 1, 0) := by rw [ho1, ext_lt j1.lt]; exact t1
  clear ho1 h0 t1
  have hx' := h.txs i x hx
  obtain ⟨vr, vk, vh, vu, hl⟩ := hx'.log
  have hlg := hk.lg x (List.mem_of_getElem? hx)
  have HLH := Lib.hid (log_holds hl hlg (y.l.id + 1, 0))
  have HLR := Lib.hid (fun w' (hw : Below w.heap.size w w') => log_reads (hl.below hw) hlg (y.l.id + 1, 0))
  have jx := hx'.blk
  have jb := h.blk
  have hlen1 : x.log.reads.length ≤ 200 := by have := hlg.r; have := hlg.mr; omega
  have hlen2 : x.log.holds.length ≤ 200 := by have := hlg.h; have := hlg.mu; omega
  have H := Lib.hid h
  have HK := Lib.hid hk
  have HS := Lib.hid hS0
  have HB := Lib.hid hbx
  have HE := Lib.hid hext
  have HX := Lib.hid hx
  have HRd := Lib.hid hR
  have HHo := Lib.hid hH
  have HM := Lib.hid hm
  have HU1 := Lib.hid u1
  obtain ⟨rs, hrs⟩ : ∃ rs, rs = x.log.reads := ⟨_, rfl⟩
  obtain ⟨hs, hhs⟩ : ∃ hs, hs = x.log.holds := ⟨_, rfl⟩
  rw [← hrs] at HRd HLR hlen1
  rw [← hhs] at HHo HLH hlen2 hw
  have HRS := Lib.hid hrs
  have HHS := Lib.hid hhs
  have HWr := Lib.hid hw
  unfold stCells at jb
  clear h hk hS0 hbx hext hx hR hH hm hx' hl hlg hrs hhs u1 hw
  have c1 := j1.cell
  have cx := jx.cell
  go_enter Tryz.func51, Tryz.ntmps51
  go_wp2_with fail
  refine HLH.out.mono ?_
  rintro e w1 ⟨v1, rfl, hr1, hb1⟩
  obtain ⟨pa1, cp1, rfl⟩ := hr1.slc
  rw [HE.out _ (Nat.le_refl _)] at hr1
  clear c1 cx
  have c1 := (j1.below hb1 j1.lt).cell
  have s1 := (j1.below hb1 j1.lt).lt
  have cx := (jx.below hb1 jx.lt).cell
  have cb := (jb.below hb1 jb.lt).cell
  go_upto_region 2 with fail
  have hcase : ((((hs.length : Nat) : Int) == 0) = true ∧ (S.holder == (i : Int)) = true ∧ (S.holder != (i : Int)) = false) ∨ (((hs.length : Nat) : Int) == 0) = false := by
    by_cases hl0 : hs.length = 0
    · have hh : S.holder = (i : Int) := HWr.out (List.eq_nil_of_length_eq_zero hl0)
      have hhb : (S.holder == (i : Int)) = true := by rw [beq_iff_eq]; exact hh
      exact .inl ⟨by rw [beq_iff_eq]; omega, hhb, by rw [bne, hhb]; rfl⟩
    · exact .inr (by rw [beq_eq_false_iff_ne]; omega)
  rcases hcase with ⟨hlb, hhb, hhn⟩ | hlb
  all_goals
    go_quiet (fail)
    obtain ⟨W, hW⟩ : ∃ W : World, W = w1.drewN nq := ⟨_, rfl⟩
    have hbW : Below w.heap.size w W := by rw [hW]; exact bdrewN hb1 _
    have hr2 : Row W o1 (y.l.id + 1, 0) 108 2 (.slice pa1 hs.length cp1) hs.length (hcells hs) := by rw [hW]; exact hr1.below (bdrewN (bsame _) _)
    rw [← hW]
    clear hW hr1 hb1 c1 s1 cx cb
    have cx := (jx.below hbW jx.lt).cell
    go_wp2_with fail
    refine (HLR.out _ hbW).mono ?_
    rintro e w2 ⟨v2, rfl, hrr, hb2⟩
    obtain ⟨pa2, cp2, rfl⟩ := hrr.slc
    rw [HE.out _ hbW.size] at hrr
    have hr3 := hr2.below hb2
    have hbW2 := btrans hbW hb2
    clear cx hr2 hb2 hbW
    go_wp2_with fail
    go_loopw [40] (fun ix wr => ∃ k : Nat, ix = .int .i64 k ∧ k ≤ rs.length ∧ Below w2.heap.size w2 wr) (fun ix _ => rs.length - (intOf ix).toNat)
    case atStart => exact ⟨0, rfl, Nat.zero_le _, bsame _⟩
    case round =>
      obtain ⟨k, rfl, hkl, hbr⟩ := hrel
      have hbw := btrans hbW2 hbr
      have c1 := (j1.below hbw j1.lt).cell
      by_cases hlt : k < rs.length
      · have kI : (k : Int) < (rs.length : Int) := by omega
        have hgk := List.getElem?_eq_getElem hlt
        obtain ⟨p, hp⟩ : ∃ p, p = rs[k] := ⟨_, rfl⟩
        rw [← hp] at hgk
        obtain ⟨ob, hob, hso, hcl⟩ := HRd.out p (List.mem_of_getElem? hgk)
        rcases (hrr.below hbr).form with ⟨_, h0⟩ | ⟨g, cap, e, _⟩
        · omega
        · injection e with e1 _ e3
          subst e1 e3
          have q0 : wr.cell? ⟨g, k, none⟩ = some (.int .i64 p) := (hrr.below hbr).cells k _ (by rw [List.getElem?_map, hgk]; rfl)
          have HC := Lib.hid (clash_in (H.out.below hbw) HK.out HX.out hob hso)
          rw [hcl] at HC
          clear hgk hp hob hso hcl
          go_wp2_with fail
          refine HC.out.mono ?_
          rintro e w3 ⟨rfl, hb3⟩
          go_wp2_with fail
          go_roundw
          case rel => exact ⟨k + 1, by simp, by omega, btrans hbr hb3⟩
          case measure => simp [intOf]; omega
      · obtain rfl : k = rs.length := by omega
        clear hlt
        have HT := Lib.hid (HTk.out _ _ (H.out.below hbw))
        have hr4 := hr3.below hbr
        have j4 := j1.below hbw j1.lt
        have cb := (jb.below hbw jb.lt).cell
        go_wp2_with fail
        refine HT.out.mono ?_
        rintro e w3 ⟨rfl, hS3, hs3⟩
        have hck : ¬ (fun t => t = (y.l.id, 10)) (y.l.id + 1, 0) := fun e => by injection e with e _; omega
        have hr5 := hr4.stp hs3 hck
        have j5 := j4.stp hs3 (by rw [HU1.out]; exact hck)
        have hst5 : Stp (cmTag y i) o1 o1 w w3 := (Stp.of_below hbw).trans (hs3.mono fun _ h => .inr h)
        have hS5 : StIn w3 o1 y (S1.cur' (comL S1.H.cur [] V)) := hS3
        clear hr4 j4 hS3 hs3 c1 cb hck
        go_wp2_with fail
        go_loopw [59] (fun ix wr => ∃ k : Nat, ix = .int .i64 k ∧ k ≤ hs.length ∧ StIn wr o1 y (S1.cur' (comL S1.H.cur (hs.take k) V)) ∧ Row wr o1 (y.l.id + 1, 0) 108 2 (.slice pa1 hs.length cp1) hs.length (hcells hs) ∧ Blk wr b1 #[ptr y.sb] 23 ∧ Stp (cmTag y i) o1 o1 w wr) (fun ix _ => hs.length - (intOf ix).toNat)
        case atStart => exact ⟨0, rfl, Nat.zero_le _, hS5, hr5, j5, hst5⟩
        case round =>
          clear hr5 j5 hst5 hS5
          obtain ⟨k, rfl, hkh, hA, hr, jb1, hst⟩ := hrel
          obtain ⟨wo, rfl⟩ : ∃ wo : World, wo = wr := ⟨_, rfl⟩
          by_cases hlt : k < hs.length
          · have kI : (k : Int) < (hs.length : Int) := by omega
            have hgk := List.getElem?_eq_getElem hlt
            obtain ⟨z, hz⟩ : ∃ z, z = hs[k] := ⟨_, rfl⟩
            rw [← hz] at hgk
            have htk : hs.take (k + 1) = hs.take k ++ [z] := by rw [hz]; exact List.take_succ_eq_append_getElem hlt
            have hz1 := HHo.out z (List.mem_of_getElem? hgk)
            rcases hr.form4 with ⟨_, h0⟩ | ⟨g, cap, e, hn⟩
            · have := hcells_at hs k z hgk
              rw [h0] at this; simp at this
            · injection e with e1 _ e3
              subst e1 e3
              obtain ⟨r0, r1⟩ := hr.cell2 k z hgk
              obtain ⟨p, v⟩ := z
              have q0 : wo.cell? ⟨g, k * 2, none⟩ = some (.int .i64 p) := r0
              have q1 : wo.cell? ⟨g, k * 2 + 1, none⟩ = some (.int .i64 v) := r1
              clear r0 r1
              simp only at hz1
              have hok : (S1.cur' (comL S1.H.cur (hs.take k) V)).ok := comL_ok HK1.out _ hM2
              have hsm : SameK S1.H.cur (comL S1.H.cur (hs.take k) V) := comL_same _ _ _
              have hstep : comL S1.H.cur (hs.take (k + 1)) V = com1 V (comL S1.H.cur (hs.take k) V) (p, v) := by rw [htk]; unfold comL; rw [List.foldl_append]; rfl
              have HST := Lib.hid hstep
              obtain ⟨l2, hl2⟩ : ∃ l2, l2 = comL S1.H.cur (hs.take k) V := ⟨_, rfl⟩
              rw [← hl2] at hA hok hsm HST
              obtain ⟨ob, hob⟩ := Option.isSome_iff_exists.1 (hsm.isSome (by rw [HCu.out]; exact hz1))
              have hr1 : com1 V l2 (p, v) = up l2 p (ob.setSecond (2 * V)) := by unfold com1; rw [hob]
              rw [hr1] at HST
              clear hl2 hstep htk hz hgk hz1 hsm hr1
              have HR1 := Lib.hid (release_in (hA.below (balloc (bsame _) (.cells #[.int .i64 p, .int .i64 v] 108))) hok hob hM2)
              have jb2 := jb1.alloc (.cells #[.int .i64 p, .int .i64 v] 108)
              have hr1 := hr.below (balloc (bsame _) (.cells #[.int .i64 p, .int .i64 v] 108))
              have hst1 := hst.alloc (.cells #[.int .i64 p, .int .i64 v] 108)
              have c1 := jb1.cell 0
              have s1 := jb1.lt
              clear hA hr hok hob
              go_wp2_with fail
              refine HR1.out.mono ?_
              rintro e w5 ⟨rfl, hS5, hs5⟩
              have hr5 := hr1.stp hs5 (hpTag_box y)
              have j5 := jb2.stp hs5 (by rw [HU1.out]; exact hpTag_box y)
              have hst5 : Stp (cmTag y i) o1 o1 w w5 := hst1.trans (hs5.mono fun _ h => .inl (.inl (opTag_hp h)))
              go_wp2_with fail
              go_roundw
              case rel => exact ⟨k + 1, by simp, by omega, by rw [HST.out]; exact hS5, hr5, j5, hst5⟩
              case measure => simp [intOf]; omega
          · obtain rfl : k = hs.length := by omega
            rw [List.take_length] at hA
            clear hlt
            try clear hhb hhn
            have hx6 : (S1.cur' (comL S1.H.cur hs V)).txs[i]? = some x := by show S1.txs[i]? = _; rw [HTx.out]; exact HX.out
            have jbb := hA.blk
            unfold stCells at jbb
            have cx := (hA.txs i x hx6).blk.cell
            have cb := jbb.cell
            have zb := jbb.free
            have sb := jbb.lt
            have c1 := jb1.cell 0
            have s1 := jb1.lt
            by_cases hh : S1.holder = (i : Int)
            · have hhb : (S1.holder == (i : Int)) = true := by rw [beq_iff_eq]; exact hh
              have nsb : b1 ≠ y.sb := fun e => by have h1 := HU1.out; rw [e, hA.os] at h1; injection h1 with h1 _; omega
              have hos : o1 y.sb = (y.l.id, 11) := hA.os
              have hfin := Lib.hid (fun (W : World) (hb : Below wo.heap.size wo W) =>
                have hs7 : Stp (ownTag y) o1 o1 wo ((W.setCell ⟨y.sb, 6, none⟩ (.int .i64 (-1))).setCell ⟨y.sb, 7, none⟩ (.int .i64 V)) := ((Stp.of_below hb).setCell (by show o1 y.sb = _; exact hos) _).setCell (by show o1 y.sb = _; exact hos) _
                have hS7 : StIn ((W.setCell ⟨y.sb, 6, none⟩ (.int .i64 (-1))).setCell ⟨y.sb, 7, none⟩ (.int .i64 V)) o1 y { S1.cur' (comL S1.H.cur hs V) with holder := -1, version := V } := by
                  refine hA.own ?_ hs7
                  have := ((hA.blk.below hb hA.blk.lt).set 6 (.int .i64 (-1))).set 7 (.int .i64 V)
                  simpa [stCells] using this
                And.intro hs7 hS7)
              clear hh hos
              go_upto_region 17 with fail
              go_quiet (fail)
              have HF := Lib.hid (hfin.out (wo.drewN nq) (bdrewN (bsame _) _))
              have HEn := Lib.hid (end_in HF.out.2 (i := i) (x := x) hx6)
              go_wp2_with fail
              refine HEn.out.mono ?_
              rintro e w6 ⟨rfl, hS6, hs6⟩
              go_wp2_with fail
              go_ret2
              refine ⟨rfl, o1, ?_, HS.out.trans (hst.trans ((HF.out.1.mono fun _ h => .inl (.inr h)).trans (hs6.mono fun _ h => .inl (.inl (opTag_tx h)))))⟩
              have e1 : S.committed i x = { S1.cur' (comL S1.H.cur hs V) with txs := S1.txs.set i x.ended, holder := -1, version := V } := by
                have hh' : S.holder = (i : Int) := by rw [← HHl.out]; exact beq_iff_eq.1 hhb
                unfold Stt.committed
                rw [if_pos hh', if_pos hh', ← HHS.out, ← HV.out, HS1.out]
              rw [e1]; exact hS6
            · have hhb : (S1.holder == (i : Int)) = false := by rw [beq_eq_false_iff_ne]; exact hh
              go_upto_region 17 with fail
              go_quiet (fail)
              have HEn := Lib.hid (end_in (hA.below (bdrewN (bsame _) nq)) (i := i) (x := x) hx6)
              go_wp2_with fail
              refine HEn.out.mono ?_
              rintro e w6 ⟨rfl, hS6, hs6⟩
              go_wp2_with fail
              go_ret2
              refine ⟨rfl, o1, ?_, HS.out.trans (hst.trans ((Stp.of_below (bdrewN (bsame _) _)).trans (hs6.mono fun _ h => .inl (.inl (opTag_tx h)))))⟩
              have e1 : S.committed i x = { S1.cur' (comL S1.H.cur hs V) with txs := S1.txs.set i x.ended } := by
                have hh' : ¬ S.holder = (i : Int) := by rw [← HHl.out]; exact hh
                unfold Stt.committed
                rw [if_neg hh', if_neg hh', ← HHS.out, ← HV.out, HS1.out]
              rw [e1]; exact hS6
theorem clash_find {S : Stt} {i : Nat} {x : Tx} (hR : ∀ p ∈ x.log.reads, ∃ ob, lk S.H.cur p = some ob ∧ SecOk ob.second) :
    (∀ p ∈ x.log.reads, ∃ ob, lk S.H.cur p = some ob ∧ SecOk ob.second ∧ clashB i x.start ob.second = false) ∨
    ∃ j p ob, x.log.reads[j]? = some p ∧ lk S.H.cur p = some ob ∧ SecOk ob.second ∧ clashB i x.start ob.second = true ∧ ∀ (k q : Nat), k < j → x.log.reads[k]? = some q → ∃ ob, lk S.H.cur q = some ob ∧ SecOk ob.second ∧ clashB i x.start ob.second = false := by
  generalize x.log.reads = rs at *
  induction rs with
  | nil => exact .inl fun p hp => by cases hp
  | cons p rs ih =>
    obtain ⟨ob, h1, h2⟩ := hR p (.head _)
    cases hc : clashB i x.start ob.second with
    | true => exact .inr ⟨0, p, ob, rfl, h1, h2, hc, fun k q hk => by omega⟩
    | false =>
      rcases ih fun q hq => hR q (.tail _ hq) with h | ⟨j, q, o2, a1, a2, a3, a4, a5⟩
      · refine .inl fun q hq => ?_
        rcases List.mem_cons.1 hq with rfl | hq
        · exact ⟨ob, h1, h2, hc⟩
        · exact h q hq
      · refine .inr ⟨j + 1, q, o2, by simpa using a1, a2, a3, a4, fun k q' hk hq => ?_⟩
        cases k with
        | zero => simp at hq; subst hq; exact ⟨ob, h1, h2, hc⟩
        | succ k => exact a5 k q' (by omega) (by simpa using hq)
set_option maxRecDepth 100000 in
set_option maxHeartbeats 4000000 in
/-- One of what it read is another's now. -/
theorem commit1_clash (h : StIn w o y S) (hk : S.ok) (hx : S.txs[i]? = some x) (hw : x.log.holds = [] → S.holder = (i : Int))
    (hR : ∃ j p ob, x.log.reads[j]? = some p ∧ lk S.H.cur p = some ob ∧ SecOk ob.second ∧ clashB i x.start ob.second = true ∧ ∀ (k q : Nat), k < j → x.log.reads[k]? = some q → ∃ ob, lk S.H.cur q = some ob ∧ SecOk ob.second ∧ clashB i x.start ob.second = false)
    {b1 : Nat} (j1 : Blk w b1 #[ptr y.sb] 23) :
    Calls Tryz.prog 51 #[ptr (y.xb i), ptr b1] w fun e w' => e = .returned (.tuple #[.int .i64 0, .int .i64 141]) ∧ Below w.heap.size w w' := by
  have hx' := h.txs i x hx
  obtain ⟨vr, vk, vh, vu, hl⟩ := hx'.log
  have hlg := hk.lg x (List.mem_of_getElem? hx)
  have HLH := Lib.hid (log_holds hl hlg (y.l.id + 1, 0))
  have HLR := Lib.hid (fun w' (hw : Below w.heap.size w w') => log_reads (hl.below hw) hlg (y.l.id + 1, 0))
  have jx := hx'.blk
  have jb := h.blk
  have hlen1 : x.log.reads.length ≤ 200 := by have := hlg.r; have := hlg.mr; omega
  have hlen2 : x.log.holds.length ≤ 200 := by have := hlg.h; have := hlg.mu; omega
  obtain ⟨J, pJ, obJ, hJ1, hJ2, hJ3, hJ4, hJ5⟩ := hR
  have hJl := (List.getElem?_eq_some_iff.1 hJ1).1
  have H := Lib.hid h
  have HK := Lib.hid hk
  have HX := Lib.hid hx
  have HJ1 := Lib.hid hJ1
  have HJ2 := Lib.hid hJ2
  have HJ4 := Lib.hid hJ4
  have HJ5 := Lib.hid hJ5
  have HWr := Lib.hid hw
  obtain ⟨rs, hrs⟩ : ∃ rs, rs = x.log.reads := ⟨_, rfl⟩
  obtain ⟨hs, hhs⟩ : ∃ hs, hs = x.log.holds := ⟨_, rfl⟩
  rw [← hrs] at HJ1 HJ5 HLR hlen1 hJl
  rw [← hhs] at HLH hlen2 HWr
  unfold stCells at jb
  clear h hk hx hx' hl hlg hrs hhs hw hJ1 hJ2 hJ4 hJ5
  have c1 := j1.cell
  have cx := jx.cell
  go_enter Tryz.func51, Tryz.ntmps51
  go_wp2_with fail
  refine HLH.out.mono ?_
  rintro e w1 ⟨v1, rfl, hr1, hb1⟩
  obtain ⟨pa1, cp1, rfl⟩ := hr1.slc
  clear c1 cx
  have c1 := (j1.below hb1 j1.lt).cell
  have s1 := (j1.below hb1 j1.lt).lt
  have cx := (jx.below hb1 jx.lt).cell
  have cb := (jb.below hb1 jb.lt).cell
  go_upto_region 2 with fail
  have hcase : ((((hs.length : Nat) : Int) == 0) = true ∧ (S.holder == (i : Int)) = true ∧ (S.holder != (i : Int)) = false) ∨ (((hs.length : Nat) : Int) == 0) = false := by
    by_cases hl0 : hs.length = 0
    · have hh : S.holder = (i : Int) := HWr.out (List.eq_nil_of_length_eq_zero hl0)
      have hhb : (S.holder == (i : Int)) = true := by rw [beq_iff_eq]; exact hh
      exact .inl ⟨by rw [beq_iff_eq]; omega, hhb, by rw [bne, hhb]; rfl⟩
    · exact .inr (by rw [beq_eq_false_iff_ne]; omega)
  rcases hcase with ⟨hlb, hhb, hhn⟩ | hlb
  all_goals
    go_quiet (fail)
    obtain ⟨W, hW⟩ : ∃ W : World, W = w1.drewN nq := ⟨_, rfl⟩
    have hbW : Below w.heap.size w W := by rw [hW]; exact bdrewN hb1 _
    rw [← hW]
    clear hW hr1 hb1 c1 s1 cx cb
    have cx := (jx.below hbW jx.lt).cell
    go_wp2_with fail
    refine (HLR.out _ hbW).mono ?_
    rintro e w2 ⟨v2, rfl, hrr, hb2⟩
    obtain ⟨pa2, cp2, rfl⟩ := hrr.slc
    have hbW2 := btrans hbW hb2
    clear cx hb2 hbW
    go_wp2_with fail
    go_loopw [40] (fun ix wr => ∃ k : Nat, ix = .int .i64 k ∧ k ≤ J ∧ Below w2.heap.size w2 wr) (fun ix _ => rs.length - (intOf ix).toNat)
    case atStart => exact ⟨0, rfl, Nat.zero_le _, bsame _⟩
    case round =>
      obtain ⟨k, rfl, hkl, hbr⟩ := hrel
      have hbw := btrans hbW2 hbr
      have c1 := (j1.below hbw j1.lt).cell
      have kI : (k : Int) < (rs.length : Int) := by omega
      have hlt : k < rs.length := by omega
      by_cases hkJ : k < J
      · have hgk := List.getElem?_eq_getElem hlt
        obtain ⟨p, hp⟩ : ∃ p, p = rs[k] := ⟨_, rfl⟩
        rw [← hp] at hgk
        obtain ⟨ob, hob, hso, hcl⟩ := HJ5.out k p hkJ hgk
        rcases (hrr.below hbr).form with ⟨_, h0⟩ | ⟨g, cap, e, _⟩
        · omega
        · injection e with e1 _ e3
          subst e1 e3
          have q0 : wr.cell? ⟨g, k, none⟩ = some (.int .i64 p) := (hrr.below hbr).cells k _ (by rw [List.getElem?_map, hgk]; rfl)
          have HC := Lib.hid (clash_in (H.out.below hbw) HK.out HX.out hob hso)
          rw [hcl] at HC
          clear hgk hp hob hso hcl
          go_wp2_with fail
          refine HC.out.mono ?_
          rintro e w3 ⟨rfl, hb3⟩
          go_wp2_with fail
          go_roundw
          case rel => exact ⟨k + 1, by simp, by omega, btrans hbr hb3⟩
          case measure => simp [intOf]; omega
      · obtain rfl : k = J := by omega
        rcases (hrr.below hbr).form with ⟨_, h0⟩ | ⟨g, cap, e, _⟩
        · omega
        · injection e with e1 _ e3
          subst e1 e3
          have q0 : wr.cell? ⟨g, k, none⟩ = some (.int .i64 pJ) := (hrr.below hbr).cells k _ (by rw [List.getElem?_map, HJ1.out]; rfl)
          have HC := Lib.hid (clash_in (H.out.below hbw) HK.out HX.out HJ2.out hJ3)
          rw [HJ4.out] at HC
          go_wp2_with fail
          refine HC.out.mono ?_
          rintro e w3 ⟨rfl, hb3⟩
          go_wp2_with fail
          go_ret2
          exact ⟨rfl, btrans hbw hb3⟩
end
end Go.Proofs.YtemohiainfllcaaGreat
