/- Walks: a transaction that changed something, or took, commits. -/
import Derived.Test.YtemohiainfllcaaGreatRk
import Derived.Test.YtemohiainfllcaaGreatRh
import Derived.Test.YtemohiainfllcaaGreatRi
namespace Go.Proofs.YtemohiainfllcaaGreat
open Go.RowKit Hp
attribute [local go_sem ↓] Go.wp_at_zero Go.wp_at_succ
def com1 (v : Nat) (l : List (Nat × Ob)) (z : Nat × Nat) : List (Nat × Ob) := match lk l z.1 with | some ob => up l z.1 (ob.setSecond (2 * v)) | none => l
def comL (l : List (Nat × Ob)) (zs : List (Nat × Nat)) (v : Nat) : List (Nat × Ob) := zs.foldl (com1 v) l
theorem com1_same (v : Nat) (l : List (Nat × Ob)) (z : Nat × Nat) : SameK l (com1 v l z) := by
  unfold com1; split
  · rename_i h; exact SameK.up h rfl
  · exact SameK.refl _
theorem comL_same (l : List (Nat × Ob)) (zs : List (Nat × Nat)) (v : Nat) : SameK l (comL l zs v) := by
  induction zs generalizing l with
  | nil => exact SameK.refl _
  | cons z zs ih => exact (com1_same v l z).trans (ih _)
theorem com1_ok {S : Stt} {l : List (Nat × Ob)} (hk : (S.cur' l).ok) {z : Nat × Nat} {v : Nat} (hv : v ≤ 1099511627776) : (S.cur' (com1 v l z)).ok := by
  unfold com1; split
  · rename_i ob h; exact Stt.ok_up' hk h (Ob.setSecond_ok (ok_of_lk (S := S.cur' l) hk h) _ (by omega)) rfl
  · exact hk
theorem comL_ok {S : Stt} {l : List (Nat × Ob)} (hk : (S.cur' l).ok) (zs : List (Nat × Nat)) {v : Nat} (hv : v ≤ 1099511627776) : (S.cur' (comL l zs v)).ok := by
  induction zs generalizing l with
  | nil => exact hk
  | cons z zs ih => exact ih (com1_ok hk hv)
/-- The store behind a commit. -/
def Stt.committed (S : Stt) (i : Nat) (x : Tx) : Stt :=
  { S with H := { S.H with cur := comL S.H.cur x.log.holds (S.now + 1) }, now := S.now + 1, txs := S.txs.set i x.ended, holder := if S.holder = (i : Int) then -1 else S.holder, version := if S.holder = (i : Int) then S.now + 1 else S.version }
section
variable {w w' : World} {o o' : Own} {y : SLay} {S : Stt} {x : Tx} {i : Nat}
def cmTag (y : SLay) (i : Nat) (t : Tag) : Prop := abTag y i t ∨ t = (y.l.id, 10)
theorem cmTag_box (y : SLay) (i : Nat) : ¬ cmTag y i (y.l.id + 1, 0) := by
  rintro (h | h)
  · exact abTag_box y i h
  · injection h with h _; omega
theorem tick_st (h : StIn w o y S) (hk : S.ok) (hm : S.now < S.most) :
    Calls Tryz.prog 56 #[ptr y.ck] w fun e w' => e = .returned (.tuple #[.int .i64 ((S.now + 1 : Nat) : Int), .bool true]) ∧ StIn w' o y { S with now := S.now + 1 } ∧ Stp (fun t => t = (y.l.id, 10)) o o w w' := by
  refine (clk_tick h.ck (by omega) (by omega) (by have := hk.n2; omega)).mono ?_
  rintro e w' ⟨rfl, hb, hw⟩
  have hs : Stp (fun t => t = (y.l.id, 10)) o o w w' := Stp.of_wr hw h.oc
  exact ⟨by simp, h.clock (n := S.now + 1) (by simpa using hb) hs, hs⟩
set_option maxRecDepth 100000 in
set_option maxHeartbeats 4000000 in
theorem commit1_write (h0 : StIn w o y S) (hk : S.ok) (hx : S.txs[i]? = some x) (hw : x.log.holds = [] → S.holder = (i : Int)) (hm : S.now < S.most)
    (hR : ∀ p ∈ x.log.reads, ∃ ob, lk S.H.cur p = some ob ∧ SecOk ob.second ∧ clashB i x.start ob.second = false) (hH : ∀ z ∈ x.log.holds, (lk S.H.cur z.1).isSome = true)
    {b1 : Nat} (j1 : Blk w b1 #[ptr y.sb] 23) (t1 : o b1 = (y.l.id + 1, 0)) :
    Calls Tryz.prog 51 #[ptr (y.xb i), ptr b1] w fun e w' => e = .returned (.tuple #[.int .i64 ((S.now + 1 : Nat) : Int), .int .i64 0]) ∧ ∃ o', StIn w' o' y (S.committed i x) ∧ Stp (cmTag y i) o o' w w' := by
  have HTk := Lib.hid (fun (w' : World) (o' : Own) (h' : StIn w' o' y S) => tick_st h' hk hm)
  obtain ⟨V, hV⟩ : ∃ V, V = S.now + 1 := ⟨_, rfl⟩
  rw [← hV] at HTk ⊢
  have hM2 : V ≤ 1099511627776 := by have := hk.n2; omega
  have hVm : V ≤ S.most := by omega
  obtain ⟨S1, hS1⟩ : ∃ S1 : Stt, S1 = { S with now := V } := ⟨_, rfl⟩
  rw [← hS1] at HTk
  have hk1 : S1.ok := by rw [hS1]; exact ⟨hk.F, hVm, hk.n2, hk.t1, hk.t8, hk.lg, fun z hz => by have := hk.st z hz; show z.start ≤ V; omega, by have := hk.ve; show S.version ≤ V; omega, hk.ho⟩
  have HK1 := Lib.hid hk1
  have HV := Lib.hid hV
  have HS1 := Lib.hid hS1
  have hcur : S1.H.cur = S.H.cur := by rw [hS1]
  have htxs : S1.txs = S.txs := by rw [hS1]
  have hhol : S1.holder = S.holder := by rw [hS1]
  have hver : S1.version = S.version := by rw [hS1]
  have HCu := Lib.hid hcur
  have HTx := Lib.hid htxs
  have HHl := Lib.hid hhol
  have HVe := Lib.hid hver
  clear hV hS1 hk1 hVm hcur htxs hhol hver
  obtain ⟨o1, ho1⟩ : ∃ o1, o1 = ext o w.heap.size (y.l.id + 1, 0) := ⟨_, rfl⟩
  have h := h0.retag (o' := o1) fun b hb => by rw [ho1]; exact ext_lt hb
  have hS0 : Stp (cmTag y i) o o1 w w := by rw [ho1]; exact (Stp.refl _ o w).ext _ _ (Nat.le_refl _)
  have hbx : ∀ b, w.heap.size ≤ b → o1 b = (y.l.id + 1, 0) := fun b hb => by rw [ho1]; exact ext_ge hb
  have hext : ∀ n, w.heap.size ≤ n → ext o1 n (y.l.id + 1, 0) = o1 := fun n hn => by rw [ho1]; exact ext_ext _ _ _ _ hn
  have u1 : o1 b1 = (y.l.id + 1, 0) := by rw [ho1, ext_lt j1.lt]; exact t1
  clear ho1 h0 t1
  have hx' := h.txs i x hx
  obtain ⟨vr, vk, vh, vu, hl⟩ := hx'.log
  have hlg := hk.lg x (List.mem_of_getElem? hx)
  have HLH := Lib.hid (log_holds hl hlg (y.l.id + 1, 0))
  have HLR := Lib.hid (fun w' (hw : Below w.heap.size w w') => log_reads (hl.below hw) hlg (y.l.id + 1, 0))
  have jx := hx'.blk
  have jb := h.blk
  have hlen1 : x.log.reads.length ≤ 200 := by have := hlg.r; have := hlg.mr; omega
  have hlen2 : x.log.holds.length ≤ 200 := by have := hlg.h; have := hlg.mu; omega
  have H := Lib.hid h
  have HK := Lib.hid hk
  have HS := Lib.hid hS0
  have HB := Lib.hid hbx
  have HE := Lib.hid hext
  have HX := Lib.hid hx
  have HRd := Lib.hid hR
  have HHo := Lib.hid hH
  have HM := Lib.hid hm
  have HU1 := Lib.hid u1
  obtain ⟨rs, hrs⟩ : ∃ rs, rs = x.log.reads := ⟨_, rfl⟩
  obtain ⟨hs, hhs⟩ : ∃ hs, hs = x.log.holds := ⟨_, rfl⟩
  rw [← hrs] at HRd HLR hlen1
  rw [← hhs] at HHo HLH hlen2 hw
  have HRS := Lib.hid hrs
  have HHS := Lib.hid hhs
  have HWr := Lib.hid hw
  unfold stCells at jb
  clear h hk hS0 hbx hext hx hR hH hm hx' hl hlg hrs hhs u1 hw
  have c1 := j1.cell
  have cx := jx.cell
  go_enter Tryz.func51, Tryz.ntmps51
  go_wp2_with fail
  refine HLH.out.mono ?_
  rintro e w1 ⟨v1, rfl, hr1, hb1⟩
  obtain ⟨pa1, cp1, rfl⟩ := hr1.slc
  rw [HE.out _ (Nat.le_refl _)] at hr1
  clear c1 cx
  have c1 := (j1.below hb1 j1.lt).cell
  have s1 := (j1.below hb1 j1.lt).lt
  have cx := (jx.below hb1 jx.lt).cell
  have cb := (jb.below hb1 jb.lt).cell
  go_upto_region 2 with fail
  have hcase : ((((hs.length : Nat) : Int) == 0) = true ∧ (S.holder == (i : Int)) = true ∧ (S.holder != (i : Int)) = false) ∨ (((hs.length : Nat) : Int) == 0) = false := by
    by_cases hl0 : hs.length = 0
    · have hh : S.holder = (i : Int) := HWr.out (List.eq_nil_of_length_eq_zero hl0)
      have hhb : (S.holder == (i : Int)) = true := by rw [beq_iff_eq]; exact hh
      exact .inl ⟨by rw [beq_iff_eq]; omega, hhb, by rw [bne, hhb]; rfl⟩
    · exact .inr (by rw [beq_eq_false_iff_ne]; omega)
  rcases hcase with ⟨hlb, hhb, hhn⟩ | hlb
  all_goals
    go_quiet (fail)
    obtain ⟨W, hW⟩ : ∃ W : World, W = w1.drewN nq := ⟨_, rfl⟩
    have hbW : Below w.heap.size w W := by rw [hW]; exact bdrewN hb1 _
    have hr2 : Row W o1 (y.l.id + 1, 0) 108 2 (.slice pa1 hs.length cp1) hs.length (hcells hs) := by rw [hW]; exact hr1.below (bdrewN (bsame _) _)
    rw [← hW]
    clear hW hr1 hb1 c1 s1 cx cb
    have cx := (jx.below hbW jx.lt).cell
    go_wp2_with fail
    refine (HLR.out _ hbW).mono ?_
    rintro e w2 ⟨v2, rfl, hrr, hb2⟩
    obtain ⟨pa2, cp2, rfl⟩ := hrr.slc
    rw [HE.out _ hbW.size] at hrr
    have hr3 := hr2.below hb2
    have hbW2 := btrans hbW hb2
    clear cx hr2 hb2 hbW
    go_wp2_with fail
    go_loopw [40] (fun ix wr => ∃ k : Nat, ix = .int .i64 k ∧ k ≤ rs.length ∧ Below w2.heap.size w2 wr) (fun ix _ => rs.length - (intOf ix).toNat)
    case atStart => exact ⟨0, rfl, Nat.zero_le _, bsame _⟩
    case round =>
      obtain ⟨k, rfl, hkl, hbr⟩ := hrel
      have hbw := btrans hbW2 hbr
      have c1 := (j1.below hbw j1.lt).cell
      by_cases hlt : k < rs.length
      · have kI : (k : Int) < (rs.length : Int) := by omega
        have hgk := List.getElem?_eq_getElem hlt
        obtain ⟨p, hp⟩ : ∃ p, p = rs[k] := ⟨_, rfl⟩
        rw [← hp] at hgk
        obtain ⟨ob, hob, hso, hcl⟩ := HRd.out p (List.mem_of_getElem? hgk)
        rcases (hrr.below hbr).form with ⟨_, h0⟩ | ⟨g, cap, e, _⟩
        · omega
        · injection e with e1 _ e3
          subst e1 e3
          have q0 : wr.cell? ⟨g, k, none⟩ = some (.int .i64 p) := (hrr.below hbr).cells k _ (by rw [List.getElem?_map, hgk]; rfl)
          have HC := Lib.hid (clash_in (H.out.below hbw) HK.out HX.out hob hso)
          rw [hcl] at HC
          clear hgk hp hob hso hcl
          go_wp2_with fail
          refine HC.out.mono ?_
          rintro e w3 ⟨rfl, hb3⟩
          go_wp2_with fail
          go_roundw
          case rel => exact ⟨k + 1, by simp, by omega, btrans hbr hb3⟩
          case measure => simp [intOf]; omega
      · obtain rfl : k = rs.length := by omega
        clear hlt
        have HT := Lib.hid (HTk.out _ _ (H.out.below hbw))
        have hr4 := hr3.below hbr
        have j4 := j1.below hbw j1.lt
        have cb := (jb.below hbw jb.lt).cell
        go_wp2_with fail
        refine HT.out.mono ?_
        rintro e w3 ⟨rfl, hS3, hs3⟩
        have hck : ¬ (fun t => t = (y.l.id, 10)) (y.l.id + 1, 0) := fun e => by injection e with e _; omega
        have hr5 := hr4.stp hs3 hck
        have j5 := j4.stp hs3 (by rw [HU1.out]; exact hck)
        have hst5 : Stp (cmTag y i) o1 o1 w w3 := (Stp.of_below hbw).trans (hs3.mono fun _ h => .inr h)
        have hS5 : StIn w3 o1 y (S1.cur' (comL S1.H.cur [] V)) := hS3
        clear hr4 j4 hS3 hs3 c1 cb hck
        go_wp2_with fail
        go_loopw [59] (fun ix wr => ∃ k : Nat, ix = .int .i64 k ∧ k ≤ hs.length ∧ StIn wr o1 y (S1.cur' (comL S1.H.cur (hs.take k) V)) ∧ Row wr o1 (y.l.id + 1, 0) 108 2 (.slice pa1 hs.length cp1) hs.length (hcells hs) ∧ Blk wr b1 #[ptr y.sb] 23 ∧ Stp (cmTag y i) o1 o1 w wr) (fun ix _ => hs.length - (intOf ix).toNat)
        case atStart => exact ⟨0, rfl, Nat.zero_le _, hS5, hr5, j5, hst5⟩
        case round =>
          clear hr5 j5 hst5 hS5
          obtain ⟨k, rfl, hkh, hA, hr, jb1, hst⟩ := hrel
          obtain ⟨wo, rfl⟩ : ∃ wo : World, wo = wr := ⟨_, rfl⟩
          by_cases hlt : k < hs.length
          · have kI : (k : Int) < (hs.length : Int) := by omega
            have hgk := List.getElem?_eq_getElem hlt
            obtain ⟨z, hz⟩ : ∃ z, z = hs[k] := ⟨_, rfl⟩
            rw [← hz] at hgk
            have htk : hs.take (k + 1) = hs.take k ++ [z] := by rw [hz]; exact List.take_succ_eq_append_getElem hlt
            have hz1 := HHo.out z (List.mem_of_getElem? hgk)
            rcases hr.form4 with ⟨_, h0⟩ | ⟨g, cap, e, hn⟩
            · have := hcells_at hs k z hgk
              rw [h0] at this; simp at this
            · injection e with e1 _ e3
              subst e1 e3
              obtain ⟨r0, r1⟩ := hr.cell2 k z hgk
              obtain ⟨p, v⟩ := z
              have q0 : wo.cell? ⟨g, k * 2, none⟩ = some (.int .i64 p) := r0
              have q1 : wo.cell? ⟨g, k * 2 + 1, none⟩ = some (.int .i64 v) := r1
              clear r0 r1
              simp only at hz1
              have hok : (S1.cur' (comL S1.H.cur (hs.take k) V)).ok := comL_ok HK1.out _ hM2
              have hsm : SameK S1.H.cur (comL S1.H.cur (hs.take k) V) := comL_same _ _ _
              have hstep : comL S1.H.cur (hs.take (k + 1)) V = com1 V (comL S1.H.cur (hs.take k) V) (p, v) := by rw [htk]; unfold comL; rw [List.foldl_append]; rfl
              have HST := Lib.hid hstep
              obtain ⟨l2, hl2⟩ : ∃ l2, l2 = comL S1.H.cur (hs.take k) V := ⟨_, rfl⟩
              rw [← hl2] at hA hok hsm HST
              obtain ⟨ob, hob⟩ := Option.isSome_iff_exists.1 (hsm.isSome (by rw [HCu.out]; exact hz1))
              have hr1 : com1 V l2 (p, v) = up l2 p (ob.setSecond (2 * V)) := by unfold com1; rw [hob]
              rw [hr1] at HST
              clear hl2 hstep htk hz hgk hz1 hsm hr1
              have HR1 := Lib.hid (release_in (hA.below (balloc (bsame _) (.cells #[.int .i64 p, .int .i64 v] 108))) hok hob hM2)
              have jb2 := jb1.alloc (.cells #[.int .i64 p, .int .i64 v] 108)
              have hr1 := hr.below (balloc (bsame _) (.cells #[.int .i64 p, .int .i64 v] 108))
              have hst1 := hst.alloc (.cells #[.int .i64 p, .int .i64 v] 108)
              have c1 := jb1.cell 0
              have s1 := jb1.lt
              clear hA hr hok hob
              go_wp2_with fail
              refine HR1.out.mono ?_
              rintro e w5 ⟨rfl, hS5, hs5⟩
              have hr5 := hr1.stp hs5 (hpTag_box y)
              have j5 := jb2.stp hs5 (by rw [HU1.out]; exact hpTag_box y)
              have hst5 : Stp (cmTag y i) o1 o1 w w5 := hst1.trans (hs5.mono fun _ h => .inl (.inl (opTag_hp h)))
              go_wp2_with fail
              go_roundw
              case rel => exact ⟨k + 1, by simp, by omega, by rw [HST.out]; exact hS5, hr5, j5, hst5⟩
              case measure => simp [intOf]; omega
          · obtain rfl : k = hs.length := by omega
            rw [List.take_length] at hA
            clear hlt
            try clear hhb hhn
            have hx6 : (S1.cur' (comL S1.H.cur hs V)).txs[i]? = some x := by show S1.txs[i]? = _; rw [HTx.out]; exact HX.out
            have jbb := hA.blk
            unfold stCells at jbb
            have cx := (hA.txs i x hx6).blk.cell
            have cb := jbb.cell
            have zb := jbb.free
            have sb := jbb.lt
            have c1 := jb1.cell 0
            have s1 := jb1.lt
            by_cases hh : S1.holder = (i : Int)
            · have hhb : (S1.holder == (i : Int)) = true := by rw [beq_iff_eq]; exact hh
              have nsb : b1 ≠ y.sb := fun e => by have h1 := HU1.out; rw [e, hA.os] at h1; injection h1 with h1 _; omega
              have hos : o1 y.sb = (y.l.id, 11) := hA.os
              have hfin := Lib.hid (fun (W : World) (hb : Below wo.heap.size wo W) =>
                have hs7 : Stp (ownTag y) o1 o1 wo ((W.setCell ⟨y.sb, 6, none⟩ (.int .i64 (-1))).setCell ⟨y.sb, 7, none⟩ (.int .i64 V)) := ((Stp.of_below hb).setCell (by show o1 y.sb = _; exact hos) _).setCell (by show o1 y.sb = _; exact hos) _
                have hS7 : StIn ((W.setCell ⟨y.sb, 6, none⟩ (.int .i64 (-1))).setCell ⟨y.sb, 7, none⟩ (.int .i64 V)) o1 y { S1.cur' (comL S1.H.cur hs V) with holder := -1, version := V } := by
                  refine hA.own ?_ hs7
                  have := ((hA.blk.below hb hA.blk.lt).set 6 (.int .i64 (-1))).set 7 (.int .i64 V)
                  simpa [stCells] using this
                And.intro hs7 hS7)
              clear hh hos
              go_upto_region 17 with fail
              go_quiet (fail)
              have HF := Lib.hid (hfin.out (wo.drewN nq) (bdrewN (bsame _) _))
              have HEn := Lib.hid (end_in HF.out.2 (i := i) (x := x) hx6)
              go_wp2_with fail
              refine HEn.out.mono ?_
              rintro e w6 ⟨rfl, hS6, hs6⟩
              go_wp2_with fail
              go_ret2
              refine ⟨rfl, o1, ?_, HS.out.trans (hst.trans ((HF.out.1.mono fun _ h => .inl (.inr h)).trans (hs6.mono fun _ h => .inl (.inl (opTag_tx h)))))⟩
              have e1 : S.committed i x = { S1.cur' (comL S1.H.cur hs V) with txs := S1.txs.set i x.ended, holder := -1, version := V } := by
                have hh' : S.holder = (i : Int) := by rw [← HHl.out]; exact beq_iff_eq.1 hhb
                unfold Stt.committed
                rw [if_pos hh', if_pos hh', ← HHS.out, ← HV.out, HS1.out]
              rw [e1]; exact hS6
            · have hhb : (S1.holder == (i : Int)) = false := by rw [beq_eq_false_iff_ne]; exact hh
              go_upto_region 17 with fail
              go_quiet (fail)
              have HEn := Lib.hid (end_in (hA.below (bdrewN (bsame _) nq)) (i := i) (x := x) hx6)
              go_wp2_with fail
              refine HEn.out.mono ?_
              rintro e w6 ⟨rfl, hS6, hs6⟩
              go_wp2_with fail
              go_ret2
              refine ⟨rfl, o1, ?_, HS.out.trans (hst.trans ((Stp.of_below (bdrewN (bsame _) _)).trans (hs6.mono fun _ h => .inl (.inl (opTag_tx h)))))⟩
              have e1 : S.committed i x = { S1.cur' (comL S1.H.cur hs V) with txs := S1.txs.set i x.ended } := by
                have hh' : ¬ S.holder = (i : Int) := by rw [← HHl.out]; exact hh
                unfold Stt.committed
                rw [if_neg hh', if_neg hh', ← HHS.out, ← HV.out, HS1.out]
              rw [e1]; exact hS6
theorem clash_find {S : Stt} {i : Nat} {x : Tx} (hR : ∀ p ∈ x.log.reads, ∃ ob, lk S.H.cur p = some ob ∧ SecOk ob.second) :
    (∀ p ∈ x.log.reads, ∃ ob, lk S.H.cur p = some ob ∧ SecOk ob.second ∧ clashB i x.start ob.second = false) ∨
    ∃ j p ob, x.log.reads[j]? = some p ∧ lk S.H.cur p = some ob ∧ SecOk ob.second ∧ clashB i x.start ob.second = true ∧ ∀ (k q : Nat), k < j → x.log.reads[k]? = some q → ∃ ob, lk S.H.cur q = some ob ∧ SecOk ob.second ∧ clashB i x.start ob.second = false := by
  generalize x.log.reads = rs at *
  induction rs with
  | nil => exact .inl fun p hp => by cases hp
  | cons p rs ih =>
    obtain ⟨ob, h1, h2⟩ := hR p (.head _)
    cases hc : clashB i x.start ob.second with
    | true => exact .inr ⟨0, p, ob, rfl, h1, h2, hc, fun k q hk => by omega⟩
    | false =>
      rcases ih fun q hq => hR q (.tail _ hq) with h | ⟨j, q, o2, a1, a2, a3, a4, a5⟩
      · refine .inl fun q hq => ?_
        rcases List.mem_cons.1 hq with rfl | hq
        · exact ⟨ob, h1, h2, hc⟩
        · exact h q hq
      · refine .inr ⟨j + 1, q, o2, by simpa using a1, a2, a3, a4, fun k q' hk hq => ?_⟩
        cases k with
        | zero => simp at hq; subst hq; exact ⟨ob, h1, h2, hc⟩
        | succ k => exact a5 k q' (by omega) (by simpa using hq)
set_option maxRecDepth 100000 in
set_option maxHeartbeats 4000000 in
/-- One of what it read is another's now. -/
theorem commit1_clash (h : StIn w o y S) (hk : S.ok) (hx : S.txs[i]? = some x) (hw : x.log.holds = [] → S.holder = (i : Int))
    (hR : ∃ j p ob, x.log.reads[j]? = some p ∧ lk S.H.cur p = some ob ∧ SecOk ob.second ∧ clashB i x.start ob.second = true ∧ ∀ (k q : Nat), k < j → x.log.reads[k]? = some q → ∃ ob, lk S.H.cur q = some ob ∧ SecOk ob.second ∧ clashB i x.start ob.second = false)
    {b1 : Nat} (j1 : Blk w b1 #[ptr y.sb] 23) :
    Calls Tryz.prog 51 #[ptr (y.xb i), ptr b1] w fun e w' => e = .returned (.tuple #[.int .i64 0, .int .i64 141]) ∧ Below w.heap.size w w' := by
  have hx' := h.txs i x hx
  obtain ⟨vr, vk, vh, vu, hl⟩ := hx'.log
  have hlg := hk.lg x (List.mem_of_getElem? hx)
  have HLH := Lib.hid (log_holds hl hlg (y.l.id + 1, 0))
  have HLR := Lib.hid (fun w' (hw : Below w.heap.size w w') => log_reads (hl.below hw) hlg (y.l.id + 1, 0))
  have jx := hx'.blk
  have jb := h.blk
  have hlen1 : x.log.reads.length ≤ 200 := by have := hlg.r; have := hlg.mr; omega
  have hlen2 : x.log.holds.length ≤ 200 := by have := hlg.h; have := hlg.mu; omega
  obtain ⟨J, pJ, obJ, hJ1, hJ2, hJ3, hJ4, hJ5⟩ := hR
  have hJl := (List.getElem?_eq_some_iff.1 hJ1).1
  have H := Lib.hid h
  have HK := Lib.hid hk
  have HX := Lib.hid hx
  have HJ1 := Lib.hid hJ1
  have HJ2 := Lib.hid hJ2
  have HJ4 := Lib.hid hJ4
  have HJ5 := Lib.hid hJ5
  have HWr := Lib.hid hw
  obtain ⟨rs, hrs⟩ : ∃ rs, rs = x.log.reads := ⟨_, rfl⟩
  obtain ⟨hs, hhs⟩ : ∃ hs, hs = x.log.holds := ⟨_, rfl⟩
  rw [← hrs] at HJ1 HJ5 HLR hlen1 hJl
  rw [← hhs] at HLH hlen2 HWr
  unfold stCells at jb
  clear h hk hx hx' hl hlg hrs hhs hw hJ1 hJ2 hJ4 hJ5
  have c1 := j1.cell
  have cx := jx.cell
  go_enter Tryz.func51, Tryz.ntmps51
  go_wp2_with fail
  refine HLH.out.mono ?_
  rintro e w1 ⟨v1, rfl, hr1, hb1⟩
  obtain ⟨pa1, cp1, rfl⟩ := hr1.slc
  clear c1 cx
  have c1 := (j1.below hb1 j1.lt).cell
  have s1 := (j1.below hb1 j1.lt).lt
  have cx := (jx.below hb1 jx.lt).cell
  have cb := (jb.below hb1 jb.lt).cell
  go_upto_region 2 with fail
  have hcase : ((((hs.length : Nat) : Int) == 0) = true ∧ (S.holder == (i : Int)) = true ∧ (S.holder != (i : Int)) = false) ∨ (((hs.length : Nat) : Int) == 0) = false := by
    by_cases hl0 : hs.length = 0
    · have hh : S.holder = (i : Int) := HWr.out (List.eq_nil_of_length_eq_zero hl0)
      have hhb : (S.holder == (i : Int)) = true := by rw [beq_iff_eq]; exact hh
      exact .inl ⟨by rw [beq_iff_eq]; omega, hhb, by rw [bne, hhb]; rfl⟩
    · exact .inr (by rw [beq_eq_false_iff_ne]; omega)
  rcases hcase with ⟨hlb, hhb, hhn⟩ | hlb
  all_goals
    go_quiet (fail)
    obtain ⟨W, hW⟩ : ∃ W : World, W = w1.drewN nq := ⟨_, rfl⟩
    have hbW : Below w.heap.size w W := by rw [hW]; exact bdrewN hb1 _
    rw [← hW]
    clear hW hr1 hb1 c1 s1 cx cb
    have cx := (jx.below hbW jx.lt).cell
    go_wp2_with fail
    refine (HLR.out _ hbW).mono ?_
    rintro e w2 ⟨v2, rfl, hrr, hb2⟩
    obtain ⟨pa2, cp2, rfl⟩ := hrr.slc
    have hbW2 := btrans hbW hb2
    clear cx hb2 hbW
    go_wp2_with fail
    go_loopw [40] (fun ix wr => ∃ k : Nat, ix = .int .i64 k ∧ k ≤ J ∧ Below w2.heap.size w2 wr) (fun ix _ => rs.length - (intOf ix).toNat)
    case atStart => exact ⟨0, rfl, Nat.zero_le _, bsame _⟩
    case round =>
      obtain ⟨k, rfl, hkl, hbr⟩ := hrel
      have hbw := btrans hbW2 hbr
      have c1 := (j1.below hbw j1.lt).cell
      have kI : (k : Int) < (rs.length : Int) := by omega
      have hlt : k < rs.length := by omega
      by_cases hkJ : k < J
      · have hgk := List.getElem?_eq_getElem hlt
        obtain ⟨p, hp⟩ : ∃ p, p = rs[k] := ⟨_, rfl⟩
        rw [← hp] at hgk
        obtain ⟨ob, hob, hso, hcl⟩ := HJ5.out k p hkJ hgk
        rcases (hrr.below hbr).form with ⟨_, h0⟩ | ⟨g, cap, e, _⟩
        · omega
        · injection e with e1 _ e3
          subst e1 e3
          have q0 : wr.cell? ⟨g, k, none⟩ = some (.int .i64 p) := (hrr.below hbr).cells k _ (by rw [List.getElem?_map, hgk]; rfl)
          have HC := Lib.hid (clash_in (H.out.below hbw) HK.out HX.out hob hso)
          rw [hcl] at HC
          clear hgk hp hob hso hcl
          go_wp2_with fail
          refine HC.out.mono ?_
          rintro e w3 ⟨rfl, hb3⟩
          go_wp2_with fail
          go_roundw
          case rel => exact ⟨k + 1, by simp, by omega, btrans hbr hb3⟩
          case measure => simp [intOf]; omega
      · obtain rfl : k = J := by omega
        rcases (hrr.below hbr).form with ⟨_, h0⟩ | ⟨g, cap, e, _⟩
        · omega
        · injection e with e1 _ e3
          subst e1 e3
          have q0 : wr.cell? ⟨g, k, none⟩ = some (.int .i64 pJ) := (hrr.below hbr).cells k _ (by rw [List.getElem?_map, HJ1.out]; rfl)
          have HC := Lib.hid (clash_in (H.out.below hbw) HK.out HX.out HJ2.out hJ3)
          rw [HJ4.out] at HC
          go_wp2_with fail
          refine HC.out.mono ?_
          rintro e w3 ⟨rfl, hb3⟩
          go_wp2_with fail
          go_ret2
          exact ⟨rfl, btrans hbw hb3⟩
end
end Go.Proofs.YtemohiainfllcaaGreat

/- A store's public calls: what each comes to, in one word; a deed behind its closure. -/
namespace Go.Proofs.YtemohiainfllcaaGreat
open Go.RowKit Hp
attribute [local go_sem ↓] Go.wp_at_zero Go.wp_at_succ
/-- The store behind a call, what it told, and how it ended. -/
structure Res where
  S : Stt
  v : Int
  e : Int
def isAb (e : Int) : Bool := e == 141 || e == 130 || e == 100
def Stt.abort (S : Stt) (i : Nat) : Stt := match S.txs[i]? with | some x => S.aborted i x | none => S
def Res.fin (r : Res) (i : Nat) : Res := if isAb r.e = true then ⟨r.S.abort i, 0, r.e⟩ else if r.e = 0 then r else ⟨r.S, 0, r.e⟩
structure AbOk (S : Stt) (i : Nat) : Prop where
  ok : S.ok
  lt : i < S.txs.length
  un : ∀ x, S.txs[i]? = some x → ∀ u ∈ x.log.undos, UnOk S.H.cur u
  ho : ∀ x, S.txs[i]? = some x → ∀ z ∈ x.log.holds, (lk S.H.cur z.1).isSome = true ∧ z.2 ≤ 1099511627776
def stTag (y : SLay) (t : Tag) : Prop := t.1 = y.l.id
theorem stTag_box (y : SLay) : ¬ stTag y (y.l.id + 1, 0) := by unfold stTag; simp
theorem stTag_ab {y : SLay} {i : Nat} {t : Tag} (h : abTag y i t) : stTag y t := by
  rcases h with (⟨h, _⟩ | ⟨h, _⟩) | h
  · exact h
  · exact h
  · unfold ownTag at h; unfold stTag; rw [h]
theorem stTag_cm {y : SLay} {i : Nat} {t : Tag} (h : cmTag y i t) : stTag y t := by
  rcases h with h | h
  · exact stTag_ab h
  · unfold stTag; rw [h]
theorem stTag_op {y : SLay} {i : Nat} {t : Tag} (h : opTag y i t) : stTag y t := stTag_ab (.inl h)
theorem stTag_tx {y : SLay} {i : Nat} {t : Tag} (h : txTag y i t) : stTag y t := stTag_op (opTag_tx h)
theorem stTag_own {y : SLay} {t : Tag} (h : ownTag y t) : stTag y t := stTag_ab (i := 0) (.inr h)
theorem stTag_hp {y : SLay} {t : Tag} (h : hpTag y t) : stTag y t := h.1
section
variable {w w' : World} {o o' : Own} {y : SLay} {S : Stt} {x : Tx} {i : Nat}
theorem abort_any (h : StIn w o y S) (ha : AbOk S i) :
    Calls Tryz.prog 67 #[ptr y.sb, ptr (y.xb i)] w fun e w' => e = .returned (.tuple #[]) ∧ ∃ o', StIn w' o' y (S.abort i) ∧ Stp (abTag y i) o o' w w' := by
  obtain ⟨x, hx⟩ : ∃ x, S.txs[i]? = some x := ⟨_, List.getElem?_eq_getElem ha.lt⟩
  have e1 : S.abort i = S.aborted i x := by unfold Stt.abort; rw [hx]
  rw [e1]
  exact abort_in h ha.ok hx (ha.un _ hx) (ha.ho _ hx)
theorem deed_any (g : Nat) (caps : List Value) (h0 : StIn w o y S) (hk : S.ok) (hx : S.txs[i]? = some x) (hl : x.live = true) (eg : ∀ args w, (callFunc g args).run Tryz.prog w = .ok (.enter g args) w)
    (r : Res) (hab : isAb r.e = true → AbOk r.S i)
    (hdo : ∀ w1 o1, Below w.heap.size w w1 → (∀ b, b < w.heap.size → o1 b = o b) → StIn w1 o1 y S → Calls Tryz.prog g (ptr (y.xb i) :: caps).toArray w1 fun e w' => e = .returned (.tuple #[.int .i64 r.v, .int .i64 r.e]) ∧ ∃ o', StIn w' o' y r.S ∧ Stp (stTag y) o1 o' w1 w') :
    Calls Tryz.prog 45 #[ptr y.sb, .int .i64 i, .func (.func g) #[] caps.toArray] w fun e w' => e = .returned (.tuple #[.int .i64 (r.fin i).v, .int .i64 (r.fin i).e]) ∧ ∃ o', StIn w' o' y (r.fin i).S ∧ Stp (stTag y) o o' w w' := by
  obtain ⟨S', v, e⟩ := r
  cases ha : isAb e with
  | true =>
    have e1 : Res.fin ⟨S', v, e⟩ i = ⟨S'.abort i, 0, e⟩ := by unfold Res.fin; rw [if_pos ha]
    rw [e1]
    have he : e = 141 ∨ e = 130 ∨ e = 100 := by
      unfold isAb at ha
      simp only [Bool.or_eq_true, beq_iff_eq] at ha
      omega
    refine (deed_abort g caps h0 hk hx hl eg (stTag y) (stTag_box y) S' (S'.abort i) v e he hdo fun w1 o1 h1 => abort_any h1 (hab ha)).mono ?_
    rintro e w' ⟨rfl, o', h1, h2⟩
    exact ⟨rfl, o', h1, h2.mono fun _ h => h.elim id stTag_ab⟩
  | false =>
    have hne : e ≠ 141 ∧ e ≠ 130 ∧ e ≠ 100 := by
      unfold isAb at ha
      simp only [Bool.or_eq_false_iff, beq_eq_false_iff_ne] at ha
      exact ⟨ha.1.1, ha.1.2, ha.2⟩
    by_cases h0' : e = 0
    · subst h0'
      have e1 : Res.fin ⟨S', v, 0⟩ i = ⟨S', v, 0⟩ := by unfold Res.fin; rw [if_neg (by rw [ha]; simp), if_pos rfl]
      rw [e1]
      exact deed_ok g caps h0 hk hx hl eg (stTag y) (stTag_box y) S' v hdo
    · have e1 : Res.fin ⟨S', v, e⟩ i = ⟨S', 0, e⟩ := by unfold Res.fin; rw [if_neg (by rw [ha]; simp), if_neg h0']
      rw [e1]
      exact deed_err g caps h0 hk hx hl eg (stTag y) (stTag_box y) S' v e h0' hne.1 hne.2.1 hne.2.2 hdo
/-! ### looking at an object -/
/-- What looking at an object comes to. -/
def Stt.lookR (S : Stt) (i : Nat) (x : Tx) (p : Nat) : Stt × Int :=
  if p = 0 then (S, 143) else match lk S.H.cur p with
  | none => (S, 70)
  | some ob => if clashB i x.start ob.second = true then (S, 141) else (S.tx i (x.read p), if noteB x.log.reads p x.log.mr then (if ob.freed then 142 else 0) else 130)
def Stt.shpOf (S : Stt) (p : Nat) : Shp := match lk S.H.cur p with | some ob => ob.shp | none => ⟨0, 0, false, false⟩
def Stt.fieldsR (S : Stt) (i : Nat) (x : Tx) (p : Nat) : Stt × Int :=
  let r := S.lookR i x p
  (r.1, if r.2 = 0 then (if (S.shpOf p).weak then 144 else 0) else r.2)
/-- All second words may be read as owners. -/
def SecsOk (S : Stt) : Prop := ∀ p ob, lk S.H.cur p = some ob → SecOk ob.second
def Plc (S : Stt) (p : Nat) : Prop := p = 0 ∨ (lk S.H.cur p).isSome = true
theorem look_any (h : StIn w o y S) (hk : S.ok) (hx : S.txs[i]? = some x) (hs : SecsOk S) {p : Nat} (hp : Plc S p) :
    Calls Tryz.prog 61 #[ptr y.sb, ptr (y.xb i), .int .i64 p] w fun e w' =>
      e = .returned (.tuple #[if (S.lookR i x p).2 = 0 then shpV (S.shpOf p) else shpV ⟨0, 0, false, false⟩, .int .i64 (S.lookR i x p).2]) ∧ ∃ o', StIn w' o' y (S.lookR i x p).1 ∧ Stp (txTag y i) o o' w w' := by
  by_cases h0 : p = 0
  · subst h0
    have e1 : S.lookR i x 0 = (S, 143) := by unfold Stt.lookR; rw [if_pos rfl]
    rw [e1]
    refine (look_nil w (ptr y.sb) (ptr (y.xb i))).mono ?_
    rintro e w' ⟨rfl, hb⟩
    exact ⟨rfl, o, h.below hb, Stp.of_below hb⟩
  · obtain ⟨ob, hob⟩ := Option.isSome_iff_exists.1 (hp.resolve_left h0)
    have e0 : S.shpOf p = ob.shp := by unfold Stt.shpOf; rw [hob]
    cases hc : clashB i x.start ob.second with
    | true =>
      have e1 : S.lookR i x p = (S, 141) := by unfold Stt.lookR; rw [if_neg h0, hob]; simp only; rw [if_pos hc]
      rw [e1]
      refine (look_clash h hk hx hob (hs p ob hob) hc h0).mono ?_
      rintro e w' ⟨rfl, hb⟩
      exact ⟨rfl, o, h.below hb, Stp.of_below hb⟩
    | false =>
      have e1 : S.lookR i x p = (S.tx i (x.read p), if noteB x.log.reads p x.log.mr then (if ob.freed then 142 else 0) else 130) := by unfold Stt.lookR; rw [if_neg h0, hob]; simp only; rw [if_neg (by rw [hc]; simp)]
      rw [e1, e0]
      refine (look_in h hk hx hob (hs p ob hob) hc h0).mono ?_
      rintro e w' ⟨rfl, o', h1, h2⟩
      refine ⟨?_, o', h1, h2⟩
      unfold lookV
      cases noteB x.log.reads p x.log.mr <;> cases ob.freed <;> simp
theorem fields_any (h : StIn w o y S) (hk : S.ok) (hx : S.txs[i]? = some x) (hs : SecsOk S) {p : Nat} (hp : Plc S p) :
    Calls Tryz.prog 100 #[ptr y.sb, ptr (y.xb i), .int .i64 p] w fun e w' =>
      e = .returned (.int .i64 (S.fieldsR i x p).2) ∧ ∃ o', StIn w' o' y (S.fieldsR i x p).1 ∧ Stp (txTag y i) o o' w w' := by
  by_cases h0 : p = 0
  · subst h0
    have e1 : S.fieldsR i x 0 = (S, 143) := by unfold Stt.fieldsR Stt.lookR; simp
    rw [e1]
    refine (fields_nil w (ptr y.sb) (ptr (y.xb i))).mono ?_
    rintro e w' ⟨rfl, hb⟩
    exact ⟨rfl, o, h.below hb, Stp.of_below hb⟩
  · obtain ⟨ob, hob⟩ := Option.isSome_iff_exists.1 (hp.resolve_left h0)
    have e0 : S.shpOf p = ob.shp := by unfold Stt.shpOf; rw [hob]
    cases hc : clashB i x.start ob.second with
    | true =>
      have e1 : S.fieldsR i x p = (S, 141) := by unfold Stt.fieldsR Stt.lookR; rw [if_neg h0, hob]; simp [hc]
      rw [e1]
      refine (fields_clash h hk hx hob (hs p ob hob) hc h0).mono ?_
      rintro e w' ⟨rfl, hb⟩
      exact ⟨rfl, o, h.below hb, Stp.of_below hb⟩
    | false =>
      have e1 : S.fieldsR i x p = (S.tx i (x.read p), fieldsE (noteB x.log.reads p x.log.mr) ob.freed ob.shp.weak) := by
        unfold Stt.fieldsR Stt.lookR fieldsE; rw [if_neg h0, hob, e0]; simp only [hc]
        cases noteB x.log.reads p x.log.mr <;> cases ob.freed <;> cases ob.shp.weak <;> simp
      rw [e1]
      refine (fields_in h hk hx hob (hs p ob hob) hc h0).mono ?_
      rintro e w' ⟨rfl, o', h1, h2⟩
      exact ⟨rfl, o', h1, h2⟩
/-! ### Read and Get -/
/-- The closure of Read and Get, when what it looks at is not to be read. -/
theorem field1_err (p : Nat) (ef : Int) (he : ef ≠ 0) (S1 : Stt) (fields : Calls Tryz.prog 100 #[ptr y.sb, ptr (y.xb i), .int .i64 p] w fun e w' => e = .returned (.int .i64 ef) ∧ ∃ o', StIn w' o' y S1 ∧ Stp (txTag y i) o o' w w')
    {b1 b2 b3 b4 : Nat} (j1 : Blk w b1 #[ptr y.sb] 23) (j2 : Blk w b2 #[.int .i64 p] 3) :
    Calls Tryz.prog 110 #[ptr (y.xb i), ptr b1, ptr b2, ptr b3, ptr b4] w fun e w' => e = .returned (.tuple #[.int .i64 0, .int .i64 ef]) ∧ ∃ o', StIn w' o' y S1 ∧ Stp (txTag y i) o o' w w' := by
  have HF := Lib.hid fields
  have c1 := j1.cell
  have c2 := j2.cell
  have hb : (ef != 0) = true := by rw [bne_iff_ne]; exact he
  have hb2 : (ef == 0) = false := by rw [beq_eq_false_iff_ne]; exact he
  clear fields
  go_enter Tryz.func110, Tryz.ntmps110
  go_wp2_with fail
  refine HF.out.mono ?_
  rintro e w1 ⟨rfl, o1, hS1, hs1⟩
  go_wp2_with fail
  go_ret2
  exact ⟨rfl, o1, hS1, hs1⟩
end
end Go.Proofs.YtemohiainfllcaaGreat

/- A store's public Read, Get, Write and Put. -/
namespace Go.Proofs.YtemohiainfllcaaGreat
open Go.RowKit Hp
attribute [local go_sem ↓] Go.wp_at_zero Go.wp_at_succ
/-- What a call in a live transaction asks. -/
structure Pre (S : Stt) (i : Nat) (x : Tx) : Prop where
  ok : S.ok
  hx : S.txs[i]? = some x
  live : x.live = true
  secs : SecsOk S
  ab : AbOk S i
  held : ∀ z ∈ x.log.holds, ∀ ob, lk S.H.cur z.1 = some ob → ob.second % 2 = 1
  r1 : x.log.reads.length < x.log.mr
  r2 : x.log.keeps.length < x.log.mr
  r3 : x.log.holds.length < x.log.mu
  r4 : x.log.undos.length < x.log.mu
theorem Tx.read_ok {x : Tx} (h : x.log.ok) (p : Nat) : (x.read p).log.ok := by
  refine ⟨h.mr, h.mu, ?_, h.k, h.h, h.u⟩
  show (noteL x.log.reads p x.log.mr).length ≤ x.log.mr
  have := h.r
  unfold noteL; split
  · exact this
  · split
    · simp; omega
    · exact this
theorem Tx.hold1_ok {x : Tx} (h : x.log.ok) (p : Nat) (ob : Ob) (hm : x.log.holds.length < x.log.mu) : (x.hold1 p ob).log.ok := by
  unfold Tx.hold1; split
  · exact h
  · exact Lg.ok_hold h _ _ hm
theorem Tx.undo_ok {x : Tx} (h : x.log.ok) (u : Un) (hm : x.log.undos.length < x.log.mu) : (x.undo u).log.ok :=
  ⟨h.mr, h.mu, h.r, h.k, h.h, by show (x.log.undos ++ [u]).length ≤ x.log.mu; simp; omega⟩
theorem Tx.hold1_undos (x : Tx) (p : Nat) (ob : Ob) : (x.hold1 p ob).log.undos = x.log.undos ∧ (x.hold1 p ob).log.mu = x.log.mu ∧ (x.hold1 p ob).start = x.start := by
  unfold Tx.hold1; split <;> exact ⟨rfl, rfl, rfl⟩
theorem Ob.held_ok {ob : Ob} (h : ob.ok) {i : Nat} (hi : i ≤ 8) : (ob.held i).ok := by
  unfold Ob.held; split
  · exact h
  · exact Ob.setSecond_ok h _ (by omega)
theorem Ob.held_shp (ob : Ob) (i : Nat) : (ob.held i).shp = ob.shp := by unfold Ob.held; split <;> rfl
theorem fieldsR_ok {S : Stt} {i : Nat} {x : Tx} {p : Nat} (hp : Plc S p) (h : (S.fieldsR i x p).2 = 0) :
    ∃ ob, p ≠ 0 ∧ lk S.H.cur p = some ob ∧ clashB i x.start ob.second = false ∧ fieldsE (noteB x.log.reads p x.log.mr) ob.freed ob.shp.weak = 0 ∧ S.fieldsR i x p = (S.tx i (x.read p), 0) := by
  by_cases h0 : p = 0
  · subst h0; unfold Stt.fieldsR Stt.lookR at h; simp at h
  · obtain ⟨ob, hob⟩ := Option.isSome_iff_exists.1 (hp.resolve_left h0)
    have e0 : S.shpOf p = ob.shp := by unfold Stt.shpOf; rw [hob]
    cases hc : clashB i x.start ob.second with
    | true =>
      have e1 : S.fieldsR i x p = (S, 141) := by unfold Stt.fieldsR Stt.lookR; rw [if_neg h0, hob]; simp [hc]
      rw [e1] at h; simp at h
    | false =>
      have e1 : S.fieldsR i x p = (S.tx i (x.read p), fieldsE (noteB x.log.reads p x.log.mr) ob.freed ob.shp.weak) := by
        unfold Stt.fieldsR Stt.lookR fieldsE; rw [if_neg h0, hob, e0]; simp only [hc]
        cases noteB x.log.reads p x.log.mr <;> cases ob.freed <;> cases ob.shp.weak <;> simp
      rw [e1] at h
      simp only at h
      exact ⟨ob, h0, hob, hc, h, by rw [e1, h]⟩
theorem noteB_room {l : List Nat} {p m : Nat} (h : l.length < m) : noteB l p m = true := by unfold noteB; simp [h]
theorem fieldsR_ab {S : Stt} {i : Nat} {x : Tx} {p : Nat} (hp : Plc S p) (hr : x.log.reads.length < x.log.mr) (h : isAb (S.fieldsR i x p).2 = true) : S.fieldsR i x p = (S, 141) := by
  by_cases h0 : p = 0
  · subst h0; unfold Stt.fieldsR Stt.lookR isAb at h; simp at h
  · obtain ⟨ob, hob⟩ := Option.isSome_iff_exists.1 (hp.resolve_left h0)
    have e0 : S.shpOf p = ob.shp := by unfold Stt.shpOf; rw [hob]
    cases hc : clashB i x.start ob.second with
    | true => unfold Stt.fieldsR Stt.lookR; rw [if_neg h0, hob]; simp [hc]
    | false =>
      have e1 : S.fieldsR i x p = (S.tx i (x.read p), fieldsE (noteB x.log.reads p x.log.mr) ob.freed ob.shp.weak) := by
        unfold Stt.fieldsR Stt.lookR fieldsE; rw [if_neg h0, hob, e0]; simp only [hc]
        cases noteB x.log.reads p x.log.mr <;> cases ob.freed <;> cases ob.shp.weak <;> simp
      rw [e1, noteB_room hr] at h
      have hno : ∀ a b, isAb (fieldsE true a b) = true → False := by decide
      exact (hno _ _ h).elim
section
variable {w w' : World} {o o' : Own} {y : SLay} {S : Stt} {x : Tx} {i : Nat}
theorem change_ferr (kd p j : Nat) (v ef : Int) (he : ef ≠ 0) (vg vs : Value) (S1 : Stt) (h : StIn w o y S)
    (fields : ∀ w1 o1, StIn w1 o1 y S → Calls Tryz.prog 100 #[ptr y.sb, ptr (y.xb i), .int .i64 p] w1 fun e w' => e = .returned (.int .i64 ef) ∧ ∃ o', StIn w' o' y S1 ∧ Stp (txTag y i) o1 o' w1 w') :
    Calls Tryz.prog 47 #[ptr y.sb, ptr (y.xb i), .agg #[.int .i64 kd, .int .i64 p, .int .i64 j, .int .i64 0], vg, vs, .int .i64 v] w
      fun e w' => e = .returned (.int .i64 ef) ∧ ∃ o', StIn w' o' y S1 ∧ Stp (txTag y i) o o' w w' := by
  have HF := Lib.hid (fields _ o (h.below (balloc (bsame w) (.cells #[.int .i64 kd, .int .i64 p, .int .i64 j, .int .i64 0] 96))))
  have jU := Blk.new w #[.int .i64 kd, .int .i64 p, .int .i64 j, .int .i64 0] 96
  have hb : (ef != 0) = true := by rw [bne_iff_ne]; exact he
  have hb2 : (ef == 0) = false := by rw [beq_eq_false_iff_ne]; exact he
  clear fields h
  have cU := jU.cell
  go_enter Tryz.func47, Tryz.ntmps47
  go_wp2_with fail
  refine HF.out.mono ?_
  rintro e w1 ⟨rfl, o2, hS1, hs1⟩
  go_wp2_with fail
  go_ret
  exact ⟨rfl, o2, hS1, (Stp.of_below (balloc (bsame w) _)).trans hs1⟩

/-! ### Num and SetNum -/
theorem change_gerr_num (kd p j : Nat) (v eg : Int) (he : eg ≠ 0) (vs : Value) (S1 : Stt) (h : StIn w o y S)
    (fields : ∀ w1 o1, StIn w1 o1 y S → Calls Tryz.prog 100 #[ptr y.sb, ptr (y.xb i), .int .i64 p] w1 fun e w' => e = .returned (.int .i64 0) ∧ ∃ o', StIn w' o' y S1 ∧ Stp (txTag y i) o1 o' w1 w')
    (get : ∀ w1 o1, StIn w1 o1 y S1 → Calls Tryz.prog 48 #[ptr y.l.h, .int .i64 p, .int .i64 j] w1 fun e w' => e = .returned (.tuple #[.int .i64 0, .int .i64 eg]) ∧ Below w1.heap.size w1 w') :
    Calls Tryz.prog 47 #[ptr y.sb, ptr (y.xb i), .agg #[.int .i64 kd, .int .i64 p, .int .i64 j, .int .i64 0], .func (.func 48) #[ptr y.l.h] #[], vs, .int .i64 v] w
      fun e w' => e = .returned (.int .i64 eg) ∧ ∃ o', StIn w' o' y S1 ∧ Stp (txTag y i) o o' w w' := by
  obtain ⟨o1, ho1⟩ : ∃ o1, o1 = ext o w.heap.size (y.l.id + 1, 0) := ⟨_, rfl⟩
  have hr := h.retag (o' := o1) fun b hb => by rw [ho1]; exact ext_lt hb
  have hS0 : Stp (txTag y i) o o1 w w := by rw [ho1]; exact (Stp.refl _ o w).ext _ _ (Nat.le_refl _)
  have hbx : o1 w.heap.size = (y.l.id + 1, 0) := by rw [ho1]; exact ext_ge (Nat.le_refl _)
  clear ho1 h
  have HF := Lib.hid (fields _ o1 (hr.below (balloc (bsame w) (.cells #[.int .i64 kd, .int .i64 p, .int .i64 j, .int .i64 0] 96))))
  have HG := Lib.hid get
  have HB := Lib.hid (txTag_box y i)
  have jU := Blk.new w #[.int .i64 kd, .int .i64 p, .int .i64 j, .int .i64 0] 96
  have hb : (eg != 0) = true := by rw [bne_iff_ne]; exact he
  have hb2 : (eg == 0) = false := by rw [beq_eq_false_iff_ne]; exact he
  clear fields get hr
  have cU := jU.cell
  go_enter Tryz.func47, Tryz.ntmps47
  go_wp2_with fail
  refine HF.out.mono ?_
  rintro e w1 ⟨rfl, o2, hS1, hs1⟩
  have jU1 := jU.stp hs1 (by rw [hbx]; exact HB.out)
  clear cU
  have cU := jU1.cell
  go_wp2_with fail
  refine (HG.out _ o2 hS1).mono ?_
  rintro e w2 ⟨rfl, hb2⟩
  go_wp2_with fail
  go_ret
  exact ⟨rfl, o2, hS1.below hb2, hS0.trans ((Stp.of_below (balloc (bsame w) _)).trans (hs1.trans (Stp.of_below hb2)))⟩
def Stt.readR (S : Stt) (i : Nat) (x : Tx) (p j : Nat) : Res :=
  if (S.fieldsR i x p).2 ≠ 0 then ⟨(S.fieldsR i x p).1, 0, (S.fieldsR i x p).2⟩ else match (lk S.H.cur p).bind (·.nums[j]?) with
  | some n => ⟨(S.fieldsR i x p).1, n, 0⟩
  | none => ⟨(S.fieldsR i x p).1, 0, 71⟩
set_option maxRecDepth 100000 in
theorem sread_any (h0 : StIn w o y S) (hP : Pre S i x) {p : Nat} (hp : Plc S p) (j : Nat) :
    Calls Tryz.prog 19 #[ptr y.sb, .int .i64 i, .int .i64 p, .int .i64 j] w fun e w' => e = .returned (.tuple #[.int .i64 ((S.readR i x p j).fin i).v, .int .i64 ((S.readR i x p j).fin i).e]) ∧ ∃ o', StIn w' o' y ((S.readR i x p j).fin i).S ∧ Stp (stTag y) o o' w w' := by
  have hmf : ∀ (fn : Fn) (first cap : Array Value) (w : World), (Instr.makeFunc fn first cap).run Tryz.prog w = .ok (.func fn first cap) w := fun _ _ _ _ => rfl
  obtain ⟨o1, ho1⟩ : ∃ o1, o1 = ext o w.heap.size (y.l.id + 1, 0) := ⟨_, rfl⟩
  have h := h0.retag (o' := o1) fun b hb => by rw [ho1]; exact ext_lt hb
  have hS0 : Stp (stTag y) o o1 w w := by rw [ho1]; exact (Stp.refl _ o w).ext _ _ (Nat.le_refl _)
  have hbx : ∀ b, w.heap.size ≤ b → o1 b = (y.l.id + 1, 0) := fun b hb => by rw [ho1]; exact ext_ge hb
  clear ho1 h0
  obtain ⟨W, hW⟩ : ∃ W : World, W = (((w.alloc (.cells #[ptr y.sb] 23)).alloc (.cells #[.int .i64 p] 3)).alloc (.cells #[.int .i64 j] 3)).alloc (.cells #[.func (.func 48) #[] #[]] 111) := ⟨_, rfl⟩
  have hbW : Below w.heap.size w W := by rw [hW]; exact balloc (balloc (balloc (balloc (bsame w) _) _) _) _
  have j1 : Blk W w.heap.size #[ptr y.sb] 23 := by rw [hW]; exact (((Blk.new w _ _).alloc _).alloc _).alloc _
  have j2 : Blk W (w.heap.size + 1) #[.int .i64 p] 3 := by rw [hW]; exact ((Blk.new_at _ _ _ _ _ (by simp) rfl).alloc _).alloc _
  have j4 : Blk W (w.heap.size + 1 + 1) #[.int .i64 j] 3 := by rw [hW]; exact (Blk.new_at _ _ _ _ _ (by simp) rfl).alloc _
  have j3 : Blk W (w.heap.size + 1 + 1 + 1) #[.func (.func 48) #[] #[]] 111 := by rw [hW]; exact Blk.new_at _ _ _ _ _ (by simp) rfl
  have hab : isAb (S.readR i x p j).e = true → AbOk (S.readR i x p j).S i := fun ha => by
    unfold Stt.readR at ha ⊢
    split at ha
    · rename_i hne
      rw [if_pos hne]
      have := fieldsR_ab hp hP.r1 ha
      show AbOk (S.fieldsR i x p).1 i
      rw [this]; exact hP.ab
    · split at ha <;> simp [isAb] at ha
  have HD := Lib.hid (deed_any 110 [ptr w.heap.size, ptr (w.heap.size + 1), ptr (w.heap.size + 1 + 1 + 1), ptr (w.heap.size + 1 + 1)] (h.below hbW) hP.ok hP.hx hP.live eg_field1_num (S.readR i x p j) hab
    (fun w1 o2 hb he2 hS => by
      have a1 := j1.below hb j1.lt
      have a2 := j2.below hb j2.lt
      have a3 := j3.below hb j3.lt
      have a4 := j4.below hb j4.lt
      have tg : ∀ b, w.heap.size ≤ b → b < W.heap.size → o2 b = (y.l.id + 1, 0) := fun b hb1 hb2 => (he2 _ hb2).trans (hbx _ hb1)
      unfold Stt.readR
      by_cases hne : (S.fieldsR i x p).2 = 0
      · rw [if_neg (by simpa using hne)]
        obtain ⟨ob, hp0, hob, hc, hfe, he⟩ := fieldsR_ok hp hne
        rw [hob, Option.bind_some, he]
        have fin : ∀ v err : Int, (∀ w' o', StIn w' o' y { S with txs := S.txs.set i (x.read p) } → Calls Tryz.prog 48 #[ptr y.l.h, .int .i64 p, .int .i64 j] w' fun e w'' => e = .returned (.tuple #[.int .i64 v, .int .i64 err]) ∧ Below w'.heap.size w' w'') →
            Calls Tryz.prog 110 (ptr (y.xb i) :: [ptr w.heap.size, ptr (w.heap.size + 1), ptr (w.heap.size + 1 + 1 + 1), ptr (w.heap.size + 1 + 1)]).toArray w1 fun e w' => e = .returned (.tuple #[.int .i64 v, .int .i64 err]) ∧ ∃ o', StIn w' o' y (S.tx i (x.read p)) ∧ Stp (stTag y) o2 o' w1 w' := fun v err hg => by
          refine (field1_num hS hP.ok hP.hx hob (hP.secs p ob hob) hc hp0 hfe j v err hg a1 a2 a3 a4 (tg _ (Nat.le_refl _) j1.lt) (tg _ (by omega) j2.lt) (tg _ (by omega) j3.lt) (tg _ (by omega) j4.lt)).mono ?_
          rintro e w' ⟨rfl, o', h1, h2⟩
          exact ⟨rfl, o', h1, h2.mono fun _ => stTag_tx⟩
        cases hv : ob.nums[j]? with
        | some v =>
          refine fin v 0 fun w' o' hS' => ?_
          obtain ⟨vc, vo, vw, vf, f, hh⟩ := hS'.hp
          exact hnum_in hh hP.ok.F.ok hob j v hv
        | none =>
          refine fin 0 71 fun w' o' hS' => ?_
          obtain ⟨vc, vo, vw, vf, f, hh⟩ := hS'.hp
          have ho := ok_of_lk hP.ok hob
          exact hnum_out hh hP.ok.F.ok hob j (by have := List.getElem?_eq_none_iff.1 hv; rw [ho.ln] at this; exact this)
      · rw [if_pos (by simpa using hne)]
        refine (field1_err p (S.fieldsR i x p).2 hne (S.fieldsR i x p).1 (fields_any hS hP.ok hP.hx hP.secs hp) a1 a2).mono ?_
        rintro e w' ⟨rfl, o', h1, h2⟩
        exact ⟨rfl, o', h1, h2.mono fun _ => stTag_tx⟩))
  have HS := Lib.hid (hS0.trans (Stp.of_below hbW))
  generalize Res.fin (S.readR i x p j) i = R at *
  clear h hbx hS0 hbW j1 j2 j3 j4 hab hP hp
  have HF := Lib.hid (show Calls Tryz.prog 58 #[ptr y.sb, .int .i64 i, .int .i64 p, .int .i64 j, .func (.func 48) #[] #[]] w fun e w' => e = .returned (.tuple #[.int .i64 R.v, .int .i64 R.e]) ∧ ∃ o', StIn w' o' y R.S ∧ Stp (stTag y) o o' w w' from by
    go_enter Tryz.func58, Tryz.ntmps58
    go_wp2_with fail
    rw [← hW]
    refine HD.out.mono ?_
    rintro e w2 ⟨rfl, o2, hS2, hs2⟩
    go_wp2_with fail
    go_ret2
    exact ⟨rfl, o2, hS2, HS.out.trans hs2⟩)
  clear HD hW HS
  go_enter Tryz.func19, Tryz.ntmps19
  go_wp2_with fail
  refine HF.out.mono ?_
  rintro e w2 ⟨rfl, o2, hS2, hs2⟩
  go_wp2_with fail
  go_ret2
  exact ⟨rfl, o2, hS2, hs2⟩

/-! ### Ptr and SetPtr -/
theorem change_gerr_ptr (kd p j : Nat) (v eg : Int) (he : eg ≠ 0) (vs : Value) (S1 : Stt) (h : StIn w o y S)
    (fields : ∀ w1 o1, StIn w1 o1 y S → Calls Tryz.prog 100 #[ptr y.sb, ptr (y.xb i), .int .i64 p] w1 fun e w' => e = .returned (.int .i64 0) ∧ ∃ o', StIn w' o' y S1 ∧ Stp (txTag y i) o1 o' w1 w')
    (get : ∀ w1 o1, StIn w1 o1 y S1 → Calls Tryz.prog 59 #[ptr y.l.h, .int .i64 p, .int .i64 j] w1 fun e w' => e = .returned (.tuple #[.int .i64 0, .int .i64 eg]) ∧ Below w1.heap.size w1 w') :
    Calls Tryz.prog 47 #[ptr y.sb, ptr (y.xb i), .agg #[.int .i64 kd, .int .i64 p, .int .i64 j, .int .i64 0], .func (.func 59) #[ptr y.l.h] #[], vs, .int .i64 v] w
      fun e w' => e = .returned (.int .i64 eg) ∧ ∃ o', StIn w' o' y S1 ∧ Stp (txTag y i) o o' w w' := by
  obtain ⟨o1, ho1⟩ : ∃ o1, o1 = ext o w.heap.size (y.l.id + 1, 0) := ⟨_, rfl⟩
  have hr := h.retag (o' := o1) fun b hb => by rw [ho1]; exact ext_lt hb
  have hS0 : Stp (txTag y i) o o1 w w := by rw [ho1]; exact (Stp.refl _ o w).ext _ _ (Nat.le_refl _)
  have hbx : o1 w.heap.size = (y.l.id + 1, 0) := by rw [ho1]; exact ext_ge (Nat.le_refl _)
  clear ho1 h
  have HF := Lib.hid (fields _ o1 (hr.below (balloc (bsame w) (.cells #[.int .i64 kd, .int .i64 p, .int .i64 j, .int .i64 0] 96))))
  have HG := Lib.hid get
  have HB := Lib.hid (txTag_box y i)
  have jU := Blk.new w #[.int .i64 kd, .int .i64 p, .int .i64 j, .int .i64 0] 96
  have hb : (eg != 0) = true := by rw [bne_iff_ne]; exact he
  have hb2 : (eg == 0) = false := by rw [beq_eq_false_iff_ne]; exact he
  clear fields get hr
  have cU := jU.cell
  go_enter Tryz.func47, Tryz.ntmps47
  go_wp2_with fail
  refine HF.out.mono ?_
  rintro e w1 ⟨rfl, o2, hS1, hs1⟩
  have jU1 := jU.stp hs1 (by rw [hbx]; exact HB.out)
  clear cU
  have cU := jU1.cell
  go_wp2_with fail
  refine (HG.out _ o2 hS1).mono ?_
  rintro e w2 ⟨rfl, hb2⟩
  go_wp2_with fail
  go_ret
  exact ⟨rfl, o2, hS1.below hb2, hS0.trans ((Stp.of_below (balloc (bsame w) _)).trans (hs1.trans (Stp.of_below hb2)))⟩
def Stt.getR (S : Stt) (i : Nat) (x : Tx) (p j : Nat) : Res :=
  if (S.fieldsR i x p).2 ≠ 0 then ⟨(S.fieldsR i x p).1, 0, (S.fieldsR i x p).2⟩ else match (lk S.H.cur p).bind (·.ptrs[j]?) with
  | some n => ⟨(S.fieldsR i x p).1, n, 0⟩
  | none => ⟨(S.fieldsR i x p).1, 0, 71⟩
set_option maxRecDepth 100000 in
theorem sget_any (h0 : StIn w o y S) (hP : Pre S i x) {p : Nat} (hp : Plc S p) (j : Nat) :
    Calls Tryz.prog 20 #[ptr y.sb, .int .i64 i, .int .i64 p, .int .i64 j] w fun e w' => e = .returned (.tuple #[.int .i64 ((S.getR i x p j).fin i).v, .int .i64 ((S.getR i x p j).fin i).e]) ∧ ∃ o', StIn w' o' y ((S.getR i x p j).fin i).S ∧ Stp (stTag y) o o' w w' := by
  have hmf : ∀ (fn : Fn) (first cap : Array Value) (w : World), (Instr.makeFunc fn first cap).run Tryz.prog w = .ok (.func fn first cap) w := fun _ _ _ _ => rfl
  obtain ⟨o1, ho1⟩ : ∃ o1, o1 = ext o w.heap.size (y.l.id + 1, 0) := ⟨_, rfl⟩
  have h := h0.retag (o' := o1) fun b hb => by rw [ho1]; exact ext_lt hb
  have hS0 : Stp (stTag y) o o1 w w := by rw [ho1]; exact (Stp.refl _ o w).ext _ _ (Nat.le_refl _)
  have hbx : ∀ b, w.heap.size ≤ b → o1 b = (y.l.id + 1, 0) := fun b hb => by rw [ho1]; exact ext_ge hb
  clear ho1 h0
  obtain ⟨W, hW⟩ : ∃ W : World, W = (((w.alloc (.cells #[ptr y.sb] 23)).alloc (.cells #[.int .i64 p] 3)).alloc (.cells #[.int .i64 j] 3)).alloc (.cells #[.func (.func 59) #[] #[]] 111) := ⟨_, rfl⟩
  have hbW : Below w.heap.size w W := by rw [hW]; exact balloc (balloc (balloc (balloc (bsame w) _) _) _) _
  have j1 : Blk W w.heap.size #[ptr y.sb] 23 := by rw [hW]; exact (((Blk.new w _ _).alloc _).alloc _).alloc _
  have j2 : Blk W (w.heap.size + 1) #[.int .i64 p] 3 := by rw [hW]; exact ((Blk.new_at _ _ _ _ _ (by simp) rfl).alloc _).alloc _
  have j4 : Blk W (w.heap.size + 1 + 1) #[.int .i64 j] 3 := by rw [hW]; exact (Blk.new_at _ _ _ _ _ (by simp) rfl).alloc _
  have j3 : Blk W (w.heap.size + 1 + 1 + 1) #[.func (.func 59) #[] #[]] 111 := by rw [hW]; exact Blk.new_at _ _ _ _ _ (by simp) rfl
  have hab : isAb (S.getR i x p j).e = true → AbOk (S.getR i x p j).S i := fun ha => by
    unfold Stt.getR at ha ⊢
    split at ha
    · rename_i hne
      rw [if_pos hne]
      have := fieldsR_ab hp hP.r1 ha
      show AbOk (S.fieldsR i x p).1 i
      rw [this]; exact hP.ab
    · split at ha <;> simp [isAb] at ha
  have HD := Lib.hid (deed_any 110 [ptr w.heap.size, ptr (w.heap.size + 1), ptr (w.heap.size + 1 + 1 + 1), ptr (w.heap.size + 1 + 1)] (h.below hbW) hP.ok hP.hx hP.live eg_field1_num (S.getR i x p j) hab
    (fun w1 o2 hb he2 hS => by
      have a1 := j1.below hb j1.lt
      have a2 := j2.below hb j2.lt
      have a3 := j3.below hb j3.lt
      have a4 := j4.below hb j4.lt
      have tg : ∀ b, w.heap.size ≤ b → b < W.heap.size → o2 b = (y.l.id + 1, 0) := fun b hb1 hb2 => (he2 _ hb2).trans (hbx _ hb1)
      unfold Stt.getR
      by_cases hne : (S.fieldsR i x p).2 = 0
      · rw [if_neg (by simpa using hne)]
        obtain ⟨ob, hp0, hob, hc, hfe, he⟩ := fieldsR_ok hp hne
        rw [hob, Option.bind_some, he]
        have fin : ∀ v err : Int, (∀ w' o', StIn w' o' y { S with txs := S.txs.set i (x.read p) } → Calls Tryz.prog 59 #[ptr y.l.h, .int .i64 p, .int .i64 j] w' fun e w'' => e = .returned (.tuple #[.int .i64 v, .int .i64 err]) ∧ Below w'.heap.size w' w'') →
            Calls Tryz.prog 110 (ptr (y.xb i) :: [ptr w.heap.size, ptr (w.heap.size + 1), ptr (w.heap.size + 1 + 1 + 1), ptr (w.heap.size + 1 + 1)]).toArray w1 fun e w' => e = .returned (.tuple #[.int .i64 v, .int .i64 err]) ∧ ∃ o', StIn w' o' y (S.tx i (x.read p)) ∧ Stp (stTag y) o2 o' w1 w' := fun v err hg => by
          refine (field1_ptr hS hP.ok hP.hx hob (hP.secs p ob hob) hc hp0 hfe j v err hg a1 a2 a3 a4 (tg _ (Nat.le_refl _) j1.lt) (tg _ (by omega) j2.lt) (tg _ (by omega) j3.lt) (tg _ (by omega) j4.lt)).mono ?_
          rintro e w' ⟨rfl, o', h1, h2⟩
          exact ⟨rfl, o', h1, h2.mono fun _ => stTag_tx⟩
        cases hv : ob.ptrs[j]? with
        | some v =>
          refine fin v 0 fun w' o' hS' => ?_
          obtain ⟨vc, vo, vw, vf, f, hh⟩ := hS'.hp
          exact hptr_in hh hP.ok.F.ok hP.ok.F.mov hob j v hv
        | none =>
          refine fin 0 71 fun w' o' hS' => ?_
          obtain ⟨vc, vo, vw, vf, f, hh⟩ := hS'.hp
          have ho := ok_of_lk hP.ok hob
          exact hptr_out hh hP.ok.F.ok hob j (by have := List.getElem?_eq_none_iff.1 hv; rw [ho.lp] at this; exact this)
      · rw [if_pos (by simpa using hne)]
        refine (field1_err p (S.fieldsR i x p).2 hne (S.fieldsR i x p).1 (fields_any hS hP.ok hP.hx hP.secs hp) a1 a2).mono ?_
        rintro e w' ⟨rfl, o', h1, h2⟩
        exact ⟨rfl, o', h1, h2.mono fun _ => stTag_tx⟩))
  have HS := Lib.hid (hS0.trans (Stp.of_below hbW))
  generalize Res.fin (S.getR i x p j) i = R at *
  clear h hbx hS0 hbW j1 j2 j3 j4 hab hP hp
  have HF := Lib.hid (show Calls Tryz.prog 58 #[ptr y.sb, .int .i64 i, .int .i64 p, .int .i64 j, .func (.func 59) #[] #[]] w fun e w' => e = .returned (.tuple #[.int .i64 R.v, .int .i64 R.e]) ∧ ∃ o', StIn w' o' y R.S ∧ Stp (stTag y) o o' w w' from by
    go_enter Tryz.func58, Tryz.ntmps58
    go_wp2_with fail
    rw [← hW]
    refine HD.out.mono ?_
    rintro e w2 ⟨rfl, o2, hS2, hs2⟩
    go_wp2_with fail
    go_ret2
    exact ⟨rfl, o2, hS2, HS.out.trans hs2⟩)
  clear HD hW HS
  go_enter Tryz.func20, Tryz.ntmps20
  go_wp2_with fail
  refine HF.out.mono ?_
  rintro e w2 ⟨rfl, o2, hS2, hs2⟩
  go_wp2_with fail
  go_ret2
  exact ⟨rfl, o2, hS2, hs2⟩
end
end Go.Proofs.YtemohiainfllcaaGreat

/- A store's public Write, Put and Free. -/
namespace Go.Proofs.YtemohiainfllcaaGreat
open Go.RowKit Hp
attribute [local go_sem ↓] Go.wp_at_zero Go.wp_at_succ
section
variable {w w' : World} {o o' : Own} {y : SLay} {S : Stt} {x : Tx} {i : Nat}
theorem Pre.lt (hP : Pre S i x) : i < S.txs.length := (List.getElem?_eq_some_iff.1 hP.hx).1
theorem Pre.i8 (hP : Pre S i x) : i ≤ 8 := by have := hP.lt; have := hP.ok.t8; omega
theorem Pre.lg (hP : Pre S i x) : x.log.ok := hP.ok.lg x (List.mem_of_getElem? hP.hx)
theorem Pre.st (hP : Pre S i x) : x.start ≤ S.now := hP.ok.st x (List.mem_of_getElem? hP.hx)
theorem tx_at (S : Stt) {i : Nat} (hi : i < S.txs.length) (x : Tx) : (S.tx i x).txs[i]? = some x := by simp [hi]
theorem Pre.ok1 (hP : Pre S i x) (p : Nat) : (S.tx i (x.read p)).ok := Stt.ok_tx hP.ok (Tx.read_ok hP.lg p) hP.st
theorem Pre.ok2 (hP : Pre S i x) {p : Nat} {ob : Ob} (hob : lk S.H.cur p = some ob) : ((S.tx i ((x.read p).hold1 p ob)).at' p (ob.held i)).ok := by
  have h1 : (S.tx i ((x.read p).hold1 p ob)).ok := Stt.ok_tx hP.ok (Tx.hold1_ok (Tx.read_ok hP.lg p) p ob hP.r3) (by rw [(Tx.hold1_undos _ _ _).2.2]; exact hP.st)
  exact Stt.ok_at h1 hob (Ob.held_ok (ok_of_lk hP.ok hob) hP.i8) (size_of_shp (Ob.held_shp _ _))
theorem Pre.ok3 (hP : Pre S i x) {p : Nat} {ob : Ob} (hob : lk S.H.cur p = some ob) (u : Un) : ((S.tx i (((x.read p).hold1 p ob).undo u)).at' p (ob.held i)).ok := by
  have hu := Tx.hold1_undos (x.read p) p ob
  have h1 : (S.tx i (((x.read p).hold1 p ob).undo u)).ok := Stt.ok_tx hP.ok (Tx.undo_ok (Tx.hold1_ok (Tx.read_ok hP.lg p) p ob hP.r3) u (by rw [hu.1, hu.2.1]; exact hP.r4)) (by show ((x.read p).hold1 p ob).start ≤ S.now; rw [hu.2.2]; exact hP.st)
  exact Stt.ok_at h1 hob (Ob.held_ok (ok_of_lk hP.ok hob) hP.i8) (size_of_shp (Ob.held_shp _ _))
theorem lk_held {S : Stt} {x : Tx} {i p : Nat} {ob a : Ob} (hob : lk S.H.cur p = some ob) : lk ((S.tx i x).at' p a).H.cur p = some a := by
  show lk (up S.H.cur p a) p = _
  rw [lk_up, if_pos rfl, hob]; rfl
theorem hold_step (hP : Pre S i x) {p : Nat} {ob : Ob} (hob : lk S.H.cur p = some ob) (w1 : World) (o1 : Own) (h : StIn w1 o1 y (S.tx i (x.read p))) :
    Calls Tryz.prog 62 #[ptr y.sb, ptr (y.xb i), .int .i64 p] w1 fun e w' => e = .returned (.bool true) ∧ ∃ o', StIn w' o' y ((S.tx i ((x.read p).hold1 p ob)).at' p (ob.held i)) ∧ Stp (opTag y i) o1 o' w1 w' := by
  refine (hold_any h (hP.ok1 p) (tx_at S hP.lt _) hob (hP.secs p ob hob) (fun hne z hz e => hne (hP.held z hz ob (by rw [e]; exact hob))) hP.r3).mono ?_
  rintro e w' ⟨rfl, o', h1, h2⟩
  rw [Stt.tx_tx] at h1
  exact ⟨rfl, o', h1, h2⟩
theorem undo_step (hP : Pre S i x) {p : Nat} {ob : Ob} (hob : lk S.H.cur p = some ob) (u : Un) (w1 : World) (o1 : Own) (h : StIn w1 o1 y ((S.tx i ((x.read p).hold1 p ob)).at' p (ob.held i))) :
    Calls Tryz.prog 63 #[ptr (y.lb i), unV u] w1 fun e w' => e = .returned (.bool true) ∧ ∃ o', StIn w' o' y ((S.tx i (((x.read p).hold1 p ob).undo u)).at' p (ob.held i)) ∧ Stp (txTag y i) o1 o' w1 w' := by
  have hu := Tx.hold1_undos (x.read p) p ob
  refine (logundo_in h (hP.ok2 hob) (tx_at S hP.lt _) u (by rw [hu.1, hu.2.1]; exact hP.r4)).mono ?_
  rintro e w' ⟨rfl, o', h1, h2⟩
  refine ⟨rfl, o', ?_, h2⟩
  have e1 : ({ (S.tx i ((x.read p).hold1 p ob)).at' p (ob.held i) with txs := ((S.tx i ((x.read p).hold1 p ob)).at' p (ob.held i)).txs.set i (((x.read p).hold1 p ob).undo u) } : Stt) = (S.tx i (((x.read p).hold1 p ob).undo u)).at' p (ob.held i) := by
    simp [List.set_set]
  rw [← e1]; exact h1

def Stt.writeR (S : Stt) (i : Nat) (x : Tx) (p j : Nat) (v : Int) : Res :=
  if (S.fieldsR i x p).2 ≠ 0 then ⟨(S.fieldsR i x p).1, 0, (S.fieldsR i x p).2⟩ else match lk S.H.cur p with
  | none => ⟨(S.fieldsR i x p).1, 0, 0⟩
  | some ob => match ob.nums[j]? with
    | none => ⟨(S.fieldsR i x p).1, 0, 71⟩
    | some old => ⟨(S.tx i (((x.read p).hold1 p ob).undo ⟨2, p, j, old⟩)).at' p ((ob.held i).setNum j v), 0, 0⟩
theorem change_num_any (h : StIn w o y S) (hP : Pre S i x) {p : Nat} (hp : Plc S p) (j : Nat) (v : Int) (hv : -9223372036854775808 ≤ v ∧ v ≤ 9223372036854775807) :
    Calls Tryz.prog 47 #[ptr y.sb, ptr (y.xb i), .agg #[.int .i64 2, .int .i64 p, .int .i64 j, .int .i64 0], .func (.func 48) #[ptr y.l.h] #[], .func (.func 49) #[ptr y.l.h] #[], .int .i64 v] w
      fun e w' => e = .returned (.int .i64 (S.writeR i x p j v).e) ∧ ∃ o', StIn w' o' y (S.writeR i x p j v).S ∧ Stp (opTag y i) o o' w w' := by
  have hfa := fun (w1 : World) (o1 : Own) (h1 : StIn w1 o1 y S) => fields_any h1 hP.ok hP.hx hP.secs hp
  by_cases hne : (S.fieldsR i x p).2 = 0
  · obtain ⟨ob, hp0, hob, hc, hfe, he⟩ := fieldsR_ok hp hne
    rw [he] at hfa
    have ho := ok_of_lk hP.ok hob
    cases hv0 : ob.nums[j]? with
    | none =>
      have e1 : S.writeR i x p j v = ⟨S.tx i (x.read p), 0, 71⟩ := by unfold Stt.writeR; rw [he]; simp only [ne_eq, not_true_eq_false, if_false, hob, hv0]
      rw [e1]
      refine (change_gerr_num 2 p j v 71 (by omega) _ _ h hfa fun w1 o1 h1 => ?_).mono ?_
      · obtain ⟨vc, vo, vw, vf, f, hh⟩ := h1.hp
        exact hnum_out hh hP.ok.F.ok hob j (by have := List.getElem?_eq_none_iff.1 hv0; rw [ho.ln] at this; exact this)
      · rintro e w' ⟨rfl, o', h1, h2⟩
        exact ⟨rfl, o', h1, h2.mono fun _ => opTag_tx⟩
    | some old =>
      have e1 : S.writeR i x p j v = ⟨(S.tx i (((x.read p).hold1 p ob).undo ⟨2, p, j, old⟩)).at' p ((ob.held i).setNum j v), 0, 0⟩ := by unfold Stt.writeR; rw [he]; simp only [ne_eq, not_true_eq_false, if_false, hob, hv0]
      rw [e1]
      have hj : j < ob.nums.length := (List.getElem?_eq_some_iff.1 hv0).1
      rw [ho.ln] at hj
      exact change_num 2 p j v old (S.tx i (x.read p)) ((S.tx i ((x.read p).hold1 p ob)).at' p (ob.held i)) ((S.tx i (((x.read p).hold1 p ob).undo ⟨2, p, j, old⟩)).at' p (ob.held i)) _ _ (tx_at S hP.lt _) h hfa (fun w1 o1 h1 => num_st h1 (hP.ok1 p) hob j old hv0) (hold_step hP hob) (fun w1 o1 h1 => undo_step hP hob ⟨2, p, j, old⟩ w1 o1 h1)
        (fun w1 o1 h1 => by
          refine (setnum_st h1 (hP.ok3 hob _) (lk_held hob) j v (by rw [Ob.held_shp]; exact hj) hv).mono ?_
          rintro e w' ⟨rfl, h2, h3⟩
          rw [Stt.at_at] at h2
          exact ⟨rfl, o1, h2, h3.mono fun _ => opTag_hp⟩)
  · have e1 : S.writeR i x p j v = ⟨(S.fieldsR i x p).1, 0, (S.fieldsR i x p).2⟩ := by unfold Stt.writeR; rw [if_pos hne]
    rw [e1]
    refine (change_ferr 2 p j v _ hne _ _ _ h hfa).mono ?_
    rintro e w' ⟨rfl, o', h1, h2⟩
    exact ⟨rfl, o', h1, h2.mono fun _ => opTag_tx⟩
theorem writeR_ab (hP : Pre S i x) {p : Nat} (hp : Plc S p) (j : Nat) (v : Int) (ha : isAb (S.writeR i x p j v).e = true) : S.writeR i x p j v = ⟨S, 0, 141⟩ := by
  unfold Stt.writeR at ha ⊢
  split at ha
  · rename_i hne
    have := fieldsR_ab hp hP.r1 ha
    rw [if_pos hne, this]
  · split at ha
    · simp [isAb] at ha
    · split at ha <;> simp [isAb] at ha
theorem writeR_v (j : Nat) (v : Int) (p : Nat) : (S.writeR i x p j v).v = 0 := by
  unfold Stt.writeR; repeat' split
  all_goals rfl

def Stt.putR (S : Stt) (i : Nat) (x : Tx) (p j : Nat) (v : Nat) : Res :=
  if (S.fieldsR i x p).2 ≠ 0 then ⟨(S.fieldsR i x p).1, 0, (S.fieldsR i x p).2⟩ else match lk S.H.cur p with
  | none => ⟨(S.fieldsR i x p).1, 0, 0⟩
  | some ob => match ob.ptrs[j]? with
    | none => ⟨(S.fieldsR i x p).1, 0, 71⟩
    | some old => ⟨(S.tx i (((x.read p).hold1 p ob).undo ⟨1, p, j, old⟩)).at' p ((ob.held i).setPtr j v), 0, 0⟩
theorem change_ptr_any (h : StIn w o y S) (hP : Pre S i x) {p : Nat} (hp : Plc S p) (j : Nat) (v : Nat) (hv : Plc S v) :
    Calls Tryz.prog 47 #[ptr y.sb, ptr (y.xb i), .agg #[.int .i64 1, .int .i64 p, .int .i64 j, .int .i64 0], .func (.func 59) #[ptr y.l.h] #[], .func (.func 97) #[ptr y.l.h] #[], .int .i64 v] w
      fun e w' => e = .returned (.int .i64 (S.putR i x p j v).e) ∧ ∃ o', StIn w' o' y (S.putR i x p j v).S ∧ Stp (opTag y i) o o' w w' := by
  have hfa := fun (w1 : World) (o1 : Own) (h1 : StIn w1 o1 y S) => fields_any h1 hP.ok hP.hx hP.secs hp
  by_cases hne : (S.fieldsR i x p).2 = 0
  · obtain ⟨ob, hp0, hob, hc, hfe, he⟩ := fieldsR_ok hp hne
    rw [he] at hfa
    have ho := ok_of_lk hP.ok hob
    cases hv0 : ob.ptrs[j]? with
    | none =>
      have e1 : S.putR i x p j v = ⟨S.tx i (x.read p), 0, 71⟩ := by unfold Stt.putR; rw [he]; simp only [ne_eq, not_true_eq_false, if_false, hob, hv0]
      rw [e1]
      refine (change_gerr_ptr 1 p j v 71 (by omega) _ _ h hfa fun w1 o1 h1 => ?_).mono ?_
      · obtain ⟨vc, vo, vw, vf, f, hh⟩ := h1.hp
        exact hptr_out hh hP.ok.F.ok hob j (by have := List.getElem?_eq_none_iff.1 hv0; rw [ho.lp] at this; exact this)
      · rintro e w' ⟨rfl, o', h1, h2⟩
        exact ⟨rfl, o', h1, h2.mono fun _ => opTag_tx⟩
    | some old =>
      have e1 : S.putR i x p j v = ⟨(S.tx i (((x.read p).hold1 p ob).undo ⟨1, p, j, old⟩)).at' p ((ob.held i).setPtr j v), 0, 0⟩ := by unfold Stt.putR; rw [he]; simp only [ne_eq, not_true_eq_false, if_false, hob, hv0]
      rw [e1]
      have hj : j < ob.ptrs.length := (List.getElem?_eq_some_iff.1 hv0).1
      rw [ho.lp] at hj
      exact change_ptr 1 p j v old (S.tx i (x.read p)) ((S.tx i ((x.read p).hold1 p ob)).at' p (ob.held i)) ((S.tx i (((x.read p).hold1 p ob).undo ⟨1, p, j, old⟩)).at' p (ob.held i)) _ _ (tx_at S hP.lt _) h hfa (fun w1 o1 h1 => ptr_st h1 (hP.ok1 p) hob j old hv0) (hold_step hP hob) (fun w1 o1 h1 => undo_step hP hob ⟨1, p, j, old⟩ w1 o1 h1)
        (fun w1 o1 h1 => by
          refine (setptr_st h1 (hP.ok3 hob _) (lk_held hob) j v (by rw [Ob.held_shp]; exact hj) (hv.imp id fun hh => by show (lk (up S.H.cur p (ob.held i)) v).isSome = true; rw [lk_up]; split; (rw [hob]; rfl); exact hh)).mono ?_
          rintro e w' ⟨rfl, h2, h3⟩
          rw [Stt.at_at] at h2
          exact ⟨rfl, o1, h2, h3.mono fun _ => opTag_hp⟩)
  · have e1 : S.putR i x p j v = ⟨(S.fieldsR i x p).1, 0, (S.fieldsR i x p).2⟩ := by unfold Stt.putR; rw [if_pos hne]
    rw [e1]
    refine (change_ferr 1 p j v _ hne _ _ _ h hfa).mono ?_
    rintro e w' ⟨rfl, o', h1, h2⟩
    exact ⟨rfl, o', h1, h2.mono fun _ => opTag_tx⟩
theorem putR_ab (hP : Pre S i x) {p : Nat} (hp : Plc S p) (j : Nat) (v : Nat) (ha : isAb (S.putR i x p j v).e = true) : S.putR i x p j v = ⟨S, 0, 141⟩ := by
  unfold Stt.putR at ha ⊢
  split at ha
  · rename_i hne
    have := fieldsR_ab hp hP.r1 ha
    rw [if_pos hne, this]
  · split at ha
    · simp [isAb] at ha
    · split at ha <;> simp [isAb] at ha
theorem putR_v (j : Nat) (v : Nat) (p : Nat) : (S.putR i x p j v).v = 0 := by
  unfold Stt.putR; repeat' split
  all_goals rfl

/-! ### the public Write -/
theorem swrite_any (h : StIn w o y S) (hP : Pre S i x) {p : Nat} (hp : Plc S p) (j : Nat) (v : Int) (hv : -9223372036854775808 ≤ v ∧ v ≤ 9223372036854775807) :
    Calls Tryz.prog 16 #[ptr y.sb, .int .i64 i, .int .i64 p, .int .i64 j, .int .i64 v] w fun e w' => e = .returned (.int .i64 ((S.writeR i x p j v).fin i).e) ∧ ∃ o', StIn w' o' y ((S.writeR i x p j v).fin i).S ∧ Stp (stTag y) o o' w w' := by
  have hmf : ∀ (fn : Fn) (first cap : Array Value) (w : World), (Instr.makeFunc fn first cap).run Tryz.prog w = .ok (.func fn first cap) w := fun _ _ _ _ => rfl
  obtain ⟨W, hW⟩ : ∃ W : World, W = (((w.alloc (.cells #[ptr y.sb] 23)).alloc (.cells #[.int .i64 p] 3)).alloc (.cells #[.int .i64 j] 3)).alloc (.cells #[.int .i64 v] 3) := ⟨_, rfl⟩
  have hbW : Below w.heap.size w W := by rw [hW]; exact balloc (balloc (balloc (balloc (bsame w) _) _) _) _
  have j1 : Blk W w.heap.size #[ptr y.sb] 23 := by rw [hW]; exact (((Blk.new w _ _).alloc _).alloc _).alloc _
  have j2 : Blk W (w.heap.size + 1) #[.int .i64 p] 3 := by rw [hW]; exact ((Blk.new_at _ _ _ _ _ (by simp) rfl).alloc _).alloc _
  have j3 : Blk W (w.heap.size + 1 + 1) #[.int .i64 j] 3 := by rw [hW]; exact (Blk.new_at _ _ _ _ _ (by simp) rfl).alloc _
  have j4 : Blk W (w.heap.size + 1 + 1 + 1) #[.int .i64 v] 3 := by rw [hW]; exact Blk.new_at _ _ _ _ _ (by simp) rfl
  have HD := Lib.hid (deed_any 46 [ptr (w.heap.size + 1), ptr (w.heap.size + 1 + 1), ptr w.heap.size, ptr (w.heap.size + 1 + 1 + 1)] (h.below hbW) hP.ok hP.hx hP.live eg_write1 (S.writeR i x p j v) (fun ha => by rw [writeR_ab hP hp j v ha]; exact hP.ab)
    (fun w1 o2 hb he2 hS => by
      rw [writeR_v]
      refine (write1_any p j v _ _ hS (fun w2 hb2 => change_num_any (hS.below hb2) hP hp j v hv) (j2.below hb j2.lt) (j3.below hb j3.lt) (j1.below hb j1.lt) (j4.below hb j4.lt)).mono ?_
      rintro e w' ⟨rfl, o', h1, h2⟩
      exact ⟨rfl, o', h1, h2.mono fun _ => stTag_op⟩))
  have HS := Lib.hid (Stp.of_below (T := stTag y) (o := o) hbW)
  generalize Res.fin (S.writeR i x p j v) i = R at *
  clear h hbW j1 j2 j3 j4 hP hp hv
  go_enter Tryz.func16, Tryz.ntmps16
  go_wp2_with fail
  rw [← hW]
  refine HD.out.mono ?_
  rintro e w2 ⟨rfl, o2, hS2, hs2⟩
  go_wp2_with fail
  go_ret
  exact ⟨rfl, o2, hS2, HS.out.trans hs2⟩
end
end Go.Proofs.YtemohiainfllcaaGreat

/- A store's public Put, Free, Commit and Abort. -/
namespace Go.Proofs.YtemohiainfllcaaGreat
open Go.RowKit Hp
attribute [local go_sem ↓] Go.wp_at_zero Go.wp_at_succ
section
variable {w w' : World} {o o' : Own} {y : SLay} {S : Stt} {x : Tx} {i : Nat}
theorem eg_put1 (args : Array Value) (w : World) : (callFunc 96 args).run Tryz.prog w = .ok (.enter 96 args) w := enters_of Tryz.func96 (by kernel_rfl) rfl args w
set_option maxRecDepth 100000 in
set_option maxHeartbeats 2000000 in
theorem put1_any (p j q : Nat) (err : Int) (S4 : Stt) (h : StIn w o y S) (hk : S.ok) (hq : Plc S q)
    (ch : ∀ w1, Below w.heap.size w w1 → Calls Tryz.prog 47 #[ptr y.sb, ptr (y.xb i), .agg #[.int .i64 1, .int .i64 p, .int .i64 j, .int .i64 0], .func (.func 59) #[ptr y.l.h] #[], .func (.func 97) #[ptr y.l.h] #[], .int .i64 q] w1
      fun e w' => e = .returned (.int .i64 err) ∧ ∃ o', StIn w' o' y S4 ∧ Stp (opTag y i) o o' w1 w')
    {b1 b2 b3 b4 : Nat} (j1 : Blk w b1 #[.int .i64 q] 3) (j2 : Blk w b2 #[ptr y.sb] 23) (j3 : Blk w b3 #[.int .i64 p] 3) (j4 : Blk w b4 #[.int .i64 j] 3) :
    Calls Tryz.prog 96 #[ptr (y.xb i), ptr b1, ptr b2, ptr b3, ptr b4] w fun e w' => e = .returned (.tuple #[.int .i64 0, .int .i64 err]) ∧ ∃ o', StIn w' o' y S4 ∧ Stp (opTag y i) o o' w w' := by
  have hmf : ∀ (fn : Fn) (first cap : Array Value) (w : World), (Instr.makeFunc fn first cap).run Tryz.prog w = .ok (.func fn first cap) w := fun _ _ _ _ => rfl
  have HC := Lib.hid ch
  have jb := h.blk
  unfold stCells at jb
  have HH := Lib.hid (fun (e : Later w) (hq0 : q ≠ 0) => by
    obtain ⟨ob, hob⟩ := Option.isSome_iff_exists.1 (hq.resolve_left hq0)
    obtain ⟨vc, vo, vw, vf, f, hh⟩ := (h.below e.2).hp
    exact here_yes hh hk.F.ok hob)
  clear ch h hk hq
  go_enter Tryz.func96, Tryz.ntmps96
  go_upto_region 1 with fail
  rcases Nat.eq_zero_or_pos q with hq0 | hq0
  · have hqb : ((q : Int) != 0) = false := by rw [hq0]; rfl
    have c1 := j1.cell
    clear hq0
    go_quiet (fail)
    obtain ⟨W0, hW0⟩ : ∃ W0, W0 = w.drewN nq := ⟨_, rfl⟩
    have hb0 : Below w.heap.size w W0 := by rw [hW0]; exact bdrewN (bsame _) _
    rw [← hW0]
    clear hW0 c1
    have k1 := j1.below hb0 j1.lt
    have k2 := j2.below hb0 j2.lt
    have k3 := j3.below hb0 j3.lt
    have k4 := j4.below hb0 j4.lt
    have kb := jb.below hb0 jb.lt
    have c3 := k3.cell
    have c4 := k4.cell
    go_upto_region 4 with fail
    clear c3 c4
    obtain ⟨W, hW⟩ : ∃ W : World, W = W0.alloc (.cells #[.int .i64 1, .int .i64 p, .int .i64 j, .int .i64 0] 96) := ⟨_, rfl⟩
    rw [← hW]
    have hbW : Below w.heap.size w W := by rw [hW]; exact balloc hb0 _
    have jU : Blk W W0.heap.size #[.int .i64 1, .int .i64 p, .int .i64 j, .int .i64 0] 96 := by rw [hW]; exact Blk.new W0 _ _
    have k1 := j1.below hbW j1.lt
    have k2 := j2.below hbW j2.lt
    have kb := jb.below hbW jb.lt
    clear hW
    have c3 := k1.cell
    have c4 := k2.cell
    have cb := kb.cell
    have cU := jU.cell
    have HC2 := Lib.hid (HC.out W.drew (bdrew hbW))
    go_still_tail 14, (by kernel_rfl)
    change wpList _ _ _ _ _ W.drew
    go_wp2_with fail
    refine HC2.out.mono ?_
    rintro e w2 ⟨rfl, o2, hS2, hs2⟩
    go_wp2_with fail
    go_ret2
    exact ⟨rfl, o2, hS2, (Stp.of_below (bdrew hbW)).trans hs2⟩
  · have hqb : ((q : Int) != 0) = true := by rw [bne_iff_ne]; omega
    have HH2 := Lib.hid (fun (e : Later w) => HH.out e (by omega))
    have l1 := fun (e : Later w) (i : Nat) => Later.cell j1 e i
    have l2 := fun (e : Later w) (i : Nat) => Later.cell j2 e i
    have l5 := fun (e : Later w) (i : Nat) => Later.cell jb e i
    clear hq0 HH
    refine wp_region_later (by kernel_rfl) (by kernel_rfl) ?_
    repeat (go_big_quiet_step ((go_at_call 81; exact later_of (HH2.out _))))
    refine wpQuiet_nil ?_
    intro w8 hW0
    obtain ⟨⟨W0, hb0⟩, hwt⟩ := hW0
    have hwt : w8 = W0 := hwt
    subst hwt
    clear l1 l2 l5
    have k1 := j1.below hb0 j1.lt
    have k2 := j2.below hb0 j2.lt
    have k3 := j3.below hb0 j3.lt
    have k4 := j4.below hb0 j4.lt
    have kb := jb.below hb0 jb.lt
    have c3 := k3.cell
    have c4 := k4.cell
    go_upto_region 4 with fail
    clear c3 c4
    obtain ⟨W, hW⟩ : ∃ W : World, W = w8.alloc (.cells #[.int .i64 1, .int .i64 p, .int .i64 j, .int .i64 0] 96) := ⟨_, rfl⟩
    rw [← hW]
    have hbW : Below w.heap.size w W := by rw [hW]; exact balloc hb0 _
    have jU : Blk W w8.heap.size #[.int .i64 1, .int .i64 p, .int .i64 j, .int .i64 0] 96 := by rw [hW]; exact Blk.new w8 _ _
    have k1 := j1.below hbW j1.lt
    have k2 := j2.below hbW j2.lt
    have kb := jb.below hbW jb.lt
    clear hW
    have c3 := k1.cell
    have c4 := k2.cell
    have cb := kb.cell
    have cU := jU.cell
    have HC2 := Lib.hid (HC.out W.drew (bdrew hbW))
    go_still_tail 14, (by kernel_rfl)
    change wpList _ _ _ _ _ W.drew
    go_wp2_with fail
    refine HC2.out.mono ?_
    rintro e w2 ⟨rfl, o2, hS2, hs2⟩
    go_wp2_with fail
    go_ret2
    exact ⟨rfl, o2, hS2, (Stp.of_below (bdrew hbW)).trans hs2⟩
theorem sput_any (h : StIn w o y S) (hP : Pre S i x) {p q : Nat} (hp : Plc S p) (hq : Plc S q) (j : Nat) :
    Calls Tryz.prog 41 #[ptr y.sb, .int .i64 i, .int .i64 p, .int .i64 j, .int .i64 q] w fun e w' => e = .returned (.int .i64 ((S.putR i x p j q).fin i).e) ∧ ∃ o', StIn w' o' y ((S.putR i x p j q).fin i).S ∧ Stp (stTag y) o o' w w' := by
  have hmf : ∀ (fn : Fn) (first cap : Array Value) (w : World), (Instr.makeFunc fn first cap).run Tryz.prog w = .ok (.func fn first cap) w := fun _ _ _ _ => rfl
  obtain ⟨W, hW⟩ : ∃ W : World, W = (((w.alloc (.cells #[ptr y.sb] 23)).alloc (.cells #[.int .i64 p] 3)).alloc (.cells #[.int .i64 j] 3)).alloc (.cells #[.int .i64 q] 3) := ⟨_, rfl⟩
  have hbW : Below w.heap.size w W := by rw [hW]; exact balloc (balloc (balloc (balloc (bsame w) _) _) _) _
  have j1 : Blk W w.heap.size #[ptr y.sb] 23 := by rw [hW]; exact (((Blk.new w _ _).alloc _).alloc _).alloc _
  have j2 : Blk W (w.heap.size + 1) #[.int .i64 p] 3 := by rw [hW]; exact ((Blk.new_at _ _ _ _ _ (by simp) rfl).alloc _).alloc _
  have j3 : Blk W (w.heap.size + 1 + 1) #[.int .i64 j] 3 := by rw [hW]; exact (Blk.new_at _ _ _ _ _ (by simp) rfl).alloc _
  have j4 : Blk W (w.heap.size + 1 + 1 + 1) #[.int .i64 q] 3 := by rw [hW]; exact Blk.new_at _ _ _ _ _ (by simp) rfl
  have HD := Lib.hid (deed_any 96 [ptr (w.heap.size + 1 + 1 + 1), ptr w.heap.size, ptr (w.heap.size + 1), ptr (w.heap.size + 1 + 1)] (h.below hbW) hP.ok hP.hx hP.live eg_put1 (S.putR i x p j q) (fun ha => by rw [putR_ab hP hp j q ha]; exact hP.ab)
    (fun w1 o2 hb he2 hS => by
      rw [putR_v]
      refine (put1_any p j q _ _ hS hP.ok hq (fun w2 hb2 => change_ptr_any (hS.below hb2) hP hp j q hq) (j4.below hb j4.lt) (j1.below hb j1.lt) (j2.below hb j2.lt) (j3.below hb j3.lt)).mono ?_
      rintro e w' ⟨rfl, o', h1, h2⟩
      exact ⟨rfl, o', h1, h2.mono fun _ => stTag_op⟩))
  have HS := Lib.hid (Stp.of_below (T := stTag y) (o := o) hbW)
  generalize Res.fin (S.putR i x p j q) i = R at *
  clear h hbW j1 j2 j3 j4 hP hp hq
  go_enter Tryz.func41, Tryz.ntmps41
  go_wp2_with fail
  rw [← hW]
  refine HD.out.mono ?_
  rintro e w2 ⟨rfl, o2, hS2, hs2⟩
  go_wp2_with fail
  go_ret
  exact ⟨rfl, o2, hS2, HS.out.trans hs2⟩
end
end Go.Proofs.YtemohiainfllcaaGreat
