/- Walks: a transaction is aborted. -/
import Derived.Test.YtemohiainfllcaaGreatRj
import Derived.Test.YtemohiainfllcaaGreatRh
import Derived.Stop.RegionWithIn
import Derived.Sort.CutIn
namespace Go.Proofs.YtemohiainfllcaaGreat
open Go.RowKit Go.Shelf Hp
attribute [local go_sem] Oper.semAt_some
section
variable {w w' : World} {o o' : Own} {y : SLay} {S : Stt} {x : Tx} {i : Nat}
def abTag (y : SLay) (i : Nat) (t : Tag) : Prop := opTag y i t ∨ ownTag y t
theorem abTag_box (y : SLay) (i : Nat) : ¬ abTag y i (y.l.id + 1, 0) := by
  rintro (h | h)
  · exact opTag_box y i h
  · injection h with h _; omega
theorem ext_ext (o : Own) (n m : Nat) (t : Tag) (h : n ≤ m) : ext (ext o n t) m t = ext o n t := by
  funext b; unfold ext; split
  · rfl
  · rw [if_neg (by omega)]
theorem backward_any (pa : Option Addr) (n c : Nat) (w : World) :
    Calls Tryz.prog 121 #[.slice pa n c] w fun e w' => e = .returned (.func (.func 167) #[] #[ptr w.heap.size]) ∧ w' = w.alloc (.cells #[.slice pa n c] 157) := by
  have hmf : ∀ (fn : Fn) (first cap : Array Value) (w : World), (Instr.makeFunc fn first cap).run Tryz.prog w = .ok (.func fn first cap) w := fun _ _ _ _ => rfl
  go_enter Tryz.func121, Tryz.ntmps121
  go_wp2_with fail
  go_ret
  exact ⟨rfl, rfl⟩
/-- While the entries are undone. -/
structure AbR (w : World) (o o1 : Own) (y : SLay) (S : Stt) (i : Nat) (us : List Un) (D bS bU : Nat) (v : Value) (R : Loop) (l : List (Nat × Ob)) (wr : World) : Prop where
  st : StIn wr o1 y (S.cur' l)
  hL : wr.heap[D + 1]? = some (.loop R)
  hD : wr.heap[D]? = some (.deferred (some []))
  jS : Blk wr bS #[ptr y.sb] 23
  jU : Blk wr bU #[v] 157
  row : Row wr o1 (y.l.id + 1, 0) 96 4 v us.length (ucells us)
  sp : Stp (abTag y i) o o1 w wr
  tL : o1 (D + 1) = (y.l.id + 1, 0)
  tD : o1 D = (y.l.id + 1, 0)
  tS : o1 bS = (y.l.id + 1, 0)
  tU : o1 bU = (y.l.id + 1, 0)
theorem Row.form4 {w : World} {o : Own} {t : Tag} {e : TypeId} {size : Nat} {v : Value} {n : Nat} {xs : List Value} (h : Row w o t e size v n xs) :
    (v = .slice none 0 0 ∧ xs = []) ∨ ∃ g cap, v = .slice (some ⟨g, 0, none⟩) n cap ∧ n ≤ cap := by
  rcases h.own.2 with ⟨rfl, h2⟩ | ⟨g, cap, cur, rfl, _, hg, hn, hc, _⟩
  · exact .inl ⟨rfl, List.eq_nil_of_length_eq_zero (by rw [h.own.1, h2]; omega)⟩
  · exact .inr ⟨g, cap, rfl, hn⟩
theorem Row.put {w : World} {o : Own} {t : Tag} {e : TypeId} {size : Nat} {v : Value} {n : Nat} {xs : List Value} (h : Row w o t e size v n xs) {l : Nat} {R : Loop} (hl : w.heap[l]? = some (.loop R)) (x : Obj) : Row (w.putObj l x) o t e size v n xs := by
  obtain ⟨⟨h1, h2⟩, h3⟩ := h
  refine ⟨⟨h1, ?_⟩, h3⟩
  rcases h2 with h2 | ⟨g, cap, cur, rfl, hg, hh, r⟩
  · exact .inl h2
  · refine .inr ⟨g, cap, cur, rfl, hg, (World.putObj_heap_other fun e => ?_).trans hh, r⟩
    rw [e, hl] at hh; cases hh
theorem Stp.put {T : Tag → Prop} {o o' : Own} {w w' : World} (h : Stp T o o' w w') {l : Nat} (hl : T (o' l)) (x : Obj) : Stp T o o' w (w'.putObj l x) :=
  h.trans ⟨rfl, rfl, rfl, by simp, fun _ _ => rfl, fun b _ ht => World.putObj_heap_other fun e => ht (by rw [e]; exact hl)⟩
theorem Stp.put_new {T : Tag → Prop} {o o' : Own} {w w' : World} (h : Stp T o o' w w') {l : Nat} (hl : w.heap.size ≤ l) (x : Obj) : Stp T o o' w (w'.putObj l x) :=
  ⟨h.os, h.tape, h.output, by simpa using h.size, h.tags, fun b hb ht => (World.putObj_heap_other (by omega)).trans (h.block b hb ht)⟩
theorem StIn.put (h : StIn w o y S) {l : Nat} (ht : o l = (y.l.id + 1, 0)) (x : Obj) : StIn (w.putObj l x) o y S :=
  h.stp (T := fun t => t = (y.l.id + 1, 0)) ((Stp.refl _ o w).put ht x) fun j => by simp
section
variable {o1 : Own} {us : List Un} {D bS bU : Nat} {v : Value} {R : Loop} {l l' : List (Nat × Ob)} {wr w2 : World}
theorem AbR.of_stp (h : AbR w o o1 y S i us D bS bU v R l wr) {T : Tag → Prop} (hs : Stp T o1 o1 wr w2) (hT : ¬ T (y.l.id + 1, 0)) (hab : ∀ t, T t → abTag y i t) (st : StIn w2 o1 y (S.cur' l')) : AbR w o o1 y S i us D bS bU v R l' w2 :=
  ⟨st, (hs.block _ (Array.getElem?_eq_some_iff.1 h.hL).1 (by rw [h.tL]; exact hT)).trans h.hL, (hs.block _ (Array.getElem?_eq_some_iff.1 h.hD).1 (by rw [h.tD]; exact hT)).trans h.hD, h.jS.stp hs (by rw [h.tS]; exact hT), h.jU.stp hs (by rw [h.tU]; exact hT),
    h.row.stp hs hT, h.sp.trans (hs.mono hab), h.tL, h.tD, h.tS, h.tU⟩
theorem AbR.below (h : AbR w o o1 y S i us D bS bU v R l wr) (hb : Below wr.heap.size wr w2) : AbR w o o1 y S i us D bS bU v R l w2 :=
  h.of_stp (T := fun _ => False) (Stp.of_below hb) (fun h => h) (fun _ h => h.elim) (h.st.below hb)
theorem AbR.put (h : AbR w o o1 y S i us D bS bU v R l wr) (hw : w.heap.size ≤ D) (R' : Loop) : AbR w o o1 y S i us D bS bU v R' l (wr.putObj (D + 1) (.loop R')) := by
  have n1 : bS ≠ D + 1 := fun e => by have := h.jS; unfold Blk at this; rw [e, h.hL] at this; cases this
  have n2 : bU ≠ D + 1 := fun e => by have := h.jU; unfold Blk at this; rw [e, h.hL] at this; cases this
  exact ⟨h.st.put h.tL _, World.putObj_heap_same (Array.getElem?_eq_some_iff.1 h.hL).1, (World.putObj_heap_other (by omega)).trans h.hD, h.jS.put n1, h.jU.put n2, h.row.put h.hL _, h.sp.put_new (by omega) _, h.tL, h.tD, h.tS, h.tU⟩
theorem Row.cell4 {w : World} {o : Own} {t : Tag} {l : List Un} {g n cap : Nat} (h : Row w o t 96 4 (.slice (some ⟨g, 0, none⟩) n cap) n (ucells l)) (i : Nat) (x : Un) (hx : l[i]? = some x) :
    w.cell? ⟨g, i * 4, none⟩ = some (.int .i64 x.kind) ∧ w.cell? ⟨g, i * 4 + 1, none⟩ = some (.int .i64 x.pos) ∧ w.cell? ⟨g, i * 4 + 2, none⟩ = some (.int .i64 x.i) ∧ w.cell? ⟨g, i * 4 + 3, none⟩ = some (.int .i64 x.old) := by
  obtain ⟨h1, h2, h3, h4⟩ := ucells_at l i x hx
  have f := fun j u hu => h.own.cells (g := g) rfl j u hu
  have e : ∀ j, (⟨g, 0, none⟩ : Addr).add j = ⟨g, j, none⟩ := fun j => by unfold Addr.add; split <;> simp_all
  have a1 := f _ _ h1
  have a2 := f _ _ h2
  have a3 := f _ _ h3
  have a4 := f _ _ h4
  rw [e] at a1 a2 a3 a4
  rw [Nat.mul_comm i 4]
  exact ⟨a1, a2, a3, a4⟩
end
set_option maxRecDepth 100000 in
set_option maxHeartbeats 4000000 in
theorem abort_in (h0 : StIn w o y S) (hk : S.ok) (hx : S.txs[i]? = some x) (hu : ∀ u ∈ x.log.undos, UnOk S.H.cur u) (hz : ∀ z ∈ x.log.holds, (lk S.H.cur z.1).isSome = true ∧ z.2 ≤ 1099511627776) :
    Calls Tryz.prog 67 #[ptr y.sb, ptr (y.xb i)] w fun e w' => e = .returned (.tuple #[]) ∧ ∃ o', StIn w' o' y (S.aborted i x) ∧ Stp (abTag y i) o o' w w' := by
  obtain ⟨o1, ho1⟩ : ∃ o1, o1 = ext o w.heap.size (y.l.id + 1, 0) := ⟨_, rfl⟩
  have h := h0.retag (o' := o1) fun b hb => by rw [ho1]; exact ext_lt hb
  have hS0 : Stp (abTag y i) o o1 w w := by rw [ho1]; exact (Stp.refl _ o w).ext _ _ (Nat.le_refl _)
  have hbx : ∀ b, w.heap.size ≤ b → o1 b = (y.l.id + 1, 0) := fun b hb => by rw [ho1]; exact ext_ge hb
  have hext : ∀ n, w.heap.size ≤ n → ext o1 n (y.l.id + 1, 0) = o1 := fun n hn => by rw [ho1]; exact ext_ext _ _ _ _ hn
  clear ho1 h0
  have hx' := h.txs i x hx
  obtain ⟨vr, vk, vh, vu, hl⟩ := hx'.log
  have HU := Lib.hid (fun w' (hw : Below w.heap.size w w') => log_undos (hl.below hw) (hk.lg x (List.mem_of_getElem? hx)) (y.l.id + 1, 0))
  have HBk := Lib.hid backward_any
  have jx := hx'.blk
  have H := Lib.hid h
  have HK := Lib.hid hk
  have HS := Lib.hid hS0
  have HB := Lib.hid hbx
  have HE := Lib.hid hext
  have HX := Lib.hid hx
  have HUn := Lib.hid hu
  have HHo := Lib.hid hz
  clear h hk hS0 hbx hext hx hu hz hx' hl
  refine (callsIn_wide (n := 3)).1 ?_
  refine callsIn_of_wp_marks Tryz.func67 rfl trivial ?_ rfl
  simp only [Tryz.ntmps67, List.size_toArray, List.length_cons, List.length_nil, Nat.reduceAdd, Nat.reduceSub, Array.replicate_succ, Array.replicate_zero, List.push_toArray, List.append_toArray, List.nil_append, List.cons_append]
  have cx := (jx.alloc (.cells #[ptr y.sb] 23)).cell
  gi_wp2_with (refine ⟨trivial, ?_⟩; first
    | (gi_at_call 122; refine (callsIn_wide.2 (HU.out _ (balloc (bsame w) _))).mono ?_; rintro e w1 ⟨v1, rfl, hr1, hb1⟩; obtain ⟨pa, cp, rfl⟩ := hr1.slc)
    | (gi_at_call 121; refine (callsIn_wide.2 (HBk.out _ _ _ _)).mono ?_; rintro e w2 ⟨rfl, rfl⟩))
  rw [HE.out _ (by simp)] at hr1
  have hb01 := btrans (balloc (bsame w) (.cells #[ptr y.sb] 23)) hb1
  have jS1 := (Blk.new w #[ptr y.sb] 23).below hb1 (by simp)
  clear hb1 cx
  obtain ⟨W0, hW0⟩ : ∃ W0, W0 = w1.alloc (.cells #[.slice pa x.log.undos.length cp] 157) := ⟨_, rfl⟩
  rw [← hW0]
  obtain ⟨bU, hbU⟩ : ∃ bU, bU = w1.heap.size := ⟨_, rfl⟩
  rw [← hbU]
  have hb02 : Below w.heap.size w W0 := by rw [hW0]; exact balloc hb01 _
  have jS2 : Blk W0 w.heap.size #[ptr y.sb] 23 := by rw [hW0]; exact jS1.alloc _
  have jU2 : Blk W0 bU #[.slice pa x.log.undos.length cp] 157 := by rw [hW0]; exact Blk.new_at _ _ _ _ _ hbU rfl
  have hr2 : Row W0 o1 (y.l.id + 1, 0) 96 4 (.slice pa x.log.undos.length cp) x.log.undos.length (ucells x.log.undos) := by rw [hW0]; exact hr1.below (balloc (bsame _) _)
  have hUw : w.heap.size ≤ bU := by rw [hbU]; exact hb01.size
  clear hW0 hbU jS1 hr1 hb01
  refine range_outer (gf := 167) (lb := #[ptr bU]) rfl (enters_of Tryz.func167 (by kernel_rfl) rfl) ?_
  intro fn W1 R hW1 hR
  obtain ⟨D, hD⟩ : ∃ D, D = W0.heap.size := ⟨_, rfl⟩
  have hDw : w.heap.size ≤ D := by rw [hD]; exact hb02.size
  have hAb : AbR w o o1 y S i x.log.undos D w.heap.size bU (.slice pa x.log.undos.length cp) R S.H.cur W1 := by
    have hb12 : Below W0.heap.size W0 W1 := by rw [hW1]; exact balloc (balloc (bsame _) _) _
    refine ⟨H.out.below (btrans hb02 hb12), ?_, ?_, jS2.below hb12 jS2.lt, jU2.below hb12 jU2.lt, hr2.below hb12, HS.out.trans (Stp.of_below (btrans hb02 hb12)), HB.out _ (by omega), HB.out _ (by omega), HB.out _ (Nat.le_refl _), HB.out _ hUw⟩
    · rw [hW1, hD]; have := World.alloc_heap_new (W0.alloc (.deferred (some []))) (.loop R); rwa [World.size_alloc] at this
    · rw [hW1, hD]; exact (Below.heap_alloc _ _ _ (by simp)).trans (World.alloc_heap_new W0 _)
  rw [← hD]
  have HR := Lib.hid hR
  have hRs : R.params.size = 2 := by rw [hR]; rfl
  have HRS := Lib.hid hRs
  clear hW1 hD hR hRs jS2 jU2 hr2 hb02
  obtain ⟨us, hus⟩ : ∃ us, us = x.log.undos := ⟨_, rfl⟩
  rw [← hus] at HUn hAb ⊢
  have HUS := Lib.hid hus
  clear hus
  have hlen : us.length ≤ 200 := by rw [HUS.out]; have h1 := (HK.out.lg x (List.mem_of_getElem? HX.out)); have := h1.u; have := h1.mu; omega
  refine callsIn_of_wp Tryz.func167 rfl trivial ?_ rfl
  simp only [Tryz.ntmps167, List.size_toArray, List.length_cons, List.length_nil, Nat.reduceAdd, Nat.reduceSub, Array.replicate_succ, Array.replicate_zero, List.push_toArray, List.append_toArray, List.nil_append, List.cons_append]
  have cU : W1.cell? ⟨bU, 0, none⟩ = some (.slice pa us.length cp) := hAb.jU.cell 0
  gi_wp2
  clear cU
  gi_loopw [3] (fun ix wr => ∃ k : Nat, ix = .int .i64 ((k : Int) - 1) ∧ k ≤ us.length ∧ AbR w o o1 y S i us D w.heap.size bU (.slice pa us.length cp) R (undoL S.H.cur (us.drop k)) wr) (fun ix _ => (intOf ix + 1).toNat)
  case atStart => exact ⟨us.length, rfl, Nat.le_refl _, by rw [List.drop_length]; exact hAb⟩
  case round =>
    clear hAb
    obtain ⟨k, rfl, hkl, hA⟩ := hrel
    obtain ⟨wo, rfl⟩ : ∃ wo : World, wo = wr := ⟨_, rfl⟩
    rcases Nat.eq_zero_or_pos k with rfl | hk0
    · rw [List.drop_zero] at hA
      have hst : R.state ≠ .busy := by rw [HR.out]; simp
      have hpe : R.pending = none := by rw [HR.out]
      have HPE := Lib.hid hpe
      have HST := Lib.hid hst
      clear hst hpe hkl
      gi_wp2
      refine bodyPost_ret (results_none rfl _ _ _) rfl ?_
      refine loop_end hA.hL HST.out ?_
      intro W4 hW4
      have hA4 : AbR w o o1 y S i us D w.heap.size bU (.slice pa us.length cp) { R with state := .exhausted } (undoL S.H.cur us) W4 := by rw [hW4]; exact hA.put hDw _
      clear hW4 hA
      rw [HPE.out]
      dsimp only
      have hok1 : (S.cur' (undoL S.H.cur us)).ok := undoL_ok HK.out _ fun u hu => HUn.out u hu
      have hsame := undoL_same S.H.cur us
      obtain ⟨l1, hl1⟩ : ∃ l1, l1 = undoL S.H.cur us := ⟨_, rfl⟩
      rw [← hl1] at hA4 hok1 hsame
      have HL1 := Lib.hid hl1
      clear hl1
      obtain ⟨RR, hRR⟩ : ∃ RR : Loop, RR = { R with state := .exhausted } := ⟨_, rfl⟩
      rw [← hRR] at hA4
      clear hRR
      have hx4 := hA4.st.txs i x HX.out
      obtain ⟨vr4, vk4, vh4, vu4, hl4⟩ := hx4.log
      have HH := Lib.hid (log_holds hl4 (HK.out.lg x (List.mem_of_getElem? HX.out)) (y.l.id + 1, 0))
      have cx := hx4.blk.cell
      have HOK1 := Lib.hid hok1
      have HSM := Lib.hid hsame
      clear hx4 hl4 hok1 hsame
      gi_wp2_with (refine ⟨trivial, ?_⟩; gi_at_call 52; refine (callsIn_wide.2 HH.out).mono ?_; rintro e w5 ⟨v5, rfl, hr5, hb5⟩; obtain ⟨pa5, cp5, rfl⟩ := hr5.slc)
      rw [HE.out _ hA4.sp.size] at hr5
      have hA5 := hA4.below hb5
      clear hA4 hb5 cx
      obtain ⟨hs, hhs⟩ : ∃ hs, hs = x.log.holds := ⟨_, rfl⟩
      rw [← hhs] at hr5 HHo ⊢
      have HHS := Lib.hid hhs
      have hlen5 : hs.length ≤ 200 := by rw [hhs]; have h1 := (HK.out.lg x (List.mem_of_getElem? HX.out)); have := h1.h; have := h1.mu; omega
      clear hhs
      gi_loopw [62] (fun ix wr => ∃ k : Nat, ix = .int .i64 k ∧ k ≤ hs.length ∧ AbR w o o1 y S i us D w.heap.size bU (.slice pa us.length cp) RR (relL l1 (hs.take k)) wr ∧ Row wr o1 (y.l.id + 1, 0) 108 2 (.slice pa5 hs.length cp5) hs.length (hcells hs)) (fun ix _ => hs.length - (intOf ix).toNat)
      case atStart => exact ⟨0, rfl, Nat.zero_le _, hA5, hr5⟩
      case round =>
        clear hA5 hr5
        obtain ⟨k, rfl, hkh, hA, hr⟩ := hrel
        obtain ⟨wo, rfl⟩ : ∃ wo : World, wo = wr := ⟨_, rfl⟩
        by_cases hlt : k < hs.length
        · have kI : (k : Int) < (hs.length : Int) := by omega
          have hgk := List.getElem?_eq_getElem hlt
          obtain ⟨z, hz⟩ : ∃ z, z = hs[k] := ⟨_, rfl⟩
          rw [← hz] at hgk
          have htk : hs.take (k + 1) = hs.take k ++ [z] := by rw [hz]; exact List.take_succ_eq_append_getElem hlt
          obtain ⟨hz1, hz2⟩ := HHo.out z (List.mem_of_getElem? hgk)
          rcases hr.form4 with ⟨_, h0⟩ | ⟨g, cap, e, hn⟩
          · have := hcells_at hs k z hgk
            rw [h0] at this; simp at this
          · injection e with e1 _ e3
            subst e1 e3
            obtain ⟨r0, r1⟩ := hr.cell2 k z hgk
            obtain ⟨p, v⟩ := z
            have q0 : wo.cell? ⟨g, k * 2, none⟩ = some (.int .i64 p) := r0
            have q1 : wo.cell? ⟨g, k * 2 + 1, none⟩ = some (.int .i64 v) := r1
            clear r0 r1
            simp only at hz1 hz2
            have hok : (S.cur' (relL l1 (hs.take k))).ok := relL_ok HOK1.out _ fun u hu => (HHo.out u (List.mem_of_mem_take hu)).2
            have hsm : SameK S.H.cur (relL l1 (hs.take k)) := HSM.out.trans (relL_same _ _)
            have hstep : relL l1 (hs.take (k + 1)) = rel1 (relL l1 (hs.take k)) (p, v) := by rw [htk]; unfold relL; rw [List.foldl_append]; rfl
            have HST := Lib.hid hstep
            obtain ⟨l2, hl2⟩ : ∃ l2, l2 = relL l1 (hs.take k) := ⟨_, rfl⟩
            rw [← hl2] at hA hok hsm HST
            obtain ⟨ob, hob⟩ := Option.isSome_iff_exists.1 (hsm.isSome hz1)
            have hr1 : rel1 l2 (p, v) = up l2 p (relOb ob v) := by unfold rel1; rw [hob]
            rw [hr1] at HST
            clear hl2 hstep htk hz hgk hz1 hsm hr1
            have HR1 := Lib.hid (release_in (hA.st.below (balloc (bsame _) (.cells #[.int .i64 p, .int .i64 v] 108))) hok hob hz2)
            have jz1 := Blk.new wo #[.int .i64 p, .int .i64 v] 108
            have hA1 := hA.below (balloc (bsame _) (.cells #[.int .i64 p, .int .i64 v] 108))
            have hr1 := hr.below (balloc (bsame _) (.cells #[.int .i64 p, .int .i64 v] 108))
            have hwo : w.heap.size ≤ wo.heap.size := hA.sp.size
            have tz : o1 wo.heap.size = (y.l.id + 1, 0) := HB.out _ hwo
            have cS := hA.jS.cell 0
            have sS := hA.jS.lt
            have hbo : (ob.setSecond (2 * v)).ok := Ob.setSecond_ok (ok_of_lk (S := S.cur' l2) hok hob) _ (by omega)
            have HOK2 := Lib.hid (Stt.ok_up' hok hob hbo rfl)
            have hob2 : lk (up l2 p (ob.setSecond (2 * v))) p = some (ob.setSecond (2 * v)) := by rw [lk_up, if_pos rfl, hob]; rfl
            have HOB2 := Lib.hid hob2
            clear hA hr hok hob2 hbo hob hz2
            by_cases hv : v = 0
            · have hvb : ((v : Int) == 0) = true := by rw [beq_iff_eq]; omega
              have hro : relOb ob v = (ob.setSecond (2 * v)).setFreed true := by unfold relOb; rw [if_pos hv]
              rw [hro] at HST
              clear hv hro
              gi_wp2_with (refine ⟨trivial, ?_⟩; gi_at_call 57; refine (callsIn_wide.2 HR1.out).mono ?_; rintro e w2 ⟨rfl, hS2, hs2⟩; have hA2 := hA1.of_stp hs2 (hpTag_box y) (fun _ h => .inl (opTag_hp h)) hS2; have hr2 := hr1.stp hs2 (hpTag_box y); have jz2 := jz1.stp hs2 (by rw [tz]; exact hpTag_box y); clear cS sS; have cz := jz2.cell; have cS := hA2.jS.cell 0; have jb := hS2.blk; unfold stCells at jb; have cb := jb.cell 0)
              have HC := Lib.hid (setfreed_st (hS2.below (bdrew (bsame _))) HOK2.out HOB2.out true)
              refine wpIn_region_tail (openW _) 6 (by kernel_rfl) (by kernel_rfl) (by kernel_rfl) ?_
              simp only [List.take_succ_cons, List.take_zero, List.drop_succ_cons, List.drop_zero]
              repeat still_step
              try refine wpStill_nil ?_
              gi_wp2_with (refine ⟨trivial, ?_⟩; gi_at_call 64; refine (callsIn_wide.2 HC.out).mono ?_; rintro e w3 ⟨rfl, hS3, hs3⟩)
              have hA3 := (hA2.below (bdrew (bsame _))).of_stp hs3 (hpTag_box y) (fun _ h => .inl (opTag_hp h)) hS3
              have hr3 := (hr2.below (bdrew (bsame _))).stp hs3 (hpTag_box y)
              rw [up_up] at hA3
              go_roundw
              case rel => exact ⟨k + 1, by simp, by omega, by rw [HST.out]; exact hA3, hr3⟩
              case measure => simp [intOf]; omega
            · have hvb : ((v : Int) == 0) = false := by rw [beq_eq_false_iff_ne]; omega
              have hro : relOb ob v = ob.setSecond (2 * v) := by unfold relOb; rw [if_neg hv]
              rw [hro] at HST
              clear hv hro
              gi_wp2_with (refine ⟨trivial, ?_⟩; gi_at_call 57; refine (callsIn_wide.2 HR1.out).mono ?_; rintro e w2 ⟨rfl, hS2, hs2⟩; have hA2 := hA1.of_stp hs2 (hpTag_box y) (fun _ h => .inl (opTag_hp h)) hS2; have hr2 := hr1.stp hs2 (hpTag_box y); have jz2 := jz1.stp hs2 (by rw [tz]; exact hpTag_box y); clear cS sS; have cz := jz2.cell)
              go_roundw
              case rel => exact ⟨k + 1, by simp, by omega, by rw [HST.out]; exact hA2, hr2⟩
              case measure => simp [intOf]; omega
        · obtain rfl : k = hs.length := by omega
          rw [List.take_length] at hA
          obtain ⟨l2, hl2⟩ : ∃ l2, l2 = relL l1 hs := ⟨_, rfl⟩
          rw [← hl2] at hA
          have HL2 := Lib.hid hl2
          have jb := hA.st.blk
          unfold stCells at jb
          have cb := jb.cell
          have zb := jb.free
          have sb := jb.lt
          have cx := (hA.st.txs i x HX.out).blk.cell
          have cS := hA.jS.cell 0
          have sS := hA.jS.lt
          have hab1 : S.holder ≠ (i : Int) → S.aborted i x = { S.cur' l2 with txs := S.txs.set i x.ended } := fun hh => by
            unfold Stt.aborted; rw [if_neg hh, ← HUS.out, ← HHS.out, ← HL1.out, ← HL2.out]
          have hab2 : S.holder = (i : Int) → S.aborted i x = { S.cur' l2 with txs := S.txs.set i x.ended, holder := -1 } := fun hh => by
            unfold Stt.aborted; rw [if_pos hh, ← HUS.out, ← HHS.out, ← HL1.out, ← HL2.out]
          have HAB1 := Lib.hid hab1
          have HAB2 := Lib.hid hab2
          clear hl2 hlt hab1 hab2
          by_cases hh : S.holder = (i : Int)
          · have hhb : (S.holder == (i : Int)) = true := by rw [hh]; exact beq_self_eq_true _
            have HCc := Lib.hid (show Calls Tryz.prog 123 #[.slice (some ⟨wo.heap.size, 0, none⟩) 2 2] (wo.drew.drew.alloc (.cells #[.slice none 0 0, .slice none 0 0] 84)) fun e w' => e = .returned (.slice none 0 0) ∧ wo.drew.drew.alloc (.cells #[.slice none 0 0, .slice none 0 0] 84) = w' from
              concat_nil (Blk.new_at _ _ _ _ _ rfl rfl))
            have nsb : w.heap.size ≠ y.sb := fun e => by have h1 := hA.tS; rw [e, hA.st.os] at h1; injection h1 with h1 _; omega
            have hW5 := Lib.hid (show Stp (ownTag y) o1 o1 wo ((wo.setCell ⟨y.sb, 4, none⟩ (.slice none 0 0)).alloc (.cells #[.slice none 0 0, .slice none 0 0] 84)).drew.drew ∧ Blk ((wo.setCell ⟨y.sb, 4, none⟩ (.slice none 0 0)).alloc (.cells #[.slice none 0 0, .slice none 0 0] 84)).drew.drew y.sb (stCells y S) 92 from by
              refine ⟨((((Stp.refl _ o1 wo).setCell (by show o1 y.sb = _; exact hA.st.os) _).alloc _).drew).drew, ?_⟩
              have := drewB (drewB ((hA.st.blk.set 4 (.slice none 0 0)).alloc (.cells #[.slice none 0 0, .slice none 0 0] 84)))
              simpa [stCells] using this)
            gi_wp2
            gi_region
            gi_upto_region 18 with fail
            gi_cut [] from 92 (fun wc => Stp (ownTag y) o1 o1 wo wc ∧ Blk wc y.sb (stCells y S) 92)
            case first =>
              refine wpIn_calm ?_
              gi_region_with (first | (refine ⟨trivial, ?_⟩; gi_at_call 123; refine (callsIn_wide.2 HCc.out).mono ?_; rintro e w4 ⟨rfl, rfl⟩) | fail)
              all_goals
                gi_wp2_with fail
                gi_meet
                case rel => exact hW5.out
            case rest =>
              obtain ⟨hsc, hbc⟩ := hcut
              have jSc := hA.jS.stp hsc (by rw [hA.tS]; exact fun h => abTag_box y i (.inr h))
              have hDc := (hsc.block D (Array.getElem?_eq_some_iff.1 hA.hD).1 (by rw [hA.tD]; exact fun h => abTag_box y i (.inr h))).trans hA.hD
              have hbc2 := hbc
              unfold stCells at hbc2
              have hos : o1 y.sb = (y.l.id, 11) := hA.st.os
              have hs7 : Stp (ownTag y) o1 o1 wo (wc.setCell ⟨y.sb, 6, none⟩ (.int .i64 (-1))) := hsc.setCell (by show o1 y.sb = _; exact hos) _
              have hS7 : StIn (wc.setCell ⟨y.sb, 6, none⟩ (.int .i64 (-1))) o1 y { S.cur' l2 with holder := -1, version := S.version } := by
                refine hA.st.own ?_ hs7
                have := hbc.set 6 (.int .i64 (-1))
                simpa [stCells] using this
              have HEn := Lib.hid (end_in hS7 HX.out)
              clear cb zb sb cx cS sS
              have cb := hbc2.cell
              have zb := hbc2.free
              have sb := hbc2.lt
              have cS := jSc.cell
              have sS := jSc.lt
              gi_wp2_with (refine ⟨trivial, ?_⟩; gi_at_call 53; refine (callsIn_wide.2 HEn.out).mono ?_; rintro e w6 ⟨rfl, hS6, hs6⟩)
              have hD6 : w6.heap[D]? = some (.deferred (some [])) := (hs6.block D (by have := (Array.getElem?_eq_some_iff.1 hDc).1; simpa [World.setCell] using this) (by rw [hA.tD]; exact txTag_box y i)).trans ((Below.heap_setCell _ _ _ _ (fun e => by rw [e] at hDc; unfold Blk at hbc; rw [hDc] at hbc; cases hbc)).trans hDc)
              refine ⟨by simp, .inl ⟨_, _, rfl, run_takeDeferred hD6, ?_⟩⟩
              refine ⟨.tuple #[], by simp [results, Tryz.results67, go_sem], rfl, o1, ?_, ?_⟩
              · rw [HAB2.out hh]; exact hS6.put hA.tD _
              · exact (hA.sp.trans ((hs7.mono fun _ h => .inr h).trans (hs6.mono fun _ h => .inl (opTag_tx h)))).put_new hDw _
          · have hhb : (S.holder == (i : Int)) = false := by rw [beq_eq_false_iff_ne]; exact hh
            have HEn := Lib.hid (end_in (hA.st.below (bdrew (bsame _))) HX.out)
            gi_wp2
            gi_region
            gi_wp2_with (refine ⟨trivial, ?_⟩; gi_at_call 53; refine (callsIn_wide.2 HEn.out).mono ?_; rintro e w6 ⟨rfl, hS6, hs6⟩)
            have hD6 : w6.heap[D]? = some (.deferred (some [])) := (hs6.block D (by have := (Array.getElem?_eq_some_iff.1 hA.hD).1; simpa using this) (by rw [hA.tD]; exact txTag_box y i)).trans hA.hD
            refine ⟨by simp, .inl ⟨_, _, rfl, run_takeDeferred hD6, ?_⟩⟩
            refine ⟨.tuple #[], by simp [results, Tryz.results67, go_sem], rfl, o1, ?_, ?_⟩
            · rw [HAB1.out hh]; exact hS6.put hA.tD _
            · exact (hA.sp.trans ((Stp.of_below (bdrew (bsame _))).trans (hs6.mono fun _ h => .inl (opTag_tx h)))).put_new hDw _
    · obtain ⟨j, rfl⟩ : ∃ j, k = j + 1 := ⟨k - 1, by omega⟩
      rw [show ((j + 1 : Nat) : Int) - 1 = (j : Int) from by omega]
      have hgj := List.getElem?_eq_getElem (show j < us.length by omega)
      obtain ⟨u, hu⟩ : ∃ u, u = us[j] := ⟨_, rfl⟩
      rw [← hu] at hgj
      have hdrop : us.drop j = u :: us.drop (j + 1) := by rw [hu]; exact List.drop_eq_getElem_cons (by omega)
      have hcU := hA.jU.cell 0
      rcases hA.row.form4 with ⟨_, h0⟩ | ⟨g, cap, e, hn⟩
      · have := ucells_at us j u hgj
        rw [h0] at this; simp at this
      · injection e with e1 _ e3
        subst e1 e3
        obtain ⟨q0, q1, q2, q3⟩ := hA.row.cell4 j u hgj
        have hUu := (HUn.out u (List.mem_of_getElem? hgj)).same (undoL_same S.H.cur (us.drop (j + 1)))
        have hok : (S.cur' (undoL S.H.cur (us.drop (j + 1)))).ok := undoL_ok HK.out _ fun u hu => HUn.out u (List.mem_of_mem_drop hu)
        obtain ⟨l, hl⟩ : ∃ l, l = undoL S.H.cur (us.drop (j + 1)) := ⟨_, rfl⟩
        have hl2 : undoL S.H.cur (us.drop j) = undo1 l u := by rw [hdrop, hl]; rfl
        rw [← hl] at hA hUu hok
        have HL2 := Lib.hid hl2
        have HDr := Lib.hid hdrop
        have HGJ := Lib.hid hgj
        clear hl2 hl hdrop hu hgj
        have hy := run_yield (P := Tryz.prog) (args := #[.int .i64 j, .agg #[.int .i64 u.kind, .int .i64 u.pos, .int .i64 u.i, .int .i64 u.old]]) hA.hL (by rw [HRS.out]; rfl)
        obtain ⟨T, hT⟩ : ∃ T, T = (R.params.zip #[.int .i64 j, .agg #[.int .i64 u.kind, .int .i64 u.pos, .int .i64 u.i, .int .i64 u.old]]).foldl (fun tmps (t, a) => tmps.setIfInBounds t a) R.tmps := ⟨_, rfl⟩
        rw [← hT] at hy
        have HT := Lib.hid hT
        clear hT
        have hRd : RoundIn Fence.wide 1 Tryz.prog (D + 1) R.fn T R.assign R.body wo fun e W' =>
            e = .returned (.bool true) ∧ AbR w o o1 y S i us D w.heap.size bU (.slice (some ⟨g, 0, none⟩) us.length cp) R (undo1 l u) W' := by
          have hTT := HT.out
          obtain ⟨Post, hPost⟩ : ∃ Post : Ending → World → Prop, Post = fun e W' => e = .returned (.bool true) ∧ AbR w o o1 y S i us D w.heap.size bU (.slice (some ⟨g, 0, none⟩) us.length cp) R (undo1 l u) W' := ⟨_, rfl⟩
          rw [← hPost, hTT]
          have HPost := Lib.hid hPost
          clear hPost hTT HT hy q0 q1 q2 q3 hcU
          have hst : R.state = .ready := by rw [HR.out]
          have hpe : R.pending = none := by rw [HR.out]
          have HST := Lib.hid hst
          have HPE := Lib.hid hpe
          clear hst hpe
          rw [HR.out]
          refine roundIn_of_wpIn trivial ?_
          gi_wp2
          obtain ⟨W2, hW2⟩ : ∃ W2, W2 = wo.alloc (.cells #[.int .i64 u.kind, .int .i64 u.pos, .int .i64 u.i, .int .i64 u.old] 96) := ⟨_, rfl⟩
          rw [← hW2]
          have hA2 : AbR w o o1 y S i us D w.heap.size bU (.slice (some ⟨g, 0, none⟩) us.length cp) R l W2 := by rw [hW2]; exact hA.below (balloc (bsame _) _)
          have jB2 : Blk W2 wo.heap.size #[.int .i64 u.kind, .int .i64 u.pos, .int .i64 u.i, .int .i64 u.old] 96 := by rw [hW2]; exact Blk.new _ _ _
          have hDo : D + 1 < wo.heap.size := (Array.getElem?_eq_some_iff.1 hA.hL).1
          have hwo : w.heap.size ≤ wo.heap.size := hA.sp.size
          obtain ⟨bu, hbu⟩ : ∃ bu, bu = wo.heap.size := ⟨_, rfl⟩
          rw [← hbu] at jB2 hDo hwo ⊢
          clear hW2 hA hbu
          refine begin_then hA2.hL HST.out ?_
          intro W3 hW3 kL3
          have hA3 : AbR w o o1 y S i us D w.heap.size bU (.slice (some ⟨g, 0, none⟩) us.length cp) { R with state := .busy } l W3 := by rw [hW3]; exact hA2.put hDw _
          have jB3 : Blk W3 bu #[.int .i64 u.kind, .int .i64 u.pos, .int .i64 u.i, .int .i64 u.old] 96 := by rw [hW3]; exact jB2.put (by omega)
          clear hW3 hA2 jB2 kL3
          have hend := Lib.hid (fun (W4 : World) (hA4 : AbR w o o1 y S i us D w.heap.size bU (.slice (some ⟨g, 0, none⟩) us.length cp) { R with state := .busy } (undo1 l u) W4) =>
            show ∃ v w5, (Instr.endRound (D + 1) none).run Tryz.prog W4 = .ok v w5 ∧ Post (.returned v) w5 from by
              refine end_go hA4.hL HST.out HPE.out ?_
              intro W5 hW5 _
              rw [HPost.out]
              exact ⟨rfl, by rw [hW5]; exact hA4.put hDw R⟩)
          have cS := hA3.jS.cell 0
          have jb := hA3.st.blk
          unfold stCells at jb
          have cb := jb.cell 0
          have cB := jB3.cell
          have HA3 := Lib.hid hA3
          have HOK := Lib.hid hok
          obtain ⟨kd, ps, ui, od⟩ := u
          obtain ⟨ob, hob, hcase⟩ := hUu
          simp only at hob hcase jB3 cB
          have hpos : ∀ l', undo1 l' ⟨kd, ps, ui, od⟩ = match lk l' ps with | some ob => up l' ps (undoOb ob ⟨kd, ps, ui, od⟩) | none => l' := fun _ => rfl
          have hun : undo1 l ⟨kd, ps, ui, od⟩ = up l ps (undoOb ob ⟨kd, ps, ui, od⟩) := by rw [hpos, hob]
          rw [hun] at hend
          clear hA3 hok hpos hun jb
          rcases hcase with ⟨rfl, hi, ho0, hq⟩ | ⟨rfl, hi, hlo, hhi⟩ | ⟨rfl, rfl⟩
          · obtain ⟨q, rfl⟩ : ∃ q : Nat, od = q := ⟨od.toNat, by omega⟩
            have HC := Lib.hid (setptr_st (HA3.out.st.below (bdrew (bsame _))) HOK.out hob ui q hi (hq.imp (fun h => by omega) (fun h => by simpa using h)))
            clear hob hi ho0 hq
            gi_wp2
            refine wpIn_region_tail (openR _ _) 10 (by kernel_rfl) (by kernel_rfl) (by kernel_rfl) ?_
            simp only [List.take_succ_cons, List.take_zero, List.drop_succ_cons, List.drop_zero]
            repeat still_step
            try refine wpStill_nil ?_
            gi_wp2_with (refine ⟨trivial, ?_⟩; gi_at_call 97; refine CallsIn.mono (CallsIn.inRound _ (callsIn_wide.2 HC.out)) ?_; rintro e w4 ⟨rfl, hS4, hs4⟩)
            exact hend.out _ ((HA3.out.below (bdrew (bsame _))).of_stp hs4 (hpTag_box y) (fun _ h => .inl (opTag_hp h)) hS4)
          · have HC := Lib.hid (setnum_st (HA3.out.st.below (bdrew (bsame _))) HOK.out hob ui od hi ⟨hlo, hhi⟩)
            clear hob hi hlo hhi
            gi_wp2
            refine wpIn_region_tail (openR _ _) 10 (by kernel_rfl) (by kernel_rfl) (by kernel_rfl) ?_
            simp only [List.take_succ_cons, List.take_zero, List.drop_succ_cons, List.drop_zero]
            repeat still_step
            try refine wpStill_nil ?_
            gi_wp2_with (refine ⟨trivial, ?_⟩; gi_at_call 49; refine CallsIn.mono (CallsIn.inRound _ (callsIn_wide.2 HC.out)) ?_; rintro e w4 ⟨rfl, hS4, hs4⟩)
            exact hend.out _ ((HA3.out.below (bdrew (bsame _))).of_stp hs4 (hpTag_box y) (fun _ h => .inl (opTag_hp h)) hS4)
          · have HC := Lib.hid (setfreed_st (HA3.out.st.below (bdrew (bsame _))) HOK.out hob false)
            clear hob
            gi_wp2
            refine wpIn_region_tail (openR _ _) 9 (by kernel_rfl) (by kernel_rfl) (by kernel_rfl) ?_
            simp only [List.take_succ_cons, List.take_zero, List.drop_succ_cons, List.drop_zero]
            repeat still_step
            try refine wpStill_nil ?_
            gi_wp2_with (refine ⟨trivial, ?_⟩; gi_at_call 64; refine CallsIn.mono (CallsIn.inRound _ (callsIn_wide.2 HC.out)) ?_; rintro e w4 ⟨rfl, hS4, hs4⟩)
            exact hend.out _ ((HA3.out.below (bdrew (bsame _))).of_stp hs4 (hpTag_box y) (fun _ h => .inl (opTag_hp h)) hS4)
        gi_wp2
        refine hRd.mono ?_
        rintro e w3 ⟨rfl, hA3⟩
        clear hy hRd q0 q1 q2 q3 hcU
        gi_wp2
        go_roundw
        case rel => exact ⟨j, by simp, by omega, by rw [HL2.out]; exact hA3⟩
        case measure => simp [intOf]
end
end Go.Proofs.YtemohiainfllcaaGreat

/- Walks: a deed that fails so that the transaction is aborted. -/
namespace Go.Proofs.YtemohiainfllcaaGreat
open Go.RowKit Hp
attribute [local go_sem ↓] Go.wp_at_zero Go.wp_at_succ
section
variable {w : World} {o : Own} {y : SLay} {S : Stt} {x : Tx} {i : Nat}
def AbPost (y : SLay) (S' : Stt) (i : Nat) (o : Own) (w : World) (be bv : Nat) (err : Int) (tv te : TypeId) (w' : World) : Prop :=
  ∃ o' w1, w' = w1.setCell ⟨bv, 0, none⟩ (.int .i64 0) ∧ StIn w' o' y S' ∧ Stp (abTag y i) o o' w w1 ∧ Blk w' bv #[.int .i64 0] tv ∧ Blk w' be #[.int .i64 err] te
theorem deedD_abort (be bs bx bv : Nat) (err v : Int) (tv te ts tx : TypeId) (he : Blk w be #[.int .i64 err] te) (hs : Blk w bs #[ptr y.sb] ts) (hx : Blk w bx #[ptr (y.xb i)] tx) (hv : Blk w bv #[.int .i64 v] tv) (h0 : err = 141 ∨ err = 130 ∨ err = 100)
    (ob : o be = (y.l.id + 1, 0)) (ov : o bv = (y.l.id + 1, 0)) (hne : be ≠ bv) (S' : Stt)
    (hab : Calls Tryz.prog 67 #[ptr y.sb, ptr (y.xb i)] w fun e w' => e = .returned (.tuple #[]) ∧ ∃ o', StIn w' o' y S' ∧ Stp (abTag y i) o o' w w') :
    CallsD Tryz.prog 99 #[ptr be, ptr bs, ptr bx, ptr bv] .returning w fun e u' w' => u' = .returning ∧ (e = .returned (.tuple #[]) ∧ AbPost y S' i o w be bv err tv te w') := by
  have c := he.cell
  have cs := hs.cell
  have cx := hx.cell
  have HA := Lib.hid hab
  have HB := Lib.hid (abTag_box y i)
  clear hab
  rcases h0 with rfl | rfl | rfl
  all_goals
    go_enter_d Tryz.func99, Tryz.ntmps99
    go_wp2_with fail
    refine HA.out.mono ?_
    rintro e w1 ⟨rfl, o1, hS1, hs1⟩
    have je := he.stp hs1 (by rw [ob]; exact HB.out)
    have jv := hv.stp hs1 (by rw [ov]; exact HB.out)
    have tv : o1 bv = (y.l.id + 1, 0) := (hs1.tags _ hv.lt).trans ov
    clear c cs cx
    have c := je.cell
    have cv := jv.cell
    have zv := jv.free
    have sv := jv.lt
    have hS2 := Lib.hid (hS1.box (a := ⟨bv, 0, none⟩) tv (.int .i64 0))
    go_wp2_with fail
    go_end0
    exact ⟨rfl, o1, _, rfl, hS2.out, hs1, jv.set 0 _, je.set_other hne _⟩
/-- The store behind a deed that fails so. -/
theorem deed_abort (g : Nat) (caps : List Value) (h0 : StIn w o y S) (hk : S.ok) (hx : S.txs[i]? = some x) (hl : x.live = true) (eg : ∀ args w, (callFunc g args).run Tryz.prog w = .ok (.enter g args) w)
    (T : Tag → Prop) (hT : ¬ T (y.l.id + 1, 0)) (S' S2 : Stt) (v err : Int) (he : err = 141 ∨ err = 130 ∨ err = 100)
    (hdo : ∀ w1 o1, Below w.heap.size w w1 → (∀ b, b < w.heap.size → o1 b = o b) → StIn w1 o1 y S → Calls Tryz.prog g (ptr (y.xb i) :: caps).toArray w1 fun e w' => e = .returned (.tuple #[.int .i64 v, .int .i64 err]) ∧ ∃ o', StIn w' o' y S' ∧ Stp T o1 o' w1 w')
    (hab : ∀ w1 o1, StIn w1 o1 y S' → Calls Tryz.prog 67 #[ptr y.sb, ptr (y.xb i)] w1 fun e w' => e = .returned (.tuple #[]) ∧ ∃ o', StIn w' o' y S2 ∧ Stp (abTag y i) o1 o' w1 w') :
    Calls Tryz.prog 45 #[ptr y.sb, .int .i64 i, .func (.func g) #[] caps.toArray] w fun e w' => e = .returned (.tuple #[.int .i64 0, .int .i64 err]) ∧ ∃ o', StIn w' o' y S2 ∧ Stp (fun t => T t ∨ abTag y i t) o o' w w' := by
  have hmf : ∀ (fn : Fn) (first cap : Array Value) (w : World), (Instr.makeFunc fn first cap).run Tryz.prog w = .ok (.func fn first cap) w := fun _ _ _ _ => rfl
  obtain ⟨o1, ho1⟩ : ∃ o1, o1 = ext o w.heap.size (y.l.id + 1, 0) := ⟨_, rfl⟩
  have h := h0.retag (o' := o1) fun b hb => by rw [ho1]; exact ext_lt hb
  have hS0 : Stp T o o1 w w := by rw [ho1]; exact (Stp.refl _ o w).ext _ _ (Nat.le_refl _)
  have hbx : ∀ b, w.heap.size ≤ b → o1 b = (y.l.id + 1, 0) := fun b hb => by rw [ho1]; exact ext_ge hb
  have hext : ∀ b, b < w.heap.size → o1 b = o b := fun b hb => by rw [ho1]; exact ext_lt hb
  clear ho1 h0
  have HR := Lib.hid (fun w' (hw : Below w.heap.size w w') => running_in (h.below hw) hk hx)
  rw [hl] at HR
  simp only [if_true] at HR
  have HD := Lib.hid (fun w' (hw : Below w.heap.size w w') => hdo w' o1 hw hext (h.below hw))
  have HAb := Lib.hid hab
  have HB := Lib.hid hbx
  have HS := Lib.hid hS0
  have HT := Lib.hid hT
  have HEr := Lib.hid he
  clear hdo hbx h hk hx hS0 hT hext hab he
  go_enter_defers Tryz.func45, Tryz.ntmps45
  go_wp2_with fail
  obtain ⟨W, hW⟩ : ∃ W : World, W = ((w.alloc (.cells #[ptr y.sb] 23)).alloc (.cells #[.int .i64 0] 3)).alloc (.cells #[.int .i64 0] 27) := ⟨_, rfl⟩
  rw [← hW]
  have hbW : Below w.heap.size w W := by rw [hW]; exact balloc (balloc (balloc (bsame w) _) _) _
  have hzW : W.heap.size = w.heap.size + 3 := by rw [hW]; simp
  have jS : Blk W w.heap.size #[ptr y.sb] 23 := by rw [hW]; exact ((Blk.new w _ _).alloc _).alloc _
  have jV : Blk W (w.heap.size + 1) #[.int .i64 0] 3 := by rw [hW]; exact (Blk.new_at _ _ _ _ _ (by simp) rfl).alloc _
  have jE : Blk W (w.heap.size + 1 + 1) #[.int .i64 0] 27 := by rw [hW]; exact Blk.new_at _ _ _ _ _ (by simp) rfl
  have jX : Blk (W.alloc (.cells #[ptr (y.xb i)] 81)) (w.heap.size + 3) #[ptr (y.xb i)] 81 := Blk.new_at _ _ _ _ _ hzW.symm rfl
  clear hW
  refine (HR.out _ hbW).mono ?_
  rintro e w1 ⟨rfl, rfl⟩
  go_wp2_with fail
  refine (HD.out _ (balloc hbW _)).mono ?_
  rintro e w2 ⟨rfl, o2, hS2, hs2⟩
  have jV2 := (jV.alloc (.cells #[ptr (y.xb i)] 81)).stp hs2 (by rw [HB.out _ (by omega)]; exact HT.out)
  have jE2 := (jE.alloc (.cells #[ptr (y.xb i)] 81)).stp hs2 (by rw [HB.out _ (by omega)]; exact HT.out)
  have jS2 := (jS.alloc (.cells #[ptr (y.xb i)] 81)).stp hs2 (by rw [HB.out _ (by omega)]; exact HT.out)
  have jX2 := jX.stp hs2 (by rw [HB.out _ (by omega)]; exact HT.out)
  have tV : o2 (w.heap.size + 1) = (y.l.id + 1, 0) := (hs2.tags _ (jV.alloc _).lt).trans (HB.out _ (by omega))
  have tE : o2 (w.heap.size + 1 + 1) = (y.l.id + 1, 0) := (hs2.tags _ (jE.alloc _).lt).trans (HB.out _ (by omega))
  have hst : Stp T o1 o2 w w2 := (Stp.of_below (balloc hbW _)).trans hs2
  clear jV jE jS jX
  have cV := jV2.cell
  have zV := jV2.free
  have sV := jV2.lt
  have cE := jE2.cell
  have zE := jE2.free
  have sE := jE2.lt
  go_wp2_with fail
  have jV3 := (jV2.set 0 (.int .i64 v)).set_other (a := ⟨w.heap.size + 1 + 1, 0, none⟩) (by simp) (.int .i64 err)
  have jE3 := (jE2.set_other (a := ⟨w.heap.size + 1, 0, none⟩) (by simp) (.int .i64 v)).set 0 (.int .i64 err)
  have jS3 := (jS2.set_other (a := ⟨w.heap.size + 1, 0, none⟩) (by simp) (.int .i64 v)).set_other (a := ⟨w.heap.size + 1 + 1, 0, none⟩) (by simp; omega) (.int .i64 err)
  have jX3 := (jX2.set_other (a := ⟨w.heap.size + 1, 0, none⟩) (by simp) (.int .i64 v)).set_other (a := ⟨w.heap.size + 1 + 1, 0, none⟩) (by simp) (.int .i64 err)
  refine leaves_cons (f := 99) (args := #[ptr (w.heap.size + 1 + 1), ptr w.heap.size, ptr (w.heap.size + 3), ptr (w.heap.size + 1)]) (by simp) (by simp [go_sem]) ?_
  refine (deedD_abort _ _ _ _ err v _ _ _ _ (by simpa using jE3) jS3 jX3 (by simpa using jV3) HEr.out tE tV (by omega) S2 (HAb.out _ _ ((hS2.box tV _).box tE _))).mono ?_
  rintro e u' w'' ⟨rfl, rfl, o3, w3, rfl, hS3, hs3, jV4, jE4⟩
  have cV4 := jV4.cell 0
  have cE4 := jE4.cell 0
  simp at cV4 cE4
  simp only [settle, Leaves]
  refine ⟨.tuple #[.int .i64 0, .int .i64 err], by simp [results, Tryz.results45, go_sem, cV4, cE4], rfl, o3, hS3, ?_⟩
  have h1 : Stp T o o2 w _ := HS.out.trans ((hst.setCell_new (a := ⟨w.heap.size + 1, 0, none⟩) (by show w.heap.size ≤ w.heap.size + 1; omega) (.int .i64 v)).setCell_new (a := ⟨w.heap.size + 1 + 1, 0, none⟩) (by show w.heap.size ≤ w.heap.size + 1 + 1; omega) (.int .i64 err))
  exact ((h1.mono fun _ h => Or.inl h).trans (hs3.mono fun _ h => Or.inr h)).setCell_new (by show w.heap.size ≤ w.heap.size + 1; omega) _
end
end Go.Proofs.YtemohiainfllcaaGreat
