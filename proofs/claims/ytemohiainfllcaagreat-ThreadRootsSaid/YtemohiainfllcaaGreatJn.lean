/- Walks: the log's methods Undo, Hold; a new log. -/
import Derived.Test.YtemohiainfllcaaGreatJm
namespace Go.Proofs.YtemohiainfllcaaGreat
open Go.RowKit Hp
attribute [local go_sem ↓] Go.wp_at_zero Go.wp_at_succ
theorem news_blk {w : World} {B : Nat} {cs : Array Value} {t : TypeId} (h : Blk w B cs t) : ∀ j u, cs.toList[j]? = some u → w.cell? ((⟨B, 0, none⟩ : Addr).add j) = some u := fun j u hu => by
  have hadd : (⟨B, 0, none⟩ : Addr).add j = ⟨B, j, none⟩ := by unfold Addr.add; split <;> simp_all
  rw [hadd, h.cell]
  simpa using hu
theorem len_ok2 {n b : Nat} (h : n ≤ 4096) (hb : b ≤ 64) : n + 1 ≤ maxLen ∧ (n + 1) * b ≤ 140737488355328 := by
  constructor
  · simp only [maxLen]; omega
  · have : (n + 1) * b ≤ 4097 * 64 := Nat.mul_le_mul (by omega) hb
    omega
abbrev unV (u : Un) : Value := .agg #[nv u.kind, nv u.pos, nv u.i, .int .i64 u.old]
section
variable {w : World} {o : Own} {id k b : Nat} {L : Lg} {vr vk vh vu : Value}
set_option maxRecDepth 100000 in
theorem log_undo_full (h : LgIn w o id k b L vr vk vh vu) (u : Un) (hm : L.mu ≤ L.undos.length) :
    Calls Tryz.prog 63 #[.pointer (some ⟨b, 0, none⟩), unV u] w fun e w' => e = .returned (.bool false) ∧ Below w.heap.size w w' := by
  have j := h.blk
  have c := h.blk.cell
  have s := h.blk.lt
  obtain ⟨pa, cp, rfl⟩ := h.ru.slc
  have hng : (L.mu : Int) ≤ (L.undos.length : Int) := by omega
  clear h
  go_enter Tryz.func63, Tryz.ntmps63
  go_upto_region 1 with fail
  go_quiet (fail)
  go_wp2_with fail
  go_ret
  exact ⟨rfl, bdrewN (balloc (bsame w) _) _⟩
set_option maxRecDepth 100000 in
set_option maxHeartbeats 4000000 in
theorem log_undo_room (h : LgIn w o id k b L vr vk vh vu) (hk : L.ok) (u : Un) (hm : L.undos.length < L.mu) :
    Calls Tryz.prog 63 #[.pointer (some ⟨b, 0, none⟩), unV u] w fun e w' => e = .returned (.bool true) ∧
      ∃ vu' o', LgIn w' o' id k b { L with undos := L.undos ++ [u] } vr vk vh vu' ∧ Stp (fun t => t = (id, k) ∨ t = (id, k + 4)) o o' w w' := by
  have HI := Lib.hid h
  have j := h.blk
  have c := h.blk.cell
  have s := h.blk.lt
  obtain ⟨pa, cp, rfl⟩ := h.ru.slc
  have hng : (L.undos.length : Int) < (L.mu : Int) := by omega
  have hw := Lib.hid (len_ok2 (n := L.undos.length) (b := 32) (by have := hk.u; have := hk.mu; omega) (by omega))
  obtain ⟨iU, hi, hsI, hyI, hzI⟩ := info_undo
  have hu64 := Tryz.underlying157
  clear h hk hm
  go_enter Tryz.func63, Tryz.ntmps63
  go_upto_region 1 with fail
  go_quiet (fail)
  go_upto_region 3 with fail
  obtain ⟨W, hW⟩ : ∃ W : World, W = (w.alloc (.cells #[nv u.kind, nv u.pos, nv u.i, .int .i64 u.old] 96)).drewN nq := ⟨_, rfl⟩
  rw [← hW]
  have hbW : Below w.heap.size w W := by rw [hW]; exact bdrewN (balloc (bsame w) _) _
  have jB : Blk W w.heap.size #[nv u.kind, nv u.pos, nv u.i, .int .i64 u.old] 96 := by rw [hW]; exact (Blk.new w _ _).drewN _
  have jL := j.below hbW j.lt
  clear hW c s
  have cL := jL.cell
  have sL := jL.lt
  have cB := jB.cell
  have sB := jB.lt
  have rn := (HI.out.ru.below hbW).below (balloc (bdrew (bsame W)) (.cells #[nv u.kind, nv u.pos, nv u.i, .int .i64 u.old] 96))
  have jn := Blk.new W.drew #[nv u.kind, nv u.pos, nv u.i, .int .i64 u.old] 96
  have hone := ucells_one [u]
  have hkeep := fun (w1 : World) (o1 : Own) (hst : Stp (fun t => t = (id, k + 4)) o o1 (W.drew.alloc (.cells #[nv u.kind, nv u.pos, nv u.i, .int .i64 u.old] 96)) w1) => (Blk.alloc (drewB jL) (.cells #[nv u.kind, nv u.pos, nv u.i, .int .i64 u.old] 96)).stp hst (by rw [HI.out.ob]; simp)
  have hfin := Lib.hid (fun (w1 : World) (o1 : Own) (pa' : Option Addr) (cp' : Nat) (hown : Row w1 o1 (id, k + 4) 96 4 (.slice pa' (L.undos.length + 1) cp') (L.undos.length + 1) (ucells L.undos ++ [nv u.kind, nv u.pos, nv u.i, .int .i64 u.old])) (hst : Stp (fun t => t = (id, k + 4)) o o1 (W.drew.alloc (.cells #[nv u.kind, nv u.pos, nv u.i, .int .i64 u.old] 96)) w1) =>
    show ∃ vu' o', LgIn (w1.setCell ⟨b, 5, none⟩ (.slice pa' (L.undos.length + 1) cp')) o' id k b { L with undos := L.undos ++ [u] } vr vk vh vu' ∧ Stp (fun t => t = (id, k) ∨ t = (id, k + 4)) o o' w (w1.setCell ⟨b, 5, none⟩ (.slice pa' (L.undos.length + 1) cp')) from by
      have h := HI.out
      have hlt : b < (W.drew.alloc (.cells #[nv u.kind, nv u.pos, nv u.i, .int .i64 u.old] 96)).heap.size := (Blk.alloc (drewB jL) _).lt
      have ho1 : o1 b = (id, k) := by rw [hst.tags b hlt]; exact h.ob
      have k1 : Stp (fun t => t = (id, k)) o1 o1 w1 (w1.setCell ⟨b, 5, none⟩ (.slice pa' (L.undos.length + 1) cp')) := (Stp.refl _ o1 w1).setCell (by simpa using ho1) _
      have S : Stp (fun t => t = (id, k) ∨ t = (id, k + 4)) o o1 w (w1.setCell ⟨b, 5, none⟩ (.slice pa' (L.undos.length + 1) cp')) :=
        (Stp.of_below (hbW.trans ((balloc (bdrew (bsame W)) _).mono hbW.size))).trans ((hst.mono fun _ e => Or.inr e).trans (k1.mono fun _ e => Or.inl e))
      refine ⟨_, o1, ⟨(hkeep _ _ hst).set 5 _, h.rr.stp S (by simp), h.rk.stp S (by simp), h.rh.stp S (by simp), ?_, ho1⟩, S⟩
      have hr := hown.stp k1 (by simp)
      show Row _ o1 (id, k + 4) 96 4 _ (L.undos ++ [u]).length (ucells (L.undos ++ [u]))
      rw [ucells_snoc]
      simpa using hr)
  go_region_law ((refine step_append_row _ (by rfl) _ _ _ (by rfl) 96 iU _ 4 32 hu64 hi hzI hsI hyI (by rfl) (by decide) o (id, k + 4) _ _ _ (by rfl) rn ⟨W.heap.size, 0, none⟩ 1 1 [nv u.kind, nv u.pos, nv u.i, .int .i64 u.old] (by rfl) (by rfl) (news_blk jn) hone hw.out.1 hw.out.2 ?_; intro v' w1 hown hst; obtain ⟨pa', cp', rfl⟩ := hown.slc; have jX := hkeep _ _ hst; have cX := jX.cell; have zX := jX.free; have sX := jX.lt))
  all_goals
    go_wp2_with fail
    go_ret
    exact ⟨rfl, hfin.out _ _ _ _ hown hst⟩
end
end Go.Proofs.YtemohiainfllcaaGreat

/- Walks: the log's method Hold; a new log. -/
namespace Go.Proofs.YtemohiainfllcaaGreat
open Go.RowKit Hp
attribute [local go_sem ↓] Go.wp_at_zero Go.wp_at_succ
section
variable {w : World} {o : Own} {id k b : Nat} {L : Lg} {vr vk vh vu : Value}
theorem Row.cell2 {w : World} {o : Own} {t : Tag} {l : List (Nat × Nat)} {g n cap : Nat} (h : Row w o t 108 2 (.slice (some ⟨g, 0, none⟩) n cap) n (hcells l)) (i : Nat) (x : Nat × Nat) (hx : l[i]? = some x) :
    w.cell? ⟨g, i * 2, none⟩ = some (nv x.1) ∧ w.cell? ⟨g, i * 2 + 1, none⟩ = some (nv x.2) := by
  have h2 := hcells_at l i x hx
  have f := fun j u hu => h.own.cells (g := g) rfl j u hu
  have e : ∀ j, (⟨g, 0, none⟩ : Addr).add j = ⟨g, j, none⟩ := fun j => by unfold Addr.add; split <;> simp_all
  have a1 := f _ _ h2.1
  have a2 := f _ _ h2.2
  rw [e] at a1 a2
  rw [Nat.mul_comm i 2]
  exact ⟨a1, a2⟩
set_option maxRecDepth 100000 in
set_option maxHeartbeats 4000000 in
theorem log_hold_room (h : LgIn w o id k b L vr vk vh vu) (hk : L.ok) (p v : Nat) (hp : ∀ x ∈ L.holds, x.1 ≠ p) (hm : L.holds.length < L.mu) :
    Calls Tryz.prog 116 #[.pointer (some ⟨b, 0, none⟩), .agg #[.int .i64 p, .int .i64 v]] w fun e w' => e = .returned (.bool true) ∧
      ∃ vh' o', LgIn w' o' id k b { L with holds := L.holds ++ [(p, v)] } vr vk vh' vu ∧ Stp (fun t => t = (id, k) ∨ t = (id, k + 3)) o o' w w' := by
  have HI := Lib.hid h
  have HP := Lib.hid hp
  have j := h.blk
  have c := h.blk.cell
  have s := h.blk.lt
  obtain ⟨pa, cp, rfl⟩ := h.rh.slc
  have hng : (L.holds.length : Int) < (L.mu : Int) := by omega
  have hlen := Lib.hid (show L.holds.length ≤ 200 by have := hk.h; have := hk.mu; omega)
  have hw := Lib.hid (len_ok2 (n := L.holds.length) (b := 16) (by have := hk.h; have := hk.mu; omega) (by omega))
  obtain ⟨iU, hi, hsI, hyI, hzI⟩ := info_hold
  have hu64 := Tryz.underlying101
  clear h hk hm hp
  go_enter Tryz.func116, Tryz.ntmps116
  go_wp2_with fail
  go_loopw [14] (fun ix wr => ∃ i : Nat, ix = .int .i64 i ∧ i ≤ L.holds.length ∧ Below w.heap.size w wr ∧ Blk wr w.heap.size #[.int .i64 p, .int .i64 v] 108) (fun ix _ => L.holds.length - (intOf ix).toNat)
  case atStart => exact ⟨0, rfl, by omega, balloc (bsame w) _, Blk.new w _ _⟩
  case round =>
    obtain ⟨i, rfl, hil, hbr, jB⟩ := hrel
    clear c s
    have jL := j.below hbr j.lt
    have cL := jL.cell
    have sL := jL.lt
    have cB := jB.cell
    have sB := jB.lt
    have hR := HI.out.rh.below hbr
    by_cases hlt : i < L.holds.length
    · obtain ⟨x, hx⟩ : ∃ x, L.holds[i]? = some x := ⟨_, List.getElem?_eq_getElem hlt⟩
      have hne : (x.1 : Int) ≠ (p : Int) := by have := HP.out x (List.mem_of_getElem? hx); omega
      rcases hR.own.2 with ⟨e1, e2⟩ | ⟨g, cap, cur, e1, _, hg, hn, hc, _⟩
      · omega
      · injection e1 with e1 _ e2
        subst e1 e2
        obtain ⟨c0, c1⟩ := hR.cell2 i x hx
        have sg : g < wr.heap.size := (Array.getElem?_eq_some_iff.1 hg).1
        have hI : (i : Int) < (L.holds.length : Int) := by omega
        have hI2 : (i : Int) < 200 := by have := hlen.out; omega
        unfold nv at c0 c1
        clear hg hR hx hc
        go_wp2_with fail
        go_roundw
        case rel => exact ⟨i + 1, by simp, by omega, balloc hbr _, jB.alloc _⟩
        case measure => simp [intOf]; omega
    · obtain rfl : i = L.holds.length := by omega
      go_upto_region 9 with fail
      go_quiet (fail)
      go_upto_region 11 with fail
      obtain ⟨W, hW⟩ : ∃ W : World, W = wr.drewN nq := ⟨_, rfl⟩
      rw [← hW]
      have hbW : Below w.heap.size w W := by rw [hW]; exact bdrewN hbr _
      have jB : Blk W w.heap.size #[.int .i64 p, .int .i64 v] 108 := by rw [hW]; exact jB.drewN _
      have jL := j.below hbW j.lt
      clear hW hR cL sL cB sB
      have cL := jL.cell
      have sL := jL.lt
      have cB := jB.cell
      have sB := jB.lt
      have rn := (HI.out.rh.below hbW).below (balloc (bdrew (bsame W)) (.cells #[.int .i64 p, .int .i64 v] 108))
      have jn := Blk.new W.drew #[.int .i64 p, .int .i64 v] 108
      have hone := hcells_one [(p, v)]
      have hkeep := fun (w1 : World) (o1 : Own) (hst : Stp (fun t => t = (id, k + 3)) o o1 (W.drew.alloc (.cells #[.int .i64 p, .int .i64 v] 108)) w1) => (Blk.alloc (drewB jL) (.cells #[.int .i64 p, .int .i64 v] 108)).stp hst (by rw [HI.out.ob]; simp)
      have hfin := Lib.hid (fun (w1 : World) (o1 : Own) (pa' : Option Addr) (cp' : Nat) (hown : Row w1 o1 (id, k + 3) 108 2 (.slice pa' (L.holds.length + 1) cp') (L.holds.length + 1) (hcells L.holds ++ [.int .i64 p, .int .i64 v])) (hst : Stp (fun t => t = (id, k + 3)) o o1 (W.drew.alloc (.cells #[.int .i64 p, .int .i64 v] 108)) w1) =>
        show ∃ vh' o', LgIn (w1.setCell ⟨b, 4, none⟩ (.slice pa' (L.holds.length + 1) cp')) o' id k b { L with holds := L.holds ++ [(p, v)] } vr vk vh' vu ∧ Stp (fun t => t = (id, k) ∨ t = (id, k + 3)) o o' w (w1.setCell ⟨b, 4, none⟩ (.slice pa' (L.holds.length + 1) cp')) from by
          have h := HI.out
          have hlt : b < (W.drew.alloc (.cells #[.int .i64 p, .int .i64 v] 108)).heap.size := (Blk.alloc (drewB jL) _).lt
          have ho1 : o1 b = (id, k) := by rw [hst.tags b hlt]; exact h.ob
          have k1 : Stp (fun t => t = (id, k)) o1 o1 w1 (w1.setCell ⟨b, 4, none⟩ (.slice pa' (L.holds.length + 1) cp')) := (Stp.refl _ o1 w1).setCell (by simpa using ho1) _
          have S : Stp (fun t => t = (id, k) ∨ t = (id, k + 3)) o o1 w (w1.setCell ⟨b, 4, none⟩ (.slice pa' (L.holds.length + 1) cp')) :=
            (Stp.of_below (hbW.trans ((balloc (bdrew (bsame W)) _).mono hbW.size))).trans ((hst.mono fun _ e => Or.inr e).trans (k1.mono fun _ e => Or.inl e))
          refine ⟨_, o1, ⟨(hkeep _ _ hst).set 4 _, h.rr.stp S (by simp), h.rk.stp S (by simp), ?_, h.ru.stp S (by simp), ho1⟩, S⟩
          have hr := hown.stp k1 (by simp)
          show Row _ o1 (id, k + 3) 108 2 _ (L.holds ++ [(p, v)]).length (hcells (L.holds ++ [(p, v)]))
          rw [hcells_snoc]
          simpa [nv] using hr)
      go_region_law ((refine step_append_row _ (by rfl) _ _ _ (by rfl) 108 iU _ 2 16 hu64 hi hzI hsI hyI (by rfl) (by decide) o (id, k + 3) _ _ _ (by rfl) rn ⟨W.heap.size, 0, none⟩ 1 1 [.int .i64 p, .int .i64 v] (by rfl) (by rfl) (news_blk jn) hone hw.out.1 hw.out.2 ?_; intro v' w1 hown hst; obtain ⟨pa', cp', rfl⟩ := hown.slc; have jX := hkeep _ _ hst; have cX := jX.cell; have zX := jX.free; have sX := jX.lt))
      all_goals
        go_wp2_with fail
        go_ret
        exact ⟨rfl, hfin.out _ _ _ _ hown hst⟩
set_option maxRecDepth 100000 in
set_option maxHeartbeats 4000000 in
theorem log_hold_full (h : LgIn w o id k b L vr vk vh vu) (hk : L.ok) (p v : Nat) (hp : ∀ x ∈ L.holds, x.1 ≠ p) (hm : L.mu ≤ L.holds.length) :
    Calls Tryz.prog 116 #[.pointer (some ⟨b, 0, none⟩), .agg #[.int .i64 p, .int .i64 v]] w fun e w' => e = .returned (.bool false) ∧ Below w.heap.size w w' := by
  have HI := Lib.hid h
  have HP := Lib.hid hp
  have j := h.blk
  have c := h.blk.cell
  have s := h.blk.lt
  obtain ⟨pa, cp, rfl⟩ := h.rh.slc
  have hng : (L.mu : Int) ≤ (L.holds.length : Int) := by omega
  have hlen := Lib.hid (show L.holds.length ≤ 200 by have := hk.h; have := hk.mu; omega)
  clear h hk hm hp
  go_enter Tryz.func116, Tryz.ntmps116
  go_wp2_with fail
  go_loopw [14] (fun ix wr => ∃ i : Nat, ix = .int .i64 i ∧ i ≤ L.holds.length ∧ Below w.heap.size w wr ∧ Blk wr w.heap.size #[.int .i64 p, .int .i64 v] 108) (fun ix _ => L.holds.length - (intOf ix).toNat)
  case atStart => exact ⟨0, rfl, by omega, balloc (bsame w) _, Blk.new w _ _⟩
  case round =>
    obtain ⟨i, rfl, hil, hbr, jB⟩ := hrel
    clear c s
    have jL := j.below hbr j.lt
    have cL := jL.cell
    have sL := jL.lt
    have cB := jB.cell
    have sB := jB.lt
    have hR := HI.out.rh.below hbr
    by_cases hlt : i < L.holds.length
    · obtain ⟨x, hx⟩ : ∃ x, L.holds[i]? = some x := ⟨_, List.getElem?_eq_getElem hlt⟩
      have hne : (x.1 : Int) ≠ (p : Int) := by have := HP.out x (List.mem_of_getElem? hx); omega
      rcases hR.own.2 with ⟨e1, e2⟩ | ⟨g, cap, cur, e1, _, hg, hn, hc, _⟩
      · omega
      · injection e1 with e1 _ e2
        subst e1 e2
        obtain ⟨c0, c1⟩ := hR.cell2 i x hx
        have sg : g < wr.heap.size := (Array.getElem?_eq_some_iff.1 hg).1
        have hI : (i : Int) < (L.holds.length : Int) := by omega
        have hI2 : (i : Int) < 200 := by have := hlen.out; omega
        unfold nv at c0 c1
        clear hg hR hx hc
        go_wp2_with fail
        go_roundw
        case rel => exact ⟨i + 1, by simp, by omega, balloc hbr _, jB.alloc _⟩
        case measure => simp [intOf]; omega
    · obtain rfl : i = L.holds.length := by omega
      go_upto_region 9 with fail
      go_quiet (fail)
      go_wp2_with fail
      go_ret
      exact ⟨rfl, bdrewN hbr _⟩
theorem bound_any (n : Nat) (h : n ≤ 200) (w : World) : Calls Tryz.prog 127 #[.int .i64 n] w fun e w' => e = .returned (.int .i64 n) ∧ w = w' := by
  have e1 : max (n : Int) 0 = n := by omega
  have e2 : min (n : Int) 200 = n := by omega
  go_enter Tryz.func127, Tryz.ntmps127
  go_wp2_with fail
  go_ret
  exact ⟨rfl, rfl⟩
def Lg.fresh (mr mu : Nat) : Lg := ⟨mr, mu, [], [], [], []⟩
theorem log_new (mr mu : Nat) (h1 : mr ≤ 200) (h2 : mu ≤ 200) (w : World) :
    Calls Tryz.prog 72 #[.int .i64 mr, .int .i64 mu] w fun e w' => e = .returned (.pointer (some ⟨w.heap.size, 0, none⟩)) ∧
      Blk w' w.heap.size #[.int .i64 mr, .int .i64 mu, .slice none 0 0, .slice none 0 0, .slice none 0 0, .slice none 0 0] 159 ∧ Below w.heap.size w w' ∧ w'.heap.size = w.heap.size + 1 := by
  have H1 := Lib.hid (fun w => bound_any mr h1 w)
  have H2 := Lib.hid (fun w => bound_any mu h2 w)
  go_enter Tryz.func72, Tryz.ntmps72
  go_wp2_with fail
  refine (H1.out _).mono ?_
  rintro e w1 ⟨rfl, rfl⟩
  go_wp2_with fail
  refine (H2.out _).mono ?_
  rintro e w1 ⟨rfl, rfl⟩
  go_wp2_with fail
  go_ret
  exact ⟨rfl, Blk.new_at _ _ _ _ _ rfl (by simp), balloc (bsame w) _, by simp⟩
end
end Go.Proofs.YtemohiainfllcaaGreat
