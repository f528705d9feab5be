/- Walks: the log of a transaction. -/
import Derived.Test.YtemohiainfllcaaGreatJl
import Derived.Test.YtemohiainfllcaaGreatJk
import Derived.Deep.RegionLaw
import Derived.StillTailTactics
namespace Go.Proofs.YtemohiainfllcaaGreat
open Go.RowKit Hp
attribute [local go_sem ↓] Go.wp_at_zero Go.wp_at_succ
/-- What was. -/
structure Un where
  kind : Nat
  pos : Nat
  i : Nat
  old : Int
structure Lg where
  mr : Nat
  mu : Nat
  reads : List Nat
  keeps : List Nat
  holds : List (Nat × Nat)
  undos : List Un
structure Lg.ok (L : Lg) : Prop where
  mr : L.mr ≤ 200
  mu : L.mu ≤ 200
  r : L.reads.length ≤ L.mr
  k : L.keeps.length ≤ L.mr
  h : L.holds.length ≤ L.mu
  u : L.undos.length ≤ L.mu
def hcells : List (Nat × Nat) → List Value
  | [] => []
  | x :: l => nv x.1 :: nv x.2 :: hcells l
def ucells : List Un → List Value
  | [] => []
  | x :: l => nv x.kind :: nv x.pos :: nv x.i :: .int .i64 x.old :: ucells l
theorem hcells_snoc (l : List (Nat × Nat)) (x : Nat × Nat) : hcells (l ++ [x]) = hcells l ++ [nv x.1, nv x.2] := by
  induction l with
  | nil => rfl
  | cons y l ih => simp [hcells, ih]
theorem ucells_snoc (l : List Un) (x : Un) : ucells (l ++ [x]) = ucells l ++ [nv x.kind, nv x.pos, nv x.i, .int .i64 x.old] := by
  induction l with
  | nil => rfl
  | cons y l ih => simp [ucells, ih]
theorem hcells_one (l : List (Nat × Nat)) : ∀ u ∈ hcells l, u.oneCell' = true := by
  induction l with
  | nil => intro u hu; simp [hcells] at hu
  | cons y l ih =>
    intro u hu
    simp only [hcells, List.mem_cons] at hu
    rcases hu with rfl | rfl | hu
    · rfl
    · rfl
    · exact ih u hu
theorem ucells_one (l : List Un) : ∀ u ∈ ucells l, u.oneCell' = true := by
  induction l with
  | nil => intro u hu; simp [ucells] at hu
  | cons y l ih =>
    intro u hu
    simp only [ucells, List.mem_cons] at hu
    rcases hu with rfl | rfl | rfl | rfl | hu
    · rfl
    · rfl
    · rfl
    · rfl
    · exact ih u hu
theorem map_one (l : List Nat) : ∀ u ∈ l.map nv, u.oneCell' = true := by
  intro u hu
  obtain ⟨x, _, rfl⟩ := List.mem_map.1 hu
  rfl
theorem hcells_at (l : List (Nat × Nat)) (i : Nat) (x : Nat × Nat) (h : l[i]? = some x) : (hcells l)[2 * i]? = some (nv x.1) ∧ (hcells l)[2 * i + 1]? = some (nv x.2) := by
  induction l generalizing i with
  | nil => simp at h
  | cons y l ih =>
    cases i with
    | zero => simp at h; subst h; simp [hcells]
    | succ i =>
      simp at h
      have := ih i h
      rw [show 2 * (i + 1) = 2 * i + 2 from by omega]
      simpa [hcells] using this
theorem ucells_at (l : List Un) (i : Nat) (x : Un) (h : l[i]? = some x) : (ucells l)[4 * i]? = some (nv x.kind) ∧ (ucells l)[4 * i + 1]? = some (nv x.pos) ∧ (ucells l)[4 * i + 2]? = some (nv x.i) ∧ (ucells l)[4 * i + 3]? = some (.int .i64 x.old) := by
  induction l generalizing i with
  | nil => simp at h
  | cons y l ih =>
    cases i with
    | zero => simp at h; subst h; simp [ucells]
    | succ i =>
      simp at h
      have := ih i h
      rw [show 4 * (i + 1) = 4 * i + 4 from by omega]
      simpa [ucells] using this
/-- A log in memory. -/
structure LgIn (w : World) (o : Own) (id k b : Nat) (L : Lg) (vr vk vh vu : Value) : Prop where
  blk : Blk w b #[.int .i64 L.mr, .int .i64 L.mu, vr, vk, vh, vu] 159
  rr : Row w o (id, k + 1) 3 1 vr L.reads.length (L.reads.map nv)
  rk : Row w o (id, k + 2) 3 1 vk L.keeps.length (L.keeps.map nv)
  rh : Row w o (id, k + 3) 108 2 vh L.holds.length (hcells L.holds)
  ru : Row w o (id, k + 4) 96 4 vu L.undos.length (ucells L.undos)
  ob : o b = (id, k)
theorem LgIn.below {w w' : World} {o : Own} {id k b : Nat} {L : Lg} {vr vk vh vu : Value} (h : LgIn w o id k b L vr vk vh vu) (hb : Below w.heap.size w w') : LgIn w' o id k b L vr vk vh vu :=
  ⟨h.blk.below hb h.blk.lt, h.rr.below hb, h.rk.below hb, h.rh.below hb, h.ru.below hb, h.ob⟩
theorem LgIn.stp {T : Tag → Prop} {w w' : World} {o o' : Own} {id k b : Nat} {L : Lg} {vr vk vh vu : Value} (h : LgIn w o id k b L vr vk vh vu) (hs : Stp T o o' w w') (hn : ∀ j, j ≤ 4 → ¬ T (id, k + j)) : LgIn w' o' id k b L vr vk vh vu :=
  ⟨h.blk.stp hs (by rw [h.ob]; exact hn 0 (by omega)), h.rr.stp hs (hn 1 (by omega)), h.rk.stp hs (hn 2 (by omega)), h.rh.stp hs (hn 3 (by omega)), h.ru.stp hs (hn 4 (by omega)), (hs.tags _ h.blk.lt).trans h.ob⟩
section
variable {w : World} {o : Own} {t0 tg : Tag} {b k : Nat} {cs : Array Value} {v : Value} {ps : List Nat}
theorem note_in (hb : Blk w b cs 159) (hv : cs[k]? = some v) (hr : Row w o tg 3 1 v ps.length (ps.map nv)) (hl : ps.length ≤ 4096) (p m : Nat) (hp : p ∈ ps) :
    Calls Tryz.prog 165 #[.pointer (some ⟨b, k, none⟩), .int .i64 p, .int .i64 m] w fun e w' => e = .returned (.bool true) ∧ w = w' := by
  have HC := Lib.hid (contains_any ps hr (by omega) p p rfl)
  rw [decide_eq_true hp] at HC
  have c : w.cell? ⟨b, k, none⟩ = some v := by rw [hb.cell]; exact hv
  clear hb hv hr hp hl
  go_enter Tryz.func165, Tryz.ntmps165
  go_wp2_with fail
  refine HC.out.mono ?_
  rintro e w1 ⟨rfl, rfl⟩
  go_wp2_with fail
  go_ret
  exact ⟨rfl, rfl⟩
theorem note_full (hb : Blk w b cs 159) (hv : cs[k]? = some v) (hr : Row w o tg 3 1 v ps.length (ps.map nv)) (hl : ps.length ≤ 4096) (p m : Nat) (hp : p ∉ ps) (hm : m ≤ ps.length) :
    Calls Tryz.prog 165 #[.pointer (some ⟨b, k, none⟩), .int .i64 p, .int .i64 m] w fun e w' => e = .returned (.bool false) ∧ w = w' := by
  have HC := Lib.hid (contains_any ps hr (by omega) p p rfl)
  rw [decide_eq_false hp] at HC
  have c : w.cell? ⟨b, k, none⟩ = some v := by rw [hb.cell]; exact hv
  obtain ⟨pa, cp, rfl⟩ := hr.slc
  have hng : (m : Int) ≤ (ps.length : Int) := by omega
  clear hb hv hr hp hl
  go_enter Tryz.func165, Tryz.ntmps165
  go_wp2_with fail
  refine HC.out.mono ?_
  rintro e w1 ⟨rfl, rfl⟩
  go_wp2_with fail
  go_ret
  exact ⟨rfl, rfl⟩
set_option maxRecDepth 100000 in
set_option maxHeartbeats 1000000 in
theorem note_new (hb : Blk w b cs 159) (hv : cs[k]? = some v) (hr : Row w o tg 3 1 v ps.length (ps.map nv)) (hl : ps.length ≤ 4096) (p m : Nat) (hp : p ∉ ps) (hm : ps.length < m) (ht : o b = t0) (hne : t0 ≠ tg) :
    Calls Tryz.prog 165 #[.pointer (some ⟨b, k, none⟩), .int .i64 p, .int .i64 m] w fun e w' => e = .returned (.bool true) ∧
      ∃ v' o', Blk w' b (cs.setIfInBounds k v') 159 ∧ Row w' o' tg 3 1 v' (ps ++ [p]).length ((ps ++ [p]).map nv) ∧ Stp (fun t => t = t0 ∨ t = tg) o o' w w' := by
  have HC := Lib.hid (contains_any ps hr (by omega) p p rfl)
  rw [decide_eq_false hp] at HC
  have c : w.cell? ⟨b, k, none⟩ = some v := by rw [hb.cell]; exact hv
  have s := hb.lt
  have z := hb.free k
  have hng : (ps.length : Int) < (m : Int) := by omega
  obtain ⟨iI, hi, hsI, hyI, hzI⟩ := info_int
  have hu64 := Tryz.underlying24
  have hw := Lib.hid (len_ok hl)
  obtain ⟨pa0, cp0, rfl⟩ := hr.slc
  clear hm hl
  go_enter Tryz.func165, Tryz.ntmps165
  go_wp2_with fail
  refine HC.out.mono ?_
  rintro e w1 ⟨rfl, rfl⟩
  go_wp2_with (first | (at_builtin; refine wpList_append_row _ rfl _ _ _ rfl 3 iI _ 1 8 hu64 hi hzI hsI hyI rfl (by decide) o tg _ _ _ rfl (Row.below hr (balloc (bsame w) _)) ⟨w.heap.size, 0, none⟩ 1 1 [.int .i64 p] rfl rfl (news_one (Blk.new w _ _)) one_i64 hw.out.1 hw.out.2 ?_; intro v' w8 hown hst; obtain ⟨pa, cp, rfl⟩ := hown.slc; have j8 := (hb.alloc (.cells #[.int .i64 p] 3)).stp hst (by rw [ht]; exact hne); have c8 : w8.cell? ⟨b, k, none⟩ = some (.slice pa0 ps.length cp0) := (by rw [j8.cell]; exact hv); have z8 := j8.free k; have s8 := j8.lt) | fail)
  go_ret
  have k8 := Stp.setCell (T := fun t => t = t0) (Stp.refl _ (ext o (w.alloc (.cells #[.int .i64 p] 3)).heap.size tg) w8) (a := ⟨b, k, none⟩) (by show ext o _ _ b = _; rw [ext_lt (hb.alloc (.cells #[.int .i64 p] 3)).lt]; exact ht) (.slice pa (ps.length + 1) cp)
  refine ⟨rfl, _, _, j8.set k _, ?_, (((Stp.of_below (T := fun t => t = tg) (balloc (bsame w) (.cells #[.int .i64 p] 3))).trans hst).mono fun _ e => Or.inr e).trans (k8.mono fun _ e => Or.inl e)⟩
  simpa [nv] using hown.stp k8 (fun e => hne e.symm)
end
end Go.Proofs.YtemohiainfllcaaGreat

/- Walks: the log's methods. -/
namespace Go.Proofs.YtemohiainfllcaaGreat
open Go.RowKit Hp
attribute [local go_sem ↓] Go.wp_at_zero Go.wp_at_succ
/-- A place noted, up to a bound. -/
def noteL (l : List Nat) (p m : Nat) : List Nat := if p ∈ l then l else if l.length < m then l ++ [p] else l
def noteB (l : List Nat) (p m : Nat) : Bool := decide (p ∈ l ∨ l.length < m)
section
variable {w : World} {o : Own} {id k b : Nat} {L : Lg} {vr vk vh vu : Value}
theorem notel_any (cs : Array Value) (j : Nat) (v : Value) (ps : List Nat) (t0 tg : Tag) (hb : Blk w b cs 159) (hv : cs[j]? = some v) (hr : Row w o tg 3 1 v ps.length (ps.map nv)) (hl : ps.length ≤ 4096) (p m : Nat) (ht : o b = t0) (hne : t0 ≠ tg) :
    Calls Tryz.prog 165 #[.pointer (some ⟨b, j, none⟩), .int .i64 p, .int .i64 m] w fun e w' => e = .returned (.bool (noteB ps p m)) ∧
      ∃ v' o', Blk w' b (cs.setIfInBounds j v') 159 ∧ Row w' o' tg 3 1 v' (noteL ps p m).length ((noteL ps p m).map nv) ∧ Stp (fun t => t = t0 ∨ t = tg) o o' w w' := by
  have hcs : (cs.setIfInBounds j v) = cs := by
    apply Array.ext_getElem?
    intro i
    rw [Array.getElem?_setIfInBounds]
    split
    · rename_i e; subst e
      split
      · exact hv.symm
      · rename_i e2; rw [Array.getElem?_eq_none (by omega)]
    · rfl
  unfold noteB noteL
  by_cases hp : p ∈ ps
  · rw [if_pos hp, decide_eq_true (Or.inl hp)]
    refine (note_in hb hv hr hl p m hp).mono ?_
    rintro e w' ⟨rfl, rfl⟩
    exact ⟨rfl, v, o, by rw [hcs]; exact hb, hr, Stp.refl _ _ _⟩
  · rw [if_neg hp]
    by_cases hm : ps.length < m
    · rw [if_pos hm, decide_eq_true (Or.inr hm)]
      exact note_new hb hv hr hl p m hp hm ht hne
    · rw [if_neg hm, decide_eq_false (fun e => e.elim hp hm)]
      refine (note_full hb hv hr hl p m hp (by omega)).mono ?_
      rintro e w' ⟨rfl, rfl⟩
      exact ⟨rfl, v, o, by rw [hcs]; exact hb, hr, Stp.refl _ _ _⟩
set_option maxRecDepth 100000 in
theorem log_read (h : LgIn w o id k b L vr vk vh vu) (hk : L.ok) (p : Nat) :
    Calls Tryz.prog 115 #[.pointer (some ⟨b, 0, none⟩), .int .i64 p] w fun e w' => e = .returned (.bool (noteB L.reads p L.mr)) ∧
      ∃ vr' o', LgIn w' o' id k b { L with reads := noteL L.reads p L.mr } vr' vk vh vu ∧ Stp (fun t => t = (id, k) ∨ t = (id, k + 1)) o o' w w' := by
  have HN := Lib.hid (notel_any (w := w.drew) _ 2 _ L.reads (id, k) (id, k + 1) (drewB h.blk) rfl (h.rr.below (bdrew (bsame w))) (by have := hk.r; have := hk.mr; omega) p L.mr h.ob (by simp))
  have HI := Lib.hid h
  have c := h.blk.cell
  generalize noteB L.reads p L.mr = bb at *
  clear h hk
  go_enter Tryz.func115, Tryz.ntmps115
  go_upto_region 1 with fail
  go_still_tail 11, (by kernel_rfl)
  change wpList _ _ _ _ _ w.drew
  go_wp2_with fail
  refine HN.out.mono ?_
  rintro e w1 ⟨rfl, v', o', hb, hr, hs⟩
  go_wp2_with fail
  go_ret
  have hs' : Stp (fun t => t = (id, k) ∨ t = (id, k + 1)) o o' w w1 := (Stp.of_below (bdrew (bsame w))).trans hs
  have h := HI.out
  exact ⟨rfl, v', o', ⟨hb, hr, h.rk.stp hs' (by simp), h.rh.stp hs' (by simp), h.ru.stp hs' (by simp), (hs'.tags _ h.blk.lt).trans h.ob⟩, hs'⟩
set_option maxRecDepth 100000 in
theorem log_keep (h : LgIn w o id k b L vr vk vh vu) (hk : L.ok) (p : Nat) :
    Calls Tryz.prog 178 #[.pointer (some ⟨b, 0, none⟩), .int .i64 p] w fun e w' => e = .returned (.bool (noteB L.keeps p L.mr)) ∧
      ∃ vk' o', LgIn w' o' id k b { L with keeps := noteL L.keeps p L.mr } vr vk' vh vu ∧ Stp (fun t => t = (id, k) ∨ t = (id, k + 2)) o o' w w' := by
  have HN := Lib.hid (notel_any (w := w.drew) _ 3 _ L.keeps (id, k) (id, k + 2) (drewB h.blk) rfl (h.rk.below (bdrew (bsame w))) (by have := hk.k; have := hk.mr; omega) p L.mr h.ob (by simp))
  have HI := Lib.hid h
  have c := h.blk.cell
  generalize noteB L.keeps p L.mr = bb at *
  clear h hk
  go_enter Tryz.func178, Tryz.ntmps178
  go_upto_region 1 with fail
  go_still_tail 11, (by kernel_rfl)
  change wpList _ _ _ _ _ w.drew
  go_wp2_with fail
  refine HN.out.mono ?_
  rintro e w1 ⟨rfl, v', o', hb, hr, hs⟩
  go_wp2_with fail
  go_ret
  have hs' : Stp (fun t => t = (id, k) ∨ t = (id, k + 2)) o o' w w1 := (Stp.of_below (bdrew (bsame w))).trans hs
  have h := HI.out
  exact ⟨rfl, v', o', ⟨hb, h.rr.stp hs' (by simp), hr, h.rh.stp hs' (by simp), h.ru.stp hs' (by simp), (hs'.tags _ h.blk.lt).trans h.ob⟩, hs'⟩
theorem log_reads (h : LgIn w o id k b L vr vk vh vu) (hk : L.ok) (tg : Tag) :
    Calls Tryz.prog 54 #[.pointer (some ⟨b, 0, none⟩)] w fun e w' => ∃ v', e = .returned v' ∧ Row w' (ext o w.heap.size tg) tg 3 1 v' L.reads.length (L.reads.map nv) ∧ Below w.heap.size w w' := by
  have HN := Lib.hid (clone_int h.rr (by have := hk.r; have := hk.mr; omega) (map_one _) tg)
  have c := h.blk.cell
  clear h hk
  go_enter Tryz.func54, Tryz.ntmps54
  go_wp2_with fail
  refine HN.out.mono ?_
  rintro e w1 ⟨v', rfl, hr, hb⟩
  go_wp2_with fail
  go_ret
  exact ⟨_, rfl, hr, hb⟩
theorem log_holds (h : LgIn w o id k b L vr vk vh vu) (hk : L.ok) (tg : Tag) :
    Calls Tryz.prog 52 #[.pointer (some ⟨b, 0, none⟩)] w fun e w' => ∃ v', e = .returned v' ∧ Row w' (ext o w.heap.size tg) tg 108 2 v' L.holds.length (hcells L.holds) ∧ Below w.heap.size w w' := by
  have HN := Lib.hid (clone_hold h.rh (by have := hk.h; have := hk.mu; omega) (hcells_one _) tg)
  have c := h.blk.cell
  clear h hk
  go_enter Tryz.func52, Tryz.ntmps52
  go_wp2_with fail
  refine HN.out.mono ?_
  rintro e w1 ⟨v', rfl, hr, hb⟩
  go_wp2_with fail
  go_ret
  exact ⟨_, rfl, hr, hb⟩
theorem log_undos (h : LgIn w o id k b L vr vk vh vu) (hk : L.ok) (tg : Tag) :
    Calls Tryz.prog 122 #[.pointer (some ⟨b, 0, none⟩)] w fun e w' => ∃ v', e = .returned v' ∧ Row w' (ext o w.heap.size tg) tg 96 4 v' L.undos.length (ucells L.undos) ∧ Below w.heap.size w w' := by
  have HN := Lib.hid (clone_undo h.ru (by have := hk.u; have := hk.mu; omega) (ucells_one _) tg)
  have c := h.blk.cell
  clear h hk
  go_enter Tryz.func122, Tryz.ntmps122
  go_wp2_with fail
  refine HN.out.mono ?_
  rintro e w1 ⟨v', rfl, hr, hb⟩
  go_wp2_with fail
  go_ret
  exact ⟨_, rfl, hr, hb⟩
theorem log_reset (h : LgIn w o id k b L vr vk vh vu) :
    Calls Tryz.prog 104 #[.pointer (some ⟨b, 0, none⟩)] w fun e w' => e = .returned (.tuple #[]) ∧ LgIn w' o id k b { L with reads := [], keeps := [], holds := [], undos := [] } (.slice none 0 0) (.slice none 0 0) (.slice none 0 0) (.slice none 0 0) ∧ Stp (fun t => t = (id, k)) o o w w' := by
  have HI := Lib.hid h
  have j := h.blk
  have c := h.blk.cell
  have z := h.blk.free
  have s := h.blk.lt
  clear h
  go_enter Tryz.func104, Tryz.ntmps104
  go_wp2_with fail
  go_end0
  have hob := HI.out.ob
  refine ⟨rfl, ⟨(((j.set 2 _).set 3 _).set 4 _).set 5 _, Row.nil _ _ _ _ _, Row.nil _ _ _ _ _, Row.nil _ _ _ _ _, Row.nil _ _ _ _ _, hob⟩, ?_⟩
  exact ((((Stp.refl _ o w).setCell (by simpa using hob) _).setCell (by simpa using hob) _).setCell (by simpa using hob) _).setCell (by simpa using hob) _
end
end Go.Proofs.YtemohiainfllcaaGreat
