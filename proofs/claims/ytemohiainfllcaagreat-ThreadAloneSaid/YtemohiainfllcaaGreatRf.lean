/- Walks: the log of a transaction. -/
import Derived.Test.YtemohiainfllcaaGreatRe
import Derived.Deep.RegionLaw
import Derived.StillTailTactics
namespace Go.Proofs.YtemohiainfllcaaGreat
open Go.RowKit Hp
attribute [local go_sem ↓] Go.wp_at_zero Go.wp_at_succ
/-- What was. -/
structure Un where
  kind : Nat
  pos : Nat
  i : Nat
  old : Int
structure Lg where
  mr : Nat
  mu : Nat
  reads : List Nat
  keeps : List Nat
  holds : List (Nat × Nat)
  undos : List Un
structure Lg.ok (L : Lg) : Prop where
  mr : L.mr ≤ 200
  mu : L.mu ≤ 200
  r : L.reads.length ≤ L.mr
  k : L.keeps.length ≤ L.mr
  h : L.holds.length ≤ L.mu
  u : L.undos.length ≤ L.mu
def hcells : List (Nat × Nat) → List Value
  | [] => []
  | x :: l => nv x.1 :: nv x.2 :: hcells l
def ucells : List Un → List Value
  | [] => []
  | x :: l => nv x.kind :: nv x.pos :: nv x.i :: .int .i64 x.old :: ucells l
theorem hcells_snoc (l : List (Nat × Nat)) (x : Nat × Nat) : hcells (l ++ [x]) = hcells l ++ [nv x.1, nv x.2] := by
  induction l with
  | nil => rfl
  | cons y l ih => simp [hcells, ih]
theorem ucells_snoc (l : List Un) (x : Un) : ucells (l ++ [x]) = ucells l ++ [nv x.kind, nv x.pos, nv x.i, .int .i64 x.old] := by
  induction l with
  | nil => rfl
  | cons y l ih => simp [ucells, ih]
theorem hcells_one (l : List (Nat × Nat)) : ∀ u ∈ hcells l, u.oneCell' = true := by
  induction l with
  | nil => intro u hu; simp [hcells] at hu
  | cons y l ih =>
    intro u hu
    simp only [hcells, List.mem_cons] at hu
    rcases hu with rfl | rfl | hu
    · rfl
    · rfl
    · exact ih u hu
theorem ucells_one (l : List Un) : ∀ u ∈ ucells l, u.oneCell' = true := by
  induction l with
  | nil => intro u hu; simp [ucells] at hu
  | cons y l ih =>
    intro u hu
    simp only [ucells, List.mem_cons] at hu
    rcases hu with rfl | rfl | rfl | rfl | hu
    · rfl
    · rfl
    · rfl
    · rfl
    · exact ih u hu
theorem map_one (l : List Nat) : ∀ u ∈ l.map nv, u.oneCell' = true := by
  intro u hu
  obtain ⟨x, _, rfl⟩ := List.mem_map.1 hu
  rfl
theorem hcells_at (l : List (Nat × Nat)) (i : Nat) (x : Nat × Nat) (h : l[i]? = some x) : (hcells l)[2 * i]? = some (nv x.1) ∧ (hcells l)[2 * i + 1]? = some (nv x.2) := by
  induction l generalizing i with
  | nil => simp at h
  | cons y l ih =>
    cases i with
    | zero => simp at h; subst h; simp [hcells]
    | succ i =>
      simp at h
      have := ih i h
      rw [show 2 * (i + 1) = 2 * i + 2 from by omega]
      simpa [hcells] using this
theorem ucells_at (l : List Un) (i : Nat) (x : Un) (h : l[i]? = some x) : (ucells l)[4 * i]? = some (nv x.kind) ∧ (ucells l)[4 * i + 1]? = some (nv x.pos) ∧ (ucells l)[4 * i + 2]? = some (nv x.i) ∧ (ucells l)[4 * i + 3]? = some (.int .i64 x.old) := by
  induction l generalizing i with
  | nil => simp at h
  | cons y l ih =>
    cases i with
    | zero => simp at h; subst h; simp [ucells]
    | succ i =>
      simp at h
      have := ih i h
      rw [show 4 * (i + 1) = 4 * i + 4 from by omega]
      simpa [ucells] using this
/-- A log in memory. -/
structure LgIn (w : World) (o : Own) (id k b : Nat) (L : Lg) (vr vk vh vu : Value) : Prop where
  blk : Blk w b #[.int .i64 L.mr, .int .i64 L.mu, vr, vk, vh, vu] 159
  rr : Row w o (id, k + 1) 3 1 vr L.reads.length (L.reads.map nv)
  rk : Row w o (id, k + 2) 3 1 vk L.keeps.length (L.keeps.map nv)
  rh : Row w o (id, k + 3) 108 2 vh L.holds.length (hcells L.holds)
  ru : Row w o (id, k + 4) 96 4 vu L.undos.length (ucells L.undos)
  ob : o b = (id, k)
theorem LgIn.below {w w' : World} {o : Own} {id k b : Nat} {L : Lg} {vr vk vh vu : Value} (h : LgIn w o id k b L vr vk vh vu) (hb : Below w.heap.size w w') : LgIn w' o id k b L vr vk vh vu :=
  ⟨h.blk.below hb h.blk.lt, h.rr.below hb, h.rk.below hb, h.rh.below hb, h.ru.below hb, h.ob⟩
theorem LgIn.stp {T : Tag → Prop} {w w' : World} {o o' : Own} {id k b : Nat} {L : Lg} {vr vk vh vu : Value} (h : LgIn w o id k b L vr vk vh vu) (hs : Stp T o o' w w') (hn : ∀ j, j ≤ 4 → ¬ T (id, k + j)) : LgIn w' o' id k b L vr vk vh vu :=
  ⟨h.blk.stp hs (by rw [h.ob]; exact hn 0 (by omega)), h.rr.stp hs (hn 1 (by omega)), h.rk.stp hs (hn 2 (by omega)), h.rh.stp hs (hn 3 (by omega)), h.ru.stp hs (hn 4 (by omega)), (hs.tags _ h.blk.lt).trans h.ob⟩
section
variable {w : World} {o : Own} {t0 tg : Tag} {b k : Nat} {cs : Array Value} {v : Value} {ps : List Nat}
theorem note_in (hb : Blk w b cs 159) (hv : cs[k]? = some v) (hr : Row w o tg 3 1 v ps.length (ps.map nv)) (hl : ps.length ≤ 4096) (p m : Nat) (hp : p ∈ ps) :
    Calls Tryz.prog 165 #[.pointer (some ⟨b, k, none⟩), .int .i64 p, .int .i64 m] w fun e w' => e = .returned (.bool true) ∧ w = w' := by
  have HC := Lib.hid (contains_any ps hr (by omega) p p rfl)
  rw [decide_eq_true hp] at HC
  have c : w.cell? ⟨b, k, none⟩ = some v := by rw [hb.cell]; exact hv
  clear hb hv hr hp hl
  go_enter Tryz.func165, Tryz.ntmps165
  go_wp2_with fail
  refine HC.out.mono ?_
  rintro e w1 ⟨rfl, rfl⟩
  go_wp2_with fail
  go_ret
  exact ⟨rfl, rfl⟩
theorem note_full (hb : Blk w b cs 159) (hv : cs[k]? = some v) (hr : Row w o tg 3 1 v ps.length (ps.map nv)) (hl : ps.length ≤ 4096) (p m : Nat) (hp : p ∉ ps) (hm : m ≤ ps.length) :
    Calls Tryz.prog 165 #[.pointer (some ⟨b, k, none⟩), .int .i64 p, .int .i64 m] w fun e w' => e = .returned (.bool false) ∧ w = w' := by
  have HC := Lib.hid (contains_any ps hr (by omega) p p rfl)
  rw [decide_eq_false hp] at HC
  have c : w.cell? ⟨b, k, none⟩ = some v := by rw [hb.cell]; exact hv
  obtain ⟨pa, cp, rfl⟩ := hr.slc
  have hng : (m : Int) ≤ (ps.length : Int) := by omega
  clear hb hv hr hp hl
  go_enter Tryz.func165, Tryz.ntmps165
  go_wp2_with fail
  refine HC.out.mono ?_
  rintro e w1 ⟨rfl, rfl⟩
  go_wp2_with fail
  go_ret
  exact ⟨rfl, rfl⟩
set_option maxRecDepth 100000 in
set_option maxHeartbeats 1000000 in
theorem note_new (hb : Blk w b cs 159) (hv : cs[k]? = some v) (hr : Row w o tg 3 1 v ps.length (ps.map nv)) (hl : ps.length ≤ 4096) (p m : Nat) (hp : p ∉ ps) (hm : ps.length < m) (ht : o b = t0) (hne : t0 ≠ tg) :
    Calls Tryz.prog 165 #[.pointer (some ⟨b, k, none⟩), .int .i64 p, .int .i64 m] w fun e w' => e = .returned (.bool true) ∧
      ∃ v' o', Blk w' b (cs.setIfInBounds k v') 159 ∧ Row w' o' tg 3 1 v' (ps ++ [p]).length ((ps ++ [p]).map nv) ∧ Stp (fun t => t = t0 ∨ t = tg) o o' w w' := by
  have HC := Lib.hid (contains_any ps hr (by omega) p p rfl)
  rw [decide_eq_false hp] at HC
  have c : w.cell? ⟨b, k, none⟩ = some v := by rw [hb.cell]; exact hv
  have s := hb.lt
  have z := hb.free k
  have hng : (ps.length : Int) < (m : Int) := by omega
  obtain ⟨iI, hi, hsI, hyI, hzI⟩ := info_int
  have hu64 := Tryz.underlying24
  have hw := Lib.hid (len_ok hl)
  obtain ⟨pa0, cp0, rfl⟩ := hr.slc
  clear hm hl
  go_enter Tryz.func165, Tryz.ntmps165
  go_wp2_with fail
  refine HC.out.mono ?_
  rintro e w1 ⟨rfl, rfl⟩
  go_wp2_with (first | (at_builtin; refine wpList_append_row _ rfl _ _ _ rfl 3 iI _ 1 8 hu64 hi hzI hsI hyI rfl (by decide) o tg _ _ _ rfl (Row.below hr (balloc (bsame w) _)) ⟨w.heap.size, 0, none⟩ 1 1 [.int .i64 p] rfl rfl (news_one (Blk.new w _ _)) one_i64 hw.out.1 hw.out.2 ?_; intro v' w8 hown hst; obtain ⟨pa, cp, rfl⟩ := hown.slc; have j8 := (hb.alloc (.cells #[.int .i64 p] 3)).stp hst (by rw [ht]; exact hne); have c8 : w8.cell? ⟨b, k, none⟩ = some (.slice pa0 ps.length cp0) := (by rw [j8.cell]; exact hv); have z8 := j8.free k; have s8 := j8.lt) | fail)
  go_ret
  have k8 := Stp.setCell (T := fun t => t = t0) (Stp.refl _ (ext o (w.alloc (.cells #[.int .i64 p] 3)).heap.size tg) w8) (a := ⟨b, k, none⟩) (by show ext o _ _ b = _; rw [ext_lt (hb.alloc (.cells #[.int .i64 p] 3)).lt]; exact ht) (.slice pa (ps.length + 1) cp)
  refine ⟨rfl, _, _, j8.set k _, ?_, (((Stp.of_below (T := fun t => t = tg) (balloc (bsame w) (.cells #[.int .i64 p] 3))).trans hst).mono fun _ e => Or.inr e).trans (k8.mono fun _ e => Or.inl e)⟩
  simpa [nv] using hown.stp k8 (fun e => hne e.symm)
end
end Go.Proofs.YtemohiainfllcaaGreat

/- Walks: the log's methods. -/
namespace Go.Proofs.YtemohiainfllcaaGreat
open Go.RowKit Hp
attribute [local go_sem ↓] Go.wp_at_zero Go.wp_at_succ
/-- A place noted, up to a bound. -/
def noteL (l : List Nat) (p m : Nat) : List Nat := if p ∈ l then l else if l.length < m then l ++ [p] else l
def noteB (l : List Nat) (p m : Nat) : Bool := decide (p ∈ l ∨ l.length < m)
section
variable {w : World} {o : Own} {id k b : Nat} {L : Lg} {vr vk vh vu : Value}
theorem notel_any (cs : Array Value) (j : Nat) (v : Value) (ps : List Nat) (t0 tg : Tag) (hb : Blk w b cs 159) (hv : cs[j]? = some v) (hr : Row w o tg 3 1 v ps.length (ps.map nv)) (hl : ps.length ≤ 4096) (p m : Nat) (ht : o b = t0) (hne : t0 ≠ tg) :
    Calls Tryz.prog 165 #[.pointer (some ⟨b, j, none⟩), .int .i64 p, .int .i64 m] w fun e w' => e = .returned (.bool (noteB ps p m)) ∧
      ∃ v' o', Blk w' b (cs.setIfInBounds j v') 159 ∧ Row w' o' tg 3 1 v' (noteL ps p m).length ((noteL ps p m).map nv) ∧ Stp (fun t => t = t0 ∨ t = tg) o o' w w' := by
  have hcs : (cs.setIfInBounds j v) = cs := by
    apply Array.ext_getElem?
    intro i
    rw [Array.getElem?_setIfInBounds]
    split
    · rename_i e; subst e
      split
      · exact hv.symm
      · rename_i e2; rw [Array.getElem?_eq_none (by omega)]
    · rfl
  unfold noteB noteL
  by_cases hp : p ∈ ps
  · rw [if_pos hp, decide_eq_true (Or.inl hp)]
    refine (note_in hb hv hr hl p m hp).mono ?_
    rintro e w' ⟨rfl, rfl⟩
    exact ⟨rfl, v, o, by rw [hcs]; exact hb, hr, Stp.refl _ _ _⟩
  · rw [if_neg hp]
    by_cases hm : ps.length < m
    · rw [if_pos hm, decide_eq_true (Or.inr hm)]
      exact note_new hb hv hr hl p m hp hm ht hne
    · rw [if_neg hm, decide_eq_false (fun e => e.elim hp hm)]
      refine (note_full hb hv hr hl p m hp (by omega)).mono ?_
      rintro e w' ⟨rfl, rfl⟩
      exact ⟨rfl, v, o, by rw [hcs]; exact hb, hr, Stp.refl _ _ _⟩
set_option maxRecDepth 100000 in
theorem log_read (h : LgIn w o id k b L vr vk vh vu) (hk : L.ok) (p : Nat) :
    Calls Tryz.prog 115 #[.pointer (some ⟨b, 0, none⟩), .int .i64 p] w fun e w' => e = .returned (.bool (noteB L.reads p L.mr)) ∧
      ∃ vr' o', LgIn w' o' id k b { L with reads := noteL L.reads p L.mr } vr' vk vh vu ∧ Stp (fun t => t = (id, k) ∨ t = (id, k + 1)) o o' w w' := by
  have HN := Lib.hid (notel_any (w := w.drew) _ 2 _ L.reads (id, k) (id, k + 1) (drewB h.blk) rfl (h.rr.below (bdrew (bsame w))) (by have := hk.r; have := hk.mr; omega) p L.mr h.ob (by simp))
  have HI := Lib.hid h
  have c := h.blk.cell
  generalize noteB L.reads p L.mr = bb at *
  clear h hk
  go_enter Tryz.func115, Tryz.ntmps115
  go_upto_region 1 with fail
  go_still_tail 11, (by kernel_rfl)
  change wpList _ _ _ _ _ w.drew
  go_wp2_with fail
  refine HN.out.mono ?_
  rintro e w1 ⟨rfl, v', o', hb, hr, hs⟩
  go_wp2_with fail
  go_ret
  have hs' : Stp (fun t => t = (id, k) ∨ t = (id, k + 1)) o o' w w1 := (Stp.of_below (bdrew (bsame w))).trans hs
  have h := HI.out
  exact ⟨rfl, v', o', ⟨hb, hr, h.rk.stp hs' (by simp), h.rh.stp hs' (by simp), h.ru.stp hs' (by simp), (hs'.tags _ h.blk.lt).trans h.ob⟩, hs'⟩
set_option maxRecDepth 100000 in
theorem log_keep (h : LgIn w o id k b L vr vk vh vu) (hk : L.ok) (p : Nat) :
    Calls Tryz.prog 178 #[.pointer (some ⟨b, 0, none⟩), .int .i64 p] w fun e w' => e = .returned (.bool (noteB L.keeps p L.mr)) ∧
      ∃ vk' o', LgIn w' o' id k b { L with keeps := noteL L.keeps p L.mr } vr vk' vh vu ∧ Stp (fun t => t = (id, k) ∨ t = (id, k + 2)) o o' w w' := by
  have HN := Lib.hid (notel_any (w := w.drew) _ 3 _ L.keeps (id, k) (id, k + 2) (drewB h.blk) rfl (h.rk.below (bdrew (bsame w))) (by have := hk.k; have := hk.mr; omega) p L.mr h.ob (by simp))
  have HI := Lib.hid h
  have c := h.blk.cell
  generalize noteB L.keeps p L.mr = bb at *
  clear h hk
  go_enter Tryz.func178, Tryz.ntmps178
  go_upto_region 1 with fail
  go_still_tail 11, (by kernel_rfl)
  change wpList _ _ _ _ _ w.drew
  go_wp2_with fail
  refine HN.out.mono ?_
  rintro e w1 ⟨rfl, v', o', hb, hr, hs⟩
  go_wp2_with fail
  go_ret
  have hs' : Stp (fun t => t = (id, k) ∨ t = (id, k + 2)) o o' w w1 := (Stp.of_below (bdrew (bsame w))).trans hs
  have h := HI.out
  exact ⟨rfl, v', o', ⟨hb, h.rr.stp hs' (by simp), hr, h.rh.stp hs' (by simp), h.ru.stp hs' (by simp), (hs'.tags _ h.blk.lt).trans h.ob⟩, hs'⟩
theorem log_reads (h : LgIn w o id k b L vr vk vh vu) (hk : L.ok) (tg : Tag) :
    Calls Tryz.prog 54 #[.pointer (some ⟨b, 0, none⟩)] w fun e w' => ∃ v', e = .returned v' ∧ Row w' (ext o w.heap.size tg) tg 3 1 v' L.reads.length (L.reads.map nv) ∧ Below w.heap.size w w' := by
  have HN := Lib.hid (clone_int h.rr (by have := hk.r; have := hk.mr; omega) (map_one _) tg)
  have c := h.blk.cell
  clear h hk
  go_enter Tryz.func54, Tryz.ntmps54
  go_wp2_with fail
  refine HN.out.mono ?_
  rintro e w1 ⟨v', rfl, hr, hb⟩
  go_wp2_with fail
  go_ret
  exact ⟨_, rfl, hr, hb⟩
theorem log_holds (h : LgIn w o id k b L vr vk vh vu) (hk : L.ok) (tg : Tag) :
    Calls Tryz.prog 52 #[.pointer (some ⟨b, 0, none⟩)] w fun e w' => ∃ v', e = .returned v' ∧ Row w' (ext o w.heap.size tg) tg 108 2 v' L.holds.length (hcells L.holds) ∧ Below w.heap.size w w' := by
  have HN := Lib.hid (clone_hold h.rh (by have := hk.h; have := hk.mu; omega) (hcells_one _) tg)
  have c := h.blk.cell
  clear h hk
  go_enter Tryz.func52, Tryz.ntmps52
  go_wp2_with fail
  refine HN.out.mono ?_
  rintro e w1 ⟨v', rfl, hr, hb⟩
  go_wp2_with fail
  go_ret
  exact ⟨_, rfl, hr, hb⟩
theorem log_undos (h : LgIn w o id k b L vr vk vh vu) (hk : L.ok) (tg : Tag) :
    Calls Tryz.prog 122 #[.pointer (some ⟨b, 0, none⟩)] w fun e w' => ∃ v', e = .returned v' ∧ Row w' (ext o w.heap.size tg) tg 96 4 v' L.undos.length (ucells L.undos) ∧ Below w.heap.size w w' := by
  have HN := Lib.hid (clone_undo h.ru (by have := hk.u; have := hk.mu; omega) (ucells_one _) tg)
  have c := h.blk.cell
  clear h hk
  go_enter Tryz.func122, Tryz.ntmps122
  go_wp2_with fail
  refine HN.out.mono ?_
  rintro e w1 ⟨v', rfl, hr, hb⟩
  go_wp2_with fail
  go_ret
  exact ⟨_, rfl, hr, hb⟩
theorem log_reset (h : LgIn w o id k b L vr vk vh vu) :
    Calls Tryz.prog 104 #[.pointer (some ⟨b, 0, none⟩)] w fun e w' => e = .returned (.tuple #[]) ∧ LgIn w' o id k b { L with reads := [], keeps := [], holds := [], undos := [] } (.slice none 0 0) (.slice none 0 0) (.slice none 0 0) (.slice none 0 0) ∧ Stp (fun t => t = (id, k)) o o w w' := by
  have HI := Lib.hid h
  have j := h.blk
  have c := h.blk.cell
  have z := h.blk.free
  have s := h.blk.lt
  clear h
  go_enter Tryz.func104, Tryz.ntmps104
  go_wp2_with fail
  go_end0
  have hob := HI.out.ob
  refine ⟨rfl, ⟨(((j.set 2 _).set 3 _).set 4 _).set 5 _, Row.nil _ _ _ _ _, Row.nil _ _ _ _ _, Row.nil _ _ _ _ _, Row.nil _ _ _ _ _, hob⟩, ?_⟩
  exact ((((Stp.refl _ o w).setCell (by simpa using hob) _).setCell (by simpa using hob) _).setCell (by simpa using hob) _).setCell (by simpa using hob) _
end
end Go.Proofs.YtemohiainfllcaaGreat

/- Walks: the log's methods Undo, Hold; a new log. -/
namespace Go.Proofs.YtemohiainfllcaaGreat
open Go.RowKit Hp
attribute [local go_sem ↓] Go.wp_at_zero Go.wp_at_succ
theorem news_blk {w : World} {B : Nat} {cs : Array Value} {t : TypeId} (h : Blk w B cs t) : ∀ j u, cs.toList[j]? = some u → w.cell? ((⟨B, 0, none⟩ : Addr).add j) = some u := fun j u hu => by
  have hadd : (⟨B, 0, none⟩ : Addr).add j = ⟨B, j, none⟩ := by unfold Addr.add; split <;> simp_all
  rw [hadd, h.cell]
  simpa using hu
theorem len_ok2 {n b : Nat} (h : n ≤ 4096) (hb : b ≤ 64) : n + 1 ≤ maxLen ∧ (n + 1) * b ≤ 140737488355328 := by
  constructor
  · simp only [maxLen]; omega
  · have : (n + 1) * b ≤ 4097 * 64 := Nat.mul_le_mul (by omega) hb
    omega
abbrev unV (u : Un) : Value := .agg #[nv u.kind, nv u.pos, nv u.i, .int .i64 u.old]
section
variable {w : World} {o : Own} {id k b : Nat} {L : Lg} {vr vk vh vu : Value}
set_option maxRecDepth 100000 in
theorem log_undo_full (h : LgIn w o id k b L vr vk vh vu) (u : Un) (hm : L.mu ≤ L.undos.length) :
    Calls Tryz.prog 63 #[.pointer (some ⟨b, 0, none⟩), unV u] w fun e w' => e = .returned (.bool false) ∧ Below w.heap.size w w' := by
  have j := h.blk
  have c := h.blk.cell
  have s := h.blk.lt
  obtain ⟨pa, cp, rfl⟩ := h.ru.slc
  have hng : (L.mu : Int) ≤ (L.undos.length : Int) := by omega
  clear h
  go_enter Tryz.func63, Tryz.ntmps63
  go_upto_region 1 with fail
  go_quiet (fail)
  go_wp2_with fail
  go_ret
  exact ⟨rfl, bdrewN (balloc (bsame w) _) _⟩
set_option maxRecDepth 100000 in
set_option maxHeartbeats 4000000 in
theorem log_undo_room (h : LgIn w o id k b L vr vk vh vu) (hk : L.ok) (u : Un) (hm : L.undos.length < L.mu) :
    Calls Tryz.prog 63 #[.pointer (some ⟨b, 0, none⟩), unV u] w fun e w' => e = .returned (.bool true) ∧
      ∃ vu' o', LgIn w' o' id k b { L with undos := L.undos ++ [u] } vr vk vh vu' ∧ Stp (fun t => t = (id, k) ∨ t = (id, k + 4)) o o' w w' := by
  have HI := Lib.hid h
  have j := h.blk
  have c := h.blk.cell
  have s := h.blk.lt
  obtain ⟨pa, cp, rfl⟩ := h.ru.slc
  have hng : (L.undos.length : Int) < (L.mu : Int) := by omega
  have hw := Lib.hid (len_ok2 (n := L.undos.length) (b := 32) (by have := hk.u; have := hk.mu; omega) (by omega))
  obtain ⟨iU, hi, hsI, hyI, hzI⟩ := info_undo
  have hu64 := Tryz.underlying157
  clear h hk hm
  go_enter Tryz.func63, Tryz.ntmps63
  go_upto_region 1 with fail
  go_quiet (fail)
  go_upto_region 3 with fail
  obtain ⟨W, hW⟩ : ∃ W : World, W = (w.alloc (.cells #[nv u.kind, nv u.pos, nv u.i, .int .i64 u.old] 96)).drewN nq := ⟨_, rfl⟩
  rw [← hW]
  have hbW : Below w.heap.size w W := by rw [hW]; exact bdrewN (balloc (bsame w) _) _
  have jB : Blk W w.heap.size #[nv u.kind, nv u.pos, nv u.i, .int .i64 u.old] 96 := by rw [hW]; exact (Blk.new w _ _).drewN _
  have jL := j.below hbW j.lt
  clear hW c s
  have cL := jL.cell
  have sL := jL.lt
  have cB := jB.cell
  have sB := jB.lt
  have rn := (HI.out.ru.below hbW).below (balloc (bdrew (bsame W)) (.cells #[nv u.kind, nv u.pos, nv u.i, .int .i64 u.old] 96))
  have jn := Blk.new W.drew #[nv u.kind, nv u.pos, nv u.i, .int .i64 u.old] 96
  have hone := ucells_one [u]
  have hkeep := fun (w1 : World) (o1 : Own) (hst : Stp (fun t => t = (id, k + 4)) o o1 (W.drew.alloc (.cells #[nv u.kind, nv u.pos, nv u.i, .int .i64 u.old] 96)) w1) => (Blk.alloc (drewB jL) (.cells #[nv u.kind, nv u.pos, nv u.i, .int .i64 u.old] 96)).stp hst (by rw [HI.out.ob]; simp)
  have hfin := Lib.hid (fun (w1 : World) (o1 : Own) (pa' : Option Addr) (cp' : Nat) (hown : Row w1 o1 (id, k + 4) 96 4 (.slice pa' (L.undos.length + 1) cp') (L.undos.length + 1) (ucells L.undos ++ [nv u.kind, nv u.pos, nv u.i, .int .i64 u.old])) (hst : Stp (fun t => t = (id, k + 4)) o o1 (W.drew.alloc (.cells #[nv u.kind, nv u.pos, nv u.i, .int .i64 u.old] 96)) w1) =>
    show ∃ vu' o', LgIn (w1.setCell ⟨b, 5, none⟩ (.slice pa' (L.undos.length + 1) cp')) o' id k b { L with undos := L.undos ++ [u] } vr vk vh vu' ∧ Stp (fun t => t = (id, k) ∨ t = (id, k + 4)) o o' w (w1.setCell ⟨b, 5, none⟩ (.slice pa' (L.undos.length + 1) cp')) from by
      have h := HI.out
      have hlt : b < (W.drew.alloc (.cells #[nv u.kind, nv u.pos, nv u.i, .int .i64 u.old] 96)).heap.size := (Blk.alloc (drewB jL) _).lt
      have ho1 : o1 b = (id, k) := by rw [hst.tags b hlt]; exact h.ob
      have k1 : Stp (fun t => t = (id, k)) o1 o1 w1 (w1.setCell ⟨b, 5, none⟩ (.slice pa' (L.undos.length + 1) cp')) := (Stp.refl _ o1 w1).setCell (by simpa using ho1) _
      have S : Stp (fun t => t = (id, k) ∨ t = (id, k + 4)) o o1 w (w1.setCell ⟨b, 5, none⟩ (.slice pa' (L.undos.length + 1) cp')) :=
        (Stp.of_below (hbW.trans ((balloc (bdrew (bsame W)) _).mono hbW.size))).trans ((hst.mono fun _ e => Or.inr e).trans (k1.mono fun _ e => Or.inl e))
      refine ⟨_, o1, ⟨(hkeep _ _ hst).set 5 _, h.rr.stp S (by simp), h.rk.stp S (by simp), h.rh.stp S (by simp), ?_, ho1⟩, S⟩
      have hr := hown.stp k1 (by simp)
      show Row _ o1 (id, k + 4) 96 4 _ (L.undos ++ [u]).length (ucells (L.undos ++ [u]))
      rw [ucells_snoc]
      simpa using hr)
  go_region_law ((refine step_append_row _ (by rfl) _ _ _ (by rfl) 96 iU _ 4 32 hu64 hi hzI hsI hyI (by rfl) (by decide) o (id, k + 4) _ _ _ (by rfl) rn ⟨W.heap.size, 0, none⟩ 1 1 [nv u.kind, nv u.pos, nv u.i, .int .i64 u.old] (by rfl) (by rfl) (news_blk jn) hone hw.out.1 hw.out.2 ?_; intro v' w1 hown hst; obtain ⟨pa', cp', rfl⟩ := hown.slc; have jX := hkeep _ _ hst; have cX := jX.cell; have zX := jX.free; have sX := jX.lt))
  all_goals
    go_wp2_with fail
    go_ret
    exact ⟨rfl, hfin.out _ _ _ _ hown hst⟩
end
end Go.Proofs.YtemohiainfllcaaGreat

/- Walks: the log's method Hold; a new log. -/
namespace Go.Proofs.YtemohiainfllcaaGreat
open Go.RowKit Hp
attribute [local go_sem ↓] Go.wp_at_zero Go.wp_at_succ
section
variable {w : World} {o : Own} {id k b : Nat} {L : Lg} {vr vk vh vu : Value}
theorem Row.cell2 {w : World} {o : Own} {t : Tag} {l : List (Nat × Nat)} {g n cap : Nat} (h : Row w o t 108 2 (.slice (some ⟨g, 0, none⟩) n cap) n (hcells l)) (i : Nat) (x : Nat × Nat) (hx : l[i]? = some x) :
    w.cell? ⟨g, i * 2, none⟩ = some (nv x.1) ∧ w.cell? ⟨g, i * 2 + 1, none⟩ = some (nv x.2) := by
  have h2 := hcells_at l i x hx
  have f := fun j u hu => h.own.cells (g := g) rfl j u hu
  have e : ∀ j, (⟨g, 0, none⟩ : Addr).add j = ⟨g, j, none⟩ := fun j => by unfold Addr.add; split <;> simp_all
  have a1 := f _ _ h2.1
  have a2 := f _ _ h2.2
  rw [e] at a1 a2
  rw [Nat.mul_comm i 2]
  exact ⟨a1, a2⟩
set_option maxRecDepth 100000 in
set_option maxHeartbeats 4000000 in
theorem log_hold_room (h : LgIn w o id k b L vr vk vh vu) (hk : L.ok) (p v : Nat) (hp : ∀ x ∈ L.holds, x.1 ≠ p) (hm : L.holds.length < L.mu) :
    Calls Tryz.prog 116 #[.pointer (some ⟨b, 0, none⟩), .agg #[.int .i64 p, .int .i64 v]] w fun e w' => e = .returned (.bool true) ∧
      ∃ vh' o', LgIn w' o' id k b { L with holds := L.holds ++ [(p, v)] } vr vk vh' vu ∧ Stp (fun t => t = (id, k) ∨ t = (id, k + 3)) o o' w w' := by
  have HI := Lib.hid h
  have HP := Lib.hid hp
  have j := h.blk
  have c := h.blk.cell
  have s := h.blk.lt
  obtain ⟨pa, cp, rfl⟩ := h.rh.slc
  have hng : (L.holds.length : Int) < (L.mu : Int) := by omega
  have hlen := Lib.hid (show L.holds.length ≤ 200 by have := hk.h; have := hk.mu; omega)
  have hw := Lib.hid (len_ok2 (n := L.holds.length) (b := 16) (by have := hk.h; have := hk.mu; omega) (by omega))
  obtain ⟨iU, hi, hsI, hyI, hzI⟩ := info_hold
  have hu64 := Tryz.underlying101
  clear h hk hm hp
  go_enter Tryz.func116, Tryz.ntmps116
  go_wp2_with fail
  go_loopw [14] (fun ix wr => ∃ i : Nat, ix = .int .i64 i ∧ i ≤ L.holds.length ∧ Below w.heap.size w wr ∧ Blk wr w.heap.size #[.int .i64 p, .int .i64 v] 108) (fun ix _ => L.holds.length - (intOf ix).toNat)
  case atStart => exact ⟨0, rfl, by omega, balloc (bsame w) _, Blk.new w _ _⟩
  case round =>
    obtain ⟨i, rfl, hil, hbr, jB⟩ := hrel
    clear c s
    have jL := j.below hbr j.lt
    have cL := jL.cell
    have sL := jL.lt
    have cB := jB.cell
    have sB := jB.lt
    have hR := HI.out.rh.below hbr
    by_cases hlt : i < L.holds.length
    · obtain ⟨x, hx⟩ : ∃ x, L.holds[i]? = some x := ⟨_, List.getElem?_eq_getElem hlt⟩
      have hne : (x.1 : Int) ≠ (p : Int) := by have := HP.out x (List.mem_of_getElem? hx); omega
      rcases hR.own.2 with ⟨e1, e2⟩ | ⟨g, cap, cur, e1, _, hg, hn, hc, _⟩
      · omega
      · injection e1 with e1 _ e2
        subst e1 e2
        obtain ⟨c0, c1⟩ := hR.cell2 i x hx
        have sg : g < wr.heap.size := (Array.getElem?_eq_some_iff.1 hg).1
        have hI : (i : Int) < (L.holds.length : Int) := by omega
        have hI2 : (i : Int) < 200 := by have := hlen.out; omega
        unfold nv at c0 c1
        clear hg hR hx hc
        go_wp2_with fail
        go_roundw
        case rel => exact ⟨i + 1, by simp, by omega, balloc hbr _, jB.alloc _⟩
        case measure => simp [intOf]; omega
    · obtain rfl : i = L.holds.length := by omega
      go_upto_region 9 with fail
      go_quiet (fail)
      go_upto_region 11 with fail
      obtain ⟨W, hW⟩ : ∃ W : World, W = wr.drewN nq := ⟨_, rfl⟩
      rw [← hW]
      have hbW : Below w.heap.size w W := by rw [hW]; exact bdrewN hbr _
      have jB : Blk W w.heap.size #[.int .i64 p, .int .i64 v] 108 := by rw [hW]; exact jB.drewN _
      have jL := j.below hbW j.lt
      clear hW hR cL sL cB sB
      have cL := jL.cell
      have sL := jL.lt
      have cB := jB.cell
      have sB := jB.lt
      have rn := (HI.out.rh.below hbW).below (balloc (bdrew (bsame W)) (.cells #[.int .i64 p, .int .i64 v] 108))
      have jn := Blk.new W.drew #[.int .i64 p, .int .i64 v] 108
      have hone := hcells_one [(p, v)]
      have hkeep := fun (w1 : World) (o1 : Own) (hst : Stp (fun t => t = (id, k + 3)) o o1 (W.drew.alloc (.cells #[.int .i64 p, .int .i64 v] 108)) w1) => (Blk.alloc (drewB jL) (.cells #[.int .i64 p, .int .i64 v] 108)).stp hst (by rw [HI.out.ob]; simp)
      have hfin := Lib.hid (fun (w1 : World) (o1 : Own) (pa' : Option Addr) (cp' : Nat) (hown : Row w1 o1 (id, k + 3) 108 2 (.slice pa' (L.holds.length + 1) cp') (L.holds.length + 1) (hcells L.holds ++ [.int .i64 p, .int .i64 v])) (hst : Stp (fun t => t = (id, k + 3)) o o1 (W.drew.alloc (.cells #[.int .i64 p, .int .i64 v] 108)) w1) =>
        show ∃ vh' o', LgIn (w1.setCell ⟨b, 4, none⟩ (.slice pa' (L.holds.length + 1) cp')) o' id k b { L with holds := L.holds ++ [(p, v)] } vr vk vh' vu ∧ Stp (fun t => t = (id, k) ∨ t = (id, k + 3)) o o' w (w1.setCell ⟨b, 4, none⟩ (.slice pa' (L.holds.length + 1) cp')) from by
          have h := HI.out
          have hlt : b < (W.drew.alloc (.cells #[.int .i64 p, .int .i64 v] 108)).heap.size := (Blk.alloc (drewB jL) _).lt
          have ho1 : o1 b = (id, k) := by rw [hst.tags b hlt]; exact h.ob
          have k1 : Stp (fun t => t = (id, k)) o1 o1 w1 (w1.setCell ⟨b, 4, none⟩ (.slice pa' (L.holds.length + 1) cp')) := (Stp.refl _ o1 w1).setCell (by simpa using ho1) _
          have S : Stp (fun t => t = (id, k) ∨ t = (id, k + 3)) o o1 w (w1.setCell ⟨b, 4, none⟩ (.slice pa' (L.holds.length + 1) cp')) :=
            (Stp.of_below (hbW.trans ((balloc (bdrew (bsame W)) _).mono hbW.size))).trans ((hst.mono fun _ e => Or.inr e).trans (k1.mono fun _ e => Or.inl e))
          refine ⟨_, o1, ⟨(hkeep _ _ hst).set 4 _, h.rr.stp S (by simp), h.rk.stp S (by simp), ?_, h.ru.stp S (by simp), ho1⟩, S⟩
          have hr := hown.stp k1 (by simp)
          show Row _ o1 (id, k + 3) 108 2 _ (L.holds ++ [(p, v)]).length (hcells (L.holds ++ [(p, v)]))
          rw [hcells_snoc]
          simpa [nv] using hr)
      go_region_law ((refine step_append_row _ (by rfl) _ _ _ (by rfl) 108 iU _ 2 16 hu64 hi hzI hsI hyI (by rfl) (by decide) o (id, k + 3) _ _ _ (by rfl) rn ⟨W.heap.size, 0, none⟩ 1 1 [.int .i64 p, .int .i64 v] (by rfl) (by rfl) (news_blk jn) hone hw.out.1 hw.out.2 ?_; intro v' w1 hown hst; obtain ⟨pa', cp', rfl⟩ := hown.slc; have jX := hkeep _ _ hst; have cX := jX.cell; have zX := jX.free; have sX := jX.lt))
      all_goals
        go_wp2_with fail
        go_ret
        exact ⟨rfl, hfin.out _ _ _ _ hown hst⟩
set_option maxRecDepth 100000 in
set_option maxHeartbeats 4000000 in
theorem log_hold_full (h : LgIn w o id k b L vr vk vh vu) (hk : L.ok) (p v : Nat) (hp : ∀ x ∈ L.holds, x.1 ≠ p) (hm : L.mu ≤ L.holds.length) :
    Calls Tryz.prog 116 #[.pointer (some ⟨b, 0, none⟩), .agg #[.int .i64 p, .int .i64 v]] w fun e w' => e = .returned (.bool false) ∧ Below w.heap.size w w' := by
  have HI := Lib.hid h
  have HP := Lib.hid hp
  have j := h.blk
  have c := h.blk.cell
  have s := h.blk.lt
  obtain ⟨pa, cp, rfl⟩ := h.rh.slc
  have hng : (L.mu : Int) ≤ (L.holds.length : Int) := by omega
  have hlen := Lib.hid (show L.holds.length ≤ 200 by have := hk.h; have := hk.mu; omega)
  clear h hk hm hp
  go_enter Tryz.func116, Tryz.ntmps116
  go_wp2_with fail
  go_loopw [14] (fun ix wr => ∃ i : Nat, ix = .int .i64 i ∧ i ≤ L.holds.length ∧ Below w.heap.size w wr ∧ Blk wr w.heap.size #[.int .i64 p, .int .i64 v] 108) (fun ix _ => L.holds.length - (intOf ix).toNat)
  case atStart => exact ⟨0, rfl, by omega, balloc (bsame w) _, Blk.new w _ _⟩
  case round =>
    obtain ⟨i, rfl, hil, hbr, jB⟩ := hrel
    clear c s
    have jL := j.below hbr j.lt
    have cL := jL.cell
    have sL := jL.lt
    have cB := jB.cell
    have sB := jB.lt
    have hR := HI.out.rh.below hbr
    by_cases hlt : i < L.holds.length
    · obtain ⟨x, hx⟩ : ∃ x, L.holds[i]? = some x := ⟨_, List.getElem?_eq_getElem hlt⟩
      have hne : (x.1 : Int) ≠ (p : Int) := by have := HP.out x (List.mem_of_getElem? hx); omega
      rcases hR.own.2 with ⟨e1, e2⟩ | ⟨g, cap, cur, e1, _, hg, hn, hc, _⟩
      · omega
      · injection e1 with e1 _ e2
        subst e1 e2
        obtain ⟨c0, c1⟩ := hR.cell2 i x hx
        have sg : g < wr.heap.size := (Array.getElem?_eq_some_iff.1 hg).1
        have hI : (i : Int) < (L.holds.length : Int) := by omega
        have hI2 : (i : Int) < 200 := by have := hlen.out; omega
        unfold nv at c0 c1
        clear hg hR hx hc
        go_wp2_with fail
        go_roundw
        case rel => exact ⟨i + 1, by simp, by omega, balloc hbr _, jB.alloc _⟩
        case measure => simp [intOf]; omega
    · obtain rfl : i = L.holds.length := by omega
      go_upto_region 9 with fail
      go_quiet (fail)
      go_wp2_with fail
      go_ret
      exact ⟨rfl, bdrewN hbr _⟩
theorem bound_any (n : Nat) (h : n ≤ 200) (w : World) : Calls Tryz.prog 127 #[.int .i64 n] w fun e w' => e = .returned (.int .i64 n) ∧ w = w' := by
  have e1 : max (n : Int) 0 = n := by omega
  have e2 : min (n : Int) 200 = n := by omega
  go_enter Tryz.func127, Tryz.ntmps127
  go_wp2_with fail
  go_ret
  exact ⟨rfl, rfl⟩
def Lg.fresh (mr mu : Nat) : Lg := ⟨mr, mu, [], [], [], []⟩
theorem log_new (mr mu : Nat) (h1 : mr ≤ 200) (h2 : mu ≤ 200) (w : World) :
    Calls Tryz.prog 72 #[.int .i64 mr, .int .i64 mu] w fun e w' => e = .returned (.pointer (some ⟨w.heap.size, 0, none⟩)) ∧
      Blk w' w.heap.size #[.int .i64 mr, .int .i64 mu, .slice none 0 0, .slice none 0 0, .slice none 0 0, .slice none 0 0] 159 ∧ Below w.heap.size w w' ∧ w'.heap.size = w.heap.size + 1 := by
  have H1 := Lib.hid (fun w => bound_any mr h1 w)
  have H2 := Lib.hid (fun w => bound_any mu h2 w)
  go_enter Tryz.func72, Tryz.ntmps72
  go_wp2_with fail
  refine (H1.out _).mono ?_
  rintro e w1 ⟨rfl, rfl⟩
  go_wp2_with fail
  refine (H2.out _).mono ?_
  rintro e w1 ⟨rfl, rfl⟩
  go_wp2_with fail
  go_ret
  exact ⟨rfl, Blk.new_at _ _ _ _ _ rfl (by simp), balloc (bsame w) _, by simp⟩
end
end Go.Proofs.YtemohiainfllcaaGreat
