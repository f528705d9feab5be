/- Walks: a new heap. -/
import Derived.Test.YtemohiainfllcaaGreatJj
namespace Go.Proofs.YtemohiainfllcaaGreat
open Go.RowKit Hp
def Hp.fresh (n : Nat) : Hp := ⟨n, false, [], 1, false, [], 1 + n, 0, 0, 0, [], []⟩
theorem HpF.fresh {n : Nat} (h1 : 16 ≤ n) (h2 : n ≤ 16384) : HpF (Hp.fresh n) := by
  refine ⟨⟨⟨h1, h2⟩, rfl, fun x hx => (by cases hx), rfl, fun x hx => (by cases hx), ?_, fun _ => rfl, rfl, ?_, ?_, ?_, fun x hx => (by cases hx)⟩, rfl, rfl, Nat.le_refl _, Nat.le_refl _⟩
  · show 1 + n ≤ Hp.base _ _ + n
    unfold Hp.base Hp.fresh; simp
  · show 1 + 0 ≤ Hp.base _ _ + n
    unfold Hp.base Hp.fresh; simp
  · show 0 ≤ _
    exact Nat.zero_le _
  · show 0 ≤ _
    exact Nat.zero_le _
set_option maxRecDepth 100000 in
theorem hnew_any (n : Nat) (h1 : 16 ≤ n) (h2 : n ≤ 16384) (o : Own) (id : Nat) (w : World) :
    Calls Tryz.prog 69 #[.int .i64 n] w fun e w' => ∃ h a wd o', e = .returned (.tuple #[.pointer (some ⟨h, 0, none⟩), .int .i64 0]) ∧
      HpIn w' o' ⟨id, h, a, wd⟩ (Hp.fresh n) (.slice none 0 0) (.slice none 0 0) (.slice none 0 0) (.slice none 0 0) (fun _ => 0) ∧ Stp (fun _ => False) o o' w w' ∧ w.heap.size ≤ h ∧ (∀ b, w.heap.size ≤ b → (o' b).1 = id) := by
  have HA := Lib.hid (fun w => ar_new (2 * n + 1) (by omega) (by omega) _ rfl w)
  have HM1 := Lib.hid (fun w => smake_any 1 n (by omega) (by omega) 1 n rfl rfl w)
  have HM2 := Lib.hid (fun w => smake_any (1 + n) n (by omega) (by omega) (1 + n) n (by omega) rfl w)
  have e1 : ((2 * n + 1 : Nat) : Int) = 2 * (n : Int) + 1 := by omega
  rw [e1] at HA
  clear e1
  go_enter Tryz.func69, Tryz.ntmps69
  go_wp2_with fail
  refine (HA.out _).mono ?_
  rintro e w1 ⟨a, wd, rfl, hW, ha, hwd, hb1⟩
  go_wp2_with fail
  refine (HM1.out _).mono ?_
  rintro e w2 ⟨rfl, hb2⟩
  have hb02 := btrans hb1 hb2
  have hW2 := hW.below hb2
  clear hb2 hb1 hW
  go_wp2_with fail
  refine (HM2.out _).mono ?_
  rintro e w3 ⟨rfl, hb3⟩
  have jA := (Blk.new w2 #[.int .i64 1, .int .i64 n, .int .i64 1] 150).below hb3 (by simp)
  have hW3 := hW2.below (btrans (balloc (bsame w2) _) hb3)
  have hb03 := btrans hb02 (btrans (balloc (bsame w2) (.cells #[.int .i64 1, .int .i64 n, .int .i64 1] 150)) hb3)
  clear hW2 hb02 hb3
  have cA := jA.cell
  have sA := jA.lt
  go_wp2_with fail
  go_ret2
  have hle : w.heap.size ≤ w3.heap.size := hb03.size
  have la := hW3.arena.lt
  have lwd := hW3.lt
  have nawd := hW3.ne
  refine ⟨w3.heap.size + 1, a, wd, fun b => if b < w.heap.size then o b else if b = w3.heap.size + 1 then (id, 0) else if b = a then (id, 1) else if b = wd then (id, 2) else (id, 9), rfl, ?_, ?_, by omega, ?_⟩
  · refine ⟨?_, (hW3.below (balloc (balloc (bsame w3) _) _)), Row.nil _ _ _ _ _, Row.nil _ _ _ _ _, Row.nil _ _ _ _ _, Row.nil _ _ _ _ _, ?_, ?_, ?_, fun x hx => (by cases hx), fun x hx => (by cases hx)⟩
    · refine Blk.new_at _ _ _ _ _ (by simp) ?_
      unfold Hp.cells Hp.fresh
      simp
    · show (if w3.heap.size + 1 < w.heap.size then _ else _) = _
      rw [if_neg (by omega), if_pos rfl]
    · show (if a < w.heap.size then _ else if a = w3.heap.size + 1 then _ else _) = _
      rw [if_neg (by omega), if_neg (by omega), if_pos rfl]
    · show (if wd < w.heap.size then _ else if wd = w3.heap.size + 1 then _ else if wd = a then _ else _) = _
      rw [if_neg (by omega), if_neg (by omega), if_neg (by omega), if_pos rfl]
  · have hB := balloc (balloc hb03 (.cells #[.int .i64 (1 + (n : Int)), .int .i64 n, .int .i64 (1 + (n : Int))] 150)) (.cells #[.pointer (some ⟨a, 0, none⟩), .int .i64 1, .int .i64 n, .int .i64 1, .int .i64 (1 + (n : Int)), .int .i64 n, .int .i64 (1 + (n : Int)), .slice none 0 0, .slice none 0 0, .int .i64 0, .bool false, .int .i64 0, .int .i64 0, .int .i64 0, .slice none 0 0, .slice none 0 0] 154)
    exact ⟨hB.os, hB.tape, hB.output, hB.size, fun b hb => if_pos hb, fun b hb _ => hB.block b hb⟩
  · intro b hb
    show (if _ then _ else _ : Tag).1 = _
    rw [if_neg (by omega)]
    repeat' split
    all_goals rfl
end Go.Proofs.YtemohiainfllcaaGreat

/- Contracts of slices.Clone at the log's types, laid as the kit's tool lays them; owned rows cloned. -/
namespace Go.Proofs.YtemohiainfllcaaGreat
open Go.RowKit Go.Lib Go.Shelf Hp
def cloneHold_ren : Go.Shelf.Ren := ⟨fun | 41 => 103 | n => n, fun | 22 => 101 | 23 => 108 | 4 => 4 | n => n, fun | n => n⟩
theorem cloneHold_lay : Go.Proofs.SlLaysE0.n41 Tryz.prog cloneHold_ren := {
  mixed := by kernel_rfl
  f41 := ⟨Tryz.f103.name, by decide, Tryz.func103.trans (congrArg some (by kernel_rfl))⟩
  t4 := Tryz.underlying4
  a4 := Tryz.isAgg4
  z4 := Tryz.sizeOf4
  v4 := Tryz.zeroValue4
  t22 := Tryz.underlying101
  a22 := Tryz.isAgg101
  z22 := Tryz.sizeOf101
  v22 := Tryz.zeroValue101 }
def cloneUndo_ren : Go.Shelf.Ren := ⟨fun | 41 => 168 | n => n, fun | 22 => 157 | 23 => 96 | 4 => 4 | n => n, fun | n => n⟩
theorem cloneUndo_lay : Go.Proofs.SlLaysE0.n41 Tryz.prog cloneUndo_ren := {
  mixed := by kernel_rfl
  f41 := ⟨Tryz.f168.name, by decide, Tryz.func168.trans (congrArg some (by kernel_rfl))⟩
  t4 := Tryz.underlying4
  a4 := Tryz.isAgg4
  z4 := Tryz.sizeOf4
  v4 := Tryz.zeroValue4
  t22 := Tryz.underlying157
  a22 := Tryz.isAgg157
  z22 := Tryz.sizeOf157
  v22 := Tryz.zeroValue157 }
theorem info_parts {t : TypeId} {z : Value} {s b : Nat} (h : ((Tryz.prog.info? t).map fun i => (i.zero, i.size, i.bytes)) = some (some z, s, b)) : ∃ i, Tryz.prog.info? t = some i ∧ i.size = s ∧ i.bytes = b ∧ i.zero = some z := by
  obtain ⟨i, hi, he⟩ := Option.map_eq_some_iff.1 h
  injection he with e1 e2
  injection e2 with e2 e3
  exact ⟨i, hi, e2, e3, e1⟩
theorem info_hold : ∃ i, Tryz.prog.info? 108 = some i ∧ i.size = 2 ∧ i.bytes = 16 ∧ i.zero = some (.agg #[.int .i64 0, .int .i64 0]) := info_parts (by kernel_rfl)
theorem info_undo : ∃ i, Tryz.prog.info? 96 = some i ∧ i.size = 4 ∧ i.bytes = 32 ∧ i.zero = some (.agg #[.int .i64 0, .int .i64 0, .int .i64 0, .int .i64 0]) := info_parts (by kernel_rfl)
theorem row_of_owns {w w' : World} {o : Own} {t : Tag} {e : TypeId} {size n : Nat} {v : Value} {xs : List Value} (h : w'.ownsRow w.heap.size e size v n xs) : Row w' (ext o w.heap.size t) t e size v n xs := by
  refine ⟨⟨h.1, ?_⟩, fun k hk => ?_⟩
  · rcases h.2 with hv | ⟨g, cap, cur, hv, hb, hg⟩
    · exact .inl hv
    · exact .inr ⟨g, cap, cur, hv, Nat.zero_le _, hg⟩
  · rcases h.2 with ⟨rfl, _⟩ | ⟨g, cap, cur, rfl, hb, hg⟩
    · simp [Value.ownBlock] at hk
    · have : g = k := by simpa [Value.ownBlock] using hk
      subst this
      exact ext_ge hb
section
variable {w : World} {o : Own} {t : Tag} {v : Value} {n : Nat} {xs : List Value}
theorem clone_hold (h : Row w o t 108 2 v n xs) (hn : n ≤ 100000) (h1 : ∀ u ∈ xs, u.oneCell' = true) (tg : Tag) :
    Calls Tryz.prog 103 #[v] w fun e w' => ∃ v', e = .returned v' ∧ Row w' (ext o w.heap.size tg) tg 108 2 v' n xs ∧ Below w.heap.size w w' := by
  obtain ⟨i, hi, hs, hb, hz⟩ := info_hold
  rcases h.own.2 with ⟨rfl, rfl⟩ | ⟨g, cap, cur, rfl, _⟩
  · have hx : xs = [] := List.eq_nil_of_length_eq_zero (by simpa using h.len)
    subst hx
    refine (AnyE.slices_Clone_nil cloneHold_lay 0 0 w).mono ?_
    rintro e w' ⟨rfl, rfl⟩
    exact ⟨_, rfl, Row.nil _ _ _ _ _, bsame _⟩
  · refine (AnyE.slices_Clone cloneHold_lay i _ 2 16 hi hz hs hb rfl (by decide) Tryz.sizeOf108 g 0 n cap xs w h.len (by simp only [maxLen]; omega) (by omega) (fun j u hu => ?_) h1).mono ?_
    · have := h.own.cells (g := g) rfl j u hu
      rw [Nat.zero_add]
      rwa [show (⟨g, 0, none⟩ : Addr).add j = ⟨g, j, none⟩ from by unfold Addr.add; split <;> simp_all] at this
    · rintro e w' ⟨v', rfl, ho, _, hb⟩
      exact ⟨v', rfl, row_of_owns ho, hb⟩
theorem clone_undo (h : Row w o t 96 4 v n xs) (hn : n ≤ 100000) (h1 : ∀ u ∈ xs, u.oneCell' = true) (tg : Tag) :
    Calls Tryz.prog 168 #[v] w fun e w' => ∃ v', e = .returned v' ∧ Row w' (ext o w.heap.size tg) tg 96 4 v' n xs ∧ Below w.heap.size w w' := by
  obtain ⟨i, hi, hs, hb, hz⟩ := info_undo
  rcases h.own.2 with ⟨rfl, rfl⟩ | ⟨g, cap, cur, rfl, _⟩
  · have hx : xs = [] := List.eq_nil_of_length_eq_zero (by simpa using h.len)
    subst hx
    refine (AnyE.slices_Clone_nil cloneUndo_lay 0 0 w).mono ?_
    rintro e w' ⟨rfl, rfl⟩
    exact ⟨_, rfl, Row.nil _ _ _ _ _, bsame _⟩
  · refine (AnyE.slices_Clone cloneUndo_lay i _ 4 32 hi hz hs hb rfl (by decide) Tryz.sizeOf96 g 0 n cap xs w h.len (by simp only [maxLen]; omega) (by omega) (fun j u hu => ?_) h1).mono ?_
    · have := h.own.cells (g := g) rfl j u hu
      rw [Nat.zero_add]
      rwa [show (⟨g, 0, none⟩ : Addr).add j = ⟨g, j, none⟩ from by unfold Addr.add; split <;> simp_all] at this
    · rintro e w' ⟨v', rfl, ho, _, hb⟩
      exact ⟨v', rfl, row_of_owns ho, hb⟩
theorem clone_int (h : Row w o t 3 1 v n xs) (hn : n ≤ 100000) (h1 : ∀ u ∈ xs, u.oneCell' = true) (tg : Tag) :
    Calls Tryz.prog 83 #[v] w fun e w' => ∃ v', e = .returned v' ∧ Row w' (ext o w.heap.size tg) tg 3 1 v' n xs ∧ Below w.heap.size w w' := by
  obtain ⟨i, hi, hs, hb, hz⟩ := info_int
  rcases h.own.2 with ⟨rfl, rfl⟩ | ⟨g, cap, cur, rfl, _⟩
  · have hx : xs = [] := List.eq_nil_of_length_eq_zero (by simpa using h.len)
    subst hx
    refine (Tryz.slices_Clone_nil 0 0 w).mono ?_
    rintro e w' ⟨rfl, rfl⟩
    exact ⟨_, rfl, Row.nil _ _ _ _ _, bsame _⟩
  · refine (Tryz.slices_Clone i _ 1 8 hi hz hs hb rfl (by decide) Tryz.sizeOf3 g 0 n cap xs w h.len (by simp only [maxLen]; omega) (by omega) (fun j u hu => ?_) h1).mono ?_
    · have := h.own.cells (g := g) rfl j u hu
      rw [Nat.zero_add]
      rwa [show (⟨g, 0, none⟩ : Addr).add j = ⟨g, j, none⟩ from by unfold Addr.add; split <;> simp_all] at this
    · rintro e w' ⟨v', rfl, ho, _, hb⟩
      exact ⟨v', rfl, row_of_owns ho, hb⟩
/-- Is a number in an owned row? -/
theorem contains_any (ps : List Nat) (h : Row w o t 3 1 v ps.length (ps.map nv)) (hl : ps.length ≤ 100000) (x : Nat) (z : Int) (hz : z = x) :
    Calls Tryz.prog 202 #[v, .int .i64 z] w fun e w' => e = .returned (.bool (decide (x ∈ ps))) ∧ w = w' := by
  subst hz
  rcases h.form with ⟨rfl, h0⟩ | ⟨g, cap, rfl, hn, hc, _, _⟩
  · have : ps = [] := List.eq_nil_of_length_eq_zero h0
    subst this
    refine (Tryz.slices_Contains_int_empty none 0 x w).mono ?_
    rintro e w' ⟨rfl, rfl⟩
    exact ⟨by simp, rfl⟩
  · refine (Tryz.slices_Contains_int g 0 ps.length cap (ps.map fun (p : Nat) => (p : Int)) x w (by simp) (by omega) ?_).mono ?_
    · intro j hj
      have hj' : j < ps.length := by simpa using hj
      rw [Nat.zero_add]
      refine h.cells j _ ?_
      rw [List.getElem?_map, List.getElem?_eq_getElem hj']
      simp [nv, List.getD, List.getElem?_eq_getElem hj']
    · rintro e w' ⟨rfl, rfl⟩
      rw [List.take_of_length_le (by simp)]
      refine ⟨?_, rfl⟩
      have e : ((ps.map fun (p : Nat) => (p : Int)).contains (x : Int)) = decide (x ∈ ps) := by
        rw [Bool.eq_iff_iff]
        simp only [List.contains_eq_mem, List.mem_map, decide_eq_true_eq]
        exact ⟨fun ⟨a, ha, e⟩ => by rw [show x = a by omega]; exact ha, fun h => ⟨x, h, rfl⟩⟩
      rw [e]
end
end Go.Proofs.YtemohiainfllcaaGreat
