/- Walks: objects changed, laid. -/
import Derived.Test.YtemohiainfllcaaGreatJd
namespace Go.Proofs.YtemohiainfllcaaGreat
open Go.RowKit Hp
variable {w : World} {a wd L : Nat} {f : Nat → Nat} {at' : Nat} {o : Ob}
theorem to_any (v : Nat) (w : World) : Calls Tryz.prog 154 #[.int .u64 v] w fun e w' => e = .returned (.func (.func 199) #[] #[.pointer (some ⟨w.heap.size, 0, none⟩)]) ∧ w' = w.alloc (.cells #[.int .u64 v] 160) := by
  go_enter Tryz.func154, Tryz.ntmps154
  go_wp2_with fail
  go_ret
  exact ⟨rfl, rfl⟩
theorem to1_any {c v : Nat} (h : Blk w c #[.int .u64 v] 160) (x : Value) : Calls Tryz.prog 199 #[x, .pointer (some ⟨c, 0, none⟩)] w fun e w' => e = .returned (.int .u64 v) ∧ w = w' := by
  have hc : w.cell? ⟨c, 0, none⟩ = some (.int .u64 v) := h.cell 0
  clear h
  go_enter Tryz.func199, Tryz.ntmps199
  go_wp2_with fail
  go_ret
  exact ⟨rfl, rfl⟩
/-- Word at' is v from then on. -/
def Turned (w w' : World) (a wd L : Nat) (f' : Nat → Nat) : Prop := Wds w' a wd L f' ∧ Wr wd w w'
theorem change_any (h : Wds w a wd L f) (i v c : Nat) (hi : i < L) (hc : Blk w c #[.int .u64 v] 160) (z : Int) (hz : z = i) :
    Calls Tryz.prog 153 #[.pointer (some ⟨a, 0, none⟩), .int .i64 z, .func (.func 199) #[] #[.pointer (some ⟨c, 0, none⟩)]] w fun e w' => e = .returned (.int .i64 0) ∧ Turned w w' a wd L (upd f i v) := by
  subst hz
  have HL := Lib.hid (ar_load h i i rfl hi)
  have HS := Lib.hid (ar_store h i i v rfl hi v rfl)
  have HT := Lib.hid (fun x => to1_any hc x)
  clear h hc
  go_enter Tryz.func153, Tryz.ntmps153
  go_wp2_with fail
  refine HL.out.mono ?_
  rintro e w1 ⟨rfl, rfl⟩
  go_wp2_with fail
  refine (HT.out _).mono ?_
  rintro e w1 ⟨rfl, rfl⟩
  go_wp2_with fail
  refine HS.out.mono ?_
  rintro e w1 ⟨rfl, hs⟩
  go_wp2_with fail
  go_ret
  exact ⟨rfl, hs⟩
theorem Turned.after {w w1 w' : World} {f' : Nat → Nat} (hb : Below w.heap.size w w1) (h : Turned w1 w' a wd L f') : Turned w w' a wd L f' := ⟨h.1, (Wr.of_below hb).trans h.2⟩
/-- Pointer i made another one. -/
theorem osetptr_any (h : Wds w a wd L f) (ho : ObAt f at' o) (hk : o.ok) (hl : at' + o.size ≤ L) (i x : Nat) (hi : i < o.shp.p) (hx : x ≤ 131072) (z u y : Int) (hz : z = at') (hu : u = i) (hy : y = x) :
    Calls Tryz.prog 114 #[.pointer (some ⟨a, 0, none⟩), .int .i64 z, .int .i64 u, .int .i64 y] w fun e w' => e = .returned (.int .i64 0) ∧ Turned w w' a wd L (upd f (at' + 3 + i) x) := by
  have HF := Lib.hid (field_any h ho hk hl i _ _ _ (fun w => optr_in o.shp hk.shp at' i (Ob.room hk hl h) hi w) eg_ptr)
  have hs : at' + 3 + i < L := by unfold Ob.size at hl; omega
  have HW := Lib.hid h
  subst hz hu hy
  clear ho h hk hl hi
  go_enter Tryz.func114, Tryz.ntmps114
  go_wp2_with fail
  refine HF.out.mono ?_
  rintro e w1 ⟨rfl, hb1⟩
  go_wp2_with fail
  refine (to_any x _).mono ?_
  rintro e w2 ⟨rfl, rfl⟩
  go_wp2_with fail
  refine (change_any (HW.out.below (balloc hb1 _)) (at' + 3 + i) x w1.heap.size hs (Blk.new w1 _ _) _ (by omega)).mono ?_
  rintro e w3 ⟨rfl, hT⟩
  go_wp2_with fail
  go_ret
  exact ⟨rfl, hT.after (balloc hb1 _)⟩
theorem osetptr_no (h : Wds w a wd L f) (ho : ObAt f at' o) (hk : o.ok) (hl : at' + o.size ≤ L) (i : Nat) (hi : o.shp.p ≤ i) (z u y : Int) (hz : z = at') (hu : u = i) :
    Calls Tryz.prog 114 #[.pointer (some ⟨a, 0, none⟩), .int .i64 z, .int .i64 u, .int .i64 y] w fun e w' => e = .returned (.int .i64 71) ∧ Below w.heap.size w w' := by
  have HF := Lib.hid (field_any h ho hk hl i _ _ _ (fun w => optr_out o.shp hk.shp at' i hi w) eg_ptr)
  subst hz hu
  clear ho h hk hl hi
  go_enter Tryz.func114, Tryz.ntmps114
  go_wp2_with fail
  refine HF.out.mono ?_
  rintro e w1 ⟨rfl, hb1⟩
  go_wp2_with fail
  go_ret
  exact ⟨rfl, hb1⟩
/-- Number i made another one. -/
theorem osetnum_any (h : Wds w a wd L f) (ho : ObAt f at' o) (hk : o.ok) (hl : at' + o.size ≤ L) (i : Nat) (n : Int) (hi : i < o.shp.d) (hn : -9223372036854775808 ≤ n ∧ n ≤ 9223372036854775807) (z u : Int) (hz : z = at') (hu : u = i) :
    Calls Tryz.prog 102 #[.pointer (some ⟨a, 0, none⟩), .int .i64 z, .int .i64 u, .int .i64 n] w fun e w' => e = .returned (.int .i64 0) ∧ Turned w w' a wd L (upd f (at' + 3 + o.shp.p + i) (zig n).toNat) := by
  have HF := Lib.hid (field_any h ho hk hl i _ _ _ (fun w => onum_in o.shp hk.shp at' i (Ob.room hk hl h) hi w) eg_num)
  have hs : at' + 3 + o.shp.p + i < L := by unfold Ob.size at hl; omega
  have HZ := Lib.hid (fun w => zig_any n hn w)
  have hzb := zig_bd hn
  have HW := Lib.hid h
  generalize o.shp.p = p at *
  obtain ⟨v, hv⟩ : ∃ v : Nat, zig n = v := ⟨(zig n).toNat, by omega⟩
  rw [hv] at HZ ⊢
  rw [Int.toNat_natCast]
  obtain ⟨hn1, hn2⟩ := hn
  subst hz hu
  clear ho h hk hl hi hv hzb
  go_enter Tryz.func102, Tryz.ntmps102
  go_wp2_with fail
  refine HF.out.mono ?_
  rintro e w1 ⟨rfl, hb1⟩
  go_wp2_with fail
  refine (HZ.out _).mono ?_
  rintro e w2 ⟨rfl, rfl⟩
  go_wp2_with fail
  refine (to_any v _).mono ?_
  rintro e w2 ⟨rfl, rfl⟩
  go_wp2_with fail
  refine (change_any (HW.out.below (balloc hb1 _)) (at' + 3 + p + i) v w1.heap.size hs (Blk.new w1 _ _) _ (by omega)).mono ?_
  rintro e w3 ⟨rfl, hT⟩
  go_wp2_with fail
  go_ret
  exact ⟨rfl, hT.after (balloc hb1 _)⟩
theorem osetnum_no (h : Wds w a wd L f) (ho : ObAt f at' o) (hk : o.ok) (hl : at' + o.size ≤ L) (i : Nat) (hi : o.shp.d ≤ i) (z u n : Int) (hz : z = at') (hu : u = i) :
    Calls Tryz.prog 102 #[.pointer (some ⟨a, 0, none⟩), .int .i64 z, .int .i64 u, .int .i64 n] w fun e w' => e = .returned (.int .i64 71) ∧ Below w.heap.size w w' := by
  have HF := Lib.hid (field_any h ho hk hl i _ _ _ (fun w => onum_out o.shp hk.shp at' i hi w) eg_num)
  subst hz hu
  clear ho h hk hl hi
  go_enter Tryz.func102, Tryz.ntmps102
  go_wp2_with fail
  refine HF.out.mono ?_
  rintro e w1 ⟨rfl, hb1⟩
  go_wp2_with fail
  go_ret
  exact ⟨rfl, hb1⟩
theorem osetsecond_any (h : Wds w a wd L f) (ho : ObAt f at' o) (hk : o.ok) (hl : at' + o.size ≤ L) (v : Nat) (z u : Int) (hz : z = at') (hu : u = v) :
    Calls Tryz.prog 159 #[.pointer (some ⟨a, 0, none⟩), .int .i64 z, .int .u64 u] w fun e w' => e = .returned (.int .i64 0) ∧ Turned w w' a wd L (upd f (at' + 1) v) := by
  have HS := Lib.hid (oshape_any h ho hk hl z hz)
  have hs : at' + 1 < L := by unfold Ob.size at hl; omega
  have h9 := h.le
  have HW := Lib.hid h
  obtain ⟨⟨p, d, wk, fn⟩, fr, se, sr, ps, ns⟩ := o
  simp only at HS
  subst hz hu
  clear ho h hk hl
  go_enter Tryz.func159, Tryz.ntmps159
  go_wp2_with fail
  refine HS.out.mono ?_
  rintro e w1 ⟨rfl, hb1⟩
  go_wp2_with fail
  refine (to_any v _).mono ?_
  rintro e w2 ⟨rfl, rfl⟩
  go_wp2_with fail
  refine (change_any (HW.out.below (balloc (balloc hb1 _) _)) (at' + 1) v _ hs (Blk.new_at _ _ _ _ _ (by simp) rfl) _ (by omega)).mono ?_
  rintro e w3 ⟨rfl, hT⟩
  go_wp2_with fail
  go_ret
  exact ⟨rfl, hT.after (balloc (balloc hb1 _) _)⟩
theorem osetfreed_any (h : Wds w a wd L f) (ho : ObAt f at' o) (hk : o.ok) (hl : at' + o.size ≤ L) (b : Bool) (z : Int) (hz : z = at') :
    Calls Tryz.prog 118 #[.pointer (some ⟨a, 0, none⟩), .int .i64 z, .bool b] w fun e w' => e = .returned (.int .i64 0) ∧ Turned w w' a wd L (upd f at' (head o.shp b)) := by
  have HS := Lib.hid (oshape_any h ho hk hl z hz)
  have hs : at' < L := by unfold Ob.size at hl; omega
  have HH := Lib.hid (fun w => hhead_any o.shp hk.shp b w)
  have h9 := h.le
  have HW := Lib.hid h
  obtain ⟨⟨p, d, wk, fn⟩, fr, se, sr, ps, ns⟩ := o
  simp only at HS HH ⊢
  generalize head ⟨p, d, wk, fn⟩ b = q at *
  subst hz
  clear ho h hk hl
  go_enter Tryz.func118, Tryz.ntmps118
  go_wp2_with fail
  refine HS.out.mono ?_
  rintro e w1 ⟨rfl, hb1⟩
  go_wp2_with fail
  refine (HH.out _).mono ?_
  rintro e w2 ⟨rfl, hb2⟩
  have hb2' := btrans (balloc hb1 _) hb2
  clear hb2
  go_wp2_with fail
  refine (to_any q _).mono ?_
  rintro e w3 ⟨rfl, rfl⟩
  go_wp2_with fail
  refine (change_any (HW.out.below (balloc hb2' _)) at' q _ hs (Blk.new_at _ _ _ _ _ (by simp) rfl) _ (by omega)).mono ?_
  rintro e w4 ⟨rfl, hT⟩
  go_wp2_with fail
  go_ret
  exact ⟨rfl, hT.after (balloc hb2' _)⟩
/-- An object laid: its head, its second word, its serial; all else is 0. -/
def laidF (f : Nat → Nat) (at' : Nat) (s : Shp) (sr : Nat) : Nat → Nat := upd (upd (upd (fil f at' (3 + s.p + s.d) 0) at' (head s false)) (at' + 1) 0) (at' + 2) sr
theorem omake_any (h : Wds w a wd L f) (s : Shp) (hs : s.ok) (hl : at' + (3 + s.p + s.d) ≤ L) (sr : Nat) (hsr : sr ≤ 1099511627776) (z u : Int) (hz : z = at') (hu : u = sr) :
    Calls Tryz.prog 198 #[.pointer (some ⟨a, 0, none⟩), .int .i64 z, shpV s, .int .i64 u] w fun e w' => e = .returned (.int .i64 0) ∧ Turned w w' a wd L (laidF f at' s sr) := by
  have HZ := Lib.hid (fun w => hsize_any s hs w)
  have HH := Lib.hid (fun w => hhead_any s hs false w)
  obtain ⟨hs1, hs2, _⟩ := hs
  have h9 := h.le
  have HW := Lib.hid h
  have hlt : at' + 2 < L := by omega
  unfold laidF
  generalize head s false = q at *
  obtain ⟨p, d, wk, fn⟩ := s
  simp only at HZ HH hs1 hs2 hl ⊢
  subst hz hu
  have HLL := Lib.hid hl
  clear h hl
  go_enter Tryz.func198, Tryz.ntmps198
  go_wp2_with fail
  refine (HZ.out _).mono ?_
  rintro e w1 ⟨rfl, hb1⟩
  have jS : Blk w1 w.heap.size #[.int .i64 p, .int .i64 d, .bool wk, .bool fn] 80 := (Blk.new w _ _).below hb1 (by simp)
  have hw1 := btrans (balloc (bsame w) _) hb1
  clear hb1
  go_wp2_with fail
  refine (ar_fill (HW.out.below hw1) at' (3 + p + d) 0 _ _ _ rfl rfl rfl HLL.out).mono ?_
  rintro e w2 ⟨rfl, hW2, hr2⟩
  have hwd := HW.out.lt
  have jS2 := jS.wr hr2 (by omega)
  have cS := jS2.cell
  have sS := jS2.lt
  have hr := (Wr.of_below hw1).trans hr2
  clear jS hr2 hw1
  go_wp2_with fail
  refine (HH.out _).mono ?_
  rintro e w3 ⟨rfl, hb3⟩
  have hW3 := hW2.below hb3
  have hr3 := hr.below_then hb3
  clear hb3 hW2 hr cS sS jS2
  go_wp2_with fail
  refine (free_any 0 (by omega) _).mono ?_
  rintro e w4 ⟨rfl, rfl⟩
  go_wp2_with fail
  refine (ar_store hW3 _ at' q rfl (by omega) _ rfl).mono ?_
  rintro e w4 ⟨rfl, hW4, hr4⟩
  go_wp2_with fail
  refine (ar_store hW4 _ (at' + 1) 0 (by omega) (by omega) _ rfl).mono ?_
  rintro e w5 ⟨rfl, hW5, hr5⟩
  go_wp2_with fail
  refine (ar_store hW5 _ (at' + 2) sr (by omega) (by omega) _ rfl).mono ?_
  rintro e w6 ⟨rfl, hW6, hr6⟩
  go_wp2_with fail
  go_ret
  exact ⟨rfl, hW6, ((hr3.trans hr4).trans hr5).trans hr6⟩
end Go.Proofs.YtemohiainfllcaaGreat

/- Plain terms: a heap's objects, where they lie, what a change of a word leaves alone. -/
namespace Go.Proofs.YtemohiainfllcaaGreat
open Hp
theorem rnd_ge (n : Nat) (h : n ≤ 19) : n ≤ rnd n ∧ 4 ≤ rnd n ∧ rnd n ≤ 24 := by
  unfold rnd; repeat' split
  all_goals omega
/-- An object stands as it stood, if none of its words has turned. -/
theorem ObAt.of_eq {f f' : Nat → Nat} {p : Nat} {o : Ob} (h : ObAt f p o) (hk : o.ok) (he : ∀ j, p ≤ j → j < p + o.size → f' j = f j) : ObAt f' p o := by
  have hs := Ob.size_bd hk
  unfold Ob.size at he hs
  refine ⟨?_, ?_, ?_, fun j x hx => ?_, fun j n hn => ?_⟩
  · rw [he p (by omega) (by omega)]; exact h.h0
  · rw [he (p + 1) (by omega) (by omega)]; exact h.h1
  · rw [he (p + 2) (by omega) (by omega)]; exact h.h2
  · have := (List.getElem?_eq_some_iff.1 hx).1
    rw [hk.lp] at this
    rw [he (p + 3 + j) (by omega) (by omega)]; exact h.hp j x hx
  · have := (List.getElem?_eq_some_iff.1 hn).1
    rw [hk.ln] at this
    rw [he (p + 3 + o.shp.p + j) (by omega) (by omega)]; exact h.hn j n hn
def Ob.setPtr (o : Ob) (i x : Nat) : Ob := { o with ptrs := o.ptrs.set i x }
def Ob.setNum (o : Ob) (i : Nat) (n : Int) : Ob := { o with nums := o.nums.set i n }
def Ob.setFreed (o : Ob) (b : Bool) : Ob := { o with freed := b }
def Ob.setSecond (o : Ob) (v : Nat) : Ob := { o with second := v }
theorem mem_set {α : Type} {l : List α} {i : Nat} {x y : α} (h : y ∈ l.set i x) : y ∈ l ∨ y = x := by
  rcases List.mem_or_eq_of_mem_set h with h | h
  · exact .inl h
  · exact .inr h
theorem Ob.setPtr_ok {o : Ob} (h : o.ok) (i x : Nat) (hx : x ≤ 131072) : (o.setPtr i x).ok :=
  ⟨h.shp, by simp [Ob.setPtr, h.lp], h.ln, fun y hy => (mem_set hy).elim (h.ptr y) (fun e => by rw [e]; exact hx), h.num, h.ser, h.sec⟩
theorem Ob.setNum_ok {o : Ob} (h : o.ok) (i : Nat) (n : Int) (hn : -9223372036854775808 ≤ n ∧ n ≤ 9223372036854775807) : (o.setNum i n).ok :=
  ⟨h.shp, h.lp, by simp [Ob.setNum, h.ln], h.ptr, fun y hy => (mem_set hy).elim (h.num y) (fun e => by rw [e]; exact hn), h.ser, h.sec⟩
theorem Ob.setFreed_ok {o : Ob} (h : o.ok) (b : Bool) : (o.setFreed b).ok := ⟨h.shp, h.lp, h.ln, h.ptr, h.num, h.ser, h.sec⟩
theorem Ob.setSecond_ok {o : Ob} (h : o.ok) (v : Nat) (hv : v ≤ 2199023255552) : (o.setSecond v).ok := ⟨h.shp, h.lp, h.ln, h.ptr, h.num, h.ser, hv⟩
theorem ObAt.setPtr {f : Nat → Nat} {p : Nat} {o : Ob} (h : ObAt f p o) (hk : o.ok) (i x : Nat) (hi : i < o.shp.p) : ObAt (upd f (p + 3 + i) x) p (o.setPtr i x) := by
  refine ⟨?_, ?_, ?_, fun j y hy => ?_, fun j n hn => ?_⟩
  · rw [upd_ne _ _ _ _ (by omega)]; exact h.h0
  · rw [upd_ne _ _ _ _ (by omega)]; exact h.h1
  · rw [upd_ne _ _ _ _ (by omega)]; exact h.h2
  · simp only [Ob.setPtr, List.getElem?_set] at hy
    by_cases e : i = j
    · subst e
      have hl : i < o.ptrs.length := by rw [hk.lp]; exact hi
      simp [hl] at hy
      rw [← hy]; exact upd_at _ _ _
    · rw [if_neg e] at hy
      rw [upd_ne _ _ _ _ (by omega)]; exact h.hp j y hy
  · have : (o.setPtr i x).shp.p = o.shp.p := rfl
    rw [this, upd_ne _ _ _ _ (by omega)]; exact h.hn j n hn
theorem ObAt.setNum {f : Nat → Nat} {p : Nat} {o : Ob} (h : ObAt f p o) (hk : o.ok) (i : Nat) (n : Int) (hi : i < o.shp.d) (hn : -9223372036854775808 ≤ n ∧ n ≤ 9223372036854775807) :
    ObAt (upd f (p + 3 + o.shp.p + i) (zig n).toNat) p (o.setNum i n) := by
  refine ⟨?_, ?_, ?_, fun j y hy => ?_, fun j m hm => ?_⟩
  · rw [upd_ne _ _ _ _ (by omega)]; exact h.h0
  · rw [upd_ne _ _ _ _ (by omega)]; exact h.h1
  · rw [upd_ne _ _ _ _ (by omega)]; exact h.h2
  · have := (List.getElem?_eq_some_iff.1 hy).1
    have e : (o.setNum i n).ptrs = o.ptrs := rfl
    rw [e, hk.lp] at this
    rw [upd_ne _ _ _ _ (by omega)]; exact h.hp j y hy
  · have e1 : (o.setNum i n).shp.p = o.shp.p := rfl
    rw [e1]
    simp only [Ob.setNum, List.getElem?_set] at hm
    by_cases e : i = j
    · subst e
      have hl : i < o.nums.length := by rw [hk.ln]; exact hi
      simp [hl] at hm
      rw [← hm, upd_at]
      have := zig_bd hn
      omega
    · rw [if_neg e] at hm
      rw [upd_ne _ _ _ _ (by omega)]; exact h.hn j m hm
theorem ObAt.setFreed {f : Nat → Nat} {p : Nat} {o : Ob} (h : ObAt f p o) (b : Bool) : ObAt (upd f p (head o.shp b)) p (o.setFreed b) := by
  refine ⟨upd_at _ _ _, ?_, ?_, fun j y hy => ?_, fun j n hn => ?_⟩
  · rw [upd_ne _ _ _ _ (by omega)]; exact h.h1
  · rw [upd_ne _ _ _ _ (by omega)]; exact h.h2
  · rw [upd_ne _ _ _ _ (by omega)]; exact h.hp j y hy
  · rw [upd_ne _ _ _ _ (by omega)]; exact h.hn j n hn
theorem ObAt.setSecond {f : Nat → Nat} {p : Nat} {o : Ob} (h : ObAt f p o) (v : Nat) : ObAt (upd f (p + 1) v) p (o.setSecond v) := by
  refine ⟨?_, upd_at _ _ _, ?_, fun j y hy => ?_, fun j n hn => ?_⟩
  · rw [upd_ne _ _ _ _ (by omega)]; exact h.h0
  · rw [upd_ne _ _ _ _ (by omega)]; exact h.h2
  · rw [upd_ne _ _ _ _ (by omega)]; exact h.hp j y hy
  · rw [upd_ne _ _ _ _ (by omega)]; exact h.hn j n hn
/-- A new object. -/
def Ob.new (s : Shp) (sr : Nat) : Ob := ⟨s, false, 0, sr, List.replicate s.p 0, List.replicate s.d 0⟩
theorem Ob.new_ok {s : Shp} (h : s.ok) (sr : Nat) (hs : sr ≤ 1099511627776) : (Ob.new s sr).ok :=
  ⟨h, by simp [Ob.new], by simp [Ob.new], fun x hx => by simp [Ob.new] at hx; omega, fun n hn => by simp [Ob.new] at hn; omega, hs, by simp [Ob.new]⟩
theorem ObAt.new (f : Nat → Nat) (p : Nat) (s : Shp) (sr : Nat) : ObAt (laidF f p s sr) p (Ob.new s sr) := by
  unfold laidF
  refine ⟨?_, ?_, ?_, fun j x hx => ?_, fun j n hn => ?_⟩
  · rw [upd_ne _ _ _ _ (by omega), upd_ne _ _ _ _ (by omega), upd_at]; rfl
  · rw [upd_ne _ _ _ _ (by omega), upd_at]; rfl
  · rw [upd_at]; rfl
  · have hl := (List.getElem?_eq_some_iff.1 hx).1
    simp only [Ob.new, List.length_replicate] at hl
    have hx0 : x = 0 := by
      have := List.mem_of_getElem? hx
      simp [Ob.new] at this
      exact this.2
    rw [upd_ne _ _ _ _ (by omega), upd_ne _ _ _ _ (by omega), upd_ne _ _ _ _ (by omega), hx0]
    unfold fil; rw [if_pos (by omega)]
  · have hl := (List.getElem?_eq_some_iff.1 hn).1
    simp only [Ob.new, List.length_replicate] at hl
    have hn0 : n = 0 := by
      have := List.mem_of_getElem? hn
      simp [Ob.new] at this
      exact this.2
    have e1 : (Ob.new s sr).shp.p = s.p := rfl
    rw [e1, upd_ne _ _ _ _ (by omega), upd_ne _ _ _ _ (by omega), upd_ne _ _ _ _ (by omega), hn0]
    unfold fil; rw [if_pos (by omega)]; rfl
theorem laidF_other (f : Nat → Nat) (p : Nat) (s : Shp) (sr j : Nat) (h : j < p ∨ p + (3 + s.p + s.d) ≤ j) : laidF f p s sr j = f j := by
  unfold laidF
  rw [upd_ne _ _ _ _ (by omega), upd_ne _ _ _ _ (by omega), upd_ne _ _ _ _ (by omega)]
  unfold fil; rw [if_neg (by omega)]
/-! ### objects one behind the other -/
def laid : Nat → List (Nat × Ob) → Nat → Prop
  | b, [], t => t = b
  | b, (p, o) :: l, t => p = b ∧ laid (b + rnd o.size) l t
def OksL (l : List (Nat × Ob)) : Prop := ∀ x ∈ l, x.2.ok
theorem laid_le : ∀ (l : List (Nat × Ob)) (b t : Nat), laid b l t → b ≤ t
  | [], b, t, h => by rw [laid] at h; omega
  | (p, o) :: l, b, t, h => by have := laid_le l _ _ h.2; omega
theorem laid_mem : ∀ (l : List (Nat × Ob)) (b t : Nat), laid b l t → ∀ x ∈ l, b ≤ x.1 ∧ x.1 + rnd x.2.size ≤ t
  | [], b, t, _, x, hx => by cases hx
  | (p, o) :: l, b, t, h, x, hx => by
    rcases List.mem_cons.1 hx with rfl | hx
    · have := laid_le l _ _ h.2
      have := h.1
      simp only; omega
    · have := laid_mem l _ _ h.2 x hx; omega
theorem laid_snoc : ∀ (l : List (Nat × Ob)) (b t : Nat) (o : Ob), laid b l t → laid b (l ++ [(t, o)]) (t + rnd o.size)
  | [], b, t, o, h => by rw [laid] at h; subst h; exact ⟨rfl, rfl⟩
  | (p, q) :: l, b, t, o, h => ⟨h.1, laid_snoc l _ _ o h.2⟩
theorem laid_sorted : ∀ (l : List (Nat × Ob)) (b t : Nat), laid b l t → OksL l → (l.map (·.1)).Pairwise (· < ·)
  | [], b, t, _, _ => List.Pairwise.nil
  | (p, o) :: l, b, t, h, hk => by
    refine List.Pairwise.cons (fun y hy => ?_) (laid_sorted l _ _ h.2 fun x hx => hk x (.tail _ hx))
    obtain ⟨x, hx, rfl⟩ := List.mem_map.1 hy
    have h1 := (laid_mem l _ _ h.2 x hx).1
    have h2 := rnd_ge o.size (Ob.size_bd (hk _ (.head _))).2
    have := h.1
    show p < x.1
    omega
/-- Two objects have no word in common. -/
theorem laid_apart : ∀ (l : List (Nat × Ob)) (b t : Nat), laid b l t → OksL l → ∀ x ∈ l, ∀ y ∈ l, x.1 ≠ y.1 → x.1 + rnd x.2.size ≤ y.1 ∨ y.1 + rnd y.2.size ≤ x.1
  | [], b, t, _, _, x, hx, _, _, _ => by cases hx
  | (p, o) :: l, b, t, h, hk, x, hx, y, hy, hne => by
    rcases List.mem_cons.1 hx with rfl | hx
    · rcases List.mem_cons.1 hy with rfl | hy
      · exact absurd rfl hne
      · have := (laid_mem l _ _ h.2 y hy).1
        have := h.1
        simp only; omega
    · rcases List.mem_cons.1 hy with rfl | hy
      · have := (laid_mem l _ _ h.2 x hx).1
        have := h.1
        simp only; omega
      · exact laid_apart l _ _ h.2 (fun z hz => hk z (.tail _ hz)) x hx y hy hne
/-- What is at a place. -/
def lk : List (Nat × Ob) → Nat → Option Ob
  | [], _ => none
  | (q, o) :: l, p => if q = p then some o else lk l p
theorem lk_mem : ∀ {l : List (Nat × Ob)} {p : Nat} {o : Ob}, lk l p = some o → (p, o) ∈ l
  | [], p, o, h => by simp [lk] at h
  | (q, x) :: l, p, o, h => by
    unfold lk at h
    split at h
    · rename_i e
      injection h with h
      rw [← e, ← h]; exact .head _
    · exact .tail _ (lk_mem h)
theorem lk_some {l : List (Nat × Ob)} {p : Nat} : (lk l p).isSome = true ↔ p ∈ l.map (·.1) := by
  induction l with
  | nil => simp [lk]
  | cons x l ih =>
    obtain ⟨q, o⟩ := x
    unfold lk
    split
    · rename_i e; simp [e]
    · rename_i e; rw [ih]; simp [Ne.symm e]
/-- One object made another one. -/
def up (l : List (Nat × Ob)) (p : Nat) (o : Ob) : List (Nat × Ob) := l.map fun x => if x.1 = p then (p, o) else x
theorem up_keys (l : List (Nat × Ob)) (p : Nat) (o : Ob) : (up l p o).map (·.1) = l.map (·.1) := by
  unfold up
  rw [List.map_map]
  refine List.map_congr_left fun x _ => ?_
  simp only [Function.comp_apply]
  split
  · rename_i h; exact h.symm
  · rfl
theorem lk_up {l : List (Nat × Ob)} {p : Nat} {o : Ob} (q : Nat) : lk (up l p o) q = if q = p then (lk l p).map fun _ => o else lk l q := by
  induction l with
  | nil => simp [up, lk]
  | cons x l ih =>
    obtain ⟨r, y⟩ := x
    have e : up ((r, y) :: l) p o = (if r = p then (p, o) else (r, y)) :: up l p o := rfl
    rw [e]
    by_cases h1 : r = p
    · subst h1
      rw [if_pos rfl]
      by_cases h2 : q = r
      · subst h2; simp [lk]
      · rw [if_neg h2]
        rw [if_neg h2] at ih
        simp only [lk, if_neg (Ne.symm h2), ih]
    · rw [if_neg h1]
      by_cases h2 : q = p
      · subst h2
        rw [if_pos rfl] at ih ⊢
        simp only [lk, if_neg h1, ih]
      · rw [if_neg h2] at ih ⊢
        simp only [lk, ih]
theorem up_laid : ∀ (l : List (Nat × Ob)) (b t p : Nat) (o : Ob), (∀ y, (p, y) ∈ l → o.size = y.size) → laid b l t → laid b (up l p o) t
  | [], b, t, p, o, _, h => h
  | (q, y) :: l, b, t, p, o, hs, h => by
    have e : up ((q, y) :: l) p o = (if q = p then (p, o) else (q, y)) :: up l p o := rfl
    rw [e]
    have ih := up_laid l (b + rnd y.size) t p o (fun z hz => hs z (.tail _ hz)) h.2
    by_cases h1 : q = p
    · subst h1
      rw [if_pos rfl]
      exact ⟨h.1, by rw [hs y (.head _)]; exact ih⟩
    · rw [if_neg h1]; exact ⟨h.1, ih⟩
theorem up_oks {l : List (Nat × Ob)} {p : Nat} {o : Ob} (h : OksL l) (ho : o.ok) : OksL (up l p o) := by
  intro x hx
  obtain ⟨y, hy, rfl⟩ := List.mem_map.1 hx
  split
  · exact ho
  · exact h y hy
end Go.Proofs.YtemohiainfllcaaGreat
