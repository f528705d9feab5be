/- Walks: objects in an arena, read. -/
import Derived.Test.YtemohiainfllcaaGreatJc
namespace Go.Proofs.YtemohiainfllcaaGreat
open Go.RowKit Hp
/-- An object. -/
structure Ob where
  shp : Shp
  freed : Bool
  second : Nat
  serial : Nat
  ptrs : List Nat
  nums : List Int
structure Ob.ok (o : Ob) : Prop where
  shp : o.shp.ok
  lp : o.ptrs.length = o.shp.p
  ln : o.nums.length = o.shp.d
  ptr : ∀ x ∈ o.ptrs, x ≤ 131072
  num : ∀ n ∈ o.nums, -9223372036854775808 ≤ n ∧ n ≤ 9223372036854775807
  ser : o.serial ≤ 1099511627776
  sec : o.second ≤ 2199023255552
def Ob.size (o : Ob) : Nat := 3 + o.shp.p + o.shp.d
/-- The words of an object. -/
structure ObAt (f : Nat → Nat) (at' : Nat) (o : Ob) : Prop where
  h0 : f at' = head o.shp o.freed
  h1 : f (at' + 1) = o.second
  h2 : f (at' + 2) = o.serial
  hp : ∀ (j x : Nat), o.ptrs[j]? = some x → f (at' + 3 + j) = x
  hn : ∀ (j : Nat) (n : Int), o.nums[j]? = some n → (f (at' + 3 + o.shp.p + j) : Int) = zig n
theorem Ob.size_bd {o : Ob} (h : o.ok) : 3 ≤ o.size ∧ o.size ≤ 19 := by
  obtain ⟨h1, h2, _⟩ := h.shp
  unfold Ob.size; omega
variable {w : World} {a wd L : Nat} {f : Nat → Nat} {at' : Nat} {o : Ob}
theorem ar_load_v (h : Wds w a wd L f) (z : Int) (i v : Nat) (hz : z = i) (hi : i < L) (hv : f i = v) :
    Calls Tryz.prog 151 #[.pointer (some ⟨a, 0, none⟩), .int .i64 z] w fun e w' => e = .returned (.tuple #[.int .u64 v, .int .i64 0]) ∧ w = w' := by
  rw [← hv]; exact ar_load h z i hz hi
theorem oshape_any (h : Wds w a wd L f) (ho : ObAt f at' o) (hk : o.ok) (hl : at' + o.size ≤ L) (z : Int) (hz : z = at') :
    Calls Tryz.prog 145 #[.pointer (some ⟨a, 0, none⟩), .int .i64 z] w fun e w' => e = .returned (.tuple #[shpV o.shp, .bool o.freed, .int .i64 0]) ∧ Below w.heap.size w w' := by
  have h0 := ho.h0
  have hlt := head_lt o.shp o.freed hk.shp
  have hS := fun w => hshape_any o.shp hk.shp o.freed w
  have hZ := fun w => hsize_any o.shp hk.shp w
  have hs := Ob.size_bd hk
  have hL9 := h.le
  subst hz
  unfold Ob.size at hl hs
  obtain ⟨⟨p, d, wk, fn⟩, fr, se, sr, ps, ns⟩ := o
  simp only at h0 hl hs hS hZ hlt
  generalize head ⟨p, d, wk, fn⟩ fr = q at *
  have H0 := Lib.hid h0
  have HS := Lib.hid hS
  have HZ := Lib.hid hZ
  have HW := Lib.hid h
  clear h0 ho hk hS hZ h
  go_enter Tryz.func145, Tryz.ntmps145
  go_wp2_with fail
  refine (ar_load_v (HW.out.below (balloc (bsame w) _)) at' at' q rfl (by omega) H0.out).mono ?_
  rintro e w1 ⟨rfl, rfl⟩
  go_wp2_with fail
  refine (HS.out _).mono ?_
  rintro e w2 ⟨rfl, hb2⟩
  have jR : Blk w2 w.heap.size #[.int .i64 0, .int .i64 0, .bool false, .bool false] 80 := (Blk.new w _ _).below hb2 (by simp)
  have hw2 := btrans (balloc (bsame w) _) hb2
  have cR := jR.cell
  have zR := jR.free
  have sR := jR.lt
  clear hb2
  go_wp2_with fail
  refine (HZ.out _).mono ?_
  rintro e w3 ⟨rfl, hb3⟩
  have jR3 : Blk w3 w.heap.size #[.int .i64 p, .int .i64 d, .bool wk, .bool fn] 80 := ((((jR.set 0 _).set 1 _).set 2 _).set 3 _).below hb3 (by simp; omega)
  have hw3 : Below w.heap.size w w3 := btrans (bset (bset (bset (bset hw2 (Nat.le_refl _) _) (Nat.le_refl _) _) (Nat.le_refl _) _) (Nat.le_refl _) _) hb3
  clear hb3 cR zR sR jR hw2
  have cR := jR3.cell
  have zR := jR3.free
  have sR := jR3.lt
  have hlI : (at' : Int) + 3 + (p : Int) + (d : Int) ≤ (L : Int) := by omega
  clear jR3
  go_wp2_with fail
  refine (ar_len (HW.out.below hw3)).mono ?_
  rintro e w4 ⟨rfl, rfl⟩
  go_wp2_with fail
  refine bodyPost_ret (v := .tuple #[shpV ⟨p, d, wk, fn⟩, .bool fr, .int .i64 0]) (by simp [results, Tryz.results145, go_sem, cR]) rfl ⟨rfl, ?_⟩
  repeat (first | exact hw3 | refine bset ?_ (Nat.le_refl _) _)
theorem oserial_any (h : Wds w a wd L f) (ho : ObAt f at' o) (hk : o.ok) (hl : at' + o.size ≤ L) (z : Int) (hz : z = at') :
    Calls Tryz.prog 146 #[.pointer (some ⟨a, 0, none⟩), .int .i64 z] w fun e w' => e = .returned (.tuple #[.int .i64 o.serial, .int .i64 0]) ∧ Below w.heap.size w w' := by
  have hs := Ob.size_bd hk
  have hL9 := h.le
  have hq := hk.ser
  have HS := Lib.hid (oshape_any h ho hk hl z hz)
  have H2 := Lib.hid ho.h2
  have HW := Lib.hid h
  subst hz
  clear ho h hk
  generalize o.serial = q at *
  go_enter Tryz.func146, Tryz.ntmps146
  go_wp2_with fail
  refine HS.out.mono ?_
  rintro e w1 ⟨rfl, hb1⟩
  go_wp2_with fail
  refine (ar_load_v (HW.out.below (balloc hb1 _)) _ (at' + 2) q (by omega) (by omega) H2.out).mono ?_
  rintro e w2 ⟨rfl, rfl⟩
  go_wp2_with fail
  go_ret2
  exact ⟨rfl, balloc hb1 _⟩
theorem osecond_any (h : Wds w a wd L f) (ho : ObAt f at' o) (hk : o.ok) (hl : at' + o.size ≤ L) (z : Int) (hz : z = at') :
    Calls Tryz.prog 156 #[.pointer (some ⟨a, 0, none⟩), .int .i64 z] w fun e w' => e = .returned (.tuple #[.int .u64 o.second, .int .i64 0]) ∧ Below w.heap.size w w' := by
  have hs := Ob.size_bd hk
  have hL9 := h.le
  have HS := Lib.hid (oshape_any h ho hk hl z hz)
  have H2 := Lib.hid ho.h1
  have HW := Lib.hid h
  subst hz
  clear ho h hk
  generalize o.second = q at *
  go_enter Tryz.func156, Tryz.ntmps156
  go_wp2_with fail
  refine HS.out.mono ?_
  rintro e w1 ⟨rfl, hb1⟩
  go_wp2_with fail
  refine (ar_load_v (HW.out.below (balloc hb1 _)) _ (at' + 1) q (by omega) (by omega) H2.out).mono ?_
  rintro e w2 ⟨rfl, rfl⟩
  go_wp2_with fail
  go_ret2
  exact ⟨rfl, balloc hb1 _⟩
theorem optr_in (s : Shp) (hs : s.ok) (at' i : Nat) (ha : at' ≤ 65536) (hi : i < s.p) (w : World) :
    Calls Tryz.prog 160 #[shpV s, .int .i64 at', .int .i64 i] w fun e w' => e = .returned (.tuple #[.int .i64 ((at' + 3 + i : Nat) : Int), .int .i64 0]) ∧ Below w.heap.size w w' := by
  obtain ⟨h1, h2, _⟩ := hs
  obtain ⟨p, d, wk, fn⟩ := s
  simp only at h1 h2 hi
  go_enter Tryz.func160, Tryz.ntmps160
  go_wp2_with fail
  go_ret2
  exact ⟨by simp, balloc (bsame w) _⟩
theorem optr_out (s : Shp) (hs : s.ok) (at' i : Nat) (hi : s.p ≤ i) (w : World) :
    Calls Tryz.prog 160 #[shpV s, .int .i64 at', .int .i64 i] w fun e w' => e = .returned (.tuple #[.int .i64 0, .int .i64 71]) ∧ Below w.heap.size w w' := by
  obtain ⟨h1, h2, _⟩ := hs
  obtain ⟨p, d, wk, fn⟩ := s
  simp only at h1 h2 hi
  go_enter Tryz.func160, Tryz.ntmps160
  go_wp2_with fail
  go_ret2
  exact ⟨rfl, balloc (bsame w) _⟩
theorem onum_in (s : Shp) (hs : s.ok) (at' i : Nat) (ha : at' ≤ 65536) (hi : i < s.d) (w : World) :
    Calls Tryz.prog 150 #[shpV s, .int .i64 at', .int .i64 i] w fun e w' => e = .returned (.tuple #[.int .i64 ((at' + 3 + s.p + i : Nat) : Int), .int .i64 0]) ∧ Below w.heap.size w w' := by
  obtain ⟨h1, h2, _⟩ := hs
  obtain ⟨p, d, wk, fn⟩ := s
  simp only at h1 h2 hi ⊢
  go_enter Tryz.func150, Tryz.ntmps150
  go_wp2_with fail
  go_ret2
  exact ⟨by simp, balloc (bsame w) _⟩
theorem onum_out (s : Shp) (hs : s.ok) (at' i : Nat) (hi : s.d ≤ i) (w : World) :
    Calls Tryz.prog 150 #[shpV s, .int .i64 at', .int .i64 i] w fun e w' => e = .returned (.tuple #[.int .i64 0, .int .i64 71]) ∧ Below w.heap.size w w' := by
  obtain ⟨h1, h2, _⟩ := hs
  obtain ⟨p, d, wk, fn⟩ := s
  simp only at h1 h2 hi
  go_enter Tryz.func150, Tryz.ntmps150
  go_wp2_with fail
  go_ret2
  exact ⟨rfl, balloc (bsame w) _⟩
/-- Where a field stands, by ptr or num. -/
theorem field_any (h : Wds w a wd L f) (ho : ObAt f at' o) (hk : o.ok) (hl : at' + o.size ≤ L) (i : Nat) (g : Nat) (r e' : Int)
    (hg : ∀ w, Calls Tryz.prog g #[shpV o.shp, .int .i64 at', .int .i64 i] w fun e w' => e = .returned (.tuple #[.int .i64 r, .int .i64 e']) ∧ Below w.heap.size w w')
    (eg : ∀ args w, (callFunc g args).run Tryz.prog w = .ok (.enter g args) w) :
    Calls Tryz.prog 149 #[.pointer (some ⟨a, 0, none⟩), .int .i64 at', .int .i64 i, .func (.func g) #[] #[]] w fun e w' => e = .returned (.tuple #[.int .i64 r, .int .i64 e']) ∧ Below w.heap.size w w' := by
  have HS := Lib.hid (oshape_any h ho hk hl at' rfl)
  obtain ⟨⟨p, d, wk, fn⟩, fr, se, sr, ps, ns⟩ := o
  have HG := Lib.hid hg
  simp only at HS HG
  clear ho h hk hl hg
  go_enter Tryz.func149, Tryz.ntmps149
  go_wp2_with fail
  refine HS.out.mono ?_
  rintro e w1 ⟨rfl, hb1⟩
  go_wp2_with fail
  refine (HG.out _).mono ?_
  rintro e w2 ⟨rfl, hb2⟩
  go_wp2_with fail
  go_ret2
  exact ⟨rfl, btrans (balloc hb1 _) hb2⟩
end Go.Proofs.YtemohiainfllcaaGreat

/- Walks: objects' fields read; objects changed. -/
namespace Go.Proofs.YtemohiainfllcaaGreat
open Go.RowKit Hp
theorem bit_even (k : Nat) (h : 2 * k < 18446744073709551616) : bits BinOp.and IntKind.u64 ((2 * k : Nat) : Int) 1 = 0 := by
  rw [show (1 : Int) = ((1 : Nat) : Int) from rfl, wand _ 1 h (by omega), Nat.and_one_is_mod, show 2 * k % 2 = 0 from by omega]; rfl
theorem bit_odd (k : Nat) (h : 2 * k + 1 < 18446744073709551616) : bits BinOp.and IntKind.u64 ((2 * k + 1 : Nat) : Int) 1 = 1 := by
  rw [show (1 : Int) = ((1 : Nat) : Int) from rfl, wand _ 1 h (by omega), Nat.and_one_is_mod, show (2 * k + 1) % 2 = 1 from by omega]
theorem or_odd (k : Nat) (h : 2 * k + 1 < 18446744073709551616) : bits BinOp.or IntKind.u64 ((2 * k : Nat) : Int) 1 = ((2 * k + 1 : Nat) : Int) := by
  rw [show (1 : Int) = ((1 : Nat) : Int) from rfl, wor _ 1 (by omega) (by omega), Nat.or_comm, or_add 1 k 1 (by omega), Nat.add_comm]
theorem zag_any (v : Nat) (n : Int) (hv : (v : Int) = zig n) (hn : -9223372036854775808 ≤ n ∧ n ≤ 9223372036854775807) (w : World) :
    Calls Tryz.prog 152 #[.int .u64 v] w fun e w' => e = .returned (.int .i64 n) ∧ w = w' := by
  unfold zig at hv
  split at hv
  · rename_i h0
    obtain ⟨k, rfl⟩ : ∃ k : Nat, n = k := ⟨n.toNat, by omega⟩
    obtain rfl : v = 2 * k := by omega
    have hb := bit_even k (by omega)
    have e1 : ((2 * k : Nat) : Int) / 2 = (k : Int) := by omega
    obtain ⟨q, hq⟩ : ∃ q : Int, q = ((2 * k : Nat) : Int) := ⟨_, rfl⟩
    rw [← hq] at hb e1 ⊢
    have hq0 : 0 ≤ q := by omega
    have hq1 : q ≤ 18446744073709551615 := by omega
    have hk1 : (k : Int) ≤ 9223372036854775807 := by omega
    clear hq hv h0
    go_enter Tryz.func152, Tryz.ntmps152
    go_wp2_with fail
    go_ret
    exact ⟨rfl, rfl⟩
  · rename_i h0
    obtain ⟨k, hk⟩ : ∃ k : Nat, -n - 1 = k := ⟨(-n - 1).toNat, by omega⟩
    obtain rfl : n = -(k : Int) - 1 := by omega
    obtain rfl : v = 2 * k + 1 := by omega
    have hb := bit_odd k (by omega)
    have e1 : ((2 * k + 1 : Nat) : Int) / 2 = (k : Int) := by omega
    obtain ⟨q, hq⟩ : ∃ q : Int, q = ((2 * k + 1 : Nat) : Int) := ⟨_, rfl⟩
    rw [← hq] at hb e1 ⊢
    have hq0 : 0 ≤ q := by omega
    have hq1 : q ≤ 18446744073709551615 := by omega
    have hk1 : (k : Int) ≤ 9223372036854775807 := by omega
    clear hq hv h0 hk
    go_enter Tryz.func152, Tryz.ntmps152
    go_wp2_with fail
    go_ret
    exact ⟨rfl, rfl⟩
theorem zig_any (n : Int) (hn : -9223372036854775808 ≤ n ∧ n ≤ 9223372036854775807) (w : World) :
    Calls Tryz.prog 155 #[.int .i64 n] w fun e w' => e = .returned (.int .u64 (zig n)) ∧ w = w' := by
  obtain ⟨hn1, hn2⟩ := hn
  unfold zig
  by_cases h0 : 0 ≤ n
  · rw [if_pos h0]
    go_enter Tryz.func155, Tryz.ntmps155
    go_wp2_with fail
    go_ret
    exact ⟨ret_int (show n * 2 = 2 * n by omega), rfl⟩
  · rw [if_neg h0]
    obtain ⟨k, hk⟩ : ∃ k : Nat, -n - 1 = k := ⟨(-n - 1).toNat, by omega⟩
    have ho := or_odd k (by omega)
    have hlt : n < 0 := by omega
    have hk' := Lib.hid hk
    have HO := Lib.hid ho
    clear ho hk h0
    go_enter Tryz.func155, Tryz.ntmps155
    go_wp2_with fail
    go_ret
    have e1 : -(n + 1) * 2 = ((2 * k : Nat) : Int) := by have := hk'.out; omega
    refine ⟨ret_int (show bits BinOp.or IntKind.u64 (-(n + 1) * 2) 1 = -2 * n - 1 from ?_), rfl⟩
    rw [e1, HO.out]
    have := hk'.out
    omega
variable {w : World} {a wd L : Nat} {f : Nat → Nat} {at' : Nat} {o : Ob}
theorem eg_ptr (args : Array Value) (w : World) : (callFunc 160 args).run Tryz.prog w = .ok (.enter 160 args) w := enters_of Tryz.func160 (by kernel_rfl) rfl args w
theorem eg_num (args : Array Value) (w : World) : (callFunc 150 args).run Tryz.prog w = .ok (.enter 150 args) w := enters_of Tryz.func150 (by kernel_rfl) rfl args w
theorem Ob.room (hk : o.ok) (hl : at' + o.size ≤ L) (h : Wds w a wd L f) : at' ≤ 65536 := by
  have := h.le
  have := (Ob.size_bd hk).1
  omega
/-- Pointer i, told. -/
theorem optr_get (h : Wds w a wd L f) (ho : ObAt f at' o) (hk : o.ok) (hl : at' + o.size ≤ L) (i x : Nat) (hx : o.ptrs[i]? = some x) (z u : Int) (hz : z = at') (hu : u = i) :
    Calls Tryz.prog 111 #[.pointer (some ⟨a, 0, none⟩), .int .i64 z, .int .i64 u] w fun e w' => e = .returned (.tuple #[.int .i64 x, .int .i64 0]) ∧ Below w.heap.size w w' := by
  have hi : i < o.shp.p := by rw [← hk.lp]; exact (List.getElem?_eq_some_iff.1 hx).1
  have hx1 := hk.ptr x (List.mem_of_getElem? hx)
  have HF := Lib.hid (field_any h ho hk hl i _ _ _ (fun w => optr_in o.shp hk.shp at' i (Ob.room hk hl h) hi w) eg_ptr)
  have hs : at' + 3 + i < L := by unfold Ob.size at hl; omega
  have H2 := Lib.hid (ho.hp i x hx)
  have HW := Lib.hid h
  subst hz hu
  clear ho h hk hl hx hi
  go_enter Tryz.func111, Tryz.ntmps111
  go_wp2_with fail
  refine HF.out.mono ?_
  rintro e w1 ⟨rfl, hb1⟩
  go_wp2_with fail
  refine (ar_load_v (HW.out.below hb1) _ (at' + 3 + i) x (by omega) hs H2.out).mono ?_
  rintro e w2 ⟨rfl, rfl⟩
  go_wp2_with fail
  go_ret2
  exact ⟨rfl, hb1⟩
theorem optr_no (h : Wds w a wd L f) (ho : ObAt f at' o) (hk : o.ok) (hl : at' + o.size ≤ L) (i : Nat) (hi : o.shp.p ≤ i) (z u : Int) (hz : z = at') (hu : u = i) :
    Calls Tryz.prog 111 #[.pointer (some ⟨a, 0, none⟩), .int .i64 z, .int .i64 u] w fun e w' => e = .returned (.tuple #[.int .i64 0, .int .i64 71]) ∧ Below w.heap.size w w' := by
  have HF := Lib.hid (field_any h ho hk hl i _ _ _ (fun w => optr_out o.shp hk.shp at' i hi w) eg_ptr)
  subst hz hu
  clear ho h hk hl hi
  go_enter Tryz.func111, Tryz.ntmps111
  go_wp2_with fail
  refine HF.out.mono ?_
  rintro e w1 ⟨rfl, hb1⟩
  go_wp2_with fail
  go_ret2
  exact ⟨rfl, hb1⟩
/-- Number i, told. -/
theorem onum_get (h : Wds w a wd L f) (ho : ObAt f at' o) (hk : o.ok) (hl : at' + o.size ≤ L) (i : Nat) (n : Int) (hx : o.nums[i]? = some n) (z u : Int) (hz : z = at') (hu : u = i) :
    Calls Tryz.prog 101 #[.pointer (some ⟨a, 0, none⟩), .int .i64 z, .int .i64 u] w fun e w' => e = .returned (.tuple #[.int .i64 n, .int .i64 0]) ∧ Below w.heap.size w w' := by
  have hi : i < o.shp.d := by rw [← hk.ln]; exact (List.getElem?_eq_some_iff.1 hx).1
  have hx1 := hk.num n (List.mem_of_getElem? hx)
  have HF := Lib.hid (field_any h ho hk hl i _ _ _ (fun w => onum_in o.shp hk.shp at' i (Ob.room hk hl h) hi w) eg_num)
  have hs : at' + 3 + o.shp.p + i < L := by unfold Ob.size at hl; omega
  have H2 := Lib.hid (ho.hn i n hx)
  have HX := Lib.hid hx1
  have HW := Lib.hid h
  generalize o.shp.p = p at *
  subst hz hu
  clear ho h hk hl hx hi hx1
  go_enter Tryz.func101, Tryz.ntmps101
  go_wp2_with fail
  refine HF.out.mono ?_
  rintro e w1 ⟨rfl, hb1⟩
  go_wp2_with fail
  refine (ar_load_v (HW.out.below hb1) _ (at' + 3 + p + i) _ (by omega) hs rfl).mono ?_
  rintro e w2 ⟨rfl, rfl⟩
  go_wp2_with fail
  refine (zag_any _ n H2.out HX.out _).mono ?_
  rintro e w2 ⟨rfl, rfl⟩
  go_wp2_with fail
  go_ret2
  exact ⟨rfl, hb1⟩
theorem onum_no (h : Wds w a wd L f) (ho : ObAt f at' o) (hk : o.ok) (hl : at' + o.size ≤ L) (i : Nat) (hi : o.shp.d ≤ i) (z u : Int) (hz : z = at') (hu : u = i) :
    Calls Tryz.prog 101 #[.pointer (some ⟨a, 0, none⟩), .int .i64 z, .int .i64 u] w fun e w' => e = .returned (.tuple #[.int .i64 0, .int .i64 71]) ∧ Below w.heap.size w w' := by
  have HF := Lib.hid (field_any h ho hk hl i _ _ _ (fun w => onum_out o.shp hk.shp at' i hi w) eg_num)
  subst hz hu
  clear ho h hk hl hi
  go_enter Tryz.func101, Tryz.ntmps101
  go_wp2_with fail
  refine HF.out.mono ?_
  rintro e w1 ⟨rfl, hb1⟩
  go_wp2_with fail
  go_ret2
  exact ⟨rfl, hb1⟩
end Go.Proofs.YtemohiainfllcaaGreat
