/- The heap in memory; what is told of it: Here, Moving. -/
import Derived.Test.YtemohiainfllcaaGreatJe
import Derived.Test.YtemohiainfllcaaGreatShelf
import Derived.Deep.RegionHeld3
import Derived.Deep.AppendLies
import Derived.Deep.DrawnRows
namespace Go.Proofs.YtemohiainfllcaaGreat
open Go.RowKit Hp
attribute [local go_sem ↓] Go.wp_at_zero Go.wp_at_succ
/-- Where a heap lies: its number, its blocks. -/
structure HLay where
  id : Nat
  h : Nat
  a : Nat
  wd : Nat
/-- A heap. -/
structure Hp where
  size : Nat
  use : Bool
  cur : List (Nat × Ob)
  top : Nat
  moving : Bool
  old : List (Nat × Ob × Option Nat)
  otop : Nat
  owed : Nat
  scan : Nat
  serial : Nat
  weak : List Nat
  final : List Nat
def Hp.base (H : Hp) (u : Bool) : Nat := if u then 1 + H.size else 1
def Hp.olds (H : Hp) : List (Nat × Ob) := H.old.map fun x => (x.1, x.2.1)
/-- How many words those take that have not gone. -/
def owes : List (Nat × Ob × Option Nat) → Nat
  | [] => 0
  | (_, o, none) :: l => rnd o.size + owes l
  | (_, _, some _) :: l => owes l
structure Hp.ok (H : Hp) : Prop where
  sz : 16 ≤ H.size ∧ H.size ≤ 16384
  cl : laid (H.base H.use) H.cur H.top
  ck : OksL H.cur
  ol : laid (H.base !H.use) H.olds H.otop
  ok : OksL H.olds
  ot : H.otop ≤ H.base (!H.use) + H.size
  still : H.moving = false → H.old = []
  owe : H.owed = owes H.old
  room : H.top + H.owed ≤ H.base H.use + H.size
  ser : H.serial ≤ 1099511627776
  scn : H.scan ≤ 65536
  gone : ∀ x ∈ H.old, ∀ q, x.2.2 = some q → 1 ≤ q ∧ q ≤ 131072
def Hp.cells (H : Hp) (a : Nat) (vc vo vw vf : Value) : Array Value :=
  if H.use then #[.pointer (some ⟨a, 0, none⟩), .int .i64 1, .int .i64 H.size, .int .i64 H.otop, .int .i64 (1 + (H.size : Int)), .int .i64 H.size, .int .i64 H.top, vo, vc, .int .i64 1, .bool H.moving, .int .i64 H.owed, .int .i64 H.scan, .int .i64 H.serial, vw, vf]
  else #[.pointer (some ⟨a, 0, none⟩), .int .i64 1, .int .i64 H.size, .int .i64 H.top, .int .i64 (1 + (H.size : Int)), .int .i64 H.size, .int .i64 H.otop, vc, vo, .int .i64 0, .bool H.moving, .int .i64 H.owed, .int .i64 H.scan, .int .i64 H.serial, vw, vf]
def nv (p : Nat) : Value := .int .i64 p
/-- A heap in memory. -/
structure HpIn (w : World) (o : Own) (l : HLay) (H : Hp) (vc vo vw vf : Value) (f : Nat → Nat) : Prop where
  hb : Blk w l.h (H.cells l.a vc vo vw vf) 154
  wds : Wds w l.a l.wd (2 * H.size + 1) f
  rc : Row w o (l.id, if H.use then 4 else 3) 3 1 vc H.cur.length (H.cur.map fun x => nv x.1)
  ro : Row w o (l.id, if H.use then 3 else 4) 3 1 vo H.old.length (H.old.map fun x => nv x.1)
  rw : Row w o (l.id, 5) 3 1 vw H.weak.length (H.weak.map nv)
  rf : Row w o (l.id, 6) 3 1 vf H.final.length (H.final.map nv)
  oh : o l.h = (l.id, 0)
  oa : o l.a = (l.id, 1)
  ow : o l.wd = (l.id, 2)
  obs : ∀ x ∈ H.cur, ObAt f x.1 x.2
  olds : ∀ x ∈ H.old, (x.2.2 = none → ObAt f x.1 x.2.1) ∧ ∀ q, x.2.2 = some q → f x.1 = 4 * q + 2
theorem Row.below {w w' : World} {o : Own} {t : Tag} {e : TypeId} {size : Nat} {v : Value} {n : Nat} {xs : List Value} (h : Row w o t e size v n xs) (k : Below w.heap.size w w') : Row w' o t e size v n xs :=
  h.stp (T := fun _ => False) (Stp.of_below k) (fun h => h)
theorem HpIn.below {w w' : World} {o : Own} {l : HLay} {H : Hp} {vc vo vw vf : Value} {f : Nat → Nat} (h : HpIn w o l H vc vo vw vf f) (k : Below w.heap.size w w') : HpIn w' o l H vc vo vw vf f :=
  ⟨h.hb.below k h.hb.lt, h.wds.below k, h.rc.below k, h.ro.below k, h.rw.below k, h.rf.below k, h.oh, h.oa, h.ow, h.obs, h.olds⟩
theorem Row.cells {w : World} {o : Own} {t : Tag} {e : TypeId} {g n cap : Nat} {xs : List Value} (h : Row w o t e 1 (.slice (some ⟨g, 0, none⟩) n cap) n xs) (j : Nat) (x : Value) (hx : xs[j]? = some x) : w.cell? ⟨g, j, none⟩ = some x := by
  have := h.own.cells (g := g) rfl j x hx
  rwa [show (⟨g, 0, none⟩ : Addr).add j = ⟨g, j, none⟩ from by unfold Addr.add; split <;> simp_all] at this
theorem Row.form {w : World} {o : Own} {t : Tag} {e : TypeId} {v : Value} {n : Nat} {xs : List Value} (h : Row w o t e 1 v n xs) :
    (v = .slice none 0 0 ∧ n = 0) ∨ ∃ g cap, v = .slice (some ⟨g, 0, none⟩) n cap ∧ n ≤ cap ∧ cap ≤ maxLen ∧ g < w.heap.size ∧ o g = t := by
  rcases h.own.2 with ⟨rfl, rfl⟩ | ⟨g, cap, cur, rfl, _, hg, hn, hc, _⟩
  · exact .inl ⟨rfl, rfl⟩
  · exact .inr ⟨g, cap, rfl, hn, hc, (Array.getElem?_eq_some_iff.1 hg).1, h.tag g rfl⟩
/-- A place, looked for. -/
theorem bsearch_any {w : World} {o : Own} {t : Tag} {v : Value} (ps : List Nat) (hr : Row w o t 3 1 v ps.length (ps.map nv)) (hs : ps.Pairwise (· < ·)) (hl : ps.length ≤ 100000) (x : Nat) (z : Int) (hz : z = x) :
    Calls Tryz.prog 139 #[v, .int .i64 z] w fun e w' => e = .returned (.tuple #[.int .i64 (((ps.map fun (p : Nat) => (p : Int)).countP (· < (x : Int)) : Nat) : Int), .bool (decide (x ∈ ps))]) ∧ ∃ q, w' = w.drewN q := by
  subst hz
  rcases hr.form with ⟨rfl, h0⟩ | ⟨g, cap, rfl, hn, hc, _, _⟩
  · have : ps = [] := List.eq_nil_of_length_eq_zero h0
    subst this
    refine (Tryz.slices_BinarySearch_int_empty none 0 x w).mono ?_
    rintro e w' ⟨rfl, rfl⟩
    exact ⟨rfl, 0, rfl⟩
  · refine (Tryz.slices_BinarySearch_int g 0 ps.length cap (ps.map fun (p : Nat) => (p : Int)) x w (by simp) (by omega) ?_ ?_).mono ?_
    · intro j hj
      have hj' : j < ps.length := by simpa using hj
      rw [Nat.zero_add]
      refine hr.cells j _ ?_
      rw [List.getElem?_map, List.getElem?_eq_getElem hj']
      simp [nv, List.getD, List.getElem?_eq_getElem hj']
    · rw [List.take_of_length_le (by simp)]
      refine List.Pairwise.map _ ?_ hs
      intro a b h; omega
    · rintro e w' ⟨rfl, hq⟩
      rw [List.take_of_length_le (by simp)]
      refine ⟨?_, hq⟩
      have e : ((ps.map fun (p : Nat) => (p : Int)).contains (x : Int)) = decide (x ∈ ps) := by
        rw [Bool.eq_iff_iff]
        simp only [List.contains_eq_mem, List.mem_map, decide_eq_true_eq]
        exact ⟨fun ⟨a, ha, e⟩ => by rw [show x = a by omega]; exact ha, fun h => ⟨x, h, rfl⟩⟩
      rw [e]
section
variable {w : World} {o : Own} {l : HLay} {H : Hp} {vc vo vw vf : Value} {f : Nat → Nat}
theorem moving_any (h : HpIn w o l H vc vo vw vf f) : Calls Tryz.prog 161 #[.pointer (some ⟨l.h, 0, none⟩)] w fun e w' => e = .returned (.bool H.moving) ∧ w = w' := by
  have c : w.cell? ⟨l.h, 10, none⟩ = some (.bool H.moving) := by rw [h.hb.cell]; unfold Hp.cells; split <;> rfl
  clear h
  go_enter Tryz.func161, Tryz.ntmps161
  go_wp2_with fail
  go_ret
  exact ⟨rfl, rfl⟩
theorem laid_len : ∀ (l : List (Nat × Ob)) (b t : Nat), laid b l t → OksL l → b + 4 * l.length ≤ t
  | [], b, t, h, _ => by rw [laid] at h; simp; omega
  | (p, o) :: l, b, t, h, hk => by
    have := laid_len l _ _ h.2 fun x hx => hk x (.tail _ hx)
    have := rnd_ge o.size (Ob.size_bd (hk _ (.head _))).2
    simp only [List.length_cons]; omega
theorem cur_len (hk : H.ok) : H.cur.length ≤ 16384 := by
  have := laid_len _ _ _ hk.cl hk.ck
  have := hk.room
  have := hk.sz
  omega
theorem old_len (hk : H.ok) : H.old.length ≤ 16384 := by
  have := laid_len _ _ _ hk.ol hk.ok
  have := hk.ot
  have := hk.sz
  have e : H.olds.length = H.old.length := by simp [Hp.olds]
  omega
set_option maxRecDepth 100000 in
theorem here_any (h : HpIn w o l H vc vo vw vf f) (hk : H.ok) (p : Nat) (z : Int) (hz : z = p) :
    Calls Tryz.prog 81 #[.pointer (some ⟨l.h, 0, none⟩), .int .i64 z] w fun e w' => e = .returned (.bool (lk H.cur p).isSome) ∧ Below w.heap.size w w' := by
  subst hz
  have hbs := fun (w' : World) (hw : Below w.heap.size w w') => bsearch_any (w := w') (o := o) (t := (l.id, if H.use then 4 else 3)) (v := vc) (H.cur.map (·.1)) (by simpa [List.map_map, Function.comp_def] using h.rc.below hw) (laid_sorted _ _ _ hk.cl hk.ck) (by have := cur_len hk; simpa using by omega) p p rfl
  have hd : decide (p ∈ H.cur.map (·.1)) = (lk H.cur p).isSome := by rw [Bool.eq_iff_iff, decide_eq_true_eq, lk_some]
  rw [hd] at hbs
  generalize (((H.cur.map (·.1)).map fun (p : Nat) => (p : Int)).countP (· < (p : Int)) : Nat) = q at hbs
  generalize (lk H.cur p).isSome = b at *
  have c := h.hb.cell
  unfold Hp.cells at c
  have HB := Lib.hid hbs
  clear h hbs hd
  cases hu : H.use
  all_goals
    rw [hu] at c
    first | rw [if_pos rfl] at c | rw [if_neg (by simp)] at c
    clear hu
    go_enter Tryz.func81, Tryz.ntmps81
    go_upto_region 3 with fail
    go_quiet ((go_at_call 139; exact Calls.quiet_of (HB.out _ (bdrewN (bsame w) _))))
    go_wp2_with fail
    go_ret
    exact ⟨rfl, bdrewN (bsame w) _⟩
end
end Go.Proofs.YtemohiainfllcaaGreat

/- Walks: what a heap tells of its objects. -/
namespace Go.Proofs.YtemohiainfllcaaGreat
open Go.RowKit Hp
section
variable {w : World} {o : Own} {l : HLay} {H : Hp} {vc vo vw vf : Value} {f : Nat → Nat}
theorem Hp.base_bd (H : Hp) (u : Bool) : 1 ≤ H.base u ∧ H.base u ≤ 1 + H.size := by
  unfold Hp.base; split <;> omega
theorem HpIn.at_ (h : HpIn w o l H vc vo vw vf f) (hk : H.ok) {p : Nat} {ob : Ob} (hp : lk H.cur p = some ob) : ObAt f p ob ∧ ob.ok ∧ p + ob.size ≤ 2 * H.size + 1 ∧ 1 ≤ p := by
  have hm := lk_mem hp
  have h1 := laid_mem _ _ _ hk.cl _ hm
  have h2 := hk.ck _ hm
  have h3 := rnd_ge _ (Ob.size_bd h2).2
  have h4 := hk.room
  have h5 := H.base_bd H.use
  simp only at h1 h3
  exact ⟨h.obs _ hm, h2, by omega, by omega⟩
/-- An old object has no word in common with one of the space in use. -/
theorem Hp.apart (hk : H.ok) {x : Nat × Ob} (hx : x ∈ H.cur) {y : Nat × Ob × Option Nat} (hy : y ∈ H.old) : x.1 + x.2.size ≤ y.1 ∨ y.1 + y.2.1.size ≤ x.1 := by
  have h1 := laid_mem _ _ _ hk.cl _ hx
  have h2 := rnd_ge _ (Ob.size_bd (hk.ck _ hx)).2
  have hy' : (y.1, y.2.1) ∈ H.olds := List.mem_map.2 ⟨y, hy, rfl⟩
  have h3 := laid_mem _ _ _ hk.ol _ hy'
  have h4 := rnd_ge _ (Ob.size_bd (hk.ok _ hy')).2
  have h5 := hk.room
  have h6 := hk.ot
  simp only at h3 h4
  unfold Hp.base at h1 h3 h5 h6
  cases hu : H.use <;> simp [hu] at h1 h3 h5 h6 <;> omega
theorem lk_uniq {l : List (Nat × Ob)} {b t : Nat} (hl : laid b l t) (hk : OksL l) {p : Nat} {x y : Ob} (hx : (p, x) ∈ l) (hy : (p, y) ∈ l) : x = y := by
  have hs := laid_sorted l b t hl hk
  induction l generalizing b with
  | nil => cases hx
  | cons z l ih =>
    obtain ⟨q, u⟩ := z
    rw [List.map_cons, List.pairwise_cons] at hs
    have hno : ∀ v, (q, v) ∈ l → False := fun v hv => by
      have := hs.1 q (List.mem_map.2 ⟨_, hv, rfl⟩)
      omega
    rcases List.mem_cons.1 hx with e1 | hx'
    · rcases List.mem_cons.1 hy with e2 | hy'
      · injection e1 with _ e1; injection e2 with _ e2; rw [e1, e2]
      · injection e1 with e1 _; subst e1; exact (hno _ hy').elim
    · rcases List.mem_cons.1 hy with e2 | hy'
      · injection e2 with e2 _; subst e2; exact (hno _ hx').elim
      · exact ih hl.2 (fun z hz => hk z (.tail _ hz)) hx' hy' hs.2
/-- A word of an object turned: the heap with that object another one. -/
theorem HpIn.turn {w' : World} (h : HpIn w o l H vc vo vw vf f) (hk : H.ok) {p : Nat} {ob ob' : Ob} (hp : lk H.cur p = some ob) {k v : Nat} (hkk : k < ob.size)
    (hT : Turned w w' l.a l.wd (2 * H.size + 1) (upd f (p + k) v)) (ho : ObAt (upd f (p + k) v) p ob') :
    HpIn w' o l { H with cur := up H.cur p ob' } vc vo vw vf (upd f (p + k) v) := by
  have hm := lk_mem hp
  have hoh := h.oh
  have how := h.ow
  have hne : ∀ {c : Nat} {i : Nat}, o c = (l.id, i) → i ≠ 2 → c ≠ l.wd := fun hc hi e => by
    rw [e, how] at hc; injection hc with _ hc; exact hi hc.symm
  have hrow : ∀ {i : Nat} {v : Value} {n : Nat} {xs : List Value}, i ≠ 2 → Row w o (l.id, i) 3 1 v n xs → Row w' o (l.id, i) 3 1 v n xs := fun hi hr => by
    refine hr.stp (T := fun t => t = (l.id, 2)) (o' := o) ⟨hT.2.os, hT.2.tape, hT.2.output, hT.2.size, fun _ _ => rfl, fun b hb ht => hT.2.block b hb fun e => ht (by rw [e]; exact how)⟩ ?_
    intro e; injection e with _ e; exact hi e
  have hlen : (up H.cur p ob').length = H.cur.length := by simp [up]
  have hmap : ((up H.cur p ob').map fun x => nv x.1) = H.cur.map fun x => nv x.1 := by
    have := congrArg (List.map nv) (up_keys H.cur p ob')
    simpa [List.map_map, Function.comp_def] using this
  refine ⟨h.hb.wr hT.2 (hne hoh (by omega)), hT.1, ?_, hrow (by split <;> omega) h.ro, hrow (by omega) h.rw, hrow (by omega) h.rf, h.oh, h.oa, h.ow, ?_, ?_⟩
  · show Row w' o (l.id, if H.use then 4 else 3) _ 1 vc (up H.cur p ob').length _
    rw [hlen, hmap]
    exact hrow (by split <;> omega) h.rc
  · intro x hx
    obtain ⟨y, hy, rfl⟩ := List.mem_map.1 hx
    split
    · exact ho
    · rename_i e
      refine (h.obs y hy).of_eq (hk.ck y hy) fun j h1 h2 => ?_
      have h3 := laid_apart _ _ _ hk.cl hk.ck y hy (p, ob) hm e
      have h4 := rnd_ge _ (Ob.size_bd (hk.ck y hy)).2
      have h5 := rnd_ge _ (Ob.size_bd (hk.ck _ hm)).2
      simp only at h3 h5
      exact upd_ne _ _ _ _ (by omega)
  · intro x hx
    have h3 := Hp.apart hk hm hx
    have h4 : x.2.1.ok := hk.ok (x.1, x.2.1) (List.mem_map.2 ⟨x, hx, rfl⟩)
    have h5 := Ob.size_bd h4
    obtain ⟨g1, g2⟩ := h.olds x hx
    simp only at h3
    refine ⟨fun e => (g1 e).of_eq h4 fun j h1 h2 => upd_ne _ _ _ _ (by omega), fun q e => ?_⟩
    rw [upd_ne _ _ _ _ (by omega)]; exact g2 q e
theorem Hp.ok_up (hk : H.ok) {p : Nat} {ob ob' : Ob} (hp : lk H.cur p = some ob) (ho : ob'.ok) (hs : ob'.size = ob.size) : Hp.ok { H with cur := up H.cur p ob' } :=
  ⟨hk.sz, up_laid _ _ _ _ _ (fun y hy => by rw [hs, lk_uniq hk.cl hk.ck (lk_mem hp) hy]) hk.cl, up_oks hk.ck ho, hk.ol, hk.ok, hk.ot, hk.still, hk.owe, hk.room, hk.ser, hk.scn, hk.gone⟩
theorem HpIn.words_cell (h : HpIn w o l H vc vo vw vf f) : w.cell? ⟨l.h, 0, none⟩ = some (.pointer (some ⟨l.a, 0, none⟩)) := by
  rw [h.hb.cell]; unfold Hp.cells; split <;> rfl
theorem osetnum_at {a wd L at' : Nat} {ob : Ob} (h : Wds w a wd L f) (ho : ObAt f at' ob) (hk : ob.ok) (hl : at' + ob.size ≤ L) (i : Nat) (n : Int) (hi : i < ob.shp.d) (hn : -9223372036854775808 ≤ n ∧ n ≤ 9223372036854775807) :
    Calls Tryz.prog 102 #[.pointer (some ⟨a, 0, none⟩), .int .i64 at', .int .i64 i, .int .i64 n] w fun e w' => e = .returned (.int .i64 0) ∧ Turned w w' a wd L (upd f (at' + (3 + ob.shp.p + i)) (zig n).toNat) := by
  rw [show at' + (3 + ob.shp.p + i) = at' + 3 + ob.shp.p + i from by omega]
  exact osetnum_any h ho hk hl i n hi hn at' i rfl rfl
theorem here_yes (h : HpIn w o l H vc vo vw vf f) (hk : H.ok) {p : Nat} {ob : Ob} (hp : lk H.cur p = some ob) :
    Calls Tryz.prog 81 #[.pointer (some ⟨l.h, 0, none⟩), .int .i64 p] w fun e w' => e = .returned (.bool true) ∧ Below w.heap.size w w' := by
  have h1 := here_any h hk p p rfl
  rw [hp] at h1; exact h1
theorem here_no (h : HpIn w o l H vc vo vw vf f) (hk : H.ok) {p : Nat} (hp : lk H.cur p = none) :
    Calls Tryz.prog 81 #[.pointer (some ⟨l.h, 0, none⟩), .int .i64 p] w fun e w' => e = .returned (.bool false) ∧ Below w.heap.size w w' := by
  have h1 := here_any h hk p p rfl
  rw [hp] at h1; exact h1
end
end Go.Proofs.YtemohiainfllcaaGreat
