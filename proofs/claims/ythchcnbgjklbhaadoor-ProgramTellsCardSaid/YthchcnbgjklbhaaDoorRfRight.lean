/- Walk: the document's own Right. -/
import Derived.Test.YthchcnbgjklbhaaDoorRfNum
import Derived.Deep.Cut
import Derived.Deep.DeepCutAuto
namespace Go.Proofs.YthchcnbgjklbhaaDoor
open Go.RowKit
theorem drewBk {w : World} {b : Nat} {cs : Array Value} {t : TypeId} (h : Blk w b cs t) : Blk w.drew b cs t := h
theorem letters_len : ∀ (ps : List Pg.Pt), (letters ps).length = 2 * ps.length
  | [] => rfl
  | p :: ps => by
    have := letters_len ps
    simp only [letters, List.flatMap_cons, List.length_append, List.length_cons, List.length_nil] at *
    omega
theorem letters_at : ∀ (ps : List Pg.Pt) (j : Nat) (p : Pg.Pt), ps[j]? = some p →
    (letters ps)[2 * j]? = some (UInt8.ofNat (flet p.f).toNat) ∧ (letters ps)[2 * j + 1]? = some (UInt8.ofNat (clet p.hi).toNat)
  | [], j, p, h => by simp at h
  | q :: ps, 0, p, h => by
    simp only [List.getElem?_cons_zero, Option.some.injEq] at h
    subst h
    exact ⟨rfl, rfl⟩
  | q :: ps, j + 1, p, h => by
    have ih := letters_at ps j p (by simpa using h)
    have e : letters (q :: ps) = [UInt8.ofNat (flet q.f).toNat, UInt8.ofNat (clet q.hi).toNat] ++ letters ps := rfl
    rw [e, show 2 * (j + 1) = 2 * j + 2 from by omega]
    refine ⟨?_, ?_⟩
    · rw [List.getElem?_append_right (by simp)]; simpa using ih.1
    · rw [List.getElem?_append_right (by simp)]; simpa using ih.2
theorem flet_byte (f : Nat) : ((UInt8.ofNat (flet f).toNat).toNat : Int) = flet f := by
  unfold flet
  split
  · rfl
  · split
    · rfl
    · split <;> rfl
theorem clet_byte (h : Int) : ((UInt8.ofNat (clet h).toNat).toNat : Int) = clet h := by
  unfold clet
  split
  · rfl
  · split
    · rfl
    · split <;> rfl
theorem strB_at {l : List UInt8} {m : Nat} {c : UInt8} (h : l[m]? = some c) (hm : m < (strB l).size) : (strB l)[m]'hm = c := by
  obtain ⟨h0, h1⟩ := List.getElem?_eq_some_iff.1 h
  exact h1
theorem parts_class {k : Int} : ∀ p ∈ Pg.parts k, (p.lo = 0 ∧ (p.hi = 5 ∨ p.hi = 7 ∨ p.hi = 4)) ∨ (p.lo = -1000000 ∧ p.hi = 1000000) := by
  intro p hp
  by_cases h : 1 ≤ k ∧ k ≤ 14
  · rcases Pg.kinds h with rfl | rfl | rfl | rfl | rfl | rfl | rfl | rfl | rfl | rfl | rfl | rfl | rfl | rfl <;>
      simp [Pg.parts, Pg.pa, Pg.pb, Pg.pf, Pg.ps, Pg.pn, Pg.pv] at hp <;> (try rcases hp with rfl | rfl | rfl) <;> (try rcases hp with rfl | rfl) <;> (try subst hp) <;> simp
  · unfold Pg.parts at hp
    repeat (rw [if_neg (by omega)] at hp)
    cases hp
theorem rset_to (k a b i n v : Int) (f : Nat) (hf : f = 1 ∨ f = 2 ∨ f = 3 ∨ f = 4) {y0 y1 y2 y3 y4 : Int} (hy : Pg.D.set ⟨k, a, b, i, n⟩ f v = ⟨y0, y1, y2, y3, y4⟩) (w : World) :
    Calls Tryd.prog 26 #[.agg #[.int .i64 k, .int .i64 a, .int .i64 b, .int .i64 i, .int .i64 n], .int .u8 (flet f), .int .i64 v] w fun e w' =>
      e = .returned (.agg #[.int .i64 y0, .int .i64 y1, .int .i64 y2, .int .i64 y3, .int .i64 y4]) ∧ Below w.heap.size w w' := by
  have h := rset_any k a b i n v f hf w
  rw [hy] at h
  exact h
def RRightSaid (k a b i n : Int) (w : World) : Prop := Calls Tryd.prog 16 #[.agg #[.int .i64 k, .int .i64 a, .int .i64 b, .int .i64 i, .int .i64 n]] w fun e w' =>
    e = .returned (.bool (Pg.right ⟨k, a, b, i, n⟩)) ∧ Below w.heap.size w w'
set_option maxRecDepth 100000 in
set_option maxHeartbeats 4000000 in
theorem rright_some (k a b i n : Int) (hk : 1 ≤ k ∧ k ≤ 14) (w : World) : RRightSaid k a b i n w := by
  unfold RRightSaid
  have hne : w.heap.size ≠ w.heap.size + 1 := by omega
  have hge : w.heap.size ≤ w.heap.size + 1 := by omega
  have hlen : (Pg.parts k).length ≤ 3 := (Pg.word_len k hk).2.2.1
  have hfs : ∀ p ∈ Pg.parts k, p.f = 1 ∨ p.f = 2 ∨ p.f = 3 ∨ p.f = 4 := fun p hp => by have := Pg.parts_bd p hp; omega
  have hcl := parts_class (k := k)
  obtain ⟨ps, hps⟩ : ∃ ps, ps = Pg.parts k := ⟨_, rfl⟩
  obtain ⟨L, hL⟩ : ∃ L, L = strB (letters ps) := ⟨_, rfl⟩
  have hLs : L.size = 2 * ps.length := by rw [hL, strB_size, letters_len]
  rw [← hps] at hlen hfs hcl
  have hat : ∀ (j : Nat) (p : Pg.Pt), ps[j]? = some p → ∃ (h1 : 2 * j < L.size) (h2 : 2 * j + 1 < L.size), ((L[2 * j]'h1).toNat : Int) = flet p.f ∧ ((L[2 * j + 1]'h2).toNat : Int) = clet p.hi := by
    intro j p hp
    have hj := (List.getElem?_eq_some_iff.1 hp).1
    refine ⟨by omega, by omega, ?_, ?_⟩
    · subst hL
      rw [strB_at (letters_at ps j p hp).1, flet_byte]
    · subst hL
      rw [strB_at (letters_at ps j p hp).2, clet_byte]
  have HF := Lib.hid (rform_any k)
  unfold RFormSaid at HF
  rw [← hps, ← hL, decide_eq_true hk] at HF
  have HFS := Lib.hid hfs
  have HCL := Lib.hid hcl
  have HAT := Lib.hid hat
  have HPS := Lib.hid hps
  clear hfs hcl hat hps hL
  go_enter Tryd.func16, Tryd.ntmps16
  go_wp2_with fail
  refine (HF.out _).mono ?_
  rintro e w1 ⟨rfl, rfl⟩
  go_wp2_with fail
  have hA0 : Blk ((w.alloc (.cells #[.int .i64 k, .int .i64 a, .int .i64 b, .int .i64 i, .int .i64 n] 23)).alloc (.cells #[.int .i64 k, .int .i64 0, .int .i64 0, .int .i64 0, .int .i64 0] 23)) w.heap.size (dcells ⟨k, a, b, i, n⟩) 23 := (Blk.new _ _ _).alloc _
  have hB0 : Blk ((w.alloc (.cells #[.int .i64 k, .int .i64 a, .int .i64 b, .int .i64 i, .int .i64 n] 23)).alloc (.cells #[.int .i64 k, .int .i64 0, .int .i64 0, .int .i64 0, .int .i64 0] 23)) (w.heap.size + 1) (dcells (Pg.pre ⟨k, a, b, i, n⟩ [])) 23 := Blk.new_at _ _ _ _ _ (by simp) rfl
  go_loopw [7] (fun ix wr => ∃ j m : Nat, ix = .int .i64 m ∧ m = 2 * j ∧ j ≤ ps.length ∧ Blk wr w.heap.size (dcells ⟨k, a, b, i, n⟩) 23 ∧ Blk wr (w.heap.size + 1) (dcells (Pg.pre ⟨k, a, b, i, n⟩ (ps.take j))) 23 ∧ Hid (∀ p ∈ ps.take j, p.lo ≤ Pg.D.get ⟨k, a, b, i, n⟩ p.f ∧ Pg.D.get ⟨k, a, b, i, n⟩ p.f ≤ p.hi) ∧ Below w.heap.size w wr) (fun ix _ => 2 * ps.length - (intOf ix).toNat)
  case atStart => exact ⟨0, 0, rfl, rfl, by omega, hA0, hB0, Lib.hid (by simp), balloc (balloc (Below.refl _ _) _) _⟩
  case round =>
    clear hA0 hB0
    obtain ⟨j, m, rfl, hm, hj, jA, jB, hall, hbr⟩ := hrel
    obtain ⟨wo, rfl⟩ : ∃ wo : World, wo = wr := ⟨_, rfl⟩
    have cA := jA.cell
    have sA := jA.lt
    have cB := jB.cell
    have sB := jB.lt
    by_cases hlt : j < ps.length
    · obtain ⟨p, hpj⟩ : ∃ p, ps[j]? = some p := ⟨ps[j], List.getElem?_eq_getElem hlt⟩
      have hsn := pre_snoc ⟨k, a, b, i, n⟩ (ps.take j) p
      rw [← take_snoc' ps j p hpj] at hsn
      have hpf := HFS.out p (List.mem_of_getElem? hpj)
      have hpc := HCL.out p (List.mem_of_getElem? hpj)
      obtain ⟨h1, h2, q1, q2⟩ : ∃ (h1 : m < L.size) (h2 : m + 1 < L.size), ((L[m]'h1).toNat : Int) = flet p.f ∧ ((L[m + 1]'h2).toNat : Int) = clet p.hi := by
        subst hm; exact HAT.out j p hpj
      have hall2 : (p.lo ≤ Pg.D.get ⟨k, a, b, i, n⟩ p.f ∧ Pg.D.get ⟨k, a, b, i, n⟩ p.f ≤ p.hi) → ∀ q ∈ ps.take (j + 1), q.lo ≤ Pg.D.get ⟨k, a, b, i, n⟩ q.f ∧ Pg.D.get ⟨k, a, b, i, n⟩ q.f ≤ q.hi := by
        intro h q hq
        rw [take_snoc' ps j p hpj] at hq
        rcases List.mem_append.1 hq with hq | hq
        · exact hall.out q hq
        · obtain rfl : q = p := by simpa using hq
          exact h
      have hno : ¬ (p.lo ≤ Pg.D.get ⟨k, a, b, i, n⟩ p.f ∧ Pg.D.get ⟨k, a, b, i, n⟩ p.f ≤ p.hi) → Pg.right ⟨k, a, b, i, n⟩ = false := fun h => right_false (p := p) (by show p ∈ Pg.parts k; rw [← HPS.out]; exact List.mem_of_getElem? hpj) (by omega)
      have hml : (m : Int) < 2 * (ps.length : Int) := by omega
      have HM := Lib.hid hm
      clear hm
      have HSN := Lib.hid hsn
      have HALL := Lib.hid hall2
      have HNO := Lib.hid hno
      have HPF := Lib.hid hpf
      have HPC := Lib.hid hpc
      clear hsn hall2 hno hpf hpc hpj
      simp only [dcells] at cA
      obtain ⟨x1, x2, x3, x4, hx⟩ : ∃ x1 x2 x3 x4, Pg.pre ⟨k, a, b, i, n⟩ (ps.take j) = ⟨k, x1, x2, x3, x4⟩ := by
        have hxk := pre_k ⟨k, a, b, i, n⟩ (ps.take j)
        generalize Pg.pre ⟨k, a, b, i, n⟩ (ps.take j) = x at hxk
        obtain ⟨xk, x1, x2, x3, x4⟩ := x
        simp only at hxk
        exact ⟨x1, x2, x3, x4, by rw [hxk]⟩
      rw [hx] at jB
      obtain ⟨v, hv⟩ : ∃ v, v = Pg.D.get ⟨k, a, b, i, n⟩ p.f := ⟨_, rfl⟩
      obtain ⟨y0, y1, y2, y3, y4, hy⟩ : ∃ y0 y1 y2 y3 y4, Pg.D.set ⟨k, x1, x2, x3, x4⟩ p.f v = ⟨y0, y1, y2, y3, y4⟩ := ⟨_, _, _, _, _, rfl⟩
      have HG := Lib.hid (rget_any k a b i n p.f HPF.out)
      rw [← hv] at HG
      have HX := Lib.hid hx
      have HV := Lib.hid hv
      have HY := Lib.hid hy
      clear cB hx hv hy
      go_upto_region 8 with fail
      go_cut [8] (fun u wx => u = .int .i64 v ∧ Blk wx w.heap.size (dcells ⟨k, a, b, i, n⟩) 23 ∧ Blk wx (w.heap.size + 1) (dcells ⟨k, x1, x2, x3, x4⟩) 23 ∧ Below w.heap.size w wx)
      case first =>
        go_region_with (first | (go_at_call 24; refine (HG.out _).mono ?_; rintro e w2 ⟨rfl, hb2⟩) | fail)
        all_goals
          go_wp2_with fail
          go_meet
          exact ⟨rfl, (drewBk jA).below hb2 (drewBk jA).lt, (drewBk jB).below hb2 (drewBk jB).lt, btrans (Below.drew hbr) hb2⟩
      case rest =>
        clear jA jB hbr cA sA sB
        obtain ⟨rfl, jA, jB, hbr⟩ := hcut
        by_cases hin : p.lo ≤ v ∧ v ≤ p.hi
        · go_wp2_with fail
          refine (rmay_any v p.lo p.hi HPC.out _).mono ?_
          rw [decide_eq_true hin]
          rintro e w2' ⟨rfl, rfl⟩
          rw [HV.out] at hin
          have hall3 := Lib.hid (HALL.out hin)
          clear hin
          have cB := jB.cell
          have sB := jB.lt
          simp only [dcells] at cB
          go_upto_region 12 with fail
          go_region_with (first | (go_at_call 26; refine (rset_to k x1 x2 x3 x4 v p.f HPF.out HY.out _).mono ?_; rintro e w3 ⟨rfl, hb3⟩; have jB3 := (drewBk jB).below hb3 (drewBk jB).lt; have c3 := jB3.cell; have s3 := jB3.lt; have z3 := jB3.free; simp only [dcells] at c3) | fail)
          all_goals
            go_wp2_with fail
            have hm := HM.out
            refine ⟨⟨j + 1, m + 2, by simp, by omega, by omega, ?_, ?_, hall3, ?_⟩, by simp [intOf]; omega⟩
            · exact (((((drewBk jA).below hb3 (drewBk jA).lt).set_other hne _).set_other hne _).set_other hne _).set_other hne _ |>.set_other hne _
            · rw [HSN.out, HX.out, ← HV.out, HY.out]
              exact ((((jB3.set 0 _).set 1 _).set 2 _).set 3 _).set 4 _
            · exact bset (bset (bset (bset (bset (btrans (Below.drew hbr) hb3) hge _) hge _) hge _) hge _) hge _
        · go_wp2_with fail
          refine (rmay_any v p.lo p.hi HPC.out _).mono ?_
          rw [decide_eq_false hin]
          rintro e w2' ⟨rfl, rfl⟩
          rw [HV.out] at hin
          have hno2 := HNO.out hin
          clear hin
          have HN2 := Lib.hid hno2
          clear hno2
          go_wp2_with fail
          go_ret
          exact ⟨by rw [HN2.out]; rfl, hbr⟩
    · obtain rfl : j = ps.length := by omega
      have hml : ¬ (m : Int) < 2 * (ps.length : Int) := by omega
      clear hm
      rw [List.take_length] at jB hall
      have hx : (Pg.pre ⟨k, a, b, i, n⟩ ps) = Pg.strip ⟨k, a, b, i, n⟩ := by unfold Pg.strip; rw [show (⟨k, a, b, i, n⟩ : Pg.D).k = k from rfl, ← HPS.out]; rfl
      have hxk : (Pg.pre ⟨k, a, b, i, n⟩ ps).k = k := pre_k _ _
      have hf0 : Pg.right ⟨k, a, b, i, n⟩ = decide (Pg.pre ⟨k, a, b, i, n⟩ ps = ⟨k, a, b, i, n⟩) := by
        rw [right_end hk (fun p hp => hall.out p (by rw [HPS.out]; exact hp)), hx]
      clear cB hx
      generalize Pg.pre ⟨k, a, b, i, n⟩ ps = x at jB hf0 hxk
      obtain ⟨xk, x1, x2, x3, x4⟩ := x
      obtain rfl : k = xk := hxk.symm
      have HF0 := Lib.hid hf0
      clear hf0 hall hxk
      have cB := jB.cell
      simp only [dcells] at cA cB
      clear jA jB
      have hc : (x1 = a ∧ x2 = b ∧ x3 = i ∧ x4 = n) ∨ ¬ x1 = a ∨ (x1 = a ∧ ¬ x2 = b) ∨ (x1 = a ∧ x2 = b ∧ ¬ x3 = i) ∨ (x1 = a ∧ x2 = b ∧ x3 = i ∧ ¬ x4 = n) := by omega
      rcases hc with ⟨rfl, rfl, rfl, rfl⟩ | h | ⟨rfl, h⟩ | ⟨rfl, rfl, h⟩ | ⟨rfl, rfl, rfl, h⟩
      · go_wp2
        go_ret
        refine ⟨?_, hbr⟩
        rw [HF0.out]
        simp
      all_goals
        have h' := beq_eq_false_iff_ne.2 h
        go_wp2
        go_ret
        refine ⟨?_, hbr⟩
        rw [HF0.out]
        simp [h]
theorem rright_none (k a b i n : Int) (hk : ¬ (1 ≤ k ∧ k ≤ 14)) (w : World) : RRightSaid k a b i n w := by
  unfold RRightSaid
  have hf : Pg.right ⟨k, a, b, i, n⟩ = false := by
    unfold Pg.right
    rw [show decide (1 ≤ (⟨k, a, b, i, n⟩ : Pg.D).k ∧ (⟨k, a, b, i, n⟩ : Pg.D).k ≤ 14) = false from decide_eq_false hk]
    rfl
  rw [hf]
  have HF := Lib.hid (rform_any k)
  unfold RFormSaid at HF
  rw [decide_eq_false hk] at HF
  clear hf hk
  go_enter Tryd.func16, Tryd.ntmps16
  go_wp2_with fail
  refine (HF.out _).mono ?_
  rintro e w1 ⟨rfl, rfl⟩
  go_wp2_with fail
  go_ret
  exact ⟨rfl, balloc (Below.refl _ _) _⟩
/-- Whether a deed is right, as the document has it. -/
theorem rright_any (k a b i n : Int) (w : World) : RRightSaid k a b i n w := by
  by_cases hk : 1 ≤ k ∧ k ≤ 14
  · exact rright_some k a b i n hk w
  · exact rright_none k a b i n hk w
end Go.Proofs.YthchcnbgjklbhaaDoor
