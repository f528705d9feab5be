/- Walk: whether a deed is right (Right). -/
import Derived.Test.YtemohiainfllcaaGreatMj
import Derived.Deep.Cut
import Derived.Deep.DeepCutAuto
namespace Go.Proofs.YtemohiainfllcaaGreat
open Go.RowKit
/-- A deed's five cells. -/
def dcells (d : Pg.D) : Array Value := #[.int .i64 d.k, .int .i64 d.a, .int .i64 d.b, .int .i64 d.i, .int .i64 d.n]
theorem wordB_some {k : Int} (h : 1 ≤ k ∧ k ≤ 14) : (wordB k).toList.isEmpty = false := by
  rcases Pg.kinds h with rfl | rfl | rfl | rfl | rfl | rfl | rfl | rfl | rfl | rfl | rfl | rfl | rfl | rfl <;> decide +kernel
theorem pcells_at : ∀ (ps : List Pg.Pt) (j : Nat) (p : Pg.Pt), ps[j]? = some p →
    (pcells ps)[j * 3]? = some (pfn p.f) ∧ (pcells ps)[j * 3 + 1]? = some (.int .i64 p.lo) ∧ (pcells ps)[j * 3 + 2]? = some (.int .i64 p.hi)
  | [], j, p, h => by simp at h
  | q :: ps, 0, p, h => by
    simp only [List.getElem?_cons_zero, Option.some.injEq] at h
    subst h
    exact ⟨rfl, rfl, rfl⟩
  | q :: ps, j + 1, p, h => by
    have ih := pcells_at ps j p (by simpa using h)
    have e : pcells (q :: ps) = [pfn q.f, .int .i64 q.lo, .int .i64 q.hi] ++ pcells ps := rfl
    rw [e, show (j + 1) * 3 = j * 3 + 3 from by omega]
    refine ⟨?_, ?_, ?_⟩
    · rw [List.getElem?_append_right (by simp)]; simpa using ih.1
    · rw [List.getElem?_append_right (by simp)]; simpa using ih.2.1
    · rw [List.getElem?_append_right (by simp)]; simpa using ih.2.2
/-- What the loop has made of the bare deed. -/
def Pg.pre (d : Pg.D) (ps : List Pg.Pt) : Pg.D := ps.foldl (fun x p => x.set p.f (d.get p.f)) (Pg.bare d.k)
theorem pre_snoc (d : Pg.D) (ps : List Pg.Pt) (p : Pg.Pt) : Pg.pre d (ps ++ [p]) = (Pg.pre d ps).set p.f (d.get p.f) := by simp [Pg.pre]
theorem set_k (d : Pg.D) (f : Nat) (v : Int) : (d.set f v).k = d.k := by unfold Pg.D.set; split <;> rfl
theorem fold_k (d : Pg.D) : ∀ (ps : List Pg.Pt) (x : Pg.D), (ps.foldl (fun x p => x.set p.f (d.get p.f)) x).k = x.k
  | [], _ => rfl
  | p :: ps, x => by rw [List.foldl_cons, fold_k d ps, set_k]
theorem pre_k (d : Pg.D) (ps : List Pg.Pt) : (Pg.pre d ps).k = d.k := fold_k d ps _
theorem dcells_set (x : Pg.D) (v : Int) : dcells (x.set 1 v) = (dcells x).setIfInBounds 1 (.int .i64 v) ∧ dcells (x.set 2 v) = (dcells x).setIfInBounds 2 (.int .i64 v)
    ∧ dcells (x.set 3 v) = (dcells x).setIfInBounds 3 (.int .i64 v) ∧ dcells (x.set 4 v) = (dcells x).setIfInBounds 4 (.int .i64 v) := ⟨rfl, rfl, rfl, rfl⟩
theorem right_false {d : Pg.D} {p : Pg.Pt} (hp : p ∈ Pg.parts d.k) (h : d.get p.f < p.lo ∨ p.hi < d.get p.f) : Pg.right d = false := by
  cases hr : Pg.right d with
  | false => rfl
  | true => have := Pg.right_parts hr p hp; omega
theorem right_end {d : Pg.D} (hk : 1 ≤ d.k ∧ d.k ≤ 14) (h : ∀ p ∈ Pg.parts d.k, p.lo ≤ d.get p.f ∧ d.get p.f ≤ p.hi) : Pg.right d = decide (Pg.strip d = d) := by
  have h1 : decide (1 ≤ d.k ∧ d.k ≤ 14) = true := decide_eq_true hk
  have h2 : (Pg.parts d.k).all (fun p => decide (p.lo ≤ d.get p.f ∧ d.get p.f ≤ p.hi)) = true := by
    rw [List.all_eq_true]; exact fun p hp => decide_eq_true (h p hp)
  unfold Pg.right
  rw [h1, h2]; rfl
theorem take_snoc' {α : Type} (l : List α) (j : Nat) (p : α) (h : l[j]? = some p) : l.take (j + 1) = l.take j ++ [p] := by
  rw [List.take_add_one, h]; rfl
set_option maxHeartbeats 2000000 in
theorem right_some (k a b i n : Int) (hk : 1 ≤ k ∧ k ≤ 14) (w : World) : Calls Tryz.prog 75 #[.agg #[.int .i64 k, .int .i64 a, .int .i64 b, .int .i64 i, .int .i64 n]] w fun e w' =>
    e = .returned (.bool (Pg.right ⟨k, a, b, i, n⟩)) ∧ Below w.heap.size w w' := by
  have hwd := wordB_some hk
  go_enter Tryz.func75, Tryz.ntmps75
  go_wp2_with fail
  refine (form_any k _).mono ?_
  rintro e w1 ⟨v, rfl, hp, hb⟩
  have hB : Blk w1 w.heap.size (dcells ⟨k, a, b, i, n⟩) 52 := (Blk.new w _ _).below hb (by simp)
  have c1 := hB.cell
  have s1 := hB.lt
  simp only [dcells] at c1
  go_upto_region 4 with fail
  go_cut [5, 6] (fun vh vb wx => ∃ H B, vh = .pointer (some ⟨H, 0, none⟩) ∧ vb = .pointer (some ⟨B, 0, none⟩) ∧ H ≠ B ∧ w1.heap.size ≤ H ∧ w1.heap.size ≤ B ∧ Blk wx H (dcells ⟨k, a, b, i, n⟩) 189 ∧ Blk wx B (dcells (Pg.bare k)) 189 ∧ Below w1.heap.size w1 wx)
  case first =>
    go_region
    · go_wp2_with fail
      go_meet
      exact ⟨_, _, rfl, rfl, by omega, by omega, by omega, (Blk.new_at _ _ _ _ _ (by simp) rfl).alloc _, Blk.new_at _ _ _ _ _ (by simp) rfl, Below.drew (balloc (balloc (Below.refl _ _) _) _)⟩
    · go_wp2_with fail
      go_meet
      exact ⟨_, _, rfl, rfl, by omega, by omega, by omega, Blk.new_at _ _ _ _ _ (by simp) rfl, (Blk.new_at _ _ _ _ _ (by simp) rfl).alloc _, Below.drew (balloc (balloc (Below.refl _ _) _) _)⟩
  case rest =>
    obtain ⟨H, B, rfl, rfl, hne, hH, hBl, kH, kB, hb2⟩ := hcut
    have hle : w.heap.size < w1.heap.size := by have := hB.lt; omega
    rcases hp with ⟨hp, rfl⟩ | ⟨g, rfl, hg⟩
    · have hbw : Below w.heap.size w wc := btrans (btrans (balloc (Below.refl _ _) _) hb) hb2
      have hx : Pg.strip ⟨k, a, b, i, n⟩ = Pg.bare k := by unfold Pg.strip; rw [show (⟨k, a, b, i, n⟩ : Pg.D).k = k from rfl, hp]; rfl
      have hf : Pg.right ⟨k, a, b, i, n⟩ = decide ((⟨k, 0, 0, 0, 0⟩ : Pg.D) = ⟨k, a, b, i, n⟩) := by
        rw [right_end hk (fun p hq => by rw [show Pg.parts k = [] from hp] at hq; cases hq), hx]; rfl
      have HF := Lib.hid hf
      clear hf
      have cH := kH.cell
      have sH := kH.lt
      have sB := kB.lt
      have cB := kB.cell
      simp only [dcells, Pg.bare] at cH cB
      clear hx hp
      go_wp2_with fail
      refine wp_loop_rounds 1 ?_; rw [rounds_succ]
      go_wp2
      all_goals
        go_ret
        refine ⟨?_, hbw⟩
        rw [HF.out]
        first | (simp [*]; done) | (simp [*]; intros; omega)
    · have hg' := hg.below hb2 hg.lt
      have hsg := hg.lt
      have hbw : Below w.heap.size w wc := btrans (btrans (balloc (Below.refl _ _) _) hb) hb2
      have hlen : (Pg.parts k).length ≤ 3 := (Pg.word_len k hk).2.2.1
      have hfs : ∀ p ∈ Pg.parts k, p.f = 1 ∨ p.f = 2 ∨ p.f = 3 ∨ p.f = 4 := fun p hp => by have := Pg.parts_bd p hp; omega
      generalize hps : Pg.parts k = ps at *
      have HPS := Lib.hid hps
      clear hps
      go_wp2_with fail
      go_loopw [24, 8, 9] (fun ix _ _ wr => ∃ j : Nat, ix = .int .i64 j ∧ j ≤ ps.length ∧ Blk wr H (dcells ⟨k, a, b, i, n⟩) 189 ∧ Blk wr B (dcells (Pg.pre ⟨k, a, b, i, n⟩ (ps.take j))) 189 ∧ (∀ p ∈ ps.take j, p.lo ≤ (⟨k, a, b, i, n⟩ : Pg.D).get p.f ∧ (⟨k, a, b, i, n⟩ : Pg.D).get p.f ≤ p.hi) ∧ Blk wr g (pcells ps).toArray 192 ∧ Below w.heap.size w wr) (fun ix _ _ _ => ps.length - (intOf ix).toNat)
      case atStart => exact ⟨0, rfl, by omega, kH, kB, by simp, hg', hbw⟩
      case round =>
        obtain ⟨j, rfl, hj, jH, jB, hall, jg, hbr⟩ := hrel
        by_cases hlt : j < ps.length
        · obtain ⟨p, hpj⟩ : ∃ p, ps[j]? = some p := ⟨ps[j], List.getElem?_eq_getElem hlt⟩
          have hsn := take_snoc' ps j p hpj
          have hps := pre_snoc ⟨k, a, b, i, n⟩ (ps.take j) p
          rw [← hsn] at hps
          have hpf := hfs p (List.mem_of_getElem? hpj)
          have hat := pcells_at ps j p hpj
          have hsnm : ∀ q ∈ ps.take (j + 1), q ∈ ps.take j ∨ q = p := by rw [hsn]; simp
          have HPP := Lib.hid hps
          clear hps hsn
          obtain ⟨f, lo, hi⟩ := p
          simp only at hpf hat
          have q0 := (jg.cell (j * 3)).trans (by simpa using hat.1)
          have q1 := (jg.cell (j * 3 + 1)).trans (by simpa using hat.2.1)
          have q2 := (jg.cell (j * 3 + 2)).trans (by simpa using hat.2.2)
          have cH := jH.cell
          have sH := jH.lt
          have sB := jB.lt
          have zB := jB.free
          have cB : ∃ x1 x2 x3 x4, ∀ i, wr.cell? ⟨B, i, none⟩ = #[Value.int .i64 k, Value.int .i64 x1, Value.int .i64 x2, Value.int .i64 x3, Value.int .i64 x4][i]? := by
            obtain ⟨x, hx⟩ : ∃ x, x = Pg.pre ⟨k, a, b, i, n⟩ (ps.take j) := ⟨_, rfl⟩
            have hxk : x.k = k := by rw [hx]; exact pre_k _ _
            have := jB.cell
            rw [← hx] at this
            exact ⟨x.a, x.b, x.i, x.n, by rw [← hxk]; exact this⟩
          obtain ⟨x1, x2, x3, x4, cB⟩ := cB
          simp only [dcells] at cH
          clear hat hg hg' kH kB
          rcases hpf with rfl | rfl | rfl | rfl
          all_goals simp only [pfn] at q0
          · have hno : a < lo ∨ hi < a → Pg.right ⟨k, a, b, i, n⟩ = false := fun h => right_false (p := ⟨1, lo, hi⟩) (by show _ ∈ Pg.parts k; rw [HPS.out]; exact List.mem_of_getElem? hpj) h
            have HNO := Lib.hid hno
            clear hno
            go_wp2
            · have h : a < lo ∨ hi < a := by assumption
              go_ret
              rw [HNO.out h]
              exact ⟨rfl, balloc hbr _⟩
            · have h : lo ≤ a ∧ a ≤ hi := by assumption
              go_roundw
              case rel =>
                refine ⟨j + 1, by go_num, by omega, (jH.set_other (a := ⟨B, 1, none⟩) hne _).alloc _, ?_, ?_, (jg.set_other (a := ⟨B, 1, none⟩) (by simp; omega) _).alloc _, balloc (bset hbr (by simp; omega) _) _⟩
                · rw [HPP.out]
                  exact (jB.set 1 _).alloc _
                · intro q hq
                  rcases hsnm q hq with hq | rfl
                  · exact hall q hq
                  · exact h
              case measure => simp [intOf]; omega
            · have h : a < lo := by assumption
              go_ret
              rw [HNO.out (.inl h)]
              exact ⟨rfl, balloc hbr _⟩
          · have hno : b < lo ∨ hi < b → Pg.right ⟨k, a, b, i, n⟩ = false := fun h => right_false (p := ⟨2, lo, hi⟩) (by show _ ∈ Pg.parts k; rw [HPS.out]; exact List.mem_of_getElem? hpj) h
            have HNO := Lib.hid hno
            clear hno
            go_wp2
            · have h : b < lo ∨ hi < b := by assumption
              go_ret
              rw [HNO.out h]
              exact ⟨rfl, balloc hbr _⟩
            · have h : lo ≤ b ∧ b ≤ hi := by assumption
              go_roundw
              case rel =>
                refine ⟨j + 1, by go_num, by omega, (jH.set_other (a := ⟨B, 2, none⟩) hne _).alloc _, ?_, ?_, (jg.set_other (a := ⟨B, 2, none⟩) (by simp; omega) _).alloc _, balloc (bset hbr (by simp; omega) _) _⟩
                · rw [HPP.out]
                  exact (jB.set 2 _).alloc _
                · intro q hq
                  rcases hsnm q hq with hq | rfl
                  · exact hall q hq
                  · exact h
              case measure => simp [intOf]; omega
            · have h : b < lo := by assumption
              go_ret
              rw [HNO.out (.inl h)]
              exact ⟨rfl, balloc hbr _⟩
          · have hno : i < lo ∨ hi < i → Pg.right ⟨k, a, b, i, n⟩ = false := fun h => right_false (p := ⟨3, lo, hi⟩) (by show _ ∈ Pg.parts k; rw [HPS.out]; exact List.mem_of_getElem? hpj) h
            have HNO := Lib.hid hno
            clear hno
            go_wp2
            · have h : i < lo ∨ hi < i := by assumption
              go_ret
              rw [HNO.out h]
              exact ⟨rfl, balloc hbr _⟩
            · have h : lo ≤ i ∧ i ≤ hi := by assumption
              go_roundw
              case rel =>
                refine ⟨j + 1, by go_num, by omega, (jH.set_other (a := ⟨B, 3, none⟩) hne _).alloc _, ?_, ?_, (jg.set_other (a := ⟨B, 3, none⟩) (by simp; omega) _).alloc _, balloc (bset hbr (by simp; omega) _) _⟩
                · rw [HPP.out]
                  exact (jB.set 3 _).alloc _
                · intro q hq
                  rcases hsnm q hq with hq | rfl
                  · exact hall q hq
                  · exact h
              case measure => simp [intOf]; omega
            · have h : i < lo := by assumption
              go_ret
              rw [HNO.out (.inl h)]
              exact ⟨rfl, balloc hbr _⟩
          · have hno : n < lo ∨ hi < n → Pg.right ⟨k, a, b, i, n⟩ = false := fun h => right_false (p := ⟨4, lo, hi⟩) (by show _ ∈ Pg.parts k; rw [HPS.out]; exact List.mem_of_getElem? hpj) h
            have HNO := Lib.hid hno
            clear hno
            go_wp2
            · have h : n < lo ∨ hi < n := by assumption
              go_ret
              rw [HNO.out h]
              exact ⟨rfl, balloc hbr _⟩
            · have h : lo ≤ n ∧ n ≤ hi := by assumption
              go_roundw
              case rel =>
                refine ⟨j + 1, by go_num, by omega, (jH.set_other (a := ⟨B, 4, none⟩) hne _).alloc _, ?_, ?_, (jg.set_other (a := ⟨B, 4, none⟩) (by simp; omega) _).alloc _, balloc (bset hbr (by simp; omega) _) _⟩
                · rw [HPP.out]
                  exact (jB.set 4 _).alloc _
                · intro q hq
                  rcases hsnm q hq with hq | rfl
                  · exact hall q hq
                  · exact h
              case measure => simp [intOf]; omega
            · have h : n < lo := by assumption
              go_ret
              rw [HNO.out (.inl h)]
              exact ⟨rfl, balloc hbr _⟩
        · obtain rfl : j = ps.length := by omega
          rw [List.take_length] at jB hall
          have cH := jH.cell
          have sH := jH.lt
          have sB := jB.lt
          have cB := jB.cell
          have hx : (Pg.pre ⟨k, a, b, i, n⟩ ps) = Pg.strip ⟨k, a, b, i, n⟩ := by unfold Pg.strip; rw [show (⟨k, a, b, i, n⟩ : Pg.D).k = k from rfl, HPS.out]; rfl
          have hxk : (Pg.pre ⟨k, a, b, i, n⟩ ps).k = k := pre_k _ _
          generalize Pg.pre ⟨k, a, b, i, n⟩ ps = x at *
          obtain ⟨xk, x1, x2, x3, x4⟩ := x
          obtain rfl : k = xk := hxk.symm
          have hf : Pg.right ⟨k, a, b, i, n⟩ = decide ((⟨k, x1, x2, x3, x4⟩ : Pg.D) = ⟨k, a, b, i, n⟩) := by
            rw [right_end hk (fun p hp => hall p (by rw [← HPS.out]; exact hp)), hx]
          have HF := Lib.hid hf
          clear hf
          simp only [dcells] at cH cB
          clear hx hall hg hg' kH kB
          clear HPS
          have hc : (a = x1 ∧ b = x2 ∧ i = x3 ∧ n = x4) ∨ ¬ a = x1 ∨ (a = x1 ∧ ¬ b = x2) ∨ (a = x1 ∧ b = x2 ∧ ¬ i = x3) ∨ (a = x1 ∧ b = x2 ∧ i = x3 ∧ ¬ n = x4) := by omega
          rcases hc with ⟨rfl, rfl, rfl, rfl⟩ | h | ⟨rfl, h⟩ | ⟨rfl, rfl, h⟩ | ⟨rfl, rfl, rfl, h⟩
          · go_wp2
            go_ret
            refine ⟨?_, hbr⟩
            rw [HF.out]
            simp
          all_goals
            have h' := beq_eq_false_iff_ne.2 h
            go_wp2
            go_ret
            refine ⟨?_, hbr⟩
            rw [HF.out]
            simp [Ne.symm h]
theorem right_none (k a b i n : Int) (hk : ¬ (1 ≤ k ∧ k ≤ 14)) (w : World) : Calls Tryz.prog 75 #[.agg #[.int .i64 k, .int .i64 a, .int .i64 b, .int .i64 i, .int .i64 n]] w fun e w' =>
    e = .returned (.bool (Pg.right ⟨k, a, b, i, n⟩)) ∧ Below w.heap.size w w' := by
  have hw : wordB k = ⟨#[]⟩ := by
    unfold wordB Pg.wordS
    repeat (rw [if_neg (by omega)])
    rfl
  have hf : Pg.right ⟨k, a, b, i, n⟩ = false := by
    unfold Pg.right
    rw [show decide (1 ≤ (⟨k, a, b, i, n⟩ : Pg.D).k ∧ (⟨k, a, b, i, n⟩ : Pg.D).k ≤ 14) = false from decide_eq_false hk]
    rfl
  have hwd : (wordB k).toList.isEmpty = true := by rw [hw]; decide +kernel
  rw [hf]
  clear hf hw
  go_enter Tryz.func75, Tryz.ntmps75
  go_wp2_with fail
  refine (form_any k _).mono ?_
  rintro e w1 ⟨v, rfl, hp, hb⟩
  go_wp2_with fail
  go_ret
  exact ⟨rfl, btrans (balloc (Below.refl _ _) _) hb⟩
/-- Whether a deed is right. -/
theorem right_any (k a b i n : Int) (w : World) : Calls Tryz.prog 75 #[.agg #[.int .i64 k, .int .i64 a, .int .i64 b, .int .i64 i, .int .i64 n]] w fun e w' =>
    e = .returned (.bool (Pg.right ⟨k, a, b, i, n⟩)) ∧ Below w.heap.size w w' := by
  by_cases h : 1 ≤ k ∧ k ≤ 14
  · exact right_some k a b i n h w
  · exact right_none k a b i n h w
end Go.Proofs.YtemohiainfllcaaGreat
