/- Plain laws: what the document's own Parse comes to. -/
import Derived.Test.YthchcnbgjklbhaaDoorRfValueWalk
namespace Go.Proofs.YthchcnbgjklbhaaDoor
open Go.RowKit
theorem pieces_join : ∀ (l x : List UInt8) (xs : List (List UInt8)), pieces l = x :: xs → l = x ++ xs.flatMap fun p => 32 :: p
  | [], x, xs, h => by
    simp only [pieces, List.cons.injEq] at h
    obtain ⟨rfl, rfl⟩ := h; rfl
  | c :: l, x, xs, h => by
    unfold pieces at h
    split at h
    · rename_i hc
      simp only [List.cons.injEq] at h
      obtain ⟨rfl, h2⟩ := h
      cases hp : pieces l with
      | nil => exact absurd hp (pieces_ne l)
      | cons y ys =>
        have := pieces_join l y ys hp
        rw [hp] at h2
        subst h2
        simp only [List.nil_append, List.flatMap_cons, List.cons_append]
        rw [← this, hc]
    · cases hp : pieces l with
      | nil => exact absurd hp (pieces_ne l)
      | cons y ys =>
        rw [hp] at h
        simp only [List.cons.injEq] at h
        obtain ⟨rfl, rfl⟩ := h
        rw [List.cons_append, ← pieces_join l y ys hp]
theorem pieces_flat (g : Pg.Pt → List UInt8) (hg : ∀ p, ∀ c ∈ g p, c ≠ 32) : ∀ (ps : List Pg.Pt) (w : List UInt8), (∀ c ∈ w, c ≠ 32) → pieces (w ++ ps.flatMap fun p => 32 :: g p) = w :: ps.map g
  | [], w, h => by simpa using pieces_none w h
  | p :: ps, w, h => by
    simp only [List.flatMap_cons, List.cons_append, List.map_cons]
    rw [pieces_at w _ h, pieces_flat g hg ps (g p) (hg p)]
theorem pieces_size : ∀ (l : List UInt8), ∀ p ∈ pieces l, p.length ≤ l.length
  | [], p, h => by simp [pieces] at h; simp [h]
  | c :: l, p, h => by
    unfold pieces at h
    split at h
    · rcases List.mem_cons.1 h with rfl | h
      · simp
      · have := pieces_size l p h; simp; omega
    · cases hp : pieces l with
      | nil => exact absurd hp (pieces_ne l)
      | cons y ys =>
        rw [hp] at h
        rcases List.mem_cons.1 h with rfl | h
        · have := pieces_size l y (by rw [hp]; simp); simp; omega
        · have := pieces_size l p (by rw [hp]; simp [h]); simp; omega
theorem pieces_count : ∀ (l : List UInt8), (pieces l).length ≤ l.length + 1
  | [] => by simp [pieces]
  | c :: l => by
    have ih := pieces_count l
    unfold pieces
    split
    · simp; omega
    · cases hp : pieces l with
      | nil => exact absurd hp (pieces_ne l)
      | cons y ys => rw [hp] at ih; simp at ih ⊢; omega
/-- A deed out of words, part by part. -/
def rfold : List Pg.Pt → List (List UInt8) → Pg.D → Pg.D
  | p :: ps, x :: xs, d => rfold ps xs (d.set p.f (val x).1)
  | _, _, d => d
def fineL (xs : List (List UInt8)) : Bool := xs.all fun x => (val x).2
theorem rfold_snoc : ∀ (ps : List Pg.Pt) (xs : List (List UInt8)) (p : Pg.Pt) (x : List UInt8) (d : Pg.D), ps.length = xs.length → rfold (ps ++ [p]) (xs ++ [x]) d = (rfold ps xs d).set p.f (val x).1
  | [], [], p, x, d, _ => rfl
  | [], y :: ys, p, x, d, h => by simp at h
  | q :: ps, [], p, x, d, h => by simp at h
  | q :: ps, y :: ys, p, x, d, h => by
    simp only [List.cons_append, rfold]
    exact rfold_snoc ps ys p x _ (by simpa using h)
theorem rfold_k : ∀ (ps : List Pg.Pt) (xs : List (List UInt8)) (d : Pg.D), (∀ p ∈ ps, 1 ≤ p.f ∧ p.f ≤ 4) → (rfold ps xs d).k = d.k
  | [], xs, d, _ => rfl
  | p :: ps, [], d, _ => rfl
  | p :: ps, x :: xs, d, h => by
    rw [rfold, rfold_k ps xs _ (fun q hq => h q (.tail _ hq))]
    obtain ⟨f, lo, hi⟩ := p
    have := h _ (.head _)
    simp only at this ⊢
    obtain rfl | rfl | rfl | rfl : f = 1 ∨ f = 2 ∨ f = 3 ∨ f = 4 := by omega
    all_goals rfl
theorem get_set (d : Pg.D) (f : Nat) (hf : 1 ≤ f ∧ f ≤ 4) (v : Int) : (d.set f v).get f = v := by
  obtain rfl | rfl | rfl | rfl : f = 1 ∨ f = 2 ∨ f = 3 ∨ f = 4 := by omega
  all_goals rfl
theorem get_set_ne (d : Pg.D) (f g : Nat) (hf : 1 ≤ f ∧ f ≤ 4) (hg : 1 ≤ g ∧ g ≤ 4) (h : g ≠ f) (v : Int) : (d.set f v).get g = d.get g := by
  obtain rfl | rfl | rfl | rfl : f = 1 ∨ f = 2 ∨ f = 3 ∨ f = 4 := by omega
  all_goals (obtain rfl | rfl | rfl | rfl : g = 1 ∨ g = 2 ∨ g = 3 ∨ g = 4 := by omega)
  all_goals first | rfl | exact absurd rfl h
theorem rfold_other : ∀ (ps : List Pg.Pt) (xs : List (List UInt8)) (d : Pg.D) (g : Nat), (1 ≤ g ∧ g ≤ 4) → (∀ p ∈ ps, (1 ≤ p.f ∧ p.f ≤ 4) ∧ g ≠ p.f) → (rfold ps xs d).get g = d.get g
  | [], xs, d, g, _, _ => rfl
  | p :: ps, [], d, g, _, _ => rfl
  | p :: ps, x :: xs, d, g, hg, h => by
    rw [rfold, rfold_other ps xs _ g hg (fun q hq => h q (.tail _ hq)), get_set_ne d p.f g (h p (.head _)).1 hg (h p (.head _)).2]
theorem rfold_get : ∀ (ps : List Pg.Pt) (xs : List (List UInt8)) (d : Pg.D), (ps.map (·.f)).Nodup → (∀ p ∈ ps, 1 ≤ p.f ∧ p.f ≤ 4) → ps.length = xs.length → ps.map (fun p => (rfold ps xs d).get p.f) = xs.map fun x => (val x).1
  | [], [], d, _, _, _ => rfl
  | [], y :: ys, d, _, _, h => by simp at h
  | p :: ps, [], d, _, _, h => by simp at h
  | p :: ps, x :: xs, d, hn, hb, h => by
    simp only [List.map_cons, List.nodup_cons] at hn
    simp only [List.map_cons, rfold]
    congr 1
    · rw [rfold_other ps xs _ p.f (hb p (.head _)) (fun q hq => ⟨hb q (.tail _ hq), fun e => hn.1 (by rw [e]; exact List.mem_map_of_mem hq)⟩), get_set d p.f (hb p (.head _))]
    · exact rfold_get ps xs _ hn.2 (fun q hq => hb q (.tail _ hq)) (by simpa using h)
theorem rfold_itoa (e : Pg.D) : ∀ (ps : List Pg.Pt) (d : Pg.D), (∀ p ∈ ps, -10000000 < e.get p.f ∧ e.get p.f < 10000000) → rfold ps (ps.map fun p => Lib.itoa (e.get p.f)) d = ps.foldl (fun x p => x.set p.f (e.get p.f)) d
  | [], d, _ => rfl
  | p :: ps, d, h => by
    simp only [List.map_cons, rfold, List.foldl_cons]
    rw [val_itoa _ (h p (.head _))]
    exact rfold_itoa e ps _ (fun q hq => h q (.tail _ hq))
theorem parts_nodup (k : Int) : ((Pg.parts k).map (·.f)).Nodup := by
  by_cases h : 1 ≤ k ∧ k ≤ 14
  · rcases Pg.kinds h with rfl | rfl | rfl | rfl | rfl | rfl | rfl | rfl | rfl | rfl | rfl | rfl | rfl | rfl <;> decide +kernel
  · have : Pg.parts k = [] := by unfold Pg.parts; repeat (rw [if_neg (by omega)])
    rw [this]; simp
theorem fine_itoa : ∀ (xs : List (List UInt8)), fineL xs = true → xs.map (fun x => Lib.itoa (val x).1) = xs
  | [], _ => rfl
  | x :: xs, h => by
    simp only [fineL, List.all_cons, Bool.and_eq_true] at h
    rw [List.map_cons, (val_ok h.1).1, fine_itoa xs h.2]
/-- The kind that fits: its deed is what the text is, or none is. -/
theorem rparse_hit {l x : List UInt8} {xs : List (List UInt8)} (h : pieces l = x :: xs) {k : Int} (hk : 1 ≤ k ∧ k ≤ 14) (hw : Pg.word k = x) (hn : (Pg.parts k).length = xs.length) :
    Pg.parse l = if fineL xs = true ∧ Pg.right (rfold (Pg.parts k) xs (Pg.bare k)) = true then some (rfold (Pg.parts k) xs (Pg.bare k)) else none := by
  have hb : ∀ p ∈ Pg.parts k, 1 ≤ p.f ∧ p.f ≤ 4 := fun p hp => (Pg.parts_bd p hp).2.2
  split
  · rename_i hc
    refine (Pg.parse_iff _ _).2 ⟨hc.2, ?_⟩
    have hkk : (rfold (Pg.parts k) xs (Pg.bare k)).k = k := rfold_k _ _ _ hb
    unfold Pg.print Pg.tail
    rw [hkk, pieces_join l x xs h, hw]
    congr 1
    have hg := rfold_get (Pg.parts k) xs (Pg.bare k) (parts_nodup k) hb hn
    have hf := fine_itoa xs hc.1
    have e1 : (Pg.parts k).map (fun p => Lib.itoa ((rfold (Pg.parts k) xs (Pg.bare k)).get p.f)) = xs := by
      have := congrArg (List.map Lib.itoa) hg
      rw [List.map_map, List.map_map] at this
      refine Eq.trans ?_ (this.trans hf)
      rfl
    conv => rhs; rw [← e1]
    rw [List.flatMap_map]
  · rename_i hc
    cases hp : Pg.parse l with
    | none => rfl
    | some e =>
      exfalso
      obtain ⟨hr, rfl⟩ := (Pg.parse_iff _ _).1 hp
      have hek := Pg.right_kind hr
      have hbd : ∀ p ∈ Pg.parts e.k, -10000000 < e.get p.f ∧ e.get p.f < 10000000 := fun p hp => by
        have := Pg.right_parts hr p hp; have := Pg.parts_bd p hp; omega
      have hpc := pieces_flat (fun p => Lib.itoa (e.get p.f)) (fun p => Pg.itoa_no_blank _) (Pg.parts e.k) (Pg.word e.k) (Pg.word_blank e.k hek)
      have hpc' : pieces (Pg.print e) = Pg.word e.k :: (Pg.parts e.k).map fun p => Lib.itoa (e.get p.f) := hpc
      rw [h] at hpc'
      injection hpc' with e1 e2
      obtain rfl : k = e.k := Pg.word_inj hk hek (hw.trans e1)
      subst e2
      refine hc ⟨?_, ?_⟩
      · rw [fineL, List.all_map, List.all_eq_true]
        intro p hp
        simp only [Function.comp_apply]
        rw [val_itoa _ (hbd p hp)]
      · rw [rfold_itoa e _ _ hbd]
        have hs : (Pg.parts e.k).foldl (fun x p => x.set p.f (e.get p.f)) (Pg.bare e.k) = e := Pg.right_strip hr
        rw [hs]; exact hr
theorem rparse_miss {l x : List UInt8} {xs : List (List UInt8)} (h : pieces l = x :: xs) (hn : ∀ k, 1 ≤ k → k ≤ 14 → ¬ (Pg.word k = x ∧ (Pg.parts k).length = xs.length)) : Pg.parse l = none := by
  cases hp : Pg.parse l with
  | none => rfl
  | some e =>
    exfalso
    obtain ⟨hr, rfl⟩ := (Pg.parse_iff _ _).1 hp
    have hek := Pg.right_kind hr
    have hpc := pieces_flat (fun p => Lib.itoa (e.get p.f)) (fun p => Pg.itoa_no_blank _) (Pg.parts e.k) (Pg.word e.k) (Pg.word_blank e.k hek)
    have hpc' : pieces (Pg.print e) = Pg.word e.k :: (Pg.parts e.k).map fun p => Lib.itoa (e.get p.f) := hpc
    rw [h] at hpc'
    injection hpc' with e1 e2
    exact hn e.k hek.1 hek.2 ⟨e1.symm, by rw [e2]; simp⟩
end Go.Proofs.YthchcnbgjklbhaaDoor
