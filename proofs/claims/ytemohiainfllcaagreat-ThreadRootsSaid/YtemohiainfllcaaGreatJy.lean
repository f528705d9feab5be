/- A region that draws its order, in a fence that lets all through: reads ahead of one operation that writes. -/
import Derived.Test.YtemohiainfllcaaGreatJx
import Derived.Test.YtemohiainfllcaaGreatJa
import Derived.StillTailTactics
namespace Go.Proofs.YtemohiainfllcaaGreat
open Go.RowKit Hp
section
variable {n : Nat} {P : Program} {ops : Array Oper} {md : Region.Mode} {w : World} {F : Fence}
/-- A fence that lets all through. -/
structure OpenF (F : Fence) (P : Program) : Prop where
  fn : ∀ f, F.fn f
  calls : ∀ {n : Nat} {f : FuncId} {args : Array Value} {w : World} {R : Ending → World → Prop}, Calls P f args w R → (F.depth.isSome = true → 1 ≤ n) ∧ CallsIn F (n - 1) P f args w R
theorem openW (P : Program) : OpenF Fence.wide P := ⟨fun _ => trivial, fun h => ⟨fun h => (by simp [Fence.wide] at h), callsIn_wide.2 h⟩⟩
theorem openR (l : Nat) (P : Program) : OpenF (Fence.wide.inRound l) P := ⟨fun _ => trivial, fun h => ⟨fun h => (by simp [Fence.inRound, Fence.wide] at h), CallsIn.inRound l (callsIn_wide.2 h)⟩⟩
theorem opIn_of_still (hF : OpenF F P) {o : Oper} {a : Act} {K : Act → Prop} {K' : Act → World → Prop} {Q' : Exit → Act → World → Prop} (hd : ∀ c, o.op ≠ .defer c) (h : ∀ a, K a → K' a w) (hh : o.still P a w K) : o.wpIn F n P a w K' Q' := by
  unfold Oper.still at hh
  refine ⟨fun _ _ => hF.fn _, ?_⟩
  rw [Oper.semAt_eq _ _ _ hd]
  generalize (execOp a.eval o).run P w = r at *
  cases r with
  | ok m w' =>
    cases m <;> simp only [Oper.stillUpon] at hh <;> simp only [Oper.uponIn]
    case enter f args =>
      obtain ⟨rfl, v, hc, hn⟩ := hh
      refine hF.calls (hc.mono fun e w'' he => ?_)
      obtain ⟨he, hw⟩ := he
      subst he; subst hw; exact h _ hn
    all_goals (obtain ⟨rfl, h2⟩ := hh; exact h _ h2)
  | halt x w' => simp only [Oper.stillUpon] at hh
theorem anyIn_of_stOp (hF : OpenF F P) {i : Nat} {a : Act} {K : Act → Prop} {K' : Act → World → Prop} {Q' : Exit → Act → World → Prop} (hd : ∀ (j : Nat) (o : Oper) c, ops[j]? = some o → o.op ≠ .defer c) (h : ∀ a, K a → K' a w) (hh : stOp P ops w i K a) : wpOpIn F n P ops Q' i K' a w := by
  unfold stOp at hh
  unfold wpOpIn
  split
  · rename_i ho; simp only [ho] at hh; exact h _ hh
  · rename_i o ho
    simp only [ho] at hh
    split
    · rename_i hw; simp only [hw, if_true] at hh; exact opIn_of_still hF (fun c => hd _ _ c ho) h hh
    · rename_i hw; simp only [hw] at hh; exact ⟨fun _ _ => hF.fn _, h _ hh⟩
theorem anyIn_of_head (hF : OpenF F P) {m g : Nat} {L : Array Bool → Act → Prop} {Q' : Exit → Act → World → Prop} (hd : ∀ (j : Nat) (o : Oper) c, ops[j]? = some o → o.op ≠ .defer c) (hL : ∀ listed a, L listed a → wpAnyIn F n P md ops Q' g listed a w) :
    ∀ (f : Nat) (listed : Array Bool) (a : Act), wpAnyL P md ops w m L f listed a → wpAnyIn F n P md ops Q' (f + g) listed a w
  | 0, listed, a, h => by rw [Nat.zero_add]; exact hL _ _ h
  | f + 1, listed, a, h => by
    rw [show f + 1 + g = (f + g) + 1 by omega]
    exact ⟨fun h0 => absurd h0 h.1, fun i hi => anyIn_of_stOp hF hd (fun a' h' => anyIn_of_head hF hd hL f _ a' h') (h.2 i hi).2⟩
theorem anyIn_of_seq {Q' : Exit → Act → World → Prop} : ∀ (l' : List Oper) (k : Nat) (listed : Array Bool) (a : Act) (w : World), (∀ j, l'[j]? = ops[k + j]?) →
    Region.seqB md ops l'.length k listed = true → wpListIn F n P ops Q' l' a w → wpAnyIn F n P md ops Q' l'.length listed a w
  | [], _, _, _, _, _, hB, h => ⟨by simpa [Region.seqB] using hB, h⟩
  | o :: l', k, listed, a, w, hl, hB, h => by
    have h0 : ops[k]? = some o := by simpa using (hl 0).symm
    simp only [List.length_cons, Region.seqB, Bool.and_eq_true, decide_eq_true_eq] at hB
    refine ⟨fun h1 => (by rw [hB.1] at h1; cases h1), fun i hi => ?_⟩
    rw [hB.1] at hi
    have hik : i = k := by simpa using hi
    subst hik
    have hw : wpOpIn F n P ops Q' i (wpListIn F n P ops Q' l') a w := by unfold wpOpIn; simp only [h0]; exact h
    exact wpOpIn_mono (fun a' w' h' => anyIn_of_seq l' (i + 1) _ a' w' (fun j => by have := hl (j + 1); simpa [Nat.add_assoc, Nat.add_comm 1 j] using this) hB.2 h') hw
def noDefer (l : List Oper) : Bool := l.all fun o => match o.op with | .defer _ => false | _ => true
theorem noDefer_spec {l : List Oper} (h : noDefer l = true) : ∀ (j : Nat) (o : Oper) c, l.toArray[j]? = some o → o.op ≠ .defer c := by
  intro j o c hj e
  have hm : o ∈ l := by rw [List.getElem?_toArray] at hj; exact List.mem_of_getElem? hj
  have := List.all_eq_true.1 h o hm
  rw [e] at this
  cases this
theorem wpIn_region_tail (hF : OpenF F P) {id : Nat} {Q : Exit → Act → World → Prop} {a : Act} {w : World} {l' : List Oper} (m : Nat) (hm : P.follows .mixedOrders = true) (hB : Region.lexTailB .any l'.toArray m = true) (hd : noDefer l' = true)
    (h : wpStill P l'.toArray w.drew (fun a' => wpListIn F n P l'.toArray Q (l'.drop m) a' w.drew) (l'.take m) a) : (Code.region id l'.toArray true).wpIn F n P Q a w := by
  simp only [Region.lexTailB, Bool.and_eq_true, decide_eq_true_eq] at hB
  obtain ⟨⟨⟨⟨hsel, hn⟩, hs⟩, hc⟩, hlex⟩ := hB
  have hn' : m < l'.length := by simpa using hn
  have htl : (l'.take m).length = m := by simp; omega
  have hdl : (l'.drop m).length = l'.toArray.size - m := by simp
  have inv0 : HeadInv .any l'.toArray m (Array.replicate l'.toArray.size false) :=
    ⟨by simp, fun j oj _ hl => (by rw [getD_replicate_false] at hl; cases hl), fun t _ ht => getD_in (by simpa using ht) (getD_replicate_false _ _)⟩
  have H := wpAnyL_lex (md := .any) (g := l'.toArray.size - m) hsel hs hc hn (l'.take m) 0 _ a (fun j hj => by
    have hj' : j < m := by rw [htl] at hj; exact hj
    simp [hj']) (by simpa using htl) inv0 (by rw [htl]; exact hlex) h
  refine wpIn_region_any hm ?_
  have := anyIn_of_head hF (n := n) (Q' := Q) (g := l'.toArray.size - m) (noDefer_spec hd) (fun listed a' hL => by
    have := anyIn_of_seq (F := F) (n := n) (md := .any) (Q' := Q) (l'.drop m) m listed a' w.drew (fun j => by simp [List.getElem?_drop]) (by rw [hdl]; exact hL.1) hL.2
    rwa [hdl] at this) _ _ _ H
  rw [htl, show m + (l'.toArray.size - m) = l'.toArray.size by omega] at this
  exact this
def noPanic (Q : Exit → Act → World → Prop) : Exit → Act → World → Prop
  | .normal, a, w => Q .normal a w
  | _, _, _ => False
theorem wpIn_nopanic {Q : Exit → Act → World → Prop} {c : Code} {a : Act} {w : World} (h : c.wpIn F n P (noPanic Q) a w) : c.wpIn F n P Q a w :=
  wpIn_mono h fun e _ _ hq => by cases e <;> first | exact hq | exact hq.elim
theorem wpIn_calm {K : Act → World → Prop} {Q : Exit → Act → World → Prop} {c : Code} {a : Act} {w : World} (h : c.wpIn F n P (Exit.then K fun _ _ _ => False) a w) : c.wpIn F n P (Exit.then K Q) a w :=
  wpIn_mono h fun e _ _ hq => by cases e <;> first | exact hq | exact hq.elim
end
end Go.Proofs.YtemohiainfllcaaGreat

/- Walks: two lists of nothing, one behind the other. -/
namespace Go.Proofs.YtemohiainfllcaaGreat
open Go.RowKit
theorem grow_nil (w : World) : Calls Tryz.prog 169 #[.slice none 0 0, .int .i64 0] w fun e w' => e = .returned (.slice none 0 0) ∧ w = w' := by
  go_enter Tryz.func169, Tryz.ntmps169
  go_wp2_with fail
  go_ret
  exact ⟨rfl, rfl⟩
theorem concat_nil {w : World} {b : Nat} (hb : Blk w b #[.slice none 0 0, .slice none 0 0] 84) :
    Calls Tryz.prog 123 #[.slice (some ⟨b, 0, none⟩) 2 2] w fun e w' => e = .returned (.slice none 0 0) ∧ w = w' := by
  have c := hb.cell
  have HG := Lib.hid grow_nil
  clear hb
  go_enter Tryz.func123, Tryz.ntmps123
  go_wp2_with fail
  go_loop [3, 11] (fun s ix => ∃ k : Nat, k ≤ 2 ∧ s = .int .i64 0 ∧ ix = .int .i64 k) (fun _ ix => 2 - (intOf ix).toNat)
  case atStart => exact ⟨0, by omega, rfl, rfl⟩
  case round =>
    obtain ⟨k, hk, rfl, rfl⟩ := hrel
    obtain rfl | rfl | rfl : k = 0 ∨ k = 1 ∨ k = 2 := by omega
    · go_wp2_with fail
      go_round
      case rel => exact ⟨1, by omega, rfl, rfl⟩
      case measure => simp [intOf]
    · go_wp2_with fail
      go_round
      case rel => exact ⟨2, by omega, rfl, rfl⟩
      case measure => simp [intOf]
    · go_wp2_with fail
      refine (HG.out _).mono ?_
      rintro e w1 ⟨rfl, rfl⟩
      go_wp2_with fail
      go_loop [6, 27] (fun s ix => ∃ k : Nat, k ≤ 2 ∧ s = .slice none 0 0 ∧ ix = .int .i64 k) (fun _ ix => 2 - (intOf ix).toNat)
      case atStart => exact ⟨0, by omega, rfl, rfl⟩
      case round =>
        obtain ⟨k, hk, rfl, rfl⟩ := hrel
        obtain rfl | rfl | rfl : k = 0 ∨ k = 1 ∨ k = 2 := by omega
        · go_wp2_with fail
          go_round
          case rel => exact ⟨1, by omega, rfl, rfl⟩
          case measure => simp [intOf]
        · go_wp2_with fail
          go_round
          case rel => exact ⟨2, by omega, rfl, rfl⟩
          case measure => simp [intOf]
        · go_wp2_with fail
          go_ret
          exact ⟨rfl, rfl⟩
end Go.Proofs.YtemohiainfllcaaGreat
