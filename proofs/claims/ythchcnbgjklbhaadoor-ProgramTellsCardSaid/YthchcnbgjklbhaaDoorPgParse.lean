/- Walk: which deed a text is (Parse). -/
import Derived.Test.YthchcnbgjklbhaaDoorPgPrint
namespace Go.Proofs.YthchcnbgjklbhaaDoor
open Go.RowKit
/-- A text's words. -/
def wordsB (s : ByteArray) : List ByteArray := Lib.splitB ⟨#[32]⟩ 0 (min 5 (s.size + 1) - 1) s
theorem wordsB_list (s : ByteArray) : (wordsB s).map (·.data.toList) = Lib.splitN s.data.toList Pg.sp 5 := by
  unfold wordsB Lib.splitN
  rw [Lib.splitB_data]
  rfl
theorem wordsB_len (s : ByteArray) : 1 ≤ (wordsB s).length ∧ (wordsB s).length ≤ 5 := by
  unfold wordsB
  have := Lib.splitB_length_le ⟨#[32]⟩ 0 (min 5 (s.size + 1) - 1) s
  refine ⟨?_, by omega⟩
  cases h : min 5 (s.size + 1) - 1 with
  | zero => simp [Lib.splitB]
  | succ k => unfold Lib.splitB; split <;> simp
theorem extract_size_le (s : ByteArray) (a b : Nat) : (s.extract a b).size ≤ s.size := by
  rw [ByteArray.size_extract]; omega
theorem splitB_size (sep : ByteArray) : ∀ (k : Nat) (s : ByteArray), ∀ y ∈ Lib.splitB sep 0 k s, y.size ≤ s.size
  | 0, s, y, h => by
    simp only [Lib.splitB, List.mem_singleton] at h
    subst h; exact Nat.le_refl _
  | k + 1, s, y, h => by
    unfold Lib.splitB at h
    split at h
    · simp only [List.mem_singleton] at h
      subst h; exact Nat.le_refl _
    · rcases List.mem_cons.1 h with rfl | h
      · exact extract_size_le _ _ _
      · exact Nat.le_trans (splitB_size sep k _ y h) (extract_size_le _ _ _)
theorem splitn_any (s : ByteArray) (hs : s.size < 4294967281) (w : World) (hE : Env w) :
    Calls Tryd.prog 27 #[.string s, .string ⟨#[32]⟩, .int .i64 5] w fun e w' =>
      ∃ (g cap : Nat) (cs : Array Value), e = .returned (.slice (some ⟨g, 0, none⟩) (wordsB s).length cap) ∧ (wordsB s).length ≤ cap ∧ cap ≤ 5 ∧ Blk w' g cs 9 ∧ (∀ (j : Nat) (x : ByteArray), (wordsB s)[j]? = some x → cs[j]? = some (.string x)) ∧ Below w.heap.size w w' ∧ w.heap.size ≤ g := by
  obtain ⟨m, hm⟩ := hE.mx
  refine (Tryd.strings_SplitN s ⟨#[32]⟩ 5 m w hs hm (by decide) (by omega) (by omega)).mono ?_
  rintro e w' ⟨rfl, rfl⟩
  have hl : (Lib.splitB ⟨#[32]⟩ 0 (min 5 (s.size + 1) - 1) s).length ≤ min 5 (s.size + 1) := by
    have := Lib.splitB_length_le ⟨#[32]⟩ 0 (min 5 (s.size + 1) - 1) s
    omega
  refine ⟨_, _, _, rfl, hl, by omega, Blk.new _ _ _, ?_, balloc (Below.refl _ _) _, Nat.le_refl _⟩
  intro j x hx
  have hj : j < (wordsB s).length := (List.getElem?_eq_some_iff.1 hx).1
  unfold Lib.cellsOf
  rw [List.getElem?_toArray, List.getElem?_append_left (by rw [List.length_map]; exact hj), List.getElem?_map]
  unfold wordsB at hx
  rw [hx]; rfl
/-- How Atoi ends. -/
def AtoiEnd (l : List UInt8) (v : Int) (err : Value) : Prop :=
  (Lib.atoiAll l = .ok v ∧ err = .nilIface) ∨ ((∀ u, Lib.atoiAll l ≠ .ok u) ∧ ∃ t p, err = .iface t (.pointer p))
theorem below_bytes (w : World) (e : TypeId) (s : ByteArray) : Below w.heap.size w (Lib.bytesWorld w e s) := by
  have h1 : Below w.heap.size w (w.drew.alloc (.cells (Lib.bytesCells w e s) e)) := balloc (Below.drew (Below.refl _ _)) _
  unfold Lib.bytesWorld World.freeze
  rw [if_neg (by omega)]
  refine ⟨h1.os, h1.tape, h1.output, by simp, fun k hk => ?_⟩
  simp only [Array.getElem?_modify]
  rw [if_neg (by omega)]
  exact h1.block k hk
theorem atoi_any (s : ByteArray) (hs : s.size ≤ 281474976710656) (w : World) (hE : Env w) :
    Calls Tryd.prog 28 #[.string s] w fun e w' =>
      ∃ v err, e = .returned (.tuple #[.int .i64 v, err]) ∧ AtoiEnd s.data.toList v err ∧ Below w.heap.size w w' := by
  cases h : Lib.atoiAll s.data.toList
  · rename_i v
    refine (Tryd.strconv_Atoi_ok s (by omega) v h w).mono ?_
    rintro e w' ⟨rfl, hw⟩
    refine ⟨v, _, rfl, .inl ⟨h, rfl⟩, ?_⟩
    rcases hw with rfl | ⟨t, rfl⟩
    · exact Below.refl _ _
    · exact below_bytes w 5 t
  · obtain ⟨ev, hev, hev'⟩ := hE.es
    refine (Any.strconv_Atoi_syntax Tryd.laysC172 s hs h ev w hev hev').mono ?_
    rintro e w' ⟨N, rfl, _, _, hb⟩
    exact ⟨0, _, rfl, .inr ⟨fun u => (by rw [h]; intro e; cases e), _, _, rfl⟩, hb⟩
  · obtain ⟨ev, hev, hev'⟩ := hE.er
    refine (Any.strconv_Atoi_range Tryd.laysC172 s hs h ev w hev hev').mono ?_
    rintro e w' ⟨N, rfl, _, _, hb⟩
    exact ⟨_, _, rfl, .inr ⟨fun u => (by rw [h]; intro e; cases e), _, _, rfl⟩, hb⟩
theorem read_step (p : Pg.Pt) (ps : List Pg.Pt) (y : List UInt8) (ys : List (List UInt8)) (d : Pg.D) (v : Int) (h : Lib.atoiAll y = .ok v) : Pg.readParts (p :: ps) (y :: ys) d = Pg.readParts ps ys (d.set p.f v) := by
  simp only [Pg.readParts, h]
theorem read_fail (p : Pg.Pt) (ps : List Pg.Pt) (y : List UInt8) (ys : List (List UInt8)) (d : Pg.D) (h : ∀ v, Lib.atoiAll y ≠ .ok v) : Pg.readParts (p :: ps) (y :: ys) d = none := by
  cases e : Lib.atoiAll y with
  | ok v => exact absurd e (h v)
  | _ => simp [Pg.readParts, e]
theorem drop_at {α : Type} (l : List α) (j : Nat) (p : α) (h : l[j]? = some p) : l.drop j = p :: l.drop (j + 1) := by
  obtain ⟨hj, rfl⟩ := List.getElem?_eq_some_iff.1 h
  exact List.drop_eq_getElem_cons hj
theorem parse_words (s : ByteArray) (x : ByteArray) (xs : List ByteArray) (h : wordsB s = x :: xs) :
    Pg.parse s.data.toList = match Pg.ks.find? (Pg.fits x.data.toList xs.length) with
      | some k => Pg.ofKind s.data.toList k (xs.map (·.data.toList))
      | none => none := by
  unfold Pg.parse
  rw [← wordsB_list, h]
  simp only [List.map_cons, List.length_map]
  cases Pg.ks.find? (Pg.fits x.data.toList xs.length) <;> rfl
theorem parse_fit (s : ByteArray) (x : ByteArray) (xs : List ByteArray) (h : wordsB s = x :: xs) (k : Int) (hk : 1 ≤ k ∧ k ≤ 14) (hw : Pg.word k = x.data.toList) (hn : (Pg.parts k).length = xs.length) :
    Pg.parse s.data.toList = Pg.ofKind s.data.toList k (xs.map (·.data.toList)) := by
  rw [parse_words s x xs h, ← hw, Pg.find_fits hk _ hn]
theorem parse_nofit (s : ByteArray) (x : ByteArray) (xs : List ByteArray) (h : wordsB s = x :: xs) (hn : ∀ k, 1 ≤ k → k ≤ 14 → Pg.fits x.data.toList xs.length k = false) :
    Pg.parse s.data.toList = none := by
  rw [parse_words s x xs h]
  have : Pg.ks.find? (Pg.fits x.data.toList xs.length) = none := by
    rw [List.find?_eq_none]
    intro k hk
    have := Pg.mem_ks.1 hk
    simp [hn k this.1 this.2]
  rw [this]
/-- What Parse tells. -/
def parsed (l : List UInt8) : Pg.D := (Pg.parse l).getD ⟨0, 0, 0, 0, 0⟩
def parseE (l : List UInt8) : Int := if (Pg.parse l).isSome then 0 else 151
def ParseEnd (s : ByteArray) (w : World) (e : Ending) (w' : World) : Prop :=
  e = .returned (.tuple #[.agg (dcells (parsed s.data.toList)), .int .i64 (parseE s.data.toList)]) ∧ Below w.heap.size w w'
set_option maxHeartbeats 4000000 in
set_option maxRecDepth 100000 in
theorem parse_any (s : ByteArray) (hs : s.size < 4294967281) (w : World) (hE : Env w) :
    Calls Tryd.prog 18 #[.string s] w (ParseEnd s w) := by
  have HE := Lib.hid hE
  clear hE
  go_enter Tryd.func18, Tryd.ntmps18
  go_wp2_with fail
  refine (splitn_any s hs _ (HE.out.below (balloc (Below.refl _ _) _))).mono ?_
  rintro e w1 ⟨g, cap, cs, rfl, hcap, hcap5, hg, hcs, hb1, hgl⟩
  have hR : Blk w1 w.heap.size (dcells ⟨0, 0, 0, 0, 0⟩) 23 := (Blk.new w _ _).below hb1 (by simp)
  have hb : Below w.heap.size w w1 := btrans (balloc (Below.refl _ _) _) hb1
  have hg1 : w.heap.size < g := by simp at hgl; omega
  have hw0 := (wordsB_len s).1
  have hw5 := (wordsB_len s).2
  obtain ⟨x, xs, hx⟩ : ∃ x xs, wordsB s = x :: xs := by
    cases h : wordsB s with
    | nil => rw [h] at hw0; simp at hw0
    | cons x xs => exact ⟨x, xs, rfl⟩
  have hsz : ∀ y ∈ xs, y.size ≤ s.size := by
    intro y hy
    have hm : y ∈ wordsB s := by rw [hx]; simp [hy]
    exact splitB_size ⟨#[32]⟩ _ s y hm
  have HSZ := Lib.hid hsz
  have HX := Lib.hid hx
  have hlx : (wordsB s).length = xs.length + 1 := by rw [hx]; simp
  rw [hlx] at hcap hw5
  simp only [hlx]
  have hcs0 := hcs 0 x (by rw [hx]; rfl)
  have hcsS : ∀ j y, xs[j]? = some y → cs[j + 1]? = some (.string y) := fun j y hy => hcs (j + 1) y (by rw [hx]; simpa using hy)
  have HCS := Lib.hid hcsS
  clear hx hlx hcs hcsS hb1 hgl hw0 hsz
  go_wp2_with fail
  go_loopw [5, 6, 7, 8, 9, 10, 11, 12, 13, 14] (fun kd _ _ _ _ _ _ _ _ _ wr => ∃ k : Int, kd = .int .i64 k ∧ 1 ≤ k ∧ k ≤ 15 ∧ Hid (∀ j, 1 ≤ j → j < k → Pg.fits x.data.toList xs.length j = false) ∧ Blk wr g cs 9 ∧ Blk wr w.heap.size (dcells ⟨0, 0, 0, 0, 0⟩) 23 ∧ Below w.heap.size w wr) (fun kd _ _ _ _ _ _ _ _ _ _ => (15 - intOf kd).toNat)
  case atStart => exact ⟨1, rfl, by omega, by omega, Lib.hid (fun j h1 h2 => by omega), hg, hR, hb⟩
  case round =>
    obtain ⟨k, rfl, k1, k15, hnf, jg, jR, hbr⟩ := hrel
    obtain ⟨wo, rfl⟩ : ∃ wo : World, wo = wr := ⟨_, rfl⟩
    clear hg hR hb
    by_cases hlt : k ≤ 14
    · go_wp2_with fail
      refine (form_any k _).mono ?_
      rintro e w2 ⟨v, rfl, hp, hb2⟩
      have lg := jg.below hb2 jg.lt
      have lR := jR.below hb2 jR.lt
      have hbw2 := btrans hbr hb2
      have c0 := (lg.cell 0).trans hcs0
      have HJG := Lib.hid lg
      clear jg jR hbr lg
      obtain ⟨pa, pc, rfl, hpp⟩ : ∃ pa pc, v = .slice pa (Pg.parts k).length pc ∧ (Pg.parts k = [] ∨ ∃ q, pa = some ⟨q, 0, none⟩ ∧ Blk w2 q (pcells (Pg.parts k)).toArray 52) := by
        rcases hp with ⟨hp, rfl⟩ | ⟨q, rfl, hq⟩
        · exact ⟨none, 0, by rw [hp]; rfl, .inl hp⟩
        · exact ⟨_, _, rfl, .inr ⟨q, rfl, hq⟩⟩
      clear hp
      have hl3 : (Pg.parts k).length ≤ 3 := (Pg.word_len k ⟨k1, hlt⟩).2.2.1
      have hnext : Pg.fits x.data.toList xs.length k = false → ∀ j, 1 ≤ j → j < k + 1 → Pg.fits x.data.toList xs.length j = false := fun h j h1 h2 => by
        by_cases e : j = k
        · rw [e]; exact h
        · exact hnf.out j h1 (by omega)
      have HNX := Lib.hid hnext
      clear hnext hnf
      by_cases hwx : (wordB k).toList = x.toList
      · have hfw : Pg.word k = x.data.toList := by
          rw [ByteArray.toList_eq, ByteArray.toList_eq] at hwx
          exact hwx
        have HFW := Lib.hid hfw
        clear hfw
        by_cases hln : (Pg.parts k).length = xs.length
        · have hpf := parse_fit s x xs HX.out k ⟨k1, hlt⟩ HFW.out hln
          have HPF := Lib.hid hpf
          have hln' : (((Pg.parts k).length : Int) == (xs.length : Int)) = true := beq_iff_eq.2 (by omega)
          have hfs : ∀ p ∈ Pg.parts k, p.f = 1 ∨ p.f = 2 ∨ p.f = 3 ∨ p.f = 4 := fun p hp => by have := Pg.parts_bd p hp; omega
          clear hpf HNX HFW
          unfold Pg.ofKind at HPF
          generalize Pg.parts k = ps at *
          have cR := lR.cell
          have zR := lR.free
          have sR := lR.lt
          simp only [dcells] at cR
          go_wp2_with fail
          obtain ⟨Dk, hDk⟩ : ∃ D, D = w2.heap.size := ⟨_, rfl⟩
          rw [← hDk]
          have hDw : w.heap.size < Dk := by omega
          have hgD : g < Dk := by have := HJG.out.lt; omega
          have HDK := Lib.hid hDk
          clear hDk
          go_loopw [43, 9, 10, 11, 12] (fun ix _ _ _ _ wr => ∃ (j : Nat) (d : Pg.D), ix = .int .i64 j ∧ j ≤ ps.length ∧ d.k = k ∧ Hid (Pg.readParts (ps.drop j) ((xs.map (·.data.toList)).drop j) d = Pg.readParts ps (xs.map (·.data.toList)) (Pg.bare k)) ∧ Blk wr Dk (dcells d) 46 ∧ Blk wr g cs 9 ∧ Blk wr w.heap.size (dcells ⟨0, 0, 0, 0, 0⟩) 23 ∧ (ps = [] ∨ ∃ q, pa = some ⟨q, 0, none⟩ ∧ q < Dk ∧ Blk wr q (pcells ps).toArray 52) ∧ Below w.heap.size w wr) (fun ix _ _ _ _ _ => ps.length - (intOf ix).toNat)
          case atStart => exact ⟨0, Pg.bare k, rfl, by omega, rfl, Lib.hid rfl, by rw [HDK.out]; exact Blk.new _ _ _, HJG.out.alloc _, lR.alloc _, hpp.imp id (fun ⟨q, h1, h2⟩ => ⟨q, h1, by have := h2.lt; have := HDK.out; omega, h2.alloc _⟩), balloc hbw2 _⟩
          case round =>
            obtain ⟨j, d, rfl, hj, hdk, hrd, jD, jg, jR, jp, hbr⟩ := hrel
            clear hpp lR cR zR sR
            have cR := jR.cell
            have zR := jR.free
            have sR := jR.lt
            simp only [dcells] at cR
            by_cases hlt2 : j < ps.length
            · obtain ⟨p, hpj⟩ : ∃ p, ps[j]? = some p := ⟨ps[j], List.getElem?_eq_getElem hlt2⟩
              obtain ⟨y, hyj⟩ : ∃ y, xs[j]? = some y := ⟨xs[j]'(by omega), List.getElem?_eq_getElem (by omega)⟩
              have hd1 := drop_at ps j p hpj
              have hd2 := drop_at (xs.map (·.data.toList)) j y.data.toList (by rw [List.getElem?_map, hyj]; rfl)
              have hrd' := hrd.out
              rw [hd1, hd2] at hrd'
              have HRD := Lib.hid hrd'
              clear hrd hrd' hd1 hd2
              obtain ⟨q, rfl, hqD, jq⟩ : ∃ q, pa = some ⟨q, 0, none⟩ ∧ q < Dk ∧ Blk wr q (pcells ps).toArray 52 := by
                rcases jp with h | h
                · rw [h] at hlt2; simp at hlt2
                · exact h
              clear jp
              have hpf := hfs p (List.mem_of_getElem? hpj)
              have hat := pcells_at ps j p hpj
              have qy := (jg.cell (j + 1)).trans (HCS.out j y hyj)
              have hys : y.size ≤ 281474976710656 := by have := HSZ.out y (List.mem_of_getElem? hyj); omega
              obtain ⟨f, lo, hi⟩ := p
              simp only at hpf hat
              have q0 := (jq.cell (j * 3)).trans (by simpa using hat.1)
              have q1 := (jq.cell (j * 3 + 1)).trans (by simpa using hat.2.1)
              have q2 := (jq.cell (j * 3 + 2)).trans (by simpa using hat.2.2)
              clear hat hpj hyj hfs
              have hsR : w.heap.size < wr.heap.size := sR
              have hsD := jD.lt
              have sg := jg.lt
              have sq := jq.lt
              have cD : ∃ y0 y1 y2 y3 y4, ∀ i, wr.cell? ⟨Dk, i, none⟩ = #[Value.int .i64 y0, Value.int .i64 y1, Value.int .i64 y2, Value.int .i64 y3, Value.int .i64 y4][i]? := ⟨_, _, _, _, _, jD.cell⟩
              obtain ⟨y0, y1, y2, y3, y4, cD⟩ := cD
              have zD := jD.free
              rcases hpf with rfl | rfl | rfl | rfl
              all_goals simp only [pfn] at q0
              · go_wp2_with fail
                refine (atoi_any y hys _ (HE.out.below (balloc hbr _))).mono ?_
                rintro e w3 ⟨v, err, rfl, hend, hb3⟩
                have hbw3 := btrans (balloc hbr _) hb3
                have mD := (jD.alloc _).below hb3 (jD.alloc _).lt
                have mg := (jg.alloc _).below hb3 (jg.alloc _).lt
                have mR := (jR.alloc _).below hb3 (jR.alloc _).lt
                have mq := (jq.alloc _).below hb3 (jq.alloc _).lt
                have nR := mR.cell
                have nRz := mR.free
                have nRs := mR.lt
                have nD := mD.cell
                have nDz := mD.free
                have nDs := mD.lt
                have nP : Blk w3 wr.heap.size #[.func (.func 31) #[] #[], .int .i64 lo, .int .i64 hi] 52 := (Blk.new wr _ _).below hb3 (by simp)
                have nPc := nP.cell
                simp only [dcells] at nR nD
                clear jD jg jR jq cR zR sR hsR hsD cD zD q0 q1 q2 qy hbr
                rcases hend with ⟨hok, rfl⟩ | ⟨hbad, et, ep, rfl⟩
                · rw [read_step _ _ _ _ _ _ hok] at HRD
                  have HD := Lib.hid hdk
                  clear hok hdk
                  go_wp2_with (first | (go_at_call 31; go_in) | fail)
                  go_roundw
                  case rel =>
                    refine ⟨j + 1, d.set 1 v, by go_num, by omega, (set_k d 1 v).trans HD.out, HRD, ?_, ?_, ?_, .inr ⟨q, rfl, hqD, ?_⟩, ?_⟩
                    · exact mD.set 1 _
                    · exact mg.set_other (a := ⟨Dk, 1, none⟩) (by show g ≠ Dk; omega) _
                    · exact mR.set_other (a := ⟨Dk, 1, none⟩) (by show w.heap.size ≠ Dk; omega) _
                    · exact mq.set_other (a := ⟨Dk, 1, none⟩) (by show q ≠ Dk; omega) _
                    · exact bset hbw3 (by show w.heap.size ≤ Dk; omega) _
                  case measure => simp [intOf]; omega
                · rw [read_fail _ _ _ _ _ hbad] at HRD
                  rw [← HRD.out] at HPF
                  have HPF2 := HPF
                  clear hbad HRD HPF
                  go_wp2_with fail
                  refine bodyPost_ret (v := .tuple #[.agg #[.int .i64 0, .int .i64 0, .int .i64 0, .int .i64 0, .int .i64 0], .int .i64 151]) (by simp [results, Tryd.results18, go_sem, nR]) rfl ?_
                  refine ⟨?_, ?_⟩
                  · unfold parsed parseE; rw [HPF2.out]; rfl
                  · repeat (first | exact hbw3 | refine bset ?_ (Nat.le_refl _) _)
              · go_wp2_with fail
                refine (atoi_any y hys _ (HE.out.below (balloc hbr _))).mono ?_
                rintro e w3 ⟨v, err, rfl, hend, hb3⟩
                have hbw3 := btrans (balloc hbr _) hb3
                have mD := (jD.alloc _).below hb3 (jD.alloc _).lt
                have mg := (jg.alloc _).below hb3 (jg.alloc _).lt
                have mR := (jR.alloc _).below hb3 (jR.alloc _).lt
                have mq := (jq.alloc _).below hb3 (jq.alloc _).lt
                have nR := mR.cell
                have nRz := mR.free
                have nRs := mR.lt
                have nD := mD.cell
                have nDz := mD.free
                have nDs := mD.lt
                have nP : Blk w3 wr.heap.size #[.func (.func 32) #[] #[], .int .i64 lo, .int .i64 hi] 52 := (Blk.new wr _ _).below hb3 (by simp)
                have nPc := nP.cell
                simp only [dcells] at nR nD
                clear jD jg jR jq cR zR sR hsR hsD cD zD q0 q1 q2 qy hbr
                rcases hend with ⟨hok, rfl⟩ | ⟨hbad, et, ep, rfl⟩
                · rw [read_step _ _ _ _ _ _ hok] at HRD
                  have HD := Lib.hid hdk
                  clear hok hdk
                  go_wp2_with (first | (go_at_call 32; go_in) | fail)
                  go_roundw
                  case rel =>
                    refine ⟨j + 1, d.set 2 v, by go_num, by omega, (set_k d 2 v).trans HD.out, HRD, ?_, ?_, ?_, .inr ⟨q, rfl, hqD, ?_⟩, ?_⟩
                    · exact mD.set 2 _
                    · exact mg.set_other (a := ⟨Dk, 2, none⟩) (by show g ≠ Dk; omega) _
                    · exact mR.set_other (a := ⟨Dk, 2, none⟩) (by show w.heap.size ≠ Dk; omega) _
                    · exact mq.set_other (a := ⟨Dk, 2, none⟩) (by show q ≠ Dk; omega) _
                    · exact bset hbw3 (by show w.heap.size ≤ Dk; omega) _
                  case measure => simp [intOf]; omega
                · rw [read_fail _ _ _ _ _ hbad] at HRD
                  rw [← HRD.out] at HPF
                  have HPF2 := HPF
                  clear hbad HRD HPF
                  go_wp2_with fail
                  refine bodyPost_ret (v := .tuple #[.agg #[.int .i64 0, .int .i64 0, .int .i64 0, .int .i64 0, .int .i64 0], .int .i64 151]) (by simp [results, Tryd.results18, go_sem, nR]) rfl ?_
                  refine ⟨?_, ?_⟩
                  · unfold parsed parseE; rw [HPF2.out]; rfl
                  · repeat (first | exact hbw3 | refine bset ?_ (Nat.le_refl _) _)
              · go_wp2_with fail
                refine (atoi_any y hys _ (HE.out.below (balloc hbr _))).mono ?_
                rintro e w3 ⟨v, err, rfl, hend, hb3⟩
                have hbw3 := btrans (balloc hbr _) hb3
                have mD := (jD.alloc _).below hb3 (jD.alloc _).lt
                have mg := (jg.alloc _).below hb3 (jg.alloc _).lt
                have mR := (jR.alloc _).below hb3 (jR.alloc _).lt
                have mq := (jq.alloc _).below hb3 (jq.alloc _).lt
                have nR := mR.cell
                have nRz := mR.free
                have nRs := mR.lt
                have nD := mD.cell
                have nDz := mD.free
                have nDs := mD.lt
                have nP : Blk w3 wr.heap.size #[.func (.func 33) #[] #[], .int .i64 lo, .int .i64 hi] 52 := (Blk.new wr _ _).below hb3 (by simp)
                have nPc := nP.cell
                simp only [dcells] at nR nD
                clear jD jg jR jq cR zR sR hsR hsD cD zD q0 q1 q2 qy hbr
                rcases hend with ⟨hok, rfl⟩ | ⟨hbad, et, ep, rfl⟩
                · rw [read_step _ _ _ _ _ _ hok] at HRD
                  have HD := Lib.hid hdk
                  clear hok hdk
                  go_wp2_with (first | (go_at_call 33; go_in) | fail)
                  go_roundw
                  case rel =>
                    refine ⟨j + 1, d.set 3 v, by go_num, by omega, (set_k d 3 v).trans HD.out, HRD, ?_, ?_, ?_, .inr ⟨q, rfl, hqD, ?_⟩, ?_⟩
                    · exact mD.set 3 _
                    · exact mg.set_other (a := ⟨Dk, 3, none⟩) (by show g ≠ Dk; omega) _
                    · exact mR.set_other (a := ⟨Dk, 3, none⟩) (by show w.heap.size ≠ Dk; omega) _
                    · exact mq.set_other (a := ⟨Dk, 3, none⟩) (by show q ≠ Dk; omega) _
                    · exact bset hbw3 (by show w.heap.size ≤ Dk; omega) _
                  case measure => simp [intOf]; omega
                · rw [read_fail _ _ _ _ _ hbad] at HRD
                  rw [← HRD.out] at HPF
                  have HPF2 := HPF
                  clear hbad HRD HPF
                  go_wp2_with fail
                  refine bodyPost_ret (v := .tuple #[.agg #[.int .i64 0, .int .i64 0, .int .i64 0, .int .i64 0, .int .i64 0], .int .i64 151]) (by simp [results, Tryd.results18, go_sem, nR]) rfl ?_
                  refine ⟨?_, ?_⟩
                  · unfold parsed parseE; rw [HPF2.out]; rfl
                  · repeat (first | exact hbw3 | refine bset ?_ (Nat.le_refl _) _)
              · go_wp2_with fail
                refine (atoi_any y hys _ (HE.out.below (balloc hbr _))).mono ?_
                rintro e w3 ⟨v, err, rfl, hend, hb3⟩
                have hbw3 := btrans (balloc hbr _) hb3
                have mD := (jD.alloc _).below hb3 (jD.alloc _).lt
                have mg := (jg.alloc _).below hb3 (jg.alloc _).lt
                have mR := (jR.alloc _).below hb3 (jR.alloc _).lt
                have mq := (jq.alloc _).below hb3 (jq.alloc _).lt
                have nR := mR.cell
                have nRz := mR.free
                have nRs := mR.lt
                have nD := mD.cell
                have nDz := mD.free
                have nDs := mD.lt
                have nP : Blk w3 wr.heap.size #[.func (.func 34) #[] #[], .int .i64 lo, .int .i64 hi] 52 := (Blk.new wr _ _).below hb3 (by simp)
                have nPc := nP.cell
                simp only [dcells] at nR nD
                clear jD jg jR jq cR zR sR hsR hsD cD zD q0 q1 q2 qy hbr
                rcases hend with ⟨hok, rfl⟩ | ⟨hbad, et, ep, rfl⟩
                · rw [read_step _ _ _ _ _ _ hok] at HRD
                  have HD := Lib.hid hdk
                  clear hok hdk
                  go_wp2_with (first | (go_at_call 34; go_in) | fail)
                  go_roundw
                  case rel =>
                    refine ⟨j + 1, d.set 4 v, by go_num, by omega, (set_k d 4 v).trans HD.out, HRD, ?_, ?_, ?_, .inr ⟨q, rfl, hqD, ?_⟩, ?_⟩
                    · exact mD.set 4 _
                    · exact mg.set_other (a := ⟨Dk, 4, none⟩) (by show g ≠ Dk; omega) _
                    · exact mR.set_other (a := ⟨Dk, 4, none⟩) (by show w.heap.size ≠ Dk; omega) _
                    · exact mq.set_other (a := ⟨Dk, 4, none⟩) (by show q ≠ Dk; omega) _
                    · exact bset hbw3 (by show w.heap.size ≤ Dk; omega) _
                  case measure => simp [intOf]; omega
                · rw [read_fail _ _ _ _ _ hbad] at HRD
                  rw [← HRD.out] at HPF
                  have HPF2 := HPF
                  clear hbad HRD HPF
                  go_wp2_with fail
                  refine bodyPost_ret (v := .tuple #[.agg #[.int .i64 0, .int .i64 0, .int .i64 0, .int .i64 0, .int .i64 0], .int .i64 151]) (by simp [results, Tryd.results18, go_sem, nR]) rfl ?_
                  refine ⟨?_, ?_⟩
                  · unfold parsed parseE; rw [HPF2.out]; rfl
                  · repeat (first | exact hbw3 | refine bset ?_ (Nat.le_refl _) _)
            · obtain rfl : j = ps.length := by omega
              have hrd' := hrd.out
              rw [List.drop_of_length_le (Nat.le_refl _), List.drop_of_length_le (by rw [List.length_map]; omega)] at hrd'
              rw [← hrd'] at HPF
              simp only [Pg.readParts] at HPF
              obtain ⟨dk, da, db, di, dn⟩ := d
              obtain rfl : k = dk := hdk.symm
              have sD := jD.lt
              have cD := jD.cell
              simp only [dcells] at cD
              clear hrd hrd' jg jp
              go_wp2_with fail
              refine (print_any k da db di dn _ (HE.out.below hbr)).mono ?_
              rintro e w3 ⟨rfl, hb3⟩
              have mR := jR.below hb3 jR.lt
              have mD := jD.below hb3 jD.lt
              have nR := mR.cell
              have nRz := mR.free
              have nRs := mR.lt
              have nD := mD.cell
              simp only [dcells] at nR nD
              have hbw3 := btrans hbr hb3
              clear jR jD cR zR sR sD cD hbr
              cases hri : Pg.right ⟨k, da, db, di, dn⟩
              · have hno : Pg.parse s.data.toList = none := by rw [HPF.out, hri]; simp
                have HNO := Lib.hid hno
                simp only [printE, hri, Bool.false_eq_true, if_false]
                clear hno HPF hri
                go_wp2_with fail
                refine bodyPost_ret (v := .tuple #[.agg #[.int .i64 0, .int .i64 0, .int .i64 0, .int .i64 0, .int .i64 0], .int .i64 151]) (by simp [results, Tryd.results18, go_sem, nR]) rfl ?_
                refine ⟨?_, ?_⟩
                · unfold parsed parseE; rw [HNO.out]; rfl
                · repeat (first | exact hbw3 | refine bset ?_ (Nat.le_refl _) _)
              · by_cases hpr : Pg.print ⟨k, da, db, di, dn⟩ = s.data.toList
                · have hyes : Pg.parse s.data.toList = some ⟨k, da, db, di, dn⟩ := by rw [HPF.out, hri, if_pos ⟨rfl, hpr⟩]
                  have HYES := Lib.hid hyes
                  simp only [printE, printed, hri, if_true]
                  have hts : (strB (Pg.print ⟨k, da, db, di, dn⟩)).toList = s.toList := by rw [ByteArray.toList_eq, ByteArray.toList_eq, strB_toList, hpr]
                  clear hyes HPF hri hpr
                  go_wp2_with fail
                  refine bodyPost_ret (v := .tuple #[.agg #[.int .i64 k, .int .i64 da, .int .i64 db, .int .i64 di, .int .i64 dn], .int .i64 0]) (by simp [results, Tryd.results18, go_sem, nR]) rfl ?_
                  refine ⟨?_, ?_⟩
                  · unfold parsed parseE; rw [HYES.out]; rfl
                  · repeat (first | exact hbw3 | refine bset ?_ (Nat.le_refl _) _)
                · have hno : Pg.parse s.data.toList = none := by rw [HPF.out, hri, if_neg (by simp [hpr])]
                  have HNO := Lib.hid hno
                  simp only [printE, printed, hri, if_true]
                  have hts : ¬ (strB (Pg.print ⟨k, da, db, di, dn⟩)).toList = s.toList := by rw [ByteArray.toList_eq, ByteArray.toList_eq, strB_toList]; exact hpr
                  have hts2 : ((strB (Pg.print ⟨k, da, db, di, dn⟩)).toList == s.toList) = false := beq_eq_false_iff_ne.2 hts
                  clear hno HPF hri hpr
                  go_wp2_with fail
                  refine bodyPost_ret (v := .tuple #[.agg #[.int .i64 0, .int .i64 0, .int .i64 0, .int .i64 0, .int .i64 0], .int .i64 151]) (by simp [results, Tryd.results18, go_sem, nR]) rfl ?_
                  refine ⟨?_, ?_⟩
                  · unfold parsed parseE; rw [HNO.out]; rfl
                  · repeat (first | exact hbw3 | refine bset ?_ (Nat.le_refl _) _)
        · have hln' : (((Pg.parts k).length : Int) == (xs.length : Int)) = false := beq_eq_false_iff_ne.2 (by omega)
          go_wp2_with fail
          go_roundw
          case rel => exact ⟨k + 1, rfl, by omega, by omega, Lib.hid (HNX.out (by simp [Pg.fits, hln])), HJG.out, lR, hbw2⟩
          case measure => simp [intOf]; omega
      · go_wp2_with fail
        go_roundw
        case rel => exact ⟨k + 1, rfl, by omega, by omega, Lib.hid (HNX.out (by
            simp only [Pg.fits, decide_eq_false_iff_not]
            rintro ⟨h, _⟩
            refine hwx ?_
            rw [ByteArray.toList_eq, ByteArray.toList_eq]
            exact h)), HJG.out, lR, hbw2⟩
        case measure => simp [intOf]; omega
    · obtain rfl : k = 15 := by omega
      have hnone : Pg.parse s.data.toList = none := parse_nofit s x xs HX.out (fun j h1 h2 => hnf.out j h1 (by omega))
      have HN := Lib.hid hnone
      clear hnone hnf
      have cR := jR.cell
      have zR := jR.free
      have sR := jR.lt
      simp only [dcells] at cR
      go_wp2_with fail
      refine bodyPost_ret (v := .tuple #[.agg #[.int .i64 0, .int .i64 0, .int .i64 0, .int .i64 0, .int .i64 0], .int .i64 151]) (by simp [results, Tryd.results18, go_sem, cR]) rfl ?_
      refine ⟨?_, ?_⟩
      · unfold parsed parseE; rw [HN.out]; rfl
      · repeat (first | exact hbr | refine bset ?_ (Nat.le_refl _) _)
end Go.Proofs.YthchcnbgjklbhaaDoor
