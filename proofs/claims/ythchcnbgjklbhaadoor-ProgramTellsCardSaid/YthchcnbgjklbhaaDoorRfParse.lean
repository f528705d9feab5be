/- Walk: the document's own Parse. -/
import Derived.Test.YthchcnbgjklbhaaDoorRfParsePure
import Derived.Deep.Cut
import Derived.Deep.DeepCutAuto
import Derived.IntWalk
namespace Go.Proofs.YthchcnbgjklbhaaDoor
open Go.RowKit
theorem pre_fine (xs : List (List UInt8)) (j : Nat) (y : List UInt8) (h : xs[j]? = some y) : fineL (xs.take (j + 1)) = (fineL (xs.take j) && (val y).2) := by
  unfold fineL
  rw [List.take_add_one, h, List.all_append]; simp
theorem pre_rfold (ps : List Pg.Pt) (xs : List (List UInt8)) (j : Nat) (p : Pg.Pt) (y : List UInt8) (d : Pg.D) (hp : ps[j]? = some p) (h : xs[j]? = some y) :
    rfold (ps.take (j + 1)) (xs.take (j + 1)) d = (rfold (ps.take j) (xs.take j) d).set p.f (val y).1 := by
  have h1 := (List.getElem?_eq_some_iff.1 hp).1
  have h2 := (List.getElem?_eq_some_iff.1 h).1
  rw [List.take_add_one, List.take_add_one, h, hp]
  exact rfold_snoc _ _ _ _ _ (by rw [List.length_take, List.length_take]; omega)
theorem rfold_take_k (k : Int) (xs : List (List UInt8)) (j : Nat) : (rfold ((Pg.parts k).take j) (xs.take j) (Pg.bare k)).k = k :=
  rfold_k _ _ _ fun p hp => (Pg.parts_bd p (List.mem_of_mem_take hp)).2.2
def RParseEnd (s : ByteArray) (w : World) (e : Ending) (w' : World) : Prop :=
  e = .returned (.tuple #[.agg (dcells (parsed s.data.toList)), .int .i64 (parseE s.data.toList)]) ∧ Below w.heap.size w w'
theorem rright_val (k a b i n : Int) {r : Bool} (h : Pg.right ⟨k, a, b, i, n⟩ = r) (w : World) : Calls Tryd.prog 16 #[.agg #[.int .i64 k, .int .i64 a, .int .i64 b, .int .i64 i, .int .i64 n]] w fun e w' =>
    e = .returned (.bool r) ∧ Below w.heap.size w w' := by
  have h1 := rright_any k a b i n w
  unfold RRightSaid at h1
  rw [h] at h1
  exact h1
theorem rvalue_to (y : List UInt8) (hy : y.length ≤ 200) {v : Int} {b : Bool} (h : val y = (v, b)) (w : World) : Calls Tryd.prog 30 #[.string (strB y)] w fun e w' =>
    e = .returned (.tuple #[.int .i64 v, .bool b]) ∧ Below w.heap.size w w' := by
  have h1 := rvalue_any (strB y) (by rw [strB_size]; exact hy) w
  have e : (strB y).data.toList = y := by simp [strB]
  rw [e, h] at h1
  exact h1
set_option maxHeartbeats 4000000 in
set_option maxRecDepth 100000 in
theorem rparse_any (s : ByteArray) (hs : s.size ≤ 200) (w : World) : Calls Tryd.prog 19 #[.string s] w (RParseEnd s w) := by
  have hlen : s.data.toList.length = s.size := by rw [Array.length_toList]; rfl
  obtain ⟨x, xs, hx⟩ : ∃ x xs, pieces s.data.toList = x :: xs := by
    cases h : pieces s.data.toList with
    | nil => exact absurd h (pieces_ne _)
    | cons x xs => exact ⟨x, xs, rfl⟩
  have hsz : ∀ y ∈ xs, y.length ≤ 200 := fun y hy => by
    have := pieces_size s.data.toList y (by rw [hx]; simp [hy]); omega
  have hcnt := pieces_count s.data.toList
  rw [hx, List.length_cons, hlen] at hcnt
  have hspl := rsplit_any s hs
  rw [hx] at hspl
  have HSP := Lib.hid hspl
  have HSZ := Lib.hid hsz
  have HX := Lib.hid hx
  clear hx hsz hspl hlen
  go_enter Tryd.func19, Tryd.ntmps19
  go_wp2_with fail
  refine (HSP.out _).mono ?_
  rintro e w1 ⟨v, rfl, hown, hb1⟩
  have hR : Blk w1 w.heap.size (dcells ⟨0, 0, 0, 0, 0⟩) 23 := (Blk.new w _ _).below hb1 (by simp)
  have hb : Below w.heap.size w w1 := btrans (balloc (Below.refl _ _) _) hb1
  obtain ⟨g, cap, cs, rfl, hgl, hg, hcap, hc0, hcS⟩ : ∃ g cap cs, v = .slice (some ⟨g, 0, none⟩) (xs.length + 1) cap ∧ w.heap.size < g ∧ Blk w1 g cs 9 ∧ xs.length + 1 ≤ cap ∧ cs[0]? = some (.string (strB x)) ∧ (∀ j y, xs[j]? = some y → cs[j + 1]? = some (.string (strB y))) := by
    obtain ⟨hl, ⟨_, hn⟩ | ⟨g, cap, cur, rfl, hbg, hg, hnc, hcm, hcs, htk⟩⟩ := hown
    · simp at hn
    · have hat : ∀ (j : Nat) (y : Value), ((x :: xs).map sv)[j]? = some y → cur[j]? = some y := by
        intro j y hy
        rw [← htk, List.getElem?_take] at hy
        split at hy
        · rw [← Array.getElem?_toList]; exact hy
        · cases hy
      refine ⟨g, cap, cur, by simp, by have h9 := hbg; simp at h9; omega, hg, by simpa using hnc, hat 0 _ rfl, fun j y hy => hat (j + 1) _ ?_⟩
      rw [List.map_cons, List.getElem?_cons_succ, List.getElem?_map, hy]; rfl
  have HCS := Lib.hid hcS
  clear hcS hown hb1
  go_wp2_with fail
  go_loopw [5, 6, 7, 8, 9, 10, 11, 12, 13, 14] (fun kd _ _ _ _ _ _ _ _ _ wr => ∃ k : Int, kd = .int .i64 k ∧ 1 ≤ k ∧ k ≤ 15 ∧ Hid (∀ j, 1 ≤ j → j < k → Pg.word j = x ∧ (Pg.parts j).length = xs.length → Pg.parse s.data.toList = none) ∧ Blk wr g cs 9 ∧ Blk wr w.heap.size (dcells ⟨0, 0, 0, 0, 0⟩) 23 ∧ Below w.heap.size w wr) (fun kd _ _ _ _ _ _ _ _ _ _ => (15 - intOf kd).toNat)
  case atStart => exact ⟨1, rfl, by omega, by omega, Lib.hid (fun j h1 h2 => by omega), hg, hR, hb⟩
  case round =>
    obtain ⟨k, rfl, k1, k15, hnf, jg, jR, hbr⟩ := hrel
    obtain ⟨wo, rfl⟩ : ∃ wo : World, wo = wr := ⟨_, rfl⟩
    clear hg hR hb
    have cR := jR.cell
    have zR := jR.free
    have sR := jR.lt
    simp only [dcells] at cR
    by_cases hlt : k ≤ 14
    · have hLs : (strB (letters (Pg.parts k))).size = 2 * (Pg.parts k).length := by rw [strB_size, letters_len]
      have hl3 : (Pg.parts k).length ≤ 3 := (Pg.word_len k ⟨k1, hlt⟩).2.2.1
      have HF := Lib.hid (rform_any k)
      unfold RFormSaid at HF
      rw [decide_eq_true ⟨k1, hlt⟩] at HF
      have hnext : (Pg.word k = x ∧ (Pg.parts k).length = xs.length → Pg.parse s.data.toList = none) → ∀ j, 1 ≤ j → j < k + 1 → Pg.word j = x ∧ (Pg.parts j).length = xs.length → Pg.parse s.data.toList = none := fun h j h1 h2 => by
        by_cases e : j = k
        · rw [e]; exact h
        · exact hnf.out j h1 (by omega)
      have HNX := Lib.hid hnext
      clear hnext hnf
      have hc0' := (jg.cell 0).trans hc0
      obtain ⟨L, hL⟩ : ∃ L, L = strB (letters (Pg.parts k)) := ⟨_, rfl⟩
      rw [← hL] at hLs HF
      have hL2 : (L.size : Int) / 2 = (Pg.parts k).length := by omega
      have hL0 : 0 ≤ (L.size : Int) := by omega
      have hL9 : (L.size : Int) ≤ 9 := by omega
      have HL2 := Lib.hid hL2
      have HLS := Lib.hid hLs
      have HL := Lib.hid hL
      clear hL2 hLs hL
      go_wp2_with fail
      refine (HF.out _).mono ?_
      rintro e w2 ⟨rfl, rfl⟩
      by_cases hwx : (wordB k).toList = (strB x).toList
      · have hwx' : Pg.word k = x := by
          rw [ByteArray.toList_eq, ByteArray.toList_eq, strB_toList] at hwx
          exact hwx
        have HW := Lib.hid hwx'
        clear hwx'
        by_cases hln : (Pg.parts k).length = xs.length
        · have hhit := rparse_hit HX.out ⟨k1, hlt⟩ HW.out hln
          have HH := Lib.hid hhit
          have hln' : ((xs.length : Int) + 1 == 1 + (L.size : Int) / 2) = true := beq_iff_eq.2 (by have := HL2.out; omega)
          have hln2 : ((xs.length : Int) + 1 != 1 + (L.size : Int) / 2) = false := by rw [bne, hln']; rfl
          clear hhit
          go_wp2_with fail
          obtain ⟨Dk, hDk⟩ : ∃ D, D = wo.heap.size := ⟨_, rfl⟩
          have hwD : w.heap.size < Dk := by omega
          have hgD : g < Dk := by have := jg.lt; omega
          have jg1 := jg.alloc (.cells (dcells ⟨k, 0, 0, 0, 0⟩) 23)
          have jR1 := jR.alloc (.cells (dcells ⟨k, 0, 0, 0, 0⟩) 23)
          have jD1 := Blk.new wo (dcells ⟨k, 0, 0, 0, 0⟩) 23
          have hb1 := balloc hbr (.cells (dcells ⟨k, 0, 0, 0, 0⟩) 23)
          rw [← hDk] at jD1 ⊢
          have HAT : Hid (∀ (j : Nat) (p : Pg.Pt), (Pg.parts k)[j]? = some p → ∃ (h1 : 2 * j < L.size), ((L[2 * j]'h1).toNat : Int) = flet p.f) := Lib.hid (by
            intro j p hp
            have hj := (List.getElem?_eq_some_iff.1 hp).1
            have hh := HL.out
            have hs2 := HLS.out
            refine ⟨by omega, ?_⟩
            subst hh
            rw [strB_at (letters_at (Pg.parts k) j p hp).1, flet_byte])
          have hps : ∀ p ∈ Pg.parts k, p.f = 1 ∨ p.f = 2 ∨ p.f = 3 ∨ p.f = 4 := fun p hp => by have := Pg.parts_bd p hp; omega
          have HPS := Lib.hid hps
          have HLN := Lib.hid hln
          have HTK := Lib.hid (fun j => rfold_take_k k xs j)
          clear jg jR hbr cR zR sR hc0' hps hDk hln hln' hln2 HF HW HNX hwx
          simp only [dcells] at jg1 jR1 jD1 hb1
          go_loopw [10, 11, 12, 13] (fun fb ix _ _ wr => ∃ (j m : Nat) (b : Bool), ix = .int .i64 m ∧ m = j + 1 ∧ j ≤ xs.length ∧ fb = .bool b ∧ Hid (b = fineL (xs.take j)) ∧ Blk wr Dk (dcells (rfold ((Pg.parts k).take j) (xs.take j) (Pg.bare k))) 23 ∧ Blk wr g cs 9 ∧ Blk wr w.heap.size (dcells ⟨0, 0, 0, 0, 0⟩) 23 ∧ Below w.heap.size w wr) (fun _ ix _ _ _ => xs.length + 1 - (intOf ix).toNat)
          case atStart => exact ⟨0, 1, true, rfl, rfl, by omega, rfl, Lib.hid rfl, jD1, jg1, jR1, hb1⟩
          case round =>
            clear jD1 jg1 jR1 hb1
            obtain ⟨j, m, b, rfl, hm, hj, rfl, hfb, jD, jg, jR, hbr⟩ := hrel
            obtain ⟨wi, rfl⟩ : ∃ wi : World, wi = wr := ⟨_, rfl⟩
            have cR := jR.cell
            have zR := jR.free
            have sR := jR.lt
            have sD := jD.lt
            have zD := jD.free
            have cD := jD.cell
            simp only [dcells] at cR
            obtain ⟨x1, x2, x3, x4, hx⟩ : ∃ x1 x2 x3 x4, rfold ((Pg.parts k).take j) (xs.take j) (Pg.bare k) = ⟨k, x1, x2, x3, x4⟩ := by
              have hxk := HTK.out j
              generalize rfold ((Pg.parts k).take j) (xs.take j) (Pg.bare k) = q at hxk
              obtain ⟨qk, x1, x2, x3, x4⟩ := q
              simp only at hxk
              exact ⟨x1, x2, x3, x4, by rw [hxk]⟩
            have HM := Lib.hid hm
            have hm1 : (1 : Int) ≤ (m : Int) := by omega
            have hm9 : (m : Int) ≤ (xs.length : Int) + 1 := by omega
            rw [hx] at cD jD
            simp only [dcells] at cD
            clear hm
            by_cases hlt2 : j < xs.length
            · obtain ⟨y, hyj⟩ : ∃ y, xs[j]? = some y := ⟨xs[j], List.getElem?_eq_getElem hlt2⟩
              have hln := HLN.out
              obtain ⟨p, hpj⟩ : ∃ p, (Pg.parts k)[j]? = some p := ⟨(Pg.parts k)[j]'(by omega), List.getElem?_eq_getElem (by omega)⟩
              have hml : (m : Int) < (xs.length : Int) + 1 := by have := HM.out; omega
              have qy : wi.cell? ⟨g, m, none⟩ = some (.string (strB y)) := by
                rw [HM.out]; exact (jg.cell (j + 1)).trans (HCS.out j y hyj)
              have hyl := HSZ.out y (List.mem_of_getElem? hyj)
              have hpf := HPS.out p (List.mem_of_getElem? hpj)
              obtain ⟨v, ok, hv⟩ : ∃ v ok, val y = (v, ok) := ⟨_, _, rfl⟩
              obtain ⟨y0, y1, y2, y3, y4, hy⟩ : ∃ y0 y1 y2 y3 y4, Pg.D.set ⟨k, x1, x2, x3, x4⟩ p.f v = ⟨y0, y1, y2, y3, y4⟩ := ⟨_, _, _, _, _, rfl⟩
              have hnew : rfold ((Pg.parts k).take (j + 1)) (xs.take (j + 1)) (Pg.bare k) = ⟨y0, y1, y2, y3, y4⟩ := by
                rw [pre_rfold _ _ _ _ _ _ hpj hyj, hx, hv, hy]
              have hfine : (b && ok) = fineL (xs.take (j + 1)) := by rw [pre_fine _ _ _ hyj, ← hfb.out, hv]
              obtain ⟨h1, q1⟩ := HAT.out j p hpj
              have i1 : (2 * (m : Int) - 2).toNat = 2 * j := by have := HM.out; omega
              have HNEW := Lib.hid hnew
              have HFINE := Lib.hid hfine
              have HV := Lib.hid hv
              have HY := Lib.hid hy
              have HPF := Lib.hid hpf
              have HI := Lib.hid i1
              clear hx hyj hpj hv hy hnew hfine i1 hpf hln
              go_wp2_with fail
              refine (rvalue_to y hyl HV.out _).mono ?_
              rintro e w3 ⟨rfl, hb3⟩
              have mD := jD.below hb3 jD.lt
              have mg := jg.below hb3 jg.lt
              have mR := jR.below hb3 jR.lt
              have hbw := btrans hbr hb3
              clear jD jg jR hbr hb3 cR zR sR sD zD cD qy
              have sD := mD.lt
              have zD := mD.free
              have cD := mD.cell
              simp only [dcells] at cD
              cases b
              all_goals
                go_upto_region 14 with fail
                have i1 := HI.out
                have hm5 : (m : Int) ≤ 5 := by have := HM.out; have := HLS.out; omega
                have a1 : IntKind.i64.wrap (2 * (m : Int)) = 2 * (m : Int) := IntWalk.i64_in _ (by omega)
                have a2 : IntKind.i64.wrap (2 * (m : Int) - 2) = 2 * (m : Int) - 2 := IntWalk.i64_in _ (by omega)
                have a3 : 0 ≤ 2 * (m : Int) - 2 := by omega
                have a4 : 2 * (m : Int) - 2 < (L.size : Int) := by have := HM.out; omega
                go_region_with (first | (go_at_call 26; refine (rset_to k x1 x2 x3 x4 v p.f HPF.out HY.out _).mono ?_; rintro e w4 ⟨rfl, hb4⟩; have nD := (drewBk mD).below hb4 (drewBk mD).lt; have c4 := nD.cell; have s4 := nD.lt; have z4 := nD.free; simp only [dcells] at c4) | fail)
                all_goals
                  clear a1 a2 a3 a4 i1
                  go_wp2_with fail
                  go_roundw
                  case rel =>
                    refine ⟨j + 1, m + 1, _, by simp, by have := HM.out; omega, by omega, rfl, HFINE, ?_, ?_, ?_, ?_⟩
                    · rw [HNEW.out]
                      exact ((((nD.set 0 _).set 1 _).set 2 _).set 3 _).set 4 _
                    · have hne : g ≠ Dk := by omega
                      exact (((((drewBk mg).below hb4 (drewBk mg).lt).set_other hne _).set_other hne _).set_other hne _).set_other hne _ |>.set_other hne _
                    · have hne : w.heap.size ≠ Dk := by omega
                      exact (((((drewBk mR).below hb4 (drewBk mR).lt).set_other hne _).set_other hne _).set_other hne _).set_other hne _ |>.set_other hne _
                    · have hge : w.heap.size ≤ Dk := by omega
                      exact bset (bset (bset (bset (bset (btrans (Below.drew hbw) hb4) hge _) hge _) hge _) hge _) hge _
                  case measure => simp [intOf]; omega
            · obtain rfl : j = xs.length := by omega
              have hln := HLN.out
              have hml : ¬ (m : Int) < (xs.length : Int) + 1 := by have := HM.out; omega
              rw [List.take_length] at hfb
              have hx9 := hx
              rw [← hln, List.take_length, hln, List.take_length] at hx9
              have hh := HH.out
              rw [hx9, ← hfb] at hh
              obtain ⟨r, hr⟩ : ∃ r, Pg.right ⟨k, x1, x2, x3, x4⟩ = r := ⟨_, rfl⟩
              rw [hr] at hh
              have HR := Lib.hid (rright_val k x1 x2 x3 x4 hr)
              have HH2 := Lib.hid hh
              clear hh hx hx9 hr hfb hln HH
              have hnoR : ∀ c : Prop, c → c := fun _ h => h
              go_wp2_with fail
              refine (HR.out _).mono ?_
              rintro e w3 ⟨rfl, hb3⟩
              have mR := jR.below hb3 jR.lt
              have mD := jD.below hb3 jD.lt
              have mg := jg.below hb3 jg.lt
              have nR := mR.cell
              have nRz := mR.free
              have nRs := mR.lt
              have nD := mD.cell
              simp only [dcells] at nR nD
              have hbw3 := btrans hbr hb3
              clear jR jD jg cR zR sR sD cD zD hbr hb3 hnoR
              cases b
              · have hno : Pg.parse s.data.toList = none := by rw [HH2.out]; simp
                have HNO := Lib.hid hno
                clear hno HH2
                go_wp2_with fail
                go_roundw
                case rel => exact ⟨k + 1, rfl, by omega, by omega, Lib.hid (fun j h1 h2 h3 => HNO.out), mg, mR, hbw3⟩
                case measure => simp [intOf]; omega
              · cases r
                · have hno : Pg.parse s.data.toList = none := by rw [HH2.out]; simp
                  have HNO := Lib.hid hno
                  clear hno HH2
                  go_wp2_with fail
                  go_roundw
                  case rel => exact ⟨k + 1, rfl, by omega, by omega, Lib.hid (fun j h1 h2 h3 => HNO.out), mg, mR, hbw3⟩
                  case measure => simp [intOf]; omega
                · have hyes : Pg.parse s.data.toList = some ⟨k, x1, x2, x3, x4⟩ := by rw [HH2.out]; simp
                  have HYES := Lib.hid hyes
                  clear hyes HH2
                  go_wp2_with fail
                  refine bodyPost_ret (v := .tuple #[.agg #[.int .i64 k, .int .i64 x1, .int .i64 x2, .int .i64 x3, .int .i64 x4], .int .i64 0]) (by simp [results, Tryd.results19, go_sem, nR]) rfl ?_
                  refine ⟨?_, ?_⟩
                  · unfold parsed parseE; rw [HYES.out]; rfl
                  · repeat (first | exact hbw3 | refine bset ?_ (Nat.le_refl _) _)
        · have hln' : ((xs.length : Int) + 1 == 1 + (L.size : Int) / 2) = false := beq_eq_false_iff_ne.2 (by have := HL2.out; omega)
          have hln2 : ((xs.length : Int) + 1 != 1 + (L.size : Int) / 2) = true := by rw [bne, hln']; rfl
          go_wp2_with fail
          go_roundw
          case rel => exact ⟨k + 1, rfl, by omega, by omega, Lib.hid (HNX.out (fun h => absurd h.2 hln)), jg, jR, hbr⟩
          case measure => simp [intOf]; omega
      · go_wp2_with fail
        go_roundw
        case rel => exact ⟨k + 1, rfl, by omega, by omega, Lib.hid (HNX.out (fun h => absurd (by rw [ByteArray.toList_eq, ByteArray.toList_eq, strB_toList, ← h.1]; rfl) hwx)), jg, jR, hbr⟩
        case measure => simp [intOf]; omega
    · obtain rfl : k = 15 := by omega
      have hnone : Pg.parse s.data.toList = none := by
        by_cases hh : ∃ j, 1 ≤ j ∧ j ≤ 14 ∧ Pg.word j = x ∧ (Pg.parts j).length = xs.length
        · obtain ⟨j, h1, h2, h3⟩ := hh
          exact hnf.out j h1 (by omega) h3
        · exact rparse_miss HX.out fun j h1 h2 h3 => hh ⟨j, h1, h2, h3⟩
      have HN := Lib.hid hnone
      clear hnone hnf
      go_wp2_with fail
      refine bodyPost_ret (v := .tuple #[.agg #[.int .i64 0, .int .i64 0, .int .i64 0, .int .i64 0, .int .i64 0], .int .i64 151]) (by simp [results, Tryd.results19, go_sem, cR]) rfl ?_
      refine ⟨?_, ?_⟩
      · unfold parsed parseE; rw [HN.out]; rfl
      · repeat (first | exact hbr | refine bset ?_ (Nat.le_refl _) _)
end Go.Proofs.YthchcnbgjklbhaaDoor
