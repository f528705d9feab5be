/- The law ThreadBack, walked. -/
import Derived.Test.YtemohiainfllcaaGreatSe
namespace Go.Proofs.YtemohiainfllcaaGreat
open Go.RowKit Hp
attribute [local go_sem ↓] Go.wp_at_zero Go.wp_at_succ
/-- The blocks laid for the law, in memory. -/
def QAt (w W : World) (t : List (List Pg.D)) (v : Value) : Prop := BlksAt W v (vs (backQ t)) ∧ (∃ a c, v = .slice a (backQ t).length c) ∧ Below w.heap.size w W
theorem Row.two {W : World} {o : Own} {tg : Tag} {e : TypeId} {v : Value} {n : Nat} {xs : List Value} (h : Row W o tg e 1 v n xs) (ls : List (List Pg.D)) (hl : ls.length = n) (hm : n ≤ maxLen) (hx : xs.length = n) (hd : ∀ (j : Nat) (l : List Pg.D), ls[j]? = some l → ∃ u, xs[j]? = some u ∧ DeedsAt W u l) : BlocksAt W v ls :=
  ⟨by omega, xs, by omega, by rw [hl]; exact h.sl, hd⟩
set_option maxRecDepth 100000 in
set_option maxHeartbeats 8000000 in
theorem threadBack_any (v : Value) (raw : List (List (List Pg.D))) (w : World) (h : ThreadsAt w v raw) (hI : TI raw) :
    Calls Tryz.prog 9 #[v] w fun e w' => e = .returned (.bool true) ∧ Below w.heap.size w w' := by
  have HAw := Lib.hid awake16_any
  have HPr := Lib.hid (fun (w' : World) (hb : Below w.heap.size w w') => programs_any v raw w' (h.below hb) hI)
  have HNa := Lib.hid (fun w' => c_new 2000 1 100 100 99 (by omega) (by omega) (by omega) (by omega) (by omega) (by omega) (fun _ => (7, 0)) 0 w' (fun b _ => by simp))
  have hM : (bnd 99).toNat = 99 := by unfold bnd; rfl
  rw [hM] at HNa
  clear h hI hM
  go_enter Tryz.func9, Tryz.ntmps9
  go_wp2_with fail
  refine (HAw.out _).mono ?_
  rintro e w1 ⟨rfl, hb1⟩
  go_wp2_with fail
  refine (HPr.out _ hb1).mono ?_
  rintro e w2 ⟨v2, oP, rfl, hF, hK⟩
  have hT := hF.at
  have hb2 := btrans hb1 hK.b
  obtain ⟨a, c, rfl, hlen, hop⟩ := hT.opened
  obtain ⟨pl1, pl4⟩ := progs_len raw
  obtain ⟨t0, ht0⟩ : ∃ t, (progs raw)[0]? = some t := ⟨(progs raw)[0], List.getElem?_eq_getElem (by omega)⟩
  obtain ⟨b0, off0, u0, rfl, q0, hB0⟩ := hop 0 t0 ht0
  have hmem := List.mem_of_getElem? ht0
  have HQ := Lib.hid (backQ_ok hmem)
  have HMem := Lib.hid (mem_progs hmem)
  rw [Nat.add_zero] at q0
  have HB2 := Lib.hid hb2
  have hlp : (0 : Int) < ((progs raw).length : Int) := by omega
  generalize (progs raw).length = np at *
  obtain ⟨a1, c1, rfl, hl1, hop1⟩ := hB0.opened
  unfold maxLen at hl1
  have HOp1 := Lib.hid hop1
  clear hF hK hT hop ht0 hB0 hmem hb1 hb2 HAw pl1 pl4 hlen hop1
  go_upto_if 24 with fail
  go_cut [5] (fun t5 wx => QAt w wx t0 t5)
  case first =>
    obtain ⟨V, hV⟩ : ∃ V, V = (w2.alloc (.cells #[.int .i64 1, .int .i64 0, .int .i64 0, .int .i64 1, .int .i64 1] 52)).alloc (.cells #[.slice (some ⟨w2.heap.size, 0, none⟩) 1 1] 50) := ⟨_, rfl⟩
    have bV : Below w2.heap.size w2 V := by rw [hV]; exact balloc (balloc (bsame _) _) _
    have jD : Blk V w2.heap.size #[.int .i64 1, .int .i64 0, .int .i64 0, .int .i64 1, .int .i64 1] 52 := by rw [hV]; exact (Blk.new _ _ _).alloc _
    have jB : Blk V (w2.heap.size + 1) #[.slice (some ⟨w2.heap.size, 0, none⟩) 1 1] 50 := by rw [hV]; exact Blk.new_at _ _ _ _ _ (by simp) rfl
    have dD : ∀ X : World, Blk X w2.heap.size #[.int .i64 1, .int .i64 0, .int .i64 0, .int .i64 1, .int .i64 1] 52 → DeedsAt X (.slice (some ⟨w2.heap.size, 0, none⟩) 1 1) [dD0] := fun X j => ⟨by simp [maxLen], Sl.blk j⟩
    rw [← hV]
    cases t0 with
    | nil =>
      have hfin : QAt w V [] (.slice (some ⟨w2.heap.size + 1, 0, none⟩) 1 1) := by
        refine ⟨blks_of (t := backQ []) ⟨by simp [maxLen, backQ], [.slice (some ⟨w2.heap.size, 0, none⟩) 1 1], rfl, Sl.blk jB, fun j l hj => ?_⟩ HQ.out.2, ⟨_, _, rfl⟩, btrans HB2.out bV⟩
        have : j = 0 := by have := (List.getElem?_eq_some_iff.1 hj).1; simpa [backQ] using this
        subst this
        simp [backQ] at hj
        subst hj
        exact ⟨_, rfl, dD V jD⟩
      have HF := Lib.hid hfin
      clear hfin jD jB dD bV hV q0
      go_wp2_with fail
      go_meet
      exact HF.out
    | cons ds t =>
      obtain ⟨b2, off2, u2, rfl, q2, hDs⟩ := HOp1.out 0 ds rfl
      have hds0 := ((HMem.out).2 ds (.head _)).1
      have hds6 := ((HMem.out).2 ds (.head _)).2.1
      have hlen5 : ∀ l : List Pg.D, (dflat l).length = l.length * 5 := fun l => by
        induction l with
        | nil => rfl
        | cons x l ih => show ((dcells x).toList ++ dflat l).length = _; rw [List.length_append, ih]; simp [dcells]; omega
      obtain ⟨_, a3, c3, rfl, hsl⟩ := id hDs
      obtain ⟨b3, off3, rfl, hc3⟩ : ∃ b off, a3 = some ⟨b, off, none⟩ ∧ ∀ j x, (dflat ds)[j]? = some x → w2.cell? ⟨b, off + j, none⟩ = some x := by
        rcases hsl with h | h
        · have h5 := hlen5 ds
          rw [h] at h5
          have : 0 < ds.length := List.length_pos_iff.2 hds0
          simp at h5; omega
        · exact h
      obtain ⟨oV, hoV⟩ : ∃ o : Own, o = fun b => if b = w2.heap.size + 1 then (3, 0) else (1, 0) := ⟨_, rfl⟩
      have tD : oV w2.heap.size = (1, 0) := by rw [hoV]; exact if_neg (by omega)
      have tB : oV (w2.heap.size + 1) = (3, 0) := by rw [hoV]; exact if_pos rfl
      have rB : Row V oV (3, 0) 50 1 (.slice (some ⟨w2.heap.size + 1, 0, none⟩) 1 1) 1 [.slice (some ⟨w2.heap.size, 0, none⟩) 1 1] :=
        ⟨⟨rfl, .inr ⟨w2.heap.size + 1, 1, #[.slice (some ⟨w2.heap.size, 0, none⟩) 1 1], rfl, Nat.zero_le _, jB, Nat.le_refl _, by simp [maxLen], rfl, rfl⟩⟩, fun k hk => by
          have : w2.heap.size + 1 = k := by simpa [Value.ownBlock] using hk
          subst this; exact tB⟩
      have hnews : ∀ j u, (dflat ds)[j]? = some u → V.cell? ((⟨b3, off3, none⟩ : Addr).add j) = some u := fun j u hu => by
        rw [add_plainz]
        have := hc3 j u hu
        exact (bV.cell (p := ⟨b3, off3 + j, none⟩) (cell_inz this)).trans this
      have hone : ∀ u ∈ dflat ds, u.oneCell' = true := fun u hu => by
        unfold dflat at hu
        obtain ⟨d, _, hd⟩ := List.mem_flatMap.1 hu
        exact dcells_one u hd
      have q2' : V.cell? ⟨b2, off2, none⟩ = some (.slice (some ⟨b3, off3, none⟩) ds.length c3) := (bV.cell (p := ⟨b2, off2, none⟩) (cell_inz q2)).trans q2
      have hm1 : 0 + ds.length ≤ maxLen ∧ (0 + ds.length) * 40 ≤ 140737488355328 := ⟨by simp only [maxLen]; omega, by omega⟩
      have hm2 : ds.length + 1 ≤ maxLen ∧ (ds.length + 1) * 40 ≤ 140737488355328 := ⟨by simp only [maxLen]; omega, by omega⟩
      have hm3 : 1 + 1 ≤ maxLen ∧ (1 + 1) * 24 ≤ 140737488355328 := ⟨by simp only [maxLen]; omega, by omega⟩
      have HM1 := Lib.hid hm1
      have HM2 := Lib.hid hm2
      have HM3 := Lib.hid hm3
      have hl5 := hlen5 ds
      have HL5 := Lib.hid hl5
      have HTD := Lib.hid (And.intro tD tB)
      have HoV := Lib.hid (show ∀ b, b < w2.heap.size → oV b = (1, 0) from fun b hb => by rw [hoV]; exact if_neg (by omega))
      have HB := Lib.hid (And.intro bV jD)
      have HRB := Lib.hid rB
      have HDD := Lib.hid dD
      have HQ2 := Lib.hid HQ.out.2
      obtain ⟨iD, hi5, hs5, hy5, hz5⟩ := info_deed
      obtain ⟨iS, hi1, hs1, hy1, hz1⟩ := info_deeds
      have hu50 := Tryz.underlying50
      have hu48 := Tryz.underlying48
      have hpos : (0 : Int) < ((ds :: t).length : Int) := by simp
      clear hDs hsl hc3 hoV tD tB rB jD jB dD bV hV q0 q2 hm1 hm2 hm3 hl5 hlen5 HOp1 HPr HNa HMem HQ
      go_wp2_with (first
        | (at_builtin; refine wpList_append_row _ rfl _ _ _ rfl 52 iD _ 5 40 hu50 hi5 hz5 hs5 hy5 rfl (by decide) oV (4, 0) _ _ _ rfl (Row.nil V oV (4, 0) 52 5) ⟨b3, off3, none⟩ ds.length c3 (dflat ds) rfl HL5.out hnews hone HM1.out.1 HM1.out.2 ?_; intro v4 w4 hown1 hst1; rw [Nat.zero_add] at hown1; rw [List.nil_append] at hown1; obtain ⟨pa1, cp1, rfl⟩ := hown1.slc; have rn1 := hown1.below (balloc (bsame w4) (.cells #[.int .i64 14, .int .i64 0, .int .i64 0, .int .i64 0, .int .i64 0] 52)); have jn1 := Blk.new w4 #[.int .i64 14, .int .i64 0, .int .i64 0, .int .i64 0, .int .i64 0] 52; replace hown1 := Lib.hid hown1; replace hst1 := Lib.hid hst1)
        | (at_builtin; refine wpList_append_row _ rfl _ _ _ rfl 52 iD _ 5 40 hu50 hi5 hz5 hs5 hy5 rfl (by decide) _ (4, 0) _ _ _ rfl rn1 ⟨w4.heap.size, 0, none⟩ 1 1 [.int .i64 14, .int .i64 0, .int .i64 0, .int .i64 0, .int .i64 0] rfl rfl (news_blk jn1) dcells_one HM2.out.1 HM2.out.2 ?_; intro v5 w5 hown2 hst2; obtain ⟨pa2, cp2, rfl⟩ := hown2.slc; have k2 := (Stp.of_below (T := fun t => t = (4, 0)) (balloc (bsame w4) (.cells #[.int .i64 14, .int .i64 0, .int .i64 0, .int .i64 0, .int .i64 0] 52))).trans hst2; have rB2 := ((HRB.out.stp hst1.out (by simp)).stp k2 (by simp)).below (balloc (bsame w5) (.cells #[.slice pa2 (ds.length + 1) cp2] 50)); have jn2 := Blk.new w5 #[.slice pa2 (ds.length + 1) cp2] 50; replace hown2 := Lib.hid hown2; replace k2 := Lib.hid k2; clear hst2)
        | (at_builtin; refine wpList_append_row _ rfl _ _ _ rfl 50 iS _ 1 24 hu48 hi1 hz1 hs1 hy1 rfl (by decide) _ (3, 0) _ _ _ rfl rB2 ⟨w5.heap.size, 0, none⟩ 1 1 [.slice pa2 (ds.length + 1) cp2] rfl rfl (news_one jn2) one_slice HM3.out.1 HM3.out.2 ?_; intro v6 w6 hown3 hst3; obtain ⟨pa3, cp3, rfl⟩ := hown3.slc)
        | fail)
      go_meet
      have k3 := (Stp.of_below (T := fun t => t = (3, 0)) (balloc (bsame w5) (.cells #[.slice pa2 (ds.length + 1) cp2] 50))).trans hst3
      have k12 := (hst1.out.trans k2.out)
      have hall := (k12.mono (U := fun t => t = (4, 0) ∨ t = (3, 0)) (fun _ h => .inl h)).trans (k3.mono (fun _ h => .inr h))
      have jD2 := HB.out.2.stp k12 (by rw [HTD.out.1]; simp)
      have tD2 := (k12.tags _ HB.out.2.lt).trans HTD.out.1
      have jD3 := jD2.stp k3 (by rw [tD2]; simp)
      have rD := hown2.out.stp k3 (by simp)
      have dS : DeedsAt w6 (.slice pa2 (ds.length + 1) cp2) (ds ++ [dAb]) := by
        refine ⟨by rw [List.length_append]; have := HM2.out.1; simpa using this, ?_⟩
        rw [dflat_snoc, List.length_append]
        exact rD.sl
      have hbl : Below w2.heap.size w2 w6 := ((Stp.of_below (T := fun t => t = (4, 0) ∨ t = (3, 0)) HB.out.1).trans hall).below (fun b hb h => by rw [HoV.out b hb] at h; simp at h)
      refine ⟨blks_of (t := backQ (ds :: t)) (hown3.two (backQ (ds :: t)) rfl (by simp [maxLen]) rfl fun j l hj => ?_) HQ2.out, ⟨_, _, rfl⟩, btrans HB2.out hbl⟩
      have hj2 : j < 2 := by have := (List.getElem?_eq_some_iff.1 hj).1; simpa [backQ] using this
      obtain rfl | rfl : j = 0 ∨ j = 1 := by omega
      · simp [backQ] at hj
        subst hj
        exact ⟨_, rfl, HDD.out w6 jD3⟩
      · simp [backQ] at hj
        subst hj
        exact ⟨_, rfl, dS⟩
  case rest =>
    obtain ⟨hB, ⟨aq, cq, rfl⟩, hbw⟩ := hcut
    have hq := HQ.out.1
    have hlq : (backQ t0).length = (vs (backQ t0)).length := by simp [vs]
    rw [hlq] at hB ⊢
    generalize vs (backQ t0) = q at *
    have HB := Lib.hid hB
    have HBw := Lib.hid hbw
    have Hq := Lib.hid hq
    have h6 := heq6b
    clear hB hbw hq hlq HQ HMem HOp1 HPr q0 hlp HB2
    go_wp2_with fail
    refine (HNa.out _).mono ?_
    rintro e w3 ⟨y, rfl, hid, o3, hS, hI, hs⟩
    clear HNa
    have na7 : y.l.id ≠ 7 := by omega
    have na9 : y.l.id ≠ 9 := by omega
    obtain ⟨f, hb3, hh3⟩ := Us.back_start Hq.out hI
    have HTI := Lib.hid (fun (k : Nat) (hk : k ≤ 3) => (ti_it (ti_fresh hI) (by omega) (by omega) Hq.out.p k (by omega) (by omega)).tst (by omega) (by omega) (by omega) (by omega) Hq.out.p)
    generalize Stt.fresh 2000 1 100 100 99 = S0 at *
    obtain ⟨V0, hV0⟩ : ∃ V, V = w3.alloc (.cells #[.int .i64 0, .int .i64 0, .int .i64 0, .int .i64 0, .int .i64 0, .int .i64 0, .int .i64 0, .int .i64 0, .int .i64 0, .int .i64 0, .int .i64 0, .int .i64 0, .int .i64 0, .int .i64 0, .bool false] 57) := ⟨_, rfl⟩
    have hA0 : AIn V0 (ext o3 w3.heap.size (9, 1)) y S0 w3.heap.size Th0 wc := by
      rw [hV0]
      exact ⟨(hS.retag fun _ hb => ext_lt hb).below (balloc (bsame _) _), Blk.new _ _ _, ext_ge (Nat.le_refl _), ((hs.mono fun _ h => .inl h).ext (9, 1) _ hs.size).alloc _⟩
    generalize ext o3 w3.heap.size (9, 1) = o5 at hA0
    have HID := Lib.hid (And.intro na7 na9)
    have Hb3 := Lib.hid (And.intro hb3 hh3)
    clear hS hs hid na7 na9 hb3 hh3
    go_wp2_with fail
    rw [← hV0]
    obtain ⟨bG, hbG⟩ : ∃ b, b = w3.heap.size := ⟨_, rfl⟩
    rw [← hbG] at hA0 ⊢
    clear hV0 hbG
    go_loopw [9] (fun iv wr => ∃ (k : Nat) (o : Own), iv = .int .i64 k ∧ k ≤ 3 ∧ AIn wr o y (It S0 q k).S bG (It S0 q k).h wc) (fun iv _ => 3 - (intOf iv).toNat)
    case atStart => exact ⟨0, o5, rfl, by omega, hA0⟩
    case round =>
      clear hA0
      obtain ⟨k, o, rfl, hk3, hA⟩ := hrel
      obtain ⟨wo, rfl⟩ : ∃ wo : World, wo = wr := ⟨_, rfl⟩
      by_cases hlt : k < 3
      · have kI : (k : Int) < 3 := by omega
        have tT := HTI.out k (by omega)
        have hcall := tstep_any hA.a (HB.out.below (hA.old HID.out.1)) (It S0 q k).h tT
        have eT : (It S0 q k).S.tstep 0 q (It S0 q k).h = It S0 q (k + 1) := rfl
        rw [eT] at hcall
        obtain ⟨T', hT'⟩ : ∃ T, T = It S0 q (k + 1) := ⟨_, rfl⟩
        obtain ⟨T, hTT⟩ : ∃ T, T = It S0 q k := ⟨_, rfl⟩
        have HT' := Lib.hid hT'
        rw [← hT'] at hcall
        rw [← hTT] at hcall hA
        have hcall := Lib.hid (show Calls Tryz.prog 30 #[ptr y.sb, .int .i64 0, (.slice aq q.length cq), .agg #[.int .i64 T.h.b, .int .i64 T.h.n, .int .i64 T.h.r.a0, .int .i64 T.h.r.a1, .int .i64 T.h.r.a2, .int .i64 T.h.r.a3, .int .i64 T.h.r.a4, .int .i64 T.h.r.a5, .int .i64 T.h.s.a0, .int .i64 T.h.s.a1, .int .i64 T.h.s.a2, .int .i64 T.h.s.a3, .int .i64 T.h.s.a4, .int .i64 T.h.s.a5, .bool T.h.l]] wo fun e w' => e = .returned (.tuple #[.agg #[.int .i64 T'.h.b, .int .i64 T'.h.n, .int .i64 T'.h.r.a0, .int .i64 T'.h.r.a1, .int .i64 T'.h.r.a2, .int .i64 T'.h.r.a3, .int .i64 T'.h.r.a4, .int .i64 T'.h.r.a5, .int .i64 T'.h.s.a0, .int .i64 T'.h.s.a1, .int .i64 T'.h.s.a2, .int .i64 T'.h.s.a3, .int .i64 T'.h.s.a4, .int .i64 T'.h.s.a5, .bool T'.h.l], .agg #[.int .i64 T'.a.k, .int .i64 T'.a.e, .int .i64 T'.a.v]]) ∧ Left y T'.S o wo w' from hcall)
        have HA := Lib.hid hA
        clear tT eT hT' hTT
        go_upto_region 13 with fail
        refine bck13_any _ T.h T'.h T'.a.k T'.a.e T'.a.v (Left y T'.S o wo) wo y.sb bG _ _ _ _ _ _ _ _ _ _ _ _ _ _ _ _ _ _ _ _ _ _ _ _ _ _ _ _ _ _ _ _ _ _ _ _ _ _ _ _ _ _ _ _ _ _ _ _ _ _ _ _ _ _ _ _ _ _ _ _ _ _ _ _ _ _ _ _ _ _ _ _ _ _ _ _ _ _ _ _ _ _ _ _ _ _ _ _ _ _ _ _ _ _ _ _ _ _ _ _ _ _ _ _ _ _ _ _ _ _ _ hA.g hcall.out (fun w' hL => hA.g.stp hL.choose_spec.2.2 (by rw [hA.t]; exact fun h => HID.out.2 h.symm)) ?_
        rintro w5 U ⟨o6, hS5, hI5, hs5⟩ hw hUs jG
        have hA5 := (HA.out.left HID.out.2 hS5 hs5).set HID.out.2 hw jG
        rw [HT'.out] at hA5
        clear hS5 hI5 hs5 hw hUs jG hcall hA HA
        go_wp2_with fail
        go_roundw
        case rel =>
          (repeat apply Exists.intro)
          refine ⟨⟨k + 1, _, ?_, by omega, hA5⟩, rfl⟩
          simp
        case measure => simp [intOf]; omega
      · obtain rfl : k = 3 := by omega
        have hbs := Us.back_first Hq.out Hb3.out.1 Hb3.out.2
        have hh := Hb3.out.2
        have hf0 := Hb3.out.1.f0
        have jG := hA.g
        rw [hh] at jG
        have cG := jG.cell
        have lG := jG.lt
        simp only [ThV.cells] at cG
        obtain ⟨V2, hV2⟩ : ∃ V, V = wo.alloc (.cells #[.int .i64 f.a0, .int .i64 f.a1, .int .i64 f.a2, .int .i64 f.a3, .int .i64 f.a4, .int .i64 f.a5] 55) := ⟨_, rfl⟩
        have bV2 : Below wo.heap.size wo V2 := by rw [hV2]; exact balloc (bsame _) _
        have hA2 := (hA.ext (9, 2)).below bV2
        have jF : Blk V2 wo.heap.size #[.int .i64 f.a0, .int .i64 f.a1, .int .i64 f.a2, .int .i64 f.a3, .int .i64 f.a4, .int .i64 f.a5] 55 := by rw [hV2]; exact Blk.new _ _ _
        have tF : ext o wo.heap.size (9, 2) wo.heap.size = (9, 2) := ext_ge (Nat.le_refl _)
        have ne : wo.heap.size ≠ bG := by have := hA.g.lt; omega
        generalize ext o wo.heap.size (9, 2) = p at hA2 tF
        have HA2 := Lib.hid (And.intro hA2 (And.intro jF tF))
        have hf1 : (f.a0 == 0) = false := by rw [beq_eq_false_iff_ne]; exact hf0
        have Hbs := Lib.hid hbs
        clear hA hA2 jF tF jG hh hf0 hbs bV2 hlt hk3 Hb3 HTI
        go_wp2_with fail
        rw [← hV2]
        obtain ⟨bF, hbF⟩ : ∃ b, b = wo.heap.size := ⟨_, rfl⟩
        rw [← hbF] at HA2 ne ⊢
        clear hV2 hbF cG lG
        obtain ⟨T3, hT3⟩ : ∃ T, T = It S0 q 3 := ⟨_, rfl⟩
        rw [← hT3] at HA2 Hbs
        clear hT3
        go_loopw [11] (fun iv wr => ∃ (i : Nat) (T : TR) (o : Own), iv = .int .i64 i ∧ i ≤ 8 ∧ Us.Bi q f i T ∧ AIn wr o y T.S bG T.h wc ∧ Blk wr bF #[.int .i64 f.a0, .int .i64 f.a1, .int .i64 f.a2, .int .i64 f.a3, .int .i64 f.a4, .int .i64 f.a5] 55 ∧ o bF = (9, 2)) (fun iv _ => 20 - (intOf iv).toNat)
        case atStart => exact ⟨0, T3, p, rfl, by omega, Hbs.out, HA2.out.1, HA2.out.2.1, HA2.out.2.2⟩
        case round =>
          clear HA2 Hbs
          obtain ⟨i, T, o, rfl, hi8, hBi, hA, jF, tF⟩ := hrel
          obtain ⟨wo, rfl⟩ : ∃ wo : World, wo = wr := ⟨_, rfl⟩
          have iI : (i : Int) < 20 := by omega
          have b0 := hBi.bs.si.ti.b0
          have HDo := Lib.hid (fun (W : World) => tdone_any T.h aq q.length cq W)
          by_cases hd : (q.length : Int) ≤ T.h.b
          · obtain ⟨d1, d2, d3⟩ := hBi.done hd
            have hdo : (decide (T.h.b < 0) || decide ((q.length : Int) ≤ T.h.b)) = true := by
              simp only [Bool.or_eq_true, decide_eq_true_eq]; exact .inr hd
            rw [hdo] at HDo
            have hlv : (T.S.t 0).live = false := hBi.bs.si.ti.lv.trans d2
            have hLi := fun (W : World) (hb : Below wo.heap.size wo W) => c_live (hA.a.below hb) hBi.bs.si.ti.inv hBi.bs.si.ti.lt
            have hNo := fun (W : World) (hb : Below wo.heap.size wo W) => now_in (hA.a.below hb)
            rw [hlv] at hLi
            rw [hBi.bs.now] at hNo
            have HLi := Lib.hid (show ∀ (W : World), Below wo.heap.size wo W → Calls Tryz.prog 17 #[ptr y.sb, .int .i64 0] W fun e w' => e = .returned (.tuple #[.int .i64 0, .bool false]) ∧ W = w' from hLi)
            have HNo := Lib.hid (show ∀ (W : World), Below wo.heap.size wo W → Calls Tryz.prog 21 #[ptr y.sb] W fun e w' => e = .returned (.int .i64 1) ∧ W = w' from hNo)
            have hG := hA.g
            have hce : T.h.cells = #[.int .i64 q.length, .int .i64 T.h.n, .int .i64 f.a0, .int .i64 f.a1, .int .i64 f.a2, .int .i64 f.a3, .int .i64 f.a4, .int .i64 f.a5, .int .i64 T.h.s.a0, .int .i64 T.h.s.a1, .int .i64 T.h.s.a2, .int .i64 T.h.s.a3, .int .i64 T.h.s.a4, .int .i64 T.h.s.a5, .bool false] := by unfold ThV.cells; rw [d1, d2, d3]
            have hve : T.h.v = .agg #[.int .i64 q.length, .int .i64 T.h.n, .int .i64 f.a0, .int .i64 f.a1, .int .i64 f.a2, .int .i64 f.a3, .int .i64 f.a4, .int .i64 f.a5, .int .i64 T.h.s.a0, .int .i64 T.h.s.a1, .int .i64 T.h.s.a2, .int .i64 T.h.s.a3, .int .i64 T.h.s.a4, .int .i64 T.h.s.a5, .bool false] := by unfold ThV.v; rw [hce]
            rw [hce] at hG
            rw [hve] at HDo
            replace HDo := Lib.hid HDo.out
            have Hold := Lib.hid (btrans HBw.out (hA.old HID.out.1))
            have HG := Lib.hid (And.intro hG jF)
            have cG := hG.cell
            have cF := jF.cell
            clear hLi hNo hdo hd d1 d2 d3 hlv hce hve hG hA jF tF hBi b0
            go_wp2_with fail
            refine (HDo.out _).mono ?_
            rintro e w5 ⟨rfl, hb5⟩
            have h5 := Lib.hid hb5
            have cG := (HG.out.1.below hb5 HG.out.1.lt).cell
            have cF := (HG.out.2.below hb5 HG.out.2.lt).cell
            clear hb5
            go_wp2_with fail
            refine (HLi.out _ h5.out).mono ?_
            rintro e w6 ⟨rfl, rfl⟩
            go_wp2_with fail
            refine (HDo.out _).mono ?_
            rintro e w7 ⟨rfl, hb7⟩
            have h7 := Lib.hid (btrans h5.out hb7)
            have cG := (HG.out.1.below h7.out HG.out.1.lt).cell
            have cF := (HG.out.2.below h7.out HG.out.2.lt).cell
            clear hb7
            go_wp2_with fail
            refine (HNo.out _ h7.out).mono ?_
            rintro e w8 ⟨rfl, rfl⟩
            go_wp2_with fail
            go_ret
            exact ⟨rfl, btrans Hold.out h7.out⟩
          · have hdo : (decide (T.h.b < 0) || decide ((q.length : Int) ≤ T.h.b)) = false := by
              simp only [Bool.or_eq_false_iff, decide_eq_false_iff_not]; omega
            rw [hdo] at HDo
            have tT := hBi.bs.si.ti.tst (by omega) (by omega) (by have := hBi.le hd; omega) (by have := hBi.le hd; omega) Hq.out.p
            have hcall := fun (W : World) (hb : Below wo.heap.size wo W) => tstep_any (hA.a.below hb) (HB.out.below ((hA.below hb).old HID.out.1)) T.h tT
            have hBi' := Lib.hid (hBi.step Hq.out hd (by omega))
            have hi7 := hBi.le hd
            obtain ⟨T', hT'⟩ : ∃ T', T' = T.S.tstep 0 q T.h := ⟨_, rfl⟩
            rw [← hT'] at hcall hBi'
            have hcall := Lib.hid (show ∀ (W : World), Below wo.heap.size wo W → Calls Tryz.prog 30 #[ptr y.sb, .int .i64 0, (.slice aq q.length cq), .agg #[.int .i64 T.h.b, .int .i64 T.h.n, .int .i64 T.h.r.a0, .int .i64 T.h.r.a1, .int .i64 T.h.r.a2, .int .i64 T.h.r.a3, .int .i64 T.h.r.a4, .int .i64 T.h.r.a5, .int .i64 T.h.s.a0, .int .i64 T.h.s.a1, .int .i64 T.h.s.a2, .int .i64 T.h.s.a3, .int .i64 T.h.s.a4, .int .i64 T.h.s.a5, .bool T.h.l]] W fun e w' => e = .returned (.tuple #[.agg #[.int .i64 T'.h.b, .int .i64 T'.h.n, .int .i64 T'.h.r.a0, .int .i64 T'.h.r.a1, .int .i64 T'.h.r.a2, .int .i64 T'.h.r.a3, .int .i64 T'.h.r.a4, .int .i64 T'.h.r.a5, .int .i64 T'.h.s.a0, .int .i64 T'.h.s.a1, .int .i64 T'.h.s.a2, .int .i64 T'.h.s.a3, .int .i64 T'.h.s.a4, .int .i64 T'.h.s.a5, .bool T'.h.l], .agg #[.int .i64 T'.a.k, .int .i64 T'.a.e, .int .i64 T'.a.v]]) ∧ Left y T'.S o W w' from hcall)
            have HDo := Lib.hid (show ∀ W : World, Calls Tryz.prog 29 #[.slice aq q.length cq, .agg #[.int .i64 T.h.b, .int .i64 T.h.n, .int .i64 T.h.r.a0, .int .i64 T.h.r.a1, .int .i64 T.h.r.a2, .int .i64 T.h.r.a3, .int .i64 T.h.r.a4, .int .i64 T.h.r.a5, .int .i64 T.h.s.a0, .int .i64 T.h.s.a1, .int .i64 T.h.s.a2, .int .i64 T.h.s.a3, .int .i64 T.h.s.a4, .int .i64 T.h.s.a5, .bool T.h.l]] W fun e w' => e = .returned (.bool false) ∧ Below W.heap.size W w' from HDo.out)
            have HA := Lib.hid (And.intro hA (And.intro jF tF))
            have cG := hA.g.cell
            unfold ThV.cells at cG
            clear hT' tT hdo hd b0 hBi hA jF tF
            go_wp2_with fail
            refine (HDo.out _).mono ?_
            rintro e w5 ⟨rfl, hb5⟩
            have hA5 := HA.out.1.below hb5
            have jF5 := HA.out.2.1.below hb5 HA.out.2.1.lt
            have hc5 := Lib.hid (hcall.out _ hb5)
            clear cG hcall hb5
            go_upto_region 20 with fail
            refine bck20_any _ T.h T'.h T'.a.k T'.a.e T'.a.v (Left y T'.S o w5) w5 y.sb bG _ _ _ _ _ _ _ _ _ _ _ _ _ _ _ _ _ _ _ _ _ _ _ _ _ _ _ _ _ _ _ _ _ _ _ _ _ _ _ _ _ _ _ _ _ _ _ _ _ _ _ _ _ _ _ _ _ _ _ _ _ _ _ _ _ _ _ _ _ _ _ _ _ _ _ _ _ _ _ _ _ _ _ _ _ _ _ _ _ _ _ _ _ _ _ _ _ _ _ _ _ _ _ _ _ _ _ _ _ _ _ hA5.g hc5.out (fun w' hL => hA5.g.stp hL.choose_spec.2.2 (by rw [hA5.t]; exact fun h => HID.out.2 h.symm)) ?_
            rintro w6 U ⟨o6, hS6, hI6, hs6⟩ hw hUs jG
            have hA6 := (hA5.left HID.out.2 hS6 hs6).set HID.out.2 hw jG
            have jF6 := (jF5.stp hs6 (by rw [HA.out.2.2]; exact fun h => HID.out.2 h.symm)).wr hw ne
            have tF6 := (hs6.tags _ jF5.lt).trans HA.out.2.2
            have HF := Lib.hid (And.intro hA6 (And.intro jF6 tF6))
            clear hS6 hI6 hs6 hw hUs jG hc5 hA5 jF5 HA hA6 jF6 tF6 HDo
            go_wp2_with fail
            go_roundw
            case rel =>
              (repeat apply Exists.intro)
              refine ⟨⟨i + 1, T', o6, ?_, by omega, hBi'.out, HF.out.1, HF.out.2.1, HF.out.2.2⟩, rfl⟩
              simp
            case measure => simp [intOf]; omega
end Go.Proofs.YtemohiainfllcaaGreat
