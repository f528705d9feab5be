/- The law ThreadAlone: the blocks that it lays; in plain Lean, what each step comes to. -/
import Derived.Test.YtemohiainfllcaaGreatSe
import Derived.Test.YtemohiainfllcaaGreatSa
namespace Go.Proofs.YtemohiainfllcaaGreat
open Go.RowKit Hp
attribute [local go_sem ↓] Go.wp_at_zero Go.wp_at_succ
/-- A block's deeds but the aborts. -/
def noAb (l : List Pg.D) : List Pg.D := l.filter fun d => d.k != 14
theorem noAb_snoc {l : List Pg.D} {i : Nat} {d : Pg.D} (h : l[i]? = some d) : noAb (l.take (i + 1)) = noAb (l.take i) ++ (if d.k != 14 then [d] else []) := by
  unfold noAb
  rw [take_snoc' _ _ _ h, List.filter_append]
  cases hd : (d.k != 14) <;> simp [hd]
theorem noAb_len (l : List Pg.D) : (noAb l).length ≤ l.length := List.length_filter_le _ _
theorem dflat_len (l : List Pg.D) : (dflat l).length = l.length * 5 := by
  induction l with
  | nil => rfl
  | cons x l ih => show ((dcells x).toList ++ dflat l).length = _; rw [List.length_append, ih]; simp [dcells]; omega
/-- The row of deeds that grows. -/
def GA (W : World) (o : Own) (v : Value) (l : List Pg.D) (i : Nat) : Prop := ∃ n, Row W o (4, 0) 52 5 v n (dflat (noAb (l.take i))) ∧ n = (noAb (l.take i)).length
theorem alone_ok {raw : List (List (List Pg.D))} {t : List (List Pg.D)} (ht : t ∈ progs raw) : Us.Prg (vs (t.map noAb)) ∧ (∀ l ∈ t.map noAb, ∀ d ∈ l, 0 ≤ d.a ∧ 0 ≤ d.b) ∧ (∀ ds ∈ vs (t.map noAb), ds.length ≤ 6 ∧ ∀ d ∈ ds, d.k ≠ 14) ∧ (t.map noAb).length ≤ 3 := by
  have hp := prg_of ht
  have hg := progs_ge ht
  have hm := mem_progs ht
  have key : ∀ l ∈ t.map noAb, ∃ l0 ∈ t, l = noAb l0 := fun l hl => by
    obtain ⟨l0, h1, h2⟩ := List.mem_map.1 hl
    exact ⟨l0, h1, h2.symm⟩
  have sub : ∀ l0 : List Pg.D, ∀ d ∈ noAb l0, d ∈ l0 ∧ d.k ≠ 14 := fun l0 d hd => by
    unfold noAb at hd
    obtain ⟨h1, h2⟩ := List.mem_filter.1 hd
    exact ⟨h1, by simpa using h2⟩
  refine ⟨fun ds hds => ?_, fun l hl d hd => ?_, fun ds hds => ?_, by simpa using hm.1⟩
  · obtain ⟨l, hl, rfl⟩ := List.mem_map.1 hds
    obtain ⟨l0, h0, rfl⟩ := key l hl
    refine ⟨?_, fun d hd => ?_⟩
    · have := noAb_len l0
      have := (hm.2 l0 h0).2.1
      simp; omega
    · obtain ⟨p, hp', rfl⟩ := List.mem_map.1 hd
      exact (hp (l0.map toV) (List.mem_map.2 ⟨l0, h0, rfl⟩)).2 _ (List.mem_map.2 ⟨p, (sub l0 p hp').1, rfl⟩)
  · obtain ⟨l0, h0, rfl⟩ := key l hl
    exact hg l0 h0 d (sub l0 d hd).1
  · obtain ⟨l, hl, rfl⟩ := List.mem_map.1 hds
    obtain ⟨l0, h0, rfl⟩ := key l hl
    refine ⟨?_, fun d hd => ?_⟩
    · have := noAb_len l0
      have := (hm.2 l0 h0).2.1
      simp; omega
    · obtain ⟨p, hp', rfl⟩ := List.mem_map.1 hd
      exact (sub l0 p hp').2
namespace Us
/-- Where the thread is, ahead of act i of block b. -/
def At (b : Nat) (i : Int) (len : Nat) (h : ThV) : Prop :=
  (i = -1 ∧ h.b = b ∧ h.l = false) ∨ (0 ≤ i ∧ i ≤ len ∧ h.b = b ∧ h.l = true ∧ h.n = i) ∨ (i = len + 1 ∧ h.b = b + 1 ∧ h.l = false)
theorem alone_step {q : List (List DeedV)} (hp : Prg q) (h14 : ∀ ds ∈ q, ds.length ≤ 6 ∧ ∀ d ∈ ds, d.k ≠ 14) {b : Nat} {ds : List DeedV} (hb : q[b]? = some ds) {i : Int} {n : Nat} {S : Stt} {h : ThV} (t : SI n S h) (hn : n ≤ 90) (hA : At b i ds.length h) (hi : i ≤ ds.length) :
    SI (n + 1) (S.tstep 0 q h).S (S.tstep 0 q h).h ∧ At b (i + 1) ds.length (S.tstep 0 q h).h ∧ h.b = b ∧ h.l = decide (0 ≤ i) ∧ Mild (S.tstep 0 q h).a.e ∧
      ((i < 0 ∧ (S.tstep 0 q h).a.k = 1 ∧ (S.tstep 0 q h).a.e = 0) ∨ (0 ≤ i ∧ i < ds.length ∧ (S.tstep 0 q h).a.k = 2) ∨ (i = ds.length ∧ (S.tstep 0 q h).a.k = 3 ∧ (S.tstep 0 q h).a.e = 0)) := by
  have hbl := (List.getElem?_eq_some_iff.1 hb).1
  have h6 := (h14 ds (List.mem_of_getElem? hb)).1
  rcases hA with ⟨rfl, h2, h3⟩ | ⟨h1, _, h2, h3, h4⟩ | ⟨h1, _⟩
  · have e : S.tstep 0 q h = S.tbegin 0 h := tstep_bg (by omega) h3
    rw [e]
    exact ⟨t.begins h3, .inr (.inl ⟨by decide, by omega, h2, rfl, rfl⟩), h2, by rw [h3]; rfl, mild_of (.inr (.inl rfl)), .inl ⟨by decide, rfl, rfl⟩⟩
  · have hb2 : h.b.toNat = b := by omega
    have e := tstep_at (S := S) (h := h) (l := q) (ds := ds) (by rw [hb2]; exact hb) (by omega) h3
    have hd1 : decide ((0 : Int) ≤ i) = true := decide_eq_true h1
    by_cases hlt : i < ds.length
    · have hm : h.n.toNat < ds.length := by omega
      rw [List.getElem?_eq_getElem hm] at e
      simp only at e
      rw [e]
      have hd := (hp ds (List.mem_of_getElem? hb)).2 _ (List.getElem_mem hm)
      have hk := (h14 ds (List.mem_of_getElem? hb)).2 _ (List.getElem_mem hm)
      have g := t.deed h3 (by omega) (by omega) _ hd.1 hk
      exact ⟨g.si, .inr (.inl ⟨by omega, by omega, g.b.trans h2, g.l, by rw [g.n]; omega⟩), h2, by rw [h3, hd1], g.e, .inr (.inl ⟨h1, hlt, g.k⟩)⟩
    · have hm : ds[h.n.toNat]? = none := List.getElem?_eq_none (by omega)
      rw [hm] at e
      simp only at e
      rw [e]
      obtain ⟨c1, c2, c3, c4, c5⟩ := t.commits h3 (by omega)
      rw [c3]
      refine ⟨c2, .inr (.inr ⟨by omega, ?_, rfl⟩), h2, by rw [h3, hd1], by rw [c5]; exact mild_of (.inr (.inl rfl)), .inr (.inr ⟨by omega, c4, c5⟩)⟩
      show h.b + 1 = _; omega
  · omega
end Us
end Go.Proofs.YtemohiainfllcaaGreat

/- The law ThreadAlone, walked. -/
namespace Go.Proofs.YtemohiainfllcaaGreat
open Go.RowKit Hp
attribute [local go_sem ↓] Go.wp_at_zero Go.wp_at_succ
set_option maxRecDepth 100000 in
set_option maxHeartbeats 8000000 in
theorem threadAlone_any (v : Value) (raw : List (List (List Pg.D))) (w : World) (h : ThreadsAt w v raw) (hI : TI raw) :
    Calls Tryz.prog 7 #[v] w fun e w' => e = .returned (.bool true) ∧ Below w.heap.size w w' := by
  have HAw := Lib.hid awake16_any
  have HPr := Lib.hid (fun (w' : World) (hb : Below w.heap.size w w') => programs_any v raw w' (h.below hb) hI)
  have HNa := Lib.hid (fun w' => c_new 2000 1 100 100 99 (by omega) (by omega) (by omega) (by omega) (by omega) (by omega) (fun _ => (7, 0)) 0 w' (fun b _ => by simp))
  have hM : (bnd 99).toNat = 99 := by unfold bnd; rfl
  rw [hM] at HNa
  clear h hI hM
  go_enter Tryz.func7, Tryz.ntmps7
  go_wp2_with fail
  refine (HAw.out _).mono ?_
  rintro e w1 ⟨rfl, hb1⟩
  go_wp2_with fail
  refine (HPr.out _ hb1).mono ?_
  rintro e w2 ⟨v2, oP, rfl, hF, hK⟩
  have hT := hF.at
  have hb2 := btrans hb1 hK.b
  obtain ⟨a, c, rfl, hlen, hop⟩ := hT.opened
  obtain ⟨pl1, pl4⟩ := progs_len raw
  obtain ⟨t0, ht0⟩ : ∃ t, (progs raw)[0]? = some t := ⟨(progs raw)[0], List.getElem?_eq_getElem (by omega)⟩
  obtain ⟨b0, off0, u0, rfl, q0, hB0⟩ := hop 0 t0 ht0
  have hmem := List.mem_of_getElem? ht0
  have HQ := Lib.hid (alone_ok hmem)
  have HMem := Lib.hid (mem_progs hmem)
  rw [Nat.add_zero] at q0
  have HB2 := Lib.hid hb2
  have hlp : (0 : Int) < ((progs raw).length : Int) := by omega
  generalize (progs raw).length = np at *
  obtain ⟨a1, c1, rfl, hl1, hop1⟩ := hB0.opened
  have ht3 := (mem_progs hmem).1
  have HOp1 := Lib.hid hop1
  obtain ⟨iD, hi5, hs5, hy5, hz5⟩ := info_deed
  obtain ⟨iS, hi1, hs1, hy1, hz1⟩ := info_deeds
  have hu50 := Tryz.underlying50
  have hu48 := Tryz.underlying48
  clear hF hK hT hop ht0 hB0 hmem hb1 hb2 HAw HPr pl1 pl4 hlen hop1 hl1
  go_wp2_with fail
  clear q0 hlp
  go_loopw [5, 6, 7, 8] (fun qv bt _ _ wr => ∃ (b : Nat) (o : Own), bt = .int .i64 b ∧ b ≤ t0.length ∧ FB (3, 0) wr o qv ((t0.take b).map noAb) ∧ Wk w2 wr o) (fun _ bt _ _ _ => t0.length - (intOf bt).toNat)
  case atStart => exact ⟨0, fun _ => (0, 0), rfl, by omega, FB.nil _ _ _, bsame w2, fun _ _ => rfl⟩
  case round =>
    obtain ⟨b, o, rfl, hbl, hG, hK⟩ := hrel
    obtain ⟨wo, rfl⟩ : ∃ wo : World, wo = wr := ⟨_, rfl⟩
    obtain ⟨hG0, vs1, hv1, hrow1, hvs1⟩ := id hG
    have hn1 : ((t0.take b).map noAb).length = b := by simp; omega
    rw [hn1] at hrow1 hv1
    obtain ⟨pa1, cp1, rfl⟩ := hrow1.slc
    by_cases hlb : b < t0.length
    · have bL : (b : Int) < (t0.length : Int) := by omega
      obtain ⟨l, hl⟩ : ∃ l, t0[b]? = some l := ⟨t0[b], List.getElem?_eq_getElem hlb⟩
      obtain ⟨b1, off1, u1, rfl, q1, hB1⟩ := HOp1.out b l hl
      have hl6 := (HMem.out.2 l (List.mem_of_getElem? hl)).2.1
      obtain ⟨a2, c2, rfl, hl2, hop2⟩ := hB1.opened
      have HOp2 := Lib.hid hop2
      have HQ1 := Lib.hid q1
      have HL := Lib.hid hl
      have r1 := (hK.b.cell (p := ⟨b1, off1 + b, none⟩) (cell_inz q1)).trans q1
      clear hB1 hop2 q1 hl hrow1 hvs1 hv1 hl2
      go_wp2_with fail
      clear r1
      go_loopw [7, 8] (fun lo it wr => ∃ (i : Nat) (o : Own), it = .int .i64 i ∧ i ≤ l.length ∧ FB (3, 0) wr o (.slice pa1 b cp1) ((t0.take b).map noAb) ∧ GA wr o lo l i ∧ Wk w2 wr o) (fun _ it _ => l.length - (intOf it).toNat)
      case atStart => exact ⟨0, o, rfl, by omega, hG, ⟨0, Row.nil _ _ _ _ _, rfl⟩, hK⟩
      case round =>
        clear hG hK hG0
        obtain ⟨i, o, rfl, hil, hG, ⟨n, hR, hn⟩, hK⟩ := hrel
        obtain ⟨wo, rfl⟩ : ∃ wo : World, wo = wr := ⟨_, rfl⟩
        obtain ⟨pa2, cp2, rfl⟩ := Row.slc hR
        have hn6 : n ≤ 6 := by
          have := noAb_len (l.take i)
          simp at this; omega
        have r1 := (hK.b.cell (p := ⟨b1, off1 + b, none⟩) (cell_inz HQ1.out)).trans HQ1.out
        by_cases hli : i < l.length
        · have iL : (i : Int) < (l.length : Int) := by omega
          obtain ⟨d, hd⟩ : ∃ d, l[i]? = some d := ⟨l[i], List.getElem?_eq_getElem hli⟩
          obtain ⟨b3, off3, rfl, hc5⟩ := HOp2.out i d hd
          obtain ⟨p0, p1, p2, p3, p4⟩ := hc5.below hK.b
          have hSn := noAb_snoc hd
          have HFin := Lib.hid hSn
          have Hn := Lib.hid hn
          have HG := Lib.hid hG
          have HK := Lib.hid hK
          clear hd hc5 hSn hn hG hK
          by_cases h14 : d.k = 14
          · rw [h14] at p0
            have e14 : noAb (l.take (i + 1)) = noAb (l.take i) := by rw [HFin.out, h14]; simp
            have hGA : GA wo o (.slice pa2 n cp2) l (i + 1) := ⟨n, by rw [e14]; exact hR, by rw [e14]; exact Hn.out⟩
            have HGA := Lib.hid hGA
            clear h14 hR hGA e14
            go_wp2_with fail
            go_roundw
            case rel => exact ⟨i + 1, o, by simp, by omega, HG.out, HGA.out, HK.out⟩
            case measure => simp [intOf]; omega
          · have n14 : (d.k != 14) = true := by rw [bne_iff_ne]; exact h14
            have e14 : noAb (l.take (i + 1)) = noAb (l.take i) ++ [d] := by rw [HFin.out, if_pos n14]
            have E14 := Lib.hid e14
            have rn := hR.below (balloc (bsame wo) (.cells #[.int .i64 d.k, .int .i64 d.a, .int .i64 d.b, .int .i64 d.i, .int .i64 d.n] 52))
            have jn := Blk.new wo #[.int .i64 d.k, .int .i64 d.a, .int .i64 d.b, .int .i64 d.i, .int .i64 d.n] 52
            have hml : n + 1 ≤ maxLen := by simp only [maxLen]; omega
            have hmb : (n + 1) * 40 ≤ 140737488355328 := by omega
            clear e14 h14 hR
            go_wp2_with (first
              | (at_builtin; refine wpList_append_row _ rfl _ _ _ rfl 52 iD _ 5 40 hu50 hi5 hz5 hs5 hy5 rfl (by decide) o (4, 0) _ _ _ rfl rn ⟨wo.heap.size, 0, none⟩ 1 1 [.int .i64 d.k, .int .i64 d.a, .int .i64 d.b, .int .i64 d.i, .int .i64 d.n] rfl rfl (news_blk jn) dcells_one hml hmb ?_; intro v' w4 hown hst; obtain ⟨pa', cp', rfl⟩ := hown.slc)
              | fail)
            have k4 := (Stp.of_below (T := fun t => t = (4, 0)) (o := o) (balloc (bsame wo) (.cells #[.int .i64 d.k, .int .i64 d.a, .int .i64 d.b, .int .i64 d.i, .int .i64 d.n] 52))).trans hst
            have g4 : GA w4 _ (.slice pa' (n + 1) cp') l (i + 1) := ⟨n + 1, by rw [E14.out, dflat_snoc]; exact hown, by rw [E14.out, List.length_append, ← Hn.out]; rfl⟩
            go_roundw
            case rel => exact ⟨i + 1, _, by simp, by omega, HG.out.stp k4 (by simp) (by simp), g4, HK.out.stp k4 (by simp)⟩
            case measure => simp [intOf]; omega
        · -- a block is done
          have hle : i = l.length := by omega
          have etk : l.take i = l := by rw [hle]; exact List.take_of_length_le (Nat.le_refl _)
          rw [etk] at hR hn
          have hfd : FD wo (chg o (4, 0) (1, 0)) (.slice pa2 n cp2) (noAb l) := by
            refine ⟨by rw [← hn]; exact hn6, ?_⟩
            rw [← hn]
            exact hR.chg _ _ (fun k hk => chg_at hk)
          have hG2 := hG.chg (o' := chg o (4, 0) (1, 0)) (fun k hk => by rw [chg_ne (by rw [hk]; simp)]; exact hk) (3, 0) (fun k hk => by rw [chg_ne (by rw [hk]; simp)]; exact hk)
          have hK2 := Lib.hid (hK.chg (a := (4, 0)) (b := (1, 0)) (by simp))
          generalize chg o (4, 0) (1, 0) = o2 at *
          obtain ⟨hG0, vs1, hv1, hrow1, hvs1⟩ := id hG2
          rw [hn1] at hrow1 hv1
          have hE : (t0.take (b + 1)).map noAb = (t0.take b).map noAb ++ [noAb l] := by
            rw [take_snoc' _ _ _ HL.out, List.map_append]; rfl
          have rn := hrow1.below (balloc (bsame wo) (.cells #[.slice pa2 n cp2] 50))
          have jn := Blk.new wo #[.slice pa2 n cp2] 50
          have hml : b + 1 ≤ maxLen := by simp only [maxLen]; omega
          have hmb : (b + 1) * 24 ≤ 140737488355328 := by omega
          have HFin := Lib.hid (fun (w4 : World) (o4 : Own) (v4 : Value) (hown : Row w4 o4 (3, 0) 50 1 v4 (b + 1) (vs1 ++ [.slice pa2 n cp2])) (hst : Stp (fun t => t = (3, 0)) o2 o4 (wo.alloc (.cells #[.slice pa2 n cp2] 50)) w4) =>
            show FB (3, 0) w4 o4 v4 ((t0.take (b + 1)).map noAb) ∧ Wk w2 w4 o4 from by
              have k4 := (Stp.of_below (T := fun t => t = (3, 0)) (o := o2) (balloc (bsame wo) (.cells #[.slice pa2 n cp2] 50))).trans hst
              refine ⟨?_, hK2.out.stp k4 (by simp)⟩
              rw [hE]
              exact FB.snoc (by rw [hn1]; omega) k4 (by simp) (by rw [hn1]; exact hv1) hfd hvs1 (by rw [hn1]; exact hown))
          have iL : ¬ ((i : Int) < (l.length : Int)) := by omega
          have HLE := Lib.hid hle
          clear hG hK hR hn hle etk hfd hG2 hG0 hv1 hrow1 hvs1 hE hli
          go_wp2_with (first
            | (at_builtin; refine wpList_append_row _ rfl _ _ _ rfl 50 iS _ 1 24 hu48 hi1 hz1 hs1 hy1 rfl (by decide) o2 (3, 0) _ _ _ rfl rn ⟨wo.heap.size, 0, none⟩ 1 1 [.slice pa2 n cp2] rfl rfl (news_one jn) one_slice hml hmb ?_; intro v' w4 hown hst; obtain ⟨pa', cp', rfl⟩ := hown.slc)
            | fail)
          obtain ⟨f1, f2⟩ := HFin.out _ _ _ hown hst
          go_roundw
          case rel => exact ⟨b + 1, _, by simp, by omega, f1, f2⟩
          case measure => simp [intOf]; omega
    · -- all blocks are laid
      have hle : b = t0.length := by omega
      have etk : t0.take b = t0 := by rw [hle]; exact List.take_of_length_le (Nat.le_refl _)
      rw [etk] at hG hn1
      have hbl3 := HQ.out.2.2.2
      have hBa := hG.at
      have hBk := blks_of hBa HQ.out.2.1
      obtain ⟨aq, cq, hveq, _, hopq⟩ := hBa.opened
      have hbq : b = (vs (t0.map noAb)).length := by simp [vs]; omega
      have hget : ∀ (t : Nat) ds, (vs (t0.map noAb))[t]? = some ds → ∃ bq off a3 c3, pa1 = some ⟨bq, off, none⟩ ∧ wo.cell? ⟨bq, off + t, none⟩ = some (.slice a3 ds.length c3) := fun t ds ht => by
        unfold vs at ht
        rw [List.getElem?_map] at ht
        obtain ⟨l, hl, rfl⟩ := Option.map_eq_some_iff.1 ht
        obtain ⟨bq, off, u, e1, e2, e3⟩ := hopq t l hl
        obtain ⟨a3, c3, rfl, _⟩ := e3.opened
        injection hveq with e4
        exact ⟨bq, off, a3, c3, by rw [e4]; exact e1, by rw [e2, List.length_map]⟩
      have hP := HQ.out.1
      have h14 := HQ.out.2.2.1
      have hq3 : (vs (t0.map noAb)).length ≤ 3 := by rw [← hbq]; omega
      have nb : ¬ ((b : Int) < (t0.length : Int)) := by omega
      have hbw := Lib.hid (btrans HB2.out hK.b)
      generalize vs (t0.map noAb) = q at *
      clear hG hK hG0 hrow1 hvs1 hv1 hn1 hle etk hbl3 hBa hveq hopq hlb hbl
      subst hbq
      have HB := Lib.hid hBk
      have HGet := Lib.hid hget
      have HP := Lib.hid (And.intro hP h14)
      have H3 := Lib.hid hq3
      have h6 := heq6
      clear hBk hget hP h14 hq3
      go_wp2_with fail
      clear nb
      refine (HNa.out _).mono ?_
      rintro e w3 ⟨y, rfl, hid, o3, hS, hI, hs⟩
      clear HNa
      have na7 : y.l.id ≠ 7 := by omega
      have na9 : y.l.id ≠ 9 := by omega
      have hs0 := Us.si_fresh hI
      generalize Stt.fresh 2000 1 100 100 99 = S0 at *
      obtain ⟨V0, hV0⟩ : ∃ V, V = w3.alloc (.cells #[.int .i64 0, .int .i64 0, .int .i64 0, .int .i64 0, .int .i64 0, .int .i64 0, .int .i64 0, .int .i64 0, .int .i64 0, .int .i64 0, .int .i64 0, .int .i64 0, .int .i64 0, .int .i64 0, .bool false] 57) := ⟨_, rfl⟩
      have hA0 : AIn V0 (ext o3 w3.heap.size (9, 1)) y S0 w3.heap.size Th0 wo := by
        rw [hV0]
        exact ⟨(hS.retag fun _ hb => ext_lt hb).below (balloc (bsame _) _), Blk.new _ _ _, ext_ge (Nat.le_refl _), ((hs.mono fun _ h => .inl h).ext (9, 1) _ hs.size).alloc _⟩
      generalize ext o3 w3.heap.size (9, 1) = o5 at hA0
      have HID := Lib.hid (And.intro na7 na9)
      have Hs0 := Lib.hid hs0
      clear hS hs hid na7 na9 hs0 hI
      go_wp2_with fail
      rw [← hV0]
      obtain ⟨bG, hbG⟩ : ∃ b, b = w3.heap.size := ⟨_, rfl⟩
      rw [← hbG] at hA0 ⊢
      clear hV0 hbG
      go_loopw [12] (fun bt wr => ∃ (b n : Nat) (T : TR) (o : Own), bt = .int .i64 b ∧ b ≤ q.length ∧ n ≤ 8 * b ∧ Us.SI n T.S T.h ∧ T.h.b = b ∧ T.h.l = false ∧ AIn wr o y T.S bG T.h wo) (fun bt _ => q.length - (intOf bt).toNat)
      case atStart => exact ⟨0, 0, ⟨S0, Th0, ⟨0, 0, 0⟩⟩, o5, rfl, by omega, by omega, Hs0.out, rfl, rfl, hA0⟩
      case round =>
        clear hA0 Hs0
        obtain ⟨b, n, T0, o, rfl, hbq, hn8, hSI, hTb, hTl, hA⟩ := hrel
        by_cases hlb : b < q.length
        · have bL : (b : Int) < (q.length : Int) := by omega
          obtain ⟨ds, hds⟩ : ∃ ds, q[b]? = some ds := ⟨q[b], List.getElem?_eq_getElem hlb⟩
          obtain ⟨bq, oq, a3, c3, rfl, hcq⟩ := HGet.out b ds hds
          have hcW := Lib.hid (fun (W : World) (hW : Below wo.heap.size wo W) => (hW.cell (p := ⟨bq, oq + b, none⟩) (cell_inz hcq)).trans hcq)
          have hd6 := (HP.out.2 ds (List.mem_of_getElem? hds)).1
          have HDs := Lib.hid hds
          have hq3 := H3.out
          clear hcq hds hlb
          go_wp2_with fail
          go_loopw [13] (fun it wr => ∃ (i : Int) (n' : Nat) (T : TR) (o : Own), it = .int .i64 i ∧ -1 ≤ i ∧ i ≤ ds.length + 1 ∧ (n' : Int) = n + (i + 1) ∧ Us.SI n' T.S T.h ∧ Us.At b i ds.length T.h ∧ AIn wr o y T.S bG T.h wo) (fun it _ => (ds.length + 2 - intOf it).toNat)
          case atStart => exact ⟨-1, n, T0, o, rfl, by omega, by omega, by omega, hSI, .inl ⟨rfl, hTb, hTl⟩, hA⟩
          case round =>
            clear hA hSI hTb hTl
            obtain ⟨i, n', T, o, rfl, hi1, hi2, hn', hSI, hAt, hA⟩ := hrel
            obtain ⟨wi, rfl⟩ : ∃ wi : World, wi = wr := ⟨_, rfl⟩
            have r1 := hcW.out _ (hA.old HID.out.1)
            by_cases hle : i ≤ ds.length
            · obtain ⟨TS, ⟨hb, hn, hr, hs, hl⟩, Ta⟩ := T
              simp only at hSI hAt hA
              obtain ⟨g1, g2, g3, g4, g5, g6⟩ := Us.alone_step HP.out.1 HP.out.2 HDs.out hSI (by omega) hAt hle
              have tT := hSI.ti.tst (by omega) (by omega) (by omega) (by omega) HP.out.1
              have hcall := fun (W : World) (hb : Below wi.heap.size wi W) => tstep_any (hA.a.below hb) (HB.out.below ((hA.below hb).old HID.out.1)) _ tT
              have HDo := Lib.hid (fun (W : World) => tdone_any ⟨hb, hn, hr, hs, hl⟩ (some ⟨bq, oq, none⟩) q.length cp1 W)
              simp only at g3 g4
              obtain ⟨⟨TS', TH', ⟨ak, ae, av⟩⟩, hT'⟩ : ∃ T', T' = TS.tstep 0 q ⟨hb, hn, hr, hs, hl⟩ := ⟨_, rfl⟩
              rw [← hT'] at hcall g1 g2 g5 g6
              simp only at g1 g2 g5 g6
              subst g3 g4
              have hdo : (decide (((b : Int)) < 0) || decide ((q.length : Int) ≤ (b : Int))) = false := by
                simp only [Bool.or_eq_false_iff, decide_eq_false_iff_not]; omega
              rw [show (decide ((⟨b, hn, hr, hs, decide (0 ≤ i)⟩ : ThV).b < 0) || decide ((q.length : Int) ≤ (⟨b, hn, hr, hs, decide (0 ≤ i)⟩ : ThV).b)) = false from hdo] at HDo
              have HG := Lib.hid (And.intro g1 g2)
              have lI : i ≤ (ds.length : Int) := hle
              clear hT' tT hdo hAt hSI g1 g2
              rcases g6 with ⟨k1, rfl, rfl⟩ | ⟨k1, k2, rfl⟩ | ⟨rfl, rfl, rfl⟩
              · obtain rfl : i = -1 := by omega
                have ne1 : ((-1 : Int) == (ds.length : Int)) = false := by rw [beq_eq_false_iff_ne]; omega
                clear g5 k1 hle
                have hcall := Lib.hid (show ∀ (W : World), Below wi.heap.size wi W → Calls Tryz.prog 30 #[ptr y.sb, .int .i64 0, (.slice (some ⟨bq, oq, none⟩) q.length cp1), .agg #[.int .i64 b, .int .i64 hn, .int .i64 hr.a0, .int .i64 hr.a1, .int .i64 hr.a2, .int .i64 hr.a3, .int .i64 hr.a4, .int .i64 hr.a5, .int .i64 hs.a0, .int .i64 hs.a1, .int .i64 hs.a2, .int .i64 hs.a3, .int .i64 hs.a4, .int .i64 hs.a5, .bool false]] W fun e w' => e = .returned (.tuple #[.agg #[.int .i64 TH'.b, .int .i64 TH'.n, .int .i64 TH'.r.a0, .int .i64 TH'.r.a1, .int .i64 TH'.r.a2, .int .i64 TH'.r.a3, .int .i64 TH'.r.a4, .int .i64 TH'.r.a5, .int .i64 TH'.s.a0, .int .i64 TH'.s.a1, .int .i64 TH'.s.a2, .int .i64 TH'.s.a3, .int .i64 TH'.s.a4, .int .i64 TH'.s.a5, .bool TH'.l], .agg #[.int .i64 1, .int .i64 0, .int .i64 av]]) ∧ Left y TS' o W w' from hcall)
                have HDo := Lib.hid (show ∀ W : World, Calls Tryz.prog 29 #[.slice (some ⟨bq, oq, none⟩) q.length cp1, .agg #[.int .i64 b, .int .i64 hn, .int .i64 hr.a0, .int .i64 hr.a1, .int .i64 hr.a2, .int .i64 hr.a3, .int .i64 hr.a4, .int .i64 hr.a5, .int .i64 hs.a0, .int .i64 hs.a1, .int .i64 hs.a2, .int .i64 hs.a3, .int .i64 hs.a4, .int .i64 hs.a5, .bool false]] W fun e w' => e = .returned (.bool false) ∧ Below W.heap.size W w' from HDo.out)
                have cG : ∀ j, wi.cell? ⟨bG, j, none⟩ = (#[.int .i64 b, .int .i64 hn, .int .i64 hr.a0, .int .i64 hr.a1, .int .i64 hr.a2, .int .i64 hr.a3, .int .i64 hr.a4, .int .i64 hr.a5, .int .i64 hs.a0, .int .i64 hs.a1, .int .i64 hs.a2, .int .i64 hs.a3, .int .i64 hs.a4, .int .i64 hs.a5, .bool false] : Array Value)[j]? := hA.g.cell
                have HA := Lib.hid hA
                clear hA
                go_wp2_with fail
                refine (HDo.out _).mono ?_
                rintro e w5 ⟨rfl, hb5⟩
                have hA5 := HA.out.below hb5
                have hc5 := Lib.hid (hcall.out _ hb5)
                have cG : ∀ j, w5.cell? ⟨bG, j, none⟩ = (#[.int .i64 b, .int .i64 hn, .int .i64 hr.a0, .int .i64 hr.a1, .int .i64 hr.a2, .int .i64 hr.a3, .int .i64 hr.a4, .int .i64 hr.a5, .int .i64 hs.a0, .int .i64 hs.a1, .int .i64 hs.a2, .int .i64 hs.a3, .int .i64 hs.a4, .int .i64 hs.a5, .bool false] : Array Value)[j]? := hA5.g.cell
                have r5 := hcW.out _ (hA5.old HID.out.1)
                clear hcall hb5 r1 HDo
                go_upto_region 26 with fail
                clear cG r5
                refine aln26_any _ ⟨b, hn, hr, hs, false⟩ TH' 1 0 av (Left y TS' o w5) w5 y.sb bG _ _ _ _ _ _ _ _ _ _ _ _ _ _ _ _ _ _ _ _ _ _ _ _ _ _ _ _ _ _ _ _ _ _ _ _ _ _ _ _ _ _ _ _ _ _ _ _ _ _ _ _ _ _ _ _ _ _ _ _ _ _ _ _ _ _ _ _ _ _ _ _ _ _ _ _ _ _ _ _ _ _ _ _ _ _ _ _ _ _ _ _ _ _ _ _ _ _ _ _ _ _ _ _ _ _ _ _ _ _ _ _ _ _ _ _ _ _ _ _ _ _ _ _ _ _ _ _ _ _ _ _ _ _ _ _ _ _ _ _ _ _ _ _ _ _ _ _ _ _ _ _ _ _ _ _ _ _ _ _ _ _ _ _ _ _ _ _ _ _ _ _ _ _ _ _ _ _ _ _ _ _ _ hA5.g hc5.out ?_
                rintro w6 ⟨o6, hS6, hI6, hs6⟩
                have hA6 := (hA5.left HID.out.2 hS6 hs6).ext (9, 3)
                generalize Go.Proofs.YtemohiainfllcaaGreat.ext o6 w6.heap.size (9, 3) = p at hA6
                obtain ⟨V1, hV1⟩ : ∃ V, V = (w6.alloc (.cells #[.int .i64 TH'.b, .int .i64 TH'.n, .int .i64 TH'.r.a0, .int .i64 TH'.r.a1, .int .i64 TH'.r.a2, .int .i64 TH'.r.a3, .int .i64 TH'.r.a4, .int .i64 TH'.r.a5, .int .i64 TH'.s.a0, .int .i64 TH'.s.a1, .int .i64 TH'.s.a2, .int .i64 TH'.s.a3, .int .i64 TH'.s.a4, .int .i64 TH'.s.a5, .bool TH'.l] 57)).alloc (.cells #[.int .i64 1, .int .i64 0, .int .i64 av] 60) := ⟨_, rfl⟩
                have bV1 : Below w6.heap.size w6 V1 := by rw [hV1]; exact balloc (balloc (bsame _) _) _
                have jX : Blk V1 w6.heap.size #[.int .i64 TH'.b, .int .i64 TH'.n, .int .i64 TH'.r.a0, .int .i64 TH'.r.a1, .int .i64 TH'.r.a2, .int .i64 TH'.r.a3, .int .i64 TH'.r.a4, .int .i64 TH'.r.a5, .int .i64 TH'.s.a0, .int .i64 TH'.s.a1, .int .i64 TH'.s.a2, .int .i64 TH'.s.a3, .int .i64 TH'.s.a4, .int .i64 TH'.s.a5, .bool TH'.l] 57 := by rw [hV1]; exact (Blk.new _ _ _).alloc _
                have jC : Blk V1 (w6.heap.size + 1) #[.int .i64 1, .int .i64 0, .int .i64 av] 60 := by rw [hV1]; exact Blk.new_at _ _ _ _ _ (by simp) rfl
                have hA7 := hA6.below bV1
                rw [← hV1]
                obtain ⟨bC, hbC⟩ : ∃ b, b = w6.heap.size + 1 := ⟨_, rfl⟩
                rw [← hbC] at jC ⊢
                have cC := jC.cell
                have r7 := hcW.out _ (hA7.old HID.out.1)
                have HA7 := Lib.hid (And.intro hA7 jX)
                clear hS6 hI6 hs6 hA6 bV1 hV1 hbC hc5 hA5 HA jC hA7 jX
                go_upto_region 35 with fail
                refine aln35_any _ ⟨b, hn, hr, hs, false⟩ TH' V1 w6.heap.size bG _ _ _ _ _ _ _ _ _ _ _ _ _ _ _ _ _ _ _ _ _ _ _ _ _ _ _ _ _ _ _ _ _ _ _ _ _ _ _ _ _ _ _ _ _ _ _ _ _ _ _ _ _ _ _ _ _ _ _ _ _ _ _ _ _ _ _ _ _ _ _ _ _ _ _ _ _ _ _ _ _ _ _ _ _ _ _ _ _ _ _ _ _ _ _ _ _ _ _ _ _ _ _ _ _ _ _ _ _ _ _ _ _ _ _ _ _ _ _ _ _ _ _ _ _ _ _ _ _ _ _ _ _ _ _ _ _ _ _ _ _ _ _ _ _ _ _ _ _ _ _ _ _ _ _ _ _ _ _ _ _ _ _ _ _ _ _ _ _ _ _ _ _ _ _ _ _ _ _ _ _ _ _ HA7.out.2 HA7.out.1.g ?_
                intro U hw hUs jG
                have hA8 := HA7.out.1.set HID.out.2 hw jG
                have HF := Lib.hid (And.intro HG.out.1 (And.intro HG.out.2 hA8))
                clear hw hUs jG hA8 HA7 cC r7
                go_wp2_with fail
                go_roundw
                case rel =>
                  (repeat apply Exists.intro)
                  refine ⟨⟨(-1) + 1, n' + 1, ⟨TS', TH', ⟨1, 0, av⟩⟩, p, ?_, by omega, by omega, by omega, HF.out.1, HF.out.2.1, HF.out.2.2⟩, rfl⟩
                  first | rfl | simp
                case measure => simp [intOf]; omega
              · have hd1 : decide (0 ≤ i) = true := decide_eq_true k1
                rw [hd1] at hcall HDo hA
                have ne1 : (i == (ds.length : Int)) = false := by rw [beq_eq_false_iff_ne]; omega
                have ni : ¬ (i < 0) := by omega
                obtain ⟨x1, x2, x3, x4, x5, x6⟩ := g5
                have y1 : (ae == 141) = false := by rw [beq_eq_false_iff_ne]; exact x1
                have y2 : (ae == 100) = false := by rw [beq_eq_false_iff_ne]; exact x2
                have y3 : (ae == 130) = false := by rw [beq_eq_false_iff_ne]; exact x3
                have y4 : (ae == 140) = false := by rw [beq_eq_false_iff_ne]; exact x4
                have y5 : (ae == 70) = false := by rw [beq_eq_false_iff_ne]; exact x5
                have y6 : (ae == 120) = false := by rw [beq_eq_false_iff_ne]; exact x6
                have k1' : (0 : Int) ≤ i := k1
                clear x1 x2 x3 x4 x5 x6 hd1 hle
                have hcall := Lib.hid (show ∀ (W : World), Below wi.heap.size wi W → Calls Tryz.prog 30 #[ptr y.sb, .int .i64 0, (.slice (some ⟨bq, oq, none⟩) q.length cp1), .agg #[.int .i64 b, .int .i64 hn, .int .i64 hr.a0, .int .i64 hr.a1, .int .i64 hr.a2, .int .i64 hr.a3, .int .i64 hr.a4, .int .i64 hr.a5, .int .i64 hs.a0, .int .i64 hs.a1, .int .i64 hs.a2, .int .i64 hs.a3, .int .i64 hs.a4, .int .i64 hs.a5, .bool true]] W fun e w' => e = .returned (.tuple #[.agg #[.int .i64 TH'.b, .int .i64 TH'.n, .int .i64 TH'.r.a0, .int .i64 TH'.r.a1, .int .i64 TH'.r.a2, .int .i64 TH'.r.a3, .int .i64 TH'.r.a4, .int .i64 TH'.r.a5, .int .i64 TH'.s.a0, .int .i64 TH'.s.a1, .int .i64 TH'.s.a2, .int .i64 TH'.s.a3, .int .i64 TH'.s.a4, .int .i64 TH'.s.a5, .bool TH'.l], .agg #[.int .i64 2, .int .i64 ae, .int .i64 av]]) ∧ Left y TS' o W w' from hcall)
                have HDo := Lib.hid (show ∀ W : World, Calls Tryz.prog 29 #[.slice (some ⟨bq, oq, none⟩) q.length cp1, .agg #[.int .i64 b, .int .i64 hn, .int .i64 hr.a0, .int .i64 hr.a1, .int .i64 hr.a2, .int .i64 hr.a3, .int .i64 hr.a4, .int .i64 hr.a5, .int .i64 hs.a0, .int .i64 hs.a1, .int .i64 hs.a2, .int .i64 hs.a3, .int .i64 hs.a4, .int .i64 hs.a5, .bool true]] W fun e w' => e = .returned (.bool false) ∧ Below W.heap.size W w' from HDo.out)
                have cG : ∀ j, wi.cell? ⟨bG, j, none⟩ = (#[.int .i64 b, .int .i64 hn, .int .i64 hr.a0, .int .i64 hr.a1, .int .i64 hr.a2, .int .i64 hr.a3, .int .i64 hr.a4, .int .i64 hr.a5, .int .i64 hs.a0, .int .i64 hs.a1, .int .i64 hs.a2, .int .i64 hs.a3, .int .i64 hs.a4, .int .i64 hs.a5, .bool true] : Array Value)[j]? := hA.g.cell
                have HA := Lib.hid hA
                clear hA
                go_wp2_with fail
                refine (HDo.out _).mono ?_
                rintro e w5 ⟨rfl, hb5⟩
                have hA5 := HA.out.below hb5
                have hc5 := Lib.hid (hcall.out _ hb5)
                have cG : ∀ j, w5.cell? ⟨bG, j, none⟩ = (#[.int .i64 b, .int .i64 hn, .int .i64 hr.a0, .int .i64 hr.a1, .int .i64 hr.a2, .int .i64 hr.a3, .int .i64 hr.a4, .int .i64 hr.a5, .int .i64 hs.a0, .int .i64 hs.a1, .int .i64 hs.a2, .int .i64 hs.a3, .int .i64 hs.a4, .int .i64 hs.a5, .bool true] : Array Value)[j]? := hA5.g.cell
                have r5 := hcW.out _ (hA5.old HID.out.1)
                clear hcall hb5 r1 HDo
                go_upto_region 26 with fail
                clear cG r5
                refine aln26_any _ ⟨b, hn, hr, hs, true⟩ TH' 2 ae av (Left y TS' o w5) w5 y.sb bG _ _ _ _ _ _ _ _ _ _ _ _ _ _ _ _ _ _ _ _ _ _ _ _ _ _ _ _ _ _ _ _ _ _ _ _ _ _ _ _ _ _ _ _ _ _ _ _ _ _ _ _ _ _ _ _ _ _ _ _ _ _ _ _ _ _ _ _ _ _ _ _ _ _ _ _ _ _ _ _ _ _ _ _ _ _ _ _ _ _ _ _ _ _ _ _ _ _ _ _ _ _ _ _ _ _ _ _ _ _ _ _ _ _ _ _ _ _ _ _ _ _ _ _ _ _ _ _ _ _ _ _ _ _ _ _ _ _ _ _ _ _ _ _ _ _ _ _ _ _ _ _ _ _ _ _ _ _ _ _ _ _ _ _ _ _ _ _ _ _ _ _ _ _ _ _ _ _ _ _ _ _ _ hA5.g hc5.out ?_
                rintro w6 ⟨o6, hS6, hI6, hs6⟩
                have hA6 := (hA5.left HID.out.2 hS6 hs6).ext (9, 3)
                generalize Go.Proofs.YtemohiainfllcaaGreat.ext o6 w6.heap.size (9, 3) = p at hA6
                obtain ⟨V1, hV1⟩ : ∃ V, V = (w6.alloc (.cells #[.int .i64 TH'.b, .int .i64 TH'.n, .int .i64 TH'.r.a0, .int .i64 TH'.r.a1, .int .i64 TH'.r.a2, .int .i64 TH'.r.a3, .int .i64 TH'.r.a4, .int .i64 TH'.r.a5, .int .i64 TH'.s.a0, .int .i64 TH'.s.a1, .int .i64 TH'.s.a2, .int .i64 TH'.s.a3, .int .i64 TH'.s.a4, .int .i64 TH'.s.a5, .bool TH'.l] 57)).alloc (.cells #[.int .i64 2, .int .i64 ae, .int .i64 av] 60) := ⟨_, rfl⟩
                have bV1 : Below w6.heap.size w6 V1 := by rw [hV1]; exact balloc (balloc (bsame _) _) _
                have jX : Blk V1 w6.heap.size #[.int .i64 TH'.b, .int .i64 TH'.n, .int .i64 TH'.r.a0, .int .i64 TH'.r.a1, .int .i64 TH'.r.a2, .int .i64 TH'.r.a3, .int .i64 TH'.r.a4, .int .i64 TH'.r.a5, .int .i64 TH'.s.a0, .int .i64 TH'.s.a1, .int .i64 TH'.s.a2, .int .i64 TH'.s.a3, .int .i64 TH'.s.a4, .int .i64 TH'.s.a5, .bool TH'.l] 57 := by rw [hV1]; exact (Blk.new _ _ _).alloc _
                have jC : Blk V1 (w6.heap.size + 1) #[.int .i64 2, .int .i64 ae, .int .i64 av] 60 := by rw [hV1]; exact Blk.new_at _ _ _ _ _ (by simp) rfl
                have hA7 := hA6.below bV1
                rw [← hV1]
                obtain ⟨bC, hbC⟩ : ∃ b, b = w6.heap.size + 1 := ⟨_, rfl⟩
                rw [← hbC] at jC ⊢
                have cC := jC.cell
                have r7 := hcW.out _ (hA7.old HID.out.1)
                have HA7 := Lib.hid (And.intro hA7 jX)
                clear hS6 hI6 hs6 hA6 bV1 hV1 hbC hc5 hA5 HA jC hA7 jX
                go_upto_region 35 with fail
                refine aln35_any _ ⟨b, hn, hr, hs, true⟩ TH' V1 w6.heap.size bG _ _ _ _ _ _ _ _ _ _ _ _ _ _ _ _ _ _ _ _ _ _ _ _ _ _ _ _ _ _ _ _ _ _ _ _ _ _ _ _ _ _ _ _ _ _ _ _ _ _ _ _ _ _ _ _ _ _ _ _ _ _ _ _ _ _ _ _ _ _ _ _ _ _ _ _ _ _ _ _ _ _ _ _ _ _ _ _ _ _ _ _ _ _ _ _ _ _ _ _ _ _ _ _ _ _ _ _ _ _ _ _ _ _ _ _ _ _ _ _ _ _ _ _ _ _ _ _ _ _ _ _ _ _ _ _ _ _ _ _ _ _ _ _ _ _ _ _ _ _ _ _ _ _ _ _ _ _ _ _ _ _ _ _ _ _ _ _ _ _ _ _ _ _ _ _ _ _ _ _ _ _ _ HA7.out.2 HA7.out.1.g ?_
                intro U hw hUs jG
                have hA8 := HA7.out.1.set HID.out.2 hw jG
                have HF := Lib.hid (And.intro HG.out.1 (And.intro HG.out.2 hA8))
                clear hw hUs jG hA8 HA7 cC r7
                go_wp2_with fail
                go_roundw
                case rel =>
                  (repeat apply Exists.intro)
                  refine ⟨⟨i + 1, n' + 1, ⟨TS', TH', ⟨2, ae, av⟩⟩, p, ?_, by omega, by omega, by omega, HF.out.1, HF.out.2.1, HF.out.2.2⟩, rfl⟩
                  first | rfl | simp
                case measure => simp [intOf]; omega
              · have hd1 : decide ((0 : Int) ≤ (ds.length : Int)) = true := decide_eq_true (by omega)
                rw [hd1] at hcall HDo hA
                have ni : ¬ ((ds.length : Int) < 0) := by omega
                have k1' : (0 : Int) ≤ (ds.length : Int) := by omega
                clear hd1 hle g5
                have hcall := Lib.hid (show ∀ (W : World), Below wi.heap.size wi W → Calls Tryz.prog 30 #[ptr y.sb, .int .i64 0, (.slice (some ⟨bq, oq, none⟩) q.length cp1), .agg #[.int .i64 b, .int .i64 hn, .int .i64 hr.a0, .int .i64 hr.a1, .int .i64 hr.a2, .int .i64 hr.a3, .int .i64 hr.a4, .int .i64 hr.a5, .int .i64 hs.a0, .int .i64 hs.a1, .int .i64 hs.a2, .int .i64 hs.a3, .int .i64 hs.a4, .int .i64 hs.a5, .bool true]] W fun e w' => e = .returned (.tuple #[.agg #[.int .i64 TH'.b, .int .i64 TH'.n, .int .i64 TH'.r.a0, .int .i64 TH'.r.a1, .int .i64 TH'.r.a2, .int .i64 TH'.r.a3, .int .i64 TH'.r.a4, .int .i64 TH'.r.a5, .int .i64 TH'.s.a0, .int .i64 TH'.s.a1, .int .i64 TH'.s.a2, .int .i64 TH'.s.a3, .int .i64 TH'.s.a4, .int .i64 TH'.s.a5, .bool TH'.l], .agg #[.int .i64 3, .int .i64 0, .int .i64 av]]) ∧ Left y TS' o W w' from hcall)
                have HDo := Lib.hid (show ∀ W : World, Calls Tryz.prog 29 #[.slice (some ⟨bq, oq, none⟩) q.length cp1, .agg #[.int .i64 b, .int .i64 hn, .int .i64 hr.a0, .int .i64 hr.a1, .int .i64 hr.a2, .int .i64 hr.a3, .int .i64 hr.a4, .int .i64 hr.a5, .int .i64 hs.a0, .int .i64 hs.a1, .int .i64 hs.a2, .int .i64 hs.a3, .int .i64 hs.a4, .int .i64 hs.a5, .bool true]] W fun e w' => e = .returned (.bool false) ∧ Below W.heap.size W w' from HDo.out)
                have cG : ∀ j, wi.cell? ⟨bG, j, none⟩ = (#[.int .i64 b, .int .i64 hn, .int .i64 hr.a0, .int .i64 hr.a1, .int .i64 hr.a2, .int .i64 hr.a3, .int .i64 hr.a4, .int .i64 hr.a5, .int .i64 hs.a0, .int .i64 hs.a1, .int .i64 hs.a2, .int .i64 hs.a3, .int .i64 hs.a4, .int .i64 hs.a5, .bool true] : Array Value)[j]? := hA.g.cell
                have HA := Lib.hid hA
                clear hA
                go_wp2_with fail
                refine (HDo.out _).mono ?_
                rintro e w5 ⟨rfl, hb5⟩
                have hA5 := HA.out.below hb5
                have hc5 := Lib.hid (hcall.out _ hb5)
                have cG : ∀ j, w5.cell? ⟨bG, j, none⟩ = (#[.int .i64 b, .int .i64 hn, .int .i64 hr.a0, .int .i64 hr.a1, .int .i64 hr.a2, .int .i64 hr.a3, .int .i64 hr.a4, .int .i64 hr.a5, .int .i64 hs.a0, .int .i64 hs.a1, .int .i64 hs.a2, .int .i64 hs.a3, .int .i64 hs.a4, .int .i64 hs.a5, .bool true] : Array Value)[j]? := hA5.g.cell
                have r5 := hcW.out _ (hA5.old HID.out.1)
                clear hcall hb5 r1 HDo
                go_upto_region 26 with fail
                clear cG r5
                refine aln26_any _ ⟨b, hn, hr, hs, true⟩ TH' 3 0 av (Left y TS' o w5) w5 y.sb bG _ _ _ _ _ _ _ _ _ _ _ _ _ _ _ _ _ _ _ _ _ _ _ _ _ _ _ _ _ _ _ _ _ _ _ _ _ _ _ _ _ _ _ _ _ _ _ _ _ _ _ _ _ _ _ _ _ _ _ _ _ _ _ _ _ _ _ _ _ _ _ _ _ _ _ _ _ _ _ _ _ _ _ _ _ _ _ _ _ _ _ _ _ _ _ _ _ _ _ _ _ _ _ _ _ _ _ _ _ _ _ _ _ _ _ _ _ _ _ _ _ _ _ _ _ _ _ _ _ _ _ _ _ _ _ _ _ _ _ _ _ _ _ _ _ _ _ _ _ _ _ _ _ _ _ _ _ _ _ _ _ _ _ _ _ _ _ _ _ _ _ _ _ _ _ _ _ _ _ _ _ _ _ hA5.g hc5.out ?_
                rintro w6 ⟨o6, hS6, hI6, hs6⟩
                have hA6 := (hA5.left HID.out.2 hS6 hs6).ext (9, 3)
                generalize Go.Proofs.YtemohiainfllcaaGreat.ext o6 w6.heap.size (9, 3) = p at hA6
                obtain ⟨V1, hV1⟩ : ∃ V, V = (w6.alloc (.cells #[.int .i64 TH'.b, .int .i64 TH'.n, .int .i64 TH'.r.a0, .int .i64 TH'.r.a1, .int .i64 TH'.r.a2, .int .i64 TH'.r.a3, .int .i64 TH'.r.a4, .int .i64 TH'.r.a5, .int .i64 TH'.s.a0, .int .i64 TH'.s.a1, .int .i64 TH'.s.a2, .int .i64 TH'.s.a3, .int .i64 TH'.s.a4, .int .i64 TH'.s.a5, .bool TH'.l] 57)).alloc (.cells #[.int .i64 3, .int .i64 0, .int .i64 av] 60) := ⟨_, rfl⟩
                have bV1 : Below w6.heap.size w6 V1 := by rw [hV1]; exact balloc (balloc (bsame _) _) _
                have jX : Blk V1 w6.heap.size #[.int .i64 TH'.b, .int .i64 TH'.n, .int .i64 TH'.r.a0, .int .i64 TH'.r.a1, .int .i64 TH'.r.a2, .int .i64 TH'.r.a3, .int .i64 TH'.r.a4, .int .i64 TH'.r.a5, .int .i64 TH'.s.a0, .int .i64 TH'.s.a1, .int .i64 TH'.s.a2, .int .i64 TH'.s.a3, .int .i64 TH'.s.a4, .int .i64 TH'.s.a5, .bool TH'.l] 57 := by rw [hV1]; exact (Blk.new _ _ _).alloc _
                have jC : Blk V1 (w6.heap.size + 1) #[.int .i64 3, .int .i64 0, .int .i64 av] 60 := by rw [hV1]; exact Blk.new_at _ _ _ _ _ (by simp) rfl
                have hA7 := hA6.below bV1
                rw [← hV1]
                obtain ⟨bC, hbC⟩ : ∃ b, b = w6.heap.size + 1 := ⟨_, rfl⟩
                rw [← hbC] at jC ⊢
                have cC := jC.cell
                have r7 := hcW.out _ (hA7.old HID.out.1)
                have HA7 := Lib.hid (And.intro hA7 jX)
                clear hS6 hI6 hs6 hA6 bV1 hV1 hbC hc5 hA5 HA jC hA7 jX
                go_upto_region 35 with fail
                refine aln35_any _ ⟨b, hn, hr, hs, true⟩ TH' V1 w6.heap.size bG _ _ _ _ _ _ _ _ _ _ _ _ _ _ _ _ _ _ _ _ _ _ _ _ _ _ _ _ _ _ _ _ _ _ _ _ _ _ _ _ _ _ _ _ _ _ _ _ _ _ _ _ _ _ _ _ _ _ _ _ _ _ _ _ _ _ _ _ _ _ _ _ _ _ _ _ _ _ _ _ _ _ _ _ _ _ _ _ _ _ _ _ _ _ _ _ _ _ _ _ _ _ _ _ _ _ _ _ _ _ _ _ _ _ _ _ _ _ _ _ _ _ _ _ _ _ _ _ _ _ _ _ _ _ _ _ _ _ _ _ _ _ _ _ _ _ _ _ _ _ _ _ _ _ _ _ _ _ _ _ _ _ _ _ _ _ _ _ _ _ _ _ _ _ _ _ _ _ _ _ _ _ _ HA7.out.2 HA7.out.1.g ?_
                intro U hw hUs jG
                have hA8 := HA7.out.1.set HID.out.2 hw jG
                have HF := Lib.hid (And.intro HG.out.1 (And.intro HG.out.2 hA8))
                clear hw hUs jG hA8 HA7 cC r7
                go_wp2_with fail
                go_roundw
                case rel =>
                  (repeat apply Exists.intro)
                  refine ⟨⟨(ds.length : Int) + 1, n' + 1, ⟨TS', TH', ⟨3, 0, av⟩⟩, p, ?_, by omega, by omega, by omega, HF.out.1, HF.out.2.1, HF.out.2.2⟩, rfl⟩
                  first | rfl | simp
                case measure => simp [intOf]; omega
            · have hi : i = ds.length + 1 := by omega
              have nle : ¬ (i ≤ (ds.length : Int)) := hle
              obtain ⟨h1, h2⟩ : T.h.b = b + 1 ∧ T.h.l = false := by
                rcases hAt with ⟨h, _⟩ | ⟨_, h, _⟩ | ⟨_, h1, h2⟩
                · omega
                · omega
                · exact ⟨h1, h2⟩
              have HH := Lib.hid (And.intro h1 (And.intro h2 (And.intro hSI hA)))
              have hn9 : n' ≤ 8 * (b + 1) := by omega
              have Hi := Lib.hid hi
              clear h1 h2 hSI hA hAt hi hle hi1 hi2
              go_wp2_with fail
              go_roundw
              case rel => exact ⟨b + 1, n', T, o, by simp, by omega, hn9, HH.out.2.2.1, by rw [HH.out.1]; omega, HH.out.2.1, HH.out.2.2.2⟩
              case measure => simp [intOf]; omega
        · have hbl : b = q.length := by omega
          obtain ⟨TS, ⟨hb, hn, hr, hs, hl⟩, Ta⟩ := T0
          simp only at hSI hTb hTl hA
          subst hTb hTl hbl
          have hq3 := H3.out
          have tT := hSI.ti.tst (by omega) (by omega) (by omega) (by omega) HP.out.1
          obtain ⟨wi, rfl⟩ : ∃ wi : World, wi = wr := ⟨_, rfl⟩
          have hcall := tstep_any hA.a (HB.out.below (hA.old HID.out.1)) _ tT
          have eT : TS.tstep 0 q ⟨q.length, hn, hr, hs, false⟩ = ⟨TS, ⟨q.length, hn, hr, hs, false⟩, ⟨0, 0, 0⟩⟩ := by
            unfold Stt.tstep; rw [if_pos (Int.le_refl _)]
          rw [eT] at hcall
          have hcall := Lib.hid (show Calls Tryz.prog 30 #[ptr y.sb, .int .i64 0, (.slice pa1 q.length cp1), .agg #[.int .i64 q.length, .int .i64 hn, .int .i64 hr.a0, .int .i64 hr.a1, .int .i64 hr.a2, .int .i64 hr.a3, .int .i64 hr.a4, .int .i64 hr.a5, .int .i64 hs.a0, .int .i64 hs.a1, .int .i64 hs.a2, .int .i64 hs.a3, .int .i64 hs.a4, .int .i64 hs.a5, .bool false]] wi fun e w' => e = .returned (.tuple #[.agg #[.int .i64 q.length, .int .i64 hn, .int .i64 hr.a0, .int .i64 hr.a1, .int .i64 hr.a2, .int .i64 hr.a3, .int .i64 hr.a4, .int .i64 hr.a5, .int .i64 hs.a0, .int .i64 hs.a1, .int .i64 hs.a2, .int .i64 hs.a3, .int .i64 hs.a4, .int .i64 hs.a5, .bool false], .agg #[.int .i64 0, .int .i64 0, .int .i64 0]]) ∧ Left y TS o wi w' from hcall)
          have hdo : (decide (((q.length : Int)) < 0) || decide ((q.length : Int) ≤ (q.length : Int))) = true := by
            simp only [Bool.or_eq_true, decide_eq_true_eq]; exact .inr (Int.le_refl _)
          have HDo := Lib.hid (fun (W : World) => tdone_any ⟨q.length, hn, hr, hs, false⟩ pa1 q.length cp1 W)
          rw [show (decide ((⟨q.length, hn, hr, hs, false⟩ : ThV).b < 0) || decide ((q.length : Int) ≤ (⟨q.length, hn, hr, hs, false⟩ : ThV).b)) = true from hdo] at HDo
          have HDo := Lib.hid (show ∀ W : World, Calls Tryz.prog 29 #[.slice pa1 q.length cp1, .agg #[.int .i64 q.length, .int .i64 hn, .int .i64 hr.a0, .int .i64 hr.a1, .int .i64 hr.a2, .int .i64 hr.a3, .int .i64 hr.a4, .int .i64 hr.a5, .int .i64 hs.a0, .int .i64 hs.a1, .int .i64 hs.a2, .int .i64 hs.a3, .int .i64 hs.a4, .int .i64 hs.a5, .bool false]] W fun e w' => e = .returned (.bool true) ∧ Below W.heap.size W w' from HDo.out)
          have nb : ¬ ((q.length : Int) < (q.length : Int)) := by omega
          have hj : Blk wi bG #[.int .i64 q.length, .int .i64 hn, .int .i64 hr.a0, .int .i64 hr.a1, .int .i64 hr.a2, .int .i64 hr.a3, .int .i64 hr.a4, .int .i64 hr.a5, .int .i64 hs.a0, .int .i64 hs.a1, .int .i64 hs.a2, .int .i64 hs.a3, .int .i64 hs.a4, .int .i64 hs.a5, .bool false] 57 := hA.g
          have HA := Lib.hid hA
          clear hdo eT tT hSI hA hlb hbq hn8
          go_upto_region 36 with fail
          clear nb
          refine aln36_any _ ⟨q.length, hn, hr, hs, false⟩ ⟨q.length, hn, hr, hs, false⟩ 0 0 0 (Left y TS o wi) wi y.sb bG _ _ _ _ _ _ _ _ _ _ _ _ _ _ _ _ _ _ _ _ _ _ _ _ _ _ _ _ _ _ _ _ _ _ _ _ _ _ _ _ _ _ _ _ _ _ _ _ _ _ _ _ _ _ _ _ _ _ _ _ _ _ _ _ _ _ _ _ _ _ _ _ _ _ _ _ _ _ _ _ _ _ _ _ _ _ _ _ _ _ _ _ _ _ _ _ _ _ _ _ _ _ _ _ _ _ _ _ _ _ _ _ _ _ _ _ _ _ _ _ _ _ _ _ _ _ _ _ _ _ _ _ _ _ _ _ _ _ _ _ _ _ _ _ _ _ _ _ _ _ _ _ _ _ _ _ _ _ _ _ _ _ _ _ _ _ _ _ _ _ _ _ _ _ _ _ _ _ _ _ _ _ _ hj hcall.out ?_
          rintro w6 ⟨o6, hS6, hI6, hs6⟩
          have hA6 := (HA.out.left HID.out.2 hS6 hs6).ext (9, 3)
          generalize Go.Proofs.YtemohiainfllcaaGreat.ext o6 w6.heap.size (9, 3) = p at hA6
          generalize hV1 : World.alloc (World.alloc w6 (.cells _ _)) (.cells _ _) = V1
          have bV1 : Below w6.heap.size w6 V1 := by rw [← hV1]; exact balloc (balloc (bsame _) _) _
          have jX : Blk V1 w6.heap.size #[.int .i64 q.length, .int .i64 hn, .int .i64 hr.a0, .int .i64 hr.a1, .int .i64 hr.a2, .int .i64 hr.a3, .int .i64 hr.a4, .int .i64 hr.a5, .int .i64 hs.a0, .int .i64 hs.a1, .int .i64 hs.a2, .int .i64 hs.a3, .int .i64 hs.a4, .int .i64 hs.a5, .bool false] 57 := by rw [← hV1]; exact (Blk.new _ _ _).alloc _
          have jC : Blk V1 (w6.heap.size + 1) #[.int .i64 0, .int .i64 0, .int .i64 0] 60 := by rw [← hV1]; exact Blk.new_at _ _ _ _ _ (by simp) rfl
          have hA7 := hA6.below bV1
          have jG : Blk V1 bG #[.int .i64 q.length, .int .i64 hn, .int .i64 hr.a0, .int .i64 hr.a1, .int .i64 hr.a2, .int .i64 hr.a3, .int .i64 hr.a4, .int .i64 hr.a5, .int .i64 hs.a0, .int .i64 hs.a1, .int .i64 hs.a2, .int .i64 hs.a3, .int .i64 hs.a4, .int .i64 hs.a5, .bool false] 57 := hA7.g
          obtain ⟨bC, hbC⟩ : ∃ b, b = w6.heap.size + 1 := ⟨_, rfl⟩
          rw [← hbC] at jC ⊢
          have Hold := Lib.hid (btrans hbw.out (hA7.old HID.out.1))
          have HJ := Lib.hid (And.intro jX (And.intro jC jG))
          have cG := jG.cell
          clear hS6 hI6 hs6 hA6 bV1 hV1 hbC hcall HA jX jC jG hA7 hj
          go_wp2_with fail
          refine (HDo.out _).mono ?_
          rintro e w8 ⟨rfl, hb8⟩
          have cX := (HJ.out.1.below hb8 HJ.out.1.lt).cell
          have cC := (HJ.out.2.1.below hb8 HJ.out.2.1.lt).cell
          have cG := (HJ.out.2.2.below hb8 HJ.out.2.2.lt).cell
          have hfin := Lib.hid (btrans Hold.out hb8)
          clear hb8
          go_wp2_with fail
          go_ret
          exact ⟨rfl, hfin.out⟩
end Go.Proofs.YtemohiainfllcaaGreat
