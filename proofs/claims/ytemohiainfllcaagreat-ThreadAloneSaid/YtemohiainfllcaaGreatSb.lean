/- Threads, in plain Lean: what a deed leaves alone; a thread that goes on with nobody beside it. -/
import Derived.Test.YtemohiainfllcaaGreatRw
import Derived.Test.YtemohiainfllcaaGreatRo2
import Derived.Test.YtemohiainfllcaaGreatSa
namespace Go.Proofs.YtemohiainfllcaaGreat
open Hp
namespace Us
variable {S S' : Stt} {i : Nat}
/-- What a call may come to: its errors; nothing of another thread's. -/
structure Rok (i : Nat) (S : Stt) (r : Res) : Prop where
  mv : Mvs 2 0 i S r.S
  kp : Kp i S r.S
  e : r.e ≠ 140
theorem up2 {k : Nat} (hk : k ≤ 2) {A B : Stt} (g : Mvs k 0 i A B) : Mvs 2 0 i A B := by
  have := g.trans (Mvs.refl (2 - k) 0 i B)
  rwa [show k + (2 - k) = 2 from by omega] at this
theorem lookR_e (i : Nat) (x : Tx) (p : Nat) : (S.lookR i x p).2 ≠ 140 := by
  unfold Stt.lookR
  split
  · simp
  · split
    · simp
    · split
      · simp
      · simp only; split
        · split <;> simp
        · simp
theorem fieldsR_e (i : Nat) (x : Tx) (p : Nat) : (S.fieldsR i x p).2 ≠ 140 := by
  have := lookR_e (S := S) i x p
  unfold Stt.fieldsR
  simp only
  split
  · split <;> simp
  · exact this
theorem readR_rok (hi : i < S.txs.length) (hl : (S.t i).live = true) (p j : Nat) : Rok i S (S.readR i (S.t i) p j) := by
  obtain ⟨a, b⟩ := (readR_chg p j).mv hi hl
  refine ⟨up2 (by omega) a, b, ?_⟩
  unfold Stt.readR; split
  · exact fieldsR_e _ _ _
  · split <;> simp
theorem getR_rok (hi : i < S.txs.length) (hl : (S.t i).live = true) (p j : Nat) : Rok i S (S.getR i (S.t i) p j) := by
  obtain ⟨a, b⟩ := (getR_chg p j).mv hi hl
  refine ⟨up2 (by omega) a, b, ?_⟩
  unfold Stt.getR; split
  · exact fieldsR_e _ _ _
  · split <;> simp
theorem writeR_rok (hi : i < S.txs.length) (hl : (S.t i).live = true) (p j : Nat) (v : Int) : Rok i S (S.writeR i (S.t i) p j v) := by
  obtain ⟨a, b⟩ := (writeR_chg p j v).mv hi hl
  refine ⟨up2 (by omega) a, b, ?_⟩
  unfold Stt.writeR; split
  · exact fieldsR_e _ _ _
  · split
    · simp
    · split <;> simp
theorem putR_rok (hi : i < S.txs.length) (hl : (S.t i).live = true) (p j v : Nat) : Rok i S (S.putR i (S.t i) p j v) := by
  obtain ⟨a, b⟩ := (putR_chg p j v).mv hi hl
  refine ⟨up2 (by omega) a, b, ?_⟩
  unfold Stt.putR; split
  · exact fieldsR_e _ _ _
  · split
    · simp
    · split <;> simp
theorem freeR_rok (hi : i < S.txs.length) (hl : (S.t i).live = true) (p : Nat) : Rok i S (S.freeR i (S.t i) p) := by
  obtain ⟨a, b⟩ := (freeR_chg p).mv hi hl
  refine ⟨up2 (by omega) a, b, ?_⟩
  unfold Stt.freeR; split
  · exact lookR_e _ _ _
  · split <;> simp
theorem takeR_rok (hl : (S.t i).live = true) : Rok i S (S.takeR i (S.t i)) := by
  obtain ⟨a, b⟩ := take_mv (S := S) (i := i) hl
  refine ⟨up2 (by omega) a, b, ?_⟩
  unfold Stt.takeR; split <;> simp
theorem laid_mv2 (hk : S.ok) (hi : i < S.txs.length) (hl : (S.t i).live = true) (s : Shp) (hs : rnd (3 + s.p + s.d) ≤ 16) : Mvs 2 0 i S (S.laid i (S.t i) s) ∧ Kp i S (S.laid i (S.t i) s) := by
  have e1 : ∀ j, (S.laid i (S.t i) s).t j = if j = i then (S.t i).holding S.H.top 0 else S.t j := fun j => set_t hi _ _ _ _ _ _ _
  refine ⟨⟨List.length_set .., fun j hj => by rw [e1, if_neg hj], ?_, by show S.H.serial + 1 ≤ _; omega, by show S.H.top + rnd (3 + s.p + s.d) ≤ _; omega, rfl, fun p ob h => ?_, rfl, Nat.le_add_right .., .inl rfl, fun a _ => ?_⟩, ?_, ?_, rfl⟩
  · rw [e1, if_pos rfl]
    exact ⟨rfl, rfl, Nat.le_add_right .., Nat.le_add_right .., by show (_ ++ [_] : List (Nat × Nat)).length ≤ _; simp, Nat.le_add_right ..⟩
  · refine ⟨ob, ?_, rfl⟩
    rw [lk_laid hk, if_neg]
    · exact h
    · intro e; rw [e, lk_top hk.F.ok] at h; cases h
  · rw [e1, if_pos rfl] at a
    rw [show ((S.t i).holding S.H.top 0).live = (S.t i).live from rfl, hl] at a; cases a
  · rw [e1, if_pos rfl]; rfl
  · rw [e1, if_pos rfl]; rfl
theorem allocR_rok (hk : S.ok) (hi : i < S.txs.length) (hl : (S.t i).live = true) (s : Shp) (hs : rnd (3 + s.p + s.d) ≤ 16) : Rok i S (S.allocR i (S.t i) s) := by
  unfold Stt.allocR; split
  · obtain ⟨a, b⟩ := laid_mv2 hk hi hl s hs
    exact ⟨a, b, by simp⟩
  · exact ⟨Mvs.refl _ _ _ _, Kp.refl _ _, by simp⟩
theorem weakR_rok (hk : S.ok) (hi : i < S.txs.length) (hl : (S.t i).live = true) (q : Nat) : Rok i S (S.weakR i (S.t i) q) := by
  unfold Stt.weakR; split
  · exact ⟨Mvs.refl _ _ _ _, Kp.refl _ _, by simp⟩
  · split
    · obtain ⟨a, b⟩ := laid_mv2 hk hi hl Shp.wk (by decide)
      refine ⟨?_, b.trans (Kp.cur _), by simp⟩
      exact a.trans (Mvs.at' (k := 0) (ob := (Ob.new Shp.wk (S.H.serial + 1)).setSecond (2 * i + 1)) (ob' := S.wkOb i q) (by rw [lk_laid hk, if_pos rfl]) rfl)
    · exact ⟨Mvs.refl _ _ _ _, Kp.refl _ _, by simp⟩
theorem Lgs.keep (x : Tx) (p q : Nat) : Lgs 1 x.log ((x.read p).keep q).log := by
  refine ⟨rfl, rfl, (Lgs.read x p).r, ?_, Nat.le_add_right .., Nat.le_add_right ..⟩
  show (noteL x.log.keeps q x.log.mr).length ≤ _
  unfold noteL; split
  · omega
  · split
    · simp
    · omega
theorem loadR_rok (hi : i < S.txs.length) (hl : (S.t i).live = true) (p : Nat) : Rok i S (S.loadR i (S.t i) p) := by
  obtain ⟨a, b⟩ := (lookR_chg (S := S) (i := i) p).mv hi hl
  unfold Stt.loadR; split
  · exact ⟨up2 (by omega) a, b, lookR_e _ _ _⟩
  · split
    · exact ⟨up2 (by omega) a, b, by simp⟩
    · split
      · split
        · exact ⟨up2 (k := 1) (by omega) (Mvs.tx hi (Lgs.read _ p) (fun h _ => by rw [show ((S.t i).read p).live = (S.t i).live from rfl, hl] at h; cases h)), Kp.tx hi rfl rfl, by simp⟩
        · rename_i ob _ _ _
          exact ⟨up2 (k := 1) (by omega) (Mvs.tx hi (Lgs.keep _ p _) (fun h _ => by rw [show (((S.t i).read p).keep (ob.ptrs.getD 0 0)).live = (S.t i).live from rfl, hl] at h; cases h)), Kp.tx hi rfl rfl, by simp⟩
      · exact ⟨up2 (by omega) a, b, by simp⟩
/-- Behind a call's end. -/
structure Fin (i : Nat) (S : Stt) (r : Res) : Prop where
  mv : Mvs 2 0 i S r.S
  now : r.S.now = S.now
  lv : (r.S.t i).live = !isAb r.e
  e : r.e ≠ 140
  lg : isAb r.e = true → (r.S.t i).log.reads = [] ∧ (r.S.t i).log.keeps = [] ∧ (r.S.t i).log.holds = [] ∧ (r.S.t i).log.undos = []
  kp : isAb r.e = false → Kp i S r.S
theorem aborted_t (hi : i < S.txs.length) : (S.abort i).t i = (S.t i).ended ∧ (S.abort i).now = S.now := by
  have hx := Stt.t_get hi
  unfold Stt.abort
  rw [hx]
  simp only
  unfold Stt.aborted
  exact ⟨by rw [set_t hi, if_pos rfl], rfl⟩
theorem Rok.fin {r : Res} (h : Rok i S r) (hi : i < S.txs.length) (hl : (S.t i).live = true) : Fin i S (r.fin i) := by
  have hi2 : i < r.S.txs.length := by rw [h.mv.len]; exact hi
  have hm := fin_mv (r := r) hi h.mv
  cases ha : isAb r.e with
  | true =>
    have e1 : r.fin i = ⟨r.S.abort i, 0, r.e⟩ := by unfold Res.fin; rw [if_pos ha]
    rw [e1] at hm ⊢
    obtain ⟨a, b⟩ := aborted_t (S := r.S) hi2
    refine ⟨hm, b.trans h.kp.now, ?_, h.e, fun _ => ?_, (fun h0 => by rw [show isAb r.e = true from ha] at h0; cases h0)⟩
    · simp only [a, ha]; rfl
    · simp only [a]; exact ⟨rfl, rfl, rfl, rfl⟩
  | false =>
    have e1 : (r.fin i).S = r.S ∧ (r.fin i).e = r.e := by
      unfold Res.fin; rw [if_neg (by rw [ha]; simp)]; split <;> exact ⟨rfl, rfl⟩
    refine ⟨hm, by rw [e1.1]; exact h.kp.now, by rw [e1.1, e1.2, ha, h.kp.live, hl]; rfl, by rw [e1.2]; exact h.e, (fun h0 => by rw [e1.2, ha] at h0; cases h0), fun _ => by rw [e1.1]; exact h.kp⟩
theorem plc_mv {k m : Nat} (g : Mvs k m i S S') {p : Nat} (h : Plc S p) : Plc S' p := by
  refine h.imp id fun h => ?_
  obtain ⟨ob, hob⟩ := Option.isSome_iff_exists.1 h
  obtain ⟨ob', h1, _⟩ := g.shp p ob hob
  rw [h1]; rfl
theorem rgs_mv {k m : Nat} (g : Mvs k m i S S') {r : R6} (h : Rgs S r) : Rgs S' r := fun j hj => by
  obtain ⟨p, h1, h2⟩ := h j hj
  exact ⟨p, h1, plc_mv g h2⟩
theorem rgs_put {r : R6} (h : Rgs S r) {A : Nat} (hA : A < 6) {v : Int} (hv : ∃ p : Nat, v = p ∧ Plc S p) : Rgs S (r.set v A) := by
  intro j hj
  by_cases e : j = A
  · subst e
    obtain rfl | rfl | rfl | rfl | rfl | rfl := six hA <;> exact hv
  · have : (r.set v A).get j = r.get j := by
      obtain rfl | rfl | rfl | rfl | rfl | rfl := six hA <;> obtain rfl | rfl | rfl | rfl | rfl | rfl := six hj <;> first | rfl | exact absurd rfl e
    rw [this]; exact h j hj
/-- A thread, and its transaction. -/
structure TI (R U M n : Nat) (S : Stt) (i : Nat) (h : ThV) : Prop where
  inv : Inv S
  lt : i < S.txs.length
  mr : (S.t i).log.mr = R
  mu : (S.t i).log.mu = U
  most : S.most = M
  lv : (S.t i).live = h.l
  lg : (S.t i).log.reads.length ≤ 2 * h.n.toNat ∧ (S.t i).log.keeps.length ≤ 2 * h.n.toNat ∧ (S.t i).log.holds.length ≤ 2 * h.n.toNat ∧ (S.t i).log.undos.length ≤ 2 * h.n.toNat
  rr : Rgs S h.r
  rs : Rgs S h.s
  ser : S.H.serial ≤ 2 * n
  now : S.now ≤ n
  n0 : 0 ≤ h.n ∧ h.n ≤ 7
  b0 : 0 ≤ h.b ∧ h.b ≤ n
variable {R U M n : Nat} {h : ThV}
theorem TI.mono {h' : ThV} (t : TI R U M n S i h) {k m : Nat} (g : Mvs k m i S S') (hk : k ≤ 2) (hm : m ≤ 1) (hI : Inv S') (lv : (S'.t i).live = h'.l)
    (lg : (S'.t i).log.reads.length ≤ 2 * h'.n.toNat ∧ (S'.t i).log.keeps.length ≤ 2 * h'.n.toNat ∧ (S'.t i).log.holds.length ≤ 2 * h'.n.toNat ∧ (S'.t i).log.undos.length ≤ 2 * h'.n.toNat)
    (rr : Rgs S' h'.r) (rs : Rgs S' h'.s) (n0 : 0 ≤ h'.n ∧ h'.n ≤ 7) (b0 : 0 ≤ h'.b ∧ h'.b ≤ h.b + 1) : TI R U M (n + 1) S' i h' :=
  ⟨hI, by rw [g.len]; exact t.lt, g.lg.mr.trans t.mr, g.lg.mu.trans t.mu, g.most.trans t.most, lv, lg, rr, rs, by have := g.ser; have := t.ser; omega, by have := g.now; have := t.now; omega, n0, by have := t.b0; omega⟩
theorem empties {L : Lg} (h : L.reads = [] ∧ L.keeps = [] ∧ L.holds = [] ∧ L.undos = []) (m : Nat) : L.reads.length ≤ m ∧ L.keeps.length ≤ m ∧ L.holds.length ≤ m ∧ L.undos.length ≤ m := by
  obtain ⟨a, b, c, d⟩ := h
  rw [a, b, c, d]; simp
theorem ab_of {e : Int} : isAb e = true ↔ e = 141 ∨ e = 130 ∨ e = 100 := by
  unfold isAb; simp only [Bool.or_eq_true, beq_iff_eq]; omega
/-- A deed that told e. -/
theorem TI.told (t : TI R U M n S i h) (hl : h.l = true) {r : Res} (f : Fin i S r) (hI : Inv r.S) (hn : h.n < 7) : TI R U M (n + 1) r.S i (h.ended r.e) := by
  have hr := rgs_mv f.mv t.rr
  have hs := rgs_mv f.mv t.rs
  have b0 := t.b0
  have n0 := t.n0
  cases ha : isAb r.e with
  | true =>
    have hlg := empties (f.lg ha)
    have hlv := f.lv
    rw [ha] at hlv
    rcases ab_of.1 ha with h1 | h1 | h1
    · have e1 : h.ended r.e = h.back := by unfold ThV.ended; rw [h1]; rfl
      rw [e1]
      exact t.mono f.mv (by omega) (by omega) hI hlv (hlg _) hs hs ⟨by show (0 : Int) ≤ 0; omega, by show (0 : Int) ≤ 7; omega⟩ ⟨b0.1, by show h.b ≤ _; omega⟩
    · have e1 : h.ended r.e = { h.back with b := h.b + 1 } := by unfold ThV.ended; rw [h1]; rfl
      rw [e1]
      exact t.mono f.mv (by omega) (by omega) hI hlv (hlg _) hs hs ⟨by show (0 : Int) ≤ 0; omega, by show (0 : Int) ≤ 7; omega⟩ ⟨by show (0 : Int) ≤ h.b + 1; omega, by show h.b + 1 ≤ _; omega⟩
    · have e1 : h.ended r.e = { h.back with b := h.b + 1 } := by unfold ThV.ended; rw [h1]; rfl
      rw [e1]
      exact t.mono f.mv (by omega) (by omega) hI hlv (hlg _) hs hs ⟨by show (0 : Int) ≤ 0; omega, by show (0 : Int) ≤ 7; omega⟩ ⟨by show (0 : Int) ≤ h.b + 1; omega, by show h.b + 1 ≤ _; omega⟩
  | false =>
    have hna : ¬ (r.e = 141 ∨ r.e = 130 ∨ r.e = 100) := fun h => by rw [ab_of.2 h] at ha; cases ha
    have e1 : h.ended r.e = { h with n := h.n + 1 } := by
      unfold ThV.ended
      have := f.e
      rw [if_neg (by omega), if_neg (by omega)]
    have hlv := f.lv
    rw [ha] at hlv
    have hg := f.mv.lg
    have hL := t.lg
    rw [e1]
    have hn2 : (h.n + 1).toNat = h.n.toNat + 1 := by omega
    refine t.mono f.mv (by omega) (by omega) hI (by rw [hlv]; exact hl.symm) ?_ hr hs ⟨by show (0 : Int) ≤ h.n + 1; omega, by show h.n + 1 ≤ 7; omega⟩ ⟨b0.1, by show h.b ≤ _; omega⟩
    show _ ≤ 2 * (h.n + 1).toNat ∧ _ ≤ 2 * (h.n + 1).toNat ∧ _ ≤ 2 * (h.n + 1).toNat ∧ _ ≤ 2 * (h.n + 1).toNat
    rw [hn2]
    exact ⟨by have := hg.r; omega, by have := hg.e; omega, by have := hg.h; omega, by have := hg.u; omega⟩
theorem TI.put (t : TI R U M n S i h) {A : Nat} (hA : A < 6) {v : Int} (hv : ∃ p : Nat, v = p ∧ Plc S p) : TI R U M n S i (h.put A v) :=
  ⟨t.inv, t.lt, t.mr, t.mu, t.most, t.lv, t.lg, rgs_put t.rr hA hv, t.rs, t.ser, t.now, t.n0, t.b0⟩
theorem TI.led (t : TI R U M n S i h) (hl : h.l = true) {r : Res} (f : Fin i S r) (hI : Inv r.S) (hn : h.n < 7) {A : Nat} (hA : A < 6) (hL : LedOk r) : TI R U M (n + 1) r.S i (h.led A r.v r.e) := by
  by_cases he : r.e = 0
  · have e1 : h.led A r.v r.e = (h.ended r.e).put A r.v := by unfold ThV.led; rw [if_pos he, he]; rfl
    rw [e1]
    exact (t.told hl f hI hn).put hA (hL he)
  · have e1 : h.led A r.v r.e = h.ended r.e := by unfold ThV.led; rw [if_neg he]
    rw [e1]
    exact t.told hl f hI hn
theorem fin_same (hl : (S.t i).live = true) (v : Int) : Fin i S ⟨S, v, 0⟩ :=
  ⟨Mvs.refl _ _ _ _, rfl, hl, by simp, (fun h => by cases h), fun _ => Kp.refl _ _⟩
theorem TI.chk (t : TI R U M n S i h) (hl : h.l = true) (hR : 15 ≤ R) (hU : 15 ≤ U) : S.chk i = true := by
  have := t.lg
  have := t.n0
  unfold Stt.chk roomyB
  rw [t.lv, hl, t.mr, t.mu]
  simp only [Bool.and_eq_true, decide_eq_true_eq]
  refine ⟨⟨t.lt, trivial⟩, ⟨⟨⟨?_, ?_⟩, ?_⟩, ?_⟩⟩ <;> omega
theorem size_16 {d : DeedV} (hd : d.ok) (hk : d.k = 1 ∨ d.k = 2) (wk fi : Bool) : rnd (3 + (⟨d.i.toNat, d.n.toNat, wk, fi⟩ : Shp).p + (⟨d.i.toNat, d.n.toNat, wk, fi⟩ : Shp).d) ≤ 16 := by
  have := hd.s hk
  have := hd.i
  simp only
  unfold rnd; repeat' split
  all_goals omega
theorem shp_dk {d : DeedV} (hd : d.ok) (hk : d.k = 1 ∨ d.k = 2) (fi : Bool) : Shp.ok ⟨d.i.toNat, d.n.toNat, false, fi⟩ := by
  have := hd.s hk
  have := hd.i
  exact ⟨by show d.i.toNat ≤ 8; omega, by show d.n.toNat ≤ 8; omega, fun h => by cases h⟩
theorem TI.deed (t : TI R U M n S i h) (hl : h.l = true) (hR : 15 ≤ R) (hU : 15 ≤ U) (hn : h.n < 7) (hser : n ≤ 1000) (d : DeedV) (hd : d.ok) : TI R U M (n + 1) (S.tdeed i h d).S i (S.tdeed i h d).h := by
  have hc := t.chk hl hR hU
  have hP := Stt.chk_pre t.inv hc
  have hi := t.lt
  have hlv : (S.t i).live = true := t.lv.trans hl
  have hI := t.inv
  have hk := hI.ok
  obtain ⟨ea, pa⟩ := t.rr.at hd.A
  obtain ⟨eb, pb⟩ := t.rr.at hd.B
  have hs : S.H.serial < 1099511627776 := by have := t.ser; omega
  have hkk := hd.k
  have h14 : d.k = 1 ∨ d.k = 2 ∨ d.k = 3 ∨ d.k = 4 ∨ d.k = 5 ∨ d.k = 6 ∨ d.k = 7 ∨ d.k = 8 ∨ d.k = 9 ∨ d.k = 10 ∨ d.k = 11 ∨ d.k = 12 ∨ d.k = 13 ∨ d.k = 14 := by omega
  rcases h14 with k | k | k | k | k | k | k | k | k | k | k | k | k | k
  · rw [tdeed_k1 _ _ _ _ k]
    exact t.led hl ((allocR_rok hk hi hlv _ (size_16 hd (.inl k) _ _)).fin hi hlv) ((hI.allocR hP _ (shp_dk hd (.inl k) _) hs).fin i) hn hd.A (alloc_led hk i _)
  · rw [tdeed_k2 _ _ _ _ k]
    exact t.led hl ((allocR_rok hk hi hlv _ (size_16 hd (.inr k) _ _)).fin hi hlv) ((hI.allocR hP _ (shp_dk hd (.inr k) _) hs).fin i) hn hd.A (alloc_led hk i _)
  · rw [tdeed_k3 _ _ _ _ k]
    exact t.led hl ((weakR_rok hk hi hlv _).fin hi hlv) ((hI.weakR hP pb hs).fin i) hn hd.A (weak_led hk i _)
  · rw [tdeed_k4 _ _ _ _ k]
    exact t.led hl ((getR_rok hi hlv _ _).fin hi hlv) ((hI.getR hP _).fin i) hn hd.A (get_led hI i _ _)
  · rw [tdeed_k5 _ _ _ _ k]
    exact t.told hl ((putR_rok hi hlv _ _ _).fin hi hlv) ((hI.putR hP pa _ _ pb).fin i) hn
  · rw [tdeed_k6 _ _ _ _ k]
    exact t.told hl ((readR_rok hi hlv _ _).fin hi hlv) ((hI.readR hP _).fin i) hn
  · rw [tdeed_k7 _ _ _ _ k]
    exact t.told hl ((writeR_rok hi hlv _ _ _).fin hi hlv) ((hI.writeR hP pa _ _ hd.n).fin i) hn
  · rw [tdeed_k8 _ _ _ _ k]
    exact t.told hl ((freeR_rok hi hlv _).fin hi hlv) ((hI.freeR hP pa).fin i) hn
  · rw [tdeed_k9 _ _ _ _ k]
    exact t.led hl ((loadR_rok hi hlv _).fin hi hlv) ((hI.loadR hP pb).fin i) hn hd.A (load_led hI i _)
  · rw [tdeed_k10 _ _ _ _ k]
    exact t.led hl ((takeR_rok hlv).fin hi hlv) ((hI.takeR hP).fin i) hn hd.A (take_led i)
  · rw [tdeed_k11 _ _ _ _ k]
    exact t.told (r := ⟨S, 0, 0⟩) hl (fin_same hlv 0) hI hn
  · rw [tdeed_k12 _ _ _ _ k]
    exact (t.put hd.A ⟨_, rfl, pb⟩).told (r := ⟨S, 0, 0⟩) hl (fin_same hlv 0) hI hn
  · rw [tdeed_k13 _ _ _ _ k]
    exact (t.put hd.A ⟨0, rfl, .inl rfl⟩).told (r := ⟨S, 0, 0⟩) hl (fin_same hlv 0) hI hn
  · rw [tdeed_k14 _ _ _ _ k]
    obtain ⟨a1, a2⟩ := aborted_t (S := S) hi
    have g := aborted_mv (S := S) hi
    have b0 := t.b0
    have hrs := rgs_mv g t.rs
    refine t.mono g (by omega) (by omega) (hI.abort i) (by rw [a1]; rfl) (by rw [a1]; exact empties ⟨rfl, rfl, rfl, rfl⟩ _) hrs hrs ⟨by show (0 : Int) ≤ 0; omega, by show (0 : Int) ≤ 7; omega⟩ ⟨by show (0 : Int) ≤ h.b + 1; omega, by show h.b + 1 ≤ h.b + 1; omega⟩
theorem commit_ends (hi : i < S.txs.length) : Mvs 0 1 i S (S.commit i).S ∧ ((S.commit i).S.t i).live = false ∧ (((S.commit i).S.t i).log.reads = [] ∧ ((S.commit i).S.t i).log.keeps = [] ∧ ((S.commit i).S.t i).log.holds = [] ∧ ((S.commit i).S.t i).log.undos = []) ∧ (S.commit i).e ≠ 140 := by
  have hm : Mvs 0 1 i S (S.commit i).S := fin_mv hi (commit_mv hi)
  refine ⟨hm, ?_⟩
  have key : (((S.commit i).S.t i) = (S.t i).ended) ∧ (S.commit i).e ≠ 140 := by
    unfold Stt.commit Stt.commitR
    split
    · refine ⟨?_, by unfold Res.fin; rw [if_neg (by simp [isAb]), if_pos rfl]; simp⟩
      unfold Res.fin; rw [if_neg (by simp [isAb]), if_pos rfl]
      rw [tx_t hi, if_pos rfl]
    · split
      · refine ⟨?_, by unfold Res.fin; rw [if_pos (by simp [isAb])]; simp⟩
        unfold Res.fin; rw [if_pos (by simp [isAb])]
        exact (aborted_t hi).1
      · refine ⟨?_, by unfold Res.fin; rw [if_neg (by simp [isAb]), if_pos rfl]; simp⟩
        unfold Res.fin; rw [if_neg (by simp [isAb]), if_pos rfl]
        show Stt.t (S.committed i (S.t i)) i = _
        unfold Stt.committed
        rw [set_t hi, if_pos rfl]
  rw [key.1]
  exact ⟨rfl, ⟨rfl, rfl, rfl, rfl⟩, key.2⟩
theorem TI.commit (t : TI R U M n S i h) (hl : h.l = true) (hR : 15 ≤ R) (hU : 15 ≤ U) (hM : n < M) : TI R U M (n + 1) (S.tcommit i h).S i (S.tcommit i h).h := by
  have hc := t.chk hl hR hU
  have hP := Stt.chk_pre t.inv hc
  obtain ⟨g, l1, l2, _⟩ := commit_ends (S := S) t.lt
  have hI : Inv (S.commit i).S := (t.inv.commitR hP (by have := t.now; have := t.most; omega)).fin i
  have b0 := t.b0
  have hrr := rgs_mv g t.rr
  have hrs := rgs_mv g t.rs
  unfold Stt.tcommit
  split
  · exact t.mono g (by omega) (by omega) hI l1 (empties l2 _) hrr hrr ⟨by show (0 : Int) ≤ 0; omega, by show (0 : Int) ≤ 7; omega⟩ ⟨by show (0 : Int) ≤ h.b + 1; omega, by show h.b + 1 ≤ h.b + 1; omega⟩
  · exact t.mono g (by omega) (by omega) hI l1 (empties l2 _) hrs hrs ⟨by show (0 : Int) ≤ 0; omega, by show (0 : Int) ≤ 7; omega⟩ ⟨by show (0 : Int) ≤ h.b; omega, by show h.b ≤ h.b + 1; omega⟩
theorem TI.begin (t : TI R U M n S i h) (hl : h.l = false) : TI R U M (n + 1) (S.tbegin i h).S i (S.tbegin i h).h := by
  have hlv : (S.t i).live = false := t.lv.trans hl
  have hx := Stt.t_get t.lt
  have e1 : S.begin i = S.tx i ((S.t i).begun S.now) := by unfold Stt.begin; rw [hlv]; rfl
  obtain ⟨g, l1⟩ := begin_mv (S := S) t.lt
  have hI : Inv (S.begin i) := by rw [e1]; exact t.inv.begun hx hlv
  have hid := t.inv.idle i _ hx hlv
  have b0 := t.b0
  have hrr := rgs_mv g t.rr
  refine t.mono g (by omega) (by omega) hI l1 ?_ hrr hrr ⟨by show (0 : Int) ≤ 0; omega, by show (0 : Int) ≤ 7; omega⟩ ⟨by show (0 : Int) ≤ h.b; omega, by show h.b ≤ h.b + 1; omega⟩
  have e2 : (S.tbegin i h).S.t i = (S.t i).begun S.now := by
    show (S.begin i).t i = _
    rw [e1, tx_t t.lt, if_pos rfl]
  rw [e2]
  exact empties (L := ((S.t i).begun S.now).log) hid _
/-- A program of short blocks. -/
def Prg (l : List (List DeedV)) : Prop := ∀ ds ∈ l, ds.length ≤ 7 ∧ ∀ d ∈ ds, d.ok ∧ Pg.right d.D = true
theorem TI.tst (t : TI R U M n S i h) (hR : 15 ≤ R) (hU : 15 ≤ U) (hM : n + 9 ≤ M) (hn : n ≤ 1000) {l : List (List DeedV)} (hp : Prg l) : Tst S i l h :=
  ⟨t.inv, t.lt, by have := t.now; have := t.most; omega, t.lv, fun hl => t.chk hl hR hU, t.rr, by have := t.ser; omega, ⟨t.n0.1, by have := t.n0; omega⟩, ⟨t.b0.1, by have := t.b0; omega⟩, fun ds hds d hd => (hp ds hds).2 d hd⟩
theorem TI.step (t : TI R U M n S i h) (hR : 15 ≤ R) (hU : 15 ≤ U) (hM : n + 9 ≤ M) (hn : n ≤ 1000) {l : List (List DeedV)} (hp : Prg l) : TI R U M (n + 1) (S.tstep i l h).S i (S.tstep i l h).h := by
  have b0 := t.b0
  have n0 := t.n0
  unfold Stt.tstep
  split
  · exact t.mono (Mvs.refl 0 0 i S) (by omega) (by omega) t.inv t.lv t.lg t.rr t.rs t.n0 ⟨b0.1, by show h.b ≤ h.b + 1; omega⟩
  · split
    · rename_i hl; exact t.begin hl
    · rename_i hlt hl
      have hl : h.l = true := by simpa using hl
      split
      · exact t.commit hl hR hU (by omega)
      · rename_i d hd
        have hb : h.b.toNat < l.length := by omega
        rw [List.getD_eq_getElem?_getD, List.getElem?_eq_getElem hb] at hd
        obtain ⟨h7, hds⟩ := hp _ (List.getElem_mem hb)
        have := (List.getElem?_eq_some_iff.1 hd).1
        simp only [Option.getD_some] at this
        exact t.deed hl hR hU (by omega) hn d (hds d (List.mem_of_getElem? hd)).1
end Us
end Go.Proofs.YtemohiainfllcaaGreat

/- Programs as threads have them; a thread's steps, one behind the other. -/
namespace Go.Proofs.YtemohiainfllcaaGreat
open Go.RowKit Hp
attribute [local go_sem ↓] Go.wp_at_zero Go.wp_at_succ
/-- A deed as threads have it. -/
def toV (d : Pg.D) : DeedV := ⟨d.k, d.a.toNat, d.b.toNat, d.i, d.n⟩
set_option maxHeartbeats 1000000 in
theorem fit_v (d : Pg.D) : (toV (fit d)).ok ∧ (toV (fit d)).D = fit d ∧ 0 ≤ (fit d).a ∧ 0 ≤ (fit d).b := by
  have h1 := pkz_lo d.k 14 (by omega)
  have h2 := pkz_hi d.k 14 (by omega)
  unfold fit
  generalize hk : 1 + pkz d.k 14 = k
  have hk' : 1 ≤ k ∧ k ≤ 14 := by omega
  clear hk h1 h2
  have a1 := pkz_lo d.a 6 (by omega)
  have a2 := pkz_hi d.a 6 (by omega)
  have b1 := pkz_lo d.b 6 (by omega)
  have b2 := pkz_hi d.b 6 (by omega)
  have i1 := pkz_lo d.i 5 (by omega)
  have i2 := pkz_hi d.i 5 (by omega)
  have j1 := pkz_lo d.i 8 (by omega)
  have n1 := pkz_lo d.n 5 (by omega)
  have n2 := pkz_hi d.n 5 (by omega)
  have v1 := pkz_lo d.n 2000001 (by omega)
  have v2 := pkz_hi d.n 2000001 (by omega)
  obtain ⟨a, ha⟩ : ∃ a, a = pkz d.a 6 := ⟨_, rfl⟩
  obtain ⟨b, hb⟩ : ∃ a, a = pkz d.b 6 := ⟨_, rfl⟩
  obtain ⟨i, hi⟩ : ∃ a, a = pkz d.i 5 := ⟨_, rfl⟩
  obtain ⟨i', hi'⟩ : ∃ a, a = pkz d.i 8 := ⟨_, rfl⟩
  obtain ⟨n, hn⟩ : ∃ a, a = pkz d.n 5 := ⟨_, rfl⟩
  obtain ⟨n', hn'⟩ : ∃ a, a = pkz d.n 2000001 := ⟨_, rfl⟩
  rw [← ha] at a1 a2
  rw [← hb] at b1 b2
  rw [← hi] at i1 i2
  rw [← hi'] at j1
  rw [← hn] at n1 n2
  rw [← hn'] at v1 v2
  obtain ⟨a, rfl⟩ := Int.eq_ofNat_of_zero_le a1
  obtain ⟨b, rfl⟩ := Int.eq_ofNat_of_zero_le b1
  rcases Pg.kinds hk' with rfl | rfl | rfl | rfl | rfl | rfl | rfl | rfl | rfl | rfl | rfl | rfl | rfl | rfl
  all_goals
    refine ⟨⟨?_, ?_, ?_, ?_, ?_, ?_⟩, ?_, ?_, ?_⟩ <;> simp [fitK, toV, DeedV.D, ← ha, ← hb, ← hi, ← hi', ← hn, ← hn'] <;> omega
def vs (t : List (List Pg.D)) : List (List DeedV) := t.map (·.map toV)
theorem mem_fitB {t b : List (List Pg.D)} {l : List Pg.D} (hb : b = fitB t) (hl : l ∈ b) : l ≠ [] ∧ l.length ≤ 6 ∧ ∀ d ∈ l, ∃ d0, d = fit d0 := by
  subst hb
  unfold fitB at hl
  obtain ⟨h1, h2⟩ := List.mem_filter.1 hl
  obtain ⟨l0, _, rfl⟩ := List.mem_map.1 h1
  refine ⟨fun e => by rw [e] at h2; simp at h2, by unfold fits; simp; omega, fun d hd => ?_⟩
  unfold fits at hd
  obtain ⟨d0, _, rfl⟩ := List.mem_map.1 hd
  exact ⟨d0, rfl⟩
theorem mem_progs {raw : List (List (List Pg.D))} {t : List (List Pg.D)} (ht : t ∈ progs raw) : t.length ≤ 3 ∧ ∀ l ∈ t, l ≠ [] ∧ l.length ≤ 6 ∧ ∀ d ∈ l, ∃ d0, d = fit d0 := by
  unfold progs at ht
  split at ht
  · simp at ht; subst ht; exact ⟨by simp, fun l hl => by cases hl⟩
  · unfold fitT at ht
    obtain ⟨t0, _, rfl⟩ := List.mem_map.1 ht
    refine ⟨?_, fun l hl => mem_fitB rfl hl⟩
    have := fitBn_len t0 3
    exact this
theorem progs_len (raw : List (List (List Pg.D))) : 1 ≤ (progs raw).length ∧ (progs raw).length ≤ 4 := by
  unfold progs
  split
  · simp
  · unfold fitT
    cases raw with
    | nil => rename_i h; simp at h
    | cons x l => simp; omega
theorem prg_of {raw : List (List (List Pg.D))} {t : List (List Pg.D)} (ht : t ∈ progs raw) : Us.Prg (vs t) := by
  intro ds hds
  obtain ⟨l, hl, rfl⟩ := List.mem_map.1 hds
  obtain ⟨_, h6, hf⟩ := (mem_progs ht).2 l hl
  refine ⟨by simp; omega, fun d hd => ?_⟩
  obtain ⟨p, hp, rfl⟩ := List.mem_map.1 hd
  obtain ⟨d0, rfl⟩ := hf p hp
  obtain ⟨a, b, _⟩ := fit_v d0
  exact ⟨a, by rw [b]; exact fit_right d0⟩
theorem dds_of {w : World} {v : Value} {l : List Pg.D} (h : DeedsAt w v l) (hp : ∀ d ∈ l, 0 ≤ d.a ∧ 0 ≤ d.b) : DdsAt w v (l.map toV) := by
  obtain ⟨a, c, rfl, _, ho⟩ := h.opened
  refine ⟨a, c, by rw [List.length_map], fun m d hm => ?_⟩
  rw [List.getElem?_map] at hm
  obtain ⟨p, hp1, rfl⟩ := Option.map_eq_some_iff.1 hm
  obtain ⟨b, off, rfl, c0, c1, c2, c3, c4⟩ := ho m p hp1
  obtain ⟨p1, p2⟩ := hp p (List.mem_of_getElem? hp1)
  refine ⟨b, off, rfl, c0, ?_, ?_, c3, c4⟩
  · rw [c1]; show _ = some (Value.int .i64 (p.a.toNat : Int)); rw [Int.toNat_of_nonneg p1]
  · rw [c2]; show _ = some (Value.int .i64 (p.b.toNat : Int)); rw [Int.toNat_of_nonneg p2]
theorem blks_of {w : World} {v : Value} {t : List (List Pg.D)} (h : BlocksAt w v t) (hp : ∀ l ∈ t, ∀ d ∈ l, 0 ≤ d.a ∧ 0 ≤ d.b) : BlksAt w v (vs t) := by
  obtain ⟨a, c, rfl, _, ho⟩ := h.opened
  refine ⟨a, c, by unfold vs; rw [List.length_map], fun m d hm => ?_⟩
  unfold vs at hm
  rw [List.getElem?_map] at hm
  obtain ⟨p, hp1, rfl⟩ := Option.map_eq_some_iff.1 hm
  obtain ⟨b, off, u, rfl, hc, hd⟩ := ho m p hp1
  exact ⟨b, off, rfl, u, hc, dds_of hd (hp p (List.mem_of_getElem? hp1))⟩
theorem progs_ge {raw : List (List (List Pg.D))} {t : List (List Pg.D)} (ht : t ∈ progs raw) : ∀ l ∈ t, ∀ d ∈ l, 0 ≤ d.a ∧ 0 ≤ d.b := fun l hl d hd => by
  obtain ⟨_, _, hf⟩ := (mem_progs ht).2 l hl
  obtain ⟨d0, rfl⟩ := hf d hd
  exact (fit_v d0).2.2
/-! ### a thread's steps -/
def Th0 : ThV := ⟨0, 0, ⟨0, 0, 0, 0, 0, 0⟩, ⟨0, 0, 0, 0, 0, 0⟩, false⟩
def It (S0 : Stt) (l : List (List DeedV)) : Nat → TR
  | 0 => ⟨S0, Th0, ⟨0, 0, 0⟩⟩
  | k + 1 => (It S0 l k).S.tstep 0 l (It S0 l k).h
theorem ti_fresh {n r u M : Nat} (hI : Inv (Stt.fresh n 1 r u M)) : Us.TI r u M 0 (Stt.fresh n 1 r u M) 0 Th0 := by
  have z : ∀ {S : Stt}, Rgs S ⟨0, 0, 0, 0, 0, 0⟩ := fun {S} j hj => ⟨0, by obtain rfl | rfl | rfl | rfl | rfl | rfl := six hj <;> rfl, .inl rfl⟩
  exact ⟨hI, by show 0 < (List.replicate 1 _).length; simp, rfl, rfl, rfl, rfl, ⟨Nat.le_refl _, Nat.le_refl _, Nat.le_refl _, Nat.le_refl _⟩, z, z, Nat.le_refl _, Nat.le_refl _, ⟨by decide, by decide⟩, ⟨by decide, by decide⟩⟩
theorem ti_it {R U M : Nat} {S0 : Stt} {l : List (List DeedV)} (t : Us.TI R U M 0 S0 0 Th0) (hR : 15 ≤ R) (hU : 15 ≤ U) (hp : Us.Prg l) : ∀ k, k ≤ 1000 → k + 8 ≤ M → Us.TI R U M k (It S0 l k).S 0 (It S0 l k).h
  | 0, _, _ => t
  | k + 1, h1, h2 => (ti_it t hR hU hp k (by omega) (by omega)).step hR hU (by omega) (by omega) hp
/-- A number that no block bears. -/
theorem fresh_id (o : Own) : ∀ n : Nat, ∃ id, 20 ≤ id ∧ ∀ b, b < n → (o b).1 < id
  | 0 => ⟨20, Nat.le_refl _, fun b hb => by omega⟩
  | n + 1 => by
    obtain ⟨id, h1, h2⟩ := fresh_id o n
    refine ⟨id + (o n).1 + 1, by omega, fun b hb => ?_⟩
    by_cases h : b < n
    · have := h2 b h; omega
    · rw [show b = n from by omega]; omega
theorem pick16_any (c n : Int) (w : World) (hn : 0 < n) (hn2 : n ≤ 100000000000) (hc : Z64 c) :
    Calls Tryz.prog 34 #[.int .i64 c, .int .i64 n] w fun e w' => e = .returned (.int .i64 (pkz c n)) ∧ w = w' := by
  obtain ⟨hc1, hc2⟩ := hc
  rcases Int.lt_or_le c 0 with h | h
  · have e : pkz c n = -(c + 1).tmod n := by
      unfold pkz; rw [if_pos h, ← Int.neg_tmod, Int.tmod_eq_emod_of_nonneg (by omega)]
    rw [e]; clear e
    go_enter Tryz.func34, Tryz.ntmps34
    go_wp2
    go_ret
    exact ⟨rfl, rfl⟩
  · have e : pkz c n = c % n := by unfold pkz; rw [if_neg (by omega)]
    rw [e]; clear e
    go_enter Tryz.func34, Tryz.ntmps34
    go_wp2
    go_ret
    exact ⟨rfl, rfl⟩
end Go.Proofs.YtemohiainfllcaaGreat
