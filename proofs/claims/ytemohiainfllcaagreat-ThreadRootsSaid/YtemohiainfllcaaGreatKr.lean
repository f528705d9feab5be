/- The laws' deeds of chapter 14, walked: Shape. -/
import Derived.Test.YtemohiainfllcaaGreatKk
import Derived.Test.YtemohiainfllcaaGreatKp
import Derived.Test.YtemohiainfllcaaGreatKi
namespace Go.Proofs.YtemohiainfllcaaGreat
open Go.RowKit Hp
attribute [local go_sem ↓] Go.wp_at_zero Go.wp_at_succ
theorem pick14_q (c : Int) (hc : -9223372036854775808 ≤ c ∧ c ≤ 9223372036854775807) (n : Nat) (h1 : 1 ≤ n) (h2 : n ≤ 100) (w : World) :
    Calls Tryz.prog 15 #[.int .i64 c, .int .i64 n] w fun e w' => e = .returned (.int .i64 (pk c n)) ∧ w' = w :=
  (pick14_any c hc n h1 h2 w).mono fun _ _ h => ⟨h.1, h.2.symm⟩
def OpV.v (d : OpV) : Value := .agg #[.int .i64 d.k, .int .i64 d.t, .int .i64 d.a, .int .i64 d.b, .int .i64 d.i, .int .i64 d.n, .int .i64 d.s0, .int .i64 d.s1, .int .i64 d.s2]
def OpV.shp (d : OpV) : Shp := ⟨1 + pk d.s0 2, 1 + pk d.s1 2, false, pk d.s2 4 == 3⟩
set_option maxRecDepth 100000 in
set_option maxHeartbeats 1000000 in
theorem shape14_any (d : OpV) (hd : d.ok) (w : World) :
    Calls Tryz.prog 65 #[d.v] w fun e w' => e = .returned (shpV d.shp) ∧ Below w.heap.size w w' := by
  have P0 := Lib.hid (fun w => pick14_q d.s0 (hd 6) 2 (by omega) (by omega) w)
  have P1 := Lib.hid (fun w => pick14_q d.s1 (hd 7) 2 (by omega) (by omega) w)
  have P2 := Lib.hid (fun w => pick14_q d.s2 (hd 8) 4 (by omega) (by omega) w)
  have l0 := pk_lt d.s0 (show 1 ≤ 2 by omega)
  have l1 := pk_lt d.s1 (show 1 ≤ 2 by omega)
  have l2 := pk_lt d.s2 (show 1 ≤ 4 by omega)
  have e0 : d.shp = ⟨1 + pk d.s0 2, 1 + pk d.s1 2, false, pk d.s2 4 == 3⟩ := rfl
  rw [e0]
  have e1 : d.v = .agg #[.int .i64 d.k, .int .i64 d.t, .int .i64 d.a, .int .i64 d.b, .int .i64 d.i, .int .i64 d.n, .int .i64 d.s0, .int .i64 d.s1, .int .i64 d.s2] := rfl
  rw [e1]
  generalize pk d.s0 2 = p at *
  generalize pk d.s1 2 = q at *
  generalize pk d.s2 4 = r at *
  have pI : (p : Int) < 2 := by omega
  have qI : (q : Int) < 2 := by omega
  have rI : (r : Int) < 4 := by omega
  clear e0 e1 hd
  obtain ⟨dk, dt, da, db, di, dn, s0, s1, s2⟩ := d
  simp only at P0 P1 P2 ⊢
  go_enter Tryz.func65, Tryz.ntmps65
  go_upto_region 1 with fail
  obtain ⟨W, hW⟩ : ∃ W : World, W = (w.alloc (.cells #[.int .i64 dk, .int .i64 dt, .int .i64 da, .int .i64 db, .int .i64 di, .int .i64 dn, .int .i64 s0, .int .i64 s1, .int .i64 s2] 39)).alloc (.cells #[.int .i64 0, .int .i64 0, .bool false, .bool false] 80) := ⟨_, rfl⟩
  rw [← hW]
  have hbW : Below w.heap.size w W := by rw [hW]; exact balloc (balloc (bsame w) _) _
  have j1 : Blk W w.heap.size #[.int .i64 dk, .int .i64 dt, .int .i64 da, .int .i64 db, .int .i64 di, .int .i64 dn, .int .i64 s0, .int .i64 s1, .int .i64 s2] 39 := by rw [hW]; exact (Blk.new w _ _).alloc _
  have j2 : Blk W (w.heap.size + 1) #[.int .i64 0, .int .i64 0, .bool false, .bool false] 80 := by rw [hW]; exact Blk.new_at _ _ _ _ _ (by simp) rfl
  clear hW
  have c1 := j1.cell
  have c2 := j2.cell
  have z2 := j2.free
  have s2' := j2.lt
  go_still_tail 16, (by kernel_rfl)
  still_call (P0.out _)
  repeat still_step
  still_call (P1.out _)
  repeat still_step
  still_call (P2.out _)
  repeat still_step
  refine wpStill_nil ?_
  change wpList _ _ _ _ _ W.drew
  go_wp2_with fail
  have j3 := ((((j2.set 0 (.int .i64 (1 + (p : Int)))).set 1 (.int .i64 (1 + (q : Int)))).set 2 (.bool false)).set 3 (.bool ((r : Int) == 3)))
  have hr : ((r : Int) == 3) = (r == 3) := by rw [Bool.eq_iff_iff, beq_iff_eq, beq_iff_eq]; omega
  have hfin : Below w.heap.size w ((((W.setCell ⟨w.heap.size + 1, 0, none⟩ (.int .i64 (1 + (p : Int)))).setCell ⟨w.heap.size + 1, 1, none⟩ (.int .i64 (1 + (q : Int)))).setCell ⟨w.heap.size + 1, 2, none⟩ (.bool false)).setCell ⟨w.heap.size + 1, 3, none⟩ (.bool ((r : Int) == 3))) :=
    bset (bset (bset (bset hbW (by simp) _) (by simp) _) (by simp) _) (by simp) _
  generalize (((W.setCell ⟨w.heap.size + 1, 0, none⟩ (.int .i64 (1 + (p : Int)))).setCell ⟨w.heap.size + 1, 1, none⟩ (.int .i64 (1 + (q : Int)))).setCell ⟨w.heap.size + 1, 2, none⟩ (.bool false)).setCell ⟨w.heap.size + 1, 3, none⟩ (.bool ((r : Int) == 3)) = X at *
  have c3 : ∀ i, X.drew.cell? ⟨w.heap.size + 1, i, none⟩ = _ := j3.cell
  refine bodyPost_ret (v := shpV ⟨1 + p, 1 + q, false, r == 3⟩) ?_ rfl ⟨rfl, bdrew hfin⟩
  simp [results, Tryz.results65, go_sem, c3, shpV, hr]
end Go.Proofs.YtemohiainfllcaaGreat

/- A deed of a transaction that is not live: it is refused. -/
namespace Go.Proofs.YtemohiainfllcaaGreat
open Go.RowKit Hp
attribute [local go_sem ↓] Go.wp_at_zero Go.wp_at_succ
section
variable {w w' : World} {o o' : Own} {y : SLay} {S : Stt} {x : Tx} {i : Nat}
set_option maxRecDepth 100000 in
theorem deed_dead (f : Value) (h : StIn w o y S) (hk : S.ok) (hx : S.txs[i]? = some x) (hl : x.live = false) :
    Calls Tryz.prog 45 #[ptr y.sb, .int .i64 i, f] w fun e w' => e = .returned (.tuple #[.int .i64 0, .int .i64 140]) ∧ Below w.heap.size w w' := by
  have HR := Lib.hid (fun w' (hw : Below w.heap.size w w') => running_in (h.below hw) hk hx)
  rw [hl] at HR
  simp only [Bool.false_eq_true, if_false] at HR
  clear h hk hx
  go_enter_defers Tryz.func45, Tryz.ntmps45
  go_wp2_with fail
  obtain ⟨W, hW⟩ : ∃ W : World, W = ((w.alloc (.cells #[ptr y.sb] 23)).alloc (.cells #[.int .i64 0] 3)).alloc (.cells #[.int .i64 0] 27) := ⟨_, rfl⟩
  rw [← hW]
  have hbW : Below w.heap.size w W := by rw [hW]; exact balloc (balloc (balloc (bsame w) _) _) _
  have hzW : W.heap.size = w.heap.size + 3 := by rw [hW]; simp
  have jV : Blk W (w.heap.size + 1) #[.int .i64 0] 3 := by rw [hW]; exact (Blk.new_at _ _ _ _ _ (by simp) rfl).alloc _
  have jE : Blk W (w.heap.size + 1 + 1) #[.int .i64 0] 27 := by rw [hW]; exact Blk.new_at _ _ _ _ _ (by simp) rfl
  clear hW
  refine (HR.out _ hbW).mono ?_
  rintro e w1 ⟨rfl, rfl⟩
  have cV := jV.cell
  have zV := jV.free
  have sV := jV.lt
  have cE := jE.cell
  have zE := jE.free
  have sE := jE.lt
  go_wp2_with fail
  have jV3 := (((jV.set 0 (.int .i64 0)).set_other (a := ⟨w.heap.size + 1 + 1, 0, none⟩) (by simp) (.int .i64 140)).alloc (.cells #[.pointer none] 81))
  have jE3 := (((jE.set_other (a := ⟨w.heap.size + 1, 0, none⟩) (by simp) (.int .i64 0)).set 0 (.int .i64 140)).alloc (.cells #[.pointer none] 81))
  have hfin : Below w.heap.size w (((W.setCell ⟨w.heap.size + 1, 0, none⟩ (.int .i64 0)).setCell ⟨w.heap.size + 1 + 1, 0, none⟩ (.int .i64 140)).alloc (.cells #[.pointer none] 81)) :=
    balloc (bset (bset hbW (by simp) _) (by simp; omega) _) _
  generalize ((W.setCell ⟨w.heap.size + 1, 0, none⟩ (.int .i64 0)).setCell ⟨w.heap.size + 1 + 1, 0, none⟩ (.int .i64 140)).alloc (.cells #[.pointer none] 81) = X at *
  have cV3 := jV3.cell 0
  have cE3 := jE3.cell 0
  simp at cV3 cE3
  simp only [bodyPostD, Leaves]
  exact ⟨.tuple #[.int .i64 0, .int .i64 140], by simp [results, Tryz.results45, go_sem, cV3, cE3], rfl, hfin⟩
/-- A commit of a transaction that is not live. -/
theorem c_commit_dead (h : StIn w o y S) (hI : Inv S) (hi : i < S.txs.length) (hl : (S.t i).live = false) :
    Calls Tryz.prog 18 #[ptr y.sb, .int .i64 i] w fun e w' => e = .returned (.tuple #[.int .i64 0, .int .i64 140]) ∧ Left y S o w w' := by
  have hmf : ∀ (fn : Fn) (first cap : Array Value) (w : World), (Instr.makeFunc fn first cap).run Tryz.prog w = .ok (.func fn first cap) w := fun _ _ _ _ => rfl
  have HD := Lib.hid (fun W (hW : Below w.heap.size w W) (f : Value) => deed_dead f (h.below hW) hI.ok (Stt.t_get hi) hl)
  have hfin : ∀ W, Below w.heap.size w W → Left y S o w W := fun W hW => ⟨o, h.below hW, hI, Stp.of_below hW⟩
  have HF := Lib.hid hfin
  clear h hI hi hl hfin
  go_enter Tryz.func18, Tryz.ntmps18
  go_wp2_with fail
  refine (HD.out _ (balloc (bsame w) _) _).mono ?_
  rintro e w2 ⟨rfl, hb⟩
  go_wp2_with fail
  go_ret2
  exact ⟨rfl, HF.out _ (btrans (balloc (bsame w) _) hb)⟩
end
end Go.Proofs.YtemohiainfllcaaGreat

/- What each call leaves alone, in plain Lean. -/
namespace Go.Proofs.YtemohiainfllcaaGreat
open Hp
structure Lgs (k : Nat) (a b : Lg) : Prop where
  mr : b.mr = a.mr
  mu : b.mu = a.mu
  r : b.reads.length ≤ a.reads.length + k
  e : b.keeps.length ≤ a.keeps.length + k
  h : b.holds.length ≤ a.holds.length + k
  u : b.undos.length ≤ a.undos.length + k
/-- From one store to another one, by what thread i did. -/
structure Mvs (k m i : Nat) (S S' : Stt) : Prop where
  len : S'.txs.length = S.txs.length
  oth : ∀ j, j ≠ i → S'.t j = S.t j
  lg : Lgs k (S.t i).log (S'.t i).log
  ser : S'.H.serial ≤ S.H.serial + k
  top : S'.H.top ≤ S.H.top + 8 * k
  size : S'.H.size = S.H.size
  shp : ∀ p ob, lk S.H.cur p = some ob → ∃ ob', lk S'.H.cur p = some ob' ∧ ob'.shp = ob.shp
  most : S'.most = S.most
  now : S'.now ≤ S.now + m
  hol : S'.holder = S.holder ∨ S'.holder = -1 ∨ S'.holder = (i : Int)
  hol2 : (S'.t i).live = false → S'.holder = (i : Int) → (S.t i).live = false ∧ S.holder = (i : Int)
/-- What a transaction that goes on alone keeps. -/
structure Kp (i : Nat) (S S' : Stt) : Prop where
  live : (S'.t i).live = (S.t i).live
  start : (S'.t i).start = (S.t i).start
  now : S'.now = S.now
theorem Lgs.refl (k : Nat) (a : Lg) : Lgs k a a := ⟨rfl, rfl, by omega, by omega, by omega, by omega⟩
theorem Lgs.trans {k m : Nat} {a b c : Lg} (h : Lgs k a b) (g : Lgs m b c) : Lgs (k + m) a c :=
  ⟨g.mr.trans h.mr, g.mu.trans h.mu, by have := h.r; have := g.r; omega, by have := h.e; have := g.e; omega, by have := h.h; have := g.h; omega, by have := h.u; have := g.u; omega⟩
theorem Mvs.refl (k m i : Nat) (S : Stt) : Mvs k m i S S :=
  ⟨rfl, fun _ _ => rfl, Lgs.refl _ _, by omega, by omega, rfl, fun _ ob h => ⟨ob, h, rfl⟩, rfl, by omega, .inl rfl, fun a b => ⟨a, b⟩⟩
theorem Mvs.trans {k m k' m' i : Nat} {A B C : Stt} (h : Mvs k m i A B) (g : Mvs k' m' i B C) : Mvs (k + k') (m + m') i A C := by
  refine ⟨g.len.trans h.len, fun j hj => (g.oth j hj).trans (h.oth j hj), h.lg.trans g.lg, by have := h.ser; have := g.ser; omega, by have := h.top; have := g.top; omega, g.size.trans h.size, fun p ob ho => ?_, g.most.trans h.most, by have := h.now; have := g.now; omega, ?_, fun a b => ?_⟩
  · obtain ⟨o1, h1, h2⟩ := h.shp p ob ho
    obtain ⟨o2, h3, h4⟩ := g.shp p o1 h1
    exact ⟨o2, h3, h4.trans h2⟩
  · rcases g.hol with e | e | e
    · rw [e]; exact h.hol
    · exact .inr (.inl e)
    · exact .inr (.inr e)
  · obtain ⟨a1, b1⟩ := g.hol2 a b
    exact h.hol2 a1 b1
theorem Kp.refl (i : Nat) (S : Stt) : Kp i S S := ⟨rfl, rfl, rfl⟩
theorem Kp.trans {i : Nat} {A B C : Stt} (h : Kp i A B) (g : Kp i B C) : Kp i A C := ⟨g.live.trans h.live, g.start.trans h.start, g.now.trans h.now⟩
theorem tx_t {S : Stt} {i : Nat} (hi : i < S.txs.length) (x : Tx) (j : Nat) : (S.tx i x).t j = if j = i then x else S.t j := by
  show (S.txs.set i x).getD j _ = _
  rw [List.getD_eq_getElem?_getD]
  split
  · rename_i e; subst e; rw [List.getElem?_set_self hi]; rfl
  · rename_i e; rw [List.getElem?_set_ne (fun h => e h.symm)]; unfold Stt.t; rw [List.getD_eq_getElem?_getD]
theorem set_t {S : Stt} {i : Nat} (hi : i < S.txs.length) (x : Tx) (j : Nat) (H : Hp) (n m : Nat) (h : Int) (v : Nat) : Stt.t ⟨H, n, m, S.txs.set i x, h, v⟩ j = if j = i then x else S.t j := tx_t hi x j
variable {S : Stt} {i k : Nat}
/-- Thread i's transaction was made another one, and nothing else. -/
theorem Mvs.tx (hi : i < S.txs.length) {x : Tx} (hl : Lgs k (S.t i).log x.log) (h2 : x.live = false → S.holder = (i : Int) → (S.t i).live = false) : Mvs k 0 i S (S.tx i x) := by
  refine ⟨List.length_set .., fun j hj => by rw [tx_t hi, if_neg hj], by rw [tx_t hi, if_pos rfl]; exact hl, Nat.le_add_right .., Nat.le_add_right .., rfl, fun _ ob h => ⟨ob, h, rfl⟩, rfl, Nat.le_add_right .., .inl rfl, fun a b => ?_⟩
  rw [tx_t hi, if_pos rfl] at a
  exact ⟨h2 a b, b⟩
theorem Kp.tx (hi : i < S.txs.length) {x : Tx} (h1 : x.live = (S.t i).live) (h2 : x.start = (S.t i).start) : Kp i S (S.tx i x) := by
  refine ⟨?_, ?_, rfl⟩
  · rw [tx_t hi, if_pos rfl]; exact h1
  · rw [tx_t hi, if_pos rfl]; exact h2
/-- The heap's objects were made others of the same shapes. -/
theorem Mvs.cur (l : List (Nat × Ob)) (h : SameK S.H.cur l) : Mvs k 0 i S (S.cur' l) :=
  ⟨rfl, fun _ _ => rfl, Lgs.refl _ _, Nat.le_add_right .., Nat.le_add_right .., rfl, fun _ _ ho => h.some ho, rfl, Nat.le_add_right .., .inl rfl, fun a b => ⟨a, b⟩⟩
theorem Mvs.at' {p : Nat} {ob ob' : Ob} (h : lk S.H.cur p = some ob) (hs : ob'.shp = ob.shp) : Mvs k 0 i S (S.at' p ob') := Mvs.cur _ (SameK.up h hs)
theorem Kp.cur (l : List (Nat × Ob)) : Kp i S (S.cur' l) := ⟨rfl, rfl, rfl⟩
theorem Lgs.read (x : Tx) (p : Nat) : Lgs 1 x.log (x.read p).log := by
  refine ⟨rfl, rfl, ?_, Nat.le_add_right .., Nat.le_add_right .., Nat.le_add_right ..⟩
  show (noteL x.log.reads p x.log.mr).length ≤ _
  unfold noteL; split
  · omega
  · split
    · simp
    · omega
theorem Lgs.change (x : Tx) (p : Nat) (ob : Ob) (u : Un) : Lgs 1 x.log (((x.read p).hold1 p ob).undo u).log := by
  have h := Lgs.read x p
  have h1 : ((x.read p).hold1 p ob).log.holds.length ≤ (x.read p).log.holds.length + 1 ∧ ((x.read p).hold1 p ob).log.mr = (x.read p).log.mr ∧ ((x.read p).hold1 p ob).log.mu = (x.read p).log.mu ∧ ((x.read p).hold1 p ob).log.reads = (x.read p).log.reads ∧ ((x.read p).hold1 p ob).log.keeps = (x.read p).log.keeps ∧ ((x.read p).hold1 p ob).log.undos = (x.read p).log.undos := by
    unfold Tx.hold1; split
    · exact ⟨by omega, rfl, rfl, rfl, rfl, rfl⟩
    · exact ⟨by show (_ ++ [_] : List (Nat × Nat)).length ≤ _; simp, rfl, rfl, rfl, rfl, rfl⟩
  obtain ⟨a1, a2, a3, a4, a5, a6⟩ := h1
  refine ⟨a2.trans h.mr, a3.trans h.mu, ?_, ?_, ?_, ?_⟩
  · show ((x.read p).hold1 p ob).log.reads.length ≤ _; rw [a4]; exact h.r
  · show ((x.read p).hold1 p ob).log.keeps.length ≤ _; rw [a5]; exact h.e
  · show ((x.read p).hold1 p ob).log.holds.length ≤ _; exact a1
  · show (((x.read p).hold1 p ob).log.undos ++ [u]).length ≤ _
    rw [a6]
    show (x.log.undos ++ [u]).length ≤ _
    simp
theorem chg_live (x : Tx) (p : Nat) (ob : Ob) (u : Un) : (((x.read p).hold1 p ob).undo u).live = x.live ∧ (((x.read p).hold1 p ob).undo u).start = x.start := by
  constructor
  · show ((x.read p).hold1 p ob).live = _; unfold Tx.hold1; split <;> rfl
  · show ((x.read p).hold1 p ob).start = _; unfold Tx.hold1; split <;> rfl
/-- One word more in a log, one object turned. -/
def Chg (i : Nat) (S S' : Stt) : Prop := S' = S ∨ (∃ p, S' = S.tx i ((S.t i).read p)) ∨ ∃ p ob ob' u, lk S.H.cur p = some ob ∧ ob'.shp = ob.shp ∧ S' = (S.tx i ((((S.t i).read p).hold1 p ob).undo u)).at' p ob'
theorem Chg.mv {S' : Stt} (hi : i < S.txs.length) (hl : (S.t i).live = true) (h : Chg i S S') : Mvs 1 0 i S S' ∧ Kp i S S' := by
  rcases h with rfl | ⟨p, rfl⟩ | ⟨p, ob, ob', u, h1, h2, rfl⟩
  · exact ⟨Mvs.refl _ _ _ _, Kp.refl _ _⟩
  · exact ⟨Mvs.tx hi (Lgs.read _ p) (fun a _ => by rw [show ((S.t i).read p).live = (S.t i).live from rfl, hl] at a; cases a), Kp.tx hi rfl rfl⟩
  · obtain ⟨a1, a2⟩ := chg_live (S.t i) p ob u
    have g1 : Mvs 1 0 i S (S.tx i ((((S.t i).read p).hold1 p ob).undo u)) := Mvs.tx hi (Lgs.change _ p ob u) (fun a _ => by rw [a1, hl] at a; cases a)
    have g2 : Mvs 0 0 i (S.tx i ((((S.t i).read p).hold1 p ob).undo u)) ((S.tx i ((((S.t i).read p).hold1 p ob).undo u)).at' p ob') := Mvs.at' h1 h2
    exact ⟨g1.trans g2, (Kp.tx hi a1 a2).trans (Kp.cur _)⟩
theorem lookR_chg (p : Nat) : Chg i S (S.lookR i (S.t i) p).1 := by
  unfold Stt.lookR
  split
  · exact .inl rfl
  · split
    · exact .inl rfl
    · split
      · exact .inl rfl
      · exact .inr (.inl ⟨p, rfl⟩)
theorem fieldsR_chg (p : Nat) : Chg i S (S.fieldsR i (S.t i) p).1 := lookR_chg p
theorem readR_chg (p j : Nat) : Chg i S (S.readR i (S.t i) p j).S := by
  unfold Stt.readR; split
  · exact fieldsR_chg p
  · split <;> exact fieldsR_chg p
theorem getR_chg (p j : Nat) : Chg i S (S.getR i (S.t i) p j).S := by
  unfold Stt.getR; split
  · exact fieldsR_chg p
  · split <;> exact fieldsR_chg p
theorem writeR_chg (p j : Nat) (v : Int) : Chg i S (S.writeR i (S.t i) p j v).S := by
  unfold Stt.writeR; split
  · exact fieldsR_chg p
  · split
    · exact fieldsR_chg p
    · rename_i ob hob
      split
      · exact fieldsR_chg p
      · exact .inr (.inr ⟨p, ob, (ob.held i).setNum j v, _, hob, Ob.held_shp ob i, rfl⟩)
theorem putR_chg (p j q : Nat) : Chg i S (S.putR i (S.t i) p j q).S := by
  unfold Stt.putR; split
  · exact fieldsR_chg p
  · split
    · exact fieldsR_chg p
    · rename_i ob hob
      split
      · exact fieldsR_chg p
      · exact .inr (.inr ⟨p, ob, (ob.held i).setPtr j q, _, hob, Ob.held_shp ob i, rfl⟩)
theorem freeR_chg (p : Nat) : Chg i S (S.freeR i (S.t i) p).S := by
  unfold Stt.freeR; split
  · exact lookR_chg p
  · split
    · exact lookR_chg p
    · rename_i ob hob
      exact .inr (.inr ⟨p, ob, (ob.held i).setFreed true, _, hob, Ob.held_shp ob i, rfl⟩)
theorem aborted_mv (hi : i < S.txs.length) : Mvs 0 0 i S (S.abort i) := by
  have hx := Stt.t_get hi
  unfold Stt.abort
  rw [hx]
  simp only
  unfold Stt.aborted
  have hsk : SameK S.H.cur (relL (undoL S.H.cur (S.t i).log.undos) (S.t i).log.holds) := (undoL_same _ _).trans (relL_same _ _)
  refine ⟨List.length_set .., fun j hj => by rw [set_t hi, if_neg hj], ?_, Nat.le_refl _, Nat.le_refl _, rfl, fun _ _ h => hsk.some h, rfl, Nat.le_refl _, ?_, fun _ b => ?_⟩
  · rw [set_t hi, if_pos rfl]
    exact ⟨rfl, rfl, Nat.zero_le _, Nat.zero_le _, Nat.zero_le _, Nat.zero_le _⟩
  · show (if S.holder = (i : Int) then (-1 : Int) else S.holder) = _ ∨ _
    split
    · exact .inr (.inl rfl)
    · exact .inl rfl
  · exfalso
    have b : (if S.holder = (i : Int) then (-1 : Int) else S.holder) = (i : Int) := b
    split at b
    · omega
    · contradiction
theorem fin_mv {r : Res} (hi : i < S.txs.length) {m : Nat} (h : Mvs k m i S r.S) : Mvs k m i S (r.fin i).S := by
  unfold Res.fin; split
  · exact h.trans (aborted_mv (by rw [h.len]; exact hi))
  · split <;> exact h
theorem fin_ok {r : Res} (h : r.e = 0 ∨ r.e = 142) : (r.fin i).S = r.S ∧ (r.fin i).e = r.e := by
  unfold Res.fin
  rcases h with h | h
  · rw [h]; exact ⟨rfl, h⟩
  · rw [h]; exact ⟨rfl, rfl⟩
theorem take_mv (hl : (S.t i).live = true) : Mvs 0 0 i S (S.takeR i (S.t i)).S ∧ Kp i S (S.takeR i (S.t i)).S := by
  unfold Stt.takeR; split
  · exact ⟨⟨rfl, fun _ _ => rfl, Lgs.refl _ _, Nat.le_refl _, Nat.le_refl _, rfl, fun _ ob h => ⟨ob, h, rfl⟩, rfl, Nat.le_refl _, .inr (.inr rfl), fun a _ => by
      have a : (S.t i).live = false := a
      rw [hl] at a; cases a⟩, rfl, rfl, rfl⟩
  · exact ⟨Mvs.refl _ _ _ _, Kp.refl _ _⟩
theorem laid_mv (hk : S.ok) (hi : i < S.txs.length) (hl : (S.t i).live = true) (s : Shp) (hs : rnd (3 + s.p + s.d) ≤ 8) : Mvs 1 0 i S (S.laid i (S.t i) s) ∧ Kp i S (S.laid i (S.t i) s) := by
  have e1 : ∀ j, (S.laid i (S.t i) s).t j = if j = i then (S.t i).holding S.H.top 0 else S.t j := fun j => set_t hi _ _ _ _ _ _ _
  refine ⟨⟨List.length_set .., fun j hj => by rw [e1, if_neg hj], ?_, Nat.le_refl _, by show S.H.top + rnd (3 + s.p + s.d) ≤ _; omega, rfl, fun p ob h => ?_, rfl, Nat.le_add_right .., .inl rfl, fun a _ => ?_⟩, ?_, ?_, rfl⟩
  · rw [e1, if_pos rfl]
    exact ⟨rfl, rfl, Nat.le_add_right .., Nat.le_add_right .., by show (_ ++ [_] : List (Nat × Nat)).length ≤ _; simp, Nat.le_add_right ..⟩
  · refine ⟨ob, ?_, rfl⟩
    rw [lk_laid hk, if_neg]
    · exact h
    · intro e; rw [e, lk_top hk.F.ok] at h; cases h
  · rw [e1, if_pos rfl] at a
    rw [show ((S.t i).holding S.H.top 0).live = (S.t i).live from rfl, hl] at a; cases a
  · rw [e1, if_pos rfl]; rfl
  · rw [e1, if_pos rfl]; rfl
theorem commit_mv (hi : i < S.txs.length) : Mvs 0 1 i S (S.commitR i (S.t i)).S := by
  have hend : Lgs 0 (S.t i).log (S.t i).ended.log := ⟨rfl, rfl, Nat.zero_le _, Nat.zero_le _, Nat.zero_le _, Nat.zero_le _⟩
  unfold Stt.commitR; split
  · rename_i hh
    exact (Mvs.tx hi hend (fun _ b => absurd b hh.2)).trans (Mvs.refl 0 1 i _)
  · split
    · exact Mvs.refl _ _ _ _
    · unfold Stt.committed
      refine ⟨List.length_set .., fun j hj => by rw [set_t hi, if_neg hj], by rw [set_t hi, if_pos rfl]; exact hend, Nat.le_add_right .., Nat.le_add_right .., rfl, fun _ _ h => (comL_same _ _ _).some h, rfl, Nat.le_refl _, ?_, fun _ b => ?_⟩
      · show (if S.holder = (i : Int) then (-1 : Int) else S.holder) = _ ∨ _
        split
        · exact .inr (.inl rfl)
        · exact .inl rfl
      · exfalso
        have b : (if S.holder = (i : Int) then (-1 : Int) else S.holder) = (i : Int) := b
        split at b
        · omega
        · contradiction
theorem begin_mv (hi : i < S.txs.length) : Mvs 0 0 i S (S.begin i) ∧ ((S.begin i).t i).live = true := by
  unfold Stt.begin
  split
  · rename_i h; exact ⟨Mvs.refl _ _ _ _, h⟩
  · exact ⟨Mvs.tx hi (Lgs.refl _ _) (fun a _ => by cases a), by rw [tx_t hi, if_pos rfl]; rfl⟩
end Go.Proofs.YtemohiainfllcaaGreat

/- A transaction that goes on alone, in plain Lean. -/
namespace Go.Proofs.YtemohiainfllcaaGreat
open Hp
/-- What a raw op comes to. -/
def Stt.deed14 (S : Stt) (i : Nat) (d : OpV) : Res :=
  if pk d.k 8 = 0 ∨ pk d.k 8 = 1 then S.read i (Yd.pl (pk d.b 4)) (pk d.i 2)
  else if pk d.k 8 = 2 ∨ pk d.k 8 = 3 then S.write i (Yd.pl (pk d.b 4)) (pk d.i 2) d.n
  else if pk d.k 8 = 4 then S.put i (Yd.pl (pk d.b 4)) (pk d.i 2) (Yd.pl (pk d.a 4))
  else if pk d.k 8 = 5 then (if pk d.n 3 = 0 then S.free i (Yd.pl (pk d.b 4)) else S.get i (Yd.pl (pk d.b 4)) 0)
  else if pk d.k 8 = 6 then (if (S.alloc i d.shp).e = 0 then (S.alloc i d.shp).S.put i (Yd.pl (pk d.b 4)) 1 (S.alloc i d.shp).v.toNat else S.alloc i d.shp)
  else S.take i
/-- What a deed asks of a store. -/
structure Deedy (S : Stt) (i : Nat) (d : OpV) : Prop where
  chk : S.chk i = true
  plc : ∀ k, k < 4 → Plc S (Yd.pl k)
  ser : S.H.serial < 1099511627776
  nx : (S.alloc i d.shp).e = 0 → (S.alloc i d.shp).S.chk i = true ∧ (∀ k, k < 4 → Plc (S.alloc i d.shp).S (Yd.pl k)) ∧ Plc (S.alloc i d.shp).S (S.alloc i d.shp).v.toNat ∧ 0 ≤ (S.alloc i d.shp).v
namespace Ap
structure Lb (m : Nat) (L : Lg) : Prop where
  mr : L.mr = 60
  mu : L.mu = 60
  r : L.reads.length ≤ m
  e : L.keeps.length ≤ m
  h : L.holds.length ≤ m
  u : L.undos.length ≤ m
theorem Lb.mv {m k : Nat} {a b : Lg} (h : Lb m a) (g : Lgs k a b) : Lb (m + k) b :=
  ⟨g.mr.trans h.mr, g.mu.trans h.mu, by have := g.r; have := h.r; omega, by have := g.e; have := h.e; omega, by have := g.h; have := h.h; omega, by have := g.u; have := h.u; omega⟩
theorem Lb.le {m k : Nat} {a : Lg} (h : Lb m a) (g : m ≤ k) : Lb k a := ⟨h.mr, h.mu, by have := h.r; omega, by have := h.e; omega, by have := h.h; omega, by have := h.u; omega⟩
structure Q (n : Nat) (S : Stt) : Prop where
  inv : Inv S
  len : S.txs.length = 3
  ser : S.H.serial ≤ 4 + n
  top : S.H.top ≤ 33 + 8 * n
  size : S.H.size = 2000
  shp : ∀ k, k < 4 → ∃ ob, lk S.H.cur (Yd.pl k) = some ob ∧ ob.shp = Yd.s2
  most : S.most = 1073741824
  now : S.now ≤ 1 + n
theorem Q.mv {n k m a i : Nat} {S S' : Stt} (h : Q n S) (g : Mvs k m i S S') (hI : Inv S') (hk : k ≤ a) (hm : m ≤ a) : Q (n + a) S' := by
  refine ⟨hI, g.len.trans h.len, by have := g.ser; have := h.ser; omega, by have := g.top; have := h.top; omega, g.size.trans h.size, fun j hj => ?_, g.most.trans h.most, by have := g.now; have := h.now; omega⟩
  obtain ⟨ob, h1, h2⟩ := h.shp j hj
  obtain ⟨ob', h3, h4⟩ := g.shp _ ob h1
  exact ⟨ob', h3, h4.trans h2⟩
variable {n m i : Nat} {S S' : Stt}
theorem Q.plc (h : Q n S) {k : Nat} (hk : k < 4) : Plc S (Yd.pl k) := by
  obtain ⟨ob, h1, _⟩ := h.shp k hk
  exact .inr (by rw [h1]; rfl)
theorem chk_of (h : Q n S) (hi : i < 3) (hl : (S.t i).live = true) (hb : Lb m (S.t i).log) (hm : m < 60) : S.chk i = true := by
  unfold Stt.chk roomyB
  rw [h.len, hl, hb.mr, hb.mu]
  have := hb.r; have := hb.e; have := hb.h; have := hb.u
  simp
  omega
theorem shp_ok (d : OpV) : d.shp.ok ∧ rnd (3 + d.shp.p + d.shp.d) ≤ 8 := by
  have l0 := pk_lt d.s0 (show 1 ≤ 2 by omega)
  have l1 := pk_lt d.s1 (show 1 ≤ 2 by omega)
  have e1 : d.shp.p = 1 + pk d.s0 2 := rfl
  have e2 : d.shp.d = 1 + pk d.s1 2 := rfl
  refine ⟨⟨by omega, by omega, fun h => ?_⟩, ?_⟩
  · have h : false = true := h
    cases h
  · rw [e1, e2]
    unfold rnd; repeat' split
    all_goals omega
theorem alloc_eq (h : Q n S) (hn : n ≤ 200) (i : Nat) (d : OpV) : S.alloc i d.shp = ⟨S.laid i (S.t i) d.shp, S.H.top, 0⟩ := by
  have hr : S.roomFor d.shp := by
    unfold Stt.roomFor
    have := (shp_ok d).2
    have := h.top
    rw [h.size]; omega
  unfold Stt.alloc Stt.allocR
  rw [if_pos hr]
  rfl
theorem alloc_q (h : Q n S) (hn : n ≤ 200) (hi : i < 3) (hl : (S.t i).live = true) (hb : Lb m (S.t i).log) (hm : m < 60) (d : OpV) : (Mvs 1 0 i S (S.alloc i d.shp).S ∧ Kp i S (S.alloc i d.shp).S) ∧ Inv (S.alloc i d.shp).S := by
  have hc := chk_of h hi hl hb hm
  have e := alloc_eq h hn i d
  rw [e]
  refine ⟨laid_mv h.inv.ok (by rw [h.len]; exact hi) hl d.shp (shp_ok d).2, ?_⟩
  have := (h.inv.allocR (Stt.chk_pre h.inv hc) d.shp (shp_ok d).1 (by have := h.ser; omega)).fin i
  have e' : (S.allocR i (S.t i) d.shp).fin i = _ := e
  rw [e'] at this
  exact this
theorem deedy (h : Q n S) (hn : n ≤ 200) (hi : i < 3) (hl : (S.t i).live = true) (hb : Lb m (S.t i).log) (hm : m < 59) (d : OpV) : Deedy S i d := by
  refine ⟨chk_of h hi hl hb (by omega), fun k hk => h.plc hk, by have := h.ser; omega, fun _ => ?_⟩
  obtain ⟨⟨a1, a2⟩, a3⟩ := alloc_q h hn hi hl hb (by omega) d
  have hq := h.mv a1 a3 (Nat.le_refl 1) (by omega)
  refine ⟨chk_of hq hi (a2.live.trans hl) (hb.mv a1.lg) (by omega), fun k hk => hq.plc hk, ?_, ?_⟩
  · rw [alloc_eq h hn]
    refine .inr ?_
    show (lk (S.laid i (S.t i) d.shp).H.cur ((S.H.top : Int)).toNat).isSome = true
    rw [Int.toNat_natCast, lk_laid h.inv.ok, if_pos rfl]; rfl
  · rw [alloc_eq h hn]
    show (0 : Int) ≤ (S.H.top : Int)
    omega
/-- Whatever a deed comes to. -/
theorem deed_q (h : Q n S) (hn : n ≤ 200) (hi : i < 3) (hl : (S.t i).live = true) (hb : Lb m (S.t i).log) (hm : m < 59) (d : OpV) (hd : d.ok) : Mvs 2 0 i S (S.deed14 i d).S ∧ Inv (S.deed14 i d).S := by
  have hi' : i < S.txs.length := by rw [h.len]; exact hi
  have hD := deedy h hn hi hl hb hm d
  have hP := Stt.chk_pre h.inv hD.chk
  have lb := pk_lt d.b (show 1 ≤ 4 by omega)
  have la := pk_lt d.a (show 1 ≤ 4 by omega)
  have up : ∀ {R : Stt}, Mvs 1 0 i S R → Mvs 2 0 i S R := fun g => g.trans (Mvs.refl 1 0 i _)
  unfold Stt.deed14
  split
  · exact ⟨up (fin_mv hi' ((readR_chg _ _).mv hi' hl).1), (h.inv.readR hP _).fin i⟩
  split
  · exact ⟨up (fin_mv hi' ((writeR_chg _ _ _).mv hi' hl).1), (h.inv.writeR hP (hD.plc _ lb) _ _ (hd 5)).fin i⟩
  split
  · exact ⟨up (fin_mv hi' ((putR_chg _ _ _).mv hi' hl).1), (h.inv.putR hP (hD.plc _ lb) _ _ (hD.plc _ la)).fin i⟩
  split
  · split
    · exact ⟨up (fin_mv hi' ((freeR_chg _).mv hi' hl).1), (h.inv.freeR hP (hD.plc _ lb)).fin i⟩
    · exact ⟨up (fin_mv hi' ((getR_chg _ _).mv hi' hl).1), (h.inv.getR hP _).fin i⟩
  split
  · obtain ⟨⟨a1, a2⟩, a3⟩ := alloc_q h hn hi hl hb (by omega) d
    split
    · rename_i he
      obtain ⟨b1, b2, b3, b4⟩ := hD.nx he
      have hi2 : i < (S.alloc i d.shp).S.txs.length := by rw [a1.len]; exact hi'
      exact ⟨a1.trans (fin_mv hi2 ((putR_chg _ _ _).mv hi2 (a2.live.trans hl)).1), (a3.putR (Stt.chk_pre a3 b1) (b2 _ lb) _ _ b3).fin i⟩
    · exact ⟨up a1, a3⟩
  · exact ⟨fin_mv hi' ((take_mv hl).1.trans (Mvs.refl 2 0 i _)), (h.inv.takeR hP).fin i⟩
/-! ### ahead: two threads, by turns -/
structure P1 (n : Nat) (S : Stt) : Prop where
  q : Q n S
  lb : ∀ j, j < 3 → Lb n (S.t j).log
  hol : S.holder = -1 ∨ ∃ j : Nat, j < 2 ∧ S.holder = (j : Int) ∧ (S.t j).live = true
  t2 : (S.t 2).live = false
theorem P1.mv {k a : Nat} (h : P1 n S) (g : Mvs k m i S S') (hI : Inv S') (hi : i < 2) (hk : k ≤ a) (hm : m ≤ a) : P1 (n + a) S' := by
  refine ⟨h.q.mv g hI hk hm, fun j hj => ?_, ?_, by rw [g.oth 2 (by omega)]; exact h.t2⟩
  · by_cases e : j = i
    · subst e; exact ((h.lb j hj).mv g.lg).le (by omega)
    · rw [g.oth j e]; exact (h.lb j hj).le (by omega)
  · have own : S'.holder = (i : Int) → (S'.t i).live = true := fun e => by
      cases hl : (S'.t i).live with
      | true => rfl
      | false =>
        obtain ⟨a1, a2⟩ := g.hol2 hl e
        rcases h.hol with b | ⟨j, _, b2, b3⟩
        · omega
        · have : j = i := by omega
          rw [this, a1] at b3; cases b3
    rcases g.hol with e | e | e
    · rcases h.hol with b | ⟨j, b1, b2, b3⟩
      · exact .inl (e.trans b)
      · by_cases hji : j = i
        · subst hji
          exact .inr ⟨j, b1, e.trans b2, own (e.trans b2)⟩
        · exact .inr ⟨j, b1, e.trans b2, by rw [g.oth j hji]; exact b3⟩
    · exact .inl e
    · exact .inr ⟨i, hi, e, own e⟩
/-- What a raw op ahead is taken for. -/
def fix (d : OpV) : OpV := if pk d.k 8 = 5 then { d with k := 0 } else d
theorem fix_ok {d : OpV} (h : d.ok) : (fix d).ok := by
  unfold fix; split
  · intro j
    have h0 : I64 0 := by unfold I64; omega
    unfold OpV.c
    repeat' split
    all_goals first | exact h0 | exact h 1 | exact h 2 | exact h 3 | exact h 4 | exact h 5 | exact h 6 | exact h 7 | exact h 8
  · exact h
def rnd1 (S : Stt) (d : OpV) : Stt := ((S.begin (pk d.t 2)).deed14 (pk d.t 2) (fix d)).S
def rnd2 (S : Stt) (d : OpV) : Stt := if pk d.a 5 = 4 ∧ ((rnd1 S d).t (pk d.t 2)).live = true then ((rnd1 S d).commit (pk d.t 2)).S else rnd1 S d
theorem begin_q (h : P1 n S) (d : OpV) : P1 n (S.begin (pk d.t 2)) ∧ ((S.begin (pk d.t 2)).t (pk d.t 2)).live = true ∧ S.now + 9 ≤ S.most ∨ 1073741800 ≤ n := by
  by_cases hn : n < 1073741800
  · left
    have hi := pk_lt d.t (show 1 ≤ 2 by omega)
    have hi' : pk d.t 2 < S.txs.length := by rw [h.q.len]; omega
    obtain ⟨a1, a2⟩ := begin_mv hi'
    have hI : Inv (S.begin (pk d.t 2)) := by
      unfold Stt.begin
      split
      · exact h.q.inv
      · rename_i hl; exact h.q.inv.begun (Stt.t_get hi') (by simpa using hl)
    exact ⟨h.mv a1 hI hi (Nat.le_refl 0) (Nat.le_refl 0), a2, by rw [h.q.most]; have := h.q.now; omega⟩
  · exact .inr (by omega)
theorem ahead_q (h : P1 n S) (hn : n < 58) (d : OpV) (hd : d.ok) : Deedy (S.begin (pk d.t 2)) (pk d.t 2) (fix d) ∧ P1 (n + 2) (rnd1 S d) ∧ P1 (n + 2) (rnd2 S d) ∧
    (((rnd1 S d).t (pk d.t 2)).live = true → (rnd1 S d).chk (pk d.t 2) = true ∧ (rnd1 S d).now < (rnd1 S d).most) := by
  have hi := pk_lt d.t (show 1 ≤ 2 by omega)
  obtain ⟨b1, b2, b3⟩ := (begin_q h d).resolve_right (by omega)
  obtain ⟨c1, c2⟩ := deed_q b1.q (by omega) (by omega) b2 (b1.lb _ (by omega)) (by omega) (fix d) (fix_ok hd)
  have r1 : P1 (n + 2) (rnd1 S d) := b1.mv c1 c2 hi (Nat.le_refl 2) (by omega)
  have r2 : ((rnd1 S d).t (pk d.t 2)).live = true → (rnd1 S d).chk (pk d.t 2) = true ∧ (rnd1 S d).now < (rnd1 S d).most := fun hl =>
    ⟨chk_of r1.q (by omega) hl (r1.lb _ (by omega)) (by omega), by rw [r1.q.most]; have := r1.q.now; omega⟩
  refine ⟨deedy b1.q (by omega) (by omega) b2 (b1.lb _ (by omega)) (by omega) _, r1, ?_, r2⟩
  unfold rnd2
  split
  · rename_i hc
    obtain ⟨d1, d2⟩ := r2 hc.2
    have hi2 : pk d.t 2 < (rnd1 S d).txs.length := by rw [r1.q.len]; omega
    have g : Mvs 2 1 (pk d.t 2) (S.begin (pk d.t 2)) ((rnd1 S d).commit (pk d.t 2)).S := c1.trans (fin_mv hi2 (commit_mv hi2))
    exact b1.mv g ((r1.q.inv.commitR (Stt.chk_pre r1.q.inv d1) d2).fin _) hi (Nat.le_refl 2) (by omega)
  · exact r1
/-- Both aborted: nothing is held any more. -/
def ab (S : Stt) (i : Nat) : Stt := if (S.t i).live then S.abort i else S
theorem ab_q (h : P1 n S) (hi : i < 2) : P1 n (ab S i) ∧ ((ab S i).t i).live = false ∧ ∀ j, j ≠ i → (ab S i).t j = S.t j := by
  have hi' : i < S.txs.length := by rw [h.q.len]; omega
  unfold ab
  split
  · have g := aborted_mv hi'
    refine ⟨h.mv g (h.q.inv.abort i) hi (Nat.le_refl 0) (Nat.le_refl 0), ?_, g.oth⟩
    have hx := Stt.t_get hi'
    unfold Stt.abort
    rw [hx]
    show (Stt.t (Stt.aborted S i (S.t i)) i).live = false
    unfold Stt.aborted
    rw [set_t hi', if_pos rfl]; rfl
  · rename_i hl
    exact ⟨h, by simpa using hl, fun _ _ => rfl⟩
/-! ### behind: one thread, alone -/
structure Solo (n m : Nat) (S : Stt) : Prop where
  q : Q n S
  lb : Lb m (S.t 2).log
  l0 : (S.t 0).live = false
  l1 : (S.t 1).live = false
  l2 : (S.t 2).live = true
  st : (S.t 2).start = S.now
  hol : S.holder = -1 ∨ S.holder = 2
theorem solo_start (h : P1 n S) (hn : n ≤ 100) : P1 n (ab (ab S 0) 1) ∧ ((ab (ab S 0) 1).t 2).live = false ∧ (ab (ab S 0) 1).now + 9 ≤ (ab (ab S 0) 1).most ∧ Solo n 0 ((ab (ab S 0) 1).begin 2) := by
  obtain ⟨a1, a2, a3⟩ := ab_q h (show 0 < 2 by omega)
  obtain ⟨b1, b2, b3⟩ := ab_q a1 (show 1 < 2 by omega)
  have c0 : ((ab (ab S 0) 1).t 0).live = false := by rw [b3 0 (by omega)]; exact a2
  have hlen : 2 < (ab (ab S 0) 1).txs.length := by rw [b1.q.len]; omega
  have hI : Inv ((ab (ab S 0) 1).begin 2) := by
    unfold Stt.begin
    rw [b1.t2]
    exact b1.q.inv.begun (Stt.t_get hlen) b1.t2
  obtain ⟨g1, g2⟩ := begin_mv hlen
  have eb : (ab (ab S 0) 1).begin 2 = (ab (ab S 0) 1).tx 2 (((ab (ab S 0) 1).t 2).begun (ab (ab S 0) 1).now) := by unfold Stt.begin; rw [b1.t2]; rfl
  refine ⟨b1, b1.t2, by rw [b1.q.most]; have := b1.q.now; omega, ⟨b1.q.mv g1 hI (Nat.le_refl 0) (Nat.le_refl 0), ?_, ?_, ?_, g2, ?_, ?_⟩⟩
  · rw [eb, tx_t hlen, if_pos rfl]
    obtain ⟨i1, i2, i3, i4⟩ := b1.q.inv.idle 2 _ (Stt.t_get hlen) b1.t2
    have hb := b1.lb 2 (by omega)
    refine ⟨hb.mr, hb.mu, ?_, ?_, ?_, ?_⟩
    · show ((ab (ab S 0) 1).t 2).log.reads.length ≤ 0; rw [i1]; exact Nat.le_refl 0
    · show ((ab (ab S 0) 1).t 2).log.keeps.length ≤ 0; rw [i2]; exact Nat.le_refl 0
    · show ((ab (ab S 0) 1).t 2).log.holds.length ≤ 0; rw [i3]; exact Nat.le_refl 0
    · show ((ab (ab S 0) 1).t 2).log.undos.length ≤ 0; rw [i4]; exact Nat.le_refl 0
  · rw [g1.oth 0 (by omega)]; exact c0
  · rw [g1.oth 1 (by omega)]; exact b2
  · rw [eb, tx_t hlen, if_pos rfl]; rfl
  · left
    rw [eb]
    show (ab (ab S 0) 1).holder = -1
    rcases b1.hol with e | ⟨j, e1, _, e3⟩
    · exact e
    · obtain rfl | rfl : j = 0 ∨ j = 1 := by omega
      · rw [c0] at e3; cases e3
      · rw [b2] at e3; cases e3
theorem Solo.mv {k : Nat} (h : Solo n m S) (g : Mvs k 0 2 S S') (kp : Kp 2 S S') (hI : Inv S') : Solo (n + k) (m + k) S' := by
  refine ⟨h.q.mv g hI (Nat.le_refl k) (by omega), h.lb.mv g.lg, ?_, ?_, kp.live.trans h.l2, ?_, ?_⟩
  · rw [g.oth 0 (by omega)]; exact h.l0
  · rw [g.oth 1 (by omega)]; exact h.l1
  · rw [kp.start, kp.now]; exact h.st
  · rcases g.hol with e | e | e
    · rw [e]; exact h.hol
    · exact .inl e
    · exact .inr e
/-- No object clashes. -/
theorem Solo.noclash (h : Solo n m S) {p : Nat} {ob : Ob} (hp : lk S.H.cur p = some ob) : clashB 2 (S.t 2).start ob.second = false := by
  unfold clashB
  split
  · rename_i ho
    obtain ⟨x, h1, h2⟩ := h.q.inv.odd p ob hp ho
    have hl := (List.getElem?_eq_some_iff.1 h1).1
    have e : S.t (ob.second / 2) = x := by have := Stt.t_get hl; rw [h1] at this; exact (Option.some.inj this).symm
    rw [h.q.len] at hl
    have no : ∀ j, (S.t j).live = false → ob.second / 2 = j → False := fun j a b => by
      rw [b] at h1 e
      rw [e] at a
      obtain ⟨_, _, i3, _⟩ := h.q.inv.idle j x h1 a
      rw [i3] at h2; cases h2
    have n0 : ¬ ob.second / 2 = 0 := no 0 h.l0
    have n1 : ¬ ob.second / 2 = 1 := no 1 h.l1
    have n2 : ob.second / 2 = 2 := by omega
    rw [decide_eq_false_iff_not]
    intro hne
    exact hne n2
  · rename_i ho
    have := h.q.inv.even p ob hp ho
    rw [decide_eq_false_iff_not, h.st]; omega
theorem Solo.look (h : Solo n m S) (hm : m < 60) {k : Nat} (hk : k < 4) : ∃ ob, lk S.H.cur (Yd.pl k) = some ob ∧ ob.shp = Yd.s2 ∧ ob.ok ∧ S.lookR 2 (S.t 2) (Yd.pl k) = (S.tx 2 ((S.t 2).read (Yd.pl k)), if ob.freed then 142 else 0) ∧ S.fieldsR 2 (S.t 2) (Yd.pl k) = (S.tx 2 ((S.t 2).read (Yd.pl k)), if ob.freed then 142 else 0) := by
  obtain ⟨ob, h1, h2⟩ := h.q.shp k hk
  have hc := h.noclash h1
  have hp : Yd.pl k ≠ 0 := by unfold Yd.pl; omega
  have hb : noteB (S.t 2).log.reads (Yd.pl k) (S.t 2).log.mr = true := by unfold noteB; rw [decide_eq_true_eq, h.lb.mr]; right; have := h.lb.r; omega
  have e1 : S.lookR 2 (S.t 2) (Yd.pl k) = (S.tx 2 ((S.t 2).read (Yd.pl k)), if ob.freed then 142 else 0) := by
    unfold Stt.lookR
    rw [if_neg hp, h1]
    simp only [hc, Bool.false_eq_true, if_false, hb, if_true]
  refine ⟨ob, h1, h2, ok_of_lk h.q.inv.ok h1, e1, ?_⟩
  unfold Stt.fieldsR
  rw [e1]
  have e0 : S.shpOf (Yd.pl k) = Yd.s2 := by unfold Stt.shpOf; rw [h1]; exact h2
  rw [e0]
  simp only [show Yd.s2.weak = false from rfl, Bool.false_eq_true, if_false]
  cases ob.freed <;> rfl
def Fine (e : Int) : Prop := e = 0 ∨ e = 142
theorem some_of {α : Type} {l : List α} {j n : Nat} (h : l.length = n) (hj : j < n) : ∃ v, l[j]? = some v := ⟨_, List.getElem?_eq_getElem (by rw [h]; exact hj)⟩
theorem fine_read (h : Solo n m S) (hm : m < 60) {k j : Nat} (hk : k < 4) (hj : j < 2) : Fine (S.readR 2 (S.t 2) (Yd.pl k) j).e := by
  obtain ⟨ob, h1, h2, h3, _, h5⟩ := h.look hm hk
  obtain ⟨v, hv⟩ := some_of h3.ln (show j < ob.shp.d by rw [h2]; exact hj)
  unfold Stt.readR
  rw [h5, h1]
  simp only [Option.bind_some, hv]
  cases ob.freed
  · exact .inl rfl
  · exact .inr rfl
theorem fine_get (h : Solo n m S) (hm : m < 60) {k j : Nat} (hk : k < 4) (hj : j < 2) : Fine (S.getR 2 (S.t 2) (Yd.pl k) j).e := by
  obtain ⟨ob, h1, h2, h3, _, h5⟩ := h.look hm hk
  obtain ⟨v, hv⟩ := some_of h3.lp (show j < ob.shp.p by rw [h2]; exact hj)
  unfold Stt.getR
  rw [h5, h1]
  simp only [Option.bind_some, hv]
  cases ob.freed
  · exact .inl rfl
  · exact .inr rfl
theorem fine_write (h : Solo n m S) (hm : m < 60) {k j : Nat} (hk : k < 4) (hj : j < 2) (v : Int) : Fine (S.writeR 2 (S.t 2) (Yd.pl k) j v).e := by
  obtain ⟨ob, h1, h2, h3, _, h5⟩ := h.look hm hk
  obtain ⟨o, ho⟩ := some_of h3.ln (show j < ob.shp.d by rw [h2]; exact hj)
  unfold Stt.writeR
  rw [h5, h1]
  simp only [ho]
  cases ob.freed
  · exact .inl rfl
  · exact .inr rfl
theorem fine_put (h : Solo n m S) (hm : m < 60) {k j : Nat} (hk : k < 4) (hj : j < 2) (v : Nat) : Fine (S.putR 2 (S.t 2) (Yd.pl k) j v).e := by
  obtain ⟨ob, h1, h2, h3, _, h5⟩ := h.look hm hk
  obtain ⟨o, ho⟩ := some_of h3.lp (show j < ob.shp.p by rw [h2]; exact hj)
  unfold Stt.putR
  rw [h5, h1]
  simp only [ho]
  cases ob.freed
  · exact .inl rfl
  · exact .inr rfl
theorem fine_free (h : Solo n m S) (hm : m < 60) {k : Nat} (hk : k < 4) : Fine (S.freeR 2 (S.t 2) (Yd.pl k)).e := by
  obtain ⟨ob, h1, h2, h3, h4, _⟩ := h.look hm hk
  unfold Stt.freeR
  rw [h4, h1]
  cases ob.freed
  · exact .inl rfl
  · exact .inr rfl
theorem fine_fin {r : Res} (h : Solo n m S) (g : Mvs 1 0 2 S r.S ∧ Kp 2 S r.S) (hf : Fine r.e) (hI : Inv (r.fin 2).S) : Fine (r.fin 2).e ∧ Solo (n + 1) (m + 1) (r.fin 2).S := by
  obtain ⟨a, b⟩ := fin_ok (i := 2) hf
  rw [a] at hI ⊢
  rw [b]
  exact ⟨hf, h.mv g.1 g.2 hI⟩
theorem Solo.le {n' m' : Nat} (h : Solo n m S) (hn : n ≤ n') (hm : m ≤ m') : Solo n' m' S := by
  obtain ⟨k, rfl⟩ : ∃ k, n' = n + k := ⟨n' - n, by omega⟩
  exact ⟨h.q.mv (Mvs.refl k k 2 S) h.q.inv (Nat.le_refl k) (Nat.le_refl k), h.lb.le hm, h.l0, h.l1, h.l2, h.st, h.hol⟩
theorem solo_deed (h : Solo n m S) (hn : n ≤ 100) (hm : m < 58) (d : OpV) (hd : d.ok) : Deedy S 2 d ∧ Fine (S.deed14 2 d).e ∧ Solo (n + 2) (m + 2) (S.deed14 2 d).S := by
  have hi' : 2 < S.txs.length := by rw [h.q.len]; omega
  have hD := deedy h.q (by omega) (show 2 < 3 by omega) h.l2 h.lb (by omega) d
  have hP := Stt.chk_pre h.q.inv hD.chk
  have lb := pk_lt d.b (show 1 ≤ 4 by omega)
  have la := pk_lt d.a (show 1 ≤ 4 by omega)
  have li := pk_lt d.i (show 1 ≤ 2 by omega)
  have up : ∀ {r : Res}, Fine r.e ∧ Solo (n + 1) (m + 1) r.S → Fine r.e ∧ Solo (n + 2) (m + 2) r.S := fun g => ⟨g.1, g.2.le (by omega) (by omega)⟩
  refine ⟨hD, ?_⟩
  unfold Stt.deed14
  split
  · exact up (fine_fin h ((readR_chg _ _).mv hi' h.l2) (fine_read h (by omega) lb li) ((h.q.inv.readR hP _).fin 2))
  split
  · exact up (fine_fin h ((writeR_chg _ _ _).mv hi' h.l2) (fine_write h (by omega) lb li _) ((h.q.inv.writeR hP (hD.plc _ lb) _ _ (hd 5)).fin 2))
  split
  · exact up (fine_fin h ((putR_chg _ _ _).mv hi' h.l2) (fine_put h (by omega) lb li _) ((h.q.inv.putR hP (hD.plc _ lb) _ _ (hD.plc _ la)).fin 2))
  split
  · split
    · exact up (fine_fin h ((freeR_chg _).mv hi' h.l2) (fine_free h (by omega) lb) ((h.q.inv.freeR hP (hD.plc _ lb)).fin 2))
    · exact up (fine_fin h ((getR_chg _ _).mv hi' h.l2) (fine_get h (by omega) lb (by omega)) ((h.q.inv.getR hP _).fin 2))
  split
  · obtain ⟨⟨a1, a2⟩, a3⟩ := alloc_q h.q (by omega) (show 2 < 3 by omega) h.l2 h.lb (by omega) d
    have h1 := h.mv a1 a2 a3
    have he : (S.alloc 2 d.shp).e = 0 := by rw [alloc_eq h.q (by omega)]
    rw [if_pos he]
    obtain ⟨b1, b2, b3, b4⟩ := hD.nx he
    exact fine_fin h1 ((putR_chg _ _ _).mv (by rw [h1.q.len]; omega) h1.l2) (fine_put h1 (by omega) lb (by omega) _) ((a3.putR (Stt.chk_pre a3 b1) (b2 _ lb) _ _ b3).fin 2)
  · have hf : (S.takeR 2 (S.t 2)).e = 0 := by
      unfold Stt.takeR
      rw [if_pos ⟨h.hol, by rw [h.st]; exact h.q.inv.ok.ve⟩]
    have g := take_mv (i := 2) h.l2
    exact up (fine_fin h ⟨g.1.trans (Mvs.refl 1 0 2 _), g.2⟩ (.inl hf) ((h.q.inv.takeR hP).fin 2))
theorem solo_commit (h : Solo n m S) (hn : n ≤ 100) (hm : m < 60) : S.chk 2 = true ∧ S.now < S.most ∧ (S.commit 2).e = 0 := by
  have hc := chk_of h.q (show 2 < 3 by omega) h.l2 h.lb hm
  refine ⟨hc, by rw [h.q.most]; have := h.q.now; omega, ?_⟩
  have he : (S.commitR 2 (S.t 2)).e = 0 := by
    unfold Stt.commitR
    split
    · rfl
    · have hr : ¬ S.readsClash 2 (S.t 2) = true := by
        unfold Stt.readsClash
        rw [List.any_eq_true]
        rintro ⟨p, hp, hcl⟩
        cases hl : lk S.H.cur p with
        | none => rw [hl] at hcl; cases hcl
        | some ob =>
          rw [hl] at hcl
          simp only at hcl
          rw [h.noclash hl] at hcl; cases hcl
      rw [if_neg hr]
  exact ((fin_ok (i := 2) (.inl he)).2).trans he
/-- The yard, to begin with. -/
def lbB (m : Nat) (L : Lg) : Bool := decide (L.mr = 60) && decide (L.mu = 60) && decide (L.reads.length ≤ m) && decide (L.keeps.length ≤ m) && decide (L.holds.length ≤ m) && decide (L.undos.length ≤ m)
theorem lb_of {m : Nat} {L : Lg} (h : lbB m L = true) : Lb m L := by
  unfold lbB at h
  simp only [Bool.and_eq_true, decide_eq_true_eq] at h
  exact ⟨h.1.1.1.1.1, h.1.1.1.1.2, h.1.1.1.2, h.1.1.2, h.1.2, h.2⟩
def yB (S : Stt) : Bool := decide (S.txs.length = 3) && decide (S.H.serial ≤ 4) && decide (S.H.top ≤ 33) && decide (S.H.size = 2000) && decide (S.most = 1073741824) && decide (S.now ≤ 1) && decide (S.holder = -1) && !(S.t 2).live &&
  lbB 0 (S.t 0).log && lbB 0 (S.t 1).log && lbB 0 (S.t 2).log
def sB (S : Stt) (k : Nat) : Bool := match lk S.H.cur (Yd.pl k) with | some ob => decide (ob.shp = Yd.s2) | none => false
theorem yard_b : yB (Yd.Y 2000 3) = true ∧ ∀ k < 4, sB (Yd.Y 2000 3) k = true := by decide +kernel
theorem start_of {Y : Stt} (hb : yB Y = true ∧ ∀ k < 4, sB Y k = true) (h : Inv Y) : P1 0 Y := by
  obtain ⟨hb, hs⟩ := hb
  unfold yB at hb
  simp only [Bool.and_eq_true, decide_eq_true_eq, Bool.not_eq_true'] at hb
  obtain ⟨⟨⟨⟨⟨⟨⟨⟨⟨⟨b1, b2⟩, b3⟩, b4⟩, b5⟩, b6⟩, b7⟩, b8⟩, b9⟩, b10⟩, b11⟩ := hb
  refine ⟨⟨h, b1, b2, b3, b4, fun k hk => ?_, b5, b6⟩, fun j hj => ?_, .inl b7, b8⟩
  · have := hs k hk
    unfold sB at this
    cases hl : lk Y.H.cur (Yd.pl k) with
    | none => rw [hl] at this; cases this
    | some ob => rw [hl] at this; exact ⟨ob, rfl, of_decide_eq_true this⟩
  · obtain rfl | rfl | rfl : j = 0 ∨ j = 1 ∨ j = 2 := by omega
    · exact lb_of b9
    · exact lb_of b10
    · exact lb_of b11
end Ap
end Go.Proofs.YtemohiainfllcaaGreat
