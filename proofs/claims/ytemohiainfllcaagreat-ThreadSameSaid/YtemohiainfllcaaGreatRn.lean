/- A store's public Alloc and Take. -/
import Derived.Test.YtemohiainfllcaaGreatRm2
namespace Go.Proofs.YtemohiainfllcaaGreat
open Go.RowKit Hp
attribute [local go_sem ↓] Go.wp_at_zero Go.wp_at_succ
section
variable {w w' : World} {o o' : Own} {y : SLay} {S : Stt} {x : Tx} {i : Nat}
set_option maxRecDepth 100000 in
theorem lay_no (h : StIn w o y S) (hk : S.ok) (s : Shp) (hs : s.ok) (hr : 1 + S.H.size < S.H.top + rnd (3 + s.p + s.d)) (vx : Value) :
    Calls Tryz.prog 95 #[ptr y.sb, vx, shpV s] w fun e w' => e = .returned (.tuple #[.int .i64 0, .int .i64 100]) ∧ Below w.heap.size w w' := by
  have hB : Below w.heap.size w (w.alloc (.cells #[.int .i64 s.p, .int .i64 s.d, .bool s.weak, .bool s.final] 80)).drew := bdrew (balloc (bsame w) _)
  have HA := Lib.hid (show Calls Tryz.prog 147 #[ptr y.l.h, shpV s] (w.alloc (.cells #[.int .i64 s.p, .int .i64 s.d, .bool s.weak, .bool s.final] 80)).drew fun e w' => e = .returned (.tuple #[.int .i64 0, .int .i64 100]) ∧ Below w.heap.size w w' from by
    have h2 := h.below hB
    obtain ⟨vc, vo, vw, vf, f, hh⟩ := h2.hp
    refine (alloc_no hh hk.F s hs hr).mono ?_
    rintro e w' ⟨rfl, hb⟩
    exact ⟨rfl, btrans hB hb⟩)
  have jb := h.blk
  unfold stCells at jb
  have c := jb.cell
  have sb := jb.lt
  clear h hk hs hr hB
  go_enter Tryz.func95, Tryz.ntmps95
  go_upto_region 1 with fail
  obtain ⟨W, hW⟩ : ∃ W : World, W = w.alloc (.cells #[.int .i64 s.p, .int .i64 s.d, .bool s.weak, .bool s.final] 80) := ⟨_, rfl⟩
  have jW := jb.alloc (.cells #[.int .i64 s.p, .int .i64 s.d, .bool s.weak, .bool s.final] 80)
  have jB := Blk.new w #[.int .i64 s.p, .int .i64 s.d, .bool s.weak, .bool s.final] 80
  rw [← hW] at HA jW jB ⊢
  clear hW c sb
  have c := jW.cell
  have cB := jB.cell
  go_region_with (first | (go_at_call 147; refine HA.out.mono ?_; rintro e w1 ⟨rfl, hb1⟩) | fail)
  all_goals
    go_wp2_with fail
    go_ret2
    exact ⟨rfl, hb1⟩
def Stt.roomFor (S : Stt) (s : Shp) : Prop := S.H.top + rnd (3 + s.p + s.d) ≤ 1 + S.H.size
instance (S : Stt) (s : Shp) : Decidable (S.roomFor s) := by unfold Stt.roomFor; infer_instance
def Stt.allocR (S : Stt) (i : Nat) (x : Tx) (s : Shp) : Res := if S.roomFor s then ⟨S.laid i x s, S.H.top, 0⟩ else ⟨S, 0, 100⟩
theorem alloc1_no (h : StIn w o y S) (hk : S.ok) (s : Shp) (hs : s.ok) (hwk : s.weak = false) (hr : 1 + S.H.size < S.H.top + rnd (3 + s.p + s.d))
    {b1 b2 : Nat} (j1 : Blk w b1 #[.int .i64 s.p, .int .i64 s.d, .bool s.weak, .bool s.final] 80) (j2 : Blk w b2 #[ptr y.sb] 23) :
    Calls Tryz.prog 93 #[ptr (y.xb i), ptr b1, ptr b2] w fun e w' => e = .returned (.tuple #[.int .i64 0, .int .i64 100]) ∧ Below w.heap.size w w' := by
  have HR := Lib.hid (fun w => hright_any s hs w)
  have HL := Lib.hid (fun w' (hw : Below w.heap.size w w') => lay_no (h.below hw) hk s hs hr (ptr (y.xb i)))
  rw [hwk] at j1
  have c1 := j1.cell
  have c2 := j2.cell
  rw [show shpV s = .agg #[.int .i64 s.p, .int .i64 s.d, .bool false, .bool s.final] from by rw [← hwk]] at HR HL
  clear h hk hs hr hwk
  go_enter Tryz.func93, Tryz.ntmps93
  go_wp2_with fail
  refine (HR.out _).mono ?_
  rintro e w1 ⟨rfl, hb1⟩
  have c1 := (j1.below hb1 j1.lt).cell
  have c2 := (j2.below hb1 j2.lt).cell
  go_wp2_with fail
  refine (HL.out _ hb1).mono ?_
  rintro e w2 ⟨rfl, hb2⟩
  go_wp2_with fail
  go_ret2
  exact ⟨rfl, btrans hb1 hb2⟩
theorem top_not_held (hI : Inv S) (hx : S.txs[i]? = some x) : ∀ z ∈ x.log.holds, z.1 ≠ S.H.top := fun z hz e => by
  obtain ⟨_, ob, h1, _⟩ := hI.hold i x hx z hz
  rw [e, lk_top hI.ok.F.ok] at h1; cases h1
set_option maxRecDepth 100000 in
theorem salloc_any (h : StIn w o y S) (hI : Inv S) (hP : Pre S i x) (s : Shp) (hs : s.ok) (hwk : s.weak = false) (hser : S.H.serial < 1099511627776) :
    Calls Tryz.prog 40 #[ptr y.sb, .int .i64 i, shpV s] w fun e w' => e = .returned (.tuple #[.int .i64 ((S.allocR i x s).fin i).v, .int .i64 ((S.allocR i x s).fin i).e]) ∧ ∃ o', StIn w' o' y ((S.allocR i x s).fin i).S ∧ Stp (stTag y) o o' w w' := by
  by_cases hr : S.roomFor s
  · have e1 : (S.allocR i x s).fin i = ⟨S.laid i x s, S.H.top, 0⟩ := by unfold Stt.allocR; rw [if_pos hr]; rfl
    rw [e1]
    refine (salloc_in h hP.ok hP.hx hP.live s hs hwk hr hser (top_not_held hI hP.hx) hP.r3).mono ?_
    rintro e w' ⟨rfl, o', h1, h2⟩
    exact ⟨rfl, o', h1, h2.mono fun _ => stTag_op⟩
  · have hmf : ∀ (fn : Fn) (first cap : Array Value) (w : World), (Instr.makeFunc fn first cap).run Tryz.prog w = .ok (.func fn first cap) w := fun _ _ _ _ => rfl
    have hr' : 1 + S.H.size < S.H.top + rnd (3 + s.p + s.d) := by unfold Stt.roomFor at hr; omega
    have e1 : S.allocR i x s = ⟨S, 0, 100⟩ := by unfold Stt.allocR; rw [if_neg hr]
    rw [e1]
    have HD := Lib.hid (fun w' b1 b2 (hw : Below w.heap.size w w') (j1 : Blk w' b1 #[.int .i64 s.p, .int .i64 s.d, .bool s.weak, .bool s.final] 80) (j2 : Blk w' b2 #[ptr y.sb] 23) =>
      deed_any 93 [ptr b1, ptr b2] (h.below hw) hP.ok hP.hx hP.live eg_alloc1 ⟨S, 0, 100⟩ (fun _ => hP.ab)
        (fun w1 o1 hb _ hS => (alloc1_no hS hP.ok s hs hwk hr' (j1.below hb j1.lt) (j2.below hb j2.lt)).mono fun e w' ⟨h1, h2⟩ => ⟨h1, o1, hS.below h2, Stp.of_below h2⟩))
    generalize Res.fin (⟨S, 0, 100⟩ : Res) i = R at *
    clear h hI hP hs hwk hr hser hr' e1
    go_enter Tryz.func40, Tryz.ntmps40
    go_wp2_with fail
    refine (HD.out _ (w.heap.size + 1) w.heap.size (balloc (balloc (bsame w) _) _) (Blk.new_at _ _ _ _ _ (by simp) rfl) ((Blk.new w _ _).alloc _)).mono ?_
    rintro e w2 ⟨rfl, o2, hS2, hs2⟩
    go_wp2_with fail
    go_ret2
    exact ⟨rfl, o2, hS2, (Stp.of_below (balloc (balloc (bsame w) _) _)).trans hs2⟩
/-! ### Take -/
def Stt.takeR (S : Stt) (i : Nat) (x : Tx) : Res := if (S.holder = -1 ∨ S.holder = (i : Int)) ∧ S.version ≤ x.start then ⟨{ S with holder := (i : Int), version := S.version }, 0, 0⟩ else ⟨S, 0, 141⟩
set_option maxRecDepth 100000 in
theorem take1_clash (h : StIn w o y S) (hx : S.txs[i]? = some x) (hn : ¬ ((S.holder = -1 ∨ S.holder = (i : Int)) ∧ S.version ≤ x.start)) {b1 : Nat} (j1 : Blk w b1 #[ptr y.sb] 23) :
    Calls Tryz.prog 119 #[ptr (y.xb i), ptr b1] w fun e w' => e = .returned (.tuple #[.int .i64 0, .int .i64 141]) ∧ Below w.heap.size w w' := by
  have jx := (h.txs i x hx).blk
  have jb := h.blk
  unfold stCells at jb
  have c1 := j1.cell
  have cx := jx.cell
  have c := jb.cell
  have hcase : ((S.holder != -1) = true ∧ (S.holder != (i : Int)) = true) ∨ ((S.holder != -1) = false ∧ (x.start : Int) < (S.version : Int)) ∨ ((S.holder != -1) = true ∧ (S.holder != (i : Int)) = false ∧ (x.start : Int) < (S.version : Int)) := by
    by_cases e1 : S.holder = -1
    · right; left
      refine ⟨by rw [e1]; rfl, ?_⟩
      by_cases h2 : S.version ≤ x.start
      · exact absurd ⟨.inl e1, h2⟩ hn
      · omega
    · have b1 : (S.holder != -1) = true := by rw [bne_iff_ne]; exact e1
      by_cases e2 : S.holder = (i : Int)
      · right; right
        refine ⟨b1, by rw [e2]; simp, ?_⟩
        by_cases h2 : S.version ≤ x.start
        · exact absurd ⟨.inr e2, h2⟩ hn
        · omega
      · exact .inl ⟨b1, by rw [bne_iff_ne]; exact e2⟩
  clear h hx hn
  generalize S.holder = hd at *
  rcases hcase with ⟨hb1, hb2⟩ | ⟨hb1, hb2⟩ | ⟨hb1, hb2, hb3⟩
  all_goals
    go_enter Tryz.func119, Tryz.ntmps119
    go_upto_region 1 with fail
    go_quiet (fail)
    go_wp2_with fail
    go_ret2
    exact ⟨rfl, bdrewN (bsame w) _⟩
theorem stake_any (h : StIn w o y S) (hP : Pre S i x) :
    Calls Tryz.prog 66 #[ptr y.sb, .int .i64 i] w fun e w' => e = .returned (.tuple #[.int .i64 ((S.takeR i x).fin i).v, .int .i64 ((S.takeR i x).fin i).e]) ∧ ∃ o', StIn w' o' y ((S.takeR i x).fin i).S ∧ Stp (stTag y) o o' w w' := by
  by_cases hc : (S.holder = -1 ∨ S.holder = (i : Int)) ∧ S.version ≤ x.start
  · have e1 : (S.takeR i x).fin i = ⟨{ S with holder := (i : Int), version := S.version }, 0, 0⟩ := by unfold Stt.takeR; rw [if_pos hc]; rfl
    rw [e1]
    refine (take_in h hP.ok hP.hx hP.live hc.1 hc.2).mono ?_
    rintro e w' ⟨rfl, o', h1, h2⟩
    exact ⟨rfl, o', h1, h2.mono fun _ => stTag_own⟩
  · have hmf : ∀ (fn : Fn) (first cap : Array Value) (w : World), (Instr.makeFunc fn first cap).run Tryz.prog w = .ok (.func fn first cap) w := fun _ _ _ _ => rfl
    have e1 : S.takeR i x = ⟨S, 0, 141⟩ := by unfold Stt.takeR; rw [if_neg hc]
    rw [e1]
    have j1 := Blk.new w #[ptr y.sb] 23
    have HD := Lib.hid (deed_any 119 [ptr w.heap.size] (h.below (balloc (bsame w) (.cells #[ptr y.sb] 23))) hP.ok hP.hx hP.live eg_take1 ⟨S, 0, 141⟩ (fun _ => hP.ab)
      (fun w1 o1 hb he hS => (take1_clash hS hP.hx hc (j1.below hb j1.lt)).mono fun e w' ⟨h1, h2⟩ => ⟨h1, o1, hS.below h2, Stp.of_below h2⟩))
    generalize Res.fin (⟨S, 0, 141⟩ : Res) i = R at *
    clear h hP j1 e1 hc
    go_enter Tryz.func66, Tryz.ntmps66
    go_wp2_with fail
    refine HD.out.mono ?_
    rintro e w2 ⟨rfl, o2, hS2, hs2⟩
    go_wp2_with fail
    go_ret2
    exact ⟨rfl, o2, hS2, (Stp.of_below (balloc (bsame w) _)).trans hs2⟩
/-! ### what holds behind them -/
theorem lk_laid (hk : S.ok) (s : Shp) (q : Nat) : lk (S.laid i x s).H.cur q = if q = S.H.top then some ((Ob.new s (S.H.serial + 1)).setSecond (2 * i + 1)) else lk S.H.cur q := by
  show lk (up (S.H.lay s).cur S.H.top _) q = _
  rw [lk_up, lk_lay hk.F.ok]
  split
  · rfl
  · rename_i hne
    show lk (S.H.cur ++ [(S.H.top, Ob.new s (S.H.serial + 1))]) q = _
    rw [lk_snoc]
    cases lk S.H.cur q with
    | some z => rfl
    | none => simp only; rw [if_neg (fun e => hne e.symm)]
theorem Inv.laid (h : Inv S) (hP : Pre S i x) (s : Shp) (hs : s.ok) (hr : S.roomFor s) (hser : S.H.serial < 1099511627776) : Inv (S.laid i x s) := by
  have hi := hP.lt
  have hno := top_not_held h hP.hx
  have hF := h.ok.F.lay hs hr hser
  have hN := Ob.setSecond_ok (Ob.new_ok hs (S.H.serial + 1) (by omega)) (2 * i + 1) (by have := hP.i8; omega)
  have hok : (S.laid i x s).ok := Stt.ok_heap (S := S.tx i (x.holding S.H.top 0)) (Stt.ok_tx h.ok (Lg.ok_hold hP.lg _ _ hP.r3) hP.st) (hF.turn (lk_lay h.ok.F.ok s) hN rfl)
  have hsome : ∀ q, (lk S.H.cur q).isSome = true → (lk (S.laid i x s).H.cur q).isSome = true := fun q hq => by
    rw [lk_laid h.ok]; split
    · rfl
    · exact hq
  have hne : ∀ q ob, lk S.H.cur q = some ob → lk (S.laid i x s).H.cur q = some ob := fun q ob hq => by
    rw [lk_laid h.ok, if_neg]
    · exact hq
    · intro e; rw [e, lk_top h.ok.F.ok] at hq; cases hq
  refine ⟨hok, fun q ob hq ho => ?_, fun q ob hq ho => ?_, fun j z hz => ?_, fun j z hz => ?_, fun j z hz => ?_, fun j z hz hzl => ?_, fun q ob hq => ?_⟩
  · rw [lk_laid h.ok] at hq
    by_cases e : q = S.H.top
    · rw [if_pos e] at hq
      injection hq with hq
      subst hq
      refine ⟨x.holding S.H.top 0, ?_, ?_⟩
      · show (S.txs.set i _)[(2 * i + 1) / 2]? = _
        rw [show (2 * i + 1) / 2 = i from by omega]
        exact tx_at S hi _
      · rw [e]; show S.H.top ∈ (x.log.holds ++ [(S.H.top, 0)] : List (Nat × Nat)).map (fun z => z.1); simp
    · rw [if_neg e] at hq
      obtain ⟨y', h1, h2⟩ := h.odd q ob hq ho
      by_cases e2 : ob.second / 2 = i
      · rw [e2, hP.hx] at h1
        injection h1 with h1
        subst h1
        refine ⟨x.holding S.H.top 0, by rw [e2]; exact tx_at S hi _, ?_⟩
        show q ∈ (x.log.holds ++ [(S.H.top, 0)] : List (Nat × Nat)).map (fun z => z.1)
        rw [List.map_append]; exact List.mem_append_left _ h2
      · exact ⟨y', set_get e2 h1, h2⟩
  · rw [lk_laid h.ok] at hq
    by_cases e : q = S.H.top
    · rw [if_pos e] at hq
      injection hq with hq
      subst hq
      have : ((Ob.new s (S.H.serial + 1)).setSecond (2 * i + 1)).second = 2 * i + 1 := rfl
      omega
    · rw [if_neg e] at hq
      exact h.even q ob hq ho
  · intro zz hzz
    rcases get_set hz with ⟨rfl, rfl⟩ | ⟨hj, hz⟩
    · rcases List.mem_append.1 (show zz ∈ x.log.holds ++ [(S.H.top, 0)] from hzz) with hm | hm
      · obtain ⟨a1, oz, a2, a3⟩ := h.hold j x hP.hx zz hm
        exact ⟨a1, oz, hne _ _ a2, a3⟩
      · rw [List.mem_singleton.1 hm]
        refine ⟨Nat.zero_le _, _, by rw [lk_laid h.ok, if_pos rfl], rfl⟩
    · obtain ⟨a1, oz, a2, a3⟩ := h.hold j z hz zz hzz
      exact ⟨a1, oz, hne _ _ a2, a3⟩
  · intro q hq
    refine hsome q ?_
    rcases get_set hz with ⟨rfl, rfl⟩ | ⟨hj, hz⟩
    · exact h.rd j x hP.hx q hq
    · exact h.rd j z hz q hq
  · intro u hu
    have hu' : UnOk S.H.cur u := by
      rcases get_set hz with ⟨rfl, rfl⟩ | ⟨hj, hz⟩
      · exact h.un j x hP.hx u hu
      · exact h.un j z hz u hu
    obtain ⟨ob, h1, h2⟩ := hu'
    refine ⟨ob, hne _ _ h1, ?_⟩
    rcases h2 with ⟨a, b, c, d⟩ | h2 | h2
    · exact .inl ⟨a, b, c, d.imp id (hsome _)⟩
    · exact .inr (.inl h2)
    · exact .inr (.inr h2)
  · rcases get_set hz with ⟨rfl, rfl⟩ | ⟨hj, hz⟩
    · have : (x.holding S.H.top 0).live = x.live := rfl
      rw [this, hP.live] at hzl; cases hzl
    · exact h.idle j z hz hzl
  · rw [lk_laid h.ok] at hq
    intro r hr'
    by_cases e : q = S.H.top
    · rw [if_pos e] at hq
      injection hq with hq
      subst hq
      have : r ∈ List.replicate s.p 0 := hr'
      exact .inl (List.eq_of_mem_replicate this)
    · rw [if_neg e] at hq
      exact (h.lo q ob hq r hr').imp id (hsome r)
theorem Inv.allocR (h : Inv S) (hP : Pre S i x) (s : Shp) (hs : s.ok) (hser : S.H.serial < 1099511627776) : Inv (S.allocR i x s).S := by
  unfold Stt.allocR; split
  · rename_i hr; exact h.laid hP s hs hr hser
  · exact h
theorem Inv.takeR (h : Inv S) (hP : Pre S i x) : Inv (S.takeR i x).S := by
  unfold Stt.takeR; split
  · exact h.own (by have := hP.i8; omega) h.ok.ve
  · exact h
end
end Go.Proofs.YtemohiainfllcaaGreat

/- A store's public calls, each in one word, with what holds behind it. -/
namespace Go.Proofs.YtemohiainfllcaaGreat
open Go.RowKit Hp
attribute [local go_sem ↓] Go.wp_at_zero Go.wp_at_succ
def Stt.t (S : Stt) (i : Nat) : Tx := S.txs.getD i ⟨false, 0, Lg.fresh 0 0⟩
def roomyB (x : Tx) : Bool := decide (x.log.reads.length < x.log.mr) && decide (x.log.keeps.length < x.log.mr) && decide (x.log.holds.length < x.log.mu) && decide (x.log.undos.length < x.log.mu)
/-- There is such a thread; its transaction is live, and there is room in its log. -/
def Stt.chk (S : Stt) (i : Nat) : Bool := decide (i < S.txs.length) && (S.t i).live && roomyB (S.t i)
theorem Stt.t_get {S : Stt} {i : Nat} (h : i < S.txs.length) : S.txs[i]? = some (S.t i) := by
  unfold Stt.t; simp [List.getD, List.getElem?_eq_getElem h]
theorem Stt.chk_pre {S : Stt} {i : Nat} (hI : Inv S) (h : S.chk i = true) : Pre S i (S.t i) := by
  unfold Stt.chk at h
  simp only [Bool.and_eq_true, decide_eq_true_eq] at h
  obtain ⟨⟨h1, h2⟩, h3⟩ := h
  unfold roomyB at h3
  simp only [Bool.and_eq_true, decide_eq_true_eq] at h3
  exact hI.pre (Stt.t_get h1) h2 ⟨h3.1.1.1, h3.1.1.2, h3.1.2, h3.2⟩
instance (S : Stt) (p : Nat) : Decidable (Plc S p) := by unfold Plc; infer_instance
def Stt.write (S : Stt) (i p j : Nat) (v : Int) : Res := (S.writeR i (S.t i) p j v).fin i
def Stt.put (S : Stt) (i p j q : Nat) : Res := (S.putR i (S.t i) p j q).fin i
def Stt.read (S : Stt) (i p j : Nat) : Res := (S.readR i (S.t i) p j).fin i
def Stt.get (S : Stt) (i p j : Nat) : Res := (S.getR i (S.t i) p j).fin i
def Stt.free (S : Stt) (i p : Nat) : Res := (S.freeR i (S.t i) p).fin i
def Stt.alloc (S : Stt) (i : Nat) (s : Shp) : Res := (S.allocR i (S.t i) s).fin i
def Stt.take (S : Stt) (i : Nat) : Res := (S.takeR i (S.t i)).fin i
def Stt.commit (S : Stt) (i : Nat) : Res := (S.commitR i (S.t i)).fin i
def Stt.begin (S : Stt) (i : Nat) : Stt := if (S.t i).live then S else S.tx i ((S.t i).begun S.now)
section
variable {w w' : World} {o o' : Own} {y : SLay} {S : Stt} {i : Nat}
/-- What is left behind a call. -/
def Left (y : SLay) (S : Stt) (o : Own) (w w' : World) : Prop := ∃ o', StIn w' o' y S ∧ Inv S ∧ Stp (stTag y) o o' w w'
theorem c_write (h : StIn w o y S) (hI : Inv S) (hc : S.chk i = true) {p : Nat} (hp : Plc S p) (j : Nat) (v : Int) (hv : -9223372036854775808 ≤ v ∧ v ≤ 9223372036854775807) :
    Calls Tryz.prog 16 #[ptr y.sb, .int .i64 i, .int .i64 p, .int .i64 j, .int .i64 v] w fun e w' => e = .returned (.int .i64 (S.write i p j v).e) ∧ Left y (S.write i p j v).S o w w' := by
  have hP := Stt.chk_pre hI hc
  refine (swrite_any h hP hp j v hv).mono ?_
  rintro e w' ⟨rfl, o', h1, h2⟩
  exact ⟨rfl, o', h1, (hI.writeR hP hp j v hv).fin i, h2⟩
theorem c_put (h : StIn w o y S) (hI : Inv S) (hc : S.chk i = true) {p q : Nat} (hp : Plc S p) (hq : Plc S q) (j : Nat) :
    Calls Tryz.prog 41 #[ptr y.sb, .int .i64 i, .int .i64 p, .int .i64 j, .int .i64 q] w fun e w' => e = .returned (.int .i64 (S.put i p j q).e) ∧ Left y (S.put i p j q).S o w w' := by
  have hP := Stt.chk_pre hI hc
  refine (sput_any h hP hp hq j).mono ?_
  rintro e w' ⟨rfl, o', h1, h2⟩
  exact ⟨rfl, o', h1, (hI.putR hP hp j q hq).fin i, h2⟩
theorem c_read (h : StIn w o y S) (hI : Inv S) (hc : S.chk i = true) {p : Nat} (hp : Plc S p) (j : Nat) :
    Calls Tryz.prog 19 #[ptr y.sb, .int .i64 i, .int .i64 p, .int .i64 j] w fun e w' => e = .returned (.tuple #[.int .i64 (S.read i p j).v, .int .i64 (S.read i p j).e]) ∧ Left y (S.read i p j).S o w w' := by
  have hP := Stt.chk_pre hI hc
  refine (sread_any h hP hp j).mono ?_
  rintro e w' ⟨rfl, o', h1, h2⟩
  exact ⟨rfl, o', h1, (hI.readR hP j).fin i, h2⟩
theorem c_get (h : StIn w o y S) (hI : Inv S) (hc : S.chk i = true) {p : Nat} (hp : Plc S p) (j : Nat) :
    Calls Tryz.prog 20 #[ptr y.sb, .int .i64 i, .int .i64 p, .int .i64 j] w fun e w' => e = .returned (.tuple #[.int .i64 (S.get i p j).v, .int .i64 (S.get i p j).e]) ∧ Left y (S.get i p j).S o w w' := by
  have hP := Stt.chk_pre hI hc
  refine (sget_any h hP hp j).mono ?_
  rintro e w' ⟨rfl, o', h1, h2⟩
  exact ⟨rfl, o', h1, (hI.getR hP j).fin i, h2⟩
theorem c_free (h : StIn w o y S) (hI : Inv S) (hc : S.chk i = true) {p : Nat} (hp : Plc S p) :
    Calls Tryz.prog 23 #[ptr y.sb, .int .i64 i, .int .i64 p] w fun e w' => e = .returned (.int .i64 (S.free i p).e) ∧ Left y (S.free i p).S o w w' := by
  have hP := Stt.chk_pre hI hc
  refine (sfree_any h hP hp).mono ?_
  rintro e w' ⟨rfl, o', h1, h2⟩
  exact ⟨rfl, o', h1, (hI.freeR hP hp).fin i, h2⟩
theorem c_alloc (h : StIn w o y S) (hI : Inv S) (hc : S.chk i = true) (s : Shp) (hs : s.ok) (hwk : s.weak = false) (hser : S.H.serial < 1099511627776) :
    Calls Tryz.prog 40 #[ptr y.sb, .int .i64 i, shpV s] w fun e w' => e = .returned (.tuple #[.int .i64 (S.alloc i s).v, .int .i64 (S.alloc i s).e]) ∧ Left y (S.alloc i s).S o w w' := by
  have hP := Stt.chk_pre hI hc
  refine (salloc_any h hI hP s hs hwk hser).mono ?_
  rintro e w' ⟨rfl, o', h1, h2⟩
  exact ⟨rfl, o', h1, (hI.allocR hP s hs hser).fin i, h2⟩
theorem c_take (h : StIn w o y S) (hI : Inv S) (hc : S.chk i = true) :
    Calls Tryz.prog 66 #[ptr y.sb, .int .i64 i] w fun e w' => e = .returned (.tuple #[.int .i64 (S.take i).v, .int .i64 (S.take i).e]) ∧ Left y (S.take i).S o w w' := by
  have hP := Stt.chk_pre hI hc
  refine (stake_any h hP).mono ?_
  rintro e w' ⟨rfl, o', h1, h2⟩
  exact ⟨rfl, o', h1, (hI.takeR hP).fin i, h2⟩
theorem c_commit (h : StIn w o y S) (hI : Inv S) (hc : S.chk i = true) (hm : S.now < S.most) :
    Calls Tryz.prog 18 #[ptr y.sb, .int .i64 i] w fun e w' => e = .returned (.tuple #[.int .i64 (S.commit i).v, .int .i64 (S.commit i).e]) ∧ Left y (S.commit i).S o w w' := by
  have hP := Stt.chk_pre hI hc
  refine (scommit_any h hP (hI.rd i _ hP.hx) hm).mono ?_
  rintro e w' ⟨rfl, o', h1, h2⟩
  exact ⟨rfl, o', h1, (hI.commitR hP hm).fin i, h2⟩
theorem c_begin (h : StIn w o y S) (hI : Inv S) (hi : i < S.txs.length) (hr : S.now + 9 ≤ S.most) :
    Calls Tryz.prog 14 #[ptr y.sb, .int .i64 i] w fun e w' => e = .returned (.int .i64 (if (S.t i).live then 140 else 0)) ∧ Left y (S.begin i) o w w' := by
  have hx := Stt.t_get hi
  unfold Stt.begin
  cases hl : (S.t i).live
  · refine (begin_in h hI.ok hx hl hr).mono ?_
    rintro e w' ⟨rfl, o', h1, h2⟩
    exact ⟨rfl, o', h1, hI.begun hx hl, h2.mono fun _ => stTag_tx⟩
  · refine (begin_live h hI.ok hx hl).mono ?_
    rintro e w' ⟨rfl, rfl⟩
    exact ⟨rfl, o, h, hI, Stp.refl _ _ _⟩
theorem c_abort (h : StIn w o y S) (hI : Inv S) (hi : i < S.txs.length) :
    Calls Tryz.prog 25 #[ptr y.sb, .int .i64 i] w fun e w' => e = .returned (.int .i64 (if (S.t i).live then 0 else 140)) ∧ Left y (if (S.t i).live then S.abort i else S) o w w' := by
  have hx := Stt.t_get hi
  refine (sabort_any h hI.ok hx (hI.abOk hi)).mono ?_
  rintro e w' ⟨rfl, o', h1, h2⟩
  refine ⟨rfl, o', h1, ?_, h2⟩
  split
  · exact hI.abort i
  · exact hI
theorem c_live (h : StIn w o y S) (hI : Inv S) (hi : i < S.txs.length) :
    Calls Tryz.prog 17 #[ptr y.sb, .int .i64 i] w fun e w' => e = .returned (.tuple #[.int .i64 (if (S.t i).live then ((S.t i).start : Int) else 0), .bool (S.t i).live]) ∧ w = w' :=
  live_in h hI.ok (Stt.t_get hi)
/-- No threads: there is no store. -/
theorem new_no (n r u m : Int) (w : World) : Calls Tryz.prog 28 #[.int .i64 n, .int .i64 0, .int .i64 r, .int .i64 u, .int .i64 m] w fun e w' => e = .returned (.tuple #[.pointer none, .int .i64 1]) ∧ w = w' := by
  go_enter Tryz.func28, Tryz.ntmps28
  go_wp2_with fail
  go_ret2
  exact ⟨rfl, rfl⟩
/-- A new store, in a world in which nothing bears its number. -/
theorem c_new (n k r u : Nat) (m : Int) (h1 : 16 ≤ n) (h2 : n ≤ 16384) (k1 : 1 ≤ k) (k8 : k ≤ 8) (hr : r ≤ 200) (hu : u ≤ 200) (o : Own) (id : Nat) (w : World) (hfree : ∀ b, b < w.heap.size → (o b).1 ≠ id) :
    Calls Tryz.prog 28 #[.int .i64 n, .int .i64 k, .int .i64 r, .int .i64 u, .int .i64 m] w fun e w' => ∃ y, e = .returned (.tuple #[ptr y.sb, .int .i64 0]) ∧ y.l.id = id ∧ Left y (Stt.fresh n k r u (bnd m).toNat) o w w' := by
  refine (new_in n k r u m h1 h2 k1 k8 hr hu o id w hfree).mono ?_
  rintro e w' ⟨y, o', rfl, hid, hS, hs⟩
  exact ⟨y, rfl, hid, o', hS, Inv.fresh h1 h2 k1 k8 hr hu (by unfold bnd; omega), hs.mono fun _ h => h.elim⟩
end
end Go.Proofs.YtemohiainfllcaaGreat

/- The first calls of the laws of chapter 14. -/
namespace Go.Proofs.YtemohiainfllcaaGreat
open Go.RowKit Hp
attribute [local go_sem ↓] Go.wp_at_zero Go.wp_at_succ
namespace Aw
def s1 : Shp := ⟨0, 1, false, false⟩
def A0 : Stt := Stt.fresh 60 2 9 9 (bnd 99).toNat
def A1 : Stt := A0.begin 0
def A2 : Stt := (A1.alloc 0 s1).S
def A3 : Stt := (A2.write 0 1 0 5).S
def A4 : Stt := (A3.commit 0).S
def A5 : Stt := A4.begin 0
def A6 : Stt := A5.begin 1
def A7 : Stt := (A6.write 0 1 0 6).S
def A8 : Stt := (A7.read 1 1 0).S
def A9 : Stt := if (A8.t 0).live then A8.abort 0 else A8
def A10 : Stt := A9.begin 1
def A11 : Stt := (A10.read 1 1 0).S
end Aw
instance (s : Shp) : Decidable s.ok := by unfold Shp.ok; infer_instance
set_option maxRecDepth 100000 in
set_option maxHeartbeats 4000000 in
theorem awake14_any (w : World) : Calls Tryz.prog 12 #[] w fun e w' => e = .returned (.bool true) ∧ Below w.heap.size w w' := by
  have hfree : ∀ b, b < w.heap.size → ((fun _ => (7, 0) : Own) b).1 ≠ 0 := fun b _ => by simp
  have HN := Lib.hid (c_new 60 2 9 9 99 (by omega) (by omega) (by omega) (by omega) (by omega) (by omega) (fun _ => (7, 0)) 0 w hfree)
  have HE := Lib.hid (fun w => new_no 60 9 9 99 w)
  clear hfree
  go_enter Tryz.func12, Tryz.ntmps12
  go_wp2_with fail
  refine HN.out.mono ?_
  rintro e w0 ⟨y, rfl, hid, hL⟩
  have HID := Lib.hid hid
  obtain ⟨o0, hS0, hI0, hs0⟩ := show Left y Aw.A0 (fun _ => (7, 0)) w w0 from hL
  clear hL hid
  go_wp2_with fail
  refine (HE.out _).mono ?_
  rintro e w' ⟨rfl, rfl⟩
  go_wp2_with fail
  refine (c_begin (i := 0) hS0 hI0 (by decide +kernel) (by decide +kernel)).mono ?_
  rintro e w1 ⟨he, hL⟩
  rw [show (if (Aw.A0.t 0).live then (140 : Int) else 0) = 0 from by decide +kernel] at he
  subst he
  obtain ⟨o1, hS1, hI1, hs'⟩ := show Left y Aw.A1 o0 w0 w1 from hL
  have hs1 := hs0.trans hs'
  clear hL hs' hs0 hS0 hI0
  go_wp2_with fail
  refine (c_alloc (i := 0) hS1 hI1 (by decide +kernel) Aw.s1 (by decide +kernel) rfl (by decide +kernel)).mono ?_
  rintro e w2 ⟨he, hL⟩
  rw [show (Aw.A1.alloc 0 Aw.s1).v = 1 from by decide +kernel, show (Aw.A1.alloc 0 Aw.s1).e = 0 from by decide +kernel] at he
  subst he
  obtain ⟨o2, hS2, hI2, hs'⟩ := show Left y Aw.A2 o1 w1 w2 from hL
  have hs2 := hs1.trans hs'
  clear hL hs' hs1 hS1 hI1
  go_wp2_with fail
  refine (c_write (i := 0) hS2 hI2 (by decide +kernel) (p := 1) (by decide +kernel) 0 5 (by omega)).mono ?_
  rintro e w3 ⟨he, hL⟩
  rw [show (Aw.A2.write 0 1 0 5).e = 0 from by decide +kernel] at he
  subst he
  obtain ⟨o3, hS3, hI3, hs'⟩ := show Left y Aw.A3 o2 w2 w3 from hL
  have hs3 := hs2.trans hs'
  clear hL hs' hs2 hS2 hI2
  go_wp2_with fail
  refine (c_commit (i := 0) hS3 hI3 (by decide +kernel) (by decide +kernel)).mono ?_
  rintro e w4 ⟨he, hL⟩
  rw [show (Aw.A3.commit 0).v = 1 from by decide +kernel, show (Aw.A3.commit 0).e = 0 from by decide +kernel] at he
  subst he
  obtain ⟨o4, hS4, hI4, hs'⟩ := show Left y Aw.A4 o3 w3 w4 from hL
  have hs4 := hs3.trans hs'
  clear hL hs' hs3 hS3 hI3
  go_wp2_with fail
  refine (c_begin (i := 0) hS4 hI4 (by decide +kernel) (by decide +kernel)).mono ?_
  rintro e w5 ⟨he, hL⟩
  rw [show (if (Aw.A4.t 0).live then (140 : Int) else 0) = 0 from by decide +kernel] at he
  subst he
  obtain ⟨o5, hS5, hI5, hs'⟩ := show Left y Aw.A5 o4 w4 w5 from hL
  have hs5 := hs4.trans hs'
  clear hL hs' hs4 hS4 hI4
  go_wp2_with fail
  refine (c_begin (i := 1) hS5 hI5 (by decide +kernel) (by decide +kernel)).mono ?_
  rintro e w6 ⟨he, hL⟩
  rw [show (if (Aw.A5.t 1).live then (140 : Int) else 0) = 0 from by decide +kernel] at he
  subst he
  obtain ⟨o6, hS6, hI6, hs'⟩ := show Left y Aw.A6 o5 w5 w6 from hL
  have hs6 := hs5.trans hs'
  clear hL hs' hs5 hS5 hI5
  go_wp2_with fail
  refine (c_write (i := 0) hS6 hI6 (by decide +kernel) (p := 1) (by decide +kernel) 0 6 (by omega)).mono ?_
  rintro e w7 ⟨he, hL⟩
  rw [show (Aw.A6.write 0 1 0 6).e = 0 from by decide +kernel] at he
  subst he
  obtain ⟨o7, hS7, hI7, hs'⟩ := show Left y Aw.A7 o6 w6 w7 from hL
  have hs7 := hs6.trans hs'
  clear hL hs' hs6 hS6 hI6
  go_wp2_with fail
  refine (c_read (i := 1) hS7 hI7 (by decide +kernel) (p := 1) (by decide +kernel) 0).mono ?_
  rintro e w8 ⟨he, hL⟩
  rw [show (Aw.A7.read 1 1 0).v = 0 from by decide +kernel, show (Aw.A7.read 1 1 0).e = 141 from by decide +kernel] at he
  subst he
  obtain ⟨o8, hS8, hI8, hs'⟩ := show Left y Aw.A8 o7 w7 w8 from hL
  have hs8 := hs7.trans hs'
  clear hL hs' hs7 hS7 hI7
  go_wp2_with fail
  refine (c_live (i := 1) hS8 hI8 (by decide +kernel)).mono ?_
  rintro e w' ⟨he, rfl⟩
  rw [show (Aw.A8.t 1).live = false from by decide +kernel] at he
  subst he
  go_wp2_with fail
  refine (c_abort (i := 0) hS8 hI8 (by decide +kernel)).mono ?_
  rintro e w9 ⟨he, hL⟩
  rw [show (if (Aw.A8.t 0).live then (0 : Int) else 140) = 0 from by decide +kernel] at he
  subst he
  obtain ⟨o9, hS9, hI9, hs'⟩ := show Left y Aw.A9 o8 w8 w9 from hL
  have hs9 := hs8.trans hs'
  clear hL hs' hs8 hS8 hI8
  go_wp2_with fail
  refine (c_begin (i := 1) hS9 hI9 (by decide +kernel) (by decide +kernel)).mono ?_
  rintro e w10 ⟨he, hL⟩
  rw [show (if (Aw.A9.t 1).live then (140 : Int) else 0) = 0 from by decide +kernel] at he
  subst he
  obtain ⟨o10, hS10, hI10, hs'⟩ := show Left y Aw.A10 o9 w9 w10 from hL
  have hs10 := hs9.trans hs'
  clear hL hs' hs9 hS9 hI9
  go_wp2_with fail
  refine (c_read (i := 1) hS10 hI10 (by decide +kernel) (p := 1) (by decide +kernel) 0).mono ?_
  rintro e w11 ⟨he, hL⟩
  rw [show (Aw.A10.read 1 1 0).v = 5 from by decide +kernel, show (Aw.A10.read 1 1 0).e = 0 from by decide +kernel] at he
  subst he
  obtain ⟨o11, hS11, hI11, hs'⟩ := show Left y Aw.A11 o10 w10 w11 from hL
  have hs11 := hs10.trans hs'
  clear hL hs' hs10 hS10 hI10
  go_wp2_with fail
  go_ret
  exact ⟨rfl, hs11.below fun b _ h => by have h : (7 : Nat) = y.l.id := h; rw [HID.out] at h; cases h⟩
end Go.Proofs.YtemohiainfllcaaGreat

/- The yard of the laws of chapter 14. -/
namespace Go.Proofs.YtemohiainfllcaaGreat
open Go.RowKit Hp
attribute [local go_sem ↓] Go.wp_at_zero Go.wp_at_succ
/-- Which of n a raw number speaks of. -/
def pk (c : Int) (n : Nat) : Nat := (if c < 0 then (-(c + 1)).toNat else c.toNat) % n
theorem pk_lt (c : Int) {n : Nat} (h : 1 ≤ n) : pk c n < n := Nat.mod_lt _ h
theorem pick14_any (c : Int) (hc : -9223372036854775808 ≤ c ∧ c ≤ 9223372036854775807) (n : Nat) (h1 : 1 ≤ n) (h2 : n ≤ 100) (w : World) :
    Calls Tryz.prog 15 #[.int .i64 c, .int .i64 n] w fun e w' => e = .returned (.int .i64 (pk c n)) ∧ w = w' := by
  obtain ⟨c1, c2⟩ := hc
  have hn0 : ((n : Int) == 0) = false := by rw [beq_eq_false_iff_ne]; omega
  have hnI : (1 : Int) ≤ (n : Int) := by omega
  have hnJ : (n : Int) ≤ 100 := by omega
  rcases Int.lt_or_le c 0 with h | h
  · have e1 : (pk c n : Int) = (-(c + 1)) % (n : Int) := by
      unfold pk; rw [if_pos h]; rw [Int.natCast_emod]; congr 1; omega
    have b1 : 0 ≤ -(c + 1) := by omega
    have b2 : -(c + 1) ≤ 9223372036854775807 := by omega
    have HE := Lib.hid e1
    clear e1 h1 h2
    go_enter Tryz.func15, Tryz.ntmps15
    go_wp2_with fail
    go_ret
    exact ⟨ret_int (by rw [HE.out]; first | rfl | rw [← Int.tmod_eq_emod_of_nonneg b1, Int.neg_tmod]), rfl⟩
  · have e1 : (pk c n : Int) = c % (n : Int) := by
      unfold pk; rw [if_neg (by omega)]; rw [Int.natCast_emod]; congr 1; omega
    have HE := Lib.hid e1
    clear e1 h1 h2
    go_enter Tryz.func15, Tryz.ntmps15
    go_wp2_with fail
    go_ret
    exact ⟨ret_int (by rw [HE.out]), rfl⟩
namespace Yd
def s2 : Shp := ⟨2, 2, false, false⟩
def pl (j : Nat) : Nat := 1 + 8 * j
def B (n k : Nat) : Nat → Stt
  | 0 => (Stt.fresh n k 60 60 (bnd 1073741824).toNat).begin 0
  | j + 1 => ((B n k j).alloc 0 s2).S
def C (n k : Nat) : Nat → Stt
  | 0 => B n k 4
  | j + 1 => ((((C n k j).put 0 (pl j) 0 (pl ((j + 1) % 4))).S).write 0 (pl j) 0 (10 + j)).S
def Y (n k : Nat) : Stt := ((C n k 4).commit 0).S
def L : List (Nat × Nat) := [(400, 2), (400, 3), (2000, 3)]
theorem fB : ∀ q ∈ L, ∀ j < 4, (B q.1 q.2 j).chk 0 = true ∧ ((B q.1 q.2 j).alloc 0 s2).v = pl j ∧ ((B q.1 q.2 j).alloc 0 s2).e = 0 ∧ (B q.1 q.2 j).H.serial < 1099511627776 := by decide +kernel
theorem fC : ∀ q ∈ L, ∀ j < 4, (C q.1 q.2 j).chk 0 = true ∧ Plc (C q.1 q.2 j) (pl j) ∧ Plc (C q.1 q.2 j) (pl ((j + 1) % 4)) ∧ ((C q.1 q.2 j).put 0 (pl j) 0 (pl ((j + 1) % 4))).e = 0 ∧
    (((C q.1 q.2 j).put 0 (pl j) 0 (pl ((j + 1) % 4))).S).chk 0 = true ∧ Plc (((C q.1 q.2 j).put 0 (pl j) 0 (pl ((j + 1) % 4))).S) (pl j) ∧ ((((C q.1 q.2 j).put 0 (pl j) 0 (pl ((j + 1) % 4))).S).write 0 (pl j) 0 (10 + j)).e = 0 := by decide +kernel
theorem fY : ∀ q ∈ L, (C q.1 q.2 4).chk 0 = true ∧ (C q.1 q.2 4).now < (C q.1 q.2 4).most ∧ ((C q.1 q.2 4).commit 0).e = 0 ∧ 16 ≤ q.1 ∧ q.1 ≤ 16384 ∧ 1 ≤ q.2 ∧ q.2 ≤ 8 ∧ ((Stt.fresh q.1 q.2 60 60 (bnd 1073741824).toNat).t 0).live = false ∧ 0 < (Stt.fresh q.1 q.2 60 60 (bnd 1073741824).toNat).txs.length ∧ (Stt.fresh q.1 q.2 60 60 (bnd 1073741824).toNat).now + 9 ≤ (Stt.fresh q.1 q.2 60 60 (bnd 1073741824).toNat).most := by decide +kernel
end Yd
def yT (y : SLay) (t : Tag) : Prop := stTag y t ∨ t = (9, 0)
theorem nine_st {y : SLay} (h : y.l.id = 0) : ¬ stTag y (9, 0) := by unfold stTag; rw [h]; simp
set_option maxRecDepth 100000 in
set_option maxHeartbeats 4000000 in
theorem yard_any (n k : Nat) (hq : (n, k) ∈ Yd.L) (w : World) : Calls Tryz.prog 13 #[.int .i64 n, .int .i64 k] w fun e w' =>
    ∃ y v o', e = .returned (.tuple #[ptr y.sb, v]) ∧ y.l.id = 0 ∧ StIn w' o' y (Yd.Y n k) ∧ Inv (Yd.Y n k) ∧ Row w' o' (9, 0) 3 1 v 4 ((List.range 4).map fun t => nv (Yd.pl t)) ∧ Stp (yT y) (fun _ => (7, 0)) o' w w' := by
  have hfree : ∀ b, b < w.heap.size → ((fun _ => (7, 0) : Own) b).1 ≠ 0 := fun b _ => by simp
  obtain ⟨y1, y2, y3, y4, y5, y6, y7, y8, y9, y10⟩ := Yd.fY _ hq
  simp only at y1 y2 y3 y4 y5 y6 y7 y8 y9 y10
  have HB := Lib.hid (Yd.fB _ hq)
  have HC := Lib.hid (Yd.fC _ hq)
  simp only at HB HC
  have HN := Lib.hid (c_new n k 60 60 1073741824 y4 y5 y6 y7 (by omega) (by omega) (fun _ => (7, 0)) 0 w hfree)
  have HY := Lib.hid (And.intro y1 (And.intro y2 (And.intro y3 (And.intro y8 (And.intro y9 y10)))))
  clear hfree hq y1 y2 y3 y4 y5 y6 y7 y8 y9 y10
  go_enter Tryz.func13, Tryz.ntmps13
  go_wp2_with fail
  refine HN.out.mono ?_
  rintro e w0 ⟨y, rfl, hid, hL⟩
  have HID := Lib.hid hid
  obtain ⟨o0, hS0, hI0, hs0⟩ := hL
  clear hid
  go_wp2_with fail
  refine (c_begin (i := 0) hS0 hI0 HY.out.2.2.2.2.1 HY.out.2.2.2.2.2).mono ?_
  rintro e w1 ⟨he, hL⟩
  rw [HY.out.2.2.2.1] at he
  simp only [Bool.false_eq_true, if_false] at he
  subst he
  obtain ⟨o1, hS1, hI1, hs'⟩ := show Left y (Yd.B n k 0) o0 w0 w1 from hL
  have hs1 : Stp (yT y) (fun _ => (7, 0)) o1 w w1 := (hs0.trans hs').mono fun _ h => .inl h
  clear hL hs' hs0 hS0 hI0
  have hu64 := Tryz.underlying24
  obtain ⟨iI, hi, hsI, hyI, hzI⟩ := info_int
  have hw4 := Lib.hid (fun (j : Nat) (hj : j ≤ 4096) => len_ok hj)
  go_wp2_with fail
  go_loopw [9, 8] (fun ix v wr => ∃ (j : Nat) (oo : Own), ix = .int .i64 j ∧ j ≤ 4 ∧ StIn wr oo y (Yd.B n k j) ∧ Inv (Yd.B n k j) ∧ Row wr oo (9, 0) 3 1 v j ((List.range j).map fun t => nv (Yd.pl t)) ∧ Stp (yT y) (fun _ => (7, 0)) oo w wr) (fun ix _ _ => 4 - (intOf ix).toNat)
  case atStart => exact ⟨0, o1, rfl, by omega, hS1, hI1, Row.nil _ _ _ _ _, hs1⟩
  case round =>
    clear hS1 hI1 hs1
    obtain ⟨j, oo, rfl, hj4, hS, hI, hr, hs⟩ := hrel
    obtain ⟨wo, rfl⟩ : ∃ wo : World, wo = wr := ⟨_, rfl⟩
    by_cases hlt : j < 4
    · have jI : (j : Int) < 4 := by omega
      obtain ⟨f1, f2, f3, f4⟩ := HB.out j hlt
      have HA := Lib.hid (c_alloc (i := 0) hS hI f1 Yd.s2 (by decide +kernel) rfl f4)
      rw [f2, f3] at HA
      obtain ⟨pl, hpl⟩ : ∃ pl, pl = Yd.pl j := ⟨_, rfl⟩
      rw [← hpl] at HA
      have HPL := Lib.hid hpl
      clear f1 f2 f3 f4 hS hI hpl
      go_wp2_with fail
      refine HA.out.mono ?_
      rintro e w2 ⟨rfl, hL⟩
      obtain ⟨o2, hS2, hI2, hs2⟩ := show Left y (Yd.B n k (j + 1)) oo wo w2 from hL
      have hr2 := hr.stp hs2 (nine_st HID.out)
      clear hL hr
      obtain ⟨pv, cv, rfl⟩ := hr2.slc
      go_wp2_with (first | (at_builtin; refine wpList_append_row _ rfl _ _ _ rfl 3 iI _ 1 8 hu64 hi hzI hsI hyI rfl (by decide) o2 (9, 0) _ _ _ rfl (Row.below hr2 (balloc (bsame w2) _)) ⟨w2.heap.size, 0, none⟩ 1 1 [.int .i64 pl] rfl rfl (news_one (Blk.new w2 _ _)) one_i64 (hw4.out j (by omega)).1 (hw4.out j (by omega)).2 ?_; intro v' w8 hown hst))
      have hs8 : Stp (yT y) o2 (ext o2 (w2.alloc (.cells #[.int .i64 pl] 3)).heap.size (9, 0)) w2 w8 := (Stp.of_below (balloc (bsame w2) (.cells #[.int .i64 pl] 3))).trans (hst.mono fun _ h => .inr h)
      have hS8 := (hS2.below (balloc (bsame w2) (.cells #[.int .i64 pl] 3))).stp hst (fun q => by rw [HID.out]; simp)
      go_roundw
      case rel =>
        refine ⟨j + 1, _, by simp, by omega, hS8, hI2, ?_, hs.trans ((hs2.mono fun _ h => .inl h).trans hs8)⟩
        rw [List.range_succ, List.map_append, List.map_cons, List.map_nil, ← HPL.out]
        exact hown
      case measure => simp [intOf]; omega
    · obtain rfl : j = 4 := by omega
      clear hlt
      obtain ⟨g, cap, hv, hcap⟩ := (show ∃ g cap, u8 = .slice (some ⟨g, 0, none⟩) 4 cap ∧ 4 ≤ cap from by
        rcases hr.form with ⟨_, h0⟩ | ⟨g, cap, e, hn, _⟩
        · cases h0
        · exact ⟨g, cap, e, hn⟩)
      subst hv
      rw [show ((4 : Nat) : Int) = (4 : Int) from rfl]
      go_wp2_with fail
      go_loopw [12] (fun ix wr => ∃ (j : Nat) (oo : Own), ix = .int .i64 j ∧ j ≤ 4 ∧ StIn wr oo y (Yd.C n k j) ∧ Inv (Yd.C n k j) ∧ Row wr oo (9, 0) 3 1 (.slice (some ⟨g, 0, none⟩) 4 cap) 4 ((List.range 4).map fun t => nv (Yd.pl t)) ∧ Stp (yT y) (fun _ => (7, 0)) oo w wr) (fun ix _ => 4 - (intOf ix).toNat)
      case atStart => exact ⟨0, oo, rfl, by omega, hS, hI, hr, hs⟩
      case round =>
        have HYY := Lib.hid (And.intro HY.out.1 (And.intro HY.out.2.1 (And.intro HY.out.2.2.1 trivial)))
        clear hS hI hr hs HB hw4 HY hi
        obtain ⟨j, oo, rfl, hj4, hS, hI, hr, hs⟩ := hrel
        obtain ⟨wo, rfl⟩ : ∃ wo : World, wo = wr := ⟨_, rfl⟩
        by_cases hlt : j < 4
        · obtain ⟨f1, f2, f3, f4, f5, f6, f7⟩ := HC.out j hlt
          have HP1 := Lib.hid (fun (W : World) (hW : Below wo.heap.size wo W) => by
            have := c_put (i := 0) (hS.below hW) hI f1 f2 f3 0
            rw [f4] at this
            exact this)
          have HP2 := Lib.hid (fun (W : World) (o' : Own) (hS' : StIn W o' y (((Yd.C n k j).put 0 (Yd.pl j) 0 (Yd.pl ((j + 1) % 4))).S)) (hI' : Inv (((Yd.C n k j).put 0 (Yd.pl j) 0 (Yd.pl ((j + 1) % 4))).S)) => by
            have := c_write (i := 0) hS' hI' f5 f6 0 (10 + (j : Int)) (by omega)
            rw [f7] at this
            exact this)
          have HR := Lib.hid hr
          have HS := Lib.hid hs
          have hcell : ∀ (t : Nat), t < 4 → wo.cell? ⟨g, t, none⟩ = some (.int .i64 (Yd.pl t)) := fun t ht => hr.cells t _ (by rw [List.getElem?_map, List.getElem?_range ht]; rfl)
          have c0 := hcell 0 (by omega)
          have c1 := hcell 1 (by omega)
          have c2 := hcell 2 (by omega)
          have c3 := hcell 3 (by omega)
          have HCe := Lib.hid (fun (W : World) (o' : Own) (hW : Stp (stTag y) oo o' wo W) (t : Nat) (ht : t < 4) => show W.cell? ⟨g, t, none⟩ = some (.int .i64 (Yd.pl t)) from (hr.stp hW (nine_st HID.out)).cells t _ (by rw [List.getElem?_map, List.getElem?_range ht]; rfl))
          clear hS hI f1 f2 f3 f4 f5 f6 f7 hr hs hcell hj4 HC
          have a0 : IntKind.i64.wrap (0 : Int) = 0 := by decide
          have a1 : IntKind.i64.wrap (1 : Int) = 1 := by decide
          have a2 : IntKind.i64.wrap (2 : Int) = 2 := by decide
          have a3 : IntKind.i64.wrap (3 : Int) = 3 := by decide
          have a4 : IntKind.i64.wrap (4 : Int) = 4 := by decide
          have t1 : Int.tmod 1 4 = 1 := by decide
          have t2 : Int.tmod 2 4 = 2 := by decide
          have t3 : Int.tmod 3 4 = 3 := by decide
          have t4 : Int.tmod 4 4 = 0 := by decide
          have a10 : IntKind.i64.wrap (10 : Int) = 10 := by decide
          have a11 : IntKind.i64.wrap (11 : Int) = 11 := by decide
          have a12 : IntKind.i64.wrap (12 : Int) = 12 := by decide
          have a13 : IntKind.i64.wrap (13 : Int) = 13 := by decide
          obtain rfl | rfl | rfl | rfl : j = 0 ∨ j = 1 ∨ j = 2 ∨ j = 3 := by omega
          · have HQ1 := Lib.hid (show Calls Tryz.prog 41 #[ptr y.sb, .int .i64 0, .int .i64 (Yd.pl 0), .int .i64 0, .int .i64 (Yd.pl 1)] wo.drew fun e w' => e = .returned (.int .i64 0) ∧ Left y ((Yd.C n k 0).put 0 (Yd.pl 0) 0 (Yd.pl 1)).S oo wo.drew w' from HP1.out _ (bdrew (bsame _)))
            have HQ2 := Lib.hid (fun (W : World) (o' : Own) (hS' : StIn W o' y ((Yd.C n k 0).put 0 (Yd.pl 0) 0 (Yd.pl 1)).S) (hI' : Inv ((Yd.C n k 0).put 0 (Yd.pl 0) 0 (Yd.pl 1)).S) => show Calls Tryz.prog 16 #[ptr y.sb, .int .i64 0, .int .i64 (Yd.pl 0), .int .i64 0, .int .i64 10] W fun e w' => e = .returned (.int .i64 0) ∧ Left y (Yd.C n k 1) o' W w' from HP2.out W o' hS' hI')
            clear HP1 HP2
            go_upto_region 15 with fail
            go_region_held3 (fun w' => w'.cell? ⟨g, 0, none⟩ = some (.int .i64 (Yd.pl 0)) ∧ w'.cell? ⟨g, 1, none⟩ = some (.int .i64 (Yd.pl 1))) (first | exact ⟨by assumption, by assumption⟩ | go_keep) (first
              | (go_at_call 41; refine HQ1.out.mono ?_; rintro e w3 ⟨rfl, hL3⟩; obtain ⟨o3, hS3, hI3, hs3⟩ := hL3; have hsd := (Stp.of_below (T := stTag y) (o := oo) (bdrew (bsame wo))).trans hs3; have d1 := HCe.out _ _ hsd 0 (by omega); have d2 := HCe.out _ _ hsd 1 (by omega))
              | (go_at_call 16; refine (HQ2.out _ _ hS3 hI3).mono ?_; rintro e w4 ⟨rfl, hL4⟩; obtain ⟨o4, hS4, hI4, hs4⟩ := hL4; have hst := hsd.trans hs4; have e1 := HCe.out _ _ hst 0 (by omega); have e2 := HCe.out _ _ hst 1 (by omega))
              | fail)
            all_goals
              clear a0 a1 a2 a3 a4 t1 t2 t3 t4 a10 a11 a12 a13
              go_wp2_with fail
              go_roundw
              case rel => exact ⟨1, o4, by simp, by omega, hS4, hI4, HR.out.stp hst (nine_st HID.out), HS.out.trans (hst.mono fun _ h => .inl h)⟩
              case measure => simp [intOf]
          · have HQ1 := Lib.hid (show Calls Tryz.prog 41 #[ptr y.sb, .int .i64 0, .int .i64 (Yd.pl 1), .int .i64 0, .int .i64 (Yd.pl 2)] wo.drew fun e w' => e = .returned (.int .i64 0) ∧ Left y ((Yd.C n k 1).put 0 (Yd.pl 1) 0 (Yd.pl 2)).S oo wo.drew w' from HP1.out _ (bdrew (bsame _)))
            have HQ2 := Lib.hid (fun (W : World) (o' : Own) (hS' : StIn W o' y ((Yd.C n k 1).put 0 (Yd.pl 1) 0 (Yd.pl 2)).S) (hI' : Inv ((Yd.C n k 1).put 0 (Yd.pl 1) 0 (Yd.pl 2)).S) => show Calls Tryz.prog 16 #[ptr y.sb, .int .i64 0, .int .i64 (Yd.pl 1), .int .i64 0, .int .i64 11] W fun e w' => e = .returned (.int .i64 0) ∧ Left y (Yd.C n k 2) o' W w' from HP2.out W o' hS' hI')
            clear HP1 HP2
            go_upto_region 15 with fail
            go_region_held3 (fun w' => w'.cell? ⟨g, 1, none⟩ = some (.int .i64 (Yd.pl 1)) ∧ w'.cell? ⟨g, 2, none⟩ = some (.int .i64 (Yd.pl 2))) (first | exact ⟨by assumption, by assumption⟩ | go_keep) (first
              | (go_at_call 41; refine HQ1.out.mono ?_; rintro e w3 ⟨rfl, hL3⟩; obtain ⟨o3, hS3, hI3, hs3⟩ := hL3; have hsd := (Stp.of_below (T := stTag y) (o := oo) (bdrew (bsame wo))).trans hs3; have d1 := HCe.out _ _ hsd 1 (by omega); have d2 := HCe.out _ _ hsd 2 (by omega))
              | (go_at_call 16; refine (HQ2.out _ _ hS3 hI3).mono ?_; rintro e w4 ⟨rfl, hL4⟩; obtain ⟨o4, hS4, hI4, hs4⟩ := hL4; have hst := hsd.trans hs4; have e1 := HCe.out _ _ hst 1 (by omega); have e2 := HCe.out _ _ hst 2 (by omega))
              | fail)
            all_goals
              clear a0 a1 a2 a3 a4 t1 t2 t3 t4 a10 a11 a12 a13
              go_wp2_with fail
              go_roundw
              case rel => exact ⟨2, o4, by simp, by omega, hS4, hI4, HR.out.stp hst (nine_st HID.out), HS.out.trans (hst.mono fun _ h => .inl h)⟩
              case measure => simp [intOf]
          · have HQ1 := Lib.hid (show Calls Tryz.prog 41 #[ptr y.sb, .int .i64 0, .int .i64 (Yd.pl 2), .int .i64 0, .int .i64 (Yd.pl 3)] wo.drew fun e w' => e = .returned (.int .i64 0) ∧ Left y ((Yd.C n k 2).put 0 (Yd.pl 2) 0 (Yd.pl 3)).S oo wo.drew w' from HP1.out _ (bdrew (bsame _)))
            have HQ2 := Lib.hid (fun (W : World) (o' : Own) (hS' : StIn W o' y ((Yd.C n k 2).put 0 (Yd.pl 2) 0 (Yd.pl 3)).S) (hI' : Inv ((Yd.C n k 2).put 0 (Yd.pl 2) 0 (Yd.pl 3)).S) => show Calls Tryz.prog 16 #[ptr y.sb, .int .i64 0, .int .i64 (Yd.pl 2), .int .i64 0, .int .i64 12] W fun e w' => e = .returned (.int .i64 0) ∧ Left y (Yd.C n k 3) o' W w' from HP2.out W o' hS' hI')
            clear HP1 HP2
            go_upto_region 15 with fail
            go_region_held3 (fun w' => w'.cell? ⟨g, 2, none⟩ = some (.int .i64 (Yd.pl 2)) ∧ w'.cell? ⟨g, 3, none⟩ = some (.int .i64 (Yd.pl 3))) (first | exact ⟨by assumption, by assumption⟩ | go_keep) (first
              | (go_at_call 41; refine HQ1.out.mono ?_; rintro e w3 ⟨rfl, hL3⟩; obtain ⟨o3, hS3, hI3, hs3⟩ := hL3; have hsd := (Stp.of_below (T := stTag y) (o := oo) (bdrew (bsame wo))).trans hs3; have d1 := HCe.out _ _ hsd 2 (by omega); have d2 := HCe.out _ _ hsd 3 (by omega))
              | (go_at_call 16; refine (HQ2.out _ _ hS3 hI3).mono ?_; rintro e w4 ⟨rfl, hL4⟩; obtain ⟨o4, hS4, hI4, hs4⟩ := hL4; have hst := hsd.trans hs4; have e1 := HCe.out _ _ hst 2 (by omega); have e2 := HCe.out _ _ hst 3 (by omega))
              | fail)
            all_goals
              clear a0 a1 a2 a3 a4 t1 t2 t3 t4 a10 a11 a12 a13
              go_wp2_with fail
              go_roundw
              case rel => exact ⟨3, o4, by simp, by omega, hS4, hI4, HR.out.stp hst (nine_st HID.out), HS.out.trans (hst.mono fun _ h => .inl h)⟩
              case measure => simp [intOf]
          · have HQ1 := Lib.hid (show Calls Tryz.prog 41 #[ptr y.sb, .int .i64 0, .int .i64 (Yd.pl 3), .int .i64 0, .int .i64 (Yd.pl 0)] wo.drew fun e w' => e = .returned (.int .i64 0) ∧ Left y ((Yd.C n k 3).put 0 (Yd.pl 3) 0 (Yd.pl 0)).S oo wo.drew w' from HP1.out _ (bdrew (bsame _)))
            have HQ2 := Lib.hid (fun (W : World) (o' : Own) (hS' : StIn W o' y ((Yd.C n k 3).put 0 (Yd.pl 3) 0 (Yd.pl 0)).S) (hI' : Inv ((Yd.C n k 3).put 0 (Yd.pl 3) 0 (Yd.pl 0)).S) => show Calls Tryz.prog 16 #[ptr y.sb, .int .i64 0, .int .i64 (Yd.pl 3), .int .i64 0, .int .i64 13] W fun e w' => e = .returned (.int .i64 0) ∧ Left y (Yd.C n k 4) o' W w' from HP2.out W o' hS' hI')
            clear HP1 HP2
            go_upto_region 15 with fail
            go_region_held3 (fun w' => w'.cell? ⟨g, 3, none⟩ = some (.int .i64 (Yd.pl 3)) ∧ w'.cell? ⟨g, 0, none⟩ = some (.int .i64 (Yd.pl 0))) (first | exact ⟨by assumption, by assumption⟩ | go_keep) (first
              | (go_at_call 41; refine HQ1.out.mono ?_; rintro e w3 ⟨rfl, hL3⟩; obtain ⟨o3, hS3, hI3, hs3⟩ := hL3; have hsd := (Stp.of_below (T := stTag y) (o := oo) (bdrew (bsame wo))).trans hs3; have d1 := HCe.out _ _ hsd 3 (by omega); have d2 := HCe.out _ _ hsd 0 (by omega))
              | (go_at_call 16; refine (HQ2.out _ _ hS3 hI3).mono ?_; rintro e w4 ⟨rfl, hL4⟩; obtain ⟨o4, hS4, hI4, hs4⟩ := hL4; have hst := hsd.trans hs4; have e1 := HCe.out _ _ hst 3 (by omega); have e2 := HCe.out _ _ hst 0 (by omega))
              | fail)
            all_goals
              clear a0 a1 a2 a3 a4 t1 t2 t3 t4 a10 a11 a12 a13
              go_wp2_with fail
              go_roundw
              case rel => exact ⟨4, o4, by simp, by omega, hS4, hI4, HR.out.stp hst (nine_st HID.out), HS.out.trans (hst.mono fun _ h => .inl h)⟩
              case measure => simp [intOf]
        · obtain rfl : j = 4 := by omega
          have HCm := Lib.hid (c_commit (i := 0) hS hI HYY.out.1 HYY.out.2.1)
          rw [HYY.out.2.2.1] at HCm
          clear hS hI
          go_wp2_with fail
          refine HCm.out.mono ?_
          rintro e w5 ⟨rfl, hL⟩
          obtain ⟨o5, hS5, hI5, hs5⟩ := show Left y (Yd.Y n k) oo wo w5 from hL
          go_wp2_with fail
          go_ret2
          exact ⟨y, _, o5, rfl, HID.out, hS5, hI5, hr.stp hs5 (nine_st HID.out), hs.trans (hs5.mono fun _ h => .inl h)⟩
end Go.Proofs.YtemohiainfllcaaGreat
