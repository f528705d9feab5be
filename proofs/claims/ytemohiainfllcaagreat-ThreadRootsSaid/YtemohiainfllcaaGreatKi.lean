/- A store's public Alloc and Take. -/
import Derived.Test.YtemohiainfllcaaGreatKh
namespace Go.Proofs.YtemohiainfllcaaGreat
open Go.RowKit Hp
attribute [local go_sem ↓] Go.wp_at_zero Go.wp_at_succ
section
variable {w w' : World} {o o' : Own} {y : SLay} {S : Stt} {x : Tx} {i : Nat}
set_option maxRecDepth 100000 in
theorem lay_no (h : StIn w o y S) (hk : S.ok) (s : Shp) (hs : s.ok) (hr : 1 + S.H.size < S.H.top + rnd (3 + s.p + s.d)) (vx : Value) :
    Calls Tryz.prog 95 #[ptr y.sb, vx, shpV s] w fun e w' => e = .returned (.tuple #[.int .i64 0, .int .i64 100]) ∧ Below w.heap.size w w' := by
  have hB : Below w.heap.size w (w.alloc (.cells #[.int .i64 s.p, .int .i64 s.d, .bool s.weak, .bool s.final] 80)).drew := bdrew (balloc (bsame w) _)
  have HA := Lib.hid (show Calls Tryz.prog 147 #[ptr y.l.h, shpV s] (w.alloc (.cells #[.int .i64 s.p, .int .i64 s.d, .bool s.weak, .bool s.final] 80)).drew fun e w' => e = .returned (.tuple #[.int .i64 0, .int .i64 100]) ∧ Below w.heap.size w w' from by
    have h2 := h.below hB
    obtain ⟨vc, vo, vw, vf, f, hh⟩ := h2.hp
    refine (alloc_no hh hk.F s hs hr).mono ?_
    rintro e w' ⟨rfl, hb⟩
    exact ⟨rfl, btrans hB hb⟩)
  have jb := h.blk
  unfold stCells at jb
  have c := jb.cell
  have sb := jb.lt
  clear h hk hs hr hB
  go_enter Tryz.func95, Tryz.ntmps95
  go_upto_region 1 with fail
  obtain ⟨W, hW⟩ : ∃ W : World, W = w.alloc (.cells #[.int .i64 s.p, .int .i64 s.d, .bool s.weak, .bool s.final] 80) := ⟨_, rfl⟩
  have jW := jb.alloc (.cells #[.int .i64 s.p, .int .i64 s.d, .bool s.weak, .bool s.final] 80)
  have jB := Blk.new w #[.int .i64 s.p, .int .i64 s.d, .bool s.weak, .bool s.final] 80
  rw [← hW] at HA jW jB ⊢
  clear hW c sb
  have c := jW.cell
  have cB := jB.cell
  go_region_with (first | (go_at_call 147; refine HA.out.mono ?_; rintro e w1 ⟨rfl, hb1⟩) | fail)
  all_goals
    go_wp2_with fail
    go_ret2
    exact ⟨rfl, hb1⟩
def Stt.roomFor (S : Stt) (s : Shp) : Prop := S.H.top + rnd (3 + s.p + s.d) ≤ 1 + S.H.size
instance (S : Stt) (s : Shp) : Decidable (S.roomFor s) := by unfold Stt.roomFor; infer_instance
def Stt.allocR (S : Stt) (i : Nat) (x : Tx) (s : Shp) : Res := if S.roomFor s then ⟨S.laid i x s, S.H.top, 0⟩ else ⟨S, 0, 100⟩
theorem alloc1_no (h : StIn w o y S) (hk : S.ok) (s : Shp) (hs : s.ok) (hwk : s.weak = false) (hr : 1 + S.H.size < S.H.top + rnd (3 + s.p + s.d))
    {b1 b2 : Nat} (j1 : Blk w b1 #[.int .i64 s.p, .int .i64 s.d, .bool s.weak, .bool s.final] 80) (j2 : Blk w b2 #[ptr y.sb] 23) :
    Calls Tryz.prog 93 #[ptr (y.xb i), ptr b1, ptr b2] w fun e w' => e = .returned (.tuple #[.int .i64 0, .int .i64 100]) ∧ Below w.heap.size w w' := by
  have HR := Lib.hid (fun w => hright_any s hs w)
  have HL := Lib.hid (fun w' (hw : Below w.heap.size w w') => lay_no (h.below hw) hk s hs hr (ptr (y.xb i)))
  rw [hwk] at j1
  have c1 := j1.cell
  have c2 := j2.cell
  rw [show shpV s = .agg #[.int .i64 s.p, .int .i64 s.d, .bool false, .bool s.final] from by rw [← hwk]] at HR HL
  clear h hk hs hr hwk
  go_enter Tryz.func93, Tryz.ntmps93
  go_wp2_with fail
  refine (HR.out _).mono ?_
  rintro e w1 ⟨rfl, hb1⟩
  have c1 := (j1.below hb1 j1.lt).cell
  have c2 := (j2.below hb1 j2.lt).cell
  go_wp2_with fail
  refine (HL.out _ hb1).mono ?_
  rintro e w2 ⟨rfl, hb2⟩
  go_wp2_with fail
  go_ret2
  exact ⟨rfl, btrans hb1 hb2⟩
theorem top_not_held (hI : Inv S) (hx : S.txs[i]? = some x) : ∀ z ∈ x.log.holds, z.1 ≠ S.H.top := fun z hz e => by
  obtain ⟨_, ob, h1, _⟩ := hI.hold i x hx z hz
  rw [e, lk_top hI.ok.F.ok] at h1; cases h1
set_option maxRecDepth 100000 in
theorem salloc_any (h : StIn w o y S) (hI : Inv S) (hP : Pre S i x) (s : Shp) (hs : s.ok) (hwk : s.weak = false) (hser : S.H.serial < 1099511627776) :
    Calls Tryz.prog 40 #[ptr y.sb, .int .i64 i, shpV s] w fun e w' => e = .returned (.tuple #[.int .i64 ((S.allocR i x s).fin i).v, .int .i64 ((S.allocR i x s).fin i).e]) ∧ ∃ o', StIn w' o' y ((S.allocR i x s).fin i).S ∧ Stp (stTag y) o o' w w' := by
  by_cases hr : S.roomFor s
  · have e1 : (S.allocR i x s).fin i = ⟨S.laid i x s, S.H.top, 0⟩ := by unfold Stt.allocR; rw [if_pos hr]; rfl
    rw [e1]
    refine (salloc_in h hP.ok hP.hx hP.live s hs hwk hr hser (top_not_held hI hP.hx) hP.r3).mono ?_
    rintro e w' ⟨rfl, o', h1, h2⟩
    exact ⟨rfl, o', h1, h2.mono fun _ => stTag_op⟩
  · have hmf : ∀ (fn : Fn) (first cap : Array Value) (w : World), (Instr.makeFunc fn first cap).run Tryz.prog w = .ok (.func fn first cap) w := fun _ _ _ _ => rfl
    have hr' : 1 + S.H.size < S.H.top + rnd (3 + s.p + s.d) := by unfold Stt.roomFor at hr; omega
    have e1 : S.allocR i x s = ⟨S, 0, 100⟩ := by unfold Stt.allocR; rw [if_neg hr]
    rw [e1]
    have HD := Lib.hid (fun w' b1 b2 (hw : Below w.heap.size w w') (j1 : Blk w' b1 #[.int .i64 s.p, .int .i64 s.d, .bool s.weak, .bool s.final] 80) (j2 : Blk w' b2 #[ptr y.sb] 23) =>
      deed_any 93 [ptr b1, ptr b2] (h.below hw) hP.ok hP.hx hP.live eg_alloc1 ⟨S, 0, 100⟩ (fun _ => hP.ab)
        (fun w1 o1 hb _ hS => (alloc1_no hS hP.ok s hs hwk hr' (j1.below hb j1.lt) (j2.below hb j2.lt)).mono fun e w' ⟨h1, h2⟩ => ⟨h1, o1, hS.below h2, Stp.of_below h2⟩))
    generalize Res.fin (⟨S, 0, 100⟩ : Res) i = R at *
    clear h hI hP hs hwk hr hser hr' e1
    go_enter Tryz.func40, Tryz.ntmps40
    go_wp2_with fail
    refine (HD.out _ (w.heap.size + 1) w.heap.size (balloc (balloc (bsame w) _) _) (Blk.new_at _ _ _ _ _ (by simp) rfl) ((Blk.new w _ _).alloc _)).mono ?_
    rintro e w2 ⟨rfl, o2, hS2, hs2⟩
    go_wp2_with fail
    go_ret2
    exact ⟨rfl, o2, hS2, (Stp.of_below (balloc (balloc (bsame w) _) _)).trans hs2⟩
/-! ### Take -/
def Stt.takeR (S : Stt) (i : Nat) (x : Tx) : Res := if (S.holder = -1 ∨ S.holder = (i : Int)) ∧ S.version ≤ x.start then ⟨{ S with holder := (i : Int), version := S.version }, 0, 0⟩ else ⟨S, 0, 141⟩
set_option maxRecDepth 100000 in
theorem take1_clash (h : StIn w o y S) (hx : S.txs[i]? = some x) (hn : ¬ ((S.holder = -1 ∨ S.holder = (i : Int)) ∧ S.version ≤ x.start)) {b1 : Nat} (j1 : Blk w b1 #[ptr y.sb] 23) :
    Calls Tryz.prog 119 #[ptr (y.xb i), ptr b1] w fun e w' => e = .returned (.tuple #[.int .i64 0, .int .i64 141]) ∧ Below w.heap.size w w' := by
  have jx := (h.txs i x hx).blk
  have jb := h.blk
  unfold stCells at jb
  have c1 := j1.cell
  have cx := jx.cell
  have c := jb.cell
  have hcase : ((S.holder != -1) = true ∧ (S.holder != (i : Int)) = true) ∨ ((S.holder != -1) = false ∧ (x.start : Int) < (S.version : Int)) ∨ ((S.holder != -1) = true ∧ (S.holder != (i : Int)) = false ∧ (x.start : Int) < (S.version : Int)) := by
    by_cases e1 : S.holder = -1
    · right; left
      refine ⟨by rw [e1]; rfl, ?_⟩
      by_cases h2 : S.version ≤ x.start
      · exact absurd ⟨.inl e1, h2⟩ hn
      · omega
    · have b1 : (S.holder != -1) = true := by rw [bne_iff_ne]; exact e1
      by_cases e2 : S.holder = (i : Int)
      · right; right
        refine ⟨b1, by rw [e2]; simp, ?_⟩
        by_cases h2 : S.version ≤ x.start
        · exact absurd ⟨.inr e2, h2⟩ hn
        · omega
      · exact .inl ⟨b1, by rw [bne_iff_ne]; exact e2⟩
  clear h hx hn
  generalize S.holder = hd at *
  rcases hcase with ⟨hb1, hb2⟩ | ⟨hb1, hb2⟩ | ⟨hb1, hb2, hb3⟩
  all_goals
    go_enter Tryz.func119, Tryz.ntmps119
    go_upto_region 1 with fail
    go_quiet (fail)
    go_wp2_with fail
    go_ret2
    exact ⟨rfl, bdrewN (bsame w) _⟩
theorem stake_any (h : StIn w o y S) (hP : Pre S i x) :
    Calls Tryz.prog 66 #[ptr y.sb, .int .i64 i] w fun e w' => e = .returned (.tuple #[.int .i64 ((S.takeR i x).fin i).v, .int .i64 ((S.takeR i x).fin i).e]) ∧ ∃ o', StIn w' o' y ((S.takeR i x).fin i).S ∧ Stp (stTag y) o o' w w' := by
  by_cases hc : (S.holder = -1 ∨ S.holder = (i : Int)) ∧ S.version ≤ x.start
  · have e1 : (S.takeR i x).fin i = ⟨{ S with holder := (i : Int), version := S.version }, 0, 0⟩ := by unfold Stt.takeR; rw [if_pos hc]; rfl
    rw [e1]
    refine (take_in h hP.ok hP.hx hP.live hc.1 hc.2).mono ?_
    rintro e w' ⟨rfl, o', h1, h2⟩
    exact ⟨rfl, o', h1, h2.mono fun _ => stTag_own⟩
  · have hmf : ∀ (fn : Fn) (first cap : Array Value) (w : World), (Instr.makeFunc fn first cap).run Tryz.prog w = .ok (.func fn first cap) w := fun _ _ _ _ => rfl
    have e1 : S.takeR i x = ⟨S, 0, 141⟩ := by unfold Stt.takeR; rw [if_neg hc]
    rw [e1]
    have j1 := Blk.new w #[ptr y.sb] 23
    have HD := Lib.hid (deed_any 119 [ptr w.heap.size] (h.below (balloc (bsame w) (.cells #[ptr y.sb] 23))) hP.ok hP.hx hP.live eg_take1 ⟨S, 0, 141⟩ (fun _ => hP.ab)
      (fun w1 o1 hb he hS => (take1_clash hS hP.hx hc (j1.below hb j1.lt)).mono fun e w' ⟨h1, h2⟩ => ⟨h1, o1, hS.below h2, Stp.of_below h2⟩))
    generalize Res.fin (⟨S, 0, 141⟩ : Res) i = R at *
    clear h hP j1 e1 hc
    go_enter Tryz.func66, Tryz.ntmps66
    go_wp2_with fail
    refine HD.out.mono ?_
    rintro e w2 ⟨rfl, o2, hS2, hs2⟩
    go_wp2_with fail
    go_ret2
    exact ⟨rfl, o2, hS2, (Stp.of_below (balloc (bsame w) _)).trans hs2⟩
/-! ### what holds behind them -/
theorem lk_laid (hk : S.ok) (s : Shp) (q : Nat) : lk (S.laid i x s).H.cur q = if q = S.H.top then some ((Ob.new s (S.H.serial + 1)).setSecond (2 * i + 1)) else lk S.H.cur q := by
  show lk (up (S.H.lay s).cur S.H.top _) q = _
  rw [lk_up, lk_lay hk.F.ok]
  split
  · rfl
  · rename_i hne
    show lk (S.H.cur ++ [(S.H.top, Ob.new s (S.H.serial + 1))]) q = _
    rw [lk_snoc]
    cases lk S.H.cur q with
    | some z => rfl
    | none => simp only; rw [if_neg (fun e => hne e.symm)]
theorem Inv.laid (h : Inv S) (hP : Pre S i x) (s : Shp) (hs : s.ok) (hr : S.roomFor s) (hser : S.H.serial < 1099511627776) : Inv (S.laid i x s) := by
  have hi := hP.lt
  have hno := top_not_held h hP.hx
  have hF := h.ok.F.lay hs hr hser
  have hN := Ob.setSecond_ok (Ob.new_ok hs (S.H.serial + 1) (by omega)) (2 * i + 1) (by have := hP.i8; omega)
  have hok : (S.laid i x s).ok := Stt.ok_heap (S := S.tx i (x.holding S.H.top 0)) (Stt.ok_tx h.ok (Lg.ok_hold hP.lg _ _ hP.r3) hP.st) (hF.turn (lk_lay h.ok.F.ok s) hN rfl)
  have hsome : ∀ q, (lk S.H.cur q).isSome = true → (lk (S.laid i x s).H.cur q).isSome = true := fun q hq => by
    rw [lk_laid h.ok]; split
    · rfl
    · exact hq
  have hne : ∀ q ob, lk S.H.cur q = some ob → lk (S.laid i x s).H.cur q = some ob := fun q ob hq => by
    rw [lk_laid h.ok, if_neg]
    · exact hq
    · intro e; rw [e, lk_top h.ok.F.ok] at hq; cases hq
  refine ⟨hok, fun q ob hq ho => ?_, fun q ob hq ho => ?_, fun j z hz => ?_, fun j z hz => ?_, fun j z hz => ?_, fun j z hz hzl => ?_, fun q ob hq => ?_⟩
  · rw [lk_laid h.ok] at hq
    by_cases e : q = S.H.top
    · rw [if_pos e] at hq
      injection hq with hq
      subst hq
      refine ⟨x.holding S.H.top 0, ?_, ?_⟩
      · show (S.txs.set i _)[(2 * i + 1) / 2]? = _
        rw [show (2 * i + 1) / 2 = i from by omega]
        exact tx_at S hi _
      · rw [e]; show S.H.top ∈ (x.log.holds ++ [(S.H.top, 0)] : List (Nat × Nat)).map (fun z => z.1); simp
    · rw [if_neg e] at hq
      obtain ⟨y', h1, h2⟩ := h.odd q ob hq ho
      by_cases e2 : ob.second / 2 = i
      · rw [e2, hP.hx] at h1
        injection h1 with h1
        subst h1
        refine ⟨x.holding S.H.top 0, by rw [e2]; exact tx_at S hi _, ?_⟩
        show q ∈ (x.log.holds ++ [(S.H.top, 0)] : List (Nat × Nat)).map (fun z => z.1)
        rw [List.map_append]; exact List.mem_append_left _ h2
      · exact ⟨y', set_get e2 h1, h2⟩
  · rw [lk_laid h.ok] at hq
    by_cases e : q = S.H.top
    · rw [if_pos e] at hq
      injection hq with hq
      subst hq
      have : ((Ob.new s (S.H.serial + 1)).setSecond (2 * i + 1)).second = 2 * i + 1 := rfl
      omega
    · rw [if_neg e] at hq
      exact h.even q ob hq ho
  · intro zz hzz
    rcases get_set hz with ⟨rfl, rfl⟩ | ⟨hj, hz⟩
    · rcases List.mem_append.1 (show zz ∈ x.log.holds ++ [(S.H.top, 0)] from hzz) with hm | hm
      · obtain ⟨a1, oz, a2, a3⟩ := h.hold j x hP.hx zz hm
        exact ⟨a1, oz, hne _ _ a2, a3⟩
      · rw [List.mem_singleton.1 hm]
        refine ⟨Nat.zero_le _, _, by rw [lk_laid h.ok, if_pos rfl], rfl⟩
    · obtain ⟨a1, oz, a2, a3⟩ := h.hold j z hz zz hzz
      exact ⟨a1, oz, hne _ _ a2, a3⟩
  · intro q hq
    refine hsome q ?_
    rcases get_set hz with ⟨rfl, rfl⟩ | ⟨hj, hz⟩
    · exact h.rd j x hP.hx q hq
    · exact h.rd j z hz q hq
  · intro u hu
    have hu' : UnOk S.H.cur u := by
      rcases get_set hz with ⟨rfl, rfl⟩ | ⟨hj, hz⟩
      · exact h.un j x hP.hx u hu
      · exact h.un j z hz u hu
    obtain ⟨ob, h1, h2⟩ := hu'
    refine ⟨ob, hne _ _ h1, ?_⟩
    rcases h2 with ⟨a, b, c, d⟩ | h2 | h2
    · exact .inl ⟨a, b, c, d.imp id (hsome _)⟩
    · exact .inr (.inl h2)
    · exact .inr (.inr h2)
  · rcases get_set hz with ⟨rfl, rfl⟩ | ⟨hj, hz⟩
    · have : (x.holding S.H.top 0).live = x.live := rfl
      rw [this, hP.live] at hzl; cases hzl
    · exact h.idle j z hz hzl
  · rw [lk_laid h.ok] at hq
    intro r hr'
    by_cases e : q = S.H.top
    · rw [if_pos e] at hq
      injection hq with hq
      subst hq
      have : r ∈ List.replicate s.p 0 := hr'
      exact .inl (List.eq_of_mem_replicate this)
    · rw [if_neg e] at hq
      exact (h.lo q ob hq r hr').imp id (hsome r)
theorem Inv.allocR (h : Inv S) (hP : Pre S i x) (s : Shp) (hs : s.ok) (hser : S.H.serial < 1099511627776) : Inv (S.allocR i x s).S := by
  unfold Stt.allocR; split
  · rename_i hr; exact h.laid hP s hs hr hser
  · exact h
theorem Inv.takeR (h : Inv S) (hP : Pre S i x) : Inv (S.takeR i x).S := by
  unfold Stt.takeR; split
  · exact h.own (by have := hP.i8; omega) h.ok.ve
  · exact h
end
end Go.Proofs.YtemohiainfllcaaGreat

/- A store's public calls, each in one word, with what holds behind it. -/
namespace Go.Proofs.YtemohiainfllcaaGreat
open Go.RowKit Hp
attribute [local go_sem ↓] Go.wp_at_zero Go.wp_at_succ
def Stt.t (S : Stt) (i : Nat) : Tx := S.txs.getD i ⟨false, 0, Lg.fresh 0 0⟩
def roomyB (x : Tx) : Bool := decide (x.log.reads.length < x.log.mr) && decide (x.log.keeps.length < x.log.mr) && decide (x.log.holds.length < x.log.mu) && decide (x.log.undos.length < x.log.mu)
/-- There is such a thread; its transaction is live, and there is room in its log. -/
def Stt.chk (S : Stt) (i : Nat) : Bool := decide (i < S.txs.length) && (S.t i).live && roomyB (S.t i)
theorem Stt.t_get {S : Stt} {i : Nat} (h : i < S.txs.length) : S.txs[i]? = some (S.t i) := by
  unfold Stt.t; simp [List.getD, List.getElem?_eq_getElem h]
theorem Stt.chk_pre {S : Stt} {i : Nat} (hI : Inv S) (h : S.chk i = true) : Pre S i (S.t i) := by
  unfold Stt.chk at h
  simp only [Bool.and_eq_true, decide_eq_true_eq] at h
  obtain ⟨⟨h1, h2⟩, h3⟩ := h
  unfold roomyB at h3
  simp only [Bool.and_eq_true, decide_eq_true_eq] at h3
  exact hI.pre (Stt.t_get h1) h2 ⟨h3.1.1.1, h3.1.1.2, h3.1.2, h3.2⟩
instance (S : Stt) (p : Nat) : Decidable (Plc S p) := by unfold Plc; infer_instance
def Stt.write (S : Stt) (i p j : Nat) (v : Int) : Res := (S.writeR i (S.t i) p j v).fin i
def Stt.put (S : Stt) (i p j q : Nat) : Res := (S.putR i (S.t i) p j q).fin i
def Stt.read (S : Stt) (i p j : Nat) : Res := (S.readR i (S.t i) p j).fin i
def Stt.get (S : Stt) (i p j : Nat) : Res := (S.getR i (S.t i) p j).fin i
def Stt.free (S : Stt) (i p : Nat) : Res := (S.freeR i (S.t i) p).fin i
def Stt.alloc (S : Stt) (i : Nat) (s : Shp) : Res := (S.allocR i (S.t i) s).fin i
def Stt.take (S : Stt) (i : Nat) : Res := (S.takeR i (S.t i)).fin i
def Stt.commit (S : Stt) (i : Nat) : Res := (S.commitR i (S.t i)).fin i
def Stt.begin (S : Stt) (i : Nat) : Stt := if (S.t i).live then S else S.tx i ((S.t i).begun S.now)
section
variable {w w' : World} {o o' : Own} {y : SLay} {S : Stt} {i : Nat}
/-- What is left behind a call. -/
def Left (y : SLay) (S : Stt) (o : Own) (w w' : World) : Prop := ∃ o', StIn w' o' y S ∧ Inv S ∧ Stp (stTag y) o o' w w'
theorem c_write (h : StIn w o y S) (hI : Inv S) (hc : S.chk i = true) {p : Nat} (hp : Plc S p) (j : Nat) (v : Int) (hv : -9223372036854775808 ≤ v ∧ v ≤ 9223372036854775807) :
    Calls Tryz.prog 16 #[ptr y.sb, .int .i64 i, .int .i64 p, .int .i64 j, .int .i64 v] w fun e w' => e = .returned (.int .i64 (S.write i p j v).e) ∧ Left y (S.write i p j v).S o w w' := by
  have hP := Stt.chk_pre hI hc
  refine (swrite_any h hP hp j v hv).mono ?_
  rintro e w' ⟨rfl, o', h1, h2⟩
  exact ⟨rfl, o', h1, (hI.writeR hP hp j v hv).fin i, h2⟩
theorem c_put (h : StIn w o y S) (hI : Inv S) (hc : S.chk i = true) {p q : Nat} (hp : Plc S p) (hq : Plc S q) (j : Nat) :
    Calls Tryz.prog 41 #[ptr y.sb, .int .i64 i, .int .i64 p, .int .i64 j, .int .i64 q] w fun e w' => e = .returned (.int .i64 (S.put i p j q).e) ∧ Left y (S.put i p j q).S o w w' := by
  have hP := Stt.chk_pre hI hc
  refine (sput_any h hP hp hq j).mono ?_
  rintro e w' ⟨rfl, o', h1, h2⟩
  exact ⟨rfl, o', h1, (hI.putR hP hp j q hq).fin i, h2⟩
theorem c_read (h : StIn w o y S) (hI : Inv S) (hc : S.chk i = true) {p : Nat} (hp : Plc S p) (j : Nat) :
    Calls Tryz.prog 19 #[ptr y.sb, .int .i64 i, .int .i64 p, .int .i64 j] w fun e w' => e = .returned (.tuple #[.int .i64 (S.read i p j).v, .int .i64 (S.read i p j).e]) ∧ Left y (S.read i p j).S o w w' := by
  have hP := Stt.chk_pre hI hc
  refine (sread_any h hP hp j).mono ?_
  rintro e w' ⟨rfl, o', h1, h2⟩
  exact ⟨rfl, o', h1, (hI.readR hP j).fin i, h2⟩
theorem c_get (h : StIn w o y S) (hI : Inv S) (hc : S.chk i = true) {p : Nat} (hp : Plc S p) (j : Nat) :
    Calls Tryz.prog 20 #[ptr y.sb, .int .i64 i, .int .i64 p, .int .i64 j] w fun e w' => e = .returned (.tuple #[.int .i64 (S.get i p j).v, .int .i64 (S.get i p j).e]) ∧ Left y (S.get i p j).S o w w' := by
  have hP := Stt.chk_pre hI hc
  refine (sget_any h hP hp j).mono ?_
  rintro e w' ⟨rfl, o', h1, h2⟩
  exact ⟨rfl, o', h1, (hI.getR hP j).fin i, h2⟩
theorem c_free (h : StIn w o y S) (hI : Inv S) (hc : S.chk i = true) {p : Nat} (hp : Plc S p) :
    Calls Tryz.prog 23 #[ptr y.sb, .int .i64 i, .int .i64 p] w fun e w' => e = .returned (.int .i64 (S.free i p).e) ∧ Left y (S.free i p).S o w w' := by
  have hP := Stt.chk_pre hI hc
  refine (sfree_any h hP hp).mono ?_
  rintro e w' ⟨rfl, o', h1, h2⟩
  exact ⟨rfl, o', h1, (hI.freeR hP hp).fin i, h2⟩
theorem c_alloc (h : StIn w o y S) (hI : Inv S) (hc : S.chk i = true) (s : Shp) (hs : s.ok) (hwk : s.weak = false) (hser : S.H.serial < 1099511627776) :
    Calls Tryz.prog 40 #[ptr y.sb, .int .i64 i, shpV s] w fun e w' => e = .returned (.tuple #[.int .i64 (S.alloc i s).v, .int .i64 (S.alloc i s).e]) ∧ Left y (S.alloc i s).S o w w' := by
  have hP := Stt.chk_pre hI hc
  refine (salloc_any h hI hP s hs hwk hser).mono ?_
  rintro e w' ⟨rfl, o', h1, h2⟩
  exact ⟨rfl, o', h1, (hI.allocR hP s hs hser).fin i, h2⟩
theorem c_take (h : StIn w o y S) (hI : Inv S) (hc : S.chk i = true) :
    Calls Tryz.prog 66 #[ptr y.sb, .int .i64 i] w fun e w' => e = .returned (.tuple #[.int .i64 (S.take i).v, .int .i64 (S.take i).e]) ∧ Left y (S.take i).S o w w' := by
  have hP := Stt.chk_pre hI hc
  refine (stake_any h hP).mono ?_
  rintro e w' ⟨rfl, o', h1, h2⟩
  exact ⟨rfl, o', h1, (hI.takeR hP).fin i, h2⟩
theorem c_commit (h : StIn w o y S) (hI : Inv S) (hc : S.chk i = true) (hm : S.now < S.most) :
    Calls Tryz.prog 18 #[ptr y.sb, .int .i64 i] w fun e w' => e = .returned (.tuple #[.int .i64 (S.commit i).v, .int .i64 (S.commit i).e]) ∧ Left y (S.commit i).S o w w' := by
  have hP := Stt.chk_pre hI hc
  refine (scommit_any h hP (hI.rd i _ hP.hx) hm).mono ?_
  rintro e w' ⟨rfl, o', h1, h2⟩
  exact ⟨rfl, o', h1, (hI.commitR hP hm).fin i, h2⟩
theorem c_begin (h : StIn w o y S) (hI : Inv S) (hi : i < S.txs.length) (hr : S.now + 9 ≤ S.most) :
    Calls Tryz.prog 14 #[ptr y.sb, .int .i64 i] w fun e w' => e = .returned (.int .i64 (if (S.t i).live then 140 else 0)) ∧ Left y (S.begin i) o w w' := by
  have hx := Stt.t_get hi
  unfold Stt.begin
  cases hl : (S.t i).live
  · refine (begin_in h hI.ok hx hl hr).mono ?_
    rintro e w' ⟨rfl, o', h1, h2⟩
    exact ⟨rfl, o', h1, hI.begun hx hl, h2.mono fun _ => stTag_tx⟩
  · refine (begin_live h hI.ok hx hl).mono ?_
    rintro e w' ⟨rfl, rfl⟩
    exact ⟨rfl, o, h, hI, Stp.refl _ _ _⟩
theorem c_abort (h : StIn w o y S) (hI : Inv S) (hi : i < S.txs.length) :
    Calls Tryz.prog 25 #[ptr y.sb, .int .i64 i] w fun e w' => e = .returned (.int .i64 (if (S.t i).live then 0 else 140)) ∧ Left y (if (S.t i).live then S.abort i else S) o w w' := by
  have hx := Stt.t_get hi
  refine (sabort_any h hI.ok hx (hI.abOk hi)).mono ?_
  rintro e w' ⟨rfl, o', h1, h2⟩
  refine ⟨rfl, o', h1, ?_, h2⟩
  split
  · exact hI.abort i
  · exact hI
theorem c_live (h : StIn w o y S) (hI : Inv S) (hi : i < S.txs.length) :
    Calls Tryz.prog 17 #[ptr y.sb, .int .i64 i] w fun e w' => e = .returned (.tuple #[.int .i64 (if (S.t i).live then ((S.t i).start : Int) else 0), .bool (S.t i).live]) ∧ w = w' :=
  live_in h hI.ok (Stt.t_get hi)
/-- No threads: there is no store. -/
theorem new_no (n r u m : Int) (w : World) : Calls Tryz.prog 28 #[.int .i64 n, .int .i64 0, .int .i64 r, .int .i64 u, .int .i64 m] w fun e w' => e = .returned (.tuple #[.pointer none, .int .i64 1]) ∧ w = w' := by
  go_enter Tryz.func28, Tryz.ntmps28
  go_wp2_with fail
  go_ret2
  exact ⟨rfl, rfl⟩
/-- A new store, in a world in which nothing bears its number. -/
theorem c_new (n k r u : Nat) (m : Int) (h1 : 16 ≤ n) (h2 : n ≤ 16384) (k1 : 1 ≤ k) (k8 : k ≤ 8) (hr : r ≤ 200) (hu : u ≤ 200) (o : Own) (id : Nat) (w : World) (hfree : ∀ b, b < w.heap.size → (o b).1 ≠ id) :
    Calls Tryz.prog 28 #[.int .i64 n, .int .i64 k, .int .i64 r, .int .i64 u, .int .i64 m] w fun e w' => ∃ y, e = .returned (.tuple #[ptr y.sb, .int .i64 0]) ∧ y.l.id = id ∧ Left y (Stt.fresh n k r u (bnd m).toNat) o w w' := by
  refine (new_in n k r u m h1 h2 k1 k8 hr hu o id w hfree).mono ?_
  rintro e w' ⟨y, o', rfl, hid, hS, hs⟩
  exact ⟨y, rfl, hid, o', hS, Inv.fresh h1 h2 k1 k8 hr hu (by unfold bnd; omega), hs.mono fun _ h => h.elim⟩
end
end Go.Proofs.YtemohiainfllcaaGreat
