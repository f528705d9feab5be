/- Chapter 16's example: its last statements, each a theorem of its own (printed by tools/gen_r11.py). -/
import Derived.Test.YtemohiainfllcaaGreatRw
import Derived.Test.YtemohiainfllcaaGreatRp
namespace Go.Proofs.YtemohiainfllcaaGreat
open Go.RowKit Hp
attribute [local go_sem ↓] Go.wp_at_zero Go.wp_at_succ
def findReg (n : Nat) : Code → Option Code
  | .region id ops b => if id = n then some (.region id ops b) else none
  | .seq a b => match findReg n a with
    | some c => some c
    | none => findReg n b
  | .block _ c => findReg n c
  | .scope c => findReg n c
  | .cond _ a b => match findReg n a with
    | some c => some c
    | none => findReg n b
  | .loop c => findReg n c
  | _ => none
noncomputable def reg26 (n : Nat) : Code := ((Tryz.f26.body.bind (findReg n)).getD .skip)
theorem replace_z (H5 : ThV) (W : World) (g : Nat) (j : Blk W g #[.int .i64 0, .int .i64 0, .int .i64 0, .int .i64 0, .int .i64 0, .int .i64 0, .int .i64 0, .int .i64 0, .int .i64 0, .int .i64 0, .int .i64 0, .int .i64 0] 3) : Calls Tryz.prog 32 #[.agg #[.int .i64 H5.b, .int .i64 H5.n, .int .i64 H5.r.a0, .int .i64 H5.r.a1, .int .i64 H5.r.a2, .int .i64 H5.r.a3, .int .i64 H5.r.a4, .int .i64 H5.r.a5, .int .i64 H5.s.a0, .int .i64 H5.s.a1, .int .i64 H5.s.a2, .int .i64 H5.s.a3, .int .i64 H5.s.a4, .int .i64 H5.s.a5, .bool H5.l], .slice (some ⟨g, 0, none⟩) 12 12] W fun e w' => e = .returned (.tuple #[.agg #[.int .i64 H5.b, .int .i64 H5.n, .int .i64 0, .int .i64 0, .int .i64 0, .int .i64 0, .int .i64 0, .int .i64 0, .int .i64 0, .int .i64 0, .int .i64 0, .int .i64 0, .int .i64 0, .int .i64 0, .bool H5.l], .bool true]) ∧ Below W.heap.size W w' :=
  replace_yes H5 g 0 12 ⟨0, 0, 0, 0, 0, 0⟩ ⟨0, 0, 0, 0, 0, 0⟩ W (by omega) j.lt (fun q _ => by rw [Nat.zero_add, j.cell q])
theorem run_mk12f (w : World) : (Instr.makeSlice 24 (.int .i64 12) (.int .i64 12)).run Tryz.prog w = .ok (.slice (some ⟨w.heap.size, 0, none⟩) 12 12) (w.alloc (.cells #[.int .i64 0, .int .i64 0, .int .i64 0, .int .i64 0, .int .i64 0, .int .i64 0, .int .i64 0, .int .i64 0, .int .i64 0, .int .i64 0, .int .i64 0, .int .i64 0] 3)) := by
  obtain ⟨iI, hi, hsI, hyI, hzI⟩ := info_int
  have h := run_make (P := Tryz.prog) w 24 3 iI _ Tryz.underlying24 hi hzI .i64 .i64 12 12 (by omega) (by omega) (by rw [hyI]; omega) (by omega)
  rw [hsI, show madeCells (Value.int IntKind.i64 0).cells (Int.toNat 12 * 1) = #[.int .i64 0, .int .i64 0, .int .i64 0, .int .i64 0, .int .i64 0, .int .i64 0, .int .i64 0, .int .i64 0, .int .i64 0, .int .i64 0, .int .i64 0, .int .i64 0] from by kernel_rfl] at h
  exact h
set_option maxRecDepth 1000000 in
set_option maxHeartbeats 8000000 in
theorem r11_any (Q : Exit → Act → World → Prop) (H5 : ThV) (V5 : World) (bH : Nat) (u0 u1 u2 u3 u5 u6 u7 u8 u9 u10 u11 u12 u13 u14 u15 u16 u17 u18 u19 u20 u21 u22 u23 u24 u25 u26 u27 u28 u29 u30 u31 u32 u33 u34 u35 u36 u37 u38 u39 u40 u41 u42 u43 u44 u45 u46 u47 u48 u49 u50 u51 u52 u53 u54 u55 u56 u57 u58 u59 u60 u61 u62 u63 u64 u65 u66 u67 u68 u69 u70 u71 u72 u73 u74 u75 u76 u77 u78 u79 u80 u81 u82 u83 u84 u85 u86 u87 u88 u89 u90 u91 u92 u93 u94 u95 u96 u97 u98 u99 u100 u101 u102 u103 u104 u105 u106 u107 u108 u109 u110 u111 u112 u113 u114 u115 u116 u117 u118 u119 u120 : Value) (j : Blk V5 bH #[.int .i64 H5.b, .int .i64 H5.n, .int .i64 H5.r.a0, .int .i64 H5.r.a1, .int .i64 H5.r.a2, .int .i64 H5.r.a3, .int .i64 H5.r.a4, .int .i64 H5.r.a5, .int .i64 H5.s.a0, .int .i64 H5.s.a1, .int .i64 H5.s.a2, .int .i64 H5.s.a3, .int .i64 H5.s.a4, .int .i64 H5.s.a5, .bool H5.l] 57)
    (hexit : ∀ (X : World) (bT : Nat) (z61 z62 z63 z64 z65 z66 : Value), Blk X bT #[.int .i64 H5.b, .int .i64 H5.n, .int .i64 0, .int .i64 0, .int .i64 0, .int .i64 0, .int .i64 0, .int .i64 0, .int .i64 0, .int .i64 0, .int .i64 0, .int .i64 0, .int .i64 0, .int .i64 0, .bool H5.l] 57 → (∀ (b : Nat) (cs : Array Value) (t : TypeId), Blk V5 b cs t → Blk X b cs t) → Below V5.heap.size V5 X → Q .normal ⟨#[u0, u1, u2, u3, ptr bH, u5, u6, u7, u8, u9, ptr bT, .bool true, u12, u13, u14, u15, u16, u17, u18, u19, u20, u21, u22, u23, u24, u25, u26, u27, u28, u29, u30, u31, u32, u33, u34, u35, u36, u37, u38, u39, u40, u41, u42, u43, u44, u45, u46, u47, u48, u49, u50, u51, u52, u53, u54, u55, u56, u57, u58, u59, u60, z61, z62, z63, z64, z65, z66, u67, u68, u69, u70, u71, u72, u73, u74, u75, u76, u77, u78, u79, u80, u81, u82, u83, u84, u85, u86, u87, u88, u89, u90, u91, u92, u93, u94, u95, u96, u97, u98, u99, u100, u101, u102, u103, u104, u105, u106, u107, u108, u109, u110, u111, u112, u113, u114, u115, u116, u117, u118, u119, u120], []⟩ X) :
    Code.wp Tryz.prog (reg26 11) Q ⟨#[u0, u1, u2, u3, ptr bH, u5, u6, u7, u8, u9, u10, u11, u12, u13, u14, u15, u16, u17, u18, u19, u20, u21, u22, u23, u24, u25, u26, u27, u28, u29, u30, u31, u32, u33, u34, u35, u36, u37, u38, u39, u40, u41, u42, u43, u44, u45, u46, u47, u48, u49, u50, u51, u52, u53, u54, u55, u56, u57, u58, u59, u60, u61, u62, u63, u64, u65, u66, u67, u68, u69, u70, u71, u72, u73, u74, u75, u76, u77, u78, u79, u80, u81, u82, u83, u84, u85, u86, u87, u88, u89, u90, u91, u92, u93, u94, u95, u96, u97, u98, u99, u100, u101, u102, u103, u104, u105, u106, u107, u108, u109, u110, u111, u112, u113, u114, u115, u116, u117, u118, u119, u120], []⟩ V5 := by
  conv => arg 2; whnf
  have hmk := run_mk12f
  have k15 := j.cell
  have x0 : V5.cell? ⟨bH, 0, none⟩ = some (.int .i64 H5.b) := k15 0
  have x1 : V5.cell? ⟨bH, 1, none⟩ = some (.int .i64 H5.n) := k15 1
  have x2 : V5.cell? ⟨bH, 2, none⟩ = some (.int .i64 H5.r.a0) := k15 2
  have x3 : V5.cell? ⟨bH, 3, none⟩ = some (.int .i64 H5.r.a1) := k15 3
  have x4 : V5.cell? ⟨bH, 4, none⟩ = some (.int .i64 H5.r.a2) := k15 4
  have x5 : V5.cell? ⟨bH, 5, none⟩ = some (.int .i64 H5.r.a3) := k15 5
  have x6 : V5.cell? ⟨bH, 6, none⟩ = some (.int .i64 H5.r.a4) := k15 6
  have x7 : V5.cell? ⟨bH, 7, none⟩ = some (.int .i64 H5.r.a5) := k15 7
  have x8 : V5.cell? ⟨bH, 8, none⟩ = some (.int .i64 H5.s.a0) := k15 8
  have x9 : V5.cell? ⟨bH, 9, none⟩ = some (.int .i64 H5.s.a1) := k15 9
  have x10 : V5.cell? ⟨bH, 10, none⟩ = some (.int .i64 H5.s.a2) := k15 10
  have x11 : V5.cell? ⟨bH, 11, none⟩ = some (.int .i64 H5.s.a3) := k15 11
  have x12 : V5.cell? ⟨bH, 12, none⟩ = some (.int .i64 H5.s.a4) := k15 12
  have x13 : V5.cell? ⟨bH, 13, none⟩ = some (.int .i64 H5.s.a5) := k15 13
  have x14 : V5.cell? ⟨bH, 14, none⟩ = some (.bool H5.l) := k15 14
  clear k15
  have hne := World.new_ne V5 ⟨bH, 0, none⟩ x0
  have nb1 : bH ≠ V5.heap.size := by have := j.lt; omega
  have nb2 : bH ≠ V5.heap.size + 1 := by have := j.lt; omega
  have HRA := Lib.hid (replace_z H5 ((V5.alloc (.cells #[.int .i64 0, .int .i64 0, .int .i64 0, .int .i64 0, .int .i64 0, .int .i64 0, .int .i64 0, .int .i64 0, .int .i64 0, .int .i64 0, .int .i64 0, .int .i64 0] 3)).drew) V5.heap.size (drewB (Blk.new V5 _ _)))
  have HRB := Lib.hid (replace_z H5 (((V5.alloc (.cells #[.int .i64 0, .int .i64 0, .int .i64 0, .int .i64 0, .int .i64 0, .int .i64 0, .int .i64 0, .int .i64 0, .int .i64 0, .int .i64 0, .int .i64 0, .int .i64 0, .int .i64 0, .int .i64 0, .bool false] 57)).alloc (.cells #[.int .i64 0, .int .i64 0, .int .i64 0, .int .i64 0, .int .i64 0, .int .i64 0, .int .i64 0, .int .i64 0, .int .i64 0, .int .i64 0, .int .i64 0, .int .i64 0] 3)).drew) (V5.heap.size + 1) (drewB (Blk.new_at _ _ _ _ _ (by simp) rfl)))
  have HRC := Lib.hid (replace_z H5 (((V5.alloc (.cells #[.int .i64 0, .int .i64 0, .int .i64 0, .int .i64 0, .int .i64 0, .int .i64 0, .int .i64 0, .int .i64 0, .int .i64 0, .int .i64 0, .int .i64 0, .int .i64 0] 3)).alloc (.cells #[.int .i64 0, .int .i64 0, .int .i64 0, .int .i64 0, .int .i64 0, .int .i64 0, .int .i64 0, .int .i64 0, .int .i64 0, .int .i64 0, .int .i64 0, .int .i64 0, .int .i64 0, .int .i64 0, .bool false] 57)).drew) V5.heap.size (drewB ((Blk.new V5 _ _).alloc _)))
  have HBA := Lib.hid (show Below V5.heap.size V5 ((V5.alloc (.cells #[.int .i64 0, .int .i64 0, .int .i64 0, .int .i64 0, .int .i64 0, .int .i64 0, .int .i64 0, .int .i64 0, .int .i64 0, .int .i64 0, .int .i64 0, .int .i64 0] 3)).drew) from bdrew (balloc (bsame V5) _))
  have HBB := Lib.hid (show Below V5.heap.size V5 (((V5.alloc (.cells #[.int .i64 0, .int .i64 0, .int .i64 0, .int .i64 0, .int .i64 0, .int .i64 0, .int .i64 0, .int .i64 0, .int .i64 0, .int .i64 0, .int .i64 0, .int .i64 0, .int .i64 0, .int .i64 0, .bool false] 57)).alloc (.cells #[.int .i64 0, .int .i64 0, .int .i64 0, .int .i64 0, .int .i64 0, .int .i64 0, .int .i64 0, .int .i64 0, .int .i64 0, .int .i64 0, .int .i64 0, .int .i64 0] 3)).drew) from bdrew (balloc (balloc (bsame V5) _) _))
  have HBC := Lib.hid (show Below V5.heap.size V5 (((V5.alloc (.cells #[.int .i64 0, .int .i64 0, .int .i64 0, .int .i64 0, .int .i64 0, .int .i64 0, .int .i64 0, .int .i64 0, .int .i64 0, .int .i64 0, .int .i64 0, .int .i64 0] 3)).alloc (.cells #[.int .i64 0, .int .i64 0, .int .i64 0, .int .i64 0, .int .i64 0, .int .i64 0, .int .i64 0, .int .i64 0, .int .i64 0, .int .i64 0, .int .i64 0, .int .i64 0, .int .i64 0, .int .i64 0, .bool false] 57)).drew) from bdrew (balloc (balloc (bsame V5) _) _))
  have HTB := Lib.hid (show Blk (((V5.alloc (.cells #[.int .i64 0, .int .i64 0, .int .i64 0, .int .i64 0, .int .i64 0, .int .i64 0, .int .i64 0, .int .i64 0, .int .i64 0, .int .i64 0, .int .i64 0, .int .i64 0, .int .i64 0, .int .i64 0, .bool false] 57)).alloc (.cells #[.int .i64 0, .int .i64 0, .int .i64 0, .int .i64 0, .int .i64 0, .int .i64 0, .int .i64 0, .int .i64 0, .int .i64 0, .int .i64 0, .int .i64 0, .int .i64 0] 3)).drew) V5.heap.size #[.int .i64 0, .int .i64 0, .int .i64 0, .int .i64 0, .int .i64 0, .int .i64 0, .int .i64 0, .int .i64 0, .int .i64 0, .int .i64 0, .int .i64 0, .int .i64 0, .int .i64 0, .int .i64 0, .bool false] 57 from drewB ((Blk.new V5 _ _).alloc _))
  have HTC := Lib.hid (show Blk (((V5.alloc (.cells #[.int .i64 0, .int .i64 0, .int .i64 0, .int .i64 0, .int .i64 0, .int .i64 0, .int .i64 0, .int .i64 0, .int .i64 0, .int .i64 0, .int .i64 0, .int .i64 0] 3)).alloc (.cells #[.int .i64 0, .int .i64 0, .int .i64 0, .int .i64 0, .int .i64 0, .int .i64 0, .int .i64 0, .int .i64 0, .int .i64 0, .int .i64 0, .int .i64 0, .int .i64 0, .int .i64 0, .int .i64 0, .bool false] 57)).drew) (V5.heap.size + 1) #[.int .i64 0, .int .i64 0, .int .i64 0, .int .i64 0, .int .i64 0, .int .i64 0, .int .i64 0, .int .i64 0, .int .i64 0, .int .i64 0, .int .i64 0, .int .i64 0, .int .i64 0, .int .i64 0, .bool false] 57 from drewB (Blk.new_at _ _ _ _ _ (by simp) rfl))
  have HJ := Lib.hid j
  have HX := Lib.hid hexit
  clear j hexit
  go_region_held3 (fun w' => w'.cell? ⟨bH, 0, none⟩ = some (.int .i64 H5.b) ∧ w'.cell? ⟨bH, 1, none⟩ = some (.int .i64 H5.n) ∧ w'.cell? ⟨bH, 2, none⟩ = some (.int .i64 H5.r.a0) ∧ w'.cell? ⟨bH, 3, none⟩ = some (.int .i64 H5.r.a1) ∧ w'.cell? ⟨bH, 4, none⟩ = some (.int .i64 H5.r.a2) ∧ w'.cell? ⟨bH, 5, none⟩ = some (.int .i64 H5.r.a3) ∧ w'.cell? ⟨bH, 6, none⟩ = some (.int .i64 H5.r.a4) ∧ w'.cell? ⟨bH, 7, none⟩ = some (.int .i64 H5.r.a5) ∧ w'.cell? ⟨bH, 8, none⟩ = some (.int .i64 H5.s.a0) ∧ w'.cell? ⟨bH, 9, none⟩ = some (.int .i64 H5.s.a1) ∧ w'.cell? ⟨bH, 10, none⟩ = some (.int .i64 H5.s.a2) ∧ w'.cell? ⟨bH, 11, none⟩ = some (.int .i64 H5.s.a3) ∧ w'.cell? ⟨bH, 12, none⟩ = some (.int .i64 H5.s.a4) ∧ w'.cell? ⟨bH, 13, none⟩ = some (.int .i64 H5.s.a5) ∧ w'.cell? ⟨bH, 14, none⟩ = some (.bool H5.l)) (first | (refine ⟨?_, ?_, ?_, ?_, ?_, ?_, ?_, ?_, ?_, ?_, ?_, ?_, ?_, ?_, ?_⟩ <;> (repeat (refine cell_set_ne ?_ (by with_reducible assumption))) <;> with_reducible assumption) | go_keep) (first
    | (go_at_call 32; with_reducible refine HRA.out.mono ?_; rintro e8 w8 ⟨rfl, hb8⟩; have kq := HBA.out.trans (hb8.mono HBA.out.size); have k15 := (HJ.out.below kq HJ.out.lt).cell; have y0 := k15 0; have y1 := k15 1; have y2 := k15 2; have y3 := k15 3; have y4 := k15 4; have y5 := k15 5; have y6 := k15 6; have y7 := k15 7; have y8 := k15 8; have y9 := k15 9; have y10 := k15 10; have y11 := k15 11; have y12 := k15 12; have y13 := k15 13; have y14 := k15 14; simp at y0 y1 y2 y3 y4 y5 y6 y7 y8 y9 y10 y11 y12 y13 y14; clear k15)
    | (go_at_call 32; with_reducible refine HRB.out.mono ?_; rintro e8 w8 ⟨rfl, hb8⟩; have kq := HBB.out.trans (hb8.mono HBB.out.size); have k15 := (HJ.out.below kq HJ.out.lt).cell; have y0 := k15 0; have y1 := k15 1; have y2 := k15 2; have y3 := k15 3; have y4 := k15 4; have y5 := k15 5; have y6 := k15 6; have y7 := k15 7; have y8 := k15 8; have y9 := k15 9; have y10 := k15 10; have y11 := k15 11; have y12 := k15 12; have y13 := k15 13; have y14 := k15 14; simp at y0 y1 y2 y3 y4 y5 y6 y7 y8 y9 y10 y11 y12 y13 y14; clear k15; have kT := HTB.out.below hb8 HTB.out.lt; have cT := kT.cell; have zT := kT.free; have lT := kT.lt)
    | (go_at_call 32; with_reducible refine HRC.out.mono ?_; rintro e8 w8 ⟨rfl, hb8⟩; have kq := HBC.out.trans (hb8.mono HBC.out.size); have k15 := (HJ.out.below kq HJ.out.lt).cell; have y0 := k15 0; have y1 := k15 1; have y2 := k15 2; have y3 := k15 3; have y4 := k15 4; have y5 := k15 5; have y6 := k15 6; have y7 := k15 7; have y8 := k15 8; have y9 := k15 9; have y10 := k15 10; have y11 := k15 11; have y12 := k15 12; have y13 := k15 13; have y14 := k15 14; simp at y0 y1 y2 y3 y4 y5 y6 y7 y8 y9 y10 y11 y12 y13 y14; clear k15; have kT := HTC.out.below hb8 HTC.out.lt; have cT := kT.cell; have zT := kT.free; have lT := kT.lt)
    | fail)
  · exact HX.out _ w8.heap.size _ _ _ _ _ _ (Blk.new _ _ _) (fun b cs t jb => (jb.below kq jb.lt).alloc _) (balloc kq _)
  · change Q _ _ (thW w8 (V5.heap.size + 1) ⟨H5.b, H5.n, ⟨0, 0, 0, 0, 0, 0⟩, ⟨0, 0, 0, 0, 0, 0⟩, H5.l⟩)
    exact HX.out _ (V5.heap.size + 1) _ _ _ _ _ _ (thW_blk (g := ⟨0, 0, ⟨0, 0, 0, 0, 0, 0⟩, ⟨0, 0, 0, 0, 0, 0⟩, false⟩) kT ⟨H5.b, H5.n, ⟨0, 0, 0, 0, 0, 0⟩, ⟨0, 0, 0, 0, 0, 0⟩, H5.l⟩) (fun b cs t jb => thW_other (jb.below kq jb.lt) (by have := jb.lt; omega) _) (thW_below kq (Nat.le_succ _) _)
  · change Q _ _ (thW w8 V5.heap.size ⟨H5.b, H5.n, ⟨0, 0, 0, 0, 0, 0⟩, ⟨0, 0, 0, 0, 0, 0⟩, H5.l⟩)
    exact HX.out _ V5.heap.size _ _ _ _ _ _ (thW_blk (g := ⟨0, 0, ⟨0, 0, 0, 0, 0, 0⟩, ⟨0, 0, 0, 0, 0, 0⟩, false⟩) kT ⟨H5.b, H5.n, ⟨0, 0, 0, 0, 0, 0⟩, ⟨0, 0, 0, 0, 0, 0⟩, H5.l⟩) (fun b cs t jb => thW_other (jb.below kq jb.lt) (by have := jb.lt; omega) _) (thW_below kq (Nat.le_refl _) _)
set_option maxRecDepth 1000000 in
set_option maxHeartbeats 8000000 in
theorem r12_any (Q : Exit → Act → World → Prop) (H5 : ThV) (X : World) (sb bT bH bB bA1 bA2 bA3 bA4 bA5 : Nat) (u0 u2 u12 u13 u14 u15 u16 u17 u18 u19 u20 u21 u22 u23 u24 u25 u26 u27 u28 u29 u30 u31 u32 u33 u34 u35 u36 u37 u38 u39 u40 u41 u42 u43 u44 u45 u46 u47 u48 u49 u50 u51 u52 u53 u54 u55 u56 u57 u58 u59 u60 u61 u62 u63 u64 u65 u66 u67 u68 u69 u70 u71 u72 u73 u74 u75 u76 u77 u78 u79 u80 u81 u82 u83 u84 u85 u86 u87 u88 u89 u90 u91 u92 u93 u94 u95 u96 u97 u98 u99 u100 u101 u102 u103 u104 u105 u106 u107 u108 u109 u110 u111 u112 u113 u114 u115 u116 u117 u118 u119 u120 : Value) (i6 : Blk X bH #[.int .i64 H5.b, .int .i64 H5.n, .int .i64 H5.r.a0, .int .i64 H5.r.a1, .int .i64 H5.r.a2, .int .i64 H5.r.a3, .int .i64 H5.r.a4, .int .i64 H5.r.a5, .int .i64 H5.s.a0, .int .i64 H5.s.a1, .int .i64 H5.s.a2, .int .i64 H5.s.a3, .int .i64 H5.s.a4, .int .i64 H5.s.a5, .bool H5.l] 57) (iT : Blk X bT #[.int .i64 H5.b, .int .i64 H5.n, .int .i64 0, .int .i64 0, .int .i64 0, .int .i64 0, .int .i64 0, .int .i64 0, .int .i64 0, .int .i64 0, .int .i64 0, .int .i64 0, .int .i64 0, .int .i64 0, .bool H5.l] 57) (i1 : Blk X bA1 #[.int .i64 1, .int .i64 0, .int .i64 0] 60) (i2 : Blk X bA2 #[.int .i64 2, .int .i64 0, .int .i64 1] 60) (i3 : Blk X bA3 #[.int .i64 2, .int .i64 0, .int .i64 0] 60) (i4 : Blk X bA4 #[.int .i64 3, .int .i64 0, .int .i64 1] 60) (i5 : Blk X bA5 #[.int .i64 0, .int .i64 0, .int .i64 0] 60)
    (F1 : H5.b = 1) (F2 : H5.r.a0 = 1) (hexit : ∀ (tm : Array Value) (X' : World), tm.getD 0 undef = .bool true → Below X.heap.size X X' → Q .normal ⟨tm, []⟩ X') :
    Code.wp Tryz.prog (reg26 12) Q ⟨#[u0, ptr sb, u2, .slice (some ⟨bB, 0, none⟩) 1 1, ptr bH, ptr bA1, ptr bA2, ptr bA3, ptr bA4, ptr bA5, ptr bT, .bool true, u12, u13, u14, u15, u16, u17, u18, u19, u20, u21, u22, u23, u24, u25, u26, u27, u28, u29, u30, u31, u32, u33, u34, u35, u36, u37, u38, u39, u40, u41, u42, u43, u44, u45, u46, u47, u48, u49, u50, u51, u52, u53, u54, u55, u56, u57, u58, u59, u60, u61, u62, u63, u64, u65, u66, u67, u68, u69, u70, u71, u72, u73, u74, u75, u76, u77, u78, u79, u80, u81, u82, u83, u84, u85, u86, u87, u88, u89, u90, u91, u92, u93, u94, u95, u96, u97, u98, u99, u100, u101, u102, u103, u104, u105, u106, u107, u108, u109, u110, u111, u112, u113, u114, u115, u116, u117, u118, u119, u120], []⟩ X := by
  conv => arg 2; whnf
  have HDn := Lib.hid (fun W => show Calls Tryz.prog 29 #[.slice (some ⟨bB, 0, none⟩) 1 1, .agg #[.int .i64 H5.b, .int .i64 H5.n, .int .i64 H5.r.a0, .int .i64 H5.r.a1, .int .i64 H5.r.a2, .int .i64 H5.r.a3, .int .i64 H5.r.a4, .int .i64 H5.r.a5, .int .i64 H5.s.a0, .int .i64 H5.s.a1, .int .i64 H5.s.a2, .int .i64 H5.s.a3, .int .i64 H5.s.a4, .int .i64 H5.s.a5, .bool H5.l]] W fun e w' => e = .returned (.bool true) ∧ Below W.heap.size W w' from by have := tdone_any H5 (some ⟨bB, 0, none⟩) 1 1 W; rw [F1] at this; exact this)
  have HRt := Lib.hid (fun W => show Calls Tryz.prog 31 #[.agg #[.int .i64 H5.b, .int .i64 H5.n, .int .i64 H5.r.a0, .int .i64 H5.r.a1, .int .i64 H5.r.a2, .int .i64 H5.r.a3, .int .i64 H5.r.a4, .int .i64 H5.r.a5, .int .i64 H5.s.a0, .int .i64 H5.s.a1, .int .i64 H5.s.a2, .int .i64 H5.s.a3, .int .i64 H5.s.a4, .int .i64 H5.s.a5, .bool H5.l]] W fun e w' => e = .returned (.slice (some ⟨W.heap.size + 1, 0, none⟩) 12 12) ∧ Below W.heap.size W w' from (roots_any H5 W).mono fun _ _ h => ⟨h.1, h.2.2⟩)
  have HF := Lib.hid (And.intro F2 F1)
  have HX := Lib.hid hexit
  clear F1 F2 hexit
  have c1 := i1.cell
  have c2 := i2.cell
  have c3 := i3.cell
  have c4 := i4.cell
  have c5 := i5.cell
  have c6 := i6.cell
  have cT := iT.cell
  go_wp2_with fail
  refine (HDn.out _).mono ?_
  rintro ex wx ⟨rfl, hbx⟩
  clear c1 c2 c3 c4 c5 c6 cT
  have i6' := i6.below hbx i6.lt
  have iT' := iT.below hbx iT.lt
  have c6 := i6'.cell
  have cT := iT'.cell
  have f1 : ((H5.r.a0 : Int) == 1) = true := by rw [HF.out.1]; rfl
  have f2 : ((H5.b : Int) == 1) = true := by rw [HF.out.2]; rfl
  go_wp2_with fail
  refine (HRt.out _).mono ?_
  rintro ey wy ⟨rfl, hby⟩
  clear c6 cT
  have cT := (iT'.below hby iT'.lt).cell
  have hfin := btrans hbx hby
  go_wp2_with fail
  exact HX.out _ _ rfl hfin
end Go.Proofs.YtemohiainfllcaaGreat
