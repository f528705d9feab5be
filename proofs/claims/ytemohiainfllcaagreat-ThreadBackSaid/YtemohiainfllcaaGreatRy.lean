/- Chapter 16's example: its five Steps, each a theorem of its own (printed by tools/gen_rs16.py). -/
import Derived.Test.YtemohiainfllcaaGreatRx
namespace Go.Proofs.YtemohiainfllcaaGreat
open Go.RowKit Hp
attribute [local go_sem ↓] Go.wp_at_zero Go.wp_at_succ
set_option maxRecDepth 1000000 in
set_option maxHeartbeats 8000000 in
theorem rs0_any (Q : Exit → Act → World → Prop) (H H' : ThV) (ak ae av : Int) (P : World → Prop) (V : World) (sb bH : Nat) (vb : Value) (u0 u2 u5 u6 u7 u8 u9 u10 u11 u12 u13 u14 u15 u16 u17 u18 u19 u20 u21 u22 u23 u24 u25 u26 u27 u28 u29 u30 u31 u32 u33 u34 u35 u36 u37 u38 u39 u40 u41 u42 u43 u44 u45 u46 u47 u48 u49 u50 u51 u52 u53 u54 u55 u56 u57 u58 u59 u60 u61 u62 u63 u64 u65 u66 u67 u68 u69 u70 u71 u72 u73 u74 u75 u76 u77 u78 u79 u80 u81 u82 u83 u84 u85 u86 u87 u88 u89 u90 u91 u92 u93 u94 u95 u96 u97 u98 u99 u100 u101 u102 u103 u104 u105 u106 u107 u108 u109 u110 u111 u112 u113 u114 u115 u116 u117 u118 u119 u120 : Value) (j : Blk V bH #[.int .i64 H.b, .int .i64 H.n, .int .i64 H.r.a0, .int .i64 H.r.a1, .int .i64 H.r.a2, .int .i64 H.r.a3, .int .i64 H.r.a4, .int .i64 H.r.a5, .int .i64 H.s.a0, .int .i64 H.s.a1, .int .i64 H.s.a2, .int .i64 H.s.a3, .int .i64 H.s.a4, .int .i64 H.s.a5, .bool H.l] 57)
    (hcall : Calls Tryz.prog 30 #[ptr sb, .int .i64 0, vb, .agg #[.int .i64 H.b, .int .i64 H.n, .int .i64 H.r.a0, .int .i64 H.r.a1, .int .i64 H.r.a2, .int .i64 H.r.a3, .int .i64 H.r.a4, .int .i64 H.r.a5, .int .i64 H.s.a0, .int .i64 H.s.a1, .int .i64 H.s.a2, .int .i64 H.s.a3, .int .i64 H.s.a4, .int .i64 H.s.a5, .bool H.l]] V fun e w' => e = .returned (.tuple #[.agg #[.int .i64 H'.b, .int .i64 H'.n, .int .i64 H'.r.a0, .int .i64 H'.r.a1, .int .i64 H'.r.a2, .int .i64 H'.r.a3, .int .i64 H'.r.a4, .int .i64 H'.r.a5, .int .i64 H'.s.a0, .int .i64 H'.s.a1, .int .i64 H'.s.a2, .int .i64 H'.s.a3, .int .i64 H'.s.a4, .int .i64 H'.s.a5, .bool H'.l], .agg #[.int .i64 ak, .int .i64 ae, .int .i64 av]]) ∧ P w')
    (hP : ∀ w', P w' → Blk w' bH #[.int .i64 H.b, .int .i64 H.n, .int .i64 H.r.a0, .int .i64 H.r.a1, .int .i64 H.r.a2, .int .i64 H.r.a3, .int .i64 H.r.a4, .int .i64 H.r.a5, .int .i64 H.s.a0, .int .i64 H.s.a1, .int .i64 H.s.a2, .int .i64 H.s.a3, .int .i64 H.s.a4, .int .i64 H.s.a5, .bool H.l] 57)
    (hexit : ∀ w' U, P w' → Wr bH w' U → U.heap.size = w'.heap.size → Blk U bH #[.int .i64 H'.b, .int .i64 H'.n, .int .i64 H'.r.a0, .int .i64 H'.r.a1, .int .i64 H'.r.a2, .int .i64 H'.r.a3, .int .i64 H'.r.a4, .int .i64 H'.r.a5, .int .i64 H'.s.a0, .int .i64 H'.s.a1, .int .i64 H'.s.a2, .int .i64 H'.s.a3, .int .i64 H'.s.a4, .int .i64 H'.s.a5, .bool H'.l] 57 → Q .normal ⟨#[u0, ptr sb, u2, vb, ptr bH, ptr w'.heap.size, u6, u7, u8, u9, u10, u11, u12, u13, u14, u15, u16, u17, u18, u19, u20, u21, u22, u23, u24, u25, (.tuple #[.agg #[.int .i64 H'.b, .int .i64 H'.n, .int .i64 H'.r.a0, .int .i64 H'.r.a1, .int .i64 H'.r.a2, .int .i64 H'.r.a3, .int .i64 H'.r.a4, .int .i64 H'.r.a5, .int .i64 H'.s.a0, .int .i64 H'.s.a1, .int .i64 H'.s.a2, .int .i64 H'.s.a3, .int .i64 H'.s.a4, .int .i64 H'.s.a5, .bool H'.l], .agg #[.int .i64 ak, .int .i64 ae, .int .i64 av]]), ptr sb, vb, .agg #[.int .i64 H.b, .int .i64 H.n, .int .i64 H.r.a0, .int .i64 H.r.a1, .int .i64 H.r.a2, .int .i64 H.r.a3, .int .i64 H.r.a4, .int .i64 H.r.a5, .int .i64 H.s.a0, .int .i64 H.s.a1, .int .i64 H.s.a2, .int .i64 H.s.a3, .int .i64 H.s.a4, .int .i64 H.s.a5, .bool H.l], (.tuple #[.agg #[.int .i64 H'.b, .int .i64 H'.n, .int .i64 H'.r.a0, .int .i64 H'.r.a1, .int .i64 H'.r.a2, .int .i64 H'.r.a3, .int .i64 H'.r.a4, .int .i64 H'.r.a5, .int .i64 H'.s.a0, .int .i64 H'.s.a1, .int .i64 H'.s.a2, .int .i64 H'.s.a3, .int .i64 H'.s.a4, .int .i64 H'.s.a5, .bool H'.l], .agg #[.int .i64 ak, .int .i64 ae, .int .i64 av]]), .agg #[.int .i64 H'.b, .int .i64 H'.n, .int .i64 H'.r.a0, .int .i64 H'.r.a1, .int .i64 H'.r.a2, .int .i64 H'.r.a3, .int .i64 H'.r.a4, .int .i64 H'.r.a5, .int .i64 H'.s.a0, .int .i64 H'.s.a1, .int .i64 H'.s.a2, .int .i64 H'.s.a3, .int .i64 H'.s.a4, .int .i64 H'.s.a5, .bool H'.l], .agg #[.int .i64 ak, .int .i64 ae, .int .i64 av], u33, u34, u35, u36, u37, u38, u39, u40, u41, u42, u43, u44, u45, u46, u47, u48, u49, u50, u51, u52, u53, u54, u55, u56, u57, u58, u59, u60, u61, u62, u63, u64, u65, u66, u67, u68, u69, u70, u71, u72, u73, u74, u75, u76, u77, u78, u79, u80, u81, u82, u83, u84, u85, u86, u87, u88, u89, u90, u91, u92, u93, u94, u95, u96, u97, u98, u99, u100, u101, u102, u103, u104, u105, u106, u107, u108, u109, u110, u111, u112, u113, u114, u115, u116, u117, u118, u119, u120], []⟩ (U.alloc (.cells #[.int .i64 ak, .int .i64 ae, .int .i64 av] 60))) :
    Code.wp Tryz.prog (reg26 6) Q ⟨#[u0, ptr sb, u2, vb, ptr bH, u5, u6, u7, u8, u9, u10, u11, u12, u13, u14, u15, u16, u17, u18, u19, u20, u21, u22, u23, u24, u25, u26, u27, u28, u29, u30, u31, u32, u33, u34, u35, u36, u37, u38, u39, u40, u41, u42, u43, u44, u45, u46, u47, u48, u49, u50, u51, u52, u53, u54, u55, u56, u57, u58, u59, u60, u61, u62, u63, u64, u65, u66, u67, u68, u69, u70, u71, u72, u73, u74, u75, u76, u77, u78, u79, u80, u81, u82, u83, u84, u85, u86, u87, u88, u89, u90, u91, u92, u93, u94, u95, u96, u97, u98, u99, u100, u101, u102, u103, u104, u105, u106, u107, u108, u109, u110, u111, u112, u113, u114, u115, u116, u117, u118, u119, u120], []⟩ V := by
  conv => arg 2; whnf
  have HC := Lib.hid hcall
  have HP := Lib.hid hP
  have HX := Lib.hid hexit
  have c := j.cell
  clear hcall hP hexit
  go_wp2_with fail
  refine HC.out.mono ?_
  rintro e w1 ⟨rfl, hp⟩
  have j1 := HP.out w1 hp
  have l4 := j1.lt
  have HE := Lib.hid (HX.out w1 (((((((((((((((w1.setCell ⟨bH, 0, none⟩ (.int .i64 H'.b)).setCell ⟨bH, 1, none⟩ (.int .i64 H'.n)).setCell ⟨bH, 2, none⟩ (.int .i64 H'.r.a0)).setCell ⟨bH, 3, none⟩ (.int .i64 H'.r.a1)).setCell ⟨bH, 4, none⟩ (.int .i64 H'.r.a2)).setCell ⟨bH, 5, none⟩ (.int .i64 H'.r.a3)).setCell ⟨bH, 6, none⟩ (.int .i64 H'.r.a4)).setCell ⟨bH, 7, none⟩ (.int .i64 H'.r.a5)).setCell ⟨bH, 8, none⟩ (.int .i64 H'.s.a0)).setCell ⟨bH, 9, none⟩ (.int .i64 H'.s.a1)).setCell ⟨bH, 10, none⟩ (.int .i64 H'.s.a2)).setCell ⟨bH, 11, none⟩ (.int .i64 H'.s.a3)).setCell ⟨bH, 12, none⟩ (.int .i64 H'.s.a4)).setCell ⟨bH, 13, none⟩ (.int .i64 H'.s.a5)).setCell ⟨bH, 14, none⟩ (.bool H'.l)) hp ((((((((((((((((Wr.refl _ _).trans (Wr.set _ _ 0 _)).trans (Wr.set _ _ 1 _)).trans (Wr.set _ _ 2 _)).trans (Wr.set _ _ 3 _)).trans (Wr.set _ _ 4 _)).trans (Wr.set _ _ 5 _)).trans (Wr.set _ _ 6 _)).trans (Wr.set _ _ 7 _)).trans (Wr.set _ _ 8 _)).trans (Wr.set _ _ 9 _)).trans (Wr.set _ _ 10 _)).trans (Wr.set _ _ 11 _)).trans (Wr.set _ _ 12 _)).trans (Wr.set _ _ 13 _)).trans (Wr.set _ _ 14 _)) (by simp) (by
    have k := (((((((((((((((j1.set 0 (.int .i64 H'.b)).set 1 (.int .i64 H'.n)).set 2 (.int .i64 H'.r.a0)).set 3 (.int .i64 H'.r.a1)).set 4 (.int .i64 H'.r.a2)).set 5 (.int .i64 H'.r.a3)).set 6 (.int .i64 H'.r.a4)).set 7 (.int .i64 H'.r.a5)).set 8 (.int .i64 H'.s.a0)).set 9 (.int .i64 H'.s.a1)).set 10 (.int .i64 H'.s.a2)).set 11 (.int .i64 H'.s.a3)).set 12 (.int .i64 H'.s.a4)).set 13 (.int .i64 H'.s.a5)).set 14 (.bool H'.l))
    simp only [List.setIfInBounds_toArray, List.set_cons_zero, List.set_cons_succ] at k
    exact k))
  have z4 := j1.free
  have c4 := j1.cell
  clear HC HP HX c j1 hp j
  go_wp2_with fail
  exact HE.out
set_option maxRecDepth 1000000 in
set_option maxHeartbeats 8000000 in
theorem rs1_any (Q : Exit → Act → World → Prop) (H H' : ThV) (ak ae av : Int) (P : World → Prop) (V : World) (sb bH : Nat) (vb : Value) (u0 u2 u5 u6 u7 u8 u9 u10 u11 u12 u13 u14 u15 u16 u17 u18 u19 u20 u21 u22 u23 u24 u25 u26 u27 u28 u29 u30 u31 u32 u33 u34 u35 u36 u37 u38 u39 u40 u41 u42 u43 u44 u45 u46 u47 u48 u49 u50 u51 u52 u53 u54 u55 u56 u57 u58 u59 u60 u61 u62 u63 u64 u65 u66 u67 u68 u69 u70 u71 u72 u73 u74 u75 u76 u77 u78 u79 u80 u81 u82 u83 u84 u85 u86 u87 u88 u89 u90 u91 u92 u93 u94 u95 u96 u97 u98 u99 u100 u101 u102 u103 u104 u105 u106 u107 u108 u109 u110 u111 u112 u113 u114 u115 u116 u117 u118 u119 u120 : Value) (j : Blk V bH #[.int .i64 H.b, .int .i64 H.n, .int .i64 H.r.a0, .int .i64 H.r.a1, .int .i64 H.r.a2, .int .i64 H.r.a3, .int .i64 H.r.a4, .int .i64 H.r.a5, .int .i64 H.s.a0, .int .i64 H.s.a1, .int .i64 H.s.a2, .int .i64 H.s.a3, .int .i64 H.s.a4, .int .i64 H.s.a5, .bool H.l] 57)
    (hcall : Calls Tryz.prog 30 #[ptr sb, .int .i64 0, vb, .agg #[.int .i64 H.b, .int .i64 H.n, .int .i64 H.r.a0, .int .i64 H.r.a1, .int .i64 H.r.a2, .int .i64 H.r.a3, .int .i64 H.r.a4, .int .i64 H.r.a5, .int .i64 H.s.a0, .int .i64 H.s.a1, .int .i64 H.s.a2, .int .i64 H.s.a3, .int .i64 H.s.a4, .int .i64 H.s.a5, .bool H.l]] V fun e w' => e = .returned (.tuple #[.agg #[.int .i64 H'.b, .int .i64 H'.n, .int .i64 H'.r.a0, .int .i64 H'.r.a1, .int .i64 H'.r.a2, .int .i64 H'.r.a3, .int .i64 H'.r.a4, .int .i64 H'.r.a5, .int .i64 H'.s.a0, .int .i64 H'.s.a1, .int .i64 H'.s.a2, .int .i64 H'.s.a3, .int .i64 H'.s.a4, .int .i64 H'.s.a5, .bool H'.l], .agg #[.int .i64 ak, .int .i64 ae, .int .i64 av]]) ∧ P w')
    (hP : ∀ w', P w' → Blk w' bH #[.int .i64 H.b, .int .i64 H.n, .int .i64 H.r.a0, .int .i64 H.r.a1, .int .i64 H.r.a2, .int .i64 H.r.a3, .int .i64 H.r.a4, .int .i64 H.r.a5, .int .i64 H.s.a0, .int .i64 H.s.a1, .int .i64 H.s.a2, .int .i64 H.s.a3, .int .i64 H.s.a4, .int .i64 H.s.a5, .bool H.l] 57)
    (hexit : ∀ w' U, P w' → Wr bH w' U → U.heap.size = w'.heap.size → Blk U bH #[.int .i64 H'.b, .int .i64 H'.n, .int .i64 H'.r.a0, .int .i64 H'.r.a1, .int .i64 H'.r.a2, .int .i64 H'.r.a3, .int .i64 H'.r.a4, .int .i64 H'.r.a5, .int .i64 H'.s.a0, .int .i64 H'.s.a1, .int .i64 H'.s.a2, .int .i64 H'.s.a3, .int .i64 H'.s.a4, .int .i64 H'.s.a5, .bool H'.l] 57 → Q .normal ⟨#[u0, ptr sb, u2, vb, ptr bH, u5, ptr w'.heap.size, u7, u8, u9, u10, u11, u12, u13, u14, u15, u16, u17, u18, u19, u20, u21, u22, u23, u24, u25, u26, u27, u28, u29, u30, u31, u32, (.tuple #[.agg #[.int .i64 H'.b, .int .i64 H'.n, .int .i64 H'.r.a0, .int .i64 H'.r.a1, .int .i64 H'.r.a2, .int .i64 H'.r.a3, .int .i64 H'.r.a4, .int .i64 H'.r.a5, .int .i64 H'.s.a0, .int .i64 H'.s.a1, .int .i64 H'.s.a2, .int .i64 H'.s.a3, .int .i64 H'.s.a4, .int .i64 H'.s.a5, .bool H'.l], .agg #[.int .i64 ak, .int .i64 ae, .int .i64 av]]), ptr sb, vb, .agg #[.int .i64 H.b, .int .i64 H.n, .int .i64 H.r.a0, .int .i64 H.r.a1, .int .i64 H.r.a2, .int .i64 H.r.a3, .int .i64 H.r.a4, .int .i64 H.r.a5, .int .i64 H.s.a0, .int .i64 H.s.a1, .int .i64 H.s.a2, .int .i64 H.s.a3, .int .i64 H.s.a4, .int .i64 H.s.a5, .bool H.l], (.tuple #[.agg #[.int .i64 H'.b, .int .i64 H'.n, .int .i64 H'.r.a0, .int .i64 H'.r.a1, .int .i64 H'.r.a2, .int .i64 H'.r.a3, .int .i64 H'.r.a4, .int .i64 H'.r.a5, .int .i64 H'.s.a0, .int .i64 H'.s.a1, .int .i64 H'.s.a2, .int .i64 H'.s.a3, .int .i64 H'.s.a4, .int .i64 H'.s.a5, .bool H'.l], .agg #[.int .i64 ak, .int .i64 ae, .int .i64 av]]), .agg #[.int .i64 H'.b, .int .i64 H'.n, .int .i64 H'.r.a0, .int .i64 H'.r.a1, .int .i64 H'.r.a2, .int .i64 H'.r.a3, .int .i64 H'.r.a4, .int .i64 H'.r.a5, .int .i64 H'.s.a0, .int .i64 H'.s.a1, .int .i64 H'.s.a2, .int .i64 H'.s.a3, .int .i64 H'.s.a4, .int .i64 H'.s.a5, .bool H'.l], .agg #[.int .i64 ak, .int .i64 ae, .int .i64 av], u40, u41, u42, u43, u44, u45, u46, u47, u48, u49, u50, u51, u52, u53, u54, u55, u56, u57, u58, u59, u60, u61, u62, u63, u64, u65, u66, u67, u68, u69, u70, u71, u72, u73, u74, u75, u76, u77, u78, u79, u80, u81, u82, u83, u84, u85, u86, u87, u88, u89, u90, u91, u92, u93, u94, u95, u96, u97, u98, u99, u100, u101, u102, u103, u104, u105, u106, u107, u108, u109, u110, u111, u112, u113, u114, u115, u116, u117, u118, u119, u120], []⟩ (U.alloc (.cells #[.int .i64 ak, .int .i64 ae, .int .i64 av] 60))) :
    Code.wp Tryz.prog (reg26 7) Q ⟨#[u0, ptr sb, u2, vb, ptr bH, u5, u6, u7, u8, u9, u10, u11, u12, u13, u14, u15, u16, u17, u18, u19, u20, u21, u22, u23, u24, u25, u26, u27, u28, u29, u30, u31, u32, u33, u34, u35, u36, u37, u38, u39, u40, u41, u42, u43, u44, u45, u46, u47, u48, u49, u50, u51, u52, u53, u54, u55, u56, u57, u58, u59, u60, u61, u62, u63, u64, u65, u66, u67, u68, u69, u70, u71, u72, u73, u74, u75, u76, u77, u78, u79, u80, u81, u82, u83, u84, u85, u86, u87, u88, u89, u90, u91, u92, u93, u94, u95, u96, u97, u98, u99, u100, u101, u102, u103, u104, u105, u106, u107, u108, u109, u110, u111, u112, u113, u114, u115, u116, u117, u118, u119, u120], []⟩ V := by
  conv => arg 2; whnf
  have HC := Lib.hid hcall
  have HP := Lib.hid hP
  have HX := Lib.hid hexit
  have c := j.cell
  clear hcall hP hexit
  go_wp2_with fail
  refine HC.out.mono ?_
  rintro e w1 ⟨rfl, hp⟩
  have j1 := HP.out w1 hp
  have l4 := j1.lt
  have HE := Lib.hid (HX.out w1 (((((((((((((((w1.setCell ⟨bH, 0, none⟩ (.int .i64 H'.b)).setCell ⟨bH, 1, none⟩ (.int .i64 H'.n)).setCell ⟨bH, 2, none⟩ (.int .i64 H'.r.a0)).setCell ⟨bH, 3, none⟩ (.int .i64 H'.r.a1)).setCell ⟨bH, 4, none⟩ (.int .i64 H'.r.a2)).setCell ⟨bH, 5, none⟩ (.int .i64 H'.r.a3)).setCell ⟨bH, 6, none⟩ (.int .i64 H'.r.a4)).setCell ⟨bH, 7, none⟩ (.int .i64 H'.r.a5)).setCell ⟨bH, 8, none⟩ (.int .i64 H'.s.a0)).setCell ⟨bH, 9, none⟩ (.int .i64 H'.s.a1)).setCell ⟨bH, 10, none⟩ (.int .i64 H'.s.a2)).setCell ⟨bH, 11, none⟩ (.int .i64 H'.s.a3)).setCell ⟨bH, 12, none⟩ (.int .i64 H'.s.a4)).setCell ⟨bH, 13, none⟩ (.int .i64 H'.s.a5)).setCell ⟨bH, 14, none⟩ (.bool H'.l)) hp ((((((((((((((((Wr.refl _ _).trans (Wr.set _ _ 0 _)).trans (Wr.set _ _ 1 _)).trans (Wr.set _ _ 2 _)).trans (Wr.set _ _ 3 _)).trans (Wr.set _ _ 4 _)).trans (Wr.set _ _ 5 _)).trans (Wr.set _ _ 6 _)).trans (Wr.set _ _ 7 _)).trans (Wr.set _ _ 8 _)).trans (Wr.set _ _ 9 _)).trans (Wr.set _ _ 10 _)).trans (Wr.set _ _ 11 _)).trans (Wr.set _ _ 12 _)).trans (Wr.set _ _ 13 _)).trans (Wr.set _ _ 14 _)) (by simp) (by
    have k := (((((((((((((((j1.set 0 (.int .i64 H'.b)).set 1 (.int .i64 H'.n)).set 2 (.int .i64 H'.r.a0)).set 3 (.int .i64 H'.r.a1)).set 4 (.int .i64 H'.r.a2)).set 5 (.int .i64 H'.r.a3)).set 6 (.int .i64 H'.r.a4)).set 7 (.int .i64 H'.r.a5)).set 8 (.int .i64 H'.s.a0)).set 9 (.int .i64 H'.s.a1)).set 10 (.int .i64 H'.s.a2)).set 11 (.int .i64 H'.s.a3)).set 12 (.int .i64 H'.s.a4)).set 13 (.int .i64 H'.s.a5)).set 14 (.bool H'.l))
    simp only [List.setIfInBounds_toArray, List.set_cons_zero, List.set_cons_succ] at k
    exact k))
  have z4 := j1.free
  have c4 := j1.cell
  clear HC HP HX c j1 hp j
  go_wp2_with fail
  exact HE.out
set_option maxRecDepth 1000000 in
set_option maxHeartbeats 8000000 in
theorem rs2_any (Q : Exit → Act → World → Prop) (H H' : ThV) (ak ae av : Int) (P : World → Prop) (V : World) (sb bH : Nat) (vb : Value) (u0 u2 u5 u6 u7 u8 u9 u10 u11 u12 u13 u14 u15 u16 u17 u18 u19 u20 u21 u22 u23 u24 u25 u26 u27 u28 u29 u30 u31 u32 u33 u34 u35 u36 u37 u38 u39 u40 u41 u42 u43 u44 u45 u46 u47 u48 u49 u50 u51 u52 u53 u54 u55 u56 u57 u58 u59 u60 u61 u62 u63 u64 u65 u66 u67 u68 u69 u70 u71 u72 u73 u74 u75 u76 u77 u78 u79 u80 u81 u82 u83 u84 u85 u86 u87 u88 u89 u90 u91 u92 u93 u94 u95 u96 u97 u98 u99 u100 u101 u102 u103 u104 u105 u106 u107 u108 u109 u110 u111 u112 u113 u114 u115 u116 u117 u118 u119 u120 : Value) (j : Blk V bH #[.int .i64 H.b, .int .i64 H.n, .int .i64 H.r.a0, .int .i64 H.r.a1, .int .i64 H.r.a2, .int .i64 H.r.a3, .int .i64 H.r.a4, .int .i64 H.r.a5, .int .i64 H.s.a0, .int .i64 H.s.a1, .int .i64 H.s.a2, .int .i64 H.s.a3, .int .i64 H.s.a4, .int .i64 H.s.a5, .bool H.l] 57)
    (hcall : Calls Tryz.prog 30 #[ptr sb, .int .i64 0, vb, .agg #[.int .i64 H.b, .int .i64 H.n, .int .i64 H.r.a0, .int .i64 H.r.a1, .int .i64 H.r.a2, .int .i64 H.r.a3, .int .i64 H.r.a4, .int .i64 H.r.a5, .int .i64 H.s.a0, .int .i64 H.s.a1, .int .i64 H.s.a2, .int .i64 H.s.a3, .int .i64 H.s.a4, .int .i64 H.s.a5, .bool H.l]] V fun e w' => e = .returned (.tuple #[.agg #[.int .i64 H'.b, .int .i64 H'.n, .int .i64 H'.r.a0, .int .i64 H'.r.a1, .int .i64 H'.r.a2, .int .i64 H'.r.a3, .int .i64 H'.r.a4, .int .i64 H'.r.a5, .int .i64 H'.s.a0, .int .i64 H'.s.a1, .int .i64 H'.s.a2, .int .i64 H'.s.a3, .int .i64 H'.s.a4, .int .i64 H'.s.a5, .bool H'.l], .agg #[.int .i64 ak, .int .i64 ae, .int .i64 av]]) ∧ P w')
    (hP : ∀ w', P w' → Blk w' bH #[.int .i64 H.b, .int .i64 H.n, .int .i64 H.r.a0, .int .i64 H.r.a1, .int .i64 H.r.a2, .int .i64 H.r.a3, .int .i64 H.r.a4, .int .i64 H.r.a5, .int .i64 H.s.a0, .int .i64 H.s.a1, .int .i64 H.s.a2, .int .i64 H.s.a3, .int .i64 H.s.a4, .int .i64 H.s.a5, .bool H.l] 57)
    (hexit : ∀ w' U, P w' → Wr bH w' U → U.heap.size = w'.heap.size → Blk U bH #[.int .i64 H'.b, .int .i64 H'.n, .int .i64 H'.r.a0, .int .i64 H'.r.a1, .int .i64 H'.r.a2, .int .i64 H'.r.a3, .int .i64 H'.r.a4, .int .i64 H'.r.a5, .int .i64 H'.s.a0, .int .i64 H'.s.a1, .int .i64 H'.s.a2, .int .i64 H'.s.a3, .int .i64 H'.s.a4, .int .i64 H'.s.a5, .bool H'.l] 57 → Q .normal ⟨#[u0, ptr sb, u2, vb, ptr bH, u5, u6, ptr w'.heap.size, u8, u9, u10, u11, u12, u13, u14, u15, u16, u17, u18, u19, u20, u21, u22, u23, u24, u25, u26, u27, u28, u29, u30, u31, u32, u33, u34, u35, u36, u37, u38, u39, (.tuple #[.agg #[.int .i64 H'.b, .int .i64 H'.n, .int .i64 H'.r.a0, .int .i64 H'.r.a1, .int .i64 H'.r.a2, .int .i64 H'.r.a3, .int .i64 H'.r.a4, .int .i64 H'.r.a5, .int .i64 H'.s.a0, .int .i64 H'.s.a1, .int .i64 H'.s.a2, .int .i64 H'.s.a3, .int .i64 H'.s.a4, .int .i64 H'.s.a5, .bool H'.l], .agg #[.int .i64 ak, .int .i64 ae, .int .i64 av]]), ptr sb, vb, .agg #[.int .i64 H.b, .int .i64 H.n, .int .i64 H.r.a0, .int .i64 H.r.a1, .int .i64 H.r.a2, .int .i64 H.r.a3, .int .i64 H.r.a4, .int .i64 H.r.a5, .int .i64 H.s.a0, .int .i64 H.s.a1, .int .i64 H.s.a2, .int .i64 H.s.a3, .int .i64 H.s.a4, .int .i64 H.s.a5, .bool H.l], (.tuple #[.agg #[.int .i64 H'.b, .int .i64 H'.n, .int .i64 H'.r.a0, .int .i64 H'.r.a1, .int .i64 H'.r.a2, .int .i64 H'.r.a3, .int .i64 H'.r.a4, .int .i64 H'.r.a5, .int .i64 H'.s.a0, .int .i64 H'.s.a1, .int .i64 H'.s.a2, .int .i64 H'.s.a3, .int .i64 H'.s.a4, .int .i64 H'.s.a5, .bool H'.l], .agg #[.int .i64 ak, .int .i64 ae, .int .i64 av]]), .agg #[.int .i64 H'.b, .int .i64 H'.n, .int .i64 H'.r.a0, .int .i64 H'.r.a1, .int .i64 H'.r.a2, .int .i64 H'.r.a3, .int .i64 H'.r.a4, .int .i64 H'.r.a5, .int .i64 H'.s.a0, .int .i64 H'.s.a1, .int .i64 H'.s.a2, .int .i64 H'.s.a3, .int .i64 H'.s.a4, .int .i64 H'.s.a5, .bool H'.l], .agg #[.int .i64 ak, .int .i64 ae, .int .i64 av], u47, u48, u49, u50, u51, u52, u53, u54, u55, u56, u57, u58, u59, u60, u61, u62, u63, u64, u65, u66, u67, u68, u69, u70, u71, u72, u73, u74, u75, u76, u77, u78, u79, u80, u81, u82, u83, u84, u85, u86, u87, u88, u89, u90, u91, u92, u93, u94, u95, u96, u97, u98, u99, u100, u101, u102, u103, u104, u105, u106, u107, u108, u109, u110, u111, u112, u113, u114, u115, u116, u117, u118, u119, u120], []⟩ (U.alloc (.cells #[.int .i64 ak, .int .i64 ae, .int .i64 av] 60))) :
    Code.wp Tryz.prog (reg26 8) Q ⟨#[u0, ptr sb, u2, vb, ptr bH, u5, u6, u7, u8, u9, u10, u11, u12, u13, u14, u15, u16, u17, u18, u19, u20, u21, u22, u23, u24, u25, u26, u27, u28, u29, u30, u31, u32, u33, u34, u35, u36, u37, u38, u39, u40, u41, u42, u43, u44, u45, u46, u47, u48, u49, u50, u51, u52, u53, u54, u55, u56, u57, u58, u59, u60, u61, u62, u63, u64, u65, u66, u67, u68, u69, u70, u71, u72, u73, u74, u75, u76, u77, u78, u79, u80, u81, u82, u83, u84, u85, u86, u87, u88, u89, u90, u91, u92, u93, u94, u95, u96, u97, u98, u99, u100, u101, u102, u103, u104, u105, u106, u107, u108, u109, u110, u111, u112, u113, u114, u115, u116, u117, u118, u119, u120], []⟩ V := by
  conv => arg 2; whnf
  have HC := Lib.hid hcall
  have HP := Lib.hid hP
  have HX := Lib.hid hexit
  have c := j.cell
  clear hcall hP hexit
  go_wp2_with fail
  refine HC.out.mono ?_
  rintro e w1 ⟨rfl, hp⟩
  have j1 := HP.out w1 hp
  have l4 := j1.lt
  have HE := Lib.hid (HX.out w1 (((((((((((((((w1.setCell ⟨bH, 0, none⟩ (.int .i64 H'.b)).setCell ⟨bH, 1, none⟩ (.int .i64 H'.n)).setCell ⟨bH, 2, none⟩ (.int .i64 H'.r.a0)).setCell ⟨bH, 3, none⟩ (.int .i64 H'.r.a1)).setCell ⟨bH, 4, none⟩ (.int .i64 H'.r.a2)).setCell ⟨bH, 5, none⟩ (.int .i64 H'.r.a3)).setCell ⟨bH, 6, none⟩ (.int .i64 H'.r.a4)).setCell ⟨bH, 7, none⟩ (.int .i64 H'.r.a5)).setCell ⟨bH, 8, none⟩ (.int .i64 H'.s.a0)).setCell ⟨bH, 9, none⟩ (.int .i64 H'.s.a1)).setCell ⟨bH, 10, none⟩ (.int .i64 H'.s.a2)).setCell ⟨bH, 11, none⟩ (.int .i64 H'.s.a3)).setCell ⟨bH, 12, none⟩ (.int .i64 H'.s.a4)).setCell ⟨bH, 13, none⟩ (.int .i64 H'.s.a5)).setCell ⟨bH, 14, none⟩ (.bool H'.l)) hp ((((((((((((((((Wr.refl _ _).trans (Wr.set _ _ 0 _)).trans (Wr.set _ _ 1 _)).trans (Wr.set _ _ 2 _)).trans (Wr.set _ _ 3 _)).trans (Wr.set _ _ 4 _)).trans (Wr.set _ _ 5 _)).trans (Wr.set _ _ 6 _)).trans (Wr.set _ _ 7 _)).trans (Wr.set _ _ 8 _)).trans (Wr.set _ _ 9 _)).trans (Wr.set _ _ 10 _)).trans (Wr.set _ _ 11 _)).trans (Wr.set _ _ 12 _)).trans (Wr.set _ _ 13 _)).trans (Wr.set _ _ 14 _)) (by simp) (by
    have k := (((((((((((((((j1.set 0 (.int .i64 H'.b)).set 1 (.int .i64 H'.n)).set 2 (.int .i64 H'.r.a0)).set 3 (.int .i64 H'.r.a1)).set 4 (.int .i64 H'.r.a2)).set 5 (.int .i64 H'.r.a3)).set 6 (.int .i64 H'.r.a4)).set 7 (.int .i64 H'.r.a5)).set 8 (.int .i64 H'.s.a0)).set 9 (.int .i64 H'.s.a1)).set 10 (.int .i64 H'.s.a2)).set 11 (.int .i64 H'.s.a3)).set 12 (.int .i64 H'.s.a4)).set 13 (.int .i64 H'.s.a5)).set 14 (.bool H'.l))
    simp only [List.setIfInBounds_toArray, List.set_cons_zero, List.set_cons_succ] at k
    exact k))
  have z4 := j1.free
  have c4 := j1.cell
  clear HC HP HX c j1 hp j
  go_wp2_with fail
  exact HE.out
set_option maxRecDepth 1000000 in
set_option maxHeartbeats 8000000 in
theorem rs3_any (Q : Exit → Act → World → Prop) (H H' : ThV) (ak ae av : Int) (P : World → Prop) (V : World) (sb bH : Nat) (vb : Value) (u0 u2 u5 u6 u7 u8 u9 u10 u11 u12 u13 u14 u15 u16 u17 u18 u19 u20 u21 u22 u23 u24 u25 u26 u27 u28 u29 u30 u31 u32 u33 u34 u35 u36 u37 u38 u39 u40 u41 u42 u43 u44 u45 u46 u47 u48 u49 u50 u51 u52 u53 u54 u55 u56 u57 u58 u59 u60 u61 u62 u63 u64 u65 u66 u67 u68 u69 u70 u71 u72 u73 u74 u75 u76 u77 u78 u79 u80 u81 u82 u83 u84 u85 u86 u87 u88 u89 u90 u91 u92 u93 u94 u95 u96 u97 u98 u99 u100 u101 u102 u103 u104 u105 u106 u107 u108 u109 u110 u111 u112 u113 u114 u115 u116 u117 u118 u119 u120 : Value) (j : Blk V bH #[.int .i64 H.b, .int .i64 H.n, .int .i64 H.r.a0, .int .i64 H.r.a1, .int .i64 H.r.a2, .int .i64 H.r.a3, .int .i64 H.r.a4, .int .i64 H.r.a5, .int .i64 H.s.a0, .int .i64 H.s.a1, .int .i64 H.s.a2, .int .i64 H.s.a3, .int .i64 H.s.a4, .int .i64 H.s.a5, .bool H.l] 57)
    (hcall : Calls Tryz.prog 30 #[ptr sb, .int .i64 0, vb, .agg #[.int .i64 H.b, .int .i64 H.n, .int .i64 H.r.a0, .int .i64 H.r.a1, .int .i64 H.r.a2, .int .i64 H.r.a3, .int .i64 H.r.a4, .int .i64 H.r.a5, .int .i64 H.s.a0, .int .i64 H.s.a1, .int .i64 H.s.a2, .int .i64 H.s.a3, .int .i64 H.s.a4, .int .i64 H.s.a5, .bool H.l]] V fun e w' => e = .returned (.tuple #[.agg #[.int .i64 H'.b, .int .i64 H'.n, .int .i64 H'.r.a0, .int .i64 H'.r.a1, .int .i64 H'.r.a2, .int .i64 H'.r.a3, .int .i64 H'.r.a4, .int .i64 H'.r.a5, .int .i64 H'.s.a0, .int .i64 H'.s.a1, .int .i64 H'.s.a2, .int .i64 H'.s.a3, .int .i64 H'.s.a4, .int .i64 H'.s.a5, .bool H'.l], .agg #[.int .i64 ak, .int .i64 ae, .int .i64 av]]) ∧ P w')
    (hP : ∀ w', P w' → Blk w' bH #[.int .i64 H.b, .int .i64 H.n, .int .i64 H.r.a0, .int .i64 H.r.a1, .int .i64 H.r.a2, .int .i64 H.r.a3, .int .i64 H.r.a4, .int .i64 H.r.a5, .int .i64 H.s.a0, .int .i64 H.s.a1, .int .i64 H.s.a2, .int .i64 H.s.a3, .int .i64 H.s.a4, .int .i64 H.s.a5, .bool H.l] 57)
    (hexit : ∀ w' U, P w' → Wr bH w' U → U.heap.size = w'.heap.size → Blk U bH #[.int .i64 H'.b, .int .i64 H'.n, .int .i64 H'.r.a0, .int .i64 H'.r.a1, .int .i64 H'.r.a2, .int .i64 H'.r.a3, .int .i64 H'.r.a4, .int .i64 H'.r.a5, .int .i64 H'.s.a0, .int .i64 H'.s.a1, .int .i64 H'.s.a2, .int .i64 H'.s.a3, .int .i64 H'.s.a4, .int .i64 H'.s.a5, .bool H'.l] 57 → Q .normal ⟨#[u0, ptr sb, u2, vb, ptr bH, u5, u6, u7, ptr w'.heap.size, u9, u10, u11, u12, u13, u14, u15, u16, u17, u18, u19, u20, u21, u22, u23, u24, u25, u26, u27, u28, u29, u30, u31, u32, u33, u34, u35, u36, u37, u38, u39, u40, u41, u42, u43, u44, u45, u46, (.tuple #[.agg #[.int .i64 H'.b, .int .i64 H'.n, .int .i64 H'.r.a0, .int .i64 H'.r.a1, .int .i64 H'.r.a2, .int .i64 H'.r.a3, .int .i64 H'.r.a4, .int .i64 H'.r.a5, .int .i64 H'.s.a0, .int .i64 H'.s.a1, .int .i64 H'.s.a2, .int .i64 H'.s.a3, .int .i64 H'.s.a4, .int .i64 H'.s.a5, .bool H'.l], .agg #[.int .i64 ak, .int .i64 ae, .int .i64 av]]), ptr sb, vb, .agg #[.int .i64 H.b, .int .i64 H.n, .int .i64 H.r.a0, .int .i64 H.r.a1, .int .i64 H.r.a2, .int .i64 H.r.a3, .int .i64 H.r.a4, .int .i64 H.r.a5, .int .i64 H.s.a0, .int .i64 H.s.a1, .int .i64 H.s.a2, .int .i64 H.s.a3, .int .i64 H.s.a4, .int .i64 H.s.a5, .bool H.l], (.tuple #[.agg #[.int .i64 H'.b, .int .i64 H'.n, .int .i64 H'.r.a0, .int .i64 H'.r.a1, .int .i64 H'.r.a2, .int .i64 H'.r.a3, .int .i64 H'.r.a4, .int .i64 H'.r.a5, .int .i64 H'.s.a0, .int .i64 H'.s.a1, .int .i64 H'.s.a2, .int .i64 H'.s.a3, .int .i64 H'.s.a4, .int .i64 H'.s.a5, .bool H'.l], .agg #[.int .i64 ak, .int .i64 ae, .int .i64 av]]), .agg #[.int .i64 H'.b, .int .i64 H'.n, .int .i64 H'.r.a0, .int .i64 H'.r.a1, .int .i64 H'.r.a2, .int .i64 H'.r.a3, .int .i64 H'.r.a4, .int .i64 H'.r.a5, .int .i64 H'.s.a0, .int .i64 H'.s.a1, .int .i64 H'.s.a2, .int .i64 H'.s.a3, .int .i64 H'.s.a4, .int .i64 H'.s.a5, .bool H'.l], .agg #[.int .i64 ak, .int .i64 ae, .int .i64 av], u54, u55, u56, u57, u58, u59, u60, u61, u62, u63, u64, u65, u66, u67, u68, u69, u70, u71, u72, u73, u74, u75, u76, u77, u78, u79, u80, u81, u82, u83, u84, u85, u86, u87, u88, u89, u90, u91, u92, u93, u94, u95, u96, u97, u98, u99, u100, u101, u102, u103, u104, u105, u106, u107, u108, u109, u110, u111, u112, u113, u114, u115, u116, u117, u118, u119, u120], []⟩ (U.alloc (.cells #[.int .i64 ak, .int .i64 ae, .int .i64 av] 60))) :
    Code.wp Tryz.prog (reg26 9) Q ⟨#[u0, ptr sb, u2, vb, ptr bH, u5, u6, u7, u8, u9, u10, u11, u12, u13, u14, u15, u16, u17, u18, u19, u20, u21, u22, u23, u24, u25, u26, u27, u28, u29, u30, u31, u32, u33, u34, u35, u36, u37, u38, u39, u40, u41, u42, u43, u44, u45, u46, u47, u48, u49, u50, u51, u52, u53, u54, u55, u56, u57, u58, u59, u60, u61, u62, u63, u64, u65, u66, u67, u68, u69, u70, u71, u72, u73, u74, u75, u76, u77, u78, u79, u80, u81, u82, u83, u84, u85, u86, u87, u88, u89, u90, u91, u92, u93, u94, u95, u96, u97, u98, u99, u100, u101, u102, u103, u104, u105, u106, u107, u108, u109, u110, u111, u112, u113, u114, u115, u116, u117, u118, u119, u120], []⟩ V := by
  conv => arg 2; whnf
  have HC := Lib.hid hcall
  have HP := Lib.hid hP
  have HX := Lib.hid hexit
  have c := j.cell
  clear hcall hP hexit
  go_wp2_with fail
  refine HC.out.mono ?_
  rintro e w1 ⟨rfl, hp⟩
  have j1 := HP.out w1 hp
  have l4 := j1.lt
  have HE := Lib.hid (HX.out w1 (((((((((((((((w1.setCell ⟨bH, 0, none⟩ (.int .i64 H'.b)).setCell ⟨bH, 1, none⟩ (.int .i64 H'.n)).setCell ⟨bH, 2, none⟩ (.int .i64 H'.r.a0)).setCell ⟨bH, 3, none⟩ (.int .i64 H'.r.a1)).setCell ⟨bH, 4, none⟩ (.int .i64 H'.r.a2)).setCell ⟨bH, 5, none⟩ (.int .i64 H'.r.a3)).setCell ⟨bH, 6, none⟩ (.int .i64 H'.r.a4)).setCell ⟨bH, 7, none⟩ (.int .i64 H'.r.a5)).setCell ⟨bH, 8, none⟩ (.int .i64 H'.s.a0)).setCell ⟨bH, 9, none⟩ (.int .i64 H'.s.a1)).setCell ⟨bH, 10, none⟩ (.int .i64 H'.s.a2)).setCell ⟨bH, 11, none⟩ (.int .i64 H'.s.a3)).setCell ⟨bH, 12, none⟩ (.int .i64 H'.s.a4)).setCell ⟨bH, 13, none⟩ (.int .i64 H'.s.a5)).setCell ⟨bH, 14, none⟩ (.bool H'.l)) hp ((((((((((((((((Wr.refl _ _).trans (Wr.set _ _ 0 _)).trans (Wr.set _ _ 1 _)).trans (Wr.set _ _ 2 _)).trans (Wr.set _ _ 3 _)).trans (Wr.set _ _ 4 _)).trans (Wr.set _ _ 5 _)).trans (Wr.set _ _ 6 _)).trans (Wr.set _ _ 7 _)).trans (Wr.set _ _ 8 _)).trans (Wr.set _ _ 9 _)).trans (Wr.set _ _ 10 _)).trans (Wr.set _ _ 11 _)).trans (Wr.set _ _ 12 _)).trans (Wr.set _ _ 13 _)).trans (Wr.set _ _ 14 _)) (by simp) (by
    have k := (((((((((((((((j1.set 0 (.int .i64 H'.b)).set 1 (.int .i64 H'.n)).set 2 (.int .i64 H'.r.a0)).set 3 (.int .i64 H'.r.a1)).set 4 (.int .i64 H'.r.a2)).set 5 (.int .i64 H'.r.a3)).set 6 (.int .i64 H'.r.a4)).set 7 (.int .i64 H'.r.a5)).set 8 (.int .i64 H'.s.a0)).set 9 (.int .i64 H'.s.a1)).set 10 (.int .i64 H'.s.a2)).set 11 (.int .i64 H'.s.a3)).set 12 (.int .i64 H'.s.a4)).set 13 (.int .i64 H'.s.a5)).set 14 (.bool H'.l))
    simp only [List.setIfInBounds_toArray, List.set_cons_zero, List.set_cons_succ] at k
    exact k))
  have z4 := j1.free
  have c4 := j1.cell
  clear HC HP HX c j1 hp j
  go_wp2_with fail
  exact HE.out
set_option maxRecDepth 1000000 in
set_option maxHeartbeats 8000000 in
theorem rs4_any (Q : Exit → Act → World → Prop) (H H' : ThV) (ak ae av : Int) (P : World → Prop) (V : World) (sb bH : Nat) (vb : Value) (u0 u2 u5 u6 u7 u8 u9 u10 u11 u12 u13 u14 u15 u16 u17 u18 u19 u20 u21 u22 u23 u24 u25 u26 u27 u28 u29 u30 u31 u32 u33 u34 u35 u36 u37 u38 u39 u40 u41 u42 u43 u44 u45 u46 u47 u48 u49 u50 u51 u52 u53 u54 u55 u56 u57 u58 u59 u60 u61 u62 u63 u64 u65 u66 u67 u68 u69 u70 u71 u72 u73 u74 u75 u76 u77 u78 u79 u80 u81 u82 u83 u84 u85 u86 u87 u88 u89 u90 u91 u92 u93 u94 u95 u96 u97 u98 u99 u100 u101 u102 u103 u104 u105 u106 u107 u108 u109 u110 u111 u112 u113 u114 u115 u116 u117 u118 u119 u120 : Value) (j : Blk V bH #[.int .i64 H.b, .int .i64 H.n, .int .i64 H.r.a0, .int .i64 H.r.a1, .int .i64 H.r.a2, .int .i64 H.r.a3, .int .i64 H.r.a4, .int .i64 H.r.a5, .int .i64 H.s.a0, .int .i64 H.s.a1, .int .i64 H.s.a2, .int .i64 H.s.a3, .int .i64 H.s.a4, .int .i64 H.s.a5, .bool H.l] 57)
    (hcall : Calls Tryz.prog 30 #[ptr sb, .int .i64 0, vb, .agg #[.int .i64 H.b, .int .i64 H.n, .int .i64 H.r.a0, .int .i64 H.r.a1, .int .i64 H.r.a2, .int .i64 H.r.a3, .int .i64 H.r.a4, .int .i64 H.r.a5, .int .i64 H.s.a0, .int .i64 H.s.a1, .int .i64 H.s.a2, .int .i64 H.s.a3, .int .i64 H.s.a4, .int .i64 H.s.a5, .bool H.l]] V fun e w' => e = .returned (.tuple #[.agg #[.int .i64 H'.b, .int .i64 H'.n, .int .i64 H'.r.a0, .int .i64 H'.r.a1, .int .i64 H'.r.a2, .int .i64 H'.r.a3, .int .i64 H'.r.a4, .int .i64 H'.r.a5, .int .i64 H'.s.a0, .int .i64 H'.s.a1, .int .i64 H'.s.a2, .int .i64 H'.s.a3, .int .i64 H'.s.a4, .int .i64 H'.s.a5, .bool H'.l], .agg #[.int .i64 ak, .int .i64 ae, .int .i64 av]]) ∧ P w')
    (hP : ∀ w', P w' → Blk w' bH #[.int .i64 H.b, .int .i64 H.n, .int .i64 H.r.a0, .int .i64 H.r.a1, .int .i64 H.r.a2, .int .i64 H.r.a3, .int .i64 H.r.a4, .int .i64 H.r.a5, .int .i64 H.s.a0, .int .i64 H.s.a1, .int .i64 H.s.a2, .int .i64 H.s.a3, .int .i64 H.s.a4, .int .i64 H.s.a5, .bool H.l] 57)
    (hexit : ∀ w' U, P w' → Wr bH w' U → U.heap.size = w'.heap.size → Blk U bH #[.int .i64 H'.b, .int .i64 H'.n, .int .i64 H'.r.a0, .int .i64 H'.r.a1, .int .i64 H'.r.a2, .int .i64 H'.r.a3, .int .i64 H'.r.a4, .int .i64 H'.r.a5, .int .i64 H'.s.a0, .int .i64 H'.s.a1, .int .i64 H'.s.a2, .int .i64 H'.s.a3, .int .i64 H'.s.a4, .int .i64 H'.s.a5, .bool H'.l] 57 → Q .normal ⟨#[u0, ptr sb, u2, vb, ptr bH, u5, u6, u7, u8, ptr w'.heap.size, u10, u11, u12, u13, u14, u15, u16, u17, u18, u19, u20, u21, u22, u23, u24, u25, u26, u27, u28, u29, u30, u31, u32, u33, u34, u35, u36, u37, u38, u39, u40, u41, u42, u43, u44, u45, u46, u47, u48, u49, u50, u51, u52, u53, (.tuple #[.agg #[.int .i64 H'.b, .int .i64 H'.n, .int .i64 H'.r.a0, .int .i64 H'.r.a1, .int .i64 H'.r.a2, .int .i64 H'.r.a3, .int .i64 H'.r.a4, .int .i64 H'.r.a5, .int .i64 H'.s.a0, .int .i64 H'.s.a1, .int .i64 H'.s.a2, .int .i64 H'.s.a3, .int .i64 H'.s.a4, .int .i64 H'.s.a5, .bool H'.l], .agg #[.int .i64 ak, .int .i64 ae, .int .i64 av]]), ptr sb, vb, .agg #[.int .i64 H.b, .int .i64 H.n, .int .i64 H.r.a0, .int .i64 H.r.a1, .int .i64 H.r.a2, .int .i64 H.r.a3, .int .i64 H.r.a4, .int .i64 H.r.a5, .int .i64 H.s.a0, .int .i64 H.s.a1, .int .i64 H.s.a2, .int .i64 H.s.a3, .int .i64 H.s.a4, .int .i64 H.s.a5, .bool H.l], (.tuple #[.agg #[.int .i64 H'.b, .int .i64 H'.n, .int .i64 H'.r.a0, .int .i64 H'.r.a1, .int .i64 H'.r.a2, .int .i64 H'.r.a3, .int .i64 H'.r.a4, .int .i64 H'.r.a5, .int .i64 H'.s.a0, .int .i64 H'.s.a1, .int .i64 H'.s.a2, .int .i64 H'.s.a3, .int .i64 H'.s.a4, .int .i64 H'.s.a5, .bool H'.l], .agg #[.int .i64 ak, .int .i64 ae, .int .i64 av]]), .agg #[.int .i64 H'.b, .int .i64 H'.n, .int .i64 H'.r.a0, .int .i64 H'.r.a1, .int .i64 H'.r.a2, .int .i64 H'.r.a3, .int .i64 H'.r.a4, .int .i64 H'.r.a5, .int .i64 H'.s.a0, .int .i64 H'.s.a1, .int .i64 H'.s.a2, .int .i64 H'.s.a3, .int .i64 H'.s.a4, .int .i64 H'.s.a5, .bool H'.l], .agg #[.int .i64 ak, .int .i64 ae, .int .i64 av], u61, u62, u63, u64, u65, u66, u67, u68, u69, u70, u71, u72, u73, u74, u75, u76, u77, u78, u79, u80, u81, u82, u83, u84, u85, u86, u87, u88, u89, u90, u91, u92, u93, u94, u95, u96, u97, u98, u99, u100, u101, u102, u103, u104, u105, u106, u107, u108, u109, u110, u111, u112, u113, u114, u115, u116, u117, u118, u119, u120], []⟩ (U.alloc (.cells #[.int .i64 ak, .int .i64 ae, .int .i64 av] 60))) :
    Code.wp Tryz.prog (reg26 10) Q ⟨#[u0, ptr sb, u2, vb, ptr bH, u5, u6, u7, u8, u9, u10, u11, u12, u13, u14, u15, u16, u17, u18, u19, u20, u21, u22, u23, u24, u25, u26, u27, u28, u29, u30, u31, u32, u33, u34, u35, u36, u37, u38, u39, u40, u41, u42, u43, u44, u45, u46, u47, u48, u49, u50, u51, u52, u53, u54, u55, u56, u57, u58, u59, u60, u61, u62, u63, u64, u65, u66, u67, u68, u69, u70, u71, u72, u73, u74, u75, u76, u77, u78, u79, u80, u81, u82, u83, u84, u85, u86, u87, u88, u89, u90, u91, u92, u93, u94, u95, u96, u97, u98, u99, u100, u101, u102, u103, u104, u105, u106, u107, u108, u109, u110, u111, u112, u113, u114, u115, u116, u117, u118, u119, u120], []⟩ V := by
  conv => arg 2; whnf
  have HC := Lib.hid hcall
  have HP := Lib.hid hP
  have HX := Lib.hid hexit
  have c := j.cell
  clear hcall hP hexit
  go_wp2_with fail
  refine HC.out.mono ?_
  rintro e w1 ⟨rfl, hp⟩
  have j1 := HP.out w1 hp
  have l4 := j1.lt
  have HE := Lib.hid (HX.out w1 (((((((((((((((w1.setCell ⟨bH, 0, none⟩ (.int .i64 H'.b)).setCell ⟨bH, 1, none⟩ (.int .i64 H'.n)).setCell ⟨bH, 2, none⟩ (.int .i64 H'.r.a0)).setCell ⟨bH, 3, none⟩ (.int .i64 H'.r.a1)).setCell ⟨bH, 4, none⟩ (.int .i64 H'.r.a2)).setCell ⟨bH, 5, none⟩ (.int .i64 H'.r.a3)).setCell ⟨bH, 6, none⟩ (.int .i64 H'.r.a4)).setCell ⟨bH, 7, none⟩ (.int .i64 H'.r.a5)).setCell ⟨bH, 8, none⟩ (.int .i64 H'.s.a0)).setCell ⟨bH, 9, none⟩ (.int .i64 H'.s.a1)).setCell ⟨bH, 10, none⟩ (.int .i64 H'.s.a2)).setCell ⟨bH, 11, none⟩ (.int .i64 H'.s.a3)).setCell ⟨bH, 12, none⟩ (.int .i64 H'.s.a4)).setCell ⟨bH, 13, none⟩ (.int .i64 H'.s.a5)).setCell ⟨bH, 14, none⟩ (.bool H'.l)) hp ((((((((((((((((Wr.refl _ _).trans (Wr.set _ _ 0 _)).trans (Wr.set _ _ 1 _)).trans (Wr.set _ _ 2 _)).trans (Wr.set _ _ 3 _)).trans (Wr.set _ _ 4 _)).trans (Wr.set _ _ 5 _)).trans (Wr.set _ _ 6 _)).trans (Wr.set _ _ 7 _)).trans (Wr.set _ _ 8 _)).trans (Wr.set _ _ 9 _)).trans (Wr.set _ _ 10 _)).trans (Wr.set _ _ 11 _)).trans (Wr.set _ _ 12 _)).trans (Wr.set _ _ 13 _)).trans (Wr.set _ _ 14 _)) (by simp) (by
    have k := (((((((((((((((j1.set 0 (.int .i64 H'.b)).set 1 (.int .i64 H'.n)).set 2 (.int .i64 H'.r.a0)).set 3 (.int .i64 H'.r.a1)).set 4 (.int .i64 H'.r.a2)).set 5 (.int .i64 H'.r.a3)).set 6 (.int .i64 H'.r.a4)).set 7 (.int .i64 H'.r.a5)).set 8 (.int .i64 H'.s.a0)).set 9 (.int .i64 H'.s.a1)).set 10 (.int .i64 H'.s.a2)).set 11 (.int .i64 H'.s.a3)).set 12 (.int .i64 H'.s.a4)).set 13 (.int .i64 H'.s.a5)).set 14 (.bool H'.l))
    simp only [List.setIfInBounds_toArray, List.set_cons_zero, List.set_cons_succ] at k
    exact k))
  have z4 := j1.free
  have c4 := j1.cell
  clear HC HP HX c j1 hp j
  go_wp2_with fail
  exact HE.out
end Go.Proofs.YtemohiainfllcaaGreat

/- Chapter 16's example (printed by tools/gen_aw16.py). -/
namespace Go.Proofs.YtemohiainfllcaaGreat
open Go.RowKit Hp
attribute [local go_sem ↓] Go.wp_at_zero Go.wp_at_succ
instance (S : Stt) (r : R6) : Decidable (∀ j, j < 6 → 0 ≤ r.get j ∧ Plc S (r.get j).toNat) := by infer_instance
/-- What a step asks, but for what holds anyhow. -/
def tstB (S : Stt) (i : Nat) (_ : List (List DeedV)) (h : ThV) : Bool :=
  decide (i < S.txs.length) && decide (S.now + 9 ≤ S.most) && ((S.t i).live == h.l) && (!h.l || S.chk i) && decide (∀ j, j < 6 → 0 ≤ h.r.get j ∧ Plc S (h.r.get j).toNat) && decide (S.H.serial < 1099511627776) && decide (0 ≤ h.n ∧ h.n ≤ 4096) && decide (0 ≤ h.b ∧ h.b ≤ 4096)
theorem tst_of {S : Stt} {i : Nat} {l : List (List DeedV)} {h : ThV} (hI : Inv S) (hd : ∀ ds ∈ l, ∀ d ∈ ds, d.ok ∧ Pg.right d.D = true) (hB : tstB S i l h = true) : Tst S i l h := by
  unfold tstB at hB
  simp only [Bool.and_eq_true, decide_eq_true_eq, beq_iff_eq, Bool.or_eq_true, Bool.not_eq_true'] at hB
  obtain ⟨⟨⟨⟨⟨⟨⟨a1, a2⟩, a3⟩, a4⟩, a5⟩, a6⟩, a7⟩, a8⟩ := hB
  refine ⟨hI, a1, a2, a3, fun e => a4.elim (fun h => by rw [e] at h; cases h) id, fun j hj => ?_, a6, a7, a8, hd⟩
  obtain ⟨b1, b2⟩ := a5 j hj
  exact ⟨_, (Int.toNat_of_nonneg b1).symm, b2⟩
namespace A16
def P : List (List DeedV) := [[⟨1, 0, 0, 0, 1⟩, ⟨7, 0, 0, 0, 5⟩]]
def zR : R6 := ⟨0, 0, 0, 0, 0, 0⟩
def T : Nat → TR
  | 0 => ⟨Stt.fresh 60 1 9 9 (bnd 99).toNat, ⟨0, 0, zR, zR, false⟩, ⟨0, 0, 0⟩⟩
  | k + 1 => (T k).S.tstep 0 P (T k).h
theorem tb : ∀ k, k < 5 → tstB (T k).S 0 P (T k).h = true := by decide +kernel
theorem acts : (T 1).a = ⟨1, 0, 0⟩ ∧ (T 2).a = ⟨2, 0, 1⟩ ∧ (T 3).a = ⟨2, 0, 0⟩ ∧ (T 4).a = ⟨3, 0, 1⟩ ∧ (T 5).a = ⟨0, 0, 0⟩ := by decide +kernel
theorem fin5 : (T 5).h.b = 1 ∧ (T 5).h.r.a0 = 1 := by decide +kernel
theorem dk : ∀ ds ∈ P, ∀ d ∈ ds, d.ok ∧ Pg.right d.D = true := by
  intro ds hds d hd
  simp only [P, List.mem_cons, List.not_mem_nil, or_false] at hds
  subst hds
  simp only [List.mem_cons, List.not_mem_nil, or_false] at hd
  rcases hd with rfl | rfl
  · exact ⟨⟨by decide, by decide, by decide, by decide, by decide, fun _ => by decide⟩, by decide +kernel⟩
  · exact ⟨⟨by decide, by decide, by decide, by decide, by decide, fun h => by revert h; decide⟩, by decide +kernel⟩
end A16
section
variable {w w' : World} {o o' : Own} {y : SLay}
/-- A box of the caller's own, which no call of the store turns. -/
def Bx (_ : SLay) (o : Own) (w : World) (b : Nat) (cs : Array Value) (t : TypeId) : Prop := Blk w b cs t ∧ o b = (9, 1)
theorem Bx.stp {b : Nat} {cs : Array Value} {t : TypeId} (h : Bx y o w b cs t) (hid : y.l.id = 0) (k : Stp (stTag y) o o' w w') : Bx y o' w' b cs t :=
  ⟨h.1.stp k (by rw [h.2]; unfold stTag; rw [hid]; simp), by rw [k.tags _ h.1.lt]; exact h.2⟩
theorem Bx.below {b : Nat} {cs : Array Value} {t : TypeId} (h : Bx y o w b cs t) (k : Below w.heap.size w w') : Bx y o w' b cs t := ⟨h.1.below k h.1.lt, h.2⟩
theorem Bx.retag {b : Nat} {cs : Array Value} {t : TypeId} (h : Bx y o w b cs t) (k : ∀ b, b < w.heap.size → o' b = o b) : Bx y o' w b cs t := ⟨h.1, by rw [k _ h.1.lt]; exact h.2⟩
theorem Bx.wr {b c : Nat} {cs : Array Value} {t : TypeId} (h : Bx y o w c cs t) (k : Wr b w w') (hne : c ≠ b) : Bx y o w' c cs t := ⟨h.1.wr k hne, h.2⟩
def oT (y : SLay) (t : Tag) : Prop := stTag y t ∨ t = (9, 1)
end
set_option maxRecDepth 100000 in
set_option maxHeartbeats 8000000 in
theorem awake16_of (S0 S1 S2 S3 S4 S5 : Stt) (H0 H1 H2 H3 H4 H5 : ThV)
    (hN : ∀ w : World, Calls Tryz.prog 28 #[.int .i64 60, .int .i64 1, .int .i64 9, .int .i64 9, .int .i64 99] w fun e w' => ∃ y : SLay, e = .returned (.tuple #[ptr y.sb, .int .i64 0]) ∧ y.l.id = 0 ∧ Left y S0 (fun _ => (7, 0)) w w')
    (hS0 : ∀ (y : SLay) (X : World) (o2 : Own), StIn X o2 y S0 → Inv S0 → ∀ vb : Value, BlksAt X vb A16.P → Calls Tryz.prog 30 #[ptr y.sb, .int .i64 0, vb, .agg #[.int .i64 H0.b, .int .i64 H0.n, .int .i64 H0.r.a0, .int .i64 H0.r.a1, .int .i64 H0.r.a2, .int .i64 H0.r.a3, .int .i64 H0.r.a4, .int .i64 H0.r.a5, .int .i64 H0.s.a0, .int .i64 H0.s.a1, .int .i64 H0.s.a2, .int .i64 H0.s.a3, .int .i64 H0.s.a4, .int .i64 H0.s.a5, .bool H0.l]] X fun e' w' => e' = .returned (.tuple #[.agg #[.int .i64 H1.b, .int .i64 H1.n, .int .i64 H1.r.a0, .int .i64 H1.r.a1, .int .i64 H1.r.a2, .int .i64 H1.r.a3, .int .i64 H1.r.a4, .int .i64 H1.r.a5, .int .i64 H1.s.a0, .int .i64 H1.s.a1, .int .i64 H1.s.a2, .int .i64 H1.s.a3, .int .i64 H1.s.a4, .int .i64 H1.s.a5, .bool H1.l], .agg #[.int .i64 1, .int .i64 0, .int .i64 0]]) ∧ Left y S1 o2 X w')
    (hS1 : ∀ (y : SLay) (X : World) (o2 : Own), StIn X o2 y S1 → Inv S1 → ∀ vb : Value, BlksAt X vb A16.P → Calls Tryz.prog 30 #[ptr y.sb, .int .i64 0, vb, .agg #[.int .i64 H1.b, .int .i64 H1.n, .int .i64 H1.r.a0, .int .i64 H1.r.a1, .int .i64 H1.r.a2, .int .i64 H1.r.a3, .int .i64 H1.r.a4, .int .i64 H1.r.a5, .int .i64 H1.s.a0, .int .i64 H1.s.a1, .int .i64 H1.s.a2, .int .i64 H1.s.a3, .int .i64 H1.s.a4, .int .i64 H1.s.a5, .bool H1.l]] X fun e' w' => e' = .returned (.tuple #[.agg #[.int .i64 H2.b, .int .i64 H2.n, .int .i64 H2.r.a0, .int .i64 H2.r.a1, .int .i64 H2.r.a2, .int .i64 H2.r.a3, .int .i64 H2.r.a4, .int .i64 H2.r.a5, .int .i64 H2.s.a0, .int .i64 H2.s.a1, .int .i64 H2.s.a2, .int .i64 H2.s.a3, .int .i64 H2.s.a4, .int .i64 H2.s.a5, .bool H2.l], .agg #[.int .i64 2, .int .i64 0, .int .i64 1]]) ∧ Left y S2 o2 X w')
    (hS2 : ∀ (y : SLay) (X : World) (o2 : Own), StIn X o2 y S2 → Inv S2 → ∀ vb : Value, BlksAt X vb A16.P → Calls Tryz.prog 30 #[ptr y.sb, .int .i64 0, vb, .agg #[.int .i64 H2.b, .int .i64 H2.n, .int .i64 H2.r.a0, .int .i64 H2.r.a1, .int .i64 H2.r.a2, .int .i64 H2.r.a3, .int .i64 H2.r.a4, .int .i64 H2.r.a5, .int .i64 H2.s.a0, .int .i64 H2.s.a1, .int .i64 H2.s.a2, .int .i64 H2.s.a3, .int .i64 H2.s.a4, .int .i64 H2.s.a5, .bool H2.l]] X fun e' w' => e' = .returned (.tuple #[.agg #[.int .i64 H3.b, .int .i64 H3.n, .int .i64 H3.r.a0, .int .i64 H3.r.a1, .int .i64 H3.r.a2, .int .i64 H3.r.a3, .int .i64 H3.r.a4, .int .i64 H3.r.a5, .int .i64 H3.s.a0, .int .i64 H3.s.a1, .int .i64 H3.s.a2, .int .i64 H3.s.a3, .int .i64 H3.s.a4, .int .i64 H3.s.a5, .bool H3.l], .agg #[.int .i64 2, .int .i64 0, .int .i64 0]]) ∧ Left y S3 o2 X w')
    (hS3 : ∀ (y : SLay) (X : World) (o2 : Own), StIn X o2 y S3 → Inv S3 → ∀ vb : Value, BlksAt X vb A16.P → Calls Tryz.prog 30 #[ptr y.sb, .int .i64 0, vb, .agg #[.int .i64 H3.b, .int .i64 H3.n, .int .i64 H3.r.a0, .int .i64 H3.r.a1, .int .i64 H3.r.a2, .int .i64 H3.r.a3, .int .i64 H3.r.a4, .int .i64 H3.r.a5, .int .i64 H3.s.a0, .int .i64 H3.s.a1, .int .i64 H3.s.a2, .int .i64 H3.s.a3, .int .i64 H3.s.a4, .int .i64 H3.s.a5, .bool H3.l]] X fun e' w' => e' = .returned (.tuple #[.agg #[.int .i64 H4.b, .int .i64 H4.n, .int .i64 H4.r.a0, .int .i64 H4.r.a1, .int .i64 H4.r.a2, .int .i64 H4.r.a3, .int .i64 H4.r.a4, .int .i64 H4.r.a5, .int .i64 H4.s.a0, .int .i64 H4.s.a1, .int .i64 H4.s.a2, .int .i64 H4.s.a3, .int .i64 H4.s.a4, .int .i64 H4.s.a5, .bool H4.l], .agg #[.int .i64 3, .int .i64 0, .int .i64 1]]) ∧ Left y S4 o2 X w')
    (hS4 : ∀ (y : SLay) (X : World) (o2 : Own), StIn X o2 y S4 → Inv S4 → ∀ vb : Value, BlksAt X vb A16.P → Calls Tryz.prog 30 #[ptr y.sb, .int .i64 0, vb, .agg #[.int .i64 H4.b, .int .i64 H4.n, .int .i64 H4.r.a0, .int .i64 H4.r.a1, .int .i64 H4.r.a2, .int .i64 H4.r.a3, .int .i64 H4.r.a4, .int .i64 H4.r.a5, .int .i64 H4.s.a0, .int .i64 H4.s.a1, .int .i64 H4.s.a2, .int .i64 H4.s.a3, .int .i64 H4.s.a4, .int .i64 H4.s.a5, .bool H4.l]] X fun e' w' => e' = .returned (.tuple #[.agg #[.int .i64 H5.b, .int .i64 H5.n, .int .i64 H5.r.a0, .int .i64 H5.r.a1, .int .i64 H5.r.a2, .int .i64 H5.r.a3, .int .i64 H5.r.a4, .int .i64 H5.r.a5, .int .i64 H5.s.a0, .int .i64 H5.s.a1, .int .i64 H5.s.a2, .int .i64 H5.s.a3, .int .i64 H5.s.a4, .int .i64 H5.s.a5, .bool H5.l], .agg #[.int .i64 0, .int .i64 0, .int .i64 0]]) ∧ Left y S5 o2 X w')
    (hT0 : (#[.int .i64 0, .int .i64 0, .int .i64 0, .int .i64 0, .int .i64 0, .int .i64 0, .int .i64 0, .int .i64 0, .int .i64 0, .int .i64 0, .int .i64 0, .int .i64 0, .int .i64 0, .int .i64 0, .bool false] : Array Value) = #[.int .i64 H0.b, .int .i64 H0.n, .int .i64 H0.r.a0, .int .i64 H0.r.a1, .int .i64 H0.r.a2, .int .i64 H0.r.a3, .int .i64 H0.r.a4, .int .i64 H0.r.a5, .int .i64 H0.s.a0, .int .i64 H0.s.a1, .int .i64 H0.s.a2, .int .i64 H0.s.a3, .int .i64 H0.s.a4, .int .i64 H0.s.a5, .bool H0.l]) (f1 : H5.b = 1) (f2 : H5.r.a0 = 1) (w : World) : Calls Tryz.prog 26 #[] w fun e w' => e = .returned (.bool true) ∧ Below w.heap.size w w' := by
  have HN := Lib.hid hN
  have HS0 := Lib.hid hS0
  have HS1 := Lib.hid hS1
  have HS2 := Lib.hid hS2
  have HS3 := Lib.hid hS3
  have HS4 := Lib.hid hS4
  clear hN hS0 hS1 hS2 hS3 hS4
  go_enter Tryz.func26, Tryz.ntmps26
  go_wp2_with fail
  refine (HN.out _).mono ?_
  rintro e w0 ⟨y, rfl, hid, hL⟩
  have HID := Lib.hid hid
  obtain ⟨o0, hS0, hI0, hs0⟩ := hL
  clear hid HN
  have F1 := Lib.hid f1
  have F2 := Lib.hid f2
  clear f1 f2
  obtain ⟨V0, hV0⟩ : ∃ V, V = ((w0.alloc (.cells #[.int .i64 1, .int .i64 0, .int .i64 0, .int .i64 0, .int .i64 1, .int .i64 7, .int .i64 0, .int .i64 0, .int .i64 0, .int .i64 5] 52)).alloc (.cells #[.slice (some ⟨w0.heap.size, 0, none⟩) 2 2] 50)).alloc (.cells #[.int .i64 H0.b, .int .i64 H0.n, .int .i64 H0.r.a0, .int .i64 H0.r.a1, .int .i64 H0.r.a2, .int .i64 H0.r.a3, .int .i64 H0.r.a4, .int .i64 H0.r.a5, .int .i64 H0.s.a0, .int .i64 H0.s.a1, .int .i64 H0.s.a2, .int .i64 H0.s.a3, .int .i64 H0.s.a4, .int .i64 H0.s.a5, .bool H0.l] 57) := ⟨_, rfl⟩
  obtain ⟨p0, hp0⟩ : ∃ p, p = ext o0 w0.heap.size (9, 1) := ⟨_, rfl⟩
  have hpe : ∀ b, b < w0.heap.size → p0 b = o0 b := fun b hb => by rw [hp0]; exact ext_lt hb
  have hpn : ∀ b, w0.heap.size ≤ b → p0 b = (9, 1) := fun b hb => by rw [hp0]; exact ext_ge hb
  have hbV : Below w0.heap.size w0 V0 := by rw [hV0]; exact balloc (balloc (balloc (bsame _) _) _) _
  have hSV := (hS0.retag hpe).below hbV
  have kD : Bx y p0 V0 w0.heap.size #[.int .i64 1, .int .i64 0, .int .i64 0, .int .i64 0, .int .i64 1, .int .i64 7, .int .i64 0, .int .i64 0, .int .i64 0, .int .i64 5] 52 := ⟨by rw [hV0]; exact ((Blk.new _ _ _).alloc _).alloc _, hpn _ (by omega)⟩
  have kB : Bx y p0 V0 (w0.heap.size + 1) #[.slice (some ⟨w0.heap.size, 0, none⟩) 2 2] 50 := ⟨by rw [hV0]; exact (Blk.new_at _ _ _ _ _ (by simp) rfl).alloc _, hpn _ (by omega)⟩
  have kH : Bx y p0 V0 (w0.heap.size + 1 + 1) #[.int .i64 H0.b, .int .i64 H0.n, .int .i64 H0.r.a0, .int .i64 H0.r.a1, .int .i64 H0.r.a2, .int .i64 H0.r.a3, .int .i64 H0.r.a4, .int .i64 H0.r.a5, .int .i64 H0.s.a0, .int .i64 H0.s.a1, .int .i64 H0.s.a2, .int .i64 H0.s.a3, .int .i64 H0.s.a4, .int .i64 H0.s.a5, .bool H0.l] 57 := ⟨by rw [hV0]; exact Blk.new_at _ _ _ _ _ (by simp) rfl, hpn _ (by omega)⟩
  have hst : Stp (oT y) (fun _ => (7, 0)) p0 w V0 := by
    rw [hp0]
    exact (((hs0.mono fun _ h => .inl h).ext (9, 1) w0.heap.size hs0.size).trans (Stp.of_below hbV))
  have hI := hI0
  have sz0 := kH.1.lt
  obtain ⟨bD, hbD⟩ : ∃ b, b = w0.heap.size := ⟨_, rfl⟩
  obtain ⟨bB, hbB⟩ : ∃ b, b = w0.heap.size + 1 := ⟨_, rfl⟩
  obtain ⟨bH, hbH⟩ : ∃ b, b = w0.heap.size + 1 + 1 := ⟨_, rfl⟩
  have nDB : bD ≠ bB := by omega
  have nDH : bD ≠ bH := by omega
  have nBH : bB ≠ bH := by omega
  go_upto_region 6 with fail
  rw [← hV0]
  rw [← hbH] at kH sz0 ⊢
  rw [← hbB] at kB ⊢
  rw [← hbD] at kD kB ⊢
  clear hT0 hV0 hbD hbB hbH hp0 hpe hpn hbV hS0 hs0 hI0
  have HBl := Lib.hid (show ∀ X : World, Blk X bD #[.int .i64 1, .int .i64 0, .int .i64 0, .int .i64 0, .int .i64 1, .int .i64 7, .int .i64 0, .int .i64 0, .int .i64 0, .int .i64 5] 52 → Blk X bB #[.slice (some ⟨bD, 0, none⟩) 2 2] 50 → BlksAt X (.slice (some ⟨bB, 0, none⟩) 1 1) A16.P from fun X j1 j2 => by
    refine ⟨_, _, rfl, fun j ds hj => ?_⟩
    obtain rfl : j = 0 := by
      have := (List.getElem?_eq_some_iff.1 hj).1
      simp [A16.P] at this
      omega
    refine ⟨bB, 0, rfl, _, j2.cell 0, ?_⟩
    injection hj with hj
    subst hj
    refine ⟨_, _, rfl, fun m d hm => ?_⟩
    obtain rfl | rfl : m = 0 ∨ m = 1 := by
      have := (List.getElem?_eq_some_iff.1 hm).1
      simp at this
      omega
    · injection hm with hm
      subst hm
      exact ⟨bD, 0, rfl, j1.cell 0, j1.cell 1, j1.cell 2, j1.cell 3, j1.cell 4⟩
    · injection hm with hm
      subst hm
      exact ⟨bD, 0, rfl, j1.cell 5, j1.cell 6, j1.cell 7, j1.cell 8, j1.cell 9⟩)
  refine rs0_any _ H0 H1 1 0 0 (Left y S1 p0 V0) V0 y.sb bH _ _ _ _ _ _ _ _ _ _ _ _ _ _ _ _ _ _ _ _ _ _ _ _ _ _ _ _ _ _ _ _ _ _ _ _ _ _ _ _ _ _ _ _ _ _ _ _ _ _ _ _ _ _ _ _ _ _ _ _ _ _ _ _ _ _ _ _ _ _ _ _ _ _ _ _ _ _ _ _ _ _ _ _ _ _ _ _ _ _ _ _ _ _ _ _ _ _ _ _ _ _ _ _ _ _ _ _ _ _ _ _ _ _ _ _ _ _ _ kH.1 (HS0.out _ _ _ hSV hI _ (HBl.out _ kD.1 kB.1)) (fun w' hL => (kH.stp HID.out hL.choose_spec.2.2).1) ?_
  rintro w1 U1 ⟨o1, hS1, hI1, hs1⟩ hw hUs kH'
  replace kD := kD.stp HID.out hs1
  replace kB := kB.stp HID.out hs1
  replace kH := kH.stp HID.out hs1
  have l4 := kH.1.lt
  obtain ⟨V1, hVU⟩ : ∃ V, V = U1.alloc (.cells #[.int .i64 1, .int .i64 0, .int .i64 0] 60) := ⟨_, rfl⟩
  rw [← hVU]
  obtain ⟨p1, hp1⟩ : ∃ p, p = ext o1 w1.heap.size (9, 1) := ⟨_, rfl⟩
  have hpe : ∀ b, b < w1.heap.size → p1 b = o1 b := fun b hb => by rw [hp1]; exact ext_lt hb
  have hpn : ∀ b, w1.heap.size ≤ b → p1 b = (9, 1) := fun b hb => by rw [hp1]; exact ext_ge hb
  have tH : p1 bH = (9, 1) := by rw [hpe _ l4]; exact kH.2
  have hbU : Below U1.heap.size U1 V1 := by rw [hVU]; exact balloc (bsame _) _
  have hwr : Stp (oT y) p1 p1 w1 U1 := Stp.of_wr hw (.inr tH)
  have hSU : StIn U1 p1 y _ := (hS1.retag hpe).stp (T := fun t => t = (9, 1)) (Stp.of_wr hw tH) (fun q h => by injection h with h _; rw [HID.out] at h; cases h)
  replace hSV := hSU.below hbU
  replace hI := hI1
  replace hst : Stp (oT y) (fun _ => (7, 0)) p1 w V1 := by
    have h1 := hst.trans (hs1.mono fun _ h => .inl h)
    have h2 := h1.ext (9, 1) w1.heap.size h1.size
    rw [← hp1] at h2
    exact (h2.trans hwr).trans (Stp.of_below hbU)
  have kA1 : Bx y p1 V1 w1.heap.size #[.int .i64 1, .int .i64 0, .int .i64 0] 60 := ⟨by rw [hVU]; exact Blk.new_at _ _ _ _ _ hUs.symm rfl, hpn _ (Nat.le_refl _)⟩
  replace kD := ((kD.retag hpe).wr hw nDH).below hbU
  replace kB := ((kB.retag hpe).wr hw nBH).below hbU
  replace kH : Bx y p1 V1 bH _ 57 := Bx.below (w := U1) ⟨kH', tH⟩ hbU
  have nAH1' : w1.heap.size ≠ bH := by omega
  clear hVU hbU hwr hSU hpe hpn hw hUs kH' tH hp1 l4
  obtain ⟨bA1, hbA1⟩ : ∃ b, b = w1.heap.size := ⟨_, rfl⟩
  rw [← hbA1] at kA1 nAH1' ⊢
  have nAH1 := nAH1'
  clear hbA1 hS1 hs1 hI1
  go_upto_region 7 with fail
  refine rs1_any _ H1 H2 2 0 1 (Left y S2 p1 V1) V1 y.sb bH _ _ _ _ _ _ _ _ _ _ _ _ _ _ _ _ _ _ _ _ _ _ _ _ _ _ _ _ _ _ _ _ _ _ _ _ _ _ _ _ _ _ _ _ _ _ _ _ _ _ _ _ _ _ _ _ _ _ _ _ _ _ _ _ _ _ _ _ _ _ _ _ _ _ _ _ _ _ _ _ _ _ _ _ _ _ _ _ _ _ _ _ _ _ _ _ _ _ _ _ _ _ _ _ _ _ _ _ _ _ _ _ _ _ _ _ _ _ _ kH.1 (HS1.out _ _ _ hSV hI _ (HBl.out _ kD.1 kB.1)) (fun w' hL => (kH.stp HID.out hL.choose_spec.2.2).1) ?_
  rintro w2 U2 ⟨o2, hS2, hI2, hs2⟩ hw hUs kH'
  replace kD := kD.stp HID.out hs2
  replace kB := kB.stp HID.out hs2
  replace kH := kH.stp HID.out hs2
  replace kA1 := kA1.stp HID.out hs2
  have l4 := kH.1.lt
  obtain ⟨V2, hVU⟩ : ∃ V, V = U2.alloc (.cells #[.int .i64 2, .int .i64 0, .int .i64 1] 60) := ⟨_, rfl⟩
  rw [← hVU]
  obtain ⟨p2, hp2⟩ : ∃ p, p = ext o2 w2.heap.size (9, 1) := ⟨_, rfl⟩
  have hpe : ∀ b, b < w2.heap.size → p2 b = o2 b := fun b hb => by rw [hp2]; exact ext_lt hb
  have hpn : ∀ b, w2.heap.size ≤ b → p2 b = (9, 1) := fun b hb => by rw [hp2]; exact ext_ge hb
  have tH : p2 bH = (9, 1) := by rw [hpe _ l4]; exact kH.2
  have hbU : Below U2.heap.size U2 V2 := by rw [hVU]; exact balloc (bsame _) _
  have hwr : Stp (oT y) p2 p2 w2 U2 := Stp.of_wr hw (.inr tH)
  have hSU : StIn U2 p2 y _ := (hS2.retag hpe).stp (T := fun t => t = (9, 1)) (Stp.of_wr hw tH) (fun q h => by injection h with h _; rw [HID.out] at h; cases h)
  replace hSV := hSU.below hbU
  replace hI := hI2
  replace hst : Stp (oT y) (fun _ => (7, 0)) p2 w V2 := by
    have h1 := hst.trans (hs2.mono fun _ h => .inl h)
    have h2 := h1.ext (9, 1) w2.heap.size h1.size
    rw [← hp2] at h2
    exact (h2.trans hwr).trans (Stp.of_below hbU)
  have kA2 : Bx y p2 V2 w2.heap.size #[.int .i64 2, .int .i64 0, .int .i64 1] 60 := ⟨by rw [hVU]; exact Blk.new_at _ _ _ _ _ hUs.symm rfl, hpn _ (Nat.le_refl _)⟩
  replace kD := ((kD.retag hpe).wr hw nDH).below hbU
  replace kB := ((kB.retag hpe).wr hw nBH).below hbU
  have nA1 : bA1 ≠ w2.heap.size := by have := kA1.1.lt; omega
  replace kA1 := ((kA1.retag hpe).wr hw nAH1).below hbU
  replace kH : Bx y p2 V2 bH _ 57 := Bx.below (w := U2) ⟨kH', tH⟩ hbU
  have nAH2' : w2.heap.size ≠ bH := by omega
  clear hVU hbU hwr hSU hpe hpn hw hUs kH' tH hp2 l4
  obtain ⟨bA2, hbA2⟩ : ∃ b, b = w2.heap.size := ⟨_, rfl⟩
  rw [← hbA2] at kA2 nAH2' ⊢
  have nAH2 := nAH2'
  clear hbA2 hS2 hs2 hI2
  go_upto_region 8 with fail
  refine rs2_any _ H2 H3 2 0 0 (Left y S3 p2 V2) V2 y.sb bH _ _ _ _ _ _ _ _ _ _ _ _ _ _ _ _ _ _ _ _ _ _ _ _ _ _ _ _ _ _ _ _ _ _ _ _ _ _ _ _ _ _ _ _ _ _ _ _ _ _ _ _ _ _ _ _ _ _ _ _ _ _ _ _ _ _ _ _ _ _ _ _ _ _ _ _ _ _ _ _ _ _ _ _ _ _ _ _ _ _ _ _ _ _ _ _ _ _ _ _ _ _ _ _ _ _ _ _ _ _ _ _ _ _ _ _ _ _ _ kH.1 (HS2.out _ _ _ hSV hI _ (HBl.out _ kD.1 kB.1)) (fun w' hL => (kH.stp HID.out hL.choose_spec.2.2).1) ?_
  rintro w3 U3 ⟨o3, hS3, hI3, hs3⟩ hw hUs kH'
  replace kD := kD.stp HID.out hs3
  replace kB := kB.stp HID.out hs3
  replace kH := kH.stp HID.out hs3
  replace kA1 := kA1.stp HID.out hs3
  replace kA2 := kA2.stp HID.out hs3
  have l4 := kH.1.lt
  obtain ⟨V3, hVU⟩ : ∃ V, V = U3.alloc (.cells #[.int .i64 2, .int .i64 0, .int .i64 0] 60) := ⟨_, rfl⟩
  rw [← hVU]
  obtain ⟨p3, hp3⟩ : ∃ p, p = ext o3 w3.heap.size (9, 1) := ⟨_, rfl⟩
  have hpe : ∀ b, b < w3.heap.size → p3 b = o3 b := fun b hb => by rw [hp3]; exact ext_lt hb
  have hpn : ∀ b, w3.heap.size ≤ b → p3 b = (9, 1) := fun b hb => by rw [hp3]; exact ext_ge hb
  have tH : p3 bH = (9, 1) := by rw [hpe _ l4]; exact kH.2
  have hbU : Below U3.heap.size U3 V3 := by rw [hVU]; exact balloc (bsame _) _
  have hwr : Stp (oT y) p3 p3 w3 U3 := Stp.of_wr hw (.inr tH)
  have hSU : StIn U3 p3 y _ := (hS3.retag hpe).stp (T := fun t => t = (9, 1)) (Stp.of_wr hw tH) (fun q h => by injection h with h _; rw [HID.out] at h; cases h)
  replace hSV := hSU.below hbU
  replace hI := hI3
  replace hst : Stp (oT y) (fun _ => (7, 0)) p3 w V3 := by
    have h1 := hst.trans (hs3.mono fun _ h => .inl h)
    have h2 := h1.ext (9, 1) w3.heap.size h1.size
    rw [← hp3] at h2
    exact (h2.trans hwr).trans (Stp.of_below hbU)
  have kA3 : Bx y p3 V3 w3.heap.size #[.int .i64 2, .int .i64 0, .int .i64 0] 60 := ⟨by rw [hVU]; exact Blk.new_at _ _ _ _ _ hUs.symm rfl, hpn _ (Nat.le_refl _)⟩
  replace kD := ((kD.retag hpe).wr hw nDH).below hbU
  replace kB := ((kB.retag hpe).wr hw nBH).below hbU
  have nA1 : bA1 ≠ w3.heap.size := by have := kA1.1.lt; omega
  replace kA1 := ((kA1.retag hpe).wr hw nAH1).below hbU
  have nA2 : bA2 ≠ w3.heap.size := by have := kA2.1.lt; omega
  replace kA2 := ((kA2.retag hpe).wr hw nAH2).below hbU
  replace kH : Bx y p3 V3 bH _ 57 := Bx.below (w := U3) ⟨kH', tH⟩ hbU
  have nAH3' : w3.heap.size ≠ bH := by omega
  clear hVU hbU hwr hSU hpe hpn hw hUs kH' tH hp3 l4
  obtain ⟨bA3, hbA3⟩ : ∃ b, b = w3.heap.size := ⟨_, rfl⟩
  rw [← hbA3] at kA3 nAH3' ⊢
  have nAH3 := nAH3'
  clear hbA3 hS3 hs3 hI3
  go_upto_region 9 with fail
  refine rs3_any _ H3 H4 3 0 1 (Left y S4 p3 V3) V3 y.sb bH _ _ _ _ _ _ _ _ _ _ _ _ _ _ _ _ _ _ _ _ _ _ _ _ _ _ _ _ _ _ _ _ _ _ _ _ _ _ _ _ _ _ _ _ _ _ _ _ _ _ _ _ _ _ _ _ _ _ _ _ _ _ _ _ _ _ _ _ _ _ _ _ _ _ _ _ _ _ _ _ _ _ _ _ _ _ _ _ _ _ _ _ _ _ _ _ _ _ _ _ _ _ _ _ _ _ _ _ _ _ _ _ _ _ _ _ _ _ _ kH.1 (HS3.out _ _ _ hSV hI _ (HBl.out _ kD.1 kB.1)) (fun w' hL => (kH.stp HID.out hL.choose_spec.2.2).1) ?_
  rintro w4 U4 ⟨o4, hS4, hI4, hs4⟩ hw hUs kH'
  replace kD := kD.stp HID.out hs4
  replace kB := kB.stp HID.out hs4
  replace kH := kH.stp HID.out hs4
  replace kA1 := kA1.stp HID.out hs4
  replace kA2 := kA2.stp HID.out hs4
  replace kA3 := kA3.stp HID.out hs4
  have l4 := kH.1.lt
  obtain ⟨V4, hVU⟩ : ∃ V, V = U4.alloc (.cells #[.int .i64 3, .int .i64 0, .int .i64 1] 60) := ⟨_, rfl⟩
  rw [← hVU]
  obtain ⟨p4, hp4⟩ : ∃ p, p = ext o4 w4.heap.size (9, 1) := ⟨_, rfl⟩
  have hpe : ∀ b, b < w4.heap.size → p4 b = o4 b := fun b hb => by rw [hp4]; exact ext_lt hb
  have hpn : ∀ b, w4.heap.size ≤ b → p4 b = (9, 1) := fun b hb => by rw [hp4]; exact ext_ge hb
  have tH : p4 bH = (9, 1) := by rw [hpe _ l4]; exact kH.2
  have hbU : Below U4.heap.size U4 V4 := by rw [hVU]; exact balloc (bsame _) _
  have hwr : Stp (oT y) p4 p4 w4 U4 := Stp.of_wr hw (.inr tH)
  have hSU : StIn U4 p4 y _ := (hS4.retag hpe).stp (T := fun t => t = (9, 1)) (Stp.of_wr hw tH) (fun q h => by injection h with h _; rw [HID.out] at h; cases h)
  replace hSV := hSU.below hbU
  replace hI := hI4
  replace hst : Stp (oT y) (fun _ => (7, 0)) p4 w V4 := by
    have h1 := hst.trans (hs4.mono fun _ h => .inl h)
    have h2 := h1.ext (9, 1) w4.heap.size h1.size
    rw [← hp4] at h2
    exact (h2.trans hwr).trans (Stp.of_below hbU)
  have kA4 : Bx y p4 V4 w4.heap.size #[.int .i64 3, .int .i64 0, .int .i64 1] 60 := ⟨by rw [hVU]; exact Blk.new_at _ _ _ _ _ hUs.symm rfl, hpn _ (Nat.le_refl _)⟩
  replace kD := ((kD.retag hpe).wr hw nDH).below hbU
  replace kB := ((kB.retag hpe).wr hw nBH).below hbU
  have nA1 : bA1 ≠ w4.heap.size := by have := kA1.1.lt; omega
  replace kA1 := ((kA1.retag hpe).wr hw nAH1).below hbU
  have nA2 : bA2 ≠ w4.heap.size := by have := kA2.1.lt; omega
  replace kA2 := ((kA2.retag hpe).wr hw nAH2).below hbU
  have nA3 : bA3 ≠ w4.heap.size := by have := kA3.1.lt; omega
  replace kA3 := ((kA3.retag hpe).wr hw nAH3).below hbU
  replace kH : Bx y p4 V4 bH _ 57 := Bx.below (w := U4) ⟨kH', tH⟩ hbU
  have nAH4' : w4.heap.size ≠ bH := by omega
  clear hVU hbU hwr hSU hpe hpn hw hUs kH' tH hp4 l4
  obtain ⟨bA4, hbA4⟩ : ∃ b, b = w4.heap.size := ⟨_, rfl⟩
  rw [← hbA4] at kA4 nAH4' ⊢
  have nAH4 := nAH4'
  clear hbA4 hS4 hs4 hI4
  go_upto_region 10 with fail
  refine rs4_any _ H4 H5 0 0 0 (Left y S5 p4 V4) V4 y.sb bH _ _ _ _ _ _ _ _ _ _ _ _ _ _ _ _ _ _ _ _ _ _ _ _ _ _ _ _ _ _ _ _ _ _ _ _ _ _ _ _ _ _ _ _ _ _ _ _ _ _ _ _ _ _ _ _ _ _ _ _ _ _ _ _ _ _ _ _ _ _ _ _ _ _ _ _ _ _ _ _ _ _ _ _ _ _ _ _ _ _ _ _ _ _ _ _ _ _ _ _ _ _ _ _ _ _ _ _ _ _ _ _ _ _ _ _ _ _ _ kH.1 (HS4.out _ _ _ hSV hI _ (HBl.out _ kD.1 kB.1)) (fun w' hL => (kH.stp HID.out hL.choose_spec.2.2).1) ?_
  rintro w5 U5 ⟨o5, hS5, hI5, hs5⟩ hw hUs kH'
  replace kD := kD.stp HID.out hs5
  replace kB := kB.stp HID.out hs5
  replace kH := kH.stp HID.out hs5
  replace kA1 := kA1.stp HID.out hs5
  replace kA2 := kA2.stp HID.out hs5
  replace kA3 := kA3.stp HID.out hs5
  replace kA4 := kA4.stp HID.out hs5
  have l4 := kH.1.lt
  obtain ⟨V5, hVU⟩ : ∃ V, V = U5.alloc (.cells #[.int .i64 0, .int .i64 0, .int .i64 0] 60) := ⟨_, rfl⟩
  rw [← hVU]
  obtain ⟨p5, hp5⟩ : ∃ p, p = ext o5 w5.heap.size (9, 1) := ⟨_, rfl⟩
  have hpe : ∀ b, b < w5.heap.size → p5 b = o5 b := fun b hb => by rw [hp5]; exact ext_lt hb
  have hpn : ∀ b, w5.heap.size ≤ b → p5 b = (9, 1) := fun b hb => by rw [hp5]; exact ext_ge hb
  have tH : p5 bH = (9, 1) := by rw [hpe _ l4]; exact kH.2
  have hbU : Below U5.heap.size U5 V5 := by rw [hVU]; exact balloc (bsame _) _
  have hwr : Stp (oT y) p5 p5 w5 U5 := Stp.of_wr hw (.inr tH)
  have hSU : StIn U5 p5 y _ := (hS5.retag hpe).stp (T := fun t => t = (9, 1)) (Stp.of_wr hw tH) (fun q h => by injection h with h _; rw [HID.out] at h; cases h)
  replace hSV := hSU.below hbU
  replace hI := hI5
  replace hst : Stp (oT y) (fun _ => (7, 0)) p5 w V5 := by
    have h1 := hst.trans (hs5.mono fun _ h => .inl h)
    have h2 := h1.ext (9, 1) w5.heap.size h1.size
    rw [← hp5] at h2
    exact (h2.trans hwr).trans (Stp.of_below hbU)
  have kA5 : Bx y p5 V5 w5.heap.size #[.int .i64 0, .int .i64 0, .int .i64 0] 60 := ⟨by rw [hVU]; exact Blk.new_at _ _ _ _ _ hUs.symm rfl, hpn _ (Nat.le_refl _)⟩
  replace kD := ((kD.retag hpe).wr hw nDH).below hbU
  replace kB := ((kB.retag hpe).wr hw nBH).below hbU
  have nA1 : bA1 ≠ w5.heap.size := by have := kA1.1.lt; omega
  replace kA1 := ((kA1.retag hpe).wr hw nAH1).below hbU
  have nA2 : bA2 ≠ w5.heap.size := by have := kA2.1.lt; omega
  replace kA2 := ((kA2.retag hpe).wr hw nAH2).below hbU
  have nA3 : bA3 ≠ w5.heap.size := by have := kA3.1.lt; omega
  replace kA3 := ((kA3.retag hpe).wr hw nAH3).below hbU
  have nA4 : bA4 ≠ w5.heap.size := by have := kA4.1.lt; omega
  replace kA4 := ((kA4.retag hpe).wr hw nAH4).below hbU
  replace kH : Bx y p5 V5 bH _ 57 := Bx.below (w := U5) ⟨kH', tH⟩ hbU
  have nAH5' : w5.heap.size ≠ bH := by omega
  clear hVU hbU hwr hSU hpe hpn hw hUs kH' tH hp5 l4
  obtain ⟨bA5, hbA5⟩ : ∃ b, b = w5.heap.size := ⟨_, rfl⟩
  rw [← hbA5] at kA5 nAH5' ⊢
  have nAH5 := nAH5'
  clear hbA5 hS5 hs5 hI5
  have hb5 : Below w.heap.size w V5 := hst.below fun c _ h => h.elim (fun h => by have h : (7 : Nat) = y.l.id := h; rw [HID.out] at h; cases h) (fun h => by injection h with h _; cases h)
  have HBW := Lib.hid hb5
  have HA1 := Lib.hid kA1.1
  have HA2 := Lib.hid kA2.1
  have HA3 := Lib.hid kA3.1
  have HA4 := Lib.hid kA4.1
  have HA5 := Lib.hid kA5.1
  have HH := Lib.hid kH.1
  clear hb5 hst hSV hI HBl kD kB kH kA1 kA2 kA3 kA4 kA5 HS0 HS1 HS2 HS3 HS4 nDB nDH nBH sz0
  go_upto_region 11 with fail
  refine r11_any _ H5 V5 bH _ _ _ _ _ _ _ _ _ _ _ _ _ _ _ _ _ _ _ _ _ _ _ _ _ _ _ _ _ _ _ _ _ _ _ _ _ _ _ _ _ _ _ _ _ _ _ _ _ _ _ _ _ _ _ _ _ _ _ _ _ _ _ _ _ _ _ _ _ _ _ _ _ _ _ _ _ _ _ _ _ _ _ _ _ _ _ _ _ _ _ _ _ _ _ _ _ _ _ _ _ _ _ _ _ _ _ _ _ _ _ _ _ _ _ _ _ _ _ _ HH.out ?_
  intro X bT z61 z62 z63 z64 z65 z66 iT via bX
  have i1 := via _ _ _ HA1.out
  have i2 := via _ _ _ HA2.out
  have i3 := via _ _ _ HA3.out
  have i4 := via _ _ _ HA4.out
  have i5 := via _ _ _ HA5.out
  have i6 := via _ _ _ HH.out
  have HBX := Lib.hid (btrans HBW.out bX)
  clear via bX
  go_upto_region 12 with fail
  refine r12_any _ H5 X _ bT bH bB bA1 bA2 bA3 bA4 bA5 _ _ _ _ _ _ _ _ _ _ _ _ _ _ _ _ _ _ _ _ _ _ _ _ _ _ _ _ _ _ _ _ _ _ _ _ _ _ _ _ _ _ _ _ _ _ _ _ _ _ _ _ _ _ _ _ _ _ _ _ _ _ _ _ _ _ _ _ _ _ _ _ _ _ _ _ _ _ _ _ _ _ _ _ _ _ _ _ _ _ _ _ _ _ _ _ _ _ _ _ _ _ _ _ _ _ _ _ _ _ _ i6 iT i1 i2 i3 i4 i5 F1.out F2.out ?_
  intro tm X' h0 hbX'
  have hfin := btrans HBX.out hbX'
  go_wp2_with fail
  rw [Array.getD_eq_getD_getElem?] at h0
  refine bodyPost_ret (v := .bool true) ?_ rfl ⟨rfl, hfin⟩
  simp [results, Tryz.results26, go_sem, h0]
theorem awake16_any (w : World) : Calls Tryz.prog 26 #[] w fun e w' => e = .returned (.bool true) ∧ Below w.heap.size w w' := by
  obtain ⟨ac1, ac2, ac3, ac4, ac5⟩ := A16.acts
  obtain ⟨f1, f2⟩ := A16.fin5
  refine awake16_of (A16.T 0).S (A16.T 1).S (A16.T 2).S (A16.T 3).S (A16.T 4).S (A16.T 5).S (A16.T 0).h (A16.T 1).h (A16.T 2).h (A16.T 3).h (A16.T 4).h (A16.T 5).h (fun w => c_new 60 1 9 9 99 (by omega) (by omega) (by omega) (by omega) (by omega) (by omega) (fun _ => (7, 0)) 0 w (fun b _ => by simp)) ?_ ?_ ?_ ?_ ?_ (by kernel_rfl) f1 f2 w
  · intro y X o2 h hI vb hB
    have := tstep_any h hB (A16.T 0).h (tst_of hI A16.dk (A16.tb 0 (by omega)))
    have e : (A16.T 0).S.tstep 0 A16.P (A16.T 0).h = A16.T 1 := rfl
    rw [e, ac1] at this
    exact this
  · intro y X o2 h hI vb hB
    have := tstep_any h hB (A16.T 1).h (tst_of hI A16.dk (A16.tb 1 (by omega)))
    have e : (A16.T 1).S.tstep 0 A16.P (A16.T 1).h = A16.T 2 := rfl
    rw [e, ac2] at this
    exact this
  · intro y X o2 h hI vb hB
    have := tstep_any h hB (A16.T 2).h (tst_of hI A16.dk (A16.tb 2 (by omega)))
    have e : (A16.T 2).S.tstep 0 A16.P (A16.T 2).h = A16.T 3 := rfl
    rw [e, ac3] at this
    exact this
  · intro y X o2 h hI vb hB
    have := tstep_any h hB (A16.T 3).h (tst_of hI A16.dk (A16.tb 3 (by omega)))
    have e : (A16.T 3).S.tstep 0 A16.P (A16.T 3).h = A16.T 4 := rfl
    rw [e, ac4] at this
    exact this
  · intro y X o2 h hI vb hB
    have := tstep_any h hB (A16.T 4).h (tst_of hI A16.dk (A16.tb 4 (by omega)))
    have e : (A16.T 4).S.tstep 0 A16.P (A16.T 4).h = A16.T 5 := rfl
    rw [e, ac5] at this
    exact this
end Go.Proofs.YtemohiainfllcaaGreat
