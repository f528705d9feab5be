/- The law ThreadSame: its greater statements, each region a theorem of its own (printed by tools/regs.py). -/
import Derived.Test.YtemohiainfllcaaGreatRx
import Derived.Test.YtemohiainfllcaaGreatSb
import Derived.Test.YtemohiainfllcaaGreatSa
import Derived.Test.YtemohiainfllcaaGreatRy
import Derived.Test.YtemohiainfllcaaGreatRz
namespace Go.Proofs.YtemohiainfllcaaGreat
open Go.RowKit Hp
attribute [local go_sem ↓] Go.wp_at_zero Go.wp_at_succ
set_option maxRecDepth 1000000 in
set_option maxHeartbeats 8000000 in
theorem sam13_any (Q : Exit → Act → World → Prop) (H H' : ThV) (ak ae av : Int) (P : World → Prop) (V : World) (sb bG : Nat) (vp : Value) (u0 u1 u2 u3 u4 u5 u8 u9 u10 u12 u13 u14 u15 u16 u17 u18 u19 u20 u21 u22 u23 u24 u25 u26 u27 u28 u29 u30 u31 u32 u33 u34 u35 u36 u37 u38 u39 u40 u41 u42 u43 u44 u45 u46 u47 u48 u49 u50 u51 u52 u53 u54 u55 u56 u57 u58 u59 u60 u61 u62 u63 u64 u65 u66 u67 u68 u69 u70 u71 u72 u73 u74 u75 u76 u77 u78 u79 u80 u81 u82 u83 u84 u85 u86 u87 u88 u89 u90 u91 u92 u93 u94 u95 u96 u97 u98 : Value) (j : Blk V bG #[.int .i64 H.b, .int .i64 H.n, .int .i64 H.r.a0, .int .i64 H.r.a1, .int .i64 H.r.a2, .int .i64 H.r.a3, .int .i64 H.r.a4, .int .i64 H.r.a5, .int .i64 H.s.a0, .int .i64 H.s.a1, .int .i64 H.s.a2, .int .i64 H.s.a3, .int .i64 H.s.a4, .int .i64 H.s.a5, .bool H.l] 57)
    (hcall : Calls Tryz.prog 30 #[ptr sb, .int .i64 0, vp, .agg #[.int .i64 H.b, .int .i64 H.n, .int .i64 H.r.a0, .int .i64 H.r.a1, .int .i64 H.r.a2, .int .i64 H.r.a3, .int .i64 H.r.a4, .int .i64 H.r.a5, .int .i64 H.s.a0, .int .i64 H.s.a1, .int .i64 H.s.a2, .int .i64 H.s.a3, .int .i64 H.s.a4, .int .i64 H.s.a5, .bool H.l]] V fun e w' => e = .returned (.tuple #[.agg #[.int .i64 H'.b, .int .i64 H'.n, .int .i64 H'.r.a0, .int .i64 H'.r.a1, .int .i64 H'.r.a2, .int .i64 H'.r.a3, .int .i64 H'.r.a4, .int .i64 H'.r.a5, .int .i64 H'.s.a0, .int .i64 H'.s.a1, .int .i64 H'.s.a2, .int .i64 H'.s.a3, .int .i64 H'.s.a4, .int .i64 H'.s.a5, .bool H'.l], .agg #[.int .i64 ak, .int .i64 ae, .int .i64 av]]) ∧ P w')
    (hexit : ∀ w', P w' → Q .normal ⟨#[u0, u1, u2, u3, u4, u5, vp, ptr sb, u8, u9, u10, ptr bG, u12, u13, u14, ptr w'.heap.size, ptr (w'.heap.size + 1), u17, u18, u19, u20, u21, u22, u23, u24, u25, u26, u27, u28, u29, u30, u31, u32, u33, u34, u35, u36, u37, u38, u39, u40, u41, u42, u43, u44, u45, u46, u47, u48, u49, u50, (.tuple #[.agg #[.int .i64 H'.b, .int .i64 H'.n, .int .i64 H'.r.a0, .int .i64 H'.r.a1, .int .i64 H'.r.a2, .int .i64 H'.r.a3, .int .i64 H'.r.a4, .int .i64 H'.r.a5, .int .i64 H'.s.a0, .int .i64 H'.s.a1, .int .i64 H'.s.a2, .int .i64 H'.s.a3, .int .i64 H'.s.a4, .int .i64 H'.s.a5, .bool H'.l], .agg #[.int .i64 ak, .int .i64 ae, .int .i64 av]]), ptr sb, vp, .agg #[.int .i64 H.b, .int .i64 H.n, .int .i64 H.r.a0, .int .i64 H.r.a1, .int .i64 H.r.a2, .int .i64 H.r.a3, .int .i64 H.r.a4, .int .i64 H.r.a5, .int .i64 H.s.a0, .int .i64 H.s.a1, .int .i64 H.s.a2, .int .i64 H.s.a3, .int .i64 H.s.a4, .int .i64 H.s.a5, .bool H.l], (.tuple #[.agg #[.int .i64 H'.b, .int .i64 H'.n, .int .i64 H'.r.a0, .int .i64 H'.r.a1, .int .i64 H'.r.a2, .int .i64 H'.r.a3, .int .i64 H'.r.a4, .int .i64 H'.r.a5, .int .i64 H'.s.a0, .int .i64 H'.s.a1, .int .i64 H'.s.a2, .int .i64 H'.s.a3, .int .i64 H'.s.a4, .int .i64 H'.s.a5, .bool H'.l], .agg #[.int .i64 ak, .int .i64 ae, .int .i64 av]]), .agg #[.int .i64 H'.b, .int .i64 H'.n, .int .i64 H'.r.a0, .int .i64 H'.r.a1, .int .i64 H'.r.a2, .int .i64 H'.r.a3, .int .i64 H'.r.a4, .int .i64 H'.r.a5, .int .i64 H'.s.a0, .int .i64 H'.s.a1, .int .i64 H'.s.a2, .int .i64 H'.s.a3, .int .i64 H'.s.a4, .int .i64 H'.s.a5, .bool H'.l], .agg #[.int .i64 ak, .int .i64 ae, .int .i64 av], u58, u59, u60, u61, u62, u63, u64, u65, u66, u67, u68, u69, u70, u71, u72, u73, u74, u75, u76, u77, u78, u79, u80, u81, u82, u83, u84, u85, u86, u87, u88, u89, u90, u91, u92, u93, u94, u95, u96, u97, u98], []⟩ ((w'.alloc (.cells #[.int .i64 H'.b, .int .i64 H'.n, .int .i64 H'.r.a0, .int .i64 H'.r.a1, .int .i64 H'.r.a2, .int .i64 H'.r.a3, .int .i64 H'.r.a4, .int .i64 H'.r.a5, .int .i64 H'.s.a0, .int .i64 H'.s.a1, .int .i64 H'.s.a2, .int .i64 H'.s.a3, .int .i64 H'.s.a4, .int .i64 H'.s.a5, .bool H'.l] 57)).alloc (.cells #[.int .i64 ak, .int .i64 ae, .int .i64 av] 60))) :
    Code.wp Tryz.prog ((Tryz.f10.body.bind (findReg 13)).getD .skip) Q ⟨#[u0, u1, u2, u3, u4, u5, vp, ptr sb, u8, u9, u10, ptr bG, u12, u13, u14, u15, u16, u17, u18, u19, u20, u21, u22, u23, u24, u25, u26, u27, u28, u29, u30, u31, u32, u33, u34, u35, u36, u37, u38, u39, u40, u41, u42, u43, u44, u45, u46, u47, u48, u49, u50, u51, u52, u53, u54, u55, u56, u57, u58, u59, u60, u61, u62, u63, u64, u65, u66, u67, u68, u69, u70, u71, u72, u73, u74, u75, u76, u77, u78, u79, u80, u81, u82, u83, u84, u85, u86, u87, u88, u89, u90, u91, u92, u93, u94, u95, u96, u97, u98], []⟩ V := by
  conv => arg 2; whnf
  have HC := Lib.hid hcall
  have HX := Lib.hid hexit
  have c := j.cell
  clear hcall hexit
  go_wp2_with fail
  refine HC.out.mono ?_
  rintro e w1 ⟨rfl, hp⟩
  have HE := Lib.hid (HX.out w1 hp)
  clear HC HX c hp j
  go_wp2_with fail
  exact HE.out
set_option maxRecDepth 1000000 in
set_option maxHeartbeats 8000000 in
theorem sam14_any (Q : Exit → Act → World → Prop) (H H' : ThV) (V : World) (bX bG : Nat) (u0 u1 u2 u3 u4 u5 u6 u7 u8 u9 u10 u12 u13 u14 u16 u17 u18 u19 u20 u21 u22 u23 u24 u25 u26 u27 u28 u29 u30 u31 u32 u33 u34 u35 u36 u37 u38 u39 u40 u41 u42 u43 u44 u45 u46 u47 u48 u49 u50 u51 u52 u53 u54 u55 u56 u57 u58 u59 u60 u61 u62 u63 u64 u65 u66 u67 u68 u69 u70 u71 u72 u73 u74 u75 u76 u77 u78 u79 u80 u81 u82 u83 u84 u85 u86 u87 u88 u89 u90 u91 u92 u93 u94 u95 u96 u97 u98 : Value) (jX : Blk V bX #[.int .i64 H'.b, .int .i64 H'.n, .int .i64 H'.r.a0, .int .i64 H'.r.a1, .int .i64 H'.r.a2, .int .i64 H'.r.a3, .int .i64 H'.r.a4, .int .i64 H'.r.a5, .int .i64 H'.s.a0, .int .i64 H'.s.a1, .int .i64 H'.s.a2, .int .i64 H'.s.a3, .int .i64 H'.s.a4, .int .i64 H'.s.a5, .bool H'.l] 57) (jG : Blk V bG #[.int .i64 H.b, .int .i64 H.n, .int .i64 H.r.a0, .int .i64 H.r.a1, .int .i64 H.r.a2, .int .i64 H.r.a3, .int .i64 H.r.a4, .int .i64 H.r.a5, .int .i64 H.s.a0, .int .i64 H.s.a1, .int .i64 H.s.a2, .int .i64 H.s.a3, .int .i64 H.s.a4, .int .i64 H.s.a5, .bool H.l] 57)
    (hexit : ∀ U, Wr bG V U → U.heap.size = V.heap.size → Blk U bG #[.int .i64 H'.b, .int .i64 H'.n, .int .i64 H'.r.a0, .int .i64 H'.r.a1, .int .i64 H'.r.a2, .int .i64 H'.r.a3, .int .i64 H'.r.a4, .int .i64 H'.r.a5, .int .i64 H'.s.a0, .int .i64 H'.s.a1, .int .i64 H'.s.a2, .int .i64 H'.s.a3, .int .i64 H'.s.a4, .int .i64 H'.s.a5, .bool H'.l] 57 → Q .normal ⟨#[u0, u1, u2, u3, u4, u5, u6, u7, u8, u9, u10, ptr bG, u12, u13, u14, ptr bX, u16, u17, u18, u19, u20, u21, u22, u23, u24, u25, u26, u27, u28, u29, u30, u31, u32, u33, u34, u35, u36, u37, u38, u39, u40, u41, u42, u43, u44, u45, u46, u47, u48, u49, u50, u51, u52, u53, u54, u55, u56, u57, .agg #[.int .i64 H'.b, .int .i64 H'.n, .int .i64 H'.r.a0, .int .i64 H'.r.a1, .int .i64 H'.r.a2, .int .i64 H'.r.a3, .int .i64 H'.r.a4, .int .i64 H'.r.a5, .int .i64 H'.s.a0, .int .i64 H'.s.a1, .int .i64 H'.s.a2, .int .i64 H'.s.a3, .int .i64 H'.s.a4, .int .i64 H'.s.a5, .bool H'.l], u59, u60, u61, u62, u63, u64, u65, u66, u67, u68, u69, u70, u71, u72, u73, u74, u75, u76, u77, u78, u79, u80, u81, u82, u83, u84, u85, u86, u87, u88, u89, u90, u91, u92, u93, u94, u95, u96, u97, u98], []⟩ U) :
    Code.wp Tryz.prog ((Tryz.f10.body.bind (findReg 14)).getD .skip) Q ⟨#[u0, u1, u2, u3, u4, u5, u6, u7, u8, u9, u10, ptr bG, u12, u13, u14, ptr bX, u16, u17, u18, u19, u20, u21, u22, u23, u24, u25, u26, u27, u28, u29, u30, u31, u32, u33, u34, u35, u36, u37, u38, u39, u40, u41, u42, u43, u44, u45, u46, u47, u48, u49, u50, u51, u52, u53, u54, u55, u56, u57, u58, u59, u60, u61, u62, u63, u64, u65, u66, u67, u68, u69, u70, u71, u72, u73, u74, u75, u76, u77, u78, u79, u80, u81, u82, u83, u84, u85, u86, u87, u88, u89, u90, u91, u92, u93, u94, u95, u96, u97, u98], []⟩ V := by
  conv => arg 2; whnf
  have HE := Lib.hid (hexit (((((((((((((((V.setCell ⟨bG, 0, none⟩ (.int .i64 H'.b)).setCell ⟨bG, 1, none⟩ (.int .i64 H'.n)).setCell ⟨bG, 2, none⟩ (.int .i64 H'.r.a0)).setCell ⟨bG, 3, none⟩ (.int .i64 H'.r.a1)).setCell ⟨bG, 4, none⟩ (.int .i64 H'.r.a2)).setCell ⟨bG, 5, none⟩ (.int .i64 H'.r.a3)).setCell ⟨bG, 6, none⟩ (.int .i64 H'.r.a4)).setCell ⟨bG, 7, none⟩ (.int .i64 H'.r.a5)).setCell ⟨bG, 8, none⟩ (.int .i64 H'.s.a0)).setCell ⟨bG, 9, none⟩ (.int .i64 H'.s.a1)).setCell ⟨bG, 10, none⟩ (.int .i64 H'.s.a2)).setCell ⟨bG, 11, none⟩ (.int .i64 H'.s.a3)).setCell ⟨bG, 12, none⟩ (.int .i64 H'.s.a4)).setCell ⟨bG, 13, none⟩ (.int .i64 H'.s.a5)).setCell ⟨bG, 14, none⟩ (.bool H'.l)) ((((((((((((((((Wr.refl _ _).trans (Wr.set _ _ 0 _)).trans (Wr.set _ _ 1 _)).trans (Wr.set _ _ 2 _)).trans (Wr.set _ _ 3 _)).trans (Wr.set _ _ 4 _)).trans (Wr.set _ _ 5 _)).trans (Wr.set _ _ 6 _)).trans (Wr.set _ _ 7 _)).trans (Wr.set _ _ 8 _)).trans (Wr.set _ _ 9 _)).trans (Wr.set _ _ 10 _)).trans (Wr.set _ _ 11 _)).trans (Wr.set _ _ 12 _)).trans (Wr.set _ _ 13 _)).trans (Wr.set _ _ 14 _)) (by simp) (by
    have k := (((((((((((((((jG.set 0 (.int .i64 H'.b)).set 1 (.int .i64 H'.n)).set 2 (.int .i64 H'.r.a0)).set 3 (.int .i64 H'.r.a1)).set 4 (.int .i64 H'.r.a2)).set 5 (.int .i64 H'.r.a3)).set 6 (.int .i64 H'.r.a4)).set 7 (.int .i64 H'.r.a5)).set 8 (.int .i64 H'.s.a0)).set 9 (.int .i64 H'.s.a1)).set 10 (.int .i64 H'.s.a2)).set 11 (.int .i64 H'.s.a3)).set 12 (.int .i64 H'.s.a4)).set 13 (.int .i64 H'.s.a5)).set 14 (.bool H'.l))
    simp only [List.setIfInBounds_toArray, List.set_cons_zero, List.set_cons_succ] at k
    exact k))
  have cX := jX.cell
  have zG := jG.free
  have cG := jG.cell
  have lG := jG.lt
  clear hexit jX jG
  go_wp2_with fail
  exact HE.out
set_option maxRecDepth 1000000 in
set_option maxHeartbeats 8000000 in
theorem sam20_any (Q : Exit → Act → World → Prop) (H H' : ThV) (ak ae av : Int) (P : World → Prop) (V : World) (sb bG : Nat) (vp : Value) (u0 u1 u2 u3 u4 u5 u7 u8 u10 u11 u12 u13 u14 u15 u16 u18 u19 u20 u21 u22 u23 u24 u25 u26 u27 u28 u29 u30 u31 u32 u33 u34 u35 u36 u37 u38 u39 u40 u41 u42 u43 u44 u45 u46 u47 u48 u49 u50 u51 u52 u53 u54 u55 u56 u57 u58 u59 u60 u61 u62 u63 u64 u65 u66 u67 u68 u69 u70 u71 u72 u73 u74 u75 u76 u77 u78 u79 u80 u81 u82 u83 u84 u85 u86 u87 u88 u89 u90 u91 u92 u93 u94 u95 u96 u97 u98 : Value) (j : Blk V bG #[.int .i64 H.b, .int .i64 H.n, .int .i64 H.r.a0, .int .i64 H.r.a1, .int .i64 H.r.a2, .int .i64 H.r.a3, .int .i64 H.r.a4, .int .i64 H.r.a5, .int .i64 H.s.a0, .int .i64 H.s.a1, .int .i64 H.s.a2, .int .i64 H.s.a3, .int .i64 H.s.a4, .int .i64 H.s.a5, .bool H.l] 57)
    (hcall : Calls Tryz.prog 30 #[ptr sb, .int .i64 0, vp, .agg #[.int .i64 H.b, .int .i64 H.n, .int .i64 H.r.a0, .int .i64 H.r.a1, .int .i64 H.r.a2, .int .i64 H.r.a3, .int .i64 H.r.a4, .int .i64 H.r.a5, .int .i64 H.s.a0, .int .i64 H.s.a1, .int .i64 H.s.a2, .int .i64 H.s.a3, .int .i64 H.s.a4, .int .i64 H.s.a5, .bool H.l]] V fun e w' => e = .returned (.tuple #[.agg #[.int .i64 H'.b, .int .i64 H'.n, .int .i64 H'.r.a0, .int .i64 H'.r.a1, .int .i64 H'.r.a2, .int .i64 H'.r.a3, .int .i64 H'.r.a4, .int .i64 H'.r.a5, .int .i64 H'.s.a0, .int .i64 H'.s.a1, .int .i64 H'.s.a2, .int .i64 H'.s.a3, .int .i64 H'.s.a4, .int .i64 H'.s.a5, .bool H'.l], .agg #[.int .i64 ak, .int .i64 ae, .int .i64 av]]) ∧ P w')
    (hexit : ∀ w', P w' → Q .normal ⟨#[u0, u1, u2, u3, u4, u5, vp, u7, u8, ptr sb, u10, u11, u12, u13, u14, u15, u16, ptr bG, u18, ptr w'.heap.size, ptr (w'.heap.size + 1), u21, u22, u23, u24, u25, u26, u27, u28, u29, u30, u31, u32, u33, u34, u35, u36, u37, u38, u39, u40, u41, u42, u43, u44, u45, u46, u47, u48, u49, u50, u51, u52, u53, u54, u55, u56, u57, u58, u59, u60, u61, u62, u63, u64, u65, u66, u67, (.tuple #[.agg #[.int .i64 H'.b, .int .i64 H'.n, .int .i64 H'.r.a0, .int .i64 H'.r.a1, .int .i64 H'.r.a2, .int .i64 H'.r.a3, .int .i64 H'.r.a4, .int .i64 H'.r.a5, .int .i64 H'.s.a0, .int .i64 H'.s.a1, .int .i64 H'.s.a2, .int .i64 H'.s.a3, .int .i64 H'.s.a4, .int .i64 H'.s.a5, .bool H'.l], .agg #[.int .i64 ak, .int .i64 ae, .int .i64 av]]), ptr sb, vp, .agg #[.int .i64 H.b, .int .i64 H.n, .int .i64 H.r.a0, .int .i64 H.r.a1, .int .i64 H.r.a2, .int .i64 H.r.a3, .int .i64 H.r.a4, .int .i64 H.r.a5, .int .i64 H.s.a0, .int .i64 H.s.a1, .int .i64 H.s.a2, .int .i64 H.s.a3, .int .i64 H.s.a4, .int .i64 H.s.a5, .bool H.l], (.tuple #[.agg #[.int .i64 H'.b, .int .i64 H'.n, .int .i64 H'.r.a0, .int .i64 H'.r.a1, .int .i64 H'.r.a2, .int .i64 H'.r.a3, .int .i64 H'.r.a4, .int .i64 H'.r.a5, .int .i64 H'.s.a0, .int .i64 H'.s.a1, .int .i64 H'.s.a2, .int .i64 H'.s.a3, .int .i64 H'.s.a4, .int .i64 H'.s.a5, .bool H'.l], .agg #[.int .i64 ak, .int .i64 ae, .int .i64 av]]), .agg #[.int .i64 H'.b, .int .i64 H'.n, .int .i64 H'.r.a0, .int .i64 H'.r.a1, .int .i64 H'.r.a2, .int .i64 H'.r.a3, .int .i64 H'.r.a4, .int .i64 H'.r.a5, .int .i64 H'.s.a0, .int .i64 H'.s.a1, .int .i64 H'.s.a2, .int .i64 H'.s.a3, .int .i64 H'.s.a4, .int .i64 H'.s.a5, .bool H'.l], .agg #[.int .i64 ak, .int .i64 ae, .int .i64 av], u75, u76, u77, u78, u79, u80, u81, u82, u83, u84, u85, u86, u87, u88, u89, u90, u91, u92, u93, u94, u95, u96, u97, u98], []⟩ ((w'.alloc (.cells #[.int .i64 H'.b, .int .i64 H'.n, .int .i64 H'.r.a0, .int .i64 H'.r.a1, .int .i64 H'.r.a2, .int .i64 H'.r.a3, .int .i64 H'.r.a4, .int .i64 H'.r.a5, .int .i64 H'.s.a0, .int .i64 H'.s.a1, .int .i64 H'.s.a2, .int .i64 H'.s.a3, .int .i64 H'.s.a4, .int .i64 H'.s.a5, .bool H'.l] 57)).alloc (.cells #[.int .i64 ak, .int .i64 ae, .int .i64 av] 60))) :
    Code.wp Tryz.prog ((Tryz.f10.body.bind (findReg 20)).getD .skip) Q ⟨#[u0, u1, u2, u3, u4, u5, vp, u7, u8, ptr sb, u10, u11, u12, u13, u14, u15, u16, ptr bG, u18, u19, u20, u21, u22, u23, u24, u25, u26, u27, u28, u29, u30, u31, u32, u33, u34, u35, u36, u37, u38, u39, u40, u41, u42, u43, u44, u45, u46, u47, u48, u49, u50, u51, u52, u53, u54, u55, u56, u57, u58, u59, u60, u61, u62, u63, u64, u65, u66, u67, u68, u69, u70, u71, u72, u73, u74, u75, u76, u77, u78, u79, u80, u81, u82, u83, u84, u85, u86, u87, u88, u89, u90, u91, u92, u93, u94, u95, u96, u97, u98], []⟩ V := by
  conv => arg 2; whnf
  have HC := Lib.hid hcall
  have HX := Lib.hid hexit
  have c := j.cell
  clear hcall hexit
  go_wp2_with fail
  refine HC.out.mono ?_
  rintro e w1 ⟨rfl, hp⟩
  have HE := Lib.hid (HX.out w1 hp)
  clear HC HX c hp j
  go_wp2_with fail
  exact HE.out
set_option maxRecDepth 1000000 in
set_option maxHeartbeats 8000000 in
theorem sam21_any (Q : Exit → Act → World → Prop) (H H' : ThV) (V : World) (bX bG : Nat) (u0 u1 u2 u3 u4 u5 u6 u7 u8 u9 u10 u11 u12 u13 u14 u15 u16 u18 u20 u21 u22 u23 u24 u25 u26 u27 u28 u29 u30 u31 u32 u33 u34 u35 u36 u37 u38 u39 u40 u41 u42 u43 u44 u45 u46 u47 u48 u49 u50 u51 u52 u53 u54 u55 u56 u57 u58 u59 u60 u61 u62 u63 u64 u65 u66 u67 u68 u69 u70 u71 u72 u73 u74 u75 u76 u77 u78 u79 u80 u81 u82 u83 u84 u85 u86 u87 u88 u89 u90 u91 u92 u93 u94 u95 u96 u97 u98 : Value) (jX : Blk V bX #[.int .i64 H'.b, .int .i64 H'.n, .int .i64 H'.r.a0, .int .i64 H'.r.a1, .int .i64 H'.r.a2, .int .i64 H'.r.a3, .int .i64 H'.r.a4, .int .i64 H'.r.a5, .int .i64 H'.s.a0, .int .i64 H'.s.a1, .int .i64 H'.s.a2, .int .i64 H'.s.a3, .int .i64 H'.s.a4, .int .i64 H'.s.a5, .bool H'.l] 57) (jG : Blk V bG #[.int .i64 H.b, .int .i64 H.n, .int .i64 H.r.a0, .int .i64 H.r.a1, .int .i64 H.r.a2, .int .i64 H.r.a3, .int .i64 H.r.a4, .int .i64 H.r.a5, .int .i64 H.s.a0, .int .i64 H.s.a1, .int .i64 H.s.a2, .int .i64 H.s.a3, .int .i64 H.s.a4, .int .i64 H.s.a5, .bool H.l] 57)
    (hexit : ∀ U, Wr bG V U → U.heap.size = V.heap.size → Blk U bG #[.int .i64 H'.b, .int .i64 H'.n, .int .i64 H'.r.a0, .int .i64 H'.r.a1, .int .i64 H'.r.a2, .int .i64 H'.r.a3, .int .i64 H'.r.a4, .int .i64 H'.r.a5, .int .i64 H'.s.a0, .int .i64 H'.s.a1, .int .i64 H'.s.a2, .int .i64 H'.s.a3, .int .i64 H'.s.a4, .int .i64 H'.s.a5, .bool H'.l] 57 → Q .normal ⟨#[u0, u1, u2, u3, u4, u5, u6, u7, u8, u9, u10, u11, u12, u13, u14, u15, u16, ptr bG, u18, ptr bX, u20, u21, u22, u23, u24, u25, u26, u27, u28, u29, u30, u31, u32, u33, u34, u35, u36, u37, u38, u39, u40, u41, u42, u43, u44, u45, u46, u47, u48, u49, u50, u51, u52, u53, u54, u55, u56, u57, u58, u59, u60, u61, u62, u63, u64, u65, u66, u67, u68, u69, u70, u71, u72, u73, u74, .agg #[.int .i64 H'.b, .int .i64 H'.n, .int .i64 H'.r.a0, .int .i64 H'.r.a1, .int .i64 H'.r.a2, .int .i64 H'.r.a3, .int .i64 H'.r.a4, .int .i64 H'.r.a5, .int .i64 H'.s.a0, .int .i64 H'.s.a1, .int .i64 H'.s.a2, .int .i64 H'.s.a3, .int .i64 H'.s.a4, .int .i64 H'.s.a5, .bool H'.l], u76, u77, u78, u79, u80, u81, u82, u83, u84, u85, u86, u87, u88, u89, u90, u91, u92, u93, u94, u95, u96, u97, u98], []⟩ U) :
    Code.wp Tryz.prog ((Tryz.f10.body.bind (findReg 21)).getD .skip) Q ⟨#[u0, u1, u2, u3, u4, u5, u6, u7, u8, u9, u10, u11, u12, u13, u14, u15, u16, ptr bG, u18, ptr bX, u20, u21, u22, u23, u24, u25, u26, u27, u28, u29, u30, u31, u32, u33, u34, u35, u36, u37, u38, u39, u40, u41, u42, u43, u44, u45, u46, u47, u48, u49, u50, u51, u52, u53, u54, u55, u56, u57, u58, u59, u60, u61, u62, u63, u64, u65, u66, u67, u68, u69, u70, u71, u72, u73, u74, u75, u76, u77, u78, u79, u80, u81, u82, u83, u84, u85, u86, u87, u88, u89, u90, u91, u92, u93, u94, u95, u96, u97, u98], []⟩ V := by
  conv => arg 2; whnf
  have HE := Lib.hid (hexit (((((((((((((((V.setCell ⟨bG, 0, none⟩ (.int .i64 H'.b)).setCell ⟨bG, 1, none⟩ (.int .i64 H'.n)).setCell ⟨bG, 2, none⟩ (.int .i64 H'.r.a0)).setCell ⟨bG, 3, none⟩ (.int .i64 H'.r.a1)).setCell ⟨bG, 4, none⟩ (.int .i64 H'.r.a2)).setCell ⟨bG, 5, none⟩ (.int .i64 H'.r.a3)).setCell ⟨bG, 6, none⟩ (.int .i64 H'.r.a4)).setCell ⟨bG, 7, none⟩ (.int .i64 H'.r.a5)).setCell ⟨bG, 8, none⟩ (.int .i64 H'.s.a0)).setCell ⟨bG, 9, none⟩ (.int .i64 H'.s.a1)).setCell ⟨bG, 10, none⟩ (.int .i64 H'.s.a2)).setCell ⟨bG, 11, none⟩ (.int .i64 H'.s.a3)).setCell ⟨bG, 12, none⟩ (.int .i64 H'.s.a4)).setCell ⟨bG, 13, none⟩ (.int .i64 H'.s.a5)).setCell ⟨bG, 14, none⟩ (.bool H'.l)) ((((((((((((((((Wr.refl _ _).trans (Wr.set _ _ 0 _)).trans (Wr.set _ _ 1 _)).trans (Wr.set _ _ 2 _)).trans (Wr.set _ _ 3 _)).trans (Wr.set _ _ 4 _)).trans (Wr.set _ _ 5 _)).trans (Wr.set _ _ 6 _)).trans (Wr.set _ _ 7 _)).trans (Wr.set _ _ 8 _)).trans (Wr.set _ _ 9 _)).trans (Wr.set _ _ 10 _)).trans (Wr.set _ _ 11 _)).trans (Wr.set _ _ 12 _)).trans (Wr.set _ _ 13 _)).trans (Wr.set _ _ 14 _)) (by simp) (by
    have k := (((((((((((((((jG.set 0 (.int .i64 H'.b)).set 1 (.int .i64 H'.n)).set 2 (.int .i64 H'.r.a0)).set 3 (.int .i64 H'.r.a1)).set 4 (.int .i64 H'.r.a2)).set 5 (.int .i64 H'.r.a3)).set 6 (.int .i64 H'.r.a4)).set 7 (.int .i64 H'.r.a5)).set 8 (.int .i64 H'.s.a0)).set 9 (.int .i64 H'.s.a1)).set 10 (.int .i64 H'.s.a2)).set 11 (.int .i64 H'.s.a3)).set 12 (.int .i64 H'.s.a4)).set 13 (.int .i64 H'.s.a5)).set 14 (.bool H'.l))
    simp only [List.setIfInBounds_toArray, List.set_cons_zero, List.set_cons_succ] at k
    exact k))
  have cX := jX.cell
  have zG := jG.free
  have cG := jG.cell
  have lG := jG.lt
  clear hexit jX jG
  go_wp2_with fail
  exact HE.out
end Go.Proofs.YtemohiainfllcaaGreat

/- The law ThreadSame, walked. -/
namespace Go.Proofs.YtemohiainfllcaaGreat
open Go.RowKit Hp
attribute [local go_sem ↓] Go.wp_at_zero Go.wp_at_succ
/-- The acts of a thread's first steps. -/
def acts (f : Nat → TR) (k : Nat) : List Value := (List.range k).flatMap fun j => (f (j + 1)).a.cells.toList
theorem acts_succ (f : Nat → TR) (k : Nat) : acts f (k + 1) = acts f k ++ (f (k + 1)).a.cells.toList := by
  unfold acts; rw [List.range_succ, List.flatMap_append]; simp
theorem acts_len (f : Nat → TR) : ∀ k, (acts f k).length = k * 3
  | 0 => rfl
  | k + 1 => by rw [acts_succ, List.length_append, acts_len f k]; show k * 3 + 3 = _; omega
theorem acts_get (f : Nat → TR) : ∀ (n k : Nat), k < n → ∀ r, r < 3 → (acts f n)[k * 3 + r]? = (f (k + 1)).a.cells[r]?
  | 0, k, h, _, _ => by omega
  | n + 1, k, h, r, hr => by
    rw [acts_succ]
    have hl := acts_len f n
    by_cases e : k < n
    · rw [List.getElem?_append_left (by omega)]; exact acts_get f n k e r hr
    · obtain rfl : k = n := by omega
      rw [List.getElem?_append_right (by omega), hl, show k * 3 + r - k * 3 = r from by omega]; simp
theorem info_act : ∃ i, Tryz.prog.info? 60 = some i ∧ i.size = 3 ∧ i.bytes = 24 ∧ i.zero = some (.agg #[.int .i64 0, .int .i64 0, .int .i64 0]) := info_parts (by kernel_rfl)
theorem act_one {k e v : Int} : ∀ u ∈ [Value.int .i64 k, .int .i64 e, .int .i64 v], u.oneCell' = true := by
  intro u hu; simp at hu; rcases hu with rfl | rfl | rfl <;> rfl
/-- What the law may turn. -/
def sT (ya yb : SLay) (t : Tag) : Prop := stTag ya t ∨ stTag yb t ∨ t.1 = 9
structure SamIn (tg : Tag) (w : World) (o : Own) (ya yb : SLay) (A B : Stt) (bG : Nat) (h : ThV) (w0 : World) : Prop where
  a : StIn w o ya A
  b : StIn w o yb B
  g : Blk w bG h.cells 57
  t : o bG = tg
  s : Stp (sT ya yb) (fun _ => (7, 0)) o w0 w
theorem SamIn.stp {tg : Tag} {w w' : World} {o o' : Own} {ya yb : SLay} {A B : Stt} {bG : Nat} {h : ThV} {w0 : World} (k : SamIn tg w o ya yb A B bG h w0) {T : Tag → Prop} (hs : Stp T o o' w w') (ht : ∀ t, T t → sT ya yb t) (na : ∀ j, ¬ T (ya.l.id, j)) (nb : ∀ j, ¬ T (yb.l.id, j)) (ng : ¬ T tg) : SamIn tg w' o' ya yb A B bG h w0 :=
  ⟨k.a.stp hs na, k.b.stp hs nb, k.g.stp hs (by rw [k.t]; exact ng), (hs.tags _ k.g.lt).trans k.t, k.s.trans (hs.mono ht)⟩
theorem SamIn.below {tg : Tag} {w w' : World} {o : Own} {ya yb : SLay} {A B : Stt} {bG : Nat} {h : ThV} {w0 : World} (k : SamIn tg w o ya yb A B bG h w0) (hb : Below w.heap.size w w') : SamIn tg w' o ya yb A B bG h w0 :=
  k.stp (T := fun _ => False) (Stp.of_below hb) (fun _ h => h.elim) (fun _ h => h) (fun _ h => h) (fun h => h)
theorem SamIn.old {tg : Tag} {w : World} {o : Own} {ya yb : SLay} {A B : Stt} {bG : Nat} {h : ThV} {w0 : World} (k : SamIn tg w o ya yb A B bG h w0) (na : ya.l.id ≠ 7) (nb : yb.l.id ≠ 7) : Below w0.heap.size w0 w :=
  k.s.below fun c _ h => h.elim (fun h => na h.symm) (fun h => h.elim (fun h => nb h.symm) (fun h => by cases h))
theorem SamIn.ext {tg : Tag} {w : World} {o : Own} {ya yb : SLay} {A B : Stt} {bG : Nat} {h : ThV} {w0 : World} (k : SamIn tg w o ya yb A B bG h w0) (t : Tag) : SamIn tg w (Go.Proofs.YtemohiainfllcaaGreat.ext o w.heap.size t) ya yb A B bG h w0 :=
  ⟨k.a.retag fun _ hb => ext_lt hb, k.b.retag fun _ hb => ext_lt hb, k.g, by rw [ext_lt k.g.lt]; exact k.t, k.s.ext t _ k.s.size⟩
theorem SamIn.set {tg : Tag} {w U : World} {o : Own} {ya yb : SLay} {A B : Stt} {bG : Nat} {h h' : ThV} {w0 : World} (k : SamIn tg w o ya yb A B bG h w0) (na : ya.l.id ≠ 9) (nb : yb.l.id ≠ 9) (h9 : tg.1 = 9) (hw : Wr bG w U) (j : Blk U bG h'.cells 57) : SamIn tg U o ya yb A B bG h' w0 := by
  have hs : Stp (fun t => t = tg) o o w U := Stp.of_wr hw k.t
  exact ⟨k.a.stp hs (fun j h => na (by rw [← h9, ← h])), k.b.stp hs (fun j h => nb (by rw [← h9, ← h])), j, k.t, k.s.trans (hs.mono fun t h => .inr (.inr (by rw [h, h9])))⟩
/-- The first store went on. -/
theorem SamIn.left {tg : Tag} {w w' : World} {o o' : Own} {ya yb : SLay} {A A' B : Stt} {bG : Nat} {h : ThV} {w0 : World} (k : SamIn tg w o ya yb A B bG h w0) (hd : yb.l.id ≠ ya.l.id) (na : ya.l.id ≠ 9) (h9 : tg.1 = 9) (hA : StIn w' o' ya A') (hs : Stp (stTag ya) o o' w w') : SamIn tg w' o' ya yb A' B bG h w0 :=
  ⟨hA, k.b.stp hs (fun _ h => hd h), k.g.stp hs (by rw [k.t]; exact fun h => na (h.symm.trans h9)), (hs.tags _ k.g.lt).trans k.t, k.s.trans (hs.mono fun _ h => .inl h)⟩
theorem SamIn.right {tg : Tag} {w w' : World} {o o' : Own} {ya yb : SLay} {A B B' : Stt} {bG : Nat} {h : ThV} {w0 : World} (k : SamIn tg w o ya yb A B bG h w0) (hd : yb.l.id ≠ ya.l.id) (nb : yb.l.id ≠ 9) (h9 : tg.1 = 9) (hB : StIn w' o' yb B') (hs : Stp (stTag yb) o o' w w') : SamIn tg w' o' ya yb A B' bG h w0 :=
  ⟨k.a.stp hs (fun _ h => hd h.symm), hB, k.g.stp hs (by rw [k.t]; exact fun h => nb (h.symm.trans h9)), (hs.tags _ k.g.lt).trans k.t, k.s.trans (hs.mono fun _ h => .inr (.inl h))⟩
set_option maxRecDepth 100000 in
set_option maxHeartbeats 8000000 in
theorem threadSame_any (v : Value) (raw : List (List (List Pg.D))) (st : Int) (w : World) (h : ThreadsAt w v raw) (hI : TI raw) (hst : Z64 st) :
    Calls Tryz.prog 10 #[v, .int .i64 st] w fun e w' => e = .returned (.bool true) ∧ Below w.heap.size w w' := by
  have HAw := Lib.hid awake16_any
  have HPr := Lib.hid (fun (w' : World) (hb : Below w.heap.size w w') => programs_any v raw w' (h.below hb) hI)
  have HNa := Lib.hid (fun w' => c_new 400 1 20 20 99 (by omega) (by omega) (by omega) (by omega) (by omega) (by omega) (fun _ => (7, 0)) 0 w' (fun b _ => by simp))
  have HNb := Lib.hid (fun (o : Own) (id : Nat) (w' : World) (hf : ∀ b, b < w'.heap.size → (o b).1 ≠ id) => c_new 400 1 20 20 99 (by omega) (by omega) (by omega) (by omega) (by omega) (by omega) o id w' hf)
  have HPk := Lib.hid (fun w' => pick16_any st 31 w' (by omega) (by omega) hst)
  obtain ⟨n, hn, hn30⟩ : ∃ n : Nat, pkz st 31 = n ∧ n ≤ 30 := by
    have h1 := pkz_lo st 31 (by omega)
    have h2 := pkz_hi st 31 (by omega)
    exact ⟨(pkz st 31).toNat, by omega, by omega⟩
  rw [hn] at HPk
  have HTI := Lib.hid (fun (hI : Inv (Stt.fresh 400 1 20 20 (bnd 99).toNat)) (l : List (List DeedV)) (hp : Us.Prg l) (k : Nat) (hk : k ≤ 31) => ti_it (ti_fresh hI) (by omega) (by omega) hp k (by omega) (show k + 8 ≤ (bnd 99).toNat by unfold bnd; omega))
  have HTS := Lib.hid (fun (S : Stt) (h : ThV) (l : List (List DeedV)) (hp : Us.Prg l) (k : Nat) (hk : k ≤ 31) (t : Us.TI 20 20 (bnd 99).toNat k S 0 h) => t.tst (by omega) (by omega) (show k + 9 ≤ (bnd 99).toNat by unfold bnd; omega) (by omega) hp)
  generalize Stt.fresh 400 1 20 20 (bnd 99).toNat = S0 at *
  generalize (bnd 99).toNat = M at *
  clear h hI hst hn
  go_enter Tryz.func10, Tryz.ntmps10
  go_wp2_with fail
  refine (HAw.out _).mono ?_
  rintro e w1 ⟨rfl, hb1⟩
  go_wp2_with fail
  refine (HPr.out _ hb1).mono ?_
  rintro e w2 ⟨v2, oP, rfl, hF, hK⟩
  have hT := hF.at
  have hb2 := btrans hb1 hK.b
  obtain ⟨a, c, rfl, hlen, hop⟩ := hT.opened
  obtain ⟨pl1, pl4⟩ := progs_len raw
  obtain ⟨t0, ht0⟩ : ∃ t, (progs raw)[0]? = some t := ⟨(progs raw)[0], List.getElem?_eq_getElem (by omega)⟩
  obtain ⟨b0, off0, u0, rfl, q0, hB0⟩ := hop 0 t0 ht0
  have hmem := List.mem_of_getElem? ht0
  have hB := blks_of hB0 (progs_ge hmem)
  have hPrg := Lib.hid (prg_of hmem)
  rw [Nat.add_zero] at q0
  obtain ⟨l, hl⟩ : ∃ l, l = vs t0 := ⟨_, rfl⟩
  rw [← hl] at hB hPrg
  obtain ⟨a1, c1, rfl, hB'⟩ := id hB
  have HB := Lib.hid hB
  have HB2 := Lib.hid hb2
  have hlp : (0 : Int) < ((progs raw).length : Int) := by omega
  generalize (progs raw).length = np at *
  clear hF hK hT hop ht0 hB0 hmem hB hB' hl hb1 hb2 HAw HPr pl1 pl4 hlen
  go_wp2_with fail
  refine (HNa.out _).mono ?_
  rintro e w3 ⟨ya, rfl, hida, o3, hSa, hIa, hsa⟩
  obtain ⟨idb, hid20, hidb⟩ := fresh_id o3 w3.heap.size
  clear q0 HNa
  go_wp2_with fail
  refine (HNb.out o3 idb _ (fun b hb => by have := hidb b hb; omega)).mono ?_
  rintro e w4 ⟨yb, rfl, hidb', o4, hSb, hIb, hsb⟩
  have hd : yb.l.id ≠ ya.l.id := by omega
  have hSa4 := hSa.stp hsb (fun j h => hd h.symm)
  obtain ⟨iA, hiA, hsA, hyA, hzA⟩ := info_act
  have huA := Tryz.underlying69
  have h6 := heq6
  have nA7 : ya.l.id ≠ 7 := by omega
  have nB7 : yb.l.id ≠ 7 := by omega
  have nA9 : ya.l.id ≠ 9 := by omega
  have nB9 : yb.l.id ≠ 9 := by omega
  obtain ⟨V0, hV0⟩ : ∃ V, V = w4.alloc (.cells #[.int .i64 0, .int .i64 0, .int .i64 0, .int .i64 0, .int .i64 0, .int .i64 0, .int .i64 0, .int .i64 0, .int .i64 0, .int .i64 0, .int .i64 0, .int .i64 0, .int .i64 0, .int .i64 0, .bool false] 57) := ⟨_, rfl⟩
  have hI0 : SamIn (9, 1) V0 (ext o4 w4.heap.size (9, 1)) ya yb S0 S0 w4.heap.size Th0 w2 := by
    rw [hV0]
    exact ⟨(hSa4.retag fun _ hb => ext_lt hb).below (balloc (bsame _) _), (hSb.retag fun _ hb => ext_lt hb).below (balloc (bsame _) _), Blk.new _ _ _, ext_ge (Nat.le_refl _),
      (((hsa.mono fun _ h => .inl h).trans (hsb.mono fun _ h => .inr (.inl h))).ext (9, 1) _ (Nat.le_trans hsa.size hsb.size)).alloc _⟩
  generalize ext o4 w4.heap.size (9, 1) = o5 at hI0
  have HD := Lib.hid (And.intro hd (And.intro nA7 (And.intro nB7 (And.intro nA9 nB9))))
  clear hSa hsa hSb hIb hsb hSa4 hida hidb' hid20 hidb HNb hd nA7 nB7 nA9 nB9
  go_wp2_with fail
  rw [← hV0]
  obtain ⟨bG, hbG⟩ : ∃ b, b = w4.heap.size := ⟨_, rfl⟩
  rw [← hbG] at hI0 ⊢
  clear hV0 hbG
  refine (HPk.out _).mono ?_
  rintro e w' ⟨rfl, rfl⟩
  clear HPk
  go_wp2_with fail
  go_loopw [12, 14] (fun tv iv wr => ∃ (k : Nat) (o : Own), iv = .int .i64 k ∧ k ≤ n ∧ SamIn (9, 1) wr o ya yb (It S0 l k).S S0 bG (It S0 l k).h w2 ∧ Row wr o (9, 2) 60 3 tv k (acts (It S0 l) k)) (fun _ iv _ => n - (intOf iv).toNat)
  case atStart => exact ⟨0, o5, rfl, by omega, hI0, Row.nil _ _ _ _ _⟩
  case round =>
    clear hI0
    obtain ⟨k, o, rfl, hkn, hS, hR⟩ := hrel
    obtain ⟨wo, rfl⟩ : ∃ wo : World, wo = wr := ⟨_, rfl⟩
    obtain ⟨pt, ct, rfl⟩ := hR.slc
    by_cases hlt : k < n
    · have kI : (k : Int) < (n : Int) := by omega
      obtain ⟨hd, nA7, nB7, nA9, nB9⟩ := HD.out
      have tI := HTI.out hIa l hPrg.out k (by omega)
      have tT := HTS.out _ _ _ hPrg.out k (by omega) tI
      have hBw := HB.out.below (hS.old nA7 nB7)
      have hcall := tstep_any hS.a hBw (It S0 l k).h tT
      have hact : acts (It S0 l) (k + 1) = acts (It S0 l) k ++ (It S0 l (k + 1)).a.cells.toList := acts_succ _ _
      have eT : (It S0 l k).S.tstep 0 l (It S0 l k).h = It S0 l (k + 1) := rfl
      rw [eT] at hcall
      have HAct := Lib.hid hact
      obtain ⟨T', hT'⟩ : ∃ T, T = It S0 l (k + 1) := ⟨_, rfl⟩
      obtain ⟨T, hTT⟩ : ∃ T, T = It S0 l k := ⟨_, rfl⟩
      have HT' := Lib.hid hT'
      rw [← hT'] at hcall hact
      rw [← hTT] at hcall hS
      have hcall := Lib.hid (show Calls Tryz.prog 30 #[ptr ya.sb, .int .i64 0, (.slice a1 l.length c1), .agg #[.int .i64 T.h.b, .int .i64 T.h.n, .int .i64 T.h.r.a0, .int .i64 T.h.r.a1, .int .i64 T.h.r.a2, .int .i64 T.h.r.a3, .int .i64 T.h.r.a4, .int .i64 T.h.r.a5, .int .i64 T.h.s.a0, .int .i64 T.h.s.a1, .int .i64 T.h.s.a2, .int .i64 T.h.s.a3, .int .i64 T.h.s.a4, .int .i64 T.h.s.a5, .bool T.h.l]] wo fun e w' => e = .returned (.tuple #[.agg #[.int .i64 T'.h.b, .int .i64 T'.h.n, .int .i64 T'.h.r.a0, .int .i64 T'.h.r.a1, .int .i64 T'.h.r.a2, .int .i64 T'.h.r.a3, .int .i64 T'.h.r.a4, .int .i64 T'.h.r.a5, .int .i64 T'.h.s.a0, .int .i64 T'.h.s.a1, .int .i64 T'.h.s.a2, .int .i64 T'.h.s.a3, .int .i64 T'.h.s.a4, .int .i64 T'.h.s.a5, .bool T'.h.l], .agg #[.int .i64 T'.a.k, .int .i64 T'.a.e, .int .i64 T'.a.v]]) ∧ Left ya T'.S o wo w' from hcall)
      have HS := Lib.hid hS
      have HR := Lib.hid hR
      clear tI tT hact eT hT' hTT hd nA7 nB7 nA9 nB9 hBw hR
      go_upto_region 13 with fail
      refine sam13_any _ T.h T'.h T'.a.k T'.a.e T'.a.v (Left ya T'.S o wo) wo ya.sb bG _ _ _ _ _ _ _ _ _ _ _ _ _ _ _ _ _ _ _ _ _ _ _ _ _ _ _ _ _ _ _ _ _ _ _ _ _ _ _ _ _ _ _ _ _ _ _ _ _ _ _ _ _ _ _ _ _ _ _ _ _ _ _ _ _ _ _ _ _ _ _ _ _ _ _ _ _ _ _ _ _ _ _ _ _ _ _ _ _ _ _ _ _ _ _ _ _ hS.g hcall.out ?_
      rintro w5 ⟨o6, hS5, hI5, hs5⟩
      obtain ⟨hd, nA7, nB7, nA9, nB9⟩ := HD.out
      have hR5 := HR.out.stp hs5 (fun h => nA9 h.symm)
      have hS6 := (HS.out.left hd nA9 rfl hS5 hs5).ext (9, 3)
      have hR6 := hR5.retag (o' := ext o6 w5.heap.size (9, 3)) (fun _ hb => ext_lt hb)
      have hpn : ext o6 w5.heap.size (9, 3) (w5.heap.size + 1) = (9, 3) := ext_ge (by omega)
      generalize ext o6 w5.heap.size (9, 3) = p at hS6 hR6 hpn
      obtain ⟨V1, hV1⟩ : ∃ V, V = (w5.alloc (.cells #[.int .i64 T'.h.b, .int .i64 T'.h.n, .int .i64 T'.h.r.a0, .int .i64 T'.h.r.a1, .int .i64 T'.h.r.a2, .int .i64 T'.h.r.a3, .int .i64 T'.h.r.a4, .int .i64 T'.h.r.a5, .int .i64 T'.h.s.a0, .int .i64 T'.h.s.a1, .int .i64 T'.h.s.a2, .int .i64 T'.h.s.a3, .int .i64 T'.h.s.a4, .int .i64 T'.h.s.a5, .bool T'.h.l] 57)).alloc (.cells #[.int .i64 T'.a.k, .int .i64 T'.a.e, .int .i64 T'.a.v] 60) := ⟨_, rfl⟩
      have bV1 : Below w5.heap.size w5 V1 := by rw [hV1]; exact balloc (balloc (bsame _) _) _
      have jX : Blk V1 w5.heap.size #[.int .i64 T'.h.b, .int .i64 T'.h.n, .int .i64 T'.h.r.a0, .int .i64 T'.h.r.a1, .int .i64 T'.h.r.a2, .int .i64 T'.h.r.a3, .int .i64 T'.h.r.a4, .int .i64 T'.h.r.a5, .int .i64 T'.h.s.a0, .int .i64 T'.h.s.a1, .int .i64 T'.h.s.a2, .int .i64 T'.h.s.a3, .int .i64 T'.h.s.a4, .int .i64 T'.h.s.a5, .bool T'.h.l] 57 := by rw [hV1]; exact (Blk.new _ _ _).alloc _
      have jC : Blk V1 (w5.heap.size + 1) #[.int .i64 T'.a.k, .int .i64 T'.a.e, .int .i64 T'.a.v] 60 := by rw [hV1]; exact Blk.new_at _ _ _ _ _ (by simp) rfl
      have hS7 := hS6.below bV1
      have hR7 := hR6.below bV1
      have neC : w5.heap.size + 1 ≠ bG := by have := hS6.g.lt; omega
      rw [← hV1]
      obtain ⟨bC, hbC⟩ : ∃ b, b = w5.heap.size + 1 := ⟨_, rfl⟩
      rw [← hbC] at jC neC hpn ⊢
      clear hS5 hI5 hs5 hR5 hS6 hR6 bV1 hV1 hbC hcall hS
      go_upto_region 14 with fail
      refine sam14_any _ T.h T'.h V1 w5.heap.size bG _ _ _ _ _ _ _ _ _ _ _ _ _ _ _ _ _ _ _ _ _ _ _ _ _ _ _ _ _ _ _ _ _ _ _ _ _ _ _ _ _ _ _ _ _ _ _ _ _ _ _ _ _ _ _ _ _ _ _ _ _ _ _ _ _ _ _ _ _ _ _ _ _ _ _ _ _ _ _ _ _ _ _ _ _ _ _ _ _ _ _ _ _ _ _ _ _ jX hS7.g ?_
      intro U hw hUs jG
      have hS8 := hS7.set nA9 nB9 rfl hw jG
      have jC8 := jC.wr hw neC
      have hR8 := hR7.stp (Stp.of_wr (T := fun t => t = (9, 1)) hw hS7.t) (by simp)
      have HS8 := Lib.hid hS8
      have rn := hR8.below (balloc (bsame U) (.cells #[.int .i64 T'.a.k, .int .i64 T'.a.e, .int .i64 T'.a.v] 60))
      have jn := Blk.new U #[.int .i64 T'.a.k, .int .i64 T'.a.e, .int .i64 T'.a.v] 60
      have hml : k + 1 ≤ maxLen := by simp only [maxLen]; omega
      have hmb : (k + 1) * 24 ≤ 140737488355328 := by omega
      have cC := jC8.cell
      clear hS7 hS8 hR7 hR8 hw hUs jG jX jC jC8 hpn neC HS HR hd nA7 nB7 nA9 nB9
      go_wp2_with (first
        | (at_builtin; refine wpList_append_row _ rfl _ _ _ rfl 60 iA _ 3 24 huA hiA hzA hsA hyA rfl (by decide) p (9, 2) _ _ _ rfl rn ⟨U.heap.size, 0, none⟩ 1 1 [.int .i64 T'.a.k, .int .i64 T'.a.e, .int .i64 T'.a.v] rfl rfl (news_blk jn) act_one hml hmb ?_; intro v' w6 hown hst; obtain ⟨pa', cp', rfl⟩ := hown.slc)
        | fail)
      have hfin : SamIn (9, 1) w6 _ ya yb T'.S S0 bG T'.h w2 := (HS8.out.below (balloc (bsame U) (.cells #[.int .i64 T'.a.k, .int .i64 T'.a.e, .int .i64 T'.a.v] 60))).stp hst (fun t h => .inr (.inr (by rw [h]))) (fun j h => HD.out.2.2.2.1 (by injection h)) (fun j h => HD.out.2.2.2.2 (by injection h)) (by simp)
      have e9 : acts (It S0 l) k ++ [.int .i64 T'.a.k, .int .i64 T'.a.e, .int .i64 T'.a.v] = acts (It S0 l) (k + 1) := by rw [HAct.out, ← HT'.out]; rfl
      rw [e9] at hown
      rw [HT'.out] at hfin hown
      go_roundw
      case rel =>
        (repeat apply Exists.intro)
        refine ⟨⟨k + 1, _, ?_, by omega, hfin, hown⟩, rfl⟩
        simp
      case measure => simp [intOf]; omega
    · obtain rfl : k = n := by omega
      obtain ⟨hd, nA7, nB7, nA9, nB9⟩ := HD.out
      have nlt : ¬ ((k : Int) < (k : Int)) := by omega
      obtain ⟨V2, hV2⟩ : ∃ V, V = wo.alloc (.cells #[.int .i64 0, .int .i64 0, .int .i64 0, .int .i64 0, .int .i64 0, .int .i64 0, .int .i64 0, .int .i64 0, .int .i64 0, .int .i64 0, .int .i64 0, .int .i64 0, .int .i64 0, .int .i64 0, .bool false] 57) := ⟨_, rfl⟩
      have bV2 : Below wo.heap.size wo V2 := by rw [hV2]; exact balloc (bsame _) _
      have jG2 := hS.g.below bV2 hS.g.lt
      have tG : ext o wo.heap.size (9, 3) bG = (9, 1) := by rw [ext_lt hS.g.lt]; exact hS.t
      have hS2 : SamIn (9, 3) V2 (ext o wo.heap.size (9, 3)) ya yb (It S0 l k).S S0 wo.heap.size Th0 w2 := by
        have h := (hS.ext (9, 3)).below bV2
        exact ⟨h.a, h.b, by rw [hV2]; exact Blk.new _ _ _, ext_ge (Nat.le_refl _), h.s⟩
      have hR2 := (hR.retag (o' := ext o wo.heap.size (9, 3)) (fun _ hb => ext_lt hb)).below bV2
      have nGH : bG ≠ wo.heap.size := by have := hS.g.lt; omega
      generalize ext o wo.heap.size (9, 3) = p at hS2 hR2 tG
      have hIS := Lib.hid (HTI.out hIa l hPrg.out k (by omega)).inv.ok
      clear hS hR hd nA7 nB7 nA9 nB9 bV2 hlt
      go_wp2_with fail
      rw [← hV2]
      obtain ⟨bH, hbH⟩ : ∃ b, b = wo.heap.size := ⟨_, rfl⟩
      rw [← hbH] at hS2 nGH ⊢
      clear hV2 hbH nlt
      obtain ⟨TN, hTN⟩ : ∃ T, T = It S0 l k := ⟨_, rfl⟩
      have HTN := Lib.hid hTN
      rw [← hTN] at jG2 hS2
      clear hTN
      go_loopw [18] (fun iv wr => ∃ (j : Nat) (o : Own), iv = .int .i64 j ∧ j ≤ k ∧ SamIn (9, 3) wr o ya yb TN.S (It S0 l j).S bH (It S0 l j).h w2 ∧ Blk wr bG TN.h.cells 57 ∧ o bG = (9, 1) ∧ Row wr o (9, 2) 60 3 (.slice pt k ct) k (acts (It S0 l) k)) (fun iv _ => k - (intOf iv).toNat)
      case atStart => exact ⟨0, p, rfl, by omega, hS2, jG2, tG, hR2⟩
      case round =>
        clear hS2 jG2 tG hR2
        obtain ⟨j, o, rfl, hjk, hS, kG, tG, hR⟩ := hrel
        obtain ⟨wo, rfl⟩ : ∃ wo : World, wo = wr := ⟨_, rfl⟩
        by_cases hlt : j < k
        · have kI : (j : Int) < (k : Int) := by omega
          have kI0 : (0 : Int) ≤ (j : Int) := by omega
          obtain ⟨hd, nA7, nB7, nA9, nB9⟩ := HD.out
          have tI := HTI.out hIa l hPrg.out j (by omega)
          have tT := HTS.out _ _ _ hPrg.out j (by omega) tI
          have hBw := HB.out.below (hS.old nA7 nB7)
          have hcall := tstep_any hS.b hBw (It S0 l j).h tT
          have hget := Lib.hid (fun r hr => acts_get (It S0 l) k j hlt r hr)
          have eT : (It S0 l j).S.tstep 0 l (It S0 l j).h = It S0 l (j + 1) := rfl
          rw [eT] at hcall
          obtain ⟨T', hT'⟩ : ∃ T, T = It S0 l (j + 1) := ⟨_, rfl⟩
          obtain ⟨T, hTT⟩ : ∃ T, T = It S0 l j := ⟨_, rfl⟩
          have HT' := Lib.hid hT'
          rw [← hT'] at hcall hget
          rw [← hTT] at hcall hS
          have hcall := Lib.hid (show Calls Tryz.prog 30 #[ptr yb.sb, .int .i64 0, (.slice a1 l.length c1), .agg #[.int .i64 T.h.b, .int .i64 T.h.n, .int .i64 T.h.r.a0, .int .i64 T.h.r.a1, .int .i64 T.h.r.a2, .int .i64 T.h.r.a3, .int .i64 T.h.r.a4, .int .i64 T.h.r.a5, .int .i64 T.h.s.a0, .int .i64 T.h.s.a1, .int .i64 T.h.s.a2, .int .i64 T.h.s.a3, .int .i64 T.h.s.a4, .int .i64 T.h.s.a5, .bool T.h.l]] wo fun e w' => e = .returned (.tuple #[.agg #[.int .i64 T'.h.b, .int .i64 T'.h.n, .int .i64 T'.h.r.a0, .int .i64 T'.h.r.a1, .int .i64 T'.h.r.a2, .int .i64 T'.h.r.a3, .int .i64 T'.h.r.a4, .int .i64 T'.h.r.a5, .int .i64 T'.h.s.a0, .int .i64 T'.h.s.a1, .int .i64 T'.h.s.a2, .int .i64 T'.h.s.a3, .int .i64 T'.h.s.a4, .int .i64 T'.h.s.a5, .bool T'.h.l], .agg #[.int .i64 T'.a.k, .int .i64 T'.a.e, .int .i64 T'.a.v]]) ∧ Left yb T'.S o wo w' from hcall)
          have HS := Lib.hid hS
          have HR := Lib.hid hR
          have HG := Lib.hid (And.intro kG tG)
          clear tI tT eT hT' hTT hd nA7 nB7 nA9 nB9 hBw hR kG tG
          go_upto_region 20 with fail
          refine sam20_any _ T.h T'.h T'.a.k T'.a.e T'.a.v (Left yb T'.S o wo) wo yb.sb bH _ _ _ _ _ _ _ _ _ _ _ _ _ _ _ _ _ _ _ _ _ _ _ _ _ _ _ _ _ _ _ _ _ _ _ _ _ _ _ _ _ _ _ _ _ _ _ _ _ _ _ _ _ _ _ _ _ _ _ _ _ _ _ _ _ _ _ _ _ _ _ _ _ _ _ _ _ _ _ _ _ _ _ _ _ _ _ _ _ _ _ _ _ _ _ _ _ hS.g hcall.out ?_
          rintro w5 ⟨o6, hS5, hI5, hs5⟩
          obtain ⟨hd, nA7, nB7, nA9, nB9⟩ := HD.out
          have hR5 := HR.out.stp hs5 (fun h => nB9 h.symm)
          have kG5 := HG.out.1.stp hs5 (by rw [HG.out.2]; exact fun h => nB9 h.symm)
          have tG5 := (hs5.tags _ HG.out.1.lt).trans HG.out.2
          have hS6 := (HS.out.right hd nB9 rfl hS5 hs5).ext (9, 5)
          have hR6 := hR5.retag (o' := ext o6 w5.heap.size (9, 5)) (fun _ hb => ext_lt hb)
          have tG6 : ext o6 w5.heap.size (9, 5) bG = (9, 1) := by rw [ext_lt kG5.lt]; exact tG5
          generalize ext o6 w5.heap.size (9, 5) = p at hS6 hR6 tG6
          obtain ⟨V1, hV1⟩ : ∃ V, V = (w5.alloc (.cells #[.int .i64 T'.h.b, .int .i64 T'.h.n, .int .i64 T'.h.r.a0, .int .i64 T'.h.r.a1, .int .i64 T'.h.r.a2, .int .i64 T'.h.r.a3, .int .i64 T'.h.r.a4, .int .i64 T'.h.r.a5, .int .i64 T'.h.s.a0, .int .i64 T'.h.s.a1, .int .i64 T'.h.s.a2, .int .i64 T'.h.s.a3, .int .i64 T'.h.s.a4, .int .i64 T'.h.s.a5, .bool T'.h.l] 57)).alloc (.cells #[.int .i64 T'.a.k, .int .i64 T'.a.e, .int .i64 T'.a.v] 60) := ⟨_, rfl⟩
          have bV1 : Below w5.heap.size w5 V1 := by rw [hV1]; exact balloc (balloc (bsame _) _) _
          have jX : Blk V1 w5.heap.size #[.int .i64 T'.h.b, .int .i64 T'.h.n, .int .i64 T'.h.r.a0, .int .i64 T'.h.r.a1, .int .i64 T'.h.r.a2, .int .i64 T'.h.r.a3, .int .i64 T'.h.r.a4, .int .i64 T'.h.r.a5, .int .i64 T'.h.s.a0, .int .i64 T'.h.s.a1, .int .i64 T'.h.s.a2, .int .i64 T'.h.s.a3, .int .i64 T'.h.s.a4, .int .i64 T'.h.s.a5, .bool T'.h.l] 57 := by rw [hV1]; exact (Blk.new _ _ _).alloc _
          have jC : Blk V1 (w5.heap.size + 1) #[.int .i64 T'.a.k, .int .i64 T'.a.e, .int .i64 T'.a.v] 60 := by rw [hV1]; exact Blk.new_at _ _ _ _ _ (by simp) rfl
          have hS7 := hS6.below bV1
          have hR7 := hR6.below bV1
          have kG7 := kG5.below bV1 kG5.lt
          have neC : w5.heap.size + 1 ≠ bH := by have := hS6.g.lt; omega
          rw [← hV1]
          obtain ⟨bC, hbC⟩ : ∃ b, b = w5.heap.size + 1 := ⟨_, rfl⟩
          rw [← hbC] at jC neC ⊢
          clear hS5 hI5 hs5 hR5 hS6 hR6 bV1 hV1 hbC hcall hS kG5 tG5
          go_upto_region 21 with fail
          refine sam21_any _ T.h T'.h V1 w5.heap.size bH _ _ _ _ _ _ _ _ _ _ _ _ _ _ _ _ _ _ _ _ _ _ _ _ _ _ _ _ _ _ _ _ _ _ _ _ _ _ _ _ _ _ _ _ _ _ _ _ _ _ _ _ _ _ _ _ _ _ _ _ _ _ _ _ _ _ _ _ _ _ _ _ _ _ _ _ _ _ _ _ _ _ _ _ _ _ _ _ _ _ _ _ _ _ _ _ _ jX hS7.g ?_
          intro U hw hUs jG
          have hS8 := hS7.set nA9 nB9 rfl hw jG
          have jC8 := jC.wr hw neC
          have kG8 := kG7.wr hw nGH
          have hR8 := hR7.stp (Stp.of_wr (T := fun t => t = (9, 3)) hw hS7.t) (by simp)
          obtain ⟨g0, cp0, hv0, _⟩ : ∃ g cap, (Value.slice pt k ct) = .slice (some ⟨g, 0, none⟩) k cap ∧ k ≤ cap := by
            rcases hR8.own.2 with ⟨_, h0⟩ | ⟨g, cap, cur, e, _, _, h1, _⟩
            · omega
            · exact ⟨g, cap, e, h1⟩
          injection hv0 with e1 _ e2
          subst e1 e2
          have hc0 : ∀ r, r < 3 → U.cell? ⟨g0, j * 3 + r, none⟩ = (T'.a.cells)[r]? := fun r hr => by
            have hx := hget.out r hr
            obtain ⟨x, hx'⟩ : ∃ x, (T'.a.cells)[r]? = some x := ⟨_, Array.getElem?_eq_getElem (by show r < 3; exact hr)⟩
            rw [hx'] at hx ⊢
            have := hR8.own.cells (g := g0) rfl (j * 3 + r) x hx
            rwa [show (⟨g0, 0, none⟩ : Addr).add (j * 3 + r) = ⟨g0, j * 3 + r, none⟩ from by unfold Addr.add; split <;> simp_all] at this
          have d0 : U.cell? ⟨g0, j * 3, none⟩ = some (.int .i64 T'.a.k) := hc0 0 (by omega)
          have d1 : U.cell? ⟨g0, j * 3 + 1, none⟩ = some (.int .i64 T'.a.e) := hc0 1 (by omega)
          have d2 : U.cell? ⟨g0, j * 3 + 2, none⟩ = some (.int .i64 T'.a.v) := hc0 2 (by omega)
          have HS8 := Lib.hid (And.intro hS8 (And.intro kG8 (And.intro tG6 hR8)))
          have cC := jC8.cell
          clear hS7 hS8 hR7 hR8 hw hUs jG jX jC jC8 neC HS HR hd nA7 nB7 nA9 nB9 hc0 hget kG7 kG8 tG6 HG
          go_upto_region 22 with fail
          go_quiet (fail)
          go_wp2_with fail
          rw [HT'.out] at HS8
          go_roundw
          case rel =>
            have g1 := HS8.out.1.below (bdrewN (bsame U) nq)
            have g4 := HS8.out.2.2.2.below (bdrewN (bsame U) nq)
            exact ⟨j + 1, by omega, by omega, p, g1, HS8.out.2.1, HS8.out.2.2.1, g4⟩
          case measure => simp [intOf]; omega
        · obtain rfl : j = k := by omega
          obtain ⟨hd, nA7, nB7, nA9, nB9⟩ := HD.out
          have nlt : ¬ ((j : Int) < (j : Int)) := by omega
          rw [← HTN.out] at hS
          have hbw := Lib.hid (btrans HB2.out (hS.old nA7 nB7))
          have HRa := Lib.hid (fun (w' : World) (hb : Below wo.heap.size wo w') => sroom_in (hS.a.below hb) (by rw [HTN.out]; exact hIS.out))
          have HRb := Lib.hid (fun (w' : World) (hb : Below wo.heap.size wo w') => sroom_in (hS.b.below hb) (by rw [HTN.out]; exact hIS.out))
          have HNa := Lib.hid (fun (w' : World) (hb : Below wo.heap.size wo w') => now_in (hS.a.below hb))
          have HNb := Lib.hid (fun (w' : World) (hb : Below wo.heap.size wo w') => now_in (hS.b.below hb))
          have kH := hS.g
          have cG := kG.cell
          have cH := kH.cell
          have h6' := h6
          generalize ((1 + TN.S.H.size - TN.S.H.top : Nat) : Int) = rm at HRa HRb
          generalize (TN.S.now : Int) = nw at HNa HNb
          obtain ⟨hb, hn, ⟨a0, a1', a2, a3, a4, a5⟩, ⟨s0, s1, s2, s3, s4, s5⟩, hl⟩ := TN.h
          unfold ThV.cells at cG cH
          clear hS kG kH hR hd nA7 nB7 nA9 nB9 hlt tG
          go_wp2_with fail
          refine (HRa.out _ (bsame wo)).mono ?_
          rintro e w6 ⟨rfl, hb6⟩
          have hb6' := Lib.hid hb6
          clear hb6
          go_wp2_with fail
          refine (HRb.out _ hb6'.out).mono ?_
          rintro e w7 ⟨rfl, hb7⟩
          have hb7' := Lib.hid (btrans hb6'.out hb7)
          clear hb7
          go_wp2_with fail
          refine (HNa.out _ hb7'.out).mono ?_
          rintro e w8 ⟨rfl, rfl⟩
          go_wp2_with fail
          refine (HNb.out _ hb7'.out).mono ?_
          rintro e w8 ⟨rfl, rfl⟩
          go_wp2_with fail
          go_ret
          exact ⟨rfl, btrans hbw.out hb7'.out⟩
end Go.Proofs.YtemohiainfllcaaGreat
