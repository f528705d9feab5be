import Derived.Test.YteehgedabdchcaaGreatKac
import Derived.Test.YteehgedabdchcaaGreatKaf
import Derived.Conc.MuData
import Derived.Conc.MuLib
import Derived.Conc.MuLone
import Derived.Deep.RegionLaw
import Derived.Defers
import Derived.KernelRfl
import Derived.Laws.CopyOwn
import Derived.Laws.CopyRow
import Derived.Laws.IdiomCopy
import Derived.Laws.MakeOwn
import Derived.Laws.OwnMore
import Derived.Shelf.Spec.SlicesGrow
import Derived.Sort.CutIn
import Derived.StillTailTactics
import Derived.Stop.RegionWithIn
set_option linter.all false
set_option maxRecDepth 1000000
set_option maxHeartbeats 0
namespace Go.Proofs.YteehgedabdchcaaGreat
open Go.RowKit Hp
attribute [local go_sem ↓] Go.wp_at_zero Go.wp_at_succ
section
variable {w w' : World}
def Mi (n r u b:Int){v:Value}{A1:List (List (List Pg.D))}(hv:BC w v A1)(hc:∃ t k j,check A1=(150,t,k,j)) :
  Calls Tryz.prog 29 #[.int .i64 n,.int .i64 r,.int .i64 u,.int .i64 b,v] w fun e w'=>e=.returned (.tuple #[.pointer none,.int .i64 150])/\Below w.1.size w w':=by
 obtain⟨t,k,j,hc⟩:=hc;have hck:=Wj v A1 w hv;unfold yw at hck;rw[hc]at hck;have HCk:=Qa (show Calls Tryz.prog 86 #[v] w fun e w'=>e=.returned (.tuple #[.int .i64 150,.agg #[.int .i64 t,.int .i64 k,.int .i64 j]])/\Below w.1.size w w' from hck)
 clear hck hc hv;go_enter Tryz.func29,Tryz.ntmps29;go_wp2_with (first
  | (go_at_call 86;refine HCk.o.mono ?_;rintro e w1⟨rfl,hb1⟩)
  | fail)
 go_ret2;exact⟨rfl,qa hb1 _⟩
def JB (n r u b:Int)(w:World) :
  Calls Tryz.prog 29 #[.int .i64 n,.int .i64 r,.int .i64 u,.int .i64 b,.slice none 0 0] w fun e w'=>e=.returned (.tuple #[.pointer none,.int .i64 150])/\Below w.1.size w w':=
 Mi n r u b (A1:=[]) ⟨by simp,[],rfl,⟨none,0,rfl,.inl rfl⟩,fun j l hj=>by simp at hj⟩ ⟨0,0,0,rfl⟩
