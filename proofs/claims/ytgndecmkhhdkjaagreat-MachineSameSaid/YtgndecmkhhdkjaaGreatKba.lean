import Derived.Test.YtgndecmkhhdkjaaGreatKac
import Derived.Test.YtgndecmkhhdkjaaGreatKaf
import Derived.Conc.MuData
import Derived.Conc.MuLib
import Derived.Conc.MuLone
import Derived.Deep.RegionLaw
import Derived.Defers
import Derived.KernelRfl
import Derived.Laws.CopyOwn
import Derived.Laws.CopyRow
import Derived.Laws.IdiomCopy
import Derived.Laws.MakeOwn
import Derived.Laws.OwnMore
import Derived.Shelf.Spec.SlicesGrow
import Derived.Sort.CutIn
import Derived.StillTailTactics
import Derived.Stop.RegionWithIn
set_option linter.all false
set_option maxRecDepth 1000000
set_option maxHeartbeats 0
namespace Go.Proofs.YtgndecmkhhdkjaaGreat
open Go.RowKit Hp
attribute [local go_sem ↓] Go.wp_at_zero Go.wp_at_succ
section
variable {w w' : World}
def Mw (n r u b:Int){v:Value}{AZ:List (List (List Pg.D))}(hv:BL w v AZ)(hc:∃ t k j,check AZ=(150,t,k,j)) :
  Calls Tryz.prog 7 #[.int .i64 n,.int .i64 r,.int .i64 u,.int .i64 b,v] w fun e w'=>e=.returned (.tuple #[.pointer none,.int .i64 150])/\Below w w w':=by
 obtain⟨t,k,j,hc⟩:=hc;have hck:=XD v AZ w hv;unfold uc at hck;rw[hc]at hck;have HCk:=Qa (show Calls Tryz.prog 19 #[v] w fun e w'=>e=.returned (.tuple #[.int .i64 150,.agg #[.int .i64 t,.int .i64 k,.int .i64 j]])/\Below w w w' from hck)
 clear hck hc hv;go_enter Tryz.func7,Tryz.ntmps7;go_wp2_with (first
  | (go_at_call 19;refine HCk.o.mono ?_;rintro e w1⟨rfl,hb1⟩)
  | fail)
 go_ret2;exact⟨rfl,qc hb1 _⟩
def JL (n r u b:Int)(w:World) :
  Calls Tryz.prog 7 #[.int .i64 n,.int .i64 r,.int .i64 u,.int .i64 b,.slice none 0 0] w fun e w'=>e=.returned (.tuple #[.pointer none,.int .i64 150])/\Below w w w':=
 Mw n r u b (AZ:=[]) ⟨by simp,[],rfl,⟨none,0,rfl,.inl rfl⟩,fun j l hj=>by simp at hj⟩ ⟨0,0,0,rfl⟩
