import Derived.Test.YteehgedabdchcaaGreatQak
import Derived.ChangeSame
import Derived.Conc.MuData
import Derived.Conc.MuLib
import Derived.Conc.MuLone
import Derived.Deep.Fields
import Derived.Deep.Slices
import Derived.Defers
import Derived.KernelRfl
import Derived.Laws.CopyRow
import Derived.Laws.IdiomCopy
import Derived.Laws.MakeOwn
import Derived.Lib.AtoiAll
import Derived.Lib.ItoaNum
import Derived.Lib.Split
import Derived.Shelf.Spec.SlicesGrow
import Derived.Sort.CutIn
import Derived.Stop.RegionWithIn
set_option linter.all false
set_option maxRecDepth 1000000
set_option maxHeartbeats 16000000
namespace Go.Proofs.YteehgedabdchcaaGreat
open Go.RowKit Hp
attribute [local go_sem ↓] Go.wp_at_zero Go.wp_at_succ
def pk (c:Int)(n:Nat):Nat:=(if c<0 then (-(c+1)).toNat else c.toNat)%n
theorem pk_lt (c:Int){n:Nat}(h:1≤n):pk c n<n:=Nat.mod_lt _ h
section
open Go.MuLone in
end
end Go.Proofs.YteehgedabdchcaaGreat
