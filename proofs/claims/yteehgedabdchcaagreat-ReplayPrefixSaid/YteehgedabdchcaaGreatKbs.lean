import Derived.Test.YteehgedabdchcaaGreatKbm
set_option linter.all false
set_option maxRecDepth 1000000
set_option maxHeartbeats 0
namespace Go.Proofs.YteehgedabdchcaaGreat
open Go.RowKit Hp
attribute [local go_sem ↓] Go.wp_at_zero Go.wp_at_succ
def Pm (c:Int){n:Nat}(h:1<=n):pk c n<n:=Nat.mod_lt _ h
section
variable {w w' : World} {o o' : Own} {m : Ck} {M : Mc}
