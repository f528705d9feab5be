import Derived.Test.YteehgedabdchcaaGreatKaq
import Derived.Maps.OwnSet
import Derived.Maps.Views
set_option linter.all false
set_option maxRecDepth 1000000
set_option maxHeartbeats 0
namespace Go.Proofs.YteehgedabdchcaaGreat
open Go.RowKit Hp Go.Maps
attribute [local go_sem ↓] Go.wp_at_zero Go.wp_at_succ
def bk:Keyed Tryz.prog 3:=int_keyed Tryz.underlying3
def U0 (w:World):(zeroValue 3).run Tryz.prog w=.ok (.int .i64 0) w:=by kernel_rfl
