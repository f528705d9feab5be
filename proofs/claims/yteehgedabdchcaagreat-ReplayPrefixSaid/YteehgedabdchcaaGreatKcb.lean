import Derived.Test.YteehgedabdchcaaGreatKas
import Derived.Below
import Derived.Carry
import Derived.ChangeArms
import Derived.ChangeSlices
import Derived.Deep.DeepHandedRow
import Derived.Laws.IdiomCopy
import Derived.Laws.MakeOwn
import Derived.OpenShut
import Derived.ProofKit
set_option linter.all false
set_option maxRecDepth 1000000
set_option maxHeartbeats 0
namespace Go.Proofs.YteehgedabdchcaaGreat
open Go.RowKit Hp
attribute [local go_sem ↓] Go.wp_at_zero Go.wp_at_succ
structure D3 (w:World)(x:AK)(va vt:Value):Prop where
 a:∃ o t,Row w o t 54 3 va x.AX.length (acl x.AX)
 i:∃ o t,Row w o t 3 1 vt x.Cu.length (x.Cu.map nv)
