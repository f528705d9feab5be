import Derived.Test.YteehgedabdchcaaGreatKas
set_option linter.all false
set_option maxRecDepth 1000000
set_option maxHeartbeats 0
namespace Go.Proofs.YteehgedabdchcaaGreat
open Go.RowKit Hp
def FV {l:List A0} {k:Nat} {a:A0} (h:l[k]?=some a) (j:Nat) (hj:j<3):(acl l)[k*3+j]?=a.cells.toList[j]?:=by
 have h':(l.map fun a=>a.cells.toList)[k]?=some a.cells.toList:=by rw[Qj,h];rfl
 exact SN (n:=3) _ (dw (f:=fun a:A0=>a.cells.toList) (n:=3) (fun _=>rfl) l) k _ h' j hj
