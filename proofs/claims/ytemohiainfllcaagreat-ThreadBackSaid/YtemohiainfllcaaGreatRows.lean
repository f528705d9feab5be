/-
  No cell of these rows narrows 'for every input' (looked for: loops, veiled, ifaces, maps, wideKeys, modest, calm, conditions, laid).
  DERIVED. THE GIVEN ROWS OF THIS SEAT. 9 by the template 'for every input the law returns true; each argument reads behind the call as it read before'; 0 by the template 'total and deterministic' (their statements: YtemohiainfllcaaGreatTotals.lean).
  GIVEN WITH THE SEED: the statements are not yours to turn. If you find one false, say at which input.
  Laid BY PROGRAM, IN A SANDBOX (cutbox-rows.mjs): the forced cells as the released guide's own fill.sh prints them over the translation 5ac930def7819359… (all of the seat's roots in one cut). By AI agents, Wed Nov 11 2026. No macro, syntax, notation, axiom, sorry.
-/
import Derived.Test.YtemohiainfllcaaGreatChecked
import GoSem.Claim
import GoSem.ClaimJoined
import GoSem.ClaimMapViews
import Derived.JoinedTies
import Derived.KernelRfl
namespace Go.Proofs.YtemohiainfllcaaGreat
/- THE CELL 'sum', in the pinned program and in every row, IS THE sha256 OF THE DUMP (.gsa) THAT YtemohiainfllcaaGreatProg.lean LOADS. Nothing in Lean hashes anything: it is a label: what it is worth is what the hold of that sum in a sandbox is worth. -/
noncomputable def Tryz.pinned : Pinned := { name := "ytemohiainfllcaagreat", sum := "5ac930def7819359f2873346b2cf954b9bbc4d74042d9e349203954bf8eb6366", checked := Tryz.checked }
namespace Rows
def none {H : Type} : Left H := { results := [], args := [] }

/-- 'middenheaplaw14.TxnHolds': WHATEVER THE INPUT: true; the input reads as it did. -/
def txnHoldsSpec : ChangeSpec := { name := "txnHolds", fn := fun _ => fun
  | [d1, d2, d3, d4] => { results := [.lit (.bool true)], args := [d1, d2, d3, d4] }
  | _ => none }
def txnHoldsRow : OpenClaim := { program := "ytemohiainfllcaagreat", sum := "5ac930def7819359f2873346b2cf954b9bbc4d74042d9e349203954bf8eb6366", func := "middenheap/middenheaplaw14.TxnHolds", spec := "txnHolds", inPlace := ["sync/atomic.LoadInt64", "sync/atomic.CompareAndSwapInt64"], unfollowed := true, recurses := true, apart := false }
def TxnHoldsSaid : Prop := txnHoldsRow.holds Tryz.pinned (OpenSpec.ofChange txnHoldsSpec)

/-- ITS FALSE NEIGHBOUR: 'it returns false'. Refute it at one input. -/
def txnHoldsWrong : ChangeSpec := { name := "txnHolds", fn := fun _ => fun
  | [d1, d2, d3, d4] => { results := [.lit (.bool false)], args := [d1, d2, d3, d4] }
  | _ => none }
def TxnHoldsWrongFalsely : Prop := txnHoldsRow.holds Tryz.pinned (OpenSpec.ofChange txnHoldsWrong)

/-- 'middenheaplaw14.TxnReaders': WHATEVER THE INPUT: true; the input reads as it did. -/
def txnReadersSpec : ChangeSpec := { name := "txnReaders", fn := fun _ => fun
  | [d] => { results := [.lit (.bool true)], args := [d] }
  | _ => none }
def txnReadersRow : OpenClaim := { program := "ytemohiainfllcaagreat", sum := "5ac930def7819359f2873346b2cf954b9bbc4d74042d9e349203954bf8eb6366", func := "middenheap/middenheaplaw14.TxnReaders", spec := "txnReaders", inPlace := ["sync/atomic.LoadInt64", "sync/atomic.CompareAndSwapInt64"], unfollowed := true, recurses := true, apart := false }
def TxnReadersSaid : Prop := txnReadersRow.holds Tryz.pinned (OpenSpec.ofChange txnReadersSpec)

/-- ITS FALSE NEIGHBOUR: 'it returns false'. Refute it at one input. -/
def txnReadersWrong : ChangeSpec := { name := "txnReaders", fn := fun _ => fun
  | [d] => { results := [.lit (.bool false)], args := [d] }
  | _ => none }
def TxnReadersWrongFalsely : Prop := txnReadersRow.holds Tryz.pinned (OpenSpec.ofChange txnReadersWrong)

/-- 'middenheaplaw14.TxnFrees': WHATEVER THE INPUT: true; the input reads as it did. -/
def txnFreesSpec : ChangeSpec := { name := "txnFrees", fn := fun _ => fun
  | [d1, d2] => { results := [.lit (.bool true)], args := [d1, d2] }
  | _ => none }
def txnFreesRow : OpenClaim := { program := "ytemohiainfllcaagreat", sum := "5ac930def7819359f2873346b2cf954b9bbc4d74042d9e349203954bf8eb6366", func := "middenheap/middenheaplaw14.TxnFrees", spec := "txnFrees", inPlace := ["sync/atomic.LoadInt64", "sync/atomic.CompareAndSwapInt64"], unfollowed := true, recurses := true, apart := false }
def TxnFreesSaid : Prop := txnFreesRow.holds Tryz.pinned (OpenSpec.ofChange txnFreesSpec)

/-- ITS FALSE NEIGHBOUR: 'it returns false'. Refute it at one input. -/
def txnFreesWrong : ChangeSpec := { name := "txnFrees", fn := fun _ => fun
  | [d1, d2] => { results := [.lit (.bool false)], args := [d1, d2] }
  | _ => none }
def TxnFreesWrongFalsely : Prop := txnFreesRow.holds Tryz.pinned (OpenSpec.ofChange txnFreesWrong)

/-- 'middenheaplaw14.TxnAlone': WHATEVER THE INPUT: true; the input reads as it did. -/
def txnAloneSpec : ChangeSpec := { name := "txnAlone", fn := fun _ => fun
  | [d1, d2] => { results := [.lit (.bool true)], args := [d1, d2] }
  | _ => none }
def txnAloneRow : OpenClaim := { program := "ytemohiainfllcaagreat", sum := "5ac930def7819359f2873346b2cf954b9bbc4d74042d9e349203954bf8eb6366", func := "middenheap/middenheaplaw14.TxnAlone", spec := "txnAlone", inPlace := ["sync/atomic.LoadInt64", "sync/atomic.CompareAndSwapInt64"], unfollowed := true, recurses := true, apart := false }
def TxnAloneSaid : Prop := txnAloneRow.holds Tryz.pinned (OpenSpec.ofChange txnAloneSpec)

/-- ITS FALSE NEIGHBOUR: 'it returns false'. Refute it at one input. -/
def txnAloneWrong : ChangeSpec := { name := "txnAlone", fn := fun _ => fun
  | [d1, d2] => { results := [.lit (.bool false)], args := [d1, d2] }
  | _ => none }
def TxnAloneWrongFalsely : Prop := txnAloneRow.holds Tryz.pinned (OpenSpec.ofChange txnAloneWrong)

/-- 'middenheaplaw16.ThreadAlone': WHATEVER THE INPUT: true; the input reads as it did. -/
def threadAloneSpec : ChangeSpec := { name := "threadAlone", fn := fun _ => fun
  | [d] => { results := [.lit (.bool true)], args := [d] }
  | _ => none }
def threadAloneRow : OpenClaim := { program := "ytemohiainfllcaagreat", sum := "5ac930def7819359f2873346b2cf954b9bbc4d74042d9e349203954bf8eb6366", func := "middenheap/middenheaplaw16.ThreadAlone", spec := "threadAlone", inPlace := ["sync/atomic.LoadInt64", "sync/atomic.CompareAndSwapInt64"], unfollowed := true, recurses := true, apart := false }
def ThreadAloneSaid : Prop := threadAloneRow.holds Tryz.pinned (OpenSpec.ofChange threadAloneSpec)

/-- ITS FALSE NEIGHBOUR: 'it returns false'. Refute it at one input. -/
def threadAloneWrong : ChangeSpec := { name := "threadAlone", fn := fun _ => fun
  | [d] => { results := [.lit (.bool false)], args := [d] }
  | _ => none }
def ThreadAloneWrongFalsely : Prop := threadAloneRow.holds Tryz.pinned (OpenSpec.ofChange threadAloneWrong)

/-- 'middenheaplaw16.ThreadRoots': WHATEVER THE INPUT: true; the input reads as it did. -/
def threadRootsSpec : ChangeSpec := { name := "threadRoots", fn := fun _ => fun
  | [d1, d2] => { results := [.lit (.bool true)], args := [d1, d2] }
  | _ => none }
def threadRootsRow : OpenClaim := { program := "ytemohiainfllcaagreat", sum := "5ac930def7819359f2873346b2cf954b9bbc4d74042d9e349203954bf8eb6366", func := "middenheap/middenheaplaw16.ThreadRoots", spec := "threadRoots", inPlace := ["sync/atomic.LoadInt64", "sync/atomic.CompareAndSwapInt64"], unfollowed := true, recurses := true, apart := false }
def ThreadRootsSaid : Prop := threadRootsRow.holds Tryz.pinned (OpenSpec.ofChange threadRootsSpec)

/-- ITS FALSE NEIGHBOUR: 'it returns false'. Refute it at one input. -/
def threadRootsWrong : ChangeSpec := { name := "threadRoots", fn := fun _ => fun
  | [d1, d2] => { results := [.lit (.bool false)], args := [d1, d2] }
  | _ => none }
def ThreadRootsWrongFalsely : Prop := threadRootsRow.holds Tryz.pinned (OpenSpec.ofChange threadRootsWrong)

/-- 'middenheaplaw16.ThreadBack': WHATEVER THE INPUT: true; the input reads as it did. -/
def threadBackSpec : ChangeSpec := { name := "threadBack", fn := fun _ => fun
  | [d] => { results := [.lit (.bool true)], args := [d] }
  | _ => none }
def threadBackRow : OpenClaim := { program := "ytemohiainfllcaagreat", sum := "5ac930def7819359f2873346b2cf954b9bbc4d74042d9e349203954bf8eb6366", func := "middenheap/middenheaplaw16.ThreadBack", spec := "threadBack", inPlace := ["sync/atomic.LoadInt64", "sync/atomic.CompareAndSwapInt64"], unfollowed := true, recurses := true, apart := false }
def ThreadBackSaid : Prop := threadBackRow.holds Tryz.pinned (OpenSpec.ofChange threadBackSpec)

/-- ITS FALSE NEIGHBOUR: 'it returns false'. Refute it at one input. -/
def threadBackWrong : ChangeSpec := { name := "threadBack", fn := fun _ => fun
  | [d] => { results := [.lit (.bool false)], args := [d] }
  | _ => none }
def ThreadBackWrongFalsely : Prop := threadBackRow.holds Tryz.pinned (OpenSpec.ofChange threadBackWrong)

/-- 'middenheaplaw16.ThreadSame': WHATEVER THE INPUT: true; the input reads as it did. -/
def threadSameSpec : ChangeSpec := { name := "threadSame", fn := fun _ => fun
  | [d1, d2] => { results := [.lit (.bool true)], args := [d1, d2] }
  | _ => none }
def threadSameRow : OpenClaim := { program := "ytemohiainfllcaagreat", sum := "5ac930def7819359f2873346b2cf954b9bbc4d74042d9e349203954bf8eb6366", func := "middenheap/middenheaplaw16.ThreadSame", spec := "threadSame", inPlace := ["sync/atomic.LoadInt64", "sync/atomic.CompareAndSwapInt64"], unfollowed := true, recurses := true, apart := false }
def ThreadSameSaid : Prop := threadSameRow.holds Tryz.pinned (OpenSpec.ofChange threadSameSpec)

/-- ITS FALSE NEIGHBOUR: 'it returns false'. Refute it at one input. -/
def threadSameWrong : ChangeSpec := { name := "threadSame", fn := fun _ => fun
  | [d1, d2] => { results := [.lit (.bool false)], args := [d1, d2] }
  | _ => none }
def ThreadSameWrongFalsely : Prop := threadSameRow.holds Tryz.pinned (OpenSpec.ofChange threadSameWrong)

/-- 'middenheaplaw14.TxnAborts': WHATEVER THE INPUT: true; the input reads as it did. -/
def txnAbortsSpec : ChangeSpec := { name := "txnAborts", fn := fun _ => fun
  | [d1, d2] => { results := [.lit (.bool true)], args := [d1, d2] }
  | _ => none }
def txnAbortsRow : OpenClaim := { program := "ytemohiainfllcaagreat", sum := "5ac930def7819359f2873346b2cf954b9bbc4d74042d9e349203954bf8eb6366", func := "middenheap/middenheaplaw14.TxnAborts", spec := "txnAborts", inPlace := ["sync/atomic.LoadInt64", "sync/atomic.CompareAndSwapInt64"], unfollowed := true, recurses := true, apart := false }
def TxnAbortsSaid : Prop := txnAbortsRow.holds Tryz.pinned (OpenSpec.ofChange txnAbortsSpec)

/-- ITS FALSE NEIGHBOUR: 'it returns false'. Refute it at one input. -/
def txnAbortsWrong : ChangeSpec := { name := "txnAborts", fn := fun _ => fun
  | [d1, d2] => { results := [.lit (.bool false)], args := [d1, d2] }
  | _ => none }
def TxnAbortsWrongFalsely : Prop := txnAbortsRow.holds Tryz.pinned (OpenSpec.ofChange txnAbortsWrong)

/- THE SECOND FORM. 'bulk': how many values and letters a reading holds, each counted each time it is reached (what is shared counts as often as it is met; a slice's spare places count too). A statement '..UptoSaid' is the law's where the arguments, and the package variables that the reading takes, are together of bulk at most 1048576: NARROWER than '..Said'. Prove '..Said' where nothing that the law and all that it calls make is longer than what came in: it says more and counts as full. Else prove '..UptoSaid'. A law counts once. -/
mutual
def uptoBulk {H : Type} : DataW H → Nat
  | .lit (.string bytes) => bytes.length + 1
  | .lit _ => 1
  | .nil => 1
  | .ptr d => uptoBulk d + 1
  | .slice elems spare => uptoBulkAll elems + uptoBulkAll spare + 1
  | .agg parts => uptoBulkAll parts + 1
  | .iface _ d => uptoBulk d + 1
  | .map entries => uptoBulkEntries entries + 1
  | .held _ => 1
def uptoBulkAll {H : Type} : List (DataW H) → Nat
  | [] => 0
  | d :: r => uptoBulk d + uptoBulkAll r
def uptoBulkEntries {H : Type} : List (Lit × DataW H) → Nat
  | [] => 0
  | x :: r => uptoBulkEntry x + uptoBulkEntries r
def uptoBulkEntry {H : Type} : Lit × DataW H → Nat
  | (.string bytes, d) => bytes.length + uptoBulk d + 1
  | (_, d) => uptoBulk d + 1
 end
def uptoSmall : (H : Type) → List (DataW H) → Bool := fun _ ds => decide (uptoBulkAll ds ≤ 1048576)
def OpenSpec.upto (s : _root_.Go.ChangeSpec) : _root_.Go.OpenSpec := { _root_.Go.OpenSpec.ofChange s with cond := some uptoSmall }

/-- 'middenheaplaw14.TxnHolds', WHERE WHAT IT READS IS OF BULK AT MOST 1048576: true; the input reads as it did. -/
def txnHoldsUptoRow : OpenClaim := { program := "ytemohiainfllcaagreat", sum := "5ac930def7819359f2873346b2cf954b9bbc4d74042d9e349203954bf8eb6366", func := "middenheap/middenheaplaw14.TxnHolds", spec := "txnHolds", inPlace := ["sync/atomic.LoadInt64", "sync/atomic.CompareAndSwapInt64"], unfollowed := true, recurses := true, apart := false, narrowed := true }
def TxnHoldsUptoSaid : Prop := txnHoldsUptoRow.holds Tryz.pinned (OpenSpec.upto txnHoldsSpec)

/-- 'middenheaplaw14.TxnReaders', WHERE WHAT IT READS IS OF BULK AT MOST 1048576: true; the input reads as it did. -/
def txnReadersUptoRow : OpenClaim := { program := "ytemohiainfllcaagreat", sum := "5ac930def7819359f2873346b2cf954b9bbc4d74042d9e349203954bf8eb6366", func := "middenheap/middenheaplaw14.TxnReaders", spec := "txnReaders", inPlace := ["sync/atomic.LoadInt64", "sync/atomic.CompareAndSwapInt64"], unfollowed := true, recurses := true, apart := false, narrowed := true }
def TxnReadersUptoSaid : Prop := txnReadersUptoRow.holds Tryz.pinned (OpenSpec.upto txnReadersSpec)

/-- 'middenheaplaw14.TxnFrees', WHERE WHAT IT READS IS OF BULK AT MOST 1048576: true; the input reads as it did. -/
def txnFreesUptoRow : OpenClaim := { program := "ytemohiainfllcaagreat", sum := "5ac930def7819359f2873346b2cf954b9bbc4d74042d9e349203954bf8eb6366", func := "middenheap/middenheaplaw14.TxnFrees", spec := "txnFrees", inPlace := ["sync/atomic.LoadInt64", "sync/atomic.CompareAndSwapInt64"], unfollowed := true, recurses := true, apart := false, narrowed := true }
def TxnFreesUptoSaid : Prop := txnFreesUptoRow.holds Tryz.pinned (OpenSpec.upto txnFreesSpec)

/-- 'middenheaplaw14.TxnAlone', WHERE WHAT IT READS IS OF BULK AT MOST 1048576: true; the input reads as it did. -/
def txnAloneUptoRow : OpenClaim := { program := "ytemohiainfllcaagreat", sum := "5ac930def7819359f2873346b2cf954b9bbc4d74042d9e349203954bf8eb6366", func := "middenheap/middenheaplaw14.TxnAlone", spec := "txnAlone", inPlace := ["sync/atomic.LoadInt64", "sync/atomic.CompareAndSwapInt64"], unfollowed := true, recurses := true, apart := false, narrowed := true }
def TxnAloneUptoSaid : Prop := txnAloneUptoRow.holds Tryz.pinned (OpenSpec.upto txnAloneSpec)

/-- 'middenheaplaw16.ThreadAlone', WHERE WHAT IT READS IS OF BULK AT MOST 1048576: true; the input reads as it did. -/
def threadAloneUptoRow : OpenClaim := { program := "ytemohiainfllcaagreat", sum := "5ac930def7819359f2873346b2cf954b9bbc4d74042d9e349203954bf8eb6366", func := "middenheap/middenheaplaw16.ThreadAlone", spec := "threadAlone", inPlace := ["sync/atomic.LoadInt64", "sync/atomic.CompareAndSwapInt64"], unfollowed := true, recurses := true, apart := false, narrowed := true }
def ThreadAloneUptoSaid : Prop := threadAloneUptoRow.holds Tryz.pinned (OpenSpec.upto threadAloneSpec)

/-- 'middenheaplaw16.ThreadRoots', WHERE WHAT IT READS IS OF BULK AT MOST 1048576: true; the input reads as it did. -/
def threadRootsUptoRow : OpenClaim := { program := "ytemohiainfllcaagreat", sum := "5ac930def7819359f2873346b2cf954b9bbc4d74042d9e349203954bf8eb6366", func := "middenheap/middenheaplaw16.ThreadRoots", spec := "threadRoots", inPlace := ["sync/atomic.LoadInt64", "sync/atomic.CompareAndSwapInt64"], unfollowed := true, recurses := true, apart := false, narrowed := true }
def ThreadRootsUptoSaid : Prop := threadRootsUptoRow.holds Tryz.pinned (OpenSpec.upto threadRootsSpec)

/-- 'middenheaplaw16.ThreadBack', WHERE WHAT IT READS IS OF BULK AT MOST 1048576: true; the input reads as it did. -/
def threadBackUptoRow : OpenClaim := { program := "ytemohiainfllcaagreat", sum := "5ac930def7819359f2873346b2cf954b9bbc4d74042d9e349203954bf8eb6366", func := "middenheap/middenheaplaw16.ThreadBack", spec := "threadBack", inPlace := ["sync/atomic.LoadInt64", "sync/atomic.CompareAndSwapInt64"], unfollowed := true, recurses := true, apart := false, narrowed := true }
def ThreadBackUptoSaid : Prop := threadBackUptoRow.holds Tryz.pinned (OpenSpec.upto threadBackSpec)

/-- 'middenheaplaw16.ThreadSame', WHERE WHAT IT READS IS OF BULK AT MOST 1048576: true; the input reads as it did. -/
def threadSameUptoRow : OpenClaim := { program := "ytemohiainfllcaagreat", sum := "5ac930def7819359f2873346b2cf954b9bbc4d74042d9e349203954bf8eb6366", func := "middenheap/middenheaplaw16.ThreadSame", spec := "threadSame", inPlace := ["sync/atomic.LoadInt64", "sync/atomic.CompareAndSwapInt64"], unfollowed := true, recurses := true, apart := false, narrowed := true }
def ThreadSameUptoSaid : Prop := threadSameUptoRow.holds Tryz.pinned (OpenSpec.upto threadSameSpec)

/-- 'middenheaplaw14.TxnAborts', WHERE WHAT IT READS IS OF BULK AT MOST 1048576: true; the input reads as it did. -/
def txnAbortsUptoRow : OpenClaim := { program := "ytemohiainfllcaagreat", sum := "5ac930def7819359f2873346b2cf954b9bbc4d74042d9e349203954bf8eb6366", func := "middenheap/middenheaplaw14.TxnAborts", spec := "txnAborts", inPlace := ["sync/atomic.LoadInt64", "sync/atomic.CompareAndSwapInt64"], unfollowed := true, recurses := true, apart := false, narrowed := true }
def TxnAbortsUptoSaid : Prop := txnAbortsUptoRow.holds Tryz.pinned (OpenSpec.upto txnAbortsSpec)

end Rows
end Go.Proofs.YtemohiainfllcaaGreat
