/-
  No cell of these rows narrows 'for every input' (looked for: loops, veiled, ifaces, maps, wideKeys, modest, calm, conditions, laid).
  DERIVED. THE GIVEN ROWS OF THIS SEAT. 10 by the template 'for every input the law returns true; each argument reads behind the call as it read before'; 0 by the template 'total and deterministic' (their statements: YteehgedabdchcaaGreatTotals.lean).
  GIVEN WITH THE SEED: the statements are not yours to turn. If you find one false, say at which input.
  Laid BY PROGRAM, IN A SANDBOX (cutbox-rows.mjs): the forced cells as the released guide's own fill.sh prints them over the translation 27e73bb5199b5294… (all of the seat's roots in one cut). By AI agents, Wed Nov 11 2026. No macro, syntax, notation, axiom, sorry.
-/
import Derived.Test.YteehgedabdchcaaGreatChecked
import GoSem.Claim
import GoSem.ClaimJoined
import GoSem.ClaimMapViews
import Derived.JoinedTies
import Derived.KernelRfl
namespace Go.Proofs.YteehgedabdchcaaGreat
/- THE CELL 'sum', in the pinned program and in every row, IS THE sha256 OF THE DUMP (.gsa) THAT YteehgedabdchcaaGreatProg.lean LOADS. Nothing in Lean hashes anything: it is a label: what it is worth is what the hold of that sum in a sandbox is worth. -/
noncomputable def Tryz.pinned : Pinned := { name := "yteehgedabdchcaagreat", sum := "27e73bb5199b5294d90fbb6a2d56c2391541e1f068a669688092e0b0ea049bf1", checked := Tryz.checked }
namespace Rows
def none {H : Type} : Left H := { results := [], args := [] }

/-- 'middenheaplaw14.TxnAborts': WHATEVER THE INPUT: true; the input reads as it did. -/
def txnAbortsSpec : ChangeSpec := { name := "txnAborts", fn := fun _ => fun
  | [d1, d2] => { results := [.lit (.bool true)], args := [d1, d2] }
  | _ => none }
def txnAbortsRow : OpenClaim := { program := "yteehgedabdchcaagreat", sum := "27e73bb5199b5294d90fbb6a2d56c2391541e1f068a669688092e0b0ea049bf1", func := "middenheap/middenheaplaw14.TxnAborts", spec := "txnAborts", inPlace := ["sync/atomic.LoadInt64", "sync/atomic.CompareAndSwapInt64"], unfollowed := true, recurses := true, apart := false }
def TxnAbortsSaid : Prop := txnAbortsRow.holds Tryz.pinned (OpenSpec.ofChange txnAbortsSpec)

/-- ITS FALSE NEIGHBOUR: 'it returns false'. Refute it at one input. -/
def txnAbortsWrong : ChangeSpec := { name := "txnAborts", fn := fun _ => fun
  | [d1, d2] => { results := [.lit (.bool false)], args := [d1, d2] }
  | _ => none }
def TxnAbortsWrongFalsely : Prop := txnAbortsRow.holds Tryz.pinned (OpenSpec.ofChange txnAbortsWrong)

/-- 'middenheaplaw17.MachineTwins': WHATEVER THE INPUT: true; the input reads as it did. -/
def machineTwinsSpec : ChangeSpec := { name := "machineTwins", fn := fun _ => fun
  | [d1, d2] => { results := [.lit (.bool true)], args := [d1, d2] }
  | _ => none }
def machineTwinsRow : OpenClaim := { program := "yteehgedabdchcaagreat", sum := "27e73bb5199b5294d90fbb6a2d56c2391541e1f068a669688092e0b0ea049bf1", func := "middenheap/middenheaplaw17.MachineTwins", spec := "machineTwins", inPlace := ["(*internal/sync.Mutex).Lock", "internal/race.Disable", "sync/atomic.CompareAndSwapInt32", "internal/race.Enable", "internal/race.Acquire", "(*internal/sync.Mutex).lockSlow", "internal/sync.runtime_canSpin", "internal/sync.runtime_doSpin", "internal/sync.throw", "internal/sync.runtime_nanotime", "internal/sync.runtime_SemacquireMutex", "sync/atomic.AddInt32", "(*internal/sync.Mutex).Unlock", "internal/race.ReleaseMerge", "(*internal/sync.Mutex).unlockSlow", "internal/sync.fatal", "internal/sync.runtime_Semrelease", "sync/atomic.LoadInt64", "sync/atomic.CompareAndSwapInt64"], unfollowed := true, recurses := true, apart := false }
def MachineTwinsSaid : Prop := machineTwinsRow.holds Tryz.pinned (OpenSpec.ofChange machineTwinsSpec)

/-- ITS FALSE NEIGHBOUR: 'it returns false'. Refute it at one input. -/
def machineTwinsWrong : ChangeSpec := { name := "machineTwins", fn := fun _ => fun
  | [d1, d2] => { results := [.lit (.bool false)], args := [d1, d2] }
  | _ => none }
def MachineTwinsWrongFalsely : Prop := machineTwinsRow.holds Tryz.pinned (OpenSpec.ofChange machineTwinsWrong)

/-- 'middenheaplaw17.MachineEnds': WHATEVER THE INPUT: true; the input reads as it did. -/
def machineEndsSpec : ChangeSpec := { name := "machineEnds", fn := fun _ => fun
  | [d1, d2] => { results := [.lit (.bool true)], args := [d1, d2] }
  | _ => none }
def machineEndsRow : OpenClaim := { program := "yteehgedabdchcaagreat", sum := "27e73bb5199b5294d90fbb6a2d56c2391541e1f068a669688092e0b0ea049bf1", func := "middenheap/middenheaplaw17.MachineEnds", spec := "machineEnds", inPlace := ["(*internal/sync.Mutex).Lock", "internal/race.Disable", "sync/atomic.CompareAndSwapInt32", "internal/race.Enable", "internal/race.Acquire", "(*internal/sync.Mutex).lockSlow", "internal/sync.runtime_canSpin", "internal/sync.runtime_doSpin", "internal/sync.throw", "internal/sync.runtime_nanotime", "internal/sync.runtime_SemacquireMutex", "sync/atomic.AddInt32", "(*internal/sync.Mutex).Unlock", "internal/race.ReleaseMerge", "(*internal/sync.Mutex).unlockSlow", "internal/sync.fatal", "internal/sync.runtime_Semrelease", "sync/atomic.LoadInt64", "sync/atomic.CompareAndSwapInt64"], unfollowed := true, recurses := true, apart := false }
def MachineEndsSaid : Prop := machineEndsRow.holds Tryz.pinned (OpenSpec.ofChange machineEndsSpec)

/-- ITS FALSE NEIGHBOUR: 'it returns false'. Refute it at one input. -/
def machineEndsWrong : ChangeSpec := { name := "machineEnds", fn := fun _ => fun
  | [d1, d2] => { results := [.lit (.bool false)], args := [d1, d2] }
  | _ => none }
def MachineEndsWrongFalsely : Prop := machineEndsRow.holds Tryz.pinned (OpenSpec.ofChange machineEndsWrong)

/-- 'middenheaplaw17.MachineHistory': WHATEVER THE INPUT: true; the input reads as it did. -/
def machineHistorySpec : ChangeSpec := { name := "machineHistory", fn := fun _ => fun
  | [d1, d2] => { results := [.lit (.bool true)], args := [d1, d2] }
  | _ => none }
def machineHistoryRow : OpenClaim := { program := "yteehgedabdchcaagreat", sum := "27e73bb5199b5294d90fbb6a2d56c2391541e1f068a669688092e0b0ea049bf1", func := "middenheap/middenheaplaw17.MachineHistory", spec := "machineHistory", inPlace := ["(*internal/sync.Mutex).Lock", "internal/race.Disable", "sync/atomic.CompareAndSwapInt32", "internal/race.Enable", "internal/race.Acquire", "(*internal/sync.Mutex).lockSlow", "internal/sync.runtime_canSpin", "internal/sync.runtime_doSpin", "internal/sync.throw", "internal/sync.runtime_nanotime", "internal/sync.runtime_SemacquireMutex", "sync/atomic.AddInt32", "(*internal/sync.Mutex).Unlock", "internal/race.ReleaseMerge", "(*internal/sync.Mutex).unlockSlow", "internal/sync.fatal", "internal/sync.runtime_Semrelease", "sync/atomic.LoadInt64", "sync/atomic.CompareAndSwapInt64"], unfollowed := true, recurses := true, apart := false }
def MachineHistorySaid : Prop := machineHistoryRow.holds Tryz.pinned (OpenSpec.ofChange machineHistorySpec)

/-- ITS FALSE NEIGHBOUR: 'it returns false'. Refute it at one input. -/
def machineHistoryWrong : ChangeSpec := { name := "machineHistory", fn := fun _ => fun
  | [d1, d2] => { results := [.lit (.bool false)], args := [d1, d2] }
  | _ => none }
def MachineHistoryWrongFalsely : Prop := machineHistoryRow.holds Tryz.pinned (OpenSpec.ofChange machineHistoryWrong)

/-- 'middenheaplaw17.MachineNow': WHATEVER THE INPUT: true; the input reads as it did. -/
def machineNowSpec : ChangeSpec := { name := "machineNow", fn := fun _ => fun
  | [d1, d2] => { results := [.lit (.bool true)], args := [d1, d2] }
  | _ => none }
def machineNowRow : OpenClaim := { program := "yteehgedabdchcaagreat", sum := "27e73bb5199b5294d90fbb6a2d56c2391541e1f068a669688092e0b0ea049bf1", func := "middenheap/middenheaplaw17.MachineNow", spec := "machineNow", inPlace := ["(*internal/sync.Mutex).Lock", "internal/race.Disable", "sync/atomic.CompareAndSwapInt32", "internal/race.Enable", "internal/race.Acquire", "(*internal/sync.Mutex).lockSlow", "internal/sync.runtime_canSpin", "internal/sync.runtime_doSpin", "internal/sync.throw", "internal/sync.runtime_nanotime", "internal/sync.runtime_SemacquireMutex", "sync/atomic.AddInt32", "(*internal/sync.Mutex).Unlock", "internal/race.ReleaseMerge", "(*internal/sync.Mutex).unlockSlow", "internal/sync.fatal", "internal/sync.runtime_Semrelease", "sync/atomic.LoadInt64", "sync/atomic.CompareAndSwapInt64"], unfollowed := true, recurses := true, apart := false }
def MachineNowSaid : Prop := machineNowRow.holds Tryz.pinned (OpenSpec.ofChange machineNowSpec)

/-- ITS FALSE NEIGHBOUR: 'it returns false'. Refute it at one input. -/
def machineNowWrong : ChangeSpec := { name := "machineNow", fn := fun _ => fun
  | [d1, d2] => { results := [.lit (.bool false)], args := [d1, d2] }
  | _ => none }
def MachineNowWrongFalsely : Prop := machineNowRow.holds Tryz.pinned (OpenSpec.ofChange machineNowWrong)

/-- 'middenheaplaw17.MachineOwn': WHATEVER THE INPUT: true; the input reads as it did. -/
def machineOwnSpec : ChangeSpec := { name := "machineOwn", fn := fun _ => fun
  | [d1, d2] => { results := [.lit (.bool true)], args := [d1, d2] }
  | _ => none }
def machineOwnRow : OpenClaim := { program := "yteehgedabdchcaagreat", sum := "27e73bb5199b5294d90fbb6a2d56c2391541e1f068a669688092e0b0ea049bf1", func := "middenheap/middenheaplaw17.MachineOwn", spec := "machineOwn", inPlace := ["(*internal/sync.Mutex).Lock", "internal/race.Disable", "sync/atomic.CompareAndSwapInt32", "internal/race.Enable", "internal/race.Acquire", "(*internal/sync.Mutex).lockSlow", "internal/sync.runtime_canSpin", "internal/sync.runtime_doSpin", "internal/sync.throw", "internal/sync.runtime_nanotime", "internal/sync.runtime_SemacquireMutex", "sync/atomic.AddInt32", "(*internal/sync.Mutex).Unlock", "internal/race.ReleaseMerge", "(*internal/sync.Mutex).unlockSlow", "internal/sync.fatal", "internal/sync.runtime_Semrelease", "sync/atomic.LoadInt64", "sync/atomic.CompareAndSwapInt64"], unfollowed := true, recurses := true, apart := false }
def MachineOwnSaid : Prop := machineOwnRow.holds Tryz.pinned (OpenSpec.ofChange machineOwnSpec)

/-- ITS FALSE NEIGHBOUR: 'it returns false'. Refute it at one input. -/
def machineOwnWrong : ChangeSpec := { name := "machineOwn", fn := fun _ => fun
  | [d1, d2] => { results := [.lit (.bool false)], args := [d1, d2] }
  | _ => none }
def MachineOwnWrongFalsely : Prop := machineOwnRow.holds Tryz.pinned (OpenSpec.ofChange machineOwnWrong)

/-- 'middenheaplaw17.MachineSame': WHATEVER THE INPUT: true; the input reads as it did. -/
def machineSameSpec : ChangeSpec := { name := "machineSame", fn := fun _ => fun
  | [d1, d2, d3] => { results := [.lit (.bool true)], args := [d1, d2, d3] }
  | _ => none }
def machineSameRow : OpenClaim := { program := "yteehgedabdchcaagreat", sum := "27e73bb5199b5294d90fbb6a2d56c2391541e1f068a669688092e0b0ea049bf1", func := "middenheap/middenheaplaw17.MachineSame", spec := "machineSame", inPlace := ["(*internal/sync.Mutex).Lock", "internal/race.Disable", "sync/atomic.CompareAndSwapInt32", "internal/race.Enable", "internal/race.Acquire", "(*internal/sync.Mutex).lockSlow", "internal/sync.runtime_canSpin", "internal/sync.runtime_doSpin", "internal/sync.throw", "internal/sync.runtime_nanotime", "internal/sync.runtime_SemacquireMutex", "sync/atomic.AddInt32", "(*internal/sync.Mutex).Unlock", "internal/race.ReleaseMerge", "(*internal/sync.Mutex).unlockSlow", "internal/sync.fatal", "internal/sync.runtime_Semrelease", "sync/atomic.LoadInt64", "sync/atomic.CompareAndSwapInt64"], unfollowed := true, recurses := true, apart := false }
def MachineSameSaid : Prop := machineSameRow.holds Tryz.pinned (OpenSpec.ofChange machineSameSpec)

/-- ITS FALSE NEIGHBOUR: 'it returns false'. Refute it at one input. -/
def machineSameWrong : ChangeSpec := { name := "machineSame", fn := fun _ => fun
  | [d1, d2, d3] => { results := [.lit (.bool false)], args := [d1, d2, d3] }
  | _ => none }
def MachineSameWrongFalsely : Prop := machineSameRow.holds Tryz.pinned (OpenSpec.ofChange machineSameWrong)

/-- 'middenheaplaw19.ReplayFollows': WHATEVER THE INPUT: true; the input reads as it did. -/
def replayFollowsSpec : ChangeSpec := { name := "replayFollows", fn := fun _ => fun
  | [d1, d2] => { results := [.lit (.bool true)], args := [d1, d2] }
  | _ => none }
def replayFollowsRow : OpenClaim := { program := "yteehgedabdchcaagreat", sum := "27e73bb5199b5294d90fbb6a2d56c2391541e1f068a669688092e0b0ea049bf1", func := "middenheap/middenheaplaw19.ReplayFollows", spec := "replayFollows", inPlace := ["(*internal/sync.Mutex).Lock", "internal/race.Disable", "sync/atomic.CompareAndSwapInt32", "internal/race.Enable", "internal/race.Acquire", "(*internal/sync.Mutex).lockSlow", "internal/sync.runtime_canSpin", "internal/sync.runtime_doSpin", "internal/sync.throw", "internal/sync.runtime_nanotime", "internal/sync.runtime_SemacquireMutex", "sync/atomic.AddInt32", "(*internal/sync.Mutex).Unlock", "internal/race.ReleaseMerge", "(*internal/sync.Mutex).unlockSlow", "internal/sync.fatal", "internal/sync.runtime_Semrelease", "sync/atomic.LoadInt64", "sync/atomic.CompareAndSwapInt64"], unfollowed := true, recurses := true, apart := false }
def ReplayFollowsSaid : Prop := replayFollowsRow.holds Tryz.pinned (OpenSpec.ofChange replayFollowsSpec)

/-- ITS FALSE NEIGHBOUR: 'it returns false'. Refute it at one input. -/
def replayFollowsWrong : ChangeSpec := { name := "replayFollows", fn := fun _ => fun
  | [d1, d2] => { results := [.lit (.bool false)], args := [d1, d2] }
  | _ => none }
def ReplayFollowsWrongFalsely : Prop := replayFollowsRow.holds Tryz.pinned (OpenSpec.ofChange replayFollowsWrong)

/-- 'middenheaplaw19.ReplayPrefix': WHATEVER THE INPUT: true; the input reads as it did. -/
def replayPrefixSpec : ChangeSpec := { name := "replayPrefix", fn := fun _ => fun
  | [d1, d2, d3] => { results := [.lit (.bool true)], args := [d1, d2, d3] }
  | _ => none }
def replayPrefixRow : OpenClaim := { program := "yteehgedabdchcaagreat", sum := "27e73bb5199b5294d90fbb6a2d56c2391541e1f068a669688092e0b0ea049bf1", func := "middenheap/middenheaplaw19.ReplayPrefix", spec := "replayPrefix", inPlace := ["(*internal/sync.Mutex).Lock", "internal/race.Disable", "sync/atomic.CompareAndSwapInt32", "internal/race.Enable", "internal/race.Acquire", "(*internal/sync.Mutex).lockSlow", "internal/sync.runtime_canSpin", "internal/sync.runtime_doSpin", "internal/sync.throw", "internal/sync.runtime_nanotime", "internal/sync.runtime_SemacquireMutex", "sync/atomic.AddInt32", "(*internal/sync.Mutex).Unlock", "internal/race.ReleaseMerge", "(*internal/sync.Mutex).unlockSlow", "internal/sync.fatal", "internal/sync.runtime_Semrelease", "sync/atomic.LoadInt64", "sync/atomic.CompareAndSwapInt64"], unfollowed := true, recurses := true, apart := false }
def ReplayPrefixSaid : Prop := replayPrefixRow.holds Tryz.pinned (OpenSpec.ofChange replayPrefixSpec)

/-- ITS FALSE NEIGHBOUR: 'it returns false'. Refute it at one input. -/
def replayPrefixWrong : ChangeSpec := { name := "replayPrefix", fn := fun _ => fun
  | [d1, d2, d3] => { results := [.lit (.bool false)], args := [d1, d2, d3] }
  | _ => none }
def ReplayPrefixWrongFalsely : Prop := replayPrefixRow.holds Tryz.pinned (OpenSpec.ofChange replayPrefixWrong)

/-- 'middenheaplaw19.ReplayCuts': WHATEVER THE INPUT: true; the input reads as it did. -/
def replayCutsSpec : ChangeSpec := { name := "replayCuts", fn := fun _ => fun
  | [d1, d2, d3] => { results := [.lit (.bool true)], args := [d1, d2, d3] }
  | _ => none }
def replayCutsRow : OpenClaim := { program := "yteehgedabdchcaagreat", sum := "27e73bb5199b5294d90fbb6a2d56c2391541e1f068a669688092e0b0ea049bf1", func := "middenheap/middenheaplaw19.ReplayCuts", spec := "replayCuts", inPlace := ["(*internal/sync.Mutex).Lock", "internal/race.Disable", "sync/atomic.CompareAndSwapInt32", "internal/race.Enable", "internal/race.Acquire", "(*internal/sync.Mutex).lockSlow", "internal/sync.runtime_canSpin", "internal/sync.runtime_doSpin", "internal/sync.throw", "internal/sync.runtime_nanotime", "internal/sync.runtime_SemacquireMutex", "sync/atomic.AddInt32", "(*internal/sync.Mutex).Unlock", "internal/race.ReleaseMerge", "(*internal/sync.Mutex).unlockSlow", "internal/sync.fatal", "internal/sync.runtime_Semrelease", "sync/atomic.LoadInt64", "sync/atomic.CompareAndSwapInt64"], unfollowed := true, recurses := true, apart := false }
def ReplayCutsSaid : Prop := replayCutsRow.holds Tryz.pinned (OpenSpec.ofChange replayCutsSpec)

/-- ITS FALSE NEIGHBOUR: 'it returns false'. Refute it at one input. -/
def replayCutsWrong : ChangeSpec := { name := "replayCuts", fn := fun _ => fun
  | [d1, d2, d3] => { results := [.lit (.bool false)], args := [d1, d2, d3] }
  | _ => none }
def ReplayCutsWrongFalsely : Prop := replayCutsRow.holds Tryz.pinned (OpenSpec.ofChange replayCutsWrong)

/- THE SECOND FORM. 'bulk': how many values and letters a reading holds, each counted each time it is reached (what is shared counts as often as it is met; a slice's spare places count too). A statement '..UptoSaid' is the law's where the arguments, and the package variables that the reading takes, are together of bulk at most 1048576: NARROWER than '..Said'. Prove '..Said' where nothing that the law and all that it calls make is longer than what came in: it says more and counts as full. Else prove '..UptoSaid'. A law counts once. -/
mutual
def uptoBulk {H : Type} : DataW H → Nat
  | .lit (.string bytes) => bytes.length + 1
  | .lit _ => 1
  | .nil => 1
  | .ptr d => uptoBulk d + 1
  | .slice elems spare => uptoBulkAll elems + uptoBulkAll spare + 1
  | .agg parts => uptoBulkAll parts + 1
  | .iface _ d => uptoBulk d + 1
  | .map entries => uptoBulkEntries entries + 1
  | .held _ => 1
def uptoBulkAll {H : Type} : List (DataW H) → Nat
  | [] => 0
  | d :: r => uptoBulk d + uptoBulkAll r
def uptoBulkEntries {H : Type} : List (Lit × DataW H) → Nat
  | [] => 0
  | x :: r => uptoBulkEntry x + uptoBulkEntries r
def uptoBulkEntry {H : Type} : Lit × DataW H → Nat
  | (.string bytes, d) => bytes.length + uptoBulk d + 1
  | (_, d) => uptoBulk d + 1
 end
def uptoSmall : (H : Type) → List (DataW H) → Bool := fun _ ds => decide (uptoBulkAll ds ≤ 1048576)
def OpenSpec.upto (s : _root_.Go.ChangeSpec) : _root_.Go.OpenSpec := { _root_.Go.OpenSpec.ofChange s with cond := some uptoSmall }

/-- 'middenheaplaw14.TxnAborts', WHERE WHAT IT READS IS OF BULK AT MOST 1048576: true; the input reads as it did. -/
def txnAbortsUptoRow : OpenClaim := { program := "yteehgedabdchcaagreat", sum := "27e73bb5199b5294d90fbb6a2d56c2391541e1f068a669688092e0b0ea049bf1", func := "middenheap/middenheaplaw14.TxnAborts", spec := "txnAborts", inPlace := ["sync/atomic.LoadInt64", "sync/atomic.CompareAndSwapInt64"], unfollowed := true, recurses := true, apart := false, narrowed := true }
def TxnAbortsUptoSaid : Prop := txnAbortsUptoRow.holds Tryz.pinned (OpenSpec.upto txnAbortsSpec)

/-- 'middenheaplaw17.MachineTwins', WHERE WHAT IT READS IS OF BULK AT MOST 1048576: true; the input reads as it did. -/
def machineTwinsUptoRow : OpenClaim := { program := "yteehgedabdchcaagreat", sum := "27e73bb5199b5294d90fbb6a2d56c2391541e1f068a669688092e0b0ea049bf1", func := "middenheap/middenheaplaw17.MachineTwins", spec := "machineTwins", inPlace := ["(*internal/sync.Mutex).Lock", "internal/race.Disable", "sync/atomic.CompareAndSwapInt32", "internal/race.Enable", "internal/race.Acquire", "(*internal/sync.Mutex).lockSlow", "internal/sync.runtime_canSpin", "internal/sync.runtime_doSpin", "internal/sync.throw", "internal/sync.runtime_nanotime", "internal/sync.runtime_SemacquireMutex", "sync/atomic.AddInt32", "(*internal/sync.Mutex).Unlock", "internal/race.ReleaseMerge", "(*internal/sync.Mutex).unlockSlow", "internal/sync.fatal", "internal/sync.runtime_Semrelease", "sync/atomic.LoadInt64", "sync/atomic.CompareAndSwapInt64"], unfollowed := true, recurses := true, apart := false, narrowed := true }
def MachineTwinsUptoSaid : Prop := machineTwinsUptoRow.holds Tryz.pinned (OpenSpec.upto machineTwinsSpec)

/-- 'middenheaplaw17.MachineEnds', WHERE WHAT IT READS IS OF BULK AT MOST 1048576: true; the input reads as it did. -/
def machineEndsUptoRow : OpenClaim := { program := "yteehgedabdchcaagreat", sum := "27e73bb5199b5294d90fbb6a2d56c2391541e1f068a669688092e0b0ea049bf1", func := "middenheap/middenheaplaw17.MachineEnds", spec := "machineEnds", inPlace := ["(*internal/sync.Mutex).Lock", "internal/race.Disable", "sync/atomic.CompareAndSwapInt32", "internal/race.Enable", "internal/race.Acquire", "(*internal/sync.Mutex).lockSlow", "internal/sync.runtime_canSpin", "internal/sync.runtime_doSpin", "internal/sync.throw", "internal/sync.runtime_nanotime", "internal/sync.runtime_SemacquireMutex", "sync/atomic.AddInt32", "(*internal/sync.Mutex).Unlock", "internal/race.ReleaseMerge", "(*internal/sync.Mutex).unlockSlow", "internal/sync.fatal", "internal/sync.runtime_Semrelease", "sync/atomic.LoadInt64", "sync/atomic.CompareAndSwapInt64"], unfollowed := true, recurses := true, apart := false, narrowed := true }
def MachineEndsUptoSaid : Prop := machineEndsUptoRow.holds Tryz.pinned (OpenSpec.upto machineEndsSpec)

/-- 'middenheaplaw17.MachineHistory', WHERE WHAT IT READS IS OF BULK AT MOST 1048576: true; the input reads as it did. -/
def machineHistoryUptoRow : OpenClaim := { program := "yteehgedabdchcaagreat", sum := "27e73bb5199b5294d90fbb6a2d56c2391541e1f068a669688092e0b0ea049bf1", func := "middenheap/middenheaplaw17.MachineHistory", spec := "machineHistory", inPlace := ["(*internal/sync.Mutex).Lock", "internal/race.Disable", "sync/atomic.CompareAndSwapInt32", "internal/race.Enable", "internal/race.Acquire", "(*internal/sync.Mutex).lockSlow", "internal/sync.runtime_canSpin", "internal/sync.runtime_doSpin", "internal/sync.throw", "internal/sync.runtime_nanotime", "internal/sync.runtime_SemacquireMutex", "sync/atomic.AddInt32", "(*internal/sync.Mutex).Unlock", "internal/race.ReleaseMerge", "(*internal/sync.Mutex).unlockSlow", "internal/sync.fatal", "internal/sync.runtime_Semrelease", "sync/atomic.LoadInt64", "sync/atomic.CompareAndSwapInt64"], unfollowed := true, recurses := true, apart := false, narrowed := true }
def MachineHistoryUptoSaid : Prop := machineHistoryUptoRow.holds Tryz.pinned (OpenSpec.upto machineHistorySpec)

/-- 'middenheaplaw17.MachineNow', WHERE WHAT IT READS IS OF BULK AT MOST 1048576: true; the input reads as it did. -/
def machineNowUptoRow : OpenClaim := { program := "yteehgedabdchcaagreat", sum := "27e73bb5199b5294d90fbb6a2d56c2391541e1f068a669688092e0b0ea049bf1", func := "middenheap/middenheaplaw17.MachineNow", spec := "machineNow", inPlace := ["(*internal/sync.Mutex).Lock", "internal/race.Disable", "sync/atomic.CompareAndSwapInt32", "internal/race.Enable", "internal/race.Acquire", "(*internal/sync.Mutex).lockSlow", "internal/sync.runtime_canSpin", "internal/sync.runtime_doSpin", "internal/sync.throw", "internal/sync.runtime_nanotime", "internal/sync.runtime_SemacquireMutex", "sync/atomic.AddInt32", "(*internal/sync.Mutex).Unlock", "internal/race.ReleaseMerge", "(*internal/sync.Mutex).unlockSlow", "internal/sync.fatal", "internal/sync.runtime_Semrelease", "sync/atomic.LoadInt64", "sync/atomic.CompareAndSwapInt64"], unfollowed := true, recurses := true, apart := false, narrowed := true }
def MachineNowUptoSaid : Prop := machineNowUptoRow.holds Tryz.pinned (OpenSpec.upto machineNowSpec)

/-- 'middenheaplaw17.MachineOwn', WHERE WHAT IT READS IS OF BULK AT MOST 1048576: true; the input reads as it did. -/
def machineOwnUptoRow : OpenClaim := { program := "yteehgedabdchcaagreat", sum := "27e73bb5199b5294d90fbb6a2d56c2391541e1f068a669688092e0b0ea049bf1", func := "middenheap/middenheaplaw17.MachineOwn", spec := "machineOwn", inPlace := ["(*internal/sync.Mutex).Lock", "internal/race.Disable", "sync/atomic.CompareAndSwapInt32", "internal/race.Enable", "internal/race.Acquire", "(*internal/sync.Mutex).lockSlow", "internal/sync.runtime_canSpin", "internal/sync.runtime_doSpin", "internal/sync.throw", "internal/sync.runtime_nanotime", "internal/sync.runtime_SemacquireMutex", "sync/atomic.AddInt32", "(*internal/sync.Mutex).Unlock", "internal/race.ReleaseMerge", "(*internal/sync.Mutex).unlockSlow", "internal/sync.fatal", "internal/sync.runtime_Semrelease", "sync/atomic.LoadInt64", "sync/atomic.CompareAndSwapInt64"], unfollowed := true, recurses := true, apart := false, narrowed := true }
def MachineOwnUptoSaid : Prop := machineOwnUptoRow.holds Tryz.pinned (OpenSpec.upto machineOwnSpec)

/-- 'middenheaplaw17.MachineSame', WHERE WHAT IT READS IS OF BULK AT MOST 1048576: true; the input reads as it did. -/
def machineSameUptoRow : OpenClaim := { program := "yteehgedabdchcaagreat", sum := "27e73bb5199b5294d90fbb6a2d56c2391541e1f068a669688092e0b0ea049bf1", func := "middenheap/middenheaplaw17.MachineSame", spec := "machineSame", inPlace := ["(*internal/sync.Mutex).Lock", "internal/race.Disable", "sync/atomic.CompareAndSwapInt32", "internal/race.Enable", "internal/race.Acquire", "(*internal/sync.Mutex).lockSlow", "internal/sync.runtime_canSpin", "internal/sync.runtime_doSpin", "internal/sync.throw", "internal/sync.runtime_nanotime", "internal/sync.runtime_SemacquireMutex", "sync/atomic.AddInt32", "(*internal/sync.Mutex).Unlock", "internal/race.ReleaseMerge", "(*internal/sync.Mutex).unlockSlow", "internal/sync.fatal", "internal/sync.runtime_Semrelease", "sync/atomic.LoadInt64", "sync/atomic.CompareAndSwapInt64"], unfollowed := true, recurses := true, apart := false, narrowed := true }
def MachineSameUptoSaid : Prop := machineSameUptoRow.holds Tryz.pinned (OpenSpec.upto machineSameSpec)

/-- 'middenheaplaw19.ReplayFollows', WHERE WHAT IT READS IS OF BULK AT MOST 1048576: true; the input reads as it did. -/
def replayFollowsUptoRow : OpenClaim := { program := "yteehgedabdchcaagreat", sum := "27e73bb5199b5294d90fbb6a2d56c2391541e1f068a669688092e0b0ea049bf1", func := "middenheap/middenheaplaw19.ReplayFollows", spec := "replayFollows", inPlace := ["(*internal/sync.Mutex).Lock", "internal/race.Disable", "sync/atomic.CompareAndSwapInt32", "internal/race.Enable", "internal/race.Acquire", "(*internal/sync.Mutex).lockSlow", "internal/sync.runtime_canSpin", "internal/sync.runtime_doSpin", "internal/sync.throw", "internal/sync.runtime_nanotime", "internal/sync.runtime_SemacquireMutex", "sync/atomic.AddInt32", "(*internal/sync.Mutex).Unlock", "internal/race.ReleaseMerge", "(*internal/sync.Mutex).unlockSlow", "internal/sync.fatal", "internal/sync.runtime_Semrelease", "sync/atomic.LoadInt64", "sync/atomic.CompareAndSwapInt64"], unfollowed := true, recurses := true, apart := false, narrowed := true }
def ReplayFollowsUptoSaid : Prop := replayFollowsUptoRow.holds Tryz.pinned (OpenSpec.upto replayFollowsSpec)

/-- 'middenheaplaw19.ReplayPrefix', WHERE WHAT IT READS IS OF BULK AT MOST 1048576: true; the input reads as it did. -/
def replayPrefixUptoRow : OpenClaim := { program := "yteehgedabdchcaagreat", sum := "27e73bb5199b5294d90fbb6a2d56c2391541e1f068a669688092e0b0ea049bf1", func := "middenheap/middenheaplaw19.ReplayPrefix", spec := "replayPrefix", inPlace := ["(*internal/sync.Mutex).Lock", "internal/race.Disable", "sync/atomic.CompareAndSwapInt32", "internal/race.Enable", "internal/race.Acquire", "(*internal/sync.Mutex).lockSlow", "internal/sync.runtime_canSpin", "internal/sync.runtime_doSpin", "internal/sync.throw", "internal/sync.runtime_nanotime", "internal/sync.runtime_SemacquireMutex", "sync/atomic.AddInt32", "(*internal/sync.Mutex).Unlock", "internal/race.ReleaseMerge", "(*internal/sync.Mutex).unlockSlow", "internal/sync.fatal", "internal/sync.runtime_Semrelease", "sync/atomic.LoadInt64", "sync/atomic.CompareAndSwapInt64"], unfollowed := true, recurses := true, apart := false, narrowed := true }
def ReplayPrefixUptoSaid : Prop := replayPrefixUptoRow.holds Tryz.pinned (OpenSpec.upto replayPrefixSpec)

/-- 'middenheaplaw19.ReplayCuts', WHERE WHAT IT READS IS OF BULK AT MOST 1048576: true; the input reads as it did. -/
def replayCutsUptoRow : OpenClaim := { program := "yteehgedabdchcaagreat", sum := "27e73bb5199b5294d90fbb6a2d56c2391541e1f068a669688092e0b0ea049bf1", func := "middenheap/middenheaplaw19.ReplayCuts", spec := "replayCuts", inPlace := ["(*internal/sync.Mutex).Lock", "internal/race.Disable", "sync/atomic.CompareAndSwapInt32", "internal/race.Enable", "internal/race.Acquire", "(*internal/sync.Mutex).lockSlow", "internal/sync.runtime_canSpin", "internal/sync.runtime_doSpin", "internal/sync.throw", "internal/sync.runtime_nanotime", "internal/sync.runtime_SemacquireMutex", "sync/atomic.AddInt32", "(*internal/sync.Mutex).Unlock", "internal/race.ReleaseMerge", "(*internal/sync.Mutex).unlockSlow", "internal/sync.fatal", "internal/sync.runtime_Semrelease", "sync/atomic.LoadInt64", "sync/atomic.CompareAndSwapInt64"], unfollowed := true, recurses := true, apart := false, narrowed := true }
def ReplayCutsUptoSaid : Prop := replayCutsUptoRow.holds Tryz.pinned (OpenSpec.upto replayCutsSpec)

end Rows
end Go.Proofs.YteehgedabdchcaaGreat
