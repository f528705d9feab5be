import Derived.Test.YteehgedabdchcaaGreatKaa
import Derived.Conc.MuData
import Derived.Conc.MuLib
import Derived.Deep.AppendLies
import Derived.Deep.DrawnRows
import Derived.Deep.RegionHeld3
import Derived.Deep.RegionLaw
import Derived.Ground.Names2Prog
import Derived.Ground.SlgnProg
import Derived.KernelRfl
import Derived.Laws.CopyOwn
import Derived.LoopIn
import Derived.LoopNIn
import Derived.OwnWalkIn
import Derived.RangeFuncBound
import Derived.RangeFuncCalls
import Derived.RangeFuncLeaves
import Derived.RangeFuncNested
import Derived.Shelf.Abstract
import Derived.Shelf.RegionOpen
import Derived.Shelf.Slices.Clone
import Derived.Shelf.Slices.Empties
import Derived.Shelf.Slices.SearchI
import Derived.Shelf.Slices.Turned
import Derived.Shelf.SlicesE.Clone
import Derived.Shelf.Small.Wraps
import Derived.StillTailTactics
import Derived.TacticsInMore
set_option linter.all false
set_option maxRecDepth 1000000
set_option maxHeartbeats 16000000
namespace Go.Proofs.YteehgedabdchcaaGreat
open Go.Proofs
abbrev Tryz.muLink:Go.Conc.Locks.MuLink:={ lock:=148,unlock:=149,ilock:=210,iunlock:=211,lockSlow:=255,unlockSlow:=258,disable:=251,enable:=253,acquire:=254,relMerge:=256,cas32:=252,add32:=257,tMutex:=144,tIMutex:=142,tPMutex:=292,tPIMutex:=332,tPI32:=334,tUP:=336,tNoCopy:=139,tU32:=140 }
theorem Tryz.muLib:Go.Conc.Locks.MuLib Tryz.prog Tryz.muLink:=
 ⟨Tryz.func148,Tryz.func149,Tryz.func210,Tryz.func211,Tryz.func251,Tryz.func253,Tryz.func254,Tryz.func256,Tryz.func252,Tryz.func257,Tryz.underlying142,Tryz.runUnderlying142,Tryz.sizeOf142,Tryz.isAgg142,Tryz.zeroValue142,Tryz.underlying144,Tryz.runUnderlying144,Tryz.sizeOf144,Tryz.isAgg144,Tryz.zeroValue144,Tryz.underlying292,Tryz.runUnderlying292,Tryz.sizeOf292,Tryz.isAgg292,Tryz.zeroValue292,Tryz.underlying332,Tryz.runUnderlying332,Tryz.sizeOf332,Tryz.isAgg332,Tryz.zeroValue332,Tryz.underlying334,Tryz.runUnderlying334,Tryz.sizeOf334,Tryz.isAgg334,Tryz.zeroValue334,Tryz.underlying336,Tryz.runUnderlying336,Tryz.sizeOf336,Tryz.isAgg336,Tryz.zeroValue336,Tryz.underlying139,Tryz.runUnderlying139,Tryz.sizeOf139,Tryz.isAgg139,Tryz.zeroValue139,Tryz.underlying21,Tryz.runUnderlying21,Tryz.sizeOf21,Tryz.isAgg21,Tryz.zeroValue21,(by kernel_rfl)⟩
end Go.Proofs.YteehgedabdchcaaGreat
