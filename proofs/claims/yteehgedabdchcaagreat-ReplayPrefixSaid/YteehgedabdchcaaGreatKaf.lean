import Derived.Test.YteehgedabdchcaaGreatKaa
import Derived.Conc.MuData
import Derived.Conc.MuLib
import Derived.Deep.AppendLies
import Derived.Deep.DrawnRows
import Derived.Deep.RegionHeld3
import Derived.Deep.RegionLaw
import Derived.Ground.Names2Prog
import Derived.Ground.SlgnProg
import Derived.KernelRfl
import Derived.Laws.CopyOwn
import Derived.LoopIn
import Derived.LoopNIn
import Derived.OwnWalkIn
import Derived.RangeFuncBound
import Derived.RangeFuncCalls
import Derived.RangeFuncLeaves
import Derived.RangeFuncNested
import Derived.Shelf.Abstract
import Derived.Shelf.RegionOpen
import Derived.Shelf.Slices.Clone
import Derived.Shelf.Slices.Empties
import Derived.Shelf.Slices.SearchI
import Derived.Shelf.Slices.Turned
import Derived.Shelf.SlicesE.Clone
import Derived.Shelf.Small.Wraps
import Derived.StillTailTactics
import Derived.TacticsInMore
set_option linter.all false
set_option maxRecDepth 1000000
set_option maxHeartbeats 0
open Go.Proofs.Tryz
namespace Go.Proofs.YteehgedabdchcaaGreat
open Go.Proofs
abbrev Tryz.muLink:Go.Conc.Locks.MuLink:={ lock:=148,unlock:=149,ilock:=210,iunlock:=211,lockSlow:=255,unlockSlow:=258,disable:=251,enable:=253,acquire:=254,relMerge:=256,cas32:=252,add32:=257,tMutex:=144,tIMutex:=142,tPMutex:=292,tPIMutex:=332,tPI32:=334,tUP:=336,tNoCopy:=139,tU32:=140 }
def Tryz.muLib:Go.Conc.Locks.MuLib Tryz.prog Tryz.muLink:=
 ⟨func148,func149,func210,func211,func251,func253,func254,func256,func252,func257,underlying142,Tryz.runUnderlying142,sizeOf142,isAgg142,zeroValue142,underlying144,Tryz.runUnderlying144,sizeOf144,isAgg144,zeroValue144,underlying292,Tryz.runUnderlying292,sizeOf292,isAgg292,zeroValue292,underlying332,Tryz.runUnderlying332,sizeOf332,isAgg332,zeroValue332,underlying334,Tryz.runUnderlying334,sizeOf334,isAgg334,zeroValue334,underlying336,Tryz.runUnderlying336,sizeOf336,isAgg336,zeroValue336,underlying139,Tryz.runUnderlying139,sizeOf139,isAgg139,zeroValue139,underlying21,Tryz.runUnderlying21,sizeOf21,isAgg21,zeroValue21,(by kernel_rfl)⟩
