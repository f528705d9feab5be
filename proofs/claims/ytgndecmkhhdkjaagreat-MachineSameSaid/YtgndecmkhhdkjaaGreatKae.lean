import Derived.Test.YtgndecmkhhdkjaaGreatKaa
import Derived.Ground.Names2Prog
import Derived.Ground.SlgnProg
import Derived.Shelf.Slices.Clone
import Derived.Shelf.Slices.Empties
import Derived.Shelf.Slices.SearchI
import Derived.Shelf.Slices.Turned
import Derived.Shelf.SlicesE.Clone
import Derived.Shelf.Small.Wraps
set_option linter.all false
set_option maxRecDepth 1000000
set_option maxHeartbeats 0
open Go.Proofs.Tryz
open Go.Proofs.Tryz renaming prog->ANa
namespace Go.Proofs
open Go.Shelf
open Go.RowKit in
open Go.Lib in
open Go.Lib in
def Tryz.lays107_ren:Go.Shelf.Ren:=⟨fun|107=>231|108=>244|n=>n,fun|28=>23|3=>3|4=>4|0=>0|n=>n,fun|n=>n⟩
def Tryz.lays107:Go.Proofs.Lays.n107 ANa Tryz.lays107_ren:={
 mixed:=by kernel_rfl
 f107:=func231.trans (congrArg some (by kernel_rfl))
 f108:=func244.trans (congrArg some (by kernel_rfl))
 t0:=underlying0
 a0:=isAgg0
 z0:=sizeOf0
 v0:=zeroValue0
 t3:=underlying3
 a3:=isAgg3
 z3:=sizeOf3
 v3:=zeroValue3
 t4:=underlying4
 a4:=isAgg4
 z4:=sizeOf4
 v4:=zeroValue4
 t28:=underlying23
 a28:=isAgg23
 z28:=sizeOf23
 v28:=zeroValue23 }
open Go.Lib in
def Tryz.slices_Contains_int (b off n c:Nat)(zs:List Int)(x:Int)(w:World)(hz:n<=zs.length)(hbig:n<=9223372036854775807)(hc:∀ j,j<zs.length->w.cell? ⟨b,off+j,none⟩=some (.int .i64 (zs.getD j 0))) :
  Calls ANa 231 #[.slice (some ⟨b,off,none⟩) n c,.int .i64 x] w fun e w'=>e=.returned (.bool ((zs.take n).contains x))/\w'=w:=Any.slices_Contains_int Tryz.lays107 b off n c zs x w hz hbig hc
open Go.Lib in
def Tryz.slices_Contains_int_empty (a:Option Addr)(c:Nat)(x:Int)(w:World) :
  Calls ANa 231 #[.slice a 0 c,.int .i64 x] w fun e w'=>e=.returned (.bool false)/\w'=w:=Any.slices_Contains_int_empty Tryz.lays107 a c x w
open Go.RowKit Go.Lib in
open Go.RowKit Go.Lib in
open Go.RowKit Go.Lib in
open Go.RowKit Go.Lib in
open Go.RowKit Go.Lib in
open Go.RowKit Go.Lib in
def Tryz.laysNm225_ren:Go.Shelf.Ren:=⟨fun|25=>73|31=>116|32=>117|37=>182|n=>n,fun|22=>23|3=>3|4=>4|40=>189|0=>0|n=>n,fun|n=>n⟩
def Tryz.laysNm225:Go.Proofs.Lays2.n25 ANa Tryz.laysNm225_ren:={
 mixed:=by kernel_rfl
 f25:=func73.trans (congrArg some (by kernel_rfl))
 f31:=func116.trans (congrArg some (by kernel_rfl))
 f32:=func117.trans (congrArg some (by kernel_rfl))
 f37:=func182.trans (congrArg some (by kernel_rfl))
 t0:=underlying0
 a0:=isAgg0
 z0:=sizeOf0
 v0:=zeroValue0
 t3:=underlying3
 a3:=isAgg3
 z3:=sizeOf3
 v3:=zeroValue3
 t4:=underlying4
 a4:=isAgg4
 z4:=sizeOf4
 v4:=zeroValue4
 t22:=underlying23
 a22:=isAgg23
 z22:=sizeOf23
 v22:=zeroValue23
 t40:=underlying189
 a40:=isAgg189
 z40:=sizeOf189
 v40:=zeroValue189 }
open Go.RowKit Go.Lib in
def Tryz.slices_BinarySearch_int (b off n c:Nat)(zs:List Int)(x:Int)(w:World)(hz:n<=zs.length)(hbig:n<4611686018427387904)(hc:∀ j,j<zs.length->w.cell? ⟨b,off+j,none⟩=some (.int .i64 (zs.getD j 0)))(hs:(zs.take n).Pairwise (·<=·)) :
  Calls ANa 73 #[.slice (some ⟨b,off,none⟩) n c,.int .i64 x] w fun e w'=>e=.returned (.tuple #[.int .i64 ((zs.take n).countP (·<x):Nat),.bool ((zs.take n).contains x)])/\∃ q,w'=w.drewN q:=Any.slices_BinarySearch_int Tryz.laysNm225 b off n c zs x w hz hbig hc hs
open Go.RowKit Go.Lib in
def Tryz.slices_BinarySearch_int_empty (a:Option Addr)(c:Nat)(x:Int)(w:World) :
  Calls ANa 73 #[.slice a 0 c,.int .i64 x] w fun e w'=>e=.returned (.tuple #[.int .i64 0,false])/\w'=w:=Any.slices_BinarySearch_int_empty Tryz.laysNm225 a c x w
def Tryz.laysSlE041_f63_ren:Go.Shelf.Ren:=⟨fun|41=>49|n=>n,fun|22=>23|23=>3|4=>4|n=>n,fun|n=>n⟩
def Tryz.laysSlE041_f63:Go.Proofs.SlLaysE0.n41 ANa Tryz.laysSlE041_f63_ren:={
 mixed:=by kernel_rfl
 f41:=⟨Tryz.f49.name,by decide,func49.trans (congrArg some (by kernel_rfl))⟩
 t4:=underlying4
 a4:=isAgg4
 z4:=sizeOf4
 v4:=zeroValue4
 t22:=underlying23
 a22:=isAgg23
 z22:=sizeOf23
 v22:=zeroValue23 }
open Go.RowKit Go.Lib in
def Tryz.slices_Clone (i0:TypeInfo)(z:Value)(size bytes:Nat)(hi:ANa.info? 3=some i0)(hz0:i0.zero=some z)(hz1:i0.size=size)(hz2:i0.bytes=bytes)(hzs:z.cells.size=size)(hsz:0<size)(z23:∀ w,(Go.sizeOf 3).run ANa w=.ok size w)(b off n c:Nat)(news:List Value)(w:World)(hl:news.length=n*size)(hn:n<=maxLen)(hbig:n*bytes<=140737488355328)(hc:∀ j u,news[j]?=some u->w.cell? ⟨b,off+j,none⟩=some u)(h1:∀ u ∈ news,u.oneCell'=true) :
  Calls ANa 49 #[.slice (some ⟨b,off,none⟩) n c] w fun e w'=>∃ v',e=.returned v'/\w'.ownsRow w 3 size v' n news/\v'≠.slice none 0 0/\Below w w w':=AnyE.slices_Clone Tryz.laysSlE041_f63 i0 z size bytes hi hz0 hz1 hz2 hzs hsz z23 b off n c news w hl hn hbig hc h1
open Go.RowKit Go.Lib in
def Tryz.slices_Clone_nil (n c:Nat)(w:World) :
  Calls ANa 49 #[.slice none n c] w fun e w'=>e=.returned (.slice none 0 0)/\w'=w:=AnyE.slices_Clone_nil Tryz.laysSlE041_f63 n c w
end Go.Proofs
