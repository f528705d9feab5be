import Derived.Test.YteehgedabdchcaaGreatQad
import Derived.Below
import Derived.Carry
import Derived.ChangeArms
import Derived.ChangeSame
import Derived.ChangeSlices
import Derived.Conc.MuData
import Derived.Conc.MuLib
import Derived.Conc.MuLone
import Derived.Deep.DeepHandedRow
import Derived.Deep.Fields
import Derived.Deep.RegionLaw
import Derived.Deep.Slices
import Derived.Defers
import Derived.KernelRfl
import Derived.Laws.CopyOwn
import Derived.Laws.CopyRow
import Derived.Laws.IdiomCopy
import Derived.Laws.MakeOwn
import Derived.Laws.OwnMore
import Derived.Lib.AtoiAll
import Derived.Lib.ItoaNum
import Derived.Lib.Split
import Derived.OpenShut
import Derived.ProofKit
import Derived.Shelf.Spec.SlicesGrow
import Derived.Sort.CutIn
import Derived.StillTailTactics
import Derived.Stop.RegionWithIn
set_option linter.all false
set_option maxRecDepth 1000000
set_option maxHeartbeats 16000000
namespace Go.Proofs.YteehgedabdchcaaGreat
open Go.RowKit Hp Go.ChangeShapes Go.WideShapes Go.Deep Go.ChangeAt
theorem cell_in {w:World}{b o:Nat}{v:Value}(h:w.cell? ⟨b,o,none⟩=some v):b<w.heap.size:=by
 unfold World.cell? at h;split at h
 ·rename_i h';exact (Array.getElem?_eq_some_iff.1 h').1
 ·cases h
theorem laidOut:laidOutB Tryz.prog=true:=by kernel_rfl
theorem below_all {H:Type}{enc:TypeId×Value→H}{W W':World}(hb:Below W.heap.size W W'):∀ (ts:List TypeId),(∀ t ∈ ts,Tryz.prog.readableRec t=true∧t<Tryz.prog.types.size) →
  ∀ (vs:List Value)(ds:List (DataW H))(ps:List MemPlace),DataW.TrodAll enc Tryz.prog W 0 (fun _=>true) true ts vs ds ps →
  (∃ qs,DataW.TrodAll enc Tryz.prog W' 0 (fun b=>decide (b<W.heap.size)) true ts vs ds qs∧qs=ps):=by
 intro ts;induction ts with
 | nil =>
  intro _ vs ds ps h
  cases vs with
  | cons v vs=>exact absurd h (by intro h;cases h)
  | nil =>
   obtain⟨rfl,rfl⟩:ds=[]∧ps=[]:=by
    have:=trodAll_nil h;simp_all
   exact⟨_,trodAll_mk0,rfl⟩
 | cons t ts ih =>
  intro hh vs ds ps h;obtain⟨v0,vs0,d0,ds0,p0,q0,rfl,rfl,rfl,h0,r0⟩:=trodAll_cons h;obtain⟨hr,hsz⟩:=hh t (.head _);have lt0:∀ x ∈ p0,x.block<W.heap.size:=by obtain⟨m,hm⟩:=h0;exact DataW.trod_lt m _ _ _ hm
  obtain⟨qs,hq,rfl⟩:=ih (fun u hu=>hh u (.tail _ hu)) _ _ _ r0
  exact⟨_,trodAll_cons_mk (Below.trod laidOut hr hsz h0 hb lt0) hq,rfl⟩
end Go.Proofs.YteehgedabdchcaaGreat
