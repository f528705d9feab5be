import Derived.Test.YteehgedabdchcaaGreatQau
import Derived.Defers
import Derived.Laws.CopyRow
import Derived.Shelf.Spec.SlicesGrow
import Derived.Sort.CutIn
import Derived.Stop.RegionWithIn
set_option linter.all false
set_option maxRecDepth 1000000
set_option maxHeartbeats 16000000
namespace Go.Proofs.YteehgedabdchcaaGreat
open Go.RowKit Hp
attribute [local go_sem ↓] Go.wp_at_zero Go.wp_at_succ
section
variable {w w' : World} {o o' : Own} {y : SLay} {S : Stt} {i : Nat}
theorem at_shape {l:HLay}{H:Hp}(h:HpAt w o l H)(hk:H.ok)(p:Nat) :
  Calls Tryz.prog 69 #[ptr l.h,.int .i64 p] w fun e w'=>∃ (sp sd:Nat)(wk fn:Bool)(er:Int),e=.returned (.tuple #[.agg #[.int .i64 sp,.int .i64 sd,.bool wk,.bool fn],.bool (H.freedAt p),.int .i64 er])∧Below w.heap.size w w':=by
 obtain⟨vc,vo,vw,vf,f,hh⟩:=h;unfold Hp.freedAt
 cases hp:lk H.cur p with
 | none =>
  refine (hshape_no hh hk hp).mono ?_
  rintro e w'⟨rfl,hb⟩
  exact⟨0,0,false,false,_,rfl,hb⟩
 | some ob =>
  refine (hshape_in hh hk hp).mono ?_
  rintro e w'⟨rfl,hb⟩
  exact⟨_,_,_,_,_,rfl,hb⟩
theorem at_serial {l:HLay}{H:Hp}(h:HpAt w o l H)(hk:H.ok)(p:Nat) :
  Calls Tryz.prog 70 #[ptr l.h,.int .i64 p] w fun e w'=>e=.returned (.tuple #[.int .i64 ((H.serR p).1:Nat),.int .i64 ((H.serR p).2:Nat)])∧Below w.heap.size w w':=by
 obtain⟨vc,vo,vw,vf,f,hh⟩:=h;unfold Hp.serR
 cases hp:lk H.cur p with
 | none=>exact hserial_no hh hk hp
 | some ob=>exact hserial_in hh hk hp
def Stt.cyc (S:Stt):Stt:={ S with H:=(cyc1 S.H S.ph [] []).1,ph:=(cyc1 S.H S.ph [] []).2.1 }
def Stt.rdy (S:Stt):List Nat:=(cyc1 S.H S.ph [] []).2.2.1
def Stt.lst (S:Stt):List Nat:=(cyc1 S.H S.ph [] []).2.2.2.1
theorem cycR_eq (S:Stt):S.cycR=({ S.cyc with lost:=S.lost++S.lst },S.rdy,(cyc1 S.H S.ph [] []).2.2.2.2):=by
 unfold Stt.cycR Stt.cyc Stt.rdy Stt.lst cyc1;by_cases h0:S.ph=0
 ·simp only[h0,if_true,List.append_nil]
  obtain⟨⟩:=S;simp only at h0;subst h0;rfl
 ·simp only[h0,if_false]
  by_cases h1:S.H.scan1.2=true
  ·simp only[h1,if_true,List.append_nil];rfl
  ·have h1f:S.H.scan1.2=false:=by simpa using h1
   simp only[h1f,Bool.false_eq_true,if_false];by_cases h2:S.ph=1
   ·simp only[h2,if_true,List.append_nil,List.nil_append]
   ·simp only[h2,if_false,List.nil_append]
theorem ready1_lost (S:Stt)(l:List Nat)(p:Nat):({ S with lost:=l }:Stt).ready1 p={ S.ready1 p with lost:=l }:=by
 unfold Stt.ready1;by_cases h:S.H.freedAt p=true∨100≤S.queue.length
 ·simp only[if_pos h]
 ·simp only[if_neg h]
theorem readyL_lost:∀ (ps:List Nat)(S:Stt)(l:List Nat),({ S with lost:=l }:Stt).readyL ps={ S.readyL ps with lost:=l }
 | [],S,l=>rfl
 | p::ps,S,l=>by
  show (({ S with lost:=l }:Stt).ready1 p).readyL ps={ (S.ready1 p).readyL ps with lost:=l };rw[ready1_lost,readyL_lost ps]
theorem stepR_eq (S:Stt):S.stepR=({ S.cyc.readyL S.rdy with lost:=S.lost++S.lst },(cyc1 S.H S.ph [] []).2.2.2.2):=by
 unfold Stt.stepR;rw[cycR_eq];simp only;rw[readyL_lost]
end
end Go.Proofs.YteehgedabdchcaaGreat
