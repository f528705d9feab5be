import Derived.Test.YteehgedabdchcaaGreatKan
import Derived.Defers
import Derived.Laws.CopyRow
import Derived.Shelf.Spec.SlicesGrow
import Derived.Sort.CutIn
import Derived.Stop.RegionWithIn
set_option linter.all false
set_option maxRecDepth 1000000
set_option maxHeartbeats 16000000
namespace Go.Proofs.YteehgedabdchcaaGreat
open Go.RowKit Hp
attribute [local go_sem ↓] Go.wp_at_zero Go.wp_at_succ
section
variable {w w' : World} {o o' : Own} {y : A3} {S : Al} {i : Nat}
theorem GY {l:Ba}{H:Hp}(h:Bu w o l H)(hk:H.ok)(p:Nat) :
  Calls Tryz.prog 69 #[ptr l.h,.int .i64 p] w fun e w'=>∃ (sp sd:Nat)(wk fn:Bool)(er:Int),e=.returned (.tuple #[.agg #[.int .i64 sp,.int .i64 sd,.bool wk,.bool fn],.bool (H.Du p),.int .i64 er])/\Below w.heap.size w w':=by
 obtain⟨vc,vo,vw,vf,f,hh⟩:=h;unfold Hp.Du
 cases hp:lk H.cur p with
 | none =>
  refine (T5 hh hk hp).mono ?_
  rintro e w'⟨rfl,hb⟩
  exact⟨0,0,false,false,_,rfl,hb⟩
 | some ob =>
  refine (RG hh hk hp).mono ?_
  rintro e w'⟨rfl,hb⟩
  exact⟨_,_,_,_,_,rfl,hb⟩
theorem Yp {l:Ba}{H:Hp}(h:Bu w o l H)(hk:H.ok)(p:Nat) :
  Calls Tryz.prog 70 #[ptr l.h,.int .i64 p] w fun e w'=>e=.returned (.tuple #[.int .i64 ((H.Da p).1:Nat),.int .i64 ((H.Da p).2:Nat)])/\Below w.heap.size w w':=by
 obtain⟨vc,vo,vw,vf,f,hh⟩:=h;unfold Hp.Da
 cases hp:lk H.cur p with
 | none=>exact UR hh hk hp
 | some ob=>exact Tq hh hk hp
def Al.ER (S:Al):Al:={ S with H:=(yu S.H S.ph [] []).1,ph:=(yu S.H S.ph [] []).2.1 }
def Al.MQ (S:Al):List Nat:=(yu S.H S.ph [] []).2.2.1
def Al.G6 (S:Al):List Nat:=(yu S.H S.ph [] []).2.2.2.1
theorem Vw (S:Al):S.B4=({ S.ER with lost:=S.lost++S.G6 },S.MQ,(yu S.H S.ph [] []).2.2.2.2):=by
 unfold Al.B4 Al.ER Al.MQ Al.G6 yu;by_cases h0:S.ph=0
 ·simp only[h0,if_true,List.append_nil]
  obtain⟨⟩:=S;simp only at h0;subst h0;rfl
 ·simp only[h0,if_false]
  by_cases h1:S.H.A8.2=true
  ·simp only[h1,if_true,List.append_nil];rfl
  ·have h1f:S.H.A8.2=false:=by simpa using h1
   simp only[h1f,Bool.false_eq_true,if_false];by_cases h2:S.ph=1
   ·simp only[h2,if_true,List.append_nil,List.nil_append]
   ·simp only[h2,if_false,List.nil_append]
theorem Xm (S:Al)(l:List Nat)(p:Nat):({ S with lost:=l }:Al).AW p={ S.AW p with lost:=l }:=by
 unfold Al.AW;by_cases h:S.H.Du p=true\/100<=S.queue.length
 ·simp only[if_pos h]
 ·simp only[if_neg h]
theorem Uy:∀ (ps:List Nat)(S:Al)(l:List Nat),({ S with lost:=l }:Al).A0 ps={ S.A0 ps with lost:=l }
 | [],S,l=>rfl
 | p::ps,S,l=>by
  show (({ S with lost:=l }:Al).AW p).A0 ps={ (S.AW p).A0 ps with lost:=l };rw[Xm,Uy ps]
theorem Q0 (S:Al):S.Bg=({ S.ER.A0 S.MQ with lost:=S.lost++S.G6 },(yu S.H S.ph [] []).2.2.2.2):=by
 unfold Al.Bg;rw[Vw];simp only;rw[Uy]
end
end Go.Proofs.YteehgedabdchcaaGreat
