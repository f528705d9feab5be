import Derived.Test.YteehgedabdchcaaGreatKar
import Derived.Test.YteehgedabdchcaaGreatKbd
set_option linter.all false
set_option maxRecDepth 1000000
set_option maxHeartbeats 16000000
namespace Go.Proofs.YteehgedabdchcaaGreat
open Go.RowKit Hp
theorem Bd.blocks {w:World}{v:Value}{ths:List (List (List Pg.D))}(h:Bd w v ths){t:Nat}{bs:List (List Pg.D)}(ht:ths[t]?=some bs) :
  ∃ g off cp a c,v=.slice (some ⟨g,off,none⟩) ths.length cp/\w.cell? ⟨g,off+t,none⟩=some (.slice a bs.length c)/\BM w (.slice a bs.length c) bs:=by
 obtain⟨_,vs,hl,⟨a,c,rfl,hc⟩,hd⟩:=h;obtain⟨u,hu,hb⟩:=hd t bs ht;rcases hc with e|⟨g,off,rfl,hc⟩
 ·rw[e]at hu;simp at hu
 ·have hb2:=hb
  obtain⟨_,_,_,⟨a2,c2,rfl,_⟩,_⟩:=hb2;exact⟨g,off,c,a2,c2,rfl,hc t _ hu,hb⟩
end Go.Proofs.YteehgedabdchcaaGreat
