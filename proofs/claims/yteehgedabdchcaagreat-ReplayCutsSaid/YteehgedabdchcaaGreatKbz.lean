import Derived.Test.YteehgedabdchcaaGreatKby
set_option linter.all false
set_option maxRecDepth 1000000
set_option maxHeartbeats 0
namespace Go.Proofs.YteehgedabdchcaaGreat
open Go.RowKit Hp
attribute [local go_sem ↓] Go.wp_at_zero Go.wp_at_succ
section
variable {w0 w w' : World} {m : Ck} {o o' : Own} {M M' : Mc}
def EO.Fe (h:EO w0 m w o M):Calls Tryz.prog 36 #[ptr m.mb] w fun e w'=>∃ v',e=.returned v'/\Row w' (ext o w.1.size (9,6)) (9,6) 69 6 v' M.past.length (qq M.past)/\EO w0 m w' (ext o w.1.size (9,6)) M/\Stp (yo m) o (ext o w.1.size (9,6)) w w':=by
 have he:∀ b,b<w.1.size->ext o w.1.size (9,6) b=o b:=fun b hb=>qr hb
 refine (qhg (h.mi.retag he) h.ok.pl).mono ?_
 rintro e w'⟨v',rfl,hr,hM,hs⟩
 have s:Stp (yo m) o (ext o w.1.size (9,6)) w w':=⟨hs.os,hs.tape,hs.output,hs.size,fun b hb=>he b hb,fun k hk hn=>hs.block k hk fun e=>hn (by rw[he k hk]at e;rw[e];exact .inr rfl)⟩
 exact⟨v',rfl,hr.out o (9,6),h.go hM h.ok s,s⟩
