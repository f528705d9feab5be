import Derived.Test.YteehgedabdchcaaGreatKbt
set_option linter.all false
set_option maxRecDepth 1000000
set_option maxHeartbeats 16000000
namespace Go.Proofs.YteehgedabdchcaaGreat
open Go.RowKit Hp
attribute [local go_sem ↓] Go.wp_at_zero Go.wp_at_succ
section
variable {w0 w w' : World} {m : BZ} {o o' : Own} {M M' : Mc}
theorem DT.L3 (h:DT w0 m w o M):Calls Tryz.prog 36 #[ptr m.mb] w fun e w'=>∃ v',e=.returned v'/\Row w' (ext o w.heap.size (9,6)) (9,6) 69 6 v' M.past.length (zc M.past)/\DT w0 m w' (ext o w.heap.size (9,6)) M/\Stp (kv m) o (ext o w.heap.size (9,6)) w w':=by
 have he:∀ b,b<w.heap.size->ext o w.heap.size (9,6) b=o b:=fun b hb=>qj hb
 refine (tw (h.mi.retag he) h.ok.pl).mono ?_
 rintro e w'⟨v',rfl,hr,hM,hs⟩
 have s:Stp (kv m) o (ext o w.heap.size (9,6)) w w':=⟨hs.os,hs.tape,hs.output,hs.size,fun b hb=>he b hb,fun k hk hn=>hs.block k hk fun e=>hn (by rw[he k hk]at e;rw[e];exact .inr rfl)⟩
 exact⟨v',rfl,hr.out o (9,6),h.go hM h.ok s,s⟩
theorem Mc.CF {t:Nat}(ht:t<M.hs.length):(M.BO (t:Int)).2=true/\(M.BO (t:Int)).1.b=(M.h t).b/\(M.BO (t:Int)).1.n=(M.h t).n:=by
 unfold Mc.BO;rw[if_neg (by omega),Int.toNat_natCast]
 exact⟨rfl,rfl,rfl⟩
theorem DT.BO (h:DT w0 m w o M)(t:Int):Calls Tryz.prog 33 #[ptr m.mb,.int .i64 t] w fun e w'=>e=.returned (.tuple #[(M.BO t).1.v,.bool (M.BO t).2])/\Below w.heap.size w w':=U7 h.mi h.ok t
end
end Go.Proofs.YteehgedabdchcaaGreat
