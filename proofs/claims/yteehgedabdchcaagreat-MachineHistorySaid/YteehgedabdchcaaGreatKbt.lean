import Derived.Test.YteehgedabdchcaaGreatKbq
import Derived.Test.YteehgedabdchcaaGreatKbs
set_option linter.all false
set_option maxRecDepth 1000000
set_option maxHeartbeats 16000000
namespace Go.Proofs.YteehgedabdchcaaGreat
open Go.RowKit Hp
attribute [local go_sem ↓] Go.wp_at_zero Go.wp_at_succ
theorem rq {m:MLay}(hid:m.y.l.id=0){a b:Nat}(h0:a≠0)(h2:a≠2):¬jh m (a,b):=by unfold jh;rw[hid];simp;omega
def lT (m:MLay)(t:Tag):Prop:=jh m t∨t.1=9
structure Run (w0:World)(m:MLay)(w:World)(o:Own)(M:Mc):Prop where
 mi:MIn w o m M
 ok:M.ok
 st:Stp (lT m) (fun _=>(7,0)) o w0 w
 id:m.y.l.id=0
section
variable {w0 w w' : World} {m : MLay} {o o' : Own} {M M' : Mc}
theorem Run.old (h:Run w0 m w o M):Below w0.heap.size w0 w:=h.st.below fun _ _ e=>e.elim (rq h.id (by omega) (by omega)) (by simp)
theorem Run.below (h:Run w0 m w o M)(k:Below w.heap.size w w'):Run w0 m w' o M:=⟨h.mi.below k,h.ok,h.st.trans (Stp.of_below k),h.id⟩
theorem Run.go (h:Run w0 m w o M)(k:MIn w' o' m M')(hk:M'.ok)(s:Stp (jh m) o o' w w'):Run w0 m w' o' M':=⟨k,hk,h.st.trans (s.mono fun _ h=>.inl h),h.id⟩
theorem Run.own (h:Run w0 m w o M)(s:Stp (fun t=>t.1=9) o o' w w'):Run w0 m w' o' M:=⟨h.mi.stp s (fun _ e=>by rw[h.id]at e;simp at e) (fun _ e=>by rw[h.id]at e;simp at e),h.ok,h.st.trans (s.mono fun _ h=>.inr h),h.id⟩
theorem Run.low (h:Run w0 m w o M)(s:Stp (fun _=>False) o o' w w'):Run w0 m w' o' M:=h.own (s.mono fun _ h=>h.elim)
theorem Run.step (h:Run w0 m w o M)(t:Int):Calls Tryz.prog 32 #[ptr m.mb,.int .i64 t] w fun e w'=>e=.returned (.agg #[.int .i64 (M.step t).2.k,.int .i64 (M.step t).2.e,.int .i64 (M.step t).2.v])∧∃ o',Run w0 m w' o' (M.step t).1∧Stp (jh m) o o' w w':=
 (xh h.mi h.ok t).mono fun _ _⟨a,o',b,s⟩=>⟨a,o',h.go b (Mc.ok_step h.ok t) s,s⟩
theorem Run.collect (h:Run w0 m w o M):Calls Tryz.prog 31 #[ptr m.mb] w fun e w'=>e=.returned (.bool M.collect.2)∧∃ o',Run w0 m w' o' M.collect.1∧Stp (jh m) o o' w w':=
 (nj h.mi h.ok).mono fun _ _⟨a,o',b,s⟩=>⟨a,o',h.go b (Mc.ok_collect h.ok) s,s⟩
theorem Run.now (h:Run w0 m w o M):Calls Tryz.prog 38 #[ptr m.mb] w fun e w'=>e=.returned (.int .i64 M.S.now)∧w=w':=by
 obtain⟨_,jb,_⟩:=h.mi.blk;exact qhk h.mi.st h.ok.inv (jb.cell 0)
theorem Mc.now_le (hk:M.ok):M.S.now≤1099511627776:=Nat.le_trans hk.inv.n1 hk.inv.n2
end
theorem qkv (n r u:Nat)(b:Int)(h1:16≤n)(h2:n≤16384)(hr:r≤200)(hu:u≤200){v:Value}{o:Own}{tg:Tag}{raw:List (List (List Pg.D))}{w:World}(hv:FT tg w o v (kf raw)) :
  Calls Tryz.prog 29 #[.int .i64 n,.int .i64 r,.int .i64 u,.int .i64 b,v] w fun e w'=>∃ m o',e=.returned (.tuple #[ptr m.mb,.int .i64 0])∧Run w m w' o' (Mc.fresh (Stt.fresh n (mm raw).length r u (bnd b).toNat) (mm raw)):=by
 refine (tb n r u b h1 h2 hr hu (lc raw) (fun _=>(7,0)) 0 w (rt_of hv) fun b _=>⟨by simp,by simp⟩).mono ?_
 rintro e w'⟨m,o',rfl,hid,hM,hs⟩
 exact⟨m,o',rfl,hM,Mc.fresh_ok h1 h2 hr hu (by unfold bnd;omega) (lc raw),hs.mono fun _ h=>h.elim,hid⟩
end Go.Proofs.YteehgedabdchcaaGreat
