import Derived.Test.YteehgedabdchcaaGreatKbw
import Derived.Test.YteehgedabdchcaaGreatKbx
set_option linter.all false
set_option maxRecDepth 1000000
set_option maxHeartbeats 0
namespace Go.Proofs.YteehgedabdchcaaGreat
open Go.RowKit Hp
attribute [local go_sem ↓] Go.wp_at_zero Go.wp_at_succ
def MI {m:Ck}(hid:m.y.l.id=0){a b:Nat}(h0:a≠0)(h2:a≠2):¬yo m (a,b):=by unfold yo;rw[hid];simp;omega
def lT (m:Ck)(t:Tag):Prop:=yo m t\/t.1=9
structure EO (w0:World)(m:Ck)(w:World)(o:Own)(M:Mc):Prop where
 mi:BN w o m M
 ok:M.ok
 st:Stp (lT m) (fun _=>(7,0)) o w0 w
 id:m.y.l.id=0
section
variable {w0 w w' : World} {m : Ck} {o o' : Own} {M M' : Mc}
def EO.old (h:EO w0 m w o M):Below w0.1.size w0 w:=h.st.below fun _ _ e=>e.elim (MI h.id (by omega) (by omega)) (by simp)
def EO.go (h:EO w0 m w o M)(k:BN w' o' m M')(hk:M'.ok)(s:Stp (yo m) o o' w w'):EO w0 m w' o' M':=⟨k,hk,h.st.trans (s.mono fun _ h=>.inl h),h.id⟩
def EO.step (h:EO w0 m w o M)(t:Int):Calls Tryz.prog 32 #[ptr m.mb,.int .i64 t] w fun e w'=>e=.returned (.agg #[.int .i64 (M.step t).2.k,.int .i64 (M.step t).2.e,.int .i64 (M.step t).2.v])/\∃ o',EO w0 m w' o' (M.step t).1/\Stp (yo m) o o' w w':=
 (qol h.mi h.ok t).mono fun _ _⟨a,o',b,s⟩=>⟨a,o',h.go b (Mc.Fi h.ok t) s,s⟩
def EO.collect (h:EO w0 m w o M):Calls Tryz.prog 31 #[ptr m.mb] w fun e w'=>e=.returned (.bool M.collect.2)/\∃ o',EO w0 m w' o' M.collect.1/\Stp (yo m) o o' w w':=
 (qg1 h.mi h.ok).mono fun _ _⟨a,o',b,s⟩=>⟨a,o',h.go b (Mc.E1 h.ok) s,s⟩
end
def NA (n r u:Nat)(b:Int)(h1:16<=n)(h2:n<=16384)(hr:r<=200)(hu:u<=200){v:Value}{o:Own}{tg:Tag}{raw:List (List (List Pg.D))}{w:World}(hv:FT tg w o v (jr raw)) :
  Calls Tryz.prog 29 #[.int .i64 n,.int .i64 r,.int .i64 u,.int .i64 b,v] w fun e w'=>∃ m o',e=.returned (.tuple #[ptr m.mb,.int .i64 0])/\EO w m w' o' (Mc.fresh (An.fresh n (FQ raw).length r u (Ek b).toNat) (FQ raw)):=by
 refine (JU n r u b h1 h2 hr hu (VY raw) (fun _=>(7,0)) 0 w (SV hv) fun b _=>⟨by simp,by simp⟩).mono ?_
 rintro e w'⟨m,o',rfl,hid,hM,hs⟩
 exact⟨m,o',rfl,hM,Mc.Dj h1 h2 hr hu (by unfold Ek;omega) (VY raw),hs.mono fun _ h=>h.elim,hid⟩
