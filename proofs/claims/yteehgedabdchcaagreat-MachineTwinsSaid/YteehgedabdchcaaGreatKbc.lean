import Derived.Test.YteehgedabdchcaaGreatKaz
import Derived.Test.YteehgedabdchcaaGreatKbb
set_option linter.all false
set_option maxRecDepth 1000000
set_option maxHeartbeats 0
open Go.Proofs.Tryz renaming prog->AId
namespace Go.Proofs.YteehgedabdchcaaGreat
open Go.RowKit Hp
attribute [local go_sem ↓] Go.wp_at_zero Go.wp_at_succ
def WU (o:Own):∀ n:Nat,∃ id,20<=id/\∀ b,b<n->(o b).1<id
 | 0=>⟨20,Qk _,fun b hb=>by omega⟩
 | n+1=>by
  obtain⟨id,h1,h2⟩:=WU o n;refine⟨id+(o n).1+1,by omega,fun b hb=>?_⟩
  by_cases h:b<n
  ·have:=h2 b h;omega
  ·rw[show b=n from by omega];omega
def oS (n:Nat):Own:=fun b=>if b<n then (7,0) else (9,0)
structure Dl (n0:Nat)(w0:World)(ma mb:Co)(w:World)(o:Own)(A B:Mc):Prop where
 a:BL w o ma A
 b:BL w o mb B
 ak:A.ok
 bk:B.ok
 st:Stp (fun t=>kf ma t\/kf mb t\/t.1=9) (oS n0) o w0 w
 ia:ma.y.l.id=0
 ib:20<=mb.y.l.id
section
variable {n0 : Nat} {w0 w w' : World} {ma mb : Co} {o o' : Own} {A B A' B' : Mc}
def Dl.old (h:Dl n0 w0 ma mb w o A B)(hn:n0<=w0.1.size):Below n0 w0 w:=
 ⟨h.st.os,h.st.tape,h.st.output,h.st.size,fun k hk=>h.st.block k (by omega) (by
  unfold oS;rw[if_pos hk];unfold kf;rw[h.ia];have:=h.ib;rintro (e|e|e)
  ·simp at e
  ·simp at e;omega
  ·simp at e)⟩
def Dl.own (h:Dl n0 w0 ma mb w o A B)(s:Stp (fun t=>t.1=9) o o' w w'):Dl n0 w0 ma mb w' o' A B:=
 have i1:=h.ib
 ⟨h.a.Ar s (fun _ e=>by rw[h.ia]at e;simp at e<;>omega) (fun _ e=>by rw[h.ia]at e;simp at e<;>omega),h.b.Ar s (fun _ e=>by simp at e<;>omega) (fun _ e=>by simp at e<;>omega),h.ak,h.bk,h.st.trans (s.mono fun _ h=>.inr (.inr h)),h.ia,h.ib⟩
def Dl.below (h:Dl n0 w0 ma mb w o A B)(k:Below w.1.size w w'):Dl n0 w0 ma mb w' o A B:=h.own (Stp.of_below k)
def Dl.ga (h:Dl n0 w0 ma mb w o A B)(k:BL w' o' ma A')(hk:A'.ok)(s:Stp (kf ma) o o' w w'):Dl n0 w0 ma mb w' o' A' B:=
 have i1:=h.ib
 ⟨k,h.b.Ar s (fun _ e=>by unfold kf at e;rw[h.ia]at e;simp at e<;>omega) (fun _ e=>by unfold kf at e;rw[h.ia]at e;simp at e<;>omega),hk,h.bk,h.st.trans (s.mono fun _ h=>.inl h),h.ia,h.ib⟩
def Dl.gb (h:Dl n0 w0 ma mb w o A B)(k:BL w' o' mb B')(hk:B'.ok)(s:Stp (kf mb) o o' w w'):Dl n0 w0 ma mb w' o' A B':=
 have i1:=h.ib
 ⟨h.a.Ar s (fun _ e=>by unfold kf at e;rw[h.ia]at e;simp at e<;>omega) (fun _ e=>by unfold kf at e;rw[h.ia]at e;simp at e<;>omega),k,h.ak,hk,h.st.trans (s.mono fun _ h=>.inr (.inl h)),h.ia,h.ib⟩
def Dl.DN (h:Dl n0 w0 ma mb w o A B)(t:Int):Calls AId 32 #[ptr ma.mb,.int .i64 t] w fun e w'=>e=.returned (.agg #[.int .i64 (A.step t).2.k,.int .i64 (A.step t).2.e,.int .i64 (A.step t).2.v])/\∃ o',Dl n0 w0 ma mb w' o' (A.step t).1 B/\Stp (kf ma) o o' w w':=
 (y7 h.a h.ak t).mono fun _ _⟨a,o',b,s⟩=>⟨a,o',h.ga b (Mc.EZ h.ak t) s,s⟩
def Dl.Rk (h:Dl n0 w0 ma mb w o A B)(t:Int):Calls AId 32 #[ptr mb.mb,.int .i64 t] w fun e w'=>e=.returned (.agg #[.int .i64 (B.step t).2.k,.int .i64 (B.step t).2.e,.int .i64 (B.step t).2.v])/\∃ o',Dl n0 w0 ma mb w' o' A (B.step t).1/\Stp (kf mb) o o' w w':=
 (y7 h.b h.bk t).mono fun _ _⟨a,o',b,s⟩=>⟨a,o',h.gb b (Mc.EZ h.bk t) s,s⟩
def Dl.G7 (h:Dl n0 w0 ma mb w o A B):Calls AId 31 #[ptr ma.mb] w fun e w'=>e=.returned (.bool A.collect.2)/\∃ o',Dl n0 w0 ma mb w' o' A.collect.1 B/\Stp (kf ma) o o' w w':=
 (UN h.a h.ak).mono fun _ _⟨a,o',b,s⟩=>⟨a,o',h.ga b (Mc.DO h.ak) s,s⟩
def Xs {m:Co}{M:Mc}(h:BL w o m M)(hk:M.ok):Calls AId 36 #[ptr m.mb] w fun e w'=>∃ v',e=.returned v'/\Row w' (ext o w.1.size (9,6)) (9,6) 69 6 v' M.past.length (qw M.past)/\BL w' (ext o w.1.size (9,6)) m M/\Stp (kf m) o (ext o w.1.size (9,6)) w w':=by
 have he:∀ b,b<w.1.size->ext o w.1.size (9,6) b=o b:=fun b hb=>qj hb
 refine (ly (h.retag he) hk.pl).mono ?_
 rintro e w'⟨v',rfl,hr,hM,hs⟩
 have s:Stp (kf m) o (ext o w.1.size (9,6)) w w':=⟨hs.os,hs.tape,hs.output,hs.size,fun b hb=>he b hb,fun k hk hn=>hs.block k hk fun e=>hn (by rw[he k hk]at e;rw[e];exact .inr rfl)⟩
 exact⟨v',rfl,hr.out o (9,6),hM,s⟩
def Dl.QL (h:Dl n0 w0 ma mb w o A B):Calls AId 36 #[ptr ma.mb] w fun e w'=>∃ v',e=.returned v'/\Row w' (ext o w.1.size (9,6)) (9,6) 69 6 v' A.past.length (qw A.past)/\Dl n0 w0 ma mb w' (ext o w.1.size (9,6)) A B/\Stp (kf ma) o (ext o w.1.size (9,6)) w w':=
 (Xs h.a h.ak).mono fun _ _⟨v',e,r,k,s⟩=>⟨v',e,r,h.ga k h.ak s,s⟩
def Dl.QM (h:Dl n0 w0 ma mb w o A B):Calls AId 36 #[ptr mb.mb] w fun e w'=>∃ v',e=.returned v'/\Row w' (ext o w.1.size (9,6)) (9,6) 69 6 v' B.past.length (qw B.past)/\Dl n0 w0 ma mb w' (ext o w.1.size (9,6)) A B/\Stp (kf mb) o (ext o w.1.size (9,6)) w w':=
 (Xs h.b h.bk).mono fun _ _⟨v',e,r,k,s⟩=>⟨v',e,r,h.gb k h.bk s,s⟩
end
def MR (n r u:Nat)(b:Int)(h1:16<=n)(h2:n<=16384)(hr:r<=200)(hu:u<=200){v:Value}{A1:List (List (List AB))}(ht:El A1){w0 w:World}(hv:RT w v A1)(n0:Nat){o:Own}(hs0:Stp (fun _=>False) (oS n0) o w0 w){ma:Co}{A:Mc}(hA:BL w o ma A)(ak:A.ok)(ia:ma.y.l.id=0) :
  Calls AId 29 #[.int .i64 n,.int .i64 r,.int .i64 u,.int .i64 b,v] w fun e w'=>∃ mb o',e=.returned (.tuple #[ptr mb.mb,.int .i64 0])/\Dl n0 w0 ma mb w' o' A (Mc.fresh (Am.fresh n A1.length r u (EA b).toNat) A1)/\Stp (fun _=>False) o o' w w':=by
 obtain⟨id,hid,hf⟩:=WU o w.1.size;refine (T5 n r u b h1 h2 hr hu ht o id w hv fun b hb=>⟨by have:=hf b hb;omega,by have:=hf b hb;omega⟩).mono ?_
 rintro e w'⟨m,o',rfl,Ayv,hM,hs⟩
 exact⟨m,o',rfl,⟨hA.Ar hs (fun _ h=>h) fun _ h=>h,hM,ak,Mc.Da h1 h2 hr hu (by unfold EA;omega) ht,(hs0.trans hs).mono fun _ h=>h.elim,ia,by omega⟩,hs⟩
