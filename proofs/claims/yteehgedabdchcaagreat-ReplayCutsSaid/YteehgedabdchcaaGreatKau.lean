import Derived.Test.YteehgedabdchcaaGreatKas
set_option linter.all false
set_option maxRecDepth 1000000
set_option maxHeartbeats 0
open Int renaming toNat_natCast->Ad
namespace Go.Proofs.YteehgedabdchcaaGreat
section
variable {bK : List (List (List Pg.D))} {R R' : Rd} {i : Nat} {e : Bg} {es : List Bg}
structure Ext (k:Nat)(M M':List AK):Prop where
 len:M.length<=M'.length
 old:∀ (i:Nat)(x:AK),M[i]?=some x->∃ x':AK,M'[i]?=some x'/\x'.t=x.t/\x'.b=x.b/\x'.st=x.st/\x'.se=x.se/\x'.fr=x.fr/\(0<=x.te->x'=x)/\(x.te<0->(x'.te<0\/k<=x'.te)/\x.AX.length<=x'.AX.length)
 new:∀ (i:Nat)(x':AK),M.length<=i->M'[i]?=some x'->k<=x'.fr
def Ext.refl (k:Nat)(M:List AK):Ext k M M:=
 ⟨Qk _,fun i x hx=>⟨x,hx,rfl,rfl,rfl,rfl,rfl,fun _=>rfl,fun h=>⟨.inl h,Qk _⟩⟩,fun i x' h1 h2=>by have:=(Qc.1 h2).1;omega⟩
def TO {k j:Nat}{M0 M:List AK}{x x':AK}(h:Ext k M0 M)(hx:M[j]?=some x)(hl:x.te=-1)(e:x'.t=x.t/\x'.b=x.b/\x'.st=x.st/\x'.se=x.se/\x'.fr=x.fr)(ht:x'.te<0\/k<=x'.te)(ha:x.AX.length<=x'.AX.length):Ext k M0 (M.set j x'):=by
 have hjl:=(Qc.1 hx).1;refine⟨by rw[Qq];exact h.len,fun i y hy=>?_,fun i y hi hy=>?_⟩
 ·obtain⟨y',h1,h2,h3,h4,h5,h6,h7,h8⟩:=h.old i y hy
  by_cases e1:j=i
  ·subst e1
   rw[hx]at h1;injection h1 with h1;subst h1;have hneg:¬0<=y.te:=fun h0=>by rw[h7 h0]at hl;omega
   refine⟨x',by rw[Qr,if_pos rfl,if_pos hjl],e.1.trans h2,e.2.1.trans h3,e.2.2.1.trans h4,e.2.2.2.1.trans h5,e.2.2.2.2.trans h6,fun h0=>absurd h0 hneg,fun h0=>⟨ht,Qo (h8 h0).2 ha⟩⟩
  ·exact⟨y',by rw[Qr,if_neg e1];exact h1,h2,h3,h4,h5,h6,h7,h8⟩
 ·rw[Qr]at hy
  split at hy
  ·rename_i e1;subst e1
   (try rw[if_pos hjl]at hy);injection hy with hy;subst hy;rw[e.2.2.2.2];exact h.new j x hi hx
  ·exact h.new i y hi hy
def Hc {k:Nat} {M0:List AK} (h:R.inv bK es) (hE:Ext k M0 R.M) (hk:k<=es.length) (htk:R.take bK es.length e=some R'):Ext k M0 R'.M:=by
 have live:∀ {t:Nat} {s:BZ},R.s t=s->t<bK.length->0<=s.k->∃ (j:Nat) (x:AK),s.k=j/\R.M[j]?=some x/\x.te=-1/\R.x s.k=x:=by
  intro t s hs ht hl;rcases Et h (s:=s) (t:=t) (by rw[<-hs];exact dj (by rw[h.len];exact ht)) with e1|⟨j,x,e1,hx,hte,_⟩
  ·omega
  ·exact⟨j,x,e1,hx,hte,by unfold Rd.x;rw[e1,Ad,Qi,hx];rfl⟩
 cases AP htk with
 | came _ _=>exact hE
 | lost _ _=>exact hE
 | fail t s b bs ht hs htl hth hb hbl hsb hk hl he=>exact hE
 | begun t s b bs ht hs htl hth hb hbl hsb hk2 hl he =>
  refine⟨by simp only[Rd.begun,Qd];have:=hE.len;omega,fun i x hx=>?_,fun i x' h1 h2=>?_⟩
  ·obtain⟨x',h1,h2⟩:=hE.old i x hx
   exact⟨x',by simp only[Rd.begun];rw[Qm (Qc.1 h1).1];exact h1,h2⟩
  ·simp only[Rd.begun]at h2
   by_cases e1:i<R.M.length
   ·rw[Qm e1]at h2;exact hE.new i x' h1 h2
   ·rw[Ql (by omega)]at h2
    have:=Qe h2;simp only[Zc]at this;subst this;simp only;omega
 | Bs t s b bs ht hs htl hth hb hbl hsb hk2 hl hn hd hf =>
  obtain⟨j,x,e1,hx,hte,ex⟩:=live hs htl hl;rw[ex,e1,Ad];exact TO hE hx hte ⟨rfl,rfl,rfl,rfl,rfl⟩ (.inl (by show x.te<0;omega)) (by simp[AK.act])
 | gG t s b bs ht hs htl hth hb hbl hsb hk2 hl hn hd hf =>
  obtain⟨j,x,e1,hx,hte,ex⟩:=live hs htl hl;rw[ex,e1,Ad];exact TO hE hx hte ⟨rfl,rfl,rfl,rfl,rfl⟩ (.inr (by simp only[AK.ended];omega)) (by simp[AK.act,AK.ended])
 | dW t s b bs ht hs htl hth hb hbl hsb hk2 hl hn hd hf =>
  obtain⟨j,x,e1,hx,hte,ex⟩:=live hs htl hl;rw[ex,e1,Ad];exact TO hE hx hte ⟨rfl,rfl,rfl,rfl,rfl⟩ (.inr (by simp only[AK.ended];omega)) (Qk _)
 | AL t s b bs ht hs htl hth hb hbl hsb hk2 hl hn hd hf =>
  obtain⟨j,x,e1,hx,hte,ex⟩:=live hs htl hl;rw[ex,e1,Ad];exact TO hE hx hte ⟨rfl,rfl,rfl,rfl,rfl⟩ (.inr (by simp only[AK.ended];omega)) (Qk _)
def qit {l:List Bg}:∀ {es:List Bg}{R0:Rd}{k:Nat}{M0:List AK},R0.inv bK es->Ext k M0 R0.M->k<=es.length->ux l->za bK (some R0) es.length l=some R->Ext k M0 R.M:=by
 induction l with
 | nil=>intro es R0 k M0 _ hE _ _ h;injection h with h;subst h;exact hE
 | cons e l ih =>
  intro es R0 k M0 h0 hE hk hc h;have h2:za bK (R0.take bK es.length e) (es.length+1) l=some R:=h
  cases hR:R0.take bK es.length e with
  | none=>rw[hR,zy]at h2;cases h2
  | some R1 =>
   rw[hR]at h2;exact ih (es:=es++[e]) (TC h0 hR (hc e (by simp))) (Hc h0 hE hk hR) (by simp;omega) (fun z hz=>hc z (by simp[hz])) (by simpa using h2)
