import Derived.Test.YteehgedabdchcaaGreatKau
set_option linter.all false
set_option maxRecDepth 1000000
set_option maxHeartbeats 0
namespace Go.Proofs.YteehgedabdchcaaGreat
section
variable {bK : List (List (List Pg.D))} {R R' : Rd} {i : Nat} {e : Bg} {es : List Bg}
def qo4 {t:Nat}(ht:e.t=t)(hl:¬0<=(R.s t).k)(hk:e.a.k=2\/e.a.k=3):R.take bK i e=none:=by
 cases h:R.take bK i e with
 | none=>rfl
 | some R' =>
  cases AP h with
  | came h _=>omega
  | lost h _=>omega
  | fail u s b bs hu _ _ _ _ _ _ hk' _ _=>omega
  | begun u s b bs hu _ _ _ _ _ _ hk' _ _=>omega
  | Bs u s b bs hu hs _ _ _ _ _ _ h0 _ _ _=>exact absurd (by rw[<-hs,<-(show t=u by omega)]at h0;exact h0) hl
  | gG u s b bs hu hs _ _ _ _ _ _ h0 _ _ _=>exact absurd (by rw[<-hs,<-(show t=u by omega)]at h0;exact h0) hl
  | dW u s b bs hu hs _ _ _ _ _ _ h0 _ _ _=>exact absurd (by rw[<-hs,<-(show t=u by omega)]at h0;exact h0) hl
  | AL u s b bs hu hs _ _ _ _ _ _ h0 _ _ _=>exact absurd (by rw[<-hs,<-(show t=u by omega)]at h0;exact h0) hl
def qfu {t:Nat}(ht:e.t=t)(hl:0<=(R.s t).k):e.a.k=1->R.take bK i e=none:=fun hk=>by
 cases h:R.take bK i e with
 | none=>rfl
 | some R' =>
  cases AP h with
  | came h _=>omega
  | lost h _=>omega
  | fail u s b bs hu hs _ _ _ _ _ _ h0 _=>exact absurd hl (by rw[<-hs,<-(show t=u by omega)]at h0;exact h0)
  | begun u s b bs hu hs _ _ _ _ _ _ h0 _=>exact absurd hl (by rw[<-hs,<-(show t=u by omega)]at h0;exact h0)
  | Bs u s b bs hu hs _ _ _ _ _ hk' _ _ _ _=>omega
  | gG u s b bs hu hs _ _ _ _ _ hk' _ _ _ _=>omega
  | dW u s b bs hu hs _ _ _ _ _ hk' _ _ _ _=>omega
  | AL u s b bs hu hs _ _ _ _ _ hk' _ _ _ _=>omega
def qpc {t:Nat}(h:R.take bK i e=some R')(ht:e.t=t):e.a.k=1\/e.a.k=2\/e.a.k=3:=by
 cases AP h with
 | came h _=>omega
 | lost h _=>omega
 | fail u s b bs hu hs _ _ _ _ _ hk _ _=>exact .inl hk
 | begun u s b bs hu hs _ _ _ _ _ hk _ _=>exact .inl hk
 | Bs u s b bs hu hs _ _ _ _ _ hk _ _ _ _=>exact .inr (.inl hk)
 | gG u s b bs hu hs _ _ _ _ _ hk _ _ _ _=>exact .inr (.inl hk)
 | dW u s b bs hu hs _ _ _ _ _ hk _ _ _ _=>exact .inr (.inr hk)
 | AL u s b bs hu hs _ _ _ _ _ hk _ _ _ _=>exact .inr (.inr hk)
def YJ {t:Nat}{l2:List Bg}(ht:e.t=t)(hk:e.a.k=2\/e.a.k=3):∀ (l1:List Bg)(R:Rd)(i:Nat),(∀ z ∈ l1,z.t≠(t:Int))->¬0<=(R.s t).k->za bK (some R) i (l1++e::l2)=none
 | [],R,i,_,hl=>by
  show za bK (R.take bK i e) (i+1) l2=none;rw[qo4 ht hl hk,zy]
 | z::l1,R,i,ho,hl=>by
  show za bK (R.take bK i z) (i+1) (l1++e::l2)=none
  cases hR:R.take bK i z with
  | none=>exact zy _ _ _
  | some R1=>exact YJ ht hk l1 R1 _ (fun y hy=>ho y (by simp[hy])) (by rw[td hR (ho z (by simp))];exact hl)
def qjc {t:Int}:∀ (l:List Bg),(∃ z ∈ l,z.t=t)->∃ l1 e l2,l=l1++e::l2/\(∀ z ∈ l1,z.t≠t)/\e.t=t
 | [],h=>by obtain⟨z,hz,_⟩:=h;cases hz
 | z::l,h=>by
  by_cases e:z.t=t
  ·exact⟨[],z,l,rfl,(fun _ h=>nomatch h),e⟩
  ·obtain⟨y,hy,hyt⟩:=h
   rcases List.mem_cons.1 hy with rfl|hy
   ·exact absurd hyt e
   ·obtain⟨l1,e',l2,h1,h2,h3⟩:=qjc l ⟨y,hy,hyt⟩
    exact⟨z::l1,e',l2,by rw[h1];rfl,fun x hx=>(List.mem_cons.1 hx).elim (fun h=>by rw[h];exact e) (h2 x),h3⟩
def VS (h:R.inv bK es){i:Nat}{x:AK}(hx:R.M[i]?=some x):∀ (d:Nat){y:AK},R.M[i+d+1]?=some y->x.fr<y.fr
 | 0,y,hy=>h.inc i x y hx hy
 | d+1,y,hy=>by
  have hl:=(Qc.1 hy).1;obtain⟨z,hz⟩:∃ z,R.M[i+d+1]?=some z:=⟨_,Qb (by omega)⟩
  exact Int.lt_trans (VS h hx d hz) (h.inc _ z y hz (by rw[show i+d+1+1=i+(d+1)+1 from by omega];exact hy))
def QE (h:R.inv bK es) {i j:Nat} {x y:AK} (hx:R.M[i]?=some x) (hy:R.M[j]?=some y) (e:x.fr=y.fr):i=j:=by
 rcases Nat.lt_trichotomy i j with h1|h1|h1
 ·have:=VS h hx (j-i-1) (y:=y) (by rw[show i+(j-i-1)+1=j from by omega];exact hy);omega
 ·exact h1
 ·have:=VS h hy (i-j-1) (y:=x) (by rw[show j+(i-j-1)+1=i from by omega];exact hx);omega
def GM (hc:ux es)(h:za bK (some (Rd.new bK.length)) 0 es=some R){m:Nat}{x:AK}(hx:R.M[m]?=some x)(ha:0<x.AX.length\/x.fr<x.te){k:Nat}(hk:x.fr=k) :
  za bK (some (Rd.new bK.length)) 0 (es.take k++es.drop (k+1))=none/\za bK (some (Rd.new bK.length)) 0 ((es.take k++[es.getD k ⟨0,0,0,⟨0,0,0⟩⟩])++es.drop k)=none:=by
 have hI:=uj hc h;obtain⟨f,e,h1,h2,⟨h3,h30⟩,h4,_,_⟩:=hI.te m x hx;have:f=k:=by omega
 subst this;have hkl:=(Qc.1 h2).1;have hd:es.drop f=e::es.drop (f+1):=by
  rw[List.drop_eq_getElem_cons hkl];rw[Qb hkl]at h2;injection h2 with h2;rw[h2]
 have hsp:es=es.take f++e::es.drop (f+1):=by rw[<-hd,Qw]
 have hlt:(es.take f).length=f:=by rw[Qp];omega
 have hall:=h;rw[hsp,wj,hlt,Nat.zero_add]at hall
 cases hRk:za bK (some (Rd.new bK.length)) 0 (es.take f) with
 | none=>rw[hRk,zy]at hall;cases hall
 | some Rk =>
  rw[hRk]at hall;have ek:za bK (Rk.take bK f e) (f+1) (es.drop (f+1))=some R:=hall;have hck:ux (es.take f):=fun z hz=>hc z (List.mem_of_mem_take hz);have hcd:ux (es.drop (f+1)):=fun z hz=>hc z (List.mem_of_mem_drop hz);have hIk:=uj hck hRk
  cases zL:Rk.take bK f e with
  | none=>rw[zL,zy]at ek;cases ek
  | some R1 =>
   rw[zL]at ek;have Anr:Rk.take bK (es.take f).length e=some R1:=by rw[hlt];exact zL
   have hI1:=TC hIk Anr (hc e (Qe h2));have hl1:(es.take f++[e]).length=f+1:=by simp[hlt]
   cases AP zL with
   | came h0 hk0=>omega
   | lost h0 hk0=>omega
   | fail t s b bs ht hs htl hth hb hbl hsb hk1 hl he=>exact absurd h30 he
   | Bs t s b bs ht hs htl hth hb hbl hsb hk1 hl hn hd hf=>omega
   | gG t s b bs ht hs htl hth hb hbl hsb hk1 hl hn hd hf=>omega
   | dW t s b bs ht hs htl hth hb hbl hsb hk1 hl hn hd hf=>omega
   | AL t s b bs ht hs htl hth hb hbl hsb hk1 hl hn hd hf=>omega
   | begun t s b bs ht hs htl hth hb hbl hsb hk1 hl he =>
    have hAl:t<Rk.A.length:=by rw[hIk.len];exact htl
    have hlive:((Rk.begun f t s b e.a.v).s t).k=(Rk.M.length:Int):=by
     unfold Rd.s Rd.begun;simp only;rw[Qi,Qr,if_pos rfl,if_pos hAl];rfl
    have hnew:(Rk.begun f t s b e.a.v).M[Rk.M.length]?=some ⟨t,b,e.a.v,Rk.c,f,-1,[],[],0,0⟩:=by simp[Rd.begun]
    have hex:=qit (k:=0) hI1 (Ext.refl 0 _) (Nat.zero_le _) hcd (by rw[hl1];exact ek)
    obtain⟨x',q1,_,_,_,_,q6,_⟩:=hex.old _ _ hnew;have hm:m=Rk.M.length:=QE hI hx q1 (by rw[q6];exact hk)
    subst hm;have hsome:∃ z ∈ es.drop (f+1),z.t=(t:Int):=by
     refine Classical.byContradiction fun hno=>?_;have:=UC (t:=t) (es.drop (f+1)) (fun z hz e=>hno ⟨z,hz,e⟩) hI1 hcd hnew rfl (by rw[hl1];exact ek)
     rw[hx]at this;injection this with this;rw[this]at ha;simp only[List.length_nil]at ha;omega
    obtain⟨l1,e2,l2,q2,q3,q4⟩:=qjc _ hsome;have hkind:e2.a.k=2\/e2.a.k=3:=by
     rw[q2,wj]at ek
     cases hR2:za bK (some (Rk.begun f t s b e.a.v)) (f+1) l1 with
     | none=>rw[hR2,zy]at ek;cases ek
     | some R2 =>
      rw[hR2]at ek;have xC:za bK (R2.take bK (f+1+l1.length) e2) (f+1+l1.length+1) l2=some R:=ek
      cases hR3:R2.take bK (f+1+l1.length) e2 with
      | none=>rw[hR3,zy]at xC;cases xC
      | some R3 =>
       have hs2:∀ (l:List Bg)(Ra:Rd)(i:Nat),(∀ z ∈ l,z.t≠(t:Int))->∀ Rb,za bK (some Ra) i l=some Rb->Rb.s t=Ra.s t:=by
        intro l;induction l with
        | nil=>intro Ra i _ Rb h;injection h with h;rw[h]
        | cons z l ih =>
         intro Ra i ho Rb h;have h':za bK (Ra.take bK i z) (i+1) l=some Rb:=h
         cases hz:Ra.take bK i z with
         | none=>rw[hz,zy]at h';cases h'
         | some Rc =>
          rw[hz]at h';rw[ih Rc _ (fun y hy=>ho y (by simp[hy])) Rb h',td hz (ho z (by simp))]
       have hlv:0<=(R2.s t).k:=by rw[hs2 l1 _ _ q3 R2 hR2,hlive];omega
       rcases qpc hR3 q4 with h5|h5
       ·rw[qfu q4 hlv h5]at hR3;cases hR3
       ·exact h5
    constructor
    ·rw[wj,hlt,hRk,q2]
     exact YJ q4 hkind l1 Rk _ q3 (by rw[hs];exact hl)
    ·have eg:es.getD f ⟨0,0,0,⟨0,0,0⟩⟩=e:=by rw[Qi,h2];rfl
     rw[eg,wj,wj,hRk,hlt,Nat.zero_add];show za bK (za bK (Rk.take bK f e) (f+1) []) _ _=none;rw[zL,hd];show za bK ((Rk.begun f t s b e.a.v).take bK _ e) _ _=none;rw[qfu ht (by rw[hlive];omega) h3,zy]
