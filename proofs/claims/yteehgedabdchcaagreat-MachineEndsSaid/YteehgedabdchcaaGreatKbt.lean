import Derived.Test.YteehgedabdchcaaGreatKbq
import Derived.Test.YteehgedabdchcaaGreatKbs
set_option linter.all false
set_option maxRecDepth 1000000
set_option maxHeartbeats 16000000
namespace Go.Proofs.YteehgedabdchcaaGreat
section
open Go.RowKit Hp
attribute [local go_sem ↓] Go.wp_at_zero Go.wp_at_succ
theorem KZ {m:BZ}(hid:m.y.l.id=0){a b:Nat}(h0:a≠0)(h2:a≠2):¬kv m (a,b):=by unfold kv;rw[hid];simp;omega
def lT (m:BZ)(t:Tag):Prop:=kv m t\/t.1=9
structure DT (w0:World)(m:BZ)(w:World)(o:Own)(M:Mc):Prop where
 mi:Bp w o m M
 ok:M.ok
 st:Stp (lT m) (fun _=>(7,0)) o w0 w
 id:m.y.l.id=0
section
variable {w0 w w' : World} {m : BZ} {o o' : Own} {M M' : Mc}
theorem DT.old (h:DT w0 m w o M):Below w0.heap.size w0 w:=h.st.below fun _ _ e=>e.elim (KZ h.id (by omega) (by omega)) (by simp)
theorem DT.below (h:DT w0 m w o M)(k:Below w.heap.size w w'):DT w0 m w' o M:=⟨h.mi.below k,h.ok,h.st.trans (Stp.of_below k),h.id⟩
theorem DT.go (h:DT w0 m w o M)(k:Bp w' o' m M')(hk:M'.ok)(s:Stp (kv m) o o' w w'):DT w0 m w' o' M':=⟨k,hk,h.st.trans (s.mono fun _ h=>.inl h),h.id⟩
theorem DT.step (h:DT w0 m w o M)(t:Int):Calls Tryz.prog 32 #[ptr m.mb,.int .i64 t] w fun e w'=>e=.returned (.agg #[.int .i64 (M.step t).2.k,.int .i64 (M.step t).2.e,.int .i64 (M.step t).2.v])/\∃ o',DT w0 m w' o' (M.step t).1/\Stp (kv m) o o' w w':=
 (pm h.mi h.ok t).mono fun _ _⟨a,o',b,s⟩=>⟨a,o',h.go b (Mc.EK h.ok t) s,s⟩
theorem DT.collect (h:DT w0 m w o M):Calls Tryz.prog 31 #[ptr m.mb] w fun e w'=>e=.returned (.bool M.collect.2)/\∃ o',DT w0 m w' o' M.collect.1/\Stp (kv m) o o' w w':=
 (sm h.mi h.ok).mono fun _ _⟨a,o',b,s⟩=>⟨a,o',h.go b (Mc.D1 h.ok) s,s⟩
end
theorem LI (n r u:Nat)(b:Int)(h1:16<=n)(h2:n<=16384)(hr:r<=200)(hu:u<=200){v:Value}{o:Own}{tg:Tag}{raw:List (List (List Pg.D))}{w:World}(hv:FT tg w o v (zt raw)) :
  Calls Tryz.prog 29 #[.int .i64 n,.int .i64 r,.int .i64 u,.int .i64 b,v] w fun e w'=>∃ m o',e=.returned (.tuple #[ptr m.mb,.int .i64 0])/\DT w m w' o' (Mc.fresh (Al.fresh n (uo raw).length r u (EB b).toNat) (uo raw)):=by
 refine (Vq n r u b h1 h2 hr hu (Q3 raw) (fun _=>(7,0)) 0 w (N9 hv) fun b _=>⟨by simp,by simp⟩).mono ?_
 rintro e w'⟨m,o',rfl,hid,hM,hs⟩
 exact⟨m,o',rfl,hM,Mc.CW h1 h2 hr hu (by unfold EB;omega) (Q3 raw),hs.mono fun _ h=>h.elim,hid⟩
end
section
structure Ec (raw:List (List (List Pg.D)))(M:Mc)(t:Nat):Prop where
 ps:M.ps=uo raw
 len:M.hs.length=(zt raw).length
 dn:∀ u,u<t->u<M.hs.length->(M.h u).b=((M.p u).length:Int)/\(M.h u).l=false
 nw:∀ u,t<u->u<M.hs.length->(M.h u).n=0/\(M.h u).l=false
structure Eo (raw:List (List (List Pg.D)))(M:Mc)(t:Nat):Prop where
 c:Ec raw M t
 es:∃ s,Es M s (40*t)/\(t<M.hs.length->s=t)
structure Ei (raw:List (List (List Pg.D)))(M:Mc)(t i:Nat):Prop where
 c:Ec raw M t
 es:Es M t (40*t+i)
 pg:(M.h t).b=((M.p t).length:Int)\/i<=(M.h t).pos (M.p t)
section
variable {raw : List (List (List Pg.D))} {M : Mc} {t i : Nat}
theorem JE {p:List (List Ay)}(hp:p ∈ uo raw):DV p<=24:=by
 have h:p.length<=3/\∀ ds ∈ p,ds.length<=6:=by
  unfold uo at hp;obtain⟨q,hq,rfl⟩:=Qt.1 hp;obtain⟨q1,q2⟩:=uz hq;refine⟨by unfold vs;rw[Qg];exact q1,fun ds hds=>?_⟩
  obtain⟨l,hl,rfl⟩:=Qt.1 hds;rw[Qg];exact (q2 l hl).2.1
 have h2:∀ q:List (List Ay),(∀ ds ∈ q,ds.length<=6)->DV q<=8*q.length:=by
  intro q;induction q with
  | nil=>intro _;exact Qk _
  | cons ds q ih =>
   intro hd;have h3:=ih fun x hx=>hd x (List.mem_cons_of_mem _ hx)
   have h4:=hd ds List.mem_cons_self;show ds.length+2+DV q<=8*(q.length+1);omega
 have:=h2 p h.2;omega
theorem Ec.of {M':Mc}(h:Ec raw M t)(hp:M'.ps=M.ps)(hl:M'.hs.length=M.hs.length)(hh:∀ u,u≠t->u<M.hs.length->(M'.h u).b=(M.h u).b/\(M'.h u).n=(M.h u).n/\(M'.h u).l=(M.h u).l):Ec raw M' t:=by
 refine⟨hp.trans h.ps,hl.trans h.len,fun u hu hul=>?_,fun u hu hul=>?_⟩
 ·rw[hl]at hul
  obtain⟨e1,_,e3⟩:=hh u (by omega) hul
  have:=h.dn u hu hul;unfold Mc.p at this ⊢;rw[hp,e1,e3];exact this
 ·rw[hl]at hul
  obtain⟨_,e2,e3⟩:=hh u (by omega) hul
  rw[e2,e3];exact h.nw u hu hul
theorem Ei.step (h:Ei raw M t i)(hk:40*t+i<=200):bf (M.step (t:Int)).2.e=false/\Ei raw (M.step (t:Int)).1 t (i+1):=by
 obtain⟨h1,h2,h3,h4,h5,h6⟩:=h.es.step hk;have hp:(M.step (t:Int)).1.p t=M.p t:=by unfold Mc.p;rw[h4]
 have hb:=(h.es.ok.th t h.es.tl).th.b;refine⟨h2,h.c.of h4 h3 (fun u hu _=>by rw[h5 u hu];exact⟨rfl,rfl,rfl⟩),h1,?_⟩
 rw[hp];rcases h6 with⟨h6,h7⟩|⟨h6,h7⟩
 ·rw[h7];exact .inl (by omega)
 ·rcases h.pg with h8|h8
  ·omega
  ·exact .inr (by omega)
theorem Ei.collect (h:Ei raw M t i)(hk:40*t+i<=200):Ei raw M.collect.1 t i:=by
 obtain⟨h1,h2,h3,h4⟩:=h.es.collect hk;refine⟨h.c.of h3 h2 fun u _ hu=>h4 u hu,h1,?_⟩
 obtain⟨e1,e2,e3⟩:=h4 t h.es.tl;have hp:M.collect.1.p t=M.p t:=by unfold Mc.p;rw[h3]
 have e:(M.collect.1.h t).pos (M.p t)=(M.h t).pos (M.p t):=by unfold AD.pos;rw[e1,e2,e3]
 rw[hp,e1,e];exact h.pg
theorem Ei.last (h:Ei raw M t 40):(M.h t).b=((M.p t).length:Int)/\(M.h t).l=false:=by
 have ht:=(h.es.ok.th t h.es.tl).th;have hb:(M.h t).b=((M.p t).length:Int):=by
  rcases h.pg with e|e
  ·exact e
  ·have h1:=NS ht
   have h2:DV (M.p t)<=24:=JE (raw:=raw) (by
    rw[<-h.c.ps];exact Qe (Mc.D2 (M:=M) (by rw[<-h.es.ok.len];exact h.es.tl)))
   omega
 refine⟨hb,?_⟩
 cases hl:(M.h t).l with
 | false=>rfl
 | true=>have:=(ht.at' hl).1;omega
theorem Ei.next (h:Ei raw M t 40):Eo raw M (t+1):=by
 obtain⟨h1,h2⟩:=h.last;refine⟨⟨h.c.ps,h.c.len,fun u hu hul=>?_,fun u hu hul=>h.c.nw u (by omega) hul⟩,?_⟩
 ·by_cases e:u=t
  ·subst e;exact⟨h1,h2⟩
  ·exact h.c.dn u (by omega) hul
 ·have e:40*(t+1)=40*t+40:=by omega
  rw[e];by_cases hn:t+1<M.hs.length
  ·exact⟨t+1,h.es.next h2 hn (h.c.nw (t+1) (by omega) hn).1,fun _=>rfl⟩
  ·exact⟨t,h.es,fun z=>absurd z hn⟩
theorem Eo.turn (h:Eo raw M t)(ht:t<M.hs.length):Ei raw M t 0:=by
 obtain⟨s,h1,h2⟩:=h.es;have:=h2 ht;subst this;exact⟨h.c,h1,.inr (Nat.zero_le _)⟩
theorem Eo.fresh (raw:List (List (List Pg.D))):Eo raw (Mc.fresh (Al.fresh 3000 (uo raw).length 100 100 999) (uo raw)) 0:=by
 have hh:∀ u,(Mc.fresh (Al.fresh 3000 (uo raw).length 100 100 999) (uo raw)).h u=Cy:=fun u=>by
  show (List.replicate (uo raw).length Cy).getD u Cy=Cy;rw[Qi,Qy];split<;>rfl
 refine⟨⟨rfl,?_,fun u hu _=>absurd hu (by omega),fun u _ _=>by rw[hh];exact⟨rfl,rfl⟩⟩,0,Es.fresh (Q3 raw),fun _=>rfl⟩
 show (List.replicate (uo raw).length Cy).length=_;rw[Qx,SL]
def ll (l:List (List (List Pg.D))):Nat->Nat
 | 0=>0
 | n+1=>ll l n+(l.getD n []).length
theorem SX {l:List (List (List Pg.D))}(h:∀ p ∈ l,p.length<=3):∀ n,ll l n<=3*n
 | 0=>Qk _
 | n+1=>by
  have:=SX h n;show ll l n+_<=_;have h2:(l.getD n []).length<=3:=by
   rw[Qi]
   cases hx:l[n]? with
   | none=>exact Nat.zero_le _
   | some p=>exact h p (Qe hx)
  omega
theorem U4:∀ (n:Nat)(hs:List AD),n<=hs.length->∀ l:List (List (List Pg.D)),(∀ u,u<n->(hs.getD u Cy).C2=((l.getD u []).length:Int))->wy (hs.take n)=(ll l n:Int)
 | 0,_,_,_,_=>by simp[wy,ll]
 | n+1,hs,hn,l,h=>by
  have ih:=U4 n hs (by omega) l fun u hu=>h u (by omega)
  have e:=h n (by omega)
  have hx:hs[n]?=some (hs.getD n Cy):=by rw[Qi,Qb (by omega)];rfl
  have ha:∀ a b:List AD,wy (a++b)=wy a+wy b:=by
   intro a b;induction a with
   | nil=>show wy b=0+wy b;omega
   | cons x a ih=>show x.C2+wy (a++b)=x.C2+wy a+wy b;rw[ih];omega
  rw[List.take_add_one,hx,ha,ih];show (ll l n:Int)+((hs.getD n Cy).C2+0)=((ll l n+(l.getD n []).length:Nat):Int);rw[e];omega
theorem Eo.done (h:Eo raw M (zt raw).length):M.done=true/\yj M.past=ll (zt raw) (zt raw).length/\M.past.length<=640:=by
 obtain⟨s,h1,_⟩:=h.es;have h4:=(lj raw).2;have hpl:=h1.pl;refine⟨?_,?_,by omega⟩
 ·unfold Mc.done
  rw[List.all_eq_true];intro u hu;rw[List.mem_range]at hu;have:=(h.c.dn u (by rw[<-h.c.len];exact hu) hu).1
  simp only[decide_eq_true_eq];omega
 ·have hc:=h1.cn
  have e:=U4 M.hs.length M.hs (Qk _) (zt raw) (fun u hu=>by
   obtain⟨e1,e2⟩:=h.c.dn u (by rw[<-h.c.len];exact hu) hu
   show (M.h u).C2=_;unfold AD.C2;rw[e1,e2];have:(M.p u).length=((zt raw).getD u []).length:=by
    unfold Mc.p;rw[h.c.ps];unfold uo;rw[Qi,Qi,Qj]
    cases (zt raw)[u]? with
    | none=>rfl
    | some q=>show (vs q).length=_;unfold vs;rw[Qg];rfl
   rw[this];simp)
  rw[List.take_length,h.c.len]at e;rw[e]at hc;exact_mod_cast hc
end
end
end Go.Proofs.YteehgedabdchcaaGreat
