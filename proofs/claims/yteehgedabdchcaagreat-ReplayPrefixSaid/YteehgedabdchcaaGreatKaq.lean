import Derived.Test.YteehgedabdchcaaGreatKao
import Derived.Deep.RegionHeld
import Derived.OrdersHeld
set_option linter.all false
set_option maxRecDepth 1000000
set_option maxHeartbeats 0
open Go renaming World->Aa,Calls->Ab,Value->Ac
open Go.RowKit renaming Below->Ae
open Go.Value renaming int->I,pointer->Ag,slice->Ah,tuple->Aj,agg->Ak
open Go.IntKind renaming i64->Z
open Go.Ending renaming returned->O
open List renaming append_assoc->Ad,tail_cons->aa,flatMap_cons->ag,headD_cons->ai,length_range->aj,getElem?_cons_succ->ay,getElem?_range->az,set_cons_succ->aB,length_nil->aC,length_drop->aD,getElem?_drop->aF,map_cons->aJ,getElem?_take_of_lt->aK,all_eq_true->aL,drop_left'->aM,map_id->aO,length_singleton->aP,getElem?_toArray->aQ,range->aR,foldl_append->aU,cons_append->aW,nil_append->aX,take_left'->aY,take_set->bC,drop_set->bF,map_nil->bG,map_set->bH
open Go.Region renaming ready->Ai,Mode->aA,binds->aH,wanted->aS,seqB->aV,lexTailB->aZ,noSelect->bB
open Bool renaming and_eq_true->af
open Array renaming replicate->aG
open Go.Region.linearise renaming go->aI
open Nat renaming zero_le->aN,zero_add->aT,zero_mul->bJ
open Go.Proofs.Tryz
open Go.Proofs.Tryz renaming prog->ARt
open Go.Obj renaming cells->ARu
namespace Go.Proofs.YteehgedabdchcaaGreat
section
open Go.RowKit Hp
attribute [local go_sem ↓] Go.wp_at_zero Go.wp_at_succ
def EK:BX:=⟨0,0,false,false⟩
def Tx.read (x:Tx)(p:Nat):Tx:={ x with log:={ x.log with reads:=dm x.log.reads p x.log.mr } }
def Tx.keep (x:Tx)(p:Nat):Tx:={ x with log:={ x.log with keeps:=dm x.log.keeps p x.log.mr } }
def Tx.holding (x:Tx)(p v:Nat):Tx:={ x with log:={ x.log with holds:=x.log.holds++[(p,v)] } }
def Tx.D8 (x:Tx)(u:Un):Tx:={ x with log:={ x.log with Ay:=x.log.Ay++[u] } }
def yj (L:Lg)(p:Nat):Bool:=decide (∀ z ∈ L.holds,z.1≠p)&&decide (L.holds.length<L.mu)
def An.AO (S:An)(i p:Nat):An×Int×BX:=
 if p=0 then (S,143,EK) else match lk S.H.cur p with
 | none=>(S,70,EK)
 | some ob=>if xz i (S.t i).start ob.second=true then (S,141,EK) else
   (S.tx i ((S.t i).read p),if um (S.t i).log.reads p (S.t i).log.mr then (if ob.CC then 142 else 0) else 130,if um (S.t i).log.reads p (S.t i).log.mr&&!ob.CC then ob.AQ else EK)
def An.Ar (S:An)(i p:Nat):An×Int:=((S.AO i p).1,if (S.AO i p).2.1=0 then (if (S.AO i p).2.2.Az then 144 else 0) else (S.AO i p).2.1)
def An.BW (S:An)(i:Nat)(u:Un):An×Bool:=if (S.t i).log.Ay.length<(S.t i).log.mu then (S.tx i ((S.t i).D8 u),true) else (S,false)
def An.A3 (S:An)(i p v:Nat):An×Bool:=if yj (S.t i).log p=true then (S.tx i ((S.t i).holding p v),true) else (S,false)
def An.EG (S:An)(i p:Nat):An:={ S with H:=(S.H.AJ p (2*i+1)).1 }
def An.Be (S:An)(i p:Nat):An×Bool:=
 if S.H.sec p%2=1 then (S,true) else if (S.A3 i p (S.H.sec p/2)).2=true then ((S.A3 i p (S.H.sec p/2)).1.EG i p,true) else (S,false)
def Yq (l:List Nat)(p m:Nat)(h:l.length<=m):(dm l p m).length<=m:=by
 unfold dm;split
 ·exact h
 ·split
  ·simp;omega
  ·exact h
def Lg.Hj {L:Lg}(h:L.fit)(p:Nat):Lg.fit { L with reads:=dm L.reads p L.mr }:=⟨⟨h.ok.mr,h.ok.mu,Yq _ _ _ h.ok.r,h.ok.k,h.ok.h,h.ok.u⟩,h.hv,h.un,h.kd⟩
def Lg.Hi {L:Lg}(h:L.fit)(p:Nat):Lg.fit { L with keeps:=dm L.keeps p L.mr }:=⟨⟨h.ok.mr,h.ok.mu,h.ok.r,Yq _ _ _ h.ok.k,h.ok.h,h.ok.u⟩,h.hv,h.un,h.kd⟩
def Lg.Hh {L:Lg}(h:L.fit)(p v:Nat)(hv:v<=1099511627776)(hm:L.holds.length<L.mu):Lg.fit { L with holds:=L.holds++[(p,v)] }:=
 ⟨⟨h.ok.mr,h.ok.mu,h.ok.r,h.ok.k,by simp;omega,h.ok.u⟩,fun z hz=>by
  rcases Qs.1 hz with hz|hz
  ·exact h.hv z hz
  ·rw[Zc.1 hz];exact hv,h.un,h.kd⟩
def Lg.Hl {L:Lg}(h:L.fit)(u:Un)(h1:-9223372036854775808<=u.old/\u.old<=9223372036854775807)(h2:u.kind=1->0<=u.old)(hm:L.Ay.length<L.mu):Lg.fit { L with Ay:=L.Ay++[u] }:=
 ⟨⟨h.ok.mr,h.ok.mu,h.ok.r,h.ok.k,h.ok.h,by simp;omega⟩,h.hv,fun z hz=>by
  rcases Qs.1 hz with hz|hz
  ·exact h.un z hz
  ·rw[Zc.1 hz];exact h1,fun z hz=>by
  rcases Qs.1 hz with hz|hz
  ·exact h.kd z hz
  ·rw[Zc.1 hz];exact h2⟩
def Lg.FC {L:Lg}(h:L.fit):Lg.fit { L with reads:=[],keeps:=[],holds:=[],Ay:=[] }:=
 ⟨⟨h.ok.mr,h.ok.mu,aN _,aN _,aN _,aN _⟩,fun z hz=>(by cases hz),fun z hz=>(by cases hz),fun z hz=>(by cases hz)⟩
def An.ok.Ee {S:An}(hk:S.ok){i:Nat}(hi:i<S.Au.length):(S.t i).log.fit:=hk.lg _ (Qe (An.AV hi))
def An.ok.VZ {S:An}(hk:S.ok){i:Nat}(hi:i<S.Au.length):(S.t i).start<=S.now:=hk.st _ (Qe (An.AV hi))
def An.ok.set {S:An}(hk:S.ok){i:Nat}(hi:i<S.Au.length):(S.t i).seen<=S.next:=hk.se _ (Qe (An.AV hi))
def An.Ep {S:An}(hk:S.ok){i:Nat}(hi:i<S.Au.length){L:Lg}(h:L.fit):An.ok (S.tx i { S.t i with log:=L }):=
 An.Sv hk (An.AV hi) h (hk.VZ hi) (hk.set hi) rfl rfl
def An.MR {S:An}(hk:S.ok){i:Nat}(hi:i<S.Au.length)(p:Nat):An.ok (S.tx i ((S.t i).read p)):=An.Ep hk hi (Lg.Hj (hk.Ee hi) p)
def An.MQ {S:An}(hk:S.ok){i:Nat}(hi:i<S.Au.length)(p:Nat):An.ok (S.tx i ((S.t i).keep p)):=An.Ep hk hi (Lg.Hi (hk.Ee hi) p)
def An.Dp {S:An}(hk:S.ok){i:Nat}(hi:i<S.Au.length)(p:Nat):(S.AO i p).1.ok:=by
 unfold An.AO;split
 ·exact hk
 ·split
  ·exact hk
  ·split
   ·exact hk
   ·exact An.MR hk hi p
def dc (S:An)(i p:Nat):(S.AO i p).1.Au.length=S.Au.length:=by
 unfold An.AO;split
 ·rfl
 ·split
  ·rfl
  ·split
   ·rfl
   ·exact An.Cq _ _ _
def An.DC {S:An}(hk:S.ok){i:Nat}(hi:i<S.Au.length)(u:Un)(h1:-9223372036854775808<=u.old/\u.old<=9223372036854775807)(h2:u.kind=1->0<=u.old):(S.BW i u).1.ok:=by
 unfold An.BW;split
 ·rename_i hm;exact An.Ep hk hi (Lg.Hl (hk.Ee hi) u h1 h2 hm)
 ·exact hk
def Lb (S:An)(i:Nat)(u:Un):(S.BW i u).1.Au.length=S.Au.length:=by
 unfold An.BW;split
 ·exact An.Cq _ _ _
 ·rfl
def An.Dn {S:An}(hk:S.ok){i:Nat}(hi:i<S.Au.length)(p v:Nat)(hv:v<=1099511627776):(S.A3 i p v).1.ok:=by
 unfold An.A3;split
 ·rename_i hm
  unfold yj at hm;simp only[af,decide_eq_true_eq]at hm;exact An.Ep hk hi (Lg.Hh (hk.Ee hi) p v hv hm.2)
 ·exact hk
def yv (S:An)(i p v:Nat):(S.A3 i p v).1.Au.length=S.Au.length:=by
 unfold An.A3;split
 ·exact An.Cq _ _ _
 ·rfl
def An.J5 {S:An}(hk:S.ok){i:Nat}(hi:i<S.Au.length)(p:Nat):(S.EG i p).ok:=by
 have h8:=hk.t8;exact An.CI hk p (by omega) (fun _=>by omega)
def An.CU {S:An}(hk:S.ok){i:Nat}(hi:i<S.Au.length)(p:Nat):(S.Be i p).1.ok:=by
 unfold An.Be;have h2:=(hk.sec p).2;split
 ·exact hk
 ·split
  ·exact An.J5 (An.Dn hk hi p _ (by omega)) (by rw[yv];exact hi) p
  ·exact hk
def ml (S:An)(i p:Nat):(S.Be i p).1.Au.length=S.Au.length:=by
 unfold An.Be;split
 ·rfl
 ·split
  ·exact yv _ _ _ _
  ·rfl
section
variable {w w' : Aa} {o o' : Own} {id k b : Nat} {L : Lg} {vr vk vh vu : Ac}
def Wz (h:Bo w o id k b L vr vk vh vu)(hk:L.ok)(p v:Nat)(hp:¬∀ x ∈ L.holds,x.1≠p) :
  Ab ARt 168 #[Ag (some ⟨b,0,none⟩),Ak #[I Z p,I Z v]] w fun e w'=>e=O (.bool false)/\Ae w.1.size w w':=by
 have HI:=Qa h;have j:=h.AM;have c:=h.AM.cell;have s:=h.AM.lt;obtain⟨pa,cp,rfl⟩:=h.rh.AS;have hlen:=Qa (show L.holds.length<=200 by have:=hk.h;have:=hk.mu;omega)
 have HP:=Qa hp;clear h hk hp;go_enter func168,ntmps168;go_wp2_with fail;go_loopw [14](fun ix wr=>∃ i:Nat,ix=I Z i/\i<=L.holds.length/\(∀ (n:Nat) x,n<i->L.holds[n]?=some x->x.1≠p)/\Ae w.1.size w wr/\Al wr w.1.size #[I Z p,I Z v] 131)(fun ix _=>L.holds.length-(intOf ix).toNat)
 case atStart=>exact⟨0,rfl,by omega,fun n x hn=>by omega,qc (qd w) _,Al.new w _ _⟩
 case round =>
  obtain⟨i,rfl,hil,hno,hbr,jB⟩:=hrel;replace hno:=Qa hno;clear c s;have jL:=j.below hbr j.lt;have cL:=jL.cell;have sL:=jL.lt;have cB:=jB.cell;have sB:=jB.lt;have hR:=HI.out.rh.below hbr;have hlt:i<L.holds.length:=by
   refine Nat.lt_of_not_le fun hge=>HP.out fun x hx=>?_;obtain⟨n,hn⟩:=List.getElem?_of_mem hx;exact hno.out n x (by have:=(Qc.1 hn).1;omega) hn
  obtain⟨x,hx⟩:∃ x,L.holds[i]?=some x:=⟨_,Qb hlt⟩;rcases hR.own.2 with ⟨e1,e2⟩|⟨g,cap,cur,e1,_,hg,hn,hc,_⟩
  ·omega
  ·injection e1 with e1 _ e2
   subst e1 e2;obtain⟨c0,c1⟩:=hR.Ez i x hx;have sg:g<wr.1.size:=(Qf.1 hg).1;have hI:(i:Int)<(L.holds.length:Int):=by omega
   have hI2:(i:Int)<200:=by have:=hlen.out;omega
   unfold nv at c0 c1;have Agb:=Qa (fun (hne:x.1≠p)(n:Nat) z (hn:n<i+1)(hz:L.holds[n]?=some z)=>show z.1≠p from by
    by_cases e:n=i
    ·subst e;rw[hx]at hz;injection hz with hz;subst hz;exact hne
    ·exact hno.out n z (by omega) hz)
   clear hg hR hx hc;by_cases hxp:x.1=p
   ·have hxp:(x.1:Int)=(p:Int):=by omega
    go_wp2_with fail;go_ret;exact⟨rfl,qc hbr _⟩
   ·have Aos:=Qa (Agb.out hxp)
    have hne:(x.1:Int)≠(p:Int):=by omega
    clear Agb;go_wp2_with fail;go_roundw
    case rel=>exact⟨i+1,by simp,by omega,Aos.out,qc hbr _,jB.alloc _⟩
    case measure=>simp[intOf];omega
end
section
variable {w w' : Aa} {o o' : Own} {y : A6} {S : An} {x : Tx} {i : Nat}
def TU (h:Aq w o y S)(hx:S.Au[i]?=some x){L':Lg}{j:Nat}(hj:j=1\/j=2\/j=3\/j=4){vr vk vh vu:Ac}(hl:Bo w' o' y.l.id (17+8*i) (y.lb i) L' vr vk vh vu)(hs:Stp (fun t=>t=(y.l.id,17+8*i)\/t=(y.l.id,17+8*i+j)) o o' w w') :
  Bl y (S.tx i { x with log:=L' }) o w w'/\Stp (pj y i) o o' w w'/\Aq w' o' y (S.tx i { x with log:=L' }):=by
 have ht:=h.Au i x hx;obtain⟨vt,hb,hr⟩:=ht.AM;have hst:Stp (pj y i) o o' w w':=hs.mono (by rintro _ (rfl|rfl)<;>exact⟨rfl,by simp<;>omega,by simp<;>omega⟩)
 have h1:Aq w' o' y (S.tx i { x with log:=L' }):=h.tx ⟨⟨vt,hb.Ao hs (by rw[ht.ob];simp;omega),hr.Ao hs (by simp;omega)⟩,⟨_,_,_,_,hl⟩,(hst.tags _ hb.lt).trans ht.ob⟩ hst
 exact⟨⟨o',h1,hst.mono fun _=>To⟩,hst,h1⟩
def Q6 (h:Aq w o y S)(hk:S.ok)(hi:i<S.Au.length)(p:Nat) :
  Ab ARt 183 #[ptr (y.lb i),I Z p] w fun e w'=>e=O (.bool (um (S.t i).log.reads p (S.t i).log.mr))/\Bl y (S.tx i ((S.t i).read p)) o w w':=by
 obtain⟨vr,vk,vh,vu,hl⟩:=(h.Au i _ (An.AV hi)).log;refine (JM hl (hk.Ee hi).ok p).mono ?_
 rintro e w'⟨rfl,pV,o',hl',hs⟩
 exact⟨rfl,(TU h (An.AV hi) (.inl rfl) hl' hs).1⟩
def Q5 (h:Aq w o y S)(hk:S.ok)(hi:i<S.Au.length)(p:Nat) :
  Ab ARt 261 #[ptr (y.lb i),I Z p] w fun e w'=>e=O (.bool (um (S.t i).log.keeps p (S.t i).log.mr))/\Bl y (S.tx i ((S.t i).keep p)) o w w':=by
 obtain⟨vr,vk,vh,vu,hl⟩:=(h.Au i _ (An.AV hi)).log;refine (JL hl (hk.Ee hi).ok p).mono ?_
 rintro e w'⟨rfl,pV,o',hl',hs⟩
 exact⟨rfl,(TU h (An.AV hi) (.inr (.inl rfl)) hl' hs).1⟩
def UA (h:Aq w o y S)(hk:S.ok)(hi:i<S.Au.length)(u:Un) :
  Ab ARt 120 #[ptr (y.lb i),Wc u] w fun e w'=>e=O (.bool (S.BW i u).2)/\Bl y (S.BW i u).1 o w w':=by
 obtain⟨vr,vk,vh,vu,hl⟩:=(h.Au i _ (An.AV hi)).log;unfold An.BW;by_cases hm:(S.t i).log.Ay.length<(S.t i).log.mu
 ·rw[if_pos hm]
  refine (qez hl (hk.Ee hi).ok u hm).mono ?_;rintro e w'⟨rfl,pV,o',hl',hs⟩;exact⟨rfl,(TU h (An.AV hi) (.inr (.inr (.inr rfl))) hl' hs).1⟩
 ·rw[if_neg hm]
  refine (qe3 hl u (by omega)).mono ?_
  rintro e w'⟨rfl,hb⟩;exact⟨rfl,h.D1 hb⟩
def qfx (h:Aq w o y S)(hk:S.ok)(hi:i<S.Au.length)(p v:Nat) :
  Ab ARt 168 #[ptr (y.lb i),Ak #[I Z p,I Z v]] w fun e w'=>e=O (.bool (S.A3 i p v).2)/\Bl y (S.A3 i p v).1 o w w':=by
 obtain⟨vr,vk,vh,vu,hl⟩:=(h.Au i _ (An.AV hi)).log;unfold An.A3;by_cases hd:∀ z ∈ (S.t i).log.holds,z.1≠p
 ·by_cases hm:(S.t i).log.holds.length<(S.t i).log.mu
  ·have e1:yj (S.t i).log p=true:=by unfold yj;simp only[af,decide_eq_true_eq];exact⟨hd,hm⟩
   rw[if_pos e1];refine (qeu hl (hk.Ee hi).ok p v hd hm).mono ?_;rintro e w'⟨rfl,pV,o',hl',hs⟩;exact⟨rfl,(TU h (An.AV hi) (.inr (.inr (.inl rfl))) hl' hs).1⟩
  ·have e1:¬yj (S.t i).log p=true:=by unfold yj;simp only[af,decide_eq_true_eq];exact fun h=>hm h.2
   rw[if_neg e1];refine (rz hl (hk.Ee hi).ok p v hd (by omega)).mono ?_
   rintro e w'⟨rfl,hb⟩;exact⟨rfl,h.D1 hb⟩
 ·have e1:¬yj (S.t i).log p=true:=by unfold yj;simp only[af,decide_eq_true_eq];exact fun h=>hd h.1
  rw[if_neg e1];refine (Wz hl (hk.Ee hi).ok p v hd).mono ?_;rintro e w'⟨rfl,hb⟩;exact⟨rfl,h.D1 hb⟩
def look_nil (w:Aa)(a b:Ac) :
  Ab ARt 118 #[a,b,I Z 0] w fun e w'=>e=O (Aj #[kw EK,I Z 143])/\Ae w.1.size w w':=by
 go_enter func118,ntmps118;go_wp2_with fail;refine bodyPost_ret (v:=Aj #[kw ⟨0,0,false,false⟩,I Z 143]) (by simp[results,results118,go_sem]) rfl ⟨rfl,?_⟩
 repeat (first|exact qc (qd w) _|refine zc ?_ (Qk _) _)
def MH (h:Aq w o y S)(hk:S.ok)(b:Ac){p:Nat}(hp:lk S.H.cur p=none)(h0:p≠0) :
  Ab ARt 118 #[ptr y.sb,b,I Z p] w fun e w'=>e=O (Aj #[kw EK,I Z 70])/\Ae w.1.size w w':=by
 obtain⟨vc,vo,vw,vf,f,hh⟩:=h.hp;have HS:=Qa (fun w' (hw:Ae w.1.size w w')=>XK (hh.below hw) hk.H.ok hp)
 obtain⟨vq,vl,vm,jb,_⟩:=h.AM;unfold qw at jb;have c:=jb.cell;have sb:=jb.lt;clear h hk hh hp;go_enter func118,ntmps118;go_wp2_with fail;refine (HS.out _ (qc (qd w) _)).mono ?_
 rintro e w1 ⟨rfl,hb1⟩
 have jR:=(Al.new w #[I Z 0,I Z 0,.bool false,.bool false] 93).below hb1 (by simp)
 have hw1:=qe (qc (qd w) _) hb1;clear hb1;have cR:=jR.cell;have zR:=jR.free;have sR:=jR.lt;go_wp2_with fail;refine bodyPost_ret (v:=Aj #[kw ⟨0,0,false,false⟩,I Z 70]) (by simp[results,results118,go_sem,cR,sR]) rfl ⟨rfl,?_⟩
 repeat (first|exact hw1|refine zc ?_ (Qk _) _|refine qc ?_ _)
def qki (h:Aq w o y S)(hk:S.ok)(hi:i<S.Au.length){p:Nat}{ob:Ob}(hp:lk S.H.cur p=some ob)(hc:xz i (S.t i).start ob.second=true)(h0:p≠0) :
  Ab ARt 118 #[ptr y.sb,ptr (y.xb i),I Z p] w fun e w'=>e=O (Aj #[kw EK,I Z 141])/\Ae w.1.size w w':=by
 obtain⟨vc,vo,vw,vf,f,hh⟩:=h.hp;have HS:=Qa (fun w' (hw:Ae w.1.size w w')=>Ut (hh.below hw) hk.H.ok hp)
 have HC:=(fun w' (hw:Ae w.1.size w w')=>U1 (h.below hw) hk (An.AV hi) p)
 have e1:S.H.sec p=ob.second:=by unfold Hp.sec;rw[hp]
 rw[e1,hc]at HC;replace HC:=Qa HC;obtain⟨vq,vl,vm,jb,_⟩:=h.AM;unfold qw at jb;have c:=jb.cell;have sb:=jb.lt;clear h hk hh hp hi hc e1;obtain⟨⟨sp,sd,wk,fn⟩,fr,se,sr,ps,ns⟩:=ob;simp only at HS;go_enter func118,ntmps118;go_wp2_with fail;refine (HS.out _ (qc (qd w) _)).mono ?_
 rintro e w1 ⟨rfl,hb1⟩
 have jR:=(Al.new w #[I Z 0,I Z 0,.bool false,.bool false] 93).below hb1 (by simp)
 have hw1:=qe (qc (qd w) _) hb1;clear hb1;go_wp2_with fail;refine (HC.out _ (qc hw1 _)).mono ?_
 rintro e w2 ⟨rfl,hb2⟩
 have dY:=(jR.alloc (ARu #[I Z sp,I Z sd,.bool wk,.bool fn] 93)).below hb2 (jR.alloc _).lt;have hw2:=qe (qc hw1 _) hb2;clear hb2 jR c;have cR:=dY.cell;have zR:=dY.free;have sR:=dY.lt;go_wp2_with fail;refine bodyPost_ret (v:=Aj #[kw ⟨0,0,false,false⟩,I Z 141]) (by simp[results,results118,go_sem,cR]) rfl ⟨rfl,?_⟩
 repeat (first|exact hw2|refine zc ?_ (Qk _) _)
def Bl.from (h0:Stp (qo y) o o' w w'){w2:Aa}{S':An}(h:Bl y S' o' w' w2):Bl y S' o w w2:=by
 obtain⟨o2,h1,h2⟩:=h;exact⟨o2,h1,h0.trans h2⟩
def MG (h0:Aq w o y S)(hk:S.ok)(hi:i<S.Au.length){p:Nat}{ob:Ob}(hp:lk S.H.cur p=some ob)(hc:xz i (S.t i).start ob.second=false)(hp0:p≠0) :
  Ab ARt 118 #[ptr y.sb,ptr (y.xb i),I Z p] w fun e w' =>
   e=O (Aj #[kw (if um (S.t i).log.reads p (S.t i).log.mr&&!ob.CC then ob.AQ else EK),I Z (if um (S.t i).log.reads p (S.t i).log.mr then (if ob.CC then 142 else 0) else 130)])/\Bl y (S.tx i ((S.t i).read p)) o w w':=by
 obtain⟨o1,ho1⟩:∃ o1,o1=ext o w.1.size (y.l.id+1,0):=⟨_,rfl⟩;have h:=h0.retag (o':=o1) fun b hb=>by rw[ho1];exact qr hb
 have hS0:Stp (qo y) o o1 w w:=by rw[ho1];exact (Stp.refl _ o w).ext _ _ (Qk _)
 have hbx:∀ b,w.1.size<=b->o1 b=(y.l.id+1,0):=fun b hb=>by rw[ho1];exact qz hb
 clear ho1 h0;obtain⟨vc,vo,vw,vf,f,hh⟩:=h.hp;have HS:=Qa (fun w' (hw:Ae w.1.size w w')=>Ut (hh.below hw) hk.H.ok hp)
 have HC:=(fun w' (hw:Ae w.1.size w w')=>U1 (h.below hw) hk (An.AV hi) p)
 have e1:S.H.sec p=ob.second:=by unfold Hp.sec;rw[hp]
 rw[e1,hc]at HC;replace HC:=Qa HC;have HL:=Qa (fun w' (hw:Ae w.1.size w w')=>Q6 (h.below hw) hk hi p)
 obtain⟨vt,jx,_⟩:=(h.Au i _ (An.AV hi)).AM;unfold zw at jx;obtain⟨vq,vl,vm,jb,_⟩:=h.AM;unfold qw at jb;have c:=jb.cell;have sb:=jb.lt;generalize um (S.t i).log.reads p (S.t i).log.mr=nb at *;generalize S.tx i ((S.t i).read p)=S' at *;clear h hk hh hp hc e1;obtain⟨⟨sp,sd,wk,fn⟩,fr,se,sr,ps,ns⟩:=ob;simp only at HS;go_enter func118,ntmps118;go_wp2_with fail;refine (HS.out _ (qc (qd w) _)).mono ?_
 rintro e w1 ⟨rfl,hb1⟩
 have jR:=(Al.new w #[I Z 0,I Z 0,.bool false,.bool false] 93).below hb1 (by simp)
 have hw1:=qe (qc (qd w) (ARu #[I Z 0,I Z 0,.bool false,.bool false] 93)) hb1;have hz1:w.1.size<w1.1.size:=jR.lt;clear hb1;go_wp2_with fail;refine (HC.out _ (qc hw1 _)).mono ?_
 rintro e w2 ⟨rfl,hb2⟩
 have dY:=(jR.alloc (ARu #[I Z sp,I Z sd,.bool wk,.bool fn] 93)).below hb2 (jR.alloc _).lt;have dF:=(Al.new w1 #[I Z sp,I Z sd,.bool wk,.bool fn] 93).below hb2 (by simp)
 have hw2:=qe (qc hw1 (ARu #[I Z sp,I Z sd,.bool wk,.bool fn] 93)) hb2;clear hb2 jR c;have cx:=(jx.below hw2 jx.lt).cell;go_wp2_with fail;refine (HL.out _ hw2).mono ?_
 rintro e w3 ⟨rfl,o3,hl3,hs3⟩
 have hnb:∀ b,w.1.size<=b->¬qo y (o1 b):=fun b hb=>by rw[hbx b hb];exact qy y
 have gV:=dY.Ao hs3 (hnb _ (Qk _));have t3:o3 w.1.size=(y.l.id+1,0):=(hs3.tags _ dY.lt).trans (hbx _ (Qk _));have iP:=dF.Ao hs3 (hnb _ (by omega))
 have hst:Stp (qo y) o o3 w w3:=hS0.trans ((Stp.of_below hw2).trans hs3);clear cx dY dF hs3 hnb;have cR:=gV.cell;have zR:=gV.free;have sR:=gV.lt;have cS:=iP.cell;have sS:=iP.lt;have H2:=Qa hl3;have H3:=Qa hst;clear hl3 hst hS0
 cases nb
 ·go_wp2_with fail
  refine bodyPost_ret (v:=Aj #[kw ⟨0,0,false,false⟩,I Z 130]) (by simp[results,results118,go_sem,cR]) rfl ⟨by cases fr<;>rfl,o3,?_,?_⟩
  ·repeat (first|exact H2.out|refine Aq.box ?_ t3 _)
  ·repeat (first|exact H3.out|refine Stp.setCell_new ?_ (Qk _) _)
 ·cases fr
  ·go_wp2_with fail
   refine bodyPost_ret (v:=Aj #[kw ⟨sp,sd,wk,fn⟩,I Z 0]) (by simp[results,results118,go_sem,cR]) rfl ⟨rfl,o3,?_,?_⟩
   ·repeat (first|exact H2.out|refine Aq.box ?_ t3 _)
   ·repeat (first|exact H3.out|refine Stp.setCell_new ?_ (Qk _) _)
  ·go_wp2_with fail
   refine bodyPost_ret (v:=Aj #[kw ⟨0,0,false,false⟩,I Z 142]) (by simp[results,results118,go_sem,cR]) rfl ⟨rfl,o3,?_,?_⟩
   ·repeat (first|exact H2.out|refine Aq.box ?_ t3 _)
   ·repeat (first|exact H3.out|refine Stp.setCell_new ?_ (Qk _) _)
def U3 (h:Aq w o y S)(hk:S.ok)(hi:i<S.Au.length)(p:Nat) :
  Ab ARt 118 #[ptr y.sb,ptr (y.xb i),I Z p] w fun e w' =>
   e=O (Aj #[kw (S.AO i p).2.2,I Z (S.AO i p).2.1])/\Bl y (S.AO i p).1 o w w':=by
 unfold An.AO;by_cases h0:p=0
 ·subst h0
  rw[if_pos rfl];exact (look_nil w _ _).mono fun _ _⟨a,b⟩=>⟨a,h.D1 b⟩
 ·rw[if_neg h0]
  cases hp:lk S.H.cur p with
  | none=>exact (MH h hk _ hp h0).mono fun _ _⟨a,b⟩=>⟨a,h.D1 b⟩
  | some ob =>
   simp only
   cases hc:xz i (S.t i).start ob.second with
   | true=>rw[if_pos rfl];exact (qki h hk hi hp hc h0).mono fun _ _⟨a,b⟩=>⟨a,h.D1 b⟩
   | false=>rw[if_neg (by simp)];exact MG h hk hi hp hc h0
def gk (h:Aq w o y S)(hk:S.ok)(hi:i<S.Au.length)(p:Nat) :
  Ab ARt 136 #[ptr y.sb,ptr (y.xb i),I Z p] w fun e w'=>e=O (I Z (S.Ar i p).2)/\Bl y (S.Ar i p).1 o w w':=by
 have HL:=U3 h hk hi p;unfold An.Ar;generalize S.AO i p=r at *;obtain⟨S',e',s⟩:=r;obtain⟨sp,sd,wk,fn⟩:=s;simp only at HL ⊢;replace HL:=Qa HL;clear h hk hi;by_cases he:e'=0
 ·subst he
  cases wk
  all_goals
   go_enter func136,ntmps136;go_wp2_with fail;refine HL.out.mono ?_;rintro e w1⟨rfl,o1,hs1,hst⟩;go_wp2_with fail;go_ret;exact⟨rfl,o1,hs1.alloc _,hst.alloc _⟩
 ·rw[if_neg he]
  have hb:(e'==0)=false:=by rw[Qh];exact he
  go_enter func136,ntmps136;go_wp2_with fail;refine HL.out.mono ?_;rintro e w1⟨rfl,o1,hs1,hst⟩;go_wp2_with fail;go_ret;exact⟨rfl,o1,hs1.alloc _,hst.alloc _⟩
def U2 (h:Aq w o y S) (hk:S.ok) (hi:i<S.Au.length) (p:Nat) :
  Ab ARt 119 #[ptr y.sb,ptr (y.xb i),I Z p] w fun e w'=>e=O (.bool (S.Be i p).2)/\Bl y (S.Be i p).1 o w w':=by
 have HC:=Qa (US h hk p);obtain⟨hs,hv⟩:=hk.sec p;have HO:=(fun w=>Us (S.H.sec p) hv hs w)
 obtain⟨vq,vl,vm,hb,_⟩:=h.AM;unfold qw at hb;have c:=hb.cell;obtain⟨vt,jx,_⟩:=(h.Au i _ (An.AV hi)).AM;unfold zw at jx;have HL:=(fun w' (hw:Ae w.1.size w w')=>qfx (h.below hw) hk hi p (S.H.sec p/2))
 have HW:=(fun w' o' (hw:Aq w' o' y (S.A3 i p (S.H.sec p/2)).1)=>Kd hw (An.Dn hk hi p _ (by omega)) (x:=(S.A3 i p (S.H.sec p/2)).1.t i) (An.AV (by rw[yv];exact hi)) p)
 have HI:=Qa h;unfold An.Be;by_cases hod:S.H.sec p%2=1
 ·rw[if_pos hod]
  rw[if_pos hod,if_pos hod,decide_eq_true hod]at HO;replace HO:=Qa HO;generalize S.H.sec p=v at *;clear h hk hs hv hod HL HW hi;go_enter func119,ntmps119;go_wp2_with fail;refine HC.out.mono ?_;rintro e w1⟨er,rfl,hb1⟩;go_wp2_with fail;refine (HO.out _).mono ?_;rintro e w2⟨rfl,rfl⟩;go_wp2_with fail;go_ret;exact⟨rfl,HI.out.D1 hb1⟩
 ·rw[if_neg hod]
  rw[if_neg hod,if_neg hod,decide_eq_false hod]at HO;replace HO:=Qa HO;have e3:({ (S.A3 i p (S.H.sec p/2)).1 with H:=((S.A3 i p (S.H.sec p/2)).1.H.AJ p (2*i+1)).1 }:An)=(S.A3 i p (S.H.sec p/2)).1.EG i p:=rfl;simp only[e3]at HW;generalize hq:(S.A3 i p (S.H.sec p/2))=q at *;obtain⟨S2,ok⟩:=q;have hS2:ok=false->S2=S:=fun e=>by
   unfold An.A3 at hq;split at hq
   ·injection hq with _ hq;rw[e]at hq;cases hq
   ·injection hq with hq _;exact hq.symm
  simp only at HL HW ⊢;replace HL:=Qa HL;replace HW:=Qa HW;generalize S2.EG i p=S3 at *;generalize S.H.sec p/2=v2 at *;generalize S.H.sec p=v at *;replace hS2:=Qa hS2;clear h hk hs hv hod hi e3 hq
  cases ok
  ·rw[if_neg (by simp)]
   go_enter func119,ntmps119;go_wp2_with fail;refine HC.out.mono ?_;rintro e w1⟨er,rfl,hb1⟩;have cx:=(jx.below hb1 jx.lt).cell;go_wp2_with fail;refine (HO.out _).mono ?_;rintro e w2⟨rfl,rfl⟩;go_wp2_with fail;refine (HL.out _ hb1).mono ?_;rintro e w2⟨rfl,o2,jF,hs2⟩;rw[hS2.out (by simp)]at jF
   go_wp2_with fail;go_ret;exact⟨rfl,o2,jF,(Stp.of_below hb1).trans hs2⟩
  ·rw[if_pos rfl]
   go_enter func119,ntmps119;go_wp2_with fail;refine HC.out.mono ?_;rintro e w1⟨er,rfl,hb1⟩;have cx:=(jx.below hb1 jx.lt).cell;go_wp2_with fail;refine (HO.out _).mono ?_;rintro e w2⟨rfl,rfl⟩;go_wp2_with fail;refine (HL.out _ hb1).mono ?_;rintro e w2⟨rfl,o2,jF,hs2⟩;go_wp2_with fail;refine (HW.out _ _ jF).mono ?_;rintro e w3⟨rfl,dB⟩;go_wp2_with fail;go_ret;exact⟨rfl,Bl.from ((Stp.of_below hb1).trans hs2) dB⟩
def An.Bq (S:An)(i:Nat)(s:BX):An×Nat×Int:=
 if (S.H.AR s).2.2≠0 then (S,0,100) else
  if (({ S with H:=(S.H.AR s).1 }:An).A3 i (S.H.AR s).2.1 0).2=true then ((({ S with H:=(S.H.AR s).1 }:An).A3 i (S.H.AR s).2.1 0).1.EG i (S.H.AR s).2.1,(S.H.AR s).2.1,0)
  else ({ S with H:=((S.H.AR s).1.A1 (S.H.AR s).2.1 true).1 },0,130)
def An.Eo {S:An}(hk:S.ok)(hi:i<S.Au.length){s:BX}(hs:s.ok):(S.Bq i s).1.ok:=by
 unfold An.Bq;have h1:=An.EF hk hs;split
 ·exact hk
 ·split
  ·exact An.J5 (An.Dn h1 hi _ 0 (by omega)) (by rw[yv];exact hi) _
  ·exact An.Cv h1 _ _
def qmp (S:An)(i:Nat)(s:BX):(S.Bq i s).1.Au.length=S.Au.length:=by
 unfold An.Bq;split
 ·rfl
 ·split
  ·exact yv _ _ _ _
  ·rfl
def Dk (h:Aq w o y S) (hk:S.ok) (hi:i<S.Au.length) (s:BX) (hs:s.ok) :
  Ab ARt 107 #[ptr y.sb,ptr (y.xb i),kw s] w fun e w'=>e=O (Aj #[I Z ((S.Bq i s).2.1:Nat),I Z (S.Bq i s).2.2])/\Bl y (S.Bq i s).1 o w w':=by
 have hB:Ae w.1.size w (w.alloc (ARu #[I Z s.p,I Z s.d,.bool s.Az,.bool s.final] 93)).drew:=qf (qc (qd w) _);have HA:=NB (h.below hB) hk s hs;have h1:=An.EF hk hs;have HL:=(fun w' o' (hw:Aq w' o' y { S with H:=(S.H.AR s).1 })=>qfx hw h1 hi (S.H.AR s).2.1 0)
 have HW:=(fun w' o' (hw:Aq w' o' y (({ S with H:=(S.H.AR s).1 }:An).A3 i (S.H.AR s).2.1 0).1)=>Kd hw (An.Dn h1 hi _ 0 (by omega)) (x:=(({ S with H:=(S.H.AR s).1 }:An).A3 i (S.H.AR s).2.1 0).1.t i) (An.AV (by rw[yv];exact hi)) (S.H.AR s).2.1)
 have HF:=(fun w' o' (hw:Aq w' o' y { S with H:=(S.H.AR s).1 })=>m7 hw h1 (S.H.AR s).2.1 true)
 have HX:=(fun w' o' (hw:Aq w' o' y { S with H:=(S.H.AR s).1 })=>(hw.Au i _ (An.AV hi)).cell)
 have hno:(S.H.AR s).2.2≠0->(S.H.AR s).1=S.H/\(S.H.AR s).2=(0,100):=by
  unfold Hp.AR;split
  ·intro h;exact absurd rfl h
  ·intro _;exact⟨rfl,rfl⟩
 unfold An.Bq;generalize S.H.AR s=r at *;obtain⟨H',at',er⟩:=r;simp only at HA HL HW HF HX hno ⊢;have hq0:(({ S with H:=H' }:An).A3 i at' 0).2=false->(({ S with H:=H' }:An).A3 i at' 0).1={ S with H:=H' }:=fun e=>by
  unfold An.A3 at e ⊢;split at e
  ·cases e
  ·rename_i hm;rw[if_neg hm]
 have e3:({ (({ S with H:=H' }:An).A3 i at' 0).1 with H:=((({ S with H:=H' }:An).A3 i at' 0).1.H.AJ at' (2*i+1)).1 }:An)=(({ S with H:=H' }:An).A3 i at' 0).1.EG i at':=rfl;simp only[e3]at HW;generalize hS1:({ S with H:=H' }:An)=S1 at *;generalize (S1.A3 i at' 0)=q at *;obtain⟨S2,ok⟩:=q;simp only at HL HW hq0 ⊢;generalize S2.EG i at'=S3 at *;generalize dR:({ S1 with H:=(S1.H.A1 at' true).1 }:An)=S4 at *;have zM:({ S with H:=(H'.A1 at' true).1 }:An)=S4:=by rw[<-dR,<-hS1]
 rw[zM];have HA':=Qa HA;have yQ:=Qa zM;obtain⟨vq,vl,vm,jb,_⟩:=h.AM;have jb:=jb;unfold qw at jb;have c:=jb.cell;have sb:=jb.lt;have HLh:=Qa HL;have HWh:=Qa HW;have HFh:=Qa HF;have HXh:=Qa HX;have hno':=Qa hno;have hq':=Qa hq0;have Ans:=Qa hS1;have hbase:=Qa (Stp.of_below (T:=qo y) (o:=o) hB);have HI:=Qa (h.below hB);clear HA HL HW HF HX hno hq0 hS1 dR zM e3 h hk h1 hB;by_cases her:er=0
 ·subst her
  rw[if_neg (by simp)]
  clear hno'
  cases ok
  ·rw[if_neg (by simp)]
   go_enter func107,ntmps107;go_upto_region 1 with fail;obtain⟨W,hW⟩:=Ja0 (w.alloc (ARu #[I Z s.p,I Z s.d,.bool s.Az,.bool s.final] 93));have jW:=jb.alloc (ARu #[I Z s.p,I Z s.d,.bool s.Az,.bool s.final] 93);have jB:=Al.new w #[I Z s.p,I Z s.d,.bool s.Az,.bool s.final] 93;rw[<-hW]at HA' hbase jW jB ⊢;clear hW c sb HI;have c:=jW.cell;have cB:=jB.cell;go_region_with (first|(go_at_call 167;refine HA'.out.mono ?_;rintro e w1⟨rfl,o1,hS1,hs1⟩)|fail)
   all_goals
    obtain⟨vt,cx⟩:=HXh.out _ _ hS1;clear c cB;go_wp2_with fail;refine (HLh.out _ _ hS1).mono ?_;rintro e w2⟨rfl,o2,hS2,hs2⟩;rw[hq'.out (by simp)]at hS2
    clear cx;obtain⟨vq,vl,vm,nK,_⟩:=hS2.AM;unfold qw at nK;have c2:=nK.cell;go_wp2_with fail;refine (HFh.out _ _ hS2).mono ?_;rintro e w3⟨rfl,dB⟩;rw[yQ.out]at dB;go_wp2_with fail;go_ret2;exact⟨rfl,Bl.from (hbase.out.trans (hs1.trans hs2)) dB⟩
  ·rw[if_pos rfl]
   go_enter func107,ntmps107;go_upto_region 1 with fail;obtain⟨W,hW⟩:=Ja0 (w.alloc (ARu #[I Z s.p,I Z s.d,.bool s.Az,.bool s.final] 93));have jW:=jb.alloc (ARu #[I Z s.p,I Z s.d,.bool s.Az,.bool s.final] 93);have jB:=Al.new w #[I Z s.p,I Z s.d,.bool s.Az,.bool s.final] 93;rw[<-hW]at HA' hbase jW jB ⊢;clear hW c sb HI;have c:=jW.cell;have cB:=jB.cell;go_region_with (first|(go_at_call 167;refine HA'.out.mono ?_;rintro e w1⟨rfl,o1,hS1,hs1⟩)|fail)
   all_goals
    obtain⟨vt,cx⟩:=HXh.out _ _ hS1;clear c cB;go_wp2_with fail;refine (HLh.out _ _ hS1).mono ?_;rintro e w2⟨rfl,o2,hS2,hs2⟩;clear cx;go_wp2_with fail;refine (HWh.out _ _ hS2).mono ?_;rintro e w3⟨rfl,dB⟩;go_wp2_with fail;go_ret2;exact⟨rfl,Bl.from (hbase.out.trans (hs1.trans hs2)) dB⟩
 ·rw[if_pos her]
  obtain⟨rfl,e2⟩:=hno'.out her;injection e2 with e2 e3;subst e2 e3;have hSS:S1=S:=by rw[<-Ans.out]
  go_enter func107,ntmps107;go_upto_region 1 with fail;obtain⟨W,hW⟩:=Ja0 (w.alloc (ARu #[I Z s.p,I Z s.d,.bool s.Az,.bool s.final] 93));have jW:=jb.alloc (ARu #[I Z s.p,I Z s.d,.bool s.Az,.bool s.final] 93);have jB:=Al.new w #[I Z s.p,I Z s.d,.bool s.Az,.bool s.final] 93;rw[<-hW]at HA' hbase jW jB ⊢;clear hW c sb HI;have c:=jW.cell;have cB:=jB.cell;replace hSS:=Qa hSS;go_region_with (first|(go_at_call 167;refine HA'.out.mono ?_;rintro e w1⟨rfl,o1,hS1,hs1⟩)|fail)
  all_goals
   clear c cB;go_wp2_with fail;go_ret2;refine⟨rfl,o1,?_,hbase.out.trans hs1⟩;rw[<-hSS.out];exact hS1
end
end
section
open Hp
def Hp.Cr (H:Hp)(u:Un):Hp:=
 if u.kind=1 then (H.Br u.pos u.i u.old.toNat).1 else if u.kind=2 then (H.BO u.pos u.i u.old).1 else if u.kind=3 then (H.A1 u.pos (decide (u.old≠0))).1 else H
def Hp.Cx (H:Hp)(us:List Un):Hp:=us.foldr (fun u H=>H.Cr u) H
def Hp.D7 (H:Hp)(z:Nat×Nat):Hp:=if z.2=0 then ((H.AJ z.1 (2*z.2)).1.A1 z.1 true).1 else (H.AJ z.1 (2*z.2)).1
def Hp.C1 (H:Hp)(zs:List (Nat×Nat)):Hp:=zs.foldl Hp.D7 H
def An.h (S:An)(H:Hp):An:={ S with H:=H }
def An.Cs (S:An)(i:Nat):An:=if S.Av=(i:Int) then { S with queue:=(S.t i).AP++S.queue,Av:=-1 } else S
def An.abort (S:An)(i:Nat):An:=((S.h ((S.H.Cx (S.t i).log.Ay).C1 (S.t i).log.holds)).Cs i).tx i (S.t i).ended
def An.J8 {S:An}(hk:S.ok){u:Un}(h1:-9223372036854775808<=u.old/\u.old<=9223372036854775807):(S.h (S.H.Cr u)).ok:=by
 unfold Hp.Cr;split
 ·exact An.Dx hk _ _ _
 ·split
  ·exact An.Eg hk _ _ h1
  ·split
   ·exact An.Cv hk _ _
   ·exact hk
def An.Dq {S:An}(hk:S.ok):∀ (us:List Un),(∀ u ∈ us,-9223372036854775808<=u.old/\u.old<=9223372036854775807)->(S.h (S.H.Cx us)).ok
 | [],_=>hk
 | u::us,h=>An.J8 (An.Dq hk us fun z hz=>h z (.tail _ hz)) (h u (.head _))
def An.Fh {S:An}(hk:S.ok)(p:Nat){v:Nat}(hv:v<=1099511627776):(S.h (S.H.AJ p (2*v)).1).ok:=An.CI hk _ (by omega) fun h=>by omega
def An.MS {S:An}(hk:S.ok){z:Nat×Nat}(hz:z.2<=1099511627776):(S.h (S.H.D7 z)).ok:=by
 have h1:(S.h (S.H.AJ z.1 (2*z.2)).1).ok:=An.CI hk _ (by omega) fun h=>by omega
 unfold Hp.D7;split
 ·exact An.Cv h1 _ _
 ·exact h1
def An.Er:∀ (zs:List (Nat×Nat)){S:An},S.ok->(∀ z ∈ zs,z.2<=1099511627776)->(S.h (S.H.C1 zs)).ok
 | [],_,hk,_=>hk
 | z::zs,S,hk,h=>An.Er zs (S:=S.h (S.H.D7 z)) (An.MS hk (h z (.head _))) fun x hx=>h x (.tail _ hx)
def qnf (H:Hp)(zs:List (Nat×Nat))(z:Nat×Nat):H.C1 (zs++[z])=(H.C1 zs).D7 z:=by unfold Hp.C1;rw[aU];rfl
def UO:∀ (l:List Tx)(i:Nat)(x:Tx),l[i]?=some x->x.AP.length<=wg l
 | [],i,x,h=>by simp at h
 | q::l,0,x,h=>by simp at h;subst h;simp[wg]
 | q::l,i+1,x,h=>by have:=UO l i x (by simpa using h);simp[wg];omega
def An.Dm {S:An}(hk:S.ok){i:Nat}(hi:i<S.Au.length){q:List (Nat×Nat)}{z:Int}{v:Nat}(hq:q.length<=S.queue.length+(S.t i).AP.length)(hz:-1<=z/\z<=8)(hv:v<=S.now):An.ok (({ S with queue:=q,Av:=z,version:=v }:An).tx i (S.t i).ended):=by
 have hx:=An.AV hi;have hl:=yy S.Au i (S.t i).ended _ hx;have ht:=yx S.Au i (S.t i).ended _ hx;have hmem:∀ z ∈ S.Au.set i (S.t i).ended,z ∈ S.Au\/z=(S.t i).ended:=fun z hz=>List.mem_or_eq_of_mem_set hz
 have hl2:kp (S.Au.set i (S.t i).ended)<=kp S.Au:=by
  have:(if (S.t i).ended.live=true then 1 else 0)=0:=rfl;rw[this]at hl;omega
 have e0:(S.t i).ended.AP=[]:=rfl;rw[e0]at ht;simp only[aC]at ht;refine⟨hk.H,hk.n2,by show S.now+kp (S.Au.set i (S.t i).ended)<=S.most;have:=hk.lv;omega,by simpa [An.tx] using hk.t1,by simpa [An.tx] using hk.t8,fun z hz=>?_,fun z hz=>?_,hv,hz,hk.sc,hk.so,by show q.length+wg (S.Au.set i (S.t i).ended)<=S.next;have:=hk.qu;omega,hk.nx,hk.cm,fun z hz=>?_,hk.ph⟩
 ·rcases hmem z hz with h|rfl
  ·exact hk.lg z h
  ·exact Lg.FC (hk.Ee hi)
 ·rcases hmem z hz with h|rfl
  ·exact hk.st z h
  ·exact hk.VZ hi
 ·rcases hmem z hz with h|rfl
  ·exact hk.se z h
  ·exact hk.set hi
def An.DN {S:An} (hk:S.ok) {i:Nat} (hi:i<S.Au.length):(S.abort i).ok:=by
 have hL:=hk.Ee hi;have h2:(S.h ((S.H.Cx (S.t i).log.Ay).C1 (S.t i).log.holds)).ok:=An.Er _ (An.Dq hk _ hL.un) hL.hv;unfold An.abort An.Cs;split
 ·exact An.Dm (S:=S.h ((S.H.Cx (S.t i).log.Ay).C1 (S.t i).log.holds)) h2 (i:=i) hi (z:=-1) (v:=S.version) (by rw[Qd];show (S.t i).AP.length+S.queue.length<=S.queue.length+(S.t i).AP.length;omega) (by omega) hk.ve
 ·exact An.Dm (S:=S.h ((S.H.Cx (S.t i).log.Ay).C1 (S.t i).log.holds)) h2 (i:=i) hi (q:=S.queue) (z:=S.Av) (v:=S.version) (by show S.queue.length<=S.queue.length+_;omega) hk.ho hk.ve
def qn2 (S:An)(i:Nat):(S.abort i).Au.length=S.Au.length:=by
 unfold An.abort An.Cs;split<;>simp[An.tx,An.h]
def Hp.now (H:Hp)(p:Nat):Nat:=match BK H.old p with|some (_,some q)=>q|_=>p
def qjo (l:List (Nat×Ob×Option Nat))(p q r:Nat){ob:Ob}{g:Nat}(h:BK l r=some (ob,some g))(hp:BK l p=none\/(∃ z,BK l p=some (z,none))):BK (zz l p q) r=some (ob,some g):=by
 rw[Tw];split
 ·rename_i e;subst e
  rcases hp with hp|⟨z,hp⟩
  ·rw[hp]at h;cases h
  ·rw[hp]at h;cases h
 ·exact h
def qbq {H:Hp}(p:Nat){r:Nat}{ob:Ob}{g:Nat}(h:BK H.old r=some (ob,some g)):BK (H.AB p).1.old r=some (ob,some g):=by
 unfold Hp.AB;split
 ·exact h
 ·exact h
 ·rename_i z hp
  exact qjo _ _ _ _ h (.inr ⟨_,hp⟩)
def qa9 {H:Hp}(p:Nat){r:Nat}(h:BK H.old r=none):BK (H.AB p).1.old r=none:=by
 unfold Hp.AB;split
 ·exact h
 ·exact h
 ·rename_i z hp
  show BK (zz H.old p H.top) r=none;rw[Tw];split
  ·rename_i e;subst e;rw[h];rfl
  ·exact h
def qon {H:Hp}(p:Nat):(BK (H.AB p).1.old p=none/\(H.AB p).2=p)\/∃ ob,BK (H.AB p).1.old p=some (ob,some (H.AB p).2):=by
 unfold Hp.AB;split
 ·rename_i h;exact .inl ⟨h,rfl⟩
 ·rename_i ob q h;exact .inr ⟨ob,h⟩
 ·rename_i ob h
  refine .inr ⟨ob,?_⟩;show BK (zz H.old p H.top) p=some (ob,some H.top);rw[Tw,if_pos rfl,h];rfl
def Ws:∀ (l:List Nat){H:Hp}{r:Nat}{ob:Ob}{g:Nat},BK H.old r=some (ob,some g)->BK (H.Ax l).1.old r=some (ob,some g)
 | [],_,_,_,_,h=>h
 | p::l,_,_,_,_,h=>Ws l (qbq p h)
def WN:∀ (l:List Nat){H:Hp}{r:Nat},BK H.old r=none->BK (H.Ax l).1.old r=none
 | [],_,_,h=>h
 | p::l,_,_,h=>WN l (qa9 p h)
def XW:∀ (l:List Nat)(H:Hp),(H.Ax l).2=l.map (H.Ax l).1.now
 | [],_=>rfl
 | p::l,H=>by
  show (H.AB p).2::((H.AB p).1.Ax l).2=((H.AB p).1.Ax l).1.now p::l.map ((H.AB p).1.Ax l).1.now;rw[XW l (H.AB p).1];congr 1;unfold Hp.now;rcases qon (H:=H) p with⟨h1,h2⟩|⟨ob,h1⟩
  ·rw[WN l h1,h2]
  ·rw[Ws l h1]
def QQ {H:Hp}(hk:H.ok){p:Nat}{b:Nat}(hb:131072<=b)(hp:p<=b):H.now p<=b:=by
 unfold Hp.now;split
 ·rename_i ob q h;have:=(hk.gone _ (ku h) q rfl).2;omega
 ·exact hp
def Un.places (u:Un):List Nat:=if u.kind=1 then [u.pos,u.old.toNat] else [u.pos]
def Lg.roots (L:Lg):List Nat:=L.reads++L.keeps++L.holds.map (·.1)++L.Ay.flatMap Un.places
def E7 (g:Nat->Nat)(l:List (Nat×Nat)):List (Nat×Nat):=l.map fun z=>(g z.1,z.2)
def Un.at' (g:Nat->Nat)(u:Un):Un:=if u.kind=1 then { u with pos:=g u.pos,old:=g u.old.toNat } else { u with pos:=g u.pos }
def Lg.at' (g:Nat->Nat)(L:Lg):Lg:={ L with reads:=L.reads.map g,keeps:=L.keeps.map g,holds:=E7 g L.holds,Ay:=L.Ay.map (Un.at' g) }
def Tx.at' (g:Nat->Nat)(x:Tx):Tx:={ x with log:=x.log.at' g,AP:=E7 g x.AP }
def Tx.places (x:Tx):List Nat:=x.log.roots++x.AP.map (·.1)
def An.places (S:An)(roots:List Nat):List Nat:=roots++S.queue.map (·.1)++S.Au.flatMap Tx.places
def An.at' (S:An)(g:Nat->Nat):An:={ S with Au:=S.Au.map (Tx.at' g),queue:=E7 g S.queue }
def An.begun (S:An)(roots:List Nat):An:={ S with H:=(S.H.flip.Ax (S.places roots)).1,ph:=1 }
def An.may (S:An)(roots:List Nat):Bool:=decide (S.ph=0)&&roots.all fun r=>decide (r=0)||(lk S.H.cur r).isSome
def An.AF (S:An)(roots:List Nat):An×List Nat×Bool:=
 if S.may roots=true then ((S.begun roots).at' (S.begun roots).H.now,roots.map (S.begun roots).H.now,true) else (S,[],false)
def Lg.PX {L:Lg} (h:L.fit) {H:Hp} (hk:H.ok):(L.at' H.now).fit:=by
 refine⟨⟨h.ok.mr,h.ok.mu,by simpa [Lg.at'] using h.ok.r,by simpa [Lg.at'] using h.ok.k,by simpa [Lg.at',E7] using h.ok.h,by simpa [Lg.at'] using h.ok.u⟩,fun z hz=>?_,fun u hu=>?_,fun u hu=>?_⟩
 ·obtain⟨y,hy,rfl⟩:=Qt.1 (show z ∈ L.holds.map _ from hz)
  exact h.hv y hy
 ·obtain⟨y,hy,rfl⟩:=Qt.1 (show u ∈ L.Ay.map _ from hu)
  unfold Un.at';split
  ·have h1:=h.un y hy
   have h2:=QQ hk (p:=y.old.toNat) (b:=9223372036854775807) (by omega) (by omega)
   simp only;omega
  ·exact h.un y hy
 ·obtain⟨y,hy,rfl⟩:=Qt.1 (show u ∈ L.Ay.map _ from hu)
  unfold Un.at';split
  ·intro _;simp only;omega
  ·intro h1;exact h.kd y hy h1
def qji (g:Nat->Nat):∀ (l:List Tx),wg (l.map (Tx.at' g))=wg l
 | []=>rfl
 | x::l=>by simp[wg,qji g l,Tx.at',E7]
def qip (g:Nat->Nat):∀ (l:List Tx),kp (l.map (Tx.at' g))=kp l
 | []=>rfl
 | x::l=>by rw[aJ,kz,kz,qip g l];rfl
def An.Su {S:An}(hk:S.ok){H:Hp}(hH:H.ok):(S.at' H.now).ok:=by
 refine⟨hk.H,hk.n2,by show S.now+kp (S.Au.map _)<=S.most;rw[qip];exact hk.lv,by simpa [An.at'] using hk.t1,by simpa [An.at'] using hk.t8,fun x hx=>?_,fun x hx=>?_,hk.ve,hk.ho,hk.sc,hk.so,?_,hk.nx,hk.cm,fun x hx=>?_,hk.ph⟩
 ·obtain⟨z,hz,rfl⟩:=Qt.1 (show x ∈ S.Au.map _ from hx)
  exact Lg.PX (hk.lg z hz) hH
 ·obtain⟨z,hz,rfl⟩:=Qt.1 (show x ∈ S.Au.map _ from hx)
  exact hk.st z hz
 ·show (E7 H.now S.queue).length+wg (S.Au.map _)<=S.next
  rw[qji];simpa [E7] using hk.qu
 ·obtain⟨z,hz,rfl⟩:=Qt.1 (show x ∈ S.Au.map _ from hx)
  exact hk.se z hz
def Cb.flip {H:Hp}(h:Cb H):Cb H.flip:=
 ⟨fun x hx=>(by cases hx),fun x hx=>by obtain⟨z,hz,rfl⟩:=Qt.1 (show x ∈ H.cur.map _ from hx);exact h.1 z hz⟩
def An.DO {S:An}(hk:S.ok)(h0:S.ph=0)(roots:List Nat):(S.begun roots).ok:=by
 have hm:S.H.AD=false:=hk.ph.2.1 h0;have hf:=Hp.Fa hk.H hm;have hs:=xl (S.places roots) S.H.flip;have hse:=Cb.Ax (S.places roots) hk.Es.flip;refine⟨Hp.BU _ hf,hk.n2,hk.lv,hk.t1,hk.t8,hk.lg,hk.st,hk.ve,hk.ho,hse.1,hse.2,hk.qu,?_,hk.cm,hk.se,⟨by show 1<=2;omega,?_⟩⟩
 ·show S.next+(S.H.flip.Ax (S.places roots)).1.final.length<=(S.H.flip.Ax (S.places roots)).1.Aw
  rw[hs.2.2.2.2.2.2.1,hs.2.2.2.2.1];exact hk.nx
 ·show 1=0↔(S.H.flip.Ax (S.places roots)).1.AD=false
  rw[hs.2.2.1];exact⟨fun h=>by omega,fun h=>by cases h⟩
def VQ {S:An}{roots:List Nat}(h:S.may roots=true):S.ph=0:=by unfold An.may at h;simp only[af,decide_eq_true_eq]at h;exact h.1
def qhz {S:An}(hk:S.ok)(roots:List Nat):(S.AF roots).1.ok:=by
 unfold An.AF;split
 ·rename_i h;exact An.Su (An.DO hk (VQ h) roots) (An.DO hk (VQ h) roots).H.ok
 ·exact hk
def qgn (S:An)(roots:List Nat):(S.AF roots).1.Au.length=S.Au.length:=by
 unfold An.AF;split
 ·simp[An.at',An.begun]
 ·rfl
def An.Dv (S:An):An×List Nat×Bool:=
 if S.ph=0 then (S,[],false) else if S.H.Ba.2=true then (S.h S.H.Ba.1,[],false)
 else if S.ph=1 then ({ S with H:=S.H.A8.1,ph:=2 },S.H.A8.2,false)
 else ({ S with H:=S.H.drop.1,ph:=0,lost:=S.lost++S.H.drop.2.1 },[],true)
def Hp.Di (H:Hp)(p:Nat):Bool:=match lk H.cur p with|some ob=>ob.CC|none=>false
def An.A9 (S:An)(p:Nat):An:=
 if S.H.Di p=true\/100<=S.queue.length then S else { S with queue:=S.queue++[(p,S.next)],came:=S.came++[(S.H.C2 p).1],next:=S.next+1 }
def An.Bd (S:An)(l:List Nat):An:=l.foldl An.A9 S
def An.B9 (S:An):An×Bool:=(S.Dv.1.Bd S.Dv.2.1,S.Dv.2.2)
def qh2 (S:An)(l:List Nat)(p:Nat):S.Bd (l++[p])=(S.Bd l).A9 p:=by unfold An.Bd;rw[aU];rfl
def Cb.Ba {H:Hp}(h:Cb H):Cb H.Ba.1:=by
 unfold Hp.Ba;split
 ·exact h
 ·split
  ·exact h
  ·rename_i ob hp
   split
   ·exact h
   ·have h2:=Cb.Ax ob.Bc h
    exact⟨TW (P:=uq) h2.1 (h.1 _ (kj hp)),h2.2⟩
def Cb.drop1 {H:Hp}(h:Cb H)(p:Nat):Cb (H.drop1 p).1:=by
 unfold Hp.drop1;split
 ·exact h
 ·rename_i ob hp
  have ho:=h.1 _ (kj hp);split
  ·exact h
  ·split
   ·exact h
   ·exact⟨TW (P:=uq) h.1 ho,h.2⟩
   ·exact⟨TW (P:=uq) h.1 ho,h.2⟩
def Cb.AZ:∀ (l:List Nat){H:Hp},Cb H->Cb (H.AZ l).1
 | [],_,h=>h
 | p::l,_,h=>Cb.AZ l (h.drop1 p)
def qko (H:Hp):H.Ba.1.AD=H.AD/\H.Ba.1.final=H.final/\H.Ba.1.Aw=H.Aw/\H.Ba.1.Az=H.Az:=by
 unfold Hp.Ba;split
 ·exact⟨rfl,rfl,rfl,rfl⟩
 ·split
  ·exact⟨rfl,rfl,rfl,rfl⟩
  ·rename_i ob hp
   split
   ·exact⟨rfl,rfl,rfl,rfl⟩
   ·have h:=xl ob.Bc H
    exact⟨h.2.2.1,h.2.2.2.2.2.2.1,h.2.2.2.2.1,h.2.2.2.2.2.1⟩
def qiz (H:Hp)(p:Nat):(H.drop1 p).1.final=H.final/\(H.drop1 p).1.Aw=H.Aw:=by
 unfold Hp.drop1;split
 ·exact⟨rfl,rfl⟩
 ·split
  ·exact⟨rfl,rfl⟩
  ·split<;>exact⟨rfl,rfl⟩
def WB:∀ (l:List Nat)(H:Hp),(H.AZ l).1.final=H.final/\(H.AZ l).1.Aw=H.Aw
 | [],_=>⟨rfl,rfl⟩
 | p::l,H=>by
  have h1:=qiz H p;have h2:=WB l (H.drop1 p).1;exact⟨h2.1.trans h1.1,h2.2.trans h1.2⟩
def lh {S:An}(hk:S.ok):S.Dv.1.ok/\S.Dv.1.next+S.Dv.1.H.final.length+S.Dv.2.1.length<=S.Dv.1.H.Aw:=by
 have hnx:=hk.nx;unfold An.Dv;split
 ·exact⟨hk,by simpa using hnx⟩
 ·rename_i qE
  have hmv:S.H.AD=true:=by
   cases hm:S.H.AD with
   | true=>rfl
   | false=>exact absurd (hk.ph.2.2 hm) qE
  split
  ·have h:=qko S.H
   refine⟨An.MP hk (Hp.KA hk.H) hk.Es.Ba.1 hk.Es.Ba.2 (by rw[h.2.1,h.2.2.1];exact hnx) h.1,?_⟩
   show S.next+S.H.Ba.1.final.length+0<=S.H.Ba.1.Aw;rw[h.2.1,h.2.2.1];omega
  ·split
   ·have e:S.H.A8=Hp.Ax { S.H with final:=S.H.stay S.H.final } (S.H.BQ S.H.final):=by unfold Hp.A8;rw[if_neg (by rw[hmv];simp)]
    have hs:=xl (S.H.BQ S.H.final) { S.H with final:=S.H.stay S.H.final };have hl:=wa (S.H.BQ S.H.final) { S.H with final:=S.H.stay S.H.final };have hst:=vy S.H S.H.final;have hse:Cb (Hp.Ax { S.H with final:=S.H.stay S.H.final } (S.H.BQ S.H.final)).1:=Cb.Ax _ ⟨hk.Es.1,hk.Es.2⟩;have hw:=Hp.Fz hk.H;rw[e]at hw ⊢;have e1:=hs.2.2.2.2.2.2.1;have e2:=hs.2.2.2.2.1;have e3:=hs.2.2.1;refine⟨⟨hw,hk.n2,hk.lv,hk.t1,hk.t8,hk.lg,hk.st,hk.ve,hk.ho,hse.1,hse.2,hk.qu,?_,hk.cm,hk.se,⟨by show 2<=2;omega,?_⟩⟩,?_⟩
    ·simp only[e1,e2];omega
    ·show 2=0↔_
     exact⟨fun h=>by omega,fun h=>by
      have e4:(Hp.Ax { S.H with final:=S.H.stay S.H.final } (S.H.BQ S.H.final)).1.AD=false:=h;rw[e3]at e4;exact absurd (e4:S.H.AD=false) (by rw[hmv];simp)⟩
    ·simp only[e1,e2,hl];omega
   ·rename_i h1 h2
    have hsc:S.H.scan=S.H.top:=by
     refine Classical.byContradiction fun hne=>h1 ?_;obtain⟨ob,eQ,_⟩:=VA hk.H hmv hne;unfold Hp.Ba;rw[if_neg (by rw[hmv];simp[hne]),eQ]
     simp only;split<;>rfl
    have e:S.H.drop=((S.H.settled.AZ S.H.settled.Az).1.rest,(S.H.settled.AZ S.H.settled.Az).2,true):=by
     unfold Hp.drop;rw[if_neg (by rw[hmv];simp[hsc])]
    have hd:=WB S.H.settled.Az S.H.settled;have hw:=Hp.LY hk.H;have hst:=vy S.H S.H.final;have hse:Cb (S.H.settled.AZ S.H.settled.Az).1:=Cb.AZ _ (H:=S.H.settled) ⟨hk.Es.1,hk.Es.2⟩;rw[e]at hw ⊢;have e1:(S.H.settled.AZ S.H.settled.Az).1.rest.final=S.H.stay S.H.final:=hd.1;have e2:(S.H.settled.AZ S.H.settled.Az).1.rest.Aw=S.H.Aw:=hd.2;refine⟨⟨hw,hk.n2,hk.lv,hk.t1,hk.t8,hk.lg,hk.st,hk.ve,hk.ho,hse.1,fun x hx=>(by cases hx),hk.qu,?_,hk.cm,hk.se,⟨by show 0<=2;omega,?_⟩⟩,?_⟩
    ·simp only[e1,e2];omega
    ·show 0=0↔_
     exact⟨fun _=>rfl,fun _=>rfl⟩
    ·simp only[e1,e2,aC];omega
def qph {S:An}(hk:S.ok)(p:Nat){k:Nat}(h:S.next+S.H.final.length+(k+1)<=S.H.Aw):(S.A9 p).ok/\(S.A9 p).next+(S.A9 p).H.final.length+k<=(S.A9 p).H.Aw/\(S.A9 p).H=S.H/\(S.A9 p).Au=S.Au:=by
 unfold An.A9;split
 ·exact⟨hk,by omega,rfl,rfl⟩
 ·refine⟨⟨hk.H,hk.n2,hk.lv,hk.t1,hk.t8,hk.lg,hk.st,hk.ve,hk.ho,hk.sc,hk.so,?_,?_,?_,fun x hx=>Qu (hk.se x hx),hk.ph⟩,?_,rfl,rfl⟩
  ·have:=hk.qu;simp only[Qd,aP];omega
  ·simp only;omega
  ·have:=hk.cm;simp only[Qd,aP];omega
  ·simp only;omega
def bm:∀ (l:List Nat){S:An},S.ok->S.next+S.H.final.length+l.length<=S.H.Aw->(S.Bd l).ok/\(S.Bd l).Au=S.Au/\(S.Bd l).H=S.H
 | [],_,hk,_=>⟨hk,rfl,rfl⟩
 | p::l,S,hk,h=>by
  obtain⟨h1,h2,h3,h4⟩:=qph hk p (k:=l.length) (by simpa using h)
  obtain⟨h5,h6,h7⟩:=bm l h1 h2;exact⟨h5,h6.trans h4,h7.trans h3⟩
def qii {S:An}(hk:S.ok):S.B9.1.ok:=(bm _ (lh hk).1 (lh hk).2).1
end
section
open Go.RowKit Hp
def vi:List (Nat×Nat)->List Nat->List (Nat×Nat)
 | [],_=>[]
 | z::zs,l=>(l.headD 0,z.2)::vi zs l.tail
def xc:List Un->List Nat->List Un
 | [],_=>[]
 | u::us,l=>if u.kind=1 then { u with pos:=l.headD 0,old:=((l.tail.headD 0:Nat):Int) }::xc us l.tail.tail else { u with pos:=l.headD 0 }::xc us l.tail
def Lg.put (L:Lg)(l:List Nat):Lg:=
 { L with reads:=l.take L.reads.length,keeps:=(l.drop L.reads.length).take L.keeps.length,holds:=vi L.holds (l.drop (L.reads.length+L.keeps.length)),Ay:=xc L.Ay (l.drop (L.reads.length+L.keeps.length+L.holds.length)) }
def de:∀ (zs:List (Nat×Nat))(l:List Nat),(vi zs l).length=zs.length
 | [],_=>rfl
 | z::zs,l=>by simp[vi,de zs]
def UH:∀ (us:List Un)(l:List Nat),(xc us l).length=us.length
 | [],_=>rfl
 | u::us,l=>by unfold xc;split<;>simp[UH us]
def Tq (g:Nat->Nat):∀ (zs:List (Nat×Nat))(l:List Nat),vi zs ((zs.map (·.1)).map g++l)=E7 g zs
 | [],_=>rfl
 | z::zs,l=>by
  show ((g z.1::((zs.map (·.1)).map g++l)).headD 0,z.2)::vi zs (g z.1::((zs.map (·.1)).map g++l)).tail=(g z.1,z.2)::E7 g zs;simp only[ai,aa,Tq g zs l]
def UP (g:Nat->Nat):∀ (us:List Un),xc us ((us.flatMap Un.places).map g)=us.map (Un.at' g)
 | []=>rfl
 | u::us=>by
  rw[ag,Qx,aJ];unfold xc Un.places Un.at';split
  ·simp only[aJ,bG,aW,aX,ai,aa]
   exact congrArg _ (UP g us)
  ·simp only[aJ,bG,aW,aX,ai,aa]
   exact congrArg _ (UP g us)
def ql7 (L:Lg)(g:Nat->Nat):L.put (L.roots.map g)=L.at' g:=by
 unfold Lg.put Lg.at' Lg.roots;simp only[Qx];have e1:(L.reads.map g++L.keeps.map g++(L.holds.map (·.1)).map g++(L.Ay.flatMap Un.places).map g).take L.reads.length=L.reads.map g:=by
  rw[Ad,Ad,aY (by simp)]
 have e2:(L.reads.map g++L.keeps.map g++(L.holds.map (·.1)).map g++(L.Ay.flatMap Un.places).map g).drop L.reads.length=L.keeps.map g++((L.holds.map (·.1)).map g++(L.Ay.flatMap Un.places).map g):=by
  rw[Ad,Ad,aM (by simp)]
 have e3:(L.reads.map g++L.keeps.map g++(L.holds.map (·.1)).map g++(L.Ay.flatMap Un.places).map g).drop (L.reads.length+L.keeps.length)=(L.holds.map (·.1)).map g++(L.Ay.flatMap Un.places).map g:=by
  rw[Ad,aM (by simp)]
 have e4:(L.reads.map g++L.keeps.map g++(L.holds.map (·.1)).map g++(L.Ay.flatMap Un.places).map g).drop (L.reads.length+L.keeps.length+L.holds.length)=(L.Ay.flatMap Un.places).map g:=by
  rw[aM (by simp;omega)]
 rw[e1,e2,e3,e4,Tq,UP,aY (by simp)]
def YZ {L:Lg}(h:L.fit):L.put L.roots=L:=by
 have h1:=ql7 L id;rw[aO]at h1;rw[h1];unfold Lg.at';have e1:E7 id L.holds=L.holds:=by unfold E7;simp
 have e2:L.Ay.map (Un.at' id)=L.Ay:=by
  refine (List.map_congr_left fun u hu=>?_).trans (aO _);unfold Un.at';split
  ·rename_i hk
   have h0:=h.kd u hu hk;obtain⟨kd,ps,i,od⟩:=u;simp only at h0 hk ⊢;show Un.mk kd ps i ((od.toNat:Nat):Int)=Un.mk kd ps i od;rw[Int.toNat_of_nonneg h0]
  ·rfl
 rw[e1,e2,aO,aO]
def M5 (g:Nat)(s:Nat)(j:Nat):Addr:=⟨g,j*s,none⟩
def vn (v:Ac):Nat:=match v with|Ah (some a) _ _=>a.block|_=>0
def xm (g:Nat):Nat->List Un->List Addr
 | _,[]=>[]
 | j,u::us=>if u.kind=1 then⟨g,j*4+1,none⟩::⟨g,j*4+3,none⟩::xm g (j+1) us else⟨g,j*4+1,none⟩::xm g (j+1) us
def xr (vr vk vh vu:Ac)(L:Lg):List Addr:=
 (aR L.reads.length).map (M5 (vn vr) 1)++(aR L.keeps.length).map (M5 (vn vk) 1)++(aR L.holds.length).map (M5 (vn vh) 2)++xm (vn vu) 0 L.Ay
def Uy (g:Nat):∀ (us:List Un)(j:Nat),(xm g j us).length=(us.flatMap Un.places).length
 | [],_=>rfl
 | u::us,j=>by
  rw[ag,Qd];have ih:=Uy g us (j+1);by_cases hk:u.kind=1
  ·have hp:u.places.length=2:=by unfold Un.places;rw[if_pos hk];rfl
   unfold xm;rw[if_pos hk];simp only[Qv];omega
  ·have hp:u.places.length=1:=by unfold Un.places;rw[if_neg hk];rfl
   unfold xm;rw[if_neg hk];simp only[Qv];omega
def vj (vr vk vh vu:Ac)(L:Lg):(xr vr vk vh vu L).length=L.roots.length:=by
 unfold xr Lg.roots;simp only[Qd,Qg,aj,Uy]
def WU:∀ (us:List Un) (l:List Nat),(us.flatMap Un.places).length<=l.length->(xc us l).flatMap Un.places=l.take (us.flatMap Un.places).length
 | [],l,_=>by simp[xc]
 | u::us,l,h=>by
  rw[ag,Qd]at h;rw[ag (f:=Un.places) (x:=u),Qd];unfold xc;by_cases hk:u.kind=1
  ·have hp:u.places.length=2:=by unfold Un.places;rw[if_pos hk];rfl
   rw[hp]at h ⊢;rw[if_pos hk];match l,h with
   | a::b::l,h =>
    rw[ag,aa,aa,WU us l (by simp only[Qv]at h;omega)]
    show (if u.kind=1 then [a,((b:Int)).toNat] else [a])++_=_;rw[if_pos hk,Int.toNat_natCast,show 2+(us.flatMap Un.places).length=(us.flatMap Un.places).length+1+1 from by omega]
    simp
   | [a],h=>simp only[Qv,aC]at h;omega
   | [],h=>simp at h
  ·have hp:u.places.length=1:=by unfold Un.places;rw[if_neg hk];rfl
   rw[hp]at h ⊢;rw[if_neg hk];match l,h with
   | a::l,h =>
    rw[ag,aa,WU us l (by simp only[Qv]at h;omega)]
    show (if u.kind=1 then [a,u.old.toNat] else [a])++_=_;rw[if_neg hk,show 1+(us.flatMap Un.places).length=(us.flatMap Un.places).length+1 from by omega]
    simp
   | [],h=>simp only[aC]at h;omega
def UZ:∀ (zs:List (Nat×Nat))(l:List Nat)(i x:Nat),i<zs.length->zs.length<=l.length ->
  qk (vi zs (l.set i x))=(qk (vi zs l)).set (i*2) (nv x)/\(qk (vi zs l))[i*2]?=(l[i]?).map nv
 | [],_,_,_,h,_=>by simp at h
 | z::zs,[],_,_,_,h=>by simp at h
 | z::zs,a::l,0,x,_,_=>by simp[vi,qk]
 | z::zs,a::l,i+1,x,h,hl=>by
  obtain⟨h1,h2⟩:=UZ zs l i x (by simpa using h) (by simpa using hl)
  have e:(i+1)*2=i*2+1+1:=by omega
  simp only[aB,vi,ai,aa,qk,e,h1,ay,h2,and_self]
def qm1:∀ (zs:List (Nat×Nat))(l:List Nat)(i x:Nat),zs.length<=i->vi zs (l.set i x)=vi zs l
 | [],_,_,_,_=>rfl
 | z::zs,l,i,x,h=>by
  obtain⟨j,rfl⟩:∃ j,i=j+1:=⟨i-1,by simp only[Qv]at h;omega⟩
  cases l with
  | nil=>rfl
  | cons a l=>simp only[aB,vi,ai,aa];rw[qm1 zs l j x (by simp only[Qv]at h;omega)]
def UJ (g:Nat):∀ (us:List Un)(j:Nat)(l:List Nat)(i x:Nat)(a:Addr),(xm g j us)[i]?=some a->(us.flatMap Un.places).length<=l.length ->
  ∃ c,a=⟨g,j*4+c,none⟩/\zk (xc us (l.set i x))=(zk (xc us l)).set c (nv x)/\(zk (xc us l))[c]?=(l[i]?).map nv
 | [],_,_,_,_,_,h,_=>by simp[xm]at h
 | u::us,j,l,i,x,a,h,hl=>by
  rw[ag,Qd]at hl;by_cases hk:u.kind=1
  ·have hp:u.places.length=2:=by unfold Un.places;rw[if_pos hk];rfl
   rw[hp]at hl;unfold xm at h;rw[if_pos hk]at h;match l,hl with
   | [],hl=>simp at hl
   | [q],hl=>simp only[Qv,aC]at hl;omega
   | q0::q1::l,hl =>
    match i,h with
    | 0,h =>
     simp at h;subst h;refine⟨1,rfl,?_,?_⟩<;>(unfold xc;rw[if_pos hk];first|(rw[if_pos hk];simp[zk])|simp[zk])
    | 1,h =>
     simp at h;subst h;refine⟨3,rfl,?_,?_⟩<;>(unfold xc;rw[if_pos hk];first|(rw[if_pos hk];simp[zk,nv])|simp[zk,nv])
    | i+2,h =>
     simp only[ay]at h;obtain⟨c,h1,h2,h3⟩:=UJ g us (j+1) l i x a h (by simp only[Qv]at hl;omega)
     refine⟨c+4,by rw[h1];congr 1;omega,?_,?_⟩
     ·simp only[aB]
      unfold xc;rw[if_pos hk,if_pos hk];simp only[ai,aa,zk,aB,h2]
     ·unfold xc
      rw[if_pos hk];simp only[ai,aa,zk,ay,h3]
  ·have hp:u.places.length=1:=by unfold Un.places;rw[if_neg hk];rfl
   rw[hp]at hl;unfold xm at h;rw[if_neg hk]at h;match l,hl with
   | [],hl=>simp only[aC]at hl;omega
   | q0::l,hl =>
    match i,h with
    | 0,h =>
     simp at h;subst h;refine⟨1,rfl,?_,?_⟩<;>(unfold xc;rw[if_neg hk];first|(rw[if_neg hk];simp[zk])|simp[zk])
    | i+1,h =>
     simp only[ay]at h;obtain⟨c,h1,h2,h3⟩:=UJ g us (j+1) l i x a h (by simp only[Qv]at hl;omega)
     refine⟨c+4,by rw[h1];congr 1;omega,?_,?_⟩
     ·simp only[aB]
      unfold xc;rw[if_neg hk,if_neg hk];simp only[ai,aa,zk,aB,h2]
     ·unfold xc
      rw[if_neg hk];simp only[ai,aa,zk,ay,h3]
def La {g j:Nat}{us:List Un}{i:Nat}{a:Addr}(h:(xm g j us)[i]?=some a):i<(us.flatMap Un.places).length:=by
 rw[<-Uy g us j];exact (Qc.1 h).1
section
variable {w : Aa} {o : Own} {id k b : Nat} {L : Lg} {vr vk vh vu : Ac}
def mo {w:Aa}{o:Own}{t:Tag}{e:TypeId}{size:Nat}{v:Ac}{n:Nat}{xs:List Ac}(h:Row w o t e size v n xs)(hn:0<n) :
  ∃ cap,v=Ah (some ⟨vn v,0,none⟩) n cap/\o (vn v)=t/\vn v<w.1.size:=by
 rcases h.own.2 with ⟨rfl,h2⟩|⟨g,cap,cur,rfl,_,hg,hn,hc,_⟩
 ·omega
 ·exact⟨cap,rfl,h.tag g rfl,(Qf.1 hg).1⟩
def YS (q:List Nat)(n m x:Nat):(q.set m x).take n=(q.take n).set m x:=by
 rw[bC]
def xo (q:List Nat)(n m x:Nat)(h:m<n):(q.set m x).drop n=q.drop n:=by
 rw[bF,if_pos h]
def xp (q:List Nat)(n m x:Nat)(h:n<=m):(q.set m x).drop n=(q.drop n).set (m-n) x:=by
 rw[bF,if_neg (by omega)]
def ym (q:List Nat)(n m x:Nat)(h:n<=m):(q.set m x).take n=q.take n:=by
 rw[bC];exact List.set_eq_of_length_le (by simp;omega)
def JA (vr vk vh vu:Ac)(L:Lg)(m:Nat)(a:Addr)(ha:(xr vr vk vh vu L)[m]?=some a) :
  (m<L.reads.length/\a=⟨vn vr,m,none⟩)\/(L.reads.length<=m/\m<L.reads.length+L.keeps.length/\a=⟨vn vk,m-L.reads.length,none⟩) \/
  (L.reads.length+L.keeps.length<=m/\m<L.reads.length+L.keeps.length+L.holds.length/\a=⟨vn vh,(m-(L.reads.length+L.keeps.length))*2,none⟩) \/
  (L.reads.length+L.keeps.length+L.holds.length<=m/\(xm (vn vu) 0 L.Ay)[m-(L.reads.length+L.keeps.length+L.holds.length)]?=some a):=by
 unfold xr at ha;by_cases h1:m<L.reads.length
 ·left
  rw[Ad,Ad,Qm (by simpa using h1),Qj,az h1]at ha
  refine⟨h1,?_⟩;simpa [M5] using ha.symm
 ·right
  by_cases h2:m<L.reads.length+L.keeps.length
  ·left
   rw[Ad,Ad,Ql (by simp;omega),Qm (by simp;omega),Qj]at ha
   simp only[Qg,aj]at ha;rw[az (by omega)]at ha
   refine⟨by omega,h2,?_⟩
   simpa [M5] using ha.symm
  ·right
   by_cases h3:m<L.reads.length+L.keeps.length+L.holds.length
   ·left
    rw[Ad,Ql (by simp;omega),Qm (by simp;omega),Qj]at ha
    simp only[Qd,Qg,aj]at ha;rw[az (by omega)]at ha
    refine⟨by omega,h3,?_⟩
    simpa [M5] using ha.symm
   ·right
    rw[Ql (by simp;omega)]at ha
    simp only[Qd,Qg,aj]at ha;exact⟨by omega,ha⟩
def Mz (vr vk vh vu:Ac)(L:Lg){j:Nat}(h:j<L.reads.length):(xr vr vk vh vu L)[j]?=some ⟨vn vr,j,none⟩:=by
 unfold xr;rw[Ad,Ad,Qm (by simpa using h),Qj,az h]
 simp[M5]
def My (vr vk vh vu:Ac)(L:Lg){j:Nat}(h:j<L.keeps.length):(xr vr vk vh vu L)[L.reads.length+j]?=some ⟨vn vk,j,none⟩:=by
 unfold xr;rw[Ad,Ad,Ql (by simp),Qm (by simp;omega),Qj]
 simp only[Qg,aj];rw[show L.reads.length+j-L.reads.length=j from by omega,az h]
 simp[M5]
def Mx (vr vk vh vu:Ac)(L:Lg){j:Nat}(h:j<L.holds.length):(xr vr vk vh vu L)[L.reads.length+L.keeps.length+j]?=some ⟨vn vh,j*2,none⟩:=by
 unfold xr;rw[Ad,Ql (by simp<;>omega),Qm (by simp<;>omega),Qj]
 simp only[Qd,Qg,aj];rw[show L.reads.length+L.keeps.length+j-(L.reads.length+L.keeps.length)=j from by omega,az h]
 simp[M5]
def MA (vr vk vh vu:Ac)(L:Lg)(j:Nat):(xr vr vk vh vu L)[L.reads.length+L.keeps.length+L.holds.length+j]?=(xm (vn vu) 0 L.Ay)[j]?:=by
 unfold xr;rw[Ql (by simp<;>omega)]
 simp only[Qd,Qg,aj];rw[show L.reads.length+L.keeps.length+L.holds.length+j-(L.reads.length+L.keeps.length+L.holds.length)=j from by omega]
def kv (us:List Un)(j:Nat):Nat:=((us.take j).flatMap Un.places).length
def qh7 {us:List Un}{j:Nat}{u:Un}(h:us[j]?=some u):kv us (j+1)=kv us j+if u.kind=1 then 2 else 1:=by
 unfold kv;have hj:=(Qc.1 h);rw[List.take_succ_eq_append_getElem hj.1,hj.2,List.flatMap_append,Qd,ag,List.flatMap_nil,List.append_nil];unfold Un.places;split<;>simp
def qh0 (g:Nat):∀ (us:List Un)(b j:Nat)(u:Un),us[j]?=some u->(xm g b us)[kv us j]?=some ⟨g,(b+j)*4+1,none⟩/\(u.kind=1->(xm g b us)[kv us j+1]?=some ⟨g,(b+j)*4+3,none⟩)
 | [],_,_,_,h=>by simp at h
 | z::us,b,0,u,h=>by
  simp at h;subst h;have e:kv (z::us) 0=0:=rfl;rw[e];by_cases hk:z.kind=1
  ·unfold xm;rw[if_pos hk];exact⟨rfl,fun _=>rfl⟩
  ·unfold xm;rw[if_neg hk];exact⟨rfl,fun h=>absurd h hk⟩
 | z::us,b,j+1,u,h=>by
  obtain⟨h1,h2⟩:=qh0 g us (b+1) j u (by simpa using h)
  have e:kv (z::us) (j+1)=z.places.length+kv us j:=by unfold kv;rw[List.take_succ_cons,ag,Qd]
  rw[show b+(j+1)=b+1+j from by omega,e]
  by_cases hk:z.kind=1
  ·have hp:z.places.length=2:=by unfold Un.places;rw[if_pos hk];rfl
   unfold xm;rw[if_pos hk,hp,show 2+kv us j=kv us j+1+1 from by omega]
   exact⟨h1,h2⟩
  ·have hp:z.places.length=1:=by unfold Un.places;rw[if_neg hk];rfl
   unfold xm;rw[if_neg hk,hp,show 1+kv us j=kv us j+1 from by omega]
   exact⟨h1,h2⟩
def Row.ite {w:Aa}{o:Own}{t:Tag}{e:TypeId}{size n n':Nat}{v:Ac}{xs xs':List Ac}(h:Row w o t e size v n xs)(hn:n=n')(hx:xs=xs'):Row w o t e size v n' xs':=by subst hn hx;exact h
def addr_add (g j:Nat):(⟨g,0,none⟩:Addr).add j=⟨g,j,none⟩:=by unfold Addr.add;split<;>simp_all
def Px (w:Aa)(o:Own)(id k b:Nat)(L:Lg)(vr vk vh vu:Ac)(q:List Nat)(m:Nat)(a:Addr):Prop:=
 w.cell? a=(q[m]?).map nv/\a.spot=none/\a.block<w.1.size/\w.frozen? a=false/\(∃ j,1<=j/\j<=4/\o a.block=(id,k+j))/\∀ x:Nat,Bo (w.setCell a (nv x)) o id k b (L.put (q.set m x)) vr vk vh vu
def Bo.place (q:List Nat)(hq:q.length=L.roots.length)(h:Bo w o id k b (L.put q) vr vk vh vu){m:Nat}{a:Addr}(ha:(xr vr vk vh vu L)[m]?=some a):Px w o id k b L vr vk vh vu q m a:=by
 have hl:L.roots.length=L.reads.length+L.keeps.length+L.holds.length+(L.Ay.flatMap Un.places).length:=by unfold Lg.roots;simp only[Qd,Qg]
 have mV:m<q.length:=by rw[hq,<-vj vr vk vh vu L];exact (Qc.1 ha).1
 have hstp:∀ (g c j:Nat)(u:Ac),o g=(id,k+j)->Stp (fun t=>t=(id,k+j)) o o w (w.setCell ⟨g,c,none⟩ u):=fun g c j u hg=>(Stp.refl _ o w).setCell (by show o g=_;exact hg) u
 have hblk:∀ (g c j:Nat)(u:Ac),1<=j->o g=(id,k+j)->Al (w.setCell ⟨g,c,none⟩ u) b #[I Z L.mr,I Z L.mu,vr,vk,vh,vu] 219:=fun g c j u hj hg =>
  h.AM.Ao (hstp g c j u hg) (by rw[h.ob];simp;omega)
 have e1:(L.put q).reads=q.take L.reads.length:=rfl;have e2:(L.put q).keeps=(q.drop L.reads.length).take L.keeps.length:=rfl;have e3:(L.put q).holds=vi L.holds (q.drop (L.reads.length+L.keeps.length)):=rfl;have e4:(L.put q).Ay=xc L.Ay (q.drop (L.reads.length+L.keeps.length+L.holds.length)):=rfl;have l1:(L.put q).reads.length=L.reads.length:=by rw[e1,Qp];omega
 have l2:(L.put q).keeps.length=L.keeps.length:=by rw[e2,Qp,aD];omega
 have l3:(L.put q).holds.length=L.holds.length:=by rw[e3,de]
 have l4:(L.put q).Ay.length=L.Ay.length:=by rw[e4,UH]
 have k1:∀ x,(L.put (q.set m x)).reads.length=L.reads.length:=fun x=>by show (List.take _ _).length=_;rw[Qp,Qq];omega
 have k2:∀ x,(L.put (q.set m x)).keeps.length=L.keeps.length:=fun x=>by show (List.take _ (List.drop _ _)).length=_;rw[Qp,aD,Qq];omega
 have k3:∀ x,(L.put (q.set m x)).holds.length=L.holds.length:=fun x=>de _ _
 have k4:∀ x,(L.put (q.set m x)).Ay.length=L.Ay.length:=fun x=>UH _ _
 have hrr:=h.rr;have iq:=h.rk;have vI:=h.rh;have vJ:=h.ru;rw[l1]at hrr;rw[l2]at iq;rw[l3]at vI;rw[l4]at vJ;rcases JA _ _ _ _ _ _ _ ha with ⟨hm,rfl⟩|⟨hm1,hm2,rfl⟩|⟨hm1,hm2,rfl⟩|⟨hm1,hu⟩
 ·obtain⟨cap,ev,ht,hlt⟩:=mo hrr (by omega)
  rw[ev]at hrr;have hc:=hrr.cells m (nv (q[m]'mV)) (by rw[e1,Qj,aK hm,Qb mV];rfl)
  refine⟨by rw[hc,Qb mV];rfl,rfl,hlt,hrr.free m,⟨1,by omega,by omega,ht⟩,fun x=>?_⟩
  have hs:=hstp (vn vr) m 1 (nv x) ht;refine⟨hblk _ _ 1 _ (by omega) ht,?_,?_,?_,?_,h.ob⟩
  ·rw[ev]
   refine (hrr.M3 m (nv x)).ite (k1 x).symm ?_;show ((q.take L.reads.length).map nv).set m (nv x)=((q.set m x).take L.reads.length).map nv;rw[YS,bH]
  ·refine (iq.Ao hs (by simp)).ite (k2 x).symm ?_
   show ((q.drop L.reads.length).take L.keeps.length).map nv=(((q.set m x).drop L.reads.length).take L.keeps.length).map nv;rw[xo _ _ _ _ hm]
  ·refine (vI.Ao hs (by simp)).ite (k3 x).symm ?_
   show qk (vi L.holds (q.drop _))=qk (vi L.holds ((q.set m x).drop _));rw[xo _ _ _ _ (by omega)]
  ·refine (vJ.Ao hs (by simp)).ite (k4 x).symm ?_
   show zk (xc L.Ay (q.drop _))=zk (xc L.Ay ((q.set m x).drop _));rw[xo _ _ _ _ (by omega)]
 ·obtain⟨cap,ev,ht,hlt⟩:=mo iq (by omega)
  rw[ev]at iq;have hc:=iq.cells (m-L.reads.length) (nv (q[m]'mV)) (by
   rw[e2,Qj,aK (by omega),aF,show L.reads.length+(m-L.reads.length)=m from by omega,Qb mV];rfl)
  refine⟨by rw[hc,Qb mV];rfl,rfl,hlt,iq.free _,⟨2,by omega,by omega,ht⟩,fun x=>?_⟩
  have hs:=hstp (vn vk) (m-L.reads.length) 2 (nv x) ht;refine⟨hblk _ _ 2 _ (by omega) ht,?_,?_,?_,?_,h.ob⟩
  ·refine (hrr.Ao hs (by simp)).ite (k1 x).symm ?_
   show (q.take L.reads.length).map nv=((q.set m x).take L.reads.length).map nv;rw[ym _ _ _ _ hm1]
  ·rw[ev]
   refine (iq.M3 (m-L.reads.length) (nv x)).ite (k2 x).symm ?_;show (((q.drop L.reads.length).take L.keeps.length).map nv).set _ (nv x)=(((q.set m x).drop L.reads.length).take L.keeps.length).map nv;rw[xp _ _ _ _ hm1,YS,bH]
  ·refine (vI.Ao hs (by simp)).ite (k3 x).symm ?_
   show qk (vi L.holds (q.drop _))=qk (vi L.holds ((q.set m x).drop _));rw[xo _ _ _ _ (by omega)]
  ·refine (vJ.Ao hs (by simp)).ite (k4 x).symm ?_
   show zk (xc L.Ay (q.drop _))=zk (xc L.Ay ((q.set m x).drop _));rw[xo _ _ _ _ (by omega)]
 ·obtain⟨cap,ev,ht,hlt⟩:=mo vI (by omega)
  rw[ev]at vI;have qE:=UZ L.holds (q.drop (L.reads.length+L.keeps.length)) (m-(L.reads.length+L.keeps.length));have hcc:=(qE 0 (by omega) (by rw[aD];omega)).2
  rw[aF,show L.reads.length+L.keeps.length+(m-(L.reads.length+L.keeps.length))=m from by omega,Qb mV]at hcc
  have hc:=vI.own.cells (g:=vn vh) rfl _ _ (by rw[e3];exact hcc)
  rw[addr_add]at hc;refine⟨by rw[hc,Qb mV];rfl,rfl,hlt,vI.free _,⟨3,by omega,by omega,ht⟩,fun x=>?_⟩
  have hs:=hstp (vn vh) ((m-(L.reads.length+L.keeps.length))*2) 3 (nv x) ht;refine⟨hblk _ _ 3 _ (by omega) ht,?_,?_,?_,?_,h.ob⟩
  ·refine (hrr.Ao hs (by simp)).ite (k1 x).symm ?_
   show (q.take L.reads.length).map nv=((q.set m x).take L.reads.length).map nv;rw[ym _ _ _ _ (by omega)]
  ·refine (iq.Ao hs (by simp)).ite (k2 x).symm ?_
   show ((q.drop L.reads.length).take L.keeps.length).map nv=(((q.set m x).drop L.reads.length).take L.keeps.length).map nv;rw[xp _ _ _ _ (by omega),ym _ _ _ _ (by omega)]
  ·rw[ev]
   refine (vI.Ct _ (nv x)).ite (k3 x).symm ?_;show (qk (vi L.holds (q.drop _))).set _ (nv x)=qk (vi L.holds ((q.set m x).drop _));rw[xp _ _ _ _ hm1,(qE x (by omega) (by rw[aD];omega)).1]
  ·refine (vJ.Ao hs (by simp)).ite (k4 x).symm ?_
   show zk (xc L.Ay (q.drop _))=zk (xc L.Ay ((q.set m x).drop _));rw[xo _ _ _ _ (by omega)]
 ·have hmu:=La hu
  have hpu:=fun x=>UJ (vn vu) L.Ay 0 (q.drop (L.reads.length+L.keeps.length+L.holds.length)) _ x a hu (by rw[aD];omega)
  obtain⟨c0,ea0,_,hcc⟩:=hpu 0;have hup:0<L.Ay.length:=by
   cases hL:L.Ay with
   | nil=>rw[hL]at hu;simp[xm]at hu
   | cons u us=>simp
  obtain⟨cap,ev,ht,hlt⟩:=mo vJ hup;rw[ev]at vJ;simp only[bJ,aT]at ea0;subst ea0;rw[aF,show L.reads.length+L.keeps.length+L.holds.length+(m-(L.reads.length+L.keeps.length+L.holds.length))=m from by omega,Qb mV]at hcc
  have hc:=vJ.own.cells (g:=vn vu) rfl _ _ (by rw[e4];exact hcc)
  rw[addr_add]at hc;refine⟨by rw[hc,Qb mV];rfl,rfl,hlt,vJ.free _,⟨4,by omega,by omega,ht⟩,fun x=>?_⟩
  obtain⟨c,ea1,BF,_⟩:=hpu x;have hcx:c=c0:=by simp only[bJ,aT,Addr.mk.injEq,true_and,and_true]at ea1;exact ea1.symm
  subst hcx;have hs:=hstp (vn vu) c 4 (nv x) ht;refine⟨hblk _ _ 4 _ (by omega) ht,?_,?_,?_,?_,h.ob⟩
  ·refine (hrr.Ao hs (by simp)).ite (k1 x).symm ?_
   show (q.take L.reads.length).map nv=((q.set m x).take L.reads.length).map nv;rw[ym _ _ _ _ (by omega)]
  ·refine (iq.Ao hs (by simp)).ite (k2 x).symm ?_
   show ((q.drop L.reads.length).take L.keeps.length).map nv=(((q.set m x).drop L.reads.length).take L.keeps.length).map nv;rw[xp _ _ _ _ (by omega),ym _ _ _ _ (by omega)]
  ·refine (vI.Ao hs (by simp)).ite (k3 x).symm ?_
   show qk (vi L.holds (q.drop _))=qk (vi L.holds ((q.set m x).drop _));rw[xp _ _ _ _ (by omega),qm1 _ _ _ _ (by omega)]
  ·rw[ev]
   refine (vJ.Ct c (nv x)).ite (k4 x).symm ?_;show (zk (xc L.Ay (q.drop _))).set c (nv x)=zk (xc L.Ay ((q.set m x).drop _));rw[xp _ _ _ _ hm1,BF]
end
section
variable {n : Nat} {P : Program} {ops : Array Oper} {md : aA} {w : Aa} {F : Fence}
structure D9 (F:Fence)(P:Program):Prop where
 fn:∀ f,F.fn f
 calls:∀ {n:Nat}{f:FuncId}{args:Array Ac}{w:Aa}{R:Ending->Aa->Prop},Ab P f args w R->(F.depth.isSome=true->1<=n)/\CallsIn F (n-1) P f args w R
def Sx (P:Program):D9 Fence.wide P:=⟨fun _=>trivial,fun h=>⟨fun h=>(by simp[Fence.wide]at h),callsIn_wide.2 h⟩⟩
def Kc (l:Nat)(P:Program):D9 (Fence.wide.inRound l) P:=⟨fun _=>trivial,fun h=>⟨fun h=>(by simp[Fence.inRound,Fence.wide]at h),CallsIn.inRound l (callsIn_wide.2 h)⟩⟩
def qet (hF:D9 F P){o:Oper}{a:Act}{K:Act->Prop}{K':Act->Aa->Prop}{Q':Exit->Act->Aa->Prop}(hd:∀ c,o.op≠.defer c)(h:∀ a,K a->K' a w)(hh:o.still P a w K):o.wpIn F n P a w K' Q':=by
 unfold Oper.still at hh;refine⟨fun _ _=>hF.fn _,?_⟩
 rw[Oper.semAt_eq _ _ _ hd];generalize (execOp a.eval o).run P w=r at *
 cases r with
 | ok m w' =>
  cases m<;>simp only[Oper.stillUpon]at hh<;>simp only[Oper.uponIn]
  case enter f args =>
   obtain⟨rfl,v,hc,hn⟩:=hh;refine hF.calls (hc.mono fun e w'' he=>?_);obtain⟨he,hw⟩:=he;subst he;subst hw;exact h _ hn
  all_goals (obtain⟨rfl,h2⟩:=hh;exact h _ h2)
 | halt x w'=>simp only[Oper.stillUpon]at hh
def qe0 (hF:D9 F P){i:Nat}{a:Act}{K:Act->Prop}{K':Act->Aa->Prop}{Q':Exit->Act->Aa->Prop}(hd:∀ (j:Nat)(o:Oper) c,ops[j]?=some o->o.op≠.defer c)(h:∀ a,K a->K' a w)(hh:stOp P ops w i K a):wpOpIn F n P ops Q' i K' a w:=by
 unfold stOp at hh;unfold wpOpIn;split
 ·rename_i ho;simp only[ho]at hh;exact h _ hh
 ·rename_i o ho
  simp only[ho]at hh;split
  ·rename_i hw;simp only[hw,if_true]at hh;exact qet hF (fun c=>hd _ _ c ho) h hh
  ·rename_i hw;simp only[hw]at hh;exact⟨fun _ _=>hF.fn _,h _ hh⟩
def rx (hF:D9 F P){m g:Nat}{L:Array Bool->Act->Prop}{Q':Exit->Act->Aa->Prop}(hd:∀ (j:Nat)(o:Oper) c,ops[j]?=some o->o.op≠.defer c)(hL:∀ listed a,L listed a->wpAnyIn F n P md ops Q' g listed a w) :
  ∀ (f:Nat)(listed:Array Bool)(a:Act),wpAnyL P md ops w m L f listed a->wpAnyIn F n P md ops Q' (f+g) listed a w
 | 0,listed,a,h=>by rw[aT];exact hL _ _ h
 | f+1,listed,a,h=>by
  rw[show f+1+g=(f+g)+1 by omega]
  exact⟨fun h0=>absurd h0 h.1,fun i hi=>qe0 hF hd (fun a' h'=>rx hF hd hL f _ a' h') (h.2 i hi).2⟩
def Ww {Q':Exit->Act->Aa->Prop}:∀ (l':List Oper)(k:Nat)(listed:Array Bool)(a:Act)(w:Aa),(∀ j,l'[j]?=ops[k+j]?) ->
  aV md ops l'.length k listed=true->wpListIn F n P ops Q' l' a w->wpAnyIn F n P md ops Q' l'.length listed a w
 | [],_,_,_,_,_,hB,h=>⟨by simpa [aV] using hB,h⟩
 | o::l',k,listed,a,w,hl,hB,h=>by
  have h0:ops[k]?=some o:=by simpa using (hl 0).symm
  simp only[Qv,aV,af,decide_eq_true_eq]at hB;refine⟨fun h1=>(by rw[hB.1]at h1;cases h1),fun i hi=>?_⟩
  rw[hB.1]at hi;have hik:i=k:=by simpa using hi
  subst hik;have hw:wpOpIn F n P ops Q' i (wpListIn F n P ops Q' l') a w:=by unfold wpOpIn;simp only[h0];exact h
  exact wpOpIn_mono (fun a' w' h'=>Ww l' (i+1) _ a' w' (fun j=>by have:=hl (j+1);simpa [Nat.add_assoc,Nat.add_comm 1 j] using this) hB.2 h') hw
def qmg (l:List Oper):Bool:=l.all fun o=>match o.op with|.defer _=>false|_=>true
def qhd {l:List Oper}(h:qmg l=true):∀ (j:Nat)(o:Oper) c,l.toArray[j]?=some o->o.op≠.defer c:=by
 intro j o c hj e;have hm:o ∈ l:=by rw[aQ]at hj;exact Qe hj
 have:=aL.1 h o hm;rw[e]at this
 cases this
def wm (hF:D9 F P) {id:Nat} {Q:Exit->Act->Aa->Prop} {a:Act} {w:Aa} {l':List Oper} (m:Nat) (hm:P.follows .mixedOrders=true) (hB:aZ .any l'.toArray m=true) (hd:qmg l'=true)
  (h:wpStill P l'.toArray w.drew (fun a'=>wpListIn F n P l'.toArray Q (l'.drop m) a' w.drew) (l'.take m) a):(Code.region id l'.toArray true).wpIn F n P Q a w:=by
 simp only[aZ,af,decide_eq_true_eq]at hB;obtain⟨⟨⟨⟨hsel,hn⟩,hs⟩,hc⟩,hlex⟩:=hB;have hn':m<l'.length:=by simpa using hn
 have htl:(l'.take m).length=m:=by simp;omega
 have hdl:(l'.drop m).length=l'.toArray.size-m:=by simp
 have inv0:HeadInv .any l'.toArray m (aG l'.toArray.size false):=
  ⟨by simp,fun j oj _ hl=>(by rw[getD_replicate_false]at hl;cases hl),fun t _ ht=>getD_in (by simpa using ht) (getD_replicate_false _ _)⟩
 have H:=wpAnyL_lex (md:=.any) (g:=l'.toArray.size-m) hsel hs hc hn (l'.take m) 0 _ a (fun j hj=>by
  have hj':j<m:=by rw[htl]at hj;exact hj
  simp[hj']) (by simpa using htl) inv0 (by rw[htl];exact hlex) h
 refine wpIn_region_any hm ?_;have:=rx hF (n:=n) (Q':=Q) (g:=l'.toArray.size-m) (qhd hd) (fun listed a' hL=>by
  have:=Ww (F:=F) (n:=n) (md:=.any) (Q':=Q) (l'.drop m) m listed a' w.drew (fun j=>by simp[aF]) (by rw[hdl];exact hL.1) hL.2
  rwa [hdl]at this) _ _ _ H
 rw[htl,show m+(l'.toArray.size-m)=l'.toArray.size by omega]at this
 exact this
def qn9 {K:Act->Aa->Prop}{Q:Exit->Act->Aa->Prop}{c:Code}{a:Act}{w:Aa}(h:c.wpIn F n P (Exit.then K fun _ _ _=>False) a w):c.wpIn F n P (Exit.then K Q) a w:=
 wpIn_mono h fun e _ _ hq=>by cases e<;>first|exact hq|exact hq.elim
end
def SE (md:aA)(ops:Array Oper):Nat->Array Bool->List (List Nat)
 | 0,_=>[[]]
 | f+1,listed=>match Ai md ops listed with
  | []=>[[]]
  | rs=>rs.flatMap fun i=>(SE md ops f (listed.setIfInBounds i true)).map (i::·)
def QY (l:List Oper):List Nat->List Oper
 | []=>[]
 | i::is=>match l.drop i with
  | []=>[]
  | o::_=>o::QY l is
def Ui (l:List Oper)(is:List Nat):Bool:=is.all fun i=>decide (i<l.length)
def nn (md:aA)(ops:Array Oper):∀ (fuel t:Nat)(listed:Array Bool),aI md ops fuel t listed [] ∈ SE md ops fuel listed
 | 0,t,listed=>by simp[aI,SE]
 | fuel+1,t,listed=>by
  change (match (Ai md ops listed)[t%(Ai md ops listed).length]? with
   | some i=>aI md ops fuel (t/(Ai md ops listed).length) (listed.setIfInBounds i true) [i]
   | none=>[].reverse) ∈ (match Ai md ops listed with
  | []=>[[]]
  | rs=>rs.flatMap fun i=>(SE md ops fuel (listed.setIfInBounds i true)).map (i::·))
  generalize Ai md ops listed=rs
  cases rs with
  | nil=>simp
  | cons x xs =>
   have hlt:t%(x::xs).length<(x::xs).length:=Nat.mod_lt _ (by simp)
   have ih:=nn md ops fuel (t/(x::xs).length) (listed.setIfInBounds ((x::xs)[t%(x::xs).length]) true);rw[Qb hlt];simp only;rw[linearise_go_acc,List.reverse_singleton,List.singleton_append];exact List.mem_flatMap.2 ⟨(x::xs)[t%(x::xs).length],List.getElem_mem hlt,Qt.2 ⟨_,ih,rfl⟩⟩
section
variable {F : Fence} {n : Nat} {P : Program} {Q : Exit -> Act -> Aa -> Prop} {l' : List Oper}
def Wt:∀ (is:List Nat)(a:Act)(w:Aa),Ui l' is=true->wpListIn F n P l'.toArray Q (QY l' is) a w->wpOpsIn F n P l'.toArray Q is a w
 | [],a,w,_,h=>h
 | i::is,a,w,hi,h=>by
  unfold Ui at hi;rw[List.all_cons,af,decide_eq_true_eq]at hi;have e:l'.drop i=l'[i]'hi.1::l'.drop (i+1):=List.drop_eq_getElem_cons hi.1;have hp:QY l' (i::is)=l'[i]'hi.1::QY l' is:=by
   show (match l'.drop i with|[]=>[]|o::_=>o::QY l' is)=_
   rw[e]
  rw[hp]at h;rw[wpOpsIn_cons];have ho:l'.toArray[i]?=some (l'[i]'hi.1):=by rw[aQ,Qb hi.1]
  refine wpOpIn_mono (fun a w h=>Wt is a w hi.2 h) ?_;unfold wpOpIn;simp only[ho];exact h
def tm {id:Nat}{a:Act}{w:Aa}(hm:P.follows .mixedOrders=true)(L:List (List Nat))(hL:SE .any l'.toArray l'.length (aG l'.length false)=L)(hi:L.all (Ui l')=true)
  (h:∀ is ∈ L,wpListIn F n P l'.toArray Q (QY l' is) a w.drew):(Code.region id l'.toArray true).wpIn F n P Q a w:=by
 refine wpIn_region_draw fun t=>?_
 simp only[Region.schedule,hm,Bool.true_or,if_true];have hm2:=nn .any l'.toArray l'.toArray.size t (aG l'.toArray.size false);have e:l'.toArray.size=l'.length:=by simp
 unfold Region.linearise;rw[e]at hm2 ⊢;rw[hL]at hm2;exact Wt _ _ _ (aL.1 hi _ hm2) (h _ hm2)
end
section
variable {P : Program} {ops : Array Oper} {Q : Exit -> Act -> Aa -> Prop} {md : aA} {S : Aa -> Prop} {n : Nat}
def ks (P:Program)(md:aA)(ops:Array Oper)(Q:Exit->Act->Aa->Prop)(S:Aa->Prop)(n:Nat):Nat->Array Bool->Act->Aa->Prop
 | 0,listed,a,w=>Ai md ops listed=[]/\Q .normal a w
 | fuel+1,listed,a,w =>
  (Ai md ops listed=[]->Q .normal a w) /\
  ∀ i ∈ Ai md ops listed,wpOp P ops Q i (fun a' w'=>(i<n->S w')/\ks P md ops Q S n fuel (listed.setIfInBounds i true) a' w') a w
def XS:∀ (fuel:Nat)(listed:Array Bool)(a:Act)(w:Aa),ks P md ops Q S n fuel listed a w->wpAny P md ops Q fuel listed a w
 | 0,_,_,_,h=>h
 | fuel+1,_,_,_,h=>⟨h.1,fun i hi=>wpOp_mono (fun a' w' h'=>XS fuel _ a' w' h'.2) (h.2 i hi)⟩
def Ff (md:aA)(ops:Array Oper)(n i:Nat):Bool:=(aR ops.size).all fun j=>decide (j<n)||(ops[j]?.map fun o=>o.after.any fun e=>aH md e&&e.on==i).getD true
def qkv {i:Nat}(h:Ff md ops n i=true){j:Nat}{oj:Oper}(hj:ops[j]?=some oj)(hn:n<=j):∃ e ∈ oj.after,aH md e=true/\e.on=i:=by
 have hlt:=(Qf.1 hj).1;have h1:=aL.1 h j (List.mem_range.2 hlt);rw[hj,decide_eq_false (by omega)]at h1
 simp only[Bool.false_or,Option.map_some,Option.getD_some]at h1;obtain⟨k,hk,h2⟩:=Array.any_eq_true.1 h1;simp only[af,beq_iff_eq]at h2;exact⟨_,Array.getElem_mem hk,h2⟩
def qhf {i:Nat}{oi:Oper}{v:Ac}(hi:ops[i]?=some oi)(hsel:∀ (j:Nat)(o:Oper) cs b,ops[j]?=some o->o.op≠.select cs b)
  (hQ:∀ c a w,Q (.panic c) (a.put oi.dst v) w->Q (.panic c) a w)(Afv:Ff md ops n i=true) :
  ∀ (fuel:Nat)(listed:Array Bool)(a:Act)(w:Aa),
   (∀ j oj,ops[j]?=some oj->j≠i->listed.getD j true=false->(∀ e ∈ oj.after,aH md e=true->e.on≠i)->oi.apart ops oj=true) ->
   i ∈ Ai md ops listed->YieldsIf P ops S oi v a->S w ->
   ks P md ops Q S n fuel (listed.setIfInBounds i true) (a.put oi.dst v) w->ks P md ops Q S n (fuel+1) listed a w:=by
 intro fuel;induction fuel with
 | zero =>
  intro listed a w _ hr hy hS H;refine⟨fun h=>(by rw[h]at hr;cases hr),fun j hj=>?_⟩
  by_cases hji:j=i
  ·subst hji;exact hy.wpOp hi hS ⟨fun _=>hS,H⟩
  ·have:=ready_mono hj hji
   rw[H.1]at this
   cases this
 | succ fuel ih =>
  intro listed a w hfree hr hy hS H;refine⟨fun h=>(by rw[h]at hr;cases hr),fun j hj=>?_⟩
  by_cases hji:j=i
  ·subst hji;exact hy.wpOp hi hS ⟨fun _=>hS,H⟩
  ·have h1:=H.2 j (ready_mono hj hji)
   obtain⟨hjun,oj,hoj,hall⟩:=mem_ready.1 hj;have hnot:∀ e ∈ oj.after,aH md e=true->e.on≠i:=fun e he hb heq=>by
    have h1:=hall e he hb;have h0:=(mem_ready.1 hr).1;rw[heq]at h1;rcases Nat.lt_or_ge i listed.size with h'|h'
    ·simp[h']at h0 h1;rw[h0]at h1;cases h1
    ·simp[Array.getElem?_eq_none h']at h1
   have hjn:j<n:=by
    rcases Nat.lt_or_ge j n with h'|h'
    ·exact h'
    ·obtain⟨e,he,hb,heq⟩:=qkv Afv hoj h'
     exact absurd heq (hnot e he hb)
   have h2:=wpOp_putIf hoj (hfree j oj hoj hji hjun hnot) (fun cs b=>hsel i oi cs b hi) (fun cs b=>hsel j oj cs b hoj) hQ hy h1;have hfree':∀ k ok,ops[k]?=some ok->k≠i->(listed.setIfInBounds j true).getD k true=false ->
     (∀ e ∈ ok.after,aH md e=true->e.on≠i)->oi.apart ops ok=true:=fun k ok hk hki hun hno=>by
    refine hfree k ok hk hki ?_ hno;by_cases hjk:j=k
    ·subst hjk;exact hjun
    ·rw[getD_set_ne true hjk]at hun;exact hun
   refine wpOp_mono (fun a' w' h3=>⟨h3.2.1,ih (listed.setIfInBounds j true) a' w' hfree' (ready_mono hr (Ne.symm hji)) h3.1 (h3.2.1 hjn) ?_⟩) h2;rw[Array.setIfInBounds_comm _ _ hji];exact h3.2.2
def qih {i:Nat}{oi:Oper}{v:Ac}{fuel:Nat}{listed:Array Bool}{a:Act}{w:Aa}(hi:ops[i]?=some oi)
  (hs:bB ops=true)(hf:Region.free md ops listed i=true)(hr:(Ai md ops listed).contains i=true)(hl:Ff md ops n i=true)
  (hQ:∀ c a w,Q (.panic c) (a.put oi.dst v) w->Q (.panic c) a w)(hy:YieldsIf P ops S oi v a)(hS:S w)
  (h:ks P md ops Q S n fuel (listed.setIfInBounds i true) (a.put oi.dst v) w):ks P md ops Q S n (fuel+1) listed a w:=
 qhf hi (Region.noSelect_spec hs) hQ hl fuel listed a w (Region.free_spec hi hf) (by simpa using hr) hy hS h
def qlv {i:Nat}{fuel:Nat}{listed:Array Bool}{a:Act}{w:Aa}(hr:Ai md ops listed=[i])
  (h:wpOp P ops Q i (fun a' w'=>(i<n->S w')/\ks P md ops Q S n fuel (listed.setIfInBounds i true) a' w') a w):ks P md ops Q S n (fuel+1) listed a w:=
 ⟨fun h0=>(by rw[hr]at h0;cases h0),fun j hj=>by rw[hr,Zc]at hj;rw[hj];exact h⟩
def qg {i:Nat}{o:Oper}{fuel:Nat}{listed:Array Bool}{a:Act}{w:Aa}(hr:Ai md ops listed=[i])(ho:ops[i]?=some o)
  (h:∀ K:Act->Aa->Prop,Go.Shut (∀ a' w',(i<n->S w')->ks P md ops Q S n fuel (listed.setIfInBounds i true) a' w'->K a' w')->if aS o (yielded ops a.tmps)=true then o.wp P a w K Q else K (a.put o.dst undef) w):ks P md ops Q S n (fuel+1) listed a w:=by
 refine qlv hr ?_;have h1:=h (fun a' w'=>(i<n->S w')/\ks P md ops Q S n fuel (listed.setIfInBounds i true) a' w') fun a' w' h2 h3=>⟨h2,h3⟩
 unfold wpOp;simp only[ho];split
 ·rename_i hw;rw[if_pos hw]at h1;exact .inl h1
 ·rename_i hw;rw[if_neg hw]at h1;exact h1
def zd {listed:Array Bool}{a:Act}{w:Aa}(hr:Ai md ops listed=[])(h:Q .normal a w):ks P md ops Q S n 0 listed a w:=⟨hr,h⟩
def zo {id:Nat}{a:Act}{w:Aa}(S:Aa->Prop)(n:Nat)(hm:P.follows .mixedOrders=true)
  (h:ks P .any ops Q S n ops.size (aG ops.size false) a w.drew):(Code.region id ops true).wp P Q a w:=
 wp_region_any hm (XS _ _ _ _ h)
end
section
variable {P : Program} {ops : Array Oper} {Q : Exit -> Act -> Aa -> Prop} {md : aA} {S : Aa -> Prop} {n : Nat}
def kq {i j:Nat}{oi oj:Oper}{fuel:Nat}{listed:Array Bool}{a:Act}{w:Aa}(hr:Ai md ops listed=[i,j])(hi:ops[i]?=some oi)(hj:ops[j]?=some oj)
  (h1:∀ K:Act->Aa->Prop,Go.Shut (∀ a' w',(i<n->S w')->ks P md ops Q S n fuel (listed.setIfInBounds i true) a' w'->K a' w')->if aS oi (yielded ops a.tmps)=true then oi.wp P a w K Q else K (a.put oi.dst undef) w)
  (h2:∀ K:Act->Aa->Prop,Go.Shut (∀ a' w',(j<n->S w')->ks P md ops Q S n fuel (listed.setIfInBounds j true) a' w'->K a' w')->if aS oj (yielded ops a.tmps)=true then oj.wp P a w K Q else K (a.put oj.dst undef) w) :
  ks P md ops Q S n (fuel+1) listed a w:=by
 refine⟨fun h0=>(by rw[hr]at h0;cases h0),fun k hk=>?_⟩
 rw[hr,List.mem_cons,Zc]at hk;rcases hk with rfl|rfl
 ·have h3:=h1 (fun a' w'=>(k<n->S w')/\ks P md ops Q S n fuel (listed.setIfInBounds k true) a' w') fun a' w' h2 h3=>⟨h2,h3⟩
  unfold wpOp;simp only[hi];split
  ·rename_i hw;rw[if_pos hw]at h3;exact .inl h3
  ·rename_i hw;rw[if_neg hw]at h3;exact h3
 ·have h3:=h2 (fun a' w'=>(k<n->S w')/\ks P md ops Q S n fuel (listed.setIfInBounds k true) a' w') fun a' w' h2 h3=>⟨h2,h3⟩
  unfold wpOp;simp only[hj];split
  ·rename_i hw;rw[if_pos hw]at h3;exact .inl h3
  ·rename_i hw;rw[if_neg hw]at h3;exact h3
end
section
variable {P : Program} {ops : Array Oper} {Q : Exit -> Act -> Aa -> Prop} {md : aA} {S : Aa -> Prop} {n : Nat}
def VX (md:aA)(ops:Array Oper)(n:Nat):List Nat->Array Bool->Bool
 | [],_=>true
 | i::is,l=>Region.free md ops l i&&(Ai md ops l).contains i&&Ff md ops n i&&VX md ops n is (l.setIfInBounds i true)
def RV (P:Program)(md:aA)(ops:Array Oper)(Q:Exit->Act->Aa->Prop)(S:Aa->Prop)(n:Nat):List Nat->Nat->Array Bool->Act->Aa->Prop
 | [],F,l,a,w=>ks P md ops Q S n F l a w
 | i::is,F,l,a,w=>∃ oi v,ops[i]?=some oi/\YieldsIf P ops S oi v a/\RV P md ops Q S n is (F-1) (l.setIfInBounds i true) (a.put oi.dst v) w
def De {i:Nat}{is:List Nat}{F:Nat}{l:Array Bool}{a:Act}{w:Aa}{oi:Oper}{v:Ac}(hi:ops[i]?=some oi)(hy:YieldsIf P ops S oi v a)(h:RV P md ops Q S n is (F-1) (l.setIfInBounds i true) (a.put oi.dst v) w):RV P md ops Q S n (i::is) F l a w:=⟨oi,v,hi,hy,h⟩
def Df {F:Nat}{l:Array Bool}{a:Act}{w:Aa}(h:ks P md ops Q S n F l a w):RV P md ops Q S n [] F l a w:=h
def qp (hs:bB ops=true)(bV:∀ c d x a w,Q (.panic c) (a.put d x) w->Q (.panic c) a w) :
  ∀ (is:List Nat){F:Nat}{l:Array Bool}{a:Act}{w:Aa},VX md ops n is l=true->is.length<=F->S w->RV P md ops Q S n is F l a w->ks P md ops Q S n F l a w
 | [],_,_,_,_,_,_,_,h=>h
 | i::is,F,l,a,w,hB,hF,hS,h=>by
  obtain⟨oi,v,hi,hy,h⟩:=h;simp only[VX,af]at hB;obtain⟨⟨⟨h1,h2⟩,h3⟩,h4⟩:=hB;obtain⟨F',rfl⟩:∃ F',F=F'+1:=⟨F-1,by simp only[Qv]at hF;omega⟩
  exact qih hi hs h1 h2 h3 (fun c a w h=>bV c _ _ a w h) hy hS (qp hs bV is h4 (by simp only[Qv]at hF;omega) hS h)
end
def wq (n:Nat):Code->Option Code
 | .region k ops d=>if k=n then some (.region k ops d) else none
 | .seq a b=>match wq n a with
  | some c=>some c
  | none=>wq n b
 | .cond _ a b=>match wq n a with
  | some c=>some c
  | none=>wq n b
 | .block _ a=>wq n a
 | .loop a=>wq n a
 | .scope a=>wq n a
 | _=>none
