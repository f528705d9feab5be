import Derived.Test.YtgndecmkhhdkjaaGreatKaj
set_option linter.all false
set_option maxRecDepth 1000000
set_option maxHeartbeats 0
open Go renaming World->Aa,Calls->Ab,Value->Ac
open Go.RowKit renaming Below->Ae
open Go.Value renaming int->I,pointer->Ah,tuple->Ak,agg->Al
open Go.IntKind renaming i64->Z
open Go.Ending renaming returned->O
open List renaming map_congr_left->Ad,replicate->aa,mem_or_eq_of_mem_set->af,mem_flatMap->ai,append_nil->aj,foldl_append->aB,getElem?_toArray->aC,map_set->aD,map_map->aF,mem_filterMap->aH,map_cons->aI,mem_cons->aJ,drop_eq_getElem_cons->aK,set_eq_of_length_le->aL,all_eq_true->aM,mem_filter->aN,length_singleton->aP,ext_getElem?->aQ,not_mem_nil->aT,length_nil->aV,nil_append->aW,any_cons->aZ,all_cons->bF
open Option renaming ne_none_iff_exists'->Aj,isSome_iff_ne_none->bG
open Bool renaming and_eq_true->ag,true_or->bJ
open Array renaming replicate->ay
open Go.Region renaming ready->aA,Mode->aR,seqB->aS,linearise->aU,lexTailB->aX,schedule->aY
open Go.Region.linearise renaming go->aG
open Nat renaming zero_le->aO,cast->bH
open Go.Proofs.Tryz
open Go.Proofs.Tryz renaming prog->ANa
open Go.Obj renaming cells->ANb
namespace Go.Proofs.YtgndecmkhhdkjaaGreat
section
open Go.RowKit Hp
attribute [local go_sem ↓] Go.wp_at_zero Go.wp_at_succ
def FA:BQ:=⟨0,0,false,false⟩
def Tx.read (x:Tx)(p:Nat):Tx:={ x with log:={ x.log with reads:=wv x.log.reads p x.log.mr } }
def Tx.keep (x:Tx)(p:Nat):Tx:={ x with log:={ x.log with keeps:=wv x.log.keeps p x.log.mr } }
def Tx.holding (x:Tx)(p v:Nat):Tx:={ x with log:={ x.log with holds:=x.log.holds++[(p,v)] } }
def Tx.CO (x:Tx)(u:Un):Tx:={ x with log:={ x.log with Az:=x.log.Az++[u] } }
def xa (L:Lg)(p:Nat):Bool:=decide (∀ z ∈ L.holds,z.1≠p)&&decide (L.holds.length<L.mu)
def Am.AH (S:Am)(i p:Nat):Am×Int×BQ:=
 if p=0 then (S,143,FA) else match lk S.H.cur p with
 | none=>(S,70,FA)
 | some ob=>if we i (S.t i).start ob.second=true then (S,141,FA) else
   (S.tx i ((S.t i).read p),if yn (S.t i).log.reads p (S.t i).log.mr then (if ob.B5 then 142 else 0) else 130,if yn (S.t i).log.reads p (S.t i).log.mr&&!ob.B5 then ob.AL else FA)
def Am.Aq (S:Am)(i p:Nat):Am×Int:=((S.AH i p).1,if (S.AH i p).2.1=0 then (if (S.AH i p).2.2.AA then 144 else 0) else (S.AH i p).2.1)
def Am.Cq (S:Am)(i:Nat)(u:Un):Am×Bool:=if (S.t i).log.Az.length<(S.t i).log.mu then (S.tx i ((S.t i).CO u),true) else (S,false)
def Am.Ba (S:Am)(i p v:Nat):Am×Bool:=if xa (S.t i).log p=true then (S.tx i ((S.t i).holding p v),true) else (S,false)
def Am.Eb (S:Am)(i p:Nat):Am:={ S with H:=(S.H.AM p (2*i+1)).1 }
def Am.A5 (S:Am)(i p:Nat):Am×Bool:=
 if S.H.sec p%2=1 then (S,true) else if (S.Ba i p (S.H.sec p/2)).2=true then ((S.Ba i p (S.H.sec p/2)).1.Eb i p,true) else (S,false)
def Xc (l:List Nat)(p m:Nat)(h:l.length<=m):(wv l p m).length<=m:=by
 unfold wv;split
 ·exact h
 ·split
  ·simp;omega
  ·exact h
def Lg.Jf {L:Lg}(h:L.fit)(p:Nat):Lg.fit { L with reads:=wv L.reads p L.mr }:=⟨⟨h.ok.mr,h.ok.mu,Xc _ _ _ h.ok.r,h.ok.k,h.ok.h,h.ok.u⟩,h.hv,h.un,h.kd⟩
def Lg.Je {L:Lg}(h:L.fit)(p:Nat):Lg.fit { L with keeps:=wv L.keeps p L.mr }:=⟨⟨h.ok.mr,h.ok.mu,h.ok.r,Xc _ _ _ h.ok.k,h.ok.h,h.ok.u⟩,h.hv,h.un,h.kd⟩
def Lg.Fj {L:Lg}(h:L.fit)(p v:Nat)(hv:v<=1099511627776)(hm:L.holds.length<L.mu):Lg.fit { L with holds:=L.holds++[(p,v)] }:=
 ⟨⟨h.ok.mr,h.ok.mu,h.ok.r,h.ok.k,by simp;omega,h.ok.u⟩,fun z hz=>by
  rcases Qs.1 hz with hz|hz
  ·exact h.hv z hz
  ·rw[Zb.1 hz];exact hv,h.un,h.kd⟩
def Lg.Fl {L:Lg}(h:L.fit)(u:Un)(h1:-9223372036854775808<=u.old/\u.old<=9223372036854775807)(h2:u.kind=1->0<=u.old)(hm:L.Az.length<L.mu):Lg.fit { L with Az:=L.Az++[u] }:=
 ⟨⟨h.ok.mr,h.ok.mu,h.ok.r,h.ok.k,h.ok.h,by simp;omega⟩,h.hv,fun z hz=>by
  rcases Qs.1 hz with hz|hz
  ·exact h.un z hz
  ·rw[Zb.1 hz];exact h1,fun z hz=>by
  rcases Qs.1 hz with hz|hz
  ·exact h.kd z hz
  ·rw[Zb.1 hz];exact h2⟩
def Lg.Gs {L:Lg}(h:L.fit):Lg.fit { L with reads:=[],keeps:=[],holds:=[],Az:=[] }:=
 ⟨⟨h.ok.mr,h.ok.mu,aO _,aO _,aO _,aO _⟩,fun z hz=>(by cases hz),fun z hz=>(by cases hz),fun z hz=>(by cases hz)⟩
def Am.ok.Ew {S:Am}(hk:S.ok){i:Nat}(hi:i<S.Au.length):(S.t i).log.fit:=hk.lg _ (Qe (Am.AW hi))
def Am.ok.Vh {S:Am}(hk:S.ok){i:Nat}(hi:i<S.Au.length):(S.t i).start<=S.now:=hk.st _ (Qe (Am.AW hi))
def Am.ok.set {S:Am}(hk:S.ok){i:Nat}(hi:i<S.Au.length):(S.t i).seen<=S.next:=hk.se _ (Qe (Am.AW hi))
def Am.Ef {S:Am}(hk:S.ok){i:Nat}(hi:i<S.Au.length){L:Lg}(h:L.fit):Am.ok (S.tx i { S.t i with log:=L }):=
 Am.Rr hk (Am.AW hi) h (hk.Vh hi) (hk.set hi) rfl rfl
def Am.Gd {S:Am}(hk:S.ok){i:Nat}(hi:i<S.Au.length)(p:Nat):Am.ok (S.tx i ((S.t i).read p)):=Am.Ef hk hi (Lg.Jf (hk.Ew hi) p)
def Am.Gb {S:Am}(hk:S.ok){i:Nat}(hi:i<S.Au.length)(p:Nat):Am.ok (S.tx i ((S.t i).keep p)):=Am.Ef hk hi (Lg.Je (hk.Ew hi) p)
def Am.D9 {S:Am}(hk:S.ok){i:Nat}(hi:i<S.Au.length)(p:Nat):(S.AH i p).1.ok:=by
 unfold Am.AH;split
 ·exact hk
 ·split
  ·exact hk
  ·split
   ·exact hk
   ·exact Am.Gd hk hi p
def cj (S:Am)(i p:Nat):(S.AH i p).1.Au.length=S.Au.length:=by
 unfold Am.AH;split
 ·rfl
 ·split
  ·rfl
  ·split
   ·rfl
   ·exact Am.BA _ _ _
def Am.Eo {S:Am}(hk:S.ok){i:Nat}(hi:i<S.Au.length)(u:Un)(h1:-9223372036854775808<=u.old/\u.old<=9223372036854775807)(h2:u.kind=1->0<=u.old):(S.Cq i u).1.ok:=by
 unfold Am.Cq;split
 ·rename_i hm;exact Am.Ef hk hi (Lg.Fl (hk.Ew hi) u h1 h2 hm)
 ·exact hk
def KS (S:Am)(i:Nat)(u:Un):(S.Cq i u).1.Au.length=S.Au.length:=by
 unfold Am.Cq;split
 ·exact Am.BA _ _ _
 ·rfl
def Am.D8 {S:Am}(hk:S.ok){i:Nat}(hi:i<S.Au.length)(p v:Nat)(hv:v<=1099511627776):(S.Ba i p v).1.ok:=by
 unfold Am.Ba;split
 ·rename_i hm
  unfold xa at hm;simp only[ag,decide_eq_true_eq]at hm;exact Am.Ef hk hi (Lg.Fj (hk.Ew hi) p v hv hm.2)
 ·exact hk
def uh (S:Am)(i p v:Nat):(S.Ba i p v).1.Au.length=S.Au.length:=by
 unfold Am.Ba;split
 ·exact Am.BA _ _ _
 ·rfl
def Am.J3 {S:Am}(hk:S.ok){i:Nat}(hi:i<S.Au.length)(p:Nat):(S.Eb i p).ok:=by
 have h8:=hk.t8;exact Am.CS hk p (by omega) (fun _=>by omega)
def Am.DJ {S:Am}(hk:S.ok){i:Nat}(hi:i<S.Au.length)(p:Nat):(S.A5 i p).1.ok:=by
 unfold Am.A5;have h2:=(hk.sec p).2;split
 ·exact hk
 ·split
  ·exact Am.J3 (Am.D8 hk hi p _ (by omega)) (by rw[uh];exact hi) p
  ·exact hk
def mz (S:Am)(i p:Nat):(S.A5 i p).1.Au.length=S.Au.length:=by
 unfold Am.A5;split
 ·rfl
 ·split
  ·exact uh _ _ _ _
  ·rfl
section
variable {w w' : Aa} {o o' : Own} {id k b : Nat} {L : Lg} {vr vk vh vu : Ac}
def VI (h:BV w o id k b L vr vk vh vu)(hk:L.ok)(p v:Nat)(hp:¬∀ x ∈ L.holds,x.1≠p) :
  Ab ANa 202 #[Ah (some ⟨b,0,none⟩),Al #[p,v]] w fun e w'=>e=O (.bool false)/\Ae w w w':=by
 have HI:=Qa h;have j:=h.A3;have c:=h.A3.cell;have s:=h.A3.lt;obtain⟨pa,cp,rfl⟩:=h.rh.A6;have hlen:=Qa (show L.holds.length<=200 by have:=hk.h;have:=hk.mu;omega)
 have HP:=Qa hp;clear h hk hp;go_in;go_wp2_with fail;go_loopw [14](fun ix wr=>∃ i:Nat,ix=I Z i/\i<=L.holds.length/\(∀ (n:Nat) x,n<i->L.holds[n]?=some x->x.1≠p)/\Ae w w wr/\An wr w #[p,v] 195)(fun ix _=>L.holds.length-(intOf ix).toNat)
 case atStart=>exact⟨0,rfl,by omega,fun n x hn=>by omega,qc (qd w) _,An.new w _ _⟩
 case round =>
  obtain⟨i,rfl,hil,hno,hbr,jB⟩:=hrel;replace hno:=Qa hno;clear c s;have jL:=j.below hbr j.lt;have cL:=jL.cell;have sL:=jL.lt;have cB:=jB.cell;have sB:=jB.lt;have hR:=HI.o.rh.below hbr;have hlt:i<L.holds.length:=by
   refine Nat.lt_of_not_le fun hge=>HP.o fun x hx=>?_;obtain⟨n,hn⟩:=List.getElem?_of_mem hx;exact hno.o n x (by have:=(Qc.1 hn).1;omega) hn
  obtain⟨x,hx⟩:∃ x,L.holds[i]?=some x:=⟨_,Qb hlt⟩;rcases hR.own.2 with ⟨e1,e2⟩|⟨g,cap,cur,e1,_,hg,hn,hc,_⟩
  ·omega
  ·injection e1 with e1 _ e2
   subst e1 e2;obtain⟨c0,c1⟩:=hR.Fi i x hx;have sg:g<wr.1.size:=(Qf.1 hg).1;have hI:(i:Int)<(L.holds.length:Int):=by omega
   have hI2:(i:Int)<200:=by have:=hlen.o;omega
   unfold nv at c0 c1;have Ado:=Qa (fun (hne:x.1≠p)(n:Nat) z (hn:n<i+1)(hz:L.holds[n]?=some z)=>show z.1≠p from by
    by_cases e:n=i
    ·subst e;rw[hx]at hz;injection hz with hz;subst hz;exact hne
    ·exact hno.o n z (by omega) hz)
   clear hg hR hx hc;by_cases hxp:x.1=p
   ·have hxp:(x.1:Int)=(p:Int):=by omega
    go_wp2_with fail;go_ret;exact⟨rfl,qc hbr _⟩
   ·have Ama:=Qa (Ado.o hxp)
    have hne:(x.1:Int)≠(p:Int):=by omega
    clear Ado;go_wp2_with fail;go_roundw
    case rel=>exact⟨i+1,by simp,by omega,Ama.o,qc hbr _,jB.alloc _⟩
    case measure=>simp[intOf];omega
end
section
variable {w w' : Aa} {o o' : Own} {y : Bl} {S : Am} {x : Tx} {i : Nat}
def Ti (h:Av w o y S)(hx:S.Au[i]?=some x){L':Lg}{j:Nat}(hj:j=1\/j=2\/j=3\/j=4){vr vk vh vu:Ac}(hl:BV w' o' y.l.id (17+8*i) (y.lb i) L' vr vk vh vu)(hs:Stp (fun t=>t=(y.l.id,17+8*i)\/t=(y.l.id,17+8*i+j)) o o' w w') :
  BM y (S.tx i { x with log:=L' }) o w w'/\Stp (ux y i) o o' w w'/\Av w' o' y (S.tx i { x with log:=L' }):=by
 have ht:=h.Au i x hx;obtain⟨vt,hb,hr⟩:=ht.A3;have hst:Stp (ux y i) o o' w w':=hs.mono (by rintro _ (rfl|rfl)<;>exact⟨rfl,by simp<;>omega,by simp<;>omega⟩)
 have h1:Av w' o' y (S.tx i { x with log:=L' }):=h.tx ⟨⟨vt,hb.Ar hs (by rw[ht.ob];simp;omega),hr.Ar hs (by simp;omega)⟩,⟨_,_,_,_,hl⟩,(hst.tags _ hb.lt).trans ht.ob⟩ hst
 exact⟨⟨o',h1,hst.mono fun _=>Sz⟩,hst,h1⟩
def P9 (h:Av w o y S)(hk:S.ok)(hi:i<S.Au.length)(p:Nat) :
  Ab ANa 206 #[ptr (y.lb i),p] w fun e w'=>e=O (.bool (yn (S.t i).log.reads p (S.t i).log.mr))/\BM y (S.tx i ((S.t i).read p)) o w w':=by
 obtain⟨vr,vk,vh,vu,hl⟩:=(h.Au i _ (Am.AW hi)).log;refine (JE hl (hk.Ew hi).ok p).mono ?_
 rintro e w'⟨rfl,nM,o',hl',hs⟩
 exact⟨rfl,(Ti h (Am.AW hi) (.inl rfl) hl' hs).1⟩
def P8 (h:Av w o y S)(hk:S.ok)(hi:i<S.Au.length)(p:Nat) :
  Ab ANa 153 #[ptr (y.lb i),p] w fun e w'=>e=O (.bool (yn (S.t i).log.keeps p (S.t i).log.mr))/\BM y (S.tx i ((S.t i).keep p)) o w w':=by
 obtain⟨vr,vk,vh,vu,hl⟩:=(h.Au i _ (Am.AW hi)).log;refine (JD hl (hk.Ew hi).ok p).mono ?_
 rintro e w'⟨rfl,nM,o',hl',hs⟩
 exact⟨rfl,(Ti h (Am.AW hi) (.inr (.inl rfl)) hl' hs).1⟩
def Uc (h:Av w o y S)(hk:S.ok)(hi:i<S.Au.length)(u:Un) :
  Ab ANa 163 #[ptr (y.lb i),Vl u] w fun e w'=>e=O (.bool (S.Cq i u).2)/\BM y (S.Cq i u).1 o w w':=by
 obtain⟨vr,vk,vh,vu,hl⟩:=(h.Au i _ (Am.AW hi)).log;unfold Am.Cq;by_cases hm:(S.t i).log.Az.length<(S.t i).log.mu
 ·rw[if_pos hm]
  refine (qfn hl (hk.Ew hi).ok u hm).mono ?_;rintro e w'⟨rfl,nM,o',hl',hs⟩;exact⟨rfl,(Ti h (Am.AW hi) (.inr (.inr (.inr rfl))) hl' hs).1⟩
 ·rw[if_neg hm]
  refine (qfx hl u (by omega)).mono ?_
  rintro e w'⟨rfl,hb⟩;exact⟨rfl,h.EJ hb⟩
def WM (h:Av w o y S)(hk:S.ok)(hi:i<S.Au.length)(p v:Nat) :
  Ab ANa 202 #[ptr (y.lb i),Al #[p,v]] w fun e w'=>e=O (.bool (S.Ba i p v).2)/\BM y (S.Ba i p v).1 o w w':=by
 obtain⟨vr,vk,vh,vu,hl⟩:=(h.Au i _ (Am.AW hi)).log;unfold Am.Ba;by_cases hd:∀ z ∈ (S.t i).log.holds,z.1≠p
 ·by_cases hm:(S.t i).log.holds.length<(S.t i).log.mu
  ·have e1:xa (S.t i).log p=true:=by unfold xa;simp only[ag,decide_eq_true_eq];exact⟨hd,hm⟩
   rw[if_pos e1];refine (qfm hl (hk.Ew hi).ok p v hd hm).mono ?_;rintro e w'⟨rfl,nM,o',hl',hs⟩;exact⟨rfl,(Ti h (Am.AW hi) (.inr (.inr (.inl rfl))) hl' hs).1⟩
  ·have e1:¬xa (S.t i).log p=true:=by unfold xa;simp only[ag,decide_eq_true_eq];exact fun h=>hm h.2
   rw[if_neg e1];refine (tt hl (hk.Ew hi).ok p v hd (by omega)).mono ?_
   rintro e w'⟨rfl,hb⟩;exact⟨rfl,h.EJ hb⟩
 ·have e1:¬xa (S.t i).log p=true:=by unfold xa;simp only[ag,decide_eq_true_eq];exact fun h=>hd h.1
  rw[if_neg e1];refine (VI hl (hk.Ew hi).ok p v hd).mono ?_;rintro e w'⟨rfl,hb⟩;exact⟨rfl,h.EJ hb⟩
def look_nil (w:Aa)(a b:Ac) :
  Ab ANa 152 #[a,b,()] w fun e w'=>e=O (Ak #[ka FA,I Z 143])/\Ae w w w':=by
 go_in;go_wp2_with fail;refine bodyPost_ret (v:=Ak #[ka ⟨0,0,false,false⟩,I Z 143]) (by simp[results,results152,go_sem]) rfl ⟨rfl,?_⟩
 repeat (first|exact qc (qd w) _|refine qo ?_ (Qk _) _)
def Mq (h:Av w o y S)(hk:S.ok)(b:Ac){p:Nat}(hp:lk S.H.cur p=none)(h0:p≠0) :
  Ab ANa 152 #[ptr y.sb,b,p] w fun e w'=>e=O (Ak #[ka FA,I Z 70])/\Ae w w w':=by
 obtain⟨vc,vo,vw,vf,f,hh⟩:=h.hp;have HS:=Qa (fun w' (hw:Ae w w w')=>XG (hh.below hw) hk.H.ok hp)
 obtain⟨vq,vl,vm,jb,_⟩:=h.A3;unfold qm at jb;have c:=jb.cell;have sb:=jb.lt;clear h hk hh hp;go_in;go_wp2_with fail;refine (HS.o _ (qc (qd w) _)).mono ?_
 rintro e w1 ⟨rfl,hb1⟩
 have jR:=(An.new w #[(),(),false,false] 82).below hb1 (by simp)
 have hw1:=qe (qc (qd w) _) hb1;clear hb1;have cR:=jR.cell;have zR:=jR.free;have sR:=jR.lt;go_wp2_with fail;refine bodyPost_ret (v:=Ak #[ka ⟨0,0,false,false⟩,I Z 70]) (by simp[results,results152,go_sem,cR,sR]) rfl ⟨rfl,?_⟩
 repeat (first|exact hw1|refine qo ?_ (Qk _) _|refine qc ?_ _)
def qnh (h:Av w o y S)(hk:S.ok)(hi:i<S.Au.length){p:Nat}{ob:Ob}(hp:lk S.H.cur p=some ob)(hc:we i (S.t i).start ob.second=true)(h0:p≠0) :
  Ab ANa 152 #[ptr y.sb,ptr (y.xb i),p] w fun e w'=>e=O (Ak #[ka FA,I Z 141])/\Ae w w w':=by
 obtain⟨vc,vo,vw,vf,f,hh⟩:=h.hp;have HS:=Qa (fun w' (hw:Ae w w w')=>TY (hh.below hw) hk.H.ok hp)
 have HC:=(fun w' (hw:Ae w w w')=>UH (h.below hw) hk (Am.AW hi) p)
 have e1:S.H.sec p=ob.second:=by unfold Hp.sec;rw[hp]
 rw[e1,hc]at HC;replace HC:=Qa HC;obtain⟨vq,vl,vm,jb,_⟩:=h.A3;unfold qm at jb;have c:=jb.cell;have sb:=jb.lt;clear h hk hh hp hi hc e1;obtain⟨⟨sp,sd,wk,fn⟩,fr,se,sr,ps,ns⟩:=ob;simp only at HS;go_in;go_wp2_with fail;refine (HS.o _ (qc (qd w) _)).mono ?_
 rintro e w1 ⟨rfl,hb1⟩
 have jR:=(An.new w #[(),(),false,false] 82).below hb1 (by simp)
 have hw1:=qe (qc (qd w) _) hb1;clear hb1;go_wp2_with fail;refine (HC.o _ (qc hw1 _)).mono ?_
 rintro e w2 ⟨rfl,hb2⟩
 have dR:=(jR.alloc (ANb #[sp,sd,wk,fn] 82)).below hb2 (jR.alloc _).lt;have hw2:=qe (qc hw1 _) hb2;clear hb2 jR c;have cR:=dR.cell;have zR:=dR.free;have sR:=dR.lt;go_wp2_with fail;refine bodyPost_ret (v:=Ak #[ka ⟨0,0,false,false⟩,I Z 141]) (by simp[results,results152,go_sem,cR]) rfl ⟨rfl,?_⟩
 repeat (first|exact hw2|refine qo ?_ (Qk _) _)
def BM.from (h0:Stp (qi y) o o' w w'){w2:Aa}{S':Am}(h:BM y S' o' w' w2):BM y S' o w w2:=by
 obtain⟨o2,h1,h2⟩:=h;exact⟨o2,h1,h0.trans h2⟩
def Mp (h0:Av w o y S)(hk:S.ok)(hi:i<S.Au.length){p:Nat}{ob:Ob}(hp:lk S.H.cur p=some ob)(hc:we i (S.t i).start ob.second=false)(hp0:p≠0) :
  Ab ANa 152 #[ptr y.sb,ptr (y.xb i),p] w fun e w' =>
   e=O (Ak #[ka (if yn (S.t i).log.reads p (S.t i).log.mr&&!ob.B5 then ob.AL else FA),I Z (if yn (S.t i).log.reads p (S.t i).log.mr then (if ob.B5 then 142 else 0) else 130)])/\BM y (S.tx i ((S.t i).read p)) o w w':=by
 obtain⟨o1,ho1,dN,hS0⟩:=PRe o w (y.l.id+1,0) (qi y);have h:=h0.retag dN;clear dN
 have hbx:∀ b,w.1.size<=b->o1 b=(y.l.id+1,0):=fun b hb=>by rw[ho1];exact qq hb
 clear ho1 h0;obtain⟨vc,vo,vw,vf,f,hh⟩:=h.hp;have HS:=Qa (fun w' (hw:Ae w w w')=>TY (hh.below hw) hk.H.ok hp)
 have HC:=(fun w' (hw:Ae w w w')=>UH (h.below hw) hk (Am.AW hi) p)
 have e1:S.H.sec p=ob.second:=by unfold Hp.sec;rw[hp]
 rw[e1,hc]at HC;replace HC:=Qa HC;have HL:=Qa (fun w' (hw:Ae w w w')=>P9 (h.below hw) hk hi p)
 obtain⟨vt,jx,_⟩:=(h.Au i _ (Am.AW hi)).A3;unfold zj at jx;obtain⟨vq,vl,vm,jb,_⟩:=h.A3;unfold qm at jb;have c:=jb.cell;have sb:=jb.lt;generalize yn (S.t i).log.reads p (S.t i).log.mr=nb at *;generalize S.tx i ((S.t i).read p)=S' at *;clear h hk hh hp hc e1;obtain⟨⟨sp,sd,wk,fn⟩,fr,se,sr,ps,ns⟩:=ob;simp only at HS;go_in;go_wp2_with fail;refine (HS.o _ (qc (qd w) _)).mono ?_
 rintro e w1 ⟨rfl,hb1⟩
 have jR:=(An.new w #[(),(),false,false] 82).below hb1 (by simp)
 have hw1:=qe (qc (qd w) (ANb #[(),(),false,false] 82)) hb1;have hz1:w.1.size<w1.1.size:=jR.lt;clear hb1;go_wp2_with fail;refine (HC.o _ (qc hw1 _)).mono ?_
 rintro e w2 ⟨rfl,hb2⟩
 have dR:=(jR.alloc (ANb #[sp,sd,wk,fn] 82)).below hb2 (jR.alloc _).lt;have dC:=(An.new w1 #[sp,sd,wk,fn] 82).below hb2 (by simp)
 have hw2:=qe (qc hw1 (ANb #[sp,sd,wk,fn] 82)) hb2;clear hb2 jR c;have cx:=(jx.below hw2 jx.lt).cell;go_wp2_with fail;refine (HL.o _ hw2).mono ?_
 rintro e w3 ⟨rfl,o3,hl3,hs3⟩
 have hnb:∀ b,w.1.size<=b->¬qi y (o1 b):=fun b hb=>by rw[hbx b hb];exact qp y
 have eX:=dR.Ar hs3 (hnb _ (Qk _));have t3:o3 w=(y.l.id+1,0):=(hs3.tags _ dR.lt).trans (hbx _ (Qk _));have ic:=dC.Ar hs3 (hnb _ (by omega))
 have hst:Stp (qi y) o o3 w w3:=hS0.trans ((Stp.of_below hw2).trans hs3);clear cx dR dC hs3 hnb;have cR:=eX.cell;have zR:=eX.free;have sR:=eX.lt;have cS:=ic.cell;have sS:=ic.lt;have H2:=Qa hl3;have H3:=Qa hst;clear hl3 hst hS0
 cases nb
 ·go_wp2_with fail
  refine bodyPost_ret (v:=Ak #[ka ⟨0,0,false,false⟩,I Z 130]) (by simp[results,results152,go_sem,cR]) rfl ⟨by cases fr<;>rfl,o3,?_,?_⟩
  ·repeat (first|exact H2.o|refine Av.box ?_ t3 _)
  ·repeat (first|exact H3.o|refine Stp.setCell_new ?_ (Qk _) _)
 ·cases fr
  ·go_wp2_with fail
   refine bodyPost_ret (v:=Ak #[ka ⟨sp,sd,wk,fn⟩,()]) (by simp[results,results152,go_sem,cR]) rfl ⟨rfl,o3,?_,?_⟩
   ·repeat (first|exact H2.o|refine Av.box ?_ t3 _)
   ·repeat (first|exact H3.o|refine Stp.setCell_new ?_ (Qk _) _)
  ·go_wp2_with fail
   refine bodyPost_ret (v:=Ak #[ka ⟨0,0,false,false⟩,I Z 142]) (by simp[results,results152,go_sem,cR]) rfl ⟨rfl,o3,?_,?_⟩
   ·repeat (first|exact H2.o|refine Av.box ?_ t3 _)
   ·repeat (first|exact H3.o|refine Stp.setCell_new ?_ (Qk _) _)
def Ut (h:Av w o y S)(hk:S.ok)(hi:i<S.Au.length)(p:Nat) :
  Ab ANa 152 #[ptr y.sb,ptr (y.xb i),p] w fun e w' =>
   e=O (Ak #[ka (S.AH i p).2.2,I Z (S.AH i p).2.1])/\BM y (S.AH i p).1 o w w':=by
 unfold Am.AH;by_cases h0:p=0
 ·subst h0
  rw[if_pos rfl];exact (look_nil w _ _).mono fun _ _⟨a,b⟩=>⟨a,h.EJ b⟩
 ·rw[if_neg h0]
  cases hp:lk S.H.cur p with
  | none=>exact (Mq h hk _ hp h0).mono fun _ _⟨a,b⟩=>⟨a,h.EJ b⟩
  | some ob =>
   simp only
   cases hc:we i (S.t i).start ob.second with
   | true=>rw[if_pos rfl];exact (qnh h hk hi hp hc h0).mono fun _ _⟨a,b⟩=>⟨a,h.EJ b⟩
   | false=>rw[if_neg (by simp)];exact Mp h hk hi hp hc h0
def gx (h:Av w o y S)(hk:S.ok)(hi:i<S.Au.length)(p:Nat) :
  Ab ANa 205 #[ptr y.sb,ptr (y.xb i),p] w fun e w'=>e=O (I Z (S.Aq i p).2)/\BM y (S.Aq i p).1 o w w':=by
 have HL:=Ut h hk hi p;unfold Am.Aq;generalize S.AH i p=r at *;obtain⟨S',e',s⟩:=r;obtain⟨sp,sd,wk,fn⟩:=s;simp only at HL ⊢;replace HL:=Qa HL;clear h hk hi;by_cases he:e'=0
 ·subst he
  cases wk
  all_goals
   go_in;go_wp2_with fail;refine HL.o.mono ?_;rintro e w1⟨rfl,o1,hs1,hst⟩;go_wp2_with fail;go_ret;exact⟨rfl,o1,hs1.alloc _,hst.alloc _⟩
 ·rw[if_neg he]
  have hb:(e'==0)=false:=by rw[Qh];exact he
  go_in;go_wp2_with fail;refine HL.o.mono ?_;rintro e w1⟨rfl,o1,hs1,hst⟩;go_wp2_with fail;go_ret;exact⟨rfl,o1,hs1.alloc _,hst.alloc _⟩
def Up (h:Av w o y S) (hk:S.ok) (hi:i<S.Au.length) (p:Nat) :
  Ab ANa 162 #[ptr y.sb,ptr (y.xb i),p] w fun e w'=>e=O (.bool (S.A5 i p).2)/\BM y (S.A5 i p).1 o w w':=by
 have HC:=Qa (Uf h hk p);obtain⟨hs,hv⟩:=hk.sec p;have HO:=(fun w=>TN (S.H.sec p) hv hs w)
 obtain⟨vq,vl,vm,hb,_⟩:=h.A3;unfold qm at hb;have c:=hb.cell;obtain⟨vt,jx,_⟩:=(h.Au i _ (Am.AW hi)).A3;unfold zj at jx;have HL:=(fun w' (hw:Ae w w w')=>WM (h.below hw) hk hi p (S.H.sec p/2))
 have HW:=(fun w' o' (hw:Av w' o' y (S.Ba i p (S.H.sec p/2)).1)=>J9 hw (Am.D8 hk hi p _ (by omega)) (x:=(S.Ba i p (S.H.sec p/2)).1.t i) (Am.AW (by rw[uh];exact hi)) p)
 have HI:=Qa h;unfold Am.A5;by_cases hod:S.H.sec p%2=1
 ·rw[if_pos hod]
  rw[if_pos hod,if_pos hod,decide_eq_true hod]at HO;replace HO:=Qa HO;generalize S.H.sec p=v at *;clear h hk hs hv hod HL HW hi;go_in;go_wp2_with fail;refine HC.o.mono ?_;rintro e w1⟨er,rfl,hb1⟩;go_wp2_with fail;refine (HO.o _).mono ?_;rintro e w2⟨rfl,rfl⟩;go_wp2_with fail;go_ret;exact⟨rfl,HI.o.EJ hb1⟩
 ·rw[if_neg hod]
  rw[if_neg hod,if_neg hod,decide_eq_false hod]at HO;replace HO:=Qa HO;have e3:({ (S.Ba i p (S.H.sec p/2)).1 with H:=((S.Ba i p (S.H.sec p/2)).1.H.AM p (2*i+1)).1 }:Am)=(S.Ba i p (S.H.sec p/2)).1.Eb i p:=rfl;simp only[e3]at HW;generalize hq:(S.Ba i p (S.H.sec p/2))=q at *;obtain⟨S2,ok⟩:=q;have hS2:ok=false->S2=S:=fun e=>by
   unfold Am.Ba at hq;split at hq
   ·injection hq with _ hq;rw[e]at hq;cases hq
   ·injection hq with hq _;exact hq.symm
  simp only at HL HW ⊢;replace HL:=Qa HL;replace HW:=Qa HW;generalize S2.Eb i p=S3 at *;generalize S.H.sec p/2=v2 at *;generalize S.H.sec p=v at *;replace hS2:=Qa hS2;clear h hk hs hv hod hi e3 hq
  cases ok
  ·rw[if_neg (by simp)]
   go_in;go_wp2_with fail;refine HC.o.mono ?_;rintro e w1⟨er,rfl,hb1⟩;have cx:=(jx.below hb1 jx.lt).cell;go_wp2_with fail;refine (HO.o _).mono ?_;rintro e w2⟨rfl,rfl⟩;go_wp2_with fail;refine (HL.o _ hb1).mono ?_;rintro e w2⟨rfl,o2,iy,hs2⟩;rw[hS2.o (by simp)]at iy
   go_wp2_with fail;go_ret;exact⟨rfl,o2,iy,(Stp.of_below hb1).trans hs2⟩
  ·rw[if_pos rfl]
   go_in;go_wp2_with fail;refine HC.o.mono ?_;rintro e w1⟨er,rfl,hb1⟩;have cx:=(jx.below hb1 jx.lt).cell;go_wp2_with fail;refine (HO.o _).mono ?_;rintro e w2⟨rfl,rfl⟩;go_wp2_with fail;refine (HL.o _ hb1).mono ?_;rintro e w2⟨rfl,o2,iy,hs2⟩;go_wp2_with fail;refine (HW.o _ _ iy).mono ?_;rintro e w3⟨rfl,cZ⟩;go_wp2_with fail;go_ret;exact⟨rfl,BM.from ((Stp.of_below hb1).trans hs2) cZ⟩
def Am.Bm (S:Am)(i:Nat)(s:BQ):Am×Nat×Int:=
 if (S.H.AR s).2.2≠0 then (S,0,100) else
  if (({ S with H:=(S.H.AR s).1 }:Am).Ba i (S.H.AR s).2.1 0).2=true then ((({ S with H:=(S.H.AR s).1 }:Am).Ba i (S.H.AR s).2.1 0).1.Eb i (S.H.AR s).2.1,(S.H.AR s).2.1,0)
  else ({ S with H:=((S.H.AR s).1.AX (S.H.AR s).2.1 true).1 },0,130)
def Am.E2 {S:Am}(hk:S.ok)(hi:i<S.Au.length){s:BQ}(hs:s.ok):(S.Bm i s).1.ok:=by
 unfold Am.Bm;have h1:=Am.Fs hk hs;split
 ·exact hk
 ·split
  ·exact Am.J3 (Am.D8 h1 hi _ 0 (by omega)) (by rw[uh];exact hi) _
  ·exact Am.CH h1 _ _
def SL (S:Am)(i:Nat)(s:BQ):(S.Bm i s).1.Au.length=S.Au.length:=by
 unfold Am.Bm;split
 ·rfl
 ·split
  ·exact uh _ _ _ _
  ·rfl
def D2 (h:Av w o y S) (hk:S.ok) (hi:i<S.Au.length) (s:BQ) (hs:s.ok) :
  Ab ANa 146 #[ptr y.sb,ptr (y.xb i),ka s] w fun e w'=>e=O (Ak #[I Z ((S.Bm i s).2.1:Nat),I Z (S.Bm i s).2.2])/\BM y (S.Bm i s).1 o w w':=by
 have hB:Ae w w (w.alloc (ANb #[s.p,s.d,.bool s.AA,.bool s.final] 82)).drew:=qf (qc (qd w) _);have HA:=MR (h.below hB) hk s hs;have h1:=Am.Fs hk hs;have HL:=(fun w' o' (hw:Av w' o' y { S with H:=(S.H.AR s).1 })=>WM hw h1 hi (S.H.AR s).2.1 0)
 have HW:=(fun w' o' (hw:Av w' o' y (({ S with H:=(S.H.AR s).1 }:Am).Ba i (S.H.AR s).2.1 0).1)=>J9 hw (Am.D8 h1 hi _ 0 (by omega)) (x:=(({ S with H:=(S.H.AR s).1 }:Am).Ba i (S.H.AR s).2.1 0).1.t i) (Am.AW (by rw[uh];exact hi)) (S.H.AR s).2.1)
 have HF:=(fun w' o' (hw:Av w' o' y { S with H:=(S.H.AR s).1 })=>gz hw h1 (S.H.AR s).2.1 true)
 have HX:=(fun w' o' (hw:Av w' o' y { S with H:=(S.H.AR s).1 })=>(hw.Au i _ (Am.AW hi)).cell)
 have hno:(S.H.AR s).2.2≠0->(S.H.AR s).1=S.H/\(S.H.AR s).2=(0,100):=by
  unfold Hp.AR;split
  ·intro h;exact absurd rfl h
  ·intro _;exact⟨rfl,rfl⟩
 unfold Am.Bm;generalize S.H.AR s=r at *;obtain⟨H',at',er⟩:=r;simp only at HA HL HW HF HX hno ⊢;have hq0:(({ S with H:=H' }:Am).Ba i at' 0).2=false->(({ S with H:=H' }:Am).Ba i at' 0).1={ S with H:=H' }:=fun e=>by
  unfold Am.Ba at e ⊢;split at e
  ·cases e
  ·rename_i hm;rw[if_neg hm]
 have e3:({ (({ S with H:=H' }:Am).Ba i at' 0).1 with H:=((({ S with H:=H' }:Am).Ba i at' 0).1.H.AM at' (2*i+1)).1 }:Am)=(({ S with H:=H' }:Am).Ba i at' 0).1.Eb i at':=rfl;simp only[e3]at HW;generalize hS1:({ S with H:=H' }:Am)=S1 at *;generalize (S1.Ba i at' 0)=q at *;obtain⟨S2,ok⟩:=q;simp only at HL HW hq0 ⊢;generalize S2.Eb i at'=S3 at *;generalize dQ:({ S1 with H:=(S1.H.AX at' true).1 }:Am)=S4 at *;have wU:({ S with H:=(H'.AX at' true).1 }:Am)=S4:=by rw[<-dQ,<-hS1]
 rw[wU];have yD:=Qa HA;have HS4:=Qa wU;obtain⟨vq,vl,vm,jb,_⟩:=h.A3;have jb:=jb;unfold qm at jb;have c:=jb.cell;have sb:=jb.lt;have HLh:=Qa HL;have HWh:=Qa HW;have HFh:=Qa HF;have HXh:=Qa HX;have hno':=Qa hno;have hq':=Qa hq0;have Aky:=Qa hS1;have hbase:=Qa (Stp.of_below (T:=qi y) (o:=o) hB);have HI:=Qa (h.below hB);clear HA HL HW HF HX hno hq0 hS1 dQ wU e3 h hk h1 hB;by_cases her:er=0
 ·subst her
  rw[if_neg (by simp)]
  clear hno'
  cases ok
  ·rw[if_neg (by simp)]
   go_in;go_upto_region 1 with fail;obtain⟨W,hW⟩:=Ja0 (w.alloc (ANb #[s.p,s.d,.bool s.AA,.bool s.final] 82));have jW:=jb.alloc (ANb #[s.p,s.d,.bool s.AA,.bool s.final] 82);have jB:=An.new w #[s.p,s.d,.bool s.AA,.bool s.final] 82;rw[<-hW]at yD hbase jW jB ⊢;clear hW c sb HI;have c:=jW.cell;have cB:=jB.cell;go_region_with (first|(go_at_call 201;refine yD.o.mono ?_;rintro e w1⟨rfl,o1,hS1,hs1⟩)|fail)
   all_goals
    obtain⟨vt,cx⟩:=HXh.o _ _ hS1;clear c cB;go_wp2_with fail;refine (HLh.o _ _ hS1).mono ?_;rintro e w2⟨rfl,o2,hS2,hs2⟩;rw[hq'.o (by simp)]at hS2
    clear cx;obtain⟨vq,vl,vm,lM,_⟩:=hS2.A3;unfold qm at lM;have c2:=lM.cell;go_wp2_with fail;refine (HFh.o _ _ hS2).mono ?_;rintro e w3⟨rfl,cZ⟩;rw[HS4.o]at cZ;go_wp2_with fail;go_ret2;exact⟨rfl,BM.from (hbase.o.trans (hs1.trans hs2)) cZ⟩
  ·rw[if_pos rfl]
   go_in;go_upto_region 1 with fail;obtain⟨W,hW⟩:=Ja0 (w.alloc (ANb #[s.p,s.d,.bool s.AA,.bool s.final] 82));have jW:=jb.alloc (ANb #[s.p,s.d,.bool s.AA,.bool s.final] 82);have jB:=An.new w #[s.p,s.d,.bool s.AA,.bool s.final] 82;rw[<-hW]at yD hbase jW jB ⊢;clear hW c sb HI;have c:=jW.cell;have cB:=jB.cell;go_region_with (first|(go_at_call 201;refine yD.o.mono ?_;rintro e w1⟨rfl,o1,hS1,hs1⟩)|fail)
   all_goals
    obtain⟨vt,cx⟩:=HXh.o _ _ hS1;clear c cB;go_wp2_with fail;refine (HLh.o _ _ hS1).mono ?_;rintro e w2⟨rfl,o2,hS2,hs2⟩;clear cx;go_wp2_with fail;refine (HWh.o _ _ hS2).mono ?_;rintro e w3⟨rfl,cZ⟩;go_wp2_with fail;go_ret2;exact⟨rfl,BM.from (hbase.o.trans (hs1.trans hs2)) cZ⟩
 ·rw[if_pos her]
  obtain⟨rfl,e2⟩:=hno'.o her;injection e2 with e2 e3;subst e2 e3;have hSS:S1=S:=by rw[<-Aky.o]
  go_in;go_upto_region 1 with fail;obtain⟨W,hW⟩:=Ja0 (w.alloc (ANb #[s.p,s.d,.bool s.AA,.bool s.final] 82));have jW:=jb.alloc (ANb #[s.p,s.d,.bool s.AA,.bool s.final] 82);have jB:=An.new w #[s.p,s.d,.bool s.AA,.bool s.final] 82;rw[<-hW]at yD hbase jW jB ⊢;clear hW c sb HI;have c:=jW.cell;have cB:=jB.cell;replace hSS:=Qa hSS;go_region_with (first|(go_at_call 201;refine yD.o.mono ?_;rintro e w1⟨rfl,o1,hS1,hs1⟩)|fail)
  all_goals
   clear c cB;go_wp2_with fail;go_ret2;refine⟨rfl,o1,?_,hbase.o.trans hs1⟩;rw[<-hSS.o];exact hS1
end
end
section
open Hp
def Hp.BH (H:Hp)(u:Un):Hp:=
 if u.kind=1 then (H.Bj u.pos u.i u.old.toNat).1 else if u.kind=2 then (H.BB u.pos u.i u.old).1 else if u.kind=3 then (H.AX u.pos (decide (u.old≠0))).1 else H
def Hp.Bi (H:Hp)(us:List Un):Hp:=us.foldr (fun u H=>H.BH u) H
def Hp.Dl (H:Hp)(z:Nat×Nat):Hp:=if z.2=0 then ((H.AM z.1 (2*z.2)).1.AX z.1 true).1 else (H.AM z.1 (2*z.2)).1
def Hp.BU (H:Hp)(zs:List (Nat×Nat)):Hp:=zs.foldl Hp.Dl H
def Am.h (S:Am)(H:Hp):Am:={ S with H:=H }
def Am.BO (S:Am)(i:Nat):Am:=if S.Aw=(i:Int) then { S with queue:=(S.t i).A0++S.queue,Aw:=-1 } else S
def Am.abort (S:Am)(i:Nat):Am:=((S.h ((S.H.Bi (S.t i).log.Az).BU (S.t i).log.holds)).BO i).tx i (S.t i).ended
def Am.J5 {S:Am}(hk:S.ok){u:Un}(h1:-9223372036854775808<=u.old/\u.old<=9223372036854775807):(S.h (S.H.BH u)).ok:=by
 unfold Hp.BH;split
 ·exact Am.DK hk _ _ _
 ·split
  ·exact Am.Eh hk _ _ h1
  ·split
   ·exact Am.CH hk _ _
   ·exact hk
def Am.Ea {S:Am}(hk:S.ok):∀ (us:List Un),(∀ u ∈ us,-9223372036854775808<=u.old/\u.old<=9223372036854775807)->(S.h (S.H.Bi us)).ok
 | [],_=>hk
 | u::us,h=>Am.J5 (Am.Ea hk us fun z hz=>h z (.tail _ hz)) (h u (.head _))
def Am.Ga {S:Am}(hk:S.ok)(p:Nat){v:Nat}(hv:v<=1099511627776):(S.h (S.H.AM p (2*v)).1).ok:=Am.CS hk _ (by omega) fun h=>by omega
def Am.MC {S:Am}(hk:S.ok){z:Nat×Nat}(hz:z.2<=1099511627776):(S.h (S.H.Dl z)).ok:=by
 have h1:(S.h (S.H.AM z.1 (2*z.2)).1).ok:=Am.CS hk _ (by omega) fun h=>by omega
 unfold Hp.Dl;split
 ·exact Am.CH h1 _ _
 ·exact h1
def Am.E3:∀ (zs:List (Nat×Nat)){S:Am},S.ok->(∀ z ∈ zs,z.2<=1099511627776)->(S.h (S.H.BU zs)).ok
 | [],_,hk,_=>hk
 | z::zs,S,hk,h=>Am.E3 zs (S:=S.h (S.H.Dl z)) (Am.MC hk (h z (.head _))) fun x hx=>h x (.tail _ hx)
def qqa (H:Hp)(zs:List (Nat×Nat))(z:Nat×Nat):H.BU (zs++[z])=(H.BU zs).Dl z:=by unfold Hp.BU;rw[aB];rfl
def Uz:∀ (l:List Tx)(i:Nat)(x:Tx),l[i]?=some x->x.A0.length<=wa l
 | [],i,x,h=>by simp at h
 | q::l,0,x,h=>by simp at h;subst h;simp[wa]
 | q::l,i+1,x,h=>by have:=Uz l i x (by simpa using h);simp[wa];omega
def Am.D7 {S:Am}(hk:S.ok){i:Nat}(hi:i<S.Au.length){q:List (Nat×Nat)}{z:Int}{v:Nat}(hq:q.length<=S.queue.length+(S.t i).A0.length)(hz:-1<=z/\z<=8)(hv:v<=S.now):Am.ok (({ S with queue:=q,Aw:=z,version:=v }:Am).tx i (S.t i).ended):=by
 have hx:=Am.AW hi;have hl:=y9 S.Au i (S.t i).ended _ hx;have ht:=ug S.Au i (S.t i).ended _ hx;have hmem:∀ z ∈ S.Au.set i (S.t i).ended,z ∈ S.Au\/z=(S.t i).ended:=fun z hz=>af hz
 have hl2:jj (S.Au.set i (S.t i).ended)<=jj S.Au:=by
  have:(if (S.t i).ended.live=true then 1 else 0)=0:=rfl;rw[this]at hl;omega
 have e0:(S.t i).ended.A0=[]:=rfl;rw[e0]at ht;simp only[aV]at ht;refine⟨hk.H,hk.n2,by show S.now+jj (S.Au.set i (S.t i).ended)<=S.most;have:=hk.lv;omega,by simpa [Am.tx] using hk.t1,by simpa [Am.tx] using hk.t8,fun z hz=>?_,fun z hz=>?_,hv,hz,hk.sc,hk.so,by show q.length+wa (S.Au.set i (S.t i).ended)<=S.next;have:=hk.qu;omega,hk.nx,hk.cm,fun z hz=>?_,hk.ph⟩
 ·rcases hmem z hz with h|rfl
  ·exact hk.lg z h
  ·exact Lg.Gs (hk.Ew hi)
 ·rcases hmem z hz with h|rfl
  ·exact hk.st z h
  ·exact hk.Vh hi
 ·rcases hmem z hz with h|rfl
  ·exact hk.se z h
  ·exact hk.set hi
def Am.D6 {S:Am} (hk:S.ok) {i:Nat} (hi:i<S.Au.length):(S.abort i).ok:=by
 have hL:=hk.Ew hi;have h2:(S.h ((S.H.Bi (S.t i).log.Az).BU (S.t i).log.holds)).ok:=Am.E3 _ (Am.Ea hk _ hL.un) hL.hv;unfold Am.abort Am.BO;split
 ·exact Am.D7 (S:=S.h ((S.H.Bi (S.t i).log.Az).BU (S.t i).log.holds)) h2 (i:=i) hi (z:=-1) (v:=S.version) (by rw[Qd];show (S.t i).A0.length+S.queue.length<=S.queue.length+(S.t i).A0.length;omega) (by omega) hk.ve
 ·exact Am.D7 (S:=S.h ((S.H.Bi (S.t i).log.Az).BU (S.t i).log.holds)) h2 (i:=i) hi (q:=S.queue) (z:=S.Aw) (v:=S.version) (by show S.queue.length<=S.queue.length+_;omega) hk.ho hk.ve
def qot (S:Am)(i:Nat):(S.abort i).Au.length=S.Au.length:=by
 unfold Am.abort Am.BO;split<;>simp[Am.tx,Am.h]
def Hp.now (H:Hp)(p:Nat):Nat:=match Be H.old p with|some (_,some q)=>q|_=>p
def qlr (l:List (Nat×Ob×Option Nat))(p q r:Nat){ob:Ob}{g:Nat}(h:Be l r=some (ob,some g))(hp:Be l p=none\/(∃ z,Be l p=some (z,none))):Be (qw l p q) r=some (ob,some g):=by
 rw[br];split
 ·rename_i e;subst e
  rcases hp with hp|⟨z,hp⟩
  ·rw[hp]at h;cases h
  ·rw[hp]at h;cases h
 ·exact h
def qbh {H:Hp}(p:Nat){r:Nat}{ob:Ob}{g:Nat}(h:Be H.old r=some (ob,some g)):Be (H.AG p).1.old r=some (ob,some g):=by
 unfold Hp.AG;split
 ·exact h
 ·exact h
 ·rename_i z hp
  exact qlr _ _ _ _ h (.inr ⟨_,hp⟩)
def qbz {H:Hp}(p:Nat){r:Nat}(h:Be H.old r=none):Be (H.AG p).1.old r=none:=by
 unfold Hp.AG;split
 ·exact h
 ·exact h
 ·rename_i z hp
  show Be (qw H.old p H.top) r=none;rw[br];split
  ·rename_i e;subst e;rw[h];rfl
  ·exact h
def qow {H:Hp}(p:Nat):(Be (H.AG p).1.old p=none/\(H.AG p).2=p)\/∃ ob,Be (H.AG p).1.old p=some (ob,some (H.AG p).2):=by
 unfold Hp.AG;split
 ·rename_i h;exact .inl ⟨h,rfl⟩
 ·rename_i ob q h;exact .inr ⟨ob,h⟩
 ·rename_i ob h
  refine .inr ⟨ob,?_⟩;show Be (qw H.old p H.top) p=some (ob,some H.top);rw[br,if_pos rfl,h];rfl
def VC:∀ (l:List Nat){H:Hp}{r:Nat}{ob:Ob}{g:Nat},Be H.old r=some (ob,some g)->Be (H.Ay l).1.old r=some (ob,some g)
 | [],_,_,_,_,h=>h
 | p::l,_,_,_,_,h=>VC l (qbh p h)
def V8:∀ (l:List Nat){H:Hp}{r:Nat},Be H.old r=none->Be (H.Ay l).1.old r=none
 | [],_,_,h=>h
 | p::l,_,_,h=>V8 l (qbz p h)
def sm:∀ (l:List Nat)(H:Hp),(H.Ay l).2=l.map (H.Ay l).1.now
 | [],_=>rfl
 | p::l,H=>by
  show (H.AG p).2::((H.AG p).1.Ay l).2=((H.AG p).1.Ay l).1.now p::l.map ((H.AG p).1.Ay l).1.now;rw[sm l (H.AG p).1];congr 1;unfold Hp.now;rcases qow (H:=H) p with⟨h1,h2⟩|⟨ob,h1⟩
  ·rw[V8 l h1,h2]
  ·rw[VC l h1]
def PC {H:Hp}(hk:H.ok){p:Nat}{b:Nat}(hb:131072<=b)(hp:p<=b):H.now p<=b:=by
 unfold Hp.now;split
 ·rename_i ob q h;have:=(hk.gone _ (zy h) q rfl).2;omega
 ·exact hp
def Un.places (u:Un):List Nat:=if u.kind=1 then [u.pos,u.old.toNat] else [u.pos]
def Lg.roots (L:Lg):List Nat:=L.reads++L.keeps++L.holds.map (·.1)++L.Az.flatMap Un.places
def CR (g:Nat->Nat)(l:List (Nat×Nat)):List (Nat×Nat):=l.map fun z=>(g z.1,z.2)
def Un.at' (g:Nat->Nat)(u:Un):Un:=if u.kind=1 then { u with pos:=g u.pos,old:=g u.old.toNat } else { u with pos:=g u.pos }
def Lg.at' (g:Nat->Nat)(L:Lg):Lg:={ L with reads:=L.reads.map g,keeps:=L.keeps.map g,holds:=CR g L.holds,Az:=L.Az.map (Un.at' g) }
def Tx.at' (g:Nat->Nat)(x:Tx):Tx:={ x with log:=x.log.at' g,A0:=CR g x.A0 }
def Tx.places (x:Tx):List Nat:=x.log.roots++x.A0.map (·.1)
def Am.places (S:Am)(roots:List Nat):List Nat:=roots++S.queue.map (·.1)++S.Au.flatMap Tx.places
def Am.at' (S:Am)(g:Nat->Nat):Am:={ S with Au:=S.Au.map (Tx.at' g),queue:=CR g S.queue }
def Am.begun (S:Am)(roots:List Nat):Am:={ S with H:=(S.H.flip.Ay (S.places roots)).1,ph:=1 }
def Am.may (S:Am)(roots:List Nat):Bool:=decide (S.ph=0)&&roots.all fun r=>decide (r=0)||(lk S.H.cur r).isSome
def Am.AQ (S:Am)(roots:List Nat):Am×List Nat×Bool:=
 if S.may roots=true then ((S.begun roots).at' (S.begun roots).H.now,roots.map (S.begun roots).H.now,true) else (S,[],false)
def Lg.N7 {L:Lg} (h:L.fit) {H:Hp} (hk:H.ok):(L.at' H.now).fit:=by
 refine⟨⟨h.ok.mr,h.ok.mu,by simpa [Lg.at'] using h.ok.r,by simpa [Lg.at'] using h.ok.k,by simpa [Lg.at',CR] using h.ok.h,by simpa [Lg.at'] using h.ok.u⟩,fun z hz=>?_,fun u hu=>?_,fun u hu=>?_⟩
 ·obtain⟨y,hy,rfl⟩:=Qt.1 (show z ∈ L.holds.map _ from hz)
  exact h.hv y hy
 ·obtain⟨y,hy,rfl⟩:=Qt.1 (show u ∈ L.Az.map _ from hu)
  unfold Un.at';split
  ·have h1:=h.un y hy
   have h2:=PC hk (p:=y.old.toNat) (b:=9223372036854775807) (by omega) (by omega)
   simp only;omega
  ·exact h.un y hy
 ·obtain⟨y,hy,rfl⟩:=Qt.1 (show u ∈ L.Az.map _ from hu)
  unfold Un.at';split
  ·intro _;simp only;omega
  ·intro h1;exact h.kd y hy h1
def XK (g:Nat->Nat):∀ (l:List Tx),wa (l.map (Tx.at' g))=wa l
 | []=>rfl
 | x::l=>by simp[wa,XK g l,Tx.at',CR]
def X7 (g:Nat->Nat):∀ (l:List Tx),jj (l.map (Tx.at' g))=jj l
 | []=>rfl
 | x::l=>by rw[aI,kr,kr,X7 g l];rfl
def Am.Rq {S:Am}(hk:S.ok){H:Hp}(hH:H.ok):(S.at' H.now).ok:=by
 refine⟨hk.H,hk.n2,by show S.now+jj (S.Au.map _)<=S.most;rw[X7];exact hk.lv,by simpa [Am.at'] using hk.t1,by simpa [Am.at'] using hk.t8,fun x hx=>?_,fun x hx=>?_,hk.ve,hk.ho,hk.sc,hk.so,?_,hk.nx,hk.cm,fun x hx=>?_,hk.ph⟩
 ·obtain⟨z,hz,rfl⟩:=Qt.1 (show x ∈ S.Au.map _ from hx)
  exact Lg.N7 (hk.lg z hz) hH
 ·obtain⟨z,hz,rfl⟩:=Qt.1 (show x ∈ S.Au.map _ from hx)
  exact hk.st z hz
 ·show (CR H.now S.queue).length+wa (S.Au.map _)<=S.next
  rw[XK];simpa [CR] using hk.qu
 ·obtain⟨z,hz,rfl⟩:=Qt.1 (show x ∈ S.Au.map _ from hx)
  exact hk.se z hz
def CC.flip {H:Hp}(h:CC H):CC H.flip:=
 ⟨fun x hx=>(by cases hx),fun x hx=>by obtain⟨z,hz,rfl⟩:=Qt.1 (show x ∈ H.cur.map _ from hx);exact h.1 z hz⟩
def Am.EA {S:Am}(hk:S.ok)(h0:S.ph=0)(roots:List Nat):(S.begun roots).ok:=by
 have hm:S.H.AK=false:=hk.ph.2.1 h0;have hf:=Hp.EX hk.H hm;have hs:=zw (S.places roots) S.H.flip;have hse:=CC.Ay (S.places roots) hk.E5.flip;refine⟨Hp.Cu _ hf,hk.n2,hk.lv,hk.t1,hk.t8,hk.lg,hk.st,hk.ve,hk.ho,hse.1,hse.2,hk.qu,?_,hk.cm,hk.se,⟨by show 1<=2;omega,?_⟩⟩
 ·show S.next+(S.H.flip.Ay (S.places roots)).1.final.length<=(S.H.flip.Ay (S.places roots)).1.Ap
  rw[hs.2.2.2.2.2.2.1,hs.2.2.2.2.1];exact hk.nx
 ·show 1=0↔(S.H.flip.Ay (S.places roots)).1.AK=false
  rw[hs.2.2.1];exact⟨fun h=>by omega,fun h=>by cases h⟩
def Vd {S:Am}{roots:List Nat}(h:S.may roots=true):S.ph=0:=by unfold Am.may at h;simp only[ag,decide_eq_true_eq]at h;exact h.1
def VO {S:Am}(hk:S.ok)(roots:List Nat):(S.AQ roots).1.ok:=by
 unfold Am.AQ;split
 ·rename_i h;exact Am.Rq (Am.EA hk (Vd h) roots) (Am.EA hk (Vd h) roots).H.ok
 ·exact hk
def qib (S:Am)(roots:List Nat):(S.AQ roots).1.Au.length=S.Au.length:=by
 unfold Am.AQ;split
 ·simp[Am.at',Am.begun]
 ·rfl
def Am.CG (S:Am):Am×List Nat×Bool:=
 if S.ph=0 then (S,[],false) else if S.H.Bf.2=true then (S.h S.H.Bf.1,[],false)
 else if S.ph=1 then ({ S with H:=S.H.A4.1,ph:=2 },S.H.A4.2,false)
 else ({ S with H:=S.H.drop.1,ph:=0,lost:=S.lost++S.H.drop.2.1 },[],true)
def Hp.DG (H:Hp)(p:Nat):Bool:=match lk H.cur p with|some ob=>ob.B5|none=>false
def Am.Bb (S:Am)(p:Nat):Am:=
 if S.H.DG p=true\/100<=S.queue.length then S else { S with queue:=S.queue++[(p,S.next)],came:=S.came++[(S.H.Dg p).1],next:=S.next+1 }
def Am.A8 (S:Am)(l:List Nat):Am:=l.foldl Am.Bb S
def Am.Cp (S:Am):Am×Bool:=(S.CG.1.A8 S.CG.2.1,S.CG.2.2)
def qkj (S:Am)(l:List Nat)(p:Nat):S.A8 (l++[p])=(S.A8 l).Bb p:=by unfold Am.A8;rw[aB];rfl
def CC.Bf {H:Hp}(h:CC H):CC H.Bf.1:=by
 unfold Hp.Bf;split
 ·exact h
 ·split
  ·exact h
  ·rename_i ob hp
   split
   ·exact h
   ·have h2:=CC.Ay ob.AB h
    exact⟨Tj (P:=yr) h2.1 (h.1 _ (zh hp)),h2.2⟩
def CC.drop1 {H:Hp}(h:CC H)(p:Nat):CC (H.drop1 p).1:=by
 unfold Hp.drop1;split
 ·exact h
 ·rename_i ob hp
  have ho:=h.1 _ (zh hp);split
  ·exact h
  ·split
   ·exact h
   ·exact⟨Tj (P:=yr) h.1 ho,h.2⟩
   ·exact⟨Tj (P:=yr) h.1 ho,h.2⟩
def CC.AV:∀ (l:List Nat){H:Hp},CC H->CC (H.AV l).1
 | [],_,h=>h
 | p::l,_,h=>CC.AV l (h.drop1 p)
def qld (H:Hp):H.Bf.1.AK=H.AK/\H.Bf.1.final=H.final/\H.Bf.1.Ap=H.Ap/\H.Bf.1.AA=H.AA:=by
 unfold Hp.Bf;split
 ·exact⟨rfl,rfl,rfl,rfl⟩
 ·split
  ·exact⟨rfl,rfl,rfl,rfl⟩
  ·rename_i ob hp
   split
   ·exact⟨rfl,rfl,rfl,rfl⟩
   ·have h:=zw ob.AB H
    exact⟨h.2.2.1,h.2.2.2.2.2.2.1,h.2.2.2.2.1,h.2.2.2.2.2.1⟩
def qkn (H:Hp)(p:Nat):(H.drop1 p).1.final=H.final/\(H.drop1 p).1.Ap=H.Ap:=by
 unfold Hp.drop1;split
 ·exact⟨rfl,rfl⟩
 ·split
  ·exact⟨rfl,rfl⟩
  ·split<;>exact⟨rfl,rfl⟩
def V3:∀ (l:List Nat)(H:Hp),(H.AV l).1.final=H.final/\(H.AV l).1.Ap=H.Ap
 | [],_=>⟨rfl,rfl⟩
 | p::l,H=>by
  have h1:=qkn H p;have h2:=V3 l (H.drop1 p).1;exact⟨h2.1.trans h1.1,h2.2.trans h1.2⟩
def rx {S:Am}(hk:S.ok):S.CG.1.ok/\S.CG.1.next+S.CG.1.H.final.length+S.CG.2.1.length<=S.CG.1.H.Ap:=by
 have hnx:=hk.nx;unfold Am.CG;split
 ·exact⟨hk,by simpa using hnx⟩
 ·rename_i qJ
  have hmv:S.H.AK=true:=by
   cases hm:S.H.AK with
   | true=>rfl
   | false=>exact absurd (hk.ph.2.2 hm) qJ
  split
  ·have h:=qld S.H
   refine⟨Am.MB hk (Hp.Fx hk.H) hk.E5.Bf.1 hk.E5.Bf.2 (by rw[h.2.1,h.2.2.1];exact hnx) h.1,?_⟩
   show S.next+S.H.Bf.1.final.length+0<=S.H.Bf.1.Ap;rw[h.2.1,h.2.2.1];omega
  ·split
   ·have e:S.H.A4=Hp.Ay { S.H with final:=S.H.stay S.H.final } (S.H.B6 S.H.final):=by unfold Hp.A4;rw[if_neg (by rw[hmv];simp)]
    have hs:=zw (S.H.B6 S.H.final) { S.H with final:=S.H.stay S.H.final };have hl:=ku (S.H.B6 S.H.final) { S.H with final:=S.H.stay S.H.final };have hst:=kw S.H S.H.final;have hse:CC (Hp.Ay { S.H with final:=S.H.stay S.H.final } (S.H.B6 S.H.final)).1:=CC.Ay _ ⟨hk.E5.1,hk.E5.2⟩;have hw:=Hp.Gp hk.H;rw[e]at hw ⊢;have e1:=hs.2.2.2.2.2.2.1;have e2:=hs.2.2.2.2.1;have e3:=hs.2.2.1;refine⟨⟨hw,hk.n2,hk.lv,hk.t1,hk.t8,hk.lg,hk.st,hk.ve,hk.ho,hse.1,hse.2,hk.qu,?_,hk.cm,hk.se,⟨by show 2<=2;omega,?_⟩⟩,?_⟩
    ·simp only[e1,e2];omega
    ·show 2=0↔_
     exact⟨fun h=>by omega,fun h=>by
      have e4:(Hp.Ay { S.H with final:=S.H.stay S.H.final } (S.H.B6 S.H.final)).1.AK=false:=h;rw[e3]at e4;exact absurd (e4:S.H.AK=false) (by rw[hmv];simp)⟩
    ·simp only[e1,e2,hl];omega
   ·rename_i h1 h2
    have hsc:S.H.scan=S.H.top:=by
     refine Classical.byContradiction fun hne=>h1 ?_;obtain⟨ob,bY,_⟩:=SX hk.H hmv hne;unfold Hp.Bf;rw[if_neg (by rw[hmv];simp[hne]),bY]
     simp only;split<;>rfl
    have e:S.H.drop=((S.H.settled.AV S.H.settled.AA).1.rest,(S.H.settled.AV S.H.settled.AA).2,true):=by
     unfold Hp.drop;rw[if_neg (by rw[hmv];simp[hsc])]
    have hd:=V3 S.H.settled.AA S.H.settled;have hw:=Hp.F3 hk.H;have hst:=kw S.H S.H.final;have hse:CC (S.H.settled.AV S.H.settled.AA).1:=CC.AV _ (H:=S.H.settled) ⟨hk.E5.1,hk.E5.2⟩;rw[e]at hw ⊢;have e1:(S.H.settled.AV S.H.settled.AA).1.rest.final=S.H.stay S.H.final:=hd.1;have e2:(S.H.settled.AV S.H.settled.AA).1.rest.Ap=S.H.Ap:=hd.2;refine⟨⟨hw,hk.n2,hk.lv,hk.t1,hk.t8,hk.lg,hk.st,hk.ve,hk.ho,hse.1,fun x hx=>(by cases hx),hk.qu,?_,hk.cm,hk.se,⟨by show 0<=2;omega,?_⟩⟩,?_⟩
    ·simp only[e1,e2];omega
    ·show 0=0↔_
     exact⟨fun _=>rfl,fun _=>rfl⟩
    ·simp only[e1,e2,aV];omega
def XH {S:Am}(hk:S.ok)(p:Nat){k:Nat}(h:S.next+S.H.final.length+(k+1)<=S.H.Ap):(S.Bb p).ok/\(S.Bb p).next+(S.Bb p).H.final.length+k<=(S.Bb p).H.Ap/\(S.Bb p).H=S.H/\(S.Bb p).Au=S.Au:=by
 unfold Am.Bb;split
 ·exact⟨hk,by omega,rfl,rfl⟩
 ·refine⟨⟨hk.H,hk.n2,hk.lv,hk.t1,hk.t8,hk.lg,hk.st,hk.ve,hk.ho,hk.sc,hk.so,?_,?_,?_,fun x hx=>Qu (hk.se x hx),hk.ph⟩,?_,rfl,rfl⟩
  ·have:=hk.qu;simp only[Qd,aP];omega
  ·simp only;omega
  ·have:=hk.cm;simp only[Qd,aP];omega
  ·simp only;omega
def rp:∀ (l:List Nat){S:Am},S.ok->S.next+S.H.final.length+l.length<=S.H.Ap->(S.A8 l).ok/\(S.A8 l).Au=S.Au/\(S.A8 l).H=S.H
 | [],_,hk,_=>⟨hk,rfl,rfl⟩
 | p::l,S,hk,h=>by
  obtain⟨h1,h2,h3,h4⟩:=XH hk p (k:=l.length) (by simpa using h)
  obtain⟨h5,h6,h7⟩:=rp l h1 h2;exact⟨h5,h6.trans h4,h7.trans h3⟩
def Yf {S:Am}(hk:S.ok):S.Cp.1.ok:=(rp _ (rx hk).1 (rx hk).2).1
structure AO where
 AL:BQ
 fr:Bool
 sec:Nat
 AB:List Nat
 nums:List Int
abbrev Cf:=Nat->Option Ob
abbrev Of:=Nat->Option (Ob×Option Nat)
abbrev Ag:=Nat->Option AO
def zk (o:Of)(x:Nat):Nat:=match o x with|some (_,some q)=>q|_=>x
def CP (c:Cf)(o:Of)(p:Nat):Option Ob:=match c p with|some b=>some b|none=>match o p with|some (b,none)=>some b|_=>none
def CN (c:Cf)(o:Of)(x:Nat):Nat:=match CP c o (zk o x) with|some b=>b.Ap|none=>0
def VF (c:Cf)(o:Of)(x:Nat):Prop:=x=0\/c x≠none\/o x≠none
def CF (c:Cf)(x:Nat):Prop:=x=0\/c x≠none
structure Dp (c:Cf)(o:Of)(L:List Nat)(b:Ob)(a:AO):Prop where
 AL:a.AL=b.AL
 fr:a.fr=b.B5
 sec:a.sec=b.second
 nums:a.nums=b.nums
 AB:b.AB.map (CN c o)=if b.Ap ∈ L then [0] else a.AB
structure DF (c:Cf)(o:Of)(bl:Nat->Prop)(n:Nat)(L:List Nat)(A:Ag):Prop where
 z:c 0=none/\o 0=none
 dj:∀ x,c x=none\/o x=none
 fw:∀ p b q,o p=some (b,some q)->∃ b',c q=some b'/\b'.Ap=b.Ap
 cp:∀ p b,c p=some b->∀ x ∈ b.AB,VF c o x
 bk:∀ p b,c p=some b->bl p->b.AL.AA=false->∀ x ∈ b.AB,CF c x
 op:∀ p b,o p=some (b,none)->∀ x ∈ b.AB,x=0\/o x≠none
 inj:∀ p p' b b',CP c o p=some b->CP c o p'=some b'->b.Ap=b'.Ap->p=p'
 sr:∀ p b,CP c o p=some b->1<=b.Ap/\b.Ap<=n
 hp:∀ p b,CP c o p=some b->∃ a,A b.Ap=some a/\Dp c o L b a
 an:∀ s,n<s->A s=none
 ln:∀ s ∈ L,s<=n
 lw:∀ s ∈ L,∀ a,A s=some a->a.AL.AA=true
 az:A 0=none
 nd:L.Nodup
def jf (c:Cf)(t:Nat)(b:Ob):Cf:=fun x=>if x=t then some b else c x
def dm (o:Of)(p:Nat)(b:Ob)(t:Nat):Of:=fun x=>if x=p then some (b,some t) else o x
section
variable {c : Cf} {o : Of} {bl : Nat -> Prop} {n : Nat} {L : List Nat} {A : Ag}
def CF.V {x:Nat}(h:CF c x):VF c o x:=h.elim .inl fun h=>.inr (.inl h)
def jt {p:Nat}{b:Ob}(h:c p=some b):CP c o p=some b:=by unfold CP;rw[h]
def td {p:Nat}{b:Ob}(h:c p=none)(h':o p=some (b,none)):CP c o p=some b:=by unfold CP;rw[h,h']
def Tk (h:DF c o bl n L A){p:Nat}(hp:CF c p):zk o p=p:=by
 have:o p=none:=by rcases hp with rfl|hp;exact h.z.2;exact (h.dj p).resolve_left hp
 unfold zk;rw[this]
def di (h:DF c o bl n L A){p:Nat}{b:Ob}(hp:c p=some b):CN c o p=b.Ap:=by
 unfold CN;rw[Tk h (.inr (by rw[hp];simp)),jt hp]
def MH (h:DF c o bl n L A):CN c o 0=0:=by
 unfold CN;rw[Tk h (.inl rfl)];unfold CP;rw[h.z.1,h.z.2]
def SY (h:DF c o bl n L A){x:Nat}(hx:VF c o x):CN c o x=0↔x=0:=by
 constructor
 ·intro e
  rcases hx with hx|hx|hx
  ·exact hx
  ·obtain⟨b,hb⟩:=Aj.1 hx
   have:=h.sr x b (jt hb);rw[di h hb]at e;omega
  ·obtain⟨⟨b,g⟩,hb⟩:=Aj.1 hx
   have hc:=(h.dj x).resolve_right hx
   cases g with
   | none =>
    have h1:=td hc hb;have:=h.sr x b h1;unfold CN zk at e;rw[hb]at e;simp only[h1]at e;omega
   | some q =>
    obtain⟨b',h1,h2⟩:=h.fw x b q hb;have:=h.sr q b' (jt h1);unfold CN zk at e;rw[hb]at e;simp only[jt h1]at e;omega
 ·rintro rfl;exact MH h
def MZ (h:DF c o bl n L A){x y:Nat}(hx:CF c x)(hy:CF c y):CN c o x=CN c o y↔x=y:=by
 constructor
 ·intro e
  rcases hx with rfl|hx
  ·rw[MH h]at e;exact ((SY h hy.V).1 e.symm).symm
  ·rcases hy with rfl|hy
   ·rw[MH h]at e;exact (SY h (.inr (.inl hx))).1 e
   ·obtain⟨b,hb⟩:=Aj.1 hx
    obtain⟨b',hb'⟩:=Aj.1 hy;rw[di h hb,di h hb']at e;exact h.inj _ _ _ _ (jt hb) (jt hb') e
 ·grind
def TZ {p t:Nat}{b:Ob}(hp:o p=some (b,none))(hcp:c p=none)(ht:c t=none)(hot:o t=none)(x:Nat) :
  CP (jf c t b) (dm o p b t) x=if x=t then some b else if x=p then none else CP c o x:=by
 unfold CP jf dm;by_cases e:x=t
 ·simp[e]
 ·by_cases e2:x=p
  ·subst e2;simp[e,hcp]
  ·simp[e,e2]
def dh {p t:Nat}{b:Ob}(x:Nat):zk (dm o p b t) x=if x=p then t else zk o x:=by
 unfold zk dm;grind
def XI (h:DF c o bl n L A){p t:Nat}{b:Ob}(hp:o p=some (b,none))(ht:c t=none)(hot:o t=none){x:Nat}(hx:x≠t) :
  CN (jf c t b) (dm o p b t) x=CN c o x:=by
 have hcp:c p=none:=(h.dj p).resolve_right (by rw[hp];simp)
 unfold CN;rw[dh,TZ hp hcp ht hot];by_cases e:x=p
 ·subst e
  have:zk o x=x:=by unfold zk;rw[hp]
  rw[if_pos rfl,if_pos rfl,this,td hcp hp]
 ·rw[if_neg e]
  have h1:zk o x≠t:=by
   unfold zk;split
   ·rename_i b' q hb;obtain⟨b'',h1,_⟩:=h.fw _ _ _ hb;intro e;rw[e,ht]at h1;cases h1
   ·exact hx
  have h2:zk o x≠p:=by
   unfold zk;split
   ·rename_i b' q hb;obtain⟨b'',h1,_⟩:=h.fw _ _ _ hb;intro e;rw[e,hcp]at h1;cases h1
   ·exact e
  grind
def SC {p t:Nat}{b:Ob}{x:Nat}(h:VF c o x):VF (jf c t b) (dm o p b t) x:=by
 rcases h with h|h|h
 ·exact .inl h
 ·refine .inr (.inl ?_);unfold jf;split<;>simp[*]
 ·refine .inr (.inr ?_);unfold dm;split<;>simp[*]
def Tm {t:Nat}{b:Ob}{x:Nat}(h:CF c x):CF (jf c t b) x:=by
 rcases h with h|h
 ·exact .inl h
 ·refine .inr ?_;unfold jf;split<;>simp[*]
def VF.ne {t x:Nat}(ht:c t=none)(hot:o t=none)(h0:t≠0)(h:VF c o x):x≠t:=by
 rintro rfl;rcases h with h|h|h
 ·exact h0 h
 ·exact h ht
 ·exact h hot
def Dp.AG (h:DF c o bl n L A){p t:Nat}{b:Ob}(hp:o p=some (b,none))(ht:c t=none)(hot:o t=none)(h0:t≠0){b':Ob}{a:AO}(hv:∀ x ∈ b'.AB,VF c o x)(hl:Dp c o L b' a):Dp (jf c t b) (dm o p b t) L b' a:=
 ⟨hl.AL,hl.fr,hl.sec,hl.nums,by rw[<-hl.AB];exact Ad fun x hx=>XI h hp ht hot ((hv x hx).ne ht hot h0)⟩
def DF.AB (h:DF c o bl n L A){p:Nat}{b:Ob}(hb:CP c o p=some b):∀ x ∈ b.AB,VF c o x:=by
 unfold CP at hb;split at hb
 ·rename_i b' hc;injection hb with hb;subst hb;exact h.cp _ _ hc
 ·split at hb
  ·rename_i b' ho;injection hb with hb;subst hb;exact fun x hx=>(h.op _ _ ho x hx).elim .inl fun h=>.inr (.inr h)
  ·cases hb
def DF.AG (h:DF c o bl n L A){p t:Nat}{b:Ob}(hp:o p=some (b,none))(ht:c t=none)(hot:o t=none)(h0:t≠0)(hbl:¬bl t):DF (jf c t b) (dm o p b t) bl n L A:=by
 have hcp:c p=none:=(h.dj p).resolve_right (by rw[hp];simp)
 have hp0:p≠0:=by rintro rfl;rw[h.z.2]at hp;cases hp
 have hpt:p≠t:=by rintro rfl;rw[hot]at hp;cases hp
 have bY:=TZ hp hcp ht hot;have hpb:CP c o p=some b:=td hcp hp;have hback:∀ x b',CP (jf c t b) (dm o p b t) x=some b'->∃ y,CP c o y=some b'/\(x=t/\y=p\/x≠t/\x≠p/\x=y):=by
  grind
 refine⟨⟨by simp[jf,Ne.symm h0,h.z.1],by simp[dm,Ne.symm hp0,h.z.2]⟩,fun x=>?_,fun q b' r hq=>?_,fun q b' hq x hx=>?_,fun q b' hq hb hw x hx=>?_,fun q b' hq x hx=>?_,fun q q' d d' h1 h2 e=>?_,fun q d h1=>?_,fun q d h1=>?_,h.an,h.ln,h.lw,h.az,h.nd⟩
 ·unfold jf dm
  by_cases e:x=t
  ·subst e;right;simp[Ne.symm hpt,hot]
  ·by_cases e2:x=p
   ·subst e2;left;simp[e,hcp]
   ·simp only[if_neg e,if_neg e2];exact h.dj x
 ·unfold dm at hq
  split at hq
  ·injection hq with hq;injection hq with h1 h2;injection h2 with h2;subst h1 h2;exact⟨b,by simp[jf],rfl⟩
  ·obtain⟨b'',h1,h2⟩:=h.fw _ _ _ hq
   refine⟨b'',?_,h2⟩;unfold jf;rw[if_neg];exact h1;rintro rfl;rw[ht]at h1;cases h1
 ·unfold jf at hq
  split at hq
  ·injection hq with hq;subst hq;exact SC (h.AB hpb x hx)
  ·exact SC (h.cp _ _ hq x hx)
 ·unfold jf at hq
  split at hq
  ·rename_i e;subst e;exact absurd hb hbl
  ·exact Tm (h.bk _ _ hq hb hw x hx)
 ·unfold dm at hq
  split at hq
  ·grind
  ·rcases h.op _ _ hq x hx with h1|h1
   ·exact .inl h1
   ·refine .inr ?_;unfold dm;split<;>simp[*]
 ·obtain⟨y,h3,h4⟩:=hback _ _ h1
  obtain⟨y',h5,h6⟩:=hback _ _ h2;have:=h.inj _ _ _ _ h3 h5 e;grind
 ·obtain⟨y,h3,_⟩:=hback _ _ h1;exact h.sr _ _ h3
 ·obtain⟨y,h3,_⟩:=hback _ _ h1
  obtain⟨a,h4,h5⟩:=h.hp _ _ h3;exact⟨a,h4,Dp.AG h hp ht hot h0 (h.AB h3) h5⟩
def yc (A:Ag)(s:Nat)(a:AO):Ag:=fun x=>if x=s then some a else A x
def UP {p:Nat}{b b':Ob}(hp:c p=some b)(x:Nat):CP (jf c p b') o x=if x=p then some b' else CP c o x:=by
 unfold CP jf;grind
def RF {p:Nat}{b b':Ob}(hp:c p=some b)(hs:b'.Ap=b.Ap)(x:Nat):CN (jf c p b') o x=CN c o x:=by
 unfold CN;rw[UP hp];split
 ·rename_i e
  split at e
  ·rename_i e2;injection e with e;subst e;rw[e2,jt hp];exact hs
  ·rw[e]
 ·grind
def Rz {p:Nat}{b b':Ob}(hp:c p=some b)(x:Nat):CF (jf c p b') x↔CF c x:=by
 unfold CF jf;grind
def Yh {p:Nat}{b b':Ob}(hp:c p=some b)(x:Nat):VF (jf c p b') o x↔VF c o x:=by
 unfold VF jf;grind
def DF.set (h:DF c o bl n L A) {p:Nat} {b b':Ob} {L':List Nat} {a':AO} (hp:c p=some b) (hs:b'.Ap=b.Ap) (hw:b'.AL=b.AL)
  (hx:∀ x ∈ b'.AB,x ∈ b.AB\/CF c x) (hl:∀ s,s≠b.Ap->(s ∈ L'↔s ∈ L)) (hl2:∀ s ∈ L',s ∈ L\/s=b.Ap/\b.AL.AA=true) (hnd:L'.Nodup) (ha:Dp c o L' b' a') :
  DF (jf c p b') o bl n L' (yc A b.Ap a'):=by
 have bY:=fun x=>UP (o:=o) (b':=b') hp x
 have dU:=RF (o:=o) hp hs;have hb:=h.sr p b (jt hp);have hback:∀ x d,CP (jf c p b') o x=some d->∃ d0,CP c o x=some d0/\d.Ap=d0.Ap/\(x=p/\d=b'/\d0=b\/x≠p/\d=d0):=by
  intro x d hx;rw[bY]at hx;split at hx
  ·rename_i e;injection hx with hx;subst hx e;exact⟨b,jt hp,hs,.inl ⟨rfl,rfl,rfl⟩⟩
  ·exact⟨d,hx,rfl,.inr ⟨‹_›,rfl⟩⟩
 refine⟨⟨?_,h.z.2⟩,fun x=>?_,fun q d r hq=>?_,fun q d hq x hx'=>?_,fun q d hq hb hwk x hx'=>?_,h.op,fun q q' d d' h1 h2 e=>?_,fun q d h1=>?_,fun q d h1=>?_,fun s hs'=>?_,fun s hs'=>?_,fun s hs' a ha'=>?_,by unfold yc;rw[if_neg (by omega)];exact h.az,hnd⟩
 ·unfold jf;rw[if_neg];exact h.z.1
  rintro rfl;rw[h.z.1]at hp;cases hp
 ·unfold jf
  split
  ·rename_i e;subst e;exact .inr ((h.dj x).resolve_left (by rw[hp];simp))
  ·exact h.dj x
 ·obtain⟨d',h1,h2⟩:=h.fw _ _ _ hq
  unfold jf;grind
 ·rw[Yh hp]
  unfold jf at hq;split at hq
  ·injection hq with hq;subst hq
   rcases hx x hx' with h1|h1
   ·exact h.cp _ _ hp x h1
   ·exact h1.V
  ·exact h.cp _ _ hq x hx'
 ·rw[Rz hp]
  unfold jf at hq;split at hq
  ·rename_i e;injection hq with hq;subst hq e
   rcases hx x hx' with h1|h1
   ·exact h.bk _ _ hp hb (by rw[<-hw];exact hwk) x h1
   ·exact h1
  ·exact h.bk _ _ hq hb hwk x hx'
 ·obtain⟨y,h3,h4,_⟩:=hback _ _ h1
  obtain⟨y',h5,h6,_⟩:=hback _ _ h2;exact h.inj _ _ _ _ h3 h5 (by rw[<-h4,<-h6];exact e)
 ·obtain⟨y,h3,h4,_⟩:=hback _ _ h1;rw[h4];exact h.sr _ _ h3
 ·obtain⟨y,h3,h4,h5⟩:=hback _ _ h1
  have hlk:∀ {d a},Dp c o L' d a->Dp (jf c p b') o L' d a:=fun hl=>⟨hl.AL,hl.fr,hl.sec,hl.nums,by rw[<-hl.AB];exact Ad fun x _=>dU x⟩
  rcases h5 with ⟨rfl,rfl,rfl⟩|⟨h5,rfl⟩
  ·exact⟨a',by simp[yc,hs],hlk ha⟩
  ·obtain⟨a,h6,h7⟩:=h.hp _ _ h3
   have hne:d.Ap≠b.Ap:=fun e=>h5 (h.inj _ _ _ _ h3 (jt hp) e);refine⟨a,by simp[yc,hne,h6],hlk ⟨h7.AL,h7.fr,h7.sec,h7.nums,?_⟩⟩
   rw[h7.AB];simp[hl _ hne]
 ·unfold yc;rw[if_neg (by omega)];exact h.an s hs'
 ·rcases hl2 s hs' with h1|⟨h1,_⟩
  ·exact h.ln s h1
  ·omega
 ·unfold yc at ha'
  split at ha'
  ·rename_i e;injection ha' with ha';subst ha' e
   rw[ha.AL,hw];rcases hl2 _ hs' with h1|⟨_,h1⟩
   ·obtain⟨a0,h2,h3⟩:=h.hp _ _ (jt hp)
    rw[<-h3.AL];exact h.lw _ h1 a0 h2
   ·exact h1
  ·rcases hl2 s hs' with h1|⟨h1,_⟩
   ·exact h.lw s h1 a ha'
   ·contradiction
def DF.lay (h:DF c o bl n L A){t:Nat}{b:Ob}{a:AO}(ht:c t=none)(hot:o t=none)(h0:t≠0)(hs:b.Ap=n+1)(hz:∀ x ∈ b.AB,x=0)
  (ha:a.AL=b.AL/\a.fr=b.B5/\a.sec=b.second/\a.nums=b.nums/\a.AB=b.AB):DF (jf c t b) o bl (n+1) L (yc A (n+1) a):=by
 have bY:∀ x,CP (jf c t b) o x=if x=t then some b else CP c o x:=by
  intro x;unfold CP jf;by_cases e:x=t<;>simp[e]
 have xI:∀ x,x≠t->zk o x≠t:=by
  intro x hx;unfold zk;split
  ·rename_i b' q hb;obtain⟨b'',h1,_⟩:=h.fw _ _ _ hb;intro e;rw[e,ht]at h1;cases h1
  ·exact hx
 have dU:∀ x,x≠t->CN (jf c t b) o x=CN c o x:=by
  intro x hx;unfold CN;rw[bY,if_neg (xI x hx)]
 have hne:∀ {x},VF c o x->x≠t:=fun hv=>hv.ne ht hot h0
 have hV:∀ {x},VF c o x->VF (jf c t b) o x:=fun hv=>by
  rcases hv with h1|h1|h1
  ·exact .inl h1
  ·refine .inr (.inl ?_);unfold jf;split<;>simp[*]
  ·exact .inr (.inr h1)
 have hback:∀ x d,CP (jf c t b) o x=some d->x=t/\d=b\/x≠t/\CP c o x=some d:=by
  intro x d hx;rw[bY]at hx;split at hx
  ·injection hx with hx;exact .inl ⟨‹_›,hx.symm⟩
  ·exact .inr ⟨‹_›,hx⟩
 refine⟨⟨by simp[jf,Ne.symm h0,h.z.1],h.z.2⟩,fun x=>?_,fun q d r hq=>?_,fun q d hq x hx=>?_,fun q d hq hb hw x hx=>?_,h.op,fun q q' d d' h1 h2 e=>?_,fun q d h1=>?_,fun q d h1=>?_,fun s hs'=>?_,fun s hs'=>Qu (h.ln s hs'),fun s hs' a' ha'=>?_,by unfold yc;rw[if_neg (by omega)];exact h.az,h.nd⟩
 ·unfold jf;split
  ·rename_i e;subst e;exact .inr hot
  ·exact h.dj x
 ·obtain⟨d',h1,h2⟩:=h.fw _ _ _ hq
  refine⟨d',?_,h2⟩;unfold jf;rw[if_neg];exact h1;rintro rfl;rw[ht]at h1;cases h1
 ·unfold jf at hq;split at hq
  ·injection hq with hq;subst hq;exact .inl (hz x hx)
  ·exact hV (h.cp _ _ hq x hx)
 ·unfold jf at hq;split at hq
  ·injection hq with hq;subst hq;exact .inl (hz x hx)
  ·exact Tm (h.bk _ _ hq hb hw x hx)
 ·rcases hback _ _ h1 with ⟨rfl,rfl⟩|⟨h3,h4⟩
  ·rcases hback _ _ h2 with ⟨rfl,rfl⟩|⟨h5,h6⟩
   ·rfl
   ·have:=h.sr _ _ h6;omega
  ·rcases hback _ _ h2 with ⟨rfl,rfl⟩|⟨h5,h6⟩
   ·have:=h.sr _ _ h4;omega
   ·exact h.inj _ _ _ _ h4 h6 e
 ·rcases hback _ _ h1 with ⟨rfl,rfl⟩|⟨h3,h4⟩
  ·omega
  ·have:=h.sr _ _ h4;omega
 ·rcases hback _ _ h1 with ⟨rfl,rfl⟩|⟨h3,h4⟩
  ·refine⟨a,by simp[yc,hs],ha.1,ha.2.1,ha.2.2.1,ha.2.2.2.1,?_⟩
   have hL:d.Ap ∉ L:=fun hm=>by have:=h.ln _ hm;omega
   rw[if_neg hL,ha.2.2.2.2];refine (Ad fun x hx=>?_).trans (List.map_id _);rw[hz x hx,dU 0 (Ne.symm h0),MH h];rfl
  ·obtain⟨a',h6,h7⟩:=h.hp _ _ h4
   have:=h.sr _ _ h4;refine⟨a',by simp only[yc];rw[if_neg (by omega)];exact h6,h7.AL,h7.fr,h7.sec,h7.nums,?_⟩
   rw[<-h7.AB];exact Ad fun x hx=>dU x (hne (h.AB h4 x hx))
 ·unfold yc;rw[if_neg (by omega)];exact h.an s (by omega)
 ·have:=h.ln s hs'
  unfold yc at ha';rw[if_neg (by omega)]at ha';exact h.lw s hs' a' ha'
def Gy (c:Cf):Of:=fun x=>(c x).map fun b=>(b,none)
def DF.flip (h:DF c (fun _=>none) bl n L A):DF (fun _=>none) (Gy c) (fun _=>False) n L A:=by
 have bY:∀ x,CP (fun _=>none) (Gy c) x=CP c (fun _=>none) x:=by
  intro x;unfold CP Gy;cases c x<;>rfl
 have hno:∀ x,zk (Gy c) x=x:=by intro x;unfold zk Gy;cases c x<;>rfl
 have dU:∀ x,CN (fun _=>none) (Gy c) x=CN c (fun _=>none) x:=by
  intro x;unfold CN;rw[bY,hno];rfl
 refine⟨⟨rfl,by simp[Gy,h.z.1]⟩,fun _=>.inl rfl,fun p b q hq=>?_,fun p b hp=>(by cases hp),fun p b hp=>(by cases hp),fun p b hp x hx=>?_,fun p p' b b' h1 h2=>?_,fun p b h1=>?_,fun p b h1=>?_,h.an,h.ln,h.lw,h.az,h.nd⟩
 ·unfold Gy at hq;cases hc:c p<;>rw[hc]at hq<;>simp at hq
 ·unfold Gy at hp ⊢
  cases hc:c p with
  | none=>rw[hc]at hp;cases hp
  | some b' =>
   rw[hc]at hp;simp at hp;subst hp;rcases h.cp _ _ hc x hx with h1|h1|h1
   ·grind
   ·right;simpa using h1
   ·grind
 ·rw[bY]at h1 h2;exact h.inj _ _ _ _ h1 h2
 ·rw[bY]at h1;exact h.sr _ _ h1
 ·rw[bY]at h1
  obtain⟨a,h2,h3⟩:=h.hp _ _ h1;exact⟨a,h2,h3.AL,h3.fr,h3.sec,h3.nums,by rw[<-h3.AB];exact Ad fun x _=>dU x⟩
def DF.rest (h:DF c o bl n L A)(hc:∀ p b,c p=some b->∀ x ∈ b.AB,CF c x)(bl':Nat->Prop):DF c (fun _=>none) bl' n L A:=by
 have bY:∀ {x b},CP c (fun _=>none) x=some b->c x=some b:=by
  intro x b;unfold CP;cases c x<;>simp
 have dU:∀ x,CF c x->CN c (fun _=>none) x=CN c o x:=by
  intro x hx;rcases hx with rfl|hx
  ·rw[MH h];unfold CN zk CP;simp[h.z.1]
  ·obtain⟨b,hb⟩:=Aj.1 hx
   rw[di h hb];unfold CN zk CP;simp[hb]
 refine⟨⟨h.z.1,rfl⟩,fun _=>.inr rfl,fun _ _ _ h=>(by cases h),fun p b hp x hx=>(hc _ _ hp x hx).V,fun p b hp _ _=>hc _ _ hp,fun _ _ h=>(by cases h),fun p p' b b' h1 h2=>?_,fun p b h1=>?_,fun p b h1=>?_,h.an,h.ln,h.lw,h.az,h.nd⟩
 ·exact h.inj _ _ _ _ (jt (bY h1)) (jt (bY h2))
 ·exact h.sr _ _ (jt (bY h1))
 ·obtain⟨a,h2,h3⟩:=h.hp _ _ (jt (bY h1))
  exact⟨a,h2,h3.AL,h3.fr,h3.sec,h3.nums,by rw[<-h3.AB];exact Ad fun x hx=>dU x (hc _ _ (bY h1) x hx)⟩
def DF.Ve (h:DF c o bl n L A){bl':Nat->Prop}(hb:∀ p b,c p=some b->bl' p->b.AL.AA=false->∀ x ∈ b.AB,CF c x):DF c o bl' n L A:=
 ⟨h.z,h.dj,h.fw,h.cp,hb,h.op,h.inj,h.sr,h.hp,h.an,h.ln,h.lw,h.az,h.nd⟩
end
def Hp.V (H:Hp)(x:Nat):Prop:=VF (lk H.cur) (Be H.old) x
def Hp.C (H:Hp)(x:Nat):Prop:=CF (lk H.cur) x
def Hp.sr (H:Hp)(x:Nat):Nat:=CN (lk H.cur) (Be H.old) x
def Hp.bl (H:Hp)(p:Nat):Prop:=H.AK=true/\p<H.scan
def Hp.obj (H:Hp)(p:Nat):Option Ob:=CP (lk H.cur) (Be H.old) p
def E8 (H:Hp)(l:List Nat)(P:BQ->Bool):Prop:=∀ y ∈ l,y≠0/\H.V y/\∀ b,H.obj (zk (Be H.old) y)=some b->P b.AL=true
structure Gc (H:Hp)(L:List Nat)(A:Ag):Prop where
 wf:H.wf
 B3:DF (lk H.cur) (Be H.old) H.bl H.Ap L A
 wk:∀ p b,H.obj p=some b->b.AL.AA=true->∃ y ∈ H.AA,zk (Be H.old) y=p
 wq:E8 H H.AA BQ.AA
 fi:E8 H H.final BQ.final
structure EH (H H':Hp):Prop where
 v:∀ x,H.V x->H'.V x
 s:∀ x,H.V x->H'.sr x=H.sr x
 c:∀ x,H.C x->H'.C x
def EH.refl (H:Hp):EH H H:=⟨fun _ h=>h,fun _ _=>rfl,fun _ h=>h⟩
def EH.trans {H H' H'':Hp}(a:EH H H')(b:EH H' H''):EH H H'':=⟨fun x h=>b.v x (a.v x h),fun x h=>(b.s x (a.v x h)).trans (a.s x h),fun x h=>b.c x (a.c x h)⟩
section
variable {H : Hp} {L : List Nat} {A : Ag}
def wh {H:Hp}(hk:H.ok)(b:Ob):lk (H.cur++[(H.top,b)])=jf (lk H.cur) H.top b:=by
 funext x;unfold jf;split
 ·rename_i e;subst e;exact Tc hk b
 ·rename_i e;rw[Tb];simp[lk,Ne.symm e]
def SS {l:List (Nat×Ob)}{p:Nat}{b b':Ob}(hp:lk l p=some b):lk (up l p b')=jf (lk l) p b':=by
 funext x;rw[ND];unfold jf;split
 ·rename_i e;subst e;rw[hp];rfl
 ·rfl
def xx {l:List (Nat×Ob×Option Nat)}{p t:Nat}{b:Ob}{g:Option Nat}(hp:Be l p=some (b,g)):Be (qw l p t)=dm (Be l) p b t:=by
 funext x;rw[br];unfold dm;split
 ·rename_i e;subst e;rw[hp];rfl
 ·rfl
def UB (hk:H.ok):lk H.cur H.top=none:=lr hk.cl hk.ck (Qk _)
def YH (hk:H.ok):H.top≠0:=by have:=vg hk;have:=H.Bt H.use;omega
def Yx (hk:H.ok){n:Nat}(hn:0<n)(hr:H.top+n<=H.base H.use+H.size):Be H.old H.top=none:=by
 cases h:Be H.old H.top with
 | none=>rfl
 | some x =>
  obtain⟨b,g⟩:=x;obtain⟨h1,h2,h3,_⟩:=dv hk h;have h4:=zi _ (Ob.AP h1).2;have:=vg hk;unfold Hp.base at *
  cases hu:H.use<;>simp[hu] at*<;> omega
def X5 (h:H.wf)(hm:H.AK=true):H.scan<=H.top:=by
 obtain⟨a,b,e,hl⟩:=h.sc hm;have hcl:=h.ok.cl;rw[e]at hcl;obtain⟨s,h1,h2⟩:=Us a b _ _ hcl;have hu:s=H.scan:=by
  have:∀ (l:List (Nat×Ob))(b s t:Nat),vj b l s->vj b l t->s=t:=by
   intro l;induction l with
   | nil=>intro b s t h1 h2;rw[vj]at h1 h2;omega
   | cons x l ih=>intro b s t h1 h2;exact ih _ _ _ h1.2 h2.2
  exact this _ _ _ _ h1 hl
 rw[<-hu];exact pi _ _ _ h2
def Gc.AG (h:Gc H L A) {p:Nat} (hv:H.V p):Gc (H.AG p).1 L A/\EH H (H.AG p).1/\(H.AG p).1.C (H.AG p).2/\(H.AG p).1.sr (H.AG p).2=H.sr p:=by
 have hwf:=Hp.Ez h.wf p
 cases hp:Be H.old p with
 | none =>
  rw[H.CW hp];refine⟨h,EH.refl H,?_,rfl⟩;rcases hv with h1|h1|h1
  ·exact .inl h1
  ·exact .inr h1
  ·exact absurd hp h1
 | some z =>
  obtain⟨b,g⟩:=z
  cases g with
  | some q =>
   rw[H.CV hp];obtain⟨b',h1,h2⟩:=h.B3.fw _ _ _ hp;refine⟨h,EH.refl H,.inr (by rw[h1];simp),?_⟩
   show CN _ _ _=CN _ _ _;rw[di h.B3 h1];unfold CN zk;rw[hp];simp only[jt h1]
  | none =>
   rw[H.Cv hp]at hwf ⊢;have hk:=h.wf.ok;have ht:=UB hk;have h0:=YH hk;have hcp:lk H.cur p=none:=(h.B3.dj p).resolve_right (by rw[hp];simp)
   have hot:Be H.old H.top=none:=Yx hk (n:=BG b.size) (by have:=zi _ (Ob.AP (dv hk hp).1).2;have:=Ob.AP (dv hk hp).1;omega) (by have:=SK hp;have:=hk.room;have:=hk.GL;omega)
   have hbl:¬H.bl H.top:=fun hb=>by have:=X5 h.wf hb.1;have:=hb.2;omega
   have hc:=h.B3.AG hp ht hot h0 hbl;have hs:∀ x,H.V x->CN (jf (lk H.cur) H.top b) (dm (Be H.old) p b H.top) x=H.sr x:=fun x hx=>XI h.B3 hp ht hot (VF.ne ht hot h0 hx);have bY:=TZ hp hcp ht hot;have hpn:∀ y,zk (Be H.old) y=p->y=p:=by
    intro y hy;unfold zk at hy;split at hy
    ·rename_i b' q hb;obtain⟨b'',h1,_⟩:=h.B3.fw _ _ _ hb;rw[hy,hcp]at h1;cases h1
    ·exact hy
   have eH:∀ {l:List Nat} {P:BQ->Bool},E8 H l P->E8 { H with cur:=H.cur++[(H.top,b)],top:=H.top+BG b.size,old:=qw H.old p H.top,Bv:=H.Bv-BG b.size } l P:=by
    intro l P hl y hy;obtain⟨h1,h2,h3⟩:=hl y hy;refine⟨h1,?_,?_⟩
    ·show VF (lk (H.cur++[(H.top,b)])) (Be (qw H.old p H.top)) y
     rw[wh hk,xx hp];exact SC h2
    ·intro d hd
     change CP (lk (H.cur++[(H.top,b)])) (Be (qw H.old p H.top)) (zk (Be (qw H.old p H.top)) y)=some d at hd;rw[wh hk,xx hp,dh,bY]at hd;by_cases e:y=p
     ·subst e
      rw[if_pos rfl,if_pos rfl]at hd;injection hd with hd;subst hd;refine h3 b ?_;have:zk (Be H.old) y=y:=by unfold zk;rw[hp]
      rw[this];exact td hcp hp
     ·rw[if_neg e]at hd
      split at hd
      ·rename_i e2
       exfalso;unfold zk at e2;split at e2
       ·rename_i b' q hb;obtain⟨b'',h1,_⟩:=h.B3.fw _ _ _ hb;rw[e2,ht]at h1;cases h1
       ·exact h2.ne ht hot h0 e2
      ·split at hd
       ·cases hd
       ·exact h3 d hd
   refine⟨⟨hwf,?_,?_,eH h.wq,eH h.fi⟩,⟨?_,?_,?_⟩,?_,?_⟩
   ·show DF (lk (H.cur++[(H.top,b)])) (Be (qw H.old p H.top)) _ _ _ _
    rw[wh hk,xx hp];exact hc
   ·intro x d hx hw
    change CP (lk (H.cur++[(H.top,b)])) (Be (qw H.old p H.top)) x=some d at hx;show ∃ y ∈ H.AA,zk (Be (qw H.old p H.top)) y=x;rw[wh hk,xx hp,bY]at hx;rw[xx hp];split at hx
    ·rename_i e;injection hx with hx;subst hx
     obtain⟨y,h1,h2⟩:=h.wk p b (td hcp hp) hw;refine⟨y,h1,?_⟩;rw[dh,if_pos (hpn y h2),e]
    ·split at hx
     ·cases hx
     ·obtain⟨y,h1,h2⟩:=h.wk x d hx hw
      refine⟨y,h1,?_⟩;rw[dh,if_neg,h2];rintro rfl;have:zk (Be H.old) y=y:=by unfold zk;rw[hp]
      omega
   ·intro x hx
    show VF (lk (H.cur++[(H.top,b)])) (Be (qw H.old p H.top)) x;rw[wh hk,xx hp];exact SC hx
   ·intro x hx
    show CN (lk (H.cur++[(H.top,b)])) (Be (qw H.old p H.top)) x=_;rw[wh hk,xx hp];exact hs x hx
   ·intro x hx
    show CF (lk (H.cur++[(H.top,b)])) x;rw[wh hk];exact Tm hx
   ·show CF (lk (H.cur++[(H.top,b)])) H.top
    exact .inr (by rw[Tc hk];simp)
   ·show CN (lk (H.cur++[(H.top,b)])) (Be (qw H.old p H.top)) H.top=_
    rw[wh hk,xx hp,di hc (b:=b) (by simp[jf])]
    show _=CN _ _ p;unfold CN;have:zk (Be H.old) p=p:=by unfold zk;rw[hp]
    rw[this,td hcp hp]
def Gc.Ay:∀ (l:List Nat){H:Hp}(_:Gc H L A)(_:∀ x ∈ l,H.V x),Gc (H.Ay l).1 L A/\EH H (H.Ay l).1/\(∀ x ∈ (H.Ay l).2,(H.Ay l).1.C x)/\(H.Ay l).2.map (H.Ay l).1.sr=l.map H.sr
 | [],H,h,_=>⟨h,EH.refl H,fun x hx=>(by cases hx),rfl⟩
 | p::l,H,h,hv=>by
  obtain⟨h1,h2,h3,h4⟩:=h.AG (hv p (.head _));obtain⟨h5,h6,h7,h8⟩:=Gc.Ay l h1 fun x hx=>h2.v x (hv x (.tail _ hx));refine⟨h5,h2.trans h6,fun x hx=>?_,?_⟩
  ·rcases aJ.1 (show x ∈ (H.AG p).2::_ from hx) with rfl|hx
   ·exact h6.c _ h3
   ·exact h7 x hx
  ·show ((H.AG p).2::((H.AG p).1.Ay l).2).map ((H.AG p).1.Ay l).1.sr=_
   rw[aI,h8,h6.s _ (CF.V h3),h4,aI];congr 1;exact Ad fun x hx=>h2.s x (hv x (.tail _ hx))
def Gc.wr (h:Gc H L A){p:Nat}{b b':Ob}{L':List Nat}{a':AO}(hp:lk H.cur p=some b)(hok:b'.ok)(hs:b'.Ap=b.Ap)(hw:b'.AL=b.AL)
  (hx:∀ x ∈ b'.AB,x ∈ b.AB\/H.C x)(hl:∀ s,s≠b.Ap->(s ∈ L'↔s ∈ L))(hl2:∀ s ∈ L',s ∈ L\/s=b.Ap/\b.AL.AA=true)(hnd:L'.Nodup)(ha:Dp (lk H.cur) (Be H.old) L' b' a') :
  Gc { H with cur:=up H.cur p b' } L' (yc A b.Ap a')/\EH H { H with cur:=up H.cur p b' }/\(∀ x,Hp.sr { H with cur:=up H.cur p b' } x=H.sr x)/\(∀ x,Hp.C { H with cur:=up H.cur p b' } x↔H.C x):=by
 have hc:=h.B3.set (L':=L') hp hs hw hx hl hl2 hnd ha;have e:=SS (b':=b') hp;have dU:∀ x,Hp.sr { H with cur:=up H.cur p b' } x=H.sr x:=fun x=>by unfold Hp.sr;rw[e];exact RF hp hs x
 have hC:∀ x,Hp.C { H with cur:=up H.cur p b' } x↔H.C x:=fun x=>by unfold Hp.C;rw[e];exact Rz hp x
 have hV:∀ x,Hp.V { H with cur:=up H.cur p b' } x↔H.V x:=fun x=>by unfold Hp.V;rw[e];exact Yh hp x
 have bY:∀ x,Hp.obj { H with cur:=up H.cur p b' } x=if x=p then some b' else H.obj x:=fun x=>by unfold Hp.obj;rw[e];exact UP hp x
 have eH:∀ {l:List Nat}{P:BQ->Bool},E8 H l P->E8 { H with cur:=up H.cur p b' } l P:=by
  intro l P hl y hy;obtain⟨h1,h2,h3⟩:=hl y hy;refine⟨h1,(hV y).2 h2,fun d hd=>?_⟩;rw[bY]at hd;change (if zk (Be H.old) y=p then _ else _)=_ at hd;split at hd
  ·rename_i e2;injection hd with hd;subst hd;rw[hw];exact h3 b (by rw[e2];exact jt hp)
  ·exact h3 d hd
 refine⟨⟨PS h.wf hp hok hw,by show DF (lk (up H.cur p b')) _ _ _ _ _;rw[e];exact hc,fun x d hx' hwk=>?_,eH h.wq,eH h.fi⟩,⟨fun x=>(hV x).2,fun x _=>dU x,fun x=>(hC x).2⟩,dU,hC⟩
 rw[bY]at hx';split at hx'
 ·rename_i e2;injection hx' with hx';subst hx';subst e2;exact h.wk x b (jt hp) (by rw[<-hw];exact hwk)
 ·exact h.wk x d hx' hwk
def Gc.at' (h:Gc H L A){p:Nat}(hp:H.C p)(h0:p≠0):∃ b a,lk H.cur p=some b/\H.sr p=b.Ap/\A b.Ap=some a/\Dp (lk H.cur) (Be H.old) L b a:=by
 obtain⟨b,hb⟩:=Aj.1 (hp.resolve_left h0);obtain⟨a,h1,h2⟩:=h.B3.hp _ _ (jt hb);exact⟨b,a,hb,di h.B3 hb,h1,h2⟩
def Gc.GO (h:Gc H L A):H.sr 0=0:=MH h.B3
def Gc.Vg (h:Gc H L A){x:Nat}(hx:H.C x):H.sr x=0↔x=0:=SY h.B3 (CF.V hx)
def Gc.inj (h:Gc H L A){x y:Nat}(hx:H.C x)(hy:H.C y):H.sr x=H.sr y↔x=y:=MZ h.B3 hx hy
def Gc.lay (h:Gc H L A){s:BQ}(hs:s.ok)(hr:H.roomy s=true) :
  Gc (H.lay s) L (yc A (H.Ap+1) ⟨s,false,0,aa s.p 0,aa s.d 0⟩)/\EH H (H.lay s)/\(H.lay s).C H.top/\H.top≠0/\(H.lay s).sr H.top=H.Ap+1:=by
 have hk:=h.wf.ok;have ht:=UB hk;have h0:=YH hk;have hroom:BG (3+s.p+s.d)<=H.left:=by unfold Hp.roomy at hr;simp at hr;exact hr.1
 have hpos:0<BG (3+s.p+s.d):=by unfold BG;(repeat' split)<;>omega
 have hot:Be H.old H.top=none:=Yx hk hpos (by have:=hk.room;unfold Hp.left at hroom;omega)
 have hbl:¬H.bl H.top:=fun hb=>by have:=X5 h.wf hb.1;have:=hb.2;omega
 have hwf:=Hp.Jy h.wf hs hr;have e:lk (H.lay s).cur=jf (lk H.cur) H.top (Ob.new s (H.Ap+1)):=wh hk _;have hc:DF (jf (lk H.cur) H.top (Ob.new s (H.Ap+1))) (Be H.old) H.bl (H.Ap+1) L (yc A (H.Ap+1) ⟨s,false,0,aa s.p 0,aa s.d 0⟩):=
  h.B3.lay ht hot h0 rfl (fun x hx=>(List.mem_replicate.1 hx).2) ⟨rfl,rfl,rfl,rfl,rfl⟩
 have bY:∀ x,(H.lay s).obj x=if x=H.top then some (Ob.new s (H.Ap+1)) else H.obj x:=by
  intro x;unfold Hp.obj;rw[e];show CP (jf (lk H.cur) H.top _) (Be H.old) x=_;unfold CP jf;by_cases e2:x=H.top<;>simp[e2]
 have hV:∀ x,H.V x->(H.lay s).V x:=by
  intro x hx;unfold Hp.V;rw[e];rcases hx with h1|h1|h1
  ·exact .inl h1
  ·exact .inr (.inl (by unfold jf;split<;>simp[*]))
  ·exact .inr (.inr h1)
 have hnt:∀ y,H.V y->zk (Be H.old) y≠H.top:=by
  intro y hy;unfold zk;split
  ·rename_i b' q hb;obtain⟨b'',h1,_⟩:=h.B3.fw _ _ _ hb;intro e;rw[e,ht]at h1;cases h1
  ·exact VF.ne ht hot h0 hy
 have eH:∀ {l l':List Nat}{P:BQ->Bool},E8 H l P->(l'=if P s then l++[H.top] else l)->E8 (H.lay s) l' P:=by
  intro l l' P hl hl' y hy;have hy':y ∈ l\/(P s=true/\y=H.top):=by
   rw[hl']at hy;split at hy
   ·rcases Qs.1 hy with h1|h1
    ·exact .inl h1
    ·exact .inr ⟨by assumption,by simpa using h1⟩
   ·exact .inl hy
  rcases hy' with h1|⟨h1,rfl⟩
  ·obtain⟨h2,h3,h4⟩:=hl y h1
   refine⟨h2,hV y h3,fun d hd=>?_⟩;rw[bY]at hd;change (if zk (Be H.old) y=H.top then _ else _)=_ at hd;rw[if_neg (hnt y h3)]at hd;exact h4 d hd
  ·refine⟨h0,.inr (.inl (by rw[e];simp[jf])),fun d hd=>?_⟩
   rw[bY]at hd;change (if zk (Be H.old) H.top=H.top then _ else _)=_ at hd;rw[if_pos (by unfold zk;rw[hot])]at hd
   injection hd with hd;subst hd;exact h1
 refine⟨⟨hwf,by show DF (lk (H.lay s).cur) _ _ _ _ _;rw[e];exact hc,fun x d hx hw=>?_,eH h.wq rfl,eH h.fi rfl⟩,⟨hV,fun x hx=>?_,fun x hx=>?_⟩,?_,h0,?_⟩
 ·rw[bY]at hx
  show ∃ y ∈ (if s.AA then H.AA++[H.top] else H.AA),zk (Be H.old) y=x;split at hx
  ·rename_i e2;injection hx with hx;subst hx
   have hw':s.AA=true:=hw;rw[hw'];exact⟨H.top,by simp,by unfold zk;rw[hot];exact e2.symm⟩
  ·obtain⟨y,h1,h2⟩:=h.wk x d hx hw
   refine⟨y,?_,h2⟩;split
   ·exact Qs.2 (.inl h1)
   ·exact h1
 ·show CN (lk (H.lay s).cur) (Be H.old) x=CN _ _ x
  rw[e];unfold CN;have:=bY (zk (Be H.old) x);unfold Hp.obj at this;rw[e]at this;change CP (jf (lk H.cur) H.top _) (Be H.old) _=_ at this;rw[this,if_neg (hnt x hx)]
 ·show CF (lk (H.lay s).cur) x
  rw[e];exact Tm hx
 ·show CF (lk (H.lay s).cur) H.top
  rw[e];exact .inr (by simp[jf])
 ·show CN (lk (H.lay s).cur) (Be H.old) H.top=_
  rw[e,di hc (b:=Ob.new s (H.Ap+1)) (by simp[jf])];rfl
end
section
variable {H : Hp} {L : List Nat} {A : Ag}
def Gc.flip (h:Gc H L A)(hm:H.AK=false):Gc H.flip L A/\(∀ x,H.C x->H.flip.V x)/\∀ x,H.flip.sr x=H.sr x:=by
 have ho:=h.wf.ok.still hm;have e1:lk H.flip.cur=fun _=>none:=rfl
 have e2:Be H.flip.old=Gy (lk H.cur):=by funext x;exact Xd H.cur x
 have e3:Be H.old=fun _=>none:=by rw[ho];rfl
 have hc:=h.B3;rw[e3]at hc;have hf:=hc.flip;have bY:∀ x,H.flip.obj x=H.obj x:=by
  intro x;unfold Hp.obj;rw[e1,e2,e3];unfold CP Gy;cases lk H.cur x<;>rfl
 have hno:∀ x,zk (Be H.flip.old) x=x:=by intro x;rw[e2];unfold zk Gy;cases lk H.cur x<;>rfl
 have hno':∀ x,zk (Be H.old) x=x:=by intro x;rw[e3];rfl
 have hV:∀ x,H.V x->H.flip.V x:=by
  intro x hx;unfold Hp.V at *;rw[e1,e2];rw[e3]at hx;rcases hx with h1|h1|h1
  ·exact .inl h1
  ·exact .inr (.inr (by unfold Gy;simpa using h1))
  ·exact absurd rfl h1
 have eH:∀ {l:List Nat}{P:BQ->Bool},E8 H l P->E8 H.flip l P:=by
  intro l P hl y hy;obtain⟨h1,h2,h3⟩:=hl y hy;grind
 refine⟨⟨Hp.EX h.wf hm,?_,fun p b hp hw=>?_,eH h.wq,eH h.fi⟩,fun x hx=>hV x (CF.V hx),fun x=>?_⟩
 ·rw[e1,e2]
  refine hf.Ve fun p b hp=>by cases hp
 ·rw[bY]at hp
  obtain⟨y,h1,h2⟩:=h.wk p b hp hw;exact⟨y,h1,by rw[hno];rw[hno']at h2;exact h2⟩
 ·show CN _ _ x=CN _ _ x
  unfold CN;have h1:=bY x;unfold Hp.obj at h1;rw[hno,hno',h1]
def Gc.Bf (h:Gc H L A):Gc H.Bf.1 L A/\EH H H.Bf.1:=by
 by_cases hc:H.AK=false\/H.scan=H.top
 ·have e:H.Bf=(H,false):=by unfold Hp.Bf;rw[if_pos hc]
  rw[e];exact⟨h,EH.refl H⟩
 ·have hwf:=Hp.Fx h.wf
  have hm:H.AK=true:=by cases hm:H.AK<;>simp[hm]at hc ⊢
  obtain⟨ob,hp,a,b,e,hl⟩:=SX h.wf hm (fun e=>hc (.inr e));have e1:H.Bf=if ob.AL.AA then ({ H with scan:=H.scan+BG ob.size },true) else
   ({ (H.Ay ob.AB).1 with cur:=up (H.Ay ob.AB).1.cur H.scan { ob with AB:=(H.Ay ob.AB).2 },scan:=H.scan+BG ob.size },true):=by
   unfold Hp.Bf;rw[if_neg hc,hp]
  rw[e1]at hwf ⊢;have Acs:∀ {H':Hp} (_:H'.wf) (p:Nat) (d x:Ob),lk H'.cur p=some d->lk H'.cur H.scan=some x->p<H.scan+BG x.size->p<H.scan\/p=H.scan:=by
   intro H' hw p d x hd hx hlt;by_cases e:p=H.scan
   ·exact .inr e
   ·have h1:p+BG d.size<=H.scan\/H.scan+BG x.size<=p:=xg _ _ _ hw.ok.cl hw.ok.ck _ (zh hd) _ (zh hx) e
    have:=zi _ (Ob.AP (hw.Ek hd)).2;left;omega
  split
  ·rename_i hw
   rw[if_pos hw]at hwf;refine⟨⟨hwf,h.B3.Ve fun p d hd hb hs=>?_,h.wk,h.wq,h.fi⟩,⟨fun _ h=>h,fun _ _=>rfl,fun _ h=>h⟩⟩;rcases Acs h.wf p d ob hd hp hb.2 with h1|rfl
   ·exact h.B3.bk p d hd ⟨hm,h1⟩ hs
   ·rw[hp]at hd;injection hd with hd;subst hd;rw[hw]at hs;cases hs
  ·rename_i hw
   rw[if_neg hw]at hwf;obtain⟨h1,h2,h3,h4⟩:=Gc.Ay ob.AB h fun x hx=>h.B3.cp _ _ hp x hx;have hp':=ri ob.AB hp;obtain⟨a',h5,h6⟩:=h1.B3.hp _ _ (jt hp');obtain⟨s1,s2,s3,s4,s5,s6,s7,s8⟩:=zw ob.AB H;have ho:=h.wf.Ek hp;have hl:Dp (lk (H.Ay ob.AB).1.cur) (Be (H.Ay ob.AB).1.old) L { ob with AB:=(H.Ay ob.AB).2 } a':=
    ⟨h6.AL,h6.fr,h6.sec,h6.nums,by rw[<-h6.AB];show (H.Ay ob.AB).2.map (H.Ay ob.AB).1.sr=_;rw[h4];exact (Ad fun x hx=>h2.s x (h.B3.cp _ _ hp x hx)).symm⟩
   have ho':Ob.ok { ob with AB:=(H.Ay ob.AB).2 }:=⟨ho.AL,by show (H.Ay ob.AB).2.length=_;rw[ku];exact ho.lp,ho.ln,nr _ h.wf.ok ho.ptr,ho.num,ho.Bc,ho.sec⟩
   obtain⟨g1,g2,g3,g4⟩:=h1.wr (b':={ ob with AB:=(H.Ay ob.AB).2 }) (L':=L) hp' ho' rfl rfl (fun x hx=>.inr (h3 x hx)) (fun _ _=>Iff.rfl) (fun _ h=>.inl h) h1.B3.nd hl;have hA:yc A ob.Ap a'=A:=by funext x;unfold yc;split<;>simp[*]
   rw[hA]at g1;refine⟨⟨hwf,g1.B3.Ve fun p d hd hb hs=>?_,g1.wk,g1.wq,g1.fi⟩,h2.trans ⟨g2.v,g2.s,g2.c⟩⟩;have hx:lk (up (H.Ay ob.AB).1.cur H.scan { ob with AB:=(H.Ay ob.AB).2 }) H.scan=some { ob with AB:=(H.Ay ob.AB).2 }:=by rw[ND,if_pos rfl,hp'];rfl
   rcases Acs (H':={ (H.Ay ob.AB).1 with cur:=up (H.Ay ob.AB).1.cur H.scan { ob with AB:=(H.Ay ob.AB).2 } }) g1.wf p d _ hd hx hb.2 with h7|rfl
   ·exact g1.B3.bk p d hd ⟨by show (H.Ay ob.AB).1.AK=true;rw[s3];exact hm,by show p<(H.Ay ob.AB).1.scan;rw[s4];exact h7⟩ hs
   ·intro x hx'
    change lk (up _ _ _) _=some d at hd;rw[hx]at hd;injection hd with hd;subst hd;exact (g4 x).2 (h3 x hx')
def Gc.final (h:Gc H L A){l:List Nat}(hl:l.length<=H.Ap)(hx:E8 H l BQ.final):Gc { H with final:=l } L A:=
 ⟨fc h.wf hl,h.B3,h.wk,h.wq,hx⟩
def Gc.nowAt (h:Gc H L A){p q:Nat}(hv:H.V p)(hn:H.nowAt p=some q):H.C q/\q=zk (Be H.old) p:=by
 unfold Hp.nowAt at hn;split at hn
 ·rename_i ho;injection hn with hn;subst hn
  refine⟨?_,by unfold zk;rw[ho]⟩
  rcases hv with h1|h1|h1
  ·exact .inl h1
  ·exact .inr h1
  ·grind
 ·rename_i ob g ho
  subst hn;obtain⟨b',h1,_⟩:=h.B3.fw _ _ _ ho;exact⟨.inr (by rw[h1];simp),by unfold zk;rw[ho]⟩
def Gc.pos (h:Gc H L A){p:Nat}(h0:p≠0)(hv:H.V p):∃ b,H.obj (zk (Be H.old) p)=some b:=by
 rcases hv with h1|h1|h1
 ·grind
 ·obtain⟨b,hb⟩:=Aj.1 h1
  exact⟨b,by rw[Tk h.B3 (.inr h1)];exact jt hb⟩
 ·obtain⟨⟨b,g⟩,hb⟩:=Aj.1 h1
  cases g with
  | none=>exact⟨b,by unfold zk;rw[hb];exact td ((h.B3.dj p).resolve_right h1) hb⟩
  | some q=>obtain⟨b',h2,_⟩:=h.B3.fw _ _ _ hb;exact⟨b',by unfold zk;rw[hb];exact jt h2⟩
def Gc.nz (h:Gc H L A){p:Nat}(h0:p≠0)(hv:H.V p):zk (Be H.old) p≠0:=by
 obtain⟨b,hb⟩:=h.pos h0 hv;intro e;rw[e]at hb;unfold Hp.obj CP at hb;rw[h.B3.z.1,h.B3.z.2]at hb;cases hb
def Gc.stay (h:Gc H L A){l:List Nat}{P:BQ->Bool}(hl:E8 H l P):∀ y ∈ H.stay l,y≠0/\H.C y/\∀ b,lk H.cur y=some b->P b.AL=true:=by
 intro y hy;unfold Hp.stay at hy;obtain⟨p,hp,e⟩:=aH.1 hy;obtain⟨h1,h2,h3⟩:=hl p hp;obtain⟨h4,h5⟩:=h.nowAt h2 e;exact⟨by rw[h5];exact h.nz h1 h2,h4,fun b hb=>h3 b (by rw[<-h5];exact jt hb)⟩
def Gc.R5 (h:Gc H L A){l:List Nat}{P:BQ->Bool}(hl:E8 H l P):E8 H (H.stay l) P:=by
 intro y hy;obtain⟨h1,h2,h3⟩:=h.stay hl y hy;refine⟨h1,CF.V h2,fun b hb=>?_⟩
 rw[Tk h.B3 h2]at hb;obtain⟨d,hd⟩:=Aj.1 (h2.resolve_left h1);rw[show H.obj y=some d from jt hd]at hb;grind
def Gc.A4 (h:Gc H L A):Gc H.A4.1 L A/\EH H H.A4.1/\∀ x ∈ H.A4.2,H.A4.1.C x/\∃ a,A (H.A4.1.sr x)=some a/\a.AL.final=true/\∀ q,H.C q->H.sr q≠H.A4.1.sr x:=by
 unfold Hp.A4;split
 ·exact⟨h,EH.refl H,fun x hx=>by cases hx⟩
 ·have hl:=kw H H.final
  have hfl:=h.wf.fl;have h1:Gc { H with final:=H.stay H.final } L A:=h.final (by omega) (h.R5 h.fi)
  have hv:∀ x ∈ H.B6 H.final,H.V x/\∃ a,A (H.sr x)=some a/\a.AL.final=true/\∀ q,H.C q->H.sr q≠H.sr x:=fun x hx=>by
   obtain⟨k1,k2,k3⟩:=h.fi x (aN.1 hx).1;obtain⟨b,hb⟩:=h.pos k1 k2;obtain⟨a,h4,h5⟩:=h.B3.hp _ _ hb;have hx0:H.sr x=b.Ap:=by unfold Hp.sr CN;rw[show CP (lk H.cur) (Be H.old) (zk (Be H.old) x)=some b from hb]
   refine⟨k2,a,by grind,by rw[h5.AL];exact k3 b hb,fun q hq e=>?_⟩
   have hn:H.nowAt x=none:=by have:=(aN.1 hx).2;simpa using this
   have ho:∃ ob,Be H.old x=some (ob,none):=by
    unfold Hp.nowAt at hn;split at hn
    ·cases hn
    ·rename_i ob g ho;subst hn;exact⟨ob,ho⟩
   obtain⟨ob,ho⟩:=ho;have xI:zk (Be H.old) x=x:=by unfold zk;rw[ho]
   have hcx:lk H.cur x=none:=(h.B3.dj x).resolve_right (by rw[ho];simp)
   have hb':CP (lk H.cur) (Be H.old) x=some b:=by rw[<-xI];exact hb
   have h1b:=(h.B3.sr _ _ hb').1;rcases hq with rfl|hq
   ·rw[h.GO]at e;omega
   ·obtain⟨c,hc⟩:=Aj.1 hq
    have e1:H.sr q=c.Ap:=di h.B3 hc;have:=h.B3.inj q x c b (jt hc) hb' (by rw[<-e1,e,hx0])
    rw[this,hcx]at hc;cases hc
  obtain⟨g1,g2,g3,g4⟩:=Gc.Ay (H.B6 H.final) h1 fun x hx=>(hv x hx).1;refine⟨g1,⟨g2.v,g2.s,g2.c⟩,fun x hx=>⟨g3 x hx,?_⟩⟩;have:(Hp.Ay { H with final:=H.stay H.final } (H.B6 H.final)).1.sr x ∈ (H.B6 H.final).map H.sr:=by
   have h6:(Hp.Ay { H with final:=H.stay H.final } (H.B6 H.final)).1.sr x ∈ (Hp.Ay { H with final:=H.stay H.final } (H.B6 H.final)).2.map (Hp.Ay { H with final:=H.stay H.final } (H.B6 H.final)).1.sr:=Qt.2 ⟨x,hx,rfl⟩;rw[g4]at h6;exact h6
  grind
def XE (H:Hp)(p:Nat):(H.drop1 p).1.Ap=H.Ap/\(H.drop1 p).1.final=H.final:=by
 unfold Hp.drop1;grind
def TV:∀ (l:List Nat)(H:Hp),(H.AV l).1.Ap=H.Ap
 | [],_=>rfl
 | p::l,H=>(TV l _).trans (XE H p).1
def WC:∀ (l:List Nat)(H:Hp),(H.AV l).1.final=H.final
 | [],_=>rfl
 | p::l,H=>(WC l _).trans (XE H p).2
structure Gw (H:Hp)(L:List Nat)(A:Ag):Prop where
 wf:H.wf
 B3:DF (lk H.cur) (Be H.old) H.bl H.Ap L A
def Gw.wr (h:Gw H L A){p:Nat}{b b':Ob}{L':List Nat}{a':AO}(hp:lk H.cur p=some b)(hok:b'.ok)(hs:b'.Ap=b.Ap)(hw:b'.AL=b.AL)
  (hx:∀ x ∈ b'.AB,x ∈ b.AB\/H.C x)(hl:∀ s,s≠b.Ap->(s ∈ L'↔s ∈ L))(hl2:∀ s ∈ L',s ∈ L\/s=b.Ap/\b.AL.AA=true)(hnd:L'.Nodup)(ha:Dp (lk H.cur) (Be H.old) L' b' a') :
  Gw { H with cur:=up H.cur p b' } L' (yc A b.Ap a')/\∀ x,(Hp.C { H with cur:=up H.cur p b' } x↔H.C x)/\Hp.sr { H with cur:=up H.cur p b' } x=H.sr x:=by
 have e:=SS (b':=b') hp;exact⟨⟨PS h.wf hp hok hw,by show DF (lk (up H.cur p b')) _ _ _ _ _;rw[e];exact h.B3.set (L':=L') hp hs hw hx hl hl2 hnd ha⟩,fun x=>⟨by unfold Hp.C;rw[e];exact Rz hp x,by unfold Hp.sr;rw[e];exact RF hp hs x⟩⟩
structure Dr (H H':Hp)(l:List Nat):Prop where
 c:∀ x,H'.C x↔H.C x
 s:∀ x,H'.sr x=H.sr x
 p:∀ q d',lk H'.cur q=some d'->∃ d,lk H.cur q=some d/\d'.AL=d.AL/\(q ∈ l->∀ x ∈ d'.AB,H.C x)/\∀ x ∈ d'.AB,x ∈ d.AB\/H.C x
def Gw.drop1 (h:Gw H L A){p:Nat}{b:Ob}(hp:lk H.cur p=some b)(hw:b.AL.AA=true):Gw (H.drop1 p).1 (L++(H.drop1 p).2) A/\Dr H (H.drop1 p).1 [p]:=by
 have hok:=h.wf.Ek hp;obtain⟨a,ha,hl⟩:=h.B3.hp _ _ (jt hp);have hA:yc A b.Ap a=A:=by funext x;unfold yc;split<;>simp[*]
 obtain⟨x,hx⟩:∃ x,b.AB=[x]:=by
  have h1:=hok.lp;rw[(hok.AL.2.2 hw).1]at h1;match hb:b.AB,h1 with
  | [x],_=>exact⟨x,rfl⟩
 have hv:H.V x:=h.B3.cp _ _ hp x (by rw[hx];simp)
 have CL:∀ q,(b.Bh 0 q).AB=[q]:=fun q=>by show b.AB.set 0 q=_;rw[hx];rfl
 have key:∀ (q:Nat)(L':List Nat),H.C q->q<=131072->(∀ s,s≠b.Ap->(s ∈ L'↔s ∈ L))->(∀ s ∈ L',s ∈ L\/s=b.Ap/\b.AL.AA=true)->L'.Nodup->(H.sr q=H.sr x/\L'=L\/q=0/\b.Ap ∈ L') ->
   Gw { H with cur:=up H.cur p (b.Bh 0 q) } L' A/\Dr H { H with cur:=up H.cur p (b.Bh 0 q) } [p]:=by
  intro q L' hq hq2 h1 h2 hnd h3;have hl':Dp (lk H.cur) (Be H.old) L' (b.Bh 0 q) a:=by
   refine⟨hl.AL,hl.fr,hl.sec,hl.nums,?_⟩;have h4:=hl.AB;rw[hx]at h4;rw[CL];rcases h3 with ⟨h5,rfl⟩|⟨rfl,h5⟩
   ·show [H.sr q]=_
    rw[h5];exact h4
   ·show [H.sr 0]=if b.Ap ∈ L' then _ else _
    rw[if_pos h5];show [CN _ _ 0]=_;rw[MH h.B3]
  obtain⟨g1,g2⟩:=h.wr (L':=L') hp (Ob.Cw hok 0 q hq2) rfl rfl (fun y hy=>.inr (by rw[CL]at hy;simp at hy;subst hy;exact hq)) h1 h2 hnd hl'
  rw[hA]at g1;refine⟨g1,fun x=>(g2 x).1,fun x=>(g2 x).2,fun r d' hd=>?_⟩;change lk (up _ _ _) _=_ at hd;rw[ND]at hd;split at hd
  ·rename_i e;subst e;rw[hp]at hd;injection hd with hd;subst hd
   have:∀ y ∈ (b.Bh 0 q).AB,H.C y:=fun y hy=>by rw[CL]at hy;simp at hy;subst hy;exact hq
   exact⟨b,hp,rfl,fun _=>this,fun y hy=>.inr (this y hy)⟩
  ·rename_i e;exact⟨d',hd,rfl,fun hm=>absurd (by simpa using hm) e,fun y hy=>.inl hy⟩
 unfold Hp.drop1;rw[hp];simp only[hx,List.getElem?_cons_zero]
 cases ho:Be H.old x with
 | none =>
  refine⟨by simp only[aj];exact h,fun _=>Iff.rfl,fun _=>rfl,fun q d' hd=>⟨d',hd,rfl,fun hm y hy=>?_,fun y hy=>.inl hy⟩⟩
  have e:q=p:=by simpa using hm
  subst e;rw[hp]at hd;injection hd with hd;subst hd;rw[hx]at hy;simp at hy;subst hy;rcases hv with h1|h1|h1
  ·exact .inl h1
  ·exact .inr h1
  ·exact absurd ho h1
 | some z =>
  obtain⟨d,g⟩:=z
  cases g with
  | some q =>
   simp only[aj];obtain⟨b',h1,h2⟩:=h.B3.fw _ _ _ ho;refine key q L (.inr (by rw[h1];simp)) (h.wf.ok.gone _ (zy ho) q rfl).2 (fun _ _=>Iff.rfl) (fun _ h=>.inl h) h.B3.nd (.inl ⟨?_,rfl⟩)
   show CN _ _ _=CN _ _ _;rw[di h.B3 h1];unfold CN zk;rw[ho];simp only[jt h1]
  | none =>
   have hnm:b.Ap ∉ L:=fun hm=>by
    have h4:=hl.AB;rw[hx,if_pos hm]at h4;have h5:CN (lk H.cur) (Be H.old) x=0:=by simpa using h4
    rw[(SY h.B3 hv).1 h5,h.B3.z.2]at ho;cases ho
   have hnd:(L++[b.Ap]).Nodup:=List.nodup_append.2 ⟨h.B3.nd,by simp,fun y hy z hz=>by rw[Zb.1 hz];rintro rfl;exact hnm hy⟩
   exact key 0 _ (.inl rfl) (by omega) (fun s hs=>by simp[hs]) (fun s hs=>(by simpa using hs:s ∈ L\/s=b.Ap).imp id fun e=>⟨e,hw⟩) hnd (.inr ⟨rfl,by simp⟩)
def Gw.AV:∀ (l:List Nat){H:Hp}{L:List Nat}(_:Gw H L A)(_:∀ p ∈ l,∃ b,lk H.cur p=some b/\b.AL.AA=true),Gw (H.AV l).1 (L++(H.AV l).2) A/\Dr H (H.AV l).1 l
 | [],H,L,h,_=>⟨by show Gw H (L++[]) A;rw[aj];exact h,fun _=>Iff.rfl,fun _=>rfl,fun q d' hd=>⟨d',hd,rfl,fun hm=>(by cases hm),fun y hy=>.inl hy⟩⟩
 | p::l,H,L,h,hw=>by
  obtain⟨b,hp,hb⟩:=hw p (.head _);obtain⟨g1,g2⟩:=h.drop1 hp hb;have hw':∀ q ∈ l,∃ b,lk (H.drop1 p).1.cur q=some b/\b.AL.AA=true:=by
   intro q hq;obtain⟨d,hd,hdw⟩:=hw q (.tail _ hq);have h0:q≠0:=by rintro rfl;rw[h.B3.z.1]at hd;cases hd
   obtain⟨d',hd'⟩:=Aj.1 (((g2.c q).2 (.inr (by rw[hd];simp))).resolve_left h0)
   obtain⟨d2,h3,h4,_⟩:=g2.p q d' hd';grind
  obtain⟨g3,g4⟩:=Gw.AV l g1 hw';refine⟨by show Gw _ (L++((H.drop1 p).2++_)) A;rw[<-List.append_assoc];exact g3,fun x=>(g4.c x).trans (g2.c x),fun x=>(g4.s x).trans (g2.s x),fun q d' hd=>?_⟩
  obtain⟨d1,h1,h2,h3,h4⟩:=g4.p q d' hd;obtain⟨d0,h5,h6,h7,h8⟩:=g2.p q d1 h1;refine⟨d0,h5,h2.trans h6,fun hm x hx=>?_,fun x hx=>?_⟩
  ·rcases aJ.1 hm with rfl|hm
   ·rcases h4 x hx with h9|h9
    ·grind
    ·exact (g2.c x).1 h9
   ·exact (g2.c x).1 (h3 hm x hx)
  ·rcases h4 x hx with h9|h9
   ·grind
   ·exact .inr ((g2.c x).1 h9)
def Gc.drop (h:Gc H L A):Gc H.drop.1 (L++H.drop.2.1) A/\(∀ x,H.C x->H.drop.1.C x/\H.drop.1.sr x=H.sr x):=by
 have hwf:=Hp.F3 h.wf;unfold Hp.drop at hwf ⊢;split
 ·exact⟨by simp only[aj];exact h,fun x hx=>⟨hx,rfl⟩⟩
 ·rename_i hc
  rw[if_neg hc]at hwf;have hm:H.AK=true:=by cases hm:H.AK<;>simp[hm]at hc ⊢
  have hst:H.scan=H.top:=by simpa [hm] using hc
  have CL:∀ p ∈ H.settled.AA,p≠0/\∃ b,lk H.cur p=some b/\b.AL.AA=true:=by
   intro p hp;obtain⟨h1,h2,h3⟩:=h.stay h.wq p hp;obtain⟨b,hb⟩:=Aj.1 (h2.resolve_left h1);exact⟨h1,b,hb,h3 b hb⟩
  have hg:Gw H.settled L A:=⟨Hp.DV h.wf,h.B3⟩;obtain⟨g1,g2⟩:=Gw.AV H.settled.AA hg fun p hp=>(CL p hp).2;obtain⟨s1,s2,s3,s4,s5,s6,s7⟩:=uq H.settled.AA H.settled;have hC:∀ x,(H.settled.AV H.settled.AA).1.C x↔H.C x:=g2.c;have jM:∀ p b,lk (H.settled.AV H.settled.AA).1.cur p=some b->∀ x ∈ b.AB,(H.settled.AV H.settled.AA).1.C x:=by
   intro p b hp x hx;obtain⟨d,h1,h2,h3,h4⟩:=g2.p p b hp
   cases hw:b.AL.AA with
   | true =>
    obtain⟨y,h5,h6⟩:=h.wk p d (jt h1) (by rw[<-h2];exact hw)
    have h7:H.nowAt y=some p:=by
     unfold zk at h6;unfold Hp.nowAt;split at h6
     ·rename_i e;rw[e,h6]
     ·rename_i hno
      subst h6;rw[(h.B3.dj y).resolve_left (by rw[show lk H.cur y=some d from h1];simp)]
    exact (hC x).2 (h3 (aH.2 ⟨y,h5,h7⟩) x hx)
   | false =>
    rcases h4 x hx with h5|h5
    ·have h6:=zd _ _ _ h.wf.ok.cl _ (zh (show lk H.cur p=some d from h1))
     have h7:=zi _ (Ob.AP (h.wf.Ek (show lk H.cur p=some d from h1))).2;have h8:=Ob.AP (h.wf.Ek (show lk H.cur p=some d from h1));simp only at h6;exact (hC x).2 (h.B3.bk p d h1 ⟨hm,by omega⟩ (by rw[<-h2];exact hw) x h5)
    ·exact (hC x).2 h5
  have hr:=g1.B3.rest jM (Hp.bl (H.settled.AV H.settled.AA).1.rest);have dU:∀ x,H.C x->Hp.sr (H.settled.AV H.settled.AA).1.rest x=H.sr x:=by
   intro x hx;rw[<-show (H.settled.AV H.settled.AA).1.sr x=H.sr x from g2.s x];have hx':=(hC x).2 hx;show CN (lk (H.settled.AV H.settled.AA).1.cur) (fun _=>none) x=CN _ _ x;rcases hx' with rfl|hx'
   ·rw[MH hr,MH g1.B3]
   ·obtain⟨b,hb⟩:=Aj.1 hx'
    rw[di hr hb,di g1.B3 hb]
  have bY:∀ p b,Hp.obj (H.settled.AV H.settled.AA).1.rest p=some b->lk (H.settled.AV H.settled.AA).1.cur p=some b:=by
   intro p b;show CP (lk (H.settled.AV H.settled.AA).1.cur) (fun _=>none) p=some b->_;unfold CP;cases lk (H.settled.AV H.settled.AA).1.cur p<;>simp
  have hsz:(H.settled.AV H.settled.AA).1.Ap=H.Ap:=TV _ _;have hfin:(H.settled.AV H.settled.AA).1.final=H.settled.final:=WC _ _;have eH:∀ {l:List Nat}{P:BQ->Bool},E8 H l P->E8 (H.settled.AV H.settled.AA).1.rest (H.stay l) P:=by
   intro l P hl y hy;obtain⟨h1,h2,h3⟩:=h.stay hl y hy;refine⟨h1,CF.V ((hC y).2 h2),fun d hd=>?_⟩;have h4:=bY _ _ hd;change lk _ y=some d at h4;obtain⟨d0,h5,h6,_⟩:=g2.p y d h4;rw[h6];exact h3 d0 h5
  refine⟨⟨hwf,hr,fun p b hp hw=>?_,?_,?_⟩,fun x hx=>⟨(hC x).2 hx,dU x hx⟩⟩
  ·have h1:=bY p b hp
   obtain⟨d,h2,h3,_,_⟩:=g2.p p b h1;obtain⟨y,h5,h6⟩:=h.wk p d (jt h2) (by rw[<-h3];exact hw)
   have h7:H.nowAt y=some p:=by
    unfold zk at h6;unfold Hp.nowAt;split at h6
    ·rename_i e;rw[e,h6]
    ·rename_i hno
     subst h6;rw[(h.B3.dj y).resolve_left (by rw[show lk H.cur y=some d from h2];simp)]
   refine⟨p,?_,rfl⟩;show p ∈ (H.settled.AV H.settled.AA).1.AA;rw[s2];exact aH.2 ⟨y,h5,h7⟩
  ·show E8 _ (H.settled.AV H.settled.AA).1.AA _
   rw[s2];exact eH h.wq
  ·show E8 _ (H.settled.AV H.settled.AA).1.final _
   rw[hfin];exact eH h.fi
end
structure B2 where
 S:Am
 v:Int
 e:Int
def Kk (e:Int):Bool:=e==141||e==130||e==100
def B2.fin (r:B2)(i:Nat):B2:=if Kk r.e=true then⟨r.S.abort i,0,r.e⟩ else if r.e=0 then r else⟨r.S,0,r.e⟩
def Am.AF (S:Am)(i:Nat)(r:B2):B2:=if (S.t i).live=true then r.fin i else⟨S,0,140⟩
def Am.Ce (S:Am)(i p j:Nat):B2:=
 if (S.Aq i p).2≠0 then⟨(S.Aq i p).1,0,(S.Aq i p).2⟩ else⟨(S.Aq i p).1,((S.Aq i p).1.H.Cs p j).1,((S.Aq i p).1.H.Cs p j).2⟩
def Am.CK (S:Am)(i p j:Nat):B2:=
 if (S.Aq i p).2≠0 then⟨(S.Aq i p).1,0,(S.Aq i p).2⟩ else⟨(S.Aq i p).1.h ((S.Aq i p).1.H.AY p j).1,((S.Aq i p).1.H.AY p j).2.1,((S.Aq i p).1.H.AY p j).2.2⟩
def Am.B9 (S:Am)(i p:Nat)(u:Un)(set:Hp->Hp×Nat):B2:=
 if (S.A5 i p).2=false then⟨(S.A5 i p).1,0,130⟩
 else if ((S.A5 i p).1.Cq i u).2=false then⟨((S.A5 i p).1.Cq i u).1,0,130⟩
 else⟨((S.A5 i p).1.Cq i u).1.h (set ((S.A5 i p).1.Cq i u).1.H).1,0,(set ((S.A5 i p).1.Cq i u).1.H).2⟩
def Am.Bs (S:Am)(i p j:Nat)(v:Int):B2:=
 if (S.Aq i p).2≠0 then ⟨(S.Aq i p).1,0,(S.Aq i p).2⟩
 else if ((S.Aq i p).1.H.Cs p j).2≠0 then ⟨(S.Aq i p).1,0,((S.Aq i p).1.H.Cs p j).2⟩
 else (S.Aq i p).1.B9 i p ⟨2,p,j,((S.Aq i p).1.H.Cs p j).1⟩ fun H=>H.BB p j v
def Am.DC (S:Am)(i p j q:Nat):B2:=
 if (S.Aq i p).2≠0 then ⟨(S.Aq i p).1,0,(S.Aq i p).2⟩
 else if ((S.Aq i p).1.H.AY p j).2.2≠0 then ⟨(S.Aq i p).1.h ((S.Aq i p).1.H.AY p j).1,0,((S.Aq i p).1.H.AY p j).2.2⟩
 else ((S.Aq i p).1.h ((S.Aq i p).1.H.AY p j).1).B9 i p ⟨1,p,j,((S.Aq i p).1.H.AY p j).2.1⟩ fun H=>H.Bj p j q
def Am.CM (S:Am)(i p j q:Nat):B2:=if q≠0/\lk S.H.cur q=none then⟨S,0,70⟩ else S.DC i p j q
def Am.B4 (S:Am)(i p:Nat):B2:=
 if (S.AH i p).2.1≠0 then ⟨(S.AH i p).1,0,(S.AH i p).2.1⟩ else (S.AH i p).1.B9 i p ⟨3,p,0,0⟩ fun H=>H.AX p true
def Am.AR (S:Am)(i:Nat)(s:BQ):B2:=⟨(S.Bm i s).1,(S.Bm i s).2.1,(S.Bm i s).2.2⟩
def C1:BQ:=⟨1,0,true,false⟩
def Te:C1.ok:=⟨by decide,by decide,fun _=>⟨rfl,rfl,rfl⟩⟩
def Am.BJ (S:Am)(i q:Nat):B2:=
 if q=0 then⟨S,0,143⟩ else if lk S.H.cur q=none then⟨S,0,70⟩ else
  if (S.Bm i C1).2.2≠0 then⟨(S.Bm i C1).1,0,(S.Bm i C1).2.2⟩ else⟨(S.Bm i C1).1.h ((S.Bm i C1).1.H.Bj (S.Bm i C1).2.1 0 q).1,(S.Bm i C1).2.1,0⟩
def Am.Df (S:Am)(i q:Nat):B2:=if q=0 then⟨S,0,0⟩ else if yn (S.t i).log.keeps q (S.t i).log.mr=true then⟨S.tx i ((S.t i).keep q),q,0⟩ else⟨S.tx i ((S.t i).keep q),0,130⟩
def Am.BZ (S:Am)(i p:Nat):B2:=
 if (S.AH i p).2.1≠0 then⟨(S.AH i p).1,0,(S.AH i p).2.1⟩ else if (S.AH i p).2.2.AA=false then⟨(S.AH i p).1,0,144⟩ else
  if ((S.AH i p).1.H.AY p 0).2.2≠0 then⟨(S.AH i p).1.h ((S.AH i p).1.H.AY p 0).1,0,((S.AH i p).1.H.AY p 0).2.2⟩
  else ((S.AH i p).1.h ((S.AH i p).1.H.AY p 0).1).Df i ((S.AH i p).1.H.AY p 0).2.1
def Tx.BF (x:Tx)(z:Nat×Nat):Tx:={ x with A0:=x.A0++[z] }
def Am.Bp (S:Am)(i:Nat):B2:=
 if S.Aw≠-1/\S.Aw≠(i:Int)\/(S.t i).start<S.version then⟨S,0,141⟩ else match S.queue with
 | []=>⟨{ S with Aw:=i },0,0⟩
 | z::l=>if (S.t i).seen<=z.2 then⟨{ S with Aw:=i },0,0⟩ else⟨({ S with Aw:=i,queue:=l }:Am).tx i ((S.t i).BF z),z.1,0⟩
def Hp.BP (H:Hp)(zs:List (Nat×Nat))(v:Nat):Hp:=zs.foldl (fun H z=>(H.AM z.1 (2*v)).1) H
def Am.Bu (S:Am)(i:Nat):Bool:=(S.t i).log.reads.any fun p=>we i (S.t i).start (S.H.sec p)
def Am.Br (S:Am)(i:Nat):Am:=
 if S.Aw=(i:Int) then { S with now:=S.now+1,H:=S.H.BP (S.t i).log.holds (S.now+1),Aw:=-1,version:=S.now+1 } else { S with now:=S.now+1,H:=S.H.BP (S.t i).log.holds (S.now+1) }
def Am.AJ (S:Am)(i:Nat):B2:=
 if (S.t i).log.holds=[]/\S.Aw≠(i:Int) then⟨S.tx i (S.t i).ended,0,0⟩ else if S.Bu i=true then⟨S,0,141⟩ else⟨(S.Br i).tx i (S.t i).ended,(S.now:Int)+1,0⟩
def Tx.begun (x:Tx)(n s:Nat):Tx:={ x with live:=true,start:=n,seen:=s }
def Am.AS (S:Am)(i:Nat):Am×Int:=
 if (S.t i).live=true then (S,140) else if S.now+(jj S.Au+1)<=S.most then (S.tx i ((S.t i).begun S.now S.next),0) else (S,120)
def Am.Dx (S:Am)(i:Nat):Am×Int:=if (S.t i).live=true then (S.abort i,0) else (S,140)
def Am.Co {S:Am}(hk:S.ok){i:Nat}(hi:i<S.Au.length)(p:Nat):(S.Aq i p).1.ok:=Am.D9 hk hi p
def xh (S:Am)(i p:Nat):(S.Aq i p).1.Au.length=S.Au.length:=cj S i p
def Am.JZ {r:B2}(h:r.S.ok){i:Nat}(hi:i<r.S.Au.length):(r.fin i).S.ok:=by
 unfold B2.fin;split
 ·exact Am.D6 h hi
 ·split<;>exact h
def YL (r:B2)(i:Nat):(r.fin i).S.Au.length=r.S.Au.length:=by
 unfold B2.fin;split
 ·exact qot _ _
 ·split<;>rfl
def Am.JY {S:Am}(hk:S.ok){i:Nat}(hi:i<S.Au.length){r:B2}(h:r.S.ok)(hl:r.S.Au.length=S.Au.length):(S.AF i r).S.ok:=by
 unfold Am.AF;split
 ·exact Am.JZ h (by omega)
 ·exact hk
def qqp (S:Am)(i:Nat){r:B2}(hl:r.S.Au.length=S.Au.length):(S.AF i r).S.Au.length=S.Au.length:=by
 unfold Am.AF;split
 ·rw[YL];exact hl
 ·rfl
def Good (n:Nat)(r:B2):Prop:=r.S.ok/\r.S.Au.length=n
def Good.BW {S:Am}(hk:S.ok){i:Nat}(hi:i<S.Au.length){r:B2}(h:Good S.Au.length r):Good S.Au.length (S.AF i r):=⟨Am.JY hk hi h.1 h.2,qqp S i h.2⟩
def ly {S:Am}(hk:S.ok){i:Nat}(hi:i<S.Au.length)(p j:Nat):Good S.Au.length (S.Ce i p j):=by
 unfold Am.Ce;split<;>exact⟨Am.Co hk hi p,xh S i p⟩
def T4 {S:Am}(hk:S.ok){i:Nat}(hi:i<S.Au.length)(p j:Nat):Good S.Au.length (S.CK i p j):=by
 unfold Am.CK;split
 ·exact⟨Am.Co hk hi p,xh S i p⟩
 ·exact⟨Am.Eg (Am.Co hk hi p) p j,xh S i p⟩
def Ul {S:Am}(hk:S.ok){i:Nat}(hi:i<S.Au.length)(p:Nat){u:Un}{set:Hp->Hp×Nat}(h1:-9223372036854775808<=u.old/\u.old<=9223372036854775807)(h2:u.kind=1->0<=u.old)
  (hs:∀ {T:Am},T.ok->(T.h (set T.H).1).ok):Good S.Au.length (S.B9 i p u set):=by
 unfold Am.B9;split
 ·exact⟨Am.DJ hk hi p,mz S i p⟩
 ·have h3:=Am.Eo (Am.DJ hk hi p) (by rw[mz];exact hi) u h1 h2
  have h4:=(KS (S.A5 i p).1 i u).trans (mz S i p);split
  ·exact⟨h3,h4⟩
  ·exact⟨hs h3,h4⟩
def Am.ok.FO {S:Am}(hk:S.ok)(p j:Nat):-9223372036854775808<=(S.H.Cs p j).1/\(S.H.Cs p j).1<=9223372036854775807:=by
 unfold Hp.Cs;split
 ·simp
 ·rename_i ob hp
  split
  ·simp
  ·rename_i n hn;exact (hk.H.Ek hp).num n (Qe hn)
def Yk {H:Hp}(h:H.wf)(p j:Nat):(H.AY p j).2.1<=131072:=by
 unfold Hp.AY;split
 ·simp
 ·rename_i ob hp
  split
  ·simp
  ·rename_i x hx
   have hxb:=(h.Ek hp).ptr x (Qe hx);split
   ·exact Dy h.ok hxb
   ·exact hxb
def bj {S:Am}(hk:S.ok){i:Nat}(hi:i<S.Au.length)(p j:Nat){v:Int}(hv:-9223372036854775808<=v/\v<=9223372036854775807):Good S.Au.length (S.Bs i p j v):=by
 have hf:=Am.Co hk hi p;have hl:=xh S i p;unfold Am.Bs;split
 ·exact⟨hf,hl⟩
 ·split
  ·exact⟨hf,hl⟩
  ·rw[<-hl]
   exact Ul hf (by rw[hl];exact hi) p (hf.FO p j) (fun h=>by simp at h) fun hT=>Am.Eh hT p j hv
def qlj {S:Am}(hk:S.ok){i:Nat}(hi:i<S.Au.length)(p j q:Nat):Good S.Au.length (S.DC i p j q):=by
 have hf:=Am.Co hk hi p;have hl:=xh S i p;have hb:=Yk hf.H p j;have hp:=Am.Eg hf p j;unfold Am.DC;split
 ·exact⟨hf,hl⟩
 ·split
  ·exact⟨hp,hl⟩
  ·rw[<-hl]
   exact Ul (S:=(S.Aq i p).1.h ((S.Aq i p).1.H.AY p j).1) hp (by show i<(S.Aq i p).1.Au.length;rw[hl];exact hi) p (by simp only;omega) (fun _=>by simp only;omega) fun hT=>Am.DK hT p j q
def Ua {S:Am}(hk:S.ok){i:Nat}(hi:i<S.Au.length)(p j q:Nat):Good S.Au.length (S.CM i p j q):=by
 unfold Am.CM;split
 ·exact⟨hk,rfl⟩
 ·exact qlj hk hi p j q
def lh {S:Am}(hk:S.ok){i:Nat}(hi:i<S.Au.length)(p:Nat):Good S.Au.length (S.B4 i p):=by
 have hf:=Am.D9 hk hi p;have hl:=cj S i p;unfold Am.B4;split
 ·exact⟨hf,hl⟩
 ·rw[<-hl]
  exact Ul hf (by rw[hl];exact hi) p (by simp) (fun h=>by simp at h) fun hT=>Am.CH hT p true
def uy {S:Am}(hk:S.ok){i:Nat}(hi:i<S.Au.length){s:BQ}(hs:s.ok):Good S.Au.length (S.AR i s):=⟨Am.E2 hk hi hs,SL S i s⟩
def TQ {S:Am}(hk:S.ok){i:Nat}(hi:i<S.Au.length)(q:Nat):Good S.Au.length (S.BJ i q):=by
 unfold Am.BJ;have h1:=Am.E2 hk hi Te;have h2:=SL S i C1;split
 ·exact⟨hk,rfl⟩
 ·split
  ·exact⟨hk,rfl⟩
  ·split
   ·exact⟨h1,h2⟩
   ·exact⟨Am.DK h1 _ _ _,h2⟩
def qlq {S:Am}(hk:S.ok){i:Nat}(hi:i<S.Au.length)(q:Nat):Good S.Au.length (S.Df i q):=by
 have h1:=Am.Gb hk hi q;have h2:=Am.BA S i ((S.t i).keep q);unfold Am.Df;split
 ·exact⟨hk,rfl⟩
 ·split<;>exact⟨h1,h2⟩
def lf {S:Am}(hk:S.ok){i:Nat}(hi:i<S.Au.length)(p:Nat):Good S.Au.length (S.BZ i p):=by
 have hf:=Am.D9 hk hi p;have hl:=cj S i p;have hp:=Am.Eg hf p 0;unfold Am.BZ;split
 ·exact⟨hf,hl⟩
 ·split
  ·exact⟨hf,hl⟩
  ·split
   ·exact⟨hp,hl⟩
   ·rw[<-hl]
    exact qlq (S:=(S.AH i p).1.h ((S.AH i p).1.H.AY p 0).1) hp (by show i<(S.AH i p).1.Au.length;rw[hl];exact hi) _
def Am.FQ {S:Am}(h:S.ok){z:Int}{v:Nat}(hz:-1<=z/\z<=8)(hv:v<=S.now):Am.ok { S with Aw:=z,version:=v }:=
 ⟨h.H,h.n2,h.lv,h.t1,h.t8,h.lg,h.st,hv,hz,h.sc,h.so,h.qu,h.nx,h.cm,h.se,h.ph⟩
def fy {S:Am}(hk:S.ok){i:Nat}(hi:i<S.Au.length):Good S.Au.length (S.Bp i):=by
 have h8:=hk.t8;unfold Am.Bp;split
 ·exact⟨hk,rfl⟩
 ·split
  ·exact⟨Am.FQ hk (by omega) hk.ve,rfl⟩
  ·rename_i z l hq
   split
   ·exact⟨Am.FQ hk (by omega) hk.ve,rfl⟩
   ·have h1:Am.ok { S with Aw:=i }:=Am.FQ hk (by omega) hk.ve
    have hx:=Am.AW hi;have hlv:=y9 S.Au i ((S.t i).BF z) _ hx;have htk:=ug S.Au i ((S.t i).BF z) _ hx;have hmem:∀ y ∈ S.Au.set i ((S.t i).BF z),y ∈ S.Au\/y=(S.t i).BF z:=fun z hz=>af hz;have e1:((S.t i).BF z).A0.length=(S.t i).A0.length+1:=by simp[Tx.BF]
    have e2:((S.t i).BF z).live=(S.t i).live:=rfl;rw[e1]at htk;rw[e2]at hlv;have Alw:=Nat.add_right_cancel hlv;have hqu:=hk.qu;rw[hq,Qv]at hqu;refine⟨⟨hk.H,hk.n2,by show S.now+jj (S.Au.set i _)<=S.most;rw[Alw];exact hk.lv,by simpa [Am.tx] using hk.t1,by simpa [Am.tx] using hk.t8,fun z hz=>?_,fun z hz=>?_,hk.ve,h1.ho,hk.sc,hk.so,by show l.length+wa (S.Au.set i _)<=S.next;omega,hk.nx,hk.cm,fun z hz=>?_,hk.ph⟩,by simp[Am.tx]⟩
    ·rcases hmem z hz with h|rfl
     ·exact hk.lg z h
     ·exact hk.Ew hi
    ·rcases hmem z hz with h|rfl
     ·exact hk.st z h
     ·exact hk.Vh hi
    ·rcases hmem z hz with h|rfl
     ·exact hk.se z h
     ·exact hk.set hi
def Am.E1:∀ (zs:List (Nat×Nat)){S:Am}{v:Nat},S.ok->v<=1099511627776->(S.h (S.H.BP zs v)).ok
 | [],_,_,hk,_=>hk
 | z::zs,S,v,hk,hv=>Am.E1 zs (S:=S.h (S.H.AM z.1 (2*v)).1) (Am.Ga hk z.1 hv) hv
def qpz (H:Hp)(zs:List (Nat×Nat))(z:Nat×Nat)(v:Nat):H.BP (zs++[z]) v=((H.BP zs v).AM z.1 (2*v)).1:=by unfold Hp.BP;rw[aB];rfl
def UI:∀ (l:List Tx)(i:Nat)(x:Tx),l[i]?=some x->x.live=true->1<=jj l
 | [],i,x,h,_=>by simp at h
 | q::l,0,x,h,hl=>by simp at h;subst h;rw[kr,if_pos hl];omega
 | q::l,i+1,x,h,hl=>by have:=UI l i x (by simpa using h) hl;rw[kr];omega
def Am.Ge {S:Am} (hk:S.ok) {i:Nat} (hi:i<S.Au.length) (hl:(S.t i).live=true) {z:Int} {v:Nat} (hz:-1<=z/\z<=8) (hv:v<=S.now+1) :
  Am.ok (({ S with now:=S.now+1,H:=S.H.BP (S.t i).log.holds (S.now+1),Aw:=z,version:=v }:Am).tx i (S.t i).ended):=by
 have h1:=UI S.Au i _ (Am.AW hi) hl;have h2:=hk.lv;have h3:=hk.n2;have hc:=Am.E1 (S.t i).log.holds hk (v:=S.now+1) (by omega)
 have he:=Am.D7 hc (i:=i) hi (q:=S.queue) (z:=z) (v:=S.version) (by show S.queue.length<=S.queue.length+_;omega) hz hk.ve
 have hls:=y9 S.Au i (S.t i).ended _ (Am.AW hi);rw[hl]at hls;have e0:(S.t i).ended.live=false:=rfl;rw[e0]at hls;simp only[if_true,Bool.false_eq_true,if_false]at hls;exact⟨he.H,he.n2,by show S.now+1+jj (S.Au.set i (S.t i).ended)<=S.most;omega,he.t1,he.t8,he.lg,fun x hx=>Qu (he.st x hx),hv,hz,he.sc,he.so,he.qu,he.nx,he.cm,he.se,he.ph⟩
def gy {S:Am} (hk:S.ok) {i:Nat} (hi:i<S.Au.length) (hl:(S.t i).live=true):Good S.Au.length (S.AJ i):=by
 unfold Am.AJ;split
 ·exact⟨Am.D7 hk hi (q:=S.queue) (z:=S.Aw) (v:=S.version) (by omega) hk.ho hk.ve,by simp[Am.tx]⟩
 ·split
  ·exact⟨hk,rfl⟩
  ·unfold Am.Br
   split
   ·exact⟨Am.Ge hk hi hl (z:=-1) (v:=S.now+1) (by omega) (Qk _),by simp[Am.tx]⟩
   ·exact⟨Am.Ge hk hi hl (z:=S.Aw) (v:=S.version) hk.ho (by have:=hk.ve;omega),by simp[Am.tx]⟩
def Ud {S:Am}(hk:S.ok){i:Nat}(hi:i<S.Au.length):(S.AS i).1.ok:=by
 unfold Am.AS;split
 ·exact hk
 ·rename_i hl
  split
  ·rename_i hm
   have hx:=Am.AW hi;have hlv:=y9 S.Au i ((S.t i).begun S.now S.next) _ hx;have htk:=ug S.Au i ((S.t i).begun S.now S.next) _ hx;have hmem:∀ y ∈ S.Au.set i ((S.t i).begun S.now S.next),y ∈ S.Au\/y=(S.t i).begun S.now S.next:=fun z hz=>af hz;have e1:((S.t i).begun S.now S.next).A0.length=(S.t i).A0.length:=rfl;have e2:((S.t i).begun S.now S.next).live=true:=rfl;rw[e1]at htk;rw[e2,if_neg hl,if_pos rfl]at hlv;refine⟨hk.H,hk.n2,by show S.now+jj (S.Au.set i _)<=S.most;omega,by simpa [Am.tx] using hk.t1,by simpa [Am.tx] using hk.t8,fun z hz=>?_,fun z hz=>?_,hk.ve,hk.ho,hk.sc,hk.so,by show S.queue.length+wa (S.Au.set i _)<=S.next;have:=hk.qu;omega,hk.nx,hk.cm,fun z hz=>?_,hk.ph⟩
   ·rcases hmem z hz with h|rfl
    ·exact hk.lg z h
    ·exact hk.Ew hi
   ·rcases hmem z hz with h|rfl
    ·exact hk.st z h
    ·exact Qk _
   ·rcases hmem z hz with h|rfl
    ·exact hk.se z h
    ·exact Qk _
  ·exact hk
def qme (S:Am)(i:Nat):(S.AS i).1.Au.length=S.Au.length:=by
 unfold Am.AS;split
 ·rfl
 ·split
  ·exact Am.BA _ _ _
  ·rfl
def qoq {S:Am}(hk:S.ok){i:Nat}(hi:i<S.Au.length):(S.Dx i).1.ok:=by
 unfold Am.Dx;split
 ·exact Am.D6 hk hi
 ·exact hk
structure Dv where
 live:Bool
 start:Nat
 seen:Nat
 reads:List Nat
 holds:List (Nat×Nat)
 Az:List Un
 A0:List (Nat×Nat)
structure As where
 sz:Nat
 heap:Ag
 Bc:Nat
 now:Nat
 most:Nat
 Au:List Dv
 queue:List (Nat×Nat)
 next:Nat
 Aw:Int
 version:Nat
def Ag.upd (A:Ag)(s:Nat)(f:AO->AO):Ag:=fun x=>if x=s then (A s).map f else A x
def AO.ptr (a:AO)(i q:Nat):AO:={ a with AB:=a.AB.set i q }
def AO.num (a:AO)(i:Nat)(n:Int):AO:={ a with nums:=a.nums.set i n }
def AO.free (a:AO)(b:Bool):AO:={ a with fr:=b }
def AO.second (a:AO)(v:Nat):AO:={ a with sec:=v }
def Ag.sec (A:Ag)(s:Nat):Nat:=match A s with|some a=>a.sec|none=>0
def Ag.BH (A:Ag)(u:Un):Ag:=
 if u.kind=1 then A.upd u.pos fun a=>a.ptr u.i u.old.toNat else if u.kind=2 then A.upd u.pos fun a=>a.num u.i u.old else if u.kind=3 then A.upd u.pos fun a=>a.free (decide (u.old≠0)) else A
def Ag.Bi (A:Ag)(us:List Un):Ag:=us.foldr (fun u A=>A.BH u) A
def Ag.Dl (A:Ag)(z:Nat×Nat):Ag:=A.upd z.1 fun a=>if z.2=0 then (a.second 0).free true else a.second (2*z.2)
def Ag.BU (A:Ag)(zs:List (Nat×Nat)):Ag:=zs.foldl Ag.Dl A
def Ag.BP (A:Ag)(zs:List (Nat×Nat))(v:Nat):Ag:=zs.foldl (fun A z=>A.upd z.1 fun a=>a.second (2*v)) A
def As.t (A:As)(i:Nat):Dv:=A.Au.getD i ⟨false,0,0,[],[],[],[]⟩
def As.tx (A:As)(i:Nat)(x:Dv):As:={ A with Au:=A.Au.set i x }
def As.h (A:As)(H:Ag):As:={ A with heap:=H }
def Dv.read (x:Dv)(s:Nat):Dv:={ x with reads:=if s ∈ x.reads then x.reads else x.reads++[s] }
def Dv.holding (x:Dv)(s v:Nat):Dv:={ x with holds:=x.holds++[(s,v)] }
def Dv.CO (x:Dv)(u:Un):Dv:={ x with Az:=x.Az++[u] }
def Dv.ended (x:Dv):Dv:={ x with live:=false,reads:=[],holds:=[],Az:=[],A0:=[] }
structure Ck where
 A:As
 v:Int
 e:Int
def As.AH (A:As)(i s:Nat):As×Int:=
 if s=0 then (A,143) else match A.heap s with
 | none=>(A,70)
 | some a=>if we i (A.t i).start a.sec=true then (A,141) else (A.tx i ((A.t i).read s),if a.fr then 142 else 0)
def Ag.wk (A:Ag)(s:Nat):Bool:=match A s with|some a=>a.AL.AA|none=>false
def As.Aq (A:As)(i s:Nat):As×Int:=((A.AH i s).1,if (A.AH i s).2=0 then (if A.heap.wk s then 144 else 0) else (A.AH i s).2)
def As.hold (A:As)(i s:Nat):As:=if A.heap.sec s%2=1 then A else (A.tx i ((A.t i).holding s (A.heap.sec s/2))).h (A.heap.upd s fun a=>a.second (2*i+1))
def As.B9 (A:As)(i s:Nat)(u:Un)(f:AO->AO):Ck:=⟨((A.hold i s).tx i (((A.hold i s).t i).CO u)).h ((A.hold i s).heap.upd s f),0,0⟩
def Ag.num (A:Ag)(s j:Nat):Int×Int:=match A s with|none=>(0,70)|some a=>match a.nums[j]? with|none=>(0,71)|some n=>(n,0)
def Ag.ptr (A:Ag)(s j:Nat):Nat×Int:=match A s with|none=>(0,70)|some a=>match a.AB[j]? with|none=>(0,71)|some n=>(n,0)
def As.Ce (A:As)(i s j:Nat):Ck:=if (A.Aq i s).2≠0 then⟨(A.Aq i s).1,0,(A.Aq i s).2⟩ else⟨(A.Aq i s).1,(A.heap.num s j).1,(A.heap.num s j).2⟩
def As.CK (A:As)(i s j:Nat):Ck:=if (A.Aq i s).2≠0 then⟨(A.Aq i s).1,0,(A.Aq i s).2⟩ else⟨(A.Aq i s).1,(A.heap.ptr s j).1,(A.heap.ptr s j).2⟩
def As.Bs (A:As)(i s j:Nat)(v:Int):Ck:=
 if (A.Aq i s).2≠0 then ⟨(A.Aq i s).1,0,(A.Aq i s).2⟩ else if (A.heap.num s j).2≠0 then ⟨(A.Aq i s).1,0,(A.heap.num s j).2⟩
 else (A.Aq i s).1.B9 i s ⟨2,s,j,(A.heap.num s j).1⟩ fun a=>a.num j v
def As.CM (A:As)(i s j q:Nat):Ck:=
 if (A.Aq i s).2≠0 then ⟨(A.Aq i s).1,0,(A.Aq i s).2⟩ else if (A.heap.ptr s j).2≠0 then ⟨(A.Aq i s).1,0,(A.heap.ptr s j).2⟩
 else (A.Aq i s).1.B9 i s ⟨1,s,j,(A.heap.ptr s j).1⟩ fun a=>a.ptr j q
def As.B4 (A:As)(i s:Nat):Ck:=if (A.AH i s).2≠0 then ⟨(A.AH i s).1,0,(A.AH i s).2⟩ else (A.AH i s).1.B9 i s ⟨3,s,0,0⟩ fun a=>a.free true
def As.lay (A:As)(i:Nat)(s:BQ)(ps:List Nat):As:=
 { A.tx i ((A.t i).holding (A.Bc+1) 0) with heap:=fun x=>if x=A.Bc+1 then some ⟨s,false,2*i+1,ps,aa s.d 0⟩ else A.heap x,Bc:=A.Bc+1 }
def As.AR (A:As)(i:Nat)(s:BQ)(mem:Bool):Ck:=if mem then⟨A,0,100⟩ else⟨A.lay i s (aa s.p 0),(A.Bc:Int)+1,0⟩
def As.BJ (A:As)(i q:Nat)(mem:Bool):Ck:=if q=0 then⟨A,0,143⟩ else if mem then⟨A,0,100⟩ else⟨A.lay i C1 [q],(A.Bc:Int)+1,0⟩
def As.BZ (A:As)(i s:Nat)(lost:Bool):Ck:=
 if (A.AH i s).2≠0 then⟨(A.AH i s).1,0,(A.AH i s).2⟩ else if A.heap.wk s=false then⟨(A.AH i s).1,0,144⟩ else
  if lost then⟨(A.AH i s).1,0,0⟩ else⟨(A.AH i s).1,(A.heap.ptr s 0).1,(A.heap.ptr s 0).2⟩
def Dv.BF (x:Dv)(z:Nat×Nat):Dv:={ x with A0:=x.A0++[z] }
def As.Bp (A:As)(i:Nat):Ck:=
 if A.Aw≠-1/\A.Aw≠(i:Int)\/(A.t i).start<A.version then⟨A,0,141⟩ else match A.queue with
 | []=>⟨{ A with Aw:=i },0,0⟩
 | z::l=>if (A.t i).seen<=z.2 then⟨{ A with Aw:=i },0,0⟩ else⟨({ A with Aw:=i,queue:=l }:As).tx i ((A.t i).BF z),z.1,0⟩
def As.BO (A:As)(i:Nat):As:=if A.Aw=(i:Int) then { A with queue:=(A.t i).A0++A.queue,Aw:=-1 } else A
def As.abort (A:As)(i:Nat):As:=((A.h ((A.heap.Bi (A.t i).Az).BU (A.t i).holds)).BO i).tx i (A.t i).ended
def As.Bu (A:As)(i:Nat):Bool:=(A.t i).reads.any fun s=>we i (A.t i).start (A.heap.sec s)
def As.tick (A:As)(i:Nat):As:=
 if A.Aw=(i:Int) then { A with now:=A.now+1,heap:=A.heap.BP (A.t i).holds (A.now+1),Aw:=-1,version:=A.now+1 } else { A with now:=A.now+1,heap:=A.heap.BP (A.t i).holds (A.now+1) }
def As.AJ (A:As)(i:Nat):Ck:=
 if (A.t i).holds=[]/\A.Aw≠(i:Int) then⟨A.tx i (A.t i).ended,0,0⟩ else if A.Bu i=true then⟨A,0,141⟩ else⟨(A.tick i).tx i (A.t i).ended,(A.now:Int)+1,0⟩
def Ck.fin (r:Ck)(i:Nat):Ck:=if Kk r.e=true then⟨r.A.abort i,0,r.e⟩ else if r.e=0 then r else⟨r.A,0,r.e⟩
def As.AF (A:As)(i:Nat)(r:Ck):Ck:=if (A.t i).live=true then r.fin i else⟨A,0,140⟩
def Dv.begun (x:Dv)(n s:Nat):Dv:={ x with live:=true,start:=n,seen:=s }
def F7 (l:List Dv):Nat:=(l.filter (·.live)).length
def As.AS (A:As)(i:Nat):As×Int:=
 if (A.t i).live=true then (A,140) else if A.now+(F7 A.Au+1)<=A.most then (A.tx i ((A.t i).begun A.now A.next),0) else (A,120)
def Tx.ab (g:Nat->Nat)(x:Tx):Dv:=⟨x.live,x.start,x.seen,x.log.reads.map g,CR g x.log.holds,x.log.Az.map (Un.at' g),CR g x.A0⟩
structure Cx where
 l:List Nat
 X:List Nat
 Y:List Nat
structure A9 (S:Am)(L:Cx)(A:As):Prop where
 ok:S.ok
 gc:Gc S.H L.l A.heap
 Bc:A.Bc=S.H.Ap
 now:A.now=S.now
 most:A.most=S.most
 next:A.next=S.next
 ho:A.Aw=S.Aw
 EO:A.version=S.version
 tx:A.Au=S.Au.map (Tx.ab S.H.sr)
 qu:A.queue=CR S.H.sr S.queue
 pl:∀ p ∈ S.places [],S.H.C p
 ex:∀ p ∈ L.X,S.H.C p
 ey:L.X.map S.H.sr=L.Y
 sz:A.sz=S.H.size
section
variable {S : Am} {L : Cx} {A : As} {i : Nat}
def xi {g g':Nat->Nat}{l:List (Nat×Nat)}(h:∀ z ∈ l,g z.1=g' z.1):CR g l=CR g' l:=Ad fun z hz=>by rw[h z hz]
def Un.BN {g g':Nat->Nat}{u:Un}(h:∀ p ∈ u.places,g p=g' p):u.at' g=u.at' g':=by
 unfold Un.places at h;unfold Un.at';grind
def Tx.DX {g g':Nat->Nat} {x:Tx} (h:∀ p ∈ x.places,g p=g' p):x.ab g=x.ab g':=by
 unfold Tx.places Lg.roots at h;unfold Tx.ab;rw[Ad (f:=g) (g:=g') fun p hp=>h p (by simp[hp]),xi (l:=x.log.holds) fun z hz=>h _ (by simp only[Qs,Qt];exact .inl (.inl (.inr ⟨z,hz,rfl⟩))),
  Ad (f:=Un.at' g) (g:=Un.at' g') fun u hu=>Un.BN fun p hp=>h p (by simp only[Qs,ai];exact .inl (.inr ⟨u,hu,hp⟩)),
  xi (l:=x.A0) fun z hz=>h _ (by simp only[Qs,Qt];exact .inr ⟨z,hz,rfl⟩)]
def A9.len (h:A9 S L A):A.Au.length=S.Au.length:=by rw[h.tx];simp
def A9.at (h:A9 S L A)(hi:i<S.Au.length):A.t i=(S.t i).ab S.H.sr:=by
 unfold As.t;rw[h.tx,Qi,Qj,Am.AW hi];rfl
def A9.GF (h:A9 S L A)(hi:i<S.Au.length):∀ p ∈ (S.t i).places,S.H.C p:=fun p hp=>h.pl p (by
 unfold Am.places;simp only[Qs,ai];exact .inr ⟨_,Qe (Am.AW hi),hp⟩)
def A9.MK (h:A9 S L A){z:Nat×Nat}(hz:z ∈ S.queue):S.H.C z.1:=h.pl _ (by
 unfold Am.places;simp only[Qs,Qt];exact .inl (.inr ⟨z,hz,rfl⟩))
def A9.heap (h:A9 S L A) {H':Hp} {L':List Nat} {A':Ag} {n:Nat} (hok:(S.h H').ok) (hg:Gc H' L' A') (hs:∀ x,S.H.C x->H'.C x/\H'.sr x=S.H.sr x) (hn:n=H'.Ap) (hz:H'.size=S.H.size):A9 (S.h H') { L with l:=L' } { A with heap:=A',Bc:=n }:=by
 refine⟨hok,hg,hn,h.now,h.most,h.next,h.ho,h.EO,?_,?_,fun p hp=>(hs p (h.pl p hp)).1,fun p hp=>(hs p (h.ex p hp)).1,(Ad fun p hp=>(hs p (h.ex p hp)).2).trans h.ey,by show A.sz=H'.size;rw[hz];exact h.sz⟩
 ·show A.Au=S.Au.map _
  rw[h.tx];refine Ad fun x hx=>Tx.DX fun p hp=>?_;exact (hs p (h.pl p (by unfold Am.places;simp only[Qs,ai];exact .inr ⟨x,hx,hp⟩))).2.symm
 ·show A.queue=CR _ S.queue
  rw[h.qu];exact xi fun z hz=>(hs _ (h.MK hz)).2.symm
def A9.Vx (h:A9 S L A){H':Hp}(hok:(S.h H').ok)(hg:Gc H' L.l A.heap)(he:EH S.H H')(hn:H'.Ap=S.H.Ap)(hz:H'.size=S.H.size):A9 (S.h H') L A:=by
 have:=h.heap hok hg (fun x hx=>⟨he.c x hx,he.s x (CF.V hx)⟩) rfl hz
 rw[hn,<-h.Bc]at this;exact this
def A9.E6 (h:A9 S L A){x:Tx}(hok:(S.tx i x).ok)(hp:∀ p ∈ x.places,S.H.C p):A9 (S.tx i x) L (A.tx i (x.ab S.H.sr)):=by
 refine⟨hok,h.gc,h.Bc,h.now,h.most,h.next,h.ho,h.EO,?_,h.qu,fun p hp'=>?_,h.ex,h.ey,h.sz⟩
 ·show A.Au.set _ _=(S.Au.set _ _).map _
  rw[h.tx,aD];rfl
 ·unfold Am.places at hp'
  simp only[Qs,ai]at hp';rcases hp' with h1|⟨y,hy,h2⟩
  ·exact h.pl p (by unfold Am.places;simp only[Qs];exact .inl h1)
  ·rcases af hy with h3|rfl
   ·exact h.pl p (by unfold Am.places;simp only[Qs,ai];exact .inr ⟨y,h3,h2⟩)
   ·exact hp p h2
def A9.obj (h:A9 S L A){p:Nat}(hp:S.H.C p)(h0:p≠0):∃ b a,lk S.H.cur p=some b/\S.H.sr p=b.Ap/\A.heap (S.H.sr p)=some a/\Dp (lk S.H.cur) (Be S.H.old) L.l b a:=by
 obtain⟨b,a,h1,h2,h3,h4⟩:=h.gc.at' hp h0;grind
def A9.mem (h:A9 S L A){p:Nat}(hp:S.H.C p){l:List Nat}(hl:∀ q ∈ l,S.H.C q):S.H.sr p ∈ l.map S.H.sr↔p ∈ l:=by
 constructor
 ·intro hm
  obtain⟨q,hq,e⟩:=Qt.1 hm;rw[<-(h.gc.inj (hl q hq) hp).1 e];exact hq
 ·grind
end
structure Cj (x:Tx)(k m:Nat):Prop where
 r:x.log.reads.length<=k
 kp:x.log.keeps.length<=k
 h:x.log.holds.length<=k
 u:x.log.Az.length<=k
 mr:m<=x.log.mr
 mu:m<=x.log.mu
def Cj.mono {x:Tx}{k k' m:Nat}(h:Cj x k m)(hk:k<=k'):Cj x k' m:=⟨by have:=h.r;omega,by have:=h.kp;omega,by have:=h.h;omega,by have:=h.u;omega,h.mr,h.mu⟩
def Cj.ended {x:Tx}{k m:Nat}(h:Cj x k m):Cj x.ended 0 m:=⟨by simp[Tx.ended],by simp[Tx.ended],by simp[Tx.ended],by simp[Tx.ended],h.mr,h.mu⟩
section
variable {S : Am} {L : Cx} {A : As} {i p k m : Nat}
def qpi {l:List Nat}{p m:Nat}(h:l.length<m):wv l p m=if p ∈ l then l else l++[p]:=by unfold wv;split;rfl;simp[h]
def WU {l:List Nat}{p m:Nat}(h:l.length<m):yn l p m=true:=by unfold yn;simp[h]
def Wd (l:List Nat)(p m:Nat):(wv l p m).length<=l.length+1:=by unfold wv;split;omega;split<;>simp
def Xy {l:List Nat}{p m q:Nat}(h:q ∈ wv l p m):q ∈ l\/q=p:=by
 unfold wv at h;split at h
 ·exact .inl h
 ·grind
def Tx.Lo (h:A9 S L A)(hi:i<S.Au.length)(hp:S.H.C p)(hf:Cj (S.t i) k m)(hk:k<m):((S.t i).read p).ab S.H.sr=(A.t i).read (S.H.sr p):=by
 rw[h.at hi];have hr:(S.t i).log.reads.length<(S.t i).log.mr:=by have:=hf.r;have:=hf.mr;omega
 have hm:=h.mem hp (l:=(S.t i).log.reads) fun q hq=>h.GF hi q (by unfold Tx.places Lg.roots;simp[hq])
 unfold Tx.ab Tx.read Dv.read;simp only[qpi hr,hm];grind
def qji {x:Tx}{P:Nat->Prop}(hx:∀ q ∈ x.places,P q)(hp:P p):∀ q ∈ (x.read p).places,P q:=by
 intro q hq;unfold Tx.places Lg.roots at hq hx;simp only[Qs]at hq hx;rcases hq with (((hq|hq)|hq)|hq)|hq
 ·rcases Xy (show q ∈ wv x.log.reads p x.log.mr from hq) with h1|rfl
  ·grind
  ·exact hp
 ·exact hx q (.inl (.inl (.inl (.inr hq))))
 ·exact hx q (.inl (.inl (.inr hq)))
 ·exact hx q (.inl (.inr hq))
 ·exact hx q (.inr hq)
def Cj.read {x:Tx}(h:Cj x k m)(p:Nat):Cj (x.read p) (k+1) m:=
 ⟨by have:=Wd x.log.reads p x.log.mr;have:=h.r;show (wv x.log.reads p x.log.mr).length<=_;omega,Qu h.kp,Qu h.h,Qu h.u,h.mr,h.mu⟩
structure Lk (S S':Am)(L:Cx)(A':As)(i k m:Nat):Prop where
 Cz:A9 S' L A'
 Dh:Cj (S'.t i) (k+1) m
 hh:S'.H=S.H
 len:S'.Au.length=S.Au.length
 h:(S'.t i).log.holds=(S.t i).log.holds/\(S'.t i).log.Az=(S.t i).log.Az/\(S'.t i).log.keeps=(S.t i).log.keeps
def A9.look (h:A9 S L A)(hi:i<S.Au.length)(hp:S.H.C p)(hf:Cj (S.t i) k m)(hk:k<m) :
  Lk S (S.AH i p).1 L (A.AH i (S.H.sr p)).1 i k m/\(S.AH i p).2.1=(A.AH i (S.H.sr p)).2/\((S.AH i p).2.1=0->(S.AH i p).2.2.AA=A.heap.wk (S.H.sr p)):=by
 have h0:Lk S S L A i k m:=⟨h,hf.mono (by omega),rfl,rfl,rfl,rfl,rfl⟩
 unfold Am.AH As.AH;by_cases e:p=0
 ·subst e;rw[h.gc.GO];rw[if_pos rfl,if_pos rfl];exact⟨h0,rfl,fun e=>by cases e⟩
 ·rw[if_neg e,if_neg (fun e'=>e ((h.gc.Vg hp).1 e'))]
  obtain⟨b,a,h1,h2,h3,h4⟩:=h.obj hp e;rw[h1,h3];simp only;rw[h.at hi,show ((S.t i).ab S.H.sr).start=(S.t i).start from rfl,h4.sec];by_cases hc:we i (S.t i).start b.second=true
  ·grind
  ·rw[if_neg hc,if_neg hc]
   have hr:(S.t i).log.reads.length<(S.t i).log.mr:=by have:=hf.r;have:=hf.mr;omega
   rw[WU hr];have hs:=h.E6 (Am.Gd h.ok hi p) (qji (h.GF hi) hp);rw[Tx.Lo h hi hp hf hk,h.at hi]at hs;refine⟨⟨hs,by rw[Am.CZ hi];exact hf.read p,rfl,Am.BA _ _ _,by rw[Am.CZ hi];exact⟨rfl,rfl,rfl⟩⟩,by simp[h4.fr],fun he=>?_⟩
   have hfr:b.B5=false:=by simpa using he
   rw[hfr];unfold Ag.wk;rw[h3];simp[h4.AL]
def A9.fields (h:A9 S L A)(hi:i<S.Au.length)(hp:S.H.C p)(hf:Cj (S.t i) k m)(hk:k<m) :
  Lk S (S.Aq i p).1 L (A.Aq i (S.H.sr p)).1 i k m/\(S.Aq i p).2=(A.Aq i (S.H.sr p)).2:=by
 obtain⟨h1,h2,h3⟩:=h.look hi hp hf hk;refine⟨h1,?_⟩;unfold Am.Aq As.Aq;grind
def ff (A:As)(i s:Nat):(A.AH i s).1.heap=A.heap:=by
 unfold As.AH;split;rfl;split;rfl;split<;>rfl
def A9.nz (h:A9 S L A)(hi:i<S.Au.length)(hp:S.H.C p)(he:(S.AH i p).2.1=0):p≠0:=by
 rintro rfl;simp[Am.AH]at he
structure Fa (R:B2)(L:Cx)(Q:Ck)(i n k m:Nat):Prop where
 Cz:A9 R.S L Q.A
 v:R.v=Q.v
 e:R.e=Q.e
 Dh:Cj (R.S.t i) k m
 len:R.S.Au.length=n
def A9.read (h:A9 S L A)(hi:i<S.Au.length)(hp:S.H.C p)(j:Nat)(hf:Cj (S.t i) k m)(hk:k<m):Fa (S.Ce i p j) L (A.Ce i (S.H.sr p) j) i S.Au.length (k+1) m:=by
 obtain⟨h1,h2⟩:=h.fields hi hp hf hk;unfold Am.Ce As.Ce;rw[<-h2];by_cases e:(S.Aq i p).2≠0
 ·rw[if_pos e,if_pos e];exact⟨h1.Cz,rfl,rfl,h1.Dh,h1.len⟩
 ·rw[if_neg e,if_neg e]
  have e0:(S.AH i p).2.1=0:=by
   unfold Am.Aq at e;dsimp only at e;grind
  obtain⟨b,a,g1,g2,g3,g4⟩:=h.obj hp (h.nz hi hp e0);have hn:((S.Aq i p).1.H.Cs p j).1=(A.heap.num (S.H.sr p) j).1/\(((S.Aq i p).1.H.Cs p j).2:Int)=(A.heap.num (S.H.sr p) j).2:=by
   rw[h1.hh];unfold Hp.Cs Ag.num;rw[g1,g3];dsimp only;rw[g4.nums];grind
  exact⟨h1.Cz,hn.1,hn.2,h1.Dh,h1.len⟩
end
structure As.BS (A:As):Prop where
 h:∀ (i:Nat)(x:Dv),A.Au[i]?=some x->∀ z ∈ x.holds,A.heap.sec z.1=2*i+1
 u:∀ (i:Nat)(x:Dv),A.Au[i]?=some x->∀ u ∈ x.Az,u.kind=1->∃ a,A.heap u.pos=some a/\a.AL.AA=false
section
variable {S : Am} {L : Cx} {A : As} {i p k m : Nat}
def KU {A:Ag}{s:Nat}(h:A s=none)(f:AO->AO):A.upd s f=A:=by funext x;unfold Ag.upd;split<;>simp[*]
def A9.wr (h:A9 S L A)(hp:S.H.C p)(h0:p≠0){b b':Ob}(hb:lk S.H.cur p=some b)(f:AO->AO)(hok:(S.h { S.H with cur:=up S.H.cur p b' }).ok)(hs:b'.Ap=b.Ap)(hw:b'.AL=b.AL)
  (hx:∀ x ∈ b'.AB,x ∈ b.AB\/S.H.C x)(hl:∀ a,Dp (lk S.H.cur) (Be S.H.old) L.l b a->Dp (lk S.H.cur) (Be S.H.old) L.l b' (f a)) :
  A9 (S.h { S.H with cur:=up S.H.cur p b' }) L (A.h (A.heap.upd (S.H.sr p) f)):=by
 obtain⟨b2,a,h1,h2,h3,h4⟩:=h.obj hp h0;rw[hb]at h1;injection h1 with h1;subst h1;have hok':b'.ok:=hok.H.Ek (p:=p) (by show lk (up S.H.cur p b') p=some b';rw[ND,if_pos rfl,hb];rfl)
 obtain⟨g1,g2,g3,g4⟩:=h.gc.wr (L':=L.l) hb hok' hs hw hx (fun _ _=>Iff.rfl) (fun _ h=>.inl h) h.gc.B3.nd (hl a h4)
 have e:A.heap.upd (S.H.sr p) f=yc A.heap b.Ap (f a):=by
  funext x;unfold Ag.upd yc;rw[h2];rw[h2]at h3;split
  ·rw[h3];rfl
  ·rfl
 have:=h.heap hok (by rw[<-e]at g1;exact g1) (fun x hx=>⟨g2.c x hx,g3 x⟩) rfl rfl
 rw[show ({ S.H with cur:=up S.H.cur p b' }:Hp).Ap=A.Bc from h.Bc.symm]at this;exact this
def A9.zero (h:A9 S L A)(f:AO->AO):A.h (A.heap.upd (S.H.sr 0) f)=A:=by rw[h.gc.GO,KU h.gc.B3.az];rfl
def A9.second (h:A9 S L A)(hp:S.H.C p){v:Nat}(hv:v<=2199023255552)(h2:yr v):A9 (S.h (S.H.AM p v).1) L (A.h (A.heap.upd (S.H.sr p) fun a=>a.second v)):=by
 have hok:=Am.CS h.ok p hv h2;by_cases h0:p=0
 ·subst h0;rw[h.zero];unfold Hp.AM;rw[h.gc.B3.z.1];exact h
 ·obtain⟨b,a,h1,_⟩:=h.obj hp h0
  have e:(S.H.AM p v).1={ S.H with cur:=up S.H.cur p (b.B8 v) }:=by unfold Hp.AM;rw[h1]
  rw[e]at hok ⊢;exact h.wr hp h0 h1 _ hok rfl rfl (fun x hx=>.inl hx) fun a hl=>⟨hl.AL,hl.fr,rfl,hl.nums,hl.AB⟩
def A9.B5 (h:A9 S L A)(hp:S.H.C p)(v:Bool):A9 (S.h (S.H.AX p v).1) L (A.h (A.heap.upd (S.H.sr p) fun a=>a.free v)):=by
 have hok:=Am.CH h.ok p v;by_cases h0:p=0
 ·subst h0;rw[h.zero];unfold Hp.AX;rw[h.gc.B3.z.1];exact h
 ·obtain⟨b,a,h1,_⟩:=h.obj hp h0
  have e:(S.H.AX p v).1={ S.H with cur:=up S.H.cur p (b.CI v) }:=by unfold Hp.AX;rw[h1]
  rw[e]at hok ⊢;exact h.wr hp h0 h1 _ hok rfl rfl (fun x hx=>.inl hx) fun a hl=>⟨hl.AL,rfl,hl.sec,hl.nums,hl.AB⟩
def A9.KA (h:A9 S L A)(hp:S.H.C p)(j:Nat){v:Int}(hv:-9223372036854775808<=v/\v<=9223372036854775807):A9 (S.h (S.H.BB p j v).1) L (A.h (A.heap.upd (S.H.sr p) fun a=>a.num j v)):=by
 have hok:=Am.Eh h.ok p j hv;by_cases h0:p=0
 ·subst h0;rw[h.zero];unfold Hp.BB;rw[h.gc.B3.z.1];exact h
 ·obtain⟨b,a,h1,h2,h3,h4⟩:=h.obj hp h0
  unfold Hp.BB at hok ⊢;rw[h1]at hok ⊢;dsimp only at hok ⊢;by_cases hj:b.AL.d<=j
  ·rw[if_pos hj]
   have e:A.heap.upd (S.H.sr p) (fun a=>a.num j v)=A.heap:=by
    funext x;unfold Ag.upd;split
    ·rename_i e;rw[e,h3]
     have:a.nums.length<=j:=by rw[h4.nums,(h.ok.H.Ek h1).ln];exact hj
     show some (AO.num a j v)=some a;unfold AO.num;rw[aL this]
    ·rfl
   rw[e];exact h
  ·rw[if_neg hj]at hok ⊢
   exact h.wr hp h0 h1 _ hok rfl rfl (fun x hx=>.inl hx) fun a hl=>⟨hl.AL,hl.fr,hl.sec,by show a.nums.set j v=b.nums.set j v;rw[hl.nums],hl.AB⟩
def X0 {f:Nat->Nat}(l:List Nat)(j x:Nat):(l.set j x).map f=(l.map f).set j (f x):=by rw[aD]
def A9.FW (h:A9 S L A)(hp:S.H.C p)(j:Nat){q:Nat}(hq:S.H.C q)(hL':S.H.sr p ∉ L.l):A9 (S.h (S.H.Bj p j q).1) L (A.h (A.heap.upd (S.H.sr p) fun a=>a.ptr j (S.H.sr q))):=by
 have hok:=Am.DK h.ok p j q;by_cases h0:p=0
 ·subst h0;rw[h.zero];unfold Hp.Bj;rw[h.gc.B3.z.1];exact h
 ·obtain⟨b,a,h1,h2,h3,h4⟩:=h.obj hp h0
  have hL:b.Ap ∉ L.l:=by rw[<-h2];exact hL'
  unfold Hp.Bj at hok ⊢;rw[h1]at hok ⊢;dsimp only at hok ⊢;have hq':¬(q≠0/\lk S.H.cur q=none):=fun hc=>(hq.resolve_left hc.1) hc.2;rw[if_neg hq']at hok ⊢;by_cases hj:b.AL.p<=j
  ·rw[if_pos hj]
   have e:A.heap.upd (S.H.sr p) (fun a=>a.ptr j (S.H.sr q))=A.heap:=by
    funext x;unfold Ag.upd;split
    ·rename_i e;rw[e,h3]
     have hlp:=h4.AB;rw[if_neg hL]at hlp;have:a.AB.length<=j:=by rw[<-hlp,Qg,(h.ok.H.Ek h1).lp];exact hj
     show some (AO.ptr a j _)=some a;unfold AO.ptr;rw[aL this]
    ·rfl
   rw[e];exact h
  ·rw[if_neg hj]at hok ⊢
   refine h.wr hp h0 h1 _ hok rfl rfl (fun x hx=>?_) fun a hl=>⟨hl.AL,hl.fr,hl.sec,hl.nums,?_⟩
   ·rcases af (show x ∈ b.AB.set j q from hx) with h5|rfl
    ·grind
    ·grind
   ·have hlp:=hl.AB
    rw[if_neg hL]at hlp;show (b.AB.set j q).map _=if b.Ap ∈ L.l then _ else a.AB.set j _;rw[if_neg hL,X0,hlp];rfl
def Sr {H:Hp}{p:Nat}{b b':Ob}(hb:lk H.cur p=some b)(hs:b'.Ap=b.Ap):(∀ x,Hp.sr { H with cur:=up H.cur p b' } x=H.sr x)/\∀ x,Hp.C { H with cur:=up H.cur p b' } x↔H.C x:=by
 have e1:=SS (b':=b') hb;exact⟨fun x=>by unfold Hp.sr;rw[e1];exact RF hb hs x,fun x=>by unfold Hp.C;rw[e1];exact Rz hb x⟩
def du (H:Hp)(p v:Nat):(∀ x,(H.AM p v).1.sr x=H.sr x)/\∀ x,(H.AM p v).1.C x↔H.C x:=by
 unfold Hp.AM;split
 ·grind
 ·rename_i b hb;exact Sr hb rfl
def Wi (H:Hp)(p:Nat)(v:Bool):(∀ x,(H.AX p v).1.sr x=H.sr x)/\∀ x,(H.AX p v).1.C x↔H.C x:=by
 unfold Hp.AX;split
 ·grind
 ·rename_i b hb;exact Sr hb rfl
def JV (H:Hp)(p i:Nat)(v:Int):(∀ x,(H.BB p i v).1.sr x=H.sr x)/\∀ x,(H.BB p i v).1.C x↔H.C x:=by
 unfold Hp.BB;split
 ·grind
 ·rename_i b hb;split
  ·grind
  ·exact Sr hb rfl
def Ya (H:Hp)(p i q:Nat):(∀ x,(H.Bj p i q).1.sr x=H.sr x)/\∀ x,(H.Bj p i q).1.C x↔H.C x:=by
 unfold Hp.Bj;split
 ·grind
 ·rename_i b hb;split
  ·grind
  ·split
   ·grind
   ·exact Sr hb rfl
def A9.sec (h:A9 S L A)(hp:S.H.C p):A.heap.sec (S.H.sr p)=S.H.sec p:=by
 unfold Ag.sec Hp.sec;by_cases h0:p=0
 ·subst h0;rw[h.gc.GO,h.gc.B3.az,h.gc.B3.z.1]
 ·obtain⟨b,a,h1,h2,h3,h4⟩:=h.obj hp h0
  rw[h1,h3];exact h4.sec
def QJ {A:Ag}{s:Nat}{f:AO->AO}(hf:∀ a,(f a).AL=a.AL)(x:Nat):(A.upd s f).wk x=A.wk x:=by
 unfold Ag.wk Ag.upd;grind
end
section
variable {S : Am} {L : Cx} {A : As} {i p k m : Nat}
def RI (H H':Hp)(p:Nat):Prop:=∀ b,lk H.cur p=some b->∃ b',lk H'.cur p=some b'/\b'.AL=b.AL
def Cj.holding {x:Tx}(h:Cj x k m)(p v:Nat):Cj (x.holding p v) (k+1) m:=
 ⟨Qu h.r,Qu h.kp,by have:=h.h;simp[Tx.holding];omega,Qu h.u,h.mr,h.mu⟩
def qe6 {x:Tx}{P:Nat->Prop}(hx:∀ q ∈ x.places,P q)(hp:P p)(v:Nat):∀ q ∈ (x.holding p v).places,P q:=by
 intro q hq;unfold Tx.places Lg.roots Tx.holding at hq;unfold Tx.places Lg.roots at hx;grind
def qkk {x:Tx}{P:Nat->Prop}{u:Un}(hx:∀ q ∈ x.places,P q)(hp:∀ q ∈ u.places,P q):∀ q ∈ (x.CO u).places,P q:=by
 intro q hq;unfold Tx.places Lg.roots Tx.CO at hq;unfold Tx.places Lg.roots at hx;grind
def Tx.FI (g:Nat->Nat)(x:Tx)(p v:Nat):(x.holding p v).ab g=(x.ab g).holding (g p) v:=by
 unfold Tx.ab Tx.holding Dv.holding CR;simp
def Tx.Lp (g:Nat->Nat)(x:Tx)(u:Un):(x.CO u).ab g=(x.ab g).CO (u.at' g):=by
 unfold Tx.ab Tx.CO Dv.CO;simp
def A9.mark (h:A9 S L A) (hi:i<S.Au.length) (hp:S.H.C p) {v:Nat} (hv:v<=1099511627776) (hm:(S.t i).log.holds.length<(S.t i).log.mu) :
  A9 ((S.tx i ((S.t i).holding p v)).Eb i p) L ((A.tx i ((A.t i).holding (S.H.sr p) v)).h (A.heap.upd (S.H.sr p) fun a=>a.second (2*i+1))):=by
 have h8:=h.ok.t8;have h1:=h.E6 (i:=i) (x:=(S.t i).holding p v) (Am.Ef h.ok hi (Lg.Fj (h.ok.Ew hi) p v hv hm)) (qe6 (h.GF hi) hp v);rw[Tx.FI,<-h.at hi]at h1;exact h1.second (p:=p) hp (v:=2*i+1) (by omega) (fun _=>by omega)
def qop (h:A9 S L A)(hh:A.BS)(hi:i<S.Au.length)(hp:S.H.C p)(he:S.H.sec p%2≠1):∀ z ∈ (S.t i).log.holds,z.1≠p:=by
 rintro z hz rfl
 have h1:=hh.h i ((S.t i).ab S.H.sr) (by rw[h.tx,Qj,Am.AW hi];rfl) (S.H.sr z.1,z.2) (Qt.2 ⟨z,hz,rfl⟩)
 rw[h.sec hp]at h1;omega
def A9.hold (h:A9 S L A)(hh:A.BS)(hi:i<S.Au.length)(hp:S.H.C p)(hf:Cj (S.t i) k m)(hm:(S.t i).log.holds.length<m) :
  A9 (S.A5 i p).1 L (A.hold i (S.H.sr p))/\(S.A5 i p).2=true/\(S.A5 i p).1.Au.length=S.Au.length/\Cj ((S.A5 i p).1.t i) (k+1) m/\((S.A5 i p).1.t i).log.Az=(S.t i).log.Az /\
  (∀ x,(S.A5 i p).1.H.sr x=S.H.sr x)/\(∀ x,(S.A5 i p).1.H.C x↔S.H.C x)/\RI S.H (S.A5 i p).1.H p:=by
 unfold Am.A5 As.hold;rw[h.sec hp];by_cases e:S.H.sec p%2=1
 ·rw[if_pos e,if_pos e];exact⟨h,rfl,rfl,hf.mono (by omega),rfl,fun _=>rfl,fun _=>Iff.rfl,fun b hb=>⟨b,hb,rfl⟩⟩
 ·rw[if_neg e,if_neg e]
  have hmu:=hf.mu;have hl:S.Ba i p (S.H.sec p/2)=(S.tx i ((S.t i).holding p (S.H.sec p/2)),true):=by
   unfold Am.Ba;rw[if_pos];unfold xa;simp only[ag,decide_eq_true_eq];exact⟨qop h hh hi hp e,by omega⟩
  rw[hl];have h2:=(h.ok.sec p).2;have h3:=h.mark hi hp (v:=S.H.sec p/2) (by omega) (by omega)
  have dU:(∀ x,((S.tx i ((S.t i).holding p (S.H.sec p/2))).Eb i p).H.sr x=S.H.sr x)/\(∀ x,((S.tx i ((S.t i).holding p (S.H.sec p/2))).Eb i p).H.C x↔S.H.C x)/\RI S.H ((S.tx i ((S.t i).holding p (S.H.sec p/2))).Eb i p).H p:=by
   show (∀ x,(S.H.AM p (2*i+1)).1.sr x=S.H.sr x)/\(∀ x,(S.H.AM p (2*i+1)).1.C x↔S.H.C x)/\RI S.H (S.H.AM p (2*i+1)).1 p;unfold Hp.AM
   cases hb:lk S.H.cur p with
   | none=>exact⟨fun _=>rfl,fun _=>Iff.rfl,fun b hb=>⟨b,hb,rfl⟩⟩
   | some b =>
    have e1:=SS (b':=b.B8 (2*i+1)) hb;refine⟨fun x=>by unfold Hp.sr;rw[e1];exact RF hb (b':=b.B8 (2*i+1)) rfl x,fun x=>by unfold Hp.C;rw[e1];exact Rz hb x,fun d hd=>?_⟩
    rw[hb]at hd;injection hd with hd;subst hd;exact⟨b.B8 (2*i+1),by rw[e1];unfold jf;rw[if_pos rfl],rfl⟩
  refine⟨h3,rfl,Am.BA _ _ _,?_,?_,dU⟩
  ·show Cj ((S.tx i ((S.t i).holding p (S.H.sec p/2))).t i) _ _
   rw[Am.CZ hi];exact hf.holding _ _
  ·show ((S.tx i ((S.t i).holding p (S.H.sec p/2))).t i).log.Az=_
   rw[Am.CZ hi];rfl
def Cj.CO {x:Tx}(h:Cj x k m)(u:Un):Cj (x.CO u) (k+1) m:=
 ⟨Qu h.r,Qu h.kp,Qu h.h,by have:=h.u;simp[Tx.CO];omega,h.mr,h.mu⟩
def A9.B9 (h:A9 S L A) (hh:A.BS) (hi:i<S.Au.length) (hp:S.H.C p) (hf:Cj (S.t i) k m) (hk:k<m) {u:Un} {set:Hp->Hp×Nat} {f:AO->AO}
  (h1:-9223372036854775808<=u.old/\u.old<=9223372036854775807) (h2:u.kind=1->0<=u.old) (hu:∀ q ∈ u.places,S.H.C q)
  (hs:∀ {S':Am} {A':As},A9 S' L A'->(∀ x,S'.H.sr x=S.H.sr x)->(∀ x,S'.H.C x↔S.H.C x)->(∀ x,A'.heap.wk x=A.heap.wk x)->A9 (S'.h (set S'.H).1) L (A'.h (A'.heap.upd (S.H.sr p) f))/\(RI S.H S'.H p->(set S'.H).2=0)) :
  Fa (S.B9 i p u set) L (A.B9 i (S.H.sr p) (u.at' S.H.sr) f) i S.Au.length (k+2) m:=by
 obtain⟨g1,g2,g3,g4,g5,g6,g7,g8⟩:=h.hold hh hi hp hf (by have:=hf.h;omega)
 unfold Am.B9 As.B9;rw[if_neg (by rw[g2];simp)]
 have hi':i<(S.A5 i p).1.Au.length:=by rw[g3];exact hi
 have zQ:((S.A5 i p).1.t i).log.Az.length<((S.A5 i p).1.t i).log.mu:=by rw[g5];have:=hf.u;have:=g4.mu;omega
 have hur:(S.A5 i p).1.Cq i u=((S.A5 i p).1.tx i (((S.A5 i p).1.t i).CO u),true):=by unfold Am.Cq;rw[if_pos zQ]
 rw[hur,if_neg (by simp)]
 dsimp only;have h3:=g1.E6 (i:=i) (x:=((S.A5 i p).1.t i).CO u) (Am.Ef g1.ok hi' (Lg.Fl (g1.ok.Ew hi') u h1 h2 zQ)) (qkk (g1.GF hi') fun q hq=>(g7 q).2 (hu q hq))
 rw[Tx.Lp,<-g1.at hi',Un.BN (g:=(S.A5 i p).1.H.sr) (g':=S.H.sr) fun q _=>g6 q]at h3
 have hwk:∀ x,(A.hold i (S.H.sr p)).heap.wk x=A.heap.wk x:=by
  intro x;unfold As.hold;split
  ·rfl
  ·exact QJ (A:=A.heap) (f:=fun a=>a.second (2*i+1)) (fun _=>rfl) x
 obtain⟨h4,h5⟩:=hs h3 g6 g7 hwk;exact⟨h4,rfl,by show (((set _).2:Nat):Int)=0;rw[h5 g8];rfl,by show Cj ((((S.A5 i p).1.tx i _)).t i) _ _;rw[Am.CZ hi'];exact (g4.CO u).mono (by omega),by show (((S.A5 i p).1.tx i _)).Au.length=_;rw[Am.BA];exact g3⟩
end
structure Fg (R:B2)(L:Cx)(Q:Ck)(i n k m:Nat):Prop where
 Cz:A9 R.S L Q.A
 v:R.e=0->∃ x:Nat,R.v=x/\R.S.H.C x/\(R.S.H.sr x:Int)=Q.v
 e:R.e=Q.e
 Dh:Cj (R.S.t i) k m
 len:R.S.Au.length=n
section
variable {S : Am} {L : Cx} {A : As} {i p k m : Nat}
def wn {A:As}(h:A.BS)(i s:Nat):(A.AH i s).1.BS:=by
 unfold As.AH;split
 ·exact h
 ·split
  ·exact h
  ·split
   ·exact h
   ·refine⟨fun j x hx z hz=>?_,fun j x hx u hu=>?_⟩
    ·change (A.Au.set i _)[j]?=some x at hx
     rw[Qr]at hx;split at hx
     ·split at hx
      ·rename_i e hl;injection hx with hx;subst hx e
       have ht:A.Au[i]?=some (A.t i):=by unfold As.t;rw[Qi,Qb hl];rfl
       exact h.h i _ ht z hz
      ·cases hx
     ·exact h.h j x hx z hz
    ·change (A.Au.set i _)[j]?=some x at hx
     rw[Qr]at hx;split at hx
     ·split at hx
      ·rename_i e hl;injection hx with hx;subst hx e
       have ht:A.Au[i]?=some (A.t i):=by unfold As.t;rw[Qi,Qb hl];rfl
       exact h.u i _ ht u hu
      ·cases hx
     ·exact h.u j x hx u hu
def UU (he:¬(S.Aq i p).2≠0):(S.AH i p).2.1=0:=by
 unfold Am.Aq at he;dsimp only at he;grind
def sq {A:As}{s:Nat}(he:¬(A.Aq i s).2≠0):A.heap.wk s=false:=by
 unfold As.Aq at he;grind
def yv (A:As)(i s:Nat):(A.Aq i s).1.heap=A.heap:=ff A i s
def A9.write (h : A9 S L A) (hh : A.BS) (hi : i < S.Au.length) (hp : S.H.C p) (j : Nat) {v : Int} (hv : -9223372036854775808 <= v /\ v <= 9223372036854775807) (hf : Cj (S.t i) k m) (hk : k + 1 < m) :
    Fa (S.Bs i p j v) L (A.Bs i (S.H.sr p) j v) i S.Au.length (k + 3) m := by
  obtain ⟨h1, h2⟩ := h.fields hi hp hf (by omega)
  have hb := Am.ok.FO h.ok p j;unfold Am.Bs As.Bs;rw [<- h2];by_cases e : (S.Aq i p).2 ≠ 0
  · rw [if_pos e, if_pos e]; exact ⟨h1.Cz, rfl, rfl, h1.Dh.mono (by omega), h1.len⟩
  · rw [if_neg e, if_neg e]
    obtain ⟨b, a, g1, g2, g3, g4⟩ := h.obj hp (h.nz hi hp (UU e));have hn : (S.H.Cs p j).1 = (A.heap.num (S.H.sr p) j).1 /\ ((S.H.Cs p j).2 : Int) = (A.heap.num (S.H.sr p) j).2 := by
      unfold Hp.Cs Ag.num; rw [g1, g3]; dsimp only; rw [g4.nums]
      cases b.nums[j]? <;> exact ⟨rfl, rfl⟩
    rw [h1.hh, <- hn.1, <- hn.2];by_cases e2 : (S.H.Cs p j).2 ≠ 0
    · rw [if_pos e2, if_pos (by simpa using e2)]; exact ⟨h1.Cz, rfl, rfl, h1.Dh.mono (by omega), h1.len⟩
    · rw [if_neg e2, if_neg (by simpa using e2)]
      have hj : j < b.AL.d := by
        unfold Hp.Cs at e2; rw [g1] at e2; dsimp only at e2;rw [<- (h.ok.H.Ek g1).ln]
        cases hj : b.nums[j]? with
        | none => rw [hj] at e2; simp at e2
        | some n => exact (Qc.1 hj).1
      have h0 := h1.hh;have hC : ∀ x, (S.Aq i p).1.H.C x ↔ S.H.C x := fun x => by rw [h0]
      have := h1.Cz.B9 (i := i) (p := p) (by exact wn hh i _) (by rw [h1.len]; exact hi) (by rw [h0]; exact hp) h1.Dh hk (u := ⟨2, p, j, (S.H.Cs p j).1⟩) (set := fun H => H.BB p j v) (f := fun a => a.num j v) hb (fun e => by cases e)
        (fun q hq => by have : q = p := by simpa [Un.places] using hq
                        subst this; rw [h0]; exact hp)
        (fun {S' A'} hs dU hC' hwk => by
          rw [h0] at dU hC' ⊢;have := hs.KA (p := p) ((hC' p).2 hp) j hv;rw [dU] at this;refine ⟨this, fun hsm => ?_⟩
          obtain ⟨b', e3, e4⟩ := hsm b g1;show (S'.H.BB p j v).2 = 0;unfold Hp.BB; rw [e3]; dsimp only; rw [if_neg (by rw [e4]; omega)])
      rw [h0] at this;have e5 : (⟨2, p, j, (S.H.Cs p j).1⟩ : Un).at' S.H.sr = ⟨2, S.H.sr p, j, (S.H.Cs p j).1⟩ := by simp [Un.at']
      rw [e5, h1.len] at this;exact ⟨this.Cz, this.v, this.e, this.Dh.mono (by omega), this.len⟩
def A9.free (h : A9 S L A) (hh : A.BS) (hi : i < S.Au.length) (hp : S.H.C p) (hf : Cj (S.t i) k m) (hk : k + 1 < m) :
    Fa (S.B4 i p) L (A.B4 i (S.H.sr p)) i S.Au.length (k + 3) m := by
  obtain ⟨h1, h2, _⟩ := h.look hi hp hf (by omega)
  unfold Am.B4 As.B4;rw [<- h2];by_cases e : (S.AH i p).2.1 ≠ 0
  · rw [if_pos e, if_pos e]; exact ⟨h1.Cz, rfl, rfl, h1.Dh.mono (by omega), h1.len⟩
  · rw [if_neg e, if_neg e]
    obtain ⟨b, a, g1, g2, g3, g4⟩ := h.obj hp (h.nz hi hp (by simpa using e))
    have h0 := h1.hh;have := h1.Cz.B9 (i := i) (p := p) (by exact wn hh i _) (by rw [h1.len]; exact hi) (by rw [h0]; exact hp) h1.Dh hk (u := ⟨3, p, 0, 0⟩) (set := fun H => H.AX p true) (f := fun a => a.free true) (by dsimp only; omega) (fun e => by cases e)
      (fun q hq => by have : q = p := by simpa [Un.places] using hq
                      subst this; rw [h0]; exact hp)
      (fun {S' A'} hs dU hC' hwk => by
        rw [h0] at dU hC' ⊢;have := hs.B5 (p := p) ((hC' p).2 hp) true;rw [dU] at this;refine ⟨this, fun hsm => ?_⟩
        obtain ⟨b', e3, e4⟩ := hsm b g1;unfold Hp.AX; rw [e3])
    rw [h0] at this;have e5 : (⟨3, p, 0, 0⟩ : Un).at' S.H.sr = ⟨3, S.H.sr p, 0, 0⟩ := by simp [Un.at']
    rw [e5, h1.len] at this;grind
def Gc.ptr {H:Hp}{L:List Nat}{A:Ag}(h:Gc H L A){p:Nat}{b:Ob}{a:AO}(hb:lk H.cur p=some b)(ha:A b.Ap=some a)(hl:Dp (lk H.cur) (Be H.old) L b a)(j:Nat) :
  Gc (H.AY p j).1 L A/\EH H (H.AY p j).1/\(H.AY p j).1.Ap=H.Ap/\((H.AY p j).2.2=if (b.AB[j]?).isSome then 0 else 71)/\∀ x,b.AB[j]?=some x->(H.AY p j).1.C (H.AY p j).2.1/\(H.AY p j).1.sr (H.AY p j).2.1=H.sr x:=by
 unfold Hp.AY;rw[hb];dsimp only
 cases hj:b.AB[j]? with
 | none=>exact⟨h,EH.refl H,rfl,rfl,fun x hx=>by cases hx⟩
 | some x =>
  dsimp only;have hv:H.V x:=h.B3.cp _ _ hb x (Qe hj);by_cases ho:(Be H.old x).isSome=true
  ·rw[if_pos ho]
   obtain⟨g1,g2,g3,g4⟩:=h.AG hv;have hb':lk (H.AG x).1.cur p=some b:=mf hb;have hok:=h.wf.Ek hb;obtain⟨a',h1,h2⟩:=g1.B3.hp _ _ (jt hb');rw[ha]at h1;injection h1 with h1;subst h1;have CL:(b.AB.set j (H.AG x).2).map (H.AG x).1.sr=b.AB.map (H.AG x).1.sr:=by
    rw[X0,g4,<-g2.s x hv];refine aQ fun n=>?_;rw[Qr,Qj];split
    ·rename_i e;subst e;rw[hj];split
     ·rfl
     ·rename_i hn;rw[Qg]at hn;exact absurd (Qc.1 hj).1 hn
    ·rfl
   have hl':Dp (lk (H.AG x).1.cur) (Be (H.AG x).1.old) L (b.Bh j (H.AG x).2) a:=⟨h2.AL,h2.fr,h2.sec,h2.nums,by show _=if b.Ap ∈ L then [0] else a.AB;rw[<-h2.AB];exact CL⟩
   obtain⟨k1,k2,k3,k4⟩:=g1.wr (L':=L) hb' (Ob.Cw hok j _ (Dy h.wf.ok (hok.ptr x (Qe hj)))) rfl rfl (fun y hy=>by
    rcases af (show y ∈ b.AB.set j _ from hy) with h5|rfl
    ·exact .inl h5
    ·exact .inr g3) (fun _ _=>Iff.rfl) (fun _ h=>.inl h) g1.B3.nd hl'
   have hA:yc A b.Ap a=A:=by funext y;unfold yc;split<;>simp[*]
   rw[hA]at k1;refine⟨k1,g2.trans k2,(yh (H:=H) x).2.2.2.2.1,rfl,fun y hy=>?_⟩;injection hy with hy;subst hy;exact⟨(k4 _).2 g3,(k3 _).trans g4⟩
  ·rw[if_neg ho]
   refine⟨h,EH.refl H,rfl,rfl,fun y hy=>?_⟩;injection hy with hy;subst hy;refine⟨?_,rfl⟩;rcases hv with h1|h1|h1
   ·exact .inl h1
   ·exact .inr h1
   ·exact absurd (bG.2 h1) ho
def qqd (H:Hp)(p j:Nat):(H.AY p j).1.size=H.size:=by
 unfold Hp.AY;split
 ·rfl
 ·split
  ·rfl
  ·split
   ·exact (yh _).1
   ·rfl
def A9.ptr (h : A9 S L A) (hp : S.H.C p) (h0 : p ≠ 0) (j : Nat) :
    A9 (S.h (S.H.AY p j).1) L A /\ EH S.H (S.H.AY p j).1 /\ RI S.H (S.H.AY p j).1 p /\
    (S.H.sr p ∉ L.l -> ((S.H.AY p j).2.2 : Int) = (A.heap.ptr (S.H.sr p) j).2 /\ ((S.H.AY p j).2.2 = 0 -> (S.H.AY p j).1.C (S.H.AY p j).2.1 /\ (S.H.AY p j).1.sr (S.H.AY p j).2.1 = (A.heap.ptr (S.H.sr p) j).1)) /\
    (S.H.sr p ∈ L.l -> j = 0 -> (S.H.AY p j).2.2 = 0 /\ (S.H.AY p j).2.1 = 0) /\ (∀ b, lk S.H.cur p = some b -> (S.H.AY p j).2.2 = 0 -> j < b.AL.p) := by
  obtain ⟨b, a, g1, g2, g3, g4⟩ := h.obj hp h0;rw [g2] at g3;obtain ⟨h1, h2, h3, h4, h5⟩ := h.gc.ptr g1 g3 g4 j;refine ⟨h.Vx (Am.Eg h.ok p j) h1 h2 h3 (qqd _ _ _), h2, ?_, fun hn => ?_, fun hm hj => ?_, fun b' hb' he => ?_⟩
  · intro b' hb'
    rw [g1] at hb'; injection hb' with hb'; subst hb';unfold Hp.AY; rw [g1]; dsimp only;split
    · exact ⟨b, g1, rfl⟩
    · split
      · rename_i x _ _
        refine ⟨b.Bh j (S.H.AG x).2, ?_, rfl⟩;show lk (up _ _ _) _ = _;rw [ND, if_pos rfl, mf g1]; rfl
      · exact ⟨b, g1, rfl⟩
  · have hlp := g4.AB
    rw [if_neg (by rw [<- g2]; exact hn)] at hlp
    unfold Ag.ptr;rw [g2, g3];dsimp only;rw [<- hlp, Qj, h4]
    cases hj : b.AB[j]? with
    | none => exact ⟨rfl, fun e => by cases e⟩
    | some x => exact ⟨rfl, fun _ => h5 x hj⟩
  · have hlp := g4.AB
    rw [if_pos (by rw [<- g2]; exact hm)] at hlp
    obtain ⟨x, hb⟩ : ∃ x, b.AB = [x] := by
      match hb : b.AB with
      | [] => rw [hb] at hlp; simp at hlp
      | [x] => exact ⟨x, rfl⟩
      | x :: y :: l => rw [hb] at hlp; simp at hlp
    rw [hb] at hlp;have hx : b.AB[j]? = some x := by rw [hb, hj]; rfl
    have h6 := h5 x hx;rw [hx] at h4;refine ⟨h4, ?_⟩
    have : S.H.sr x = 0 := by have : CN (lk S.H.cur) (Be S.H.old) x = 0 := by simpa using hlp
                              exact this
    rw [this] at h6;exact (h1.Vg h6.1).1 h6.2
  · rw [g1] at hb'; injection hb' with hb'; subst hb'
    rw [h4] at he;rw [<- (h.ok.H.Ek g1).lp]
    cases hj : b.AB[j]? with
    | none => rw [hj] at he; cases he
    | some x => exact (Qc.1 hj).1
def Mz (h:A9 S L A){s:Nat}(hw:A.heap.wk s=false)(hs:∃ a,A.heap s=some a):s ∉ L.l:=fun hm=>by
 obtain⟨a,ha⟩:=hs;have:=h.gc.B3.lw _ hm a ha;unfold Ag.wk at hw;rw[ha]at hw;simp[this]at hw
def A9.get (h:A9 S L A) (hi:i<S.Au.length) (hp:S.H.C p) (j:Nat) (hf:Cj (S.t i) k m) (hk:k<m):Fg (S.CK i p j) L (A.CK i (S.H.sr p) j) i S.Au.length (k+1) m:=by
 obtain⟨h1,h2⟩:=h.fields hi hp hf hk;unfold Am.CK As.CK;rw[<-h2];by_cases e:(S.Aq i p).2≠0
 ·rw[if_pos e,if_pos e];exact⟨h1.Cz,fun e0=>absurd e0 e,rfl,h1.Dh,h1.len⟩
 ·rw[if_neg e,if_neg e]
  have hp0:=h.nz hi hp (UU e);have hw:=sq (A:=A) (i:=i) (s:=S.H.sr p) (by rw[<-h2];exact e)
  obtain⟨b,a,g1,g2,g3,g4⟩:=h.obj hp hp0;have h0:=h1.hh;obtain⟨q1,q2,q3,q4,_⟩:=h1.Cz.ptr (p:=p) (by rw[h0];exact hp) hp0 j
  have q5:=q4 (by rw[h0];exact Mz h hw ⟨a,g3⟩)
  rw[yv,h0]at q5;rw[h0]at q1 ⊢;exact⟨q1,fun e0=>⟨_,rfl,by have:=q5.2 (by simpa using e0);exact⟨this.1,congrArg bH this.2⟩⟩,q5.1,h1.Dh,h1.len⟩
def A9.Gx (h:A9 S L A) (hh:A.BS) (hi:i<S.Au.length) (hp:S.H.C p) (j:Nat) {q:Nat} (hq:S.H.C q) (hf:Cj (S.t i) k m) (hk:k+1<m) :
  Fa (S.CM i p j q) L (A.CM i (S.H.sr p) j (S.H.sr q)) i S.Au.length (k+3) m:=by
 obtain⟨h1,h2⟩:=h.fields hi hp hf (by omega)
 have hq':¬(q≠0/\lk S.H.cur q=none):=fun hc=>(hq.resolve_left hc.1) hc.2
 unfold Am.CM As.CM;rw[if_neg hq'];unfold Am.DC;rw[<-h2];by_cases e:(S.Aq i p).2≠0
 ·rw[if_pos e,if_pos e];exact⟨h1.Cz,rfl,rfl,h1.Dh.mono (by omega),h1.len⟩
 ·rw[if_neg e,if_neg e]
  have hp0:=h.nz hi hp (UU e);have hw:=sq (A:=A) (i:=i) (s:=S.H.sr p) (by rw[<-h2];exact e)
  obtain⟨b,a,g1,g2,g3,g4⟩:=h.obj hp hp0;have h0:=h1.hh;obtain⟨q1,q2,q3,q4,_,q6⟩:=h1.Cz.ptr (p:=p) (by rw[h0];exact hp) hp0 j
  have q5:=q4 (by rw[h0];exact Mz h hw ⟨a,g3⟩)
  rw[yv,h0]at q5;rw[h0]at q1 q2 q3 q6 ⊢;rw[<-q5.1];by_cases e2:(S.H.AY p j).2.2≠0
  ·rw[if_pos e2,if_pos (by simpa using e2)];exact⟨q1,rfl,rfl,h1.Dh.mono (by omega),h1.len⟩
  ·rw[if_neg e2,if_neg (by simpa using e2)]
   obtain⟨q7,q8⟩:=q5.2 (by simpa using e2)
   have dU:∀ x,S.H.C x->(S.H.AY p j).1.sr x=S.H.sr x:=fun x hx=>q2.s x (CF.V hx);have hbd:(S.H.AY p j).2.1<=131072:=by
    rcases q7 with h5|h5
    ·omega
    ·obtain⟨d,hd⟩:=Aj.1 h5
     have:=zd _ _ _ q1.gc.wf.ok.cl _ (zh hd);have:=Tg q1.gc.wf.ok;dsimp only at *;omega
   have:=q1.B9 (i:=i) (p:=p) (by exact wn hh i _) (by show i<(S.Aq i p).1.Au.length;rw[h1.len];exact hi) (q2.c p hp) h1.Dh hk (u:=⟨1,p,j,(S.H.AY p j).2.1⟩) (set:=fun H=>H.Bj p j q) (f:=fun a=>a.ptr j (S.H.sr q)) (by dsimp only;omega) (fun _=>by dsimp only;omega)
    (fun x hx=>by
     have:x=p\/x=(S.H.AY p j).2.1:=by simpa [Un.places] using hx
     rcases this with rfl|rfl
     ·exact q2.c _ hp
     ·exact q7)
    (fun {S' A'} hs hs1 hC' hwk=>by
     have hp':=(hC' p).2 (q2.c p hp);have hq2:=(hC' q).2 (q2.c q hq);have e6:S'.H.sr p=S.H.sr p:=(hs1 p).trans (dU p hp);have:=hs.FW (p:=p) hp' j hq2 (by rw[e6];exact Mz h hw ⟨a,g3⟩)
     rw[e6,(hs1 q).trans (dU q hq)]at this;refine⟨by rw[show ((S.Aq i p).1.h (S.H.AY p j).1).H.sr p=S.H.sr p from dU p hp];exact this,fun hsm=>?_⟩
     obtain⟨b1,e7,e8⟩:=q3 b g1;obtain⟨b',e3,e4⟩:=hsm b1 e7;show (S'.H.Bj p j q).2=0;unfold Hp.Bj;rw[e3];dsimp only;rw[if_neg (fun hc=>(hq2.resolve_left hc.1) hc.2),if_neg (by rw[e4,e8];have:=q6 b g1 (by simpa using e2);omega)])
   have e5:(⟨1,p,j,((S.H.AY p j).2.1:Nat)⟩:Un).at' ((S.Aq i p).1.h (S.H.AY p j).1).H.sr=⟨1,S.H.sr p,j,((A.heap.ptr (S.H.sr p) j).1:Nat)⟩:=by
    unfold Un.at';rw[if_pos rfl];show Un.mk 1 ((S.H.AY p j).1.sr p) j (((S.H.AY p j).1.sr (S.H.AY p j).2.1:Nat):Int)=_;rw[dU p hp,q8]
   rw[e5,show ((S.Aq i p).1.h (S.H.AY p j).1).H.sr p=S.H.sr p from dU p hp]at this;exact⟨this.Cz,this.v,this.e,this.Dh.mono (by omega),this.len.trans h1.len⟩
end
section
variable {A : As} {i j s : Nat}
def As.E7 (A:As)(i:Nat)(x:Dv)(j:Nat){y:Dv}(h:(A.tx i x).Au[j]?=some y):(j=i/\y=x/\i<A.Au.length)\/(j≠i/\A.Au[j]?=some y):=by
 change (A.Au.set i x)[j]?=some y at h;grind
def As.AW (A:As){i:Nat}(h:i<A.Au.length):A.Au[i]?=some (A.t i):=by
 unfold As.t;rw[Qi,Qb h];rfl
def As.Akf {A:As}{i:Nat}{x:Dv}(h:A.Au[i]?=some x):A.t i=x:=by unfold As.t;rw[Qi,h];rfl
def As.BA (A:As)(i:Nat)(x:Dv):(A.tx i x).Au.length=A.Au.length:=by simp[As.tx]
def As.BS.keep {A A':As}(h:A.BS)(h1:∀ z,A.heap.sec z%2=1->A'.heap.sec z=A.heap.sec z)(h2:∀ z a,A.heap z=some a->∃ a',A'.heap z=some a'/\a'.AL=a.AL)(h3:A'.Au=A.Au):A'.BS:=by
 refine⟨fun i x hx z hz=>?_,fun i x hx u hu hk=>?_⟩
 ·rw[h3]at hx;have:=h.h i x hx z hz;rw[h1 _ (by omega)];exact this
 ·rw[h3]at hx;obtain⟨a,h4,h5⟩:=h.u i x hx u hu hk
  grind
def As.BS.tx (h:A.BS){x:Dv}(h1:∀ z ∈ x.holds,A.heap.sec z.1=2*i+1)(h2:∀ u ∈ x.Az,u.kind=1->∃ a,A.heap u.pos=some a/\a.AL.AA=false):(A.tx i x).BS:=by
 refine⟨fun j y hy z hz=>?_,fun j y hy u hu hk=>?_⟩
 ·rcases A.E7 i x j hy with⟨rfl,rfl,_⟩|⟨_,hy⟩
  ·exact h1 z hz
  ·exact h.h j y hy z hz
 ·rcases A.E7 i x j hy with⟨rfl,rfl,_⟩|⟨_,hy⟩
  ·exact h2 u hu hk
  ·exact h.u j y hy u hu hk
def fv {A:Ag}{s:Nat}{f:AO->AO}(x:Nat)(hx:x≠s\/∀ a,(f a).sec=a.sec):(A.upd s f).sec x=A.sec x:=by
 unfold Ag.sec Ag.upd;grind
def df {A:Ag}{s:Nat}{f:AO->AO}(hf:∀ a,(f a).AL=a.AL)(z:Nat)(a:AO)(h:A z=some a):∃ a',A.upd s f z=some a'/\a'.AL=a.AL:=by
 unfold Ag.upd;grind
def As.BS.upd (h:A.BS){s:Nat}{f:AO->AO}(h1:∀ a,(f a).sec=a.sec)(h2:∀ a,(f a).AL=a.AL):(A.h (A.heap.upd s f)).BS:=
 h.keep (fun z _=>fv z (.inr h1)) (fun z a ha=>df h2 z a ha) rfl
def As.BS.hold (h:A.BS) (hi:i<A.Au.length) {s:Nat} {a:AO} (ha:A.heap s=some a):(A.hold i s).BS/\(A.hold i s).Au.length=A.Au.length/\(∀ z a,A.heap z=some a->∃ a',(A.hold i s).heap z=some a'/\a'.AL=a.AL):=by
 unfold As.hold;split
 ·grind
 ·rename_i he
  have Aea:∀ z a,A.heap z=some a->∃ a',(A.heap.upd s fun a=>a.second (2*i+1)) z=some a'/\a'.AL=a.AL:=df (f:=fun a=>a.second (2*i+1)) fun _=>rfl;refine⟨?_,A.BA i _,Aea⟩;have Amh:(A.heap.upd s fun a=>a.second (2*i+1)).sec s=2*i+1:=by unfold Ag.sec Ag.upd;rw[if_pos rfl,ha];rfl
  have h0:As.BS (A.h (A.heap.upd s fun a=>a.second (2*i+1))):=h.keep (fun x hx=>fv x (.inl (by rintro rfl;exact he hx))) Aea rfl
  exact h0.tx (i:=i) (x:=(A.t i).holding s (A.heap.sec s/2)) (fun z hz=>by
   rcases Qs.1 (show z ∈ (A.t i).holds++[_] from hz) with hz|hz
   ·exact h0.h i _ (A.AW hi) z hz
   ·rw[Zb.1 hz];exact Amh) fun u hu=>h0.u i _ (A.AW hi) u hu
def As.BS.B9 (h:A.BS)(hi:i<A.Au.length){s:Nat}{a:AO}(ha:A.heap s=some a){u:Un}{f:AO->AO}(hu:u.pos=s)(hk:u.kind=1->a.AL.AA=false)(h1:∀ a,(f a).sec=a.sec)(h2:∀ a,(f a).AL=a.AL):(A.B9 i s u f).A.BS/\(A.B9 i s u f).A.Au.length=A.Au.length:=by
 obtain⟨g1,g2,g3⟩:=h.hold hi ha;refine⟨As.BS.upd (A:=(A.hold i s).tx i (((A.hold i s).t i).CO u)) ?_ h1 h2,(As.BA _ i _).trans g2⟩;have hi':i<(A.hold i s).Au.length:=by rw[g2];exact hi
 refine g1.tx (fun z hz=>g1.h i _ (As.AW _ hi') z hz) fun v hv hk'=>?_
 rcases Qs.1 (show v ∈ ((A.hold i s).t i).Az++[u] from hv) with hv|hv
 ·exact g1.u i _ (As.AW _ hi') v hv hk'
 ·grind
def yf (A:As)(i s:Nat):(A.AH i s).1.Au.length=A.Au.length:=by
 unfold As.AH;split;rfl;split;rfl;split;rfl;exact A.BA i _
def sj {A:As}{i s:Nat}(he:¬(A.AH i s).2≠0):∃ a,A.heap s=some a:=by
 unfold As.AH at he;grind
def XW {A:As}{i s:Nat}(he:¬(A.Aq i s).2≠0):¬(A.AH i s).2≠0:=by
 unfold As.Aq at he;dsimp only at he;grind
structure HL (n:Nat)(A:As):Prop where
 BS:A.BS
 len:A.Au.length=n
def As.BS.read (h:A.BS)(s j:Nat):HL A.Au.length (A.Ce i s j).A:=by
 unfold As.Ce;split<;>exact⟨wn h i s,yf A i s⟩
def As.BS.get (h:A.BS)(s j:Nat):HL A.Au.length (A.CK i s j).A:=by
 unfold As.CK;split<;>exact⟨wn h i s,yf A i s⟩
def As.BS.load (h:A.BS)(s:Nat)(l:Bool):HL A.Au.length (A.BZ i s l).A:=by
 unfold As.BZ;(repeat' split)<;>exact⟨wn h i s,yf A i s⟩
def As.BS.write (h:A.BS) (hi:i<A.Au.length) (s j:Nat) (v:Int):HL A.Au.length (A.Bs i s j v).A:=by
 unfold As.Bs;have h1:HL A.Au.length (A.Aq i s).1:=⟨wn h i s,yf A i s⟩;split
 ·exact h1
 ·rename_i e
  split
  ·exact h1
  ·obtain⟨a,ha⟩:=sj (XW e)
   obtain⟨g1,g2⟩:=h1.BS.B9 (by rw[h1.len];exact hi) (a:=a) (by rw[yv];exact ha) (u:=⟨2,s,j,(A.heap.num s j).1⟩) (f:=fun a=>a.num j v) rfl (fun e=>by cases e) (fun _=>rfl) fun _=>rfl
   exact⟨g1,g2.trans h1.len⟩
def As.BS.put (h:A.BS) (hi:i<A.Au.length) (s j q:Nat):HL A.Au.length (A.CM i s j q).A:=by
 unfold As.CM;have h1:HL A.Au.length (A.Aq i s).1:=⟨wn h i s,yf A i s⟩;split
 ·exact h1
 ·rename_i e
  split
  ·exact h1
  ·obtain⟨a,ha⟩:=sj (XW e)
   have hw:=sq e;unfold Ag.wk at hw;rw[ha]at hw;obtain⟨g1,g2⟩:=h1.BS.B9 (by rw[h1.len];exact hi) (a:=a) (by rw[yv];exact ha) (u:=⟨1,s,j,(A.heap.ptr s j).1⟩) (f:=fun a=>a.ptr j q) rfl (fun _=>hw) (fun _=>rfl) fun _=>rfl
   exact⟨g1,g2.trans h1.len⟩
def As.BS.free (h:A.BS) (hi:i<A.Au.length) (s:Nat):HL A.Au.length (A.B4 i s).A:=by
 unfold As.B4;have h1:HL A.Au.length (A.AH i s).1:=⟨wn h i s,yf A i s⟩;split
 ·exact h1
 ·rename_i e
  obtain⟨a,ha⟩:=sj e;obtain⟨g1,g2⟩:=h1.BS.B9 (by rw[h1.len];exact hi) (a:=a) (by rw[ff];exact ha) (u:=⟨3,s,0,0⟩) (f:=fun a=>a.free true) rfl (fun e=>by cases e) (fun _=>rfl) fun _=>rfl
  exact⟨g1,g2.trans h1.len⟩
def As.BS.lay (h:A.BS) (hi:i<A.Au.length) (hn:A.heap (A.Bc+1)=none) (s:BQ) (ps:List Nat):HL A.Au.length (A.lay i s ps):=by
 refine⟨?_,A.BA i _⟩;have h0:As.BS (A.h fun x=>if x=A.Bc+1 then some ⟨s,false,2*i+1,ps,aa s.d 0⟩ else A.heap x):=by
  refine h.keep (fun z hz=>?_) (fun z a ha=>?_) rfl
  ·have:z≠A.Bc+1:=by rintro rfl;unfold Ag.sec at hz;rw[hn]at hz;cases hz
   unfold Ag.sec As.h;dsimp only;rw[if_neg this]
  ·have:z≠A.Bc+1:=by rintro rfl;rw[hn]at ha;cases ha
   exact⟨a,by show (if _ then _ else _)=_;rw[if_neg this];exact ha,rfl⟩
 have h1:=h0.tx (i:=i) (x:=(A.t i).holding (A.Bc+1) 0) (fun z hz=>by
  rcases Qs.1 (show z ∈ (A.t i).holds++[_] from hz) with hz|hz
  ·exact h0.h i _ (A.AW hi) z hz
  ·rw[Zb.1 hz];show Ag.sec (fun x=>if x=A.Bc+1 then _ else _) (A.Bc+1)=_;unfold Ag.sec;simp) fun u hu=>h0.u i _ (A.AW hi) u hu
 exact⟨h1.h,h1.u⟩
def As.BS.alloc (h:A.BS)(hi:i<A.Au.length)(hn:A.heap (A.Bc+1)=none)(s:BQ)(m:Bool):HL A.Au.length (A.AR i s m).A:=by
 unfold As.AR;split
 ·exact⟨h,rfl⟩
 ·exact h.lay hi hn _ _
def As.BS.AA (h:A.BS)(hi:i<A.Au.length)(hn:A.heap (A.Bc+1)=none)(q:Nat)(m:Bool):HL A.Au.length (A.BJ i q m).A:=by
 unfold As.BJ;split
 ·exact⟨h,rfl⟩
 ·split
  ·exact⟨h,rfl⟩
  ·exact h.lay hi hn _ _
def As.BS.meta (h:A.BS){A':As}(h1:A'.heap=A.heap)(h2:A'.Au=A.Au):A'.BS:=⟨by rw[h1,h2];exact h.h,by rw[h1,h2];exact h.u⟩
def As.BS.E6 (h:A.BS)(hi:i<A.Au.length){x:Dv}(h1:x.holds=(A.t i).holds)(h2:x.Az=(A.t i).Az):HL A.Au.length (A.tx i x):=
 ⟨h.tx (fun z hz=>h.h i _ (A.AW hi) z (by rw[<-h1];exact hz)) fun u hu=>h.u i _ (A.AW hi) u (by rw[<-h2];exact hu),A.BA i x⟩
def As.BS.take (h:A.BS)(hi:i<A.Au.length):HL A.Au.length (A.Bp i).A:=by
 unfold As.Bp;split
 ·exact⟨h,rfl⟩
 ·split
  ·exact⟨h.meta rfl rfl,rfl⟩
  ·split
   ·exact⟨h.meta rfl rfl,rfl⟩
   ·rename_i z l _ _
    exact As.BS.E6 (A:={ A with Aw:=i,queue:=l }) (h.meta rfl rfl) hi rfl rfl
def As.BS.off (h:A.BS){H:Ag}(h1:∀ z,A.heap.sec z%2=1->A.heap.sec z≠2*i+1->H.sec z=A.heap.sec z)(h2:∀ z a,A.heap z=some a->∃ a',H z=some a'/\a'.AL=a.AL){A':As}(ha:A'.heap=H)(ht:A'.Au=A.Au):HL A.Au.length (A'.tx i (A.t i).ended):=by
 refine⟨⟨fun j y hy z hz=>?_,fun j y hy u hu hk=>?_⟩,by rw[As.BA,ht]⟩
 ·rcases As.E7 A' i _ j hy with⟨rfl,rfl,_⟩|⟨hj,hy⟩
  ·cases hz
  ·rw[ht]at hy
   have:=h.h j y hy z hz;show A'.heap.sec z.1=_;rw[ha,h1 _ (by omega) (by omega)];exact this
 ·rcases As.E7 A' i _ j hy with⟨rfl,rfl,_⟩|⟨hj,hy⟩
  ·cases hu
  ·rw[ht]at hy
   obtain⟨a,h3,h4⟩:=h.u j y hy u hu hk;obtain⟨a',h5,h6⟩:=h2 _ _ h3;exact⟨a',by show A'.heap _=_;rw[ha];exact h5,by rw[h6];exact h4⟩
def XQ:∀ (zs:List (Nat×Nat))(A:Ag)(v s:Nat),(∀ z ∈ zs,z.1≠s)->(A.BP zs v).sec s=A.sec s
 | [],_,_,_,_=>rfl
 | z::zs,A,v,s,h=>(XQ zs _ v s fun y hy=>h y (.tail _ hy)).trans (fv s (.inl (Ne.symm (h z (.head _)))))
def Yd:∀ (zs:List (Nat×Nat)) (A:Ag) (v:Nat) (s:Nat) (a:AO),A s=some a->∃ a',(A.BP zs v) s=some a'/\a'.AL=a.AL
 | [],_,_,_,a,h=>⟨a,h,rfl⟩
 | z::zs,A,v,s,a,h=>by
  obtain⟨a',h1,h2⟩:=df (A:=A) (s:=z.1) (f:=fun a=>a.second (2*v)) (fun _=>rfl) s a h;obtain⟨a2,h3,h4⟩:=Yd zs _ v s a' h1;exact⟨a2,h3,h4.trans h2⟩
def XL:∀ (zs:List (Nat×Nat))(A:Ag)(s:Nat),(∀ z ∈ zs,z.1≠s)->(A.BU zs).sec s=A.sec s
 | [],_,_,_=>rfl
 | z::zs,A,s,h=>(XL zs _ s fun y hy=>h y (.tail _ hy)).trans (fv s (.inl (Ne.symm (h z (.head _)))))
def XU:∀ (zs:List (Nat×Nat)) (A:Ag) (s:Nat) (a:AO),A s=some a->∃ a',(A.BU zs) s=some a'/\a'.AL=a.AL
 | [],_,_,a,h=>⟨a,h,rfl⟩
 | z::zs,A,s,a,h=>by
  obtain⟨a',h1,h2⟩:=df (A:=A) (s:=z.1) (f:=fun a=>if z.2=0 then (a.second 0).free true else a.second (2*z.2)) (fun _=>by split<;>rfl) s a h
  obtain⟨a2,h3,h4⟩:=XU zs _ s a' h1;exact⟨a2,h3,h4.trans h2⟩
def qp0 (A:Ag)(u:Un)(s:Nat):(A.BH u).sec s=A.sec s:=by
 unfold Ag.BH;split
 ·exact fv s (.inr fun _=>rfl)
 ·split
  ·exact fv s (.inr fun _=>rfl)
  ·split
   ·exact fv s (.inr fun _=>rfl)
   ·rfl
def qqf (A:Ag)(u:Un)(s:Nat)(a:AO)(h:A s=some a):∃ a',(A.BH u) s=some a'/\a'.AL=a.AL:=by
 unfold Ag.BH;split
 ·exact df (f:=fun a=>a.ptr u.i u.old.toNat) (fun _=>rfl) s a h
 ·split
  ·exact df (f:=fun a=>a.num u.i u.old) (fun _=>rfl) s a h
  ·split
   ·exact df (f:=fun a=>a.free (decide (u.old≠0))) (fun _=>rfl) s a h
   ·grind
def Xs (A:Ag)(s:Nat):∀ us:List Un,(A.Bi us).sec s=A.sec s
 | []=>rfl
 | u::us=>(qp0 _ u s).trans (Xs A s us)
def WG (A:Ag)(s:Nat)(a:AO)(h:A s=some a):∀ us:List Un,∃ a',(A.Bi us) s=some a'/\a'.AL=a.AL
 | []=>⟨a,h,rfl⟩
 | u::us=>by
  obtain⟨a',h1,h2⟩:=WG A s a h us;obtain⟨a2,h3,h4⟩:=qqf _ u s a' h1;exact⟨a2,h3,h4.trans h2⟩
def As.BS.Nw (h:A.BS)(hi:i<A.Au.length){s:Nat}(h2:A.heap.sec s≠2*i+1):∀ z ∈ (A.t i).holds,z.1≠s:=by
 rintro z hz rfl;exact h2 (h.h i _ (A.AW hi) z hz)
def As.BS.abort (h:A.BS)(hi:i<A.Au.length):HL A.Au.length (A.abort i):=by
 refine h.off (H:=(A.heap.Bi (A.t i).Az).BU (A.t i).holds) (fun z h1 h2=>?_) (fun z a ha=>?_) ?_ ?_
 ·rw[XL _ _ _ (h.Nw hi h2),Xs]
 ·obtain⟨a',h1,h2⟩:=WG A.heap z a ha (A.t i).Az
  obtain⟨a2,h3,h4⟩:=XU (A.t i).holds _ z a' h1;grind
 ·unfold As.BO;split<;>rfl
 ·unfold As.BO;split<;>rfl
def As.BS.Bq (h:A.BS)(hi:i<A.Au.length):HL A.Au.length (A.AJ i).A:=by
 unfold As.AJ;split
 ·exact h.off (H:=A.heap) (fun _ _ _=>rfl) (fun z a ha=>⟨a,ha,rfl⟩) rfl rfl
 ·split
  ·exact⟨h,rfl⟩
  ·refine h.off (H:=A.heap.BP (A.t i).holds (A.now+1)) (fun z h1 h2=>XQ _ _ _ _ (h.Nw hi h2)) (fun z a ha=>Yd _ _ _ z a ha) ?_ ?_
   ·unfold As.tick;split<;>rfl
   ·unfold As.tick;split<;>rfl
def As.BS.begin (h:A.BS)(hi:i<A.Au.length):HL A.Au.length (A.AS i).1:=by
 unfold As.AS;split
 ·exact⟨h,rfl⟩
 ·split
  ·exact h.E6 hi rfl rfl
  ·exact⟨h,rfl⟩
def HL.fin {n:Nat}{r:Ck}(h:HL n r.A)(hi:i<n):HL n (r.fin i).A:=by
 unfold Ck.fin;split
 ·have:=h.BS.abort (i:=i) (by rw[h.len];exact hi);rw[h.len]at this;exact this
 ·grind
def HL.BW {r:Ck}(h0:A.BS)(h:HL A.Au.length r.A)(hi:i<A.Au.length):HL A.Au.length (A.AF i r).A:=by
 unfold As.AF;split
 ·exact h.fin hi
 ·exact⟨h0,rfl⟩
end
section
variable {S : Am} {L : Cx} {A : As} {i p k m : Nat}
def A9.lay (h:A9 S L A) (hi:i<S.Au.length) {s:BQ} (hs:s.ok) (hr:S.H.roomy s=true) (hf:Cj (S.t i) k m) (hk:k<m) :
  (S.Bm i s).2.2=0/\A9 (S.Bm i s).1 L (A.lay i s (aa s.p 0))/\Cj ((S.Bm i s).1.t i) (k+1) m/\(S.Bm i s).1.H.C (S.Bm i s).2.1/\(S.Bm i s).2.1≠0/\(S.Bm i s).1.H.sr (S.Bm i s).2.1=A.Bc+1/\A.Bc+1 ∉ L.l /\
  (∀ x,S.H.C x->(S.Bm i s).1.H.C x/\(S.Bm i s).1.H.sr x=S.H.sr x):=by
 obtain⟨g1,g2,g3,g4,g5⟩:=h.gc.lay hs hr;have ha:S.H.AR s=(S.H.lay s,S.H.top,0):=by unfold Hp.AR;rw[if_pos hr]
 have hmu:=hf.mu;have hh:=hf.h;have ht:=UB h.ok.H.ok;have h1:A9 (S.h (S.H.lay s)) L { A with heap:=yc A.heap (S.H.Ap+1) ⟨s,false,0,aa s.p 0,aa s.d 0⟩,Bc:=S.H.Ap+1 }:=
  h.heap (Am.J0 h.ok hs hr) g1 (fun x hx=>⟨g2.c x hx,g2.s x (CF.V hx)⟩) rfl rfl
 have hl:(S.h (S.H.lay s)).Ba i S.H.top 0=((S.h (S.H.lay s)).tx i (((S.h (S.H.lay s)).t i).holding S.H.top 0),true):=by
  unfold Am.Ba;rw[if_pos];unfold xa;simp only[ag,decide_eq_true_eq];refine⟨fun z hz e=>?_,by show (S.t i).log.holds.length<(S.t i).log.mu;omega⟩
  have:=h.GF hi z.1 (by unfold Tx.places Lg.roots;simp only[Qs,Qt];exact .inl (.inl (.inr ⟨z,hz,rfl⟩)))
  rw[e]at this;rcases this with h0|h0
  ·exact g4 h0
  ·exact h0 ht
 have e:S.Bm i s=(((S.h (S.H.lay s)).tx i (((S.h (S.H.lay s)).t i).holding S.H.top 0)).Eb i S.H.top,S.H.top,0):=by
  unfold Am.Bm;rw[ha,if_neg (by simp)]
  show (if (Am.Ba (S.h (S.H.lay s)) i S.H.top 0).2=true then ((Am.Ba (S.h (S.H.lay s)) i S.H.top 0).1.Eb i S.H.top,S.H.top,(0:Int)) else _)=_;rw[hl,if_pos rfl]
 rw[e];have h2:=h1.mark (i:=i) (p:=S.H.top) hi g3 (v:=0) (by omega) (by show (S.t i).log.holds.length<(S.t i).log.mu;omega)
 rw[show (S.h (S.H.lay s)).H.sr S.H.top=S.H.Ap+1 from g5]at h2;have hsm:=du (S.H.lay s) S.H.top (2*i+1);refine⟨rfl,?_,?_,(hsm.2 _).2 g3,g4,(hsm.1 _).trans (g5.trans (by rw[h.Bc])),fun hm=>by have:=h.gc.B3.ln _ hm;have:=h.Bc;omega,fun x hx=>⟨(hsm.2 x).2 (g2.c x hx),(hsm.1 x).trans (g2.s x (CF.V hx))⟩⟩
 ·have e2:A.lay i s (aa s.p 0)=(({ A with heap:=yc A.heap (S.H.Ap+1) ⟨s,false,0,aa s.p 0,aa s.d 0⟩,Bc:=S.H.Ap+1 }:As).tx i ((A.t i).holding (S.H.Ap+1) 0)).h ((yc A.heap (S.H.Ap+1) ⟨s,false,0,aa s.p 0,aa s.d 0⟩).upd (S.H.Ap+1) fun a=>a.second (2*i+1)):=by
   unfold As.lay As.h As.tx;rw[h.Bc];dsimp only;congr 1;funext x;unfold Ag.upd yc;by_cases e:x=S.H.Ap+1
   ·subst e;simp[AO.second]
   ·simp[e]
  rw[e2];exact h2
 ·show Cj ((Am.tx _ _ _).t i) _ _
  rw[Am.CZ (by exact hi)];exact Cj.holding hf _ _
def A9.alloc (h:A9 S L A)(hi:i<S.Au.length){s:BQ}(hs:s.ok)(hf:Cj (S.t i) k m)(hk:k<m):Fg (S.AR i s) L (A.AR i s (!S.H.roomy s)) i S.Au.length (k+1) m:=by
 unfold Am.AR As.AR;by_cases hr:S.H.roomy s=true
 ·obtain⟨g1,g2,g3,g4,g5,g6,g7,g8⟩:=h.lay hi hs hr hf hk
  rw[hr];exact⟨g2,fun _=>⟨_,rfl,g4,by show ((S.Bm i s).1.H.sr (S.Bm i s).2.1:Int)=_;rw[g6];rfl⟩,g1,g3,SL S i s⟩
 ·have e:S.Bm i s=(S,0,100):=by unfold Am.Bm Hp.AR;rw[if_neg hr];rfl
  rw[e,show (!S.H.roomy s)=true from by simp[hr]]
  exact⟨h,fun e=>(by cases e),rfl,hf.mono (by omega),rfl⟩
def A9.AA (h:A9 S L A)(hi:i<S.Au.length){q:Nat}(hq:S.H.C q)(hf:Cj (S.t i) k m)(hk:k<m):Fg (S.BJ i q) L (A.BJ i (S.H.sr q) (!S.H.roomy C1)) i S.Au.length (k+1) m:=by
 unfold Am.BJ As.BJ;by_cases e:q=0
 ·subst e;rw[h.gc.GO,if_pos rfl,if_pos rfl];exact⟨h,fun e=>(by cases e),rfl,hf.mono (by omega),rfl⟩
 ·rw[if_neg e,if_neg (fun e'=>e ((h.gc.Vg hq).1 e')),if_neg (hq.resolve_left e)]
  by_cases hr:S.H.roomy C1=true
  ·obtain⟨g1,g2,g3,g4,g5,g6,g7,g8⟩:=h.lay hi Te hr hf hk
   rw[if_neg (by rw[g1];simp),hr]
   have h3:=g2.FW (p:=(S.Bm i C1).2.1) g4 0 (q:=q) (g8 q hq).1 (by rw[g6];exact g7)
   have hsm:=Ya (S.Bm i C1).1.H (S.Bm i C1).2.1 0 q;refine⟨?_,fun _=>⟨_,rfl,(hsm.2 _).2 g4,?_⟩,rfl,g3,SL S i C1⟩
   ·rw[g6,(g8 q hq).2]at h3
    have e2:(A.lay i C1 (aa C1.p 0)).h ((A.lay i C1 (aa C1.p 0)).heap.upd (A.Bc+1) fun a=>a.ptr 0 (S.H.sr q))=A.lay i C1 [S.H.sr q]:=by
     unfold As.lay As.h As.tx;dsimp only;congr 1;funext x;unfold Ag.upd;by_cases e:x=A.Bc+1
     ·subst e;simp[AO.ptr,C1]
     ·simp[e]
    grind
   ·show (((S.Bm i C1).1.H.Bj (S.Bm i C1).2.1 0 q).1.sr (S.Bm i C1).2.1:Int)=_
    rw[hsm.1,g6];rfl
  ·have e:S.Bm i C1=(S,0,100):=by unfold Am.Bm Hp.AR;rw[if_neg hr];rfl
   rw[e,show (!S.H.roomy C1)=true from by simp[hr]]
   exact⟨h,fun e=>(by cases e),rfl,hf.mono (by omega),rfl⟩
def Cj.keep {x:Tx}(h:Cj x k m)(p:Nat):Cj (x.keep p) (k+1) m:=
 ⟨Qu h.r,by have:=Wd x.log.keeps p x.log.mr;have:=h.kp;show (wv x.log.keeps p x.log.mr).length<=_;omega,Qu h.h,Qu h.u,h.mr,h.mu⟩
def qkp {x:Tx}{P:Nat->Prop}(hx:∀ q ∈ x.places,P q)(hp:P p):∀ q ∈ (x.keep p).places,P q:=by
 intro q hq;unfold Tx.places Lg.roots at hq hx;simp only[Qs]at hq hx;rcases hq with (((hq|hq)|hq)|hq)|hq
 ·exact hx q (.inl (.inl (.inl (.inl hq))))
 ·rcases Xy (show q ∈ wv x.log.keeps p x.log.mr from hq) with h1|rfl
  ·grind
  ·exact hp
 ·exact hx q (.inl (.inl (.inr hq)))
 ·exact hx q (.inl (.inr hq))
 ·exact hx q (.inr hq)
def As.Na (A:As){i:Nat}(hi:i<A.Au.length):A.tx i (A.t i)=A:=by
 unfold As.tx;rw[show A.Au.set i (A.t i)=A.Au from ?_];refine aQ fun n=>?_
 by_cases e:i=n
 ·subst e;rw[Qr,if_pos rfl,if_pos hi,A.AW hi]
 ·grind
def A9.load (h:A9 S L A) (hi:i<S.Au.length) (hp:S.H.C p) (hf:Cj (S.t i) k m) (hk:k+1<m):Fg (S.BZ i p) L (A.BZ i (S.H.sr p) (decide (S.H.sr p ∈ L.l))) i S.Au.length (k+2) m:=by
 obtain⟨h1,h2,h3⟩:=h.look hi hp hf (by omega)
 unfold Am.BZ As.BZ;rw[<-h2];by_cases e:(S.AH i p).2.1≠0
 ·rw[if_pos e,if_pos e];exact⟨h1.Cz,fun e0=>absurd e0 e,rfl,h1.Dh.mono (by omega),h1.len⟩
 ·rw[if_neg e,if_neg e,h3 (by simpa using e)]
  by_cases hw:A.heap.wk (S.H.sr p)=false
  ·rw[if_pos hw,if_pos hw];exact⟨h1.Cz,fun e0=>(by cases e0),rfl,h1.Dh.mono (by omega),h1.len⟩
  ·rw[if_neg hw,if_neg hw]
   have hp0:=h.nz hi hp (by simpa using e)
   have h0:=h1.hh;obtain⟨q1,q2,q3,q4,q5,q6⟩:=h1.Cz.ptr (p:=p) (by rw[h0];exact hp) hp0 0
   rw[ff,h0]at q4;rw[h0]at q1 q2 q5 ⊢;by_cases hL:S.H.sr p ∈ L.l
   ·obtain⟨k1,k2⟩:=q5 hL rfl
    rw[if_neg (by rw[k1];simp),decide_eq_true hL,if_pos rfl,k2]
    unfold Am.Df;rw[if_pos rfl];exact⟨q1,fun _=>⟨0,rfl,.inl rfl,by rw[q1.gc.GO];rfl⟩,rfl,h1.Dh.mono (by omega),h1.len⟩
   ·obtain⟨k1,k2⟩:=q4 hL
    rw[decide_eq_false hL,if_neg (show ¬(false=true) from Bool.false_ne_true)];by_cases e3:(S.H.AY p 0).2.2≠0
    ·rw[if_pos e3]
     exact⟨q1,fun e0=>absurd (by simpa using e0) e3,k1,h1.Dh.mono (by omega),h1.len⟩
    ·rw[if_neg e3]
     obtain⟨k3,k4⟩:=k2 (by simpa using e3)
     unfold Am.Df;have hke:((((S.AH i p).1.h (S.H.AY p 0).1).t i).log.keeps.length)<(((S.AH i p).1.h (S.H.AY p 0).1).t i).log.mr:=by
      show ((S.AH i p).1.t i).log.keeps.length<((S.AH i p).1.t i).log.mr;have:=h1.Dh.kp;have:=h1.Dh.mr;omega
     have he0:(A.heap.ptr (S.H.sr p) 0).2=0:=by rw[<-k1];simpa using e3
     by_cases hz:(S.H.AY p 0).2.1=0
     ·rw[if_pos hz]
      refine⟨q1,fun _=>⟨0,rfl,.inl rfl,?_⟩,he0.symm,h1.Dh.mono (by omega),h1.len⟩
      rw[hz]at k4;exact congrArg bH k4
     ·rw[if_neg hz,if_pos (WU hke)]
      have hi':i<((S.AH i p).1.h (S.H.AY p 0).1).Au.length:=by show i<(S.AH i p).1.Au.length;rw[h1.len];exact hi
      have h5:=q1.E6 (i:=i) (x:=(((S.AH i p).1.h (S.H.AY p 0).1).t i).keep (S.H.AY p 0).2.1) (Am.Gb q1.ok hi' _) (qkp (q1.GF hi') k3);have e5:((((S.AH i p).1.h (S.H.AY p 0).1).t i).keep (S.H.AY p 0).2.1).ab ((S.AH i p).1.h (S.H.AY p 0).1).H.sr=(A.AH i (S.H.sr p)).1.t i:=(q1.at hi').symm;rw[e5,As.Na _ (by rw[yf,h.len];exact hi)]at h5
      exact⟨h5,fun _=>⟨_,rfl,k3,congrArg bH k4⟩,he0.symm,by show Cj (Am.t (Am.tx _ _ _) i) _ _;rw[Am.CZ hi'];exact h1.Dh.keep _,by show (Am.tx _ _ _).Au.length=_;rw[Am.BA];exact h1.len⟩
end
section
variable {S : Am} {L : Cx} {A : As} {i p k m : Nat}
def A9.meta (h:A9 S L A){S':Am}{A':As}(hok:S'.ok)(hH:S'.H=S.H)(h1:A'.heap=A.heap)(h2:A'.Bc=A.Bc)(hz:A'.sz=A.sz)(hn:A'.now=S'.now)(hm:A'.most=S'.most)(hx:A'.next=S'.next)(ho:A'.Aw=S'.Aw)(hv:A'.version=S'.version)
  (ht:A'.Au=S'.Au.map (Tx.ab S.H.sr))(hq:A'.queue=CR S.H.sr S'.queue)(hp:∀ p ∈ S'.places [],S.H.C p):A9 S' L A':=
 ⟨hok,by rw[hH,h1];exact h.gc,by rw[hH,h2];exact h.Bc,hn,hm,hx,ho,hv,by rw[hH];exact ht,by rw[hH];exact hq,by rw[hH];exact hp,by rw[hH];exact h.ex,by rw[hH];exact h.ey,by rw[hz,hH];exact h.sz⟩
def Bg {S:Am}{p:Nat}:p ∈ S.places []↔(∃ z ∈ S.queue,z.1=p)\/∃ x ∈ S.Au,p ∈ x.places:=by
 unfold Am.places;simp only[aW,Qs,Qt,ai]
def qfv {x:Tx}{P:Nat->Prop}{z:Nat×Nat}(hx:∀ q ∈ x.places,P q)(hp:P z.1):∀ q ∈ (x.BF z).places,P q:=by
 intro q hq;unfold Tx.places Tx.BF at hq;simp only[Qw,Qs,aI,List.map_nil,Zb]at hq;rcases hq with hq|hq|rfl
 ·exact hx q (Qs.2 (.inl hq))
 ·exact hx q (Qs.2 (.inr hq))
 ·exact hp
def A9.take (h:A9 S L A)(hi:i<S.Au.length)(hf:Cj (S.t i) k m):Fg (S.Bp i) L (A.Bp i) i S.Au.length (k+1) m:=by
 have hok:=(fy h.ok hi).1;have e1:A.t i=(S.t i).ab S.H.sr:=h.at hi;have hc:(A.Aw≠-1/\A.Aw≠(i:Int)\/(A.t i).start<A.version)=(S.Aw≠-1/\S.Aw≠(i:Int)\/(S.t i).start<S.version):=by rw[h.ho,h.EO,e1];rfl
 by_cases e:S.Aw≠-1/\S.Aw≠(i:Int)\/(S.t i).start<S.version
 ·unfold Am.Bp As.Bp
  rw[if_pos e,if_pos (by rw[hc];exact e)]
  exact⟨h,fun e=>(by cases e),rfl,hf.mono (by omega),rfl⟩
 ·have e':¬(A.Aw≠-1/\A.Aw≠(i:Int)\/(A.t i).start<A.version):=by rw[hc];exact e
  have hnil:∀ (hok:({ S with Aw:=(i:Int) }:Am).ok),Fg ⟨{ S with Aw:=i },0,0⟩ L ⟨{ A with Aw:=i },0,0⟩ i S.Au.length (k+1) m:=fun hok =>
   ⟨h.meta (S':={ S with Aw:=i }) hok rfl rfl rfl rfl h.now h.most h.next rfl h.EO h.tx h.qu h.pl,fun _=>⟨0,rfl,.inl rfl,by rw[show ({ S with Aw:=(i:Int) }:Am).H.sr 0=S.H.sr 0 from rfl,h.gc.GO];rfl⟩,rfl,hf.mono (by omega),rfl⟩
  cases hq:S.queue with
  | nil =>
   have e2:S.Bp i=⟨{ S with Aw:=i },0,0⟩:=by unfold Am.Bp;rw[if_neg e,hq]
   have e3:A.Bp i=⟨{ A with Aw:=i },0,0⟩:=by unfold As.Bp;rw[if_neg e',show A.queue=[] from by rw[h.qu,hq];rfl]
   rw[e2]at hok ⊢;rw[e3];exact hnil hok
  | cons z l =>
   have hqA:A.queue=(S.H.sr z.1,z.2)::CR S.H.sr l:=by rw[h.qu,hq];rfl
   have hse:(A.t i).seen=(S.t i).seen:=by rw[e1];rfl
   by_cases e4:(S.t i).seen<=z.2
   ·have e2:S.Bp i=⟨{ S with Aw:=i },0,0⟩:=by unfold Am.Bp;rw[if_neg e,hq];dsimp only;rw[if_pos e4]
    have e3:A.Bp i=⟨{ A with Aw:=i },0,0⟩:=by unfold As.Bp;rw[if_neg e',hqA];dsimp only;rw[hse,if_pos e4]
    rw[e2]at hok ⊢;rw[e3];exact hnil hok
   ·have e2:S.Bp i=⟨({ S with Aw:=i,queue:=l }:Am).tx i ((S.t i).BF z),z.1,0⟩:=by unfold Am.Bp;rw[if_neg e,hq];dsimp only;rw[if_neg e4]
    have e3:A.Bp i=⟨({ A with Aw:=i,queue:=CR S.H.sr l }:As).tx i ((A.t i).BF (S.H.sr z.1,z.2)),S.H.sr z.1,0⟩:=by unfold As.Bp;rw[if_neg e',hqA];dsimp only;rw[hse,if_neg e4]
    rw[e2]at hok ⊢;rw[e3];have hz:S.H.C z.1:=h.MK (z:=z) (by rw[hq];exact .head _)
    have e5:((S.t i).BF z).ab S.H.sr=(A.t i).BF (S.H.sr z.1,z.2):=by rw[e1];unfold Tx.ab Tx.BF Dv.BF CR;simp
    refine⟨h.meta (S':=({ S with Aw:=i,queue:=l }:Am).tx i ((S.t i).BF z)) hok rfl rfl rfl rfl h.now h.most h.next rfl h.EO ?_ rfl fun q hq'=>?_,fun _=>⟨z.1,rfl,hz,rfl⟩,rfl,?_,Am.BA _ _ _⟩
    ·show A.Au.set i _=(S.Au.set i _).map _
     rw[h.tx,aD,e5]
    ·rcases Bg.1 hq' with ⟨y,hy,rfl⟩|⟨x,hx,hx2⟩
     ·exact h.MK (by rw[hq];exact .tail _ hy)
     ·rcases af (show x ∈ S.Au.set i _ from hx) with h3|rfl
      ·exact h.pl q (Bg.2 (.inr ⟨x,h3,hx2⟩))
      ·exact qfv (h.GF hi) hz q hx2
    ·show Cj ((Am.tx _ _ _).t i) _ _
     rw[Am.CZ (by exact hi)];exact⟨Qu hf.r,Qu hf.kp,Qu hf.h,Qu hf.u,hf.mr,hf.mu⟩
def A9.BP:∀ (zs:List (Nat×Nat)) {S:Am} {A:As} (_:A9 S L A) (_:∀ z ∈ zs,S.H.C z.1) {v:Nat} (_:v<=1099511627776),A9 (S.h (S.H.BP zs v)) L (A.h (A.heap.BP (CR S.H.sr zs) v))/\(∀ x,(S.H.BP zs v).sr x=S.H.sr x)/\∀ x,(S.H.BP zs v).C x↔S.H.C x
 | [],_,_,h,_,_,_=>⟨h,fun _=>rfl,fun _=>Iff.rfl⟩
 | z::zs,S,A,h,hz,v,hv=>by
  have h1:=h.second (p:=z.1) (hz z (.head _)) (v:=2*v) (by omega) (fun h=>by omega)
  have hs:=du S.H z.1 (2*v);obtain⟨g1,g2,g3⟩:=A9.BP zs h1 (fun y hy=>(hs.2 _).2 (hz y (.tail _ hy))) hv;have e:CR (S.h (S.H.AM z.1 (2*v)).1).H.sr zs=CR S.H.sr zs:=xi fun y _=>hs.1 _;rw[e]at g1;exact⟨g1,fun x=>(g2 x).trans (hs.1 x),fun x=>(g3 x).trans (hs.2 x)⟩
def A9.BU:∀ (zs:List (Nat×Nat)){S:Am}{A:As}(_:A9 S L A)(_:∀ z ∈ zs,S.H.C z.1/\z.2<=1099511627776),A9 (S.h (S.H.BU zs)) L (A.h (A.heap.BU (CR S.H.sr zs)))/\(∀ x,(S.H.BU zs).sr x=S.H.sr x)/\∀ x,(S.H.BU zs).C x↔S.H.C x
 | [],_,_,h,_=>⟨h,fun _=>rfl,fun _=>Iff.rfl⟩
 | z::zs,S,A,h,hz=>by
  obtain⟨hz1,hz2⟩:=hz z (.head _);have h1:=h.second (p:=z.1) hz1 (v:=2*z.2) (by omega) (fun h=>by omega)
  have hs:=du S.H z.1 (2*z.2);have key:A9 (S.h (S.H.Dl z)) L (A.h (A.heap.Dl (S.H.sr z.1,z.2)))/\(∀ x,(S.H.Dl z).sr x=S.H.sr x)/\∀ x,(S.H.Dl z).C x↔S.H.C x:=by
   unfold Hp.Dl Ag.Dl;by_cases e:z.2=0
   ·rw[if_pos e]
    have h2:=h1.B5 (p:=z.1) ((hs.2 _).2 hz1) true;have hf:=Wi (S.H.AM z.1 (2*z.2)).1 z.1 true;refine⟨?_,fun x=>(hf.1 x).trans (hs.1 x),fun x=>(hf.2 x).trans (hs.2 x)⟩;rw[show (S.h (S.H.AM z.1 (2*z.2)).1).H.sr z.1=S.H.sr z.1 from hs.1 _]at h2;have e2:(A.heap.upd (S.H.sr z.1) fun a=>if z.2=0 then (a.second 0).free true else a.second (2*z.2))=((A.heap.upd (S.H.sr z.1) fun a=>a.second (2*z.2)).upd (S.H.sr z.1) fun a=>a.free true):=by
     funext x;unfold Ag.upd;by_cases e3:x=S.H.sr z.1
     ·subst e3;rw[if_pos rfl,if_pos rfl,if_pos rfl,e];cases A.heap (S.H.sr z.1)<;>rfl
     ·grind
    dsimp only;rw[e2];exact h2
   ·grind
  obtain⟨k1,k2,k3⟩:=key;obtain⟨g1,g2,g3⟩:=A9.BU zs k1 (fun y hy=>⟨(k3 _).2 (hz y (.tail _ hy)).1,(hz y (.tail _ hy)).2⟩);have e:CR (S.h (S.H.Dl z)).H.sr zs=CR S.H.sr zs:=xi fun y _=>k2 _;rw[e]at g1;exact⟨g1,fun x=>(g2 x).trans (k2 x),fun x=>(g3 x).trans (k3 x)⟩
def A9.BH (h:A9 S L A){u:Un}(hu:∀ q ∈ u.places,S.H.C q)(h1:-9223372036854775808<=u.old/\u.old<=9223372036854775807)(hL:u.kind=1->S.H.sr u.pos ∉ L.l) :
  A9 (S.h (S.H.BH u)) L (A.h (A.heap.BH (u.at' S.H.sr)))/\(∀ x,(S.H.BH u).sr x=S.H.sr x)/\∀ x,(S.H.BH u).C x↔S.H.C x:=by
 have hp:S.H.C u.pos:=hu _ (by unfold Un.places;split<;>simp)
 unfold Hp.BH Ag.BH Un.at';by_cases e:u.kind=1
 ·rw[if_pos e,if_pos e,if_pos e]
  have hq:S.H.C u.old.toNat:=hu _ (by unfold Un.places;rw[if_pos e];simp)
  exact⟨h.FW hp u.i hq (hL e),Ya _ _ _ _⟩
 ·rw[if_neg e,if_neg e,if_neg e]
  by_cases e2:u.kind=2
  ·rw[if_pos e2,if_pos e2]
   exact⟨h.KA hp u.i h1,JV _ _ _ _⟩
  ·rw[if_neg e2,if_neg e2]
   by_cases e3:u.kind=3
   ·rw[if_pos e3,if_pos e3]
    exact⟨h.B5 hp _,Wi _ _ _⟩
   ·rw[if_neg e3,if_neg e3];exact⟨h,fun _=>rfl,fun _=>Iff.rfl⟩
def A9.Bi (h:A9 S L A):∀ (us:List Un)(_:∀ u ∈ us,(∀ q ∈ u.places,S.H.C q)/\(-9223372036854775808<=u.old/\u.old<=9223372036854775807)/\(u.kind=1->S.H.sr u.pos ∉ L.l)),
  A9 (S.h (S.H.Bi us)) L (A.h (A.heap.Bi (us.map (Un.at' S.H.sr))))/\(∀ x,(S.H.Bi us).sr x=S.H.sr x)/\∀ x,(S.H.Bi us).C x↔S.H.C x
 | [],_=>⟨h,fun _=>rfl,fun _=>Iff.rfl⟩
 | u::us,hu=>by
  obtain⟨g1,g2,g3⟩:=A9.Bi h us fun v hv=>hu v (.tail _ hv);obtain⟨h1,h2,h3⟩:=hu u (.head _);obtain⟨k1,k2,k3⟩:=g1.BH (u:=u) (fun q hq=>(g3 q).2 (h1 q hq)) h2 (fun e=>by rw[show (S.h (S.H.Bi us)).H.sr u.pos=S.H.sr u.pos from g2 _];exact h3 e)
  have e:u.at' (S.h (S.H.Bi us)).H.sr=u.at' S.H.sr:=Un.BN fun q _=>g2 q;rw[e]at k1;exact⟨k1,fun x=>(k2 x).trans (g2 x),fun x=>(k3 x).trans (g3 x)⟩
def Tx.Es (g:Nat->Nat)(x:Tx):x.ended.ab g=(x.ab g).ended:=rfl
def de (x:Tx):x.ended.places=[]:=rfl
def A9.abort (h:A9 S L A) (hh:A.BS) (hi:i<S.Au.length) (hf:Cj (S.t i) k m):A9 (S.abort i) L (A.abort i)/\Cj ((S.abort i).t i) 0 m/\(S.abort i).Au.length=S.Au.length:=by
 have hok:=Am.D6 h.ok hi;have hfit:=h.ok.Ew hi;obtain⟨g1,g2,g3⟩:=h.Bi (S.t i).log.Az fun u hu=>⟨fun q hq=>h.GF hi q (by unfold Tx.places Lg.roots;simp only[Qs,ai];exact .inl (.inr ⟨u,hu,hq⟩)),hfit.un u hu,fun e=>by
  obtain⟨a,h1,h2⟩:=hh.u i _ (by rw[h.tx,Qj,Am.AW hi];rfl) (u.at' S.H.sr) (Qt.2 ⟨u,hu,rfl⟩) (by unfold Un.at';rw[if_pos e];exact e)
  unfold Un.at' at h1;rw[if_pos e]at h1;exact Mz h (by unfold Ag.wk;rw[h1];exact h2) ⟨a,h1⟩⟩
 obtain⟨k1,k2,k3⟩:=A9.BU (S.t i).log.holds g1 fun z hz=>⟨(g3 _).2 (h.GF hi _ (by unfold Tx.places Lg.roots;simp only[Qs,Qt];exact .inl (.inl (.inr ⟨z,hz,rfl⟩)))),hfit.hv z hz⟩
 rw[xi (g:=(S.h (S.H.Bi (S.t i).log.Az)).H.sr) (g':=S.H.sr) fun z _=>g2 _]at k1
 have dU:∀ x,(((S.H.Bi (S.t i).log.Az).BU (S.t i).log.holds)).sr x=S.H.sr x:=fun x=>(k2 x).trans (g2 x)
 have hC:∀ x,(((S.H.Bi (S.t i).log.Az).BU (S.t i).log.holds)).C x↔S.H.C x:=fun x=>(k3 x).trans (g3 x)
 have e1:A.t i=(S.t i).ab S.H.sr:=h.at hi;have e2:(A.heap.Bi ((S.t i).log.Az.map (Un.at' S.H.sr))).BU (CR S.H.sr (S.t i).log.holds)=(A.heap.Bi (A.t i).Az).BU (A.t i).holds:=by rw[e1];rfl
 have k1':A9 (S.h ((S.H.Bi (S.t i).log.Az).BU (S.t i).log.holds)) L (A.h ((A.heap.Bi (A.t i).Az).BU (A.t i).holds)):=by rw[<-e2];exact k1
 have sK:(S.h ((S.H.Bi (S.t i).log.Az).BU (S.t i).log.holds)).H.sr=S.H.sr:=funext dU;refine⟨?_,?_,?_⟩
 ·unfold Am.abort As.abort at *
  have ht:(A.Au.set i (A.t i).ended)=(S.Au.set i (S.t i).ended).map (Tx.ab S.H.sr):=by rw[h.tx,aD,e1,Tx.Es]
  have hpl:∀ (q:List (Nat×Nat)),(∀ z ∈ q,S.H.C z.1)->∀ p,((∃ z ∈ q,z.1=p)\/∃ x ∈ S.Au.set i (S.t i).ended,p ∈ x.places)->(S.h ((S.H.Bi (S.t i).log.Az).BU (S.t i).log.holds)).H.C p:=by
   intro q hq p hp;refine (hC p).2 ?_;rcases hp with ⟨z,hz,rfl⟩|⟨x,hx,hp⟩
   ·exact hq z hz
   ·rcases af hx with h3|rfl
    ·exact h.pl p (Bg.2 (.inr ⟨x,h3,hp⟩))
    ·rw[de]at hp;cases hp
  unfold Am.BO As.BO at *;rw[show (A.h ((A.heap.Bi (A.t i).Az).BU (A.t i).holds)).Aw=S.Aw from h.ho];by_cases e:S.Aw=(i:Int)
  ·rw[if_pos (show (S.h ((S.H.Bi (S.t i).log.Az).BU (S.t i).log.holds)).Aw=(i:Int) from e)]at hok ⊢
   rw[if_pos e];refine k1'.meta hok rfl rfl rfl rfl h.now h.most h.next rfl h.EO (by rw[sK];exact ht) ?_ fun p hp=>hpl _ (fun z hz=>?_) p (Bg.1 hp)
   ·show (A.t i).A0++A.queue=CR _ ((S.t i).A0++S.queue)
    rw[sK,e1,h.qu];unfold CR;rw[Qw];rfl
   ·rcases Qs.1 (show z ∈ (S.t i).A0++S.queue from hz) with h3|h3
    ·exact h.GF hi _ (by unfold Tx.places;simp only[Qs,Qt];exact .inr ⟨z,h3,rfl⟩)
    ·exact h.MK h3
  ·rw[if_neg (show ¬(S.h ((S.H.Bi (S.t i).log.Az).BU (S.t i).log.holds)).Aw=(i:Int) from e)]at hok ⊢
   rw[if_neg e];refine k1'.meta hok rfl rfl rfl rfl h.now h.most h.next h.ho h.EO (by rw[sK];exact ht) (by rw[sK];exact h.qu) fun p hp=>hpl _ (fun z hz=>h.MK hz) p (Bg.1 hp)
 ·unfold Am.abort
  rw[Am.CZ (by unfold Am.BO;split<;>exact hi)];exact hf.ended
 ·unfold Am.abort
  rw[Am.BA];unfold Am.BO;split<;>rfl
def Wz {α:Type}{f g:α->Bool}:∀ {l:List α},(∀ x ∈ l,f x=g x)->l.any f=l.any g
 | [],_=>rfl
 | x::l,h=>by rw[aZ,aZ,h x (.head _),Wz fun y hy=>h y (.tail _ hy)]
def A9.Bu (h:A9 S L A)(hi:i<S.Au.length):A.Bu i=S.Bu i:=by
 unfold As.Bu Am.Bu;rw[h.at hi];show ((S.t i).log.reads.map S.H.sr).any _=_;rw[List.any_map];refine Wz fun p hp=>?_
 show we i (S.t i).start _=_;rw[h.sec (h.GF hi p (by unfold Tx.places Lg.roots;simp[hp]))]
def A9.Bq (h : A9 S L A) (hi : i < S.Au.length) (hl : (S.t i).live = true) (hf : Cj (S.t i) k m) : Fa (S.AJ i) L (A.AJ i) i S.Au.length k m := by
  have hok := (gy h.ok hi hl).1
  have e1 : A.t i = (S.t i).ab S.H.sr := h.at hi
  have hend : Cj (S.t i).ended k m := hf.ended.mono (by omega)
  by_cases e : (S.t i).log.holds = [] /\ S.Aw ≠ (i : Int)
  · have e2 : S.AJ i = ⟨S.tx i (S.t i).ended, 0, 0⟩ := by unfold Am.AJ; rw [if_pos e]
    have e3 : A.AJ i = ⟨A.tx i (A.t i).ended, 0, 0⟩ := by unfold As.AJ; rw [if_pos ⟨by rw [e1]; show CR _ _ = _; rw [e.1]; rfl, by rw [h.ho]; exact e.2⟩]
    rw [e2] at hok ⊢; rw [e3]
    have := h.E6 (i := i) (x := (S.t i).ended) hok (fun p hp => by rw [de] at hp; cases hp)
    rw [Tx.Es, <- e1] at this
    exact ⟨this, rfl, rfl, by show Cj ((Am.tx _ _ _).t i) _ _; rw [Am.CZ hi]; exact hend, Am.BA _ _ _⟩
  · have eA : ¬ ((A.t i).holds = [] /\ A.Aw ≠ (i : Int)) := fun hc=>e ⟨by have:CR S.H.sr (S.t i).log.holds=[]:=(by rw[e1]at hc;exact hc.1);simpa[CR] using this, by rw [<- h.ho]; exact hc.2⟩
    by_cases e4 : S.Bu i = true
    · have e2 : S.AJ i = ⟨S, 0, 141⟩ := by unfold Am.AJ; rw [if_neg e, if_pos e4]
      have e3 : A.AJ i = ⟨A, 0, 141⟩ := by unfold As.AJ; rw [if_neg eA, h.Bu hi, if_pos e4]
      rw [e2, e3]; exact ⟨h, rfl, rfl, hf, rfl⟩
    · have e2 : S.AJ i = ⟨(S.Br i).tx i (S.t i).ended, (S.now : Int) + 1, 0⟩ := by unfold Am.AJ; rw [if_neg e, if_neg e4]
      have e3 : A.AJ i = ⟨(A.tick i).tx i (A.t i).ended, (A.now : Int) + 1, 0⟩ := by unfold As.AJ; rw [if_neg eA, h.Bu hi, if_neg e4]
      rw [e2] at hok ⊢; rw [e3]
      have h1 := h.ok.n1
      have h2 := h.ok.n2
      have hlv := h.ok.lv
      have hpos : S.now + 1 <= 1099511627776 := by
        have : 0 < jj S.Au := by
          unfold jj
          exact List.length_pos_of_mem (aN.2 ⟨Qe (Am.AW hi), hl⟩)
        omega
      obtain ⟨g1, g2, g3⟩ := A9.BP (S.t i).log.holds h (fun z hz => h.GF hi _ (by unfold Tx.places Lg.roots; simp only [Qs, Qt]; exact .inl (.inl (.inr ⟨z, hz, rfl⟩)))) hpos
      have dU : (S.h (S.H.BP (S.t i).log.holds (S.now + 1))).H.sr = S.H.sr := funext g2
      have e5 : (A.tick i).heap = A.heap.BP (CR S.H.sr (S.t i).log.holds) (S.now + 1) := by
        unfold As.tick; rw [h.now, e1]; split <;> rfl
      have e6 : (S.Br i).H = S.H.BP (S.t i).log.holds (S.now + 1) := by unfold Am.Br; split <;> rfl
      refine ⟨g1.meta hok (by show (S.Br i).H = _; rw [e6]; rfl) (by show (A.tick i).heap = _; rw [e5]; rfl) ?_ ?_ ?_ ?_ ?_ ?_ ?_ ?_ ?_ fun p hp => ?_, by show ((S.now : Int) + 1) = (A.now : Int) + 1; rw [h.now], rfl, ?_, ?_⟩
      · unfold As.tick As.tx; split <;> rfl
      · unfold As.tick As.tx; split <;> rfl
      · show (A.tick i).now = (S.Br i).now
        unfold As.tick Am.Br; rw [h.ho, h.now]; split <;> rfl
      · show (A.tick i).most = (S.Br i).most
        unfold As.tick Am.Br; rw [h.ho]; split <;> exact h.most
      · show (A.tick i).next = (S.Br i).next
        unfold As.tick Am.Br; rw [h.ho]; split <;> exact h.next
      · show (A.tick i).Aw = (S.Br i).Aw
        unfold As.tick Am.Br; rw [h.ho]; split <;> rfl
      · show (A.tick i).version = (S.Br i).version
        unfold As.tick Am.Br; rw [h.ho, h.now]; split
        · rfl
        · exact h.EO
      · rw [dU]
        show (A.tick i).Au.set i _ = ((S.Br i).Au.set i _).map _
        rw [aD, Tx.Es, <- e1]
        unfold As.tick Am.Br; rw [h.ho]; split <;> (show A.Au.set _ _ = (S.Au.map _).set _ _; rw [h.tx])
      · rw [dU]
        show (A.tick i).queue = CR _ (S.Br i).queue
        unfold As.tick Am.Br; rw [h.ho]; split <;> exact h.qu
      · refine (g3 p).2 ?_
        have e7 : (S.Br i).queue = S.queue /\ (S.Br i).Au = S.Au := by unfold Am.Br; split <;> exact ⟨rfl, rfl⟩
        rcases Bg.1 hp with ⟨z, hz, rfl⟩ | ⟨x, hx, hp⟩
        · exact h.MK (by rw [<- e7.1]; exact hz)
        · rcases af (show x ∈ (S.Br i).Au.set i _ from hx) with h3 | rfl
          · exact h.pl p (Bg.2 (.inr ⟨x, by rw [<- e7.2]; exact h3, hp⟩))
          · rw [de] at hp; cases hp
      · show Cj ((Am.tx _ _ _).t i) _ _
        rw [Am.CZ (by unfold Am.Br; split <;> exact hi)]; exact hend
      · show (Am.tx _ _ _).Au.length = _
        rw [Am.BA]; unfold Am.Br; split <;> rfl
def qp3 (g:Nat->Nat)(l:List Tx):F7 (l.map (Tx.ab g))=jj l:=by
 unfold F7 jj;rw[List.filter_map,Qg];rfl
def A9.begin (h:A9 S L A) (hi:i<S.Au.length):A9 (S.AS i).1 L (A.AS i).1/\(S.AS i).2=(A.AS i).2/\(S.AS i).1.Au.length=S.Au.length/\(∀ k m,Cj (S.t i) k m->Cj ((S.AS i).1.t i) k m):=by
 have hok:=Ud h.ok hi;have e1:A.t i=(S.t i).ab S.H.sr:=h.at hi;unfold Am.AS As.AS at *;rw[show (A.t i).live=(S.t i).live from by rw[e1];rfl]
 by_cases e:(S.t i).live=true
 ·grind
 ·rw[if_neg e]at hok ⊢;rw[if_neg e]
  rw[show A.now+(F7 A.Au+1)=S.now+(jj S.Au+1) from by rw[h.tx,qp3,h.now],h.most]
  by_cases e2:S.now+(jj S.Au+1)<=S.most
  ·rw[if_pos e2]at hok ⊢;rw[if_pos e2]
   have:=h.E6 (i:=i) (x:=(S.t i).begun S.now S.next) hok (fun p hp=>h.GF hi p hp);have e3:((S.t i).begun S.now S.next).ab S.H.sr=(A.t i).begun A.now A.next:=by rw[e1,h.now,h.next];rfl
   rw[e3]at this;exact⟨this,rfl,Am.BA _ _ _,fun k m hf=>by rw[Am.CZ hi];exact⟨hf.r,hf.kp,hf.h,hf.u,hf.mr,hf.mu⟩⟩
  ·grind
def Fa.fin {R:B2}{Q:Ck}{n:Nat}(h:Fa R L Q i n k m)(hh:Q.A.BS)(hi:i<n):Fa (R.fin i) L (Q.fin i) i n k m:=by
 unfold B2.fin Ck.fin;rw[<-h.e];split
 ·obtain⟨g1,g2,g3⟩:=h.Cz.abort hh (by rw[h.len];exact hi) h.Dh
  exact⟨g1,rfl,rfl,g2.mono (by omega),g3.trans h.len⟩
 ·split
  ·exact h
  ·exact⟨h.Cz,rfl,rfl,h.Dh,h.len⟩
def Fg.fin {R:B2}{Q:Ck}{n:Nat}(h:Fg R L Q i n k m)(hh:Q.A.BS)(hi:i<n):Fg (R.fin i) L (Q.fin i) i n k m:=by
 unfold B2.fin Ck.fin;rw[<-h.e];split
 ·rename_i e
  obtain⟨g1,g2,g3⟩:=h.Cz.abort hh (by rw[h.len];exact hi) h.Dh
  exact⟨g1,fun e0=>(by rw[show R.e=0 from e0]at e;cases e),rfl,g2.mono (by omega),g3.trans h.len⟩
 ·split
  ·exact h
  ·rename_i e;exact⟨h.Cz,fun e0=>absurd e0 e,rfl,h.Dh,h.len⟩
def Fa.BW {R:B2}{Q:Ck}(h0:A9 S L A)(h:Fa R L Q i S.Au.length k m)(hh:Q.A.BS)(hi:i<S.Au.length)(hf:Cj (S.t i) k m):Fa (S.AF i R) L (A.AF i Q) i S.Au.length k m:=by
 unfold Am.AF As.AF;rw[show (A.t i).live=(S.t i).live from by rw[h0.at hi];rfl]
 split
 ·exact h.fin hh hi
 ·exact⟨h0,rfl,rfl,hf,rfl⟩
def Fg.BW {R:B2}{Q:Ck}(h0:A9 S L A)(h:Fg R L Q i S.Au.length k m)(hh:Q.A.BS)(hi:i<S.Au.length)(hf:Cj (S.t i) k m):Fg (S.AF i R) L (A.AF i Q) i S.Au.length k m:=by
 unfold Am.AF As.AF;rw[show (A.t i).live=(S.t i).live from by rw[h0.at hi];rfl]
 split
 ·exact h.fin hh hi
 ·exact⟨h0,fun e=>(by cases e),rfl,hf,rfl⟩
end
def As.LJ (A:As)(s:Nat):As:={ A with queue:=A.queue++[(s,A.next)],next:=A.next+1 }
def As.comes (A:As)(l:List Nat):As:=l.foldl As.LJ A
section
variable {S : Am} {L : Cx} {A : As} {i p k m : Nat}
def Tx.Q2 (f g:Nat->Nat)(x:Tx):(x.at' g).ab f=x.ab fun p=>f (g p):=by
 unfold Tx.ab Tx.at' Lg.at' CR;simp only[aF];congr 1;refine Ad fun u _=>?_
 unfold Un.at';grind
def qqz (g:Nat->Nat)(x:Tx):∀ p ∈ (x.at' g).places,∃ q ∈ x.places,p=g q:=by
 intro p hp;unfold Tx.places Lg.roots Tx.at' Lg.at' CR at hp;unfold Tx.places Lg.roots;simp only[Qs,Qt,ai]at hp ⊢;rcases hp with (((⟨q,hq,rfl⟩|⟨q,hq,rfl⟩)|⟨z,⟨y,hy,rfl⟩,rfl⟩)|⟨u,⟨v,hv,rfl⟩,hu⟩)|⟨z,⟨y,hy,rfl⟩,rfl⟩
 ·grind
 ·grind
 ·grind
 ·unfold Un.places Un.at' at hu
  by_cases e:v.kind=1
  ·simp only[e,if_true,aJ,aT,or_false,Int.toNat_natCast]at hu
   rcases hu with rfl|rfl
   ·exact⟨v.pos,.inl (.inr ⟨v,hv,by unfold Un.places;rw[if_pos e];simp⟩),rfl⟩
   ·exact⟨v.old.toNat,.inl (.inr ⟨v,hv,by unfold Un.places;rw[if_pos e];simp⟩),rfl⟩
  ·simp only[e,if_false,aJ,aT,or_false]at hu
   subst hu;exact⟨v.pos,.inl (.inr ⟨v,hv,by unfold Un.places;rw[if_neg e];simp⟩),rfl⟩
 ·grind
def ks (S:Am)(roots:List Nat)(p:Nat):p ∈ S.places roots↔p ∈ roots\/p ∈ S.places []:=by
 unfold Am.places;simp only[Qs,aW];grind
def A9.collect (h:A9 S ⟨L.l,[],[]⟩ A){roots:List Nat}(hr:∀ r ∈ roots,S.H.C r)(hm:S.may roots=true) :
  ∃ g:Nat->Nat,S.AQ roots=((S.begun roots).at' g,roots.map g,true)/\A9 ((S.begun roots).at' g) ⟨L.l,roots.map g,roots.map S.H.sr⟩ A:=by
 have h0:S.ph=0:=by unfold Am.may at hm;simp at hm;exact hm.1
 have hmv:S.H.AK=false:=h.ok.ph.2.1 h0;obtain⟨f1,f2,f3⟩:=h.gc.flip hmv;have hC:∀ p ∈ S.places roots,S.H.C p:=fun p hp=>((ks S roots p).1 hp).elim (hr p) (h.pl p)
 obtain⟨g1,g2,g3,g4⟩:=Gc.Ay (S.places roots) f1 fun x hx=>f2 x (hC x hx)
 have hn:=sm (S.places roots) S.H.flip;have hres:∀ p ∈ S.places roots,(S.begun roots).H.C ((S.begun roots).H.now p)/\(S.begun roots).H.sr ((S.begun roots).H.now p)=S.H.sr p:=by
  intro p hp;have h1:(S.begun roots).H.now p ∈ (S.H.flip.Ay (S.places roots)).2:=by rw[hn];exact Qt.2 ⟨p,hp,rfl⟩
  refine⟨g3 _ h1,?_⟩;rw[hn,aF]at g4;have:=List.map_inj_left.1 g4 p hp;exact this.trans (f3 p)
 have hok:=VO h.ok roots;have e:S.AQ roots=((S.begun roots).at' (S.begun roots).H.now,roots.map (S.begun roots).H.now,true):=by unfold Am.AQ;rw[if_pos hm]
 rw[e]at hok;have hpl:∀ p ∈ ((S.begun roots).at' (S.begun roots).H.now).places [],∃ q ∈ S.places [],p=(S.begun roots).H.now q:=by
  intro p hp;rcases Bg.1 hp with ⟨z,hz,rfl⟩|⟨x,hx,hp⟩
  ·obtain⟨y,hy,rfl⟩:=Qt.1 (show z ∈ CR _ S.queue from hz)
   exact⟨y.1,Bg.2 (.inl ⟨y,hy,rfl⟩),rfl⟩
  ·obtain⟨y,hy,rfl⟩:=Qt.1 (show x ∈ S.Au.map _ from hx)
   obtain⟨q,hq,rfl⟩:=qqz _ _ p hp;exact⟨q,Bg.2 (.inr ⟨y,hy,hq⟩),rfl⟩
 refine⟨(S.begun roots).H.now,e,⟨hok,g1,?_,h.now,h.most,h.next,h.ho,h.EO,?_,?_,fun p hp=>?_,fun p hp=>?_,?_,by show A.sz=(S.H.flip.Ay (S.places roots)).1.size;rw[(zw _ _).1];exact h.sz⟩⟩
 ·show A.Bc=(S.H.flip.Ay (S.places roots)).1.Ap
  rw[(zw _ _).2.2.2.2.1];exact h.Bc
 ·rw[h.tx]
  show S.Au.map _=(S.Au.map _).map _;rw[aF];refine Ad fun x hx=>?_;show _=(x.at' _).ab _;rw[Tx.Q2];exact Tx.DX fun p hp=>(hres p ((ks S roots p).2 (.inr (Bg.2 (.inr ⟨x,hx,hp⟩))))).2.symm
 ·rw[h.qu]
  show CR _ S.queue=CR _ (CR _ S.queue);unfold CR;rw[aF];refine Ad fun z hz=>?_;exact congrArg (fun n=>(n,z.2)) (hres z.1 ((ks S roots _).2 (.inr (Bg.2 (.inl ⟨z,hz,rfl⟩))))).2.symm
 ·obtain⟨q,hq,rfl⟩:=hpl p hp
  exact (hres q ((ks S roots q).2 (.inr hq))).1
 ·obtain⟨r,hr',rfl⟩:=Qt.1 hp
  exact (hres r ((ks S roots r).2 (.inl hr'))).1
 ·show (roots.map _).map _=roots.map _
  rw[aF];exact Ad fun r hr'=>(hres r ((ks S roots r).2 (.inl hr'))).2
def A9.Bb {R:Nat->Prop}(h:A9 S L A)(hp:S.H.C p/\∃ a,A.heap (S.H.sr p)=some a/\a.AL.final=true/\R (S.H.sr p))(hok:(S.Bb p).ok):∃ cs,A9 (S.Bb p) L (A.comes cs)/\(S.Bb p).came=S.came++cs/\(S.Bb p).H=S.H/\(S.Bb p).Au=S.Au/\(S.Bb p).lost=S.lost/\∀ s ∈ cs,∃ a,A.heap s=some a/\a.AL.final=true/\a.fr=false/\R s:=by
 obtain⟨hp,a,ha,hfin,hR⟩:=hp;unfold Am.Bb at *;split
 ·exact⟨[],h,by simp,rfl,rfl,rfl,fun s hs=>by cases hs⟩
 ·rename_i e
  rw[if_neg e]at hok;have eO:(S.H.Dg p).1=S.H.sr p:=by
   unfold Hp.Dg;by_cases h0:p=0
   ·subst h0;rw[h.gc.B3.z.1,h.gc.GO]
   ·obtain⟨b,a,h1,h2,_⟩:=h.obj hp h0
    rw[h1,h2]
  refine⟨[S.H.sr p],h.meta (A':=A.LJ (S.H.sr p)) hok rfl rfl rfl rfl h.now h.most ?_ h.ho h.EO h.tx ?_ fun q hq=>?_,by rw[eO],rfl,rfl,rfl,fun s hs=>?_⟩
  ·show A.next+1=S.next+1;rw[h.next]
  ·show A.queue++[(_,A.next)]=CR _ (S.queue++[_])
   rw[h.qu,h.next];unfold CR;rw[Qw];rfl
  ·rcases Bg.1 hq with ⟨z,hz,rfl⟩|⟨x,hx,hp'⟩
   ·rcases Qs.1 (show z ∈ S.queue++[_] from hz) with h1|h1
    ·exact h.MK h1
    ·grind
   ·exact h.pl q (Bg.2 (.inr ⟨x,hx,hp'⟩))
  ·rw[Zb.1 hs]
   refine⟨a,ha,hfin,?_,hR⟩;have h0:p≠0:=fun h0=>by rw[h0,h.gc.GO,h.gc.B3.az]at ha;cases ha
   obtain⟨b,a',h1,h2,h3,h4⟩:=h.obj hp h0;rw[ha]at h3;injection h3 with h3;rw[h3,h4.fr]
   cases k:b.B5
   ·rfl
   ·exact absurd (.inl (by unfold Hp.DG;rw[h1];exact k)) e
def su:∀ (cs:List Nat)(A:As),(A.comes cs).heap=A.heap
 | [],_=>rfl
 | _::cs,A=>su cs (A.LJ _)
def qo5 (A:As)(a b:List Nat):A.comes (a++b)=(A.comes a).comes b:=by unfold As.comes;rw[aB]
def A9.A8 {R:Nat->Prop}:∀ (l:List Nat){S:Am}{A:As}(_:A9 S L A)(_:∀ p ∈ l,S.H.C p/\∃ a,A.heap (S.H.sr p)=some a/\a.AL.final=true/\R (S.H.sr p))(_:S.next+S.H.final.length+l.length<=S.H.Ap),∃ cs,A9 (S.A8 l) L (A.comes cs)/\(S.A8 l).came=S.came++cs/\(S.A8 l).H=S.H/\(S.A8 l).Au=S.Au/\(S.A8 l).lost=S.lost/\∀ s ∈ cs,∃ a,A.heap s=some a/\a.AL.final=true/\a.fr=false/\R s
 | [],S,A,h,_,_=>⟨[],h,by simp[Am.A8],rfl,rfl,rfl,fun s hs=>by cases hs⟩
 | p::l,S,A,h,hp,hn=>by
  obtain⟨k1,k2,k3,_⟩:=XH h.ok p (k:=l.length) hn;obtain⟨cs,g1,g2,g3,g4,g5,g6⟩:=h.Bb (hp p (.head _)) k1;obtain⟨ds,q1,q2,q3,q4,q5,q6⟩:=A9.A8 l g1 (fun q hq=>by rw[g3,su];exact hp q (.tail _ hq)) k2
  refine⟨cs++ds,by rw[qo5];exact q1,?_,q3.trans g3,q4.trans g4,q5.trans g5,fun s hs=>?_⟩
  ·show ((S.Bb p).A8 l).came=_
   grind
  ·rcases Qs.1 hs with h1|h1
   ·grind
   ·have:=q6 s h1;rw[su]at this;exact this
structure Tr (S S':Am)(L:Cx)(A:As):Prop where
 ex:∃ ls cs,A9 S' { L with l:=L.l++ls } (A.comes cs)/\S'.lost=S.lost++ls/\S'.came=S.came++cs/\∀ s ∈ cs,∃ a,A.heap s=some a/\a.AL.final=true/\a.fr=false/\∀ q,S.H.C q->S.H.sr q≠s
 tx:S'.Au=S.Au
def Xe (H:Hp):H.Bf.1.size=H.size/\H.Bf.1.Ap=H.Ap:=by
 unfold Hp.Bf;split
 ·grind
 ·split
  ·grind
  ·split
   ·grind
   ·exact⟨(zw _ _).1,(zw _ _).2.2.2.2.1⟩
def A9.step (h:A9 S L A):Tr S S.Cp.1 L A:=by
 obtain⟨k1,k2⟩:=rx h.ok;have key:∃ ls,A9 S.CG.1 { L with l:=L.l++ls } A/\S.CG.1.lost=S.lost++ls/\S.CG.1.came=S.came/\S.CG.1.Au=S.Au/\∀ p ∈ S.CG.2.1,S.CG.1.H.C p/\∃ a,A.heap (S.CG.1.H.sr p)=some a/\a.AL.final=true/\∀ q,S.H.C q->S.H.sr q≠S.CG.1.H.sr p:=by
  unfold Am.CG at *;split
  ·exact⟨[],by rw[aj];exact h,by simp,rfl,rfl,fun p hp=>by cases hp⟩
  ·rename_i h0
   rw[if_neg h0]at k1;split
   ·rename_i h1
    rw[if_pos h1]at k1;obtain⟨g1,g2⟩:=h.gc.Bf;refine⟨[],?_,by simp[Am.h],rfl,rfl,fun p hp=>by cases hp⟩
    rw[aj];exact h.Vx k1 g1 g2 (Xe _).2 (Xe _).1
   ·rename_i h1
    rw[if_neg h1]at k1;split
    ·rename_i h2
     rw[if_pos h2]at k1;obtain⟨g1,g2,g3⟩:=h.gc.A4;have hs:S.H.A4.1.Ap=S.H.Ap/\S.H.A4.1.size=S.H.size:=by
      unfold Hp.A4;split
      ·exact⟨rfl,rfl⟩
      ·exact⟨(zw _ _).2.2.2.2.1,(zw _ _).1⟩
     refine⟨[],?_,by simp,rfl,rfl,g3⟩
     rw[aj];exact⟨k1,g1,by rw[hs.1];exact h.Bc,h.now,h.most,h.next,h.ho,h.EO,
      h.tx.trans (Ad fun x hx=>Tx.DX fun p hp=>(g2.s p (CF.V (h.pl p (Bg.2 (.inr ⟨x,hx,hp⟩))))).symm),
      h.qu.trans (xi fun z hz=>(g2.s _ (CF.V (h.MK hz))).symm),fun p hp=>g2.c p (h.pl p hp),fun p hp=>g2.c p (h.ex p hp),(Ad fun p hp=>g2.s p (CF.V (h.ex p hp))).trans h.ey,by rw[hs.2];exact h.sz⟩
    ·rename_i h2
     rw[if_neg h2]at k1;obtain⟨g1,g2⟩:=h.gc.drop;have hs:S.H.drop.1.Ap=S.H.Ap/\S.H.drop.1.size=S.H.size:=by
      unfold Hp.drop;split
      ·exact⟨rfl,rfl⟩
      ·exact⟨(TV _ _:(S.H.settled.AV S.H.settled.AA).1.Ap=S.H.settled.Ap),(uq S.H.settled.AA S.H.settled).2.2.2.2.2.1⟩
     refine⟨S.H.drop.2.1,?_,rfl,rfl,rfl,fun p hp=>by cases hp⟩
     exact⟨k1,g1,by rw[hs.1];exact h.Bc,h.now,h.most,h.next,h.ho,h.EO,
      h.tx.trans (Ad fun x hx=>Tx.DX fun p hp=>(g2 p (h.pl p (Bg.2 (.inr ⟨x,hx,hp⟩)))).2.symm),
      h.qu.trans (xi fun z hz=>(g2 _ (h.MK hz)).2.symm),fun p hp=>(g2 p (h.pl p hp)).1,fun p hp=>(g2 p (h.ex p hp)).1,(Ad fun p hp=>(g2 p (h.ex p hp)).2).trans h.ey,by rw[hs.2];exact h.sz⟩
 obtain⟨ls,q1,q2,q3,q4,q5⟩:=key;obtain⟨cs,r1,r2,r3,r4,r5,r6⟩:=A9.A8 (R:=fun s=>∀ q,S.H.C q->S.H.sr q≠s) S.CG.2.1 q1 q5 k2
 refine⟨⟨ls,cs,r1,by show (S.CG.1.A8 _).lost=_;rw[r5,q2],by show (S.CG.1.A8 _).came=_;rw[r2,q3],r6⟩,by show (S.CG.1.A8 _).Au=_;rw[r4,q4]⟩
end
end
section
open Go.RowKit Hp
section
variable {n : Nat} {P : Program} {ops : Array Oper} {md : aR} {w : Aa} {F : Fence}
structure EP (F:Fence)(P:Program):Prop where
 fn:∀ f,F.fn f
 calls:∀ {n:Nat}{f:FuncId}{args:Array Ac}{w:Aa}{R:Ending->Aa->Prop},Ab P f args w R->(F.depth.isSome=true->1<=n)/\CallsIn F (n-1) P f args w R
def Ru (P:Program):EP Fence.wide P:=⟨fun _=>trivial,fun h=>⟨fun h=>(by simp[Fence.wide]at h),callsIn_wide.2 h⟩⟩
def J8 (l:Nat)(P:Program):EP (Fence.wide.inRound l) P:=⟨fun _=>trivial,fun h=>⟨fun h=>(by simp[Fence.inRound,Fence.wide]at h),CallsIn.inRound l (callsIn_wide.2 h)⟩⟩
def qfy (hF:EP F P){o:Oper}{a:Act}{K:Act->Prop}{K':Act->Aa->Prop}{Q':Exit->Act->Aa->Prop}(hd:∀ c,o.op≠.defer c)(h:∀ a,K a->K' a w)(hh:o.still P a w K):o.wpIn F n P a w K' Q':=by
 unfold Oper.still at hh;refine⟨fun _ _=>hF.fn _,?_⟩
 rw[Oper.semAt_eq _ _ _ hd];generalize (execOp a.eval o).run P w=r at *
 cases r with
 | ok m w' =>
  cases m<;>simp only[Oper.stillUpon]at hh<;>simp only[Oper.uponIn]
  case enter f args =>
   obtain⟨rfl,v,hc,hn⟩:=hh;refine hF.calls (hc.mono fun e w'' he=>?_);obtain⟨he,hw⟩:=he;subst he;subst hw;exact h _ hn
  all_goals (obtain⟨rfl,h2⟩:=hh;exact h _ h2)
 | halt x w'=>simp only[Oper.stillUpon]at hh
def qfw (hF:EP F P){i:Nat}{a:Act}{K:Act->Prop}{K':Act->Aa->Prop}{Q':Exit->Act->Aa->Prop}(hd:∀ (j:Nat)(o:Oper) c,ops[j]?=some o->o.op≠.defer c)(h:∀ a,K a->K' a w)(hh:stOp P ops w i K a):wpOpIn F n P ops Q' i K' a w:=by
 unfold stOp at hh;unfold wpOpIn;split
 ·rename_i ho;simp only[ho]at hh;exact h _ hh
 ·rename_i o ho
  simp only[ho]at hh;split
  ·rename_i hw;simp only[hw,if_true]at hh;exact qfy hF (fun c=>hd _ _ c ho) h hh
  ·rename_i hw;simp only[hw]at hh;exact⟨fun _ _=>hF.fn _,h _ hh⟩
def tm (hF:EP F P){m g:Nat}{L:Array Bool->Act->Prop}{Q':Exit->Act->Aa->Prop}(hd:∀ (j:Nat)(o:Oper) c,ops[j]?=some o->o.op≠.defer c)(hL:∀ listed a,L listed a->wpAnyIn F n P md ops Q' g listed a w) :
  ∀ (f:Nat)(listed:Array Bool)(a:Act),wpAnyL P md ops w m L f listed a->wpAnyIn F n P md ops Q' (f+g) listed a w
 | 0,listed,a,h=>by rw[Nat.zero_add];exact hL _ _ h
 | f+1,listed,a,h=>by
  rw[show f+1+g=(f+g)+1 by omega]
  exact⟨fun h0=>absurd h0 h.1,fun i hi=>qfw hF hd (fun a' h'=>tm hF hd hL f _ a' h') (h.2 i hi).2⟩
def VH {Q':Exit->Act->Aa->Prop}:∀ (l':List Oper)(k:Nat)(listed:Array Bool)(a:Act)(w:Aa),(∀ j,l'[j]?=ops[k+j]?) ->
  aS md ops l'.length k listed=true->wpListIn F n P ops Q' l' a w->wpAnyIn F n P md ops Q' l'.length listed a w
 | [],_,_,_,_,_,hB,h=>⟨by simpa [aS] using hB,h⟩
 | o::l',k,listed,a,w,hl,hB,h=>by
  have h0:ops[k]?=some o:=by simpa using (hl 0).symm
  simp only[Qv,aS,ag,decide_eq_true_eq]at hB;refine⟨fun h1=>(by rw[hB.1]at h1;cases h1),fun i hi=>?_⟩
  rw[hB.1]at hi;have hik:i=k:=by simpa using hi
  subst hik;have hw:wpOpIn F n P ops Q' i (wpListIn F n P ops Q' l') a w:=by unfold wpOpIn;simp only[h0];exact h
  exact wpOpIn_mono (fun a' w' h'=>VH l' (i+1) _ a' w' (fun j=>by have:=hl (j+1);simpa [Nat.add_assoc,Nat.add_comm 1 j] using this) hB.2 h') hw
def Yv (l:List Oper):Bool:=l.all fun o=>match o.op with|.defer _=>false|_=>true
def qie {l:List Oper}(h:Yv l=true):∀ (j:Nat)(o:Oper) c,l.toArray[j]?=some o->o.op≠.defer c:=by
 intro j o c hj e;have hm:o ∈ l:=by rw[aC]at hj;exact Qe hj
 have:=aM.1 h o hm;rw[e]at this
 cases this
def wm (hF:EP F P) {id:Nat} {Q:Exit->Act->Aa->Prop} {a:Act} {w:Aa} {l':List Oper} (m:Nat) (hm:P.follows .mixedOrders=true) (hB:aX .any l'.toArray m=true) (hd:Yv l'=true)
  (h:wpStill P l'.toArray w.drew (fun a'=>wpListIn F n P l'.toArray Q (l'.drop m) a' w.drew) (l'.take m) a):(Code.region id l'.toArray true).wpIn F n P Q a w:=by
 simp only[aX,ag,decide_eq_true_eq]at hB;obtain⟨⟨⟨⟨hsel,hn⟩,hs⟩,hc⟩,hlex⟩:=hB;have hn':m<l'.length:=by simpa using hn
 have htl:(l'.take m).length=m:=by simp;omega
 have hdl:(l'.drop m).length=l'.toArray.size-m:=by simp
 have inv0:HeadInv .any l'.toArray m (ay l'.toArray.size false):=
  ⟨by simp,fun j oj _ hl=>(by rw[getD_replicate_false]at hl;cases hl),fun t _ ht=>getD_in (by simpa using ht) (getD_replicate_false _ _)⟩
 have H:=wpAnyL_lex (md:=.any) (g:=l'.toArray.size-m) hsel hs hc hn (l'.take m) 0 _ a (fun j hj=>by
  have hj':j<m:=by rw[htl]at hj;exact hj
  simp[hj']) (by simpa using htl) inv0 (by rw[htl];exact hlex) h
 refine wpIn_region_any hm ?_;have:=tm hF (n:=n) (Q':=Q) (g:=l'.toArray.size-m) (qie hd) (fun listed a' hL=>by
  have:=VH (F:=F) (n:=n) (md:=.any) (Q':=Q) (l'.drop m) m listed a' w.drew (fun j=>by simp[List.getElem?_drop]) (by rw[hdl];exact hL.1) hL.2
  rwa [hdl]at this) _ _ _ H
 rw[htl,show m+(l'.toArray.size-m)=l'.toArray.size by omega]at this
 exact this
def qp4 {K:Act->Aa->Prop}{Q:Exit->Act->Aa->Prop}{c:Code}{a:Act}{w:Aa}(h:c.wpIn F n P (Exit.then K fun _ _ _=>False) a w):c.wpIn F n P (Exit.then K Q) a w:=
 wpIn_mono h fun e _ _ hq=>by cases e<;>first|exact hq|exact hq.elim
end
def p9 (md:aR)(ops:Array Oper):Nat->Array Bool->List (List Nat)
 | 0,_=>[[]]
 | f+1,listed=>match aA md ops listed with
  | []=>[[]]
  | rs=>rs.flatMap fun i=>(p9 md ops f (listed.setIfInBounds i true)).map (i::·)
def gj (l:List Oper):List Nat->List Oper
 | []=>[]
 | i::is=>match l.drop i with
  | []=>[]
  | o::_=>o::gj l is
def QQ (l:List Oper)(is:List Nat):Bool:=is.all fun i=>decide (i<l.length)
def py (md:aR)(ops:Array Oper):∀ (fuel t:Nat)(listed:Array Bool),aG md ops fuel t listed [] ∈ p9 md ops fuel listed
 | 0,t,listed=>by simp[aG,p9]
 | fuel+1,t,listed=>by
  change (match (aA md ops listed)[t%(aA md ops listed).length]? with
   | some i=>aG md ops fuel (t/(aA md ops listed).length) (listed.setIfInBounds i true) [i]
   | none=>[].reverse) ∈ (match aA md ops listed with
  | []=>[[]]
  | rs=>rs.flatMap fun i=>(p9 md ops fuel (listed.setIfInBounds i true)).map (i::·))
  generalize aA md ops listed=rs
  cases rs with
  | nil=>simp
  | cons x xs =>
   have hlt:t%(x::xs).length<(x::xs).length:=Nat.mod_lt _ (by simp)
   have ih:=py md ops fuel (t/(x::xs).length) (listed.setIfInBounds ((x::xs)[t%(x::xs).length]) true);rw[Qb hlt];simp only;rw[linearise_go_acc,List.reverse_singleton,List.singleton_append];exact ai.2 ⟨(x::xs)[t%(x::xs).length],List.getElem_mem hlt,Qt.2 ⟨_,ih,rfl⟩⟩
section
variable {F : Fence} {n : Nat} {P : Program} {Q : Exit -> Act -> Aa -> Prop} {l' : List Oper}
def VD:∀ (is:List Nat)(a:Act)(w:Aa),QQ l' is=true->wpListIn F n P l'.toArray Q (gj l' is) a w->wpOpsIn F n P l'.toArray Q is a w
 | [],a,w,_,h=>h
 | i::is,a,w,hi,h=>by
  unfold QQ at hi;rw[bF,ag,decide_eq_true_eq]at hi;have e:l'.drop i=l'[i]'hi.1::l'.drop (i+1):=aK hi.1;have hp:gj l' (i::is)=l'[i]'hi.1::gj l' is:=by
   show (match l'.drop i with|[]=>[]|o::_=>o::gj l' is)=_
   rw[e]
  rw[hp]at h;rw[wpOpsIn_cons];have ho:l'.toArray[i]?=some (l'[i]'hi.1):=by rw[aC,Qb hi.1]
  refine wpOpIn_mono (fun a w h=>VD is a w hi.2 h) ?_;unfold wpOpIn;simp only[ho];exact h
def ld {id:Nat}{a:Act}{w:Aa}(hm:P.follows .mixedOrders=true)(L:List (List Nat))(hL:p9 .any l'.toArray l'.length (ay l'.length false)=L)(hi:L.all (QQ l')=true)
  (h:∀ is ∈ L,wpListIn F n P l'.toArray Q (gj l' is) a w.drew):(Code.region id l'.toArray true).wpIn F n P Q a w:=by
 refine wpIn_region_draw fun t=>?_
 simp only[aY,hm,bJ,if_true];have hm2:=py .any l'.toArray l'.toArray.size t (ay l'.toArray.size false);have e:l'.toArray.size=l'.length:=by simp
 unfold aU;rw[e]at hm2 ⊢;rw[hL]at hm2;exact VD _ _ _ (aM.1 hi _ hm2) (h _ hm2)
def Wv:∀ (is:List Nat)(a:Act)(w:Aa),QQ l' is=true->wpList P l'.toArray Q (gj l' is) a w->wpOps P l'.toArray Q is a w
 | [],a,w,_,h=>h
 | i::is,a,w,hi,h=>by
  unfold QQ at hi;rw[bF,ag,decide_eq_true_eq]at hi;have e:l'.drop i=l'[i]'hi.1::l'.drop (i+1):=aK hi.1;have hp:gj l' (i::is)=l'[i]'hi.1::gj l' is:=by
   show (match l'.drop i with|[]=>[]|o::_=>o::gj l' is)=_
   rw[e]
  rw[hp]at h;rw[wpOps_cons];have ho:l'.toArray[i]?=some (l'[i]'hi.1):=by rw[aC,Qb hi.1]
  refine wpOp_mono (fun a w h=>Wv is a w hi.2 h) ?_;unfold wpOp;simp only[ho];exact h
def qbw {id:Nat}{a:Act}{w:Aa}(hm:P.follows .mixedOrders=true)(L:List (List Nat))(hL:p9 .any l'.toArray l'.length (ay l'.length false)=L)(hi:L.all (QQ l')=true)
  (h:∀ is ∈ L,wpList P l'.toArray Q (gj l' is) a w.drew):(Code.region id l'.toArray true).wp P Q a w:=by
 refine wp_region_draw fun t=>?_
 simp only[aY,hm,bJ,if_true];have hm2:=py .any l'.toArray l'.toArray.size t (ay l'.toArray.size false);have e:l'.toArray.size=l'.length:=by simp
 unfold aU;rw[e]at hm2 ⊢;rw[hL]at hm2;exact Wv _ _ _ (aM.1 hi _ hm2) (h _ hm2)
