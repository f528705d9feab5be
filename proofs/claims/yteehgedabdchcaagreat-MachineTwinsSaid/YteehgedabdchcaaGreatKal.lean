import Derived.Test.YteehgedabdchcaaGreatKak
import Derived.Maps.OwnSet
import Derived.Maps.Views
set_option linter.all false
set_option maxRecDepth 1000000
set_option maxHeartbeats 0
open Go renaming World->Aa,Calls->Ab,Value->Ac
open Go.RowKit renaming Below->Ae
open Go.Value renaming pointer->Ah,slice->Ai,tuple->Ak,agg->Al
open Go.Ending renaming returned->O
open List renaming append_assoc->Ad,tail_cons->Aj,flatMap_cons->aa,headD_cons->af,length_range->ag,getElem?_cons_succ->ai,getElem?_range->aj,take_length->ay,set_cons_succ->aA,length_drop->aB,append_nil->aC,length_nil->aD,map_id->aF,getElem?_drop->aG,drop_eq_getElem_cons->aH,getElem?_take_of_lt->aI,map_set->aJ,drop_left'->aM,map_cons->aN,map_congr_left->aO,cons_append->aP,drop_length->aQ,nil_append->aR,take_left'->aS,range->aT,take_set->aU,drop_set->aV,map_nil->aW,take->aX,map->aY
open Go.Maps renaming has->aK
open Go.WalkArith renaming wf_i64->aL
open Go.Proofs.Tryz
open Go.Proofs.Tryz renaming prog->AId
namespace Go.Proofs.YteehgedabdchcaaGreat
section
open Go.RowKit Hp
def ks:List (Nat×Nat)->List Nat->List (Nat×Nat)
 | [],_=>[]
 | z::zs,l=>(l.headD 0,z.2)::ks zs l.tail
def xa:List Un->List Nat->List Un
 | [],_=>[]
 | u::us,l=>if u.kind=1 then { u with pos:=l.headD 0,old:=((l.tail.headD 0:Nat):Int) }::xa us l.tail.tail else { u with pos:=l.headD 0 }::xa us l.tail
def Lg.put (L:Lg)(l:List Nat):Lg:=
 { L with reads:=l.take L.reads.length,keeps:=(l.drop L.reads.length).take L.keeps.length,holds:=ks L.holds (l.drop (L.reads.length+L.keeps.length)),Az:=xa L.Az (l.drop (L.reads.length+L.keeps.length+L.holds.length)) }
def fz:∀ (zs:List (Nat×Nat))(l:List Nat),(ks zs l).length=zs.length
 | [],_=>rfl
 | z::zs,l=>by simp[ks,fz zs]
def Tw:∀ (us:List Un)(l:List Nat),(xa us l).length=us.length
 | [],_=>rfl
 | u::us,l=>by unfold xa;split<;>simp[Tw us]
def RJ (g:Nat->Nat):∀ (zs:List (Nat×Nat))(l:List Nat),ks zs ((zs.map (·.1)).map g++l)=CQ g zs
 | [],_=>rfl
 | z::zs,l=>by
  show ((g z.1::((zs.map (·.1)).map g++l)).headD 0,z.2)::ks zs (g z.1::((zs.map (·.1)).map g++l)).tail=(g z.1,z.2)::CQ g zs;simp only[af,Aj,RJ g zs l]
def TK (g:Nat->Nat):∀ (us:List Un),xa us ((us.flatMap Un.places).map g)=us.map (Un.at' g)
 | []=>rfl
 | u::us=>by
  rw[aa,Qw,aN];unfold xa Un.places Un.at';split
  ·simp only[aN,aW,aP,aR,af,Aj]
   exact congrArg _ (TK g us)
  ·simp only[aN,aW,aP,aR,af,Aj]
   exact congrArg _ (TK g us)
def Xl (L:Lg)(g:Nat->Nat):L.put (L.roots.map g)=L.at' g:=by
 unfold Lg.put Lg.at' Lg.roots;simp only[Qw];have e1:(L.reads.map g++L.keeps.map g++(L.holds.map (·.1)).map g++(L.Az.flatMap Un.places).map g).take L.reads.length=L.reads.map g:=by
  rw[Ad,Ad,aS (by simp)]
 have e2:(L.reads.map g++L.keeps.map g++(L.holds.map (·.1)).map g++(L.Az.flatMap Un.places).map g).drop L.reads.length=L.keeps.map g++((L.holds.map (·.1)).map g++(L.Az.flatMap Un.places).map g):=by
  rw[Ad,Ad,aM (by simp)]
 have e3:(L.reads.map g++L.keeps.map g++(L.holds.map (·.1)).map g++(L.Az.flatMap Un.places).map g).drop (L.reads.length+L.keeps.length)=(L.holds.map (·.1)).map g++(L.Az.flatMap Un.places).map g:=by
  rw[Ad,aM (by simp)]
 have e4:(L.reads.map g++L.keeps.map g++(L.holds.map (·.1)).map g++(L.Az.flatMap Un.places).map g).drop (L.reads.length+L.keeps.length+L.holds.length)=(L.Az.flatMap Un.places).map g:=by
  rw[aM (by simp;omega)]
 rw[e1,e2,e3,e4,RJ,TK,aS (by simp)]
def Wo {L:Lg}(h:L.fit):L.put L.roots=L:=by
 have h1:=Xl L id;rw[aF]at h1;rw[h1];unfold Lg.at';have e1:CQ id L.holds=L.holds:=by unfold CQ;simp
 have e2:L.Az.map (Un.at' id)=L.Az:=by
  refine (aO fun u hu=>?_).trans (aF _);unfold Un.at';split
  ·rename_i hk
   have h0:=h.kd u hu hk;obtain⟨kd,ps,i,od⟩:=u;simp only at h0 hk ⊢;show Un.mk kd ps i ((od.toNat:Nat):Int)=Un.mk kd ps i od;rw[Int.toNat_of_nonneg h0]
  ·rfl
 rw[e1,e2,aF,aF]
def Mw (g:Nat)(s:Nat)(j:Nat):Addr:=⟨g,j*s,none⟩
def vi (v:Ac):Nat:=match v with|Ai (some a) _ _=>a.block|_=>0
def xi (g:Nat):Nat->List Un->List Addr
 | _,[]=>[]
 | j,u::us=>if u.kind=1 then⟨g,j*4+1,none⟩::⟨g,j*4+3,none⟩::xi g (j+1) us else⟨g,j*4+1,none⟩::xi g (j+1) us
def xo (vr vk vh vu:Ac)(L:Lg):List Addr:=
 (aT L.reads.length).map (Mw (vi vr) 1)++(aT L.keeps.length).map (Mw (vi vk) 1)++(aT L.holds.length).map (Mw (vi vh) 2)++xi (vi vu) 0 L.Az
def Tk (g:Nat):∀ (us:List Un)(j:Nat),(xi g j us).length=(us.flatMap Un.places).length
 | [],_=>rfl
 | u::us,j=>by
  rw[aa,Qd];have ih:=Tk g us (j+1);by_cases hk:u.kind=1
  ·have hp:u.places.length=2:=by unfold Un.places;rw[if_pos hk];rfl
   unfold xi;rw[if_pos hk];simp only[Qv];omega
  ·have hp:u.places.length=1:=by unfold Un.places;rw[if_neg hk];rfl
   unfold xi;rw[if_neg hk];simp only[Qv];omega
def ky (vr vk vh vu:Ac)(L:Lg):(xo vr vk vh vu L).length=L.roots.length:=by
 unfold xo Lg.roots;simp only[Qd,Qg,ag,Tk]
def UW:∀ (us:List Un) (l:List Nat),(us.flatMap Un.places).length<=l.length->(xa us l).flatMap Un.places=l.take (us.flatMap Un.places).length
 | [],l,_=>by simp[xa]
 | u::us,l,h=>by
  rw[aa,Qd]at h;rw[aa (f:=Un.places) (x:=u),Qd];unfold xa;by_cases hk:u.kind=1
  ·have hp:u.places.length=2:=by unfold Un.places;rw[if_pos hk];rfl
   rw[hp]at h ⊢;rw[if_pos hk];match l,h with
   | a::b::l,h =>
    rw[aa,Aj,Aj,UW us l (by simp only[Qv]at h;omega)]
    show (if u.kind=1 then [a,((b:Int)).toNat] else [a])++_=_;rw[if_pos hk,Int.toNat_natCast,show 2+(us.flatMap Un.places).length=(us.flatMap Un.places).length+1+1 from by omega]
    simp
   | [a],h=>simp only[Qv,aD]at h;omega
   | [],h=>simp at h
  ·have hp:u.places.length=1:=by unfold Un.places;rw[if_neg hk];rfl
   rw[hp]at h ⊢;rw[if_neg hk];match l,h with
   | a::l,h =>
    rw[aa,Aj,UW us l (by simp only[Qv]at h;omega)]
    show (if u.kind=1 then [a,u.old.toNat] else [a])++_=_;rw[if_neg hk,show 1+(us.flatMap Un.places).length=(us.flatMap Un.places).length+1 from by omega]
    simp
   | [],h=>simp only[aD]at h;omega
def TX:∀ (zs:List (Nat×Nat))(l:List Nat)(i x:Nat),i<zs.length->zs.length<=l.length ->
  qg (ks zs (l.set i x))=(qg (ks zs l)).set (i*2) (nv x)/\(qg (ks zs l))[i*2]?=(l[i]?).map nv
 | [],_,_,_,h,_=>by simp at h
 | z::zs,[],_,_,_,h=>by simp at h
 | z::zs,a::l,0,x,_,_=>by simp[ks,qg]
 | z::zs,a::l,i+1,x,h,hl=>by
  obtain⟨h1,h2⟩:=TX zs l i x (by simpa using h) (by simpa using hl)
  have e:(i+1)*2=i*2+1+1:=by omega
  simp only[aA,ks,af,Aj,qg,e,h1,ai,h2,and_self]
def XJ:∀ (zs:List (Nat×Nat))(l:List Nat)(i x:Nat),zs.length<=i->ks zs (l.set i x)=ks zs l
 | [],_,_,_,_=>rfl
 | z::zs,l,i,x,h=>by
  obtain⟨j,rfl⟩:∃ j,i=j+1:=⟨i-1,by simp only[Qv]at h;omega⟩
  cases l with
  | nil=>rfl
  | cons a l=>simp only[aA,ks,af,Aj];rw[XJ zs l j x (by simp only[Qv]at h;omega)]
def Tt (g:Nat):∀ (us:List Un)(j:Nat)(l:List Nat)(i x:Nat)(a:Addr),(xi g j us)[i]?=some a->(us.flatMap Un.places).length<=l.length ->
  ∃ c,a=⟨g,j*4+c,none⟩/\qz (xa us (l.set i x))=(qz (xa us l)).set c (nv x)/\(qz (xa us l))[c]?=(l[i]?).map nv
 | [],_,_,_,_,_,h,_=>by simp[xi]at h
 | u::us,j,l,i,x,a,h,hl=>by
  rw[aa,Qd]at hl;by_cases hk:u.kind=1
  ·have hp:u.places.length=2:=by unfold Un.places;rw[if_pos hk];rfl
   rw[hp]at hl;unfold xi at h;rw[if_pos hk]at h;match l,hl with
   | [],hl=>simp at hl
   | [q],hl=>simp only[Qv,aD]at hl;omega
   | q0::q1::l,hl =>
    match i,h with
    | 0,h =>
     simp at h;subst h;refine⟨1,rfl,?_,?_⟩<;>(unfold xa;rw[if_pos hk];first|(rw[if_pos hk];simp[qz])|simp[qz])
    | 1,h =>
     simp at h;subst h;refine⟨3,rfl,?_,?_⟩<;>(unfold xa;rw[if_pos hk];first|(rw[if_pos hk];simp[qz,nv])|simp[qz,nv])
    | i+2,h =>
     simp only[ai]at h;obtain⟨c,h1,h2,h3⟩:=Tt g us (j+1) l i x a h (by simp only[Qv]at hl;omega)
     refine⟨c+4,by rw[h1];congr 1;omega,?_,?_⟩
     ·simp only[aA]
      unfold xa;rw[if_pos hk,if_pos hk];simp only[af,Aj,qz,aA,h2]
     ·unfold xa
      rw[if_pos hk];simp only[af,Aj,qz,ai,h3]
  ·have hp:u.places.length=1:=by unfold Un.places;rw[if_neg hk];rfl
   rw[hp]at hl;unfold xi at h;rw[if_neg hk]at h;match l,hl with
   | [],hl=>simp only[aD]at hl;omega
   | q0::l,hl =>
    match i,h with
    | 0,h =>
     simp at h;subst h;refine⟨1,rfl,?_,?_⟩<;>(unfold xa;rw[if_neg hk];first|(rw[if_neg hk];simp[qz])|simp[qz])
    | i+1,h =>
     simp only[ai]at h;obtain⟨c,h1,h2,h3⟩:=Tt g us (j+1) l i x a h (by simp only[Qv]at hl;omega)
     refine⟨c+4,by rw[h1];congr 1;omega,?_,?_⟩
     ·simp only[aA]
      unfold xa;rw[if_neg hk,if_neg hk];simp only[af,Aj,qz,aA,h2]
     ·unfold xa
      rw[if_neg hk];simp only[af,Aj,qz,ai,h3]
def KH {g j:Nat}{us:List Un}{i:Nat}{a:Addr}(h:(xi g j us)[i]?=some a):i<(us.flatMap Un.places).length:=by
 rw[<-Tk g us j];exact (Qc.1 h).1
section
variable {w : Aa} {o : Own} {id k b : Nat} {L : Lg} {vr vk vh vu : Ac}
def pz {w:Aa}{o:Own}{t:Tag}{e:TypeId}{size:Nat}{v:Ac}{n:Nat}{xs:List Ac}(h:Row w o t e size v n xs)(hn:0<n) :
  ∃ cap,v=Ai (some ⟨vi v,0,none⟩) n cap/\o (vi v)=t/\vi v<w.1.size:=by
 rcases h.own.2 with ⟨rfl,h2⟩|⟨g,cap,cur,rfl,_,hg,hn,hc,_⟩
 ·omega
 ·exact⟨cap,rfl,h.tag g rfl,(Qf.1 hg).1⟩
def V6 (q:List Nat)(n m x:Nat):(q.set m x).take n=(q.take n).set m x:=by
 rw[aU]
def xd (q:List Nat)(n m x:Nat)(h:m<n):(q.set m x).drop n=q.drop n:=by
 rw[aV,if_pos h]
def xm (q:List Nat)(n m x:Nat)(h:n<=m):(q.set m x).drop n=(q.drop n).set (m-n) x:=by
 rw[aV,if_neg (by omega)]
def ym (q:List Nat)(n m x:Nat)(h:n<=m):(q.set m x).take n=q.take n:=by
 rw[aU];exact List.set_eq_of_length_le (by simp;omega)
def Jn (vr vk vh vu:Ac)(L:Lg)(m:Nat)(a:Addr)(ha:(xo vr vk vh vu L)[m]?=some a) :
  (m<L.reads.length/\a=⟨vi vr,m,none⟩)\/(L.reads.length<=m/\m<L.reads.length+L.keeps.length/\a=⟨vi vk,m-L.reads.length,none⟩) \/
  (L.reads.length+L.keeps.length<=m/\m<L.reads.length+L.keeps.length+L.holds.length/\a=⟨vi vh,(m-(L.reads.length+L.keeps.length))*2,none⟩) \/
  (L.reads.length+L.keeps.length+L.holds.length<=m/\(xi (vi vu) 0 L.Az)[m-(L.reads.length+L.keeps.length+L.holds.length)]?=some a):=by
 unfold xo at ha;by_cases h1:m<L.reads.length
 ·left
  rw[Ad,Ad,Qm (by simpa using h1),Qj,aj h1]at ha
  refine⟨h1,?_⟩;simpa [Mw] using ha.symm
 ·right
  by_cases h2:m<L.reads.length+L.keeps.length
  ·left
   rw[Ad,Ad,Ql (by simp;omega),Qm (by simp;omega),Qj]at ha
   simp only[Qg,ag]at ha;rw[aj (by omega)]at ha
   refine⟨by omega,h2,?_⟩
   simpa [Mw] using ha.symm
  ·right
   by_cases h3:m<L.reads.length+L.keeps.length+L.holds.length
   ·left
    rw[Ad,Ql (by simp;omega),Qm (by simp;omega),Qj]at ha
    simp only[Qd,Qg,ag]at ha;rw[aj (by omega)]at ha
    refine⟨by omega,h3,?_⟩
    simpa [Mw] using ha.symm
   ·right
    rw[Ql (by simp;omega)]at ha
    simp only[Qd,Qg,ag]at ha;exact⟨by omega,ha⟩
def L2 (vr vk vh vu:Ac)(L:Lg){j:Nat}(h:j<L.reads.length):(xo vr vk vh vu L)[j]?=some ⟨vi vr,j,none⟩:=by
 unfold xo;rw[Ad,Ad,Qm (by simpa using h),Qj,aj h]
 simp[Mw]
def L1 (vr vk vh vu:Ac)(L:Lg){j:Nat}(h:j<L.keeps.length):(xo vr vk vh vu L)[L.reads.length+j]?=some ⟨vi vk,j,none⟩:=by
 unfold xo;rw[Ad,Ad,Ql (by simp),Qm (by simp;omega),Qj]
 simp only[Qg,ag];rw[show L.reads.length+j-L.reads.length=j from by omega,aj h]
 simp[Mw]
def L0 (vr vk vh vu:Ac)(L:Lg){j:Nat}(h:j<L.holds.length):(xo vr vk vh vu L)[L.reads.length+L.keeps.length+j]?=some ⟨vi vh,j*2,none⟩:=by
 unfold xo;rw[Ad,Ql (by simp<;>omega),Qm (by simp<;>omega),Qj]
 simp only[Qd,Qg,ag];rw[show L.reads.length+L.keeps.length+j-(L.reads.length+L.keeps.length)=j from by omega,aj h]
 simp[Mw]
def L3 (vr vk vh vu:Ac)(L:Lg)(j:Nat):(xo vr vk vh vu L)[L.reads.length+L.keeps.length+L.holds.length+j]?=(xi (vi vu) 0 L.Az)[j]?:=by
 unfold xo;rw[Ql (by simp<;>omega)]
 simp only[Qd,Qg,ag];rw[show L.reads.length+L.keeps.length+L.holds.length+j-(L.reads.length+L.keeps.length+L.holds.length)=j from by omega]
def kh (us:List Un)(j:Nat):Nat:=((us.take j).flatMap Un.places).length
def YM {us:List Un}{j:Nat}{u:Un}(h:us[j]?=some u):kh us (j+1)=kh us j+if u.kind=1 then 2 else 1:=by
 unfold kh;have hj:=(Qc.1 h);rw[List.take_succ_eq_append_getElem hj.1,hj.2,List.flatMap_append,Qd,aa,List.flatMap_nil,aC];unfold Un.places;split<;>simp
def WI (g:Nat):∀ (us:List Un)(b j:Nat)(u:Un),us[j]?=some u->(xi g b us)[kh us j]?=some ⟨g,(b+j)*4+1,none⟩/\(u.kind=1->(xi g b us)[kh us j+1]?=some ⟨g,(b+j)*4+3,none⟩)
 | [],_,_,_,h=>by simp at h
 | z::us,b,0,u,h=>by
  simp at h;subst h;have e:kh (z::us) 0=0:=rfl;rw[e];by_cases hk:z.kind=1
  ·unfold xi;rw[if_pos hk];exact⟨rfl,fun _=>rfl⟩
  ·unfold xi;rw[if_neg hk];exact⟨rfl,fun h=>absurd h hk⟩
 | z::us,b,j+1,u,h=>by
  obtain⟨h1,h2⟩:=WI g us (b+1) j u (by simpa using h)
  have e:kh (z::us) (j+1)=z.places.length+kh us j:=by unfold kh;rw[List.take_succ_cons,aa,Qd]
  rw[show b+(j+1)=b+1+j from by omega,e]
  by_cases hk:z.kind=1
  ·have hp:z.places.length=2:=by unfold Un.places;rw[if_pos hk];rfl
   unfold xi;rw[if_pos hk,hp,show 2+kh us j=kh us j+1+1 from by omega]
   exact⟨h1,h2⟩
  ·have hp:z.places.length=1:=by unfold Un.places;rw[if_neg hk];rfl
   unfold xi;rw[if_neg hk,hp,show 1+kh us j=kh us j+1 from by omega]
   exact⟨h1,h2⟩
def Row.ite {w:Aa}{o:Own}{t:Tag}{e:TypeId}{size n n':Nat}{v:Ac}{xs xs':List Ac}(h:Row w o t e size v n xs)(hn:n=n')(hx:xs=xs'):Row w o t e size v n' xs':=by subst hn hx;exact h
def addr_add (g j:Nat):(⟨g,0,none⟩:Addr).add j=⟨g,j,none⟩:=by unfold Addr.add;split<;>simp_all
def Nr (w:Aa)(o:Own)(id k b:Nat)(L:Lg)(vr vk vh vu:Ac)(q:List Nat)(m:Nat)(a:Addr):Prop:=
 w.cell? a=(q[m]?).map nv/\a.spot=none/\a.block<w.1.size/\w.frozen? a=false/\(∃ j,1<=j/\j<=4/\o a.block=(id,k+j))/\∀ x:Nat,BS (w.setCell a (nv x)) o id k b (L.put (q.set m x)) vr vk vh vu
def BS.place (q:List Nat)(hq:q.length=L.roots.length)(h:BS w o id k b (L.put q) vr vk vh vu){m:Nat}{a:Addr}(ha:(xo vr vk vh vu L)[m]?=some a):Nr w o id k b L vr vk vh vu q m a:=by
 have hl:L.roots.length=L.reads.length+L.keeps.length+L.holds.length+(L.Az.flatMap Un.places).length:=by unfold Lg.roots;simp only[Qd,Qg]
 have qQ:m<q.length:=by rw[hq,<-ky vr vk vh vu L];exact (Qc.1 ha).1
 have hstp:∀ (g c j:Nat)(u:Ac),o g=(id,k+j)->Stp (fun t=>t=(id,k+j)) o o w (w.setCell ⟨g,c,none⟩ u):=fun g c j u hg=>(Stp.refl _ o w).setCell (by show o g=_;exact hg) u
 have hblk:∀ (g c j:Nat)(u:Ac),1<=j->o g=(id,k+j)->An (w.setCell ⟨g,c,none⟩ u) b #[.int .i64 L.mr,.int .i64 L.mu,vr,vk,vh,vu] 219:=fun g c j u hj hg =>
  h.A2.Ar (hstp g c j u hg) (by rw[h.ob];simp;omega)
 have e1:(L.put q).reads=q.take L.reads.length:=rfl;have e2:(L.put q).keeps=(q.drop L.reads.length).take L.keeps.length:=rfl;have e3:(L.put q).holds=ks L.holds (q.drop (L.reads.length+L.keeps.length)):=rfl;have e4:(L.put q).Az=xa L.Az (q.drop (L.reads.length+L.keeps.length+L.holds.length)):=rfl;have l1:(L.put q).reads.length=L.reads.length:=by rw[e1,Qp];omega
 have l2:(L.put q).keeps.length=L.keeps.length:=by rw[e2,Qp,aB];omega
 have l3:(L.put q).holds.length=L.holds.length:=by rw[e3,fz]
 have l4:(L.put q).Az.length=L.Az.length:=by rw[e4,Tw]
 have k1:∀ x,(L.put (q.set m x)).reads.length=L.reads.length:=fun x=>by show (aX _ _).length=_;rw[Qp,Qq];omega
 have k2:∀ x,(L.put (q.set m x)).keeps.length=L.keeps.length:=fun x=>by show (aX _ (List.drop _ _)).length=_;rw[Qp,aB,Qq];omega
 have k3:∀ x,(L.put (q.set m x)).holds.length=L.holds.length:=fun x=>fz _ _
 have k4:∀ x,(L.put (q.set m x)).Az.length=L.Az.length:=fun x=>Tw _ _
 have hrr:=h.rr;have gP:=h.rk;have mZ:=h.rh;have tC:=h.ru;rw[l1]at hrr;rw[l2]at gP;rw[l3]at mZ;rw[l4]at tC;rcases Jn _ _ _ _ _ _ _ ha with ⟨hm,rfl⟩|⟨hm1,hm2,rfl⟩|⟨hm1,hm2,rfl⟩|⟨hm1,hu⟩
 ·obtain⟨cap,ev,ht,hlt⟩:=pz hrr (by omega)
  rw[ev]at hrr;have hc:=hrr.cells m (nv (q[m]'qQ)) (by rw[e1,Qj,aI hm,Qb qQ];rfl)
  refine⟨by rw[hc,Qb qQ];rfl,rfl,hlt,hrr.free m,⟨1,by omega,by omega,ht⟩,fun x=>?_⟩
  have hs:=hstp (vi vr) m 1 (nv x) ht;refine⟨hblk _ _ 1 _ (by omega) ht,?_,?_,?_,?_,h.ob⟩
  ·rw[ev]
   refine (hrr.Gm m (nv x)).ite (k1 x).symm ?_;show ((q.take L.reads.length).map nv).set m (nv x)=((q.set m x).take L.reads.length).map nv;rw[V6,aJ]
  ·refine (gP.Ar hs (by simp)).ite (k2 x).symm ?_
   show ((q.drop L.reads.length).take L.keeps.length).map nv=(((q.set m x).drop L.reads.length).take L.keeps.length).map nv;rw[xd _ _ _ _ hm]
  ·refine (mZ.Ar hs (by simp)).ite (k3 x).symm ?_
   show qg (ks L.holds (q.drop _))=qg (ks L.holds ((q.set m x).drop _));rw[xd _ _ _ _ (by omega)]
  ·refine (tC.Ar hs (by simp)).ite (k4 x).symm ?_
   show qz (xa L.Az (q.drop _))=qz (xa L.Az ((q.set m x).drop _));rw[xd _ _ _ _ (by omega)]
 ·obtain⟨cap,ev,ht,hlt⟩:=pz gP (by omega)
  rw[ev]at gP;have hc:=gP.cells (m-L.reads.length) (nv (q[m]'qQ)) (by
   rw[e2,Qj,aI (by omega),aG,show L.reads.length+(m-L.reads.length)=m from by omega,Qb qQ];rfl)
  refine⟨by rw[hc,Qb qQ];rfl,rfl,hlt,gP.free _,⟨2,by omega,by omega,ht⟩,fun x=>?_⟩
  have hs:=hstp (vi vk) (m-L.reads.length) 2 (nv x) ht;refine⟨hblk _ _ 2 _ (by omega) ht,?_,?_,?_,?_,h.ob⟩
  ·refine (hrr.Ar hs (by simp)).ite (k1 x).symm ?_
   show (q.take L.reads.length).map nv=((q.set m x).take L.reads.length).map nv;rw[ym _ _ _ _ hm1]
  ·rw[ev]
   refine (gP.Gm (m-L.reads.length) (nv x)).ite (k2 x).symm ?_;show (((q.drop L.reads.length).take L.keeps.length).map nv).set _ (nv x)=(((q.set m x).drop L.reads.length).take L.keeps.length).map nv;rw[xm _ _ _ _ hm1,V6,aJ]
  ·refine (mZ.Ar hs (by simp)).ite (k3 x).symm ?_
   show qg (ks L.holds (q.drop _))=qg (ks L.holds ((q.set m x).drop _));rw[xd _ _ _ _ (by omega)]
  ·refine (tC.Ar hs (by simp)).ite (k4 x).symm ?_
   show qz (xa L.Az (q.drop _))=qz (xa L.Az ((q.set m x).drop _));rw[xd _ _ _ _ (by omega)]
 ·obtain⟨cap,ev,ht,hlt⟩:=pz mZ (by omega)
  rw[ev]at mZ;have qR:=TX L.holds (q.drop (L.reads.length+L.keeps.length)) (m-(L.reads.length+L.keeps.length));have hcc:=(qR 0 (by omega) (by rw[aB];omega)).2
  rw[aG,show L.reads.length+L.keeps.length+(m-(L.reads.length+L.keeps.length))=m from by omega,Qb qQ]at hcc
  have hc:=mZ.own.cells (g:=vi vh) rfl _ _ (by rw[e3];exact hcc)
  rw[addr_add]at hc;refine⟨by rw[hc,Qb qQ];rfl,rfl,hlt,mZ.free _,⟨3,by omega,by omega,ht⟩,fun x=>?_⟩
  have hs:=hstp (vi vh) ((m-(L.reads.length+L.keeps.length))*2) 3 (nv x) ht;refine⟨hblk _ _ 3 _ (by omega) ht,?_,?_,?_,?_,h.ob⟩
  ·refine (hrr.Ar hs (by simp)).ite (k1 x).symm ?_
   show (q.take L.reads.length).map nv=((q.set m x).take L.reads.length).map nv;rw[ym _ _ _ _ (by omega)]
  ·refine (gP.Ar hs (by simp)).ite (k2 x).symm ?_
   show ((q.drop L.reads.length).take L.keeps.length).map nv=(((q.set m x).drop L.reads.length).take L.keeps.length).map nv;rw[xm _ _ _ _ (by omega),ym _ _ _ _ (by omega)]
  ·rw[ev]
   refine (mZ.Dm _ (nv x)).ite (k3 x).symm ?_;show (qg (ks L.holds (q.drop _))).set _ (nv x)=qg (ks L.holds ((q.set m x).drop _));rw[xm _ _ _ _ hm1,(qR x (by omega) (by rw[aB];omega)).1]
  ·refine (tC.Ar hs (by simp)).ite (k4 x).symm ?_
   show qz (xa L.Az (q.drop _))=qz (xa L.Az ((q.set m x).drop _));rw[xd _ _ _ _ (by omega)]
 ·have hmu:=KH hu
  have hpu:=fun x=>Tt (vi vu) L.Az 0 (q.drop (L.reads.length+L.keeps.length+L.holds.length)) _ x a hu (by rw[aB];omega)
  obtain⟨c0,ea0,_,hcc⟩:=hpu 0;have hup:0<L.Az.length:=by
   cases hL:L.Az with
   | nil=>rw[hL]at hu;simp[xi]at hu
   | cons u us=>simp
  obtain⟨cap,ev,ht,hlt⟩:=pz tC hup;rw[ev]at tC;simp only[Nat.zero_mul,Nat.zero_add]at ea0;subst ea0;rw[aG,show L.reads.length+L.keeps.length+L.holds.length+(m-(L.reads.length+L.keeps.length+L.holds.length))=m from by omega,Qb qQ]at hcc
  have hc:=tC.own.cells (g:=vi vu) rfl _ _ (by rw[e4];exact hcc)
  rw[addr_add]at hc;refine⟨by rw[hc,Qb qQ];rfl,rfl,hlt,tC.free _,⟨4,by omega,by omega,ht⟩,fun x=>?_⟩
  obtain⟨c,ea1,CL,_⟩:=hpu x;have hcx:c=c0:=by simp only[Nat.zero_mul,Nat.zero_add,Addr.mk.injEq,true_and,and_true]at ea1;exact ea1.symm
  subst hcx;have hs:=hstp (vi vu) c 4 (nv x) ht;refine⟨hblk _ _ 4 _ (by omega) ht,?_,?_,?_,?_,h.ob⟩
  ·refine (hrr.Ar hs (by simp)).ite (k1 x).symm ?_
   show (q.take L.reads.length).map nv=((q.set m x).take L.reads.length).map nv;rw[ym _ _ _ _ (by omega)]
  ·refine (gP.Ar hs (by simp)).ite (k2 x).symm ?_
   show ((q.drop L.reads.length).take L.keeps.length).map nv=(((q.set m x).drop L.reads.length).take L.keeps.length).map nv;rw[xm _ _ _ _ (by omega),ym _ _ _ _ (by omega)]
  ·refine (mZ.Ar hs (by simp)).ite (k3 x).symm ?_
   show qg (ks L.holds (q.drop _))=qg (ks L.holds ((q.set m x).drop _));rw[xm _ _ _ _ (by omega),XJ _ _ _ _ (by omega)]
  ·rw[ev]
   refine (tC.Dm c (nv x)).ite (k4 x).symm ?_;show (qz (xa L.Az (q.drop _))).set c (nv x)=qz (xa L.Az ((q.set m x).drop _));rw[xm _ _ _ _ hm1,CL]
end
end
section
open Go.RowKit Hp Go.Maps
attribute [local go_sem ↓] Go.wp_at_zero Go.wp_at_succ
def ES:List Nat->Nat->Option Nat
 | [],_=>none
 | q::l,p=>if q=p then some l.length else ES l p
def Na:List Nat->DataW Unit
 | []=>.map []
 | q::l=>(Na l).put (.int .i64 q) (.lit (.int .i64 l.length))
def Uc:∀ l,IsMap (Na l)
 | []=>isMap_empty
 | _::l=>(Uc l).put _ _
def Xt:∀ (l:List Nat)(p:Nat),aK (Na l) (.int .i64 p)=(ES l p).isSome
 | [],_=>rfl
 | q::l,p=>by
  unfold Na ES;by_cases e:q=p
  ·subst e
   rw[if_pos rfl,Maps.has_put_same (Uc l) (show WideAt.IsKeyLit (Lit.int .i64 (q:Int)) from trivial)];rfl
  ·rw[if_neg e,Maps.has_put_other (by simp;omega),Xt l p]
def Jx:∀ (l:List Nat)(p:Nat)(z:DataW Unit),(Na l).atKey (.int .i64 p) z=match ES l p with|some i=>.lit (.int .i64 i)|none=>z
 | [],_,_=>rfl
 | q::l,p,z=>by
  unfold Na ES;by_cases e:q=p
  ·subst e
   rw[if_pos rfl,Maps.atKey_put_same (Uc l) (show WideAt.IsKeyLit (Lit.int .i64 (q:Int)) from trivial)]
  ·rw[if_neg e,Maps.atKey_put_other (by simp;omega),Jx l p z]
def mD (P:List Nat):DataW Unit:=Na P.reverse
def Me (P:List Nat)(p:Nat):mD (P++[p])=(mD P).put (.int .i64 p) (.lit (.int .i64 P.length)):=by
 unfold mD;rw[List.reverse_append,List.reverse_singleton,List.singleton_append];show (Na P.reverse).put _ (.lit (.int .i64 P.reverse.length))=_;rw[List.length_reverse]
def here (P:List Nat)(p:Nat):Option Nat:=ES P.reverse p
def uh (P:List Nat)(p:Nat):List Nat:=if p=0\/(here P p).isSome=true then P else P++[p]
def fe (P:List Nat)(p:Nat):Int:=if p=0 then -1 else match here P p with|some i=>i|none=>-2
def Jw (P:List Nat)(p:Nat):aK (mD P) (.int .i64 p)=(here P p).isSome:=Xt _ _
def QQ (P:List Nat)(p:Nat)(z:DataW Unit):(mD P).atKey (.int .i64 p) z=match here P p with|some i=>.lit (.int .i64 i)|none=>z:=Jx _ _ _
def Q0:Keyed AId 3:=int_keyed underlying3
def RG (w:Aa):(zeroValue 3).run AId w=.ok (.int .i64 0) w:=by kernel_rfl
structure Cc (w:Aa)(o:Own)(c mb:Nat)(P:List Nat):Prop where
 A2:∃ vp,An w c #[vp,.map (some mb)] 253/\Row w o (50,1) 3 1 vp P.length (P.map nv)
 mp:w.ownsMap AId 3 (plainElem AId 3) mb P.length (mD P)
 oc:o c=(50,0)
 om:o mb=(50,2)
def Stp.JJ {w w':Aa}{o:Own}{b:Nat}(h:w.grownBy w' (some b)):Stp (fun t=>t=o b) o o w w':=
 ⟨h.os,h.tape,h.output,h.size,fun _ _=>rfl,fun k hk hn=>h.block k hk (fun e=>hn (by injection e with e;rw[e]))⟩
def mw {T:Tag->Prop}{w w':Aa}{o o':Own}{D:DataW Unit}{b n:Nat}(h:w.ownsMap AId 3 (plainElem AId 3) b n D)(k:Stp T o o' w w')(ht:¬T (o b)):w'.ownsMap AId 3 (plainElem AId 3) b n D:=by
 have hlt:=h.lt;obtain⟨es,clock,hb,F,hs,hD⟩:=h;exact⟨es,clock,(k.block b hlt ht).trans hb,F,hs,hD⟩
section
variable {w w' : Aa} {o o' : Own} {c mb : Nat} {P : List Nat}
def Cc.Ar {T:Tag->Prop}(h:Cc w o c mb P)(k:Stp T o o' w w')(h0:¬T (50,0))(h1:¬T (50,1))(h2:¬T (50,2)):Cc w' o' c mb P:=by
 obtain⟨vp,hb,hr⟩:=h.A2;exact⟨⟨vp,hb.Ar k (by rw[h.oc];exact h0),hr.Ar k h1⟩,mw h.mp k (by rw[h.om];exact h2),(k.tags _ hb.lt).trans h.oc,(k.tags _ h.mp.lt).trans h.om⟩
def Cc.below (h:Cc w o c mb P)(hb:Ae w.1.size w w'):Cc w' o c mb P:=h.Ar (T:=fun _=>False) (Stp.of_below hb) id id id
def VZ (h:Cc w o c mb P)(p:Nat)(hp:p<=1099511627776) :
  Ab AId 177 #[ptr c,.int .i64 p] w fun e w'=>e=O (.int .i64 (fe P p))/\w=w':=by
 unfold fe;by_cases h0:p=0
 ·subst h0
  rw[if_pos rfl];clear h;go_in;go_wp2_with fail;go_ret;exact⟨rfl,rfl⟩
 ·rw[if_neg h0]
  have hpb:((p:Int)==0)=false:=by rw[Qh];omega
  obtain⟨vp,jb,hr⟩:=h.A2;have hmp:=h.mp;have hkey:keyOf AId 3 (.int .i64 p)=some (.int .i64 p):=keyOf_int_mk underlying3 (aL (by omega))
  obtain⟨pa,cp,rfl⟩:=hr.A5;have cb:=jb.cell;have HM:=Qa hmp;have oJ:=Qa hkey;have hh:=Jw P p;have ha:=QQ P p (.lit (.int .i64 0))
  cases hi:here P p with
  | some i =>
   rw[hi]at hh ha;have hhas:aK (mD P) (.int .i64 p)=true:=hh;have HA:=Qa ha;clear h hmp hh ha hkey jb hr h0 hp hi;simp only;go_in;go_wp2_with (first
    | (at_lookup;refine wpList_lookup_own_ok_int _ rfl _ _ 83 rfl 3 3 .i64 Q0 underlying83 underlying3 (RG _) mb P.length (mD P) rfl HM.o _ _ rfl oJ.o ?_;intro cv hat hwc)
    | fail)
   go_ret;refine⟨nf ?_,rfl⟩;have e:=hat.symm.trans HA.o;injection e with e;injection e
  | none =>
   rw[hi]at hh ha;have hhas:aK (mD P) (.int .i64 p)=false:=hh;clear h hmp hh ha hkey jb hr h0 hp hi;simp only;go_in;go_wp2_with (first
    | (at_lookup;refine wpList_lookup_own_ok_int _ rfl _ _ 83 rfl 3 3 .i64 Q0 underlying83 underlying3 (RG _) mb P.length (mD P) rfl HM.o _ _ rfl oJ.o ?_;intro cv hat hwc)
    | fail)
   go_ret;exact⟨rfl,rfl⟩
def Xh (h:Cc w o c mb P) (hl:P.length<1000000) (p:Nat) (hp:p<=1099511627776) :
  Ab AId 236 #[ptr c,.int .i64 p] w fun e w'=>e=O (Ak #[])/\∃ o',Cc w' o' c mb (uh P p)/\Stp (fun t=>t=(50,0)\/t=(50,1)\/t=(50,2)) o o' w w':=by
 unfold uh;by_cases h0:p=0
 ·subst h0
  rw[if_pos (.inl rfl)];have HF:=Qa h;clear h;go_in;go_wp2_with fail;exact bodyPost_ret (v:=Ak #[]) (by simp[results,results236,go_sem]) rfl ⟨rfl,o,HF.o,Stp.refl _ _ _⟩
 ·have hpb:((p:Int)==0)=false:=by rw[Qh];omega
  obtain⟨vp,jb,hr⟩:=h.A2;have hmp:=h.mp;have hkey:keyOf AId 3 (.int .i64 p)=some (.int .i64 p):=keyOf_int_mk underlying3 (aL (by omega))
  obtain⟨pa,cp,rfl⟩:=hr.A5;have cb:=jb.cell;have HF:=Qa h;have HM:=Qa hmp;have oJ:=Qa hkey;have hh:=Jw P p
  cases hi:here P p with
  | some i =>
   rw[if_pos (.inr rfl)];rw[hi]at hh;have hhas:aK (mD P) (.int .i64 p)=true:=hh;clear h hmp hh hkey jb hr h0 hp hi;go_in;go_wp2_with (first
    | (at_lookup;refine wpList_lookup_own_ok_int _ rfl _ _ 83 rfl 3 3 .i64 Q0 underlying83 underlying3 (RG _) mb P.length (mD P) rfl HM.o _ _ rfl oJ.o ?_;intro cv hat hwc)
    | fail)
   exact bodyPost_ret (v:=Ak #[]) (by simp[results,results236,go_sem]) rfl ⟨rfl,o,HF.o,Stp.refl _ _ _⟩
  | none =>
   rw[if_neg (by simp[h0])]
   rw[hi]at hh;have hhas:aK (mD P) (.int .i64 p)=false:=hh;obtain⟨iI,hi2,hsI,cZ,bZ⟩:=zh;have hu64:=underlying25;obtain⟨n,hn⟩:=Ja0 P.length;rw[<-hn]at hl cb hr jb;have hup:=World.ownsMap.update (w:=w.drew) (t:=83) (e:=3) hmp Q0 underlying83 (by simp only[maxLen];omega) (key:=.int .i64 p) (val:=.int .i64 n) hkey (plainElem_int underlying3 (aL (n:=(n:Int)) (by omega)))
   obtain⟨w1,hrun,hm1,hg1⟩:=hup;have e0:=h.oc;have e2:=h.om;have k1:Stp (fun t=>t=(50,2)) o o w w1:=(Stp.of_below (qe (qc w))).trans ((Stp.JJ hg1).mono (by rintro _ rfl;exact e2))
   have j1:=jb.Ar k1 (by rw[e0];simp)
   have r1:=hr.Ar k1 (by simp)
   have hfin:=Qa (fun (w5:Aa) (o5:Own) (v5:Ac) (hown:Row w5 o5 (50,1) 3 1 v5 (n+1) (P.map nv++[.int .i64 p])) (hst:Stp (fun t=>t=(50,1)) o o5 (w1.alloc (.cells #[.int .i64 p] 3)) w5) =>
    show Cc (w5.setCell ⟨c,0,none⟩ v5) o5 c mb (P++[p])/\Stp (fun t=>t=(50,0)\/t=(50,1)\/t=(50,2)) o o5 w (w5.setCell ⟨c,0,none⟩ v5) from by
     have kb:Stp (fun t=>t=(50,1)) o o5 w1 w5:=(Stp.of_below (qa (qc w1) _)).trans hst;have j5:=j1.Ar kb (by rw[e0];simp)
     have e5:o5 c=(50,0):=(kb.tags _ j1.lt).trans e0;have k5:Stp (fun t=>t=(50,0)) o5 o5 w5 (w5.setCell ⟨c,0,none⟩ v5):=(Stp.refl _ o5 w5).setCell (by show o5 c=_;exact e5) _
     have m5:=mw hm1 kb (by rw[e2];simp)
     have e52:o5 mb=(50,2):=(kb.tags _ hm1.lt).trans e2;refine⟨⟨⟨v5,j5.set 0 v5,(hown.Ar k5 (by simp)).ite (by simp[hn]) (by simp[nv])⟩,?_,e5,e52⟩,(k1.mono fun _ h=>.inr (.inr h)).trans ((kb.mono fun _ h=>.inr (.inl h)).trans (k5.mono fun _ h=>.inl h))⟩
     have m6:=mw m5 k5 (by rw[e52];simp)
     rw[Me,Qd,List.length_singleton];rw[hn]at m6;exact m6)
   have c1:=j1.cell;have l1:=j1.lt;have dB:n+1<=maxLen:=by simp only[maxLen];omega
   have hmb:(n+1)*8<=140737488355328:=by omega
   have R1:=Qa r1;have J1:=Qa j1;have E0:=Qa e0;clear h hmp hh hkey jb hr h0 hp hi hn hl hm1 hg1 e2 k1 j1 r1 e0;go_in;go_upto_region 3 with (first
    | (at_lookup;refine wpList_lookup_own_ok_int _ rfl _ _ 83 rfl 3 3 .i64 Q0 underlying83 underlying3 (RG _) mb P.length (mD P) rfl HM.o _ _ rfl oJ.o ?_;intro cv hat hwc)
    | fail)
   go_region;go_wp2_with (first
    | (at_builtin;refine qf _ rfl _ _ _ rfl 3 iI _ 1 8 hu64 hi2 bZ hsI cZ rfl (by decide) o (50,1) _ _ _ rfl (R1.o.below (qa (qc w1) _)) ⟨w1.1.size,0,none⟩ 1 1 [.int .i64 p] rfl rfl (qv (An.new w1 _ _)) jd dB hmb ?_;intro v5 w5 hown hst;obtain⟨p5,c5',rfl⟩:=hown.A5;have j5:=(J1.o.alloc (.cells #[.int .i64 p] 3)).Ar hst (by rw[E0.o];simp);have c5:=j5.cell;have z5:=j5.free;have l5:=j5.lt)
    | fail)
   go_end0;exact⟨rfl,_,hfin.o _ _ _ hown hst⟩
end
end
section
open Go.RowKit Hp
attribute [local go_sem ↓] Go.wp_at_zero Go.wp_at_succ
def MW {H:Hp}(hk:H.ok){p:Nat}{ob:Ob}(hp:lk H.cur p=some ob):up H.cur p ob=H.cur:=by
 unfold up;refine (aO fun x hx=>?_).trans (aF _)
 split
 ·rename_i e
  obtain⟨q,y⟩:=x;simp only at e;subst e;rw[bq hk.cl hk.ck (zk hp) hx];rfl
 ·rfl
def um:∀ (l:List Nat)(p:Nat)(H:Hp),H.Ay (l++[p])=(((H.Ay l).1.AG p).1,(H.Ay l).2++[((H.Ay l).1.AG p).2])
 | [],p,H=>rfl
 | q::l,p,H=>by
  have:=um l p (H.AG q).1;show ((((H.AG q).1.Ay (l++[p])).1,(H.AG q).2::((H.AG q).1.Ay (l++[p])).2):Hp×List Nat)=_;rw[this];rfl
def Ki {H:Hp}(hw:H.wf)(hm:H.AL=true)(hs:H.scan≠H.top){ob:Ob}(hp:lk H.cur H.scan=some ob) :
  H.Bd=({ (H.Ay ob.AS).1 with cur:=up (H.Ay ob.AS).1.cur H.scan (ob.CS (H.Ay ob.AS).2),scan:=H.scan+BJ ob.size },true):=by
 unfold Hp.Bd;rw[if_neg (by rw[hm];simp[hs]),hp]
 simp only;unfold Ob.AS Ob.CS;split
 ·show _=(({ H with cur:=up H.cur H.scan ob,scan:=H.scan+BJ ob.size }:Hp),true)
  rw[MW hw.ok hp]
 ·rfl
section
variable {w w' : Aa} {o : Own} {l : Bo} {H : Hp} {vc vo vw vf : Ac} {f : Nat -> Nat}
abbrev DK (l:Bo):Tag:=(l.id+1,0)
def Q7 (l:Bo):¬zd l (DK l):=by unfold zd;simp
def AN.boxed (h:AN w o l H vc vo vw vf f){a:Addr}(ht:o a.block=DK l)(v:Ac):AN (w.setCell a v) o l H vc vo vw vf f:=by
 have hs:=(Stp.refl (fun t=>t=DK l) o w).setCell (a:=a) ht v
 have hn:∀ j,¬(l.id,j)=DK l:=fun j=>by simp
 exact⟨h.hb.Ar hs (by rw[h.oh];exact hn _),h.Cq.Ar hs (by rw[h.oa];exact hn _) (by rw[h.ow];exact hn _),h.rc.Ar hs (hn _),h.ro.Ar hs (hn _),h.rw.Ar hs (hn _),h.rf.Ar hs (hn _),h.oh,h.oa,h.ow,h.FC,h.Cs⟩
def set_mid {α:Type}(a b:List α)(x y:α):(a++x::b).set a.length y=(a++[y])++b:=by
 rw[List.set_append_right _ _ (Qk _)];simp
def AN.c0 (h:AN w o l H vc vo vw vf f):w.cell? ⟨l.h,0,none⟩=some (Ah (some ⟨l.a,0,none⟩)):=h.Bl
def AN.Gz (h:AN w o l H vc vo vw vf f):w.cell? ⟨l.h,12,none⟩=some (.int .i64 H.scan):=by rw[h.hb.cell];unfold Hp.cells;split<;>rfl
def MG (h0 : AN w o l H vc vo vw vf f) (hw : H.wf) (hm : H.AL = true) (hs : H.scan ≠ H.top) :
    Ab AId 129 #[Ah (some ⟨l.h, 0, none⟩)] w fun e w' => e = O (.bool H.Bd.2) /\ Gd w o l H.Bd.1 vo vw vf w' := by
  obtain ⟨o1, ho1⟩ : ∃ o1, o1 = ext o w.1.size (DK l) := ⟨_, rfl⟩;have h := h0.retag (o' := o1) fun b hb => by rw [ho1]; exact qj hb
  have hS0 : Stp (zd l) o o1 w w := by rw [ho1]; exact (Stp.refl _ o w).ext _ _ (Qk _)
  have hbx : ∀ b, w.1.size <= b -> o1 b = DK l := fun b hb => by rw [ho1]; exact qp hb
  have dU : ∀ n, w.1.size <= n -> ext o1 n (DK l) = o1 := fun n hn => by rw [ho1]; exact QZ _ _ _ _ hn
  clear ho1 h0;obtain ⟨ob, hp, _⟩ := RX hw hm hs;rw [Ki hw hm hs hp];have hk := hw.ok;obtain ⟨ha, ho, hl, _⟩ := h.at_ hk hp;have hsb := Ug hw hp;have HM := Qa (xc h);rw [hm] at HM;have HD := uq h;rw [decide_eq_false hs] at HD;replace HD := Qa HD;have kY := Qa (fun (W : Aa) (hb : Ae w.1.size w W) => jy (h.Cq.below hb) ha ho hl H.scan rfl)
  have qJ := Qa (fun (W : Aa) (hb : Ae w.1.size w W) => Vn (h.Cq.below hb) ha ho hl)
  have HZ := Qa (fun W => xx ob.AM ho.AM W)
  have cO := Ob.AW ho;have hsz : ob.size = 3 + ob.AM.p + ob.AM.d := rfl;have HN := Qa (fun W => me (3 + ob.AM.p + ob.AM.d) (by omega) (by omega) _ rfl W)
  have hpb : ∀ x ∈ ob.AS, x <= 131072 := fun x hx => by
    unfold Ob.AS at hx;split at hx
    · cases hx
    · exact ho.ptr x hx
  have HI := Qa h;have jF := Qa hS0;have HB := Qa hbx;have HE := Qa dU;have HW := Qa hw;have HP := Qa hp;have HO := Qa ho;have HPB := Qa hpb;have HSB := Qa hsb;have zL : ob.AS.length <= 8 := by
    unfold Ob.AS;split
    · exact Nat.zero_le _
    · rw [ho.lp]; exact ho.AM.1
  have hok0 := h.hb.lt;have c0 := fun W (hb : Ae w.1.size w W) => (h.below hb).c0
  have Gz := fun W (hb : Ae w.1.size w W) => (h.below hb).Gz
  have C0 := Qa c0;have C12 := Qa Gz;clear c0 Gz h hS0 hbx dU hw hm hs hp hk ha ho hl hpb hsb;go_in;go_wp2_with fail;refine HM.out.mono ?_;rintro e w1 ⟨rfl, rfl⟩;go_wp2_with fail;refine HD.out.mono ?_;rintro e w1 ⟨rfl, b1⟩;have k0 := C0.out _ b1;have k12 := C12.out _ b1;have s1 : l.h < w1.1.size := Qn hok0 b1.size;have hn1 := World.new_ne w1 ⟨l.h, 0, none⟩ k0;go_upto_region 3 with fail;go_cut [3, 5] (fun t3 t5 wx => ∃ B, t3 = Ah (some ⟨B, 0, none⟩) /\ t5 = .int .i64 0 /\ An wx B #[.int .i64 ob.AM.p, .int .i64 ob.AM.d, .bool ob.AM.AA, .bool ob.AM.final] 93 /\ Ae w1.1.size w1 wx /\ w1.1.size <= B)
  case first =>
    go_region_with (first | (go_at_call 130; refine (kY.out _ (by first | exact qe b1 | exact qe (qa b1 _) | exact qa (qe b1) _)).mono ?_; rintro e w4 ⟨rfl, hb4⟩; try (have dP : An w4 w1.1.size #[.int .i64 0, .int .i64 0, .bool false, .bool false] 93 := An.below (qi (An.new w1 _ _)) hb4 (by simp); have yR := dP.cell; have zB4 := dP.free; have sB4 := dP.lt)) | fail)
    all_goals
      go_wp2_with fail;go_meet;have hs4 : w1.1.size <= w4.1.size := by have := hb4.size; simp at this; omega
      first
        | (refine ⟨w4.1.size, by with_reducible rfl, rfl, ?_, ?_, hs4⟩
           · exact An.new _ _ _
           · exact qa (qd (qe (qc w1)) hb4) _)
        | (refine ⟨w1.1.size, by with_reducible rfl, rfl, ?_, ?_, Qk _⟩
           · have h8 := (((dP.set 0 (.int .i64 ob.AM.p)).set 1 (.int .i64 ob.AM.d)).set 2 (.bool ob.AM.AA)).set 3 (.bool ob.AM.final)
             simp only [Array.setIfInBounds_def] at h8;simpa using h8
           · exact qm (qm (qm (qm (qd (qe (qa (qc w1) _)) hb4) (Qk _) _) (Qk _) _) (Qk _) _) (Qk _) _)
  case rest =>
    obtain ⟨B, rfl, rfl, jB, hbc, rW⟩ := hcut;have b2 := qd b1 hbc;have hBw : w.1.size <= B := Qo b1.size rW;clear k0 k12 s1 hn1 hbc b1 rW;have k0 := C0.out _ b2;have k12 := C12.out _ b2;go_upto_region 6 with fail;go_cut [5, 6] (fun t5 t6 wx => ∃ pa cp, t5 = .int .i64 0 /\ t6 = .slice pa ob.AS.length cp /\ Row wx o1 (DK l) 3 1 (.slice pa ob.AS.length cp) ob.AS.length (ob.AS.map nv) /\ Ae w.1.size w wx /\ An wx B #[.int .i64 ob.AM.p, .int .i64 ob.AM.d, .bool ob.AM.AA, .bool ob.AM.final] 93 /\ ∀ b, (Value.slice pa ob.AS.length cp).ownBlock = some b -> w.1.size <= b)
    case first =>
      go_region_with (first | (go_at_call 194; refine (qJ.out _ (qe b2)).mono ?_; rintro e w6 ⟨v, rfl, eY, hb6⟩) | fail)
      all_goals
        go_wp2_with fail;go_meet;obtain ⟨pa, cp, rfl⟩ := eY.A5;have hge := eY.Pa;have eY := eY.out o1 (DK l);rw [HE.out _ (qe b2).size] at eY;exact ⟨pa, cp, rfl, rfl, eY, qd (qe b2) hb6, (qi jB).below hb6 (qi jB).lt, fun b hb => Qo (qe b2).size (hge b hb)⟩
    case rest =>
    clear k0 k12;obtain ⟨pa, cp, rfl, rfl, eY, b6, jB6, Adc⟩ := hcut;clear jB b2;generalize wc = w6 at *;obtain ⟨n, hn⟩ : ∃ n, n = ob.AS.length := ⟨_, rfl⟩;have kU := Qa hn;rw [<- hn] at eY zL ⊢;have vC : (n : Int) <= 8 := by omega
    have Ads : Row w6 o1 (DK l) 3 1 (.slice pa n cp) n (((H.Ay (ob.AS.take 0)).2 ++ ob.AS.drop 0).map nv) := by simpa [Hp.Ay] using eY
    have hI6 := HI.out.below b6;have HGe := Qa Adc;have Abt := HB.out B hBw;have eX : Stp (zd l) o1 o1 w w6 := Stp.of_below b6;clear hn eY b6 Adc;go_wp2_with fail;go_loopw [52] (fun ix wr => ∃ (k : Nat) (bX : Ac) (f' : Nat -> Nat) (o' : Own), ix = .int .i64 k /\ k <= n /\ AN wr o' l (H.Ay (ob.AS.take k)).1 bX vo vw vf f' /\ Stp (zd l) o1 o' w wr /\ Row wr o' (DK l) 3 1 (.slice pa n cp) n (((H.Ay (ob.AS.take k)).2 ++ ob.AS.drop k).map nv) /\ An wr B #[.int .i64 ob.AM.p, .int .i64 ob.AM.d, .bool ob.AM.AA, .bool ob.AM.final] 93 /\ o' B = DK l) (fun ix _ => n - (intOf ix).toNat)
    case atStart => exact ⟨0, vc, f, o1, rfl, by omega, hI6, eX, Ads, jB6, Abt⟩
    case round =>
      obtain ⟨k, bX, f', o', rfl, hkn, hI, hS, hR, hJ, hBt⟩ := hrel;clear hI6 Ads jB6 eX Abt;by_cases hlt : k < n
      · have eO : (k : Int) < (n : Int) := by omega
        have hk8 : (k : Int) < 8 := by omega
        obtain ⟨x, hx⟩ : ∃ x, ob.AS[k]? = some x := ⟨_, Qb (by rw [<- kU.out]; omega)⟩
        have htk := jt hx;have Gk : ob.AS.drop k = x :: ob.AS.drop (k + 1) := by
          have := (Qc.1 hx);obtain ⟨h1, h2⟩ := this;rw [<- h2]; exact aH h1
        have hwk := (Hp.Ct (ob.AS.take k) HW.out).ok;have hsn := um (ob.AS.take k) x H;rw [<- htk] at hsn;have hlen : (H.Ay (ob.AS.take k)).2.length = k := by rw [ko, Qp, <- kU.out]; omega
        have nU := Qa hsn;rw [Gk] at hR;generalize H.Ay (ob.AS.take k) = r at *;obtain ⟨Hk, lk'⟩ := r;simp only at hI hR hwk hlen nU;rcases hR.shape with ⟨_, h0⟩ | ⟨g, c, e1, hnc, hcm⟩
        · omega
        · injection e1 with e1 _ e3
          subst e1 e3;have CL : (lk' ++ x :: ob.AS.drop (k + 1)).set k (Hk.AG x).2 = (lk' ++ [(Hk.AG x).2]) ++ ob.AS.drop (k + 1) := by
            have := set_mid lk' (ob.AS.drop (k + 1)) x (Hk.AG x).2;rwa [hlen] at this
          have cx : wr.cell? ⟨g, k, none⟩ = some (.int .i64 x) := by
            refine hR.cells k _ ?_;rw [Qj, Ql (by omega), hlen]; simp [nv]
          have vZ := Qa (br hI hwk x);have wJ := Qa CL;have HLen := Qa hlen;have jJ := Qa hS;have HR := Qa hR;have HJ := Qa hJ;have vS := Qa hBt;have hgl := hR.blt;clear hsn Gk htk CL hwk hlen hx hI hS hR hJ hBt;go_wp2_with fail;refine vZ.out.mono ?_;rintro e w7 ⟨rfl, vc7, f7, o7, hI7, mQ⟩;have iV := HR.out.Ar mQ (Q7 l);have hJ7 := HJ.out.Ar mQ (by rw [vS.out]; exact Q7 l)
          have z7 := iV.free k;have s7 := iV.blt;obtain ⟨u7, c7⟩ : ∃ u, w7.cell? ⟨g, k, none⟩ = some u := by
            have h1 : k < (aY nv (lk' ++ x :: ob.AS.drop (k + 1))).length := by rw [iV.len]; omega
            exact ⟨_, iV.cells k _ (Qb h1)⟩
          have hfin := Qa (show ∃ (bX : Ac) (f' : Nat -> Nat) (o' : Own), AN (w7.setCell ⟨g, k, none⟩ (.int .i64 (Hk.AG x).2)) o' l (H.Ay (ob.AS.take (k + 1))).1 bX vo vw vf f' /\ Stp (zd l) o1 o' w (w7.setCell ⟨g, k, none⟩ (.int .i64 (Hk.AG x).2)) /\ Row (w7.setCell ⟨g, k, none⟩ (.int .i64 (Hk.AG x).2)) o' (DK l) 3 1 (Ai (some ⟨g, 0, none⟩) n cp) n (((H.Ay (ob.AS.take (k + 1))).2 ++ ob.AS.drop (k + 1)).map nv) /\ An (w7.setCell ⟨g, k, none⟩ (.int .i64 (Hk.AG x).2)) B #[.int .i64 ob.AM.p, .int .i64 ob.AM.d, .bool ob.AM.AA, .bool ob.AM.final] 93 /\ o' B = DK l from by
            have hgB : B ≠ g := fun e => by
              subst e;have h1 := hJ7;unfold An at h1;rcases iV.own.2 with ⟨h', _⟩ | ⟨g', cap', cur, h', _, hg, _⟩
              · simp at h'
              · injection h' with h' _ _
                injection h' with h';injection h' with h' _ _;subst h';rw [h1] at hg;injection hg with hg;injection hg with _ hg _;exact absurd hg (by decide)
            rw [nU.out];refine ⟨vc7, f7, o7, hI7.boxed iV.EG _, ?_, ?_, hJ7.Ao hgB _, (mQ.tags _ HJ.out.lt).trans vS.out⟩
            · exact (jJ.out.trans mQ).setCell_new (HGe.out g rfl) _
            · have := iV.Gm k (.int .i64 (Hk.AG x).2)
              rw [show (Value.int IntKind.i64 ((Hk.AG x).2 : Nat)) = nv (Hk.AG x).2 from rfl, <- aJ, wJ.out] at this;exact this)
          clear iV hJ7 mQ hI7;go_wp2_with fail;obtain ⟨yF, f8, o8, g1, g2, g3, g4, g5⟩ := hfin.out;go_roundw
          case rel => exact ⟨k + 1, yF, f8, o8, by simp, by omega, g1, g2, g3, g4, g5⟩
          case measure => simp [intOf]; omega
      · obtain rfl : k = n := by omega
        clear hlt;rw [kU.out, ay] at hI;rw [kU.out, ay, aQ, aC, <- kU.out] at hR;have hwk := (Hp.Ct ob.AS HW.out);have hmp := cw ob.AS HP.out;have hpb := ce ob.AS HW.out.ok HPB.out;have hlen := ko ob.AS H;obtain ⟨s1, s2, s3, s4, s5, s6, s7, s8⟩ := zo ob.AS H;have hsc : (H.Ay ob.AS).1.scan = H.scan := s4;clear s1 s2 s3 s4 s5 s6 s7 s8;generalize hr : H.Ay ob.AS = r at *;obtain ⟨Hk, ps⟩ := r;have HRr := Qa hr;clear hr;simp only at hI hR hwk hmp hpb hlen hsc;obtain ⟨ha, ho, hl, _⟩ := hI.at_ hwk.ok hmp;have Ady : ∀ W', Wr l.wd wr W' -> Ints W' (.slice pa k cp) ps := fun W' iX => by
          have := (hR.Ar (Stp.Cg (T := fun t => t = (l.id, 2)) iX hI.ow) (by simp))
          rw [show k = ps.length from by rw [hlen, kU.out]] at this ⊢
          exact this.ints
        have wH := Qa (Ys (hI.Cq.below (qe (qc wr))) ha ho hl ps hpb (by rw [hlen]) (v := .slice pa k cp) (fun W' iX => Ady W' iX.Ey))
        have c0 := hI.c0;have Gz := hI.Gz;rw [hsc] at Gz;have qF := Qa hI;have jJ := Qa hS;have HJ := Qa hJ;have oQ := Qa hwk;have HMp := Qa hmp;have Adm : B ≠ l.wd := fun e => by have h1 := hBt; rw [e, hI.ow] at h1; simp at h1
        have HNe := Qa Adm;have Azk := HSB.out;have Alq : (H.scan : Int) + (BJ ob.size : Int) <= 65536 := by omega
        clear hI hS hR hJ hBt hwk hmp hpb hlen ha ho hl Ady Adm;go_upto_region 14 with fail;go_still_tail 9, (by kernel_rfl)
        change wpList _ _ _ _ _ wr.drew;go_wp2_with fail;refine wH.out.mono ?_;rintro e w9 ⟨rfl, f9, zF, hR9, hO9, hE9⟩;have hI9 := (qF.out.below (qe (qc wr))).MQ oQ.out.ok HMp.out zF hR9 hE9 hO9;have hJ9 := (qi HJ.out).wr hR9 HNe.out;have hS9 : Stp (zd l) o1 o' w w9 := jJ.out.trans ((Stp.of_below (qe (qc wr))).trans (Stp.Cg hR9 (by rw [qF.out.ow]; exact ⟨rfl, by simp⟩)))
        clear c0 Gz zF hR9 hO9 hE9;have cB := hJ9.cell;go_wp2_with fail;refine (HZ.out _).mono ?_;rintro e w10 ⟨rfl, iH⟩;clear cB;go_wp2_with fail;refine (HN.out _).mono ?_;rintro e w11 ⟨rfl, mW⟩;have iC := (hI9.below iH).below mW;have Acf := (hS9.trans (Stp.of_below iH)).trans (Stp.of_below mW);clear hI9 iH mW hS9 hJ9;have Gz := iC.Gz;have z12 := iC.hb.free 12;have s12 := iC.hb.lt;simp only [hsc] at Gz;rw [hsz] at Alq;have hfin := Qa (show Gd w o l { Hk with cur := up Hk.cur H.scan (ob.CS ps), scan := H.scan + BJ ob.size } vo vw vf (w11.setCell ⟨l.h, 12, none⟩ (.int .i64 ((H.scan : Int) + (BJ (3 + ob.AM.p + ob.AM.d) : Nat)))) from by
          have e1 : ((H.scan : Int) + (BJ (3 + ob.AM.p + ob.AM.d) : Nat)) = ((H.scan + BJ ob.size : Nat) : Int) := by rw [hsz]; omega
          rw [e1];have hb := iC.hb.set 12 (.int .i64 ((H.scan + BJ ob.size : Nat) : Int));rw [qkv] at hb;exact ⟨bX, f9, o', iC.Gk hb ((Stp.refl _ o' w11).setCell (by exact iC.oh) _) rfl rfl rfl rfl rfl rfl, jF.out.trans (Acf.setCell (by show zd l (o' l.h); rw [iC.oh]; exact ⟨rfl, by simp⟩) _)⟩)
        clear iC Acf hsz;go_wp2_with fail;go_ret;exact ⟨rfl, by rw [HRr.out]; exact hfin.out⟩
def MH (h:AN w o l H vc vo vw vf f)(hm:H.AL=false\/H.scan=H.top) :
  Ab AId 129 #[Ah (some ⟨l.h,0,none⟩)] w fun e w'=>e=O (.bool false)/\Ae w.1.size w w':=by
 have HM:=xc h;have HD:=uq h;rcases hm with hm|hm
 ·rw[hm]at HM
  replace HM:=Qa HM;clear h hm HD;go_in;go_wp2_with fail;refine HM.o.mono ?_;rintro e w1 ⟨rfl,rfl⟩;go_wp2_with fail;go_ret;exact⟨rfl,qc _⟩
 ·rw[decide_eq_true hm]at HD
  generalize H.AL=mv at HM;replace HM:=Qa HM;replace HD:=Qa HD;clear h hm
  cases mv
  ·go_in
   go_wp2_with fail;refine HM.o.mono ?_;rintro e w1 ⟨rfl,rfl⟩;go_wp2_with fail;go_ret;exact⟨rfl,qc _⟩
  ·go_in
   go_wp2_with fail;refine HM.o.mono ?_;rintro e w1 ⟨rfl,rfl⟩;go_wp2_with fail;refine HD.o.mono ?_;rintro e w1 ⟨rfl,hb⟩;go_wp2_with fail;go_ret;exact⟨rfl,hb⟩
def Kj (h:AN w o l H vc vo vw vf f)(hw:H.wf) :
  Ab AId 129 #[Ah (some ⟨l.h,0,none⟩)] w fun e w'=>e=O (.bool H.Bd.2)/\Gd w o l H.Bd.1 vo vw vf w':=by
 by_cases hm:H.AL=false\/H.scan=H.top
 ·have e1:H.Bd=(H,false):=by unfold Hp.Bd;rw[if_pos hm]
  rw[e1];exact (MH h hm).mono fun _ _ ⟨a,b⟩=>⟨a,h.B3 b⟩
 ·refine MG h hw ?_ fun e=>hm (.inr e)
  cases hmm:H.AL
  ·exact absurd (.inl hmm) hm
  ·rfl
end
def Jp {n:Nat}(h:n<=1099511627776):n+1<=maxLen/\(n+1)*8<=140737488355328:=by
 simp only[maxLen];omega
def T2 (t:Tag):Prop:=t=(1,0)\/t=(2,0)
def EK:Own:=fun _=>(0,0)
def T2.below {w w':Aa}{o':Own}(h:Stp T2 EK o' w w'):Ae w.1.size w w':=h.below fun b _ hh=>by rcases hh with hh|hh<;>simp[EK]at hh
def mix (o o':Own)(n:Nat)(t1 t2:Tag):Own:=fun b=>if b<n then o b else if o' b=(1,0) then t1 else t2
def Uo {o o':Own}{n b:Nat}{t1 t2:Tag}(h:b<n):mix o o' n t1 t2 b=o b:=by unfold mix;rw[if_pos h]
def Row.N7 {w w':Aa}{o':Own}{e:TypeId}{size k:Nat}{v:Ac}{xs:List Ac}(hs:Stp T2 EK o' w w')(h:Row w' o' (1,0) e size v k xs)(o:Own)(t1 t2:Tag):Row w' (mix o o' w.1.size t1 t2) t1 e size v k xs:=by
 refine⟨h.own,fun b hb=>?_⟩
 have h1:=h.tag b hb;unfold mix;rw[if_neg,if_pos h1];intro h2;rw[hs.tags b h2]at h1;simp[EK]at h1
def Row.SN {w w':Aa}{o':Own}{e:TypeId}{size k:Nat}{v:Ac}{xs:List Ac}(hs:Stp T2 EK o' w w')(h:Row w' o' (2,0) e size v k xs)(o:Own)(t1 t2:Tag):Row w' (mix o o' w.1.size t1 t2) t2 e size v k xs:=by
 refine⟨h.own,fun b hb=>?_⟩
 have h1:=h.tag b hb;unfold mix;rw[if_neg,if_neg]
 ·rw[h1];simp
 ·intro h2
  rw[hs.tags b h2]at h1;simp[EK]at h1
def Row.Mh {w w':Aa}{o':Own}{e:TypeId}{size k:Nat}{v:Ac}{xs:List Ac}(hs:Stp T2 EK o' w w')(h:Row w' o' (2,0) e size v k xs):∀ b,v.ownBlock=some b->w.1.size<=b:=fun b hb=>by
 have h1:=h.tag b hb;refine Nat.le_of_not_lt fun h2=>?_
 rw[hs.tags b h2]at h1;simp[EK]at h1
def qpj (H:Hp)(l:List Nat)(p:Nat):H.stay (l++[p])=H.stay l++(match H.nowAt p with|some q=>[q]|none=>[]):=by
 unfold Hp.stay;rw[List.filterMap_append]
 cases h:H.nowAt p<;>simp[h]
def qoz (H:Hp)(l:List Nat)(p:Nat):H.B2 (l++[p])=H.B2 l++(match H.nowAt p with|some _=>[]|none=>[p]):=by
 unfold Hp.B2;rw[List.filter_append]
 cases h:H.nowAt p<;>simp[h]
section
variable {w w' : Aa} {o : Own} {l : Bo} {H : Hp} {vc vo vw vf : Ac} {f : Nat -> Nat}
def XR (h:AN w o l H vc vo vw vf f)(hk:H.ok){p:Nat}{ob:Ob}(hp:Bg H.old p=some (ob,none)) :
  Ab AId 181 #[Ah (some ⟨l.a,0,none⟩),.int .i64 p] w fun e w'=>e=O (Ak #[.int .i64 0,.bool false])/\w=w':=by
 obtain⟨ho,_,_,hl⟩:=fj hk hp;exact Jz h.Cq ((h.Cs _ (ke hp)).1 rfl) ho hl
def XG (h:AN w o l H vc vo vw vf f)(hk:H.ok){p q:Nat}{ob:Ob}(hp:Bg H.old p=some (ob,some q)) :
  Ab AId 181 #[Ah (some ⟨l.a,0,none⟩),.int .i64 p] w fun e w'=>e=O (Ak #[.int .i64 q,.bool true])/\w=w':=by
 obtain⟨ho,_,_,hl⟩:=fj hk hp;have hs:=Ob.AW ho;have hq:=hk.gone _ (ke hp) q rfl;exact WR h.Cq (by omega) q hq.1 hq.2 ((h.Cs _ (ke hp)).2 q rfl)
def sn (h:AN w o l H vc vo vw vf f)(hk:H.ok)(ps:List Nat)(hps:ps.length<=1099511627776){v:Ac}(hv:Ints w v ps) :
  Ab AId 241 #[Ah (some ⟨l.h,0,none⟩),v] w fun e w'=>∃ v1 v2 o',e=O (Ak #[v1,v2]) /\
   Row w' o' (1,0) 3 1 v1 (H.stay ps).length ((H.stay ps).map nv)/\Row w' o' (2,0) 3 1 v2 (H.B2 ps).length ((H.B2 ps).map nv)/\Stp T2 EK o' w w':=by
 have HI:=Qa h;have HK:=Qa hk;have HV:=Qa (fun w' (hb:Ae w.1.size w w')=>hv.below hb)
 have rC:=Qa hps;obtain⟨va,vcp,rfl⟩:∃ a c,v=.slice a ps.length c:=by
  obtain⟨a',c',e,_⟩:=hv;exact⟨a',c',e⟩
 obtain⟨n,hn⟩:=Ja0 ps.length;have HN:=Qa hn;rw[<-hn]at HV hps ⊢;have vC:(n:Int)<=1099511627776:=by omega
 obtain⟨iI,hi,hsI,cZ,bZ⟩:=zh;have hu64:=underlying25;clear h hk hv hps hn;go_in;go_wp2_with fail;go_loopw [4,5,12] (fun a b ix wr=>∃ (k:Nat)(o':Own),ix=.int .i64 k/\k<=n/\Row wr o' (1,0) 3 1 a (H.stay (ps.take k)).length ((H.stay (ps.take k)).map nv)/\Row wr o' (2,0) 3 1 b (H.B2 (ps.take k)).length ((H.B2 (ps.take k)).map nv)/\Stp T2 EK o' w wr) (fun _ _ ix _=>n-(intOf ix).toNat)
 case atStart=>exact⟨0,EK,rfl,by omega,Row.nil _ _ _ _ _,Row.nil _ _ _ _ _,Stp.refl _ _ _⟩
 case round =>
  obtain⟨k,o',rfl,hkn,hr1,hr2,hS⟩:=hrel;by_cases hlt:k<n
  ·have eO:(k:Int)<(n:Int):=by omega
   have Akv:(k:Int)<1099511627776:=by omega
   obtain⟨x,hx⟩:∃ x,ps[k]?=some x:=⟨_,Qb (by rw[<-HN.o];omega)⟩
   have htk:=jt hx;have hbr:=T2.below hS;have hst:=qpj H (ps.take k) x;have hgn:=qoz H (ps.take k) x;rw[<-htk]at hst hgn;have hsl:=kr H (ps.take k);have htl:(ps.take k).length=k:=by rw[Qp,<-HN.o];omega
   have wZ:=bm (HI.o.below hbr) HK.o x;rcases (HV.o wr hbr).form with ⟨e1,_⟩|⟨g,off,c,e1,hnc,hcm,hg,hcell⟩
   ·rw[e1]at hx;simp at hx
   ·injection e1 with e1 e2 e3
    subst e1 e3;clear e2;have cx:wr.cell? ⟨g,off+k,none⟩=some (.int .i64 x):=hcell k x hx;have hlen1:(H.stay (ps.take k)).length<=1099511627776/\(H.B2 (ps.take k)).length<=1099511627776:=by have:=rC.o;have:=HN.o;omega
    obtain⟨hlen1,lI⟩:=hlen1;have HL1:=Qa (Jp hlen1);have HL2:=Qa (Jp lI);have HS:=Qa hS;have HR1:=Qa hr1;have HR2:=Qa hr2;obtain⟨fI,fC,rfl⟩:=hr1.A5;obtain⟨il,cp2,rfl⟩:=hr2.A5;unfold Hp.nowAt at hst hgn;clear hcell hsl htl htk hS hr1 hr2 hlen1 lI
    cases ho:Bg H.old x with
    | none =>
     rw[ho]at wZ hst hgn;have gH:=Qa wZ;have qJ:=Qa hst;have HGn:=Qa hgn;clear wZ hst hgn ho hx;go_wp2_with fail;refine gH.o.mono ?_;rintro e w3 ⟨rfl,hb3⟩;go_wp2_with (first|(at_builtin;refine qf _ rfl _ _ _ rfl 3 iI _ 1 8 hu64 hi bZ hsI cZ rfl (by decide) o' (1,0) _ _ _ rfl (Row.below (Row.below HR1.o hb3) (qa (qc w3) _)) ⟨w3.1.size,0,none⟩ 1 1 [.int .i64 x] rfl rfl (qv (An.new w3 _ _)) jd HL1.o.1 HL1.o.2 ?_;intro v' w8 hown hst;obtain⟨pa8,cp8,rfl⟩:=hown.A5)|fail)
     have dC:Stp T2 EK o' w (w3.alloc (.cells #[.int .i64 x] 3)):=(HS.o.trans (Stp.of_below hb3)).trans (Stp.of_below (qa (qc w3) _));have hS8:=dC.trans (hst.mono fun _ e=>Or.inl e);have hR2:=(Row.below (Row.below HR2.o hb3) (qa (qc w3) (.cells #[.int .i64 x] 3))).Ar hst (by simp)
     go_roundw
     case rel=>exact⟨k+1,_,by simp,by omega,by rw[qJ.o,Qd,wb];exact hown,by rw[HGn.o];simpa using hR2,hS8⟩
     case measure=>simp[intOf];omega
    | some z =>
     obtain⟨ob,gq⟩:=z;rw[ho]at wZ hst hgn;have gH:=Qa wZ;have qJ:=Qa hst;have HGn:=Qa hgn;have uH:=Qa (fun w4 (hb:Ae w.1.size w w4)=>(HI.o.below hb).c0)
     cases gq with
     | none =>
      have vR:=Qa (fun w4 (hb:Ae w.1.size w w4)=>XR (HI.o.below hb) HK.o ho);clear wZ hst hgn ho hx;go_wp2_with fail;refine gH.o.mono ?_;rintro e w3 ⟨rfl,hb3⟩;have c0:=uH.o _ (qd hbr hb3);go_wp2_with fail;refine (vR.o _ (qd hbr hb3)).mono ?_;rintro e w4 ⟨rfl,rfl⟩;clear c0;go_wp2_with (first|(at_builtin;refine qf _ rfl _ _ _ rfl 3 iI _ 1 8 hu64 hi bZ hsI cZ rfl (by decide) o' (2,0) _ _ _ rfl (Row.below (Row.below HR2.o hb3) (qa (qc w3) _)) ⟨w3.1.size,0,none⟩ 1 1 [.int .i64 x] rfl rfl (qv (An.new w3 _ _)) jd HL2.o.1 HL2.o.2 ?_;intro v' w8 hown hst;obtain⟨pa8,cp8,rfl⟩:=hown.A5)|fail)
      have dC:Stp T2 EK o' w (w3.alloc (.cells #[.int .i64 x] 3)):=(HS.o.trans (Stp.of_below hb3)).trans (Stp.of_below (qa (qc w3) _));have hS8:=dC.trans (hst.mono fun _ e=>Or.inr e);have hR1:=(Row.below (Row.below HR1.o hb3) (qa (qc w3) (.cells #[.int .i64 x] 3))).Ar hst (by simp)
      go_roundw
      case rel=>exact⟨k+1,_,by simp,by omega,by rw[qJ.o];simpa using hR1,by rw[HGn.o,Qd,wb];exact hown,hS8⟩
      case measure=>simp[intOf];omega
     | some q =>
      have vR:=Qa (fun w4 (hb:Ae w.1.size w w4)=>XG (HI.o.below hb) HK.o ho);clear wZ hst hgn ho hx;go_wp2_with fail;refine gH.o.mono ?_;rintro e w3 ⟨rfl,hb3⟩;have c0:=uH.o _ (qd hbr hb3);go_wp2_with fail;refine (vR.o _ (qd hbr hb3)).mono ?_;rintro e w4 ⟨rfl,rfl⟩;clear c0;go_wp2_with (first|(at_builtin;refine qf _ rfl _ _ _ rfl 3 iI _ 1 8 hu64 hi bZ hsI cZ rfl (by decide) o' (1,0) _ _ _ rfl (Row.below (Row.below HR1.o hb3) (qa (qc w3) _)) ⟨w3.1.size,0,none⟩ 1 1 [.int .i64 q] rfl rfl (qv (An.new w3 _ _)) jd HL1.o.1 HL1.o.2 ?_;intro v' w8 hown hst;obtain⟨pa8,cp8,rfl⟩:=hown.A5)|fail)
      have dC:Stp T2 EK o' w (w3.alloc (.cells #[.int .i64 q] 3)):=(HS.o.trans (Stp.of_below hb3)).trans (Stp.of_below (qa (qc w3) _));have hS8:=dC.trans (hst.mono fun _ e=>Or.inl e);have hR2:=(Row.below (Row.below HR2.o hb3) (qa (qc w3) (.cells #[.int .i64 q] 3))).Ar hst (by simp)
      go_roundw
      case rel=>exact⟨k+1,_,by simp,by omega,by rw[qJ.o,Qd,wb];exact hown,by rw[HGn.o];simpa using hR2,hS8⟩
      case measure=>simp[intOf];omega
  ·obtain rfl:k=n:=by omega
   rw[HN.o,ay]at hr1 hr2;go_wp2_with fail;go_ret2;exact⟨_,_,o',rfl,hr1,hr2,hS⟩
end
def run_equalIn_nil_nil {P:Program}(w:Aa)(d:Nat)(t:TypeId){ps rs:Array TypeId}{b:Bool}(h:P.underlying t=some (.func ps rs b)):(Op.equalIn (d+1) t .nilFunc .nilFunc).run P w=.ok true w:=by simp[Op.equalIn,run_underlying h]
def df {P:Program}(w:Aa)(d:Nat)(t:TypeId){ps rs:Array TypeId}{b:Bool}(f:Fn)(a c:Array Ac)(h:P.underlying t=some (.func ps rs b)):(Op.equalIn (d+1) t (.func f a c) .nilFunc).run P w=.ok false w:=by simp[Op.equalIn,run_underlying h]
def run_neq_nil_nil {P:Program}(w:Aa)(t:TypeId){ps rs:Array TypeId}{b:Bool}(h:P.underlying t=some (.func ps rs b)):(binOp .neq t .nilFunc .nilFunc).run P w=.ok (.bool false) w:=by
 have h1:(Op.equal t .nilFunc .nilFunc).run P w=.ok true w:=run_equalIn_nil_nil w 9999 t h;simp only[binOp];simp[h1]
def po {P:Program}(w:Aa)(t:TypeId){ps rs:Array TypeId}{b:Bool}(f:Fn)(a c:Array Ac)(h:P.underlying t=some (.func ps rs b)):(binOp .neq t (.func f a c) .nilFunc).run P w=.ok (.bool true) w:=by
 have h1:(Op.equal t (.func f a c) .nilFunc).run P w=.ok false w:=df w 9999 t f a c h;simp only[binOp];simp[h1]
structure DJ (w:Aa)(o:Own)(l:Bo)(cy n:Nat)(rd ls:List Nat):Prop where
 A2:∃ vr vl,An w cy #[ptr l.h,FN cy n,vr,vl] 201/\Row w o (l.id,8) 3 1 vr rd.length (rd.map nv)/\Row w o (l.id,9) 3 1 vl ls.length (ls.map nv)
 oc:o cy=(l.id,7)
section
variable {w w' : Aa} {o o' : Own} {l : Bo} {cy n : Nat} {rd ls : List Nat}
def DJ.Ar {T:Tag->Prop}(h:DJ w o l cy n rd ls)(hs:Stp T o o' w w')(h7:¬T (l.id,7))(h8:¬T (l.id,8))(h9:¬T (l.id,9)):DJ w' o' l cy n rd ls:=by
 obtain⟨vr,vl,hb,h1,h2⟩:=h.A2;exact⟨⟨vr,vl,hb.Ar hs (by rw[h.oc];exact h7),h1.Ar hs h8,h2.Ar hs h9⟩,(hs.tags _ hb.lt).trans h.oc⟩
def py (h:DJ w o l cy n rd ls)(hn:n<=2):Ab AId 60 #[ptr cy] w fun e w'=>e=O (.bool (decide (n≠0)))/\w=w':=by
 obtain⟨vr,vl,hb,_,_⟩:=h.A2;have c:=hb.cell;clear h hb;obtain rfl|rfl|rfl:n=0\/n=1\/n=2:=by omega
 ·have c1:w.cell? ⟨cy,1,none⟩=some .nilFunc:=c 1
  have hne:=run_neq_nil_nil w 23 underlying23;clear c;go_in;go_wp2_with fail;go_ret;exact⟨rfl,rfl⟩
 ·have c1:w.cell? ⟨cy,1,none⟩=some (.func (.func 126) #[ptr cy] #[]):=c 1
  have hne:=po w 23 (.func 126) #[ptr cy] #[] underlying23;clear c;go_in;go_wp2_with fail;go_ret;exact⟨rfl,rfl⟩
 ·have c1:w.cell? ⟨cy,1,none⟩=some (.func (.func 190) #[ptr cy] #[]):=c 1
  have hne:=po w 23 (.func 190) #[ptr cy] #[] underlying23;clear c;go_in;go_wp2_with fail;go_ret;exact⟨rfl,rfl⟩
def GO {H:Hp}(h:BX w o l H)(hk:H.ok)(p:Nat) :
  Ab AId 173 #[ptr l.h,.int .i64 p] w fun e w'=>e=O (.int .i64 ((H.AG p).2:Nat))/\∃ o',BX w' o' l (H.AG p).1/\Stp (zd l) o o' w w':=by
 obtain⟨vc,vo,vw,vf,f,hh⟩:=h;refine (br hh hk p).mono ?_
 rintro e w'⟨rfl,bX,f',o',h',hs⟩
 exact⟨rfl,o',⟨bX,vo,vw,vf,f',h'⟩,hs⟩
def yd (k n:Nat)(h:k<n)(hn:n<=1099511627776):wrap64 ((k:Int)+1)=(k:Int)+1/\IntKind.i64.wrap ((k:Int)+1)=(k:Int)+1:=by
 have h1:(-9223372036854775808:Int)<=(k:Int)+1/\(k:Int)+1<=9223372036854775807:=by omega
 exact⟨IntWalk.wrap64_in _ h1,IntWalk.i64_in _ h1⟩
def KQ (k n:Nat)(h:k<n)(hn:n<=8796093022208):wrap64 ((k:Int)+1)=(k:Int)+1/\IntKind.i64.wrap ((k:Int)+1)=(k:Int)+1:=by
 have h1:(-9223372036854775808:Int)<=(k:Int)+1/\(k:Int)+1<=9223372036854775807:=by omega
 exact⟨IntWalk.wrap64_in _ h1,IntWalk.i64_in _ h1⟩
def Ld (k n:Nat)(h:k<n)(hn:n<=8796093022208):k+1<=maxLen/\(k+1)*8<=140737488355328:=by
 simp only[maxLen];omega
def hOr (l:Bo)(tg:Tag)(t:Tag):Prop:=zd l t\/t=tg
def qk4 {H:Hp}(hH:BX w o l H)(hk:H.wf){vp vr vl:Ac}(jc:An w cy #[ptr l.h,vp,vr,vl] 201)(oc:o cy=(l.id,7)){v:Ac}{ps:List Nat}{ta:Tag}(hv:Row w o ta 3 1 v ps.length (ps.map nv))(hp:ps.length<=8796093022208)
  (tg:Tag)(na:¬zd l ta)(ng:¬zd l tg)(nag:ta≠tg)(n7:tg≠(l.id,7)) :
  Ab AId 127 #[ptr cy,v] w fun e w'=>∃ v' o',e=O v'/\BX w' o' l (H.Ay ps).1/\Row w' o' tg 3 1 v' ps.length ((H.Ay ps).2.map nv)/\Stp (hOr l tg) o o' w w':=by
 obtain⟨iI,hi,hsI,cZ,bZ⟩:=zh;have hu64:=underlying25;have n7h:¬zd l (l.id,7):=fun hh=>by have:=hh.2;simp at this
 have HV:=Qa hv;have HJ:=Qa jc;have HH:=Qa hH;have HK:=Qa hk;have HP:=Qa hp;have HO:=Qa oc;have HNA:QO (¬hOr l tg ta):=fun h=>h.elim na nag
 have HN7:QO (¬hOr l tg (l.id,7)):=fun h=>h.elim n7h fun e=>n7 e.symm
 obtain⟨pa,cp,rfl⟩:=hv.A5;obtain⟨n',hn'⟩:=Ja0 ps.length;have HN:=Qa hn';rw[<-hn']at HV ⊢;clear hv jc hH hk hp oc hn';go_in;go_wp2_with fail;go_loopw [5,7,10] (fun vv _ ix wr=>∃ (k:Nat)(oo:Own),ix=.int .i64 k/\k<=n'/\BX wr oo l (H.Ay (ps.take k)).1/\Row wr oo tg 3 1 vv k ((H.Ay (ps.take k)).2.map nv)/\Stp (hOr l tg) o oo w wr) (fun _ _ ix _=>n'-(intOf ix).toNat)
 case atStart=>exact⟨0,o,rfl,Nat.zero_le _,HH.o,Row.nil _ _ _ _ _,Stp.refl _ _ _⟩
 case round =>
  obtain⟨k,oo,rfl,hkn,hA,hr,hs⟩:=hrel;have jk:=HJ.o.Ar hs (by rw[HO.o];exact HN7.out)
  have hvk:=HV.o.Ar hs HNA.out;have c:=jk.cell;by_cases hlt:k<n'
  ·have eO:(k:Int)<(n':Int):=by omega
   obtain⟨x,hx⟩:∃ x,ps[k]?=some x:=⟨_,Qb (by rw[<-HN.o];omega)⟩
   have hsn:=um (ps.take k) x H;rw[<-jt hx]at hsn;have HSN:=Qa hsn;have hM:=Qa (GO hA (Hp.Ct (ps.take k) HK.o).ok x);obtain⟨hw1,hw2⟩:=KQ k n' hlt (by rw[HN.o];exact HP.o)
   have hRR:=Qa hr;have jJ:=Qa hs;have hk1:QO (k+1<=maxLen/\(k+1)*8<=140737488355328):=Ld k n' hlt (by rw[HN.o];exact HP.o)
   obtain⟨pv,cv,rfl⟩:=hr.A5;rcases hvk.form with ⟨_,h0⟩|⟨g,cap,e,hcap⟩
   ·omega
   ·injection e with e1 _ e3
    subst e1 e3;have q0:wr.cell? ⟨g,k,none⟩=some (.int .i64 x):=hvk.cells k _ (by rw[Qj,hx];rfl)
    clear hA hr hs hsn hvk hx;generalize H.Ay (ps.take k)=r at *;obtain⟨Hk,lk'⟩:=r;go_wp2_with fail;refine hM.o.mono ?_;rintro e w3 ⟨rfl,o3,h3,hs3⟩;have hR3:=Qa (hRR.o.Ar hs3 ng);go_wp2_with (first|(at_builtin;refine qf _ rfl _ _ _ rfl 3 iI _ 1 8 hu64 hi bZ hsI cZ rfl (by decide) o3 tg _ _ _ rfl (Row.below hR3.o (qa (qc w3) _)) ⟨w3.1.size,0,none⟩ 1 1 [.int .i64 (Hk.AG x).2] rfl rfl (qv (An.new w3 _ _)) jd hk1.out.1 hk1.out.2 ?_;intro v' w8 hown hst)|fail)
    have fJ:=qa (qc w3) (.cells #[.int .i64 (Hk.AG x).2] 3);have h8:=h3.Ar (Stp.of_below (T:=fun _=>False) fJ) fun _ _ h=>h;have h9:=h8.Ar hst fun j hj e=>ng (by rw[<-e];exact⟨rfl,by simp;omega⟩)
    have s9:=((jJ.o.trans (hs3.mono fun _ h=>Or.inl h)).trans (Stp.of_below fJ)).trans (hst.mono fun _ h=>Or.inr h);go_roundw
    case rel=>exact⟨k+1,_,by simp,by omega,by rw[HSN.o];exact h9,by rw[HSN.o,wb];exact hown,s9⟩
    case measure=>simp[intOf];omega
  ·obtain rfl:k=n':=by omega
   rw[HN.o,ay]at hA hr;rw[<-HN.o]at hr;obtain⟨pv,cv,rfl⟩:=hr.A5;go_wp2_with fail;go_ret;exact⟨_,oo,rfl,hA,hr,hs⟩
end
section
variable {w w' : Aa} {o : Own} {l : Bo} {H : Hp} {vc vo vw vf : Ac} {f : Nat -> Nat}
def Y4 (H:Hp)(a:Nat)(vc vo vw vf v:Ac)(ps:List Nat):(H.cells a vc vo vw vf).setIfInBounds 15 v={ H with final:=ps }.cells a vc vo vw v:=by
 unfold Hp.cells;cases H.use<;>rfl
def qk3 (H:Hp)(a:Nat)(vc vo vw vf v:Ac)(ps:List Nat):(H.cells a vc vo vw vf).setIfInBounds 14 v={ H with AA:=ps }.cells a vc vo v vf:=by
 unfold Hp.cells;cases H.use<;>rfl
def AN.Fv (h:AN w o l H vc vo vw vf f){v:Ac}{ps:List Nat}(hr:Row w o (l.id,6) 3 1 v ps.length (ps.map nv)):AN (w.setCell ⟨l.h,15,none⟩ v) o l { H with final:=ps } vc vo vw v f:=by
 have hs:=(Stp.refl (fun t=>t=(l.id,0)) o w).setCell (a:=⟨l.h,15,none⟩) h.oh v
 have hn:∀ j,j≠0->¬(l.id,j)=(l.id,0):=fun j hj e=>hj (by simpa using e)
 have hb:=h.hb.set 15 v;rw[Y4 _ _ _ _ _ _ _ ps]at hb;exact⟨hb,h.Cq.Ar hs (by rw[h.oa];exact hn _ (by omega)) (by rw[h.ow];exact hn _ (by omega)),h.rc.Ar hs (hn _ (by split<;>omega)),h.ro.Ar hs (hn _ (by split<;>omega)),h.rw.Ar hs (hn _ (by omega)),hr.Ar hs (hn _ (by omega)),h.oh,h.oa,h.ow,h.FC,h.Cs⟩
def AN.MI (h:AN w o l H vc vo vw vf f){v:Ac}{ps:List Nat}(hr:Row w o (l.id,5) 3 1 v ps.length (ps.map nv)):AN (w.setCell ⟨l.h,14,none⟩ v) o l { H with AA:=ps } vc vo v vf f:=by
 have hs:=(Stp.refl (fun t=>t=(l.id,0)) o w).setCell (a:=⟨l.h,14,none⟩) h.oh v
 have hn:∀ j,j≠0->¬(l.id,j)=(l.id,0):=fun j hj e=>hj (by simpa using e)
 have hb:=h.hb.set 14 v;rw[qk3 _ _ _ _ _ _ _ ps]at hb;exact⟨hb,h.Cq.Ar hs (by rw[h.oa];exact hn _ (by omega)) (by rw[h.ow];exact hn _ (by omega)),h.rc.Ar hs (hn _ (by split<;>omega)),h.ro.Ar hs (hn _ (by split<;>omega)),hr.Ar hs (hn _ (by omega)),h.rf.Ar hs (hn _ (by omega)),h.oh,h.oa,h.ow,h.FC,h.Cs⟩
def AN.KY (h:AN w o l H vc vo vw vf f):w.cell? ⟨l.h,14,none⟩=some vw:=by rw[h.hb.cell];unfold Hp.cells;split<;>rfl
def AN.GA (h:AN w o l H vc vo vw vf f):w.cell? ⟨l.h,15,none⟩=some vf:=by rw[h.hb.cell];unfold Hp.cells;split<;>rfl
def Sc (w:Aa)(o:Own)(l:Bo)(H':Hp)(ps:List Nat)(vo vw:Ac)(e:Ending)(w':Aa):Prop:=
 ∃ v bX eZ f' o',e=O v/\AN w' o' l H' bX vo vw eZ f'/\Stp (zd l) o o' w w'/\Row w' o' (DK l) 3 1 v ps.length (ps.map nv)
def qny (h:AN w o l H vc vo vw vf f)(hw:H.wf)(hm:H.AL=true) :
  Ab AId 189 #[Ah (some ⟨l.h,0,none⟩)] w (Sc w o l H.A7.1 H.A7.2 vo vw):=by
 have e0:H.A7=Hp.Ay { H with final:=H.stay H.final } (H.B2 H.final):=by unfold Hp.A7;rw[hm];simp
 rw[e0];have hsl:=kr H H.final;have hfl:=hw.fl;have hse:=hw.ok.Bc;have hw1:Hp.wf { H with final:=H.stay H.final }:=gx hw (by omega)
 have HM:=xc h;rw[hm]at HM;replace HM:=Qa HM;have HS:=Qa (sn h hw.ok H.final (by omega) (by exact h.rf.ints))
 have HI:=Qa h;have GA:=h.GA;generalize hps:H.B2 H.final=ps at *;generalize hst:H.stay H.final=st at *;have mY:ps.length<=1099511627776:=by omega
 obtain⟨H1,hH1⟩:∃ H1:Hp,H1={ H with final:=st }:=⟨_,rfl⟩;have HH1:=Qa hH1;rw[<-hH1]at hw1 ⊢;have HW:=Qa hw1;obtain⟨n,hn⟩:=Ja0 ps.length;have HN:=Qa hn;rw[<-hn]at mY;have vC:(n:Int)<=1099511627776:=by omega
 clear h hw hm hsl hfl hse hw1 hps hst hH1 hn e0;go_in;go_wp2_with fail;refine HM.o.mono ?_
 rintro e w1 ⟨rfl,rfl⟩
 go_wp2_with fail;refine HS.o.mono ?_
 rintro e w1 ⟨v1,v2,o',rfl,hr1,hr2,hs1⟩
 have hb1:=T2.below hs1;have hge:=Row.Mh hs1 hr2;have hr1:=hr1.N7 hs1 o (l.id,6) (DK l);have hr2:=hr2.SN hs1 o (l.id,6) (DK l);obtain⟨o1,ho1⟩:=Ja0 (mix o o' w.1.size (l.id,6) (DK l));rw[<-ho1]at hr1 hr2;have ht1:∀ b,b<w.1.size->o1 b=o b:=fun b hb=>by rw[ho1];exact Uo hb
 have hI1:AN w1 o1 l H vc vo vw vf f:=(HI.o.retag ht1).below hb1;have hS1:Stp (zd l) o o1 w w1:=⟨hb1.os,hb1.tape,hb1.output,hb1.size,ht1,fun b hb _=>hb1.block b hb⟩
 clear ho1 hs1 ht1 GA;have GA:=hI1.GA;have z15:=hI1.hb.free 15;have s15:=hI1.hb.lt;obtain⟨pa,cp,rfl⟩:=hr2.A5;obtain⟨fI,fC,rfl⟩:=hr1.A5;go_upto_region 5 with fail;obtain⟨W,hW⟩:=Ja0 (w1.setCell ⟨l.h,15,none⟩ (.slice fI st.length fC));have zC:AN W o1 l H1 vc vo vw (.slice fI st.length fC) f:=by rw[hW,HH1.o];exact hI1.Fv hr1
 have hs0:Stp (fun t=>t=(l.id,0)) o1 o1 w1 W:=by rw[hW];exact (Stp.refl _ o1 w1).setCell hI1.oh _
 have hSW:Stp (zd l) o o1 w W:=hS1.trans (hs0.mono (by rintro _ rfl;exact⟨rfl,by simp⟩))
 have hrW:=hr2.Ar hs0 (by simp)
 rw[<-hW];rw[<-HN.o]at hrW hge ⊢;have Adt:Row W o1 (DK l) 3 1 (.slice pa n cp) n (((H1.Ay (ps.take 0)).2++ps.drop 0).map nv):=by simpa [Hp.Ay] using hrW
 have HGe:=Qa hge;clear hW hs0 hr1 hr2 hI1 hS1 hb1 GA z15 s15 hrW hge;go_wp2_with fail;go_loopw [25] (fun ix wr=>∃ (k:Nat)(bX:Ac)(f':Nat->Nat)(o':Own),ix=.int .i64 k/\k<=n/\AN wr o' l (H1.Ay (ps.take k)).1 bX vo vw (.slice fI st.length fC) f'/\Stp (zd l) o o' w wr/\Row wr o' (DK l) 3 1 (.slice pa n cp) n (((H1.Ay (ps.take k)).2++ps.drop k).map nv)) (fun ix _=>n-(intOf ix).toNat)
 case atStart=>exact⟨0,vc,f,o1,rfl,by omega,zC,hSW,Adt⟩
 case round =>
  obtain⟨k,bX,f',o',rfl,hkn,hI,hS,hR⟩:=hrel;clear zC hSW Adt;by_cases hlt:k<n
  ·have eO:(k:Int)<(n:Int):=by omega
   have hk8:(k:Int)<1099511627776:=by omega
   obtain⟨x,hx⟩:∃ x,ps[k]?=some x:=⟨_,Qb (by rw[<-HN.o];omega)⟩
   have htk:=jt hx;have Gk:ps.drop k=x::ps.drop (k+1):=by
    obtain⟨h1,h2⟩:=(Qc.1 hx);rw[<-h2];exact aH h1
   have hwk:=(Hp.Ct (ps.take k) HW.o).ok;have hsn:=um (ps.take k) x H1;rw[<-htk]at hsn;have hlen:(H1.Ay (ps.take k)).2.length=k:=by rw[ko,Qp,<-HN.o];omega
   have nU:=Qa hsn;rw[Gk]at hR;generalize H1.Ay (ps.take k)=r at *;obtain⟨Hk,lk'⟩:=r;simp only at hI hR hwk hlen nU;rcases hR.shape with ⟨_,h0⟩|⟨g,c,e1,hnc,hcm⟩
   ·omega
   ·injection e1 with e1 _ e3
    subst e1 e3;have CL:(lk'++x::ps.drop (k+1)).set k (Hk.AG x).2=(lk'++[(Hk.AG x).2])++ps.drop (k+1):=by
     have:=set_mid lk' (ps.drop (k+1)) x (Hk.AG x).2;rwa [hlen]at this
    have cx:wr.cell? ⟨g,k,none⟩=some (.int .i64 x):=by
     refine hR.cells k _ ?_;rw[Qj,Ql (by omega),hlen];simp[nv]
    have vZ:=Qa (br hI hwk x);have wJ:=Qa CL;have jJ:=Qa hS;have HR:=Qa hR;have hgl:=hR.blt;clear hsn Gk htk CL hwk hlen hx hI hS hR;go_wp2_with fail;refine vZ.o.mono ?_;rintro e w7 ⟨rfl,vc7,f7,o7,hI7,mQ⟩;have iV:=HR.o.Ar mQ (Q7 l);have z7:=iV.free k;have s7:=iV.blt;obtain⟨u7,c7⟩:∃ u,w7.cell? ⟨g,k,none⟩=some u:=by
     have h1:k<(aY nv (lk'++x::ps.drop (k+1))).length:=by rw[iV.len];omega
     exact⟨_,iV.cells k _ (Qb h1)⟩
    have hfin:=Qa (show ∃ (bX:Ac)(f':Nat->Nat)(o':Own),AN (w7.setCell ⟨g,k,none⟩ (.int .i64 (Hk.AG x).2)) o' l (H1.Ay (ps.take (k+1))).1 bX vo vw (.slice fI st.length fC) f'/\Stp (zd l) o o' w (w7.setCell ⟨g,k,none⟩ (.int .i64 (Hk.AG x).2))/\Row (w7.setCell ⟨g,k,none⟩ (.int .i64 (Hk.AG x).2)) o' (DK l) 3 1 (Ai (some ⟨g,0,none⟩) n cp) n (((H1.Ay (ps.take (k+1))).2++ps.drop (k+1)).map nv) from by
     rw[nU.o];refine⟨vc7,f7,o7,hI7.boxed iV.EG _,?_,?_⟩
     ·exact (jJ.o.trans mQ).setCell_new (HGe.o g rfl) _
     ·have:=iV.Gm k (.int .i64 (Hk.AG x).2)
      rw[show (Value.int IntKind.i64 ((Hk.AG x).2:Nat))=nv (Hk.AG x).2 from rfl,<-aJ,wJ.o]at this;exact this)
    clear iV mQ hI7;go_wp2_with fail;obtain⟨yF,f8,o8,g1,g2,g3⟩:=hfin.o;go_roundw
    case rel=>exact⟨k+1,yF,f8,o8,by simp,by omega,g1,g2,g3⟩
    case measure=>simp[intOf];omega
  ·obtain rfl:k=n:=by omega
   have hfin:=Qa (show Sc w o l (H1.Ay ps).1 (H1.Ay ps).2 vo vw (O (.slice pa k cp)) wr from by
    rw[HN.o,ay]at hI;rw[HN.o,ay,aQ,aC,<-HN.o]at hR;exact⟨_,bX,_,f',o',rfl,hI,hS,by rw[ko,<-HN.o];exact hR⟩)
   clear hI hS hR;go_wp2_with fail;go_ret;exact hfin.o
def qlv (h:AN w o l H vc vo vw vf f)(hw:H.wf) :
  Ab AId 189 #[Ah (some ⟨l.h,0,none⟩)] w (Sc w o l H.A7.1 H.A7.2 vo vw):=by
 cases hm:H.AL with
 | true=>exact qny h hw hm
 | false =>
  have e0:H.A7=(H,[]):=by unfold Hp.A7;rw[hm];simp
  rw[e0];have HM:=xc h;rw[hm]at HM;replace HM:=Qa HM;have hfin:=Qa (show Sc w o l H [] vo vw (O (Ai none 0 0)) w from ⟨_,vc,vf,f,o,rfl,h,Stp.refl _ _ _,Row.nil _ _ _ _ _⟩);clear h hw hm e0;go_in;go_wp2_with fail;refine HM.o.mono ?_;rintro e w1 ⟨rfl,rfl⟩;go_wp2_with fail;go_ret;exact hfin.o
end
def solo (v:Ac):Own:=fun b=>if v.ownBlock=some b then (1,0) else (0,0)
def Row.solo {w:Aa}{o:Own}{t:Tag}{e:TypeId}{size n:Nat}{v:Ac}{xs:List Ac}(h:Row w o t e size v n xs):Row w (solo v) (1,0) e size v n xs:=
 ⟨h.own,fun k hk=>by unfold Go.Proofs.YteehgedabdchcaaGreat.solo;rw[if_pos hk]⟩
def Row.Pw {w wr w8:Aa}{o o':Own}{T:Tag->Prop}{tg:Tag}{e:TypeId}{size n n':Nat}{v v':Ac}{xs xs':List Ac}(hr:Row wr o' tg e size v n xs)
  (hown:Row w8 (ext (Go.Proofs.YteehgedabdchcaaGreat.solo v) wr.1.size (1,0)) (1,0) e size v' n' xs')(hst:Stp (fun t=>t=(1,0)) (Go.Proofs.YteehgedabdchcaaGreat.solo v) (ext (Go.Proofs.YteehgedabdchcaaGreat.solo v) wr.1.size (1,0)) wr w8)
  (hS:Stp T o o' w wr)(hge:∀ b,v.ownBlock=some b->w.1.size<=b) :
  Row w8 (ext o' wr.1.size tg) tg e size v' n' xs'/\Stp (fun t=>t=tg) o' (ext o' wr.1.size tg) wr w8/\Stp T o (ext o' wr.1.size tg) w w8/\∀ b,v'.ownBlock=some b->w.1.size<=b:=by
 have h0:∀ k,v'.ownBlock=some k->k<wr.1.size->v.ownBlock=some k:=fun k hk hlt=>by
  have h1:=hown.tag k hk;rw[qj hlt]at h1;unfold Go.Proofs.YteehgedabdchcaaGreat.solo at h1;split at h1
  ·assumption
  ·simp at h1
 have hbl:∀ b,b<wr.1.size->v.ownBlock≠some b->w8.heap[b]?=wr.heap[b]?:=fun b hb hn=>hst.block b hb (by unfold Go.Proofs.YteehgedabdchcaaGreat.solo;rw[if_neg hn];simp)
 refine⟨⟨hown.own,fun k hk=>?_⟩,⟨hst.os,hst.tape,hst.output,hst.size,fun b hb=>qj hb,fun b hb hn=>hbl b hb fun h=>hn (hr.tag b h)⟩,⟨hst.os.trans hS.os,hst.tape.trans hS.tape,hst.output.trans hS.output,Qo hS.size hst.size,fun b hb=>(qj (Qn hb hS.size)).trans (hS.tags b hb),fun b hb hn=>?_⟩,fun b hb=>?_⟩
 ·rcases Nat.lt_or_ge k wr.1.size with h|h
  ·rw[qj h];exact hr.tag k (h0 k hk h)
  ·exact qp h
 ·refine (hbl b (Qn hb hS.size) fun h=>?_).trans (hS.block b hb hn)
  have:=hge b h;omega
 ·rcases Nat.lt_or_ge b wr.1.size with h|h
  ·exact hge b (h0 b hb h)
  ·exact Qo hS.size h
def Vw:∀ (l:List Nat)(p:Nat)(H:Hp),H.AU (l++[p])=(((H.AU l).1.drop1 p).1,(H.AU l).2++((H.AU l).1.drop1 p).2)
 | [],p,H=>by show ((H.drop1 p).1,(H.drop1 p).2++[])=((H.drop1 p).1,[]++(H.drop1 p).2);simp
 | q::l,p,H=>by
  have:=Vw l p (H.drop1 q).1;show ((((H.drop1 q).1.AU (l++[p])).1,(H.drop1 q).2++((H.drop1 q).1.AU (l++[p])).2):Hp×List Nat)=(((((H.drop1 q).1.AU l).1.drop1 p)).1,((H.drop1 q).2++((H.drop1 q).1.AU l).2)++(((H.drop1 q).1.AU l).1.drop1 p).2);rw[this,Ad]
def qod (H:Hp)(p:Nat):(H.drop1 p).2.length<=1:=by
 unfold Hp.drop1
 (repeat' split)<;>simp
def bw:∀ (l:List Nat)(H:Hp),(H.AU l).2.length<=l.length
 | [],_=>Qk _
 | p::l,H=>by
  have h1:=qod H p;have h2:=bw l (H.drop1 p).1;show ((H.drop1 p).2++((H.drop1 p).1.AU l).2).length<=l.length+1;rw[Qd];omega
section
variable {w w' : Aa} {o : Own} {l : Bo} {H : Hp} {vc vo vw vf : Ac} {f : Nat -> Nat}
def AN.SG {o':Own}(h:AN w o l H vc vo vw vf f)(hs:Stp (fun t=>t=DK l) o o' w w'):AN w' o' l H vc vo vw vf f:=by
 have hn:∀ j,¬(l.id,j)=DK l:=fun j=>by simp
 exact⟨h.hb.Ar hs (by rw[h.oh];exact hn _),h.Cq.Ar hs (by rw[h.oa];exact hn _) (by rw[h.ow];exact hn _),h.rc.Ar hs (hn _),h.ro.Ar hs (hn _),h.rw.Ar hs (hn _),h.rf.Ar hs (hn _),
  (hs.tags _ h.hb.lt).trans h.oh,(hs.tags _ h.Cq.Cl.lt).trans h.oa,(hs.tags _ h.Cq.lt).trans h.ow,h.FC,h.Cs⟩
def Rq (w:Aa)(o:Own)(l:Bo)(H':Hp)(ps:List Nat)(vo vw vf:Ac)(v:Ac)(w':Aa):Prop:=
 ∃ bX f' o',AN w' o' l H' bX vo vw vf f'/\Stp (zd l) o o' w w'/\Row w' o' (DK l) 3 1 v ps.length (ps.map nv)/\∀ b,v.ownBlock=some b->w.1.size<=b
end
section
variable {w w' : Aa} {o : Own} {l : Bo} {H : Hp} {vc vo vw vf : Ac} {f : Nat -> Nat}
def AN.Kd (h:AN w o l H vc vo vw vf f){w':Aa}(hb:An w' l.h (H.rest.cells l.a vc (Ai none 0 0) vw vf) 185)(hs:Stp (fun t=>t=(l.id,0)) o o w w'):AN w' o l H.rest vc (Ai none 0 0) vw vf f:=by
 have hn:∀ j,j≠0->¬(l.id,j)=(l.id,0):=fun j hj e=>hj (by simpa using e)
 exact⟨hb,h.Cq.Ar hs (by rw[h.oa];exact hn _ (by omega)) (by rw[h.ow];exact hn _ (by omega)),h.rc.Ar hs (hn _ (by split<;>omega)),Row.nil _ _ _ _ _,h.rw.Ar hs (hn _ (by omega)),h.rf.Ar hs (hn _ (by omega)),h.oh,h.oa,h.ow,h.FC,fun x hx=>(by cases hx)⟩
def dw (w:Aa)(o:Own)(l:Bo)(H':Hp)(ps:List Nat)(ok:Bool)(e:Ending)(w':Aa):Prop:=
 ∃ v bX vo' fO eZ f' o',e=O (Ak #[v,.bool ok])/\AN w' o' l H' bX vo' fO eZ f'/\Stp (zd l) o o' w w'/\Row w' o' (DK l) 3 1 v ps.length (ps.map nv)
def Lx (h:AN w o l H vc vo vw vf f) (hw:H.wf) (hm:H.AL=true) (hsc:H.scan=H.top) :
  Ab AId 242 #[Ah (some ⟨l.h,0,none⟩)] w (dw w o l H.drop.1 H.drop.2.1 H.drop.2.2):=by
 have e0:H.drop=((H.settled.AU H.settled.AA).1.rest,(H.settled.AU H.settled.AA).2,true):=by unfold Hp.drop;rw[if_neg (by rw[hm,hsc];simp)]
 rw[e0];clear e0;have hsl:=kr H H.AA;have hsl2:=kr H H.final;have hfl:=hw.fl;have hwl:=hw.wl;have hse:=hw.ok.Bc;have hk:=hw.ok;have hw2:=Hp.DR hw;have HM:=xc h;rw[hm]at HM;replace HM:=Qa HM;have HD:=uq h;rw[decide_eq_true hsc]at HD;replace HD:=Qa HD;have HI:=Qa h;have gK:=Qa (fun (W:Aa) (o1:Own) (h1:AN W o1 l H vc vo vw vf f)=>sn h1 hk H.AA (by omega) h1.rw.ints)
 have HS2:=Qa (fun (W:Aa) (o1:Own) (vw1:Ac) (h1:AN W o1 l { H with AA:=H.stay H.AA } vc vo vw1 vf f)=>sn h1 (H:={ H with AA:=H.stay H.AA }) ⟨hk.sz,hk.cl,hk.ck,hk.ol,hk.ok,hk.ot,hk.still,hk.JU,hk.room,hk.Bc,hk.CE,hk.gone⟩ H.final (by omega) h1.rf.ints)
 have vE:∀ q,({ H with AA:=H.stay H.AA }:Hp).stay q=H.stay q:=fun q=>rfl
 have uY:∀ q,({ H with AA:=H.stay H.AA }:Hp).B2 q=H.B2 q:=fun q=>rfl
 simp only[vE,uY]at HS2;have oQ:=Qa (fun p (hp:p ∈ H.stay H.AA)=>Ua hw hp)
 obtain⟨st,hst⟩:=Ja0 (H.stay H.AA);obtain⟨sf,hsf⟩:=Ja0 (H.stay H.final);obtain⟨H2,hH2⟩:∃ H2:Hp,H2=H.settled:=⟨_,rfl⟩;have vV:=Qa (show H2={ H with AA:=st,final:=sf } by rw[hH2,hst,hsf];rfl)
 have e1:H2.AA=st:=by rw[hH2,hst];rfl
 have e2:H2.cur=H.cur:=by rw[hH2];rfl
 rw[<-hH2]at hw2 ⊢;rw[e1];rw[<-hst]at gK HS2 oQ hsl;rw[<-hsf]at HS2 hsl2;rw[<-e2]at oQ;have HW:=Qa hw2;have mY:st.length<=1099511627776:=by omega
 obtain⟨n,hn⟩:=Ja0 st.length;have HN:=Qa hn;rw[<-hn]at mY;have vC:(n:Int)<=1099511627776:=by omega
 obtain⟨iI,hi,hsI,cZ,bZ⟩:=zh;have hu64:=underlying25;clear h hw hm hsc hsl hsl2 hfl hwl hse hk hw2 vE uY hst hsf hH2 hn e1 e2;go_in;go_wp2_with fail;refine HM.o.mono ?_
 rintro e w1 ⟨rfl,rfl⟩
 go_wp2_with fail;refine HD.o.mono ?_
 rintro e w1 ⟨rfl,hb1⟩
 have hI0:=HI.o.below hb1;have KY:=hI0.KY;have HI0:=Qa hI0;clear hI0;go_wp2_with fail;refine (gK.o _ _ HI0.o).mono ?_
 rintro e w2 ⟨v1,v2,o',rfl,hr1,_,hs1⟩
 have hb2:=T2.below hs1;have hr1:=hr1.N7 hs1 o (l.id,5) (DK l);obtain⟨o1,ho1⟩:=Ja0 (mix o o' w1.1.size (l.id,5) (DK l));rw[<-ho1]at hr1;have ht1:∀ b,b<w1.1.size->o1 b=o b:=fun b hb=>by rw[ho1];exact Uo hb
 have hI1:AN w2 o1 l H vc vo vw vf f:=(HI0.o.retag ht1).below hb2;have hS1:Stp (zd l) o o1 w w2:=(Stp.of_below hb1).trans ⟨hb2.os,hb2.tape,hb2.output,hb2.size,ht1,fun b hb _=>hb2.block b hb⟩
 clear ho1 hs1 ht1 KY hb2;have KY:=hI1.KY;have z14:=hI1.hb.free 14;have s14:=hI1.hb.lt;obtain⟨pa,cp,rfl⟩:=hr1.A5;rw[<-HN.o]at hr1 ⊢;go_upto_region 4 with fail;obtain⟨W,hW⟩:=Ja0 (w2.setCell ⟨l.h,14,none⟩ (.slice pa n cp));rw[HN.o]at hr1;have zC:AN W o1 l { H with AA:=st } vc vo (.slice pa n cp) vf f:=by rw[hW];rw[<-HN.o]at hr1;exact hI1.MI (by rw[<-HN.o];exact hr1)
 have hSW:Stp (zd l) o o1 w W:=by rw[hW];exact hS1.setCell (by show zd l (o1 l.h);rw[hI1.oh];exact⟨rfl,by simp⟩) _
 rw[<-hW];clear hW hr1 hI1 hS1 KY z14 s14 hb1;have GA:=zC.GA;have HIW:=Qa zC;clear zC;go_wp2_with fail;refine (HS2.o _ _ _ HIW.o).mono ?_
 rintro e w3 ⟨v3,v4,o'',rfl,hr3,_,hs3⟩
 have hb3:=T2.below hs3;have hr3:=hr3.N7 hs3 o1 (l.id,6) (DK l);obtain⟨o3,ho3⟩:=Ja0 (mix o1 o'' W.1.size (l.id,6) (DK l));rw[<-ho3]at hr3;have ht3:∀ b,b<W.1.size->o3 b=o1 b:=fun b hb=>by rw[ho3];exact Uo hb
 have yZ:AN w3 o3 l { H with AA:=st } vc vo (.slice pa n cp) vf f:=(HIW.o.retag ht3).below hb3;have dC:Stp (zd l) o o3 w w3:=hSW.trans ⟨hb3.os,hb3.tape,hb3.output,hb3.size,ht3,fun b hb _=>hb3.block b hb⟩
 clear ho3 hs3 ht3 GA hb3 hSW;have GA:=yZ.GA;have z15:=yZ.hb.free 15;have s15:=yZ.hb.lt;obtain⟨pa3,cp3,rfl⟩:=hr3.A5;obtain⟨v3,hv3⟩:=Ja0 (Value.slice pa3 sf.length cp3);have HV3:=Qa hv3;go_upto_region 5 with fail;obtain⟨W4,eD⟩:=Ja0 (w3.setCell ⟨l.h,15,none⟩ v3);have lC:AN W4 o3 l H2 vc vo (.slice pa n cp) v3 f:=by rw[eD,vV.o,HV3.o];exact yZ.Fv hr3
 have dX:Stp (zd l) o o3 w W4:=by rw[eD];exact dC.setCell (by show zd l (o3 l.h);rw[yZ.oh];exact⟨rfl,by simp⟩) _
 rw[<-hv3,<-eD];clear eD hv3 hr3 yZ dC GA z15 s15;have KY:=lC.KY;have hD4:Rq w o l (H2.AU (st.take 0)).1 (H2.AU (st.take 0)).2 vo (.slice pa n cp) v3 (Ai none 0 0) W4:=⟨vc,f,o3,lC,dX,Row.nil _ _ _ _ _,fun b hb=>by simp[Value.ownBlock]at hb⟩
 clear lC dX;go_wp2_with fail;clear KY;go_loopw [4,51] (fun v ix wr=>∃ k:Nat,ix=.int .i64 k/\k<=n/\Rq w o l (H2.AU (st.take k)).1 (H2.AU (st.take k)).2 vo (.slice pa n cp) v3 v wr) (fun _ ix _=>n-(intOf ix).toNat)
 case atStart=>exact⟨0,rfl,by omega,hD4⟩
 case round =>
  obtain⟨k,rfl,hkn,bX,f',o',hI,hS,hR,hG⟩:=hrel;clear hD4;by_cases hlt:k<n
  ·have eO:(k:Int)<(n:Int):=by omega
   have Akv:(k:Int)<1099511627776:=by omega
   obtain⟨x,hx⟩:∃ x,st[k]?=some x:=⟨_,Qb (by rw[<-HN.o];omega)⟩
   have htk:=jt hx;have hwk:=Hp.DV (st.take k) HW.o;have hsn:=Vw (st.take k) x H2;rw[<-htk]at hsn;have hll:=bw (st.take k) H2;obtain⟨ob,cO,hp1⟩:=bg (st.take k) (oQ.o x (Qe hx));have hsw:(H2.AU (st.take k)).1.AA=st:=by rw[(uf _ _).2.1,vV.o]
   have htl:(st.take k).length=k:=by rw[Qp,<-HN.o];omega
   have nU:=Qa hsn;generalize H2.AU (st.take k)=r at *;obtain⟨Hk,ls⟩:=r;simp only at hI hR hwk hll cO nU hsw;have lJ:ls.length<=1099511627776:=by omega
   have HL:=Qa (Jp lJ);have hrw:=hI.rw;rw[hsw,<-HN.o]at hrw;rcases hrw.shape with ⟨_,h0⟩|⟨g,c,e1,hnc,hcm⟩
   ·omega
   ·injection e1 with e1 _ e3
    subst e1 e3;have cx:wr.cell? ⟨g,k,none⟩=some (.int .i64 x):=hrw.cells k _ (by rw[Qj,hx];rfl)
    have ho:=hwk.Eg cO;obtain⟨y,hy⟩:∃ y,ob.AE[0]?=some y:=⟨_,Qb (by rw[ho.lp];omega)⟩
    obtain⟨ha,_,hl,_⟩:=hI.at_ hwk.ok cO;have wE:=Qa (RI hI.Cq ha ho hl 0 y hy x 0 rfl rfl);have uH:=Qa (fun w4 (hb:Ae wr.1.size wr w4)=>(hI.below hb).c0);have gH:=fun w4 (hb:Ae wr.1.size wr w4)=>bm (hI.below hb) hwk.ok y;have c0:=hI.c0;obtain⟨pl,cl,rfl⟩:=hR.A5;have jQ:Hk.drop1 x=match Bg Hk.old y with|none=>(Hk,[])|some (_,some q)=>({ Hk with cur:=up Hk.cur x (ob.Bm 0 q) },[])|some (_,none)=>({ Hk with cur:=up Hk.cur x (ob.Bm 0 0) },[ob.Ap]):=by
     unfold Hp.drop1;rw[cO];simp only;rw[hy];rfl
    have qF:=Qa hI;have jJ:=Qa hS;have HRR:=Qa hR;have HGG:=Qa hG;have HWK:=Qa hwk;have HOB:=Qa cO;have HSz:=Qa (show 0<ob.AM.p from hp1)
    cases hlo:Bg Hk.old y with
    | none =>
     rw[hlo]at jQ gH;have gH:=Qa gH;have rP:=Qa jQ;clear hsn htk hwk hll cO hp1 hsw htl hI hS hR hG hrw ho hy ha hl hx jQ hlo lJ;go_wp2_with fail;refine wE.o.mono ?_;rintro e w5 ⟨rfl,hb5⟩;go_wp2_with fail;refine (gH.o _ hb5).mono ?_;rintro e w6 ⟨rfl,hb6⟩;have hb:=qd hb5 hb6;go_wp2_with fail;go_roundw
     case rel=>exact⟨k+1,by simp,by omega,by rw[nU.o,rP.o];simp only[aC];exact⟨bX,f',o',qF.o.below hb,jJ.o.trans (Stp.of_below hb),HRR.o.below hb,HGG.o⟩⟩
     case measure=>simp[intOf];omega
    | some z =>
     obtain⟨oo,gq⟩:=z;rw[hlo]at jQ gH;have gH:=Qa gH;have rP:=Qa jQ
     cases gq with
     | some q =>
      have hq:=hwk.ok.gone _ (ke hlo) q rfl;have vR:=Qa (fun w4 (hb:Ae wr.1.size wr w4)=>XG (hI.below hb) hwk.ok hlo);have wH:=Qa (fun w4 (hb:Ae wr.1.size wr w4)=>yk (hI.Cq.below hb) ha ho hl 0 q hp1 hq.2 x 0 q rfl rfl rfl);have mE:=Qa (fun w4 w5 (hb:Ae wr.1.size wr w4) hT=>(hI.below hb).Ex (w':=w5) hwk.ok cO (k:=3+0) (by unfold Ob.size;omega) hT (by rw[show x+(3+0)=x+3+0 from by omega];exact ha.Bm ho 0 q hp1))
      rw[show x+(3+0)=x+3+0 from by omega]at mE
      clear hsn htk hwk hll cO hp1 hsw htl hI hS hR hG hrw ho hy ha hl hx jQ hlo lJ hq;go_wp2_with fail;refine wE.o.mono ?_;rintro e w5 ⟨rfl,hb5⟩;go_wp2_with fail;refine (gH.o _ hb5).mono ?_;rintro e w6 ⟨rfl,hb6⟩;have hb:=qd hb5 hb6;clear c0;have c0:=uH.o _ hb;go_wp2_with fail;refine (vR.o _ hb).mono ?_;rintro e w7 ⟨rfl,rfl⟩;go_wp2_with fail;refine (wH.o _ hb).mono ?_;rintro e w8 ⟨rfl,lF⟩;have hfin:=Qa (show Rq w o l (H2.AU (st.take (k+1))).1 (H2.AU (st.take (k+1))).2 vo (Ai (some ⟨g,0,none⟩) n cp) v3 (.slice pl ls.length cl) w8 from by
       rw[nU.o,rP.o];simp only[aC];obtain⟨yF,f8,o8,h8,s8⟩:=mE.o _ _ hb lF;refine⟨yF,f8,o8,h8,(jJ.o.trans (Stp.of_below hb)).trans s8,(HRR.o.below hb).Ar s8 (Q7 l),HGG.o⟩)
      clear lF c0;go_wp2_with fail;go_roundw
      case rel=>exact⟨k+1,by simp,by omega,hfin.o⟩
      case measure=>simp[intOf];omega
     | none =>
      have vR:=Qa (fun w4 (hb:Ae wr.1.size wr w4)=>XR (hI.below hb) hwk.ok hlo);have wH:=Qa (fun w4 (hb:Ae wr.1.size wr w4)=>yk (hI.Cq.below hb) ha ho hl 0 0 hp1 (by omega) x 0 0 rfl rfl rfl)
      have mE:=Qa (fun w4 w5 (hb:Ae wr.1.size wr w4) hT=>(hI.below hb).Ex (w':=w5) hwk.ok cO (k:=3+0) (by unfold Ob.size;omega) hT (by rw[show x+(3+0)=x+3+0 from by omega];exact ha.Bm ho 0 0 hp1))
      rw[show x+(3+0)=x+3+0 from by omega]at mE
      have hlk2:lk (up Hk.cur x (ob.Bm 0 0)) x=some (ob.Bm 0 0):=by rw[Nh,if_pos rfl,cO];rfl
      have hw2:=Pr hwk cO (dM:=ob.Bm 0 0) (Ob.Cv ho 0 0 (by omega)) rfl
      have HSr:=Qa (fun w4 vc4 f4 o4 (h4:AN w4 o4 l { Hk with cur:=up Hk.cur x (ob.Bm 0 0) } vc4 vo (Ai (some ⟨g,0,none⟩) n cp) v3 f4)=>show Ab AId 131 #[Ah (some ⟨l.a,0,none⟩),.int .i64 x] w4 fun e w'=>e=O (Ak #[.int .i64 ob.Ap,.int .i64 0])/\Ae w4.1.size w4 w' from by
       obtain⟨ha4,ho4,hl4,_⟩:=h4.at_ hw2.ok hlk2;exact bf h4.Cq ha4 ho4 hl4 x rfl)
      clear hsn htk hwk hll cO hp1 hsw htl hI hS hR hG hrw ho hy ha hl hx jQ hlo lJ hlk2 hw2;go_wp2_with fail;refine wE.o.mono ?_;rintro e w5 ⟨rfl,hb5⟩;go_wp2_with fail;refine (gH.o _ hb5).mono ?_;rintro e w6 ⟨rfl,hb6⟩;have hb:=qd hb5 hb6;clear c0;have c0:=uH.o _ hb;go_wp2_with fail;refine (vR.o _ hb).mono ?_;rintro e w7 ⟨rfl,rfl⟩;go_wp2_with fail;refine (wH.o _ hb).mono ?_;rintro e w8 ⟨rfl,lF⟩;obtain⟨yF,f8,o8,h8,s8⟩:=mE.o _ _ hb lF;have H8:=Qa h8;have S8:=Qa ((jJ.o.trans (Stp.of_below hb)).trans s8);have R8:=Qa ((HRR.o.below hb).Ar s8 (Q7 l));clear lF c0 s8;have c0:=h8.c0;clear h8;go_wp2_with fail;refine (HSr.o _ _ _ _ H8.o).mono ?_;rintro e w9 ⟨rfl,fA⟩;clear c0;have R9:=Qa (R8.o.below fA).solo;go_wp2_with (first|(at_builtin;refine qf _ rfl _ _ _ rfl 3 iI _ 1 8 hu64 hi bZ hsI cZ rfl (by decide) (solo (.slice pl ls.length cl)) (1,0) _ _ _ rfl (Row.below R9.o (qa (qc w9) _)) ⟨w9.1.size,0,none⟩ 1 1 [.int .i64 ob.Ap] rfl rfl (qv (An.new w9 _ _)) jd HL.o.1 HL.o.2 ?_;intro v' w10 hown hst;obtain⟨pa8,cp8,rfl⟩:=hown.A5)|fail)
      have hfin:=Qa (show Rq w o l (H2.AU (st.take (k+1))).1 (H2.AU (st.take (k+1))).2 vo (Ai (some ⟨g,0,none⟩) n cp) v3 (.slice pa8 (ls.length+1) cp8) w10 from by
       rw[nU.o,rP.o];have hB:=qd fA (qa (qc w9) (.cells #[.int .i64 ob.Ap] 3));obtain⟨q1,q2,q3,q4⟩:=Row.Pw (R8.o.below hB) hown hst (S8.o.trans (Stp.of_below hB)) HGG.o;refine⟨yF,f8,_,(H8.o.below hB).SG q2,q3,?_,q4⟩;rw[Qd,wb];exact q1)
      clear hown hst;go_roundw
      case rel=>exact⟨k+1,by simp,by omega,hfin.o⟩
      case measure=>simp[intOf];omega
  ·obtain rfl:k=n:=by omega
   rw[HN.o,ay]at hI hR;rw[<-HN.o]at hI;have hwk:=(Hp.DV st HW.o).ok;have hll:=bw st H2;generalize hr:H2.AU st=r at *;obtain⟨Hk,ls⟩:=r;simp only at hI hR hwk hll;obtain⟨pl,cl,rfl⟩:=hR.A5;have hsz:=hwk.sz;have hol:=g9 _ _ _ hwk.ol;have hot:=hwk.ot;have hb0:=Hk.Cd (!Hk.use);clear hr hwk hG hlt;rcases (show Hk.use=false\/Hk.use=true by cases Hk.use<;>simp) with hu|hu
   ·have hb:=hI.En hu
    have dV:∀ sz tp CE dH:Nat,sz=Hk.size->tp=Hk.top->CE=Hk.scan->dH=Hk.Ap->Hk.rest.cells l.a bX (Ai none 0 0) (.slice pa k cp) v3=#[Ah (some ⟨l.a,0,none⟩),.int .i64 1,.int .i64 sz,.int .i64 tp,.int .i64 (1+(sz:Int)),.int .i64 sz,.int .i64 (1+(sz:Int)),bX,Ai none 0 0,.int .i64 0,.bool false,.int .i64 0,.int .i64 CE,.int .i64 dH,.slice pa k cp,v3]:=fun sz tp CE dH e1 e2 e3 e4=>by
     subst e1 e2 e3 e4;unfold Hp.cells Hp.rest Hp.base;simp[hu]
    have HE:=(fun W=>fc (b:=Hk.base (!Hk.use)) (s:=Hk.size) (t:=Hk.B5) ⟨by omega,by omega,by omega,by omega⟩ W)
    unfold DG at HE;rw[show (Hk.base (!Hk.use):Int)=(1+(Hk.size:Int)) from by rw[hu];show ((1+Hk.size:Nat):Int)=_;omega]at HE
    replace HE:=Qa HE;generalize hg1:Hk.size=sz at hb HE dV;generalize hg2:Hk.top=tp at hb dV;generalize hg3:Hk.B5=eT at hb HE;generalize hg4:Hk.BB=dK at hb;generalize hg5:Hk.scan=CE at hb dV;generalize zJ:Hk.Ap=dH at hb dV;generalize hg7:Hk.AL=mv at hb;have HFC:=Qa (dV sz tp CE dH rfl rfl rfl rfl);have qF:=Qa hI;have jJ:=Qa hS;have HRR:=Qa hR;clear dV hg1 hg2 hg3 hg4 hg5 zJ hg7 hI hS hR hu;have c:=hb.cell;have z:=hb.free;have s:=hb.lt;go_upto_region 18 with fail;go_cut [] (fun wx=>An wx l.h #[Ah (some ⟨l.a,0,none⟩),.int .i64 1,.int .i64 sz,.int .i64 tp,.int .i64 (1+(sz:Int)),.int .i64 sz,.int .i64 (1+(sz:Int)),bX,vo,.int .i64 0,.bool mv,.int .i64 dK,.int .i64 CE,.int .i64 dH,.slice pa k cp,v3] 185/\Wr l.h wr wx)
    case first =>
     go_region_with (first|(go_at_call 187;refine (HE.o _).mono ?_;rintro e w4 ⟨rfl,hb4⟩;have j4:=An.below (qi hb) hb4 (qi hb).lt;have c4:=j4.cell;have z4:=j4.free;have s4:=j4.lt)|fail)
     all_goals
      go_wp2_with fail;go_meet;exact⟨by simpa using ((j4.set 4 _).set 5 _).set 6 _,(((Wr.of_below (qe (qc wr))).trans (Wr.of_below hb4)).trans (Wr.set _ _ _ _)).trans ((Wr.set _ _ _ _).trans (Wr.set _ _ _ _))⟩
    case rest =>
     obtain⟨j2,r2⟩:=hcut;clear c z s hb;have c:=j2.cell;have z:=j2.free;have s:=j2.lt;have hfin:=Qa (show dw w o l Hk.rest ls true (O (Ak #[.slice pl ls.length cl,.bool true])) (((wc.setCell ⟨l.h,8,none⟩ (Ai none 0 0)).setCell ⟨l.h,10,none⟩ (.bool false)).setCell ⟨l.h,11,none⟩ (.int .i64 0)) from by
      have j3:An (((wc.setCell ⟨l.h,8,none⟩ (Ai none 0 0)).setCell ⟨l.h,10,none⟩ (.bool false)).setCell ⟨l.h,11,none⟩ (.int .i64 0)) l.h #[Ah (some ⟨l.a,0,none⟩),.int .i64 1,.int .i64 sz,.int .i64 tp,.int .i64 (1+(sz:Int)),.int .i64 sz,.int .i64 (1+(sz:Int)),bX,Ai none 0 0,.int .i64 0,.bool false,.int .i64 0,.int .i64 CE,.int .i64 dH,.slice pa k cp,v3] 185:=by simpa using ((j2.set 8 (Ai none 0 0)).set 10 (.bool false)).set 11 (.int .i64 0)
      rw[<-HFC.o]at j3;have hs:Stp (fun t=>t=(l.id,0)) o' o' wr (((wc.setCell ⟨l.h,8,none⟩ (Ai none 0 0)).setCell ⟨l.h,10,none⟩ (.bool false)).setCell ⟨l.h,11,none⟩ (.int .i64 0)):=Stp.Cg (((r2.trans (Wr.set _ _ _ _)).trans (Wr.set _ _ _ _)).trans (Wr.set _ _ _ _)) qF.o.oh;exact⟨_,bX,_,_,_,f',o',rfl,qF.o.Kd j3 hs,jJ.o.trans (hs.mono (by rintro _ rfl;exact⟨rfl,by simp⟩)),HRR.o.Ar hs (by simp)⟩)
     clear j2 r2;go_wp2_with fail;go_ret2;exact hfin.o
   ·have hb:=hI.Eo hu
    have dV:∀ sz tp CE dH:Nat,sz=Hk.size->tp=Hk.top->CE=Hk.scan->dH=Hk.Ap->Hk.rest.cells l.a bX (Ai none 0 0) (.slice pa k cp) v3=#[Ah (some ⟨l.a,0,none⟩),.int .i64 1,.int .i64 sz,.int .i64 1,.int .i64 (1+(sz:Int)),.int .i64 sz,.int .i64 tp,Ai none 0 0,bX,.int .i64 1,.bool false,.int .i64 0,.int .i64 CE,.int .i64 dH,.slice pa k cp,v3]:=fun sz tp CE dH e1 e2 e3 e4=>by
     subst e1 e2 e3 e4;unfold Hp.cells Hp.rest Hp.base;simp[hu]
    have HE:=(fun W=>fc (b:=Hk.base (!Hk.use)) (s:=Hk.size) (t:=Hk.B5) ⟨by omega,by omega,by omega,by omega⟩ W)
    unfold DG at HE;rw[show (Hk.base (!Hk.use):Int)=1 from by rw[hu];rfl]at HE
    replace HE:=Qa HE;generalize hg1:Hk.size=sz at hb HE dV;generalize hg2:Hk.top=tp at hb dV;generalize hg3:Hk.B5=eT at hb HE;generalize hg4:Hk.BB=dK at hb;generalize hg5:Hk.scan=CE at hb dV;generalize zJ:Hk.Ap=dH at hb dV;generalize hg7:Hk.AL=mv at hb;have HFC:=Qa (dV sz tp CE dH rfl rfl rfl rfl);have qF:=Qa hI;have jJ:=Qa hS;have HRR:=Qa hR;clear dV hg1 hg2 hg3 hg4 hg5 zJ hg7 hI hS hR hu;have c:=hb.cell;have z:=hb.free;have s:=hb.lt;go_upto_region 18 with fail;go_cut [] (fun wx=>An wx l.h #[Ah (some ⟨l.a,0,none⟩),.int .i64 1,.int .i64 sz,.int .i64 1,.int .i64 (1+(sz:Int)),.int .i64 sz,.int .i64 tp,vo,bX,.int .i64 1,.bool mv,.int .i64 dK,.int .i64 CE,.int .i64 dH,.slice pa k cp,v3] 185/\Wr l.h wr wx)
    case first =>
     go_region_with (first|(go_at_call 187;refine (HE.o _).mono ?_;rintro e w4 ⟨rfl,hb4⟩;have j4:=An.below (qi hb) hb4 (qi hb).lt;have c4:=j4.cell;have z4:=j4.free;have s4:=j4.lt)|fail)
     all_goals
      go_wp2_with fail;go_meet;exact⟨by simpa using ((j4.set 1 _).set 2 _).set 3 _,(((Wr.of_below (qe (qc wr))).trans (Wr.of_below hb4)).trans (Wr.set _ _ _ _)).trans ((Wr.set _ _ _ _).trans (Wr.set _ _ _ _))⟩
    case rest =>
     obtain⟨j2,r2⟩:=hcut;clear c z s hb;have c:=j2.cell;have z:=j2.free;have s:=j2.lt;have hfin:=Qa (show dw w o l Hk.rest ls true (O (Ak #[.slice pl ls.length cl,.bool true])) (((wc.setCell ⟨l.h,7,none⟩ (Ai none 0 0)).setCell ⟨l.h,10,none⟩ (.bool false)).setCell ⟨l.h,11,none⟩ (.int .i64 0)) from by
      have j3:An (((wc.setCell ⟨l.h,7,none⟩ (Ai none 0 0)).setCell ⟨l.h,10,none⟩ (.bool false)).setCell ⟨l.h,11,none⟩ (.int .i64 0)) l.h #[Ah (some ⟨l.a,0,none⟩),.int .i64 1,.int .i64 sz,.int .i64 1,.int .i64 (1+(sz:Int)),.int .i64 sz,.int .i64 tp,Ai none 0 0,bX,.int .i64 1,.bool false,.int .i64 0,.int .i64 CE,.int .i64 dH,.slice pa k cp,v3] 185:=by simpa using ((j2.set 7 (Ai none 0 0)).set 10 (.bool false)).set 11 (.int .i64 0)
      rw[<-HFC.o]at j3;have hs:Stp (fun t=>t=(l.id,0)) o' o' wr (((wc.setCell ⟨l.h,7,none⟩ (Ai none 0 0)).setCell ⟨l.h,10,none⟩ (.bool false)).setCell ⟨l.h,11,none⟩ (.int .i64 0)):=Stp.Cg (((r2.trans (Wr.set _ _ _ _)).trans (Wr.set _ _ _ _)).trans (Wr.set _ _ _ _)) qF.o.oh;exact⟨_,bX,_,_,_,f',o',rfl,qF.o.Kd j3 hs,jJ.o.trans (hs.mono (by rintro _ rfl;exact⟨rfl,by simp⟩)),HRR.o.Ar hs (by simp)⟩)
     clear j2 r2;go_wp2_with fail;go_ret2;exact hfin.o
def Hi (h:AN w o l H vc vo vw vf f)(hw:H.wf) :
  Ab AId 242 #[Ah (some ⟨l.h,0,none⟩)] w (dw w o l H.drop.1 H.drop.2.1 H.drop.2.2):=by
 by_cases hm:H.AL=false\/H.scan≠H.top
 ·have e0:H.drop=(H,[],false):=by unfold Hp.drop;rw[if_pos hm]
  rw[e0];have hfin:=Qa (fun w' (hb:Ae w.1.size w w')=>show dw w o l H [] false (O (Ak #[Ai none 0 0,.bool false])) w' from ⟨_,vc,vo,vw,vf,f,o,rfl,h.below hb,Stp.of_below hb,Row.nil _ _ _ _ _⟩);have HM:=xc h;have HD:=uq h;generalize H.AL=mv at HM hm;replace HM:=Qa HM
  cases mv
  ·clear h hw hm e0 HD
   go_in;go_wp2_with fail;refine HM.o.mono ?_;rintro e w1 ⟨rfl,rfl⟩;go_wp2_with fail;go_ret2;exact hfin.o _ (qc _)
  ·have hs:H.scan≠H.top:=hm.resolve_left (by simp)
   rw[decide_eq_false hs]at HD;replace HD:=Qa HD;clear h hw hm e0 hs;go_in;go_wp2_with fail;refine HM.o.mono ?_;rintro e w1 ⟨rfl,rfl⟩;go_wp2_with fail;refine HD.o.mono ?_;rintro e w1 ⟨rfl,hb⟩;go_wp2_with fail;go_ret2;exact hfin.o _ hb
 ·refine Lx h hw ?_ ?_
  ·cases hmm:H.AL
   ·exact absurd (.inl hmm) hm
   ·rfl
  ·exact Decidable.byContradiction fun e=>hm (.inr e)
end
section
variable {w w' : Aa} {o o' : Own} {l : Bo} {cy n : Nat} {rd ls : List Nat}
def FG (l:Bo)(t:Tag):Prop:=t.1=l.id/\(t.2<=7\/t.2=8\/t.2=9)
def nn {l:Bo}{t:Tag}(h:zd l t):FG l t:=⟨h.1,.inl (by have:=h.2;omega)⟩
def qo3 {H:Hp}(h:BX w o l H)(hw:H.wf) :
  Ab AId 189 #[ptr l.h] w fun e w'=>∃ v o',e=O v/\BX w' o' l H.A7.1/\Stp (zd l) o o' w w'/\Row w' o' (DK l) 3 1 v H.A7.2.length (H.A7.2.map nv):=by
 obtain⟨vc,vo,vw,vf,f,hh⟩:=h;refine (qlv hh hw).mono ?_
 rintro e w'⟨v,bX,eZ,f',o',rfl,h',hs,hr⟩
 exact⟨v,o',rfl,⟨bX,vo,vw,eZ,f',h'⟩,hs,hr⟩
def Lh {H:Hp}(h:BX w o l H)(hw:H.wf) :
  Ab AId 242 #[ptr l.h] w fun e w'=>∃ v o',e=O (Ak #[v,.bool H.drop.2.2])/\BX w' o' l H.drop.1/\Stp (zd l) o o' w w'/\Row w' o' (DK l) 3 1 v H.drop.2.1.length (H.drop.2.1.map nv):=by
 obtain⟨vc,vo,vw,vf,f,hh⟩:=h;refine (Hi hh hw).mono ?_
 rintro e w'⟨v,bX,vo',fO,eZ,f',o',rfl,h',hs,hr⟩
 exact⟨v,o',rfl,⟨bX,vo',fO,eZ,f',h'⟩,hs,hr⟩
def XI {n m:Nat}(hn:n<=1099511627776)(hm:m<=1099511627776):n+m<=maxLen/\(n+m)*8<=140737488355328:=by
 simp only[maxLen];omega
def qjc {H:Hp}(hH:BX w o l H)(hw:H.wf)(h:DJ w o l cy 2 rd ls)(h1:ls.length<=1099511627776)(h2:H.drop.2.1.length<=1099511627776) :
  Ab AId 190 #[ptr cy] w fun e w'=>e=O (.bool true)/\∃ o',BX w' o' l H.drop.1/\DJ w' o' l cy 0 rd (ls++H.drop.2.1)/\Stp (FG l) o o' w w':=by
 obtain⟨iI,hi,hsI,cZ,bZ⟩:=zh;have hu64:=underlying25;have n7:¬zd l (l.id,7):=fun hh=>by have:=hh.2;simp at this
 have n8:¬zd l (l.id,8):=fun hh=>by have:=hh.2;simp at this
 have n9:¬zd l (l.id,9):=fun hh=>by have:=hh.2;simp at this
 have HL:=XI h1 h2;have HD:=Qa (Lh hH hw);obtain⟨vr,vl,jc,hr,hl⟩:=h.A2;have oc:=h.oc;have c:=jc.cell;generalize H.drop=D at *;obtain⟨H',lo,ok⟩:=D;simp only at HD HL ⊢;have HC:=Qa (fun (w5:Aa)(o5:Own)(hs:Stp (zd l) o o5 w w5)=>show An w5 cy #[ptr l.h,FN cy 2,vr,vl] 201/\o5 cy=(l.id,7)/\Row w5 o5 (l.id,8) 3 1 vr rd.length (rd.map nv)/\Row w5 o5 (l.id,9) 3 1 vl ls.length (ls.map nv) from
  ⟨jc.Ar hs (by rw[oc];exact n7),(hs.tags _ jc.lt).trans oc,hr.Ar hs n8,hl.Ar hs n9⟩)
 obtain⟨pl,cl,rfl⟩:=hl.A5;have vX:=Qa HL;clear h hH hw hr hl h1 h2 HL;go_in;go_wp2_with fail;refine HD.o.mono ?_
 rintro e w1 ⟨v,o1,rfl,hH1,hs1,hrow⟩
 obtain⟨pv,cv,rfl⟩:=hrow.A5;obtain⟨j1,oc1,r8,r9⟩:=HC.o _ _ hs1;have HH1:=Qa hH1;have gK:=Qa hs1;have HR8:=Qa r8;have HJ1:=Qa j1;have HO1:=Qa oc1;clear c jc oc hH1 hs1 r8;have c:=j1.cell;have z:=j1.free;have s:=j1.lt;go_wp2_with (first|(at_builtin;refine zm _ rfl _ _ _ rfl 3 iI _ 1 8 hu64 hi bZ hsI cZ rfl (by decide) o1 (l.id,9) _ ls.length (ls.map nv) rfl r9 o1 (DK l) _ lo.length (lo.map nv) rfl hrow (rz _) vX.o.1 vX.o.2 ?_;intro v' w3 hown hst;obtain⟨pa,cp,rfl⟩:=hown.A5;have j3:=HJ1.o.Ar hst (by rw[HO1.o];simp);have c3:=j3.cell;have z3:=j3.free;have s3:=j3.lt)|fail)
 have hfin:=Qa (show ∃ o',BX ((w3.setCell ⟨cy,3,none⟩ (.slice pa (ls.length+lo.length) cp)).setCell ⟨cy,1,none⟩ .nilFunc) o' l H'/\DJ ((w3.setCell ⟨cy,3,none⟩ (.slice pa (ls.length+lo.length) cp)).setCell ⟨cy,1,none⟩ .nilFunc) o' l cy 0 rd (ls++lo)/\Stp (FG l) o o' w ((w3.setCell ⟨cy,3,none⟩ (.slice pa (ls.length+lo.length) cp)).setCell ⟨cy,1,none⟩ .nilFunc) from by
  have o3:ext o1 w1.1.size (l.id,9) cy=(l.id,7):=(hst.tags _ HJ1.o.lt).trans HO1.o;have k:Stp (fun t=>t=(l.id,7)) (ext o1 w1.1.size (l.id,9)) (ext o1 w1.1.size (l.id,9)) w3 ((w3.setCell ⟨cy,3,none⟩ (.slice pa (ls.length+lo.length) cp)).setCell ⟨cy,1,none⟩ .nilFunc):=((Stp.refl _ _ w3).setCell (by show ext o1 w1.1.size (l.id,9) cy=_;exact o3) _).setCell (by show ext o1 w1.1.size (l.id,9) cy=_;exact o3) _
  have hs7:∀ j,j<=6->¬(l.id,j)=(l.id,7):=fun j hj=>by simp;omega
  have iM:∀ j,j<=6->¬(l.id,j)=(l.id,9):=fun j hj=>by simp;omega
  have e1:(ls++lo).length=ls.length+lo.length:=Qd;refine⟨_,(HH1.o.Ar hst iM).Ar k hs7,⟨⟨vr,.slice pa (ls.length+lo.length) cp,(j3.set 3 _).set 1 _,(HR8.o.Ar hst (by simp)).Ar k (by simp),?_⟩,o3⟩,
   ((gK.o.mono fun _ h=>nn h).trans (hst.mono (by rintro _ rfl;exact⟨rfl,.inr (.inr rfl)⟩))).trans (k.mono (by rintro _ rfl;exact⟨rfl,.inl (Qk _)⟩))⟩
  rw[e1,Qw];exact hown.Ar k (by simp))
 go_wp2_with fail;go_ret;exact⟨rfl,hfin.o⟩
def qle {H:Hp}(hH:BX w o l H)(hw:H.wf)(h:DJ w o l cy 1 rd ls)(h1:rd.length<=1099511627776)(h2:H.A7.2.length<=1099511627776) :
  Ab AId 126 #[ptr cy] w fun e w'=>e=O (.bool false)/\∃ o',BX w' o' l H.A7.1/\DJ w' o' l cy 2 (rd++H.A7.2) ls/\Stp (FG l) o o' w w':=by
 obtain⟨iI,hi,hsI,cZ,bZ⟩:=zh;have hu64:=underlying25;have fK:∀ (fn:Fn)(first cap:Array Ac)(w:Aa),(Instr.makeFunc fn first cap).run AId w=.ok (.func fn first cap) w:=fun _ _ _ _=>rfl
 have n7:¬zd l (l.id,7):=fun hh=>by have:=hh.2;simp at this
 have n8:¬zd l (l.id,8):=fun hh=>by have:=hh.2;simp at this
 have n9:¬zd l (l.id,9):=fun hh=>by have:=hh.2;simp at this
 have HL:=XI h1 h2;have HD:=Qa (qo3 (hH.Ar (T:=fun _=>False) (Stp.of_below (qe (qc w))) fun _ _ h=>h) hw)
 obtain⟨vr,vl,jc,hr,hl⟩:=h.A2;have oc:=h.oc;have c:=jc.cell;have s:=jc.lt;generalize H.A7=D at *;obtain⟨H',fi⟩:=D;simp only at HD HL ⊢;have HC:=Qa (fun (w5:Aa)(o5:Own)(hs:Stp (zd l) o o5 w.drew w5)=>show An w5 cy #[ptr l.h,FN cy 1,vr,vl] 201/\o5 cy=(l.id,7)/\Row w5 o5 (l.id,8) 3 1 vr rd.length (rd.map nv)/\Row w5 o5 (l.id,9) 3 1 vl ls.length (ls.map nv) from
  ⟨(qi jc).Ar hs (by rw[oc];exact n7),(hs.tags _ jc.lt).trans oc,(hr.below (qe (qc w))).Ar hs n8,(hl.below (qe (qc w))).Ar hs n9⟩)
 obtain⟨pl,cl,rfl⟩:=hr.A5;have vX:=Qa HL;have hfin:=Qa (fun (w1:Aa)(o1:Own)(w3:Aa)(pa:Option Addr)(cp:Nat)(hH1:BX w1 o1 l H')(hs1:Stp (zd l) o o1 w.drew w1)
   (hown:Row w3 (ext o1 w1.1.size (l.id,8)) (l.id,8) 3 1 (.slice pa (rd.length+fi.length) cp) (rd.length+fi.length) (rd.map nv++fi.map nv))(hst:Stp (fun u=>u=(l.id,8)) o1 (ext o1 w1.1.size (l.id,8)) w1 w3) =>
  show ∃ o',BX ((w3.setCell ⟨cy,2,none⟩ (.slice pa (rd.length+fi.length) cp)).setCell ⟨cy,1,none⟩ (.func (.func 190) #[ptr cy] #[])) o' l H'/\DJ ((w3.setCell ⟨cy,2,none⟩ (.slice pa (rd.length+fi.length) cp)).setCell ⟨cy,1,none⟩ (.func (.func 190) #[ptr cy] #[])) o' l cy 2 (rd++fi) ls/\Stp (FG l) o o' w ((w3.setCell ⟨cy,2,none⟩ (.slice pa (rd.length+fi.length) cp)).setCell ⟨cy,1,none⟩ (.func (.func 190) #[ptr cy] #[])) from by
  obtain⟨j1,oc1,r8,r9⟩:=HC.o _ _ hs1;have o3:ext o1 w1.1.size (l.id,8) cy=(l.id,7):=(hst.tags _ j1.lt).trans oc1;have j3:=j1.Ar hst (by rw[oc1];simp)
  have k:Stp (fun t=>t=(l.id,7)) (ext o1 w1.1.size (l.id,8)) (ext o1 w1.1.size (l.id,8)) w3 ((w3.setCell ⟨cy,2,none⟩ (.slice pa (rd.length+fi.length) cp)).setCell ⟨cy,1,none⟩ (.func (.func 190) #[ptr cy] #[])):=((Stp.refl _ _ w3).setCell (by show ext o1 w1.1.size (l.id,8) cy=_;exact o3) _).setCell (by show ext o1 w1.1.size (l.id,8) cy=_;exact o3) _
  have hs7:∀ j,j<=6->¬(l.id,j)=(l.id,7):=fun j hj=>by simp;omega
  have gQ:∀ j,j<=6->¬(l.id,j)=(l.id,8):=fun j hj=>by simp;omega
  have e1:(rd++fi).length=rd.length+fi.length:=Qd;refine⟨_,(hH1.Ar hst gQ).Ar k hs7,⟨⟨.slice pa (rd.length+fi.length) cp,vl,(j3.set 2 _).set 1 _,?_,(r9.Ar hst (by simp)).Ar k (by simp)⟩,o3⟩,
   (((Stp.of_below (qe (qc w))).trans (hs1.mono fun _ h=>nn h)).trans (hst.mono (by rintro _ rfl;exact⟨rfl,.inr (.inl rfl)⟩))).trans (k.mono (by rintro _ rfl;exact⟨rfl,.inl (Qk _)⟩))⟩
  rw[e1,Qw];exact hown.Ar k (by simp))
 clear h hH hw hr hl h1 h2 HL oc;go_in;go_upto_region 1 with fail;go_region_law (first
  | (refine p9 _ (by rfl) _ _ _ (by rfl) 3 iI _ 1 8 hu64 hi bZ hsI cZ (by rfl) (by decide) o1 (l.id,8) _ rd.length (rd.map nv) (by rfl) r8 o1 (DK l) _ fi.length (fi.map nv) (by rfl) hrow (rz _) vX.o.1 vX.o.2 ?_;intro v' w3 hown hst;obtain⟨pa,cp,rfl⟩:=hown.A5;have j3:=j1.Ar hst (by rw[oc1];simp);have c3:=j3.cell;have z3:=j3.free;have s3:=j3.lt)
  | (go_simp;go_wp2_with ((go_at_call 189;refine HD.o.mono ?_;rintro e w1 ⟨v,o1,rfl,hH1,hs1,hrow⟩;obtain⟨pv,cv,rfl⟩:=hrow.A5;obtain⟨j1,oc1,r8,r9⟩:=HC.o _ _ hs1;have c1:=j1.cell;have s1:=j1.lt))))
 all_goals
  have HF:=Qa (hfin.o _ _ _ _ _ hH1 hs1 hown hst);go_wp2_with fail;go_ret;exact⟨rfl,HF.o⟩
end
section
variable {w w' : Aa} {o : Own} {l : Bo} {H : Hp} {vc vo vw vf : Ac} {f : Nat -> Nat}
def AN.flipped (h:AN w o l H vc vo vw vf f){w':Aa}(hb:An w' l.h (H.flip.cells l.a (Ai none 0 0) vc vw vf) 185)(hs:Stp (fun t=>t=(l.id,0)) o o w w'):AN w' o l H.flip (Ai none 0 0) vc vw vf f:=by
 have hn:∀ j,j≠0->¬(l.id,j)=(l.id,0):=fun j hj e=>hj (by simpa using e)
 have hlen:H.flip.old.length=H.cur.length:=by simp[Hp.flip]
 have hmap:(H.flip.old.map fun x=>nv x.1)=H.cur.map fun x=>nv x.1:=by simp[Hp.flip,List.map_map,Function.comp_def]
 refine⟨hb,h.Cq.Ar hs (by rw[h.oa];exact hn _ (by omega)) (by rw[h.ow];exact hn _ (by omega)),Row.nil _ _ _ _ _,?_,h.rw.Ar hs (hn _ (by omega)),h.rf.Ar hs (hn _ (by omega)),h.oh,h.oa,h.ow,fun x hx=>(by cases hx),fun x hx=>?_⟩
 ·rw[hlen,hmap]
  have:=h.rc.Ar hs (hn _ (by split<;>omega))
  have e:(if H.flip.use then 3 else 4)=(if H.use then 4 else 3):=by show (if !H.use then 3 else 4)=_;cases H.use<;>rfl
  rw[e];exact this
 ·obtain⟨z,hz,rfl⟩:=Qt.1 (show x ∈ H.cur.map _ from hx)
  exact⟨fun _=>h.FC z hz,fun q hq=>by cases hq⟩
def LH {sz tp eT dK CE dH us:Nat}(hb:An w l.h #[Ah (some ⟨l.a,0,none⟩),.int .i64 1,.int .i64 sz,.int .i64 tp,.int .i64 (1+(sz:Int)),.int .i64 sz,.int .i64 eT,vc,vo,.int .i64 0,.bool false,.int .i64 dK,.int .i64 CE,.int .i64 dH,vw,vf] 185)
  (hE:∀ W,Ab AId 187 #[Al #[.int .i64 (1+(sz:Int)),.int .i64 sz,.int .i64 eT]] W fun e w'=>e=O (Al #[.int .i64 (1+(sz:Int)),.int .i64 sz,.int .i64 (1+(sz:Int))])/\Ae W.1.size W w')
  (hU:∀ W,Ab AId 188 #[Al #[.int .i64 1,.int .i64 sz,.int .i64 tp]] W fun e w'=>e=O (.int .i64 us)/\Ae W.1.size W w') :
  Ab AId 125 #[Ah (some ⟨l.h,0,none⟩)] w fun e w'=>e=O (.bool true)/\An w' l.h #[Ah (some ⟨l.a,0,none⟩),.int .i64 1,.int .i64 sz,.int .i64 tp,.int .i64 (1+(sz:Int)),.int .i64 sz,.int .i64 (1+(sz:Int)),vc,Ai none 0 0,.int .i64 1,.bool true,.int .i64 us,.int .i64 (1+(sz:Int)),.int .i64 dH,vw,vf] 185/\Wr l.h w w':=by
 have HE:=Qa hE;have HU:=Qa hU;clear hE hU;have c:=hb.cell;have z:=hb.free;have s:=hb.lt;go_in;go_upto_region 5 with fail;obtain⟨W1,hW1⟩:=Ja0 (w.setCell ⟨l.h,9,none⟩ (.int .i64 1));have j1:An W1 l.h #[Ah (some ⟨l.a,0,none⟩),.int .i64 1,.int .i64 sz,.int .i64 tp,.int .i64 (1+(sz:Int)),.int .i64 sz,.int .i64 eT,vc,vo,.int .i64 1,.bool false,.int .i64 dK,.int .i64 CE,.int .i64 dH,vw,vf] 185:=by rw[hW1];exact hb.set 9 _
 have r1:Wr l.h w W1:=by rw[hW1];exact Wr.set _ _ _ _
 rw[<-hW1];clear hW1 c z s hb;have k9:=j1.cell 9;have k1:=j1.cell 4;have k2:=j1.cell 5;have k3:=j1.cell 6;simp at k9 k1 k2 k3;have hn1:=World.new_ne W1 ⟨l.h,9,none⟩ k9;have s1:=j1.lt;have z1:=j1.free;go_cut [](fun wx=>An wx l.h #[Ah (some ⟨l.a,0,none⟩),.int .i64 1,.int .i64 sz,.int .i64 tp,.int .i64 (1+(sz:Int)),.int .i64 sz,.int .i64 (1+(sz:Int)),vc,vo,.int .i64 1,.bool false,.int .i64 dK,.int .i64 CE,.int .i64 dH,vw,vf] 185/\Wr l.h W1 wx)
 case first =>
  go_region_with (first|(go_at_call 187;refine (HE.o _).mono ?_;rintro e w4 ⟨rfl,hb4⟩;have j4:=An.below (qi j1) hb4 (qi j1).lt;have c4:=j4.cell;have z4:=j4.free;have s4:=j4.lt)|fail)
  all_goals
   go_wp2_with fail;go_meet;exact⟨by simpa using ((j4.set 4 _).set 5 _).set 6 _,(((Wr.of_below (qe (qc W1))).trans (Wr.of_below hb4)).trans (Wr.set _ _ _ _)).trans ((Wr.set _ _ _ _).trans (Wr.set _ _ _ _))⟩
 case rest =>
  obtain⟨j2,r2⟩:=hcut;have R2:=Qa (r1.trans r2);clear k9 k1 k2 k3 hn1 s1 z1 r1 r2 j1;have c:=j2.cell;have z:=j2.free;have s:=j2.lt;go_upto_region 6 with fail;go_region;go_wp2_with fail;obtain⟨W4,eD⟩:=Ja0 (((wc.setCell ⟨l.h,8,none⟩ (Ai none 0 0)).setCell ⟨l.h,10,none⟩ (.bool true)).drew);have j4:An W4 l.h #[Ah (some ⟨l.a,0,none⟩),.int .i64 1,.int .i64 sz,.int .i64 tp,.int .i64 (1+(sz:Int)),.int .i64 sz,.int .i64 (1+(sz:Int)),vc,Ai none 0 0,.int .i64 1,.bool true,.int .i64 dK,.int .i64 CE,.int .i64 dH,vw,vf] 185:=by rw[eD];exact qi (by simpa using (j2.set 8 (Ai none 0 0)).set 10 (.bool true))
  have r4:Wr l.h wc W4:=by rw[eD];exact ((Wr.set _ _ _ _).trans (Wr.set _ _ _ _)).trans (Wr.of_below (qe (qc _)))
  rw[<-eD];clear eD c z s j2;refine (HU.o _).mono ?_;rintro e w5 ⟨rfl,hb5⟩;have j5:=j4.below hb5 j4.lt;have r5:=r4.B7 hb5;clear hb5 j4 r4;have c:=j5.cell;have z:=j5.free;have s:=j5.lt;go_upto_region 9 with fail;obtain⟨W6,iG⟩:=Ja0 (w5.setCell ⟨l.h,11,none⟩ (.int .i64 us));have j6:An W6 l.h #[Ah (some ⟨l.a,0,none⟩),.int .i64 1,.int .i64 sz,.int .i64 tp,.int .i64 (1+(sz:Int)),.int .i64 sz,.int .i64 (1+(sz:Int)),vc,Ai none 0 0,.int .i64 1,.bool true,.int .i64 us,.int .i64 CE,.int .i64 dH,vw,vf] 185:=by rw[iG];simpa using j5.set 11 (.int .i64 us)
  have r6:Wr l.h wc W6:=by rw[iG];exact r5.trans (Wr.set _ _ _ _)
  rw[<-iG];clear iG c z s j5 r5;have c:=j6.cell;have z:=j6.free;have s:=j6.lt;go_region;go_wp2_with fail;go_ret;refine⟨rfl,qi (by simpa using j6.set 12 (.int .i64 (1+(sz:Int)))),((R2.o.trans r6).trans (Wr.set _ _ _ _)).trans (Wr.of_below (qe (qc _)))⟩
def LI {sz tp eT dK CE dH us:Nat}(hb:An w l.h #[Ah (some ⟨l.a,0,none⟩),.int .i64 1,.int .i64 sz,.int .i64 eT,.int .i64 (1+(sz:Int)),.int .i64 sz,.int .i64 tp,vo,vc,.int .i64 1,.bool false,.int .i64 dK,.int .i64 CE,.int .i64 dH,vw,vf] 185)
  (hE:∀ W,Ab AId 187 #[Al #[.int .i64 1,.int .i64 sz,.int .i64 eT]] W fun e w'=>e=O (Al #[.int .i64 1,.int .i64 sz,.int .i64 1])/\Ae W.1.size W w')
  (hU:∀ W,Ab AId 188 #[Al #[.int .i64 (1+(sz:Int)),.int .i64 sz,.int .i64 tp]] W fun e w'=>e=O (.int .i64 us)/\Ae W.1.size W w') :
  Ab AId 125 #[Ah (some ⟨l.h,0,none⟩)] w fun e w'=>e=O (.bool true)/\An w' l.h #[Ah (some ⟨l.a,0,none⟩),.int .i64 1,.int .i64 sz,.int .i64 1,.int .i64 (1+(sz:Int)),.int .i64 sz,.int .i64 tp,Ai none 0 0,vc,.int .i64 0,.bool true,.int .i64 us,.int .i64 1,.int .i64 dH,vw,vf] 185/\Wr l.h w w':=by
 have HE:=Qa hE;have HU:=Qa hU;clear hE hU;have c:=hb.cell;have z:=hb.free;have s:=hb.lt;go_in;go_upto_region 5 with fail;obtain⟨W1,hW1⟩:=Ja0 (w.setCell ⟨l.h,9,none⟩ (.int .i64 0));have j1:An W1 l.h #[Ah (some ⟨l.a,0,none⟩),.int .i64 1,.int .i64 sz,.int .i64 eT,.int .i64 (1+(sz:Int)),.int .i64 sz,.int .i64 tp,vo,vc,.int .i64 0,.bool false,.int .i64 dK,.int .i64 CE,.int .i64 dH,vw,vf] 185:=by rw[hW1];exact hb.set 9 _
 have r1:Wr l.h w W1:=by rw[hW1];exact Wr.set _ _ _ _
 rw[<-hW1];clear hW1 c z s hb;have k9:=j1.cell 9;have k1:=j1.cell 1;have k2:=j1.cell 2;have k3:=j1.cell 3;simp at k9 k1 k2 k3;have hn1:=World.new_ne W1 ⟨l.h,9,none⟩ k9;have s1:=j1.lt;have z1:=j1.free;go_cut [](fun wx=>An wx l.h #[Ah (some ⟨l.a,0,none⟩),.int .i64 1,.int .i64 sz,.int .i64 1,.int .i64 (1+(sz:Int)),.int .i64 sz,.int .i64 tp,vo,vc,.int .i64 0,.bool false,.int .i64 dK,.int .i64 CE,.int .i64 dH,vw,vf] 185/\Wr l.h W1 wx)
 case first =>
  go_region_with (first|(go_at_call 187;refine (HE.o _).mono ?_;rintro e w4 ⟨rfl,hb4⟩;have j4:=An.below (qi j1) hb4 (qi j1).lt;have c4:=j4.cell;have z4:=j4.free;have s4:=j4.lt)|fail)
  all_goals
   go_wp2_with fail;go_meet;exact⟨by simpa using ((j4.set 1 _).set 2 _).set 3 _,(((Wr.of_below (qe (qc W1))).trans (Wr.of_below hb4)).trans (Wr.set _ _ _ _)).trans ((Wr.set _ _ _ _).trans (Wr.set _ _ _ _))⟩
 case rest =>
  obtain⟨j2,r2⟩:=hcut;have R2:=Qa (r1.trans r2);clear k9 k1 k2 k3 hn1 s1 z1 r1 r2 j1;have c:=j2.cell;have z:=j2.free;have s:=j2.lt;go_upto_region 6 with fail;go_region;go_wp2_with fail;obtain⟨W4,eD⟩:=Ja0 (((wc.setCell ⟨l.h,7,none⟩ (Ai none 0 0)).setCell ⟨l.h,10,none⟩ (.bool true)).drew);have j4:An W4 l.h #[Ah (some ⟨l.a,0,none⟩),.int .i64 1,.int .i64 sz,.int .i64 1,.int .i64 (1+(sz:Int)),.int .i64 sz,.int .i64 tp,Ai none 0 0,vc,.int .i64 0,.bool true,.int .i64 dK,.int .i64 CE,.int .i64 dH,vw,vf] 185:=by rw[eD];exact qi (by simpa using (j2.set 7 (Ai none 0 0)).set 10 (.bool true))
  have r4:Wr l.h wc W4:=by rw[eD];exact ((Wr.set _ _ _ _).trans (Wr.set _ _ _ _)).trans (Wr.of_below (qe (qc _)))
  rw[<-eD];clear eD c z s j2;refine (HU.o _).mono ?_;rintro e w5 ⟨rfl,hb5⟩;have j5:=j4.below hb5 j4.lt;have r5:=r4.B7 hb5;clear hb5 j4 r4;have c:=j5.cell;have z:=j5.free;have s:=j5.lt;go_upto_region 9 with fail;obtain⟨W6,iG⟩:=Ja0 (w5.setCell ⟨l.h,11,none⟩ (.int .i64 us));have j6:An W6 l.h #[Ah (some ⟨l.a,0,none⟩),.int .i64 1,.int .i64 sz,.int .i64 1,.int .i64 (1+(sz:Int)),.int .i64 sz,.int .i64 tp,Ai none 0 0,vc,.int .i64 0,.bool true,.int .i64 us,.int .i64 CE,.int .i64 dH,vw,vf] 185:=by rw[iG];simpa using j5.set 11 (.int .i64 us)
  have r6:Wr l.h wc W6:=by rw[iG];exact r5.trans (Wr.set _ _ _ _)
  rw[<-iG];clear iG c z s j5 r5;have c:=j6.cell;have z:=j6.free;have s:=j6.lt;go_region;go_wp2_with fail;go_ret;refine⟨rfl,qi (by simpa using j6.set 12 (.int .i64 1)),((R2.o.trans r6).trans (Wr.set _ _ _ _)).trans (Wr.of_below (qe (qc _)))⟩
def Hx (h:AN w o l H vc vo vw vf f) (hk:H.ok) (hm:H.AL=false) :
  Ab AId 125 #[Ah (some ⟨l.h,0,none⟩)] w fun e w'=>e=O (.bool true)/\AN w' o l H.flip (Ai none 0 0) vc vw vf f/\Stp (zd l) o o w w':=by
 have hsz:=hk.sz;have hol:=g9 _ _ _ hk.ol;have hot:=hk.ot;have htop:=kw hk;have hroom:=hk.room;have hb0:=H.Cd (!H.use);have hb1:=H.Cd H.use;rcases (show H.use=false\/H.use=true by cases H.use<;>simp) with hu|hu
 ·have e0:H.base H.use=1:=by rw[hu];rfl
  have e1:H.base (!H.use)=1+H.size:=by rw[hu];rfl
  have e2:((1+H.size:Nat):Int)=1+(H.size:Int):=by omega
  have hE:=fun W=>fc (b:=1+H.size) (s:=H.size) (t:=H.B5) ⟨by omega,by omega,by omega,by omega⟩ W
  have hU:=fun W=>y9 (b:=1) (s:=H.size) (t:=H.top) ⟨by omega,by omega,by omega,by omega⟩ W
  unfold DG at hE;rw[e2]at hE;have hb:=h.En hu;rw[hm]at hb;refine (LH hb hE hU).mono ?_;rintro e w' ⟨rfl,j,r⟩;have hs:Stp (fun t=>t=(l.id,0)) o o w w':=Stp.Cg r h.oh;refine⟨rfl,h.flipped ?_ hs,hs.mono (by rintro _ rfl;exact⟨rfl,by simp⟩)⟩
  have ec:H.flip.cells l.a (Ai none 0 0) vc vw vf=#[Ah (some ⟨l.a,0,none⟩),.int .i64 1,.int .i64 H.size,.int .i64 H.top,.int .i64 (1+(H.size:Int)),.int .i64 H.size,.int .i64 (1+(H.size:Int)),vc,Ai none 0 0,.int .i64 1,.bool true,.int .i64 ((H.top-1:Nat):Int),.int .i64 (1+(H.size:Int)),.int .i64 H.Ap,vw,vf]:=by
   unfold Hp.cells Hp.flip;simp only[hu,Bool.not_false,if_true];unfold Hp.base;simp
  rw[ec];exact j
 ·have e0:H.base H.use=1+H.size:=by rw[hu];rfl
  have e1:H.base (!H.use)=1:=by rw[hu];rfl
  have e2:((1+H.size:Nat):Int)=1+(H.size:Int):=by omega
  have hE:=fun W=>fc (b:=1) (s:=H.size) (t:=H.B5) ⟨by omega,by omega,by omega,by omega⟩ W
  have hU:=fun W=>y9 (b:=1+H.size) (s:=H.size) (t:=H.top) ⟨by omega,by omega,by omega,by omega⟩ W
  unfold DG at hU;rw[e2]at hU;have hb:=h.Eo hu;rw[hm]at hb;refine (LI hb hE hU).mono ?_;rintro e w' ⟨rfl,j,r⟩;have hs:Stp (fun t=>t=(l.id,0)) o o w w':=Stp.Cg r h.oh;refine⟨rfl,h.flipped ?_ hs,hs.mono (by rintro _ rfl;exact⟨rfl,by simp⟩)⟩
  have ec:H.flip.cells l.a (Ai none 0 0) vc vw vf=#[Ah (some ⟨l.a,0,none⟩),.int .i64 1,.int .i64 H.size,.int .i64 1,.int .i64 (1+(H.size:Int)),.int .i64 H.size,.int .i64 H.top,Ai none 0 0,vc,.int .i64 0,.bool true,.int .i64 ((H.top-(1+H.size):Nat):Int),.int .i64 1,.int .i64 H.Ap,vw,vf]:=by
   unfold Hp.cells Hp.flip;simp only[hu,Bool.not_true,Bool.false_eq_true,if_false];unfold Hp.base;simp
  rw[ec];exact j
end
section
variable {w w' : Aa} {o o' : Own} {l : Bo} {cy n : Nat} {rd ls : List Nat}
def Li {H:Hp}(h:BX w o l H)(hk:H.ok)(hm:H.AL=false) :
  Ab AId 125 #[ptr l.h] w fun e w'=>e=O (.bool true)/\BX w' o l H.flip/\Stp (zd l) o o w w':=by
 obtain⟨vc,vo,vw,vf,f,hh⟩:=h;refine (Hx hh hk hm).mono ?_
 rintro e w'⟨rfl,h',hs⟩
 exact⟨rfl,⟨_,_,_,_,_,h'⟩,hs⟩
def qls {vp vl vr:Ac}(jc:An w cy #[ptr l.h,vp,vr,vl] 201)(a:Option Addr)(c0:Nat) :
  Ab AId 127 #[ptr cy,.slice a 0 c0] w fun e w'=>e=O (Ai none 0 0)/\w=w':=by
 have c:=jc.cell;clear jc;go_in;go_wp2_with fail;go_loopw [5,7,10](fun vv _ ix wr=>vv=Ai none 0 0/\ix=.int .i64 0/\wr=w)(fun _ _ _ _=>0)
 case atStart=>exact⟨rfl,rfl,rfl⟩
 case round =>
  obtain⟨rfl,rfl,rfl⟩:=hrel;go_wp2_with fail;go_ret;exact⟨rfl,rfl⟩
end
section
variable {w w' : Aa} {o o' : Own} {l : Bo} {cy n : Nat} {rd ls : List Nat}
def qpm {vr vl:Ac}(hb:An w cy #[ptr l.h,FN cy n,vr,vl] 201)(oc:o cy=(l.id,7))(h1:Row w o (l.id,8) 3 1 vr rd.length (rd.map nv)) :
  Ab AId 68 #[ptr cy] w fun e w'=>e=O vr/\Row w' o (l.id,8) 3 1 vr rd.length (rd.map nv)/\An w' cy #[ptr l.h,FN cy n,Ai none 0 0,vl] 201/\Stp (fun t=>t=(l.id,7)) o o w w':=by
 have hfin:=Qa (show Row (w.setCell ⟨cy,2,none⟩ (Ai none 0 0)) o (l.id,8) 3 1 vr rd.length (rd.map nv)/\An (w.setCell ⟨cy,2,none⟩ (Ai none 0 0)) cy #[ptr l.h,FN cy n,Ai none 0 0,vl] 201/\Stp (fun t=>t=(l.id,7)) o o w (w.setCell ⟨cy,2,none⟩ (Ai none 0 0)) from by
  have k:Stp (fun t=>t=(l.id,7)) o o w (w.setCell ⟨cy,2,none⟩ (Ai none 0 0)):=(Stp.refl _ o w).setCell (by show o cy=_;exact oc) _
  exact⟨h1.Ar k (by simp),hb.set 2 _,k⟩)
 obtain⟨pa,cp,rfl⟩:=h1.A5;have c:=hb.cell;have z:=hb.free;have s:=hb.lt;clear h1;go_in;go_wp2_with fail;go_ret;exact⟨rfl,hfin.o⟩
def G4 {vr vl:Ac}(hb:An w cy #[ptr l.h,FN cy n,vr,vl] 201)(oc:o cy=(l.id,7))(h2:Row w o (l.id,9) 3 1 vl ls.length (ls.map nv)) :
  Ab AId 71 #[ptr cy] w fun e w'=>e=O vl/\Row w' o (l.id,9) 3 1 vl ls.length (ls.map nv)/\An w' cy #[ptr l.h,FN cy n,vr,Ai none 0 0] 201/\Stp (fun t=>t=(l.id,7)) o o w w':=by
 have hfin:=Qa (show Row (w.setCell ⟨cy,3,none⟩ (Ai none 0 0)) o (l.id,9) 3 1 vl ls.length (ls.map nv)/\An (w.setCell ⟨cy,3,none⟩ (Ai none 0 0)) cy #[ptr l.h,FN cy n,vr,Ai none 0 0] 201/\Stp (fun t=>t=(l.id,7)) o o w (w.setCell ⟨cy,3,none⟩ (Ai none 0 0)) from by
  have k:Stp (fun t=>t=(l.id,7)) o o w (w.setCell ⟨cy,3,none⟩ (Ai none 0 0)):=(Stp.refl _ o w).setCell (by show o cy=_;exact oc) _
  exact⟨h2.Ar k (by simp),hb.set 3 _,k⟩)
 obtain⟨pa,cp,rfl⟩:=h2.A5;have c:=hb.cell;have z:=hb.free;have s:=hb.lt;clear h2;go_in;go_wp2_with fail;go_ret;exact⟨rfl,hfin.o⟩
def qph {H:Hp}(hH:BX w o l H)(hw:H.wf)(hm:H.AL=false)(jc:An w cy #[ptr l.h,.nilFunc,Ai none 0 0,Ai none 0 0] 201)(oc:o cy=(l.id,7)){v:Ac}{ps:List Nat}{ta:Tag}(hv:Row w o ta 3 1 v ps.length (ps.map nv))(hp:ps.length<=8796093022208)
  (tg:Tag)(na:¬FG l ta)(ng:¬FG l tg)(nag:ta≠tg) :
  Ab AId 62 #[ptr cy,v] w fun e w'=>∃ v' o',e=O (Ak #[v',.bool true])/\BX w' o' l (H.flip.Ay ps).1/\An w' cy #[ptr l.h,.func (.func 126) #[ptr cy] #[],Ai none 0 0,Ai none 0 0] 201/\Row w' o' tg 3 1 v' ps.length ((H.flip.Ay ps).2.map nv)/\Stp (fun t=>FG l t\/t=tg) o o' w w':=by
 have fK:∀ (fn:Fn)(first cap:Array Ac)(w:Aa),(Instr.makeFunc fn first cap).run AId w=.ok (.func fn first cap) w:=fun _ _ _ _=>rfl
 have n7:¬zd l (l.id,7):=fun hh=>by have:=hh.2;simp at this
 have n8:¬zd l (l.id,8):=fun hh=>by have:=hh.2;simp at this
 have n9:¬zd l (l.id,9):=fun hh=>by have:=hh.2;simp at this
 have c7:FG l (l.id,7):=⟨rfl,.inl (Qk _)⟩;have c9:FG l (l.id,9):=⟨rfl,.inr (.inr rfl)⟩;have hwf:H.flip.wf:=Hp.ER hw hm;have c:=jc.cell;have hne:=run_neq_nil_nil w 23 underlying23;have HFl:=Qa (Li hH hw.ok hm)
 have vZ:=Qa (fun w2 (h2:BX w2 o l H.flip)(j2:An w2 cy #[ptr l.h,.func (.func 126) #[ptr cy] #[],Ai none 0 0,Ai none 0 0] 201)(v2:Row w2 o ta 3 1 v ps.length (ps.map nv)) =>
  qk4 h2 hwf j2 oc v2 hp tg (fun h=>na (nn h)) (fun h=>ng (nn h)) nag (fun e=>ng (by rw[e];exact c7)))
 have H1:=Qa (fun w1 (hs1:Stp (zd l) o o w w1)(hH1:BX w1 o l H.flip)=>show An w1 cy #[ptr l.h,.nilFunc,Ai none 0 0,Ai none 0 0] 201/\BX (w1.setCell ⟨cy,1,none⟩ (.func (.func 126) #[ptr cy] #[])) o l H.flip /\
   An (w1.setCell ⟨cy,1,none⟩ (.func (.func 126) #[ptr cy] #[])) cy #[ptr l.h,.func (.func 126) #[ptr cy] #[],Ai none 0 0,Ai none 0 0] 201 /\
   Row (w1.setCell ⟨cy,1,none⟩ (.func (.func 126) #[ptr cy] #[])) o ta 3 1 v ps.length (ps.map nv) /\
   Stp (FG l) o o w (w1.setCell ⟨cy,1,none⟩ (.func (.func 126) #[ptr cy] #[])) from by
  have k:Stp (fun t=>t=(l.id,7)) o o w1 (w1.setCell ⟨cy,1,none⟩ (.func (.func 126) #[ptr cy] #[])):=(Stp.refl _ o w1).setCell (by show o cy=_;exact oc) _
  have j1:=jc.Ar hs1 (by rw[oc];exact n7)
  exact⟨j1,hH1.Ar k fun j hj=>by simp;omega,j1.set 1 _,(hv.Ar hs1 fun h=>na (nn h)).Ar k (fun e=>na (by rw[e];exact c7)),(hs1.mono fun _ h=>nn h).trans (k.mono (by rintro _ rfl;exact c7))⟩)
 have OC:=Qa oc;have NG:=Qa (show ¬hOr l tg (l.id,7) from fun h=>h.elim n7 fun e=>ng (by rw[<-e];exact c7))
 have NT:=Qa (show tg≠(l.id,7) from fun e=>ng (by rw[e];exact c7))
 have C7:=Qa c7;obtain⟨pv,cv,rfl⟩:=hv.A5;generalize ps.length=np at *;generalize H.flip.Ay ps=MV at *;obtain⟨H2,qs⟩:=MV;simp only at vZ ⊢;clear hH hw hm hv hp na ng nag hwf oc jc n7 n8 n9 c7 c9;go_in;go_wp2_with fail;refine HFl.o.mono ?_
 rintro e w1 ⟨rfl,hH1,hs1⟩
 obtain⟨j1,hH2,j2,hv2,hs2⟩:=H1.o _ hs1 hH1;have c1:=j1.cell;have z1:=j1.free;have s1:=j1.lt;clear c hne;go_upto_region 5 with fail;obtain⟨W2,hW2⟩:=Ja0 (w1.setCell ⟨cy,1,none⟩ (.func (.func 126) #[ptr cy] #[]));rw[<-hW2]at hH2 j2 hv2 hs2 ⊢;have eU:=Qa (vZ.o _ hH2 j2 hv2);clear hW2 j1 c1 z1 s1 hs1 hH1 hH2 hv2 vZ H1;go_wp2_with fail;refine eU.o.mono ?_
 rintro e w3 ⟨v3,o3,rfl,hH3,hr3,hs3⟩
 obtain⟨p3,c3,rfl⟩:=hr3.A5;have j3:=j2.Ar hs3 (by rw[OC.o];exact NG.o)
 have oc3:o3 cy=(l.id,7):=(hs3.tags _ j2.lt).trans OC.o;have HN:=Qa (qls j3 none 0)
 have hfin:=Qa (show BX (w3.setCell ⟨cy,2,none⟩ (Ai none 0 0)) o3 l H2/\An (w3.setCell ⟨cy,2,none⟩ (Ai none 0 0)) cy #[ptr l.h,.func (.func 126) #[ptr cy] #[],Ai none 0 0,Ai none 0 0] 201/\Row (w3.setCell ⟨cy,2,none⟩ (Ai none 0 0)) o3 tg 3 1 (.slice p3 np c3) np (qs.map nv)/\Stp (fun t=>FG l t\/t=tg) o o3 w (w3.setCell ⟨cy,2,none⟩ (Ai none 0 0)) from by
  have k:Stp (fun t=>t=(l.id,7)) o3 o3 w3 (w3.setCell ⟨cy,2,none⟩ (Ai none 0 0)):=(Stp.refl _ o3 w3).setCell (by show o3 cy=_;exact oc3) _
  exact⟨hH3.Ar k fun j hj=>by simp;omega,j3.set 2 _,hr3.Ar k NT.o,
   ((hs2.mono fun _ h=>Or.inl h).trans (hs3.mono fun _ h=>h.elim (fun h=>Or.inl (nn h)) Or.inr)).trans (k.mono (by rintro _ rfl;exact Or.inl C7.o))⟩)
 have c:=j3.cell;have z:=j3.free;have s:=j3.lt;clear hH3 hr3 hs3 hs2 j2;go_wp2_with fail;refine HN.o.mono ?_
 rintro e w4 ⟨rfl,rfl⟩
 go_wp2_with fail;go_ret2;exact⟨_,o3,rfl,hfin.o⟩
end
section
variable {w w' : Aa} {o o' : Own} {l : Bo} {cy n : Nat} {rd ls : List Nat}
def Ll {H:Hp}(h:BX w o l H)(hw:H.wf) :
  Ab AId 129 #[ptr l.h] w fun e w'=>e=O (.bool H.Bd.2)/\∃ o',BX w' o' l H.Bd.1/\Stp (zd l) o o' w w':=by
 obtain⟨vc,vo,vw,vf,f,hh⟩:=h;refine (Kj hh hw).mono ?_
 rintro e w'⟨rfl,bX,f',o',h',hs⟩
 exact⟨rfl,o',⟨bX,vo,vw,vf,f',h'⟩,hs⟩
def qma {H:Hp}(h:H.Bd.2=false):H.Bd.1=H:=by
 unfold Hp.Bd at h ⊢;by_cases hc:H.AL=false\/H.scan=H.top
 ·rw[if_pos hc]
 ·rw[if_neg hc]at h ⊢
  cases hl:lk H.cur H.scan with
  | none=>rfl
  | some ob =>
   rw[hl]at h;simp only at h;split at h<;>simp at h
def ul (H:Hp)(n:Nat)(rd ls:List Nat):Hp×Nat×List Nat×List Nat×Bool:=
 if n=0 then (H,0,rd,ls,false) else if H.Bd.2=true then (H.Bd.1,n,rd,ls,false)
 else if n=1 then (H.A7.1,2,rd++H.A7.2,ls,false) else (H.drop.1,0,rd,ls++H.drop.2.1,true)
def ql9 (h:DJ w o l cy 0 rd ls) :
  Ab AId 67 #[ptr cy] w fun e w'=>e=O (.bool false)/\Ae w.1.size w w':=by
 have HL:=Qa (py h (by omega))
 clear h;go_in;go_wp2_with fail;refine HL.o.mono ?_
 rintro e w1⟨rfl,rfl⟩
 go_wp2_with fail;go_ret;exact⟨rfl,qc _⟩
def Hb {H:Hp}(hH:BX w o l H)(hw:H.wf)(h:DJ w o l cy n rd ls)(hn:n=1\/n=2)(h1:rd.length<=1099511627776)(h2:H.A7.2.length<=1099511627776)(h3:ls.length<=1099511627776)(h4:H.drop.2.1.length<=1099511627776) :
  Ab AId 67 #[ptr cy] w fun e w'=>e=O (.bool (ul H n rd ls).2.2.2.2)/\∃ o',BX w' o' l (ul H n rd ls).1/\DJ w' o' l cy (ul H n rd ls).2.1 (ul H n rd ls).2.2.1 (ul H n rd ls).2.2.2.1/\Stp (FG l) o o' w w':=by
 have n7:¬zd l (l.id,7):=fun hh=>by have:=hh.2;simp at this
 have n8:¬zd l (l.id,8):=fun hh=>by have:=hh.2;simp at this
 have n9:¬zd l (l.id,9):=fun hh=>by have:=hh.2;simp at this
 have HL:=Qa (py h (by omega))
 have HS:=Qa (Ll hH hw);have HC:=Qa (fun (w5:Aa)(o5:Own)(hs:Stp (zd l) o o5 w w5)=>h.Ar hs n7 n8 n9)
 obtain⟨vr,vl,jc,_,_⟩:=h.A2;have c:=jc.cell
 cases hb:H.Bd.2 with
 | true =>
  have e1:ul H n rd ls=(H.Bd.1,n,rd,ls,false):=by unfold ul;rw[if_neg (by omega),if_pos hb]
  rw[e1];rw[hb]at HS;generalize H.Bd.1=H' at *;clear hH hw h h1 h2 h3 h4 e1 hb;rcases hn with rfl|rfl
  all_goals
   go_in;go_wp2_with fail;refine HL.o.mono ?_;rintro e w1 ⟨rfl,rfl⟩;go_wp2_with fail;refine HS.o.mono ?_;rintro e w2 ⟨rfl,o2,hH2,hs2⟩;go_wp2_with fail;go_ret;exact⟨rfl,o2,hH2,HC.o _ _ hs2,hs2.mono fun _ h=>nn h⟩
 | false =>
  have e0:=qma hb;rw[hb,e0]at HS;rcases hn with rfl|rfl
  ·have e1:ul H 1 rd ls=(H.A7.1,2,rd++H.A7.2,ls,false):=by unfold ul;rw[if_neg (by omega),if_neg (by rw[hb];simp),if_pos rfl]
   rw[e1];have HF:=Qa (fun w2 o2 (h2':BX w2 o2 l H)(hc2:DJ w2 o2 l cy 1 rd ls)=>qle h2' hw hc2 h1 h2);generalize H.A7=D at *;clear hH hw h h1 h2 h3 h4 e1 hb e0;go_in;go_wp2_with fail;refine HL.o.mono ?_;rintro e w1 ⟨rfl,rfl⟩;go_wp2_with fail;refine HS.o.mono ?_;rintro e w2 ⟨rfl,o2,hH2,hs2⟩;have hc2:=HC.o _ _ hs2;have uL:=Qa (HF.o _ _ hH2 hc2);obtain⟨vr2,vl2,jc2,_,_⟩:=hc2.A2;have c2:w2.cell? ⟨cy,1,none⟩=some (.func (.func 126) #[ptr cy] #[]):=jc2.cell 1;clear c;go_wp2_with fail;refine uL.o.mono ?_;rintro e w3 ⟨rfl,o3,hH3,hc3,hs3⟩;go_wp2_with fail;go_ret;exact⟨rfl,o3,hH3,hc3,(hs2.mono fun _ h=>nn h).trans hs3⟩
  ·have e1:ul H 2 rd ls=(H.drop.1,0,rd,ls++H.drop.2.1,true):=by unfold ul;rw[if_neg (by omega),if_neg (by rw[hb];simp),if_neg (by omega)]
   rw[e1];have HF:=Qa (fun w2 o2 (h2':BX w2 o2 l H)(hc2:DJ w2 o2 l cy 2 rd ls)=>qjc h2' hw hc2 h3 h4);generalize H.drop=D at *;clear hH hw h h1 h2 h3 h4 e1 hb e0;go_in;go_wp2_with fail;refine HL.o.mono ?_;rintro e w1 ⟨rfl,rfl⟩;go_wp2_with fail;refine HS.o.mono ?_;rintro e w2 ⟨rfl,o2,hH2,hs2⟩;have hc2:=HC.o _ _ hs2;have uL:=Qa (HF.o _ _ hH2 hc2);obtain⟨vr2,vl2,jc2,_,_⟩:=hc2.A2;have c2:w2.cell? ⟨cy,1,none⟩=some (.func (.func 190) #[ptr cy] #[]):=jc2.cell 1;clear c;go_wp2_with fail;refine uL.o.mono ?_;rintro e w3 ⟨rfl,o3,hH3,hc3,hs3⟩;go_wp2_with fail;go_ret;exact⟨rfl,o3,hH3,hc3,(hs2.mono fun _ h=>nn h).trans hs3⟩
