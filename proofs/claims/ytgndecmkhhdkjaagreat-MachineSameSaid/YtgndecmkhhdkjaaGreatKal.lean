import Derived.Test.YtgndecmkhhdkjaaGreatKak
import Derived.Maps.OwnSet
import Derived.Maps.Views
import Derived.Deep.RegionHeld
import Derived.OrdersHeld
set_option linter.all false
set_option maxRecDepth 1000000
set_option maxHeartbeats 0
open Go renaming World->Aa,Calls->Ab,Value->Ac
open Go.RowKit renaming Below->Ae
open Go.Value renaming pointer->Ah,slice->Ai,tuple->Ak,agg->Al
open Go.Ending renaming returned->O
open List renaming append_assoc->Ad,tail_cons->Aj,flatMap_cons->aa,getElem?_cons_succ->af,headD_cons->ag,length_range->aj,getElem?_range->ay,take_length->aA,set_cons_succ->aC,length_drop->aF,append_nil->aG,length_nil->aH,map_congr_left->aI,map_id->aJ,getElem?_drop->aK,mem_range'_1->aM,drop_eq_getElem_cons->aN,getElem?_take_of_lt->aO,map_set->aP,drop_left'->aU,range->aY,map_cons->aZ,filter_congr->bG,range'->bH,cons_append->bJ,drop_length->bK,flatMap_def->bM,nil_append->bO
open Go.Region renaming ready->ai,Mode->aB,binds->aD
open Array renaming getD_eq_getD_getElem?->aL,replicate->aW,getElem?_eq_none->aX
open Go.Maps renaming has->aQ
open Go.WalkArith renaming wf_i64->aR
open Option renaming getD_some->aS,map_some->aV
open Nat renaming lt_or_ge->aT,testBit_two_pow->bF
open Go.Proofs.Tryz
open Go.Proofs.Tryz renaming prog->ANa
namespace Go.Proofs.YtgndecmkhhdkjaaGreat
section
open Go.RowKit Hp
def kz:List (Nat×Nat)->List Nat->List (Nat×Nat)
 | [],_=>[]
 | z::zs,l=>(l.headD 0,z.2)::kz zs l.tail
def xf:List Un->List Nat->List Un
 | [],_=>[]
 | u::us,l=>if u.kind=1 then { u with pos:=l.headD 0,old:=((l.tail.headD 0:Nat):Int) }::xf us l.tail.tail else { u with pos:=l.headD 0 }::xf us l.tail
def Lg.put (L:Lg)(l:List Nat):Lg:=
 { L with reads:=l.take L.reads.length,keeps:=(l.drop L.reads.length).take L.keeps.length,holds:=kz L.holds (l.drop (L.reads.length+L.keeps.length)),Az:=xf L.Az (l.drop (L.reads.length+L.keeps.length+L.holds.length)) }
def bh:∀ (zs:List (Nat×Nat))(l:List Nat),(kz zs l).length=zs.length
 | [],_=>rfl
 | z::zs,l=>by simp[kz,bh zs]
def UJ:∀ (us:List Un)(l:List Nat),(xf us l).length=us.length
 | [],_=>rfl
 | u::us,l=>by unfold xf;split<;>simp[UJ us]
def SE (g:Nat->Nat):∀ (zs:List (Nat×Nat))(l:List Nat),kz zs ((zs.map (·.1)).map g++l)=CR g zs
 | [],_=>rfl
 | z::zs,l=>by
  show ((g z.1::((zs.map (·.1)).map g++l)).headD 0,z.2)::kz zs (g z.1::((zs.map (·.1)).map g++l)).tail=(g z.1,z.2)::CR g zs;simp only[ag,Aj,SE g zs l]
def Ug (g:Nat->Nat):∀ (us:List Un),xf us ((us.flatMap Un.places).map g)=us.map (Un.at' g)
 | []=>rfl
 | u::us=>by
  rw[aa,Qw,aZ];unfold xf Un.places Un.at';split
  ·simp only[aZ,List.map_nil,bJ,bO,ag,Aj]
   exact congrArg _ (Ug g us)
  ·simp only[aZ,List.map_nil,bJ,bO,ag,Aj]
   exact congrArg _ (Ug g us)
def YT (L:Lg)(g:Nat->Nat):L.put (L.roots.map g)=L.at' g:=by
 unfold Lg.put Lg.at' Lg.roots;simp only[Qw];have e1:(L.reads.map g++L.keeps.map g++(L.holds.map (·.1)).map g++(L.Az.flatMap Un.places).map g).take L.reads.length=L.reads.map g:=by
  rw[Ad,Ad,List.take_left' (by simp)]
 have e2:(L.reads.map g++L.keeps.map g++(L.holds.map (·.1)).map g++(L.Az.flatMap Un.places).map g).drop L.reads.length=L.keeps.map g++((L.holds.map (·.1)).map g++(L.Az.flatMap Un.places).map g):=by
  rw[Ad,Ad,aU (by simp)]
 have e3:(L.reads.map g++L.keeps.map g++(L.holds.map (·.1)).map g++(L.Az.flatMap Un.places).map g).drop (L.reads.length+L.keeps.length)=(L.holds.map (·.1)).map g++(L.Az.flatMap Un.places).map g:=by
  rw[Ad,aU (by simp)]
 have e4:(L.reads.map g++L.keeps.map g++(L.holds.map (·.1)).map g++(L.Az.flatMap Un.places).map g).drop (L.reads.length+L.keeps.length+L.holds.length)=(L.Az.flatMap Un.places).map g:=by
  rw[aU (by simp;omega)]
 rw[e1,e2,e3,e4,SE,Ug,List.take_left' (by simp)]
def Xu {L:Lg}(h:L.fit):L.put L.roots=L:=by
 have h1:=YT L id;rw[aJ]at h1;rw[h1];unfold Lg.at';have e1:CR id L.holds=L.holds:=by unfold CR;simp
 have e2:L.Az.map (Un.at' id)=L.Az:=by
  refine (aI fun u hu=>?_).trans (aJ _);unfold Un.at';split
  ·rename_i hk
   have h0:=h.kd u hu hk;obtain⟨kd,ps,i,od⟩:=u;simp only at h0 hk ⊢;show Un.mk kd ps i ((od.toNat:Nat):Int)=Un.mk kd ps i od;rw[Int.toNat_of_nonneg h0]
  ·rfl
 rw[e1,e2,aJ,aJ]
def MI (g:Nat)(s:Nat)(j:Nat):Addr:=⟨g,j*s,none⟩
def vy (v:Ac):Nat:=match v with|Ai (some a) _ _=>a.block|_=>0
def xm (g:Nat):Nat->List Un->List Addr
 | _,[]=>[]
 | j,u::us=>if u.kind=1 then⟨g,j*4+1,none⟩::⟨g,j*4+3,none⟩::xm g (j+1) us else⟨g,j*4+1,none⟩::xm g (j+1) us
def ya (vr vk vh vu:Ac)(L:Lg):List Addr:=
 (aY L.reads.length).map (MI (vy vr) 1)++(aY L.keeps.length).map (MI (vy vk) 1)++(aY L.holds.length).map (MI (vy vh) 2)++xm (vy vu) 0 L.Az
def TU (g:Nat):∀ (us:List Un)(j:Nat),(xm g j us).length=(us.flatMap Un.places).length
 | [],_=>rfl
 | u::us,j=>by
  rw[aa,Qd];have ih:=TU g us (j+1);by_cases hk:u.kind=1
  ·have hp:u.places.length=2:=by unfold Un.places;rw[if_pos hk];rfl
   unfold xm;rw[if_pos hk];simp only[Qv];omega
  ·have hp:u.places.length=1:=by unfold Un.places;rw[if_neg hk];rfl
   unfold xm;rw[if_neg hk];simp only[Qv];omega
def vi (vr vk vh vu:Ac)(L:Lg):(ya vr vk vh vu L).length=L.roots.length:=by
 unfold ya Lg.roots;simp only[Qd,Qg,aj,TU]
def VK:∀ (us:List Un) (l:List Nat),(us.flatMap Un.places).length<=l.length->(xf us l).flatMap Un.places=l.take (us.flatMap Un.places).length
 | [],l,_=>by simp[xf]
 | u::us,l,h=>by
  rw[aa,Qd]at h;rw[aa (f:=Un.places) (x:=u),Qd];unfold xf;by_cases hk:u.kind=1
  ·have hp:u.places.length=2:=by unfold Un.places;rw[if_pos hk];rfl
   rw[hp]at h ⊢;rw[if_pos hk];match l,h with
   | a::b::l,h =>
    rw[aa,Aj,Aj,VK us l (by simp only[Qv]at h;omega)]
    show (if u.kind=1 then [a,((b:Int)).toNat] else [a])++_=_;rw[if_pos hk,Int.toNat_natCast,show 2+(us.flatMap Un.places).length=(us.flatMap Un.places).length+1+1 from by omega]
    simp
   | [a],h=>simp only[Qv,aH]at h;omega
   | [],h=>simp at h
  ·have hp:u.places.length=1:=by unfold Un.places;rw[if_neg hk];rfl
   rw[hp]at h ⊢;rw[if_neg hk];match l,h with
   | a::l,h =>
    rw[aa,Aj,VK us l (by simp only[Qv]at h;omega)]
    show (if u.kind=1 then [a,u.old.toNat] else [a])++_=_;rw[if_neg hk,show 1+(us.flatMap Un.places).length=(us.flatMap Un.places).length+1 from by omega]
    simp
   | [],h=>simp only[aH]at h;omega
def Uh:∀ (zs:List (Nat×Nat))(l:List Nat)(i x:Nat),i<zs.length->zs.length<=l.length ->
  qh (kz zs (l.set i x))=(qh (kz zs l)).set (i*2) (nv x)/\(qh (kz zs l))[i*2]?=(l[i]?).map nv
 | [],_,_,_,h,_=>by simp at h
 | z::zs,[],_,_,_,h=>by simp at h
 | z::zs,a::l,0,x,_,_=>by simp[kz,qh]
 | z::zs,a::l,i+1,x,h,hl=>by
  obtain⟨h1,h2⟩:=Uh zs l i x (by simpa using h) (by simpa using hl)
  have e:(i+1)*2=i*2+1+1:=by omega
  simp only[aC,kz,ag,Aj,qh,e,h1,af,h2,and_self]
def YK:∀ (zs:List (Nat×Nat))(l:List Nat)(i x:Nat),zs.length<=i->kz zs (l.set i x)=kz zs l
 | [],_,_,_,_=>rfl
 | z::zs,l,i,x,h=>by
  obtain⟨j,rfl⟩:∃ j,i=j+1:=⟨i-1,by simp only[Qv]at h;omega⟩
  cases l with
  | nil=>rfl
  | cons a l=>simp only[aC,kz,ag,Aj];rw[YK zs l j x (by simp only[Qv]at h;omega)]
def Ui (g:Nat):∀ (us:List Un)(j:Nat)(l:List Nat)(i x:Nat)(a:Addr),(xm g j us)[i]?=some a->(us.flatMap Un.places).length<=l.length ->
  ∃ c,a=⟨g,j*4+c,none⟩/\qz (xf us (l.set i x))=(qz (xf us l)).set c (nv x)/\(qz (xf us l))[c]?=(l[i]?).map nv
 | [],_,_,_,_,_,h,_=>by simp[xm]at h
 | u::us,j,l,i,x,a,h,hl=>by
  rw[aa,Qd]at hl;by_cases hk:u.kind=1
  ·have hp:u.places.length=2:=by unfold Un.places;rw[if_pos hk];rfl
   rw[hp]at hl;unfold xm at h;rw[if_pos hk]at h;match l,hl with
   | [],hl=>simp at hl
   | [q],hl=>simp only[Qv,aH]at hl;omega
   | q0::q1::l,hl =>
    match i,h with
    | 0,h =>
     simp at h;subst h;refine⟨1,rfl,?_,?_⟩<;>(unfold xf;rw[if_pos hk];first|(rw[if_pos hk];simp[qz])|simp[qz])
    | 1,h =>
     simp at h;subst h;refine⟨3,rfl,?_,?_⟩<;>(unfold xf;rw[if_pos hk];first|(rw[if_pos hk];simp[qz,nv])|simp[qz,nv])
    | i+2,h =>
     simp only[af]at h;obtain⟨c,h1,h2,h3⟩:=Ui g us (j+1) l i x a h (by simp only[Qv]at hl;omega)
     refine⟨c+4,by rw[h1];congr 1;omega,?_,?_⟩
     ·simp only[aC]
      unfold xf;rw[if_pos hk,if_pos hk];simp only[ag,Aj,qz,aC,h2]
     ·unfold xf
      rw[if_pos hk];simp only[ag,Aj,qz,af,h3]
  ·have hp:u.places.length=1:=by unfold Un.places;rw[if_neg hk];rfl
   rw[hp]at hl;unfold xm at h;rw[if_neg hk]at h;match l,hl with
   | [],hl=>simp only[aH]at hl;omega
   | q0::l,hl =>
    match i,h with
    | 0,h =>
     simp at h;subst h;refine⟨1,rfl,?_,?_⟩<;>(unfold xf;rw[if_neg hk];first|(rw[if_neg hk];simp[qz])|simp[qz])
    | i+1,h =>
     simp only[af]at h;obtain⟨c,h1,h2,h3⟩:=Ui g us (j+1) l i x a h (by simp only[Qv]at hl;omega)
     refine⟨c+4,by rw[h1];congr 1;omega,?_,?_⟩
     ·simp only[aC]
      unfold xf;rw[if_neg hk,if_neg hk];simp only[ag,Aj,qz,aC,h2]
     ·unfold xf
      rw[if_neg hk];simp only[ag,Aj,qz,af,h3]
def KR {g j:Nat}{us:List Un}{i:Nat}{a:Addr}(h:(xm g j us)[i]?=some a):i<(us.flatMap Un.places).length:=by
 rw[<-TU g us j];exact (Qc.1 h).1
section
variable {w : Aa} {o : Own} {id k b : Nat} {L : Lg} {vr vk vh vu : Ac}
def ml {w:Aa}{o:Own}{t:Tag}{e:TypeId}{size:Nat}{v:Ac}{n:Nat}{xs:List Ac}(h:Row w o t e size v n xs)(hn:0<n) :
  ∃ cap,v=Ai (some ⟨vy v,0,none⟩) n cap/\o (vy v)=t/\vy v<w.1.size:=by
 rcases h.own.2 with ⟨rfl,h2⟩|⟨g,cap,cur,rfl,_,hg,hn,hc,_⟩
 ·omega
 ·exact⟨cap,rfl,h.tag g rfl,(Qf.1 hg).1⟩
def XF (q:List Nat)(n m x:Nat):(q.set m x).take n=(q.take n).set m x:=by
 rw[List.take_set]
def xr (q:List Nat)(n m x:Nat)(h:m<n):(q.set m x).drop n=q.drop n:=by
 rw[List.drop_set,if_pos h]
def xw (q:List Nat)(n m x:Nat)(h:n<=m):(q.set m x).drop n=(q.drop n).set (m-n) x:=by
 rw[List.drop_set,if_neg (by omega)]
def yo (q:List Nat)(n m x:Nat)(h:n<=m):(q.set m x).take n=q.take n:=by
 rw[List.take_set];exact List.set_eq_of_length_le (by simp;omega)
def Jx (vr vk vh vu:Ac)(L:Lg)(m:Nat)(a:Addr)(ha:(ya vr vk vh vu L)[m]?=some a) :
  (m<L.reads.length/\a=⟨vy vr,m,none⟩)\/(L.reads.length<=m/\m<L.reads.length+L.keeps.length/\a=⟨vy vk,m-L.reads.length,none⟩) \/
  (L.reads.length+L.keeps.length<=m/\m<L.reads.length+L.keeps.length+L.holds.length/\a=⟨vy vh,(m-(L.reads.length+L.keeps.length))*2,none⟩) \/
  (L.reads.length+L.keeps.length+L.holds.length<=m/\(xm (vy vu) 0 L.Az)[m-(L.reads.length+L.keeps.length+L.holds.length)]?=some a):=by
 unfold ya at ha;by_cases h1:m<L.reads.length
 ·left
  rw[Ad,Ad,Qm (by simpa using h1),Qj,ay h1]at ha
  refine⟨h1,?_⟩;simpa [MI] using ha.symm
 ·right
  by_cases h2:m<L.reads.length+L.keeps.length
  ·left
   rw[Ad,Ad,Ql (by simp;omega),Qm (by simp;omega),Qj]at ha
   simp only[Qg,aj]at ha;rw[ay (by omega)]at ha
   refine⟨by omega,h2,?_⟩
   simpa [MI] using ha.symm
  ·right
   by_cases h3:m<L.reads.length+L.keeps.length+L.holds.length
   ·left
    rw[Ad,Ql (by simp;omega),Qm (by simp;omega),Qj]at ha
    simp only[Qd,Qg,aj]at ha;rw[ay (by omega)]at ha
    refine⟨by omega,h3,?_⟩
    simpa [MI] using ha.symm
   ·right
    rw[Ql (by simp;omega)]at ha
    simp only[Qd,Qg,aj]at ha;exact⟨by omega,ha⟩
def Mj (vr vk vh vu:Ac)(L:Lg){j:Nat}(h:j<L.reads.length):(ya vr vk vh vu L)[j]?=some ⟨vy vr,j,none⟩:=by
 unfold ya;rw[Ad,Ad,Qm (by simpa using h),Qj,ay h]
 simp[MI]
def Mi (vr vk vh vu:Ac)(L:Lg){j:Nat}(h:j<L.keeps.length):(ya vr vk vh vu L)[L.reads.length+j]?=some ⟨vy vk,j,none⟩:=by
 unfold ya;rw[Ad,Ad,Ql (by simp),Qm (by simp;omega),Qj]
 simp only[Qg,aj];rw[show L.reads.length+j-L.reads.length=j from by omega,ay h]
 simp[MI]
def Mh (vr vk vh vu:Ac)(L:Lg){j:Nat}(h:j<L.holds.length):(ya vr vk vh vu L)[L.reads.length+L.keeps.length+j]?=some ⟨vy vh,j*2,none⟩:=by
 unfold ya;rw[Ad,Ql (by simp<;>omega),Qm (by simp<;>omega),Qj]
 simp only[Qd,Qg,aj];rw[show L.reads.length+L.keeps.length+j-(L.reads.length+L.keeps.length)=j from by omega,ay h]
 simp[MI]
def Mk (vr vk vh vu:Ac)(L:Lg)(j:Nat):(ya vr vk vh vu L)[L.reads.length+L.keeps.length+L.holds.length+j]?=(xm (vy vu) 0 L.Az)[j]?:=by
 unfold ya;rw[Ql (by simp<;>omega)]
 simp only[Qd,Qg,aj];rw[show L.reads.length+L.keeps.length+L.holds.length+j-(L.reads.length+L.keeps.length+L.holds.length)=j from by omega]
def km (us:List Un)(j:Nat):Nat:=((us.take j).flatMap Un.places).length
def qko {us:List Un}{j:Nat}{u:Un}(h:us[j]?=some u):km us (j+1)=km us j+if u.kind=1 then 2 else 1:=by
 unfold km;have hj:=(Qc.1 h);rw[List.take_succ_eq_append_getElem hj.1,hj.2,List.flatMap_append,Qd,aa,List.flatMap_nil,aG];unfold Un.places;split<;>simp
def X1 (g:Nat):∀ (us:List Un)(b j:Nat)(u:Un),us[j]?=some u->(xm g b us)[km us j]?=some ⟨g,(b+j)*4+1,none⟩/\(u.kind=1->(xm g b us)[km us j+1]?=some ⟨g,(b+j)*4+3,none⟩)
 | [],_,_,_,h=>by simp at h
 | z::us,b,0,u,h=>by
  simp at h;subst h;have e:km (z::us) 0=0:=rfl;rw[e];by_cases hk:z.kind=1
  ·unfold xm;rw[if_pos hk];exact⟨rfl,fun _=>rfl⟩
  ·unfold xm;rw[if_neg hk];exact⟨rfl,fun h=>absurd h hk⟩
 | z::us,b,j+1,u,h=>by
  obtain⟨h1,h2⟩:=X1 g us (b+1) j u (by simpa using h)
  have e:km (z::us) (j+1)=z.places.length+km us j:=by unfold km;rw[List.take_succ_cons,aa,Qd]
  rw[show b+(j+1)=b+1+j from by omega,e]
  by_cases hk:z.kind=1
  ·have hp:z.places.length=2:=by unfold Un.places;rw[if_pos hk];rfl
   unfold xm;rw[if_pos hk,hp,show 2+km us j=km us j+1+1 from by omega]
   exact⟨h1,h2⟩
  ·have hp:z.places.length=1:=by unfold Un.places;rw[if_neg hk];rfl
   unfold xm;rw[if_neg hk,hp,show 1+km us j=km us j+1 from by omega]
   exact⟨h1,h2⟩
def Row.ite {w:Aa}{o:Own}{t:Tag}{e:TypeId}{size n n':Nat}{v:Ac}{xs xs':List Ac}(h:Row w o t e size v n xs)(hn:n=n')(hx:xs=xs'):Row w o t e size v n' xs':=by subst hn hx;exact h
def addr_add (g j:Nat):(⟨g,0,none⟩:Addr).add j=⟨g,j,none⟩:=by unfold Addr.add;split<;>simp_all
def NO (w:Aa)(o:Own)(id k b:Nat)(L:Lg)(vr vk vh vu:Ac)(q:List Nat)(m:Nat)(a:Addr):Prop:=
 w.cell? a=(q[m]?).map nv/\a.spot=none/\a.block<w.1.size/\w.frozen? a=false/\(∃ j,1<=j/\j<=4/\o a.block=(id,k+j))/\∀ x:Nat,BV (w.setCell a (nv x)) o id k b (L.put (q.set m x)) vr vk vh vu
def BV.place (q:List Nat)(hq:q.length=L.roots.length)(h:BV w o id k b (L.put q) vr vk vh vu){m:Nat}{a:Addr}(ha:(ya vr vk vh vu L)[m]?=some a):NO w o id k b L vr vk vh vu q m a:=by
 have hl:L.roots.length=L.reads.length+L.keeps.length+L.holds.length+(L.Az.flatMap Un.places).length:=by unfold Lg.roots;simp only[Qd,Qg]
 have qH:m<q.length:=by rw[hq,<-vi vr vk vh vu L];exact (Qc.1 ha).1
 have hstp:∀ (g c j:Nat)(u:Ac),o g=(id,k+j)->Stp (fun t=>t=(id,k+j)) o o w (w.setCell ⟨g,c,none⟩ u):=fun g c j u hg=>(Stp.refl _ o w).setCell (by show o g=_;exact hg) u
 have hblk:∀ (g c j:Nat)(u:Ac),1<=j->o g=(id,k+j)->An (w.setCell ⟨g,c,none⟩ u) b #[.int .i64 L.mr,.int .i64 L.mu,vr,vk,vh,vu] 153:=fun g c j u hj hg =>
  h.A3.Ar (hstp g c j u hg) (by rw[h.ob];simp;omega)
 have e1:(L.put q).reads=q.take L.reads.length:=rfl;have e2:(L.put q).keeps=(q.drop L.reads.length).take L.keeps.length:=rfl;have e3:(L.put q).holds=kz L.holds (q.drop (L.reads.length+L.keeps.length)):=rfl;have e4:(L.put q).Az=xf L.Az (q.drop (L.reads.length+L.keeps.length+L.holds.length)):=rfl;have l1:(L.put q).reads.length=L.reads.length:=by rw[e1,Qp];omega
 have l2:(L.put q).keeps.length=L.keeps.length:=by rw[e2,Qp,aF];omega
 have l3:(L.put q).holds.length=L.holds.length:=by rw[e3,bh]
 have l4:(L.put q).Az.length=L.Az.length:=by rw[e4,UJ]
 have k1:∀ x,(L.put (q.set m x)).reads.length=L.reads.length:=fun x=>by show (List.take _ _).length=_;rw[Qp,Qq];omega
 have k2:∀ x,(L.put (q.set m x)).keeps.length=L.keeps.length:=fun x=>by show (List.take _ (List.drop _ _)).length=_;rw[Qp,aF,Qq];omega
 have k3:∀ x,(L.put (q.set m x)).holds.length=L.holds.length:=fun x=>bh _ _
 have k4:∀ x,(L.put (q.set m x)).Az.length=L.Az.length:=fun x=>UJ _ _
 have hrr:=h.rr;have gJ:=h.rk;have mW:=h.rh;have rZ:=h.ru;rw[l1]at hrr;rw[l2]at gJ;rw[l3]at mW;rw[l4]at rZ;rcases Jx _ _ _ _ _ _ _ ha with ⟨hm,rfl⟩|⟨hm1,hm2,rfl⟩|⟨hm1,hm2,rfl⟩|⟨hm1,hu⟩
 ·obtain⟨cap,ev,ht,hlt⟩:=ml hrr (by omega)
  rw[ev]at hrr;have hc:=hrr.cells m (nv (q[m]'qH)) (by rw[e1,Qj,aO hm,Qb qH];rfl)
  refine⟨by rw[hc,Qb qH];rfl,rfl,hlt,hrr.free m,⟨1,by omega,by omega,ht⟩,fun x=>?_⟩
  have hs:=hstp (vy vr) m 1 (nv x) ht;refine⟨hblk _ _ 1 _ (by omega) ht,?_,?_,?_,?_,h.ob⟩
  ·rw[ev]
   refine (hrr.Gx m (nv x)).ite (k1 x).symm ?_;show ((q.take L.reads.length).map nv).set m (nv x)=((q.set m x).take L.reads.length).map nv;rw[XF,aP]
  ·refine (gJ.Ar hs (by simp)).ite (k2 x).symm ?_
   show ((q.drop L.reads.length).take L.keeps.length).map nv=(((q.set m x).drop L.reads.length).take L.keeps.length).map nv;rw[xr _ _ _ _ hm]
  ·refine (mW.Ar hs (by simp)).ite (k3 x).symm ?_
   show qh (kz L.holds (q.drop _))=qh (kz L.holds ((q.set m x).drop _));rw[xr _ _ _ _ (by omega)]
  ·refine (rZ.Ar hs (by simp)).ite (k4 x).symm ?_
   show qz (xf L.Az (q.drop _))=qz (xf L.Az ((q.set m x).drop _));rw[xr _ _ _ _ (by omega)]
 ·obtain⟨cap,ev,ht,hlt⟩:=ml gJ (by omega)
  rw[ev]at gJ;have hc:=gJ.cells (m-L.reads.length) (nv (q[m]'qH)) (by
   rw[e2,Qj,aO (by omega),aK,show L.reads.length+(m-L.reads.length)=m from by omega,Qb qH];rfl)
  refine⟨by rw[hc,Qb qH];rfl,rfl,hlt,gJ.free _,⟨2,by omega,by omega,ht⟩,fun x=>?_⟩
  have hs:=hstp (vy vk) (m-L.reads.length) 2 (nv x) ht;refine⟨hblk _ _ 2 _ (by omega) ht,?_,?_,?_,?_,h.ob⟩
  ·refine (hrr.Ar hs (by simp)).ite (k1 x).symm ?_
   show (q.take L.reads.length).map nv=((q.set m x).take L.reads.length).map nv;rw[yo _ _ _ _ hm1]
  ·rw[ev]
   refine (gJ.Gx (m-L.reads.length) (nv x)).ite (k2 x).symm ?_;show (((q.drop L.reads.length).take L.keeps.length).map nv).set _ (nv x)=(((q.set m x).drop L.reads.length).take L.keeps.length).map nv;rw[xw _ _ _ _ hm1,XF,aP]
  ·refine (mW.Ar hs (by simp)).ite (k3 x).symm ?_
   show qh (kz L.holds (q.drop _))=qh (kz L.holds ((q.set m x).drop _));rw[xr _ _ _ _ (by omega)]
  ·refine (rZ.Ar hs (by simp)).ite (k4 x).symm ?_
   show qz (xf L.Az (q.drop _))=qz (xf L.Az ((q.set m x).drop _));rw[xr _ _ _ _ (by omega)]
 ·obtain⟨cap,ev,ht,hlt⟩:=ml mW (by omega)
  rw[ev]at mW;have qJ:=Uh L.holds (q.drop (L.reads.length+L.keeps.length)) (m-(L.reads.length+L.keeps.length));have hcc:=(qJ 0 (by omega) (by rw[aF];omega)).2
  rw[aK,show L.reads.length+L.keeps.length+(m-(L.reads.length+L.keeps.length))=m from by omega,Qb qH]at hcc
  have hc:=mW.own.cells (g:=vy vh) rfl _ _ (by rw[e3];exact hcc)
  rw[addr_add]at hc;refine⟨by rw[hc,Qb qH];rfl,rfl,hlt,mW.free _,⟨3,by omega,by omega,ht⟩,fun x=>?_⟩
  have hs:=hstp (vy vh) ((m-(L.reads.length+L.keeps.length))*2) 3 (nv x) ht;refine⟨hblk _ _ 3 _ (by omega) ht,?_,?_,?_,?_,h.ob⟩
  ·refine (hrr.Ar hs (by simp)).ite (k1 x).symm ?_
   show (q.take L.reads.length).map nv=((q.set m x).take L.reads.length).map nv;rw[yo _ _ _ _ (by omega)]
  ·refine (gJ.Ar hs (by simp)).ite (k2 x).symm ?_
   show ((q.drop L.reads.length).take L.keeps.length).map nv=(((q.set m x).drop L.reads.length).take L.keeps.length).map nv;rw[xw _ _ _ _ (by omega),yo _ _ _ _ (by omega)]
  ·rw[ev]
   refine (mW.Dj _ (nv x)).ite (k3 x).symm ?_;show (qh (kz L.holds (q.drop _))).set _ (nv x)=qh (kz L.holds ((q.set m x).drop _));rw[xw _ _ _ _ hm1,(qJ x (by omega) (by rw[aF];omega)).1]
  ·refine (rZ.Ar hs (by simp)).ite (k4 x).symm ?_
   show qz (xf L.Az (q.drop _))=qz (xf L.Az ((q.set m x).drop _));rw[xr _ _ _ _ (by omega)]
 ·have hmu:=KR hu
  have hpu:=fun x=>Ui (vy vu) L.Az 0 (q.drop (L.reads.length+L.keeps.length+L.holds.length)) _ x a hu (by rw[aF];omega)
  obtain⟨c0,ea0,_,hcc⟩:=hpu 0;have hup:0<L.Az.length:=by
   cases hL:L.Az with
   | nil=>rw[hL]at hu;simp[xm]at hu
   | cons u us=>simp
  obtain⟨cap,ev,ht,hlt⟩:=ml rZ hup;rw[ev]at rZ;simp only[Nat.zero_mul,Nat.zero_add]at ea0;subst ea0;rw[aK,show L.reads.length+L.keeps.length+L.holds.length+(m-(L.reads.length+L.keeps.length+L.holds.length))=m from by omega,Qb qH]at hcc
  have hc:=rZ.own.cells (g:=vy vu) rfl _ _ (by rw[e4];exact hcc)
  rw[addr_add]at hc;refine⟨by rw[hc,Qb qH];rfl,rfl,hlt,rZ.free _,⟨4,by omega,by omega,ht⟩,fun x=>?_⟩
  obtain⟨c,ea1,CL,_⟩:=hpu x;have hcx:c=c0:=by simp only[Nat.zero_mul,Nat.zero_add,Addr.mk.injEq,true_and,and_true]at ea1;exact ea1.symm
  subst hcx;have hs:=hstp (vy vu) c 4 (nv x) ht;refine⟨hblk _ _ 4 _ (by omega) ht,?_,?_,?_,?_,h.ob⟩
  ·refine (hrr.Ar hs (by simp)).ite (k1 x).symm ?_
   show (q.take L.reads.length).map nv=((q.set m x).take L.reads.length).map nv;rw[yo _ _ _ _ (by omega)]
  ·refine (gJ.Ar hs (by simp)).ite (k2 x).symm ?_
   show ((q.drop L.reads.length).take L.keeps.length).map nv=(((q.set m x).drop L.reads.length).take L.keeps.length).map nv;rw[xw _ _ _ _ (by omega),yo _ _ _ _ (by omega)]
  ·refine (mW.Ar hs (by simp)).ite (k3 x).symm ?_
   show qh (kz L.holds (q.drop _))=qh (kz L.holds ((q.set m x).drop _));rw[xw _ _ _ _ (by omega),YK _ _ _ _ (by omega)]
  ·rw[ev]
   refine (rZ.Dj c (nv x)).ite (k4 x).symm ?_;show (qz (xf L.Az (q.drop _))).set c (nv x)=qz (xf L.Az ((q.set m x).drop _));rw[xw _ _ _ _ hm1,CL]
end
end
section
open Go.RowKit Hp Go.Maps
attribute [local go_sem ↓] Go.wp_at_zero Go.wp_at_succ
def EY:List Nat->Nat->Option Nat
 | [],_=>none
 | q::l,p=>if q=p then some l.length else EY l p
def Nu:List Nat->DataW Unit
 | []=>.map []
 | q::l=>(Nu l).put (.int .i64 q) (.lit (.int .i64 l.length))
def UR:∀ l,IsMap (Nu l)
 | []=>isMap_empty
 | _::l=>(UR l).put _ _
def Yy:∀ (l:List Nat)(p:Nat),aQ (Nu l) (.int .i64 p)=(EY l p).isSome
 | [],_=>rfl
 | q::l,p=>by
  unfold Nu EY;by_cases e:q=p
  ·subst e
   rw[if_pos rfl,Maps.has_put_same (UR l) (show WideAt.IsKeyLit (Lit.int .i64 (q:Int)) from trivial)];rfl
  ·rw[if_neg e,Maps.has_put_other (by simp;omega),Yy l p]
def JH:∀ (l:List Nat)(p:Nat)(z:DataW Unit),(Nu l).atKey (.int .i64 p) z=match EY l p with|some i=>.lit (.int .i64 i)|none=>z
 | [],_,_=>rfl
 | q::l,p,z=>by
  unfold Nu EY;by_cases e:q=p
  ·subst e
   rw[if_pos rfl,Maps.atKey_put_same (UR l) (show WideAt.IsKeyLit (Lit.int .i64 (q:Int)) from trivial)]
  ·rw[if_neg e,Maps.atKey_put_other (by simp;omega),JH l p z]
def mD (P:List Nat):DataW Unit:=Nu P.reverse
def Mr (P:List Nat)(p:Nat):mD (P++[p])=(mD P).put (.int .i64 p) (.lit (.int .i64 P.length)):=by
 unfold mD;rw[List.reverse_append,List.reverse_singleton,List.singleton_append];show (Nu P.reverse).put _ (.lit (.int .i64 P.reverse.length))=_;rw[List.length_reverse]
def here (P:List Nat)(p:Nat):Option Nat:=EY P.reverse p
def um (P:List Nat)(p:Nat):List Nat:=if p=0\/(here P p).isSome=true then P else P++[p]
def dl (P:List Nat)(p:Nat):Int:=if p=0 then -1 else match here P p with|some i=>i|none=>-2
def JG (P:List Nat)(p:Nat):aQ (mD P) (.int .i64 p)=(here P p).isSome:=Yy _ _
def Rn (P:List Nat)(p:Nat)(z:DataW Unit):(mD P).atKey (.int .i64 p) z=match here P p with|some i=>.lit (.int .i64 i)|none=>z:=JH _ _ _
def RE:Keyed ANa 3:=int_keyed underlying3
def Sp (w:Aa):(zeroValue 3).run ANa w=.ok (.int .i64 0) w:=by kernel_rfl
structure Cg (w:Aa)(o:Own)(c mb:Nat)(P:List Nat):Prop where
 A3:∃ vp,An w c #[vp,.map (some mb)] 235/\Row w o (50,1) 3 1 vp P.length (P.map nv)
 mp:w.ownsMap ANa 3 (plainElem ANa 3) mb P.length (mD P)
 oc:o c=(50,0)
 om:o mb=(50,2)
def Stp.JW {w w':Aa}{o:Own}{b:Nat}(h:w.grownBy w' (some b)):Stp (fun t=>t=o b) o o w w':=
 ⟨h.os,h.tape,h.output,h.size,fun _ _=>rfl,fun k hk hn=>h.block k hk (fun e=>hn (by injection e with e;rw[e]))⟩
def gr {T:Tag->Prop}{w w':Aa}{o o':Own}{D:DataW Unit}{b n:Nat}(h:w.ownsMap ANa 3 (plainElem ANa 3) b n D)(k:Stp T o o' w w')(ht:¬T (o b)):w'.ownsMap ANa 3 (plainElem ANa 3) b n D:=by
 have hlt:=h.lt;obtain⟨es,clock,hb,F,hs,hD⟩:=h;exact⟨es,clock,(k.block b hlt ht).trans hb,F,hs,hD⟩
section
variable {w w' : Aa} {o o' : Own} {c mb : Nat} {P : List Nat}
def Cg.Ar {T:Tag->Prop}(h:Cg w o c mb P)(k:Stp T o o' w w')(h0:¬T (50,0))(h1:¬T (50,1))(h2:¬T (50,2)):Cg w' o' c mb P:=by
 obtain⟨vp,hb,hr⟩:=h.A3;exact⟨⟨vp,hb.Ar k (by rw[h.oc];exact h0),hr.Ar k h1⟩,gr h.mp k (by rw[h.om];exact h2),(k.tags _ hb.lt).trans h.oc,(k.tags _ h.mp.lt).trans h.om⟩
def Cg.below (h:Cg w o c mb P)(hb:Ae w w w'):Cg w' o c mb P:=h.Ar (T:=fun _=>False) (Stp.of_below hb) id id id
def XA (h:Cg w o c mb P)(p:Nat)(hp:p<=1099511627776) :
  Ab ANa 169 #[ptr c,.int .i64 p] w fun e w'=>e=O (.int .i64 (dl P p))/\w=w':=by
 unfold dl;by_cases h0:p=0
 ·subst h0
  rw[if_pos rfl];clear h;go_in;go_wp2_with fail;go_ret;exact⟨rfl,rfl⟩
 ·rw[if_neg h0]
  have hpb:((p:Int)==0)=false:=by rw[Qh];omega
  obtain⟨vp,jb,hr⟩:=h.A3;have hmp:=h.mp;have hkey:keyOf ANa 3 (.int .i64 p)=some (.int .i64 p):=keyOf_int_mk underlying3 (aR (by omega))
  obtain⟨pa,cp,rfl⟩:=hr.A6;have cb:=jb.cell;have HM:=Qa hmp;have oF:=Qa hkey;have hh:=JG P p;have ha:=Rn P p (.lit (.int .i64 0))
  cases hi:here P p with
  | some i =>
   rw[hi]at hh ha;have hhas:aQ (mD P) (.int .i64 p)=true:=hh;have HA:=Qa ha;clear h hmp hh ha hkey jb hr h0 hp hi;simp only;go_in;go_wp2_with (first
    | (at_lookup;refine wpList_lookup_own_ok_int _ rfl _ _ 233 rfl 3 3 .i64 RE underlying233 underlying3 (Sp _) mb P.length (mD P) rfl HM.o _ _ rfl oF.o ?_;intro cv hat hwc)
    | fail)
   go_ret;refine⟨nf ?_,rfl⟩;have e:=hat.symm.trans HA.o;injection e with e;injection e
  | none =>
   rw[hi]at hh ha;have hhas:aQ (mD P) (.int .i64 p)=false:=hh;clear h hmp hh ha hkey jb hr h0 hp hi;simp only;go_in;go_wp2_with (first
    | (at_lookup;refine wpList_lookup_own_ok_int _ rfl _ _ 233 rfl 3 3 .i64 RE underlying233 underlying3 (Sp _) mb P.length (mD P) rfl HM.o _ _ rfl oF.o ?_;intro cv hat hwc)
    | fail)
   go_ret;exact⟨rfl,rfl⟩
def Yu (h:Cg w o c mb P) (hl:P.length<1000000) (p:Nat) (hp:p<=1099511627776) :
  Ab ANa 214 #[ptr c,.int .i64 p] w fun e w'=>e=O (Ak #[])/\∃ o',Cg w' o' c mb (um P p)/\Stp (fun t=>t=(50,0)\/t=(50,1)\/t=(50,2)) o o' w w':=by
 unfold um;by_cases h0:p=0
 ·subst h0
  rw[if_pos (.inl rfl)];have HF:=Qa h;clear h;go_in;go_wp2_with fail;exact bodyPost_ret (v:=Ak #[]) (by simp[results,results214,go_sem]) rfl ⟨rfl,o,HF.o,Stp.refl _ _ _⟩
 ·have hpb:((p:Int)==0)=false:=by rw[Qh];omega
  obtain⟨vp,jb,hr⟩:=h.A3;have hmp:=h.mp;have hkey:keyOf ANa 3 (.int .i64 p)=some (.int .i64 p):=keyOf_int_mk underlying3 (aR (by omega))
  obtain⟨pa,cp,rfl⟩:=hr.A6;have cb:=jb.cell;have HF:=Qa h;have HM:=Qa hmp;have oF:=Qa hkey;have hh:=JG P p
  cases hi:here P p with
  | some i =>
   rw[if_pos (.inr rfl)];rw[hi]at hh;have hhas:aQ (mD P) (.int .i64 p)=true:=hh;clear h hmp hh hkey jb hr h0 hp hi;go_in;go_wp2_with (first
    | (at_lookup;refine wpList_lookup_own_ok_int _ rfl _ _ 233 rfl 3 3 .i64 RE underlying233 underlying3 (Sp _) mb P.length (mD P) rfl HM.o _ _ rfl oF.o ?_;intro cv hat hwc)
    | fail)
   exact bodyPost_ret (v:=Ak #[]) (by simp[results,results214,go_sem]) rfl ⟨rfl,o,HF.o,Stp.refl _ _ _⟩
  | none =>
   rw[if_neg (by simp[h0])]
   rw[hi]at hh;have hhas:aQ (mD P) (.int .i64 p)=false:=hh;obtain⟨iI,hi2,hsI,cK,bZ⟩:=zm;have hu64:=underlying23;obtain⟨n,hn⟩:=Ja0 P.length;rw[<-hn]at hl cb hr jb;have hup:=World.ownsMap.update (w:=w.drew) (t:=233) (e:=3) hmp RE underlying233 (by simp only[maxLen];omega) (key:=.int .i64 p) (val:=.int .i64 n) hkey (plainElem_int underlying3 (aR (n:=(n:Int)) (by omega)))
   obtain⟨w1,hrun,hm1,hg1⟩:=hup;have e0:=h.oc;have e2:=h.om;have k1:Stp (fun t=>t=(50,2)) o o w w1:=(Stp.of_below (qf (qd w))).trans ((Stp.JW hg1).mono (by rintro _ rfl;exact e2))
   have j1:=jb.Ar k1 (by rw[e0];simp)
   have r1:=hr.Ar k1 (by simp)
   have hfin:=Qa (fun (w5:Aa) (o5:Own) (v5:Ac) (hown:Row w5 o5 (50,1) 3 1 v5 (n+1) (P.map nv++[.int .i64 p])) (hst:Stp (fun t=>t=(50,1)) o o5 (w1.alloc (.cells #[.int .i64 p] 3)) w5) =>
    show Cg (w5.setCell ⟨c,0,none⟩ v5) o5 c mb (P++[p])/\Stp (fun t=>t=(50,0)\/t=(50,1)\/t=(50,2)) o o5 w (w5.setCell ⟨c,0,none⟩ v5) from by
     have kb:Stp (fun t=>t=(50,1)) o o5 w1 w5:=(Stp.of_below (qc (qd w1) _)).trans hst;have j5:=j1.Ar kb (by rw[e0];simp)
     have e5:o5 c=(50,0):=(kb.tags _ j1.lt).trans e0;have k5:Stp (fun t=>t=(50,0)) o5 o5 w5 (w5.setCell ⟨c,0,none⟩ v5):=(Stp.refl _ o5 w5).setCell (by show o5 c=_;exact e5) _
     have m5:=gr hm1 kb (by rw[e2];simp)
     have e52:o5 mb=(50,2):=(kb.tags _ hm1.lt).trans e2;refine⟨⟨⟨v5,j5.set 0 v5,(hown.Ar k5 (by simp)).ite (by simp[hn]) (by simp[nv])⟩,?_,e5,e52⟩,(k1.mono fun _ h=>.inr (.inr h)).trans ((kb.mono fun _ h=>.inr (.inl h)).trans (k5.mono fun _ h=>.inl h))⟩
     have m6:=gr m5 k5 (by rw[e52];simp)
     rw[Mr,Qd,List.length_singleton];rw[hn]at m6;exact m6)
   have c1:=j1.cell;have l1:=j1.lt;have dE:n+1<=maxLen:=by simp only[maxLen];omega
   have hmb:(n+1)*8<=140737488355328:=by omega
   have R1:=Qa r1;have J1:=Qa j1;have E0:=Qa e0;clear h hmp hh hkey jb hr h0 hp hi hn hl hm1 hg1 e2 k1 j1 r1 e0;go_in;go_upto_region 3 with (first
    | (at_lookup;refine wpList_lookup_own_ok_int _ rfl _ _ 233 rfl 3 3 .i64 RE underlying233 underlying3 (Sp _) mb P.length (mD P) rfl HM.o _ _ rfl oF.o ?_;intro cv hat hwc)
    | fail)
   go_region;go_wp2_with (first
    | (at_builtin;refine qg _ rfl _ _ _ rfl 3 iI _ 1 8 hu64 hi2 bZ hsI cK rfl (by decide) o (50,1) _ _ _ rfl (R1.o.below (qc (qd w1) _)) ⟨w1,0,none⟩ 1 1 [.int .i64 p] rfl rfl (qx (An.new w1 _ _)) jh dE hmb ?_;intro v5 w5 hown hst;obtain⟨p5,c5',rfl⟩:=hown.A6;have j5:=(J1.o.alloc (.cells #[.int .i64 p] 3)).Ar hst (by rw[E0.o];simp);have c5:=j5.cell;have z5:=j5.free;have l5:=j5.lt)
    | fail)
   go_end0;exact⟨rfl,_,hfin.o _ _ _ hown hst⟩
end
end
section
open Go.RowKit Hp
attribute [local go_sem ↓] Go.wp_at_zero Go.wp_at_succ
def Nc {H:Hp}(hk:H.ok){p:Nat}{ob:Ob}(hp:lk H.cur p=some ob):up H.cur p ob=H.cur:=by
 unfold up;refine (aI fun x hx=>?_).trans (aJ _)
 split
 ·rename_i e
  obtain⟨q,y⟩:=x;simp only at e;subst e;rw[rq hk.cl hk.ck (zh hp) hx];rfl
 ·rfl
def uz:∀ (l:List Nat)(p:Nat)(H:Hp),H.Ay (l++[p])=(((H.Ay l).1.AG p).1,(H.Ay l).2++[((H.Ay l).1.AG p).2])
 | [],p,H=>rfl
 | q::l,p,H=>by
  have:=uz l p (H.AG q).1;show ((((H.AG q).1.Ay (l++[p])).1,(H.AG q).2::((H.AG q).1.Ay (l++[p])).2):Hp×List Nat)=_;rw[this];rfl
def Ks {H:Hp}(hw:H.wf)(hm:H.AK=true)(hs:H.scan≠H.top){ob:Ob}(hp:lk H.cur H.scan=some ob) :
  H.Bf=({ (H.Ay ob.AU).1 with cur:=up (H.Ay ob.AU).1.cur H.scan (ob.CU (H.Ay ob.AU).2),scan:=H.scan+BG ob.size },true):=by
 unfold Hp.Bf;rw[if_neg (by rw[hm];simp[hs]),hp]
 simp only;unfold Ob.AU Ob.CU;split
 ·show _=(({ H with cur:=up H.cur H.scan ob,scan:=H.scan+BG ob.size }:Hp),true)
  rw[Nc hw.ok hp]
 ·rfl
section
variable {w w' : Aa} {o : Own} {l : Bn} {H : Hp} {vc vo vw vf : Ac} {f : Nat -> Nat}
abbrev DR (l:Bn):Tag:=(l.id+1,0)
def RN (l:Bn):¬zg l (DR l):=by unfold zg;simp
def AN.boxed (h:AN w o l H vc vo vw vf f){a:Addr}(ht:o a.block=DR l)(v:Ac):AN (w.setCell a v) o l H vc vo vw vf f:=by
 have hs:=(Stp.refl (fun t=>t=DR l) o w).setCell (a:=a) ht v
 have hn:∀ j,¬(l.id,j)=DR l:=fun j=>by simp
 exact⟨h.hb.Ar hs (by rw[h.oh];exact hn _),h.Cr.Ar hs (by rw[h.oa];exact hn _) (by rw[h.ow];exact hn _),h.rc.Ar hs (hn _),h.ro.Ar hs (hn _),h.rw.Ar hs (hn _),h.rf.Ar hs (hn _),h.oh,h.oa,h.ow,h.Fb,h.Ch,h.zr⟩
def set_mid {α:Type}(a b:List α)(x y:α):(a++x::b).set a.length y=(a++[y])++b:=by
 rw[List.set_append_right _ _ (Qk _)];simp
def AN.c0 (h:AN w o l H vc vo vw vf f):w.cell? ⟨l.h,0,none⟩=some (Ah (some ⟨l.a,0,none⟩)):=h.Bo
def AN.GI (h:AN w o l H vc vo vw vf f):w.cell? ⟨l.h,12,none⟩=some (.int .i64 H.scan):=by rw[h.hb.cell];unfold Hp.cells;split<;>rfl
def MU (h0 : AN w o l H vc vo vw vf f) (hw : H.wf) (hm : H.AK = true) (hs : H.scan ≠ H.top) :
    Ab ANa 78 #[Ah (some ⟨l.h, 0, none⟩)] w fun e w' => e = O (.bool H.Bf.2) /\ Gl w o l H.Bf.1 vo vw vf w' := by
  obtain ⟨o1, ho1⟩ : ∃ o1, o1 = ext o w (DR l) := ⟨_, rfl⟩;have h := h0.retag (o' := o1) fun b hb => by rw [ho1]; exact qk hb
  have hS0 : Stp (zg l) o o1 w w := by rw [ho1]; exact (Stp.refl _ o w).ext _ _ (Qk _)
  have hbx : ∀ b, w.1.size <= b -> o1 b = DR l := fun b hb => by rw [ho1]; exact qq hb
  have dM : ∀ n, w.1.size <= n -> ext o1 n (DR l) = o1 := fun n hn => by rw [ho1]; exact RA _ _ _ _ hn
  clear ho1 h0;obtain ⟨ob, hp, _⟩ := SX hw hm hs;rw [Ks hw hm hs hp];have hk := hw.ok;obtain ⟨ha, ho, hl, _⟩ := h.at_ hk hp;have hsb := UO hw hp;have HM := Qa (xc h);rw [hm] at HM;have HD := uw h;rw [decide_eq_false hs] at HD;replace HD := Qa HD;have kQ := Qa (fun (W : Aa) (hb : Ae w w W) => jw (h.Cr.below hb) ha ho hl H.scan rfl)
  have iZ := Qa (fun (W : Aa) (hb : Ae w w W) => WA (h.Cr.below hb) ha ho hl)
  have HZ := Qa (fun W => yj ob.AL ho.AL W)
  have bY := Ob.AP ho;have hsz : ob.size = 3 + ob.AL.p + ob.AL.d := rfl;have HN := Qa (fun W => m8 (3 + ob.AL.p + ob.AL.d) (by omega) (by omega) _ rfl W)
  have hpb : ∀ x ∈ ob.AU, x <= 131072 := fun x hx => by
    unfold Ob.AU at hx;split at hx
    · cases hx
    · exact ho.ptr x hx
  have HI := Qa h;have iX := Qa hS0;have HB := Qa hbx;have HE := Qa dM;have HW := Qa hw;have HP := Qa hp;have HO := Qa ho;have HPB := Qa hpb;have HSB := Qa hsb;have zM : ob.AU.length <= 8 := by
    unfold Ob.AU;split
    · exact Nat.zero_le _
    · rw [ho.lp]; exact ho.AL.1
  have hok0 := h.hb.lt;have c0 := fun W (hb : Ae w w W) => (h.below hb).c0
  have GI := fun W (hb : Ae w w W) => (h.below hb).GI
  have C0 := Qa c0;have C12 := Qa GI;clear c0 GI h hS0 hbx dM hw hm hs hp hk ha ho hl hpb hsb;go_in;go_wp2_with fail;refine HM.out.mono ?_;rintro e w1 ⟨rfl, rfl⟩;go_wp2_with fail;refine HD.out.mono ?_;rintro e w1 ⟨rfl, b1⟩;have k0 := C0.out _ b1;have k12 := C12.out _ b1;have s1 : l.h < w1.1.size := Qn hok0 b1.size;have hn1 := World.new_ne w1 ⟨l.h, 0, none⟩ k0;go_upto_region 3 with fail;go_cut [3, 5] (fun t3 t5 wx => ∃ B, t3 = Ah (some ⟨B, 0, none⟩) /\ t5 = .int .i64 0 /\ An wx B #[.int .i64 ob.AL.p, .int .i64 ob.AL.d, .bool ob.AL.AA, .bool ob.AL.final] 82 /\ Ae w1 w1 wx /\ w1.1.size <= B)
  case first =>
    go_region_with (first | (go_at_call 79; refine (kQ.out _ (by first | exact qf b1 | exact qf (qc b1 _) | exact qc (qf b1) _)).mono ?_; rintro e w4 ⟨rfl, hb4⟩; try (have dJ : An w4 w1 #[.int .i64 0, .int .i64 0, .bool false, .bool false] 82 := An.below (qj (An.new w1 _ _)) hb4 (by simp); have yQ := dJ.cell; have zB4 := dJ.free; have sB4 := dJ.lt)) | fail)
    all_goals
      go_wp2_with fail;go_meet;have hs4 : w1.1.size <= w4.1.size := by have := hb4.size; simp at this; omega
      first
        | (refine ⟨w4.1.size, by with_reducible rfl, rfl, ?_, ?_, hs4⟩
           · exact An.new _ _ _
           · exact qc (qe (qf (qd w1)) hb4) _)
        | (refine ⟨w1.1.size, by with_reducible rfl, rfl, ?_, ?_, Qk _⟩
           · have h8 := (((dJ.set 0 (.int .i64 ob.AL.p)).set 1 (.int .i64 ob.AL.d)).set 2 (.bool ob.AL.AA)).set 3 (.bool ob.AL.final)
             simp only [Array.setIfInBounds_def] at h8;simpa using h8
           · exact qo (qo (qo (qo (qe (qf (qc (qd w1) _)) hb4) (Qk _) _) (Qk _) _) (Qk _) _) (Qk _) _)
  case rest =>
    obtain ⟨B, rfl, rfl, jB, hbc, rM⟩ := hcut;have b2 := qe b1 hbc;have hBw : w.1.size <= B := Qo b1.size rM;clear k0 k12 s1 hn1 hbc b1 rM;have k0 := C0.out _ b2;have k12 := C12.out _ b2;go_upto_region 6 with fail;go_cut [5, 6] (fun t5 t6 wx => ∃ pa cp, t5 = .int .i64 0 /\ t6 = .slice pa ob.AU.length cp /\ Row wx o1 (DR l) 3 1 (.slice pa ob.AU.length cp) ob.AU.length (ob.AU.map nv) /\ Ae w w wx /\ An wx B #[.int .i64 ob.AL.p, .int .i64 ob.AL.d, .bool ob.AL.AA, .bool ob.AL.final] 82 /\ ∀ b, (Value.slice pa ob.AU.length cp).ownBlock = some b -> w.1.size <= b)
    case first =>
      go_region_with (first | (go_at_call 126; refine (iZ.out _ (qf b2)).mono ?_; rintro e w6 ⟨v, rfl, eU, hb6⟩) | fail)
      all_goals
        go_wp2_with fail;go_meet;obtain ⟨pa, cp, rfl⟩ := eU.A6;have hge := eU.Py;have eU := eU.out o1 (DR l);rw [HE.out _ (qf b2).size] at eU;exact ⟨pa, cp, rfl, rfl, eU, qe (qf b2) hb6, (qj jB).below hb6 (qj jB).lt, fun b hb => Qo (qf b2).size (hge b hb)⟩
    case rest =>
    clear k0 k12;obtain ⟨pa, cp, rfl, rfl, eU, b6, jB6, Adb⟩ := hcut;clear jB b2;generalize wc = w6 at *;obtain ⟨n, hn⟩ : ∃ n, n = ob.AU.length := ⟨_, rfl⟩;have kF := Qa hn;rw [<- hn] at eU zM ⊢;have uS : (n : Int) <= 8 := by omega
    have Adw : Row w6 o1 (DR l) 3 1 (.slice pa n cp) n (((H.Ay (ob.AU.take 0)).2 ++ ob.AU.drop 0).map nv) := by simpa [Hp.Ay] using eU
    have hI6 := HI.out.below b6;have HGe := Qa Adb;have Abu := HB.out B hBw;have eT : Stp (zg l) o1 o1 w w6 := Stp.of_below b6;clear hn eU b6 Adb;go_wp2_with fail;go_loopw [52] (fun ix wr => ∃ (k : Nat) (bQ : Ac) (f' : Nat -> Nat) (o' : Own), ix = .int .i64 k /\ k <= n /\ AN wr o' l (H.Ay (ob.AU.take k)).1 bQ vo vw vf f' /\ Stp (zg l) o1 o' w wr /\ Row wr o' (DR l) 3 1 (.slice pa n cp) n (((H.Ay (ob.AU.take k)).2 ++ ob.AU.drop k).map nv) /\ An wr B #[.int .i64 ob.AL.p, .int .i64 ob.AL.d, .bool ob.AL.AA, .bool ob.AL.final] 82 /\ o' B = DR l) (fun ix _ => n - (intOf ix).toNat)
    case atStart => exact ⟨0, vc, f, o1, rfl, by omega, hI6, eT, Adw, jB6, Abu⟩
    case round =>
      obtain ⟨k, bQ, f', o', rfl, hkn, hI, hS, hR, hJ, hBt⟩ := hrel;clear hI6 Adw jB6 eT Abu;by_cases hlt : k < n
      · have eG : (k : Int) < (n : Int) := by omega
        have hk8 : (k : Int) < 8 := by omega
        obtain ⟨x, hx⟩ : ∃ x, ob.AU[k]? = some x := ⟨_, Qb (by rw [<- kF.out]; omega)⟩
        have htk := ke hx;have Gt : ob.AU.drop k = x :: ob.AU.drop (k + 1) := by
          have := (Qc.1 hx);obtain ⟨h1, h2⟩ := this;rw [<- h2]; exact aN h1
        have hwk := (Hp.Cu (ob.AU.take k) HW.out).ok;have hsn := uz (ob.AU.take k) x H;rw [<- htk] at hsn;have hlen : (H.Ay (ob.AU.take k)).2.length = k := by rw [ku, Qp, <- kF.out]; omega
        have nO := Qa hsn;rw [Gt] at hR;generalize H.Ay (ob.AU.take k) = r at *;obtain ⟨Hk, lk'⟩ := r;simp only at hI hR hwk hlen nO;rcases hR.shape with ⟨_, h0⟩ | ⟨g, c, e1, hnc, hcm⟩
        · omega
        · injection e1 with e1 _ e3
          subst e1 e3;have CL : (lk' ++ x :: ob.AU.drop (k + 1)).set k (Hk.AG x).2 = (lk' ++ [(Hk.AG x).2]) ++ ob.AU.drop (k + 1) := by
            have := set_mid lk' (ob.AU.drop (k + 1)) x (Hk.AG x).2;rwa [hlen] at this
          have cx : wr.cell? ⟨g, k, none⟩ = some (.int .i64 x) := by
            refine hR.cells k _ ?_;rw [Qj, Ql (by omega), hlen]; simp [nv]
          have vR := Qa (nk hI hwk x);have vV := Qa CL;have HLen := Qa hlen;have iY := Qa hS;have HR := Qa hR;have HJ := Qa hJ;have vI := Qa hBt;have hgl := hR.blt;clear hsn Gt htk CL hwk hlen hx hI hS hR hJ hBt;go_wp2_with fail;refine vR.out.mono ?_;rintro e w7 ⟨rfl, vc7, f7, o7, hI7, mG⟩;have iQ := HR.out.Ar mG (RN l);have hJ7 := HJ.out.Ar mG (by rw [vI.out]; exact RN l)
          have z7 := iQ.free k;have s7 := iQ.blt;obtain ⟨u7, c7⟩ : ∃ u, w7.cell? ⟨g, k, none⟩ = some u := by
            have h1 : k < (List.map nv (lk' ++ x :: ob.AU.drop (k + 1))).length := by rw [iQ.len]; omega
            exact ⟨_, iQ.cells k _ (Qb h1)⟩
          have hfin := Qa (show ∃ (bQ : Ac) (f' : Nat -> Nat) (o' : Own), AN (w7.setCell ⟨g, k, none⟩ (.int .i64 (Hk.AG x).2)) o' l (H.Ay (ob.AU.take (k + 1))).1 bQ vo vw vf f' /\ Stp (zg l) o1 o' w (w7.setCell ⟨g, k, none⟩ (.int .i64 (Hk.AG x).2)) /\ Row (w7.setCell ⟨g, k, none⟩ (.int .i64 (Hk.AG x).2)) o' (DR l) 3 1 (Ai (some ⟨g, 0, none⟩) n cp) n (((H.Ay (ob.AU.take (k + 1))).2 ++ ob.AU.drop (k + 1)).map nv) /\ An (w7.setCell ⟨g, k, none⟩ (.int .i64 (Hk.AG x).2)) B #[.int .i64 ob.AL.p, .int .i64 ob.AL.d, .bool ob.AL.AA, .bool ob.AL.final] 82 /\ o' B = DR l from by
            have hgB : B ≠ g := fun e => by
              subst e;have h1 := hJ7;unfold An at h1;rcases iQ.own.2 with ⟨h', _⟩ | ⟨g', cap', cur, h', _, hg, _⟩
              · simp at h'
              · injection h' with h' _ _
                injection h' with h';injection h' with h' _ _;subst h';rw [h1] at hg;injection hg with hg;injection hg with _ hg _;exact absurd hg (by decide)
            rw [nO.out];refine ⟨vc7, f7, o7, hI7.boxed iQ.EB _, ?_, ?_, hJ7.Ao hgB _, (mG.tags _ HJ.out.lt).trans vI.out⟩
            · exact (iY.out.trans mG).setCell_new (HGe.out g rfl) _
            · have := iQ.Gx k (.int .i64 (Hk.AG x).2)
              rw [show (Value.int IntKind.i64 ((Hk.AG x).2 : Nat)) = nv (Hk.AG x).2 from rfl, <- aP, vV.out] at this;exact this)
          clear iQ hJ7 mG hI7;go_wp2_with fail;obtain ⟨yC, f8, o8, g1, g2, g3, g4, g5⟩ := hfin.out;go_roundw
          case rel => exact ⟨k + 1, yC, f8, o8, by simp, by omega, g1, g2, g3, g4, g5⟩
          case measure => simp [intOf]; omega
      · obtain rfl : k = n := by omega
        clear hlt;rw [kF.out, aA] at hI;rw [kF.out, aA, bK, aG, <- kF.out] at hR;have hwk := (Hp.Cu ob.AU HW.out);have hmp := ri ob.AU HP.out;have hpb := nr ob.AU HW.out.ok HPB.out;have hlen := ku ob.AU H;obtain ⟨s1, s2, s3, s4, s5, s6, s7, s8⟩ := zw ob.AU H;have hsc : (H.Ay ob.AU).1.scan = H.scan := s4;clear s1 s2 s3 s4 s5 s6 s7 s8;generalize hr : H.Ay ob.AU = r at *;obtain ⟨Hk, ps⟩ := r;have HRr := Qa hr;clear hr;simp only at hI hR hwk hmp hpb hlen hsc;obtain ⟨ha, ho, hl, _⟩ := hI.at_ hwk.ok hmp;have Aec : ∀ W', Wr l.wd wr W' -> Ints W' (.slice pa k cp) ps := fun W' iV => by
          have := (hR.Ar (Stp.Ci (T := fun t => t = (l.id, 2)) iV hI.ow) (by simp))
          rw [show k = ps.length from by rw [hlen, kF.out]] at this ⊢
          exact this.ints
        have qD := Qa (qfq (hI.Cr.below (qf (qd wr))) ha ho hl ps hpb (by rw [hlen]) (v := .slice pa k cp) (fun W' iV => Aec W' iV.EG))
        have c0 := hI.c0;have GI := hI.GI;rw [hsc] at GI;have qA := Qa hI;have iY := Qa hS;have HJ := Qa hJ;have oL := Qa hwk;have HMp := Qa hmp;have Adn : B ≠ l.wd := fun e => by have h1 := hBt; rw [e, hI.ow] at h1; simp at h1
        have HNe := Qa Adn;have ABe := HSB.out;have Amg : (H.scan : Int) + (BG ob.size : Int) <= 65536 := by omega
        clear hI hS hR hJ hBt hwk hmp hpb hlen ha ho hl Aec Adn;go_upto_region 14 with fail;go_still_tail 9, (by kernel_rfl)
        change wpList _ _ _ _ _ wr.drew;go_wp2_with fail;refine qD.out.mono ?_;rintro e w9 ⟨rfl, f9, zG, hR9, hO9, hE9⟩;have hI9 := (qA.out.below (qf (qd wr))).M8 oL.out.ok HMp.out zG hR9 hE9 hO9;have hJ9 := (qj HJ.out).wr hR9 HNe.out;have hS9 : Stp (zg l) o1 o' w w9 := iY.out.trans ((Stp.of_below (qf (qd wr))).trans (Stp.Ci hR9 (by rw [qA.out.ow]; exact ⟨rfl, by simp⟩)))
        clear c0 GI zG hR9 hO9 hE9;have cB := hJ9.cell;go_wp2_with fail;refine (HZ.out _).mono ?_;rintro e w10 ⟨rfl, iC⟩;clear cB;go_wp2_with fail;refine (HN.out _).mono ?_;rintro e w11 ⟨rfl, mJ⟩;have iw := (hI9.below iC).below mJ;have Acg := (hS9.trans (Stp.of_below iC)).trans (Stp.of_below mJ);clear hI9 iC mJ hS9 hJ9;have GI := iw.GI;have z12 := iw.hb.free 12;have s12 := iw.hb.lt;simp only [hsc] at GI;rw [hsz] at Amg;have hfin := Qa (show Gl w o l { Hk with cur := up Hk.cur H.scan (ob.CU ps), scan := H.scan + BG ob.size } vo vw vf (w11.setCell ⟨l.h, 12, none⟩ (.int .i64 ((H.scan : Int) + (BG (3 + ob.AL.p + ob.AL.d) : Nat)))) from by
          have e1 : ((H.scan : Int) + (BG (3 + ob.AL.p + ob.AL.d) : Nat)) = ((H.scan + BG ob.size : Nat) : Int) := by rw [hsz]; omega
          rw [e1];have hb := iw.hb.set 12 (.int .i64 ((H.scan + BG ob.size : Nat) : Int));rw [qlc] at hb;exact ⟨bQ, f9, o', iw.Gt hb ((Stp.refl _ o' w11).setCell (by exact iw.oh) _) rfl rfl rfl rfl rfl rfl, iX.out.trans (Acg.setCell (by show zg l (o' l.h); rw [iw.oh]; exact ⟨rfl, by simp⟩) _)⟩)
        clear iw Acg hsz;go_wp2_with fail;go_ret;exact ⟨rfl, by rw [HRr.out]; exact hfin.out⟩
def MW (h:AN w o l H vc vo vw vf f)(hm:H.AK=false\/H.scan=H.top) :
  Ab ANa 78 #[Ah (some ⟨l.h,0,none⟩)] w fun e w'=>e=O (.bool false)/\Ae w w w':=by
 have HM:=xc h;have HD:=uw h;rcases hm with hm|hm
 ·rw[hm]at HM
  replace HM:=Qa HM;clear h hm HD;go_in;go_wp2_with fail;refine HM.o.mono ?_;rintro e w1 ⟨rfl,rfl⟩;go_wp2_with fail;go_ret;exact⟨rfl,qd _⟩
 ·rw[decide_eq_true hm]at HD
  generalize H.AK=mv at HM;replace HM:=Qa HM;replace HD:=Qa HD;clear h hm
  cases mv
  ·go_in
   go_wp2_with fail;refine HM.o.mono ?_;rintro e w1 ⟨rfl,rfl⟩;go_wp2_with fail;go_ret;exact⟨rfl,qd _⟩
  ·go_in
   go_wp2_with fail;refine HM.o.mono ?_;rintro e w1 ⟨rfl,rfl⟩;go_wp2_with fail;refine HD.o.mono ?_;rintro e w1 ⟨rfl,hb⟩;go_wp2_with fail;go_ret;exact⟨rfl,hb⟩
def Kt (h:AN w o l H vc vo vw vf f)(hw:H.wf) :
  Ab ANa 78 #[Ah (some ⟨l.h,0,none⟩)] w fun e w'=>e=O (.bool H.Bf.2)/\Gl w o l H.Bf.1 vo vw vf w':=by
 by_cases hm:H.AK=false\/H.scan=H.top
 ·have e1:H.Bf=(H,false):=by unfold Hp.Bf;rw[if_pos hm]
  rw[e1];exact (MW h hm).mono fun _ _ ⟨a,b⟩=>⟨a,h.B7 b⟩
 ·refine MU h hw ?_ fun e=>hm (.inr e)
  cases hmm:H.AK
  ·exact absurd (.inl hmm) hm
  ·rfl
end
def Jz {n:Nat}(h:n<=1099511627776):n+1<=maxLen/\(n+1)*8<=140737488355328:=by
 simp only[maxLen];omega
def T2 (t:Tag):Prop:=t=(1,0)\/t=(2,0)
def ER:Own:=fun _=>(0,0)
def T2.below {w w':Aa}{o':Own}(h:Stp T2 ER o' w w'):Ae w w w':=h.below fun b _ hh=>by rcases hh with hh|hh<;>simp[ER]at hh
def mix (o o':Own)(n:Nat)(t1 t2:Tag):Own:=fun b=>if b<n then o b else if o' b=(1,0) then t1 else t2
def U3 {o o':Own}{n b:Nat}{t1 t2:Tag}(h:b<n):mix o o' n t1 t2 b=o b:=by unfold mix;rw[if_pos h]
def Row.Pw {w w':Aa}{o':Own}{e:TypeId}{size k:Nat}{v:Ac}{xs:List Ac}(hs:Stp T2 ER o' w w')(h:Row w' o' (1,0) e size v k xs)(o:Own)(t1 t2:Tag):Row w' (mix o o' w t1 t2) t1 e size v k xs:=by
 refine⟨h.own,fun b hb=>?_⟩
 have h1:=h.tag b hb;unfold mix;rw[if_neg,if_pos h1];intro h2;rw[hs.tags b h2]at h1;simp[ER]at h1
def Row.TF {w w':Aa}{o':Own}{e:TypeId}{size k:Nat}{v:Ac}{xs:List Ac}(hs:Stp T2 ER o' w w')(h:Row w' o' (2,0) e size v k xs)(o:Own)(t1 t2:Tag):Row w' (mix o o' w t1 t2) t2 e size v k xs:=by
 refine⟨h.own,fun b hb=>?_⟩
 have h1:=h.tag b hb;unfold mix;rw[if_neg,if_neg]
 ·rw[h1];simp
 ·intro h2
  rw[hs.tags b h2]at h1;simp[ER]at h1
def Row.Mu {w w':Aa}{o':Own}{e:TypeId}{size k:Nat}{v:Ac}{xs:List Ac}(hs:Stp T2 ER o' w w')(h:Row w' o' (2,0) e size v k xs):∀ b,v.ownBlock=some b->w.1.size<=b:=fun b hb=>by
 have h1:=h.tag b hb;refine Nat.le_of_not_lt fun h2=>?_
 rw[hs.tags b h2]at h1;simp[ER]at h1
def qpn (H:Hp)(l:List Nat)(p:Nat):H.stay (l++[p])=H.stay l++(match H.nowAt p with|some q=>[q]|none=>[]):=by
 unfold Hp.stay;rw[List.filterMap_append]
 cases h:H.nowAt p<;>simp[h]
def qo8 (H:Hp)(l:List Nat)(p:Nat):H.B6 (l++[p])=H.B6 l++(match H.nowAt p with|some _=>[]|none=>[p]):=by
 unfold Hp.B6;rw[List.filter_append]
 cases h:H.nowAt p<;>simp[h]
section
variable {w w' : Aa} {o : Own} {l : Bn} {H : Hp} {vc vo vw vf : Ac} {f : Nat -> Nat}
def YD (h:AN w o l H vc vo vw vf f)(hk:H.ok){p:Nat}{ob:Ob}(hp:Be H.old p=some (ob,none)) :
  Ab ANa 172 #[Ah (some ⟨l.a,0,none⟩),.int .i64 p] w fun e w'=>e=O (Ak #[.int .i64 0,false])/\w=w':=by
 obtain⟨ho,_,_,hl⟩:=dv hk hp;exact Va h.Cr ((h.Ch _ (zy hp)).1 rfl) ho hl
def Yz (h:AN w o l H vc vo vw vf f)(hk:H.ok){p q:Nat}{ob:Ob}(hp:Be H.old p=some (ob,some q)) :
  Ab ANa 172 #[Ah (some ⟨l.a,0,none⟩),.int .i64 p] w fun e w'=>e=O (Ak #[.int .i64 q,true])/\w=w':=by
 obtain⟨ho,_,_,hl⟩:=dv hk hp;have hs:=Ob.AP ho;have hq:=hk.gone _ (zy hp) q rfl;exact Uq h.Cr (by omega) q hq.1 hq.2 ((h.Ch _ (zy hp)).2 q rfl)
def sn (h:AN w o l H vc vo vw vf f)(hk:H.ok)(ps:List Nat)(hps:ps.length<=1099511627776){v:Ac}(hv:Ints w v ps) :
  Ab ANa 183 #[Ah (some ⟨l.h,0,none⟩),v] w fun e w'=>∃ v1 v2 o',e=O (Ak #[v1,v2]) /\
   Row w' o' (1,0) 3 1 v1 (H.stay ps).length ((H.stay ps).map nv)/\Row w' o' (2,0) 3 1 v2 (H.B6 ps).length ((H.B6 ps).map nv)/\Stp T2 ER o' w w':=by
 have HI:=Qa h;have HK:=Qa hk;have HV:=Qa (fun w' (hb:Ae w w w')=>hv.below hb)
 have qV:=Qa hps;obtain⟨va,vcp,rfl⟩:∃ a c,v=.slice a ps.length c:=by
  obtain⟨a',c',e,_⟩:=hv;exact⟨a',c',e⟩
 obtain⟨n,hn⟩:=Ja0 ps.length;have HN:=Qa hn;rw[<-hn]at HV hps ⊢;have uS:(n:Int)<=1099511627776:=by omega
 obtain⟨iI,hi,hsI,cK,bZ⟩:=zm;have hu64:=underlying23;clear h hk hv hps hn;go_in;go_wp2_with fail;go_loopw [4,5,12] (fun a b ix wr=>∃ (k:Nat)(o':Own),ix=.int .i64 k/\k<=n/\Row wr o' (1,0) 3 1 a (H.stay (ps.take k)).length ((H.stay (ps.take k)).map nv)/\Row wr o' (2,0) 3 1 b (H.B6 (ps.take k)).length ((H.B6 (ps.take k)).map nv)/\Stp T2 ER o' w wr) (fun _ _ ix _=>n-(intOf ix).toNat)
 case atStart=>exact⟨0,ER,rfl,by omega,Row.nil _ _ _ _ _,Row.nil _ _ _ _ _,Stp.refl _ _ _⟩
 case round =>
  obtain⟨k,o',rfl,hkn,hr1,hr2,hS⟩:=hrel;by_cases hlt:k<n
  ·have eG:(k:Int)<(n:Int):=by omega
   have Aln:(k:Int)<1099511627776:=by omega
   obtain⟨x,hx⟩:∃ x,ps[k]?=some x:=⟨_,Qb (by rw[<-HN.o];omega)⟩
   have htk:=ke hx;have hbr:=T2.below hS;have hst:=qpn H (ps.take k) x;have hgn:=qo8 H (ps.take k) x;rw[<-htk]at hst hgn;have hsl:=kw H (ps.take k);have htl:(ps.take k).length=k:=by rw[Qp,<-HN.o];omega
   have wW:=rj (HI.o.below hbr) HK.o x;rcases (HV.o wr hbr).form with ⟨e1,_⟩|⟨g,off,c,e1,hnc,hcm,hg,hcell⟩
   ·rw[e1]at hx;simp at hx
   ·injection e1 with e1 e2 e3
    subst e1 e3;clear e2;have cx:wr.cell? ⟨g,off+k,none⟩=some (.int .i64 x):=hcell k x hx;have hlen1:(H.stay (ps.take k)).length<=1099511627776/\(H.B6 (ps.take k)).length<=1099511627776:=by have:=qV.o;have:=HN.o;omega
    obtain⟨hlen1,kX⟩:=hlen1;have HL1:=Qa (Jz hlen1);have HL2:=Qa (Jz kX);have HS:=Qa hS;have HR1:=Qa hr1;have HR2:=Qa hr2;obtain⟨iP,iq,rfl⟩:=hr1.A6;obtain⟨tC,cp2,rfl⟩:=hr2.A6;unfold Hp.nowAt at hst hgn;clear hcell hsl htl htk hS hr1 hr2 hlen1 kX
    cases ho:Be H.old x with
    | none =>
     rw[ho]at wW hst hgn;have gU:=Qa wW;have iZ:=Qa hst;have HGn:=Qa hgn;clear wW hst hgn ho hx;go_wp2_with fail;refine gU.o.mono ?_;rintro e w3 ⟨rfl,hb3⟩;go_wp2_with (first|(at_builtin;refine qg _ rfl _ _ _ rfl 3 iI _ 1 8 hu64 hi bZ hsI cK rfl (by decide) o' (1,0) _ _ _ rfl (Row.below (Row.below HR1.o hb3) (qc (qd w3) _)) ⟨w3,0,none⟩ 1 1 [.int .i64 x] rfl rfl (qx (An.new w3 _ _)) jh HL1.o.1 HL1.o.2 ?_;intro v' w8 hown hst;obtain⟨pa8,cp8,rfl⟩:=hown.A6)|fail)
     have cZ:Stp T2 ER o' w (w3.alloc (.cells #[.int .i64 x] 3)):=(HS.o.trans (Stp.of_below hb3)).trans (Stp.of_below (qc (qd w3) _));have hS8:=cZ.trans (hst.mono fun _ e=>Or.inl e);have hR2:=(Row.below (Row.below HR2.o hb3) (qc (qd w3) (.cells #[.int .i64 x] 3))).Ar hst (by simp)
     go_roundw
     case rel=>exact⟨k+1,_,by simp,by omega,by rw[iZ.o,Qd,wb];exact hown,by rw[HGn.o];simpa using hR2,hS8⟩
     case measure=>simp[intOf];omega
    | some z =>
     obtain⟨ob,gq⟩:=z;rw[ho]at wW hst hgn;have gU:=Qa wW;have iZ:=Qa hst;have HGn:=Qa hgn;have tO:=Qa (fun w4 (hb:Ae w w w4)=>(HI.o.below hb).c0)
     cases gq with
     | none =>
      have vH:=Qa (fun w4 (hb:Ae w w w4)=>YD (HI.o.below hb) HK.o ho);clear wW hst hgn ho hx;go_wp2_with fail;refine gU.o.mono ?_;rintro e w3 ⟨rfl,hb3⟩;have c0:=tO.o _ (qe hbr hb3);go_wp2_with fail;refine (vH.o _ (qe hbr hb3)).mono ?_;rintro e w4 ⟨rfl,rfl⟩;clear c0;go_wp2_with (first|(at_builtin;refine qg _ rfl _ _ _ rfl 3 iI _ 1 8 hu64 hi bZ hsI cK rfl (by decide) o' (2,0) _ _ _ rfl (Row.below (Row.below HR2.o hb3) (qc (qd w3) _)) ⟨w3,0,none⟩ 1 1 [.int .i64 x] rfl rfl (qx (An.new w3 _ _)) jh HL2.o.1 HL2.o.2 ?_;intro v' w8 hown hst;obtain⟨pa8,cp8,rfl⟩:=hown.A6)|fail)
      have cZ:Stp T2 ER o' w (w3.alloc (.cells #[.int .i64 x] 3)):=(HS.o.trans (Stp.of_below hb3)).trans (Stp.of_below (qc (qd w3) _));have hS8:=cZ.trans (hst.mono fun _ e=>Or.inr e);have hR1:=(Row.below (Row.below HR1.o hb3) (qc (qd w3) (.cells #[.int .i64 x] 3))).Ar hst (by simp)
      go_roundw
      case rel=>exact⟨k+1,_,by simp,by omega,by rw[iZ.o];simpa using hR1,by rw[HGn.o,Qd,wb];exact hown,hS8⟩
      case measure=>simp[intOf];omega
     | some q =>
      have vH:=Qa (fun w4 (hb:Ae w w w4)=>Yz (HI.o.below hb) HK.o ho);clear wW hst hgn ho hx;go_wp2_with fail;refine gU.o.mono ?_;rintro e w3 ⟨rfl,hb3⟩;have c0:=tO.o _ (qe hbr hb3);go_wp2_with fail;refine (vH.o _ (qe hbr hb3)).mono ?_;rintro e w4 ⟨rfl,rfl⟩;clear c0;go_wp2_with (first|(at_builtin;refine qg _ rfl _ _ _ rfl 3 iI _ 1 8 hu64 hi bZ hsI cK rfl (by decide) o' (1,0) _ _ _ rfl (Row.below (Row.below HR1.o hb3) (qc (qd w3) _)) ⟨w3,0,none⟩ 1 1 [.int .i64 q] rfl rfl (qx (An.new w3 _ _)) jh HL1.o.1 HL1.o.2 ?_;intro v' w8 hown hst;obtain⟨pa8,cp8,rfl⟩:=hown.A6)|fail)
      have cZ:Stp T2 ER o' w (w3.alloc (.cells #[.int .i64 q] 3)):=(HS.o.trans (Stp.of_below hb3)).trans (Stp.of_below (qc (qd w3) _));have hS8:=cZ.trans (hst.mono fun _ e=>Or.inl e);have hR2:=(Row.below (Row.below HR2.o hb3) (qc (qd w3) (.cells #[.int .i64 q] 3))).Ar hst (by simp)
      go_roundw
      case rel=>exact⟨k+1,_,by simp,by omega,by rw[iZ.o,Qd,wb];exact hown,by rw[HGn.o];simpa using hR2,hS8⟩
      case measure=>simp[intOf];omega
  ·obtain rfl:k=n:=by omega
   rw[HN.o,aA]at hr1 hr2;go_wp2_with fail;go_ret2;exact⟨_,_,o',rfl,hr1,hr2,hS⟩
end
end
section
open Go.RowKit Hp
def dO (md:aB)(o:Oper):List Nat:=(o.after.toList.filter fun e=>aD md e).map (·.on)
def rE:List (List Nat)->Nat->Nat->List Nat
 | [],_,_=>[]
 | d::D,i,m=>if (!m.testBit i&&d.all fun j=>m.testBit j)=true then i::rE D (i+1) m else rE D (i+1) m
def SI (D:List (List Nat)):Nat->Nat->List (List Nat)
 | 0,_=>[[]]
 | f+1,m=>match rE D 0 m with
  | []=>[[]]
  | rs=>rs.flatMap fun i=>(SI D f (m ||| 2 ^ i)).map (i::·)
def Km:∀ (D:List (List Nat))(i m:Nat),rE D i m=(bH i D.length).filter fun k=>!m.testBit k&&((D[k-i]?).map fun d=>d.all fun j=>m.testBit j).getD false
 | [],_,_=>rfl
 | d::D,i,m=>by
  unfold rE;rw[Qv,List.range'_succ,List.filter_cons,Km D (i+1) m];have hr:(bH (i+1) D.length).filter (fun k=>!m.testBit k&&((D[k-(i+1)]?).map fun d=>d.all fun j=>m.testBit j).getD false) =
    (bH (i+1) D.length).filter (fun k=>!m.testBit k&&(((d::D)[k-i]?).map fun d=>d.all fun j=>m.testBit j).getD false):=by
   refine bG fun k hk=>?_;have:=(aM.1 hk).1;rw[show k-i=(k-(i+1))+1 from by omega,af]
  rw[hr,Nat.sub_self,List.getElem?_cons_zero,aV,aS]
structure Em (n:Nat)(listed:Array Bool)(m:Nat):Prop where
 sz:listed.size=n
 at':∀ i,i<n->listed[i]?=some (m.testBit i)
 out:∀ i,n<=i->m.testBit i=false
def Em.zero (n:Nat):Em n (aW n false) 0:=
 ⟨by simp,fun i hi=>by simp[hi],fun i _=>Nat.zero_testBit i⟩
def Em.set {n:Nat}{listed:Array Bool}{m:Nat}(h:Em n listed m){i:Nat}(hi:i<n):Em n (listed.setIfInBounds i true) (m ||| 2 ^ i):=by
 refine⟨by simp[h.sz],fun j hj=>?_,fun j hj=>?_⟩
 ·rw[Nat.testBit_or,bF]
  by_cases e:i=j
  ·subst e;simp[h.sz,hi]
  ·rw[Array.getElem?_setIfInBounds_ne e,h.at' j hj];simp[e]
 ·rw[Nat.testBit_or,h.out j hj,bF]
  simp;omega
def Em.TC {n:Nat}{listed:Array Bool}{m:Nat}(h:Em n listed m){i:Nat}(hi:i<n):listed.getD i true=m.testBit i:=by
 rw[aL,h.at' i hi];rfl
def Em.TB {n:Nat}{listed:Array Bool}{m:Nat}(h:Em n listed m)(i:Nat):listed.getD i false=m.testBit i:=by
 rw[aL];by_cases hi:i<n
 ·rw[h.at' i hi];rfl
 ·rw[h.out i (by omega),aX (by rw[h.sz];omega)];rfl
def ready_eq (md:aB)(l:List Oper){listed:Array Bool}{m:Nat}(h:Em l.length listed m):ai md l.toArray listed=rE (l.map (dO md)) 0 m:=by
 rw[Km];unfold ai;rw[Qg,List.range_eq_range',show l.toArray.size=l.length from by simp]
 refine bG fun k hk=>?_
 have hk:k<l.length:=by have:=(aM.1 hk).2;omega
 rw[h.TC hk,Nat.sub_zero,Qj,List.getElem?_toArray,Qb hk];simp only[aV,aS];congr 1;unfold dO;rw[List.all_map,List.all_filter,<-Array.all_toList];refine List.all_congr rfl fun e=>?_
 rw[h.TB]
 cases aD md e<;>rfl
def RU {D:List (List Nat)}{m k:Nat}(h:k ∈ rE D 0 m):k<D.length:=by
 rw[Km]at h;have:=aM.1 (List.mem_filter.1 h).1;omega
def WJ (md:aB)(l:List Oper):∀ (f:Nat)(listed:Array Bool)(m:Nat),Em l.length listed m->p9 md l.toArray f listed=SI (l.map (dO md)) f m
 | 0,_,_,_=>rfl
 | f+1,listed,m,h=>by
  unfold p9 SI;rw[ready_eq md l h];have hlt:∀ k ∈ rE (l.map (dO md)) 0 m,k<l.length:=fun k hk=>by have:=RU hk;rwa [Qg]at this
  generalize rE (l.map (dO md)) 0 m=rs at hlt
  cases rs with
  | nil=>rfl
  | cons x xs =>
   simp only;rw[bM,bM];congr 1;refine aI fun k hk=>?_;rw[WJ md l f _ _ (h.set (hlt k hk))]
def qo4 (md:aB)(l:List Oper)(D:List (List Nat))(hD:l.map (dO md)=D):p9 md l.toArray l.length (aW l.length false)=SI D l.length 0:=by
 rw[WJ md l _ _ 0 (Em.zero _),hD]
end
section
open Go.RowKit Hp
attribute [local go_sem ↓] Go.wp_at_zero Go.wp_at_succ
def run_equalIn_nil_nil {P:Program}(w:Aa)(d:Nat)(t:TypeId){ps rs:Array TypeId}{b:Bool}(h:P.underlying t=some (.func ps rs b)):(Op.equalIn (d+1) t .nilFunc .nilFunc).run P w=.ok true w:=by simp[Op.equalIn,run_underlying h]
def bi {P:Program}(w:Aa)(d:Nat)(t:TypeId){ps rs:Array TypeId}{b:Bool}(f:Fn)(a c:Array Ac)(h:P.underlying t=some (.func ps rs b)):(Op.equalIn (d+1) t (.func f a c) .nilFunc).run P w=.ok false w:=by simp[Op.equalIn,run_underlying h]
def run_neq_nil_nil {P:Program}(w:Aa)(t:TypeId){ps rs:Array TypeId}{b:Bool}(h:P.underlying t=some (.func ps rs b)):(binOp .neq t .nilFunc .nilFunc).run P w=.ok (.bool false) w:=by
 have h1:(Op.equal t .nilFunc .nilFunc).run P w=.ok true w:=run_equalIn_nil_nil w 9999 t h;simp only[binOp];simp[h1]
def my {P:Program}(w:Aa)(t:TypeId){ps rs:Array TypeId}{b:Bool}(f:Fn)(a c:Array Ac)(h:P.underlying t=some (.func ps rs b)):(binOp .neq t (.func f a c) .nilFunc).run P w=.ok (.bool true) w:=by
 have h1:(Op.equal t (.func f a c) .nilFunc).run P w=.ok false w:=bi w 9999 t f a c h;simp only[binOp];simp[h1]
structure DO (w:Aa)(o:Own)(l:Bn)(cy n:Nat)(rd ls:List Nat):Prop where
 A3:∃ vr vl,An w cy #[ptr l.h,FR cy n,vr,vl] 143/\Row w o (l.id,8) 3 1 vr rd.length (rd.map nv)/\Row w o (l.id,9) 3 1 vl ls.length (ls.map nv)
 oc:o cy=(l.id,7)
section
variable {w w' : Aa} {o o' : Own} {l : Bn} {cy n : Nat} {rd ls : List Nat}
def DO.Ar {T:Tag->Prop}(h:DO w o l cy n rd ls)(hs:Stp T o o' w w')(h7:¬T (l.id,7))(h8:¬T (l.id,8))(h9:¬T (l.id,9)):DO w' o' l cy n rd ls:=by
 obtain⟨vr,vl,hb,h1,h2⟩:=h.A3;exact⟨⟨vr,vl,hb.Ar hs (by rw[h.oc];exact h7),h1.Ar hs h8,h2.Ar hs h9⟩,(hs.tags _ hb.lt).trans h.oc⟩
def gk (h:DO w o l cy n rd ls)(hn:n<=2):Ab ANa 45 #[ptr cy] w fun e w'=>e=O (.bool (decide (n≠0)))/\w=w':=by
 obtain⟨vr,vl,hb,_,_⟩:=h.A3;have c:=hb.cell;clear h hb;obtain rfl|rfl|rfl:n=0\/n=1\/n=2:=by omega
 ·have c1:w.cell? ⟨cy,1,none⟩=some .nilFunc:=c 1
  have hne:=run_neq_nil_nil w 24 underlying24;clear c;go_in;go_wp2_with fail;go_ret;exact⟨rfl,rfl⟩
 ·have c1:w.cell? ⟨cy,1,none⟩=some (.func (.func 75) #[ptr cy] #[]):=c 1
  have hne:=my w 24 (.func 75) #[ptr cy] #[] underlying24;clear c;go_in;go_wp2_with fail;go_ret;exact⟨rfl,rfl⟩
 ·have c1:w.cell? ⟨cy,1,none⟩=some (.func (.func 121) #[ptr cy] #[]):=c 1
  have hne:=my w 24 (.func 121) #[ptr cy] #[] underlying24;clear c;go_in;go_wp2_with fail;go_ret;exact⟨rfl,rfl⟩
def G0 {H:Hp}(h:B1 w o l H)(hk:H.ok)(p:Nat) :
  Ab ANa 122 #[ptr l.h,.int .i64 p] w fun e w'=>e=O (.int .i64 ((H.AG p).2:Nat))/\∃ o',B1 w' o' l (H.AG p).1/\Stp (zg l) o o' w w':=by
 obtain⟨vc,vo,vw,vf,f,hh⟩:=h;refine (nk hh hk p).mono ?_
 rintro e w'⟨rfl,bQ,f',o',h',hs⟩
 exact⟨rfl,o',⟨bQ,vo,vw,vf,f',h'⟩,hs⟩
def xo (k n:Nat)(h:k<n)(hn:n<=1099511627776):wrap64 ((k:Int)+1)=(k:Int)+1/\IntKind.i64.wrap ((k:Int)+1)=(k:Int)+1:=by
 have h1:(-9223372036854775808:Int)<=(k:Int)+1/\(k:Int)+1<=9223372036854775807:=by omega
 exact⟨IntWalk.wrap64_in _ h1,IntWalk.i64_in _ h1⟩
def K7 (k n:Nat)(h:k<n)(hn:n<=8796093022208):wrap64 ((k:Int)+1)=(k:Int)+1/\IntKind.i64.wrap ((k:Int)+1)=(k:Int)+1:=by
 have h1:(-9223372036854775808:Int)<=(k:Int)+1/\(k:Int)+1<=9223372036854775807:=by omega
 exact⟨IntWalk.wrap64_in _ h1,IntWalk.i64_in _ h1⟩
def Lr (k n:Nat)(h:k<n)(hn:n<=8796093022208):k+1<=maxLen/\(k+1)*8<=140737488355328:=by
 simp only[maxLen];omega
def hOr (l:Bn)(tg:Tag)(t:Tag):Prop:=zg l t\/t=tg
def qle {H:Hp}(hH:B1 w o l H)(hk:H.wf){vp vr vl:Ac}(jc:An w cy #[ptr l.h,vp,vr,vl] 143)(oc:o cy=(l.id,7)){v:Ac}{ps:List Nat}{ta:Tag}(hv:Row w o ta 3 1 v ps.length (ps.map nv))(hp:ps.length<=8796093022208)
  (tg:Tag)(na:¬zg l ta)(ng:¬zg l tg)(nag:ta≠tg)(n7:tg≠(l.id,7)) :
  Ab ANa 76 #[ptr cy,v] w fun e w'=>∃ v' o',e=O v'/\B1 w' o' l (H.Ay ps).1/\Row w' o' tg 3 1 v' ps.length ((H.Ay ps).2.map nv)/\Stp (hOr l tg) o o' w w':=by
 obtain⟨iI,hi,hsI,cK,bZ⟩:=zm;have hu64:=underlying23;have n7h:¬zg l (l.id,7):=fun hh=>by have:=hh.2;simp at this
 have HV:=Qa hv;have HJ:=Qa jc;have HH:=Qa hH;have HK:=Qa hk;have HP:=Qa hp;have HO:=Qa oc;have HNA:Q2 (¬hOr l tg ta):=fun h=>h.elim na nag
 have HN7:Q2 (¬hOr l tg (l.id,7)):=fun h=>h.elim n7h fun e=>n7 e.symm
 obtain⟨pa,cp,rfl⟩:=hv.A6;obtain⟨n',hn'⟩:=Ja0 ps.length;have HN:=Qa hn';rw[<-hn']at HV ⊢;clear hv jc hH hk hp oc hn';go_in;go_wp2_with fail;go_loopw [5,7,10] (fun vv _ ix wr=>∃ (k:Nat)(oo:Own),ix=.int .i64 k/\k<=n'/\B1 wr oo l (H.Ay (ps.take k)).1/\Row wr oo tg 3 1 vv k ((H.Ay (ps.take k)).2.map nv)/\Stp (hOr l tg) o oo w wr) (fun _ _ ix _=>n'-(intOf ix).toNat)
 case atStart=>exact⟨0,o,rfl,Nat.zero_le _,HH.o,Row.nil _ _ _ _ _,Stp.refl _ _ _⟩
 case round =>
  obtain⟨k,oo,rfl,hkn,hA,hr,hs⟩:=hrel;have jk:=HJ.o.Ar hs (by rw[HO.o];exact HN7.out)
  have hvk:=HV.o.Ar hs HNA.out;have c:=jk.cell;by_cases hlt:k<n'
  ·have eG:(k:Int)<(n':Int):=by omega
   obtain⟨x,hx⟩:∃ x,ps[k]?=some x:=⟨_,Qb (by rw[<-HN.o];omega)⟩
   have hsn:=uz (ps.take k) x H;rw[<-ke hx]at hsn;have HSN:=Qa hsn;have hM:=Qa (G0 hA (Hp.Cu (ps.take k) HK.o).ok x);obtain⟨hw1,hw2⟩:=K7 k n' hlt (by rw[HN.o];exact HP.o)
   have hRR:=Qa hr;have iY:=Qa hs;have hk1:Q2 (k+1<=maxLen/\(k+1)*8<=140737488355328):=Lr k n' hlt (by rw[HN.o];exact HP.o)
   obtain⟨pv,cv,rfl⟩:=hr.A6;rcases hvk.form with ⟨_,h0⟩|⟨g,cap,e,hcap⟩
   ·omega
   ·injection e with e1 _ e3
    subst e1 e3;have q0:wr.cell? ⟨g,k,none⟩=some (.int .i64 x):=hvk.cells k _ (by rw[Qj,hx];rfl)
    clear hA hr hs hsn hvk hx;generalize H.Ay (ps.take k)=r at *;obtain⟨Hk,lk'⟩:=r;go_wp2_with fail;refine hM.o.mono ?_;rintro e w3 ⟨rfl,o3,h3,hs3⟩;have hR3:=Qa (hRR.o.Ar hs3 ng);go_wp2_with (first|(at_builtin;refine qg _ rfl _ _ _ rfl 3 iI _ 1 8 hu64 hi bZ hsI cK rfl (by decide) o3 tg _ _ _ rfl (Row.below hR3.o (qc (qd w3) _)) ⟨w3,0,none⟩ 1 1 [.int .i64 (Hk.AG x).2] rfl rfl (qx (An.new w3 _ _)) jh hk1.out.1 hk1.out.2 ?_;intro v' w8 hown hst)|fail)
    have eB:=qc (qd w3) (.cells #[.int .i64 (Hk.AG x).2] 3);have h8:=h3.Ar (Stp.of_below (T:=fun _=>False) eB) fun _ _ h=>h;have h9:=h8.Ar hst fun j hj e=>ng (by rw[<-e];exact⟨rfl,by simp;omega⟩)
    have s9:=((iY.o.trans (hs3.mono fun _ h=>Or.inl h)).trans (Stp.of_below eB)).trans (hst.mono fun _ h=>Or.inr h);go_roundw
    case rel=>exact⟨k+1,_,by simp,by omega,by rw[HSN.o];exact h9,by rw[HSN.o,wb];exact hown,s9⟩
    case measure=>simp[intOf];omega
  ·obtain rfl:k=n':=by omega
   rw[HN.o,aA]at hA hr;rw[<-HN.o]at hr;obtain⟨pv,cv,rfl⟩:=hr.A6;go_wp2_with fail;go_ret;exact⟨_,oo,rfl,hA,hr,hs⟩
end
section
variable {w w' : Aa} {o : Own} {l : Bn} {H : Hp} {vc vo vw vf : Ac} {f : Nat -> Nat}
def qj7 (H:Hp)(a:Nat)(vc vo vw vf v:Ac)(ps:List Nat):(H.cells a vc vo vw vf).setIfInBounds 15 v={ H with final:=ps }.cells a vc vo vw v:=by
 unfold Hp.cells;cases H.use<;>rfl
def qm1 (H:Hp)(a:Nat)(vc vo vw vf v:Ac)(ps:List Nat):(H.cells a vc vo vw vf).setIfInBounds 14 v={ H with AA:=ps }.cells a vc vo v vf:=by
 unfold Hp.cells;cases H.use<;>rfl
def AN.Fz (h:AN w o l H vc vo vw vf f){v:Ac}{ps:List Nat}(hr:Row w o (l.id,6) 3 1 v ps.length (ps.map nv)):AN (w.setCell ⟨l.h,15,none⟩ v) o l { H with final:=ps } vc vo vw v f:=by
 have hs:=(Stp.refl (fun t=>t=(l.id,0)) o w).setCell (a:=⟨l.h,15,none⟩) h.oh v
 have hn:∀ j,j≠0->¬(l.id,j)=(l.id,0):=fun j hj e=>hj (by simpa using e)
 have hb:=h.hb.set 15 v;rw[qj7 _ _ _ _ _ _ _ ps]at hb;exact⟨hb,h.Cr.Ar hs (by rw[h.oa];exact hn _ (by omega)) (by rw[h.ow];exact hn _ (by omega)),h.rc.Ar hs (hn _ (by split<;>omega)),h.ro.Ar hs (hn _ (by split<;>omega)),h.rw.Ar hs (hn _ (by omega)),hr.Ar hs (hn _ (by omega)),h.oh,h.oa,h.ow,h.Fb,h.Ch,h.zr⟩
def AN.MX (h:AN w o l H vc vo vw vf f){v:Ac}{ps:List Nat}(hr:Row w o (l.id,5) 3 1 v ps.length (ps.map nv)):AN (w.setCell ⟨l.h,14,none⟩ v) o l { H with AA:=ps } vc vo v vf f:=by
 have hs:=(Stp.refl (fun t=>t=(l.id,0)) o w).setCell (a:=⟨l.h,14,none⟩) h.oh v
 have hn:∀ j,j≠0->¬(l.id,j)=(l.id,0):=fun j hj e=>hj (by simpa using e)
 have hb:=h.hb.set 14 v;rw[qm1 _ _ _ _ _ _ _ ps]at hb;exact⟨hb,h.Cr.Ar hs (by rw[h.oa];exact hn _ (by omega)) (by rw[h.ow];exact hn _ (by omega)),h.rc.Ar hs (hn _ (by split<;>omega)),h.ro.Ar hs (hn _ (by split<;>omega)),hr.Ar hs (hn _ (by omega)),h.rf.Ar hs (hn _ (by omega)),h.oh,h.oa,h.ow,h.Fb,h.Ch,h.zr⟩
def AN.Lf (h:AN w o l H vc vo vw vf f):w.cell? ⟨l.h,14,none⟩=some vw:=by rw[h.hb.cell];unfold Hp.cells;split<;>rfl
def AN.GJ (h:AN w o l H vc vo vw vf f):w.cell? ⟨l.h,15,none⟩=some vf:=by rw[h.hb.cell];unfold Hp.cells;split<;>rfl
def SP (w:Aa)(o:Own)(l:Bn)(H':Hp)(ps:List Nat)(vo vw:Ac)(e:Ending)(w':Aa):Prop:=
 ∃ v bQ dY f' o',e=O v/\AN w' o' l H' bQ vo vw dY f'/\Stp (zg l) o o' w w'/\Row w' o' (DR l) 3 1 v ps.length (ps.map nv)
def qqg (h:AN w o l H vc vo vw vf f)(hw:H.wf)(hm:H.AK=true) :
  Ab ANa 120 #[Ah (some ⟨l.h,0,none⟩)] w (SP w o l H.A4.1 H.A4.2 vo vw):=by
 have e0:H.A4=Hp.Ay { H with final:=H.stay H.final } (H.B6 H.final):=by unfold Hp.A4;rw[hm];simp
 rw[e0];have hsl:=kw H H.final;have hfl:=hw.fl;have hse:=hw.ok.Bc;have hw1:Hp.wf { H with final:=H.stay H.final }:=fc hw (by omega)
 have HM:=xc h;rw[hm]at HM;replace HM:=Qa HM;have HS:=Qa (sn h hw.ok H.final (by omega) (by exact h.rf.ints))
 have HI:=Qa h;have GJ:=h.GJ;generalize hps:H.B6 H.final=ps at *;generalize hst:H.stay H.final=st at *;have mQ:ps.length<=1099511627776:=by omega
 obtain⟨H1,hH1⟩:∃ H1:Hp,H1={ H with final:=st }:=⟨_,rfl⟩;have HH1:=Qa hH1;rw[<-hH1]at hw1 ⊢;have HW:=Qa hw1;obtain⟨n,hn⟩:=Ja0 ps.length;have HN:=Qa hn;rw[<-hn]at mQ;have uS:(n:Int)<=1099511627776:=by omega
 clear h hw hm hsl hfl hse hw1 hps hst hH1 hn e0;go_in;go_wp2_with fail;refine HM.o.mono ?_
 rintro e w1 ⟨rfl,rfl⟩
 go_wp2_with fail;refine HS.o.mono ?_
 rintro e w1 ⟨v1,v2,o',rfl,hr1,hr2,hs1⟩
 have hb1:=T2.below hs1;have hge:=Row.Mu hs1 hr2;have hr1:=hr1.Pw hs1 o (l.id,6) (DR l);have hr2:=hr2.TF hs1 o (l.id,6) (DR l);obtain⟨o1,ho1⟩:=Ja0 (mix o o' w (l.id,6) (DR l));rw[<-ho1]at hr1 hr2;have ht1:∀ b,b<w.1.size->o1 b=o b:=fun b hb=>by rw[ho1];exact U3 hb
 have hI1:AN w1 o1 l H vc vo vw vf f:=(HI.o.retag ht1).below hb1;have hS1:Stp (zg l) o o1 w w1:=⟨hb1.os,hb1.tape,hb1.output,hb1.size,ht1,fun b hb _=>hb1.block b hb⟩
 clear ho1 hs1 ht1 GJ;have GJ:=hI1.GJ;have z15:=hI1.hb.free 15;have s15:=hI1.hb.lt;obtain⟨pa,cp,rfl⟩:=hr2.A6;obtain⟨iP,iq,rfl⟩:=hr1.A6;go_upto_region 5 with fail;obtain⟨W,hW⟩:=Ja0 (w1.setCell ⟨l.h,15,none⟩ (.slice iP st.length iq));have zD:AN W o1 l H1 vc vo vw (.slice iP st.length iq) f:=by rw[hW,HH1.o];exact hI1.Fz hr1
 have hs0:Stp (fun t=>t=(l.id,0)) o1 o1 w1 W:=by rw[hW];exact (Stp.refl _ o1 w1).setCell hI1.oh _
 have hSW:Stp (zg l) o o1 w W:=hS1.trans (hs0.mono (by rintro _ rfl;exact⟨rfl,by simp⟩))
 have hrW:=hr2.Ar hs0 (by simp)
 rw[<-hW];rw[<-HN.o]at hrW hge ⊢;have Adx:Row W o1 (DR l) 3 1 (.slice pa n cp) n (((H1.Ay (ps.take 0)).2++ps.drop 0).map nv):=by simpa [Hp.Ay] using hrW
 have HGe:=Qa hge;clear hW hs0 hr1 hr2 hI1 hS1 hb1 GJ z15 s15 hrW hge;go_wp2_with fail;go_loopw [25] (fun ix wr=>∃ (k:Nat)(bQ:Ac)(f':Nat->Nat)(o':Own),ix=.int .i64 k/\k<=n/\AN wr o' l (H1.Ay (ps.take k)).1 bQ vo vw (.slice iP st.length iq) f'/\Stp (zg l) o o' w wr/\Row wr o' (DR l) 3 1 (.slice pa n cp) n (((H1.Ay (ps.take k)).2++ps.drop k).map nv)) (fun ix _=>n-(intOf ix).toNat)
 case atStart=>exact⟨0,vc,f,o1,rfl,by omega,zD,hSW,Adx⟩
 case round =>
  obtain⟨k,bQ,f',o',rfl,hkn,hI,hS,hR⟩:=hrel;clear zD hSW Adx;by_cases hlt:k<n
  ·have eG:(k:Int)<(n:Int):=by omega
   have hk8:(k:Int)<1099511627776:=by omega
   obtain⟨x,hx⟩:∃ x,ps[k]?=some x:=⟨_,Qb (by rw[<-HN.o];omega)⟩
   have htk:=ke hx;have Gt:ps.drop k=x::ps.drop (k+1):=by
    obtain⟨h1,h2⟩:=(Qc.1 hx);rw[<-h2];exact aN h1
   have hwk:=(Hp.Cu (ps.take k) HW.o).ok;have hsn:=uz (ps.take k) x H1;rw[<-htk]at hsn;have hlen:(H1.Ay (ps.take k)).2.length=k:=by rw[ku,Qp,<-HN.o];omega
   have nO:=Qa hsn;rw[Gt]at hR;generalize H1.Ay (ps.take k)=r at *;obtain⟨Hk,lk'⟩:=r;simp only at hI hR hwk hlen nO;rcases hR.shape with ⟨_,h0⟩|⟨g,c,e1,hnc,hcm⟩
   ·omega
   ·injection e1 with e1 _ e3
    subst e1 e3;have CL:(lk'++x::ps.drop (k+1)).set k (Hk.AG x).2=(lk'++[(Hk.AG x).2])++ps.drop (k+1):=by
     have:=set_mid lk' (ps.drop (k+1)) x (Hk.AG x).2;rwa [hlen]at this
    have cx:wr.cell? ⟨g,k,none⟩=some (.int .i64 x):=by
     refine hR.cells k _ ?_;rw[Qj,Ql (by omega),hlen];simp[nv]
    have vR:=Qa (nk hI hwk x);have vV:=Qa CL;have iY:=Qa hS;have HR:=Qa hR;have hgl:=hR.blt;clear hsn Gt htk CL hwk hlen hx hI hS hR;go_wp2_with fail;refine vR.o.mono ?_;rintro e w7 ⟨rfl,vc7,f7,o7,hI7,mG⟩;have iQ:=HR.o.Ar mG (RN l);have z7:=iQ.free k;have s7:=iQ.blt;obtain⟨u7,c7⟩:∃ u,w7.cell? ⟨g,k,none⟩=some u:=by
     have h1:k<(List.map nv (lk'++x::ps.drop (k+1))).length:=by rw[iQ.len];omega
     exact⟨_,iQ.cells k _ (Qb h1)⟩
    have hfin:=Qa (show ∃ (bQ:Ac)(f':Nat->Nat)(o':Own),AN (w7.setCell ⟨g,k,none⟩ (.int .i64 (Hk.AG x).2)) o' l (H1.Ay (ps.take (k+1))).1 bQ vo vw (.slice iP st.length iq) f'/\Stp (zg l) o o' w (w7.setCell ⟨g,k,none⟩ (.int .i64 (Hk.AG x).2))/\Row (w7.setCell ⟨g,k,none⟩ (.int .i64 (Hk.AG x).2)) o' (DR l) 3 1 (Ai (some ⟨g,0,none⟩) n cp) n (((H1.Ay (ps.take (k+1))).2++ps.drop (k+1)).map nv) from by
     rw[nO.o];refine⟨vc7,f7,o7,hI7.boxed iQ.EB _,?_,?_⟩
     ·exact (iY.o.trans mG).setCell_new (HGe.o g rfl) _
     ·have:=iQ.Gx k (.int .i64 (Hk.AG x).2)
      rw[show (Value.int IntKind.i64 ((Hk.AG x).2:Nat))=nv (Hk.AG x).2 from rfl,<-aP,vV.o]at this;exact this)
    clear iQ mG hI7;go_wp2_with fail;obtain⟨yC,f8,o8,g1,g2,g3⟩:=hfin.o;go_roundw
    case rel=>exact⟨k+1,yC,f8,o8,by simp,by omega,g1,g2,g3⟩
    case measure=>simp[intOf];omega
  ·obtain rfl:k=n:=by omega
   have hfin:=Qa (show SP w o l (H1.Ay ps).1 (H1.Ay ps).2 vo vw (O (.slice pa k cp)) wr from by
    rw[HN.o,aA]at hI;rw[HN.o,aA,bK,aG,<-HN.o]at hR;exact⟨_,bQ,_,f',o',rfl,hI,hS,by rw[ku,<-HN.o];exact hR⟩)
   clear hI hS hR;go_wp2_with fail;go_ret;exact hfin.o
def ql5 (h:AN w o l H vc vo vw vf f)(hw:H.wf) :
  Ab ANa 120 #[Ah (some ⟨l.h,0,none⟩)] w (SP w o l H.A4.1 H.A4.2 vo vw):=by
 cases hm:H.AK with
 | true=>exact qqg h hw hm
 | false =>
  have e0:H.A4=(H,[]):=by unfold Hp.A4;rw[hm];simp
  rw[e0];have HM:=xc h;rw[hm]at HM;replace HM:=Qa HM;have hfin:=Qa (show SP w o l H [] vo vw (O (Ai none 0 0)) w from ⟨_,vc,vf,f,o,rfl,h,Stp.refl _ _ _,Row.nil _ _ _ _ _⟩);clear h hw hm e0;go_in;go_wp2_with fail;refine HM.o.mono ?_;rintro e w1 ⟨rfl,rfl⟩;go_wp2_with fail;go_ret;exact hfin.o
end
def solo (v:Ac):Own:=fun b=>if v.ownBlock=some b then (1,0) else (0,0)
def Row.solo {w:Aa}{o:Own}{t:Tag}{e:TypeId}{size n:Nat}{v:Ac}{xs:List Ac}(h:Row w o t e size v n xs):Row w (solo v) (1,0) e size v n xs:=
 ⟨h.own,fun k hk=>by unfold Go.Proofs.YtgndecmkhhdkjaaGreat.solo;rw[if_pos hk]⟩
def Row.PZ {w wr w8:Aa}{o o':Own}{T:Tag->Prop}{tg:Tag}{e:TypeId}{size n n':Nat}{v v':Ac}{xs xs':List Ac}(hr:Row wr o' tg e size v n xs)
  (hown:Row w8 (ext (Go.Proofs.YtgndecmkhhdkjaaGreat.solo v) wr.1.size (1,0)) (1,0) e size v' n' xs')(hst:Stp (fun t=>t=(1,0)) (Go.Proofs.YtgndecmkhhdkjaaGreat.solo v) (ext (Go.Proofs.YtgndecmkhhdkjaaGreat.solo v) wr.1.size (1,0)) wr w8)
  (hS:Stp T o o' w wr)(hge:∀ b,v.ownBlock=some b->w.1.size<=b) :
  Row w8 (ext o' wr tg) tg e size v' n' xs'/\Stp (fun t=>t=tg) o' (ext o' wr tg) wr w8/\Stp T o (ext o' wr tg) w w8/\∀ b,v'.ownBlock=some b->w.1.size<=b:=by
 have h0:∀ k,v'.ownBlock=some k->k<wr.1.size->v.ownBlock=some k:=fun k hk hlt=>by
  have h1:=hown.tag k hk;rw[qk hlt]at h1;unfold Go.Proofs.YtgndecmkhhdkjaaGreat.solo at h1;split at h1
  ·assumption
  ·simp at h1
 have hbl:∀ b,b<wr.1.size->v.ownBlock≠some b->w8.heap[b]?=wr.heap[b]?:=fun b hb hn=>hst.block b hb (by unfold Go.Proofs.YtgndecmkhhdkjaaGreat.solo;rw[if_neg hn];simp)
 refine⟨⟨hown.own,fun k hk=>?_⟩,⟨hst.os,hst.tape,hst.output,hst.size,fun b hb=>qk hb,fun b hb hn=>hbl b hb fun h=>hn (hr.tag b h)⟩,⟨hst.os.trans hS.os,hst.tape.trans hS.tape,hst.output.trans hS.output,Qo hS.size hst.size,fun b hb=>(qk (Qn hb hS.size)).trans (hS.tags b hb),fun b hb hn=>?_⟩,fun b hb=>?_⟩
 ·rcases aT k wr with h|h
  ·rw[qk h];exact hr.tag k (h0 k hk h)
  ·exact qq h
 ·refine (hbl b (Qn hb hS.size) fun h=>?_).trans (hS.block b hb hn)
  have:=hge b h;omega
 ·rcases aT b wr with h|h
  ·exact hge b (h0 b hb h)
  ·exact Qo hS.size h
def Wq:∀ (l:List Nat)(p:Nat)(H:Hp),H.AV (l++[p])=(((H.AV l).1.drop1 p).1,(H.AV l).2++((H.AV l).1.drop1 p).2)
 | [],p,H=>by show ((H.drop1 p).1,(H.drop1 p).2++[])=((H.drop1 p).1,[]++(H.drop1 p).2);simp
 | q::l,p,H=>by
  have:=Wq l p (H.drop1 q).1;show ((((H.drop1 q).1.AV (l++[p])).1,(H.drop1 q).2++((H.drop1 q).1.AV (l++[p])).2):Hp×List Nat)=(((((H.drop1 q).1.AV l).1.drop1 p)).1,((H.drop1 q).2++((H.drop1 q).1.AV l).2)++(((H.drop1 q).1.AV l).1.drop1 p).2);rw[this,Ad]
def qqc (H:Hp)(p:Nat):(H.drop1 p).2.length<=1:=by
 unfold Hp.drop1
 (repeat' split)<;>simp
def rv:∀ (l:List Nat)(H:Hp),(H.AV l).2.length<=l.length
 | [],_=>Qk _
 | p::l,H=>by
  have h1:=qqc H p;have h2:=rv l (H.drop1 p).1;show ((H.drop1 p).2++((H.drop1 p).1.AV l).2).length<=l.length+1;rw[Qd];omega
section
variable {w w' : Aa} {o : Own} {l : Bn} {H : Hp} {vc vo vw vf : Ac} {f : Nat -> Nat}
def AN.Tz {o':Own}(h:AN w o l H vc vo vw vf f)(hs:Stp (fun t=>t=DR l) o o' w w'):AN w' o' l H vc vo vw vf f:=by
 have hn:∀ j,¬(l.id,j)=DR l:=fun j=>by simp
 exact⟨h.hb.Ar hs (by rw[h.oh];exact hn _),h.Cr.Ar hs (by rw[h.oa];exact hn _) (by rw[h.ow];exact hn _),h.rc.Ar hs (hn _),h.ro.Ar hs (hn _),h.rw.Ar hs (hn _),h.rf.Ar hs (hn _),
  (hs.tags _ h.hb.lt).trans h.oh,(hs.tags _ h.Cr.Cm.lt).trans h.oa,(hs.tags _ h.Cr.lt).trans h.ow,h.Fb,h.Ch,h.zr⟩
def Si (w:Aa)(o:Own)(l:Bn)(H':Hp)(ps:List Nat)(vo vw vf:Ac)(v:Ac)(w':Aa):Prop:=
 ∃ bQ f' o',AN w' o' l H' bQ vo vw vf f'/\Stp (zg l) o o' w w'/\Row w' o' (DR l) 3 1 v ps.length (ps.map nv)/\∀ b,v.ownBlock=some b->w.1.size<=b
end
section
variable {w w' : Aa} {o : Own} {l : Bn} {H : Hp} {vc vo vw vf : Ac} {f : Nat -> Nat}
def AN.Kn (h:AN w o l H vc vo vw vf f){w':Aa}(hb:An w' l.h (H.rest.cells l.a vc (Ai none 0 0) vw vf) 141)(hs:Stp (fun t=>t=(l.id,0)) o o w w'):AN w' o l H.rest vc (Ai none 0 0) vw vf f:=by
 have hn:∀ j,j≠0->¬(l.id,j)=(l.id,0):=fun j hj e=>hj (by simpa using e)
 exact⟨hb,h.Cr.Ar hs (by rw[h.oa];exact hn _ (by omega)) (by rw[h.ow];exact hn _ (by omega)),h.rc.Ar hs (hn _ (by split<;>omega)),Row.nil _ _ _ _ _,h.rw.Ar hs (hn _ (by omega)),h.rf.Ar hs (hn _ (by omega)),h.oh,h.oa,h.ow,h.Fb,fun x hx=>(by cases hx),h.zr⟩
def dw (w:Aa)(o:Own)(l:Bn)(H':Hp)(ps:List Nat)(ok:Bool)(e:Ending)(w':Aa):Prop:=
 ∃ v bQ vo' eY dY f' o',e=O (Ak #[v,ok])/\AN w' o' l H' bQ vo' eY dY f'/\Stp (zg l) o o' w w'/\Row w' o' (DR l) 3 1 v ps.length (ps.map nv)
def LM (h:AN w o l H vc vo vw vf f) (hw:H.wf) (hm:H.AK=true) (hsc:H.scan=H.top) :
  Ab ANa 184 #[Ah (some ⟨l.h,0,none⟩)] w (dw w o l H.drop.1 H.drop.2.1 H.drop.2.2):=by
 have e0:H.drop=((H.settled.AV H.settled.AA).1.rest,(H.settled.AV H.settled.AA).2,true):=by unfold Hp.drop;rw[if_neg (by rw[hm,hsc];simp)]
 rw[e0];clear e0;have hsl:=kw H H.AA;have hsl2:=kw H H.final;have hfl:=hw.fl;have hwl:=hw.wl;have hse:=hw.ok.Bc;have hk:=hw.ok;have hw2:=Hp.DV hw;have HM:=xc h;rw[hm]at HM;replace HM:=Qa HM;have HD:=uw h;rw[decide_eq_true hsc]at HD;replace HD:=Qa HD;have HI:=Qa h;have gG:=Qa (fun (W:Aa) (o1:Own) (h1:AN W o1 l H vc vo vw vf f)=>sn h1 hk H.AA (by omega) h1.rw.ints)
 have HS2:=Qa (fun (W:Aa) (o1:Own) (vw1:Ac) (h1:AN W o1 l { H with AA:=H.stay H.AA } vc vo vw1 vf f)=>sn h1 (H:={ H with AA:=H.stay H.AA }) ⟨hk.sz,hk.cl,hk.ck,hk.ol,hk.ok,hk.ot,hk.still,hk.GL,hk.room,hk.Bc,hk.CE,hk.gone⟩ H.final (by omega) h1.rf.ints)
 have uV:∀ q,({ H with AA:=H.stay H.AA }:Hp).stay q=H.stay q:=fun q=>rfl
 have uQ:∀ q,({ H with AA:=H.stay H.AA }:Hp).B6 q=H.B6 q:=fun q=>rfl
 simp only[uV,uQ]at HS2;have oL:=Qa (fun p (hp:p ∈ H.stay H.AA)=>US hw hp)
 obtain⟨st,hst⟩:=Ja0 (H.stay H.AA);obtain⟨sf,hsf⟩:=Ja0 (H.stay H.final);obtain⟨H2,hH2⟩:∃ H2:Hp,H2=H.settled:=⟨_,rfl⟩;have vM:=Qa (show H2={ H with AA:=st,final:=sf } by rw[hH2,hst,hsf];rfl)
 have e1:H2.AA=st:=by rw[hH2,hst];rfl
 have e2:H2.cur=H.cur:=by rw[hH2];rfl
 rw[<-hH2]at hw2 ⊢;rw[e1];rw[<-hst]at gG HS2 oL hsl;rw[<-hsf]at HS2 hsl2;rw[<-e2]at oL;have HW:=Qa hw2;have mQ:st.length<=1099511627776:=by omega
 obtain⟨n,hn⟩:=Ja0 st.length;have HN:=Qa hn;rw[<-hn]at mQ;have uS:(n:Int)<=1099511627776:=by omega
 obtain⟨iI,hi,hsI,cK,bZ⟩:=zm;have hu64:=underlying23;clear h hw hm hsc hsl hsl2 hfl hwl hse hk hw2 uV uQ hst hsf hH2 hn e1 e2;go_in;go_wp2_with fail;refine HM.o.mono ?_
 rintro e w1 ⟨rfl,rfl⟩
 go_wp2_with fail;refine HD.o.mono ?_
 rintro e w1 ⟨rfl,hb1⟩
 have hI0:=HI.o.below hb1;have Lf:=hI0.Lf;have HI0:=Qa hI0;clear hI0;go_wp2_with fail;refine (gG.o _ _ HI0.o).mono ?_
 rintro e w2 ⟨v1,v2,o',rfl,hr1,_,hs1⟩
 have hb2:=T2.below hs1;have hr1:=hr1.Pw hs1 o (l.id,5) (DR l);obtain⟨o1,ho1⟩:=Ja0 (mix o o' w1 (l.id,5) (DR l));rw[<-ho1]at hr1;have ht1:∀ b,b<w1.1.size->o1 b=o b:=fun b hb=>by rw[ho1];exact U3 hb
 have hI1:AN w2 o1 l H vc vo vw vf f:=(HI0.o.retag ht1).below hb2;have hS1:Stp (zg l) o o1 w w2:=(Stp.of_below hb1).trans ⟨hb2.os,hb2.tape,hb2.output,hb2.size,ht1,fun b hb _=>hb2.block b hb⟩
 clear ho1 hs1 ht1 Lf hb2;have Lf:=hI1.Lf;have z14:=hI1.hb.free 14;have s14:=hI1.hb.lt;obtain⟨pa,cp,rfl⟩:=hr1.A6;rw[<-HN.o]at hr1 ⊢;go_upto_region 4 with fail;obtain⟨W,hW⟩:=Ja0 (w2.setCell ⟨l.h,14,none⟩ (.slice pa n cp));rw[HN.o]at hr1;have zD:AN W o1 l { H with AA:=st } vc vo (.slice pa n cp) vf f:=by rw[hW];rw[<-HN.o]at hr1;exact hI1.MX (by rw[<-HN.o];exact hr1)
 have hSW:Stp (zg l) o o1 w W:=by rw[hW];exact hS1.setCell (by show zg l (o1 l.h);rw[hI1.oh];exact⟨rfl,by simp⟩) _
 rw[<-hW];clear hW hr1 hI1 hS1 Lf z14 s14 hb1;have GJ:=zD.GJ;have HIW:=Qa zD;clear zD;go_wp2_with fail;refine (HS2.o _ _ _ HIW.o).mono ?_
 rintro e w3 ⟨v3,v4,o'',rfl,hr3,_,hs3⟩
 have hb3:=T2.below hs3;have hr3:=hr3.Pw hs3 o1 (l.id,6) (DR l);obtain⟨o3,ho3⟩:=Ja0 (mix o1 o'' W (l.id,6) (DR l));rw[<-ho3]at hr3;have ht3:∀ b,b<W.1.size->o3 b=o1 b:=fun b hb=>by rw[ho3];exact U3 hb
 have zC:AN w3 o3 l { H with AA:=st } vc vo (.slice pa n cp) vf f:=(HIW.o.retag ht3).below hb3;have cZ:Stp (zg l) o o3 w w3:=hSW.trans ⟨hb3.os,hb3.tape,hb3.output,hb3.size,ht3,fun b hb _=>hb3.block b hb⟩
 clear ho3 hs3 ht3 GJ hb3 hSW;have GJ:=zC.GJ;have z15:=zC.hb.free 15;have s15:=zC.hb.lt;obtain⟨pa3,cp3,rfl⟩:=hr3.A6;obtain⟨v3,hv3⟩:=Ja0 (Value.slice pa3 sf.length cp3);have HV3:=Qa hv3;go_upto_region 5 with fail;obtain⟨W4,dX⟩:=Ja0 (w3.setCell ⟨l.h,15,none⟩ v3);have kT:AN W4 o3 l H2 vc vo (.slice pa n cp) v3 f:=by rw[dX,vM.o,HV3.o];exact zC.Fz hr3
 have dQ:Stp (zg l) o o3 w W4:=by rw[dX];exact cZ.setCell (by show zg l (o3 l.h);rw[zC.oh];exact⟨rfl,by simp⟩) _
 rw[<-hv3,<-dX];clear dX hv3 hr3 zC cZ GJ z15 s15;have Lf:=kT.Lf;have hD4:Si w o l (H2.AV (st.take 0)).1 (H2.AV (st.take 0)).2 vo (.slice pa n cp) v3 (Ai none 0 0) W4:=⟨vc,f,o3,kT,dQ,Row.nil _ _ _ _ _,fun b hb=>by simp[Value.ownBlock]at hb⟩
 clear kT dQ;go_wp2_with fail;clear Lf;go_loopw [4,51] (fun v ix wr=>∃ k:Nat,ix=.int .i64 k/\k<=n/\Si w o l (H2.AV (st.take k)).1 (H2.AV (st.take k)).2 vo (.slice pa n cp) v3 v wr) (fun _ ix _=>n-(intOf ix).toNat)
 case atStart=>exact⟨0,rfl,by omega,hD4⟩
 case round =>
  obtain⟨k,rfl,hkn,bQ,f',o',hI,hS,hR,hG⟩:=hrel;clear hD4;by_cases hlt:k<n
  ·have eG:(k:Int)<(n:Int):=by omega
   have Aln:(k:Int)<1099511627776:=by omega
   obtain⟨x,hx⟩:∃ x,st[k]?=some x:=⟨_,Qb (by rw[<-HN.o];omega)⟩
   have htk:=ke hx;have hwk:=Hp.DZ (st.take k) HW.o;have hsn:=Wq (st.take k) x H2;rw[<-htk]at hsn;have hll:=rv (st.take k) H2;obtain⟨ob,bY,hp1⟩:=bp (st.take k) (oL.o x (Qe hx));have hsw:(H2.AV (st.take k)).1.AA=st:=by rw[(uq _ _).2.1,vM.o]
   have htl:(st.take k).length=k:=by rw[Qp,<-HN.o];omega
   have nO:=Qa hsn;generalize H2.AV (st.take k)=r at *;obtain⟨Hk,ls⟩:=r;simp only at hI hR hwk hll bY nO hsw;have kY:ls.length<=1099511627776:=by omega
   have HL:=Qa (Jz kY);have hrw:=hI.rw;rw[hsw,<-HN.o]at hrw;rcases hrw.shape with ⟨_,h0⟩|⟨g,c,e1,hnc,hcm⟩
   ·omega
   ·injection e1 with e1 _ e3
    subst e1 e3;have cx:wr.cell? ⟨g,k,none⟩=some (.int .i64 x):=hrw.cells k _ (by rw[Qj,hx];rfl)
    have ho:=hwk.Ek bY;obtain⟨y,hy⟩:∃ y,ob.AB[0]?=some y:=⟨_,Qb (by rw[ho.lp];omega)⟩
    obtain⟨ha,_,hl,_⟩:=hI.at_ hwk.ok bY;have vS:=Qa (ce hI.Cr ha ho hl 0 y hy x 0 rfl rfl);have tO:=Qa (fun w4 (hb:Ae wr wr w4)=>(hI.below hb).c0);have gU:=fun w4 (hb:Ae wr wr w4)=>rj (hI.below hb) hwk.ok y;have c0:=hI.c0;obtain⟨pl,cl,rfl⟩:=hR.A6;have jJ:Hk.drop1 x=match Be Hk.old y with|none=>(Hk,[])|some (_,some q)=>({ Hk with cur:=up Hk.cur x (ob.Bh 0 q) },[])|some (_,none)=>({ Hk with cur:=up Hk.cur x (ob.Bh 0 0) },[ob.Ap]):=by
     unfold Hp.drop1;rw[bY];simp only;rw[hy];rfl
    have qA:=Qa hI;have iY:=Qa hS;have HRR:=Qa hR;have HGG:=Qa hG;have HWK:=Qa hwk;have HOB:=Qa bY;have HSz:=Qa (show 0<ob.AL.p from hp1)
    cases hlo:Be Hk.old y with
    | none =>
     rw[hlo]at jJ gU;have gU:=Qa gU;have rD:=Qa jJ;clear hsn htk hwk hll bY hp1 hsw htl hI hS hR hG hrw ho hy ha hl hx jJ hlo kY;go_wp2_with fail;refine vS.o.mono ?_;rintro e w5 ⟨rfl,hb5⟩;go_wp2_with fail;refine (gU.o _ hb5).mono ?_;rintro e w6 ⟨rfl,hb6⟩;have hb:=qe hb5 hb6;go_wp2_with fail;go_roundw
     case rel=>exact⟨k+1,by simp,by omega,by rw[nO.o,rD.o];simp only[aG];exact⟨bQ,f',o',qA.o.below hb,iY.o.trans (Stp.of_below hb),HRR.o.below hb,HGG.o⟩⟩
     case measure=>simp[intOf];omega
    | some z =>
     obtain⟨oo,gq⟩:=z;rw[hlo]at jJ gU;have gU:=Qa gU;have rD:=Qa jJ
     cases gq with
     | some q =>
      have hq:=hwk.ok.gone _ (zy hlo) q rfl;have vH:=Qa (fun w4 (hb:Ae wr wr w4)=>Yz (hI.below hb) hwk.ok hlo);have qD:=Qa (fun w4 (hb:Ae wr wr w4)=>xu (hI.Cr.below hb) ha ho hl 0 q hp1 hq.2 x 0 q rfl rfl rfl);have lU:=Qa (fun w4 w5 (hb:Ae wr wr w4) hT=>(hI.below hb).EF (w':=w5) hwk.ok bY (k:=3+0) (by unfold Ob.size;omega) hT (by rw[show x+(3+0)=x+3+0 from by omega];exact ha.Bh ho 0 q hp1))
      rw[show x+(3+0)=x+3+0 from by omega]at lU
      clear hsn htk hwk hll bY hp1 hsw htl hI hS hR hG hrw ho hy ha hl hx jJ hlo kY hq;go_wp2_with fail;refine vS.o.mono ?_;rintro e w5 ⟨rfl,hb5⟩;go_wp2_with fail;refine (gU.o _ hb5).mono ?_;rintro e w6 ⟨rfl,hb6⟩;have hb:=qe hb5 hb6;clear c0;have c0:=tO.o _ hb;go_wp2_with fail;refine (vH.o _ hb).mono ?_;rintro e w7 ⟨rfl,rfl⟩;go_wp2_with fail;refine (qD.o _ hb).mono ?_;rintro e w8 ⟨rfl,kU⟩;have hfin:=Qa (show Si w o l (H2.AV (st.take (k+1))).1 (H2.AV (st.take (k+1))).2 vo (Ai (some ⟨g,0,none⟩) n cp) v3 (.slice pl ls.length cl) w8 from by
       rw[nO.o,rD.o];simp only[aG];obtain⟨yC,f8,o8,h8,s8⟩:=lU.o _ _ hb kU;refine⟨yC,f8,o8,h8,(iY.o.trans (Stp.of_below hb)).trans s8,(HRR.o.below hb).Ar s8 (RN l),HGG.o⟩)
      clear kU c0;go_wp2_with fail;go_roundw
      case rel=>exact⟨k+1,by simp,by omega,hfin.o⟩
      case measure=>simp[intOf];omega
     | none =>
      have vH:=Qa (fun w4 (hb:Ae wr wr w4)=>YD (hI.below hb) hwk.ok hlo);have qD:=Qa (fun w4 (hb:Ae wr wr w4)=>xu (hI.Cr.below hb) ha ho hl 0 0 hp1 (by omega) x 0 0 rfl rfl rfl)
      have lU:=Qa (fun w4 w5 (hb:Ae wr wr w4) hT=>(hI.below hb).EF (w':=w5) hwk.ok bY (k:=3+0) (by unfold Ob.size;omega) hT (by rw[show x+(3+0)=x+3+0 from by omega];exact ha.Bh ho 0 0 hp1))
      rw[show x+(3+0)=x+3+0 from by omega]at lU
      have hlk2:lk (up Hk.cur x (ob.Bh 0 0)) x=some (ob.Bh 0 0):=by rw[ND,if_pos rfl,bY];rfl
      have hw2:=PS hwk bY (dH:=ob.Bh 0 0) (Ob.Cw ho 0 0 (by omega)) rfl
      have HSr:=Qa (fun w4 vc4 f4 o4 (h4:AN w4 o4 l { Hk with cur:=up Hk.cur x (ob.Bh 0 0) } vc4 vo (Ai (some ⟨g,0,none⟩) n cp) v3 f4)=>show Ab ANa 80 #[Ah (some ⟨l.a,0,none⟩),.int .i64 x] w4 fun e w'=>e=O (Ak #[.int .i64 ob.Ap,.int .i64 0])/\Ae w4 w4 w' from by
       obtain⟨ha4,ho4,hl4,_⟩:=h4.at_ hw2.ok hlk2;exact bc h4.Cr ha4 ho4 hl4 x rfl)
      clear hsn htk hwk hll bY hp1 hsw htl hI hS hR hG hrw ho hy ha hl hx jJ hlo kY hlk2 hw2;go_wp2_with fail;refine vS.o.mono ?_;rintro e w5 ⟨rfl,hb5⟩;go_wp2_with fail;refine (gU.o _ hb5).mono ?_;rintro e w6 ⟨rfl,hb6⟩;have hb:=qe hb5 hb6;clear c0;have c0:=tO.o _ hb;go_wp2_with fail;refine (vH.o _ hb).mono ?_;rintro e w7 ⟨rfl,rfl⟩;go_wp2_with fail;refine (qD.o _ hb).mono ?_;rintro e w8 ⟨rfl,kU⟩;obtain⟨yC,f8,o8,h8,s8⟩:=lU.o _ _ hb kU;have H8:=Qa h8;have S8:=Qa ((iY.o.trans (Stp.of_below hb)).trans s8);have R8:=Qa ((HRR.o.below hb).Ar s8 (RN l));clear kU c0 s8;have c0:=h8.c0;clear h8;go_wp2_with fail;refine (HSr.o _ _ _ _ H8.o).mono ?_;rintro e w9 ⟨rfl,fC⟩;clear c0;have R9:=Qa (R8.o.below fC).solo;go_wp2_with (first|(at_builtin;refine qg _ rfl _ _ _ rfl 3 iI _ 1 8 hu64 hi bZ hsI cK rfl (by decide) (solo (.slice pl ls.length cl)) (1,0) _ _ _ rfl (Row.below R9.o (qc (qd w9) _)) ⟨w9,0,none⟩ 1 1 [.int .i64 ob.Ap] rfl rfl (qx (An.new w9 _ _)) jh HL.o.1 HL.o.2 ?_;intro v' w10 hown hst;obtain⟨pa8,cp8,rfl⟩:=hown.A6)|fail)
      have hfin:=Qa (show Si w o l (H2.AV (st.take (k+1))).1 (H2.AV (st.take (k+1))).2 vo (Ai (some ⟨g,0,none⟩) n cp) v3 (.slice pa8 (ls.length+1) cp8) w10 from by
       rw[nO.o,rD.o];have hB:=qe fC (qc (qd w9) (.cells #[.int .i64 ob.Ap] 3));obtain⟨q1,q2,q3,q4⟩:=Row.PZ (R8.o.below hB) hown hst (S8.o.trans (Stp.of_below hB)) HGG.o;refine⟨yC,f8,_,(H8.o.below hB).Tz q2,q3,?_,q4⟩;rw[Qd,wb];exact q1)
      clear hown hst;go_roundw
      case rel=>exact⟨k+1,by simp,by omega,hfin.o⟩
      case measure=>simp[intOf];omega
  ·obtain rfl:k=n:=by omega
   rw[HN.o,aA]at hI hR;rw[<-HN.o]at hI;have hwk:=(Hp.DZ st HW.o).ok;have hll:=rv st H2;generalize hr:H2.AV st=r at *;obtain⟨Hk,ls⟩:=r;simp only at hI hR hwk hll;obtain⟨pl,cl,rfl⟩:=hR.A6;have hsz:=hwk.sz;have hol:=pi _ _ _ hwk.ol;have hot:=hwk.ot;have hb0:=Hk.Bt (!Hk.use);clear hr hwk hG hlt;rcases (show Hk.use=false\/Hk.use=true by cases Hk.use<;>simp) with hu|hu
   ·have hb:=hI.Et hu
    have dN:∀ sz tp CE dB:Nat,sz=Hk.size->tp=Hk.top->CE=Hk.scan->dB=Hk.Ap->Hk.rest.cells l.a bQ (Ai none 0 0) (.slice pa k cp) v3=#[Ah (some ⟨l.a,0,none⟩),.int .i64 1,.int .i64 sz,.int .i64 tp,.int .i64 (1+(sz:Int)),.int .i64 sz,.int .i64 (1+(sz:Int)),bQ,Ai none 0 0,.int .i64 0,false,.int .i64 0,.int .i64 CE,.int .i64 dB,.slice pa k cp,v3]:=fun sz tp CE dB e1 e2 e3 e4=>by
     subst e1 e2 e3 e4;unfold Hp.cells Hp.rest Hp.base;simp[hu]
    have HE:=(fun W=>fe (b:=Hk.base (!Hk.use)) (s:=Hk.size) (t:=Hk.Ca) ⟨by omega,by omega,by omega,by omega⟩ W)
    unfold DN at HE;rw[show (Hk.base (!Hk.use):Int)=(1+(Hk.size:Int)) from by rw[hu];show ((1+Hk.size:Nat):Int)=_;omega]at HE
    replace HE:=Qa HE;generalize hg1:Hk.size=sz at hb HE dN;generalize hg2:Hk.top=tp at hb dN;generalize hg3:Hk.Ca=eP at hb HE;generalize hg4:Hk.Bv=dF at hb;generalize hg5:Hk.scan=CE at hb dN;generalize zK:Hk.Ap=dB at hb dN;generalize hg7:Hk.AK=mv at hb;have HFC:=Qa (dN sz tp CE dB rfl rfl rfl rfl);have qA:=Qa hI;have iY:=Qa hS;have HRR:=Qa hR;clear dN hg1 hg2 hg3 hg4 hg5 zK hg7 hI hS hR hu;have c:=hb.cell;have z:=hb.free;have s:=hb.lt;go_upto_region 18 with fail;go_cut [] (fun wx=>An wx l.h #[Ah (some ⟨l.a,0,none⟩),.int .i64 1,.int .i64 sz,.int .i64 tp,.int .i64 (1+(sz:Int)),.int .i64 sz,.int .i64 (1+(sz:Int)),bQ,vo,.int .i64 0,mv,.int .i64 dF,.int .i64 CE,.int .i64 dB,.slice pa k cp,v3] 141/\Wr l.h wr wx)
    case first =>
     go_region_with (first|(go_at_call 118;refine (HE.o _).mono ?_;rintro e w4 ⟨rfl,hb4⟩;have j4:=An.below (qj hb) hb4 (qj hb).lt;have c4:=j4.cell;have z4:=j4.free;have s4:=j4.lt)|fail)
     all_goals
      go_wp2_with fail;go_meet;exact⟨by simpa using ((j4.set 4 _).set 5 _).set 6 _,(((Wr.of_below (qf (qd wr))).trans (Wr.of_below hb4)).trans (Wr.set _ _ _ _)).trans ((Wr.set _ _ _ _).trans (Wr.set _ _ _ _))⟩
    case rest =>
     obtain⟨j2,r2⟩:=hcut;clear c z s hb;have c:=j2.cell;have z:=j2.free;have s:=j2.lt;have hfin:=Qa (show dw w o l Hk.rest ls true (O (Ak #[.slice pl ls.length cl,true])) (((wc.setCell ⟨l.h,8,none⟩ (Ai none 0 0)).setCell ⟨l.h,10,none⟩ (.bool false)).setCell ⟨l.h,11,none⟩ (.int .i64 0)) from by
      have j3:An (((wc.setCell ⟨l.h,8,none⟩ (Ai none 0 0)).setCell ⟨l.h,10,none⟩ (.bool false)).setCell ⟨l.h,11,none⟩ (.int .i64 0)) l.h #[Ah (some ⟨l.a,0,none⟩),.int .i64 1,.int .i64 sz,.int .i64 tp,.int .i64 (1+(sz:Int)),.int .i64 sz,.int .i64 (1+(sz:Int)),bQ,Ai none 0 0,.int .i64 0,false,.int .i64 0,.int .i64 CE,.int .i64 dB,.slice pa k cp,v3] 141:=by simpa using ((j2.set 8 (Ai none 0 0)).set 10 (.bool false)).set 11 (.int .i64 0)
      rw[<-HFC.o]at j3;have hs:Stp (fun t=>t=(l.id,0)) o' o' wr (((wc.setCell ⟨l.h,8,none⟩ (Ai none 0 0)).setCell ⟨l.h,10,none⟩ (.bool false)).setCell ⟨l.h,11,none⟩ (.int .i64 0)):=Stp.Ci (((r2.trans (Wr.set _ _ _ _)).trans (Wr.set _ _ _ _)).trans (Wr.set _ _ _ _)) qA.o.oh;exact⟨_,bQ,_,_,_,f',o',rfl,qA.o.Kn j3 hs,iY.o.trans (hs.mono (by rintro _ rfl;exact⟨rfl,by simp⟩)),HRR.o.Ar hs (by simp)⟩)
     clear j2 r2;go_wp2_with fail;go_ret2;exact hfin.o
   ·have hb:=hI.Eu hu
    have dN:∀ sz tp CE dB:Nat,sz=Hk.size->tp=Hk.top->CE=Hk.scan->dB=Hk.Ap->Hk.rest.cells l.a bQ (Ai none 0 0) (.slice pa k cp) v3=#[Ah (some ⟨l.a,0,none⟩),.int .i64 1,.int .i64 sz,.int .i64 1,.int .i64 (1+(sz:Int)),.int .i64 sz,.int .i64 tp,Ai none 0 0,bQ,.int .i64 1,false,.int .i64 0,.int .i64 CE,.int .i64 dB,.slice pa k cp,v3]:=fun sz tp CE dB e1 e2 e3 e4=>by
     subst e1 e2 e3 e4;unfold Hp.cells Hp.rest Hp.base;simp[hu]
    have HE:=(fun W=>fe (b:=Hk.base (!Hk.use)) (s:=Hk.size) (t:=Hk.Ca) ⟨by omega,by omega,by omega,by omega⟩ W)
    unfold DN at HE;rw[show (Hk.base (!Hk.use):Int)=1 from by rw[hu];rfl]at HE
    replace HE:=Qa HE;generalize hg1:Hk.size=sz at hb HE dN;generalize hg2:Hk.top=tp at hb dN;generalize hg3:Hk.Ca=eP at hb HE;generalize hg4:Hk.Bv=dF at hb;generalize hg5:Hk.scan=CE at hb dN;generalize zK:Hk.Ap=dB at hb dN;generalize hg7:Hk.AK=mv at hb;have HFC:=Qa (dN sz tp CE dB rfl rfl rfl rfl);have qA:=Qa hI;have iY:=Qa hS;have HRR:=Qa hR;clear dN hg1 hg2 hg3 hg4 hg5 zK hg7 hI hS hR hu;have c:=hb.cell;have z:=hb.free;have s:=hb.lt;go_upto_region 18 with fail;go_cut [] (fun wx=>An wx l.h #[Ah (some ⟨l.a,0,none⟩),.int .i64 1,.int .i64 sz,.int .i64 1,.int .i64 (1+(sz:Int)),.int .i64 sz,.int .i64 tp,vo,bQ,.int .i64 1,mv,.int .i64 dF,.int .i64 CE,.int .i64 dB,.slice pa k cp,v3] 141/\Wr l.h wr wx)
    case first =>
     go_region_with (first|(go_at_call 118;refine (HE.o _).mono ?_;rintro e w4 ⟨rfl,hb4⟩;have j4:=An.below (qj hb) hb4 (qj hb).lt;have c4:=j4.cell;have z4:=j4.free;have s4:=j4.lt)|fail)
     all_goals
      go_wp2_with fail;go_meet;exact⟨by simpa using ((j4.set 1 _).set 2 _).set 3 _,(((Wr.of_below (qf (qd wr))).trans (Wr.of_below hb4)).trans (Wr.set _ _ _ _)).trans ((Wr.set _ _ _ _).trans (Wr.set _ _ _ _))⟩
    case rest =>
     obtain⟨j2,r2⟩:=hcut;clear c z s hb;have c:=j2.cell;have z:=j2.free;have s:=j2.lt;have hfin:=Qa (show dw w o l Hk.rest ls true (O (Ak #[.slice pl ls.length cl,true])) (((wc.setCell ⟨l.h,7,none⟩ (Ai none 0 0)).setCell ⟨l.h,10,none⟩ (.bool false)).setCell ⟨l.h,11,none⟩ (.int .i64 0)) from by
      have j3:An (((wc.setCell ⟨l.h,7,none⟩ (Ai none 0 0)).setCell ⟨l.h,10,none⟩ (.bool false)).setCell ⟨l.h,11,none⟩ (.int .i64 0)) l.h #[Ah (some ⟨l.a,0,none⟩),.int .i64 1,.int .i64 sz,.int .i64 1,.int .i64 (1+(sz:Int)),.int .i64 sz,.int .i64 tp,Ai none 0 0,bQ,.int .i64 1,false,.int .i64 0,.int .i64 CE,.int .i64 dB,.slice pa k cp,v3] 141:=by simpa using ((j2.set 7 (Ai none 0 0)).set 10 (.bool false)).set 11 (.int .i64 0)
      rw[<-HFC.o]at j3;have hs:Stp (fun t=>t=(l.id,0)) o' o' wr (((wc.setCell ⟨l.h,7,none⟩ (Ai none 0 0)).setCell ⟨l.h,10,none⟩ (.bool false)).setCell ⟨l.h,11,none⟩ (.int .i64 0)):=Stp.Ci (((r2.trans (Wr.set _ _ _ _)).trans (Wr.set _ _ _ _)).trans (Wr.set _ _ _ _)) qA.o.oh;exact⟨_,bQ,_,_,_,f',o',rfl,qA.o.Kn j3 hs,iY.o.trans (hs.mono (by rintro _ rfl;exact⟨rfl,by simp⟩)),HRR.o.Ar hs (by simp)⟩)
     clear j2 r2;go_wp2_with fail;go_ret2;exact hfin.o
def Hv (h:AN w o l H vc vo vw vf f)(hw:H.wf) :
  Ab ANa 184 #[Ah (some ⟨l.h,0,none⟩)] w (dw w o l H.drop.1 H.drop.2.1 H.drop.2.2):=by
 by_cases hm:H.AK=false\/H.scan≠H.top
 ·have e0:H.drop=(H,[],false):=by unfold Hp.drop;rw[if_pos hm]
  rw[e0];have hfin:=Qa (fun w' (hb:Ae w w w')=>show dw w o l H [] false (O (Ak #[Ai none 0 0,false])) w' from ⟨_,vc,vo,vw,vf,f,o,rfl,h.below hb,Stp.of_below hb,Row.nil _ _ _ _ _⟩);have HM:=xc h;have HD:=uw h;generalize H.AK=mv at HM hm;replace HM:=Qa HM
  cases mv
  ·clear h hw hm e0 HD
   go_in;go_wp2_with fail;refine HM.o.mono ?_;rintro e w1 ⟨rfl,rfl⟩;go_wp2_with fail;go_ret2;exact hfin.o _ (qd _)
  ·have hs:H.scan≠H.top:=hm.resolve_left (by simp)
   rw[decide_eq_false hs]at HD;replace HD:=Qa HD;clear h hw hm e0 hs;go_in;go_wp2_with fail;refine HM.o.mono ?_;rintro e w1 ⟨rfl,rfl⟩;go_wp2_with fail;refine HD.o.mono ?_;rintro e w1 ⟨rfl,hb⟩;go_wp2_with fail;go_ret2;exact hfin.o _ hb
 ·refine LM h hw ?_ ?_
  ·cases hmm:H.AK
   ·exact absurd (.inl hmm) hm
   ·rfl
  ·exact Decidable.byContradiction fun e=>hm (.inr e)
end
section
variable {w w' : Aa} {o o' : Own} {l : Bn} {cy n : Nat} {rd ls : List Nat}
def FK (l:Bn)(t:Tag):Prop:=t.1=l.id/\(t.2<=7\/t.2=8\/t.2=9)
def tq {l:Bn}{t:Tag}(h:zg l t):FK l t:=⟨h.1,.inl (by have:=h.2;omega)⟩
def qq0 {H:Hp}(h:B1 w o l H)(hw:H.wf) :
  Ab ANa 120 #[ptr l.h] w fun e w'=>∃ v o',e=O v/\B1 w' o' l H.A4.1/\Stp (zg l) o o' w w'/\Row w' o' (DR l) 3 1 v H.A4.2.length (H.A4.2.map nv):=by
 obtain⟨vc,vo,vw,vf,f,hh⟩:=h;refine (ql5 hh hw).mono ?_
 rintro e w'⟨v,bQ,dY,f',o',rfl,h',hs,hr⟩
 exact⟨v,o',rfl,⟨bQ,vo,vw,dY,f',h'⟩,hs,hr⟩
def Lu {H:Hp}(h:B1 w o l H)(hw:H.wf) :
  Ab ANa 184 #[ptr l.h] w fun e w'=>∃ v o',e=O (Ak #[v,.bool H.drop.2.2])/\B1 w' o' l H.drop.1/\Stp (zg l) o o' w w'/\Row w' o' (DR l) 3 1 v H.drop.2.1.length (H.drop.2.1.map nv):=by
 obtain⟨vc,vo,vw,vf,f,hh⟩:=h;refine (Hv hh hw).mono ?_
 rintro e w'⟨v,bQ,vo',eY,dY,f',o',rfl,h',hs,hr⟩
 exact⟨v,o',rfl,⟨bQ,vo',eY,dY,f',h'⟩,hs,hr⟩
def YN {n m:Nat}(hn:n<=1099511627776)(hm:m<=1099511627776):n+m<=maxLen/\(n+m)*8<=140737488355328:=by
 simp only[maxLen];omega
def qkf {H:Hp}(hH:B1 w o l H)(hw:H.wf)(h:DO w o l cy 2 rd ls)(h1:ls.length<=1099511627776)(h2:H.drop.2.1.length<=1099511627776) :
  Ab ANa 121 #[ptr cy] w fun e w'=>e=O (.bool true)/\∃ o',B1 w' o' l H.drop.1/\DO w' o' l cy 0 rd (ls++H.drop.2.1)/\Stp (FK l) o o' w w':=by
 obtain⟨iI,hi,hsI,cK,bZ⟩:=zm;have hu64:=underlying23;have n7:¬zg l (l.id,7):=fun hh=>by have:=hh.2;simp at this
 have n8:¬zg l (l.id,8):=fun hh=>by have:=hh.2;simp at this
 have n9:¬zg l (l.id,9):=fun hh=>by have:=hh.2;simp at this
 have HL:=YN h1 h2;have HD:=Qa (Lu hH hw);obtain⟨vr,vl,jc,hr,hl⟩:=h.A3;have oc:=h.oc;have c:=jc.cell;generalize H.drop=D at *;obtain⟨H',lo,ok⟩:=D;simp only at HD HL ⊢;have HC:=Qa (fun (w5:Aa)(o5:Own)(hs:Stp (zg l) o o5 w w5)=>show An w5 cy #[ptr l.h,FR cy 2,vr,vl] 143/\o5 cy=(l.id,7)/\Row w5 o5 (l.id,8) 3 1 vr rd.length (rd.map nv)/\Row w5 o5 (l.id,9) 3 1 vl ls.length (ls.map nv) from
  ⟨jc.Ar hs (by rw[oc];exact n7),(hs.tags _ jc.lt).trans oc,hr.Ar hs n8,hl.Ar hs n9⟩)
 obtain⟨pl,cl,rfl⟩:=hl.A6;have vP:=Qa HL;clear h hH hw hr hl h1 h2 HL;go_in;go_wp2_with fail;refine HD.o.mono ?_
 rintro e w1 ⟨v,o1,rfl,hH1,hs1,hrow⟩
 obtain⟨pv,cv,rfl⟩:=hrow.A6;obtain⟨j1,oc1,r8,r9⟩:=HC.o _ _ hs1;have HH1:=Qa hH1;have gG:=Qa hs1;have HR8:=Qa r8;have HJ1:=Qa j1;have HO1:=Qa oc1;clear c jc oc hH1 hs1 r8;have c:=j1.cell;have z:=j1.free;have s:=j1.lt;go_wp2_with (first|(at_builtin;refine zu _ rfl _ _ _ rfl 3 iI _ 1 8 hu64 hi bZ hsI cK rfl (by decide) o1 (l.id,9) _ ls.length (ls.map nv) rfl r9 o1 (DR l) _ lo.length (lo.map nv) rfl hrow (li _) vP.o.1 vP.o.2 ?_;intro v' w3 hown hst;obtain⟨pa,cp,rfl⟩:=hown.A6;have j3:=HJ1.o.Ar hst (by rw[HO1.o];simp);have c3:=j3.cell;have z3:=j3.free;have s3:=j3.lt)|fail)
 have hfin:=Qa (show ∃ o',B1 ((w3.setCell ⟨cy,3,none⟩ (.slice pa (ls.length+lo.length) cp)).setCell ⟨cy,1,none⟩ .nilFunc) o' l H'/\DO ((w3.setCell ⟨cy,3,none⟩ (.slice pa (ls.length+lo.length) cp)).setCell ⟨cy,1,none⟩ .nilFunc) o' l cy 0 rd (ls++lo)/\Stp (FK l) o o' w ((w3.setCell ⟨cy,3,none⟩ (.slice pa (ls.length+lo.length) cp)).setCell ⟨cy,1,none⟩ .nilFunc) from by
  have o3:ext o1 w1 (l.id,9) cy=(l.id,7):=(hst.tags _ HJ1.o.lt).trans HO1.o;have k:Stp (fun t=>t=(l.id,7)) (ext o1 w1 (l.id,9)) (ext o1 w1 (l.id,9)) w3 ((w3.setCell ⟨cy,3,none⟩ (.slice pa (ls.length+lo.length) cp)).setCell ⟨cy,1,none⟩ .nilFunc):=((Stp.refl _ _ w3).setCell (by show ext o1 w1 (l.id,9) cy=_;exact o3) _).setCell (by show ext o1 w1 (l.id,9) cy=_;exact o3) _
  have hs7:∀ j,j<=6->¬(l.id,j)=(l.id,7):=fun j hj=>by simp;omega
  have iH:∀ j,j<=6->¬(l.id,j)=(l.id,9):=fun j hj=>by simp;omega
  have e1:(ls++lo).length=ls.length+lo.length:=Qd;refine⟨_,(HH1.o.Ar hst iH).Ar k hs7,⟨⟨vr,.slice pa (ls.length+lo.length) cp,(j3.set 3 _).set 1 _,(HR8.o.Ar hst (by simp)).Ar k (by simp),?_⟩,o3⟩,
   ((gG.o.mono fun _ h=>tq h).trans (hst.mono (by rintro _ rfl;exact⟨rfl,.inr (.inr rfl)⟩))).trans (k.mono (by rintro _ rfl;exact⟨rfl,.inl (Qk _)⟩))⟩
  rw[e1,Qw];exact hown.Ar k (by simp))
 go_wp2_with fail;go_ret;exact⟨rfl,hfin.o⟩
def qm5 {H:Hp}(hH:B1 w o l H)(hw:H.wf)(h:DO w o l cy 1 rd ls)(h1:rd.length<=1099511627776)(h2:H.A4.2.length<=1099511627776) :
  Ab ANa 75 #[ptr cy] w fun e w'=>e=O (.bool false)/\∃ o',B1 w' o' l H.A4.1/\DO w' o' l cy 2 (rd++H.A4.2) ls/\Stp (FK l) o o' w w':=by
 obtain⟨iI,hi,hsI,cK,bZ⟩:=zm;have hu64:=underlying23;have fH:∀ (fn:Fn)(first cap:Array Ac)(w:Aa),(Instr.makeFunc fn first cap).run ANa w=.ok (.func fn first cap) w:=fun _ _ _ _=>rfl
 have n7:¬zg l (l.id,7):=fun hh=>by have:=hh.2;simp at this
 have n8:¬zg l (l.id,8):=fun hh=>by have:=hh.2;simp at this
 have n9:¬zg l (l.id,9):=fun hh=>by have:=hh.2;simp at this
 have HL:=YN h1 h2;have HD:=Qa (qq0 (hH.Ar (T:=fun _=>False) (Stp.of_below (qf (qd w))) fun _ _ h=>h) hw)
 obtain⟨vr,vl,jc,hr,hl⟩:=h.A3;have oc:=h.oc;have c:=jc.cell;have s:=jc.lt;generalize H.A4=D at *;obtain⟨H',fi⟩:=D;simp only at HD HL ⊢;have HC:=Qa (fun (w5:Aa)(o5:Own)(hs:Stp (zg l) o o5 w.drew w5)=>show An w5 cy #[ptr l.h,FR cy 1,vr,vl] 143/\o5 cy=(l.id,7)/\Row w5 o5 (l.id,8) 3 1 vr rd.length (rd.map nv)/\Row w5 o5 (l.id,9) 3 1 vl ls.length (ls.map nv) from
  ⟨(qj jc).Ar hs (by rw[oc];exact n7),(hs.tags _ jc.lt).trans oc,(hr.below (qf (qd w))).Ar hs n8,(hl.below (qf (qd w))).Ar hs n9⟩)
 obtain⟨pl,cl,rfl⟩:=hr.A6;have vP:=Qa HL;have hfin:=Qa (fun (w1:Aa)(o1:Own)(w3:Aa)(pa:Option Addr)(cp:Nat)(hH1:B1 w1 o1 l H')(hs1:Stp (zg l) o o1 w.drew w1)
   (hown:Row w3 (ext o1 w1 (l.id,8)) (l.id,8) 3 1 (.slice pa (rd.length+fi.length) cp) (rd.length+fi.length) (rd.map nv++fi.map nv))(hst:Stp (fun u=>u=(l.id,8)) o1 (ext o1 w1 (l.id,8)) w1 w3) =>
  show ∃ o',B1 ((w3.setCell ⟨cy,2,none⟩ (.slice pa (rd.length+fi.length) cp)).setCell ⟨cy,1,none⟩ (.func (.func 121) #[ptr cy] #[])) o' l H'/\DO ((w3.setCell ⟨cy,2,none⟩ (.slice pa (rd.length+fi.length) cp)).setCell ⟨cy,1,none⟩ (.func (.func 121) #[ptr cy] #[])) o' l cy 2 (rd++fi) ls/\Stp (FK l) o o' w ((w3.setCell ⟨cy,2,none⟩ (.slice pa (rd.length+fi.length) cp)).setCell ⟨cy,1,none⟩ (.func (.func 121) #[ptr cy] #[])) from by
  obtain⟨j1,oc1,r8,r9⟩:=HC.o _ _ hs1;have o3:ext o1 w1 (l.id,8) cy=(l.id,7):=(hst.tags _ j1.lt).trans oc1;have j3:=j1.Ar hst (by rw[oc1];simp)
  have k:Stp (fun t=>t=(l.id,7)) (ext o1 w1 (l.id,8)) (ext o1 w1 (l.id,8)) w3 ((w3.setCell ⟨cy,2,none⟩ (.slice pa (rd.length+fi.length) cp)).setCell ⟨cy,1,none⟩ (.func (.func 121) #[ptr cy] #[])):=((Stp.refl _ _ w3).setCell (by show ext o1 w1 (l.id,8) cy=_;exact o3) _).setCell (by show ext o1 w1 (l.id,8) cy=_;exact o3) _
  have hs7:∀ j,j<=6->¬(l.id,j)=(l.id,7):=fun j hj=>by simp;omega
  have gK:∀ j,j<=6->¬(l.id,j)=(l.id,8):=fun j hj=>by simp;omega
  have e1:(rd++fi).length=rd.length+fi.length:=Qd;refine⟨_,(hH1.Ar hst gK).Ar k hs7,⟨⟨.slice pa (rd.length+fi.length) cp,vl,(j3.set 2 _).set 1 _,?_,(r9.Ar hst (by simp)).Ar k (by simp)⟩,o3⟩,
   (((Stp.of_below (qf (qd w))).trans (hs1.mono fun _ h=>tq h)).trans (hst.mono (by rintro _ rfl;exact⟨rfl,.inr (.inl rfl)⟩))).trans (k.mono (by rintro _ rfl;exact⟨rfl,.inl (Qk _)⟩))⟩
  rw[e1,Qw];exact hown.Ar k (by simp))
 clear h hH hw hr hl h1 h2 HL oc;go_in;go_upto_region 1 with fail;go_region_law (first
  | (refine mw _ (by rfl) _ _ _ (by rfl) 3 iI _ 1 8 hu64 hi bZ hsI cK (by rfl) (by decide) o1 (l.id,8) _ rd.length (rd.map nv) (by rfl) r8 o1 (DR l) _ fi.length (fi.map nv) (by rfl) hrow (li _) vP.o.1 vP.o.2 ?_;intro v' w3 hown hst;obtain⟨pa,cp,rfl⟩:=hown.A6;have j3:=j1.Ar hst (by rw[oc1];simp);have c3:=j3.cell;have z3:=j3.free;have s3:=j3.lt)
  | (go_simp;go_wp2_with ((go_at_call 120;refine HD.o.mono ?_;rintro e w1 ⟨v,o1,rfl,hH1,hs1,hrow⟩;obtain⟨pv,cv,rfl⟩:=hrow.A6;obtain⟨j1,oc1,r8,r9⟩:=HC.o _ _ hs1;have c1:=j1.cell;have s1:=j1.lt))))
 all_goals
  have HF:=Qa (hfin.o _ _ _ _ _ hH1 hs1 hown hst);go_wp2_with fail;go_ret;exact⟨rfl,HF.o⟩
end
section
variable {w w' : Aa} {o : Own} {l : Bn} {H : Hp} {vc vo vw vf : Ac} {f : Nat -> Nat}
def AN.flipped (h:AN w o l H vc vo vw vf f){w':Aa}(hb:An w' l.h (H.flip.cells l.a (Ai none 0 0) vc vw vf) 141)(hs:Stp (fun t=>t=(l.id,0)) o o w w'):AN w' o l H.flip (Ai none 0 0) vc vw vf f:=by
 have hn:∀ j,j≠0->¬(l.id,j)=(l.id,0):=fun j hj e=>hj (by simpa using e)
 have hlen:H.flip.old.length=H.cur.length:=by simp[Hp.flip]
 have hmap:(H.flip.old.map fun x=>nv x.1)=H.cur.map fun x=>nv x.1:=by simp[Hp.flip,List.map_map,Function.comp_def]
 refine⟨hb,h.Cr.Ar hs (by rw[h.oa];exact hn _ (by omega)) (by rw[h.ow];exact hn _ (by omega)),Row.nil _ _ _ _ _,?_,h.rw.Ar hs (hn _ (by omega)),h.rf.Ar hs (hn _ (by omega)),h.oh,h.oa,h.ow,fun x hx=>(by cases hx),fun x hx=>?_,h.zr⟩
 ·rw[hlen,hmap]
  have:=h.rc.Ar hs (hn _ (by split<;>omega))
  have e:(if H.flip.use then 3 else 4)=(if H.use then 4 else 3):=by show (if !H.use then 3 else 4)=_;cases H.use<;>rfl
  rw[e];exact this
 ·obtain⟨z,hz,rfl⟩:=Qt.1 (show x ∈ H.cur.map _ from hx)
  exact⟨fun _=>h.Fb z hz,fun q hq=>by cases hq⟩
def LV {sz tp eP dF CE dB us:Nat}(hb:An w l.h #[Ah (some ⟨l.a,0,none⟩),.int .i64 1,.int .i64 sz,.int .i64 tp,.int .i64 (1+(sz:Int)),.int .i64 sz,.int .i64 eP,vc,vo,.int .i64 0,false,.int .i64 dF,.int .i64 CE,.int .i64 dB,vw,vf] 141)
  (hE:∀ W,Ab ANa 118 #[Al #[.int .i64 (1+(sz:Int)),.int .i64 sz,.int .i64 eP]] W fun e w'=>e=O (Al #[.int .i64 (1+(sz:Int)),.int .i64 sz,.int .i64 (1+(sz:Int))])/\Ae W W w')
  (hU:∀ W,Ab ANa 119 #[Al #[.int .i64 1,.int .i64 sz,.int .i64 tp]] W fun e w'=>e=O (.int .i64 us)/\Ae W W w') :
  Ab ANa 74 #[Ah (some ⟨l.h,0,none⟩)] w fun e w'=>e=O (.bool true)/\An w' l.h #[Ah (some ⟨l.a,0,none⟩),.int .i64 1,.int .i64 sz,.int .i64 tp,.int .i64 (1+(sz:Int)),.int .i64 sz,.int .i64 (1+(sz:Int)),vc,Ai none 0 0,.int .i64 1,true,.int .i64 us,.int .i64 (1+(sz:Int)),.int .i64 dB,vw,vf] 141/\Wr l.h w w':=by
 have HE:=Qa hE;have HU:=Qa hU;clear hE hU;have c:=hb.cell;have z:=hb.free;have s:=hb.lt;go_in;go_upto_region 5 with fail;obtain⟨W1,hW1⟩:=Ja0 (w.setCell ⟨l.h,9,none⟩ (.int .i64 1));have j1:An W1 l.h #[Ah (some ⟨l.a,0,none⟩),.int .i64 1,.int .i64 sz,.int .i64 tp,.int .i64 (1+(sz:Int)),.int .i64 sz,.int .i64 eP,vc,vo,.int .i64 1,false,.int .i64 dF,.int .i64 CE,.int .i64 dB,vw,vf] 141:=by rw[hW1];exact hb.set 9 _
 have r1:Wr l.h w W1:=by rw[hW1];exact Wr.set _ _ _ _
 rw[<-hW1];clear hW1 c z s hb;have k9:=j1.cell 9;have k1:=j1.cell 4;have k2:=j1.cell 5;have k3:=j1.cell 6;simp at k9 k1 k2 k3;have hn1:=World.new_ne W1 ⟨l.h,9,none⟩ k9;have s1:=j1.lt;have z1:=j1.free;go_cut [](fun wx=>An wx l.h #[Ah (some ⟨l.a,0,none⟩),.int .i64 1,.int .i64 sz,.int .i64 tp,.int .i64 (1+(sz:Int)),.int .i64 sz,.int .i64 (1+(sz:Int)),vc,vo,.int .i64 1,false,.int .i64 dF,.int .i64 CE,.int .i64 dB,vw,vf] 141/\Wr l.h W1 wx)
 case first =>
  go_region_with (first|(go_at_call 118;refine (HE.o _).mono ?_;rintro e w4 ⟨rfl,hb4⟩;have j4:=An.below (qj j1) hb4 (qj j1).lt;have c4:=j4.cell;have z4:=j4.free;have s4:=j4.lt)|fail)
  all_goals
   go_wp2_with fail;go_meet;exact⟨by simpa using ((j4.set 4 _).set 5 _).set 6 _,(((Wr.of_below (qf (qd W1))).trans (Wr.of_below hb4)).trans (Wr.set _ _ _ _)).trans ((Wr.set _ _ _ _).trans (Wr.set _ _ _ _))⟩
 case rest =>
  obtain⟨j2,r2⟩:=hcut;have R2:=Qa (r1.trans r2);clear k9 k1 k2 k3 hn1 s1 z1 r1 r2 j1;have c:=j2.cell;have z:=j2.free;have s:=j2.lt;go_upto_region 6 with fail;go_region;go_wp2_with fail;obtain⟨W4,dX⟩:=Ja0 (((wc.setCell ⟨l.h,8,none⟩ (Ai none 0 0)).setCell ⟨l.h,10,none⟩ (.bool true)).drew);have j4:An W4 l.h #[Ah (some ⟨l.a,0,none⟩),.int .i64 1,.int .i64 sz,.int .i64 tp,.int .i64 (1+(sz:Int)),.int .i64 sz,.int .i64 (1+(sz:Int)),vc,Ai none 0 0,.int .i64 1,true,.int .i64 dF,.int .i64 CE,.int .i64 dB,vw,vf] 141:=by rw[dX];exact qj (by simpa using (j2.set 8 (Ai none 0 0)).set 10 (.bool true))
  have r4:Wr l.h wc W4:=by rw[dX];exact ((Wr.set _ _ _ _).trans (Wr.set _ _ _ _)).trans (Wr.of_below (qf (qd _)))
  rw[<-dX];clear dX c z s j2;refine (HU.o _).mono ?_;rintro e w5 ⟨rfl,hb5⟩;have j5:=j4.below hb5 j4.lt;have r5:=r4.Cb hb5;clear hb5 j4 r4;have c:=j5.cell;have z:=j5.free;have s:=j5.lt;go_upto_region 9 with fail;obtain⟨W6,fK⟩:=Ja0 (w5.setCell ⟨l.h,11,none⟩ (.int .i64 us));have j6:An W6 l.h #[Ah (some ⟨l.a,0,none⟩),.int .i64 1,.int .i64 sz,.int .i64 tp,.int .i64 (1+(sz:Int)),.int .i64 sz,.int .i64 (1+(sz:Int)),vc,Ai none 0 0,.int .i64 1,true,.int .i64 us,.int .i64 CE,.int .i64 dB,vw,vf] 141:=by rw[fK];simpa using j5.set 11 (.int .i64 us)
  have r6:Wr l.h wc W6:=by rw[fK];exact r5.trans (Wr.set _ _ _ _)
  rw[<-fK];clear fK c z s j5 r5;have c:=j6.cell;have z:=j6.free;have s:=j6.lt;go_region;go_wp2_with fail;go_ret;refine⟨rfl,qj (by simpa using j6.set 12 (.int .i64 (1+(sz:Int)))),((R2.o.trans r6).trans (Wr.set _ _ _ _)).trans (Wr.of_below (qf (qd _)))⟩
def LW {sz tp eP dF CE dB us:Nat}(hb:An w l.h #[Ah (some ⟨l.a,0,none⟩),.int .i64 1,.int .i64 sz,.int .i64 eP,.int .i64 (1+(sz:Int)),.int .i64 sz,.int .i64 tp,vo,vc,.int .i64 1,false,.int .i64 dF,.int .i64 CE,.int .i64 dB,vw,vf] 141)
  (hE:∀ W,Ab ANa 118 #[Al #[.int .i64 1,.int .i64 sz,.int .i64 eP]] W fun e w'=>e=O (Al #[.int .i64 1,.int .i64 sz,.int .i64 1])/\Ae W W w')
  (hU:∀ W,Ab ANa 119 #[Al #[.int .i64 (1+(sz:Int)),.int .i64 sz,.int .i64 tp]] W fun e w'=>e=O (.int .i64 us)/\Ae W W w') :
  Ab ANa 74 #[Ah (some ⟨l.h,0,none⟩)] w fun e w'=>e=O (.bool true)/\An w' l.h #[Ah (some ⟨l.a,0,none⟩),.int .i64 1,.int .i64 sz,.int .i64 1,.int .i64 (1+(sz:Int)),.int .i64 sz,.int .i64 tp,Ai none 0 0,vc,.int .i64 0,true,.int .i64 us,.int .i64 1,.int .i64 dB,vw,vf] 141/\Wr l.h w w':=by
 have HE:=Qa hE;have HU:=Qa hU;clear hE hU;have c:=hb.cell;have z:=hb.free;have s:=hb.lt;go_in;go_upto_region 5 with fail;obtain⟨W1,hW1⟩:=Ja0 (w.setCell ⟨l.h,9,none⟩ (.int .i64 0));have j1:An W1 l.h #[Ah (some ⟨l.a,0,none⟩),.int .i64 1,.int .i64 sz,.int .i64 eP,.int .i64 (1+(sz:Int)),.int .i64 sz,.int .i64 tp,vo,vc,.int .i64 0,false,.int .i64 dF,.int .i64 CE,.int .i64 dB,vw,vf] 141:=by rw[hW1];exact hb.set 9 _
 have r1:Wr l.h w W1:=by rw[hW1];exact Wr.set _ _ _ _
 rw[<-hW1];clear hW1 c z s hb;have k9:=j1.cell 9;have k1:=j1.cell 1;have k2:=j1.cell 2;have k3:=j1.cell 3;simp at k9 k1 k2 k3;have hn1:=World.new_ne W1 ⟨l.h,9,none⟩ k9;have s1:=j1.lt;have z1:=j1.free;go_cut [](fun wx=>An wx l.h #[Ah (some ⟨l.a,0,none⟩),.int .i64 1,.int .i64 sz,.int .i64 1,.int .i64 (1+(sz:Int)),.int .i64 sz,.int .i64 tp,vo,vc,.int .i64 0,false,.int .i64 dF,.int .i64 CE,.int .i64 dB,vw,vf] 141/\Wr l.h W1 wx)
 case first =>
  go_region_with (first|(go_at_call 118;refine (HE.o _).mono ?_;rintro e w4 ⟨rfl,hb4⟩;have j4:=An.below (qj j1) hb4 (qj j1).lt;have c4:=j4.cell;have z4:=j4.free;have s4:=j4.lt)|fail)
  all_goals
   go_wp2_with fail;go_meet;exact⟨by simpa using ((j4.set 1 _).set 2 _).set 3 _,(((Wr.of_below (qf (qd W1))).trans (Wr.of_below hb4)).trans (Wr.set _ _ _ _)).trans ((Wr.set _ _ _ _).trans (Wr.set _ _ _ _))⟩
 case rest =>
  obtain⟨j2,r2⟩:=hcut;have R2:=Qa (r1.trans r2);clear k9 k1 k2 k3 hn1 s1 z1 r1 r2 j1;have c:=j2.cell;have z:=j2.free;have s:=j2.lt;go_upto_region 6 with fail;go_region;go_wp2_with fail;obtain⟨W4,dX⟩:=Ja0 (((wc.setCell ⟨l.h,7,none⟩ (Ai none 0 0)).setCell ⟨l.h,10,none⟩ (.bool true)).drew);have j4:An W4 l.h #[Ah (some ⟨l.a,0,none⟩),.int .i64 1,.int .i64 sz,.int .i64 1,.int .i64 (1+(sz:Int)),.int .i64 sz,.int .i64 tp,Ai none 0 0,vc,.int .i64 0,true,.int .i64 dF,.int .i64 CE,.int .i64 dB,vw,vf] 141:=by rw[dX];exact qj (by simpa using (j2.set 7 (Ai none 0 0)).set 10 (.bool true))
  have r4:Wr l.h wc W4:=by rw[dX];exact ((Wr.set _ _ _ _).trans (Wr.set _ _ _ _)).trans (Wr.of_below (qf (qd _)))
  rw[<-dX];clear dX c z s j2;refine (HU.o _).mono ?_;rintro e w5 ⟨rfl,hb5⟩;have j5:=j4.below hb5 j4.lt;have r5:=r4.Cb hb5;clear hb5 j4 r4;have c:=j5.cell;have z:=j5.free;have s:=j5.lt;go_upto_region 9 with fail;obtain⟨W6,fK⟩:=Ja0 (w5.setCell ⟨l.h,11,none⟩ (.int .i64 us));have j6:An W6 l.h #[Ah (some ⟨l.a,0,none⟩),.int .i64 1,.int .i64 sz,.int .i64 1,.int .i64 (1+(sz:Int)),.int .i64 sz,.int .i64 tp,Ai none 0 0,vc,.int .i64 0,true,.int .i64 us,.int .i64 CE,.int .i64 dB,vw,vf] 141:=by rw[fK];simpa using j5.set 11 (.int .i64 us)
  have r6:Wr l.h wc W6:=by rw[fK];exact r5.trans (Wr.set _ _ _ _)
  rw[<-fK];clear fK c z s j5 r5;have c:=j6.cell;have z:=j6.free;have s:=j6.lt;go_region;go_wp2_with fail;go_ret;refine⟨rfl,qj (by simpa using j6.set 12 (.int .i64 1)),((R2.o.trans r6).trans (Wr.set _ _ _ _)).trans (Wr.of_below (qf (qd _)))⟩
def Jg (h:AN w o l H vc vo vw vf f) (hk:H.ok) (hm:H.AK=false) :
  Ab ANa 74 #[Ah (some ⟨l.h,0,none⟩)] w fun e w'=>e=O (.bool true)/\AN w' o l H.flip (Ai none 0 0) vc vw vf f/\Stp (zg l) o o w w':=by
 have hsz:=hk.sz;have hol:=pi _ _ _ hk.ol;have hot:=hk.ot;have htop:=vg hk;have hroom:=hk.room;have hb0:=H.Bt (!H.use);have hb1:=H.Bt H.use;rcases (show H.use=false\/H.use=true by cases H.use<;>simp) with hu|hu
 ·have e0:H.base H.use=1:=by rw[hu];rfl
  have e1:H.base (!H.use)=1+H.size:=by rw[hu];rfl
  have e2:((1+H.size:Nat):Int)=1+(H.size:Int):=by omega
  have hE:=fun W=>fe (b:=1+H.size) (s:=H.size) (t:=H.Ca) ⟨by omega,by omega,by omega,by omega⟩ W
  have hU:=fun W=>ur (b:=1) (s:=H.size) (t:=H.top) ⟨by omega,by omega,by omega,by omega⟩ W
  unfold DN at hE;rw[e2]at hE;have hb:=h.Et hu;rw[hm]at hb;refine (LV hb hE hU).mono ?_;rintro e w' ⟨rfl,j,r⟩;have hs:Stp (fun t=>t=(l.id,0)) o o w w':=Stp.Ci r h.oh;refine⟨rfl,h.flipped ?_ hs,hs.mono (by rintro _ rfl;exact⟨rfl,by simp⟩)⟩
  have ec:H.flip.cells l.a (Ai none 0 0) vc vw vf=#[Ah (some ⟨l.a,0,none⟩),.int .i64 1,.int .i64 H.size,.int .i64 H.top,.int .i64 (1+(H.size:Int)),.int .i64 H.size,.int .i64 (1+(H.size:Int)),vc,Ai none 0 0,.int .i64 1,true,.int .i64 ((H.top-1:Nat):Int),.int .i64 (1+(H.size:Int)),.int .i64 H.Ap,vw,vf]:=by
   unfold Hp.cells Hp.flip;simp only[hu,Bool.not_false,if_true];unfold Hp.base;simp
  rw[ec];exact j
 ·have e0:H.base H.use=1+H.size:=by rw[hu];rfl
  have e1:H.base (!H.use)=1:=by rw[hu];rfl
  have e2:((1+H.size:Nat):Int)=1+(H.size:Int):=by omega
  have hE:=fun W=>fe (b:=1) (s:=H.size) (t:=H.Ca) ⟨by omega,by omega,by omega,by omega⟩ W
  have hU:=fun W=>ur (b:=1+H.size) (s:=H.size) (t:=H.top) ⟨by omega,by omega,by omega,by omega⟩ W
  unfold DN at hU;rw[e2]at hU;have hb:=h.Eu hu;rw[hm]at hb;refine (LW hb hE hU).mono ?_;rintro e w' ⟨rfl,j,r⟩;have hs:Stp (fun t=>t=(l.id,0)) o o w w':=Stp.Ci r h.oh;refine⟨rfl,h.flipped ?_ hs,hs.mono (by rintro _ rfl;exact⟨rfl,by simp⟩)⟩
  have ec:H.flip.cells l.a (Ai none 0 0) vc vw vf=#[Ah (some ⟨l.a,0,none⟩),.int .i64 1,.int .i64 H.size,.int .i64 1,.int .i64 (1+(H.size:Int)),.int .i64 H.size,.int .i64 H.top,Ai none 0 0,vc,.int .i64 0,true,.int .i64 ((H.top-(1+H.size):Nat):Int),.int .i64 1,.int .i64 H.Ap,vw,vf]:=by
   unfold Hp.cells Hp.flip;simp only[hu,Bool.not_true,Bool.false_eq_true,if_false];unfold Hp.base;simp
  rw[ec];exact j
end
section
variable {w w' : Aa} {o o' : Own} {l : Bn} {cy n : Nat} {rd ls : List Nat}
def Lv {H:Hp}(h:B1 w o l H)(hk:H.ok)(hm:H.AK=false) :
  Ab ANa 74 #[ptr l.h] w fun e w'=>e=O (.bool true)/\B1 w' o l H.flip/\Stp (zg l) o o w w':=by
 obtain⟨vc,vo,vw,vf,f,hh⟩:=h;refine (Jg hh hk hm).mono ?_
 rintro e w'⟨rfl,h',hs⟩
 exact⟨rfl,⟨_,_,_,_,_,h'⟩,hs⟩
def qm9 {vp vl vr:Ac}(jc:An w cy #[ptr l.h,vp,vr,vl] 143)(a:Option Addr)(c0:Nat) :
  Ab ANa 76 #[ptr cy,.slice a 0 c0] w fun e w'=>e=O (Ai none 0 0)/\w=w':=by
 have c:=jc.cell;clear jc;go_in;go_wp2_with fail;go_loopw [5,7,10](fun vv _ ix wr=>vv=Ai none 0 0/\ix=.int .i64 0/\wr=w)(fun _ _ _ _=>0)
 case atStart=>exact⟨rfl,rfl,rfl⟩
 case round =>
  obtain⟨rfl,rfl,rfl⟩:=hrel;go_wp2_with fail;go_ret;exact⟨rfl,rfl⟩
end
section
variable {w w' : Aa} {o o' : Own} {l : Bn} {cy n : Nat} {rd ls : List Nat}
def qpq {vr vl:Ac}(hb:An w cy #[ptr l.h,FR cy n,vr,vl] 143)(oc:o cy=(l.id,7))(h1:Row w o (l.id,8) 3 1 vr rd.length (rd.map nv)) :
  Ab ANa 56 #[ptr cy] w fun e w'=>e=O vr/\Row w' o (l.id,8) 3 1 vr rd.length (rd.map nv)/\An w' cy #[ptr l.h,FR cy n,Ai none 0 0,vl] 143/\Stp (fun t=>t=(l.id,7)) o o w w':=by
 have hfin:=Qa (show Row (w.setCell ⟨cy,2,none⟩ (Ai none 0 0)) o (l.id,8) 3 1 vr rd.length (rd.map nv)/\An (w.setCell ⟨cy,2,none⟩ (Ai none 0 0)) cy #[ptr l.h,FR cy n,Ai none 0 0,vl] 143/\Stp (fun t=>t=(l.id,7)) o o w (w.setCell ⟨cy,2,none⟩ (Ai none 0 0)) from by
  have k:Stp (fun t=>t=(l.id,7)) o o w (w.setCell ⟨cy,2,none⟩ (Ai none 0 0)):=(Stp.refl _ o w).setCell (by show o cy=_;exact oc) _
  exact⟨h1.Ar k (by simp),hb.set 2 _,k⟩)
 obtain⟨pa,cp,rfl⟩:=h1.A6;have c:=hb.cell;have z:=hb.free;have s:=hb.lt;clear h1;go_in;go_wp2_with fail;go_ret;exact⟨rfl,hfin.o⟩
def Hd {vr vl:Ac}(hb:An w cy #[ptr l.h,FR cy n,vr,vl] 143)(oc:o cy=(l.id,7))(h2:Row w o (l.id,9) 3 1 vl ls.length (ls.map nv)) :
  Ab ANa 59 #[ptr cy] w fun e w'=>e=O vl/\Row w' o (l.id,9) 3 1 vl ls.length (ls.map nv)/\An w' cy #[ptr l.h,FR cy n,vr,Ai none 0 0] 143/\Stp (fun t=>t=(l.id,7)) o o w w':=by
 have hfin:=Qa (show Row (w.setCell ⟨cy,3,none⟩ (Ai none 0 0)) o (l.id,9) 3 1 vl ls.length (ls.map nv)/\An (w.setCell ⟨cy,3,none⟩ (Ai none 0 0)) cy #[ptr l.h,FR cy n,vr,Ai none 0 0] 143/\Stp (fun t=>t=(l.id,7)) o o w (w.setCell ⟨cy,3,none⟩ (Ai none 0 0)) from by
  have k:Stp (fun t=>t=(l.id,7)) o o w (w.setCell ⟨cy,3,none⟩ (Ai none 0 0)):=(Stp.refl _ o w).setCell (by show o cy=_;exact oc) _
  exact⟨h2.Ar k (by simp),hb.set 3 _,k⟩)
 obtain⟨pa,cp,rfl⟩:=h2.A6;have c:=hb.cell;have z:=hb.free;have s:=hb.lt;clear h2;go_in;go_wp2_with fail;go_ret;exact⟨rfl,hfin.o⟩
def qqh {H:Hp}(hH:B1 w o l H)(hw:H.wf)(hm:H.AK=false)(jc:An w cy #[ptr l.h,.nilFunc,Ai none 0 0,Ai none 0 0] 143)(oc:o cy=(l.id,7)){v:Ac}{ps:List Nat}{ta:Tag}(hv:Row w o ta 3 1 v ps.length (ps.map nv))(hp:ps.length<=8796093022208)
  (tg:Tag)(na:¬FK l ta)(ng:¬FK l tg)(nag:ta≠tg) :
  Ab ANa 47 #[ptr cy,v] w fun e w'=>∃ v' o',e=O (Ak #[v',true])/\B1 w' o' l (H.flip.Ay ps).1/\An w' cy #[ptr l.h,.func (.func 75) #[ptr cy] #[],Ai none 0 0,Ai none 0 0] 143/\Row w' o' tg 3 1 v' ps.length ((H.flip.Ay ps).2.map nv)/\Stp (fun t=>FK l t\/t=tg) o o' w w':=by
 have fH:∀ (fn:Fn)(first cap:Array Ac)(w:Aa),(Instr.makeFunc fn first cap).run ANa w=.ok (.func fn first cap) w:=fun _ _ _ _=>rfl
 have n7:¬zg l (l.id,7):=fun hh=>by have:=hh.2;simp at this
 have n8:¬zg l (l.id,8):=fun hh=>by have:=hh.2;simp at this
 have n9:¬zg l (l.id,9):=fun hh=>by have:=hh.2;simp at this
 have c7:FK l (l.id,7):=⟨rfl,.inl (Qk _)⟩;have c9:FK l (l.id,9):=⟨rfl,.inr (.inr rfl)⟩;have hwf:H.flip.wf:=Hp.EX hw hm;have c:=jc.cell;have hne:=run_neq_nil_nil w 24 underlying24;have HFl:=Qa (Lv hH hw.ok hm)
 have vR:=Qa (fun w2 (h2:B1 w2 o l H.flip)(j2:An w2 cy #[ptr l.h,.func (.func 75) #[ptr cy] #[],Ai none 0 0,Ai none 0 0] 143)(v2:Row w2 o ta 3 1 v ps.length (ps.map nv)) =>
  qle h2 hwf j2 oc v2 hp tg (fun h=>na (tq h)) (fun h=>ng (tq h)) nag (fun e=>ng (by rw[e];exact c7)))
 have H1:=Qa (fun w1 (hs1:Stp (zg l) o o w w1)(hH1:B1 w1 o l H.flip)=>show An w1 cy #[ptr l.h,.nilFunc,Ai none 0 0,Ai none 0 0] 143/\B1 (w1.setCell ⟨cy,1,none⟩ (.func (.func 75) #[ptr cy] #[])) o l H.flip /\
   An (w1.setCell ⟨cy,1,none⟩ (.func (.func 75) #[ptr cy] #[])) cy #[ptr l.h,.func (.func 75) #[ptr cy] #[],Ai none 0 0,Ai none 0 0] 143 /\
   Row (w1.setCell ⟨cy,1,none⟩ (.func (.func 75) #[ptr cy] #[])) o ta 3 1 v ps.length (ps.map nv) /\
   Stp (FK l) o o w (w1.setCell ⟨cy,1,none⟩ (.func (.func 75) #[ptr cy] #[])) from by
  have k:Stp (fun t=>t=(l.id,7)) o o w1 (w1.setCell ⟨cy,1,none⟩ (.func (.func 75) #[ptr cy] #[])):=(Stp.refl _ o w1).setCell (by show o cy=_;exact oc) _
  have j1:=jc.Ar hs1 (by rw[oc];exact n7)
  exact⟨j1,hH1.Ar k fun j hj=>by simp;omega,j1.set 1 _,(hv.Ar hs1 fun h=>na (tq h)).Ar k (fun e=>na (by rw[e];exact c7)),(hs1.mono fun _ h=>tq h).trans (k.mono (by rintro _ rfl;exact c7))⟩)
 have OC:=Qa oc;have NG:=Qa (show ¬hOr l tg (l.id,7) from fun h=>h.elim n7 fun e=>ng (by rw[<-e];exact c7))
 have NT:=Qa (show tg≠(l.id,7) from fun e=>ng (by rw[e];exact c7))
 have C7:=Qa c7;obtain⟨pv,cv,rfl⟩:=hv.A6;generalize ps.length=np at *;generalize H.flip.Ay ps=MV at *;obtain⟨H2,qs⟩:=MV;simp only at vR ⊢;clear hH hw hm hv hp na ng nag hwf oc jc n7 n8 n9 c7 c9;go_in;go_wp2_with fail;refine HFl.o.mono ?_
 rintro e w1 ⟨rfl,hH1,hs1⟩
 obtain⟨j1,hH2,j2,hv2,hs2⟩:=H1.o _ hs1 hH1;have c1:=j1.cell;have z1:=j1.free;have s1:=j1.lt;clear c hne;go_upto_region 5 with fail;obtain⟨W2,hW2⟩:=Ja0 (w1.setCell ⟨cy,1,none⟩ (.func (.func 75) #[ptr cy] #[]));rw[<-hW2]at hH2 j2 hv2 hs2 ⊢;have eQ:=Qa (vR.o _ hH2 j2 hv2);clear hW2 j1 c1 z1 s1 hs1 hH1 hH2 hv2 vR H1;go_wp2_with fail;refine eQ.o.mono ?_
 rintro e w3 ⟨v3,o3,rfl,hH3,hr3,hs3⟩
 obtain⟨p3,c3,rfl⟩:=hr3.A6;have j3:=j2.Ar hs3 (by rw[OC.o];exact NG.o)
 have oc3:o3 cy=(l.id,7):=(hs3.tags _ j2.lt).trans OC.o;have HN:=Qa (qm9 j3 none 0)
 have hfin:=Qa (show B1 (w3.setCell ⟨cy,2,none⟩ (Ai none 0 0)) o3 l H2/\An (w3.setCell ⟨cy,2,none⟩ (Ai none 0 0)) cy #[ptr l.h,.func (.func 75) #[ptr cy] #[],Ai none 0 0,Ai none 0 0] 143/\Row (w3.setCell ⟨cy,2,none⟩ (Ai none 0 0)) o3 tg 3 1 (.slice p3 np c3) np (qs.map nv)/\Stp (fun t=>FK l t\/t=tg) o o3 w (w3.setCell ⟨cy,2,none⟩ (Ai none 0 0)) from by
  have k:Stp (fun t=>t=(l.id,7)) o3 o3 w3 (w3.setCell ⟨cy,2,none⟩ (Ai none 0 0)):=(Stp.refl _ o3 w3).setCell (by show o3 cy=_;exact oc3) _
  exact⟨hH3.Ar k fun j hj=>by simp;omega,j3.set 2 _,hr3.Ar k NT.o,
   ((hs2.mono fun _ h=>Or.inl h).trans (hs3.mono fun _ h=>h.elim (fun h=>Or.inl (tq h)) Or.inr)).trans (k.mono (by rintro _ rfl;exact Or.inl C7.o))⟩)
 have c:=j3.cell;have z:=j3.free;have s:=j3.lt;clear hH3 hr3 hs3 hs2 j2;go_wp2_with fail;refine HN.o.mono ?_
 rintro e w4 ⟨rfl,rfl⟩
 go_wp2_with fail;go_ret2;exact⟨_,o3,rfl,hfin.o⟩
end
section
variable {w w' : Aa} {o o' : Own} {l : Bn} {cy n : Nat} {rd ls : List Nat}
def Lx {H:Hp}(h:B1 w o l H)(hw:H.wf) :
  Ab ANa 78 #[ptr l.h] w fun e w'=>e=O (.bool H.Bf.2)/\∃ o',B1 w' o' l H.Bf.1/\Stp (zg l) o o' w w':=by
 obtain⟨vc,vo,vw,vf,f,hh⟩:=h;refine (Kt hh hw).mono ?_
 rintro e w'⟨rfl,bQ,f',o',h',hs⟩
 exact⟨rfl,o',⟨bQ,vo,vw,vf,f',h'⟩,hs⟩
def qk0 {H:Hp}(h:H.Bf.2=false):H.Bf.1=H:=by
 unfold Hp.Bf at h ⊢;by_cases hc:H.AK=false\/H.scan=H.top
 ·rw[if_pos hc]
 ·rw[if_neg hc]at h ⊢
  cases hl:lk H.cur H.scan with
  | none=>rfl
  | some ob =>
   rw[hl]at h;simp only at h;split at h<;>simp at h
def uv (H:Hp)(n:Nat)(rd ls:List Nat):Hp×Nat×List Nat×List Nat×Bool:=
 if n=0 then (H,0,rd,ls,false) else if H.Bf.2=true then (H.Bf.1,n,rd,ls,false)
 else if n=1 then (H.A4.1,2,rd++H.A4.2,ls,false) else (H.drop.1,0,rd,ls++H.drop.2.1,true)
def qlp (h:DO w o l cy 0 rd ls) :
  Ab ANa 55 #[ptr cy] w fun e w'=>e=O (.bool false)/\Ae w w w':=by
 have HL:=Qa (gk h (by omega))
 clear h;go_in;go_wp2_with fail;refine HL.o.mono ?_
 rintro e w1⟨rfl,rfl⟩
 go_wp2_with fail;go_ret;exact⟨rfl,qd _⟩
def Hm {H:Hp}(hH:B1 w o l H)(hw:H.wf)(h:DO w o l cy n rd ls)(hn:n=1\/n=2)(h1:rd.length<=1099511627776)(h2:H.A4.2.length<=1099511627776)(h3:ls.length<=1099511627776)(h4:H.drop.2.1.length<=1099511627776) :
  Ab ANa 55 #[ptr cy] w fun e w'=>e=O (.bool (uv H n rd ls).2.2.2.2)/\∃ o',B1 w' o' l (uv H n rd ls).1/\DO w' o' l cy (uv H n rd ls).2.1 (uv H n rd ls).2.2.1 (uv H n rd ls).2.2.2.1/\Stp (FK l) o o' w w':=by
 have n7:¬zg l (l.id,7):=fun hh=>by have:=hh.2;simp at this
 have n8:¬zg l (l.id,8):=fun hh=>by have:=hh.2;simp at this
 have n9:¬zg l (l.id,9):=fun hh=>by have:=hh.2;simp at this
 have HL:=Qa (gk h (by omega))
 have HS:=Qa (Lx hH hw);have HC:=Qa (fun (w5:Aa)(o5:Own)(hs:Stp (zg l) o o5 w w5)=>h.Ar hs n7 n8 n9)
 obtain⟨vr,vl,jc,_,_⟩:=h.A3;have c:=jc.cell
 cases hb:H.Bf.2 with
 | true =>
  have e1:uv H n rd ls=(H.Bf.1,n,rd,ls,false):=by unfold uv;rw[if_neg (by omega),if_pos hb]
  rw[e1];rw[hb]at HS;generalize H.Bf.1=H' at *;clear hH hw h h1 h2 h3 h4 e1 hb;rcases hn with rfl|rfl
  all_goals
   go_in;go_wp2_with fail;refine HL.o.mono ?_;rintro e w1 ⟨rfl,rfl⟩;go_wp2_with fail;refine HS.o.mono ?_;rintro e w2 ⟨rfl,o2,hH2,hs2⟩;go_wp2_with fail;go_ret;exact⟨rfl,o2,hH2,HC.o _ _ hs2,hs2.mono fun _ h=>tq h⟩
 | false =>
  have e0:=qk0 hb;rw[hb,e0]at HS;rcases hn with rfl|rfl
  ·have e1:uv H 1 rd ls=(H.A4.1,2,rd++H.A4.2,ls,false):=by unfold uv;rw[if_neg (by omega),if_neg (by rw[hb];simp),if_pos rfl]
   rw[e1];have HF:=Qa (fun w2 o2 (h2':B1 w2 o2 l H)(hc2:DO w2 o2 l cy 1 rd ls)=>qm5 h2' hw hc2 h1 h2);generalize H.A4=D at *;clear hH hw h h1 h2 h3 h4 e1 hb e0;go_in;go_wp2_with fail;refine HL.o.mono ?_;rintro e w1 ⟨rfl,rfl⟩;go_wp2_with fail;refine HS.o.mono ?_;rintro e w2 ⟨rfl,o2,hH2,hs2⟩;have hc2:=HC.o _ _ hs2;have tX:=Qa (HF.o _ _ hH2 hc2);obtain⟨vr2,vl2,jc2,_,_⟩:=hc2.A3;have c2:w2.cell? ⟨cy,1,none⟩=some (.func (.func 75) #[ptr cy] #[]):=jc2.cell 1;clear c;go_wp2_with fail;refine tX.o.mono ?_;rintro e w3 ⟨rfl,o3,hH3,hc3,hs3⟩;go_wp2_with fail;go_ret;exact⟨rfl,o3,hH3,hc3,(hs2.mono fun _ h=>tq h).trans hs3⟩
  ·have e1:uv H 2 rd ls=(H.drop.1,0,rd,ls++H.drop.2.1,true):=by unfold uv;rw[if_neg (by omega),if_neg (by rw[hb];simp),if_neg (by omega)]
   rw[e1];have HF:=Qa (fun w2 o2 (h2':B1 w2 o2 l H)(hc2:DO w2 o2 l cy 2 rd ls)=>qkf h2' hw hc2 h3 h4);generalize H.drop=D at *;clear hH hw h h1 h2 h3 h4 e1 hb e0;go_in;go_wp2_with fail;refine HL.o.mono ?_;rintro e w1 ⟨rfl,rfl⟩;go_wp2_with fail;refine HS.o.mono ?_;rintro e w2 ⟨rfl,o2,hH2,hs2⟩;have hc2:=HC.o _ _ hs2;have tX:=Qa (HF.o _ _ hH2 hc2);obtain⟨vr2,vl2,jc2,_,_⟩:=hc2.A3;have c2:w2.cell? ⟨cy,1,none⟩=some (.func (.func 121) #[ptr cy] #[]):=jc2.cell 1;clear c;go_wp2_with fail;refine tX.o.mono ?_;rintro e w3 ⟨rfl,o3,hH3,hc3,hs3⟩;go_wp2_with fail;go_ret;exact⟨rfl,o3,hH3,hc3,(hs2.mono fun _ h=>tq h).trans hs3⟩
end
end
section
open Go.RowKit Hp
section
variable {P : Program} {ops : Array Oper} {Q : Exit -> Act -> Aa -> Prop} {md : aB} {S : Aa -> Prop} {n : Nat}
def wu (P:Program)(md:aB)(ops:Array Oper)(Q:Exit->Act->Aa->Prop)(S:Aa->Prop)(n:Nat):Nat->Array Bool->Act->Aa->Prop
 | 0,listed,a,w=>ai md ops listed=[]/\Q .normal a w
 | fuel+1,listed,a,w =>
  (ai md ops listed=[]->Q .normal a w) /\
  ∀ i ∈ ai md ops listed,wpOp P ops Q i (fun a' w'=>(i<n->S w')/\wu P md ops Q S n fuel (listed.setIfInBounds i true) a' w') a w
def Wy:∀ (fuel:Nat)(listed:Array Bool)(a:Act)(w:Aa),wu P md ops Q S n fuel listed a w->wpAny P md ops Q fuel listed a w
 | 0,_,_,_,h=>h
 | fuel+1,_,_,_,h=>⟨h.1,fun i hi=>wpOp_mono (fun a' w' h'=>Wy fuel _ a' w' h'.2) (h.2 i hi)⟩
def F6 (md:aB)(ops:Array Oper)(n i:Nat):Bool:=(aY ops.size).all fun j=>decide (j<n)||(ops[j]?.map fun o=>o.after.any fun e=>aD md e&&e.on==i).getD true
def qmb {i:Nat}(h:F6 md ops n i=true){j:Nat}{oj:Oper}(hj:ops[j]?=some oj)(hn:n<=j):∃ e ∈ oj.after,aD md e=true/\e.on=i:=by
 have hlt:=(Qf.1 hj).1;have h1:=List.all_eq_true.1 h j (List.mem_range.2 hlt);rw[hj,decide_eq_false (by omega)]at h1
 simp only[Bool.false_or,aV,aS]at h1;obtain⟨k,hk,h2⟩:=Array.any_eq_true.1 h1;simp only[Bool.and_eq_true,beq_iff_eq]at h2;exact⟨_,Array.getElem_mem hk,h2⟩
def qh5 {i:Nat}{oi:Oper}{v:Ac}(hi:ops[i]?=some oi)(hsel:∀ (j:Nat)(o:Oper) cs b,ops[j]?=some o->o.op≠.select cs b)
  (hQ:∀ c a w,Q (.panic c) (a.put oi.dst v) w->Q (.panic c) a w)(Adh:F6 md ops n i=true) :
  ∀ (fuel:Nat)(listed:Array Bool)(a:Act)(w:Aa),
   (∀ j oj,ops[j]?=some oj->j≠i->listed.getD j true=false->(∀ e ∈ oj.after,aD md e=true->e.on≠i)->oi.apart ops oj=true) ->
   i ∈ ai md ops listed->YieldsIf P ops S oi v a->S w ->
   wu P md ops Q S n fuel (listed.setIfInBounds i true) (a.put oi.dst v) w->wu P md ops Q S n (fuel+1) listed a w:=by
 intro fuel;induction fuel with
 | zero =>
  intro listed a w _ hr hy hS H;refine⟨fun h=>(by rw[h]at hr;cases hr),fun j hj=>?_⟩
  by_cases hji:j=i
  ·subst hji;exact hy.wpOp hi hS ⟨fun _=>hS,H⟩
  ·have:=ready_mono hj hji
   rw[H.1]at this
   cases this
 | succ fuel ih =>
  intro listed a w hfree hr hy hS H;refine⟨fun h=>(by rw[h]at hr;cases hr),fun j hj=>?_⟩
  by_cases hji:j=i
  ·subst hji;exact hy.wpOp hi hS ⟨fun _=>hS,H⟩
  ·have h1:=H.2 j (ready_mono hj hji)
   obtain⟨hjun,oj,hoj,hall⟩:=mem_ready.1 hj;have hnot:∀ e ∈ oj.after,aD md e=true->e.on≠i:=fun e he hb heq=>by
    have h1:=hall e he hb;have h0:=(mem_ready.1 hr).1;rw[heq]at h1;rcases aT i listed.size with h'|h'
    ·simp[h']at h0 h1;rw[h0]at h1;cases h1
    ·simp[aX h']at h1
   have hjn:j<n:=by
    rcases aT j n with h'|h'
    ·exact h'
    ·obtain⟨e,he,hb,heq⟩:=qmb Adh hoj h'
     exact absurd heq (hnot e he hb)
   have h2:=wpOp_putIf hoj (hfree j oj hoj hji hjun hnot) (fun cs b=>hsel i oi cs b hi) (fun cs b=>hsel j oj cs b hoj) hQ hy h1;have hfree':∀ k ok,ops[k]?=some ok->k≠i->(listed.setIfInBounds j true).getD k true=false ->
     (∀ e ∈ ok.after,aD md e=true->e.on≠i)->oi.apart ops ok=true:=fun k ok hk hki hun hno=>by
    refine hfree k ok hk hki ?_ hno;by_cases hjk:j=k
    ·subst hjk;exact hjun
    ·rw[getD_set_ne true hjk]at hun;exact hun
   refine wpOp_mono (fun a' w' h3=>⟨h3.2.1,ih (listed.setIfInBounds j true) a' w' hfree' (ready_mono hr (Ne.symm hji)) h3.1 (h3.2.1 hjn) ?_⟩) h2;rw[Array.setIfInBounds_comm _ _ hji];exact h3.2.2
def qke {i:Nat}{oi:Oper}{v:Ac}{fuel:Nat}{listed:Array Bool}{a:Act}{w:Aa}(hi:ops[i]?=some oi)
  (hs:Region.noSelect ops=true)(hf:Region.free md ops listed i=true)(hr:(ai md ops listed).contains i=true)(hl:F6 md ops n i=true)
  (hQ:∀ c a w,Q (.panic c) (a.put oi.dst v) w->Q (.panic c) a w)(hy:YieldsIf P ops S oi v a)(hS:S w)
  (h:wu P md ops Q S n fuel (listed.setIfInBounds i true) (a.put oi.dst v) w):wu P md ops Q S n (fuel+1) listed a w:=
 qh5 hi (Region.noSelect_spec hs) hQ hl fuel listed a w (Region.free_spec hi hf) (by simpa using hr) hy hS h
def ql8 {i:Nat}{fuel:Nat}{listed:Array Bool}{a:Act}{w:Aa}(hr:ai md ops listed=[i])
  (h:wpOp P ops Q i (fun a' w'=>(i<n->S w')/\wu P md ops Q S n fuel (listed.setIfInBounds i true) a' w') a w):wu P md ops Q S n (fuel+1) listed a w:=
 ⟨fun h0=>(by rw[hr]at h0;cases h0),fun j hj=>by rw[hr,Zb]at hj;rw[hj];exact h⟩
def VU {i:Nat}{o:Oper}{fuel:Nat}{listed:Array Bool}{a:Act}{w:Aa}(hr:ai md ops listed=[i])(ho:ops[i]?=some o)
  (h:∀ K:Act->Aa->Prop,Go.Shut (∀ a' w',(i<n->S w')->wu P md ops Q S n fuel (listed.setIfInBounds i true) a' w'->K a' w')->if Region.wanted o (yielded ops a.tmps)=true then o.wp P a w K Q else K (a.put o.dst undef) w):wu P md ops Q S n (fuel+1) listed a w:=by
 refine ql8 hr ?_;have h1:=h (fun a' w'=>(i<n->S w')/\wu P md ops Q S n fuel (listed.setIfInBounds i true) a' w') fun a' w' h2 h3=>⟨h2,h3⟩
 unfold wpOp;simp only[ho];split
 ·rename_i hw;rw[if_pos hw]at h1;exact .inl h1
 ·rename_i hw;rw[if_neg hw]at h1;exact h1
def qjm {listed:Array Bool}{a:Act}{w:Aa}(hr:ai md ops listed=[])(h:Q .normal a w):wu P md ops Q S n 0 listed a w:=⟨hr,h⟩
def qd8 {id:Nat}{a:Act}{w:Aa}(S:Aa->Prop)(n:Nat)(hm:P.follows .mixedOrders=true)
  (h:wu P .any ops Q S n ops.size (aW ops.size false) a w.drew):(Code.region id ops true).wp P Q a w:=
 wp_region_any hm (Wy _ _ _ _ h)
end
section
variable {P : Program} {ops : Array Oper} {Q : Exit -> Act -> Aa -> Prop} {md : aB} {S : Aa -> Prop} {n : Nat}
def U9 (md:aB)(ops:Array Oper)(n:Nat):List Nat->Array Bool->Bool
 | [],_=>true
 | i::is,l=>Region.free md ops l i&&(ai md ops l).contains i&&F6 md ops n i&&U9 md ops n is (l.setIfInBounds i true)
def Q1 (P:Program)(md:aB)(ops:Array Oper)(Q:Exit->Act->Aa->Prop)(S:Aa->Prop)(n:Nat):List Nat->Nat->Array Bool->Act->Aa->Prop
 | [],F,l,a,w=>wu P md ops Q S n F l a w
 | i::is,F,l,a,w=>∃ oi v,ops[i]?=some oi/\YieldsIf P ops S oi v a/\Q1 P md ops Q S n is (F-1) (l.setIfInBounds i true) (a.put oi.dst v) w
def Vj {i:Nat}{is:List Nat}{F:Nat}{l:Array Bool}{a:Act}{w:Aa}{oi:Oper}{v:Ac}(hi:ops[i]?=some oi)(hy:YieldsIf P ops S oi v a)(h:Q1 P md ops Q S n is (F-1) (l.setIfInBounds i true) (a.put oi.dst v) w):Q1 P md ops Q S n (i::is) F l a w:=⟨oi,v,hi,hy,h⟩
def Vk {F:Nat}{l:Array Bool}{a:Act}{w:Aa}(h:wu P md ops Q S n F l a w):Q1 P md ops Q S n [] F l a w:=h
def yw (hs:Region.noSelect ops=true)(mU:∀ c d x a w,Q (.panic c) (a.put d x) w->Q (.panic c) a w) :
  ∀ (is:List Nat){F:Nat}{l:Array Bool}{a:Act}{w:Aa},U9 md ops n is l=true->is.length<=F->S w->Q1 P md ops Q S n is F l a w->wu P md ops Q S n F l a w
 | [],_,_,_,_,_,_,_,h=>h
 | i::is,F,l,a,w,hB,hF,hS,h=>by
  obtain⟨oi,v,hi,hy,h⟩:=h;simp only[U9,Bool.and_eq_true]at hB;obtain⟨⟨⟨h1,h2⟩,h3⟩,h4⟩:=hB;obtain⟨F',rfl⟩:∃ F',F=F'+1:=⟨F-1,by simp only[Qv]at hF;omega⟩
  exact qke hi hs h1 h2 h3 (fun c a w h=>mU c _ _ a w h) hy hS (yw hs mU is h4 (by simp only[Qv]at hF;omega) hS h)
end
def pw (n:Nat):Code->Option Code
 | .region k ops d=>if k=n then some (.region k ops d) else none
 | .seq a b=>match pw n a with
  | some c=>some c
  | none=>pw n b
 | .cond _ a b=>match pw n a with
  | some c=>some c
  | none=>pw n b
 | .block _ a=>pw n a
 | .loop a=>pw n a
 | .scope a=>pw n a
 | _=>none
