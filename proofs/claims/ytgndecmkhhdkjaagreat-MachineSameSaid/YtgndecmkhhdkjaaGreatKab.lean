import Derived.Test.YtgndecmkhhdkjaaGreatKaa
import Derived.Lib.AtoiAll
import Derived.Lib.ItoaNum
import Derived.Lib.Split
set_option linter.all false
set_option maxRecDepth 1000000
set_option maxHeartbeats 0
open Go renaming World->Aa,Calls->Ab,Value->Ac
open Go.RowKit renaming Below->Ae
open Go.Value renaming int->I,pointer->Ah,slice->Ai,tuple->Ak,agg->Al
open Go.IntKind renaming i64->Z
open Go.Ending renaming returned->O
open Go.Value renaming int->Ad
open Go.Proofs.Tryz
namespace Go.Proofs.YtgndecmkhhdkjaaGreat.Pg
open Go.Lib
structure D where
 k:Int
 a:Int
 b:Int
 i:Int
 n:Int
 deriving DecidableEq
structure Pt where
 f:Nat
 lo:Int
 hi:Int
 deriving DecidableEq
def D.get (d:D):Nat->Int
 | 1=>d.a
 | 2=>d.b
 | 3=>d.i
 | _=>d.n
def D.set (d:D):Nat->Int->D
 | 1,v=>{ d with a:=v }
 | 2,v=>{ d with b:=v }
 | 3,v=>{ d with i:=v }
 | _,v=>{ d with n:=v }
def bare (k:Int):D:=⟨k,0,0,0,0⟩
def pa:Pt:=⟨1,0,5⟩
def pb:Pt:=⟨2,0,5⟩
def pf:Pt:=⟨3,0,7⟩
def ps:Pt:=⟨3,0,4⟩
def pn:Pt:=⟨4,0,4⟩
def pv:Pt:=⟨4,-1000000,1000000⟩
def parts (k:Int):List Pt:=
 if k=1 then [pa,ps,pn] else if k=2 then [pa,ps,pn] else if k=3 then [pa,pb] else if k=4 then [pa,pb,pf]
 else if k=5 then [pa,pf,pb] else if k=6 then [pa,pf] else if k=7 then [pa,pf,pv] else if k=8 then [pa]
 else if k=9 then [pa,pb] else if k=10 then [pa] else if k=11 then [pa,pb] else if k=12 then [pa,pb]
 else if k=13 then [pa] else []
def Gk (k:Int):String:=
 if k=1 then "alloc" else if k=2 then "final" else if k=3 then "weak" else if k=4 then "get"
 else if k=5 then "put" else if k=6 then "read" else if k=7 then "write" else if k=8 then "free"
 else if k=9 then "load" else if k=10 then "take" else if k=11 then "same" else if k=12 then "move"
 else if k=13 then "nil" else if k=14 then "abort" else ""
def word (k:Int):List UInt8:=(Gk k).toUTF8.data.toList
def strip (d:D):D:=(parts d.k).foldl (fun x p=>x.set p.f (d.get p.f)) (bare d.k)
def right (d:D):Bool:=decide (1<=d.k/\d.k<=14)&&(parts d.k).all (fun p=>decide (p.lo<=d.get p.f/\d.get p.f<=p.hi))&&decide (strip d=d)
def tail (d:D):List UInt8:=(parts d.k).flatMap fun p=>32::itoa (d.get p.f)
def print (d:D):List UInt8:=word d.k++tail d
def kinds {k:Int}(h:1<=k/\k<=14):k=1\/k=2\/k=3\/k=4\/k=5\/k=6\/k=7\/k=8\/k=9\/k=10\/k=11\/k=12\/k=13\/k=14:=by omega
def sp:List UInt8:=[32]
def K6 (k:Int)(h:1<=k/\k<=14):3<=(word k).length/\(word k).length<=5/\(parts k).length<=3/\((parts k).length=0->(word k).length=5):=by
 rcases kinds h with rfl|rfl|rfl|rfl|rfl|rfl|rfl|rfl|rfl|rfl|rfl|rfl|rfl|rfl<;>decide +kernel
def fits (w:List UInt8)(n:Nat)(k:Int):Bool:=decide (word k=w/\(parts k).length=n)
def Fv {d:D}(h:right d=true):∀ p ∈ parts d.k,p.lo<=d.get p.f/\d.get p.f<=p.hi:=by
 simp only[right,Bool.and_eq_true,decide_eq_true_eq,List.all_eq_true]at h;exact h.1.2
def Kb {k:Int}:∀ p ∈ parts k,-1000000<=p.lo/\p.hi<=1000000/\1<=p.f/\p.f<=4:=by
 intro p hp;by_cases h:1<=k/\k<=14
 ·revert p
  rcases kinds h with rfl|rfl|rfl|rfl|rfl|rfl|rfl|rfl|rfl|rfl|rfl|rfl|rfl|rfl<;>decide
 ·have:parts k=[]:=by unfold parts;repeat (rw[if_neg (by omega)])
  rw[this]at hp;cases hp
end Go.Proofs.YtgndecmkhhdkjaaGreat.Pg
namespace Go.Proofs.YtgndecmkhhdkjaaGreat
open Go.RowKit
def Sn:Nat->Ac
 | 1=>.func (.func 103) #[] #[]
 | 2=>.func (.func 104) #[] #[]
 | 3=>.func (.func 105) #[] #[]
 | _=>.func (.func 106) #[] #[]
def lz (ps:List Pg.Pt):List Ac:=ps.flatMap fun p=>[Sn p.f,I Z p.lo,I Z p.hi]
def PartsAt (w:Aa)(v:Ac)(ps:List Pg.Pt):Prop:=
 ps=[]/\v=Ai none 0 0\/∃ g,v=Ai (some ⟨g,0,none⟩) ps.length ps.length/\An w g (lz ps).toArray 128
def PR (k:Int):ByteArray:=(Pg.Gk k).toUTF8
def qv (k:Int)(w:Aa):Prop:=Ab Tryz.prog 67 #[k] w fun e w' =>
  ∃ v,e=O (Ak #[.string (PR k),v])/\PartsAt w' v (Pg.parts k)/\Ae w w w'
def Pa (w:Aa):qv 1 w:=by
 unfold qv;go_in;go_wp2;go_region;go_wp2;go_ret2;refine⟨_,rfl,.inr ⟨_,rfl,An.Ax _ _ _ _ _ (by simp) rfl⟩,?_⟩
 repeat (first|exact Below.refl _ _|refine Below.drew ?_|refine qc ?_ _)
def Pb (w:Aa):qv 2 w:=by
 unfold qv;go_in;go_wp2;go_region;go_wp2;go_ret2;refine⟨_,rfl,.inr ⟨_,rfl,An.Ax _ _ _ _ _ (by simp) rfl⟩,?_⟩
 repeat (first|exact Below.refl _ _|refine Below.drew ?_|refine qc ?_ _)
def Pd (w:Aa):qv 3 w:=by
 unfold qv;go_in;go_wp2;go_region;go_wp2;go_ret2;refine⟨_,rfl,.inr ⟨_,rfl,An.Ax _ _ _ _ _ (by simp) rfl⟩,?_⟩
 repeat (first|exact Below.refl _ _|refine Below.drew ?_|refine qc ?_ _)
def Pe (w:Aa):qv 4 w:=by
 unfold qv;go_in;go_wp2;go_region;go_wp2;go_ret2;refine⟨_,rfl,.inr ⟨_,rfl,An.Ax _ _ _ _ _ (by simp) rfl⟩,?_⟩
 repeat (first|exact Below.refl _ _|refine Below.drew ?_|refine qc ?_ _)
def Pf (w:Aa):qv 5 w:=by
 unfold qv;go_in;go_wp2;go_region;go_wp2;go_ret2;refine⟨_,rfl,.inr ⟨_,rfl,An.Ax _ _ _ _ _ (by simp) rfl⟩,?_⟩
 repeat (first|exact Below.refl _ _|refine Below.drew ?_|refine qc ?_ _)
def Ph (w:Aa):qv 6 w:=by
 unfold qv;go_in;go_wp2;go_region;go_wp2;go_ret2;refine⟨_,rfl,.inr ⟨_,rfl,An.Ax _ _ _ _ _ (by simp) rfl⟩,?_⟩
 repeat (first|exact Below.refl _ _|refine Below.drew ?_|refine qc ?_ _)
def Pj (w:Aa):qv 7 w:=by
 unfold qv;go_in;go_wp2;go_region;go_wp2;go_ret2;refine⟨_,rfl,.inr ⟨_,rfl,An.Ax _ _ _ _ _ (by simp) rfl⟩,?_⟩
 repeat (first|exact Below.refl _ _|refine Below.drew ?_|refine qc ?_ _)
def Pk (w:Aa):qv 8 w:=by
 unfold qv;go_in;go_wp2;go_region;go_wp2;go_ret2;refine⟨_,rfl,.inr ⟨_,rfl,An.Ax _ _ _ _ _ (by simp) rfl⟩,?_⟩
 repeat (first|exact Below.refl _ _|refine Below.drew ?_|refine qc ?_ _)
def Pm (w:Aa):qv 9 w:=by
 unfold qv;go_in;go_wp2;go_region;go_wp2;go_ret2;refine⟨_,rfl,.inr ⟨_,rfl,An.Ax _ _ _ _ _ (by simp) rfl⟩,?_⟩
 repeat (first|exact Below.refl _ _|refine Below.drew ?_|refine qc ?_ _)
def LX (w:Aa):qv 10 w:=by
 unfold qv;go_in;go_wp2;go_region;go_wp2;go_ret2;refine⟨_,rfl,.inr ⟨_,rfl,An.Ax _ _ _ _ _ (by simp) rfl⟩,?_⟩
 repeat (first|exact Below.refl _ _|refine Below.drew ?_|refine qc ?_ _)
def LY (w:Aa):qv 11 w:=by
 unfold qv;go_in;go_wp2;go_region;go_wp2;go_ret2;refine⟨_,rfl,.inr ⟨_,rfl,An.Ax _ _ _ _ _ (by simp) rfl⟩,?_⟩
 repeat (first|exact Below.refl _ _|refine Below.drew ?_|refine qc ?_ _)
def LZ (w:Aa):qv 12 w:=by
 unfold qv;go_in;go_wp2;go_region;go_wp2;go_ret2;refine⟨_,rfl,.inr ⟨_,rfl,An.Ax _ _ _ _ _ (by simp) rfl⟩,?_⟩
 repeat (first|exact Below.refl _ _|refine Below.drew ?_|refine qc ?_ _)
def L0 (w:Aa):qv 13 w:=by
 unfold qv;go_in;go_wp2;go_region;go_wp2;go_ret2;refine⟨_,rfl,.inr ⟨_,rfl,An.Ax _ _ _ _ _ (by simp) rfl⟩,?_⟩
 repeat (first|exact Below.refl _ _|refine Below.drew ?_|refine qc ?_ _)
def L1 (w:Aa):qv 14 w:=by
 unfold qv;go_in;go_wp2;go_wp2;go_ret2;refine⟨_,rfl,.inl ⟨rfl,rfl⟩,?_⟩
 repeat (first|exact Below.refl _ _|refine Below.drew ?_|refine qc ?_ _)
def qo6 (k:Int)(hk:k<1\/14<k)(w:Aa):qv k w:=by
 have hw:PR k=⟨#[]⟩:=by
  unfold PR Pg.Gk;repeat (rw[if_neg (by omega)])
  rfl
 have hp:Pg.parts k=[]:=by
  unfold Pg.parts;repeat (rw[if_neg (by omega)])
 unfold qv;rw[hw,hp];clear hw hp;have n1:(k==1)=false:=Qh.2 (by omega)
 have n2:(k==2)=false:=Qh.2 (by omega)
 have n3:(k==3)=false:=Qh.2 (by omega)
 have n4:(k==4)=false:=Qh.2 (by omega)
 have n5:(k==5)=false:=Qh.2 (by omega)
 have n6:(k==6)=false:=Qh.2 (by omega)
 have n7:(k==7)=false:=Qh.2 (by omega)
 have n8:(k==8)=false:=Qh.2 (by omega)
 have n9:(k==9)=false:=Qh.2 (by omega)
 have n10:(k==10)=false:=Qh.2 (by omega)
 have n11:(k==11)=false:=Qh.2 (by omega)
 have n12:(k==12)=false:=Qh.2 (by omega)
 have n13:(k==13)=false:=Qh.2 (by omega)
 have n14:(k==14)=false:=Qh.2 (by omega)
 clear hk;go_in;go_wp2;go_ret2;refine⟨_,rfl,.inl ⟨rfl,rfl⟩,?_⟩
 repeat (first|exact Below.refl _ _|refine Below.drew ?_|refine qc ?_ _)
def XS (k:Int)(w:Aa):qv k w:=by
 by_cases h:1<=k/\k<=14
 ·rcases Pg.kinds h with rfl|rfl|rfl|rfl|rfl|rfl|rfl|rfl|rfl|rfl|rfl|rfl|rfl|rfl
  ·exact Pa w
  ·exact Pb w
  ·exact Pd w
  ·exact Pe w
  ·exact Pf w
  ·exact Ph w
  ·exact Pj w
  ·exact Pk w
  ·exact Pm w
  ·exact LX w
  ·exact LY w
  ·exact LZ w
  ·exact L0 w
  ·exact L1 w
 ·exact qo6 k (by omega) w
def ju (d:Pg.D):Array Ac:=#[d.k,d.a,d.b,d.i,d.n]
def qma {k:Int}(h:1<=k/\k<=14):(PR k).toList.isEmpty=false:=by
 rcases Pg.kinds h with rfl|rfl|rfl|rfl|rfl|rfl|rfl|rfl|rfl|rfl|rfl|rfl|rfl|rfl<;>decide +kernel
def Xg:∀ (ps:List Pg.Pt)(j:Nat)(p:Pg.Pt),ps[j]?=some p ->
  (lz ps)[j*3]?=some (Sn p.f)/\(lz ps)[j*3+1]?=some (I Z p.lo)/\(lz ps)[j*3+2]?=some (I Z p.hi)
 | [],j,p,h=>by simp at h
 | q::ps,0,p,h=>by
  simp only[List.getElem?_cons_zero,Zc]at h;subst h;exact⟨rfl,rfl,rfl⟩
 | q::ps,j+1,p,h=>by
  have ih:=Xg ps j p (by simpa using h)
  have e:lz (q::ps)=[Sn q.f,I Z q.lo,I Z q.hi]++lz ps:=rfl;rw[e,show (j+1)*3=j*3+3 from by omega]
  refine⟨?_,?_,?_⟩
  ·rw[Ql (by simp)];simpa using ih.1
  ·rw[Ql (by simp)];simpa using ih.2.1
  ·rw[Ql (by simp)];simpa using ih.2.2
def Pg.pre (d:Pg.D)(ps:List Pg.Pt):Pg.D:=ps.foldl (fun x p=>x.set p.f (d.get p.f)) (Pg.bare d.k)
def Kd (d:Pg.D)(ps:List Pg.Pt)(p:Pg.Pt):Pg.pre d (ps++[p])=(Pg.pre d ps).set p.f (d.get p.f):=by simp[Pg.pre]
def RZ (d:Pg.D)(f:Nat)(v:Int):(d.set f v).k=d.k:=by unfold Pg.D.set;split<;>rfl
def Ji (d:Pg.D):∀ (ps:List Pg.Pt)(x:Pg.D),(ps.foldl (fun x p=>x.set p.f (d.get p.f)) x).k=x.k
 | [],_=>rfl
 | p::ps,x=>by rw[List.foldl_cons,Ji d ps,RZ]
def NB (d:Pg.D)(ps:List Pg.Pt):(Pg.pre d ps).k=d.k:=Ji d ps _
def pj {d:Pg.D}{p:Pg.Pt}(hp:p ∈ Pg.parts d.k)(h:d.get p.f<p.lo\/p.hi<d.get p.f):Pg.right d=false:=by
 cases hr:Pg.right d with
 | false=>rfl
 | true=>have:=Pg.Fv hr p hp;omega
def XB {d:Pg.D}(hk:1<=d.k/\d.k<=14)(h:∀ p ∈ Pg.parts d.k,p.lo<=d.get p.f/\d.get p.f<=p.hi):Pg.right d=decide (Pg.strip d=d):=by
 have h1:decide (1<=d.k/\d.k<=14)=true:=decide_eq_true hk;have h2:(Pg.parts d.k).all (fun p=>decide (p.lo<=d.get p.f/\d.get p.f<=p.hi))=true:=by
  rw[List.all_eq_true];exact fun p hp=>decide_eq_true (h p hp)
 unfold Pg.right;rw[h1,h2];rfl
def g9 {α:Type}(l:List α)(j:Nat)(p:α)(h:l[j]?=some p):l.take (j+1)=l.take j++[p]:=by
 rw[List.take_add_one,h];rfl
def qk7 (k a b i n:Int)(hk:1<=k/\k<=14)(w:Aa):Ab Tryz.prog 38 #[Al #[k,a,b,i,n]] w fun e w' =>
  e=O (.bool (Pg.right ⟨k,a,b,i,n⟩))/\Ae w w w':=by
 have hwd:=qma hk;go_in;go_wp2_with fail;refine (XS k _).mono ?_
 rintro e w1 ⟨v,rfl,hp,hb⟩
 have hB:An w1 w (ju ⟨k,a,b,i,n⟩) 44:=(An.new w _ _).below hb (by simp)
 have c1:=hB.cell;have s1:=hB.lt;simp only[ju]at c1;go_upto_region 4 with fail;go_cut [5,6] (fun vh vb wx=>∃ H B,vh=Ah (some ⟨H,0,none⟩)/\vb=Ah (some ⟨B,0,none⟩)/\H≠B/\w1.1.size<=H/\w1.1.size<=B/\An wx H (ju ⟨k,a,b,i,n⟩) 125/\An wx B (ju (Pg.bare k)) 125/\Ae w1 w1 wx)
 case first =>
  go_region
  ·go_wp2_with fail
   go_meet;exact⟨_,_,rfl,rfl,by omega,by omega,by omega,(An.Ax _ _ _ _ _ (by simp) rfl).alloc _,An.Ax _ _ _ _ _ (by simp) rfl,Below.drew (qc (qc (Below.refl _ _) _) _)⟩
  ·go_wp2_with fail
   go_meet;exact⟨_,_,rfl,rfl,by omega,by omega,by omega,An.Ax _ _ _ _ _ (by simp) rfl,(An.Ax _ _ _ _ _ (by simp) rfl).alloc _,Below.drew (qc (qc (Below.refl _ _) _) _)⟩
 case rest =>
  obtain⟨H,B,rfl,rfl,hne,hH,hBl,kH,kB,hb2⟩:=hcut;have hle:w.1.size<w1.1.size:=by have:=hB.lt;omega
  rcases hp with ⟨hp,rfl⟩|⟨g,rfl,hg⟩
  ·have hbw:Ae w w wc:=qe (qe (qc (Below.refl _ _) _) hb) hb2
   have hx:Pg.strip ⟨k,a,b,i,n⟩=Pg.bare k:=by unfold Pg.strip;rw[show (⟨k,a,b,i,n⟩:Pg.D).k=k from rfl,hp];rfl
   have hf:Pg.right ⟨k,a,b,i,n⟩=decide ((⟨k,0,0,0,0⟩:Pg.D)=⟨k,a,b,i,n⟩):=by
    rw[XB hk (fun p hq=>by rw[show Pg.parts k=[] from hp]at hq;cases hq),hx];rfl
   have HF:=Qa hf;clear hf;have cH:=kH.cell;have sH:=kH.lt;have sB:=kB.lt;have cB:=kB.cell;simp only[ju,Pg.bare]at cH cB;clear hx hp;go_wp2_with fail;refine wp_loop_rounds 1 ?_;rw[rounds_succ];go_wp2
   all_goals
    go_ret;refine⟨?_,hbw⟩;rw[HF.o];first|(simp[*];done)|(simp[*];intros;omega)
  ·have hg':=hg.below hb2 hg.lt
   have hsg:=hg.lt;have hbw:Ae w w wc:=qe (qe (qc (Below.refl _ _) _) hb) hb2;have hlen:(Pg.parts k).length<=3:=(Pg.K6 k hk).2.2.1;have hfs:∀ p ∈ Pg.parts k,p.f=1\/p.f=2\/p.f=3\/p.f=4:=fun p hp=>by have:=Pg.Kb p hp;omega
   generalize hps:Pg.parts k=ps at *;have qV:=Qa hps;clear hps;go_wp2_with fail;go_loopw [24,8,9] (fun ix _ _ wr=>∃ j:Nat,ix=I Z j/\j<=ps.length/\An wr H (ju ⟨k,a,b,i,n⟩) 125/\An wr B (ju (Pg.pre ⟨k,a,b,i,n⟩ (ps.take j))) 125/\(∀ p ∈ ps.take j,p.lo<=(⟨k,a,b,i,n⟩:Pg.D).get p.f/\(⟨k,a,b,i,n⟩:Pg.D).get p.f<=p.hi)/\An wr g (lz ps).toArray 128/\Ae w w wr) (fun ix _ _ _=>ps.length-(intOf ix).toNat)
   case atStart=>exact⟨0,rfl,by omega,kH,kB,by simp,hg',hbw⟩
   case round =>
    obtain⟨j,rfl,hj,jH,jB,hall,jg,hbr⟩:=hrel;by_cases hlt:j<ps.length
    ·obtain⟨p,xK⟩:∃ p,ps[j]?=some p:=⟨ps[j],Qb hlt⟩
     have hsn:=g9 ps j p xK;have hps:=Kd ⟨k,a,b,i,n⟩ (ps.take j) p;rw[<-hsn]at hps;have hpf:=hfs p (Qe xK);have hat:=Xg ps j p xK;have sJ:∀ q ∈ ps.take (j+1),q ∈ ps.take j\/q=p:=by rw[hsn];simp
     have HPP:=Qa hps;clear hps hsn;obtain⟨f,lo,hi⟩:=p;simp only at hpf hat;have q0:=(jg.cell (j*3)).trans (by simpa using hat.1)
     have q1:=(jg.cell (j*3+1)).trans (by simpa using hat.2.1)
     have q2:=(jg.cell (j*3+2)).trans (by simpa using hat.2.2)
     have cH:=jH.cell;have sH:=jH.lt;have sB:=jB.lt;have zB:=jB.free;have cB:∃ x1 x2 x3 x4,∀ i,wr.cell? ⟨B,i,none⟩=#[Ad .i64 k,Ad .i64 x1,Ad .i64 x2,Ad .i64 x3,Ad .i64 x4][i]?:=by
      obtain⟨x,hx⟩:=Ja0 (Pg.pre ⟨k,a,b,i,n⟩ (ps.take j));have hxk:x.k=k:=by rw[hx];exact NB _ _
      have:=jB.cell;rw[<-hx]at this;exact⟨x.a,x.b,x.i,x.n,by rw[<-hxk];exact this⟩
     obtain⟨x1,x2,x3,x4,cB⟩:=cB;simp only[ju]at cH;clear hat hg hg' kH kB;rcases hpf with rfl|rfl|rfl|rfl
     all_goals simp only[Sn]at q0
     ·have hno:a<lo\/hi<a->Pg.right ⟨k,a,b,i,n⟩=false:=fun h=>pj (p:=⟨1,lo,hi⟩) (by show _ ∈ Pg.parts k;rw[qV.o];exact Qe xK) h
      have oG:=Qa hno;clear hno;go_wp2
      ·have h:a<lo\/hi<a:=by assumption
       go_ret;rw[oG.o h];exact⟨rfl,qc hbr _⟩
      ·have h:lo<=a/\a<=hi:=by assumption
       go_roundw
       case rel =>
        refine⟨j+1,by go_num,by omega,(jH.Ao (a:=⟨B,1,none⟩) hne _).alloc _,?_,?_,(jg.Ao (a:=⟨B,1,none⟩) (by simp;omega) _).alloc _,qc (qo hbr (by simp;omega) _) _⟩
        ·rw[HPP.o]
         exact (jB.set 1 _).alloc _
        ·intro q hq
         rcases sJ q hq with hq|rfl
         ·exact hall q hq
         ·exact h
       case measure=>simp[intOf];omega
      ·have h:a<lo:=by assumption
       go_ret;rw[oG.o (.inl h)];exact⟨rfl,qc hbr _⟩
     ·have hno:b<lo\/hi<b->Pg.right ⟨k,a,b,i,n⟩=false:=fun h=>pj (p:=⟨2,lo,hi⟩) (by show _ ∈ Pg.parts k;rw[qV.o];exact Qe xK) h
      have oG:=Qa hno;clear hno;go_wp2
      ·have h:b<lo\/hi<b:=by assumption
       go_ret;rw[oG.o h];exact⟨rfl,qc hbr _⟩
      ·have h:lo<=b/\b<=hi:=by assumption
       go_roundw
       case rel =>
        refine⟨j+1,by go_num,by omega,(jH.Ao (a:=⟨B,2,none⟩) hne _).alloc _,?_,?_,(jg.Ao (a:=⟨B,2,none⟩) (by simp;omega) _).alloc _,qc (qo hbr (by simp;omega) _) _⟩
        ·rw[HPP.o]
         exact (jB.set 2 _).alloc _
        ·intro q hq
         rcases sJ q hq with hq|rfl
         ·exact hall q hq
         ·exact h
       case measure=>simp[intOf];omega
      ·have h:b<lo:=by assumption
       go_ret;rw[oG.o (.inl h)];exact⟨rfl,qc hbr _⟩
     ·have hno:i<lo\/hi<i->Pg.right ⟨k,a,b,i,n⟩=false:=fun h=>pj (p:=⟨3,lo,hi⟩) (by show _ ∈ Pg.parts k;rw[qV.o];exact Qe xK) h
      have oG:=Qa hno;clear hno;go_wp2
      ·have h:i<lo\/hi<i:=by assumption
       go_ret;rw[oG.o h];exact⟨rfl,qc hbr _⟩
      ·have h:lo<=i/\i<=hi:=by assumption
       go_roundw
       case rel =>
        refine⟨j+1,by go_num,by omega,(jH.Ao (a:=⟨B,3,none⟩) hne _).alloc _,?_,?_,(jg.Ao (a:=⟨B,3,none⟩) (by simp;omega) _).alloc _,qc (qo hbr (by simp;omega) _) _⟩
        ·rw[HPP.o]
         exact (jB.set 3 _).alloc _
        ·intro q hq
         rcases sJ q hq with hq|rfl
         ·exact hall q hq
         ·exact h
       case measure=>simp[intOf];omega
      ·have h:i<lo:=by assumption
       go_ret;rw[oG.o (.inl h)];exact⟨rfl,qc hbr _⟩
     ·have hno:n<lo\/hi<n->Pg.right ⟨k,a,b,i,n⟩=false:=fun h=>pj (p:=⟨4,lo,hi⟩) (by show _ ∈ Pg.parts k;rw[qV.o];exact Qe xK) h
      have oG:=Qa hno;clear hno;go_wp2
      ·have h:n<lo\/hi<n:=by assumption
       go_ret;rw[oG.o h];exact⟨rfl,qc hbr _⟩
      ·have h:lo<=n/\n<=hi:=by assumption
       go_roundw
       case rel =>
        refine⟨j+1,by go_num,by omega,(jH.Ao (a:=⟨B,4,none⟩) hne _).alloc _,?_,?_,(jg.Ao (a:=⟨B,4,none⟩) (by simp;omega) _).alloc _,qc (qo hbr (by simp;omega) _) _⟩
        ·rw[HPP.o]
         exact (jB.set 4 _).alloc _
        ·intro q hq
         rcases sJ q hq with hq|rfl
         ·exact hall q hq
         ·exact h
       case measure=>simp[intOf];omega
      ·have h:n<lo:=by assumption
       go_ret;rw[oG.o (.inl h)];exact⟨rfl,qc hbr _⟩
    ·obtain rfl:j=ps.length:=by omega
     rw[List.take_length]at jB hall;have cH:=jH.cell;have sH:=jH.lt;have sB:=jB.lt;have cB:=jB.cell;have hx:(Pg.pre ⟨k,a,b,i,n⟩ ps)=Pg.strip ⟨k,a,b,i,n⟩:=by unfold Pg.strip;rw[show (⟨k,a,b,i,n⟩:Pg.D).k=k from rfl,qV.o];rfl
     have hxk:(Pg.pre ⟨k,a,b,i,n⟩ ps).k=k:=NB _ _;generalize Pg.pre ⟨k,a,b,i,n⟩ ps=x at *;obtain⟨xk,x1,x2,x3,x4⟩:=x;obtain rfl:k=xk:=hxk.symm;have hf:Pg.right ⟨k,a,b,i,n⟩=decide ((⟨k,x1,x2,x3,x4⟩:Pg.D)=⟨k,a,b,i,n⟩):=by
      rw[XB hk (fun p hp=>hall p (by rw[<-qV.o];exact hp)),hx]
     have HF:=Qa hf;clear hf;simp only[ju]at cH cB;clear hx hall hg hg' kH kB;clear qV;have hc:(a=x1/\b=x2/\i=x3/\n=x4)\/¬a=x1\/(a=x1/\¬b=x2)\/(a=x1/\b=x2/\¬i=x3)\/(a=x1/\b=x2/\i=x3/\¬n=x4):=by omega
     rcases hc with ⟨rfl,rfl,rfl,rfl⟩|h|⟨rfl,h⟩|⟨rfl,rfl,h⟩|⟨rfl,rfl,rfl,h⟩
     ·go_wp2
      go_ret;refine⟨?_,hbr⟩;rw[HF.o];simp
     all_goals
      have h':=Qh.2 h;go_wp2;go_ret;refine⟨?_,hbr⟩;rw[HF.o];simp[Ne.symm h]
def qnd (k a b i n:Int)(hk:¬(1<=k/\k<=14))(w:Aa):Ab Tryz.prog 38 #[Al #[k,a,b,i,n]] w fun e w' =>
  e=O (.bool (Pg.right ⟨k,a,b,i,n⟩))/\Ae w w w':=by
 have hw:PR k=⟨#[]⟩:=by
  unfold PR Pg.Gk;repeat (rw[if_neg (by omega)])
  rfl
 have hf:Pg.right ⟨k,a,b,i,n⟩=false:=by
  unfold Pg.right;rw[show decide (1<=(⟨k,a,b,i,n⟩:Pg.D).k/\(⟨k,a,b,i,n⟩:Pg.D).k<=14)=false from decide_eq_false hk];rfl
 have hwd:(PR k).toList.isEmpty=true:=by rw[hw];decide +kernel
 rw[hf];clear hf hw;go_in;go_wp2_with fail;refine (XS k _).mono ?_
 rintro e w1 ⟨v,rfl,hp,hb⟩
 go_wp2_with fail;go_ret;exact⟨rfl,qe (qc (Below.refl _ _) _) hb⟩
def Xb (k a b i n:Int)(w:Aa):Ab Tryz.prog 38 #[Al #[k,a,b,i,n]] w fun e w' =>
  e=O (.bool (Pg.right ⟨k,a,b,i,n⟩))/\Ae w w w':=by
 by_cases h:1<=k/\k<=14
 ·exact qk7 k a b i n h w
 ·exact qnd k a b i n h w
def DL (c n:Int):Int:=(if c<0 then -(c+1) else c)%n
def ws (c n:Int)(hn:0<n):0<=DL c n:=by unfold DL;exact Int.emod_nonneg _ (by omega)
def xd (c n:Int)(hn:0<n):DL c n<n:=by unfold DL;exact Int.emod_lt_of_pos _ hn
def FH (c:Int):Prop:=-9223372036854775808<=c/\c<=9223372036854775807
def Wc (c n:Int)(w:Aa)(hn:0<n)(hn2:n<=100000000000)(hc:FH c) :
  Ab Tryz.prog 37 #[c,n] w fun e w'=>e=O (I Z (DL c n))/\w=w':=by
 obtain⟨hc1,hc2⟩:=hc;rcases Int.lt_or_le c 0 with h|h
 ·have e:DL c n=-(c+1).tmod n:=by
   unfold DL;rw[if_pos h,<-Int.neg_tmod,Int.tmod_eq_emod_of_nonneg (by omega)]
  rw[e];clear e;go_in;go_wp2;go_ret;exact⟨rfl,rfl⟩
 ·have e:DL c n=c%n:=by unfold DL;rw[if_neg (by omega)]
  rw[e];clear e;go_in;go_wp2;go_ret;exact⟨rfl,rfl⟩
def Jd (k a b i n:Int):Pg.D:=
 if k=1\/k=2 then⟨k,DL a 6,0,DL i 5,DL n 5⟩
 else if k=3\/k=9\/k=11\/k=12 then⟨k,DL a 6,DL b 6,0,0⟩
 else if k=4\/k=5 then⟨k,DL a 6,DL b 6,DL i 8,0⟩
 else if k=6 then⟨k,DL a 6,0,DL i 8,0⟩
 else if k=7 then⟨k,DL a 6,0,DL i 8,DL n 2000001-1000000⟩
 else if k=14 then⟨k,0,0,0,0⟩
 else⟨k,DL a 6,0,0,0⟩
def fit (d:Pg.D):Pg.D:=Jd (1+DL d.k 14) d.a d.b d.i d.n
def qpc (d:Pg.D):Pg.right (fit d)=true:=by
 have h1:=ws d.k 14 (by omega)
 have h2:=xd d.k 14 (by omega)
 unfold fit;generalize hk:1+DL d.k 14=k;have hk':1<=k/\k<=14:=by omega
 clear hk h1 h2;have a1:=ws d.a 6 (by omega)
 have a2:=xd d.a 6 (by omega)
 have b1:=ws d.b 6 (by omega)
 have b2:=xd d.b 6 (by omega)
 have i1:=ws d.i 5 (by omega)
 have i2:=xd d.i 5 (by omega)
 have j1:=ws d.i 8 (by omega)
 have j2:=xd d.i 8 (by omega)
 have n1:=ws d.n 5 (by omega)
 have n2:=xd d.n 5 (by omega)
 have v1:=ws d.n 2000001 (by omega)
 have v2:=xd d.n 2000001 (by omega)
 rcases Pg.kinds hk' with rfl|rfl|rfl|rfl|rfl|rfl|rfl|rfl|rfl|rfl|rfl|rfl|rfl|rfl
 all_goals
  simp[Jd,Pg.right,Pg.parts,Pg.strip,Pg.pa,Pg.pb,Pg.pf,Pg.ps,Pg.pn,Pg.pv,Pg.D.get,Pg.D.set,Pg.bare];try omega
def LU (d:Pg.D)(hk:FH d.k)(ha:FH d.a)(hb:FH d.b)(hi:FH d.i)(hn:FH d.n)(w:Aa) :
  Ab Tryz.prog 18 #[.agg (ju d)] w fun e w'=>e=O (.agg (ju (fit d)))/\Ae w w w':=by
 obtain⟨rk,a,b,i,n⟩:=d;simp only[fit]at *;have h1:=ws rk 14 (by omega)
 have h2:=xd rk 14 (by omega)
 have hh:∃ k,k=1+DL rk 14/\1<=k/\k<=14:=⟨_,rfl,by omega,by omega⟩
 obtain⟨k,hke,hk1⟩:=hh;rw[<-hke];have hpk:DL rk 14=k-1:=by omega
 have HPK:=Qa hpk;clear hke h1 h2 hpk;have v1:=ws n 2000001 (by omega)
 have v2:=xd n 2000001 (by omega)
 simp only[ju];rcases Pg.kinds hk1 with rfl|rfl|rfl|rfl|rfl|rfl|rfl|rfl|rfl|rfl|rfl|rfl|rfl|rfl
 all_goals
  clear hk1;go_in;go_wp2_with fail;refine (Wc _ _ _ (by omega) (by omega) hk).mono ?_
  rw[HPK.o];rintro e w' ⟨rfl,rfl⟩;go_wp2_with (first|(go_at_call 37;refine (Wc _ _ _ (by omega) (by omega) (by assumption)).mono ?_;rintro e w' ⟨rfl,rfl⟩)|fail)
  refine bodyPost_ret (v:=.agg (ju (Jd _ _ _ _ _))) (by simp[results,results18,go_sem,ju,Jd]) rfl ⟨rfl,?_⟩
  repeat (first|exact Below.refl _ _|refine qc ?_ _|refine qo ?_ (by simp;try omega) _)
