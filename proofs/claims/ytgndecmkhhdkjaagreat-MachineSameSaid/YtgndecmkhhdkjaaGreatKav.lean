import Derived.Test.YtgndecmkhhdkjaaGreatKau
import Derived.Test.YtgndecmkhhdkjaaGreatKaw
set_option linter.all false
set_option maxRecDepth 1000000
set_option maxHeartbeats 0
open Go renaming World->Aa,Calls->Ab,Value->Ac
open Go.RowKit renaming Below->Ae
open Go.Value renaming int->I,pointer->Ah,slice->Ai,tuple->Ak,agg->Al
open Go.IntKind renaming i64->Z
open Go.Ending renaming returned->O
open List renaming replicate->Ad,mem_flatMap->Aj,mem_cons->af,mem_replicate->ai,flatMap_cons->aj,pairwise_map->ay,map_congr_left->aA,map_inj_left->aC,not_mem_nil->aF,mem_filter->aH,set_append_right->aJ,map_cons->aK,map_replicate->aM,getElem_mem->aN,range->aP,append_nil->aQ,mem_range->aR,all_cons->aS,map_map->aU,Nodup->aW,getD->aX
open And renaming intro->aa
open Option renaming isSome_iff_exists->ag,getD_some->aD
open Go.World renaming size_setCell->aB,size_alloc->aO
open Nat renaming sub_self->aG,zero_le->aI,zero_add->aL,zero_mul->aT,le_succ->aV
open Go.Proofs.Tryz
open Go.Proofs.Tryz renaming prog->ANa
namespace Go.Proofs.YtgndecmkhhdkjaaGreat
section
open Go.RowKit Hp
def ze (l:List AE):List Ac:=l.flatMap fun h=>h.cells.toList
def VM:∀ (l:List AE),(ze l).length=l.length*15
 | []=>rfl
 | h::l=>by
  have e:ze (h::l)=h.cells.toList++ze l:=rfl;rw[e,Qd,VM l,Qv];show 15+_=_;omega
def Wm:∀ (l:List AE)(t:Nat)(h:AE),l[t]?=some h->∀ k,k<15->(ze l)[t*15+k]?=h.cells.toList[k]?
 | [],_,_,ht,_,_=>by simp at ht
 | z::l,0,h,ht,k,hk=>by
  simp at ht;subst ht;have e:ze (z::l)=z.cells.toList++ze l:=rfl;have e2:z.cells.toList.length=15:=rfl;rw[e,aT,aL,Qm (by omega)]
 | z::l,t+1,h,ht,k,hk=>by
  have ih:=Wm l t h (by simpa using ht) k hk
  have e:ze (z::l)=z.cells.toList++ze l:=rfl;have e2:z.cells.toList.length=15:=rfl;rw[e,Ql (by omega),e2,<-ih]
  congr 1;omega
def Gi (xs:List Ac)(b:Nat)(h:AE):List Ac:=
 ((((((((((((((xs.set b (I Z h.b)).set (b+1) (I Z h.n)).set (b+2) (I Z h.r.a0)).set (b+3) (I Z h.r.a1)).set (b+4) (I Z h.r.a2)).set (b+5) (I Z h.r.a3)).set (b+6) (I Z h.r.a4)).set (b+7) (I Z h.r.a5)).set (b+8) (I Z h.s.a0)).set (b+9) (I Z h.s.a1)).set (b+10) (I Z h.s.a2)).set (b+11) (I Z h.s.a3)).set (b+12) (I Z h.s.a4)).set (b+13) (I Z h.s.a5)).set (b+14) (.bool h.l)
def qoz (xs ys:List Ac)(b:Nat)(h:AE):Gi (xs++ys) (xs.length+b) h=xs++Gi ys b h:=by
 have e:∀ (ys:List Ac)(k:Nat)(v:Ac),(xs++ys).set (xs.length+b+k) v=xs++ys.set (b+k) v:=fun ys k v=>by
  rw[aJ _ _ (by omega)];congr 2;omega
 have e0:∀ (ys:List Ac)(v:Ac),(xs++ys).set (xs.length+b) v=xs++ys.set b v:=fun ys v=>by
  rw[aJ _ _ (by omega)];congr 2;omega
 unfold Gi;simp only[e0,e]
def VN:∀ (l:List AE)(t:Nat)(h':AE),t<l.length->Gi (ze l) (t*15) h'=ze (l.set t h')
 | [],_,_,ht=>by simp at ht
 | z::l,0,h',_=>by
  have e:ze (z::l)=z.cells.toList++ze l:=rfl;rw[e,aT];rfl
 | z::l,t+1,h',ht=>by
  have ih:=VN l t h' (by simpa using ht)
  have e:ze (z::l)=z.cells.toList++ze l:=rfl;have e2:z.cells.toList.length=15:=rfl;rw[e,show (t+1)*15=z.cells.toList.length+t*15 from by rw[e2];omega,qoz,ih]
  rfl
def Kl (W:Aa)(g b:Nat)(h:AE):Aa:=(((((((((((((((W.setCell ⟨g,b,none⟩ (I Z h.b)).setCell ⟨g,b+1,none⟩ (I Z h.n)).setCell ⟨g,b+2,none⟩ (I Z h.r.a0)).setCell ⟨g,b+3,none⟩ (I Z h.r.a1)).setCell ⟨g,b+4,none⟩ (I Z h.r.a2)).setCell ⟨g,b+5,none⟩ (I Z h.r.a3)).setCell ⟨g,b+6,none⟩ (I Z h.r.a4)).setCell ⟨g,b+7,none⟩ (I Z h.r.a5)).setCell ⟨g,b+8,none⟩ (I Z h.s.a0)).setCell ⟨g,b+9,none⟩ (I Z h.s.a1)).setCell ⟨g,b+10,none⟩ (I Z h.s.a2)).setCell ⟨g,b+11,none⟩ (I Z h.s.a3)).setCell ⟨g,b+12,none⟩ (I Z h.s.a4)).setCell ⟨g,b+13,none⟩ (I Z h.s.a5)).setCell ⟨g,b+14,none⟩ (.bool h.l))
def X3 {W:Aa}{o:Own}{t:Tag}{e:TypeId}{g n cap:Nat}{l:List AE}(h:Row W o t e 15 (Ai (some ⟨g,0,none⟩) n cap) n (ze l)){i:Nat}(hi:i<l.length)(h':AE) :
  Row (Kl W g (i*15) h') o t e 15 (Ai (some ⟨g,0,none⟩) n cap) n (ze (l.set i h')):=by
 rw[<-VN l i h' hi];exact ((((((((((((((h.Dj _ _).Dj _ _).Dj _ _).Dj _ _).Dj _ _).Dj _ _).Dj _ _).Dj _ _).Dj _ _).Dj _ _).Dj _ _).Dj _ _).Dj _ _).Dj _ _).Dj _ _
def Uo {T:Tag->Prop}{o o':Own}{w W:Aa}(h:Stp T o o' w W){g b:Nat}(ht:T (o' g))(z:AE):Stp T o o' w (Kl W g b z):=by
 have k:∀ {W:Aa},Stp T o o' w W->∀ j v,Stp T o o' w (W.setCell ⟨g,j,none⟩ v):=fun h j v=>h.setCell (by exact ht) v
 exact k (k (k (k (k (k (k (k (k (k (k (k (k (k (k h _ _) _ _) _ _) _ _) _ _) _ _) _ _) _ _) _ _) _ _) _ _) _ _) _ _) _ _) _ _
structure Ts (w:Aa)(g b:Nat)(h:AE):Prop where
 c0:w.cell? ⟨g,b,none⟩=some (I Z h.b)
 c1:w.cell? ⟨g,b+1,none⟩=some (I Z h.n)
 c2:w.cell? ⟨g,b+2,none⟩=some (I Z h.r.a0)
 c3:w.cell? ⟨g,b+3,none⟩=some (I Z h.r.a1)
 c4:w.cell? ⟨g,b+4,none⟩=some (I Z h.r.a2)
 c5:w.cell? ⟨g,b+5,none⟩=some (I Z h.r.a3)
 c6:w.cell? ⟨g,b+6,none⟩=some (I Z h.r.a4)
 c7:w.cell? ⟨g,b+7,none⟩=some (I Z h.r.a5)
 c8:w.cell? ⟨g,b+8,none⟩=some (I Z h.s.a0)
 c9:w.cell? ⟨g,b+9,none⟩=some (I Z h.s.a1)
 Q7:w.cell? ⟨g,b+10,none⟩=some (I Z h.s.a2)
 c11:w.cell? ⟨g,b+11,none⟩=some (I Z h.s.a3)
 GI:w.cell? ⟨g,b+12,none⟩=some (I Z h.s.a4)
 Sj:w.cell? ⟨g,b+13,none⟩=some (I Z h.s.a5)
 Lf:w.cell? ⟨g,b+14,none⟩=some (.bool h.l)
def Row.FX {w:Aa}{o:Own}{tg:Tag}{e:TypeId}{n cap:Nat}{pa:Option Addr}{l:List AE}(hr:Row w o tg e 15 (.slice pa n cap) n (ze l)){t:Nat}{h:AE}(ht:l[t]?=some h) :
  ∃ g,pa=some ⟨g,0,none⟩/\n<=cap/\Ts w g (t*15) h:=by
 have ha:=Wm l t h ht;rcases hr.Dc with ⟨_,h0⟩|⟨g,cap',e',hn⟩
 ·have:=ha 0 (by omega)
  rw[h0]at this;simp[AE.cells]at this
 ·injection e' with e1 _ e3
  subst e1 e3;have f:∀ k u,k<15->h.cells.toList[k]?=some u->w.cell? ⟨g,t*15+k,none⟩=some u:=fun k u hk hu=>by
   have:=hr.own.cells (g:=g) rfl (t*15+k) u ((ha k hk).trans hu);rwa [addr_add]at this
  exact⟨g,rfl,hn,f 0 _ (by omega) rfl,f 1 _ (by omega) rfl,f 2 _ (by omega) rfl,f 3 _ (by omega) rfl,f 4 _ (by omega) rfl,f 5 _ (by omega) rfl,f 6 _ (by omega) rfl,f 7 _ (by omega) rfl,f 8 _ (by omega) rfl,f 9 _ (by omega) rfl,f 10 _ (by omega) rfl,f 11 _ (by omega) rfl,f 12 _ (by omega) rfl,f 13 _ (by omega) rfl,f 14 _ (by omega) rfl⟩
structure Mc where
 S:Am
 ps:List (List (List AD))
 hs:List AE
 past:List DW
def R6.places (r:R6):List Nat:=[r.a0.toNat,r.a1.toNat,r.a2.toNat,r.a3.toNat,r.a4.toNat,r.a5.toNat]
def AE.roots (h:AE):List Nat:=h.r.places++h.s.places
def R6.of (l:List Nat):R6:=⟨l.getD 0 0,l.getD 1 0,l.getD 2 0,l.getD 3 0,l.getD 4 0,l.getD 5 0⟩
def AE.place (h:AE)(l:List Nat):AE:={ h with r:=R6.of l,s:=R6.of (l.drop 6) }
def kn:List AE->List Nat->List AE
 | [],_=>[]
 | h::hs,l=>h.place l::kn hs (l.drop 12)
def yd (l:List DW)(x:DW):List DW:=if l.length<2000 then l++[x] else l
def jd (l:List DW)(k:Int)(ns:List Nat):List DW:=ns.foldl (fun (l:List DW)(n:Nat)=>yd l ⟨-1,0,0,⟨k,0,(n:Int)⟩⟩) l
def Dt:AE:=⟨0,0,⟨0,0,0,0,0,0⟩,⟨0,0,0,0,0,0⟩,false⟩
def Mc.h (M:Mc)(t:Nat):AE:=M.hs.getD t Dt
def Mc.p (M:Mc)(t:Nat):List (List AD):=M.ps.getD t []
def Mc.roots (M:Mc):List Nat:=M.hs.flatMap AE.roots
def Mc.DD (M:Mc)(t:Nat):Mc×BD:=
 (⟨(M.S.Bd t (M.p t) (M.h t)).S,M.ps,M.hs.set t (M.S.Bd t (M.p t) (M.h t)).h,if (M.S.Bd t (M.p t) (M.h t)).a.k≠0 then yd M.past ⟨t,(M.h t).b,(M.h t).n,(M.S.Bd t (M.p t) (M.h t)).a⟩ else M.past⟩,(M.S.Bd t (M.p t) (M.h t)).a)
def Mc.step (M:Mc)(t:Int):Mc×BD:=
 if t<0\/(M.hs.length:Int)<=t\/2000<=M.past.length then (M,⟨0,0,0⟩) else M.DD t.toNat
def Mc.told (M:Mc):Mc:={ M with S:={ M.S with came:=[],lost:=[] },past:=jd (jd M.past 5 M.S.came) 4 M.S.lost }
def Mc.collect (M:Mc):Mc×Bool:=
 if 2000<=M.past.length then (M,false)
 else if (M.S.AQ M.roots).2.2=true then (Mc.told { M with S:=(M.S.AQ M.roots).1,hs:=kn M.hs (M.S.AQ M.roots).2.1 },false)
 else (Mc.told { M with S:=M.S.Cp.1 },M.S.Cp.2)
def Mc.done (M:Mc):Bool:=(aP M.hs.length).all fun t=>decide (((M.p t).length:Int)<=(M.h t).b)
def R6.Fy (S:Am)(r:R6):R6:=⟨S.Bc r.a0.toNat,S.Bc r.a1.toNat,S.Bc r.a2.toNat,S.Bc r.a3.toNat,S.Bc r.a4.toNat,S.Bc r.a5.toNat⟩
def AE.Fy (S:Am)(h:AE):AE:={ h with r:=h.r.Fy S,s:=h.s.Fy S }
def Mc.C9 (M:Mc)(t:Int):AE×Bool:=if t<0\/(M.hs.length:Int)<=t then (Dt,false) else ((M.h t.toNat).Fy M.S,true)
structure Cd where
 mb:Nat
 y:Bl
 vp:Ac
 vh:Ac
def KD (W:Aa)(o:Own)(tg:Tag)(v:Ac)(l:List AD):Prop:=l.length<=12/\Row W o tg 44 5 v l.length (kl (l.map AD.D))
def KB (W:Aa)(o:Own)(tg:Tag)(v:Ac)(bs:List (List AD)):Prop:=
 bs.length<=6/\∃ vs:List Ac,vs.length=bs.length/\Row W o tg 45 1 v bs.length vs/\∀ (j:Nat)(l:List AD),bs[j]?=some l->∃ u:Ac,vs[j]?=some u/\KD W o tg u l
def KT (W:Aa)(o:Own)(tg tr:Tag)(v:Ac)(AZ:List (List (List AD))):Prop:=
 AZ.length<=8/\∃ vs:List Ac,vs.length=AZ.length/\Row W o tr 46 1 v AZ.length vs/\∀ (j:Nat)(bs:List (List AD)),AZ[j]?=some bs->∃ u:Ac,vs[j]?=some u/\KB W o tg u bs
section
variable {W W' : Aa} {o o' : Own} {v : Ac} {T : Tag -> Prop} {tg : Tag}
def KD.Ar {l:List AD}(h:KD W o tg v l)(k:Stp T o o' W W')(ht:¬T tg):KD W' o' tg v l:=⟨h.1,h.2.Ar k ht⟩
def KB.Ar {bs:List (List AD)}(h:KB W o tg v bs)(k:Stp T o o' W W')(ht:¬T tg):KB W' o' tg v bs:=by
 obtain⟨h0,vs,h1,h2,h3⟩:=h;exact⟨h0,vs,h1,h2.Ar k ht,fun j l hj=>let⟨u,hu,hd⟩:=h3 j l hj;⟨u,hu,hd.Ar k ht⟩⟩
def KT.Ar {tr:Tag}{AZ:List (List (List AD))}(h:KT W o tg tr v AZ)(k:Stp T o o' W W')(ht:¬T tg)(htr:¬T tr):KT W' o' tg tr v AZ:=by
 obtain⟨h0,vs,h1,h2,h3⟩:=h;exact⟨h0,vs,h1,h2.Ar k htr,fun j l hj=>let⟨u,hu,hd⟩:=h3 j l hj;⟨u,hu,hd.Ar k ht⟩⟩
end
structure BK (w:Aa)(o:Own)(m:Cd)(M:Mc):Prop where
 A3:∃ ve,An w m.mb #[ptr m.y.sb,m.vp,m.vh,.int .i32 0,.int .u32 0,ve] 72/\Row w o (m.y.l.id+2,3) 53 6 ve M.past.length (za M.past)
 st:Av w o m.y M.S
 ps:KT w o (m.y.l.id+2,1) (m.y.l.id+2,4) m.vp M.ps
 hs:Row w o (m.y.l.id+2,2) 49 15 m.vh M.hs.length (ze M.hs)
 om:o m.mb=(m.y.l.id+2,0)
structure Mc.ok (M:Mc):Prop where
 inv:M.S.ok
 len:M.hs.length=M.ps.length
 Au:M.S.Au.length=M.ps.length
 n8:M.ps.length<=8
 th:∀ t,t<M.hs.length->F0 (M.p t) M.S t (M.h t)
 dk:∀ p ∈ M.ps,p.length<=6/\∀ ds ∈ p,ds.length<=12/\∀ d ∈ ds,d.ok/\Pg.right d.D=true
 pl:M.past.length<=2000
 lo:M.S.lost=[]
 ca:M.S.came=[]
def kf (m:Cd)(t:Tag):Prop:=t.1=m.y.l.id\/t.1=m.y.l.id+2
def C2 (m:Cd)(M:Mc)(o:Own)(w w':Aa):Prop:=∃ o',BK w' o' m M/\Stp (kf m) o o' w w'
section
variable {w w' : Aa} {o o' : Own} {m : Cd} {M : Mc}
def BK.Ar {T:Tag->Prop}(h:BK w o m M)(hs:Stp T o o' w w')(h1:∀ j,¬T (m.y.l.id,j))(h2:∀ j,¬T (m.y.l.id+2,j)):BK w' o' m M:=by
 obtain⟨ve,hb,hr⟩:=h.A3;exact⟨⟨ve,hb.Ar hs (by rw[h.om];exact h2 _),hr.Ar hs (h2 _)⟩,h.st.Ar hs h1,h.ps.Ar hs (h2 _) (h2 _),h.hs.Ar hs (h2 _),(hs.tags _ hb.lt).trans h.om⟩
def BK.below (h:BK w o m M)(hb:Ae w w w'):BK w' o m M:=h.Ar (T:=fun _=>False) (Stp.of_below hb) (fun _ h=>h) fun _ h=>h
def BK.lt (h:BK w o m M):m.mb<w.1.size:=by obtain⟨_,hb,_⟩:=h.A3;exact hb.lt
def BK.store (h:BK w o m M){S':Am}(hS:Av w' o' m.y S')(hs:Stp (qi m.y) o o' w w'):BK w' o' m { M with S:=S' }:=by
 obtain⟨ve,hb,hr⟩:=h.A3;have hn:∀ j,¬qi m.y (m.y.l.id+2,j):=fun j e=>by unfold qi at e;simp at e
 exact⟨⟨ve,hb.Ar hs (by rw[h.om];exact hn _),hr.Ar hs (hn _)⟩,hS,h.ps.Ar hs (hn _) (hn _),h.hs.Ar hs (hn _),(hs.tags _ hb.lt).trans h.om⟩
def fz {m:Cd}{t:Tag}(h:qi m.y t):kf m t:=.inl h
def Mc.Fp {M:Mc}{t:Nat}(h:t<M.hs.length):M.hs[t]?=some (M.h t):=by unfold Mc.h;simp[aX,Qb h]
def Mc.Fu {M:Mc}{t:Nat}(h:t<M.ps.length):M.ps[t]?=some (M.p t):=by unfold Mc.p;simp[aX,Qb h]
end
end
section
open Hp
section
variable {S : Am} {i : Nat} {M : Mc}
def KF {d:AD}(hd:d.ok)(h:d.k=1\/d.k=2)(f:Bool):(⟨d.i.toNat,d.n.toNat,false,f⟩:BQ).ok:=by
 have hs:=hd.s h;exact⟨by simp only;omega,by simp only;omega,fun h=>by simp at h⟩
def KM (hk:S.ok)(hi:i<S.Au.length)(h:AE){d:AD}(hd:d.ok):(S.A7 i h d).S.ok:=by
 have hkd:=hd.k;by_cases k1:d.k=1
 ·rw[UD _ _ _ _ k1];exact (Good.BW hk hi (uy hk hi (KF hd (.inl k1) _))).1
 by_cases k2:d.k=2
 ·rw[Uu _ _ _ _ k2];exact (Good.BW hk hi (uy hk hi (KF hd (.inr k2) _))).1
 by_cases k3:d.k=3
 ·rw[Uy _ _ _ _ k3];exact (Good.BW hk hi (TQ hk hi _)).1
 by_cases k4:d.k=4
 ·rw[UK _ _ _ _ k4];exact (Good.BW hk hi (T4 hk hi _ _)).1
 by_cases k9:d.k=9
 ·rw[UL _ _ _ _ k9];exact (Good.BW hk hi (lf hk hi _)).1
 by_cases k10:d.k=10
 ·rw[Ub _ _ _ _ k10];exact (Good.BW hk hi (fy hk hi)).1
 by_cases k5:d.k=5
 ·rw[UM _ _ _ _ k5];exact (Good.BW hk hi (Ua hk hi _ _ _)).1
 by_cases k6:d.k=6
 ·rw[UA _ _ _ _ k6];exact (Good.BW hk hi (ly hk hi _ _)).1
 by_cases k7:d.k=7
 ·rw[UC _ _ _ _ k7];exact (Good.BW hk hi (bj hk hi _ _ hd.n)).1
 by_cases k8:d.k=8
 ·rw[Uv _ _ _ _ k8];exact (Good.BW hk hi (lh hk hi _)).1
 by_cases k11:d.k=11
 ·rw[TP _ _ _ _ k11];exact hk
 by_cases k12:d.k=12
 ·rw[TM _ _ _ _ k12];exact hk
 by_cases k13:d.k=13
 ·rw[T1 _ _ _ _ k13];exact hk
 ·rw[T0 _ _ _ _ (by omega)];exact Am.D6 hk hi
def KO {l:List (List AD)}{h:AE}(hk:S.ok)(hi:i<S.Au.length)(hd:∀ ds ∈ l,∀ d ∈ ds,d.ok):(S.Bd i l h).S.ok:=by
 unfold Am.Bd;split
 ·exact hk
 ·split
  ·unfold Am.BX
   split<;>exact Ud hk hi
  ·split
   ·unfold Am.BC
    split<;>exact (VX hk hi).1
   ·rename_i h1 _ _ d iE
    by_cases hlt:h.b.toNat<l.length
    ·have e0:l.getD h.b.toNat []=l[h.b.toNat]:=by rw[Qi,Qb hlt];rfl
     rw[e0]at iE;exact KM hk hi h (hd _ (aN hlt) d (Qe iE))
    ·have e0:l.getD h.b.toNat []=[]:=by rw[Qi,Za (show l.length<=h.b.toNat by omega)];rfl
     rw[e0]at iE;simp at iE
def Mc.ok.Sk (hk:M.ok)(t:Nat):∀ ds ∈ M.p t,∀ d ∈ ds,d.ok/\Pg.right d.D=true:=by
 intro ds hds d hd;by_cases ht:t<M.ps.length
 ·have hm:M.p t ∈ M.ps:=Qe (Mc.Fu ht)
  exact ((hk.dk _ hm).2 ds hds).2 d hd
 ·unfold Mc.p at hds
  rw[Qi,Za (by omega)]at hds
  simp at hds
def Mc.ok.p6 (hk:M.ok)(t:Nat):(M.p t).length<=6/\∀ ds ∈ M.p t,ds.length<=12:=by
 by_cases ht:t<M.ps.length
 ·have hm:M.p t ∈ M.ps:=Qe (Mc.Fu ht)
  exact⟨(hk.dk _ hm).1,fun ds hds=>((hk.dk _ hm).2 ds hds).1⟩
 ·unfold Mc.p
  rw[Qi,Za (by omega)]
  exact⟨by simp,fun ds hds=>by simp at hds⟩
def Mc.ok.nb (hk:M.ok){t:Nat}(ht:t<M.hs.length):(0<=(M.h t).n/\(M.h t).n<=12)/\0<=(M.h t).b/\(M.h t).b<=6:=by
 have h:=(hk.th t ht).th;have hp:=hk.p6 t;have hb:=h.b;refine⟨⟨h.n,?_⟩,hb.1,by omega⟩
 cases hl:(M.h t).l with
 | false=>have:=(h.idle hl).1;omega
 | true =>
  obtain⟨h1,h2⟩:=h.at' hl;have hlt:(M.h t).b.toNat<(M.p t).length:=by omega
  rw[Qi,Qb hlt]at h2;have:=hp.2 _ (aN hlt);simp only[aD]at h2;omega
def Mc.ok.tst (hk:M.ok){t:Nat}(ht:t<M.hs.length):Vt M.S t (M.p t) (M.h t):=by
 have h:=hk.th t ht;have hb:=hk.nb ht;exact⟨hk.inv,by rw[hk.Au,<-hk.len];exact ht,h.lv,h.th.r.rgs _,by omega,by omega,hk.Sk t⟩
def Mc.ok.keeps (hk:M.ok){t:Nat}(ht:t<M.hs.length):F0 (M.p t) (M.S.Bd t (M.p t) (M.h t)).S t (M.S.Bd t (M.p t) (M.h t)).h/\Ty t M.S (M.S.Bd t (M.p t) (M.h t)).S:=
 VP (hk.th t ht) (by rw[hk.Au,<-hk.len];exact ht) fun ds hds d hd=>(hk.Sk t ds hds d hd).1
def WT {l:List DW}(h:l.length<=2000)(x:DW):(yd l x).length<=2000:=by
 unfold yd;split
 ·rw[Qd,List.length_singleton];omega
 ·exact h
def sy (k:Int):∀ (ns:List Nat){l:List DW},l.length<=2000->(jd l k ns).length<=2000
 | [],_,h=>h
 | n::ns,l,h=>sy k ns (l:=yd l ⟨-1,0,0,⟨k,0,n⟩⟩) (WT h _)
def po (k:Int)(l:List DW)(ns:List Nat)(n:Nat):jd l k (ns++[n])=yd (jd l k ns) ⟨-1,0,0,⟨k,0,n⟩⟩:=by unfold jd;rw[List.foldl_append];rfl
def Nr (hs:List AE)(t u:Nat)(z:AE):(hs.set t z).getD u Dt=if u=t/\t<hs.length then z else hs.getD u Dt:=by
 rw[Qi,Qr,Qi];by_cases h:t=u
 ·subst h
  rw[if_pos rfl];by_cases h2:t<hs.length
  ·rw[if_pos h2,if_pos ⟨rfl,h2⟩];rfl
  ·rw[if_neg h2,if_neg (fun z=>h2 z.2),Za (by omega)]
 ·rw[if_neg h,if_neg (fun z=>h z.1.symm)]
def Mc.Ft (hk:M.ok){t:Nat}(ht:t<M.hs.length):(M.DD t).1.ok:=by
 obtain⟨h1,h2⟩:=hk.keeps ht;have h3:=KO (h:=M.h t) hk.inv (i:=t) (by rw[hk.Au,<-hk.len];exact ht) fun ds hds d hd=>(hk.Sk t ds hds d hd).1
 refine⟨h3,?_,h2.len.trans hk.Au,hk.n8,?_,hk.dk,?_,h2.lost.trans hk.lo,h2.came.trans hk.ca⟩
 ·show (M.hs.set t _).length=_
  rw[Qq];exact hk.len
 ·intro u hu
  have hu':u<M.hs.length:=by simpa [Mc.DD] using hu
  show F0 (M.p u) _ u ((M.hs.set t _).getD u Dt);rw[Nr];by_cases e:u=t
  ·subst e
   rw[if_pos ⟨rfl,ht⟩];exact h1
  ·rw[if_neg (fun z=>e z.1)]
   have h4:=hk.th u hu';exact⟨h4.th,by show ((M.S.Bd t (M.p t) (M.h t)).S.t u).live=_;rw[h2.GK u e];exact h4.lv⟩
 ·show (if _ then yd M.past _ else M.past).length<=2000
  split
  ·exact WT hk.pl _
  ·exact hk.pl
def Mc.E4 (hk:M.ok)(t:Int):(M.step t).1.ok:=by
 unfold Mc.step;split
 ·exact hk
 ·exact Mc.Ft hk (by omega)
def R6.at' (g:Nat->Nat)(r:R6):R6:=⟨g r.a0.toNat,g r.a1.toNat,g r.a2.toNat,g r.a3.toNat,g r.a4.toNat,g r.a5.toNat⟩
def AE.at' (g:Nat->Nat)(h:AE):AE:={ h with r:=h.r.at' g,s:=h.s.at' g }
def si (g:Nat->Nat):∀ (hs:List AE),kn hs ((hs.flatMap AE.roots).map g)=hs.map (AE.at' g)
 | []=>rfl
 | h::hs=>by
  have e:((h::hs).flatMap AE.roots).map g=h.roots.map g++(hs.flatMap AE.roots).map g:=by rw[aj,Qw]
  rw[e];show h.place _::kn hs _=h.at' g::hs.map (AE.at' g);rw[<-si g hs];rfl
def R6.Q5 (g:Nat->Nat)(r:R6):FZ (r.at' g):=by
 intro j hj;rcases six hj with rfl|rfl|rfl|rfl|rfl|rfl<;>exact⟨_,rfl⟩
def CQ.AG {l:List (List AD)}{h:AE}(t:CQ l h)(g:Nat->Nat):CQ l (h.at' g):=
 ⟨R6.Q5 g _,R6.Q5 g _,t.n,t.b,t.at',fun hl=>⟨(t.idle hl).1,by show R6.at' g h.r=R6.at' g h.s;rw[(t.idle hl).2]⟩⟩
def Lw (S:Am) (g:Nat->Nat) (i:Nat) (hi:i<S.Au.length):((S.at' g).t i).live=(S.t i).live:=by
 have h1:(S.at' g).Au[i]?=some ((S.t i).at' g):=by
  show (S.Au.map (Tx.at' g))[i]?=_;rw[Qj,Am.AW hi];rfl
 have h2:=Am.AW (S:=S.at' g) (i:=i) (by show i<(S.Au.map _).length;rw[Qg];exact hi)
 rw[h1]at h2;injection h2 with h2;rw[<-h2];rfl
def Hq (S:Am):S.CG.1.Au=S.Au:=by
 unfold Am.CG;split
 ·rfl
 ·split
  ·rfl
  ·split<;>rfl
def qo7 {S:Am}(hk:S.ok):S.Cp.1.Au=S.Au:=((rp _ (rx hk).1 (rx hk).2).2.1).trans (Hq S)
def Mc.Gg (hk:M.S.ok)(h1:M.hs.length=M.ps.length)(h2:M.S.Au.length=M.ps.length)(h3:M.ps.length<=8)(h4:∀ t,t<M.hs.length->F0 (M.p t) M.S t (M.h t))
  (h5:∀ p ∈ M.ps,p.length<=6/\∀ ds ∈ p,ds.length<=12/\∀ d ∈ ds,d.ok/\Pg.right d.D=true)(h6:M.past.length<=2000):M.told.ok:=
 ⟨Inv.Rm (Inv.Ra hk),h1,h2,h3,fun t ht=>⟨(h4 t ht).th,(h4 t ht).lv⟩,h5,sy 4 _ (sy 5 _ h6),rfl,rfl⟩
def Mc.DT (M:Mc):Mc:={ M with S:=(M.S.AQ M.roots).1,hs:=kn M.hs (M.S.AQ M.roots).2.1 }
def Mc.Gm (M:Mc):Mc:={ M with S:=M.S.Cp.1 }
def dt (h0:M.past.length<2000)(h:(M.S.AQ M.roots).2.2=true):M.collect=(M.DT.told,false):=by
 unfold Mc.collect;rw[if_neg (by omega),if_pos h];rfl
def d8 (h0:M.past.length<2000)(h:(M.S.AQ M.roots).2.2=false):M.collect=(M.Gm.told,M.S.Cp.2):=by
 unfold Mc.collect;rw[if_neg (by omega),if_neg (by rw[h];simp)];rfl
def UY (h:(M.S.AQ M.roots).2.2=true):M.DT.hs=M.hs.map (AE.at' (M.S.begun M.roots).H.now)/\M.DT.S=(M.S.begun M.roots).at' (M.S.begun M.roots).H.now/\M.S.may M.roots=true:=by
 have hm:M.S.may M.roots=true:=by
  unfold Am.AQ at h;split at h
  ·assumption
  ·simp at h
 refine⟨?_,?_,hm⟩
 ·show kn M.hs (M.S.AQ M.roots).2.1=_
  unfold Am.AQ;rw[if_pos hm];exact si _ _
 ·show (M.S.AQ M.roots).1=_
  unfold Am.AQ;rw[if_pos hm]
def Jo (f:AE->AE)(hs:List AE){t:Nat}(ht:t<hs.length):(hs.map f).getD t Dt=f (hs.getD t Dt):=by
 rw[Qi,Qi,Qj,Qb ht];rfl
def Mc.F9 (hk:M.ok)(h:(M.S.AQ M.roots).2.2=true):M.DT.S.ok/\M.DT.hs.length=M.ps.length/\M.DT.S.Au.length=M.ps.length/\∀ t,t<M.DT.hs.length->F0 (M.p t) M.DT.S t (M.DT.h t):=by
 obtain⟨e1,e2,hm⟩:=UY h;have hl:M.DT.hs.length=M.hs.length:=by rw[e1,Qg]
 refine⟨VO hk.inv _,hl.trans hk.len,(qib _ _).trans hk.Au,fun t ht=>?_⟩
 rw[hl]at ht;have h4:=hk.th t ht;have e3:M.DT.h t=(M.h t).at' (M.S.begun M.roots).H.now:=by unfold Mc.h;rw[e1];exact Jo _ _ ht
 rw[e3,e2];exact⟨h4.th.AG _,(Lw _ _ _ (by show t<M.S.Au.length;rw[hk.Au,<-hk.len];exact ht)).trans h4.lv⟩
def Mc.Di (hk:M.ok):M.collect.1.ok:=by
 by_cases h0:M.past.length<2000
 ·cases h:(M.S.AQ M.roots).2.2 with
  | true =>
   rw[dt h0 h];obtain⟨h1,h2,h3,h4⟩:=Mc.F9 hk h;exact Mc.Gg h1 h2 h3 hk.n8 h4 hk.dk hk.pl
  | false =>
   rw[d8 h0 h];have e:=qo7 hk.inv;refine Mc.Gg (M:=M.Gm) (Yf hk.inv) hk.len (by show M.S.Cp.1.Au.length=_;rw[e];exact hk.Au) hk.n8 (fun t ht=>⟨(hk.th t ht).th,?_⟩) hk.dk hk.pl
   have h4:=(hk.th t ht).lv;show (M.S.Cp.1.t t).live=(M.h t).l;unfold Am.t at h4 ⊢;rw[e];exact h4
 ·unfold Mc.collect
  rw[if_pos (by omega)];exact hk
end
structure TA where
 A:As
 h:AE
 a:BD
def EZ (R:Ck)(h:AE)(A:Nat):TA:=⟨R.A,h.D3 A R.v R.e,Gz R.v R.e⟩
def bq (A:As)(v e:Int)(h:AE):TA:=⟨A,h.ended e,ky v e⟩
def As.A7 (S:As)(i:Nat)(h:AE)(d:AD)(m l:Bool):TA:=
 if d.k=1 then EZ (S.AF i (S.AR i ⟨d.i.toNat,d.n.toNat,false,false⟩ m)) h d.A
 else if d.k=2 then EZ (S.AF i (S.AR i ⟨d.i.toNat,d.n.toNat,false,true⟩ m)) h d.A
 else if d.k=3 then EZ (S.AF i (S.BJ i (h.at d.B) m)) h d.A
 else if d.k=4 then EZ (S.AF i (S.CK i (h.at d.B) d.i.toNat)) h d.A
 else if d.k=9 then EZ (S.AF i (S.BZ i (h.at d.B) l)) h d.A
 else if d.k=10 then EZ (S.AF i (S.Bp i)) h d.A
 else if d.k=5 then bq (S.AF i (S.CM i (h.at d.A) d.i.toNat (h.at d.B))).A 0 (S.AF i (S.CM i (h.at d.A) d.i.toNat (h.at d.B))).e h
 else if d.k=6 then bq (S.AF i (S.Ce i (h.at d.A) d.i.toNat)).A (S.AF i (S.Ce i (h.at d.A) d.i.toNat)).v (S.AF i (S.Ce i (h.at d.A) d.i.toNat)).e h
 else if d.k=7 then bq (S.AF i (S.Bs i (h.at d.A) d.i.toNat d.n)).A 0 (S.AF i (S.Bs i (h.at d.A) d.i.toNat d.n)).e h
 else if d.k=8 then bq (S.AF i (S.B4 i (h.at d.A))).A 0 (S.AF i (S.B4 i (h.at d.A))).e h
 else if d.k=11 then bq S (if h.at d.A=h.at d.B then 1 else 0) 0 h
 else if d.k=12 then bq S 0 0 (h.put d.A (h.at d.B))
 else if d.k=13 then bq S 0 0 (h.put d.A 0)
 else ⟨S.abort i,{ h.back with b:=h.b+1 },⟨2,0,0⟩⟩
def As.BC (S:As)(i:Nat)(h:AE):TA:=
 if (S.AF i (S.AJ i)).e=0 then⟨(S.AF i (S.AJ i)).A,⟨h.b+1,0,h.r,h.r,false⟩,⟨3,0,(S.AF i (S.AJ i)).v⟩⟩ else⟨(S.AF i (S.AJ i)).A,h.back,⟨3,(S.AF i (S.AJ i)).e,0⟩⟩
def As.BX (S:As)(i:Nat)(l:Nat)(h:AE):TA:=
 if (S.AS i).2=0 then⟨(S.AS i).1,⟨h.b,0,h.r,h.r,true⟩,⟨1,0,S.now⟩⟩ else⟨(S.AS i).1,⟨l,h.n,h.r,h.s,h.l⟩,⟨1,(S.AS i).2,0⟩⟩
def As.Bd (S:As)(i:Nat)(l:List (List AD))(h:AE)(m lo:Bool):TA:=
 if (l.length:Int)<=h.b then⟨S,h,⟨0,0,0⟩⟩
 else if h.l=false then S.BX i l.length h
 else match (l.getD h.b.toNat [])[h.n.toNat]? with
 | none=>S.BC i h
 | some d=>S.A7 i h d m lo
def Am.full (S:Am)(d:AD):Bool:=if d.k=1 then !S.H.roomy ⟨d.i.toNat,d.n.toNat,false,false⟩ else if d.k=2 then !S.H.roomy ⟨d.i.toNat,d.n.toNat,false,true⟩ else !S.H.roomy C1
section
variable {S : Am} {L : Cx} {A : As} {i p k m : Nat} {h : AE}
def R6.get_at (g:Nat->Nat)(r:R6)(j:Nat):(r.at' g).get j=g (r.get j).toNat:=by
 unfold R6.get R6.at';split<;>rfl
def R6.QC (g:Nat->Nat)(r:R6)(v:Int)(j:Nat):(r.set v j).at' g=(r.at' g).set (g v.toNat) j:=by
 unfold R6.set R6.at';split<;>rfl
def AE.D1 (g:Nat->Nat)(h:AE)(e:Int):(h.ended e).at' g=(h.at' g).ended e:=by
 unfold AE.ended AE.back;split
 ·rfl
 ·split<;>rfl
def AE.FU (g:Nat->Nat)(h:AE)(A:Nat)(v:Int):(h.put A v).at' g=(h.at' g).put A (g v.toNat):=by
 unfold AE.put AE.at';rw[R6.QC]
def AE.at_at (g:Nat->Nat)(h:AE)(A:Nat):(h.at' g).at A=g (h.at A):=by
 unfold AE.at;show ((h.r.at' g).get A).toNat=_;rw[R6.get_at];rfl
def R6.BN {f g:Nat->Nat}{r:R6}(h:∀ p ∈ r.places,f p=g p):r.at' f=r.at' g:=by
 unfold R6.places at h;unfold R6.at';grind
def AE.BN {f g:Nat->Nat}{h:AE}(hp:∀ p ∈ h.roots,f p=g p):h.at' f=h.at' g:=by
 unfold AE.at';rw[R6.BN fun p hp'=>hp p (Qs.2 (.inl hp')),R6.BN fun p hp'=>hp p (Qs.2 (.inr hp'))]
def R6.get_mem (r:R6)(j:Nat):(r.get j).toNat ∈ r.places:=by unfold R6.get R6.places;split<;>simp
def R6.MY {r:R6}{v:Int}{j p:Nat}(h:p ∈ (r.set v j).places):p=v.toNat\/p ∈ r.places:=by
 unfold R6.set at h;unfold R6.places at *;split at h<;>simp only[af,aF,or_false]at h⊢<;> rcases h with h|h|h|h|h|h<;>simp[h]
def Ln (S:Am)(h:AE):Prop:=∀ p ∈ h.roots,S.H.C p
def Ln.at (hr:Ln S h)(j:Nat):S.H.C (h.at j):=hr _ (Qs.2 (.inl (R6.get_mem _ _)))
def pe {e:Int}(h:AE):∀ p ∈ (h.ended e).roots,p ∈ h.roots:=by
 intro p hp;unfold AE.roots at *;unfold AE.ended AE.back at hp;grind
def TO {h:AE}{A:Nat}{v:Int}:∀ p ∈ (h.put A v).roots,p=v.toNat\/p ∈ h.roots:=by
 intro p hp;rcases Qs.1 hp with hp|hp
 ·rcases R6.MY hp with e|e
  ·exact .inl e
  ·exact .inr (Qs.2 (.inl e))
 ·exact .inr (Qs.2 (.inr hp))
def A9.Tn (hs:A9 S L A){X:List Nat}(hx:∀ p ∈ X,S.H.C p):A9 S ⟨L.l,X,X.map S.H.sr⟩ A:=
 ⟨hs.ok,hs.gc,hs.Bc,hs.now,hs.most,hs.next,hs.ho,hs.EO,hs.tx,hs.qu,hs.pl,hx,rfl,hs.sz⟩
def A9.same {S':Am}{A':As}{l l' X:List Nat}{g:Nat->Nat}(hs:A9 S' ⟨l',X,X.map g⟩ A'){p:Nat}(hp:p ∈ X):S'.H.C p/\S'.H.sr p=g p:=
 ⟨hs.ex p hp,aC.1 hs.ey p hp⟩
def A9.RY (hs:A9 S L A)(hp:S.H.C p):S.Bc p=S.H.sr p:=by
 unfold Am.Bc Hp.Dg;by_cases h0:p=0
 ·subst h0;rw[if_pos rfl,hs.gc.GO]
 ·rw[if_neg h0]
  obtain⟨b,a,h1,h2,_⟩:=hs.obj hp h0;rw[h1,h2]
structure Le (R:TR)(L:Cx)(Q:TA)(n:Nat):Prop where
 Cz:A9 R.S L Q.A
 rg:Ln R.S R.h
 h:Q.h=R.h.at' R.S.H.sr
 a:R.a=Q.a
 hl:HL n Q.A
def Fg.D3 {R:B2}{Q:Ck}{n:Nat}{l X:List Nat}{g:Nat->Nat}(hw:Fg R ⟨l,X,X.map g⟩ Q i n k m)(hx:∀ p ∈ h.roots,p ∈ X)(hl:HL n Q.A)(B:Nat):Le (me R h B) ⟨l,X,X.map g⟩ (EZ Q (h.at' g) B) n:=by
 have hsame:h.at' R.S.H.sr=h.at' g:=AE.BN fun p hp=>(hw.Cz.same (l:=l) (hx p hp)).2
 have hC:∀ p ∈ h.roots,R.S.H.C p:=fun p hp=>hw.Cz.ex p (hx p hp)
 unfold me EZ;by_cases e:R.e=0
 ·obtain⟨x,h1,h2,h3⟩:=hw.v e
  have e':Q.e=0:=by rw[<-hw.e];exact e
  refine⟨hw.Cz,fun p hp=>?_,?_,?_,hl⟩
  ·have hp':p ∈ ((h.put B R.v).ended 0).roots:=by
    have:h.D3 B R.v R.e=(h.put B R.v).ended 0:=by unfold AE.D3;rw[if_pos e]
    grind
   rcases TO p (pe _ p hp') with rfl|h4
   ·grind
   ·exact hC p h4
  ·show (h.at' g).D3 B Q.v Q.e=(h.D3 B R.v R.e).at' R.S.H.sr
   unfold AE.D3;rw[if_pos e,if_pos e',AE.D1,AE.FU,hsame,h1,<-h3];rfl
  ·show Gz (R.S.Bc R.v.toNat) R.e=Gz Q.v Q.e
   rw[h1,<-hw.e,<-h3];show Gz (R.S.Bc x) _=_;rw[hw.Cz.RY h2]
 ·have e':Q.e≠0:=by rw[<-hw.e];exact e
  refine⟨hw.Cz,fun p hp=>?_,?_,?_,hl⟩
  ·have:h.D3 B R.v R.e=h.ended R.e:=by unfold AE.D3;rw[if_neg e]
   exact hC p (pe _ p (by rw[<-this];exact hp))
  ·show (h.at' g).D3 B Q.v Q.e=(h.D3 B R.v R.e).at' R.S.H.sr
   unfold AE.D3;rw[if_neg e,if_neg e',AE.D1,hsame,hw.e]
  ·show Gz _ R.e=Gz Q.v Q.e
   unfold Gz;rw[if_neg e,if_neg e',hw.e]
def Fa.told {R:B2}{Q:Ck}{n:Nat}{l X:List Nat}{g:Nat->Nat}(hw:Fa R ⟨l,X,X.map g⟩ Q i n k m)(hx:∀ p ∈ h.roots,p ∈ X)(hl:HL n Q.A){v v':Int}(hv:v=v'):Le (ko R.S v R.e h) ⟨l,X,X.map g⟩ (bq Q.A v' Q.e (h.at' g)) n:=by
 have hsame:h.at' R.S.H.sr=h.at' g:=AE.BN fun p hp=>(hw.Cz.same (l:=l) (hx p hp)).2
 unfold ko bq;subst hv;refine⟨hw.Cz,fun p hp=>hw.Cz.ex p (hx p (pe _ p hp)),?_,by show ky v R.e=ky v Q.e;rw[hw.e],hl⟩
 rw[AE.D1,hsame,hw.e]
def AD.ok.AL {d:AD}(hd:d.ok)(hk:d.k=1\/d.k=2)(f:Bool):(⟨d.i.toNat,d.n.toNat,false,f⟩:BQ).ok:=by
 have h1:=hd.s hk;have h2:=hd.i;exact⟨by show d.i.toNat<=8;omega,by show d.n.toNat<=8;omega,fun e=>by cases e⟩
def qla (hs:A9 S L A):A.heap (A.Bc+1)=none:=hs.gc.B3.an _ (by have:=hs.Bc;omega)
structure Dd (S S':Am)(i:Nat):Prop where
 ty:Ty i S S'
 dd:(S'.t i).live=false->∃ x:Tx,S'.t i=x.ended
def Dd.live {S S':Am}(h:(S'.t i).live=true)(t:Ty i S S'):Dd S S' i:=⟨t,fun e=>by rw[h]at e;cases e⟩
def Ed.x {S S':Am}(h:Ed i S S'):∃ x:Tx,S'.t i=x.ended:=h.lv.elim (fun e=>⟨_,e⟩) id
def XR (hi:i<S.Au.length):(S.abort i).t i=(S.t i).ended:=by
 unfold Am.abort;rw[Am.CZ (by unfold Am.BO;split<;>exact hi)]
def Dd.BW {r:B2}(m:Mv i S r.S)(hi:i<S.Au.length)(hl:(S.t i).live=true):Dd S (S.AF i r).S i:=by
 rcases Yq m hi hl with⟨_,h,_⟩|⟨_,h,_⟩
 ·exact⟨h.ty,fun _=>h.x⟩
 ·exact .live (by rw[h.lv];exact hl) h.ty
def A9.A7 {l X:List Nat}(hs:A9 S ⟨l,X,X.map S.H.sr⟩ A)(hh:A.BS)(hi:i<S.Au.length)(hl:(S.t i).live=true)(hx:∀ p ∈ h.roots,p ∈ X)(hf:Cj (S.t i) k m)(hk:k+1<m){d:AD}(hd:d.ok) :
  Le (S.A7 i h d) ⟨l,X,X.map S.H.sr⟩ (A.A7 i (h.at' S.H.sr) d (S.full d) (decide (S.H.sr (h.at d.B) ∈ l))) S.Au.length/\Cj ((S.A7 i h d).S.t i) (k+3) m/\Dd S (S.A7 i h d).S i:=by
 have hi':i<A.Au.length:=by rw[hs.len];exact hi
 have hlen:=hs.len;have pF:Ln S h:=fun p hp=>hs.ex p (hx p hp)
 have hA:=pF.at d.A;have hB:=pF.at d.B;have hfr:=qla hs;have D3:∀ {R:B2}{Q:Ck}{j:Nat},Fg R ⟨l,X,X.map S.H.sr⟩ Q i S.Au.length j m->j<=k+3->HL A.Au.length Q.A->Mv i S R.S->Le (me (S.AF i R) h d.A) ⟨l,X,X.map S.H.sr⟩ (EZ (A.AF i Q) (h.at' S.H.sr) d.A) S.Au.length/\Cj ((me (S.AF i R) h d.A).S.t i) (k+3) m/\Dd S (me (S.AF i R) h d.A).S i:=by
  intro R Q j hw hj hl' mv;have hw':Fg R ⟨l,X,X.map S.H.sr⟩ Q i S.Au.length (k+3) m:=⟨hw.Cz,hw.v,hw.e,hw.Dh.mono hj,hw.len⟩;have h1:=Fg.BW hs hw' hl'.BS hi (hf.mono (by omega))
  have h2:=HL.BW hh hl' hi';rw[hlen]at h2;exact⟨h1.D3 hx h2 d.A,h1.Dh,Dd.BW mv hi hl⟩
 have told:∀ {R:B2}{Q:Ck}{j:Nat},Fa R ⟨l,X,X.map S.H.sr⟩ Q i S.Au.length j m->j<=k+3->HL A.Au.length Q.A->Mv i S R.S->∀ {v v':Int},(v=v'\/v=(S.AF i R).v/\v'=(A.AF i Q).v)->Le (ko (S.AF i R).S v (S.AF i R).e h) ⟨l,X,X.map S.H.sr⟩ (bq (A.AF i Q).A v' (A.AF i Q).e (h.at' S.H.sr)) S.Au.length/\Cj ((ko (S.AF i R).S v (S.AF i R).e h).S.t i) (k+3) m/\Dd S (ko (S.AF i R).S v (S.AF i R).e h).S i:=by
  intro R Q j hw hj hl' mv v v' hv;have hw':Fa R ⟨l,X,X.map S.H.sr⟩ Q i S.Au.length (k+3) m:=⟨hw.Cz,hw.v,hw.e,hw.Dh.mono hj,hw.len⟩;have h1:=Fa.BW hs hw' hl'.BS hi (hf.mono (by omega))
  have h2:=HL.BW hh hl' hi';rw[hlen]at h2;have hv':v=v':=by
   rcases hv with e|⟨e1,e2⟩
   ·exact e
   ·rw[e1,e2];exact h1.v
  exact⟨h1.told hx h2 hv',h1.Dh,Dd.BW mv hi hl⟩
 have still:∀ {h' h2:AE}{v:Int},(∀ p ∈ h'.roots,S.H.C p)->h2=h'.at' S.H.sr->Le (ko S v 0 h') ⟨l,X,X.map S.H.sr⟩ (bq A v 0 h2) S.Au.length/\Cj ((ko S v 0 h').S.t i) (k+3) m/\Dd S (ko S v 0 h').S i:=by
  intro h' h2 v hr e;refine⟨⟨hs,fun p hp=>hr p (pe _ p hp),?_,rfl,hh,hlen⟩,hf.mono (by omega),Dd.live (by exact hl) (Mv.refl _ _).ty⟩
  show h2.ended 0=(h'.ended 0).at' S.H.sr;rw[AE.D1,e]
 unfold Am.A7 As.A7 Am.full;by_cases e1:d.k=1
 ·rw[if_pos e1,if_pos e1,if_pos e1];exact D3 (hs.alloc hi (hd.AL (.inl e1) false) hf (by omega)) (by omega) (hh.alloc hi' hfr _ _) (Mv.AR _ _ _)
 rw[if_neg e1,if_neg e1,if_neg e1];by_cases e2:d.k=2
 ·rw[if_pos e2,if_pos e2,if_pos e2];exact D3 (hs.alloc hi (hd.AL (.inr e2) true) hf (by omega)) (by omega) (hh.alloc hi' hfr _ _) (Mv.AR _ _ _)
 rw[if_neg e2,if_neg e2,if_neg e2];rw[AE.at_at,AE.at_at];by_cases e3:d.k=3
 ·rw[if_pos e3,if_pos e3];exact D3 (hs.AA hi hB hf (by omega)) (by omega) (hh.AA hi' hfr _ _) (Mv.BJ _ _ _)
 rw[if_neg e3,if_neg e3];by_cases e4:d.k=4
 ·rw[if_pos e4,if_pos e4];exact D3 (hs.get hi hB _ hf (by omega)) (by omega) (hh.get _ _) (Mv.CK _ _ _ _)
 rw[if_neg e4,if_neg e4];by_cases e9:d.k=9
 ·rw[if_pos e9,if_pos e9];exact D3 (hs.load hi hB hf hk) (by omega) (hh.load _ _) (Mv.BZ _ _ _)
 rw[if_neg e9,if_neg e9];by_cases e10:d.k=10
 ·rw[if_pos e10,if_pos e10];exact D3 (hs.take hi hf) (by omega) (hh.take hi') (Mv.Bp _ _)
 rw[if_neg e10,if_neg e10];by_cases e5:d.k=5
 ·rw[if_pos e5,if_pos e5];exact told (hs.Gx hh hi hA _ hB hf hk) (by omega) (hh.put hi' _ _ _) (Mv.CM _ _ _ _ _) (.inl rfl)
 rw[if_neg e5,if_neg e5];by_cases e6:d.k=6
 ·rw[if_pos e6,if_pos e6];exact told (hs.read hi hA _ hf (by omega)) (by omega) (hh.read _ _) (Mv.Ce _ _ _ _) (.inr ⟨rfl,rfl⟩)
 rw[if_neg e6,if_neg e6];by_cases e7:d.k=7
 ·rw[if_pos e7,if_pos e7];exact told (hs.write hh hi hA _ hd.n hf hk) (by omega) (hh.write hi' _ _ _) (Mv.Bs _ _ _ _ _) (.inl rfl)
 rw[if_neg e7,if_neg e7];by_cases e8:d.k=8
 ·rw[if_pos e8,if_pos e8];exact told (hs.free hh hi hA hf hk) (by omega) (hh.free hi' _) (Mv.B4 _ _ _) (.inl rfl)
 rw[if_neg e8,if_neg e8];by_cases e11:d.k=11
 ·rw[if_pos e11,if_pos e11]
  have:(S.H.sr (h.at d.A)=S.H.sr (h.at d.B))=(h.at d.A=h.at d.B):=propext (hs.gc.inj hA hB);simp only[this];exact still pF rfl
 rw[if_neg e11,if_neg e11];by_cases e12:d.k=12
 ·rw[if_pos e12,if_pos e12]
  refine still (fun p hp=>?_) (by rw[AE.FU];rfl)
  rcases TO p hp with rfl|hp
  ·exact hB
  ·exact pF p hp
 rw[if_neg e12,if_neg e12];by_cases e13:d.k=13
 ·rw[if_pos e13,if_pos e13]
  refine still (fun p hp=>?_) (by rw[AE.FU];show _=(h.at' S.H.sr).put d.A ((S.H.sr 0:Nat):Int);rw[hs.gc.GO];rfl)
  rcases TO p hp with rfl|hp
  ·exact .inl rfl
  ·exact pF p hp
 rw[if_neg e13,if_neg e13];obtain⟨g1,g2,g3⟩:=hs.abort hh hi hf;have h2:=hh.abort hi';rw[hlen]at h2;have hsame:h.at' (S.abort i).H.sr=h.at' S.H.sr:=AE.BN fun p hp=>(g1.same (l:=l) (hx p hp)).2
 refine⟨⟨g1,fun p hp=>g1.ex p (hx p ?_),?_,rfl,h2⟩,g2.mono (by omega),(Ed.abort hi).ty,fun _=>⟨_,XR hi⟩⟩
 ·unfold AE.roots AE.back at hp
  exact Qs.2 (.inr (by simpa using hp))
 ·show _=AE.at' _ _
  rw[show (AE.mk (h.b+1) h.back.n h.back.r h.back.s h.back.l).at' (S.abort i).H.sr={ (h.at' (S.abort i).H.sr).back with b:=h.b+1 } from rfl,hsame];rfl
end
def NA (l:List (List AD))(h:AE):AD:=(l.getD h.b.toNat []).getD h.n.toNat ⟨13,0,0,0,0⟩
section
variable {S : Am} {A : As} {i p k m : Nat} {h : AE} {l X : List Nat}
def A9.BC (hs:A9 S ⟨l,X,X.map S.H.sr⟩ A)(hh:A.BS)(hi:i<S.Au.length)(hl:(S.t i).live=true)(hx:∀ p ∈ h.roots,p ∈ X)(hf:Cj (S.t i) k m) :
  Le (S.BC i h) ⟨l,X,X.map S.H.sr⟩ (A.BC i (h.at' S.H.sr)) S.Au.length/\Cj ((S.BC i h).S.t i) k m/\∃ x:Tx,(S.BC i h).S.t i=x.ended:=by
 have hi':i<A.Au.length:=by rw[hs.len];exact hi
 have h0:=hh.Bq hi';have h1:=Fa.BW hs (hs.Bq hi hl hf) h0.BS hi hf;have h2:=HL.BW hh h0 hi';rw[hs.len]at h2;have hend:∃ x:Tx,(S.AF i (S.AJ i)).S.t i=x.ended:=by
  unfold Am.AF;rw[if_pos hl];by_cases e:(S.t i).log.holds=[]/\S.Aw≠(i:Int)
  ·have e2:S.AJ i=⟨S.tx i (S.t i).ended,0,0⟩:=by unfold Am.AJ;rw[if_pos e]
   rw[e2];exact⟨_,Am.CZ hi _⟩
  ·by_cases e4:S.Bu i=true
   ·have e2:S.AJ i=⟨S,0,141⟩:=by unfold Am.AJ;rw[if_neg e,if_pos e4]
    rw[e2];exact⟨_,XR hi⟩
   ·have e2:S.AJ i=⟨(S.Br i).tx i (S.t i).ended,(S.now:Int)+1,0⟩:=by unfold Am.AJ;rw[if_neg e,if_neg e4]
    rw[e2];exact⟨_,Am.CZ (by unfold Am.Br;split<;>exact hi) _⟩
 have hsame:h.at' (S.AF i (S.AJ i)).S.H.sr=h.at' S.H.sr:=AE.BN fun p hp=>(h1.Cz.same (l:=l) (hx p hp)).2
 unfold Am.BC As.BC Am.Bq;by_cases e:(S.AF i (S.AJ i)).e=0
 ·rw[if_pos e,if_pos (by rw[<-h1.e];exact e)]
  refine⟨⟨h1.Cz,fun p hp=>h1.Cz.ex p (hx p ?_),?_,by rw[h1.v],h2⟩,h1.Dh,hend⟩
  ·unfold AE.roots at *;exact Qs.2 (.inl (by simpa using hp))
  ·show _=(AE.mk _ _ _ _ _).at' _
   unfold AE.at' at *;injection hsame with _ _ e1 e2 _;dsimp only;rw[e1]
 ·rw[if_neg e,if_neg (by rw[<-h1.e];exact e)]
  refine⟨⟨h1.Cz,fun p hp=>h1.Cz.ex p (hx p ?_),?_,by rw[h1.e],h2⟩,h1.Dh,hend⟩
  ·unfold AE.roots AE.back at *;exact Qs.2 (.inr (by simpa using hp))
  ·show (h.at' S.H.sr).back=h.back.at' _
   rw[show h.back.at' (S.AF i (S.AJ i)).S.H.sr=(h.at' (S.AF i (S.AJ i)).S.H.sr).back from rfl,hsame]
def A9.BX (hs:A9 S ⟨l,X,X.map S.H.sr⟩ A)(hh:A.BS)(hi:i<S.Au.length)(hx:∀ p ∈ h.roots,p ∈ X)(hf:Cj (S.t i) k m)(n:Nat)(hdd:(S.t i).live=false->∃ x:Tx,S.t i=x.ended) :
  Le (S.BX i n h) ⟨l,X,X.map S.H.sr⟩ (A.BX i n (h.at' S.H.sr)) S.Au.length/\Cj ((S.BX i n h).S.t i) k m/\(((S.BX i n h).S.t i).live=false->∃ x:Tx,(S.BX i n h).S.t i=x.ended):=by
 have hi':i<A.Au.length:=by rw[hs.len];exact hi
 obtain⟨h1,h2,h3,h4⟩:=hs.begin hi;have h5:=hh.begin hi';rw[hs.len]at h5;have hsame:h.at' (S.AS i).1.H.sr=h.at' S.H.sr:=AE.BN fun p hp=>(h1.same (l:=l) (hx p hp)).2
 unfold Am.BX As.BX;have Acz:((S.AS i).1.t i).live=false->∃ x:Tx,(S.AS i).1.t i=x.ended:=by
  unfold Am.AS;split
  ·exact hdd
  ·split
   ·intro e;rw[Am.CZ hi]at e;cases e
   ·exact hdd
 by_cases e:(S.AS i).2=0
 ·rw[if_pos e,if_pos (by rw[<-h2];exact e)]
  refine⟨⟨h1,fun p hp=>h1.ex p (hx p ?_),?_,by rw[hs.now],h5⟩,h4 _ _ hf,Acz⟩
  ·unfold AE.roots at *;exact Qs.2 (.inl (by simpa using hp))
  ·show _=(AE.mk _ _ _ _ _).at' _
   unfold AE.at' at *;injection hsame with _ _ e1 e2 _;dsimp only;rw[e1]
 ·rw[if_neg e,if_neg (by rw[<-h2];exact e)]
  refine⟨⟨h1,fun p hp=>h1.ex p (hx p hp),?_,by rw[h2],h5⟩,h4 _ _ hf,Acz⟩
  unfold AE.at' at *;injection hsame with _ _ e1 e2 _;dsimp only;rw[e1,e2]
def Cj.Rc {x:Tx}(h:Cj x k m)(e:∃ y:Tx,x=y.ended):Cj x 0 m:=by
 obtain⟨y,rfl⟩:=e;exact⟨by simp[Tx.ended],by simp[Tx.ended],by simp[Tx.ended],by simp[Tx.ended],h.mr,h.mu⟩
def Fw (S:Am)(i:Nat)(h:AE)(m:Nat):Prop:=Cj (S.t i) (if h.l then 3*h.n.toNat else 0) m
def SR {h:AE}{e:Int}(hl:(h.ended e).l=true):(h.ended e).n=h.n+1:=by
 unfold AE.ended AE.back at *;grind
def qm0 {S:Am}{i:Nat}{h:AE}{d:AD}(P:TR->Prop)(h1:∀ R,P (me R h d.A))(h2:∀ S' v e,P (ko S' v e h))(h3:∀ v,P (ko S 0 0 (h.put d.A v)))(h4:P ⟨S.abort i,{ h.back with b:=h.b+1 },⟨2,0,0⟩⟩):P (S.A7 i h d):=by
 have hi:∀ {c:Prop}[Decidable c]{a b:TR},P a->P b->P (if c then a else b):=fun ha hb=>by split<;>assumption
 repeat' first
  | exact h1 _
  | exact h2 _ _ _
  | exact h3 _
  | exact h4
  | refine hi ?_ ?_
def M1 {S:Am}{i:Nat}{h:AE}{d:AD}:(S.A7 i h d).h.l=true->(S.A7 i h d).h.n=h.n+1:=by
 refine qm0 (fun R=>R.h.l=true->R.h.n=h.n+1) (fun R hR=>?_) (fun _ _ _=>SR) (fun _ hl=>(SR hl).trans rfl) fun hl=>by cases hl
 change (h.D3 d.A R.v R.e).l=true at hR;show (h.D3 d.A R.v R.e).n=_;unfold AE.D3 at *;split at hR
 ·rename_i e;rw[if_pos e];exact (SR hR).trans rfl
 ·rename_i e;rw[if_neg e];exact SR hR
def A9.Bd {ls:List (List AD)}(hs:A9 S ⟨l,X,X.map S.H.sr⟩ A)(hh:A.BS)(hi:i<S.Au.length)(hx:∀ p ∈ h.roots,p ∈ X)(hf:Fw S i h m)(hk:∀ ds ∈ ls,3*ds.length+1<m)(t:F0 ls S i h)(hd:∀ ds ∈ ls,∀ d ∈ ds,d.ok)
  (hdd:(S.t i).live=false->∃ x:Tx,S.t i=x.ended) :
  Le (S.Bd i ls h) ⟨l,X,X.map S.H.sr⟩ (A.Bd i ls (h.at' S.H.sr) (S.full (NA ls h)) (decide (S.H.sr (h.at (NA ls h).B) ∈ l))) S.Au.length/\Fw (S.Bd i ls h).S i (S.Bd i ls h).h m/\(((S.Bd i ls h).S.t i).live=false->∃ x:Tx,(S.Bd i ls h).S.t i=x.ended):=by
 have hkeep:=(VP t hi hd).1;unfold Am.Bd at hkeep ⊢;unfold As.Bd;show Le (if (ls.length:Int)<=h.b then _ else _) _ (if (ls.length:Int)<=h.b then _ else if h.l=false then _ else match (ls.getD h.b.toNat [])[h.n.toNat]? with|none=>_|some d=>_) _/\_
 by_cases e1:(ls.length:Int)<=h.b
 ·rw[if_pos e1,if_pos e1]
  exact⟨⟨hs,fun p hp=>hs.ex p (hx p hp),rfl,rfl,hh,hs.len⟩,hf,hdd⟩
 rw[if_neg e1]at hkeep;rw[if_neg e1,if_neg e1];by_cases e2:h.l=false
 ·rw[if_pos e2]at hkeep
  rw[if_pos e2,if_pos e2];unfold Fw at hf;rw[e2]at hf;obtain⟨g1,g2,g3⟩:=hs.BX hh hi hx hf ls.length hdd;refine⟨g1,?_,g3⟩;unfold Fw Am.BX at *;split
  ·rename_i e;rw[if_pos e]at g2;exact g2
  ·rename_i e;rw[if_neg e]at g2;simp only[e2];exact g2
 rw[if_neg e2]at hkeep;rw[if_neg e2,if_neg e2];have hl:h.l=true:=by simpa using e2
 have hl':(S.t i).live=true:=by rw[t.lv];exact hl
 unfold Fw at hf;rw[hl]at hf;simp only[if_true]at hf
 cases e3:(ls.getD h.b.toNat [])[h.n.toNat]? with
 | none =>
  obtain⟨g1,g2,g3⟩:=hs.BC hh hi hl' hx hf;refine⟨g1,?_,fun _=>g3⟩;have:(S.BC i h).h.l=false:=by unfold Am.BC;split<;>rfl
  unfold Fw;dsimp only;rw[this];exact g2.Rc g3
 | some d =>
  rw[e3]at hkeep;dsimp only at hkeep ⊢;have hn:NA ls h=d:=by unfold NA;rw[Qi,e3];rfl
  rw[hn];have h2:ls.getD h.b.toNat [] ∈ ls:=by
   have h1:=Qe e3;rw[Qi]at h1 ⊢
   cases h3:ls[h.b.toNat]? with
   | none=>rw[h3]at h1;cases h1
   | some x=>exact Qe h3
  have h4:=(Qc.1 e3).1;have h5:=hk _ h2;obtain⟨g1,g2,g3⟩:=hs.A7 hh hi hl' hx hf (by omega) (hd _ h2 d (Qe e3))
  refine⟨g1,?_,g3.dd⟩;unfold Fw
  cases hll:(S.A7 i h d).h.l with
  | true =>
   have h6:=M1 hll;have h7:=t.th.n;simp only[if_true];rw[h6];exact g2.mono (by omega)
  | false=>exact g2.Rc (g3.dd (by rw[hkeep.lv];exact hll))
end
structure CY (M:Mc)(l:List Nat)(A:As)(hA:List AE)(m:Nat):Prop where
 ok:M.ok
 Cz:A9 M.S ⟨l,M.roots,M.roots.map M.S.H.sr⟩ A
 hh:A.BS
 hs:hA=M.hs.map (AE.at' M.S.H.sr)
 Dh:∀ t,t<M.hs.length->Fw M.S t (M.h t) m
 dd:∀ t,t<M.hs.length->(M.S.t t).live=false->∃ x:Tx,M.S.t t=x.ended
 mx:∀ p ∈ M.ps,∀ ds ∈ p,3*ds.length+1<m
section
variable {M : Mc} {l : List Nat} {A : As} {hA : List AE} {m : Nat}
def Mc.root {M:Mc}{t:Nat}(ht:t<M.hs.length):∀ p ∈ (M.h t).roots,p ∈ M.roots:=fun p hp=>Aj.2 ⟨_,Qe (Mc.Fp ht),hp⟩
def EC (A:As)(ps:List (List (List AD)))(hA:List AE)(t:Nat)(mm lo:Bool):TA:=A.Bd t (ps.getD t []) (hA.getD t Dt) mm lo
def CY.Pr (h:CY M l A hA m):M.S.Au.length=M.hs.length:=by rw[h.ok.Au,h.ok.len]
def CY.TD (h:CY M l A hA m){t:Nat}(ht:t<M.hs.length):hA.getD t Dt=(M.h t).at' M.S.H.sr:=by rw[h.hs];exact Jo _ _ ht
def Mc.mm (M:Mc)(t:Nat):Bool:=M.S.full (NA (M.p t) (M.h t))
def Mc.lo (M:Mc)(l:List Nat)(t:Nat):Bool:=decide (M.S.H.sr ((M.h t).at (NA (M.p t) (M.h t)).B) ∈ l)
def CY.step (h:CY M l A hA m){t:Nat}(ht:t<M.hs.length) :
  CY (M.DD t).1 l (EC A M.ps hA t (M.mm t) (M.lo l t)).A (hA.set t (EC A M.ps hA t (M.mm t) (M.lo l t)).h) m/\(M.DD t).2=(EC A M.ps hA t (M.mm t) (M.lo l t)).a:=by
 have hok:=Mc.Ft h.ok ht;have hi:t<M.S.Au.length:=by rw[h.Pr];exact ht
 have hdk:=fun ds hds d hd=>(Mc.ok.Sk h.ok t ds hds d hd).1
 have hp:M.p t ∈ M.ps\/M.p t=[]:=by
  unfold Mc.p;rw[Qi]
  cases e:M.ps[t]? with
  | none=>exact .inr rfl
  | some x=>exact .inl (Qe e)
 have hk:∀ ds ∈ M.p t,3*ds.length+1<m:=by
  rcases hp with h1|h1
  ·exact h.mx _ h1
  ·rw[h1];intro ds hds;cases hds
 obtain⟨g1,g2,g3⟩:=h.Cz.Bd h.hh hi (Mc.root ht) (h.Dh t ht) hk (h.ok.th t ht) hdk (h.dd t ht);obtain⟨k1,k2⟩:=Mc.ok.keeps h.ok ht;have e:EC A M.ps hA t (M.mm t) (M.lo l t)=A.Bd t (M.p t) ((M.h t).at' M.S.H.sr) (M.S.full (NA (M.p t) (M.h t))) (decide (M.S.H.sr ((M.h t).at (NA (M.p t) (M.h t)).B) ∈ l)):=by
  unfold EC;rw[h.TD ht];rfl
 rw[e];have kC:∀ p ∈ (M.DD t).1.roots,(M.S.Bd t (M.p t) (M.h t)).S.H.C p:=by
  intro p hp;obtain⟨x,hx,hp⟩:=Aj.1 hp;rcases List.mem_or_eq_of_mem_set (show x ∈ M.hs.set t _ from hx) with h1|rfl
  ·exact g1.Cz.ex p (Aj.2 ⟨x,h1,hp⟩)
  ·exact g1.rg p hp
 have hlen:(M.DD t).1.hs.length=M.hs.length:=by show (M.hs.set t _).length=_;simp
 have hh':∀ u,(M.DD t).1.h u=if u=t/\t<M.hs.length then (M.S.Bd t (M.p t) (M.h t)).h else M.h u:=fun u=>Nr M.hs t u _
 refine⟨⟨hok,g1.Cz.Tn kC,g1.hl.BS,?_,fun u hu=>?_,fun u hu=>?_,h.mx⟩,g1.a⟩
 ·show _=(M.hs.set t _).map _
  rw[h.hs,List.map_set,g1.h];refine congrArg (fun l=>List.set l t _) ?_;exact aA fun x hx=>AE.BN fun p hp=>(g1.Cz.same (l:=l) (Aj.2 ⟨x,hx,hp⟩)).2.symm
 ·rw[hh']
  by_cases e:u=t
  ·subst e;rw[if_pos ⟨rfl,ht⟩];exact g2
  ·rw[if_neg (fun hc=>e hc.1)]
   have:=h.Dh u (by rw[hlen]at hu;exact hu)
   unfold Fw at *;show Cj ((M.S.Bd t (M.p t) (M.h t)).S.t u) _ _;rw[k2.GK u e];exact this
 ·by_cases e:u=t
  ·subst e;exact g3
  ·intro hl
   change ((M.S.Bd t (M.p t) (M.h t)).S.t u).live=false at hl;show ∃ x:Tx,(M.S.Bd t (M.p t) (M.h t)).S.t u=x.ended;rw[k2.GK u e]at hl ⊢;exact h.dd u (by rw[hlen]at hu;exact hu) hl
end
section
variable {M : Mc} {l : List Nat} {A : As} {hA : List AE} {m : Nat}
def YO:∀ (cs:List Nat){A:As},A.BS->(A.comes cs).BS
 | [],_,h=>h
 | _::cs,_,h=>YO cs (h.meta rfl rfl)
def Cj.at' {x:Tx}{k m:Nat}(h:Cj x k m)(g:Nat->Nat):Cj (x.at' g) k m:=
 ⟨by have:=h.r;simpa [Tx.at',Lg.at'] using this,by have:=h.kp;simpa [Tx.at',Lg.at'] using this,by have:=h.h;simpa [Tx.at',Lg.at',CR] using this,by have:=h.u;simpa [Tx.at',Lg.at'] using this,h.mr,h.mu⟩
def Q6 (S:Am)(g:Nat->Nat){i:Nat}(hi:i<S.Au.length):(S.at' g).t i=(S.t i).at' g:=by
 unfold Am.t;show (S.Au.map _).getD _ _=_;grind
def qp9 (g:Nat->Nat)(hs:List AE):(hs.map (AE.at' g)).flatMap AE.roots=(hs.flatMap AE.roots).map g:=by
 induction hs with
 | nil=>rfl
 | cons h hs ih =>
  rw[aK,aj,aj,Qw,ih];unfold AE.roots AE.at' R6.at' R6.places;simp
def at_at' (f g:Nat->Nat)(h:AE):(h.at' g).at' f=h.at' fun p=>f (g p):=by unfold AE.at' R6.at';simp
structure Tq (M M':Mc)(l:List Nat)(A:As)(hA:List AE)(m:Nat)(ls cs:List Nat):Prop where
 Cz:CY M' (l++ls) (A.comes cs) hA m
 past:M'.past=jd (jd M.past 5 cs) 4 ls
 ps:M'.ps=M.ps
 fin:∀ s ∈ cs,∃ a,A.heap s=some a/\a.AL.final=true/\a.fr=false/\∀ q,M.S.H.C q->M.S.H.sr q≠s
def M7 (hc:M.S.came=[])(hl:M.S.lost=[]):M.told=M:=by
 obtain⟨⟨H,ph,now,most,Au,q,nx,ho,ve,lo,ca⟩,ps,hs,pa⟩:=M;subst hc hl;rfl
def CY.collect (h:CY M l A hA m):∃ ls cs,Tq M M.collect.1 l A hA m ls cs:=by
 have hok:=Mc.Di h.ok;by_cases hp:2000<=M.past.length
 ·have e:M.collect=(M,false):=by unfold Mc.collect;rw[if_pos hp]
  rw[e];exact⟨[],[],by rw[aQ];exact h,rfl,rfl,fun s hs=>by cases hs⟩
 ·have hp':M.past.length<2000:=by omega
  cases hb:(M.S.AQ M.roots).2.2 with
  | true =>
   obtain⟨q1,q2,q3⟩:=UY hb;have hs0:A9 M.S ⟨l,[],[]⟩ A:=h.Cz.Tn (X:=[]) fun p hp=>by cases hp
   obtain⟨g,g1,g2⟩:=A9.collect (L:=⟨l,[],[]⟩) hs0 (roots:=M.roots) (fun r hr=>h.Cz.ex r hr) q3;have mO:M.DT=⟨(M.S.begun M.roots).at' g,M.ps,M.hs.map (AE.at' g),M.past⟩:=by
    unfold Mc.DT;rw[g1];show Mc.mk _ _ (kn M.hs (M.roots.map g)) _=_;unfold Mc.roots;rw[si]
   have hlc:(M.S.begun M.roots).came=[]/\(M.S.begun M.roots).lost=[]:=⟨h.ok.ca,h.ok.lo⟩;rw[dt hp' hb,M7 (M:=M.DT) (by rw[mO];exact hlc.1) (by rw[mO];exact hlc.2)]at hok ⊢
   rw[mO]at hok ⊢;refine⟨[],[],⟨hok,?_,h.hh,?_,fun t ht=>?_,fun t ht hl=>?_,h.mx⟩,rfl,rfl,fun s hs=>by cases hs⟩
   ·rw[aQ]
    have:Mc.roots ⟨(M.S.begun M.roots).at' g,M.ps,M.hs.map (AE.at' g),M.past⟩=M.roots.map g:=qp9 g M.hs;rw[this];exact g2.Tn g2.ex
   ·rw[h.hs,aU]
    refine aA fun x hx=>?_;show _=(x.at' g).at' _;rw[at_at'];refine AE.BN fun p hp=>?_;have hpm:p ∈ M.roots:=Aj.2 ⟨x,hx,hp⟩;have:=g2.ey;rw[aU]at this;exact (aC.1 this p hpm).symm
   ·have ht':t<M.hs.length:=by simpa using ht
    have hi:t<M.S.Au.length:=by rw[h.Pr];exact ht'
    have e1:Mc.h ⟨(M.S.begun M.roots).at' g,M.ps,M.hs.map (AE.at' g),M.past⟩ t=(M.h t).at' g:=Jo _ _ ht';unfold Fw;rw[e1];show Cj (((M.S.begun M.roots).at' g).t t) _ _;rw[Q6 _ g (by exact hi)]
    exact (h.Dh t ht').at' g
   ·have ht':t<M.hs.length:=by simpa using ht
    have hi:t<M.S.Au.length:=by rw[h.Pr];exact ht'
    change (((M.S.begun M.roots).at' g).t t).live=false at hl;show ∃ x:Tx,((M.S.begun M.roots).at' g).t t=x.ended;rw[Q6 _ g (by exact hi)]at hl ⊢
    obtain⟨y,hy⟩:=h.dd t ht' hl;refine⟨y.at' g,?_⟩;rw[show (M.S.begun M.roots).t t=M.S.t t from rfl,hy];rfl
  | false =>
   obtain⟨⟨ls,cs,g1,g2,g3,g4⟩,g5⟩:=h.Cz.step;rw[d8 hp' hb]at hok ⊢;have ht:∀ t,(M.Gm.told.S).t t=M.S.t t:=by intro t;unfold Am.t;show (M.S.Cp.1.Au).getD _ _=_;rw[g5]
   refine⟨ls,cs,⟨hok,?_,YO cs h.hh,?_,fun t hlt=>?_,fun t hlt hl=>?_,h.mx⟩,?_,rfl,g4⟩
   ·have g6:=g1.Tn (X:=M.roots) g1.ex
    exact g6.meta (S':=M.Gm.told.S) hok.inv rfl rfl rfl rfl g1.now g1.most g1.next g1.ho g1.EO g1.tx g1.qu g1.pl
   ·rw[h.hs]
    show M.hs.map _=M.hs.map _;refine aA fun x hx=>AE.BN fun p hp=>?_;have hpm:p ∈ M.roots:=Aj.2 ⟨x,hx,hp⟩;exact (aC.1 g1.ey p hpm).symm
   ·unfold Fw;rw[ht];exact h.Dh t hlt
   ·rw[ht]at hl ⊢;exact h.dd t hlt hl
   ·show jd (jd M.past 5 M.S.Cp.1.came) 4 M.S.Cp.1.lost=_
    rw[g2,g3,h.ok.lo,h.ok.ca];rfl
end
section
variable {H : Hp} {L : List Nat} {A : Ag}
def SV (hk:H.ok){x:Nat×Ob}(hx:x ∈ H.cur):lk H.cur x.1=some x.2:=by
 have h1:(lk H.cur x.1).isSome=true:=En.2 (Qt.2 ⟨x,hx,rfl⟩);obtain⟨o,ho⟩:=ag.1 h1;rw[ho,rq hk.cl hk.ck (zh ho) hx]
def Ki:∀ {l:List (Nat×Ob×Option Nat)}(_:(l.map (·.1)).Pairwise (·<·)){x y:Nat×Ob×Option Nat}(_:x ∈ l)(_:y ∈ l)(_:x.1=y.1),x=y
 | [],_,_,_,hx,_,_=>by cases hx
 | z::l,h,x,y,hx,hy,e=>by
  rw[aK,List.pairwise_cons]at h;rcases af.1 hx with hx|hx
  ·rcases af.1 hy with hy|hy
   ·rw[hx,hy]
   ·have:=h.1 y.1 (Qt.2 ⟨y,hy,rfl⟩);rw[hx]at e;omega
  ·rcases af.1 hy with hy|hy
   ·have:=h.1 x.1 (Qt.2 ⟨x,hx,rfl⟩);rw[hy]at e;omega
   ·exact Ki h.2 hx hy e
def mg (hk:H.ok){x:Nat×Ob×Option Nat}(hx:x ∈ H.old):Be H.old x.1=some x.2:=by
 have h1:(Be H.old x.1).isSome=true:=Ex.2 (Qt.2 ⟨x,hx,rfl⟩);obtain⟨o,ho⟩:=ag.1 h1;have:=Ki (ut hk) (zy ho) hx rfl;grind
def Nb (l:List (Nat×Ob×Option Nat)):List (Nat×Ob×Option Nat):=l.filter fun x=>x.2.2.isNone
def Gc.count (h:Gc H L A):H.cur.length+(Nb H.old).length<=H.Ap:=by
 have hk:=h.wf.ok;have hc:∀ x ∈ H.cur,H.obj x.1=some x.2:=fun x hx=>jt (SV hk hx)
 have ho:∀ x ∈ Nb H.old,H.obj x.1=some x.2.1:=fun x hx=>by
  obtain⟨h1,h2⟩:=aH.1 hx;have h3:=mg hk h1;have h4:x.2=(x.2.1,none):=by
   obtain⟨a,b,c⟩:=x
   cases c with
   | none=>rfl
   | some q=>cases h2
  rw[h4]at h3;exact td ((h.B3.dj _).resolve_right (by rw[h3];simp)) h3
 have hn:(H.cur.map (·.2.Ap)++(Nb H.old).map (·.2.1.Ap)).Nodup:=by
  refine List.nodup_append.2 ⟨?_,?_,?_⟩
  ·have h1:=xj _ _ _ hk.cl hk.ck
   rw[ay]at h1;unfold aW;rw[ay];refine h1.imp_of_mem fun {a b} ha hb hlt e=>?_;have:=h.B3.inj _ _ _ _ (hc a ha) (hc b hb) e;omega
  ·have h1:=(ut hk)
   rw[ay]at h1;unfold aW;rw[ay];refine (h1.filter _).imp_of_mem fun {a b} ha hb hlt e=>?_;have:=h.B3.inj _ _ _ _ (ho a ha) (ho b hb) e;omega
  ·intro a ha b hb e
   obtain⟨x,hx,rfl⟩:=Qt.1 ha;obtain⟨y,hy,rfl⟩:=Qt.1 hb;have h1:=h.B3.inj _ _ _ _ (hc x hx) (ho y hy) e;have h2:=SV hk hx;have h3:=mg hk (aH.1 hy).1;rw[h1]at h2;rcases h.B3.dj y.1 with h4|h4
   ·rw[h4]at h2;cases h2
   ·rw[h4]at h3;cases h3
 have:=SF _ ((aP H.Ap).map (·+1)) hn fun x hx=>by
  have hb:1<=x/\x<=H.Ap:=by
   rcases Qs.1 hx with hx|hx
   ·obtain⟨y,hy,rfl⟩:=Qt.1 hx;exact h.B3.sr _ _ (hc y hy)
   ·obtain⟨y,hy,rfl⟩:=Qt.1 hx;exact h.B3.sr _ _ (ho y hy)
  exact Qt.2 ⟨x-1,aR.2 (by omega),by omega⟩
 simpa using this
def XN:∀ (l:List (Nat×Ob))(b t:Nat),vj b l t->(∀ x ∈ l,BG x.2.size<=12)->t<=b+12*l.length
 | [],b,t,h,_=>by rw[vj]at h;simp;omega
 | (p,o)::l,b,t,h,hr=>by
  have h1:=XN l _ _ h.2 fun x hx=>hr x (.tail _ hx);have h2:=hr _ (.head _);grind
def Uw:∀ (l:List (Nat×Ob×Option Nat)),(∀ x ∈ Nb l,BG x.2.1.size<=12)->gl l<=12*(Nb l).length
 | [],_=>by simp[gl]
 | (p,o,none)::l,hr=>by
  have e:Nb ((p,o,none)::l)=(p,o,none)::Nb l:=rfl;rw[e]at hr ⊢;have h1:=Uw l fun x hx=>hr x (.tail _ hx);have h2:=hr _ (.head _);simp only[gl,Qv]at *;omega
 | (p,o,some q)::l,hr=>by
  have e:Nb ((p,o,some q)::l)=Nb l:=rfl;exact Uw l hr
def NH {n:Nat}(h:n<=12):BG n<=12:=by unfold BG;(repeat' split)<;>omega
def Gc.room (h:Gc H L A)(hq:∀ s a,A s=some a->a.AL.p+a.AL.d<=9){s:BQ}(hs:s.p+s.d<=9){k:Nat}(hk:H.Ap<=k)(hsz:12*(k+1)<=H.size)(hb:k<1099511627776):H.roomy s=true:=by
 have h0:=h.wf.ok;have hr:∀ p b,H.obj p=some b->BG b.size<=12:=fun p b hp=>by
  obtain⟨a,h1,h2⟩:=h.B3.hp p b hp;have:=hq _ _ h1;rw[h2.AL]at this;exact NH (by unfold Ob.size;omega)
 have h1:=XN _ _ _ h0.cl fun x hx=>hr x.1 x.2 (jt (SV h0 hx))
 have h2:=Uw H.old fun x hx=>by
  obtain⟨h1,h2⟩:=aH.1 hx;have h3:=mg h0 h1;have h4:x.2=(x.2.1,none):=by
   obtain⟨a,b,c⟩:=x
   cases c with
   | none=>rfl
   | some q=>cases h2
  rw[h4]at h3;exact hr x.1 x.2.1 (td ((h.B3.dj _).resolve_right (by rw[h3];simp)) h3)
 have h3:=h.count;have h4:=h0.GL;have h5:=NH (n:=3+s.p+s.d) (by omega)
 unfold Hp.roomy Hp.left;grind
end
structure Gr (Q:BQ->Prop)(n:Nat)(A A':As):Prop where
 s1:A.Bc<=A'.Bc
 s2:A'.Bc<=A.Bc+n
 sh:∀ z a',A'.heap z=some a'->Q a'.AL\/∃ a,A.heap z=some a/\a'.AL=a.AL
 sz:A'.sz=A.sz
section
variable {Q : BQ -> Prop} {A A' : As} {i : Nat}
def Gr.refl (Q:BQ->Prop)(n:Nat)(A:As):Gr Q n A A:=⟨Qk _,Nat.le_add_right _ _,fun _ a h=>.inr ⟨a,h,rfl⟩,rfl⟩
def Gr.trans {n k:Nat}{A'':As}(a:Gr Q n A A')(b:Gr Q k A' A''):Gr Q (n+k) A A'':=by
 refine⟨Qo a.s1 b.s1,by have:=a.s2;have:=b.s2;omega,fun z x h=>?_,b.sz.trans a.sz⟩
 rcases b.sh z x h with h|⟨y,h1,h2⟩
 ·exact .inl h
 ·rcases a.sh z y h1 with h|⟨w,h3,h4⟩
  ·grind
  ·grind
def Gr.same {n:Nat}(h1:A'.heap=A.heap)(h2:A'.Bc=A.Bc)(h3:A'.sz=A.sz):Gr Q n A A':=⟨by omega,by omega,fun z a h=>.inr ⟨a,by rw[<-h1];exact h,rfl⟩,h3⟩
def HS (H H':Ag):Prop:=∀ z a',H' z=some a'->∃ a,H z=some a/\a'.AL=a.AL
def HS.refl (H:Ag):HS H H:=fun _ a h=>⟨a,h,rfl⟩
def HS.trans {H H' H'':Ag}(a:HS H H')(b:HS H' H''):HS H H'':=fun z x h=>by
 obtain⟨y,h1,h2⟩:=b z x h;obtain⟨w,h3,h4⟩:=a z y h1;grind
def HS.upd (H:Ag)(s:Nat){f:AO->AO}(hf:∀ a,(f a).AL=a.AL):HS H (H.upd s f):=by
 intro z a' h;unfold Ag.upd at h;split at h
 ·rename_i e;subst e
  cases hz:H z with
  | none=>rw[hz]at h;cases h
  | some a=>rw[hz]at h;injection h with h;exact⟨a,rfl,by rw[<-h];exact hf a⟩
 ·grind
def HS.BP:∀ (zs:List (Nat×Nat))(H:Ag)(v:Nat),HS H (H.BP zs v)
 | [],H,_=>HS.refl H
 | z::zs,H,v=>(HS.upd H z.1 (f:=fun a=>a.second (2*v)) fun _=>rfl).trans (HS.BP zs _ v)
def HS.BU:∀ (zs:List (Nat×Nat))(H:Ag),HS H (H.BU zs)
 | [],H=>HS.refl H
 | z::zs,H=>(HS.upd H z.1 (f:=fun a=>if z.2=0 then (a.second 0).free true else a.second (2*z.2)) fun _=>by split<;>rfl).trans (HS.BU zs _)
def HS.BH (H:Ag)(u:Un):HS H (H.BH u):=by
 unfold Ag.BH;split
 ·exact HS.upd H u.pos (f:=fun a=>a.ptr u.i u.old.toNat) fun _=>rfl
 ·split
  ·exact HS.upd H u.pos (f:=fun a=>a.num u.i u.old) fun _=>rfl
  ·split
   ·exact HS.upd H u.pos (f:=fun a=>a.free (decide (u.old≠0))) fun _=>rfl
   ·exact HS.refl H
def HS.Bi (H:Ag):∀ us:List Un,HS H (H.Bi us)
 | []=>HS.refl H
 | u::us=>(HS.Bi H us).trans (HS.BH _ u)
def Gr.hs {n:Nat}(h1:HS A.heap A'.heap)(h2:A'.Bc=A.Bc)(h3:A'.sz=A.sz):Gr Q n A A':=⟨by omega,by omega,fun z a h=>.inr (h1 z a h),h3⟩
def Gr.look (n:Nat)(A:As)(i s:Nat):Gr Q n A (A.AH i s).1:=Gr.same (ff A i s) (by unfold As.AH;split;rfl;split;rfl;split<;>rfl) (by unfold As.AH;split;rfl;split;rfl;split<;>rfl)
def Gr.hold (n:Nat)(A:As)(i s:Nat):Gr Q n A (A.hold i s):=by
 unfold As.hold;split
 ·exact Gr.refl Q n A
 ·exact Gr.hs (HS.upd A.heap s (f:=fun a=>a.second (2*i+1)) fun _=>rfl) rfl rfl
def Gr.B9 (A:As)(i s:Nat)(u:Un){f:AO->AO}(hf:∀ a,(f a).AL=a.AL):Gr Q 1 A (A.B9 i s u f).A:=by
 have h1:Gr Q 1 (A.hold i s) (A.B9 i s u f).A:=Gr.hs (HS.upd (A.hold i s).heap s hf) rfl rfl;exact (Gr.hold 0 A i s).trans h1
def Gr.lk {R:Ck}{s:Nat}(h:Gr Q 1 (A.AH i s).1 R.A):Gr Q 1 A R.A:=(Gr.look 0 A i s).trans h
def Gr.abort (A:As)(i:Nat):Gr Q 0 A (A.abort i):=by
 refine Gr.hs ?_ ?_ ?_
 ·have e:(A.abort i).heap=(A.heap.Bi (A.t i).Az).BU (A.t i).holds:=by unfold As.abort As.BO;split<;>rfl
  rw[e];exact (HS.Bi _ _).trans (HS.BU _ _)
 ·unfold As.abort As.BO;split<;>rfl
 ·unfold As.abort As.BO;split<;>rfl
def Gr.BW {R:Ck}(h:Gr Q 1 A R.A):Gr Q 1 A (A.AF i R).A:=by
 unfold As.AF Ck.fin;split
 ·split
  ·exact h.trans (Gr.abort R.A i)
  ·grind
 ·exact Gr.refl Q 1 A
def Gr.lay (A:As)(i:Nat){s:BQ}(hs:Q s)(ps:List Nat):Gr Q 1 A (A.lay i s ps):=by
 refine⟨aV _,Qk _,fun z a h=>?_,rfl⟩
 change (if z=A.Bc+1 then some _ else A.heap z)=some a at h
 grind
def Dq (Q:BQ->Prop)(d:AD):Prop:=(d.k=1->Q ⟨d.i.toNat,d.n.toNat,false,false⟩)/\(d.k=2->Q ⟨d.i.toNat,d.n.toNat,false,true⟩)/\(d.k=3->Q C1)
def Gr.A7 (A:As)(i:Nat)(h:AE){d:AD}(hq:Dq Q d)(m l:Bool):Gr Q 1 A (A.A7 i h d m l).A:=by
 have hi:∀ {c:Prop}[Decidable c]{a b:TA},(c->Gr Q 1 A a.A)->(¬c->Gr Q 1 A b.A)->Gr Q 1 A (if c then a else b).A:=fun ha hb=>by split;exact ha ‹_›;exact hb ‹_›
 refine hi (fun e=>Gr.BW ?_) fun _=>hi (fun e=>Gr.BW ?_) fun _=>hi (fun e=>Gr.BW ?_) fun _=>hi (fun _=>Gr.BW ?_) fun _=>hi (fun _=>Gr.BW ?_) fun _=>hi (fun _=>Gr.BW ?_) fun _=>hi (fun _=>Gr.BW ?_) fun _=>hi (fun _=>Gr.BW ?_) fun _=>hi (fun _=>Gr.BW ?_) fun _=>hi (fun _=>Gr.BW ?_) fun _=>hi (fun _=>Gr.refl Q 1 A) fun _=>hi (fun _=>Gr.refl Q 1 A) fun _=>hi (fun _=>Gr.refl Q 1 A) fun _=>(Gr.abort A i).trans (Gr.refl Q 1 _)
 ·unfold As.AR;split
  ·exact Gr.refl Q 1 A
  ·exact Gr.lay A i (hq.1 e) _
 ·unfold As.AR;split
  ·exact Gr.refl Q 1 A
  ·exact Gr.lay A i (hq.2.1 e) _
 ·unfold As.BJ;split
  ·exact Gr.refl Q 1 A
  ·split
   ·exact Gr.refl Q 1 A
   ·exact Gr.lay A i (hq.2.2 e) _
 ·unfold As.CK;split<;>exact Gr.look 1 A i _
 ·unfold As.BZ;(repeat' split)<;>exact Gr.look 1 A i _
 ·unfold As.Bp;(repeat' split)<;>exact Gr.same rfl rfl rfl
 ·unfold As.CM;split
  ·exact Gr.look 1 A i _
  ·split
   ·exact Gr.look 1 A i _
   ·exact Gr.lk (Gr.B9 _ _ _ _ fun _=>rfl)
 ·unfold As.Ce;split<;>exact Gr.look 1 A i _
 ·unfold As.Bs;split
  ·exact Gr.look 1 A i _
  ·split
   ·exact Gr.look 1 A i _
   ·exact Gr.lk (Gr.B9 _ _ _ _ fun _=>rfl)
 ·unfold As.B4;split
  ·exact Gr.look 1 A i _
  ·exact Gr.lk (Gr.B9 _ _ _ _ fun _=>rfl)
def Gr.AJ (A:As)(i:Nat):Gr Q 1 A (A.AJ i).A:=by
 unfold As.AJ;split
 ·exact Gr.same rfl rfl rfl
 ·split
  ·exact Gr.refl Q 1 A
  ·refine Gr.hs ?_ ?_ ?_
   ·show HS A.heap (A.tick i).heap
    unfold As.tick;split<;>exact HS.BP _ _ _
   ·show (A.tick i).Bc=_
    unfold As.tick;split<;>rfl
   ·show (A.tick i).sz=_
    unfold As.tick;split<;>rfl
def Gr.Bd (A:As)(i:Nat){ls:List (List AD)}(hq:∀ ds ∈ ls,∀ d ∈ ds,Dq Q d)(h:AE)(m l:Bool):Gr Q 1 A (A.Bd i ls h m l).A:=by
 unfold As.Bd;split
 ·exact Gr.refl Q 1 A
 ·split
  ·unfold As.BX
   have:Gr Q 1 A (A.AS i).1:=by unfold As.AS;split;exact Gr.refl Q 1 A;split<;>exact Gr.same rfl rfl rfl
   grind
  ·split
   ·unfold As.BC
    have:Gr Q 1 A (A.AF i (A.AJ i)).A:=Gr.BW (Gr.AJ A i);grind
   ·rename_i d e3
    refine Gr.A7 A i h (hq (ls.getD h.b.toNat []) ?_ d (Qe e3)) m l;have h1:=Qe e3;rw[Qi]at h1 ⊢
    cases h3:ls[h.b.toNat]? with
    | none=>rw[h3]at h1;cases h1
    | some x=>exact Qe h3
end
end
section
open Go.RowKit Hp
def RD (W:Aa)(v:Ac)(l:List AD):Prop:=l.length<=12/\∃ (o:Own)(t:Tag),Row W o t 44 5 v l.length (kl (l.map AD.D))
def RB (W:Aa)(v:Ac)(bs:List (List AD)):Prop:=
 bs.length<=6/\∃ (vs:List Ac)(o:Own)(t:Tag),vs.length=bs.length/\Row W o t 45 1 v bs.length vs/\∀ (j:Nat)(l:List AD),bs[j]?=some l->∃ u:Ac,vs[j]?=some u/\RD W u l
def RT (W:Aa)(v:Ac)(AZ:List (List (List AD))):Prop:=
 AZ.length<=8/\∃ (vs:List Ac)(o:Own)(t:Tag),vs.length=AZ.length/\Row W o t 46 1 v AZ.length vs/\∀ (j:Nat)(bs:List (List AD)),AZ[j]?=some bs->∃ u:Ac,vs[j]?=some u/\RB W u bs
section
variable {W W' : Aa} {o o' : Own} {v : Ac} {T : Tag -> Prop} {tg : Tag}
def RD.below {l:List AD}(h:RD W v l)(k:Ae W W W'):RD W' v l:=by
 obtain⟨h0,o,t,h1⟩:=h;exact⟨h0,o,t,h1.below k⟩
def RB.below {bs:List (List AD)}(h:RB W v bs)(k:Ae W W W'):RB W' v bs:=by
 obtain⟨h0,vs,o,t,h1,h2,h3⟩:=h;exact⟨h0,vs,o,t,h1,h2.below k,fun j l hj=>let⟨u,hu,hd⟩:=h3 j l hj;⟨u,hu,hd.below k⟩⟩
def RT.below {AZ:List (List (List AD))}(h:RT W v AZ)(k:Ae W W W'):RT W' v AZ:=by
 obtain⟨h0,vs,o,t,h1,h2,h3⟩:=h;exact⟨h0,vs,o,t,h1,h2.below k,fun j l hj=>let⟨u,hu,hd⟩:=h3 j l hj;⟨u,hu,hd.below k⟩⟩
def dD (AZ:List (List (List AD))):List (List (List Pg.D)):=AZ.map fun t=>t.map fun l=>l.map AD.D
def RD.at {l:List AD}(h:RD W v l):Ct W v (l.map AD.D):=by
 obtain⟨h0,o,t,h1⟩:=h;exact⟨by rw[Qg];simp only[maxLen];omega,by rw[Qg];exact h1.sl⟩
def RB.at {bs:List (List AD)}(h:RB W v bs):Cl W v (bs.map fun l=>l.map AD.D):=by
 obtain⟨h0,vs,o,t,h1,h2,h3⟩:=h;refine⟨by rw[Qg];simp only[maxLen];omega,vs,by rw[Qg];exact h1,by rw[Qg];exact h2.sl,fun j l hj=>?_⟩
 rw[Qj]at hj
 cases hb:bs[j]? with
 | none=>rw[hb]at hj;cases hj
 | some l' =>
  rw[hb]at hj;injection hj with hj;subst hj;obtain⟨u,hu,hd⟩:=h3 j l' hb;exact⟨u,hu,hd.at⟩
def RT.at {AZ:List (List (List AD))}(h:RT W v AZ):BL W v (dD AZ):=by
 obtain⟨h0,vs,o,t,h1,h2,h3⟩:=h;unfold dD;refine⟨by rw[Qg];simp only[maxLen];omega,vs,by rw[Qg];exact h1,by rw[Qg];exact h2.sl,fun j l hj=>?_⟩
 rw[Qj]at hj
 cases hb:AZ[j]? with
 | none=>rw[hb]at hj;cases hj
 | some l' =>
  rw[hb]at hj;injection hj with hj;subst hj;obtain⟨u,hu,hd⟩:=h3 j l' hb;exact⟨u,hu,hd.at⟩
structure Er (AZ:List (List (List AD))):Prop where
 n1:1<=AZ.length
 n8:AZ.length<=8
 dk:∀ p ∈ AZ,p.length<=6/\∀ ds ∈ p,1<=ds.length/\ds.length<=12/\∀ d ∈ ds,d.ok/\Pg.right d.D=true
def Er.check {AZ:List (List (List AD))}(h:Er AZ):check (dD AZ)=(0,0,0,0):=by
 refine XO (by unfold dD;rw[Qg];exact h.n1) (by unfold dD;rw[Qg];exact h.n8) fun j z _ hz=>?_
 unfold dD at hz;rw[Qj]at hz
 cases hb:AZ[j]? with
 | none=>rw[hb]at hz;cases hz
 | some p =>
  rw[hb]at hz;injection hz with hz;subst hz;obtain⟨h6,hd⟩:=h.dk p (Qe hb);refine YS (by rw[Qg];exact h6) fun j z _ hz=>?_
  rw[Qj]at hz
  cases hb2:p[j]? with
  | none=>rw[hb2]at hz;cases hz
  | some l =>
   rw[hb2]at hz;injection hz with hz;subst hz;obtain⟨h1,h12,hr⟩:=hd l (Qe hb2);refine YF (by rw[Qg];exact h1) (by rw[Qg];exact h12) fun j z _ hz=>?_
   rw[Qj]at hz
   cases hb3:l[j]? with
   | none=>rw[hb3]at hz;cases hz
   | some d =>
    rw[hb3]at hz;injection hz with hz;subst hz;exact (hr d (Qe hb3)).2
def Lc (W:Aa)(o:Own)(tg tr:Tag)(v:Ac)(bs:List (List AD)):Prop:=
 bs.length<=6/\∃ vs:List Ac,vs.length=bs.length/\Row W o tr 45 1 v bs.length vs/\∀ (j:Nat)(l:List AD),bs[j]?=some l->∃ u:Ac,vs[j]?=some u/\KD W o tg u l
def Lc.nil (W:Aa)(o:Own)(tg tr:Tag):Lc W o tg tr (Ai none 0 0) []:=⟨by simp,[],rfl,Row.nil _ _ _ _ _,fun j l hj=>by simp at hj⟩
def KT.nil (W:Aa)(o:Own)(tg tr:Tag):KT W o tg tr (Ai none 0 0) []:=⟨by simp,[],rfl,Row.nil _ _ _ _ _,fun j l hj=>by simp at hj⟩
def Lc.whole {bs:List (List AD)}{n:Nat}(h:Lc W o (1,0) (3,0) v bs)(ho:∀ b,b<n->o b=(0,0))(o2:Own)(tg:Tag):KB W (ext o2 n tg) tg v bs:=by
 obtain⟨h0,vs,h1,h2,h3⟩:=h;have k:∀ t,t≠(0,0)->∀ b,o b=t->ext o2 n tg b=tg:=fun t ht b hb=>by
  refine qq ?_;refine Classical.byContradiction fun hn=>ht ?_;rw[<-hb];exact ho b (by omega)
 exact⟨h0,vs,h1,h2.B9 _ _ (k _ (by simp)),fun j l hj=>let⟨u,hu,hd⟩:=h3 j l hj;⟨u,hu,hd.1,hd.2.B9 _ _ (k _ (by simp))⟩⟩
def Lc.snoc {w1 w2:Aa}{o2:Own}{bs:List (List AD)}{vs:List Ac}{l:List AD}{u v2:Ac}(h6:bs.length+1<=6)(hl:vs.length=bs.length)(h3:∀ (j:Nat)(l:List AD),bs[j]?=some l->∃ u:Ac,vs[j]?=some u/\KD W o (1,0) u l)
  (hd:KD w1 o' (1,0) u l)(k1:Stp (fun _=>False) o o' W w1)(k2:Stp (fun t=>t=(3,0)) o' o2 w1 w2)(hr:Row w2 o2 (3,0) 45 1 v2 (bs.length+1) (vs++[u])):Lc w2 o2 (1,0) (3,0) v2 (bs++[l]):=by
 refine⟨by rw[Qd];exact h6,vs++[u],by rw[Qd,Qd,hl];rfl,hr.ite (by simp) rfl,fun j z hj=>?_⟩
 by_cases hlt:j<bs.length
 ·rw[Qm hlt]at hj
  obtain⟨x,hx,hk⟩:=h3 j z hj;exact⟨x,by rw[Qm (by omega)];exact hx,(hk.Ar k1 (fun h=>h)).Ar k2 (by simp)⟩
 ·rw[Ql (by omega)]at hj
  have hz:j=bs.length:=by
   have:=(Qc.1 hj).1;simp at this;omega
  subst hz;rw[aG]at hj;simp at hj;subst hj;exact⟨u,by rw[Ql (by omega),hl,aG];rfl,hd.Ar k2 (by simp)⟩
def KT.snoc {w1 w2:Aa}{o2:Own}{tr:Tag}{AZ:List (List (List AD))}{vs:List Ac}{bs:List (List AD)}{u v2:Ac}(hne:tg≠tr)(h8:AZ.length+1<=8)(hl:vs.length=AZ.length)(h3:∀ (j:Nat)(bs:List (List AD)),AZ[j]?=some bs->∃ u:Ac,vs[j]?=some u/\KB W o tg u bs)
  (hd:KB w1 o' tg u bs)(k1:Stp (fun _=>False) o o' W w1)(k2:Stp (fun t=>t=tr) o' o2 w1 w2)(hr:Row w2 o2 tr 46 1 v2 (AZ.length+1) (vs++[u])):KT w2 o2 tg tr v2 (AZ++[bs]):=by
 refine⟨by rw[Qd];exact h8,vs++[u],by rw[Qd,Qd,hl];rfl,hr.ite (by simp) rfl,fun j z hj=>?_⟩
 by_cases hlt:j<AZ.length
 ·rw[Qm hlt]at hj
  obtain⟨x,hx,hk⟩:=h3 j z hj;exact⟨x,by rw[Qm (by omega)];exact hx,(hk.Ar k1 (fun h=>h)).Ar k2 hne⟩
 ·rw[Ql (by omega)]at hj
  have hz:j=AZ.length:=by
   have:=(Qc.1 hj).1;simp at this;omega
  subst hz;rw[aG]at hj;simp at hj;subst hj;exact⟨u,by rw[Ql (by omega),hl,aG];rfl,hd.Ar k2 hne⟩
def qku:∃ i,ANa.info? 49=some i/\i.size=15/\i.bytes=120/\i.zero=some (.agg Li):=info_parts (by kernel_rfl)
def MQ {n:Nat}(h1:1<=n)(h8:n<=8)(w:Aa):(Instr.makeSlice 61 (I Z n) (I Z n)).run ANa w=.ok (Ai (some ⟨w,0,none⟩) n n) (w.alloc (.cells (ze (Ad n Dt)).toArray 49)):=by
 obtain⟨iI,hi,hsI,cK,bZ⟩:=qku;have h:=run_make (P:=ANa) w 61 49 iI _ underlying61 hi bZ .i64 .i64 n n (by omega) (by omega) (by rw[cK];omega) (by omega)
 rw[hsI]at h;simp only[Int.toNat_natCast]at h;have e:madeCells (Value.agg Li).cells (n*15)=(ze (Ad n Dt)).toArray:=by
  clear h;obtain rfl|rfl|rfl|rfl|rfl|rfl|rfl|rfl:n=1\/n=2\/n=3\/n=4\/n=5\/n=6\/n=7\/n=8:=by omega
  all_goals kernel_rfl
 rw[h,e]
def Mc.fresh (S:Am)(AZ:List (List (List AD))):Mc:=⟨S,AZ,Ad AZ.length Dt,[]⟩
def QN (l:List (List AD)):CQ l Dt:=by
 refine⟨?_,?_,Int.le_refl _,⟨Int.le_refl _,by show (0:Int)<=_;omega⟩,fun h=>(by cases h),fun _=>⟨rfl,rfl⟩⟩
 all_goals
  intro j hj;rcases six hj with rfl|rfl|rfl|rfl|rfl|rfl<;>exact⟨0,rfl⟩
def Mc.De {n r u m:Nat}{AZ:List (List (List AD))}(h1:16<=n)(h2:n<=16384)(hr:r<=200)(hu:u<=200)(hm:m<=1099511627776)(ht:Er AZ):(Mc.fresh (Am.fresh n AZ.length r u m) AZ).ok:=by
 refine⟨Am.De h1 h2 ht.n1 ht.n8 hr hu hm,Qx,Qx,ht.n8,fun t h=>?_,fun p hp=>?_,aI _,rfl,rfl⟩
 ·have h':t<AZ.length:=by simpa [Mc.fresh] using h
  have e:(Mc.fresh (Am.fresh n AZ.length r u m) AZ).h t=Dt:=by
   unfold Mc.h Mc.fresh;simp only[Qi,Qy,if_pos h',aD]
  rw[e];refine⟨QN _,?_⟩;show ((Ad AZ.length (Tx.fresh r u)).getD t _).live=false;simp only[Qi,Qy,if_pos h',aD];rfl
 ·obtain⟨h6,hd⟩:=ht.dk p hp
  exact⟨h6,fun ds hds=>⟨(hd ds hds).2.1,(hd ds hds).2.2⟩⟩
end
end
section
open Hp
section
variable {M Ma Mb : Mc} {l : List Nat} {A : As} {hA : List AE} {m k : Nat}
def As.fresh (n k most:Nat):As:=⟨n,fun _=>none,0,0,most,Ad k ⟨false,0,0,[],[],[],[]⟩,[],0,-1,0⟩
def CY.fresh {n r u mo:Nat}{ps:List (List (List AD))}(hok:(Mc.fresh (Am.fresh n ps.length r u mo) ps).ok)(hr:m<=r)(hu:m<=u)(hm:∀ p ∈ ps,∀ ds ∈ p,3*ds.length+1<m) :
  CY (Mc.fresh (Am.fresh n ps.length r u mo) ps) [] (As.fresh n ps.length mo) (Ad ps.length Dt) m:=by
 have hH:(Am.fresh n ps.length r u mo).H=Hp.fresh n:=rfl;have jM:lk (Hp.fresh n).cur=fun _=>none:=rfl
 have hold:Be (Hp.fresh n).old=fun _=>none:=rfl
 have hgc:Gc (Hp.fresh n) [] (fun _=>none):=by
  refine⟨hok.inv.H,?_,fun p b hp=>?_,fun y hy=>(by cases hy),fun y hy=>by cases hy⟩
  ·rw[jM,hold]
   exact⟨⟨rfl,rfl⟩,fun _=>.inl rfl,fun _ _ _ h=>(by cases h),fun _ _ h=>(by cases h),fun _ _ h=>(by cases h),fun _ _ h=>(by cases h),fun _ _ _ _ h=>(by cases h),fun _ _ h=>(by cases h),fun _ _ h=>(by cases h),fun _ _=>rfl,fun s hs=>(by cases hs),fun s hs=>(by cases hs),rfl,List.nodup_nil⟩
  ·unfold Hp.obj at hp;rw[jM,hold]at hp;cases hp
 have Amj:(Hp.fresh n).sr 0=0:=hgc.GO;have kC:∀ p ∈ (Mc.fresh (Am.fresh n ps.length r u mo) ps).roots,p=0:=by
  intro p hp;obtain⟨h,hh,hp⟩:=Aj.1 hp;rw[(ai.1 hh).2]at hp;simpa [AE.roots,R6.places,Dt] using hp
 have htx:∀ t,t<ps.length->(Am.fresh n ps.length r u mo).t t=Tx.fresh r u:=by
  intro t ht;unfold Am.t Am.fresh;simp[Qi,Qy,ht]
 have hlen:(Mc.fresh (Am.fresh n ps.length r u mo) ps).hs.length=ps.length:=by simp[Mc.fresh]
 refine⟨hok,⟨hok.inv,hgc,rfl,rfl,rfl,rfl,rfl,rfl,?_,rfl,fun p hp=>?_,fun p hp=>by rw[kC p hp];exact .inl rfl,rfl,rfl⟩,⟨fun i x hx=>?_,fun i x hx=>?_⟩,?_,fun t ht=>?_,fun t ht _=>?_,hm⟩
 ·show Ad _ _=(Ad _ _).map _
  rw[aM];rfl
 ·rcases Bg.1 hp with⟨z,hz,_⟩|⟨x,hx,hp⟩
  ·cases hz
  ·rw[(ai.1 hx).2]at hp
   simp[Tx.places,Lg.roots,Tx.fresh,Lg.fresh]at hp
 ·have:=(ai.1 (Qe hx)).2;subst this;intro z hz;cases hz
 ·have:=(ai.1 (Qe hx)).2;subst this;intro z hz;cases hz
 ·show _=(Ad _ _).map _
  rw[aM];have:Dt=Dt.at' (Hp.fresh n).sr:=by unfold AE.at' R6.at' Dt;simp only[Int.toNat_zero,Amj];rfl
  rw[<-show Dt=Dt.at' (Mc.fresh (Am.fresh n ps.length r u mo) ps).S.H.sr from this]
 ·rw[hlen]at ht
  have:(Mc.fresh (Am.fresh n ps.length r u mo) ps).h t=Dt:=by unfold Mc.h Mc.fresh;simp[Qi,Qy,ht]
  unfold Fw;rw[this];show Cj ((Am.fresh n ps.length r u mo).t t) _ _;rw[htx t ht];exact⟨by simp[Tx.fresh,Lg.fresh],by simp[Tx.fresh,Lg.fresh],by simp[Tx.fresh,Lg.fresh],by simp[Tx.fresh,Lg.fresh],hr,hu⟩
 ·rw[hlen]at ht
  exact⟨Tx.fresh r u,by show (Am.fresh n ps.length r u mo).t t=_;rw[htx t ht];rfl⟩
def CY.C9 (h:CY M l A hA m){t:Nat}(ht:t<M.hs.length):M.C9 t=(hA.getD t Dt,true):=by
 unfold Mc.C9;rw[if_neg (by omega),h.TD ht,Int.toNat_natCast]
 congr 1;have hc:∀ p ∈ (M.h t).roots,M.S.Bc p=M.S.H.sr p:=fun p hp=>h.Cz.RY (h.Cz.ex p (Mc.root ht p hp))
 unfold AE.Fy AE.at' R6.Fy R6.at';unfold AE.roots R6.places at hc;simp only[Qs,af,aF,or_false]at hc;congr 1<;>(congr 1<;>(congr 1;exact hc _ (by simp)))
def CY.bn (h:CY M l A hA m){t:Nat}(ht:t<M.hs.length):(M.h t).b=(hA.getD t Dt).b/\(M.h t).n=(hA.getD t Dt).n:=by rw[h.TD ht];exact⟨rfl,rfl⟩
def CY.hlen (h:CY M l A hA m):hA.length=M.hs.length:=by rw[h.hs];simp
def qnf {α:Type}{f g:α->Bool}:∀ {l:List α},(∀ x ∈ l,f x=g x)->l.all f=l.all g
 | [],_=>rfl
 | x::l,h=>by rw[aS,aS,h x (.head _),qnf fun y hy=>h y (.tail _ hy)]
def CY.Y5 (h:CY M l A hA m):l.length<=A.Bc+1:=by
 have:=SF l (aP (A.Bc+1)) h.Cz.gc.B3.nd fun x hx=>aR.2 (by have:=h.Cz.gc.B3.ln x hx;have:=h.Cz.Bc;omega)
 grind
end
end
section
open Go.RowKit Hp
attribute [local go_sem ↓] Go.wp_at_zero Go.wp_at_succ
section
variable {w w' : Aa} {o o' : Own} {m : Cd} {M : Mc}
def BK.retag (h:BK w o m M)(he:∀ b,b<w.1.size->o' b=o b):BK w o' m M:=
 h.Ar (T:=fun _=>False) ⟨rfl,rfl,rfl,Qk _,he,fun _ _ _=>rfl⟩ (fun _ h=>h) fun _ h=>h
def Xz (h:BK w o m M):Ab ANa 21 #[Ah (some ⟨m.mb,3,none⟩)] w fun e w'=>e=O (.bool (decide (2000<=M.past.length)))/\BK w' o m M/\(∀ (b:Nat)(cs:Array Ac)(t:TypeId),b≠m.mb->An w b cs t->An w' b cs t)/\w'.1.size=w.1.size/\Stp (fun t=>t=(m.y.l.id+2,0)) o o w w':=by
 obtain⟨ve,jb,hr⟩:=h.A3;obtain⟨pa,cp,rfl⟩:=hr.A6;refine (Jl m.mb M.past.length cp pa w (jb.cell 3) (jb.cell 5) (jb.free 3)).mono ?_
 rintro e w' ⟨rfl,rfl⟩
 have e1:o m.mb=(m.y.l.id+2,0):=h.om;have k:Stp (fun t=>t=(m.y.l.id+2,0)) o o w ((w.setCell ⟨m.mb,3,none⟩ (.int .i32 1)).setCell ⟨m.mb,3,none⟩ (.int .i32 0)):=((Stp.refl _ o w).setCell (by show o m.mb=_;exact e1) _).setCell (by show o m.mb=_;exact e1) _
 have j2:=(jb.set 3 (.int .i32 1)).set 3 (.int .i32 0);exact⟨rfl,⟨⟨_,j2,hr.Ar k (by simp)⟩,h.st.Ar k (by simp),h.ps.Ar k (by simp) (by simp),h.hs.Ar k (by simp),h.om⟩,fun b cs t hb j=>(j.Ao (a:=⟨m.mb,3,none⟩) hb _).Ao (a:=⟨m.mb,3,none⟩) hb _,by simp,k⟩
def BK.CL (h:BK w o m M){t:Nat}(ht:t<M.hs.length){g n c:Nat}(hv:m.vh=Ai (some ⟨g,0,none⟩) n c)(z:AE) :
  BK (Kl w g (t*15) z) o m { M with hs:=M.hs.set t z }/\Stp (fun u=>u=(m.y.l.id+2,2)) o o w (Kl w g (t*15) z):=by
 have hr:=h.hs;have hn:n=M.hs.length:=by
  obtain⟨a,c',e⟩:=hr.A6;rw[hv]at e;injection e
 subst hn;rw[hv]at hr;have k:Stp (fun u=>u=(m.y.l.id+2,2)) o o w (Kl w g (t*15) z):=Uo (Stp.refl _ o w) hr.EB z
 obtain⟨ve,jb,hp⟩:=h.A3;refine⟨⟨⟨ve,jb.Ar k (by rw[h.om];simp),hp.Ar k (by simp)⟩,h.st.Ar k (by simp),h.ps.Ar k (by simp) (by simp),?_,(k.tags _ jb.lt).trans h.om⟩,k⟩
 show Row _ o _ _ 15 m.vh (M.hs.set t z).length _;rw[Qq,hv];exact X3 hr ht z
def KD.Y3 {v:Ac}{tg:Tag}{l:List AD}(h:KD w o tg v l):Fc w v l:=by
 obtain⟨h12,hr⟩:=h;obtain⟨a,c,rfl⟩:=hr.A6;refine⟨a,c,rfl,fun k d hd=>?_⟩
 have key:∀ r,r<5->(kl (l.map AD.D))[k*5+r]?=(ju d.D)[r]?:=fun r hr=>by
  rw[nj,show (k*5+r)/5=k from by omega,show (k*5+r)%5=r from by omega,Qj,hd];rfl
 rcases hr.Dc with ⟨_,h0⟩|⟨g,cap,e,_⟩
 ·have:=key 0 (by omega)
  rw[h0]at this;simp[ju]at this
 ·injection e with e1 _ e3
  subst e1 e3;have f:∀ r u,r<5->(ju d.D)[r]?=some u->w.cell? ⟨g,0+(k*5+r),none⟩=some u:=fun r u hr' hu=>by
   have:=hr.own.cells (g:=g) rfl (k*5+r) u ((key r hr').trans hu);rw[addr_add]at this;rw[aL];exact this
  refine⟨g,0,rfl,?_,?_,?_,?_,?_⟩
  ·exact (congrArg w.cell? (by rw[Nat.add_zero])).trans (f 0 _ (by omega) rfl)
  ·exact f 1 _ (by omega) rfl
  ·exact f 2 _ (by omega) rfl
  ·exact f 3 _ (by omega) rfl
  ·exact f 4 _ (by omega) rfl
def KB.Tw {v:Ac}{tg:Tag}{bs:List (List AD)}(h:KB w o tg v bs):Dw w v bs:=by
 obtain⟨h6,vs,hl,hr,hd⟩:=h;obtain⟨a,c,rfl⟩:=hr.A6;refine⟨a,c,rfl,fun j ds hj=>?_⟩
 obtain⟨u,hu,hk⟩:=hd j ds hj;rcases hr.form with⟨_,h0⟩|⟨g,cap,e,_⟩
 ·have:=(Qc.1 hj).1;omega
 ·injection e with e1 _ e3
  subst e1 e3;exact⟨g,0,rfl,u,by rw[aL];exact hr.cells j _ hu,hk.Y3⟩
end
section
variable {w w' : Aa} {o o' : Own} {m : Cd} {M : Mc}
def C2.PH {tg:Tag}(h:C2 m M (ext o w tg) w w'):C2 m M o w w':=by
 obtain⟨o',h1,h2⟩:=h;exact⟨o',h1,h2.os,h2.tape,h2.output,h2.size,fun b hb=>(h2.tags b hb).trans (qk hb),fun b hb hn=>h2.block b hb (by rw[qk hb];exact hn)⟩
def wy (W:Aa)(b:Nat)(a:BD):Aa:=((W.setCell ⟨b,0,none⟩ (I Z a.k)).setCell ⟨b,1,none⟩ (I Z a.e)).setCell ⟨b,2,none⟩ (I Z a.v)
def dp {W:Aa}{b:Nat}{t:TypeId}{x y z:Ac}(j:An W b #[x,y,z] t)(a:BD):An (wy W b a) b a.cells t:=((j.set 0 (I Z a.k)).set 1 (I Z a.e)).set 2 (I Z a.v)
def Yb {T:Tag->Prop}{W:Aa}{b:Nat}(ht:T (o b))(a:BD):Stp T o o W (wy W b a):=(((Stp.refl _ o W).setCell (by exact ht) _).setCell (by exact ht) _).setCell (by exact ht) _
def U0 {W:Aa}{b c:Nat}{cs:Array Ac}{t:TypeId}(j:An W c cs t)(h:c≠b)(z:AE):An (Ds W b z) c cs t:=(((((((((((((((j.Ao (a:=⟨b,0,none⟩) h _).Ao (a:=⟨b,1,none⟩) h _).Ao (a:=⟨b,2,none⟩) h _).Ao (a:=⟨b,3,none⟩) h _).Ao (a:=⟨b,4,none⟩) h _).Ao (a:=⟨b,5,none⟩) h _).Ao (a:=⟨b,6,none⟩) h _).Ao (a:=⟨b,7,none⟩) h _).Ao (a:=⟨b,8,none⟩) h _).Ao (a:=⟨b,9,none⟩) h _).Ao (a:=⟨b,10,none⟩) h _).Ao (a:=⟨b,11,none⟩) h _).Ao (a:=⟨b,12,none⟩) h _).Ao (a:=⟨b,13,none⟩) h _).Ao (a:=⟨b,14,none⟩) h _)
def Ue {W:Aa}{b c:Nat}{cs:Array Ac}{t:TypeId}(j:An W c cs t)(h:c≠b)(a:BD):An (wy W b a) c cs t:=(((j.Ao (a:=⟨b,0,none⟩) h _).Ao (a:=⟨b,1,none⟩) h _).Ao (a:=⟨b,2,none⟩) h _)
def M3 {T:Tag->Prop}{W:Aa}(h:Stp T o o' w W){b:Nat}(hb:w.1.size<=b)(z:AE):Stp T o o' w (Ds W b z):=by
 have k2:∀ {W:Aa},Stp T o o' w W->∀ j v,Stp T o o' w (W.setCell ⟨b,j,none⟩ v):=fun h j v=>h.setCell_new (by exact hb) v
 exact k2 (k2 (k2 (k2 (k2 (k2 (k2 (k2 (k2 (k2 (k2 (k2 (k2 (k2 (k2 h _ _) _ _) _ _) _ _) _ _) _ _) _ _) _ _) _ _) _ _) _ _) _ _) _ _) _ _) _ _
def GV {T:Tag->Prop}{W:Aa}(h:Stp T o o' w W){b:Nat}(hb:w.1.size<=b)(a:BD):Stp T o o' w (wy W b a):=by
 have k2:∀ {W:Aa},Stp T o o' w W->∀ j v,Stp T o o' w (W.setCell ⟨b,j,none⟩ v):=fun h j v=>h.setCell_new (by exact hb) v
 exact k2 (k2 (k2 h _ _) _ _) _ _
def KN (W:Aa)(b:Nat)(z:AE):(Ds W b z).1.size=W.1.size:=by unfold Ds;simp only[aB]
def qou (W:Aa)(b:Nat)(a:BD):(wy W b a).1.size=W.1.size:=by unfold wy;simp only[aB]
structure Af (m:Cd)(N:Mc)(o:Own)(w:Aa)(ca cb:Array Ac)(W:Aa)(o':Own):Prop where
 mi:BK W o' m N
 ja:An W w ca 33
 jb:An W (w.1.size+1) cb 49
 st:Stp (kf m) o o' w W
 oa:o' w=(m.y.l.id+1,0)
 ob:o' (w.1.size+1)=(m.y.l.id+1,0)
section
variable {N : Mc} {ca cb : Array Ac} {W : Aa}
def Af.alloc (h:Af m N o w ca cb W o')(c:Array Ac)(t:TypeId):Af m N o w ca cb (W.alloc (.cells c t)) (ext o' W (m.y.l.id+1,0))/\An (W.alloc (.cells c t)) W c t/\ext o' W (m.y.l.id+1,0) W.1.size=(m.y.l.id+1,0) /\
  ∀ (b:Nat)(cs:Array Ac)(t2:TypeId),An W b cs t2->o' b=(m.y.l.id+1,0)->An (W.alloc (.cells c t)) b cs t2/\ext o' W (m.y.l.id+1,0) b=(m.y.l.id+1,0):=by
 refine⟨⟨(h.mi.retag fun b hb=>qk hb).below (qc (qd W) _),h.ja.alloc _,h.jb.alloc _,(h.st.ext _ _ h.st.size).trans (Stp.of_below (qc (qd W) _)),(qk h.ja.lt).trans h.oa,(qk h.jb.lt).trans h.ob⟩,An.new W c t,qq (Qk _),fun b cs t2 j hj=>⟨j.alloc _,(qk j.lt).trans hj⟩⟩
def Af.YU (h:Af m N o w ca cb W o'){b:Nat}(hb:w.1.size+2<=b)(ht:o' b=(m.y.l.id+1,0))(z:AE):Af m N o w ca cb (Ds W b z) o':=by
 have k:Stp (fun t=>t=(m.y.l.id+1,0)) o' o' W (Ds W b z):=Uo (b:=0) (Stp.refl _ o' W) ht z
 exact⟨h.mi.Ar k (fun j h=>by simp at h) (fun j h=>by simp at h),U0 h.ja (by omega) z,U0 h.jb (by omega) z,M3 h.st (by omega) z,h.oa,h.ob⟩
def Af.Q3 (h:Af m N o w ca cb W o'){b:Nat}(hb:w.1.size+2<=b)(ht:o' b=(m.y.l.id+1,0))(a:BD):Af m N o w ca cb (wy W b a) o':=by
 have k:Stp (fun t=>t=(m.y.l.id+1,0)) o' o' W (wy W b a):=Yb (T:=fun t=>t=(m.y.l.id+1,0)) ht a
 exact⟨h.mi.Ar k (fun j h=>by simp at h) (fun j h=>by simp at h),Ue h.ja (by omega) a,Ue h.jb (by omega) a,GV h.st (by omega) a,h.oa,h.ob⟩
def Af.Vm (h:Af m N o w ca cb W o')(z:AE)(a:BD):∃ o5,Af m N o w ca cb ((W.alloc (.cells z.cells 49)).alloc (.cells a.cells 33)) o5/\An ((W.alloc (.cells z.cells 49)).alloc (.cells a.cells 33)) W z.cells 49/\An ((W.alloc (.cells z.cells 49)).alloc (.cells a.cells 33)) (W.1.size+1) a.cells 33/\o5 W=(m.y.l.id+1,0)/\o5 (W.1.size+1)=(m.y.l.id+1,0):=by
 obtain⟨x1,x2,x3,_⟩:=h.alloc z.cells 49;obtain⟨y1,y2,y3,y4⟩:=x1.alloc a.cells 33;obtain⟨z1,z2⟩:=y4 _ _ _ x2 x3;have e:(W.alloc (.cells z.cells 49)).1.size=W.1.size+1:=aO _ _;exact⟨_,y1,z1,by rw[<-e];exact y2,z2,by rw[<-e];exact y3⟩
def Af.Vn (h:Af m N o w ca cb W o')(z:AE)(a:BD):∃ o5,Af m N o w ca cb ((W.alloc (.cells a.cells 33)).alloc (.cells z.cells 49)) o5/\An ((W.alloc (.cells a.cells 33)).alloc (.cells z.cells 49)) (W.1.size+1) z.cells 49/\An ((W.alloc (.cells a.cells 33)).alloc (.cells z.cells 49)) W a.cells 33/\o5 (W.1.size+1)=(m.y.l.id+1,0)/\o5 W=(m.y.l.id+1,0):=by
 obtain⟨x1,x2,x3,_⟩:=h.alloc a.cells 33;obtain⟨y1,y2,y3,y4⟩:=x1.alloc z.cells 49;obtain⟨z1,z2⟩:=y4 _ _ _ x2 x3;have e:(W.alloc (.cells a.cells 33)).1.size=W.1.size+1:=aO _ _;exact⟨_,y1,by rw[<-e];exact y2,z1,by rw[<-e];exact y3,z2⟩
def Af.Vo (h:Af m N o w ca cb W o'){b:Nat}(hb:w.1.size+2<=b)(ht:o' b=(m.y.l.id+1,0))(j:An W b Dt.cells 49)(z:AE)(a:BD):∃ o5,Af m N o w ca cb ((Ds W b z).alloc (.cells a.cells 33)) o5/\An ((Ds W b z).alloc (.cells a.cells 33)) b z.cells 49/\An ((Ds W b z).alloc (.cells a.cells 33)) W a.cells 33/\o5 b=(m.y.l.id+1,0)/\o5 W=(m.y.l.id+1,0):=by
 obtain⟨y1,y2,y3,y4⟩:=(h.YU hb ht z).alloc a.cells 33;obtain⟨z1,z2⟩:=y4 _ _ _ (dc (g:=Dt) j z) ht;have e:=KN W b z;exact⟨_,y1,z1,by rw[<-e];exact y2,z2,by rw[<-e];exact y3⟩
def Af.Vp (h:Af m N o w ca cb W o'){b:Nat}(hb:w.1.size+2<=b)(ht:o' b=(m.y.l.id+1,0))(j:An W b #[(),(),()] 33)(z:AE)(a:BD):∃ o5,Af m N o w ca cb ((wy W b a).alloc (.cells z.cells 49)) o5/\An ((wy W b a).alloc (.cells z.cells 49)) W z.cells 49/\An ((wy W b a).alloc (.cells z.cells 49)) b a.cells 33/\o5 W=(m.y.l.id+1,0)/\o5 b=(m.y.l.id+1,0):=by
 obtain⟨y1,y2,y3,y4⟩:=(h.Q3 hb ht a).alloc z.cells 49;obtain⟨z1,z2⟩:=y4 _ _ _ (dp j a) ht;have e:=qou W b a;exact⟨_,y1,by rw[<-e];exact y2,z1,by rw[<-e];exact y3,z2⟩
def Af.Sg (h:Af m N o w ca cb W o'){b c:Nat}(hne:b≠c)(hb:w.1.size+2<=b)(ht:o' b=(m.y.l.id+1,0))(j:An W b Dt.cells 49)(hc:w.1.size+2<=c)(htc:o' c=(m.y.l.id+1,0))(jc:An W c #[(),(),()] 33)(z:AE)(a:BD):∃ o5,Af m N o w ca cb (wy (Ds W b z) c a) o5/\An (wy (Ds W b z) c a) b z.cells 49/\An (wy (Ds W b z) c a) c a.cells 33/\o5 b=(m.y.l.id+1,0)/\o5 c=(m.y.l.id+1,0):=
 ⟨o',(h.YU hb ht z).Q3 hc htc a,Ue (dc (g:=Dt) j z) hne a,dp (U0 jc (fun e=>hne e.symm) z) a,ht,htc⟩
end
def C2.GU {W:Aa}(h1:BK W o' m M)(h2:Stp (kf m) o o' w W){b:Nat}(hb:w.1.size<=b)(ht:o' b=(m.y.l.id+1,0))(a:BD):C2 m M o w (wy W b a):=by
 have k:Stp (fun t=>t=(m.y.l.id+1,0)) o' o' W (wy W b a):=Yb (T:=fun t=>t=(m.y.l.id+1,0)) ht a
 exact⟨o',h1.Ar k (fun j h=>by simp at h) (fun j h=>by simp at h),((h2.setCell_new (by exact hb) _).setCell_new (by exact hb) _).setCell_new (by exact hb) _⟩
def qp1 (h:BK w o m M)(W:Aa)(hb:Ae w w W):C2 m M o w W:=⟨o,h.below hb,Stp.of_below hb⟩
def yz (n:Nat):Code->Option Code
 | .region id ops b=>if id=n then some (.region id ops b) else none
 | .seq a b=>match yz n a with
  | some c=>some c
  | none=>yz n b
 | .block _ c=>yz n c
 | .scope c=>yz n c
 | .cond _ a b=>match yz n a with
  | some c=>some c
  | none=>yz n b
 | .loop c=>yz n c
 | _=>none
noncomputable def RV (n:Nat):Code:=((Tryz.f9.body.bind (yz n)).getD .skip)
def RQ (Q:Exit->Act->Aa->Prop){w2 W3:Aa}{RS:Am}{gV gq nh nV ch P c T:Nat}{a:Option Addr}{ve2:Ac}{zb zn a0 a1 a2 a3 a4 a5 s0 s1 s2 s3 s4 s5 rb rn b0 b1 b2 b3 b4 b5 d0 d1 d2 d3 d4 d5 ak ae av:Int}{zl rl:Bool}(u2 u3 u6 u7 u8 u9 u10 u11 u12 u13 u14 u15 u16 u17 u18 u19 u20 u21 u22 u23 u24 u25 u26 u27 u28 u29 u30 u31 u32 u33 u34 u35 u36 u37 u38 u39 u40 u41 u42 u43 u44 u45 u46 u47 u48 u49 u50 u51 u52 u53 u54 u55 u56 u57 u58 u59 u60 u61 u62 u63 u64 u65 u66 u67 u68 u69 u70 u71:Ac)
  (eQ:Q2 (BK w2 o m M))(HJA:Q2 (An w2 w #[(),(),()] 33))(rC:Q2 (Stp (kf m) o o w w2))(HO:Q2 (∀ b,w.1.size<=b->o b=(m.y.l.id+1,0)))(oA:o w=(m.y.l.id+1,0))(yP:Q2 (m.vp=Ai (some ⟨gV,0,none⟩) M.ps.length nV))
  (hz2':w2.1.size=w.1.size+1)(hb3:Ae w2 w2 W3)(fZ:An W3 (w.1.size+1) #[zb,zn,a0,a1,a2,a3,a4,a5,s0,s1,s2,s3,s4,s5,zl] 49)(sZ:An W3 m.mb #[ptr m.y.sb,Ai (some ⟨gV,0,none⟩) nh nV,Ai (some ⟨gq,0,none⟩) nh ch,.int .i32 0,.int .u32 0,ve2] 72)
  (hc3:W3.cell? ⟨gV,T,none⟩=some (.slice a P c))(hTI:¬(nh:Int)<=(T:Int))(wV:(T:Int)<(nh:Int))
  (dV:Q2 (∀ (W:Aa),Ae w2 w2 W->Ab ANa 29 #[ptr m.y.sb,I Z T,.slice a P c,Al #[zb,zn,a0,a1,a2,a3,a4,a5,s0,s1,s2,s3,s4,s5,zl]] W fun e' w'=>e'=O (Ak #[Al #[rb,rn,b0,b1,b2,b3,b4,b5,d0,d1,d2,d3,d4,d5,rl],Al #[ak,ae,av]])/\Left m.y RS o W w'))
  (HX:Q2 (∀ (X:Aa)(o5:Own)(C D:Nat)(z33 z34 z35 z36 z37 z38 z39 z40 z41 z42 z43 z44 z45 z46 z47 z48 z49:Ac),Af m { M with S:=RS } o w #[(),(),()] #[zb,zn,a0,a1,a2,a3,a4,a5,s0,s1,s2,s3,s4,s5,zl] X o5->An X C #[rb,rn,b0,b1,b2,b3,b4,b5,d0,d1,d2,d3,d4,d5,rl] 49->An X D #[ak,ae,av] 33->o5 C=(m.y.l.id+1,0)->o5 D=(m.y.l.id+1,0)->Q .normal ⟨#[ptr m.mb,I Z (T:Int),u2,u3,ptr w,ptr (w.1.size+1),ptr C,ptr D,u8,u9,u10,u11,u12,u13,u14,u15,u16,u17,u18,u19,u20,u21,u22,u23,u24,u25,u26,u27,u28,u29,u30,u31,u32,z33,z34,z35,z36,z37,z38,z39,z40,z41,z42,z43,z44,z45,z46,z47,z48,z49,u50,u51,u52,u53,u54,u55,u56,u57,u58,u59,u60,u61,u62,u63,u64,u65,u66,u67,u68,u69,u70,u71],[]⟩ X)) :
  Code.wp ANa (RV 4) Q ⟨#[ptr m.mb,I Z (T:Int),u2,u3,ptr w,ptr (w.1.size+1),u6,u7,u8,u9,u10,u11,u12,u13,u14,u15,u16,u17,u18,u19,u20,u21,u22,u23,u24,u25,u26,u27,u28,u29,u30,u31,u32,u33,u34,u35,u36,u37,u38,u39,u40,u41,u42,u43,u44,u45,u46,u47,u48,u49,u50,u51,u52,u53,u54,u55,u56,u57,u58,u59,u60,u61,u62,u63,u64,u65,u66,u67,u68,u69,u70,u71],[]⟩ W3:=by
 conv=>arg 2;whnf
 have HX4:=Qa (fun (Wp w4:Aa)(o4:Own)(hbp:Ae W3 W3 Wp)(dQ:Av w4 o4 m.y RS)(hs4:Stp (qi m.y) o o4 Wp w4) =>
  show BK w4 o4 m { M with S:=RS }/\An w4 w #[(),(),()] 33/\An w4 (w.1.size+1) #[zb,zn,a0,a1,a2,a3,a4,a5,s0,s1,s2,s3,s4,s5,zl] 49/\Stp (kf m) o o4 w w4/\o4 w=(m.y.l.id+1,0)/\o4 (w.1.size+1)=(m.y.l.id+1,0) /\
   W3.1.size<=w4.1.size/\w.1.size+2<=W3.1.size/\(∀ (b:Nat)(cs:Array Ac)(t:TypeId),W3.1.size<=b->An Wp b cs t->An w4 b cs t/\o4 b=(m.y.l.id+1,0))/\(w4.cell? ⟨m.mb,0,none⟩=some (ptr m.y.sb)/\w4.cell? ⟨m.mb,1,none⟩=some (Ai (some ⟨gV,0,none⟩) nh nV)/\w4.cell? ⟨gV,T,none⟩=some (.slice a P c)) from by
   have n1:¬qi m.y (m.y.l.id+1,0):=fun e=>by unfold qi at e;simp at e
   have hbq:Ae w2 w2 Wp:=qe hb3 hbp;have nW:=(eQ.out.below hbq).store dQ hs4;have oB:=HO.out (w.1.size+1) (by omega)
   have jAp:=HJA.out.below hbq HJA.out.lt;have jBp:=fZ.below hbp fZ.lt;have lB:=fZ.lt;have sw:Stp (kf m) o o4 w w4:=(rC.out.trans (Stp.of_below hbq)).trans (hs4.mono fun _ h=>fz h);exact⟨nW,jAp.Ar hs4 (by rw[oA];exact n1),jBp.Ar hs4 (by rw[oB];exact n1),sw,(hs4.tags _ jAp.lt).trans oA,(hs4.tags _ jBp.lt).trans oB,Qo hbp.size hs4.size,lB,fun b cs t hb j=>by
    have ob:=HO.out b (by omega)
    exact⟨j.Ar hs4 (by rw[ob];exact n1),(hs4.tags _ j.lt).trans ob⟩,by
    have jm4:=(sZ.below hbp sZ.lt).Ar hs4 (by rw[eQ.out.om];intro e;unfold qi at e;simp at e)
    have og:o gV=(m.y.l.id+2,4):=by
     obtain⟨_,vs,_,hr,_⟩:=eQ.out.ps;rw[yP.out]at hr;exact hr.EB
    have Acy:=cell_below hc3 hbp;refine⟨jm4.cell 0,jm4.cell 1,?_⟩;have hb:=hs4.block gV (SN Acy) (by rw[og];intro e;unfold qi at e;simp at e)
    rw[World.cell?_of_block (w:=Wp) hb];exact Acy⟩)
 have lm:=sZ.lt;have lx:=fZ.lt;have lgp:=SN hc3;have nm:W3.1.size≠m.mb:=by omega
 have nx:W3.1.size≠w.1.size+1:=by omega
 have ng:W3.1.size≠gV:=by omega
 have nm':W3.1.size+1≠m.mb:=by omega
 have nx':W3.1.size≠w.1.size:=by omega
 have ng':W3.1.size+1≠gV:=by omega
 have xb:=fZ.cell;have m0:=sZ.cell 0;have m1:=sZ.cell 1;simp at m0 m1;have x0:=xb 0;have x1:=xb 1;have x2:=xb 2;have x3:=xb 3;have x4:=xb 4;have x5:=xb 5;have x6:=xb 6;have x7:=xb 7;have x8:=xb 8;have x9:=xb 9;have tH:=xb 10;have tJ:=xb 11;have vD:=xb 12;have vE:=xb 13;have vF:=xb 14;simp at x0 x1 x2 x3 x4 x5 x6 x7 x8 x9 tH tJ vD vE vF;clear xb;go_region_held3 (fun w'=>w'.cell? ⟨m.mb,0,none⟩=some (ptr m.y.sb)/\w'.cell? ⟨m.mb,1,none⟩=some (Ai (some ⟨gV,0,none⟩) nh nV)/\w'.cell? ⟨gV,T,none⟩=some (.slice a P c)/\w'.cell? ⟨w.1.size+1,0,none⟩=some (I Z zb)/\w'.cell? ⟨w.1.size+1,1,none⟩=some (I Z zn)/\w'.cell? ⟨w.1.size+1,2,none⟩=some (I Z a0)/\w'.cell? ⟨w.1.size+1,3,none⟩=some (I Z a1)/\w'.cell? ⟨w.1.size+1,4,none⟩=some (I Z a2)/\w'.cell? ⟨w.1.size+1,5,none⟩=some (I Z a3)/\w'.cell? ⟨w.1.size+1,6,none⟩=some (I Z a4)/\w'.cell? ⟨w.1.size+1,7,none⟩=some (I Z a5)/\w'.cell? ⟨w.1.size+1,8,none⟩=some (I Z s0)/\w'.cell? ⟨w.1.size+1,9,none⟩=some (I Z s1)/\w'.cell? ⟨w.1.size+1,10,none⟩=some (I Z s2)/\w'.cell? ⟨w.1.size+1,11,none⟩=some (I Z s3)/\w'.cell? ⟨w.1.size+1,12,none⟩=some (I Z s4)/\w'.cell? ⟨w.1.size+1,13,none⟩=some (I Z s5)/\w'.cell? ⟨w.1.size+1,14,none⟩=some (.bool zl)) (go_keep) (first
  | (go_at_call 29;first
   | (refine (dV.out _ (qf hb3)).mono ?_;rintro e w4 ⟨rfl,o4,dQ,kT,hs4⟩;obtain⟨nW,xS,dJ,sw4,oA4,oB4,lz4,lz3,zO,y0,y1,y2⟩:=HX4.o _ w4 o4 (qf (qd W3)) dQ hs4;have xb:=dJ.cell;have x0:=xb 0;have x1:=xb 1;have x2:=xb 2;have x3:=xb 3;have x4:=xb 4;have x5:=xb 5;have x6:=xb 6;have x7:=xb 7;have x8:=xb 8;have x9:=xb 9;have tH:=xb 10;have tJ:=xb 11;have vD:=xb 12;have vE:=xb 13;have vF:=xb 14;simp at x0 x1 x2 x3 x4 x5 x6 x7 x8 x9 tH tJ vD vE vF;clear xb;have nm4:w4.1.size≠m.mb:=(by omega);have nx4:w4.1.size≠w.1.size+1:=(by omega);have ng4:w4.1.size≠gV:=(by omega);have nm5:w4.1.size+1≠m.mb:=(by omega);have nx5:w4.1.size≠w.1.size:=(by omega);have ng5:w4.1.size+1≠gV:=(by omega))
   | (refine (dV.out _ (qc (qf hb3) _)).mono ?_;rintro e w4 ⟨rfl,o4,dQ,kT,hs4⟩;obtain⟨nW,xS,dJ,sw4,oA4,oB4,lz4,lz3,zO,y0,y1,y2⟩:=HX4.o _ w4 o4 (qc (qf (qd W3)) _) dQ hs4;have xb:=dJ.cell;have x0:=xb 0;have x1:=xb 1;have x2:=xb 2;have x3:=xb 3;have x4:=xb 4;have x5:=xb 5;have x6:=xb 6;have x7:=xb 7;have x8:=xb 8;have x9:=xb 9;have tH:=xb 10;have tJ:=xb 11;have vD:=xb 12;have vE:=xb 13;have vF:=xb 14;simp at x0 x1 x2 x3 x4 x5 x6 x7 x8 x9 tH tJ vD vE vF;clear xb;have nm4:w4.1.size≠m.mb:=(by omega);have nx4:w4.1.size≠w.1.size+1:=(by omega);have ng4:w4.1.size≠gV:=(by omega);have nm5:w4.1.size+1≠m.mb:=(by omega);have nx5:w4.1.size≠w.1.size:=(by omega);have ng5:w4.1.size+1≠gV:=(by omega);obtain⟨jp,op⟩:=zO W3 _ _ (Qk _) (An.new W3.drew _ _);have cp:=jp.cell;have zp:=jp.free;have lp:=jp.lt)
   | (refine (dV.out _ (qc (qc (qf hb3) _) _)).mono ?_;rintro e w4 ⟨rfl,o4,dQ,kT,hs4⟩;obtain⟨nW,xS,dJ,sw4,oA4,oB4,lz4,lz3,zO,y0,y1,y2⟩:=HX4.o _ w4 o4 (qc (qc (qf (qd W3)) _) _) dQ hs4;have xb:=dJ.cell;have x0:=xb 0;have x1:=xb 1;have x2:=xb 2;have x3:=xb 3;have x4:=xb 4;have x5:=xb 5;have x6:=xb 6;have x7:=xb 7;have x8:=xb 8;have x9:=xb 9;have tH:=xb 10;have tJ:=xb 11;have vD:=xb 12;have vE:=xb 13;have vF:=xb 14;simp at x0 x1 x2 x3 x4 x5 x6 x7 x8 x9 tH tJ vD vE vF;clear xb;have nm4:w4.1.size≠m.mb:=(by omega);have nx4:w4.1.size≠w.1.size+1:=(by omega);have ng4:w4.1.size≠gV:=(by omega);have nm5:w4.1.size+1≠m.mb:=(by omega);have nx5:w4.1.size≠w.1.size:=(by omega);have ng5:w4.1.size+1≠gV:=(by omega);obtain⟨jp,op⟩:=zO W3 _ _ (Qk _) ((An.new W3.drew _ _).alloc _);obtain⟨jq,oq⟩:=zO (W3.1.size+1) _ _ (aV _) (An.Ax (W3.drew.alloc _) _ _ _ (W3.1.size+1) (by simp) rfl);have cp:=jp.cell;have zp:=jp.free;have lp:=jp.lt;have cq:=jq.cell;have zq:=jq.free;have lq:=jq.lt))
  | fail)
 all_goals
  have fB:Af m { M with S:=RS } o w #[(),(),()] #[zb,zn,a0,a1,a2,a3,a4,a5,s0,s1,s2,s3,s4,s5,zl] w4 o4:=⟨nW,xS,dJ,sw4,oA4,oB4⟩;clear nW xS dJ sw4 oA4 oB4 x0 x1 x2 x3 x4 x5 x6 x7 x8 x9 tH tJ vD vE vF;first
   | (obtain⟨W5,cO⟩:=Ja0 ((w4.alloc (.cells #[rb,rn,b0,b1,b2,b3,b4,b5,d0,d1,d2,d3,d4,d5,rl] 49)).alloc (.cells #[ak,ae,av] 33));have HH:∃ o5,Af m { M with S:=RS } o w #[(),(),()] #[zb,zn,a0,a1,a2,a3,a4,a5,s0,s1,s2,s3,s4,s5,zl] W5 o5/\An W5 w4 #[rb,rn,b0,b1,b2,b3,b4,b5,d0,d1,d2,d3,d4,d5,rl] 49/\An W5 (w4.1.size+1) #[ak,ae,av] 33/\o5 w4=(m.y.l.id+1,0)/\o5 (w4.1.size+1)=(m.y.l.id+1,0):=(by rw[cO];exact fB.Vm ⟨rb,rn,⟨b0,b1,b2,b3,b4,b5⟩,⟨d0,d1,d2,d3,d4,d5⟩,rl⟩ ⟨ak,ae,av⟩);(try unfold Ds at cO);(try unfold wy at cO);(try simp only at cO);rw[<-cO];clear cO;obtain⟨o5,fQ,jC,jD,oC,oD⟩:=HH)
   | (obtain⟨W5,cO⟩:=Ja0 ((w4.alloc (.cells #[ak,ae,av] 33)).alloc (.cells #[rb,rn,b0,b1,b2,b3,b4,b5,d0,d1,d2,d3,d4,d5,rl] 49));have HH:∃ o5,Af m { M with S:=RS } o w #[(),(),()] #[zb,zn,a0,a1,a2,a3,a4,a5,s0,s1,s2,s3,s4,s5,zl] W5 o5/\An W5 (w4.1.size+1) #[rb,rn,b0,b1,b2,b3,b4,b5,d0,d1,d2,d3,d4,d5,rl] 49/\An W5 w4 #[ak,ae,av] 33/\o5 (w4.1.size+1)=(m.y.l.id+1,0)/\o5 w4=(m.y.l.id+1,0):=(by rw[cO];exact fB.Vn ⟨rb,rn,⟨b0,b1,b2,b3,b4,b5⟩,⟨d0,d1,d2,d3,d4,d5⟩,rl⟩ ⟨ak,ae,av⟩);(try unfold Ds at cO);(try unfold wy at cO);(try simp only at cO);rw[<-cO];clear cO;obtain⟨o5,fQ,jC,jD,oC,oD⟩:=HH)
   | (obtain⟨W5,cO⟩:=Ja0 ((Ds w4 W3 ⟨rb,rn,⟨b0,b1,b2,b3,b4,b5⟩,⟨d0,d1,d2,d3,d4,d5⟩,rl⟩).alloc (.cells #[ak,ae,av] 33));have HH:∃ o5,Af m { M with S:=RS } o w #[(),(),()] #[zb,zn,a0,a1,a2,a3,a4,a5,s0,s1,s2,s3,s4,s5,zl] W5 o5/\An W5 W3 #[rb,rn,b0,b1,b2,b3,b4,b5,d0,d1,d2,d3,d4,d5,rl] 49/\An W5 w4 #[ak,ae,av] 33/\o5 W3=(m.y.l.id+1,0)/\o5 w4=(m.y.l.id+1,0):=(by rw[cO];exact fB.Vo lz3 op jp ⟨rb,rn,⟨b0,b1,b2,b3,b4,b5⟩,⟨d0,d1,d2,d3,d4,d5⟩,rl⟩ ⟨ak,ae,av⟩);(try unfold Ds at cO);(try unfold wy at cO);(try simp only at cO);rw[<-cO];clear cO;obtain⟨o5,fQ,jC,jD,oC,oD⟩:=HH)
   | (obtain⟨W5,cO⟩:=Ja0 ((wy w4 W3 ⟨ak,ae,av⟩).alloc (.cells #[rb,rn,b0,b1,b2,b3,b4,b5,d0,d1,d2,d3,d4,d5,rl] 49));have HH:∃ o5,Af m { M with S:=RS } o w #[(),(),()] #[zb,zn,a0,a1,a2,a3,a4,a5,s0,s1,s2,s3,s4,s5,zl] W5 o5/\An W5 w4 #[rb,rn,b0,b1,b2,b3,b4,b5,d0,d1,d2,d3,d4,d5,rl] 49/\An W5 W3 #[ak,ae,av] 33/\o5 w4=(m.y.l.id+1,0)/\o5 W3=(m.y.l.id+1,0):=(by rw[cO];exact fB.Vp lz3 op jp ⟨rb,rn,⟨b0,b1,b2,b3,b4,b5⟩,⟨d0,d1,d2,d3,d4,d5⟩,rl⟩ ⟨ak,ae,av⟩);(try unfold Ds at cO);(try unfold wy at cO);(try simp only at cO);rw[<-cO];clear cO;obtain⟨o5,fQ,jC,jD,oC,oD⟩:=HH)
   | (obtain⟨W5,cO⟩:=Ja0 (wy (Ds w4 W3 ⟨rb,rn,⟨b0,b1,b2,b3,b4,b5⟩,⟨d0,d1,d2,d3,d4,d5⟩,rl⟩) (W3.1.size+1) ⟨ak,ae,av⟩);have HH:∃ o5,Af m { M with S:=RS } o w #[(),(),()] #[zb,zn,a0,a1,a2,a3,a4,a5,s0,s1,s2,s3,s4,s5,zl] W5 o5/\An W5 W3 #[rb,rn,b0,b1,b2,b3,b4,b5,d0,d1,d2,d3,d4,d5,rl] 49/\An W5 (W3.1.size+1) #[ak,ae,av] 33/\o5 W3=(m.y.l.id+1,0)/\o5 (W3.1.size+1)=(m.y.l.id+1,0):=(by rw[cO];exact fB.Sg (by omega) lz3 op jp (by omega) oq jq ⟨rb,rn,⟨b0,b1,b2,b3,b4,b5⟩,⟨d0,d1,d2,d3,d4,d5⟩,rl⟩ ⟨ak,ae,av⟩);(try unfold Ds at cO);(try unfold wy at cO);(try simp only at cO);rw[<-cO];clear cO;obtain⟨o5,fQ,jC,jD,oC,oD⟩:=HH)
   | (obtain⟨W5,cO⟩:=Ja0 (wy (Ds w4 (W3.1.size+1) ⟨rb,rn,⟨b0,b1,b2,b3,b4,b5⟩,⟨d0,d1,d2,d3,d4,d5⟩,rl⟩) W3 ⟨ak,ae,av⟩);have HH:∃ o5,Af m { M with S:=RS } o w #[(),(),()] #[zb,zn,a0,a1,a2,a3,a4,a5,s0,s1,s2,s3,s4,s5,zl] W5 o5/\An W5 (W3.1.size+1) #[rb,rn,b0,b1,b2,b3,b4,b5,d0,d1,d2,d3,d4,d5,rl] 49/\An W5 W3 #[ak,ae,av] 33/\o5 (W3.1.size+1)=(m.y.l.id+1,0)/\o5 W3=(m.y.l.id+1,0):=(by rw[cO];exact fB.Sg (by omega) (by omega) oq jq lz3 op jp ⟨rb,rn,⟨b0,b1,b2,b3,b4,b5⟩,⟨d0,d1,d2,d3,d4,d5⟩,rl⟩ ⟨ak,ae,av⟩);(try unfold Ds at cO);(try unfold wy at cO);(try simp only at cO);rw[<-cO];clear cO;obtain⟨o5,fQ,jC,jD,oC,oD⟩:=HH)
  exact HX.out _ _ _ _ _ _ _ _ _ _ _ _ _ _ _ _ _ _ _ _ _ fQ jC jD oC oD
end
noncomputable def NF (n:Nat):Code:=((Tryz.f4.body.bind (yz n)).getD .skip)
noncomputable def ES:List Oper:=match NF 11 with|.region _ ops _=>ops.toList|_=>[]
def U7:List (List Nat):=[[0,1,2,3,4,5,6,7,8,9,10,11,12,13,14,15,16,17,18,19,20,21,22,23,24,25,26,27,28,29,30,31,32,33,34,35,36,37,38,39,40,41,42,43,44,45,46,47,48,49,50,51,52,53,54,55,56,57,58,59,60],[0,1,2,3,4,5,6,7,8,9,10,11,12,13,14,15,16,17,18,19,20,21,22,23,24,25,26,27,28,29,31,30,32,33,34,35,36,37,38,39,40,41,42,43,44,45,46,47,48,49,50,51,52,53,54,55,56,57,58,59,60],[0,1,2,3,4,5,6,7,8,9,10,11,12,13,14,15,16,17,18,19,20,21,22,23,24,25,26,27,28,29,31,32,30,33,34,35,36,37,38,39,40,41,42,43,44,45,46,47,48,49,50,51,52,53,54,55,56,57,58,59,60],[0,1,2,3,4,5,6,7,8,9,10,11,12,13,14,15,16,17,18,19,20,21,22,23,24,25,26,27,28,31,29,30,32,33,34,35,36,37,38,39,40,41,42,43,44,45,46,47,48,49,50,51,52,53,54,55,56,57,58,59,60],[0,1,2,3,4,5,6,7,8,9,10,11,12,13,14,15,16,17,18,19,20,21,22,23,24,25,26,27,28,31,29,32,30,33,34,35,36,37,38,39,40,41,42,43,44,45,46,47,48,49,50,51,52,53,54,55,56,57,58,59,60],[0,1,2,3,4,5,6,7,8,9,10,11,12,13,14,15,16,17,18,19,20,21,22,23,24,25,26,27,28,31,32,29,30,33,34,35,36,37,38,39,40,41,42,43,44,45,46,47,48,49,50,51,52,53,54,55,56,57,58,59,60],[0,1,2,3,4,5,6,7,8,9,10,11,12,13,14,15,16,17,18,19,20,21,22,23,24,25,26,27,31,28,29,30,32,33,34,35,36,37,38,39,40,41,42,43,44,45,46,47,48,49,50,51,52,53,54,55,56,57,58,59,60],[0,1,2,3,4,5,6,7,8,9,10,11,12,13,14,15,16,17,18,19,20,21,22,23,24,25,26,27,31,28,29,32,30,33,34,35,36,37,38,39,40,41,42,43,44,45,46,47,48,49,50,51,52,53,54,55,56,57,58,59,60],[0,1,2,3,4,5,6,7,8,9,10,11,12,13,14,15,16,17,18,19,20,21,22,23,24,25,26,27,31,28,32,29,30,33,34,35,36,37,38,39,40,41,42,43,44,45,46,47,48,49,50,51,52,53,54,55,56,57,58,59,60],[0,1,2,3,4,5,6,7,8,9,10,11,12,13,14,15,16,17,18,19,20,21,22,23,24,25,26,27,31,32,28,29,30,33,34,35,36,37,38,39,40,41,42,43,44,45,46,47,48,49,50,51,52,53,54,55,56,57,58,59,60],[0,1,2,3,4,5,6,7,8,9,10,11,12,13,15,14,16,17,18,19,20,21,22,23,24,25,26,27,28,29,30,31,32,33,34,35,36,37,38,39,40,41,42,43,44,45,46,47,48,49,50,51,52,53,54,55,56,57,58,59,60],[0,1,2,3,4,5,6,7,8,9,10,11,12,13,15,14,16,17,18,19,20,21,22,23,24,25,26,27,28,29,31,30,32,33,34,35,36,37,38,39,40,41,42,43,44,45,46,47,48,49,50,51,52,53,54,55,56,57,58,59,60],[0,1,2,3,4,5,6,7,8,9,10,11,12,13,15,14,16,17,18,19,20,21,22,23,24,25,26,27,28,29,31,32,30,33,34,35,36,37,38,39,40,41,42,43,44,45,46,47,48,49,50,51,52,53,54,55,56,57,58,59,60],[0,1,2,3,4,5,6,7,8,9,10,11,12,13,15,14,16,17,18,19,20,21,22,23,24,25,26,27,28,31,29,30,32,33,34,35,36,37,38,39,40,41,42,43,44,45,46,47,48,49,50,51,52,53,54,55,56,57,58,59,60],[0,1,2,3,4,5,6,7,8,9,10,11,12,13,15,14,16,17,18,19,20,21,22,23,24,25,26,27,28,31,29,32,30,33,34,35,36,37,38,39,40,41,42,43,44,45,46,47,48,49,50,51,52,53,54,55,56,57,58,59,60],[0,1,2,3,4,5,6,7,8,9,10,11,12,13,15,14,16,17,18,19,20,21,22,23,24,25,26,27,28,31,32,29,30,33,34,35,36,37,38,39,40,41,42,43,44,45,46,47,48,49,50,51,52,53,54,55,56,57,58,59,60],[0,1,2,3,4,5,6,7,8,9,10,11,12,13,15,14,16,17,18,19,20,21,22,23,24,25,26,27,31,28,29,30,32,33,34,35,36,37,38,39,40,41,42,43,44,45,46,47,48,49,50,51,52,53,54,55,56,57,58,59,60],[0,1,2,3,4,5,6,7,8,9,10,11,12,13,15,14,16,17,18,19,20,21,22,23,24,25,26,27,31,28,29,32,30,33,34,35,36,37,38,39,40,41,42,43,44,45,46,47,48,49,50,51,52,53,54,55,56,57,58,59,60],[0,1,2,3,4,5,6,7,8,9,10,11,12,13,15,14,16,17,18,19,20,21,22,23,24,25,26,27,31,28,32,29,30,33,34,35,36,37,38,39,40,41,42,43,44,45,46,47,48,49,50,51,52,53,54,55,56,57,58,59,60],[0,1,2,3,4,5,6,7,8,9,10,11,12,13,15,14,16,17,18,19,20,21,22,23,24,25,26,27,31,32,28,29,30,33,34,35,36,37,38,39,40,41,42,43,44,45,46,47,48,49,50,51,52,53,54,55,56,57,58,59,60]]
def Ht:List (List Nat):=[[],[0],[1],[2],[3],[4,3],[5,3],[3,6],[7,3],[8],[9,8],[10,8],[8,11],[12,8],[13],[13],[14,15,13],[13,16],[17,13],[18],[19,18,18],[18,20],[21,20],[22],[23,22],[24,22],[22,25],[26,22],[27],[28,27],[29,27],[27],[31,27],[30,32,27],[27,33],[34,27],[35],[35,36],[37,35],[38],[39,38],[40,38],[41,38],[38,42],[43,38],[44],[45,44,44],[46,44],[47,44],[44,48],[49,46],[50],[51,50,50],[52,50],[50,53],[54,52],[55],[56,55,55],[57,55],[55,58],[59,57,0,1,2,3,4,5,6,7,8,9,10,11,12,13,14,15,16,17,18,19,20,21,22,23,24,25,26,27,28,29,30,31,32,33,34,35,36,37,38,39,40,41,42,43,44,45,46,47,48,49,50,51,52,53,54,55,56,57,58,59]]
def Rb:ES.map (dO .any)=Ht:=by kernel_rfl
def Rw:p9 .any ES.toArray ES.length (Array.replicate ES.length false)=U7:=by
 rw[qo4 .any ES Ht Rb,show ES.length=61 from by kernel_rfl]
 decide +kernel
def PV (Q:Exit->Act->Aa->Prop)(m:Cd)(M M':Mc)(o:Own)(W:Aa)(bA bB bC bD bT gh ch:Nat)(u0 u2 u3 u4 u12 u13 u14 u15 u16 u17 u18 u19 u20 u21 u22 u23 u24 u25 u26 u27 u28 u29 u30 u31 u32 u33 u34 u35 u36 u37 u38 u39 u40 u41 u42 u43 u44 u45 u46 u47 u48 u49 u50 u51 u52 u53 u54 u55 u56 u57 u58 u59 u60 u61 u62 u63 u64 u65 u66 u67 u68 u69 u70 u71 u72 u73 u74 u75 u76 u77 u78 u79 u80 u81 u82 u83 u84 u85 u86 u87 u88 u89 u90 u91 u92 u93 u94 u95 u96 u97 u98 u99 u100 u101 u102 u103 u104 u105 u106 u107 u108:Ac)(hM:BK W o m M)
  (kE:∀ (X:Aa)(o2:Own),BK X o2 m M->Ab ANa 14 #[ptr m.mb] X fun e w'=>e=O (.bool true)/\Ae X X w')
  (gF:∀ (X:Aa)(o2:Own),BK X o2 m M->Ab ANa 16 #[ptr m.mb] X fun e w'=>∃ p c,e=O (.slice p 1 c)/\Ae X X w')
  (lT:∀ (X:Aa)(o2:Own),BK X o2 m M->Ab ANa 8 #[ptr m.mb] X fun e w'=>e=O (.bool false)/\C2 m M' o2 X w')
  (qU:∀ (X:Aa)(o2:Own),BK X o2 m M'->Ab ANa 13 #[ptr m.mb] X fun e w'=>e=O (I Z 1)/\X=w')
  (jA:An W bA #[I Z 1,(),()] 33)(jB:An W bB #[I Z 2,(),I Z 1] 33)(jC:An W bC #[I Z 3,(),I Z 1] 33)(jD:An W bD #[(),(),()] 33)
  (t2:W.cell? ⟨bT,2,none⟩=some (I Z 1))(tl:bT<W.1.size)(hl:gh<W.1.size)(hc:3<=ch)
  (h6:W.cell? ⟨gh,6,none⟩=some (I Z 0))(h7:W.cell? ⟨gh,7,none⟩=some (I Z 0))(h8:W.cell? ⟨gh,8,none⟩=some (I Z 0))(h9:W.cell? ⟨gh,9,none⟩=some (I Z 2))(h10:W.cell? ⟨gh,10,none⟩=some (I Z 0))(h11:W.cell? ⟨gh,11,none⟩=some (I Z 1))
  (iF:∀ (X:Aa)(o2:Own)(z49 z50 z51 z52 z53 z54 z55 z56 z57 z58 z59 z60 z61 z62 z63 z64 z65 z66 z67 z68 z69 z70 z71 z72 z73 z74 z75 z76 z77 z78 z79 z80 z81 z82 z83 z84 z85 z86 z87 z88 z89 z90 z91 z92 z93 z94 z95 z96 z97 z98 z99 z100 z101 z102 z103 z104 z105 z106 z107 z108:Ac),BK X o2 m M'->Stp (kf m) o o2 W X->Q .normal ⟨#[.bool true,ptr m.mb,u2,u3,u4,ptr bA,ptr bB,ptr bC,ptr bD,Ai (some ⟨gh,0,none⟩) 3 ch,ptr bT,.bool true,u12,u13,u14,u15,u16,u17,u18,u19,u20,u21,u22,u23,u24,u25,u26,u27,u28,u29,u30,u31,u32,u33,u34,u35,u36,u37,u38,u39,u40,u41,u42,u43,u44,u45,u46,u47,u48,z49,z50,z51,z52,z53,z54,z55,z56,z57,z58,z59,z60,z61,z62,z63,z64,z65,z66,z67,z68,z69,z70,z71,z72,z73,z74,z75,z76,z77,z78,z79,z80,z81,z82,z83,z84,z85,z86,z87,z88,z89,z90,z91,z92,z93,z94,z95,z96,z97,z98,z99,z100,z101,z102,z103,z104,z105,z106,z107,z108],[]⟩ X) :
  Code.wp ANa (NF 11) Q ⟨#[u0,ptr m.mb,u2,u3,u4,ptr bA,ptr bB,ptr bC,ptr bD,Ai (some ⟨gh,0,none⟩) 3 ch,ptr bT,.bool true,u12,u13,u14,u15,u16,u17,u18,u19,u20,u21,u22,u23,u24,u25,u26,u27,u28,u29,u30,u31,u32,u33,u34,u35,u36,u37,u38,u39,u40,u41,u42,u43,u44,u45,u46,u47,u48,u49,u50,u51,u52,u53,u54,u55,u56,u57,u58,u59,u60,u61,u62,u63,u64,u65,u66,u67,u68,u69,u70,u71,u72,u73,u74,u75,u76,u77,u78,u79,u80,u81,u82,u83,u84,u85,u86,u87,u88,u89,u90,u91,u92,u93,u94,u95,u96,u97,u98,u99,u100,u101,u102,u103,u104,u105,u106,u107,u108],[]⟩ W:=by
 conv=>arg 2;whnf
 have HD:=Qa (kE W.drew o (hM.below (qf (qd W))));have HM:=Qa hM;have HCa:=Qa gF;have HCo:=Qa lT;have oH:=Qa qU;have HJ:=Qa (aa jB (aa h6 (aa h7 (aa h8 (aa h9 (aa h10 (aa h11 (aa t2 (aa tl hl)))))))));have HE:=Qa iF;have cA:=jA.cell;have cB:=jB.cell;have cC:=jC.cell;have cD:=jD.cell;clear hM kE gF lT qU iF jA jB jC jD h6 h7 h8 h9 h10 h11 t2 tl hl;refine qbw (by kernel_rfl) U7 Rw (by kernel_rfl) ?_
 intro is his;unfold U7 at his;simp only[af,aF,or_false]at his;rcases his with rfl|rfl|rfl|rfl|rfl|rfl|rfl|rfl|rfl|rfl|rfl|rfl|rfl|rfl|rfl|rfl|rfl|rfl|rfl|rfl
 all_goals simp only[gj,List.drop_succ_cons,List.drop_zero]
 all_goals go_wp2_with (first
   | (go_at_call 14;refine HD.o.mono ?_;rintro e w2 ⟨rfl,hb2⟩;clear cA cB cC cD;obtain⟨jB,h6,h7,h8,h9,h10,h11,t2,tl,hl⟩:=HJ.o;have hb2':=qe (qf (qd W)) hb2;have cB:=(jB.below hb2' jB.lt).cell;replace h6:=(hb2'.cell (p:=⟨gh,6,none⟩) hl).trans h6;replace h7:=(hb2'.cell (p:=⟨gh,7,none⟩) hl).trans h7;replace h8:=(hb2'.cell (p:=⟨gh,8,none⟩) hl).trans h8;replace h9:=(hb2'.cell (p:=⟨gh,9,none⟩) hl).trans h9;replace h10:=(hb2'.cell (p:=⟨gh,10,none⟩) hl).trans h10;replace h11:=(hb2'.cell (p:=⟨gh,11,none⟩) hl).trans h11;replace t2:=(hb2'.cell (p:=⟨bT,2,none⟩) tl).trans t2;have eQ:=Qa (HM.o.below hb2');clear jB hb2 tl hl)
   | (go_at_call 16;refine (HCa.o w2 o eQ.o).mono ?_;rintro e w3 ⟨pc,cc,rfl,hb3⟩;have HM3:=Qa (eQ.o.below hb3);clear cB h6 h7 h8 h9 h10 h11 t2)
   | (go_at_call 8;refine (HCo.o w3 o HM3.o).mono ?_;rintro e w4 ⟨rfl,o4,nW,hs4⟩;have vQ:=Qa nW)
   | (go_at_call 13;refine (oH.o w4 o4 vQ.o).mono ?_;rintro e w5 ⟨rfl,rfl⟩)
   | fail)
 all_goals exact HE.o w4 o4 _ _ _ _ _ _ _ _ _ _ _ _ _ _ _ _ _ _ _ _ _ _ _ _ _ _ _ _ _ _ _ _ _ _ _ _ _ _ _ _ _ _ _ _ _ _ _ _ _ _ _ _ _ _ _ _ _ _ _ _ vQ.o ((Stp.of_below (qe hb2' hb3)).trans hs4)
def FZ.places {r:R6}(h:FZ r):r.places.map nv=[I Z r.a0,I Z r.a1,I Z r.a2,I Z r.a3,I Z r.a4,I Z r.a5]:=by
 have f:∀ j,j<6->((r.get j).toNat:Int)=r.get j:=fun j hj=>by obtain⟨p,hp⟩:=h j hj;rw[hp];simp
 have h0:=f 0 (by omega)
 have h1:=f 1 (by omega)
 have h2:=f 2 (by omega)
 have h3:=f 3 (by omega)
 have h4:=f 4 (by omega)
 have h5:=f 5 (by omega)
 simp only[R6.get]at h0 h1 h2 h3 h4 h5;simp only[R6.places,aK,List.map_nil,nv,h0,h1,h2,h3,h4,h5]
def qmq {w w':Aa}{b:Nat}{cs:List Ac}{e:TypeId}(h:An w' b cs.toArray e)(hb:w.1.size<=b)(hl:cs.length<=maxLen):Row w' (fo w) (1,0) e 1 (Ai (some ⟨b,0,none⟩) cs.length cs.length) cs.length cs:=by
 refine⟨⟨by simp,.inr ⟨b,cs.length,cs.toArray,rfl,aI _,h,Qk _,hl,by simp,by simp⟩⟩,fun k hk=>?_⟩
 have:b=k:=by simpa [Value.ownBlock] using hk
 subst this;exact Jh hb
def ql3 {h:AE}(hr:FZ h.r)(hs:FZ h.s)(w:Aa):Ab ANa 53 #[h.v] w fun e w'=>∃ b,e=O (Ai (some ⟨b,0,none⟩) 12 12) /\
  Row w' (fo w) (1,0) 3 1 (Ai (some ⟨b,0,none⟩) 12 12) 12 (h.roots.map nv)/\Ae w w w':=by
 refine (Xf h w).mono ?_
 rintro e w' ⟨rfl,hb,hbl⟩
 refine⟨_,rfl,?_,hbl⟩;have e1:h.roots.map nv=[I Z h.r.a0,I Z h.r.a1,I Z h.r.a2,I Z h.r.a3,I Z h.r.a4,I Z h.r.a5,I Z h.s.a0,I Z h.s.a1,I Z h.s.a2,I Z h.s.a3,I Z h.s.a4,I Z h.s.a5]:=by
  unfold AE.roots;rw[Qw,hr.places,hs.places];rfl
 rw[e1];exact qmq (cs:=[I Z h.r.a0,I Z h.r.a1,I Z h.r.a2,I Z h.r.a3,I Z h.r.a4,I Z h.r.a5,I Z h.s.a0,I Z h.s.a1,I Z h.s.a2,I Z h.s.a3,I Z h.s.a4,I Z h.s.a5]) hb (by omega) (by simp[maxLen])
def qpe (h:AE):h.roots.length=12:=rfl
def qqv {l:List AE}{k:Nat}{h:AE}(hx:l[k]?=some h):(l.take (k+1)).flatMap AE.roots=(l.take k).flatMap AE.roots++h.roots:=by
 rw[List.take_add_one,hx,List.flatMap_append];simp
def cf (l:List AE):(l.flatMap AE.roots).length=l.length*12:=by
 induction l with
 | nil=>rfl
 | cons h l ih=>rw[aj,Qd,ih,Qv,qpe];omega
section
variable {w w' : Aa} {o o' : Own} {m : Cd} {M : Mc}
def Mc.ok.rg (hk:M.ok){t:Nat}{h:AE}(ht:M.hs[t]?=some h):FZ h.r/\FZ h.s:=by
 have hlt:=(Qc.1 ht).1;have:=(hk.th t hlt).th;rw[Mc.Fp hlt]at ht;injection ht with ht;rw[ht]at this;exact⟨this.r,this.s⟩
def Wj (h:BK w o m M)(hk:M.ok) :
  Ab ANa 23 #[ptr m.mb] w fun e w'=>∃ v',e=O v'/\Row w' (fo w) (1,0) 3 1 v' M.roots.length (M.roots.map nv)/\Ae w w w':=by
 obtain⟨iI,hi,hsI,cK,bZ⟩:=zm;have hu64:=underlying23;obtain⟨ve,jb,_⟩:=h.A3;have nX:M.hs.length<=8:=by rw[hk.len];exact hk.n8
 have dI:=h.hs;obtain⟨ph,ch,fV⟩:=dI.A6;rw[fV]at dI jb;have HHS:=Qa dI;have HRG:=Qa (fun (t:Nat)(z:AE)(ht:M.hs[t]?=some z)=>hk.rg ht)
 unfold Mc.roots;obtain⟨hs,zL⟩:=Ja0 M.hs;rw[<-zL]at HHS HRG nX jb ⊢;have c:=jb.cell;clear h hk dI fV zL;go_in;go_wp2_with fail;clear c jb;go_loopw [3,11] (fun vv ix wr=>∃ k:Nat,ix=I Z k/\k<=hs.length/\Row wr (fo w) (1,0) 3 1 vv (k*12) (((hs.take k).flatMap AE.roots).map nv)/\Ae w w wr) (fun _ ix _=>hs.length-(intOf ix).toNat)
 case atStart=>exact⟨0,rfl,aI _,Row.nil _ _ _ _ _,qd w⟩
 case round =>
  obtain⟨k,rfl,hkn,hr,hb⟩:=hrel;obtain⟨pp,cc,rfl⟩:=hr.A6;by_cases hlt:k<hs.length
  ·have eG:(k:Int)<(hs.length:Int):=by omega
   obtain⟨z,hz⟩:∃ z,hs[k]?=some z:=⟨_,Qb hlt⟩;obtain⟨gq,rfl,hcap,q⟩:=(HHS.o.below hb).FX hz;obtain⟨q0,q1,q2,q3,q4,q5,q6,q7,q8,q9,gB,gD,gP,gQ,gT⟩:=q;obtain⟨hw1,hw2⟩:=zc k (by omega)
   have hk1:Q2 (k*12+12<=maxLen/\(k*12+12)*8<=140737488355328):=by show _/\_;simp only[maxLen];omega
   have nQ:=Qa (qqv hz);have HG:=Qa (HRG.o k z hz);have HR:=Qa hr;have rF:=Qa (fun w=>ql3 HG.o.1 HG.o.2 w);obtain⟨zb,zn,⟨a0,a1,a2,a3,a4,a5⟩,⟨s0,s1,s2,s3,s4,s5⟩,zl⟩:=z;simp only at q0 q1 q2 q3 q4 q5 q6 q7 q8 q9 gB gD gP gQ gT;unfold AE.v AE.cells at rF;simp only at rF;clear hr hz;go_wp2_with (first
    | (go_at_call 53;refine (rF.o _).mono ?_;rintro e w3⟨b3,rfl,hr3,hb3⟩)
    | (at_builtin;refine zu _ rfl _ _ _ rfl 3 iI _ 1 8 hu64 hi bZ hsI cK rfl (by decide) (fo w) (1,0) _ _ _ rfl (Row.below (Row.below HR.o (qc (qd _) _)) hb3) _ _ _ _ _ rfl hr3 (li _) hk1.out.1 hk1.out.2 ?_;intro v' w8 hown hst)
    | fail)
   have eB:=qe (qc hb _) hb3;have uU:=yy eB hown;have fC:=xz eB hst;go_roundw
   case rel=>exact⟨k+1,by simp,by omega,by rw[nQ.o,Qw,Nat.succ_mul];exact uU,fC⟩
   case measure=>simp[intOf];omega
  ·obtain rfl:k=hs.length:=by omega
   rw[List.take_length]at hr;go_wp2_with fail;go_ret;exact⟨_,rfl,hr.ite (cf _).symm rfl,hb⟩
end
end
section
open Go.RowKit Hp Go.Maps
attribute [local go_sem ↓] Go.wp_at_zero Go.wp_at_succ
def Shut (H:Hp):Prop:=∀ x ∈ H.cur,E9 (lk H.cur) x.2.AB
def Hp.reach (H:Hp)(roots:List Nat):List Nat:=gw (lk H.cur) (H.cur.map (·.1)).length roots
section
variable {w : Aa} {o : Own} {l : Bn} {H : Hp} {vc vo vw vf : Ac} {f : Nat -> Nat}
def AN.Y4 (h:AN w o l H vc vo vw vf f)(hk:H.ok):Lb w l.a l.wd (2*H.size+1) f (lk H.cur):=
 ⟨h.Cr,fun p x hx=>by
  have hm:=zh hx;have h1:=zd _ _ _ hk.cl _ hm;have h2:=hk.room;have h3:=hk.ck _ hm;have h4:x.size<=BG x.size:=by
   have a1:=h3.AL.1;have a2:=h3.AL.2.1;have a3:=h3.lp;have a4:=h3.ln;simp only at a1 a2 a3 a4;exact (zi x.size (by unfold Ob.size;omega)).1
  have h5:H.base H.use<=1+H.size:=by unfold Hp.base;split<;>omega
  simp only at h1;exact⟨h.Fb _ hm,h3,by omega⟩⟩
def Hp.ok.gok (hk:H.ok)(hs:Shut H):Nj (lk H.cur) (H.cur.map (·.1)):=
 ⟨fun p hp=>En.1 hp,by have:=SQ hk;rw[Qg];omega,fun p hp=>by
  obtain⟨x,hx⟩:=ag.1 hp;have h1:=zd _ _ _ hk.cl _ (zh hx);have h2:=hk.room;have h3:=hk.sz;have h5:H.base H.use<=1+H.size:=by unfold Hp.base;split<;>omega
  simp only at h1;omega,fun p x hx=>hs _ (zh hx)⟩
end
end
section
open Go.RowKit Hp
attribute [local go_sem ↓] Go.wp_at_zero Go.wp_at_succ
def pk (c:Int)(n:Nat):Nat:=(if c<0 then (-(c+1)).toNat else c.toNat)%n
def Rx (c:Int){n:Nat}(h:1<=n):pk c n<n:=Nat.mod_lt _ h
def Wt (c:Int)(hc:-9223372036854775808<=c/\c<=9223372036854775807)(n:Nat)(h1:1<=n)(h2:n<=3000)(w:Aa) :
  Ab ANa 6 #[c,n] w fun e w'=>e=O (I Z (pk c n))/\w=w':=by
 obtain⟨c1,c2⟩:=hc;have hn0:((n:Int)==0)=false:=by rw[Qh];omega
 have uS:(1:Int)<=(n:Int):=by omega
 have hnJ:(n:Int)<=3000:=by omega
 rcases Int.lt_or_le c 0 with h|h
 ·have e1:(pk c n:Int)=(-(c+1))%(n:Int):=by
   unfold pk;rw[if_pos h];rw[Int.natCast_emod];congr 1;omega
  have b1:0<=-(c+1):=by omega
  have b2:-(c+1)<=9223372036854775807:=by omega
  have HE:=Qa e1;clear e1 h1 h2;go_in;go_wp2_with fail;go_ret;exact⟨nf (by rw[HE.o];first|rfl|rw[<-Int.tmod_eq_emod_of_nonneg b1,Int.neg_tmod]),rfl⟩
 ·have e1:(pk c n:Int)=c%(n:Int):=by
   unfold pk;rw[if_neg (by omega)];rw[Int.natCast_emod];congr 1;omega
  have HE:=Qa e1;clear e1 h1 h2;go_in;go_wp2_with fail;go_ret;exact⟨nf (by rw[HE.o]),rfl⟩
section
variable {w w' : Aa} {o o' : Own} {m : Cd} {M : Mc}
open Go.MuLone in
def VG (h:BK w o m M)(hk:M.past.length<=2000) :
  Ab ANa 11 #[ptr m.mb] w fun e w'=>∃ v',e=O v'/\Row w' (fo w) (1,0) 53 6 v' M.past.length (za M.past)/\BK w' o m M/\Stp (fun t=>t=(m.y.l.id+2,0)) o o w w':=by
 obtain⟨ve,jb,hr⟩:=h.A3;have e1:o m.mb=(m.y.l.id+2,0):=h.om;have HA:=Qa (Lq m.mb M.past ve w o (m.y.l.id+2,3) (jb.cell 3) (jb.cell 5) (jb.free 3) jb.lt hr hk (by rw[e1];simp))
 have HF:=Qa (fun (w1:Aa)(hb:Ae w (w.setCell ⟨m.mb,3,none⟩ (.int .i32 1)) w1)=>show BK (w1.setCell ⟨m.mb,3,none⟩ (.int .i32 0)) o m M/\Stp (fun t=>t=(m.y.l.id+2,0)) o o w (w1.setCell ⟨m.mb,3,none⟩ (.int .i32 0)) from by
  have k1:Stp (fun t=>t=(m.y.l.id+2,0)) o o w (w.setCell ⟨m.mb,3,none⟩ (.int .i32 1)):=(Stp.refl _ o w).setCell (by show o m.mb=_;exact e1) _
  have hb':Ae (w.setCell ⟨m.mb,3,none⟩ (.int .i32 1)).1.size (w.setCell ⟨m.mb,3,none⟩ (.int .i32 1)) w1:=by rw[aB];exact hb
  have k2:=k1.trans (Stp.of_below hb');have k3:Stp (fun t=>t=(m.y.l.id+2,0)) o o w (w1.setCell ⟨m.mb,3,none⟩ (.int .i32 0)):=k2.setCell (by show o m.mb=_;exact e1) _
  have j3:=((jb.set 3 (.int .i32 1)).below hb' (jb.set 3 (.int .i32 1)).lt).set 3 (.int .i32 0);exact⟨⟨⟨_,j3,hr.Ar k3 (by simp)⟩,h.st.Ar k3 (by simp),h.ps.Ar k3 (by simp) (by simp),h.hs.Ar k3 (by simp),h.om⟩,k3⟩)
 have cb:=jb.cell;have HRw:=Qa (fun (w1:Aa)(v:Ac)(hb:Ae w (w.setCell ⟨m.mb,3,none⟩ (.int .i32 1)) w1)(hr1:Row w1 (fo w) (1,0) 53 6 v M.past.length (za M.past))=>show Row (w1.setCell ⟨m.mb,3,none⟩ (.int .i32 0)) (fo w) (1,0) 53 6 v M.past.length (za M.past) from
  hr1.Ar (T:=fun t=>t=(0,0)) ((Stp.refl _ (fo w) w1).setCell (by show fo w m.mb=(0,0);exact F4 jb.lt) _) (by simp))
 clear h jb hr;go_in;go_wp2_with fail;refine HA.o.mono ?_
 rintro e w2 ⟨v',w1,rfl,hr1,hb1,rfl⟩
 obtain⟨hM,hs⟩:=HF.o w1 hb1;have hr2:=HRw.o w1 v' hb1 hr1;generalize w1.setCell ⟨m.mb,3,none⟩ (.int .i32 0)=X at *;go_wp2_with fail;go_ret;exact⟨_,rfl,hr2,hM,hs⟩
def qng {w:Aa}{o1 o2:Own}{t1 t2:Tag}{e1 e2:TypeId}{va vb:Ac}{es:List DW}(ha:Row w o1 t1 e1 6 va es.length (za es))(hb:Row w o2 t2 e2 6 vb es.length (za es))(hn:es.length<=1099511627776) :
  Ab ANa 10 #[va,vb] w fun e w'=>e=O (.bool true)/\Ae w w w':=by
 obtain⟨pa,ca,rfl⟩:=ha.A6;obtain⟨pb,cb,rfl⟩:=hb.A6;have HA:=Qa ha;have HB:=Qa hb;obtain⟨n,hnn⟩:=Ja0 es.length;rw[<-hnn]at HA HB hn ⊢;have HN:=Qa hnn;have HL:=Qa hn;clear ha hb hnn hn;go_in;go_wp2_with fail;go_loopw [5](fun ix wr=>∃ k:Nat,ix=I Z k/\k<=n/\Ae w w wr)(fun ix _=>n-(intOf ix).toNat)
 case atStart=>exact⟨0,rfl,aI _,qd w⟩
 case round =>
  obtain⟨k,rfl,hkn,hb⟩:=hrel;by_cases hlt:k<n
  ·have eG:(k:Int)<(n:Int):=by omega
   obtain⟨hw1,hw2⟩:=xo k n hlt HL.o;obtain⟨x,hx⟩:∃ x,es[k]?=some x:=⟨_,Qb (by rw[<-HN.o];exact hlt)⟩
   obtain⟨ga,rfl,hca,q⟩:=(HA.o.below hb).Vw hx;obtain⟨gb,rfl,hcb,r⟩:=(HB.o.below hb).Vw hx;obtain⟨xt,xb,xn,⟨xk,xe,xv⟩⟩:=x;obtain⟨q0,q1,q2,q3,q4,q5⟩:=q;obtain⟨r0,r1,r2,r3,r4,r5⟩:=r;simp only at q0 q1 q2 q3 q4 q5 r0 r1 r2 r3 r4 r5;clear hx;go_upto_region 6 with fail;go_region;go_wp2_with fail;go_roundw
   case rel=>exact⟨k+1,by simp,hlt,by first|exact hb|exact qf hb⟩
   case measure=>clear hw1 hw2;simp[intOf];omega
  ·obtain rfl:k=n:=by omega
   go_wp2_with fail;go_ret;exact⟨rfl,hb⟩
end
end
section
open Go.RowKit Hp
open Go.MuLone
attribute [local go_sem ↓] Go.wp_at_zero Go.wp_at_succ
def Ko {b:Nat} {c0 c1 c2 v:Ac} (x:DW) {es:List DW} {w:Aa} {o:Own} {tg:Tag} (jb:An w b #[c0,c1,c2,.int .i32 0,.int .u32 0,v] 72)
  (hr:Row w o tg 53 6 v es.length (za es)) (hn:es.length<2000) (nb:o b≠tg) :
  Ab ANa 27 #[Ah (some ⟨b,3,none⟩),x.val] w fun e w'=>e=O (Ak #[])/\∃ v' o',An w' b #[c0,c1,c2,.int .i32 0,.int .u32 0,v'] 72 /\
   Row w' o' tg 53 6 v' (es++[x]).length (za (es++[x]))/\Stp (fun u=>u=tg\/u=o b) o o' w w':=by
 obtain⟨iU,hi,hsI,cK,bZ⟩:=WN;have hu64:=underlying36;have hlen:(es++[x]).length=es.length+1:=by simp
 rw[hlen,qin];obtain⟨xt,xb,xn,⟨xk,xe,xv⟩⟩:=x;obtain⟨pa,cp,rfl⟩:=hr.A6;obtain⟨cs,hcs⟩:=Ja0 (za es);obtain⟨n,hnn⟩:=Ja0 es.length;rw[<-hcs,<-hnn]at hr;rw[<-hnn]at jb;rw[<-hcs,<-hnn];rw[<-hnn]at hn;show Ab _ _ #[Ah (some ⟨b,3,none⟩),Al #[xt,xb,xn,xk,xe,xv]] _ _;obtain⟨z,hz⟩:=Ja0 w.1.size;obtain⟨W,hW⟩:=Ja0 (w.alloc (.cells #[xt,xb,xn,xk,xe,xv] 53));have hb:Ae w w W:=by rw[hW];exact qc (qd w) _
 have jW:=jb.below hb jb.lt;have jX:An W z #[xt,xb,xn,xk,xe,xv] 53:=by rw[hW,hz];exact An.new w _ _
 have q0:W.cell? ⟨b,3,none⟩=some (.int .i32 0):=jW.cell 3;have fW:W.frozen? ⟨b,3,none⟩=false:=jW.free 3;have hbz:b<z:=by rw[hz];exact jb.lt
 have zW:z<W.1.size:=jX.lt
 have H1:=Qa (fun (W1:Aa) (h:W1=W.setCell ⟨b,3,none⟩ (.int .i32 1)) =>
  show An W1 b #[c0,c1,c2,.int .i32 1,.int .u32 0,.slice pa n cp] 72/\An W1 z #[xt,xb,xn,xk,xe,xv] 53/\Row W1 o tg 53 6 (.slice pa n cp) n cs/\Stp (fun u=>u=o b) o o w W1 from by
   subst h;have k:Stp (fun u=>u=o b) o o W (W.setCell ⟨b,3,none⟩ (.int .i32 1)):=(Stp.refl _ o W).setCell (by show o b=o b;rfl) _
   exact⟨jW.set 3 _,jX.Ao (by show z≠b;omega) _,(hr.below hb).Ar k (fun e=>nb e.symm),(Stp.of_below hb).trans k⟩)
 have HF:=Qa (fun (W1 w5:Aa) (o5:Own) (p5:Option Addr) (c5:Nat) (j1:An W1 b #[c0,c1,c2,.int .i32 1,.int .u32 0,.slice pa n cp] 72) (s1:Stp (fun u=>u=o b) o o w W1)
   (hown:Row w5 o5 tg 53 6 (.slice p5 (n+1) c5) (n+1) (cs++[I Z xt,I Z xb,I Z xn,I Z xk,I Z xe,I Z xv]))
   (hst:Stp (fun u=>u=tg) o o5 (W1.drew.alloc (.cells #[xt,xb,xn,xk,xe,xv] 53)) w5) =>
  show An w5 b #[c0,c1,c2,.int .i32 1,.int .u32 0,.slice pa n cp] 72/\An (w5.setCell ⟨b,5,none⟩ (.slice p5 (n+1) c5)) b #[c0,c1,c2,.int .i32 1,.int .u32 0,.slice p5 (n+1) c5] 72 /\
   ∃ o',An ((w5.setCell ⟨b,5,none⟩ (.slice p5 (n+1) c5)).setCell ⟨b,3,none⟩ (.int .i32 0)) b #[c0,c1,c2,.int .i32 0,.int .u32 0,.slice p5 (n+1) c5] 72 /\
    Row ((w5.setCell ⟨b,5,none⟩ (.slice p5 (n+1) c5)).setCell ⟨b,3,none⟩ (.int .i32 0)) o' tg 53 6 (.slice p5 (n+1) c5) (n+1) (cs++[I Z xt,I Z xb,I Z xn,I Z xk,I Z xe,I Z xv]) /\
    Stp (fun u=>u=tg\/u=o b) o o' w ((w5.setCell ⟨b,5,none⟩ (.slice p5 (n+1) c5)).setCell ⟨b,3,none⟩ (.int .i32 0)) from by
   have kb:Ae W1 W1 (W1.drew.alloc (.cells #[xt,xb,xn,xk,xe,xv] 53)):=qc (qf (qd W1)) _;have j2:=(j1.below kb j1.lt).Ar hst nb;have e5:o5 b=o b:=hst.tags _ (j1.below kb j1.lt).lt;have j3:=j2.set 5 (.slice p5 (n+1) c5);have k3:Stp (fun u=>u=o b) o5 o5 w5 ((w5.setCell ⟨b,5,none⟩ (.slice p5 (n+1) c5)).setCell ⟨b,3,none⟩ (.int .i32 0)):=((Stp.refl _ o5 w5).setCell (by show o5 b=o b;exact e5) _).setCell (by show o5 b=o b;exact e5) _
   exact⟨j2,j3,o5,j3.set 3 _,hown.Ar k3 (fun e=>nb e.symm),(s1.mono fun _ h=>.inr h).trans (((Stp.of_below kb).trans hst).mono (fun _ h=>.inl h) |>.trans (k3.mono fun _ h=>.inr h))⟩)
 have uS:(n:Int)<2000:=by omega
 have dE:n+1<=maxLen:=by simp only[maxLen];omega
 have hmb:(n+1)*48<=140737488355328:=by omega
 have h1c:∀ u ∈ [Value.int .i64 xt,I Z xb,I Z xn,I Z xk,I Z xe,I Z xv],u.oneCell'=true:=by intro u hu;simp at hu;rcases hu with rfl|rfl|rfl|rfl|rfl|rfl<;>rfl
 clear hr hn hcs hnn hb jW jX hbz zW jb;go_enter_defers func27,ntmps27
 go_upto_region 4 with (first
  | (go_at_call 43;rw[<-hW];refine (lock_free Tryz.muLib ⟨b,3,none⟩ _ q0 fW).mono ?_;rintro e W1 ⟨rfl,hW1⟩;obtain⟨j1,jx1,r1,s1⟩:=H1.o W1 hW1;clear hW1 hW q0 fW H1;have d1:=j1.cell;have f1:=j1.free;have l1:=j1.lt;have d2:=jx1.cell;rw[hz]at d2)
  | fail)
 have S1:=Qa s1;have J1:=Qa j1;have jn:=An.new W1.drew #[xt,xb,xn,xk,xe,xv] 53;have rn:=r1.below (qc (qf (qd W1)) (.cells #[xt,xb,xn,xk,xe,xv] 53));clear s1 j1 jx1 r1;refine wp_region_noPanic ?_;go_region_law ((refine zt _ (by rfl) _ _ _ (by rfl) 53 iU _ 6 48 hu64 hi bZ hsI cK (by rfl) (by decide) o tg _ _ _ (by rfl) rn ⟨W1,0,none⟩ 1 1 [I Z xt,I Z xb,I Z xn,I Z xk,I Z xe,I Z xv] (by rfl) (by rfl) (gm jn) h1c dE hmb ?_;intro v' w5 hown hst;obtain⟨p5,c5,rfl⟩:=hown.A6;obtain⟨jY,jZ,hfin⟩:=HF.o _ _ _ _ _ J1.o S1.o hown hst;have cX:=jY.cell;have zX:=jY.free;have sX:=jY.lt))
 all_goals
  refine NoPanic.normal ?_;try go_wp2_with fail
  refine leaves_cons (f:=44) (args:=#[Ah (some ⟨b,3,none⟩)]) (by simp) (by simp[go_sem]) ?_
  refine (unlock_deferred Tryz.muLib ⟨b,3,none⟩ .returning _ (jZ.cell 3) (jZ.free 3)).mono ?_;rintro e u' w'' ⟨rfl,rfl,rfl⟩;exact⟨Ak #[],by simp[results,results27,go_sem],rfl,_,hfin⟩
def pd (m:Cd)(t:Tag):Prop:=t=(m.y.l.id+2,3)\/t=(m.y.l.id+2,0)
def WE {w:Aa}{o:Own}{m:Cd}{M:Mc}(h:BK w o m M)(x:DW) :
  Ab ANa 27 #[Ah (some ⟨m.mb,3,none⟩),x.val] w fun e w'=>e=O (Ak #[])/\∃ o',BK w' o' m { M with past:=yd M.past x }/\Stp (pd m) o o' w w':=by
 obtain⟨ve,jb,hr⟩:=h.A3;have fin:∀ {w':Aa}{o':Own}{l:List DW},(∃ v',An w' m.mb #[ptr m.y.sb,m.vp,m.vh,.int .i32 0,.int .u32 0,v'] 72/\Row w' o' (m.y.l.id+2,3) 53 6 v' l.length (za l))->Stp (pd m) o o' w w'->BK w' o' m { M with past:=l }:=by
  intro w' o' l hb hs;have hn:∀ j,¬pd m (m.y.l.id,j):=fun j e=>by rcases e with e|e<;>simp at e
  have hn2:∀ j,j≠0->j≠3->¬pd m (m.y.l.id+2,j):=fun j h0 h3 e=>by rcases e with e|e<;>simp at e<;>omega
  exact⟨hb,h.st.Ar hs hn,h.ps.Ar hs (hn2 1 (by omega) (by omega)) (hn2 4 (by omega) (by omega)),h.hs.Ar hs (hn2 2 (by omega) (by omega)),(hs.tags _ h.lt).trans h.om⟩
 unfold yd;by_cases hl:M.past.length<2000
 ·rw[if_pos hl]
  refine (Ko x jb hr hl (by rw[h.om];simp)).mono ?_
  rintro e w' ⟨rfl,v',o',h1,h2,h3⟩;have h4:Stp (pd m) o o' w w':=h3.mono (by rintro t (rfl|rfl);exact .inl rfl;exact .inr h.om)
  exact⟨rfl,o',fin ⟨v',h1,h2⟩ h4,h4⟩
 ·rw[if_neg hl]
  obtain⟨pa,cp,rfl⟩:=hr.A6;refine (qls m.mb M.past.length cp pa x w (jb.cell 3) (jb.cell 5) (jb.free 3) jb.lt (by omega)).mono ?_
  rintro e w' ⟨rfl,X,rfl⟩;have e1:o m.mb=(m.y.l.id+2,0):=h.om;have k1:Stp (pd m) o o w (w.setCell ⟨m.mb,3,none⟩ (.int .i32 1)):=(Stp.refl _ o w).setCell (by show pd m (o m.mb);rw[e1];exact .inr rfl) _
  have k2:Stp (pd m) o o w ((w.setCell ⟨m.mb,3,none⟩ (.int .i32 1)).alloc X):=k1.trans (Stp.of_below (qc (qd _) X));have k3:Stp (pd m) o o w (((w.setCell ⟨m.mb,3,none⟩ (.int .i32 1)).alloc X).setCell ⟨m.mb,3,none⟩ (.int .i32 0)):=k2.setCell (by show pd m (o m.mb);rw[e1];exact .inr rfl) _
  have j3:=((jb.set 3 (.int .i32 1)).alloc X).set 3 (.int .i32 0);have hr3:=hr.Ar ((Stp.refl (fun t=>t=(m.y.l.id+2,0)) o w).setCell (a:=⟨m.mb,3,none⟩) (by show o m.mb=_;exact e1) (.int .i32 1)) (by simp)
  have hr4:=hr3.below (qc (qd _) X);have dZ:=hr4.Ar ((Stp.refl (fun t=>t=(m.y.l.id+2,0)) o _).setCell (a:=⟨m.mb,3,none⟩) (by show o m.mb=_;exact e1) (.int .i32 0)) (by simp)
  exact⟨rfl,o,fin ⟨_,j3,dZ⟩ k3,k3⟩
