import Derived.Test.YteehgedabdchcaaGreatKas
import Derived.Test.YteehgedabdchcaaGreatKbl
import Derived.Test.YteehgedabdchcaaGreatKbn
import Derived.Test.YteehgedabdchcaaGreatKbp
set_option linter.all false
set_option maxRecDepth 1000000
set_option maxHeartbeats 0
open Go renaming World->Aa,Calls->Ab,Value->Ac
open Go.RowKit renaming Below->Ae
open Go.Value renaming int->I,pointer->Ag,slice->Ah,tuple->Aj,agg->Ak
open Go.IntKind renaming i64->Z
open Go.Ending renaming returned->O
open List renaming replicate->Ad,take_add_one->ag,take_length->ai,getElem_mem->aj,set_append_right->aA,length_singleton->aB,flatMap_cons->aD,getD->aH
open Int renaming toNat_natCast->Ai,natCast_nonneg->aC,le_refl->aG
open Nat renaming zero_le->aa,zero_add->af,sub_self->az,zero_mul->aF
open Option renaming getD_some->ay
open Go.Proofs.Tryz
open Go.Proofs.Tryz renaming prog->ARt
open Go.Obj renaming cells->ARu
namespace Go.Proofs.YteehgedabdchcaaGreat
section
open Go.RowKit Hp
def zt (l:List AE):List Ac:=l.flatMap fun h=>h.cells.toList
def WJ:∀ (l:List AE),(zt l).length=l.length*15
 | []=>rfl
 | h::l=>by
  have e:zt (h::l)=h.cells.toList++zt l:=rfl;rw[e,Qd,WJ l,Qv];show 15+_=_;omega
def XJ:∀ (l:List AE)(t:Nat)(h:AE),l[t]?=some h->∀ k,k<15->(zt l)[t*15+k]?=h.cells.toList[k]?
 | [],_,_,ht,_,_=>by simp at ht
 | z::l,0,h,ht,k,hk=>by
  simp at ht;subst ht;have e:zt (z::l)=z.cells.toList++zt l:=rfl;have e2:z.cells.toList.length=15:=rfl;rw[e,aF,af,Qm (by omega)]
 | z::l,t+1,h,ht,k,hk=>by
  have ih:=XJ l t h (by simpa using ht) k hk
  have e:zt (z::l)=z.cells.toList++zt l:=rfl;have e2:z.cells.toList.length=15:=rfl;rw[e,Ql (by omega),e2,<-ih]
  congr 1;omega
def Fp (xs:List Ac)(b:Nat)(h:AE):List Ac:=
 ((((((((((((((xs.set b (I Z h.b)).set (b+1) (I Z h.n)).set (b+2) (I Z h.r.a0)).set (b+3) (I Z h.r.a1)).set (b+4) (I Z h.r.a2)).set (b+5) (I Z h.r.a3)).set (b+6) (I Z h.r.a4)).set (b+7) (I Z h.r.a5)).set (b+8) (I Z h.s.a0)).set (b+9) (I Z h.s.a1)).set (b+10) (I Z h.s.a2)).set (b+11) (I Z h.s.a3)).set (b+12) (I Z h.s.a4)).set (b+13) (I Z h.s.a5)).set (b+14) (.bool h.l)
def qpd (xs ys:List Ac)(b:Nat)(h:AE):Fp (xs++ys) (xs.length+b) h=xs++Fp ys b h:=by
 have e:∀ (ys:List Ac)(k:Nat)(v:Ac),(xs++ys).set (xs.length+b+k) v=xs++ys.set (b+k) v:=fun ys k v=>by
  rw[aA _ _ (by omega)];congr 2;omega
 have e0:∀ (ys:List Ac)(v:Ac),(xs++ys).set (xs.length+b) v=xs++ys.set b v:=fun ys v=>by
  rw[aA _ _ (by omega)];congr 2;omega
 unfold Fp;simp only[e0,e]
def WZ:∀ (l:List AE)(t:Nat)(h':AE),t<l.length->Fp (zt l) (t*15) h'=zt (l.set t h')
 | [],_,_,ht=>by simp at ht
 | z::l,0,h',_=>by
  have e:zt (z::l)=z.cells.toList++zt l:=rfl;rw[e,aF];rfl
 | z::l,t+1,h',ht=>by
  have ih:=WZ l t h' (by simpa using ht)
  have e:zt (z::l)=z.cells.toList++zt l:=rfl;have e2:z.cells.toList.length=15:=rfl;rw[e,show (t+1)*15=z.cells.toList.length+t*15 from by rw[e2];omega,qpd,ih]
  rfl
def Km (W:Aa)(g b:Nat)(h:AE):Aa:=(((((((((((((((W.setCell ⟨g,b,none⟩ (I Z h.b)).setCell ⟨g,b+1,none⟩ (I Z h.n)).setCell ⟨g,b+2,none⟩ (I Z h.r.a0)).setCell ⟨g,b+3,none⟩ (I Z h.r.a1)).setCell ⟨g,b+4,none⟩ (I Z h.r.a2)).setCell ⟨g,b+5,none⟩ (I Z h.r.a3)).setCell ⟨g,b+6,none⟩ (I Z h.r.a4)).setCell ⟨g,b+7,none⟩ (I Z h.r.a5)).setCell ⟨g,b+8,none⟩ (I Z h.s.a0)).setCell ⟨g,b+9,none⟩ (I Z h.s.a1)).setCell ⟨g,b+10,none⟩ (I Z h.s.a2)).setCell ⟨g,b+11,none⟩ (I Z h.s.a3)).setCell ⟨g,b+12,none⟩ (I Z h.s.a4)).setCell ⟨g,b+13,none⟩ (I Z h.s.a5)).setCell ⟨g,b+14,none⟩ (.bool h.l))
def qif {W:Aa}{o:Own}{t:Tag}{e:TypeId}{g n cap:Nat}{l:List AE}(h:Row W o t e 15 (Ah (some ⟨g,0,none⟩) n cap) n (zt l)){i:Nat}(hi:i<l.length)(h':AE) :
  Row (Km W g (i*15) h') o t e 15 (Ah (some ⟨g,0,none⟩) n cap) n (zt (l.set i h')):=by
 rw[<-WZ l i h' hi];exact ((((((((((((((h.Ct _ _).Ct _ _).Ct _ _).Ct _ _).Ct _ _).Ct _ _).Ct _ _).Ct _ _).Ct _ _).Ct _ _).Ct _ _).Ct _ _).Ct _ _).Ct _ _).Ct _ _
def UI {T:Tag->Prop}{o o':Own}{w W:Aa}(h:Stp T o o' w W){g b:Nat}(ht:T (o' g))(z:AE):Stp T o o' w (Km W g b z):=by
 have k:∀ {W:Aa},Stp T o o' w W->∀ j v,Stp T o o' w (W.setCell ⟨g,j,none⟩ v):=fun h j v=>h.setCell (by exact ht) v
 exact k (k (k (k (k (k (k (k (k (k (k (k (k (k (k h _ _) _ _) _ _) _ _) _ _) _ _) _ _) _ _) _ _) _ _) _ _) _ _) _ _) _ _) _ _
structure Uc (w:Aa)(g b:Nat)(h:AE):Prop where
 c0:w.cell? ⟨g,b,none⟩=some (I Z h.b)
 c1:w.cell? ⟨g,b+1,none⟩=some (I Z h.n)
 c2:w.cell? ⟨g,b+2,none⟩=some (I Z h.r.a0)
 c3:w.cell? ⟨g,b+3,none⟩=some (I Z h.r.a1)
 c4:w.cell? ⟨g,b+4,none⟩=some (I Z h.r.a2)
 c5:w.cell? ⟨g,b+5,none⟩=some (I Z h.r.a3)
 c6:w.cell? ⟨g,b+6,none⟩=some (I Z h.r.a4)
 c7:w.cell? ⟨g,b+7,none⟩=some (I Z h.r.a5)
 c8:w.cell? ⟨g,b+8,none⟩=some (I Z h.s.a0)
 c9:w.cell? ⟨g,b+9,none⟩=some (I Z h.s.a1)
 LI:w.cell? ⟨g,b+10,none⟩=some (I Z h.s.a2)
 Tj:w.cell? ⟨g,b+11,none⟩=some (I Z h.s.a3)
 El:w.cell? ⟨g,b+12,none⟩=some (I Z h.s.a4)
 Tk:w.cell? ⟨g,b+13,none⟩=some (I Z h.s.a5)
 Lq:w.cell? ⟨g,b+14,none⟩=some (.bool h.l)
def Row.KX {w:Aa}{o:Own}{tg:Tag}{e:TypeId}{n cap:Nat}{pa:Option Addr}{l:List AE}(hr:Row w o tg e 15 (.slice pa n cap) n (zt l)){t:Nat}{h:AE}(ht:l[t]?=some h) :
  ∃ g,pa=some ⟨g,0,none⟩/\n<=cap/\Uc w g (t*15) h:=by
 have ha:=XJ l t h ht;rcases hr.B7 with ⟨_,h0⟩|⟨g,cap',e',hn⟩
 ·have:=ha 0 (by omega)
  rw[h0]at this;simp[AE.cells]at this
 ·injection e' with e1 _ e3
  subst e1 e3;have f:∀ k u,k<15->h.cells.toList[k]?=some u->w.cell? ⟨g,t*15+k,none⟩=some u:=fun k u hk hu=>by
   have:=hr.own.cells (g:=g) rfl (t*15+k) u ((ha k hk).trans hu);rwa [addr_add]at this
  exact⟨g,rfl,hn,f 0 _ (by omega) rfl,f 1 _ (by omega) rfl,f 2 _ (by omega) rfl,f 3 _ (by omega) rfl,f 4 _ (by omega) rfl,f 5 _ (by omega) rfl,f 6 _ (by omega) rfl,f 7 _ (by omega) rfl,f 8 _ (by omega) rfl,f 9 _ (by omega) rfl,f 10 _ (by omega) rfl,f 11 _ (by omega) rfl,f 12 _ (by omega) rfl,f 13 _ (by omega) rfl,f 14 _ (by omega) rfl⟩
structure Mc where
 S:An
 ps:List (List (List As))
 hs:List AE
 past:List Bg
def R6.places (r:R6):List Nat:=[r.a0.toNat,r.a1.toNat,r.a2.toNat,r.a3.toNat,r.a4.toNat,r.a5.toNat]
def AE.roots (h:AE):List Nat:=h.r.places++h.s.places
def R6.of (l:List Nat):R6:=⟨l.getD 0 0,l.getD 1 0,l.getD 2 0,l.getD 3 0,l.getD 4 0,l.getD 5 0⟩
def AE.place (h:AE)(l:List Nat):AE:={ h with r:=R6.of l,s:=R6.of (l.drop 6) }
def vg:List AE->List Nat->List AE
 | [],_=>[]
 | h::hs,l=>h.place l::vg hs (l.drop 12)
def wb (l:List Bg)(x:Bg):List Bg:=if l.length<2000 then l++[x] else l
def ji (l:List Bg)(k:Int)(ns:List Nat):List Bg:=ns.foldl (fun (l:List Bg)(n:Nat)=>wb l ⟨-1,0,0,⟨k,0,(n:Int)⟩⟩) l
def DZ:AE:=⟨0,0,⟨0,0,0,0,0,0⟩,⟨0,0,0,0,0,0⟩,false⟩
def Mc.h (M:Mc)(t:Nat):AE:=M.hs.getD t DZ
def Mc.p (M:Mc)(t:Nat):List (List As):=M.ps.getD t []
def Mc.roots (M:Mc):List Nat:=M.hs.flatMap AE.roots
def Mc.BV (M:Mc)(t:Nat):Mc×A0:=
 (⟨(M.S.Bf t (M.p t) (M.h t)).S,M.ps,M.hs.set t (M.S.Bf t (M.p t) (M.h t)).h,if (M.S.Bf t (M.p t) (M.h t)).a.k≠0 then wb M.past ⟨t,(M.h t).b,(M.h t).n,(M.S.Bf t (M.p t) (M.h t)).a⟩ else M.past⟩,(M.S.Bf t (M.p t) (M.h t)).a)
def Mc.step (M:Mc)(t:Int):Mc×A0:=
 if t<0\/(M.hs.length:Int)<=t\/2000<=M.past.length then (M,⟨0,0,0⟩) else M.BV t.toNat
def Mc.told (M:Mc):Mc:={ M with S:={ M.S with came:=[],lost:=[] },past:=ji (ji M.past 5 M.S.came) 4 M.S.lost }
def Mc.collect (M:Mc):Mc×Bool:=
 if 2000<=M.past.length then (M,false)
 else if (M.S.AF M.roots).2.2=true then (Mc.told { M with S:=(M.S.AF M.roots).1,hs:=vg M.hs (M.S.AF M.roots).2.1 },false)
 else (Mc.told { M with S:=M.S.B9.1 },M.S.B9.2)
structure Ck where
 mb:Nat
 y:A6
 vp:Ac
 vh:Ac
def KD (W:Aa)(o:Own)(tg:Tag)(v:Ac)(l:List As):Prop:=l.length<=12/\Row W o tg 73 5 v l.length (kn (l.map As.D))
def KB (W:Aa)(o:Own)(tg:Tag)(v:Ac)(bs:List (List As)):Prop:=
 bs.length<=6/\∃ vs:List Ac,vs.length=bs.length/\Row W o tg 71 1 v bs.length vs/\∀ (j:Nat)(l:List As),bs[j]?=some l->∃ u:Ac,vs[j]?=some u/\KD W o tg u l
def KT (W:Aa)(o:Own)(tg tr:Tag)(v:Ac)(bK:List (List (List As))):Prop:=
 bK.length<=8/\∃ vs:List Ac,vs.length=bK.length/\Row W o tr 67 1 v bK.length vs/\∀ (j:Nat)(bs:List (List As)),bK[j]?=some bs->∃ u:Ac,vs[j]?=some u/\KB W o tg u bs
section
variable {W W' : Aa} {o o' : Own} {v : Ac} {T : Tag -> Prop} {tg : Tag}
def KD.Ao {l:List As}(h:KD W o tg v l)(k:Stp T o o' W W')(ht:¬T tg):KD W' o' tg v l:=⟨h.1,h.2.Ao k ht⟩
def KB.Ao {bs:List (List As)}(h:KB W o tg v bs)(k:Stp T o o' W W')(ht:¬T tg):KB W' o' tg v bs:=by
 obtain⟨h0,vs,h1,h2,h3⟩:=h;exact⟨h0,vs,h1,h2.Ao k ht,fun j l hj=>let⟨u,hu,hd⟩:=h3 j l hj;⟨u,hu,hd.Ao k ht⟩⟩
def KT.Ao {tr:Tag}{bK:List (List (List As))}(h:KT W o tg tr v bK)(k:Stp T o o' W W')(ht:¬T tg)(htr:¬T tr):KT W' o' tg tr v bK:=by
 obtain⟨h0,vs,h1,h2,h3⟩:=h;exact⟨h0,vs,h1,h2.Ao k htr,fun j l hj=>let⟨u,hu,hd⟩:=h3 j l hj;⟨u,hu,hd.Ao k ht⟩⟩
end
structure BN (w:Aa)(o:Own)(m:Ck)(M:Mc):Prop where
 AM:∃ ve,Al w m.mb #[ptr m.y.sb,m.vp,m.vh,.int .i32 0,.int .u32 0,ve] 148/\Row w o (m.y.l.id+2,3) 69 6 ve M.past.length (qq M.past)
 st:Aq w o m.y M.S
 ps:KT w o (m.y.l.id+2,1) (m.y.l.id+2,4) m.vp M.ps
 hs:Row w o (m.y.l.id+2,2) 58 15 m.vh M.hs.length (zt M.hs)
 om:o m.mb=(m.y.l.id+2,0)
structure Mc.ok (M:Mc):Prop where
 inv:M.S.ok
 len:M.hs.length=M.ps.length
 Au:M.S.Au.length=M.ps.length
 n8:M.ps.length<=8
 th:∀ t,t<M.hs.length->Fv (M.p t) M.S t (M.h t)
 dk:∀ p ∈ M.ps,p.length<=6/\∀ ds ∈ p,ds.length<=12/\∀ d ∈ ds,d.ok/\Pg.right d.D=true
 pl:M.past.length<=2000
 lo:M.S.lost=[]
 ca:M.S.came=[]
def yo (m:Ck)(t:Tag):Prop:=t.1=m.y.l.id\/t.1=m.y.l.id+2
def C9 (m:Ck)(M:Mc)(o:Own)(w w':Aa):Prop:=∃ o',BN w' o' m M/\Stp (yo m) o o' w w'
section
variable {w w' : Aa} {o o' : Own} {m : Ck} {M : Mc}
def BN.Ao {T:Tag->Prop}(h:BN w o m M)(hs:Stp T o o' w w')(h1:∀ j,¬T (m.y.l.id,j))(h2:∀ j,¬T (m.y.l.id+2,j)):BN w' o' m M:=by
 obtain⟨ve,hb,hr⟩:=h.AM;exact⟨⟨ve,hb.Ao hs (by rw[h.om];exact h2 _),hr.Ao hs (h2 _)⟩,h.st.Ao hs h1,h.ps.Ao hs (h2 _) (h2 _),h.hs.Ao hs (h2 _),(hs.tags _ hb.lt).trans h.om⟩
def BN.below (h:BN w o m M)(hb:Ae w.1.size w w'):BN w' o m M:=h.Ao (T:=fun _=>False) (Stp.of_below hb) (fun _ h=>h) fun _ h=>h
def BN.lt (h:BN w o m M):m.mb<w.1.size:=by obtain⟨_,hb,_⟩:=h.AM;exact hb.lt
def BN.store (h:BN w o m M){S':An}(hS:Aq w' o' m.y S')(hs:Stp (qo m.y) o o' w w'):BN w' o' m { M with S:=S' }:=by
 obtain⟨ve,hb,hr⟩:=h.AM;have hn:∀ j,¬qo m.y (m.y.l.id+2,j):=fun j e=>by unfold qo at e;simp at e
 exact⟨⟨ve,hb.Ao hs (by rw[h.om];exact hn _),hr.Ao hs (hn _)⟩,hS,h.ps.Ao hs (hn _) (hn _),h.hs.Ao hs (hn _),(hs.tags _ hb.lt).trans h.om⟩
def m8 {m:Ck}{t:Tag}(h:qo m.y t):yo m t:=.inl h
def Mc.Pd {M:Mc}{t:Nat}(h:t<M.hs.length):M.hs[t]?=some (M.h t):=by unfold Mc.h;simp[aH,Qb h]
def Mc.EH {M:Mc}{t:Nat}(h:t<M.ps.length):M.ps[t]?=some (M.p t):=by unfold Mc.p;simp[aH,Qb h]
end
end
section
open Go.RowKit Hp
attribute [local go_sem ↓] Go.wp_at_zero Go.wp_at_succ
def E5.places {r:R6}(h:E5 r):r.places.map nv=[I Z r.a0,I Z r.a1,I Z r.a2,I Z r.a3,I Z r.a4,I Z r.a5]:=by
 have f:∀ j,j<6->((r.get j).toNat:Int)=r.get j:=fun j hj=>by obtain⟨p,hp⟩:=h j hj;rw[hp];simp
 have h0:=f 0 (by omega)
 have h1:=f 1 (by omega)
 have h2:=f 2 (by omega)
 have h3:=f 3 (by omega)
 have h4:=f 4 (by omega)
 have h5:=f 5 (by omega)
 simp only[R6.get]at h0 h1 h2 h3 h4 h5;simp only[R6.places,List.map_cons,List.map_nil,nv,h0,h1,h2,h3,h4,h5]
def qj4 {w w':Aa}{b:Nat}{cs:List Ac}{e:TypeId}(h:Al w' b cs.toArray e)(hb:w.1.size<=b)(hl:cs.length<=maxLen):Row w' (fo w.1.size) (1,0) e 1 (Ah (some ⟨b,0,none⟩) cs.length cs.length) cs.length cs:=by
 refine⟨⟨by simp,.inr ⟨b,cs.length,cs.toArray,rfl,aa _,h,Qk _,hl,by simp,by simp⟩⟩,fun k hk=>?_⟩
 have:b=k:=by simpa [Value.ownBlock] using hk
 subst this;exact Ho hb
def qk1 {h:AE}(hr:E5 h.r)(hs:E5 h.s)(w:Aa):Ab ARt 150 #[h.v] w fun e w'=>∃ b,e=O (Ah (some ⟨b,0,none⟩) 12 12) /\
  Row w' (fo w.1.size) (1,0) 3 1 (Ah (some ⟨b,0,none⟩) 12 12) 12 (h.roots.map nv)/\Ae w.1.size w w':=by
 refine (YY h w).mono ?_
 rintro e w' ⟨rfl,hb,hbl⟩
 refine⟨_,rfl,?_,hbl⟩;have e1:h.roots.map nv=[I Z h.r.a0,I Z h.r.a1,I Z h.r.a2,I Z h.r.a3,I Z h.r.a4,I Z h.r.a5,I Z h.s.a0,I Z h.s.a1,I Z h.s.a2,I Z h.s.a3,I Z h.s.a4,I Z h.s.a5]:=by
  unfold AE.roots;rw[Qx,hr.places,hs.places];rfl
 rw[e1];exact qj4 (cs:=[I Z h.r.a0,I Z h.r.a1,I Z h.r.a2,I Z h.r.a3,I Z h.r.a4,I Z h.r.a5,I Z h.s.a0,I Z h.s.a1,I Z h.s.a2,I Z h.s.a3,I Z h.s.a4,I Z h.s.a5]) hb (by omega) (by simp[maxLen])
def qnd (h:AE):h.roots.length=12:=rfl
def qo2 {l:List AE}{k:Nat}{h:AE}(hx:l[k]?=some h):(l.take (k+1)).flatMap AE.roots=(l.take k).flatMap AE.roots++h.roots:=by
 rw[ag,hx,List.flatMap_append];simp
def UR (l:List AE):(l.flatMap AE.roots).length=l.length*12:=by
 induction l with
 | nil=>rfl
 | cons h l ih=>rw[aD,Qd,ih,Qv,qnd];omega
section
variable {w w' : Aa} {o o' : Own} {m : Ck} {M : Mc}
def Mc.ok.rg (hk:M.ok){t:Nat}{h:AE}(ht:M.hs[t]?=some h):E5 h.r/\E5 h.s:=by
 have hlt:=(Qc.1 ht).1;have:=(hk.th t hlt).th;rw[Mc.Pd hlt]at ht;injection ht with ht;rw[ht]at this;exact⟨this.r,this.s⟩
def qj3 (h:BN w o m M)(hk:M.ok) :
  Ab ARt 88 #[ptr m.mb] w fun e w'=>∃ v',e=O v'/\Row w' (fo w.1.size) (1,0) 3 1 v' M.roots.length (M.roots.map nv)/\Ae w.1.size w w':=by
 obtain⟨iI,hi,hsI,bZ,bT⟩:=jh;have hu64:=underlying25;obtain⟨ve,jb,_⟩:=h.AM;have tZ:M.hs.length<=8:=by rw[hk.len];exact hk.n8
 have eu:=h.hs;obtain⟨ph,ch,pF⟩:=eu.AS;rw[pF]at eu jb;have HHS:=Qa eu;have HRG:=Qa (fun (t:Nat)(z:AE)(ht:M.hs[t]?=some z)=>hk.rg ht)
 unfold Mc.roots;obtain⟨hs,hhe⟩:=Ja0 M.hs;rw[<-hhe]at HHS HRG tZ jb ⊢;have c:=jb.cell;clear h hk eu pF hhe;go_enter func88,ntmps88;go_wp2_with fail;clear c jb;go_loopw [3,11] (fun vv ix wr=>∃ k:Nat,ix=I Z k/\k<=hs.length/\Row wr (fo w.1.size) (1,0) 3 1 vv (k*12) (((hs.take k).flatMap AE.roots).map nv)/\Ae w.1.size w wr) (fun _ ix _=>hs.length-(intOf ix).toNat)
 case atStart=>exact⟨0,rfl,aa _,Row.nil _ _ _ _ _,qd w⟩
 case round =>
  obtain⟨k,rfl,hkn,hr,hb⟩:=hrel;obtain⟨pp,cc,rfl⟩:=hr.AS;by_cases hlt:k<hs.length
  ·have gT:(k:Int)<(hs.length:Int):=by omega
   obtain⟨z,hz⟩:∃ z,hs[k]?=some z:=⟨_,Qb hlt⟩;obtain⟨gq,rfl,hcap,q⟩:=(HHS.out.below hb).KX hz;obtain⟨q0,q1,q2,q3,q4,q5,q6,q7,q8,q9,nN,nO,qJ,qL,qM⟩:=q;obtain⟨hw1,hw2⟩:=jd k (by omega)
   have hk1:Hid (k*12+12<=maxLen/\(k*12+12)*8<=140737488355328):=by show _/\_;simp only[maxLen];omega
   have qA:=Qa (qo2 hz);have HG:=Qa (HRG.out k z hz);have HR:=Qa hr;have uO:=Qa (fun w=>qk1 HG.out.1 HG.out.2 w);obtain⟨zb,zn,⟨a0,a1,a2,a3,a4,a5⟩,⟨s0,s1,s2,s3,s4,s5⟩,zl⟩:=z;simp only at q0 q1 q2 q3 q4 q5 q6 q7 q8 q9 nN nO qJ qL qM;unfold AE.v AE.cells at uO;simp only at uO;clear hr hz;go_wp2_with (first
    | (go_at_call 150;refine (uO.out _).mono ?_;rintro e w3⟨b3,rfl,hr3,hb3⟩)
    | (at_builtin;refine zi _ rfl _ _ _ rfl 3 iI _ 1 8 hu64 hi bT hsI bZ rfl (by decide) (fo w.1.size) (1,0) _ _ _ rfl (Row.below (Row.below HR.out (qc (qd _) _)) hb3) _ _ _ _ _ rfl hr3 (tt _) hk1.out.1 hk1.out.2 ?_;intro v' w8 hown hst)
    | fail)
   have gB:=qe (qc hb _) hb3;have xI:=yr gB hown;have eX:=xx gB hst;go_roundw
   case rel=>exact⟨k+1,by simp,by omega,by rw[qA.out,Qx,Nat.succ_mul];exact xI,eX⟩
   case measure=>simp[intOf];omega
  ·obtain rfl:k=hs.length:=by omega
   rw[ai]at hr;go_wp2_with fail;go_ret;exact⟨_,rfl,hr.ite (UR _).symm rfl,hb⟩
end
end
section
open Hp
section
variable {S : An} {i : Nat} {M : Mc}
def KJ {d:As}(hd:d.ok)(h:d.k=1\/d.k=2)(f:Bool):(⟨d.i.toNat,d.n.toNat,false,f⟩:BX).ok:=by
 have hs:=hd.s h;exact⟨by simp only;omega,by simp only;omega,fun h=>by simp at h⟩
def KW (hk:S.ok)(hi:i<S.Au.length)(h:AE){d:As}(hd:d.ok):(S.A4 i h d).S.ok:=by
 have hkd:=hd.k;by_cases k1:d.k=1
 ·rw[Tt _ _ _ _ k1];exact (Good.Bs hk hi (pc hk hi (KJ hd (.inl k1) _))).1
 by_cases k2:d.k=2
 ·rw[lw _ _ _ _ k2];exact (Good.Bs hk hi (pc hk hi (KJ hd (.inr k2) _))).1
 by_cases k3:d.k=3
 ·rw[TB _ _ _ _ k3];exact (Good.Bs hk hi (tq hk hi _)).1
 by_cases k4:d.k=4
 ·rw[TA _ _ _ _ k4];exact (Good.Bs hk hi (Ur hk hi _ _)).1
 by_cases k9:d.k=9
 ·rw[lj _ _ _ _ k9];exact (Good.Bs hk hi (lf hk hi _)).1
 by_cases k10:d.k=10
 ·rw[bp _ _ _ _ k10];exact (Good.Bs hk hi (r7 hk hi)).1
 by_cases k5:d.k=5
 ·rw[Ts _ _ _ _ k5];exact (Good.Bs hk hi (Uo hk hi _ _ _)).1
 by_cases k6:d.k=6
 ·rw[ly _ _ _ _ k6];exact (Good.Bs hk hi (tu hk hi _ _)).1
 by_cases k7:d.k=7
 ·rw[lz _ _ _ _ k7];exact (Good.Bs hk hi (df hk hi _ _ hd.n)).1
 by_cases k8:d.k=8
 ·rw[lr _ _ _ _ k8];exact (Good.Bs hk hi (sy hk hi _)).1
 by_cases k11:d.k=11
 ·rw[cj _ _ _ _ k11];exact hk
 by_cases k12:d.k=12
 ·rw[bq _ _ _ _ k12];exact hk
 by_cases k13:d.k=13
 ·rw[cg _ _ _ _ k13];exact hk
 ·rw[ce _ _ _ _ (by omega)];exact An.DN hk hi
def K7 {l:List (List As)}{h:AE}(hk:S.ok)(hi:i<S.Au.length)(hd:∀ ds ∈ l,∀ d ∈ ds,d.ok):(S.Bf i l h).S.ok:=by
 unfold An.Bf;split
 ·exact hk
 ·split
  ·unfold An.CB
   split<;>exact YA hk hi
  ·split
   ·unfold An.B4
    split<;>exact (WY hk hi).1
   ·rename_i h1 _ _ d il
    by_cases hlt:h.b.toNat<l.length
    ·have e0:l.getD h.b.toNat []=l[h.b.toNat]:=by rw[Qi,Qb hlt];rfl
     rw[e0]at il;exact KW hk hi h (hd _ (aj hlt) d (Qe il))
    ·have e0:l.getD h.b.toNat []=[]:=by rw[Qi,Zb (show l.length<=h.b.toNat by omega)];rfl
     rw[e0]at il;simp at il
def Mc.ok.Uh (hk:M.ok)(t:Nat):∀ ds ∈ M.p t,∀ d ∈ ds,d.ok/\Pg.right d.D=true:=by
 intro ds hds d hd;by_cases ht:t<M.ps.length
 ·have hm:M.p t ∈ M.ps:=Qe (Mc.EH ht)
  exact ((hk.dk _ hm).2 ds hds).2 d hd
 ·unfold Mc.p at hds
  rw[Qi,Zb (by omega)]at hds
  simp at hds
def Mc.ok.p6 (hk:M.ok)(t:Nat):(M.p t).length<=6/\∀ ds ∈ M.p t,ds.length<=12:=by
 by_cases ht:t<M.ps.length
 ·have hm:M.p t ∈ M.ps:=Qe (Mc.EH ht)
  exact⟨(hk.dk _ hm).1,fun ds hds=>((hk.dk _ hm).2 ds hds).1⟩
 ·unfold Mc.p
  rw[Qi,Zb (by omega)]
  exact⟨by simp,fun ds hds=>by simp at hds⟩
def Mc.ok.nb (hk:M.ok){t:Nat}(ht:t<M.hs.length):(0<=(M.h t).n/\(M.h t).n<=12)/\0<=(M.h t).b/\(M.h t).b<=6:=by
 have h:=(hk.th t ht).th;have hp:=hk.p6 t;have hb:=h.b;refine⟨⟨h.n,?_⟩,hb.1,by omega⟩
 cases hl:(M.h t).l with
 | false=>have:=(h.idle hl).1;omega
 | true =>
  obtain⟨h1,h2⟩:=h.at' hl;have hlt:(M.h t).b.toNat<(M.p t).length:=by omega
  rw[Qi,Qb hlt]at h2;have:=hp.2 _ (aj hlt);simp only[ay]at h2;omega
def Mc.ok.tst (hk:M.ok){t:Nat}(ht:t<M.hs.length):Wn M.S t (M.p t) (M.h t):=by
 have h:=hk.th t ht;have hb:=hk.nb ht;exact⟨hk.inv,by rw[hk.Au,<-hk.len];exact ht,h.lv,h.th.r.rgs _,by omega,by omega,hk.Uh t⟩
def Mc.ok.keeps (hk:M.ok){t:Nat}(ht:t<M.hs.length):Fv (M.p t) (M.S.Bf t (M.p t) (M.h t)).S t (M.S.Bf t (M.p t) (M.h t)).h/\Ty t M.S (M.S.Bf t (M.p t) (M.h t)).S:=
 qi2 (hk.th t ht) (by rw[hk.Au,<-hk.len];exact ht) fun ds hds d hd=>(hk.Uh t ds hds d hd).1
def XL {l:List Bg}(h:l.length<=2000)(x:Bg):(wb l x).length<=2000:=by
 unfold wb;split
 ·rw[Qd,aB];omega
 ·exact h
def sm (k:Int):∀ (ns:List Nat){l:List Bg},l.length<=2000->(ji l k ns).length<=2000
 | [],_,h=>h
 | n::ns,l,h=>sm k ns (l:=wb l ⟨-1,0,0,⟨k,0,n⟩⟩) (XL h _)
def qiu (k:Int)(l:List Bg)(n:Nat)(ns:List Nat):ji l k (n::ns)=ji (wb l ⟨-1,0,0,⟨k,0,n⟩⟩) k ns:=rfl
def pe (k:Int)(l:List Bg)(ns:List Nat)(n:Nat):ji l k (ns++[n])=wb (ji l k ns) ⟨-1,0,0,⟨k,0,n⟩⟩:=by unfold ji;rw[List.foldl_append];rfl
def Sp (hs:List AE)(t u:Nat)(z:AE):(hs.set t z).getD u DZ=if u=t/\t<hs.length then z else hs.getD u DZ:=by
 rw[Qi,Qr,Qi];by_cases h:t=u
 ·subst h
  rw[if_pos rfl];by_cases h2:t<hs.length
  ·rw[if_pos h2,if_pos ⟨rfl,h2⟩];rfl
  ·rw[if_neg h2,if_neg (fun z=>h2 z.2),Zb (by omega)]
 ·rw[if_neg h,if_neg (fun z=>h z.1.symm)]
def Mc.J7 (hk:M.ok){t:Nat}(ht:t<M.hs.length):(M.BV t).1.ok:=by
 obtain⟨h1,h2⟩:=hk.keeps ht;have h3:=K7 (h:=M.h t) hk.inv (i:=t) (by rw[hk.Au,<-hk.len];exact ht) fun ds hds d hd=>(hk.Uh t ds hds d hd).1
 refine⟨h3,?_,h2.len.trans hk.Au,hk.n8,?_,hk.dk,?_,h2.lost.trans hk.lo,h2.came.trans hk.ca⟩
 ·show (M.hs.set t _).length=_
  rw[Qq];exact hk.len
 ·intro u hu
  have hu':u<M.hs.length:=by simpa [Mc.BV] using hu
  show Fv (M.p u) _ u ((M.hs.set t _).getD u DZ);rw[Sp];by_cases e:u=t
  ·subst e
   rw[if_pos ⟨rfl,ht⟩];exact h1
  ·rw[if_neg (fun z=>e z.1)]
   have h4:=hk.th u hu';exact⟨h4.th,by show ((M.S.Bf t (M.p t) (M.h t)).S.t u).live=_;rw[h2.Ls u e];exact h4.lv⟩
 ·show (if _ then wb M.past _ else M.past).length<=2000
  split
  ·exact XL hk.pl _
  ·exact hk.pl
def Mc.Fi (hk:M.ok)(t:Int):(M.step t).1.ok:=by
 unfold Mc.step;split
 ·exact hk
 ·exact Mc.J7 hk (by omega)
def R6.at' (g:Nat->Nat)(r:R6):R6:=⟨g r.a0.toNat,g r.a1.toNat,g r.a2.toNat,g r.a3.toNat,g r.a4.toNat,g r.a5.toNat⟩
def AE.at' (g:Nat->Nat)(h:AE):AE:={ h with r:=h.r.at' g,s:=h.s.at' g }
def XR (g:Nat->Nat):∀ (hs:List AE),vg hs ((hs.flatMap AE.roots).map g)=hs.map (AE.at' g)
 | []=>rfl
 | h::hs=>by
  have e:((h::hs).flatMap AE.roots).map g=h.roots.map g++(hs.flatMap AE.roots).map g:=by rw[aD,Qx]
  rw[e];show h.place _::vg hs _=h.at' g::hs.map (AE.at' g);rw[<-XR g hs];rfl
def R6.Sb (g:Nat->Nat)(r:R6):E5 (r.at' g):=by
 intro j hj;rcases six hj with rfl|rfl|rfl|rfl|rfl|rfl<;>exact⟨_,rfl⟩
def Cl.AB {l:List (List As)}{h:AE}(t:Cl l h)(g:Nat->Nat):Cl l (h.at' g):=
 ⟨R6.Sb g _,R6.Sb g _,t.n,t.b,t.at',fun hl=>⟨(t.idle hl).1,by show R6.at' g h.r=R6.at' g h.s;rw[(t.idle hl).2]⟩⟩
def LD (S:An) (g:Nat->Nat) (i:Nat) (hi:i<S.Au.length):((S.at' g).t i).live=(S.t i).live:=by
 have h1:(S.at' g).Au[i]?=some ((S.t i).at' g):=by
  show (S.Au.map (Tx.at' g))[i]?=_;rw[Qj,An.AV hi];rfl
 have h2:=An.AV (S:=S.at' g) (i:=i) (by show i<(S.Au.map _).length;rw[Qg];exact hi)
 rw[h1]at h2;injection h2 with h2;rw[<-h2];rfl
def GO (S:An):S.Dv.1.Au=S.Au:=by
 unfold An.Dv;split
 ·rfl
 ·split
  ·rfl
  ·split<;>rfl
def qn3 {S:An}(hk:S.ok):S.B9.1.Au=S.Au:=((bm _ (lh hk).1 (lh hk).2).2.1).trans (GO S)
def Mc.Fl (hk:M.S.ok)(h1:M.hs.length=M.ps.length)(h2:M.S.Au.length=M.ps.length)(h3:M.ps.length<=8)(h4:∀ t,t<M.hs.length->Fv (M.p t) M.S t (M.h t))
  (h5:∀ p ∈ M.ps,p.length<=6/\∀ ds ∈ p,ds.length<=12/\∀ d ∈ ds,d.ok/\Pg.right d.D=true)(h6:M.past.length<=2000):M.told.ok:=
 ⟨Inv.Sr (Inv.Sg hk),h1,h2,h3,fun t ht=>⟨(h4 t ht).th,(h4 t ht).lv⟩,h5,sm 4 _ (sm 5 _ h6),rfl,rfl⟩
def Mc.Db (M:Mc):Mc:={ M with S:=(M.S.AF M.roots).1,hs:=vg M.hs (M.S.AF M.roots).2.1 }
def Mc.Fx (M:Mc):Mc:={ M with S:=M.S.B9.1 }
def uw (h0:M.past.length<2000)(h:(M.S.AF M.roots).2.2=true):M.collect=(M.Db.told,false):=by
 unfold Mc.collect;rw[if_neg (by omega),if_pos h];rfl
def uv (h0:M.past.length<2000)(h:(M.S.AF M.roots).2.2=false):M.collect=(M.Fx.told,M.S.B9.2):=by
 unfold Mc.collect;rw[if_neg (by omega),if_neg (by rw[h];simp)];rfl
def TP (h:(M.S.AF M.roots).2.2=true):M.Db.hs=M.hs.map (AE.at' (M.S.begun M.roots).H.now)/\M.Db.S=(M.S.begun M.roots).at' (M.S.begun M.roots).H.now/\M.S.may M.roots=true:=by
 have hm:M.S.may M.roots=true:=by
  unfold An.AF at h;split at h
  ·assumption
  ·simp at h
 refine⟨?_,?_,hm⟩
 ·show vg M.hs (M.S.AF M.roots).2.1=_
  unfold An.AF;rw[if_pos hm];exact XR _ _
 ·show (M.S.AF M.roots).1=_
  unfold An.AF;rw[if_pos hm]
def Pe (f:AE->AE)(hs:List AE){t:Nat}(ht:t<hs.length):(hs.map f).getD t DZ=f (hs.getD t DZ):=by
 rw[Qi,Qi,Qj,Qb ht];rfl
def Mc.Fg (hk:M.ok)(h:(M.S.AF M.roots).2.2=true):M.Db.S.ok/\M.Db.hs.length=M.ps.length/\M.Db.S.Au.length=M.ps.length/\∀ t,t<M.Db.hs.length->Fv (M.p t) M.Db.S t (M.Db.h t):=by
 obtain⟨e1,e2,hm⟩:=TP h;have hl:M.Db.hs.length=M.hs.length:=by rw[e1,Qg]
 refine⟨qhz hk.inv _,hl.trans hk.len,(qgn _ _).trans hk.Au,fun t ht=>?_⟩
 rw[hl]at ht;have h4:=hk.th t ht;have e3:M.Db.h t=(M.h t).at' (M.S.begun M.roots).H.now:=by unfold Mc.h;rw[e1];exact Pe _ _ ht
 rw[e3,e2];exact⟨h4.th.AB _,(LD _ _ _ (by show t<M.S.Au.length;rw[hk.Au,<-hk.len];exact ht)).trans h4.lv⟩
def Mc.E1 (hk:M.ok):M.collect.1.ok:=by
 by_cases h0:M.past.length<2000
 ·cases h:(M.S.AF M.roots).2.2 with
  | true =>
   rw[uw h0 h];obtain⟨h1,h2,h3,h4⟩:=Mc.Fg hk h;exact Mc.Fl h1 h2 h3 hk.n8 h4 hk.dk hk.pl
  | false =>
   rw[uv h0 h];have e:=qn3 hk.inv;refine Mc.Fl (M:=M.Fx) (qii hk.inv) hk.len (by show M.S.B9.1.Au.length=_;rw[e];exact hk.Au) hk.n8 (fun t ht=>⟨(hk.th t ht).th,?_⟩) hk.dk hk.pl
   have h4:=(hk.th t ht).lv;show (M.S.B9.1.t t).live=(M.h t).l;unfold An.t at h4 ⊢;rw[e];exact h4
 ·unfold Mc.collect
  rw[if_pos (by omega)];exact hk
end
end
section
open Go.RowKit Hp
attribute [local go_sem ↓] Go.wp_at_zero Go.wp_at_succ
section
variable {w w' : Aa} {o o' : Own} {m : Ck} {M : Mc}
def KB.AS {v:Ac}{tg:Tag}{bs:List (List As)}(h:KB w o tg v bs):∃ a c,v=.slice a bs.length c:=by
 obtain⟨_,vs,_,hr,_⟩:=h;obtain⟨a,c,e⟩:=hr.AS;exact⟨a,c,e⟩
def KT.at {v:Ac}{tg tr:Tag}{bK:List (List (List As))}(h:KT w o tg tr v bK){t:Nat}{bs:List (List As)}(ht:bK[t]?=some bs) :
  ∃ g cp a c,v=Ah (some ⟨g,0,none⟩) bK.length cp/\w.cell? ⟨g,t,none⟩=some (.slice a bs.length c)/\KB w o tg (.slice a bs.length c) bs:=by
 obtain⟨h8,vs,hl,hr,hd⟩:=h;obtain⟨u,hu,hb⟩:=hd t bs ht;have hlt:=(Qc.1 ht).1;obtain⟨a,c,rfl⟩:=hb.AS;rcases hr.form with ⟨_,h0⟩|⟨g,cap,e,_⟩
 ·omega
 ·subst e
  exact⟨g,cap,a,c,rfl,hr.cells t _ hu,hb⟩
end
end
section
open Go.RowKit Hp
def RD (W:Aa)(v:Ac)(l:List As):Prop:=l.length<=12/\∃ (o:Own)(t:Tag),Row W o t 73 5 v l.length (kn (l.map As.D))
def RB (W:Aa)(v:Ac)(bs:List (List As)):Prop:=
 bs.length<=6/\∃ (vs:List Ac)(o:Own)(t:Tag),vs.length=bs.length/\Row W o t 71 1 v bs.length vs/\∀ (j:Nat)(l:List As),bs[j]?=some l->∃ u:Ac,vs[j]?=some u/\RD W u l
def RT (W:Aa)(v:Ac)(bK:List (List (List As))):Prop:=
 bK.length<=8/\∃ (vs:List Ac)(o:Own)(t:Tag),vs.length=bK.length/\Row W o t 67 1 v bK.length vs/\∀ (j:Nat)(bs:List (List As)),bK[j]?=some bs->∃ u:Ac,vs[j]?=some u/\RB W u bs
section
variable {W W' : Aa} {o o' : Own} {v : Ac} {T : Tag -> Prop} {tg : Tag}
def RD.below {l:List As}(h:RD W v l)(k:Ae W.1.size W W'):RD W' v l:=by
 obtain⟨h0,o,t,h1⟩:=h;exact⟨h0,o,t,h1.below k⟩
def RB.below {bs:List (List As)}(h:RB W v bs)(k:Ae W.1.size W W'):RB W' v bs:=by
 obtain⟨h0,vs,o,t,h1,h2,h3⟩:=h;exact⟨h0,vs,o,t,h1,h2.below k,fun j l hj=>let⟨u,hu,hd⟩:=h3 j l hj;⟨u,hu,hd.below k⟩⟩
def RT.below {bK:List (List (List As))}(h:RT W v bK)(k:Ae W.1.size W W'):RT W' v bK:=by
 obtain⟨h0,vs,o,t,h1,h2,h3⟩:=h;exact⟨h0,vs,o,t,h1,h2.below k,fun j l hj=>let⟨u,hu,hd⟩:=h3 j l hj;⟨u,hu,hd.below k⟩⟩
def dD (bK:List (List (List As))):List (List (List Pg.D)):=bK.map fun t=>t.map fun l=>l.map As.D
def RD.at {l:List As}(h:RD W v l):Bw W v (l.map As.D):=by
 obtain⟨h0,o,t,h1⟩:=h;exact⟨by rw[Qg];simp only[maxLen];omega,by rw[Qg];exact h1.sl⟩
def RB.at {bs:List (List As)}(h:RB W v bs):Bn W v (bs.map fun l=>l.map As.D):=by
 obtain⟨h0,vs,o,t,h1,h2,h3⟩:=h;refine⟨by rw[Qg];simp only[maxLen];omega,vs,by rw[Qg];exact h1,by rw[Qg];exact h2.sl,fun j l hj=>?_⟩
 rw[Qj]at hj
 cases hb:bs[j]? with
 | none=>rw[hb]at hj;cases hj
 | some l' =>
  rw[hb]at hj;injection hj with hj;subst hj;obtain⟨u,hu,hd⟩:=h3 j l' hb;exact⟨u,hu,hd.at⟩
def RT.at {bK:List (List (List As))}(h:RT W v bK):AH W v (dD bK):=by
 obtain⟨h0,vs,o,t,h1,h2,h3⟩:=h;unfold dD;refine⟨by rw[Qg];simp only[maxLen];omega,vs,by rw[Qg];exact h1,by rw[Qg];exact h2.sl,fun j l hj=>?_⟩
 rw[Qj]at hj
 cases hb:bK[j]? with
 | none=>rw[hb]at hj;cases hj
 | some l' =>
  rw[hb]at hj;injection hj with hj;subst hj;obtain⟨u,hu,hd⟩:=h3 j l' hb;exact⟨u,hu,hd.at⟩
structure Eb (bK:List (List (List As))):Prop where
 n1:1<=bK.length
 n8:bK.length<=8
 dk:∀ p ∈ bK,p.length<=6/\∀ ds ∈ p,1<=ds.length/\ds.length<=12/\∀ d ∈ ds,d.ok/\Pg.right d.D=true
def Eb.check {bK:List (List (List As))}(h:Eb bK):check (dD bK)=(0,0,0,0):=by
 refine qi7 (by unfold dD;rw[Qg];exact h.n1) (by unfold dD;rw[Qg];exact h.n8) fun j z _ hz=>?_
 unfold dD at hz;rw[Qj]at hz
 cases hb:bK[j]? with
 | none=>rw[hb]at hz;cases hz
 | some p =>
  rw[hb]at hz;injection hz with hz;subst hz;obtain⟨h6,hd⟩:=h.dk p (Qe hb);refine qmt (by rw[Qg];exact h6) fun j z _ hz=>?_
  rw[Qj]at hz
  cases hb2:p[j]? with
  | none=>rw[hb2]at hz;cases hz
  | some l =>
   rw[hb2]at hz;injection hz with hz;subst hz;obtain⟨h1,h12,hr⟩:=hd l (Qe hb2);refine qml (by rw[Qg];exact h1) (by rw[Qg];exact h12) fun j z _ hz=>?_
   rw[Qj]at hz
   cases hb3:l[j]? with
   | none=>rw[hb3]at hz;cases hz
   | some d =>
    rw[hb3]at hz;injection hz with hz;subst hz;exact (hr d (Qe hb3)).2
def Lo (W:Aa)(o:Own)(tg tr:Tag)(v:Ac)(bs:List (List As)):Prop:=
 bs.length<=6/\∃ vs:List Ac,vs.length=bs.length/\Row W o tr 71 1 v bs.length vs/\∀ (j:Nat)(l:List As),bs[j]?=some l->∃ u:Ac,vs[j]?=some u/\KD W o tg u l
def Lo.nil (W:Aa)(o:Own)(tg tr:Tag):Lo W o tg tr (Ah none 0 0) []:=⟨by simp,[],rfl,Row.nil _ _ _ _ _,fun j l hj=>by simp at hj⟩
def KT.nil (W:Aa)(o:Own)(tg tr:Tag):KT W o tg tr (Ah none 0 0) []:=⟨by simp,[],rfl,Row.nil _ _ _ _ _,fun j l hj=>by simp at hj⟩
def Lo.whole {bs:List (List As)}{n:Nat}(h:Lo W o (1,0) (3,0) v bs)(ho:∀ b,b<n->o b=(0,0))(o2:Own)(tg:Tag):KB W (ext o2 n tg) tg v bs:=by
 obtain⟨h0,vs,h1,h2,h3⟩:=h;have k:∀ t,t≠(0,0)->∀ b,o b=t->ext o2 n tg b=tg:=fun t ht b hb=>by
  refine qz ?_;refine Classical.byContradiction fun hn=>ht ?_;rw[<-hb];exact ho b (by omega)
 exact⟨h0,vs,h1,h2.B5 _ _ (k _ (by simp)),fun j l hj=>let⟨u,hu,hd⟩:=h3 j l hj;⟨u,hu,hd.1,hd.2.B5 _ _ (k _ (by simp))⟩⟩
def Lo.snoc {w1 w2:Aa}{o2:Own}{bs:List (List As)}{vs:List Ac}{l:List As}{u v2:Ac}(h6:bs.length+1<=6)(hl:vs.length=bs.length)(h3:∀ (j:Nat)(l:List As),bs[j]?=some l->∃ u:Ac,vs[j]?=some u/\KD W o (1,0) u l)
  (hd:KD w1 o' (1,0) u l)(k1:Stp (fun _=>False) o o' W w1)(k2:Stp (fun t=>t=(3,0)) o' o2 w1 w2)(hr:Row w2 o2 (3,0) 71 1 v2 (bs.length+1) (vs++[u])):Lo w2 o2 (1,0) (3,0) v2 (bs++[l]):=by
 refine⟨by rw[Qd];exact h6,vs++[u],by rw[Qd,Qd,hl];rfl,hr.ite (by simp) rfl,fun j z hj=>?_⟩
 by_cases hlt:j<bs.length
 ·rw[Qm hlt]at hj
  obtain⟨x,hx,hk⟩:=h3 j z hj;exact⟨x,by rw[Qm (by omega)];exact hx,(hk.Ao k1 (fun h=>h)).Ao k2 (by simp)⟩
 ·rw[Ql (by omega)]at hj
  have hz:j=bs.length:=by
   have:=(Qc.1 hj).1;simp at this;omega
  subst hz;rw[az]at hj;simp at hj;subst hj;exact⟨u,by rw[Ql (by omega),hl,az];rfl,hd.Ao k2 (by simp)⟩
def KT.snoc {w1 w2:Aa}{o2:Own}{tr:Tag}{bK:List (List (List As))}{vs:List Ac}{bs:List (List As)}{u v2:Ac}(hne:tg≠tr)(h8:bK.length+1<=8)(hl:vs.length=bK.length)(h3:∀ (j:Nat)(bs:List (List As)),bK[j]?=some bs->∃ u:Ac,vs[j]?=some u/\KB W o tg u bs)
  (hd:KB w1 o' tg u bs)(k1:Stp (fun _=>False) o o' W w1)(k2:Stp (fun t=>t=tr) o' o2 w1 w2)(hr:Row w2 o2 tr 67 1 v2 (bK.length+1) (vs++[u])):KT w2 o2 tg tr v2 (bK++[bs]):=by
 refine⟨by rw[Qd];exact h8,vs++[u],by rw[Qd,Qd,hl];rfl,hr.ite (by simp) rfl,fun j z hj=>?_⟩
 by_cases hlt:j<bK.length
 ·rw[Qm hlt]at hj
  obtain⟨x,hx,hk⟩:=h3 j z hj;exact⟨x,by rw[Qm (by omega)];exact hx,(hk.Ao k1 (fun h=>h)).Ao k2 hne⟩
 ·rw[Ql (by omega)]at hj
  have hz:j=bK.length:=by
   have:=(Qc.1 hj).1;simp at this;omega
  subst hz;rw[az]at hj;simp at hj;subst hj;exact⟨u,by rw[Ql (by omega),hl,az];rfl,hd.Ao k2 hne⟩
def qi8:∃ i,ARt.info? 58=some i/\i.size=15/\i.bytes=120/\i.zero=some (.agg T6):=info_parts (by kernel_rfl)
def Nh {n:Nat}(h1:1<=n)(h8:n<=8)(w:Aa):(Instr.makeSlice 137 (I Z n) (I Z n)).run ARt w=.ok (Ah (some ⟨w.1.size,0,none⟩) n n) (w.alloc (.cells (zt (Ad n DZ)).toArray 58)):=by
 obtain⟨iI,hi,hsI,bZ,bT⟩:=qi8;have h:=run_make (P:=ARt) w 137 58 iI _ underlying137 hi bT .i64 .i64 n n (by omega) (by omega) (by rw[bZ];omega) (by omega)
 rw[hsI]at h;simp only[Ai]at h;have e:madeCells (Value.agg T6).cells (n*15)=(zt (Ad n DZ)).toArray:=by
  clear h;obtain rfl|rfl|rfl|rfl|rfl|rfl|rfl|rfl:n=1\/n=2\/n=3\/n=4\/n=5\/n=6\/n=7\/n=8:=by omega
  all_goals kernel_rfl
 rw[h,e]
def Mc.fresh (S:An)(bK:List (List (List As))):Mc:=⟨S,bK,Ad bK.length DZ,[]⟩
def RH (l:List (List As)):Cl l DZ:=by
 refine⟨?_,?_,aG _,⟨aG _,by show (0:Int)<=_;omega⟩,fun h=>(by cases h),fun _=>⟨rfl,rfl⟩⟩
 all_goals
  intro j hj;rcases six hj with rfl|rfl|rfl|rfl|rfl|rfl<;>exact⟨0,rfl⟩
def Mc.Dj {n r u m:Nat}{bK:List (List (List As))}(h1:16<=n)(h2:n<=16384)(hr:r<=200)(hu:u<=200)(hm:m<=1099511627776)(ht:Eb bK):(Mc.fresh (An.fresh n bK.length r u m) bK).ok:=by
 refine⟨An.Dj h1 h2 ht.n1 ht.n8 hr hu hm,Qy,Qy,ht.n8,fun t h=>?_,fun p hp=>?_,aa _,rfl,rfl⟩
 ·have h':t<bK.length:=by simpa [Mc.fresh] using h
  have e:(Mc.fresh (An.fresh n bK.length r u m) bK).h t=DZ:=by
   unfold Mc.h Mc.fresh;simp only[Qi,Qz,if_pos h',ay]
  rw[e];refine⟨RH _,?_⟩;show ((Ad bK.length (Tx.fresh r u)).getD t _).live=false;simp only[Qi,Qz,if_pos h',ay];rfl
 ·obtain⟨h6,hd⟩:=ht.dk p hp
  exact⟨h6,fun ds hds=>⟨(hd ds hds).2.1,(hd ds hds).2.2⟩⟩
end
end
section
open Go.RowKit Hp
attribute [local go_sem ↓] Go.wp_at_zero Go.wp_at_succ
section
variable {w w' : Aa} {o o' : Own}
def RB.AS {v:Ac}{bs:List (List As)}(h:RB w v bs):∃ a c,v=.slice a bs.length c:=by
 obtain⟨_,vs,_,_,_,hr,_⟩:=h;exact hr.AS
def RT.at' {v:Ac}{bK:List (List (List As))}(h:RT w v bK){t:Nat}{bs:List (List As)}(ht:bK[t]?=some bs) :
  ∃ g cp a c,v=Ah (some ⟨g,0,none⟩) bK.length cp/\w.cell? ⟨g,t,none⟩=some (.slice a bs.length c)/\RB w (.slice a bs.length c) bs:=by
 obtain⟨h8,vs,o,tg,hl,hr,hd⟩:=h;obtain⟨u,hu,hb⟩:=hd t bs ht;have hlt:=(Qc.1 ht).1;obtain⟨a,c,rfl⟩:=hb.AS;rcases hr.form with ⟨_,h0⟩|⟨g,cap,e,_⟩
 ·omega
 ·subst e
  exact⟨g,cap,a,c,rfl,hr.cells t _ hu,hb⟩
def RB.at' {v:Ac}{bs:List (List As)}(h:RB w v bs){t:Nat}{l:List As}(ht:bs[t]?=some l) :
  ∃ g cp a c o tg,v=Ah (some ⟨g,0,none⟩) bs.length cp/\w.cell? ⟨g,t,none⟩=some (.slice a l.length c)/\l.length<=12/\Row w o tg 73 5 (.slice a l.length c) l.length (kn (l.map As.D)):=by
 obtain⟨h8,vs,o,tg,hl,hr,hd⟩:=h;obtain⟨u,hu,h12,o2,t2,hb⟩:=hd t l ht;have hlt:=(Qc.1 ht).1;obtain⟨a,c,rfl⟩:=hb.AS;rcases hr.form with ⟨_,h0⟩|⟨g,cap,e,_⟩
 ·omega
 ·subst e
  exact⟨g,cap,a,c,o2,t2,rfl,hr.cells t _ hu,h12,hb⟩
def qns (l:List Pg.D):∀ u ∈ kn l,u.oneCell'=true:=by
 induction l with
 | nil=>intro u hu;simp[kn]at hu
 | cons d l ih =>
  intro u hu;have e:kn (d::l)=[I Z d.k,I Z d.a,I Z d.b,I Z d.i,I Z d.n]++kn l:=rfl;rw[e,Qs]at hu;rcases hu with hu|hu
  ·exact XE u hu
  ·exact ih u hu
def qg3 {W:Aa}{b n:Nat}{l:List AE}{t:Tag}(h:Al W b (zt l).toArray 58)(hn:l.length=n)(ht:o b=t)(h8:n<=8):Row W o t 58 15 (Ah (some ⟨b,0,none⟩) n n) n (zt l):=by
 have e:=WJ l;rw[hn]at e;refine⟨⟨e,.inr ⟨b,n,(zt l).toArray,rfl,aa _,h,Qk _,by simp only[maxLen];omega,by simp[e],by simp[e,List.take_of_length_le]⟩⟩,fun k hk=>?_⟩
 have:b=k:=by simpa [Value.ownBlock] using hk
 subst this;exact ht
def JU (n r u:Nat)(b:Int)(h1:16<=n)(h2:n<=16384)(hr:r<=200)(hu:u<=200){v:Ac}{bK:List (List (List As))}(ht:Eb bK)(o:Own)(id:Nat)(w:Aa)(hv:RT w v bK)(hfree:∀ b,b<w.1.size->(o b).1≠id/\(o b).1≠id+2) :
  Ab ARt 29 #[I Z n,I Z r,I Z u,I Z b,v] w fun e w'=>∃ m o',e=O (Aj #[ptr m.mb,I Z 0])/\m.y.l.id=id /\
   BN w' o' m (Mc.fresh (An.fresh n bK.length r u (Ek b).toNat) bK)/\Stp (fun _=>False) o o' w w':=by
 obtain⟨iD,hi5,hs5,hy5,hz5⟩:=YQ;obtain⟨iS,hi1,hs1,hy1,hz1⟩:=XQ;obtain⟨iB,hi2,hs2,hy2,hz2⟩:=WV;have huD:=underlying71;have huS:=underlying67;have huB:=underlying47;have hck:=XO v (dD bK) w hv.at;unfold yw at hck;rw[ht.check]at hck;have HCk:=Qa (show Ab ARt 86 #[v] w fun e w'=>e=O (Aj #[I Z 0,Ak #[I Z 0,I Z 0,I Z 0]])/\Ae w.1.size w w' from hck)
 obtain⟨k,hk⟩:=Ja0 bK.length;have k1:1<=k:=by rw[hk];exact ht.n1
 have k8:k<=8:=by rw[hk];exact ht.n8
 have hmk:=@Nh k k1 k8;have HN:=Qa (fun (W:Aa)(hb:Ae w.1.size w W)=>QO n k r u b h1 h2 k1 k8 hr hu (ext o w.1.size (id+1,0)) id W (fun c hc=>by
  by_cases hlt:c<w.1.size
  ·rw[qr hlt];exact (hfree c hlt).1
  ·rw[qz (by omega)];simp))
 have yG:=Qa hfree;have HV:=Qa hv;have kC:=Qa ht;obtain⟨pv,cv,rfl⟩:∃ pv cv,v=.slice pv k cv:=by
  obtain⟨_,vs,_,_,_,hr',_⟩:=hv;rw[hk];exact hr'.AS
 rw[<-hk];have HK:=Qa hk;have kI1:(1:Int)<=(k:Int):=by omega
 have kI8:(k:Int)<=8:=by omega
 generalize (Ek b).toNat=B at *;clear hck hfree hv ht hk h1 h2 hr hu;go_enter func29,ntmps29;go_wp2_with (first
  | (go_at_call 86;refine HCk.out.mono ?_;rintro e w1 ⟨rfl,hb1⟩)
  | (go_at_call 46;refine (HN.out _ (qc hb1 _)).mono ?_;rintro e w2 ⟨y,o1,rfl,hid,hS,hs⟩)
  | fail)
 obtain⟨W0,hW0⟩:=Ja0 ((w2.alloc (.cells (zt (Ad k DZ)).toArray 58)).alloc (ARu #[ptr y.sb,Ah none 0 0,Ah (some ⟨w2.1.size,0,none⟩) k k,.int .i32 0,.int .u32 0,Ah none 0 0] 148));rw[<-hW0];obtain⟨o2,ho2⟩:∃ o2:Own,o2=fun b=>if b=w2.1.size then (id+2,2) else if b=w2.1.size+1 then (id+2,0) else o1 b:=⟨_,rfl⟩
 have hbW:Ae w2.1.size w2 W0:=by rw[hW0];exact qc (qc (qd w2) _) _
 have o2l:∀ b,b<w2.1.size->o2 b=o1 b:=fun b hb=>by rw[ho2];show (if _ then _ else _)=_;rw[if_neg (by omega),if_neg (by omega)]
 have o2g:o2 w2.1.size=(id+2,2):=by rw[ho2];exact if_pos rfl
 have o2m:o2 (w2.1.size+1)=(id+2,0):=by rw[ho2];show (if _ then _ else _)=_;rw[if_neg (by omega),if_pos rfl]
 have sA:Stp (fun _=>False) o (ext o w.1.size (id+1,0)) w (w1.alloc (ARu #[I Z 0,I Z 0,I Z 0] 35)):=(Stp.of_below (qc hb1 _)).ext _ _ (Qk _)
 have sC:Stp (fun _=>False) o1 o2 w2 W0:=⟨hbW.os,hbW.tape,hbW.output,hbW.size,o2l,fun b hb _=>hbW.block b hb⟩
 have s2:=(sA.trans hs).trans sC;have S0:=hS.Ao sC fun _ h=>h
 have R0:Row W0 o2 (id+2,2) 58 15 (Ah (some ⟨w2.1.size,0,none⟩) k k) k (zt (Ad k DZ)):=qg3 (by rw[hW0];exact (Al.new w2 _ _).alloc _) Qy o2g k8
 have B0:Al W0 (w2.1.size+1) #[ptr y.sb,Ah none 0 0,Ah (some ⟨w2.1.size,0,none⟩) k k,.int .i32 0,.int .u32 0,Ah none 0 0] 148:=by rw[hW0];exact Al.Ap _ _ _ _ _ (by simp) rfl
 obtain⟨mb,hmb⟩:=Ja0 (w2.1.size+1);obtain⟨g0,hg0⟩:=Ja0 w2.1.size;rw[<-hmb]at B0 o2m ⊢;rw[<-hg0]at B0 R0 ⊢;have HS2:=Qa s2;have iV:=Qa (And.intro S0 (And.intro R0 hid));have HB0:=Qa B0;have HOm:=Qa o2m;have Ade:=Qa (show mb<W0.1.size from B0.lt);clear hW0 ho2 hbW o2l o2g o2m sA sC s2 S0 R0 B0 hs hS hid hmb hg0 hb1 hmk HN HCk;go_loopw [49] (fun ix wr=>∃ (q:Nat)(vp:Ac)(oo:Own),ix=I Z q/\q<=k/\Al wr mb #[ptr y.sb,vp,Ah (some ⟨g0,0,none⟩) k k,.int .i32 0,.int .u32 0,Ah none 0 0] 148/\KT wr oo (id+2,1) (id+2,4) vp (bK.take q)/\Stp (fun t=>t=(id+2,0)\/t=(id+2,4)) o2 oo W0 wr) (fun ix _=>k-(intOf ix).toNat)
 case atStart=>exact⟨0,_,o2,rfl,aa _,HB0.out,KT.nil _ _ _ _,Stp.refl _ _ _⟩
 case round =>
  clear HB0;obtain⟨q,vp,oo,rfl,hqk,hB,hKT,hs⟩:=hrel;obtain⟨wo,rfl⟩:=Ja0 wr;have hbw:Ae w.1.size w wo:=((HS2.out.mono fun _ h=>h.elim).trans hs).below fun b hb e=>by
   have:=(yG.out b hb).2;rcases e with e|e<;>rw[e]at this<;>simp at this
  by_cases hlt:q<k
  ·have qI:(q:Int)<(k:Int):=by omega
   have HW:=Qa (jd q (by omega))
   obtain⟨p,hp⟩:∃ p,bK[q]?=some p:=⟨_,Qb (by rw[<-HK.out];exact hlt)⟩
   obtain⟨g,cp,a,c,ev,hcell,hRB⟩:=(HV.out.below hbw).at' hp;injection ev with ev1 ev2 iY;clear ev2;subst ev1 iY;obtain⟨h6p,hdp⟩:=kC.out.dk p (Qe hp);obtain⟨_,vs,hvl,hrow,hvs⟩:=hKT;have htk:(bK.take q).length=q:=by rw[Qp];have:=HK.out;omega
   rw[htk]at hrow hvl;obtain⟨pp,cpp,rfl⟩:=hrow.AS;have cb:=hB.cell;have lb:=hB.lt;have HB:=Qa hB;have HRB:=Qa hRB;have iR:=Qa hrow;have HVs:=Qa hvs;have HVl:=Qa hvl;have HS:=Qa hs;have iH:=Qa (show bK.take (q+1)=bK.take q++[p] from by rw[ag,hp];rfl)
   have HLen:=Qa htk;have H6:=Qa h6p;obtain⟨np,fH⟩:=Ja0 p.length;rw[<-fH]at hcell h6p;have tH:=Qa fH;have sO:=Qa (show wo.cell? ⟨g,q,none⟩=wo.cell? ⟨g,q,none⟩ from rfl);clear hB hs hp hRB hdp hrow hvs hvl htk fH sO;go_wp2_with fail;clear cb hcell;go_loopw [19,55] (fun vo jx wi=>∃ (j:Nat)(oi:Own),jx=I Z j/\j<=np/\Lo wi oi (1,0) (3,0) vo (p.take j)/\Ae wo.1.size wo wi/\(∀ b,b<wo.1.size->oi b=(0,0))) (fun _ jx _=>np-(intOf jx).toNat)
   case atStart=>exact⟨0,fun _=>(0,0),rfl,aa _,Lo.nil _ _ _ _,qd wo,fun _ _=>rfl⟩
   case round =>
    obtain⟨j,oi,rfl,hjn,zJ,hbi,hOi⟩:=hrel;obtain⟨wi,rfl⟩:=Ja0 wr;by_cases hlt2:j<np
    ·have hjI:(j:Int)<(np:Int):=by omega
     obtain⟨l,hl⟩:∃ l,p[j]?=some l:=⟨_,Qb (by rw[<-tH.out];exact hlt2)⟩
     obtain⟨g2,cp2,a2,c2,o3,t3,ev,hcell2,hl12,rT⟩:=(HRB.out.below hbi).at' hl;injection ev with ev1 ev2 iY;try clear ev2
     subst ev1 iY;have HW3:=Qa (jd j (by have:=H6.out;have:=tH.out;omega))
     obtain⟨_,us,pE,hur,mZ⟩:=zJ;have htj:(p.take j).length=j:=by rw[Qp];have:=tH.out;omega
     rw[htj]at hur pE;obtain⟨pu,cu,rfl⟩:=hur.AS;have hk1:0+l.length<=maxLen:=by simp only[maxLen];omega
     have hk2:(0+l.length)*40<=140737488355328:=by omega
     have dX:j+1<=maxLen:=by simp only[maxLen];omega
     have Afx:(j+1)*24<=140737488355328:=by omega
     obtain⟨nl,hnl⟩:=Ja0 l.length;rw[<-hnl]at hcell2 rT hk1 hk2;have Amg:=Qa rT;have HX7:=Qa (fun (w7:Aa)(p1:Option Addr)(c1:Nat)(hr1:Row w7 (fo wi.1.size) (1,0) 73 5 (.slice p1 nl c1) nl (kn (l.map As.D)))(kG:Ae wi.1.size wi w7) =>
      show Stp (fun _=>False) oi (ext oi wi.1.size (1,0)) wi (w7.alloc (ARu #[.slice p1 nl c1] 71))/\KD (w7.alloc (ARu #[.slice p1 nl c1] 71)) (ext oi wi.1.size (1,0)) (1,0) (.slice p1 nl c1) l /\
       Row (w7.alloc (ARu #[.slice p1 nl c1] 71)) (ext oi wi.1.size (1,0)) (3,0) 71 1 (.slice pu j cu) j us from by
       have sX:Stp (fun _=>False) oi (ext oi wi.1.size (1,0)) wi (w7.alloc (ARu #[.slice p1 nl c1] 71)):=(Stp.of_below (qc kG _)).ext _ _ (Qk _);exact⟨sX,⟨hl12,by rw[<-hnl];exact (hr1.out oi (1,0)).below (qc (qd w7) _)⟩,hur.Ao sX fun h=>h⟩)
     have pY:=Qa (fun (w7 w8:Aa)(p1:Option Addr)(c1:Nat)(v2:Ac)(o9:Own)(sX:Stp (fun _=>False) oi (ext oi wi.1.size (1,0)) wi (w7.alloc (ARu #[.slice p1 nl c1] 71)))(hd:KD (w7.alloc (ARu #[.slice p1 nl c1] 71)) (ext oi wi.1.size (1,0)) (1,0) (.slice p1 nl c1) l)
       (jJ:Stp (fun t=>t=(3,0)) (ext oi wi.1.size (1,0)) o9 (w7.alloc (ARu #[.slice p1 nl c1] 71)) w8)(hown2:Row w8 o9 (3,0) 71 1 v2 (j+1) (us++[.slice p1 nl c1])) =>
      show Lo w8 o9 (1,0) (3,0) v2 (p.take (j+1))/\Ae wo.1.size wo w8/\(∀ b,b<wo.1.size->o9 b=(0,0)) from by
       have e:p.take (j+1)=p.take j++[l]:=by rw[ag,hl];rfl
       have st:Stp (fun t=>t=(3,0)) oi o9 wo w8:=((Stp.of_below hbi).trans (sX.mono fun _ h=>h.elim)).trans jJ;refine⟨?_,st.below fun b hb e=>?_,fun b hb=>(st.tags b hb).trans (hOi b hb)⟩
       ·rw[e]
        have h6:=H6.out;have hn6:=tH.out;exact Lo.snoc (by rw[htj];omega) (by rw[htj];exact pE) mZ hd sX jJ (hown2.ite (by rw[htj]) rfl)
       ·rw[hOi b hb]at e;simp at e)
     obtain⟨hw3,hw4⟩:=HW3.out;clear hl rT hl12 pE hur mZ htj hbi hOi hnl;go_wp2_with (first
      | (at_builtin;refine zi _ rfl _ _ _ rfl 73 iD _ 5 40 huD hi5 hz5 hs5 hy5 rfl (by decide) (fo wi.1.size) (1,0) _ 0 [] rfl (Row.nil _ _ _ _ _) o3 t3 _ nl (kn (l.map As.D)) rfl Amg.out (qns _) hk1 hk2 ?_;intro v1 w7 hown1 dZ;have hr1:=yr (qd wi) hown1;have kG:=xx (qd wi) dZ;simp only[af,List.nil_append]at hr1;obtain⟨p1,c1,rfl⟩:=hr1.AS;obtain⟨sX,hd7,rn⟩:=HX7.out w7 p1 c1 hr1 kG;have jn:=Al.new w7 #[.slice p1 nl c1] 71;clear hr1 kG hown1 dZ)
      | (at_builtin;refine qi _ rfl _ _ _ rfl 71 iS _ 1 24 huS hi1 hz1 hs1 hy1 rfl (by decide) (ext oi wi.1.size (1,0)) (3,0) _ _ _ rfl rn ⟨w7.1.size,0,none⟩ 1 1 [.slice p1 nl c1] rfl rfl (zj jn) ue dX Afx ?_;intro v2 w8 hown2 jJ)
      | fail)
     have hSn:=pY.out w7 w8 p1 c1 v2 _ sX hd7 jJ hown2;clear sX hd7 jJ hown2 rn jn;go_roundw
     case rel=>exact⟨j+1,_,by simp,hlt2,hSn⟩
     case measure=>clear hw3 hw4 hk1 hk2 dX Afx;simp[intOf];omega
    ·obtain rfl:j=np:=by omega
     rw[tH.out,ai]at zJ;have uW:=zJ.whole (n:=wo.1.size) hOi oo (id+2,1);obtain⟨av,cv',rfl⟩:=uW.AS;rw[<-tH.out]at uW;rw[<-tH.out];have jB:=HB.out.below hbi HB.out.lt;have sY:Stp (fun _=>False) oo (ext oo wo.1.size (id+2,1)) wo (wi.alloc (ARu #[.slice av j cv'] 67)):=(Stp.of_below (qc hbi _)).ext _ _ (Qk _);have rn2:=iR.out.Ao sY fun h=>h;have lV:q+1<=maxLen:=by simp only[maxLen];omega
     have rP:(q+1)*24<=140737488355328:=by omega
     have HFx:=Qa (fun (w4:Aa)(o4:Own)(p4:Option Addr)(c4:Nat)(jG:Row w4 o4 (id+2,4) 67 1 (.slice p4 (q+1) c4) (q+1) (vs++[.slice av j cv']))(iw:Stp (fun t=>t=(id+2,4)) (ext oo wo.1.size (id+2,1)) o4 (wi.alloc (ARu #[.slice av j cv'] 67)) w4) =>
      show Al w4 mb #[ptr y.sb,.slice pp q cpp,Ah (some ⟨g0,0,none⟩) k k,.int .i32 0,.int .u32 0,Ah none 0 0] 148/\Al (w4.setCell ⟨mb,1,none⟩ (.slice p4 (q+1) c4)) mb #[ptr y.sb,.slice p4 (q+1) c4,Ah (some ⟨g0,0,none⟩) k k,.int .i32 0,.int .u32 0,Ah none 0 0] 148 /\
       KT (w4.setCell ⟨mb,1,none⟩ (.slice p4 (q+1) c4)) o4 (id+2,1) (id+2,4) (.slice p4 (q+1) c4) (bK.take (q+1))/\Stp (fun t=>t=(id+2,0)\/t=(id+2,4)) o2 o4 W0 (w4.setCell ⟨mb,1,none⟩ (.slice p4 (q+1) c4)) from by
       have eo:oo mb=(id+2,0):=(HS.out.tags _ Ade.out).trans HOm.out;have e6:ext oo wo.1.size (id+2,1) mb=(id+2,0):=(qr HB.out.lt).trans eo;have jb4:=(jB.alloc (ARu #[.slice av j cv'] 67)).Ao iw (by rw[e6];simp)
       have e4:o4 mb=(id+2,0):=(iw.tags _ (jB.alloc _).lt).trans e6;have k5:Stp (fun t=>t=(id+2,0)) o4 o4 w4 (w4.setCell ⟨mb,1,none⟩ (.slice p4 (q+1) c4)):=(Stp.refl _ o4 w4).setCell (by show o4 mb=_;exact e4) _
       have kt:KT w4 o4 (id+2,1) (id+2,4) (.slice p4 (q+1) c4) (bK.take q++[p]):=KT.snoc (by simp) (by rw[HLen.out];omega) (by rw[HLen.out];exact HVl.out) HVs.out (uW.Ao (Stp.of_below (T:=fun _=>False) (qc (qd wi) _)) fun h=>h) sY iw (jG.ite (by rw[HLen.out]) rfl)
       refine⟨jb4,jb4.set 1 _,?_,?_⟩
       ·rw[iH.out];exact kt.Ao k5 (by simp) (by simp)
       ·exact (HS.out.trans ((sY.mono fun _ h=>h.elim).trans (iw.mono fun _ h=>.inr h))).trans (k5.mono fun _ h=>.inl h))
     have cb:=jB.cell;have lb:=jB.lt;have iQ:=Qa rn2;obtain⟨hw1,hw2⟩:=HW.out;clear zJ uW jB sY rn2 hbi hOi hlt2 hjn;go_wp2_with (first
      | (at_builtin;refine qi _ rfl _ _ _ rfl 67 iB _ 1 24 huB hi2 hz2 hs2 hy2 rfl (by decide) (ext oo wo.1.size (id+2,1)) (id+2,4) _ _ _ rfl iQ.out ⟨wi.1.size,0,none⟩ 1 1 [.slice av j cv'] rfl rfl (zj (Al.new wi _ _)) ue lV rP ?_;intro v4 w4 jG iw;obtain⟨p4,c4,rfl⟩:=jG.AS;obtain⟨j4,hfx⟩:=HFx.out _ _ _ _ jG iw;have c4':=j4.cell;have z4:=j4.free;have l4:=j4.lt)
      | fail)
     clear jG iw j4;go_roundw
     case rel=>exact⟨q+1,_,_,by simp,hlt,hfx⟩
     case measure=>clear hw1 hw2 lV rP;simp[intOf];omega
  ·obtain rfl:q=k:=by omega
   rw[HK.out,ai]at hKT;have hM:BN wo oo ⟨mb,y,vp,Ah (some ⟨g0,0,none⟩) q q⟩ (Mc.fresh (An.fresh n q r u B) bK):=by
    obtain⟨hS0,hR0,hid⟩:=iV.out;refine⟨⟨Ah none 0 0,hB,Row.nil _ _ _ _ _⟩,hS0.Ao hs fun j e=>by rw[hid]at e;simp at e,?_,?_,?_⟩
    ·show KT wo oo (y.l.id+2,1) (y.l.id+2,4) vp bK
     rw[hid];exact hKT
    ·show Row wo oo (y.l.id+2,2) _ 15 _ (Ad bK.length DZ).length (zt (Ad bK.length DZ))
     rw[Qy,<-HK.out,hid];exact hR0.Ao hs (by simp)
    ·show oo mb=(y.l.id+2,0)
     rw[hid];exact (hs.tags _ Ade.out).trans HOm.out
   have HFin:=Qa (And.intro hM (((HS2.out.mono fun _ h=>h.elim).trans hs).strict fun b hb e=>by
    have:=(yG.out b hb).2;rcases e with e|e<;>rw[e]at this<;>simp at this))
   clear hM hB hKT hs hbw hlt hqk;go_wp2_with fail;go_ret2;exact⟨_,oo,rfl,iV.out.2.2,HFin.out.1,HFin.out.2⟩
end
section
variable {w w' : Aa} {o o' : Own} {m : Ck} {M : Mc}
def BN.retag (h:BN w o m M)(he:∀ b,b<w.1.size->o' b=o b):BN w o' m M:=
 h.Ao (T:=fun _=>False) ⟨rfl,rfl,rfl,Qk _,he,fun _ _ _=>rfl⟩ (fun _ h=>h) fun _ h=>h
def qfz (h:BN w o m M):Ab ARt 87 #[Ag (some ⟨m.mb,3,none⟩)] w fun e w'=>e=O (.bool (decide (2000<=M.past.length)))/\BN w' o m M/\(∀ (b:Nat)(cs:Array Ac)(t:TypeId),b≠m.mb->Al w b cs t->Al w' b cs t)/\w'.1.size=w.1.size/\Stp (fun t=>t=(m.y.l.id+2,0)) o o w w':=by
 obtain⟨ve,jb,hr⟩:=h.AM;obtain⟨pa,cp,rfl⟩:=hr.AS;refine (Hw m.mb M.past.length cp pa w (jb.cell 3) (jb.cell 5) (jb.free 3)).mono ?_
 rintro e w' ⟨rfl,rfl⟩
 have e1:o m.mb=(m.y.l.id+2,0):=h.om;have k:Stp (fun t=>t=(m.y.l.id+2,0)) o o w ((w.setCell ⟨m.mb,3,none⟩ (.int .i32 1)).setCell ⟨m.mb,3,none⟩ (.int .i32 0)):=((Stp.refl _ o w).setCell (by show o m.mb=_;exact e1) _).setCell (by show o m.mb=_;exact e1) _
 have j2:=(jb.set 3 (.int .i32 1)).set 3 (.int .i32 0);exact⟨rfl,⟨⟨_,j2,hr.Ao k (by simp)⟩,h.st.Ao k (by simp),h.ps.Ao k (by simp) (by simp),h.hs.Ao k (by simp),h.om⟩,fun b cs t hb j=>(j.Am (a:=⟨m.mb,3,none⟩) hb _).Am (a:=⟨m.mb,3,none⟩) hb _,by simp,k⟩
def BN.BF (h:BN w o m M){t:Nat}(ht:t<M.hs.length){g n c:Nat}(hv:m.vh=Ah (some ⟨g,0,none⟩) n c)(z:AE) :
  BN (Km w g (t*15) z) o m { M with hs:=M.hs.set t z }/\Stp (fun u=>u=(m.y.l.id+2,2)) o o w (Km w g (t*15) z):=by
 have hr:=h.hs;have hn:n=M.hs.length:=by
  obtain⟨a,c',e⟩:=hr.AS;rw[hv]at e;injection e
 subst hn;rw[hv]at hr;have k:Stp (fun u=>u=(m.y.l.id+2,2)) o o w (Km w g (t*15) z):=UI (Stp.refl _ o w) hr.CZ z
 obtain⟨ve,jb,hp⟩:=h.AM;refine⟨⟨⟨ve,jb.Ao k (by rw[h.om];simp),hp.Ao k (by simp)⟩,h.st.Ao k (by simp),h.ps.Ao k (by simp) (by simp),?_,(k.tags _ jb.lt).trans h.om⟩,k⟩
 show Row _ o _ _ 15 m.vh (M.hs.set t z).length _;rw[Qq,hv];exact qif hr ht z
def KD.dds {v:Ac}{tg:Tag}{l:List As}(h:KD w o tg v l):Ev w v l:=by
 obtain⟨h12,hr⟩:=h;obtain⟨a,c,rfl⟩:=hr.AS;refine⟨a,c,rfl,fun k d hd=>?_⟩
 have key:∀ r,r<5->(kn (l.map As.D))[k*5+r]?=(ke d.D)[r]?:=fun r hr=>by
  rw[bg,show (k*5+r)/5=k from by omega,show (k*5+r)%5=r from by omega,Qj,hd];rfl
 rcases hr.B7 with ⟨_,h0⟩|⟨g,cap,e,_⟩
 ·have:=key 0 (by omega)
  rw[h0]at this;simp[ke]at this
 ·injection e with e1 _ e3
  subst e1 e3;have f:∀ r u,r<5->(ke d.D)[r]?=some u->w.cell? ⟨g,0+(k*5+r),none⟩=some u:=fun r u hr' hu=>by
   have:=hr.own.cells (g:=g) rfl (k*5+r) u ((key r hr').trans hu);rw[addr_add]at this;rw[af];exact this
  refine⟨g,0,rfl,?_,?_,?_,?_,?_⟩
  ·exact (congrArg w.cell? (by rw[Nat.add_zero])).trans (f 0 _ (by omega) rfl)
  ·exact f 1 _ (by omega) rfl
  ·exact f 2 _ (by omega) rfl
  ·exact f 3 _ (by omega) rfl
  ·exact f 4 _ (by omega) rfl
def KB.Uf {v:Ac}{tg:Tag}{bs:List (List As)}(h:KB w o tg v bs):CM w v bs:=by
 obtain⟨h6,vs,hl,hr,hd⟩:=h;obtain⟨a,c,rfl⟩:=hr.AS;refine⟨a,c,rfl,fun j ds hj=>?_⟩
 obtain⟨u,hu,hk⟩:=hd j ds hj;rcases hr.form with⟨_,h0⟩|⟨g,cap,e,_⟩
 ·have:=(Qc.1 hj).1;omega
 ·injection e with e1 _ e3
  subst e1 e3;exact⟨g,0,rfl,u,by rw[af];exact hr.cells j _ hu,hk.dds⟩
end
def pk (c:Int)(n:Nat):Nat:=(if c<0 then (-(c+1)).toNat else c.toNat)%n
section
variable {w w' : Aa} {o o' : Own} {m : Ck} {M : Mc}
open Go.MuLone in
def qhg (h:BN w o m M)(hk:M.past.length<=2000) :
  Ab ARt 36 #[ptr m.mb] w fun e w'=>∃ v',e=O v'/\Row w' (fo w.1.size) (1,0) 69 6 v' M.past.length (qq M.past)/\BN w' o m M/\Stp (fun t=>t=(m.y.l.id+2,0)) o o w w':=by
 obtain⟨ve,jb,hr⟩:=h.AM;have e1:o m.mb=(m.y.l.id+2,0):=h.om;have HA:=Qa (Lx m.mb M.past ve w o (m.y.l.id+2,3) (jb.cell 3) (jb.cell 5) (jb.free 3) jb.lt hr hk (by rw[e1];simp))
 have HF:=Qa (fun (w1:Aa)(hb:Ae w.1.size (w.setCell ⟨m.mb,3,none⟩ (.int .i32 1)) w1)=>show BN (w1.setCell ⟨m.mb,3,none⟩ (.int .i32 0)) o m M/\Stp (fun t=>t=(m.y.l.id+2,0)) o o w (w1.setCell ⟨m.mb,3,none⟩ (.int .i32 0)) from by
  have k1:Stp (fun t=>t=(m.y.l.id+2,0)) o o w (w.setCell ⟨m.mb,3,none⟩ (.int .i32 1)):=(Stp.refl _ o w).setCell (by show o m.mb=_;exact e1) _
  have hb':Ae (w.setCell ⟨m.mb,3,none⟩ (.int .i32 1)).1.size (w.setCell ⟨m.mb,3,none⟩ (.int .i32 1)) w1:=by rw[World.size_setCell];exact hb
  have k2:=k1.trans (Stp.of_below hb');have k3:Stp (fun t=>t=(m.y.l.id+2,0)) o o w (w1.setCell ⟨m.mb,3,none⟩ (.int .i32 0)):=k2.setCell (by show o m.mb=_;exact e1) _
  have j3:=((jb.set 3 (.int .i32 1)).below hb' (jb.set 3 (.int .i32 1)).lt).set 3 (.int .i32 0);exact⟨⟨⟨_,j3,hr.Ao k3 (by simp)⟩,h.st.Ao k3 (by simp),h.ps.Ao k3 (by simp) (by simp),h.hs.Ao k3 (by simp),h.om⟩,k3⟩)
 have cb:=jb.cell;have qY:=Qa (fun (w1:Aa)(v:Ac)(hb:Ae w.1.size (w.setCell ⟨m.mb,3,none⟩ (.int .i32 1)) w1)(hr1:Row w1 (fo w.1.size) (1,0) 69 6 v M.past.length (qq M.past))=>show Row (w1.setCell ⟨m.mb,3,none⟩ (.int .i32 0)) (fo w.1.size) (1,0) 69 6 v M.past.length (qq M.past) from
  hr1.Ao (T:=fun t=>t=(0,0)) ((Stp.refl _ (fo w.1.size) w1).setCell (by show fo w.1.size m.mb=(0,0);exact Fb jb.lt) _) (by simp))
 clear h jb hr;go_enter func36,ntmps36;go_wp2_with fail;refine HA.out.mono ?_
 rintro e w2 ⟨v',w1,rfl,hr1,hb1,rfl⟩
 obtain⟨hM,hs⟩:=HF.out w1 hb1;have hr2:=qY.out w1 v' hb1 hr1;generalize w1.setCell ⟨m.mb,3,none⟩ (.int .i32 0)=X at *;go_wp2_with fail;go_ret;exact⟨_,rfl,hr2,hM,hs⟩
end
end
section
open Hp
def Tg (e:Int):Prop:=e=141\/e=100\/e=130
structure RX (kd:Int)(h h':AE)(a:A0):Prop where
 k:a.k=2
 ne:a.e≠140
 ends:Tg a.e\/(a.e=0/\kd=14)->h'.l=false/\h'.n=0/\h'.b=if a.e=141 then h.b else h.b+1
 goes:¬(Tg a.e\/(a.e=0/\kd=14))->h'.l=true/\h'.n=h.n+1/\h'.b=h.b
section
variable {S : An} {i : Nat}
def ud {k:Int}{h h0:AE}(e v:Int)(hk:k≠14)(he:e≠140)(hl:h.l=true)(e1:h0.b=h.b)(e2:h0.n=h.n)(e3:h0.l=h.l):RX k h (h0.ended e) ⟨2,e,v⟩:=by
 refine⟨rfl,he,fun hf=>?_,fun hf=>?_⟩
 ·have hf':e=141\/e=100\/e=130:=hf.resolve_right fun h=>hk h.2
  unfold AE.ended;simp only;by_cases h1:e=141
  ·rw[if_pos (.inl h1),if_pos h1];exact⟨rfl,rfl,e1⟩
  ·rw[if_neg (by omega),if_pos (by omega),if_neg h1];exact⟨rfl,rfl,by show h0.b+1=_;rw[e1]⟩
 ·have hf:¬(e=141\/e=100\/e=130):=fun h=>hf (.inl h)
  unfold AE.ended;rw[if_neg (by omega),if_neg (by omega)]
  exact⟨e3.trans hl,by show h0.n+1=_;rw[e2],e1⟩
def Sn (r:BD)(i:Nat):(r.fin i).e=r.e:=by
 unfold BD.fin;split
 ·rfl
 ·split<;>rfl
def VF {r:BD}(hl:(S.t i).live=true):(S.AG i r).e=r.e:=by unfold An.AG;rw[if_pos hl];exact Sn r i
def bw {k:Int}{h:AE}{r:BD}{A:Nat}(hk:k≠14)(hlv:(S.t i).live=true)(he:r.e≠140)(hl:h.l=true):RX k h (di (S.AG i r) h A).h (di (S.AG i r) h A).a:=by
 have e0:=VF (r:=r) hlv;show RX k h (h.Pj A (S.AG i r).v (S.AG i r).e) (ED _ (S.AG i r).e);unfold AE.Pj ED;by_cases h0:(S.AG i r).e=0
 ·rw[if_pos h0,if_pos h0];exact ud (h0:=h.put A _) 0 _ hk (by omega) hl rfl rfl rfl
 ·rw[if_neg h0,if_neg h0];exact ud (S.AG i r).e _ hk (by rw[e0];exact he) hl rfl rfl rfl
def TE {k v:Int}{h:AE}{r:BD}(hk:k≠14)(hlv:(S.t i).live=true)(he:r.e≠140)(hl:h.l=true):RX k h (xu (S.AG i r).S v (S.AG i r).e h).h (xu (S.AG i r).S v (S.AG i r).e h).a:=
 ud (S.AG i r).e _ hk (by rw[VF hlv];exact he) hl rfl rfl rfl
def qo8 (hlv:(S.t i).live=true){h:AE}(hl:h.l=true){d:As}(hd:d.ok):RX d.k h (S.A4 i h d).h (S.A4 i h d).a:=by
 have hkd:=hd.k;by_cases k1:d.k=1
 ·rw[Tt _ _ _ _ k1];exact bw (by omega) hlv (TL _ _ _) hl
 by_cases k2:d.k=2
 ·rw[lw _ _ _ _ k2];exact bw (by omega) hlv (TL _ _ _) hl
 by_cases k3:d.k=3
 ·rw[TB _ _ _ _ k3];exact bw (by omega) hlv (Le _ _ _) hl
 by_cases k4:d.k=4
 ·rw[TA _ _ _ _ k4];exact bw (by omega) hlv (Pb _ _ _ _) hl
 by_cases k9:d.k=9
 ·rw[lj _ _ _ _ k9];exact bw (by omega) hlv (JI _ _ _) hl
 by_cases k10:d.k=10
 ·rw[bp _ _ _ _ k10];exact bw (by omega) hlv (by have:=KQ S i;omega) hl
 by_cases k5:d.k=5
 ·rw[Ts _ _ _ _ k5];exact TE (by omega) hlv (Po _ _ _ _ _) hl
 by_cases k6:d.k=6
 ·rw[ly _ _ _ _ k6];exact TE (by omega) hlv (Kq _ _ _ _) hl
 by_cases k7:d.k=7
 ·rw[lz _ _ _ _ k7];exact TE (by omega) hlv (qm2 _ _ _ _ _) hl
 by_cases k8:d.k=8
 ·rw[lr _ _ _ _ k8];exact TE (by omega) hlv (Hu _ _ _) hl
 by_cases k11:d.k=11
 ·rw[cj _ _ _ _ k11];exact ud 0 _ (by omega) (by omega) hl rfl rfl rfl
 by_cases k12:d.k=12
 ·rw[bq _ _ _ _ k12];exact ud 0 _ (by omega) (by omega) hl rfl rfl rfl
 by_cases k13:d.k=13
 ·rw[cg _ _ _ _ k13];exact ud 0 _ (by omega) (by omega) hl rfl rfl rfl
 ·have k14:d.k=14:=by omega
  rw[ce _ _ _ _ k14];exact⟨rfl,(show (0:Int)≠140 by decide),fun _=>⟨rfl,rfl,rfl⟩,fun h=>absurd (.inr ⟨rfl,k14⟩) h⟩
def qny (hlv:(S.t i).live=true):(S.AL i).e=0\/(S.AL i).e=141:=by
 have e1:S.AL i=S.AG i (S.AY i):=rfl;rw[e1,VF hlv];exact qhw S i
end
def qku {e:Int}:yp e=true↔e=141\/e=100\/e=130:=by unfold yp;simp only[Bool.or_eq_true,beq_iff_eq,or_assoc]
section
variable {S : An} {i : Nat} {M M' : Mc} {R R' : Rd} {bK : List (List (List Pg.D))}
structure Pw (M:Mc)(R:Rd):Prop where
 sp:∀ t,t<M.hs.length->(R.s t).b=(M.h t).b
 lv:∀ t,t<M.hs.length->(M.h t).l=true->∃ (j:Nat)(x:AK),(R.s t).k=j/\R.M[j]?=some x/\(x.AX.length:Int)=(M.h t).n
 dd:∀ t,t<M.hs.length->(M.h t).l=false->(R.s t).k=-1
structure FU (bK:List (List (List Pg.D)))(M:Mc)(R:Rd):Prop where
 ps:bK=dD M.ps
 rd:za bK (some (Rd.new bK.length)) 0 M.past=some R
 ln:Pw M R
 co:ux M.past
def PS (ps:List (List (List As)))(t:Nat):(dD ps).getD t []=(ps.getD t []).map fun l=>l.map As.D:=by
 unfold dD;rw[Qi,Qi,Qj]
 cases ps[t]?<;>rfl
def PR (bs:List (List As))(b:Nat):(bs.map fun l=>l.map As.D).getD b []=(bs.getD b []).map As.D:=by
 rw[Qi,Qi,Qj]
 cases bs[b]?<;>rfl
def Pw.same (h:Pw M R)(hl:M'.hs.length=M.hs.length)(hh:∀ t,t<M.hs.length->(M'.h t).b=(M.h t).b/\(M'.h t).n=(M.h t).n/\(M'.h t).l=(M.h t).l){R':Rd}(hA:R'.A=R.A)(hM:R'.M=R.M):Pw M' R':=by
 have hs:∀ t,R'.s t=R.s t:=fun t=>by unfold Rd.s;rw[hA]
 refine⟨fun t ht=>?_,fun t ht hlv=>?_,fun t ht hdd=>?_⟩
 ·rw[hl]at ht;rw[hs,(hh t ht).1];exact h.sp t ht
 ·rw[hl]at ht
  rw[(hh t ht).2.2]at hlv;rw[hs,hM,(hh t ht).2.1];exact h.lv t ht hlv
 ·rw[hl]at ht
  rw[(hh t ht).2.2]at hdd;rw[hs];exact h.dd t ht hdd
def Pw.note (hL:Pw M R) (hI:R.inv bK M.past) (hth:bK.length=M.hs.length) {T:Nat} (hT:T<M.hs.length) {h':AE} {e:Bg} (he:e.t=T) (hc:e.a.k=3->e.a.e≠0->e.a.e=141) (htk:R.take bK M.past.length e=some R')
  (hb:(R'.s T).b=h'.b) (hlv:h'.l=true->∃ (j:Nat) (x:AK),(R'.s T).k=j/\R'.M[j]?=some x/\(x.AX.length:Int)=h'.n) (hdd:h'.l=false->(R'.s T).k=-1) (hM':M'.hs=M.hs.set T h'):Pw M' R':=by
 have hl:M'.hs.length=M.hs.length:=by rw[hM',Qq]
 have hh:∀ u,M'.h u=if u=T then h' else M.h u:=fun u=>by
  unfold Mc.h;rw[hM',Qi,Qr];by_cases e1:u=T
  ·subst e1;rw[if_pos rfl,if_pos hT,if_pos rfl];rfl
  ·rw[if_neg fun z=>e1 z.symm,if_neg e1,Qi]
 have ho:∀ u,u≠T->R'.s u=R.s u:=fun u hu=>td htk (by rw[he];omega)
 refine⟨fun u hu=>?_,fun u hu lU=>?_,fun u hu rM=>?_⟩
 ·rw[hl]at hu
  rw[hh];by_cases e1:u=T
  ·subst e1;rw[if_pos rfl];exact hb
  ·rw[if_neg e1,ho u e1];exact hL.sp u hu
 ·rw[hl]at hu
  rw[hh]at lU ⊢;by_cases e1:u=T
  ·subst e1;rw[if_pos rfl]at lU ⊢;exact hlv lU
  ·rw[if_neg e1]at lU ⊢
   obtain⟨j,x,h1,h2,h3⟩:=hL.lv u hu lU;refine⟨j,x,by rw[ho u e1];exact h1,?_,h3⟩
   have hxt:x.t=u:=by
    rcases Et hI (t:=u) (s:=R.s u) (dj (by rw[hI.len,hth];exact hu)) with h4|⟨j',x',h4,h5,_,_,h6⟩
    ·omega
    ·have:j'=j:=by omega
     subst this;rw[h2]at h5;injection h5 with h5;rw[h5];exact h6
   exact UC (t:=u) [e] (fun z hz=>by simp only[Zc]at hz;rw[hz,he];omega) hI (fun z hz=>by simp only[Zc]at hz;rw[hz];exact hc) h2 hxt (by show za bK (R.take bK M.past.length e) (M.past.length+1) []=some R';rw[htk];rfl)
 ·rw[hl]at hu
  rw[hh]at rM;by_cases e1:u=T
  ·subst e1;rw[if_pos rfl]at rM;exact hdd rM
  ·rw[if_neg e1]at rM
   rw[ho u e1];exact hL.dd u hu rM
def ry {t:Nat}(ht:t<R.A.length)(s':BZ)(m:List AK)(c:Nat):(Rd.mk (R.A.set t s') m c).s t=s':=by
 unfold Rd.s;simp only;rw[Qi,Qr,if_pos rfl,if_pos ht];rfl
def NI {T:Nat}{b m:Int}(a:A0)(n:Nat)(htl:T<bK.length)(hb0:0<=b)(hbl:b<((bK.getD T []).length:Int))(hb:b=(R.s T).b) :
  R.take bK n ⟨T,b,m,a⟩=if a.k=1 then (if 0<=(R.s T).k then none else if a.e≠0 then some (R.fail T (bK.getD T []).length (R.s T)) else some (R.begun n T (R.s T) b a.v))
   else if a.k=2 then (if 0<=(R.s T).k then R.Bs n T (R.s T) (R.x (R.s T).k) ((bK.getD T []).getD b.toNat []) ⟨T,b,m,a⟩ else none)
   else if a.k=3 then (if 0<=(R.s T).k then R.AL n T (R.s T) (R.x (R.s T).k) ((bK.getD T []).getD b.toNat []) ⟨T,b,m,a⟩ else none) else none:=by
 unfold Rd.take;simp only;rw[if_neg (by omega),if_neg (by omega),Ai,if_neg (by omega)]
def qpq (hk:M.ok) (h:FU bK M R) {T:Nat} (hT:T<M.hs.length) (hp:M.past.length<2000):∃ R',FU bK (M.BV T).1 R':=by
 have hI:=uj h.co h.rd;have gU:bK.length=M.hs.length:=by rw[h.ps,hk.len];unfold dD;rw[Qg]
 have vQ:=hk.th T hT;have hTx:T<M.S.Au.length:=by rw[hk.Au,<-hk.len];exact hT
 have tY:T<R.A.length:=by rw[hI.len,gU];exact hT
 have hbs:bK.getD T []=(M.p T).map fun l=>l.map As.D:=by rw[h.ps,PS];rfl
 have hb0:=vQ.th.b;have hsp:=h.ln.sp T hT;have go:∀ (a:A0) (h':AE) (S':An),(M.S.Bf T (M.p T) (M.h T))=⟨S',h',a⟩->a.k≠0->(a.k=3->a.e≠0->a.e=141) ->
   ∀ R',R.take bK M.past.length ⟨T,(M.h T).b,(M.h T).n,a⟩=some R'->(R'.s T).b=h'.b->(h'.l=true->∃ (j:Nat) (x:AK),(R'.s T).k=j/\R'.M[j]?=some x/\(x.AX.length:Int)=h'.n)->(h'.l=false->(R'.s T).k=-1)->∃ R',FU bK (M.BV T).1 R':=by
  intro a h' S' hstep ha hc R' htk hb hlv hdd;have hpast:(M.BV T).1.past=M.past++[⟨T,(M.h T).b,(M.h T).n,a⟩]:=by
   unfold Mc.BV;simp only[hstep];rw[if_pos ha];unfold wb;rw[if_pos hp]
  have eu:(M.BV T).1.hs=M.hs.set T h':=by unfold Mc.BV;simp only[hstep]
  refine⟨R',h.ps,?_,h.ln.note hI gU hT rfl hc htk hb hlv hdd eu,?_⟩
  ·rw[hpast,gv,h.rd]
   show R.take bK (0+M.past.length) _=_;rw[af];exact htk
  ·rw[hpast]
   intro z hz;rcases Qs.1 hz with hz|hz
   ·exact h.co z hz
   ·simp only[Zc]at hz;rw[hz];exact hc
 by_cases hdone:((M.p T).length:Int)<=(M.h T).b
 ·have e1:M.S.Bf T (M.p T) (M.h T)=⟨M.S,M.h T,⟨0,0,0⟩⟩:=by unfold An.Bf;rw[if_pos hdone]
  refine⟨R,h.ps,?_,h.ln.same ?_ (fun u hu=>?_) rfl rfl,?_⟩
  ·unfold Mc.BV;simp only[e1];rw[if_neg (by simp)];exact h.rd
  ·unfold Mc.BV;simp only[Qq]
  ·have e3:(M.BV T).1.hs=M.hs.set T (M.h T):=by unfold Mc.BV;simp only[e1]
   have:(M.BV T).1.h u=M.h u:=by
    show (M.BV T).1.hs.getD u DZ=M.hs.getD u DZ;rw[e3,Qi,Qr];by_cases e2:T=u
    ·subst e2;rw[if_pos rfl,if_pos hT];rfl
    ·rw[if_neg e2,Qi]
   rw[this];exact⟨rfl,rfl,rfl⟩
  ·unfold Mc.BV;simp only[e1];rw[if_neg (by simp)];exact h.co
 have hbl:(M.h T).b<((bK.getD T []).length:Int):=by rw[hbs,Qg];omega
 have htake:=fun (a:A0)=>NI (R:=R) (m:=(M.h T).n) a M.past.length (by omega) hb0.1 hbl hsp.symm
 by_cases hlv:(M.h T).l=false
 ·have Afn:=h.ln.dd T hT hlv
  have e1:M.S.Bf T (M.p T) (M.h T)=M.S.CB T (M.p T).length (M.h T):=by unfold An.Bf;rw[if_neg hdone,if_pos hlv]
  unfold An.CB at e1;split at e1
  ·refine go _ _ _ e1 (by simp) (fun h=>by simp at h) (R.begun M.past.length T (R.s T) (M.h T).b M.S.now) ?_ ?_ (fun _=>⟨R.M.length,⟨T,(M.h T).b,M.S.now,R.c,M.past.length,-1,[],[],0,0⟩,?_,?_,rfl⟩) (fun h=>by cases h)
   ·rw[htake,if_pos rfl,if_neg (by omega),if_neg (by simp)]
   ·unfold Rd.begun;rw[ry tY];exact hsp
   ·unfold Rd.begun;rw[ry tY]
   ·simp[Rd.begun]
  ·rename_i hne
   refine go _ _ _ e1 (by simp) (fun h=>by simp at h) (R.fail T (bK.getD T []).length (R.s T)) ?_ ?_ (fun hl=>?_) (fun _=>?_)
   ·rw[htake,if_pos rfl,if_neg (by omega),if_pos hne]
   ·unfold Rd.fail;rw[ry tY,hbs,Qg]
   ·simp only at hl;rw[hlv]at hl;cases hl
   ·unfold Rd.fail;rw[ry tY];exact Afn
 ·have hl:(M.h T).l=true:=by simpa using hlv
  obtain⟨j,x,hj,hx,hn⟩:=h.ln.lv T hT hl;have hlive:=vQ.lv.trans hl;have hat:=vQ.th.at' hl;have hxk:R.x (R.s T).k=x:=by unfold Rd.x;rw[hj,Ai,Qi,hx];rfl
  have hds:(bK.getD T []).getD (M.h T).b.toNat []=((M.p T).getD (M.h T).b.toNat []).map As.D:=by rw[hbs,PR]
  have hn0:=vQ.th.n;have e0:∀ z,((M.p T).getD (M.h T).b.toNat [])[(M.h T).n.toNat]?=z->M.S.Bf T (M.p T) (M.h T)=match z with|none=>M.S.B4 T (M.h T)|some d=>M.S.A4 T (M.h T) d:=fun z hz=>by
   unfold An.Bf;rw[if_neg hdone,if_neg hlv,hz];cases z<;>rfl
  obtain⟨ds,Afq⟩:=Ja0 ((M.p T).getD (M.h T).b.toNat []);rw[<-Afq]at e0 hds hat
  cases hd:ds[(M.h T).n.toNat]? with
  | none =>
   have hlen:(M.h T).n=ds.length:=by
    have:=List.getElem?_eq_none_iff.1 hd;omega
   have e1:M.S.Bf T (M.p T) (M.h T)=M.S.B4 T (M.h T):=e0 _ hd;have hcm:∀ a:A0,a.k=3->R.take bK M.past.length ⟨T,(M.h T).b,(M.h T).n,a⟩=R.AL M.past.length T (R.s T) x (ds.map As.D) ⟨T,(M.h T).b,(M.h T).n,a⟩:=fun a ha=>by
    rw[htake,if_neg (by omega),if_neg (by omega),if_pos ha,if_pos (by rw[hj];exact aC j),hxk,hds]
   have hcm2:∀ a:A0,R.AL M.past.length T (R.s T) x (ds.map As.D) ⟨T,(M.h T).b,(M.h T).n,a⟩=if a.e≠0 then some (R.shut T (R.s T).b (R.s T).k.toNat (x.ended M.past.length 2 x.ve)) else some (R.shut T ((R.s T).b+1) (R.s T).k.toNat (x.ended M.past.length 1 a.v)):=fun a=>by
    unfold Rd.AL;rw[if_neg (by simp only[Qg];omega)]
   unfold An.B4 at e1;split at e1
   ·refine go _ _ _ e1 (by simp) (fun _ h=>by simp at h) _ ((hcm _ rfl).trans ((hcm2 _).trans (if_neg (by simp)))) ?_ (fun h=>by cases h) (fun _=>?_)
    ·unfold Rd.shut;rw[ry tY];show (R.s T).b+1=(M.h T).b+1;rw[hsp]
    ·unfold Rd.shut;rw[ry tY]
   ·rename_i hne
    have rD:=(qny hlive).resolve_left hne;refine go _ _ _ e1 (by simp) (fun _ _=>rD) _ ((hcm _ rfl).trans ((hcm2 _).trans (if_pos hne))) ?_ (fun h=>by cases h) (fun _=>?_)
    ·unfold Rd.shut;rw[ry tY];exact hsp
    ·unfold Rd.shut;rw[ry tY]
  | some d =>
   have e1:M.S.Bf T (M.p T) (M.h T)=M.S.A4 T (M.h T) d:=e0 _ hd;have hdl:=(Qc.1 hd).1;have hdk:d.ok:=by
    have Afe:(M.h T).b.toNat<(M.p T).length:=by omega
    have hpm:M.p T ∈ M.ps:=Qe (Mc.EH (M:=M) (by rw[<-hk.len];exact hT))
    have il:ds ∈ M.p T:=by rw[Afq,Qi,Qb Afe];exact aj Afe
    exact (((hk.dk _ hpm).2 ds il).2 d (Qe hd)).1
   have ht:=qo8 hlive hl hdk;obtain⟨S',h',a,hR⟩:∃ S' h' a,M.S.A4 T (M.h T) d=⟨S',h',a⟩:=⟨_,_,_,rfl⟩;rw[hR]at ht e1;simp only at ht;have hdd:R.take bK M.past.length ⟨T,(M.h T).b,(M.h T).n,a⟩=R.Bs M.past.length T (R.s T) x (ds.map As.D) ⟨T,(M.h T).b,(M.h T).n,a⟩:=by
    rw[htake,if_neg (by rw[ht.k];decide),if_pos ht.k,if_pos (by rw[hj];exact aC j),hxk,hds]
   have hkd:E9 (ds.map As.D) (M.h T).n=d.k:=by unfold E9;rw[Qj,hd];rfl
   have gX:rp (ds.map As.D) ⟨T,(M.h T).b,(M.h T).n,a⟩=true↔(Tg a.e\/(a.e=0/\d.k=14)):=by
    unfold rp;simp only[hkd,Bool.or_eq_true,Bool.and_eq_true,beq_iff_eq,qku];exact Iff.rfl
   have Afm:R.Bs M.past.length T (R.s T) x (ds.map As.D) ⟨T,(M.h T).b,(M.h T).n,a⟩=if rp (ds.map As.D) ⟨T,(M.h T).b,(M.h T).n,a⟩=true then some (R.shut T (if a.e=141 then (R.s T).b else (R.s T).b+1) (R.s T).k.toNat ((x.act M.past.length a).ended M.past.length 2 x.ve)) else some (R.put (R.s T).k.toNat (x.act M.past.length a)):=by
    unfold Rd.Bs;rw[if_neg (by simp only[Qg];omega)]
   by_cases hf:Tg a.e\/(a.e=0/\d.k=14)
   ·obtain⟨q1,q2,q3⟩:=ht.ends hf
    refine go a h' S' e1 (by rw[ht.k];decide) (fun h=>by rw[ht.k]at h;simp at h) _ (hdd.trans (Afm.trans (if_pos (gX.2 hf)))) ?_ (fun h=>by rw[q1]at h;cases h) (fun _=>?_)
    ·unfold Rd.shut;rw[ry tY,q3];simp only;rw[hsp]
    ·unfold Rd.shut;rw[ry tY]
   ·obtain⟨q1,q2,q3⟩:=ht.goes hf
    refine go a h' S' e1 (by rw[ht.k];decide) (fun h=>by rw[ht.k]at h;simp at h) _ (hdd.trans (Afm.trans (if_neg fun h=>hf (gX.1 h)))) ?_ (fun _=>⟨j,x.act M.past.length a,hj,?_,?_⟩) (fun h=>by rw[q1]at h;cases h)
    ·show (R.s T).b=h'.b;rw[q3];exact hsp
    ·unfold Rd.put
     simp only;rw[hj,Ai,Qr,if_pos rfl,if_pos (Qc.1 hx).1]
    ·rw[q2];simp only[AK.act,Qd,aB];omega
def Kn (hk:M.ok)(h:FU bK M R)(t:Int):∃ R',FU bK (M.step t).1 R':=by
 unfold Mc.step;split
 ·exact⟨R,h⟩
 ·exact qpq hk h (by omega) (by omega)
def M7 {l:List Bg}{k n:Int}(hk:k=5\/k=4)(h:za bK (some (Rd.new bK.length)) 0 l=some R)(hc:ux l):∃ R',za bK (some (Rd.new bK.length)) 0 (wb l ⟨-1,0,0,⟨k,0,n⟩⟩)=some R'/\R'.A=R.A/\R'.M=R.M/\ux (wb l ⟨-1,0,0,⟨k,0,n⟩⟩):=by
 unfold wb;split
 ·rw[gv,h]
  have hc2:ux (l++[⟨-1,0,0,⟨k,0,n⟩⟩]):=fun z hz=>by
   rcases Qs.1 hz with hz|hz
   ·exact hc z hz
   ·simp only[Zc]at hz;rw[hz];intro _ h0;exact absurd rfl h0
  rcases hk with rfl|rfl
  ·exact⟨{ R with c:=R.c+1 },by show Rd.take bK R _ _=_;unfold Rd.take;rw[if_pos rfl,if_pos rfl],rfl,rfl,hc2⟩
  ·exact⟨R,by show Rd.take bK R _ _=_;unfold Rd.take;rw[if_pos rfl,if_neg (by simp),if_pos rfl],rfl,rfl,hc2⟩
 ·exact⟨R,h,rfl,rfl,hc⟩
def UY {k:Int}(hk:k=5\/k=4):∀ (ns:List Nat){l:List Bg}{R:Rd},za bK (some (Rd.new bK.length)) 0 l=some R->ux l->∃ R',za bK (some (Rd.new bK.length)) 0 (ji l k ns)=some R'/\R'.A=R.A/\R'.M=R.M/\ux (ji l k ns)
 | [],l,R,h,hc=>⟨R,h,rfl,rfl,hc⟩
 | n::ns,l,R,h,hc=>by
  obtain⟨R1,h1,h2,h3,h4⟩:=M7 (n:=(n:Int)) hk h hc;obtain⟨R2,q1,q2,q3,q4⟩:=UY hk ns h1 h4;rw[qiu];exact⟨R2,q1,q2.trans h2,q3.trans h3,q4⟩
def qi6 (h:FU bK M R):∃ R',FU bK M.told R':=by
 obtain⟨R1,h1,h2,h3,h4⟩:=UY (.inl rfl) M.S.came h.rd h.co;obtain⟨R2,q1,q2,q3,q4⟩:=UY (.inr rfl) M.S.lost h1 h4;exact⟨R2,h.ps,q1,h.ln.same (M':=M.told) rfl (fun _ _=>⟨rfl,rfl,rfl⟩) (q2.trans h2) (q3.trans h3),q4⟩
def qhx (h:FU bK M R):∃ R',FU bK M.collect.1 R':=by
 by_cases h0:M.past.length<2000
 ·cases hc:(M.S.AF M.roots).2.2 with
  | true =>
   rw[uw h0 hc];obtain⟨e1,_,_⟩:=TP hc;refine qi6 (R:=R) ⟨h.ps,h.rd,h.ln.same (by rw[e1,Qg]) (fun t ht=>?_) rfl rfl,h.co⟩
   have e3:M.Db.h t=(M.h t).at' (M.S.begun M.roots).H.now:=by unfold Mc.h;rw[e1];exact Pe _ _ ht
   rw[e3];exact⟨rfl,rfl,rfl⟩
  | false =>
   rw[uv h0 hc];exact qi6 (M:=M.Fx) (R:=R) ⟨h.ps,h.rd,h.ln.same (M':=M.Fx) rfl (fun _ _=>⟨rfl,rfl,rfl⟩) rfl rfl,h.co⟩
 ·unfold Mc.collect
  rw[if_pos (by omega)];exact⟨R,h⟩
def qn4 (S:An)(ps:List (List (List As))):FU (dD ps) (Mc.fresh S ps) (Rd.new (dD ps).length):=by
 have hl:(dD ps).length=ps.length:=by unfold dD;rw[Qg]
 have hs:∀ t,t<ps.length->(Rd.new (dD ps).length).s t=⟨0,-1⟩:=fun t ht=>by
  unfold Rd.s Rd.new;simp only;rw[Qi,Qz,if_pos (by omega)];rfl
 have hh:∀ t,t<ps.length->(Mc.fresh S ps).h t=DZ:=fun t ht=>by
  unfold Mc.h Mc.fresh;simp only;rw[Qi,Qz,if_pos ht];rfl
 have hn:(Mc.fresh S ps).hs.length=ps.length:=Qy;refine⟨rfl,rfl,⟨fun t ht=>?_,fun t ht hl=>?_,fun t ht _=>?_⟩,fun z hz=>by cases hz⟩
 ·rw[hn]at ht;rw[hs t ht,hh t ht];rfl
 ·rw[hn]at ht;rw[hh t ht]at hl;cases hl
 ·rw[hn]at ht;rw[hs t ht]
