import Derived.Test.YteehgedabdchcaaGreatKbb
import Derived.Test.YteehgedabdchcaaGreatKbd
set_option linter.all false
set_option maxRecDepth 1000000
set_option maxHeartbeats 16000000
open Go renaming World->Aa,Calls->Ab,Value->Ac
open Go.RowKit renaming Below->Ae
open Go.Value renaming int->I,pointer->Ag,slice->Ah,tuple->Aj,agg->Ak
open Go.IntKind renaming i64->Z
open Go.Ending renaming returned->O
namespace Go.Proofs.YteehgedabdchcaaGreat
section
open Go.RowKit Hp
def za (l:List AD):List Ac:=l.flatMap fun h=>h.cells.toList
theorem VM:∀ (l:List AD),(za l).length=l.length*15
 | []=>rfl
 | h::l=>by
  have e:za (h::l)=h.cells.toList++za l:=rfl;rw[e,Qd,VM l,Qv];show 15+_=_;omega
theorem TW:∀ (l:List AD)(t:Nat)(h:AD),l[t]?=some h->∀ k,k<15->(za l)[t*15+k]?=h.cells.toList[k]?
 | [],_,_,ht,_,_=>by simp at ht
 | z::l,0,h,ht,k,hk=>by
  simp at ht;subst ht;have e:za (z::l)=z.cells.toList++za l:=rfl;have e2:z.cells.toList.length=15:=rfl;rw[e,Nat.zero_mul,Nat.zero_add,Qm (by omega)]
 | z::l,t+1,h,ht,k,hk=>by
  have ih:=TW l t h (by simpa using ht) k hk
  have e:za (z::l)=z.cells.toList++za l:=rfl;have e2:z.cells.toList.length=15:=rfl;rw[e,Ql (by omega),e2,<-ih]
  congr 1;omega
def FA (xs:List Ac)(b:Nat)(h:AD):List Ac:=
 ((((((((((((((xs.set b (I Z h.b)).set (b+1) (I Z h.n)).set (b+2) (I Z h.r.a0)).set (b+3) (I Z h.r.a1)).set (b+4) (I Z h.r.a2)).set (b+5) (I Z h.r.a3)).set (b+6) (I Z h.r.a4)).set (b+7) (I Z h.r.a5)).set (b+8) (I Z h.s.a0)).set (b+9) (I Z h.s.a1)).set (b+10) (I Z h.s.a2)).set (b+11) (I Z h.s.a3)).set (b+12) (I Z h.s.a4)).set (b+13) (I Z h.s.a5)).set (b+14) (.bool h.l)
theorem qm5 (xs ys:List Ac)(b:Nat)(h:AD):FA (xs++ys) (xs.length+b) h=xs++FA ys b h:=by
 have e:∀ (ys:List Ac)(k:Nat)(v:Ac),(xs++ys).set (xs.length+b+k) v=xs++ys.set (b+k) v:=fun ys k v=>by
  rw[List.set_append_right _ _ (by omega)];congr 2;omega
 have e0:∀ (ys:List Ac)(v:Ac),(xs++ys).set (xs.length+b) v=xs++ys.set b v:=fun ys v=>by
  rw[List.set_append_right _ _ (by omega)];congr 2;omega
 unfold FA;simp only[e0,e]
theorem Ue:∀ (l:List AD)(t:Nat)(h':AD),t<l.length->FA (za l) (t*15) h'=za (l.set t h')
 | [],_,_,ht=>by simp at ht
 | z::l,0,h',_=>by
  have e:za (z::l)=z.cells.toList++za l:=rfl;rw[e,Nat.zero_mul];rfl
 | z::l,t+1,h',ht=>by
  have ih:=Ue l t h' (by simpa using ht)
  have e:za (z::l)=z.cells.toList++za l:=rfl;have e2:z.cells.toList.length=15:=rfl;rw[e,show (t+1)*15=z.cells.toList.length+t*15 from by rw[e2];omega,qm5,ih]
  rfl
def Kb (W:Aa)(g b:Nat)(h:AD):Aa:=(((((((((((((((W.setCell ⟨g,b,none⟩ (I Z h.b)).setCell ⟨g,b+1,none⟩ (I Z h.n)).setCell ⟨g,b+2,none⟩ (I Z h.r.a0)).setCell ⟨g,b+3,none⟩ (I Z h.r.a1)).setCell ⟨g,b+4,none⟩ (I Z h.r.a2)).setCell ⟨g,b+5,none⟩ (I Z h.r.a3)).setCell ⟨g,b+6,none⟩ (I Z h.r.a4)).setCell ⟨g,b+7,none⟩ (I Z h.r.a5)).setCell ⟨g,b+8,none⟩ (I Z h.s.a0)).setCell ⟨g,b+9,none⟩ (I Z h.s.a1)).setCell ⟨g,b+10,none⟩ (I Z h.s.a2)).setCell ⟨g,b+11,none⟩ (I Z h.s.a3)).setCell ⟨g,b+12,none⟩ (I Z h.s.a4)).setCell ⟨g,b+13,none⟩ (I Z h.s.a5)).setCell ⟨g,b+14,none⟩ (.bool h.l))
theorem U1 {W:Aa}{o:Own}{t:Tag}{e:TypeId}{g n cap:Nat}{l:List AD}(h:Row W o t e 15 (Ah (some ⟨g,0,none⟩) n cap) n (za l)){i:Nat}(hi:i<l.length)(h':AD) :
  Row (Kb W g (i*15) h') o t e 15 (Ah (some ⟨g,0,none⟩) n cap) n (za (l.set i h')):=by
 rw[<-Ue l i h' hi];exact ((((((((((((((h.CP _ _).CP _ _).CP _ _).CP _ _).CP _ _).CP _ _).CP _ _).CP _ _).CP _ _).CP _ _).CP _ _).CP _ _).CP _ _).CP _ _).CP _ _
theorem Rb {T:Tag->Prop}{o o':Own}{w W:Aa}(h:Stp T o o' w W){g b:Nat}(ht:T (o' g))(z:AD):Stp T o o' w (Kb W g b z):=by
 have k:∀ {W:Aa},Stp T o o' w W->∀ j v,Stp T o o' w (W.setCell ⟨g,j,none⟩ v):=fun h j v=>h.setCell (by exact ht) v
 exact k (k (k (k (k (k (k (k (k (k (k (k (k (k (k h _ _) _ _) _ _) _ _) _ _) _ _) _ _) _ _) _ _) _ _) _ _) _ _) _ _) _ _) _ _
structure Q1 (w:Aa)(g b:Nat)(h:AD):Prop where
 c0:w.cell? ⟨g,b,none⟩=some (I Z h.b)
 c1:w.cell? ⟨g,b+1,none⟩=some (I Z h.n)
 c2:w.cell? ⟨g,b+2,none⟩=some (I Z h.r.a0)
 c3:w.cell? ⟨g,b+3,none⟩=some (I Z h.r.a1)
 c4:w.cell? ⟨g,b+4,none⟩=some (I Z h.r.a2)
 c5:w.cell? ⟨g,b+5,none⟩=some (I Z h.r.a3)
 c6:w.cell? ⟨g,b+6,none⟩=some (I Z h.r.a4)
 c7:w.cell? ⟨g,b+7,none⟩=some (I Z h.r.a5)
 c8:w.cell? ⟨g,b+8,none⟩=some (I Z h.s.a0)
 c9:w.cell? ⟨g,b+9,none⟩=some (I Z h.s.a1)
 Ph:w.cell? ⟨g,b+10,none⟩=some (I Z h.s.a2)
 c11:w.cell? ⟨g,b+11,none⟩=some (I Z h.s.a3)
 FR:w.cell? ⟨g,b+12,none⟩=some (I Z h.s.a4)
 QB:w.cell? ⟨g,b+13,none⟩=some (I Z h.s.a5)
 Kl:w.cell? ⟨g,b+14,none⟩=some (.bool h.l)
theorem Row.E9 {w:Aa}{o:Own}{tg:Tag}{e:TypeId}{n cap:Nat}{pa:Option Addr}{l:List AD}(hr:Row w o tg e 15 (.slice pa n cap) n (za l)){t:Nat}{h:AD}(ht:l[t]?=some h) :
  ∃ g,pa=some ⟨g,0,none⟩/\n<=cap/\Q1 w g (t*15) h:=by
 have ha:=TW l t h ht;rcases hr.C1 with ⟨_,h0⟩|⟨g,cap',e',hn⟩
 ·have:=ha 0 (by omega)
  rw[h0]at this;simp[AD.cells]at this
 ·injection e' with e1 _ e3
  subst e1 e3;have f:∀ k u,k<15->h.cells.toList[k]?=some u->w.cell? ⟨g,t*15+k,none⟩=some u:=fun k u hk hu=>by
   have:=hr.own.cells (g:=g) rfl (t*15+k) u ((ha k hk).trans hu);rwa [addr_add]at this
  exact⟨g,rfl,hn,f 0 _ (by omega) rfl,f 1 _ (by omega) rfl,f 2 _ (by omega) rfl,f 3 _ (by omega) rfl,f 4 _ (by omega) rfl,f 5 _ (by omega) rfl,f 6 _ (by omega) rfl,f 7 _ (by omega) rfl,f 8 _ (by omega) rfl,f 9 _ (by omega) rfl,f 10 _ (by omega) rfl,f 11 _ (by omega) rfl,f 12 _ (by omega) rfl,f 13 _ (by omega) rfl,f 14 _ (by omega) rfl⟩
structure Mc where
 S:Al
 ps:List (List (List Ay))
 hs:List AD
 past:List CS
def R6.places (r:R6):List Nat:=[r.a0.toNat,r.a1.toNat,r.a2.toNat,r.a3.toNat,r.a4.toNat,r.a5.toNat]
def AD.roots (h:AD):List Nat:=h.r.places++h.s.places
def R6.of (l:List Nat):R6:=⟨l.getD 0 0,l.getD 1 0,l.getD 2 0,l.getD 3 0,l.getD 4 0,l.getD 5 0⟩
def AD.place (h:AD)(l:List Nat):AD:={ h with r:=R6.of l,s:=R6.of (l.drop 6) }
def kg:List AD->List Nat->List AD
 | [],_=>[]
 | h::hs,l=>h.place l::kg hs (l.drop 12)
def kh (l:List CS)(x:CS):List CS:=if l.length<2000 then l++[x] else l
def ze (l:List CS)(k:Int)(ns:List Nat):List CS:=ns.foldl (fun (l:List CS)(n:Nat)=>kh l ⟨-1,0,0,⟨k,0,(n:Int)⟩⟩) l
def Cy:AD:=⟨0,0,⟨0,0,0,0,0,0⟩,⟨0,0,0,0,0,0⟩,false⟩
def Mc.h (M:Mc)(t:Nat):AD:=M.hs.getD t Cy
def Mc.p (M:Mc)(t:Nat):List (List Ay):=M.ps.getD t []
def Mc.roots (M:Mc):List Nat:=M.hs.flatMap AD.roots
def Mc.CE (M:Mc)(t:Nat):Mc×Bf:=
 (⟨(M.S.Bn t (M.p t) (M.h t)).S,M.ps,M.hs.set t (M.S.Bn t (M.p t) (M.h t)).h,if (M.S.Bn t (M.p t) (M.h t)).a.k≠0 then kh M.past ⟨t,(M.h t).b,(M.h t).n,(M.S.Bn t (M.p t) (M.h t)).a⟩ else M.past⟩,(M.S.Bn t (M.p t) (M.h t)).a)
def Mc.step (M:Mc)(t:Int):Mc×Bf:=
 if t<0\/(M.hs.length:Int)<=t\/2000<=M.past.length then (M,⟨0,0,0⟩) else M.CE t.toNat
def Mc.told (M:Mc):Mc:={ M with S:={ M.S with came:=[],lost:=[] },past:=ze (ze M.past 5 M.S.came) 4 M.S.lost }
def Mc.collect (M:Mc):Mc×Bool:=
 if 2000<=M.past.length then (M,false)
 else if (M.S.AG M.roots).2.2=true then (Mc.told { M with S:=(M.S.AG M.roots).1,hs:=kg M.hs (M.S.AG M.roots).2.1 },false)
 else (Mc.told { M with S:=M.S.Bg.1 },M.S.Bg.2)
def Mc.done (M:Mc):Bool:=(List.range M.hs.length).all fun t=>decide (((M.p t).length:Int)<=(M.h t).b)
def R6.FJ (S:Al)(r:R6):R6:=⟨S.Bt r.a0.toNat,S.Bt r.a1.toNat,S.Bt r.a2.toNat,S.Bt r.a3.toNat,S.Bt r.a4.toNat,S.Bt r.a5.toNat⟩
def AD.FJ (S:Al)(h:AD):AD:={ h with r:=h.r.FJ S,s:=h.s.FJ S }
def Mc.BO (M:Mc)(t:Int):AD×Bool:=if t<0\/(M.hs.length:Int)<=t then (Cy,false) else ((M.h t.toNat).FJ M.S,true)
structure BZ where
 mb:Nat
 y:A3
 vp:Ac
 vh:Ac
def KD (W:Aa)(o:Own)(tg:Tag)(v:Ac)(l:List Ay):Prop:=l.length<=12/\Row W o tg 73 5 v l.length (jw (l.map Ay.D))
def KB (W:Aa)(o:Own)(tg:Tag)(v:Ac)(bs:List (List Ay)):Prop:=
 bs.length<=6/\∃ vs:List Ac,vs.length=bs.length/\Row W o tg 71 1 v bs.length vs/\∀ (j:Nat)(l:List Ay),bs[j]?=some l->∃ u:Ac,vs[j]?=some u/\KD W o tg u l
def KT (W:Aa)(o:Own)(tg tr:Tag)(v:Ac)(ths:List (List (List Ay))):Prop:=
 ths.length<=8/\∃ vs:List Ac,vs.length=ths.length/\Row W o tr 67 1 v ths.length vs/\∀ (j:Nat)(bs:List (List Ay)),ths[j]?=some bs->∃ u:Ac,vs[j]?=some u/\KB W o tg u bs
section
variable {W W' : Aa} {o o' : Own} {v : Ac} {T : Tag -> Prop} {tg : Tag}
theorem KD.Ao {l:List Ay}(h:KD W o tg v l)(k:Stp T o o' W W')(ht:¬T tg):KD W' o' tg v l:=⟨h.1,h.2.Ao k ht⟩
theorem KB.Ao {bs:List (List Ay)}(h:KB W o tg v bs)(k:Stp T o o' W W')(ht:¬T tg):KB W' o' tg v bs:=by
 obtain⟨h0,vs,h1,h2,h3⟩:=h;exact⟨h0,vs,h1,h2.Ao k ht,fun j l hj=>let⟨u,hu,hd⟩:=h3 j l hj;⟨u,hu,hd.Ao k ht⟩⟩
theorem KT.Ao {tr:Tag}{ths:List (List (List Ay))}(h:KT W o tg tr v ths)(k:Stp T o o' W W')(ht:¬T tg)(htr:¬T tr):KT W' o' tg tr v ths:=by
 obtain⟨h0,vs,h1,h2,h3⟩:=h;exact⟨h0,vs,h1,h2.Ao k htr,fun j l hj=>let⟨u,hu,hd⟩:=h3 j l hj;⟨u,hu,hd.Ao k ht⟩⟩
end
structure Bp (w:Aa)(o:Own)(m:BZ)(M:Mc):Prop where
 AU:∃ ve,Am w m.mb #[ptr m.y.sb,m.vp,m.vh,.int .i32 0,.int .u32 0,ve] 148/\Row w o (m.y.l.id+2,3) 69 6 ve M.past.length (zc M.past)
 st:Ap w o m.y M.S
 ps:KT w o (m.y.l.id+2,1) (m.y.l.id+2,4) m.vp M.ps
 hs:Row w o (m.y.l.id+2,2) 58 15 m.vh M.hs.length (za M.hs)
 om:o m.mb=(m.y.l.id+2,0)
structure Mc.ok (M:Mc):Prop where
 inv:M.S.ok
 len:M.hs.length=M.ps.length
 Aw:M.S.Aw.length=M.ps.length
 n8:M.ps.length<=8
 th:∀ t,t<M.hs.length->E6 (M.p t) M.S t (M.h t)
 dk:∀ p ∈ M.ps,p.length<=6/\∀ ds ∈ p,ds.length<=12/\∀ d ∈ ds,d.ok/\Pg.right d.D=true
 pl:M.past.length<=2000
 lo:M.S.lost=[]
 ca:M.S.came=[]
def kv (m:BZ)(t:Tag):Prop:=t.1=m.y.l.id\/t.1=m.y.l.id+2
def Cx (m:BZ)(M:Mc)(o:Own)(w w':Aa):Prop:=∃ o',Bp w' o' m M/\Stp (kv m) o o' w w'
section
variable {w w' : Aa} {o o' : Own} {m : BZ} {M : Mc}
theorem Bp.Ao {T:Tag->Prop}(h:Bp w o m M)(hs:Stp T o o' w w')(h1:∀ j,¬T (m.y.l.id,j))(h2:∀ j,¬T (m.y.l.id+2,j)):Bp w' o' m M:=by
 obtain⟨ve,hb,hr⟩:=h.AU;exact⟨⟨ve,hb.Ao hs (by rw[h.om];exact h2 _),hr.Ao hs (h2 _)⟩,h.st.Ao hs h1,h.ps.Ao hs (h2 _) (h2 _),h.hs.Ao hs (h2 _),(hs.tags _ hb.lt).trans h.om⟩
theorem Bp.below (h:Bp w o m M)(hb:Ae w.heap.size w w'):Bp w' o m M:=h.Ao (T:=fun _=>False) (Stp.of_below hb) (fun _ h=>h) fun _ h=>h
theorem Bp.lt (h:Bp w o m M):m.mb<w.heap.size:=by obtain⟨_,hb,_⟩:=h.AU;exact hb.lt
theorem Bp.store (h:Bp w o m M){S':Al}(hS:Ap w' o' m.y S')(hs:Stp (qh m.y) o o' w w'):Bp w' o' m { M with S:=S' }:=by
 obtain⟨ve,hb,hr⟩:=h.AU;have hn:∀ j,¬qh m.y (m.y.l.id+2,j):=fun j e=>by unfold qh at e;simp at e
 exact⟨⟨ve,hb.Ao hs (by rw[h.om];exact hn _),hr.Ao hs (hn _)⟩,hS,h.ps.Ao hs (hn _) (hn _),h.hs.Ao hs (hn _),(hs.tags _ hb.lt).trans h.om⟩
theorem m9 {m:BZ}{t:Tag}(h:qh m.y t):kv m t:=.inl h
theorem Mc.Fw {M:Mc}{t:Nat}(h:t<M.hs.length):M.hs[t]?=some (M.h t):=by unfold Mc.h;simp[List.getD,Qb h]
theorem Mc.D2 {M:Mc}{t:Nat}(h:t<M.ps.length):M.ps[t]?=some (M.p t):=by unfold Mc.p;simp[List.getD,Qb h]
end
end
section
open Go.RowKit Hp
attribute [local go_sem ↓] Go.wp_at_zero Go.wp_at_succ
section
variable {w w' : Aa} {o o' : Own} {m : BZ} {M : Mc}
theorem Bp.retag (h:Bp w o m M)(he:∀ b,b<w.heap.size->o' b=o b):Bp w o' m M:=
 h.Ao (T:=fun _=>False) ⟨rfl,rfl,rfl,Qk _,he,fun _ _ _=>rfl⟩ (fun _ h=>h) fun _ h=>h
theorem UW (h:Bp w o m M):Ab Tryz.prog 87 #[Ag (some ⟨m.mb,3,none⟩)] w fun e w'=>e=O (.bool (decide (2000<=M.past.length)))/\Bp w' o m M/\(∀ (b:Nat)(cs:Array Ac)(t:TypeId),b≠m.mb->Am w b cs t->Am w' b cs t)/\w'.heap.size=w.heap.size/\Stp (fun t=>t=(m.y.l.id+2,0)) o o w w':=by
 obtain⟨ve,jb,hr⟩:=h.AU;obtain⟨pa,cp,rfl⟩:=hr.AY;refine (Gv m.mb M.past.length cp pa w (jb.cell 3) (jb.cell 5) (jb.free 3)).mono ?_
 rintro e w' ⟨rfl,rfl⟩
 have e1:o m.mb=(m.y.l.id+2,0):=h.om;have k:Stp (fun t=>t=(m.y.l.id+2,0)) o o w ((w.setCell ⟨m.mb,3,none⟩ (.int .i32 1)).setCell ⟨m.mb,3,none⟩ (.int .i32 0)):=((Stp.refl _ o w).setCell (by show o m.mb=_;exact e1) _).setCell (by show o m.mb=_;exact e1) _
 have j2:=(jb.set 3 (.int .i32 1)).set 3 (.int .i32 0);exact⟨rfl,⟨⟨_,j2,hr.Ao k (by simp)⟩,h.st.Ao k (by simp),h.ps.Ao k (by simp) (by simp),h.hs.Ao k (by simp),h.om⟩,fun b cs t hb j=>(j.An (a:=⟨m.mb,3,none⟩) hb _).An (a:=⟨m.mb,3,none⟩) hb _,by simp,k⟩
theorem Bp.CY (h:Bp w o m M){t:Nat}(ht:t<M.hs.length){g n c:Nat}(hv:m.vh=Ah (some ⟨g,0,none⟩) n c)(z:AD) :
  Bp (Kb w g (t*15) z) o m { M with hs:=M.hs.set t z }/\Stp (fun u=>u=(m.y.l.id+2,2)) o o w (Kb w g (t*15) z):=by
 have hr:=h.hs;have hn:n=M.hs.length:=by
  obtain⟨a,c',e⟩:=hr.AY;rw[hv]at e;injection e
 subst hn;rw[hv]at hr;have k:Stp (fun u=>u=(m.y.l.id+2,2)) o o w (Kb w g (t*15) z):=Rb (Stp.refl _ o w) hr.El z
 obtain⟨ve,jb,hp⟩:=h.AU;refine⟨⟨⟨ve,jb.Ao k (by rw[h.om];simp),hp.Ao k (by simp)⟩,h.st.Ao k (by simp),h.ps.Ao k (by simp) (by simp),?_,(k.tags _ jb.lt).trans h.om⟩,k⟩
 show Row _ o _ _ 15 m.vh (M.hs.set t z).length _;rw[Qq,hv];exact U1 hr ht z
theorem KD.YU {v:Ac}{tg:Tag}{l:List Ay}(h:KD w o tg v l):EW w v l:=by
 obtain⟨h12,hr⟩:=h;obtain⟨a,c,rfl⟩:=hr.AY;refine⟨a,c,rfl,fun k d hd=>?_⟩
 have key:∀ r,r<5->(jw (l.map Ay.D))[k*5+r]?=(jh d.D)[r]?:=fun r hr=>by
  rw[dz,show (k*5+r)/5=k from by omega,show (k*5+r)%5=r from by omega,Qj,hd];rfl
 rcases hr.C1 with ⟨_,h0⟩|⟨g,cap,e,_⟩
 ·have:=key 0 (by omega)
  rw[h0]at this;simp[jh]at this
 ·injection e with e1 _ e3
  subst e1 e3;have f:∀ r u,r<5->(jh d.D)[r]?=some u->w.cell? ⟨g,0+(k*5+r),none⟩=some u:=fun r u hr' hu=>by
   have:=hr.own.cells (g:=g) rfl (k*5+r) u ((key r hr').trans hu);rw[addr_add]at this;rw[Nat.zero_add];exact this
  refine⟨g,0,rfl,?_,?_,?_,?_,?_⟩
  ·exact (congrArg w.cell? (by rw[Nat.add_zero])).trans (f 0 _ (by omega) rfl)
  ·exact f 1 _ (by omega) rfl
  ·exact f 2 _ (by omega) rfl
  ·exact f 3 _ (by omega) rfl
  ·exact f 4 _ (by omega) rfl
theorem KB.Sd {v:Ac}{tg:Tag}{bs:List (List Ay)}(h:KB w o tg v bs):Dc w v bs:=by
 obtain⟨h6,vs,hl,hr,hd⟩:=h;obtain⟨a,c,rfl⟩:=hr.AY;refine⟨a,c,rfl,fun j ds hj=>?_⟩
 obtain⟨u,hu,hk⟩:=hd j ds hj;rcases hr.form with⟨_,h0⟩|⟨g,cap,e,_⟩
 ·have:=(Qc.1 hj).1;omega
 ·injection e with e1 _ e3
  subst e1 e3;exact⟨g,0,rfl,u,by rw[Nat.zero_add];exact hr.cells j _ hu,hk.YU⟩
end
section
variable {w w' : Aa} {o o' : Own} {m : BZ} {M : Mc}
theorem Cx.M3 {tg:Tag}(h:Cx m M (ext o w.heap.size tg) w w'):Cx m M o w w':=by
 obtain⟨o',h1,h2⟩:=h;exact⟨o',h1,h2.os,h2.tape,h2.output,h2.size,fun b hb=>(h2.tags b hb).trans (qj hb),fun b hb hn=>h2.block b hb (by rw[qj hb];exact hn)⟩
def wa (W:Aa)(b:Nat)(a:Bf):Aa:=((W.setCell ⟨b,0,none⟩ (I Z a.k)).setCell ⟨b,1,none⟩ (I Z a.e)).setCell ⟨b,2,none⟩ (I Z a.v)
theorem de {W:Aa}{b:Nat}{t:TypeId}{x y z:Ac}(j:Am W b #[x,y,z] t)(a:Bf):Am (wa W b a) b a.cells t:=((j.set 0 (I Z a.k)).set 1 (I Z a.e)).set 2 (I Z a.v)
theorem Vr {T:Tag->Prop}{W:Aa}{b:Nat}(ht:T (o b))(a:Bf):Stp T o o W (wa W b a):=(((Stp.refl _ o W).setCell (by exact ht) _).setCell (by exact ht) _).setCell (by exact ht) _
theorem SG {W:Aa}{b c:Nat}{cs:Array Ac}{t:TypeId}(j:Am W c cs t)(h:c≠b)(z:AD):Am (CN W b z) c cs t:=(((((((((((((((j.An (a:=⟨b,0,none⟩) h _).An (a:=⟨b,1,none⟩) h _).An (a:=⟨b,2,none⟩) h _).An (a:=⟨b,3,none⟩) h _).An (a:=⟨b,4,none⟩) h _).An (a:=⟨b,5,none⟩) h _).An (a:=⟨b,6,none⟩) h _).An (a:=⟨b,7,none⟩) h _).An (a:=⟨b,8,none⟩) h _).An (a:=⟨b,9,none⟩) h _).An (a:=⟨b,10,none⟩) h _).An (a:=⟨b,11,none⟩) h _).An (a:=⟨b,12,none⟩) h _).An (a:=⟨b,13,none⟩) h _).An (a:=⟨b,14,none⟩) h _)
theorem Rn {W:Aa}{b c:Nat}{cs:Array Ac}{t:TypeId}(j:Am W c cs t)(h:c≠b)(a:Bf):Am (wa W b a) c cs t:=(((j.An (a:=⟨b,0,none⟩) h _).An (a:=⟨b,1,none⟩) h _).An (a:=⟨b,2,none⟩) h _)
theorem Ly {T:Tag->Prop}{W:Aa}(h:Stp T o o' w W){b:Nat}(hb:w.heap.size<=b)(z:AD):Stp T o o' w (CN W b z):=by
 have k2:∀ {W:Aa},Stp T o o' w W->∀ j v,Stp T o o' w (W.setCell ⟨b,j,none⟩ v):=fun h j v=>h.setCell_new (by exact hb) v
 exact k2 (k2 (k2 (k2 (k2 (k2 (k2 (k2 (k2 (k2 (k2 (k2 (k2 (k2 (k2 h _ _) _ _) _ _) _ _) _ _) _ _) _ _) _ _) _ _) _ _) _ _) _ _) _ _) _ _) _ _
theorem JY {T:Tag->Prop}{W:Aa}(h:Stp T o o' w W){b:Nat}(hb:w.heap.size<=b)(a:Bf):Stp T o o' w (wa W b a):=by
 have k2:∀ {W:Aa},Stp T o o' w W->∀ j v,Stp T o o' w (W.setCell ⟨b,j,none⟩ v):=fun h j v=>h.setCell_new (by exact hb) v
 exact k2 (k2 (k2 h _ _) _ _) _ _
theorem GB (W:Aa)(b:Nat)(z:AD):(CN W b z).heap.size=W.heap.size:=by unfold CN;simp only[World.size_setCell]
theorem qnl (W:Aa)(b:Nat)(a:Bf):(wa W b a).heap.size=W.heap.size:=by unfold wa;simp only[World.size_setCell]
structure Af (m:BZ)(N:Mc)(o:Own)(w:Aa)(ca cb:Array Ac)(W:Aa)(o':Own):Prop where
 mi:Bp W o' m N
 ja:Am W w.heap.size ca 54
 jb:Am W (w.heap.size+1) cb 58
 st:Stp (kv m) o o' w W
 oa:o' w.heap.size=(m.y.l.id+1,0)
 ob:o' (w.heap.size+1)=(m.y.l.id+1,0)
section
variable {N : Mc} {ca cb : Array Ac} {W : Aa}
theorem Af.alloc (h:Af m N o w ca cb W o')(c:Array Ac)(t:TypeId):Af m N o w ca cb (W.alloc (.cells c t)) (ext o' W.heap.size (m.y.l.id+1,0))/\Am (W.alloc (.cells c t)) W.heap.size c t/\ext o' W.heap.size (m.y.l.id+1,0) W.heap.size=(m.y.l.id+1,0) /\
  ∀ (b:Nat)(cs:Array Ac)(t2:TypeId),Am W b cs t2->o' b=(m.y.l.id+1,0)->Am (W.alloc (.cells c t)) b cs t2/\ext o' W.heap.size (m.y.l.id+1,0) b=(m.y.l.id+1,0):=by
 refine⟨⟨(h.mi.retag fun b hb=>qj hb).below (qa (qc W) _),h.ja.alloc _,h.jb.alloc _,(h.st.ext _ _ h.st.size).trans (Stp.of_below (qa (qc W) _)),(qj h.ja.lt).trans h.oa,(qj h.jb.lt).trans h.ob⟩,Am.new W c t,qp (Qk _),fun b cs t2 j hj=>⟨j.alloc _,(qj j.lt).trans hj⟩⟩
theorem Af.V1 (h:Af m N o w ca cb W o'){b:Nat}(hb:w.heap.size+2<=b)(ht:o' b=(m.y.l.id+1,0))(z:AD):Af m N o w ca cb (CN W b z) o':=by
 have k:Stp (fun t=>t=(m.y.l.id+1,0)) o' o' W (CN W b z):=Rb (b:=0) (Stp.refl _ o' W) ht z
 exact⟨h.mi.Ao k (fun j h=>by simp at h) (fun j h=>by simp at h),SG h.ja (by omega) z,SG h.jb (by omega) z,Ly h.st (by omega) z,h.oa,h.ob⟩
theorem Af.PI (h:Af m N o w ca cb W o'){b:Nat}(hb:w.heap.size+2<=b)(ht:o' b=(m.y.l.id+1,0))(a:Bf):Af m N o w ca cb (wa W b a) o':=by
 have k:Stp (fun t=>t=(m.y.l.id+1,0)) o' o' W (wa W b a):=Vr (T:=fun t=>t=(m.y.l.id+1,0)) ht a
 exact⟨h.mi.Ao k (fun j h=>by simp at h) (fun j h=>by simp at h),Rn h.ja (by omega) a,Rn h.jb (by omega) a,JY h.st (by omega) a,h.oa,h.ob⟩
theorem Af.RP (h:Af m N o w ca cb W o')(z:AD)(a:Bf):∃ o5,Af m N o w ca cb ((W.alloc (.cells z.cells 58)).alloc (.cells a.cells 54)) o5/\Am ((W.alloc (.cells z.cells 58)).alloc (.cells a.cells 54)) W.heap.size z.cells 58/\Am ((W.alloc (.cells z.cells 58)).alloc (.cells a.cells 54)) (W.heap.size+1) a.cells 54/\o5 W.heap.size=(m.y.l.id+1,0)/\o5 (W.heap.size+1)=(m.y.l.id+1,0):=by
 obtain⟨x1,x2,x3,_⟩:=h.alloc z.cells 58;obtain⟨y1,y2,y3,y4⟩:=x1.alloc a.cells 54;obtain⟨z1,z2⟩:=y4 _ _ _ x2 x3;have e:(W.alloc (.cells z.cells 58)).heap.size=W.heap.size+1:=World.size_alloc _ _;exact⟨_,y1,z1,by rw[<-e];exact y2,z2,by rw[<-e];exact y3⟩
theorem Af.Sz (h:Af m N o w ca cb W o')(z:AD)(a:Bf):∃ o5,Af m N o w ca cb ((W.alloc (.cells a.cells 54)).alloc (.cells z.cells 58)) o5/\Am ((W.alloc (.cells a.cells 54)).alloc (.cells z.cells 58)) (W.heap.size+1) z.cells 58/\Am ((W.alloc (.cells a.cells 54)).alloc (.cells z.cells 58)) W.heap.size a.cells 54/\o5 (W.heap.size+1)=(m.y.l.id+1,0)/\o5 W.heap.size=(m.y.l.id+1,0):=by
 obtain⟨x1,x2,x3,_⟩:=h.alloc a.cells 54;obtain⟨y1,y2,y3,y4⟩:=x1.alloc z.cells 58;obtain⟨z1,z2⟩:=y4 _ _ _ x2 x3;have e:(W.alloc (.cells a.cells 54)).heap.size=W.heap.size+1:=World.size_alloc _ _;exact⟨_,y1,by rw[<-e];exact y2,z1,by rw[<-e];exact y3,z2⟩
theorem Af.SI (h:Af m N o w ca cb W o'){b:Nat}(hb:w.heap.size+2<=b)(ht:o' b=(m.y.l.id+1,0))(j:Am W b Cy.cells 58)(z:AD)(a:Bf):∃ o5,Af m N o w ca cb ((CN W b z).alloc (.cells a.cells 54)) o5/\Am ((CN W b z).alloc (.cells a.cells 54)) b z.cells 58/\Am ((CN W b z).alloc (.cells a.cells 54)) W.heap.size a.cells 54/\o5 b=(m.y.l.id+1,0)/\o5 W.heap.size=(m.y.l.id+1,0):=by
 obtain⟨y1,y2,y3,y4⟩:=(h.V1 hb ht z).alloc a.cells 54;obtain⟨z1,z2⟩:=y4 _ _ _ (me (g:=Cy) j z) ht;have e:=GB W b z;exact⟨_,y1,z1,by rw[<-e];exact y2,z2,by rw[<-e];exact y3⟩
theorem Af.Ru (h:Af m N o w ca cb W o'){b:Nat}(hb:w.heap.size+2<=b)(ht:o' b=(m.y.l.id+1,0))(j:Am W b #[I Z 0,I Z 0,I Z 0] 54)(z:AD)(a:Bf):∃ o5,Af m N o w ca cb ((wa W b a).alloc (.cells z.cells 58)) o5/\Am ((wa W b a).alloc (.cells z.cells 58)) W.heap.size z.cells 58/\Am ((wa W b a).alloc (.cells z.cells 58)) b a.cells 54/\o5 W.heap.size=(m.y.l.id+1,0)/\o5 b=(m.y.l.id+1,0):=by
 obtain⟨y1,y2,y3,y4⟩:=(h.PI hb ht a).alloc z.cells 58;obtain⟨z1,z2⟩:=y4 _ _ _ (de j a) ht;have e:=qnl W b a;exact⟨_,y1,by rw[<-e];exact y2,z1,by rw[<-e];exact y3,z2⟩
theorem Af.PQ (h:Af m N o w ca cb W o'){b c:Nat}(hne:b≠c)(hb:w.heap.size+2<=b)(ht:o' b=(m.y.l.id+1,0))(j:Am W b Cy.cells 58)(hc:w.heap.size+2<=c)(htc:o' c=(m.y.l.id+1,0))(jc:Am W c #[I Z 0,I Z 0,I Z 0] 54)(z:AD)(a:Bf):∃ o5,Af m N o w ca cb (wa (CN W b z) c a) o5/\Am (wa (CN W b z) c a) b z.cells 58/\Am (wa (CN W b z) c a) c a.cells 54/\o5 b=(m.y.l.id+1,0)/\o5 c=(m.y.l.id+1,0):=
 ⟨o',(h.V1 hb ht z).PI hc htc a,Rn (me (g:=Cy) j z) hne a,de (SG jc (fun e=>hne e.symm) z) a,ht,htc⟩
end
theorem Cx.G4 {W:Aa}(h1:Bp W o' m M)(h2:Stp (kv m) o o' w W){b:Nat}(hb:w.heap.size<=b)(ht:o' b=(m.y.l.id+1,0))(a:Bf):Cx m M o w (wa W b a):=by
 have k:Stp (fun t=>t=(m.y.l.id+1,0)) o' o' W (wa W b a):=Vr (T:=fun t=>t=(m.y.l.id+1,0)) ht a
 exact⟨o',h1.Ao k (fun j h=>by simp at h) (fun j h=>by simp at h),((h2.setCell_new (by exact hb) _).setCell_new (by exact hb) _).setCell_new (by exact hb) _⟩
theorem Xp (h:Bp w o m M)(W:Aa)(hb:Ae w.heap.size w W):Cx m M o w W:=⟨o,h.below hb,Stp.of_below hb⟩
def xy (n:Nat):Code->Option Code
 | .region id ops b=>if id=n then some (.region id ops b) else none
 | .seq a b=>match xy n a with
  | some c=>some c
  | none=>xy n b
 | .block _ c=>xy n c
 | .scope c=>xy n c
 | .cond _ a b=>match xy n a with
  | some c=>some c
  | none=>xy n b
 | .loop c=>xy n c
 | _=>none
noncomputable def PM (n:Nat):Code:=((Tryz.f32.body.bind (xy n)).getD .skip)
theorem PW (Q:Exit->Act->Aa->Prop){w2 W3:Aa}{RS:Al}{gp0 gq nh cp0 ch P c T:Nat}{a:Option Addr}{ve2:Ac}{zb zn a0 a1 a2 a3 a4 a5 s0 s1 s2 s3 s4 s5 rb rn b0 b1 b2 b3 b4 b5 d0 d1 d2 d3 d4 d5 ak ae av:Int}{zl rl:Bool}(u2 u3 u6 u7 u8 u9 u10 u11 u12 u13 u14 u15 u16 u17 u18 u19 u20 u21 u22 u23 u24 u25 u26 u27 u28 u29 u30 u31 u32 u33 u34 u35 u36 u37 u38 u39 u40 u41 u42 u43 u44 u45 u46 u47 u48 u49 u50 u51 u52 u53 u54 u55 u56 u57 u58 u59 u60 u61 u62 u63 u64 u65 u66 u67 u68 u69 u70 u71:Ac)
  (HM2:Hid (Bp w2 o m M))(HJA:Hid (Am w2 w.heap.size #[I Z 0,I Z 0,I Z 0] 54))(HSW:Hid (Stp (kv m) o o w w2))(HO:Hid (∀ b,w.heap.size<=b->o b=(m.y.l.id+1,0)))(oA:o w.heap.size=(m.y.l.id+1,0))(HVp:Hid (m.vp=Ah (some ⟨gp0,0,none⟩) M.ps.length cp0))
  (hz2':w2.heap.size=w.heap.size+1)(hb3:Ae w2.heap.size w2 W3)(jx3:Am W3 (w.heap.size+1) #[I Z zb,I Z zn,I Z a0,I Z a1,I Z a2,I Z a3,I Z a4,I Z a5,I Z s0,I Z s1,I Z s2,I Z s3,I Z s4,I Z s5,.bool zl] 58)(jm3:Am W3 m.mb #[ptr m.y.sb,Ah (some ⟨gp0,0,none⟩) nh cp0,Ah (some ⟨gq,0,none⟩) nh ch,.int .i32 0,.int .u32 0,ve2] 148)
  (hc3:W3.cell? ⟨gp0,T,none⟩=some (.slice a P c))(hTI:¬(nh:Int)<=(T:Int))(hTI2:(T:Int)<(nh:Int))
  (HStep:Hid (∀ (W:Aa),Ae w2.heap.size w2 W->Ab Tryz.prog 93 #[ptr m.y.sb,I Z T,.slice a P c,Ak #[I Z zb,I Z zn,I Z a0,I Z a1,I Z a2,I Z a3,I Z a4,I Z a5,I Z s0,I Z s1,I Z s2,I Z s3,I Z s4,I Z s5,.bool zl]] W fun e' w'=>e'=O (Aj #[Ak #[I Z rb,I Z rn,I Z b0,I Z b1,I Z b2,I Z b3,I Z b4,I Z b5,I Z d0,I Z d1,I Z d2,I Z d3,I Z d4,I Z d5,.bool rl],Ak #[I Z ak,I Z ae,I Z av]])/\Left m.y RS o W w'))
  (HX:Hid (∀ (X:Aa)(o5:Own)(C D:Nat)(z33 z34 z35 z36 z37 z38 z39 z40 z41 z42 z43 z44 z45 z46 z47 z48 z49:Ac),Af m { M with S:=RS } o w #[I Z 0,I Z 0,I Z 0] #[I Z zb,I Z zn,I Z a0,I Z a1,I Z a2,I Z a3,I Z a4,I Z a5,I Z s0,I Z s1,I Z s2,I Z s3,I Z s4,I Z s5,.bool zl] X o5->Am X C #[I Z rb,I Z rn,I Z b0,I Z b1,I Z b2,I Z b3,I Z b4,I Z b5,I Z d0,I Z d1,I Z d2,I Z d3,I Z d4,I Z d5,.bool rl] 58->Am X D #[I Z ak,I Z ae,I Z av] 54->o5 C=(m.y.l.id+1,0)->o5 D=(m.y.l.id+1,0)->Q .normal ⟨#[ptr m.mb,I Z (T:Int),u2,u3,ptr w.heap.size,ptr (w.heap.size+1),ptr C,ptr D,u8,u9,u10,u11,u12,u13,u14,u15,u16,u17,u18,u19,u20,u21,u22,u23,u24,u25,u26,u27,u28,u29,u30,u31,u32,z33,z34,z35,z36,z37,z38,z39,z40,z41,z42,z43,z44,z45,z46,z47,z48,z49,u50,u51,u52,u53,u54,u55,u56,u57,u58,u59,u60,u61,u62,u63,u64,u65,u66,u67,u68,u69,u70,u71],[]⟩ X)) :
  Code.wp Tryz.prog (PM 4) Q ⟨#[ptr m.mb,I Z (T:Int),u2,u3,ptr w.heap.size,ptr (w.heap.size+1),u6,u7,u8,u9,u10,u11,u12,u13,u14,u15,u16,u17,u18,u19,u20,u21,u22,u23,u24,u25,u26,u27,u28,u29,u30,u31,u32,u33,u34,u35,u36,u37,u38,u39,u40,u41,u42,u43,u44,u45,u46,u47,u48,u49,u50,u51,u52,u53,u54,u55,u56,u57,u58,u59,u60,u61,u62,u63,u64,u65,u66,u67,u68,u69,u70,u71],[]⟩ W3:=by
 conv=>arg 2;whnf
 have HX4:=Qa (fun (Wp w4:Aa)(o4:Own)(hbp:Ae W3.heap.size W3 Wp)(hS4:Ap w4 o4 m.y RS)(hs4:Stp (qh m.y) o o4 Wp w4) =>
  show Bp w4 o4 m { M with S:=RS }/\Am w4 w.heap.size #[I Z 0,I Z 0,I Z 0] 54/\Am w4 (w.heap.size+1) #[I Z zb,I Z zn,I Z a0,I Z a1,I Z a2,I Z a3,I Z a4,I Z a5,I Z s0,I Z s1,I Z s2,I Z s3,I Z s4,I Z s5,.bool zl] 58/\Stp (kv m) o o4 w w4/\o4 w.heap.size=(m.y.l.id+1,0)/\o4 (w.heap.size+1)=(m.y.l.id+1,0) /\
   W3.heap.size<=w4.heap.size/\w.heap.size+2<=W3.heap.size/\(∀ (b:Nat)(cs:Array Ac)(t:TypeId),W3.heap.size<=b->Am Wp b cs t->Am w4 b cs t/\o4 b=(m.y.l.id+1,0))/\(w4.cell? ⟨m.mb,0,none⟩=some (ptr m.y.sb)/\w4.cell? ⟨m.mb,1,none⟩=some (Ah (some ⟨gp0,0,none⟩) nh cp0)/\w4.cell? ⟨gp0,T,none⟩=some (.slice a P c)) from by
   have n1:¬qh m.y (m.y.l.id+1,0):=fun e=>by unfold qh at e;simp at e
   have hbq:Ae w2.heap.size w2 Wp:=qd hb3 hbp;have hM4:=(HM2.out.below hbq).store hS4 hs4;have oB:=HO.out (w.heap.size+1) (by omega)
   have jAp:=HJA.out.below hbq HJA.out.lt;have jBp:=jx3.below hbp jx3.lt;have lB:=jx3.lt;have sw:Stp (kv m) o o4 w w4:=(HSW.out.trans (Stp.of_below hbq)).trans (hs4.mono fun _ h=>m9 h)
   exact⟨hM4,jAp.Ao hs4 (by rw[oA];exact n1),jBp.Ao hs4 (by rw[oB];exact n1),sw,(hs4.tags _ jAp.lt).trans oA,(hs4.tags _ jBp.lt).trans oB,Qo hbp.size hs4.size,lB,fun b cs t hb j=>by
    have ob:=HO.out b (by omega)
    exact⟨j.Ao hs4 (by rw[ob];exact n1),(hs4.tags _ j.lt).trans ob⟩,by
    have jm4:=(jm3.below hbp jm3.lt).Ao hs4 (by rw[HM2.out.om];intro e;unfold qh at e;simp at e)
    have og:o gp0=(m.y.l.id+2,4):=by
     obtain⟨_,vs,_,hr,_⟩:=HM2.out.ps;rw[HVp.out]at hr;exact hr.El
    have hcp':=cell_below hc3 hbp;refine⟨jm4.cell 0,jm4.cell 1,?_⟩;have hb:=hs4.block gp0 (QV hcp') (by rw[og];intro e;unfold qh at e;simp at e)
    rw[World.cell?_of_block (w:=Wp) hb];exact hcp'⟩)
 have lm:=jm3.lt;have lx:=jx3.lt;have lgp:=QV hc3;have nm:W3.heap.size≠m.mb:=by omega
 have nx:W3.heap.size≠w.heap.size+1:=by omega
 have ng:W3.heap.size≠gp0:=by omega
 have nm':W3.heap.size+1≠m.mb:=by omega
 have nx':W3.heap.size≠w.heap.size:=by omega
 have ng':W3.heap.size+1≠gp0:=by omega
 have xb:=jx3.cell;have m0:=jm3.cell 0;have m1:=jm3.cell 1;simp at m0 m1;have x0:=xb 0;have x1:=xb 1;have x2:=xb 2;have x3:=xb 3;have x4:=xb 4;have x5:=xb 5;have x6:=xb 6;have x7:=xb 7;have x8:=xb 8;have x9:=xb 9;have x10:=xb 10;have x11:=xb 11;have x12:=xb 12;have x13:=xb 13;have x14:=xb 14;simp at x0 x1 x2 x3 x4 x5 x6 x7 x8 x9 x10 x11 x12 x13 x14;clear xb;go_region_held3 (fun w'=>w'.cell? ⟨m.mb,0,none⟩=some (ptr m.y.sb)/\w'.cell? ⟨m.mb,1,none⟩=some (Ah (some ⟨gp0,0,none⟩) nh cp0)/\w'.cell? ⟨gp0,T,none⟩=some (.slice a P c)/\w'.cell? ⟨w.heap.size+1,0,none⟩=some (I Z zb)/\w'.cell? ⟨w.heap.size+1,1,none⟩=some (I Z zn)/\w'.cell? ⟨w.heap.size+1,2,none⟩=some (I Z a0)/\w'.cell? ⟨w.heap.size+1,3,none⟩=some (I Z a1)/\w'.cell? ⟨w.heap.size+1,4,none⟩=some (I Z a2)/\w'.cell? ⟨w.heap.size+1,5,none⟩=some (I Z a3)/\w'.cell? ⟨w.heap.size+1,6,none⟩=some (I Z a4)/\w'.cell? ⟨w.heap.size+1,7,none⟩=some (I Z a5)/\w'.cell? ⟨w.heap.size+1,8,none⟩=some (I Z s0)/\w'.cell? ⟨w.heap.size+1,9,none⟩=some (I Z s1)/\w'.cell? ⟨w.heap.size+1,10,none⟩=some (I Z s2)/\w'.cell? ⟨w.heap.size+1,11,none⟩=some (I Z s3)/\w'.cell? ⟨w.heap.size+1,12,none⟩=some (I Z s4)/\w'.cell? ⟨w.heap.size+1,13,none⟩=some (I Z s5)/\w'.cell? ⟨w.heap.size+1,14,none⟩=some (.bool zl)) (go_keep) (first
  | (go_at_call 93;first
   | (refine (HStep.out _ (qe hb3)).mono ?_;rintro e w4 ⟨rfl,o4,hS4,hI4,hs4⟩;obtain⟨hM4,jA4,jB4,sw4,oA4,oB4,lz4,lz3,hp4,y0,y1,y2⟩:=HX4.out _ w4 o4 (qe (qc W3)) hS4 hs4;have xb:=jB4.cell;have x0:=xb 0;have x1:=xb 1;have x2:=xb 2;have x3:=xb 3;have x4:=xb 4;have x5:=xb 5;have x6:=xb 6;have x7:=xb 7;have x8:=xb 8;have x9:=xb 9;have x10:=xb 10;have x11:=xb 11;have x12:=xb 12;have x13:=xb 13;have x14:=xb 14;simp at x0 x1 x2 x3 x4 x5 x6 x7 x8 x9 x10 x11 x12 x13 x14;clear xb;have nm4:w4.heap.size≠m.mb:=(by omega);have nx4:w4.heap.size≠w.heap.size+1:=(by omega);have ng4:w4.heap.size≠gp0:=(by omega);have nm5:w4.heap.size+1≠m.mb:=(by omega);have nx5:w4.heap.size≠w.heap.size:=(by omega);have ng5:w4.heap.size+1≠gp0:=(by omega))
   | (refine (HStep.out _ (qa (qe hb3) _)).mono ?_;rintro e w4 ⟨rfl,o4,hS4,hI4,hs4⟩;obtain⟨hM4,jA4,jB4,sw4,oA4,oB4,lz4,lz3,hp4,y0,y1,y2⟩:=HX4.out _ w4 o4 (qa (qe (qc W3)) _) hS4 hs4;have xb:=jB4.cell;have x0:=xb 0;have x1:=xb 1;have x2:=xb 2;have x3:=xb 3;have x4:=xb 4;have x5:=xb 5;have x6:=xb 6;have x7:=xb 7;have x8:=xb 8;have x9:=xb 9;have x10:=xb 10;have x11:=xb 11;have x12:=xb 12;have x13:=xb 13;have x14:=xb 14;simp at x0 x1 x2 x3 x4 x5 x6 x7 x8 x9 x10 x11 x12 x13 x14;clear xb;have nm4:w4.heap.size≠m.mb:=(by omega);have nx4:w4.heap.size≠w.heap.size+1:=(by omega);have ng4:w4.heap.size≠gp0:=(by omega);have nm5:w4.heap.size+1≠m.mb:=(by omega);have nx5:w4.heap.size≠w.heap.size:=(by omega);have ng5:w4.heap.size+1≠gp0:=(by omega);obtain⟨jp,op⟩:=hp4 W3.heap.size _ _ (Qk _) (Am.new W3.drew _ _);have cp:=jp.cell;have zp:=jp.free;have lp:=jp.lt)
   | (refine (HStep.out _ (qa (qa (qe hb3) _) _)).mono ?_;rintro e w4 ⟨rfl,o4,hS4,hI4,hs4⟩;obtain⟨hM4,jA4,jB4,sw4,oA4,oB4,lz4,lz3,hp4,y0,y1,y2⟩:=HX4.out _ w4 o4 (qa (qa (qe (qc W3)) _) _) hS4 hs4;have xb:=jB4.cell;have x0:=xb 0;have x1:=xb 1;have x2:=xb 2;have x3:=xb 3;have x4:=xb 4;have x5:=xb 5;have x6:=xb 6;have x7:=xb 7;have x8:=xb 8;have x9:=xb 9;have x10:=xb 10;have x11:=xb 11;have x12:=xb 12;have x13:=xb 13;have x14:=xb 14;simp at x0 x1 x2 x3 x4 x5 x6 x7 x8 x9 x10 x11 x12 x13 x14;clear xb;have nm4:w4.heap.size≠m.mb:=(by omega);have nx4:w4.heap.size≠w.heap.size+1:=(by omega);have ng4:w4.heap.size≠gp0:=(by omega);have nm5:w4.heap.size+1≠m.mb:=(by omega);have nx5:w4.heap.size≠w.heap.size:=(by omega);have ng5:w4.heap.size+1≠gp0:=(by omega);obtain⟨jp,op⟩:=hp4 W3.heap.size _ _ (Qk _) ((Am.new W3.drew _ _).alloc _);obtain⟨jq,oq⟩:=hp4 (W3.heap.size+1) _ _ (Nat.le_succ _) (Am.Aq (W3.drew.alloc _) _ _ _ (W3.heap.size+1) (by simp) rfl);have cp:=jp.cell;have zp:=jp.free;have lp:=jp.lt;have cq:=jq.cell;have zq:=jq.free;have lq:=jq.lt))
  | fail)
 all_goals
  have hA4:Af m { M with S:=RS } o w #[I Z 0,I Z 0,I Z 0] #[I Z zb,I Z zn,I Z a0,I Z a1,I Z a2,I Z a3,I Z a4,I Z a5,I Z s0,I Z s1,I Z s2,I Z s3,I Z s4,I Z s5,.bool zl] w4 o4:=⟨hM4,jA4,jB4,sw4,oA4,oB4⟩;clear hM4 jA4 jB4 sw4 oA4 oB4 x0 x1 x2 x3 x4 x5 x6 x7 x8 x9 x10 x11 x12 x13 x14;first
   | (obtain⟨W5,hW5⟩:∃ W5:Aa,W5=(w4.alloc (.cells #[I Z rb,I Z rn,I Z b0,I Z b1,I Z b2,I Z b3,I Z b4,I Z b5,I Z d0,I Z d1,I Z d2,I Z d3,I Z d4,I Z d5,.bool rl] 58)).alloc (.cells #[I Z ak,I Z ae,I Z av] 54):=⟨_,rfl⟩;have HH:∃ o5,Af m { M with S:=RS } o w #[I Z 0,I Z 0,I Z 0] #[I Z zb,I Z zn,I Z a0,I Z a1,I Z a2,I Z a3,I Z a4,I Z a5,I Z s0,I Z s1,I Z s2,I Z s3,I Z s4,I Z s5,.bool zl] W5 o5/\Am W5 w4.heap.size #[I Z rb,I Z rn,I Z b0,I Z b1,I Z b2,I Z b3,I Z b4,I Z b5,I Z d0,I Z d1,I Z d2,I Z d3,I Z d4,I Z d5,.bool rl] 58/\Am W5 (w4.heap.size+1) #[I Z ak,I Z ae,I Z av] 54/\o5 w4.heap.size=(m.y.l.id+1,0)/\o5 (w4.heap.size+1)=(m.y.l.id+1,0):=(by rw[hW5];exact hA4.RP ⟨rb,rn,⟨b0,b1,b2,b3,b4,b5⟩,⟨d0,d1,d2,d3,d4,d5⟩,rl⟩ ⟨ak,ae,av⟩);(try unfold CN at hW5);(try unfold wa at hW5);(try simp only at hW5);rw[<-hW5];clear hW5;obtain⟨o5,hA5,jC,jD,oC,oD⟩:=HH)
   | (obtain⟨W5,hW5⟩:∃ W5:Aa,W5=(w4.alloc (.cells #[I Z ak,I Z ae,I Z av] 54)).alloc (.cells #[I Z rb,I Z rn,I Z b0,I Z b1,I Z b2,I Z b3,I Z b4,I Z b5,I Z d0,I Z d1,I Z d2,I Z d3,I Z d4,I Z d5,.bool rl] 58):=⟨_,rfl⟩;have HH:∃ o5,Af m { M with S:=RS } o w #[I Z 0,I Z 0,I Z 0] #[I Z zb,I Z zn,I Z a0,I Z a1,I Z a2,I Z a3,I Z a4,I Z a5,I Z s0,I Z s1,I Z s2,I Z s3,I Z s4,I Z s5,.bool zl] W5 o5/\Am W5 (w4.heap.size+1) #[I Z rb,I Z rn,I Z b0,I Z b1,I Z b2,I Z b3,I Z b4,I Z b5,I Z d0,I Z d1,I Z d2,I Z d3,I Z d4,I Z d5,.bool rl] 58/\Am W5 w4.heap.size #[I Z ak,I Z ae,I Z av] 54/\o5 (w4.heap.size+1)=(m.y.l.id+1,0)/\o5 w4.heap.size=(m.y.l.id+1,0):=(by rw[hW5];exact hA4.Sz ⟨rb,rn,⟨b0,b1,b2,b3,b4,b5⟩,⟨d0,d1,d2,d3,d4,d5⟩,rl⟩ ⟨ak,ae,av⟩);(try unfold CN at hW5);(try unfold wa at hW5);(try simp only at hW5);rw[<-hW5];clear hW5;obtain⟨o5,hA5,jC,jD,oC,oD⟩:=HH)
   | (obtain⟨W5,hW5⟩:∃ W5:Aa,W5=(CN w4 W3.heap.size ⟨rb,rn,⟨b0,b1,b2,b3,b4,b5⟩,⟨d0,d1,d2,d3,d4,d5⟩,rl⟩).alloc (.cells #[I Z ak,I Z ae,I Z av] 54):=⟨_,rfl⟩;have HH:∃ o5,Af m { M with S:=RS } o w #[I Z 0,I Z 0,I Z 0] #[I Z zb,I Z zn,I Z a0,I Z a1,I Z a2,I Z a3,I Z a4,I Z a5,I Z s0,I Z s1,I Z s2,I Z s3,I Z s4,I Z s5,.bool zl] W5 o5/\Am W5 W3.heap.size #[I Z rb,I Z rn,I Z b0,I Z b1,I Z b2,I Z b3,I Z b4,I Z b5,I Z d0,I Z d1,I Z d2,I Z d3,I Z d4,I Z d5,.bool rl] 58/\Am W5 w4.heap.size #[I Z ak,I Z ae,I Z av] 54/\o5 W3.heap.size=(m.y.l.id+1,0)/\o5 w4.heap.size=(m.y.l.id+1,0):=(by rw[hW5];exact hA4.SI lz3 op jp ⟨rb,rn,⟨b0,b1,b2,b3,b4,b5⟩,⟨d0,d1,d2,d3,d4,d5⟩,rl⟩ ⟨ak,ae,av⟩);(try unfold CN at hW5);(try unfold wa at hW5);(try simp only at hW5);rw[<-hW5];clear hW5;obtain⟨o5,hA5,jC,jD,oC,oD⟩:=HH)
   | (obtain⟨W5,hW5⟩:∃ W5:Aa,W5=(wa w4 W3.heap.size ⟨ak,ae,av⟩).alloc (.cells #[I Z rb,I Z rn,I Z b0,I Z b1,I Z b2,I Z b3,I Z b4,I Z b5,I Z d0,I Z d1,I Z d2,I Z d3,I Z d4,I Z d5,.bool rl] 58):=⟨_,rfl⟩;have HH:∃ o5,Af m { M with S:=RS } o w #[I Z 0,I Z 0,I Z 0] #[I Z zb,I Z zn,I Z a0,I Z a1,I Z a2,I Z a3,I Z a4,I Z a5,I Z s0,I Z s1,I Z s2,I Z s3,I Z s4,I Z s5,.bool zl] W5 o5/\Am W5 w4.heap.size #[I Z rb,I Z rn,I Z b0,I Z b1,I Z b2,I Z b3,I Z b4,I Z b5,I Z d0,I Z d1,I Z d2,I Z d3,I Z d4,I Z d5,.bool rl] 58/\Am W5 W3.heap.size #[I Z ak,I Z ae,I Z av] 54/\o5 w4.heap.size=(m.y.l.id+1,0)/\o5 W3.heap.size=(m.y.l.id+1,0):=(by rw[hW5];exact hA4.Ru lz3 op jp ⟨rb,rn,⟨b0,b1,b2,b3,b4,b5⟩,⟨d0,d1,d2,d3,d4,d5⟩,rl⟩ ⟨ak,ae,av⟩);(try unfold CN at hW5);(try unfold wa at hW5);(try simp only at hW5);rw[<-hW5];clear hW5;obtain⟨o5,hA5,jC,jD,oC,oD⟩:=HH)
   | (obtain⟨W5,hW5⟩:∃ W5:Aa,W5=wa (CN w4 W3.heap.size ⟨rb,rn,⟨b0,b1,b2,b3,b4,b5⟩,⟨d0,d1,d2,d3,d4,d5⟩,rl⟩) (W3.heap.size+1) ⟨ak,ae,av⟩:=⟨_,rfl⟩;have HH:∃ o5,Af m { M with S:=RS } o w #[I Z 0,I Z 0,I Z 0] #[I Z zb,I Z zn,I Z a0,I Z a1,I Z a2,I Z a3,I Z a4,I Z a5,I Z s0,I Z s1,I Z s2,I Z s3,I Z s4,I Z s5,.bool zl] W5 o5/\Am W5 W3.heap.size #[I Z rb,I Z rn,I Z b0,I Z b1,I Z b2,I Z b3,I Z b4,I Z b5,I Z d0,I Z d1,I Z d2,I Z d3,I Z d4,I Z d5,.bool rl] 58/\Am W5 (W3.heap.size+1) #[I Z ak,I Z ae,I Z av] 54/\o5 W3.heap.size=(m.y.l.id+1,0)/\o5 (W3.heap.size+1)=(m.y.l.id+1,0):=(by rw[hW5];exact hA4.PQ (by omega) lz3 op jp (by omega) oq jq ⟨rb,rn,⟨b0,b1,b2,b3,b4,b5⟩,⟨d0,d1,d2,d3,d4,d5⟩,rl⟩ ⟨ak,ae,av⟩);(try unfold CN at hW5);(try unfold wa at hW5);(try simp only at hW5);rw[<-hW5];clear hW5;obtain⟨o5,hA5,jC,jD,oC,oD⟩:=HH)
   | (obtain⟨W5,hW5⟩:∃ W5:Aa,W5=wa (CN w4 (W3.heap.size+1) ⟨rb,rn,⟨b0,b1,b2,b3,b4,b5⟩,⟨d0,d1,d2,d3,d4,d5⟩,rl⟩) W3.heap.size ⟨ak,ae,av⟩:=⟨_,rfl⟩;have HH:∃ o5,Af m { M with S:=RS } o w #[I Z 0,I Z 0,I Z 0] #[I Z zb,I Z zn,I Z a0,I Z a1,I Z a2,I Z a3,I Z a4,I Z a5,I Z s0,I Z s1,I Z s2,I Z s3,I Z s4,I Z s5,.bool zl] W5 o5/\Am W5 (W3.heap.size+1) #[I Z rb,I Z rn,I Z b0,I Z b1,I Z b2,I Z b3,I Z b4,I Z b5,I Z d0,I Z d1,I Z d2,I Z d3,I Z d4,I Z d5,.bool rl] 58/\Am W5 W3.heap.size #[I Z ak,I Z ae,I Z av] 54/\o5 (W3.heap.size+1)=(m.y.l.id+1,0)/\o5 W3.heap.size=(m.y.l.id+1,0):=(by rw[hW5];exact hA4.PQ (by omega) (by omega) oq jq lz3 op jp ⟨rb,rn,⟨b0,b1,b2,b3,b4,b5⟩,⟨d0,d1,d2,d3,d4,d5⟩,rl⟩ ⟨ak,ae,av⟩);(try unfold CN at hW5);(try unfold wa at hW5);(try simp only at hW5);rw[<-hW5];clear hW5;obtain⟨o5,hA5,jC,jD,oC,oD⟩:=HH)
  exact HX.out _ _ _ _ _ _ _ _ _ _ _ _ _ _ _ _ _ _ _ _ _ hA5 jC jD oC oD
end
theorem Fq.places {r:R6}(h:Fq r):r.places.map nv=[I Z r.a0,I Z r.a1,I Z r.a2,I Z r.a3,I Z r.a4,I Z r.a5]:=by
 have f:∀ j,j<6->((r.get j).toNat:Int)=r.get j:=fun j hj=>by obtain⟨p,hp⟩:=h j hj;rw[hp];simp
 have h0:=f 0 (by omega)
 have h1:=f 1 (by omega)
 have h2:=f 2 (by omega)
 have h3:=f 3 (by omega)
 have h4:=f 4 (by omega)
 have h5:=f 5 (by omega)
 simp only[R6.get]at h0 h1 h2 h3 h4 h5;simp only[R6.places,List.map_cons,List.map_nil,nv,h0,h1,h2,h3,h4,h5]
theorem WG {w w':Aa}{b:Nat}{cs:List Ac}{e:TypeId}(h:Am w' b cs.toArray e)(hb:w.heap.size<=b)(hl:cs.length<=maxLen):Row w' (fo w.heap.size) (1,0) e 1 (Ah (some ⟨b,0,none⟩) cs.length cs.length) cs.length cs:=by
 refine⟨⟨by simp,.inr ⟨b,cs.length,cs.toArray,rfl,Nat.zero_le _,h,Qk _,hl,by simp,by simp⟩⟩,fun k hk=>?_⟩
 have:b=k:=by simpa [Value.ownBlock] using hk
 subst this;exact G1 hb
theorem qks {h:AD}(hr:Fq h.r)(hs:Fq h.s)(w:Aa):Ab Tryz.prog 150 #[h.v] w fun e w'=>∃ b,e=O (Ah (some ⟨b,0,none⟩) 12 12) /\
  Row w' (fo w.heap.size) (1,0) 3 1 (Ah (some ⟨b,0,none⟩) 12 12) 12 (h.roots.map nv)/\Ae w.heap.size w w':=by
 refine (Tk h w).mono ?_
 rintro e w' ⟨rfl,hb,hbl⟩
 refine⟨_,rfl,?_,hbl⟩;have e1:h.roots.map nv=[I Z h.r.a0,I Z h.r.a1,I Z h.r.a2,I Z h.r.a3,I Z h.r.a4,I Z h.r.a5,I Z h.s.a0,I Z h.s.a1,I Z h.s.a2,I Z h.s.a3,I Z h.s.a4,I Z h.s.a5]:=by
  unfold AD.roots;rw[Qw,hr.places,hs.places];rfl
 rw[e1];exact WG (cs:=[I Z h.r.a0,I Z h.r.a1,I Z h.r.a2,I Z h.r.a3,I Z h.r.a4,I Z h.r.a5,I Z h.s.a0,I Z h.s.a1,I Z h.s.a2,I Z h.s.a3,I Z h.s.a4,I Z h.s.a5]) hb (by omega) (by simp[maxLen])
theorem WT (h:AD):h.roots.length=12:=rfl
theorem XA {l:List AD}{k:Nat}{h:AD}(hx:l[k]?=some h):(l.take (k+1)).flatMap AD.roots=(l.take k).flatMap AD.roots++h.roots:=by
 rw[List.take_add_one,hx,List.flatMap_append];simp
theorem sa (l:List AD):(l.flatMap AD.roots).length=l.length*12:=by
 induction l with
 | nil=>rfl
 | cons h l ih=>rw[List.flatMap_cons,Qd,ih,Qv,WT];omega
section
variable {w w' : Aa} {o o' : Own} {m : BZ} {M : Mc}
theorem Mc.ok.rg (hk:M.ok){t:Nat}{h:AD}(ht:M.hs[t]?=some h):Fq h.r/\Fq h.s:=by
 have hlt:=(Qc.1 ht).1;have:=(hk.th t hlt).th;rw[Mc.Fw hlt]at ht;injection ht with ht;rw[ht]at this;exact⟨this.r,this.s⟩
theorem T6 (h:Bp w o m M)(hk:M.ok) :
  Ab Tryz.prog 88 #[ptr m.mb] w fun e w'=>∃ v',e=O v'/\Row w' (fo w.heap.size) (1,0) 3 1 v' M.roots.length (M.roots.map nv)/\Ae w.heap.size w w':=by
 obtain⟨iI,hi,hsI,hyI,hzI⟩:=zi;have hu64:=Tryz.underlying25;obtain⟨ve,jb,_⟩:=h.AU;have hn8:M.hs.length<=8:=by rw[hk.len];exact hk.n8
 have hhs:=h.hs;obtain⟨ph,ch,hvh⟩:=hhs.AY;rw[hvh]at hhs jb;have HHS:=Qa hhs;have HRG:=Qa (fun (t:Nat)(z:AD)(ht:M.hs[t]?=some z)=>hk.rg ht)
 unfold Mc.roots;obtain⟨hs,hhe⟩:∃ hs,hs=M.hs:=⟨_,rfl⟩;rw[<-hhe]at HHS HRG hn8 jb ⊢;have c:=jb.cell;clear h hk hhs hvh hhe;go_enter Tryz.func88,Tryz.ntmps88;go_wp2_with fail;clear c jb;go_loopw [3,11] (fun vv ix wr=>∃ k:Nat,ix=I Z k/\k<=hs.length/\Row wr (fo w.heap.size) (1,0) 3 1 vv (k*12) (((hs.take k).flatMap AD.roots).map nv)/\Ae w.heap.size w wr) (fun _ ix _=>hs.length-(intOf ix).toNat)
 case atStart=>exact⟨0,rfl,Nat.zero_le _,Row.nil _ _ _ _ _,qc w⟩
 case round =>
  obtain⟨k,rfl,hkn,hr,hb⟩:=hrel;obtain⟨pp,cc,rfl⟩:=hr.AY;by_cases hlt:k<hs.length
  ·have hkI:(k:Int)<(hs.length:Int):=by omega
   obtain⟨z,hz⟩:∃ z,hs[k]?=some z:=⟨_,Qb hlt⟩;obtain⟨gq,rfl,hcap,q⟩:=(HHS.out.below hb).E9 hz;obtain⟨q0,q1,q2,q3,q4,q5,q6,q7,q8,q9,q10,q11,q12,q13,q14⟩:=q;obtain⟨hw1,hw2⟩:=qw k (by omega)
   have hk1:Hid (k*12+12<=maxLen/\(k*12+12)*8<=140737488355328):=by show _/\_;simp only[maxLen];omega
   have HTK:=Qa (XA hz);have HG:=Qa (HRG.out k z hz);have HR:=Qa hr;have HTR:=Qa (fun w=>qks HG.out.1 HG.out.2 w)
   obtain⟨zb,zn,⟨a0,a1,a2,a3,a4,a5⟩,⟨s0,s1,s2,s3,s4,s5⟩,zl⟩:=z;simp only at q0 q1 q2 q3 q4 q5 q6 q7 q8 q9 q10 q11 q12 q13 q14;unfold AD.v AD.cells at HTR;simp only at HTR;clear hr hz;go_wp2_with (first
    | (go_at_call 150;refine (HTR.out _).mono ?_;rintro e w3⟨b3,rfl,hr3,hb3⟩)
    | (at_builtin;refine zk _ rfl _ _ _ rfl 3 iI _ 1 8 hu64 hi hzI hsI hyI rfl (by decide) (fo w.heap.size) (1,0) _ _ _ rfl (Row.below (Row.below HR.out (qa (qc _) _)) hb3) _ _ _ _ _ rfl hr3 (bz _) hk1.out.1 hk1.out.2 ?_;intro v' w8 hown hst)
    | fail)
   have hb8:=qd (qa hb _) hb3;have hr9:=xz hb8 hown;have hb9:=wz hb8 hst;go_roundw
   case rel=>exact⟨k+1,by simp,by omega,by rw[HTK.out,Qw,Nat.succ_mul];exact hr9,hb9⟩
   case measure=>simp[intOf];omega
  ·obtain rfl:k=hs.length:=by omega
   rw[List.take_length]at hr;go_wp2_with fail;go_ret;exact⟨_,rfl,hr.ite (sa _).symm rfl,hb⟩
end
def pk (c:Int)(n:Nat):Nat:=(if c<0 then (-(c+1)).toNat else c.toNat)%n
section
variable {w w' : Aa} {o o' : Own} {m : BZ} {M : Mc}
open Go.MuLone in
theorem tw (h:Bp w o m M)(hk:M.past.length<=2000) :
  Ab Tryz.prog 36 #[ptr m.mb] w fun e w'=>∃ v',e=O v'/\Row w' (fo w.heap.size) (1,0) 69 6 v' M.past.length (zc M.past)/\Bp w' o m M/\Stp (fun t=>t=(m.y.l.id+2,0)) o o w w':=by
 obtain⟨ve,jb,hr⟩:=h.AU;have e1:o m.mb=(m.y.l.id+2,0):=h.om;have HA:=Qa (L0 m.mb M.past ve w o (m.y.l.id+2,3) (jb.cell 3) (jb.cell 5) (jb.free 3) jb.lt hr hk (by rw[e1];simp))
 have HF:=Qa (fun (w1:Aa)(hb:Ae w.heap.size (w.setCell ⟨m.mb,3,none⟩ (.int .i32 1)) w1)=>show Bp (w1.setCell ⟨m.mb,3,none⟩ (.int .i32 0)) o m M/\Stp (fun t=>t=(m.y.l.id+2,0)) o o w (w1.setCell ⟨m.mb,3,none⟩ (.int .i32 0)) from by
  have k1:Stp (fun t=>t=(m.y.l.id+2,0)) o o w (w.setCell ⟨m.mb,3,none⟩ (.int .i32 1)):=(Stp.refl _ o w).setCell (by show o m.mb=_;exact e1) _
  have hb':Ae (w.setCell ⟨m.mb,3,none⟩ (.int .i32 1)).heap.size (w.setCell ⟨m.mb,3,none⟩ (.int .i32 1)) w1:=by rw[World.size_setCell];exact hb
  have k2:=k1.trans (Stp.of_below hb');have k3:Stp (fun t=>t=(m.y.l.id+2,0)) o o w (w1.setCell ⟨m.mb,3,none⟩ (.int .i32 0)):=k2.setCell (by show o m.mb=_;exact e1) _
  have j3:=((jb.set 3 (.int .i32 1)).below hb' (jb.set 3 (.int .i32 1)).lt).set 3 (.int .i32 0);exact⟨⟨⟨_,j3,hr.Ao k3 (by simp)⟩,h.st.Ao k3 (by simp),h.ps.Ao k3 (by simp) (by simp),h.hs.Ao k3 (by simp),h.om⟩,k3⟩)
 have cb:=jb.cell;have HRw:=Qa (fun (w1:Aa)(v:Ac)(hb:Ae w.heap.size (w.setCell ⟨m.mb,3,none⟩ (.int .i32 1)) w1)(hr1:Row w1 (fo w.heap.size) (1,0) 69 6 v M.past.length (zc M.past))=>show Row (w1.setCell ⟨m.mb,3,none⟩ (.int .i32 0)) (fo w.heap.size) (1,0) 69 6 v M.past.length (zc M.past) from
  hr1.Ao (T:=fun t=>t=(0,0)) ((Stp.refl _ (fo w.heap.size) w1).setCell (by show fo w.heap.size m.mb=(0,0);exact Fz jb.lt) _) (by simp))
 clear h jb hr;go_enter Tryz.func36,Tryz.ntmps36;go_wp2_with fail;refine HA.out.mono ?_
 rintro e w2 ⟨v',w1,rfl,hr1,hb1,rfl⟩
 obtain⟨hM,hs⟩:=HF.out w1 hb1;have hr2:=HRw.out w1 v' hb1 hr1;generalize w1.setCell ⟨m.mb,3,none⟩ (.int .i32 0)=X at *;go_wp2_with fail;go_ret;exact⟨_,rfl,hr2,hM,hs⟩
end
end
section
open Hp
section
variable {S : Al} {i : Nat} {M : Mc}
theorem QO {d:Ay}(hd:d.ok)(h:d.k=1\/d.k=2)(f:Bool):(⟨d.i.toNat,d.n.toNat,false,f⟩:B3).ok:=by
 have hs:=hd.s h;exact⟨by simp only;omega,by simp only;omega,fun h=>by simp at h⟩
theorem Jj (hk:S.ok)(hi:i<S.Aw.length)(h:AD){d:Ay}(hd:d.ok):(S.A6 i h d).S.ok:=by
 have hkd:=hd.k;by_cases k1:d.k=1
 ·rw[gv _ _ _ _ k1];exact (Good.Cv hk hi (y8 hk hi (QO hd (.inl k1) _))).1
 by_cases k2:d.k=2
 ·rw[dc _ _ _ _ k2];exact (Good.Cv hk hi (y8 hk hi (QO hd (.inr k2) _))).1
 by_cases k3:d.k=3
 ·rw[fx _ _ _ _ k3];exact (Good.Cv hk hi (nk hk hi _)).1
 by_cases k4:d.k=4
 ·rw[gw _ _ _ _ k4];exact (Good.Cv hk hi (RU hk hi _ _)).1
 by_cases k9:d.k=9
 ·rw[gx _ _ _ _ k9];exact (Good.Cv hk hi (br hk hi _)).1
 by_cases k10:d.k=10
 ·rw[px _ _ _ _ k10];exact (Good.Cv hk hi (mj hk hi)).1
 by_cases k5:d.k=5
 ·rw[dd _ _ _ _ k5];exact (Good.Cv hk hi (lz hk hi _ _ _)).1
 by_cases k6:d.k=6
 ·rw[fz _ _ _ _ k6];exact (Good.Cv hk hi (bq hk hi _ _)).1
 by_cases k7:d.k=7
 ·rw[ff _ _ _ _ k7];exact (Good.Cv hk hi (fm hk hi _ _ hd.n)).1
 by_cases k8:d.k=8
 ·rw[fw _ _ _ _ k8];exact (Good.Cv hk hi (nc hk hi _)).1
 by_cases k11:d.k=11
 ·rw[pi _ _ _ _ k11];exact hk
 by_cases k12:d.k=12
 ·rw[ux _ _ _ _ k12];exact hk
 by_cases k13:d.k=13
 ·rw[pd _ _ _ _ k13];exact hk
 ·rw[py _ _ _ _ (by omega)];exact Al.Dx hk hi
theorem GA {l:List (List Ay)}{h:AD}(hk:S.ok)(hi:i<S.Aw.length)(hd:∀ ds ∈ l,∀ d ∈ ds,d.ok):(S.Bn i l h).S.ok:=by
 unfold Al.Bn;split
 ·exact hk
 ·split
  ·unfold Al.CK
   split<;>exact RX hk hi
  ·split
   ·unfold Al.Cq
    split<;>exact (VR hk hi).1
   ·rename_i h1 _ _ d hdm
    by_cases hlt:h.b.toNat<l.length
    ·have e0:l.getD h.b.toNat []=l[h.b.toNat]:=by rw[Qi,Qb hlt];rfl
     rw[e0]at hdm;exact Jj hk hi h (hd _ (List.getElem_mem hlt) d (Qe hdm))
    ·have e0:l.getD h.b.toNat []=[]:=by rw[Qi,Qz (show l.length<=h.b.toNat by omega)];rfl
     rw[e0]at hdm;simp at hdm
theorem Mc.ok.Rs (hk:M.ok)(t:Nat):∀ ds ∈ M.p t,∀ d ∈ ds,d.ok/\Pg.right d.D=true:=by
 intro ds hds d hd;by_cases ht:t<M.ps.length
 ·have hm:M.p t ∈ M.ps:=Qe (Mc.D2 ht)
  exact ((hk.dk _ hm).2 ds hds).2 d hd
 ·unfold Mc.p at hds
  rw[Qi,Qz (by omega)]at hds
  simp at hds
theorem Mc.ok.p6 (hk:M.ok)(t:Nat):(M.p t).length<=6/\∀ ds ∈ M.p t,ds.length<=12:=by
 by_cases ht:t<M.ps.length
 ·have hm:M.p t ∈ M.ps:=Qe (Mc.D2 ht)
  exact⟨(hk.dk _ hm).1,fun ds hds=>((hk.dk _ hm).2 ds hds).1⟩
 ·unfold Mc.p
  rw[Qi,Qz (by omega)]
  exact⟨by simp,fun ds hds=>by simp at hds⟩
theorem Mc.ok.nb (hk:M.ok){t:Nat}(ht:t<M.hs.length):(0<=(M.h t).n/\(M.h t).n<=12)/\0<=(M.h t).b/\(M.h t).b<=6:=by
 have h:=(hk.th t ht).th;have hp:=hk.p6 t;have hb:=h.b;refine⟨⟨h.n,?_⟩,hb.1,by omega⟩
 cases hl:(M.h t).l with
 | false=>have:=(h.idle hl).1;omega
 | true =>
  obtain⟨h1,h2⟩:=h.at' hl;have hlt:(M.h t).b.toNat<(M.p t).length:=by omega
  rw[Qi,Qb hlt]at h2;have:=hp.2 _ (List.getElem_mem hlt);simp only[Option.getD_some]at h2;omega
theorem Mc.ok.tst (hk:M.ok){t:Nat}(ht:t<M.hs.length):TZ M.S t (M.p t) (M.h t):=by
 have h:=hk.th t ht;have hb:=hk.nb ht;exact⟨hk.inv,by rw[hk.Aw,<-hk.len];exact ht,h.lv,h.th.r.XQ _,by omega,by omega,hk.Rs t⟩
theorem Mc.ok.keeps (hk:M.ok){t:Nat}(ht:t<M.hs.length):E6 (M.p t) (M.S.Bn t (M.p t) (M.h t)).S t (M.S.Bn t (M.p t) (M.h t)).h/\Ty t M.S (M.S.Bn t (M.p t) (M.h t)).S:=
 VQ (hk.th t ht) (by rw[hk.Aw,<-hk.len];exact ht) fun ds hds d hd=>(hk.Rs t ds hds d hd).1
theorem Uo {l:List CS}(h:l.length<=2000)(x:CS):(kh l x).length<=2000:=by
 unfold kh;split
 ·rw[Qd,List.length_singleton];omega
 ·exact h
theorem nr (k:Int):∀ (ns:List Nat){l:List CS},l.length<=2000->(ze l k ns).length<=2000
 | [],_,h=>h
 | n::ns,l,h=>nr k ns (l:=kh l ⟨-1,0,0,⟨k,0,n⟩⟩) (Uo h _)
theorem YO (k:Int)(l:List CS)(n:Nat)(ns:List Nat):ze l k (n::ns)=ze (kh l ⟨-1,0,0,⟨k,0,n⟩⟩) k ns:=rfl
theorem ud (k:Int)(l:List CS)(ns:List Nat)(n:Nat):ze l k (ns++[n])=kh (ze l k ns) ⟨-1,0,0,⟨k,0,n⟩⟩:=by unfold ze;rw[List.foldl_append];rfl
theorem PZ (hs:List AD)(t u:Nat)(z:AD):(hs.set t z).getD u Cy=if u=t/\t<hs.length then z else hs.getD u Cy:=by
 rw[Qi,Qr,Qi];by_cases h:t=u
 ·subst h
  rw[if_pos rfl];by_cases h2:t<hs.length
  ·rw[if_pos h2,if_pos ⟨rfl,h2⟩];rfl
  ·rw[if_neg h2,if_neg (fun z=>h2 z.2),Qz (by omega)]
 ·rw[if_neg h,if_neg (fun z=>h z.1.symm)]
theorem Mc.G7 (hk:M.ok){t:Nat}(ht:t<M.hs.length):(M.CE t).1.ok:=by
 obtain⟨h1,h2⟩:=hk.keeps ht;have h3:=GA (h:=M.h t) hk.inv (i:=t) (by rw[hk.Aw,<-hk.len];exact ht) fun ds hds d hd=>(hk.Rs t ds hds d hd).1
 refine⟨h3,?_,h2.len.trans hk.Aw,hk.n8,?_,hk.dk,?_,h2.lost.trans hk.lo,h2.came.trans hk.ca⟩
 ·show (M.hs.set t _).length=_
  rw[Qq];exact hk.len
 ·intro u hu
  have hu':u<M.hs.length:=by simpa [Mc.CE] using hu
  show E6 (M.p u) _ u ((M.hs.set t _).getD u Cy);rw[PZ];by_cases e:u=t
  ·subst e
   rw[if_pos ⟨rfl,ht⟩];exact h1
  ·rw[if_neg (fun z=>e z.1)]
   have h4:=hk.th u hu';exact⟨h4.th,by show ((M.S.Bn t (M.p t) (M.h t)).S.t u).live=_;rw[h2.DY u e];exact h4.lv⟩
 ·show (if _ then kh M.past _ else M.past).length<=2000
  split
  ·exact Uo hk.pl _
  ·exact hk.pl
theorem Mc.EK (hk:M.ok)(t:Int):(M.step t).1.ok:=by
 unfold Mc.step;split
 ·exact hk
 ·exact Mc.G7 hk (by omega)
def R6.at' (g:Nat->Nat)(r:R6):R6:=⟨g r.a0.toNat,g r.a1.toNat,g r.a2.toNat,g r.a3.toNat,g r.a4.toNat,g r.a5.toNat⟩
def AD.at' (g:Nat->Nat)(h:AD):AD:={ h with r:=h.r.at' g,s:=h.s.at' g }
theorem Us (g:Nat->Nat):∀ (hs:List AD),kg hs ((hs.flatMap AD.roots).map g)=hs.map (AD.at' g)
 | []=>rfl
 | h::hs=>by
  have e:((h::hs).flatMap AD.roots).map g=h.roots.map g++(hs.flatMap AD.roots).map g:=by rw[List.flatMap_cons,Qw]
  rw[e];show h.place _::kg hs _=h.at' g::hs.map (AD.at' g);rw[<-Us g hs];rfl
theorem R6.PE (g:Nat->Nat)(r:R6):Fq (r.at' g):=by
 intro j hj;rcases six hj with rfl|rfl|rfl|rfl|rfl|rfl<;>exact⟨_,rfl⟩
theorem Cp.AA {l:List (List Ay)}{h:AD}(t:Cp l h)(g:Nat->Nat):Cp l (h.at' g):=
 ⟨R6.PE g _,R6.PE g _,t.n,t.b,t.at',fun hl=>⟨(t.idle hl).1,by show R6.at' g h.r=R6.at' g h.s;rw[(t.idle hl).2]⟩⟩
theorem Lu (S:Al) (g:Nat->Nat) (i:Nat) (hi:i<S.Aw.length):((S.at' g).t i).live=(S.t i).live:=by
 have h1:(S.at' g).Aw[i]?=some ((S.t i).at' g):=by
  show (S.Aw.map (Tx.at' g))[i]?=_;rw[Qj,Al.AV hi];rfl
 have h2:=Al.AV (S:=S.at' g) (i:=i) (by show i<(S.Aw.map _).length;rw[Qg];exact hi)
 rw[h1]at h2;injection h2 with h2;rw[<-h2];rfl
theorem JJ (S:Al):S.B4.1.Aw=S.Aw:=by
 unfold Al.B4;split
 ·rfl
 ·split
  ·rfl
  ·split<;>rfl
theorem Uw {S:Al}(hk:S.ok):S.Bg.1.Aw=S.Aw:=((dy _ (dj hk).1 (dj hk).2).2.1).trans (JJ S)
theorem Mc.EA (hk:M.S.ok)(h1:M.hs.length=M.ps.length)(h2:M.S.Aw.length=M.ps.length)(h3:M.ps.length<=8)(h4:∀ t,t<M.hs.length->E6 (M.p t) M.S t (M.h t))
  (h5:∀ p ∈ M.ps,p.length<=6/\∀ ds ∈ p,ds.length<=12/\∀ d ∈ ds,d.ok/\Pg.right d.D=true)(h6:M.past.length<=2000):M.told.ok:=
 ⟨Inv.PX (Inv.PO hk),h1,h2,h3,fun t ht=>⟨(h4 t ht).th,(h4 t ht).lv⟩,h5,nr 4 _ (nr 5 _ h6),rfl,rfl⟩
def Mc.Cu (M:Mc):Mc:={ M with S:=(M.S.AG M.roots).1,hs:=kg M.hs (M.S.AG M.roots).2.1 }
def Mc.Jb (M:Mc):Mc:={ M with S:=M.S.Bg.1 }
theorem gj (h0:M.past.length<2000)(h:(M.S.AG M.roots).2.2=true):M.collect=(M.Cu.told,false):=by
 unfold Mc.collect;rw[if_neg (by omega),if_pos h];rfl
theorem g9 (h0:M.past.length<2000)(h:(M.S.AG M.roots).2.2=false):M.collect=(M.Jb.told,M.S.Bg.2):=by
 unfold Mc.collect;rw[if_neg (by omega),if_neg (by rw[h];simp)];rfl
theorem Sm (h:(M.S.AG M.roots).2.2=true):M.Cu.hs=M.hs.map (AD.at' (M.S.begun M.roots).H.now)/\M.Cu.S=(M.S.begun M.roots).at' (M.S.begun M.roots).H.now/\M.S.may M.roots=true:=by
 have hm:M.S.may M.roots=true:=by
  unfold Al.AG at h;split at h
  ·assumption
  ·simp at h
 refine⟨?_,?_,hm⟩
 ·show kg M.hs (M.S.AG M.roots).2.1=_
  unfold Al.AG;rw[if_pos hm];exact Us _ _
 ·show (M.S.AG M.roots).1=_
  unfold Al.AG;rw[if_pos hm]
theorem Mo (f:AD->AD)(hs:List AD){t:Nat}(ht:t<hs.length):(hs.map f).getD t Cy=f (hs.getD t Cy):=by
 rw[Qi,Qi,Qj,Qb ht];rfl
theorem Mc.EE (hk:M.ok)(h:(M.S.AG M.roots).2.2=true):M.Cu.S.ok/\M.Cu.hs.length=M.ps.length/\M.Cu.S.Aw.length=M.ps.length/\∀ t,t<M.Cu.hs.length->E6 (M.p t) M.Cu.S t (M.Cu.h t):=by
 obtain⟨e1,e2,hm⟩:=Sm h;have hl:M.Cu.hs.length=M.hs.length:=by rw[e1,Qg]
 refine⟨U8 hk.inv _,hl.trans hk.len,(qgu _ _).trans hk.Aw,fun t ht=>?_⟩
 rw[hl]at ht;have h4:=hk.th t ht;have e3:M.Cu.h t=(M.h t).at' (M.S.begun M.roots).H.now:=by unfold Mc.h;rw[e1];exact Mo _ _ ht
 rw[e3,e2];exact⟨h4.th.AA _,(Lu _ _ _ (by show t<M.S.Aw.length;rw[hk.Aw,<-hk.len];exact ht)).trans h4.lv⟩
theorem Mc.D1 (hk:M.ok):M.collect.1.ok:=by
 by_cases h0:M.past.length<2000
 ·cases h:(M.S.AG M.roots).2.2 with
  | true =>
   rw[gj h0 h];obtain⟨h1,h2,h3,h4⟩:=Mc.EE hk h;exact Mc.EA h1 h2 h3 hk.n8 h4 hk.dk hk.pl
  | false =>
   rw[g9 h0 h];have e:=Uw hk.inv;refine Mc.EA (M:=M.Jb) (ld hk.inv) hk.len (by show M.S.Bg.1.Aw.length=_;rw[e];exact hk.Aw) hk.n8 (fun t ht=>⟨(hk.th t ht).th,?_⟩) hk.dk hk.pl
   have h4:=(hk.th t ht).lv;show (M.S.Bg.1.t t).live=(M.h t).l;unfold Al.t at h4 ⊢;rw[e];exact h4
 ·unfold Mc.collect
  rw[if_pos (by omega)];exact hk
end
def Ev (n v:Nat):Prop:=v%2=0/\v/2<=n
structure Mk (cur:List (Nat×Ob))(old:List (Nat×Ob×Option Nat))(n i:Nat)(hs:List Nat):Prop where
 c:∀ x ∈ cur,Ev n x.2.second\/(x.2.second=2*i+1/\x.1 ∈ hs)
 o:∀ x ∈ old,x.2.2=none->Ev n x.2.1.second
 h:∀ p ∈ hs,∃ ob,lk cur p=some ob/\ob.second=2*i+1
structure Hu (H:Hp)(k:Nat):Prop where
 us:H.top+H.Bc<=H.base H.use+12*k
 sz:H.size=3000
 se:H.Ax<=k
section
variable {cur : List (Nat × Ob)} {old : List (Nat × Ob × Option Nat)} {n i k : Nat} {hs : List Nat} {H : Hp}
theorem Ev.mono {n m v:Nat}(h:Ev n v)(hm:n<=m):Ev m v:=⟨h.1,Qo h.2 hm⟩
theorem Q5 {l:List (Nat×Ob)}{p:Nat}{o:Ob}{x:Nat×Ob}(h:x ∈ up l p o):(x ∈ l/\x.1≠p)\/x=(p,o):=by
 unfold up at h;obtain⟨y,hy,rfl⟩:=Qt.1 h;split
 ·exact .inr rfl
 ·rename_i e;exact .inl ⟨hy,e⟩
theorem Mk.up (h:Mk cur old n i hs){p:Nat}{ob ob':Ob}(hp:lk cur p=some ob)(e:ob'.second=ob.second):Mk (up cur p ob') old n i hs:=by
 refine⟨fun x hx=>?_,h.o,fun q hq=>?_⟩
 ·rcases Q5 hx with⟨h1,_⟩|rfl
  ·exact h.c x h1
  ·have:=h.c _ (zo hp)
   simp only at this ⊢;rw[e];exact this
 ·obtain⟨y,h1,h2⟩:=h.h q hq
  rw[NA];split
  ·rename_i e1;subst e1;rw[h1];rw[h1]at hp;injection hp with hp;subst hp;exact⟨_,rfl,e.trans h2⟩
  ·exact⟨y,h1,h2⟩
theorem Mk.snoc (h:Mk cur old n i hs){p:Nat}{ob:Ob}(he:Ev n ob.second):Mk (cur++[(p,ob)]) old n i hs:=by
 refine⟨fun x hx=>?_,h.o,fun q hq=>?_⟩
 ·rcases Qs.1 hx with h1|h1
  ·exact h.c x h1
  ·rw[Za.1 h1];exact .inl he
 ·obtain⟨y,h1,h2⟩:=h.h q hq
  exact⟨y,xu h1 _,h2⟩
theorem Mk.gone (h:Mk cur old n i hs)(p q:Nat):Mk cur (qr old p q) n i hs:=
 ⟨h.c,fun x hx hn=>(ri hx).elim (fun h1=>h.o x h1 hn) fun h1=>(by rw[h1.2.1]at hn;cases hn),h.h⟩
theorem Mk.hold (h:Mk cur old n i hs){p:Nat}{ob:Ob}(hp:lk cur p=some ob):Mk (Go.Proofs.YteehgedabdchcaaGreat.up cur p (ob.BX (2*i+1))) old n i (hs++[p]):=by
 refine⟨fun x hx=>?_,h.o,fun q hq=>?_⟩
 ·rcases Q5 hx with ⟨h1,_⟩|rfl
  ·exact (h.c x h1).imp id fun e=>⟨e.1,Qs.2 (.inl e.2)⟩
  ·exact .inr ⟨rfl,by simp⟩
 ·rw[NA]
  split
  ·rw[hp];exact⟨_,rfl,rfl⟩
  ·rename_i e
   rcases Qs.1 hq with h1|h1
   ·exact h.h q h1
   ·exact absurd (Za.1 h1) e
theorem Mk.AA (h:Mk H.cur H.old n i hs)(p:Nat):Mk (H.AA p).1.cur (H.AA p).1.old n i hs:=by
 cases hp:Bj H.old p with
 | none=>rw[Hp.BJ hp];exact h
 | some z =>
  obtain⟨ob,g⟩:=z
  cases g with
  | some q=>rw[Hp.BU hp];exact h
  | none=>rw[Hp.Bw hp];exact (h.snoc (h.o _ (jf hp) rfl)).gone p H.top
theorem Mk.As:∀ (l:List Nat){H:Hp},Mk H.cur H.old n i hs->Mk (H.As l).1.cur (H.As l).1.old n i hs
 | [],_,h=>h
 | p::l,_,h=>Mk.As l (h.AA p)
theorem Mk.mono (h:Mk cur old n i hs){m:Nat}(hm:n<=m):Mk cur old m i hs:=
 ⟨fun x hx=>(h.c x hx).imp (fun e=>e.mono hm) id,fun x hx hn=>(h.o x hx hn).mono hm,h.h⟩
theorem Mk.SR (h:Mk cur old n i [])(j:Nat):Mk cur old n j []:=
 ⟨fun x hx=>(h.c x hx).imp id fun e=>absurd e.2 (by simp),h.o,fun p hp=>by cases hp⟩
theorem Mk.free (h:Mk cur old n i hs){p v:Nat}{ob:Ob}(hp:lk cur p=some ob)(hv:v<=n):Mk (Go.Proofs.YteehgedabdchcaaGreat.up cur p (ob.BX (2*v))) old n i (hs.filter fun q=>decide (q≠p)):=by
 refine⟨fun x hx=>?_,h.o,fun q hq=>?_⟩
 ·rcases Q5 hx with ⟨h1,h2⟩|rfl
  ·exact (h.c x h1).imp id fun e=>⟨e.1,List.mem_filter.2 ⟨e.2,by simpa using h2⟩⟩
  ·exact .inl ⟨by show 2*v%2=0;omega,by show 2*v/2<=n;omega⟩
 ·obtain⟨h1,h2⟩:=List.mem_filter.1 hq
  rw[NA,if_neg (by simpa using h2)]
  exact h.h q h1
structure Jk (H:Hp)(n i:Nat)(hs:List Nat):Prop where
 c:∀ x ∈ H.cur,Ev n x.2.second\/(x.2.second=2*i+1/\∃ p ∈ hs,∃ ob,Bj H.old p=some (ob,some x.1))
 o:∀ x ∈ H.old,x.2.2=none->Ev n x.2.1.second\/(x.2.1.second=2*i+1/\x.1 ∈ hs)
 h:∀ p ∈ hs,∃ ob g,Bj H.old p=some (ob,g)/\ob.second=2*i+1/\∀ q,g=some q->∃ ob',lk H.cur q=some ob'/\ob'.second=2*i+1
 u:∀ x ∈ H.old,∀ y ∈ H.old,x.1=y.1->x.2.2=y.2.2
theorem Jk.AA (h:Jk H n i hs)(hk:H.ok)(p:Nat):Jk (H.AA p).1 n i hs:=by
 cases hp:Bj H.old p with
 | none=>rw[Hp.BJ hp];exact h
 | some z =>
  obtain⟨ob,g⟩:=z
  cases g with
  | some q=>rw[Hp.BU hp];exact h
  | none =>
   rw[Hp.Bw hp];have hg:∀ {r:Nat}{o:Ob}{g:Nat},Bj H.old r=some (o,some g)->Bj (qr H.old p H.top) r=some (o,some g):=fun {r o g} hr=>Um _ _ _ _ hr (.inr ⟨_,hp⟩)
   have hpn:Bj (qr H.old p H.top) p=some (ob,some H.top):=by rw[ur,if_pos rfl,hp];rfl
   refine⟨fun x hx=>?_,fun x hx hn=>?_,fun q hq=>?_,fun x hx y hy e=>?_⟩
   ·rcases Qs.1 (show x ∈ H.cur++[(H.top,ob)] from hx) with h1|h1
    ·refine (h.c x h1).imp id fun e=>⟨e.1,?_⟩
     obtain⟨_,q,hq,o,ho⟩:=e;exact⟨q,hq,o,hg ho⟩
    ·rw[Za.1 h1]
     exact (h.o _ (jf hp) rfl).imp id fun e=>⟨e.1,p,e.2,ob,hpn⟩
   ·rcases ri (show x ∈ qr H.old p H.top from hx) with h1|⟨_,h1,_⟩
    ·exact h.o x h1 hn
    ·rw[h1]at hn;cases hn
   ·obtain⟨o,g,h1,h2,h3⟩:=h.h q hq
    by_cases e:q=p
    ·subst e
     rw[hp]at h1;injection h1 with h1;injection h1 with e1 e2;subst e1;exact⟨ob,some H.top,hpn,h2,fun r hr=>by injection hr with hr;subst hr;exact⟨ob,QD hk ob,h2⟩⟩
    ·refine⟨o,g,by show Bj (qr H.old p H.top) q=_;rw[ur,if_neg e];exact h1,h2,fun r hr=>?_⟩
     obtain⟨o2,h4,h5⟩:=h3 r hr;exact⟨o2,xu h4 _,h5⟩
   ·have key:∀ z ∈ qr H.old p H.top,∃ y ∈ H.old,y.1=z.1/\z.2.2=if z.1=p then some H.top else y.2.2:=fun z hz=>by
     obtain⟨y,hy,rfl⟩:=Qt.1 (show z ∈ H.old.map _ from hz);refine⟨y,hy,by split<;>rfl,?_⟩
     by_cases e:y.1=p
     ·rw[if_pos e,if_pos e]
     ·rw[if_neg e,if_neg e]
    obtain⟨x0,hx0,e1,e2⟩:=key x hx;obtain⟨y0,hy0,e3,e4⟩:=key y hy;rw[e2,e4,<-e];split
    ·rfl
    ·exact h.u x0 hx0 y0 hy0 (by rw[e1,e3];exact e)
theorem Jk.As:∀ (l:List Nat){H:Hp},Jk H n i hs->H.ok->Jk (H.As l).1 n i hs
 | [],_,h,_=>h
 | p::l,_,h,hk=>Jk.As l (h.AA hk p) (Hp.Cs hk p)
theorem TB:∀ (l:List Nat){H:Hp}{p:Nat},p ∈ l->Bj (H.As l).1.old p=none\/∃ ob q,Bj (H.As l).1.old p=some (ob,some q)
 | x::l,H,p,h=>by
  rcases List.mem_cons.1 h with rfl|h
  ·rcases SU (H:=H) p with ⟨h1,_⟩|⟨ob,h1⟩
   ·exact .inl (fj l h1)
   ·exact .inr ⟨ob,_,mw l h1⟩
  ·exact TB l h
theorem Jk.flip (h:Mk H.cur H.old n i hs):Jk H.flip n i hs:=by
 have key:∀ x ∈ H.flip.old,x.2.2=none/\(x.1,x.2.1) ∈ H.cur:=fun x hx=>by
  obtain⟨y,hy,rfl⟩:=Qt.1 (show x ∈ H.cur.map _ from hx);exact⟨rfl,hy⟩
 refine⟨fun x hx=>(by cases hx),fun x hx _=>?_,fun p hp=>?_,fun x hx y hy _=>by rw[(key x hx).1,(key y hy).1]⟩
 ·exact h.c _ (key x hx).2
 ·obtain⟨ob,h1,h2⟩:=h.h p hp
  have e:=Nn (l:=H.flip.old) p;rw[show (H.flip.old.map fun x=>(x.1,x.2.1))=H.cur from ly H,h1]at e
  cases hz:Bj H.flip.old p with
  | none=>rw[hz]at e;cases e
  | some z =>
   obtain⟨o,g⟩:=z;rw[hz]at e;injection e with e;have hg:g=none:=(key _ (jf hz)).1;exact⟨o,g,rfl,by have e':ob=o:=e;rw[<-e'];exact h2,fun q hq=>by rw[hg]at hq;cases hq⟩
theorem Jk.done (h:Jk H n i hs)(hc:∀ p ∈ hs,Bj H.old p=none\/∃ ob q,Bj H.old p=some (ob,some q)):Mk H.cur H.old n i (hs.map H.now):=by
 have hnow:∀ {p q:Nat}{ob:Ob},Bj H.old p=some (ob,some q)->H.now p=q:=fun {p q ob} e=>by unfold Hp.now;rw[e]
 refine⟨fun x hx=>?_,fun x hx hn=>?_,fun q hq=>?_⟩
 ·refine (h.c x hx).imp id fun e=>⟨e.1,?_⟩
  obtain⟨_,p,hp,ob,ho⟩:=e;exact Qt.2 ⟨p,hp,hnow ho⟩
 ·refine (h.o x hx hn).resolve_right fun e=>?_
  rcases hc x.1 e.2 with h1|⟨ob,q,h1⟩
  ·have h2:(Bj H.old x.1).isSome=true:=EY.2 (Qt.2 ⟨x,hx,rfl⟩)
   rw[h1]at h2;cases h2
  ·have h2:=h.u x hx _ (jf h1) rfl
   rw[hn]at h2;cases h2
 ·obtain⟨p,hp,rfl⟩:=Qt.1 hq
  obtain⟨ob,g,h1,_,h3⟩:=h.h p hp;rcases hc p hp with h4|⟨ob2,q,h4⟩
  ·rw[h1]at h4;cases h4
  ·rw[h1]at h4;injection h4 with h4;injection h4 with e1 e2
   rw[hnow (by rw[h1,e2])]
   exact h3 q e2
theorem Mk.begun (h:Mk H.cur H.old n i hs)(hk:H.flip.ok){l:List Nat}(hl:∀ p ∈ hs,p ∈ l):Mk (H.flip.As l).1.cur (H.flip.As l).1.old n i (hs.map (H.flip.As l).1.now):=
 ((Jk.flip h).As l hk).done fun p hp=>TB l (hl p hp)
theorem Hu.AA (h:Hu H k)(hk:H.ok)(p:Nat):Hu (H.AA p).1 k:=by
 cases hp:Bj H.old p with
 | none=>rw[Hp.BJ hp];exact h
 | some z =>
  obtain⟨ob,g⟩:=z
  cases g with
  | some q=>rw[Hp.BU hp];exact h
  | none =>
   rw[Hp.Bw hp];have h1:=QU hp;rw[<-hk.FP]at h1;have h2:=h.us;exact⟨by show H.top+Bo ob.size+(H.Bc-Bo ob.size)<=H.base H.use+12*k;omega,h.sz,h.se⟩
theorem Hu.As:∀ (l:List Nat){H:Hp},Hu H k->H.ok->Hu (H.As l).1 k
 | [],_,h,_=>h
 | p::l,_,h,hk=>Hu.As l (h.AA hk p) (Hp.Cs hk p)
theorem Hu.mono (h:Hu H k){m:Nat}(hm:k<=m):Hu H m:=⟨by have:=h.us;omega,h.sz,Qo h.se hm⟩
theorem Hu.flip (h:Hu H k)(hk:H.ok)(hm:H.AF=false):Hu H.flip k:=by
 have h0:H.Bc=0:=by rw[hk.FP,hk.still hm];rfl
 have h2:=h.us;exact⟨by show H.base (!H.use)+(H.top-H.base H.use)<=H.base (!H.use)+12*k;omega,h.sz,h.se⟩
theorem Hu.lay (h : Hu H k) {s : B3} (hs : s.p + s.d <= 9) : Hu (H.lay s) (k + 1) := by
  have h2 := h.us
  have hr : Bo (3 + s.p + s.d) <= 12 := by unfold Bo; repeat' split
                                           all_goals omega
  exact ⟨by show H.top + Bo (3 + s.p + s.d) + H.Bc <= H.base H.use + 12 * (k + 1); omega, h.sz, by show H.Ax + 1 <= k + 1; have := h.se; omega⟩
theorem Hu.roomy (h : Hu H k) (hk : k <= 200) {s : B3} (hs : s.p + s.d <= 9) : H.roomy s = true := by
  have hr : Bo (3 + s.p + s.d) <= 12 := by unfold Bo; repeat' split
                                           all_goals omega
  have h1 := h.us
  have h2 := h.sz
  have h3 := h.se
  unfold Hp.roomy Hp.left
  simp only [Bool.and_eq_true, decide_eq_true_eq]
  exact ⟨by omega, by omega⟩
structure HE (H:Hp)(n i:Nat)(hs:List Nat)(k:Nat):Prop where
 m:Mk H.cur H.old n i hs
 hu:Hu H k
theorem HE.Ce (h:HE H n i hs k)(p j:Nat)(v:Int):HE (H.Bm p j v).1 n i hs k:=by
 unfold Hp.Bm;split
 ·exact h
 ·rename_i ob hp
  split
  ·exact h
  ·exact⟨h.m.up hp rfl,h.hu.us,h.hu.sz,h.hu.se⟩
theorem HE.A4 (h:HE H n i hs k)(p j q:Nat):HE (H.A9 p j q).1 n i hs k:=by
 unfold Hp.A9;split
 ·exact h
 ·rename_i ob hp
  split
  ·exact h
  ·split
   ·exact h
   ·exact⟨h.m.up hp rfl,h.hu.us,h.hu.sz,h.hu.se⟩
theorem HE.BL (h:HE H n i hs k)(p:Nat)(b:Bool):HE (H.AS p b).1 n i hs k:=by
 unfold Hp.AS;split
 ·exact h
 ·rename_i ob hp;exact⟨h.m.up hp rfl,h.hu.us,h.hu.sz,h.hu.se⟩
theorem HE.AA (h:HE H n i hs k)(hk:H.ok)(p:Nat):HE (H.AA p).1 n i hs k:=⟨h.m.AA p,h.hu.AA hk p⟩
theorem HE.As (h:HE H n i hs k)(hk:H.ok)(l:List Nat):HE (H.As l).1 n i hs k:=⟨h.m.As l,h.hu.As l hk⟩
theorem HE.ptr (h:HE H n i hs k)(hk:H.ok)(p j:Nat):HE (H.A5 p j).1 n i hs k:=by
 unfold Hp.A5;split
 ·exact h
 ·rename_i ob hp
  split
  ·exact h
  ·rename_i x hx
   split
   ·have h2:=h.AA hk x
    exact⟨h2.m.up (yp hp) rfl,h2.hu.us,h2.hu.sz,h2.hu.se⟩
   ·exact h
theorem HE.free (h:HE H n i hs k){p v:Nat}(hp:p ∈ hs)(hv:v<=n):HE (H.AB p (2*v)).1 n i (hs.filter fun q=>decide (q≠p)) k:=by
 obtain⟨ob,h1,_⟩:=h.m.h p hp;unfold Hp.AB;rw[h1];exact⟨h.m.free h1 hv,h.hu.us,h.hu.sz,h.hu.se⟩
theorem HE.own (h:HE H n i hs k){p:Nat}{ob:Ob}(hp:lk H.cur p=some ob):HE (H.AB p (2*i+1)).1 n i (hs++[p]) k:=by
 unfold Hp.AB;rw[hp];exact⟨h.m.hold hp,h.hu.us,h.hu.sz,h.hu.se⟩
theorem HE.lay (h:HE H n i hs k){s:B3}(hs':s.p+s.d<=9):HE (H.lay s) n i hs (k+1):=⟨h.m.snoc ⟨rfl,(show 0/2<=n by omega)⟩,h.hu.lay hs'⟩
theorem HE.scan (h:HE H n i hs k)(hk:H.ok):HE H.A8.1 n i hs k:=by
 unfold Hp.A8;split
 ·exact h
 ·split
  ·exact h
  ·rename_i ob hp
   split
   ·exact⟨h.m,h.hu.us,h.hu.sz,h.hu.se⟩
   ·have h2:=h.As hk ob.AL
    exact⟨h2.m.up (pj ob.AL hp) rfl,h2.hu.us,h2.hu.sz,h2.hu.se⟩
theorem HE.A1 (h:HE H n i hs k)(hk:H.ok):HE H.A1.1 n i hs k:=by
 unfold Hp.A1;split
 ·exact h
 ·exact HE.As (H:={ H with final:=H.stay H.final }) ⟨h.m,h.hu.us,h.hu.sz,h.hu.se⟩ ⟨hk.sz,hk.cl,hk.ck,hk.ol,hk.ok,hk.ot,hk.still,hk.FP,hk.room,hk.Bt,hk.Ci,hk.gone⟩ _
theorem HE.drop1 (h:HE H n i hs k)(p:Nat):HE (H.drop1 p).1 n i hs k:=by
 unfold Hp.drop1;split
 ·exact h
 ·rename_i ob hp
  split
  ·exact h
  ·split
   ·exact h
   ·exact⟨h.m.up hp rfl,h.hu.us,h.hu.sz,h.hu.se⟩
   ·exact⟨h.m.up hp rfl,h.hu.us,h.hu.sz,h.hu.se⟩
theorem HE.AP:∀ (l:List Nat){H:Hp},HE H n i hs k->HE (H.AP l).1 n i hs k
 | [],_,h=>h
 | p::l,_,h=>HE.AP l (h.drop1 p)
theorem HE.drop (h:HE H n i hs k):HE H.drop.1 n i hs k:=by
 unfold Hp.drop;split
 ·exact h
 ·have h2:=HE.AP H.settled.Az (H:=H.settled) ⟨h.m,h.hu.us,h.hu.sz,h.hu.se⟩
  refine⟨⟨h2.m.c,(fun x hx=>nomatch hx),h2.m.h⟩,?_,h2.hu.sz,h2.hu.se⟩
  have:=h2.hu.us;show (H.settled.AP H.settled.Az).1.top+0<=(H.settled.AP H.settled.Az).1.base (H.settled.AP H.settled.Az).1.use+12*k;omega
theorem HE.B1 (h:HE H n i hs k)(u:Un):HE (H.B1 u) n i hs k:=by
 unfold Hp.B1;split
 ·exact h.A4 _ _ _
 ·split
  ·exact h.Ce _ _ _
  ·split
   ·exact h.BL _ _
   ·exact h
theorem HE.BA (h:HE H n i hs k):∀ (us:List Un),HE (H.BA us) n i hs k
 | []=>h
 | u::us=>(HE.BA h us).B1 u
theorem HE.rel (f:Hp->Nat×Nat->Hp)(hf:∀ {H:Hp}{hs:List Nat}(z:Nat×Nat),HE H n i hs k->z.1 ∈ hs->z.2<=n->HE (f H z) n i (hs.filter fun q=>decide (q≠z.1)) k) :
  ∀ (zs:List (Nat×Nat)){H:Hp}{hs:List Nat},HE H n i hs k->(∀ p ∈ hs,∃ z ∈ zs,z.1=p)->(∀ z ∈ zs,z.2<=n)->(∀ {H:Hp}{z:Nat×Nat}{hs:List Nat},HE H n i hs k->z.1 ∉ hs->z.2<=n->HE (f H z) n i hs k)->HE (zs.foldl f H) n i [] k
 | [],H,hs,h,hc,_,_=>by
  have:hs=[]:=List.eq_nil_iff_forall_not_mem.2 fun p hp=>by obtain⟨z,hz,_⟩:=hc p hp;cases hz
  rw[this]at h;exact h
 | z::zs,H,hs,h,hc,hv,hno=>by
  show HE (zs.foldl f (f H z)) n i [] k;by_cases hz:z.1 ∈ hs
  ·refine HE.rel f hf zs (hf z h hz (hv z (by simp))) (fun p hp=>?_) (fun y hy=>hv y (by simp[hy])) hno
   obtain⟨h1,h2⟩:=List.mem_filter.1 hp;obtain⟨y,hy,e⟩:=hc p h1;rcases List.mem_cons.1 hy with rfl|hy
   ·simp only[decide_eq_true_eq]at h2;exact absurd e.symm h2
   ·exact⟨y,hy,e⟩
  ·refine HE.rel f hf zs (hno h hz (hv z (by simp))) (fun p hp=>?_) (fun y hy=>hv y (by simp[hy])) hno
   obtain⟨y,hy,e⟩:=hc p hp;rcases List.mem_cons.1 hy with rfl|hy
   ·rw[e]at hz;exact absurd hp hz
   ·exact⟨y,hy,e⟩
end
def nz (o:Ob):Nat:=if o.AL.headD 0=0 then 0 else 1
def CH:List (Nat×Ob)->Nat
 | []=>0
 | x::l=>nz x.2+CH l
def Dj:List (Nat×Ob×Option Nat)->Nat
 | []=>0
 | (_,o,none)::l=>nz o+Dj l
 | (_,_,some _)::l=>Dj l
def Hp.pz (H:Hp):Nat:=CH H.cur+Dj H.old
section
variable {H : Hp} {k : Nat}
theorem Mu (o:Ob):nz o<=1:=by unfold nz;split<;>omega
theorem Rr:∀ (l m:List (Nat×Ob)),CH (l++m)=CH l+CH m
 | [],m=>by simp[CH]
 | x::l,m=>by show nz x.2+CH (l++m)=nz x.2+CH l+CH m;rw[Rr l m];omega
theorem QW (x:Nat×Ob)(l:List (Nat×Ob))(p:Nat)(o:Ob):up (x::l) p o=(if x.1=p then (p,o) else x)::up l p o:=rfl
theorem PY {l:List (Nat×Ob)}{p:Nat}{ob ob':Ob}(hu:∀ x ∈ l,x.1=p->x.2=ob)(h:nz ob'<=nz ob):CH (up l p ob')<=CH l:=by
 induction l with
 | nil=>exact Qk _
 | cons x l ih =>
  have ih:=ih fun y hy=>hu y (by simp[hy])
  rw[QW];show nz (if x.1=p then (p,ob') else x).2+CH (up l p ob')<=nz x.2+CH l
  split
  ·rename_i e
   rw[hu x (by simp) e]
   show nz ob'+_<=_;omega
  ·omega
theorem U9 {p:Nat}{ob ob':Ob}(h:nz ob'=0):∀ {l:List (Nat×Ob)},lk l p=some ob->CH (up l p ob')+nz ob<=CH l
 | [],hp=>by simp[lk]at hp
 | x::l,hp=>by
  obtain⟨q,o⟩:=x;rw[QW];show nz (if q=p then (p,ob') else (q,o)).2+CH (up l p ob')+nz ob<=nz o+CH l
  unfold lk at hp;have hz:CH (up l p ob')<=CH l:=by
   clear hp;induction l with
   | nil=>exact Qk _
   | cons y l ih =>
    rw[QW];show nz (if y.1=p then (p,ob') else y).2+CH (up l p ob')<=nz y.2+CH l
    split
    ·show nz ob'+_<=_;omega
    ·omega
  split at hp
  ·rename_i e
   injection hp with hp;subst hp;rw[if_pos e];show nz ob'+_+_<=_;omega
  ·rename_i e
   rw[if_neg e];have:=U9 h hp;show nz o+_+_<=_;omega
theorem Gb {p:Nat} {ob':Ob}:∀ {l:List (Nat×Ob)} {b t:Nat},ky b l t->FO l->CH (up l p ob')<=CH l+1
 | [],_,_,_,_=>Nat.zero_le _
 | (q,o)::l,b,t,hl,hk=>by
  rw[QW];show nz (if q=p then (p,ob') else (q,o)).2+CH (up l p ob')<=nz o+CH l+1
  have hk':FO l:=fun x hx=>hk x (.tail _ hx)
  by_cases e:q=p
  ·have hno:up l p ob'=l:=by
    unfold up;conv=>rhs;rw[<-List.map_id l]
    refine List.map_congr_left fun x hx=>?_
    have h1:=(zr _ _ _ hl.2 x hx).1;have h2:=hl.1;have h3:=zz o.size (Ob.AR (hk _ (.head _))).2;have h4:q=b:=h2;rw[if_neg (by omega)];rfl
   rw[if_pos e,hno];have:=Mu ob';show nz ob'+_<=_;omega
  ·rw[if_neg e]
   have:=Gb (p:=p) (ob':=ob') hl.2 hk';show nz o+_<=_;omega
theorem Tc {p q:Nat}{ob:Ob}:∀ {l:List (Nat×Ob×Option Nat)},Bj l p=some (ob,none)->nz ob+Dj (qr l p q)<=Dj l
 | [],h=>by simp[Bj]at h
 | (r,o,g)::l,h=>by
  have hz:Dj (qr l p q)<=Dj l:=by
   clear h;induction l with
   | nil=>exact Qk _
   | cons y l ih =>
    obtain⟨r,o,g⟩:=y;show Dj ((if r=p then (r,o,some q) else (r,o,g))::qr l p q)<=_
    split
    ·cases g with
     | none=>show Dj (qr l p q)<=nz o+Dj l;omega
     | some _=>exact ih
    ·cases g with
     | none=>show nz o+Dj (qr l p q)<=nz o+Dj l;omega
     | some _=>exact ih
  unfold Bj at h;show nz ob+Dj ((if r=p then (r,o,some q) else (r,o,g))::qr l p q)<=Dj ((r,o,g)::l)
  split at h
  ·rename_i e
   injection h with h;injection h with e1 e2;subst e1 e2;rw[if_pos e];show nz o+Dj (qr l p q)<=nz o+Dj l;omega
  ·rename_i e
   rw[if_neg e];have:=Tc (q:=q) h
   cases g with
   | none=>show nz ob+(nz o+Dj (qr l p q))<=nz o+Dj l;omega
   | some _=>exact this
theorem RO (hk:H.ok){x:Nat}(h:(Bj H.old x).isSome=true):x≠0:=by
 cases hx:Bj H.old x with
 | none=>rw[hx]at h;cases h
 | some z =>
  obtain⟨ob,g⟩:=z;have h1:=(N5 hk hx).2.1;have h2:=H.BQ (!H.use);omega
theorem Vk (p:Nat):(H.AA p).1.pz<=H.pz:=by
 cases hp:Bj H.old p with
 | none=>rw[Hp.BJ hp];exact Qk _
 | some z =>
  obtain⟨ob,g⟩:=z
  cases g with
  | some q=>rw[Hp.BU hp];exact Qk _
  | none =>
   rw[Hp.Bw hp];have:=Tc (q:=H.top) hp;show CH (H.cur++[(H.top,ob)])+Dj (qr H.old p H.top)<=CH H.cur+Dj H.old;rw[Rr];show CH H.cur+(nz ob+0)+_<=_;omega
theorem De:∀ (l:List Nat){H:Hp},(H.As l).1.pz<=H.pz
 | [],_=>Qk _
 | p::l,_=>Qo (De l) (Vk p)
theorem uniq (hk:H.ok){p:Nat}{ob:Ob}(hp:lk H.cur p=some ob):∀ x ∈ H.cur,x.1=p->x.2=ob:=fun x hx e=>dv hk.cl hk.ck (show (p,x.2) ∈ H.cur by rw[<-e];exact hx) (zo hp)
theorem TF {o o':Ob}(h:o.AL.headD 0=0->o'.AL.headD 0=0):nz o'<=nz o:=by
 unfold nz;split
 ·omega
 ·rename_i e;rw[if_neg fun z=>e (h z)];omega
theorem NW (hk:H.ok){p:Nat}{ob ob':Ob}(hp:lk H.cur p=some ob)(h:nz ob'<=nz ob):Hp.pz { H with cur:=up H.cur p ob' }<=H.pz:=by
 have:=PY (uniq hk hp) h;show CH (up H.cur p ob')+Dj H.old<=CH H.cur+Dj H.old;omega
theorem Rl (hk:H.ok)(p v:Nat):(H.AB p v).1.pz<=H.pz:=by
 unfold Hp.AB;split
 ·exact Qk _
 ·rename_i ob hp;exact NW hk hp (Qk _)
theorem Sn (hk:H.ok)(p:Nat)(b:Bool):(H.AS p b).1.pz<=H.pz:=by
 unfold Hp.AS;split
 ·exact Qk _
 ·rename_i ob hp;exact NW hk hp (Qk _)
theorem Ja (hk:H.ok)(p j:Nat)(v:Int):(H.Bm p j v).1.pz<=H.pz:=by
 unfold Hp.Bm;split
 ·exact Qk _
 ·rename_i ob hp
  split
  ·exact Qk _
  ·exact NW hk hp (Qk _)
theorem R5 (hk:H.ok) (p j q:Nat):(H.A9 p j q).1.pz<=H.pz+1:=by
 unfold Hp.A9;split
 ·exact Nat.le_succ _
 ·rename_i ob hp
  split
  ·exact Nat.le_succ _
  ·split
   ·exact Nat.le_succ _
   ·have:=Gb (p:=p) (ob':=ob.A4 j q) hk.cl hk.ck
    show CH (up H.cur p (ob.A4 j q))+Dj H.old<=CH H.cur+Dj H.old+1;omega
theorem J3 (l:List Nat)(j v:Nat)(h:j=0->l.headD 0=0->v=0):l.headD 0=0->(l.set j v).headD 0=0:=by
 intro e
 cases l with
 | nil=>exact e
 | cons x l =>
  cases j with
  | zero=>exact h rfl e
  | succ j=>exact e
theorem RY (hk:H.ok)(p j:Nat):(H.A5 p j).1.pz<=H.pz:=by
 unfold Hp.A5;split
 ·exact Qk _
 ·rename_i ob hp
  split
  ·exact Qk _
  ·rename_i x hx
   split
   ·rename_i hs
    refine Qo (NW (H:=(H.AA x).1) (Hp.Cs hk x) (yp hp) (TF (J3 ob.AL j _ fun e h0=>?_))) (Vk x)
    subst e;have h1:x=0:=by
     cases hl:ob.AL with
     | nil=>rw[hl]at hx;cases hx
     | cons y l=>rw[hl]at hx h0;simp at hx;subst hx;exact h0
    exact absurd h1 (RO hk hs)
   ·exact Qk _
theorem Nm (s:B3):(H.lay s).pz=H.pz:=by
 show CH (H.cur++[(H.top,Ob.new s (H.Ax+1))])+Dj H.old=CH H.cur+Dj H.old;rw[Rr];have:nz (Ob.new s (H.Ax+1))=0:=by
  unfold nz Ob.new;rw[if_pos]
  cases s.p<;>rfl
 show CH H.cur+(nz (Ob.new s (H.Ax+1))+0)+Dj H.old=_;rw[this];rfl
theorem KP (hk:H.ok)(hm:H.AF=false):H.flip.pz<=H.pz:=by
 have e:∀ (l:List (Nat×Ob)),Dj (l.map fun x=>(x.1,x.2,none))=CH l:=by
  intro l;induction l with
  | nil=>rfl
  | cons x l ih=>show nz x.2+Dj (l.map _)=nz x.2+CH l;rw[ih]
 show 0+Dj (H.cur.map fun x=>(x.1,x.2,none))<=CH H.cur+Dj H.old
 rw[e];omega
theorem L9 (hk:H.ok):H.A8.1.pz<=H.pz:=by
 unfold Hp.A8;split
 ·exact Qk _
 ·split
  ·exact Qk _
  ·rename_i ob hp
   split
   ·exact Qk _
   ·have hko:(H.As ob.AL).1.ok:=by
     have:∀ (l:List Nat) {H:Hp},H.ok->(H.As l).1.ok:=by
      intro l;induction l with
      | nil=>intro H h;exact h
      | cons p l ih=>intro H h;exact ih (Hp.Cs h p)
     exact this _ hk
    refine Qo (NW (H:=(H.As ob.AL).1) hko (pj ob.AL hp) (ob':={ ob with AL:=(H.As ob.AL).2 }) (TF fun h0=>?_)) (De ob.AL)
    cases hl:ob.AL with
    | nil=>rfl
    | cons x l =>
     rw[hl]at h0;have hx:x=0:=h0;subst hx;show (H.AA 0).2=0
     cases hz:Bj H.old 0 with
     | none=>rw[Hp.BJ hz]
     | some z=>exact absurd rfl (RO hk (by rw[hz];rfl))
theorem XU:H.A1.1.pz<=H.pz:=by
 unfold Hp.A1;split
 ·exact Qk _
 ·exact De (H:={ H with final:=H.stay H.final }) _
theorem Ga (hk:H.ok)(p:Nat):(H.drop1 p).1.pz+(H.drop1 p).2.length<=H.pz:=by
 unfold Hp.drop1;split
 ·exact Qk _
 ·rename_i ob hp
  split
  ·exact Qk _
  ·rename_i x hx
   have h0:(Bj H.old x).isSome=true->nz ob=1:=fun hs=>by
    have:=RO hk hs;unfold nz;rw[if_neg]
    cases hl:ob.AL with
    | nil=>rw[hl]at hx;cases hx
    | cons y l=>rw[hl]at hx;simp at hx;subst hx;exact this
   split
   ·exact Qk _
   ·rename_i o q hq
    have h1:=h0 (by rw[hq];rfl)
    exact NW hk hp (by rw[h1];exact Mu _)
   ·rename_i o hq
    have h1:=h0 (by rw[hq];rfl)
    have hz:nz (ob.A4 0 0)=0:=by
     unfold nz Ob.A4;rw[if_pos]
     cases ob.AL<;>rfl
    have:=U9 hz hp;show CH (up H.cur p (ob.A4 0 0))+Dj H.old+1<=CH H.cur+Dj H.old;omega
theorem Tj:∀ (l:List Nat){H:Hp},H.wf->(H.AP l).1.pz+(H.AP l).2.length<=H.pz
 | [],_,_=>Qk _
 | p::l,H,h=>by
  have h1:=Ga h.ok p;have h2:=Tj l (Hp.EU h p);show ((H.drop1 p).1.AP l).1.pz+((H.drop1 p).2++((H.drop1 p).1.AP l).2).length<=H.pz;rw[Qd];omega
theorem LO (hk:H.wf):H.drop.1.pz+H.drop.2.1.length<=H.pz:=by
 unfold Hp.drop;split
 ·exact Qk _
 ·have:=Tj H.settled.Az (Hp.Dr hk)
  show CH (H.settled.AP H.settled.Az).1.cur+0+(H.settled.AP H.settled.Az).2.length<=H.pz;have e:H.settled.pz=H.pz:=rfl;unfold Hp.pz at this e ⊢;omega
end
def Px (e:Int):Prop:=e=141\/e=100\/e=130
structure PG (kd:Int)(h h':AD)(a:Bf):Prop where
 k:a.k=2
 ne:a.e≠140
 ends:Px a.e\/(a.e=0/\kd=14)->h'.l=false/\h'.n=0/\h'.b=if a.e=141 then h.b else h.b+1
 goes:¬(Px a.e\/(a.e=0/\kd=14))->h'.l=true/\h'.n=h.n+1/\h'.b=h.b
section
variable {S : Al} {i : Nat}
theorem yb {k:Int}{h h0:AD}(e v:Int)(hk:k≠14)(he:e≠140)(hl:h.l=true)(e1:h0.b=h.b)(e2:h0.n=h.n)(e3:h0.l=h.l):PG k h (h0.ended e) ⟨2,e,v⟩:=by
 refine⟨rfl,he,fun hf=>?_,fun hf=>?_⟩
 ·have hf':e=141\/e=100\/e=130:=hf.resolve_right fun h=>hk h.2
  unfold AD.ended;simp only;by_cases h1:e=141
  ·rw[if_pos (.inl h1),if_pos h1];exact⟨rfl,rfl,e1⟩
  ·rw[if_neg (by omega),if_pos (by omega),if_neg h1];exact⟨rfl,rfl,by show h0.b+1=_;rw[e1]⟩
 ·have hf:¬(e=141\/e=100\/e=130):=fun h=>hf (.inl h)
  unfold AD.ended;rw[if_neg (by omega),if_neg (by omega)]
  exact⟨e3.trans hl,by show h0.n+1=_;rw[e2],e1⟩
theorem Po (r:Bv)(i:Nat):(r.fin i).e=r.e:=by
 unfold Bv.fin;split
 ·rfl
 ·split<;>rfl
theorem TH {r:Bv}(hl:(S.t i).live=true):(S.AH i r).e=r.e:=by unfold Al.AH;rw[if_pos hl];exact Po r i
theorem dm {k:Int}{h:AD}{r:Bv}{A:Nat}(hk:k≠14)(hlv:(S.t i).live=true)(he:r.e≠140)(hl:h.l=true):PG k h (CQ (S.AH i r) h A).h (CQ (S.AH i r) h A).a:=by
 have e0:=TH (r:=r) hlv;show PG k h (h.Mw A (S.AH i r).v (S.AH i r).e) (Ek _ (S.AH i r).e);unfold AD.Mw Ek;by_cases h0:(S.AH i r).e=0
 ·rw[if_pos h0,if_pos h0];exact yb (h0:=h.put A _) 0 _ hk (by omega) hl rfl rfl rfl
 ·rw[if_neg h0,if_neg h0];exact yb (S.AH i r).e _ hk (by rw[e0];exact he) hl rfl rfl rfl
theorem li {k v:Int}{h:AD}{r:Bv}(hk:k≠14)(hlv:(S.t i).live=true)(he:r.e≠140)(hl:h.l=true):PG k h (vy (S.AH i r).S v (S.AH i r).e h).h (vy (S.AH i r).S v (S.AH i r).e h).a:=
 yb (S.AH i r).e _ hk (by rw[TH hlv];exact he) hl rfl rfl rfl
theorem qnp (hlv:(S.t i).live=true){h:AD}(hl:h.l=true){d:Ay}(hd:d.ok):PG d.k h (S.A6 i h d).h (S.A6 i h d).a:=by
 have hkd:=hd.k;by_cases k1:d.k=1
 ·rw[gv _ _ _ _ k1];exact dm (by omega) hlv (QK _ _ _) hl
 by_cases k2:d.k=2
 ·rw[dc _ _ _ _ k2];exact dm (by omega) hlv (QK _ _ _) hl
 by_cases k3:d.k=3
 ·rw[fx _ _ _ _ k3];exact dm (by omega) hlv (Jp _ _ _) hl
 by_cases k4:d.k=4
 ·rw[gw _ _ _ _ k4];exact dm (by omega) hlv (Ml _ _ _ _) hl
 by_cases k9:d.k=9
 ·rw[gx _ _ _ _ k9];exact dm (by omega) hlv (F5 _ _ _) hl
 by_cases k10:d.k=10
 ·rw[px _ _ _ _ k10];exact dm (by omega) hlv (by have:=Jo S i;omega) hl
 by_cases k5:d.k=5
 ·rw[dd _ _ _ _ k5];exact li (by omega) hlv (Ms _ _ _ _ _) hl
 by_cases k6:d.k=6
 ·rw[fz _ _ _ _ k6];exact li (by omega) hlv (Jq _ _ _ _) hl
 by_cases k7:d.k=7
 ·rw[ff _ _ _ _ k7];exact li (by omega) hlv (Uu _ _ _ _ _) hl
 by_cases k8:d.k=8
 ·rw[fw _ _ _ _ k8];exact li (by omega) hlv (Gc _ _ _) hl
 by_cases k11:d.k=11
 ·rw[pi _ _ _ _ k11];exact yb 0 _ (by omega) (by omega) hl rfl rfl rfl
 by_cases k12:d.k=12
 ·rw[ux _ _ _ _ k12];exact yb 0 _ (by omega) (by omega) hl rfl rfl rfl
 by_cases k13:d.k=13
 ·rw[pd _ _ _ _ k13];exact yb 0 _ (by omega) (by omega) hl rfl rfl rfl
 ·have k14:d.k=14:=by omega
  rw[py _ _ _ _ k14];exact⟨rfl,(show (0:Int)≠140 by decide),fun _=>⟨rfl,rfl,rfl⟩,fun h=>absurd (.inr ⟨rfl,k14⟩) h⟩
end
end
end Go.Proofs.YteehgedabdchcaaGreat
