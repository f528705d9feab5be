import Derived.Test.YteehgedabdchcaaGreatKap
import Derived.Test.YteehgedabdchcaaGreatKay
import Derived.Maps.OwnSet
import Derived.Maps.Views
set_option linter.all false
set_option maxRecDepth 1000000
set_option maxHeartbeats 0
open Go renaming World->Aa,Calls->Ab,Value->Ac
open Go.RowKit renaming Below->Ae
open Go.Value renaming int->I,pointer->Ag,slice->Ah,tuple->Aj,agg->Ak
open Go.IntKind renaming i64->Z
open Go.Ending renaming returned->O
open Go.World renaming putObj_heap_other->Ad,alloc_heap_new->Ai,putObj_heap_same->af,size_alloc->aK,cell?->aP
open And renaming intro->aa
open List renaming nil_append->ag,size_toArray->aj,length_nil->ay,append_toArray->aB,map_cons->aD,push_toArray->aF,cons_append->aI,take_length->aJ,flatMap_cons->aO,length_drop->aQ,drop_zero->aS
open Go.Instr renaming makeFunc->ai,endRound->aM
open Array renaming replicate_succ->az,replicate_zero->aA
open Int renaming natCast_nonneg->aC,natCast_add->aR,not_lt->aU
open Go.IntWalk renaming wrap64_in->aG,i64_in->aN
open Nat renaming zero_add->aH,zero_le->aT
open Go.Value renaming int->aL
open Go.Proofs.Tryz
open Go.Proofs.Tryz renaming prog->ARt
open Go.Obj renaming cells->ARu
namespace Go.Proofs.YteehgedabdchcaaGreat
section
open Go.RowKit Go.Shelf Hp
section
variable {w w' : Aa} {o o' : Own} {y : A6} {S : An} {i : Nat}
def U5 (h:Aq w o y S)(hk:S.ok)(p j q:Nat) :
  Ab ARt 113 #[ptr y.l.h,I Z p,I Z j,I Z q] w fun e w'=>e=O (I Z ((S.H.Br p j q).2:Nat))/\Bl y { S with H:=(S.H.Br p j q).1 } o w w':=by
 obtain⟨vc,vo,vw,vf,f,hh⟩:=h.hp;refine (qid hh hk.H p j q).mono ?_
 rintro e w' ⟨rfl,bM,f',o',h1,h2⟩
 exact⟨rfl,o',h.heap ⟨_,_,_,_,_,h1⟩ h2,h2.mono fun _=>ll⟩
def Kx (h:Aq w o y S)(hk:S.ok)(p j:Nat) :
  Ab ARt 112 #[ptr y.l.h,I Z p,I Z j] w fun e w'=>e=O (Aj #[I Z ((S.H.Bi p j).2.1:Nat),I Z ((S.H.Bi p j).2.2:Nat)])/\Bl y { S with H:=(S.H.Bi p j).1 } o w w':=by
 obtain⟨vc,vo,vw,vf,f,hh⟩:=h.hp;refine (Jt hh hk.H p j).mono ?_
 rintro e w' ⟨rfl,bM,f',o',h1,h2⟩
 exact⟨rfl,o',h.heap ⟨_,_,_,_,_,h1⟩ h2,h2.mono fun _=>ll⟩
def qgj (pa:Option Addr)(n c:Nat)(w:Aa) :
  Ab ARt 132 #[.slice pa n c] w fun e w'=>e=O (.func (.func 199) #[] #[ptr w.1.size])/\w'=w.alloc (ARu #[.slice pa n c] 212):=by
 have gD:∀ (fn:Fn)(first cap:Array Ac)(w:Aa),(ai fn first cap).run ARt w=.ok (.func fn first cap) w:=fun _ _ _ _=>rfl
 go_enter func132,ntmps132;go_wp2_with fail;go_ret;exact⟨rfl,rfl⟩
structure D2 (w:Aa)(o o1:Own)(y:A6)(S:An)(us:List Un)(D bS bU:Nat)(v:Ac)(R:Loop)(H:Hp)(wr:Aa):Prop where
 st:Aq wr o1 y (S.h H)
 hL:wr.heap[D+1]?=some (.loop R)
 hD:wr.heap[D]?=some (.deferred (some []))
 jS:Al wr bS #[ptr y.sb] 24
 jU:Al wr bU #[v] 212
 row:Row wr o1 (y.l.id+1,0) 175 4 v us.length (zk us)
 sp:Stp (qo y) o o1 w wr
 tL:o1 (D+1)=(y.l.id+1,0)
 tD:o1 D=(y.l.id+1,0)
 tS:o1 bS=(y.l.id+1,0)
 tU:o1 bU=(y.l.id+1,0)
def Row.B7 {w:Aa}{o:Own}{t:Tag}{e:TypeId}{size:Nat}{v:Ac}{n:Nat}{xs:List Ac}(h:Row w o t e size v n xs) :
  (v=Ah none 0 0/\xs=[])\/∃ g cap,v=Ah (some ⟨g,0,none⟩) n cap/\n<=cap:=by
 rcases h.own.2 with ⟨rfl,h2⟩|⟨g,cap,cur,rfl,_,hg,hn,hc,_⟩
 ·exact .inl ⟨rfl,List.eq_nil_of_length_eq_zero (by rw[h.own.1,h2];omega)⟩
 ·exact .inr ⟨g,cap,rfl,hn⟩
def Row.put {w:Aa}{o:Own}{t:Tag}{e:TypeId}{size:Nat}{v:Ac}{n:Nat}{xs:List Ac}(h:Row w o t e size v n xs){l:Nat}{R:Loop}(hl:w.heap[l]?=some (.loop R))(x:Obj):Row (w.putObj l x) o t e size v n xs:=by
 obtain⟨⟨h1,h2⟩,h3⟩:=h;refine⟨⟨h1,?_⟩,h3⟩;rcases h2 with h2|⟨g,cap,cur,rfl,hg,hh,r⟩
 ·exact .inl h2
 ·refine .inr ⟨g,cap,cur,rfl,hg,(Ad fun e=>?_).trans hh,r⟩
  rw[e,hl]at hh;cases hh
def Stp.put {T:Tag->Prop}{o o':Own}{w w':Aa}(h:Stp T o o' w w'){l:Nat}(hl:T (o' l))(x:Obj):Stp T o o' w (w'.putObj l x):=
 h.trans ⟨rfl,rfl,rfl,by simp,fun _ _=>rfl,fun b _ ht=>Ad fun e=>ht (by rw[e];exact hl)⟩
def Stp.CJ {T:Tag->Prop}{o o':Own}{w w':Aa}(h:Stp T o o' w w'){l:Nat}(hl:w.1.size<=l)(x:Obj):Stp T o o' w (w'.putObj l x):=
 ⟨h.os,h.tape,h.output,by simpa using h.size,h.tags,fun b hb ht=>(Ad (by omega)).trans (h.block b hb ht)⟩
def Aq.put (h:Aq w o y S){l:Nat}(ht:o l=(y.l.id+1,0))(x:Obj):Aq (w.putObj l x) o y S:=
 h.Ao (T:=fun t=>t=(y.l.id+1,0)) ((Stp.refl _ o w).put ht x) fun j=>by simp
section
variable {o1 o2 : Own} {us : List Un} {D bS bU : Nat} {v : Ac} {R : Loop} {l l' : Hp} {wr w2 : Aa}
def D2.Cz (h:D2 w o o1 y S us D bS bU v R l wr)(hs:Stp (qo y) o1 o2 wr w2)(st:Aq w2 o2 y (S.h l')):D2 w o o2 y S us D bS bU v R l' w2:=
 have lL:=(Qf.1 h.hL).1
 have lD:=(Qf.1 h.hD).1
 ⟨st,(hs.block _ lL (by rw[h.tL];exact qy y)).trans h.hL,(hs.block _ lD (by rw[h.tD];exact qy y)).trans h.hD,h.jS.Ao hs (by rw[h.tS];exact qy y),h.jU.Ao hs (by rw[h.tU];exact qy y),
  h.row.Ao hs (qy y),h.sp.trans hs,(hs.tags _ lL).trans h.tL,(hs.tags _ lD).trans h.tD,(hs.tags _ h.jS.lt).trans h.tS,(hs.tags _ h.jU.lt).trans h.tU⟩
def D2.below (h:D2 w o o1 y S us D bS bU v R l wr)(hb:Ae wr.1.size wr w2):D2 w o o1 y S us D bS bU v R l w2:=
 h.Cz (Stp.of_below hb) (h.st.below hb)
def D2.re (h:D2 w o o1 y S us D bS bU v R l wr):D2 w o (ext o1 wr.1.size (y.l.id+1,0)) y S us D bS bU v R l wr:=
 have hs:Stp (qo y) o1 (ext o1 wr.1.size (y.l.id+1,0)) wr wr:=(Stp.refl _ _ _).ext _ _ (Qk _)
 h.Cz hs (h.st.retag fun _ hb=>qr hb)
def D2.put (h:D2 w o o1 y S us D bS bU v R l wr)(hw:w.1.size<=D)(R':Loop):D2 w o o1 y S us D bS bU v R' l (wr.putObj (D+1) (.loop R')):=by
 have n1:bS≠D+1:=fun e=>by have:=h.jS;unfold Al at this;rw[e,h.hL]at this;cases this
 have n2:bU≠D+1:=fun e=>by have:=h.jU;unfold Al at this;rw[e,h.hL]at this;cases this
 exact⟨h.st.put h.tL _,af (Qf.1 h.hL).1,(Ad (by omega)).trans h.hD,h.jS.put n1,h.jU.put n2,h.row.put h.hL _,h.sp.CJ (by omega) _,h.tL,h.tD,h.tS,h.tU⟩
def Row.NZ {w:Aa}{o:Own}{t:Tag}{l:List Un}{g n cap:Nat}(h:Row w o t 175 4 (Ah (some ⟨g,0,none⟩) n cap) n (zk l))(i:Nat)(x:Un)(hx:l[i]?=some x) :
  w.cell? ⟨g,i*4,none⟩=some (I Z x.kind)/\w.cell? ⟨g,i*4+1,none⟩=some (I Z x.pos)/\w.cell? ⟨g,i*4+2,none⟩=some (I Z x.i)/\w.cell? ⟨g,i*4+3,none⟩=some (I Z x.old):=by
 obtain⟨h1,h2,h3,h4⟩:=XY l i x hx;have f:=fun j u hu=>h.own.cells (g:=g) rfl j u hu
 have e:∀ j,(⟨g,0,none⟩:Addr).add j=⟨g,j,none⟩:=fun j=>by unfold Addr.add;split<;>simp_all
 have a1:=f _ _ h1;have a2:=f _ _ h2;have a3:=f _ _ h3;have a4:=f _ _ h4;rw[e]at a1 a2 a3 a4;rw[Nat.mul_comm i 4];exact⟨a1,a2,a3,a4⟩
end
end
def qpg (w:Aa):Ab ARt 201 #[Ah none 0 0,I Z 0] w fun e w'=>e=O (Ah none 0 0)/\w=w':=by
 go_enter func201,ntmps201;go_wp2_with fail;go_ret;exact⟨rfl,rfl⟩
end
section
open Go.RowKit Hp
def Dc:∀ (l:List Bg)(k:Nat)(x:Bg),l[k]?=some x->∀ j,j<6->(qq l)[k*6+j]?=[aL .i64 x.t,I Z x.b,I Z x.n,I Z x.a.k,I Z x.a.e,I Z x.a.v][j]?
 | [],_,_,h,_,_=>by simp at h
 | z::l,0,x,h,j,hj=>by
  simp at h;subst h;have e:qq (z::l)=[aL .i64 z.t,I Z z.b,I Z z.n,I Z z.a.k,I Z z.a.e,I Z z.a.v]++qq l:=rfl;rw[e,Nat.zero_mul,aH,Qm (by simpa using hj)]
 | z::l,k+1,x,h,j,hj=>by
  have ih:=Dc l k x (by simpa using h) j hj
  have e:qq (z::l)=[aL .i64 z.t,I Z z.b,I Z z.n,I Z z.a.k,I Z z.a.e,I Z z.a.v]++qq l:=rfl;rw[e,show (k+1)*6+j=6+(k*6+j) from by omega,Ql (by simp),<-ih]
  congr 1;simp
structure Ln (w:Aa)(g b:Nat)(x:Bg):Prop where
 c0:w.cell? ⟨g,b,none⟩=some (I Z x.t)
 c1:w.cell? ⟨g,b+1,none⟩=some (I Z x.b)
 c2:w.cell? ⟨g,b+2,none⟩=some (I Z x.n)
 c3:w.cell? ⟨g,b+3,none⟩=some (I Z x.a.k)
 c4:w.cell? ⟨g,b+4,none⟩=some (I Z x.a.e)
 c5:w.cell? ⟨g,b+5,none⟩=some (I Z x.a.v)
def Row.en6 {w:Aa}{o:Own}{tg:Tag}{e:TypeId}{n cap:Nat}{pa:Option Addr}{l:List Bg}(hr:Row w o tg e 6 (.slice pa n cap) n (qq l)){t:Nat}{x:Bg}(ht:l[t]?=some x) :
  ∃ g,pa=some ⟨g,0,none⟩/\n<=cap/\Ln w g (t*6) x:=by
 have ha:=Dc l t x ht;rcases hr.B7 with ⟨_,h0⟩|⟨g,cap',e',hn⟩
 ·have:=ha 0 (by omega)
  rw[h0]at this;simp at this
 ·injection e' with e1 _ e3
  subst e1 e3;have f:∀ k u,k<6->[aL .i64 x.t,I Z x.b,I Z x.n,I Z x.a.k,I Z x.a.e,I Z x.a.v][k]?=some u->w.cell? ⟨g,t*6+k,none⟩=some u:=fun k u hk hu=>by
   have:=hr.own.cells (g:=g) rfl (t*6+k) u ((ha k hk).trans hu);rwa [addr_add]at this
  exact⟨g,rfl,hn,f 0 _ (by omega) rfl,f 1 _ (by omega) rfl,f 2 _ (by omega) rfl,f 3 _ (by omega) rfl,f 4 _ (by omega) rfl,f 5 _ (by omega) rfl⟩
end
section
open Go.RowKit Go.Shelf Hp
attribute [local go_sem] Oper.semAt_some
def sn (b:Nat)(w:Aa) :
  Ab ARt 128 #[ptr b] w fun e w'=>e=O (.func (.func 191) #[] #[ptr w.1.size])/\w'=w.alloc (ARu #[ptr b] 105):=by
 have gD:∀ (fn:Fn)(first cap:Array Ac)(w:Aa),(ai fn first cap).run ARt w=.ok (.func fn first cap) w:=fun _ _ _ _=>rfl
 go_enter func128,ntmps128;go_wp2_with fail;go_ret;exact⟨rfl,rfl⟩
structure PlJ (l bL b:Nat)(R:Loop)(mr mu:Nat)(vr vk vh vu:Ac)(us:List Un)(bA:Nat)(wr:Aa):Prop where
 jA:Al wr bA #[vr,vk] 25
 jL:Al wr bL #[ptr b] 105
 jB:Al wr b #[I Z mr,I Z mu,vr,vk,vh,vu] 219
 hl:wr.heap[l]?=some (.loop R)
 kd:∀ (j:Nat) u,us[j]?=some u->wr.cell? ⟨vn vu,j*4,none⟩=some (nv u.kind)
def dv {l bL b mr mu:Nat} {R:Loop} {vr vk vh vu:Ac} {L:Lg} {W1:Aa} {Post:Ending->Aa->Prop} (J:Nat->Nat->Aa->Prop)
  (hRs:R.params.size=1) (n1:L.reads.length<=200) (n2:L.keeps.length<=200) (n3:L.holds.length<=200) (n4:L.Ay.length<=200)
  (fr:∃ a c,vr=.slice a L.reads.length c/\(0<L.reads.length->a=some ⟨vn vr,0,none⟩)) (fk:∃ a c,vk=.slice a L.keeps.length c/\(0<L.keeps.length->a=some ⟨vn vk,0,none⟩))
  (fh:∃ a c,vh=.slice a L.holds.length c/\(0<L.holds.length->a=some ⟨vn vh,0,none⟩)) (fu:∃ a c,vu=.slice a L.Ay.length c/\(0<L.Ay.length->a=some ⟨vn vu,0,none⟩))
  (jL:Al W1 bL #[ptr b] 105) (jB:Al W1 b #[I Z mr,I Z mu,vr,vk,vh,vu] 219)
  (hJ0:∀ W2 bA,Ae W1.1.size W1 W2->W1.1.size<=bA->Al W2 bA #[vr,vk] 25->J bA 0 W2)
  (hJ:∀ bA m wr,J bA m wr->PlJ l bL b R mr mu vr vk vh vu L.Ay bA wr)
  (rR:∀ bA m wr a T,J bA m wr->(xr vr vk vh vu L)[m]?=some a->T=(R.params.zip #[Ag (some a)]).foldl (fun tmps (t,a)=>tmps.setIfInBounds t a) R.tmps ->
   RoundIn Fence.wide 1 ARt l R.fn T R.assign R.body wr fun e W'=>e=O (.bool true)/\J bA (m+1) W')
  (cK:∀ bA wr,J bA (xr vr vk vh vu L).length wr->Post (O (Aj #[])) wr) :
  CallsIn Fence.wide 2 ARt 191 #[.func (.yield l) #[] #[],ptr bL] W1 Post:=by
 obtain⟨ar,cr,rfl,far⟩:=fr;obtain⟨ak,ck,rfl,fak⟩:=fk;obtain⟨gh,hgh⟩:=Ja0 (vn vh);obtain⟨gu,hgu⟩:=Ja0 (vn vu);rw[<-hgh]at fh;rw[<-hgu]at fu;have HGh:=Qa hgh;have HGu:=Qa hgu;clear hgh hgu;obtain⟨ah,ch,rfl,fah⟩:=fh;obtain⟨au,cu,rfl,fau⟩:=fu;have HJ0:=Qa hJ0;have HJ:=Qa hJ;have HR:=Qa rR;have HP:=Qa cK;have HRs:=Qa hRs;have hyi:=Qa (fun (wr:Aa) (a:Addr) (hl:wr.heap[l]?=some (.loop R))=>run_yield (P:=ARt) (args:=#[Ag (some a)]) hl (by rw[hRs];rfl))
 have cL:=jL.cell;have cB:=jB.cell;have HF:=Qa (aa far (aa fak (aa fah fau)));clear hJ0 hJ rR cK hRs far fak fah fau;refine callsIn_of_wp func191 rfl trivial ?_ rfl;simp only[ntmps191,aj,Qv,ay,Nat.reduceAdd,Nat.reduceSub,az,aA,aF,aB,ag,aI];gi_wp2;gi_region;gi_wp2;obtain⟨W2,hW2⟩:=Ja0 ((W1.alloc (ARu #[.slice ar L.reads.length cr,.slice ak L.keeps.length ck] 25)).drew);obtain⟨bA,bQ⟩:=Ja0 W1.1.size;rw[<-hW2,<-bQ];have hst:=HJ0.out W2 bA (by rw[hW2];exact qf (qc (qd _) _)) (by omega) (by rw[hW2,bQ];exact qj (Al.new W1 _ _))
 clear hW2 bQ cL cB jL jB HJ0;gi_loopw [21] (fun ix wr=>∃ (t:Nat),ix=I Z t/\t<=2/\J bA (if t=0 then 0 else if t=1 then L.reads.length else L.reads.length+L.keeps.length) wr) (fun ix _=>2-(intOf ix).toNat)
 case atStart=>exact⟨0,rfl,by omega,hst⟩
 case round =>
  clear hst;obtain⟨t,rfl,ht,hA⟩:=hrel;obtain⟨wo,rfl⟩:=Ja0 wr;have hP:=HJ.out _ _ _ hA;have cA:=hP.jA.cell;by_cases hlt:t<2
  ·have h2I:(t:Int)<2:=by omega
   obtain⟨v,a,n,c,g,base,hv,hbase,hn,hg,had⟩:∃ (v:Ac) (a:Option Addr) (n c g base:Nat),v=.slice a n c/\base=(if t=0 then 0 else L.reads.length)/\n<=200/\(0<n->a=some ⟨g,0,none⟩) /\
     (wo.cell? ⟨bA,t,none⟩=some v/\base+n=(if t=0 then L.reads.length else L.reads.length+L.keeps.length)/\∀ j,j<n->(xr (.slice ar L.reads.length cr) (.slice ak L.keeps.length ck) (.slice ah L.holds.length ch) (.slice au L.Ay.length cu) L)[base+j]?=some ⟨g,j,none⟩):=by
    obtain rfl|rfl:t=0\/t=1:=by omega
    ·refine⟨_,ar,L.reads.length,cr,_,0,rfl,rfl,n1,HF.out.1,cA 0,by simp,fun j hj=>?_⟩
     rw[aH];exact Mz _ _ _ _ _ hj
    ·refine⟨_,ak,L.keeps.length,ck,_,L.reads.length,rfl,rfl,n2,HF.out.2.1,cA 1,by simp,fun j hj=>?_⟩
     exact My _ _ _ _ _ hj
   subst hv;obtain⟨ct,hbn,had⟩:=had;have hA':J bA base wo:=by
    rw[hbase];obtain rfl|rfl:t=0\/t=1:=by omega
    ·exact hA
    ·exact hA
   have HAD:=Qa had;have HG:=Qa hg;have HBN:=Qa hbn;clear had hg hbn hA cA hP hbase;gi_wp2;gi_loopw [27] (fun ix wr=>∃ (j:Nat),ix=I Z j/\j<=n/\J bA (base+j) wr) (fun ix _=>n-(intOf ix).toNat)
   case atStart=>exact⟨0,rfl,by omega,hA'⟩
   case round =>
    clear hA' ct;obtain⟨j,rfl,hj,hA⟩:=hrel;obtain⟨wo,rfl⟩:=Ja0 wr;by_cases hjn:j<n
    ·have hjI:(j:Int)<(n:Int):=by omega
     have hg2:=HG.out (by omega)
     subst hg2;have hl:=(HJ.out _ _ _ hA).hl;have hy:=hyi.out wo ⟨g,j,none⟩ hl;obtain⟨T,hT⟩:=Ja0 ((R.params.zip #[Ag (some ⟨g,j,none⟩)]).foldl (fun tmps (t,a)=>tmps.setIfInBounds t a) R.tmps);rw[<-hT]at hy;have dI:=HR.out bA (base+j) wo ⟨g,j,none⟩ T hA (HAD.out j hjn) hT;clear hl hA hT;gi_wp2;refine dI.mono ?_;rintro e w3 ⟨rfl,hA3⟩;clear hy dI;gi_wp2;go_roundw
     case rel=>exact⟨j+1,by simp,by omega,hA3⟩
     case measure=>simp[intOf];omega
    ·obtain rfl:j=n:=by omega
     gi_wp2;go_roundw
     case rel=>exact⟨t+1,by simp,by omega,by rw[HBN.out]at hA;obtain rfl|rfl:t=0\/t=1:=(by omega)<;>exact hA⟩
     case measure=>simp[intOf];omega
  ·obtain rfl:t=2:=by omega
   rw[show ((2:Nat):Int)=2 from rfl];simp only[Nat.reduceEqDiff,if_false]at hA;obtain⟨nh,dJ⟩:=Ja0 L.holds.length;have cL:=hP.jL.cell;have cB:=hP.jB.cell;clear hlt cA hP;gi_wp2;gi_loopw [43] (fun ix wr=>∃ (j:Nat),ix=I Z j/\j<=L.holds.length/\J bA (L.reads.length+L.keeps.length+j) wr) (fun ix _=>L.holds.length-(intOf ix).toNat)
   case atStart=>exact⟨0,rfl,by omega,hA⟩
   case round =>
    clear hA cL cB;obtain⟨j,rfl,hj,hA⟩:=hrel;obtain⟨wo,rfl⟩:=Ja0 wr;have hP:=HJ.out _ _ _ hA;have cL:=hP.jL.cell;have cB:=hP.jB.cell;by_cases hjn:j<L.holds.length
    ·have hjI:(j:Int)<(L.holds.length:Int):=by omega
     have hg2:=HF.out.2.2.1 (by omega)
     have hl:=hP.hl;have had:=Mx (.slice ar L.reads.length cr) (.slice ak L.keeps.length ck) (.slice ah L.holds.length ch) (.slice au L.Ay.length cu) L hjn;rw[<-HGh.out]at had;have hy:=hyi.out wo ⟨gh,j*2,none⟩ hl;obtain⟨T,hT⟩:=Ja0 ((R.params.zip #[Ag (some ⟨gh,j*2,none⟩)]).foldl (fun tmps (t,a)=>tmps.setIfInBounds t a) R.tmps);rw[<-hT]at hy;have dI:=HR.out bA _ wo _ T hA had hT;have HG2:=Qa hg2;clear hl hA hT hP had hg2;rw[HG2.out]at cB;gi_wp2;refine dI.mono ?_;rintro e w3 ⟨rfl,hA3⟩;clear hy dI cL cB;gi_wp2;go_roundw
     case rel=>exact⟨j+1,by simp,by omega,hA3⟩
     case measure=>simp[intOf];omega
    ·obtain rfl:j=L.holds.length:=by omega
     clear hjn hP;gi_wp2;gi_loopw [62] (fun ix wr=>∃ (j:Nat),ix=I Z j/\j<=L.Ay.length/\J bA (L.reads.length+L.keeps.length+L.holds.length+kv L.Ay j) wr) (fun ix _=>L.Ay.length-(intOf ix).toNat)
     case atStart=>exact⟨0,rfl,by omega,hA⟩
     case round =>
      clear hA cL cB;obtain⟨j,rfl,hj,hA⟩:=hrel;obtain⟨wo,rfl⟩:=Ja0 wr;have hP:=HJ.out _ _ _ hA;have cL:=hP.jL.cell;have cB:=hP.jB.cell;by_cases hjn:j<L.Ay.length
      ·have hjI:(j:Int)<(L.Ay.length:Int):=by omega
       have hg2:=HF.out.2.2.2 (by omega)
       have hl:=hP.hl;obtain⟨u,hu⟩:∃ u,L.Ay[j]?=some u:=⟨_,Qb hjn⟩;obtain⟨ha1,ha2⟩:=qh0 gu L.Ay 0 j u hu;have had:=MA (.slice ar L.reads.length cr) (.slice ak L.keeps.length ck) (.slice ah L.holds.length ch) (.slice au L.Ay.length cu) L;rw[<-HGu.out]at had;rw[aH]at ha1 ha2;have hy:=hyi.out wo ⟨gu,j*4+1,none⟩ hl;obtain⟨T,hT⟩:=Ja0 ((R.params.zip #[Ag (some ⟨gu,j*4+1,none⟩)]).foldl (fun tmps (t,a)=>tmps.setIfInBounds t a) R.tmps);rw[<-hT]at hy;have dI:=HR.out bA _ wo _ T hA ((had _).trans ha1) hT;have hcs:=qh7 hu;have HG2:=Qa hg2;have HU:=Qa hu;have HA2:=Qa (fun hk=>(had _).trans (ha2 hk));have HCS:=Qa hcs;clear hl hA hT hP had hg2 hu ha1 ha2 hcs;rw[HG2.out]at cB;gi_wp2;refine dI.mono ?_;rintro e w3 ⟨rfl,hA3⟩;clear hy dI cL cB;have hP3:=HJ.out _ _ _ hA3;have ck3:=hP3.kd j u HU.out;rw[<-HGu.out]at ck3;by_cases hk:u.kind=1
       ·rw[hk]at ck3
        have ck4:w3.cell? ⟨gu,j*4,none⟩=some (I Z 1):=ck3;have hy:=hyi.out w3 ⟨gu,j*4+3,none⟩ hP3.hl;obtain⟨T,hT⟩:=Ja0 ((R.params.zip #[Ag (some ⟨gu,j*4+3,none⟩)]).foldl (fun tmps (t,a)=>tmps.setIfInBounds t a) R.tmps);rw[<-hT]at hy;have dI:=HR.out bA _ w3 _ T hA3 (by rw[Nat.add_assoc];exact HA2.out hk) hT
        have fZ:=Qa (show L.reads.length+L.keeps.length+L.holds.length+kv L.Ay j+1+1=L.reads.length+L.keeps.length+L.holds.length+kv L.Ay (j+1) by have:=HCS.out;rw[if_pos hk]at this;omega)
        clear hP3 hA3 hT ck3 hk;gi_wp2;refine dI.mono ?_;rintro e w4 ⟨rfl,fG⟩;clear hy dI ck4;gi_wp2;go_roundw
        case rel=>exact⟨j+1,by simp,by omega,by rw[<-fZ.out];exact fG⟩
        case measure=>simp[intOf];omega
       ·have hkb:((u.kind:Int)==1)=false:=by rw[Qh];omega
        have ck4:w3.cell? ⟨gu,j*4,none⟩=some (I Z u.kind):=ck3;have fZ:=Qa (show L.reads.length+L.keeps.length+L.holds.length+kv L.Ay j+1=L.reads.length+L.keeps.length+L.holds.length+kv L.Ay (j+1) by have:=HCS.out;rw[if_neg hk]at this;omega)
        clear hP3 ck3 hk;gi_wp2;refine aa (fun _ hf=>nomatch hf) ?_;first
         | (rename_i zG _;refine zG _ _ ?_)
         | (rename_i zG _ _;refine zG _ _ ?_)
         | (rename_i zG _ _ _;refine zG _ _ ?_)
         | (rename_i zG _ _ _ _;refine zG _ _ ?_)
        gi_wp2;go_roundw
        case rel=>exact⟨j+1,by simp,by omega,by rw[<-fZ.out];exact hA3⟩
        case measure=>simp[intOf];omega
      ·obtain rfl:j=L.Ay.length:=by omega
       have hfin:=Qa (HP.out bA wo (by
        have e:(xr (.slice ar L.reads.length cr) (.slice ak L.keeps.length ck) (.slice ah L.holds.length ch) (.slice au L.Ay.length cu) L).length=L.reads.length+L.keeps.length+L.holds.length+kv L.Ay L.Ay.length:=by
         rw[vj];unfold Lg.roots kv;rw[aJ];simp only[Qd,Qg]
        rw[e];exact hA))
       gi_wp2;exact bodyPost_ret (results_none rfl _ _ _) rfl hfin.out
def nj {F:Fence}{n:Nat}{P:Program}(w:Aa){ops:Array Oper}{rest:List Oper}{op:Oper}{a:Act}{Q:Exit->Act->Aa->Prop}(hgd:op.guard=none)(s x:Operand)(t:TypeId)
  (ho:op.op=.call { callee:=.builtin .append,args:=#[s,x],argTypes:=#[t,t] })
  (e:TypeId)(i:TypeInfo)(z:Ac)(size bytes:Nat)(ht:P.underlying t=some (.slice e))(hi:P.info? e=some i)(hz:i.zero=some z)
  (hsize:i.size=size)(hby:i.bytes=bytes)(hzs:z.cells.size=size)(hsz:0<size)
  (o:Own)(tg:Tag)(v:Ac)(k:Nat)(xs:List Ac)(hs:a.eval s=v)(hown:Row w o tg e size v k xs)
  (ad:Addr)(m c:Nat)(news:List Ac)(hx:a.eval x=Ah (some ad) m c)(hl:news.length=m*size)(hnews:∀ j u,news[j]?=some u->w.cell? (ad.add j)=some u)(h1:∀ u ∈ news,u.oneCell'=true)
  (h63:k+m<=maxLen)(hbytes:(k+m)*bytes<=140737488355328)
  (h:∀ v' w',Row w' (ext o w.1.size tg) tg e size v' (k+m) (xs++news)->Stp (fun u=>u=tg) o (ext o w.1.size tg) w w'->wpListIn F n P ops Q rest (a.put op.dst v') w'):wpListIn F n P ops Q (op::rest) a w:=by
 refine wpListIn_plain hgd fun K hK'=>?_
 obtain⟨v',w',hrun,r1,r2⟩:=xq (P:=P) w t op.type e i z size bytes ht hi hz hsize hby hzs hsz o tg v k xs hown ad m c news hl hnews h1 h63 hbytes;unfold Oper.wpIn;refine⟨?_,?_⟩
 ·simp[Oper.about,ho,resolve,Target.leads,Sem.run_pure]
 ·rw[Oper.semAt_plain F _ _ (by rw[ho];intro c hc';cases hc')]
  simp[execOp,ho,resolve,invoke,builtin,hs,hx,hrun,Result.andThen];exact hK' _ _ (h v' w' r1 r2)
def Bo.SY {w:Aa}{o:Own}{id k b:Nat}{L:Lg}{vr vk vh vu:Ac}(h:Bo w o id k b L vr vk vh vu) :
  (∃ a c,vr=.slice a L.reads.length c/\(0<L.reads.length->a=some ⟨vn vr,0,none⟩))/\(∃ a c,vk=.slice a L.keeps.length c/\(0<L.keeps.length->a=some ⟨vn vk,0,none⟩)) /\
  (∃ a c,vh=.slice a L.holds.length c/\(0<L.holds.length->a=some ⟨vn vh,0,none⟩))/\(∃ a c,vu=.slice a L.Ay.length c/\(0<L.Ay.length->a=some ⟨vn vu,0,none⟩)):=by
 have f:∀ {e:TypeId}{size n:Nat}{t:Tag}{v:Ac}{xs:List Ac},Row w o t e size v n xs->∃ a c,v=.slice a n c/\(0<n->a=some ⟨vn v,0,none⟩):=by
  intro e size n t v xs hr;obtain⟨a,c,rfl⟩:=hr.AS;refine⟨a,c,rfl,fun hn=>?_⟩;obtain⟨cap,e1,_⟩:=mo hr hn;injection e1
 exact⟨f h.rr,f h.rk,f h.rh,f h.ru⟩
def Bo.kinds {w:Aa}{o:Own}{id k b:Nat}{L:Lg}{vr vk vh vu:Ac}(h:Bo w o id k b L vr vk vh vu)(j:Nat)(u:Un)(hu:L.Ay[j]?=some u):w.cell? ⟨vn vu,j*4,none⟩=some (nv u.kind):=by
 have hn:0<L.Ay.length:=by have:=(Qc.1 hu).1;omega
 obtain⟨cap,ev,_⟩:=mo h.ru hn;have hr:=h.ru;rw[ev]at hr;exact (hr.NZ j u hu).1
def sq:∀ (us:List Un)(l:List Nat),(xc us l).map (·.kind)=us.map (·.kind)
 | [],_=>rfl
 | u::us,l=>by
  unfold xc;split
  ·rw[aD,aD,sq us]
  ·rw[aD,aD,sq us]
def Bo.FF {w:Aa}{o:Own}{id k b:Nat}{L:Lg}{q:List Nat}{vr vk vh vu:Ac}(h:Bo w o id k b (L.put q) vr vk vh vu)(j:Nat)(u:Un)(hu:L.Ay[j]?=some u):w.cell? ⟨vn vu,j*4,none⟩=some (nv u.kind):=by
 have e:=congrArg (fun l=>l[j]?) (sq L.Ay (q.drop (L.reads.length+L.keeps.length+L.holds.length)))
 simp only[Qj,hu,Option.map_some]at e;obtain⟨z,hz,hk⟩:=Option.map_eq_some_iff.1 e;rw[h.kinds j z hz,hk]
abbrev tR:Tag:=(1,0)
abbrev tB:Tag:=(2,0)
structure Ew (w:Aa)(b:Nat)(L:Lg)(vr vk vh vu:Ac)(D bL bR:Nat)(R:Loop)(bA m:Nat)(o1:Own)(v:Ac)(wr:Aa):Prop where
 sp:Stp T2 Ef o1 w wr
 hL:wr.heap[D+1]?=some (.loop R)
 hD:wr.heap[D]?=some (.deferred (some []))
 jA:Al wr bA #[vr,vk] 25
 jL:Al wr bL #[ptr b] 105
 jR:Al wr bR #[v] 25
 row:Row wr o1 tR 3 1 v m ((L.roots.take m).map nv)
 tL:o1 (D+1)=tB
 tD:o1 D=tB
 tA:o1 bA=tB
 tl:o1 bL=tB
 tr:o1 bR=tB
section
variable {w : Aa} {b : Nat} {L : Lg} {vr vk vh vu : Ac} {D bL bR : Nat} {R : Loop} {bA m : Nat} {o1 o2 : Own} {v : Ac} {wr w2 : Aa}
def Ew.Cz (h:Ew w b L vr vk vh vu D bL bR R bA m o1 v wr){T:Tag->Prop}(hs:Stp T o1 o2 wr w2)(hB:¬T tB)(hR:¬T tR)(hT:∀ t,T t->T2 t):Ew w b L vr vk vh vu D bL bR R bA m o2 v w2:=
 have lL:=(Qf.1 h.hL).1
 have lD:=(Qf.1 h.hD).1
 ⟨h.sp.trans (hs.mono hT),(hs.block _ lL (by rw[h.tL];exact hB)).trans h.hL,(hs.block _ lD (by rw[h.tD];exact hB)).trans h.hD,h.jA.Ao hs (by rw[h.tA];exact hB),h.jL.Ao hs (by rw[h.tl];exact hB),h.jR.Ao hs (by rw[h.tr];exact hB),h.row.Ao hs hR,
  (hs.tags _ lL).trans h.tL,(hs.tags _ lD).trans h.tD,(hs.tags _ h.jA.lt).trans h.tA,(hs.tags _ h.jL.lt).trans h.tl,(hs.tags _ h.jR.lt).trans h.tr⟩
def Ew.below (h:Ew w b L vr vk vh vu D bL bR R bA m o1 v wr)(hb:Ae wr.1.size wr w2):Ew w b L vr vk vh vu D bL bR R bA m o1 v w2:=
 h.Cz (T:=fun _=>False) (Stp.of_below hb) id id fun _ h=>h.elim
end
section
variable {w : Aa} {b : Nat} {L : Lg} {vr vk vh vu : Ac} {D bL bR : Nat} {R : Loop} {bA m : Nat} {o1 o2 : Own} {v : Ac} {wr w2 : Aa}
def Ew.put (h:Ew w b L vr vk vh vu D bL bR R bA m o1 v wr)(hw:w.1.size<=D)(R':Loop):Ew w b L vr vk vh vu D bL bR R' bA m o1 v (wr.putObj (D+1) (.loop R')):=by
 have n1:bA≠D+1:=fun e=>by have:=h.jA;unfold Al at this;rw[e,h.hL]at this;cases this
 have n2:bL≠D+1:=fun e=>by have:=h.jL;unfold Al at this;rw[e,h.hL]at this;cases this
 have n3:bR≠D+1:=fun e=>by have:=h.jR;unfold Al at this;rw[e,h.hL]at this;cases this
 exact⟨h.sp.CJ (by omega) _,af (Qf.1 h.hL).1,(Ad (by omega)).trans h.hD,h.jA.put n1,h.jL.put n2,h.jR.put n3,h.row.put h.hL _,h.tL,h.tD,h.tA,h.tl,h.tr⟩
def RN:¬(tB=tR):=fun e=>by simp at e
def Ew.appended {v':Ac}{x:Nat}(h:Ew w b L vr vk vh vu D bL bR R bA m o1 v wr)(hs:Stp (fun u=>u=tR) o1 o2 wr w2)(hrow:Row w2 o2 tR 3 1 v' (m+1) ((L.roots.take m).map nv++[I Z x]))(htk:(L.roots.take (m+1)).map nv=(L.roots.take m).map nv++[nv x]) :
  Al w2 bR #[v] 25/\Ew w b L vr vk vh vu D bL bR R bA (m+1) o2 v' (w2.setCell ⟨bR,0,none⟩ v'):=by
 have lL:=(Qf.1 h.hL).1;have lD:=(Qf.1 h.hD).1;have dY:Al w2 bR #[v] 25:=h.jR.Ao hs (by rw[h.tr];exact RN)
 have tr2:o2 bR=tB:=(hs.tags _ h.jR.lt).trans h.tr;have k:Stp (fun u=>u=tB) o2 o2 w2 (w2.setCell ⟨bR,0,none⟩ v'):=(Stp.refl _ o2 w2).setCell (by show o2 bR=tB;exact tr2) v'
 have hL2:=(hs.block _ lL (by rw[h.tL];exact RN)).trans h.hL
 have hD2:=(hs.block _ lD (by rw[h.tD];exact RN)).trans h.hD
 have pG:=h.jA.Ao hs (by rw[h.tA];exact RN)
 have qH:=h.jL.Ao hs (by rw[h.tl];exact RN)
 have n1:bA≠bR:=fun e=>by unfold Al at pG dY;rw[e,dY]at pG;simp at pG
 have n2:bL≠bR:=fun e=>by unfold Al at qH dY;rw[e,dY]at qH;simp at qH
 have n3:D≠bR:=fun e=>by unfold Al at dY;rw[e,dY]at hD2;cases hD2
 have n4:D+1≠bR:=fun e=>by unfold Al at dY;rw[e,dY]at hL2;cases hL2
 refine⟨dY,(h.sp.trans (hs.mono fun _ h=>Or.inl h)).trans (k.mono fun _ h=>Or.inr h),(Below.heap_setCell _ _ _ _ n4).trans hL2,(Below.heap_setCell _ _ _ _ n3).trans hD2,pG.Am n1 _,qH.Am n2 _,dY.set 0 v',?_,(hs.tags _ lL).trans h.tL,(hs.tags _ lD).trans h.tD,(hs.tags _ h.jA.lt).trans h.tA,(hs.tags _ h.jL.lt).trans h.tl,tr2⟩
 rw[htk];exact hrow.Ao k (fun e=>RN e.symm)
def Row.Uk {e:TypeId}{size n:Nat}{t:Tag}{o:Own}{v:Ac}{xs:List Ac}(h:Row wr o t e size v n xs){l:Nat}{ds:Option (List Deferred)}(hl:wr.heap[l]?=some (.deferred ds))(x:Obj):Row (wr.putObj l x) o t e size v n xs:=by
 obtain⟨⟨h1,h2⟩,h3⟩:=h;refine⟨⟨h1,?_⟩,h3⟩;rcases h2 with h2|⟨g,cap,cur,rfl,hg,hh,r⟩
 ·exact .inl h2
 ·refine .inr ⟨g,cap,cur,rfl,hg,(Ad fun e=>?_).trans hh,r⟩
  rw[e,hl]at hh;cases hh
def Row.mixed {e:TypeId}{size n:Nat}{v:Ac}{xs:List Ac}{w9:Aa}(hs:Stp T2 Ef o1 w wr)(h:Row w9 o1 (1,0) e size v n xs):Row w9 (fo w.1.size) (1,0) e size v n xs:=by
 refine⟨h.own,fun b hb=>?_⟩
 have h1:=h.tag b hb;rcases Nat.lt_or_ge b w.1.size with h2|h2
 ·rw[hs.tags b h2]at h1;simp[Ef]at h1
 ·exact Ho h2
end
def qhj {l:List Nat}{k x:Nat}(h:l[k]?=some x):(l.take (k+1)).map nv=(l.take k).map nv++[nv x]:=by rw[kh h,Qx];rfl
def YU {w:Aa} {o:Own} {id k b:Nat} {L:Lg} {vr vk vh vu:Ac} (h:Bo w o id k b L vr vk vh vu) (hk:L.fit) :
  Ab ARt 65 #[ptr b] w fun e w'=>∃ v,e=O v/\Row w' (fo w.1.size) (1,0) 3 1 v L.roots.length (L.roots.map nv)/\Ae w.1.size w w':=by
 have hN:L.roots.length<=1000:=by
  have h1:=vj vr vk vh vu L;have h2:=hk.ok.r;have h3:=hk.ok.k;have h4:=hk.ok.h;have h5:=hk.ok.u;have h6:=hk.ok.mr;have h7:=hk.ok.mu;have h8:∀ us:List Un,(us.flatMap Un.places).length<=us.length*2:=fun us=>by
   induction us with
   | nil=>simp
   | cons u us ih =>
    rw[aO,Qd,Qv];have:u.places.length<=2:=by unfold Un.places;split<;>simp
    omega
  have h9:=h8 L.Ay;have h0:L.roots.length=L.reads.length+L.keeps.length+L.holds.length+(L.Ay.flatMap Un.places).length:=by unfold Lg.roots;simp only[Qd,Qg]
  omega
 have hsl:=h.SY
 have oz:=Qa (fun (w':Aa) (hw:Ae w.1.size w w') (m:Nat) (a:Addr) (ha:(xr vr vk vh vu L)[m]?=some a) =>
  show w'.cell? a=(L.roots[m]?).map nv/\a.spot=none from by
   have hp:=Bo.place L.roots rfl (by rw[YZ hk];exact h.below hw) ha
   exact⟨hp.1,hp.2.1⟩)
 have HKd:=Qa (fun (w':Aa) (hw:Ae w.1.size w w')=>(h.below hw).kinds)
 have yC:=Qa (fun (w':Aa) (hw:Ae w.1.size w w')=>h.AM.below hw h.AM.lt)
 have HLt:=Qa h.AM.lt;have HN:=Qa hN;have n1:L.reads.length<=200:=by have:=hk.ok.r;have:=hk.ok.mr;omega
 have n2:L.keeps.length<=200:=by have:=hk.ok.k;have:=hk.ok.mr;omega
 have n3:L.holds.length<=200:=by have:=hk.ok.h;have:=hk.ok.mu;omega
 have n4:L.Ay.length<=200:=by have:=hk.ok.u;have:=hk.ok.mu;omega
 have oG:=Qa hsl;have nZ:=Qa (aa n1 (aa n2 (aa n3 n4)));clear h hN hsl n1 n2 n3 n4;refine (callsIn_wide (n:=3)).1 ?_;refine callsIn_of_wp_marks func65 rfl trivial ?_ rfl;simp only[ntmps65,aj,Qv,ay,Nat.reduceAdd,Nat.reduceSub,az,aA,aF,aB,ag,aI];gi_wp2_with (refine⟨trivial,?_⟩;gi_at_call 128;refine (callsIn_wide.2 (sn b _)).mono ?_;rintro e w2 ⟨rfl,rfl⟩);obtain⟨W0,hW0⟩:=Ja0 ((w.alloc (ARu #[Ah none 0 0] 25)).alloc (ARu #[ptr b] 105));have hb0:Ae w.1.size w W0:=by rw[hW0];exact qc (qc (qd _) _) _
 have jR0:Al W0 w.1.size #[Ah none 0 0] 25:=by rw[hW0];exact (Al.new w _ _).alloc _
 have rZ:Al W0 (w.1.size+1) #[ptr b] 105:=by rw[hW0];exact Al.Ap _ _ _ _ _ (by simp) rfl
 try rw[<-hW0]
 clear hW0;refine yl (gf:=191) (lb:=#[ptr (w.1.size+1)]) (by simp[go_sem]) (enters_of func191 (by kernel_rfl) rfl) ?_
 intro fn W1 R hW1 hR;obtain⟨D,hD⟩:=Ja0 W0.1.size;have dH:Ae W0.1.size W0 W1:=by rw[hW1];exact qc (qc (qd _) _) _
 have hL1:W1.heap[D+1]?=some (.loop R):=by rw[hW1,hD];have:=Ai (W0.alloc (.deferred (some []))) (.loop R);rwa [aK]at this
 have hD1:W1.heap[D]?=some (.deferred (some [])):=by rw[hW1,hD];exact (Below.heap_alloc _ _ _ (by simp)).trans (Ai W0 _)
 have hRs:R.params.size=1:=by rw[hR];rfl
 rw[<-hD];have kZ:w.1.size<=D:=by rw[hD];exact hb0.size
 have nH:=rZ.below dH rZ.lt;have jR1:=jR0.below dH jR0.lt;have hb1:Ae w.1.size w W1:=qe hb0 dH;have xM:=yC.out W1 hb1;have hDz:D+1<W1.1.size:=(Qf.1 hL1).1;have HR:=Qa hR;clear hR hW1 dH rZ jR0 hb0 hD;refine dv (fun bA m wr=>∃ o1 v,Ew w b L vr vk vh vu D (w.1.size+1) w.1.size R bA m o1 v wr) hRs nZ.out.1 nZ.out.2.1 nZ.out.2.2.1 nZ.out.2.2.2 oG.out.1 oG.out.2.1 oG.out.2.2.1 oG.out.2.2.2 nH xM ?_ ?_ ?_ ?_
 ·intro W2 bA hb bQ jA
  refine⟨ext Ef w.1.size tB,Ah none 0 0,(Stp.of_below (qe hb1 hb)).ext _ _ (Qk _),(hb.block _ hDz).trans hL1,(hb.block _ (by omega)).trans hD1,jA,nH.below hb nH.lt,jR1.below hb jR1.lt,Row.nil _ _ _ _ _,qz (by omega),qz (by omega),qz (by have:=hb1.size;omega),qz (by omega),qz (Qk _)⟩
 ·rintro bA m wr ⟨o1,v,h⟩
  have hb:=T2.below h.sp;exact⟨h.jA,h.jL,yC.out wr hb,h.hL,HKd.out wr hb⟩
 ·rintro bA m wr a T ⟨o1,v,h⟩ ha hT
  have hb:=T2.below h.sp;obtain⟨hc,hsp⟩:=oz.out wr hb m a ha;obtain⟨g,ax,asp⟩:=a;simp only at hsp;subst hsp;have hm:m<L.roots.length:=by rw[<-vj vr vk vh vu L];exact (Qc.1 ha).1
  obtain⟨x,hx⟩:∃ x,L.roots[m]?=some x:=⟨_,Qb hm⟩;rw[hx]at hc;replace hc:wr.cell? ⟨g,ax,none⟩=some (I Z x):=hc;have hN9:=HN.out;have dX:m+1<=maxLen:=by simp only[maxLen];omega
  have hmb:(m+1)*8<=140737488355328:=by omega
  have htk:=qhj hx;obtain⟨Post,cK⟩:∃ Post:Ending->Aa->Prop,Post=fun e W'=>e=O (.bool true)/\∃ o1 v,Ew w b L vr vk vh vu D (w.1.size+1) w.1.size R bA (m+1) o1 v W':=⟨_,rfl⟩;rw[<-cK,hT];have hst:R.state=.ready:=by rw[HR.out]
  have hpe:R.pending=none:=by rw[HR.out]
  have HST:=Qa hst;have mH:=Qa hpe;have dM:=Qa cK;have iH:=Qa htk;clear hst hpe cK hT htk hx hm ha hN9;rw[HR.out];refine roundIn_of_wpIn trivial ?_;gi_wp2;refine uk h.hL HST.out ?_;intro W3 hW3 sF;have h3:Ew w b L vr vk vh vu D (w.1.size+1) w.1.size { R with state:=.busy } bA m o1 v W3:=by rw[hW3];exact h.put kZ _
  have hc3:W3.cell? ⟨g,ax,none⟩=some (I Z x):=by
   have hg:g≠D+1:=fun e=>by rw[e]at hc;simp[aP,h.hL]at hc
   rw[hW3];have:=Ad (w:=wr) (o:=.loop { R with state:=.busy }) hg;simp only[aP,this]at hc ⊢;exact hc
  clear hW3 sF h hc;have hend:=Qa (fun (W4:Aa) (o4:Own) (v4:Ac) (fG:Ew w b L vr vk vh vu D (w.1.size+1) w.1.size { R with state:=.busy } bA (m+1) o4 v4 W4) =>
   show ∃ v w5,(aM (D+1) none).run ARt W4=.ok v w5/\Post (O v) w5 from by
    refine SH fG.hL HST.out mH.out ?_;intro W5 dA _;rw[dM.out];exact⟨rfl,o4,v4,by rw[dA];exact fG.put kZ R⟩)
  obtain⟨pa,cp,rfl⟩:=h3.row.AS;have cR:W3.cell? ⟨w.1.size,0,none⟩=some (.slice pa m cp):=h3.jR.cell 0;obtain⟨iI,hi,hsI,bZ,bT⟩:=jh;have h4:=h3.below (w2:=W3.drew.alloc (ARu #[I Z x] 3)) (qc (qf (qd _)) _);have HL:=Qa (fun (v':Ac) (w':Aa) (o2:Own) (hrow:Row w' o2 tR 3 1 v' (m+1) ((L.roots.take m).map nv++[I Z x])) (hst:Stp (fun u=>u=tR) o1 o2 (W3.drew.alloc (ARu #[I Z x] 3)) w') =>
   let h:=h4.appended hst hrow iH.out
   aa h.1 (hend.out _ _ _ h.2))
  have H4r:=Qa h4.row;have sR3:w.1.size<W3.1.size:=h3.jR.lt;have cR4:(W3.alloc (ARu #[I Z x] 3)).cell? ⟨w.1.size,0,none⟩=some (.slice pa m cp):=(h3.jR.alloc _).cell 0;clear h3 h4 hend;gi_wp2;refine tm (by kernel_rfl) [[0,1,2,3,4,5,6],[1,0,2,3,4,5,6],[1,2,0,3,4,5,6],[1,2,3,0,4,5,6],[1,2,3,4,0,5,6]] (by kernel_rfl) (by decide) ?_
  intro is his;simp only[List.mem_cons,List.not_mem_nil,or_false]at his;rcases his with rfl|rfl|rfl|rfl|rfl
  all_goals simp only[QY,List.drop_succ_cons,aS]
  all_goals gi_wp2_with (first
   | (gi_at_builtin;refine nj _ rfl _ _ _ rfl 3 iI _ 1 8 underlying25 hi bT hsI bZ rfl (by decide) o1 tR _ m _ rfl H4r.out ⟨W3.1.size,0,none⟩ 1 1 [I Z x] rfl rfl (zj (Al.new W3.drew _ _)) ka dX hmb ?_;intro v' w' hrow hst;obtain⟨pa',cp',rfl⟩:=hrow.AS;obtain⟨j5,HH5⟩:=HL.out _ _ _ hrow hst;have cR5:w'.cell? ⟨w.1.size,0,none⟩=some (.slice pa m cp):=j5.cell 0;have zR5:=j5.free 0;have sR5:=j5.lt;replace HH5:=Qa HH5;clear hrow hst j5)
   | fail)
  all_goals exact HH5.out
 ·rintro bA wr ⟨o1,v,h⟩
  rw[vj]at h;have hst:R.state≠.busy:=by rw[HR.out];simp
  have hpe:R.pending=none:=by rw[HR.out]
  refine CQ h.hL hst ?_;intro W4 eD;have h4:Ew w b L vr vk vh vu D (w.1.size+1) w.1.size { R with state:=.exhausted } bA L.roots.length o1 v W4:=by rw[eD];exact h.put kZ _
  rw[hpe];dsimp only;have HH:=Qa h4;have cR:W4.cell? ⟨w.1.size,0,none⟩=some v:=h4.jR.cell 0;obtain⟨pa,cp,rfl⟩:=h4.row.AS;clear h h4 eD hst hpe HR hL1 hD1 nH jR1 xM hb1 yC oz HKd;gi_wp2;refine⟨by simp,.inl ⟨_,_,rfl,run_takeDeferred HH.out.hD,?_⟩⟩
  refine⟨.slice pa L.roots.length cp,by simp[results,results65,go_sem],.slice pa L.roots.length cp,rfl,?_,?_⟩
  ·have hr:=HH.out.row
   rw[aJ]at hr;have hs:=HH.out.sp;refine Row.mixed hs (hr.Uk HH.out.hD _)
  ·exact ET (T2.below HH.out.sp) kZ _
def rj (id k:Nat)(t:Tag):Prop:=t.1=id/\k+1<=t.2/\t.2<=k+4
def NW (T:Tag->Prop)(w:Aa)(o:Own)(v:Ac)(l:List Nat):Prop:=
 ∃ a c,v=.slice a l.length c/\∀ (j x:Nat),l[j]?=some x->∃ g off,a=some ⟨g,off,none⟩/\g<w.1.size/\¬T (o g)/\w.cell? ⟨g,off+j,none⟩=some (nv x)
structure Lm (w:Aa)(b:Nat)(vr vk v:Ac)(D bL bP bN:Nat)(R:Loop)(bA m:Nat)(wr:Aa):Prop where
 bl:Ae w.1.size w wr
 hL:wr.heap[D+1]?=some (.loop R)
 hD:wr.heap[D]?=some (.deferred (some []))
 jA:Al wr bA #[vr,vk] 25
 jL:Al wr bL #[ptr b] 105
 jP:Al wr bP #[v] 25
 jN:Al wr bN #[I Z m] 3
structure Lp (w:Aa)(o:Own)(id k b:Nat)(L:Lg)(ps:List Nat)(vr vk vh vu v:Ac)(D0 D bL bP bI:Nat)(R:Loop)(o1:Own)(bA m:Nat)(wr:Aa):Prop where
 sp:Stp (rj id k) o o1 w wr
 lg:Bo wr o1 id k b (L.put (ps.take m++L.roots.drop m)) vr vk vh vu
 hL:wr.heap[D+1]?=some (.loop R)
 hD:wr.heap[D]?=some (.deferred (some []))
 h0:wr.heap[D0]?=some (.deferred (some []))
 jA:Al wr bA #[vr,vk] 25
 jL:Al wr bL #[ptr b] 105
 jP:Al wr bP #[v] 25
 jI:Al wr bI #[I Z m] 3
 tL:o1 (D+1)=(id+1,0)
 tD:o1 D=(id+1,0)
 t0:o1 D0=(id+1,0)
 tA:o1 bA=(id+1,0)
 tl:o1 bL=(id+1,0)
 tP:o1 bP=(id+1,0)
 tI:o1 bI=(id+1,0)
def PG (id k:Nat):¬rj id k (id+1,0):=fun h=>by have:=h.1;simp at this
section
variable {w : Aa} {b : Nat} {L : Lg} {vr vk vh vu v : Ac} {D D0 bL bP bN bI : Nat} {R : Loop} {bA m : Nat} {wr w2 : Aa} {o o1 : Own} {id k : Nat} {ps : List Nat}
def Lm.put (h:Lm w b vr vk v D bL bP bN R bA m wr)(hw:w.1.size<=D)(R':Loop):Lm w b vr vk v D bL bP bN R' bA m (wr.putObj (D+1) (.loop R')):=by
 have n1:bA≠D+1:=fun e=>by have:=h.jA;unfold Al at this;rw[e,h.hL]at this;cases this
 have n2:bL≠D+1:=fun e=>by have:=h.jL;unfold Al at this;rw[e,h.hL]at this;cases this
 have n3:bP≠D+1:=fun e=>by have:=h.jP;unfold Al at this;rw[e,h.hL]at this;cases this
 have n4:bN≠D+1:=fun e=>by have:=h.jN;unfold Al at this;rw[e,h.hL]at this;cases this
 exact⟨ET h.bl (by omega) _,af (Qf.1 h.hL).1,(Ad (by omega)).trans h.hD,h.jA.put n1,h.jL.put n2,h.jP.put n3,h.jN.put n4⟩
def Lm.step (h:Lm w b vr vk v D bL bP bN R bA m wr)(hw:w.1.size<=bN):Lm w b vr vk v D bL bP bN R bA (m+1) (wr.setCell ⟨bN,0,none⟩ (I Z ((m:Int)+1))):=by
 have n1:bA≠bN:=fun e=>by have h1:=h.jA;have h2:=h.jN;unfold Al at h1 h2;rw[e,h2]at h1;simp at h1
 have n2:bL≠bN:=fun e=>by have h1:=h.jL;have h2:=h.jN;unfold Al at h1 h2;rw[e,h2]at h1;simp at h1
 have n3:bP≠bN:=fun e=>by have h1:=h.jP;have h2:=h.jN;unfold Al at h1 h2;rw[e,h2]at h1;simp at h1
 have n4:D≠bN:=fun e=>by have h2:=h.jN;have h1:=h.hD;unfold Al at h2;rw[e,h2]at h1;cases h1
 have n5:D+1≠bN:=fun e=>by have h2:=h.jN;have h1:=h.hL;unfold Al at h2;rw[e,h2]at h1;cases h1
 exact⟨zc h.bl hw _,(Below.heap_setCell _ _ _ _ n5).trans h.hL,(Below.heap_setCell _ _ _ _ n4).trans h.hD,h.jA.Am n1 _,h.jL.Am n2 _,h.jP.Am n3 _,h.jN.set 0 _⟩
def Lp.put (h:Lp w o id k b L ps vr vk vh vu v D0 D bL bP bI R o1 bA m wr)(hw:w.1.size<=D)(_:L.fit)(R':Loop):Lp w o id k b L ps vr vk vh vu v D0 D bL bP bI R' o1 bA m (wr.putObj (D+1) (.loop R')):=by
 have n1:bA≠D+1:=fun e=>by have:=h.jA;unfold Al at this;rw[e,h.hL]at this;cases this
 have n2:bL≠D+1:=fun e=>by have:=h.jL;unfold Al at this;rw[e,h.hL]at this;cases this
 have n3:bP≠D+1:=fun e=>by have:=h.jP;unfold Al at this;rw[e,h.hL]at this;cases this
 have n4:bI≠D+1:=fun e=>by have:=h.jI;unfold Al at this;rw[e,h.hL]at this;cases this
 have n5:D0≠D+1:=fun e=>by have:=h.h0;rw[e,h.hL]at this;cases this
 have s1:Stp (fun t=>t=(id+1,0)) o1 o1 wr (wr.putObj (D+1) (.loop R')):=(Stp.refl _ o1 wr).put (by rw[h.tL]) _
 exact⟨h.sp.CJ (by omega) _,h.lg.Ao s1 (fun j _ e=>by simp at e),af (Qf.1 h.hL).1,(Ad (by omega)).trans h.hD,(Ad n5).trans h.h0,h.jA.put n1,h.jL.put n2,h.jP.put n3,h.jI.put n4,h.tL,h.tD,h.t0,h.tA,h.tl,h.tP,h.tI⟩
def Lp.step (h:Lp w o id k b L ps vr vk vh vu v D0 D bL bP bI R o1 bA m wr)(hq:ps.length=L.roots.length)(hw:w.1.size<=bI){g ax x:Nat}(ha:(xr vr vk vh vu L)[m]?=some ⟨g,ax,none⟩)(hx:ps[m]?=some x) :
  g≠bI/\(∃ u,wr.cell? ⟨g,ax,none⟩=some u)/\wr.frozen? ⟨g,ax,none⟩=false/\g<wr.1.size/\Lp w o id k b L ps vr vk vh vu v D0 D bL bP bI R o1 bA (m+1) ((wr.setCell ⟨g,ax,none⟩ (I Z x)).setCell ⟨bI,0,none⟩ (I Z ((m:Int)+1))):=by
 have hm:m<L.roots.length:=by rw[<-vj vr vk vh vu L];exact (Qc.1 ha).1
 have qF:(ps.take m++L.roots.drop m).length=L.roots.length:=by rw[Qd,Qp,aQ];omega
 obtain⟨c1,_,c3,c4,⟨j,j1,j2,j3⟩,c6⟩:=Bo.place (ps.take m++L.roots.drop m) qF h.lg ha;simp only at c3 j3;have BF:(ps.take m++L.roots.drop m).set m x=ps.take (m+1)++L.roots.drop (m+1):=px ps L.roots m x hx hm;have hl:=c6 x;rw[BF]at hl;have tg:rj id k (o1 g):=by rw[j3];exact⟨rfl,by simp only;omega,by simp only;omega⟩
 have no:∀ c,o1 c=(id+1,0)->c≠g:=fun c hc e=>PG id k (by rw[<-hc,e];exact tg)
 have n0:=no _ h.tI;have s1:Stp (rj id k) o1 o1 wr (wr.setCell ⟨g,ax,none⟩ (I Z x)):=(Stp.refl _ o1 wr).setCell tg _;have s2:Stp (fun t=>t=(id+1,0)) o1 o1 (wr.setCell ⟨g,ax,none⟩ (I Z x)) ((wr.setCell ⟨g,ax,none⟩ (I Z x)).setCell ⟨bI,0,none⟩ (I Z ((m:Int)+1))):=(Stp.refl _ o1 _).setCell (by show o1 bI=_;exact h.tI) _
 have nI:∀ {c:Nat}{cs:Array Ac}{t:TypeId},Al wr c cs t->(cs.size≠1\/t≠3)->c≠bI:=fun hc hne e=>by
  have h2:=h.jI;unfold Al at hc h2;rw[e,h2]at hc;rcases hne with hne|hne
  ·injection hc with hc;injection hc with hc hc2;rw[<-hc]at hne;simp at hne
  ·injection hc with hc;injection hc with hc hc2;exact hne hc2.symm
 have nA:=nI h.jA (.inl (by simp))
 have nL:=nI h.jL (.inr (by decide))
 have nP:=nI h.jP (.inr (by decide))
 have nD:D≠bI:=fun e=>by have h2:=h.jI;have h1:=h.hD;unfold Al at h2;rw[e,h2]at h1;cases h1
 have nE:D+1≠bI:=fun e=>by have h2:=h.jI;have h1:=h.hL;unfold Al at h2;rw[e,h2]at h1;cases h1
 have nF:D0≠bI:=fun e=>by have h2:=h.jI;have h1:=h.h0;unfold Al at h2;rw[e,h2]at h1;cases h1
 refine⟨n0.symm,⟨_,by rw[c1,Qb (by rw[qF];exact hm)];rfl⟩,c4,c3,?_⟩
 refine⟨(h.sp.trans s1).setCell_new hw _,hl.Ao s2 (fun j _ e=>by simp at e),?_,?_,?_,?_,?_,?_,?_,h.tL,h.tD,h.t0,h.tA,h.tl,h.tP,h.tI⟩
 ·exact (Below.heap_setCell _ _ _ _ nE).trans ((Below.heap_setCell _ _ _ _ (no _ h.tL)).trans h.hL)
 ·exact (Below.heap_setCell _ _ _ _ nD).trans ((Below.heap_setCell _ _ _ _ (no _ h.tD)).trans h.hD)
 ·exact (Below.heap_setCell _ _ _ _ nF).trans ((Below.heap_setCell _ _ _ _ (no _ h.t0)).trans h.h0)
 ·exact (h.jA.Am (no _ h.tA) _).Am nA _
 ·exact (h.jL.Am (no _ h.tl) _).Am nL _
 ·exact (h.jP.Am (no _ h.tP) _).Am nP _
 ·exact (h.jI.Am n0 _).set 0 _
end
def qh1 {L:Lg}(hk:L.fit):L.roots.length<=1000:=by
 have h2:=hk.ok.r;have h3:=hk.ok.k;have h4:=hk.ok.h;have h5:=hk.ok.u;have h6:=hk.ok.mr;have h7:=hk.ok.mu;have h8:∀ us:List Un,(us.flatMap Un.places).length<=us.length*2:=fun us=>by
  induction us with
  | nil=>simp
  | cons u us ih =>
   rw[aO,Qd,Qv];have:u.places.length<=2:=by unfold Un.places;split<;>simp
   omega
 have h9:=h8 L.Ay;have h0:L.roots.length=L.reads.length+L.keeps.length+L.holds.length+(L.Ay.flatMap Un.places).length:=by unfold Lg.roots;simp only[Qd,Qg]
 omega
def jd (k:Nat)(h:k<=4611686018427387904):wrap64 ((k:Int)+1)=(k:Int)+1/\IntKind.i64.wrap ((k:Int)+1)=(k:Int)+1:=by
 have h1:(-9223372036854775808:Int)<=(k:Int)+1/\(k:Int)+1<=9223372036854775807:=by omega
 exact⟨aG _ h1,aN _ h1⟩
def qis {w:Aa} {o:Own} {id k b:Nat} {L:Lg} {vr vk vh vu v:Ac} (h:Bo w o id k b L vr vk vh vu) (hk:L.fit) {ps:List Nat} (hv:NW (rj id k) w o v ps) (hn:ps.length=L.roots.length) :
  Ab ARt 66 #[ptr b,v] w fun e w'=>e=O (.bool true)/\∃ o',Bo w' o' id k b (L.put ps) vr vk vh vu/\Stp (rj id k) o o' w w':=by
 have hN:=qh1 hk;obtain⟨pa,cp,rfl,hps⟩:=hv;have hsl:=h.SY;have HKd:=Qa (fun (w':Aa) (hw:Ae w.1.size w w')=>(h.below hw).kinds)
 have yC:=Qa (fun (w':Aa) (hw:Ae w.1.size w w')=>h.AM.below hw h.AM.lt)
 have n1:L.reads.length<=200:=by have:=hk.ok.r;have:=hk.ok.mr;omega
 have n2:L.keeps.length<=200:=by have:=hk.ok.k;have:=hk.ok.mr;omega
 have n3:L.holds.length<=200:=by have:=hk.ok.h;have:=hk.ok.mu;omega
 have n4:L.Ay.length<=200:=by have:=hk.ok.u;have:=hk.ok.mu;omega
 have oG:=Qa hsl;have nZ:=Qa (aa n1 (aa n2 (aa n3 n4)));have HN:=Qa hN;have HPs:=Qa hps;have Hn:=Qa hn;have HH:=Qa h;have HK:=Qa hk;obtain⟨n,hnn⟩:=Ja0 ps.length;rw[<-hnn];have HNN:=Qa hnn;clear h hk hN hsl n1 n2 n3 n4 hps hn hnn;refine (callsIn_wide (n:=3)).1 ?_;refine callsIn_of_wp_marks func66 rfl trivial ?_ rfl;simp only[ntmps66,aj,Qv,ay,Nat.reduceAdd,Nat.reduceSub,az,aA,aF,aB,ag,aI];gi_wp2_with (refine⟨trivial,?_⟩;gi_at_call 128;refine (callsIn_wide.2 (sn b _)).mono ?_;rintro e w2 ⟨rfl,rfl⟩);obtain⟨W0,hW0⟩:=Ja0 (((w.alloc (ARu #[.slice pa n cp] 25)).alloc (ARu #[I Z 0] 3)).alloc (ARu #[ptr b] 105));have hb0:Ae w.1.size w W0:=by rw[hW0];exact qc (qc (qc (qd _) _) _) _
 have jP0:Al W0 w.1.size #[.slice pa n cp] 25:=by rw[hW0];exact ((Al.new w _ _).alloc _).alloc _
 have jN0:Al W0 (w.1.size+1) #[I Z 0] 3:=by rw[hW0];exact (Al.Ap _ _ _ _ _ (by simp) rfl).alloc _
 have rZ:Al W0 (w.1.size+1+1) #[ptr b] 105:=by rw[hW0];exact Al.Ap _ _ _ _ _ (by simp) rfl
 rw[<-hW0];clear hW0;refine yl (gf:=191) (lb:=#[ptr (w.1.size+1+1)]) (by simp[go_sem]) (enters_of func191 (by kernel_rfl) rfl) ?_
 intro fn W1 R hW1 hR;obtain⟨D,hD⟩:=Ja0 W0.1.size;have dH:Ae W0.1.size W0 W1:=by rw[hW1];exact qc (qc (qd _) _) _
 have hL1:W1.heap[D+1]?=some (.loop R):=by rw[hW1,hD];have:=Ai (W0.alloc (.deferred (some []))) (.loop R);rwa [aK]at this
 have hD1:W1.heap[D]?=some (.deferred (some [])):=by rw[hW1,hD];exact (Below.heap_alloc _ _ _ (by simp)).trans (Ai W0 _)
 have hRs:R.params.size=1:=by rw[hR];rfl
 rw[<-hD];have kZ:w.1.size<=D:=by rw[hD];exact hb0.size
 have nH:=rZ.below dH rZ.lt;have uB:=jP0.below dH jP0.lt;have jN1:=jN0.below dH jN0.lt;have hb1:Ae w.1.size w W1:=qe hb0 dH;have xM:=yC.out W1 hb1;have hDz:D+1<W1.1.size:=(Qf.1 hL1).1;have HR:=Qa hR;clear hR hW1 dH rZ jP0 jN0 hb0 hD;refine dv (fun bA m wr=>Lm w b vr vk (.slice pa n cp) D (w.1.size+1+1) w.1.size (w.1.size+1) R bA m wr) hRs nZ.out.1 nZ.out.2.1 nZ.out.2.2.1 nZ.out.2.2.2 oG.out.1 oG.out.2.1 oG.out.2.2.1 oG.out.2.2.2 nH xM ?_ ?_ ?_ ?_
 ·intro W2 bA hb bQ jA
  exact⟨qe hb1 hb,(hb.block _ hDz).trans hL1,(hb.block _ (by omega)).trans hD1,jA,nH.below hb nH.lt,uB.below hb uB.lt,jN1.below hb jN1.lt⟩
 ·rintro bA m wr h
  exact⟨h.jA,h.jL,yC.out wr h.bl,h.hL,HKd.out wr h.bl⟩
 ·rintro bA m wr a T h ha hT
  have hm:m<L.roots.length:=by rw[<-vj vr vk vh vu L];exact (Qc.1 ha).1
  obtain⟨hw1,hw2⟩:=jd m (by have:=HN.out;omega)
  obtain⟨Post,cK⟩:∃ Post:Ending->Aa->Prop,Post=fun e W'=>e=O (.bool true)/\Lm w b vr vk (.slice pa n cp) D (w.1.size+1+1) w.1.size (w.1.size+1) R bA (m+1) W':=⟨_,rfl⟩;rw[<-cK,hT];have hst:R.state=.ready:=by rw[HR.out]
  have hpe:R.pending=none:=by rw[HR.out]
  have HST:=Qa hst;have mH:=Qa hpe;have dM:=Qa cK;clear hst hpe cK hT ha hm;rw[HR.out];refine roundIn_of_wpIn trivial ?_;gi_wp2;refine uk h.hL HST.out ?_;intro W3 hW3 sF;have h3:Lm w b vr vk (.slice pa n cp) D (w.1.size+1+1) w.1.size (w.1.size+1) { R with state:=.busy } bA m W3:=by rw[hW3];exact h.put kZ _
  clear hW3 sF h;have h4:=h3.step (by omega)
  have hend:=Qa (show ∃ v w5,(aM (D+1) none).run ARt (W3.setCell ⟨w.1.size+1,0,none⟩ (I Z ((m:Int)+1)))=.ok v w5/\Post (O v) w5 from by
    refine SH h4.hL HST.out mH.out ?_;intro W5 dA _;rw[dM.out];exact⟨rfl,by rw[dA];exact h4.put kZ R⟩)
  have cN:W3.cell? ⟨w.1.size+1,0,none⟩=some (I Z m):=h3.jN.cell 0;have zN:=h3.jN.free 0;have sN:=h3.jN.lt;clear h3 h4;gi_wp2;exact hend.out
 ·rintro bA wr h
  rw[vj]at h;have hst:R.state≠.busy:=by rw[HR.out];simp
  have hpe:R.pending=none:=by rw[HR.out]
  refine CQ h.hL hst ?_;intro W4 eD;have h4:Lm w b vr vk (.slice pa n cp) D (w.1.size+1+1) w.1.size (w.1.size+1) { R with state:=.exhausted } bA L.roots.length W4:=by rw[eD];exact h.put kZ _
  rw[hpe];dsimp only;have cN:W4.cell? ⟨w.1.size+1,0,none⟩=some (I Z L.roots.length):=h4.jN.cell 0;have cP:W4.cell? ⟨w.1.size,0,none⟩=some (.slice pa n cp):=h4.jP.cell 0;have sN:=h4.jN.lt;have hne:((L.roots.length:Int) != (n:Int))=false:=by rw[HNN.out,Hn.out];exact bne_self_eq_false' _
  have hb4:=h4.bl;have hD4:=Qa h4.hD;have jP4:=h4.jP;have hDl:D<W4.1.size:=(Qf.1 h4.hD).1;clear h h4 eD hst hpe HR hL1 hD1 nH uB jN1 xM hb1 hDz hRs;clear R;gi_wp2_with (refine⟨trivial,?_⟩;gi_at_call 128;refine (callsIn_wide.2 (sn b _)).mono ?_;rintro e w2 ⟨rfl,rfl⟩);obtain⟨W0,hW0⟩:=Ja0 ((W4.alloc (ARu #[I Z 0] 3)).alloc (ARu #[ptr b] 105));obtain⟨bI,xD⟩:=Ja0 W4.1.size;have hwI:w.1.size<=bI:=by rw[xD];exact hb4.size
  have uY:Ae W4.1.size W4 W0:=by rw[hW0];exact qc (qc (qd _) _) _
  have jI0:Al W0 bI #[I Z 0] 3:=by rw[hW0,xD];exact (Al.new W4 _ _).alloc _
  have rZ:Al W0 (bI+1) #[ptr b] 105:=by rw[hW0,xD];exact Al.Ap _ _ _ _ _ (by simp) rfl
  have hD0:=Qa ((uY.block _ hDl).trans hD4.out);have jP0:=jP4.below uY jP4.lt;have hb0:=qe hb4 uY;rw[<-hW0,<-xD];clear hW0 xD jP4 hD4 uY hb4 cN cP sN hne yC HKd;refine yl (gf:=191) (lb:=#[ptr (bI+1)]) (by simp[go_sem]) (enters_of func191 (by kernel_rfl) rfl) ?_
  intro fn W1 R hW1 hR;obtain⟨E,hE⟩:=Ja0 W0.1.size;have dH:Ae W0.1.size W0 W1:=by rw[hW1];exact qc (qc (qd _) _) _
  have hL1:W1.heap[E+1]?=some (.loop R):=by rw[hW1,hE];have:=Ai (W0.alloc (.deferred (some []))) (.loop R);rwa [aK]at this
  have hD1:W1.heap[E]?=some (.deferred (some [])):=by rw[hW1,hE];exact (Below.heap_alloc _ _ _ (by simp)).trans (Ai W0 _)
  have hRs:R.params.size=1:=by rw[hR];rfl
  rw[<-hE];have hEw:w.1.size<=E:=by rw[hE];exact hb0.size
  have hDE:D<E:=by rw[hE];exact (Qf.1 hD0.out).1
  have Anh:=(dH.block _ (Qf.1 hD0.out).1).trans hD0.out;have nH:=rZ.below dH rZ.lt;have uB:=jP0.below dH jP0.lt;have jI1:=jI0.below dH jI0.lt;have hb1:Ae w.1.size w W1:=qe hb0 dH;have xM:=(HH.out.below hb1).AM;have hEz:E+1<W1.1.size:=(Qf.1 hL1).1;have HR:=Qa hR;clear hR hW1 dH rZ jP0 jI0 hb0 hE hD0;refine dv (fun bA m wr=>∃ o1,Lp w o id k b L ps vr vk vh vu (.slice pa n cp) D E (bI+1) w.1.size bI R o1 bA m wr) hRs nZ.out.1 nZ.out.2.1 nZ.out.2.2.1 nZ.out.2.2.2 oG.out.1 oG.out.2.1 oG.out.2.2.1 oG.out.2.2.2 nH xM ?_ ?_ ?_ ?_
  ·intro W2 bA hb bQ jA
   have hb2:=qe hb1 hb;have hx:∀ c,w.1.size<=c->ext o w.1.size (id+1,0) c=(id+1,0):=fun c hc=>qz hc;have hl:Bo W2 (ext o w.1.size (id+1,0)) id k b L vr vk vh vu:=HH.out.Ao (T:=fun _=>False) ((Stp.of_below hb2).ext _ _ (Qk _)) fun _ _ h=>h;refine⟨ext o w.1.size (id+1,0),(Stp.of_below hb2).ext _ _ (Qk _),?_,(hb.block _ hEz).trans hL1,(hb.block _ (by omega)).trans hD1,(hb.block _ (by omega)).trans Anh,jA,nH.below hb nH.lt,uB.below hb uB.lt,jI1.below hb jI1.lt,hx _ (by omega),hx _ (by omega),hx _ (by omega),hx _ (by have:=hb1.size;omega),hx _ (by omega),hx _ (Qk _),hx _ hwI⟩
   rw[List.take_zero,ag,aS,YZ HK.out];exact hl
  ·rintro bA m wr ⟨o1,h⟩
   have hb:=h.lg.AM;exact⟨h.jA,h.jL,hb,h.hL,h.lg.FF⟩
  ·rintro bA m wr a T ⟨o1,h⟩ ha hT
   have hm:m<L.roots.length:=by rw[<-vj vr vk vh vu L];exact (Qc.1 ha).1
   obtain⟨x,hx⟩:∃ x,ps[m]?=some x:=⟨_,Qb (by rw[Hn.out];exact hm)⟩
   obtain⟨g2,off,rfl,hg2,ht2,hc2⟩:=HPs.out m x hx;have hsp:=(Bo.place (ps.take m++L.roots.drop m) (by rw[Qd,Qp,aQ,Hn.out];omega) h.lg ha).2.1
   obtain⟨g,ax,asp⟩:=a;simp only at hsp;subst hsp;have hmI:(m:Int)<(n:Int):=Int.ofNat_lt.2 (by rw[HNN.out,Hn.out];exact hm)
   obtain⟨hw1,hw2⟩:=jd m (by have:=HN.out;omega)
   obtain⟨Post,cK⟩:∃ Post:Ending->Aa->Prop,Post=fun e W'=>e=O (.bool true)/\∃ o1,Lp w o id k b L ps vr vk vh vu (Ah (some ⟨g2,off,none⟩) n cp) D E (bI+1) w.1.size bI R o1 bA (m+1) W':=⟨_,rfl⟩;rw[<-cK,hT];have hst:R.state=.ready:=by rw[HR.out]
   have hpe:R.pending=none:=by rw[HR.out]
   have HST:=Qa hst;have mH:=Qa hpe;have dM:=Qa cK;have HA:=Qa ha;have HX:=Qa hx;clear hst hpe cK hT hm ha hx;rw[HR.out];refine roundIn_of_wpIn trivial ?_;gi_wp2;refine uk h.hL HST.out ?_;intro W3 hW3 sF;have h3:Lp w o id k b L ps vr vk vh vu (Ah (some ⟨g2,off,none⟩) n cp) D E (bI+1) w.1.size bI { R with state:=.busy } o1 bA m W3:=by rw[hW3];exact h.put hEw HK.out _
   clear hW3 sF h;obtain⟨ne,⟨u,hu⟩,hf,hlt,h4⟩:=h3.step Hn.out hwI HA.out HX.out;have hend:=Qa (show ∃ v w5,(aM (E+1) none).run ARt ((W3.setCell ⟨g,ax,none⟩ (I Z x)).setCell ⟨bI,0,none⟩ (I Z ((m:Int)+1)))=.ok v w5/\Post (O v) w5 from by
     refine SH h4.hL HST.out mH.out ?_;intro W5 dA _;rw[dM.out];exact⟨rfl,o1,by rw[dA];exact h4.put hEw HK.out R⟩)
   have cI:W3.cell? ⟨bI,0,none⟩=some (I Z m):=h3.jI.cell 0;have zI:=h3.jI.free 0;have sI:=h3.jI.lt;have cP:W3.cell? ⟨w.1.size,0,none⟩=some (Ah (some ⟨g2,off,none⟩) n cp):=h3.jP.cell 0;have c2:W3.cell? ⟨g2,off+m,none⟩=some (I Z x):=by
    have:=h3.sp.block g2 hg2 ht2;rw[show (aL .i64 (x:Int))=nv x from rfl,<-hc2];simp only[aP,this]
   have ne2:bI≠g:=fun e=>ne e.symm;clear h3 h4 hc2;gi_wp2;exact hend.out
  ·rintro bA wr ⟨o1,h⟩
   rw[vj]at h;have hst:R.state≠.busy:=by rw[HR.out];simp
   have hpe:R.pending=none:=by rw[HR.out]
   refine CQ h.hL hst ?_;intro W5 dA;have h5:Lp w o id k b L ps vr vk vh vu (.slice pa n cp) D E (bI+1) w.1.size bI { R with state:=.exhausted } o1 bA L.roots.length W5:=by rw[dA];exact h.put hEw HK.out _
   rw[hpe];dsimp only;have h5h:=Qa h5;clear h h5 dA hst hpe HR hL1 hD1 nH uB jI1 xM hb1 hEz hRs;gi_wp2;have n1:D≠E:=by have:=hDE;omega
   refine⟨by simp,.inl ⟨_,_,rfl,run_takeDeferred h5h.out.hD,?_⟩⟩
   refine⟨by simp,.inl ⟨_,_,rfl,run_takeDeferred ((Ad n1).trans h5h.out.h0),?_⟩⟩
   refine⟨.bool true,by simp[results,results66,go_sem],rfl,o1,?_,?_⟩
   ·have hl:=h5h.out.lg
    rw[List.drop_length,List.append_nil,<-Hn.out,aJ]at hl;have s1:Stp (fun t=>t=(id+1,0)) o1 o1 W5 (W5.putObj E (.deferred none)):=(Stp.refl _ o1 W5).put (by rw[h5h.out.tD]) _
    have s2:Stp (fun t=>t=(id+1,0)) o1 o1 W5 ((W5.putObj E (.deferred none)).putObj D (.deferred none)):=s1.put (by rw[h5h.out.t0]) _
    exact hl.Ao s2 fun j _ e=>by simp at e
   ·exact (h5h.out.sp.CJ hEw _).CJ kZ _
end
section
open Hp
structure Mv (i:Nat)(S S':An):Prop where
 len:S'.Au.length=S.Au.length
 Ls:∀ j,j≠i->S'.t j=S.t j
 lv:(S'.t i).live=(S.t i).live
 st:(S'.t i).start=(S.t i).start
 se:(S'.t i).seen=(S.t i).seen
 now:S'.now=S.now
 most:S'.most=S.most
 next:S'.next=S.next
 came:S'.came=S.came
 lost:S'.lost=S.lost
 ph:S'.ph=S.ph
 RO:S'.version=S.version
structure Ed (i:Nat)(S S':An):Prop where
 len:S'.Au.length=S.Au.length
 Ls:∀ j,j≠i->S'.t j=S.t j
 lv:S'.t i=(S.t i).ended\/∃ x:Tx,S'.t i=x.ended
 now:S'.now=S.now
 most:S'.most=S.most
 next:S'.next=S.next
 came:S'.came=S.came
 lost:S'.lost=S.lost
 ph:S'.ph=S.ph
 RO:S'.version=S.version
section
variable {i : Nat} {S S' S2 : An}
def Mv.refl (i:Nat)(S:An):Mv i S S:=⟨rfl,fun _ _=>rfl,rfl,rfl,rfl,rfl,rfl,rfl,rfl,rfl,rfl,rfl⟩
def Mv.trans (a:Mv i S S')(b:Mv i S' S2):Mv i S S2:=
 ⟨b.len.trans a.len,fun j h=>(b.Ls j h).trans (a.Ls j h),b.lv.trans a.lv,b.st.trans a.st,b.se.trans a.se,b.now.trans a.now,b.most.trans a.most,b.next.trans a.next,b.came.trans a.came,b.lost.trans a.lost,b.ph.trans a.ph,b.RO.trans a.RO⟩
def Mv.heap (i:Nat)(S:An)(H:Hp):Mv i S { S with H:=H }:=⟨rfl,fun _ _=>rfl,rfl,rfl,rfl,rfl,rfl,rfl,rfl,rfl,rfl,rfl⟩
def Mv.Tl (i:Nat)(S:An)(z:Int)(q:List (Nat×Nat)):Mv i S { S with Av:=z,queue:=q }:=⟨rfl,fun _ _=>rfl,rfl,rfl,rfl,rfl,rfl,rfl,rfl,rfl,rfl,rfl⟩
def Tc (S:An)(i:Nat)(x:Tx):(S.tx i x).t i=if i<S.Au.length then x else S.t i:=by
 by_cases h:i<S.Au.length
 ·rw[if_pos h,An.FM h]
 ·rw[if_neg h];unfold An.t An.tx;simp only[Qi];rw[Zb (by rw[Qq];omega),Zb (by omega)]
def Mv.tx (i:Nat)(S:An)(x:Tx)(h1:x.live=(S.t i).live)(h2:x.start=(S.t i).start)(h3:x.seen=(S.t i).seen):Mv i S (S.tx i x):=by
 refine⟨An.Cq _ _ _,fun j h=>An.EL S (fun e=>h e.symm) x,?_,?_,?_,rfl,rfl,rfl,rfl,rfl,rfl,rfl⟩
 all_goals
  rw[Tc];split
  ·assumption
  ·rfl
def Mv.look (i:Nat)(S:An)(p:Nat):Mv i S (S.AO i p).1:=by
 unfold An.AO;split
 ·exact Mv.refl _ _
 ·split
  ·exact Mv.refl _ _
  ·split
   ·exact Mv.refl _ _
   ·exact Mv.tx _ _ _ rfl rfl rfl
def Mv.fields (i:Nat)(S:An)(p:Nat):Mv i S (S.Ar i p).1:=Mv.look i S p
def Mv.D8 (i:Nat)(S:An)(u:Un):Mv i S (S.BW i u).1:=by
 unfold An.BW;split
 ·exact Mv.tx _ _ _ rfl rfl rfl
 ·exact Mv.refl _ _
def Mv.Pf (i:Nat)(S:An)(p v:Nat):Mv i S (S.A3 i p v).1:=by
 unfold An.A3;split
 ·exact Mv.tx _ _ _ rfl rfl rfl
 ·exact Mv.refl _ _
def Mv.own (i:Nat)(S:An)(p:Nat):Mv i S (S.EG i p):=Mv.heap _ _ _
def Mv.hold (i:Nat)(S:An)(p:Nat):Mv i S (S.Be i p).1:=by
 unfold An.Be;split
 ·exact Mv.refl _ _
 ·split
  ·exact (Mv.Pf _ _ _ _).trans (Mv.own _ _ _)
  ·exact Mv.refl _ _
def Mv.lay (i:Nat)(S:An)(s:BX):Mv i S (S.Bq i s).1:=by
 unfold An.Bq;split
 ·exact Mv.refl _ _
 ·split
  ·exact ((Mv.heap _ _ _).trans (Mv.Pf _ _ _ _)).trans (Mv.own _ _ _)
  ·exact Mv.heap _ _ _
def Mv.B5 (i:Nat)(S:An)(p:Nat)(u:Un)(set:Hp->Hp×Nat):Mv i S (S.B5 i p u set).S:=by
 unfold An.B5;split
 ·exact Mv.hold _ _ _
 ·split
  ·exact (Mv.hold _ _ _).trans (Mv.D8 _ _ _)
  ·exact ((Mv.hold _ _ _).trans (Mv.D8 _ _ _)).trans (Mv.heap _ _ _)
def Mv.CE (i:Nat)(S:An)(p j:Nat):Mv i S (S.CE i p j).S:=by
 unfold An.CE;split<;>exact Mv.fields _ _ _
def Mv.Dd (i:Nat)(S:An)(p j:Nat):Mv i S (S.Dd i p j).S:=by
 unfold An.Dd;split
 ·exact Mv.fields _ _ _
 ·exact (Mv.fields _ _ _).trans (Mv.heap _ _ _)
def Mv.BH (i:Nat)(S:An)(p j:Nat)(v:Int):Mv i S (S.BH i p j v).S:=by
 unfold An.BH;split
 ·exact Mv.fields _ _ _
 ·split
  ·exact Mv.fields _ _ _
  ·exact (Mv.fields _ _ _).trans (Mv.B5 _ _ _ _ _)
def Mv.Dr (i:Nat)(S:An)(p j q:Nat):Mv i S (S.Dr i p j q).S:=by
 unfold An.Dr;split
 ·exact Mv.refl _ _
 ·unfold An.C8
  split
  ·exact Mv.fields _ _ _
  ·split
   ·exact (Mv.fields _ _ _).trans (Mv.heap _ _ _)
   ·exact ((Mv.fields _ _ _).trans (Mv.heap _ _ _)).trans (Mv.B5 _ _ _ _ _)
def Mv.Cj (i:Nat)(S:An)(p:Nat):Mv i S (S.Cj i p).S:=by
 unfold An.Cj;split
 ·exact Mv.look _ _ _
 ·exact (Mv.look _ _ _).trans (Mv.B5 _ _ _ _ _)
def Mv.AR (i:Nat)(S:An)(s:BX):Mv i S (S.AR i s).S:=Mv.lay i S s
def Mv.BG (i:Nat)(S:An)(q:Nat):Mv i S (S.BG i q).S:=by
 unfold An.BG;split
 ·exact Mv.refl _ _
 ·split
  ·exact Mv.refl _ _
  ·split
   ·exact Mv.lay _ _ _
   ·exact (Mv.lay _ _ _).trans (Mv.heap _ _ _)
def Mv.CP (i:Nat)(S:An)(q:Nat):Mv i S (S.CP i q).S:=by
 unfold An.CP;split
 ·exact Mv.refl _ _
 ·split<;>exact Mv.tx _ _ _ rfl rfl rfl
def Mv.B8 (i:Nat)(S:An)(p:Nat):Mv i S (S.B8 i p).S:=by
 unfold An.B8;split
 ·exact Mv.look _ _ _
 ·split
  ·exact Mv.look _ _ _
  ·split
   ·exact (Mv.look _ _ _).trans (Mv.heap _ _ _)
   ·exact ((Mv.look _ _ _).trans (Mv.heap _ _ _)).trans (Mv.CP _ _ _)
def Mv.Ca (i:Nat)(S:An):Mv i S (S.Ca i).S:=by
 unfold An.Ca;split
 ·exact Mv.refl _ _
 ·split
  ·exact Mv.Tl _ _ _ S.queue
  ·rename_i z l _
   split
   ·exact Mv.Tl _ _ _ S.queue
   ·exact (Mv.Tl i S i l).trans (Mv.tx _ _ _ rfl rfl rfl)
def Mv.Cs (i:Nat)(S:An):Mv i S (S.Cs i):=by
 unfold An.Cs;split
 ·exact Mv.Tl _ _ _ _
 ·exact Mv.refl _ _
def Ed.abort (hi:i<S.Au.length):Ed i S (S.abort i):=by
 unfold An.abort;have m:Mv i S ((S.h ((S.H.Cx (S.t i).log.Ay).C1 (S.t i).log.holds)).Cs i):=(Mv.heap _ _ _).trans (Mv.Cs _ _);refine⟨(An.Cq _ _ _).trans m.len,fun j h=>(An.EL _ (fun e=>h e.symm) _).trans (m.Ls j h),.inr ⟨S.t i,?_⟩,m.now,m.most,m.next,m.came,m.lost,m.ph,m.RO⟩
 rw[An.FM (by rw[m.len];exact hi)]
def Ed.Ss (m:Mv i S S')(e:Ed i S' S2):Ed i S S2:=by
 refine⟨e.len.trans m.len,fun j h=>(e.Ls j h).trans (m.Ls j h),.inr ?_,e.now.trans m.now,e.most.trans m.most,e.next.trans m.next,e.came.trans m.came,e.lost.trans m.lost,e.ph.trans m.ph,e.RO.trans m.RO⟩
 rcases e.lv with h|h
 ·exact⟨_,h⟩
 ·exact h
def Ed.dead (e:Ed i S S'):(S'.t i).live=false:=by
 rcases e.lv with h|⟨x,h⟩
 ·rw[h];rfl
 ·rw[h];rfl
def PW {r:BD}(m:Mv i S r.S)(hi:i<S.Au.length):(D5 r.e=true/\Ed i S (r.fin i).S/\(r.fin i).v=0/\(r.fin i).e=r.e)\/(D5 r.e=false/\Mv i S (r.fin i).S/\(r.fin i).e=r.e):=by
 unfold BD.fin;split
 ·rename_i h;exact .inl ⟨h,Ed.Ss m (Ed.abort (by rw[m.len];exact hi)),rfl,rfl⟩
 ·rename_i h
  refine .inr ⟨by simpa using h,?_,?_⟩
  ·split<;>exact m
  ·split
   ·rfl
   ·rfl
def LV {r:BD}(m:Mv i S r.S)(hi:i<S.Au.length)(hl:(S.t i).live=true):(D5 r.e=true/\Ed i S (S.AG i r).S/\(S.AG i r).v=0/\(S.AG i r).e=r.e)\/(D5 r.e=false/\Mv i S (S.AG i r).S/\(S.AG i r).e=r.e):=by
 unfold An.AG;rw[if_pos hl];exact PW m hi
end
end
section
open Go.RowKit Hp
attribute [local go_sem ↓] Go.wp_at_zero Go.wp_at_succ
section
variable {w : Aa}
def GQ (be bs bx bv:Nat)(err:Int)(he:w.cell? ⟨be,0,none⟩=some (I Z err))(h0:err=0) :
  CallsD ARt 138 #[ptr be,ptr bs,ptr bx,ptr bv] .returning w fun e u' w'=>u'=.returning/\(e=O (Aj #[])/\w'=w):=by
 subst h0;go_enter_d func138,ntmps138;go_wp2_with fail;go_end0;exact⟨rfl,rfl⟩
def qo1 (be bs bx bv:Nat)(err v:Int)(tv:TypeId)(he:w.cell? ⟨be,0,none⟩=some (I Z err))(hv:Al w bv #[I Z v] tv)(h0:err≠0)(h1:err≠141)(h2:err≠130)(h3:err≠100) :
  CallsD ARt 138 #[ptr be,ptr bs,ptr bx,ptr bv] .returning w fun e u' w'=>u'=.returning/\(e=O (Aj #[])/\w'=w.setCell ⟨bv,0,none⟩ (I Z 0)):=by
 have c:=hv.cell 0;have z:=hv.free 0;have s:=hv.lt;go_enter_d func138,ntmps138;go_wp2_with fail;go_end0;exact⟨rfl,rfl⟩
end
section
variable {w : Aa} {o : Own} {y : A6} {S : An} {x : Tx} {i : Nat}
def LW (g:Nat) (eO:List Ac) (h0:Aq w o y S) (hk:S.ok) (hx:S.Au[i]?=some x) (hl:x.live=true) (eg:∀ args w,(callFunc g args).run ARt w=.ok (.enter g args) w)
  (T:Tag->Prop) (hT:¬T (y.l.id+1,0)) (S':An) (v:Int)
  (hdo:∀ w1 o1,Ae w.1.size w w1->(∀ b,b<w.1.size->o1 b=o b)->Aq w1 o1 y S->Ab ARt g (ptr (y.xb i)::eO).toArray w1 fun e w'=>e=O (Aj #[I Z v,I Z 0])/\∃ o',Aq w' o' y S'/\Stp T o1 o' w1 w') :
  Ab ARt 77 #[ptr y.sb,I Z i,.func (.func g) #[] eO.toArray] w fun e w'=>e=O (Aj #[I Z v,I Z 0])/\∃ o',Aq w' o' y S'/\Stp T o o' w w':=by
 have gD:∀ (fn:Fn) (first cap:Array Ac) (w:Aa),(ai fn first cap).run ARt w=.ok (.func fn first cap) w:=fun _ _ _ _=>rfl
 obtain⟨o1,ho1⟩:∃ o1,o1=ext o w.1.size (y.l.id+1,0):=⟨_,rfl⟩;have h:=h0.retag (o':=o1) fun b hb=>by rw[ho1];exact qr hb
 have hS0:Stp T o o1 w w:=by rw[ho1];exact (Stp.refl _ o w).ext _ _ (Qk _)
 have hbx:∀ b,w.1.size<=b->o1 b=(y.l.id+1,0):=fun b hb=>by rw[ho1];exact qz hb
 have dN:∀ b,b<w.1.size->o1 b=o b:=fun b hb=>by rw[ho1];exact qr hb
 clear ho1 h0;have HR:=Qa (fun w' (hw:Ae w.1.size w w')=>yf (h.below hw) hk hx)
 rw[hl]at HR;simp only[if_true]at HR;have HD:=Qa (fun w' (hw:Ae w.1.size w w')=>hdo w' o1 hw dN (h.below hw))
 have HB:=Qa hbx;have HS:=Qa hS0;have HT:=Qa hT;clear hdo hbx h hk hx hS0 hT dN;go_enter_defers func77,ntmps77;go_wp2_with fail;obtain⟨W,hW⟩:=Ja0 (((w.alloc (ARu #[ptr y.sb] 24)).alloc (ARu #[I Z 0] 3)).alloc (ARu #[I Z 0] 29));rw[<-hW];have hbW:Ae w.1.size w W:=by rw[hW];exact qc (qc (qc (qd w) _) _) _
 have hzW:W.1.size=w.1.size+3:=by rw[hW];simp
 have jS:Al W w.1.size #[ptr y.sb] 24:=by rw[hW];exact ((Al.new w _ _).alloc _).alloc _
 have jV:Al W (w.1.size+1) #[I Z 0] 3:=by rw[hW];exact (Al.Ap _ _ _ _ _ (by simp) rfl).alloc _
 have jE:Al W (w.1.size+1+1) #[I Z 0] 29:=by rw[hW];exact Al.Ap _ _ _ _ _ (by simp) rfl
 clear hW;refine (HR.out _ hbW).mono ?_
 rintro e w1⟨rfl,rfl⟩
 go_wp2_with fail;refine (HD.out _ (qc hbW _)).mono ?_
 rintro e w2⟨rfl,o2,hS2,hs2⟩
 have nJ:=(jV.alloc (ARu #[ptr (y.xb i)] 103)).Ao hs2 (by rw[HB.out _ (by omega)];exact HT.out)
 have nG:=(jE.alloc (ARu #[ptr (y.xb i)] 103)).Ao hs2 (by rw[HB.out _ (by omega)];exact HT.out)
 have tV:o2 (w.1.size+1)=(y.l.id+1,0):=(hs2.tags _ (jV.alloc _).lt).trans (HB.out _ (by omega))
 have tE:o2 (w.1.size+1+1)=(y.l.id+1,0):=(hs2.tags _ (jE.alloc _).lt).trans (HB.out _ (by omega))
 have hst:Stp T o1 o2 w w2:=(Stp.of_below (qc hbW _)).trans hs2;clear jV jE jS;have cV:=nJ.cell;have zV:=nJ.free;have sV:=nJ.lt;have cE:=nG.cell;have zE:=nG.free;have sE:=nG.lt;go_wp2_with fail;have vZ:=(nJ.set 0 (I Z v)).Am (a:=⟨w.1.size+1+1,0,none⟩) (by simp) (I Z 0)
 have xP:=(nG.Am (a:=⟨w.1.size+1,0,none⟩) (by simp) (I Z v)).set 0 (I Z 0)
 have yX:=vZ.cell 0;have uR:=xP.cell 0;simp at yX uR;refine leaves_cons (f:=138) (args:=#[ptr (w.1.size+1+1),ptr w.1.size,ptr (w.1.size+3),ptr (w.1.size+1)]) (by simp) (by simp[go_sem]) ?_
 refine (GQ _ _ _ _ 0 uR rfl).mono ?_
 rintro e u' w''⟨rfl,rfl,rfl⟩
 simp only[settle,Leaves];refine⟨Aj #[I Z v,I Z 0],by simp[results,results77,go_sem,yX,uR],rfl,o2,(hS2.box tV _).box tE _,HS.out.trans ((hst.setCell_new (by show w.1.size<=w.1.size+1;omega) _).setCell_new (by show w.1.size<=w.1.size+1+1;omega) _)⟩
def GR (g:Nat) (eO:List Ac) (h0:Aq w o y S) (hk:S.ok) (hx:S.Au[i]?=some x) (hl:x.live=true) (eg:∀ args w,(callFunc g args).run ARt w=.ok (.enter g args) w)
  (T:Tag->Prop) (hT:¬T (y.l.id+1,0)) (S':An) (v err:Int) (e0:err≠0) (e1:err≠141) (e2:err≠130) (e3:err≠100)
  (hdo:∀ w1 o1,Ae w.1.size w w1->(∀ b,b<w.1.size->o1 b=o b)->Aq w1 o1 y S->Ab ARt g (ptr (y.xb i)::eO).toArray w1 fun e w'=>e=O (Aj #[I Z v,I Z err])/\∃ o',Aq w' o' y S'/\Stp T o1 o' w1 w') :
  Ab ARt 77 #[ptr y.sb,I Z i,.func (.func g) #[] eO.toArray] w fun e w'=>e=O (Aj #[I Z 0,I Z err])/\∃ o',Aq w' o' y S'/\Stp T o o' w w':=by
 have gD:∀ (fn:Fn) (first cap:Array Ac) (w:Aa),(ai fn first cap).run ARt w=.ok (.func fn first cap) w:=fun _ _ _ _=>rfl
 obtain⟨o1,ho1⟩:∃ o1,o1=ext o w.1.size (y.l.id+1,0):=⟨_,rfl⟩;have h:=h0.retag (o':=o1) fun b hb=>by rw[ho1];exact qr hb
 have hS0:Stp T o o1 w w:=by rw[ho1];exact (Stp.refl _ o w).ext _ _ (Qk _)
 have hbx:∀ b,w.1.size<=b->o1 b=(y.l.id+1,0):=fun b hb=>by rw[ho1];exact qz hb
 have dN:∀ b,b<w.1.size->o1 b=o b:=fun b hb=>by rw[ho1];exact qr hb
 clear ho1 h0;have HR:=Qa (fun w' (hw:Ae w.1.size w w')=>yf (h.below hw) hk hx)
 rw[hl]at HR;simp only[if_true]at HR;have HD:=Qa (fun w' (hw:Ae w.1.size w w')=>hdo w' o1 hw dN (h.below hw))
 have HB:=Qa hbx;have HS:=Qa hS0;have HT:=Qa hT;clear hdo hbx h hk hx hS0 hT dN;go_enter_defers func77,ntmps77;go_wp2_with fail;obtain⟨W,hW⟩:=Ja0 (((w.alloc (ARu #[ptr y.sb] 24)).alloc (ARu #[I Z 0] 3)).alloc (ARu #[I Z 0] 29));rw[<-hW];have hbW:Ae w.1.size w W:=by rw[hW];exact qc (qc (qc (qd w) _) _) _
 have hzW:W.1.size=w.1.size+3:=by rw[hW];simp
 have jS:Al W w.1.size #[ptr y.sb] 24:=by rw[hW];exact ((Al.new w _ _).alloc _).alloc _
 have jV:Al W (w.1.size+1) #[I Z 0] 3:=by rw[hW];exact (Al.Ap _ _ _ _ _ (by simp) rfl).alloc _
 have jE:Al W (w.1.size+1+1) #[I Z 0] 29:=by rw[hW];exact Al.Ap _ _ _ _ _ (by simp) rfl
 clear hW;refine (HR.out _ hbW).mono ?_
 rintro e w1⟨rfl,rfl⟩
 go_wp2_with fail;refine (HD.out _ (qc hbW _)).mono ?_
 rintro e w2⟨rfl,o2,hS2,hs2⟩
 have nJ:=(jV.alloc (ARu #[ptr (y.xb i)] 103)).Ao hs2 (by rw[HB.out _ (by omega)];exact HT.out)
 have nG:=(jE.alloc (ARu #[ptr (y.xb i)] 103)).Ao hs2 (by rw[HB.out _ (by omega)];exact HT.out)
 have tV:o2 (w.1.size+1)=(y.l.id+1,0):=(hs2.tags _ (jV.alloc _).lt).trans (HB.out _ (by omega))
 have tE:o2 (w.1.size+1+1)=(y.l.id+1,0):=(hs2.tags _ (jE.alloc _).lt).trans (HB.out _ (by omega))
 have hst:Stp T o1 o2 w w2:=(Stp.of_below (qc hbW _)).trans hs2;clear jV jE jS;have cV:=nJ.cell;have zV:=nJ.free;have sV:=nJ.lt;have cE:=nG.cell;have zE:=nG.free;have sE:=nG.lt;go_wp2_with fail;have vZ:=(nJ.set 0 (I Z v)).Am (a:=⟨w.1.size+1+1,0,none⟩) (by simp) (I Z err)
 have xP:=(nG.Am (a:=⟨w.1.size+1,0,none⟩) (by simp) (I Z v)).set 0 (I Z err)
 have yX:=vZ.cell 0;have uR:=xP.cell 0;simp at yX uR;refine leaves_cons (f:=138) (args:=#[ptr (w.1.size+1+1),ptr w.1.size,ptr (w.1.size+3),ptr (w.1.size+1)]) (by simp) (by simp[go_sem]) ?_
 refine (qo1 _ _ _ _ err v _ uR (by simpa using vZ) e0 e1 e2 e3).mono ?_
 rintro e u' w''⟨rfl,rfl,rfl⟩
 have jV4:=vZ.set 0 (I Z 0);have jE4:=xP.Am (a:=⟨w.1.size+1,0,none⟩) (by simp) (I Z 0)
 have cV4:=jV4.cell 0;have cE4:=jE4.cell 0;simp at cV4 cE4;simp only[settle,Leaves];refine⟨Aj #[I Z 0,I Z err],by simp[results,results77,go_sem,cV4,cE4],rfl,o2,((hS2.box tV _).box tE _).box tV _,HS.out.trans (((hst.setCell_new (by show w.1.size<=w.1.size+1;omega) _).setCell_new (by show w.1.size<=w.1.size+1+1;omega) _).setCell_new (by show w.1.size<=w.1.size+1;omega) _)⟩
end
section
variable {w : Aa} {o : Own} {y : A6} {S : An} {x : Tx} {i : Nat}
def Pv (y:A6)(S':An)(o:Own)(w:Aa)(be bv:Nat)(err:Int)(tv te:TypeId)(w':Aa):Prop:=
 ∃ o' w1,w'=w1.setCell ⟨bv,0,none⟩ (I Z 0)/\Aq w' o' y S'/\Stp (qo y) o o' w w1/\Al w' bv #[I Z 0] tv/\Al w' be #[I Z err] te
def qje (be bs bx bv:Nat)(err v:Int)(tv te ts tx:TypeId)(he:Al w be #[I Z err] te)(hs:Al w bs #[ptr y.sb] ts)(hx:Al w bx #[ptr (y.xb i)] tx)(hv:Al w bv #[I Z v] tv)(h0:err=141\/err=130\/err=100)
  (ob:o be=(y.l.id+1,0))(ov:o bv=(y.l.id+1,0))(hne:be≠bv)(S':An)
  (hab:Ab ARt 73 #[ptr y.sb,ptr (y.xb i)] w fun e w'=>e=O (Aj #[])/\∃ o',Aq w' o' y S'/\Stp (qo y) o o' w w') :
  CallsD ARt 138 #[ptr be,ptr bs,ptr bx,ptr bv] .returning w fun e u' w'=>u'=.returning/\(e=O (Aj #[])/\Pv y S' o w be bv err tv te w'):=by
 have c:=he.cell;have cs:=hs.cell;have cx:=hx.cell;have HA:=Qa hab;have HB:=Qa (qy y);clear hab;rcases h0 with rfl|rfl|rfl
 all_goals
  go_enter_d func138,ntmps138;go_wp2_with fail;refine HA.out.mono ?_;rintro e w1⟨rfl,o1,hS1,hs1⟩;have je:=he.Ao hs1 (by rw[ob];exact HB.out)
  have jv:=hv.Ao hs1 (by rw[ov];exact HB.out)
  have tv:o1 bv=(y.l.id+1,0):=(hs1.tags _ hv.lt).trans ov;clear c cs cx;have c:=je.cell;have cv:=jv.cell;have zv:=jv.free;have sv:=jv.lt;have hS2:=Qa (hS1.box (a:=⟨bv,0,none⟩) tv (I Z 0));go_wp2_with fail;go_end0;exact⟨rfl,o1,_,rfl,hS2.out,hs1,jv.set 0 _,je.Am hne _⟩
def qlr (g:Nat) (eO:List Ac) (h0:Aq w o y S) (hk:S.ok) (hx:S.Au[i]?=some x) (hl:x.live=true) (eg:∀ args w,(callFunc g args).run ARt w=.ok (.enter g args) w)
  (T:Tag->Prop) (hT:¬T (y.l.id+1,0)) (S' S2:An) (v err:Int) (he:err=141\/err=130\/err=100)
  (hdo:∀ w1 o1,Ae w.1.size w w1->(∀ b,b<w.1.size->o1 b=o b)->Aq w1 o1 y S->Ab ARt g (ptr (y.xb i)::eO).toArray w1 fun e w'=>e=O (Aj #[I Z v,I Z err])/\∃ o',Aq w' o' y S'/\Stp T o1 o' w1 w')
  (hab:∀ w1 o1,Aq w1 o1 y S'->Ab ARt 73 #[ptr y.sb,ptr (y.xb i)] w1 fun e w'=>e=O (Aj #[])/\∃ o',Aq w' o' y S2/\Stp (qo y) o1 o' w1 w') :
  Ab ARt 77 #[ptr y.sb,I Z i,.func (.func g) #[] eO.toArray] w fun e w'=>e=O (Aj #[I Z 0,I Z err])/\∃ o',Aq w' o' y S2/\Stp (fun t=>T t\/qo y t) o o' w w':=by
 have gD:∀ (fn:Fn) (first cap:Array Ac) (w:Aa),(ai fn first cap).run ARt w=.ok (.func fn first cap) w:=fun _ _ _ _=>rfl
 obtain⟨o1,ho1⟩:∃ o1,o1=ext o w.1.size (y.l.id+1,0):=⟨_,rfl⟩;have h:=h0.retag (o':=o1) fun b hb=>by rw[ho1];exact qr hb
 have hS0:Stp T o o1 w w:=by rw[ho1];exact (Stp.refl _ o w).ext _ _ (Qk _)
 have hbx:∀ b,w.1.size<=b->o1 b=(y.l.id+1,0):=fun b hb=>by rw[ho1];exact qz hb
 have dN:∀ b,b<w.1.size->o1 b=o b:=fun b hb=>by rw[ho1];exact qr hb
 clear ho1 h0;have HR:=Qa (fun w' (hw:Ae w.1.size w w')=>yf (h.below hw) hk hx)
 rw[hl]at HR;simp only[if_true]at HR;have HD:=Qa (fun w' (hw:Ae w.1.size w w')=>hdo w' o1 hw dN (h.below hw))
 have wL:=Qa hab;have HB:=Qa hbx;have HS:=Qa hS0;have HT:=Qa hT;have HEr:=Qa he;clear hdo hbx h hk hx hS0 hT dN hab he;go_enter_defers func77,ntmps77;go_wp2_with fail;obtain⟨W,hW⟩:=Ja0 (((w.alloc (ARu #[ptr y.sb] 24)).alloc (ARu #[I Z 0] 3)).alloc (ARu #[I Z 0] 29));rw[<-hW];have hbW:Ae w.1.size w W:=by rw[hW];exact qc (qc (qc (qd w) _) _) _
 have hzW:W.1.size=w.1.size+3:=by rw[hW];simp
 have jS:Al W w.1.size #[ptr y.sb] 24:=by rw[hW];exact ((Al.new w _ _).alloc _).alloc _
 have jV:Al W (w.1.size+1) #[I Z 0] 3:=by rw[hW];exact (Al.Ap _ _ _ _ _ (by simp) rfl).alloc _
 have jE:Al W (w.1.size+1+1) #[I Z 0] 29:=by rw[hW];exact Al.Ap _ _ _ _ _ (by simp) rfl
 have jX:Al (W.alloc (ARu #[ptr (y.xb i)] 103)) (w.1.size+3) #[ptr (y.xb i)] 103:=Al.Ap _ _ _ _ _ hzW.symm rfl;clear hW;refine (HR.out _ hbW).mono ?_
 rintro e w1⟨rfl,rfl⟩
 go_wp2_with fail;refine (HD.out _ (qc hbW _)).mono ?_
 rintro e w2⟨rfl,o2,hS2,hs2⟩
 have nJ:=(jV.alloc (ARu #[ptr (y.xb i)] 103)).Ao hs2 (by rw[HB.out _ (by omega)];exact HT.out)
 have nG:=(jE.alloc (ARu #[ptr (y.xb i)] 103)).Ao hs2 (by rw[HB.out _ (by omega)];exact HT.out)
 have dF:=(jS.alloc (ARu #[ptr (y.xb i)] 103)).Ao hs2 (by rw[HB.out _ (by omega)];exact HT.out)
 have wB:=jX.Ao hs2 (by rw[HB.out _ (by omega)];exact HT.out)
 have tV:o2 (w.1.size+1)=(y.l.id+1,0):=(hs2.tags _ (jV.alloc _).lt).trans (HB.out _ (by omega))
 have tE:o2 (w.1.size+1+1)=(y.l.id+1,0):=(hs2.tags _ (jE.alloc _).lt).trans (HB.out _ (by omega))
 have hst:Stp T o1 o2 w w2:=(Stp.of_below (qc hbW _)).trans hs2;clear jV jE jS jX;have cV:=nJ.cell;have zV:=nJ.free;have sV:=nJ.lt;have cE:=nG.cell;have zE:=nG.free;have sE:=nG.lt;go_wp2_with fail;have vZ:=(nJ.set 0 (I Z v)).Am (a:=⟨w.1.size+1+1,0,none⟩) (by simp) (I Z err)
 have xP:=(nG.Am (a:=⟨w.1.size+1,0,none⟩) (by simp) (I Z v)).set 0 (I Z err)
 have iP:=(dF.Am (a:=⟨w.1.size+1,0,none⟩) (by simp) (I Z v)).Am (a:=⟨w.1.size+1+1,0,none⟩) (by simp;omega) (I Z err)
 have jX3:=(wB.Am (a:=⟨w.1.size+1,0,none⟩) (by simp) (I Z v)).Am (a:=⟨w.1.size+1+1,0,none⟩) (by simp) (I Z err)
 refine leaves_cons (f:=138) (args:=#[ptr (w.1.size+1+1),ptr w.1.size,ptr (w.1.size+3),ptr (w.1.size+1)]) (by simp) (by simp[go_sem]) ?_
 refine (qje _ _ _ _ err v _ _ _ _ (by simpa using xP) iP jX3 (by simpa using vZ) HEr.out tE tV (by omega) S2 (wL.out _ _ ((hS2.box tV _).box tE _))).mono ?_
 rintro e u' w''⟨rfl,rfl,o3,w3,rfl,dB,hs3,jV4,jE4⟩
 have cV4:=jV4.cell 0;have cE4:=jE4.cell 0;simp at cV4 cE4;simp only[settle,Leaves];refine⟨Aj #[I Z 0,I Z err],by simp[results,results77,go_sem,cV4,cE4],rfl,o3,dB,?_⟩
 have h1:Stp T o o2 w _:=HS.out.trans ((hst.setCell_new (a:=⟨w.1.size+1,0,none⟩) (by show w.1.size<=w.1.size+1;omega) (I Z v)).setCell_new (a:=⟨w.1.size+1+1,0,none⟩) (by show w.1.size<=w.1.size+1+1;omega) (I Z err))
 exact ((h1.mono fun _ h=>Or.inl h).trans (hs3.mono fun _ h=>Or.inr h)).setCell_new (by show w.1.size<=w.1.size+1;omega) _
end
end
section
open Go.RowKit Go.Shelf Hp
def Fc:Go.Shelf.Ren:=⟨fun|4=>201|n=>n,fun|0=>0|3=>3|4=>4|9=>9|20=>20|22=>99|25=>117|n=>n,fun|n=>n⟩
def Hx:Go.Proofs.Lays8.n4 ARt Fc:={
 mixed:=by kernel_rfl
 f4:=⟨Tryz.f201.name,by kernel_rfl,func201.trans (congrArg some (by kernel_rfl))⟩
 t0:=by kernel_rfl
 a0:=fun _=>by kernel_rfl
 z0:=fun _=>by kernel_rfl
 v0:=fun _=>by kernel_rfl
 t3:=by kernel_rfl
 a3:=fun _=>by kernel_rfl
 z3:=fun _=>by kernel_rfl
 v3:=fun _=>by kernel_rfl
 t4:=by kernel_rfl
 a4:=fun _=>by kernel_rfl
 z4:=fun _=>by kernel_rfl
 v4:=fun _=>by kernel_rfl
 t9:=by kernel_rfl
 a9:=fun _=>by kernel_rfl
 z9:=fun _=>by kernel_rfl
 v9:=fun _=>by kernel_rfl
 t20:=by kernel_rfl
 a20:=fun _=>by kernel_rfl
 z20:=fun _=>by kernel_rfl
 v20:=fun _=>by kernel_rfl
 t22:=by kernel_rfl
 a22:=fun _=>by kernel_rfl
 z22:=fun _=>by kernel_rfl
 v22:=fun _=>by kernel_rfl }
def mm:∃ i,ARt.info? 117=some i/\i.size=2/\i.bytes=16/\i.zero=some (Ak #[I Z 0,I Z 0]):=info_parts (by kernel_rfl)
def Hy (n:Nat)(hn:n<=4398046511104)(w:Aa) :
  Ab ARt 201 #[Ah none 0 0,I Z n] w fun e w'=>∃ v,e=O v/\Row w' (fo w.1.size) (1,0) 117 2 v 0 []/\Ae w.1.size w w':=by
 rcases Nat.eq_zero_or_pos n with rfl|h0
 ·refine (qpg w).mono ?_
  rintro e w' ⟨rfl,rfl⟩;exact⟨_,rfl,Row.nil _ _ _ _ _,qd w⟩
 ·obtain⟨i,hi,hs,hb,hz⟩:=mm
  have hG:=Any8.slices_Grow_grow Hx i _ hi hz (by omega) none 0 0 n [] w (Qk _) (by omega) (by rw[hb];omega) (by omega) (by simp) (fun _=>rfl) (fun a ha=>by cases ha)
  refine hG.mono ?_;rintro e w' ⟨rfl,rfl⟩;refine⟨_,rfl,⟨⟨by simp,.inr ⟨w.1.size,_,_,rfl,aT _,Ai w.drew _,aT _,?_,?_,by simp⟩⟩,?_⟩,qc (qf (qd w)) _⟩
  ·exact grownCap_le_maxLen _ _ _ _ (by unfold maxLen;omega)
  ·have hg:=grownCap_ge w (0+n) 0 (Fc.t 25)
   simp only[Array.size_append,size_zeroCells,aj,ay];show 0+(0+n-0)*2+_*2=_*2;omega
  ·intro k hk
   simp only[Value.ownBlock,Zd]at hk;subst hk;exact Ho (Qk _)
def qjj (l m:List (Nat×Nat)):qk (l++m)=qk l++qk m:=by
 induction l with
 | nil=>rfl
 | cons x l ih=>simp[qk,ih]
def F9 (m1 m2:Nat)(n1:m1<=1099511627776)(n2:m2<=1099511627776) :
  IntKind.i64.wrap (0+(m1:Int))=(m1:Int)/\IntKind.i64.wrap ((m1:Int)+(m2:Int))=(m1:Int)+(m2:Int)/\wrap64 (m1:Int)=(m1:Int)/\wrap64 ((m1:Int)+(m2:Int))=(m1:Int)+(m2:Int):=by
 have h1:(-9223372036854775808:Int)<=m1/\(m1:Int)<=9223372036854775807:=by omega
 have h2:(-9223372036854775808:Int)<=(m1:Int)+m2/\(m1:Int)+m2<=9223372036854775807:=by omega
 exact⟨by rw[Int.zero_add];exact aN _ h1,aN _ h2,aG _ h1,aG _ h2⟩
def CcR (m1 m2:Nat)(s ix:Ac):Prop:=∃ k n:Nat,s=I Z n/\ix=I Z k/\(k=0/\n=0\/k=1/\n=m1\/k=2/\n=m1+m2)
def qkl {w:Aa}{b:Nat}{v1 v2:Ac}{l1 l2:List (Nat×Nat)}{o1 o2:Own}{t1 t2:Tag}(hb:Al w b #[v1,v2] 99)(h1:Row w o1 t1 117 2 v1 l1.length (qk l1))(h2:Row w o2 t2 117 2 v2 l2.length (qk l2))
  (n1:l1.length<=1099511627776)(n2:l2.length<=1099511627776) :
  Ab ARt 134 #[Ah (some ⟨b,0,none⟩) 2 2] w fun e w'=>∃ v,e=O v/\Row w' (fo w.1.size) (1,0) 117 2 v (l1++l2).length (qk (l1++l2))/\Ae w.1.size w w':=by
 obtain⟨iU,hi,hsI,bZ,bT⟩:=mm;have hu64:=underlying99;have c:=hb.cell;have HG:=Qa (fun w'=>Hy (l1.length+l2.length) (by omega) w')
 have H1:=Qa h1;have H2:=Qa h2;have HB:=Qa hb;obtain⟨a1,c1,e1⟩:∃ a1 c1,v1=.slice a1 l1.length c1:=h1.AS;obtain⟨a2,c2,e2⟩:∃ a2 c2,v2=.slice a2 l2.length c2:=h2.AS;subst e1 e2;obtain⟨m1,hm1⟩:=Ja0 l1.length;obtain⟨m2,hm2⟩:=Ja0 l2.length;rw[<-hm1,<-hm2]at HG;rw[<-hm1]at c H1 HB n1;rw[<-hm2]at c H2 HB n2;have hfin:(l1++l2).length=m1+m2:=by rw[Qd];omega
 have HF:=Qa hfin;obtain⟨hw0,hw1,hw2,hw3⟩:=F9 m1 m2 n1 n2;have hp1:¬((m1:Int)<0):=aU.2 (aC _);have hp2:¬((m1:Int)+(m2:Int)<0):=aU.2 (Int.add_nonneg (aC _) (aC _));have hp3:decide ((m1:Int)<0)=false:=decide_eq_false hp1;have hp4:decide ((m1:Int)+(m2:Int)<0)=false:=decide_eq_false hp2;have N1:=Qa n1;have N2:=Qa n2;clear h1 h2 hb hm1 hm2 hfin n1 n2;go_enter func134,ntmps134;go_wp2_with fail;go_loop [3,11] (CcR m1 m2) (fun _ ix=>2-(intOf ix).toNat)
 case atStart=>exact⟨0,0,rfl,rfl,.inl ⟨rfl,rfl⟩⟩
 case round =>
  obtain⟨k,n,rfl,rfl,hkn⟩:=hrel;rcases hkn with ⟨rfl,rfl⟩|⟨rfl,rfl⟩|⟨rfl,rfl⟩
  ·have cz:=c 0
   rw[show ((0:Nat):Int)=0 from rfl];go_wp2_with fail;go_round
   case rel=>exact⟨1,m1,by rw[hw2],rfl,.inr (.inl ⟨rfl,rfl⟩)⟩
   case measure=>simp[intOf]
  ·have cz:=c 1
   go_wp2_with fail;go_round
   case rel=>exact⟨2,n+m2,by rw[aR],rfl,.inr (.inr ⟨rfl,rfl⟩)⟩
   case measure=>simp[intOf]
  ·rw[aR]
   clear c;go_wp2_with fail;refine (HG.out _).mono ?_;rintro e w1 ⟨v,rfl,hr,hb1⟩;have qY:=Qa hr;have HBb:=Qa hb1;clear hr;go_wp2_with fail;go_loopw [6,27] (fun s ix wr=>∃ (k:Nat)(n:Nat)(xs:List Ac),k<=2/\ix=I Z k/\n=(if k=0 then 0 else if k=1 then m1 else m1+m2)/\xs=(if k=0 then [] else if k=1 then qk l1 else qk (l1++l2))/\Row wr (fo w.1.size) (1,0) 117 2 s n xs/\Ae w.1.size w wr) (fun _ ix _=>2-(intOf ix).toNat)
   case atStart=>exact⟨0,0,[],by omega,rfl,rfl,rfl,qY.out,HBb.out⟩
   case round =>
    clear hb1;obtain⟨k,n,xs,hk,rfl,hn,hxs,hr,hbr⟩:=hrel;obtain rfl|rfl|rfl:k=0\/k=1\/k=2:=by omega
    ·simp only[if_true]at hn hxs
     subst hn hxs;have c:=(HB.out.below hbr HB.out.lt).cell 0;have hk1:=Qa (show 0+m1<=maxLen by have:=N1.out;simp only[maxLen];omega)
     have hk2:=Qa (show (0+m1)*16<=140737488355328 by have:=N1.out;omega)
     have hsrc:=H1.out.below hbr;go_wp2_with (at_builtin;refine zi _ rfl _ _ _ rfl 117 iU _ 2 16 hu64 hi bT hsI bZ rfl (by decide) (fo w.1.size) (1,0) _ 0 [] rfl hr _ _ _ m1 (qk l1) rfl hsrc (ug l1) hk1.out hk2.out ?_;intro v' w' hown hst)
     have Aab:=xx hbr hst;have hown2:=yr hbr hown;rw[ag,aH]at hown2;go_roundw
     case rel=>exact⟨1,m1,qk l1,by omega,by simp,by simp,by simp,hown2,Aab⟩
     case measure=>simp[intOf]
    ·simp only[if_true,Nat.one_ne_zero,if_false]at hn hxs
     subst hn hxs;have c:=(HB.out.below hbr HB.out.lt).cell 1;have hk1:=Qa (show n+m2<=maxLen by have:=N1.out;have:=N2.out;simp only[maxLen];omega)
     have hk2:=Qa (show (n+m2)*16<=140737488355328 by have:=N1.out;have:=N2.out;omega)
     have hsrc:=H2.out.below hbr;go_wp2_with (at_builtin;refine zi _ rfl _ _ _ rfl 117 iU _ 2 16 hu64 hi bT hsI bZ rfl (by decide) (fo w.1.size) (1,0) _ n (qk l1) rfl hr _ _ _ m2 (qk l2) rfl hsrc (ug l2) hk1.out hk2.out ?_;intro v' w' hown hst)
     have Aab:=xx hbr hst;have hown2:=yr hbr hown;rw[<-qjj]at hown2;go_roundw
     case rel=>exact⟨2,n+m2,qk (l1++l2),by omega,by simp,by simp,by simp,hown2,Aab⟩
     case measure=>simp[intOf]
    ·simp only[Nat.reduceEqDiff,if_false]at hn hxs
     subst hn hxs;go_wp2_with fail;go_ret;exact⟨_,rfl,by rw[HF.out];exact hr,hbr⟩
end
section
open Go.RowKit Hp Go.Maps
attribute [local go_sem ↓] Go.wp_at_zero Go.wp_at_succ
abbrev Gf:=Nat->Option Ob
def zv (n:Int):Ac:=I Z n
