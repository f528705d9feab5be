import Derived.Test.YtgndecmkhhdkjaaGreatKac
import Derived.Deep.AppendLies
import Derived.Deep.DrawnRows
import Derived.Deep.RegionHeld3
import Derived.Deep.RegionLaw
import Derived.Ground.Names2Prog
import Derived.Ground.SlgnProg
import Derived.Laws.CopyOwn
import Derived.LoopIn
import Derived.LoopNIn
import Derived.OwnWalkIn
import Derived.RangeFuncBound
import Derived.RangeFuncCalls
import Derived.RangeFuncLeaves
import Derived.RangeFuncNested
import Derived.Shelf.Abstract
import Derived.Shelf.RegionOpen
import Derived.Shelf.Slices.Clone
import Derived.Shelf.Slices.Empties
import Derived.Shelf.Slices.SearchI
import Derived.Shelf.Slices.Turned
import Derived.Shelf.SlicesE.Clone
import Derived.Shelf.Small.Wraps
import Derived.StillTailTactics
import Derived.TacticsInMore
set_option linter.all false
set_option maxRecDepth 1000000
set_option maxHeartbeats 0
open Go renaming World->Aa,Value->Ac
open Go.RowKit renaming Below->Ae
open Go.Value renaming int->I,slice->Ai
open Go.IntKind renaming i64->Z
open Nat renaming add_assoc->Ad,lt_trichotomy->Aj
namespace Go.Proofs.YtgndecmkhhdkjaaGreat
open Go.RowKit Hp
attribute [local go_sem ↓] Go.wp_at_zero Go.wp_at_succ
def BL.opened {w:Aa}{v:Ac}{AZ:List (List (List Pg.D))}(h:BL w v AZ) :
  ∃ a c,v=.slice a AZ.length c/\AZ.length<=maxLen/\∀ t ls,AZ[t]?=some ls->∃ b off u,a=some ⟨b,off,none⟩/\w.cell? ⟨b,off+t,none⟩=some u/\Cl w u ls:=by
 obtain⟨h0,vs,hl,⟨a,c,rfl,hc⟩,hb⟩:=h;refine⟨a,c,rfl,h0,fun t ls ht=>?_⟩
 obtain⟨u,hu,hbu⟩:=hb t ls ht;rcases hc with h|⟨b,off,rfl,hc⟩
 ·rw[h]at hu;cases hu
 ·exact⟨b,off,u,rfl,hc t u hu,hbu⟩
def Cl.opened {w:Aa}{v:Ac}{ls:List (List Pg.D)}(h:Cl w v ls) :
  ∃ a c,v=.slice a ls.length c/\ls.length<=maxLen/\∀ t l,ls[t]?=some l->∃ b off u,a=some ⟨b,off,none⟩/\w.cell? ⟨b,off+t,none⟩=some u/\Ct w u l:=by
 obtain⟨h0,vs,hl,⟨a,c,rfl,hc⟩,hb⟩:=h;refine⟨a,c,rfl,h0,fun t ls ht=>?_⟩
 obtain⟨u,hu,hbu⟩:=hb t ls ht;rcases hc with h|⟨b,off,rfl,hc⟩
 ·rw[h]at hu;cases hu
 ·exact⟨b,off,u,rfl,hc t u hu,hbu⟩
def EU (w:Aa)(b off:Nat)(d:Pg.D):Prop:=
 w.cell? ⟨b,off,none⟩=some (I Z d.k)/\w.cell? ⟨b,off+1,none⟩=some (I Z d.a)/\w.cell? ⟨b,off+2,none⟩=some (I Z d.b)/\w.cell? ⟨b,off+3,none⟩=some (I Z d.i)/\w.cell? ⟨b,off+4,none⟩=some (I Z d.n)
def Ct.opened {w:Aa}{v:Ac}{l:List Pg.D}(h:Ct w v l) :
  ∃ a c,v=.slice a l.length c/\l.length<=maxLen/\∀ (t:Nat)(d:Pg.D),l[t]?=some d->∃ b off,a=some ⟨b,off,none⟩/\EU w b (off+t*5) d:=by
 obtain⟨h0,a,c,rfl,hc⟩:=h;refine⟨a,c,rfl,h0,fun t d ht=>?_⟩
 have key:∀ r,r<5->(kl l)[t*5+r]?=(ju d)[r]?:=fun r hr=>by
  rw[nj,show (t*5+r)/5=t from by omega,show (t*5+r)%5=r from by omega,ht];rfl
 rcases hc with h|⟨b,off,rfl,hc⟩
 ·have:=key 0 (by omega);rw[h]at this;cases this
 ·refine⟨b,off,rfl,?_,?_,?_,?_,?_⟩
  ·exact hc (t*5) _ ((key 0 (by omega)).trans rfl)
  ·exact (congrArg w.cell? (by rw[Ad])).trans (hc (t*5+1) _ ((key 1 (by omega)).trans rfl))
  ·exact (congrArg w.cell? (by rw[Ad])).trans (hc (t*5+2) _ ((key 2 (by omega)).trans rfl))
  ·exact (congrArg w.cell? (by rw[Ad])).trans (hc (t*5+3) _ ((key 3 (by omega)).trans rfl))
  ·exact (congrArg w.cell? (by rw[Ad])).trans (hc (t*5+4) _ ((key 4 (by omega)).trans rfl))
def EU.below {w w':Aa}{b off:Nat}{d:Pg.D}(h:EU w b off d)(k:Ae w w w'):EU w' b off d:=by
 obtain⟨h0,h1,h2,h3,h4⟩:=h;have c:∀ {j:Nat}{x:Ac},w.cell? ⟨b,j,none⟩=some x->w'.cell? ⟨b,j,none⟩=some x:=fun {j x} h=>(k.cell (p:=⟨b,j,none⟩) (xy h)).trans h
 exact⟨c h0,c h1,c h2,c h3,c h4⟩
def fits (l:List Pg.D):List Pg.D:=(l.take 6).map fit
def rz (t:List (List Pg.D)):List (List Pg.D):=((t.take 3).map fits).filter fun l=>!l.isEmpty
def Gq (raw:List (List (List Pg.D))):List (List (List Pg.D)):=(raw.take 4).map rz
def pm (raw:List (List (List Pg.D))):List (List (List Pg.D)):=if raw.isEmpty then [[]] else Gq raw
def yt (t:List (List Pg.D))(b:Nat):List (List Pg.D):=((t.take b).map fits).filter fun l=>!l.isEmpty
def qlh {t:List (List Pg.D)}{b:Nat}{l:List Pg.D}(h:t[b]?=some l):yt t (b+1)=yt t b++(if (fits l).isEmpty then [] else [fits l]):=by
 unfold yt;rw[g9 _ _ _ h,Qw,List.filter_append]
 cases hf:(fits l).isEmpty<;>simp[hf]
def WH (t:List (List Pg.D))(b:Nat):(yt t b).length<=b:=by
 unfold yt;refine Qo (List.length_filter_le _ _) ?_;simp;omega
def Row.B9 {w:Aa}{o:Own}{t:Tag}{e:TypeId}{size:Nat}{v:Ac}{n:Nat}{xs:List Ac}(h:Row w o t e size v n xs)(o':Own)(t':Tag)(he:∀ k,o k=t->o' k=t'):Row w o' t' e size v n xs:=
 ⟨h.own,fun k hk=>he k (h.tag k hk)⟩
def B9 (o:Own)(a b:Tag):Own:=fun k=>if o k=a then b else o k
def U4 {o:Own}{a b:Tag}{k:Nat}(h:o k=a):B9 o a b k=b:=if_pos h
def dg {o:Own}{a b:Tag}{k:Nat}(h:o k≠a):B9 o a b k=o k:=if_neg h
def FD (W:Aa)(o:Own)(v:Ac)(l:List Pg.D):Prop:=l.length<=6/\Row W o (1,0) 44 5 v l.length (kl l)
def FB (tg:Tag)(W:Aa)(o:Own)(v:Ac)(bs:List (List Pg.D)):Prop:=
 bs.length<=3/\∃ vs:List Ac,vs.length=bs.length/\Row W o tg 45 1 v bs.length vs/\∀ (j:Nat)(l:List Pg.D),bs[j]?=some l->∃ u:Ac,vs[j]?=some u/\FD W o u l
def FT (tg:Tag)(W:Aa)(o:Own)(v:Ac)(AZ:List (List (List Pg.D))):Prop:=
 AZ.length<=4/\∃ vs:List Ac,vs.length=AZ.length/\Row W o tg 46 1 v AZ.length vs/\∀ (j:Nat)(bs:List (List Pg.D)),AZ[j]?=some bs->∃ u:Ac,vs[j]?=some u/\FB (1,0) W o u bs
section
variable {W W' : Aa} {o o' : Own} {v : Ac} {T : Tag -> Prop} {tg : Tag}
def FD.Ar {l:List Pg.D}(h:FD W o v l)(k:Stp T o o' W W')(ht:¬T (1,0)):FD W' o' v l:=⟨h.1,h.2.Ar k ht⟩
def FB.Ar {bs:List (List Pg.D)}(h:FB tg W o v bs)(k:Stp T o o' W W')(ht:¬T (1,0))(ht2:¬T tg):FB tg W' o' v bs:=by
 obtain⟨h0,vs,h1,h2,h3⟩:=h;exact⟨h0,vs,h1,h2.Ar k ht2,fun j l hj=>let⟨u,hu,hd⟩:=h3 j l hj;⟨u,hu,hd.Ar k ht⟩⟩
def FT.Ar {AZ:List (List (List Pg.D))}(h:FT tg W o v AZ)(k:Stp T o o' W W')(ht:¬T (1,0))(ht2:¬T tg):FT tg W' o' v AZ:=by
 obtain⟨h0,vs,h1,h2,h3⟩:=h;exact⟨h0,vs,h1,h2.Ar k ht2,fun j l hj=>let⟨u,hu,hd⟩:=h3 j l hj;⟨u,hu,hd.Ar k ht ht⟩⟩
def FD.B9 {l:List Pg.D}(h:FD W o v l)(he:∀ k,o k=(1,0)->o' k=(1,0)):FD W o' v l:=⟨h.1,h.2.B9 o' _ he⟩
def FB.B9 {bs:List (List Pg.D)}(h:FB tg W o v bs)(he:∀ k,o k=(1,0)->o' k=(1,0))(t':Tag)(he2:∀ k,o k=tg->o' k=t'):FB t' W o' v bs:=by
 obtain⟨h0,vs,h1,h2,h3⟩:=h;exact⟨h0,vs,h1,h2.B9 o' t' he2,fun j l hj=>let⟨u,hu,hd⟩:=h3 j l hj;⟨u,hu,hd.B9 he⟩⟩
def FT.B9 {AZ:List (List (List Pg.D))}(h:FT tg W o v AZ)(he:∀ k,o k=(1,0)->o' k=(1,0))(t':Tag)(he2:∀ k,o k=tg->o' k=t'):FT t' W o' v AZ:=by
 obtain⟨h0,vs,h1,h2,h3⟩:=h;exact⟨h0,vs,h1,h2.B9 o' t' he2,fun j l hj=>let⟨u,hu,hd⟩:=h3 j l hj;⟨u,hu,hd.B9 he _ he⟩⟩
def FB.nil (tg:Tag)(W:Aa)(o:Own):FB tg W o (Ai none 0 0) []:=⟨by simp,[],rfl,Row.nil _ _ _ _ _,fun j l h=>by simp at h⟩
def FT.nil (tg:Tag)(W:Aa)(o:Own):FT tg W o (Ai none 0 0) []:=⟨by simp,[],rfl,Row.nil _ _ _ _ _,fun j l h=>by simp at h⟩
def Row.sl {e:TypeId}{n:Nat}{size:Nat}{xs:List Ac}(h:Row W o tg e size v n xs):Sl W v n xs:=by
 rcases h.own.2 with ⟨rfl,h0⟩|⟨g,cap,cur,rfl,_⟩
 ·refine⟨none,0,by rw[h0],.inl ?_⟩
  have:=h.own.1;rw[h0]at this;exact List.eq_nil_of_length_eq_zero (by omega)
 ·refine⟨_,_,rfl,.inr ⟨g,0,rfl,fun j x hx=>?_⟩⟩
  have:=h.own.cells (g:=g) rfl j x hx;rw[Nat.zero_add];rwa [show (⟨g,0,none⟩:Addr).add j=⟨g,j,none⟩ from by unfold Addr.add;split<;>simp_all]at this
def FD.at {l:List Pg.D}(h:FD W o v l):Ct W v l:=⟨by have:=h.1;simp only[maxLen];omega,h.2.sl⟩
def FB.at {bs:List (List Pg.D)}(h:FB tg W o v bs):Cl W v bs:=by
 obtain⟨h0,vs,h1,h2,h3⟩:=h;exact⟨by simp only[maxLen];omega,vs,h1,h2.sl,fun j l hj=>let⟨u,hu,hd⟩:=h3 j l hj;⟨u,hu,hd.at⟩⟩
def FT.at {AZ:List (List (List Pg.D))}(h:FT tg W o v AZ):BL W v AZ:=by
 obtain⟨h0,vs,h1,h2,h3⟩:=h;exact⟨by simp only[maxLen];omega,vs,h1,h2.sl,fun j l hj=>let⟨u,hu,hd⟩:=h3 j l hj;⟨u,hu,hd.at⟩⟩
def FB.snoc {bs:List (List Pg.D)}{l:List Pg.D}{v2 u:Ac}(hl:bs.length<3)(k:Stp (fun t=>t=tg) o o' W W')(ht:tg≠(1,0)){vs:List Ac}(hv:vs.length=bs.length)(hd:FD W o u l)
  (hvs:∀ (j:Nat)(l:List Pg.D),bs[j]?=some l->∃ u:Ac,vs[j]?=some u/\FD W o u l)(hr:Row W' o' tg 45 1 v2 (bs.length+1) (vs++[u])):FB tg W' o' v2 (bs++[l]):=by
 refine⟨by simp;omega,vs++[u],by simp[hv],by simpa using hr,fun j l' hj=>?_⟩
 rcases Aj j bs.length with hlt|rfl|hgt
 ·rw[Qm hlt]at hj
  obtain⟨u',hu',hd'⟩:=hvs j l' hj;exact⟨u',by rw[Qm (by omega)];exact hu',hd'.Ar k (fun e=>ht e.symm)⟩
 ·rw[Ql (Qk _)]at hj
  simp at hj;subst hj;exact⟨u,by rw[Ql (by omega)];simp[hv],hd.Ar k (fun e=>ht e.symm)⟩
 ·rw[Za (by simp;omega)]at hj;cases hj
def FT.snoc {AZ:List (List (List Pg.D))}{bs:List (List Pg.D)}{v2 u:Ac}(hl:AZ.length<4)(k:Stp (fun t=>t=tg) o o' W W')(ht:tg≠(1,0)){vs:List Ac}(hv:vs.length=AZ.length)(hd:FB (1,0) W o u bs)
  (hvs:∀ (j:Nat)(l:List (List Pg.D)),AZ[j]?=some l->∃ u:Ac,vs[j]?=some u/\FB (1,0) W o u l)(hr:Row W' o' tg 46 1 v2 (AZ.length+1) (vs++[u])):FT tg W' o' v2 (AZ++[bs]):=by
 refine⟨by simp;omega,vs++[u],by simp[hv],by simpa using hr,fun j l' hj=>?_⟩
 have h1:¬(fun t=>t=tg) (1,0):=fun e=>ht e.symm
 rcases Aj j AZ.length with hlt|rfl|hgt
 ·rw[Qm hlt]at hj
  obtain⟨u',hu',hd'⟩:=hvs j l' hj;exact⟨u',by rw[Qm (by omega)];exact hu',hd'.Ar k h1 h1⟩
 ·rw[Ql (Qk _)]at hj
  simp at hj;subst hj;exact⟨u,by rw[Ql (by omega)];simp[hv],hd.Ar k h1 h1⟩
 ·rw[Za (by simp;omega)]at hj;cases hj
structure Wk (w W:Aa)(o:Own):Prop where
 b:Ae w w W
 z:∀ b,b<w.1.size->o b=(0,0)
def Wk.Ar {w:Aa}(h:Wk w W o)(k:Stp T o o' W W')(ht:¬T (0,0)):Wk w W' o':=by
 refine⟨⟨k.os.trans h.b.os,k.tape.trans h.b.tape,k.output.trans h.b.output,Qo h.b.size k.size,fun c hc=>?_⟩,fun c hc=>(k.tags c (Qn hc h.b.size)).trans (h.z c hc)⟩
 exact (k.block c (Qn hc h.b.size) (by rw[h.z c hc];exact ht)).trans (h.b.block c hc)
def Wk.B9 {w:Aa}(h:Wk w W o){a b:Tag}(ha:a≠(0,0)):Wk w W (Go.Proofs.YtgndecmkhhdkjaaGreat.B9 o a b):=⟨h.b,fun c hc=>by rw[dg (by rw[h.z c hc];exact fun e=>ha e.symm)];exact h.z c hc⟩
