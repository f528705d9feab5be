import Derived.Test.YteehgedabdchcaaGreatKbd
import Derived.Deep.AppendLies
import Derived.Deep.DrawnRows
import Derived.Deep.RegionHeld3
import Derived.Deep.RegionLaw
import Derived.Ground.Names2Prog
import Derived.Ground.SlgnProg
import Derived.Laws.CopyOwn
import Derived.LoopIn
import Derived.LoopNIn
import Derived.OwnWalkIn
import Derived.RangeFuncBound
import Derived.RangeFuncCalls
import Derived.RangeFuncLeaves
import Derived.RangeFuncNested
import Derived.Shelf.Abstract
import Derived.Shelf.RegionOpen
import Derived.Shelf.Slices.Clone
import Derived.Shelf.Slices.Empties
import Derived.Shelf.Slices.SearchI
import Derived.Shelf.Slices.Turned
import Derived.Shelf.SlicesE.Clone
import Derived.Shelf.Small.Wraps
import Derived.StillTailTactics
import Derived.TacticsInMore
set_option linter.all false
set_option maxRecDepth 1000000
set_option maxHeartbeats 16000000
namespace Go.Proofs.YteehgedabdchcaaGreat
open Go.RowKit Hp
attribute [local go_sem ↓] Go.wp_at_zero Go.wp_at_succ
theorem ThreadsAt.opened {w:World}{v:Value}{ths:List (List (List Pg.D))}(h:ThreadsAt w v ths) :
  ∃ a c,v=.slice a ths.length c∧ths.length≤maxLen∧∀ t ls,ths[t]?=some ls→∃ b off u,a=some ⟨b,off,none⟩∧w.cell? ⟨b,off+t,none⟩=some u∧BlocksAt w u ls:=by
 obtain⟨h0,vs,hl,⟨a,c,rfl,hc⟩,hb⟩:=h;refine⟨a,c,rfl,h0,fun t ls ht=>?_⟩
 obtain⟨u,hu,hbu⟩:=hb t ls ht;rcases hc with h|⟨b,off,rfl,hc⟩
 ·rw[h]at hu;cases hu
 ·exact⟨b,off,u,rfl,hc t u hu,hbu⟩
theorem BlocksAt.opened {w:World}{v:Value}{ls:List (List Pg.D)}(h:BlocksAt w v ls) :
  ∃ a c,v=.slice a ls.length c∧ls.length≤maxLen∧∀ t l,ls[t]?=some l→∃ b off u,a=some ⟨b,off,none⟩∧w.cell? ⟨b,off+t,none⟩=some u∧DeedsAt w u l:=by
 obtain⟨h0,vs,hl,⟨a,c,rfl,hc⟩,hb⟩:=h;refine⟨a,c,rfl,h0,fun t ls ht=>?_⟩
 obtain⟨u,hu,hbu⟩:=hb t ls ht;rcases hc with h|⟨b,off,rfl,hc⟩
 ·rw[h]at hu;cases hu
 ·exact⟨b,off,u,rfl,hc t u hu,hbu⟩
def Cells5 (w:World)(b off:Nat)(d:Pg.D):Prop:=
 w.cell? ⟨b,off,none⟩=some (.int .i64 d.k)∧w.cell? ⟨b,off+1,none⟩=some (.int .i64 d.a)∧w.cell? ⟨b,off+2,none⟩=some (.int .i64 d.b)∧w.cell? ⟨b,off+3,none⟩=some (.int .i64 d.i)∧w.cell? ⟨b,off+4,none⟩=some (.int .i64 d.n)
theorem DeedsAt.opened {w:World}{v:Value}{l:List Pg.D}(h:DeedsAt w v l) :
  ∃ a c,v=.slice a l.length c∧l.length≤maxLen∧∀ (t:Nat)(d:Pg.D),l[t]?=some d→∃ b off,a=some ⟨b,off,none⟩∧Cells5 w b (off+t*5) d:=by
 obtain⟨h0,a,c,rfl,hc⟩:=h;refine⟨a,c,rfl,h0,fun t d ht=>?_⟩
 have key:∀ r,r<5→(jt l)[t*5+r]?=(zz d)[r]?:=fun r hr=>by
  rw[da,show (t*5+r)/5=t from by omega,show (t*5+r)%5=r from by omega,ht];rfl
 rcases hc with h|⟨b,off,rfl,hc⟩
 ·have:=key 0 (by omega);rw[h]at this;cases this
 ·refine⟨b,off,rfl,?_,?_,?_,?_,?_⟩
  ·exact hc (t*5) _ ((key 0 (by omega)).trans rfl)
  ·exact (congrArg w.cell? (by rw[Nat.add_assoc])).trans (hc (t*5+1) _ ((key 1 (by omega)).trans rfl))
  ·exact (congrArg w.cell? (by rw[Nat.add_assoc])).trans (hc (t*5+2) _ ((key 2 (by omega)).trans rfl))
  ·exact (congrArg w.cell? (by rw[Nat.add_assoc])).trans (hc (t*5+3) _ ((key 3 (by omega)).trans rfl))
  ·exact (congrArg w.cell? (by rw[Nat.add_assoc])).trans (hc (t*5+4) _ ((key 4 (by omega)).trans rfl))
theorem Cells5.below {w w':World}{b off:Nat}{d:Pg.D}(h:Cells5 w b off d)(k:Below w.heap.size w w'):Cells5 w' b off d:=by
 obtain⟨h0,h1,h2,h3,h4⟩:=h;have c:∀ {j:Nat}{x:Value},w.cell? ⟨b,j,none⟩=some x→w'.cell? ⟨b,j,none⟩=some x:=fun {j x} h=>(k.cell (p:=⟨b,j,none⟩) (ww h)).trans h
 exact⟨c h0,c h1,c h2,c h3,c h4⟩
def fits (l:List Pg.D):List Pg.D:=(l.take 6).map fit
def de (t:List (List Pg.D)):List (List Pg.D):=((t.take 3).map fits).filter fun l=>!l.isEmpty
def fitT (raw:List (List (List Pg.D))):List (List (List Pg.D)):=(raw.take 4).map de
def kf (raw:List (List (List Pg.D))):List (List (List Pg.D)):=if raw.isEmpty then [[]] else fitT raw
def xw (t:List (List Pg.D))(b:Nat):List (List Pg.D):=((t.take b).map fits).filter fun l=>!l.isEmpty
theorem qjd {t:List (List Pg.D)}{b:Nat}{l:List Pg.D}(h:t[b]?=some l):xw t (b+1)=xw t b++(if (fits l).isEmpty then [] else [fits l]):=by
 unfold xw;rw[pm _ _ _ h,List.map_append,List.filter_append]
 cases hf:(fits l).isEmpty<;>simp[hf]
theorem qeo (t:List (List Pg.D))(b:Nat):(xw t b).length≤b:=by
 unfold xw;refine Nat.le_trans (List.length_filter_le _ _) ?_;simp;omega
theorem Row.chg {w:World}{o:Own}{t:Tag}{e:TypeId}{size:Nat}{v:Value}{n:Nat}{xs:List Value}(h:Row w o t e size v n xs)(o':Own)(t':Tag)(he:∀ k,o k=t→o' k=t'):Row w o' t' e size v n xs:=
 ⟨h.own,fun k hk=>he k (h.tag k hk)⟩
def chg (o:Own)(a b:Tag):Own:=fun k=>if o k=a then b else o k
theorem qiv {o:Own}{a b:Tag}{k:Nat}(h:o k=a):chg o a b k=b:=if_pos h
theorem px {o:Own}{a b:Tag}{k:Nat}(h:o k≠a):chg o a b k=o k:=if_neg h
def FD (W:World)(o:Own)(v:Value)(l:List Pg.D):Prop:=l.length≤6∧Row W o (1,0) 73 5 v l.length (jt l)
def FB (tg:Tag)(W:World)(o:Own)(v:Value)(bs:List (List Pg.D)):Prop:=
 bs.length≤3∧∃ vs:List Value,vs.length=bs.length∧Row W o tg 71 1 v bs.length vs∧∀ (j:Nat)(l:List Pg.D),bs[j]?=some l→∃ u:Value,vs[j]?=some u∧FD W o u l
def FT (tg:Tag)(W:World)(o:Own)(v:Value)(ths:List (List (List Pg.D))):Prop:=
 ths.length≤4∧∃ vs:List Value,vs.length=ths.length∧Row W o tg 67 1 v ths.length vs∧∀ (j:Nat)(bs:List (List Pg.D)),ths[j]?=some bs→∃ u:Value,vs[j]?=some u∧FB (1,0) W o u bs
section
variable {W W' : World} {o o' : Own} {v : Value} {T : Tag → Prop} {tg : Tag}
theorem FD.stp {l:List Pg.D}(h:FD W o v l)(k:Stp T o o' W W')(ht:¬T (1,0)):FD W' o' v l:=⟨h.1,h.2.stp k ht⟩
theorem FB.stp {bs:List (List Pg.D)}(h:FB tg W o v bs)(k:Stp T o o' W W')(ht:¬T (1,0))(ht2:¬T tg):FB tg W' o' v bs:=by
 obtain⟨h0,vs,h1,h2,h3⟩:=h;exact⟨h0,vs,h1,h2.stp k ht2,fun j l hj=>let⟨u,hu,hd⟩:=h3 j l hj;⟨u,hu,hd.stp k ht⟩⟩
theorem FT.stp {ths:List (List (List Pg.D))}(h:FT tg W o v ths)(k:Stp T o o' W W')(ht:¬T (1,0))(ht2:¬T tg):FT tg W' o' v ths:=by
 obtain⟨h0,vs,h1,h2,h3⟩:=h;exact⟨h0,vs,h1,h2.stp k ht2,fun j l hj=>let⟨u,hu,hd⟩:=h3 j l hj;⟨u,hu,hd.stp k ht ht⟩⟩
theorem FD.below {l:List Pg.D}(h:FD W o v l)(k:Below W.heap.size W W'):FD W' o v l:=h.stp (T:=fun _=>False) (Stp.of_below k) id
theorem FB.below {bs:List (List Pg.D)}(h:FB tg W o v bs)(k:Below W.heap.size W W'):FB tg W' o v bs:=h.stp (T:=fun _=>False) (Stp.of_below k) id id
theorem FT.below {ths:List (List (List Pg.D))}(h:FT tg W o v ths)(k:Below W.heap.size W W'):FT tg W' o v ths:=h.stp (T:=fun _=>False) (Stp.of_below k) id id
theorem FD.chg {l:List Pg.D}(h:FD W o v l)(he:∀ k,o k=(1,0)→o' k=(1,0)):FD W o' v l:=⟨h.1,h.2.chg o' _ he⟩
theorem FB.chg {bs:List (List Pg.D)}(h:FB tg W o v bs)(he:∀ k,o k=(1,0)→o' k=(1,0))(t':Tag)(he2:∀ k,o k=tg→o' k=t'):FB t' W o' v bs:=by
 obtain⟨h0,vs,h1,h2,h3⟩:=h;exact⟨h0,vs,h1,h2.chg o' t' he2,fun j l hj=>let⟨u,hu,hd⟩:=h3 j l hj;⟨u,hu,hd.chg he⟩⟩
theorem FT.chg {ths:List (List (List Pg.D))}(h:FT tg W o v ths)(he:∀ k,o k=(1,0)→o' k=(1,0))(t':Tag)(he2:∀ k,o k=tg→o' k=t'):FT t' W o' v ths:=by
 obtain⟨h0,vs,h1,h2,h3⟩:=h;exact⟨h0,vs,h1,h2.chg o' t' he2,fun j l hj=>let⟨u,hu,hd⟩:=h3 j l hj;⟨u,hu,hd.chg he _ he⟩⟩
theorem FB.nil (tg:Tag)(W:World)(o:Own):FB tg W o (.slice none 0 0) []:=⟨by simp,[],rfl,Row.nil _ _ _ _ _,fun j l h=>by simp at h⟩
theorem FT.nil (tg:Tag)(W:World)(o:Own):FT tg W o (.slice none 0 0) []:=⟨by simp,[],rfl,Row.nil _ _ _ _ _,fun j l h=>by simp at h⟩
theorem Row.sl {e:TypeId}{n:Nat}{size:Nat}{xs:List Value}(h:Row W o tg e size v n xs):Sl W v n xs:=by
 rcases h.own.2 with ⟨rfl,h0⟩|⟨g,cap,cur,rfl,_⟩
 ·refine⟨none,0,by rw[h0],.inl ?_⟩
  have:=h.own.1;rw[h0]at this;exact List.eq_nil_of_length_eq_zero (by omega)
 ·refine⟨_,_,rfl,.inr ⟨g,0,rfl,fun j x hx=>?_⟩⟩
  have:=h.own.cells (g:=g) rfl j x hx;rw[Nat.zero_add];rwa [show (⟨g,0,none⟩:Addr).add j=⟨g,j,none⟩ from by unfold Addr.add;split<;>simp_all]at this
theorem FD.at {l:List Pg.D}(h:FD W o v l):DeedsAt W v l:=⟨by have:=h.1;simp only[maxLen];omega,h.2.sl⟩
theorem FB.at {bs:List (List Pg.D)}(h:FB tg W o v bs):BlocksAt W v bs:=by
 obtain⟨h0,vs,h1,h2,h3⟩:=h;exact⟨by simp only[maxLen];omega,vs,h1,h2.sl,fun j l hj=>let⟨u,hu,hd⟩:=h3 j l hj;⟨u,hu,hd.at⟩⟩
theorem FT.at {ths:List (List (List Pg.D))}(h:FT tg W o v ths):ThreadsAt W v ths:=by
 obtain⟨h0,vs,h1,h2,h3⟩:=h;exact⟨by simp only[maxLen];omega,vs,h1,h2.sl,fun j l hj=>let⟨u,hu,hd⟩:=h3 j l hj;⟨u,hu,hd.at⟩⟩
theorem FB.snoc {bs:List (List Pg.D)}{l:List Pg.D}{v2 u:Value}(hl:bs.length<3)(k:Stp (fun t=>t=tg) o o' W W')(ht:tg≠(1,0)){vs:List Value}(hv:vs.length=bs.length)(hd:FD W o u l)
  (hvs:∀ (j:Nat)(l:List Pg.D),bs[j]?=some l→∃ u:Value,vs[j]?=some u∧FD W o u l)(hr:Row W' o' tg 71 1 v2 (bs.length+1) (vs++[u])):FB tg W' o' v2 (bs++[l]):=by
 refine⟨by simp;omega,vs++[u],by simp[hv],by simpa using hr,fun j l' hj=>?_⟩
 rcases Nat.lt_trichotomy j bs.length with hlt|rfl|hgt
 ·rw[List.getElem?_append_left hlt]at hj
  obtain⟨u',hu',hd'⟩:=hvs j l' hj;exact⟨u',by rw[List.getElem?_append_left (by omega)];exact hu',hd'.stp k (fun e=>ht e.symm)⟩
 ·rw[List.getElem?_append_right (Nat.le_refl _)]at hj
  simp at hj;subst hj;exact⟨u,by rw[List.getElem?_append_right (by omega)];simp[hv],hd.stp k (fun e=>ht e.symm)⟩
 ·rw[List.getElem?_eq_none (by simp;omega)]at hj;cases hj
theorem FT.snoc {ths:List (List (List Pg.D))}{bs:List (List Pg.D)}{v2 u:Value}(hl:ths.length<4)(k:Stp (fun t=>t=tg) o o' W W')(ht:tg≠(1,0)){vs:List Value}(hv:vs.length=ths.length)(hd:FB (1,0) W o u bs)
  (hvs:∀ (j:Nat)(l:List (List Pg.D)),ths[j]?=some l→∃ u:Value,vs[j]?=some u∧FB (1,0) W o u l)(hr:Row W' o' tg 67 1 v2 (ths.length+1) (vs++[u])):FT tg W' o' v2 (ths++[bs]):=by
 refine⟨by simp;omega,vs++[u],by simp[hv],by simpa using hr,fun j l' hj=>?_⟩
 have h1:¬(fun t=>t=tg) (1,0):=fun e=>ht e.symm
 rcases Nat.lt_trichotomy j ths.length with hlt|rfl|hgt
 ·rw[List.getElem?_append_left hlt]at hj
  obtain⟨u',hu',hd'⟩:=hvs j l' hj;exact⟨u',by rw[List.getElem?_append_left (by omega)];exact hu',hd'.stp k h1 h1⟩
 ·rw[List.getElem?_append_right (Nat.le_refl _)]at hj
  simp at hj;subst hj;exact⟨u,by rw[List.getElem?_append_right (by omega)];simp[hv],hd.stp k h1 h1⟩
 ·rw[List.getElem?_eq_none (by simp;omega)]at hj;cases hj
structure Wk (w W:World)(o:Own):Prop where
 b:Below w.heap.size w W
 z:∀ b,b<w.heap.size→o b=(0,0)
theorem Wk.stp {w:World}(h:Wk w W o)(k:Stp T o o' W W')(ht:¬T (0,0)):Wk w W' o':=by
 refine⟨⟨k.os.trans h.b.os,k.tape.trans h.b.tape,k.output.trans h.b.output,Nat.le_trans h.b.size k.size,fun c hc=>?_⟩,fun c hc=>(k.tags c (Nat.lt_of_lt_of_le hc h.b.size)).trans (h.z c hc)⟩
 exact (k.block c (Nat.lt_of_lt_of_le hc h.b.size) (by rw[h.z c hc];exact ht)).trans (h.b.block c hc)
theorem Wk.below {w:World}(h:Wk w W o)(k:Below W.heap.size W W'):Wk w W' o:=⟨qd h.b k,h.z⟩
theorem Wk.chg {w:World}(h:Wk w W o){a b:Tag}(ha:a≠(0,0)):Wk w W (Go.Proofs.YteehgedabdchcaaGreat.chg o a b):=⟨h.b,fun c hc=>by rw[px (by rw[h.z c hc];exact fun e=>ha e.symm)];exact h.z c hc⟩
end
end Go.Proofs.YteehgedabdchcaaGreat
