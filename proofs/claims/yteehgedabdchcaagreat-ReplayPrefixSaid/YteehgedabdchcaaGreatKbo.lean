import Derived.Test.YteehgedabdchcaaGreatKad
import Derived.Test.YteehgedabdchcaaGreatKai
import Derived.WalkMore
set_option linter.all false
set_option maxRecDepth 1000000
set_option maxHeartbeats 0
open Go renaming World->Aa,Calls->Ab,Value->Ac
open Go.RowKit renaming Below->Ae
open Go.Value renaming int->I,slice->Ah,agg->Ak
open Go.IntKind renaming i64->Z
open Go.Ending renaming returned->O
open And renaming intro->Ad
open Nat renaming le_succ->Ai,add_assoc->aa,lt_trichotomy->af
open Go.Proofs.Tryz
open Go.Proofs.Tryz renaming prog->ARt
namespace Go.Proofs.YteehgedabdchcaaGreat
open Go.RowKit Hp
attribute [local go_sem ↓] Go.wp_at_zero Go.wp_at_succ
def AH.opened {w:Aa}{v:Ac}{bK:List (List (List Pg.D))}(h:AH w v bK) :
  ∃ a c,v=.slice a bK.length c/\bK.length<=maxLen/\∀ t ls,bK[t]?=some ls->∃ b off u,a=some ⟨b,off,none⟩/\w.cell? ⟨b,off+t,none⟩=some u/\Bn w u ls:=by
 obtain⟨h0,vs,hl,⟨a,c,rfl,hc⟩,hb⟩:=h;refine⟨a,c,rfl,h0,fun t ls ht=>?_⟩
 obtain⟨u,hu,hbu⟩:=hb t ls ht;rcases hc with h|⟨b,off,rfl,hc⟩
 ·rw[h]at hu;cases hu
 ·exact⟨b,off,u,rfl,hc t u hu,hbu⟩
def Bn.opened {w:Aa}{v:Ac}{ls:List (List Pg.D)}(h:Bn w v ls) :
  ∃ a c,v=.slice a ls.length c/\ls.length<=maxLen/\∀ t l,ls[t]?=some l->∃ b off u,a=some ⟨b,off,none⟩/\w.cell? ⟨b,off+t,none⟩=some u/\Bw w u l:=by
 obtain⟨h0,vs,hl,⟨a,c,rfl,hc⟩,hb⟩:=h;refine⟨a,c,rfl,h0,fun t ls ht=>?_⟩
 obtain⟨u,hu,hbu⟩:=hb t ls ht;rcases hc with h|⟨b,off,rfl,hc⟩
 ·rw[h]at hu;cases hu
 ·exact⟨b,off,u,rfl,hc t u hu,hbu⟩
def Ei (w:Aa)(b off:Nat)(d:Pg.D):Prop:=
 w.cell? ⟨b,off,none⟩=some (I Z d.k)/\w.cell? ⟨b,off+1,none⟩=some (I Z d.a)/\w.cell? ⟨b,off+2,none⟩=some (I Z d.b)/\w.cell? ⟨b,off+3,none⟩=some (I Z d.i)/\w.cell? ⟨b,off+4,none⟩=some (I Z d.n)
def Bw.opened {w:Aa}{v:Ac}{l:List Pg.D}(h:Bw w v l) :
  ∃ a c,v=.slice a l.length c/\l.length<=maxLen/\∀ (t:Nat)(d:Pg.D),l[t]?=some d->∃ b off,a=some ⟨b,off,none⟩/\Ei w b (off+t*5) d:=by
 obtain⟨h0,a,c,rfl,hc⟩:=h;refine⟨a,c,rfl,h0,fun t d ht=>?_⟩
 have key:∀ r,r<5->(kn l)[t*5+r]?=(ke d)[r]?:=fun r hr=>by
  rw[bg,show (t*5+r)/5=t from by omega,show (t*5+r)%5=r from by omega,ht];rfl
 rcases hc with h|⟨b,off,rfl,hc⟩
 ·have:=key 0 (by omega);rw[h]at this;cases this
 ·refine⟨b,off,rfl,?_,?_,?_,?_,?_⟩
  ·exact hc (t*5) _ ((key 0 (by omega)).trans rfl)
  ·exact (congrArg w.cell? (by rw[aa])).trans (hc (t*5+1) _ ((key 1 (by omega)).trans rfl))
  ·exact (congrArg w.cell? (by rw[aa])).trans (hc (t*5+2) _ ((key 2 (by omega)).trans rfl))
  ·exact (congrArg w.cell? (by rw[aa])).trans (hc (t*5+3) _ ((key 3 (by omega)).trans rfl))
  ·exact (congrArg w.cell? (by rw[aa])).trans (hc (t*5+4) _ ((key 4 (by omega)).trans rfl))
def Ei.below {w w':Aa}{b off:Nat}{d:Pg.D}(h:Ei w b off d)(k:Ae w.1.size w w'):Ei w' b off d:=by
 obtain⟨h0,h1,h2,h3,h4⟩:=h;have c:∀ {j:Nat}{x:Ac},w.cell? ⟨b,j,none⟩=some x->w'.cell? ⟨b,j,none⟩=some x:=fun {j x} h=>(k.cell (p:=⟨b,j,none⟩) (qh h)).trans h
 exact⟨c h0,c h1,c h2,c h3,c h4⟩
def fits (l:List Pg.D):List Pg.D:=(l.take 6).map fit
def ni (t:List (List Pg.D)):List (List Pg.D):=((t.take 3).map fits).filter fun l=>!l.isEmpty
def FA (raw:List (List (List Pg.D))):List (List (List Pg.D)):=(raw.take 4).map ni
def jr (raw:List (List (List Pg.D))):List (List (List Pg.D)):=if raw.isEmpty then [[]] else FA raw
def yq (t:List (List Pg.D))(b:Nat):List (List Pg.D):=((t.take b).map fits).filter fun l=>!l.isEmpty
def qj0 {t:List (List Pg.D)}{b:Nat}{l:List Pg.D}(h:t[b]?=some l):yq t (b+1)=yq t b++(if (fits l).isEmpty then [] else [fits l]):=by
 unfold yq;rw[mz _ _ _ h,Qx,List.filter_append]
 cases hf:(fits l).isEmpty<;>simp[hf]
def YI (t:List (List Pg.D))(b:Nat):(yq t b).length<=b:=by
 unfold yq;refine Qo (List.length_filter_le _ _) ?_;simp;omega
def Row.B5 {w:Aa}{o:Own}{t:Tag}{e:TypeId}{size:Nat}{v:Ac}{n:Nat}{xs:List Ac}(h:Row w o t e size v n xs)(o':Own)(t':Tag)(he:∀ k,o k=t->o' k=t'):Row w o' t' e size v n xs:=
 ⟨h.own,fun k hk=>he k (h.tag k hk)⟩
def B5 (o:Own)(a b:Tag):Own:=fun k=>if o k=a then b else o k
def VU {o:Own}{a b:Tag}{k:Nat}(h:o k=a):B5 o a b k=b:=if_pos h
def m5 {o:Own}{a b:Tag}{k:Nat}(h:o k≠a):B5 o a b k=o k:=if_neg h
def FD (W:Aa)(o:Own)(v:Ac)(l:List Pg.D):Prop:=l.length<=6/\Row W o (1,0) 73 5 v l.length (kn l)
def FB (tg:Tag)(W:Aa)(o:Own)(v:Ac)(bs:List (List Pg.D)):Prop:=
 bs.length<=3/\∃ vs:List Ac,vs.length=bs.length/\Row W o tg 71 1 v bs.length vs/\∀ (j:Nat)(l:List Pg.D),bs[j]?=some l->∃ u:Ac,vs[j]?=some u/\FD W o u l
def FT (tg:Tag)(W:Aa)(o:Own)(v:Ac)(bK:List (List (List Pg.D))):Prop:=
 bK.length<=4/\∃ vs:List Ac,vs.length=bK.length/\Row W o tg 67 1 v bK.length vs/\∀ (j:Nat)(bs:List (List Pg.D)),bK[j]?=some bs->∃ u:Ac,vs[j]?=some u/\FB (1,0) W o u bs
section
variable {W W' : Aa} {o o' : Own} {v : Ac} {T : Tag -> Prop} {tg : Tag}
def FD.Ao {l:List Pg.D}(h:FD W o v l)(k:Stp T o o' W W')(ht:¬T (1,0)):FD W' o' v l:=⟨h.1,h.2.Ao k ht⟩
def FB.Ao {bs:List (List Pg.D)}(h:FB tg W o v bs)(k:Stp T o o' W W')(ht:¬T (1,0))(ht2:¬T tg):FB tg W' o' v bs:=by
 obtain⟨h0,vs,h1,h2,h3⟩:=h;exact⟨h0,vs,h1,h2.Ao k ht2,fun j l hj=>let⟨u,hu,hd⟩:=h3 j l hj;⟨u,hu,hd.Ao k ht⟩⟩
def FT.Ao {bK:List (List (List Pg.D))}(h:FT tg W o v bK)(k:Stp T o o' W W')(ht:¬T (1,0))(ht2:¬T tg):FT tg W' o' v bK:=by
 obtain⟨h0,vs,h1,h2,h3⟩:=h;exact⟨h0,vs,h1,h2.Ao k ht2,fun j l hj=>let⟨u,hu,hd⟩:=h3 j l hj;⟨u,hu,hd.Ao k ht ht⟩⟩
def FD.B5 {l:List Pg.D}(h:FD W o v l)(he:∀ k,o k=(1,0)->o' k=(1,0)):FD W o' v l:=⟨h.1,h.2.B5 o' _ he⟩
def FB.B5 {bs:List (List Pg.D)}(h:FB tg W o v bs)(he:∀ k,o k=(1,0)->o' k=(1,0))(t':Tag)(he2:∀ k,o k=tg->o' k=t'):FB t' W o' v bs:=by
 obtain⟨h0,vs,h1,h2,h3⟩:=h;exact⟨h0,vs,h1,h2.B5 o' t' he2,fun j l hj=>let⟨u,hu,hd⟩:=h3 j l hj;⟨u,hu,hd.B5 he⟩⟩
def FT.B5 {bK:List (List (List Pg.D))}(h:FT tg W o v bK)(he:∀ k,o k=(1,0)->o' k=(1,0))(t':Tag)(he2:∀ k,o k=tg->o' k=t'):FT t' W o' v bK:=by
 obtain⟨h0,vs,h1,h2,h3⟩:=h;exact⟨h0,vs,h1,h2.B5 o' t' he2,fun j l hj=>let⟨u,hu,hd⟩:=h3 j l hj;⟨u,hu,hd.B5 he _ he⟩⟩
def FB.nil (tg:Tag)(W:Aa)(o:Own):FB tg W o (Ah none 0 0) []:=⟨by simp,[],rfl,Row.nil _ _ _ _ _,fun j l h=>by simp at h⟩
def FT.nil (tg:Tag)(W:Aa)(o:Own):FT tg W o (Ah none 0 0) []:=⟨by simp,[],rfl,Row.nil _ _ _ _ _,fun j l h=>by simp at h⟩
def Row.sl {e:TypeId}{n:Nat}{size:Nat}{xs:List Ac}(h:Row W o tg e size v n xs):Sl W v n xs:=by
 rcases h.own.2 with ⟨rfl,h0⟩|⟨g,cap,cur,rfl,_⟩
 ·refine⟨none,0,by rw[h0],.inl ?_⟩
  have:=h.own.1;rw[h0]at this;exact List.eq_nil_of_length_eq_zero (by omega)
 ·refine⟨_,_,rfl,.inr ⟨g,0,rfl,fun j x hx=>?_⟩⟩
  have:=h.own.cells (g:=g) rfl j x hx;rw[Nat.zero_add];rwa [show (⟨g,0,none⟩:Addr).add j=⟨g,j,none⟩ from by unfold Addr.add;split<;>simp_all]at this
def FD.at {l:List Pg.D}(h:FD W o v l):Bw W v l:=⟨by have:=h.1;simp only[maxLen];omega,h.2.sl⟩
def FB.at {bs:List (List Pg.D)}(h:FB tg W o v bs):Bn W v bs:=by
 obtain⟨h0,vs,h1,h2,h3⟩:=h;exact⟨by simp only[maxLen];omega,vs,h1,h2.sl,fun j l hj=>let⟨u,hu,hd⟩:=h3 j l hj;⟨u,hu,hd.at⟩⟩
def FT.at {bK:List (List (List Pg.D))}(h:FT tg W o v bK):AH W v bK:=by
 obtain⟨h0,vs,h1,h2,h3⟩:=h;exact⟨by simp only[maxLen];omega,vs,h1,h2.sl,fun j l hj=>let⟨u,hu,hd⟩:=h3 j l hj;⟨u,hu,hd.at⟩⟩
def FB.snoc {bs:List (List Pg.D)}{l:List Pg.D}{v2 u:Ac}(hl:bs.length<3)(k:Stp (fun t=>t=tg) o o' W W')(ht:tg≠(1,0)){vs:List Ac}(hv:vs.length=bs.length)(hd:FD W o u l)
  (hvs:∀ (j:Nat)(l:List Pg.D),bs[j]?=some l->∃ u:Ac,vs[j]?=some u/\FD W o u l)(hr:Row W' o' tg 71 1 v2 (bs.length+1) (vs++[u])):FB tg W' o' v2 (bs++[l]):=by
 refine⟨by simp;omega,vs++[u],by simp[hv],by simpa using hr,fun j l' hj=>?_⟩
 rcases af j bs.length with hlt|rfl|hgt
 ·rw[Qm hlt]at hj
  obtain⟨u',hu',hd'⟩:=hvs j l' hj;exact⟨u',by rw[Qm (by omega)];exact hu',hd'.Ao k (fun e=>ht e.symm)⟩
 ·rw[Ql (Qk _)]at hj
  simp at hj;subst hj;exact⟨u,by rw[Ql (by omega)];simp[hv],hd.Ao k (fun e=>ht e.symm)⟩
 ·rw[Zb (by simp;omega)]at hj;cases hj
def FT.snoc {bK:List (List (List Pg.D))}{bs:List (List Pg.D)}{v2 u:Ac}(hl:bK.length<4)(k:Stp (fun t=>t=tg) o o' W W')(ht:tg≠(1,0)){vs:List Ac}(hv:vs.length=bK.length)(hd:FB (1,0) W o u bs)
  (hvs:∀ (j:Nat)(l:List (List Pg.D)),bK[j]?=some l->∃ u:Ac,vs[j]?=some u/\FB (1,0) W o u l)(hr:Row W' o' tg 67 1 v2 (bK.length+1) (vs++[u])):FT tg W' o' v2 (bK++[bs]):=by
 refine⟨by simp;omega,vs++[u],by simp[hv],by simpa using hr,fun j l' hj=>?_⟩
 have h1:¬(fun t=>t=tg) (1,0):=fun e=>ht e.symm
 rcases af j bK.length with hlt|rfl|hgt
 ·rw[Qm hlt]at hj
  obtain⟨u',hu',hd'⟩:=hvs j l' hj;exact⟨u',by rw[Qm (by omega)];exact hu',hd'.Ao k h1 h1⟩
 ·rw[Ql (Qk _)]at hj
  simp at hj;subst hj;exact⟨u,by rw[Ql (by omega)];simp[hv],hd.Ao k h1 h1⟩
 ·rw[Zb (by simp;omega)]at hj;cases hj
structure Wk (w W:Aa)(o:Own):Prop where
 b:Ae w.1.size w W
 z:∀ b,b<w.1.size->o b=(0,0)
def Wk.Ao {w:Aa}(h:Wk w W o)(k:Stp T o o' W W')(ht:¬T (0,0)):Wk w W' o':=by
 refine⟨⟨k.os.trans h.b.os,k.tape.trans h.b.tape,k.output.trans h.b.output,Qo h.b.size k.size,fun c hc=>?_⟩,fun c hc=>(k.tags c (Qn hc h.b.size)).trans (h.z c hc)⟩
 exact (k.block c (Qn hc h.b.size) (by rw[h.z c hc];exact ht)).trans (h.b.block c hc)
def Wk.B5 {w:Aa}(h:Wk w W o){a b:Tag}(ha:a≠(0,0)):Wk w W (Go.Proofs.YteehgedabdchcaaGreat.B5 o a b):=⟨h.b,fun c hc=>by rw[m5 (by rw[h.z c hc];exact fun e=>ha e.symm)];exact h.z c hc⟩
end
def o0:Own:=fun _=>(0,0)
def ql8 {t:TypeId}{z:Ac}{s b:Nat}(h:((ARt.info? t).map fun i=>(i.zero,i.size,i.bytes))=some (some z,s,b)):∃ i,ARt.info? t=some i/\i.size=s/\i.bytes=b/\i.zero=some z:=by
 obtain⟨i,hi,he⟩:=Option.map_eq_some_iff.1 h;injection he with e1 e2;injection e2 with e2 e3;exact⟨i,hi,e2,e3,e1⟩
def qjd:∃ i,ARt.info? 117=some i/\i.size=2/\i.bytes=16/\i.zero=some (Ak #[I Z 0,I Z 0]):=ql8 (by kernel_rfl)
def UG:∃ i,ARt.info? 299=some i/\i.size=8/\i.bytes=88/\i.zero=some (Ak #[I Z 0,I Z 0,I Z 0,.bool false,.bool false,Ah none 0 0,Ah none 0 0,.bool false]):=ql8 (by kernel_rfl)
def Nl (w:Aa)(e:TypeId)(n:Nat)(v:Ac):Prop:=Row w o0 (0,0) e n v 0 []
def Nl.of {w:Aa}{o:Own}{t:Tag}{e:TypeId}{n:Nat}{v:Ac}(h:Row w o t e n v 0 []):Nl w e n v:=⟨h.own,fun _ _=>rfl⟩
def Nl.nil (w:Aa)(e:TypeId)(n:Nat):Nl w e n (Ah none 0 0):=Row.nil _ _ _ _ _
def Nl.below {w w':Aa}{e:TypeId}{n:Nat}{v:Ac}(h:Nl w e n v)(k:Ae w.1.size w w'):Nl w' e n v:=Nl.of (h.Ao (T:=fun _=>False) (Stp.of_below k) fun h=>h)
def Da (n:Nat)(w:Aa)(e:TypeId)(sz:Nat)(v:Ac):Prop:=Row w (ext (fun _=>(0,0)) n (1,0)) (1,0) e sz v 0 []
def Da.nl {n:Nat}{w:Aa}{e:TypeId}{sz:Nat}{v:Ac}(h:Da n w e sz v):Nl w e sz v:=Nl.of h
def Da.below {n:Nat}{w w':Aa}{e:TypeId}{sz:Nat}{v:Ac}(h:Da n w e sz v)(k:Ae w.1.size w w'):Da n w' e sz v:=h.Ao (T:=fun _=>False) (Stp.of_below k) fun h=>h
def Da.mono {n n':Nat}{w:Aa}{e:TypeId}{sz:Nat}{v:Ac}(h:Da n w e sz v)(k:n'<=n):Da n' w e sz v:=by
 refine⟨h.own,fun b hb=>?_⟩
 have h1:=h.2 b hb;by_cases hl:b<n
 ·rw[qr hl]at h1;simp at h1
 ·exact qz (by omega)
def Da.ge {n k:Nat}{w:Aa}{e:TypeId}{sz:Nat}{v:Ac}(h:Da n w e sz v)(hk:v.ownBlock=some k):n<=k:=by
 have h1:=h.2 k hk;by_cases hl:k<n
 ·rw[qr hl]at h1;simp at h1
 ·omega
def Da.lt {n k:Nat}{w:Aa}{e:TypeId}{sz:Nat}{v:Ac}(h:Da n w e sz v)(hk:v.ownBlock=some k):k<w.1.size:=by
 rcases h.own.2 with⟨rfl,_⟩|⟨g,cap,cur,rfl,_,hg,_⟩
 ·simp[Value.ownBlock]at hk
 ·simp only[Value.ownBlock,Zd]at hk
  subst hk;exact (Qf.1 hg).1
def Da.set {n C j:Nat}{w:Aa}{e:TypeId}{sz:Nat}{v:Ac}(h:Da n w e sz v)(hC:∀ k,v.ownBlock=some k->k≠C)(x:Ac):Da n (w.setCell ⟨C,j,none⟩ x) e sz v:=by
 have h1:Row w (fun b=>if b=C then (5,5) else ext (fun _=>(0,0)) n (1,0) b) (1,0) e sz v 0 []:=⟨h.own,fun k hk=>by
  show (if k=C then _ else _)=_;rw[if_neg (hC k hk)];exact h.2 k hk⟩
 have h2:=h1.Ao (T:=fun t=>t=(5,5)) ((Stp.refl _ _ w).setCell (a:=⟨C,j,none⟩) (by show (if C=C then _ else _)=_;rw[if_pos rfl]) x) (by simp)
 exact⟨h2.own,fun k hk=>h.2 k hk⟩
def uf {w w':Aa}{n:Nat}(h:Stp (fun u=>u=(1,0)) (fun _=>(0,0)) (ext (fun _=>(0,0)) n (1,0)) w w'):Ae w.1.size w w':=h.below fun b _ e=>by simp at e
def qky (w:Aa)(v:Ac)(h:Nl w 299 8 v):Ab ARt 220 #[v] w fun e w'=>∃ v',e=O v'/\Da w.1.size w' 299 8 v'/\Ae w.1.size w w':=by
 obtain⟨iU,hi,hsI,bZ,bT⟩:=UG;have huA:=underlying155;have HN:=Qa h;clear h;go_enter func220,ntmps220;go_wp2_with (first
  | (at_builtin;refine zi _ rfl _ _ _ rfl 299 iU _ 8 88 huA hi bT hsI bZ rfl (by decide) (fun _=>(0,0)) (1,0) _ 0 [] rfl (Row.nil _ _ _ _ _) o0 (0,0) _ 0 [] rfl HN.out (by intro u hu;simp at hu) (by decide) (by decide) ?_;intro v1 w7 hown1 dZ;have hN:=Qa hown1;have hB:=Qa (uf dZ);clear hown1 dZ)
  | fail)
 go_ret;exact⟨_,rfl,hN.out,hB.out⟩
def qle (w:Aa)(v:Ac)(h:Nl w 117 2 v):Ab ARt 221 #[v] w fun e w'=>∃ v',e=O v'/\Da w.1.size w' 117 2 v'/\Ae w.1.size w w':=by
 obtain⟨iU,hi,hsI,bZ,bT⟩:=qjd;have huA:=underlying99;have HN:=Qa h;clear h;go_enter func221,ntmps221;go_wp2_with (first
  | (at_builtin;refine zi _ rfl _ _ _ rfl 117 iU _ 2 16 huA hi bT hsI bZ rfl (by decide) (fun _=>(0,0)) (1,0) _ 0 [] rfl (Row.nil _ _ _ _ _) o0 (0,0) _ 0 [] rfl HN.out (by intro u hu;simp at hu) (by decide) (by decide) ?_;intro v1 w7 hown1 dZ;have hN:=Qa hown1;have hB:=Qa (uf dZ);clear hown1 dZ)
  | fail)
 go_ret;exact⟨_,rfl,hN.out,hB.out⟩
def qlm (w:Aa)(v:Ac)(h:Nl w 299 8 v):Ab ARt 262 #[v] w fun e w'=>∃ v',e=O v'/\Da w.1.size w' 299 8 v'/\Ae w.1.size w w':=by
 obtain⟨iU,hi,hsI,bZ,bT⟩:=UG;have huA:=underlying155;have HN:=Qa h;clear h;go_enter func262,ntmps262;go_wp2_with (first
  | (at_builtin;refine zi _ rfl _ _ _ rfl 299 iU _ 8 88 huA hi bT hsI bZ rfl (by decide) (fun _=>(0,0)) (1,0) _ 0 [] rfl (Row.nil _ _ _ _ _) o0 (0,0) _ 0 [] rfl HN.out (by intro u hu;simp at hu) (by decide) (by decide) ?_;intro v1 w7 hown1 dZ;have hN:=Qa hown1;have hB:=Qa (uf dZ);clear hown1 dZ)
  | fail)
 go_ret;exact⟨_,rfl,hN.out,hB.out⟩
def ql3 (w:Aa)(v:Ac)(h:Nl w 117 2 v):Ab ARt 226 #[v] w fun e w'=>∃ v',e=O v'/\Da w.1.size w' 117 2 v'/\Ae w.1.size w w':=by
 obtain⟨iU,hi,hsI,bZ,bT⟩:=qjd;have huA:=underlying99;have HN:=Qa h;clear h;go_enter func226,ntmps226;go_wp2_with (first
  | (at_builtin;refine zi _ rfl _ _ _ rfl 117 iU _ 2 16 huA hi bT hsI bZ rfl (by decide) (fun _=>(0,0)) (1,0) _ 0 [] rfl (Row.nil _ _ _ _ _) o0 (0,0) _ 0 [] rfl HN.out (by intro u hu;simp at hu) (by decide) (by decide) ?_;intro v1 w7 hown1 dZ;have hN:=Qa hown1;have hB:=Qa (uf dZ);clear hown1 dZ)
  | fail)
 go_ret;exact⟨_,rfl,hN.out,hB.out⟩
def ER (r:Int):Array Ac:=#[I Z r,I Z 0,I Z 0,I Z 0,I Z 0,I Z 0]
def GP:Array Ac:=#[I Z 1,I Z 0,I Z 0,I Z 0,I Z 1]
def qng (w:Aa)(p:Option Addr)(c:Nat)(s:Int):Ab ARt 225 #[.slice p 0 c,I Z s] w fun e w'=>e=O (I Z (-1))/\w=w':=by
 go_enter func225,ntmps225;go_wp2_with fail;go_loopw [8](fun ix wr=>ix=I Z 0/\w=wr)(fun _ _=>0)
 case atStart=>exact⟨rfl,rfl⟩
 case round =>
  obtain⟨rfl,rfl⟩:=hrel;go_wp2_with fail;go_ret;exact⟨rfl,rfl⟩
def JB (w:Aa)(p:Option Addr)(c:Nat)(u:Ac):Ab ARt 264 #[Ak #[.slice p 0 c,u],I Z 1] w fun e w'=>e=O (I Z 0)/\Ae w.1.size w w':=by
 go_enter func264,ntmps264;go_wp2_with (first
  | (go_at_call 225;refine (qng _ p c 1).mono ?_;rintro e w1⟨rfl,rfl⟩)
  | fail)
 go_ret;exact⟨rfl,qc (qd w) _⟩
def qpb (w:Aa)(p:Option Addr)(c:Nat)(u:Ac):Ab ARt 224 #[Ak #[.slice p 0 c,u],.agg (ER 0),.agg GP,I Z 1] w fun e w'=>e=O (I Z 0)/\Ae w.1.size w w':=by
 unfold ER GP;go_enter func224,ntmps224;go_wp2_with (first
  | (go_at_call 264;refine (JB _ p c u).mono ?_;rintro e w1⟨rfl,hb1⟩)
  | fail)
 go_ret;exact⟨rfl,qe (qc (qc (qc (qd w) _) _) _) hb1⟩
def qh5:Pg.right ⟨1,0,0,0,1⟩=true:=by decide +kernel
def Kt (w:Aa)(gd cd gA cA:Nat)(hcd:1<=cd)(hcA:1<=cA)(hd:∀ j u,GP[j]?=some u->w.cell? ⟨gd,j,none⟩=some u)(a0:w.cell? ⟨gA,0,none⟩=some (I Z 2))(a1:w.cell? ⟨gA,1,none⟩=some (I Z 0))(a2:w.cell? ⟨gA,2,none⟩=some (I Z 1)) :
  Ab ARt 99 #[.agg (ER 0),Ah (some ⟨gd,0,none⟩) 1 cd,Ah (some ⟨gA,0,none⟩) 1 cA] w fun e w'=>e=O (.agg (ER 1))/\Ae w.1.size w w':=by
 unfold ER;have d0:w.cell? ⟨gd,0,none⟩=some (I Z 1):=hd 0 _ rfl;have d1:w.cell? ⟨gd,1,none⟩=some (I Z 0):=hd 1 _ rfl;have d2:w.cell? ⟨gd,2,none⟩=some (I Z 0):=hd 2 _ rfl;have d3:w.cell? ⟨gd,3,none⟩=some (I Z 0):=hd 3 _ rfl;have d4:w.cell? ⟨gd,4,none⟩=some (I Z 1):=hd 4 _ rfl;have HC:=Qa (fun (W:Aa)(hb:Ae w.1.size w W)=>Ad ((hb.cell (p:=⟨gd,0,none⟩) (qh d0)).trans d0) (Ad ((hb.cell (p:=⟨gd,1,none⟩) (qh d1)).trans d1) (Ad ((hb.cell (p:=⟨gd,2,none⟩) (qh d2)).trans d2) (Ad ((hb.cell (p:=⟨gd,3,none⟩) (qh d3)).trans d3) (Ad ((hb.cell (p:=⟨gd,4,none⟩) (qh d4)).trans d4) (Ad ((hb.cell (p:=⟨gA,0,none⟩) (qh a0)).trans a0) (Ad ((hb.cell (p:=⟨gA,1,none⟩) (qh a1)).trans a1) ((hb.cell (p:=⟨gA,2,none⟩) (qh a2)).trans a2))))))))
 have hgd:=qh d0;have hgA:=qh a0;clear hd d0 d1 d2 d3 d4 a0 a1 a2;go_enter func99,ntmps99;go_upto_region 1 with fail;obtain⟨W0,hW0⟩:=Ja0 ((w.alloc (.cells #[I Z 0,I Z 0,I Z 0,I Z 0,I Z 0,I Z 0] 56)).alloc (.cells #[I Z 0,I Z 0,I Z 0,I Z 0,I Z 0,I Z 0] 56));rw[<-hW0];have hB0:Ae w.1.size w W0:=by rw[hW0];exact qc (qc (qd w) _) _
 have j3:Al W0 w.1.size #[I Z 0,I Z 0,I Z 0,I Z 0,I Z 0,I Z 0] 56:=by rw[hW0];exact (Al.new w _ _).alloc _
 have j6:Al W0 (w.1.size+1) #[I Z 0,I Z 0,I Z 0,I Z 0,I Z 0,I Z 0] 56:=by rw[hW0];exact Al.Ap _ _ _ _ _ (by simp) rfl
 have HJ:=Qa (Ad hB0 (Ad j3 j6));clear hW0 hB0 j3 j6;go_step3;go_wp2_with fail;go_step3;go_wp2_with fail;go_loopw [12] (fun ix wr=>∃ i:Nat,ix=I Z i/\i<=1/\Ae w.1.size w wr/\Al wr w.1.size #[I Z i,I Z 0,I Z 0,I Z 0,I Z 0,I Z 0] 56/\Al wr (w.1.size+1) #[I Z 0,I Z 0,I Z 0,I Z 0,I Z 0,I Z 0] 56) (fun ix _=>1-(intOf ix).toNat)
 case atStart=>exact⟨0,rfl,Nat.zero_le _,HJ.out.1,HJ.out.2.1,HJ.out.2.2⟩
 case round =>
  obtain⟨i,rfl,hi,hb,j3,j6⟩:=hrel;obtain⟨d0,d1,d2,d3,d4,a0,a1,a2⟩:=HC.out wr hb;have lgd:gd<wr.1.size:=qh d0;have lgA:gA<wr.1.size:=qh a0;have c3:=j3.cell;have s3:=j3.lt;have z3:=j3.free;obtain rfl|rfl:i=0\/i=1:=by omega
  ·have HR:=Qa (br 1 0 0 0 1)
   have J3:=Qa j3;have J6:=Qa j6;have yD:=Qa hb;clear j3 j6 hb;go_wp2_with (first
    | (go_at_call 147;refine (HR.out _).mono ?_;rw[qh5];rintro e w5 ⟨rfl,hb5⟩;have gN:=Qa (qe (qc (qd wr) (.cells #[I Z 2,I Z 0,I Z 1] 54)) hb5);have jA:=(Al.new wr #[I Z 2,I Z 0,I Z 1] 54).below hb5 (Al.new wr _ _).lt;have jR:=J3.out.below gN.out J3.out.lt;have J6':=Qa (J6.out.below gN.out J6.out.lt);clear hb5 d0 d1 d2 d3 d4 a0 a1 a2 c3 z3 s3 lgd lgA;obtain⟨d0,d1,d2,d3,d4,a0,a1,a2⟩:=HC.out w5 (qe yD.out gN.out);have lgd:gd<w5.1.size:=qh d0;have lgA:gA<w5.1.size:=qh a0;have cA:=jA.cell;have sA:=jA.lt;have c3:=jR.cell;have z3:=jR.free;have s3:=jR.lt;have JR:=Qa jR;clear jA jR)
    | fail)
   go_roundw
   case rel=>exact⟨1,rfl,Qk _,((qe yD.out gN.out).setCell (by exact Qk _) _).alloc (by rw[World.size_setCell];exact Qo yD.out.size gN.out.size) _,(JR.out.set 0 _).alloc _,(J6'.out.Am (by simp) _).alloc _⟩
   case measure=>simp[intOf]
  ·have c6:=j6.cell
   have zf6:=j6.free;have s6:=j6.lt;go_wp2_with fail;have j9:=(((((j6.set 0 (I Z 1)).set 1 (I Z 0)).set 2 (I Z 0)).set 3 (I Z 0)).set 4 (I Z 0)).set 5 (I Z 0);have eX:=(((((hb.setCell (p:=⟨w.1.size+1,0,none⟩) (by exact Ai _) (I Z 1)).setCell (p:=⟨w.1.size+1,1,none⟩) (by exact Ai _) (I Z 0)).setCell (p:=⟨w.1.size+1,2,none⟩) (by exact Ai _) (I Z 0)).setCell (p:=⟨w.1.size+1,3,none⟩) (by exact Ai _) (I Z 0)).setCell (p:=⟨w.1.size+1,4,none⟩) (by exact Ai _) (I Z 0)).setCell (p:=⟨w.1.size+1,5,none⟩) (by exact Ai _) (I Z 0)
   have c9:=j9.cell;have s9:=j9.lt;rw[Exit.noGoto_ret];refine bodyPost_ret (v:=.agg (ER 1)) (by simp[results,results99,go_sem,c9,s9];rfl) rfl ⟨rfl,eX⟩
