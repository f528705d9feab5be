import Derived.Test.YtgndecmkhhdkjaaGreatKaz
import Derived.Test.YtgndecmkhhdkjaaGreatKbb
set_option linter.all false
set_option maxRecDepth 1000000
set_option maxHeartbeats 0
open Go renaming World->Aa,Calls->Ab,Value->Ac
open Go.RowKit renaming Below->Ae
open Go.Value renaming int->I,tuple->Ak,agg->Al
open Go.IntKind renaming i64->Z
open Go.Ending renaming returned->O
open Go.Value renaming ownBlock->Ad
open Go.Proofs.Tryz renaming prog->ANa
namespace Go.Proofs.YtgndecmkhhdkjaaGreat
open Go.RowKit Hp
attribute [local go_sem ↓] Go.wp_at_zero Go.wp_at_succ
def XY (o:Own):∀ n:Nat,∃ id,20<=id/\∀ b,b<n->(o b).1<id
 | 0=>⟨20,Qk _,fun b hb=>by omega⟩
 | n+1=>by
  obtain⟨id,h1,h2⟩:=XY o n;refine⟨id+(o n).1+1,by omega,fun b hb=>?_⟩
  by_cases h:b<n
  ·have:=h2 b h;omega
  ·rw[show b=n from by omega];omega
def oS (n:Nat):Own:=fun b=>if b<n then (7,0) else (9,0)
structure Dn (n0:Nat)(w0:Aa)(ma mb:Cd)(w:Aa)(o:Own)(A B:Mc):Prop where
 a:BK w o ma A
 b:BK w o mb B
 ak:A.ok
 bk:B.ok
 st:Stp (fun t=>kf ma t\/kf mb t\/t.1=9) (oS n0) o w0 w
 ia:ma.y.l.id=0
 ib:20<=mb.y.l.id
section
variable {n0 : Nat} {w0 w w' : Aa} {ma mb : Cd} {o o' : Own} {A B A' B' : Mc}
def Dn.old (h:Dn n0 w0 ma mb w o A B)(hn:n0<=w0.1.size):Ae n0 w0 w:=
 ⟨h.st.os,h.st.tape,h.st.output,h.st.size,fun k hk=>h.st.block k (by omega) (by
  unfold oS;rw[if_pos hk];unfold kf;rw[h.ia];have:=h.ib;rintro (e|e|e)
  ·simp at e
  ·simp at e;omega
  ·simp at e)⟩
def Dn.own (h:Dn n0 w0 ma mb w o A B)(s:Stp (fun t=>t.1=9) o o' w w'):Dn n0 w0 ma mb w' o' A B:=
 have i1:=h.ib
 ⟨h.a.Ar s (fun _ e=>by rw[h.ia]at e;simp at e<;>omega) (fun _ e=>by rw[h.ia]at e;simp at e<;>omega),h.b.Ar s (fun _ e=>by simp at e<;>omega) (fun _ e=>by simp at e<;>omega),h.ak,h.bk,h.st.trans (s.mono fun _ h=>.inr (.inr h)),h.ia,h.ib⟩
def Dn.below (h:Dn n0 w0 ma mb w o A B)(k:Ae w w w'):Dn n0 w0 ma mb w' o A B:=h.own (Stp.of_below k)
def Dn.ga (h:Dn n0 w0 ma mb w o A B)(k:BK w' o' ma A')(hk:A'.ok)(s:Stp (kf ma) o o' w w'):Dn n0 w0 ma mb w' o' A' B:=
 have i1:=h.ib
 ⟨k,h.b.Ar s (fun _ e=>by unfold kf at e;rw[h.ia]at e;simp at e<;>omega) (fun _ e=>by unfold kf at e;rw[h.ia]at e;simp at e<;>omega),hk,h.bk,h.st.trans (s.mono fun _ h=>.inl h),h.ia,h.ib⟩
def Dn.gb (h:Dn n0 w0 ma mb w o A B)(k:BK w' o' mb B')(hk:B'.ok)(s:Stp (kf mb) o o' w w'):Dn n0 w0 ma mb w' o' A B':=
 have i1:=h.ib
 ⟨h.a.Ar s (fun _ e=>by unfold kf at e;rw[h.ia]at e;simp at e<;>omega) (fun _ e=>by unfold kf at e;rw[h.ia]at e;simp at e<;>omega),k,h.ak,hk,h.st.trans (s.mono fun _ h=>.inr (.inl h)),h.ia,h.ib⟩
def Dn.EC (h:Dn n0 w0 ma mb w o A B)(t:Int):Ab ANa 9 #[ptr ma.mb,t] w fun e w'=>e=O (Al #[I Z (A.step t).2.k,I Z (A.step t).2.e,I Z (A.step t).2.v])/\∃ o',Dn n0 w0 ma mb w' o' (A.step t).1 B/\Stp (kf ma) o o' w w':=
 (uf h.a h.ak t).mono fun _ _⟨a,o',b,s⟩=>⟨a,o',h.ga b (Mc.E4 h.ak t) s,s⟩
def Dn.Sa (h:Dn n0 w0 ma mb w o A B)(t:Int):Ab ANa 9 #[ptr mb.mb,t] w fun e w'=>e=O (Al #[I Z (B.step t).2.k,I Z (B.step t).2.e,I Z (B.step t).2.v])/\∃ o',Dn n0 w0 ma mb w' o' A (B.step t).1/\Stp (kf mb) o o' w w':=
 (uf h.b h.bk t).mono fun _ _⟨a,o',b,s⟩=>⟨a,o',h.gb b (Mc.E4 h.bk t) s,s⟩
def Dn.Hg (h:Dn n0 w0 ma mb w o A B):Ab ANa 8 #[ptr ma.mb] w fun e w'=>e=O (.bool A.collect.2)/\∃ o',Dn n0 w0 ma mb w' o' A.collect.1 B/\Stp (kf ma) o o' w w':=
 (fp h.a h.ak).mono fun _ _⟨a,o',b,s⟩=>⟨a,o',h.ga b (Mc.Di h.ak) s,s⟩
def Dn.Hh (h:Dn n0 w0 ma mb w o A B):Ab ANa 8 #[ptr mb.mb] w fun e w'=>e=O (.bool B.collect.2)/\∃ o',Dn n0 w0 ma mb w' o' A B.collect.1/\Stp (kf mb) o o' w w':=
 (fp h.b h.bk).mono fun _ _⟨a,o',b,s⟩=>⟨a,o',h.gb b (Mc.Di h.bk) s,s⟩
def Yl {m:Cd}{M:Mc}(h:BK w o m M)(hk:M.ok):Ab ANa 11 #[ptr m.mb] w fun e w'=>∃ v',e=O v'/\Row w' (ext o w (9,6)) (9,6) 53 6 v' M.past.length (za M.past)/\BK w' (ext o w (9,6)) m M/\Stp (kf m) o (ext o w (9,6)) w w':=by
 have he:∀ b,b<w.1.size->ext o w (9,6) b=o b:=fun b hb=>qk hb
 refine (VG (h.retag he) hk.pl).mono ?_
 rintro e w'⟨v',rfl,hr,hM,hs⟩
 have s:Stp (kf m) o (ext o w (9,6)) w w':=⟨hs.os,hs.tape,hs.output,hs.size,fun b hb=>he b hb,fun k hk hn=>hs.block k hk fun e=>hn (by rw[he k hk]at e;rw[e];exact .inr rfl)⟩
 exact⟨v',rfl,hr.out o (9,6),hM,s⟩
def Dn.Rj (h:Dn n0 w0 ma mb w o A B):Ab ANa 11 #[ptr ma.mb] w fun e w'=>∃ v',e=O v'/\Row w' (ext o w (9,6)) (9,6) 53 6 v' A.past.length (za A.past)/\Dn n0 w0 ma mb w' (ext o w (9,6)) A B/\Stp (kf ma) o (ext o w (9,6)) w w':=
 (Yl h.a h.ak).mono fun _ _⟨v',e,r,k,s⟩=>⟨v',e,r,h.ga k h.ak s,s⟩
def Dn.Rk (h:Dn n0 w0 ma mb w o A B):Ab ANa 11 #[ptr mb.mb] w fun e w'=>∃ v',e=O v'/\Row w' (ext o w (9,6)) (9,6) 53 6 v' B.past.length (za B.past)/\Dn n0 w0 ma mb w' (ext o w (9,6)) A B/\Stp (kf mb) o (ext o w (9,6)) w w':=
 (Yl h.b h.bk).mono fun _ _⟨v',e,r,k,s⟩=>⟨v',e,r,h.gb k h.bk s,s⟩
end
def M9 (n r u:Nat)(b:Int)(h1:16<=n)(h2:n<=16384)(hr:r<=200)(hu:u<=200){v:Ac}{AZ:List (List (List AD))}(ht:Er AZ){w0 w:Aa}(hv:RT w v AZ)(n0:Nat){o:Own}(hs0:Stp (fun _=>False) (oS n0) o w0 w){ma:Cd}{A:Mc}(hA:BK w o ma A)(ak:A.ok)(ia:ma.y.l.id=0) :
  Ab ANa 7 #[n,r,u,b,v] w fun e w'=>∃ mb o',e=O (Ak #[ptr mb.mb,()])/\Dn n0 w0 ma mb w' o' A (Mc.fresh (Am.fresh n AZ.length r u (EV b).toNat) AZ)/\Stp (fun _=>False) o o' w w':=by
 obtain⟨id,hid,hf⟩:=XY o w;refine (Um n r u b h1 h2 hr hu ht o id w hv fun b hb=>⟨by have:=hf b hb;omega,by have:=hf b hb;omega⟩).mono ?_
 rintro e w'⟨m,o',rfl,AAl,hM,hs⟩
 exact⟨m,o',rfl,⟨hA.Ar hs (fun _ h=>h) fun _ h=>h,hM,ak,Mc.De h1 h2 hr hu (by unfold EV;omega) ht,(hs0.trans hs).mono fun _ h=>h.elim,ia,by omega⟩,hs⟩
def QD (W:Aa)(o:Own)(v:Ac)(n:Nat):Prop:=n<=6/\∃ xs,Row W o (9,0) 44 5 v n xs
def QB (W:Aa)(o:Own)(v:Ac)(bs:List Nat):Prop:=
 bs.length<=3/\∃ vs:List Ac,vs.length=bs.length/\Row W o (9,0) 45 1 v bs.length vs/\∀ (j n:Nat),bs[j]?=some n->∃ u:Ac,vs[j]?=some u/\QD W o u n
def QT (W:Aa)(o:Own)(v:Ac)(AZ:List (List Nat)):Prop:=
 AZ.length<=4/\∃ vs:List Ac,vs.length=AZ.length/\Row W o (9,0) 46 1 v AZ.length vs/\∀ (j:Nat)(bs:List Nat),AZ[j]?=some bs->∃ u:Ac,vs[j]?=some u/\QB W o u bs
section
variable {W W' : Aa} {o o' : Own} {v : Ac}
def Row.Y7 {w:Aa}{oP:Own}{n0:Nat}{e:TypeId}{size n:Nat}{v:Ac}{xs:List Ac}(h:Row W oP (1,0) e size v n xs)(hk:Wk w W oP)(hn:n0<=w.1.size):Row W (oS n0) (9,0) e size v n xs:=
 ⟨h.own,fun b hb=>by
  have h1:=h.tag b hb;unfold oS;rw[if_neg fun hl=>?_];have:=hk.z b (by omega)
  rw[this]at h1;simp at h1⟩
def QY (W:Aa)(g:Nat):Prop:=∃ cs,An W g cs 44
def QY.set {g:Nat}(h:QY W g)(i:Nat)(u:Ac):QY (W.setCell ⟨g,i,none⟩ u) g:=let ⟨_,hb⟩:=h;⟨_,hb.set i u⟩
def Row.Vf {t:Tag}{e:TypeId}{size n:Nat}{xs:List Ac}(h:Row W o t e size v n xs){g:Nat}(hg:QY W g)(he:e≠44)(i:Nat)(u:Ac):Row (W.setCell ⟨g,i,none⟩ u) o t e size v n xs:=by
 refine⟨ownsRow_setCell_other h.own (fun hb=>?_) u,h.tag⟩
 obtain⟨cs,hc⟩:=hg;rcases h.own.2 with ⟨rfl,_⟩|⟨g',cap,cur,rfl,_,hh,_⟩
 ·simp[Ad]at hb
 ·simp[Ad]at hb
  subst hb;unfold An at hc;rw[hc]at hh;injection hh with hh;injection hh with _ hh _;exact he hh.symm
def QD.set {n:Nat}(h:QD W o v n){g:Nat}(i:Nat)(u:Ac):QD (W.setCell ⟨g,i,none⟩ u) o v n:=by
 obtain⟨h0,xs,hr⟩:=h;refine⟨h0,?_⟩;by_cases hb:v.ownBlock=some g
 ·rcases hr.own.2 with ⟨rfl,_⟩|⟨g',cap,cur,rfl,_⟩
  ·simp[Ad]at hb
  ·simp[Ad]at hb
   subst hb;exact⟨_,hr.Dj i u⟩
 ·exact⟨xs,ownsRow_setCell_other hr.own hb u,hr.tag⟩
def QT.at {AZ:List (List Nat)}{pq:Option Addr}{cq:Nat}(h:QT W o (.slice pq AZ.length cq) AZ){i:Nat}{bs:List Nat}(hi:AZ[i]?=some bs) :
  ∃ g0 p1 c1,pq=some ⟨g0,0,none⟩/\AZ.length<=cq/\W.cell? ⟨g0,i,none⟩=some (.slice p1 bs.length c1)/\QB W o (.slice p1 bs.length c1) bs:=by
 obtain⟨h0,vs,h1,h2,h3⟩:=h;obtain⟨u,hu,hq⟩:=h3 i bs hi;have hl:=(Qc.1 hi).1;obtain⟨_,us,_,hr,_⟩:=id hq;obtain⟨p1,c1,rfl⟩:=hr.A6;rcases h2.form with ⟨_,e⟩|⟨g,cap,e,hc,_⟩
 ·omega
 ·injection e with e1 _ e3
  subst e1 e3;exact⟨g,p1,c1,rfl,hc,h2.cells i _ hu,hq⟩
def QB.at {bs:List Nat}{pq:Option Addr}{cq:Nat}(h:QB W o (.slice pq bs.length cq) bs){i n:Nat}(hi:bs[i]?=some n) :
  ∃ g0 p1 c1,pq=some ⟨g0,0,none⟩/\bs.length<=cq/\W.cell? ⟨g0,i,none⟩=some (.slice p1 n c1)/\QD W o (.slice p1 n c1) n:=by
 obtain⟨h0,vs,h1,h2,h3⟩:=h;obtain⟨u,hu,hq⟩:=h3 i n hi;have hl:=(Qc.1 hi).1;obtain⟨_,xs,hr⟩:=id hq;obtain⟨p1,c1,rfl⟩:=hr.A6;rcases h2.form with ⟨_,e⟩|⟨g,cap,e,hc,_⟩
 ·omega
 ·injection e with e1 _ e3
  subst e1 e3;exact⟨g,p1,c1,rfl,hc,h2.cells i _ hu,hq⟩
def QD.at {n:Nat}{pq:Option Addr}{cq:Nat}(h:QD W o (.slice pq n cq) n){k:Nat}(hk:k<n) :
  ∃ g,pq=some ⟨g,0,none⟩/\n<=cq/\QY W g/\o g=(9,0)/\g<W.1.size/\(∀ j,W.frozen? ⟨g,j,none⟩=false)/\∀ r,r<5->∃ x,W.cell? ⟨g,k*5+r,none⟩=some x:=by
 obtain⟨h0,xs,hr⟩:=h;rcases hr.Dc with ⟨_,e⟩|⟨g,cap,e,hc⟩
 ·have:=hr.len;rw[e]at this;simp at this;omega
 ·injection e with e1 _ e3
  subst e1 e3;refine⟨g,rfl,hc,?_,hr.EB,hr.blt,fun j=>hr.free j,fun r dZ=>?_⟩
  ·rcases hr.own.2 with ⟨e,_⟩|⟨g',cap',cur,e,_,hh,_⟩
   ·cases e
   ·injection e with e1
    injection e1 with e1;injection e1 with e1;subst e1;exact⟨cur,hh⟩
  ·have hlen:=hr.len
   have hlt:k*5+r<xs.length:=by omega
   have:=hr.own.cells (g:=g) rfl (k*5+r) _ (Qb hlt);rw[addr_add]at this;exact⟨_,this⟩
