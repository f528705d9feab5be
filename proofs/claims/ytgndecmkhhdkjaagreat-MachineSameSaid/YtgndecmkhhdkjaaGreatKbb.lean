import Derived.Test.YtgndecmkhhdkjaaGreatKav
import Derived.Below
import Derived.Carry
import Derived.ChangeArms
import Derived.ChangeSlices
import Derived.Deep.DeepHandedRow
import Derived.OpenShut
import Derived.ProofKit
set_option linter.all false
set_option maxRecDepth 1000000
set_option maxHeartbeats 0
open Go.Proofs.Tryz renaming prog->ANa
namespace Go.Proofs.YtgndecmkhhdkjaaGreat
open Go.RowKit Hp Go.ChangeShapes Go.WideShapes Go.Deep Go.ChangeAt
def Sb (d:Pg.D):AD:=⟨d.k,d.a.toNat,d.b.toNat,d.i,d.n⟩
def Nq (d:Pg.D):(Sb (fit d)).ok/\(Sb (fit d)).D=fit d/\0<=(fit d).a/\0<=(fit d).b:=by
 have h1:=ws d.k 14 (by omega)
 have h2:=xd d.k 14 (by omega)
 unfold fit;generalize hk:1+DL d.k 14=k;have hk':1<=k/\k<=14:=by omega
 clear hk h1 h2;have a1:=ws d.a 6 (by omega)
 have a2:=xd d.a 6 (by omega)
 have b1:=ws d.b 6 (by omega)
 have b2:=xd d.b 6 (by omega)
 have i1:=ws d.i 5 (by omega)
 have i2:=xd d.i 5 (by omega)
 have j1:=ws d.i 8 (by omega)
 have n1:=ws d.n 5 (by omega)
 have n2:=xd d.n 5 (by omega)
 have v1:=ws d.n 2000001 (by omega)
 have v2:=xd d.n 2000001 (by omega)
 obtain⟨a,ha⟩:=Ja0 (DL d.a 6);obtain⟨b,hb⟩:=Ja0 (DL d.b 6);obtain⟨i,hi⟩:=Ja0 (DL d.i 5);obtain⟨i',hi'⟩:=Ja0 (DL d.i 8);obtain⟨n,hn⟩:=Ja0 (DL d.n 5);obtain⟨n',hn'⟩:=Ja0 (DL d.n 2000001);rw[<-ha]at a1 a2;rw[<-hb]at b1 b2;rw[<-hi]at i1 i2;rw[<-hi']at j1;rw[<-hn]at n1 n2;rw[<-hn']at v1 v2;obtain⟨a,rfl⟩:=Int.eq_ofNat_of_zero_le a1;obtain⟨b,rfl⟩:=Int.eq_ofNat_of_zero_le b1;rcases Pg.kinds hk' with rfl|rfl|rfl|rfl|rfl|rfl|rfl|rfl|rfl|rfl|rfl|rfl|rfl|rfl
 all_goals
  refine⟨⟨?_,?_,?_,?_,?_,?_⟩,?_,?_,?_⟩<;>simp[Jd,Sb,AD.D,<-ha,<-hb,<-hi,<-hi',<-hn,<-hn']<;>omega
def vs (t:List (List Pg.D)):List (List AD):=t.map (·.map Sb)
def JK {t b:List (List Pg.D)}{l:List Pg.D}(hb:b=rz t)(hl:l ∈ b):l≠[]/\l.length<=6/\∀ d ∈ l,∃ d0,d=fit d0:=by
 subst hb;unfold rz at hl;obtain⟨h1,h2⟩:=List.mem_filter.1 hl;obtain⟨l0,_,rfl⟩:=Qt.1 h1;refine⟨fun e=>by rw[e]at h2;simp at h2,by unfold fits;simp;omega,fun d hd=>?_⟩
 unfold fits at hd;obtain⟨d0,_,rfl⟩:=Qt.1 hd;exact⟨d0,rfl⟩
def Xo {raw:List (List (List Pg.D))}{t:List (List Pg.D)}(ht:t ∈ pm raw):t.length<=3/\∀ l ∈ t,l≠[]/\l.length<=6/\∀ d ∈ l,∃ d0,d=fit d0:=by
 unfold pm at ht;split at ht
 ·simp at ht;subst ht;exact⟨by simp,fun l hl=>by cases hl⟩
 ·unfold Gq at ht
  obtain⟨t0,_,rfl⟩:=Qt.1 ht;refine⟨?_,fun l hl=>JK rfl hl⟩;have:=WH t0 3;exact this
def T9 (raw:List (List (List Pg.D))):1<=(pm raw).length/\(pm raw).length<=4:=by
 unfold pm;split
 ·simp
 ·unfold Gq
  cases raw with
  | nil=>rename_i h;simp at h
  | cons x l=>simp;omega
def Sc {l:List Pg.D}(h:∀ d ∈ l,∃ d0,d=fit d0):(l.map Sb).map AD.D=l:=by
 rw[List.map_map];refine (List.map_congr_left fun d hd=>?_).trans (List.map_id' l)
 obtain⟨d0,rfl⟩:=h d hd;exact (Nq d0).2.1
def PM (raw:List (List (List Pg.D))):List (List (List AD)):=(pm raw).map vs
structure QX (AZ:List (List (List Pg.D))):Prop where
 n1:1<=AZ.length
 n4:AZ.length<=4
 mem:∀ t ∈ AZ,t.length<=3/\∀ l ∈ t,l≠[]/\l.length<=6/\∀ d ∈ l,∃ d0,d=fit d0
def qqk (raw:List (List (List Pg.D))):QX (pm raw):=⟨(T9 raw).1,(T9 raw).2,fun _=>Xo⟩
def QX.AZ {AZ:List (List (List Pg.D))}(h:QX AZ):Er (AZ.map vs):=by
 have h1:=h.n1;have h4:=h.n4;refine⟨by rw[Qg];omega,by rw[Qg];omega,fun p hp=>?_⟩
 obtain⟨t,ht,rfl⟩:=Qt.1 hp;obtain⟨q1,q2⟩:=h.mem t ht;refine⟨by unfold vs;rw[Qg];omega,fun ds hds=>?_⟩
 obtain⟨l,hl,rfl⟩:=Qt.1 hds;obtain⟨hne,h6,hf⟩:=q2 l hl;have hpos:0<l.length:=List.length_pos_iff.2 hne;refine⟨by rw[Qg];omega,by rw[Qg];omega,fun d hd=>?_⟩
 obtain⟨p,hp,rfl⟩:=Qt.1 hd;obtain⟨d0,rfl⟩:=hf p hp;obtain⟨a,b,_⟩:=Nq d0;exact⟨a,by rw[b];exact qpc d0⟩
def QX.rt {AZ:List (List (List Pg.D))}(hf:QX AZ){W:World}{o:Own}{tg:Tag}{v:Value}(h:FT tg W o v AZ):RT W v (AZ.map vs):=by
 obtain⟨h0,us,h1,h2,h3⟩:=h;have hl:(AZ.map vs).length=AZ.length:=Qg _;refine⟨by omega,us,o,tg,by rw[hl];exact h1,by rw[hl];exact h2,fun j bs hj=>?_⟩
 rw[Qj]at hj;obtain⟨t,ht,rfl⟩:=Option.map_eq_some_iff.1 hj;obtain⟨u,hu,k0,us',k1,k2,k3⟩:=h3 j t ht;have hm:=(hf.mem t (Qe ht)).2;have hvl:(vs t).length=t.length:=by unfold vs;rw[Qg]
 refine⟨u,hu,by omega,us',o,(1,0),by rw[hvl];exact k1,by rw[hvl];exact k2,fun i l hi=>?_⟩
 unfold vs at hi;rw[Qj]at hi;obtain⟨l0,hl0,rfl⟩:=Option.map_eq_some_iff.1 hi;obtain⟨u',hu',d0,d1⟩:=k3 i l0 hl0;have e:=Sc (hm l0 (Qe hl0)).2.2;exact⟨u',hu',by rw[Qg];omega,o,(1,0),by rw[e,Qg];exact d1⟩
def GP (w:World)(v:Value)(l:List Int):Prop:=
 ∃ a c,v=.slice a l.length c/\l.length<=c/\l.length<=maxLen/\(l=[]\/∃ b off,a=some ⟨b,off,none⟩/\∀ (j:Nat)(z:Int),l[j]?=some z->w.cell? ⟨b,off+j,none⟩=some (.int .i64 z))
def qmw {H:Type}{enc:TypeId×Value->H}{w:World}{base:Nat}{spare:Nat->Bool}{held:Bool}{v:Value}{d:DataW H}{p:List MemPlace}(h:DataW.Trod enc ANa w base spare held 23 v d p)
  {r:Reach}{b0:Nat}(hv:Value.okWide ANa w r b0 23 v):∃ l,GP w v l/\∀ z ∈ l,FH z:=by
 obtain⟨fuel,h⟩:=h;obtain⟨a,n,c,rfl⟩:=okWide_slice Tryz.underlying23 hv;have h':DataW.trod enc ANa w base spare held fuel 23 [.slice a n c]=some (d,p):=h;rcases open_ints Tryz.underlying23 Tryz.underlying3 (by kernel_rfl) h' with⟨hcs,_⟩|⟨a,len,cap,zs,hcs,_,hle,hcm,hzl,_,hz,hwf⟩
 ·simp only[List.cons.injEq,and_true]at hcs
  exact⟨[],⟨none,0,hcs,Qk _,by simp,.inl rfl⟩,fun z hz=>by cases hz⟩
 ·simp only[List.cons.injEq,and_true]at hcs
  have hlz:len<=zs.length:=by rw[hzl];split<;>omega
  have htl:(zs.take len).length=len:=by rw[Qp];omega
  refine⟨zs.take len,⟨some a,cap,by rw[htl];exact hcs,by omega,by omega,?_⟩,fun z hz=>lu (hwf z (List.mem_of_mem_take hz))⟩
  by_cases h0:len=0
  ·left;subst h0;simp
  ·right
   have hc0:=hz 0 (by omega)
   have ha0:a.add 0=a:=by unfold Addr.add;simp
   rw[ha0]at hc0;have hp:=bz hc0;refine⟨a.block,a.off,by rw[<-hp],fun j z hj=>?_⟩
   have hjl:j<len:=by have:=(Qc.1 hj).1;omega
   have hc:=hz j (by omega)
   rw[hp,lc]at hc;rw[Qz,if_pos hjl]at hj;rw[Qi,hj]at hc;exact hc
def LB {w:World}{b o:Nat}{v:Value}(h:w.cell? ⟨b,o,none⟩=some v):b<w.1.size:=by
 unfold World.cell? at h;split at h
 ·rename_i h';exact (Qf.1 h').1
 ·cases h
def laidOut:laidOutB ANa=true:=by kernel_rfl
def qqy {H:Type}{enc:TypeId×Value->H}{W W':World}(hb:Below W W W'):∀ (ts:List TypeId),(∀ t ∈ ts,ANa.readableRec t=true/\t<ANa.types.size) ->
  ∀ (vs:List Value)(ds:List (DataW H))(ps:List MemPlace),DataW.TrodAll enc ANa W 0 (fun _=>true) true ts vs ds ps ->
  (∃ qs,DataW.TrodAll enc ANa W' 0 (fun b=>decide (b<W.1.size)) true ts vs ds qs/\qs=ps):=by
 intro ts;induction ts with
 | nil =>
  intro _ vs ds ps h
  cases vs with
  | cons v vs=>exact absurd h (by intro h;cases h)
  | nil =>
   obtain⟨rfl,rfl⟩:ds=[]/\ps=[]:=by
    have:=trodAll_nil h;simp_all
   exact⟨_,trodAll_mk0,rfl⟩
 | cons t ts ih =>
  intro hh vs ds ps h;obtain⟨v0,vs0,d0,ds0,p0,q0,rfl,rfl,rfl,h0,r0⟩:=trodAll_cons h;obtain⟨hr,hsz⟩:=hh t (.head _);have lt0:∀ x ∈ p0,x.block<W.1.size:=by obtain⟨m,hm⟩:=h0;exact DataW.trod_lt m _ _ _ hm
  obtain⟨qs,hq,rfl⟩:=ih (fun u hu=>hh u (.tail _ hu)) _ _ _ r0;exact⟨_,trodAll_cons_mk (Below.trod laidOut hr hsz h0 hb lt0) hq,rfl⟩
