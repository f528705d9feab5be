import Derived.Test.YteehgedabdchcaaGreatKbj
import Derived.Below
import Derived.Carry
import Derived.ChangeArms
import Derived.ChangeSlices
import Derived.Deep.DeepHandedRow
import Derived.OpenShut
import Derived.ProofKit
set_option linter.all false
set_option maxRecDepth 1000000
set_option maxHeartbeats 16000000
namespace Go.Proofs.YteehgedabdchcaaGreat
open Go.RowKit Hp Go.ChangeShapes Go.WideShapes Go.Deep Go.ChangeAt
def PF (d:Pg.D):Ay:=⟨d.k,d.a.toNat,d.b.toNat,d.i,d.n⟩
theorem Mj (d:Pg.D):(PF (fit d)).ok/\(PF (fit d)).D=fit d/\0<=(fit d).a/\0<=(fit d).b:=by
 have h1:=kz d.k 14 (by omega)
 have h2:=wh d.k 14 (by omega)
 unfold fit;generalize hk:1+Dh d.k 14=k;have hk':1<=k/\k<=14:=by omega
 clear hk h1 h2;have a1:=kz d.a 6 (by omega)
 have a2:=wh d.a 6 (by omega)
 have b1:=kz d.b 6 (by omega)
 have b2:=wh d.b 6 (by omega)
 have i1:=kz d.i 5 (by omega)
 have i2:=wh d.i 5 (by omega)
 have j1:=kz d.i 8 (by omega)
 have n1:=kz d.n 5 (by omega)
 have n2:=wh d.n 5 (by omega)
 have v1:=kz d.n 2000001 (by omega)
 have v2:=wh d.n 2000001 (by omega)
 obtain⟨a,ha⟩:∃ a,a=Dh d.a 6:=⟨_,rfl⟩;obtain⟨b,hb⟩:∃ a,a=Dh d.b 6:=⟨_,rfl⟩;obtain⟨i,hi⟩:∃ a,a=Dh d.i 5:=⟨_,rfl⟩;obtain⟨i',hi'⟩:∃ a,a=Dh d.i 8:=⟨_,rfl⟩;obtain⟨n,hn⟩:∃ a,a=Dh d.n 5:=⟨_,rfl⟩;obtain⟨n',hn'⟩:∃ a,a=Dh d.n 2000001:=⟨_,rfl⟩;rw[<-ha]at a1 a2;rw[<-hb]at b1 b2;rw[<-hi]at i1 i2;rw[<-hi']at j1;rw[<-hn]at n1 n2;rw[<-hn']at v1 v2;obtain⟨a,rfl⟩:=Int.eq_ofNat_of_zero_le a1;obtain⟨b,rfl⟩:=Int.eq_ofNat_of_zero_le b1;rcases Pg.kinds hk' with rfl|rfl|rfl|rfl|rfl|rfl|rfl|rfl|rfl|rfl|rfl|rfl|rfl|rfl
 all_goals
  refine⟨⟨?_,?_,?_,?_,?_,?_⟩,?_,?_,?_⟩<;>simp[JV,PF,Ay.D,<-ha,<-hb,<-hi,<-hi',<-hn,<-hn']<;>omega
def vs (t:List (List Pg.D)):List (List Ay):=t.map (·.map PF)
theorem GL {t b:List (List Pg.D)}{l:List Pg.D}(hb:b=ba t)(hl:l ∈ b):l≠[]/\l.length<=6/\∀ d ∈ l,∃ d0,d=fit d0:=by
 subst hb;unfold ba at hl;obtain⟨h1,h2⟩:=List.mem_filter.1 hl;obtain⟨l0,_,rfl⟩:=Qt.1 h1;refine⟨fun e=>by rw[e]at h2;simp at h2,by unfold fits;simp;omega,fun d hd=>?_⟩
 unfold fits at hd;obtain⟨d0,_,rfl⟩:=Qt.1 hd;exact⟨d0,rfl⟩
theorem uz {raw:List (List (List Pg.D))}{t:List (List Pg.D)}(ht:t ∈ zt raw):t.length<=3/\∀ l ∈ t,l≠[]/\l.length<=6/\∀ d ∈ l,∃ d0,d=fit d0:=by
 unfold zt at ht;split at ht
 ·simp at ht;subst ht;exact⟨by simp,fun l hl=>by cases hl⟩
 ·unfold FN at ht
  obtain⟨t0,_,rfl⟩:=Qt.1 ht;refine⟨?_,fun l hl=>GL rfl hl⟩
  have:=Ua t0 3;exact this
theorem lj (raw:List (List (List Pg.D))):1<=(zt raw).length/\(zt raw).length<=4:=by
 unfold zt;split
 ·simp
 ·unfold FN
  cases raw with
  | nil=>rename_i h;simp at h
  | cons x l=>simp;omega
theorem PH {l:List Pg.D}(h:∀ d ∈ l,∃ d0,d=fit d0):(l.map PF).map Ay.D=l:=by
 rw[List.map_map];refine (List.map_congr_left fun d hd=>?_).trans (List.map_id' l)
 obtain⟨d0,rfl⟩:=h d hd;exact (Mj d0).2.1
def uo (raw:List (List (List Pg.D))):List (List (List Ay)):=(zt raw).map vs
theorem SL (raw:List (List (List Pg.D))):(uo raw).length=(zt raw).length:=by unfold uo;rw[Qg]
theorem Q3 (raw:List (List (List Pg.D))):D4 (uo raw):=by
 obtain⟨h1,h4⟩:=lj raw;have hl:=SL raw;refine⟨by omega,by omega,fun p hp=>?_⟩
 obtain⟨t,ht,rfl⟩:=Qt.1 hp;obtain⟨q1,q2⟩:=uz ht;refine⟨by unfold vs;rw[Qg];omega,fun ds hds=>?_⟩
 obtain⟨l,hl,rfl⟩:=Qt.1 hds;obtain⟨hne,h6,hf⟩:=q2 l hl;have hpos:0<l.length:=List.length_pos_iff.2 hne;refine⟨by rw[Qg];omega,by rw[Qg];omega,fun d hd=>?_⟩
 obtain⟨p,hp,rfl⟩:=Qt.1 hd;obtain⟨d0,rfl⟩:=hf p hp;obtain⟨a,b,_⟩:=Mj d0;exact⟨a,by rw[b];exact XY d0⟩
theorem N9 {W:World}{o:Own}{tg:Tag}{v:Value}{raw:List (List (List Pg.D))}(h:FT tg W o v (zt raw)):RT W v (uo raw):=by
 obtain⟨h0,us,h1,h2,h3⟩:=h;have hl:=SL raw;refine⟨by omega,us,o,tg,by rw[hl];exact h1,by rw[hl];exact h2,fun j bs hj=>?_⟩
 unfold uo at hj;rw[Qj]at hj;obtain⟨t,ht,rfl⟩:=Option.map_eq_some_iff.1 hj;obtain⟨u,hu,k0,us',k1,k2,k3⟩:=h3 j t ht;have hm:=(uz (Qe ht)).2;have hvl:(vs t).length=t.length:=by unfold vs;rw[Qg]
 refine⟨u,hu,by omega,us',o,(1,0),by rw[hvl];exact k1,by rw[hvl];exact k2,fun i l hi=>?_⟩
 unfold vs at hi;rw[Qj]at hi;obtain⟨l0,hl0,rfl⟩:=Option.map_eq_some_iff.1 hi;obtain⟨u',hu',d0,d1⟩:=k3 i l0 hl0;have e:=PH (hm l0 (Qe hl0)).2.2;exact⟨u',hu',by rw[Qg];omega,o,(1,0),by rw[e,Qg];exact d1⟩
theorem L5 {w:World}{b o:Nat}{v:Value}(h:w.cell? ⟨b,o,none⟩=some v):b<w.heap.size:=by
 unfold World.cell? at h;split at h
 ·rename_i h';exact (Qf.1 h').1
 ·cases h
theorem laidOut:laidOutB Tryz.prog=true:=by kernel_rfl
theorem qmv {H:Type}{enc:TypeId×Value->H}{W W':World}(hb:Below W.heap.size W W'):∀ (ts:List TypeId),(∀ t ∈ ts,Tryz.prog.readableRec t=true/\t<Tryz.prog.types.size) ->
  ∀ (vs:List Value)(ds:List (DataW H))(ps:List MemPlace),DataW.TrodAll enc Tryz.prog W 0 (fun _=>true) true ts vs ds ps ->
  (∃ qs,DataW.TrodAll enc Tryz.prog W' 0 (fun b=>decide (b<W.heap.size)) true ts vs ds qs/\qs=ps):=by
 intro ts;induction ts with
 | nil =>
  intro _ vs ds ps h
  cases vs with
  | cons v vs=>exact absurd h (by intro h;cases h)
  | nil =>
   obtain⟨rfl,rfl⟩:ds=[]/\ps=[]:=by
    have:=trodAll_nil h;simp_all
   exact⟨_,trodAll_mk0,rfl⟩
 | cons t ts ih =>
  intro hh vs ds ps h;obtain⟨v0,vs0,d0,ds0,p0,q0,rfl,rfl,rfl,h0,r0⟩:=trodAll_cons h;obtain⟨hr,hsz⟩:=hh t (.head _);have lt0:∀ x ∈ p0,x.block<W.heap.size:=by obtain⟨m,hm⟩:=h0;exact DataW.trod_lt m _ _ _ hm
  obtain⟨qs,hq,rfl⟩:=ih (fun u hu=>hh u (.tail _ hu)) _ _ _ r0
  exact⟨_,trodAll_cons_mk (Below.trod laidOut hr hsz h0 hb lt0) hq,rfl⟩
end Go.Proofs.YteehgedabdchcaaGreat
