import Derived.Test.YteehgedabdchcaaGreatKbj
import Derived.Test.YteehgedabdchcaaGreatKbk
set_option linter.all false
set_option maxRecDepth 1000000
set_option maxHeartbeats 0
open Int renaming le_refl->Ad
namespace Go.Proofs.YteehgedabdchcaaGreat
section
open Go.RowKit Hp
attribute [local go_sem ↓] Go.wp_at_zero Go.wp_at_succ
def An.B4 (S:An)(i:Nat)(h:AE):TR:=
 if (S.AL i).e=0 then⟨(S.AL i).S,⟨h.b+1,0,h.r,h.r,false⟩,⟨3,0,(S.AL i).v⟩⟩ else⟨(S.AL i).S,h.back,⟨3,(S.AL i).e,0⟩⟩
def An.CB (S:An)(i:Nat)(l:Nat)(h:AE):TR:=
 if (S.AW i).2=0 then⟨(S.AW i).1,⟨h.b,0,h.r,h.r,true⟩,⟨1,0,S.now⟩⟩ else⟨(S.AW i).1,⟨l,h.n,h.r,h.s,h.l⟩,⟨1,(S.AW i).2,0⟩⟩
def An.Bf (S:An)(i:Nat)(l:List (List As))(h:AE):TR:=
 if (l.length:Int)<=h.b then⟨S,h,⟨0,0,0⟩⟩
 else if h.l=false then S.CB i l.length h
 else match (l.getD h.b.toNat [])[h.n.toNat]? with
 | none=>S.B4 i h
 | some d=>S.A4 i h d
structure Wn (S:An)(i:Nat)(l:List (List As))(h:AE):Prop where
 inv:Inv S
 lt:i<S.Au.length
 lv:(S.t i).live=h.l
 rg:RU S h.r
 n:0<=h.n/\h.n<=4096
 b:0<=h.b/\h.b<=4096
 dk:∀ ds ∈ l,∀ d ∈ ds,d.ok/\Pg.right d.D=true
section
variable {w w' : World} {o o' : Own} {y : A6} {S : An} {i : Nat}
def qot (hS:Aq w o y S){vb:Value}{l:List (List As)}(hB:CM w vb l)(h:AE)(hT:Wn S i l h) :
  Calls Tryz.prog 93 #[ptr y.sb,.int .i64 i,vb,h.v] w fun e' w'=>e'=.returned (.tuple #[(S.Bf i l h).h.v,(S.Bf i l h).a.val])/\Left y (S.Bf i l h).S o w w':=by
 obtain⟨hb,hn,⟨a0,a1,a2,a3,a4,a5⟩,⟨s0,s1,s2,s3,s4,s5⟩,hl⟩:=h;have hn0:=hT.n;have hb0:=hT.b;have hlv:=hT.lv;simp only at hn0 hb0 hlv;by_cases hd:(l.length:Int)<=hb
 ·have e1:S.Bf i l ⟨hb,hn,⟨a0,a1,a2,a3,a4,a5⟩,⟨s0,s1,s2,s3,s4,s5⟩,hl⟩=⟨S,⟨hb,hn,⟨a0,a1,a2,a3,a4,a5⟩,⟨s0,s1,s2,s3,s4,s5⟩,hl⟩,⟨0,0,0⟩⟩:=if_pos hd
  rw[e1];obtain⟨a,c,rfl,_⟩:=hB;refine (qk3 hb hn a0 a1 a2 a3 a4 a5 s0 s1 s2 s3 s4 s5 hl (ptr y.sb) a l.length c i hd w).mono ?_;rintro e' w' ⟨rfl,h1⟩;exact⟨rfl,o,hS.below h1,hT.inv,Stp.of_below h1⟩
 ·have hb2:hb<(l.length:Int):=by omega
  cases hl with
  | false =>
   have e1:S.Bf i l ⟨hb,hn,⟨a0,a1,a2,a3,a4,a5⟩,⟨s0,s1,s2,s3,s4,s5⟩,false⟩=S.CB i l.length ⟨hb,hn,⟨a0,a1,a2,a3,a4,a5⟩,⟨s0,s1,s2,s3,s4,s5⟩,false⟩:=by unfold An.Bf;rw[if_neg hd,if_pos rfl]
   rw[e1];unfold An.CB;by_cases he:(S.AW i).2=0
   ·rw[if_pos he]
    exact WW hS hb hn a0 a1 a2 a3 a4 a5 s0 s1 s2 s3 s4 s5 vb l hB hb0.1 hb2 hn0.1 _ _ _ (fun X o2 hX=>qnk hX hT.inv hb hn a0 a1 a2 a3 a4 a5 s0 s1 s2 s3 s4 s5 false l.length hT.lt he)
   ·rw[if_neg he]
    exact WW hS hb hn a0 a1 a2 a3 a4 a5 s0 s1 s2 s3 s4 s5 vb l hB hb0.1 hb2 hn0.1 _ _ _ (fun X o2 hX=>qn6 hX hT.inv hb hn a0 a1 a2 a3 a4 a5 s0 s1 s2 s3 s4 s5 false l.length hT.lt he)
  | true =>
   have hc:S.Dg i=true:=decide_eq_true hT.lt;have hlt:hb.toNat<l.length:=by omega
   have e0:l.getD hb.toNat []=l[hb.toNat]:=by rw[Qi,Qb hlt];rfl
   have e1:S.Bf i l ⟨hb,hn,⟨a0,a1,a2,a3,a4,a5⟩,⟨s0,s1,s2,s3,s4,s5⟩,true⟩=match (l[hb.toNat])[hn.toNat]? with
     | none=>S.B4 i ⟨hb,hn,⟨a0,a1,a2,a3,a4,a5⟩,⟨s0,s1,s2,s3,s4,s5⟩,true⟩
     | some d=>S.A4 i ⟨hb,hn,⟨a0,a1,a2,a3,a4,a5⟩,⟨s0,s1,s2,s3,s4,s5⟩,true⟩ d:=by
    unfold An.Bf;rw[if_neg hd,if_neg (by simp)];rw[e0]
   rw[e1]
   cases il:(l[hb.toNat])[hn.toNat]? with
   | none =>
    have hnd:∀ ds,l[hb.toNat]?=some ds->(ds.length:Int)<=hn:=fun ds hds=>by
     rw[Qb hlt]at hds;injection hds with hds;subst hds;have:=List.getElem?_eq_none_iff.1 il;omega
    simp only;unfold An.B4;by_cases he:(S.AL i).e=0
    ·rw[if_pos he]
     exact Wy hS hb hn a0 a1 a2 a3 a4 a5 s0 s1 s2 s3 s4 s5 vb l hB hb0.1 hb2 hn0.1 hnd _ _ _ (fun X o2 hX=>qlk hX hT.inv hb hn a0 a1 a2 a3 a4 a5 s0 s1 s2 s3 s4 s5 true hc he hb0)
    ·rw[if_neg he]
     exact Wy hS hb hn a0 a1 a2 a3 a4 a5 s0 s1 s2 s3 s4 s5 vb l hB hb0.1 hb2 hn0.1 hnd _ _ _ (fun X o2 hX=>qk8 hX hT.inv hb hn a0 a1 a2 a3 a4 a5 s0 s1 s2 s3 s4 s5 true hc he)
   | some d =>
    obtain⟨hdo,FE⟩:=hT.dk (l[hb.toNat]) (List.getElem_mem hlt) d (Qe il);simp only;exact qkw hS hb hn a0 a1 a2 a3 a4 a5 s0 s1 s2 s3 s4 s5 vb l hB hb0.1 hb2 hn0.1 d ⟨_,Qb hlt,il⟩ FE _ _ _ (fun X o2 hX=>qo9 hX ⟨hb,hn,⟨a0,a1,a2,a3,a4,a5⟩,⟨s0,s1,s2,s3,s4,s5⟩,true⟩ d hdo ⟨hT.inv,hc,hlv,hT.rg,hn0,hb0⟩)
end
end
section
open Hp
structure Ty (i:Nat)(S S':An):Prop where
 len:S'.Au.length=S.Au.length
 Ls:∀ j,j≠i->S'.t j=S.t j
 most:S'.most=S.most
 next:S'.next=S.next
 came:S'.came=S.came
 lost:S'.lost=S.lost
 ph:S'.ph=S.ph
section
variable {i : Nat} {S S' S2 : An}
def Ty.refl (i:Nat)(S:An):Ty i S S:=⟨rfl,fun _ _=>rfl,rfl,rfl,rfl,rfl,rfl⟩
def Mv.ty (m:Mv i S S'):Ty i S S':=⟨m.len,m.Ls,m.most,m.next,m.came,m.lost,m.ph⟩
def Ed.ty (m:Ed i S S'):Ty i S S':=⟨m.len,m.Ls,m.most,m.next,m.came,m.lost,m.ph⟩
def Pk (H:Hp)(p j:Nat):(H.Cy p j).2=0\/(H.Cy p j).2=70\/(H.Cy p j).2=71:=by
 unfold Hp.Cy;split
 ·simp
 ·split<;>simp
def Ki (H:Hp)(p j:Nat):(H.Bi p j).2.2=0\/(H.Bi p j).2.2=70\/(H.Bi p j).2.2=71:=by
 unfold Hp.Bi;split
 ·simp
 ·split
  ·simp
  ·split<;>simp
def KF (H:Hp)(p j:Nat)(n:Int):(H.BO p j n).2=0\/(H.BO p j n).2=70\/(H.BO p j n).2=71:=by
 unfold Hp.BO;split
 ·simp
 ·split<;>simp
def KG (H:Hp)(p j q:Nat):(H.Br p j q).2=0\/(H.Br p j q).2=70\/(H.Br p j q).2=71:=by
 unfold Hp.Br;split
 ·simp
 ·split
  ·simp
  ·split<;>simp
def qkk (H:Hp)(p:Nat)(b:Bool):(H.A1 p b).2=0\/(H.A1 p b).2=70:=by
 unfold Hp.A1;split<;>simp
def VW (S:An)(i p:Nat):(S.AO i p).2.1=0\/(S.AO i p).2.1=143\/(S.AO i p).2.1=70\/(S.AO i p).2.1=141\/(S.AO i p).2.1=142\/(S.AO i p).2.1=130:=by
 unfold An.AO;split
 ·simp
 ·split
  ·simp
  ·split
   ·simp
   ·simp only
    split
    ·split<;>simp
    ·simp
def TD (S:An)(i p:Nat):(S.Ar i p).2≠140:=by
 unfold An.Ar;simp only;split
 ·split<;>simp
 ·rcases VW S i p with h|h|h|h|h|h<;>rw[h]<;>simp
def GB (S:An)(i p:Nat)(u:Un)(set:Hp->Hp×Nat)(h:∀ H,(set H).2≠140):(S.B5 i p u set).e≠140:=by
 unfold An.B5;split
 ·simp
 ·split
  ·simp
  ·simp only;have:=h (((S.Be i p).1.BW i u).1.H);omega
def Kq (S:An)(i p j:Nat):(S.CE i p j).e≠140:=by
 unfold An.CE;split
 ·exact TD S i p
 ·simp only;have:=Pk (S.Ar i p).1.H p j;omega
def Pb (S:An)(i p j:Nat):(S.Dd i p j).e≠140:=by
 unfold An.Dd;split
 ·exact TD S i p
 ·simp only;have:=Ki (S.Ar i p).1.H p j;omega
def qm2 (S:An)(i p j:Nat)(v:Int):(S.BH i p j v).e≠140:=by
 unfold An.BH;split
 ·exact TD S i p
 ·split
  ·simp only;have:=Pk (S.Ar i p).1.H p j;omega
  ·exact GB _ _ _ _ _ fun H=>by have:=KF H p j v;omega
def Po (S:An)(i p j q:Nat):(S.Dr i p j q).e≠140:=by
 unfold An.Dr;split
 ·simp
 ·unfold An.C8
  split
  ·exact TD S i p
  ·split
   ·simp only;have:=Ki (S.Ar i p).1.H p j;omega
   ·exact GB _ _ _ _ _ fun H=>by have:=KG H p j q;omega
def Hu (S:An)(i p:Nat):(S.Cj i p).e≠140:=by
 unfold An.Cj;split
 ·rcases VW S i p with h|h|h|h|h|h<;>simp only[h]<;>simp
 ·exact GB _ _ _ _ _ fun H=>by have:=qkk H p true;omega
def Ph (S:An)(i:Nat)(s:BX):(S.Bq i s).2.2=0\/(S.Bq i s).2.2=100\/(S.Bq i s).2.2=130:=by
 unfold An.Bq;split
 ·simp
 ·split<;>simp
def TL (S:An)(i:Nat)(s:BX):(S.AR i s).e≠140:=by
 have:=Ph S i s;show (S.Bq i s).2.2≠140;omega
def Le (S:An)(i q:Nat):(S.BG i q).e≠140:=by
 unfold An.BG;split
 ·simp
 ·split
  ·simp
  ·split
   ·have:=Ph S i DF;simp only;omega
   ·simp
def JI (S:An)(i p:Nat):(S.B8 i p).e≠140:=by
 unfold An.B8;split
 ·rcases VW S i p with h|h|h|h|h|h<;>simp only[h]<;>simp
 ·split
  ·simp
  ·split
   ·simp only;have:=Ki (S.AO i p).1.H p 0;omega
   ·unfold An.CP
    split
    ·simp
    ·split<;>simp
def KQ (S:An)(i:Nat):(S.Ca i).e=0\/(S.Ca i).e=141:=by
 unfold An.Ca;split
 ·simp
 ·split
  ·simp
  ·split<;>simp
def qhw (S:An)(i:Nat):(S.AY i).e=0\/(S.AY i).e=141:=by
 unfold An.AY;split
 ·simp
 ·split<;>simp
def L6 {r:BD}{i:Nat}(h:∃ p:Nat,r.v=p):∃ p:Nat,(r.fin i).v=p:=by
 unfold BD.fin;split
 ·exact⟨0,rfl⟩
 ·split
  ·exact h
  ·exact⟨0,rfl⟩
def fj {S:An}{r:BD}{i:Nat}(h:∃ p:Nat,r.v=p):∃ p:Nat,(S.AG i r).v=p:=by
 unfold An.AG;split
 ·exact L6 h
 ·exact⟨0,rfl⟩
def YV (S:An)(i:Nat)(s:BX):∃ p:Nat,(S.alloc i s).v=p:=fj ⟨_,rfl⟩
def Lh (S:An)(i q:Nat):∃ p:Nat,(S.Az i q).v=p:=fj (by
 unfold An.BG;split
 ·exact⟨0,rfl⟩
 ·split
  ·exact⟨0,rfl⟩
  ·split
   ·exact⟨0,rfl⟩
   ·exact⟨_,rfl⟩)
def Ml (S:An)(i p j:Nat):∃ q:Nat,(S.get i p j).v=q:=fj (by
 unfold An.Dd;split
 ·exact⟨0,rfl⟩
 ·exact⟨_,rfl⟩)
def JK (S:An)(i p:Nat):∃ q:Nat,(S.load i p).v=q:=fj (by
 unfold An.B8;split
 ·exact⟨0,rfl⟩
 ·split
  ·exact⟨0,rfl⟩
  ·split
   ·exact⟨0,rfl⟩
   ·unfold An.CP
    split
    ·exact⟨0,rfl⟩
    ·split
     ·exact⟨_,rfl⟩
     ·exact⟨0,rfl⟩)
def KS (S:An)(i:Nat):∃ q:Nat,(S.take i).v=q:=fj (by
 unfold An.Ca;split
 ·exact⟨0,rfl⟩
 ·split
  ·exact⟨0,rfl⟩
  ·split
   ·exact⟨0,rfl⟩
   ·exact⟨_,rfl⟩)
def E5 (r:R6):Prop:=∀ j,j<6->∃ p:Nat,r.get j=p
def E5.rgs {r:R6}(h:E5 r)(S:An):RU S r:=fun j hj=>let⟨p,hp⟩:=h j hj;⟨p,hp,trivial⟩
def E5.set {r:R6}(h:E5 r){A:Nat}(hA:A<6){v:Int}(hv:∃ p:Nat,v=p):E5 (r.set v A):=by
 intro j hj;rcases six hA with rfl|rfl|rfl|rfl|rfl|rfl<;>rcases six hj with rfl|rfl|rfl|rfl|rfl|rfl<;>first|exact hv|exact h 0 (by omega)|exact h 1 (by omega)|exact h 2 (by omega)|exact h 3 (by omega)|exact h 4 (by omega)|exact h 5 (by omega)
structure Cl (l:List (List As))(h:AE):Prop where
 r:E5 h.r
 s:E5 h.s
 n:0<=h.n
 b:0<=h.b/\h.b<=l.length
 at':h.l=true->h.b<l.length/\h.n<=(l.getD h.b.toNat []).length
 idle:h.l=false->h.n=0/\h.r=h.s
def Cl.back {l:List (List As)}{h:AE}(t:Cl l h):Cl l h.back:=
 ⟨t.s,t.s,Ad _,t.b,fun h=>by simp[AE.back]at h,fun _=>⟨rfl,rfl⟩⟩
def Cl.NY {l:List (List As)}{h:AE}(t:Cl l h)(hl:h.l=true):Cl l { h.back with b:=h.b+1 }:=by
 have hb:=t.b;have:=(t.at' hl).1;exact⟨t.s,t.s,Ad _,⟨by simp only;omega,by simp only;omega⟩,fun h=>by simp[AE.back]at h,fun _=>⟨rfl,rfl⟩⟩
def Cl.on {l:List (List As)}{h:AE}(t:Cl l h)(hl:h.l=true)(hn:h.n<(l.getD h.b.toNat []).length):Cl l { h with n:=h.n+1 }:=by
 have:=t.n;exact⟨t.r,t.s,by simp only;omega,t.b,fun _=>⟨(t.at' hl).1,by simp only;omega⟩,fun h'=>by simp only at h';rw[hl]at h';cases h'⟩
def Cl.put {l:List (List As)}{h:AE}(t:Cl l h)(hl:h.l=true){A:Nat}(hA:A<6){v:Int}(hv:∃ p:Nat,v=p):Cl l (h.put A v):=
 ⟨t.r.set hA hv,t.s,t.n,t.b,t.at',fun h'=>by have:h.l=false:=h';rw[hl]at this;cases this⟩
structure Fv (l:List (List As))(S:An)(i:Nat)(h:AE):Prop where
 th:Cl l h
 lv:(S.t i).live=h.l
def EC {e:Int}:D5 e=true↔e=141\/e=130\/e=100:=by unfold D5;simp only[Bool.or_eq_true,beq_iff_eq,or_assoc]
def qmc {l:List (List As)}{h h':AE}{r:BD}(t:Cl l h)(hl:h.l=true)(hn:h.n<(l.getD h.b.toNat []).length)(hlv:(S.t i).live=true)(hi:i<S.Au.length)(m:Mv i S r.S)(he:r.e≠140)
  (t':Cl l h')(e1:h'.b=h.b)(e2:h'.n=h.n)(e3:h'.l=h.l)(e4:h'.s=h.s) :
  Fv l (S.AG i r).S i (if (S.AG i r).e=0 then h'.ended 0 else h.ended (S.AG i r).e)/\Ty i S (S.AG i r).S:=by
 rcases LV m hi hlv with⟨h1,h2,_,h4⟩|⟨h1,h2,h4⟩
 ·rw[h4]
  have ha:=EC.1 h1;refine⟨⟨?_,?_⟩,h2.ty⟩
  ·rw[if_neg (by omega)]
   unfold AE.ended;by_cases rD:r.e=141
   ·rw[if_pos (.inl rD)];exact t.back
   ·rw[if_neg (by omega),if_pos (by omega)];exact t.NY hl
  ·rw[h2.dead,if_neg (by omega)]
   unfold AE.ended;by_cases rD:r.e=141
   ·rw[if_pos (.inl rD)];rfl
   ·rw[if_neg (by omega),if_pos (by omega)];rfl
 ·rw[h4]
  have ha:¬(r.e=141\/r.e=130\/r.e=100):=fun h=>by rw[EC.2 h]at h1;cases h1
  refine⟨?_,h2.ty⟩;by_cases h0:r.e=0
  ·rw[if_pos h0]
   unfold AE.ended;rw[if_neg (by omega),if_neg (by omega)]
   refine⟨t'.on (by rw[e3];exact hl) (by rw[e1,e2];exact hn),?_⟩
   rw[h2.lv,hlv];show true=h'.l;rw[e3,hl]
  ·rw[if_neg h0]
   unfold AE.ended;rw[if_neg (by omega),if_neg (by omega)]
   exact⟨t.on hl hn,by rw[h2.lv,hlv];exact hl.symm⟩
def qpm {h:AE}{e:Int}:(if e=0 then h.ended 0 else h.ended e)=h.ended e:=by
 split
 ·rename_i h0;rw[h0]
 ·rfl
def RJ {l:List (List As)}{h:AE}{r:BD}(t:Cl l h)(hl:h.l=true)(hn:h.n<(l.getD h.b.toNat []).length)(hlv:(S.t i).live=true)(hi:i<S.Au.length)(m:Mv i S r.S)(he:r.e≠140){A:Nat}(hA:A<6)(hv:∃ p:Nat,(S.AG i r).v=p) :
  Fv l (di (S.AG i r) h A).S i (di (S.AG i r) h A).h/\Ty i S (di (S.AG i r) h A).S:=
 qmc t hl hn hlv hi m he (t.put hl hA hv) rfl rfl rfl rfl
def TX {l:List (List As)}{h:AE}{r:BD}(t:Cl l h)(hl:h.l=true)(hn:h.n<(l.getD h.b.toNat []).length)(hlv:(S.t i).live=true)(hi:i<S.Au.length)(m:Mv i S r.S)(he:r.e≠140)(v:Int) :
  Fv l (xu (S.AG i r).S v (S.AG i r).e h).S i (xu (S.AG i r).S v (S.AG i r).e h).h/\Ty i S (xu (S.AG i r).S v (S.AG i r).e h).S:=by
 have:=qmc t hl hn hlv hi m he t rfl rfl rfl rfl;rw[qpm]at this;exact this
def qh6 {l:List (List As)} {h:AE} (t:Cl l h) (hl:h.l=true) (hn:h.n<(l.getD h.b.toNat []).length) (hlv:(S.t i).live=true) (hi:i<S.Au.length) {d:As} (hd:d.ok) :
  Fv l (S.A4 i h d).S i (S.A4 i h d).h/\Ty i S (S.A4 i h d).S:=by
 have hk:=hd.k;by_cases k1:d.k=1
 ·rw[Tt _ _ _ _ k1];exact RJ t hl hn hlv hi (Mv.AR _ _ _) (TL _ _ _) hd.A (YV _ _ _)
 by_cases k2:d.k=2
 ·rw[lw _ _ _ _ k2];exact RJ t hl hn hlv hi (Mv.AR _ _ _) (TL _ _ _) hd.A (YV _ _ _)
 by_cases k3:d.k=3
 ·rw[TB _ _ _ _ k3];exact RJ t hl hn hlv hi (Mv.BG _ _ _) (Le _ _ _) hd.A (Lh _ _ _)
 by_cases k4:d.k=4
 ·rw[TA _ _ _ _ k4];exact RJ t hl hn hlv hi (Mv.Dd _ _ _ _) (Pb _ _ _ _) hd.A (Ml _ _ _ _)
 by_cases k9:d.k=9
 ·rw[lj _ _ _ _ k9];exact RJ t hl hn hlv hi (Mv.B8 _ _ _) (JI _ _ _) hd.A (JK _ _ _)
 by_cases k10:d.k=10
 ·rw[bp _ _ _ _ k10];exact RJ t hl hn hlv hi (Mv.Ca _ _) (by have:=KQ S i;omega) hd.A (KS _ _)
 by_cases k5:d.k=5
 ·rw[Ts _ _ _ _ k5];exact TX t hl hn hlv hi (Mv.Dr _ _ _ _ _) (Po _ _ _ _ _) _
 by_cases k6:d.k=6
 ·rw[ly _ _ _ _ k6];exact TX t hl hn hlv hi (Mv.CE _ _ _ _) (Kq _ _ _ _) _
 by_cases k7:d.k=7
 ·rw[lz _ _ _ _ k7];exact TX t hl hn hlv hi (Mv.BH _ _ _ _ _) (qm2 _ _ _ _ _) _
 by_cases k8:d.k=8
 ·rw[lr _ _ _ _ k8];exact TX t hl hn hlv hi (Mv.Cj _ _ _) (Hu _ _ _) _
 by_cases k11:d.k=11
 ·rw[cj _ _ _ _ k11]
  exact⟨⟨t.on hl hn,hlv.trans hl.symm⟩,Ty.refl _ _⟩
 by_cases k12:d.k=12
 ·rw[bq _ _ _ _ k12]
  exact⟨⟨(t.put hl hd.A ⟨_,rfl⟩).on hl hn,hlv.trans hl.symm⟩,Ty.refl _ _⟩
 by_cases k13:d.k=13
 ·rw[cg _ _ _ _ k13]
  exact⟨⟨(t.put hl hd.A ⟨0,rfl⟩).on hl hn,hlv.trans hl.symm⟩,Ty.refl _ _⟩
 ·rw[ce _ _ _ _ (by omega)]
  have e:=Ed.abort (S:=S) hi;exact⟨⟨t.NY hl,e.dead⟩,e.ty⟩
def qey {l:List (List As)}{h:AE}(t:Cl l h)(hl:h.l=true)(hlv:(S.t i).live=true)(hi:i<S.Au.length) :
  Fv l (S.B4 i h).S i (S.B4 i h).h/\Ty i S (S.B4 i h).S:=by
 have e1:S.AL i=(S.AY i).fin i:=if_pos hlv;have hb:=t.b;have hlt:=(t.at' hl).1;unfold An.B4;rcases qhw S i with h0|h0
 ·have hf:(S.AY i).fin i=S.AY i:=by unfold BD.fin;rw[if_neg (by rw[h0];decide),if_pos h0]
  rw[e1,hf,if_pos h0];have hc:(S.AY i).S=S.tx i (S.t i).ended\/(S.AY i).S=(S.CF i).tx i (S.t i).ended:=by
   unfold An.AY at h0 ⊢;by_cases a:(S.t i).log.holds=[]/\S.Av≠(i:Int)
   ·rw[if_pos a];exact .inl rfl
   ·rw[if_neg a]at h0 ⊢
    by_cases c:S.B2 i=true
    ·rw[if_pos c]at h0;simp at h0
    ·rw[if_neg c];exact .inr rfl
  have ht:∀ j,(S.CF i).t j=S.t j:=fun j=>by unfold An.CF;split<;>rfl
  have hl':(S.CF i).Au.length=S.Au.length:=by unfold An.CF;split<;>rfl
  refine⟨⟨⟨t.r,t.r,Ad _,⟨by simp only;omega,by simp only;omega⟩,fun h=>(by simp at h),fun _=>⟨rfl,rfl⟩⟩,?_⟩,?_⟩
  ·rcases hc with hc|hc
   ·simp only[hc,An.FM hi];rfl
   ·simp only[hc,An.FM (show i<(S.CF i).Au.length by omega)];rfl
  ·rcases hc with hc|hc
   ·simp only[hc]
    exact⟨An.Cq _ _ _,fun j h=>An.EL _ (fun e=>h e.symm) _,rfl,rfl,rfl,rfl,rfl⟩
   ·simp only[hc]
    refine⟨(An.Cq _ _ _).trans hl',fun j h=>(An.EL _ (fun e=>h e.symm) _).trans (ht j),?_,?_,?_,?_,?_⟩
    all_goals (unfold An.tx An.CF;split<;>rfl)
 ·have hs:(S.AY i).S=S:=by
   unfold An.AY at h0 ⊢;by_cases a:(S.t i).log.holds=[]/\S.Av≠(i:Int)
   ·rw[if_pos a]at h0;simp at h0
   ·rw[if_neg a]at h0 ⊢
    by_cases c:S.B2 i=true
    ·rw[if_pos c]
    ·rw[if_neg c]at h0;simp at h0
  have hf:(S.AY i).fin i=⟨S.abort i,0,141⟩:=by unfold BD.fin;rw[if_pos (by rw[h0];decide),hs,h0]
  rw[e1,hf,if_neg (by simp)]
  have e:=Ed.abort (S:=S) hi;exact⟨⟨t.back,e.dead⟩,e.ty⟩
def qgw {l:List (List As)}{h:AE}(t:Cl l h)(hl:h.l=false)(hb:h.b<l.length)(hlv:(S.t i).live=false)(hi:i<S.Au.length) :
  Fv l (S.CB i l.length h).S i (S.CB i l.length h).h/\Ty i S (S.CB i l.length h).S:=by
 have hb0:=t.b;have e:S.AW i=if S.now+(kp S.Au+1)<=S.most then (S.tx i ((S.t i).begun S.now S.next),0) else (S,120):=by
  unfold An.AW;rw[if_neg (by rw[hlv];simp)]
 unfold An.CB;by_cases m:S.now+(kp S.Au+1)<=S.most
 ·rw[if_pos m]at e
  rw[e,if_pos rfl];refine⟨⟨⟨t.r,t.r,Ad _,t.b,fun _=>⟨hb,Int.natCast_nonneg _⟩,fun h=>(by simp at h)⟩,?_⟩,?_⟩
  ·simp only[An.FM hi];rfl
  ·exact⟨An.Cq _ _ _,fun j h=>An.EL _ (fun e=>h e.symm) _,rfl,rfl,rfl,rfl,rfl⟩
 ·rw[if_neg m]at e
  rw[e,if_neg (by simp)]
  exact⟨⟨⟨t.r,t.s,t.n,⟨by simp only;omega,Ad _⟩,fun h'=>(by simp only at h';rw[hl]at h';cases h'),fun _=>t.idle hl⟩,by simp only;rw[hlv,hl]⟩,Ty.refl _ _⟩
def qi2 {l:List (List As)}{h:AE}(t:Fv l S i h)(hi:i<S.Au.length)(hd:∀ ds ∈ l,∀ d ∈ ds,d.ok) :
  Fv l (S.Bf i l h).S i (S.Bf i l h).h/\Ty i S (S.Bf i l h).S:=by
 unfold An.Bf;have hb:=t.th.b;have hn:=t.th.n;split
 ·exact⟨t,Ty.refl _ _⟩
 ·rename_i h1
  split
  ·rename_i h2
   exact qgw t.th h2 (by omega) (t.lv.trans h2) hi
  ·rename_i h2
   have hl:h.l=true:=by simpa using h2
   have hlv:=t.lv.trans hl;have hat:=t.th.at' hl;split
   ·exact qey t.th hl hlv hi
   ·rename_i d il
    have hlt:h.b.toNat<l.length:=by omega
    have e0:l.getD h.b.toNat []=l[h.b.toNat]:=by rw[Qi,Qb hlt];rfl
    have hdd:d.ok:=by
     rw[e0]at il;exact hd _ (List.getElem_mem hlt) d (Qe il)
    refine qh6 t.th hl ?_ hlv hi hdd;have:=(Qc.1 il).1;omega
