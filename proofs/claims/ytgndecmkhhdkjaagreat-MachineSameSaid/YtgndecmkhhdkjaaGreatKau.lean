import Derived.Test.YtgndecmkhhdkjaaGreatKas
import Derived.Test.YtgndecmkhhdkjaaGreatKat
set_option linter.all false
set_option maxRecDepth 1000000
set_option maxHeartbeats 0
open Int renaming le_refl->Ad
namespace Go.Proofs.YtgndecmkhhdkjaaGreat
section
open Go.RowKit Hp
attribute [local go_sem ↓] Go.wp_at_zero Go.wp_at_succ
def Am.BC (S:Am)(i:Nat)(h:AE):TR:=
 if (S.Bq i).e=0 then⟨(S.Bq i).S,⟨h.b+1,0,h.r,h.r,false⟩,⟨3,0,(S.Bq i).v⟩⟩ else⟨(S.Bq i).S,h.back,⟨3,(S.Bq i).e,0⟩⟩
def Am.BX (S:Am)(i:Nat)(l:Nat)(h:AE):TR:=
 if (S.AS i).2=0 then⟨(S.AS i).1,⟨h.b,0,h.r,h.r,true⟩,⟨1,0,S.now⟩⟩ else⟨(S.AS i).1,⟨l,h.n,h.r,h.s,h.l⟩,⟨1,(S.AS i).2,0⟩⟩
def Am.Bd (S:Am)(i:Nat)(l:List (List AD))(h:AE):TR:=
 if (l.length:Int)<=h.b then⟨S,h,⟨0,0,0⟩⟩
 else if h.l=false then S.BX i l.length h
 else match (l.getD h.b.toNat [])[h.n.toNat]? with
 | none=>S.BC i h
 | some d=>S.A7 i h d
structure Vt (S:Am)(i:Nat)(l:List (List AD))(h:AE):Prop where
 inv:Inv S
 lt:i<S.Au.length
 lv:(S.t i).live=h.l
 rg:Q0 S h.r
 n:0<=h.n/\h.n<=4096
 b:0<=h.b/\h.b<=4096
 dk:∀ ds ∈ l,∀ d ∈ ds,d.ok/\Pg.right d.D=true
section
variable {w w' : World} {o o' : Own} {y : Bl} {S : Am} {i : Nat}
def qpv (hS:Av w o y S){vb:Value}{l:List (List AD)}(hB:Dw w vb l)(h:AE)(hT:Vt S i l h) :
  Calls Tryz.prog 29 #[ptr y.sb,.int .i64 i,vb,h.v] w fun e' w'=>e'=.returned (.tuple #[(S.Bd i l h).h.v,(S.Bd i l h).a.val])/\Left y (S.Bd i l h).S o w w':=by
 obtain⟨hb,hn,⟨a0,a1,a2,a3,a4,a5⟩,⟨s0,s1,s2,s3,s4,s5⟩,hl⟩:=h;have hn0:=hT.n;have hb0:=hT.b;have hlv:=hT.lv;simp only at hn0 hb0 hlv;by_cases hd:(l.length:Int)<=hb
 ·have e1:S.Bd i l ⟨hb,hn,⟨a0,a1,a2,a3,a4,a5⟩,⟨s0,s1,s2,s3,s4,s5⟩,hl⟩=⟨S,⟨hb,hn,⟨a0,a1,a2,a3,a4,a5⟩,⟨s0,s1,s2,s3,s4,s5⟩,hl⟩,⟨0,0,0⟩⟩:=if_pos hd
  rw[e1];obtain⟨a,c,rfl,_⟩:=hB;refine (qmp hb hn a0 a1 a2 a3 a4 a5 s0 s1 s2 s3 s4 s5 hl (ptr y.sb) a l.length c i hd w).mono ?_;rintro e' w' ⟨rfl,h1⟩;exact⟨rfl,o,hS.below h1,hT.inv,Stp.of_below h1⟩
 ·have hb2:hb<(l.length:Int):=by omega
  cases hl with
  | false =>
   have e1:S.Bd i l ⟨hb,hn,⟨a0,a1,a2,a3,a4,a5⟩,⟨s0,s1,s2,s3,s4,s5⟩,false⟩=S.BX i l.length ⟨hb,hn,⟨a0,a1,a2,a3,a4,a5⟩,⟨s0,s1,s2,s3,s4,s5⟩,false⟩:=by unfold Am.Bd;rw[if_neg hd,if_pos rfl]
   rw[e1];unfold Am.BX;by_cases he:(S.AS i).2=0
   ·rw[if_pos he]
    exact V4 hS hb hn a0 a1 a2 a3 a4 a5 s0 s1 s2 s3 s4 s5 vb l hB hb0.1 hb2 hn0.1 _ _ _ (fun X o2 hX=>qpk hX hT.inv hb hn a0 a1 a2 a3 a4 a5 s0 s1 s2 s3 s4 s5 false l.length hT.lt he)
   ·rw[if_neg he]
    exact V4 hS hb hn a0 a1 a2 a3 a4 a5 s0 s1 s2 s3 s4 s5 vb l hB hb0.1 hb2 hn0.1 _ _ _ (fun X o2 hX=>qqi hX hT.inv hb hn a0 a1 a2 a3 a4 a5 s0 s1 s2 s3 s4 s5 false l.length hT.lt he)
  | true =>
   have hc:S.DY i=true:=decide_eq_true hT.lt;have hlt:hb.toNat<l.length:=by omega
   have e0:l.getD hb.toNat []=l[hb.toNat]:=by rw[Qi,Qb hlt];rfl
   have e1:S.Bd i l ⟨hb,hn,⟨a0,a1,a2,a3,a4,a5⟩,⟨s0,s1,s2,s3,s4,s5⟩,true⟩=match (l[hb.toNat])[hn.toNat]? with
     | none=>S.BC i ⟨hb,hn,⟨a0,a1,a2,a3,a4,a5⟩,⟨s0,s1,s2,s3,s4,s5⟩,true⟩
     | some d=>S.A7 i ⟨hb,hn,⟨a0,a1,a2,a3,a4,a5⟩,⟨s0,s1,s2,s3,s4,s5⟩,true⟩ d:=by
    unfold Am.Bd;rw[if_neg hd,if_neg (by simp)];rw[e0]
   rw[e1]
   cases iE:(l[hb.toNat])[hn.toNat]? with
   | none =>
    have hnd:∀ ds,l[hb.toNat]?=some ds->(ds.length:Int)<=hn:=fun ds hds=>by
     rw[Qb hlt]at hds;injection hds with hds;subst hds;have:=List.getElem?_eq_none_iff.1 iE;omega
    simp only;unfold Am.BC;by_cases he:(S.Bq i).e=0
    ·rw[if_pos he]
     exact VE hS hb hn a0 a1 a2 a3 a4 a5 s0 s1 s2 s3 s4 s5 vb l hB hb0.1 hb2 hn0.1 hnd _ _ _ (fun X o2 hX=>qmc hX hT.inv hb hn a0 a1 a2 a3 a4 a5 s0 s1 s2 s3 s4 s5 true hc he hb0)
    ·rw[if_neg he]
     exact VE hS hb hn a0 a1 a2 a3 a4 a5 s0 s1 s2 s3 s4 s5 vb l hB hb0.1 hb2 hn0.1 hnd _ _ _ (fun X o2 hX=>qm4 hX hT.inv hb hn a0 a1 a2 a3 a4 a5 s0 s1 s2 s3 s4 s5 true hc he)
   | some d =>
    obtain⟨hdo,Gt⟩:=hT.dk (l[hb.toNat]) (List.getElem_mem hlt) d (Qe iE);simp only;exact qmh hS hb hn a0 a1 a2 a3 a4 a5 s0 s1 s2 s3 s4 s5 vb l hB hb0.1 hb2 hn0.1 d ⟨_,Qb hlt,iE⟩ Gt _ _ _ (fun X o2 hX=>qoy hX ⟨hb,hn,⟨a0,a1,a2,a3,a4,a5⟩,⟨s0,s1,s2,s3,s4,s5⟩,true⟩ d hdo ⟨hT.inv,hc,hlv,hT.rg,hn0,hb0⟩)
end
end
section
open Hp
structure Ty (i:Nat)(S S':Am):Prop where
 len:S'.Au.length=S.Au.length
 GK:∀ j,j≠i->S'.t j=S.t j
 most:S'.most=S.most
 next:S'.next=S.next
 came:S'.came=S.came
 lost:S'.lost=S.lost
 ph:S'.ph=S.ph
section
variable {i : Nat} {S S' S2 : Am}
def Ty.refl (i:Nat)(S:Am):Ty i S S:=⟨rfl,fun _ _=>rfl,rfl,rfl,rfl,rfl,rfl⟩
def Mv.ty (m:Mv i S S'):Ty i S S':=⟨m.len,m.GK,m.most,m.next,m.came,m.lost,m.ph⟩
def Ed.ty (m:Ed i S S'):Ty i S S':=⟨m.len,m.GK,m.most,m.next,m.came,m.lost,m.ph⟩
def Nz (H:Hp)(p j:Nat):(H.Cs p j).2=0\/(H.Cs p j).2=70\/(H.Cs p j).2=71:=by
 unfold Hp.Cs;split
 ·simp
 ·split<;>simp
def Ke (H:Hp)(p j:Nat):(H.AY p j).2.2=0\/(H.AY p j).2.2=70\/(H.AY p j).2.2=71:=by
 unfold Hp.AY;split
 ·simp
 ·split
  ·simp
  ·split<;>simp
def Ky (H:Hp)(p j:Nat)(n:Int):(H.BB p j n).2=0\/(H.BB p j n).2=70\/(H.BB p j n).2=71:=by
 unfold Hp.BB;split
 ·simp
 ·split<;>simp
def Kz (H:Hp)(p j q:Nat):(H.Bj p j q).2=0\/(H.Bj p j q).2=70\/(H.Bj p j q).2=71:=by
 unfold Hp.Bj;split
 ·simp
 ·split
  ·simp
  ·split<;>simp
def qmk (H:Hp)(p:Nat)(b:Bool):(H.AX p b).2=0\/(H.AX p b).2=70:=by
 unfold Hp.AX;split<;>simp
def U5 (S:Am)(i p:Nat):(S.AH i p).2.1=0\/(S.AH i p).2.1=143\/(S.AH i p).2.1=70\/(S.AH i p).2.1=141\/(S.AH i p).2.1=142\/(S.AH i p).2.1=130:=by
 unfold Am.AH;split
 ·simp
 ·split
  ·simp
  ·split
   ·simp
   ·simp only
    split
    ·split<;>simp
    ·simp
def Sw (S:Am)(i p:Nat):(S.Aq i p).2≠140:=by
 unfold Am.Aq;simp only;split
 ·split<;>simp
 ·rcases U5 S i p with h|h|h|h|h|h<;>rw[h]<;>simp
def Ha (S:Am)(i p:Nat)(u:Un)(set:Hp->Hp×Nat)(h:∀ H,(set H).2≠140):(S.B9 i p u set).e≠140:=by
 unfold Am.B9;split
 ·simp
 ·split
  ·simp
  ·simp only;have:=h (((S.A5 i p).1.Cq i u).1.H);omega
def PY (S:Am)(i p j:Nat):(S.Ce i p j).e≠140:=by
 unfold Am.Ce;split
 ·exact Sw S i p
 ·simp only;have:=Nz (S.Aq i p).1.H p j;omega
def Rf (S:Am)(i p j:Nat):(S.CK i p j).e≠140:=by
 unfold Am.CK;split
 ·exact Sw S i p
 ·simp only;have:=Ke (S.Aq i p).1.H p j;omega
def Ng (S:Am)(i p j:Nat)(v:Int):(S.Bs i p j v).e≠140:=by
 unfold Am.Bs;split
 ·exact Sw S i p
 ·split
  ·simp only;have:=Nz (S.Aq i p).1.H p j;omega
  ·exact Ha _ _ _ _ _ fun H=>by have:=Ky H p j v;omega
def Ry (S:Am)(i p j q:Nat):(S.CM i p j q).e≠140:=by
 unfold Am.CM;split
 ·simp
 ·unfold Am.DC
  split
  ·exact Sw S i p
  ·split
   ·simp only;have:=Ke (S.Aq i p).1.H p j;omega
   ·exact Ha _ _ _ _ _ fun H=>by have:=Kz H p j q;omega
def Pn (S:Am)(i p:Nat):(S.B4 i p).e≠140:=by
 unfold Am.B4;split
 ·rcases U5 S i p with h|h|h|h|h|h<;>simp only[h]<;>simp
 ·exact Ha _ _ _ _ _ fun H=>by have:=qmk H p true;omega
def Nt (S:Am)(i:Nat)(s:BQ):(S.Bm i s).2.2=0\/(S.Bm i s).2.2=100\/(S.Bm i s).2.2=130:=by
 unfold Am.Bm;split
 ·simp
 ·split<;>simp
def Yj (S:Am)(i:Nat)(s:BQ):(S.AR i s).e≠140:=by
 have:=Nt S i s;show (S.Bm i s).2.2≠140;omega
def QL (S:Am)(i q:Nat):(S.BJ i q).e≠140:=by
 unfold Am.BJ;split
 ·simp
 ·split
  ·simp
  ·split
   ·have:=Nt S i C1;simp only;omega
   ·simp
def Pu (S:Am)(i p:Nat):(S.BZ i p).e≠140:=by
 unfold Am.BZ;split
 ·rcases U5 S i p with h|h|h|h|h|h<;>simp only[h]<;>simp
 ·split
  ·simp
  ·split
   ·simp only;have:=Ke (S.AH i p).1.H p 0;omega
   ·unfold Am.Df
    split
    ·simp
    ·split<;>simp
def QE (S:Am)(i:Nat):(S.Bp i).e=0\/(S.Bp i).e=141:=by
 unfold Am.Bp;split
 ·simp
 ·split
  ·simp
  ·split<;>simp
def Hi (S:Am)(i:Nat):(S.AJ i).e=0\/(S.AJ i).e=141:=by
 unfold Am.AJ;split
 ·simp
 ·split<;>simp
def LS {r:B2}{i:Nat}(h:∃ p:Nat,r.v=p):∃ p:Nat,(r.fin i).v=p:=by
 unfold B2.fin;split
 ·exact⟨0,rfl⟩
 ·split
  ·exact h
  ·exact⟨0,rfl⟩
def bm {S:Am}{r:B2}{i:Nat}(h:∃ p:Nat,r.v=p):∃ p:Nat,(S.AF i r).v=p:=by
 unfold Am.AF;split
 ·exact LS h
 ·exact⟨0,rfl⟩
def Xt (S:Am)(i:Nat)(s:BQ):∃ p:Nat,(S.alloc i s).v=p:=bm ⟨_,rfl⟩
def KZ (S:Am)(i q:Nat):∃ p:Nat,(S.AA i q).v=p:=bm (by
 unfold Am.BJ;split
 ·exact⟨0,rfl⟩
 ·split
  ·exact⟨0,rfl⟩
  ·split
   ·exact⟨0,rfl⟩
   ·exact⟨_,rfl⟩)
def L4 (S:Am)(i p j:Nat):∃ q:Nat,(S.get i p j).v=q:=bm (by
 unfold Am.CK;split
 ·exact⟨0,rfl⟩
 ·exact⟨_,rfl⟩)
def JC (S:Am)(i p:Nat):∃ q:Nat,(S.load i p).v=q:=bm (by
 unfold Am.BZ;split
 ·exact⟨0,rfl⟩
 ·split
  ·exact⟨0,rfl⟩
  ·split
   ·exact⟨0,rfl⟩
   ·unfold Am.Df
    split
    ·exact⟨0,rfl⟩
    ·split
     ·exact⟨_,rfl⟩
     ·exact⟨0,rfl⟩)
def KL (S:Am)(i:Nat):∃ q:Nat,(S.take i).v=q:=bm (by
 unfold Am.Bp;split
 ·exact⟨0,rfl⟩
 ·split
  ·exact⟨0,rfl⟩
  ·split
   ·exact⟨0,rfl⟩
   ·exact⟨_,rfl⟩)
def FZ (r:R6):Prop:=∀ j,j<6->∃ p:Nat,r.get j=p
def FZ.rgs {r:R6}(h:FZ r)(S:Am):Q0 S r:=fun j hj=>let⟨p,hp⟩:=h j hj;⟨p,hp,trivial⟩
def FZ.set {r:R6}(h:FZ r){A:Nat}(hA:A<6){v:Int}(hv:∃ p:Nat,v=p):FZ (r.set v A):=by
 intro j hj;rcases six hA with rfl|rfl|rfl|rfl|rfl|rfl<;>rcases six hj with rfl|rfl|rfl|rfl|rfl|rfl<;>first|exact hv|exact h 0 (by omega)|exact h 1 (by omega)|exact h 2 (by omega)|exact h 3 (by omega)|exact h 4 (by omega)|exact h 5 (by omega)
structure CQ (l:List (List AD))(h:AE):Prop where
 r:FZ h.r
 s:FZ h.s
 n:0<=h.n
 b:0<=h.b/\h.b<=l.length
 at':h.l=true->h.b<l.length/\h.n<=(l.getD h.b.toNat []).length
 idle:h.l=false->h.n=0/\h.r=h.s
def CQ.back {l:List (List AD)}{h:AE}(t:CQ l h):CQ l h.back:=
 ⟨t.s,t.s,Ad _,t.b,fun h=>by simp[AE.back]at h,fun _=>⟨rfl,rfl⟩⟩
def CQ.Nn {l:List (List AD)}{h:AE}(t:CQ l h)(hl:h.l=true):CQ l { h.back with b:=h.b+1 }:=by
 have hb:=t.b;have:=(t.at' hl).1;exact⟨t.s,t.s,Ad _,⟨by simp only;omega,by simp only;omega⟩,fun h=>by simp[AE.back]at h,fun _=>⟨rfl,rfl⟩⟩
def CQ.on {l:List (List AD)}{h:AE}(t:CQ l h)(hl:h.l=true)(hn:h.n<(l.getD h.b.toNat []).length):CQ l { h with n:=h.n+1 }:=by
 have:=t.n;exact⟨t.r,t.s,by simp only;omega,t.b,fun _=>⟨(t.at' hl).1,by simp only;omega⟩,fun h'=>by simp only at h';rw[hl]at h';cases h'⟩
def CQ.put {l:List (List AD)}{h:AE}(t:CQ l h)(hl:h.l=true){A:Nat}(hA:A<6){v:Int}(hv:∃ p:Nat,v=p):CQ l (h.put A v):=
 ⟨t.r.set hA hv,t.s,t.n,t.b,t.at',fun h'=>by have:h.l=false:=h';rw[hl]at this;cases this⟩
structure F0 (l:List (List AD))(S:Am)(i:Nat)(h:AE):Prop where
 th:CQ l h
 lv:(S.t i).live=h.l
def Fq {e:Int}:Kk e=true↔e=141\/e=130\/e=100:=by unfold Kk;simp only[Bool.or_eq_true,beq_iff_eq,or_assoc]
def Yt {l:List (List AD)}{h h':AE}{r:B2}(t:CQ l h)(hl:h.l=true)(hn:h.n<(l.getD h.b.toNat []).length)(hlv:(S.t i).live=true)(hi:i<S.Au.length)(m:Mv i S r.S)(he:r.e≠140)
  (t':CQ l h')(e1:h'.b=h.b)(e2:h'.n=h.n)(e3:h'.l=h.l)(e4:h'.s=h.s) :
  F0 l (S.AF i r).S i (if (S.AF i r).e=0 then h'.ended 0 else h.ended (S.AF i r).e)/\Ty i S (S.AF i r).S:=by
 rcases Yq m hi hlv with⟨h1,h2,_,h4⟩|⟨h1,h2,h4⟩
 ·rw[h4]
  have ha:=Fq.1 h1;refine⟨⟨?_,?_⟩,h2.ty⟩
  ·rw[if_neg (by omega)]
   unfold AE.ended;by_cases wM:r.e=141
   ·rw[if_pos (.inl wM)];exact t.back
   ·rw[if_neg (by omega),if_pos (by omega)];exact t.Nn hl
  ·rw[h2.dead,if_neg (by omega)]
   unfold AE.ended;by_cases wM:r.e=141
   ·rw[if_pos (.inl wM)];rfl
   ·rw[if_neg (by omega),if_pos (by omega)];rfl
 ·rw[h4]
  have ha:¬(r.e=141\/r.e=130\/r.e=100):=fun h=>by rw[Fq.2 h]at h1;cases h1
  refine⟨?_,h2.ty⟩;by_cases h0:r.e=0
  ·rw[if_pos h0]
   unfold AE.ended;rw[if_neg (by omega),if_neg (by omega)]
   refine⟨t'.on (by rw[e3];exact hl) (by rw[e1,e2];exact hn),?_⟩
   rw[h2.lv,hlv];show true=h'.l;rw[e3,hl]
  ·rw[if_neg h0]
   unfold AE.ended;rw[if_neg (by omega),if_neg (by omega)]
   exact⟨t.on hl hn,by rw[h2.lv,hlv];exact hl.symm⟩
def qpj {h:AE}{e:Int}:(if e=0 then h.ended 0 else h.ended e)=h.ended e:=by
 split
 ·rename_i h0;rw[h0]
 ·rfl
def QS {l:List (List AD)}{h:AE}{r:B2}(t:CQ l h)(hl:h.l=true)(hn:h.n<(l.getD h.b.toNat []).length)(hlv:(S.t i).live=true)(hi:i<S.Au.length)(m:Mv i S r.S)(he:r.e≠140){A:Nat}(hA:A<6)(hv:∃ p:Nat,(S.AF i r).v=p) :
  F0 l (me (S.AF i r) h A).S i (me (S.AF i r) h A).h/\Ty i S (me (S.AF i r) h A).S:=
 Yt t hl hn hlv hi m he (t.put hl hA hv) rfl rfl rfl rfl
def Tl {l:List (List AD)}{h:AE}{r:B2}(t:CQ l h)(hl:h.l=true)(hn:h.n<(l.getD h.b.toNat []).length)(hlv:(S.t i).live=true)(hi:i<S.Au.length)(m:Mv i S r.S)(he:r.e≠140)(v:Int) :
  F0 l (ko (S.AF i r).S v (S.AF i r).e h).S i (ko (S.AF i r).S v (S.AF i r).e h).h/\Ty i S (ko (S.AF i r).S v (S.AF i r).e h).S:=by
 have:=Yt t hl hn hlv hi m he t rfl rfl rfl rfl;rw[qpj]at this;exact this
def qkr {l:List (List AD)} {h:AE} (t:CQ l h) (hl:h.l=true) (hn:h.n<(l.getD h.b.toNat []).length) (hlv:(S.t i).live=true) (hi:i<S.Au.length) {d:AD} (hd:d.ok) :
  F0 l (S.A7 i h d).S i (S.A7 i h d).h/\Ty i S (S.A7 i h d).S:=by
 have hk:=hd.k;by_cases k1:d.k=1
 ·rw[UD _ _ _ _ k1];exact QS t hl hn hlv hi (Mv.AR _ _ _) (Yj _ _ _) hd.A (Xt _ _ _)
 by_cases k2:d.k=2
 ·rw[Uu _ _ _ _ k2];exact QS t hl hn hlv hi (Mv.AR _ _ _) (Yj _ _ _) hd.A (Xt _ _ _)
 by_cases k3:d.k=3
 ·rw[Uy _ _ _ _ k3];exact QS t hl hn hlv hi (Mv.BJ _ _ _) (QL _ _ _) hd.A (KZ _ _ _)
 by_cases k4:d.k=4
 ·rw[UK _ _ _ _ k4];exact QS t hl hn hlv hi (Mv.CK _ _ _ _) (Rf _ _ _ _) hd.A (L4 _ _ _ _)
 by_cases k9:d.k=9
 ·rw[UL _ _ _ _ k9];exact QS t hl hn hlv hi (Mv.BZ _ _ _) (Pu _ _ _) hd.A (JC _ _ _)
 by_cases k10:d.k=10
 ·rw[Ub _ _ _ _ k10];exact QS t hl hn hlv hi (Mv.Bp _ _) (by have:=QE S i;omega) hd.A (KL _ _)
 by_cases k5:d.k=5
 ·rw[UM _ _ _ _ k5];exact Tl t hl hn hlv hi (Mv.CM _ _ _ _ _) (Ry _ _ _ _ _) _
 by_cases k6:d.k=6
 ·rw[UA _ _ _ _ k6];exact Tl t hl hn hlv hi (Mv.Ce _ _ _ _) (PY _ _ _ _) _
 by_cases k7:d.k=7
 ·rw[UC _ _ _ _ k7];exact Tl t hl hn hlv hi (Mv.Bs _ _ _ _ _) (Ng _ _ _ _ _) _
 by_cases k8:d.k=8
 ·rw[Uv _ _ _ _ k8];exact Tl t hl hn hlv hi (Mv.B4 _ _ _) (Pn _ _ _) _
 by_cases k11:d.k=11
 ·rw[TP _ _ _ _ k11]
  exact⟨⟨t.on hl hn,hlv.trans hl.symm⟩,Ty.refl _ _⟩
 by_cases k12:d.k=12
 ·rw[TM _ _ _ _ k12]
  exact⟨⟨(t.put hl hd.A ⟨_,rfl⟩).on hl hn,hlv.trans hl.symm⟩,Ty.refl _ _⟩
 by_cases k13:d.k=13
 ·rw[T1 _ _ _ _ k13]
  exact⟨⟨(t.put hl hd.A ⟨0,rfl⟩).on hl hn,hlv.trans hl.symm⟩,Ty.refl _ _⟩
 ·rw[T0 _ _ _ _ (by omega)]
  have e:=Ed.abort (S:=S) hi;exact⟨⟨t.Nn hl,e.dead⟩,e.ty⟩
def qfp {l:List (List AD)}{h:AE}(t:CQ l h)(hl:h.l=true)(hlv:(S.t i).live=true)(hi:i<S.Au.length) :
  F0 l (S.BC i h).S i (S.BC i h).h/\Ty i S (S.BC i h).S:=by
 have e1:S.Bq i=(S.AJ i).fin i:=if_pos hlv;have hb:=t.b;have hlt:=(t.at' hl).1;unfold Am.BC;rcases Hi S i with h0|h0
 ·have hf:(S.AJ i).fin i=S.AJ i:=by unfold B2.fin;rw[if_neg (by rw[h0];decide),if_pos h0]
  rw[e1,hf,if_pos h0];have hc:(S.AJ i).S=S.tx i (S.t i).ended\/(S.AJ i).S=(S.Br i).tx i (S.t i).ended:=by
   unfold Am.AJ at h0 ⊢;by_cases a:(S.t i).log.holds=[]/\S.Aw≠(i:Int)
   ·rw[if_pos a];exact .inl rfl
   ·rw[if_neg a]at h0 ⊢
    by_cases c:S.Bu i=true
    ·rw[if_pos c]at h0;simp at h0
    ·rw[if_neg c];exact .inr rfl
  have ht:∀ j,(S.Br i).t j=S.t j:=fun j=>by unfold Am.Br;split<;>rfl
  have hl':(S.Br i).Au.length=S.Au.length:=by unfold Am.Br;split<;>rfl
  refine⟨⟨⟨t.r,t.r,Ad _,⟨by simp only;omega,by simp only;omega⟩,fun h=>(by simp at h),fun _=>⟨rfl,rfl⟩⟩,?_⟩,?_⟩
  ·rcases hc with hc|hc
   ·simp only[hc,Am.CZ hi];rfl
   ·simp only[hc,Am.CZ (show i<(S.Br i).Au.length by omega)];rfl
  ·rcases hc with hc|hc
   ·simp only[hc]
    exact⟨Am.BA _ _ _,fun j h=>Am.FC _ (fun e=>h e.symm) _,rfl,rfl,rfl,rfl,rfl⟩
   ·simp only[hc]
    refine⟨(Am.BA _ _ _).trans hl',fun j h=>(Am.FC _ (fun e=>h e.symm) _).trans (ht j),?_,?_,?_,?_,?_⟩
    all_goals (unfold Am.tx Am.Br;split<;>rfl)
 ·have hs:(S.AJ i).S=S:=by
   unfold Am.AJ at h0 ⊢;by_cases a:(S.t i).log.holds=[]/\S.Aw≠(i:Int)
   ·rw[if_pos a]at h0;simp at h0
   ·rw[if_neg a]at h0 ⊢
    by_cases c:S.Bu i=true
    ·rw[if_pos c]
    ·rw[if_neg c]at h0;simp at h0
  have hf:(S.AJ i).fin i=⟨S.abort i,0,141⟩:=by unfold B2.fin;rw[if_pos (by rw[h0];decide),hs,h0]
  rw[e1,hf,if_neg (by simp)]
  have e:=Ed.abort (S:=S) hi;exact⟨⟨t.back,e.dead⟩,e.ty⟩
def qia {l:List (List AD)}{h:AE}(t:CQ l h)(hl:h.l=false)(hb:h.b<l.length)(hlv:(S.t i).live=false)(hi:i<S.Au.length) :
  F0 l (S.BX i l.length h).S i (S.BX i l.length h).h/\Ty i S (S.BX i l.length h).S:=by
 have hb0:=t.b;have e:S.AS i=if S.now+(jj S.Au+1)<=S.most then (S.tx i ((S.t i).begun S.now S.next),0) else (S,120):=by
  unfold Am.AS;rw[if_neg (by rw[hlv];simp)]
 unfold Am.BX;by_cases m:S.now+(jj S.Au+1)<=S.most
 ·rw[if_pos m]at e
  rw[e,if_pos rfl];refine⟨⟨⟨t.r,t.r,Ad _,t.b,fun _=>⟨hb,Int.natCast_nonneg _⟩,fun h=>(by simp at h)⟩,?_⟩,?_⟩
  ·simp only[Am.CZ hi];rfl
  ·exact⟨Am.BA _ _ _,fun j h=>Am.FC _ (fun e=>h e.symm) _,rfl,rfl,rfl,rfl,rfl⟩
 ·rw[if_neg m]at e
  rw[e,if_neg (by simp)]
  exact⟨⟨⟨t.r,t.s,t.n,⟨by simp only;omega,Ad _⟩,fun h'=>(by simp only at h';rw[hl]at h';cases h'),fun _=>t.idle hl⟩,by simp only;rw[hlv,hl]⟩,Ty.refl _ _⟩
def VP {l:List (List AD)}{h:AE}(t:F0 l S i h)(hi:i<S.Au.length)(hd:∀ ds ∈ l,∀ d ∈ ds,d.ok) :
  F0 l (S.Bd i l h).S i (S.Bd i l h).h/\Ty i S (S.Bd i l h).S:=by
 unfold Am.Bd;have hb:=t.th.b;have hn:=t.th.n;split
 ·exact⟨t,Ty.refl _ _⟩
 ·rename_i h1
  split
  ·rename_i h2
   exact qia t.th h2 (by omega) (t.lv.trans h2) hi
  ·rename_i h2
   have hl:h.l=true:=by simpa using h2
   have hlv:=t.lv.trans hl;have hat:=t.th.at' hl;split
   ·exact qfp t.th hl hlv hi
   ·rename_i d iE
    have hlt:h.b.toNat<l.length:=by omega
    have e0:l.getD h.b.toNat []=l[h.b.toNat]:=by rw[Qi,Qb hlt];rfl
    have hdd:d.ok:=by
     rw[e0]at iE;exact hd _ (List.getElem_mem hlt) d (Qe iE)
    refine qkr t.th hl ?_ hlv hi hdd;have:=(Qc.1 iE).1;omega
