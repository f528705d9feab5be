import Derived.Test.YteehgedabdchcaaGreatKas
import Derived.Test.YteehgedabdchcaaGreatKat
set_option linter.all false
set_option maxRecDepth 1000000
set_option maxHeartbeats 0
open Int renaming le_refl->Ad
namespace Go.Proofs.YteehgedabdchcaaGreat
section
open Go.RowKit Hp
attribute [local go_sem ↓] Go.wp_at_zero Go.wp_at_succ
def Am.Bw (S:Am)(i:Nat)(h:AD):TR:=
 if (S.Bp i).e=0 then⟨(S.Bp i).S,⟨h.b+1,0,h.r,h.r,false⟩,⟨3,0,(S.Bp i).v⟩⟩ else⟨(S.Bp i).S,h.back,⟨3,(S.Bp i).e,0⟩⟩
def Am.BV (S:Am)(i:Nat)(l:Nat)(h:AD):TR:=
 if (S.AR i).2=0 then⟨(S.AR i).1,⟨h.b,0,h.r,h.r,true⟩,⟨1,0,S.now⟩⟩ else⟨(S.AR i).1,⟨l,h.n,h.r,h.s,h.l⟩,⟨1,(S.AR i).2,0⟩⟩
def Am.A6 (S:Am)(i:Nat)(l:List (List AB))(h:AD):TR:=
 if (l.length:Int)<=h.b then⟨S,h,⟨0,0,0⟩⟩
 else if h.l=false then S.BV i l.length h
 else match (l.getD h.b.toNat [])[h.n.toNat]? with
 | none=>S.Bw i h
 | some d=>S.A4 i h d
structure UD (S:Am)(i:Nat)(l:List (List AB))(h:AD):Prop where
 inv:Inv S
 lt:i<S.Au.length
 lv:(S.t i).live=h.l
 rg:P8 S h.r
 n:0<=h.n/\h.n<=4096
 b:0<=h.b/\h.b<=4096
 dk:∀ ds ∈ l,∀ d ∈ ds,d.ok/\Pg.right d.D=true
section
variable {w w' : World} {o o' : Own} {y : Bj} {S : Am} {i : Nat}
def qof (hS:Av w o y S){vb:Value}{l:List (List AB)}(hB:Dt w vb l)(h:AD)(hT:UD S i l h) :
  Calls Tryz.prog 93 #[ptr y.sb,.int .i64 i,vb,h.v] w fun e' w'=>e'=.returned (.tuple #[(S.A6 i l h).h.v,(S.A6 i l h).a.val])/\Left y (S.A6 i l h).S o w w':=by
 obtain⟨hb,hn,⟨a0,a1,a2,a3,a4,a5⟩,⟨s0,s1,s2,s3,s4,s5⟩,hl⟩:=h;have hn0:=hT.n;have hb0:=hT.b;have hlv:=hT.lv;simp only at hn0 hb0 hlv;by_cases hd:(l.length:Int)<=hb
 ·have e1:S.A6 i l ⟨hb,hn,⟨a0,a1,a2,a3,a4,a5⟩,⟨s0,s1,s2,s3,s4,s5⟩,hl⟩=⟨S,⟨hb,hn,⟨a0,a1,a2,a3,a4,a5⟩,⟨s0,s1,s2,s3,s4,s5⟩,hl⟩,⟨0,0,0⟩⟩:=if_pos hd
  rw[e1];obtain⟨a,c,rfl,_⟩:=hB;refine (qld hb hn a0 a1 a2 a3 a4 a5 s0 s1 s2 s3 s4 s5 hl (ptr y.sb) a l.length c i hd w).mono ?_;rintro e' w' ⟨rfl,h1⟩;exact⟨rfl,o,hS.below h1,hT.inv,Stp.of_below h1⟩
 ·have hb2:hb<(l.length:Int):=by omega
  cases hl with
  | false =>
   have e1:S.A6 i l ⟨hb,hn,⟨a0,a1,a2,a3,a4,a5⟩,⟨s0,s1,s2,s3,s4,s5⟩,false⟩=S.BV i l.length ⟨hb,hn,⟨a0,a1,a2,a3,a4,a5⟩,⟨s0,s1,s2,s3,s4,s5⟩,false⟩:=by unfold Am.A6;rw[if_neg hd,if_pos rfl]
   rw[e1];unfold Am.BV;by_cases he:(S.AR i).2=0
   ·rw[if_pos he]
    exact UZ hS hb hn a0 a1 a2 a3 a4 a5 s0 s1 s2 s3 s4 s5 vb l hB hb0.1 hb2 hn0.1 _ _ _ (fun X o2 hX=>qpk hX hT.inv hb hn a0 a1 a2 a3 a4 a5 s0 s1 s2 s3 s4 s5 false l.length hT.lt he)
   ·rw[if_neg he]
    exact UZ hS hb hn a0 a1 a2 a3 a4 a5 s0 s1 s2 s3 s4 s5 vb l hB hb0.1 hb2 hn0.1 _ _ _ (fun X o2 hX=>qpe hX hT.inv hb hn a0 a1 a2 a3 a4 a5 s0 s1 s2 s3 s4 s5 false l.length hT.lt he)
  | true =>
   have hc:S.DU i=true:=decide_eq_true hT.lt;have hlt:hb.toNat<l.length:=by omega
   have e0:l.getD hb.toNat []=l[hb.toNat]:=by rw[Qi,Qb hlt];rfl
   have e1:S.A6 i l ⟨hb,hn,⟨a0,a1,a2,a3,a4,a5⟩,⟨s0,s1,s2,s3,s4,s5⟩,true⟩=match (l[hb.toNat])[hn.toNat]? with
     | none=>S.Bw i ⟨hb,hn,⟨a0,a1,a2,a3,a4,a5⟩,⟨s0,s1,s2,s3,s4,s5⟩,true⟩
     | some d=>S.A4 i ⟨hb,hn,⟨a0,a1,a2,a3,a4,a5⟩,⟨s0,s1,s2,s3,s4,s5⟩,true⟩ d:=by
    unfold Am.A6;rw[if_neg hd,if_neg (by simp)];rw[e0]
   rw[e1]
   cases iJ:(l[hb.toNat])[hn.toNat]? with
   | none =>
    have hnd:∀ ds,l[hb.toNat]?=some ds->(ds.length:Int)<=hn:=fun ds hds=>by
     rw[Qb hlt]at hds;injection hds with hds;subst hds;have:=List.getElem?_eq_none_iff.1 iJ;omega
    simp only;unfold Am.Bw;by_cases he:(S.Bp i).e=0
    ·rw[if_pos he]
     exact UL hS hb hn a0 a1 a2 a3 a4 a5 s0 s1 s2 s3 s4 s5 vb l hB hb0.1 hb2 hn0.1 hnd _ _ _ (fun X o2 hX=>qkj hX hT.inv hb hn a0 a1 a2 a3 a4 a5 s0 s1 s2 s3 s4 s5 true hc he hb0)
    ·rw[if_neg he]
     exact UL hS hb hn a0 a1 a2 a3 a4 a5 s0 s1 s2 s3 s4 s5 vb l hB hb0.1 hb2 hn0.1 hnd _ _ _ (fun X o2 hX=>qkq hX hT.inv hb hn a0 a1 a2 a3 a4 a5 s0 s1 s2 s3 s4 s5 true hc he)
   | some d =>
    obtain⟨hdo,Gk⟩:=hT.dk (l[hb.toNat]) (List.getElem_mem hlt) d (Qe iJ);simp only;exact qlj hS hb hn a0 a1 a2 a3 a4 a5 s0 s1 s2 s3 s4 s5 vb l hB hb0.1 hb2 hn0.1 d ⟨_,Qb hlt,iJ⟩ Gk _ _ _ (fun X o2 hX=>qoq hX ⟨hb,hn,⟨a0,a1,a2,a3,a4,a5⟩,⟨s0,s1,s2,s3,s4,s5⟩,true⟩ d hdo ⟨hT.inv,hc,hlv,hT.rg,hn0,hb0⟩)
end
end
section
open Hp
structure Ty (i:Nat)(S S':Am):Prop where
 len:S'.Au.length=S.Au.length
 GB:∀ j,j≠i->S'.t j=S.t j
 most:S'.most=S.most
 next:S'.next=S.next
 came:S'.came=S.came
 lost:S'.lost=S.lost
 ph:S'.ph=S.ph
section
variable {i : Nat} {S S' S2 : Am}
def Ty.refl (i:Nat)(S:Am):Ty i S S:=⟨rfl,fun _ _=>rfl,rfl,rfl,rfl,rfl,rfl⟩
def Mv.ty (m:Mv i S S'):Ty i S S':=⟨m.len,m.GB,m.most,m.next,m.came,m.lost,m.ph⟩
def Ed.ty (m:Ed i S S'):Ty i S S':=⟨m.len,m.GB,m.most,m.next,m.came,m.lost,m.ph⟩
def Nc (H:Hp)(p j:Nat):(H.Cp p j).2=0\/(H.Cp p j).2=70\/(H.Cp p j).2=71:=by
 unfold Hp.Cp;split
 ·simp
 ·split<;>simp
def J2 (H:Hp)(p j:Nat):(H.AY p j).2.2=0\/(H.AY p j).2.2=70\/(H.AY p j).2.2=71:=by
 unfold Hp.AY;split
 ·simp
 ·split
  ·simp
  ·split<;>simp
def Ko (H:Hp)(p j:Nat)(n:Int):(H.Bv p j n).2=0\/(H.Bv p j n).2=70\/(H.Bv p j n).2=71:=by
 unfold Hp.Bv;split
 ·simp
 ·split<;>simp
def Kp (H:Hp)(p j q:Nat):(H.Bh p j q).2=0\/(H.Bh p j q).2=70\/(H.Bh p j q).2=71:=by
 unfold Hp.Bh;split
 ·simp
 ·split
  ·simp
  ·split<;>simp
def qki (H:Hp)(p:Nat)(b:Bool):(H.AX p b).2=0\/(H.AX p b).2=70:=by
 unfold Hp.AX;split<;>simp
def Up (S:Am)(i p:Nat):(S.AH i p).2.1=0\/(S.AH i p).2.1=143\/(S.AH i p).2.1=70\/(S.AH i p).2.1=141\/(S.AH i p).2.1=142\/(S.AH i p).2.1=130:=by
 unfold Am.AH;split
 ·simp
 ·split
  ·simp
  ·split
   ·simp
   ·simp only
    split
    ·split<;>simp
    ·simp
def ll (S:Am)(i p:Nat):(S.Aq i p).2≠140:=by
 unfold Am.Aq;simp only;split
 ·split<;>simp
 ·rcases Up S i p with h|h|h|h|h|h<;>rw[h]<;>simp
def G1 (S:Am)(i p:Nat)(u:Un)(set:Hp->Hp×Nat)(h:∀ H,(set H).2≠140):(S.BH i p u set).e≠140:=by
 unfold Am.BH;split
 ·simp
 ·split
  ·simp
  ·simp only;have:=h (((S.A3 i p).1.Cn i u).1.H);omega
def Pv (S:Am)(i p j:Nat):(S.Cb i p j).e≠140:=by
 unfold Am.Cb;split
 ·exact ll S i p
 ·simp only;have:=Nc (S.Aq i p).1.H p j;omega
def QK (S:Am)(i p j:Nat):(S.CK i p j).e≠140:=by
 unfold Am.CK;split
 ·exact ll S i p
 ·simp only;have:=J2 (S.Aq i p).1.H p j;omega
def MX (S:Am)(i p j:Nat)(v:Int):(S.Br i p j v).e≠140:=by
 unfold Am.Br;split
 ·exact ll S i p
 ·split
  ·simp only;have:=Nc (S.Aq i p).1.H p j;omega
  ·exact G1 _ _ _ _ _ fun H=>by have:=Ko H p j v;omega
def QY (S:Am)(i p j q:Nat):(S.CM i p j q).e≠140:=by
 unfold Am.CM;split
 ·simp
 ·unfold Am.Dx
  split
  ·exact ll S i p
  ·split
   ·simp only;have:=J2 (S.Aq i p).1.H p j;omega
   ·exact G1 _ _ _ _ _ fun H=>by have:=Kp H p j q;omega
def NX (S:Am)(i p:Nat):(S.B1 i p).e≠140:=by
 unfold Am.B1;split
 ·rcases Up S i p with h|h|h|h|h|h<;>simp only[h]<;>simp
 ·exact G1 _ _ _ _ _ fun H=>by have:=qki H p true;omega
def M9 (S:Am)(i:Nat)(s:BR):(S.Bi i s).2.2=0\/(S.Bi i s).2.2=100\/(S.Bi i s).2.2=130:=by
 unfold Am.Bi;split
 ·simp
 ·split<;>simp
def Xw (S:Am)(i:Nat)(s:BR):(S.AQ i s).e≠140:=by
 have:=M9 S i s;show (S.Bi i s).2.2≠140;omega
def PN (S:Am)(i q:Nat):(S.BG i q).e≠140:=by
 unfold Am.BG;split
 ·simp
 ·split
  ·simp
  ·split
   ·have:=M9 S i CY;simp only;omega
   ·simp
def N5 (S:Am)(i p:Nat):(S.BW i p).e≠140:=by
 unfold Am.BW;split
 ·rcases Up S i p with h|h|h|h|h|h<;>simp only[h]<;>simp
 ·split
  ·simp
  ·split
   ·simp only;have:=J2 (S.AH i p).1.H p 0;omega
   ·unfold Am.Db
    split
    ·simp
    ·split<;>simp
def PF (S:Am)(i:Nat):(S.Bn i).e=0\/(S.Bn i).e=141:=by
 unfold Am.Bn;split
 ·simp
 ·split
  ·simp
  ·split<;>simp
def G8 (S:Am)(i:Nat):(S.AJ i).e=0\/(S.AJ i).e=141:=by
 unfold Am.AJ;split
 ·simp
 ·split<;>simp
def LF {r:BZ}{i:Nat}(h:∃ p:Nat,r.v=p):∃ p:Nat,(r.fin i).v=p:=by
 unfold BZ.fin;split
 ·exact⟨0,rfl⟩
 ·split
  ·exact h
  ·exact⟨0,rfl⟩
def dc {S:Am}{r:BZ}{i:Nat}(h:∃ p:Nat,r.v=p):∃ p:Nat,(S.AF i r).v=p:=by
 unfold Am.AF;split
 ·exact LF h
 ·exact⟨0,rfl⟩
def Wu (S:Am)(i:Nat)(s:BR):∃ p:Nat,(S.alloc i s).v=p:=dc ⟨_,rfl⟩
def KO (S:Am)(i q:Nat):∃ p:Nat,(S.AA i q).v=p:=dc (by
 unfold Am.BG;split
 ·exact⟨0,rfl⟩
 ·split
  ·exact⟨0,rfl⟩
  ·split
   ·exact⟨0,rfl⟩
   ·exact⟨_,rfl⟩)
def LQ (S:Am)(i p j:Nat):∃ q:Nat,(S.get i p j).v=q:=dc (by
 unfold Am.CK;split
 ·exact⟨0,rfl⟩
 ·exact⟨_,rfl⟩)
def Js (S:Am)(i p:Nat):∃ q:Nat,(S.load i p).v=q:=dc (by
 unfold Am.BW;split
 ·exact⟨0,rfl⟩
 ·split
  ·exact⟨0,rfl⟩
  ·split
   ·exact⟨0,rfl⟩
   ·unfold Am.Db
    split
    ·exact⟨0,rfl⟩
    ·split
     ·exact⟨_,rfl⟩
     ·exact⟨0,rfl⟩)
def Kx (S:Am)(i:Nat):∃ q:Nat,(S.take i).v=q:=dc (by
 unfold Am.Bn;split
 ·exact⟨0,rfl⟩
 ·split
  ·exact⟨0,rfl⟩
  ·split
   ·exact⟨0,rfl⟩
   ·exact⟨_,rfl⟩)
def FU (r:R6):Prop:=∀ j,j<6->∃ p:Nat,r.get j=p
def FU.rgs {r:R6}(h:FU r)(S:Am):P8 S r:=fun j hj=>let⟨p,hp⟩:=h j hj;⟨p,hp,trivial⟩
def FU.set {r:R6}(h:FU r){A:Nat}(hA:A<6){v:Int}(hv:∃ p:Nat,v=p):FU (r.set v A):=by
 intro j hj;rcases six hA with rfl|rfl|rfl|rfl|rfl|rfl<;>rcases six hj with rfl|rfl|rfl|rfl|rfl|rfl<;>first|exact hv|exact h 0 (by omega)|exact h 1 (by omega)|exact h 2 (by omega)|exact h 3 (by omega)|exact h 4 (by omega)|exact h 5 (by omega)
structure CP (l:List (List AB))(h:AD):Prop where
 r:FU h.r
 s:FU h.s
 n:0<=h.n
 b:0<=h.b/\h.b<=l.length
 at':h.l=true->h.b<l.length/\h.n<=(l.getD h.b.toNat []).length
 idle:h.l=false->h.n=0/\h.r=h.s
def CP.back {l:List (List AB)}{h:AD}(t:CP l h):CP l h.back:=
 ⟨t.s,t.s,Ad _,t.b,fun h=>by simp[AD.back]at h,fun _=>⟨rfl,rfl⟩⟩
def CP.M3 {l:List (List AB)}{h:AD}(t:CP l h)(hl:h.l=true):CP l { h.back with b:=h.b+1 }:=by
 have hb:=t.b;have:=(t.at' hl).1;exact⟨t.s,t.s,Ad _,⟨by simp only;omega,by simp only;omega⟩,fun h=>by simp[AD.back]at h,fun _=>⟨rfl,rfl⟩⟩
def CP.on {l:List (List AB)}{h:AD}(t:CP l h)(hl:h.l=true)(hn:h.n<(l.getD h.b.toNat []).length):CP l { h with n:=h.n+1 }:=by
 have:=t.n;exact⟨t.r,t.s,by simp only;omega,t.b,fun _=>⟨(t.at' hl).1,by simp only;omega⟩,fun h'=>by simp only at h';rw[hl]at h';cases h'⟩
def CP.put {l:List (List AB)}{h:AD}(t:CP l h)(hl:h.l=true){A:Nat}(hA:A<6){v:Int}(hv:∃ p:Nat,v=p):CP l (h.put A v):=
 ⟨t.r.set hA hv,t.s,t.n,t.b,t.at',fun h'=>by have:h.l=false:=h';rw[hl]at this;cases this⟩
structure FV (l:List (List AB))(S:Am)(i:Nat)(h:AD):Prop where
 th:CP l h
 lv:(S.t i).live=h.l
def Fi {e:Int}:J9 e=true↔e=141\/e=130\/e=100:=by unfold J9;simp only[Bool.or_eq_true,beq_iff_eq,or_assoc]
def XS {l:List (List AB)}{h h':AD}{r:BZ}(t:CP l h)(hl:h.l=true)(hn:h.n<(l.getD h.b.toNat []).length)(hlv:(S.t i).live=true)(hi:i<S.Au.length)(m:Mv i S r.S)(he:r.e≠140)
  (t':CP l h')(e1:h'.b=h.b)(e2:h'.n=h.n)(e3:h'.l=h.l)(e4:h'.s=h.s) :
  FV l (S.AF i r).S i (if (S.AF i r).e=0 then h'.ended 0 else h.ended (S.AF i r).e)/\Ty i S (S.AF i r).S:=by
 rcases Xe m hi hlv with⟨h1,h2,_,h4⟩|⟨h1,h2,h4⟩
 ·rw[h4]
  have ha:=Fi.1 h1;refine⟨⟨?_,?_⟩,h2.ty⟩
  ·rw[if_neg (by omega)]
   unfold AD.ended;by_cases wQ:r.e=141
   ·rw[if_pos (.inl wQ)];exact t.back
   ·rw[if_neg (by omega),if_pos (by omega)];exact t.M3 hl
  ·rw[h2.dead,if_neg (by omega)]
   unfold AD.ended;by_cases wQ:r.e=141
   ·rw[if_pos (.inl wQ)];rfl
   ·rw[if_neg (by omega),if_pos (by omega)];rfl
 ·rw[h4]
  have ha:¬(r.e=141\/r.e=130\/r.e=100):=fun h=>by rw[Fi.2 h]at h1;cases h1
  refine⟨?_,h2.ty⟩;by_cases h0:r.e=0
  ·rw[if_pos h0]
   unfold AD.ended;rw[if_neg (by omega),if_neg (by omega)]
   refine⟨t'.on (by rw[e3];exact hl) (by rw[e1,e2];exact hn),?_⟩
   rw[h2.lv,hlv];show true=h'.l;rw[e3,hl]
  ·rw[if_neg h0]
   unfold AD.ended;rw[if_neg (by omega),if_neg (by omega)]
   exact⟨t.on hl hn,by rw[h2.lv,hlv];exact hl.symm⟩
def qpw {h:AD}{e:Int}:(if e=0 then h.ended 0 else h.ended e)=h.ended e:=by
 split
 ·rename_i h0;rw[h0]
 ·rfl
def PV {l:List (List AB)}{h:AD}{r:BZ}(t:CP l h)(hl:h.l=true)(hn:h.n<(l.getD h.b.toNat []).length)(hlv:(S.t i).live=true)(hi:i<S.Au.length)(m:Mv i S r.S)(he:r.e≠140){A:Nat}(hA:A<6)(hv:∃ p:Nat,(S.AF i r).v=p) :
  FV l (pg (S.AF i r) h A).S i (pg (S.AF i r) h A).h/\Ty i S (pg (S.AF i r) h A).S:=
 XS t hl hn hlv hi m he (t.put hl hA hv) rfl rfl rfl rfl
def Sg {l:List (List AB)}{h:AD}{r:BZ}(t:CP l h)(hl:h.l=true)(hn:h.n<(l.getD h.b.toNat []).length)(hlv:(S.t i).live=true)(hi:i<S.Au.length)(m:Mv i S r.S)(he:r.e≠140)(v:Int) :
  FV l (kj (S.AF i r).S v (S.AF i r).e h).S i (kj (S.AF i r).S v (S.AF i r).e h).h/\Ty i S (kj (S.AF i r).S v (S.AF i r).e h).S:=by
 have:=XS t hl hn hlv hi m he t rfl rfl rfl rfl;rw[qpw]at this;exact this
def qjk {l:List (List AB)} {h:AD} (t:CP l h) (hl:h.l=true) (hn:h.n<(l.getD h.b.toNat []).length) (hlv:(S.t i).live=true) (hi:i<S.Au.length) {d:AB} (hd:d.ok) :
  FV l (S.A4 i h d).S i (S.A4 i h d).h/\Ty i S (S.A4 i h d).S:=by
 have hk:=hd.k;by_cases k1:d.k=1
 ·rw[Tr _ _ _ _ k1];exact PV t hl hn hlv hi (Mv.AQ _ _ _) (Xw _ _ _) hd.A (Wu _ _ _)
 by_cases k2:d.k=2
 ·rw[TB _ _ _ _ k2];exact PV t hl hn hlv hi (Mv.AQ _ _ _) (Xw _ _ _) hd.A (Wu _ _ _)
 by_cases k3:d.k=3
 ·rw[TE _ _ _ _ k3];exact PV t hl hn hlv hi (Mv.BG _ _ _) (PN _ _ _) hd.A (KO _ _ _)
 by_cases k4:d.k=4
 ·rw[Tu _ _ _ _ k4];exact PV t hl hn hlv hi (Mv.CK _ _ _ _) (QK _ _ _ _) hd.A (LQ _ _ _ _)
 by_cases k9:d.k=9
 ·rw[T3 _ _ _ _ k9];exact PV t hl hn hlv hi (Mv.BW _ _ _) (N5 _ _ _) hd.A (Js _ _ _)
 by_cases k10:d.k=10
 ·rw[Ta _ _ _ _ k10];exact PV t hl hn hlv hi (Mv.Bn _ _) (by have:=PF S i;omega) hd.A (Kx _ _)
 by_cases k5:d.k=5
 ·rw[TH _ _ _ _ k5];exact Sg t hl hn hlv hi (Mv.CM _ _ _ _ _) (QY _ _ _ _ _) _
 by_cases k6:d.k=6
 ·rw[T4 _ _ _ _ k6];exact Sg t hl hn hlv hi (Mv.Cb _ _ _ _) (Pv _ _ _ _) _
 by_cases k7:d.k=7
 ·rw[Ts _ _ _ _ k7];exact Sg t hl hn hlv hi (Mv.Br _ _ _ _ _) (MX _ _ _ _ _) _
 by_cases k8:d.k=8
 ·rw[TQ _ _ _ _ k8];exact Sg t hl hn hlv hi (Mv.B1 _ _ _) (NX _ _ _) _
 by_cases k11:d.k=11
 ·rw[To _ _ _ _ k11]
  exact⟨⟨t.on hl hn,hlv.trans hl.symm⟩,Ty.refl _ _⟩
 by_cases k12:d.k=12
 ·rw[Tj _ _ _ _ k12]
  exact⟨⟨(t.put hl hd.A ⟨_,rfl⟩).on hl hn,hlv.trans hl.symm⟩,Ty.refl _ _⟩
 by_cases k13:d.k=13
 ·rw[Td _ _ _ _ k13]
  exact⟨⟨(t.put hl hd.A ⟨0,rfl⟩).on hl hn,hlv.trans hl.symm⟩,Ty.refl _ _⟩
 ·rw[Tn _ _ _ _ (by omega)]
  have e:=Ed.abort (S:=S) hi;exact⟨⟨t.M3 hl,e.dead⟩,e.ty⟩
def Ym {l:List (List AB)}{h:AD}(t:CP l h)(hl:h.l=true)(hlv:(S.t i).live=true)(hi:i<S.Au.length) :
  FV l (S.Bw i h).S i (S.Bw i h).h/\Ty i S (S.Bw i h).S:=by
 have e1:S.Bp i=(S.AJ i).fin i:=if_pos hlv;have hb:=t.b;have hlt:=(t.at' hl).1;unfold Am.Bw;rcases G8 S i with h0|h0
 ·have hf:(S.AJ i).fin i=S.AJ i:=by unfold BZ.fin;rw[if_neg (by rw[h0];decide),if_pos h0]
  rw[e1,hf,if_pos h0];have hc:(S.AJ i).S=S.tx i (S.t i).ended\/(S.AJ i).S=(S.Bq i).tx i (S.t i).ended:=by
   unfold Am.AJ at h0 ⊢;by_cases a:(S.t i).log.holds=[]/\S.Aw≠(i:Int)
   ·rw[if_pos a];exact .inl rfl
   ·rw[if_neg a]at h0 ⊢
    by_cases c:S.Bs i=true
    ·rw[if_pos c]at h0;simp at h0
    ·rw[if_neg c];exact .inr rfl
  have ht:∀ j,(S.Bq i).t j=S.t j:=fun j=>by unfold Am.Bq;split<;>rfl
  have hl':(S.Bq i).Au.length=S.Au.length:=by unfold Am.Bq;split<;>rfl
  refine⟨⟨⟨t.r,t.r,Ad _,⟨by simp only;omega,by simp only;omega⟩,fun h=>(by simp at h),fun _=>⟨rfl,rfl⟩⟩,?_⟩,?_⟩
  ·rcases hc with hc|hc
   ·simp only[hc,Am.CZ hi];rfl
   ·simp only[hc,Am.CZ (show i<(S.Bq i).Au.length by omega)];rfl
  ·rcases hc with hc|hc
   ·simp only[hc]
    exact⟨Am.Bu _ _ _,fun j h=>Am.Fy _ (fun e=>h e.symm) _,rfl,rfl,rfl,rfl,rfl⟩
   ·simp only[hc]
    refine⟨(Am.Bu _ _ _).trans hl',fun j h=>(Am.Fy _ (fun e=>h e.symm) _).trans (ht j),?_,?_,?_,?_,?_⟩
    all_goals (unfold Am.tx Am.Bq;split<;>rfl)
 ·have hs:(S.AJ i).S=S:=by
   unfold Am.AJ at h0 ⊢;by_cases a:(S.t i).log.holds=[]/\S.Aw≠(i:Int)
   ·rw[if_pos a]at h0;simp at h0
   ·rw[if_neg a]at h0 ⊢
    by_cases c:S.Bs i=true
    ·rw[if_pos c]
    ·rw[if_neg c]at h0;simp at h0
  have hf:(S.AJ i).fin i=⟨S.abort i,0,141⟩:=by unfold BZ.fin;rw[if_pos (by rw[h0];decide),hs,h0]
  rw[e1,hf,if_neg (by simp)]
  have e:=Ed.abort (S:=S) hi;exact⟨⟨t.back,e.dead⟩,e.ty⟩
def YQ {l:List (List AB)}{h:AD}(t:CP l h)(hl:h.l=false)(hb:h.b<l.length)(hlv:(S.t i).live=false)(hi:i<S.Au.length) :
  FV l (S.BV i l.length h).S i (S.BV i l.length h).h/\Ty i S (S.BV i l.length h).S:=by
 have hb0:=t.b;have e:S.AR i=if S.now+(jh S.Au+1)<=S.most then (S.tx i ((S.t i).begun S.now S.next),0) else (S,120):=by
  unfold Am.AR;rw[if_neg (by rw[hlv];simp)]
 unfold Am.BV;by_cases m:S.now+(jh S.Au+1)<=S.most
 ·rw[if_pos m]at e
  rw[e,if_pos rfl];refine⟨⟨⟨t.r,t.r,Ad _,t.b,fun _=>⟨hb,Int.natCast_nonneg _⟩,fun h=>(by simp at h)⟩,?_⟩,?_⟩
  ·simp only[Am.CZ hi];rfl
  ·exact⟨Am.Bu _ _ _,fun j h=>Am.Fy _ (fun e=>h e.symm) _,rfl,rfl,rfl,rfl,rfl⟩
 ·rw[if_neg m]at e
  rw[e,if_neg (by simp)]
  exact⟨⟨⟨t.r,t.s,t.n,⟨by simp only;omega,Ad _⟩,fun h'=>(by simp only at h';rw[hl]at h';cases h'),fun _=>t.idle hl⟩,by simp only;rw[hlv,hl]⟩,Ty.refl _ _⟩
def U7 {l:List (List AB)}{h:AD}(t:FV l S i h)(hi:i<S.Au.length)(hd:∀ ds ∈ l,∀ d ∈ ds,d.ok) :
  FV l (S.A6 i l h).S i (S.A6 i l h).h/\Ty i S (S.A6 i l h).S:=by
 unfold Am.A6;have hb:=t.th.b;have hn:=t.th.n;split
 ·exact⟨t,Ty.refl _ _⟩
 ·rename_i h1
  split
  ·rename_i h2
   exact YQ t.th h2 (by omega) (t.lv.trans h2) hi
  ·rename_i h2
   have hl:h.l=true:=by simpa using h2
   have hlv:=t.lv.trans hl;have hat:=t.th.at' hl;split
   ·exact Ym t.th hl hlv hi
   ·rename_i d iJ
    have hlt:h.b.toNat<l.length:=by omega
    have e0:l.getD h.b.toNat []=l[h.b.toNat]:=by rw[Qi,Qb hlt];rfl
    have hdd:d.ok:=by
     rw[e0]at iJ;exact hd _ (List.getElem_mem hlt) d (Qe iJ)
    refine qjk t.th hl ?_ hlv hi hdd;have:=(Qc.1 iJ).1;omega
