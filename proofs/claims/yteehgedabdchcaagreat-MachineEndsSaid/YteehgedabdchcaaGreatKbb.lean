import Derived.Test.YteehgedabdchcaaGreatKay
import Derived.Test.YteehgedabdchcaaGreatKba
set_option linter.all false
set_option maxRecDepth 1000000
set_option maxHeartbeats 16000000
namespace Go.Proofs.YteehgedabdchcaaGreat
section
open Go.RowKit Hp
attribute [local go_sem ↓] Go.wp_at_zero Go.wp_at_succ
def Al.Cq (S:Al)(i:Nat)(h:AD):TR:=
 if (S.Be i).e=0 then⟨(S.Be i).S,⟨h.b+1,0,h.r,h.r,false⟩,⟨3,0,(S.Be i).v⟩⟩ else⟨(S.Be i).S,h.back,⟨3,(S.Be i).e,0⟩⟩
def Al.CK (S:Al)(i:Nat)(l:Nat)(h:AD):TR:=
 if (S.AO i).2=0 then⟨(S.AO i).1,⟨h.b,0,h.r,h.r,true⟩,⟨1,0,S.now⟩⟩ else⟨(S.AO i).1,⟨l,h.n,h.r,h.s,h.l⟩,⟨1,(S.AO i).2,0⟩⟩
def Al.Bn (S:Al)(i:Nat)(l:List (List Ay))(h:AD):TR:=
 if (l.length:Int)<=h.b then⟨S,h,⟨0,0,0⟩⟩
 else if h.l=false then S.CK i l.length h
 else match (l.getD h.b.toNat [])[h.n.toNat]? with
 | none=>S.Cq i h
 | some d=>S.A6 i h d
structure TZ (S:Al)(i:Nat)(l:List (List Ay))(h:AD):Prop where
 inv:Inv S
 lt:i<S.Aw.length
 lv:(S.t i).live=h.l
 rg:P9 S h.r
 n:0<=h.n/\h.n<=4096
 b:0<=h.b/\h.b<=4096
 dk:∀ ds ∈ l,∀ d ∈ ds,d.ok/\Pg.right d.D=true
section
variable {w w' : World} {o o' : Own} {y : A3} {S : Al} {i : Nat}
theorem qn5 (hS:Ap w o y S){vb:Value}{l:List (List Ay)}(hB:Dc w vb l)(h:AD)(hT:TZ S i l h) :
  Calls Tryz.prog 93 #[ptr y.sb,.int .i64 i,vb,h.v] w fun e' w'=>e'=.returned (.tuple #[(S.Bn i l h).h.v,(S.Bn i l h).a.val])/\Left y (S.Bn i l h).S o w w':=by
 obtain⟨hb,hn,⟨a0,a1,a2,a3,a4,a5⟩,⟨s0,s1,s2,s3,s4,s5⟩,hl⟩:=h;have hn0:=hT.n;have hb0:=hT.b;have hlv:=hT.lv;simp only at hn0 hb0 hlv;by_cases hd:(l.length:Int)<=hb
 ·have e1:S.Bn i l ⟨hb,hn,⟨a0,a1,a2,a3,a4,a5⟩,⟨s0,s1,s2,s3,s4,s5⟩,hl⟩=⟨S,⟨hb,hn,⟨a0,a1,a2,a3,a4,a5⟩,⟨s0,s1,s2,s3,s4,s5⟩,hl⟩,⟨0,0,0⟩⟩:=if_pos hd
  rw[e1];obtain⟨a,c,rfl,_⟩:=hB;refine (Xc hb hn a0 a1 a2 a3 a4 a5 s0 s1 s2 s3 s4 s5 hl (ptr y.sb) a l.length c i hd w).mono ?_
  rintro e' w' ⟨rfl,h1⟩
  exact⟨rfl,o,hS.below h1,hT.inv,Stp.of_below h1⟩
 ·have hb2:hb<(l.length:Int):=by omega
  cases hl with
  | false =>
   have e1:S.Bn i l ⟨hb,hn,⟨a0,a1,a2,a3,a4,a5⟩,⟨s0,s1,s2,s3,s4,s5⟩,false⟩=S.CK i l.length ⟨hb,hn,⟨a0,a1,a2,a3,a4,a5⟩,⟨s0,s1,s2,s3,s4,s5⟩,false⟩:=by unfold Al.Bn;rw[if_neg hd,if_pos rfl]
   rw[e1];unfold Al.CK;by_cases he:(S.AO i).2=0
   ·rw[if_pos he]
    exact U0 hS hb hn a0 a1 a2 a3 a4 a5 s0 s1 s2 s3 s4 s5 vb l hB hb0.1 hb2 hn0.1 _ _ _ (fun X o2 hX=>V6 hX hT.inv hb hn a0 a1 a2 a3 a4 a5 s0 s1 s2 s3 s4 s5 false l.length hT.lt he)
   ·rw[if_neg he]
    exact U0 hS hb hn a0 a1 a2 a3 a4 a5 s0 s1 s2 s3 s4 s5 vb l hB hb0.1 hb2 hn0.1 _ _ _ (fun X o2 hX=>WA hX hT.inv hb hn a0 a1 a2 a3 a4 a5 s0 s1 s2 s3 s4 s5 false l.length hT.lt he)
  | true =>
   have hc:S.Dy i=true:=decide_eq_true hT.lt;have hlt:hb.toNat<l.length:=by omega
   have e0:l.getD hb.toNat []=l[hb.toNat]:=by rw[Qi,Qb hlt];rfl
   have e1:S.Bn i l ⟨hb,hn,⟨a0,a1,a2,a3,a4,a5⟩,⟨s0,s1,s2,s3,s4,s5⟩,true⟩=match (l[hb.toNat])[hn.toNat]? with
     | none=>S.Cq i ⟨hb,hn,⟨a0,a1,a2,a3,a4,a5⟩,⟨s0,s1,s2,s3,s4,s5⟩,true⟩
     | some d=>S.A6 i ⟨hb,hn,⟨a0,a1,a2,a3,a4,a5⟩,⟨s0,s1,s2,s3,s4,s5⟩,true⟩ d:=by
    unfold Al.Bn;rw[if_neg hd,if_neg (by simp)];rw[e0]
   rw[e1]
   cases hdm:(l[hb.toNat])[hn.toNat]? with
   | none =>
    have hnd:∀ ds,l[hb.toNat]?=some ds->(ds.length:Int)<=hn:=fun ds hds=>by
     rw[Qb hlt]at hds;injection hds with hds;subst hds;have:=List.getElem?_eq_none_iff.1 hdm;omega
    simp only;unfold Al.Cq;by_cases he:(S.Be i).e=0
    ·rw[if_pos he]
     exact tb hS hb hn a0 a1 a2 a3 a4 a5 s0 s1 s2 s3 s4 s5 vb l hB hb0.1 hb2 hn0.1 hnd _ _ _ (fun X o2 hX=>qjs hX hT.inv hb hn a0 a1 a2 a3 a4 a5 s0 s1 s2 s3 s4 s5 true hc he hb0)
    ·rw[if_neg he]
     exact tb hS hb hn a0 a1 a2 a3 a4 a5 s0 s1 s2 s3 s4 s5 vb l hB hb0.1 hb2 hn0.1 hnd _ _ _ (fun X o2 hX=>qjc hX hT.inv hb hn a0 a1 a2 a3 a4 a5 s0 s1 s2 s3 s4 s5 true hc he)
   | some d =>
    obtain⟨hdo,FL⟩:=hT.dk (l[hb.toNat]) (List.getElem_mem hlt) d (Qe hdm);simp only;exact XC hS hb hn a0 a1 a2 a3 a4 a5 s0 s1 s2 s3 s4 s5 vb l hB hb0.1 hb2 hn0.1 d ⟨_,Qb hlt,hdm⟩ FL _ _ _ (fun X o2 hX=>Xh hX ⟨hb,hn,⟨a0,a1,a2,a3,a4,a5⟩,⟨s0,s1,s2,s3,s4,s5⟩,true⟩ d hdo ⟨hT.inv,hc,hlv,hT.rg,hn0,hb0⟩)
end
end
section
open Hp
structure Ty (i:Nat)(S S':Al):Prop where
 len:S'.Aw.length=S.Aw.length
 DY:∀ j,j≠i->S'.t j=S.t j
 most:S'.most=S.most
 next:S'.next=S.next
 came:S'.came=S.came
 lost:S'.lost=S.lost
 ph:S'.ph=S.ph
section
variable {i : Nat} {S S' S2 : Al}
theorem Ty.refl (i:Nat)(S:Al):Ty i S S:=⟨rfl,fun _ _=>rfl,rfl,rfl,rfl,rfl,rfl⟩
theorem Mv.ty (m:Mv i S S'):Ty i S S':=⟨m.len,m.DY,m.most,m.next,m.came,m.lost,m.ph⟩
theorem Ed.ty (m:Ed i S S'):Ty i S S':=⟨m.len,m.DY,m.most,m.next,m.came,m.lost,m.ph⟩
theorem Ft (H:Hp)(p j:Nat):(H.Cz p j).2=0\/(H.Cz p j).2=70\/(H.Cz p j).2=71:=by
 unfold Hp.Cz;split
 ·simp
 ·split<;>simp
theorem N4 (H:Hp)(p j:Nat):(H.A5 p j).2.2=0\/(H.A5 p j).2.2=70\/(H.A5 p j).2.2=71:=by
 unfold Hp.A5;split
 ·simp
 ·split
  ·simp
  ·split<;>simp
theorem U3 (H:Hp)(p j:Nat)(n:Int):(H.Bm p j n).2=0\/(H.Bm p j n).2=70\/(H.Bm p j n).2=71:=by
 unfold Hp.Bm;split
 ·simp
 ·split<;>simp
theorem VL (H:Hp)(p j q:Nat):(H.A9 p j q).2=0\/(H.A9 p j q).2=70\/(H.A9 p j q).2=71:=by
 unfold Hp.A9;split
 ·simp
 ·split
  ·simp
  ·split<;>simp
theorem U6 (H:Hp)(p:Nat)(b:Bool):(H.AS p b).2=0\/(H.AS p b).2=70:=by
 unfold Hp.AS;split<;>simp
theorem Q7 (S:Al)(i p:Nat):(S.AK i p).2.1=0\/(S.AK i p).2.1=143\/(S.AK i p).2.1=70\/(S.AK i p).2.1=141\/(S.AK i p).2.1=142\/(S.AK i p).2.1=130:=by
 unfold Al.AK;split
 ·simp
 ·split
  ·simp
  ·split
   ·simp
   ·simp only
    split
    ·split<;>simp
    ·simp
theorem tn (S:Al)(i p:Nat):(S.Ar i p).2≠140:=by
 unfold Al.Ar;simp only;split
 ·split<;>simp
 ·rcases Q7 S i p with h|h|h|h|h|h<;>rw[h]<;>simp
theorem Hy (S:Al)(i p:Nat)(u:Un)(set:Hp->Hp×Nat)(h:∀ H,(set H).2≠140):(S.Cd i p u set).e≠140:=by
 unfold Al.Cd;split
 ·simp
 ·split
  ·simp
  ·simp only;have:=h (((S.A2 i p).1.BC i u).1.H);omega
theorem Jq (S:Al)(i p j:Nat):(S.Ct i p j).e≠140:=by
 unfold Al.Ct;split
 ·exact tn S i p
 ·simp only;have:=Ft (S.Ar i p).1.H p j;omega
theorem Ml (S:Al)(i p j:Nat):(S.CX i p j).e≠140:=by
 unfold Al.CX;split
 ·exact tn S i p
 ·simp only;have:=N4 (S.Ar i p).1.H p j;omega
theorem Uu (S:Al)(i p j:Nat)(v:Int):(S.BE i p j v).e≠140:=by
 unfold Al.BE;split
 ·exact tn S i p
 ·split
  ·simp only;have:=Ft (S.Ar i p).1.H p j;omega
  ·exact Hy _ _ _ _ _ fun H=>by have:=U3 H p j v;omega
theorem Ms (S:Al)(i p j q:Nat):(S.Dk i p j q).e≠140:=by
 unfold Al.Dk;split
 ·simp
 ·unfold Al.C9
  split
  ·exact tn S i p
  ·split
   ·simp only;have:=N4 (S.Ar i p).1.H p j;omega
   ·exact Hy _ _ _ _ _ fun H=>by have:=VL H p j q;omega
theorem Gc (S:Al)(i p:Nat):(S.Ch i p).e≠140:=by
 unfold Al.Ch;split
 ·rcases Q7 S i p with h|h|h|h|h|h<;>simp only[h]<;>simp
 ·exact Hy _ _ _ _ _ fun H=>by have:=U6 H p true;omega
theorem Mi (S:Al)(i:Nat)(s:B3):(S.Bh i s).2.2=0\/(S.Bh i s).2.2=100\/(S.Bh i s).2.2=130:=by
 unfold Al.Bh;split
 ·simp
 ·split<;>simp
theorem QK (S:Al)(i:Nat)(s:B3):(S.AM i s).e≠140:=by
 have:=Mi S i s;show (S.Bh i s).2.2≠140;omega
theorem Jp (S:Al)(i q:Nat):(S.BK i q).e≠140:=by
 unfold Al.BK;split
 ·simp
 ·split
  ·simp
  ·split
   ·have:=Mi S i Dt;simp only;omega
   ·simp
theorem F5 (S:Al)(i p:Nat):(S.Ca i p).e≠140:=by
 unfold Al.Ca;split
 ·rcases Q7 S i p with h|h|h|h|h|h<;>simp only[h]<;>simp
 ·split
  ·simp
  ·split
   ·simp only;have:=N4 (S.AK i p).1.H p 0;omega
   ·unfold Al.CC
    split
    ·simp
    ·split<;>simp
theorem Jo (S:Al)(i:Nat):(S.B9 i).e=0\/(S.B9 i).e=141:=by
 unfold Al.B9;split
 ·simp
 ·split
  ·simp
  ·split<;>simp
theorem H7 (S:Al)(i:Nat):(S.AQ i).e=0\/(S.AQ i).e=141:=by
 unfold Al.AQ;split
 ·simp
 ·split<;>simp
theorem KC {r:Bv}{i:Nat}(h:∃ p:Nat,r.v=p):∃ p:Nat,(r.fin i).v=p:=by
 unfold Bv.fin;split
 ·exact⟨0,rfl⟩
 ·split
  ·exact h
  ·exact⟨0,rfl⟩
theorem gr {S:Al}{r:Bv}{i:Nat}(h:∃ p:Nat,r.v=p):∃ p:Nat,(S.AH i r).v=p:=by
 unfold Al.AH;split
 ·exact KC h
 ·exact⟨0,rfl⟩
theorem VP (S:Al)(i:Nat)(s:B3):∃ p:Nat,(S.alloc i s).v=p:=gr ⟨_,rfl⟩
theorem Hj (S:Al)(i q:Nat):∃ p:Nat,(S.Az i q).v=p:=gr (by
 unfold Al.BK;split
 ·exact⟨0,rfl⟩
 ·split
  ·exact⟨0,rfl⟩
  ·split
   ·exact⟨0,rfl⟩
   ·exact⟨_,rfl⟩)
theorem KV (S:Al)(i p j:Nat):∃ q:Nat,(S.get i p j).v=q:=gr (by
 unfold Al.CX;split
 ·exact⟨0,rfl⟩
 ·exact⟨_,rfl⟩)
theorem Ke (S:Al)(i p:Nat):∃ q:Nat,(S.load i p).v=q:=gr (by
 unfold Al.Ca;split
 ·exact⟨0,rfl⟩
 ·split
  ·exact⟨0,rfl⟩
  ·split
   ·exact⟨0,rfl⟩
   ·unfold Al.CC
    split
    ·exact⟨0,rfl⟩
    ·split
     ·exact⟨_,rfl⟩
     ·exact⟨0,rfl⟩)
theorem Gq (S:Al)(i:Nat):∃ q:Nat,(S.take i).v=q:=gr (by
 unfold Al.B9;split
 ·exact⟨0,rfl⟩
 ·split
  ·exact⟨0,rfl⟩
  ·split
   ·exact⟨0,rfl⟩
   ·exact⟨_,rfl⟩)
def Fq (r:R6):Prop:=∀ j,j<6->∃ p:Nat,r.get j=p
theorem Fq.XQ {r:R6}(h:Fq r)(S:Al):P9 S r:=fun j hj=>let⟨p,hp⟩:=h j hj;⟨p,hp,trivial⟩
theorem Fq.set {r:R6}(h:Fq r){A:Nat}(hA:A<6){v:Int}(hv:∃ p:Nat,v=p):Fq (r.set v A):=by
 intro j hj;rcases six hA with rfl|rfl|rfl|rfl|rfl|rfl<;>rcases six hj with rfl|rfl|rfl|rfl|rfl|rfl<;>first|exact hv|exact h 0 (by omega)|exact h 1 (by omega)|exact h 2 (by omega)|exact h 3 (by omega)|exact h 4 (by omega)|exact h 5 (by omega)
structure Cp (l:List (List Ay))(h:AD):Prop where
 r:Fq h.r
 s:Fq h.s
 n:0<=h.n
 b:0<=h.b/\h.b<=l.length
 at':h.l=true->h.b<l.length/\h.n<=(l.getD h.b.toNat []).length
 idle:h.l=false->h.n=0/\h.r=h.s
theorem Cp.back {l:List (List Ay)}{h:AD}(t:Cp l h):Cp l h.back:=
 ⟨t.s,t.s,Int.le_refl _,t.b,fun h=>by simp[AD.back]at h,fun _=>⟨rfl,rfl⟩⟩
theorem Cp.Mt {l:List (List Ay)}{h:AD}(t:Cp l h)(hl:h.l=true):Cp l { h.back with b:=h.b+1 }:=by
 have hb:=t.b;have:=(t.at' hl).1;exact⟨t.s,t.s,Int.le_refl _,⟨by simp only;omega,by simp only;omega⟩,fun h=>by simp[AD.back]at h,fun _=>⟨rfl,rfl⟩⟩
theorem Cp.on {l:List (List Ay)}{h:AD}(t:Cp l h)(hl:h.l=true)(hn:h.n<(l.getD h.b.toNat []).length):Cp l { h with n:=h.n+1 }:=by
 have:=t.n;exact⟨t.r,t.s,by simp only;omega,t.b,fun _=>⟨(t.at' hl).1,by simp only;omega⟩,fun h'=>by simp only at h';rw[hl]at h';cases h'⟩
theorem Cp.put {l:List (List Ay)}{h:AD}(t:Cp l h)(hl:h.l=true){A:Nat}(hA:A<6){v:Int}(hv:∃ p:Nat,v=p):Cp l (h.put A v):=
 ⟨t.r.set hA hv,t.s,t.n,t.b,t.at',fun h'=>by have:h.l=false:=h';rw[hl]at this;cases this⟩
structure E6 (l:List (List Ay))(S:Al)(i:Nat)(h:AD):Prop where
 th:Cp l h
 lv:(S.t i).live=h.l
theorem EV {e:Int}:ry e=true↔e=141\/e=130\/e=100:=by unfold ry;simp only[Bool.or_eq_true,beq_iff_eq,or_assoc]
theorem TN {l:List (List Ay)}{h h':AD}{r:Bv}(t:Cp l h)(hl:h.l=true)(hn:h.n<(l.getD h.b.toNat []).length)(hlv:(S.t i).live=true)(hi:i<S.Aw.length)(m:Mv i S r.S)(he:r.e≠140)
  (t':Cp l h')(e1:h'.b=h.b)(e2:h'.n=h.n)(e3:h'.l=h.l)(e4:h'.s=h.s) :
  E6 l (S.AH i r).S i (if (S.AH i r).e=0 then h'.ended 0 else h.ended (S.AH i r).e)/\Ty i S (S.AH i r).S:=by
 rcases LX m hi hlv with⟨h1,h2,_,h4⟩|⟨h1,h2,h4⟩
 ·rw[h4]
  have ha:=EV.1 h1;refine⟨⟨?_,?_⟩,h2.ty⟩
  ·rw[if_neg (by omega)]
   unfold AD.ended;by_cases h141:r.e=141
   ·rw[if_pos (.inl h141)];exact t.back
   ·rw[if_neg (by omega),if_pos (by omega)];exact t.Mt hl
  ·rw[h2.dead,if_neg (by omega)]
   unfold AD.ended;by_cases h141:r.e=141
   ·rw[if_pos (.inl h141)];rfl
   ·rw[if_neg (by omega),if_pos (by omega)];rfl
 ·rw[h4]
  have ha:¬(r.e=141\/r.e=130\/r.e=100):=fun h=>by rw[EV.2 h]at h1;cases h1
  refine⟨?_,h2.ty⟩;by_cases h0:r.e=0
  ·rw[if_pos h0]
   unfold AD.ended;rw[if_neg (by omega),if_neg (by omega)]
   refine⟨t'.on (by rw[e3];exact hl) (by rw[e1,e2];exact hn),?_⟩
   rw[h2.lv,hlv];show true=h'.l;rw[e3,hl]
  ·rw[if_neg h0]
   unfold AD.ended;rw[if_neg (by omega),if_neg (by omega)]
   exact⟨t.on hl hn,by rw[h2.lv,hlv];exact hl.symm⟩
theorem WV {h:AD}{e:Int}:(if e=0 then h.ended 0 else h.ended e)=h.ended e:=by
 split
 ·rename_i h0;rw[h0]
 ·rfl
theorem NX {l:List (List Ay)}{h:AD}{r:Bv}(t:Cp l h)(hl:h.l=true)(hn:h.n<(l.getD h.b.toNat []).length)(hlv:(S.t i).live=true)(hi:i<S.Aw.length)(m:Mv i S r.S)(he:r.e≠140){A:Nat}(hA:A<6)(hv:∃ p:Nat,(S.AH i r).v=p) :
  E6 l (CQ (S.AH i r) h A).S i (CQ (S.AH i r) h A).h/\Ty i S (CQ (S.AH i r) h A).S:=
 TN t hl hn hlv hi m he (t.put hl hA hv) rfl rfl rfl rfl
theorem QM {l:List (List Ay)}{h:AD}{r:Bv}(t:Cp l h)(hl:h.l=true)(hn:h.n<(l.getD h.b.toNat []).length)(hlv:(S.t i).live=true)(hi:i<S.Aw.length)(m:Mv i S r.S)(he:r.e≠140)(v:Int) :
  E6 l (vy (S.AH i r).S v (S.AH i r).e h).S i (vy (S.AH i r).S v (S.AH i r).e h).h/\Ty i S (vy (S.AH i r).S v (S.AH i r).e h).S:=by
 have:=TN t hl hn hlv hi m he t rfl rfl rfl rfl;rw[WV]at this;exact this
theorem Xu {l:List (List Ay)} {h:AD} (t:Cp l h) (hl:h.l=true) (hn:h.n<(l.getD h.b.toNat []).length) (hlv:(S.t i).live=true) (hi:i<S.Aw.length) {d:Ay} (hd:d.ok) :
  E6 l (S.A6 i h d).S i (S.A6 i h d).h/\Ty i S (S.A6 i h d).S:=by
 have hk:=hd.k;by_cases k1:d.k=1
 ·rw[gv _ _ _ _ k1];exact NX t hl hn hlv hi (Mv.AM _ _ _) (QK _ _ _) hd.A (VP _ _ _)
 by_cases k2:d.k=2
 ·rw[dc _ _ _ _ k2];exact NX t hl hn hlv hi (Mv.AM _ _ _) (QK _ _ _) hd.A (VP _ _ _)
 by_cases k3:d.k=3
 ·rw[fx _ _ _ _ k3];exact NX t hl hn hlv hi (Mv.BK _ _ _) (Jp _ _ _) hd.A (Hj _ _ _)
 by_cases k4:d.k=4
 ·rw[gw _ _ _ _ k4];exact NX t hl hn hlv hi (Mv.CX _ _ _ _) (Ml _ _ _ _) hd.A (KV _ _ _ _)
 by_cases k9:d.k=9
 ·rw[gx _ _ _ _ k9];exact NX t hl hn hlv hi (Mv.Ca _ _ _) (F5 _ _ _) hd.A (Ke _ _ _)
 by_cases k10:d.k=10
 ·rw[px _ _ _ _ k10];exact NX t hl hn hlv hi (Mv.B9 _ _) (by have:=Jo S i;omega) hd.A (Gq _ _)
 by_cases k5:d.k=5
 ·rw[dd _ _ _ _ k5];exact QM t hl hn hlv hi (Mv.Dk _ _ _ _ _) (Ms _ _ _ _ _) _
 by_cases k6:d.k=6
 ·rw[fz _ _ _ _ k6];exact QM t hl hn hlv hi (Mv.Ct _ _ _ _) (Jq _ _ _ _) _
 by_cases k7:d.k=7
 ·rw[ff _ _ _ _ k7];exact QM t hl hn hlv hi (Mv.BE _ _ _ _ _) (Uu _ _ _ _ _) _
 by_cases k8:d.k=8
 ·rw[fw _ _ _ _ k8];exact QM t hl hn hlv hi (Mv.Ch _ _ _) (Gc _ _ _) _
 by_cases k11:d.k=11
 ·rw[pi _ _ _ _ k11]
  exact⟨⟨t.on hl hn,hlv.trans hl.symm⟩,Ty.refl _ _⟩
 by_cases k12:d.k=12
 ·rw[ux _ _ _ _ k12]
  exact⟨⟨(t.put hl hd.A ⟨_,rfl⟩).on hl hn,hlv.trans hl.symm⟩,Ty.refl _ _⟩
 by_cases k13:d.k=13
 ·rw[pd _ _ _ _ k13]
  exact⟨⟨(t.put hl hd.A ⟨0,rfl⟩).on hl hn,hlv.trans hl.symm⟩,Ty.refl _ _⟩
 ·rw[py _ _ _ _ (by omega)]
  have e:=Ed.abort (S:=S) hi;exact⟨⟨t.Mt hl,e.dead⟩,e.ty⟩
theorem qd5 {l:List (List Ay)}{h:AD}(t:Cp l h)(hl:h.l=true)(hlv:(S.t i).live=true)(hi:i<S.Aw.length) :
  E6 l (S.Cq i h).S i (S.Cq i h).h/\Ty i S (S.Cq i h).S:=by
 have e1:S.Be i=(S.AQ i).fin i:=if_pos hlv;have hb:=t.b;have hlt:=(t.at' hl).1;unfold Al.Cq;rcases H7 S i with h0|h0
 ·have hf:(S.AQ i).fin i=S.AQ i:=by unfold Bv.fin;rw[if_neg (by rw[h0];decide),if_pos h0]
  rw[e1,hf,if_pos h0];have hc:(S.AQ i).S=S.tx i (S.t i).ended\/(S.AQ i).S=(S.BS i).tx i (S.t i).ended:=by
   unfold Al.AQ at h0 ⊢;by_cases a:(S.t i).log.holds=[]/\S.Av≠(i:Int)
   ·rw[if_pos a];exact .inl rfl
   ·rw[if_neg a]at h0 ⊢
    by_cases c:S.BW i=true
    ·rw[if_pos c]at h0;simp at h0
    ·rw[if_neg c];exact .inr rfl
  have ht:∀ j,(S.BS i).t j=S.t j:=fun j=>by unfold Al.BS;split<;>rfl
  have hl':(S.BS i).Aw.length=S.Aw.length:=by unfold Al.BS;split<;>rfl
  refine⟨⟨⟨t.r,t.r,Int.le_refl _,⟨by simp only;omega,by simp only;omega⟩,fun h=>(by simp at h),fun _=>⟨rfl,rfl⟩⟩,?_⟩,?_⟩
  ·rcases hc with hc|hc
   ·simp only[hc,Al.CO hi];rfl
   ·simp only[hc,Al.CO (show i<(S.BS i).Aw.length by omega)];rfl
  ·rcases hc with hc|hc
   ·simp only[hc]
    exact⟨Al.Cg _ _ _,fun j h=>Al.Dm _ (fun e=>h e.symm) _,rfl,rfl,rfl,rfl,rfl⟩
   ·simp only[hc]
    refine⟨(Al.Cg _ _ _).trans hl',fun j h=>(Al.Dm _ (fun e=>h e.symm) _).trans (ht j),?_,?_,?_,?_,?_⟩
    all_goals (unfold Al.tx Al.BS;split<;>rfl)
 ·have hs:(S.AQ i).S=S:=by
   unfold Al.AQ at h0 ⊢;by_cases a:(S.t i).log.holds=[]/\S.Av≠(i:Int)
   ·rw[if_pos a]at h0;simp at h0
   ·rw[if_neg a]at h0 ⊢
    by_cases c:S.BW i=true
    ·rw[if_pos c]
    ·rw[if_neg c]at h0;simp at h0
  have hf:(S.AQ i).fin i=⟨S.abort i,0,141⟩:=by unfold Bv.fin;rw[if_pos (by rw[h0];decide),hs,h0]
  rw[e1,hf,if_neg (by simp)]
  have e:=Ed.abort (S:=S) hi;exact⟨⟨t.back,e.dead⟩,e.ty⟩
theorem YF {l:List (List Ay)}{h:AD}(t:Cp l h)(hl:h.l=false)(hb:h.b<l.length)(hlv:(S.t i).live=false)(hi:i<S.Aw.length) :
  E6 l (S.CK i l.length h).S i (S.CK i l.length h).h/\Ty i S (S.CK i l.length h).S:=by
 have hb0:=t.b;have e:S.AO i=if S.now+(js S.Aw+1)<=S.most then (S.tx i ((S.t i).begun S.now S.next),0) else (S,120):=by
  unfold Al.AO;rw[if_neg (by rw[hlv];simp)]
 unfold Al.CK;by_cases m:S.now+(js S.Aw+1)<=S.most
 ·rw[if_pos m]at e
  rw[e,if_pos rfl];refine⟨⟨⟨t.r,t.r,Int.le_refl _,t.b,fun _=>⟨hb,Int.natCast_nonneg _⟩,fun h=>(by simp at h)⟩,?_⟩,?_⟩
  ·simp only[Al.CO hi];rfl
  ·exact⟨Al.Cg _ _ _,fun j h=>Al.Dm _ (fun e=>h e.symm) _,rfl,rfl,rfl,rfl,rfl⟩
 ·rw[if_neg m]at e
  rw[e,if_neg (by simp)]
  exact⟨⟨⟨t.r,t.s,t.n,⟨by simp only;omega,Int.le_refl _⟩,fun h'=>(by simp only at h';rw[hl]at h';cases h'),fun _=>t.idle hl⟩,by simp only;rw[hlv,hl]⟩,Ty.refl _ _⟩
theorem VQ {l:List (List Ay)}{h:AD}(t:E6 l S i h)(hi:i<S.Aw.length)(hd:∀ ds ∈ l,∀ d ∈ ds,d.ok) :
  E6 l (S.Bn i l h).S i (S.Bn i l h).h/\Ty i S (S.Bn i l h).S:=by
 unfold Al.Bn;have hb:=t.th.b;have hn:=t.th.n;split
 ·exact⟨t,Ty.refl _ _⟩
 ·rename_i h1
  split
  ·rename_i h2
   exact YF t.th h2 (by omega) (t.lv.trans h2) hi
  ·rename_i h2
   have hl:h.l=true:=by simpa using h2
   have hlv:=t.lv.trans hl;have hat:=t.th.at' hl;split
   ·exact qd5 t.th hl hlv hi
   ·rename_i d hdm
    have hlt:h.b.toNat<l.length:=by omega
    have e0:l.getD h.b.toNat []=l[h.b.toNat]:=by rw[Qi,Qb hlt];rfl
    have hdd:d.ok:=by
     rw[e0]at hdm;exact hd _ (List.getElem_mem hlt) d (Qe hdm)
    refine Xu t.th hl ?_ hlv hi hdd;have:=(Qc.1 hdm).1;omega
end
end
end Go.Proofs.YteehgedabdchcaaGreat
