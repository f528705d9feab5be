import Derived.Test.YteehgedabdchcaaGreatKay
import Derived.Test.YteehgedabdchcaaGreatKba
set_option linter.all false
set_option maxRecDepth 1000000
set_option maxHeartbeats 16000000
namespace Go.Proofs.YteehgedabdchcaaGreat
open Go.RowKit Hp
attribute [local go_sem ↓] Go.wp_at_zero Go.wp_at_succ
def Stt.tcommit (S:Stt)(i:Nat)(h:ThV):TR:=
 if (S.commit i).e=0 then⟨(S.commit i).S,⟨h.b+1,0,h.r,h.r,false⟩,⟨3,0,(S.commit i).v⟩⟩ else⟨(S.commit i).S,h.back,⟨3,(S.commit i).e,0⟩⟩
def Stt.tbegin (S:Stt)(i:Nat)(l:Nat)(h:ThV):TR:=
 if (S.beginR i).2=0 then⟨(S.beginR i).1,⟨h.b,0,h.r,h.r,true⟩,⟨1,0,S.now⟩⟩ else⟨(S.beginR i).1,⟨l,h.n,h.r,h.s,h.l⟩,⟨1,(S.beginR i).2,0⟩⟩
def Stt.tstep (S:Stt)(i:Nat)(l:List (List DeedV))(h:ThV):TR:=
 if (l.length:Int)≤h.b then⟨S,h,⟨0,0,0⟩⟩
 else if h.l=false then S.tbegin i l.length h
 else match (l.getD h.b.toNat [])[h.n.toNat]? with
 | none=>S.tcommit i h
 | some d=>S.tdeed i h d
structure Tst (S:Stt)(i:Nat)(l:List (List DeedV))(h:ThV):Prop where
 inv:Inv S
 lt:i<S.txs.length
 lv:(S.t i).live=h.l
 rg:Rgs S h.r
 n:0≤h.n∧h.n≤4096
 b:0≤h.b∧h.b≤4096
 dk:∀ ds ∈ l,∀ d ∈ ds,d.ok∧Pg.right d.D=true
section
variable {w w' : World} {o o' : Own} {y : SLay} {S : Stt} {i : Nat}
theorem qm9 (hS:StIn w o y S){vb:Value}{l:List (List DeedV)}(hB:BlksAt w vb l)(h:ThV)(hT:Tst S i l h) :
  Calls Tryz.prog 93 #[ptr y.sb,.int .i64 i,vb,h.v] w fun e' w'=>e'=.returned (.tuple #[(S.tstep i l h).h.v,(S.tstep i l h).a.val])∧Left y (S.tstep i l h).S o w w':=by
 obtain⟨hb,hn,⟨a0,a1,a2,a3,a4,a5⟩,⟨s0,s1,s2,s3,s4,s5⟩,hl⟩:=h;have hn0:=hT.n;have hb0:=hT.b;have hlv:=hT.lv;simp only at hn0 hb0 hlv;by_cases hd:(l.length:Int)≤hb
 ·have e1:S.tstep i l ⟨hb,hn,⟨a0,a1,a2,a3,a4,a5⟩,⟨s0,s1,s2,s3,s4,s5⟩,hl⟩=⟨S,⟨hb,hn,⟨a0,a1,a2,a3,a4,a5⟩,⟨s0,s1,s2,s3,s4,s5⟩,hl⟩,⟨0,0,0⟩⟩:=if_pos hd
  rw[e1];obtain⟨a,c,rfl,_⟩:=hB;refine (qix hb hn a0 a1 a2 a3 a4 a5 s0 s1 s2 s3 s4 s5 hl (ptr y.sb) a l.length c i hd w).mono ?_
  rintro e' w' ⟨rfl,h1⟩
  exact⟨rfl,o,hS.below h1,hT.inv,Stp.of_below h1⟩
 ·have hb2:hb<(l.length:Int):=by omega
  cases hl with
  | false =>
   have e1:S.tstep i l ⟨hb,hn,⟨a0,a1,a2,a3,a4,a5⟩,⟨s0,s1,s2,s3,s4,s5⟩,false⟩=S.tbegin i l.length ⟨hb,hn,⟨a0,a1,a2,a3,a4,a5⟩,⟨s0,s1,s2,s3,s4,s5⟩,false⟩:=by unfold Stt.tstep;rw[if_neg hd,if_pos rfl]
   rw[e1];unfold Stt.tbegin;by_cases he:(S.beginR i).2=0
   ·rw[if_pos he]
    exact qa7 hS hb hn a0 a1 a2 a3 a4 a5 s0 s1 s2 s3 s4 s5 vb l hB hb0.1 hb2 hn0.1 _ _ _ (fun X o2 hX=>qls hX hT.inv hb hn a0 a1 a2 a3 a4 a5 s0 s1 s2 s3 s4 s5 false l.length hT.lt he)
   ·rw[if_neg he]
    exact qa7 hS hb hn a0 a1 a2 a3 a4 a5 s0 s1 s2 s3 s4 s5 vb l hB hb0.1 hb2 hn0.1 _ _ _ (fun X o2 hX=>ql7 hX hT.inv hb hn a0 a1 a2 a3 a4 a5 s0 s1 s2 s3 s4 s5 false l.length hT.lt he)
  | true =>
   have hc:S.chk i=true:=decide_eq_true hT.lt;have hlt:hb.toNat<l.length:=by omega
   have e0:l.getD hb.toNat []=l[hb.toNat]:=by rw[List.getD_eq_getElem?_getD,List.getElem?_eq_getElem hlt];rfl
   have e1:S.tstep i l ⟨hb,hn,⟨a0,a1,a2,a3,a4,a5⟩,⟨s0,s1,s2,s3,s4,s5⟩,true⟩=match (l[hb.toNat])[hn.toNat]? with
     | none=>S.tcommit i ⟨hb,hn,⟨a0,a1,a2,a3,a4,a5⟩,⟨s0,s1,s2,s3,s4,s5⟩,true⟩
     | some d=>S.tdeed i ⟨hb,hn,⟨a0,a1,a2,a3,a4,a5⟩,⟨s0,s1,s2,s3,s4,s5⟩,true⟩ d:=by
    unfold Stt.tstep;rw[if_neg hd,if_neg (by simp)];rw[e0]
   rw[e1]
   cases hdm:(l[hb.toNat])[hn.toNat]? with
   | none =>
    have hnd:∀ ds,l[hb.toNat]?=some ds→(ds.length:Int)≤hn:=fun ds hds=>by
     rw[List.getElem?_eq_getElem hlt]at hds;injection hds with hds;subst hds;have:=List.getElem?_eq_none_iff.1 hdm;omega
    simp only;unfold Stt.tcommit;by_cases he:(S.commit i).e=0
    ·rw[if_pos he]
     exact sj hS hb hn a0 a1 a2 a3 a4 a5 s0 s1 s2 s3 s4 s5 vb l hB hb0.1 hb2 hn0.1 hnd _ _ _ (fun X o2 hX=>qh1 hX hT.inv hb hn a0 a1 a2 a3 a4 a5 s0 s1 s2 s3 s4 s5 true hc he hb0)
    ·rw[if_neg he]
     exact sj hS hb hn a0 a1 a2 a3 a4 a5 s0 s1 s2 s3 s4 s5 vb l hB hb0.1 hb2 hn0.1 hnd _ _ _ (fun X o2 hX=>qid hX hT.inv hb hn a0 a1 a2 a3 a4 a5 s0 s1 s2 s3 s4 s5 true hc he)
   | some d =>
    obtain⟨hdo,hdr⟩:=hT.dk (l[hb.toNat]) (List.getElem_mem hlt) d (List.mem_of_getElem? hdm);simp only;exact qjv hS hb hn a0 a1 a2 a3 a4 a5 s0 s1 s2 s3 s4 s5 vb l hB hb0.1 hb2 hn0.1 d ⟨_,List.getElem?_eq_getElem hlt,hdm⟩ hdr _ _ _ (fun X o2 hX=>qmb hX ⟨hb,hn,⟨a0,a1,a2,a3,a4,a5⟩,⟨s0,s1,s2,s3,s4,s5⟩,true⟩ d hdo ⟨hT.inv,hc,hlv,hT.rg,hn0,hb0⟩)
end
end Go.Proofs.YteehgedabdchcaaGreat
namespace Go.Proofs.YteehgedabdchcaaGreat
open Hp
structure Ty (i:Nat)(S S':Stt):Prop where
 len:S'.txs.length=S.txs.length
 oth:∀ j,j≠i→S'.t j=S.t j
 most:S'.most=S.most
 next:S'.next=S.next
 came:S'.came=S.came
 lost:S'.lost=S.lost
 ph:S'.ph=S.ph
section
variable {i : Nat} {S S' S2 : Stt}
theorem Ty.refl (i:Nat)(S:Stt):Ty i S S:=⟨rfl,fun _ _=>rfl,rfl,rfl,rfl,rfl,rfl⟩
theorem Mv.ty (m:Mv i S S'):Ty i S S':=⟨m.len,m.oth,m.most,m.next,m.came,m.lost,m.ph⟩
theorem Ed.ty (m:Ed i S S'):Ty i S S':=⟨m.len,m.oth,m.most,m.next,m.came,m.lost,m.ph⟩
theorem num_e (H:Hp)(p j:Nat):(H.numR p j).2=0∨(H.numR p j).2=70∨(H.numR p j).2=71:=by
 unfold Hp.numR;split
 ·simp
 ·split<;>simp
theorem ptr_e (H:Hp)(p j:Nat):(H.ptrR p j).2.2=0∨(H.ptrR p j).2.2=70∨(H.ptrR p j).2.2=71:=by
 unfold Hp.ptrR;split
 ·simp
 ·split
  ·simp
  ·split<;>simp
theorem setNum_e (H:Hp)(p j:Nat)(n:Int):(H.setNumR p j n).2=0∨(H.setNumR p j n).2=70∨(H.setNumR p j n).2=71:=by
 unfold Hp.setNumR;split
 ·simp
 ·split<;>simp
theorem setPtr_e (H:Hp)(p j q:Nat):(H.setPtrR p j q).2=0∨(H.setPtrR p j q).2=70∨(H.setPtrR p j q).2=71:=by
 unfold Hp.setPtrR;split
 ·simp
 ·split
  ·simp
  ·split<;>simp
theorem qjm (H:Hp)(p:Nat)(b:Bool):(H.setFreedR p b).2=0∨(H.setFreedR p b).2=70:=by
 unfold Hp.setFreedR;split<;>simp
theorem qio (S:Stt)(i p:Nat):(S.lookR i p).2.1=0∨(S.lookR i p).2.1=143∨(S.lookR i p).2.1=70∨(S.lookR i p).2.1=141∨(S.lookR i p).2.1=142∨(S.lookR i p).2.1=130:=by
 unfold Stt.lookR;split
 ·simp
 ·split
  ·simp
  ·split
   ·simp
   ·simp only
    split
    ·split<;>simp
    ·simp
theorem rx (S:Stt)(i p:Nat):(S.fieldsR i p).2≠140:=by
 unfold Stt.fieldsR;simp only;split
 ·split<;>simp
 ·rcases qio S i p with h|h|h|h|h|h<;>rw[h]<;>simp
theorem chg_e (S:Stt)(i p:Nat)(u:Un)(set:Hp→Hp×Nat)(h:∀ H,(set H).2≠140):(S.chg i p u set).e≠140:=by
 unfold Stt.chg;split
 ·simp
 ·split
  ·simp
  ·simp only;have:=h (((S.holdR i p).1.undoR i u).1.H);omega
theorem read_e (S:Stt)(i p j:Nat):(S.readR i p j).e≠140:=by
 unfold Stt.readR;split
 ·exact rx S i p
 ·simp only;have:=num_e (S.fieldsR i p).1.H p j;omega
theorem get_e (S:Stt)(i p j:Nat):(S.getR i p j).e≠140:=by
 unfold Stt.getR;split
 ·exact rx S i p
 ·simp only;have:=ptr_e (S.fieldsR i p).1.H p j;omega
theorem write_e (S:Stt)(i p j:Nat)(v:Int):(S.writeR i p j v).e≠140:=by
 unfold Stt.writeR;split
 ·exact rx S i p
 ·split
  ·simp only;have:=num_e (S.fieldsR i p).1.H p j;omega
  ·exact chg_e _ _ _ _ _ fun H=>by have:=setNum_e H p j v;omega
theorem put_e (S:Stt)(i p j q:Nat):(S.putR i p j q).e≠140:=by
 unfold Stt.putR;split
 ·simp
 ·unfold Stt.put1R
  split
  ·exact rx S i p
  ·split
   ·simp only;have:=ptr_e (S.fieldsR i p).1.H p j;omega
   ·exact chg_e _ _ _ _ _ fun H=>by have:=setPtr_e H p j q;omega
theorem free_e (S:Stt)(i p:Nat):(S.freeR i p).e≠140:=by
 unfold Stt.freeR;split
 ·rcases qio S i p with h|h|h|h|h|h<;>simp only[h]<;>simp
 ·exact chg_e _ _ _ _ _ fun H=>by have:=qjm H p true;omega
theorem lay_e (S:Stt)(i:Nat)(s:Shp):(S.layR i s).2.2=0∨(S.layR i s).2.2=100∨(S.layR i s).2.2=130:=by
 unfold Stt.layR;split
 ·simp
 ·split<;>simp
theorem qkc (S:Stt)(i:Nat)(s:Shp):(S.allocR i s).e≠140:=by
 have:=lay_e S i s;show (S.layR i s).2.2≠140;omega
theorem weak_e (S:Stt)(i q:Nat):(S.weakR i q).e≠140:=by
 unfold Stt.weakR;split
 ·simp
 ·split
  ·simp
  ·split
   ·have:=lay_e S i wkS;simp only;omega
   ·simp
theorem load_e (S:Stt)(i p:Nat):(S.loadR i p).e≠140:=by
 unfold Stt.loadR;split
 ·rcases qio S i p with h|h|h|h|h|h<;>simp only[h]<;>simp
 ·split
  ·simp
  ·split
   ·simp only;have:=ptr_e (S.lookR i p).1.H p 0;omega
   ·unfold Stt.keepR
    split
    ·simp
    ·split<;>simp
theorem take_e (S:Stt)(i:Nat):(S.takeR i).e=0∨(S.takeR i).e=141:=by
 unfold Stt.takeR;split
 ·simp
 ·split
  ·simp
  ·split<;>simp
theorem qf3 (S:Stt)(i:Nat):(S.commitR i).e=0∨(S.commitR i).e=141:=by
 unfold Stt.commitR;split
 ·simp
 ·split<;>simp
theorem fin_nat {r:Res}{i:Nat}(h:∃ p:Nat,r.v=p):∃ p:Nat,(r.fin i).v=p:=by
 unfold Res.fin;split
 ·exact⟨0,rfl⟩
 ·split
  ·exact h
  ·exact⟨0,rfl⟩
theorem gz {S:Stt}{r:Res}{i:Nat}(h:∃ p:Nat,r.v=p):∃ p:Nat,(S.deedR i r).v=p:=by
 unfold Stt.deedR;split
 ·exact fin_nat h
 ·exact⟨0,rfl⟩
theorem qdz (S:Stt)(i:Nat)(s:Shp):∃ p:Nat,(S.alloc i s).v=p:=gz ⟨_,rfl⟩
theorem weak_nat (S:Stt)(i q:Nat):∃ p:Nat,(S.weak i q).v=p:=gz (by
 unfold Stt.weakR;split
 ·exact⟨0,rfl⟩
 ·split
  ·exact⟨0,rfl⟩
  ·split
   ·exact⟨0,rfl⟩
   ·exact⟨_,rfl⟩)
theorem get_nat (S:Stt)(i p j:Nat):∃ q:Nat,(S.get i p j).v=q:=gz (by
 unfold Stt.getR;split
 ·exact⟨0,rfl⟩
 ·exact⟨_,rfl⟩)
theorem load_nat (S:Stt)(i p:Nat):∃ q:Nat,(S.load i p).v=q:=gz (by
 unfold Stt.loadR;split
 ·exact⟨0,rfl⟩
 ·split
  ·exact⟨0,rfl⟩
  ·split
   ·exact⟨0,rfl⟩
   ·unfold Stt.keepR
    split
    ·exact⟨0,rfl⟩
    ·split
     ·exact⟨_,rfl⟩
     ·exact⟨0,rfl⟩)
theorem take_nat (S:Stt)(i:Nat):∃ q:Nat,(S.take i).v=q:=gz (by
 unfold Stt.takeR;split
 ·exact⟨0,rfl⟩
 ·split
  ·exact⟨0,rfl⟩
  ·split
   ·exact⟨0,rfl⟩
   ·exact⟨_,rfl⟩)
def RgN (r:R6):Prop:=∀ j,j<6→∃ p:Nat,r.get j=p
theorem RgN.rgs {r:R6}(h:RgN r)(S:Stt):Rgs S r:=fun j hj=>let⟨p,hp⟩:=h j hj;⟨p,hp,trivial⟩
theorem RgN.set {r:R6}(h:RgN r){A:Nat}(hA:A<6){v:Int}(hv:∃ p:Nat,v=p):RgN (r.set v A):=by
 intro j hj;rcases six hA with rfl|rfl|rfl|rfl|rfl|rfl<;>rcases six hj with rfl|rfl|rfl|rfl|rfl|rfl<;>first|exact hv|exact h 0 (by omega)|exact h 1 (by omega)|exact h 2 (by omega)|exact h 3 (by omega)|exact h 4 (by omega)|exact h 5 (by omega)
structure ThOk (l:List (List DeedV))(h:ThV):Prop where
 r:RgN h.r
 s:RgN h.s
 n:0≤h.n
 b:0≤h.b∧h.b≤l.length
 at':h.l=true→h.b<l.length∧h.n≤(l.getD h.b.toNat []).length
 idle:h.l=false→h.n=0∧h.r=h.s
theorem ThOk.back {l:List (List DeedV)}{h:ThV}(t:ThOk l h):ThOk l h.back:=
 ⟨t.s,t.s,Int.le_refl _,t.b,fun h=>by simp[ThV.back]at h,fun _=>⟨rfl,rfl⟩⟩
theorem ThOk.back1 {l:List (List DeedV)}{h:ThV}(t:ThOk l h)(hl:h.l=true):ThOk l { h.back with b:=h.b+1 }:=by
 have hb:=t.b;have:=(t.at' hl).1;exact⟨t.s,t.s,Int.le_refl _,⟨by simp only;omega,by simp only;omega⟩,fun h=>by simp[ThV.back]at h,fun _=>⟨rfl,rfl⟩⟩
theorem ThOk.on {l:List (List DeedV)}{h:ThV}(t:ThOk l h)(hl:h.l=true)(hn:h.n<(l.getD h.b.toNat []).length):ThOk l { h with n:=h.n+1 }:=by
 have:=t.n;exact⟨t.r,t.s,by simp only;omega,t.b,fun _=>⟨(t.at' hl).1,by simp only;omega⟩,fun h'=>by simp only at h';rw[hl]at h';cases h'⟩
theorem ThOk.put {l:List (List DeedV)}{h:ThV}(t:ThOk l h)(hl:h.l=true){A:Nat}(hA:A<6){v:Int}(hv:∃ p:Nat,v=p):ThOk l (h.put A v):=
 ⟨t.r.set hA hv,t.s,t.n,t.b,t.at',fun h'=>by have:h.l=false:=h';rw[hl]at this;cases this⟩
structure TOk (l:List (List DeedV))(S:Stt)(i:Nat)(h:ThV):Prop where
 th:ThOk l h
 lv:(S.t i).live=h.l
theorem isAb_iff {e:Int}:isAb e=true↔e=141∨e=130∨e=100:=by unfold isAb;simp only[Bool.or_eq_true,beq_iff_eq,or_assoc]
theorem qky {l:List (List DeedV)}{h h':ThV}{r:Res}(t:ThOk l h)(hl:h.l=true)(hn:h.n<(l.getD h.b.toNat []).length)(hlv:(S.t i).live=true)(hi:i<S.txs.length)(m:Mv i S r.S)(he:r.e≠140)
  (t':ThOk l h')(e1:h'.b=h.b)(e2:h'.n=h.n)(e3:h'.l=h.l)(e4:h'.s=h.s) :
  TOk l (S.deedR i r).S i (if (S.deedR i r).e=0 then h'.ended 0 else h.ended (S.deedR i r).e)∧Ty i S (S.deedR i r).S:=by
 rcases qko m hi hlv with⟨h1,h2,_,h4⟩|⟨h1,h2,h4⟩
 ·rw[h4]
  have ha:=isAb_iff.1 h1;refine⟨⟨?_,?_⟩,h2.ty⟩
  ·rw[if_neg (by omega)]
   unfold ThV.ended;by_cases h141:r.e=141
   ·rw[if_pos (.inl h141)];exact t.back
   ·rw[if_neg (by omega),if_pos (by omega)];exact t.back1 hl
  ·rw[h2.dead,if_neg (by omega)]
   unfold ThV.ended;by_cases h141:r.e=141
   ·rw[if_pos (.inl h141)];rfl
   ·rw[if_neg (by omega),if_pos (by omega)];rfl
 ·rw[h4]
  have ha:¬(r.e=141∨r.e=130∨r.e=100):=fun h=>by rw[isAb_iff.2 h]at h1;cases h1
  refine⟨?_,h2.ty⟩;by_cases h0:r.e=0
  ·rw[if_pos h0]
   unfold ThV.ended;rw[if_neg (by omega),if_neg (by omega)]
   refine⟨t'.on (by rw[e3];exact hl) (by rw[e1,e2];exact hn),?_⟩
   rw[h2.lv,hlv];show true=h'.l;rw[e3,hl]
  ·rw[if_neg h0]
   unfold ThV.ended;rw[if_neg (by omega),if_neg (by omega)]
   exact⟨t.on hl hn,by rw[h2.lv,hlv];exact hl.symm⟩
theorem qm6 {h:ThV}{e:Int}:(if e=0 then h.ended 0 else h.ended e)=h.ended e:=by
 split
 ·rename_i h0;rw[h0]
 ·rfl
theorem lw {l:List (List DeedV)}{h:ThV}{r:Res}(t:ThOk l h)(hl:h.l=true)(hn:h.n<(l.getD h.b.toNat []).length)(hlv:(S.t i).live=true)(hi:i<S.txs.length)(m:Mv i S r.S)(he:r.e≠140){A:Nat}(hA:A<6)(hv:∃ p:Nat,(S.deedR i r).v=p) :
  TOk l (bj (S.deedR i r) h A).S i (bj (S.deedR i r) h A).h∧Ty i S (bj (S.deedR i r) h A).S:=
 qky t hl hn hlv hi m he (t.put hl hA hv) rfl rfl rfl rfl
theorem qfa {l:List (List DeedV)}{h:ThV}{r:Res}(t:ThOk l h)(hl:h.l=true)(hn:h.n<(l.getD h.b.toNat []).length)(hlv:(S.t i).live=true)(hi:i<S.txs.length)(m:Mv i S r.S)(he:r.e≠140)(v:Int) :
  TOk l (xp (S.deedR i r).S v (S.deedR i r).e h).S i (xp (S.deedR i r).S v (S.deedR i r).e h).h∧Ty i S (xp (S.deedR i r).S v (S.deedR i r).e h).S:=by
 have:=qky t hl hn hlv hi m he t rfl rfl rfl rfl;rw[qm6]at this;exact this
theorem qgv {l:List (List DeedV)} {h:ThV} (t:ThOk l h) (hl:h.l=true) (hn:h.n<(l.getD h.b.toNat []).length) (hlv:(S.t i).live=true) (hi:i<S.txs.length) {d:DeedV} (hd:d.ok) :
  TOk l (S.tdeed i h d).S i (S.tdeed i h d).h∧Ty i S (S.tdeed i h d).S:=by
 have hk:=hd.k;by_cases k1:d.k=1
 ·rw[ry _ _ _ _ k1];exact lw t hl hn hlv hi (Mv.allocR _ _ _) (qkc _ _ _) hd.A (qdz _ _ _)
 by_cases k2:d.k=2
 ·rw[ni _ _ _ _ k2];exact lw t hl hn hlv hi (Mv.allocR _ _ _) (qkc _ _ _) hd.A (qdz _ _ _)
 by_cases k3:d.k=3
 ·rw[sn _ _ _ _ k3];exact lw t hl hn hlv hi (Mv.weakR _ _ _) (weak_e _ _ _) hd.A (weak_nat _ _ _)
 by_cases k4:d.k=4
 ·rw[co _ _ _ _ k4];exact lw t hl hn hlv hi (Mv.getR _ _ _ _) (get_e _ _ _ _) hd.A (get_nat _ _ _ _)
 by_cases k9:d.k=9
 ·rw[ce _ _ _ _ k9];exact lw t hl hn hlv hi (Mv.loadR _ _ _) (load_e _ _ _) hd.A (load_nat _ _ _)
 by_cases k10:d.k=10
 ·rw[fw _ _ _ _ k10];exact lw t hl hn hlv hi (Mv.takeR _ _) (by have:=take_e S i;omega) hd.A (take_nat _ _)
 by_cases k5:d.k=5
 ·rw[sm _ _ _ _ k5];exact qfa t hl hn hlv hi (Mv.putR _ _ _ _ _) (put_e _ _ _ _ _) _
 by_cases k6:d.k=6
 ·rw[nf _ _ _ _ k6];exact qfa t hl hn hlv hi (Mv.readR _ _ _ _) (read_e _ _ _ _) _
 by_cases k7:d.k=7
 ·rw[sa _ _ _ _ k7];exact qfa t hl hn hlv hi (Mv.writeR _ _ _ _ _) (write_e _ _ _ _ _) _
 by_cases k8:d.k=8
 ·rw[bw _ _ _ _ k8];exact qfa t hl hn hlv hi (Mv.freeR _ _ _) (free_e _ _ _) _
 by_cases k11:d.k=11
 ·rw[fx _ _ _ _ k11]
  exact⟨⟨t.on hl hn,hlv.trans hl.symm⟩,Ty.refl _ _⟩
 by_cases k12:d.k=12
 ·rw[ff _ _ _ _ k12]
  exact⟨⟨(t.put hl hd.A ⟨_,rfl⟩).on hl hn,hlv.trans hl.symm⟩,Ty.refl _ _⟩
 by_cases k13:d.k=13
 ·rw[fp _ _ _ _ k13]
  exact⟨⟨(t.put hl hd.A ⟨0,rfl⟩).on hl hn,hlv.trans hl.symm⟩,Ty.refl _ _⟩
 ·rw[fy _ _ _ _ (by omega)]
  have e:=Ed.abort (S:=S) hi;exact⟨⟨t.back1 hl,e.dead⟩,e.ty⟩
theorem qdo {l:List (List DeedV)}{h:ThV}(t:ThOk l h)(hl:h.l=true)(hlv:(S.t i).live=true)(hi:i<S.txs.length) :
  TOk l (S.tcommit i h).S i (S.tcommit i h).h∧Ty i S (S.tcommit i h).S:=by
 have e1:S.commit i=(S.commitR i).fin i:=if_pos hlv;have hb:=t.b;have hlt:=(t.at' hl).1;unfold Stt.tcommit;rcases qf3 S i with h0|h0
 ·have hf:(S.commitR i).fin i=S.commitR i:=by unfold Res.fin;rw[if_neg (by rw[h0];decide),if_pos h0]
  rw[e1,hf,if_pos h0];have hc:(S.commitR i).S=S.tx i (S.t i).ended∨(S.commitR i).S=(S.tickR i).tx i (S.t i).ended:=by
   unfold Stt.commitR at h0 ⊢;by_cases a:(S.t i).log.holds=[]∧S.holder≠(i:Int)
   ·rw[if_pos a];exact .inl rfl
   ·rw[if_neg a]at h0 ⊢
    by_cases c:S.clashes i=true
    ·rw[if_pos c]at h0;simp at h0
    ·rw[if_neg c];exact .inr rfl
  have ht:∀ j,(S.tickR i).t j=S.t j:=fun j=>by unfold Stt.tickR;split<;>rfl
  have hl':(S.tickR i).txs.length=S.txs.length:=by unfold Stt.tickR;split<;>rfl
  refine⟨⟨⟨t.r,t.r,Int.le_refl _,⟨by simp only;omega,by simp only;omega⟩,fun h=>(by simp at h),fun _=>⟨rfl,rfl⟩⟩,?_⟩,?_⟩
  ·rcases hc with hc|hc
   ·simp only[hc,Stt.tx_t hi];rfl
   ·simp only[hc,Stt.tx_t (show i<(S.tickR i).txs.length by omega)];rfl
  ·rcases hc with hc|hc
   ·simp only[hc]
    exact⟨Stt.tx_len _ _ _,fun j h=>Stt.tx_ne _ (fun e=>h e.symm) _,rfl,rfl,rfl,rfl,rfl⟩
   ·simp only[hc]
    refine⟨(Stt.tx_len _ _ _).trans hl',fun j h=>(Stt.tx_ne _ (fun e=>h e.symm) _).trans (ht j),?_,?_,?_,?_,?_⟩
    all_goals (unfold Stt.tx Stt.tickR;split<;>rfl)
 ·have hs:(S.commitR i).S=S:=by
   unfold Stt.commitR at h0 ⊢;by_cases a:(S.t i).log.holds=[]∧S.holder≠(i:Int)
   ·rw[if_pos a]at h0;simp at h0
   ·rw[if_neg a]at h0 ⊢
    by_cases c:S.clashes i=true
    ·rw[if_pos c]
    ·rw[if_neg c]at h0;simp at h0
  have hf:(S.commitR i).fin i=⟨S.abort i,0,141⟩:=by unfold Res.fin;rw[if_pos (by rw[h0];decide),hs,h0]
  rw[e1,hf,if_neg (by simp)]
  have e:=Ed.abort (S:=S) hi;exact⟨⟨t.back,e.dead⟩,e.ty⟩
theorem qfk {l:List (List DeedV)}{h:ThV}(t:ThOk l h)(hl:h.l=false)(hb:h.b<l.length)(hlv:(S.t i).live=false)(hi:i<S.txs.length) :
  TOk l (S.tbegin i l.length h).S i (S.tbegin i l.length h).h∧Ty i S (S.tbegin i l.length h).S:=by
 have hb0:=t.b;have e:S.beginR i=if S.now+(ju S.txs+1)≤S.most then (S.tx i ((S.t i).begun S.now S.next),0) else (S,120):=by
  unfold Stt.beginR;rw[if_neg (by rw[hlv];simp)]
 unfold Stt.tbegin;by_cases m:S.now+(ju S.txs+1)≤S.most
 ·rw[if_pos m]at e
  rw[e,if_pos rfl];refine⟨⟨⟨t.r,t.r,Int.le_refl _,t.b,fun _=>⟨hb,Int.natCast_nonneg _⟩,fun h=>(by simp at h)⟩,?_⟩,?_⟩
  ·simp only[Stt.tx_t hi];rfl
  ·exact⟨Stt.tx_len _ _ _,fun j h=>Stt.tx_ne _ (fun e=>h e.symm) _,rfl,rfl,rfl,rfl,rfl⟩
 ·rw[if_neg m]at e
  rw[e,if_neg (by simp)]
  exact⟨⟨⟨t.r,t.s,t.n,⟨by simp only;omega,Int.le_refl _⟩,fun h'=>(by simp only at h';rw[hl]at h';cases h'),fun _=>t.idle hl⟩,by simp only;rw[hlv,hl]⟩,Ty.refl _ _⟩
theorem qg4 {l:List (List DeedV)}{h:ThV}(t:TOk l S i h)(hi:i<S.txs.length)(hd:∀ ds ∈ l,∀ d ∈ ds,d.ok) :
  TOk l (S.tstep i l h).S i (S.tstep i l h).h∧Ty i S (S.tstep i l h).S:=by
 unfold Stt.tstep;have hb:=t.th.b;have hn:=t.th.n;split
 ·exact⟨t,Ty.refl _ _⟩
 ·rename_i h1
  split
  ·rename_i h2
   exact qfk t.th h2 (by omega) (t.lv.trans h2) hi
  ·rename_i h2
   have hl:h.l=true:=by simpa using h2
   have hlv:=t.lv.trans hl;have hat:=t.th.at' hl;split
   ·exact qdo t.th hl hlv hi
   ·rename_i d hdm
    have hlt:h.b.toNat<l.length:=by omega
    have e0:l.getD h.b.toNat []=l[h.b.toNat]:=by rw[List.getD_eq_getElem?_getD,List.getElem?_eq_getElem hlt];rfl
    have hdd:d.ok:=by
     rw[e0]at hdm;exact hd _ (List.getElem_mem hlt) d (List.mem_of_getElem? hdm)
    refine qgv t.th hl ?_ hlv hi hdd;have:=(List.getElem?_eq_some_iff.1 hdm).1;omega
end
end Go.Proofs.YteehgedabdchcaaGreat
