import Derived.Test.YtgndecmkhhdkjaaGreatKar
set_option linter.all false
set_option maxRecDepth 1000000
set_option maxHeartbeats 0
open Go renaming World->Aa,Calls->Ab,Value->Ac
open Go.RowKit renaming Below->Ae
open Go.Value renaming int->I,pointer->Ah,slice->Ai,tuple->Ak,agg->Al
open Go.IntKind renaming i64->Z
open Go.Ending renaming returned->O
open And renaming intro->Ad
open List renaming setIfInBounds_toArray->Aj,set_cons_zero->aa,set_cons_succ->af,take_length->ai,take_add_one->aj,length_drop->ay,getElem_cons_succ->aA,getElem_cons_zero->aB,drop_left'->aC,getElem_toArray->aD,append_assoc->aH,take_left'->aI,nil_append->aJ
open Nat renaming zero_le->ag,zero_add->aG
open Go.Value renaming slice->aF,int->aK
open Go.Proofs.Tryz
open Go.Proofs.Tryz renaming prog->ANa
open Go.Obj renaming cells->ANb
namespace Go.Proofs.YtgndecmkhhdkjaaGreat
section
open Go.RowKit Hp
attribute [local go_sem ↓] Go.wp_at_zero Go.wp_at_succ
structure TR where
 S:Am
 h:AE
 a:BD
def me (R:B2)(h:AE)(A:Nat):TR:=⟨R.S,h.D3 A R.v R.e,Gz (R.S.Bc R.v.toNat) R.e⟩
def ko (S:Am)(v e:Int)(h:AE):TR:=⟨S,h.ended e,ky v e⟩
def AE.at (h:AE)(A:Nat):Nat:=(h.r.get A).toNat
def Am.A7 (S:Am)(i:Nat)(h:AE)(d:AD):TR:=
 if d.k=1 then me (S.alloc i ⟨d.i.toNat,d.n.toNat,false,false⟩) h d.A
 else if d.k=2 then me (S.alloc i ⟨d.i.toNat,d.n.toNat,false,true⟩) h d.A
 else if d.k=3 then me (S.AA i (h.at d.B)) h d.A
 else if d.k=4 then me (S.get i (h.at d.B) d.i.toNat) h d.A
 else if d.k=9 then me (S.load i (h.at d.B)) h d.A
 else if d.k=10 then me (S.take i) h d.A
 else if d.k=5 then ko (S.put i (h.at d.A) d.i.toNat (h.at d.B)).S 0 (S.put i (h.at d.A) d.i.toNat (h.at d.B)).e h
 else if d.k=6 then ko (S.read i (h.at d.A) d.i.toNat).S (S.read i (h.at d.A) d.i.toNat).v (S.read i (h.at d.A) d.i.toNat).e h
 else if d.k=7 then ko (S.write i (h.at d.A) d.i.toNat d.n).S 0 (S.write i (h.at d.A) d.i.toNat d.n).e h
 else if d.k=8 then ko (S.free i (h.at d.A)).S 0 (S.free i (h.at d.A)).e h
 else if d.k=11 then ko S (if h.at d.A=h.at d.B then 1 else 0) 0 h
 else if d.k=12 then ko S 0 0 (h.put d.A (h.at d.B))
 else if d.k=13 then ko S 0 0 (h.put d.A 0)
 else ⟨S.abort i,{ h.back with b:=h.b+1 },⟨2,0,0⟩⟩
def UD (S:Am)(i:Nat)(h:AE)(d:AD)(e:d.k=1):S.A7 i h d=me (S.alloc i ⟨d.i.toNat,d.n.toNat,false,false⟩) h d.A:=by
 unfold Am.A7;rw[if_pos e]
def Uu (S:Am)(i:Nat)(h:AE)(d:AD)(e:d.k=2):S.A7 i h d=me (S.alloc i ⟨d.i.toNat,d.n.toNat,false,true⟩) h d.A:=by
 unfold Am.A7;rw[if_neg (show ¬d.k=1 by omega),if_pos e]
def Uy (S:Am)(i:Nat)(h:AE)(d:AD)(e:d.k=3):S.A7 i h d=me (S.AA i (h.at d.B)) h d.A:=by
 unfold Am.A7;rw[if_neg (show ¬d.k=1 by omega),if_neg (show ¬d.k=2 by omega),if_pos e]
def UK (S:Am)(i:Nat)(h:AE)(d:AD)(e:d.k=4):S.A7 i h d=me (S.get i (h.at d.B) d.i.toNat) h d.A:=by
 unfold Am.A7;rw[if_neg (show ¬d.k=1 by omega),if_neg (show ¬d.k=2 by omega),if_neg (show ¬d.k=3 by omega),if_pos e]
def UL (S:Am)(i:Nat)(h:AE)(d:AD)(e:d.k=9):S.A7 i h d=me (S.load i (h.at d.B)) h d.A:=by
 unfold Am.A7;rw[if_neg (show ¬d.k=1 by omega),if_neg (show ¬d.k=2 by omega),if_neg (show ¬d.k=3 by omega),if_neg (show ¬d.k=4 by omega),if_pos e]
def Ub (S:Am)(i:Nat)(h:AE)(d:AD)(e:d.k=10):S.A7 i h d=me (S.take i) h d.A:=by
 unfold Am.A7;rw[if_neg (show ¬d.k=1 by omega),if_neg (show ¬d.k=2 by omega),if_neg (show ¬d.k=3 by omega),if_neg (show ¬d.k=4 by omega),if_neg (show ¬d.k=9 by omega),if_pos e]
def UM (S:Am)(i:Nat)(h:AE)(d:AD)(e:d.k=5):S.A7 i h d=ko (S.put i (h.at d.A) d.i.toNat (h.at d.B)).S 0 (S.put i (h.at d.A) d.i.toNat (h.at d.B)).e h:=by
 unfold Am.A7;rw[if_neg (show ¬d.k=1 by omega),if_neg (show ¬d.k=2 by omega),if_neg (show ¬d.k=3 by omega),if_neg (show ¬d.k=4 by omega),if_neg (show ¬d.k=9 by omega),if_neg (show ¬d.k=10 by omega),if_pos e]
def UA (S:Am)(i:Nat)(h:AE)(d:AD)(e:d.k=6):S.A7 i h d=ko (S.read i (h.at d.A) d.i.toNat).S (S.read i (h.at d.A) d.i.toNat).v (S.read i (h.at d.A) d.i.toNat).e h:=by
 unfold Am.A7;rw[if_neg (show ¬d.k=1 by omega),if_neg (show ¬d.k=2 by omega),if_neg (show ¬d.k=3 by omega),if_neg (show ¬d.k=4 by omega),if_neg (show ¬d.k=9 by omega),if_neg (show ¬d.k=10 by omega),if_neg (show ¬d.k=5 by omega),if_pos e]
def UC (S:Am)(i:Nat)(h:AE)(d:AD)(e:d.k=7):S.A7 i h d=ko (S.write i (h.at d.A) d.i.toNat d.n).S 0 (S.write i (h.at d.A) d.i.toNat d.n).e h:=by
 unfold Am.A7;rw[if_neg (show ¬d.k=1 by omega),if_neg (show ¬d.k=2 by omega),if_neg (show ¬d.k=3 by omega),if_neg (show ¬d.k=4 by omega),if_neg (show ¬d.k=9 by omega),if_neg (show ¬d.k=10 by omega),if_neg (show ¬d.k=5 by omega),if_neg (show ¬d.k=6 by omega),if_pos e]
def Uv (S:Am)(i:Nat)(h:AE)(d:AD)(e:d.k=8):S.A7 i h d=ko (S.free i (h.at d.A)).S 0 (S.free i (h.at d.A)).e h:=by
 unfold Am.A7;rw[if_neg (show ¬d.k=1 by omega),if_neg (show ¬d.k=2 by omega),if_neg (show ¬d.k=3 by omega),if_neg (show ¬d.k=4 by omega),if_neg (show ¬d.k=9 by omega),if_neg (show ¬d.k=10 by omega),if_neg (show ¬d.k=5 by omega),if_neg (show ¬d.k=6 by omega),if_neg (show ¬d.k=7 by omega),if_pos e]
def TP (S:Am)(i:Nat)(h:AE)(d:AD)(e:d.k=11):S.A7 i h d=ko S (if h.at d.A=h.at d.B then 1 else 0) 0 h:=by
 unfold Am.A7;rw[if_neg (show ¬d.k=1 by omega),if_neg (show ¬d.k=2 by omega),if_neg (show ¬d.k=3 by omega),if_neg (show ¬d.k=4 by omega),if_neg (show ¬d.k=9 by omega),if_neg (show ¬d.k=10 by omega),if_neg (show ¬d.k=5 by omega),if_neg (show ¬d.k=6 by omega),if_neg (show ¬d.k=7 by omega),if_neg (show ¬d.k=8 by omega),if_pos e]
def TM (S:Am)(i:Nat)(h:AE)(d:AD)(e:d.k=12):S.A7 i h d=ko S 0 0 (h.put d.A (h.at d.B)):=by
 unfold Am.A7;rw[if_neg (show ¬d.k=1 by omega),if_neg (show ¬d.k=2 by omega),if_neg (show ¬d.k=3 by omega),if_neg (show ¬d.k=4 by omega),if_neg (show ¬d.k=9 by omega),if_neg (show ¬d.k=10 by omega),if_neg (show ¬d.k=5 by omega),if_neg (show ¬d.k=6 by omega),if_neg (show ¬d.k=7 by omega),if_neg (show ¬d.k=8 by omega),if_neg (show ¬d.k=11 by omega),if_pos e]
def T1 (S:Am)(i:Nat)(h:AE)(d:AD)(e:d.k=13):S.A7 i h d=ko S 0 0 (h.put d.A 0):=by
 unfold Am.A7;rw[if_neg (show ¬d.k=1 by omega),if_neg (show ¬d.k=2 by omega),if_neg (show ¬d.k=3 by omega),if_neg (show ¬d.k=4 by omega),if_neg (show ¬d.k=9 by omega),if_neg (show ¬d.k=10 by omega),if_neg (show ¬d.k=5 by omega),if_neg (show ¬d.k=6 by omega),if_neg (show ¬d.k=7 by omega),if_neg (show ¬d.k=8 by omega),if_neg (show ¬d.k=11 by omega),if_neg (show ¬d.k=12 by omega),if_pos e]
def T0 (S:Am)(i:Nat)(h:AE)(d:AD)(e:d.k=14):S.A7 i h d=⟨S.abort i,{ h.back with b:=h.b+1 },⟨2,0,0⟩⟩:=by
 unfold Am.A7;rw[if_neg (show ¬d.k=1 by omega),if_neg (show ¬d.k=2 by omega),if_neg (show ¬d.k=3 by omega),if_neg (show ¬d.k=4 by omega),if_neg (show ¬d.k=9 by omega),if_neg (show ¬d.k=10 by omega),if_neg (show ¬d.k=5 by omega),if_neg (show ¬d.k=6 by omega),if_neg (show ¬d.k=7 by omega),if_neg (show ¬d.k=8 by omega),if_neg (show ¬d.k=11 by omega),if_neg (show ¬d.k=12 by omega),if_neg (show ¬d.k=13 by omega)]
structure AD.ok (d:AD):Prop where
 k:1<=d.k/\d.k<=14
 A:d.A<6
 B:d.B<6
 i:0<=d.i
 n:-9223372036854775808<=d.n/\d.n<=9223372036854775807
 s:d.k=1\/d.k=2->d.i<=4/\0<=d.n/\d.n<=4
def Q0 (S:Am)(r:R6):Prop:=∀ j,j<6->∃ p:Nat,r.get j=p/\EL S p
def PU (R:B2):Prop:=R.e=0->∃ p:Nat,R.v=p/\EL R.S p
def Q0.at {S:Am}{h:AE}(hr:Q0 S h.r){A:Nat}(hA:A<6):h.r.get A=(h.at A:Int)/\EL S (h.at A):=by
 obtain⟨p,h1,h2⟩:=hr A hA;unfold AE.at;rw[h1,Int.toNat_natCast];exact⟨rfl,h2⟩
def LR {r:B2}(i:Nat)(h:∃ p:Nat,r.v=p):PU (r.fin i):=by
 intro _;unfold B2.fin;split
 ·exact⟨0,rfl,trivial⟩
 ·split
  ·obtain⟨p,h⟩:=h;exact⟨p,h,trivial⟩
  ·exact⟨0,rfl,trivial⟩
def dq (S:Am){r:B2}(i:Nat)(h:∃ p:Nat,r.v=p):PU (S.AF i r):=by
 unfold Am.AF;split
 ·exact LR i h
 ·exact fun _=>⟨0,rfl,trivial⟩
section
variable {w w' : Aa} {o o' : Own} {y : Bl} {S : Am} {i : Nat}
def XC (i:Nat)(s:BQ):PU (S.alloc i s):=dq S i ⟨_,rfl⟩
def KY (i q:Nat):PU (S.AA i q):=by
 refine dq S i ?_;unfold Am.BJ;split
 ·exact⟨0,rfl⟩
 ·split
  ·exact⟨0,rfl⟩
  ·split
   ·exact⟨0,rfl⟩
   ·exact⟨_,rfl⟩
def L3 (i p j:Nat):PU (S.get i p j):=by
 refine dq S i ?_;unfold Am.CK;split
 ·exact⟨0,rfl⟩
 ·exact⟨_,rfl⟩
def JB (i p:Nat):PU (S.load i p):=by
 refine dq S i ?_;unfold Am.BZ Am.Df;split
 ·exact⟨0,rfl⟩
 ·split
  ·exact⟨0,rfl⟩
  ·split
   ·exact⟨0,rfl⟩
   ·split
    ·exact⟨0,rfl⟩
    ·split
     ·exact⟨_,rfl⟩
     ·exact⟨0,rfl⟩
def KJ (i:Nat):PU (S.take i):=by
 refine dq S i ?_;unfold Am.Bp;split
 ·exact⟨0,rfl⟩
 ·split
  ·exact⟨0,rfl⟩
  ·split
   ·exact⟨0,rfl⟩
   ·exact⟨_,rfl⟩
structure Y1 (S:Am)(i:Nat)(h:AE):Prop where
 inv:Inv S
 DY:S.DY i=true
 lv:(S.t i).live=true
 rg:Q0 S h.r
 n:0<=h.n/\h.n<=4096
 b:0<=h.b/\h.b<=4096
def qoy (hS:Av w o y S)(h:AE)(d:AD)(hd:d.ok)(hT:Y1 S i h) :
  Ab ANa 62 #[ptr y.sb,i,d.v,h.v] w fun e' w'=>e'=O (Ak #[(S.A7 i h d).h.v,(S.A7 i h d).a.val])/\Left y (S.A7 i h d).S o w w':=by
 have hA:=hd.A;have hB:=hd.B;obtain⟨ea,pa⟩:=hT.rg.at hA;obtain⟨eb,pb⟩:=hT.rg.at hB;obtain⟨hb,hn,⟨a0,a1,a2,a3,a4,a5⟩,⟨s0,s1,s2,s3,s4,s5⟩,hl⟩:=h;obtain⟨k,A,B,fi,fn⟩:=d;have hn0:=hT.n;have hb0:=hT.b;have hk:=hd.k;have hi:=hd.i;have hfn:=hd.n;have hs:=hd.s;simp only at hA hB ea eb pa pb hn0 hb0 hk hi hfn hs;have hlt:=zz hT.DY;obtain rfl|rfl|rfl|rfl|rfl|rfl|rfl|rfl|rfl|rfl|rfl|rfl|rfl|rfl:k=1\/k=2\/k=3\/k=4\/k=5\/k=6\/k=7\/k=8\/k=9\/k=10\/k=11\/k=12\/k=13\/k=14:=by omega
 ·rw[UD _ _ _ _ rfl]
  exact y8 hS hT.inv hb hn a0 a1 a2 a3 a4 a5 s0 s1 s2 s3 s4 s5 hl A B fi fn _ _ 1 _ ⟨hT.DY,.inl ⟨rfl,rfl,⟨hi,(hs (.inl rfl)).1⟩,(hs (.inl rfl)).2⟩⟩ (XC i _) hA hB ea eb hn0 hb0
 ·rw[Uu _ _ _ _ rfl]
  exact y8 hS hT.inv hb hn a0 a1 a2 a3 a4 a5 s0 s1 s2 s3 s4 s5 hl A B fi fn _ _ 2 _ ⟨hT.DY,.inr (.inl ⟨rfl,rfl,⟨hi,(hs (.inr rfl)).1⟩,(hs (.inr rfl)).2⟩)⟩ (XC i _) hA hB ea eb hn0 hb0
 ·rw[Uy _ _ _ _ rfl]
  exact y8 hS hT.inv hb hn a0 a1 a2 a3 a4 a5 s0 s1 s2 s3 s4 s5 hl A B fi fn _ _ 3 _ ⟨hT.DY,.inr (.inr (.inl ⟨rfl,rfl,pb⟩))⟩ (KY i _) hA hB ea eb hn0 hb0
 ·rw[UK _ _ _ _ rfl]
  exact y8 hS hT.inv hb hn a0 a1 a2 a3 a4 a5 s0 s1 s2 s3 s4 s5 hl A B fi fn _ _ 4 _ ⟨hT.DY,.inr (.inr (.inr (.inl ⟨rfl,rfl,pb,hi⟩)))⟩ (L3 i _ _) hA hB ea eb hn0 hb0
 ·rw[UM _ _ _ _ rfl]
  exact fq hS hT.inv hb hn a0 a1 a2 a3 a4 a5 s0 s1 s2 s3 s4 s5 hl A B fi fn _ _ 1 5 0 _ ⟨hT.DY,pa,.inr (.inl ⟨rfl,rfl,rfl,rfl,pb,hi⟩)⟩ hA hB ea eb hn0 hb0
 ·rw[UA _ _ _ _ rfl]
  exact fq hS hT.inv hb hn a0 a1 a2 a3 a4 a5 s0 s1 s2 s3 s4 s5 hl A B fi fn _ _ 2 6 _ _ ⟨hT.DY,pa,.inr (.inr (.inl ⟨rfl,rfl,rfl,rfl,hi⟩))⟩ hA hB ea eb hn0 hb0
 ·rw[UC _ _ _ _ rfl]
  exact fq hS hT.inv hb hn a0 a1 a2 a3 a4 a5 s0 s1 s2 s3 s4 s5 hl A B fi fn _ _ 3 7 0 _ ⟨hT.DY,pa,.inr (.inr (.inr ⟨rfl,rfl,rfl,rfl,hi,hfn⟩))⟩ hA hB ea eb hn0 hb0
 ·rw[Uv _ _ _ _ rfl]
  exact fq hS hT.inv hb hn a0 a1 a2 a3 a4 a5 s0 s1 s2 s3 s4 s5 hl A B fi fn _ _ 0 8 0 _ ⟨hT.DY,pa,.inl ⟨rfl,rfl,rfl,rfl⟩⟩ hA hB ea eb hn0 hb0
 ·rw[UL _ _ _ _ rfl]
  exact y8 hS hT.inv hb hn a0 a1 a2 a3 a4 a5 s0 s1 s2 s3 s4 s5 hl A B fi fn _ _ 9 _ ⟨hT.DY,.inr (.inr (.inr (.inr (.inl ⟨rfl,rfl,pb⟩))))⟩ (JB i _) hA hB ea eb hn0 hb0
 ·rw[Ub _ _ _ _ rfl]
  exact y8 hS hT.inv hb hn a0 a1 a2 a3 a4 a5 s0 s1 s2 s3 s4 s5 hl A B fi fn _ _ 10 _ ⟨hT.DY,.inr (.inr (.inr (.inr (.inr ⟨rfl,rfl⟩))))⟩ (KJ i) hA hB ea eb hn0 hb0
 ·rw[TP _ _ _ _ rfl]
  by_cases hab:(AE.at ⟨hb,hn,⟨a0,a1,a2,a3,a4,a5⟩,⟨s0,s1,s2,s3,s4,s5⟩,hl⟩ A)=(AE.at ⟨hb,hn,⟨a0,a1,a2,a3,a4,a5⟩,⟨s0,s1,s2,s3,s4,s5⟩,hl⟩ B)
  ·rw[if_pos hab]
   exact WK hS hT.inv hb hn a0 a1 a2 a3 a4 a5 s0 s1 s2 s3 s4 s5 hl A B fi fn _ _ 1 (.inl ⟨hab,rfl⟩) hA hB ea eb hn0 hb0
  ·rw[if_neg hab]
   exact WK hS hT.inv hb hn a0 a1 a2 a3 a4 a5 s0 s1 s2 s3 s4 s5 hl A B fi fn _ _ 0 (.inr ⟨hab,rfl⟩) hA hB ea eb hn0 hb0
 ·rw[TM _ _ _ _ rfl]
  exact qm2 hS hT.inv hb hn a0 a1 a2 a3 a4 a5 s0 s1 s2 s3 s4 s5 hl A B fi fn _ _ hA hB ea eb hn0 hb0
 ·rw[T1 _ _ _ _ rfl]
  exact qq1 hS hT.inv hb hn a0 a1 a2 a3 a4 a5 s0 s1 s2 s3 s4 s5 hl A B fi fn _ _ hA hB ea eb hn0 hb0
 ·rw[T0 _ _ _ _ rfl]
  exact qj9 hS hT.inv hb hn a0 a1 a2 a3 a4 a5 s0 s1 s2 s3 s4 s5 hl A B fi fn _ _ hlt hT.lv hA hB ea eb hb0
end
section
variable {w w' : Aa} {o o' : Own} {y : Bl} {S : Am} {i : Nat}
def G6 {S:Am} {i:Nat} (hi:i<S.Au.length) (he:(S.AS i).2=0):((S.AS i).1.t i).live=true/\((S.AS i).1.t i).start=S.now:=by
 unfold Am.AS at he ⊢;split at he
 ·simp at he
 ·rename_i h1
  rw[if_neg h1];split at he
  ·rename_i h2
   rw[if_pos h2];have:((S.tx i ((S.t i).begun S.now S.next)).t i)=(S.t i).begun S.now S.next:=by
    have h3:(S.tx i ((S.t i).begun S.now S.next)).Au[i]?=some ((S.t i).begun S.now S.next):=by simp[Am.tx,hi]
    have h4:=Am.AW (S:=S.tx i ((S.t i).begun S.now S.next)) (i:=i) (by simpa [Am.tx] using hi)
    rw[h3]at h4;injection h4 with h4;exact h4.symm
   show ((S.tx i ((S.t i).begun S.now S.next)).t i).live=true/\((S.tx i ((S.t i).begun S.now S.next)).t i).start=S.now;rw[this];exact⟨rfl,rfl⟩
  ·simp at he
def qpk (hS:Av w o y S) (hI:Inv S) (hb hn a0 a1 a2 a3 a4 a5 s0 s1 s2 s3 s4 s5:Int) (hl:Bool) (nb:Int) (hi:i<S.Au.length) (he:(S.AS i).2=0) :
  Ab ANa 60 #[ptr y.sb,i,nb,Al #[hb,hn,a0,a1,a2,a3,a4,a5,s0,s1,s2,s3,s4,s5,hl]] w fun e' w'=>e'=O (Ak #[AE.v ⟨hb,0,⟨a0,a1,a2,a3,a4,a5⟩,⟨a0,a1,a2,a3,a4,a5⟩,true⟩,BD.val ⟨1,0,S.now⟩])/\Left y (S.AS i).1 o w w':=by
 obtain⟨o1,ho1,dN,hS0⟩:=PRe o w (y.l.id+1,0) (qi y);have h1:=hS.retag dN;clear dN
 have hbx:∀ b,w.1.size<=b->Du y (o1 b):=fun b hb=>by rw[ho1];exact qq hb
 clear ho1 hS;obtain⟨W,hW⟩:=Ja0 ((((w.alloc (ANb #[hb,hn,a0,a1,a2,a3,a4,a5,s0,s1,s2,s3,s4,s5,hl] 49)).alloc (ANb #[(),(),(),(),(),(),(),(),(),(),(),(),(),(),false] 49)).alloc (ANb #[(),(),()] 33)));have hbW:Ae w w W:=by rw[hW];exact qc (qc (qc (qd w) _) _) _
 have k7:An W w #[hb,hn,a0,a1,a2,a3,a4,a5,s0,s1,s2,s3,s4,s5,hl] 49:=by rw[hW];exact ((An.new w _ _).alloc _).alloc _
 have k8:An W (w.1.size+1) #[(),(),(),(),(),(),(),(),(),(),(),(),(),(),false] 49:=by rw[hW];exact (An.Ax _ _ _ _ _ (by simp) rfl).alloc _
 have k9:An W (w.1.size+1+1) #[(),(),()] 33:=by rw[hW];exact An.Ax _ _ _ _ _ (by simp) rfl
 have hSW:=h1.below hbW;have bX:Stp (qi y) o o1 w W:=hS0.trans (Stp.of_below hbW);have HC:=Qa (fun X o2 (h2:Av X o2 y S)=>by have:=Yi h2 hI hi;rw[he]at this;exact this)
 have hst:(((S.AS i).1).t i).live=true/\(((S.AS i).1).t i).start=S.now:=G6 hi he;have HL:=Qa (fun X o2 (h2:Av X o2 y (S.AS i).1) (h3:Inv (S.AS i).1)=>by have:=NV h2 h3 (i:=i) (by rw[qme];exact hi);rw[hst.1,hst.2]at this;simp only[if_true]at this;exact this)
 have HB:=Qa hbx;generalize (S.AS i).1=SB at *;generalize S.now=nw at *;clear hI hi he hst h1 hS0 hbx;go_in;go_wp2_with fail;rw[<-hW];clear hW;refine (HC.o _ _ hSW).mono ?_
 rintro e2 w2 ⟨rfl,o2,hS2,hI2,hs2⟩
 have nt:∀ b,w.1.size<=b->¬qi y (o1 b):=fun b q1=>mc (HB.o b q1)
 have tg:∀ b,w.1.size<=b->b<W.1.size->Du y (o2 b):=fun b q1 q2=>by have:=HB.o b q1;rw[<-hs2.tags b q2]at this;exact this
 have t7:=tg w (by omega) k7.lt
 have t8:=tg (w.1.size+1) (by omega) k8.lt
 have t9:=tg (w.1.size+1+1) (by omega) k9.lt
 replace k7:=k7.Ar hs2 (nt _ (by omega))
 replace k8:=k8.Ar hs2 (nt _ (by omega))
 replace k9:=k9.Ar hs2 (nt _ (by omega))
 have hs3:=bX.trans hs2;have HI2:=Qa hI2;obtain⟨w3,hw3⟩:=Ja0 (w2.alloc (ANb #[I Z 1,(),()] 33));have kA:An w3 w2 #[I Z 1,(),()] 33:=by rw[hw3];exact An.new _ _ _
 have hb3:Ae w2 w2 w3:=by rw[hw3];exact qc (qd _) _
 have l7:=k7.lt;have l8:=k8.lt;have l9:=k9.lt;replace k7:=k7.below hb3 k7.lt;replace k8:=k8.below hb3 k8.lt;replace k9:=k9.below hb3 k9.lt;have cZ:=hS2.below hb3;have HSA:=Qa (show Av (w3.setCell ⟨w2,2,none⟩ nw) o2 y SB from hS2.below (qo (by rw[hw3];exact qc (qd _) _) (Qk _) _))
 replace hs3:=hs3.trans (Stp.of_below hb3);have hsz:w.1.size<=w2.1.size:=by omega
 clear hs2 hSW bX HC tg nt hS2 hbW hb3;go_wp2_with fail;rw[<-hw3];clear hw3;refine (HL.o _ _ cZ hI2).mono ?_
 rintro e4 w4 ⟨rfl,rfl⟩
 have c7:=k7.cell;have z7:=k7.free;have l7':=k7.lt;have cA:=kA.cell;have zA:=kA.free;have lA:=kA.lt;have ne7:w.1.size≠w2.1.size:=by omega
 have fG:w2.1.size≠w.1.size:=by omega
 go_upto_region 9 with fail;clear c7 z7 l7' cA zA lA;obtain⟨bA,fU⟩:=Ja0 w2.1.size;rw[<-fU]at HSA kA ne7 fG hsz l7 l8 l9 ⊢;clear fU;obtain⟨V,hV⟩:=Ja0 ((((((((((w3.setCell ⟨bA,2,none⟩ nw).setCell ⟨w.1.size,14,none⟩ (.bool true)).setCell ⟨w,1,none⟩ (I Z 0)).setCell ⟨w,8,none⟩ a0).setCell ⟨w,9,none⟩ a1).setCell ⟨w.1.size,10,none⟩ a2).setCell ⟨w.1.size,11,none⟩ a3).setCell ⟨w.1.size,12,none⟩ a4).setCell ⟨w.1.size,13,none⟩ a5));rw[<-hV];have i7:An V w #[hb,(),a0,a1,a2,a3,a4,a5,a0,a1,a2,a3,a4,a5,true] 49:=by
  rw[hV];have k:=(((((((((k7.Ao (a:=⟨bA,2,none⟩) ne7 (I Z nw)).set 14 (.bool true)).set 1 (I Z 0)).set 8 a0).set 9 a1).set 10 a2).set 11 a3).set 12 a4).set 13 a5);simp only[Aj,aa,af]at k;exact k
 have iA:An V bA #[I Z 1,(),nw] 33:=by rw[hV];exact (((((((((kA.set 2 (I Z nw)).Ao (a:=⟨w.1.size,14,none⟩) fG (.bool true)).Ao (a:=⟨w,1,none⟩) fG (I Z 0)).Ao (a:=⟨w,8,none⟩) fG (I Z a0)).Ao (a:=⟨w,9,none⟩) fG (I Z a1)).Ao (a:=⟨w.1.size,10,none⟩) fG (I Z a2)).Ao (a:=⟨w.1.size,11,none⟩) fG (I Z a3)).Ao (a:=⟨w.1.size,12,none⟩) fG (I Z a4)).Ao (a:=⟨w.1.size,13,none⟩) fG (I Z a5))
 have hw1:Wr bA w3 (w3.setCell ⟨bA,2,none⟩ nw):=Wr.set _ _ _ _;have hw2:Wr w (w3.setCell ⟨bA,2,none⟩ nw) V:=by rw[hV];exact (((((((((Wr.refl _ _).trans (Wr.set _ _ 14 _)).trans (Wr.set _ _ 1 _)).trans (Wr.set _ _ 8 _)).trans (Wr.set _ _ 9 _)).trans (Wr.set _ _ 10 _)).trans (Wr.set _ _ 11 _)).trans (Wr.set _ _ 12 _)).trans (Wr.set _ _ 13 _))
 have i8:=(k8.wr hw1 (by omega)).wr hw2 (by omega)
 have i9:=(k9.wr hw1 (by omega)).wr hw2 (by omega)
 have hs5:=(hs3.Dm hw1 hsz).Dm hw2 (by omega)
 have dQ:Av (w3.setCell ⟨bA,2,none⟩ nw) o2 y SB:=HSA.o;have hS5:=dQ.bx (Stp.Ci hw2 t7);have nA8:bA≠w.1.size+1:=by omega
 have nA9:bA≠w.1.size+1+1:=by omega
 clear hV hw1 hw2 k7 k8 k9 kA cZ hs3 dQ l7 l8 l9;have c7:=i7.cell;have cA:=iA.cell;have c8:=i8.cell;have z8:=i8.free;have l8:=i8.lt;have c9:=i9.cell;have z9:=i9.free;have l9:=i9.lt;have hres:=Qa (ji i8 i9 (by omega) ⟨hb,0,⟨a0,a1,a2,a3,a4,a5⟩,⟨a0,a1,a2,a3,a4,a5⟩,true⟩ ⟨1,0,nw⟩)
 have hrs:=Qa (wj hs5 (b6:=(w.1.size+1)) (b7:=(w.1.size+1+1)) (by omega) (by omega) ⟨hb,0,⟨a0,a1,a2,a3,a4,a5⟩,⟨a0,a1,a2,a3,a4,a5⟩,true⟩ ⟨1,0,nw⟩)
 have fE:=Qa (hS5.bx (yg V (w.1.size+1) (w.1.size+1+1) (o:=o2) t8 t9 ⟨hb,0,⟨a0,a1,a2,a3,a4,a5⟩,⟨a0,a1,a2,a3,a4,a5⟩,true⟩ ⟨1,0,nw⟩));clear i7 iA i8 i9 hS5 hs5;go_region
 all_goals
  go_wp2_with fail;change bodyPost _ _ _ _ _ (js V (w.1.size+1) (w.1.size+1+1) ⟨hb,0,⟨a0,a1,a2,a3,a4,a5⟩,⟨a0,a1,a2,a3,a4,a5⟩,true⟩ ⟨1,0,nw⟩).drew;generalize js V (w.1.size+1) (w.1.size+1+1) ⟨hb,0,⟨a0,a1,a2,a3,a4,a5⟩,⟨a0,a1,a2,a3,a4,a5⟩,true⟩ ⟨1,0,nw⟩=X at *;exact bodyPost_ret (qr _ _ 8 9 rfl rfl rfl (qj hres.o.1) (qj hres.o.2)) rfl ⟨rfl,o2,fE.o.below (qf (qd _)),HI2.o,hrs.o.drew⟩
def qqi (hS:Av w o y S) (hI:Inv S) (hb hn a0 a1 a2 a3 a4 a5 s0 s1 s2 s3 s4 s5:Int) (hl:Bool) (nb:Int) (hi:i<S.Au.length) (he:(S.AS i).2≠0) :
  Ab ANa 60 #[ptr y.sb,i,nb,Al #[hb,hn,a0,a1,a2,a3,a4,a5,s0,s1,s2,s3,s4,s5,hl]] w fun e' w'=>e'=O (Ak #[AE.v ⟨nb,hn,⟨a0,a1,a2,a3,a4,a5⟩,⟨s0,s1,s2,s3,s4,s5⟩,hl⟩,BD.val ⟨1,(S.AS i).2,0⟩])/\Left y (S.AS i).1 o w w':=by
 obtain⟨o1,ho1,dN,hS0⟩:=PRe o w (y.l.id+1,0) (qi y);have h1:=hS.retag dN;clear dN
 have hbx:∀ b,w.1.size<=b->Du y (o1 b):=fun b hb=>by rw[ho1];exact qq hb
 clear ho1 hS;obtain⟨W,hW⟩:=Ja0 ((((w.alloc (ANb #[hb,hn,a0,a1,a2,a3,a4,a5,s0,s1,s2,s3,s4,s5,hl] 49)).alloc (ANb #[(),(),(),(),(),(),(),(),(),(),(),(),(),(),false] 49)).alloc (ANb #[(),(),()] 33)));have hbW:Ae w w W:=by rw[hW];exact qc (qc (qc (qd w) _) _) _
 have k7:An W w #[hb,hn,a0,a1,a2,a3,a4,a5,s0,s1,s2,s3,s4,s5,hl] 49:=by rw[hW];exact ((An.new w _ _).alloc _).alloc _
 have k8:An W (w.1.size+1) #[(),(),(),(),(),(),(),(),(),(),(),(),(),(),false] 49:=by rw[hW];exact (An.Ax _ _ _ _ _ (by simp) rfl).alloc _
 have k9:An W (w.1.size+1+1) #[(),(),()] 33:=by rw[hW];exact An.Ax _ _ _ _ _ (by simp) rfl
 have hSW:=h1.below hbW;have bX:Stp (qi y) o o1 w W:=hS0.trans (Stp.of_below hbW);have HC:=Qa (fun X o2 (h2:Av X o2 y S)=>Yi h2 hI hi)
 have HB:=Qa hbx;generalize (S.AS i).1=SB at *;generalize (S.AS i).2=ee at *;clear hI hi h1 hS0 hbx;have heb:(ee != 0)=true:=by rw[bne_iff_ne];exact he
 go_in;go_wp2_with fail;rw[<-hW];clear hW;refine (HC.o _ _ hSW).mono ?_
 rintro e2 w2 ⟨rfl,o2,hS2,hI2,hs2⟩
 have nt:∀ b,w.1.size<=b->¬qi y (o1 b):=fun b q1=>mc (HB.o b q1)
 have tg:∀ b,w.1.size<=b->b<W.1.size->Du y (o2 b):=fun b q1 q2=>by have:=HB.o b q1;rw[<-hs2.tags b q2]at this;exact this
 have t7:=tg w (by omega) k7.lt
 have t8:=tg (w.1.size+1) (by omega) k8.lt
 have t9:=tg (w.1.size+1+1) (by omega) k9.lt
 replace k7:=k7.Ar hs2 (nt _ (by omega))
 replace k8:=k8.Ar hs2 (nt _ (by omega))
 replace k9:=k9.Ar hs2 (nt _ (by omega))
 have hs3:=bX.trans hs2;have HI2:=Qa hI2;obtain⟨w3,hw3⟩:=Ja0 (w2.alloc (ANb #[I Z 1,ee,()] 33));have kA:An w3 w2 #[I Z 1,ee,()] 33:=by rw[hw3];exact An.new _ _ _
 have hb3:Ae w2 w2 w3:=by rw[hw3];exact qc (qd _) _
 have l7:=k7.lt;have l8:=k8.lt;have l9:=k9.lt;replace k7:=k7.below hb3 k7.lt;replace k8:=k8.below hb3 k8.lt;replace k9:=k9.below hb3 k9.lt;have cZ:=hS2.below hb3;replace hs3:=hs3.trans (Stp.of_below hb3);have hsz:w.1.size<=w2.1.size:=by omega
 clear hs2 hSW bX HC tg nt hS2 hbW hb3;go_upto_region 2 with fail;rw[<-hw3];clear hw3;have c7:=k7.cell;have z7:=k7.free;have l7':=k7.lt;have cA:=kA.cell;have ne7:w.1.size≠w2.1.size:=by omega
 have fG:w2.1.size≠w.1.size:=by omega
 go_upto_region 4 with fail;clear c7 z7 l7' cA;obtain⟨bA,fU⟩:=Ja0 w2.1.size;rw[<-fU]at kA ne7 fG hsz l7 l8 l9 ⊢;clear fU;obtain⟨V,hV⟩:=Ja0 (w3.setCell ⟨w,0,none⟩ nb);rw[<-hV];have i7:An V w #[nb,hn,a0,a1,a2,a3,a4,a5,s0,s1,s2,s3,s4,s5,hl] 49:=by
  rw[hV];have k:=k7.set 0 (I Z nb);simp only[Aj,aa]at k;exact k
 have iA:An V bA #[I Z 1,ee,()] 33:=by rw[hV];exact kA.Ao (a:=⟨w,0,none⟩) fG (I Z nb)
 have hw2:Wr w w3 V:=by rw[hV];exact Wr.set _ _ 0 _
 have i8:=k8.wr hw2 (by omega)
 have i9:=k9.wr hw2 (by omega)
 have hs5:=hs3.Dm hw2 (by omega)
 have hS5:=cZ.bx (Stp.Ci hw2 t7);have nA8:bA≠w.1.size+1:=by omega
 have nA9:bA≠w.1.size+1+1:=by omega
 clear hV hw2 k7 k8 k9 kA cZ hs3 l7 l8 l9;have c7:=i7.cell;have cA:=iA.cell;have c8:=i8.cell;have z8:=i8.free;have l8:=i8.lt;have c9:=i9.cell;have z9:=i9.free;have l9:=i9.lt;have hres:=Qa (ji i8 i9 (by omega) ⟨nb,hn,⟨a0,a1,a2,a3,a4,a5⟩,⟨s0,s1,s2,s3,s4,s5⟩,hl⟩ ⟨1,ee,0⟩)
 have hrs:=Qa (wj hs5 (b6:=(w.1.size+1)) (b7:=(w.1.size+1+1)) (by omega) (by omega) ⟨nb,hn,⟨a0,a1,a2,a3,a4,a5⟩,⟨s0,s1,s2,s3,s4,s5⟩,hl⟩ ⟨1,ee,0⟩)
 have fE:=Qa (hS5.bx (yg V (w.1.size+1) (w.1.size+1+1) (o:=o2) t8 t9 ⟨nb,hn,⟨a0,a1,a2,a3,a4,a5⟩,⟨s0,s1,s2,s3,s4,s5⟩,hl⟩ ⟨1,ee,0⟩));clear i7 iA i8 i9 hS5 hs5;go_region
 all_goals
  go_wp2_with fail;change bodyPost _ _ _ _ _ (js V (w.1.size+1) (w.1.size+1+1) ⟨nb,hn,⟨a0,a1,a2,a3,a4,a5⟩,⟨s0,s1,s2,s3,s4,s5⟩,hl⟩ ⟨1,ee,0⟩).drew;generalize js V (w.1.size+1) (w.1.size+1+1) ⟨nb,hn,⟨a0,a1,a2,a3,a4,a5⟩,⟨s0,s1,s2,s3,s4,s5⟩,hl⟩ ⟨1,ee,0⟩=X at *;exact bodyPost_ret (qr _ _ 8 9 rfl rfl rfl (qj hres.o.1) (qj hres.o.2)) rfl ⟨rfl,o2,fE.o.below (qf (qd _)),HI2.o,hrs.o.drew⟩
def qmc (hS:Av w o y S) (hI:Inv S) (hb hn a0 a1 a2 a3 a4 a5 s0 s1 s2 s3 s4 s5:Int) (hl:Bool) (hc:S.DY i=true) (he:(S.Bq i).e=0) (hb0:0<=hb/\hb<=4096) :
  Ab ANa 61 #[ptr y.sb,i,Al #[hb,hn,a0,a1,a2,a3,a4,a5,s0,s1,s2,s3,s4,s5,hl]] w fun e' w'=>e'=O (Ak #[AE.v ⟨(hb+1),0,⟨a0,a1,a2,a3,a4,a5⟩,⟨a0,a1,a2,a3,a4,a5⟩,false⟩,BD.val ⟨3,0,(S.Bq i).v⟩])/\Left y (S.Bq i).S o w w':=by
 obtain⟨o1,ho1,dN,hS0⟩:=PRe o w (y.l.id+1,0) (qi y);have h1:=hS.retag dN;clear dN
 have hbx:∀ b,w.1.size<=b->Du y (o1 b):=fun b hb=>by rw[ho1];exact qq hb
 clear ho1 hS;obtain⟨W,hW⟩:=Ja0 ((((w.alloc (ANb #[hb,hn,a0,a1,a2,a3,a4,a5,s0,s1,s2,s3,s4,s5,hl] 49)).alloc (ANb #[(),(),(),(),(),(),(),(),(),(),(),(),(),(),false] 49)).alloc (ANb #[(),(),()] 33)));have hbW:Ae w w W:=by rw[hW];exact qc (qc (qc (qd w) _) _) _
 have k7:An W w #[hb,hn,a0,a1,a2,a3,a4,a5,s0,s1,s2,s3,s4,s5,hl] 49:=by rw[hW];exact ((An.new w _ _).alloc _).alloc _
 have k8:An W (w.1.size+1) #[(),(),(),(),(),(),(),(),(),(),(),(),(),(),false] 49:=by rw[hW];exact (An.Ax _ _ _ _ _ (by simp) rfl).alloc _
 have k9:An W (w.1.size+1+1) #[(),(),()] 33:=by rw[hW];exact An.Ax _ _ _ _ _ (by simp) rfl
 have hSW:=h1.below hbW;have bX:Stp (qi y) o o1 w W:=hS0.trans (Stp.of_below hbW);have HC:=Qa (fun X o2 (h2:Av X o2 y S)=>XP h2 hI hc)
 have HB:=Qa hbx;obtain⟨b1,b2⟩:=hb0;generalize S.Bq i=R at *;clear hI hc h1 hS0 hbx;rw[he]at HC;go_in;go_wp2_with fail;rw[<-hW];clear hW;refine (HC.o _ _ hSW).mono ?_
 rintro e2 w2 ⟨rfl,o2,hS2,hI2,hs2⟩
 have nt:∀ b,w.1.size<=b->¬qi y (o1 b):=fun b q1=>mc (HB.o b q1)
 have tg:∀ b,w.1.size<=b->b<W.1.size->Du y (o2 b):=fun b q1 q2=>by have:=HB.o b q1;rw[<-hs2.tags b q2]at this;exact this
 have t7:=tg w (by omega) k7.lt
 have t8:=tg (w.1.size+1) (by omega) k8.lt
 have t9:=tg (w.1.size+1+1) (by omega) k9.lt
 replace k7:=k7.Ar hs2 (nt _ (by omega))
 replace k8:=k8.Ar hs2 (nt _ (by omega))
 replace k9:=k9.Ar hs2 (nt _ (by omega))
 have hs3:=bX.trans hs2;have HI2:=Qa hI2;clear hs2 hSW bX HC tg nt hbW hI2;have c7:=k7.cell;have z7:=k7.free;have l7:=k7.lt;go_upto_region 8 with fail;obtain⟨V,hV⟩:=Ja0 ((((((((((w2.setCell ⟨w.1.size,14,none⟩ (.bool false)).setCell ⟨w,1,none⟩ (I Z 0)).setCell ⟨w,0,none⟩ (I Z (hb+1))).setCell ⟨w,8,none⟩ a0).setCell ⟨w,9,none⟩ a1).setCell ⟨w.1.size,10,none⟩ a2).setCell ⟨w.1.size,11,none⟩ a3).setCell ⟨w.1.size,12,none⟩ a4).setCell ⟨w.1.size,13,none⟩ a5));rw[<-hV];have i7:An V w #[I Z (hb+1),(),a0,a1,a2,a3,a4,a5,a0,a1,a2,a3,a4,a5,false] 49:=by
  rw[hV];have k:=(((((((((k7.set 14 (.bool false)).set 1 (I Z 0)).set 0 (I Z (hb+1))).set 8 a0).set 9 a1).set 10 a2).set 11 a3).set 12 a4).set 13 a5);simp only[Aj,aa,af]at k;exact k
 have hw2:Wr w w2 V:=by rw[hV];exact ((((((((((Wr.refl _ _).trans (Wr.set _ _ 14 _)).trans (Wr.set _ _ 1 _)).trans (Wr.set _ _ 0 _)).trans (Wr.set _ _ 8 _)).trans (Wr.set _ _ 9 _)).trans (Wr.set _ _ 10 _)).trans (Wr.set _ _ 11 _)).trans (Wr.set _ _ 12 _)).trans (Wr.set _ _ 13 _))
 have i8:=k8.wr hw2 (by omega)
 have i9:=k9.wr hw2 (by omega)
 have hs5:=hs3.Dm hw2 (by omega)
 have hS5:=hS2.bx (Stp.Ci hw2 t7);clear hV hw2 k7 k8 k9 hS2 hs3 l7 c7 z7;have c7:=i7.cell;have c8:=i8.cell;have z8:=i8.free;have l8:=i8.lt;have c9:=i9.cell;have z9:=i9.free;have l9:=i9.lt;have hres:=Qa (ji i8 i9 (by omega) ⟨(hb+1),0,⟨a0,a1,a2,a3,a4,a5⟩,⟨a0,a1,a2,a3,a4,a5⟩,false⟩ ⟨3,0,R.v⟩)
 have hrs:=Qa (wj hs5 (b6:=(w.1.size+1)) (b7:=(w.1.size+1+1)) (by omega) (by omega) ⟨(hb+1),0,⟨a0,a1,a2,a3,a4,a5⟩,⟨a0,a1,a2,a3,a4,a5⟩,false⟩ ⟨3,0,R.v⟩)
 have fE:=Qa (hS5.bx (yg V (w.1.size+1) (w.1.size+1+1) (o:=o2) t8 t9 ⟨(hb+1),0,⟨a0,a1,a2,a3,a4,a5⟩,⟨a0,a1,a2,a3,a4,a5⟩,false⟩ ⟨3,0,R.v⟩));clear i7 i8 i9 hS5 hs5;go_wp2_with fail;change bodyPost _ _ _ _ _ (js V (w.1.size+1) (w.1.size+1+1) ⟨(hb+1),0,⟨a0,a1,a2,a3,a4,a5⟩,⟨a0,a1,a2,a3,a4,a5⟩,false⟩ ⟨3,0,R.v⟩);generalize js V (w.1.size+1) (w.1.size+1+1) ⟨(hb+1),0,⟨a0,a1,a2,a3,a4,a5⟩,⟨a0,a1,a2,a3,a4,a5⟩,false⟩ ⟨3,0,R.v⟩=X at *;exact bodyPost_ret (qr _ _ 6 7 rfl rfl rfl hres.o.1 hres.o.2) rfl ⟨rfl,o2,fE.o,HI2.o,hrs.o⟩
def qm4 (hS:Av w o y S) (hI:Inv S) (hb hn a0 a1 a2 a3 a4 a5 s0 s1 s2 s3 s4 s5:Int) (hl:Bool) (hc:S.DY i=true) (he:(S.Bq i).e≠0)  :
  Ab ANa 61 #[ptr y.sb,i,Al #[hb,hn,a0,a1,a2,a3,a4,a5,s0,s1,s2,s3,s4,s5,hl]] w fun e' w'=>e'=O (Ak #[AE.v ⟨hb,0,⟨s0,s1,s2,s3,s4,s5⟩,⟨s0,s1,s2,s3,s4,s5⟩,false⟩,BD.val ⟨3,(S.Bq i).e,0⟩])/\Left y (S.Bq i).S o w w':=by
 obtain⟨o1,ho1,dN,hS0⟩:=PRe o w (y.l.id+1,0) (qi y);have h1:=hS.retag dN;clear dN
 have hbx:∀ b,w.1.size<=b->Du y (o1 b):=fun b hb=>by rw[ho1];exact qq hb
 clear ho1 hS;obtain⟨W,hW⟩:=Ja0 ((((w.alloc (ANb #[hb,hn,a0,a1,a2,a3,a4,a5,s0,s1,s2,s3,s4,s5,hl] 49)).alloc (ANb #[(),(),(),(),(),(),(),(),(),(),(),(),(),(),false] 49)).alloc (ANb #[(),(),()] 33)));have hbW:Ae w w W:=by rw[hW];exact qc (qc (qc (qd w) _) _) _
 have k7:An W w #[hb,hn,a0,a1,a2,a3,a4,a5,s0,s1,s2,s3,s4,s5,hl] 49:=by rw[hW];exact ((An.new w _ _).alloc _).alloc _
 have k8:An W (w.1.size+1) #[(),(),(),(),(),(),(),(),(),(),(),(),(),(),false] 49:=by rw[hW];exact (An.Ax _ _ _ _ _ (by simp) rfl).alloc _
 have k9:An W (w.1.size+1+1) #[(),(),()] 33:=by rw[hW];exact An.Ax _ _ _ _ _ (by simp) rfl
 have hSW:=h1.below hbW;have bX:Stp (qi y) o o1 w W:=hS0.trans (Stp.of_below hbW);have HC:=Qa (fun X o2 (h2:Av X o2 y S)=>XP h2 hI hc)
 have HB:=Qa hbx;have HK:=Qa (fun X=>show Ab ANa 84 #[Al #[hb,hn,a0,a1,a2,a3,a4,a5,s0,s1,s2,s3,s4,s5,hl]] X fun e w'=>e=O (Al #[hb,(),s0,s1,s2,s3,s4,s5,s0,s1,s2,s3,s4,s5,false])/\Ae X X w' from SD ⟨hb,hn,⟨a0,a1,a2,a3,a4,a5⟩,⟨s0,s1,s2,s3,s4,s5⟩,hl⟩ X)
 generalize S.Bq i=R at *;clear hI hc h1 hS0 hbx;have heb:(R.e != 0)=true:=by rw[bne_iff_ne];exact he
 go_in;go_wp2_with fail;rw[<-hW];clear hW;refine (HC.o _ _ hSW).mono ?_
 rintro e2 w2 ⟨rfl,o2,hS2,hI2,hs2⟩
 have nt:∀ b,w.1.size<=b->¬qi y (o1 b):=fun b q1=>mc (HB.o b q1)
 have tg:∀ b,w.1.size<=b->b<W.1.size->Du y (o2 b):=fun b q1 q2=>by have:=HB.o b q1;rw[<-hs2.tags b q2]at this;exact this
 have t7:=tg w (by omega) k7.lt
 have t8:=tg (w.1.size+1) (by omega) k8.lt
 have t9:=tg (w.1.size+1+1) (by omega) k9.lt
 replace k7:=k7.Ar hs2 (nt _ (by omega))
 replace k8:=k8.Ar hs2 (nt _ (by omega))
 replace k9:=k9.Ar hs2 (nt _ (by omega))
 have hs3:=bX.trans hs2;have HI2:=Qa hI2;clear hs2 hSW bX HC tg nt hbW hI2;have c7:=k7.cell;have z7:=k7.free;have l7:=k7.lt;go_wp2_with fail;refine (HK.o _).mono ?_
 rintro e3 V ⟨rfl,hb3⟩
 have i8:=k8.below hb3 k8.lt;have i9:=k9.below hb3 k9.lt;have hS5:=hS2.below hb3;have hs5:=hs3.trans (Stp.of_below hb3);clear k7 k8 k9 hS2 hs3 l7 c7 z7 hb3 HK;have c8:=i8.cell;have z8:=i8.free;have l8:=i8.lt;have c9:=i9.cell;have z9:=i9.free;have l9:=i9.lt;have hres:=Qa (ji i8 i9 (by omega) ⟨hb,0,⟨s0,s1,s2,s3,s4,s5⟩,⟨s0,s1,s2,s3,s4,s5⟩,false⟩ ⟨3,R.e,0⟩)
 have hrs:=Qa (wj hs5 (b6:=(w.1.size+1)) (b7:=(w.1.size+1+1)) (by omega) (by omega) ⟨hb,0,⟨s0,s1,s2,s3,s4,s5⟩,⟨s0,s1,s2,s3,s4,s5⟩,false⟩ ⟨3,R.e,0⟩)
 have fE:=Qa (hS5.bx (yg V (w.1.size+1) (w.1.size+1+1) (o:=o2) t8 t9 ⟨hb,0,⟨s0,s1,s2,s3,s4,s5⟩,⟨s0,s1,s2,s3,s4,s5⟩,false⟩ ⟨3,R.e,0⟩));clear i8 i9 hS5 hs5;go_wp2_with fail;change bodyPost _ _ _ _ _ (js V (w.1.size+1) (w.1.size+1+1) ⟨hb,0,⟨s0,s1,s2,s3,s4,s5⟩,⟨s0,s1,s2,s3,s4,s5⟩,false⟩ ⟨3,R.e,0⟩);generalize js V (w.1.size+1) (w.1.size+1+1) ⟨hb,0,⟨s0,s1,s2,s3,s4,s5⟩,⟨s0,s1,s2,s3,s4,s5⟩,false⟩ ⟨3,R.e,0⟩=X at *;exact bodyPost_ret (qr _ _ 6 7 rfl rfl rfl hres.o.1 hres.o.2) rfl ⟨rfl,o2,fE.o,HI2.o,hrs.o⟩
end
end
section
open Go.RowKit Hp Go.Maps
attribute [local go_sem ↓] Go.wp_at_zero Go.wp_at_succ
def zv (n:Int):Ac:=I Z n
def EI (P:List Nat)(l:List Nat):List Ac:=l.map fun q=>I Z (dl P q)
section
variable {w w' : Aa} {a wd L : Nat} {f : Nat -> Nat} {G : Gf} {oc : Own} {c mb : Nat} {P : List Nat}
def JQ (hG:Lb w a wd L f G){p:Nat}{x:Ob}(hx:G p=some x)(hC:Cg w oc c mb P) :
  Ab ANa 168 #[Ah (some ⟨a,0,none⟩),p,ptr c] w fun e w'=>∃ v1 v2 oo,e=O (Ak #[Al #[x.Ap,x.AL.p,x.AL.d,.bool x.AL.AA,.bool x.AL.final,.bool x.B5,v1,v2],()]) /\
   Row w' oo (51,0) 3 1 v1 x.AB.length (EI P x.AB)/\Row w' oo (52,0) 3 1 v2 x.nums.length (x.nums.map zv)/\Ae w w w'/\Old w oo:=by
 obtain⟨ho,hk,hl⟩:=hG.ob p x hx;have kQ:=Qa (fun (W:Aa)(hb:Ae w w W)=>jw (hG.Cr.below hb) ho hk hl p rfl)
 have uH:=Qa (fun (W:Aa)(hb:Ae w w W)=>bc (hG.Cr.below hb) ho hk hl p rfl)
 have vS:=Qa (fun (W:Aa)(hb:Ae w w W)(i q:Nat)(hq:x.AB[i]?=some q)=>ce (hG.Cr.below hb) ho hk hl i q hq p i rfl rfl)
 have HNu:=Qa (fun (W:Aa)(hb:Ae w w W)(i:Nat)(n:Int)(hq:x.nums[i]?=some n)=>X8 (hG.Cr.below hb) ho hk hl i n hq p i rfl rfl)
 have HIx:=Qa (fun (W:Aa)(hb:Ae w w W)(q:Nat)(hq:q<=131072)=>XA (hC.below hb) q (by omega))
 have HOk:=Qa hk;obtain⟨⟨sp,sd,wk,fn⟩,fr,se,Bc,AB,nums⟩:=x;simp only at kQ uH vS HNu ⊢;unfold ka at kQ;simp only at kQ;clear hG hx hC ho hk hl;go_in;go_wp2_with (first
  | (go_at_call 79;refine (kQ.o _ (qc (qd w) _)).mono ?_;rintro e w1 ⟨rfl,hb1⟩;have hb2:=qe (qc (qd w) (ANb #[(),(),(),false,false,false,Ai none 0 0,Ai none 0 0] 84)) hb1)
  | (go_at_call 80;refine (uH.o _ (qc (qc hb2 _) _)).mono ?_;rintro e w3 ⟨rfl,hb3⟩;have jN:=(An.Ax (w1.alloc (ANb #[sp,sd,wk,fn] 82)) _ #[(),sp,sd,wk,fn,fr,Ai none 0 0,Ai none 0 0] 84 (w1.1.size+1) (by simp) rfl).below hb3 (An.Ax _ _ _ _ _ (by simp) rfl).lt;have jS:=((An.new w1 #[sp,sd,wk,fn] 82).alloc (ANb #[(),sp,sd,wk,fn,fr,Ai none 0 0,Ai none 0 0] 84)).below hb3 ((An.new w1 #[sp,sd,wk,fn] 82).alloc (ANb #[(),sp,sd,wk,fn,fr,Ai none 0 0,Ai none 0 0] 84)).lt;have cS:=jS.cell;have cN:=jN.cell;have zN:=jN.free;have lN:=jN.lt)
  | fail)
 have jR:=((An.new w #[(),(),(),false,false,false,Ai none 0 0,Ai none 0 0] 84).below hb1 (An.new w #[(),(),(),false,false,false,Ai none 0 0,Ai none 0 0] 84).lt);have eX:=((jR.alloc (ANb #[sp,sd,wk,fn] 82)).alloc (ANb #[(),sp,sd,wk,fn,fr,Ai none 0 0,Ai none 0 0] 84)).below hb3 ((jR.alloc (ANb #[sp,sd,wk,fn] 82)).alloc (ANb #[(),sp,sd,wk,fn,fr,Ai none 0 0,Ai none 0 0] 84)).lt;have lR:=jR.lt;obtain⟨W,hW⟩:=Ja0 (w3.setCell ⟨w1.1.size+1,0,none⟩ (I Z Bc));rw[<-hW];have vC:An W (w1.1.size+1) #[I Z Bc,sp,sd,wk,fn,fr,Ai none 0 0,Ai none 0 0] 84:=by rw[hW];exact jN.set 0 _
 have ou:An W w1 #[sp,sd,wk,fn] 82:=by rw[hW];exact jS.Ao (by show w1.1.size≠w1.1.size+1;omega) _
 have gZ:An W w #[(),(),(),false,false,false,Ai none 0 0,Ai none 0 0] 84:=by rw[hW];exact eX.Ao (by show w.1.size≠w1.1.size+1;omega) _
 have hz1:w.1.size<=w1.1.size:=hb2.size;have hbW:Ae w w W:=by rw[hW];exact qo (qe (qc (qc hb2 _) _) hb3) (by show w.1.size<=w1.1.size+1;omega) _
 obtain⟨o1,ho1⟩:∃ o1:Own,o1=fun b=>if b<w.1.size then (0,0) else (53,0):=⟨_,rfl⟩
 have hO1:Old w o1:=fun b hb=>by rw[ho1];exact if_pos hb
 have hT1:∀ b,w.1.size<=b->o1 b=(53,0):=fun b hb=>by rw[ho1];exact if_neg (by omega)
 have HI:=Qa (Ad vC (Ad ou (Ad gZ (Ad hbW (Ad hO1 (Ad (hT1 _ (show w.1.size<=w1.1.size+1 by omega)) (Ad (hT1 _ hz1) (hT1 _ (Qk _)))))))))
 have hlp:AB.length=sp:=HOk.o.lp;have HLp:=Qa hlp;have hsp:sp<=16:=Qo HOk.o.AL.1 (by omega)
 obtain⟨iI,hi,hsI,cK,bZ⟩:=zm;have hu64:=underlying23;have HNE:=Qa (show w.1.size≠w1.1.size+1 by omega)
 obtain⟨S,hS⟩:=Ja0 w1.1.size;obtain⟨R,hR⟩:=Ja0 w.1.size;clear jR eX lR hW vC ou gZ hz1 hbW hO1 hT1 ho1 hb1 hb2 hb3 jN jS cN cS zN lN hlp kQ uH;have rA:=Qa (Ad hS hR);rw[<-hS,<-hR]at HI ⊢;clear hS hR;go_loopw [45] (fun ix wr=>∃ (i:Nat)(v1:Ac)(oo:Own),ix=I Z i/\i<=sp/\Row wr oo (51,0) 3 1 v1 i (EI P (AB.take i))/\An wr (S+1) #[I Z Bc,sp,sd,wk,fn,fr,v1,Ai none 0 0] 84/\An wr S #[sp,sd,wk,fn] 82/\An wr R #[(),(),(),false,false,false,Ai none 0 0,Ai none 0 0] 84/\Ae R w wr/\Old R oo/\oo (S+1)=(53,0)/\oo S=(53,0)/\oo R=(53,0)) (fun ix _=>sp-(intOf ix).toNat)
 case atStart=>exact⟨0,_,o1,rfl,ag _,Row.nil _ _ _ _ _,HI.o⟩
 case round =>
  clear HI;obtain⟨i,v1,oo,rfl,hin,hr,jN,jS,jR,hb,hO,tN,tS,tR⟩:=hrel;by_cases hlt:i<sp
  ·have hiI:(i:Int)<(sp:Int):=by omega
   have HW:=Qa (zc i (by omega))
   have hb':Ae w w wr:=by rw[<-rA.o.2];exact hb
   obtain⟨q,hq⟩:∃ q,AB[i]?=some q:=⟨_,Qb (by rw[HLp.o];exact hlt)⟩
   have HP:=Qa (vS.o wr hb' i q hq);have uT:q<=131072:=HOk.o.ptr q (Qe hq);have HI2:=Qa (fun (W3:Aa)(hb3:Ae wr wr W3)=>HIx.o W3 (qe hb' hb3) q uT);obtain⟨pv,cv,rfl⟩:=hr.A6;have fI:=Qa (show EI P (AB.take (i+1))=EI P (AB.take i)++[I Z (dl P q)] from by rw[aj,hq];unfold EI;rw[Qw];rfl)
   have dE:i+1<=maxLen:=by simp only[maxLen];omega
   have hmb:(i+1)*8<=140737488355328:=by omega
   have cN:=jN.cell;have cS:=jS.cell;have lN:=jN.lt;have HX:=Qa (fun (w5 w7:Aa)(o7:Own)(p7:Option Addr)(c7:Nat)(hb5:Ae wr wr w5)(hown:Row w7 o7 (51,0) 3 1 (.slice p7 (i+1) c7) (i+1) (EI P (AB.take i)++[I Z (dl P q)]))(hst:Stp (fun t=>t=(51,0)) oo o7 (w5.drew.alloc (ANb #[I Z (dl P q)] 3)) w7) =>
    show An w7 (S+1) #[I Z Bc,sp,sd,wk,fn,fr,.slice pv i cv,Ai none 0 0] 84/\(Row (w7.setCell ⟨S+1,6,none⟩ (.slice p7 (i+1) c7)) o7 (51,0) 3 1 (.slice p7 (i+1) c7) (i+1) (EI P (AB.take (i+1)))/\An (w7.setCell ⟨S+1,6,none⟩ (.slice p7 (i+1) c7)) (S+1) #[I Z Bc,sp,sd,wk,fn,fr,.slice p7 (i+1) c7,Ai none 0 0] 84/\An (w7.setCell ⟨S+1,6,none⟩ (.slice p7 (i+1) c7)) S #[sp,sd,wk,fn] 82/\An (w7.setCell ⟨S+1,6,none⟩ (.slice p7 (i+1) c7)) R #[(),(),(),false,false,false,Ai none 0 0,Ai none 0 0] 84 /\
     Ae R w (w7.setCell ⟨S+1,6,none⟩ (.slice p7 (i+1) c7))/\Old R o7/\o7 (S+1)=(53,0)/\o7 S=(53,0)/\o7 R=(53,0)) from by
     have hbq:Ae wr wr (w5.drew.alloc (ANb #[I Z (dl P q)] 3)):=qc (qf hb5) _;have k1:Stp (fun t=>t=(51,0)) oo o7 wr w7:=(Stp.of_below hbq).trans hst;have j7:=jN.Ar k1 (by rw[tN];simp)
     have s7:=jS.Ar k1 (by rw[tS];simp)
     have r7:=jR.Ar k1 (by rw[tR];simp)
     have tN7:=(k1.tags _ jN.lt).trans tN;have tS7:=(k1.tags _ jS.lt).trans tS;have tR7:=(k1.tags _ jR.lt).trans tR;have k2:Stp (fun t=>t=(53,0)) o7 o7 w7 (w7.setCell ⟨S+1,6,none⟩ (.slice p7 (i+1) c7)):=(Stp.refl _ o7 w7).setCell (by show o7 (S+1)=_;exact tN7) _
     have hRS:R≠S+1:=by rw[rA.o.2,rA.o.1];exact HNE.o
     have hz:R=w.1.size:=rA.o.2;have kk:Stp (fun t=>t=(51,0)\/t=(53,0)) oo o7 w (w7.setCell ⟨S+1,6,none⟩ (.slice p7 (i+1) c7)):=((Stp.of_below hb').trans (k1.mono fun _ h=>.inl h)).trans (k2.mono fun _ h=>.inr h);refine⟨j7,by rw[fI.o];exact hown.Ar k2 (by simp),j7.set 6 _,s7.Ao (by show S≠S+1;omega) _,r7.Ao (by show R≠S+1;exact hRS) _,?_,?_,tN7,tS7,tR7⟩
     ·rw[hz]
      exact kk.below fun b hb2 e=>by
       have:=hO b (by rw[hz];exact hb2)
       rw[this]at e;simp at e
     ·intro b hb2
      exact (kk.tags b (by rw[<-hz];exact hb2)).trans (hO b hb2))
   have HRr:=Qa hr;have JN:=Qa jN;clear hr jN jS jR hb hO tN tS tR hq hb' uT;go_upto_region 14 with (first
    | (go_at_call 171;refine HP.o.mono ?_;rintro e w5 ⟨rfl,hb5⟩)
    | fail)
   have vC:=JN.o.below hb5 JN.o.lt;have cN5:=vC.cell;have lN5:=vC.lt;have rn:=(HRr.o.below hb5).below (qc (qf (qd w5)) (ANb #[I Z (dl P q)] 3));have jn:=An.new w5.drew #[I Z (dl P q)] 3;clear cN lN;go_region_law (first
    | (refine zt _ (by rfl) _ _ _ (by rfl) 3 iI _ 1 8 hu64 hi bZ hsI cK (by rfl) (by decide) oo (51,0) _ _ _ (by rfl) rn ⟨w5,0,none⟩ 1 1 [I Z (dl P q)] (by rfl) (by rfl) (qx jn) jh dE hmb ?_;intro v' w7 hown hst;obtain⟨p7,c7,rfl⟩:=hown.A6;obtain⟨j7,hfin⟩:=HX.o w5 w7 _ p7 c7 hb5 hown hst;have c7':=j7.cell;have z7:=j7.free;have l7:=j7.lt)
    | (go_simp;go_wp2_with ((go_at_call 169;refine (HI2.o _ (qf hb5)).mono ?_;rintro e w6 ⟨rfl,rfl⟩))))
   all_goals
    clear hown hst j7;obtain⟨hw1,hw2⟩:=HW.o;go_wp2_with fail;go_roundw
    case rel=>exact⟨i+1,_,_,by simp,hlt,hfin⟩
    case measure=>clear hw1 hw2 dE hmb;simp[intOf];omega
  ·obtain rfl:i=sp:=by omega
   rw[<-HLp.o,ai,HLp.o]at hr;obtain⟨pv,cv,rfl⟩:=hr.A6;have cN:=jN.cell;have cS:=jS.cell;have lN:=jN.lt;have hsd:sd<=16:=Qo HOk.o.AL.2.1 (by omega)
   have HLn:=Qa (show nums.length=sd from HOk.o.ln);have HI:=Qa (Ad (Row.nil wr oo (52,0) 3 1) (Ad hr (Ad jN (Ad jR (Ad hb (Ad hO (Ad tN tR)))))));have jS0:=Qa jS;clear hr jN jS jR hb hO tN tS tR hlt hin HIx vS;go_wp2_with fail;clear cN cS lN;go_loopw [70] (fun ix wr=>∃ (j:Nat)(v2:Ac)(oo:Own),ix=I Z j/\j<=sd/\Row wr oo (52,0) 3 1 v2 j ((nums.take j).map zv)/\Row wr oo (51,0) 3 1 (.slice pv i cv) i (EI P AB)/\An wr (S+1) #[I Z Bc,i,sd,wk,fn,fr,.slice pv i cv,v2] 84/\An wr R #[(),(),(),false,false,false,Ai none 0 0,Ai none 0 0] 84/\Ae R w wr/\Old R oo/\oo (S+1)=(53,0)/\oo R=(53,0)) (fun ix _=>sd-(intOf ix).toNat)
   case atStart=>exact⟨0,_,oo,rfl,ag _,HI.o⟩
   case round =>
    clear HI;obtain⟨j,v2,o2,rfl,hjn,hr2,hr,jN,jR,hb,hO,tN,tR⟩:=hrel;by_cases hlt:j<sd
    ·have qG:(j:Int)<(sd:Int):=by omega
     have HW:=Qa (zc j (by omega))
     have hb':Ae w w wr:=by rw[<-rA.o.2];exact hb
     obtain⟨nq,hq⟩:∃ nq,nums[j]?=some nq:=⟨_,Qb (by rw[HLn.o];exact hlt)⟩
     have HP:=Qa (HNu.o wr hb' j nq hq);obtain⟨p2,c2,rfl⟩:=hr2.A6;have fI:=Qa (show (nums.take (j+1)).map zv=(nums.take j).map zv++[I Z nq] from by rw[aj,hq,Qw];rfl)
     have dE:j+1<=maxLen:=by simp only[maxLen];omega
     have hmb:(j+1)*8<=140737488355328:=by omega
     have HX:=Qa (fun (w5 w7:Aa)(o7:Own)(p7:Option Addr)(c7:Nat)(hb5:Ae wr wr w5)(hown:Row w7 o7 (52,0) 3 1 (.slice p7 (j+1) c7) (j+1) ((nums.take j).map zv++[I Z nq]))(hst:Stp (fun t=>t=(52,0)) o2 o7 (w5.alloc (ANb #[nq] 3)) w7) =>
      show An w7 (S+1) #[I Z Bc,i,sd,wk,fn,fr,.slice pv i cv,.slice p2 j c2] 84/\(Row (w7.setCell ⟨S+1,7,none⟩ (.slice p7 (j+1) c7)) o7 (52,0) 3 1 (.slice p7 (j+1) c7) (j+1) ((nums.take (j+1)).map zv)/\Row (w7.setCell ⟨S+1,7,none⟩ (.slice p7 (j+1) c7)) o7 (51,0) 3 1 (.slice pv i cv) i (EI P AB)/\An (w7.setCell ⟨S+1,7,none⟩ (.slice p7 (j+1) c7)) (S+1) #[I Z Bc,i,sd,wk,fn,fr,.slice pv i cv,.slice p7 (j+1) c7] 84/\An (w7.setCell ⟨S+1,7,none⟩ (.slice p7 (j+1) c7)) R #[(),(),(),false,false,false,Ai none 0 0,Ai none 0 0] 84 /\
       Ae R w (w7.setCell ⟨S+1,7,none⟩ (.slice p7 (j+1) c7))/\Old R o7/\o7 (S+1)=(53,0)/\o7 R=(53,0)) from by
       have hbq:Ae wr wr (w5.alloc (ANb #[nq] 3)):=qc hb5 _;have k1:Stp (fun t=>t=(52,0)) o2 o7 wr w7:=(Stp.of_below hbq).trans hst;have j7:=jN.Ar k1 (by rw[tN];simp)
       have r7:=jR.Ar k1 (by rw[tR];simp)
       have tN7:=(k1.tags _ jN.lt).trans tN;have tR7:=(k1.tags _ jR.lt).trans tR;have k2:Stp (fun t=>t=(53,0)) o7 o7 w7 (w7.setCell ⟨S+1,7,none⟩ (.slice p7 (j+1) c7)):=(Stp.refl _ o7 w7).setCell (by show o7 (S+1)=_;exact tN7) _
       have hRS:R≠S+1:=by rw[rA.o.2,rA.o.1];exact HNE.o
       have hz:R=w.1.size:=rA.o.2;have kk:Stp (fun t=>t=(52,0)\/t=(53,0)) o2 o7 w (w7.setCell ⟨S+1,7,none⟩ (.slice p7 (j+1) c7)):=((Stp.of_below hb').trans (k1.mono fun _ h=>.inl h)).trans (k2.mono fun _ h=>.inr h);refine⟨j7,by rw[fI.o];exact hown.Ar k2 (by simp),(hr.Ar k1 (by simp)).Ar k2 (by simp),j7.set 7 _,r7.Ao (by show R≠S+1;exact hRS) _,?_,?_,tN7,tR7⟩
       ·rw[hz]
        exact kk.below fun b hb2 e=>by
         have:=hO b (by rw[hz];exact hb2)
         rw[this]at e;simp at e
       ·intro b hb2
        exact (kk.tags b (by rw[<-hz];exact hb2)).trans (hO b hb2))
     have HR2:=Qa hr2;have JN:=Qa jN;clear hr2 hr jN jR hb hO tN tR hq hb';obtain⟨hw1,hw2⟩:=HW.o;go_wp2_with (first
      | (go_at_call 208;refine HP.o.mono ?_;rintro e w5 ⟨rfl,hb5⟩;have vC:=JN.o.below hb5 JN.o.lt;have cN5:=vC.cell;have lN5:=vC.lt)
      | (at_builtin;refine qg _ rfl _ _ _ rfl 3 iI _ 1 8 hu64 hi bZ hsI cK rfl (by decide) o2 (52,0) _ _ _ rfl ((HR2.o.below hb5).below (qc (qd w5) (ANb #[nq] 3))) ⟨w5,0,none⟩ 1 1 [I Z nq] rfl rfl (qx (An.new w5 _ _)) jh dE hmb ?_;intro v' w7 hown hst;obtain⟨p7,c7,rfl⟩:=hown.A6;obtain⟨j7,hfin⟩:=HX.o w5 w7 _ p7 c7 hb5 hown hst;have c7':=j7.cell;have z7:=j7.free;have l7:=j7.lt)
      | fail)
     clear hown hst j7;go_roundw
     case rel=>exact⟨j+1,_,_,by simp,hlt,hfin⟩
     case measure=>clear hw1 hw2 dE hmb;simp[intOf];omega
    ·obtain rfl:j=sd:=by omega
     rw[<-HLn.o,ai,HLn.o]at hr2;obtain⟨p2,c2,rfl⟩:=hr2.A6;have cN:=jN.cell;have lN:=jN.lt;have cR:=jR.cell;have zR:=jR.free;have lR:=jR.lt;obtain⟨X,hX⟩:=Ja0 (((((((((wr.setCell ⟨R,0,none⟩ (I Z Bc)).setCell ⟨R,1,none⟩ i).setCell ⟨R,2,none⟩ j).setCell ⟨R,3,none⟩ (.bool wk)).setCell ⟨R,4,none⟩ (.bool fn)).setCell ⟨R,5,none⟩ (.bool fr)).setCell ⟨R,6,none⟩ (.slice pv i cv)).setCell ⟨R,7,none⟩ (.slice p2 j c2)));have jX:An X R #[I Z Bc,i,j,wk,fn,fr,.slice pv i cv,.slice p2 j c2] 84:=by rw[hX];exact ((((((((jR.set 0 (I Z Bc)).set 1 i).set 2 j).set 3 (.bool wk)).set 4 (.bool fn)).set 5 (.bool fr)).set 6 (.slice pv i cv)).set 7 (.slice p2 j c2))
     have k2:Stp (fun t=>t=(53,0)) o2 o2 wr X:=by rw[hX];exact (((((((((Stp.refl _ o2 wr).setCell (by show o2 R=_;exact tR) _).setCell (by show o2 R=_;exact tR) _).setCell (by show o2 R=_;exact tR) _).setCell (by show o2 R=_;exact tR) _).setCell (by show o2 R=_;exact tR) _).setCell (by show o2 R=_;exact tR) _).setCell (by show o2 R=_;exact tR) _).setCell (by show o2 R=_;exact tR) _)
     have hz:R=w.1.size:=rA.o.2;have HFin:=Qa (show Row X o2 (51,0) 3 1 (.slice pv i cv) AB.length (EI P AB)/\Row X o2 (52,0) 3 1 (.slice p2 j c2) nums.length (nums.map zv)/\Ae w w X/\Old w o2 from by
      have hb':Ae w w wr:=by rw[<-hz];exact hb
      refine⟨(hr.Ar k2 (by simp)).ite HLp.o.symm rfl,(hr2.Ar k2 (by simp)).ite HLn.o.symm rfl,((Stp.of_below hb').trans k2).below fun b hb2 e=>?_,by rw[<-hz];exact hO⟩
      have:=hO b (by rw[hz];exact hb2)
      rw[this]at e;simp at e)
     have JX:=Qa jX;have HXe:=Qa hX;clear hr2 hr jN jR hb hO tN tR jX k2 hz hX;go_wp2_with fail;rw[<-HXe.o];have cX:=JX.o.cell;exact bodyPost_ret (v:=Ak #[Al #[I Z Bc,i,j,wk,fn,fr,.slice pv i cv,.slice p2 j c2],()]) (by simp[results,results168,go_sem,cX]) rfl ⟨_,_,o2,rfl,HFin.o⟩
end
structure Nd where
 Bc:Nat
 AL:BQ
 B5:Bool
 AB:List Int
 nums:List Int
def Nd.of (P:List Nat)(x:Ob):Nd:=⟨x.Ap,x.AL,x.B5,x.AB.map (dl P),x.nums⟩
def Nd.none:Nd:=⟨0,⟨0,0,false,false⟩,false,[],[]⟩
def Nv (e:Nd×Ac×Ac):List Ac:=[I Z e.1.Bc,I Z e.1.AL.p,I Z e.1.AL.d,.bool e.1.AL.AA,.bool e.1.AL.final,.bool e.1.B5,e.2.1,e.2.2]
def yx (es:List (Nd×Ac×Ac)):List Ac:=es.flatMap Nv
def qio (es:List (Nd×Ac×Ac))(e:Nd×Ac×Ac):yx (es++[e])=yx es++Nv e:=by unfold yx;simp
structure CB (W:Aa)(o:Own)(v:Ac)(l:List Nd):Prop where
 es:∃ es:List (Nd×Ac×Ac),es.map (·.1)=l/\Row W o (54,0) 84 8 v l.length (yx es) /\
  ∀ e ∈ es,Row W o (51,0) 3 1 e.2.1 e.1.AB.length (e.1.AB.map zv)/\Row W o (52,0) 3 1 e.2.2 e.1.nums.length (e.1.nums.map zv)
def yq (G:Gf)(P l:List Nat):List Nd:=l.map fun p=>match G p with|some x=>Nd.of P x|none=>Nd.none
def D5 (o o2:Own)(n:Nat):Own:=fun b=>if b<n then o b else o2 b
def YI {o o2:Own}{n b:Nat}(h:b<n):D5 o o2 n b=o b:=if_pos h
def Row.D5 {W:Aa}{o2:Own}{n:Nat}{t:Tag}{e:TypeId}{size k:Nat}{v:Ac}{xs:List Ac}(h:Row W o2 t e size v k xs)(hO:Old n o2)(ht:t≠(0,0))(o:Own):Row W (D5 o o2 n) t e size v k xs:=
 ⟨h.own,fun b hb=>by
  have h1:=h.tag b hb;show (if b<n then o b else o2 b)=t;rw[if_neg fun hl=>ht (by rw[<-h1];exact hO b hl)];exact h1⟩
def Stp.D5 {T:Tag->Prop} {o:Own} {w W:Aa} (o2:Own) (h:Ae w w W):Stp T o (D5 o o2 w) w W:=
 let s:=Stp.of_below (T:=T) (o:=o) h
 ⟨s.os,s.tape,s.output,s.size,fun _ hb=>YI hb,s.block⟩
def Yg {w:Aa}{o:Own}{t:Tag}{e:TypeId}{size n:Nat}{v:Ac}{xs:List Ac}(h:Row w o t e size v n xs):v.oneCell'=true:=by obtain⟨_,_,rfl⟩:=h.A6;rfl
def JR {a b c:Int}{d e f:Bool}{v1 v2:Ac}(h1:v1.oneCell'=true)(h2:v2.oneCell'=true):∀ u ∈ [aK .i64 a,I Z b,I Z c,.bool d,.bool e,.bool f,v1,v2],u.oneCell'=true:=by
 intro u hu;simp at hu;rcases hu with rfl|rfl|rfl|rfl|rfl|rfl|rfl|rfl<;>first|rfl|assumption
def CB.Ar {T:Tag->Prop}{W W':Aa}{o o':Own}{v:Ac}{l:List Nd}(h:CB W o v l)(k:Stp T o o' W W')(h4:¬T (54,0))(h1:¬T (51,0))(h2:¬T (52,0)):CB W' o' v l:=by
 obtain⟨es,he,hr,hi⟩:=h;exact⟨es,he,hr.Ar k h4,fun e h=>⟨(hi e h).1.Ar k h1,(hi e h).2.Ar k h2⟩⟩
def qpb:∃ i,ANa.info? 84=some i/\i.size=8/\i.bytes=88/\i.zero=some (Al #[(),(),(),false,false,false,Ai none 0 0,Ai none 0 0]):=info_parts (by kernel_rfl)
section
variable {w w' : Aa} {a wd L : Nat} {f : Nat -> Nat} {G : Gf} {K : List Nat}
def ql6 (h:Lb w a wd L f G) (hG:Nj G K) {v:Ac} {roots:List Nat} {o:Own} {t:Tag} (hv:Row w o t 3 1 v roots.length (roots.map nv)) (hr:E9 G roots) (hn:roots.length<=1000000) :
  Ab ANa 101 #[Ah (some ⟨a,0,none⟩),v] w fun e w'=>∃ v1 v2 oo,e=O (Ak #[v1,v2,()])/\CB w' oo v1 (yq G (gw G K.length roots) (gw G K.length roots)) /\
   Row w' oo (55,0) 3 1 v2 roots.length (EI (gw G K.length roots) roots)/\Ae w w w'/\Old w oo:=by
 obtain⟨iN,hiN,hsN,hyN,hzN⟩:=qpb;obtain⟨iI,hi,hsI,cK,bZ⟩:=zm;have huN:=underlying40;have hu64:=underlying23;have vK:=Qa (Jk h hG hv hr hn);obtain⟨R,hR⟩:=Ja0 (gw G K.length roots);rw[<-hR]at vK ⊢;obtain⟨pv,cv,rfl⟩:=hv.A6;have HV:=Qa hv;have HGI:=Qa h;have lV:=Qa hG;have lZ:=Qa hr;obtain⟨n,hnn⟩:=Ja0 roots.length;rw[<-hnn]at HV vK hn ⊢;have HN:=Qa hnn;have HNm:=Qa hn;clear hR h hG hv hr hnn hn;go_in;go_wp2_with (first
  | (go_at_call 167;refine vK.o.mono ?_;rintro e w1 ⟨c,mb,oc,rfl,hC,hI,hb1,hO1⟩;obtain⟨vp,jc,hp⟩:=hC.A3;obtain⟨pp,cp,rfl⟩:=hp.A6;have cc:=jc.cell)
  | fail)
 obtain⟨m,hm⟩:=Ja0 R.length;rw[<-hm];have hK:=lV.o.num;have hmK:m<=100000:=by rw[hm];exact Qo (hI.le lV.o.keys) hK
 have HC:=Qa hC;have HI:=Qa hI;have HB1:=Qa hb1;have HP:=Qa hp;have HM:=Qa hm;clear hC hI hb1 hO1 hp hm jc cc hK vK;go_loopw [9,31] (fun vn ix wr=>∃ (k:Nat) (oo:Own),ix=I Z k/\k<=m/\CB wr oo vn (yq G R (R.take k))/\Ae w1 w1 wr/\Old w1 oo) (fun _ ix _=>m-(intOf ix).toNat)
 case atStart=>exact⟨0,fun _=>(0,0),rfl,ag _,⟨[],rfl,Row.nil _ _ _ _ _,fun e he=>by cases he⟩,qd w1,fun _ _=>rfl⟩
 case round =>
  obtain⟨k,oo,rfl,hkm,hN,hb,hO⟩:=hrel;obtain⟨es,hes,hrow,hin⟩:=hN;have hel:(yq G R (R.take k)).length=k:=by unfold yq;rw[Qg,Qp,<-HM.o];omega
  rw[hel]at hrow;by_cases hlt:k<m
  ·have eG:(k:Int)<(m:Int):=by omega
   have HW:=Qa (zc k (by omega))
   obtain⟨x,hx⟩:∃ x,R[k]?=some x:=⟨_,Qb (by rw[<-HM.o];exact hlt)⟩
   obtain⟨g,e,hcell,hcap⟩:∃ g,pp=some ⟨g,0,none⟩/\wr.cell? ⟨g,k,none⟩=some (I Z x)/\m<=cp:=by
    have hp2:=HP.o.below hb;rcases hp2.form with ⟨_,h0⟩|⟨g,cap,e,hcap,_⟩
    ·rw[<-HM.o]at h0;omega
    ·injection e with e1 _ e3
     subst e1 e3;exact⟨g,rfl,hp2.cells k _ (by rw[Qj,hx];rfl),by rw[HM.o];exact hcap⟩
   subst e;obtain⟨ob,bY⟩:=Option.isSome_iff_exists.1 (HI.o.Sm x (Qe hx));have uF:=Qa (JQ (HGI.o.below (qe HB1.o hb)) bY (HC.o.below hb));have hst:yq G R (R.take (k+1))=yq G R (R.take k)++[Nd.of R ob]:=by
    unfold yq;rw[aj,hx,Qw];simp[bY]
   obtain⟨pn,cn,rfl⟩:=hrow.A6;have HX:=Qa (fun (w3 W5:Aa) (o3:Own) (v1 v2:Ac) (r1:Row w3 o3 (51,0) 3 1 v1 ob.AB.length (EI R ob.AB)) (r2:Row w3 o3 (52,0) 3 1 v2 ob.nums.length (ob.nums.map zv)) (hb3:Ae wr wr w3) (hO3:Old wr o3) (cO:Ae w3 w3 W5) =>
    show Row W5 (ext (D5 oo o3 wr) w3.1.size (53,0)) (54,0) 84 8 (.slice pn k cn) k (yx es) /\
     ∀ (w8:Aa) (o8:Own) (v8:Ac),Row w8 o8 (54,0) 84 8 v8 (k+1) (yx es++Nv (Nd.of R ob,v1,v2))->Stp (fun t=>t=(54,0)) (ext (D5 oo o3 wr) w3.1.size (53,0)) o8 W5 w8 ->
      CB w8 o8 v8 (yq G R (R.take (k+1)))/\Ae w1 w1 w8/\Old w1 o8 from by
     have s1:Stp (fun _=>False) oo (D5 oo o3 wr) wr w3:=Stp.D5 o3 hb3;have s2:Stp (fun _=>False) (D5 oo o3 wr) (ext (D5 oo o3 wr) w3.1.size (53,0)) w3 W5:=(Stp.of_below cO).ext _ _ (Qk _);have s3:=s1.trans s2;refine⟨hrow.Ar s3 id,fun w8 o8 v8 gX gK=>⟨⟨es++[(Nd.of R ob,v1,v2)],?_,?_,?_⟩,?_,?_⟩⟩
     ·rw[Qw,hes,hst];rfl
     ·rw[qio]
      exact gX.ite (by rw[hst,Qd,hel];rfl) rfl
     ·intro e he
      rcases Qs.1 he with he|he
      ·obtain⟨q1,q2⟩:=hin e he
       exact⟨(q1.Ar s3 id).Ar gK (by simp),(q2.Ar s3 id).Ar gK (by simp)⟩
      ·simp only[Zb]at he
       subst he;have q1:=((r1.D5 hO3 (by simp) oo).Ar s2 id).Ar gK (by simp)
       have q2:=((r2.D5 hO3 (by simp) oo).Ar s2 id).Ar gK (by simp)
       refine⟨q1.ite (by show _=(ob.AB.map (dl R)).length;rw[Qg]) (by show _=(ob.AB.map (dl R)).map zv;rw[List.map_map];rfl),q2⟩
     ·have kk:Stp (fun t=>t=(54,0)) oo o8 w1 w8:=((Stp.of_below hb).trans (s3.mono fun _ h=>h.elim)).trans gK
      exact kk.below fun b hb2 e=>by rw[hO b hb2]at e;simp at e
     ·intro b hb2
      have hlw:b<wr.1.size:=Qn hb2 hb.size;have Adj:b<w3.1.size:=Qn hlw hb3.size;rw[gK.tags b (Qn Adj cO.size),qk Adj,YI hlw];exact hO b hb2)
   have dE:k+1<=maxLen:=by simp only[maxLen];omega
   have hmb:(k+1)*88<=140737488355328:=by omega
   obtain⟨⟨sp,sd,wk,fn⟩,fr,se,Bc,AB,nums⟩:=ob;simp only at uF HX;clear hx bY hst hrow hin hes hel hb hO;go_wp2_with (first
    | (go_at_call 168;refine uF.o.mono ?_;rintro e w3 ⟨v1,v2,o3,rfl,r1,r2,hb3,hO3⟩;obtain⟨p1,c1,rfl⟩:=r1.A6;obtain⟨p2,c2,rfl⟩:=r2.A6;have HOn:=Qa (JR (a:=Bc) (b:=sp) (c:=sd) (d:=wk) (e:=fn) (f:=fr) (Yg r1) (Yg r2));have HXX:=Qa (HX.o w3 _ o3 _ _ r1 r2 hb3 hO3 (qc (qc (qd w3) (ANb #[I Z Bc,sp,sd,wk,fn,fr,.slice p1 AB.length c1,.slice p2 nums.length c2] 84)) (ANb #[I Z Bc,sp,sd,wk,fn,fr,.slice p1 AB.length c1,.slice p2 nums.length c2] 84)));have HJn:=Qa (An.Ax (w3.alloc (ANb #[I Z Bc,sp,sd,wk,fn,fr,.slice p1 AB.length c1,.slice p2 nums.length c2] 84)) _ #[I Z Bc,sp,sd,wk,fn,fr,.slice p1 AB.length c1,.slice p2 nums.length c2] 84 (w3.1.size+1) (by simp) rfl))
    | (at_builtin;refine qg _ rfl _ _ _ rfl 84 iN _ 8 88 huN hiN hzN hsN hyN rfl (by decide) (ext (D5 oo o3 wr) w3.1.size (53,0)) (54,0) _ _ _ rfl HXX.o.1 ⟨w3.1.size+1,0,none⟩ 1 1 [I Z Bc,I Z sp,I Z sd,.bool wk,.bool fn,.bool fr,.slice p1 AB.length c1,.slice p2 nums.length c2] rfl rfl (gm HJn.o) HOn.o dE hmb ?_;intro v8 w8 hown hst;have HF:=Qa (HXX.o.2 w8 _ v8 hown hst);clear hown hst)
    | fail)
   obtain⟨hw1,hw2⟩:=HW.o;go_wp2_with fail;go_roundw
   case rel=>exact⟨k+1,_,by simp,hlt,HF.o⟩
   case measure=>clear hw1 hw2 dE hmb;simp[intOf];omega
  ·obtain rfl:k=m:=by omega
   have Acu:R.take k=R:=by rw[HM.o,ai]
   rw[Acu]at hes hel;obtain⟨pn,cn,rfl⟩:=hrow.A6;have HNd:=Qa (show CB wr oo (.slice pn k cn) (yq G R R) from ⟨es,hes,by rw[hel];exact hrow,hin⟩)
   have qN:=Qa (Ad hb hO);clear hes hel hrow hin Acu hb hO hlt hkm;go_wp2_with fail;go_loopw [14,52] (fun vs ix wx=>∃ (j:Nat) (o4:Own),ix=I Z j/\j<=n/\Row wx o4 (55,0) 3 1 vs j (EI R (roots.take j))/\CB wx o4 (.slice pn k cn) (yq G R R)/\Ae w1 w1 wx/\Old w1 o4) (fun _ ix _=>n-(intOf ix).toNat)
   case atStart=>exact⟨0,oo,rfl,ag _,Row.nil _ _ _ _ _,HNd.o,qN.o⟩
   case round =>
    clear HNd qN;obtain⟨j,o4,rfl,hjn,hr4,hN4,hb4,hO4⟩:=hrel;by_cases hlt:j<n
    ·have qG:(j:Int)<(n:Int):=by omega
     have hnn:=HNm.o;have HW:=Qa (zc j (by omega))
     obtain⟨x,hx⟩:∃ x,roots[j]?=some x:=⟨_,Qb (by rw[<-HN.o];exact hlt)⟩
     obtain⟨g,e,hcell,hcap⟩:∃ g,pv=some ⟨g,0,none⟩/\wr.cell? ⟨g,j,none⟩=some (I Z x)/\n<=cv:=by
      have hv2:=(HV.o.below HB1.o).below hb4;rcases hv2.form with ⟨_,h0⟩|⟨g,cap,e,hcap,_⟩
      ·omega
      ·injection e with e1 _ e3
       subst e1 e3;exact⟨g,rfl,hv2.cells j _ (by rw[Qj,hx];rfl),hcap⟩
     subst e;have hxb:=lV.o.bd lZ.o (Qe hx);have HIx:=Qa (XA (HC.o.below hb4) x (by omega))
     have fI:=Qa (show EI R (roots.take (j+1))=EI R (roots.take j)++[I Z (dl R x)] from by rw[aj,hx];unfold EI;rw[Qw];rfl)
     obtain⟨ps,cs,rfl⟩:=hr4.A6;have dE:j+1<=maxLen:=by simp only[maxLen];omega
     have hmb:(j+1)*8<=140737488355328:=by omega
     have HRn:=Qa (hr4.below (qc (qd wr) (ANb #[I Z (dl R x)] 3)));have HX:=Qa (fun (w8:Aa) (o8:Own) (v8:Ac) (gX:Row w8 o8 (55,0) 3 1 v8 (j+1) (EI R (roots.take j)++[I Z (dl R x)])) (gK:Stp (fun t=>t=(55,0)) o4 o8 (wr.alloc (ANb #[I Z (dl R x)] 3)) w8) =>
      show Row w8 o8 (55,0) 3 1 v8 (j+1) (EI R (roots.take (j+1)))/\CB w8 o8 (.slice pn k cn) (yq G R R)/\Ae w1 w1 w8/\Old w1 o8 from by
       have s:Stp (fun t=>t=(55,0)) o4 o8 wr w8:=(Stp.of_below (qc (qd wr) _)).trans gK;have kk:Stp (fun t=>t=(55,0)) o4 o8 w1 w8:=(Stp.of_below hb4).trans s;refine⟨by rw[fI.o];exact gX,hN4.Ar s (by simp) (by simp) (by simp),kk.below fun b hb2 e=>?_,fun b hb2=>(kk.tags b hb2).trans (hO4 b hb2)⟩
       rw[hO4 b hb2]at e;simp at e)
     clear hr4 hN4 hb4 hO4 hx hxb hnn;go_wp2_with (first
      | (go_at_call 169;refine HIx.o.mono ?_;rintro e w3 ⟨rfl,rfl⟩)
      | (at_builtin;refine qg _ rfl _ _ _ rfl 3 iI _ 1 8 hu64 hi bZ hsI cK rfl (by decide) o4 (55,0) _ _ _ rfl HRn.o ⟨wr,0,none⟩ 1 1 [I Z (dl R x)] rfl rfl (qx (An.new wr _ _)) jh dE hmb ?_;intro v8 w8 hown hst;have HF:=Qa (HX.o w8 _ v8 hown hst);clear hown hst)
      | fail)
     obtain⟨hw1,hw2⟩:=HW.o;go_wp2_with fail;go_roundw
     case rel=>exact⟨j+1,_,by simp,hlt,HF.o⟩
     case measure=>clear hw1 hw2 dE hmb;simp[intOf];omega
    ·obtain rfl:j=n:=by omega
     rw[HN.o,ai,<-HN.o]at hr4;have HX:=Qa (Ad hN4 (Ad hr4 (Ad (qe HB1.o hb4) (show Old w o4 from fun b hb=>hO4 b (Qn hb HB1.o.size)))));clear hN4 hr4 hb4 hO4;go_wp2_with fail;go_ret3;exact⟨_,_,o4,rfl,HX.o⟩
end
end
section
open Go.RowKit Hp
attribute [local go_sem ↓] Go.wp_at_zero Go.wp_at_succ
def Xw (o:Own):∀ n:Nat,∃ N,∀ b,b<n->(o b).1<N
 | 0=>⟨0,fun b h=>by omega⟩
 | n+1=>by
  obtain⟨N,hN⟩:=Xw o n;refine⟨N+(o n).1+1,fun b hb=>?_⟩;by_cases h:b=n
  ·rw[h];omega
  ·have:=hN b (by omega);omega
def Stp.shrink {T U:Tag->Prop}{o o':Own}{w w':Aa}(h:Stp U o o' w w')(ht:∀ b,b<w.1.size->U (o b)->T (o b)):Stp T o o' w w':=
 ⟨h.os,h.tape,h.output,h.size,h.tags,fun b hb hn=>h.block b hb fun hu=>hn (ht b hb hu)⟩
def Row.takeN {w:Aa}{o:Own}{t:Tag}{e:TypeId}{g n cap:Nat}{xs:List Ac}(h:Row w o t e 1 (Ai (some ⟨g,0,none⟩) n cap) n xs){k:Nat}(hk:k<=n):Row w o t e 1 (Ai (some ⟨g,0,none⟩) k cap) k (xs.take k):=by
 refine⟨?_,h.tag⟩;have h1:=h.own.1;rcases h.own.2 with ⟨h',_⟩|⟨g',cap',cur,h',hb,hg,hn,hc,hs,ht⟩
 ·simp at h'
 ·simp only[Value.slice.injEq,Zc,Addr.mk.injEq,and_true,true_and]at h'
  obtain⟨rfl,rfl⟩:=h';refine⟨by rw[Qp];omega,.inr ⟨g,cap,cur,rfl,hb,hg,by omega,hc,hs,?_⟩⟩
  rw[<-ht,List.take_take];congr 1;omega
def Row.Vz {w:Aa}{o:Own}{t:Tag}{e:TypeId}{g cap:Nat}{l:List Nat}(h:Row w o t e 1 (Ai (some ⟨g,0,none⟩) l.length cap) l.length (l.map nv)):Ee w g 0 l cap:=by
 rcases h.shape with ⟨h',_⟩|⟨g',cap',h',hn,_⟩
 ·simp at h'
 ·simp only[Value.slice.injEq,Zc,Addr.mk.injEq,and_true,true_and]at h'
  obtain⟨rfl,rfl⟩:=h';exact⟨hn,h.blt,fun j x hj=>by rw[aG];exact h.cells j _ (by rw[Qj,hj];rfl)⟩
section
variable {w w' : Aa} {o o' : Own} {y : Bl} {S : Am} {i : Nat}
def Av.Ho (h:Av w o y S):DO w o y.l y.cy S.ph [] []:=⟨⟨_,_,h.cy,Row.nil _ _ _ _ _,Row.nil _ _ _ _ _⟩,h.oy⟩
def qhy (h:Av w o y S)(hk:S.ok)(h0:S.ph≠0)(a:Option Addr)(n c:Nat) :
  Ab ANa 22 #[ptr y.sb,.slice a n c] w fun e w'=>e=O (Ak #[Ai none 0 0,false])/\w=w':=by
 have HL:=Qa (gk h.Ho hk.ph.1);rw[decide_eq_true h0]at HL;obtain⟨vq,vl,vm,jb,_⟩:=h.A3;unfold qm at jb;have c':=jb.cell;clear h hk h0;go_in;go_wp2_with fail;refine HL.o.mono ?_
 rintro e w1⟨rfl,rfl⟩
 go_wp2_with fail;go_ret2;exact⟨rfl,rfl⟩
def uu (H:Hp)(r:Nat):Bool:=decide (r=0)||(lk H.cur r).isSome
def qky (h:Av w o y S)(hk:S.ok)(h0:S.ph=0){v:Ac}{ps:List Nat}{ta:Tag}(hv:Row w o ta 3 1 v ps.length (ps.map nv))(hp:ps.length<=100000)(hb:ps.all (uu S.H)=false) :
  Ab ANa 22 #[ptr y.sb,v] w fun e w'=>e=O (Ak #[Ai none 0 0,false])/\Ae w w w':=by
 have HL:=Qa (gk h.Ho hk.ph.1);rw[show decide (S.ph≠0)=false from by rw[h0];rfl]at HL
 have HH:=Qa (fun (w2:Aa)(hb:Ae w w w2)(p:Nat)=>RO (h.below hb) hk p)
 obtain⟨vq,vl,vm,jb,_⟩:=h.A3;unfold qm at jb;obtain⟨pv,cv,rfl⟩:=hv.A6;have HV:=Qa hv;have HJ:=Qa jb;have HB:=Qa hb;obtain⟨H,hHe⟩:=Ja0 S.H;rw[<-hHe]at HH HB;obtain⟨n,hn⟩:=Ja0 ps.length;rw[<-hn]at HV hp ⊢;have HN:=Qa hn;have c':=jb.cell;generalize S.next=N at *;generalize S.Aw=N1 at *;generalize S.version=N2 at *;clear h hk h0 hv hb jb hHe hn;go_in;go_wp2_with fail;refine HL.o.mono ?_
 rintro e w1 ⟨rfl,rfl⟩
 go_wp2_with fail;clear c';go_loopw [25](fun ix wr=>∃ k:Nat,ix=I Z k/\k<=n/\(ps.take k).all (uu H)=true/\Ae w w wr)(fun ix _=>n-(intOf ix).toNat)
 case atStart=>exact⟨0,rfl,ag _,rfl,qd w⟩
 case round =>
  obtain⟨k,rfl,hkn,hall,hb⟩:=hrel;obtain⟨wo,rfl⟩:=Ja0 wr;have c':=(HJ.o.below hb HJ.o.lt).cell;by_cases hlt:k<n
  ·have eG:(k:Int)<(n:Int):=by omega
   obtain⟨x,hx⟩:∃ x,ps[k]?=some x:=⟨_,Qb (by rw[<-HN.o];exact hlt)⟩
   obtain⟨g,cap,e,hcell⟩:∃ g cap,aF pv n cv=Ai (some ⟨g,0,none⟩) n cap/\wo.cell? ⟨g,k,none⟩=some (I Z x):=by
    rcases (HV.o.below hb).form with ⟨_,h0⟩|⟨g,cap,e,_⟩
    ·omega
    ·injection e with e1 _ e3
     subst e1 e3;exact⟨g,cv,rfl,(HV.o.below hb).cells k _ (by rw[Qj,hx];rfl)⟩
   injection e with e1 _ e3;subst e1 e3;have htk:(ps.take (k+1)).all (uu H)=((ps.take k).all (uu H)&&uu H x):=by rw[aj,hx,List.all_append];simp
   have nQ:=Qa htk;have HC:=Qa (HH.o wo hb x);have HAL:=Qa hall;obtain⟨hw1,hw2⟩:=zc k (by omega)
   by_cases hx0:x=0
   ·subst hx0
    have hxb:(((0:Nat):Int) != 0)=false:=rfl;clear hx hall htk;go_wp2_with fail;go_roundw
    case rel=>exact⟨k+1,by simp,by omega,by rw[nQ.o,HAL.o];rfl,hb⟩
    case measure=>simp[intOf];omega
   ·have hxb:((x:Int) != 0)=true:=by rw[bne_iff_ne];omega
    cases hs:(lk H.cur x).isSome with
    | true =>
     rw[hs]at HC;have hro:uu H x=true:=by unfold uu;rw[hs,Bool.or_true]
     have HRO:=Qa hro;clear hx hall htk hs hx0 hro;go_wp2_with fail;refine HC.o.mono ?_;rintro e w3 ⟨rfl,hb3⟩;go_wp2_with fail;go_roundw
     case rel=>exact⟨k+1,by simp,by omega,by rw[nQ.o,HAL.o,HRO.o];rfl,qe hb hb3⟩
     case measure=>simp[intOf];omega
    | false =>
     rw[hs]at HC;clear hx hall htk hs hx0;go_wp2_with fail;refine HC.o.mono ?_;rintro e w3 ⟨rfl,hb3⟩;go_wp2_with fail;go_ret2;exact⟨rfl,qe hb hb3⟩
  ·exfalso
   have h1:k=n:=by omega
   rw[h1,HN.o,ai]at hall;have:=HB.o;rw[hall]at this
   cases this
end
section
variable {w w' : Aa} {o o' : Own} {y : Bl} {S : Am} {i : Nat}
def ql1 (h0:Av w o y S)(hk:S.ok){v:Ac}{ps:List Nat}{ta:Tag}(hv:Row w o ta 3 1 v ps.length (ps.map nv))(hp:ps.length<=100000)(hp1:1<=ps.length)(hm:S.may ps=true) :
  Ab ANa 22 #[ptr y.sb,v] w fun e w'=>∃ v' o',e=O (Ak #[v',true])/\Av w' o' y ((S.begun ps).at' (S.begun ps).H.now)/\Row w' o' (y.l.id+1,0) 3 1 v' ps.length ((ps.map (S.begun ps).H.now).map nv)/\Stp (qi y) o o' w w':=by
 have qJ:S.ph=0:=Vd hm;have hall:ps.all (uu S.H)=true:=by unfold Am.may at hm;simp only[Bool.and_eq_true]at hm;exact hm.2
 have hmv:S.H.AK=false:=hk.ph.2.1 qJ;obtain⟨NN,hNN⟩:=Xw o w;have Abz:y.l.id<NN:=by have:=hNN _ h0.lt;rw[h0.os]at this;exact this
 have h:=h0;have HL:=Qa (gk h.Ho hk.ph.1);rw[show decide (S.ph≠0)=false from by rw[qJ];rfl]at HL
 have HH:=Qa (fun (w2:Aa)(hb:Ae w w w2)(p:Nat)=>RO (h.below hb) hk p)
 obtain⟨vq,vl,vm,jb,_⟩:=h.A3;unfold qm at jb;obtain⟨pv,cv,rfl⟩:=hv.A6;have HV:=Qa hv;have HJ:=Qa jb;have Aaj:=Qa hall;have HP0:=Qa (fun (w2:Aa)(hb:Ae w w w2)=>VQ (h.below hb) hk (hv.below hb) hp)
 have HST:=Qa (fun (W w3:Aa)(hW:Ae w w W)(hb3:Ae W W w3)(v3:Ac)(hr3:Row w3 (fo W) (1,0) 3 1 v3 (S.places ps).length ((S.places ps).map nv)) =>
  show Ab ANa 47 #[ptr y.cy,v3] w3 fun e w4=>∃ v4 o4,e=O (Ak #[v4,true])/\Av w4 o4 y (S.begun ps)/\Row w4 o4 (NN,1) 3 1 v4 (S.places ps).length (((S.places ps).map (S.begun ps).H.now).map nv)/\Stp (qi y) o o4 w w4 from by
   have cZ:Av w3 (ext o W (NN,0)) y S:=((h.below hW).retag fun b hb=>qk hb).below hb3;have hpl:=lj hk ps;have hn2:=hk.Lh;refine (qqh cZ.hp hk.H hmv (by have:=cZ.cy;rw[qJ]at this;exact this) cZ.oy (hr3.out o (NN,0)) (by omega) (NN,1) (fun e=>by have:=e.1;simp only at this;omega) (fun e=>by have:=e.1;simp only at this;omega) (by simp)).mono ?_
   rintro e w4 ⟨v4,o4,rfl,hH4,hc4,hr4,hs4⟩;have s3:Stp (fun _=>False) o (ext o W (NN,0)) w w3:=(Stp.of_below (qe hW hb3)).ext _ _ hW.size;have dQ:Av w4 o4 y { S with H:=(S.H.flip.Ay (S.places ps)).1,ph:=1 }:=cZ.FL hH4 hc4 hs4 fun j hj e=>by
    rcases e with e|e
    ·have:=e.2;simp only at this;omega
    ·have:=congrArg Prod.fst e;simp only at this;omega
   refine⟨v4,o4,rfl,dQ,?_,((s3.mono fun _ h=>h.elim).trans hs4).shrink fun b hb e=>?_⟩
   ·have e:(S.H.flip.Ay (S.places ps)).2=(S.places ps).map (S.begun ps).H.now:=sm (S.places ps) S.H.flip
    rw[<-e];exact hr4
   ·rcases e with e|e
    ·exact e.1
    ·exfalso;have:=hNN b hb;rw[e]at this;exact Nat.lt_irrefl _ this)
 obtain⟨n,hn⟩:=Ja0 ps.length;rw[<-hn]at HV HP0;have HN:=Qa hn;have HK:=Qa hk;have lY:=Qa (Am.EA hk qJ ps);have qR:=Qa Abz;obtain⟨H,hHe⟩:=Ja0 S.H;rw[<-hHe]at HH Aaj;have c':=jb.cell;have hn1:n<=100000:=by omega
 have hn2:1<=n:=by omega
 rw[<-hn];generalize S.next=N at *;generalize S.Aw=N1 at *;generalize S.version=N2 at *;clear h h0 hk qJ hv hp hp1 hm hall hmv hNN jb hHe hn Abz;go_in;go_wp2_with fail;refine HL.o.mono ?_
 rintro e w1 ⟨rfl,rfl⟩
 go_wp2_with fail;clear c';go_loopw [25] (fun ix wr=>∃ k:Nat,ix=I Z k/\k<=n/\Ae w w wr) (fun ix _=>n-(intOf ix).toNat)
 case atStart=>exact⟨0,rfl,ag _,qd w⟩
 case round =>
  obtain⟨k,rfl,hkn,hb⟩:=hrel;obtain⟨wo,rfl⟩:=Ja0 wr;have jo:=HJ.o.below hb HJ.o.lt;have c':=jo.cell;by_cases hlt:k<n
  ·have eG:(k:Int)<(n:Int):=by omega
   obtain⟨x,hx⟩:∃ x,ps[k]?=some x:=⟨_,Qb (by rw[<-HN.o];exact hlt)⟩
   obtain⟨g,cap,e,hcell⟩:∃ g cap,aF pv n cv=Ai (some ⟨g,0,none⟩) n cap/\wo.cell? ⟨g,k,none⟩=some (I Z x):=by
    rcases (HV.o.below hb).form with ⟨_,h0⟩|⟨g,cap,e,_⟩
    ·omega
    ·injection e with e1 _ e3
     subst e1 e3;exact⟨g,cv,rfl,(HV.o.below hb).cells k _ (by rw[Qj,hx];rfl)⟩
   injection e with e1 _ e3;subst e1 e3;have hro:=List.all_eq_true.1 Aaj.o x (Qe hx);have HC:=Qa (HH.o wo hb x);obtain⟨hw1,hw2⟩:=zc k (by omega)
   by_cases hx0:x=0
   ·subst hx0
    have hxb:(((0:Nat):Int) != 0)=false:=rfl;clear hx hro jo;go_wp2_with fail;go_roundw
    case rel=>exact⟨k+1,by simp,by omega,hb⟩
    case measure=>simp[intOf];omega
   ·have hxb:((x:Int) != 0)=true:=by rw[bne_iff_ne];omega
    have hs:(lk H.cur x).isSome=true:=by unfold uu at hro;rw[decide_eq_false hx0,Bool.false_or]at hro;exact hro
    rw[hs]at HC;clear hx hro hs hx0 jo;go_wp2_with fail;refine HC.o.mono ?_;rintro e w3 ⟨rfl,hb3⟩;go_wp2_with fail;go_roundw
    case rel=>exact⟨k+1,by simp,by omega,qe hb hb3⟩
    case measure=>simp[intOf];omega
  ·obtain rfl:k=n:=by omega
   have HB:=Qa hb;have uG:=Qa (HP0.o wo.drew (qf hb));have cb:wo.cell? ⟨y.sb,1,none⟩=some (ptr y.cy):=jo.cell 1;clear hb hlt c' hkn;go_upto_region 9 with fail;go_region_held3 (fun w'=>w'.cell? ⟨y.sb,1,none⟩=some (ptr y.cy)) (first|with_reducible assumption|go_keep) (first
    | (go_at_call 48;refine uG.o.mono ?_;rintro e w3 ⟨v3,rfl,hr3,hb3⟩;have wJ:=((qj jo).below hb3 jo.lt).cell 1)
    | (go_at_call 47;refine (HST.o _ _ (qf HB.o) hb3 _ hr3).mono ?_;rintro e w4 ⟨v4,o4,rfl,dQ,hr4,hs4⟩;have yR:w4.cell? ⟨y.sb,1,none⟩=some (ptr y.cy):=by { obtain⟨_,_,_,j4,_⟩:=dQ.A3;exact j4.cell 1 })
    | fail)
   obtain⟨ms,hms⟩:=Ja0 ((S.places ps).map (S.begun ps).H.now);obtain⟨L,hL⟩:=Ja0 ((S.places ps).length);have zF:ms.length=L:=by rw[hms,hL,Qg]
   have hkL:k<=L:=by rw[hL,HN.o];unfold Am.places;simp only[Qd];omega
   rw[<-hms,<-hL]at hr4;obtain⟨g,cap,rfl,hcap⟩:∃ g cap,v4=Ai (some ⟨g,0,none⟩) L cap/\L<=cap:=by
    rcases hr4.shape with ⟨_,h0⟩|⟨g,cap,e,hc,_⟩
    ·omega
    ·exact⟨g,cap,e,hc⟩
   have Acv:=hr4.shape;have P4:Ee w4 g 0 ms cap:=by rw[<-zF]at hr4;exact hr4.Vz
   have hgt:o4 g=(NN,1):=hr4.EB;have HCl:=Qa (T3 (hr4.takeN hkL) (by omega) (fun u hu=>li ms u (List.mem_of_mem_take hu)) (y.l.id+1,0))
   have HS4:=Qa dQ;have Aji:=Qa hs4;have HMS:=Qa hms;have yL:=Qa hL;have HLM:=Qa zF;have HKL:=Qa hkL;have hcL:(L:Int)<=(cap:Int):=by omega
   have eG:(k:Int)<=(L:Int):=by omega
   have hkc:(k:Int)<=(cap:Int):=by omega
   have hk0:(0:Int)<=(k:Int):=by omega
   have hnx:=lY.o.qu;have hnx2:=lY.o.Lh;have Adv:(S.begun ps).queue.length<=1099511627776:=by omega
   obtain⟨q1,hq1,P5⟩:=P4.drop (n:=k) (by rw[zF];exact hkL)
   simp only[aG]at hq1;have hlq:(S.begun ps).queue.length<=(ms.drop k).length:=by
    rw[ay,zF,hL,HN.o];unfold Am.places;simp only[Qd,Qg];have:(S.begun ps).queue=S.queue:=rfl;rw[this];omega
   have hdl:(ms.drop k).length=L-k:=by rw[ay,zF]
   obtain⟨_,_,_,j4,_⟩:=dQ.A3;unfold qm at j4;have c4:=j4.cell;have HPQ:=Qa (fun (w5:Aa)(hb5:Ae w4 w4 w5)=>qjr ((dQ.retag (o':=ext o4 w4 (y.l.id+1,0)) fun b hb=>qk hb).below hb5) (P5.below hb5) (by rw[qk P5.lt,hgt];have:=qR.o;simp only;omega) hlq Adv)
   have HGT:=Qa (show (ext o4 w4 (y.l.id+1,0)) g=(NN,1) from by rw[qk P5.lt];exact hgt)
   rw[hdl]at HPQ;clear hr4 hms hL zF hkL dQ hs4 Acv jo cb wJ yR hb3 hr3 hnx hnx2 Adv hlq hdl P4;go_wp2_with fail;refine HCl.o.mono ?_;rintro e w5 ⟨v5,rfl,dZ,hb5⟩;obtain⟨p5,c5,rfl⟩:=dZ.A6;obtain⟨q2,pt5,ct5,vl5,vm5,j5,P6,hC5⟩:=HPQ.o w5 hb5;have tQ:=Qa hC5;have HJ5:=Qa j5;unfold qm at j5;have cc5:=j5.cell;clear c4 j4 hC5 HPQ;go_wp2_with fail;refine tQ.o.mono ?_;rintro e w6 ⟨rfl,eT,hs6⟩;obtain⟨S1,hS1⟩:=Ja0 (S.begun ps);obtain⟨f,hf⟩:=Ja0 ((S.begun ps).H.now);have hdrop:ms.drop k=(S1.queue.map (·.1)).map f++(FY S1.Au 0).map f:=by
    have e:S.places ps=ps++(S1.queue.map (·.1)++FY S1.Au 0):=by rw[hS1];unfold Am.places FY;rw[List.drop_zero,aH];rfl
    rw[HMS.o,<-hf,e,Qw,aC (by rw[Qg];exact HN.o.symm),Qw]
   have hput:kz S1.queue (ms.drop k)=CR f S1.queue:=by rw[hdrop,SE]
   have jO:(ms.drop k).drop S1.queue.length=(FY S1.Au 0).map f:=by rw[hdrop,aC (by simp)]
   have oW:((FY S1.Au 0).map f).length=L-k-S1.queue.length:=by rw[<-jO,ay,ay,HLM.o]
   rw[<-hS1]at eT P6 lY;rw[<-hS1];rw[hput,<-qo2]at eT;rw[jO]at P6;have hgn:¬(fun t=>t=(y.l.id,13)) ((ext o4 w4 (y.l.id+1,0)) g):=by rw[HGT.o];simp
   have P7:=P6.Ar hs6 hgn;have eU:=dZ.Ar hs6 (by simp)
   have hs7:Stp (qi y) o (ext o4 w4 (y.l.id+1,0)) w w6:=(Aji.o.trans ((Stp.of_below hb5).ext _ _ (Qk _))).trans (hs6.mono (by rintro _ rfl;exact rfl))
   obtain⟨gt,ct,uW,hct,rV⟩:=eT.EE (by rw[Sy];exact lY.o.t1)
   rw[Sy]at uW hct rV;have AAj:gt<w6.1.size:=by
    have h1:=eT.ED;rw[uW]at h1;exact h1.blt
   obtain⟨_,_,_,j6,_⟩:=eT.A3;unfold qm at j6;rw[uW]at j6;have c6:=j6.cell;have h8:=lY.o.t8;have gG:=Qa hS1;have HF:=Qa hf;have HR6:=Qa eU;have HMM:Q2 (ms=(S.places ps).map (S.begun ps).H.now):=HMS.o;have HTH:=Qa (fun (w7:Aa)(o7:Own)(q:Nat)(h7:Av w7 o7 y (S1.upto f q))(t:Nat)(ht:t<S1.Au.length)=>show w7.cell? ⟨gt,t,none⟩=some (ptr (y.xb t)) from by
    obtain⟨g',c',e',h',_⟩:=h7.Ep t (by rw[Sy];exact ht)
    rw[uW]at e';injection e' with e1;injection e1 with e1;injection e1 with e1;rw[e1];exact h')
   obtain⟨qn,hqn⟩:=Ja0 S1.queue.length;rw[<-hqn]at oW P7 ⊢;generalize hN8:S1.Au.length=N8 at *;have HN8:=Qa hN8;have HL0:=Qa oW;have HX:=Qa (Ad eT (Ad P7 hs7));clear eT P6 P7 hs6 hs7 dZ eU hb5 tQ HJ5 j5 cc5 hdrop hput jO hS1 hf hgn hct hqn hN8 oW yL;clear P5 hq1;go_wp2_with fail;clear c6 j6;go_loopw [8,72] (fun vv ix wr=>∃ (j:Nat)(oo:Own)(off C:Nat)(R:List Nat),ix=I Z j/\j<=N8/\vv=Ai (some ⟨g,off,none⟩) R.length C/\R=(FY S1.Au j).map f/\Ee wr g off R C/\Av wr oo y (S1.upto f j)/\oo g=(NN,1)/\Row wr oo (y.l.id+1,0) 3 1 (.slice p5 k c5) k ((ms.map nv).take k)/\Stp (qi y) o oo w wr) (fun _ ix _=>N8-(intOf ix).toNat)
   case atStart=>exact⟨0,_,q2,_,_,rfl,ag _,by rw[HL0.o],rfl,HX.o.2.1,HX.o.1,HGT.o,HR6.o,HX.o.2.2⟩
   case round =>
    clear HX HR6 HGT;obtain⟨j,oo,off,C,R,rfl,hjn,rfl,hR,hP,hS,hgo,hrw,hst⟩:=hrel;obtain⟨wi,rfl⟩:=Ja0 wr;by_cases hj:j<N8
    ·have qG:(j:Int)<(N8:Int):=by omega
     have hj':j<S1.Au.length:=by rw[HN8.o];exact hj
     have hju:j<(S1.upto f j).Au.length:=by rw[Sy];exact hj'
     have ct0:=HTH.o wi oo j hS j hj;have hfit:(S1.t j).log.fit:=lY.o.Ew hj';have hto:=lY.o;have htx:=hS.Au j _ (Am.AW hju);rw[KW S1 f hj']at htx;have hut:=KW S1 f hj';obtain⟨vr,vk,vh,vu,hl⟩:=htx.log;have lZ:=Qa (Xm hl hfit);obtain⟨vt,jx,_⟩:=htx.A3;have hRs:R=(S1.t j).log.roots.map f++(((S1.t j).A0.map (·.1)).map f++(FY S1.Au (j+1)).map f):=by rw[hR,KQ hj',Qw,Qw]
     obtain⟨n1,hn1⟩:=Ja0 ((S1.t j).log.roots.length);obtain⟨n2,hn2⟩:=Ja0 ((S1.t j).A0.length);have hRl:R.length=n1+(n2+((FY S1.Au (j+1)).map f).length):=by rw[hRs,hn1,hn2];simp only[Qd,Qg]
     have htk:R.take n1=(S1.t j).log.roots.map f:=by rw[hRs,hn1,aI (by simp)]
     have Gt:R.drop n1=((S1.t j).A0.map (·.1)).map f++(FY S1.Au (j+1)).map f:=by rw[hRs,hn1,aC (by simp)]
     have hdd:(R.drop n1).drop n2=(FY S1.Au (j+1)).map f:=by rw[Gt,hn2,aC (by simp)]
     have hle1:n1<=R.length:=by omega
     have xG:(oo g).1≠y.l.id:=by rw[hgo];have:=qR.o;simp only;omega
     have PT:=hP.take hle1;obtain⟨q3,hq3,PD⟩:=hP.drop hle1;have xP:(R.take n1).length=n1:=by rw[Qp];omega
     have hqj:(S1.t j).A0.length<=1099511627776:=by
      have h1:=Uz _ _ _ (Am.AW hj');have h2:=lY.o.qu;have h3:=lY.o.Lh;omega
     have HRp:=Qa (fun (w3:Aa)(hb3:Ae wi wi w3)=>show Ab ANa 52 #[ptr (y.lb j),Ai (some ⟨g,off,none⟩) n1 C] w3 fun e w5=>e=O (.bool true) /\
       ∃ q4 pt ct,An w5 (y.xb j) #[j,.bool (S1.t j).live,I Z (S1.t j).start,I Z (S1.t j).seen,ptr (y.lb j),.slice pt n2 ct] 105 /\
       Ab ANa 50 #[.slice pt n2 ct,Ai (some ⟨g,q3,none⟩) (R.length-n1) (C-n1)] w5.drew fun e w6=>e=O (Ai (some ⟨g,q4,none⟩) (R.length-n1-n2) (C-n1-n2)) /\
        ∃ o6,Ee w6 g q4 ((FY S1.Au (j+1)).map f) (C-n1-n2)/\Av w6 o6 y (S1.upto f (j+1))/\o6 g=(NN,1)/\Row w6 o6 (y.l.id+1,0) 3 1 (.slice p5 k c5) k ((ms.map nv).take k)/\Stp (qi y) o o6 w w6 from by
      have hr1:=qid (hS.below hb3) (by rw[hut];exact hfit) hju (PT.below hb3) xG (by rw[hut,xP,hn1])
      rw[xP]at hr1;refine hr1.mono ?_;rintro e w5 ⟨rfl,o5,hS5,hs5⟩;rw[hut]at hS5;replace hS5:=hS5.below (qf (qd w5));have sG:Stp (qi y) oo o5 wi w5.drew:=((Stp.of_below hb3).trans (hs5.mono fun _ h=>h.1)).drew;have hg5:o5 g=(NN,1):=(sG.tags _ hP.lt).trans hgo;have PD5:=PD.Ar sG xG;have h5t:((S1.upto f j).tx j ((S1.t j).EN (R.take n1))).t j=(S1.t j).EN (R.take n1):=Am.CZ hju _;have h5l:j<((S1.upto f j).tx j ((S1.t j).EN (R.take n1))).Au.length:=by rw[Am.BA];exact hju
      have e2:(((S1.upto f j).tx j ((S1.t j).EN (R.take n1))).t j).A0.length=n2:=by rw[h5t,hn2];rfl
      have Ada:(R.drop n1).length=R.length-n1:=by rw[ay]
      obtain⟨q4,pt,ct,j5,P6,hC⟩:=qlu hS5 h5l PD5 (by rw[hg5];have:=qR.o;simp only;omega) (by rw[e2,Ada];omega) (by rw[e2,hn2];exact hqj)
      rw[e2]at j5 P6 hC;rw[Ada]at hC;rw[h5t]at j5 hC;refine⟨rfl,q4,pt,ct,j5,hC.mono ?_⟩;rintro e w6 ⟨rfl,eT,hs6⟩;have xL:Stp (qi y) o5 o5 w5.drew w6:=hs6.mono (by rintro _ rfl;exact rfl)
      rw[hdd]at P6;have e3:(((S1.upto f j).tx j ((S1.t j).EN (R.take n1))).tx j (((S1.t j).EN (R.take n1)).Kg (R.drop n1)))=S1.upto f (j+1):=by
       rw[Am.Se,qor S1 f hj',htk,Gt,G2]
      rw[e3]at eT;refine⟨rfl,o5,P6.Ar xL (by rw[hg5];have:=qR.o;intro e;have e:NN=y.l.id:=e;omega),eT,hg5,?_,(hst.trans sG).trans xL⟩
      exact (hrw.Ar sG (qp y)).Ar xL (qp y))
     have Alz:(n1:Int)<=(R.length:Int):=by omega
     have Aly:(n1:Int)<=(C:Int):=by have:=hP.cap;omega
     have hRC:(R.length:Int)<=(C:Int):=by have:=hP.cap;omega
     have Alx:(0:Int)<=(n1:Int):=by omega
     have Aml:=zc j (by omega)
     have HL9:=Qa (show ((FY S1.Au (j+1)).map f).length=R.length-n1-n2 from by omega)
     unfold zj at jx;have HJX:=Qa jx;have cx:=jx.cell;rw[<-hn1]at lZ;obtain⟨hw1,hw2⟩:=Aml;generalize R.length=RL at *;clear hfit hto htx hut hl hRs hn1 hn2 hRl htk Gt hdd hle1 xG PT PD xP hqj hS hP hgo hrw hst hR hju;go_wp2_with fail;refine lZ.o.mono ?_;rintro e w3 ⟨v3,rfl,hr3,hb3⟩;obtain⟨p3,c3,rfl⟩:=hr3.A6;have Abc:=Qa (HRp.o _ (qf hb3));have cx3:=(HJX.o.below hb3 HJX.o.lt).cell;clear hr3 cx HRp lZ ct0;go_upto_region 17 with fail;go_still_tail 7,(by kernel_rfl)
     change wpList _ _ _ _ _ w3.drew;go_wp2_with (first|(go_at_call 52;refine Abc.o.mono ?_;rintro e w5 ⟨rfl,q4,pt,ct9,j5,hC⟩)|fail)
     have HC9:=Qa hC;have cx5:=j5.cell;clear hC cx3 Abc;go_upto_region 18 with fail;go_still_tail 7,(by kernel_rfl)
     change wpList _ _ _ _ _ w5.drew;go_wp2_with (first|(go_at_call 50;refine HC9.o.mono ?_;rintro e w6 ⟨rfl,o6,hP6,eT,zK,eU,hs6⟩)|fail)
     have HX6:=Qa (Ad hP6 (Ad eT (Ad zK (Ad eU hs6))));clear hP6 eT zK eU hs6 HC9 cx5 j5;go_roundw
     case rel=>exact⟨j+1,o6,q4,_,_,by simp,hj,by rw[HL9.o],rfl,HX6.o.1,HX6.o.2.1,HX6.o.2.2.1,HX6.o.2.2.2.1,HX6.o.2.2.2.2⟩
     case measure =>
      clear hw1 hw2 hcL eG hkc hk0 Alz Aly hRC Alx hn2 h8 rV qG hcap;simp[intOf];omega
    ·obtain rfl:j=N8:=by omega
     have hSf:Av wi oo y ((S.begun ps).at' (S.begun ps).H.now):=by
      rw[<-HN8.o,KV,gG.o,HF.o]at hS;exact hS
     have hrf:Row wi oo (y.l.id+1,0) 3 1 (.slice p5 k c5) k ((ps.map (S.begun ps).H.now).map nv):=by
      have e:(ms.map nv).take k=(ps.map (S.begun ps).H.now).map nv:=by
       rw[HMM.out];unfold Am.places;rw[Qw,Qw,Qw,Qw,aH,aI (by rw[Qg,Qg];exact HN.o.symm)]
      rw[<-e];exact hrw
     have HX7:=Qa (Ad hSf (Ad hrf hst));clear hS hP hgo hrw hst hR hSf hrf;go_wp2_with fail;go_ret2;exact⟨_,oo,rfl,HX7.o⟩
end
end
section
open Go.RowKit Hp
section
variable {w w' : Aa} {o o' : Own} {y : Bl} {S : Am}
def qh7 (h:Av w o y S)(hk:S.ok){v:Ac}{ps:List Nat}{ta:Tag}(hv:Row w o ta 3 1 v ps.length (ps.map nv))(hp:ps.length<=100000)(hp1:1<=ps.length) :
  Ab ANa 22 #[ptr y.sb,v] w fun e w'=>∃ v' o',e=O (Ak #[v',.bool (S.AQ ps).2.2])/\Av w' o' y (S.AQ ps).1/\Row w' o' (y.l.id+1,0) 3 1 v' (S.AQ ps).2.1.length ((S.AQ ps).2.1.map nv)/\Stp (qi y) o o' w w':=by
 unfold Am.AQ;by_cases hm:S.may ps=true
 ·rw[if_pos hm]
  simp only[Qg];exact ql1 h hk hv hp hp1 hm
 ·rw[if_neg hm]
  have fin:∀ w',Ae w w w'->∃ v' o',Ending.returned (Ak #[Ai none 0 0,false])=O (Ak #[v',false])/\Av w' o' y S/\Row w' o' (y.l.id+1,0) 3 1 v' ([]:List Nat).length (([]:List Nat).map nv)/\Stp (qi y) o o' w w':=
   fun w' hb=>⟨_,o,rfl,h.below hb,Row.nil _ _ _ _ _,Stp.of_below hb⟩
  by_cases h0:S.ph=0
  ·have hb:ps.all (uu S.H)=false:=by
    cases ha:ps.all (uu S.H) with
    | false=>rfl
    | true =>
     refine absurd ?_ hm;unfold Am.may;rw[decide_eq_true h0,Bool.true_and];exact ha
   refine (qky h hk h0 hv hp hb).mono ?_;rintro e w'⟨rfl,hb⟩;exact fin w' hb
  ·obtain⟨pa,cp,rfl⟩:=hv.A6
   refine (qhy h hk h0 pa ps.length cp).mono ?_;rintro e w'⟨rfl,rfl⟩;exact fin w (qd w)
end
end
section
open Go.RowKit Hp
attribute [local go_sem ↓] Go.wp_at_zero Go.wp_at_succ
section
variable {w w' : Aa} {o o' : Own} {y : Bl} {S : Am} {i : Nat}
def N4 (hk:S.ok):S.FL.ok/\S.FL.next+S.FL.H.final.length+S.PX.length<=S.FL.H.Ap:=by
 obtain⟨h1,h2⟩:=rx hk;rw[YP]at h1 h2;simp only at h1 h2;exact⟨⟨h1.H,h1.n2,h1.lv,h1.t1,h1.t8,h1.lg,h1.st,h1.ve,h1.ho,h1.sc,h1.so,h1.qu,h1.nx,h1.cm,h1.se,h1.ph⟩,h2⟩
def N5 (hk:S.ok):S.H.A4.2.length<=1099511627776:=by
 have h1:=hk.H.fl;have h2:=hk.H.ok.Bc;unfold Hp.A4;split
 ·simp
 ·rw[ku]
  have:=kw S.H S.H.final;omega
def U2 (hk:S.ok):S.H.drop.2.1.length<=1099511627776:=by
 have h1:=hk.H.wl;have h2:=hk.H.ok.Bc;unfold Hp.drop;split
 ·simp
 ·have h3:=rv S.H.settled.AA S.H.settled
  have h4:S.H.settled.AA.length<=S.H.AA.length:=by show (S.H.stay S.H.AA).length<=_;have:=kw S.H S.H.AA;omega
  simp only;omega
def Ku (h:Av w o y S)(hk:S.ok) :
  Ab ANa 55 #[ptr y.cy] w fun e w'=>e=O (.bool S.Cp.2)/\∃ o' vr vs,CJ w' o' y S.FL vr vs S.PX S.JF/\Stp (qi y) o o' w w':=by
 rw[Uk];simp only;have ho:=h.Rt;by_cases h0:S.ph=0
 ·have e:uv S.H S.ph [] []=(S.H,0,[],[],false):=by unfold uv;rw[if_pos h0]
  have hc:=h.Ho;rw[h0]at hc;refine (qlp hc).mono ?_;rintro e' w'⟨rfl,hb⟩;unfold Am.FL Am.PX Am.JF;rw[e];refine⟨rfl,o,Ai none 0 0,Ai none 0 0,?_,Stp.of_below hb⟩;have e2:({ S with H:=S.H,ph:=0 }:Am)=S:=by obtain⟨⟩:=S;simp only at h0;subst h0;rfl
  simp only;rw[e2];exact ho.below hb
 ·refine (Hm h.hp hk.H h.Ho (by have:=hk.ph.1;omega) (by simp) (N5 hk) (by simp) (U2 hk)).mono ?_
  rintro e' w'⟨rfl,o',hH,hC,hs⟩;obtain⟨vr,vs,hb,h1,h2⟩:=hC.A3;exact⟨rfl,o',vr,vs,ho.FL hH hb h1 h2 hs,hs.mono fun _ h=>h.1⟩
end
def ni (y:Bl)(j:Nat)(h:j=11\/j=13\/j=14\/j=15):kh y (y.l.id,j):=⟨rfl,h⟩
def qjs (S:Am)(p:Nat):(S.Bb p).next<=S.next+1:=by
 unfold Am.Bb;split
 ·exact Nat.le_succ _
 ·exact Qk _
def VV:∀ (l:List Nat)(S:Am),(S.A8 l).next<=S.next+l.length
 | [],S=>Qk _
 | p::l,S=>by
  have h1:=qjs S p;have h2:=VV l (S.Bb p);show ((S.Bb p).A8 l).next<=_;rw[Qv];omega
def V1:∀ (l:List Nat)(S:Am),(S.A8 l).lost=S.lost
 | [],_=>rfl
 | p::l,S=>by
  show ((S.Bb p).A8 l).lost=_;rw[V1 l (S.Bb p)];unfold Am.Bb;split<;>rfl
section
variable {w w' : Aa} {o o' : Own} {y : Bl} {S : Am} {i : Nat}
def qpw (h0:Av w o y S) (hk:S.ok) (hl:S.lost.length<=1099511627776) :
  Ab ANa 25 #[ptr y.sb] w fun e w'=>e=O (.bool S.Cp.2)/\BM y S.Cp.1 o w w':=by
 obtain⟨iI,hi,hsI,cK,bZ⟩:=zm;obtain⟨iU,hiU,hsU,hyU,hzU⟩:=gi;have hu64:=underlying23;have huI:=underlying98;have HY:=Qa (Ku h0 hk);obtain⟨hk1,hk2⟩:=N4 hk
 have hls:S.JF.length<=1099511627776:=by
  unfold Am.JF uv;split
  ·simp
  ·split
   ·simp
   ·split
    ·simp
    ·simp only[aJ];exact U2 hk
 have hfin:=Uk S;obtain⟨T,hT⟩:=Ja0 S.FL;obtain⟨rd,hrd⟩:=Ja0 S.PX;obtain⟨ls,xH⟩:=Ja0 S.JF;obtain⟨b,hb⟩:=Ja0 S.Cp.2;have hTl:T.lost=S.lost:=by rw[hT];rfl
 rw[<-hT,<-hrd,<-xH]at HY hfin;rw[<-hb]at HY ⊢;rw[<-hT]at hk1 hk2;rw[<-hrd]at hk2;rw[<-xH]at hls;have hS1:S.Cp.1={ T.A8 rd with lost:=S.lost++ls }:=by rw[hfin]
 rw[hS1,<-hTl];rw[<-hTl]at hl;obtain⟨vq,vl,vm,jb,_⟩:=h0.A3;unfold qm at jb;have c:=jb.cell;have HK1:=Qa hk1;have HK2:=Qa hk2;have vP:=Qa hls;have HTl:=Qa hl;generalize S.next=N at *;generalize S.Aw=N1 at *;generalize S.version=N2 at *;clear h0 hk hl hT hrd xH hb hTl hfin hk1 hk2 hls hS1 jb;go_in;go_wp2_with fail;refine HY.o.mono ?_
 rintro e w1 ⟨rfl,o1,vr,vs,rO,hs1⟩
 have HRd:=Qa (qpq rO.cb rO.oy rO.cr);obtain⟨vq1,vl1,vm1,j1,_⟩:=rO.A3;unfold qm at j1;clear c;have c:=j1.cell;have HC1:=Qa rO;have gG:=Qa hs1;clear rO hs1 HY;go_wp2_with fail;refine HRd.o.mono ?_
 rintro e w2 ⟨rfl,hr2,hb2,hs2⟩
 obtain⟨pr,cr,rfl⟩:=hr2.A6;have hC2:CJ w2 o1 y T (Ai none 0 0) vs [] ls:=HC1.o.Vv hb2 (Row.nil _ _ _ _ _) (HC1.o.cl.Ar hs2 (by simp)) hs2
 have Ady:Stp (qi y) o o1 w w2:=gG.o.trans (hs2.mono (by rintro _ rfl;exact rfl))
 obtain⟨n,hn⟩:=Ja0 rd.length;rw[<-hn]at hr2 ⊢;have HN:=Qa hn;have mQ:n<=1099511627776:=by rw[hn];have:=HK2.o;have:=HK1.o.H.ok.Bc;omega
 have Air:=Qa mQ;have HX:=Qa (Ad hC2 (Ad hr2 Ady));clear hC2 hr2 Ady hs2 hb2 HC1 gG HRd c j1 hn mQ;go_wp2_with fail;go_loopw [24] (fun ix wr=>∃ (k:Nat) (oo:Own),ix=I Z k/\k<=n/\CJ wr oo y (T.A8 (rd.take k)) (Ai none 0 0) vs [] ls/\Row wr oo (y.l.id,8) 3 1 (.slice pr n cr) n (rd.map nv)/\Stp (qi y) o oo w wr) (fun ix _=>n-(intOf ix).toNat)
 case atStart=>exact⟨0,o1,rfl,ag _,HX.o⟩
 case round =>
  clear HX;obtain⟨k,oo,rfl,hkn,hC,hr,hs⟩:=hrel;obtain⟨wo,rfl⟩:=Ja0 wr;have hok:=rp (rd.take k) HK1.o (by rw[Qp];have:=HK2.o;omega)
  by_cases hlt:k<n
  ·have eG:(k:Int)<(n:Int):=by omega
   obtain⟨x,hx⟩:∃ x,rd[k]?=some x:=⟨_,Qb (by rw[<-HN.o];exact hlt)⟩
   have htk:=ke hx;have hst:T.A8 (rd.take (k+1))=(T.A8 (rd.take k)).Bb x:=by rw[htk];exact qkj _ _ _
   have hnx:(T.A8 (rd.take k)).next+1<=1099511627776/\(T.A8 (rd.take k)).came.length+1<=1099511627776:=by
    have h1:=VV (rd.take k) T;have h2:=hok.1.cm;have h3:=HK2.o;have h4:=HK1.o.H.ok.Bc;rw[Qp]at h1;have h5:=HN.o;omega
   obtain⟨U,hU⟩:=Ja0 (T.A8 (rd.take k));rw[<-hU]at hC hok hst hnx;have HST:=Qa hst;obtain⟨g,cap,e,hcell⟩:∃ g cap,aF pr n cr=Ai (some ⟨g,0,none⟩) n cap/\wo.cell? ⟨g,k,none⟩=some (I Z x):=by
    rcases hr.form with ⟨_,h0⟩|⟨g,cap,e,_⟩
    ·omega
    ·injection e with e1 _ e3
     subst e1 e3;exact⟨g,cr,rfl,hr.cells k _ (by rw[Qj,hx];rfl)⟩
   injection e with e1 _ e3;subst e1 e3;have kQ:=Qa (G1 hC.hp hok.1.H.ok x);have HK:=Qa hok.1;obtain⟨vq,vl,vm,jb,hrw⟩:=hC.A3;unfold qm at jb;have hrq:=hrw.q;obtain⟨pq,cq,rfl⟩:=hrq.A6;have HJ:=Qa jb;have HW:=Qa hrw;have HC:=Qa hC;have HR:=Qa hr;have HS:=Qa hs;have uD:=Qa hnx;have HKN:=Qa (zc k (by have:=Air.o;omega))
   have c:=jb.cell
   cases hf:U.H.DG x with
   | true =>
    rw[hf]at kQ;have hr1:U.Bb x=U:=by unfold Am.Bb;rw[if_pos (.inl hf)]
    rw[hr1]at HST;clear hx htk hst hnx hC hok hU hr1 hf jb hrw hr hs hrq;go_wp2_with fail;refine kQ.o.mono ?_;rintro e w3 ⟨sp,sd,wk,fn,er,rfl,hb3⟩;obtain⟨hw1,hw2⟩:=HKN.o;clear c;go_wp2_with fail;go_roundw
    case rel=>exact⟨k+1,oo,by simp,hlt,by rw[HST.o];exact HC.o.below (qc hb3 _),HR.o.below (qc hb3 _),HS.o.trans (Stp.of_below (qc hb3 _))⟩
    case measure=>simp[intOf];omega
   | false =>
    rw[hf]at kQ;by_cases wL:100<=U.queue.length
    ·have hr1:U.Bb x=U:=by unfold Am.Bb;rw[if_pos (.inr wL)]
     rw[hr1]at HST;have hqI:(100:Int)<=(U.queue.length:Int):=by omega
     obtain⟨hw1,hw2⟩:=HKN.o;clear hx htk hst hnx hC hok hU hr1 hf hrw hr hs hrq;go_wp2_with (first|(go_at_call 57;refine kQ.o.mono ?_;rintro e w3 ⟨sp,sd,wk,fn,er,rfl,hb3⟩;have c3:=((jb.below hb3 jb.lt).alloc (ANb #[sp,sd,wk,fn] 82)).cell)|fail)
     go_roundw
     case rel=>exact⟨k+1,oo,by simp,hlt,by rw[HST.o];exact HC.o.below (qc hb3 _),HR.o.below (qc hb3 _),HS.o.trans (Stp.of_below (qc hb3 _))⟩
     case measure=>simp[intOf];omega
    ·have hr1:U.Bb x={ U with queue:=U.queue++[(x,U.next)],came:=U.came++[(U.H.Dg x).1],next:=U.next+1 }:=by unfold Am.Bb;rw[if_neg (by rw[hf];simp[wL])]
     rw[hr1]at HST;have hqI:¬((100:Int)<=(U.queue.length:Int)):=by omega
     have mV:U.queue.length<100:=by omega
     have uH:=Qa (fun (w2:Aa) (hb:Ae wo wo w2)=>qqs (HC.o.below hb).hp HK.o.H.ok x);obtain⟨Bc,eO⟩:=Ja0 ((U.H.Dg x).1);obtain⟨se2,Adz⟩:=Ja0 ((U.H.Dg x).2);rw[<-eO]at HST uH;rw[<-Adz]at uH;clear hx htk hst hnx hC hok hU hr1 hf hrw hr hs hrq wL eO Adz;go_wp2_with (first
      | (go_at_call 57;refine kQ.o.mono ?_;rintro e w3 ⟨sp,sd,wk,fn,er,rfl,hb3⟩;have c3:=((jb.below hb3 jb.lt).alloc (ANb #[sp,sd,wk,fn] 82)).cell;have gH:=qc hb3 (ANb #[sp,sd,wk,fn] 82))
      | (go_at_call 58;refine (uH.o _ gH).mono ?_;rintro e w4 ⟨rfl,hb4⟩;have hbw:=qe gH hb4;have c4:=(jb.below hbw jb.lt).cell)
      | fail)
     have C4:=HC.o.below hbw;have R4:=Qa (HR.o.below hbw);have S4:=Qa (HS.o.trans (Stp.of_below hbw));obtain⟨vq4,vl4,vm4,j4,pJ⟩:=C4.A3;have hoS:=C4.os;have rq4:=pJ.q;have rm4:=pJ.m;obtain⟨pq4,cq4,rfl⟩:=rq4.A6;obtain⟨pm4,cm4,rfl⟩:=rm4.A6;have J4:=Qa j4;unfold qm at j4;clear c c3 c4 hb3 gH hb4 hbw kQ uH HC HR HS HJ HW jb;have c4:=j4.cell;have Ata:∀ b,o b=(y.l.id,13)->True:=fun _ _=>trivial;have jn:=An.new w4.drew #[x,U.next] 118;have rn:Row (w4.drew.alloc (ANb #[x,U.next] 118)) oo (y.l.id,13) 118 2 (.slice pq4 U.queue.length cq4) U.queue.length (qh U.queue):=rq4.below (qc (qf (qd w4)) _);have dE:U.queue.length+1<=maxLen/\(U.queue.length+1)*16<=140737488355328:=by simp only[maxLen];omega
     obtain⟨dE,hmb⟩:=dE;have h1c:∀ u ∈ [aK .i64 (x:Int),I Z (U.next:Int)],u.oneCell'=true:=by intro u hu;simp at hu;rcases hu with rfl|rfl<;>rfl
     have Aan:=Qa (fun (w5:Aa) (o5:Own) (p5:Option Addr) (c5:Nat) (hown:Row w5 o5 (y.l.id,13) 118 2 (.slice p5 (U.queue.length+1) c5) (U.queue.length+1) (qh U.queue++[I Z x,I Z U.next])) (hst:Stp (fun u=>u=(y.l.id,13)) oo o5 (w4.drew.alloc (ANb #[x,U.next] 118)) w5) =>
      show CJ (w5.setCell ⟨y.sb,4,none⟩ (.slice p5 (U.queue.length+1) c5)) o5 y { U with queue:=U.queue++[(x,U.next)] } (Ai none 0 0) vs [] ls/\Row (w5.setCell ⟨y.sb,4,none⟩ (.slice p5 (U.queue.length+1) c5)) o5 (y.l.id,8) 3 1 (Ai (some ⟨g,0,none⟩) n cr) n (rd.map nv)/\Stp (qi y) o o5 w (w5.setCell ⟨y.sb,4,none⟩ (.slice p5 (U.queue.length+1) c5)) from by
       have kb:Stp (fun u=>u=(y.l.id,13)) oo oo w4 (w4.drew.alloc (ANb #[x,U.next] 118)):=Stp.of_below (qc (qf (qd w4)) _);have k1:=kb.trans hst;have o5s:o5 y.sb=(y.l.id,11):=(k1.tags _ J4.o.lt).trans hoS;have k2:Stp (fun u=>u=(y.l.id,11)) o5 o5 w5 (w5.setCell ⟨y.sb,4,none⟩ (.slice p5 (U.queue.length+1) c5)):=(Stp.refl _ o5 w5).setCell (by show o5 y.sb=_;exact o5s) _
       have k3:Stp (kh y) oo o5 w4 (w5.setCell ⟨y.sb,4,none⟩ (.slice p5 (U.queue.length+1) c5)):=(k1.mono (by rintro _ rfl;exact ni y 13 (by omega))).trans (k2.mono (by rintro _ rfl;exact ni y 11 (by omega)))
       have hq5:Row (w5.setCell ⟨y.sb,4,none⟩ (.slice p5 (U.queue.length+1) c5)) o5 (y.l.id,13) 118 2 (.slice p5 (U.queue.length+1) c5) (U.queue++[(x,U.next)]).length (qh (U.queue++[(x,U.next)])):=
        (hown.Ar k2 (by simp)).ite (by simp) (by rw[bf];rfl)
       refine⟨C4.own (S':={ U with queue:=U.queue++[(x,U.next)] }) rfl rfl rfl rfl rfl ((J4.o.Ar k1 (by rw[hoS];simp)).set 4 _) ⟨hq5,(pJ.l.Ar k1 (by simp)).Ar k2 (by simp),(pJ.m.Ar k1 (by simp)).Ar k2 (by simp)⟩ k3,R4.o.Ar k3 (ny (by omega) (by omega) (by omega) (by omega)),S4.o.trans (k3.mono fun _ h=>h.1)⟩)
     have HJk:=Qa (fun (w5:Aa) (o5:Own) (hst:Stp (fun u=>u=(y.l.id,13)) oo o5 (w4.drew.alloc (ANb #[x,U.next] 118)) w5)=>(j4.below (qc (qf (qd w4)) (ANb #[x,U.next] 118)) j4.lt).Ar hst (by rw[hoS];simp))
     have s4:=j4.lt;clear C4 pJ rq4 rm4;go_region_law ((refine zt _ (by rfl) _ _ _ (by rfl) 118 iU _ 2 16 huI hiU hzU hsU hyU (by rfl) (by decide) oo (y.l.id,13) _ _ _ (by rfl) rn ⟨w4,0,none⟩ 1 1 [I Z x,I Z U.next] (by rfl) (by rfl) (gm jn) h1c dE hmb ?_;intro v' w5 hown hst;obtain⟨p5,c5,rfl⟩:=hown.A6;have jX:=HJk.o _ _ hst;have cX:=jX.cell;have zX:=jX.free;have sX:=jX.lt))
     all_goals
      obtain⟨W6,o6,fK,C6,R6,S6⟩:∃ (W6:Aa) (o6:Own),W6=w5.setCell ⟨y.sb,4,none⟩ (.slice p5 (U.queue.length+1) c5)/\CJ W6 o6 y { U with queue:=U.queue++[(x,U.next)] } (Ai none 0 0) vs [] ls /\
       Row W6 o6 (y.l.id,8) 3 1 (Ai (some ⟨g,0,none⟩) n cr) n (rd.map nv)/\Stp (qi y) o o6 w W6:=⟨_,_,rfl,Aan.o w5 _ p5 c5 hown hst⟩
      rw[<-fK];clear fK hown hst jX cX zX sX Aan HJk J4 R4 S4;have o6s:=C6.os;obtain⟨vq6,vl6,vm6,j6,sD⟩:=C6.A3;have rm6:=sD.m;obtain⟨pm6,cm6,rfl⟩:=rm6.A6;have j6':An W6 y.sb #[ptr y.l.h,ptr y.cy,ptr y.ck,y.FE,vq6,U.next,U.Aw,U.version,vl6,.slice pm6 U.came.length cm6] 100:=j6;have Aer:Row W6 o6 (y.l.id,15) 3 1 (.slice pm6 U.came.length cm6) U.came.length (U.came.map nv):=rm6;have Ahy:=Qa (fun (w7:Aa) (o7:Own) (p7:Option Addr) (c7:Nat) (kZ:Row w7 o7 (y.l.id,15) 3 1 (.slice p7 (U.came.length+1) c7) (U.came.length+1) (U.came.map nv++[I Z Bc])) (mX:Stp (fun t=>t=(y.l.id,15)) o6 o7 (W6.alloc (ANb #[I Z Bc] 3)) w7) =>
       show An w7 y.sb #[ptr y.l.h,ptr y.cy,ptr y.ck,y.FE,vq6,U.next,U.Aw,U.version,vl6,.slice pm6 U.came.length cm6] 100 /\
        CJ ((w7.setCell ⟨y.sb,9,none⟩ (.slice p7 (U.came.length+1) c7)).setCell ⟨y.sb,5,none⟩ (I Z ((U.next:Int)+1))) o7 y { U with queue:=U.queue++[(x,U.next)],came:=U.came++[Bc],next:=U.next+1 } (Ai none 0 0) vs [] ls /\
        Row ((w7.setCell ⟨y.sb,9,none⟩ (.slice p7 (U.came.length+1) c7)).setCell ⟨y.sb,5,none⟩ (I Z ((U.next:Int)+1))) o7 (y.l.id,8) 3 1 (Ai (some ⟨g,0,none⟩) n cr) n (rd.map nv) /\
        Stp (qi y) o o7 w ((w7.setCell ⟨y.sb,9,none⟩ (.slice p7 (U.came.length+1) c7)).setCell ⟨y.sb,5,none⟩ (I Z ((U.next:Int)+1))) from by
       have k1:Stp (fun t=>t=(y.l.id,15)) o6 o7 W6 w7:=(Stp.of_below (qc (qd W6) _)).trans mX;have j7:=j6'.Ar k1 (by rw[o6s];simp)
       have o7s:o7 y.sb=(y.l.id,11):=(k1.tags _ j6'.lt).trans o6s;have k2:Stp (fun t=>t=(y.l.id,11)) o7 o7 w7 ((w7.setCell ⟨y.sb,9,none⟩ (.slice p7 (U.came.length+1) c7)).setCell ⟨y.sb,5,none⟩ (I Z ((U.next:Int)+1))):=((Stp.refl _ o7 w7).setCell (by show o7 y.sb=_;exact o7s) _).setCell (by show o7 y.sb=_;exact o7s) _
       have k3:Stp (kh y) o6 o7 W6 ((w7.setCell ⟨y.sb,9,none⟩ (.slice p7 (U.came.length+1) c7)).setCell ⟨y.sb,5,none⟩ (I Z ((U.next:Int)+1))):=(k1.mono (by rintro _ rfl;exact ni y 15 (by omega))).trans (k2.mono (by rintro _ rfl;exact ni y 11 (by omega)))
       have j9:=(j7.set 9 (.slice p7 (U.came.length+1) c7)).set 5 (I Z ((U.next:Int)+1));refine⟨j7,C6.own (S':={ U with queue:=U.queue++[(x,U.next)],came:=U.came++[Bc],next:=U.next+1 }) rfl rfl rfl rfl rfl (vq:=vq6) (vl:=vl6) (vm:=.slice p7 (U.came.length+1) c7) j9 ⟨(sD.q.Ar k1 (by simp)).Ar k2 (by simp),(sD.l.Ar k1 (by simp)).Ar k2 (by simp),(kZ.Ar k2 (by simp)).ite (by simp) (by simp[nv])⟩ k3,R6.Ar k3 (ny (by omega) (by omega) (by omega) (by omega)),S6.trans (k3.mono fun _ h=>h.1)⟩)
      have jT:U.came.length+1<=maxLen/\(U.came.length+1)*8<=140737488355328:=by have:=uD.o;simp only[maxLen];omega
      obtain⟨jT,oZ⟩:=jT;obtain⟨hw1,hw2⟩:=HKN.o;obtain⟨hw3,hw4⟩:=zc U.next (by have:=uD.o;omega)
      have RM6:=Qa Aer;have c6:=j6'.cell;have l6:=j6'.lt;clear C6 R6 S6 sD rm6 Aer j6 j6' o6s;go_wp2_with (first
       | (at_builtin;refine qg _ rfl _ _ _ rfl 3 iI _ 1 8 hu64 hi bZ hsI cK rfl (by decide) o6 (y.l.id,15) _ _ _ rfl (RM6.o.below (qc (qd W6) _)) ⟨W6,0,none⟩ 1 1 [I Z Bc] rfl rfl (qx (An.new W6 _ _)) jh jT oZ ?_;intro v7 w7 kZ mX;obtain⟨p7,c7,rfl⟩:=kZ.A6;obtain⟨j7,hfin⟩:=Ahy.o _ _ _ _ kZ mX;have c7:=j7.cell;have z7:=j7.free;have l7:=j7.lt)
       | fail)
      go_roundw
      case rel=>exact⟨k+1,_,by simp,hlt,by rw[HST.o];exact hfin.1,hfin.2.1,hfin.2.2⟩
      case measure=>clear hw1 hw2 hw3 hw4 jT oZ hqI uD;simp[intOf];omega
  ·obtain rfl:k=n:=by omega
   rw[HN.o,ai]at hC;have hlo:(T.A8 rd).lost=T.lost:=V1 rd T;obtain⟨TT,oQ⟩:=Ja0 (T.A8 rd);rw[<-oQ]at hC hlo;have dK:=Qa (show ∀ (w':Aa) (o':Own),Av w' o' y { TT with lost:=TT.lost++ls }->Stp (qi y) o o' w w'->BM y { T.A8 rd with lost:=T.lost++ls } o w w' from fun w' o' h1 h2=>⟨o',by rw[<-hlo,<-oQ];rw[oQ]at h1 ⊢;exact h1,h2⟩)
   rw[<-hlo]at HTl;obtain⟨vq,vl,vm,jb,hrw⟩:=hC.A3;have hrl:=hrw.l;obtain⟨pl,cl,rfl⟩:=hrl.A6;have hcl:=hC.cl;obtain⟨pvs,cvs,rfl⟩:=hcl.A6;have jb':An wo y.sb #[ptr y.l.h,ptr y.cy,ptr y.ck,y.FE,vq,TT.next,TT.Aw,TT.version,.slice pl TT.lost.length cl,vm] 100:=jb;have HLo:=Qa (Hd (hC.below (qf (qd wo))).cb hC.oy (hC.below (qf (qd wo))).cl);have oS:=hC.os;have HX:=Qa (fun (w3:Aa) (hr:Row w3 oo (y.l.id,9) 3 1 (.slice pvs ls.length cvs) ls.length (ls.map nv)) (hb:An w3 y.cy #[ptr y.l.h,FR y.cy TT.ph,Ai none 0 0,Ai none 0 0] 143) (h3:Stp (fun t=>t=(y.l.id,7)) oo oo wo.drew w3) =>
    show CJ w3 oo y TT (Ai none 0 0) (Ai none 0 0) [] []/\An w3 y.sb #[ptr y.l.h,ptr y.cy,ptr y.ck,y.FE,vq,TT.next,TT.Aw,TT.version,.slice pl TT.lost.length cl,vm] 100/\Row w3 oo (y.l.id,14) 3 1 (.slice pl TT.lost.length cl) TT.lost.length (TT.lost.map nv) from by
     have h3':Stp (fun t=>t=(y.l.id,7)) oo oo wo w3:=(Stp.of_below (qf (qd wo))).trans h3;exact⟨hC.Vv hb (Row.nil _ _ _ _ _) (Row.nil _ _ _ _ _) h3',jb'.Ar h3' (by rw[oS];simp),hrl.Ar h3' (by simp)⟩)
   have HY:=Qa (fun (w3 w5:Aa) (o5:Own) (v5:Ac) (h3:Stp (fun t=>t=(y.l.id,7)) oo oo wo.drew w3) (C3:CJ w3 oo y TT (Ai none 0 0) (Ai none 0 0) [] []) (j3:An w3 y.sb #[ptr y.l.h,ptr y.cy,ptr y.ck,y.FE,vq,TT.next,TT.Aw,TT.version,.slice pl TT.lost.length cl,vm] 100)
     (hown:Row w5 o5 (y.l.id,14) 3 1 v5 (TT.lost.length+ls.length) (TT.lost.map nv++ls.map nv)) (hst:Stp (fun t=>t=(y.l.id,14)) oo o5 w3 w5) =>
    show An w5 y.sb #[ptr y.l.h,ptr y.cy,ptr y.ck,y.FE,vq,TT.next,TT.Aw,TT.version,.slice pl TT.lost.length cl,vm] 100/\BM y { T.A8 rd with lost:=T.lost++ls } o w (w5.setCell ⟨y.sb,8,none⟩ v5) from by
     have j5:=j3.Ar hst (by rw[oS];simp)
     have o5s:o5 y.sb=(y.l.id,11):=(hst.tags _ j3.lt).trans oS;have k2:Stp (fun t=>t=(y.l.id,11)) o5 o5 w5 (w5.setCell ⟨y.sb,8,none⟩ v5):=(Stp.refl _ o5 w5).setCell (by show o5 y.sb=_;exact o5s) _
     have k3:Stp (kh y) oo o5 w3 (w5.setCell ⟨y.sb,8,none⟩ v5):=(hst.mono (by rintro _ rfl;exact ni y 14 (by omega))).trans (k2.mono (by rintro _ rfl;exact ni y 11 (by omega)))
     obtain⟨tF,vl',vm',jx,hrx⟩:=C3.A3;have exq:tF=vq/\vm'=vm:=by
      have a1:=jx.cell (i:=4);have a2:=jx.cell (i:=9);rw[j3.cell]at a1 a2;simp[qm]at a1 a2;exact⟨a1.symm,a2.symm⟩
     obtain⟨rfl,rfl⟩:=exq;have C5:=C3.own (S':={ TT with lost:=TT.lost++ls }) rfl rfl rfl rfl rfl (vq:=tF) (vl:=v5) (vm:=vm') (j5.set 8 v5) ⟨(hrx.q.Ar hst (by simp)).Ar k2 (by simp),(hown.Ar k2 (by simp)).ite (by simp) (by simp),(hrx.m.Ar hst (by simp)).Ar k2 (by simp)⟩ k3
     have h3':Stp (qi y) oo oo wo w3:=((Stp.of_below (qf (qd wo))).trans h3).mono (by rintro _ rfl;rfl)
     exact⟨j5,dK.o _ _ C5.close ((hs.trans h3').trans (k3.mono fun _ h=>h.1))⟩)
   have dE:TT.lost.length+ls.length<=maxLen/\(TT.lost.length+ls.length)*8<=140737488355328:=by have:=HTl.o;have:=vP.o;simp only[maxLen];omega
   obtain⟨dE,hmb⟩:=dE;have dI:w.1.size<=wo.1.size:=hs.size;have cb:=jb'.cell;have lb:=jb'.lt;clear oQ hlo hrw hrl hcl jb jb' hC hs hr hok dK hlt hkn dI;go_upto_region 14 with fail;go_region_law (first
    | (refine mw _ (by rfl) _ _ _ (by rfl) 3 iI _ 1 8 hu64 hi bZ hsI cK (by rfl) (by decide) oo (y.l.id,14) _ TT.lost.length (TT.lost.map nv) (by rfl) rL oo (y.l.id,9) _ ls.length (ls.map nv) (by rfl) rS (li _) dE hmb ?_;intro v5 w5 hown hst;obtain⟨p5,c5,rfl⟩:=hown.A6;obtain⟨j5,hfin⟩:=HY.o _ _ _ _ h3 C3 j3 hown hst;have c5':=j5.cell;have z5:=j5.free;have l5:=j5.lt)
    | (go_simp;go_wp2_with ((go_at_call 59;refine HLo.o.mono ?_;rintro e w3 ⟨rfl,rS,b3,h3⟩;obtain⟨C3,j3,rL⟩:=HX.o w3 rS b3 h3;have c3:=j3.cell;have l3:=j3.lt))))
   all_goals
    go_wp2_with fail;go_ret;exact⟨rfl,hfin⟩
end
def Wo {w:Aa}{o1 o2:Own}{t1 t2:Tag}{e1 e2:TypeId}{va vb:Ac}{l:List Int}(ha:Row w o1 t1 e1 1 va l.length (l.map zv))(hb:Row w o2 t2 e2 1 vb l.length (l.map zv))(hn:l.length<=1099511627776) :
  Ab ANa 34 #[va,vb] w fun e w'=>e=O (.bool true)/\Ae w w w':=by
 obtain⟨pa,ca,rfl⟩:=ha.A6;obtain⟨pb,cb,rfl⟩:=hb.A6;have HA:=Qa ha;have HB:=Qa hb;obtain⟨n,hnn⟩:=Ja0 l.length;rw[<-hnn]at HA HB hn ⊢;have HN:=Qa hnn;have HL:=Qa hn;clear ha hb hnn hn;go_in;go_wp2_with fail;go_loopw [5](fun ix wr=>∃ k:Nat,ix=I Z k/\k<=n/\Ae w w wr)(fun ix _=>n-(intOf ix).toNat)
 case atStart=>exact⟨0,rfl,ag _,qd w⟩
 case round =>
  obtain⟨k,rfl,hkn,hb⟩:=hrel;by_cases hlt:k<n
  ·have eG:(k:Int)<(n:Int):=by omega
   obtain⟨hw1,hw2⟩:=xo k n hlt HL.o;obtain⟨x,hx⟩:∃ x,l[k]?=some x:=⟨_,Qb (by rw[<-HN.o];exact hlt)⟩
   obtain⟨ga,ea,hca,q⟩:∃ g,pa=some ⟨g,0,none⟩/\n<=ca/\wr.cell? ⟨g,k,none⟩=some (I Z x):=by
    rcases (HA.o.below hb).form with ⟨_,h0⟩|⟨g,cap,e,hcap,_⟩
    ·omega
    ·injection e with e1 _ e3
     subst e1 e3;exact⟨g,rfl,hcap,(HA.o.below hb).cells k _ (by rw[Qj,hx];rfl)⟩
   obtain⟨gb,eb,hcb,r⟩:∃ g,pb=some ⟨g,0,none⟩/\n<=cb/\wr.cell? ⟨g,k,none⟩=some (I Z x):=by
    rcases (HB.o.below hb).form with ⟨_,h0⟩|⟨g,cap,e,hcap,_⟩
    ·omega
    ·injection e with e1 _ e3
     subst e1 e3;exact⟨g,rfl,hcap,(HB.o.below hb).cells k _ (by rw[Qj,hx];rfl)⟩
   subst ea eb;clear hx;go_upto_region 6 with fail;go_region;go_wp2_with fail;go_roundw
   case rel=>exact⟨k+1,by simp,hlt,by first|exact hb|exact qf hb⟩
   case measure=>clear hw1 hw2;simp[intOf];omega
  ·obtain rfl:k=n:=by omega
   go_wp2_with fail;go_ret;exact⟨rfl,hb⟩
noncomputable def RX (n:Nat):Code:=((Tryz.f15.body.bind (pw n)).getD .skip)
abbrev Vr (ga gb k n yT yU:Nat)(s0 s1 s2:Int)(s3 s4 s5:Bool)(pa qa pb qb:Option Addr)(na ma ca da cb db:Nat)(w':Aa):Prop:=w'.cell? ⟨ga,k*8,none⟩=some (I Z s0)/\w'.cell? ⟨ga,k*8+1,none⟩=some (I Z s1)/\w'.cell? ⟨ga,k*8+2,none⟩=some (I Z s2)/\w'.cell? ⟨ga,k*8+3,none⟩=some (.bool s3)/\w'.cell? ⟨ga,k*8+4,none⟩=some (.bool s4)/\w'.cell? ⟨ga,k*8+5,none⟩=some (.bool s5)/\w'.cell? ⟨ga,k*8+6,none⟩=some (.slice pa na ca)/\w'.cell? ⟨ga,k*8+7,none⟩=some (.slice qa ma da)/\w'.cell? ⟨gb,k*8,none⟩=some (I Z s0)/\w'.cell? ⟨gb,k*8+1,none⟩=some (I Z s1)/\w'.cell? ⟨gb,k*8+2,none⟩=some (I Z s2)/\w'.cell? ⟨gb,k*8+3,none⟩=some (.bool s3)/\w'.cell? ⟨gb,k*8+4,none⟩=some (.bool s4)/\w'.cell? ⟨gb,k*8+5,none⟩=some (.bool s5)/\w'.cell? ⟨gb,k*8+6,none⟩=some (.slice pb na cb)/\w'.cell? ⟨gb,k*8+7,none⟩=some (.slice qb ma db)
def MS (Q:Exit->Act->Aa->Prop)(W:Aa)(ga gb k n yT yU:Nat)(s0 s1 s2:Int)(s3 s4 s5:Bool)(pa qa pb qb:Option Addr)(na ma ca da cb db:Nat){u2 u3 u4 u6 u7 u8 u9 u10 u11 u12 u13 u14 u15 u16 u17 u18 u19 u20 u21 u22 u23 u24 u25 u26 u27 u28 u29 u30 u31 u32 u33 u34 u35 u36 u37 u38 u39 u40 u41 u42 u43 u44 u45 u46 u47 u48 u49 u50 u51 u52 u53 u54 u55 u56 u57 u58 u59 u60 u61 u62 u63 u64 u65 u66 u67 u68 u69 u70 u71 u72 u73 u74 u75 u76 u77 u78 u79 u80 u81:Ac}(hk:k<n)(hca:n<=yT)(hcb:n<=yU)
  (hS:∀ w':Aa,Ae W W w'->Vr ga gb k n yT yU s0 s1 s2 s3 s4 s5 pa qa pb qb na ma ca da cb db w')
  (hC:∀ X:Aa,Ae W W X->Ab ANa 34 #[.slice pa na ca,.slice pb na cb] X fun e w'=>e=O (.bool true)/\Ae X X w')
  (hD:∀ X:Aa,Ae W W X->Ab ANa 34 #[.slice qa ma da,.slice qb ma db] X fun e w'=>e=O (.bool true)/\Ae X X w')
  (mU:∀ c d x a w,Q (.panic c) (a.put d x) w->Q (.panic c) a w)
  (iF:∀ (X:Aa)(z17 z18 z19 z20 z21 z22 z23 z24 z25 z26 z27 z28 z29 z30 z31 z32 z33 z34 z35 z36 z37 z38 z39 z40 z41 z42 z43 z44 z45 z46 z47 z48 z49 z50 z51 z52 z53 z54 z55 z56 z57 z58 z59 z60 z61 z62 z63 z64 z65 z66 z67 z68 z69 z70 z71 z72 z73 z74 z75 z76 z77 z78 z79 z80:Ac),Ae W W X->Q .normal ⟨#[Ai (some ⟨ga,0,none⟩) n yT,Ai (some ⟨gb,0,none⟩) n yU,u2,u3,u4,I Z k,u6,u7,u8,u9,u10,u11,u12,u13,u14,u15,u16,z17,z18,z19,z20,z21,z22,z23,z24,z25,z26,z27,z28,z29,z30,z31,z32,z33,z34,z35,z36,z37,z38,z39,z40,z41,z42,z43,z44,z45,z46,z47,z48,z49,z50,z51,z52,z53,z54,z55,z56,z57,z58,z59,z60,z61,z62,z63,z64,z65,z66,z67,z68,z69,z70,z71,z72,z73,z74,z75,z76,z77,z78,z79,z80,.bool false],[]⟩ X) :
  Code.wp ANa (RX 6) Q ⟨#[Ai (some ⟨ga,0,none⟩) n yT,Ai (some ⟨gb,0,none⟩) n yU,u2,u3,u4,I Z k,u6,u7,u8,u9,u10,u11,u12,u13,u14,u15,u16,u17,u18,u19,u20,u21,u22,u23,u24,u25,u26,u27,u28,u29,u30,u31,u32,u33,u34,u35,u36,u37,u38,u39,u40,u41,u42,u43,u44,u45,u46,u47,u48,u49,u50,u51,u52,u53,u54,u55,u56,u57,u58,u59,u60,u61,u62,u63,u64,u65,u66,u67,u68,u69,u70,u71,u72,u73,u74,u75,u76,u77,u78,u79,u80,u81],[]⟩ W:=by
 conv=>arg 2;whnf
 dsimp only;simp only[List.append_eq,List.cons_append,aJ];have HX:=Qa iF;have HC:=Qa hC;have HD:=Qa hD;have HSX:=Qa hS;have kI:(k:Int)<(n:Int):=by omega
 clear iF hC hD hS;refine qd8 (Vr ga gb k n yT yU s0 s1 s2 s3 s4 s5 pa qa pb qb na ma ca da cb db) 65 (by kernel_rfl) ?_
 have HS:=HSX.o W.drew (qf (qd W));refine yw (by kernel_rfl) mU [0,1,2,3,4,5,6,7,8,9,10,11,12,13,14,15,16,17,18,19,20,21,22,23,24,25,26,27,28,29,30,31,32,33,34,35,36,37,38,39,40,41,42,43,44,45,46,47] (by kernel_rfl) (by decide) HS ?_
 iterate 48 (refine Vj (v:=?_) rfl ?_ ?_;rotate_left;(· (refine Or.inl ⟨by rfl,?_⟩;rintro w' ⟨h0,h1,h2,h3,h4,h5,h6,h7,h8,h9,h10,h11,h12,h13,h14,h15⟩;go_simp;try with_reducible rfl));simp only[aD,aA,aB,Act.put,Aj,aa,af])
 refine Vk ?_;refine VU (i:=48) (by kernel_rfl) rfl fun K hK=>?_
 go_simp;refine (HC.o W.drew (qf (qd W))).mono ?_
 rintro e w5 ⟨rfl,hb5⟩
 have fU:=qe (qf (qd W)) hb5;refine hK.out _ _ (fun _=>HSX.o w5 fU) ?_
 clear hK K
 try simp only[Act.put,Aj,aa,af]
 refine yw (by kernel_rfl) mU [49,50,51,52,53,54,55,56,57,58,59,60,61] (by kernel_rfl) (by decide) (HSX.o w5 fU) ?_
 iterate 13 (refine Vj (v:=?_) rfl ?_ ?_;rotate_left;(· (refine Or.inl ⟨by rfl,?_⟩;rintro w' ⟨h0,h1,h2,h3,h4,h5,h6,h7,h8,h9,h10,h11,h12,h13,h14,h15⟩;go_simp;try with_reducible rfl));simp only[aD,aA,aB,Act.put,Aj,aa,af])
 refine Vk ?_;refine VU (i:=62) (by kernel_rfl) rfl fun K hK=>?_
 go_simp;refine (HD.o w5 fU).mono ?_
 rintro e w6 ⟨rfl,hb6⟩
 have hbB:=qe fU hb6;refine hK.out _ _ (fun _=>HSX.o w6 hbB) ?_
 clear hK K
 try simp only[Act.put,Aj,aa,af]
 refine yw (by kernel_rfl) mU [63,64] (by kernel_rfl) (by decide) (HSX.o w6 hbB) ?_
 iterate 2 (refine Vj (v:=?_) rfl ?_ ?_;rotate_left;(· (refine Or.inl ⟨by rfl,?_⟩;rintro w' ⟨h0,h1,h2,h3,h4,h5,h6,h7,h8,h9,h10,h11,h12,h13,h14,h15⟩;go_simp;try with_reducible rfl));simp only[aD,aA,aB,Act.put,Aj,aa,af])
 refine Vk ?_;refine qjm (by kernel_rfl) ?_
 exact HX.o w6 _ _ _ _ _ _ _ _ _ _ _ _ _ _ _ _ _ _ _ _ _ _ _ _ _ _ _ _ _ _ _ _ _ _ _ _ _ _ _ _ _ _ _ _ _ _ _ _ _ _ _ _ _ _ _ _ _ _ _ _ _ _ _ _ hbB
def V9:∀ (es:List (Nd×Ac×Ac))(k:Nat)(x:Nd×Ac×Ac),es[k]?=some x->∀ j,j<8->(yx es)[k*8+j]?=(Nv x)[j]?
 | [],k,x,h=>by simp at h
 | e::es,0,x,h=>fun j hj=>by
  simp only[List.getElem?_cons_zero,Zc]at h;subst h;show (Nv e++yx es)[0*8+j]?=_;rw[Qm (by show 0*8+j<8;omega),Nat.zero_mul,aG]
 | e::es,k+1,x,h=>fun j hj=>by
  show (Nv e++yx es)[(k+1)*8+j]?=_;rw[Ql (by show 8<=(k+1)*8+j;omega),show (k+1)*8+j-(Nv e).length=k*8+j from by show (k+1)*8+j-8=_;omega]
  exact V9 es k x (by simpa using h) j hj
def CB.at {W:Aa}{o:Own}{p:Option Addr}{c n:Nat}{l:List Nd}(h:CB W o (.slice p n c) l)(hn:n=l.length){k:Nat}{x:Nd}(hx:l[k]?=some x) :
  ∃ g pa ca qa da,p=some ⟨g,0,none⟩/\n<=c/\(∀ W',Ae W W W'->W'.cell? ⟨g,k*8,none⟩=some (I Z x.Bc)/\W'.cell? ⟨g,k*8+1,none⟩=some (I Z x.AL.p)/\W'.cell? ⟨g,k*8+2,none⟩=some (I Z x.AL.d)/\W'.cell? ⟨g,k*8+3,none⟩=some (.bool x.AL.AA)/\W'.cell? ⟨g,k*8+4,none⟩=some (.bool x.AL.final)/\W'.cell? ⟨g,k*8+5,none⟩=some (.bool x.B5)/\W'.cell? ⟨g,k*8+6,none⟩=some (.slice pa x.AB.length ca)/\W'.cell? ⟨g,k*8+7,none⟩=some (.slice qa x.nums.length da)) /\
   Row W o (51,0) 3 1 (.slice pa x.AB.length ca) x.AB.length (x.AB.map zv)/\Row W o (52,0) 3 1 (.slice qa x.nums.length da) x.nums.length (x.nums.map zv):=by
 obtain⟨es,he,hr,hi⟩:=h;obtain⟨e,hek,rfl⟩:∃ e,es[k]?=some e/\e.1=x:=by
  rw[<-he,Qj]at hx;obtain⟨e,h1,h2⟩:=Option.map_eq_some_iff.1 hx;exact⟨e,h1,h2⟩
 obtain⟨h1,h2⟩:=hi e (Qe hek);obtain⟨pa,ca,ea⟩:=h1.A6;obtain⟨qa,da,eb⟩:=h2.A6;have hl:k<l.length:=(Qc.1 hx).1;subst hn;obtain⟨x,v1,v2⟩:=e;simp only at h1 h2 ea eb;subst ea eb;rcases hr.Dc with ⟨_,h0⟩|⟨g,cap,e,hcap⟩
 ·have:=hr.len;rw[h0]at this;simp at this;omega
 ·injection e with e1 _ e3
  subst e1 e3;refine⟨g,pa,ca,qa,da,rfl,hcap,fun W' hW=>?_,h1,h2⟩;have hc:∀ j v,j<8->(Nv (x,aF pa x.AB.length ca,aF qa x.nums.length da))[j]?=some v->W'.cell? ⟨g,k*8+j,none⟩=some v:=fun j v hj hv=>by
   have:=(hr.below hW).own.cells (g:=g) rfl (k*8+j) v ((V9 es k _ hek j hj).trans hv);rwa [addr_add]at this
  exact⟨hc 0 _ (by omega) rfl,hc 1 _ (by omega) rfl,hc 2 _ (by omega) rfl,hc 3 _ (by omega) rfl,hc 4 _ (by omega) rfl,hc 5 _ (by omega) rfl,hc 6 _ (by omega) rfl,hc 7 _ (by omega) rfl⟩
def qmf {w:Aa}{o1 o2:Own}{va vb:Ac}{l:List Nd}(ha:CB w o1 va l)(hb:CB w o2 vb l)(hn:l.length<=1000000)(hp:∀ x ∈ l,x.AB.length<=1000000/\x.nums.length<=1000000) :
  Ab ANa 15 #[va,vb] w fun e w'=>e=O (.bool true)/\Ae w w w':=by
 obtain⟨_,_,hra,_⟩:=id ha;obtain⟨_,_,hrb,_⟩:=id hb;obtain⟨pa,ca,rfl⟩:=hra.A6;obtain⟨pb,cb,rfl⟩:=hrb.A6;have HA:=Qa ha;have HB:=Qa hb;obtain⟨n,hnn⟩:=Ja0 l.length;rw[<-hnn]at HA HB hn ⊢;have HN:=Qa hnn;have HL:=Qa (show n<=1099511627776 from by omega)
 have HP:=Qa hp;clear ha hb hnn hn hra hrb hp;go_in;go_wp2_with fail;go_loopw [5] (fun ix wr=>∃ k:Nat,ix=I Z k/\k<=n/\Ae w w wr) (fun ix _=>n-(intOf ix).toNat)
 case atStart=>exact⟨0,rfl,ag _,qd w⟩
 case round =>
  obtain⟨k,rfl,hkn,hb⟩:=hrel;by_cases hlt:k<n
  ·have eG:(k:Int)<(n:Int):=by omega
   have HW:=Qa (xo k n hlt HL.o);obtain⟨x,hx⟩:∃ x,l[k]?=some x:=⟨_,Qb (by rw[<-HN.o];exact hlt)⟩
   obtain⟨ga,pxa,cxa,qxa,dxa,rfl,hca,q,ra,sa⟩:=HA.o.at HN.o hx;obtain⟨gb,pxb,cxb,qxb,dxb,rfl,hcb,r,rb,sb⟩:=HB.o.at HN.o hx;obtain⟨hp1,hp2⟩:=HP.o x (Qe hx);have HS:=Qa (fun (X:Aa)(hX:Ae wr wr X)=>Ad (q X (qe hb hX)) (r X (qe hb hX)));have HC:=Qa (fun (X:Aa)(hX:Ae wr wr X)=>Wo (ra.below (qe hb hX)) (rb.below (qe hb hX)) (by omega))
   have HD:=Qa (fun (X:Aa)(hX:Ae wr wr X)=>Wo (sa.below (qe hb hX)) (sb.below (qe hb hX)) (by omega))
   clear hx q r ra rb sa sb hp1 hp2;go_upto_region 6 with fail;refine MS _ wr ga gb k n _ _ x.Bc x.AL.p x.AL.d x.AL.AA x.AL.final x.B5 pxa qxa pxb qxb x.AB.length x.nums.length cxa dxa cxb dxb hlt hca hcb (fun X hX=>?_) HC.o HD.o (fun c d x a w h=>by cases d<;>exact h) ?_
   ·obtain⟨⟨a0,a1,a2,a3,a4,a5,a6,a7⟩,b0,b1,b2,b3,b4,b5,b6,b7⟩:=HS.o X hX
    exact⟨a0,a1,a2,a3,a4,a5,a6,a7,b0,b1,b2,b3,b4,b5,b6,b7⟩
   ·intros
    rename_i X _ _ _ _ _ _ _ _ _ _ _ _ _ _ _ _ _ _ _ _ _ _ _ _ _ _ _ _ _ _ _ _ _ _ _ _ _ _ _ _ _ _ _ _ _ _ _ _ _ _ _ _ _ _ _ _ _ _ _ _ _ _ _ _ hX;obtain⟨hw1,hw2⟩:=HW.o;have hbX:=qe hb hX;go_wp2_with fail;go_roundw
    case rel=>exact⟨k+1,by simp,hlt,hbX⟩
    case measure=>clear hw1 hw2;simp[intOf];omega
  ·obtain rfl:k=n:=by omega
   go_wp2_with fail;go_ret;exact⟨rfl,hb⟩
