import Derived.Test.YteehgedabdchcaaGreatKar
set_option linter.all false
set_option maxRecDepth 1000000
set_option maxHeartbeats 0
open Go renaming World->Aa,Calls->Ab,Value->Ac
open Go.RowKit renaming Below->Ae
open Go.Value renaming int->I,pointer->Ah,slice->Ai,tuple->Ak,agg->Al
open Go.IntKind renaming i64->Z
open Go.Ending renaming returned->O
open And renaming intro->Ad
open List renaming length_drop->Aj,take_length->aa,take_add_one->af,setIfInBounds_toArray->ai,set_cons_zero->aj,append_assoc->ay,drop_left'->aA,drop_eq_getElem_cons->aB,set_cons_succ->aC,getElem?_drop->aD,take_left'->aF
open Nat renaming zero_le->ag,sub_self->aG,zero_add->aH
open Go.Proofs.Tryz
open Go.Proofs.Tryz renaming prog->AId
open Go.Obj renaming cells->AIe
namespace Go.Proofs.YteehgedabdchcaaGreat
section
open Go.RowKit Hp
attribute [local go_sem ↓] Go.wp_at_zero Go.wp_at_succ
structure TR where
 S:Am
 h:AD
 a:BA
def pg (R:BZ)(h:AD)(A:Nat):TR:=⟨R.S,h.DZ A R.v R.e,Gs (R.S.Bc R.v.toNat) R.e⟩
def kj (S:Am)(v e:Int)(h:AD):TR:=⟨S,h.ended e,kq v e⟩
def AD.at (h:AD)(A:Nat):Nat:=(h.r.get A).toNat
def Am.A4 (S:Am)(i:Nat)(h:AD)(d:AB):TR:=
 if d.k=1 then pg (S.alloc i ⟨d.i.toNat,d.n.toNat,false,false⟩) h d.A
 else if d.k=2 then pg (S.alloc i ⟨d.i.toNat,d.n.toNat,false,true⟩) h d.A
 else if d.k=3 then pg (S.AA i (h.at d.B)) h d.A
 else if d.k=4 then pg (S.get i (h.at d.B) d.i.toNat) h d.A
 else if d.k=9 then pg (S.load i (h.at d.B)) h d.A
 else if d.k=10 then pg (S.take i) h d.A
 else if d.k=5 then kj (S.put i (h.at d.A) d.i.toNat (h.at d.B)).S 0 (S.put i (h.at d.A) d.i.toNat (h.at d.B)).e h
 else if d.k=6 then kj (S.read i (h.at d.A) d.i.toNat).S (S.read i (h.at d.A) d.i.toNat).v (S.read i (h.at d.A) d.i.toNat).e h
 else if d.k=7 then kj (S.write i (h.at d.A) d.i.toNat d.n).S 0 (S.write i (h.at d.A) d.i.toNat d.n).e h
 else if d.k=8 then kj (S.free i (h.at d.A)).S 0 (S.free i (h.at d.A)).e h
 else if d.k=11 then kj S (if h.at d.A=h.at d.B then 1 else 0) 0 h
 else if d.k=12 then kj S 0 0 (h.put d.A (h.at d.B))
 else if d.k=13 then kj S 0 0 (h.put d.A 0)
 else ⟨S.abort i,{ h.back with b:=h.b+1 },⟨2,0,0⟩⟩
def Tr (S:Am)(i:Nat)(h:AD)(d:AB)(e:d.k=1):S.A4 i h d=pg (S.alloc i ⟨d.i.toNat,d.n.toNat,false,false⟩) h d.A:=by
 unfold Am.A4;rw[if_pos e]
def TB (S:Am)(i:Nat)(h:AD)(d:AB)(e:d.k=2):S.A4 i h d=pg (S.alloc i ⟨d.i.toNat,d.n.toNat,false,true⟩) h d.A:=by
 unfold Am.A4;rw[if_neg (show ¬d.k=1 by omega),if_pos e]
def TE (S:Am)(i:Nat)(h:AD)(d:AB)(e:d.k=3):S.A4 i h d=pg (S.AA i (h.at d.B)) h d.A:=by
 unfold Am.A4;rw[if_neg (show ¬d.k=1 by omega),if_neg (show ¬d.k=2 by omega),if_pos e]
def Tu (S:Am)(i:Nat)(h:AD)(d:AB)(e:d.k=4):S.A4 i h d=pg (S.get i (h.at d.B) d.i.toNat) h d.A:=by
 unfold Am.A4;rw[if_neg (show ¬d.k=1 by omega),if_neg (show ¬d.k=2 by omega),if_neg (show ¬d.k=3 by omega),if_pos e]
def T3 (S:Am)(i:Nat)(h:AD)(d:AB)(e:d.k=9):S.A4 i h d=pg (S.load i (h.at d.B)) h d.A:=by
 unfold Am.A4;rw[if_neg (show ¬d.k=1 by omega),if_neg (show ¬d.k=2 by omega),if_neg (show ¬d.k=3 by omega),if_neg (show ¬d.k=4 by omega),if_pos e]
def Ta (S:Am)(i:Nat)(h:AD)(d:AB)(e:d.k=10):S.A4 i h d=pg (S.take i) h d.A:=by
 unfold Am.A4;rw[if_neg (show ¬d.k=1 by omega),if_neg (show ¬d.k=2 by omega),if_neg (show ¬d.k=3 by omega),if_neg (show ¬d.k=4 by omega),if_neg (show ¬d.k=9 by omega),if_pos e]
def TH (S:Am)(i:Nat)(h:AD)(d:AB)(e:d.k=5):S.A4 i h d=kj (S.put i (h.at d.A) d.i.toNat (h.at d.B)).S 0 (S.put i (h.at d.A) d.i.toNat (h.at d.B)).e h:=by
 unfold Am.A4;rw[if_neg (show ¬d.k=1 by omega),if_neg (show ¬d.k=2 by omega),if_neg (show ¬d.k=3 by omega),if_neg (show ¬d.k=4 by omega),if_neg (show ¬d.k=9 by omega),if_neg (show ¬d.k=10 by omega),if_pos e]
def T4 (S:Am)(i:Nat)(h:AD)(d:AB)(e:d.k=6):S.A4 i h d=kj (S.read i (h.at d.A) d.i.toNat).S (S.read i (h.at d.A) d.i.toNat).v (S.read i (h.at d.A) d.i.toNat).e h:=by
 unfold Am.A4;rw[if_neg (show ¬d.k=1 by omega),if_neg (show ¬d.k=2 by omega),if_neg (show ¬d.k=3 by omega),if_neg (show ¬d.k=4 by omega),if_neg (show ¬d.k=9 by omega),if_neg (show ¬d.k=10 by omega),if_neg (show ¬d.k=5 by omega),if_pos e]
def Ts (S:Am)(i:Nat)(h:AD)(d:AB)(e:d.k=7):S.A4 i h d=kj (S.write i (h.at d.A) d.i.toNat d.n).S 0 (S.write i (h.at d.A) d.i.toNat d.n).e h:=by
 unfold Am.A4;rw[if_neg (show ¬d.k=1 by omega),if_neg (show ¬d.k=2 by omega),if_neg (show ¬d.k=3 by omega),if_neg (show ¬d.k=4 by omega),if_neg (show ¬d.k=9 by omega),if_neg (show ¬d.k=10 by omega),if_neg (show ¬d.k=5 by omega),if_neg (show ¬d.k=6 by omega),if_pos e]
def TQ (S:Am)(i:Nat)(h:AD)(d:AB)(e:d.k=8):S.A4 i h d=kj (S.free i (h.at d.A)).S 0 (S.free i (h.at d.A)).e h:=by
 unfold Am.A4;rw[if_neg (show ¬d.k=1 by omega),if_neg (show ¬d.k=2 by omega),if_neg (show ¬d.k=3 by omega),if_neg (show ¬d.k=4 by omega),if_neg (show ¬d.k=9 by omega),if_neg (show ¬d.k=10 by omega),if_neg (show ¬d.k=5 by omega),if_neg (show ¬d.k=6 by omega),if_neg (show ¬d.k=7 by omega),if_pos e]
def To (S:Am)(i:Nat)(h:AD)(d:AB)(e:d.k=11):S.A4 i h d=kj S (if h.at d.A=h.at d.B then 1 else 0) 0 h:=by
 unfold Am.A4;rw[if_neg (show ¬d.k=1 by omega),if_neg (show ¬d.k=2 by omega),if_neg (show ¬d.k=3 by omega),if_neg (show ¬d.k=4 by omega),if_neg (show ¬d.k=9 by omega),if_neg (show ¬d.k=10 by omega),if_neg (show ¬d.k=5 by omega),if_neg (show ¬d.k=6 by omega),if_neg (show ¬d.k=7 by omega),if_neg (show ¬d.k=8 by omega),if_pos e]
def Tj (S:Am)(i:Nat)(h:AD)(d:AB)(e:d.k=12):S.A4 i h d=kj S 0 0 (h.put d.A (h.at d.B)):=by
 unfold Am.A4;rw[if_neg (show ¬d.k=1 by omega),if_neg (show ¬d.k=2 by omega),if_neg (show ¬d.k=3 by omega),if_neg (show ¬d.k=4 by omega),if_neg (show ¬d.k=9 by omega),if_neg (show ¬d.k=10 by omega),if_neg (show ¬d.k=5 by omega),if_neg (show ¬d.k=6 by omega),if_neg (show ¬d.k=7 by omega),if_neg (show ¬d.k=8 by omega),if_neg (show ¬d.k=11 by omega),if_pos e]
def Td (S:Am)(i:Nat)(h:AD)(d:AB)(e:d.k=13):S.A4 i h d=kj S 0 0 (h.put d.A 0):=by
 unfold Am.A4;rw[if_neg (show ¬d.k=1 by omega),if_neg (show ¬d.k=2 by omega),if_neg (show ¬d.k=3 by omega),if_neg (show ¬d.k=4 by omega),if_neg (show ¬d.k=9 by omega),if_neg (show ¬d.k=10 by omega),if_neg (show ¬d.k=5 by omega),if_neg (show ¬d.k=6 by omega),if_neg (show ¬d.k=7 by omega),if_neg (show ¬d.k=8 by omega),if_neg (show ¬d.k=11 by omega),if_neg (show ¬d.k=12 by omega),if_pos e]
def Tn (S:Am)(i:Nat)(h:AD)(d:AB)(e:d.k=14):S.A4 i h d=⟨S.abort i,{ h.back with b:=h.b+1 },⟨2,0,0⟩⟩:=by
 unfold Am.A4;rw[if_neg (show ¬d.k=1 by omega),if_neg (show ¬d.k=2 by omega),if_neg (show ¬d.k=3 by omega),if_neg (show ¬d.k=4 by omega),if_neg (show ¬d.k=9 by omega),if_neg (show ¬d.k=10 by omega),if_neg (show ¬d.k=5 by omega),if_neg (show ¬d.k=6 by omega),if_neg (show ¬d.k=7 by omega),if_neg (show ¬d.k=8 by omega),if_neg (show ¬d.k=11 by omega),if_neg (show ¬d.k=12 by omega),if_neg (show ¬d.k=13 by omega)]
structure AB.ok (d:AB):Prop where
 k:1<=d.k/\d.k<=14
 A:d.A<6
 B:d.B<6
 i:0<=d.i
 n:-9223372036854775808<=d.n/\d.n<=9223372036854775807
 s:d.k=1\/d.k=2->d.i<=4/\0<=d.n/\d.n<=4
def P8 (S:Am)(r:R6):Prop:=∀ j,j<6->∃ p:Nat,r.get j=p/\EE S p
def Pq (R:BZ):Prop:=R.e=0->∃ p:Nat,R.v=p/\EE R.S p
def P8.at {S:Am}{h:AD}(hr:P8 S h.r){A:Nat}(hA:A<6):h.r.get A=(h.at A:Int)/\EE S (h.at A):=by
 obtain⟨p,h1,h2⟩:=hr A hA;unfold AD.at;rw[h1,Int.toNat_natCast];exact⟨rfl,h2⟩
def LD {r:BZ}(i:Nat)(h:∃ p:Nat,r.v=p):Pq (r.fin i):=by
 intro _;unfold BZ.fin;split
 ·exact⟨0,rfl,trivial⟩
 ·split
  ·obtain⟨p,h⟩:=h;exact⟨p,h,trivial⟩
  ·exact⟨0,rfl,trivial⟩
def dt (S:Am){r:BZ}(i:Nat)(h:∃ p:Nat,r.v=p):Pq (S.AF i r):=by
 unfold Am.AF;split
 ·exact LD i h
 ·exact fun _=>⟨0,rfl,trivial⟩
section
variable {w w' : Aa} {o o' : Own} {y : Bj} {S : Am} {i : Nat}
def Wg (i:Nat)(s:BR):Pq (S.alloc i s):=dt S i ⟨_,rfl⟩
def KN (i q:Nat):Pq (S.AA i q):=by
 refine dt S i ?_;unfold Am.BG;split
 ·exact⟨0,rfl⟩
 ·split
  ·exact⟨0,rfl⟩
  ·split
   ·exact⟨0,rfl⟩
   ·exact⟨_,rfl⟩
def LP (i p j:Nat):Pq (S.get i p j):=by
 refine dt S i ?_;unfold Am.CK;split
 ·exact⟨0,rfl⟩
 ·exact⟨_,rfl⟩
def Jr (i p:Nat):Pq (S.load i p):=by
 refine dt S i ?_;unfold Am.BW Am.Db;split
 ·exact⟨0,rfl⟩
 ·split
  ·exact⟨0,rfl⟩
  ·split
   ·exact⟨0,rfl⟩
   ·split
    ·exact⟨0,rfl⟩
    ·split
     ·exact⟨_,rfl⟩
     ·exact⟨0,rfl⟩
def Kw (i:Nat):Pq (S.take i):=by
 refine dt S i ?_;unfold Am.Bn;split
 ·exact⟨0,rfl⟩
 ·split
  ·exact⟨0,rfl⟩
  ·split
   ·exact⟨0,rfl⟩
   ·exact⟨_,rfl⟩
structure X0 (S:Am)(i:Nat)(h:AD):Prop where
 inv:Inv S
 DU:S.DU i=true
 lv:(S.t i).live=true
 rg:P8 S h.r
 n:0<=h.n/\h.n<=4096
 b:0<=h.b/\h.b<=4096
def qoq (hS:Av w o y S)(h:AD)(d:AB)(hd:d.ok)(hT:X0 S i h) :
  Ab AId 154 #[ptr y.sb,i,d.v,h.v] w fun e' w'=>e'=O (Ak #[(S.A4 i h d).h.v,(S.A4 i h d).a.val])/\Left y (S.A4 i h d).S o w w':=by
 have hA:=hd.A;have hB:=hd.B;obtain⟨ea,pa⟩:=hT.rg.at hA;obtain⟨eb,pb⟩:=hT.rg.at hB;obtain⟨hb,hn,⟨a0,a1,a2,a3,a4,a5⟩,⟨s0,s1,s2,s3,s4,s5⟩,hl⟩:=h;obtain⟨k,A,B,fi,fn⟩:=d;have hn0:=hT.n;have hb0:=hT.b;have hk:=hd.k;have hi:=hd.i;have hfn:=hd.n;have hs:=hd.s;simp only at hA hB ea eb pa pb hn0 hb0 hk hi hfn hs;have hlt:=zt hT.DU;obtain rfl|rfl|rfl|rfl|rfl|rfl|rfl|rfl|rfl|rfl|rfl|rfl|rfl|rfl:k=1\/k=2\/k=3\/k=4\/k=5\/k=6\/k=7\/k=8\/k=9\/k=10\/k=11\/k=12\/k=13\/k=14:=by omega
 ·rw[Tr _ _ _ _ rfl]
  exact yy hS hT.inv hb hn a0 a1 a2 a3 a4 a5 s0 s1 s2 s3 s4 s5 hl A B fi fn _ _ 1 _ ⟨hT.DU,.inl ⟨rfl,rfl,⟨hi,(hs (.inl rfl)).1⟩,(hs (.inl rfl)).2⟩⟩ (Wg i _) hA hB ea eb hn0 hb0
 ·rw[TB _ _ _ _ rfl]
  exact yy hS hT.inv hb hn a0 a1 a2 a3 a4 a5 s0 s1 s2 s3 s4 s5 hl A B fi fn _ _ 2 _ ⟨hT.DU,.inr (.inl ⟨rfl,rfl,⟨hi,(hs (.inr rfl)).1⟩,(hs (.inr rfl)).2⟩)⟩ (Wg i _) hA hB ea eb hn0 hb0
 ·rw[TE _ _ _ _ rfl]
  exact yy hS hT.inv hb hn a0 a1 a2 a3 a4 a5 s0 s1 s2 s3 s4 s5 hl A B fi fn _ _ 3 _ ⟨hT.DU,.inr (.inr (.inl ⟨rfl,rfl,pb⟩))⟩ (KN i _) hA hB ea eb hn0 hb0
 ·rw[Tu _ _ _ _ rfl]
  exact yy hS hT.inv hb hn a0 a1 a2 a3 a4 a5 s0 s1 s2 s3 s4 s5 hl A B fi fn _ _ 4 _ ⟨hT.DU,.inr (.inr (.inr (.inl ⟨rfl,rfl,pb,hi⟩)))⟩ (LP i _ _) hA hB ea eb hn0 hb0
 ·rw[TH _ _ _ _ rfl]
  exact my hS hT.inv hb hn a0 a1 a2 a3 a4 a5 s0 s1 s2 s3 s4 s5 hl A B fi fn _ _ 1 5 0 _ ⟨hT.DU,pa,.inr (.inl ⟨rfl,rfl,rfl,rfl,pb,hi⟩)⟩ hA hB ea eb hn0 hb0
 ·rw[T4 _ _ _ _ rfl]
  exact my hS hT.inv hb hn a0 a1 a2 a3 a4 a5 s0 s1 s2 s3 s4 s5 hl A B fi fn _ _ 2 6 _ _ ⟨hT.DU,pa,.inr (.inr (.inl ⟨rfl,rfl,rfl,rfl,hi⟩))⟩ hA hB ea eb hn0 hb0
 ·rw[Ts _ _ _ _ rfl]
  exact my hS hT.inv hb hn a0 a1 a2 a3 a4 a5 s0 s1 s2 s3 s4 s5 hl A B fi fn _ _ 3 7 0 _ ⟨hT.DU,pa,.inr (.inr (.inr ⟨rfl,rfl,rfl,rfl,hi,hfn⟩))⟩ hA hB ea eb hn0 hb0
 ·rw[TQ _ _ _ _ rfl]
  exact my hS hT.inv hb hn a0 a1 a2 a3 a4 a5 s0 s1 s2 s3 s4 s5 hl A B fi fn _ _ 0 8 0 _ ⟨hT.DU,pa,.inl ⟨rfl,rfl,rfl,rfl⟩⟩ hA hB ea eb hn0 hb0
 ·rw[T3 _ _ _ _ rfl]
  exact yy hS hT.inv hb hn a0 a1 a2 a3 a4 a5 s0 s1 s2 s3 s4 s5 hl A B fi fn _ _ 9 _ ⟨hT.DU,.inr (.inr (.inr (.inr (.inl ⟨rfl,rfl,pb⟩))))⟩ (Jr i _) hA hB ea eb hn0 hb0
 ·rw[Ta _ _ _ _ rfl]
  exact yy hS hT.inv hb hn a0 a1 a2 a3 a4 a5 s0 s1 s2 s3 s4 s5 hl A B fi fn _ _ 10 _ ⟨hT.DU,.inr (.inr (.inr (.inr (.inr ⟨rfl,rfl⟩))))⟩ (Kw i) hA hB ea eb hn0 hb0
 ·rw[To _ _ _ _ rfl]
  by_cases hab:(AD.at ⟨hb,hn,⟨a0,a1,a2,a3,a4,a5⟩,⟨s0,s1,s2,s3,s4,s5⟩,hl⟩ A)=(AD.at ⟨hb,hn,⟨a0,a1,a2,a3,a4,a5⟩,⟨s0,s1,s2,s3,s4,s5⟩,hl⟩ B)
  ·rw[if_pos hab]
   exact VA hS hT.inv hb hn a0 a1 a2 a3 a4 a5 s0 s1 s2 s3 s4 s5 hl A B fi fn _ _ 1 (.inl ⟨hab,rfl⟩) hA hB ea eb hn0 hb0
  ·rw[if_neg hab]
   exact VA hS hT.inv hb hn a0 a1 a2 a3 a4 a5 s0 s1 s2 s3 s4 s5 hl A B fi fn _ _ 0 (.inr ⟨hab,rfl⟩) hA hB ea eb hn0 hb0
 ·rw[Tj _ _ _ _ rfl]
  exact qku hS hT.inv hb hn a0 a1 a2 a3 a4 a5 s0 s1 s2 s3 s4 s5 hl A B fi fn _ _ hA hB ea eb hn0 hb0
 ·rw[Td _ _ _ _ rfl]
  exact qog hS hT.inv hb hn a0 a1 a2 a3 a4 a5 s0 s1 s2 s3 s4 s5 hl A B fi fn _ _ hA hB ea eb hn0 hb0
 ·rw[Tn _ _ _ _ rfl]
  exact YL hS hT.inv hb hn a0 a1 a2 a3 a4 a5 s0 s1 s2 s3 s4 s5 hl A B fi fn _ _ hlt hT.lv hA hB ea eb hb0
end
section
variable {w w' : Aa} {o o' : Own} {y : Bj} {S : Am} {i : Nat}
def GX {S:Am} {i:Nat} (hi:i<S.Au.length) (he:(S.AR i).2=0):((S.AR i).1.t i).live=true/\((S.AR i).1.t i).start=S.now:=by
 unfold Am.AR at he ⊢;split at he
 ·simp at he
 ·rename_i h1
  rw[if_neg h1];split at he
  ·rename_i h2
   rw[if_pos h2];have:((S.tx i ((S.t i).begun S.now S.next)).t i)=(S.t i).begun S.now S.next:=by
    have h3:(S.tx i ((S.t i).begun S.now S.next)).Au[i]?=some ((S.t i).begun S.now S.next):=by simp[Am.tx,hi]
    have h4:=Am.AV (S:=S.tx i ((S.t i).begun S.now S.next)) (i:=i) (by simpa [Am.tx] using hi)
    rw[h3]at h4;injection h4 with h4;exact h4.symm
   show ((S.tx i ((S.t i).begun S.now S.next)).t i).live=true/\((S.tx i ((S.t i).begun S.now S.next)).t i).start=S.now;rw[this];exact⟨rfl,rfl⟩
  ·simp at he
def qpk (hS:Av w o y S) (hI:Inv S) (hb hn a0 a1 a2 a3 a4 a5 s0 s1 s2 s3 s4 s5:Int) (hl:Bool) (nb:Int) (hi:i<S.Au.length) (he:(S.AR i).2=0) :
  Ab AId 152 #[ptr y.sb,i,nb,Al #[hb,hn,a0,a1,a2,a3,a4,a5,s0,s1,s2,s3,s4,s5,.bool hl]] w fun e' w'=>e'=O (Ak #[AD.v ⟨hb,0,⟨a0,a1,a2,a3,a4,a5⟩,⟨a0,a1,a2,a3,a4,a5⟩,true⟩,BA.val ⟨1,0,S.now⟩])/\Left y (S.AR i).1 o w w':=by
 obtain⟨o1,ho1⟩:∃ o1,o1=ext o w.1.size (y.l.id+1,0):=⟨_,rfl⟩;have h1:=hS.retag (o':=o1) fun b hb=>by rw[ho1];exact qj hb
 have hS0:Stp (qh y) o o1 w w:=by rw[ho1];exact (Stp.refl _ o w).ext _ _ (Qk _)
 have hbx:∀ b,w.1.size<=b->Ds y (o1 b):=fun b hb=>by rw[ho1];exact qp hb
 clear ho1 hS;obtain⟨W,hW⟩:=Ja0 ((((w.alloc (AIe #[hb,hn,a0,a1,a2,a3,a4,a5,s0,s1,s2,s3,s4,s5,.bool hl] 58)).alloc (AIe #[I Z 0,I Z 0,I Z 0,I Z 0,I Z 0,I Z 0,I Z 0,I Z 0,I Z 0,I Z 0,I Z 0,I Z 0,I Z 0,I Z 0,.bool false] 58)).alloc (AIe #[I Z 0,I Z 0,I Z 0] 54)));have hbW:Ae w.1.size w W:=by rw[hW];exact qa (qa (qa (qc w) _) _) _
 have k7:An W w.1.size #[hb,hn,a0,a1,a2,a3,a4,a5,s0,s1,s2,s3,s4,s5,.bool hl] 58:=by rw[hW];exact ((An.new w _ _).alloc _).alloc _
 have k8:An W (w.1.size+1) #[I Z 0,I Z 0,I Z 0,I Z 0,I Z 0,I Z 0,I Z 0,I Z 0,I Z 0,I Z 0,I Z 0,I Z 0,I Z 0,I Z 0,.bool false] 58:=by rw[hW];exact (An.Ax _ _ _ _ _ (by simp) rfl).alloc _
 have k9:An W (w.1.size+1+1) #[I Z 0,I Z 0,I Z 0] 54:=by rw[hW];exact An.Ax _ _ _ _ _ (by simp) rfl
 have hSW:=h1.below hbW;have cK:Stp (qh y) o o1 w W:=hS0.trans (Stp.of_below hbW);have HC:=Qa (fun X o2 (h2:Av X o2 y S)=>by have:=Xv h2 hI hi;rw[he]at this;exact this)
 have hst:(((S.AR i).1).t i).live=true/\(((S.AR i).1).t i).start=S.now:=GX hi he;have HL:=Qa (fun X o2 (h2:Av X o2 y (S.AR i).1) (h3:Inv (S.AR i).1)=>by have:=Ny h2 h3 (i:=i) (by rw[qmo];exact hi);rw[hst.1,hst.2]at this;simp only[if_true]at this;exact this)
 have HB:=Qa hbx;generalize (S.AR i).1=SB at *;generalize S.now=nw at *;clear hI hi he hst h1 hS0 hbx;go_in;go_wp2_with fail;rw[<-hW];clear hW;refine (HC.o _ _ hSW).mono ?_
 rintro e2 w2 ⟨rfl,o2,hS2,hI2,hs2⟩
 have nt:∀ b,w.1.size<=b->¬qh y (o1 b):=fun b q1=>uz (HB.o b q1)
 have tg:∀ b,w.1.size<=b->b<W.1.size->Ds y (o2 b):=fun b q1 q2=>by have:=HB.o b q1;rw[<-hs2.tags b q2]at this;exact this
 have t7:=tg w.1.size (by omega) k7.lt
 have t8:=tg (w.1.size+1) (by omega) k8.lt
 have t9:=tg (w.1.size+1+1) (by omega) k9.lt
 replace k7:=k7.Ar hs2 (nt _ (by omega))
 replace k8:=k8.Ar hs2 (nt _ (by omega))
 replace k9:=k9.Ar hs2 (nt _ (by omega))
 have hs3:=cK.trans hs2;have HI2:=Qa hI2;obtain⟨w3,hw3⟩:=Ja0 (w2.alloc (AIe #[I Z 1,I Z 0,I Z 0] 54));have kA:An w3 w2.1.size #[I Z 1,I Z 0,I Z 0] 54:=by rw[hw3];exact An.new _ _ _
 have hb3:Ae w2.1.size w2 w3:=by rw[hw3];exact qa (qc _) _
 have l7:=k7.lt;have l8:=k8.lt;have l9:=k9.lt;replace k7:=k7.below hb3 k7.lt;replace k8:=k8.below hb3 k8.lt;replace k9:=k9.below hb3 k9.lt;have dC:=hS2.below hb3;have HSA:=Qa (show Av (w3.setCell ⟨w2.1.size,2,none⟩ nw) o2 y SB from hS2.below (qm (by rw[hw3];exact qa (qc _) _) (Qk _) _))
 replace hs3:=hs3.trans (Stp.of_below hb3);have hsz:w.1.size<=w2.1.size:=by omega
 clear hs2 hSW cK HC tg nt hS2 hbW hb3;go_wp2_with fail;rw[<-hw3];clear hw3;refine (HL.o _ _ dC hI2).mono ?_
 rintro e4 w4 ⟨rfl,rfl⟩
 have c7:=k7.cell;have z7:=k7.free;have l7':=k7.lt;have cA:=kA.cell;have zA:=kA.free;have lA:=kA.lt;have ne7:w.1.size≠w2.1.size:=by omega
 have fH:w2.1.size≠w.1.size:=by omega
 go_upto_region 9 with fail;clear c7 z7 l7' cA zA lA;obtain⟨bA,iY⟩:=Ja0 w2.1.size;rw[<-iY]at HSA kA ne7 fH hsz l7 l8 l9 ⊢;clear iY;obtain⟨V,hV⟩:=Ja0 ((((((((((w3.setCell ⟨bA,2,none⟩ nw).setCell ⟨w.1.size,14,none⟩ (.bool true)).setCell ⟨w.1.size,1,none⟩ (I Z 0)).setCell ⟨w.1.size,8,none⟩ a0).setCell ⟨w.1.size,9,none⟩ a1).setCell ⟨w.1.size,10,none⟩ a2).setCell ⟨w.1.size,11,none⟩ a3).setCell ⟨w.1.size,12,none⟩ a4).setCell ⟨w.1.size,13,none⟩ a5));rw[<-hV];have i7:An V w.1.size #[hb,I Z 0,a0,a1,a2,a3,a4,a5,a0,a1,a2,a3,a4,a5,.bool true] 58:=by
  rw[hV];have k:=(((((((((k7.Ao (a:=⟨bA,2,none⟩) ne7 (I Z nw)).set 14 (.bool true)).set 1 (I Z 0)).set 8 a0).set 9 a1).set 10 a2).set 11 a3).set 12 a4).set 13 a5);simp only[ai,aj,aC]at k;exact k
 have iA:An V bA #[I Z 1,I Z 0,nw] 54:=by rw[hV];exact (((((((((kA.set 2 (I Z nw)).Ao (a:=⟨w.1.size,14,none⟩) fH (.bool true)).Ao (a:=⟨w.1.size,1,none⟩) fH (I Z 0)).Ao (a:=⟨w.1.size,8,none⟩) fH (I Z a0)).Ao (a:=⟨w.1.size,9,none⟩) fH (I Z a1)).Ao (a:=⟨w.1.size,10,none⟩) fH (I Z a2)).Ao (a:=⟨w.1.size,11,none⟩) fH (I Z a3)).Ao (a:=⟨w.1.size,12,none⟩) fH (I Z a4)).Ao (a:=⟨w.1.size,13,none⟩) fH (I Z a5))
 have hw1:Wr bA w3 (w3.setCell ⟨bA,2,none⟩ nw):=Wr.set _ _ _ _;have hw2:Wr w.1.size (w3.setCell ⟨bA,2,none⟩ nw) V:=by rw[hV];exact (((((((((Wr.refl _ _).trans (Wr.set _ _ 14 _)).trans (Wr.set _ _ 1 _)).trans (Wr.set _ _ 8 _)).trans (Wr.set _ _ 9 _)).trans (Wr.set _ _ 10 _)).trans (Wr.set _ _ 11 _)).trans (Wr.set _ _ 12 _)).trans (Wr.set _ _ 13 _))
 have i8:=(k8.wr hw1 (by omega)).wr hw2 (by omega)
 have i9:=(k9.wr hw1 (by omega)).wr hw2 (by omega)
 have hs5:=(hs3.Di hw1 hsz).Di hw2 (by omega)
 have dX:Av (w3.setCell ⟨bA,2,none⟩ nw) o2 y SB:=HSA.o;have hS5:=dX.bx (Stp.Cg hw2 t7);have nA8:bA≠w.1.size+1:=by omega
 have nA9:bA≠w.1.size+1+1:=by omega
 clear hV hw1 hw2 k7 k8 k9 kA dC hs3 dX l7 l8 l9;have c7:=i7.cell;have cA:=iA.cell;have c8:=i8.cell;have z8:=i8.free;have l8:=i8.lt;have c9:=i9.cell;have z9:=i9.free;have l9:=i9.lt;have hres:=Qa (zz i8 i9 (by omega) ⟨hb,0,⟨a0,a1,a2,a3,a4,a5⟩,⟨a0,a1,a2,a3,a4,a5⟩,true⟩ ⟨1,0,nw⟩)
 have hrs:=Qa (wg hs5 (b6:=(w.1.size+1)) (b7:=(w.1.size+1+1)) (by omega) (by omega) ⟨hb,0,⟨a0,a1,a2,a3,a4,a5⟩,⟨a0,a1,a2,a3,a4,a5⟩,true⟩ ⟨1,0,nw⟩)
 have fG:=Qa (hS5.bx (ya V (w.1.size+1) (w.1.size+1+1) (o:=o2) t8 t9 ⟨hb,0,⟨a0,a1,a2,a3,a4,a5⟩,⟨a0,a1,a2,a3,a4,a5⟩,true⟩ ⟨1,0,nw⟩));clear i7 iA i8 i9 hS5 hs5;go_region
 all_goals
  go_wp2_with fail;change bodyPost _ _ _ _ _ (jj V (w.1.size+1) (w.1.size+1+1) ⟨hb,0,⟨a0,a1,a2,a3,a4,a5⟩,⟨a0,a1,a2,a3,a4,a5⟩,true⟩ ⟨1,0,nw⟩).drew;generalize jj V (w.1.size+1) (w.1.size+1+1) ⟨hb,0,⟨a0,a1,a2,a3,a4,a5⟩,⟨a0,a1,a2,a3,a4,a5⟩,true⟩ ⟨1,0,nw⟩=X at *;exact bodyPost_ret (qq _ _ 8 9 rfl rfl rfl (qi hres.o.1) (qi hres.o.2)) rfl ⟨rfl,o2,fG.o.below (qe (qc _)),HI2.o,hrs.o.drew⟩
def qpe (hS:Av w o y S) (hI:Inv S) (hb hn a0 a1 a2 a3 a4 a5 s0 s1 s2 s3 s4 s5:Int) (hl:Bool) (nb:Int) (hi:i<S.Au.length) (he:(S.AR i).2≠0) :
  Ab AId 152 #[ptr y.sb,i,nb,Al #[hb,hn,a0,a1,a2,a3,a4,a5,s0,s1,s2,s3,s4,s5,.bool hl]] w fun e' w'=>e'=O (Ak #[AD.v ⟨nb,hn,⟨a0,a1,a2,a3,a4,a5⟩,⟨s0,s1,s2,s3,s4,s5⟩,hl⟩,BA.val ⟨1,(S.AR i).2,0⟩])/\Left y (S.AR i).1 o w w':=by
 obtain⟨o1,ho1⟩:∃ o1,o1=ext o w.1.size (y.l.id+1,0):=⟨_,rfl⟩;have h1:=hS.retag (o':=o1) fun b hb=>by rw[ho1];exact qj hb
 have hS0:Stp (qh y) o o1 w w:=by rw[ho1];exact (Stp.refl _ o w).ext _ _ (Qk _)
 have hbx:∀ b,w.1.size<=b->Ds y (o1 b):=fun b hb=>by rw[ho1];exact qp hb
 clear ho1 hS;obtain⟨W,hW⟩:=Ja0 ((((w.alloc (AIe #[hb,hn,a0,a1,a2,a3,a4,a5,s0,s1,s2,s3,s4,s5,.bool hl] 58)).alloc (AIe #[I Z 0,I Z 0,I Z 0,I Z 0,I Z 0,I Z 0,I Z 0,I Z 0,I Z 0,I Z 0,I Z 0,I Z 0,I Z 0,I Z 0,.bool false] 58)).alloc (AIe #[I Z 0,I Z 0,I Z 0] 54)));have hbW:Ae w.1.size w W:=by rw[hW];exact qa (qa (qa (qc w) _) _) _
 have k7:An W w.1.size #[hb,hn,a0,a1,a2,a3,a4,a5,s0,s1,s2,s3,s4,s5,.bool hl] 58:=by rw[hW];exact ((An.new w _ _).alloc _).alloc _
 have k8:An W (w.1.size+1) #[I Z 0,I Z 0,I Z 0,I Z 0,I Z 0,I Z 0,I Z 0,I Z 0,I Z 0,I Z 0,I Z 0,I Z 0,I Z 0,I Z 0,.bool false] 58:=by rw[hW];exact (An.Ax _ _ _ _ _ (by simp) rfl).alloc _
 have k9:An W (w.1.size+1+1) #[I Z 0,I Z 0,I Z 0] 54:=by rw[hW];exact An.Ax _ _ _ _ _ (by simp) rfl
 have hSW:=h1.below hbW;have cK:Stp (qh y) o o1 w W:=hS0.trans (Stp.of_below hbW);have HC:=Qa (fun X o2 (h2:Av X o2 y S)=>Xv h2 hI hi)
 have HB:=Qa hbx;generalize (S.AR i).1=SB at *;generalize (S.AR i).2=ee at *;clear hI hi h1 hS0 hbx;have heb:(ee != 0)=true:=by rw[bne_iff_ne];exact he
 go_in;go_wp2_with fail;rw[<-hW];clear hW;refine (HC.o _ _ hSW).mono ?_
 rintro e2 w2 ⟨rfl,o2,hS2,hI2,hs2⟩
 have nt:∀ b,w.1.size<=b->¬qh y (o1 b):=fun b q1=>uz (HB.o b q1)
 have tg:∀ b,w.1.size<=b->b<W.1.size->Ds y (o2 b):=fun b q1 q2=>by have:=HB.o b q1;rw[<-hs2.tags b q2]at this;exact this
 have t7:=tg w.1.size (by omega) k7.lt
 have t8:=tg (w.1.size+1) (by omega) k8.lt
 have t9:=tg (w.1.size+1+1) (by omega) k9.lt
 replace k7:=k7.Ar hs2 (nt _ (by omega))
 replace k8:=k8.Ar hs2 (nt _ (by omega))
 replace k9:=k9.Ar hs2 (nt _ (by omega))
 have hs3:=cK.trans hs2;have HI2:=Qa hI2;obtain⟨w3,hw3⟩:=Ja0 (w2.alloc (AIe #[I Z 1,ee,I Z 0] 54));have kA:An w3 w2.1.size #[I Z 1,ee,I Z 0] 54:=by rw[hw3];exact An.new _ _ _
 have hb3:Ae w2.1.size w2 w3:=by rw[hw3];exact qa (qc _) _
 have l7:=k7.lt;have l8:=k8.lt;have l9:=k9.lt;replace k7:=k7.below hb3 k7.lt;replace k8:=k8.below hb3 k8.lt;replace k9:=k9.below hb3 k9.lt;have dC:=hS2.below hb3;replace hs3:=hs3.trans (Stp.of_below hb3);have hsz:w.1.size<=w2.1.size:=by omega
 clear hs2 hSW cK HC tg nt hS2 hbW hb3;go_upto_region 2 with fail;rw[<-hw3];clear hw3;have c7:=k7.cell;have z7:=k7.free;have l7':=k7.lt;have cA:=kA.cell;have ne7:w.1.size≠w2.1.size:=by omega
 have fH:w2.1.size≠w.1.size:=by omega
 go_upto_region 4 with fail;clear c7 z7 l7' cA;obtain⟨bA,iY⟩:=Ja0 w2.1.size;rw[<-iY]at kA ne7 fH hsz l7 l8 l9 ⊢;clear iY;obtain⟨V,hV⟩:=Ja0 (w3.setCell ⟨w.1.size,0,none⟩ nb);rw[<-hV];have i7:An V w.1.size #[nb,hn,a0,a1,a2,a3,a4,a5,s0,s1,s2,s3,s4,s5,.bool hl] 58:=by
  rw[hV];have k:=k7.set 0 (I Z nb);simp only[ai,aj]at k;exact k
 have iA:An V bA #[I Z 1,ee,I Z 0] 54:=by rw[hV];exact kA.Ao (a:=⟨w.1.size,0,none⟩) fH (I Z nb)
 have hw2:Wr w.1.size w3 V:=by rw[hV];exact Wr.set _ _ 0 _
 have i8:=k8.wr hw2 (by omega)
 have i9:=k9.wr hw2 (by omega)
 have hs5:=hs3.Di hw2 (by omega)
 have hS5:=dC.bx (Stp.Cg hw2 t7);have nA8:bA≠w.1.size+1:=by omega
 have nA9:bA≠w.1.size+1+1:=by omega
 clear hV hw2 k7 k8 k9 kA dC hs3 l7 l8 l9;have c7:=i7.cell;have cA:=iA.cell;have c8:=i8.cell;have z8:=i8.free;have l8:=i8.lt;have c9:=i9.cell;have z9:=i9.free;have l9:=i9.lt;have hres:=Qa (zz i8 i9 (by omega) ⟨nb,hn,⟨a0,a1,a2,a3,a4,a5⟩,⟨s0,s1,s2,s3,s4,s5⟩,hl⟩ ⟨1,ee,0⟩)
 have hrs:=Qa (wg hs5 (b6:=(w.1.size+1)) (b7:=(w.1.size+1+1)) (by omega) (by omega) ⟨nb,hn,⟨a0,a1,a2,a3,a4,a5⟩,⟨s0,s1,s2,s3,s4,s5⟩,hl⟩ ⟨1,ee,0⟩)
 have fG:=Qa (hS5.bx (ya V (w.1.size+1) (w.1.size+1+1) (o:=o2) t8 t9 ⟨nb,hn,⟨a0,a1,a2,a3,a4,a5⟩,⟨s0,s1,s2,s3,s4,s5⟩,hl⟩ ⟨1,ee,0⟩));clear i7 iA i8 i9 hS5 hs5;go_region
 all_goals
  go_wp2_with fail;change bodyPost _ _ _ _ _ (jj V (w.1.size+1) (w.1.size+1+1) ⟨nb,hn,⟨a0,a1,a2,a3,a4,a5⟩,⟨s0,s1,s2,s3,s4,s5⟩,hl⟩ ⟨1,ee,0⟩).drew;generalize jj V (w.1.size+1) (w.1.size+1+1) ⟨nb,hn,⟨a0,a1,a2,a3,a4,a5⟩,⟨s0,s1,s2,s3,s4,s5⟩,hl⟩ ⟨1,ee,0⟩=X at *;exact bodyPost_ret (qq _ _ 8 9 rfl rfl rfl (qi hres.o.1) (qi hres.o.2)) rfl ⟨rfl,o2,fG.o.below (qe (qc _)),HI2.o,hrs.o.drew⟩
def qkj (hS:Av w o y S) (hI:Inv S) (hb hn a0 a1 a2 a3 a4 a5 s0 s1 s2 s3 s4 s5:Int) (hl:Bool) (hc:S.DU i=true) (he:(S.Bp i).e=0) (hb0:0<=hb/\hb<=4096) :
  Ab AId 153 #[ptr y.sb,i,Al #[hb,hn,a0,a1,a2,a3,a4,a5,s0,s1,s2,s3,s4,s5,.bool hl]] w fun e' w'=>e'=O (Ak #[AD.v ⟨(hb+1),0,⟨a0,a1,a2,a3,a4,a5⟩,⟨a0,a1,a2,a3,a4,a5⟩,false⟩,BA.val ⟨3,0,(S.Bp i).v⟩])/\Left y (S.Bp i).S o w w':=by
 obtain⟨o1,ho1⟩:∃ o1,o1=ext o w.1.size (y.l.id+1,0):=⟨_,rfl⟩;have h1:=hS.retag (o':=o1) fun b hb=>by rw[ho1];exact qj hb
 have hS0:Stp (qh y) o o1 w w:=by rw[ho1];exact (Stp.refl _ o w).ext _ _ (Qk _)
 have hbx:∀ b,w.1.size<=b->Ds y (o1 b):=fun b hb=>by rw[ho1];exact qp hb
 clear ho1 hS;obtain⟨W,hW⟩:=Ja0 ((((w.alloc (AIe #[hb,hn,a0,a1,a2,a3,a4,a5,s0,s1,s2,s3,s4,s5,.bool hl] 58)).alloc (AIe #[I Z 0,I Z 0,I Z 0,I Z 0,I Z 0,I Z 0,I Z 0,I Z 0,I Z 0,I Z 0,I Z 0,I Z 0,I Z 0,I Z 0,.bool false] 58)).alloc (AIe #[I Z 0,I Z 0,I Z 0] 54)));have hbW:Ae w.1.size w W:=by rw[hW];exact qa (qa (qa (qc w) _) _) _
 have k7:An W w.1.size #[hb,hn,a0,a1,a2,a3,a4,a5,s0,s1,s2,s3,s4,s5,.bool hl] 58:=by rw[hW];exact ((An.new w _ _).alloc _).alloc _
 have k8:An W (w.1.size+1) #[I Z 0,I Z 0,I Z 0,I Z 0,I Z 0,I Z 0,I Z 0,I Z 0,I Z 0,I Z 0,I Z 0,I Z 0,I Z 0,I Z 0,.bool false] 58:=by rw[hW];exact (An.Ax _ _ _ _ _ (by simp) rfl).alloc _
 have k9:An W (w.1.size+1+1) #[I Z 0,I Z 0,I Z 0] 54:=by rw[hW];exact An.Ax _ _ _ _ _ (by simp) rfl
 have hSW:=h1.below hbW;have cK:Stp (qh y) o o1 w W:=hS0.trans (Stp.of_below hbW);have HC:=Qa (fun X o2 (h2:Av X o2 y S)=>WV h2 hI hc)
 have HB:=Qa hbx;obtain⟨b1,b2⟩:=hb0;generalize S.Bp i=R at *;clear hI hc h1 hS0 hbx;rw[he]at HC;go_in;go_wp2_with fail;rw[<-hW];clear hW;refine (HC.o _ _ hSW).mono ?_
 rintro e2 w2 ⟨rfl,o2,hS2,hI2,hs2⟩
 have nt:∀ b,w.1.size<=b->¬qh y (o1 b):=fun b q1=>uz (HB.o b q1)
 have tg:∀ b,w.1.size<=b->b<W.1.size->Ds y (o2 b):=fun b q1 q2=>by have:=HB.o b q1;rw[<-hs2.tags b q2]at this;exact this
 have t7:=tg w.1.size (by omega) k7.lt
 have t8:=tg (w.1.size+1) (by omega) k8.lt
 have t9:=tg (w.1.size+1+1) (by omega) k9.lt
 replace k7:=k7.Ar hs2 (nt _ (by omega))
 replace k8:=k8.Ar hs2 (nt _ (by omega))
 replace k9:=k9.Ar hs2 (nt _ (by omega))
 have hs3:=cK.trans hs2;have HI2:=Qa hI2;clear hs2 hSW cK HC tg nt hbW hI2;have c7:=k7.cell;have z7:=k7.free;have l7:=k7.lt;go_upto_region 8 with fail;obtain⟨V,hV⟩:=Ja0 ((((((((((w2.setCell ⟨w.1.size,14,none⟩ (.bool false)).setCell ⟨w.1.size,1,none⟩ (I Z 0)).setCell ⟨w.1.size,0,none⟩ (I Z (hb+1))).setCell ⟨w.1.size,8,none⟩ a0).setCell ⟨w.1.size,9,none⟩ a1).setCell ⟨w.1.size,10,none⟩ a2).setCell ⟨w.1.size,11,none⟩ a3).setCell ⟨w.1.size,12,none⟩ a4).setCell ⟨w.1.size,13,none⟩ a5));rw[<-hV];have i7:An V w.1.size #[I Z (hb+1),I Z 0,a0,a1,a2,a3,a4,a5,a0,a1,a2,a3,a4,a5,.bool false] 58:=by
  rw[hV];have k:=(((((((((k7.set 14 (.bool false)).set 1 (I Z 0)).set 0 (I Z (hb+1))).set 8 a0).set 9 a1).set 10 a2).set 11 a3).set 12 a4).set 13 a5);simp only[ai,aj,aC]at k;exact k
 have hw2:Wr w.1.size w2 V:=by rw[hV];exact ((((((((((Wr.refl _ _).trans (Wr.set _ _ 14 _)).trans (Wr.set _ _ 1 _)).trans (Wr.set _ _ 0 _)).trans (Wr.set _ _ 8 _)).trans (Wr.set _ _ 9 _)).trans (Wr.set _ _ 10 _)).trans (Wr.set _ _ 11 _)).trans (Wr.set _ _ 12 _)).trans (Wr.set _ _ 13 _))
 have i8:=k8.wr hw2 (by omega)
 have i9:=k9.wr hw2 (by omega)
 have hs5:=hs3.Di hw2 (by omega)
 have hS5:=hS2.bx (Stp.Cg hw2 t7);clear hV hw2 k7 k8 k9 hS2 hs3 l7 c7 z7;have c7:=i7.cell;have c8:=i8.cell;have z8:=i8.free;have l8:=i8.lt;have c9:=i9.cell;have z9:=i9.free;have l9:=i9.lt;have hres:=Qa (zz i8 i9 (by omega) ⟨(hb+1),0,⟨a0,a1,a2,a3,a4,a5⟩,⟨a0,a1,a2,a3,a4,a5⟩,false⟩ ⟨3,0,R.v⟩)
 have hrs:=Qa (wg hs5 (b6:=(w.1.size+1)) (b7:=(w.1.size+1+1)) (by omega) (by omega) ⟨(hb+1),0,⟨a0,a1,a2,a3,a4,a5⟩,⟨a0,a1,a2,a3,a4,a5⟩,false⟩ ⟨3,0,R.v⟩)
 have fG:=Qa (hS5.bx (ya V (w.1.size+1) (w.1.size+1+1) (o:=o2) t8 t9 ⟨(hb+1),0,⟨a0,a1,a2,a3,a4,a5⟩,⟨a0,a1,a2,a3,a4,a5⟩,false⟩ ⟨3,0,R.v⟩));clear i7 i8 i9 hS5 hs5;go_wp2_with fail;change bodyPost _ _ _ _ _ (jj V (w.1.size+1) (w.1.size+1+1) ⟨(hb+1),0,⟨a0,a1,a2,a3,a4,a5⟩,⟨a0,a1,a2,a3,a4,a5⟩,false⟩ ⟨3,0,R.v⟩);generalize jj V (w.1.size+1) (w.1.size+1+1) ⟨(hb+1),0,⟨a0,a1,a2,a3,a4,a5⟩,⟨a0,a1,a2,a3,a4,a5⟩,false⟩ ⟨3,0,R.v⟩=X at *;exact bodyPost_ret (qq _ _ 6 7 rfl rfl rfl hres.o.1 hres.o.2) rfl ⟨rfl,o2,fG.o,HI2.o,hrs.o⟩
def qkq (hS:Av w o y S) (hI:Inv S) (hb hn a0 a1 a2 a3 a4 a5 s0 s1 s2 s3 s4 s5:Int) (hl:Bool) (hc:S.DU i=true) (he:(S.Bp i).e≠0)  :
  Ab AId 153 #[ptr y.sb,i,Al #[hb,hn,a0,a1,a2,a3,a4,a5,s0,s1,s2,s3,s4,s5,.bool hl]] w fun e' w'=>e'=O (Ak #[AD.v ⟨hb,0,⟨s0,s1,s2,s3,s4,s5⟩,⟨s0,s1,s2,s3,s4,s5⟩,false⟩,BA.val ⟨3,(S.Bp i).e,0⟩])/\Left y (S.Bp i).S o w w':=by
 obtain⟨o1,ho1⟩:∃ o1,o1=ext o w.1.size (y.l.id+1,0):=⟨_,rfl⟩;have h1:=hS.retag (o':=o1) fun b hb=>by rw[ho1];exact qj hb
 have hS0:Stp (qh y) o o1 w w:=by rw[ho1];exact (Stp.refl _ o w).ext _ _ (Qk _)
 have hbx:∀ b,w.1.size<=b->Ds y (o1 b):=fun b hb=>by rw[ho1];exact qp hb
 clear ho1 hS;obtain⟨W,hW⟩:=Ja0 ((((w.alloc (AIe #[hb,hn,a0,a1,a2,a3,a4,a5,s0,s1,s2,s3,s4,s5,.bool hl] 58)).alloc (AIe #[I Z 0,I Z 0,I Z 0,I Z 0,I Z 0,I Z 0,I Z 0,I Z 0,I Z 0,I Z 0,I Z 0,I Z 0,I Z 0,I Z 0,.bool false] 58)).alloc (AIe #[I Z 0,I Z 0,I Z 0] 54)));have hbW:Ae w.1.size w W:=by rw[hW];exact qa (qa (qa (qc w) _) _) _
 have k7:An W w.1.size #[hb,hn,a0,a1,a2,a3,a4,a5,s0,s1,s2,s3,s4,s5,.bool hl] 58:=by rw[hW];exact ((An.new w _ _).alloc _).alloc _
 have k8:An W (w.1.size+1) #[I Z 0,I Z 0,I Z 0,I Z 0,I Z 0,I Z 0,I Z 0,I Z 0,I Z 0,I Z 0,I Z 0,I Z 0,I Z 0,I Z 0,.bool false] 58:=by rw[hW];exact (An.Ax _ _ _ _ _ (by simp) rfl).alloc _
 have k9:An W (w.1.size+1+1) #[I Z 0,I Z 0,I Z 0] 54:=by rw[hW];exact An.Ax _ _ _ _ _ (by simp) rfl
 have hSW:=h1.below hbW;have cK:Stp (qh y) o o1 w W:=hS0.trans (Stp.of_below hbW);have HC:=Qa (fun X o2 (h2:Av X o2 y S)=>WV h2 hI hc)
 have HB:=Qa hbx;have HK:=Qa (fun X=>show Ab AId 212 #[Al #[hb,hn,a0,a1,a2,a3,a4,a5,s0,s1,s2,s3,s4,s5,.bool hl]] X fun e w'=>e=O (Al #[hb,I Z 0,s0,s1,s2,s3,s4,s5,s0,s1,s2,s3,s4,s5,.bool false])/\Ae X.1.size X w' from li ⟨hb,hn,⟨a0,a1,a2,a3,a4,a5⟩,⟨s0,s1,s2,s3,s4,s5⟩,hl⟩ X)
 generalize S.Bp i=R at *;clear hI hc h1 hS0 hbx;have heb:(R.e != 0)=true:=by rw[bne_iff_ne];exact he
 go_in;go_wp2_with fail;rw[<-hW];clear hW;refine (HC.o _ _ hSW).mono ?_
 rintro e2 w2 ⟨rfl,o2,hS2,hI2,hs2⟩
 have nt:∀ b,w.1.size<=b->¬qh y (o1 b):=fun b q1=>uz (HB.o b q1)
 have tg:∀ b,w.1.size<=b->b<W.1.size->Ds y (o2 b):=fun b q1 q2=>by have:=HB.o b q1;rw[<-hs2.tags b q2]at this;exact this
 have t7:=tg w.1.size (by omega) k7.lt
 have t8:=tg (w.1.size+1) (by omega) k8.lt
 have t9:=tg (w.1.size+1+1) (by omega) k9.lt
 replace k7:=k7.Ar hs2 (nt _ (by omega))
 replace k8:=k8.Ar hs2 (nt _ (by omega))
 replace k9:=k9.Ar hs2 (nt _ (by omega))
 have hs3:=cK.trans hs2;have HI2:=Qa hI2;clear hs2 hSW cK HC tg nt hbW hI2;have c7:=k7.cell;have z7:=k7.free;have l7:=k7.lt;go_wp2_with fail;refine (HK.o _).mono ?_
 rintro e3 V ⟨rfl,hb3⟩
 have i8:=k8.below hb3 k8.lt;have i9:=k9.below hb3 k9.lt;have hS5:=hS2.below hb3;have hs5:=hs3.trans (Stp.of_below hb3);clear k7 k8 k9 hS2 hs3 l7 c7 z7 hb3 HK;have c8:=i8.cell;have z8:=i8.free;have l8:=i8.lt;have c9:=i9.cell;have z9:=i9.free;have l9:=i9.lt;have hres:=Qa (zz i8 i9 (by omega) ⟨hb,0,⟨s0,s1,s2,s3,s4,s5⟩,⟨s0,s1,s2,s3,s4,s5⟩,false⟩ ⟨3,R.e,0⟩)
 have hrs:=Qa (wg hs5 (b6:=(w.1.size+1)) (b7:=(w.1.size+1+1)) (by omega) (by omega) ⟨hb,0,⟨s0,s1,s2,s3,s4,s5⟩,⟨s0,s1,s2,s3,s4,s5⟩,false⟩ ⟨3,R.e,0⟩)
 have fG:=Qa (hS5.bx (ya V (w.1.size+1) (w.1.size+1+1) (o:=o2) t8 t9 ⟨hb,0,⟨s0,s1,s2,s3,s4,s5⟩,⟨s0,s1,s2,s3,s4,s5⟩,false⟩ ⟨3,R.e,0⟩));clear i8 i9 hS5 hs5;go_wp2_with fail;change bodyPost _ _ _ _ _ (jj V (w.1.size+1) (w.1.size+1+1) ⟨hb,0,⟨s0,s1,s2,s3,s4,s5⟩,⟨s0,s1,s2,s3,s4,s5⟩,false⟩ ⟨3,R.e,0⟩);generalize jj V (w.1.size+1) (w.1.size+1+1) ⟨hb,0,⟨s0,s1,s2,s3,s4,s5⟩,⟨s0,s1,s2,s3,s4,s5⟩,false⟩ ⟨3,R.e,0⟩=X at *;exact bodyPost_ret (qq _ _ 6 7 rfl rfl rfl hres.o.1 hres.o.2) rfl ⟨rfl,o2,fG.o,HI2.o,hrs.o⟩
end
end
section
open Go.RowKit Hp Go.Maps
attribute [local go_sem ↓] Go.wp_at_zero Go.wp_at_succ
def zv (n:Int):Ac:=I Z n
def EB (P:List Nat)(l:List Nat):List Ac:=l.map fun q=>I Z (fe P q)
section
variable {w w' : Aa} {a wd L : Nat} {f : Nat -> Nat} {G : Gf} {oc : Own} {c mb : Nat} {P : List Nat}
def JF (hG:Np w a wd L f G){p:Nat}{x:Ob}(hx:G p=some x)(hC:Cc w oc c mb P) :
  Ab AId 176 #[Ah (some ⟨a,0,none⟩),p,ptr c] w fun e w'=>∃ v1 v2 oo,e=O (Ak #[Al #[x.Ap,x.AM.p,x.AM.d,.bool x.AM.AA,.bool x.AM.final,.bool x.Ce,v1,v2],I Z 0]) /\
   Row w' oo (51,0) 3 1 v1 x.AE.length (EB P x.AE)/\Row w' oo (52,0) 3 1 v2 x.nums.length (x.nums.map zv)/\Ae w.1.size w w'/\Old w.1.size oo:=by
 obtain⟨ho,hk,hl⟩:=hG.ob p x hx;have kY:=Qa (fun (W:Aa)(hb:Ae w.1.size w W)=>jy (hG.Cq.below hb) ho hk hl p rfl)
 have uQ:=Qa (fun (W:Aa)(hb:Ae w.1.size w W)=>bf (hG.Cq.below hb) ho hk hl p rfl)
 have wE:=Qa (fun (W:Aa)(hb:Ae w.1.size w W)(i q:Nat)(hq:x.AE[i]?=some q)=>RI (hG.Cq.below hb) ho hk hl i q hq p i rfl rfl)
 have HNu:=Qa (fun (W:Aa)(hb:Ae w.1.size w W)(i:Nat)(n:Int)(hq:x.nums[i]?=some n)=>WT (hG.Cq.below hb) ho hk hl i n hq p i rfl rfl)
 have HIx:=Qa (fun (W:Aa)(hb:Ae w.1.size w W)(q:Nat)(hq:q<=131072)=>VZ (hC.below hb) q (by omega))
 have HOk:=Qa hk;obtain⟨⟨sp,sd,wk,fn⟩,fr,se,Bc,AE,nums⟩:=x;simp only at kY uQ wE HNu ⊢;unfold kg at kY;simp only at kY;clear hG hx hC ho hk hl;go_in;go_wp2_with (first
  | (go_at_call 130;refine (kY.o _ (qa (qc w) _)).mono ?_;rintro e w1 ⟨rfl,hb1⟩;have hb2:=qd (qa (qc w) (AIe #[I Z 0,I Z 0,I Z 0,.bool false,.bool false,.bool false,Ai none 0 0,Ai none 0 0] 120)) hb1)
  | (go_at_call 131;refine (uQ.o _ (qa (qa hb2 _) _)).mono ?_;rintro e w3 ⟨rfl,hb3⟩;have jN:=(An.Ax (w1.alloc (AIe #[sp,sd,.bool wk,.bool fn] 93)) _ #[I Z 0,sp,sd,.bool wk,.bool fn,.bool fr,Ai none 0 0,Ai none 0 0] 120 (w1.1.size+1) (by simp) rfl).below hb3 (An.Ax _ _ _ _ _ (by simp) rfl).lt;have jS:=((An.new w1 #[sp,sd,.bool wk,.bool fn] 93).alloc (AIe #[I Z 0,sp,sd,.bool wk,.bool fn,.bool fr,Ai none 0 0,Ai none 0 0] 120)).below hb3 ((An.new w1 #[sp,sd,.bool wk,.bool fn] 93).alloc (AIe #[I Z 0,sp,sd,.bool wk,.bool fn,.bool fr,Ai none 0 0,Ai none 0 0] 120)).lt;have cS:=jS.cell;have cN:=jN.cell;have zN:=jN.free;have lN:=jN.lt)
  | fail)
 have jR:=((An.new w #[I Z 0,I Z 0,I Z 0,.bool false,.bool false,.bool false,Ai none 0 0,Ai none 0 0] 120).below hb1 (An.new w #[I Z 0,I Z 0,I Z 0,.bool false,.bool false,.bool false,Ai none 0 0,Ai none 0 0] 120).lt);have fM:=((jR.alloc (AIe #[sp,sd,.bool wk,.bool fn] 93)).alloc (AIe #[I Z 0,sp,sd,.bool wk,.bool fn,.bool fr,Ai none 0 0,Ai none 0 0] 120)).below hb3 ((jR.alloc (AIe #[sp,sd,.bool wk,.bool fn] 93)).alloc (AIe #[I Z 0,sp,sd,.bool wk,.bool fn,.bool fr,Ai none 0 0,Ai none 0 0] 120)).lt;have lR:=jR.lt;obtain⟨W,hW⟩:=Ja0 (w3.setCell ⟨w1.1.size+1,0,none⟩ (I Z Bc));rw[<-hW];have vL:An W (w1.1.size+1) #[I Z Bc,sp,sd,.bool wk,.bool fn,.bool fr,Ai none 0 0,Ai none 0 0] 120:=by rw[hW];exact jN.set 0 _
 have oH:An W w1.1.size #[sp,sd,.bool wk,.bool fn] 93:=by rw[hW];exact jS.Ao (by show w1.1.size≠w1.1.size+1;omega) _
 have oG:An W w.1.size #[I Z 0,I Z 0,I Z 0,.bool false,.bool false,.bool false,Ai none 0 0,Ai none 0 0] 120:=by rw[hW];exact fM.Ao (by show w.1.size≠w1.1.size+1;omega) _
 have hz1:w.1.size<=w1.1.size:=hb2.size;have hbW:Ae w.1.size w W:=by rw[hW];exact qm (qd (qa (qa hb2 _) _) hb3) (by show w.1.size<=w1.1.size+1;omega) _
 obtain⟨o1,ho1⟩:∃ o1:Own,o1=fun b=>if b<w.1.size then (0,0) else (53,0):=⟨_,rfl⟩
 have hO1:Old w.1.size o1:=fun b hb=>by rw[ho1];exact if_pos hb
 have hT1:∀ b,w.1.size<=b->o1 b=(53,0):=fun b hb=>by rw[ho1];exact if_neg (by omega)
 have HI:=Qa (Ad vL (Ad oH (Ad oG (Ad hbW (Ad hO1 (Ad (hT1 _ (show w.1.size<=w1.1.size+1 by omega)) (Ad (hT1 _ hz1) (hT1 _ (Qk _)))))))))
 have hlp:AE.length=sp:=HOk.o.lp;have HLp:=Qa hlp;have hsp:sp<=16:=Qo HOk.o.AM.1 (by omega)
 obtain⟨iI,hi,hsI,cZ,bZ⟩:=zh;have hu64:=underlying25;have HNE:=Qa (show w.1.size≠w1.1.size+1 by omega)
 obtain⟨S,hS⟩:=Ja0 w1.1.size;obtain⟨R,hR⟩:=Ja0 w.1.size;clear jR fM lR hW vL oH oG hz1 hbW hO1 hT1 ho1 hb1 hb2 hb3 jN jS cN cS zN lN hlp kY uQ;have rM:=Qa (Ad hS hR);rw[<-hS,<-hR]at HI ⊢;clear hS hR;go_loopw [45] (fun ix wr=>∃ (i:Nat)(v1:Ac)(oo:Own),ix=I Z i/\i<=sp/\Row wr oo (51,0) 3 1 v1 i (EB P (AE.take i))/\An wr (S+1) #[I Z Bc,sp,sd,.bool wk,.bool fn,.bool fr,v1,Ai none 0 0] 120/\An wr S #[sp,sd,.bool wk,.bool fn] 93/\An wr R #[I Z 0,I Z 0,I Z 0,.bool false,.bool false,.bool false,Ai none 0 0,Ai none 0 0] 120/\Ae R w wr/\Old R oo/\oo (S+1)=(53,0)/\oo S=(53,0)/\oo R=(53,0)) (fun ix _=>sp-(intOf ix).toNat)
 case atStart=>exact⟨0,_,o1,rfl,ag _,Row.nil _ _ _ _ _,HI.o⟩
 case round =>
  clear HI;obtain⟨i,v1,oo,rfl,hin,hr,jN,jS,jR,hb,hO,tN,tS,tR⟩:=hrel;by_cases hlt:i<sp
  ·have hiI:(i:Int)<(sp:Int):=by omega
   have HW:=Qa (za i (by omega))
   have hb':Ae w.1.size w wr:=by rw[<-rM.o.2];exact hb
   obtain⟨q,hq⟩:∃ q,AE[i]?=some q:=⟨_,Qb (by rw[HLp.o];exact hlt)⟩
   have HP:=Qa (wE.o wr hb' i q hq);have vD:q<=131072:=HOk.o.ptr q (Qe hq);have HI2:=Qa (fun (W3:Aa)(hb3:Ae wr.1.size wr W3)=>HIx.o W3 (qd hb' hb3) q vD);obtain⟨pv,cv,rfl⟩:=hr.A5;have gI:=Qa (show EB P (AE.take (i+1))=EB P (AE.take i)++[I Z (fe P q)] from by rw[af,hq];unfold EB;rw[Qw];rfl)
   have dB:i+1<=maxLen:=by simp only[maxLen];omega
   have hmb:(i+1)*8<=140737488355328:=by omega
   have cN:=jN.cell;have cS:=jS.cell;have lN:=jN.lt;have HX:=Qa (fun (w5 w7:Aa)(o7:Own)(p7:Option Addr)(c7:Nat)(hb5:Ae wr.1.size wr w5)(hown:Row w7 o7 (51,0) 3 1 (.slice p7 (i+1) c7) (i+1) (EB P (AE.take i)++[I Z (fe P q)]))(hst:Stp (fun t=>t=(51,0)) oo o7 (w5.drew.alloc (AIe #[I Z (fe P q)] 3)) w7) =>
    show An w7 (S+1) #[I Z Bc,sp,sd,.bool wk,.bool fn,.bool fr,.slice pv i cv,Ai none 0 0] 120/\(Row (w7.setCell ⟨S+1,6,none⟩ (.slice p7 (i+1) c7)) o7 (51,0) 3 1 (.slice p7 (i+1) c7) (i+1) (EB P (AE.take (i+1)))/\An (w7.setCell ⟨S+1,6,none⟩ (.slice p7 (i+1) c7)) (S+1) #[I Z Bc,sp,sd,.bool wk,.bool fn,.bool fr,.slice p7 (i+1) c7,Ai none 0 0] 120/\An (w7.setCell ⟨S+1,6,none⟩ (.slice p7 (i+1) c7)) S #[sp,sd,.bool wk,.bool fn] 93/\An (w7.setCell ⟨S+1,6,none⟩ (.slice p7 (i+1) c7)) R #[I Z 0,I Z 0,I Z 0,.bool false,.bool false,.bool false,Ai none 0 0,Ai none 0 0] 120 /\
     Ae R w (w7.setCell ⟨S+1,6,none⟩ (.slice p7 (i+1) c7))/\Old R o7/\o7 (S+1)=(53,0)/\o7 S=(53,0)/\o7 R=(53,0)) from by
     have hbq:Ae wr.1.size wr (w5.drew.alloc (AIe #[I Z (fe P q)] 3)):=qa (qe hb5) _;have k1:Stp (fun t=>t=(51,0)) oo o7 wr w7:=(Stp.of_below hbq).trans hst;have j7:=jN.Ar k1 (by rw[tN];simp)
     have s7:=jS.Ar k1 (by rw[tS];simp)
     have r7:=jR.Ar k1 (by rw[tR];simp)
     have tN7:=(k1.tags _ jN.lt).trans tN;have tS7:=(k1.tags _ jS.lt).trans tS;have tR7:=(k1.tags _ jR.lt).trans tR;have k2:Stp (fun t=>t=(53,0)) o7 o7 w7 (w7.setCell ⟨S+1,6,none⟩ (.slice p7 (i+1) c7)):=(Stp.refl _ o7 w7).setCell (by show o7 (S+1)=_;exact tN7) _
     have hRS:R≠S+1:=by rw[rM.o.2,rM.o.1];exact HNE.o
     have hz:R=w.1.size:=rM.o.2;have kk:Stp (fun t=>t=(51,0)\/t=(53,0)) oo o7 w (w7.setCell ⟨S+1,6,none⟩ (.slice p7 (i+1) c7)):=((Stp.of_below hb').trans (k1.mono fun _ h=>.inl h)).trans (k2.mono fun _ h=>.inr h);refine⟨j7,by rw[gI.o];exact hown.Ar k2 (by simp),j7.set 6 _,s7.Ao (by show S≠S+1;omega) _,r7.Ao (by show R≠S+1;exact hRS) _,?_,?_,tN7,tS7,tR7⟩
     ·rw[hz]
      exact kk.below fun b hb2 e=>by
       have:=hO b (by rw[hz];exact hb2)
       rw[this]at e;simp at e
     ·intro b hb2
      exact (kk.tags b (by rw[<-hz];exact hb2)).trans (hO b hb2))
   have HRr:=Qa hr;have JN:=Qa jN;clear hr jN jS jR hb hO tN tS tR hq hb' vD;go_upto_region 14 with (first
    | (go_at_call 171;refine HP.o.mono ?_;rintro e w5 ⟨rfl,hb5⟩)
    | fail)
   have vL:=JN.o.below hb5 JN.o.lt;have cN5:=vL.cell;have lN5:=vL.lt;have rn:=(HRr.o.below hb5).below (qa (qe (qc w5)) (AIe #[I Z (fe P q)] 3));have jn:=An.new w5.drew #[I Z (fe P q)] 3;clear cN lN;go_region_law (first
    | (refine zj _ (by rfl) _ _ _ (by rfl) 3 iI _ 1 8 hu64 hi bZ hsI cZ (by rfl) (by decide) oo (51,0) _ _ _ (by rfl) rn ⟨w5.1.size,0,none⟩ 1 1 [I Z (fe P q)] (by rfl) (by rfl) (qv jn) jd dB hmb ?_;intro v' w7 hown hst;obtain⟨p7,c7,rfl⟩:=hown.A5;obtain⟨j7,hfin⟩:=HX.o w5 w7 _ p7 c7 hb5 hown hst;have c7':=j7.cell;have z7:=j7.free;have l7:=j7.lt)
    | (go_simp;go_wp2_with ((go_at_call 177;refine (HI2.o _ (qe hb5)).mono ?_;rintro e w6 ⟨rfl,rfl⟩))))
   all_goals
    clear hown hst j7;obtain⟨hw1,hw2⟩:=HW.o;go_wp2_with fail;go_roundw
    case rel=>exact⟨i+1,_,_,by simp,hlt,hfin⟩
    case measure=>clear hw1 hw2 dB hmb;simp[intOf];omega
  ·obtain rfl:i=sp:=by omega
   rw[<-HLp.o,aa,HLp.o]at hr;obtain⟨pv,cv,rfl⟩:=hr.A5;have cN:=jN.cell;have cS:=jS.cell;have lN:=jN.lt;have hsd:sd<=16:=Qo HOk.o.AM.2.1 (by omega)
   have HLn:=Qa (show nums.length=sd from HOk.o.ln);have HI:=Qa (Ad (Row.nil wr oo (52,0) 3 1) (Ad hr (Ad jN (Ad jR (Ad hb (Ad hO (Ad tN tR)))))));have jS0:=Qa jS;clear hr jN jS jR hb hO tN tS tR hlt hin HIx wE;go_wp2_with fail;clear cN cS lN;go_loopw [70] (fun ix wr=>∃ (j:Nat)(v2:Ac)(oo:Own),ix=I Z j/\j<=sd/\Row wr oo (52,0) 3 1 v2 j ((nums.take j).map zv)/\Row wr oo (51,0) 3 1 (.slice pv i cv) i (EB P AE)/\An wr (S+1) #[I Z Bc,i,sd,.bool wk,.bool fn,.bool fr,.slice pv i cv,v2] 120/\An wr R #[I Z 0,I Z 0,I Z 0,.bool false,.bool false,.bool false,Ai none 0 0,Ai none 0 0] 120/\Ae R w wr/\Old R oo/\oo (S+1)=(53,0)/\oo R=(53,0)) (fun ix _=>sd-(intOf ix).toNat)
   case atStart=>exact⟨0,_,oo,rfl,ag _,HI.o⟩
   case round =>
    clear HI;obtain⟨j,v2,o2,rfl,hjn,hr2,hr,jN,jR,hb,hO,tN,tR⟩:=hrel;by_cases hlt:j<sd
    ·have qO:(j:Int)<(sd:Int):=by omega
     have HW:=Qa (za j (by omega))
     have hb':Ae w.1.size w wr:=by rw[<-rM.o.2];exact hb
     obtain⟨nq,hq⟩:∃ nq,nums[j]?=some nq:=⟨_,Qb (by rw[HLn.o];exact hlt)⟩
     have HP:=Qa (HNu.o wr hb' j nq hq);obtain⟨p2,c2,rfl⟩:=hr2.A5;have gI:=Qa (show (nums.take (j+1)).map zv=(nums.take j).map zv++[I Z nq] from by rw[af,hq,Qw];rfl)
     have dB:j+1<=maxLen:=by simp only[maxLen];omega
     have hmb:(j+1)*8<=140737488355328:=by omega
     have HX:=Qa (fun (w5 w7:Aa)(o7:Own)(p7:Option Addr)(c7:Nat)(hb5:Ae wr.1.size wr w5)(hown:Row w7 o7 (52,0) 3 1 (.slice p7 (j+1) c7) (j+1) ((nums.take j).map zv++[I Z nq]))(hst:Stp (fun t=>t=(52,0)) o2 o7 (w5.alloc (AIe #[nq] 3)) w7) =>
      show An w7 (S+1) #[I Z Bc,i,sd,.bool wk,.bool fn,.bool fr,.slice pv i cv,.slice p2 j c2] 120/\(Row (w7.setCell ⟨S+1,7,none⟩ (.slice p7 (j+1) c7)) o7 (52,0) 3 1 (.slice p7 (j+1) c7) (j+1) ((nums.take (j+1)).map zv)/\Row (w7.setCell ⟨S+1,7,none⟩ (.slice p7 (j+1) c7)) o7 (51,0) 3 1 (.slice pv i cv) i (EB P AE)/\An (w7.setCell ⟨S+1,7,none⟩ (.slice p7 (j+1) c7)) (S+1) #[I Z Bc,i,sd,.bool wk,.bool fn,.bool fr,.slice pv i cv,.slice p7 (j+1) c7] 120/\An (w7.setCell ⟨S+1,7,none⟩ (.slice p7 (j+1) c7)) R #[I Z 0,I Z 0,I Z 0,.bool false,.bool false,.bool false,Ai none 0 0,Ai none 0 0] 120 /\
       Ae R w (w7.setCell ⟨S+1,7,none⟩ (.slice p7 (j+1) c7))/\Old R o7/\o7 (S+1)=(53,0)/\o7 R=(53,0)) from by
       have hbq:Ae wr.1.size wr (w5.alloc (AIe #[nq] 3)):=qa hb5 _;have k1:Stp (fun t=>t=(52,0)) o2 o7 wr w7:=(Stp.of_below hbq).trans hst;have j7:=jN.Ar k1 (by rw[tN];simp)
       have r7:=jR.Ar k1 (by rw[tR];simp)
       have tN7:=(k1.tags _ jN.lt).trans tN;have tR7:=(k1.tags _ jR.lt).trans tR;have k2:Stp (fun t=>t=(53,0)) o7 o7 w7 (w7.setCell ⟨S+1,7,none⟩ (.slice p7 (j+1) c7)):=(Stp.refl _ o7 w7).setCell (by show o7 (S+1)=_;exact tN7) _
       have hRS:R≠S+1:=by rw[rM.o.2,rM.o.1];exact HNE.o
       have hz:R=w.1.size:=rM.o.2;have kk:Stp (fun t=>t=(52,0)\/t=(53,0)) o2 o7 w (w7.setCell ⟨S+1,7,none⟩ (.slice p7 (j+1) c7)):=((Stp.of_below hb').trans (k1.mono fun _ h=>.inl h)).trans (k2.mono fun _ h=>.inr h);refine⟨j7,by rw[gI.o];exact hown.Ar k2 (by simp),(hr.Ar k1 (by simp)).Ar k2 (by simp),j7.set 7 _,r7.Ao (by show R≠S+1;exact hRS) _,?_,?_,tN7,tR7⟩
       ·rw[hz]
        exact kk.below fun b hb2 e=>by
         have:=hO b (by rw[hz];exact hb2)
         rw[this]at e;simp at e
       ·intro b hb2
        exact (kk.tags b (by rw[<-hz];exact hb2)).trans (hO b hb2))
     have HR2:=Qa hr2;have JN:=Qa jN;clear hr2 hr jN jR hb hO tN tR hq hb';obtain⟨hw1,hw2⟩:=HW.o;go_wp2_with (first
      | (go_at_call 137;refine HP.o.mono ?_;rintro e w5 ⟨rfl,hb5⟩;have vL:=JN.o.below hb5 JN.o.lt;have cN5:=vL.cell;have lN5:=vL.lt)
      | (at_builtin;refine qf _ rfl _ _ _ rfl 3 iI _ 1 8 hu64 hi bZ hsI cZ rfl (by decide) o2 (52,0) _ _ _ rfl ((HR2.o.below hb5).below (qa (qc w5) (AIe #[nq] 3))) ⟨w5.1.size,0,none⟩ 1 1 [I Z nq] rfl rfl (qv (An.new w5 _ _)) jd dB hmb ?_;intro v' w7 hown hst;obtain⟨p7,c7,rfl⟩:=hown.A5;obtain⟨j7,hfin⟩:=HX.o w5 w7 _ p7 c7 hb5 hown hst;have c7':=j7.cell;have z7:=j7.free;have l7:=j7.lt)
      | fail)
     clear hown hst j7;go_roundw
     case rel=>exact⟨j+1,_,_,by simp,hlt,hfin⟩
     case measure=>clear hw1 hw2 dB hmb;simp[intOf];omega
    ·obtain rfl:j=sd:=by omega
     rw[<-HLn.o,aa,HLn.o]at hr2;obtain⟨p2,c2,rfl⟩:=hr2.A5;have cN:=jN.cell;have lN:=jN.lt;have cR:=jR.cell;have zR:=jR.free;have lR:=jR.lt;obtain⟨X,hX⟩:=Ja0 (((((((((wr.setCell ⟨R,0,none⟩ (I Z Bc)).setCell ⟨R,1,none⟩ i).setCell ⟨R,2,none⟩ j).setCell ⟨R,3,none⟩ (.bool wk)).setCell ⟨R,4,none⟩ (.bool fn)).setCell ⟨R,5,none⟩ (.bool fr)).setCell ⟨R,6,none⟩ (.slice pv i cv)).setCell ⟨R,7,none⟩ (.slice p2 j c2)));have jX:An X R #[I Z Bc,i,j,.bool wk,.bool fn,.bool fr,.slice pv i cv,.slice p2 j c2] 120:=by rw[hX];exact ((((((((jR.set 0 (I Z Bc)).set 1 i).set 2 j).set 3 (.bool wk)).set 4 (.bool fn)).set 5 (.bool fr)).set 6 (.slice pv i cv)).set 7 (.slice p2 j c2))
     have k2:Stp (fun t=>t=(53,0)) o2 o2 wr X:=by rw[hX];exact (((((((((Stp.refl _ o2 wr).setCell (by show o2 R=_;exact tR) _).setCell (by show o2 R=_;exact tR) _).setCell (by show o2 R=_;exact tR) _).setCell (by show o2 R=_;exact tR) _).setCell (by show o2 R=_;exact tR) _).setCell (by show o2 R=_;exact tR) _).setCell (by show o2 R=_;exact tR) _).setCell (by show o2 R=_;exact tR) _)
     have hz:R=w.1.size:=rM.o.2;have HFin:=Qa (show Row X o2 (51,0) 3 1 (.slice pv i cv) AE.length (EB P AE)/\Row X o2 (52,0) 3 1 (.slice p2 j c2) nums.length (nums.map zv)/\Ae w.1.size w X/\Old w.1.size o2 from by
      have hb':Ae w.1.size w wr:=by rw[<-hz];exact hb
      refine⟨(hr.Ar k2 (by simp)).ite HLp.o.symm rfl,(hr2.Ar k2 (by simp)).ite HLn.o.symm rfl,((Stp.of_below hb').trans k2).below fun b hb2 e=>?_,by rw[<-hz];exact hO⟩
      have:=hO b (by rw[hz];exact hb2)
      rw[this]at e;simp at e)
     have JX:=Qa jX;have HXe:=Qa hX;clear hr2 hr jN jR hb hO tN tR jX k2 hz hX;go_wp2_with fail;rw[<-HXe.o];have cX:=JX.o.cell;exact bodyPost_ret (v:=Ak #[Al #[I Z Bc,i,j,.bool wk,.bool fn,.bool fr,.slice pv i cv,.slice p2 j c2],I Z 0]) (by simp[results,results176,go_sem,cX]) rfl ⟨_,_,o2,rfl,HFin.o⟩
end
structure Nd where
 Bc:Nat
 AM:BR
 Ce:Bool
 AE:List Int
 nums:List Int
def Nd.of (P:List Nat)(x:Ob):Nd:=⟨x.Ap,x.AM,x.Ce,x.AE.map (fe P),x.nums⟩
def Nd.none:Nd:=⟨0,⟨0,0,false,false⟩,false,[],[]⟩
def SO (e:Nd×Ac×Ac):List Ac:=[I Z e.1.Bc,I Z e.1.AM.p,I Z e.1.AM.d,.bool e.1.AM.AA,.bool e.1.AM.final,.bool e.1.Ce,e.2.1,e.2.2]
def cj (es:List (Nd×Ac×Ac)):List Ac:=es.flatMap SO
def YI (es:List (Nd×Ac×Ac))(e:Nd×Ac×Ac):cj (es++[e])=cj es++SO e:=by unfold cj;simp
structure C1 (W:Aa)(o:Own)(v:Ac)(l:List Nd):Prop where
 es:∃ es:List (Nd×Ac×Ac),es.map (·.1)=l/\Row W o (54,0) 120 8 v l.length (cj es) /\
  ∀ e ∈ es,Row W o (51,0) 3 1 e.2.1 e.1.AE.length (e.1.AE.map zv)/\Row W o (52,0) 3 1 e.2.2 e.1.nums.length (e.1.nums.map zv)
def yn (G:Gf)(P l:List Nat):List Nd:=l.map fun p=>match G p with|some x=>Nd.of P x|none=>Nd.none
def D2 (o o2:Own)(n:Nat):Own:=fun b=>if b<n then o b else o2 b
def Xq {o o2:Own}{n b:Nat}(h:b<n):D2 o o2 n b=o b:=if_pos h
def Row.D2 {W:Aa}{o2:Own}{n:Nat}{t:Tag}{e:TypeId}{size k:Nat}{v:Ac}{xs:List Ac}(h:Row W o2 t e size v k xs)(hO:Old n o2)(ht:t≠(0,0))(o:Own):Row W (D2 o o2 n) t e size v k xs:=
 ⟨h.own,fun b hb=>by
  have h1:=h.tag b hb;show (if b<n then o b else o2 b)=t;rw[if_neg fun hl=>ht (by rw[<-h1];exact hO b hl)];exact h1⟩
def Stp.D2 {T:Tag->Prop} {o:Own} {w W:Aa} (o2:Own) (h:Ae w.1.size w W):Stp T o (D2 o o2 w.1.size) w W:=
 let s:=Stp.of_below (T:=T) (o:=o) h
 ⟨s.os,s.tape,s.output,s.size,fun _ hb=>Xq hb,s.block⟩
def Xp {w:Aa}{o:Own}{t:Tag}{e:TypeId}{size n:Nat}{v:Ac}{xs:List Ac}(h:Row w o t e size v n xs):v.oneCell'=true:=by obtain⟨_,_,rfl⟩:=h.A5;rfl
def JG {a b c:Int}{d e f:Bool}{v1 v2:Ac}(h1:v1.oneCell'=true)(h2:v2.oneCell'=true):∀ u ∈ [Value.int .i64 a,I Z b,I Z c,.bool d,.bool e,.bool f,v1,v2],u.oneCell'=true:=by
 intro u hu;simp at hu;rcases hu with rfl|rfl|rfl|rfl|rfl|rfl|rfl|rfl<;>first|rfl|assumption
def C1.Ar {T:Tag->Prop}{W W':Aa}{o o':Own}{v:Ac}{l:List Nd}(h:C1 W o v l)(k:Stp T o o' W W')(h4:¬T (54,0))(h1:¬T (51,0))(h2:¬T (52,0)):C1 W' o' v l:=by
 obtain⟨es,he,hr,hi⟩:=h;exact⟨es,he,hr.Ar k h4,fun e h=>⟨(hi e h).1.Ar k h1,(hi e h).2.Ar k h2⟩⟩
def qp4:∃ i,AId.info? 120=some i/\i.size=8/\i.bytes=88/\i.zero=some (Al #[I Z 0,I Z 0,I Z 0,.bool false,.bool false,.bool false,Ai none 0 0,Ai none 0 0]):=info_parts (by kernel_rfl)
section
variable {w w' : Aa} {a wd L : Nat} {f : Nat -> Nat} {G : Gf} {K : List Nat}
def qk9 (h:Np w a wd L f G) (hG:Nq G K) {v:Ac} {roots:List Nat} {o:Own} {t:Tag} (hv:Row w o t 3 1 v roots.length (roots.map nv)) (hr:Gy G roots) (hn:roots.length<=1000000) :
  Ab AId 114 #[Ah (some ⟨a,0,none⟩),v] w fun e w'=>∃ v1 v2 oo,e=O (Ak #[v1,v2,I Z 0])/\C1 w' oo v1 (yn G (Dy G K.length roots) (Dy G K.length roots)) /\
   Row w' oo (55,0) 3 1 v2 roots.length (EB (Dy G K.length roots) roots)/\Ae w.1.size w w'/\Old w.1.size oo:=by
 obtain⟨iN,hiN,hsN,hyN,hzN⟩:=qp4;obtain⟨iI,hi,hsI,cZ,bZ⟩:=zh;have huN:=underlying28;have hu64:=underlying25;have vU:=Qa (H7 h hG hv hr hn);obtain⟨R,hR⟩:=Ja0 (Dy G K.length roots);rw[<-hR]at vU ⊢;obtain⟨pv,cv,rfl⟩:=hv.A5;have HV:=Qa hv;have HGI:=Qa h;have mF:=Qa hG;have mJ:=Qa hr;obtain⟨n,hnn⟩:=Ja0 roots.length;rw[<-hnn]at HV vU hn ⊢;have HN:=Qa hnn;have HNm:=Qa hn;clear hR h hG hv hr hnn hn;go_in;go_wp2_with (first
  | (go_at_call 175;refine vU.o.mono ?_;rintro e w1 ⟨c,mb,oc,rfl,hC,hI,hb1,hO1⟩;obtain⟨vp,jc,hp⟩:=hC.A2;obtain⟨pp,cp,rfl⟩:=hp.A5;have cc:=jc.cell)
  | fail)
 obtain⟨m,hm⟩:=Ja0 R.length;rw[<-hm];have hK:=mF.o.num;have hmK:m<=100000:=by rw[hm];exact Qo (hI.le mF.o.keys) hK
 have HC:=Qa hC;have HI:=Qa hI;have HB1:=Qa hb1;have HP:=Qa hp;have HM:=Qa hm;clear hC hI hb1 hO1 hp hm jc cc hK vU;go_loopw [9,31] (fun vn ix wr=>∃ (k:Nat) (oo:Own),ix=I Z k/\k<=m/\C1 wr oo vn (yn G R (R.take k))/\Ae w1.1.size w1 wr/\Old w1.1.size oo) (fun _ ix _=>m-(intOf ix).toNat)
 case atStart=>exact⟨0,fun _=>(0,0),rfl,ag _,⟨[],rfl,Row.nil _ _ _ _ _,fun e he=>by cases he⟩,qc w1,fun _ _=>rfl⟩
 case round =>
  obtain⟨k,oo,rfl,hkm,hN,hb,hO⟩:=hrel;obtain⟨es,hes,hrow,hin⟩:=hN;have hel:(yn G R (R.take k)).length=k:=by unfold yn;rw[Qg,Qp,<-HM.o];omega
  rw[hel]at hrow;by_cases hlt:k<m
  ·have eO:(k:Int)<(m:Int):=by omega
   have HW:=Qa (za k (by omega))
   obtain⟨x,hx⟩:∃ x,R[k]?=some x:=⟨_,Qb (by rw[<-HM.o];exact hlt)⟩
   obtain⟨g,e,hcell,hcap⟩:∃ g,pp=some ⟨g,0,none⟩/\wr.cell? ⟨g,k,none⟩=some (I Z x)/\m<=cp:=by
    have hp2:=HP.o.below hb;rcases hp2.form with ⟨_,h0⟩|⟨g,cap,e,hcap,_⟩
    ·rw[<-HM.o]at h0;omega
    ·injection e with e1 _ e3
     subst e1 e3;exact⟨g,rfl,hp2.cells k _ (by rw[Qj,hx];rfl),by rw[HM.o];exact hcap⟩
   subst e;obtain⟨ob,cO⟩:=Option.isSome_iff_exists.1 (HI.o.Rs x (Qe hx));have uP:=Qa (JF (HGI.o.below (qd HB1.o hb)) cO (HC.o.below hb));have hst:yn G R (R.take (k+1))=yn G R (R.take k)++[Nd.of R ob]:=by
    unfold yn;rw[af,hx,Qw];simp[cO]
   obtain⟨pn,cn,rfl⟩:=hrow.A5;have HX:=Qa (fun (w3 W5:Aa) (o3:Own) (v1 v2:Ac) (r1:Row w3 o3 (51,0) 3 1 v1 ob.AE.length (EB R ob.AE)) (r2:Row w3 o3 (52,0) 3 1 v2 ob.nums.length (ob.nums.map zv)) (hb3:Ae wr.1.size wr w3) (hO3:Old wr.1.size o3) (dA:Ae w3.1.size w3 W5) =>
    show Row W5 (ext (D2 oo o3 wr.1.size) w3.1.size (53,0)) (54,0) 120 8 (.slice pn k cn) k (cj es) /\
     ∀ (w8:Aa) (o8:Own) (v8:Ac),Row w8 o8 (54,0) 120 8 v8 (k+1) (cj es++SO (Nd.of R ob,v1,v2))->Stp (fun t=>t=(54,0)) (ext (D2 oo o3 wr.1.size) w3.1.size (53,0)) o8 W5 w8 ->
      C1 w8 o8 v8 (yn G R (R.take (k+1)))/\Ae w1.1.size w1 w8/\Old w1.1.size o8 from by
     have s1:Stp (fun _=>False) oo (D2 oo o3 wr.1.size) wr w3:=Stp.D2 o3 hb3;have s2:Stp (fun _=>False) (D2 oo o3 wr.1.size) (ext (D2 oo o3 wr.1.size) w3.1.size (53,0)) w3 W5:=(Stp.of_below dA).ext _ _ (Qk _);have s3:=s1.trans s2;refine⟨hrow.Ar s3 id,fun w8 o8 v8 ig gQ=>⟨⟨es++[(Nd.of R ob,v1,v2)],?_,?_,?_⟩,?_,?_⟩⟩
     ·rw[Qw,hes,hst];rfl
     ·rw[YI]
      exact ig.ite (by rw[hst,Qd,hel];rfl) rfl
     ·intro e he
      rcases Qs.1 he with he|he
      ·obtain⟨q1,q2⟩:=hin e he
       exact⟨(q1.Ar s3 id).Ar gQ (by simp),(q2.Ar s3 id).Ar gQ (by simp)⟩
      ·simp only[Zb]at he
       subst he;have q1:=((r1.D2 hO3 (by simp) oo).Ar s2 id).Ar gQ (by simp)
       have q2:=((r2.D2 hO3 (by simp) oo).Ar s2 id).Ar gQ (by simp)
       refine⟨q1.ite (by show _=(ob.AE.map (fe R)).length;rw[Qg]) (by show _=(ob.AE.map (fe R)).map zv;rw[List.map_map];rfl),q2⟩
     ·have kk:Stp (fun t=>t=(54,0)) oo o8 w1 w8:=((Stp.of_below hb).trans (s3.mono fun _ h=>h.elim)).trans gQ
      exact kk.below fun b hb2 e=>by rw[hO b hb2]at e;simp at e
     ·intro b hb2
      have hlw:b<wr.1.size:=Qn hb2 hb.size;have Adi:b<w3.1.size:=Qn hlw hb3.size;rw[gQ.tags b (Qn Adi dA.size),qj Adi,Xq hlw];exact hO b hb2)
   have dB:k+1<=maxLen:=by simp only[maxLen];omega
   have hmb:(k+1)*88<=140737488355328:=by omega
   obtain⟨⟨sp,sd,wk,fn⟩,fr,se,Bc,AE,nums⟩:=ob;simp only at uP HX;clear hx cO hst hrow hin hes hel hb hO;go_wp2_with (first
    | (go_at_call 176;refine uP.o.mono ?_;rintro e w3 ⟨v1,v2,o3,rfl,r1,r2,hb3,hO3⟩;obtain⟨p1,c1,rfl⟩:=r1.A5;obtain⟨p2,c2,rfl⟩:=r2.A5;have HOn:=Qa (JG (a:=Bc) (b:=sp) (c:=sd) (d:=wk) (e:=fn) (f:=fr) (Xp r1) (Xp r2));have HXX:=Qa (HX.o w3 _ o3 _ _ r1 r2 hb3 hO3 (qa (qa (qc w3) (AIe #[I Z Bc,sp,sd,.bool wk,.bool fn,.bool fr,.slice p1 AE.length c1,.slice p2 nums.length c2] 120)) (AIe #[I Z Bc,sp,sd,.bool wk,.bool fn,.bool fr,.slice p1 AE.length c1,.slice p2 nums.length c2] 120)));have HJn:=Qa (An.Ax (w3.alloc (AIe #[I Z Bc,sp,sd,.bool wk,.bool fn,.bool fr,.slice p1 AE.length c1,.slice p2 nums.length c2] 120)) _ #[I Z Bc,sp,sd,.bool wk,.bool fn,.bool fr,.slice p1 AE.length c1,.slice p2 nums.length c2] 120 (w3.1.size+1) (by simp) rfl))
    | (at_builtin;refine qf _ rfl _ _ _ rfl 120 iN _ 8 88 huN hiN hzN hsN hyN rfl (by decide) (ext (D2 oo o3 wr.1.size) w3.1.size (53,0)) (54,0) _ _ _ rfl HXX.o.1 ⟨w3.1.size+1,0,none⟩ 1 1 [I Z Bc,I Z sp,I Z sd,.bool wk,.bool fn,.bool fr,.slice p1 AE.length c1,.slice p2 nums.length c2] rfl rfl (yh HJn.o) HOn.o dB hmb ?_;intro v8 w8 hown hst;have HF:=Qa (HXX.o.2 w8 _ v8 hown hst);clear hown hst)
    | fail)
   obtain⟨hw1,hw2⟩:=HW.o;go_wp2_with fail;go_roundw
   case rel=>exact⟨k+1,_,by simp,hlt,HF.o⟩
   case measure=>clear hw1 hw2 dB hmb;simp[intOf];omega
  ·obtain rfl:k=m:=by omega
   have Acu:R.take k=R:=by rw[HM.o,aa]
   rw[Acu]at hes hel;obtain⟨pn,cn,rfl⟩:=hrow.A5;have HNd:=Qa (show C1 wr oo (.slice pn k cn) (yn G R R) from ⟨es,hes,by rw[hel];exact hrow,hin⟩)
   have qW:=Qa (Ad hb hO);clear hes hel hrow hin Acu hb hO hlt hkm;go_wp2_with fail;go_loopw [14,52] (fun vs ix wx=>∃ (j:Nat) (o4:Own),ix=I Z j/\j<=n/\Row wx o4 (55,0) 3 1 vs j (EB R (roots.take j))/\C1 wx o4 (.slice pn k cn) (yn G R R)/\Ae w1.1.size w1 wx/\Old w1.1.size o4) (fun _ ix _=>n-(intOf ix).toNat)
   case atStart=>exact⟨0,oo,rfl,ag _,Row.nil _ _ _ _ _,HNd.o,qW.o⟩
   case round =>
    clear HNd qW;obtain⟨j,o4,rfl,hjn,hr4,hN4,hb4,hO4⟩:=hrel;by_cases hlt:j<n
    ·have qO:(j:Int)<(n:Int):=by omega
     have hnn:=HNm.o;have HW:=Qa (za j (by omega))
     obtain⟨x,hx⟩:∃ x,roots[j]?=some x:=⟨_,Qb (by rw[<-HN.o];exact hlt)⟩
     obtain⟨g,e,hcell,hcap⟩:∃ g,pv=some ⟨g,0,none⟩/\wr.cell? ⟨g,j,none⟩=some (I Z x)/\n<=cv:=by
      have hv2:=(HV.o.below HB1.o).below hb4;rcases hv2.form with ⟨_,h0⟩|⟨g,cap,e,hcap,_⟩
      ·omega
      ·injection e with e1 _ e3
       subst e1 e3;exact⟨g,rfl,hv2.cells j _ (by rw[Qj,hx];rfl),hcap⟩
     subst e;have hxb:=mF.o.bd mJ.o (Qe hx);have HIx:=Qa (VZ (HC.o.below hb4) x (by omega))
     have gI:=Qa (show EB R (roots.take (j+1))=EB R (roots.take j)++[I Z (fe R x)] from by rw[af,hx];unfold EB;rw[Qw];rfl)
     obtain⟨ps,cs,rfl⟩:=hr4.A5;have dB:j+1<=maxLen:=by simp only[maxLen];omega
     have hmb:(j+1)*8<=140737488355328:=by omega
     have HRn:=Qa (hr4.below (qa (qc wr) (AIe #[I Z (fe R x)] 3)));have HX:=Qa (fun (w8:Aa) (o8:Own) (v8:Ac) (ig:Row w8 o8 (55,0) 3 1 v8 (j+1) (EB R (roots.take j)++[I Z (fe R x)])) (gQ:Stp (fun t=>t=(55,0)) o4 o8 (wr.alloc (AIe #[I Z (fe R x)] 3)) w8) =>
      show Row w8 o8 (55,0) 3 1 v8 (j+1) (EB R (roots.take (j+1)))/\C1 w8 o8 (.slice pn k cn) (yn G R R)/\Ae w1.1.size w1 w8/\Old w1.1.size o8 from by
       have s:Stp (fun t=>t=(55,0)) o4 o8 wr w8:=(Stp.of_below (qa (qc wr) _)).trans gQ;have kk:Stp (fun t=>t=(55,0)) o4 o8 w1 w8:=(Stp.of_below hb4).trans s;refine⟨by rw[gI.o];exact ig,hN4.Ar s (by simp) (by simp) (by simp),kk.below fun b hb2 e=>?_,fun b hb2=>(kk.tags b hb2).trans (hO4 b hb2)⟩
       rw[hO4 b hb2]at e;simp at e)
     clear hr4 hN4 hb4 hO4 hx hxb hnn;go_wp2_with (first
      | (go_at_call 177;refine HIx.o.mono ?_;rintro e w3 ⟨rfl,rfl⟩)
      | (at_builtin;refine qf _ rfl _ _ _ rfl 3 iI _ 1 8 hu64 hi bZ hsI cZ rfl (by decide) o4 (55,0) _ _ _ rfl HRn.o ⟨wr.1.size,0,none⟩ 1 1 [I Z (fe R x)] rfl rfl (qv (An.new wr _ _)) jd dB hmb ?_;intro v8 w8 hown hst;have HF:=Qa (HX.o w8 _ v8 hown hst);clear hown hst)
      | fail)
     obtain⟨hw1,hw2⟩:=HW.o;go_wp2_with fail;go_roundw
     case rel=>exact⟨j+1,_,by simp,hlt,HF.o⟩
     case measure=>clear hw1 hw2 dB hmb;simp[intOf];omega
    ·obtain rfl:j=n:=by omega
     rw[HN.o,aa,<-HN.o]at hr4;have HX:=Qa (Ad hN4 (Ad hr4 (Ad (qd HB1.o hb4) (show Old w.1.size o4 from fun b hb=>hO4 b (Qn hb HB1.o.size)))));clear hN4 hr4 hb4 hO4;go_wp2_with fail;go_ret3;exact⟨_,_,o4,rfl,HX.o⟩
end
end
section
open Go.RowKit Hp
attribute [local go_sem ↓] Go.wp_at_zero Go.wp_at_succ
structure Ea (w:Aa)(g off:Nat)(l:List Nat)(c:Nat):Prop where
 cap:l.length<=c
 lt:g<w.1.size
 at':∀ (j x:Nat),l[j]?=some x->w.cell? ⟨g,off+j,none⟩=some (nv x)
def Ea.Ar {T:Tag->Prop}{w w':Aa}{o o':Own}{g off c:Nat}{l:List Nat}(h:Ea w g off l c)(hs:Stp T o o' w w')(ht:¬T (o g)):Ea w' g off l c:=
 ⟨h.cap,Qn h.lt hs.size,fun j x hj=>by
  have:=hs.block g h.lt ht;rw[<-h.at' j x hj];simp only[World.cell?,this]⟩
def Ea.below {w w':Aa} {g off c:Nat} {l:List Nat} (h:Ea w g off l c) (hb:Ae w.1.size w w'):Ea w' g off l c:=h.Ar (o:=EK) (o':=EK) (T:=fun _=>False) (Stp.of_below hb) fun h=>h
def Ea.drop {w:Aa}{g off c:Nat}{l:List Nat}(h:Ea w g off l c){n:Nat}(hn:n<=l.length) :
  ∃ off',(if c=n then some (⟨g,off,none⟩:Addr) else some ⟨g,off+n,none⟩)=some ⟨g,off',none⟩/\Ea w g off' (l.drop n) (c-n):=by
 by_cases hc:c=n
 ·refine⟨off,if_pos hc,by rw[Aj];have:=h.cap;omega,h.lt,fun j x hj=>?_⟩
  have h1:=h.cap;rw[List.drop_eq_nil_of_le (by omega)]at hj
  simp at hj
 ·refine⟨off+n,if_neg hc,by rw[Aj];have:=h.cap;omega,h.lt,fun j x hj=>?_⟩
  rw[aD]at hj;rw[Nat.add_assoc];exact h.at' (n+j) x hj
def Ea.take {w:Aa}{g off c:Nat}{l:List Nat}(h:Ea w g off l c){n:Nat}(hn:n<=l.length):Ea w g off (l.take n) c:=
 ⟨by rw[Qp];have:=h.cap;omega,h.lt,fun j x hj=>by
  rw[Qz]at hj;split at hj
  ·exact h.at' j x hj
  ·cases hj⟩
def Ea.QN {T:Tag->Prop}{w:Aa}{o:Own}{g off c:Nat}{l:List Nat}(h:Ea w g off l c)(ht:¬T (o g)):M1 T w o (Ai (some ⟨g,off,none⟩) l.length c) l:=
 ⟨_,_,rfl,fun j x hj=>⟨g,off,rfl,h.lt,ht,h.at' j x hj⟩⟩
section
variable {w w' : Aa} {o o' : Own} {y : Bj} {S : Am} {i : Nat}
def Av.FH (h:Av w o y S){H':Hp}{n:Nat}{T:Tag->Prop}(hH:BX w' o' y.l H')(hc:An w' y.cy (XQ y (FN y.cy n)) 201)(hs:Stp T o o' w w')(hn:∀ j,10<=j->¬T (y.l.id,j)):Av w' o' y { S with H:=H',ph:=n }:=by
 obtain⟨vq,vl,vm,hb,hr⟩:=h.A2;have hr':=hr.Ar hs fun j _ _=>hn j (by omega)
 exact⟨⟨vq,vl,vm,hb.Ar hs (by rw[h.os];exact hn _ (by omega)),hr'.1,hr'.2,hr'.3⟩,hc,hH,h.ck.Ar hs (by rw[h.oc];exact hn _ (by omega)),h.Ev.Ar hs (hn _ (by omega)),fun i x hx=>(h.Au i x hx).Ar hs fun j _=>hn _ (by omega),(hs.tags _ h.ck.lt).trans h.oc,(hs.tags _ h.lt).trans h.os,(hs.tags _ h.cy.lt).trans h.oy⟩
def Tx.EH (x:Tx)(ps:List Nat):Tx:={ x with log:=x.log.put ps }
def Tx.J5 (x:Tx)(ps:List Nat):Tx:={ x with AZ:=ks x.AZ ps }
def Yx (h:Av w o y S)(hk:(S.t i).log.fit)(hi:i<S.Au.length){g off c:Nat}{ps:List Nat}(hv:Ea w g off ps c)(hg:(o g).1≠y.l.id)(hn:ps.length=(S.t i).log.roots.length) :
  Ab AId 66 #[ptr (y.lb i),Ai (some ⟨g,off,none⟩) ps.length c] w fun e w'=>e=O (.bool true)/\∃ o',Av w' o' y (S.tx i ((S.t i).EH ps))/\Stp (rv y.l.id (17+8*i)) o o' w w':=by
 have hx:=h.Au i _ (Am.AV hi);obtain⟨vr,vk,vh,vu,hl⟩:=hx.log;obtain⟨vt,hb,hr⟩:=hx.A2;refine (YP hl hk (hv.QN fun ht=>hg ht.1) hn).mono ?_
 rintro e w' ⟨rfl,o',hl',hs⟩
 have ht:∀ t,rv y.l.id (17+8*i) t->uo y i t:=fun t ⟨h1,h2,h3⟩=>⟨h1,by omega,by omega⟩
 have n0:¬rv y.l.id (17+8*i) (y.l.id,16+8*i):=fun hh=>by have:=hh.2.1;simp only at this;omega
 have n6:¬rv y.l.id (17+8*i) (y.l.id,22+8*i):=fun hh=>by have:=hh.2.2;simp only at this;omega
 exact⟨rfl,o',h.tx (x':=(S.t i).EH ps) ⟨⟨vt,hb.Ar hs (by rw[hx.ob];exact n0),hr.Ar hs n6⟩,⟨vr,vk,vh,vu,hl'⟩,(hs.tags _ hb.lt).trans hx.ob⟩ (hs.mono ht),hs⟩
def qk5 (h:Av w o y S)(hi:i<S.Au.length){g off c:Nat}{ps:List Nat}(hv:Ea w g off ps c)(hg:(o g).1≠y.l.id)(hn:(S.t i).AZ.length<=ps.length)(hq:(S.t i).AZ.length<=1099511627776) :
  ∃ dW pt ct,An w (y.xb i) (zg i (S.t i) (y.lb i) (.slice pt (S.t i).AZ.length ct)) 107/\Ea w g dW (ps.drop (S.t i).AZ.length) (c-(S.t i).AZ.length) /\
  Ab AId 64 #[.slice pt (S.t i).AZ.length ct,Ai (some ⟨g,off,none⟩) ps.length c] w fun e w'=>e=O (Ai (some ⟨g,dW,none⟩) (ps.length-(S.t i).AZ.length) (c-(S.t i).AZ.length)) /\
   Av w' o y (S.tx i ((S.t i).J5 ps))/\Stp (fun t=>t=(y.l.id,22+8*i)) o o w w':=by
 have hx:=h.Au i _ (Am.AV hi);obtain⟨vr,vk,vh,vu,hl⟩:=hx.log;obtain⟨vt,hb,hr⟩:=hx.A2;obtain⟨pt,ct,rfl⟩:=hr.A5;obtain⟨dW,hoff,hd⟩:=hv.drop hn;refine⟨dW,pt,ct,hb,hd,(VW hr hn hq hv.cap hv.at' hv.lt fun e=>hg (by rw[e])).mono ?_⟩
 rintro e w' ⟨rfl,hr',hs⟩
 rw[hoff];have ht:∀ t,t=(y.l.id,22+8*i)->uo y i t:=fun t e=>by rw[e];exact⟨rfl,by simp only;omega,by simp only;omega⟩
 refine⟨rfl,h.tx (x':=(S.t i).J5 ps) ⟨⟨_,hb.Ar hs (by rw[hx.ob];simp),?_⟩,⟨vr,vk,vh,vu,hl.Ar hs fun j hj=>by simp;omega⟩,(hs.tags _ hb.lt).trans hx.ob⟩ (hs.mono ht),hs⟩
 show Row w' o _ _ 2 _ (ks (S.t i).AZ ps).length (qg (ks (S.t i).AZ ps));rw[fz];exact hr'
def YN (h:Av w o y S){g off c:Nat}{ps:List Nat}(hv:Ea w g off ps c)(hg:(o g).1≠y.l.id)(hn:S.queue.length<=ps.length)(hq:S.queue.length<=1099511627776) :
  ∃ dW pt ct vl vm,An w y.sb (qk y S (.slice pt S.queue.length ct) vl vm) 101/\Ea w g dW (ps.drop S.queue.length) (c-S.queue.length) /\
  Ab AId 64 #[.slice pt S.queue.length ct,Ai (some ⟨g,off,none⟩) ps.length c] w fun e w'=>e=O (Ai (some ⟨g,dW,none⟩) (ps.length-S.queue.length) (c-S.queue.length)) /\
   Av w' o y { S with queue:=ks S.queue ps }/\Stp (fun t=>t=(y.l.id,13)) o o w w':=by
 obtain⟨vq,vl,vm,hb,hr⟩:=h.A2;have hrq:=hr.q;obtain⟨pt,ct,rfl⟩:=hrq.A5;obtain⟨dW,hoff,hd⟩:=hv.drop hn;refine⟨dW,pt,ct,vl,vm,hb,hd,(VW hrq hn hq hv.cap hv.at' hv.lt fun e=>hg (by rw[e])).mono ?_⟩
 rintro e w' ⟨rfl,hr',hs⟩
 rw[hoff];have ht:∀ t,t=(y.l.id,13)->ka y t:=fun t e=>by rw[e];exact⟨rfl,.inr (.inl rfl)⟩
 refine⟨rfl,h.own (S':={ S with queue:=ks S.queue ps }) rfl rfl rfl rfl rfl (vq:=.slice pt S.queue.length ct) (hb.Ar hs (by rw[h.os];simp)) ⟨?_,hr.l.Ar hs (by simp),hr.m.Ar hs (by simp)⟩ (hs.mono ht),hs⟩
 show Row w' o _ _ 2 _ (ks S.queue ps).length (qg (ks S.queue ps));rw[fz];exact hr'
def Am.upto (S:Am)(g:Nat->Nat)(k:Nat):Am:={ S with queue:=CQ g S.queue,Au:=(S.Au.take k).map (Tx.at' g)++S.Au.drop k }
def Rx (S:Am)(g:Nat->Nat)(k:Nat):(S.upto g k).Au.length=S.Au.length:=by
 unfold Am.upto;simp only[Qd,Qg,Qp,Aj];omega
def KM (S:Am)(g:Nat->Nat){k:Nat}(hk:k<S.Au.length):(S.upto g k).t k=S.t k:=by
 have e:((S.Au.take k).map (Tx.at' g)).length=k:=by rw[Qg,Qp];omega
 unfold Am.t Am.upto;simp only[Qi];rw[Ql (by omega),e,aG,aD,Nat.add_zero]
def qps (S:Am)(g:Nat->Nat):S.upto g 0={ S with queue:=CQ g S.queue }:=by unfold Am.upto;simp
def KL (S:Am)(g:Nat->Nat):S.upto g S.Au.length=S.at' g:=by unfold Am.upto Am.at';rw[aa,List.drop_length,List.append_nil]
def qo2 (S:Am)(g:Nat->Nat){k:Nat}(hk:k<S.Au.length):S.upto g (k+1)=(S.upto g k).tx k ((S.t k).at' g):=by
 have e:((S.Au.take k).map (Tx.at' g)).length=k:=by rw[Qg,Qp];omega
 have e2:S.Au.drop k=S.t k::S.Au.drop (k+1):=by rw[aB hk];congr 1;have:=Am.AV hk;rw[Qb hk]at this;injection this
 unfold Am.tx Am.upto;congr 1;simp only;rw[e2,List.set_append_right _ _ (by omega),e,aG,aj,af,Am.AV hk,Qw,ay]
 rfl
def GR (x:Tx)(g:Nat->Nat)(l:List Nat):((x.EH (x.log.roots.map g)).J5 ((x.AZ.map (·.1)).map g++l))=x.at' g:=by
 unfold Tx.EH Tx.J5 Tx.at';simp only[Xl,RJ]
def FR (ts:List Tx)(k:Nat):List Nat:=(ts.drop k).flatMap Tx.places
def KG {S:Am}{k:Nat}(hk:k<S.Au.length):FR S.Au k=(S.t k).log.roots++((S.t k).AZ.map (·.1)++FR S.Au (k+1)):=by
 have e2:S.Au.drop k=S.t k::S.Au.drop (k+1):=by rw[aB hk];congr 1;have:=Am.AV hk;rw[Qb hk]at this;injection this
 unfold FR;rw[e2,List.flatMap_cons];unfold Tx.places;rw[ay]
end
def Wt (o:Own):∀ n:Nat,∃ N,∀ b,b<n->(o b).1<N
 | 0=>⟨0,fun b h=>by omega⟩
 | n+1=>by
  obtain⟨N,hN⟩:=Wt o n;refine⟨N+(o n).1+1,fun b hb=>?_⟩;by_cases h:b=n
  ·rw[h];omega
  ·have:=hN b (by omega);omega
def Stp.shrink {T U:Tag->Prop}{o o':Own}{w w':Aa}(h:Stp U o o' w w')(ht:∀ b,b<w.1.size->U (o b)->T (o b)):Stp T o o' w w':=
 ⟨h.os,h.tape,h.output,h.size,h.tags,fun b hb hn=>h.block b hb fun hu=>hn (ht b hb hu)⟩
def Row.takeN {w:Aa}{o:Own}{t:Tag}{e:TypeId}{g n cap:Nat}{xs:List Ac}(h:Row w o t e 1 (Ai (some ⟨g,0,none⟩) n cap) n xs){k:Nat}(hk:k<=n):Row w o t e 1 (Ai (some ⟨g,0,none⟩) k cap) k (xs.take k):=by
 refine⟨?_,h.tag⟩;have h1:=h.own.1;rcases h.own.2 with ⟨h',_⟩|⟨g',cap',cur,h',hb,hg,hn,hc,hs,ht⟩
 ·simp at h'
 ·simp only[Value.slice.injEq,Zc,Addr.mk.injEq,and_true,true_and]at h'
  obtain⟨rfl,rfl⟩:=h';refine⟨by rw[Qp];omega,.inr ⟨g,cap,cur,rfl,hb,hg,by omega,hc,hs,?_⟩⟩
  rw[<-ht,List.take_take];congr 1;omega
def Row.UG {w:Aa}{o:Own}{t:Tag}{e:TypeId}{g cap:Nat}{l:List Nat}(h:Row w o t e 1 (Ai (some ⟨g,0,none⟩) l.length cap) l.length (l.map nv)):Ea w g 0 l cap:=by
 rcases h.shape with ⟨h',_⟩|⟨g',cap',h',hn,_⟩
 ·simp at h'
 ·simp only[Value.slice.injEq,Zc,Addr.mk.injEq,and_true,true_and]at h'
  obtain⟨rfl,rfl⟩:=h';exact⟨hn,h.blt,fun j x hj=>by rw[aH];exact h.cells j _ (by rw[Qj,hj];rfl)⟩
section
variable {w w' : Aa} {o o' : Own} {y : Bj} {S : Am} {i : Nat}
def Av.Hc (h:Av w o y S):DJ w o y.l y.cy S.ph [] []:=⟨⟨_,_,h.cy,Row.nil _ _ _ _ _,Row.nil _ _ _ _ _⟩,h.oy⟩
def YJ (h:Av w o y S)(hk:S.ok)(h0:S.ph≠0)(a:Option Addr)(n c:Nat) :
  Ab AId 18 #[ptr y.sb,.slice a n c] w fun e w'=>e=O (Ak #[Ai none 0 0,.bool false])/\w=w':=by
 have HL:=Qa (py h.Hc hk.ph.1);rw[decide_eq_true h0]at HL;obtain⟨vq,vl,vm,jb,_⟩:=h.A2;unfold qk at jb;have c':=jb.cell;clear h hk h0;go_in;go_wp2_with fail;refine HL.o.mono ?_
 rintro e w1⟨rfl,rfl⟩
 go_wp2_with fail;go_ret2;exact⟨rfl,rfl⟩
def ue (H:Hp)(r:Nat):Bool:=decide (r=0)||(lk H.cur r).isSome
def qkb (h:Av w o y S)(hk:S.ok)(h0:S.ph=0){v:Ac}{ps:List Nat}{ta:Tag}(hv:Row w o ta 3 1 v ps.length (ps.map nv))(hp:ps.length<=100000)(hb:ps.all (ue S.H)=false) :
  Ab AId 18 #[ptr y.sb,v] w fun e w'=>e=O (Ak #[Ai none 0 0,.bool false])/\Ae w.1.size w w':=by
 have HL:=Qa (py h.Hc hk.ph.1);rw[show decide (S.ph≠0)=false from by rw[h0];rfl]at HL
 have HH:=Qa (fun (w2:Aa)(hb:Ae w.1.size w w2)(p:Nat)=>Q5 (h.below hb) hk p)
 obtain⟨vq,vl,vm,jb,_⟩:=h.A2;unfold qk at jb;obtain⟨pv,cv,rfl⟩:=hv.A5;have HV:=Qa hv;have HJ:=Qa jb;have HB:=Qa hb;obtain⟨H,hHe⟩:=Ja0 S.H;rw[<-hHe]at HH HB;obtain⟨n,hn⟩:=Ja0 ps.length;rw[<-hn]at HV hp ⊢;have HN:=Qa hn;have c':=jb.cell;generalize S.next=N at *;generalize S.Aw=N1 at *;generalize S.version=N2 at *;clear h hk h0 hv hb jb hHe hn;go_in;go_wp2_with fail;refine HL.o.mono ?_
 rintro e w1 ⟨rfl,rfl⟩
 go_wp2_with fail;clear c';go_loopw [25](fun ix wr=>∃ k:Nat,ix=I Z k/\k<=n/\(ps.take k).all (ue H)=true/\Ae w.1.size w wr)(fun ix _=>n-(intOf ix).toNat)
 case atStart=>exact⟨0,rfl,ag _,rfl,qc w⟩
 case round =>
  obtain⟨k,rfl,hkn,hall,hb⟩:=hrel;obtain⟨wo,rfl⟩:=Ja0 wr;have c':=(HJ.o.below hb HJ.o.lt).cell;by_cases hlt:k<n
  ·have eO:(k:Int)<(n:Int):=by omega
   obtain⟨x,hx⟩:∃ x,ps[k]?=some x:=⟨_,Qb (by rw[<-HN.o];exact hlt)⟩
   obtain⟨g,cap,e,hcell⟩:∃ g cap,Value.slice pv n cv=Ai (some ⟨g,0,none⟩) n cap/\wo.cell? ⟨g,k,none⟩=some (I Z x):=by
    rcases (HV.o.below hb).form with ⟨_,h0⟩|⟨g,cap,e,_⟩
    ·omega
    ·injection e with e1 _ e3
     subst e1 e3;exact⟨g,cv,rfl,(HV.o.below hb).cells k _ (by rw[Qj,hx];rfl)⟩
   injection e with e1 _ e3;subst e1 e3;have htk:(ps.take (k+1)).all (ue H)=((ps.take k).all (ue H)&&ue H x):=by rw[af,hx,List.all_append];simp
   have nV:=Qa htk;have HC:=Qa (HH.o wo hb x);have HAL:=Qa hall;obtain⟨hw1,hw2⟩:=za k (by omega)
   by_cases hx0:x=0
   ·subst hx0
    have hxb:(((0:Nat):Int) != 0)=false:=rfl;clear hx hall htk;go_wp2_with fail;go_roundw
    case rel=>exact⟨k+1,by simp,by omega,by rw[nV.o,HAL.o];rfl,hb⟩
    case measure=>simp[intOf];omega
   ·have hxb:((x:Int) != 0)=true:=by rw[bne_iff_ne];omega
    cases hs:(lk H.cur x).isSome with
    | true =>
     rw[hs]at HC;have hro:ue H x=true:=by unfold ue;rw[hs,Bool.or_true]
     have HRO:=Qa hro;clear hx hall htk hs hx0 hro;go_wp2_with fail;refine HC.o.mono ?_;rintro e w3 ⟨rfl,hb3⟩;go_wp2_with fail;go_roundw
     case rel=>exact⟨k+1,by simp,by omega,by rw[nV.o,HAL.o,HRO.o];rfl,qd hb hb3⟩
     case measure=>simp[intOf];omega
    | false =>
     rw[hs]at HC;clear hx hall htk hs hx0;go_wp2_with fail;refine HC.o.mono ?_;rintro e w3 ⟨rfl,hb3⟩;go_wp2_with fail;go_ret2;exact⟨rfl,qd hb hb3⟩
  ·exfalso
   have h1:k=n:=by omega
   rw[h1,HN.o,aa]at hall;have:=HB.o;rw[hall]at this
   cases this
end
section
variable {w w' : Aa} {o o' : Own} {y : Bj} {S : Am} {i : Nat}
def qmm (h0:Av w o y S)(hk:S.ok){v:Ac}{ps:List Nat}{ta:Tag}(hv:Row w o ta 3 1 v ps.length (ps.map nv))(hp:ps.length<=100000)(hp1:1<=ps.length)(hm:S.may ps=true) :
  Ab AId 18 #[ptr y.sb,v] w fun e w'=>∃ v' o',e=O (Ak #[v',.bool true])/\Av w' o' y ((S.begun ps).at' (S.begun ps).H.now)/\Row w' o' (y.l.id+1,0) 3 1 v' ps.length ((ps.map (S.begun ps).H.now).map nv)/\Stp (qh y) o o' w w':=by
 have qR:S.ph=0:=Ur hm;have hall:ps.all (ue S.H)=true:=by unfold Am.may at hm;simp only[Bool.and_eq_true]at hm;exact hm.2
 have hmv:S.H.AL=false:=hk.ph.2.1 qR;obtain⟨NN,hNN⟩:=Wt o w.1.size;have Aby:y.l.id<NN:=by have:=hNN _ h0.lt;rw[h0.os]at this;exact this
 have h:=h0;have HL:=Qa (py h.Hc hk.ph.1);rw[show decide (S.ph≠0)=false from by rw[qR];rfl]at HL
 have HH:=Qa (fun (w2:Aa)(hb:Ae w.1.size w w2)(p:Nat)=>Q5 (h.below hb) hk p)
 obtain⟨vq,vl,vm,jb,_⟩:=h.A2;unfold qk at jb;obtain⟨pv,cv,rfl⟩:=hv.A5;have HV:=Qa hv;have HJ:=Qa jb;have Aah:=Qa hall;have HP0:=Qa (fun (w2:Aa)(hb:Ae w.1.size w w2)=>U4 (h.below hb) hk (hv.below hb) hp)
 have HST:=Qa (fun (W w3:Aa)(hW:Ae w.1.size w W)(hb3:Ae W.1.size W w3)(v3:Ac)(hr3:Row w3 (fo W.1.size) (1,0) 3 1 v3 (S.places ps).length ((S.places ps).map nv)) =>
  show Ab AId 62 #[ptr y.cy,v3] w3 fun e w4=>∃ v4 o4,e=O (Ak #[v4,.bool true])/\Av w4 o4 y (S.begun ps)/\Row w4 o4 (NN,1) 3 1 v4 (S.places ps).length (((S.places ps).map (S.begun ps).H.now).map nv)/\Stp (qh y) o o4 w w4 from by
   have dC:Av w3 (ext o W.1.size (NN,0)) y S:=((h.below hW).retag fun b hb=>qj hb).below hb3;have hpl:=Vy hk ps;have hn2:=hk.KZ;refine (qph dC.hp hk.H hmv (by have:=dC.cy;rw[qR]at this;exact this) dC.oy (hr3.out o (NN,0)) (by omega) (NN,1) (fun e=>by have:=e.1;simp only at this;omega) (fun e=>by have:=e.1;simp only at this;omega) (by simp)).mono ?_
   rintro e w4 ⟨v4,o4,rfl,hH4,hc4,hr4,hs4⟩;have s3:Stp (fun _=>False) o (ext o W.1.size (NN,0)) w w3:=(Stp.of_below (qd hW hb3)).ext _ _ hW.size;have dX:Av w4 o4 y { S with H:=(S.H.flip.Ay (S.places ps)).1,ph:=1 }:=dC.FH hH4 hc4 hs4 fun j hj e=>by
    rcases e with e|e
    ·have:=e.2;simp only at this;omega
    ·have:=congrArg Prod.fst e;simp only at this;omega
   refine⟨v4,o4,rfl,dX,?_,((s3.mono fun _ h=>h.elim).trans hs4).shrink fun b hb e=>?_⟩
   ·have e:(S.H.flip.Ay (S.places ps)).2=(S.places ps).map (S.begun ps).H.now:=si (S.places ps) S.H.flip
    rw[<-e];exact hr4
   ·rcases e with e|e
    ·exact e.1
    ·exfalso;have:=hNN b hb;rw[e]at this;exact Nat.lt_irrefl _ this)
 obtain⟨n,hn⟩:=Ja0 ps.length;rw[<-hn]at HV HP0;have HN:=Qa hn;have HK:=Qa hk;have mI:=Qa (Am.Eu hk qR ps);have qZ:=Qa Aby;obtain⟨H,hHe⟩:=Ja0 S.H;rw[<-hHe]at HH Aah;have c':=jb.cell;have hn1:n<=100000:=by omega
 have hn2:1<=n:=by omega
 rw[<-hn];generalize S.next=N at *;generalize S.Aw=N1 at *;generalize S.version=N2 at *;clear h h0 hk qR hv hp hp1 hm hall hmv hNN jb hHe hn Aby;go_in;go_wp2_with fail;refine HL.o.mono ?_
 rintro e w1 ⟨rfl,rfl⟩
 go_wp2_with fail;clear c';go_loopw [25] (fun ix wr=>∃ k:Nat,ix=I Z k/\k<=n/\Ae w.1.size w wr) (fun ix _=>n-(intOf ix).toNat)
 case atStart=>exact⟨0,rfl,ag _,qc w⟩
 case round =>
  obtain⟨k,rfl,hkn,hb⟩:=hrel;obtain⟨wo,rfl⟩:=Ja0 wr;have jo:=HJ.o.below hb HJ.o.lt;have c':=jo.cell;by_cases hlt:k<n
  ·have eO:(k:Int)<(n:Int):=by omega
   obtain⟨x,hx⟩:∃ x,ps[k]?=some x:=⟨_,Qb (by rw[<-HN.o];exact hlt)⟩
   obtain⟨g,cap,e,hcell⟩:∃ g cap,Value.slice pv n cv=Ai (some ⟨g,0,none⟩) n cap/\wo.cell? ⟨g,k,none⟩=some (I Z x):=by
    rcases (HV.o.below hb).form with ⟨_,h0⟩|⟨g,cap,e,_⟩
    ·omega
    ·injection e with e1 _ e3
     subst e1 e3;exact⟨g,cv,rfl,(HV.o.below hb).cells k _ (by rw[Qj,hx];rfl)⟩
   injection e with e1 _ e3;subst e1 e3;have hro:=List.all_eq_true.1 Aah.o x (Qe hx);have HC:=Qa (HH.o wo hb x);obtain⟨hw1,hw2⟩:=za k (by omega)
   by_cases hx0:x=0
   ·subst hx0
    have hxb:(((0:Nat):Int) != 0)=false:=rfl;clear hx hro jo;go_wp2_with fail;go_roundw
    case rel=>exact⟨k+1,by simp,by omega,hb⟩
    case measure=>simp[intOf];omega
   ·have hxb:((x:Int) != 0)=true:=by rw[bne_iff_ne];omega
    have hs:(lk H.cur x).isSome=true:=by unfold ue at hro;rw[decide_eq_false hx0,Bool.false_or]at hro;exact hro
    rw[hs]at HC;clear hx hro hs hx0 jo;go_wp2_with fail;refine HC.o.mono ?_;rintro e w3 ⟨rfl,hb3⟩;go_wp2_with fail;go_roundw
    case rel=>exact⟨k+1,by simp,by omega,qd hb hb3⟩
    case measure=>simp[intOf];omega
  ·obtain rfl:k=n:=by omega
   have HB:=Qa hb;have rD:=Qa (HP0.o wo.drew (qe hb));have cb:wo.cell? ⟨y.sb,1,none⟩=some (ptr y.cy):=jo.cell 1;clear hb hlt c' hkn;go_upto_region 9 with fail;go_region_held3 (fun w'=>w'.cell? ⟨y.sb,1,none⟩=some (ptr y.cy)) (first|with_reducible assumption|go_keep) (first
    | (go_at_call 51;refine rD.o.mono ?_;rintro e w3 ⟨v3,rfl,hr3,hb3⟩;have wN:=((qi jo).below hb3 jo.lt).cell 1)
    | (go_at_call 62;refine (HST.o _ _ (qe HB.o) hb3 _ hr3).mono ?_;rintro e w4 ⟨v4,o4,rfl,dX,hr4,hs4⟩;have yS:w4.cell? ⟨y.sb,1,none⟩=some (ptr y.cy):=by { obtain⟨_,_,_,j4,_⟩:=dX.A2;exact j4.cell 1 })
    | fail)
   obtain⟨ms,hms⟩:=Ja0 ((S.places ps).map (S.begun ps).H.now);obtain⟨L,hL⟩:=Ja0 ((S.places ps).length);have zD:ms.length=L:=by rw[hms,hL,Qg]
   have hkL:k<=L:=by rw[hL,HN.o];unfold Am.places;simp only[Qd];omega
   rw[<-hms,<-hL]at hr4;obtain⟨g,cap,rfl,hcap⟩:∃ g cap,v4=Ai (some ⟨g,0,none⟩) L cap/\L<=cap:=by
    rcases hr4.shape with ⟨_,h0⟩|⟨g,cap,e,hc,_⟩
    ·omega
    ·exact⟨g,cap,e,hc⟩
   have Acv:=hr4.shape;have P4:Ea w4 g 0 ms cap:=by rw[<-zD]at hr4;exact hr4.UG
   have hgt:o4 g=(NN,1):=hr4.EG;have HCl:=Qa (S9 (hr4.takeN hkL) (by omega) (fun u hu=>rz ms u (List.mem_of_mem_take hu)) (y.l.id+1,0))
   have HS4:=Qa dX;have Aiy:=Qa hs4;have HMS:=Qa hms;have HLL:=Qa hL;have HLM:=Qa zD;have HKL:=Qa hkL;have hcL:(L:Int)<=(cap:Int):=by omega
   have eO:(k:Int)<=(L:Int):=by omega
   have hkc:(k:Int)<=(cap:Int):=by omega
   have hk0:(0:Int)<=(k:Int):=by omega
   have hnx:=mI.o.qu;have hnx2:=mI.o.KZ;have Adr:(S.begun ps).queue.length<=1099511627776:=by omega
   obtain⟨q1,hq1,P5⟩:=P4.drop (n:=k) (by rw[zD];exact hkL)
   simp only[aH]at hq1;have hlq:(S.begun ps).queue.length<=(ms.drop k).length:=by
    rw[Aj,zD,hL,HN.o];unfold Am.places;simp only[Qd,Qg];have:(S.begun ps).queue=S.queue:=rfl;rw[this];omega
   have hdl:(ms.drop k).length=L-k:=by rw[Aj,zD]
   obtain⟨_,_,_,j4,_⟩:=dX.A2;unfold qk at j4;have c4:=j4.cell;have HPQ:=Qa (fun (w5:Aa)(hb5:Ae w4.1.size w4 w5)=>YN ((dX.retag (o':=ext o4 w4.1.size (y.l.id+1,0)) fun b hb=>qj hb).below hb5) (P5.below hb5) (by rw[qj P5.lt,hgt];have:=qZ.o;simp only;omega) hlq Adr)
   have HGT:=Qa (show (ext o4 w4.1.size (y.l.id+1,0)) g=(NN,1) from by rw[qj P5.lt];exact hgt)
   rw[hdl]at HPQ;clear hr4 hms hL zD hkL dX hs4 Acv jo cb wN yS hb3 hr3 hnx hnx2 Adr hlq hdl P4;go_wp2_with fail;refine HCl.o.mono ?_;rintro e w5 ⟨v5,rfl,eF,hb5⟩;obtain⟨p5,c5,rfl⟩:=eF.A5;obtain⟨q2,pt5,ct5,vl5,vm5,j5,P6,hC5⟩:=HPQ.o w5 hb5;have uJ:=Qa hC5;have HJ5:=Qa j5;unfold qk at j5;have cc5:=j5.cell;clear c4 j4 hC5 HPQ;go_wp2_with fail;refine uJ.o.mono ?_;rintro e w6 ⟨rfl,eX,hs6⟩;obtain⟨S1,hS1⟩:=Ja0 (S.begun ps);obtain⟨f,hf⟩:=Ja0 ((S.begun ps).H.now);have hdrop:ms.drop k=(S1.queue.map (·.1)).map f++(FR S1.Au 0).map f:=by
    have e:S.places ps=ps++(S1.queue.map (·.1)++FR S1.Au 0):=by rw[hS1];unfold Am.places FR;rw[List.drop_zero,ay];rfl
    rw[HMS.o,<-hf,e,Qw,aA (by rw[Qg];exact HN.o.symm),Qw]
   have hput:ks S1.queue (ms.drop k)=CQ f S1.queue:=by rw[hdrop,RJ]
   have kE:(ms.drop k).drop S1.queue.length=(FR S1.Au 0).map f:=by rw[hdrop,aA (by simp)]
   have pG:((FR S1.Au 0).map f).length=L-k-S1.queue.length:=by rw[<-kE,Aj,Aj,HLM.o]
   rw[<-hS1]at eX P6 mI;rw[<-hS1];rw[hput,<-qps]at eX;rw[kE]at P6;have hgn:¬(fun t=>t=(y.l.id,13)) ((ext o4 w4.1.size (y.l.id+1,0)) g):=by rw[HGT.o];simp
   have P7:=P6.Ar hs6 hgn;have eY:=eF.Ar hs6 (by simp)
   have hs7:Stp (qh y) o (ext o4 w4.1.size (y.l.id+1,0)) w w6:=(Aiy.o.trans ((Stp.of_below hb5).ext _ _ (Qk _))).trans (hs6.mono (by rintro _ rfl;exact rfl))
   obtain⟨gt,ct,vF,hct,sO⟩:=eX.Ew (by rw[Rx];exact mI.o.t1)
   rw[Rx]at vF hct sO;have Ayt:gt<w6.1.size:=by
    have h1:=eX.Ev;rw[vF]at h1;exact h1.blt
   obtain⟨_,_,_,j6,_⟩:=eX.A2;unfold qk at j6;rw[vF]at j6;have c6:=j6.cell;have h8:=mI.o.t8;have gK:=Qa hS1;have HF:=Qa hf;have HR6:=Qa eY;have HMM:QO (ms=(S.places ps).map (S.begun ps).H.now):=HMS.o;have HTH:=Qa (fun (w7:Aa)(o7:Own)(q:Nat)(h7:Av w7 o7 y (S1.upto f q))(t:Nat)(ht:t<S1.Au.length)=>show w7.cell? ⟨gt,t,none⟩=some (ptr (y.xb t)) from by
    obtain⟨g',c',e',h',_⟩:=h7.Ek t (by rw[Rx];exact ht)
    rw[vF]at e';injection e' with e1;injection e1 with e1;injection e1 with e1;rw[e1];exact h')
   obtain⟨qn,hqn⟩:=Ja0 S1.queue.length;rw[<-hqn]at pG P7 ⊢;generalize hN8:S1.Au.length=N8 at *;have HN8:=Qa hN8;have HL0:=Qa pG;have HX:=Qa (Ad eX (Ad P7 hs7));clear eX P6 P7 hs6 hs7 eF eY hb5 uJ HJ5 j5 cc5 hdrop hput kE hS1 hf hgn hct hqn hN8 pG HLL;clear P5 hq1;go_wp2_with fail;clear c6 j6;go_loopw [8,72] (fun vv ix wr=>∃ (j:Nat)(oo:Own)(off C:Nat)(R:List Nat),ix=I Z j/\j<=N8/\vv=Ai (some ⟨g,off,none⟩) R.length C/\R=(FR S1.Au j).map f/\Ea wr g off R C/\Av wr oo y (S1.upto f j)/\oo g=(NN,1)/\Row wr oo (y.l.id+1,0) 3 1 (.slice p5 k c5) k ((ms.map nv).take k)/\Stp (qh y) o oo w wr) (fun _ ix _=>N8-(intOf ix).toNat)
   case atStart=>exact⟨0,_,q2,_,_,rfl,ag _,by rw[HL0.o],rfl,HX.o.2.1,HX.o.1,HGT.o,HR6.o,HX.o.2.2⟩
   case round =>
    clear HX HR6 HGT;obtain⟨j,oo,off,C,R,rfl,hjn,rfl,hR,hP,hS,hgo,hrw,hst⟩:=hrel;obtain⟨wi,rfl⟩:=Ja0 wr;by_cases hj:j<N8
    ·have qO:(j:Int)<(N8:Int):=by omega
     have hj':j<S1.Au.length:=by rw[HN8.o];exact hj
     have hju:j<(S1.upto f j).Au.length:=by rw[Rx];exact hj'
     have ct0:=HTH.o wi oo j hS j hj;have hfit:(S1.t j).log.fit:=mI.o.Er hj';have hto:=mI.o;have htx:=hS.Au j _ (Am.AV hju);rw[KM S1 f hj']at htx;have hut:=KM S1 f hj';obtain⟨vr,vk,vh,vu,hl⟩:=htx.log;have mJ:=Qa (VB hl hfit);obtain⟨vt,jx,_⟩:=htx.A2;have hRs:R=(S1.t j).log.roots.map f++(((S1.t j).AZ.map (·.1)).map f++(FR S1.Au (j+1)).map f):=by rw[hR,KG hj',Qw,Qw]
     obtain⟨n1,hn1⟩:=Ja0 ((S1.t j).log.roots.length);obtain⟨n2,hn2⟩:=Ja0 ((S1.t j).AZ.length);have hRl:R.length=n1+(n2+((FR S1.Au (j+1)).map f).length):=by rw[hRs,hn1,hn2];simp only[Qd,Qg]
     have htk:R.take n1=(S1.t j).log.roots.map f:=by rw[hRs,hn1,aF (by simp)]
     have Gk:R.drop n1=((S1.t j).AZ.map (·.1)).map f++(FR S1.Au (j+1)).map f:=by rw[hRs,hn1,aA (by simp)]
     have hdd:(R.drop n1).drop n2=(FR S1.Au (j+1)).map f:=by rw[Gk,hn2,aA (by simp)]
     have hle1:n1<=R.length:=by omega
     have xI:(oo g).1≠y.l.id:=by rw[hgo];have:=qZ.o;simp only;omega
     have PT:=hP.take hle1;obtain⟨q3,hq3,PD⟩:=hP.drop hle1;have xS:(R.take n1).length=n1:=by rw[Qp];omega
     have hqj:(S1.t j).AZ.length<=1099511627776:=by
      have h1:=TL _ _ _ (Am.AV hj');have h2:=mI.o.qu;have h3:=mI.o.KZ;omega
     have HRp:=Qa (fun (w3:Aa)(hb3:Ae wi.1.size wi w3)=>show Ab AId 66 #[ptr (y.lb j),Ai (some ⟨g,off,none⟩) n1 C] w3 fun e w5=>e=O (.bool true) /\
       ∃ q4 pt ct,An w5 (y.xb j) #[j,.bool (S1.t j).live,I Z (S1.t j).start,I Z (S1.t j).seen,ptr (y.lb j),.slice pt n2 ct] 107 /\
       Ab AId 64 #[.slice pt n2 ct,Ai (some ⟨g,q3,none⟩) (R.length-n1) (C-n1)] w5.drew fun e w6=>e=O (Ai (some ⟨g,q4,none⟩) (R.length-n1-n2) (C-n1-n2)) /\
        ∃ o6,Ea w6 g q4 ((FR S1.Au (j+1)).map f) (C-n1-n2)/\Av w6 o6 y (S1.upto f (j+1))/\o6 g=(NN,1)/\Row w6 o6 (y.l.id+1,0) 3 1 (.slice p5 k c5) k ((ms.map nv).take k)/\Stp (qh y) o o6 w w6 from by
      have hr1:=Yx (hS.below hb3) (by rw[hut];exact hfit) hju (PT.below hb3) xI (by rw[hut,xS,hn1])
      rw[xS]at hr1;refine hr1.mono ?_;rintro e w5 ⟨rfl,o5,hS5,hs5⟩;rw[hut]at hS5;replace hS5:=hS5.below (qe (qc w5));have tJ:Stp (qh y) oo o5 wi w5.drew:=((Stp.of_below hb3).trans (hs5.mono fun _ h=>h.1)).drew;have hg5:o5 g=(NN,1):=(tJ.tags _ hP.lt).trans hgo;have PD5:=PD.Ar tJ xI;have h5t:((S1.upto f j).tx j ((S1.t j).EH (R.take n1))).t j=(S1.t j).EH (R.take n1):=Am.CZ hju _;have h5l:j<((S1.upto f j).tx j ((S1.t j).EH (R.take n1))).Au.length:=by rw[Am.Bu];exact hju
      have e2:(((S1.upto f j).tx j ((S1.t j).EH (R.take n1))).t j).AZ.length=n2:=by rw[h5t,hn2];rfl
      have Ada:(R.drop n1).length=R.length-n1:=by rw[Aj]
      obtain⟨q4,pt,ct,j5,P6,hC⟩:=qk5 hS5 h5l PD5 (by rw[hg5];have:=qZ.o;simp only;omega) (by rw[e2,Ada];omega) (by rw[e2,hn2];exact hqj)
      rw[e2]at j5 P6 hC;rw[Ada]at hC;rw[h5t]at j5 hC;refine⟨rfl,q4,pt,ct,j5,hC.mono ?_⟩;rintro e w6 ⟨rfl,eX,hs6⟩;have xO:Stp (qh y) o5 o5 w5.drew w6:=hs6.mono (by rintro _ rfl;exact rfl)
      rw[hdd]at P6;have e3:(((S1.upto f j).tx j ((S1.t j).EH (R.take n1))).tx j (((S1.t j).EH (R.take n1)).J5 (R.drop n1)))=S1.upto f (j+1):=by
       rw[Am.Ro,qo2 S1 f hj',htk,Gk,GR]
      rw[e3]at eX;refine⟨rfl,o5,P6.Ar xO (by rw[hg5];have:=qZ.o;intro e;have e:NN=y.l.id:=e;omega),eX,hg5,?_,(hst.trans tJ).trans xO⟩
      exact (hrw.Ar tJ (qo y)).Ar xO (qo y))
     have Alf:(n1:Int)<=(R.length:Int):=by omega
     have Ale:(n1:Int)<=(C:Int):=by have:=hP.cap;omega
     have hRC:(R.length:Int)<=(C:Int):=by have:=hP.cap;omega
     have Ald:(0:Int)<=(n1:Int):=by omega
     have Alw:=za j (by omega)
     have HL9:=Qa (show ((FR S1.Au (j+1)).map f).length=R.length-n1-n2 from by omega)
     unfold zg at jx;have HJX:=Qa jx;have cx:=jx.cell;rw[<-hn1]at mJ;obtain⟨hw1,hw2⟩:=Alw;generalize R.length=RL at *;clear hfit hto htx hut hl hRs hn1 hn2 hRl htk Gk hdd hle1 xI PT PD xS hqj hS hP hgo hrw hst hR hju;go_wp2_with fail;refine mJ.o.mono ?_;rintro e w3 ⟨v3,rfl,hr3,hb3⟩;obtain⟨p3,c3,rfl⟩:=hr3.A5;have Aaz:=Qa (HRp.o _ (qe hb3));have cx3:=(HJX.o.below hb3 HJX.o.lt).cell;clear hr3 cx HRp mJ ct0;go_upto_region 17 with fail;go_still_tail 7,(by kernel_rfl)
     change wpList _ _ _ _ _ w3.drew;go_wp2_with (first|(go_at_call 66;refine Aaz.o.mono ?_;rintro e w5 ⟨rfl,q4,pt,ct9,j5,hC⟩)|fail)
     have HC9:=Qa hC;have cx5:=j5.cell;clear hC cx3 Aaz;go_upto_region 18 with fail;go_still_tail 7,(by kernel_rfl)
     change wpList _ _ _ _ _ w5.drew;go_wp2_with (first|(go_at_call 64;refine HC9.o.mono ?_;rintro e w6 ⟨rfl,o6,hP6,eX,zJ,eY,hs6⟩)|fail)
     have HX6:=Qa (Ad hP6 (Ad eX (Ad zJ (Ad eY hs6))));clear hP6 eX zJ eY hs6 HC9 cx5 j5;go_roundw
     case rel=>exact⟨j+1,o6,q4,_,_,by simp,hj,by rw[HL9.o],rfl,HX6.o.1,HX6.o.2.1,HX6.o.2.2.1,HX6.o.2.2.2.1,HX6.o.2.2.2.2⟩
     case measure =>
      clear hw1 hw2 hcL eO hkc hk0 Alf Ale hRC Ald hn2 h8 sO qO hcap;simp[intOf];omega
    ·obtain rfl:j=N8:=by omega
     have hSf:Av wi oo y ((S.begun ps).at' (S.begun ps).H.now):=by
      rw[<-HN8.o,KL,gK.o,HF.o]at hS;exact hS
     have hrf:Row wi oo (y.l.id+1,0) 3 1 (.slice p5 k c5) k ((ps.map (S.begun ps).H.now).map nv):=by
      have e:(ms.map nv).take k=(ps.map (S.begun ps).H.now).map nv:=by
       rw[HMM.out];unfold Am.places;rw[Qw,Qw,Qw,Qw,ay,aF (by rw[Qg,Qg];exact HN.o.symm)]
      rw[<-e];exact hrw
     have HX7:=Qa (Ad hSf (Ad hrf hst));clear hS hP hgo hrw hst hR hSf hrf;go_wp2_with fail;go_ret2;exact⟨_,oo,rfl,HX7.o⟩
end
end
section
open Go.RowKit Hp
section
variable {w w' : Aa} {o o' : Own} {y : Bj} {S : Am}
def Yy (h:Av w o y S)(hk:S.ok){v:Ac}{ps:List Nat}{ta:Tag}(hv:Row w o ta 3 1 v ps.length (ps.map nv))(hp:ps.length<=100000)(hp1:1<=ps.length) :
  Ab AId 18 #[ptr y.sb,v] w fun e w'=>∃ v' o',e=O (Ak #[v',.bool (S.AP ps).2.2])/\Av w' o' y (S.AP ps).1/\Row w' o' (y.l.id+1,0) 3 1 v' (S.AP ps).2.1.length ((S.AP ps).2.1.map nv)/\Stp (qh y) o o' w w':=by
 unfold Am.AP;by_cases hm:S.may ps=true
 ·rw[if_pos hm]
  simp only[Qg];exact qmm h hk hv hp hp1 hm
 ·rw[if_neg hm]
  have fin:∀ w',Ae w.1.size w w'->∃ v' o',Ending.returned (Ak #[Ai none 0 0,.bool false])=O (Ak #[v',.bool false])/\Av w' o' y S/\Row w' o' (y.l.id+1,0) 3 1 v' ([]:List Nat).length (([]:List Nat).map nv)/\Stp (qh y) o o' w w':=
   fun w' hb=>⟨_,o,rfl,h.below hb,Row.nil _ _ _ _ _,Stp.of_below hb⟩
  by_cases h0:S.ph=0
  ·have hb:ps.all (ue S.H)=false:=by
    cases ha:ps.all (ue S.H) with
    | false=>rfl
    | true =>
     refine absurd ?_ hm;unfold Am.may;rw[decide_eq_true h0,Bool.true_and];exact ha
   refine (qkb h hk h0 hv hp hb).mono ?_;rintro e w'⟨rfl,hb⟩;exact fin w' hb
  ·obtain⟨pa,cp,rfl⟩:=hv.A5
   refine (YJ h hk h0 pa ps.length cp).mono ?_;rintro e w'⟨rfl,rfl⟩;exact fin w (qc w)
end
end
section
open Go.RowKit Hp
attribute [local go_sem ↓] Go.wp_at_zero Go.wp_at_succ
section
variable {w w' : Aa} {o o' : Own} {y : Bj} {S : Am} {i : Nat}
def NH (hk:S.ok):S.FH.ok/\S.FH.next+S.FH.H.final.length+S.Pu.length<=S.FH.H.Ap:=by
 obtain⟨h1,h2⟩:=ni hk;rw[Xm]at h1 h2;simp only at h1 h2;exact⟨⟨h1.H,h1.n2,h1.lv,h1.t1,h1.t8,h1.lg,h1.st,h1.ve,h1.ho,h1.sc,h1.so,h1.qu,h1.nx,h1.cm,h1.se,h1.ph⟩,h2⟩
def NI (hk:S.ok):S.H.A7.2.length<=1099511627776:=by
 have h1:=hk.H.fl;have h2:=hk.H.ok.Bc;unfold Hp.A7;split
 ·simp
 ·rw[ko]
  have:=kr S.H S.H.final;omega
def Ue (hk:S.ok):S.H.drop.2.1.length<=1099511627776:=by
 have h1:=hk.H.wl;have h2:=hk.H.ok.Bc;unfold Hp.drop;split
 ·simp
 ·have h3:=bw S.H.settled.AA S.H.settled
  have h4:S.H.settled.AA.length<=S.H.AA.length:=by show (S.H.stay S.H.AA).length<=_;have:=kr S.H S.H.AA;omega
  simp only;omega
def Kk (h:Av w o y S)(hk:S.ok) :
  Ab AId 67 #[ptr y.cy] w fun e w'=>e=O (.bool S.Cm.2)/\∃ o' vr vs,CI w' o' y S.FH vr vs S.Pu S.Jv/\Stp (qh y) o o' w w':=by
 rw[TO];simp only;have ho:=h.QU;by_cases h0:S.ph=0
 ·have e:ul S.H S.ph [] []=(S.H,0,[],[],false):=by unfold ul;rw[if_pos h0]
  have hc:=h.Hc;rw[h0]at hc;refine (ql9 hc).mono ?_;rintro e' w'⟨rfl,hb⟩;unfold Am.FH Am.Pu Am.Jv;rw[e];refine⟨rfl,o,Ai none 0 0,Ai none 0 0,?_,Stp.of_below hb⟩;have e2:({ S with H:=S.H,ph:=0 }:Am)=S:=by obtain⟨⟩:=S;simp only at h0;subst h0;rfl
  simp only;rw[e2];exact ho.below hb
 ·refine (Hb h.hp hk.H h.Hc (by have:=hk.ph.1;omega) (by simp) (NI hk) (by simp) (Ue hk)).mono ?_
  rintro e' w'⟨rfl,o',hH,hC,hs⟩;obtain⟨vr,vs,hb,h1,h2⟩:=hC.A2;exact⟨rfl,o',vr,vs,ho.FH hH hb h1 h2 hs,hs.mono fun _ h=>h.1⟩
end
def bz (y:Bj)(j:Nat)(h:j=11\/j=13\/j=14\/j=15):ka y (y.l.id,j):=⟨rfl,h⟩
def Y7 (S:Am)(p:Nat):(S.Bb p).next<=S.next+1:=by
 unfold Am.Bb;split
 ·exact Nat.le_succ _
 ·exact Qk _
def US:∀ (l:List Nat)(S:Am),(S.A8 l).next<=S.next+l.length
 | [],S=>Qk _
 | p::l,S=>by
  have h1:=Y7 S p;have h2:=US l (S.Bb p);show ((S.Bb p).A8 l).next<=_;rw[Qv];omega
def UR:∀ (l:List Nat)(S:Am),(S.A8 l).lost=S.lost
 | [],_=>rfl
 | p::l,S=>by
  show ((S.Bb p).A8 l).lost=_;rw[UR l (S.Bb p)];unfold Am.Bb;split<;>rfl
section
variable {w w' : Aa} {o o' : Own} {y : Bj} {S : Am} {i : Nat}
def qot (h0:Av w o y S) (hk:S.ok) (hl:S.lost.length<=1099511627776) :
  Ab AId 19 #[ptr y.sb] w fun e w'=>e=O (.bool S.Cm.2)/\BK y S.Cm.1 o w w':=by
 obtain⟨iI,hi,hsI,cZ,bZ⟩:=zh;obtain⟨iU,hiU,hsU,hyU,hzU⟩:=pm;have hu64:=underlying25;have huI:=underlying99;have HY:=Qa (Kk h0 hk);obtain⟨hk1,hk2⟩:=NH hk
 have hls:S.Jv.length<=1099511627776:=by
  unfold Am.Jv ul;split
  ·simp
  ·split
   ·simp
   ·split
    ·simp
    ·simp only[List.nil_append];exact Ue hk
 have hfin:=TO S;obtain⟨T,hT⟩:=Ja0 S.FH;obtain⟨rd,hrd⟩:=Ja0 S.Pu;obtain⟨ls,xJ⟩:=Ja0 S.Jv;obtain⟨b,hb⟩:=Ja0 S.Cm.2;have hTl:T.lost=S.lost:=by rw[hT];rfl
 rw[<-hT,<-hrd,<-xJ]at HY hfin;rw[<-hb]at HY ⊢;rw[<-hT]at hk1 hk2;rw[<-hrd]at hk2;rw[<-xJ]at hls;have hS1:S.Cm.1={ T.A8 rd with lost:=S.lost++ls }:=by rw[hfin]
 rw[hS1,<-hTl];rw[<-hTl]at hl;obtain⟨vq,vl,vm,jb,_⟩:=h0.A2;unfold qk at jb;have c:=jb.cell;have HK1:=Qa hk1;have HK2:=Qa hk2;have vX:=Qa hls;have HTl:=Qa hl;generalize S.next=N at *;generalize S.Aw=N1 at *;generalize S.version=N2 at *;clear h0 hk hl hT hrd xJ hb hTl hfin hk1 hk2 hls hS1 jb;go_in;go_wp2_with fail;refine HY.o.mono ?_
 rintro e w1 ⟨rfl,o1,vr,vs,rX,hs1⟩
 have HRd:=Qa (qpm rX.cb rX.oy rX.cr);obtain⟨vq1,vl1,vm1,j1,_⟩:=rX.A2;unfold qk at j1;clear c;have c:=j1.cell;have HC1:=Qa rX;have gK:=Qa hs1;clear rX hs1 HY;go_wp2_with fail;refine HRd.o.mono ?_
 rintro e w2 ⟨rfl,hr2,hb2,hs2⟩
 obtain⟨pr,cr,rfl⟩:=hr2.A5;have hC2:CI w2 o1 y T (Ai none 0 0) vs [] ls:=HC1.o.UE hb2 (Row.nil _ _ _ _ _) (HC1.o.cl.Ar hs2 (by simp)) hs2
 have Adu:Stp (qh y) o o1 w w2:=gK.o.trans (hs2.mono (by rintro _ rfl;exact rfl))
 obtain⟨n,hn⟩:=Ja0 rd.length;rw[<-hn]at hr2 ⊢;have HN:=Qa hn;have mY:n<=1099511627776:=by rw[hn];have:=HK2.o;have:=HK1.o.H.ok.Bc;omega
 have Aig:=Qa mY;have HX:=Qa (Ad hC2 (Ad hr2 Adu));clear hC2 hr2 Adu hs2 hb2 HC1 gK HRd c j1 hn mY;go_wp2_with fail;go_loopw [24] (fun ix wr=>∃ (k:Nat) (oo:Own),ix=I Z k/\k<=n/\CI wr oo y (T.A8 (rd.take k)) (Ai none 0 0) vs [] ls/\Row wr oo (y.l.id,8) 3 1 (.slice pr n cr) n (rd.map nv)/\Stp (qh y) o oo w wr) (fun ix _=>n-(intOf ix).toNat)
 case atStart=>exact⟨0,o1,rfl,ag _,HX.o⟩
 case round =>
  clear HX;obtain⟨k,oo,rfl,hkn,hC,hr,hs⟩:=hrel;obtain⟨wo,rfl⟩:=Ja0 wr;have hok:=bj (rd.take k) HK1.o (by rw[Qp];have:=HK2.o;omega)
  by_cases hlt:k<n
  ·have eO:(k:Int)<(n:Int):=by omega
   obtain⟨x,hx⟩:∃ x,rd[k]?=some x:=⟨_,Qb (by rw[<-HN.o];exact hlt)⟩
   have htk:=jt hx;have hst:T.A8 (rd.take (k+1))=(T.A8 (rd.take k)).Bb x:=by rw[htk];exact qjq _ _ _
   have hnx:(T.A8 (rd.take k)).next+1<=1099511627776/\(T.A8 (rd.take k)).came.length+1<=1099511627776:=by
    have h1:=US (rd.take k) T;have h2:=hok.1.cm;have h3:=HK2.o;have h4:=HK1.o.H.ok.Bc;rw[Qp]at h1;have h5:=HN.o;omega
   obtain⟨U,hU⟩:=Ja0 (T.A8 (rd.take k));rw[<-hU]at hC hok hst hnx;have HST:=Qa hst;obtain⟨g,cap,e,hcell⟩:∃ g cap,Value.slice pr n cr=Ai (some ⟨g,0,none⟩) n cap/\wo.cell? ⟨g,k,none⟩=some (I Z x):=by
    rcases hr.form with ⟨_,h0⟩|⟨g,cap,e,_⟩
    ·omega
    ·injection e with e1 _ e3
     subst e1 e3;exact⟨g,cr,rfl,hr.cells k _ (by rw[Qj,hx];rfl)⟩
   injection e with e1 _ e3;subst e1 e3;have kY:=Qa (GQ hC.hp hok.1.H.ok x);have HK:=Qa hok.1;obtain⟨vq,vl,vm,jb,hrw⟩:=hC.A2;unfold qk at jb;have hrq:=hrw.q;obtain⟨pq,cq,rfl⟩:=hrq.A5;have HJ:=Qa jb;have HW:=Qa hrw;have HC:=Qa hC;have HR:=Qa hr;have HS:=Qa hs;have HNX:=Qa hnx;have HKN:=Qa (za k (by have:=Aig.o;omega))
   have c:=jb.cell
   cases hf:U.H.DX x with
   | true =>
    rw[hf]at kY;have hr1:U.Bb x=U:=by unfold Am.Bb;rw[if_pos (.inl hf)]
    rw[hr1]at HST;clear hx htk hst hnx hC hok hU hr1 hf jb hrw hr hs hrq;go_wp2_with fail;refine kY.o.mono ?_;rintro e w3 ⟨sp,sd,wk,fn,er,rfl,hb3⟩;obtain⟨hw1,hw2⟩:=HKN.o;clear c;go_wp2_with fail;go_roundw
    case rel=>exact⟨k+1,oo,by simp,hlt,by rw[HST.o];exact HC.o.below (qa hb3 _),HR.o.below (qa hb3 _),HS.o.trans (Stp.of_below (qa hb3 _))⟩
    case measure=>simp[intOf];omega
   | false =>
    rw[hf]at kY;by_cases wP:100<=U.queue.length
    ·have hr1:U.Bb x=U:=by unfold Am.Bb;rw[if_pos (.inr wP)]
     rw[hr1]at HST;have hqI:(100:Int)<=(U.queue.length:Int):=by omega
     obtain⟨hw1,hw2⟩:=HKN.o;clear hx htk hst hnx hC hok hU hr1 hf hrw hr hs hrq;go_wp2_with (first|(go_at_call 69;refine kY.o.mono ?_;rintro e w3 ⟨sp,sd,wk,fn,er,rfl,hb3⟩;have c3:=((jb.below hb3 jb.lt).alloc (AIe #[sp,sd,.bool wk,.bool fn] 93)).cell)|fail)
     go_roundw
     case rel=>exact⟨k+1,oo,by simp,hlt,by rw[HST.o];exact HC.o.below (qa hb3 _),HR.o.below (qa hb3 _),HS.o.trans (Stp.of_below (qa hb3 _))⟩
     case measure=>simp[intOf];omega
    ·have hr1:U.Bb x={ U with queue:=U.queue++[(x,U.next)],came:=U.came++[(U.H.Dc x).1],next:=U.next+1 }:=by unfold Am.Bb;rw[if_neg (by rw[hf];simp[wP])]
     rw[hr1]at HST;have hqI:¬((100:Int)<=(U.queue.length:Int)):=by omega
     have oz:U.queue.length<100:=by omega
     have uQ:=Qa (fun (w2:Aa) (hb:Ae wo.1.size wo w2)=>qob (HC.o.below hb).hp HK.o.H.ok x);obtain⟨Bc,eQ⟩:=Ja0 ((U.H.Dc x).1);obtain⟨se2,Adv⟩:=Ja0 ((U.H.Dc x).2);rw[<-eQ]at HST uQ;rw[<-Adv]at uQ;clear hx htk hst hnx hC hok hU hr1 hf hrw hr hs hrq wP eQ Adv;go_wp2_with (first
      | (go_at_call 69;refine kY.o.mono ?_;rintro e w3 ⟨sp,sd,wk,fn,er,rfl,hb3⟩;have c3:=((jb.below hb3 jb.lt).alloc (AIe #[sp,sd,.bool wk,.bool fn] 93)).cell;have gM:=qa hb3 (AIe #[sp,sd,.bool wk,.bool fn] 93))
      | (go_at_call 70;refine (uQ.o _ gM).mono ?_;rintro e w4 ⟨rfl,hb4⟩;have hbw:=qd gM hb4;have c4:=(jb.below hbw jb.lt).cell)
      | fail)
     have C4:=HC.o.below hbw;have R4:=Qa (HR.o.below hbw);have S4:=Qa (HS.o.trans (Stp.of_below hbw));obtain⟨vq4,vl4,vm4,j4,pV⟩:=C4.A2;have hoS:=C4.os;have rq4:=pV.q;have rm4:=pV.m;obtain⟨pq4,cq4,rfl⟩:=rq4.A5;obtain⟨pm4,cm4,rfl⟩:=rm4.A5;have J4:=Qa j4;unfold qk at j4;clear c c3 c4 hb3 gM hb4 hbw kY uQ HC HR HS HJ HW jb;have c4:=j4.cell;have Arv:∀ b,o b=(y.l.id,13)->True:=fun _ _=>trivial;have jn:=An.new w4.drew #[x,U.next] 117;have rn:Row (w4.drew.alloc (AIe #[x,U.next] 117)) oo (y.l.id,13) 117 2 (.slice pq4 U.queue.length cq4) U.queue.length (qg U.queue):=rq4.below (qa (qe (qc w4)) _);have dB:U.queue.length+1<=maxLen/\(U.queue.length+1)*16<=140737488355328:=by simp only[maxLen];omega
     obtain⟨dB,hmb⟩:=dB;have h1c:∀ u ∈ [Value.int .i64 (x:Int),I Z (U.next:Int)],u.oneCell'=true:=by intro u hu;simp at hu;rcases hu with rfl|rfl<;>rfl
     have Aal:=Qa (fun (w5:Aa) (o5:Own) (p5:Option Addr) (c5:Nat) (hown:Row w5 o5 (y.l.id,13) 117 2 (.slice p5 (U.queue.length+1) c5) (U.queue.length+1) (qg U.queue++[I Z x,I Z U.next])) (hst:Stp (fun u=>u=(y.l.id,13)) oo o5 (w4.drew.alloc (AIe #[x,U.next] 117)) w5) =>
      show CI (w5.setCell ⟨y.sb,4,none⟩ (.slice p5 (U.queue.length+1) c5)) o5 y { U with queue:=U.queue++[(x,U.next)] } (Ai none 0 0) vs [] ls/\Row (w5.setCell ⟨y.sb,4,none⟩ (.slice p5 (U.queue.length+1) c5)) o5 (y.l.id,8) 3 1 (Ai (some ⟨g,0,none⟩) n cr) n (rd.map nv)/\Stp (qh y) o o5 w (w5.setCell ⟨y.sb,4,none⟩ (.slice p5 (U.queue.length+1) c5)) from by
       have kb:Stp (fun u=>u=(y.l.id,13)) oo oo w4 (w4.drew.alloc (AIe #[x,U.next] 117)):=Stp.of_below (qa (qe (qc w4)) _);have k1:=kb.trans hst;have o5s:o5 y.sb=(y.l.id,11):=(k1.tags _ J4.o.lt).trans hoS;have k2:Stp (fun u=>u=(y.l.id,11)) o5 o5 w5 (w5.setCell ⟨y.sb,4,none⟩ (.slice p5 (U.queue.length+1) c5)):=(Stp.refl _ o5 w5).setCell (by show o5 y.sb=_;exact o5s) _
       have k3:Stp (ka y) oo o5 w4 (w5.setCell ⟨y.sb,4,none⟩ (.slice p5 (U.queue.length+1) c5)):=(k1.mono (by rintro _ rfl;exact bz y 13 (by omega))).trans (k2.mono (by rintro _ rfl;exact bz y 11 (by omega)))
       have hq5:Row (w5.setCell ⟨y.sb,4,none⟩ (.slice p5 (U.queue.length+1) c5)) o5 (y.l.id,13) 117 2 (.slice p5 (U.queue.length+1) c5) (U.queue++[(x,U.next)]).length (qg (U.queue++[(x,U.next)])):=
        (hown.Ar k2 (by simp)).ite (by simp) (by rw[du];rfl)
       refine⟨C4.own (S':={ U with queue:=U.queue++[(x,U.next)] }) rfl rfl rfl rfl rfl ((J4.o.Ar k1 (by rw[hoS];simp)).set 4 _) ⟨hq5,(pV.l.Ar k1 (by simp)).Ar k2 (by simp),(pV.m.Ar k1 (by simp)).Ar k2 (by simp)⟩ k3,R4.o.Ar k3 (bp (by omega) (by omega) (by omega) (by omega)),S4.o.trans (k3.mono fun _ h=>h.1)⟩)
     have HJk:=Qa (fun (w5:Aa) (o5:Own) (hst:Stp (fun u=>u=(y.l.id,13)) oo o5 (w4.drew.alloc (AIe #[x,U.next] 117)) w5)=>(j4.below (qa (qe (qc w4)) (AIe #[x,U.next] 117)) j4.lt).Ar hst (by rw[hoS];simp))
     have s4:=j4.lt;clear C4 pV rq4 rm4;go_region_law ((refine zj _ (by rfl) _ _ _ (by rfl) 117 iU _ 2 16 huI hiU hzU hsU hyU (by rfl) (by decide) oo (y.l.id,13) _ _ _ (by rfl) rn ⟨w4.1.size,0,none⟩ 1 1 [I Z x,I Z U.next] (by rfl) (by rfl) (yh jn) h1c dB hmb ?_;intro v' w5 hown hst;obtain⟨p5,c5,rfl⟩:=hown.A5;have jX:=HJk.o _ _ hst;have cX:=jX.cell;have zX:=jX.free;have sX:=jX.lt))
     all_goals
      obtain⟨W6,o6,iG,C6,R6,S6⟩:∃ (W6:Aa) (o6:Own),W6=w5.setCell ⟨y.sb,4,none⟩ (.slice p5 (U.queue.length+1) c5)/\CI W6 o6 y { U with queue:=U.queue++[(x,U.next)] } (Ai none 0 0) vs [] ls /\
       Row W6 o6 (y.l.id,8) 3 1 (Ai (some ⟨g,0,none⟩) n cr) n (rd.map nv)/\Stp (qh y) o o6 w W6:=⟨_,_,rfl,Aal.o w5 _ p5 c5 hown hst⟩
      rw[<-iG];clear iG hown hst jX cX zX sX Aal HJk J4 R4 S4;have o6s:=C6.os;obtain⟨vq6,vl6,vm6,j6,tF⟩:=C6.A2;have rm6:=tF.m;obtain⟨pm6,cm6,rfl⟩:=rm6.A5;have j6':An W6 y.sb #[ptr y.l.h,ptr y.cy,ptr y.ck,y.Fz,vq6,U.next,U.Aw,U.version,vl6,.slice pm6 U.came.length cm6] 101:=j6;have Aen:Row W6 o6 (y.l.id,15) 3 1 (.slice pm6 U.came.length cm6) U.came.length (U.came.map nv):=rm6;have Ahp:=Qa (fun (w7:Aa) (o7:Own) (p7:Option Addr) (c7:Nat) (lM:Row w7 o7 (y.l.id,15) 3 1 (.slice p7 (U.came.length+1) c7) (U.came.length+1) (U.came.map nv++[I Z Bc])) (nC:Stp (fun t=>t=(y.l.id,15)) o6 o7 (W6.alloc (AIe #[I Z Bc] 3)) w7) =>
       show An w7 y.sb #[ptr y.l.h,ptr y.cy,ptr y.ck,y.Fz,vq6,U.next,U.Aw,U.version,vl6,.slice pm6 U.came.length cm6] 101 /\
        CI ((w7.setCell ⟨y.sb,9,none⟩ (.slice p7 (U.came.length+1) c7)).setCell ⟨y.sb,5,none⟩ (I Z ((U.next:Int)+1))) o7 y { U with queue:=U.queue++[(x,U.next)],came:=U.came++[Bc],next:=U.next+1 } (Ai none 0 0) vs [] ls /\
        Row ((w7.setCell ⟨y.sb,9,none⟩ (.slice p7 (U.came.length+1) c7)).setCell ⟨y.sb,5,none⟩ (I Z ((U.next:Int)+1))) o7 (y.l.id,8) 3 1 (Ai (some ⟨g,0,none⟩) n cr) n (rd.map nv) /\
        Stp (qh y) o o7 w ((w7.setCell ⟨y.sb,9,none⟩ (.slice p7 (U.came.length+1) c7)).setCell ⟨y.sb,5,none⟩ (I Z ((U.next:Int)+1))) from by
       have k1:Stp (fun t=>t=(y.l.id,15)) o6 o7 W6 w7:=(Stp.of_below (qa (qc W6) _)).trans nC;have j7:=j6'.Ar k1 (by rw[o6s];simp)
       have o7s:o7 y.sb=(y.l.id,11):=(k1.tags _ j6'.lt).trans o6s;have k2:Stp (fun t=>t=(y.l.id,11)) o7 o7 w7 ((w7.setCell ⟨y.sb,9,none⟩ (.slice p7 (U.came.length+1) c7)).setCell ⟨y.sb,5,none⟩ (I Z ((U.next:Int)+1))):=((Stp.refl _ o7 w7).setCell (by show o7 y.sb=_;exact o7s) _).setCell (by show o7 y.sb=_;exact o7s) _
       have k3:Stp (ka y) o6 o7 W6 ((w7.setCell ⟨y.sb,9,none⟩ (.slice p7 (U.came.length+1) c7)).setCell ⟨y.sb,5,none⟩ (I Z ((U.next:Int)+1))):=(k1.mono (by rintro _ rfl;exact bz y 15 (by omega))).trans (k2.mono (by rintro _ rfl;exact bz y 11 (by omega)))
       have j9:=(j7.set 9 (.slice p7 (U.came.length+1) c7)).set 5 (I Z ((U.next:Int)+1));refine⟨j7,C6.own (S':={ U with queue:=U.queue++[(x,U.next)],came:=U.came++[Bc],next:=U.next+1 }) rfl rfl rfl rfl rfl (vq:=vq6) (vl:=vl6) (vm:=.slice p7 (U.came.length+1) c7) j9 ⟨(tF.q.Ar k1 (by simp)).Ar k2 (by simp),(tF.l.Ar k1 (by simp)).Ar k2 (by simp),(lM.Ar k2 (by simp)).ite (by simp) (by simp[nv])⟩ k3,R6.Ar k3 (bp (by omega) (by omega) (by omega) (by omega)),S6.trans (k3.mono fun _ h=>h.1)⟩)
      have kG:U.came.length+1<=maxLen/\(U.came.length+1)*8<=140737488355328:=by have:=HNX.o;simp only[maxLen];omega
      obtain⟨kG,pI⟩:=kG;obtain⟨hw1,hw2⟩:=HKN.o;obtain⟨hw3,hw4⟩:=za U.next (by have:=HNX.o;omega)
      have RM6:=Qa Aen;have c6:=j6'.cell;have l6:=j6'.lt;clear C6 R6 S6 tF rm6 Aen j6 j6' o6s;go_wp2_with (first
       | (at_builtin;refine qf _ rfl _ _ _ rfl 3 iI _ 1 8 hu64 hi bZ hsI cZ rfl (by decide) o6 (y.l.id,15) _ _ _ rfl (RM6.o.below (qa (qc W6) _)) ⟨W6.1.size,0,none⟩ 1 1 [I Z Bc] rfl rfl (qv (An.new W6 _ _)) jd kG pI ?_;intro v7 w7 lM nC;obtain⟨p7,c7,rfl⟩:=lM.A5;obtain⟨j7,hfin⟩:=Ahp.o _ _ _ _ lM nC;have c7:=j7.cell;have z7:=j7.free;have l7:=j7.lt)
       | fail)
      go_roundw
      case rel=>exact⟨k+1,_,by simp,hlt,by rw[HST.o];exact hfin.1,hfin.2.1,hfin.2.2⟩
      case measure=>clear hw1 hw2 hw3 hw4 kG pI hqI HNX;simp[intOf];omega
  ·obtain rfl:k=n:=by omega
   rw[HN.o,aa]at hC;have hlo:(T.A8 rd).lost=T.lost:=UR rd T;obtain⟨TT,oZ⟩:=Ja0 (T.A8 rd);rw[<-oZ]at hC hlo;have dQ:=Qa (show ∀ (w':Aa) (o':Own),Av w' o' y { TT with lost:=TT.lost++ls }->Stp (qh y) o o' w w'->BK y { T.A8 rd with lost:=T.lost++ls } o w w' from fun w' o' h1 h2=>⟨o',by rw[<-hlo,<-oZ];rw[oZ]at h1 ⊢;exact h1,h2⟩)
   rw[<-hlo]at HTl;obtain⟨vq,vl,vm,jb,hrw⟩:=hC.A2;have hrl:=hrw.l;obtain⟨pl,cl,rfl⟩:=hrl.A5;have hcl:=hC.cl;obtain⟨pvs,cvs,rfl⟩:=hcl.A5;have jb':An wo y.sb #[ptr y.l.h,ptr y.cy,ptr y.ck,y.Fz,vq,TT.next,TT.Aw,TT.version,.slice pl TT.lost.length cl,vm] 101:=jb;have HLo:=Qa (G4 (hC.below (qe (qc wo))).cb hC.oy (hC.below (qe (qc wo))).cl);have oS:=hC.os;have HX:=Qa (fun (w3:Aa) (hr:Row w3 oo (y.l.id,9) 3 1 (.slice pvs ls.length cvs) ls.length (ls.map nv)) (hb:An w3 y.cy #[ptr y.l.h,FN y.cy TT.ph,Ai none 0 0,Ai none 0 0] 201) (h3:Stp (fun t=>t=(y.l.id,7)) oo oo wo.drew w3) =>
    show CI w3 oo y TT (Ai none 0 0) (Ai none 0 0) [] []/\An w3 y.sb #[ptr y.l.h,ptr y.cy,ptr y.ck,y.Fz,vq,TT.next,TT.Aw,TT.version,.slice pl TT.lost.length cl,vm] 101/\Row w3 oo (y.l.id,14) 3 1 (.slice pl TT.lost.length cl) TT.lost.length (TT.lost.map nv) from by
     have h3':Stp (fun t=>t=(y.l.id,7)) oo oo wo w3:=(Stp.of_below (qe (qc wo))).trans h3;exact⟨hC.UE hb (Row.nil _ _ _ _ _) (Row.nil _ _ _ _ _) h3',jb'.Ar h3' (by rw[oS];simp),hrl.Ar h3' (by simp)⟩)
   have HY:=Qa (fun (w3 w5:Aa) (o5:Own) (v5:Ac) (h3:Stp (fun t=>t=(y.l.id,7)) oo oo wo.drew w3) (C3:CI w3 oo y TT (Ai none 0 0) (Ai none 0 0) [] []) (j3:An w3 y.sb #[ptr y.l.h,ptr y.cy,ptr y.ck,y.Fz,vq,TT.next,TT.Aw,TT.version,.slice pl TT.lost.length cl,vm] 101)
     (hown:Row w5 o5 (y.l.id,14) 3 1 v5 (TT.lost.length+ls.length) (TT.lost.map nv++ls.map nv)) (hst:Stp (fun t=>t=(y.l.id,14)) oo o5 w3 w5) =>
    show An w5 y.sb #[ptr y.l.h,ptr y.cy,ptr y.ck,y.Fz,vq,TT.next,TT.Aw,TT.version,.slice pl TT.lost.length cl,vm] 101/\BK y { T.A8 rd with lost:=T.lost++ls } o w (w5.setCell ⟨y.sb,8,none⟩ v5) from by
     have j5:=j3.Ar hst (by rw[oS];simp)
     have o5s:o5 y.sb=(y.l.id,11):=(hst.tags _ j3.lt).trans oS;have k2:Stp (fun t=>t=(y.l.id,11)) o5 o5 w5 (w5.setCell ⟨y.sb,8,none⟩ v5):=(Stp.refl _ o5 w5).setCell (by show o5 y.sb=_;exact o5s) _
     have k3:Stp (ka y) oo o5 w3 (w5.setCell ⟨y.sb,8,none⟩ v5):=(hst.mono (by rintro _ rfl;exact bz y 14 (by omega))).trans (k2.mono (by rintro _ rfl;exact bz y 11 (by omega)))
     obtain⟨uD,vl',vm',jx,hrx⟩:=C3.A2;have exq:uD=vq/\vm'=vm:=by
      have a1:=jx.cell (i:=4);have a2:=jx.cell (i:=9);rw[j3.cell]at a1 a2;simp[qk]at a1 a2;exact⟨a1.symm,a2.symm⟩
     obtain⟨rfl,rfl⟩:=exq;have C5:=C3.own (S':={ TT with lost:=TT.lost++ls }) rfl rfl rfl rfl rfl (vq:=uD) (vl:=v5) (vm:=vm') (j5.set 8 v5) ⟨(hrx.q.Ar hst (by simp)).Ar k2 (by simp),(hown.Ar k2 (by simp)).ite (by simp) (by simp),(hrx.m.Ar hst (by simp)).Ar k2 (by simp)⟩ k3
     have h3':Stp (qh y) oo oo wo w3:=((Stp.of_below (qe (qc wo))).trans h3).mono (by rintro _ rfl;rfl)
     exact⟨j5,dQ.o _ _ C5.close ((hs.trans h3').trans (k3.mono fun _ h=>h.1))⟩)
   have dB:TT.lost.length+ls.length<=maxLen/\(TT.lost.length+ls.length)*8<=140737488355328:=by have:=HTl.o;have:=vX.o;simp only[maxLen];omega
   obtain⟨dB,hmb⟩:=dB;have dN:w.1.size<=wo.1.size:=hs.size;have cb:=jb'.cell;have lb:=jb'.lt;clear oZ hlo hrw hrl hcl jb jb' hC hs hr hok dQ hlt hkn dN;go_upto_region 14 with fail;go_region_law (first
    | (refine p9 _ (by rfl) _ _ _ (by rfl) 3 iI _ 1 8 hu64 hi bZ hsI cZ (by rfl) (by decide) oo (y.l.id,14) _ TT.lost.length (TT.lost.map nv) (by rfl) rL oo (y.l.id,9) _ ls.length (ls.map nv) (by rfl) rS (rz _) dB hmb ?_;intro v5 w5 hown hst;obtain⟨p5,c5,rfl⟩:=hown.A5;obtain⟨j5,hfin⟩:=HY.o _ _ _ _ h3 C3 j3 hown hst;have c5':=j5.cell;have z5:=j5.free;have l5:=j5.lt)
    | (go_simp;go_wp2_with ((go_at_call 71;refine HLo.o.mono ?_;rintro e w3 ⟨rfl,rS,b3,h3⟩;obtain⟨C3,j3,rL⟩:=HX.o w3 rS b3 h3;have c3:=j3.cell;have l3:=j3.lt))))
   all_goals
    go_wp2_with fail;go_ret;exact⟨rfl,hfin⟩
