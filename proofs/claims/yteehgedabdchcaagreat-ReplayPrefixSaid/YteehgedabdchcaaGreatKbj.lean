import Derived.Test.YteehgedabdchcaaGreatKbg
import Derived.Test.YteehgedabdchcaaGreatKbh
import Derived.Test.YteehgedabdchcaaGreatKbi
set_option linter.all false
set_option maxRecDepth 1000000
set_option maxHeartbeats 0
open Go renaming World->Aa,Calls->Ab
open Go.RowKit renaming Below->Ae
open Go.Value renaming int->I,tuple->Aj,agg->Ak
open Go.IntKind renaming i64->Z
open Go.Ending renaming returned->O
open List renaming setIfInBounds_toArray->Ad,set_cons_zero->Ai,set_cons_succ->aa
open Go.Proofs.Tryz
open Go.Obj renaming cells->ARu
namespace Go.Proofs.YteehgedabdchcaaGreat
open Go.RowKit Hp
attribute [local go_sem ↓] Go.wp_at_zero Go.wp_at_succ
structure TR where
 S:An
 h:AE
 a:A0
def di (R:BD)(h:AE)(A:Nat):TR:=⟨R.S,h.Pj A R.v R.e,ED (R.S.Cw R.v.toNat) R.e⟩
def xu (S:An)(v e:Int)(h:AE):TR:=⟨S,h.ended e,ws v e⟩
def AE.at (h:AE)(A:Nat):Nat:=(h.r.get A).toNat
def An.A4 (S:An)(i:Nat)(h:AE)(d:As):TR:=
 if d.k=1 then di (S.alloc i ⟨d.i.toNat,d.n.toNat,false,false⟩) h d.A
 else if d.k=2 then di (S.alloc i ⟨d.i.toNat,d.n.toNat,false,true⟩) h d.A
 else if d.k=3 then di (S.Az i (h.at d.B)) h d.A
 else if d.k=4 then di (S.get i (h.at d.B) d.i.toNat) h d.A
 else if d.k=9 then di (S.load i (h.at d.B)) h d.A
 else if d.k=10 then di (S.take i) h d.A
 else if d.k=5 then xu (S.put i (h.at d.A) d.i.toNat (h.at d.B)).S 0 (S.put i (h.at d.A) d.i.toNat (h.at d.B)).e h
 else if d.k=6 then xu (S.read i (h.at d.A) d.i.toNat).S (S.read i (h.at d.A) d.i.toNat).v (S.read i (h.at d.A) d.i.toNat).e h
 else if d.k=7 then xu (S.write i (h.at d.A) d.i.toNat d.n).S 0 (S.write i (h.at d.A) d.i.toNat d.n).e h
 else if d.k=8 then xu (S.free i (h.at d.A)).S 0 (S.free i (h.at d.A)).e h
 else if d.k=11 then xu S (if h.at d.A=h.at d.B then 1 else 0) 0 h
 else if d.k=12 then xu S 0 0 (h.put d.A (h.at d.B))
 else if d.k=13 then xu S 0 0 (h.put d.A 0)
 else ⟨S.abort i,{ h.back with b:=h.b+1 },⟨2,0,0⟩⟩
def Tt (S:An)(i:Nat)(h:AE)(d:As)(e:d.k=1):S.A4 i h d=di (S.alloc i ⟨d.i.toNat,d.n.toNat,false,false⟩) h d.A:=by
 unfold An.A4;rw[if_pos e]
def lw (S:An)(i:Nat)(h:AE)(d:As)(e:d.k=2):S.A4 i h d=di (S.alloc i ⟨d.i.toNat,d.n.toNat,false,true⟩) h d.A:=by
 unfold An.A4;rw[if_neg (show ¬d.k=1 by omega),if_pos e]
def TB (S:An)(i:Nat)(h:AE)(d:As)(e:d.k=3):S.A4 i h d=di (S.Az i (h.at d.B)) h d.A:=by
 unfold An.A4;rw[if_neg (show ¬d.k=1 by omega),if_neg (show ¬d.k=2 by omega),if_pos e]
def TA (S:An)(i:Nat)(h:AE)(d:As)(e:d.k=4):S.A4 i h d=di (S.get i (h.at d.B) d.i.toNat) h d.A:=by
 unfold An.A4;rw[if_neg (show ¬d.k=1 by omega),if_neg (show ¬d.k=2 by omega),if_neg (show ¬d.k=3 by omega),if_pos e]
def lj (S:An)(i:Nat)(h:AE)(d:As)(e:d.k=9):S.A4 i h d=di (S.load i (h.at d.B)) h d.A:=by
 unfold An.A4;rw[if_neg (show ¬d.k=1 by omega),if_neg (show ¬d.k=2 by omega),if_neg (show ¬d.k=3 by omega),if_neg (show ¬d.k=4 by omega),if_pos e]
def bp (S:An)(i:Nat)(h:AE)(d:As)(e:d.k=10):S.A4 i h d=di (S.take i) h d.A:=by
 unfold An.A4;rw[if_neg (show ¬d.k=1 by omega),if_neg (show ¬d.k=2 by omega),if_neg (show ¬d.k=3 by omega),if_neg (show ¬d.k=4 by omega),if_neg (show ¬d.k=9 by omega),if_pos e]
def Ts (S:An)(i:Nat)(h:AE)(d:As)(e:d.k=5):S.A4 i h d=xu (S.put i (h.at d.A) d.i.toNat (h.at d.B)).S 0 (S.put i (h.at d.A) d.i.toNat (h.at d.B)).e h:=by
 unfold An.A4;rw[if_neg (show ¬d.k=1 by omega),if_neg (show ¬d.k=2 by omega),if_neg (show ¬d.k=3 by omega),if_neg (show ¬d.k=4 by omega),if_neg (show ¬d.k=9 by omega),if_neg (show ¬d.k=10 by omega),if_pos e]
def ly (S:An)(i:Nat)(h:AE)(d:As)(e:d.k=6):S.A4 i h d=xu (S.read i (h.at d.A) d.i.toNat).S (S.read i (h.at d.A) d.i.toNat).v (S.read i (h.at d.A) d.i.toNat).e h:=by
 unfold An.A4;rw[if_neg (show ¬d.k=1 by omega),if_neg (show ¬d.k=2 by omega),if_neg (show ¬d.k=3 by omega),if_neg (show ¬d.k=4 by omega),if_neg (show ¬d.k=9 by omega),if_neg (show ¬d.k=10 by omega),if_neg (show ¬d.k=5 by omega),if_pos e]
def lz (S:An)(i:Nat)(h:AE)(d:As)(e:d.k=7):S.A4 i h d=xu (S.write i (h.at d.A) d.i.toNat d.n).S 0 (S.write i (h.at d.A) d.i.toNat d.n).e h:=by
 unfold An.A4;rw[if_neg (show ¬d.k=1 by omega),if_neg (show ¬d.k=2 by omega),if_neg (show ¬d.k=3 by omega),if_neg (show ¬d.k=4 by omega),if_neg (show ¬d.k=9 by omega),if_neg (show ¬d.k=10 by omega),if_neg (show ¬d.k=5 by omega),if_neg (show ¬d.k=6 by omega),if_pos e]
def lr (S:An)(i:Nat)(h:AE)(d:As)(e:d.k=8):S.A4 i h d=xu (S.free i (h.at d.A)).S 0 (S.free i (h.at d.A)).e h:=by
 unfold An.A4;rw[if_neg (show ¬d.k=1 by omega),if_neg (show ¬d.k=2 by omega),if_neg (show ¬d.k=3 by omega),if_neg (show ¬d.k=4 by omega),if_neg (show ¬d.k=9 by omega),if_neg (show ¬d.k=10 by omega),if_neg (show ¬d.k=5 by omega),if_neg (show ¬d.k=6 by omega),if_neg (show ¬d.k=7 by omega),if_pos e]
def cj (S:An)(i:Nat)(h:AE)(d:As)(e:d.k=11):S.A4 i h d=xu S (if h.at d.A=h.at d.B then 1 else 0) 0 h:=by
 unfold An.A4;rw[if_neg (show ¬d.k=1 by omega),if_neg (show ¬d.k=2 by omega),if_neg (show ¬d.k=3 by omega),if_neg (show ¬d.k=4 by omega),if_neg (show ¬d.k=9 by omega),if_neg (show ¬d.k=10 by omega),if_neg (show ¬d.k=5 by omega),if_neg (show ¬d.k=6 by omega),if_neg (show ¬d.k=7 by omega),if_neg (show ¬d.k=8 by omega),if_pos e]
def bq (S:An)(i:Nat)(h:AE)(d:As)(e:d.k=12):S.A4 i h d=xu S 0 0 (h.put d.A (h.at d.B)):=by
 unfold An.A4;rw[if_neg (show ¬d.k=1 by omega),if_neg (show ¬d.k=2 by omega),if_neg (show ¬d.k=3 by omega),if_neg (show ¬d.k=4 by omega),if_neg (show ¬d.k=9 by omega),if_neg (show ¬d.k=10 by omega),if_neg (show ¬d.k=5 by omega),if_neg (show ¬d.k=6 by omega),if_neg (show ¬d.k=7 by omega),if_neg (show ¬d.k=8 by omega),if_neg (show ¬d.k=11 by omega),if_pos e]
def cg (S:An)(i:Nat)(h:AE)(d:As)(e:d.k=13):S.A4 i h d=xu S 0 0 (h.put d.A 0):=by
 unfold An.A4;rw[if_neg (show ¬d.k=1 by omega),if_neg (show ¬d.k=2 by omega),if_neg (show ¬d.k=3 by omega),if_neg (show ¬d.k=4 by omega),if_neg (show ¬d.k=9 by omega),if_neg (show ¬d.k=10 by omega),if_neg (show ¬d.k=5 by omega),if_neg (show ¬d.k=6 by omega),if_neg (show ¬d.k=7 by omega),if_neg (show ¬d.k=8 by omega),if_neg (show ¬d.k=11 by omega),if_neg (show ¬d.k=12 by omega),if_pos e]
def ce (S:An)(i:Nat)(h:AE)(d:As)(e:d.k=14):S.A4 i h d=⟨S.abort i,{ h.back with b:=h.b+1 },⟨2,0,0⟩⟩:=by
 unfold An.A4;rw[if_neg (show ¬d.k=1 by omega),if_neg (show ¬d.k=2 by omega),if_neg (show ¬d.k=3 by omega),if_neg (show ¬d.k=4 by omega),if_neg (show ¬d.k=9 by omega),if_neg (show ¬d.k=10 by omega),if_neg (show ¬d.k=5 by omega),if_neg (show ¬d.k=6 by omega),if_neg (show ¬d.k=7 by omega),if_neg (show ¬d.k=8 by omega),if_neg (show ¬d.k=11 by omega),if_neg (show ¬d.k=12 by omega),if_neg (show ¬d.k=13 by omega)]
structure As.ok (d:As):Prop where
 k:1<=d.k/\d.k<=14
 A:d.A<6
 B:d.B<6
 i:0<=d.i
 n:-9223372036854775808<=d.n/\d.n<=9223372036854775807
 s:d.k=1\/d.k=2->d.i<=4/\0<=d.n/\d.n<=4
def RU (S:An)(r:R6):Prop:=∀ j,j<6->∃ p:Nat,r.get j=p/\Ea S p
def QZ (R:BD):Prop:=R.e=0->∃ p:Nat,R.v=p/\Ea R.S p
def RU.at {S:An}{h:AE}(hr:RU S h.r){A:Nat}(hA:A<6):h.r.get A=(h.at A:Int)/\Ea S (h.at A):=by
 obtain⟨p,h1,h2⟩:=hr A hA;unfold AE.at;rw[h1,Int.toNat_natCast];exact⟨rfl,h2⟩
def L5 {r:BD}(i:Nat)(h:∃ p:Nat,r.v=p):QZ (r.fin i):=by
 intro _;unfold BD.fin;split
 ·exact⟨0,rfl,trivial⟩
 ·split
  ·obtain⟨p,h⟩:=h;exact⟨p,h,trivial⟩
  ·exact⟨0,rfl,trivial⟩
def fm (S:An){r:BD}(i:Nat)(h:∃ p:Nat,r.v=p):QZ (S.AG i r):=by
 unfold An.AG;split
 ·exact L5 i h
 ·exact fun _=>⟨0,rfl,trivial⟩
section
variable {w w' : Aa} {o o' : Own} {y : A6} {S : An} {i : Nat}
def XM (i:Nat)(s:BX):QZ (S.alloc i s):=fm S i ⟨_,rfl⟩
def Lf (i q:Nat):QZ (S.Az i q):=by
 refine fm S i ?_;unfold An.BG;split
 ·exact⟨0,rfl⟩
 ·split
  ·exact⟨0,rfl⟩
  ·split
   ·exact⟨0,rfl⟩
   ·exact⟨_,rfl⟩
def Mk (i p j:Nat):QZ (S.get i p j):=by
 refine fm S i ?_;unfold An.Dd;split
 ·exact⟨0,rfl⟩
 ·exact⟨_,rfl⟩
def JJ (i p:Nat):QZ (S.load i p):=by
 refine fm S i ?_;unfold An.B8 An.CP;split
 ·exact⟨0,rfl⟩
 ·split
  ·exact⟨0,rfl⟩
  ·split
   ·exact⟨0,rfl⟩
   ·split
    ·exact⟨0,rfl⟩
    ·split
     ·exact⟨_,rfl⟩
     ·exact⟨0,rfl⟩
def KR (i:Nat):QZ (S.take i):=by
 refine fm S i ?_;unfold An.Ca;split
 ·exact⟨0,rfl⟩
 ·split
  ·exact⟨0,rfl⟩
  ·split
   ·exact⟨0,rfl⟩
   ·exact⟨_,rfl⟩
structure Tdy (S:An)(i:Nat)(h:AE):Prop where
 inv:Inv S
 Dg:S.Dg i=true
 lv:(S.t i).live=true
 rg:RU S h.r
 n:0<=h.n/\h.n<=4096
 b:0<=h.b/\h.b<=4096
def qo9 (hS:Aq w o y S)(h:AE)(d:As)(hd:d.ok)(hT:Tdy S i h) :
  Ab Tryz.prog 154 #[ptr y.sb,I Z i,d.v,h.v] w fun e' w'=>e'=O (Aj #[(S.A4 i h d).h.v,(S.A4 i h d).a.val])/\Left y (S.A4 i h d).S o w w':=by
 have hA:=hd.A;have hB:=hd.B;obtain⟨ea,pa⟩:=hT.rg.at hA;obtain⟨eb,pb⟩:=hT.rg.at hB;obtain⟨hb,hn,⟨a0,a1,a2,a3,a4,a5⟩,⟨s0,s1,s2,s3,s4,s5⟩,hl⟩:=h;obtain⟨k,A,B,fi,fn⟩:=d;have hn0:=hT.n;have hb0:=hT.b;have hk:=hd.k;have hi:=hd.i;have hfn:=hd.n;have hs:=hd.s;simp only at hA hB ea eb pa pb hn0 hb0 hk hi hfn hs;have hlt:=jj hT.Dg;obtain rfl|rfl|rfl|rfl|rfl|rfl|rfl|rfl|rfl|rfl|rfl|rfl|rfl|rfl:k=1\/k=2\/k=3\/k=4\/k=5\/k=6\/k=7\/k=8\/k=9\/k=10\/k=11\/k=12\/k=13\/k=14:=by omega
 ·rw[Tt _ _ _ _ rfl]
  exact uc hS hT.inv hb hn a0 a1 a2 a3 a4 a5 s0 s1 s2 s3 s4 s5 hl A B fi fn _ _ 1 _ ⟨hT.Dg,.inl ⟨rfl,rfl,⟨hi,(hs (.inl rfl)).1⟩,(hs (.inl rfl)).2⟩⟩ (XM i _) hA hB ea eb hn0 hb0
 ·rw[lw _ _ _ _ rfl]
  exact uc hS hT.inv hb hn a0 a1 a2 a3 a4 a5 s0 s1 s2 s3 s4 s5 hl A B fi fn _ _ 2 _ ⟨hT.Dg,.inr (.inl ⟨rfl,rfl,⟨hi,(hs (.inr rfl)).1⟩,(hs (.inr rfl)).2⟩)⟩ (XM i _) hA hB ea eb hn0 hb0
 ·rw[TB _ _ _ _ rfl]
  exact uc hS hT.inv hb hn a0 a1 a2 a3 a4 a5 s0 s1 s2 s3 s4 s5 hl A B fi fn _ _ 3 _ ⟨hT.Dg,.inr (.inr (.inl ⟨rfl,rfl,pb⟩))⟩ (Lf i _) hA hB ea eb hn0 hb0
 ·rw[TA _ _ _ _ rfl]
  exact uc hS hT.inv hb hn a0 a1 a2 a3 a4 a5 s0 s1 s2 s3 s4 s5 hl A B fi fn _ _ 4 _ ⟨hT.Dg,.inr (.inr (.inr (.inl ⟨rfl,rfl,pb,hi⟩)))⟩ (Mk i _ _) hA hB ea eb hn0 hb0
 ·rw[Ts _ _ _ _ rfl]
  exact gy hS hT.inv hb hn a0 a1 a2 a3 a4 a5 s0 s1 s2 s3 s4 s5 hl A B fi fn _ _ 1 5 0 _ ⟨hT.Dg,pa,.inr (.inl ⟨rfl,rfl,rfl,rfl,pb,hi⟩)⟩ hA hB ea eb hn0 hb0
 ·rw[ly _ _ _ _ rfl]
  exact gy hS hT.inv hb hn a0 a1 a2 a3 a4 a5 s0 s1 s2 s3 s4 s5 hl A B fi fn _ _ 2 6 _ _ ⟨hT.Dg,pa,.inr (.inr (.inl ⟨rfl,rfl,rfl,rfl,hi⟩))⟩ hA hB ea eb hn0 hb0
 ·rw[lz _ _ _ _ rfl]
  exact gy hS hT.inv hb hn a0 a1 a2 a3 a4 a5 s0 s1 s2 s3 s4 s5 hl A B fi fn _ _ 3 7 0 _ ⟨hT.Dg,pa,.inr (.inr (.inr ⟨rfl,rfl,rfl,rfl,hi,hfn⟩))⟩ hA hB ea eb hn0 hb0
 ·rw[lr _ _ _ _ rfl]
  exact gy hS hT.inv hb hn a0 a1 a2 a3 a4 a5 s0 s1 s2 s3 s4 s5 hl A B fi fn _ _ 0 8 0 _ ⟨hT.Dg,pa,.inl ⟨rfl,rfl,rfl,rfl⟩⟩ hA hB ea eb hn0 hb0
 ·rw[lj _ _ _ _ rfl]
  exact uc hS hT.inv hb hn a0 a1 a2 a3 a4 a5 s0 s1 s2 s3 s4 s5 hl A B fi fn _ _ 9 _ ⟨hT.Dg,.inr (.inr (.inr (.inr (.inl ⟨rfl,rfl,pb⟩))))⟩ (JJ i _) hA hB ea eb hn0 hb0
 ·rw[bp _ _ _ _ rfl]
  exact uc hS hT.inv hb hn a0 a1 a2 a3 a4 a5 s0 s1 s2 s3 s4 s5 hl A B fi fn _ _ 10 _ ⟨hT.Dg,.inr (.inr (.inr (.inr (.inr ⟨rfl,rfl⟩))))⟩ (KR i) hA hB ea eb hn0 hb0
 ·rw[cj _ _ _ _ rfl]
  by_cases hab:(AE.at ⟨hb,hn,⟨a0,a1,a2,a3,a4,a5⟩,⟨s0,s1,s2,s3,s4,s5⟩,hl⟩ A)=(AE.at ⟨hb,hn,⟨a0,a1,a2,a3,a4,a5⟩,⟨s0,s1,s2,s3,s4,s5⟩,hl⟩ B)
  ·rw[if_pos hab]
   exact YB hS hT.inv hb hn a0 a1 a2 a3 a4 a5 s0 s1 s2 s3 s4 s5 hl A B fi fn _ _ 1 (.inl ⟨hab,rfl⟩) hA hB ea eb hn0 hb0
  ·rw[if_neg hab]
   exact YB hS hT.inv hb hn a0 a1 a2 a3 a4 a5 s0 s1 s2 s3 s4 s5 hl A B fi fn _ _ 0 (.inr ⟨hab,rfl⟩) hA hB ea eb hn0 hb0
 ·rw[bq _ _ _ _ rfl]
  exact qju hS hT.inv hb hn a0 a1 a2 a3 a4 a5 s0 s1 s2 s3 s4 s5 hl A B fi fn _ _ hA hB ea eb hn0 hb0
 ·rw[cg _ _ _ _ rfl]
  exact qnm hS hT.inv hb hn a0 a1 a2 a3 a4 a5 s0 s1 s2 s3 s4 s5 hl A B fi fn _ _ hA hB ea eb hn0 hb0
 ·rw[ce _ _ _ _ rfl]
  exact qi1 hS hT.inv hb hn a0 a1 a2 a3 a4 a5 s0 s1 s2 s3 s4 s5 hl A B fi fn _ _ hlt hT.lv hA hB ea eb hb0
end
section
variable {w w' : Aa} {o o' : Own} {y : A6} {S : An} {i : Nat}
def F7 {S:An} {i:Nat} (hi:i<S.Au.length) (he:(S.AW i).2=0):((S.AW i).1.t i).live=true/\((S.AW i).1.t i).start=S.now:=by
 unfold An.AW at he ⊢;split at he
 ·simp at he
 ·rename_i h1
  rw[if_neg h1];split at he
  ·rename_i h2
   rw[if_pos h2];have:((S.tx i ((S.t i).begun S.now S.next)).t i)=(S.t i).begun S.now S.next:=by
    have h3:(S.tx i ((S.t i).begun S.now S.next)).Au[i]?=some ((S.t i).begun S.now S.next):=by simp[An.tx,hi]
    have h4:=An.AV (S:=S.tx i ((S.t i).begun S.now S.next)) (i:=i) (by simpa [An.tx] using hi)
    rw[h3]at h4;injection h4 with h4;exact h4.symm
   show ((S.tx i ((S.t i).begun S.now S.next)).t i).live=true/\((S.tx i ((S.t i).begun S.now S.next)).t i).start=S.now;rw[this];exact⟨rfl,rfl⟩
  ·simp at he
def qnk (hS:Aq w o y S) (hI:Inv S) (hb hn a0 a1 a2 a3 a4 a5 s0 s1 s2 s3 s4 s5:Int) (hl:Bool) (nb:Int) (hi:i<S.Au.length) (he:(S.AW i).2=0) :
  Ab Tryz.prog 152 #[ptr y.sb,I Z i,I Z nb,Ak #[I Z hb,I Z hn,I Z a0,I Z a1,I Z a2,I Z a3,I Z a4,I Z a5,I Z s0,I Z s1,I Z s2,I Z s3,I Z s4,I Z s5,.bool hl]] w fun e' w'=>e'=O (Aj #[AE.v ⟨hb,0,⟨a0,a1,a2,a3,a4,a5⟩,⟨a0,a1,a2,a3,a4,a5⟩,true⟩,A0.val ⟨1,0,S.now⟩])/\Left y (S.AW i).1 o w w':=by
 obtain⟨o1,ho1⟩:∃ o1,o1=ext o w.1.size (y.l.id+1,0):=⟨_,rfl⟩;have h1:=hS.retag (o':=o1) fun b hb=>by rw[ho1];exact qr hb
 have hS0:Stp (qo y) o o1 w w:=by rw[ho1];exact (Stp.refl _ o w).ext _ _ (Qk _)
 have hbx:∀ b,w.1.size<=b->CL y (o1 b):=fun b hb=>by rw[ho1];exact qz hb
 clear ho1 hS;obtain⟨W,hW⟩:=Ja0 ((((w.alloc (ARu #[I Z hb,I Z hn,I Z a0,I Z a1,I Z a2,I Z a3,I Z a4,I Z a5,I Z s0,I Z s1,I Z s2,I Z s3,I Z s4,I Z s5,.bool hl] 58)).alloc (ARu #[I Z 0,I Z 0,I Z 0,I Z 0,I Z 0,I Z 0,I Z 0,I Z 0,I Z 0,I Z 0,I Z 0,I Z 0,I Z 0,I Z 0,.bool false] 58)).alloc (ARu #[I Z 0,I Z 0,I Z 0] 54)));have hbW:Ae w.1.size w W:=by rw[hW];exact qc (qc (qc (qd w) _) _) _
 have k7:Al W w.1.size #[I Z hb,I Z hn,I Z a0,I Z a1,I Z a2,I Z a3,I Z a4,I Z a5,I Z s0,I Z s1,I Z s2,I Z s3,I Z s4,I Z s5,.bool hl] 58:=by rw[hW];exact ((Al.new w _ _).alloc _).alloc _
 have k8:Al W (w.1.size+1) #[I Z 0,I Z 0,I Z 0,I Z 0,I Z 0,I Z 0,I Z 0,I Z 0,I Z 0,I Z 0,I Z 0,I Z 0,I Z 0,I Z 0,.bool false] 58:=by rw[hW];exact (Al.Ap _ _ _ _ _ (by simp) rfl).alloc _
 have k9:Al W (w.1.size+1+1) #[I Z 0,I Z 0,I Z 0] 54:=by rw[hW];exact Al.Ap _ _ _ _ _ (by simp) rfl
 have hSW:=h1.below hbW;have cZ:Stp (qo y) o o1 w W:=hS0.trans (Stp.of_below hbW);have HC:=Qa (fun X o2 (h2:Aq X o2 y S)=>by have:=qmw h2 hI hi;rw[he]at this;exact this)
 have hst:(((S.AW i).1).t i).live=true/\(((S.AW i).1).t i).start=S.now:=F7 hi he;have HL:=Qa (fun X o2 (h2:Aq X o2 y (S.AW i).1) (h3:Inv (S.AW i).1)=>by have:=PI h2 h3 (i:=i) (by rw[ql0];exact hi);rw[hst.1,hst.2]at this;simp only[if_true]at this;exact this)
 have HB:=Qa hbx;generalize (S.AW i).1=SB at *;generalize S.now=nw at *;clear hI hi he hst h1 hS0 hbx;go_enter func152,ntmps152;go_wp2_with fail;rw[<-hW];clear hW;refine (HC.out _ _ hSW).mono ?_
 rintro e2 w2 ⟨rfl,o2,hS2,hI2,hs2⟩
 have nt:∀ b,w.1.size<=b->¬qo y (o1 b):=fun b q1=>pw (HB.out b q1)
 have tg:∀ b,w.1.size<=b->b<W.1.size->CL y (o2 b):=fun b q1 q2=>by have:=HB.out b q1;rw[<-hs2.tags b q2]at this;exact this
 have t7:=tg w.1.size (by omega) k7.lt
 have t8:=tg (w.1.size+1) (by omega) k8.lt
 have t9:=tg (w.1.size+1+1) (by omega) k9.lt
 replace k7:=k7.Ao hs2 (nt _ (by omega))
 replace k8:=k8.Ao hs2 (nt _ (by omega))
 replace k9:=k9.Ao hs2 (nt _ (by omega))
 have hs3:=cZ.trans hs2;have HI2:=Qa hI2;obtain⟨w3,hw3⟩:=Ja0 (w2.alloc (ARu #[I Z 1,I Z 0,I Z 0] 54));have kA:Al w3 w2.1.size #[I Z 1,I Z 0,I Z 0] 54:=by rw[hw3];exact Al.new _ _ _
 have hb3:Ae w2.1.size w2 w3:=by rw[hw3];exact qc (qd _) _
 have l7:=k7.lt;have l8:=k8.lt;have l9:=k9.lt;replace k7:=k7.below hb3 k7.lt;replace k8:=k8.below hb3 k8.lt;replace k9:=k9.below hb3 k9.lt;have dB:=hS2.below hb3;have HSA:=Qa (show Aq (w3.setCell ⟨w2.1.size,2,none⟩ (I Z nw)) o2 y SB from hS2.below (zc (by rw[hw3];exact qc (qd _) _) (Qk _) _))
 replace hs3:=hs3.trans (Stp.of_below hb3);have hsz:w.1.size<=w2.1.size:=by omega
 clear hs2 hSW cZ HC tg nt hS2 hbW hb3;go_wp2_with fail;rw[<-hw3];clear hw3;refine (HL.out _ _ dB hI2).mono ?_
 rintro e4 w4 ⟨rfl,rfl⟩
 have c7:=k7.cell;have z7:=k7.free;have l7':=k7.lt;have cA:=kA.cell;have zA:=kA.free;have lA:=kA.lt;have ne7:w.1.size≠w2.1.size:=by omega
 have fV:w2.1.size≠w.1.size:=by omega
 go_upto_region 9 with fail;clear c7 z7 l7' cA zA lA;obtain⟨bA,bQ⟩:=Ja0 w2.1.size;rw[<-bQ]at HSA kA ne7 fV hsz l7 l8 l9 ⊢;clear bQ;obtain⟨V,hV⟩:=Ja0 ((((((((((w3.setCell ⟨bA,2,none⟩ (I Z nw)).setCell ⟨w.1.size,14,none⟩ (.bool true)).setCell ⟨w.1.size,1,none⟩ (I Z 0)).setCell ⟨w.1.size,8,none⟩ (I Z a0)).setCell ⟨w.1.size,9,none⟩ (I Z a1)).setCell ⟨w.1.size,10,none⟩ (I Z a2)).setCell ⟨w.1.size,11,none⟩ (I Z a3)).setCell ⟨w.1.size,12,none⟩ (I Z a4)).setCell ⟨w.1.size,13,none⟩ (I Z a5)));rw[<-hV];have i7:Al V w.1.size #[I Z hb,I Z 0,I Z a0,I Z a1,I Z a2,I Z a3,I Z a4,I Z a5,I Z a0,I Z a1,I Z a2,I Z a3,I Z a4,I Z a5,.bool true] 58:=by
  rw[hV];have k:=(((((((((k7.Am (a:=⟨bA,2,none⟩) ne7 (I Z nw)).set 14 (.bool true)).set 1 (I Z 0)).set 8 (I Z a0)).set 9 (I Z a1)).set 10 (I Z a2)).set 11 (I Z a3)).set 12 (I Z a4)).set 13 (I Z a5));simp only[Ad,Ai,aa]at k;exact k
 have iA:Al V bA #[I Z 1,I Z 0,I Z nw] 54:=by rw[hV];exact (((((((((kA.set 2 (I Z nw)).Am (a:=⟨w.1.size,14,none⟩) fV (.bool true)).Am (a:=⟨w.1.size,1,none⟩) fV (I Z 0)).Am (a:=⟨w.1.size,8,none⟩) fV (I Z a0)).Am (a:=⟨w.1.size,9,none⟩) fV (I Z a1)).Am (a:=⟨w.1.size,10,none⟩) fV (I Z a2)).Am (a:=⟨w.1.size,11,none⟩) fV (I Z a3)).Am (a:=⟨w.1.size,12,none⟩) fV (I Z a4)).Am (a:=⟨w.1.size,13,none⟩) fV (I Z a5))
 have hw1:Wr bA w3 (w3.setCell ⟨bA,2,none⟩ (I Z nw)):=Wr.set _ _ _ _;have hw2:Wr w.1.size (w3.setCell ⟨bA,2,none⟩ (I Z nw)) V:=by rw[hV];exact (((((((((Wr.refl _ _).trans (Wr.set _ _ 14 _)).trans (Wr.set _ _ 1 _)).trans (Wr.set _ _ 8 _)).trans (Wr.set _ _ 9 _)).trans (Wr.set _ _ 10 _)).trans (Wr.set _ _ 11 _)).trans (Wr.set _ _ 12 _)).trans (Wr.set _ _ 13 _))
 have i8:=(k8.wr hw1 (by omega)).wr hw2 (by omega)
 have i9:=(k9.wr hw1 (by omega)).wr hw2 (by omega)
 have hs5:=(hs3.CK hw1 hsz).CK hw2 (by omega)
 have dR:Aq (w3.setCell ⟨bA,2,none⟩ (I Z nw)) o2 y SB:=HSA.out;have hS5:=dR.bx (Stp.BE hw2 t7);have nA8:bA≠w.1.size+1:=by omega
 have nA9:bA≠w.1.size+1+1:=by omega
 clear hV hw1 hw2 k7 k8 k9 kA dB hs3 dR l7 l8 l9;have c7:=i7.cell;have cA:=iA.cell;have c8:=i8.cell;have z8:=i8.free;have l8:=i8.lt;have c9:=i9.cell;have z9:=i9.free;have l9:=i9.lt;have hres:=Qa (jt i8 i9 (by omega) ⟨hb,0,⟨a0,a1,a2,a3,a4,a5⟩,⟨a0,a1,a2,a3,a4,a5⟩,true⟩ ⟨1,0,nw⟩)
 have hrs:=Qa (wh hs5 (b6:=(w.1.size+1)) (b7:=(w.1.size+1+1)) (by omega) (by omega) ⟨hb,0,⟨a0,a1,a2,a3,a4,a5⟩,⟨a0,a1,a2,a3,a4,a5⟩,true⟩ ⟨1,0,nw⟩)
 have fO:=Qa (hS5.bx (ya V (w.1.size+1) (w.1.size+1+1) (o:=o2) t8 t9 ⟨hb,0,⟨a0,a1,a2,a3,a4,a5⟩,⟨a0,a1,a2,a3,a4,a5⟩,true⟩ ⟨1,0,nw⟩));clear i7 iA i8 i9 hS5 hs5;go_region
 all_goals
  go_wp2_with fail;change bodyPost _ _ _ _ _ (jy V (w.1.size+1) (w.1.size+1+1) ⟨hb,0,⟨a0,a1,a2,a3,a4,a5⟩,⟨a0,a1,a2,a3,a4,a5⟩,true⟩ ⟨1,0,nw⟩).drew;generalize jy V (w.1.size+1) (w.1.size+1+1) ⟨hb,0,⟨a0,a1,a2,a3,a4,a5⟩,⟨a0,a1,a2,a3,a4,a5⟩,true⟩ ⟨1,0,nw⟩=X at *;exact bodyPost_ret (ze _ _ 8 9 rfl rfl rfl (qj hres.out.1) (qj hres.out.2)) rfl ⟨rfl,o2,fO.out.below (qf (qd _)),HI2.out,hrs.out.drew⟩
def qn6 (hS:Aq w o y S) (hI:Inv S) (hb hn a0 a1 a2 a3 a4 a5 s0 s1 s2 s3 s4 s5:Int) (hl:Bool) (nb:Int) (hi:i<S.Au.length) (he:(S.AW i).2≠0) :
  Ab Tryz.prog 152 #[ptr y.sb,I Z i,I Z nb,Ak #[I Z hb,I Z hn,I Z a0,I Z a1,I Z a2,I Z a3,I Z a4,I Z a5,I Z s0,I Z s1,I Z s2,I Z s3,I Z s4,I Z s5,.bool hl]] w fun e' w'=>e'=O (Aj #[AE.v ⟨nb,hn,⟨a0,a1,a2,a3,a4,a5⟩,⟨s0,s1,s2,s3,s4,s5⟩,hl⟩,A0.val ⟨1,(S.AW i).2,0⟩])/\Left y (S.AW i).1 o w w':=by
 obtain⟨o1,ho1⟩:∃ o1,o1=ext o w.1.size (y.l.id+1,0):=⟨_,rfl⟩;have h1:=hS.retag (o':=o1) fun b hb=>by rw[ho1];exact qr hb
 have hS0:Stp (qo y) o o1 w w:=by rw[ho1];exact (Stp.refl _ o w).ext _ _ (Qk _)
 have hbx:∀ b,w.1.size<=b->CL y (o1 b):=fun b hb=>by rw[ho1];exact qz hb
 clear ho1 hS;obtain⟨W,hW⟩:=Ja0 ((((w.alloc (ARu #[I Z hb,I Z hn,I Z a0,I Z a1,I Z a2,I Z a3,I Z a4,I Z a5,I Z s0,I Z s1,I Z s2,I Z s3,I Z s4,I Z s5,.bool hl] 58)).alloc (ARu #[I Z 0,I Z 0,I Z 0,I Z 0,I Z 0,I Z 0,I Z 0,I Z 0,I Z 0,I Z 0,I Z 0,I Z 0,I Z 0,I Z 0,.bool false] 58)).alloc (ARu #[I Z 0,I Z 0,I Z 0] 54)));have hbW:Ae w.1.size w W:=by rw[hW];exact qc (qc (qc (qd w) _) _) _
 have k7:Al W w.1.size #[I Z hb,I Z hn,I Z a0,I Z a1,I Z a2,I Z a3,I Z a4,I Z a5,I Z s0,I Z s1,I Z s2,I Z s3,I Z s4,I Z s5,.bool hl] 58:=by rw[hW];exact ((Al.new w _ _).alloc _).alloc _
 have k8:Al W (w.1.size+1) #[I Z 0,I Z 0,I Z 0,I Z 0,I Z 0,I Z 0,I Z 0,I Z 0,I Z 0,I Z 0,I Z 0,I Z 0,I Z 0,I Z 0,.bool false] 58:=by rw[hW];exact (Al.Ap _ _ _ _ _ (by simp) rfl).alloc _
 have k9:Al W (w.1.size+1+1) #[I Z 0,I Z 0,I Z 0] 54:=by rw[hW];exact Al.Ap _ _ _ _ _ (by simp) rfl
 have hSW:=h1.below hbW;have cZ:Stp (qo y) o o1 w W:=hS0.trans (Stp.of_below hbW);have HC:=Qa (fun X o2 (h2:Aq X o2 y S)=>qmw h2 hI hi)
 have HB:=Qa hbx;generalize (S.AW i).1=SB at *;generalize (S.AW i).2=ee at *;clear hI hi h1 hS0 hbx;have heb:(ee != 0)=true:=by rw[bne_iff_ne];exact he
 go_enter func152,ntmps152;go_wp2_with fail;rw[<-hW];clear hW;refine (HC.out _ _ hSW).mono ?_
 rintro e2 w2 ⟨rfl,o2,hS2,hI2,hs2⟩
 have nt:∀ b,w.1.size<=b->¬qo y (o1 b):=fun b q1=>pw (HB.out b q1)
 have tg:∀ b,w.1.size<=b->b<W.1.size->CL y (o2 b):=fun b q1 q2=>by have:=HB.out b q1;rw[<-hs2.tags b q2]at this;exact this
 have t7:=tg w.1.size (by omega) k7.lt
 have t8:=tg (w.1.size+1) (by omega) k8.lt
 have t9:=tg (w.1.size+1+1) (by omega) k9.lt
 replace k7:=k7.Ao hs2 (nt _ (by omega))
 replace k8:=k8.Ao hs2 (nt _ (by omega))
 replace k9:=k9.Ao hs2 (nt _ (by omega))
 have hs3:=cZ.trans hs2;have HI2:=Qa hI2;obtain⟨w3,hw3⟩:=Ja0 (w2.alloc (ARu #[I Z 1,I Z ee,I Z 0] 54));have kA:Al w3 w2.1.size #[I Z 1,I Z ee,I Z 0] 54:=by rw[hw3];exact Al.new _ _ _
 have hb3:Ae w2.1.size w2 w3:=by rw[hw3];exact qc (qd _) _
 have l7:=k7.lt;have l8:=k8.lt;have l9:=k9.lt;replace k7:=k7.below hb3 k7.lt;replace k8:=k8.below hb3 k8.lt;replace k9:=k9.below hb3 k9.lt;have dB:=hS2.below hb3;replace hs3:=hs3.trans (Stp.of_below hb3);have hsz:w.1.size<=w2.1.size:=by omega
 clear hs2 hSW cZ HC tg nt hS2 hbW hb3;go_upto_region 2 with fail;rw[<-hw3];clear hw3;have c7:=k7.cell;have z7:=k7.free;have l7':=k7.lt;have cA:=kA.cell;have ne7:w.1.size≠w2.1.size:=by omega
 have fV:w2.1.size≠w.1.size:=by omega
 go_upto_region 4 with fail;clear c7 z7 l7' cA;obtain⟨bA,bQ⟩:=Ja0 w2.1.size;rw[<-bQ]at kA ne7 fV hsz l7 l8 l9 ⊢;clear bQ;obtain⟨V,hV⟩:=Ja0 (w3.setCell ⟨w.1.size,0,none⟩ (I Z nb));rw[<-hV];have i7:Al V w.1.size #[I Z nb,I Z hn,I Z a0,I Z a1,I Z a2,I Z a3,I Z a4,I Z a5,I Z s0,I Z s1,I Z s2,I Z s3,I Z s4,I Z s5,.bool hl] 58:=by
  rw[hV];have k:=k7.set 0 (I Z nb);simp only[Ad,Ai]at k;exact k
 have iA:Al V bA #[I Z 1,I Z ee,I Z 0] 54:=by rw[hV];exact kA.Am (a:=⟨w.1.size,0,none⟩) fV (I Z nb)
 have hw2:Wr w.1.size w3 V:=by rw[hV];exact Wr.set _ _ 0 _
 have i8:=k8.wr hw2 (by omega)
 have i9:=k9.wr hw2 (by omega)
 have hs5:=hs3.CK hw2 (by omega)
 have hS5:=dB.bx (Stp.BE hw2 t7);have nA8:bA≠w.1.size+1:=by omega
 have nA9:bA≠w.1.size+1+1:=by omega
 clear hV hw2 k7 k8 k9 kA dB hs3 l7 l8 l9;have c7:=i7.cell;have cA:=iA.cell;have c8:=i8.cell;have z8:=i8.free;have l8:=i8.lt;have c9:=i9.cell;have z9:=i9.free;have l9:=i9.lt;have hres:=Qa (jt i8 i9 (by omega) ⟨nb,hn,⟨a0,a1,a2,a3,a4,a5⟩,⟨s0,s1,s2,s3,s4,s5⟩,hl⟩ ⟨1,ee,0⟩)
 have hrs:=Qa (wh hs5 (b6:=(w.1.size+1)) (b7:=(w.1.size+1+1)) (by omega) (by omega) ⟨nb,hn,⟨a0,a1,a2,a3,a4,a5⟩,⟨s0,s1,s2,s3,s4,s5⟩,hl⟩ ⟨1,ee,0⟩)
 have fO:=Qa (hS5.bx (ya V (w.1.size+1) (w.1.size+1+1) (o:=o2) t8 t9 ⟨nb,hn,⟨a0,a1,a2,a3,a4,a5⟩,⟨s0,s1,s2,s3,s4,s5⟩,hl⟩ ⟨1,ee,0⟩));clear i7 iA i8 i9 hS5 hs5;go_region
 all_goals
  go_wp2_with fail;change bodyPost _ _ _ _ _ (jy V (w.1.size+1) (w.1.size+1+1) ⟨nb,hn,⟨a0,a1,a2,a3,a4,a5⟩,⟨s0,s1,s2,s3,s4,s5⟩,hl⟩ ⟨1,ee,0⟩).drew;generalize jy V (w.1.size+1) (w.1.size+1+1) ⟨nb,hn,⟨a0,a1,a2,a3,a4,a5⟩,⟨s0,s1,s2,s3,s4,s5⟩,hl⟩ ⟨1,ee,0⟩=X at *;exact bodyPost_ret (ze _ _ 8 9 rfl rfl rfl (qj hres.out.1) (qj hres.out.2)) rfl ⟨rfl,o2,fO.out.below (qf (qd _)),HI2.out,hrs.out.drew⟩
def qlk (hS:Aq w o y S) (hI:Inv S) (hb hn a0 a1 a2 a3 a4 a5 s0 s1 s2 s3 s4 s5:Int) (hl:Bool) (hc:S.Dg i=true) (he:(S.AL i).e=0) (hb0:0<=hb/\hb<=4096) :
  Ab Tryz.prog 153 #[ptr y.sb,I Z i,Ak #[I Z hb,I Z hn,I Z a0,I Z a1,I Z a2,I Z a3,I Z a4,I Z a5,I Z s0,I Z s1,I Z s2,I Z s3,I Z s4,I Z s5,.bool hl]] w fun e' w'=>e'=O (Aj #[AE.v ⟨(hb+1),0,⟨a0,a1,a2,a3,a4,a5⟩,⟨a0,a1,a2,a3,a4,a5⟩,false⟩,A0.val ⟨3,0,(S.AL i).v⟩])/\Left y (S.AL i).S o w w':=by
 obtain⟨o1,ho1⟩:∃ o1,o1=ext o w.1.size (y.l.id+1,0):=⟨_,rfl⟩;have h1:=hS.retag (o':=o1) fun b hb=>by rw[ho1];exact qr hb
 have hS0:Stp (qo y) o o1 w w:=by rw[ho1];exact (Stp.refl _ o w).ext _ _ (Qk _)
 have hbx:∀ b,w.1.size<=b->CL y (o1 b):=fun b hb=>by rw[ho1];exact qz hb
 clear ho1 hS;obtain⟨W,hW⟩:=Ja0 ((((w.alloc (ARu #[I Z hb,I Z hn,I Z a0,I Z a1,I Z a2,I Z a3,I Z a4,I Z a5,I Z s0,I Z s1,I Z s2,I Z s3,I Z s4,I Z s5,.bool hl] 58)).alloc (ARu #[I Z 0,I Z 0,I Z 0,I Z 0,I Z 0,I Z 0,I Z 0,I Z 0,I Z 0,I Z 0,I Z 0,I Z 0,I Z 0,I Z 0,.bool false] 58)).alloc (ARu #[I Z 0,I Z 0,I Z 0] 54)));have hbW:Ae w.1.size w W:=by rw[hW];exact qc (qc (qc (qd w) _) _) _
 have k7:Al W w.1.size #[I Z hb,I Z hn,I Z a0,I Z a1,I Z a2,I Z a3,I Z a4,I Z a5,I Z s0,I Z s1,I Z s2,I Z s3,I Z s4,I Z s5,.bool hl] 58:=by rw[hW];exact ((Al.new w _ _).alloc _).alloc _
 have k8:Al W (w.1.size+1) #[I Z 0,I Z 0,I Z 0,I Z 0,I Z 0,I Z 0,I Z 0,I Z 0,I Z 0,I Z 0,I Z 0,I Z 0,I Z 0,I Z 0,.bool false] 58:=by rw[hW];exact (Al.Ap _ _ _ _ _ (by simp) rfl).alloc _
 have k9:Al W (w.1.size+1+1) #[I Z 0,I Z 0,I Z 0] 54:=by rw[hW];exact Al.Ap _ _ _ _ _ (by simp) rfl
 have hSW:=h1.below hbW;have cZ:Stp (qo y) o o1 w W:=hS0.trans (Stp.of_below hbW);have HC:=Qa (fun X o2 (h2:Aq X o2 y S)=>qhv h2 hI hc)
 have HB:=Qa hbx;obtain⟨b1,b2⟩:=hb0;generalize S.AL i=R at *;clear hI hc h1 hS0 hbx;rw[he]at HC;go_enter func153,ntmps153;go_wp2_with fail;rw[<-hW];clear hW;refine (HC.out _ _ hSW).mono ?_
 rintro e2 w2 ⟨rfl,o2,hS2,hI2,hs2⟩
 have nt:∀ b,w.1.size<=b->¬qo y (o1 b):=fun b q1=>pw (HB.out b q1)
 have tg:∀ b,w.1.size<=b->b<W.1.size->CL y (o2 b):=fun b q1 q2=>by have:=HB.out b q1;rw[<-hs2.tags b q2]at this;exact this
 have t7:=tg w.1.size (by omega) k7.lt
 have t8:=tg (w.1.size+1) (by omega) k8.lt
 have t9:=tg (w.1.size+1+1) (by omega) k9.lt
 replace k7:=k7.Ao hs2 (nt _ (by omega))
 replace k8:=k8.Ao hs2 (nt _ (by omega))
 replace k9:=k9.Ao hs2 (nt _ (by omega))
 have hs3:=cZ.trans hs2;have HI2:=Qa hI2;clear hs2 hSW cZ HC tg nt hbW hI2;have c7:=k7.cell;have z7:=k7.free;have l7:=k7.lt;go_upto_region 8 with fail;obtain⟨V,hV⟩:=Ja0 ((((((((((w2.setCell ⟨w.1.size,14,none⟩ (.bool false)).setCell ⟨w.1.size,1,none⟩ (I Z 0)).setCell ⟨w.1.size,0,none⟩ (I Z (hb+1))).setCell ⟨w.1.size,8,none⟩ (I Z a0)).setCell ⟨w.1.size,9,none⟩ (I Z a1)).setCell ⟨w.1.size,10,none⟩ (I Z a2)).setCell ⟨w.1.size,11,none⟩ (I Z a3)).setCell ⟨w.1.size,12,none⟩ (I Z a4)).setCell ⟨w.1.size,13,none⟩ (I Z a5)));rw[<-hV];have i7:Al V w.1.size #[I Z (hb+1),I Z 0,I Z a0,I Z a1,I Z a2,I Z a3,I Z a4,I Z a5,I Z a0,I Z a1,I Z a2,I Z a3,I Z a4,I Z a5,.bool false] 58:=by
  rw[hV];have k:=(((((((((k7.set 14 (.bool false)).set 1 (I Z 0)).set 0 (I Z (hb+1))).set 8 (I Z a0)).set 9 (I Z a1)).set 10 (I Z a2)).set 11 (I Z a3)).set 12 (I Z a4)).set 13 (I Z a5));simp only[Ad,Ai,aa]at k;exact k
 have hw2:Wr w.1.size w2 V:=by rw[hV];exact ((((((((((Wr.refl _ _).trans (Wr.set _ _ 14 _)).trans (Wr.set _ _ 1 _)).trans (Wr.set _ _ 0 _)).trans (Wr.set _ _ 8 _)).trans (Wr.set _ _ 9 _)).trans (Wr.set _ _ 10 _)).trans (Wr.set _ _ 11 _)).trans (Wr.set _ _ 12 _)).trans (Wr.set _ _ 13 _))
 have i8:=k8.wr hw2 (by omega)
 have i9:=k9.wr hw2 (by omega)
 have hs5:=hs3.CK hw2 (by omega)
 have hS5:=hS2.bx (Stp.BE hw2 t7);clear hV hw2 k7 k8 k9 hS2 hs3 l7 c7 z7;have c7:=i7.cell;have c8:=i8.cell;have z8:=i8.free;have l8:=i8.lt;have c9:=i9.cell;have z9:=i9.free;have l9:=i9.lt;have hres:=Qa (jt i8 i9 (by omega) ⟨(hb+1),0,⟨a0,a1,a2,a3,a4,a5⟩,⟨a0,a1,a2,a3,a4,a5⟩,false⟩ ⟨3,0,R.v⟩)
 have hrs:=Qa (wh hs5 (b6:=(w.1.size+1)) (b7:=(w.1.size+1+1)) (by omega) (by omega) ⟨(hb+1),0,⟨a0,a1,a2,a3,a4,a5⟩,⟨a0,a1,a2,a3,a4,a5⟩,false⟩ ⟨3,0,R.v⟩)
 have fO:=Qa (hS5.bx (ya V (w.1.size+1) (w.1.size+1+1) (o:=o2) t8 t9 ⟨(hb+1),0,⟨a0,a1,a2,a3,a4,a5⟩,⟨a0,a1,a2,a3,a4,a5⟩,false⟩ ⟨3,0,R.v⟩));clear i7 i8 i9 hS5 hs5;go_wp2_with fail;change bodyPost _ _ _ _ _ (jy V (w.1.size+1) (w.1.size+1+1) ⟨(hb+1),0,⟨a0,a1,a2,a3,a4,a5⟩,⟨a0,a1,a2,a3,a4,a5⟩,false⟩ ⟨3,0,R.v⟩);generalize jy V (w.1.size+1) (w.1.size+1+1) ⟨(hb+1),0,⟨a0,a1,a2,a3,a4,a5⟩,⟨a0,a1,a2,a3,a4,a5⟩,false⟩ ⟨3,0,R.v⟩=X at *;exact bodyPost_ret (ze _ _ 6 7 rfl rfl rfl hres.out.1 hres.out.2) rfl ⟨rfl,o2,fO.out,HI2.out,hrs.out⟩
def qk8 (hS:Aq w o y S) (hI:Inv S) (hb hn a0 a1 a2 a3 a4 a5 s0 s1 s2 s3 s4 s5:Int) (hl:Bool) (hc:S.Dg i=true) (he:(S.AL i).e≠0)  :
  Ab Tryz.prog 153 #[ptr y.sb,I Z i,Ak #[I Z hb,I Z hn,I Z a0,I Z a1,I Z a2,I Z a3,I Z a4,I Z a5,I Z s0,I Z s1,I Z s2,I Z s3,I Z s4,I Z s5,.bool hl]] w fun e' w'=>e'=O (Aj #[AE.v ⟨hb,0,⟨s0,s1,s2,s3,s4,s5⟩,⟨s0,s1,s2,s3,s4,s5⟩,false⟩,A0.val ⟨3,(S.AL i).e,0⟩])/\Left y (S.AL i).S o w w':=by
 obtain⟨o1,ho1⟩:∃ o1,o1=ext o w.1.size (y.l.id+1,0):=⟨_,rfl⟩;have h1:=hS.retag (o':=o1) fun b hb=>by rw[ho1];exact qr hb
 have hS0:Stp (qo y) o o1 w w:=by rw[ho1];exact (Stp.refl _ o w).ext _ _ (Qk _)
 have hbx:∀ b,w.1.size<=b->CL y (o1 b):=fun b hb=>by rw[ho1];exact qz hb
 clear ho1 hS;obtain⟨W,hW⟩:=Ja0 ((((w.alloc (ARu #[I Z hb,I Z hn,I Z a0,I Z a1,I Z a2,I Z a3,I Z a4,I Z a5,I Z s0,I Z s1,I Z s2,I Z s3,I Z s4,I Z s5,.bool hl] 58)).alloc (ARu #[I Z 0,I Z 0,I Z 0,I Z 0,I Z 0,I Z 0,I Z 0,I Z 0,I Z 0,I Z 0,I Z 0,I Z 0,I Z 0,I Z 0,.bool false] 58)).alloc (ARu #[I Z 0,I Z 0,I Z 0] 54)));have hbW:Ae w.1.size w W:=by rw[hW];exact qc (qc (qc (qd w) _) _) _
 have k7:Al W w.1.size #[I Z hb,I Z hn,I Z a0,I Z a1,I Z a2,I Z a3,I Z a4,I Z a5,I Z s0,I Z s1,I Z s2,I Z s3,I Z s4,I Z s5,.bool hl] 58:=by rw[hW];exact ((Al.new w _ _).alloc _).alloc _
 have k8:Al W (w.1.size+1) #[I Z 0,I Z 0,I Z 0,I Z 0,I Z 0,I Z 0,I Z 0,I Z 0,I Z 0,I Z 0,I Z 0,I Z 0,I Z 0,I Z 0,.bool false] 58:=by rw[hW];exact (Al.Ap _ _ _ _ _ (by simp) rfl).alloc _
 have k9:Al W (w.1.size+1+1) #[I Z 0,I Z 0,I Z 0] 54:=by rw[hW];exact Al.Ap _ _ _ _ _ (by simp) rfl
 have hSW:=h1.below hbW;have cZ:Stp (qo y) o o1 w W:=hS0.trans (Stp.of_below hbW);have HC:=Qa (fun X o2 (h2:Aq X o2 y S)=>qhv h2 hI hc)
 have HB:=Qa hbx;have HK:=Qa (fun X=>show Ab Tryz.prog 212 #[Ak #[I Z hb,I Z hn,I Z a0,I Z a1,I Z a2,I Z a3,I Z a4,I Z a5,I Z s0,I Z s1,I Z s2,I Z s3,I Z s4,I Z s5,.bool hl]] X fun e w'=>e=O (Ak #[I Z hb,I Z 0,I Z s0,I Z s1,I Z s2,I Z s3,I Z s4,I Z s5,I Z s0,I Z s1,I Z s2,I Z s3,I Z s4,I Z s5,.bool false])/\Ae X.1.size X w' from Tv ⟨hb,hn,⟨a0,a1,a2,a3,a4,a5⟩,⟨s0,s1,s2,s3,s4,s5⟩,hl⟩ X)
 generalize S.AL i=R at *;clear hI hc h1 hS0 hbx;have heb:(R.e != 0)=true:=by rw[bne_iff_ne];exact he
 go_enter func153,ntmps153;go_wp2_with fail;rw[<-hW];clear hW;refine (HC.out _ _ hSW).mono ?_
 rintro e2 w2 ⟨rfl,o2,hS2,hI2,hs2⟩
 have nt:∀ b,w.1.size<=b->¬qo y (o1 b):=fun b q1=>pw (HB.out b q1)
 have tg:∀ b,w.1.size<=b->b<W.1.size->CL y (o2 b):=fun b q1 q2=>by have:=HB.out b q1;rw[<-hs2.tags b q2]at this;exact this
 have t7:=tg w.1.size (by omega) k7.lt
 have t8:=tg (w.1.size+1) (by omega) k8.lt
 have t9:=tg (w.1.size+1+1) (by omega) k9.lt
 replace k7:=k7.Ao hs2 (nt _ (by omega))
 replace k8:=k8.Ao hs2 (nt _ (by omega))
 replace k9:=k9.Ao hs2 (nt _ (by omega))
 have hs3:=cZ.trans hs2;have HI2:=Qa hI2;clear hs2 hSW cZ HC tg nt hbW hI2;have c7:=k7.cell;have z7:=k7.free;have l7:=k7.lt;go_wp2_with fail;refine (HK.out _).mono ?_
 rintro e3 V ⟨rfl,hb3⟩
 have i8:=k8.below hb3 k8.lt;have i9:=k9.below hb3 k9.lt;have hS5:=hS2.below hb3;have hs5:=hs3.trans (Stp.of_below hb3);clear k7 k8 k9 hS2 hs3 l7 c7 z7 hb3 HK;have c8:=i8.cell;have z8:=i8.free;have l8:=i8.lt;have c9:=i9.cell;have z9:=i9.free;have l9:=i9.lt;have hres:=Qa (jt i8 i9 (by omega) ⟨hb,0,⟨s0,s1,s2,s3,s4,s5⟩,⟨s0,s1,s2,s3,s4,s5⟩,false⟩ ⟨3,R.e,0⟩)
 have hrs:=Qa (wh hs5 (b6:=(w.1.size+1)) (b7:=(w.1.size+1+1)) (by omega) (by omega) ⟨hb,0,⟨s0,s1,s2,s3,s4,s5⟩,⟨s0,s1,s2,s3,s4,s5⟩,false⟩ ⟨3,R.e,0⟩)
 have fO:=Qa (hS5.bx (ya V (w.1.size+1) (w.1.size+1+1) (o:=o2) t8 t9 ⟨hb,0,⟨s0,s1,s2,s3,s4,s5⟩,⟨s0,s1,s2,s3,s4,s5⟩,false⟩ ⟨3,R.e,0⟩));clear i8 i9 hS5 hs5;go_wp2_with fail;change bodyPost _ _ _ _ _ (jy V (w.1.size+1) (w.1.size+1+1) ⟨hb,0,⟨s0,s1,s2,s3,s4,s5⟩,⟨s0,s1,s2,s3,s4,s5⟩,false⟩ ⟨3,R.e,0⟩);generalize jy V (w.1.size+1) (w.1.size+1+1) ⟨hb,0,⟨s0,s1,s2,s3,s4,s5⟩,⟨s0,s1,s2,s3,s4,s5⟩,false⟩ ⟨3,R.e,0⟩=X at *;exact bodyPost_ret (ze _ _ 6 7 rfl rfl rfl hres.out.1 hres.out.2) rfl ⟨rfl,o2,fO.out,HI2.out,hrs.out⟩
