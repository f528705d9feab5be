import Derived.Test.YteehgedabdchcaaGreatKaw
import Derived.Test.YteehgedabdchcaaGreatKax
set_option linter.all false
set_option maxRecDepth 1000000
set_option maxHeartbeats 16000000
open Go renaming World->Aa,Calls->Ab
open Go.RowKit renaming Below->Ae
open Go.Value renaming int->I,tuple->Aj,agg->Ak
open Go.IntKind renaming i64->Z
open Go.Ending renaming returned->O
namespace Go.Proofs.YteehgedabdchcaaGreat
open Go.RowKit Hp
attribute [local go_sem ↓] Go.wp_at_zero Go.wp_at_succ
structure TR where
 S:Al
 h:AD
 a:Bf
def CQ (R:Bv)(h:AD)(A:Nat):TR:=⟨R.S,h.Mw A R.v R.e,Ek (R.S.Bt R.v.toNat) R.e⟩
def vy (S:Al)(v e:Int)(h:AD):TR:=⟨S,h.ended e,kw v e⟩
def AD.at (h:AD)(A:Nat):Nat:=(h.r.get A).toNat
def Al.A6 (S:Al)(i:Nat)(h:AD)(d:Ay):TR:=
 if d.k=1 then CQ (S.alloc i ⟨d.i.toNat,d.n.toNat,false,false⟩) h d.A
 else if d.k=2 then CQ (S.alloc i ⟨d.i.toNat,d.n.toNat,false,true⟩) h d.A
 else if d.k=3 then CQ (S.Az i (h.at d.B)) h d.A
 else if d.k=4 then CQ (S.get i (h.at d.B) d.i.toNat) h d.A
 else if d.k=9 then CQ (S.load i (h.at d.B)) h d.A
 else if d.k=10 then CQ (S.take i) h d.A
 else if d.k=5 then vy (S.put i (h.at d.A) d.i.toNat (h.at d.B)).S 0 (S.put i (h.at d.A) d.i.toNat (h.at d.B)).e h
 else if d.k=6 then vy (S.read i (h.at d.A) d.i.toNat).S (S.read i (h.at d.A) d.i.toNat).v (S.read i (h.at d.A) d.i.toNat).e h
 else if d.k=7 then vy (S.write i (h.at d.A) d.i.toNat d.n).S 0 (S.write i (h.at d.A) d.i.toNat d.n).e h
 else if d.k=8 then vy (S.free i (h.at d.A)).S 0 (S.free i (h.at d.A)).e h
 else if d.k=11 then vy S (if h.at d.A=h.at d.B then 1 else 0) 0 h
 else if d.k=12 then vy S 0 0 (h.put d.A (h.at d.B))
 else if d.k=13 then vy S 0 0 (h.put d.A 0)
 else ⟨S.abort i,{ h.back with b:=h.b+1 },⟨2,0,0⟩⟩
theorem gv (S:Al)(i:Nat)(h:AD)(d:Ay)(e:d.k=1):S.A6 i h d=CQ (S.alloc i ⟨d.i.toNat,d.n.toNat,false,false⟩) h d.A:=by
 unfold Al.A6;rw[if_pos e]
theorem dc (S:Al)(i:Nat)(h:AD)(d:Ay)(e:d.k=2):S.A6 i h d=CQ (S.alloc i ⟨d.i.toNat,d.n.toNat,false,true⟩) h d.A:=by
 unfold Al.A6;rw[if_neg (show ¬d.k=1 by omega),if_pos e]
theorem fx (S:Al)(i:Nat)(h:AD)(d:Ay)(e:d.k=3):S.A6 i h d=CQ (S.Az i (h.at d.B)) h d.A:=by
 unfold Al.A6;rw[if_neg (show ¬d.k=1 by omega),if_neg (show ¬d.k=2 by omega),if_pos e]
theorem gw (S:Al)(i:Nat)(h:AD)(d:Ay)(e:d.k=4):S.A6 i h d=CQ (S.get i (h.at d.B) d.i.toNat) h d.A:=by
 unfold Al.A6;rw[if_neg (show ¬d.k=1 by omega),if_neg (show ¬d.k=2 by omega),if_neg (show ¬d.k=3 by omega),if_pos e]
theorem gx (S:Al)(i:Nat)(h:AD)(d:Ay)(e:d.k=9):S.A6 i h d=CQ (S.load i (h.at d.B)) h d.A:=by
 unfold Al.A6;rw[if_neg (show ¬d.k=1 by omega),if_neg (show ¬d.k=2 by omega),if_neg (show ¬d.k=3 by omega),if_neg (show ¬d.k=4 by omega),if_pos e]
theorem px (S:Al)(i:Nat)(h:AD)(d:Ay)(e:d.k=10):S.A6 i h d=CQ (S.take i) h d.A:=by
 unfold Al.A6;rw[if_neg (show ¬d.k=1 by omega),if_neg (show ¬d.k=2 by omega),if_neg (show ¬d.k=3 by omega),if_neg (show ¬d.k=4 by omega),if_neg (show ¬d.k=9 by omega),if_pos e]
theorem dd (S:Al)(i:Nat)(h:AD)(d:Ay)(e:d.k=5):S.A6 i h d=vy (S.put i (h.at d.A) d.i.toNat (h.at d.B)).S 0 (S.put i (h.at d.A) d.i.toNat (h.at d.B)).e h:=by
 unfold Al.A6;rw[if_neg (show ¬d.k=1 by omega),if_neg (show ¬d.k=2 by omega),if_neg (show ¬d.k=3 by omega),if_neg (show ¬d.k=4 by omega),if_neg (show ¬d.k=9 by omega),if_neg (show ¬d.k=10 by omega),if_pos e]
theorem fz (S:Al)(i:Nat)(h:AD)(d:Ay)(e:d.k=6):S.A6 i h d=vy (S.read i (h.at d.A) d.i.toNat).S (S.read i (h.at d.A) d.i.toNat).v (S.read i (h.at d.A) d.i.toNat).e h:=by
 unfold Al.A6;rw[if_neg (show ¬d.k=1 by omega),if_neg (show ¬d.k=2 by omega),if_neg (show ¬d.k=3 by omega),if_neg (show ¬d.k=4 by omega),if_neg (show ¬d.k=9 by omega),if_neg (show ¬d.k=10 by omega),if_neg (show ¬d.k=5 by omega),if_pos e]
theorem ff (S:Al)(i:Nat)(h:AD)(d:Ay)(e:d.k=7):S.A6 i h d=vy (S.write i (h.at d.A) d.i.toNat d.n).S 0 (S.write i (h.at d.A) d.i.toNat d.n).e h:=by
 unfold Al.A6;rw[if_neg (show ¬d.k=1 by omega),if_neg (show ¬d.k=2 by omega),if_neg (show ¬d.k=3 by omega),if_neg (show ¬d.k=4 by omega),if_neg (show ¬d.k=9 by omega),if_neg (show ¬d.k=10 by omega),if_neg (show ¬d.k=5 by omega),if_neg (show ¬d.k=6 by omega),if_pos e]
theorem fw (S:Al)(i:Nat)(h:AD)(d:Ay)(e:d.k=8):S.A6 i h d=vy (S.free i (h.at d.A)).S 0 (S.free i (h.at d.A)).e h:=by
 unfold Al.A6;rw[if_neg (show ¬d.k=1 by omega),if_neg (show ¬d.k=2 by omega),if_neg (show ¬d.k=3 by omega),if_neg (show ¬d.k=4 by omega),if_neg (show ¬d.k=9 by omega),if_neg (show ¬d.k=10 by omega),if_neg (show ¬d.k=5 by omega),if_neg (show ¬d.k=6 by omega),if_neg (show ¬d.k=7 by omega),if_pos e]
theorem pi (S:Al)(i:Nat)(h:AD)(d:Ay)(e:d.k=11):S.A6 i h d=vy S (if h.at d.A=h.at d.B then 1 else 0) 0 h:=by
 unfold Al.A6;rw[if_neg (show ¬d.k=1 by omega),if_neg (show ¬d.k=2 by omega),if_neg (show ¬d.k=3 by omega),if_neg (show ¬d.k=4 by omega),if_neg (show ¬d.k=9 by omega),if_neg (show ¬d.k=10 by omega),if_neg (show ¬d.k=5 by omega),if_neg (show ¬d.k=6 by omega),if_neg (show ¬d.k=7 by omega),if_neg (show ¬d.k=8 by omega),if_pos e]
theorem ux (S:Al)(i:Nat)(h:AD)(d:Ay)(e:d.k=12):S.A6 i h d=vy S 0 0 (h.put d.A (h.at d.B)):=by
 unfold Al.A6;rw[if_neg (show ¬d.k=1 by omega),if_neg (show ¬d.k=2 by omega),if_neg (show ¬d.k=3 by omega),if_neg (show ¬d.k=4 by omega),if_neg (show ¬d.k=9 by omega),if_neg (show ¬d.k=10 by omega),if_neg (show ¬d.k=5 by omega),if_neg (show ¬d.k=6 by omega),if_neg (show ¬d.k=7 by omega),if_neg (show ¬d.k=8 by omega),if_neg (show ¬d.k=11 by omega),if_pos e]
theorem pd (S:Al)(i:Nat)(h:AD)(d:Ay)(e:d.k=13):S.A6 i h d=vy S 0 0 (h.put d.A 0):=by
 unfold Al.A6;rw[if_neg (show ¬d.k=1 by omega),if_neg (show ¬d.k=2 by omega),if_neg (show ¬d.k=3 by omega),if_neg (show ¬d.k=4 by omega),if_neg (show ¬d.k=9 by omega),if_neg (show ¬d.k=10 by omega),if_neg (show ¬d.k=5 by omega),if_neg (show ¬d.k=6 by omega),if_neg (show ¬d.k=7 by omega),if_neg (show ¬d.k=8 by omega),if_neg (show ¬d.k=11 by omega),if_neg (show ¬d.k=12 by omega),if_pos e]
theorem py (S:Al)(i:Nat)(h:AD)(d:Ay)(e:d.k=14):S.A6 i h d=⟨S.abort i,{ h.back with b:=h.b+1 },⟨2,0,0⟩⟩:=by
 unfold Al.A6;rw[if_neg (show ¬d.k=1 by omega),if_neg (show ¬d.k=2 by omega),if_neg (show ¬d.k=3 by omega),if_neg (show ¬d.k=4 by omega),if_neg (show ¬d.k=9 by omega),if_neg (show ¬d.k=10 by omega),if_neg (show ¬d.k=5 by omega),if_neg (show ¬d.k=6 by omega),if_neg (show ¬d.k=7 by omega),if_neg (show ¬d.k=8 by omega),if_neg (show ¬d.k=11 by omega),if_neg (show ¬d.k=12 by omega),if_neg (show ¬d.k=13 by omega)]
structure Ay.ok (d:Ay):Prop where
 k:1<=d.k/\d.k<=14
 A:d.A<6
 B:d.B<6
 i:0<=d.i
 n:-9223372036854775808<=d.n/\d.n<=9223372036854775807
 s:d.k=1\/d.k=2->d.i<=4/\0<=d.n/\d.n<=4
def P9 (S:Al)(r:R6):Prop:=∀ j,j<6->∃ p:Nat,r.get j=p/\Ef S p
def NO (R:Bv):Prop:=R.e=0->∃ p:Nat,R.v=p/\Ef R.S p
theorem P9.at {S:Al}{h:AD}(hr:P9 S h.r){A:Nat}(hA:A<6):h.r.get A=(h.at A:Int)/\Ef S (h.at A):=by
 obtain⟨p,h1,h2⟩:=hr A hA;unfold AD.at;rw[h1,Int.toNat_natCast];exact⟨rfl,h2⟩
theorem Kq {r:Bv}(i:Nat)(h:∃ p:Nat,r.v=p):NO (r.fin i):=by
 intro _;unfold Bv.fin;split
 ·exact⟨0,rfl,trivial⟩
 ·split
  ·obtain⟨p,h⟩:=h;exact⟨p,h,trivial⟩
  ·exact⟨0,rfl,trivial⟩
theorem g7 (S:Al){r:Bv}(i:Nat)(h:∃ p:Nat,r.v=p):NO (S.AH i r):=by
 unfold Al.AH;split
 ·exact Kq i h
 ·exact fun _=>⟨0,rfl,trivial⟩
section
variable {w w' : Aa} {o o' : Own} {y : A3} {S : Al} {i : Nat}
theorem T3 (i:Nat)(s:B3):NO (S.alloc i s):=g7 S i ⟨_,rfl⟩
theorem Hm (i q:Nat):NO (S.Az i q):=by
 refine g7 S i ?_;unfold Al.BK;split
 ·exact⟨0,rfl⟩
 ·split
  ·exact⟨0,rfl⟩
  ·split
   ·exact⟨0,rfl⟩
   ·exact⟨_,rfl⟩
theorem LV (i p j:Nat):NO (S.get i p j):=by
 refine g7 S i ?_;unfold Al.CX;split
 ·exact⟨0,rfl⟩
 ·exact⟨_,rfl⟩
theorem GP (i p:Nat):NO (S.load i p):=by
 refine g7 S i ?_;unfold Al.Ca Al.CC;split
 ·exact⟨0,rfl⟩
 ·split
  ·exact⟨0,rfl⟩
  ·split
   ·exact⟨0,rfl⟩
   ·split
    ·exact⟨0,rfl⟩
    ·split
     ·exact⟨_,rfl⟩
     ·exact⟨0,rfl⟩
theorem Ha (i:Nat):NO (S.take i):=by
 refine g7 S i ?_;unfold Al.B9;split
 ·exact⟨0,rfl⟩
 ·split
  ·exact⟨0,rfl⟩
  ·split
   ·exact⟨0,rfl⟩
   ·exact⟨_,rfl⟩
structure Tdy (S:Al)(i:Nat)(h:AD):Prop where
 inv:Inv S
 Dy:S.Dy i=true
 lv:(S.t i).live=true
 rg:P9 S h.r
 n:0<=h.n/\h.n<=4096
 b:0<=h.b/\h.b<=4096
theorem Xh (hS:Ap w o y S)(h:AD)(d:Ay)(hd:d.ok)(hT:Tdy S i h) :
  Ab Tryz.prog 154 #[ptr y.sb,I Z i,d.v,h.v] w fun e' w'=>e'=O (Aj #[(S.A6 i h d).h.v,(S.A6 i h d).a.val])/\Left y (S.A6 i h d).S o w w':=by
 have hA:=hd.A;have hB:=hd.B;obtain⟨ea,pa⟩:=hT.rg.at hA;obtain⟨eb,pb⟩:=hT.rg.at hB;obtain⟨hb,hn,⟨a0,a1,a2,a3,a4,a5⟩,⟨s0,s1,s2,s3,s4,s5⟩,hl⟩:=h;obtain⟨k,A,B,fi,fn⟩:=d;have hn0:=hT.n;have hb0:=hT.b;have hk:=hd.k;have hi:=hd.i;have hfn:=hd.n;have hs:=hd.s;simp only at hA hB ea eb pa pb hn0 hb0 hk hi hfn hs;have hlt:=zm hT.Dy;obtain rfl|rfl|rfl|rfl|rfl|rfl|rfl|rfl|rfl|rfl|rfl|rfl|rfl|rfl:k=1\/k=2\/k=3\/k=4\/k=5\/k=6\/k=7\/k=8\/k=9\/k=10\/k=11\/k=12\/k=13\/k=14:=by omega
 ·rw[gv _ _ _ _ rfl]
  exact yg hS hT.inv hb hn a0 a1 a2 a3 a4 a5 s0 s1 s2 s3 s4 s5 hl A B fi fn _ _ 1 _ ⟨hT.Dy,.inl ⟨rfl,rfl,⟨hi,(hs (.inl rfl)).1⟩,(hs (.inl rfl)).2⟩⟩ (T3 i _) hA hB ea eb hn0 hb0
 ·rw[dc _ _ _ _ rfl]
  exact yg hS hT.inv hb hn a0 a1 a2 a3 a4 a5 s0 s1 s2 s3 s4 s5 hl A B fi fn _ _ 2 _ ⟨hT.Dy,.inr (.inl ⟨rfl,rfl,⟨hi,(hs (.inr rfl)).1⟩,(hs (.inr rfl)).2⟩)⟩ (T3 i _) hA hB ea eb hn0 hb0
 ·rw[fx _ _ _ _ rfl]
  exact yg hS hT.inv hb hn a0 a1 a2 a3 a4 a5 s0 s1 s2 s3 s4 s5 hl A B fi fn _ _ 3 _ ⟨hT.Dy,.inr (.inr (.inl ⟨rfl,rfl,pb⟩))⟩ (Hm i _) hA hB ea eb hn0 hb0
 ·rw[gw _ _ _ _ rfl]
  exact yg hS hT.inv hb hn a0 a1 a2 a3 a4 a5 s0 s1 s2 s3 s4 s5 hl A B fi fn _ _ 4 _ ⟨hT.Dy,.inr (.inr (.inr (.inl ⟨rfl,rfl,pb,hi⟩)))⟩ (LV i _ _) hA hB ea eb hn0 hb0
 ·rw[dd _ _ _ _ rfl]
  exact mc hS hT.inv hb hn a0 a1 a2 a3 a4 a5 s0 s1 s2 s3 s4 s5 hl A B fi fn _ _ 1 5 0 _ ⟨hT.Dy,pa,.inr (.inl ⟨rfl,rfl,rfl,rfl,pb,hi⟩)⟩ hA hB ea eb hn0 hb0
 ·rw[fz _ _ _ _ rfl]
  exact mc hS hT.inv hb hn a0 a1 a2 a3 a4 a5 s0 s1 s2 s3 s4 s5 hl A B fi fn _ _ 2 6 _ _ ⟨hT.Dy,pa,.inr (.inr (.inl ⟨rfl,rfl,rfl,rfl,hi⟩))⟩ hA hB ea eb hn0 hb0
 ·rw[ff _ _ _ _ rfl]
  exact mc hS hT.inv hb hn a0 a1 a2 a3 a4 a5 s0 s1 s2 s3 s4 s5 hl A B fi fn _ _ 3 7 0 _ ⟨hT.Dy,pa,.inr (.inr (.inr ⟨rfl,rfl,rfl,rfl,hi,hfn⟩))⟩ hA hB ea eb hn0 hb0
 ·rw[fw _ _ _ _ rfl]
  exact mc hS hT.inv hb hn a0 a1 a2 a3 a4 a5 s0 s1 s2 s3 s4 s5 hl A B fi fn _ _ 0 8 0 _ ⟨hT.Dy,pa,.inl ⟨rfl,rfl,rfl,rfl⟩⟩ hA hB ea eb hn0 hb0
 ·rw[gx _ _ _ _ rfl]
  exact yg hS hT.inv hb hn a0 a1 a2 a3 a4 a5 s0 s1 s2 s3 s4 s5 hl A B fi fn _ _ 9 _ ⟨hT.Dy,.inr (.inr (.inr (.inr (.inl ⟨rfl,rfl,pb⟩))))⟩ (GP i _) hA hB ea eb hn0 hb0
 ·rw[px _ _ _ _ rfl]
  exact yg hS hT.inv hb hn a0 a1 a2 a3 a4 a5 s0 s1 s2 s3 s4 s5 hl A B fi fn _ _ 10 _ ⟨hT.Dy,.inr (.inr (.inr (.inr (.inr ⟨rfl,rfl⟩))))⟩ (Ha i) hA hB ea eb hn0 hb0
 ·rw[pi _ _ _ _ rfl]
  by_cases hab:(AD.at ⟨hb,hn,⟨a0,a1,a2,a3,a4,a5⟩,⟨s0,s1,s2,s3,s4,s5⟩,hl⟩ A)=(AD.at ⟨hb,hn,⟨a0,a1,a2,a3,a4,a5⟩,⟨s0,s1,s2,s3,s4,s5⟩,hl⟩ B)
  ·rw[if_pos hab]
   exact UQ hS hT.inv hb hn a0 a1 a2 a3 a4 a5 s0 s1 s2 s3 s4 s5 hl A B fi fn _ _ 1 (.inl ⟨hab,rfl⟩) hA hB ea eb hn0 hb0
  ·rw[if_neg hab]
   exact UQ hS hT.inv hb hn a0 a1 a2 a3 a4 a5 s0 s1 s2 s3 s4 s5 hl A B fi fn _ _ 0 (.inr ⟨hab,rfl⟩) hA hB ea eb hn0 hb0
 ·rw[ux _ _ _ _ rfl]
  exact Ya hS hT.inv hb hn a0 a1 a2 a3 a4 a5 s0 s1 s2 s3 s4 s5 hl A B fi fn _ _ hA hB ea eb hn0 hb0
 ·rw[pd _ _ _ _ rfl]
  exact qnj hS hT.inv hb hn a0 a1 a2 a3 a4 a5 s0 s1 s2 s3 s4 s5 hl A B fi fn _ _ hA hB ea eb hn0 hb0
 ·rw[py _ _ _ _ rfl]
  exact Y7 hS hT.inv hb hn a0 a1 a2 a3 a4 a5 s0 s1 s2 s3 s4 s5 hl A B fi fn _ _ hlt hT.lv hA hB ea eb hb0
end
section
variable {w w' : Aa} {o o' : Own} {y : A3} {S : Al} {i : Nat}
theorem Ht {S:Al} {i:Nat} (hi:i<S.Aw.length) (he:(S.AO i).2=0):((S.AO i).1.t i).live=true/\((S.AO i).1.t i).start=S.now:=by
 unfold Al.AO at he ⊢;split at he
 ·simp at he
 ·rename_i h1
  rw[if_neg h1];split at he
  ·rename_i h2
   rw[if_pos h2];have:((S.tx i ((S.t i).begun S.now S.next)).t i)=(S.t i).begun S.now S.next:=by
    have h3:(S.tx i ((S.t i).begun S.now S.next)).Aw[i]?=some ((S.t i).begun S.now S.next):=by simp[Al.tx,hi]
    have h4:=Al.AV (S:=S.tx i ((S.t i).begun S.now S.next)) (i:=i) (by simpa [Al.tx] using hi)
    rw[h3]at h4;injection h4 with h4;exact h4.symm
   show ((S.tx i ((S.t i).begun S.now S.next)).t i).live=true/\((S.tx i ((S.t i).begun S.now S.next)).t i).start=S.now;rw[this];exact⟨rfl,rfl⟩
  ·simp at he
theorem V6 (hS:Ap w o y S) (hI:Inv S) (hb hn a0 a1 a2 a3 a4 a5 s0 s1 s2 s3 s4 s5:Int) (hl:Bool) (nb:Int) (hi:i<S.Aw.length) (he:(S.AO i).2=0) :
  Ab Tryz.prog 152 #[ptr y.sb,I Z i,I Z nb,Ak #[I Z hb,I Z hn,I Z a0,I Z a1,I Z a2,I Z a3,I Z a4,I Z a5,I Z s0,I Z s1,I Z s2,I Z s3,I Z s4,I Z s5,.bool hl]] w fun e' w'=>e'=O (Aj #[AD.v ⟨hb,0,⟨a0,a1,a2,a3,a4,a5⟩,⟨a0,a1,a2,a3,a4,a5⟩,true⟩,Bf.val ⟨1,0,S.now⟩])/\Left y (S.AO i).1 o w w':=by
 obtain⟨o1,ho1⟩:∃ o1,o1=ext o w.heap.size (y.l.id+1,0):=⟨_,rfl⟩;have h1:=hS.retag (o':=o1) fun b hb=>by rw[ho1];exact qj hb
 have hS0:Stp (qh y) o o1 w w:=by rw[ho1];exact (Stp.refl _ o w).ext _ _ (Qk _)
 have hbx:∀ b,w.heap.size<=b->CR y (o1 b):=fun b hb=>by rw[ho1];exact qp hb
 clear ho1 hS;obtain⟨W,hW⟩:∃ W:Aa,W=(((w.alloc (.cells #[I Z hb,I Z hn,I Z a0,I Z a1,I Z a2,I Z a3,I Z a4,I Z a5,I Z s0,I Z s1,I Z s2,I Z s3,I Z s4,I Z s5,.bool hl] 58)).alloc (.cells #[I Z 0,I Z 0,I Z 0,I Z 0,I Z 0,I Z 0,I Z 0,I Z 0,I Z 0,I Z 0,I Z 0,I Z 0,I Z 0,I Z 0,.bool false] 58)).alloc (.cells #[I Z 0,I Z 0,I Z 0] 54)):=⟨_,rfl⟩;have hbW:Ae w.heap.size w W:=by rw[hW];exact qa (qa (qa (qc w) _) _) _
 have k7:Am W w.heap.size #[I Z hb,I Z hn,I Z a0,I Z a1,I Z a2,I Z a3,I Z a4,I Z a5,I Z s0,I Z s1,I Z s2,I Z s3,I Z s4,I Z s5,.bool hl] 58:=by rw[hW];exact ((Am.new w _ _).alloc _).alloc _
 have k8:Am W (w.heap.size+1) #[I Z 0,I Z 0,I Z 0,I Z 0,I Z 0,I Z 0,I Z 0,I Z 0,I Z 0,I Z 0,I Z 0,I Z 0,I Z 0,I Z 0,.bool false] 58:=by rw[hW];exact (Am.Aq _ _ _ _ _ (by simp) rfl).alloc _
 have k9:Am W (w.heap.size+1+1) #[I Z 0,I Z 0,I Z 0] 54:=by rw[hW];exact Am.Aq _ _ _ _ _ (by simp) rfl
 have hSW:=h1.below hbW;have hsW:Stp (qh y) o o1 w W:=hS0.trans (Stp.of_below hbW);have HC:=Qa (fun X o2 (h2:Ap X o2 y S)=>by have:=Vj h2 hI hi;rw[he]at this;exact this)
 have hst:(((S.AO i).1).t i).live=true/\(((S.AO i).1).t i).start=S.now:=Ht hi he;have HL:=Qa (fun X o2 (h2:Ap X o2 y (S.AO i).1) (h3:Inv (S.AO i).1)=>by have:=NF h2 h3 (i:=i) (by rw[qjp];exact hi);rw[hst.1,hst.2]at this;simp only[if_true]at this;exact this)
 have HB:=Qa hbx;generalize (S.AO i).1=SB at *;generalize S.now=nw at *;clear hI hi he hst h1 hS0 hbx;go_enter Tryz.func152,Tryz.ntmps152;go_wp2_with fail;rw[<-hW];clear hW;refine (HC.out _ _ hSW).mono ?_
 rintro e2 w2 ⟨rfl,o2,hS2,hI2,hs2⟩
 have nt:∀ b,w.heap.size<=b->¬qh y (o1 b):=fun b q1=>uh (HB.out b q1)
 have tg:∀ b,w.heap.size<=b->b<W.heap.size->CR y (o2 b):=fun b q1 q2=>by have:=HB.out b q1;rw[<-hs2.tags b q2]at this;exact this
 have t7:=tg w.heap.size (by omega) k7.lt
 have t8:=tg (w.heap.size+1) (by omega) k8.lt
 have t9:=tg (w.heap.size+1+1) (by omega) k9.lt
 replace k7:=k7.Ao hs2 (nt _ (by omega))
 replace k8:=k8.Ao hs2 (nt _ (by omega))
 replace k9:=k9.Ao hs2 (nt _ (by omega))
 have hs3:=hsW.trans hs2;have HI2:=Qa hI2;obtain⟨w3,hw3⟩:∃ w3,w3=w2.alloc (.cells #[I Z 1,I Z 0,I Z 0] 54):=⟨_,rfl⟩;have kA:Am w3 w2.heap.size #[I Z 1,I Z 0,I Z 0] 54:=by rw[hw3];exact Am.new _ _ _
 have hb3:Ae w2.heap.size w2 w3:=by rw[hw3];exact qa (qc _) _
 have l7:=k7.lt;have l8:=k8.lt;have l9:=k9.lt;replace k7:=k7.below hb3 k7.lt;replace k8:=k8.below hb3 k8.lt;replace k9:=k9.below hb3 k9.lt;have hS3:=hS2.below hb3;have HSA:=Qa (show Ap (w3.setCell ⟨w2.heap.size,2,none⟩ (I Z nw)) o2 y SB from hS2.below (qo (by rw[hw3];exact qa (qc _) _) (Qk _) _))
 replace hs3:=hs3.trans (Stp.of_below hb3);have hsz:w.heap.size<=w2.heap.size:=by omega
 clear hs2 hSW hsW HC tg nt hS2 hbW hb3;go_wp2_with fail;rw[<-hw3];clear hw3;refine (HL.out _ _ hS3 hI2).mono ?_
 rintro e4 w4 ⟨rfl,rfl⟩
 have c7:=k7.cell;have z7:=k7.free;have l7':=k7.lt;have cA:=kA.cell;have zA:=kA.free;have lA:=kA.lt;have ne7:w.heap.size≠w2.heap.size:=by omega
 have ne7':w2.heap.size≠w.heap.size:=by omega
 go_upto_region 9 with fail;clear c7 z7 l7' cA zA lA;obtain⟨bA,hbA⟩:∃ bA,bA=w2.heap.size:=⟨_,rfl⟩;rw[<-hbA]at HSA kA ne7 ne7' hsz l7 l8 l9 ⊢;clear hbA;obtain⟨V,hV⟩:∃ V,V=(((((((((w3.setCell ⟨bA,2,none⟩ (I Z nw)).setCell ⟨w.heap.size,14,none⟩ (.bool true)).setCell ⟨w.heap.size,1,none⟩ (I Z 0)).setCell ⟨w.heap.size,8,none⟩ (I Z a0)).setCell ⟨w.heap.size,9,none⟩ (I Z a1)).setCell ⟨w.heap.size,10,none⟩ (I Z a2)).setCell ⟨w.heap.size,11,none⟩ (I Z a3)).setCell ⟨w.heap.size,12,none⟩ (I Z a4)).setCell ⟨w.heap.size,13,none⟩ (I Z a5)):=⟨_,rfl⟩;rw[<-hV];have i7:Am V w.heap.size #[I Z hb,I Z 0,I Z a0,I Z a1,I Z a2,I Z a3,I Z a4,I Z a5,I Z a0,I Z a1,I Z a2,I Z a3,I Z a4,I Z a5,.bool true] 58:=by
  rw[hV];have k:=(((((((((k7.An (a:=⟨bA,2,none⟩) ne7 (I Z nw)).set 14 (.bool true)).set 1 (I Z 0)).set 8 (I Z a0)).set 9 (I Z a1)).set 10 (I Z a2)).set 11 (I Z a3)).set 12 (I Z a4)).set 13 (I Z a5));simp only[List.setIfInBounds_toArray,List.set_cons_zero,List.set_cons_succ]at k;exact k
 have iA:Am V bA #[I Z 1,I Z 0,I Z nw] 54:=by rw[hV];exact (((((((((kA.set 2 (I Z nw)).An (a:=⟨w.heap.size,14,none⟩) ne7' (.bool true)).An (a:=⟨w.heap.size,1,none⟩) ne7' (I Z 0)).An (a:=⟨w.heap.size,8,none⟩) ne7' (I Z a0)).An (a:=⟨w.heap.size,9,none⟩) ne7' (I Z a1)).An (a:=⟨w.heap.size,10,none⟩) ne7' (I Z a2)).An (a:=⟨w.heap.size,11,none⟩) ne7' (I Z a3)).An (a:=⟨w.heap.size,12,none⟩) ne7' (I Z a4)).An (a:=⟨w.heap.size,13,none⟩) ne7' (I Z a5))
 have hw1:Wr bA w3 (w3.setCell ⟨bA,2,none⟩ (I Z nw)):=Wr.set _ _ _ _;have hw2:Wr w.heap.size (w3.setCell ⟨bA,2,none⟩ (I Z nw)) V:=by rw[hV];exact (((((((((Wr.refl _ _).trans (Wr.set _ _ 14 _)).trans (Wr.set _ _ 1 _)).trans (Wr.set _ _ 8 _)).trans (Wr.set _ _ 9 _)).trans (Wr.set _ _ 10 _)).trans (Wr.set _ _ 11 _)).trans (Wr.set _ _ 12 _)).trans (Wr.set _ _ 13 _))
 have i8:=(k8.wr hw1 (by omega)).wr hw2 (by omega)
 have i9:=(k9.wr hw1 (by omega)).wr hw2 (by omega)
 have hs5:=(hs3.CL hw1 hsz).CL hw2 (by omega)
 have hS4:Ap (w3.setCell ⟨bA,2,none⟩ (I Z nw)) o2 y SB:=HSA.out;have hS5:=hS4.bx (Stp.BR hw2 t7);have nA8:bA≠w.heap.size+1:=by omega
 have nA9:bA≠w.heap.size+1+1:=by omega
 clear hV hw1 hw2 k7 k8 k9 kA hS3 hs3 hS4 l7 l8 l9;have c7:=i7.cell;have cA:=iA.cell;have c8:=i8.cell;have z8:=i8.free;have l8:=i8.lt;have c9:=i9.cell;have z9:=i9.free;have l9:=i9.lt;have hres:=Qa (zu i8 i9 (by omega) ⟨hb,0,⟨a0,a1,a2,a3,a4,a5⟩,⟨a0,a1,a2,a3,a4,a5⟩,true⟩ ⟨1,0,nw⟩)
 have hrs:=Qa (ku hs5 (b6:=(w.heap.size+1)) (b7:=(w.heap.size+1+1)) (by omega) (by omega) ⟨hb,0,⟨a0,a1,a2,a3,a4,a5⟩,⟨a0,a1,a2,a3,a4,a5⟩,true⟩ ⟨1,0,nw⟩)
 have hrS:=Qa (hS5.bx (xj V (w.heap.size+1) (w.heap.size+1+1) (o:=o2) t8 t9 ⟨hb,0,⟨a0,a1,a2,a3,a4,a5⟩,⟨a0,a1,a2,a3,a4,a5⟩,true⟩ ⟨1,0,nw⟩));clear i7 iA i8 i9 hS5 hs5;go_region
 all_goals
  go_wp2_with fail;change bodyPost _ _ _ _ _ (jd V (w.heap.size+1) (w.heap.size+1+1) ⟨hb,0,⟨a0,a1,a2,a3,a4,a5⟩,⟨a0,a1,a2,a3,a4,a5⟩,true⟩ ⟨1,0,nw⟩).drew;generalize jd V (w.heap.size+1) (w.heap.size+1+1) ⟨hb,0,⟨a0,a1,a2,a3,a4,a5⟩,⟨a0,a1,a2,a3,a4,a5⟩,true⟩ ⟨1,0,nw⟩=X at *;exact bodyPost_ret (qq _ _ 8 9 rfl rfl rfl (qi hres.out.1) (qi hres.out.2)) rfl ⟨rfl,o2,hrS.out.below (qe (qc _)),HI2.out,hrs.out.drew⟩
theorem WA (hS:Ap w o y S) (hI:Inv S) (hb hn a0 a1 a2 a3 a4 a5 s0 s1 s2 s3 s4 s5:Int) (hl:Bool) (nb:Int) (hi:i<S.Aw.length) (he:(S.AO i).2≠0) :
  Ab Tryz.prog 152 #[ptr y.sb,I Z i,I Z nb,Ak #[I Z hb,I Z hn,I Z a0,I Z a1,I Z a2,I Z a3,I Z a4,I Z a5,I Z s0,I Z s1,I Z s2,I Z s3,I Z s4,I Z s5,.bool hl]] w fun e' w'=>e'=O (Aj #[AD.v ⟨nb,hn,⟨a0,a1,a2,a3,a4,a5⟩,⟨s0,s1,s2,s3,s4,s5⟩,hl⟩,Bf.val ⟨1,(S.AO i).2,0⟩])/\Left y (S.AO i).1 o w w':=by
 obtain⟨o1,ho1⟩:∃ o1,o1=ext o w.heap.size (y.l.id+1,0):=⟨_,rfl⟩;have h1:=hS.retag (o':=o1) fun b hb=>by rw[ho1];exact qj hb
 have hS0:Stp (qh y) o o1 w w:=by rw[ho1];exact (Stp.refl _ o w).ext _ _ (Qk _)
 have hbx:∀ b,w.heap.size<=b->CR y (o1 b):=fun b hb=>by rw[ho1];exact qp hb
 clear ho1 hS;obtain⟨W,hW⟩:∃ W:Aa,W=(((w.alloc (.cells #[I Z hb,I Z hn,I Z a0,I Z a1,I Z a2,I Z a3,I Z a4,I Z a5,I Z s0,I Z s1,I Z s2,I Z s3,I Z s4,I Z s5,.bool hl] 58)).alloc (.cells #[I Z 0,I Z 0,I Z 0,I Z 0,I Z 0,I Z 0,I Z 0,I Z 0,I Z 0,I Z 0,I Z 0,I Z 0,I Z 0,I Z 0,.bool false] 58)).alloc (.cells #[I Z 0,I Z 0,I Z 0] 54)):=⟨_,rfl⟩;have hbW:Ae w.heap.size w W:=by rw[hW];exact qa (qa (qa (qc w) _) _) _
 have k7:Am W w.heap.size #[I Z hb,I Z hn,I Z a0,I Z a1,I Z a2,I Z a3,I Z a4,I Z a5,I Z s0,I Z s1,I Z s2,I Z s3,I Z s4,I Z s5,.bool hl] 58:=by rw[hW];exact ((Am.new w _ _).alloc _).alloc _
 have k8:Am W (w.heap.size+1) #[I Z 0,I Z 0,I Z 0,I Z 0,I Z 0,I Z 0,I Z 0,I Z 0,I Z 0,I Z 0,I Z 0,I Z 0,I Z 0,I Z 0,.bool false] 58:=by rw[hW];exact (Am.Aq _ _ _ _ _ (by simp) rfl).alloc _
 have k9:Am W (w.heap.size+1+1) #[I Z 0,I Z 0,I Z 0] 54:=by rw[hW];exact Am.Aq _ _ _ _ _ (by simp) rfl
 have hSW:=h1.below hbW;have hsW:Stp (qh y) o o1 w W:=hS0.trans (Stp.of_below hbW);have HC:=Qa (fun X o2 (h2:Ap X o2 y S)=>Vj h2 hI hi)
 have HB:=Qa hbx;generalize (S.AO i).1=SB at *;generalize (S.AO i).2=ee at *;clear hI hi h1 hS0 hbx;have heb:(ee != 0)=true:=by rw[bne_iff_ne];exact he
 go_enter Tryz.func152,Tryz.ntmps152;go_wp2_with fail;rw[<-hW];clear hW;refine (HC.out _ _ hSW).mono ?_
 rintro e2 w2 ⟨rfl,o2,hS2,hI2,hs2⟩
 have nt:∀ b,w.heap.size<=b->¬qh y (o1 b):=fun b q1=>uh (HB.out b q1)
 have tg:∀ b,w.heap.size<=b->b<W.heap.size->CR y (o2 b):=fun b q1 q2=>by have:=HB.out b q1;rw[<-hs2.tags b q2]at this;exact this
 have t7:=tg w.heap.size (by omega) k7.lt
 have t8:=tg (w.heap.size+1) (by omega) k8.lt
 have t9:=tg (w.heap.size+1+1) (by omega) k9.lt
 replace k7:=k7.Ao hs2 (nt _ (by omega))
 replace k8:=k8.Ao hs2 (nt _ (by omega))
 replace k9:=k9.Ao hs2 (nt _ (by omega))
 have hs3:=hsW.trans hs2;have HI2:=Qa hI2;obtain⟨w3,hw3⟩:∃ w3,w3=w2.alloc (.cells #[I Z 1,I Z ee,I Z 0] 54):=⟨_,rfl⟩;have kA:Am w3 w2.heap.size #[I Z 1,I Z ee,I Z 0] 54:=by rw[hw3];exact Am.new _ _ _
 have hb3:Ae w2.heap.size w2 w3:=by rw[hw3];exact qa (qc _) _
 have l7:=k7.lt;have l8:=k8.lt;have l9:=k9.lt;replace k7:=k7.below hb3 k7.lt;replace k8:=k8.below hb3 k8.lt;replace k9:=k9.below hb3 k9.lt;have hS3:=hS2.below hb3;replace hs3:=hs3.trans (Stp.of_below hb3);have hsz:w.heap.size<=w2.heap.size:=by omega
 clear hs2 hSW hsW HC tg nt hS2 hbW hb3;go_upto_region 2 with fail;rw[<-hw3];clear hw3;have c7:=k7.cell;have z7:=k7.free;have l7':=k7.lt;have cA:=kA.cell;have ne7:w.heap.size≠w2.heap.size:=by omega
 have ne7':w2.heap.size≠w.heap.size:=by omega
 go_upto_region 4 with fail;clear c7 z7 l7' cA;obtain⟨bA,hbA⟩:∃ bA,bA=w2.heap.size:=⟨_,rfl⟩;rw[<-hbA]at kA ne7 ne7' hsz l7 l8 l9 ⊢;clear hbA;obtain⟨V,hV⟩:∃ V,V=w3.setCell ⟨w.heap.size,0,none⟩ (I Z nb):=⟨_,rfl⟩;rw[<-hV];have i7:Am V w.heap.size #[I Z nb,I Z hn,I Z a0,I Z a1,I Z a2,I Z a3,I Z a4,I Z a5,I Z s0,I Z s1,I Z s2,I Z s3,I Z s4,I Z s5,.bool hl] 58:=by
  rw[hV];have k:=k7.set 0 (I Z nb);simp only[List.setIfInBounds_toArray,List.set_cons_zero]at k;exact k
 have iA:Am V bA #[I Z 1,I Z ee,I Z 0] 54:=by rw[hV];exact kA.An (a:=⟨w.heap.size,0,none⟩) ne7' (I Z nb)
 have hw2:Wr w.heap.size w3 V:=by rw[hV];exact Wr.set _ _ 0 _
 have i8:=k8.wr hw2 (by omega)
 have i9:=k9.wr hw2 (by omega)
 have hs5:=hs3.CL hw2 (by omega)
 have hS5:=hS3.bx (Stp.BR hw2 t7);have nA8:bA≠w.heap.size+1:=by omega
 have nA9:bA≠w.heap.size+1+1:=by omega
 clear hV hw2 k7 k8 k9 kA hS3 hs3 l7 l8 l9;have c7:=i7.cell;have cA:=iA.cell;have c8:=i8.cell;have z8:=i8.free;have l8:=i8.lt;have c9:=i9.cell;have z9:=i9.free;have l9:=i9.lt;have hres:=Qa (zu i8 i9 (by omega) ⟨nb,hn,⟨a0,a1,a2,a3,a4,a5⟩,⟨s0,s1,s2,s3,s4,s5⟩,hl⟩ ⟨1,ee,0⟩)
 have hrs:=Qa (ku hs5 (b6:=(w.heap.size+1)) (b7:=(w.heap.size+1+1)) (by omega) (by omega) ⟨nb,hn,⟨a0,a1,a2,a3,a4,a5⟩,⟨s0,s1,s2,s3,s4,s5⟩,hl⟩ ⟨1,ee,0⟩)
 have hrS:=Qa (hS5.bx (xj V (w.heap.size+1) (w.heap.size+1+1) (o:=o2) t8 t9 ⟨nb,hn,⟨a0,a1,a2,a3,a4,a5⟩,⟨s0,s1,s2,s3,s4,s5⟩,hl⟩ ⟨1,ee,0⟩));clear i7 iA i8 i9 hS5 hs5;go_region
 all_goals
  go_wp2_with fail;change bodyPost _ _ _ _ _ (jd V (w.heap.size+1) (w.heap.size+1+1) ⟨nb,hn,⟨a0,a1,a2,a3,a4,a5⟩,⟨s0,s1,s2,s3,s4,s5⟩,hl⟩ ⟨1,ee,0⟩).drew;generalize jd V (w.heap.size+1) (w.heap.size+1+1) ⟨nb,hn,⟨a0,a1,a2,a3,a4,a5⟩,⟨s0,s1,s2,s3,s4,s5⟩,hl⟩ ⟨1,ee,0⟩=X at *;exact bodyPost_ret (qq _ _ 8 9 rfl rfl rfl (qi hres.out.1) (qi hres.out.2)) rfl ⟨rfl,o2,hrS.out.below (qe (qc _)),HI2.out,hrs.out.drew⟩
theorem qjs (hS:Ap w o y S) (hI:Inv S) (hb hn a0 a1 a2 a3 a4 a5 s0 s1 s2 s3 s4 s5:Int) (hl:Bool) (hc:S.Dy i=true) (he:(S.Be i).e=0) (hb0:0<=hb/\hb<=4096) :
  Ab Tryz.prog 153 #[ptr y.sb,I Z i,Ak #[I Z hb,I Z hn,I Z a0,I Z a1,I Z a2,I Z a3,I Z a4,I Z a5,I Z s0,I Z s1,I Z s2,I Z s3,I Z s4,I Z s5,.bool hl]] w fun e' w'=>e'=O (Aj #[AD.v ⟨(hb+1),0,⟨a0,a1,a2,a3,a4,a5⟩,⟨a0,a1,a2,a3,a4,a5⟩,false⟩,Bf.val ⟨3,0,(S.Be i).v⟩])/\Left y (S.Be i).S o w w':=by
 obtain⟨o1,ho1⟩:∃ o1,o1=ext o w.heap.size (y.l.id+1,0):=⟨_,rfl⟩;have h1:=hS.retag (o':=o1) fun b hb=>by rw[ho1];exact qj hb
 have hS0:Stp (qh y) o o1 w w:=by rw[ho1];exact (Stp.refl _ o w).ext _ _ (Qk _)
 have hbx:∀ b,w.heap.size<=b->CR y (o1 b):=fun b hb=>by rw[ho1];exact qp hb
 clear ho1 hS;obtain⟨W,hW⟩:∃ W:Aa,W=(((w.alloc (.cells #[I Z hb,I Z hn,I Z a0,I Z a1,I Z a2,I Z a3,I Z a4,I Z a5,I Z s0,I Z s1,I Z s2,I Z s3,I Z s4,I Z s5,.bool hl] 58)).alloc (.cells #[I Z 0,I Z 0,I Z 0,I Z 0,I Z 0,I Z 0,I Z 0,I Z 0,I Z 0,I Z 0,I Z 0,I Z 0,I Z 0,I Z 0,.bool false] 58)).alloc (.cells #[I Z 0,I Z 0,I Z 0] 54)):=⟨_,rfl⟩;have hbW:Ae w.heap.size w W:=by rw[hW];exact qa (qa (qa (qc w) _) _) _
 have k7:Am W w.heap.size #[I Z hb,I Z hn,I Z a0,I Z a1,I Z a2,I Z a3,I Z a4,I Z a5,I Z s0,I Z s1,I Z s2,I Z s3,I Z s4,I Z s5,.bool hl] 58:=by rw[hW];exact ((Am.new w _ _).alloc _).alloc _
 have k8:Am W (w.heap.size+1) #[I Z 0,I Z 0,I Z 0,I Z 0,I Z 0,I Z 0,I Z 0,I Z 0,I Z 0,I Z 0,I Z 0,I Z 0,I Z 0,I Z 0,.bool false] 58:=by rw[hW];exact (Am.Aq _ _ _ _ _ (by simp) rfl).alloc _
 have k9:Am W (w.heap.size+1+1) #[I Z 0,I Z 0,I Z 0] 54:=by rw[hW];exact Am.Aq _ _ _ _ _ (by simp) rfl
 have hSW:=h1.below hbW;have hsW:Stp (qh y) o o1 w W:=hS0.trans (Stp.of_below hbW);have HC:=Qa (fun X o2 (h2:Ap X o2 y S)=>Tp h2 hI hc)
 have HB:=Qa hbx;obtain⟨b1,b2⟩:=hb0;generalize S.Be i=R at *;clear hI hc h1 hS0 hbx;rw[he]at HC;go_enter Tryz.func153,Tryz.ntmps153;go_wp2_with fail;rw[<-hW];clear hW;refine (HC.out _ _ hSW).mono ?_
 rintro e2 w2 ⟨rfl,o2,hS2,hI2,hs2⟩
 have nt:∀ b,w.heap.size<=b->¬qh y (o1 b):=fun b q1=>uh (HB.out b q1)
 have tg:∀ b,w.heap.size<=b->b<W.heap.size->CR y (o2 b):=fun b q1 q2=>by have:=HB.out b q1;rw[<-hs2.tags b q2]at this;exact this
 have t7:=tg w.heap.size (by omega) k7.lt
 have t8:=tg (w.heap.size+1) (by omega) k8.lt
 have t9:=tg (w.heap.size+1+1) (by omega) k9.lt
 replace k7:=k7.Ao hs2 (nt _ (by omega))
 replace k8:=k8.Ao hs2 (nt _ (by omega))
 replace k9:=k9.Ao hs2 (nt _ (by omega))
 have hs3:=hsW.trans hs2;have HI2:=Qa hI2;clear hs2 hSW hsW HC tg nt hbW hI2;have c7:=k7.cell;have z7:=k7.free;have l7:=k7.lt;go_upto_region 8 with fail;obtain⟨V,hV⟩:∃ V,V=(((((((((w2.setCell ⟨w.heap.size,14,none⟩ (.bool false)).setCell ⟨w.heap.size,1,none⟩ (I Z 0)).setCell ⟨w.heap.size,0,none⟩ (I Z (hb+1))).setCell ⟨w.heap.size,8,none⟩ (I Z a0)).setCell ⟨w.heap.size,9,none⟩ (I Z a1)).setCell ⟨w.heap.size,10,none⟩ (I Z a2)).setCell ⟨w.heap.size,11,none⟩ (I Z a3)).setCell ⟨w.heap.size,12,none⟩ (I Z a4)).setCell ⟨w.heap.size,13,none⟩ (I Z a5)):=⟨_,rfl⟩;rw[<-hV];have i7:Am V w.heap.size #[I Z (hb+1),I Z 0,I Z a0,I Z a1,I Z a2,I Z a3,I Z a4,I Z a5,I Z a0,I Z a1,I Z a2,I Z a3,I Z a4,I Z a5,.bool false] 58:=by
  rw[hV];have k:=(((((((((k7.set 14 (.bool false)).set 1 (I Z 0)).set 0 (I Z (hb+1))).set 8 (I Z a0)).set 9 (I Z a1)).set 10 (I Z a2)).set 11 (I Z a3)).set 12 (I Z a4)).set 13 (I Z a5));simp only[List.setIfInBounds_toArray,List.set_cons_zero,List.set_cons_succ]at k;exact k
 have hw2:Wr w.heap.size w2 V:=by rw[hV];exact ((((((((((Wr.refl _ _).trans (Wr.set _ _ 14 _)).trans (Wr.set _ _ 1 _)).trans (Wr.set _ _ 0 _)).trans (Wr.set _ _ 8 _)).trans (Wr.set _ _ 9 _)).trans (Wr.set _ _ 10 _)).trans (Wr.set _ _ 11 _)).trans (Wr.set _ _ 12 _)).trans (Wr.set _ _ 13 _))
 have i8:=k8.wr hw2 (by omega)
 have i9:=k9.wr hw2 (by omega)
 have hs5:=hs3.CL hw2 (by omega)
 have hS5:=hS2.bx (Stp.BR hw2 t7);clear hV hw2 k7 k8 k9 hS2 hs3 l7 c7 z7;have c7:=i7.cell;have c8:=i8.cell;have z8:=i8.free;have l8:=i8.lt;have c9:=i9.cell;have z9:=i9.free;have l9:=i9.lt;have hres:=Qa (zu i8 i9 (by omega) ⟨(hb+1),0,⟨a0,a1,a2,a3,a4,a5⟩,⟨a0,a1,a2,a3,a4,a5⟩,false⟩ ⟨3,0,R.v⟩)
 have hrs:=Qa (ku hs5 (b6:=(w.heap.size+1)) (b7:=(w.heap.size+1+1)) (by omega) (by omega) ⟨(hb+1),0,⟨a0,a1,a2,a3,a4,a5⟩,⟨a0,a1,a2,a3,a4,a5⟩,false⟩ ⟨3,0,R.v⟩)
 have hrS:=Qa (hS5.bx (xj V (w.heap.size+1) (w.heap.size+1+1) (o:=o2) t8 t9 ⟨(hb+1),0,⟨a0,a1,a2,a3,a4,a5⟩,⟨a0,a1,a2,a3,a4,a5⟩,false⟩ ⟨3,0,R.v⟩));clear i7 i8 i9 hS5 hs5;go_wp2_with fail;change bodyPost _ _ _ _ _ (jd V (w.heap.size+1) (w.heap.size+1+1) ⟨(hb+1),0,⟨a0,a1,a2,a3,a4,a5⟩,⟨a0,a1,a2,a3,a4,a5⟩,false⟩ ⟨3,0,R.v⟩);generalize jd V (w.heap.size+1) (w.heap.size+1+1) ⟨(hb+1),0,⟨a0,a1,a2,a3,a4,a5⟩,⟨a0,a1,a2,a3,a4,a5⟩,false⟩ ⟨3,0,R.v⟩=X at *;exact bodyPost_ret (qq _ _ 6 7 rfl rfl rfl hres.out.1 hres.out.2) rfl ⟨rfl,o2,hrS.out,HI2.out,hrs.out⟩
theorem qjc (hS:Ap w o y S) (hI:Inv S) (hb hn a0 a1 a2 a3 a4 a5 s0 s1 s2 s3 s4 s5:Int) (hl:Bool) (hc:S.Dy i=true) (he:(S.Be i).e≠0)  :
  Ab Tryz.prog 153 #[ptr y.sb,I Z i,Ak #[I Z hb,I Z hn,I Z a0,I Z a1,I Z a2,I Z a3,I Z a4,I Z a5,I Z s0,I Z s1,I Z s2,I Z s3,I Z s4,I Z s5,.bool hl]] w fun e' w'=>e'=O (Aj #[AD.v ⟨hb,0,⟨s0,s1,s2,s3,s4,s5⟩,⟨s0,s1,s2,s3,s4,s5⟩,false⟩,Bf.val ⟨3,(S.Be i).e,0⟩])/\Left y (S.Be i).S o w w':=by
 obtain⟨o1,ho1⟩:∃ o1,o1=ext o w.heap.size (y.l.id+1,0):=⟨_,rfl⟩;have h1:=hS.retag (o':=o1) fun b hb=>by rw[ho1];exact qj hb
 have hS0:Stp (qh y) o o1 w w:=by rw[ho1];exact (Stp.refl _ o w).ext _ _ (Qk _)
 have hbx:∀ b,w.heap.size<=b->CR y (o1 b):=fun b hb=>by rw[ho1];exact qp hb
 clear ho1 hS;obtain⟨W,hW⟩:∃ W:Aa,W=(((w.alloc (.cells #[I Z hb,I Z hn,I Z a0,I Z a1,I Z a2,I Z a3,I Z a4,I Z a5,I Z s0,I Z s1,I Z s2,I Z s3,I Z s4,I Z s5,.bool hl] 58)).alloc (.cells #[I Z 0,I Z 0,I Z 0,I Z 0,I Z 0,I Z 0,I Z 0,I Z 0,I Z 0,I Z 0,I Z 0,I Z 0,I Z 0,I Z 0,.bool false] 58)).alloc (.cells #[I Z 0,I Z 0,I Z 0] 54)):=⟨_,rfl⟩;have hbW:Ae w.heap.size w W:=by rw[hW];exact qa (qa (qa (qc w) _) _) _
 have k7:Am W w.heap.size #[I Z hb,I Z hn,I Z a0,I Z a1,I Z a2,I Z a3,I Z a4,I Z a5,I Z s0,I Z s1,I Z s2,I Z s3,I Z s4,I Z s5,.bool hl] 58:=by rw[hW];exact ((Am.new w _ _).alloc _).alloc _
 have k8:Am W (w.heap.size+1) #[I Z 0,I Z 0,I Z 0,I Z 0,I Z 0,I Z 0,I Z 0,I Z 0,I Z 0,I Z 0,I Z 0,I Z 0,I Z 0,I Z 0,.bool false] 58:=by rw[hW];exact (Am.Aq _ _ _ _ _ (by simp) rfl).alloc _
 have k9:Am W (w.heap.size+1+1) #[I Z 0,I Z 0,I Z 0] 54:=by rw[hW];exact Am.Aq _ _ _ _ _ (by simp) rfl
 have hSW:=h1.below hbW;have hsW:Stp (qh y) o o1 w W:=hS0.trans (Stp.of_below hbW);have HC:=Qa (fun X o2 (h2:Ap X o2 y S)=>Tp h2 hI hc)
 have HB:=Qa hbx;have HK:=Qa (fun X=>show Ab Tryz.prog 212 #[Ak #[I Z hb,I Z hn,I Z a0,I Z a1,I Z a2,I Z a3,I Z a4,I Z a5,I Z s0,I Z s1,I Z s2,I Z s3,I Z s4,I Z s5,.bool hl]] X fun e w'=>e=O (Ak #[I Z hb,I Z 0,I Z s0,I Z s1,I Z s2,I Z s3,I Z s4,I Z s5,I Z s0,I Z s1,I Z s2,I Z s3,I Z s4,I Z s5,.bool false])/\Ae X.heap.size X w' from tu ⟨hb,hn,⟨a0,a1,a2,a3,a4,a5⟩,⟨s0,s1,s2,s3,s4,s5⟩,hl⟩ X)
 generalize S.Be i=R at *;clear hI hc h1 hS0 hbx;have heb:(R.e != 0)=true:=by rw[bne_iff_ne];exact he
 go_enter Tryz.func153,Tryz.ntmps153;go_wp2_with fail;rw[<-hW];clear hW;refine (HC.out _ _ hSW).mono ?_
 rintro e2 w2 ⟨rfl,o2,hS2,hI2,hs2⟩
 have nt:∀ b,w.heap.size<=b->¬qh y (o1 b):=fun b q1=>uh (HB.out b q1)
 have tg:∀ b,w.heap.size<=b->b<W.heap.size->CR y (o2 b):=fun b q1 q2=>by have:=HB.out b q1;rw[<-hs2.tags b q2]at this;exact this
 have t7:=tg w.heap.size (by omega) k7.lt
 have t8:=tg (w.heap.size+1) (by omega) k8.lt
 have t9:=tg (w.heap.size+1+1) (by omega) k9.lt
 replace k7:=k7.Ao hs2 (nt _ (by omega))
 replace k8:=k8.Ao hs2 (nt _ (by omega))
 replace k9:=k9.Ao hs2 (nt _ (by omega))
 have hs3:=hsW.trans hs2;have HI2:=Qa hI2;clear hs2 hSW hsW HC tg nt hbW hI2;have c7:=k7.cell;have z7:=k7.free;have l7:=k7.lt;go_wp2_with fail;refine (HK.out _).mono ?_
 rintro e3 V ⟨rfl,hb3⟩
 have i8:=k8.below hb3 k8.lt;have i9:=k9.below hb3 k9.lt;have hS5:=hS2.below hb3;have hs5:=hs3.trans (Stp.of_below hb3);clear k7 k8 k9 hS2 hs3 l7 c7 z7 hb3 HK;have c8:=i8.cell;have z8:=i8.free;have l8:=i8.lt;have c9:=i9.cell;have z9:=i9.free;have l9:=i9.lt;have hres:=Qa (zu i8 i9 (by omega) ⟨hb,0,⟨s0,s1,s2,s3,s4,s5⟩,⟨s0,s1,s2,s3,s4,s5⟩,false⟩ ⟨3,R.e,0⟩)
 have hrs:=Qa (ku hs5 (b6:=(w.heap.size+1)) (b7:=(w.heap.size+1+1)) (by omega) (by omega) ⟨hb,0,⟨s0,s1,s2,s3,s4,s5⟩,⟨s0,s1,s2,s3,s4,s5⟩,false⟩ ⟨3,R.e,0⟩)
 have hrS:=Qa (hS5.bx (xj V (w.heap.size+1) (w.heap.size+1+1) (o:=o2) t8 t9 ⟨hb,0,⟨s0,s1,s2,s3,s4,s5⟩,⟨s0,s1,s2,s3,s4,s5⟩,false⟩ ⟨3,R.e,0⟩));clear i8 i9 hS5 hs5;go_wp2_with fail;change bodyPost _ _ _ _ _ (jd V (w.heap.size+1) (w.heap.size+1+1) ⟨hb,0,⟨s0,s1,s2,s3,s4,s5⟩,⟨s0,s1,s2,s3,s4,s5⟩,false⟩ ⟨3,R.e,0⟩);generalize jd V (w.heap.size+1) (w.heap.size+1+1) ⟨hb,0,⟨s0,s1,s2,s3,s4,s5⟩,⟨s0,s1,s2,s3,s4,s5⟩,false⟩ ⟨3,R.e,0⟩=X at *;exact bodyPost_ret (qq _ _ 6 7 rfl rfl rfl hres.out.1 hres.out.2) rfl ⟨rfl,o2,hrS.out,HI2.out,hrs.out⟩
end
end Go.Proofs.YteehgedabdchcaaGreat
