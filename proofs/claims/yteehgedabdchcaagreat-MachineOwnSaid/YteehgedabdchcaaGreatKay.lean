import Derived.Test.YteehgedabdchcaaGreatKaw
import Derived.Test.YteehgedabdchcaaGreatKax
set_option linter.all false
set_option maxRecDepth 1000000
set_option maxHeartbeats 16000000
namespace Go.Proofs.YteehgedabdchcaaGreat
open Go.RowKit Hp
attribute [local go_sem ↓] Go.wp_at_zero Go.wp_at_succ
structure TR where
 S:Stt
 h:ThV
 a:ActV
def bj (R:Res)(h:ThV)(A:Nat):TR:=⟨R.S,h.led A R.v R.e,ledA (R.S.ser R.v.toNat) R.e⟩
def xp (S:Stt)(v e:Int)(h:ThV):TR:=⟨S,h.ended e,ky v e⟩
def ThV.at (h:ThV)(A:Nat):Nat:=(h.r.get A).toNat
def Stt.tdeed (S:Stt)(i:Nat)(h:ThV)(d:DeedV):TR:=
 if d.k=1 then bj (S.alloc i ⟨d.i.toNat,d.n.toNat,false,false⟩) h d.A
 else if d.k=2 then bj (S.alloc i ⟨d.i.toNat,d.n.toNat,false,true⟩) h d.A
 else if d.k=3 then bj (S.weak i (h.at d.B)) h d.A
 else if d.k=4 then bj (S.get i (h.at d.B) d.i.toNat) h d.A
 else if d.k=9 then bj (S.load i (h.at d.B)) h d.A
 else if d.k=10 then bj (S.take i) h d.A
 else if d.k=5 then xp (S.put i (h.at d.A) d.i.toNat (h.at d.B)).S 0 (S.put i (h.at d.A) d.i.toNat (h.at d.B)).e h
 else if d.k=6 then xp (S.read i (h.at d.A) d.i.toNat).S (S.read i (h.at d.A) d.i.toNat).v (S.read i (h.at d.A) d.i.toNat).e h
 else if d.k=7 then xp (S.write i (h.at d.A) d.i.toNat d.n).S 0 (S.write i (h.at d.A) d.i.toNat d.n).e h
 else if d.k=8 then xp (S.free i (h.at d.A)).S 0 (S.free i (h.at d.A)).e h
 else if d.k=11 then xp S (if h.at d.A=h.at d.B then 1 else 0) 0 h
 else if d.k=12 then xp S 0 0 (h.put d.A (h.at d.B))
 else if d.k=13 then xp S 0 0 (h.put d.A 0)
 else ⟨S.abort i,{ h.back with b:=h.b+1 },⟨2,0,0⟩⟩
theorem ry (S:Stt)(i:Nat)(h:ThV)(d:DeedV)(e:d.k=1):S.tdeed i h d=bj (S.alloc i ⟨d.i.toNat,d.n.toNat,false,false⟩) h d.A:=by
 unfold Stt.tdeed;rw[if_pos e]
theorem ni (S:Stt)(i:Nat)(h:ThV)(d:DeedV)(e:d.k=2):S.tdeed i h d=bj (S.alloc i ⟨d.i.toNat,d.n.toNat,false,true⟩) h d.A:=by
 unfold Stt.tdeed;rw[if_neg (show ¬d.k=1 by omega),if_pos e]
theorem sn (S:Stt)(i:Nat)(h:ThV)(d:DeedV)(e:d.k=3):S.tdeed i h d=bj (S.weak i (h.at d.B)) h d.A:=by
 unfold Stt.tdeed;rw[if_neg (show ¬d.k=1 by omega),if_neg (show ¬d.k=2 by omega),if_pos e]
theorem co (S:Stt)(i:Nat)(h:ThV)(d:DeedV)(e:d.k=4):S.tdeed i h d=bj (S.get i (h.at d.B) d.i.toNat) h d.A:=by
 unfold Stt.tdeed;rw[if_neg (show ¬d.k=1 by omega),if_neg (show ¬d.k=2 by omega),if_neg (show ¬d.k=3 by omega),if_pos e]
theorem ce (S:Stt)(i:Nat)(h:ThV)(d:DeedV)(e:d.k=9):S.tdeed i h d=bj (S.load i (h.at d.B)) h d.A:=by
 unfold Stt.tdeed;rw[if_neg (show ¬d.k=1 by omega),if_neg (show ¬d.k=2 by omega),if_neg (show ¬d.k=3 by omega),if_neg (show ¬d.k=4 by omega),if_pos e]
theorem fw (S:Stt)(i:Nat)(h:ThV)(d:DeedV)(e:d.k=10):S.tdeed i h d=bj (S.take i) h d.A:=by
 unfold Stt.tdeed;rw[if_neg (show ¬d.k=1 by omega),if_neg (show ¬d.k=2 by omega),if_neg (show ¬d.k=3 by omega),if_neg (show ¬d.k=4 by omega),if_neg (show ¬d.k=9 by omega),if_pos e]
theorem sm (S:Stt)(i:Nat)(h:ThV)(d:DeedV)(e:d.k=5):S.tdeed i h d=xp (S.put i (h.at d.A) d.i.toNat (h.at d.B)).S 0 (S.put i (h.at d.A) d.i.toNat (h.at d.B)).e h:=by
 unfold Stt.tdeed;rw[if_neg (show ¬d.k=1 by omega),if_neg (show ¬d.k=2 by omega),if_neg (show ¬d.k=3 by omega),if_neg (show ¬d.k=4 by omega),if_neg (show ¬d.k=9 by omega),if_neg (show ¬d.k=10 by omega),if_pos e]
theorem nf (S:Stt)(i:Nat)(h:ThV)(d:DeedV)(e:d.k=6):S.tdeed i h d=xp (S.read i (h.at d.A) d.i.toNat).S (S.read i (h.at d.A) d.i.toNat).v (S.read i (h.at d.A) d.i.toNat).e h:=by
 unfold Stt.tdeed;rw[if_neg (show ¬d.k=1 by omega),if_neg (show ¬d.k=2 by omega),if_neg (show ¬d.k=3 by omega),if_neg (show ¬d.k=4 by omega),if_neg (show ¬d.k=9 by omega),if_neg (show ¬d.k=10 by omega),if_neg (show ¬d.k=5 by omega),if_pos e]
theorem sa (S:Stt)(i:Nat)(h:ThV)(d:DeedV)(e:d.k=7):S.tdeed i h d=xp (S.write i (h.at d.A) d.i.toNat d.n).S 0 (S.write i (h.at d.A) d.i.toNat d.n).e h:=by
 unfold Stt.tdeed;rw[if_neg (show ¬d.k=1 by omega),if_neg (show ¬d.k=2 by omega),if_neg (show ¬d.k=3 by omega),if_neg (show ¬d.k=4 by omega),if_neg (show ¬d.k=9 by omega),if_neg (show ¬d.k=10 by omega),if_neg (show ¬d.k=5 by omega),if_neg (show ¬d.k=6 by omega),if_pos e]
theorem bw (S:Stt)(i:Nat)(h:ThV)(d:DeedV)(e:d.k=8):S.tdeed i h d=xp (S.free i (h.at d.A)).S 0 (S.free i (h.at d.A)).e h:=by
 unfold Stt.tdeed;rw[if_neg (show ¬d.k=1 by omega),if_neg (show ¬d.k=2 by omega),if_neg (show ¬d.k=3 by omega),if_neg (show ¬d.k=4 by omega),if_neg (show ¬d.k=9 by omega),if_neg (show ¬d.k=10 by omega),if_neg (show ¬d.k=5 by omega),if_neg (show ¬d.k=6 by omega),if_neg (show ¬d.k=7 by omega),if_pos e]
theorem fx (S:Stt)(i:Nat)(h:ThV)(d:DeedV)(e:d.k=11):S.tdeed i h d=xp S (if h.at d.A=h.at d.B then 1 else 0) 0 h:=by
 unfold Stt.tdeed;rw[if_neg (show ¬d.k=1 by omega),if_neg (show ¬d.k=2 by omega),if_neg (show ¬d.k=3 by omega),if_neg (show ¬d.k=4 by omega),if_neg (show ¬d.k=9 by omega),if_neg (show ¬d.k=10 by omega),if_neg (show ¬d.k=5 by omega),if_neg (show ¬d.k=6 by omega),if_neg (show ¬d.k=7 by omega),if_neg (show ¬d.k=8 by omega),if_pos e]
theorem ff (S:Stt)(i:Nat)(h:ThV)(d:DeedV)(e:d.k=12):S.tdeed i h d=xp S 0 0 (h.put d.A (h.at d.B)):=by
 unfold Stt.tdeed;rw[if_neg (show ¬d.k=1 by omega),if_neg (show ¬d.k=2 by omega),if_neg (show ¬d.k=3 by omega),if_neg (show ¬d.k=4 by omega),if_neg (show ¬d.k=9 by omega),if_neg (show ¬d.k=10 by omega),if_neg (show ¬d.k=5 by omega),if_neg (show ¬d.k=6 by omega),if_neg (show ¬d.k=7 by omega),if_neg (show ¬d.k=8 by omega),if_neg (show ¬d.k=11 by omega),if_pos e]
theorem fp (S:Stt)(i:Nat)(h:ThV)(d:DeedV)(e:d.k=13):S.tdeed i h d=xp S 0 0 (h.put d.A 0):=by
 unfold Stt.tdeed;rw[if_neg (show ¬d.k=1 by omega),if_neg (show ¬d.k=2 by omega),if_neg (show ¬d.k=3 by omega),if_neg (show ¬d.k=4 by omega),if_neg (show ¬d.k=9 by omega),if_neg (show ¬d.k=10 by omega),if_neg (show ¬d.k=5 by omega),if_neg (show ¬d.k=6 by omega),if_neg (show ¬d.k=7 by omega),if_neg (show ¬d.k=8 by omega),if_neg (show ¬d.k=11 by omega),if_neg (show ¬d.k=12 by omega),if_pos e]
theorem fy (S:Stt)(i:Nat)(h:ThV)(d:DeedV)(e:d.k=14):S.tdeed i h d=⟨S.abort i,{ h.back with b:=h.b+1 },⟨2,0,0⟩⟩:=by
 unfold Stt.tdeed;rw[if_neg (show ¬d.k=1 by omega),if_neg (show ¬d.k=2 by omega),if_neg (show ¬d.k=3 by omega),if_neg (show ¬d.k=4 by omega),if_neg (show ¬d.k=9 by omega),if_neg (show ¬d.k=10 by omega),if_neg (show ¬d.k=5 by omega),if_neg (show ¬d.k=6 by omega),if_neg (show ¬d.k=7 by omega),if_neg (show ¬d.k=8 by omega),if_neg (show ¬d.k=11 by omega),if_neg (show ¬d.k=12 by omega),if_neg (show ¬d.k=13 by omega)]
structure DeedV.ok (d:DeedV):Prop where
 k:1≤d.k∧d.k≤14
 A:d.A<6
 B:d.B<6
 i:0≤d.i
 n:-9223372036854775808≤d.n∧d.n≤9223372036854775807
 s:d.k=1∨d.k=2→d.i≤4∧0≤d.n∧d.n≤4
def Rgs (S:Stt)(r:R6):Prop:=∀ j,j<6→∃ p:Nat,r.get j=p∧Plc S p
def qbp (R:Res):Prop:=R.e=0→∃ p:Nat,R.v=p∧Plc R.S p
theorem Rgs.at {S:Stt}{h:ThV}(hr:Rgs S h.r){A:Nat}(hA:A<6):h.r.get A=(h.at A:Int)∧Plc S (h.at A):=by
 obtain⟨p,h1,h2⟩:=hr A hA;unfold ThV.at;rw[h1,Int.toNat_natCast];exact⟨rfl,h2⟩
theorem fin_led {r:Res}(i:Nat)(h:∃ p:Nat,r.v=p):qbp (r.fin i):=by
 intro _;unfold Res.fin;split
 ·exact⟨0,rfl,trivial⟩
 ·split
  ·obtain⟨p,h⟩:=h;exact⟨p,h,trivial⟩
  ·exact⟨0,rfl,trivial⟩
theorem m9 (S:Stt){r:Res}(i:Nat)(h:∃ p:Nat,r.v=p):qbp (S.deedR i r):=by
 unfold Stt.deedR;split
 ·exact fin_led i h
 ·exact fun _=>⟨0,rfl,trivial⟩
section
variable {w w' : World} {o o' : Own} {y : SLay} {S : Stt} {i : Nat}
theorem qd9 (i:Nat)(s:Shp):qbp (S.alloc i s):=m9 S i ⟨_,rfl⟩
theorem weak_led (i q:Nat):qbp (S.weak i q):=by
 refine m9 S i ?_;unfold Stt.weakR;split
 ·exact⟨0,rfl⟩
 ·split
  ·exact⟨0,rfl⟩
  ·split
   ·exact⟨0,rfl⟩
   ·exact⟨_,rfl⟩
theorem get_led (i p j:Nat):qbp (S.get i p j):=by
 refine m9 S i ?_;unfold Stt.getR;split
 ·exact⟨0,rfl⟩
 ·exact⟨_,rfl⟩
theorem load_led (i p:Nat):qbp (S.load i p):=by
 refine m9 S i ?_;unfold Stt.loadR Stt.keepR;split
 ·exact⟨0,rfl⟩
 ·split
  ·exact⟨0,rfl⟩
  ·split
   ·exact⟨0,rfl⟩
   ·split
    ·exact⟨0,rfl⟩
    ·split
     ·exact⟨_,rfl⟩
     ·exact⟨0,rfl⟩
theorem take_led (i:Nat):qbp (S.take i):=by
 refine m9 S i ?_;unfold Stt.takeR;split
 ·exact⟨0,rfl⟩
 ·split
  ·exact⟨0,rfl⟩
  ·split
   ·exact⟨0,rfl⟩
   ·exact⟨_,rfl⟩
structure Tdy (S:Stt)(i:Nat)(h:ThV):Prop where
 inv:Inv S
 chk:S.chk i=true
 lv:(S.t i).live=true
 rg:Rgs S h.r
 n:0≤h.n∧h.n≤4096
 b:0≤h.b∧h.b≤4096
theorem qmb (hS:StIn w o y S)(h:ThV)(d:DeedV)(hd:d.ok)(hT:Tdy S i h) :
  Calls Tryz.prog 154 #[ptr y.sb,.int .i64 i,d.v,h.v] w fun e' w'=>e'=.returned (.tuple #[(S.tdeed i h d).h.v,(S.tdeed i h d).a.val])∧Left y (S.tdeed i h d).S o w w':=by
 have hA:=hd.A;have hB:=hd.B;obtain⟨ea,pa⟩:=hT.rg.at hA;obtain⟨eb,pb⟩:=hT.rg.at hB;obtain⟨hb,hn,⟨a0,a1,a2,a3,a4,a5⟩,⟨s0,s1,s2,s3,s4,s5⟩,hl⟩:=h;obtain⟨k,A,B,fi,fn⟩:=d;have hn0:=hT.n;have hb0:=hT.b;have hk:=hd.k;have hi:=hd.i;have hfn:=hd.n;have hs:=hd.s;simp only at hA hB ea eb pa pb hn0 hb0 hk hi hfn hs;have hlt:=zk hT.chk;obtain rfl|rfl|rfl|rfl|rfl|rfl|rfl|rfl|rfl|rfl|rfl|rfl|rfl|rfl:k=1∨k=2∨k=3∨k=4∨k=5∨k=6∨k=7∨k=8∨k=9∨k=10∨k=11∨k=12∨k=13∨k=14:=by omega
 ·rw[ry _ _ _ _ rfl]
  exact yb hS hT.inv hb hn a0 a1 a2 a3 a4 a5 s0 s1 s2 s3 s4 s5 hl A B fi fn _ _ 1 _ ⟨hT.chk,.inl ⟨rfl,rfl,⟨hi,(hs (.inl rfl)).1⟩,(hs (.inl rfl)).2⟩⟩ (qd9 i _) hA hB ea eb hn0 hb0
 ·rw[ni _ _ _ _ rfl]
  exact yb hS hT.inv hb hn a0 a1 a2 a3 a4 a5 s0 s1 s2 s3 s4 s5 hl A B fi fn _ _ 2 _ ⟨hT.chk,.inr (.inl ⟨rfl,rfl,⟨hi,(hs (.inr rfl)).1⟩,(hs (.inr rfl)).2⟩)⟩ (qd9 i _) hA hB ea eb hn0 hb0
 ·rw[sn _ _ _ _ rfl]
  exact yb hS hT.inv hb hn a0 a1 a2 a3 a4 a5 s0 s1 s2 s3 s4 s5 hl A B fi fn _ _ 3 _ ⟨hT.chk,.inr (.inr (.inl ⟨rfl,rfl,pb⟩))⟩ (weak_led i _) hA hB ea eb hn0 hb0
 ·rw[co _ _ _ _ rfl]
  exact yb hS hT.inv hb hn a0 a1 a2 a3 a4 a5 s0 s1 s2 s3 s4 s5 hl A B fi fn _ _ 4 _ ⟨hT.chk,.inr (.inr (.inr (.inl ⟨rfl,rfl,pb,hi⟩)))⟩ (get_led i _ _) hA hB ea eb hn0 hb0
 ·rw[sm _ _ _ _ rfl]
  exact pe hS hT.inv hb hn a0 a1 a2 a3 a4 a5 s0 s1 s2 s3 s4 s5 hl A B fi fn _ _ 1 5 0 _ ⟨hT.chk,pa,.inr (.inl ⟨rfl,rfl,rfl,rfl,pb,hi⟩)⟩ hA hB ea eb hn0 hb0
 ·rw[nf _ _ _ _ rfl]
  exact pe hS hT.inv hb hn a0 a1 a2 a3 a4 a5 s0 s1 s2 s3 s4 s5 hl A B fi fn _ _ 2 6 _ _ ⟨hT.chk,pa,.inr (.inr (.inl ⟨rfl,rfl,rfl,rfl,hi⟩))⟩ hA hB ea eb hn0 hb0
 ·rw[sa _ _ _ _ rfl]
  exact pe hS hT.inv hb hn a0 a1 a2 a3 a4 a5 s0 s1 s2 s3 s4 s5 hl A B fi fn _ _ 3 7 0 _ ⟨hT.chk,pa,.inr (.inr (.inr ⟨rfl,rfl,rfl,rfl,hi,hfn⟩))⟩ hA hB ea eb hn0 hb0
 ·rw[bw _ _ _ _ rfl]
  exact pe hS hT.inv hb hn a0 a1 a2 a3 a4 a5 s0 s1 s2 s3 s4 s5 hl A B fi fn _ _ 0 8 0 _ ⟨hT.chk,pa,.inl ⟨rfl,rfl,rfl,rfl⟩⟩ hA hB ea eb hn0 hb0
 ·rw[ce _ _ _ _ rfl]
  exact yb hS hT.inv hb hn a0 a1 a2 a3 a4 a5 s0 s1 s2 s3 s4 s5 hl A B fi fn _ _ 9 _ ⟨hT.chk,.inr (.inr (.inr (.inr (.inl ⟨rfl,rfl,pb⟩))))⟩ (load_led i _) hA hB ea eb hn0 hb0
 ·rw[fw _ _ _ _ rfl]
  exact yb hS hT.inv hb hn a0 a1 a2 a3 a4 a5 s0 s1 s2 s3 s4 s5 hl A B fi fn _ _ 10 _ ⟨hT.chk,.inr (.inr (.inr (.inr (.inr ⟨rfl,rfl⟩))))⟩ (take_led i) hA hB ea eb hn0 hb0
 ·rw[fx _ _ _ _ rfl]
  by_cases hab:(ThV.at ⟨hb,hn,⟨a0,a1,a2,a3,a4,a5⟩,⟨s0,s1,s2,s3,s4,s5⟩,hl⟩ A)=(ThV.at ⟨hb,hn,⟨a0,a1,a2,a3,a4,a5⟩,⟨s0,s1,s2,s3,s4,s5⟩,hl⟩ B)
  ·rw[if_pos hab]
   exact qeg hS hT.inv hb hn a0 a1 a2 a3 a4 a5 s0 s1 s2 s3 s4 s5 hl A B fi fn _ _ 1 (.inl ⟨hab,rfl⟩) hA hB ea eb hn0 hb0
  ·rw[if_neg hab]
   exact qeg hS hT.inv hb hn a0 a1 a2 a3 a4 a5 s0 s1 s2 s3 s4 s5 hl A B fi fn _ _ 0 (.inr ⟨hab,rfl⟩) hA hB ea eb hn0 hb0
 ·rw[ff _ _ _ _ rfl]
  exact qim hS hT.inv hb hn a0 a1 a2 a3 a4 a5 s0 s1 s2 s3 s4 s5 hl A B fi fn _ _ hA hB ea eb hn0 hb0
 ·rw[fp _ _ _ _ rfl]
  exact qmo hS hT.inv hb hn a0 a1 a2 a3 a4 a5 s0 s1 s2 s3 s4 s5 hl A B fi fn _ _ hA hB ea eb hn0 hb0
 ·rw[fy _ _ _ _ rfl]
  exact qgh hS hT.inv hb hn a0 a1 a2 a3 a4 a5 s0 s1 s2 s3 s4 s5 hl A B fi fn _ _ hlt hT.lv hA hB ea eb hb0
end
section
variable {w w' : World} {o o' : Own} {y : SLay} {S : Stt} {i : Nat}
theorem begin_st {S:Stt} {i:Nat} (hi:i<S.txs.length) (he:(S.beginR i).2=0):((S.beginR i).1.t i).live=true∧((S.beginR i).1.t i).start=S.now:=by
 unfold Stt.beginR at he ⊢;split at he
 ·simp at he
 ·rename_i h1
  rw[if_neg h1];split at he
  ·rename_i h2
   rw[if_pos h2];have:((S.tx i ((S.t i).begun S.now S.next)).t i)=(S.t i).begun S.now S.next:=by
    have h3:(S.tx i ((S.t i).begun S.now S.next)).txs[i]?=some ((S.t i).begun S.now S.next):=by simp[Stt.tx,hi]
    have h4:=Stt.t_get (S:=S.tx i ((S.t i).begun S.now S.next)) (i:=i) (by simpa [Stt.tx] using hi)
    rw[h3]at h4;injection h4 with h4;exact h4.symm
   show ((S.tx i ((S.t i).begun S.now S.next)).t i).live=true∧((S.tx i ((S.t i).begun S.now S.next)).t i).start=S.now;rw[this];exact⟨rfl,rfl⟩
  ·simp at he
theorem qls (hS:StIn w o y S) (hI:Inv S) (hb hn a0 a1 a2 a3 a4 a5 s0 s1 s2 s3 s4 s5:Int) (hl:Bool) (nb:Int) (hi:i<S.txs.length) (he:(S.beginR i).2=0) :
  Calls Tryz.prog 152 #[ptr y.sb,.int .i64 i,.int .i64 nb,.agg #[.int .i64 hb,.int .i64 hn,.int .i64 a0,.int .i64 a1,.int .i64 a2,.int .i64 a3,.int .i64 a4,.int .i64 a5,.int .i64 s0,.int .i64 s1,.int .i64 s2,.int .i64 s3,.int .i64 s4,.int .i64 s5,.bool hl]] w fun e' w'=>e'=.returned (.tuple #[ThV.v ⟨hb,0,⟨a0,a1,a2,a3,a4,a5⟩,⟨a0,a1,a2,a3,a4,a5⟩,true⟩,ActV.val ⟨1,0,S.now⟩])∧Left y (S.beginR i).1 o w w':=by
 obtain⟨o1,ho1⟩:∃ o1,o1=ext o w.heap.size (y.l.id+1,0):=⟨_,rfl⟩;have h1:=hS.retag (o':=o1) fun b hb=>by rw[ho1];exact qj hb
 have hS0:Stp (qh y) o o1 w w:=by rw[ho1];exact (Stp.refl _ o w).ext _ _ (Nat.le_refl _)
 have hbx:∀ b,w.heap.size≤b→bxT y (o1 b):=fun b hb=>by rw[ho1];exact qp hb
 clear ho1 hS;obtain⟨W,hW⟩:∃ W:World,W=(((w.alloc (.cells #[.int .i64 hb,.int .i64 hn,.int .i64 a0,.int .i64 a1,.int .i64 a2,.int .i64 a3,.int .i64 a4,.int .i64 a5,.int .i64 s0,.int .i64 s1,.int .i64 s2,.int .i64 s3,.int .i64 s4,.int .i64 s5,.bool hl] 58)).alloc (.cells #[.int .i64 0,.int .i64 0,.int .i64 0,.int .i64 0,.int .i64 0,.int .i64 0,.int .i64 0,.int .i64 0,.int .i64 0,.int .i64 0,.int .i64 0,.int .i64 0,.int .i64 0,.int .i64 0,.bool false] 58)).alloc (.cells #[.int .i64 0,.int .i64 0,.int .i64 0] 54)):=⟨_,rfl⟩;have hbW:Below w.heap.size w W:=by rw[hW];exact qa (qa (qa (qc w) _) _) _
 have k7:Blk W w.heap.size #[.int .i64 hb,.int .i64 hn,.int .i64 a0,.int .i64 a1,.int .i64 a2,.int .i64 a3,.int .i64 a4,.int .i64 a5,.int .i64 s0,.int .i64 s1,.int .i64 s2,.int .i64 s3,.int .i64 s4,.int .i64 s5,.bool hl] 58:=by rw[hW];exact ((Blk.new w _ _).alloc _).alloc _
 have k8:Blk W (w.heap.size+1) #[.int .i64 0,.int .i64 0,.int .i64 0,.int .i64 0,.int .i64 0,.int .i64 0,.int .i64 0,.int .i64 0,.int .i64 0,.int .i64 0,.int .i64 0,.int .i64 0,.int .i64 0,.int .i64 0,.bool false] 58:=by rw[hW];exact (Blk.new_at _ _ _ _ _ (by simp) rfl).alloc _
 have k9:Blk W (w.heap.size+1+1) #[.int .i64 0,.int .i64 0,.int .i64 0] 54:=by rw[hW];exact Blk.new_at _ _ _ _ _ (by simp) rfl
 have hSW:=h1.below hbW;have hsW:Stp (qh y) o o1 w W:=hS0.trans (Stp.of_below hbW);have HC:=Lib.hid (fun X o2 (h2:StIn X o2 y S)=>by have:=qkd h2 hI hi;rw[he]at this;exact this)
 have hst:(((S.beginR i).1).t i).live=true∧(((S.beginR i).1).t i).start=S.now:=begin_st hi he;have HL:=Lib.hid (fun X o2 (h2:StIn X o2 y (S.beginR i).1) (h3:Inv (S.beginR i).1)=>by have:=c_live h2 h3 (i:=i) (by rw[qik];exact hi);rw[hst.1,hst.2]at this;simp only[if_true]at this;exact this)
 have HB:=Lib.hid hbx;generalize (S.beginR i).1=SB at *;generalize S.now=nw at *;clear hI hi he hst h1 hS0 hbx;go_enter Tryz.func152,Tryz.ntmps152;go_wp2_with fail;rw[←hW];clear hW;refine (HC.out _ _ hSW).mono ?_
 rintro e2 w2 ⟨rfl,o2,hS2,hI2,hs2⟩
 have nt:∀ b,w.heap.size≤b→¬qh y (o1 b):=fun b q1=>uh (HB.out b q1)
 have tg:∀ b,w.heap.size≤b→b<W.heap.size→bxT y (o2 b):=fun b q1 q2=>by have:=HB.out b q1;rw[←hs2.tags b q2]at this;exact this
 have t7:=tg w.heap.size (by omega) k7.lt
 have t8:=tg (w.heap.size+1) (by omega) k8.lt
 have t9:=tg (w.heap.size+1+1) (by omega) k9.lt
 replace k7:=k7.stp hs2 (nt _ (by omega))
 replace k8:=k8.stp hs2 (nt _ (by omega))
 replace k9:=k9.stp hs2 (nt _ (by omega))
 have hs3:=hsW.trans hs2;have HI2:=Lib.hid hI2;obtain⟨w3,hw3⟩:∃ w3,w3=w2.alloc (.cells #[.int .i64 1,.int .i64 0,.int .i64 0] 54):=⟨_,rfl⟩;have kA:Blk w3 w2.heap.size #[.int .i64 1,.int .i64 0,.int .i64 0] 54:=by rw[hw3];exact Blk.new _ _ _
 have hb3:Below w2.heap.size w2 w3:=by rw[hw3];exact qa (qc _) _
 have l7:=k7.lt;have l8:=k8.lt;have l9:=k9.lt;replace k7:=k7.below hb3 k7.lt;replace k8:=k8.below hb3 k8.lt;replace k9:=k9.below hb3 k9.lt;have hS3:=hS2.below hb3;have HSA:=Lib.hid (show StIn (w3.setCell ⟨w2.heap.size,2,none⟩ (.int .i64 nw)) o2 y SB from hS2.below (qo (by rw[hw3];exact qa (qc _) _) (Nat.le_refl _) _))
 replace hs3:=hs3.trans (Stp.of_below hb3);have hsz:w.heap.size≤w2.heap.size:=by omega
 clear hs2 hSW hsW HC tg nt hS2 hbW hb3;go_wp2_with fail;rw[←hw3];clear hw3;refine (HL.out _ _ hS3 hI2).mono ?_
 rintro e4 w4 ⟨rfl,rfl⟩
 have c7:=k7.cell;have z7:=k7.free;have l7':=k7.lt;have cA:=kA.cell;have zA:=kA.free;have lA:=kA.lt;have ne7:w.heap.size≠w2.heap.size:=by omega
 have ne7':w2.heap.size≠w.heap.size:=by omega
 go_upto_region 9 with fail;clear c7 z7 l7' cA zA lA;obtain⟨bA,hbA⟩:∃ bA,bA=w2.heap.size:=⟨_,rfl⟩;rw[←hbA]at HSA kA ne7 ne7' hsz l7 l8 l9 ⊢;clear hbA;obtain⟨V,hV⟩:∃ V,V=(((((((((w3.setCell ⟨bA,2,none⟩ (.int .i64 nw)).setCell ⟨w.heap.size,14,none⟩ (.bool true)).setCell ⟨w.heap.size,1,none⟩ (.int .i64 0)).setCell ⟨w.heap.size,8,none⟩ (.int .i64 a0)).setCell ⟨w.heap.size,9,none⟩ (.int .i64 a1)).setCell ⟨w.heap.size,10,none⟩ (.int .i64 a2)).setCell ⟨w.heap.size,11,none⟩ (.int .i64 a3)).setCell ⟨w.heap.size,12,none⟩ (.int .i64 a4)).setCell ⟨w.heap.size,13,none⟩ (.int .i64 a5)):=⟨_,rfl⟩;rw[←hV];have i7:Blk V w.heap.size #[.int .i64 hb,.int .i64 0,.int .i64 a0,.int .i64 a1,.int .i64 a2,.int .i64 a3,.int .i64 a4,.int .i64 a5,.int .i64 a0,.int .i64 a1,.int .i64 a2,.int .i64 a3,.int .i64 a4,.int .i64 a5,.bool true] 58:=by
  rw[hV];have k:=(((((((((k7.set_other (a:=⟨bA,2,none⟩) ne7 (.int .i64 nw)).set 14 (.bool true)).set 1 (.int .i64 0)).set 8 (.int .i64 a0)).set 9 (.int .i64 a1)).set 10 (.int .i64 a2)).set 11 (.int .i64 a3)).set 12 (.int .i64 a4)).set 13 (.int .i64 a5));simp only[List.setIfInBounds_toArray,List.set_cons_zero,List.set_cons_succ]at k;exact k
 have iA:Blk V bA #[.int .i64 1,.int .i64 0,.int .i64 nw] 54:=by rw[hV];exact (((((((((kA.set 2 (.int .i64 nw)).set_other (a:=⟨w.heap.size,14,none⟩) ne7' (.bool true)).set_other (a:=⟨w.heap.size,1,none⟩) ne7' (.int .i64 0)).set_other (a:=⟨w.heap.size,8,none⟩) ne7' (.int .i64 a0)).set_other (a:=⟨w.heap.size,9,none⟩) ne7' (.int .i64 a1)).set_other (a:=⟨w.heap.size,10,none⟩) ne7' (.int .i64 a2)).set_other (a:=⟨w.heap.size,11,none⟩) ne7' (.int .i64 a3)).set_other (a:=⟨w.heap.size,12,none⟩) ne7' (.int .i64 a4)).set_other (a:=⟨w.heap.size,13,none⟩) ne7' (.int .i64 a5))
 have hw1:Wr bA w3 (w3.setCell ⟨bA,2,none⟩ (.int .i64 nw)):=Wr.set _ _ _ _;have hw2:Wr w.heap.size (w3.setCell ⟨bA,2,none⟩ (.int .i64 nw)) V:=by rw[hV];exact (((((((((Wr.refl _ _).trans (Wr.set _ _ 14 _)).trans (Wr.set _ _ 1 _)).trans (Wr.set _ _ 8 _)).trans (Wr.set _ _ 9 _)).trans (Wr.set _ _ 10 _)).trans (Wr.set _ _ 11 _)).trans (Wr.set _ _ 12 _)).trans (Wr.set _ _ 13 _))
 have i8:=(k8.wr hw1 (by omega)).wr hw2 (by omega)
 have i9:=(k9.wr hw1 (by omega)).wr hw2 (by omega)
 have hs5:=(hs3.wr_new hw1 hsz).wr_new hw2 (by omega)
 have hS4:StIn (w3.setCell ⟨bA,2,none⟩ (.int .i64 nw)) o2 y SB:=HSA.out;have hS5:=hS4.bx (Stp.of_wr hw2 t7);have nA8:bA≠w.heap.size+1:=by omega
 have nA9:bA≠w.heap.size+1+1:=by omega
 clear hV hw1 hw2 k7 k8 k9 kA hS3 hs3 hS4 l7 l8 l9;have c7:=i7.cell;have cA:=iA.cell;have c8:=i8.cell;have z8:=i8.free;have l8:=i8.lt;have c9:=i9.cell;have z9:=i9.free;have l9:=i9.lt;have hres:=Lib.hid (zr i8 i9 (by omega) ⟨hb,0,⟨a0,a1,a2,a3,a4,a5⟩,⟨a0,a1,a2,a3,a4,a5⟩,true⟩ ⟨1,0,nw⟩)
 have hrs:=Lib.hid (ku hs5 (b6:=(w.heap.size+1)) (b7:=(w.heap.size+1+1)) (by omega) (by omega) ⟨hb,0,⟨a0,a1,a2,a3,a4,a5⟩,⟨a0,a1,a2,a3,a4,a5⟩,true⟩ ⟨1,0,nw⟩)
 have hrS:=Lib.hid (hS5.bx (xd V (w.heap.size+1) (w.heap.size+1+1) (o:=o2) t8 t9 ⟨hb,0,⟨a0,a1,a2,a3,a4,a5⟩,⟨a0,a1,a2,a3,a4,a5⟩,true⟩ ⟨1,0,nw⟩));clear i7 iA i8 i9 hS5 hs5;go_region
 all_goals
  go_wp2_with fail;change bodyPost _ _ _ _ _ (zy V (w.heap.size+1) (w.heap.size+1+1) ⟨hb,0,⟨a0,a1,a2,a3,a4,a5⟩,⟨a0,a1,a2,a3,a4,a5⟩,true⟩ ⟨1,0,nw⟩).drew;generalize zy V (w.heap.size+1) (w.heap.size+1+1) ⟨hb,0,⟨a0,a1,a2,a3,a4,a5⟩,⟨a0,a1,a2,a3,a4,a5⟩,true⟩ ⟨1,0,nw⟩=X at *;exact bodyPost_ret (qq _ _ 8 9 rfl rfl rfl (qi hres.out.1) (qi hres.out.2)) rfl ⟨rfl,o2,hrS.out.below (qe (qc _)),HI2.out,hrs.out.drew⟩
theorem ql7 (hS:StIn w o y S) (hI:Inv S) (hb hn a0 a1 a2 a3 a4 a5 s0 s1 s2 s3 s4 s5:Int) (hl:Bool) (nb:Int) (hi:i<S.txs.length) (he:(S.beginR i).2≠0) :
  Calls Tryz.prog 152 #[ptr y.sb,.int .i64 i,.int .i64 nb,.agg #[.int .i64 hb,.int .i64 hn,.int .i64 a0,.int .i64 a1,.int .i64 a2,.int .i64 a3,.int .i64 a4,.int .i64 a5,.int .i64 s0,.int .i64 s1,.int .i64 s2,.int .i64 s3,.int .i64 s4,.int .i64 s5,.bool hl]] w fun e' w'=>e'=.returned (.tuple #[ThV.v ⟨nb,hn,⟨a0,a1,a2,a3,a4,a5⟩,⟨s0,s1,s2,s3,s4,s5⟩,hl⟩,ActV.val ⟨1,(S.beginR i).2,0⟩])∧Left y (S.beginR i).1 o w w':=by
 obtain⟨o1,ho1⟩:∃ o1,o1=ext o w.heap.size (y.l.id+1,0):=⟨_,rfl⟩;have h1:=hS.retag (o':=o1) fun b hb=>by rw[ho1];exact qj hb
 have hS0:Stp (qh y) o o1 w w:=by rw[ho1];exact (Stp.refl _ o w).ext _ _ (Nat.le_refl _)
 have hbx:∀ b,w.heap.size≤b→bxT y (o1 b):=fun b hb=>by rw[ho1];exact qp hb
 clear ho1 hS;obtain⟨W,hW⟩:∃ W:World,W=(((w.alloc (.cells #[.int .i64 hb,.int .i64 hn,.int .i64 a0,.int .i64 a1,.int .i64 a2,.int .i64 a3,.int .i64 a4,.int .i64 a5,.int .i64 s0,.int .i64 s1,.int .i64 s2,.int .i64 s3,.int .i64 s4,.int .i64 s5,.bool hl] 58)).alloc (.cells #[.int .i64 0,.int .i64 0,.int .i64 0,.int .i64 0,.int .i64 0,.int .i64 0,.int .i64 0,.int .i64 0,.int .i64 0,.int .i64 0,.int .i64 0,.int .i64 0,.int .i64 0,.int .i64 0,.bool false] 58)).alloc (.cells #[.int .i64 0,.int .i64 0,.int .i64 0] 54)):=⟨_,rfl⟩;have hbW:Below w.heap.size w W:=by rw[hW];exact qa (qa (qa (qc w) _) _) _
 have k7:Blk W w.heap.size #[.int .i64 hb,.int .i64 hn,.int .i64 a0,.int .i64 a1,.int .i64 a2,.int .i64 a3,.int .i64 a4,.int .i64 a5,.int .i64 s0,.int .i64 s1,.int .i64 s2,.int .i64 s3,.int .i64 s4,.int .i64 s5,.bool hl] 58:=by rw[hW];exact ((Blk.new w _ _).alloc _).alloc _
 have k8:Blk W (w.heap.size+1) #[.int .i64 0,.int .i64 0,.int .i64 0,.int .i64 0,.int .i64 0,.int .i64 0,.int .i64 0,.int .i64 0,.int .i64 0,.int .i64 0,.int .i64 0,.int .i64 0,.int .i64 0,.int .i64 0,.bool false] 58:=by rw[hW];exact (Blk.new_at _ _ _ _ _ (by simp) rfl).alloc _
 have k9:Blk W (w.heap.size+1+1) #[.int .i64 0,.int .i64 0,.int .i64 0] 54:=by rw[hW];exact Blk.new_at _ _ _ _ _ (by simp) rfl
 have hSW:=h1.below hbW;have hsW:Stp (qh y) o o1 w W:=hS0.trans (Stp.of_below hbW);have HC:=Lib.hid (fun X o2 (h2:StIn X o2 y S)=>qkd h2 hI hi)
 have HB:=Lib.hid hbx;generalize (S.beginR i).1=SB at *;generalize (S.beginR i).2=ee at *;clear hI hi h1 hS0 hbx;have heb:(ee != 0)=true:=by rw[bne_iff_ne];exact he
 go_enter Tryz.func152,Tryz.ntmps152;go_wp2_with fail;rw[←hW];clear hW;refine (HC.out _ _ hSW).mono ?_
 rintro e2 w2 ⟨rfl,o2,hS2,hI2,hs2⟩
 have nt:∀ b,w.heap.size≤b→¬qh y (o1 b):=fun b q1=>uh (HB.out b q1)
 have tg:∀ b,w.heap.size≤b→b<W.heap.size→bxT y (o2 b):=fun b q1 q2=>by have:=HB.out b q1;rw[←hs2.tags b q2]at this;exact this
 have t7:=tg w.heap.size (by omega) k7.lt
 have t8:=tg (w.heap.size+1) (by omega) k8.lt
 have t9:=tg (w.heap.size+1+1) (by omega) k9.lt
 replace k7:=k7.stp hs2 (nt _ (by omega))
 replace k8:=k8.stp hs2 (nt _ (by omega))
 replace k9:=k9.stp hs2 (nt _ (by omega))
 have hs3:=hsW.trans hs2;have HI2:=Lib.hid hI2;obtain⟨w3,hw3⟩:∃ w3,w3=w2.alloc (.cells #[.int .i64 1,.int .i64 ee,.int .i64 0] 54):=⟨_,rfl⟩;have kA:Blk w3 w2.heap.size #[.int .i64 1,.int .i64 ee,.int .i64 0] 54:=by rw[hw3];exact Blk.new _ _ _
 have hb3:Below w2.heap.size w2 w3:=by rw[hw3];exact qa (qc _) _
 have l7:=k7.lt;have l8:=k8.lt;have l9:=k9.lt;replace k7:=k7.below hb3 k7.lt;replace k8:=k8.below hb3 k8.lt;replace k9:=k9.below hb3 k9.lt;have hS3:=hS2.below hb3;replace hs3:=hs3.trans (Stp.of_below hb3);have hsz:w.heap.size≤w2.heap.size:=by omega
 clear hs2 hSW hsW HC tg nt hS2 hbW hb3;go_upto_region 2 with fail;rw[←hw3];clear hw3;have c7:=k7.cell;have z7:=k7.free;have l7':=k7.lt;have cA:=kA.cell;have ne7:w.heap.size≠w2.heap.size:=by omega
 have ne7':w2.heap.size≠w.heap.size:=by omega
 go_upto_region 4 with fail;clear c7 z7 l7' cA;obtain⟨bA,hbA⟩:∃ bA,bA=w2.heap.size:=⟨_,rfl⟩;rw[←hbA]at kA ne7 ne7' hsz l7 l8 l9 ⊢;clear hbA;obtain⟨V,hV⟩:∃ V,V=w3.setCell ⟨w.heap.size,0,none⟩ (.int .i64 nb):=⟨_,rfl⟩;rw[←hV];have i7:Blk V w.heap.size #[.int .i64 nb,.int .i64 hn,.int .i64 a0,.int .i64 a1,.int .i64 a2,.int .i64 a3,.int .i64 a4,.int .i64 a5,.int .i64 s0,.int .i64 s1,.int .i64 s2,.int .i64 s3,.int .i64 s4,.int .i64 s5,.bool hl] 58:=by
  rw[hV];have k:=k7.set 0 (.int .i64 nb);simp only[List.setIfInBounds_toArray,List.set_cons_zero]at k;exact k
 have iA:Blk V bA #[.int .i64 1,.int .i64 ee,.int .i64 0] 54:=by rw[hV];exact kA.set_other (a:=⟨w.heap.size,0,none⟩) ne7' (.int .i64 nb)
 have hw2:Wr w.heap.size w3 V:=by rw[hV];exact Wr.set _ _ 0 _
 have i8:=k8.wr hw2 (by omega)
 have i9:=k9.wr hw2 (by omega)
 have hs5:=hs3.wr_new hw2 (by omega)
 have hS5:=hS3.bx (Stp.of_wr hw2 t7);have nA8:bA≠w.heap.size+1:=by omega
 have nA9:bA≠w.heap.size+1+1:=by omega
 clear hV hw2 k7 k8 k9 kA hS3 hs3 l7 l8 l9;have c7:=i7.cell;have cA:=iA.cell;have c8:=i8.cell;have z8:=i8.free;have l8:=i8.lt;have c9:=i9.cell;have z9:=i9.free;have l9:=i9.lt;have hres:=Lib.hid (zr i8 i9 (by omega) ⟨nb,hn,⟨a0,a1,a2,a3,a4,a5⟩,⟨s0,s1,s2,s3,s4,s5⟩,hl⟩ ⟨1,ee,0⟩)
 have hrs:=Lib.hid (ku hs5 (b6:=(w.heap.size+1)) (b7:=(w.heap.size+1+1)) (by omega) (by omega) ⟨nb,hn,⟨a0,a1,a2,a3,a4,a5⟩,⟨s0,s1,s2,s3,s4,s5⟩,hl⟩ ⟨1,ee,0⟩)
 have hrS:=Lib.hid (hS5.bx (xd V (w.heap.size+1) (w.heap.size+1+1) (o:=o2) t8 t9 ⟨nb,hn,⟨a0,a1,a2,a3,a4,a5⟩,⟨s0,s1,s2,s3,s4,s5⟩,hl⟩ ⟨1,ee,0⟩));clear i7 iA i8 i9 hS5 hs5;go_region
 all_goals
  go_wp2_with fail;change bodyPost _ _ _ _ _ (zy V (w.heap.size+1) (w.heap.size+1+1) ⟨nb,hn,⟨a0,a1,a2,a3,a4,a5⟩,⟨s0,s1,s2,s3,s4,s5⟩,hl⟩ ⟨1,ee,0⟩).drew;generalize zy V (w.heap.size+1) (w.heap.size+1+1) ⟨nb,hn,⟨a0,a1,a2,a3,a4,a5⟩,⟨s0,s1,s2,s3,s4,s5⟩,hl⟩ ⟨1,ee,0⟩=X at *;exact bodyPost_ret (qq _ _ 8 9 rfl rfl rfl (qi hres.out.1) (qi hres.out.2)) rfl ⟨rfl,o2,hrS.out.below (qe (qc _)),HI2.out,hrs.out.drew⟩
theorem qh1 (hS:StIn w o y S) (hI:Inv S) (hb hn a0 a1 a2 a3 a4 a5 s0 s1 s2 s3 s4 s5:Int) (hl:Bool) (hc:S.chk i=true) (he:(S.commit i).e=0) (hb0:0≤hb∧hb≤4096) :
  Calls Tryz.prog 153 #[ptr y.sb,.int .i64 i,.agg #[.int .i64 hb,.int .i64 hn,.int .i64 a0,.int .i64 a1,.int .i64 a2,.int .i64 a3,.int .i64 a4,.int .i64 a5,.int .i64 s0,.int .i64 s1,.int .i64 s2,.int .i64 s3,.int .i64 s4,.int .i64 s5,.bool hl]] w fun e' w'=>e'=.returned (.tuple #[ThV.v ⟨(hb+1),0,⟨a0,a1,a2,a3,a4,a5⟩,⟨a0,a1,a2,a3,a4,a5⟩,false⟩,ActV.val ⟨3,0,(S.commit i).v⟩])∧Left y (S.commit i).S o w w':=by
 obtain⟨o1,ho1⟩:∃ o1,o1=ext o w.heap.size (y.l.id+1,0):=⟨_,rfl⟩;have h1:=hS.retag (o':=o1) fun b hb=>by rw[ho1];exact qj hb
 have hS0:Stp (qh y) o o1 w w:=by rw[ho1];exact (Stp.refl _ o w).ext _ _ (Nat.le_refl _)
 have hbx:∀ b,w.heap.size≤b→bxT y (o1 b):=fun b hb=>by rw[ho1];exact qp hb
 clear ho1 hS;obtain⟨W,hW⟩:∃ W:World,W=(((w.alloc (.cells #[.int .i64 hb,.int .i64 hn,.int .i64 a0,.int .i64 a1,.int .i64 a2,.int .i64 a3,.int .i64 a4,.int .i64 a5,.int .i64 s0,.int .i64 s1,.int .i64 s2,.int .i64 s3,.int .i64 s4,.int .i64 s5,.bool hl] 58)).alloc (.cells #[.int .i64 0,.int .i64 0,.int .i64 0,.int .i64 0,.int .i64 0,.int .i64 0,.int .i64 0,.int .i64 0,.int .i64 0,.int .i64 0,.int .i64 0,.int .i64 0,.int .i64 0,.int .i64 0,.bool false] 58)).alloc (.cells #[.int .i64 0,.int .i64 0,.int .i64 0] 54)):=⟨_,rfl⟩;have hbW:Below w.heap.size w W:=by rw[hW];exact qa (qa (qa (qc w) _) _) _
 have k7:Blk W w.heap.size #[.int .i64 hb,.int .i64 hn,.int .i64 a0,.int .i64 a1,.int .i64 a2,.int .i64 a3,.int .i64 a4,.int .i64 a5,.int .i64 s0,.int .i64 s1,.int .i64 s2,.int .i64 s3,.int .i64 s4,.int .i64 s5,.bool hl] 58:=by rw[hW];exact ((Blk.new w _ _).alloc _).alloc _
 have k8:Blk W (w.heap.size+1) #[.int .i64 0,.int .i64 0,.int .i64 0,.int .i64 0,.int .i64 0,.int .i64 0,.int .i64 0,.int .i64 0,.int .i64 0,.int .i64 0,.int .i64 0,.int .i64 0,.int .i64 0,.int .i64 0,.bool false] 58:=by rw[hW];exact (Blk.new_at _ _ _ _ _ (by simp) rfl).alloc _
 have k9:Blk W (w.heap.size+1+1) #[.int .i64 0,.int .i64 0,.int .i64 0] 54:=by rw[hW];exact Blk.new_at _ _ _ _ _ (by simp) rfl
 have hSW:=h1.below hbW;have hsW:Stp (qh y) o o1 w W:=hS0.trans (Stp.of_below hbW);have HC:=Lib.hid (fun X o2 (h2:StIn X o2 y S)=>qg9 h2 hI hc)
 have HB:=Lib.hid hbx;obtain⟨b1,b2⟩:=hb0;generalize S.commit i=R at *;clear hI hc h1 hS0 hbx;rw[he]at HC;go_enter Tryz.func153,Tryz.ntmps153;go_wp2_with fail;rw[←hW];clear hW;refine (HC.out _ _ hSW).mono ?_
 rintro e2 w2 ⟨rfl,o2,hS2,hI2,hs2⟩
 have nt:∀ b,w.heap.size≤b→¬qh y (o1 b):=fun b q1=>uh (HB.out b q1)
 have tg:∀ b,w.heap.size≤b→b<W.heap.size→bxT y (o2 b):=fun b q1 q2=>by have:=HB.out b q1;rw[←hs2.tags b q2]at this;exact this
 have t7:=tg w.heap.size (by omega) k7.lt
 have t8:=tg (w.heap.size+1) (by omega) k8.lt
 have t9:=tg (w.heap.size+1+1) (by omega) k9.lt
 replace k7:=k7.stp hs2 (nt _ (by omega))
 replace k8:=k8.stp hs2 (nt _ (by omega))
 replace k9:=k9.stp hs2 (nt _ (by omega))
 have hs3:=hsW.trans hs2;have HI2:=Lib.hid hI2;clear hs2 hSW hsW HC tg nt hbW hI2;have c7:=k7.cell;have z7:=k7.free;have l7:=k7.lt;go_upto_region 8 with fail;obtain⟨V,hV⟩:∃ V,V=(((((((((w2.setCell ⟨w.heap.size,14,none⟩ (.bool false)).setCell ⟨w.heap.size,1,none⟩ (.int .i64 0)).setCell ⟨w.heap.size,0,none⟩ (.int .i64 (hb+1))).setCell ⟨w.heap.size,8,none⟩ (.int .i64 a0)).setCell ⟨w.heap.size,9,none⟩ (.int .i64 a1)).setCell ⟨w.heap.size,10,none⟩ (.int .i64 a2)).setCell ⟨w.heap.size,11,none⟩ (.int .i64 a3)).setCell ⟨w.heap.size,12,none⟩ (.int .i64 a4)).setCell ⟨w.heap.size,13,none⟩ (.int .i64 a5)):=⟨_,rfl⟩;rw[←hV];have i7:Blk V w.heap.size #[.int .i64 (hb+1),.int .i64 0,.int .i64 a0,.int .i64 a1,.int .i64 a2,.int .i64 a3,.int .i64 a4,.int .i64 a5,.int .i64 a0,.int .i64 a1,.int .i64 a2,.int .i64 a3,.int .i64 a4,.int .i64 a5,.bool false] 58:=by
  rw[hV];have k:=(((((((((k7.set 14 (.bool false)).set 1 (.int .i64 0)).set 0 (.int .i64 (hb+1))).set 8 (.int .i64 a0)).set 9 (.int .i64 a1)).set 10 (.int .i64 a2)).set 11 (.int .i64 a3)).set 12 (.int .i64 a4)).set 13 (.int .i64 a5));simp only[List.setIfInBounds_toArray,List.set_cons_zero,List.set_cons_succ]at k;exact k
 have hw2:Wr w.heap.size w2 V:=by rw[hV];exact ((((((((((Wr.refl _ _).trans (Wr.set _ _ 14 _)).trans (Wr.set _ _ 1 _)).trans (Wr.set _ _ 0 _)).trans (Wr.set _ _ 8 _)).trans (Wr.set _ _ 9 _)).trans (Wr.set _ _ 10 _)).trans (Wr.set _ _ 11 _)).trans (Wr.set _ _ 12 _)).trans (Wr.set _ _ 13 _))
 have i8:=k8.wr hw2 (by omega)
 have i9:=k9.wr hw2 (by omega)
 have hs5:=hs3.wr_new hw2 (by omega)
 have hS5:=hS2.bx (Stp.of_wr hw2 t7);clear hV hw2 k7 k8 k9 hS2 hs3 l7 c7 z7;have c7:=i7.cell;have c8:=i8.cell;have z8:=i8.free;have l8:=i8.lt;have c9:=i9.cell;have z9:=i9.free;have l9:=i9.lt;have hres:=Lib.hid (zr i8 i9 (by omega) ⟨(hb+1),0,⟨a0,a1,a2,a3,a4,a5⟩,⟨a0,a1,a2,a3,a4,a5⟩,false⟩ ⟨3,0,R.v⟩)
 have hrs:=Lib.hid (ku hs5 (b6:=(w.heap.size+1)) (b7:=(w.heap.size+1+1)) (by omega) (by omega) ⟨(hb+1),0,⟨a0,a1,a2,a3,a4,a5⟩,⟨a0,a1,a2,a3,a4,a5⟩,false⟩ ⟨3,0,R.v⟩)
 have hrS:=Lib.hid (hS5.bx (xd V (w.heap.size+1) (w.heap.size+1+1) (o:=o2) t8 t9 ⟨(hb+1),0,⟨a0,a1,a2,a3,a4,a5⟩,⟨a0,a1,a2,a3,a4,a5⟩,false⟩ ⟨3,0,R.v⟩));clear i7 i8 i9 hS5 hs5;go_wp2_with fail;change bodyPost _ _ _ _ _ (zy V (w.heap.size+1) (w.heap.size+1+1) ⟨(hb+1),0,⟨a0,a1,a2,a3,a4,a5⟩,⟨a0,a1,a2,a3,a4,a5⟩,false⟩ ⟨3,0,R.v⟩);generalize zy V (w.heap.size+1) (w.heap.size+1+1) ⟨(hb+1),0,⟨a0,a1,a2,a3,a4,a5⟩,⟨a0,a1,a2,a3,a4,a5⟩,false⟩ ⟨3,0,R.v⟩=X at *;exact bodyPost_ret (qq _ _ 6 7 rfl rfl rfl hres.out.1 hres.out.2) rfl ⟨rfl,o2,hrS.out,HI2.out,hrs.out⟩
theorem qid (hS:StIn w o y S) (hI:Inv S) (hb hn a0 a1 a2 a3 a4 a5 s0 s1 s2 s3 s4 s5:Int) (hl:Bool) (hc:S.chk i=true) (he:(S.commit i).e≠0)  :
  Calls Tryz.prog 153 #[ptr y.sb,.int .i64 i,.agg #[.int .i64 hb,.int .i64 hn,.int .i64 a0,.int .i64 a1,.int .i64 a2,.int .i64 a3,.int .i64 a4,.int .i64 a5,.int .i64 s0,.int .i64 s1,.int .i64 s2,.int .i64 s3,.int .i64 s4,.int .i64 s5,.bool hl]] w fun e' w'=>e'=.returned (.tuple #[ThV.v ⟨hb,0,⟨s0,s1,s2,s3,s4,s5⟩,⟨s0,s1,s2,s3,s4,s5⟩,false⟩,ActV.val ⟨3,(S.commit i).e,0⟩])∧Left y (S.commit i).S o w w':=by
 obtain⟨o1,ho1⟩:∃ o1,o1=ext o w.heap.size (y.l.id+1,0):=⟨_,rfl⟩;have h1:=hS.retag (o':=o1) fun b hb=>by rw[ho1];exact qj hb
 have hS0:Stp (qh y) o o1 w w:=by rw[ho1];exact (Stp.refl _ o w).ext _ _ (Nat.le_refl _)
 have hbx:∀ b,w.heap.size≤b→bxT y (o1 b):=fun b hb=>by rw[ho1];exact qp hb
 clear ho1 hS;obtain⟨W,hW⟩:∃ W:World,W=(((w.alloc (.cells #[.int .i64 hb,.int .i64 hn,.int .i64 a0,.int .i64 a1,.int .i64 a2,.int .i64 a3,.int .i64 a4,.int .i64 a5,.int .i64 s0,.int .i64 s1,.int .i64 s2,.int .i64 s3,.int .i64 s4,.int .i64 s5,.bool hl] 58)).alloc (.cells #[.int .i64 0,.int .i64 0,.int .i64 0,.int .i64 0,.int .i64 0,.int .i64 0,.int .i64 0,.int .i64 0,.int .i64 0,.int .i64 0,.int .i64 0,.int .i64 0,.int .i64 0,.int .i64 0,.bool false] 58)).alloc (.cells #[.int .i64 0,.int .i64 0,.int .i64 0] 54)):=⟨_,rfl⟩;have hbW:Below w.heap.size w W:=by rw[hW];exact qa (qa (qa (qc w) _) _) _
 have k7:Blk W w.heap.size #[.int .i64 hb,.int .i64 hn,.int .i64 a0,.int .i64 a1,.int .i64 a2,.int .i64 a3,.int .i64 a4,.int .i64 a5,.int .i64 s0,.int .i64 s1,.int .i64 s2,.int .i64 s3,.int .i64 s4,.int .i64 s5,.bool hl] 58:=by rw[hW];exact ((Blk.new w _ _).alloc _).alloc _
 have k8:Blk W (w.heap.size+1) #[.int .i64 0,.int .i64 0,.int .i64 0,.int .i64 0,.int .i64 0,.int .i64 0,.int .i64 0,.int .i64 0,.int .i64 0,.int .i64 0,.int .i64 0,.int .i64 0,.int .i64 0,.int .i64 0,.bool false] 58:=by rw[hW];exact (Blk.new_at _ _ _ _ _ (by simp) rfl).alloc _
 have k9:Blk W (w.heap.size+1+1) #[.int .i64 0,.int .i64 0,.int .i64 0] 54:=by rw[hW];exact Blk.new_at _ _ _ _ _ (by simp) rfl
 have hSW:=h1.below hbW;have hsW:Stp (qh y) o o1 w W:=hS0.trans (Stp.of_below hbW);have HC:=Lib.hid (fun X o2 (h2:StIn X o2 y S)=>qg9 h2 hI hc)
 have HB:=Lib.hid hbx;have HK:=Lib.hid (fun X=>show Calls Tryz.prog 212 #[.agg #[.int .i64 hb,.int .i64 hn,.int .i64 a0,.int .i64 a1,.int .i64 a2,.int .i64 a3,.int .i64 a4,.int .i64 a5,.int .i64 s0,.int .i64 s1,.int .i64 s2,.int .i64 s3,.int .i64 s4,.int .i64 s5,.bool hl]] X fun e w'=>e=.returned (.agg #[.int .i64 hb,.int .i64 0,.int .i64 s0,.int .i64 s1,.int .i64 s2,.int .i64 s3,.int .i64 s4,.int .i64 s5,.int .i64 s0,.int .i64 s1,.int .i64 s2,.int .i64 s3,.int .i64 s4,.int .i64 s5,.bool false])∧Below X.heap.size X w' from cf ⟨hb,hn,⟨a0,a1,a2,a3,a4,a5⟩,⟨s0,s1,s2,s3,s4,s5⟩,hl⟩ X)
 generalize S.commit i=R at *;clear hI hc h1 hS0 hbx;have heb:(R.e != 0)=true:=by rw[bne_iff_ne];exact he
 go_enter Tryz.func153,Tryz.ntmps153;go_wp2_with fail;rw[←hW];clear hW;refine (HC.out _ _ hSW).mono ?_
 rintro e2 w2 ⟨rfl,o2,hS2,hI2,hs2⟩
 have nt:∀ b,w.heap.size≤b→¬qh y (o1 b):=fun b q1=>uh (HB.out b q1)
 have tg:∀ b,w.heap.size≤b→b<W.heap.size→bxT y (o2 b):=fun b q1 q2=>by have:=HB.out b q1;rw[←hs2.tags b q2]at this;exact this
 have t7:=tg w.heap.size (by omega) k7.lt
 have t8:=tg (w.heap.size+1) (by omega) k8.lt
 have t9:=tg (w.heap.size+1+1) (by omega) k9.lt
 replace k7:=k7.stp hs2 (nt _ (by omega))
 replace k8:=k8.stp hs2 (nt _ (by omega))
 replace k9:=k9.stp hs2 (nt _ (by omega))
 have hs3:=hsW.trans hs2;have HI2:=Lib.hid hI2;clear hs2 hSW hsW HC tg nt hbW hI2;have c7:=k7.cell;have z7:=k7.free;have l7:=k7.lt;go_wp2_with fail;refine (HK.out _).mono ?_
 rintro e3 V ⟨rfl,hb3⟩
 have i8:=k8.below hb3 k8.lt;have i9:=k9.below hb3 k9.lt;have hS5:=hS2.below hb3;have hs5:=hs3.trans (Stp.of_below hb3);clear k7 k8 k9 hS2 hs3 l7 c7 z7 hb3 HK;have c8:=i8.cell;have z8:=i8.free;have l8:=i8.lt;have c9:=i9.cell;have z9:=i9.free;have l9:=i9.lt;have hres:=Lib.hid (zr i8 i9 (by omega) ⟨hb,0,⟨s0,s1,s2,s3,s4,s5⟩,⟨s0,s1,s2,s3,s4,s5⟩,false⟩ ⟨3,R.e,0⟩)
 have hrs:=Lib.hid (ku hs5 (b6:=(w.heap.size+1)) (b7:=(w.heap.size+1+1)) (by omega) (by omega) ⟨hb,0,⟨s0,s1,s2,s3,s4,s5⟩,⟨s0,s1,s2,s3,s4,s5⟩,false⟩ ⟨3,R.e,0⟩)
 have hrS:=Lib.hid (hS5.bx (xd V (w.heap.size+1) (w.heap.size+1+1) (o:=o2) t8 t9 ⟨hb,0,⟨s0,s1,s2,s3,s4,s5⟩,⟨s0,s1,s2,s3,s4,s5⟩,false⟩ ⟨3,R.e,0⟩));clear i8 i9 hS5 hs5;go_wp2_with fail;change bodyPost _ _ _ _ _ (zy V (w.heap.size+1) (w.heap.size+1+1) ⟨hb,0,⟨s0,s1,s2,s3,s4,s5⟩,⟨s0,s1,s2,s3,s4,s5⟩,false⟩ ⟨3,R.e,0⟩);generalize zy V (w.heap.size+1) (w.heap.size+1+1) ⟨hb,0,⟨s0,s1,s2,s3,s4,s5⟩,⟨s0,s1,s2,s3,s4,s5⟩,false⟩ ⟨3,R.e,0⟩=X at *;exact bodyPost_ret (qq _ _ 6 7 rfl rfl rfl hres.out.1 hres.out.2) rfl ⟨rfl,o2,hrS.out,HI2.out,hrs.out⟩
end
end Go.Proofs.YteehgedabdchcaaGreat
