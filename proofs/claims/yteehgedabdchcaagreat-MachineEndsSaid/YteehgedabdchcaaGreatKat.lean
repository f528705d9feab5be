import Derived.Test.YteehgedabdchcaaGreatKaq
import Derived.Test.YteehgedabdchcaaGreatKav
set_option linter.all false
set_option maxRecDepth 1000000
set_option maxHeartbeats 16000000
open Go renaming World->Aa,Calls->Ab,Value->Ac
open Go.RowKit renaming Below->Ae
open Go.Value renaming int->I,pointer->Ag,slice->Ah,tuple->Aj,agg->Ak
open Go.IntKind renaming i64->Z
open Go.Ending renaming returned->O
namespace Go.Proofs.YteehgedabdchcaaGreat
section
open Go.RowKit Hp
def Inv (S:Al):Prop:=S.ok
theorem Inv.ok {S:Al}(h:Inv S):S.ok:=h
def Al.Dy (S:Al)(i:Nat):Bool:=decide (i<S.Aw.length)
theorem zm {S:Al}{i:Nat}(h:S.Dy i=true):i<S.Aw.length:=of_decide_eq_true h
def Ef (_:Al)(_:Nat):Prop:=True
theorem UE (S:Al)(p:Nat):Ef S p:=trivial
section
variable {w w' : Aa} {o o' : Own} {y : A3} {S : Al} {i : Nat}
def Left (y:A3)(S:Al)(o:Own)(w w':Aa):Prop:=∃ o',Ap w' o' y S/\Inv S/\Stp (qh y) o o' w w'
theorem Bl.left (h:Bl y S o w w')(hk:S.ok):Left y S o w w':=by
 obtain⟨o',h1,h2⟩:=h;exact⟨o',h1,hk,h2⟩
theorem L4 (h:Ap w o y S)(hI:Inv S)(hc:S.Dy i=true){p:Nat}(_:Ef S p)(j:Nat)(v:Int)(hv:-9223372036854775808<=v/\v<=9223372036854775807) :
  Ab Tryz.prog 48 #[ptr y.sb,I Z i,I Z p,I Z j,I Z v] w fun e w'=>e=O (I Z (S.write i p j v).e)/\Left y (S.write i p j v).S o w w':=
 (qju h hI (zm hc) p j v hv).mono fun _ _⟨a,b⟩=>⟨a,b.left (Good.Cv hI (zm hc) (fm hI (zm hc) p j hv)).1⟩
theorem PS (h:Ap w o y S)(hI:Inv S)(hc:S.Dy i=true){p q:Nat}(_:Ef S p)(_:Ef S q)(j:Nat) :
  Ab Tryz.prog 49 #[ptr y.sb,I Z i,I Z p,I Z j,I Z q] w fun e w'=>e=O (I Z (S.put i p j q).e)/\Left y (S.put i p j q).S o w w':=
 (GR h hI (zm hc) p j q).mono fun _ _⟨a,b⟩=>⟨a,b.left (Good.Cv hI (zm hc) (lz hI (zm hc) p j q)).1⟩
theorem Np (h:Ap w o y S)(hI:Inv S)(hc:S.Dy i=true){p:Nat}(_:Ef S p)(j:Nat) :
  Ab Tryz.prog 24 #[ptr y.sb,I Z i,I Z p,I Z j] w fun e w'=>e=O (Aj #[I Z (S.read i p j).v,I Z (S.read i p j).e])/\Left y (S.read i p j).S o w w':=
 (qnv h hI (zm hc) p j).mono fun _ _⟨a,b⟩=>⟨a,b.left (Good.Cv hI (zm hc) (bq hI (zm hc) p j)).1⟩
theorem PK (h:Ap w o y S)(hI:Inv S)(hc:S.Dy i=true){p:Nat}(_:Ef S p)(j:Nat) :
  Ab Tryz.prog 57 #[ptr y.sb,I Z i,I Z p,I Z j] w fun e w'=>e=O (Aj #[I Z (S.get i p j).v,I Z (S.get i p j).e])/\Left y (S.get i p j).S o w w':=
 (Jn h hI (zm hc) p j).mono fun _ _⟨a,b⟩=>⟨a,b.left (Good.Cv hI (zm hc) (RU hI (zm hc) p j)).1⟩
theorem Nx (h:Ap w o y S)(hI:Inv S)(hc:S.Dy i=true){p:Nat}(_:Ef S p) :
  Ab Tryz.prog 56 #[ptr y.sb,I Z i,I Z p] w fun e w'=>e=O (I Z (S.free i p).e)/\Left y (S.free i p).S o w w':=
 (Y3 h hI (zm hc) p).mono fun _ _⟨a,b⟩=>⟨a,b.left (Good.Cv hI (zm hc) (nc hI (zm hc) p)).1⟩
theorem Vi (h:Ap w o y S)(hI:Inv S)(hc:S.Dy i=true)(s:B3)(hs:s.ok)(hwk:s.Az=false) :
  Ab Tryz.prog 47 #[ptr y.sb,I Z i,ka s] w fun e w'=>e=O (Aj #[I Z (S.alloc i s).v,I Z (S.alloc i s).e])/\Left y (S.alloc i s).S o w w':=
 (V8 h hI (zm hc) s hs hwk).mono fun _ _⟨a,b⟩=>⟨a,b.left (Good.Cv hI (zm hc) (y8 hI (zm hc) hs)).1⟩
theorem NR (h:Ap w o y S)(hI:Inv S)(hc:S.Dy i=true){q:Nat}(_:Ef S q) :
  Ab Tryz.prog 217 #[ptr y.sb,I Z i,I Z q] w fun e w'=>e=O (Aj #[I Z (S.Az i q).v,I Z (S.Az i q).e])/\Left y (S.Az i q).S o w w':=
 (XZ h hI (zm hc) q).mono fun _ _⟨a,b⟩=>⟨a,b.left (Good.Cv hI (zm hc) (nk hI (zm hc) q)).1⟩
theorem MS (h:Ap w o y S)(hI:Inv S)(hc:S.Dy i=true){p:Nat}(_:Ef S p) :
  Ab Tryz.prog 218 #[ptr y.sb,I Z i,I Z p] w fun e w'=>e=O (Aj #[I Z (S.load i p).v,I Z (S.load i p).e])/\Left y (S.load i p).S o w w':=
 (WE h hI (zm hc) p).mono fun _ _⟨a,b⟩=>⟨a,b.left (Good.Cv hI (zm hc) (br hI (zm hc) p)).1⟩
theorem M9 (h:Ap w o y S)(hI:Inv S)(hc:S.Dy i=true) :
  Ab Tryz.prog 59 #[ptr y.sb,I Z i] w fun e w'=>e=O (Aj #[I Z (S.take i).v,I Z (S.take i).e])/\Left y (S.take i).S o w w':=
 (qmg h hI (zm hc)).mono fun _ _⟨a,b⟩=>⟨a,b.left (Good.Cv hI (zm hc) (mj hI (zm hc))).1⟩
theorem Tp (h:Ap w o y S)(hI:Inv S)(hc:S.Dy i=true) :
  Ab Tryz.prog 25 #[ptr y.sb,I Z i] w fun e w'=>e=O (Aj #[I Z (S.Be i).v,I Z (S.Be i).e])/\Left y (S.Be i).S o w w':=
 (Yo h hI (zm hc)).mono fun _ _⟨a,b⟩=>⟨a,b.left (VR hI (zm hc)).1⟩
theorem Vj (h:Ap w o y S)(hI:Inv S)(hi:i<S.Aw.length) :
  Ab Tryz.prog 16 #[ptr y.sb,I Z i] w fun e w'=>e=O (I Z (S.AO i).2)/\Left y (S.AO i).1 o w w':=
 (We h hI hi).mono fun _ _⟨a,b⟩=>⟨a,b.left (RX hI hi)⟩
theorem Lp (h:Ap w o y S)(hI:Inv S)(hi:i<S.Aw.length) :
  Ab Tryz.prog 20 #[ptr y.sb,I Z i] w fun e w'=>e=O (I Z (S.CZ i).2)/\Left y (S.CZ i).1 o w w':=
 (qkn h hI hi).mono fun _ _⟨a,b⟩=>⟨a,b.left (qoe hI hi)⟩
theorem NF (h:Ap w o y S)(hI:Inv S)(hi:i<S.Aw.length) :
  Ab Tryz.prog 21 #[ptr y.sb,I Z i] w fun e w'=>e=O (Aj #[I Z (if (S.t i).live then ((S.t i).start:Int) else 0),.bool (S.t i).live])/\w=w':=
 Ky h hI (Al.AV hi)
end
end
section
open Go.RowKit Hp
attribute [local go_sem ↓] Go.wp_at_zero Go.wp_at_succ
section
variable {w w' : Aa} {o o' : Own} {y : A3} {S : Al} {i : Nat}
def Al.Bt (S:Al)(p:Nat):Nat:=if p=0 then 0 else (S.H.Da p).1
theorem Yu (h:Ap w o y S)(hk:S.ok){p:Nat}(_:Ef S p) :
  Ab Tryz.prog 216 #[ptr y.sb,I Z p] w fun e w'=>e=O (I Z (S.Bt p))/\Ae w.heap.size w w':=by
 unfold Al.Bt;by_cases h0:p=0
 ·subst h0
  rw[if_pos rfl];clear h hk;go_enter Tryz.func216,Tryz.ntmps216;go_wp2_with fail;go_ret;exact⟨rfl,qc w⟩
 ·rw[if_neg h0]
  have HS:=Qa (Vm h hk p);have hpb:((p:Int)==0)=false:=by rw[Qh];omega
  generalize S.H.Da p=r at *;clear h hk h0;go_enter Tryz.func216,Tryz.ntmps216;go_wp2_with fail;refine HS.out.mono ?_
  rintro e w1⟨rfl,hb1⟩
  go_wp2_with fail;go_ret;exact⟨rfl,hb1⟩
end
theorem ma (h:AD)(a:Option Addr)(n c:Nat)(w:Aa) :
  Ab Tryz.prog 96 #[.slice a n c,h.v] w fun e w'=>e=O (.bool (decide (h.b<0)||decide ((n:Int)<=h.b)))/\Ae w.heap.size w w':=by
 obtain⟨hb,hn,⟨a0,a1,a2,a3,a4,a5⟩,⟨s0,s1,s2,s3,s4,s5⟩,hl⟩:=h;show Ab _ _ #[.slice a n c,Ak #[I Z hb,I Z hn,I Z a0,I Z a1,I Z a2,I Z a3,I Z a4,I Z a5,I Z s0,I Z s1,I Z s2,I Z s3,I Z s4,I Z s5,.bool hl]] _ _;simp only;by_cases h0:hb<0
 ·rw[decide_eq_true h0,Bool.true_or]
  go_enter Tryz.func96,Tryz.ntmps96;go_wp2_with fail;go_ret;exact⟨rfl,qa (qc w) _⟩
 ·rw[decide_eq_false h0,Bool.false_or]
  by_cases h1:(n:Int)<=hb
  ·rw[decide_eq_true h1]
   go_enter Tryz.func96,Tryz.ntmps96;go_wp2_with fail;go_ret;exact⟨rfl,qa (qc w) _⟩
  ·rw[decide_eq_false h1]
   go_enter Tryz.func96,Tryz.ntmps96;go_wp2_with fail;go_ret;exact⟨rfl,qa (qc w) _⟩
def R6.get (r:R6):Nat->Int
 | 0=>r.a0|1=>r.a1|2=>r.a2|3=>r.a3|4=>r.a4|_=>r.a5
def R6.set (r:R6)(v:Int):Nat->R6
 | 0=>{ r with a0:=v }|1=>{ r with a1:=v }|2=>{ r with a2:=v }|3=>{ r with a3:=v }|4=>{ r with a4:=v }|_=>{ r with a5:=v }
def AD.put (h:AD)(A:Nat)(v:Int):AD:={ h with r:=h.r.set v A }
theorem six {A:Nat}(h:A<6):A=0\/A=1\/A=2\/A=3\/A=4\/A=5:=by omega
theorem QI {w:Aa}{b:Nat}{t:TypeId}{h:AD}(j:Am w b h.cells t){A:Nat}(hA:A<6)(v:Int):Am (w.setCell ⟨b,2+A,none⟩ (I Z v)) b (h.put A v).cells t:=by
 have e1:∀ x,x=(h.put A v).cells->Am (w.setCell ⟨b,2+A,none⟩ (I Z v)) b x t->Am (w.setCell ⟨b,2+A,none⟩ (I Z v)) b (h.put A v).cells t:=fun x e k=>by rw[<-e];exact k
 refine e1 _ ?_ (j.set (2+A) (I Z v));rcases six hA with rfl|rfl|rfl|rfl|rfl|rfl
 all_goals simp only[AD.cells,AD.put,R6.set,List.setIfInBounds_toArray,List.set_cons_zero,List.set_cons_succ,Nat.reduceAdd]
theorem ji {w:Aa}{b:Nat}{t:TypeId}{h:AD}(j:Am w b h.cells t){A:Nat}(hA:A<6):w.cell? ⟨b,2+A,none⟩=some (I Z (h.r.get A)):=by
 rw[j.cell];rcases six hA with rfl|rfl|rfl|rfl|rfl|rfl<;>rfl
theorem TD {w:Aa}{b c i j:Nat}{v x:Ac}(h:w.cell? ⟨c,j,none⟩=some v)(hne:c≠b):(w.setCell ⟨b,i,none⟩ x).cell? ⟨c,j,none⟩=some v:=by
 rw[World.cell?_of_block (w:=w) (Below.heap_setCell _ _ _ _ hne)];exact h
theorem ku {T:Tag->Prop}{o o':Own}{w W:Aa}{b6 b7:Nat}(h1:Stp T o o' w W)(h6:w.heap.size<=b6)(h7:w.heap.size<=b7)(h:AD)(a:Bf):Stp T o o' w (jd W b6 b7 h a):=((((((((((((((((((h1.setCell_new (a:=⟨b6,0,none⟩) h6 _).setCell_new (a:=⟨b6,1,none⟩) h6 _).setCell_new (a:=⟨b6,2,none⟩) h6 _).setCell_new (a:=⟨b6,3,none⟩) h6 _).setCell_new (a:=⟨b6,4,none⟩) h6 _).setCell_new (a:=⟨b6,5,none⟩) h6 _).setCell_new (a:=⟨b6,6,none⟩) h6 _).setCell_new (a:=⟨b6,7,none⟩) h6 _).setCell_new (a:=⟨b6,8,none⟩) h6 _).setCell_new (a:=⟨b6,9,none⟩) h6 _).setCell_new (a:=⟨b6,10,none⟩) h6 _).setCell_new (a:=⟨b6,11,none⟩) h6 _).setCell_new (a:=⟨b6,12,none⟩) h6 _).setCell_new (a:=⟨b6,13,none⟩) h6 _).setCell_new (a:=⟨b6,14,none⟩) h6 _).setCell_new (a:=⟨b7,0,none⟩) h7 _).setCell_new (a:=⟨b7,1,none⟩) h7 _).setCell_new (a:=⟨b7,2,none⟩) h7 _)
theorem Wr.Bb {b:Nat}{w W:Aa}(h:Wr b w W){a:Addr}(ha:w.heap.size<=a.block)(v:Ac):Wr b w (W.setCell a v):=
 ⟨h.os,h.tape,h.output,by rw[World.size_setCell];exact h.size,fun k hk hn=>(Below.heap_setCell _ _ _ _ (show k≠a.block by omega)).trans (h.block k hk hn)⟩
theorem Stp.CL {T:Tag->Prop}{o o':Own}{b:Nat}{w W W':Aa}(h:Stp T o o' w W)(k:Wr b W W')(hb:w.heap.size<=b):Stp T o o' w W':=
 ⟨k.os.trans h.os,k.tape.trans h.tape,k.output.trans h.output,Qo h.size k.size,h.tags,fun j hj hn=>(k.block j (Qn hj h.size) (by omega)).trans (h.block j hj hn)⟩
theorem NI {b:Nat} {w W:Aa} {b6 b7:Nat} (h1:Wr b w W) (h6:w.heap.size<=b6) (h7:w.heap.size<=b7) (h:AD) (a:Bf):Wr b w (jd W b6 b7 h a):=(Wr.Bb (Wr.Bb (Wr.Bb (Wr.Bb (Wr.Bb (Wr.Bb (Wr.Bb (Wr.Bb (Wr.Bb (Wr.Bb (Wr.Bb (Wr.Bb (Wr.Bb (Wr.Bb (Wr.Bb (Wr.Bb (Wr.Bb (Wr.Bb h1 (a:=⟨b6,0,none⟩) h6 _) (a:=⟨b6,1,none⟩) h6 _) (a:=⟨b6,2,none⟩) h6 _) (a:=⟨b6,3,none⟩) h6 _) (a:=⟨b6,4,none⟩) h6 _) (a:=⟨b6,5,none⟩) h6 _) (a:=⟨b6,6,none⟩) h6 _) (a:=⟨b6,7,none⟩) h6 _) (a:=⟨b6,8,none⟩) h6 _) (a:=⟨b6,9,none⟩) h6 _) (a:=⟨b6,10,none⟩) h6 _) (a:=⟨b6,11,none⟩) h6 _) (a:=⟨b6,12,none⟩) h6 _) (a:=⟨b6,13,none⟩) h6 _) (a:=⟨b6,14,none⟩) h6 _) (a:=⟨b7,0,none⟩) h7 _) (a:=⟨b7,1,none⟩) h7 _) (a:=⟨b7,2,none⟩) h7 _)
structure Ay where
 k:Int
 A:Nat
 B:Nat
 i:Int
 n:Int
def Ay.cells (d:Ay):Array Ac:=#[I Z d.k,I Z d.A,I Z d.B,I Z d.i,I Z d.n]
def Ay.v (d:Ay):Ac:=.agg d.cells
def AD.Mw (h:AD)(A:Nat)(p e:Int):AD:=if e=0 then (h.put A p).ended 0 else h.ended e
def Ek (s e:Int):Bf:=if e=0 then kw s 0 else kw 0 e
def CR (y:A3)(t:Tag):Prop:=t=(y.l.id+1,0)
theorem uh {y:A3}{t:Tag}(h:CR y t):¬qh y t:=by rw[h];exact qm y
theorem Ap.bx {w w':Aa}{o o':Own}{y:A3}{S:Al}(h:Ap w o y S)(hs:Stp (CR y) o o' w w'):Ap w' o' y S:=h.Ao hs fun j e=>by
 have e:(y.l.id,j)=(y.l.id+1,0):=e;injection e with e1 e2;omega
theorem xj (W:Aa)(b6 b7:Nat){y:A3}{o:Own}(h6:CR y (o b6))(h7:CR y (o b7))(h:AD)(a:Bf):Stp (CR y) o o W (jd W b6 b7 h a):=(((((((((((((((((((Stp.refl _ o W).setCell (a:=⟨b6,0,none⟩) h6 _).setCell (a:=⟨b6,1,none⟩) h6 _).setCell (a:=⟨b6,2,none⟩) h6 _).setCell (a:=⟨b6,3,none⟩) h6 _).setCell (a:=⟨b6,4,none⟩) h6 _).setCell (a:=⟨b6,5,none⟩) h6 _).setCell (a:=⟨b6,6,none⟩) h6 _).setCell (a:=⟨b6,7,none⟩) h6 _).setCell (a:=⟨b6,8,none⟩) h6 _).setCell (a:=⟨b6,9,none⟩) h6 _).setCell (a:=⟨b6,10,none⟩) h6 _).setCell (a:=⟨b6,11,none⟩) h6 _).setCell (a:=⟨b6,12,none⟩) h6 _).setCell (a:=⟨b6,13,none⟩) h6 _).setCell (a:=⟨b6,14,none⟩) h6 _).setCell (a:=⟨b7,0,none⟩) h7 _).setCell (a:=⟨b7,1,none⟩) h7 _).setCell (a:=⟨b7,2,none⟩) h7 _)
section
variable {w w' : Aa} {o o' : Own} {y : A3} {S : Al}
theorem MG (h:AD) (p e:Int) (he:e≠0) (hn:0<=h.n/\h.n<=4096) (hb:0<=h.b/\h.b<=4096) (w:Aa) {b10 b7 b6 b4:Nat}
  (j10:Am w b10 #[.func (.func 213) #[] #[ptr b7]] 295) (j7:Am w b7 h.cells 58) :
  Ab Tryz.prog 215 #[I Z p,I Z e,ptr b10,ptr b7,ptr b6,ptr b4] w fun e' w'=>e'=O (Aj #[(h.ended e).v,(kw 0 e).val])/\Ae w.heap.size w w':=by
 have HT:=Qa (fun W (hW:Ae w.heap.size w W)=>uj h 0 e hn hb W (j7.below hW j7.lt))
 have heb:(e != 0)=true:=by rw[bne_iff_ne];exact he
 have Ph:=j10.cell;have l10:=j10.lt;generalize h.ended e=h' at *;generalize kw 0 e=a' at *;clear hn hb he j7;obtain⟨b',n',⟨r0,r1,r2,r3,r4,r5⟩,⟨p0,p1,p2,p3,p4,p5⟩,hl'⟩:=h';obtain⟨ak,ae,av⟩:=a';have HT:=Qa (fun W hW=>show Ab Tryz.prog 213 #[I Z 0,I Z e,ptr b7] W fun e' w'=>e'=O (Aj #[Ak #[I Z b',I Z n',I Z r0,I Z r1,I Z r2,I Z r3,I Z r4,I Z r5,I Z p0,I Z p1,I Z p2,I Z p3,I Z p4,I Z p5,.bool hl'],Ak #[I Z ak,I Z ae,I Z av]])/\Ae W.heap.size W w' from HT.out W hW)
 clear j10;go_enter Tryz.func215,Tryz.ntmps215;go_wp2_with fail;refine (HT.out _ (qa (qa (qc w) _) _)).mono ?_
 rintro e1 w1 ⟨rfl,hb1⟩
 have j5:=(Am.Aq w (AD.cells ⟨0,0,⟨0,0,0,0,0,0⟩,⟨0,0,0,0,0,0⟩,false⟩) _ 58 w.heap.size rfl rfl).alloc (.cells #[I Z 0,I Z 0,I Z 0] 54);have j6:Am _ (w.heap.size+1) EN 54:=Am.Aq (w.alloc (.cells (AD.cells ⟨0,0,⟨0,0,0,0,0,0⟩,⟨0,0,0,0,0,0⟩,false⟩) 58)) #[I Z 0,I Z 0,I Z 0] EN 54 (w.heap.size+1) (by simp) rfl
 replace j5:=j5.below hb1 j5.lt;replace j6:=j6.below hb1 j6.lt;have hb2:=qd (qa (qa (qc w) _) _) hb1;have c5:=j5.cell;unfold AD.cells at c5;have z5:=j5.free;have l5:=j5.lt;have c6:=j6.cell;unfold EN at c6;have z6:=j6.free;have l6:=j6.lt;have hres:=Qa (zu j5 j6 (by omega) ⟨b',n',⟨r0,r1,r2,r3,r4,r5⟩,⟨p0,p1,p2,p3,p4,p5⟩,hl'⟩ ⟨ak,ae,av⟩)
 have hrb:=Qa (xf hb2 (b6:=w.heap.size) (b7:=w.heap.size+1) (by omega) (by omega) ⟨b',n',⟨r0,r1,r2,r3,r4,r5⟩,⟨p0,p1,p2,p3,p4,p5⟩,hl'⟩ ⟨ak,ae,av⟩)
 clear hb1 hb2 j5 j6 Ph l10 HT;go_wp2_with fail;change bodyPost _ _ _ _ _ (jd w1 (w.heap.size) (w.heap.size+1) ⟨b',n',⟨r0,r1,r2,r3,r4,r5⟩,⟨p0,p1,p2,p3,p4,p5⟩,hl'⟩ ⟨ak,ae,av⟩);generalize jd w1 (w.heap.size) (w.heap.size+1) ⟨b',n',⟨r0,r1,r2,r3,r4,r5⟩,⟨p0,p1,p2,p3,p4,p5⟩,hl'⟩ ⟨ak,ae,av⟩=X at *;exact bodyPost_ret (qq _ _ 8 9 rfl rfl rfl hres.out.1 hres.out.2) rfl ⟨rfl,hrb.out⟩
theorem KS (hS:Ap w o y S) (hk:S.ok) (h:AD) (d:Ay) {p:Nat} (hp:Ef S p) (hA:d.A<6) (hn:0<=h.n/\h.n<=4096) (hb:0<=h.b/\h.b<=4096) {b10 b7 b6 b4:Nat}
  (j10:Am w b10 #[.func (.func 213) #[] #[ptr b7]] 295) (j7:Am w b7 h.cells 58) (j6:Am w b6 d.cells 73) (j4:Am w b4 #[ptr y.sb] 24) (t7:CR y (o b7)) (n10:b10≠b7) (n4:b4≠b7) :
  Ab Tryz.prog 215 #[I Z p,I Z 0,ptr b10,ptr b7,ptr b6,ptr b4] w fun e' w'=>e'=O (Aj #[((h.put d.A p).ended 0).v,(kw (S.Bt p) 0).val])/\Wr b7 w w':=by
 have hAI:(d.A:Int)<6:=by omega
 have c7:=j7.cell;have l7:=j7.lt;have z7:=j7.free;have c6:=j6.cell;unfold Ay.cells at c6;have l6:=j6.lt;have hr:=ji j7 hA;clear c7;obtain⟨h',hh'⟩:∃ h',h'=(h.put d.A p).ended 0:=⟨_,rfl⟩;obtain⟨a',ha'⟩:∃ a',a'=kw (S.Bt p) 0:=⟨_,rfl⟩;rw[<-hh',<-ha'];obtain⟨b',n',⟨r0,r1,r2,r3,r4,r5⟩,⟨p0,p1,p2,p3,p4,p5⟩,hl'⟩:=h';obtain⟨ak,ae,av⟩:=a';go_enter Tryz.func215,Tryz.ntmps215;go_upto_region 4 with fail;obtain⟨W,hW⟩:∃ W:Aa,W=((w.setCell ⟨b7,2+d.A,none⟩ (I Z p)).alloc (.cells #[I Z 0,I Z 0,I Z 0,I Z 0,I Z 0,I Z 0,I Z 0,I Z 0,I Z 0,I Z 0,I Z 0,I Z 0,I Z 0,I Z 0,.bool false] 58)).alloc (.cells #[I Z 0,I Z 0,I Z 0] 54):=⟨_,rfl⟩;rw[<-hW];have hsW:Wr b7 w W:=by rw[hW];exact (Wr.set b7 w _ _).BG (qa (qa (qc _) _) _)
 have hSW:=hS.bx (Stp.BR hsW t7);have i7:Am W b7 (h.put d.A p).cells 58:=by rw[hW];exact ((QI j7 hA p).alloc _).alloc _
 have i10:Am W b10 #[.func (.func 213) #[] #[ptr b7]] 295:=by rw[hW];exact ((j10.An (a:=⟨b7,2+d.A,none⟩) n10 _).alloc _).alloc _
 have i4:Am W b4 #[ptr y.sb] 24:=by rw[hW];exact ((j4.An (a:=⟨b7,2+d.A,none⟩) n4 _).alloc _).alloc _
 have i8:Am W w.heap.size #[I Z 0,I Z 0,I Z 0,I Z 0,I Z 0,I Z 0,I Z 0,I Z 0,I Z 0,I Z 0,I Z 0,I Z 0,I Z 0,I Z 0,.bool false] 58:=by rw[hW];exact (Am.Aq _ _ _ _ _ (by simp) rfl).alloc _
 have i9:Am W (w.heap.size+1) #[I Z 0,I Z 0,I Z 0] 54:=by rw[hW];exact Am.Aq _ _ _ _ _ (by simp) rfl
 have HSer:=Qa (fun X (hX:Ae W.heap.size W X)=>Yu (hSW.below hX) hk hp)
 have HT:=Qa (fun X (hX:Ae W.heap.size W X)=>uj (h.put d.A p) (S.Bt p) 0 hn hb X (i7.below hX i7.lt))
 have HSW:=Qa hsW;rw[<-hh',<-ha']at HT;generalize S.Bt p=sp at *;have HT:=Qa (fun X hX=>show Ab Tryz.prog 213 #[I Z sp,I Z 0,ptr b7] X fun e' w'=>e'=O (Aj #[Ak #[I Z b',I Z n',I Z r0,I Z r1,I Z r2,I Z r3,I Z r4,I Z r5,I Z p0,I Z p1,I Z p2,I Z p3,I Z p4,I Z p5,.bool hl'],Ak #[I Z ak,I Z ae,I Z av]])/\Ae X.heap.size X w' from HT.out X hX)
 have N10:=Qa (show b10≠w.heap.size/\b10≠w.heap.size+1/\b4≠w.heap.size/\b4≠w.heap.size+1 from by have:=j10.lt;have:=j4.lt;omega)
 have H8:=Qa i8;have H9:=Qa i9;have H10:=Qa i10;have H4:=Qa i4;have Ph:=i10.cell 0;have c4:=i4.cell 0;simp at Ph c4;clear hh' ha' hW hsW hSW i7 i10 i4 i8 i9 hS hk hp hn hb j10 j7 j6 j4 t7 n10 n4 l7 z7 c6 l6 hr;go_region_held3 (fun w'=>w'.cell? ⟨b10,0,none⟩=some (.func (.func 213) #[] #[ptr b7])/\w'.cell? ⟨b4,0,none⟩=some (ptr y.sb)) (first|(refine⟨?_,?_⟩<;>with_reducible assumption)|go_keep|(refine⟨?_,?_⟩<;>(repeat (refine TD ?_ (by with_reducible assumption)))<;>with_reducible assumption)) (first
  | (go_at_call 216;refine (HSer.out _ (qe (qc W))).mono ?_;rintro e3 w3 ⟨rfl,hb3⟩;have hb3:=qd (qe (qc W)) hb3;have d10:=(H10.out.below hb3 H10.out.lt).cell 0;have d4:=(H4.out.below hb3 H4.out.lt).cell 0;simp at d10 d4)
  | (go_at_call 213;refine (HT.out _ hb3).mono ?_;rintro e5 w5 ⟨rfl,hb5⟩;have hb5:=qd hb3 hb5;have f10:=(H10.out.below hb5 H10.out.lt).cell 0;have f4:=(H4.out.below hb5 H4.out.lt).cell 0;simp at f10 f4;have k8:=H8.out.below hb5 H8.out.lt;have k9:=H9.out.below hb5 H9.out.lt;have c8:=k8.cell;have z8:=k8.free;have l8:=k8.lt;have c9:=k9.cell;have z9:=k9.free;have l9:=k9.lt;have hres:=Qa (zu k8 k9 (by omega) ⟨b',n',⟨r0,r1,r2,r3,r4,r5⟩,⟨p0,p1,p2,p3,p4,p5⟩,hl'⟩ ⟨ak,ae,av⟩);clear k8 k9;have m10:b10≠w.heap.size:=N10.out.1;have m10':b10≠w.heap.size+1:=N10.out.2.1;have m4:b4≠w.heap.size:=N10.out.2.2.1;have m4':b4≠w.heap.size+1:=N10.out.2.2.2)
  | fail)
 go_wp2_with fail;change bodyPost _ _ _ _ _ (jd w5 (w.heap.size) (w.heap.size+1) ⟨b',n',⟨r0,r1,r2,r3,r4,r5⟩,⟨p0,p1,p2,p3,p4,p5⟩,hl'⟩ ⟨ak,ae,av⟩);have hrs:=Qa (NI (HSW.out.BG hb5) (b6:=w.heap.size) (b7:=w.heap.size+1) (by omega) (by omega) ⟨b',n',⟨r0,r1,r2,r3,r4,r5⟩,⟨p0,p1,p2,p3,p4,p5⟩,hl'⟩ ⟨ak,ae,av⟩)
 generalize jd w5 (w.heap.size) (w.heap.size+1) ⟨b',n',⟨r0,r1,r2,r3,r4,r5⟩,⟨p0,p1,p2,p3,p4,p5⟩,hl'⟩ ⟨ak,ae,av⟩=X at *;exact bodyPost_ret (qq _ _ 8 9 rfl rfl rfl hres.out.1 hres.out.2) rfl ⟨rfl,hrs.out⟩
theorem LP (R:Bv)(hS:Ap w o y R.S)(hk:R.S.ok)(h:AD)(d:Ay)(hp:R.e=0->∃ p:Nat,R.v=p/\Ef R.S p)(hA:d.A<6)(hn:0<=h.n/\h.n<=4096)(hb:0<=h.b/\h.b<=4096){b10 b7 b6 b4:Nat}
  (j10:Am w b10 #[.func (.func 213) #[] #[ptr b7]] 295)(j7:Am w b7 h.cells 58)(j6:Am w b6 d.cells 73)(j4:Am w b4 #[ptr y.sb] 24)(t7:CR y (o b7))(n10:b10≠b7)(n4:b4≠b7) :
  Ab Tryz.prog 215 #[I Z R.v,I Z R.e,ptr b10,ptr b7,ptr b6,ptr b4] w fun e' w'=>e'=O (Aj #[(h.Mw d.A R.v R.e).v,(Ek (R.S.Bt R.v.toNat) R.e).val])/\Wr b7 w w':=by
 obtain⟨S,v,e⟩:=R;simp only at hS hk hp ⊢;by_cases he:e=0
 ·obtain⟨p,rfl,hq⟩:=hp he
  subst he;exact KS hS hk h d hq hA hn hb j10 j7 j6 j4 t7 n10 n4
 ·have e1:h.Mw d.A v e=h.ended e:=by unfold AD.Mw;rw[if_neg he]
  have e2:Ek (S.Bt v.toNat) e=kw 0 e:=by unfold Ek;rw[if_neg he]
  rw[e1,e2];refine (MG h v e he hn hb w j10 j7).mono ?_
  rintro e' w'⟨rfl,h1⟩
  exact⟨rfl,Wr.of_below h1⟩
end
theorem NU (W:Aa)(b:Nat)(h:AD):Wr b W (CN W b h):=((((((((((((((((Wr.refl b W).trans (Wr.set b _ 0 _)).trans (Wr.set b _ 1 _)).trans (Wr.set b _ 2 _)).trans (Wr.set b _ 3 _)).trans (Wr.set b _ 4 _)).trans (Wr.set b _ 5 _)).trans (Wr.set b _ 6 _)).trans (Wr.set b _ 7 _)).trans (Wr.set b _ 8 _)).trans (Wr.set b _ 9 _)).trans (Wr.set b _ 10 _)).trans (Wr.set b _ 11 _)).trans (Wr.set b _ 12 _)).trans (Wr.set b _ 13 _)).trans (Wr.set b _ 14 _))
section
variable {w w' : Aa} {o o' : Own} {y : A3} {S : Al} {i : Nat}
theorem Y7 (hS:Ap w o y S) (hI:Inv S) (hb hn a0 a1 a2 a3 a4 a5 s0 s1 s2 s3 s4 s5:Int) (hl:Bool) (A B:Nat) (fi fn:Int) (ra rb:Nat)
  (hi:i<S.Aw.length) (hlv:(S.t i).live=true) (hA:A<6) (hB:B<6) (hra:R6.get ⟨a0,a1,a2,a3,a4,a5⟩ A=ra) (hrb:R6.get ⟨a0,a1,a2,a3,a4,a5⟩ B=rb) (hb0:0<=hb/\hb<=4096) :
  Ab Tryz.prog 154 #[ptr y.sb,I Z i,Ak #[I Z 14,I Z A,I Z B,I Z fi,I Z fn],Ak #[I Z hb,I Z hn,I Z a0,I Z a1,I Z a2,I Z a3,I Z a4,I Z a5,I Z s0,I Z s1,I Z s2,I Z s3,I Z s4,I Z s5,.bool hl]] w fun e' w'=>e'=O (Aj #[AD.v ⟨(hb+1),0,⟨s0,s1,s2,s3,s4,s5⟩,⟨s0,s1,s2,s3,s4,s5⟩,false⟩,Bf.val ⟨2,0,0⟩])/\Left y (S.abort i) o w w':=by
 have hmf:∀ (fn:Fn) (first cap:Array Ac) (w:Aa),(Instr.makeFunc fn first cap).run Tryz.prog w=.ok (.func fn first cap) w:=fun _ _ _ _=>rfl
 obtain⟨o1,ho1⟩:∃ o1,o1=ext o w.heap.size (y.l.id+1,0):=⟨_,rfl⟩;have h1:=hS.retag (o':=o1) fun b hb=>by rw[ho1];exact qj hb
 have hS0:Stp (qh y) o o1 w w:=by rw[ho1];exact (Stp.refl _ o w).ext _ _ (Qk _)
 have hbx:∀ b,w.heap.size<=b->CR y (o1 b):=fun b hb=>by rw[ho1];exact qp hb
 clear ho1 hS;obtain⟨W,hW⟩:∃ W:Aa,W=(((((w.alloc (.cells #[ptr y.sb] 24)).alloc (.cells #[I Z 14,I Z A,I Z B,I Z fi,I Z fn] 73)).alloc (.cells #[I Z hb,I Z hn,I Z a0,I Z a1,I Z a2,I Z a3,I Z a4,I Z a5,I Z s0,I Z s1,I Z s2,I Z s3,I Z s4,I Z s5,.bool hl] 58)).alloc (.cells #[I Z 0,I Z 0,I Z 0,I Z 0,I Z 0,I Z 0,I Z 0,I Z 0,I Z 0,I Z 0,I Z 0,I Z 0,I Z 0,I Z 0,.bool false] 58)).alloc (.cells #[I Z 0,I Z 0,I Z 0] 54)).alloc (.cells #[.func (.func 213) #[] #[ptr (w.heap.size+1+1)]] 295):=⟨_,rfl⟩;have hbW:Ae w.heap.size w W:=by rw[hW];exact qa (qa (qa (qa (qa (qa (qc w) _) _) _) _) _) _
 have k0:Am W w.heap.size #[ptr y.sb] 24:=by rw[hW];exact (((((Am.new w _ _).alloc _).alloc _).alloc _).alloc _).alloc _
 have k1:Am W (w.heap.size+1) #[I Z 14,I Z A,I Z B,I Z fi,I Z fn] 73:=by rw[hW];exact ((((Am.Aq _ _ _ _ _ (by simp) rfl).alloc _).alloc _).alloc _).alloc _
 have k2:Am W (w.heap.size+1+1) #[I Z hb,I Z hn,I Z a0,I Z a1,I Z a2,I Z a3,I Z a4,I Z a5,I Z s0,I Z s1,I Z s2,I Z s3,I Z s4,I Z s5,.bool hl] 58:=by rw[hW];exact (((Am.Aq _ _ _ _ _ (by simp) rfl).alloc _).alloc _).alloc _
 have k3:Am W (w.heap.size+1+1+1) #[I Z 0,I Z 0,I Z 0,I Z 0,I Z 0,I Z 0,I Z 0,I Z 0,I Z 0,I Z 0,I Z 0,I Z 0,I Z 0,I Z 0,.bool false] 58:=by rw[hW];exact ((Am.Aq _ _ _ _ _ (by simp) rfl).alloc _).alloc _
 have k4:Am W (w.heap.size+1+1+1+1) #[I Z 0,I Z 0,I Z 0] 54:=by rw[hW];exact (Am.Aq _ _ _ _ _ (by simp) rfl).alloc _
 have k5:Am W (w.heap.size+1+1+1+1+1) #[.func (.func 213) #[] #[ptr (w.heap.size+1+1)]] 295:=by rw[hW];exact Am.Aq _ _ _ _ _ (by simp) rfl
 have hSW:=h1.below hbW;have hsW:Stp (qh y) o o1 w W:=hS0.trans (Stp.of_below hbW);have AI:(A:Int)<6:=by omega
 have BI:(B:Int)<6:=by omega
 have HB:=Qa hbx;have HC:=Qa (fun X o2 (h2:Ap X o2 y S)=>by have:=Lp h2 hI hi;rw[show S.CZ i=(S.abort i,0) from if_pos hlv]at this;exact this)
 have HK:=Qa (fun X=>show Ab Tryz.prog 212 #[Ak #[I Z hb,I Z hn,I Z a0,I Z a1,I Z a2,I Z a3,I Z a4,I Z a5,I Z s0,I Z s1,I Z s2,I Z s3,I Z s4,I Z s5,.bool hl]] X fun e w'=>e=O (Ak #[I Z hb,I Z 0,I Z s0,I Z s1,I Z s2,I Z s3,I Z s4,I Z s5,I Z s0,I Z s1,I Z s2,I Z s3,I Z s4,I Z s5,.bool false])/\Ae X.heap.size X w' from tu ⟨hb,hn,⟨a0,a1,a2,a3,a4,a5⟩,⟨s0,s1,s2,s3,s4,s5⟩,hl⟩ X)
 obtain⟨b1,b2⟩:=hb0;generalize S.abort i=SA at *;clear hI hi hlv h1 hS0 hbx;go_enter Tryz.func154,Tryz.ntmps154;go_upto_region 3 with fail;rw[<-hW];clear hW;have cA:=ji (h:=⟨hb,hn,⟨a0,a1,a2,a3,a4,a5⟩,⟨s0,s1,s2,s3,s4,s5⟩,hl⟩) k2 hA;have cB:=ji (h:=⟨hb,hn,⟨a0,a1,a2,a3,a4,a5⟩,⟨s0,s1,s2,s3,s4,s5⟩,hl⟩) k2 hB;rw[hra]at cA;rw[hrb]at cB;have c1:=k1.cell;have l2:=k2.lt;go_quiet (fail);obtain⟨V,hV⟩:∃ V,V=W.drewN nq:=⟨_,rfl⟩;have hbV:Ae W.heap.size W V:=by rw[hV];exact zh (qc _) _
 rw[<-hV];clear hV cA cB c1 l2;replace k0:=k0.below hbV k0.lt;replace k1:=k1.below hbV k1.lt;replace k2:=k2.below hbV k2.lt;replace k3:=k3.below hbV k3.lt;replace k4:=k4.below hbV k4.lt;replace k5:=k5.below hbV k5.lt;replace hSW:=hSW.below hbV;replace hsW:=hsW.trans (Stp.of_below hbV);have c0:=k0.cell;have c1:=k1.cell;go_wp2_with fail;refine (HC.out _ _ hSW).mono ?_
 rintro e2 w2 ⟨rfl,o2,hS2,hI2,hs2⟩
 have nt:∀ b,w.heap.size<=b->¬qh y (o1 b):=fun b q1=>uh (HB.out b q1)
 have tg:∀ b,w.heap.size<=b->b<V.heap.size->CR y (o2 b):=fun b q1 q2=>by have:=HB.out b q1;rw[<-hs2.tags b q2]at this;exact this
 have t2:=tg (w.heap.size+1+1) (by omega) k2.lt
 have t3:=tg (w.heap.size+1+1+1) (by omega) k3.lt
 have t4:=tg (w.heap.size+1+1+1+1) (by omega) k4.lt
 replace k2:=k2.Ao hs2 (nt _ (by omega))
 replace k3:=k3.Ao hs2 (nt _ (by omega))
 replace k4:=k4.Ao hs2 (nt _ (by omega))
 have hs3:=hsW.trans hs2;have HI2:=Qa hI2;clear c0 c1 k0 k1 k5 hs2 hSW hsW HC tg nt hI2;have c2:=k2.cell;go_wp2_with fail;refine (HK.out _).mono ?_
 rintro e3 w3 ⟨rfl,hb3⟩
 replace k2:=k2.below hb3 k2.lt;replace k3:=k3.below hb3 k3.lt;replace k4:=k4.below hb3 k4.lt;have hS3:=hS2.below hb3;replace hs3:=hs3.trans (Stp.of_below hb3);clear c2 hb3 hS2 HK;have c2:=k2.cell;have z2:=k2.free;have l2:=k2.lt;go_upto_region 37 with fail;clear c2 z2 l2;obtain⟨V2,hV2⟩:∃ V2,V2=(CN w3 (w.heap.size+1+1) ⟨hb,0,⟨s0,s1,s2,s3,s4,s5⟩,⟨s0,s1,s2,s3,s4,s5⟩,false⟩).setCell ⟨(w.heap.size+1+1),0,none⟩ (I Z (hb+1)):=⟨_,rfl⟩;change Code.wp _ _ _ _ ((CN w3 (w.heap.size+1+1) ⟨hb,0,⟨s0,s1,s2,s3,s4,s5⟩,⟨s0,s1,s2,s3,s4,s5⟩,false⟩).setCell ⟨(w.heap.size+1+1),0,none⟩ (I Z (hb+1)));rw[<-hV2];have hw:Wr (w.heap.size+1+1) w3 V2:=by rw[hV2];exact (NU w3 (w.heap.size+1+1) ⟨hb,0,⟨s0,s1,s2,s3,s4,s5⟩,⟨s0,s1,s2,s3,s4,s5⟩,false⟩).trans (Wr.set _ _ _ _)
 have i2:Am V2 (w.heap.size+1+1) #[I Z (hb+1),I Z 0,I Z s0,I Z s1,I Z s2,I Z s3,I Z s4,I Z s5,I Z s0,I Z s1,I Z s2,I Z s3,I Z s4,I Z s5,.bool false] 58:=by rw[hV2];exact (me (g:=⟨hb,hn,⟨a0,a1,a2,a3,a4,a5⟩,⟨s0,s1,s2,s3,s4,s5⟩,hl⟩) k2 ⟨hb,0,⟨s0,s1,s2,s3,s4,s5⟩,⟨s0,s1,s2,s3,s4,s5⟩,false⟩).set 0 (I Z (hb+1))
 have i3:=k3.wr hw (by omega)
 have i4:=k4.wr hw (by omega)
 have hS5:=hS3.bx (Stp.BR hw t2);have hs5:=hs3.CL hw (by omega)
 clear hV2 hw k2 k3 k4 hS3 hs3;have c2:=i2.cell;have c3:=i3.cell;have z3:=i3.free;have l3:=i3.lt;have c4:=i4.cell;have z4:=i4.free;have l4:=i4.lt;have hres:=Qa (zu i3 i4 (by omega) ⟨(hb+1),0,⟨s0,s1,s2,s3,s4,s5⟩,⟨s0,s1,s2,s3,s4,s5⟩,false⟩ ⟨2,0,0⟩)
 have hrs:=Qa (ku hs5 (b6:=(w.heap.size+1+1+1)) (b7:=(w.heap.size+1+1+1+1)) (by omega) (by omega) ⟨(hb+1),0,⟨s0,s1,s2,s3,s4,s5⟩,⟨s0,s1,s2,s3,s4,s5⟩,false⟩ ⟨2,0,0⟩)
 have hrS:=Qa (hS5.bx (xj V2 (w.heap.size+1+1+1) (w.heap.size+1+1+1+1) (o:=o2) t3 t4 ⟨(hb+1),0,⟨s0,s1,s2,s3,s4,s5⟩,⟨s0,s1,s2,s3,s4,s5⟩,false⟩ ⟨2,0,0⟩));clear i2 i3 i4 hS5 hs5;go_wp2_with fail;change bodyPost _ _ _ _ _ (jd V2 (w.heap.size+1+1+1) (w.heap.size+1+1+1+1) ⟨(hb+1),0,⟨s0,s1,s2,s3,s4,s5⟩,⟨s0,s1,s2,s3,s4,s5⟩,false⟩ ⟨2,0,0⟩);generalize jd V2 (w.heap.size+1+1+1) (w.heap.size+1+1+1+1) ⟨(hb+1),0,⟨s0,s1,s2,s3,s4,s5⟩,⟨s0,s1,s2,s3,s4,s5⟩,false⟩ ⟨2,0,0⟩=X at *;exact bodyPost_ret (qq _ _ 8 9 rfl rfl rfl hres.out.1 hres.out.2) rfl ⟨rfl,o2,hrS.out,HI2.out,hrs.out⟩
end
section
variable {w w' : Aa} {o o' : Own} {y : A3} {S : Al} {i : Nat}
theorem UQ (hS:Ap w o y S) (hI:Inv S) (hb hn a0 a1 a2 a3 a4 a5 s0 s1 s2 s3 s4 s5:Int) (hl:Bool) (A B:Nat) (fi fn:Int) (ra rb:Nat)
  (tv:Int) (hq:(ra=rb/\tv=1)\/(ra≠rb/\tv=0)) (hA:A<6) (hB:B<6) (hra:R6.get ⟨a0,a1,a2,a3,a4,a5⟩ A=ra) (hrb:R6.get ⟨a0,a1,a2,a3,a4,a5⟩ B=rb) (hn0:0<=hn/\hn<=4096) (hb0:0<=hb/\hb<=4096) :
  Ab Tryz.prog 154 #[ptr y.sb,I Z i,Ak #[I Z 11,I Z A,I Z B,I Z fi,I Z fn],Ak #[I Z hb,I Z hn,I Z a0,I Z a1,I Z a2,I Z a3,I Z a4,I Z a5,I Z s0,I Z s1,I Z s2,I Z s3,I Z s4,I Z s5,.bool hl]] w fun e' w'=>e'=O (Aj #[(AD.ended ⟨hb,hn,⟨a0,a1,a2,a3,a4,a5⟩,⟨s0,s1,s2,s3,s4,s5⟩,hl⟩ 0).v,(kw tv 0).val])/\Left y S o w w':=by
 have hmf:∀ (fn:Fn) (first cap:Array Ac) (w:Aa),(Instr.makeFunc fn first cap).run Tryz.prog w=.ok (.func fn first cap) w:=fun _ _ _ _=>rfl
 obtain⟨o1,ho1⟩:∃ o1,o1=ext o w.heap.size (y.l.id+1,0):=⟨_,rfl⟩;have h1:=hS.retag (o':=o1) fun b hb=>by rw[ho1];exact qj hb
 have hS0:Stp (qh y) o o1 w w:=by rw[ho1];exact (Stp.refl _ o w).ext _ _ (Qk _)
 have hbx:∀ b,w.heap.size<=b->CR y (o1 b):=fun b hb=>by rw[ho1];exact qp hb
 clear ho1 hS;obtain⟨W,hW⟩:∃ W:Aa,W=(((((w.alloc (.cells #[ptr y.sb] 24)).alloc (.cells #[I Z 11,I Z A,I Z B,I Z fi,I Z fn] 73)).alloc (.cells #[I Z hb,I Z hn,I Z a0,I Z a1,I Z a2,I Z a3,I Z a4,I Z a5,I Z s0,I Z s1,I Z s2,I Z s3,I Z s4,I Z s5,.bool hl] 58)).alloc (.cells #[I Z 0,I Z 0,I Z 0,I Z 0,I Z 0,I Z 0,I Z 0,I Z 0,I Z 0,I Z 0,I Z 0,I Z 0,I Z 0,I Z 0,.bool false] 58)).alloc (.cells #[I Z 0,I Z 0,I Z 0] 54)).alloc (.cells #[.func (.func 213) #[] #[ptr (w.heap.size+1+1)]] 295):=⟨_,rfl⟩;have hbW:Ae w.heap.size w W:=by rw[hW];exact qa (qa (qa (qa (qa (qa (qc w) _) _) _) _) _) _
 have k0:Am W w.heap.size #[ptr y.sb] 24:=by rw[hW];exact (((((Am.new w _ _).alloc _).alloc _).alloc _).alloc _).alloc _
 have k1:Am W (w.heap.size+1) #[I Z 11,I Z A,I Z B,I Z fi,I Z fn] 73:=by rw[hW];exact ((((Am.Aq _ _ _ _ _ (by simp) rfl).alloc _).alloc _).alloc _).alloc _
 have k2:Am W (w.heap.size+1+1) #[I Z hb,I Z hn,I Z a0,I Z a1,I Z a2,I Z a3,I Z a4,I Z a5,I Z s0,I Z s1,I Z s2,I Z s3,I Z s4,I Z s5,.bool hl] 58:=by rw[hW];exact (((Am.Aq _ _ _ _ _ (by simp) rfl).alloc _).alloc _).alloc _
 have k3:Am W (w.heap.size+1+1+1) #[I Z 0,I Z 0,I Z 0,I Z 0,I Z 0,I Z 0,I Z 0,I Z 0,I Z 0,I Z 0,I Z 0,I Z 0,I Z 0,I Z 0,.bool false] 58:=by rw[hW];exact ((Am.Aq _ _ _ _ _ (by simp) rfl).alloc _).alloc _
 have k4:Am W (w.heap.size+1+1+1+1) #[I Z 0,I Z 0,I Z 0] 54:=by rw[hW];exact (Am.Aq _ _ _ _ _ (by simp) rfl).alloc _
 have k5:Am W (w.heap.size+1+1+1+1+1) #[.func (.func 213) #[] #[ptr (w.heap.size+1+1)]] 295:=by rw[hW];exact Am.Aq _ _ _ _ _ (by simp) rfl
 have hSW:=h1.below hbW;have hsW:Stp (qh y) o o1 w W:=hS0.trans (Stp.of_below hbW);have AI:(A:Int)<6:=by omega
 have BI:(B:Int)<6:=by omega
 have HB:=Qa hbx;have HT:=Qa (fun X (j7:Am X (w.heap.size+1+1) (AD.cells ⟨hb,hn,⟨a0,a1,a2,a3,a4,a5⟩,⟨s0,s1,s2,s3,s4,s5⟩,hl⟩) 58)=>uj ⟨hb,hn,⟨a0,a1,a2,a3,a4,a5⟩,⟨s0,s1,s2,s3,s4,s5⟩,hl⟩ tv 0 hn0 hb0 X j7)
 obtain⟨H',hH'⟩:∃ H',H'=AD.ended ⟨hb,hn,⟨a0,a1,a2,a3,a4,a5⟩,⟨s0,s1,s2,s3,s4,s5⟩,hl⟩ 0:=⟨_,rfl⟩;obtain⟨A',hA'⟩:∃ A',A'=kw tv 0:=⟨_,rfl⟩;rw[<-hH',<-hA']at HT ⊢;obtain⟨b',n',⟨r0,r1,r2,r3,r4,r5⟩,⟨p0,p1,p2,p3,p4,p5⟩,hl'⟩:=H';obtain⟨ak,ae,av⟩:=A';have HT:=Qa (fun X j7=>show Ab Tryz.prog 213 #[I Z tv,I Z 0,ptr (w.heap.size+1+1)] X fun e' w'=>e'=O (Aj #[Ak #[I Z b',I Z n',I Z r0,I Z r1,I Z r2,I Z r3,I Z r4,I Z r5,I Z p0,I Z p1,I Z p2,I Z p3,I Z p4,I Z p5,.bool hl'],Ak #[I Z ak,I Z ae,I Z av]])/\Ae X.heap.size X w' from HT.out X j7)
 have HI:=Qa hI;clear hH' hA' hI hn0 hb0 h1 hS0 hbx;go_enter Tryz.func154,Tryz.ntmps154;go_upto_region 3 with fail;rw[<-hW];clear hW;have cA:=ji (h:=⟨hb,hn,⟨a0,a1,a2,a3,a4,a5⟩,⟨s0,s1,s2,s3,s4,s5⟩,hl⟩) k2 hA;have cB:=ji (h:=⟨hb,hn,⟨a0,a1,a2,a3,a4,a5⟩,⟨s0,s1,s2,s3,s4,s5⟩,hl⟩) k2 hB;rw[hra]at cA;rw[hrb]at cB;have c1:=k1.cell;have l2:=k2.lt;go_quiet (fail);obtain⟨V,hV⟩:∃ V,V=W.drewN nq:=⟨_,rfl⟩;have hbV:Ae W.heap.size W V:=by rw[hV];exact zh (qc _) _
 rw[<-hV];clear hV cA cB c1 l2;replace k0:=k0.below hbV k0.lt;replace k1:=k1.below hbV k1.lt;replace k2:=k2.below hbV k2.lt;replace k3:=k3.below hbV k3.lt;replace k4:=k4.below hbV k4.lt;replace k5:=k5.below hbV k5.lt;replace hSW:=hSW.below hbV;replace hsW:=hsW.trans (Stp.of_below hbV);have c0:=k0.cell;have c1:=k1.cell;have c5:=k5.cell;rcases hq with ⟨hab,rfl⟩|⟨hab,rfl⟩
 all_goals first
  | (have hcm:((ra:Int)==(rb:Int))=true:=by rw[beq_iff_eq,hab])
  | (have hcm:((ra:Int)==(rb:Int))=false:=by rw[Qh];omega)
 all_goals
  go_wp2_with fail;obtain⟨V2,hV2⟩:∃ V2,V2=V:=⟨_,rfl⟩;rw[<-hV2];have i2:Am V2 (w.heap.size+1+1) (AD.cells ⟨hb,hn,⟨a0,a1,a2,a3,a4,a5⟩,⟨s0,s1,s2,s3,s4,s5⟩,hl⟩) 58:=by rw[hV2];exact k2
  have i3:Am V2 (w.heap.size+1+1+1) #[I Z 0,I Z 0,I Z 0,I Z 0,I Z 0,I Z 0,I Z 0,I Z 0,I Z 0,I Z 0,I Z 0,I Z 0,I Z 0,I Z 0,.bool false] 58:=by rw[hV2];exact k3
  have i4:Am V2 (w.heap.size+1+1+1+1) #[I Z 0,I Z 0,I Z 0] 54:=by rw[hV2];exact k4
  have hw:Wr (w.heap.size+1+1) V V2:=by rw[hV2];exact Wr.refl _ _
  have t2:CR y (o1 (w.heap.size+1+1)):=HB.out _ (by omega)
  have hS2:=hSW.bx (Stp.BR hw t2);have hs2:=hsW.CL hw (by omega)
  clear hV2;refine (HT.out _ i2).mono ?_
  rintro e5 w5 ⟨rfl,hb5⟩
  have m3:=i3.below hb5 i3.lt;have m4:=i4.below hb5 i4.lt;have hS5:=hS2.below hb5;have hs5:=hs2.trans (Stp.of_below hb5);clear c0 c1 c5 HT i2 i3 i4 hw hS2 hs2 hb5 k0 k1 k2 k3 k4 k5 hSW hsW;have c3:=m3.cell;have z3:=m3.free;have l3:=m3.lt;have c4:=m4.cell;have z4:=m4.free;have l4:=m4.lt;have hres:=Qa (zu m3 m4 (by omega) ⟨b',n',⟨r0,r1,r2,r3,r4,r5⟩,⟨p0,p1,p2,p3,p4,p5⟩,hl'⟩ ⟨ak,ae,av⟩)
  have hrs:=Qa (ku hs5 (b6:=(w.heap.size+1+1+1)) (b7:=(w.heap.size+1+1+1+1)) (by omega) (by omega) ⟨b',n',⟨r0,r1,r2,r3,r4,r5⟩,⟨p0,p1,p2,p3,p4,p5⟩,hl'⟩ ⟨ak,ae,av⟩)
  have hrS:=Qa (hS5.bx (xj w5 (w.heap.size+1+1+1) (w.heap.size+1+1+1+1) (o:=o1) (HB.out _ (by omega)) (HB.out _ (by omega)) ⟨b',n',⟨r0,r1,r2,r3,r4,r5⟩,⟨p0,p1,p2,p3,p4,p5⟩,hl'⟩ ⟨ak,ae,av⟩))
  clear m3 m4 hS5 hs5;go_wp2_with fail;change bodyPost _ _ _ _ _ (jd w5 (w.heap.size+1+1+1) (w.heap.size+1+1+1+1) ⟨b',n',⟨r0,r1,r2,r3,r4,r5⟩,⟨p0,p1,p2,p3,p4,p5⟩,hl'⟩ ⟨ak,ae,av⟩);generalize jd w5 (w.heap.size+1+1+1) (w.heap.size+1+1+1+1) ⟨b',n',⟨r0,r1,r2,r3,r4,r5⟩,⟨p0,p1,p2,p3,p4,p5⟩,hl'⟩ ⟨ak,ae,av⟩=X at *;exact bodyPost_ret (qq _ _ 8 9 rfl rfl rfl hres.out.1 hres.out.2) rfl ⟨rfl,o1,hrS.out,HI.out,hrs.out⟩
theorem Ya (hS:Ap w o y S) (hI:Inv S) (hb hn a0 a1 a2 a3 a4 a5 s0 s1 s2 s3 s4 s5:Int) (hl:Bool) (A B:Nat) (fi fn:Int) (ra rb:Nat)
   (hA:A<6) (hB:B<6) (hra:R6.get ⟨a0,a1,a2,a3,a4,a5⟩ A=ra) (hrb:R6.get ⟨a0,a1,a2,a3,a4,a5⟩ B=rb) (hn0:0<=hn/\hn<=4096) (hb0:0<=hb/\hb<=4096) :
  Ab Tryz.prog 154 #[ptr y.sb,I Z i,Ak #[I Z 12,I Z A,I Z B,I Z fi,I Z fn],Ak #[I Z hb,I Z hn,I Z a0,I Z a1,I Z a2,I Z a3,I Z a4,I Z a5,I Z s0,I Z s1,I Z s2,I Z s3,I Z s4,I Z s5,.bool hl]] w fun e' w'=>e'=O (Aj #[(AD.ended (AD.put ⟨hb,hn,⟨a0,a1,a2,a3,a4,a5⟩,⟨s0,s1,s2,s3,s4,s5⟩,hl⟩ A rb) 0).v,(kw 0 0).val])/\Left y S o w w':=by
 have hmf:∀ (fn:Fn) (first cap:Array Ac) (w:Aa),(Instr.makeFunc fn first cap).run Tryz.prog w=.ok (.func fn first cap) w:=fun _ _ _ _=>rfl
 obtain⟨o1,ho1⟩:∃ o1,o1=ext o w.heap.size (y.l.id+1,0):=⟨_,rfl⟩;have h1:=hS.retag (o':=o1) fun b hb=>by rw[ho1];exact qj hb
 have hS0:Stp (qh y) o o1 w w:=by rw[ho1];exact (Stp.refl _ o w).ext _ _ (Qk _)
 have hbx:∀ b,w.heap.size<=b->CR y (o1 b):=fun b hb=>by rw[ho1];exact qp hb
 clear ho1 hS;obtain⟨W,hW⟩:∃ W:Aa,W=(((((w.alloc (.cells #[ptr y.sb] 24)).alloc (.cells #[I Z 12,I Z A,I Z B,I Z fi,I Z fn] 73)).alloc (.cells #[I Z hb,I Z hn,I Z a0,I Z a1,I Z a2,I Z a3,I Z a4,I Z a5,I Z s0,I Z s1,I Z s2,I Z s3,I Z s4,I Z s5,.bool hl] 58)).alloc (.cells #[I Z 0,I Z 0,I Z 0,I Z 0,I Z 0,I Z 0,I Z 0,I Z 0,I Z 0,I Z 0,I Z 0,I Z 0,I Z 0,I Z 0,.bool false] 58)).alloc (.cells #[I Z 0,I Z 0,I Z 0] 54)).alloc (.cells #[.func (.func 213) #[] #[ptr (w.heap.size+1+1)]] 295):=⟨_,rfl⟩;have hbW:Ae w.heap.size w W:=by rw[hW];exact qa (qa (qa (qa (qa (qa (qc w) _) _) _) _) _) _
 have k0:Am W w.heap.size #[ptr y.sb] 24:=by rw[hW];exact (((((Am.new w _ _).alloc _).alloc _).alloc _).alloc _).alloc _
 have k1:Am W (w.heap.size+1) #[I Z 12,I Z A,I Z B,I Z fi,I Z fn] 73:=by rw[hW];exact ((((Am.Aq _ _ _ _ _ (by simp) rfl).alloc _).alloc _).alloc _).alloc _
 have k2:Am W (w.heap.size+1+1) #[I Z hb,I Z hn,I Z a0,I Z a1,I Z a2,I Z a3,I Z a4,I Z a5,I Z s0,I Z s1,I Z s2,I Z s3,I Z s4,I Z s5,.bool hl] 58:=by rw[hW];exact (((Am.Aq _ _ _ _ _ (by simp) rfl).alloc _).alloc _).alloc _
 have k3:Am W (w.heap.size+1+1+1) #[I Z 0,I Z 0,I Z 0,I Z 0,I Z 0,I Z 0,I Z 0,I Z 0,I Z 0,I Z 0,I Z 0,I Z 0,I Z 0,I Z 0,.bool false] 58:=by rw[hW];exact ((Am.Aq _ _ _ _ _ (by simp) rfl).alloc _).alloc _
 have k4:Am W (w.heap.size+1+1+1+1) #[I Z 0,I Z 0,I Z 0] 54:=by rw[hW];exact (Am.Aq _ _ _ _ _ (by simp) rfl).alloc _
 have k5:Am W (w.heap.size+1+1+1+1+1) #[.func (.func 213) #[] #[ptr (w.heap.size+1+1)]] 295:=by rw[hW];exact Am.Aq _ _ _ _ _ (by simp) rfl
 have hSW:=h1.below hbW;have hsW:Stp (qh y) o o1 w W:=hS0.trans (Stp.of_below hbW);have AI:(A:Int)<6:=by omega
 have BI:(B:Int)<6:=by omega
 have HB:=Qa hbx;have HT:=Qa (fun X (j7:Am X (w.heap.size+1+1) (AD.cells (AD.put ⟨hb,hn,⟨a0,a1,a2,a3,a4,a5⟩,⟨s0,s1,s2,s3,s4,s5⟩,hl⟩ A rb)) 58)=>uj (AD.put ⟨hb,hn,⟨a0,a1,a2,a3,a4,a5⟩,⟨s0,s1,s2,s3,s4,s5⟩,hl⟩ A rb) 0 0 hn0 hb0 X j7)
 obtain⟨H',hH'⟩:∃ H',H'=AD.ended (AD.put ⟨hb,hn,⟨a0,a1,a2,a3,a4,a5⟩,⟨s0,s1,s2,s3,s4,s5⟩,hl⟩ A rb) 0:=⟨_,rfl⟩;obtain⟨A',hA'⟩:∃ A',A'=kw 0 0:=⟨_,rfl⟩;rw[<-hH',<-hA']at HT ⊢;obtain⟨b',n',⟨r0,r1,r2,r3,r4,r5⟩,⟨p0,p1,p2,p3,p4,p5⟩,hl'⟩:=H';obtain⟨ak,ae,av⟩:=A';have HT:=Qa (fun X j7=>show Ab Tryz.prog 213 #[I Z 0,I Z 0,ptr (w.heap.size+1+1)] X fun e' w'=>e'=O (Aj #[Ak #[I Z b',I Z n',I Z r0,I Z r1,I Z r2,I Z r3,I Z r4,I Z r5,I Z p0,I Z p1,I Z p2,I Z p3,I Z p4,I Z p5,.bool hl'],Ak #[I Z ak,I Z ae,I Z av]])/\Ae X.heap.size X w' from HT.out X j7)
 have HI:=Qa hI;clear hH' hA' hI hn0 hb0 h1 hS0 hbx;go_enter Tryz.func154,Tryz.ntmps154;go_upto_region 3 with fail;rw[<-hW];clear hW;have cA:=ji (h:=⟨hb,hn,⟨a0,a1,a2,a3,a4,a5⟩,⟨s0,s1,s2,s3,s4,s5⟩,hl⟩) k2 hA;have cB:=ji (h:=⟨hb,hn,⟨a0,a1,a2,a3,a4,a5⟩,⟨s0,s1,s2,s3,s4,s5⟩,hl⟩) k2 hB;rw[hra]at cA;rw[hrb]at cB;have c1:=k1.cell;have l2:=k2.lt;go_quiet (fail);obtain⟨V,hV⟩:∃ V,V=W.drewN nq:=⟨_,rfl⟩;have hbV:Ae W.heap.size W V:=by rw[hV];exact zh (qc _) _
 rw[<-hV];clear hV cA cB c1 l2;replace k0:=k0.below hbV k0.lt;replace k1:=k1.below hbV k1.lt;replace k2:=k2.below hbV k2.lt;replace k3:=k3.below hbV k3.lt;replace k4:=k4.below hbV k4.lt;replace k5:=k5.below hbV k5.lt;replace hSW:=hSW.below hbV;replace hsW:=hsW.trans (Stp.of_below hbV);have c0:=k0.cell;have c1:=k1.cell;have c5:=k5.cell;have cR:=ji (h:=⟨hb,hn,⟨a0,a1,a2,a3,a4,a5⟩,⟨s0,s1,s2,s3,s4,s5⟩,hl⟩) k2 hA;have z2:=k2.free;have l2:=k2.lt;have i5:=k5.An (a:=⟨(w.heap.size+1+1),2+A,none⟩) (by show _≠(w.heap.size+1+1);omega) (I Z rb)
 have ci5:(V.setCell ⟨(w.heap.size+1+1),2+A,none⟩ (I Z rb)).cell? ⟨(w.heap.size+1+1+1+1+1),0,none⟩=_:=i5.cell 0;go_wp2_with fail;obtain⟨V2,hV2⟩:∃ V2,V2=(V.setCell ⟨(w.heap.size+1+1),2+A,none⟩ (I Z rb)):=⟨_,rfl⟩;rw[<-hV2];have i2:Am V2 (w.heap.size+1+1) (AD.cells (AD.put ⟨hb,hn,⟨a0,a1,a2,a3,a4,a5⟩,⟨s0,s1,s2,s3,s4,s5⟩,hl⟩ A rb)) 58:=by rw[hV2];exact QI (h:=⟨hb,hn,⟨a0,a1,a2,a3,a4,a5⟩,⟨s0,s1,s2,s3,s4,s5⟩,hl⟩) k2 hA _
 have i3:Am V2 (w.heap.size+1+1+1) #[I Z 0,I Z 0,I Z 0,I Z 0,I Z 0,I Z 0,I Z 0,I Z 0,I Z 0,I Z 0,I Z 0,I Z 0,I Z 0,I Z 0,.bool false] 58:=by rw[hV2];exact k3.An (a:=⟨(w.heap.size+1+1),2+A,none⟩) (by show _≠(w.heap.size+1+1);omega) (I Z rb)
 have i4:Am V2 (w.heap.size+1+1+1+1) #[I Z 0,I Z 0,I Z 0] 54:=by rw[hV2];exact k4.An (a:=⟨(w.heap.size+1+1),2+A,none⟩) (by show _≠(w.heap.size+1+1);omega) (I Z rb)
 have hw:Wr (w.heap.size+1+1) V V2:=by rw[hV2];exact Wr.set _ _ _ _
 have t2:CR y (o1 (w.heap.size+1+1)):=HB.out _ (by omega)
 have hS2:=hSW.bx (Stp.BR hw t2);have hs2:=hsW.CL hw (by omega)
 clear hV2;refine (HT.out _ i2).mono ?_
 rintro e5 w5 ⟨rfl,hb5⟩
 have m3:=i3.below hb5 i3.lt;have m4:=i4.below hb5 i4.lt;have hS5:=hS2.below hb5;have hs5:=hs2.trans (Stp.of_below hb5);clear c0 c1 c5 HT i2 i3 i4 hw hS2 hs2 hb5 k0 k1 k2 k3 k4 k5 hSW hsW i5 ci5 cR z2 l2;have c3:=m3.cell;have z3:=m3.free;have l3:=m3.lt;have c4:=m4.cell;have z4:=m4.free;have l4:=m4.lt;have hres:=Qa (zu m3 m4 (by omega) ⟨b',n',⟨r0,r1,r2,r3,r4,r5⟩,⟨p0,p1,p2,p3,p4,p5⟩,hl'⟩ ⟨ak,ae,av⟩)
 have hrs:=Qa (ku hs5 (b6:=(w.heap.size+1+1+1)) (b7:=(w.heap.size+1+1+1+1)) (by omega) (by omega) ⟨b',n',⟨r0,r1,r2,r3,r4,r5⟩,⟨p0,p1,p2,p3,p4,p5⟩,hl'⟩ ⟨ak,ae,av⟩)
 have hrS:=Qa (hS5.bx (xj w5 (w.heap.size+1+1+1) (w.heap.size+1+1+1+1) (o:=o1) (HB.out _ (by omega)) (HB.out _ (by omega)) ⟨b',n',⟨r0,r1,r2,r3,r4,r5⟩,⟨p0,p1,p2,p3,p4,p5⟩,hl'⟩ ⟨ak,ae,av⟩))
 clear m3 m4 hS5 hs5;go_wp2_with fail;change bodyPost _ _ _ _ _ (jd w5 (w.heap.size+1+1+1) (w.heap.size+1+1+1+1) ⟨b',n',⟨r0,r1,r2,r3,r4,r5⟩,⟨p0,p1,p2,p3,p4,p5⟩,hl'⟩ ⟨ak,ae,av⟩);generalize jd w5 (w.heap.size+1+1+1) (w.heap.size+1+1+1+1) ⟨b',n',⟨r0,r1,r2,r3,r4,r5⟩,⟨p0,p1,p2,p3,p4,p5⟩,hl'⟩ ⟨ak,ae,av⟩=X at *;exact bodyPost_ret (qq _ _ 8 9 rfl rfl rfl hres.out.1 hres.out.2) rfl ⟨rfl,o1,hrS.out,HI.out,hrs.out⟩
theorem qnj (hS:Ap w o y S) (hI:Inv S) (hb hn a0 a1 a2 a3 a4 a5 s0 s1 s2 s3 s4 s5:Int) (hl:Bool) (A B:Nat) (fi fn:Int) (ra rb:Nat)
   (hA:A<6) (hB:B<6) (hra:R6.get ⟨a0,a1,a2,a3,a4,a5⟩ A=ra) (hrb:R6.get ⟨a0,a1,a2,a3,a4,a5⟩ B=rb) (hn0:0<=hn/\hn<=4096) (hb0:0<=hb/\hb<=4096) :
  Ab Tryz.prog 154 #[ptr y.sb,I Z i,Ak #[I Z 13,I Z A,I Z B,I Z fi,I Z fn],Ak #[I Z hb,I Z hn,I Z a0,I Z a1,I Z a2,I Z a3,I Z a4,I Z a5,I Z s0,I Z s1,I Z s2,I Z s3,I Z s4,I Z s5,.bool hl]] w fun e' w'=>e'=O (Aj #[(AD.ended (AD.put ⟨hb,hn,⟨a0,a1,a2,a3,a4,a5⟩,⟨s0,s1,s2,s3,s4,s5⟩,hl⟩ A 0) 0).v,(kw 0 0).val])/\Left y S o w w':=by
 have hmf:∀ (fn:Fn) (first cap:Array Ac) (w:Aa),(Instr.makeFunc fn first cap).run Tryz.prog w=.ok (.func fn first cap) w:=fun _ _ _ _=>rfl
 obtain⟨o1,ho1⟩:∃ o1,o1=ext o w.heap.size (y.l.id+1,0):=⟨_,rfl⟩;have h1:=hS.retag (o':=o1) fun b hb=>by rw[ho1];exact qj hb
 have hS0:Stp (qh y) o o1 w w:=by rw[ho1];exact (Stp.refl _ o w).ext _ _ (Qk _)
 have hbx:∀ b,w.heap.size<=b->CR y (o1 b):=fun b hb=>by rw[ho1];exact qp hb
 clear ho1 hS;obtain⟨W,hW⟩:∃ W:Aa,W=(((((w.alloc (.cells #[ptr y.sb] 24)).alloc (.cells #[I Z 13,I Z A,I Z B,I Z fi,I Z fn] 73)).alloc (.cells #[I Z hb,I Z hn,I Z a0,I Z a1,I Z a2,I Z a3,I Z a4,I Z a5,I Z s0,I Z s1,I Z s2,I Z s3,I Z s4,I Z s5,.bool hl] 58)).alloc (.cells #[I Z 0,I Z 0,I Z 0,I Z 0,I Z 0,I Z 0,I Z 0,I Z 0,I Z 0,I Z 0,I Z 0,I Z 0,I Z 0,I Z 0,.bool false] 58)).alloc (.cells #[I Z 0,I Z 0,I Z 0] 54)).alloc (.cells #[.func (.func 213) #[] #[ptr (w.heap.size+1+1)]] 295):=⟨_,rfl⟩;have hbW:Ae w.heap.size w W:=by rw[hW];exact qa (qa (qa (qa (qa (qa (qc w) _) _) _) _) _) _
 have k0:Am W w.heap.size #[ptr y.sb] 24:=by rw[hW];exact (((((Am.new w _ _).alloc _).alloc _).alloc _).alloc _).alloc _
 have k1:Am W (w.heap.size+1) #[I Z 13,I Z A,I Z B,I Z fi,I Z fn] 73:=by rw[hW];exact ((((Am.Aq _ _ _ _ _ (by simp) rfl).alloc _).alloc _).alloc _).alloc _
 have k2:Am W (w.heap.size+1+1) #[I Z hb,I Z hn,I Z a0,I Z a1,I Z a2,I Z a3,I Z a4,I Z a5,I Z s0,I Z s1,I Z s2,I Z s3,I Z s4,I Z s5,.bool hl] 58:=by rw[hW];exact (((Am.Aq _ _ _ _ _ (by simp) rfl).alloc _).alloc _).alloc _
 have k3:Am W (w.heap.size+1+1+1) #[I Z 0,I Z 0,I Z 0,I Z 0,I Z 0,I Z 0,I Z 0,I Z 0,I Z 0,I Z 0,I Z 0,I Z 0,I Z 0,I Z 0,.bool false] 58:=by rw[hW];exact ((Am.Aq _ _ _ _ _ (by simp) rfl).alloc _).alloc _
 have k4:Am W (w.heap.size+1+1+1+1) #[I Z 0,I Z 0,I Z 0] 54:=by rw[hW];exact (Am.Aq _ _ _ _ _ (by simp) rfl).alloc _
 have k5:Am W (w.heap.size+1+1+1+1+1) #[.func (.func 213) #[] #[ptr (w.heap.size+1+1)]] 295:=by rw[hW];exact Am.Aq _ _ _ _ _ (by simp) rfl
 have hSW:=h1.below hbW;have hsW:Stp (qh y) o o1 w W:=hS0.trans (Stp.of_below hbW);have AI:(A:Int)<6:=by omega
 have BI:(B:Int)<6:=by omega
 have HB:=Qa hbx;have HT:=Qa (fun X (j7:Am X (w.heap.size+1+1) (AD.cells (AD.put ⟨hb,hn,⟨a0,a1,a2,a3,a4,a5⟩,⟨s0,s1,s2,s3,s4,s5⟩,hl⟩ A 0)) 58)=>uj (AD.put ⟨hb,hn,⟨a0,a1,a2,a3,a4,a5⟩,⟨s0,s1,s2,s3,s4,s5⟩,hl⟩ A 0) 0 0 hn0 hb0 X j7)
 obtain⟨H',hH'⟩:∃ H',H'=AD.ended (AD.put ⟨hb,hn,⟨a0,a1,a2,a3,a4,a5⟩,⟨s0,s1,s2,s3,s4,s5⟩,hl⟩ A 0) 0:=⟨_,rfl⟩;obtain⟨A',hA'⟩:∃ A',A'=kw 0 0:=⟨_,rfl⟩;rw[<-hH',<-hA']at HT ⊢;obtain⟨b',n',⟨r0,r1,r2,r3,r4,r5⟩,⟨p0,p1,p2,p3,p4,p5⟩,hl'⟩:=H';obtain⟨ak,ae,av⟩:=A';have HT:=Qa (fun X j7=>show Ab Tryz.prog 213 #[I Z 0,I Z 0,ptr (w.heap.size+1+1)] X fun e' w'=>e'=O (Aj #[Ak #[I Z b',I Z n',I Z r0,I Z r1,I Z r2,I Z r3,I Z r4,I Z r5,I Z p0,I Z p1,I Z p2,I Z p3,I Z p4,I Z p5,.bool hl'],Ak #[I Z ak,I Z ae,I Z av]])/\Ae X.heap.size X w' from HT.out X j7)
 have HI:=Qa hI;clear hH' hA' hI hn0 hb0 h1 hS0 hbx;go_enter Tryz.func154,Tryz.ntmps154;go_upto_region 3 with fail;rw[<-hW];clear hW;have cA:=ji (h:=⟨hb,hn,⟨a0,a1,a2,a3,a4,a5⟩,⟨s0,s1,s2,s3,s4,s5⟩,hl⟩) k2 hA;have cB:=ji (h:=⟨hb,hn,⟨a0,a1,a2,a3,a4,a5⟩,⟨s0,s1,s2,s3,s4,s5⟩,hl⟩) k2 hB;rw[hra]at cA;rw[hrb]at cB;have c1:=k1.cell;have l2:=k2.lt;go_quiet (fail);obtain⟨V,hV⟩:∃ V,V=W.drewN nq:=⟨_,rfl⟩;have hbV:Ae W.heap.size W V:=by rw[hV];exact zh (qc _) _
 rw[<-hV];clear hV cA cB c1 l2;replace k0:=k0.below hbV k0.lt;replace k1:=k1.below hbV k1.lt;replace k2:=k2.below hbV k2.lt;replace k3:=k3.below hbV k3.lt;replace k4:=k4.below hbV k4.lt;replace k5:=k5.below hbV k5.lt;replace hSW:=hSW.below hbV;replace hsW:=hsW.trans (Stp.of_below hbV);have c0:=k0.cell;have c1:=k1.cell;have c5:=k5.cell;have cR:=ji (h:=⟨hb,hn,⟨a0,a1,a2,a3,a4,a5⟩,⟨s0,s1,s2,s3,s4,s5⟩,hl⟩) k2 hA;have z2:=k2.free;have l2:=k2.lt;have i5:=k5.An (a:=⟨(w.heap.size+1+1),2+A,none⟩) (by show _≠(w.heap.size+1+1);omega) (I Z 0)
 have ci5:(V.setCell ⟨(w.heap.size+1+1),2+A,none⟩ (I Z 0)).cell? ⟨(w.heap.size+1+1+1+1+1),0,none⟩=_:=i5.cell 0;go_wp2_with fail;obtain⟨V2,hV2⟩:∃ V2,V2=(V.setCell ⟨(w.heap.size+1+1),2+A,none⟩ (I Z 0)):=⟨_,rfl⟩;rw[<-hV2];have i2:Am V2 (w.heap.size+1+1) (AD.cells (AD.put ⟨hb,hn,⟨a0,a1,a2,a3,a4,a5⟩,⟨s0,s1,s2,s3,s4,s5⟩,hl⟩ A 0)) 58:=by rw[hV2];exact QI (h:=⟨hb,hn,⟨a0,a1,a2,a3,a4,a5⟩,⟨s0,s1,s2,s3,s4,s5⟩,hl⟩) k2 hA _
 have i3:Am V2 (w.heap.size+1+1+1) #[I Z 0,I Z 0,I Z 0,I Z 0,I Z 0,I Z 0,I Z 0,I Z 0,I Z 0,I Z 0,I Z 0,I Z 0,I Z 0,I Z 0,.bool false] 58:=by rw[hV2];exact k3.An (a:=⟨(w.heap.size+1+1),2+A,none⟩) (by show _≠(w.heap.size+1+1);omega) (I Z 0)
 have i4:Am V2 (w.heap.size+1+1+1+1) #[I Z 0,I Z 0,I Z 0] 54:=by rw[hV2];exact k4.An (a:=⟨(w.heap.size+1+1),2+A,none⟩) (by show _≠(w.heap.size+1+1);omega) (I Z 0)
 have hw:Wr (w.heap.size+1+1) V V2:=by rw[hV2];exact Wr.set _ _ _ _
 have t2:CR y (o1 (w.heap.size+1+1)):=HB.out _ (by omega)
 have hS2:=hSW.bx (Stp.BR hw t2);have hs2:=hsW.CL hw (by omega)
 clear hV2;refine (HT.out _ i2).mono ?_
 rintro e5 w5 ⟨rfl,hb5⟩
 have m3:=i3.below hb5 i3.lt;have m4:=i4.below hb5 i4.lt;have hS5:=hS2.below hb5;have hs5:=hs2.trans (Stp.of_below hb5);clear c0 c1 c5 HT i2 i3 i4 hw hS2 hs2 hb5 k0 k1 k2 k3 k4 k5 hSW hsW i5 ci5 cR z2 l2;have c3:=m3.cell;have z3:=m3.free;have l3:=m3.lt;have c4:=m4.cell;have z4:=m4.free;have l4:=m4.lt;have hres:=Qa (zu m3 m4 (by omega) ⟨b',n',⟨r0,r1,r2,r3,r4,r5⟩,⟨p0,p1,p2,p3,p4,p5⟩,hl'⟩ ⟨ak,ae,av⟩)
 have hrs:=Qa (ku hs5 (b6:=(w.heap.size+1+1+1)) (b7:=(w.heap.size+1+1+1+1)) (by omega) (by omega) ⟨b',n',⟨r0,r1,r2,r3,r4,r5⟩,⟨p0,p1,p2,p3,p4,p5⟩,hl'⟩ ⟨ak,ae,av⟩)
 have hrS:=Qa (hS5.bx (xj w5 (w.heap.size+1+1+1) (w.heap.size+1+1+1+1) (o:=o1) (HB.out _ (by omega)) (HB.out _ (by omega)) ⟨b',n',⟨r0,r1,r2,r3,r4,r5⟩,⟨p0,p1,p2,p3,p4,p5⟩,hl'⟩ ⟨ak,ae,av⟩))
 clear m3 m4 hS5 hs5;go_wp2_with fail;change bodyPost _ _ _ _ _ (jd w5 (w.heap.size+1+1+1) (w.heap.size+1+1+1+1) ⟨b',n',⟨r0,r1,r2,r3,r4,r5⟩,⟨p0,p1,p2,p3,p4,p5⟩,hl'⟩ ⟨ak,ae,av⟩);generalize jd w5 (w.heap.size+1+1+1) (w.heap.size+1+1+1+1) ⟨b',n',⟨r0,r1,r2,r3,r4,r5⟩,⟨p0,p1,p2,p3,p4,p5⟩,hl'⟩ ⟨ak,ae,av⟩=X at *;exact bodyPost_ret (qq _ _ 8 9 rfl rfl rfl hres.out.1 hres.out.2) rfl ⟨rfl,o1,hrS.out,HI.out,hrs.out⟩
end
end
section
open Go.RowKit Hp
open Go.MuLone
attribute [local go_sem ↓] Go.wp_at_zero Go.wp_at_succ
theorem Gv (b n cp:Nat) (pa:Option Addr) (w:Aa) (h0:w.cell? ⟨b,3,none⟩=some (.int .i32 0)) (h2:w.cell? ⟨b,5,none⟩=some (.slice pa n cp)) (f0:w.frozen? ⟨b,3,none⟩=false) :
  Ab Tryz.prog 87 #[Ag (some ⟨b,3,none⟩)] w fun e w'=>e=O (.bool (decide (2000<=n)))/\w'=(w.setCell ⟨b,3,none⟩ (.int .i32 1)).setCell ⟨b,3,none⟩ (.int .i32 0):=by
 go_enter_defers Tryz.func87,Tryz.ntmps87;go_wp2_with (go_at_call 148;refine (lock_free Tryz.muLib ⟨b,3,none⟩ _ h0 f0).mono ?_;rintro e w' ⟨rfl,rfl⟩);refine leaves_cons (f:=149) (args:=#[Ag (some ⟨b,3,none⟩)]) (by simp) (by simp[go_sem]) ?_
 refine (unlock_deferred Tryz.muLib ⟨b,3,none⟩ .returning _ ?_ ?_).mono ?_
 ·exact World.cell?_setCell_same w ⟨b,3,none⟩ (.int .i32 1) h0
 ·simp[f0]
 rintro e u' w'' ⟨rfl,rfl,rfl⟩
 exact⟨_,results_tmp rfl _ _ _,by simp;omega,rfl⟩
theorem qhi {w:Aa}{o:Own}{y:A3}{S:Al}{b:Nat}(h:Ap w o y S)(hk:S.ok)(hb:w.cell? ⟨b,0,none⟩=some (ptr y.sb))(p:Nat) :
  Ab Tryz.prog 94 #[ptr b,I Z p] w fun e w'=>e=O (I Z (S.Bt p))/\Ae w.heap.size w w':=by
 unfold Al.Bt;by_cases h0:p=0
 ·subst h0
  rw[if_pos rfl];clear h hk;go_enter Tryz.func94,Tryz.ntmps94;go_wp2_with fail;go_ret;exact⟨rfl,qc w⟩
 ·rw[if_neg h0]
  have HS:=Qa (Vm h hk p);have hpb:((p:Int)==0)=false:=by rw[Qh];omega
  generalize S.H.Da p=r at *;clear h hk h0;go_enter Tryz.func94,Tryz.ntmps94;go_wp2_with fail;refine HS.out.mono ?_
  rintro e w1 ⟨rfl,hb1⟩
  go_wp2_with fail;go_ret;exact⟨rfl,hb1⟩
theorem He {w:Aa}{o:Own}{y:A3}{S:Al}{b:Nat}(h:Ap w o y S)(_hk:S.ok)(hb:w.cell? ⟨b,0,none⟩=some (ptr y.sb)) :
  Ab Tryz.prog 38 #[ptr b] w fun e w'=>e=O (I Z S.now)/\w=w':=by
 have HS:=Qa (MB h);clear h;go_enter Tryz.func38,Tryz.ntmps38;go_wp2_with fail;refine HS.out.mono ?_
 rintro e w1 ⟨rfl,rfl⟩
 go_wp2_with fail;go_ret;exact⟨rfl,rfl⟩
end
section
open Go.RowKit Hp
attribute [local go_sem ↓] Go.wp_at_zero Go.wp_at_succ
section
variable {w w' : Aa} {o o' : Own} {y : A3} {S : Al} {i : Nat}
theorem Inv.PO (h:Inv S):Inv { S with came:=[] }:=⟨h.H,h.n2,h.lv,h.t1,h.t8,h.lg,h.st,h.ve,h.ho,h.sc,h.so,h.qu,h.nx,Nat.zero_le _,h.se,h.ph⟩
theorem Inv.PX (h:Inv S):Inv { S with lost:=[] }:=⟨h.H,h.n2,h.lv,h.t1,h.t8,h.lg,h.st,h.ve,h.ho,h.sc,h.so,h.qu,h.nx,h.cm,h.se,h.ph⟩
theorem Wg (h:Ap w o y S) :
  Ab Tryz.prog 90 #[ptr y.sb] w fun e w'=>∃ v,e=O v/\Row w' o (y.l.id,15) 3 1 v S.came.length (S.came.map nv)/\Ap w' o y { S with came:=[] }/\Stp (fun t=>t=(y.l.id,11)) o o w w':=by
 obtain⟨vq,vl,vm,jb,hrw⟩:=h.AU;have hfin:=Qa (show Row (w.setCell ⟨y.sb,9,none⟩ (Ah none 0 0)) o (y.l.id,15) 3 1 vm S.came.length (S.came.map nv)/\Ap (w.setCell ⟨y.sb,9,none⟩ (Ah none 0 0)) o y { S with came:=[] }/\Stp (fun t=>t=(y.l.id,11)) o o w (w.setCell ⟨y.sb,9,none⟩ (Ah none 0 0)) from by
  have k:Stp (fun t=>t=(y.l.id,11)) o o w (w.setCell ⟨y.sb,9,none⟩ (Ah none 0 0)):=(Stp.refl _ o w).setCell (by show o y.sb=_;exact h.os) _
  exact⟨hrw.m.Ao k (by simp),h.own (S':={ S with came:=[] }) rfl rfl rfl rfl rfl (jb.set 9 (Ah none 0 0)) ⟨hrw.q.Ao k (by simp),hrw.l.Ao k (by simp),Row.nil _ _ _ _ _⟩ (k.mono (by rintro _ rfl;exact⟨rfl,.inl rfl⟩)),k⟩)
 obtain⟨pa,cp,rfl⟩:=hrw.m.AY;unfold qk at jb;have c:=jb.cell;have z:=jb.free;have s:=jb.lt;clear h hrw;go_enter Tryz.func90,Tryz.ntmps90;go_wp2_with fail;go_ret;exact⟨_,rfl,hfin.out⟩
theorem WZ (h:Ap w o y S) :
  Ab Tryz.prog 92 #[ptr y.sb] w fun e w'=>∃ v,e=O v/\Row w' o (y.l.id,14) 3 1 v S.lost.length (S.lost.map nv)/\Ap w' o y { S with lost:=[] }/\Stp (fun t=>t=(y.l.id,11)) o o w w':=by
 obtain⟨vq,vl,vm,jb,hrw⟩:=h.AU;have hfin:=Qa (show Row (w.setCell ⟨y.sb,8,none⟩ (Ah none 0 0)) o (y.l.id,14) 3 1 vl S.lost.length (S.lost.map nv)/\Ap (w.setCell ⟨y.sb,8,none⟩ (Ah none 0 0)) o y { S with lost:=[] }/\Stp (fun t=>t=(y.l.id,11)) o o w (w.setCell ⟨y.sb,8,none⟩ (Ah none 0 0)) from by
  have k:Stp (fun t=>t=(y.l.id,11)) o o w (w.setCell ⟨y.sb,8,none⟩ (Ah none 0 0)):=(Stp.refl _ o w).setCell (by show o y.sb=_;exact h.os) _
  exact⟨hrw.l.Ao k (by simp),h.own (S':={ S with lost:=[] }) rfl rfl rfl rfl rfl (jb.set 8 (Ah none 0 0)) ⟨hrw.q.Ao k (by simp),Row.nil _ _ _ _ _,hrw.m.Ao k (by simp)⟩ (k.mono (by rintro _ rfl;exact⟨rfl,.inl rfl⟩)),k⟩)
 obtain⟨pa,cp,rfl⟩:=hrw.l.AY;unfold qk at jb;have c:=jb.cell;have z:=jb.free;have s:=jb.lt;clear h hrw;go_enter Tryz.func92,Tryz.ntmps92;go_wp2_with fail;go_ret;exact⟨_,rfl,hfin.out⟩
end
end
end Go.Proofs.YteehgedabdchcaaGreat
