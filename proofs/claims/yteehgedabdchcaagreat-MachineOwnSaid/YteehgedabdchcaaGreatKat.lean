import Derived.Test.YteehgedabdchcaaGreatKaq
import Derived.Test.YteehgedabdchcaaGreatKav
set_option linter.all false
set_option maxRecDepth 1000000
set_option maxHeartbeats 16000000
namespace Go.Proofs.YteehgedabdchcaaGreat
open Go.RowKit Hp
def Inv (S:Stt):Prop:=S.ok
theorem Inv.ok {S:Stt}(h:Inv S):S.ok:=h
def Stt.chk (S:Stt)(i:Nat):Bool:=decide (i<S.txs.length)
theorem zk {S:Stt}{i:Nat}(h:S.chk i=true):i<S.txs.length:=of_decide_eq_true h
def Plc (_:Stt)(_:Nat):Prop:=True
theorem plc (S:Stt)(p:Nat):Plc S p:=trivial
section
variable {w w' : World} {o o' : Own} {y : SLay} {S : Stt} {i : Nat}
def Left (y:SLay)(S:Stt)(o:Own)(w w':World):Prop:=∃ o',StIn w' o' y S∧Inv S∧Stp (qh y) o o' w w'
theorem Lft.left (h:Lft y S o w w')(hk:S.ok):Left y S o w w':=by
 obtain⟨o',h1,h2⟩:=h;exact⟨o',h1,hk,h2⟩
theorem c_write (h:StIn w o y S)(hI:Inv S)(hc:S.chk i=true){p:Nat}(_:Plc S p)(j:Nat)(v:Int)(hv:-9223372036854775808≤v∧v≤9223372036854775807) :
  Calls Tryz.prog 48 #[ptr y.sb,.int .i64 i,.int .i64 p,.int .i64 j,.int .i64 v] w fun e w'=>e=.returned (.int .i64 (S.write i p j v).e)∧Left y (S.write i p j v).S o w w':=
 (qjr h hI (zk hc) p j v hv).mono fun _ _⟨a,b⟩=>⟨a,b.left (Good.deed hI (zk hc) (gd hI (zk hc) p j hv)).1⟩
theorem c_put (h:StIn w o y S)(hI:Inv S)(hc:S.chk i=true){p q:Nat}(_:Plc S p)(_:Plc S q)(j:Nat) :
  Calls Tryz.prog 49 #[ptr y.sb,.int .i64 i,.int .i64 p,.int .i64 j,.int .i64 q] w fun e w'=>e=.returned (.int .i64 (S.put i p j q).e)∧Left y (S.put i p j q).S o w w':=
 (sput_any h hI (zk hc) p j q).mono fun _ _⟨a,b⟩=>⟨a,b.left (Good.deed hI (zk hc) (lr hI (zk hc) p j q)).1⟩
theorem c_read (h:StIn w o y S)(hI:Inv S)(hc:S.chk i=true){p:Nat}(_:Plc S p)(j:Nat) :
  Calls Tryz.prog 24 #[ptr y.sb,.int .i64 i,.int .i64 p,.int .i64 j] w fun e w'=>e=.returned (.tuple #[.int .i64 (S.read i p j).v,.int .i64 (S.read i p j).e])∧Left y (S.read i p j).S o w w':=
 (qmi h hI (zk hc) p j).mono fun _ _⟨a,b⟩=>⟨a,b.left (Good.deed hI (zk hc) (bp hI (zk hc) p j)).1⟩
theorem c_get (h:StIn w o y S)(hI:Inv S)(hc:S.chk i=true){p:Nat}(_:Plc S p)(j:Nat) :
  Calls Tryz.prog 57 #[ptr y.sb,.int .i64 i,.int .i64 p,.int .i64 j] w fun e w'=>e=.returned (.tuple #[.int .i64 (S.get i p j).v,.int .i64 (S.get i p j).e])∧Left y (S.get i p j).S o w w':=
 (sget_any h hI (zk hc) p j).mono fun _ _⟨a,b⟩=>⟨a,b.left (Good.deed hI (zk hc) (lj hI (zk hc) p j)).1⟩
theorem c_free (h:StIn w o y S)(hI:Inv S)(hc:S.chk i=true){p:Nat}(_:Plc S p) :
  Calls Tryz.prog 56 #[ptr y.sb,.int .i64 i,.int .i64 p] w fun e w'=>e=.returned (.int .i64 (S.free i p).e)∧Left y (S.free i p).S o w w':=
 (ql5 h hI (zk hc) p).mono fun _ _⟨a,b⟩=>⟨a,b.left (Good.deed hI (zk hc) (ba hI (zk hc) p)).1⟩
theorem qki (h:StIn w o y S)(hI:Inv S)(hc:S.chk i=true)(s:Shp)(hs:s.ok)(hwk:s.weak=false) :
  Calls Tryz.prog 47 #[ptr y.sb,.int .i64 i,jw s] w fun e w'=>e=.returned (.tuple #[.int .i64 (S.alloc i s).v,.int .i64 (S.alloc i s).e])∧Left y (S.alloc i s).S o w w':=
 (qi3 h hI (zk hc) s hs hwk).mono fun _ _⟨a,b⟩=>⟨a,b.left (Good.deed hI (zk hc) (y8 hI (zk hc) hs)).1⟩
theorem c_weak (h:StIn w o y S)(hI:Inv S)(hc:S.chk i=true){q:Nat}(_:Plc S q) :
  Calls Tryz.prog 217 #[ptr y.sb,.int .i64 i,.int .i64 q] w fun e w'=>e=.returned (.tuple #[.int .i64 (S.weak i q).v,.int .i64 (S.weak i q).e])∧Left y (S.weak i q).S o w w':=
 (qlb h hI (zk hc) q).mono fun _ _⟨a,b⟩=>⟨a,b.left (Good.deed hI (zk hc) (du hI (zk hc) q)).1⟩
theorem c_load (h:StIn w o y S)(hI:Inv S)(hc:S.chk i=true){p:Nat}(_:Plc S p) :
  Calls Tryz.prog 218 #[ptr y.sb,.int .i64 i,.int .i64 p] w fun e w'=>e=.returned (.tuple #[.int .i64 (S.load i p).v,.int .i64 (S.load i p).e])∧Left y (S.load i p).S o w w':=
 (qlo h hI (zk hc) p).mono fun _ _⟨a,b⟩=>⟨a,b.left (Good.deed hI (zk hc) (bi hI (zk hc) p)).1⟩
theorem c_take (h:StIn w o y S)(hI:Inv S)(hc:S.chk i=true) :
  Calls Tryz.prog 59 #[ptr y.sb,.int .i64 i] w fun e w'=>e=.returned (.tuple #[.int .i64 (S.take i).v,.int .i64 (S.take i).e])∧Left y (S.take i).S o w w':=
 (qmc h hI (zk hc)).mono fun _ _⟨a,b⟩=>⟨a,b.left (Good.deed hI (zk hc) (bg hI (zk hc))).1⟩
theorem qg9 (h:StIn w o y S)(hI:Inv S)(hc:S.chk i=true) :
  Calls Tryz.prog 25 #[ptr y.sb,.int .i64 i] w fun e w'=>e=.returned (.tuple #[.int .i64 (S.commit i).v,.int .i64 (S.commit i).e])∧Left y (S.commit i).S o w w':=
 (qgw h hI (zk hc)).mono fun _ _⟨a,b⟩=>⟨a,b.left (qa3 hI (zk hc)).1⟩
theorem qkd (h:StIn w o y S)(hI:Inv S)(hi:i<S.txs.length) :
  Calls Tryz.prog 16 #[ptr y.sb,.int .i64 i] w fun e w'=>e=.returned (.int .i64 (S.beginR i).2)∧Left y (S.beginR i).1 o w w':=
 (qi9 h hI hi).mono fun _ _⟨a,b⟩=>⟨a,b.left (qes hI hi)⟩
theorem c_abort (h:StIn w o y S)(hI:Inv S)(hi:i<S.txs.length) :
  Calls Tryz.prog 20 #[ptr y.sb,.int .i64 i] w fun e w'=>e=.returned (.int .i64 (S.abortR i).2)∧Left y (S.abortR i).1 o w w':=
 (qip h hI hi).mono fun _ _⟨a,b⟩=>⟨a,b.left (qmd hI hi)⟩
theorem c_live (h:StIn w o y S)(hI:Inv S)(hi:i<S.txs.length) :
  Calls Tryz.prog 21 #[ptr y.sb,.int .i64 i] w fun e w'=>e=.returned (.tuple #[.int .i64 (if (S.t i).live then ((S.t i).start:Int) else 0),.bool (S.t i).live])∧w=w':=
 live_in h hI (Stt.t_get hi)
end
end Go.Proofs.YteehgedabdchcaaGreat
namespace Go.Proofs.YteehgedabdchcaaGreat
open Go.RowKit Hp
attribute [local go_sem ↓] Go.wp_at_zero Go.wp_at_succ
section
variable {w w' : World} {o o' : Own} {y : SLay} {S : Stt} {i : Nat}
def Stt.ser (S:Stt)(p:Nat):Nat:=if p=0 then 0 else (S.H.serR p).1
theorem qgu (h:StIn w o y S)(hk:S.ok){p:Nat}(_:Plc S p) :
  Calls Tryz.prog 216 #[ptr y.sb,.int .i64 p] w fun e w'=>e=.returned (.int .i64 (S.ser p))∧Below w.heap.size w w':=by
 unfold Stt.ser;by_cases h0:p=0
 ·subst h0
  rw[if_pos rfl];clear h hk;go_enter Tryz.func216,Tryz.ntmps216;go_wp2_with fail;go_ret;exact⟨rfl,qc w⟩
 ·rw[if_neg h0]
  have HS:=Lib.hid (qc0 h hk p);have hpb:((p:Int)==0)=false:=by rw[beq_eq_false_iff_ne];omega
  generalize S.H.serR p=r at *;clear h hk h0;go_enter Tryz.func216,Tryz.ntmps216;go_wp2_with fail;refine HS.out.mono ?_
  rintro e w1⟨rfl,hb1⟩
  go_wp2_with fail;go_ret;exact⟨rfl,hb1⟩
end
theorem uq (h:ThV)(a:Option Addr)(n c:Nat)(w:World) :
  Calls Tryz.prog 96 #[.slice a n c,h.v] w fun e w'=>e=.returned (.bool (decide (h.b<0)||decide ((n:Int)≤h.b)))∧Below w.heap.size w w':=by
 obtain⟨hb,hn,⟨a0,a1,a2,a3,a4,a5⟩,⟨s0,s1,s2,s3,s4,s5⟩,hl⟩:=h;show Calls _ _ #[.slice a n c,.agg #[.int .i64 hb,.int .i64 hn,.int .i64 a0,.int .i64 a1,.int .i64 a2,.int .i64 a3,.int .i64 a4,.int .i64 a5,.int .i64 s0,.int .i64 s1,.int .i64 s2,.int .i64 s3,.int .i64 s4,.int .i64 s5,.bool hl]] _ _;simp only;by_cases h0:hb<0
 ·rw[decide_eq_true h0,Bool.true_or]
  go_enter Tryz.func96,Tryz.ntmps96;go_wp2_with fail;go_ret;exact⟨rfl,qa (qc w) _⟩
 ·rw[decide_eq_false h0,Bool.false_or]
  by_cases h1:(n:Int)≤hb
  ·rw[decide_eq_true h1]
   go_enter Tryz.func96,Tryz.ntmps96;go_wp2_with fail;go_ret;exact⟨rfl,qa (qc w) _⟩
  ·rw[decide_eq_false h1]
   go_enter Tryz.func96,Tryz.ntmps96;go_wp2_with fail;go_ret;exact⟨rfl,qa (qc w) _⟩
def R6.get (r:R6):Nat→Int
 | 0=>r.a0|1=>r.a1|2=>r.a2|3=>r.a3|4=>r.a4|_=>r.a5
def R6.set (r:R6)(v:Int):Nat→R6
 | 0=>{ r with a0:=v }|1=>{ r with a1:=v }|2=>{ r with a2:=v }|3=>{ r with a3:=v }|4=>{ r with a4:=v }|_=>{ r with a5:=v }
def ThV.put (h:ThV)(A:Nat)(v:Int):ThV:={ h with r:=h.r.set v A }
theorem six {A:Nat}(h:A<6):A=0∨A=1∨A=2∨A=3∨A=4∨A=5:=by omega
theorem qbh {w:World}{b:Nat}{t:TypeId}{h:ThV}(j:Blk w b h.cells t){A:Nat}(hA:A<6)(v:Int):Blk (w.setCell ⟨b,2+A,none⟩ (.int .i64 v)) b (h.put A v).cells t:=by
 have e1:∀ x,x=(h.put A v).cells→Blk (w.setCell ⟨b,2+A,none⟩ (.int .i64 v)) b x t→Blk (w.setCell ⟨b,2+A,none⟩ (.int .i64 v)) b (h.put A v).cells t:=fun x e k=>by rw[←e];exact k
 refine e1 _ ?_ (j.set (2+A) (.int .i64 v));rcases six hA with rfl|rfl|rfl|rfl|rfl|rfl
 all_goals simp only[ThV.cells,ThV.put,R6.set,List.setIfInBounds_toArray,List.set_cons_zero,List.set_cons_succ,Nat.reduceAdd]
theorem jf {w:World}{b:Nat}{t:TypeId}{h:ThV}(j:Blk w b h.cells t){A:Nat}(hA:A<6):w.cell? ⟨b,2+A,none⟩=some (.int .i64 (h.r.get A)):=by
 rw[j.cell];rcases six hA with rfl|rfl|rfl|rfl|rfl|rfl<;>rfl
theorem qa6 {w:World}{b c i j:Nat}{v x:Value}(h:w.cell? ⟨c,j,none⟩=some v)(hne:c≠b):(w.setCell ⟨b,i,none⟩ x).cell? ⟨c,j,none⟩=some v:=by
 rw[World.cell?_of_block (w:=w) (Below.heap_setCell _ _ _ _ hne)];exact h
theorem ku {T:Tag→Prop}{o o':Own}{w W:World}{b6 b7:Nat}(h1:Stp T o o' w W)(h6:w.heap.size≤b6)(h7:w.heap.size≤b7)(h:ThV)(a:ActV):Stp T o o' w (zy W b6 b7 h a):=((((((((((((((((((h1.setCell_new (a:=⟨b6,0,none⟩) h6 _).setCell_new (a:=⟨b6,1,none⟩) h6 _).setCell_new (a:=⟨b6,2,none⟩) h6 _).setCell_new (a:=⟨b6,3,none⟩) h6 _).setCell_new (a:=⟨b6,4,none⟩) h6 _).setCell_new (a:=⟨b6,5,none⟩) h6 _).setCell_new (a:=⟨b6,6,none⟩) h6 _).setCell_new (a:=⟨b6,7,none⟩) h6 _).setCell_new (a:=⟨b6,8,none⟩) h6 _).setCell_new (a:=⟨b6,9,none⟩) h6 _).setCell_new (a:=⟨b6,10,none⟩) h6 _).setCell_new (a:=⟨b6,11,none⟩) h6 _).setCell_new (a:=⟨b6,12,none⟩) h6 _).setCell_new (a:=⟨b6,13,none⟩) h6 _).setCell_new (a:=⟨b6,14,none⟩) h6 _).setCell_new (a:=⟨b7,0,none⟩) h7 _).setCell_new (a:=⟨b7,1,none⟩) h7 _).setCell_new (a:=⟨b7,2,none⟩) h7 _)
theorem Wr.set_newT {b:Nat}{w W:World}(h:Wr b w W){a:Addr}(ha:w.heap.size≤a.block)(v:Value):Wr b w (W.setCell a v):=
 ⟨h.os,h.tape,h.output,by rw[World.size_setCell];exact h.size,fun k hk hn=>(Below.heap_setCell _ _ _ _ (show k≠a.block by omega)).trans (h.block k hk hn)⟩
theorem Stp.wr_new {T:Tag→Prop}{o o':Own}{b:Nat}{w W W':World}(h:Stp T o o' w W)(k:Wr b W W')(hb:w.heap.size≤b):Stp T o o' w W':=
 ⟨k.os.trans h.os,k.tape.trans h.tape,k.output.trans h.output,Nat.le_trans h.size k.size,h.tags,fun j hj hn=>(k.block j (Nat.lt_of_lt_of_le hj h.size) (by omega)).trans (h.block j hj hn)⟩
theorem res_wr {b:Nat} {w W:World} {b6 b7:Nat} (h1:Wr b w W) (h6:w.heap.size≤b6) (h7:w.heap.size≤b7) (h:ThV) (a:ActV):Wr b w (zy W b6 b7 h a):=(Wr.set_newT (Wr.set_newT (Wr.set_newT (Wr.set_newT (Wr.set_newT (Wr.set_newT (Wr.set_newT (Wr.set_newT (Wr.set_newT (Wr.set_newT (Wr.set_newT (Wr.set_newT (Wr.set_newT (Wr.set_newT (Wr.set_newT (Wr.set_newT (Wr.set_newT (Wr.set_newT h1 (a:=⟨b6,0,none⟩) h6 _) (a:=⟨b6,1,none⟩) h6 _) (a:=⟨b6,2,none⟩) h6 _) (a:=⟨b6,3,none⟩) h6 _) (a:=⟨b6,4,none⟩) h6 _) (a:=⟨b6,5,none⟩) h6 _) (a:=⟨b6,6,none⟩) h6 _) (a:=⟨b6,7,none⟩) h6 _) (a:=⟨b6,8,none⟩) h6 _) (a:=⟨b6,9,none⟩) h6 _) (a:=⟨b6,10,none⟩) h6 _) (a:=⟨b6,11,none⟩) h6 _) (a:=⟨b6,12,none⟩) h6 _) (a:=⟨b6,13,none⟩) h6 _) (a:=⟨b6,14,none⟩) h6 _) (a:=⟨b7,0,none⟩) h7 _) (a:=⟨b7,1,none⟩) h7 _) (a:=⟨b7,2,none⟩) h7 _)
structure DeedV where
 k:Int
 A:Nat
 B:Nat
 i:Int
 n:Int
def DeedV.cells (d:DeedV):Array Value:=#[.int .i64 d.k,.int .i64 d.A,.int .i64 d.B,.int .i64 d.i,.int .i64 d.n]
def DeedV.v (d:DeedV):Value:=.agg d.cells
def ThV.led (h:ThV)(A:Nat)(p e:Int):ThV:=if e=0 then (h.put A p).ended 0 else h.ended e
def ledA (s e:Int):ActV:=if e=0 then ky s 0 else ky 0 e
def bxT (y:SLay)(t:Tag):Prop:=t=(y.l.id+1,0)
theorem uh {y:SLay}{t:Tag}(h:bxT y t):¬qh y t:=by rw[h];exact qm y
theorem StIn.bx {w w':World}{o o':Own}{y:SLay}{S:Stt}(h:StIn w o y S)(hs:Stp (bxT y) o o' w w'):StIn w' o' y S:=h.stp hs fun j e=>by
 have e:(y.l.id,j)=(y.l.id+1,0):=e;injection e with e1 e2;omega
theorem xd (W:World)(b6 b7:Nat){y:SLay}{o:Own}(h6:bxT y (o b6))(h7:bxT y (o b7))(h:ThV)(a:ActV):Stp (bxT y) o o W (zy W b6 b7 h a):=(((((((((((((((((((Stp.refl _ o W).setCell (a:=⟨b6,0,none⟩) h6 _).setCell (a:=⟨b6,1,none⟩) h6 _).setCell (a:=⟨b6,2,none⟩) h6 _).setCell (a:=⟨b6,3,none⟩) h6 _).setCell (a:=⟨b6,4,none⟩) h6 _).setCell (a:=⟨b6,5,none⟩) h6 _).setCell (a:=⟨b6,6,none⟩) h6 _).setCell (a:=⟨b6,7,none⟩) h6 _).setCell (a:=⟨b6,8,none⟩) h6 _).setCell (a:=⟨b6,9,none⟩) h6 _).setCell (a:=⟨b6,10,none⟩) h6 _).setCell (a:=⟨b6,11,none⟩) h6 _).setCell (a:=⟨b6,12,none⟩) h6 _).setCell (a:=⟨b6,13,none⟩) h6 _).setCell (a:=⟨b6,14,none⟩) h6 _).setCell (a:=⟨b7,0,none⟩) h7 _).setCell (a:=⟨b7,1,none⟩) h7 _).setCell (a:=⟨b7,2,none⟩) h7 _)
section
variable {w w' : World} {o o' : Own} {y : SLay} {S : Stt}
theorem led_no (h:ThV) (p e:Int) (he:e≠0) (hn:0≤h.n∧h.n≤4096) (hb:0≤h.b∧h.b≤4096) (w:World) {b10 b7 b6 b4:Nat}
  (j10:Blk w b10 #[.func (.func 213) #[] #[ptr b7]] 295) (j7:Blk w b7 h.cells 58) :
  Calls Tryz.prog 215 #[.int .i64 p,.int .i64 e,ptr b10,ptr b7,ptr b6,ptr b4] w fun e' w'=>e'=.returned (.tuple #[(h.ended e).v,(ky 0 e).val])∧Below w.heap.size w w':=by
 have HT:=Lib.hid (fun W (hW:Below w.heap.size w W)=>uv h 0 e hn hb W (j7.below hW j7.lt))
 have heb:(e != 0)=true:=by rw[bne_iff_ne];exact he
 have c10:=j10.cell;have l10:=j10.lt;generalize h.ended e=h' at *;generalize ky 0 e=a' at *;clear hn hb he j7;obtain⟨b',n',⟨r0,r1,r2,r3,r4,r5⟩,⟨p0,p1,p2,p3,p4,p5⟩,hl'⟩:=h';obtain⟨ak,ae,av⟩:=a';have HT:=Lib.hid (fun W hW=>show Calls Tryz.prog 213 #[.int .i64 0,.int .i64 e,ptr b7] W fun e' w'=>e'=.returned (.tuple #[.agg #[.int .i64 b',.int .i64 n',.int .i64 r0,.int .i64 r1,.int .i64 r2,.int .i64 r3,.int .i64 r4,.int .i64 r5,.int .i64 p0,.int .i64 p1,.int .i64 p2,.int .i64 p3,.int .i64 p4,.int .i64 p5,.bool hl'],.agg #[.int .i64 ak,.int .i64 ae,.int .i64 av]])∧Below W.heap.size W w' from HT.out W hW)
 clear j10;go_enter Tryz.func215,Tryz.ntmps215;go_wp2_with fail;refine (HT.out _ (qa (qa (qc w) _) _)).mono ?_
 rintro e1 w1 ⟨rfl,hb1⟩
 have j5:=(Blk.new_at w (ThV.cells ⟨0,0,⟨0,0,0,0,0,0⟩,⟨0,0,0,0,0,0⟩,false⟩) _ 58 w.heap.size rfl rfl).alloc (.cells #[.int .i64 0,.int .i64 0,.int .i64 0] 54);have j6:Blk _ (w.heap.size+1) zAct 54:=Blk.new_at (w.alloc (.cells (ThV.cells ⟨0,0,⟨0,0,0,0,0,0⟩,⟨0,0,0,0,0,0⟩,false⟩) 58)) #[.int .i64 0,.int .i64 0,.int .i64 0] zAct 54 (w.heap.size+1) (by simp) rfl
 replace j5:=j5.below hb1 j5.lt;replace j6:=j6.below hb1 j6.lt;have hb2:=qd (qa (qa (qc w) _) _) hb1;have c5:=j5.cell;unfold ThV.cells at c5;have z5:=j5.free;have l5:=j5.lt;have c6:=j6.cell;unfold zAct at c6;have z6:=j6.free;have l6:=j6.lt;have hres:=Lib.hid (zr j5 j6 (by omega) ⟨b',n',⟨r0,r1,r2,r3,r4,r5⟩,⟨p0,p1,p2,p3,p4,p5⟩,hl'⟩ ⟨ak,ae,av⟩)
 have hrb:=Lib.hid (xg hb2 (b6:=w.heap.size) (b7:=w.heap.size+1) (by omega) (by omega) ⟨b',n',⟨r0,r1,r2,r3,r4,r5⟩,⟨p0,p1,p2,p3,p4,p5⟩,hl'⟩ ⟨ak,ae,av⟩)
 clear hb1 hb2 j5 j6 c10 l10 HT;go_wp2_with fail;change bodyPost _ _ _ _ _ (zy w1 (w.heap.size) (w.heap.size+1) ⟨b',n',⟨r0,r1,r2,r3,r4,r5⟩,⟨p0,p1,p2,p3,p4,p5⟩,hl'⟩ ⟨ak,ae,av⟩);generalize zy w1 (w.heap.size) (w.heap.size+1) ⟨b',n',⟨r0,r1,r2,r3,r4,r5⟩,⟨p0,p1,p2,p3,p4,p5⟩,hl'⟩ ⟨ak,ae,av⟩=X at *;exact bodyPost_ret (qq _ _ 8 9 rfl rfl rfl hres.out.1 hres.out.2) rfl ⟨rfl,hrb.out⟩
theorem led_yes (hS:StIn w o y S) (hk:S.ok) (h:ThV) (d:DeedV) {p:Nat} (hp:Plc S p) (hA:d.A<6) (hn:0≤h.n∧h.n≤4096) (hb:0≤h.b∧h.b≤4096) {b10 b7 b6 b4:Nat}
  (j10:Blk w b10 #[.func (.func 213) #[] #[ptr b7]] 295) (j7:Blk w b7 h.cells 58) (j6:Blk w b6 d.cells 73) (j4:Blk w b4 #[ptr y.sb] 24) (t7:bxT y (o b7)) (n10:b10≠b7) (n4:b4≠b7) :
  Calls Tryz.prog 215 #[.int .i64 p,.int .i64 0,ptr b10,ptr b7,ptr b6,ptr b4] w fun e' w'=>e'=.returned (.tuple #[((h.put d.A p).ended 0).v,(ky (S.ser p) 0).val])∧Wr b7 w w':=by
 have hAI:(d.A:Int)<6:=by omega
 have c7:=j7.cell;have l7:=j7.lt;have z7:=j7.free;have c6:=j6.cell;unfold DeedV.cells at c6;have l6:=j6.lt;have hr:=jf j7 hA;clear c7;obtain⟨h',hh'⟩:∃ h',h'=(h.put d.A p).ended 0:=⟨_,rfl⟩;obtain⟨a',ha'⟩:∃ a',a'=ky (S.ser p) 0:=⟨_,rfl⟩;rw[←hh',←ha'];obtain⟨b',n',⟨r0,r1,r2,r3,r4,r5⟩,⟨p0,p1,p2,p3,p4,p5⟩,hl'⟩:=h';obtain⟨ak,ae,av⟩:=a';go_enter Tryz.func215,Tryz.ntmps215;go_upto_region 4 with fail;obtain⟨W,hW⟩:∃ W:World,W=((w.setCell ⟨b7,2+d.A,none⟩ (.int .i64 p)).alloc (.cells #[.int .i64 0,.int .i64 0,.int .i64 0,.int .i64 0,.int .i64 0,.int .i64 0,.int .i64 0,.int .i64 0,.int .i64 0,.int .i64 0,.int .i64 0,.int .i64 0,.int .i64 0,.int .i64 0,.bool false] 58)).alloc (.cells #[.int .i64 0,.int .i64 0,.int .i64 0] 54):=⟨_,rfl⟩;rw[←hW];have hsW:Wr b7 w W:=by rw[hW];exact (Wr.set b7 w _ _).below_then (qa (qa (qc _) _) _)
 have hSW:=hS.bx (Stp.of_wr hsW t7);have i7:Blk W b7 (h.put d.A p).cells 58:=by rw[hW];exact ((qbh j7 hA p).alloc _).alloc _
 have i10:Blk W b10 #[.func (.func 213) #[] #[ptr b7]] 295:=by rw[hW];exact ((j10.set_other (a:=⟨b7,2+d.A,none⟩) n10 _).alloc _).alloc _
 have i4:Blk W b4 #[ptr y.sb] 24:=by rw[hW];exact ((j4.set_other (a:=⟨b7,2+d.A,none⟩) n4 _).alloc _).alloc _
 have i8:Blk W w.heap.size #[.int .i64 0,.int .i64 0,.int .i64 0,.int .i64 0,.int .i64 0,.int .i64 0,.int .i64 0,.int .i64 0,.int .i64 0,.int .i64 0,.int .i64 0,.int .i64 0,.int .i64 0,.int .i64 0,.bool false] 58:=by rw[hW];exact (Blk.new_at _ _ _ _ _ (by simp) rfl).alloc _
 have i9:Blk W (w.heap.size+1) #[.int .i64 0,.int .i64 0,.int .i64 0] 54:=by rw[hW];exact Blk.new_at _ _ _ _ _ (by simp) rfl
 have HSer:=Lib.hid (fun X (hX:Below W.heap.size W X)=>qgu (hSW.below hX) hk hp)
 have HT:=Lib.hid (fun X (hX:Below W.heap.size W X)=>uv (h.put d.A p) (S.ser p) 0 hn hb X (i7.below hX i7.lt))
 have HSW:=Lib.hid hsW;rw[←hh',←ha']at HT;generalize S.ser p=sp at *;have HT:=Lib.hid (fun X hX=>show Calls Tryz.prog 213 #[.int .i64 sp,.int .i64 0,ptr b7] X fun e' w'=>e'=.returned (.tuple #[.agg #[.int .i64 b',.int .i64 n',.int .i64 r0,.int .i64 r1,.int .i64 r2,.int .i64 r3,.int .i64 r4,.int .i64 r5,.int .i64 p0,.int .i64 p1,.int .i64 p2,.int .i64 p3,.int .i64 p4,.int .i64 p5,.bool hl'],.agg #[.int .i64 ak,.int .i64 ae,.int .i64 av]])∧Below X.heap.size X w' from HT.out X hX)
 have N10:=Lib.hid (show b10≠w.heap.size∧b10≠w.heap.size+1∧b4≠w.heap.size∧b4≠w.heap.size+1 from by have:=j10.lt;have:=j4.lt;omega)
 have H8:=Lib.hid i8;have H9:=Lib.hid i9;have H10:=Lib.hid i10;have H4:=Lib.hid i4;have c10:=i10.cell 0;have c4:=i4.cell 0;simp at c10 c4;clear hh' ha' hW hsW hSW i7 i10 i4 i8 i9 hS hk hp hn hb j10 j7 j6 j4 t7 n10 n4 l7 z7 c6 l6 hr;go_region_held3 (fun w'=>w'.cell? ⟨b10,0,none⟩=some (.func (.func 213) #[] #[ptr b7])∧w'.cell? ⟨b4,0,none⟩=some (ptr y.sb)) (first|(refine⟨?_,?_⟩<;>with_reducible assumption)|go_keep|(refine⟨?_,?_⟩<;>(repeat (refine qa6 ?_ (by with_reducible assumption)))<;>with_reducible assumption)) (first
  | (go_at_call 216;refine (HSer.out _ (qe (qc W))).mono ?_;rintro e3 w3 ⟨rfl,hb3⟩;have hb3:=qd (qe (qc W)) hb3;have d10:=(H10.out.below hb3 H10.out.lt).cell 0;have d4:=(H4.out.below hb3 H4.out.lt).cell 0;simp at d10 d4)
  | (go_at_call 213;refine (HT.out _ hb3).mono ?_;rintro e5 w5 ⟨rfl,hb5⟩;have hb5:=qd hb3 hb5;have f10:=(H10.out.below hb5 H10.out.lt).cell 0;have f4:=(H4.out.below hb5 H4.out.lt).cell 0;simp at f10 f4;have k8:=H8.out.below hb5 H8.out.lt;have k9:=H9.out.below hb5 H9.out.lt;have c8:=k8.cell;have z8:=k8.free;have l8:=k8.lt;have c9:=k9.cell;have z9:=k9.free;have l9:=k9.lt;have hres:=Lib.hid (zr k8 k9 (by omega) ⟨b',n',⟨r0,r1,r2,r3,r4,r5⟩,⟨p0,p1,p2,p3,p4,p5⟩,hl'⟩ ⟨ak,ae,av⟩);clear k8 k9;have m10:b10≠w.heap.size:=N10.out.1;have m10':b10≠w.heap.size+1:=N10.out.2.1;have m4:b4≠w.heap.size:=N10.out.2.2.1;have m4':b4≠w.heap.size+1:=N10.out.2.2.2)
  | fail)
 go_wp2_with fail;change bodyPost _ _ _ _ _ (zy w5 (w.heap.size) (w.heap.size+1) ⟨b',n',⟨r0,r1,r2,r3,r4,r5⟩,⟨p0,p1,p2,p3,p4,p5⟩,hl'⟩ ⟨ak,ae,av⟩);have hrs:=Lib.hid (res_wr (HSW.out.below_then hb5) (b6:=w.heap.size) (b7:=w.heap.size+1) (by omega) (by omega) ⟨b',n',⟨r0,r1,r2,r3,r4,r5⟩,⟨p0,p1,p2,p3,p4,p5⟩,hl'⟩ ⟨ak,ae,av⟩)
 generalize zy w5 (w.heap.size) (w.heap.size+1) ⟨b',n',⟨r0,r1,r2,r3,r4,r5⟩,⟨p0,p1,p2,p3,p4,p5⟩,hl'⟩ ⟨ak,ae,av⟩=X at *;exact bodyPost_ret (qq _ _ 8 9 rfl rfl rfl hres.out.1 hres.out.2) rfl ⟨rfl,hrs.out⟩
theorem led_any (R:Res)(hS:StIn w o y R.S)(hk:R.S.ok)(h:ThV)(d:DeedV)(hp:R.e=0→∃ p:Nat,R.v=p∧Plc R.S p)(hA:d.A<6)(hn:0≤h.n∧h.n≤4096)(hb:0≤h.b∧h.b≤4096){b10 b7 b6 b4:Nat}
  (j10:Blk w b10 #[.func (.func 213) #[] #[ptr b7]] 295)(j7:Blk w b7 h.cells 58)(j6:Blk w b6 d.cells 73)(j4:Blk w b4 #[ptr y.sb] 24)(t7:bxT y (o b7))(n10:b10≠b7)(n4:b4≠b7) :
  Calls Tryz.prog 215 #[.int .i64 R.v,.int .i64 R.e,ptr b10,ptr b7,ptr b6,ptr b4] w fun e' w'=>e'=.returned (.tuple #[(h.led d.A R.v R.e).v,(ledA (R.S.ser R.v.toNat) R.e).val])∧Wr b7 w w':=by
 obtain⟨S,v,e⟩:=R;simp only at hS hk hp ⊢;by_cases he:e=0
 ·obtain⟨p,rfl,hq⟩:=hp he
  subst he;exact led_yes hS hk h d hq hA hn hb j10 j7 j6 j4 t7 n10 n4
 ·have e1:h.led d.A v e=h.ended e:=by unfold ThV.led;rw[if_neg he]
  have e2:ledA (S.ser v.toNat) e=ky 0 e:=by unfold ledA;rw[if_neg he]
  rw[e1,e2];refine (led_no h v e he hn hb w j10 j7).mono ?_
  rintro e' w'⟨rfl,h1⟩
  exact⟨rfl,Wr.of_below h1⟩
end
theorem thW_wr (W:World)(b:Nat)(h:ThV):Wr b W (thW W b h):=((((((((((((((((Wr.refl b W).trans (Wr.set b _ 0 _)).trans (Wr.set b _ 1 _)).trans (Wr.set b _ 2 _)).trans (Wr.set b _ 3 _)).trans (Wr.set b _ 4 _)).trans (Wr.set b _ 5 _)).trans (Wr.set b _ 6 _)).trans (Wr.set b _ 7 _)).trans (Wr.set b _ 8 _)).trans (Wr.set b _ 9 _)).trans (Wr.set b _ 10 _)).trans (Wr.set b _ 11 _)).trans (Wr.set b _ 12 _)).trans (Wr.set b _ 13 _)).trans (Wr.set b _ 14 _))
section
variable {w w' : World} {o o' : Own} {y : SLay} {S : Stt} {i : Nat}
theorem qgh (hS:StIn w o y S) (hI:Inv S) (hb hn a0 a1 a2 a3 a4 a5 s0 s1 s2 s3 s4 s5:Int) (hl:Bool) (A B:Nat) (fi fn:Int) (ra rb:Nat)
  (hi:i<S.txs.length) (hlv:(S.t i).live=true) (hA:A<6) (hB:B<6) (hra:R6.get ⟨a0,a1,a2,a3,a4,a5⟩ A=ra) (hrb:R6.get ⟨a0,a1,a2,a3,a4,a5⟩ B=rb) (hb0:0≤hb∧hb≤4096) :
  Calls Tryz.prog 154 #[ptr y.sb,.int .i64 i,.agg #[.int .i64 14,.int .i64 A,.int .i64 B,.int .i64 fi,.int .i64 fn],.agg #[.int .i64 hb,.int .i64 hn,.int .i64 a0,.int .i64 a1,.int .i64 a2,.int .i64 a3,.int .i64 a4,.int .i64 a5,.int .i64 s0,.int .i64 s1,.int .i64 s2,.int .i64 s3,.int .i64 s4,.int .i64 s5,.bool hl]] w fun e' w'=>e'=.returned (.tuple #[ThV.v ⟨(hb+1),0,⟨s0,s1,s2,s3,s4,s5⟩,⟨s0,s1,s2,s3,s4,s5⟩,false⟩,ActV.val ⟨2,0,0⟩])∧Left y (S.abort i) o w w':=by
 have hmf:∀ (fn:Fn) (first cap:Array Value) (w:World),(Instr.makeFunc fn first cap).run Tryz.prog w=.ok (.func fn first cap) w:=fun _ _ _ _=>rfl
 obtain⟨o1,ho1⟩:∃ o1,o1=ext o w.heap.size (y.l.id+1,0):=⟨_,rfl⟩;have h1:=hS.retag (o':=o1) fun b hb=>by rw[ho1];exact qj hb
 have hS0:Stp (qh y) o o1 w w:=by rw[ho1];exact (Stp.refl _ o w).ext _ _ (Nat.le_refl _)
 have hbx:∀ b,w.heap.size≤b→bxT y (o1 b):=fun b hb=>by rw[ho1];exact qp hb
 clear ho1 hS;obtain⟨W,hW⟩:∃ W:World,W=(((((w.alloc (.cells #[ptr y.sb] 24)).alloc (.cells #[.int .i64 14,.int .i64 A,.int .i64 B,.int .i64 fi,.int .i64 fn] 73)).alloc (.cells #[.int .i64 hb,.int .i64 hn,.int .i64 a0,.int .i64 a1,.int .i64 a2,.int .i64 a3,.int .i64 a4,.int .i64 a5,.int .i64 s0,.int .i64 s1,.int .i64 s2,.int .i64 s3,.int .i64 s4,.int .i64 s5,.bool hl] 58)).alloc (.cells #[.int .i64 0,.int .i64 0,.int .i64 0,.int .i64 0,.int .i64 0,.int .i64 0,.int .i64 0,.int .i64 0,.int .i64 0,.int .i64 0,.int .i64 0,.int .i64 0,.int .i64 0,.int .i64 0,.bool false] 58)).alloc (.cells #[.int .i64 0,.int .i64 0,.int .i64 0] 54)).alloc (.cells #[.func (.func 213) #[] #[ptr (w.heap.size+1+1)]] 295):=⟨_,rfl⟩;have hbW:Below w.heap.size w W:=by rw[hW];exact qa (qa (qa (qa (qa (qa (qc w) _) _) _) _) _) _
 have k0:Blk W w.heap.size #[ptr y.sb] 24:=by rw[hW];exact (((((Blk.new w _ _).alloc _).alloc _).alloc _).alloc _).alloc _
 have k1:Blk W (w.heap.size+1) #[.int .i64 14,.int .i64 A,.int .i64 B,.int .i64 fi,.int .i64 fn] 73:=by rw[hW];exact ((((Blk.new_at _ _ _ _ _ (by simp) rfl).alloc _).alloc _).alloc _).alloc _
 have k2:Blk W (w.heap.size+1+1) #[.int .i64 hb,.int .i64 hn,.int .i64 a0,.int .i64 a1,.int .i64 a2,.int .i64 a3,.int .i64 a4,.int .i64 a5,.int .i64 s0,.int .i64 s1,.int .i64 s2,.int .i64 s3,.int .i64 s4,.int .i64 s5,.bool hl] 58:=by rw[hW];exact (((Blk.new_at _ _ _ _ _ (by simp) rfl).alloc _).alloc _).alloc _
 have k3:Blk W (w.heap.size+1+1+1) #[.int .i64 0,.int .i64 0,.int .i64 0,.int .i64 0,.int .i64 0,.int .i64 0,.int .i64 0,.int .i64 0,.int .i64 0,.int .i64 0,.int .i64 0,.int .i64 0,.int .i64 0,.int .i64 0,.bool false] 58:=by rw[hW];exact ((Blk.new_at _ _ _ _ _ (by simp) rfl).alloc _).alloc _
 have k4:Blk W (w.heap.size+1+1+1+1) #[.int .i64 0,.int .i64 0,.int .i64 0] 54:=by rw[hW];exact (Blk.new_at _ _ _ _ _ (by simp) rfl).alloc _
 have k5:Blk W (w.heap.size+1+1+1+1+1) #[.func (.func 213) #[] #[ptr (w.heap.size+1+1)]] 295:=by rw[hW];exact Blk.new_at _ _ _ _ _ (by simp) rfl
 have hSW:=h1.below hbW;have hsW:Stp (qh y) o o1 w W:=hS0.trans (Stp.of_below hbW);have AI:(A:Int)<6:=by omega
 have BI:(B:Int)<6:=by omega
 have HB:=Lib.hid hbx;have HC:=Lib.hid (fun X o2 (h2:StIn X o2 y S)=>by have:=c_abort h2 hI hi;rw[show S.abortR i=(S.abort i,0) from if_pos hlv]at this;exact this)
 have HK:=Lib.hid (fun X=>show Calls Tryz.prog 212 #[.agg #[.int .i64 hb,.int .i64 hn,.int .i64 a0,.int .i64 a1,.int .i64 a2,.int .i64 a3,.int .i64 a4,.int .i64 a5,.int .i64 s0,.int .i64 s1,.int .i64 s2,.int .i64 s3,.int .i64 s4,.int .i64 s5,.bool hl]] X fun e w'=>e=.returned (.agg #[.int .i64 hb,.int .i64 0,.int .i64 s0,.int .i64 s1,.int .i64 s2,.int .i64 s3,.int .i64 s4,.int .i64 s5,.int .i64 s0,.int .i64 s1,.int .i64 s2,.int .i64 s3,.int .i64 s4,.int .i64 s5,.bool false])∧Below X.heap.size X w' from cf ⟨hb,hn,⟨a0,a1,a2,a3,a4,a5⟩,⟨s0,s1,s2,s3,s4,s5⟩,hl⟩ X)
 obtain⟨b1,b2⟩:=hb0;generalize S.abort i=SA at *;clear hI hi hlv h1 hS0 hbx;go_enter Tryz.func154,Tryz.ntmps154;go_upto_region 3 with fail;rw[←hW];clear hW;have cA:=jf (h:=⟨hb,hn,⟨a0,a1,a2,a3,a4,a5⟩,⟨s0,s1,s2,s3,s4,s5⟩,hl⟩) k2 hA;have cB:=jf (h:=⟨hb,hn,⟨a0,a1,a2,a3,a4,a5⟩,⟨s0,s1,s2,s3,s4,s5⟩,hl⟩) k2 hB;rw[hra]at cA;rw[hrb]at cB;have c1:=k1.cell;have l2:=k2.lt;go_quiet (fail);obtain⟨V,hV⟩:∃ V,V=W.drewN nq:=⟨_,rfl⟩;have hbV:Below W.heap.size W V:=by rw[hV];exact zh (qc _) _
 rw[←hV];clear hV cA cB c1 l2;replace k0:=k0.below hbV k0.lt;replace k1:=k1.below hbV k1.lt;replace k2:=k2.below hbV k2.lt;replace k3:=k3.below hbV k3.lt;replace k4:=k4.below hbV k4.lt;replace k5:=k5.below hbV k5.lt;replace hSW:=hSW.below hbV;replace hsW:=hsW.trans (Stp.of_below hbV);have c0:=k0.cell;have c1:=k1.cell;go_wp2_with fail;refine (HC.out _ _ hSW).mono ?_
 rintro e2 w2 ⟨rfl,o2,hS2,hI2,hs2⟩
 have nt:∀ b,w.heap.size≤b→¬qh y (o1 b):=fun b q1=>uh (HB.out b q1)
 have tg:∀ b,w.heap.size≤b→b<V.heap.size→bxT y (o2 b):=fun b q1 q2=>by have:=HB.out b q1;rw[←hs2.tags b q2]at this;exact this
 have t2:=tg (w.heap.size+1+1) (by omega) k2.lt
 have t3:=tg (w.heap.size+1+1+1) (by omega) k3.lt
 have t4:=tg (w.heap.size+1+1+1+1) (by omega) k4.lt
 replace k2:=k2.stp hs2 (nt _ (by omega))
 replace k3:=k3.stp hs2 (nt _ (by omega))
 replace k4:=k4.stp hs2 (nt _ (by omega))
 have hs3:=hsW.trans hs2;have HI2:=Lib.hid hI2;clear c0 c1 k0 k1 k5 hs2 hSW hsW HC tg nt hI2;have c2:=k2.cell;go_wp2_with fail;refine (HK.out _).mono ?_
 rintro e3 w3 ⟨rfl,hb3⟩
 replace k2:=k2.below hb3 k2.lt;replace k3:=k3.below hb3 k3.lt;replace k4:=k4.below hb3 k4.lt;have hS3:=hS2.below hb3;replace hs3:=hs3.trans (Stp.of_below hb3);clear c2 hb3 hS2 HK;have c2:=k2.cell;have z2:=k2.free;have l2:=k2.lt;go_upto_region 37 with fail;clear c2 z2 l2;obtain⟨V2,hV2⟩:∃ V2,V2=(thW w3 (w.heap.size+1+1) ⟨hb,0,⟨s0,s1,s2,s3,s4,s5⟩,⟨s0,s1,s2,s3,s4,s5⟩,false⟩).setCell ⟨(w.heap.size+1+1),0,none⟩ (.int .i64 (hb+1)):=⟨_,rfl⟩;change Code.wp _ _ _ _ ((thW w3 (w.heap.size+1+1) ⟨hb,0,⟨s0,s1,s2,s3,s4,s5⟩,⟨s0,s1,s2,s3,s4,s5⟩,false⟩).setCell ⟨(w.heap.size+1+1),0,none⟩ (.int .i64 (hb+1)));rw[←hV2];have hw:Wr (w.heap.size+1+1) w3 V2:=by rw[hV2];exact (thW_wr w3 (w.heap.size+1+1) ⟨hb,0,⟨s0,s1,s2,s3,s4,s5⟩,⟨s0,s1,s2,s3,s4,s5⟩,false⟩).trans (Wr.set _ _ _ _)
 have i2:Blk V2 (w.heap.size+1+1) #[.int .i64 (hb+1),.int .i64 0,.int .i64 s0,.int .i64 s1,.int .i64 s2,.int .i64 s3,.int .i64 s4,.int .i64 s5,.int .i64 s0,.int .i64 s1,.int .i64 s2,.int .i64 s3,.int .i64 s4,.int .i64 s5,.bool false] 58:=by rw[hV2];exact (mj (g:=⟨hb,hn,⟨a0,a1,a2,a3,a4,a5⟩,⟨s0,s1,s2,s3,s4,s5⟩,hl⟩) k2 ⟨hb,0,⟨s0,s1,s2,s3,s4,s5⟩,⟨s0,s1,s2,s3,s4,s5⟩,false⟩).set 0 (.int .i64 (hb+1))
 have i3:=k3.wr hw (by omega)
 have i4:=k4.wr hw (by omega)
 have hS5:=hS3.bx (Stp.of_wr hw t2);have hs5:=hs3.wr_new hw (by omega)
 clear hV2 hw k2 k3 k4 hS3 hs3;have c2:=i2.cell;have c3:=i3.cell;have z3:=i3.free;have l3:=i3.lt;have c4:=i4.cell;have z4:=i4.free;have l4:=i4.lt;have hres:=Lib.hid (zr i3 i4 (by omega) ⟨(hb+1),0,⟨s0,s1,s2,s3,s4,s5⟩,⟨s0,s1,s2,s3,s4,s5⟩,false⟩ ⟨2,0,0⟩)
 have hrs:=Lib.hid (ku hs5 (b6:=(w.heap.size+1+1+1)) (b7:=(w.heap.size+1+1+1+1)) (by omega) (by omega) ⟨(hb+1),0,⟨s0,s1,s2,s3,s4,s5⟩,⟨s0,s1,s2,s3,s4,s5⟩,false⟩ ⟨2,0,0⟩)
 have hrS:=Lib.hid (hS5.bx (xd V2 (w.heap.size+1+1+1) (w.heap.size+1+1+1+1) (o:=o2) t3 t4 ⟨(hb+1),0,⟨s0,s1,s2,s3,s4,s5⟩,⟨s0,s1,s2,s3,s4,s5⟩,false⟩ ⟨2,0,0⟩));clear i2 i3 i4 hS5 hs5;go_wp2_with fail;change bodyPost _ _ _ _ _ (zy V2 (w.heap.size+1+1+1) (w.heap.size+1+1+1+1) ⟨(hb+1),0,⟨s0,s1,s2,s3,s4,s5⟩,⟨s0,s1,s2,s3,s4,s5⟩,false⟩ ⟨2,0,0⟩);generalize zy V2 (w.heap.size+1+1+1) (w.heap.size+1+1+1+1) ⟨(hb+1),0,⟨s0,s1,s2,s3,s4,s5⟩,⟨s0,s1,s2,s3,s4,s5⟩,false⟩ ⟨2,0,0⟩=X at *;exact bodyPost_ret (qq _ _ 8 9 rfl rfl rfl hres.out.1 hres.out.2) rfl ⟨rfl,o2,hrS.out,HI2.out,hrs.out⟩
end
section
variable {w w' : World} {o o' : Own} {y : SLay} {S : Stt} {i : Nat}
theorem qeg (hS:StIn w o y S) (hI:Inv S) (hb hn a0 a1 a2 a3 a4 a5 s0 s1 s2 s3 s4 s5:Int) (hl:Bool) (A B:Nat) (fi fn:Int) (ra rb:Nat)
  (tv:Int) (hq:(ra=rb∧tv=1)∨(ra≠rb∧tv=0)) (hA:A<6) (hB:B<6) (hra:R6.get ⟨a0,a1,a2,a3,a4,a5⟩ A=ra) (hrb:R6.get ⟨a0,a1,a2,a3,a4,a5⟩ B=rb) (hn0:0≤hn∧hn≤4096) (hb0:0≤hb∧hb≤4096) :
  Calls Tryz.prog 154 #[ptr y.sb,.int .i64 i,.agg #[.int .i64 11,.int .i64 A,.int .i64 B,.int .i64 fi,.int .i64 fn],.agg #[.int .i64 hb,.int .i64 hn,.int .i64 a0,.int .i64 a1,.int .i64 a2,.int .i64 a3,.int .i64 a4,.int .i64 a5,.int .i64 s0,.int .i64 s1,.int .i64 s2,.int .i64 s3,.int .i64 s4,.int .i64 s5,.bool hl]] w fun e' w'=>e'=.returned (.tuple #[(ThV.ended ⟨hb,hn,⟨a0,a1,a2,a3,a4,a5⟩,⟨s0,s1,s2,s3,s4,s5⟩,hl⟩ 0).v,(ky tv 0).val])∧Left y S o w w':=by
 have hmf:∀ (fn:Fn) (first cap:Array Value) (w:World),(Instr.makeFunc fn first cap).run Tryz.prog w=.ok (.func fn first cap) w:=fun _ _ _ _=>rfl
 obtain⟨o1,ho1⟩:∃ o1,o1=ext o w.heap.size (y.l.id+1,0):=⟨_,rfl⟩;have h1:=hS.retag (o':=o1) fun b hb=>by rw[ho1];exact qj hb
 have hS0:Stp (qh y) o o1 w w:=by rw[ho1];exact (Stp.refl _ o w).ext _ _ (Nat.le_refl _)
 have hbx:∀ b,w.heap.size≤b→bxT y (o1 b):=fun b hb=>by rw[ho1];exact qp hb
 clear ho1 hS;obtain⟨W,hW⟩:∃ W:World,W=(((((w.alloc (.cells #[ptr y.sb] 24)).alloc (.cells #[.int .i64 11,.int .i64 A,.int .i64 B,.int .i64 fi,.int .i64 fn] 73)).alloc (.cells #[.int .i64 hb,.int .i64 hn,.int .i64 a0,.int .i64 a1,.int .i64 a2,.int .i64 a3,.int .i64 a4,.int .i64 a5,.int .i64 s0,.int .i64 s1,.int .i64 s2,.int .i64 s3,.int .i64 s4,.int .i64 s5,.bool hl] 58)).alloc (.cells #[.int .i64 0,.int .i64 0,.int .i64 0,.int .i64 0,.int .i64 0,.int .i64 0,.int .i64 0,.int .i64 0,.int .i64 0,.int .i64 0,.int .i64 0,.int .i64 0,.int .i64 0,.int .i64 0,.bool false] 58)).alloc (.cells #[.int .i64 0,.int .i64 0,.int .i64 0] 54)).alloc (.cells #[.func (.func 213) #[] #[ptr (w.heap.size+1+1)]] 295):=⟨_,rfl⟩;have hbW:Below w.heap.size w W:=by rw[hW];exact qa (qa (qa (qa (qa (qa (qc w) _) _) _) _) _) _
 have k0:Blk W w.heap.size #[ptr y.sb] 24:=by rw[hW];exact (((((Blk.new w _ _).alloc _).alloc _).alloc _).alloc _).alloc _
 have k1:Blk W (w.heap.size+1) #[.int .i64 11,.int .i64 A,.int .i64 B,.int .i64 fi,.int .i64 fn] 73:=by rw[hW];exact ((((Blk.new_at _ _ _ _ _ (by simp) rfl).alloc _).alloc _).alloc _).alloc _
 have k2:Blk W (w.heap.size+1+1) #[.int .i64 hb,.int .i64 hn,.int .i64 a0,.int .i64 a1,.int .i64 a2,.int .i64 a3,.int .i64 a4,.int .i64 a5,.int .i64 s0,.int .i64 s1,.int .i64 s2,.int .i64 s3,.int .i64 s4,.int .i64 s5,.bool hl] 58:=by rw[hW];exact (((Blk.new_at _ _ _ _ _ (by simp) rfl).alloc _).alloc _).alloc _
 have k3:Blk W (w.heap.size+1+1+1) #[.int .i64 0,.int .i64 0,.int .i64 0,.int .i64 0,.int .i64 0,.int .i64 0,.int .i64 0,.int .i64 0,.int .i64 0,.int .i64 0,.int .i64 0,.int .i64 0,.int .i64 0,.int .i64 0,.bool false] 58:=by rw[hW];exact ((Blk.new_at _ _ _ _ _ (by simp) rfl).alloc _).alloc _
 have k4:Blk W (w.heap.size+1+1+1+1) #[.int .i64 0,.int .i64 0,.int .i64 0] 54:=by rw[hW];exact (Blk.new_at _ _ _ _ _ (by simp) rfl).alloc _
 have k5:Blk W (w.heap.size+1+1+1+1+1) #[.func (.func 213) #[] #[ptr (w.heap.size+1+1)]] 295:=by rw[hW];exact Blk.new_at _ _ _ _ _ (by simp) rfl
 have hSW:=h1.below hbW;have hsW:Stp (qh y) o o1 w W:=hS0.trans (Stp.of_below hbW);have AI:(A:Int)<6:=by omega
 have BI:(B:Int)<6:=by omega
 have HB:=Lib.hid hbx;have HT:=Lib.hid (fun X (j7:Blk X (w.heap.size+1+1) (ThV.cells ⟨hb,hn,⟨a0,a1,a2,a3,a4,a5⟩,⟨s0,s1,s2,s3,s4,s5⟩,hl⟩) 58)=>uv ⟨hb,hn,⟨a0,a1,a2,a3,a4,a5⟩,⟨s0,s1,s2,s3,s4,s5⟩,hl⟩ tv 0 hn0 hb0 X j7)
 obtain⟨H',hH'⟩:∃ H',H'=ThV.ended ⟨hb,hn,⟨a0,a1,a2,a3,a4,a5⟩,⟨s0,s1,s2,s3,s4,s5⟩,hl⟩ 0:=⟨_,rfl⟩;obtain⟨A',hA'⟩:∃ A',A'=ky tv 0:=⟨_,rfl⟩;rw[←hH',←hA']at HT ⊢;obtain⟨b',n',⟨r0,r1,r2,r3,r4,r5⟩,⟨p0,p1,p2,p3,p4,p5⟩,hl'⟩:=H';obtain⟨ak,ae,av⟩:=A';have HT:=Lib.hid (fun X j7=>show Calls Tryz.prog 213 #[.int .i64 tv,.int .i64 0,ptr (w.heap.size+1+1)] X fun e' w'=>e'=.returned (.tuple #[.agg #[.int .i64 b',.int .i64 n',.int .i64 r0,.int .i64 r1,.int .i64 r2,.int .i64 r3,.int .i64 r4,.int .i64 r5,.int .i64 p0,.int .i64 p1,.int .i64 p2,.int .i64 p3,.int .i64 p4,.int .i64 p5,.bool hl'],.agg #[.int .i64 ak,.int .i64 ae,.int .i64 av]])∧Below X.heap.size X w' from HT.out X j7)
 have HI:=Lib.hid hI;clear hH' hA' hI hn0 hb0 h1 hS0 hbx;go_enter Tryz.func154,Tryz.ntmps154;go_upto_region 3 with fail;rw[←hW];clear hW;have cA:=jf (h:=⟨hb,hn,⟨a0,a1,a2,a3,a4,a5⟩,⟨s0,s1,s2,s3,s4,s5⟩,hl⟩) k2 hA;have cB:=jf (h:=⟨hb,hn,⟨a0,a1,a2,a3,a4,a5⟩,⟨s0,s1,s2,s3,s4,s5⟩,hl⟩) k2 hB;rw[hra]at cA;rw[hrb]at cB;have c1:=k1.cell;have l2:=k2.lt;go_quiet (fail);obtain⟨V,hV⟩:∃ V,V=W.drewN nq:=⟨_,rfl⟩;have hbV:Below W.heap.size W V:=by rw[hV];exact zh (qc _) _
 rw[←hV];clear hV cA cB c1 l2;replace k0:=k0.below hbV k0.lt;replace k1:=k1.below hbV k1.lt;replace k2:=k2.below hbV k2.lt;replace k3:=k3.below hbV k3.lt;replace k4:=k4.below hbV k4.lt;replace k5:=k5.below hbV k5.lt;replace hSW:=hSW.below hbV;replace hsW:=hsW.trans (Stp.of_below hbV);have c0:=k0.cell;have c1:=k1.cell;have c5:=k5.cell;rcases hq with ⟨hab,rfl⟩|⟨hab,rfl⟩
 all_goals first
  | (have hcm:((ra:Int)==(rb:Int))=true:=by rw[beq_iff_eq,hab])
  | (have hcm:((ra:Int)==(rb:Int))=false:=by rw[beq_eq_false_iff_ne];omega)
 all_goals
  go_wp2_with fail;obtain⟨V2,hV2⟩:∃ V2,V2=V:=⟨_,rfl⟩;rw[←hV2];have i2:Blk V2 (w.heap.size+1+1) (ThV.cells ⟨hb,hn,⟨a0,a1,a2,a3,a4,a5⟩,⟨s0,s1,s2,s3,s4,s5⟩,hl⟩) 58:=by rw[hV2];exact k2
  have i3:Blk V2 (w.heap.size+1+1+1) #[.int .i64 0,.int .i64 0,.int .i64 0,.int .i64 0,.int .i64 0,.int .i64 0,.int .i64 0,.int .i64 0,.int .i64 0,.int .i64 0,.int .i64 0,.int .i64 0,.int .i64 0,.int .i64 0,.bool false] 58:=by rw[hV2];exact k3
  have i4:Blk V2 (w.heap.size+1+1+1+1) #[.int .i64 0,.int .i64 0,.int .i64 0] 54:=by rw[hV2];exact k4
  have hw:Wr (w.heap.size+1+1) V V2:=by rw[hV2];exact Wr.refl _ _
  have t2:bxT y (o1 (w.heap.size+1+1)):=HB.out _ (by omega)
  have hS2:=hSW.bx (Stp.of_wr hw t2);have hs2:=hsW.wr_new hw (by omega)
  clear hV2;refine (HT.out _ i2).mono ?_
  rintro e5 w5 ⟨rfl,hb5⟩
  have m3:=i3.below hb5 i3.lt;have m4:=i4.below hb5 i4.lt;have hS5:=hS2.below hb5;have hs5:=hs2.trans (Stp.of_below hb5);clear c0 c1 c5 HT i2 i3 i4 hw hS2 hs2 hb5 k0 k1 k2 k3 k4 k5 hSW hsW;have c3:=m3.cell;have z3:=m3.free;have l3:=m3.lt;have c4:=m4.cell;have z4:=m4.free;have l4:=m4.lt;have hres:=Lib.hid (zr m3 m4 (by omega) ⟨b',n',⟨r0,r1,r2,r3,r4,r5⟩,⟨p0,p1,p2,p3,p4,p5⟩,hl'⟩ ⟨ak,ae,av⟩)
  have hrs:=Lib.hid (ku hs5 (b6:=(w.heap.size+1+1+1)) (b7:=(w.heap.size+1+1+1+1)) (by omega) (by omega) ⟨b',n',⟨r0,r1,r2,r3,r4,r5⟩,⟨p0,p1,p2,p3,p4,p5⟩,hl'⟩ ⟨ak,ae,av⟩)
  have hrS:=Lib.hid (hS5.bx (xd w5 (w.heap.size+1+1+1) (w.heap.size+1+1+1+1) (o:=o1) (HB.out _ (by omega)) (HB.out _ (by omega)) ⟨b',n',⟨r0,r1,r2,r3,r4,r5⟩,⟨p0,p1,p2,p3,p4,p5⟩,hl'⟩ ⟨ak,ae,av⟩))
  clear m3 m4 hS5 hs5;go_wp2_with fail;change bodyPost _ _ _ _ _ (zy w5 (w.heap.size+1+1+1) (w.heap.size+1+1+1+1) ⟨b',n',⟨r0,r1,r2,r3,r4,r5⟩,⟨p0,p1,p2,p3,p4,p5⟩,hl'⟩ ⟨ak,ae,av⟩);generalize zy w5 (w.heap.size+1+1+1) (w.heap.size+1+1+1+1) ⟨b',n',⟨r0,r1,r2,r3,r4,r5⟩,⟨p0,p1,p2,p3,p4,p5⟩,hl'⟩ ⟨ak,ae,av⟩=X at *;exact bodyPost_ret (qq _ _ 8 9 rfl rfl rfl hres.out.1 hres.out.2) rfl ⟨rfl,o1,hrS.out,HI.out,hrs.out⟩
theorem qim (hS:StIn w o y S) (hI:Inv S) (hb hn a0 a1 a2 a3 a4 a5 s0 s1 s2 s3 s4 s5:Int) (hl:Bool) (A B:Nat) (fi fn:Int) (ra rb:Nat)
   (hA:A<6) (hB:B<6) (hra:R6.get ⟨a0,a1,a2,a3,a4,a5⟩ A=ra) (hrb:R6.get ⟨a0,a1,a2,a3,a4,a5⟩ B=rb) (hn0:0≤hn∧hn≤4096) (hb0:0≤hb∧hb≤4096) :
  Calls Tryz.prog 154 #[ptr y.sb,.int .i64 i,.agg #[.int .i64 12,.int .i64 A,.int .i64 B,.int .i64 fi,.int .i64 fn],.agg #[.int .i64 hb,.int .i64 hn,.int .i64 a0,.int .i64 a1,.int .i64 a2,.int .i64 a3,.int .i64 a4,.int .i64 a5,.int .i64 s0,.int .i64 s1,.int .i64 s2,.int .i64 s3,.int .i64 s4,.int .i64 s5,.bool hl]] w fun e' w'=>e'=.returned (.tuple #[(ThV.ended (ThV.put ⟨hb,hn,⟨a0,a1,a2,a3,a4,a5⟩,⟨s0,s1,s2,s3,s4,s5⟩,hl⟩ A rb) 0).v,(ky 0 0).val])∧Left y S o w w':=by
 have hmf:∀ (fn:Fn) (first cap:Array Value) (w:World),(Instr.makeFunc fn first cap).run Tryz.prog w=.ok (.func fn first cap) w:=fun _ _ _ _=>rfl
 obtain⟨o1,ho1⟩:∃ o1,o1=ext o w.heap.size (y.l.id+1,0):=⟨_,rfl⟩;have h1:=hS.retag (o':=o1) fun b hb=>by rw[ho1];exact qj hb
 have hS0:Stp (qh y) o o1 w w:=by rw[ho1];exact (Stp.refl _ o w).ext _ _ (Nat.le_refl _)
 have hbx:∀ b,w.heap.size≤b→bxT y (o1 b):=fun b hb=>by rw[ho1];exact qp hb
 clear ho1 hS;obtain⟨W,hW⟩:∃ W:World,W=(((((w.alloc (.cells #[ptr y.sb] 24)).alloc (.cells #[.int .i64 12,.int .i64 A,.int .i64 B,.int .i64 fi,.int .i64 fn] 73)).alloc (.cells #[.int .i64 hb,.int .i64 hn,.int .i64 a0,.int .i64 a1,.int .i64 a2,.int .i64 a3,.int .i64 a4,.int .i64 a5,.int .i64 s0,.int .i64 s1,.int .i64 s2,.int .i64 s3,.int .i64 s4,.int .i64 s5,.bool hl] 58)).alloc (.cells #[.int .i64 0,.int .i64 0,.int .i64 0,.int .i64 0,.int .i64 0,.int .i64 0,.int .i64 0,.int .i64 0,.int .i64 0,.int .i64 0,.int .i64 0,.int .i64 0,.int .i64 0,.int .i64 0,.bool false] 58)).alloc (.cells #[.int .i64 0,.int .i64 0,.int .i64 0] 54)).alloc (.cells #[.func (.func 213) #[] #[ptr (w.heap.size+1+1)]] 295):=⟨_,rfl⟩;have hbW:Below w.heap.size w W:=by rw[hW];exact qa (qa (qa (qa (qa (qa (qc w) _) _) _) _) _) _
 have k0:Blk W w.heap.size #[ptr y.sb] 24:=by rw[hW];exact (((((Blk.new w _ _).alloc _).alloc _).alloc _).alloc _).alloc _
 have k1:Blk W (w.heap.size+1) #[.int .i64 12,.int .i64 A,.int .i64 B,.int .i64 fi,.int .i64 fn] 73:=by rw[hW];exact ((((Blk.new_at _ _ _ _ _ (by simp) rfl).alloc _).alloc _).alloc _).alloc _
 have k2:Blk W (w.heap.size+1+1) #[.int .i64 hb,.int .i64 hn,.int .i64 a0,.int .i64 a1,.int .i64 a2,.int .i64 a3,.int .i64 a4,.int .i64 a5,.int .i64 s0,.int .i64 s1,.int .i64 s2,.int .i64 s3,.int .i64 s4,.int .i64 s5,.bool hl] 58:=by rw[hW];exact (((Blk.new_at _ _ _ _ _ (by simp) rfl).alloc _).alloc _).alloc _
 have k3:Blk W (w.heap.size+1+1+1) #[.int .i64 0,.int .i64 0,.int .i64 0,.int .i64 0,.int .i64 0,.int .i64 0,.int .i64 0,.int .i64 0,.int .i64 0,.int .i64 0,.int .i64 0,.int .i64 0,.int .i64 0,.int .i64 0,.bool false] 58:=by rw[hW];exact ((Blk.new_at _ _ _ _ _ (by simp) rfl).alloc _).alloc _
 have k4:Blk W (w.heap.size+1+1+1+1) #[.int .i64 0,.int .i64 0,.int .i64 0] 54:=by rw[hW];exact (Blk.new_at _ _ _ _ _ (by simp) rfl).alloc _
 have k5:Blk W (w.heap.size+1+1+1+1+1) #[.func (.func 213) #[] #[ptr (w.heap.size+1+1)]] 295:=by rw[hW];exact Blk.new_at _ _ _ _ _ (by simp) rfl
 have hSW:=h1.below hbW;have hsW:Stp (qh y) o o1 w W:=hS0.trans (Stp.of_below hbW);have AI:(A:Int)<6:=by omega
 have BI:(B:Int)<6:=by omega
 have HB:=Lib.hid hbx;have HT:=Lib.hid (fun X (j7:Blk X (w.heap.size+1+1) (ThV.cells (ThV.put ⟨hb,hn,⟨a0,a1,a2,a3,a4,a5⟩,⟨s0,s1,s2,s3,s4,s5⟩,hl⟩ A rb)) 58)=>uv (ThV.put ⟨hb,hn,⟨a0,a1,a2,a3,a4,a5⟩,⟨s0,s1,s2,s3,s4,s5⟩,hl⟩ A rb) 0 0 hn0 hb0 X j7)
 obtain⟨H',hH'⟩:∃ H',H'=ThV.ended (ThV.put ⟨hb,hn,⟨a0,a1,a2,a3,a4,a5⟩,⟨s0,s1,s2,s3,s4,s5⟩,hl⟩ A rb) 0:=⟨_,rfl⟩;obtain⟨A',hA'⟩:∃ A',A'=ky 0 0:=⟨_,rfl⟩;rw[←hH',←hA']at HT ⊢;obtain⟨b',n',⟨r0,r1,r2,r3,r4,r5⟩,⟨p0,p1,p2,p3,p4,p5⟩,hl'⟩:=H';obtain⟨ak,ae,av⟩:=A';have HT:=Lib.hid (fun X j7=>show Calls Tryz.prog 213 #[.int .i64 0,.int .i64 0,ptr (w.heap.size+1+1)] X fun e' w'=>e'=.returned (.tuple #[.agg #[.int .i64 b',.int .i64 n',.int .i64 r0,.int .i64 r1,.int .i64 r2,.int .i64 r3,.int .i64 r4,.int .i64 r5,.int .i64 p0,.int .i64 p1,.int .i64 p2,.int .i64 p3,.int .i64 p4,.int .i64 p5,.bool hl'],.agg #[.int .i64 ak,.int .i64 ae,.int .i64 av]])∧Below X.heap.size X w' from HT.out X j7)
 have HI:=Lib.hid hI;clear hH' hA' hI hn0 hb0 h1 hS0 hbx;go_enter Tryz.func154,Tryz.ntmps154;go_upto_region 3 with fail;rw[←hW];clear hW;have cA:=jf (h:=⟨hb,hn,⟨a0,a1,a2,a3,a4,a5⟩,⟨s0,s1,s2,s3,s4,s5⟩,hl⟩) k2 hA;have cB:=jf (h:=⟨hb,hn,⟨a0,a1,a2,a3,a4,a5⟩,⟨s0,s1,s2,s3,s4,s5⟩,hl⟩) k2 hB;rw[hra]at cA;rw[hrb]at cB;have c1:=k1.cell;have l2:=k2.lt;go_quiet (fail);obtain⟨V,hV⟩:∃ V,V=W.drewN nq:=⟨_,rfl⟩;have hbV:Below W.heap.size W V:=by rw[hV];exact zh (qc _) _
 rw[←hV];clear hV cA cB c1 l2;replace k0:=k0.below hbV k0.lt;replace k1:=k1.below hbV k1.lt;replace k2:=k2.below hbV k2.lt;replace k3:=k3.below hbV k3.lt;replace k4:=k4.below hbV k4.lt;replace k5:=k5.below hbV k5.lt;replace hSW:=hSW.below hbV;replace hsW:=hsW.trans (Stp.of_below hbV);have c0:=k0.cell;have c1:=k1.cell;have c5:=k5.cell;have cR:=jf (h:=⟨hb,hn,⟨a0,a1,a2,a3,a4,a5⟩,⟨s0,s1,s2,s3,s4,s5⟩,hl⟩) k2 hA;have z2:=k2.free;have l2:=k2.lt;have i5:=k5.set_other (a:=⟨(w.heap.size+1+1),2+A,none⟩) (by show _≠(w.heap.size+1+1);omega) (.int .i64 rb)
 have ci5:(V.setCell ⟨(w.heap.size+1+1),2+A,none⟩ (.int .i64 rb)).cell? ⟨(w.heap.size+1+1+1+1+1),0,none⟩=_:=i5.cell 0;go_wp2_with fail;obtain⟨V2,hV2⟩:∃ V2,V2=(V.setCell ⟨(w.heap.size+1+1),2+A,none⟩ (.int .i64 rb)):=⟨_,rfl⟩;rw[←hV2];have i2:Blk V2 (w.heap.size+1+1) (ThV.cells (ThV.put ⟨hb,hn,⟨a0,a1,a2,a3,a4,a5⟩,⟨s0,s1,s2,s3,s4,s5⟩,hl⟩ A rb)) 58:=by rw[hV2];exact qbh (h:=⟨hb,hn,⟨a0,a1,a2,a3,a4,a5⟩,⟨s0,s1,s2,s3,s4,s5⟩,hl⟩) k2 hA _
 have i3:Blk V2 (w.heap.size+1+1+1) #[.int .i64 0,.int .i64 0,.int .i64 0,.int .i64 0,.int .i64 0,.int .i64 0,.int .i64 0,.int .i64 0,.int .i64 0,.int .i64 0,.int .i64 0,.int .i64 0,.int .i64 0,.int .i64 0,.bool false] 58:=by rw[hV2];exact k3.set_other (a:=⟨(w.heap.size+1+1),2+A,none⟩) (by show _≠(w.heap.size+1+1);omega) (.int .i64 rb)
 have i4:Blk V2 (w.heap.size+1+1+1+1) #[.int .i64 0,.int .i64 0,.int .i64 0] 54:=by rw[hV2];exact k4.set_other (a:=⟨(w.heap.size+1+1),2+A,none⟩) (by show _≠(w.heap.size+1+1);omega) (.int .i64 rb)
 have hw:Wr (w.heap.size+1+1) V V2:=by rw[hV2];exact Wr.set _ _ _ _
 have t2:bxT y (o1 (w.heap.size+1+1)):=HB.out _ (by omega)
 have hS2:=hSW.bx (Stp.of_wr hw t2);have hs2:=hsW.wr_new hw (by omega)
 clear hV2;refine (HT.out _ i2).mono ?_
 rintro e5 w5 ⟨rfl,hb5⟩
 have m3:=i3.below hb5 i3.lt;have m4:=i4.below hb5 i4.lt;have hS5:=hS2.below hb5;have hs5:=hs2.trans (Stp.of_below hb5);clear c0 c1 c5 HT i2 i3 i4 hw hS2 hs2 hb5 k0 k1 k2 k3 k4 k5 hSW hsW i5 ci5 cR z2 l2;have c3:=m3.cell;have z3:=m3.free;have l3:=m3.lt;have c4:=m4.cell;have z4:=m4.free;have l4:=m4.lt;have hres:=Lib.hid (zr m3 m4 (by omega) ⟨b',n',⟨r0,r1,r2,r3,r4,r5⟩,⟨p0,p1,p2,p3,p4,p5⟩,hl'⟩ ⟨ak,ae,av⟩)
 have hrs:=Lib.hid (ku hs5 (b6:=(w.heap.size+1+1+1)) (b7:=(w.heap.size+1+1+1+1)) (by omega) (by omega) ⟨b',n',⟨r0,r1,r2,r3,r4,r5⟩,⟨p0,p1,p2,p3,p4,p5⟩,hl'⟩ ⟨ak,ae,av⟩)
 have hrS:=Lib.hid (hS5.bx (xd w5 (w.heap.size+1+1+1) (w.heap.size+1+1+1+1) (o:=o1) (HB.out _ (by omega)) (HB.out _ (by omega)) ⟨b',n',⟨r0,r1,r2,r3,r4,r5⟩,⟨p0,p1,p2,p3,p4,p5⟩,hl'⟩ ⟨ak,ae,av⟩))
 clear m3 m4 hS5 hs5;go_wp2_with fail;change bodyPost _ _ _ _ _ (zy w5 (w.heap.size+1+1+1) (w.heap.size+1+1+1+1) ⟨b',n',⟨r0,r1,r2,r3,r4,r5⟩,⟨p0,p1,p2,p3,p4,p5⟩,hl'⟩ ⟨ak,ae,av⟩);generalize zy w5 (w.heap.size+1+1+1) (w.heap.size+1+1+1+1) ⟨b',n',⟨r0,r1,r2,r3,r4,r5⟩,⟨p0,p1,p2,p3,p4,p5⟩,hl'⟩ ⟨ak,ae,av⟩=X at *;exact bodyPost_ret (qq _ _ 8 9 rfl rfl rfl hres.out.1 hres.out.2) rfl ⟨rfl,o1,hrS.out,HI.out,hrs.out⟩
theorem qmo (hS:StIn w o y S) (hI:Inv S) (hb hn a0 a1 a2 a3 a4 a5 s0 s1 s2 s3 s4 s5:Int) (hl:Bool) (A B:Nat) (fi fn:Int) (ra rb:Nat)
   (hA:A<6) (hB:B<6) (hra:R6.get ⟨a0,a1,a2,a3,a4,a5⟩ A=ra) (hrb:R6.get ⟨a0,a1,a2,a3,a4,a5⟩ B=rb) (hn0:0≤hn∧hn≤4096) (hb0:0≤hb∧hb≤4096) :
  Calls Tryz.prog 154 #[ptr y.sb,.int .i64 i,.agg #[.int .i64 13,.int .i64 A,.int .i64 B,.int .i64 fi,.int .i64 fn],.agg #[.int .i64 hb,.int .i64 hn,.int .i64 a0,.int .i64 a1,.int .i64 a2,.int .i64 a3,.int .i64 a4,.int .i64 a5,.int .i64 s0,.int .i64 s1,.int .i64 s2,.int .i64 s3,.int .i64 s4,.int .i64 s5,.bool hl]] w fun e' w'=>e'=.returned (.tuple #[(ThV.ended (ThV.put ⟨hb,hn,⟨a0,a1,a2,a3,a4,a5⟩,⟨s0,s1,s2,s3,s4,s5⟩,hl⟩ A 0) 0).v,(ky 0 0).val])∧Left y S o w w':=by
 have hmf:∀ (fn:Fn) (first cap:Array Value) (w:World),(Instr.makeFunc fn first cap).run Tryz.prog w=.ok (.func fn first cap) w:=fun _ _ _ _=>rfl
 obtain⟨o1,ho1⟩:∃ o1,o1=ext o w.heap.size (y.l.id+1,0):=⟨_,rfl⟩;have h1:=hS.retag (o':=o1) fun b hb=>by rw[ho1];exact qj hb
 have hS0:Stp (qh y) o o1 w w:=by rw[ho1];exact (Stp.refl _ o w).ext _ _ (Nat.le_refl _)
 have hbx:∀ b,w.heap.size≤b→bxT y (o1 b):=fun b hb=>by rw[ho1];exact qp hb
 clear ho1 hS;obtain⟨W,hW⟩:∃ W:World,W=(((((w.alloc (.cells #[ptr y.sb] 24)).alloc (.cells #[.int .i64 13,.int .i64 A,.int .i64 B,.int .i64 fi,.int .i64 fn] 73)).alloc (.cells #[.int .i64 hb,.int .i64 hn,.int .i64 a0,.int .i64 a1,.int .i64 a2,.int .i64 a3,.int .i64 a4,.int .i64 a5,.int .i64 s0,.int .i64 s1,.int .i64 s2,.int .i64 s3,.int .i64 s4,.int .i64 s5,.bool hl] 58)).alloc (.cells #[.int .i64 0,.int .i64 0,.int .i64 0,.int .i64 0,.int .i64 0,.int .i64 0,.int .i64 0,.int .i64 0,.int .i64 0,.int .i64 0,.int .i64 0,.int .i64 0,.int .i64 0,.int .i64 0,.bool false] 58)).alloc (.cells #[.int .i64 0,.int .i64 0,.int .i64 0] 54)).alloc (.cells #[.func (.func 213) #[] #[ptr (w.heap.size+1+1)]] 295):=⟨_,rfl⟩;have hbW:Below w.heap.size w W:=by rw[hW];exact qa (qa (qa (qa (qa (qa (qc w) _) _) _) _) _) _
 have k0:Blk W w.heap.size #[ptr y.sb] 24:=by rw[hW];exact (((((Blk.new w _ _).alloc _).alloc _).alloc _).alloc _).alloc _
 have k1:Blk W (w.heap.size+1) #[.int .i64 13,.int .i64 A,.int .i64 B,.int .i64 fi,.int .i64 fn] 73:=by rw[hW];exact ((((Blk.new_at _ _ _ _ _ (by simp) rfl).alloc _).alloc _).alloc _).alloc _
 have k2:Blk W (w.heap.size+1+1) #[.int .i64 hb,.int .i64 hn,.int .i64 a0,.int .i64 a1,.int .i64 a2,.int .i64 a3,.int .i64 a4,.int .i64 a5,.int .i64 s0,.int .i64 s1,.int .i64 s2,.int .i64 s3,.int .i64 s4,.int .i64 s5,.bool hl] 58:=by rw[hW];exact (((Blk.new_at _ _ _ _ _ (by simp) rfl).alloc _).alloc _).alloc _
 have k3:Blk W (w.heap.size+1+1+1) #[.int .i64 0,.int .i64 0,.int .i64 0,.int .i64 0,.int .i64 0,.int .i64 0,.int .i64 0,.int .i64 0,.int .i64 0,.int .i64 0,.int .i64 0,.int .i64 0,.int .i64 0,.int .i64 0,.bool false] 58:=by rw[hW];exact ((Blk.new_at _ _ _ _ _ (by simp) rfl).alloc _).alloc _
 have k4:Blk W (w.heap.size+1+1+1+1) #[.int .i64 0,.int .i64 0,.int .i64 0] 54:=by rw[hW];exact (Blk.new_at _ _ _ _ _ (by simp) rfl).alloc _
 have k5:Blk W (w.heap.size+1+1+1+1+1) #[.func (.func 213) #[] #[ptr (w.heap.size+1+1)]] 295:=by rw[hW];exact Blk.new_at _ _ _ _ _ (by simp) rfl
 have hSW:=h1.below hbW;have hsW:Stp (qh y) o o1 w W:=hS0.trans (Stp.of_below hbW);have AI:(A:Int)<6:=by omega
 have BI:(B:Int)<6:=by omega
 have HB:=Lib.hid hbx;have HT:=Lib.hid (fun X (j7:Blk X (w.heap.size+1+1) (ThV.cells (ThV.put ⟨hb,hn,⟨a0,a1,a2,a3,a4,a5⟩,⟨s0,s1,s2,s3,s4,s5⟩,hl⟩ A 0)) 58)=>uv (ThV.put ⟨hb,hn,⟨a0,a1,a2,a3,a4,a5⟩,⟨s0,s1,s2,s3,s4,s5⟩,hl⟩ A 0) 0 0 hn0 hb0 X j7)
 obtain⟨H',hH'⟩:∃ H',H'=ThV.ended (ThV.put ⟨hb,hn,⟨a0,a1,a2,a3,a4,a5⟩,⟨s0,s1,s2,s3,s4,s5⟩,hl⟩ A 0) 0:=⟨_,rfl⟩;obtain⟨A',hA'⟩:∃ A',A'=ky 0 0:=⟨_,rfl⟩;rw[←hH',←hA']at HT ⊢;obtain⟨b',n',⟨r0,r1,r2,r3,r4,r5⟩,⟨p0,p1,p2,p3,p4,p5⟩,hl'⟩:=H';obtain⟨ak,ae,av⟩:=A';have HT:=Lib.hid (fun X j7=>show Calls Tryz.prog 213 #[.int .i64 0,.int .i64 0,ptr (w.heap.size+1+1)] X fun e' w'=>e'=.returned (.tuple #[.agg #[.int .i64 b',.int .i64 n',.int .i64 r0,.int .i64 r1,.int .i64 r2,.int .i64 r3,.int .i64 r4,.int .i64 r5,.int .i64 p0,.int .i64 p1,.int .i64 p2,.int .i64 p3,.int .i64 p4,.int .i64 p5,.bool hl'],.agg #[.int .i64 ak,.int .i64 ae,.int .i64 av]])∧Below X.heap.size X w' from HT.out X j7)
 have HI:=Lib.hid hI;clear hH' hA' hI hn0 hb0 h1 hS0 hbx;go_enter Tryz.func154,Tryz.ntmps154;go_upto_region 3 with fail;rw[←hW];clear hW;have cA:=jf (h:=⟨hb,hn,⟨a0,a1,a2,a3,a4,a5⟩,⟨s0,s1,s2,s3,s4,s5⟩,hl⟩) k2 hA;have cB:=jf (h:=⟨hb,hn,⟨a0,a1,a2,a3,a4,a5⟩,⟨s0,s1,s2,s3,s4,s5⟩,hl⟩) k2 hB;rw[hra]at cA;rw[hrb]at cB;have c1:=k1.cell;have l2:=k2.lt;go_quiet (fail);obtain⟨V,hV⟩:∃ V,V=W.drewN nq:=⟨_,rfl⟩;have hbV:Below W.heap.size W V:=by rw[hV];exact zh (qc _) _
 rw[←hV];clear hV cA cB c1 l2;replace k0:=k0.below hbV k0.lt;replace k1:=k1.below hbV k1.lt;replace k2:=k2.below hbV k2.lt;replace k3:=k3.below hbV k3.lt;replace k4:=k4.below hbV k4.lt;replace k5:=k5.below hbV k5.lt;replace hSW:=hSW.below hbV;replace hsW:=hsW.trans (Stp.of_below hbV);have c0:=k0.cell;have c1:=k1.cell;have c5:=k5.cell;have cR:=jf (h:=⟨hb,hn,⟨a0,a1,a2,a3,a4,a5⟩,⟨s0,s1,s2,s3,s4,s5⟩,hl⟩) k2 hA;have z2:=k2.free;have l2:=k2.lt;have i5:=k5.set_other (a:=⟨(w.heap.size+1+1),2+A,none⟩) (by show _≠(w.heap.size+1+1);omega) (.int .i64 0)
 have ci5:(V.setCell ⟨(w.heap.size+1+1),2+A,none⟩ (.int .i64 0)).cell? ⟨(w.heap.size+1+1+1+1+1),0,none⟩=_:=i5.cell 0;go_wp2_with fail;obtain⟨V2,hV2⟩:∃ V2,V2=(V.setCell ⟨(w.heap.size+1+1),2+A,none⟩ (.int .i64 0)):=⟨_,rfl⟩;rw[←hV2];have i2:Blk V2 (w.heap.size+1+1) (ThV.cells (ThV.put ⟨hb,hn,⟨a0,a1,a2,a3,a4,a5⟩,⟨s0,s1,s2,s3,s4,s5⟩,hl⟩ A 0)) 58:=by rw[hV2];exact qbh (h:=⟨hb,hn,⟨a0,a1,a2,a3,a4,a5⟩,⟨s0,s1,s2,s3,s4,s5⟩,hl⟩) k2 hA _
 have i3:Blk V2 (w.heap.size+1+1+1) #[.int .i64 0,.int .i64 0,.int .i64 0,.int .i64 0,.int .i64 0,.int .i64 0,.int .i64 0,.int .i64 0,.int .i64 0,.int .i64 0,.int .i64 0,.int .i64 0,.int .i64 0,.int .i64 0,.bool false] 58:=by rw[hV2];exact k3.set_other (a:=⟨(w.heap.size+1+1),2+A,none⟩) (by show _≠(w.heap.size+1+1);omega) (.int .i64 0)
 have i4:Blk V2 (w.heap.size+1+1+1+1) #[.int .i64 0,.int .i64 0,.int .i64 0] 54:=by rw[hV2];exact k4.set_other (a:=⟨(w.heap.size+1+1),2+A,none⟩) (by show _≠(w.heap.size+1+1);omega) (.int .i64 0)
 have hw:Wr (w.heap.size+1+1) V V2:=by rw[hV2];exact Wr.set _ _ _ _
 have t2:bxT y (o1 (w.heap.size+1+1)):=HB.out _ (by omega)
 have hS2:=hSW.bx (Stp.of_wr hw t2);have hs2:=hsW.wr_new hw (by omega)
 clear hV2;refine (HT.out _ i2).mono ?_
 rintro e5 w5 ⟨rfl,hb5⟩
 have m3:=i3.below hb5 i3.lt;have m4:=i4.below hb5 i4.lt;have hS5:=hS2.below hb5;have hs5:=hs2.trans (Stp.of_below hb5);clear c0 c1 c5 HT i2 i3 i4 hw hS2 hs2 hb5 k0 k1 k2 k3 k4 k5 hSW hsW i5 ci5 cR z2 l2;have c3:=m3.cell;have z3:=m3.free;have l3:=m3.lt;have c4:=m4.cell;have z4:=m4.free;have l4:=m4.lt;have hres:=Lib.hid (zr m3 m4 (by omega) ⟨b',n',⟨r0,r1,r2,r3,r4,r5⟩,⟨p0,p1,p2,p3,p4,p5⟩,hl'⟩ ⟨ak,ae,av⟩)
 have hrs:=Lib.hid (ku hs5 (b6:=(w.heap.size+1+1+1)) (b7:=(w.heap.size+1+1+1+1)) (by omega) (by omega) ⟨b',n',⟨r0,r1,r2,r3,r4,r5⟩,⟨p0,p1,p2,p3,p4,p5⟩,hl'⟩ ⟨ak,ae,av⟩)
 have hrS:=Lib.hid (hS5.bx (xd w5 (w.heap.size+1+1+1) (w.heap.size+1+1+1+1) (o:=o1) (HB.out _ (by omega)) (HB.out _ (by omega)) ⟨b',n',⟨r0,r1,r2,r3,r4,r5⟩,⟨p0,p1,p2,p3,p4,p5⟩,hl'⟩ ⟨ak,ae,av⟩))
 clear m3 m4 hS5 hs5;go_wp2_with fail;change bodyPost _ _ _ _ _ (zy w5 (w.heap.size+1+1+1) (w.heap.size+1+1+1+1) ⟨b',n',⟨r0,r1,r2,r3,r4,r5⟩,⟨p0,p1,p2,p3,p4,p5⟩,hl'⟩ ⟨ak,ae,av⟩);generalize zy w5 (w.heap.size+1+1+1) (w.heap.size+1+1+1+1) ⟨b',n',⟨r0,r1,r2,r3,r4,r5⟩,⟨p0,p1,p2,p3,p4,p5⟩,hl'⟩ ⟨ak,ae,av⟩=X at *;exact bodyPost_ret (qq _ _ 8 9 rfl rfl rfl hres.out.1 hres.out.2) rfl ⟨rfl,o1,hrS.out,HI.out,hrs.out⟩
end
end Go.Proofs.YteehgedabdchcaaGreat
namespace Go.Proofs.YteehgedabdchcaaGreat
open Go.RowKit Hp
open Go.MuLone
attribute [local go_sem ↓] Go.wp_at_zero Go.wp_at_succ
theorem full_any (b n cp:Nat) (pa:Option Addr) (w:World) (h0:w.cell? ⟨b,3,none⟩=some (.int .i32 0)) (h2:w.cell? ⟨b,5,none⟩=some (.slice pa n cp)) (f0:w.frozen? ⟨b,3,none⟩=false) :
  Calls Tryz.prog 87 #[.pointer (some ⟨b,3,none⟩)] w fun e w'=>e=.returned (.bool (decide (2000≤n)))∧w'=(w.setCell ⟨b,3,none⟩ (.int .i32 1)).setCell ⟨b,3,none⟩ (.int .i32 0):=by
 go_enter_defers Tryz.func87,Tryz.ntmps87;go_wp2_with (go_at_call 148;refine (lock_free Tryz.muLib ⟨b,3,none⟩ _ h0 f0).mono ?_;rintro e w' ⟨rfl,rfl⟩);refine leaves_cons (f:=149) (args:=#[.pointer (some ⟨b,3,none⟩)]) (by simp) (by simp[go_sem]) ?_
 refine (unlock_deferred Tryz.muLib ⟨b,3,none⟩ .returning _ ?_ ?_).mono ?_
 ·exact World.cell?_setCell_same w ⟨b,3,none⟩ (.int .i32 1) h0
 ·simp[f0]
 rintro e u' w'' ⟨rfl,rfl,rfl⟩
 exact⟨_,results_tmp rfl _ _ _,by simp;omega,rfl⟩
theorem qg1 {w:World}{o:Own}{y:SLay}{S:Stt}{b:Nat}(h:StIn w o y S)(hk:S.ok)(hb:w.cell? ⟨b,0,none⟩=some (ptr y.sb))(p:Nat) :
  Calls Tryz.prog 94 #[ptr b,.int .i64 p] w fun e w'=>e=.returned (.int .i64 (S.ser p))∧Below w.heap.size w w':=by
 unfold Stt.ser;by_cases h0:p=0
 ·subst h0
  rw[if_pos rfl];clear h hk;go_enter Tryz.func94,Tryz.ntmps94;go_wp2_with fail;go_ret;exact⟨rfl,qc w⟩
 ·rw[if_neg h0]
  have HS:=Lib.hid (qc0 h hk p);have hpb:((p:Int)==0)=false:=by rw[beq_eq_false_iff_ne];omega
  generalize S.H.serR p=r at *;clear h hk h0;go_enter Tryz.func94,Tryz.ntmps94;go_wp2_with fail;refine HS.out.mono ?_
  rintro e w1 ⟨rfl,hb1⟩
  go_wp2_with fail;go_ret;exact⟨rfl,hb1⟩
theorem qhk {w:World}{o:Own}{y:SLay}{S:Stt}{b:Nat}(h:StIn w o y S)(_hk:S.ok)(hb:w.cell? ⟨b,0,none⟩=some (ptr y.sb)) :
  Calls Tryz.prog 38 #[ptr b] w fun e w'=>e=.returned (.int .i64 S.now)∧w=w':=by
 have HS:=Lib.hid (now_in h);clear h;go_enter Tryz.func38,Tryz.ntmps38;go_wp2_with fail;refine HS.out.mono ?_
 rintro e w1 ⟨rfl,rfl⟩
 go_wp2_with fail;go_ret;exact⟨rfl,rfl⟩
end Go.Proofs.YteehgedabdchcaaGreat
namespace Go.Proofs.YteehgedabdchcaaGreat
open Go.RowKit Hp
attribute [local go_sem ↓] Go.wp_at_zero Go.wp_at_succ
section
variable {w w' : World} {o o' : Own} {y : SLay} {S : Stt} {i : Nat}
theorem Inv.came0 (h:Inv S):Inv { S with came:=[] }:=⟨h.H,h.n2,h.lv,h.t1,h.t8,h.lg,h.st,h.ve,h.ho,h.sc,h.so,h.qu,h.nx,Nat.zero_le _,h.se,h.ph⟩
theorem Inv.lost0 (h:Inv S):Inv { S with lost:=[] }:=⟨h.H,h.n2,h.lv,h.t1,h.t8,h.lg,h.st,h.ve,h.ho,h.sc,h.so,h.qu,h.nx,h.cm,h.se,h.ph⟩
theorem qlw (h:StIn w o y S) :
  Calls Tryz.prog 90 #[ptr y.sb] w fun e w'=>∃ v,e=.returned v∧Row w' o (y.l.id,15) 3 1 v S.came.length (S.came.map nv)∧StIn w' o y { S with came:=[] }∧Stp (fun t=>t=(y.l.id,11)) o o w w':=by
 obtain⟨vq,vl,vm,jb,hrw⟩:=h.blk;have hfin:=Lib.hid (show Row (w.setCell ⟨y.sb,9,none⟩ (.slice none 0 0)) o (y.l.id,15) 3 1 vm S.came.length (S.came.map nv)∧StIn (w.setCell ⟨y.sb,9,none⟩ (.slice none 0 0)) o y { S with came:=[] }∧Stp (fun t=>t=(y.l.id,11)) o o w (w.setCell ⟨y.sb,9,none⟩ (.slice none 0 0)) from by
  have k:Stp (fun t=>t=(y.l.id,11)) o o w (w.setCell ⟨y.sb,9,none⟩ (.slice none 0 0)):=(Stp.refl _ o w).setCell (by show o y.sb=_;exact h.os) _
  exact⟨hrw.m.stp k (by simp),h.own (S':={ S with came:=[] }) rfl rfl rfl rfl rfl (jb.set 9 (.slice none 0 0)) ⟨hrw.q.stp k (by simp),hrw.l.stp k (by simp),Row.nil _ _ _ _ _⟩ (k.mono (by rintro _ rfl;exact⟨rfl,.inl rfl⟩)),k⟩)
 obtain⟨pa,cp,rfl⟩:=hrw.m.slc;unfold qk at jb;have c:=jb.cell;have z:=jb.free;have s:=jb.lt;clear h hrw;go_enter Tryz.func90,Tryz.ntmps90;go_wp2_with fail;go_ret;exact⟨_,rfl,hfin.out⟩
theorem qm0 (h:StIn w o y S) :
  Calls Tryz.prog 92 #[ptr y.sb] w fun e w'=>∃ v,e=.returned v∧Row w' o (y.l.id,14) 3 1 v S.lost.length (S.lost.map nv)∧StIn w' o y { S with lost:=[] }∧Stp (fun t=>t=(y.l.id,11)) o o w w':=by
 obtain⟨vq,vl,vm,jb,hrw⟩:=h.blk;have hfin:=Lib.hid (show Row (w.setCell ⟨y.sb,8,none⟩ (.slice none 0 0)) o (y.l.id,14) 3 1 vl S.lost.length (S.lost.map nv)∧StIn (w.setCell ⟨y.sb,8,none⟩ (.slice none 0 0)) o y { S with lost:=[] }∧Stp (fun t=>t=(y.l.id,11)) o o w (w.setCell ⟨y.sb,8,none⟩ (.slice none 0 0)) from by
  have k:Stp (fun t=>t=(y.l.id,11)) o o w (w.setCell ⟨y.sb,8,none⟩ (.slice none 0 0)):=(Stp.refl _ o w).setCell (by show o y.sb=_;exact h.os) _
  exact⟨hrw.l.stp k (by simp),h.own (S':={ S with lost:=[] }) rfl rfl rfl rfl rfl (jb.set 8 (.slice none 0 0)) ⟨hrw.q.stp k (by simp),Row.nil _ _ _ _ _,hrw.m.stp k (by simp)⟩ (k.mono (by rintro _ rfl;exact⟨rfl,.inl rfl⟩)),k⟩)
 obtain⟨pa,cp,rfl⟩:=hrw.l.slc;unfold qk at jb;have c:=jb.cell;have z:=jb.free;have s:=jb.lt;clear h hrw;go_enter Tryz.func92,Tryz.ntmps92;go_wp2_with fail;go_ret;exact⟨_,rfl,hfin.out⟩
end
end Go.Proofs.YteehgedabdchcaaGreat
