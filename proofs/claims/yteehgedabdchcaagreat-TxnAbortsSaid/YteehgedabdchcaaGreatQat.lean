import Derived.Test.YteehgedabdchcaaGreatQap
import Derived.Test.YteehgedabdchcaaGreatQas
set_option linter.all false
set_option maxRecDepth 1000000
set_option maxHeartbeats 16000000
namespace Go.Proofs.YteehgedabdchcaaGreat
open Go.RowKit Go.ChangeShapes Go.WideShapes Go.Deep Go.ChangeAt
structure OpV where
 k:Int
 t:Int
 a:Int
 b:Int
 i:Int
 n:Int
 s0:Int
 s1:Int
 s2:Int
instance : Inhabited OpV := ⟨⟨0, 0, 0, 0, 0, 0, 0, 0, 0⟩⟩
def I64 (x:Int):Prop:=-9223372036854775808≤x∧x≤9223372036854775807
def OpV.c (d:OpV):Nat→Int
 | 0=>d.k|1=>d.t|2=>d.a|3=>d.b|4=>d.i|5=>d.n|6=>d.s0|7=>d.s1|_=>d.s2
def OpV.ok (d:OpV):Prop:=∀ j,I64 (d.c j)
def OpsAt (w:World)(v:Value)(l:List OpV):Prop:=
 l.length≤maxLen∧∃ a c,v=.slice a l.length c∧(l=[]∨∃ b off,a=some ⟨b,off,none⟩∧∀ (i:Nat)(d:OpV),l[i]?=some d→∀ j,j<9→w.cell? ⟨b,off+i*9+j,none⟩=some (.int .i64 (d.c j)))
theorem OpsAt.below {w w':World}{v:Value}{l:List OpV}(h:OpsAt w v l)(k:Below w.heap.size w w'):OpsAt w' v l:=by
 obtain⟨hl,a,c,rfl,h0⟩:=h;refine⟨hl,a,c,rfl,h0.imp id ?_⟩
 rintro⟨b,off,rfl,h⟩
 refine⟨b,off,rfl,fun i d hd j hj=>?_⟩
 have hc:=h i d hd j hj;exact (k.cell (p:=⟨b,off+i*9+j,none⟩) (cell_in hc)).trans hc
theorem addr_plain {w:World}{a:Addr}{v:Value}(h:w.cell? a=some v):a=⟨a.block,a.off,none⟩:=by
 obtain⟨b,o,s⟩:=a;unfold World.cell? at h;split at h
 ·cases s with
  | none=>rfl
  | some x=>simp at h
 ·cases h
theorem add_plain (b o j:Nat):(⟨b,o,none⟩:Addr).add j=⟨b,o+j,none⟩:=by unfold Addr.add;split<;>simp_all
theorem drop_one {cs:List Value}{j:Nat}(h:j<cs.length):(cs.drop j).take 1=[cs[j]]:=by
 rw[List.drop_eq_getElem_cons h];rfl
theorem open_ops {H:Type}{enc:TypeId×Value→H}{w:World}{base:Nat}{spare:Nat→Bool}{held:Bool}{v:Value}{d:DataW H}{p:List MemPlace}(h:DataW.Trod enc Tryz.prog w base spare held 22 v d p)
  {r:Reach}{b0:Nat}(hv:Value.okWide Tryz.prog w r b0 22 v) :
  ∃ l,OpsAt w v l∧∀ d ∈ l,d.ok:=by
 obtain⟨fuel,h⟩:=h;obtain⟨a,n,c,rfl⟩:=okWide_slice Tryz.underlying22 hv;have h':DataW.trod enc Tryz.prog w base spare held fuel 22 [.slice a n c]=some (d,p):=h;have hC:Tryz.prog.cellsOf 37=9:=by kernel_rfl
 have hI:Tryz.prog.cellsOf 3=1:=by kernel_rfl
 have hA:Tryz.prog.cellsOf 35=3:=by kernel_rfl
 rcases open_slice Tryz.underlying22 h' with⟨hcs,_⟩|⟨a,len,cap,m,fu,D,Pl,hcs,_,hl,hm,hmm,_,hx⟩
 ·simp only[List.cons.injEq,and_true]at hcs
  rw[hcs];exact⟨[],⟨by simp,none,0,rfl,.inl rfl⟩,fun d hd=>by cases hd⟩
 simp only[List.cons.injEq,and_true]at hcs;rw[hcs];have hle:len≤m:=by rw[hmm];split<;>omega
 have key:∀ k,k<len→∃ d:OpV,(∀ r,r<9→w.cell? (a.add (k*9+r))=some (.int .i64 (d.c r)))∧d.ok:=by
  intro k hk;obtain⟨cs',hc,ht⟩:=hx k (by omega)
  rw[hC]at hc;obtain⟨_,hcl,hat⟩:=World.cells?_some hc;obtain⟨ys,n',_,_,_,_,hf⟩:=DataW.trod_struct Tryz.underlying37 ht
  have hint:∀ (n:Nat)(j:Nat)(y:DataW H×List MemPlace),j<9→DataW.trod enc Tryz.prog w base spare held n 3 ((cs'.drop j).take 1)=some y→∃ z,w.cell? (a.add (k*9+j))=some (.int .i64 z)∧I64 z:=by
   intro n j y hj hy;have hjl:j<cs'.length:=by omega
   rw[drop_one hjl]at hy;obtain⟨z,q,_,hw⟩:=DataW.trod_int Tryz.underlying3 hy;simp only[List.cons.injEq,and_true]at q;refine⟨z,?_,int_bd hw⟩;have hcell:=hat j hj;rw[List.getElem?_eq_getElem hjl,q]at hcell;rw[←Go.Deep.add_add,hcell]
  have hys:ys.length=7:=by assumption
  have g:∀ j,j<7→∃ y,ys[j]?=some y:=fun j hj=>⟨_,List.getElem?_eq_getElem (by omega)⟩
  obtain⟨y0,e0⟩:=g 0 (by omega)
  obtain⟨y1,e1⟩:=g 1 (by omega)
  obtain⟨y2,e2⟩:=g 2 (by omega)
  obtain⟨y3,e3⟩:=g 3 (by omega)
  obtain⟨y4,e4⟩:=g 4 (by omega)
  obtain⟨y5,e5⟩:=g 5 (by omega)
  obtain⟨y6,e6⟩:=g 6 (by omega)
  have h0:DataW.trod enc Tryz.prog w base spare held n' 3 ((cs'.drop 0).take (Tryz.prog.cellsOf 3))=some y0:=(hf 0 _ rfl).trans e0;have h1:DataW.trod enc Tryz.prog w base spare held n' 3 ((cs'.drop 1).take (Tryz.prog.cellsOf 3))=some y1:=(hf 1 _ rfl).trans e1;have h2:DataW.trod enc Tryz.prog w base spare held n' 3 ((cs'.drop 2).take (Tryz.prog.cellsOf 3))=some y2:=(hf 2 _ rfl).trans e2;have h3:DataW.trod enc Tryz.prog w base spare held n' 3 ((cs'.drop 3).take (Tryz.prog.cellsOf 3))=some y3:=(hf 3 _ rfl).trans e3;have h4:DataW.trod enc Tryz.prog w base spare held n' 3 ((cs'.drop 4).take (Tryz.prog.cellsOf 3))=some y4:=(hf 4 _ rfl).trans e4;have h5:DataW.trod enc Tryz.prog w base spare held n' 3 ((cs'.drop 5).take (Tryz.prog.cellsOf 3))=some y5:=(hf 5 _ rfl).trans e5;have h6:DataW.trod enc Tryz.prog w base spare held n' 35 ((cs'.drop 6).take (Tryz.prog.cellsOf 35))=some y6:=(hf 6 _ rfl).trans e6;rw[hI]at h0 h1 h2 h3 h4 h5;rw[hA]at h6;obtain⟨zs,n2,_,_,_,hzl,hz⟩:=DataW.trod_array Tryz.underlying35 h6;simp only[hI,Nat.mul_one]at hz
  have hsub:∀ r,r<3→((cs'.drop 6 |>.take 3).drop r).take 1=(cs'.drop (6+r)).take 1:=by
   intro r hr;rw[List.drop_take,List.drop_drop,List.take_take,show min 1 (3-r)=1 from by omega]
  have gz:∀ r,r<3→∃ z,w.cell? (a.add (k*9+(6+r)))=some (.int .i64 z)∧I64 z:=by
   intro r hr;have:=hz r hr;rw[hsub r hr,List.getElem?_eq_getElem (by omega)]at this
   exact hint _ _ _ (by omega) this
  obtain⟨x0,c0,w0⟩:=hint _ 0 _ (by omega) h0
  obtain⟨x1,c1,w1⟩:=hint _ 1 _ (by omega) h1
  obtain⟨x2,c2,w2⟩:=hint _ 2 _ (by omega) h2
  obtain⟨x3,c3,w3⟩:=hint _ 3 _ (by omega) h3
  obtain⟨x4,c4,w4⟩:=hint _ 4 _ (by omega) h4
  obtain⟨x5,c5,w5⟩:=hint _ 5 _ (by omega) h5
  obtain⟨x6,c6,w6⟩:=gz 0 (by omega)
  obtain⟨x7,c7,w7⟩:=gz 1 (by omega)
  obtain⟨x8,c8,w8⟩:=gz 2 (by omega)
  refine⟨⟨x0,x1,x2,x3,x4,x5,x6,x7,x8⟩,fun r hr=>?_,fun j=>?_⟩
  ·obtain rfl|rfl|rfl|rfl|rfl|rfl|rfl|rfl|rfl:r=0∨r=1∨r=2∨r=3∨r=4∨r=5∨r=6∨r=7∨r=8:=by omega
   all_goals assumption
  ·rcases j with _|_|_|_|_|_|_|_|_<;>assumption
 obtain⟨F,hF⟩:=choose_lt key;refine⟨(List.range len).map F,⟨by simp;omega,some a,cap,by rw[List.length_map,List.length_range],?_⟩,?_⟩
 ·by_cases h0:len=0
  ·left;subst h0;rfl
  ·right
   have hc0:=(hF 0 (by omega)).1 0 (by omega)
   rw[Nat.zero_mul,Nat.add_zero]at hc0;have ha0:a.add 0=a:=by unfold Addr.add;simp
   rw[ha0]at hc0;have hp:=addr_plain hc0;refine⟨a.block,a.off,by rw[←hp],fun i q hq j hj=>?_⟩
   rw[List.getElem?_map]at hq;obtain⟨q',hq',rfl⟩:=Option.map_eq_some_iff.1 hq;have hql:i<len:=by have:=(List.getElem?_eq_some_iff.1 hq').1;simpa using this
   obtain rfl:i=q':=by
    rw[List.getElem?_range hql]at hq';exact Option.some.inj hq'
   have hc:=(hF i hql).1 j hj;rw[hp,add_plain]at hc;rw[Nat.add_assoc];exact hc
 ·intro q hq
  obtain⟨i,hi,rfl⟩:=List.mem_map.1 hq;exact (hF i (List.mem_range.1 hi)).2
end Go.Proofs.YteehgedabdchcaaGreat
