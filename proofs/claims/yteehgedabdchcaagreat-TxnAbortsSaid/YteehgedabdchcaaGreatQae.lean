import Derived.Test.YteehgedabdchcaaGreatQad
import Derived.Deep.RegionLaw
import Derived.Laws.CopyOwn
import Derived.Laws.OwnMore
import Derived.StillTailTactics
set_option linter.all false
set_option maxRecDepth 1000000
set_option maxHeartbeats 16000000
namespace Go.Proofs.YteehgedabdchcaaGreat
open Go.RowKit Hp
def fo (n:Nat):Own:=ext (fun _=>(0,0)) n (1,0)
theorem ext_ext (o:Own)(n m:Nat)(t:Tag)(h:n≤m):ext (ext o n t) m t=ext o n t:=by
 funext b;unfold ext;split
 ·rfl
 ·rw[if_neg (by omega)]
theorem fo_ext {n m:Nat}(h:n≤m):ext (fo n) m (1,0)=fo n:=ext_ext _ _ _ _ h
theorem fo_lt {n b:Nat}(h:b<n):fo n b=(0,0):=ext_lt h
theorem fo_ge {n b:Nat}(h:n≤b):fo n b=(1,0):=ext_ge h
theorem Row.out {w':World}{n:Nat}{e:TypeId}{size k:Nat}{v:Value}{xs:List Value}(h:Row w' (fo n) (1,0) e size v k xs)(o:Own)(tg:Tag):Row w' (ext o n tg) tg e size v k xs:=by
 refine⟨h.own,fun b hb=>?_⟩
 have h1:=h.tag b hb;refine ext_ge ?_;rcases Nat.lt_or_ge b n with h2|h2
 ·rw[fo_lt h2]at h1;simp at h1
 ·exact h2
theorem Row.new_ge {w':World}{n:Nat}{e:TypeId}{size k:Nat}{v:Value}{xs:List Value}(h:Row w' (fo n) (1,0) e size v k xs):∀ b,v.ownBlock=some b→n≤b:=fun b hb=>by
 have h1:=h.tag b hb;rcases Nat.lt_or_ge b n with h2|h2
 ·rw[fo_lt h2]at h1;simp at h1
 ·exact h2
theorem fo_below {w w1 w2:World} {o':Own} (h:Below w.heap.size w w1) (hs:Stp (fun t=>t=(1,0)) (fo w.heap.size) o' w1 w2):Below w.heap.size w w2:=by
 refine ((Stp.of_below (T:=fun t=>t=(1,0)) (o:=fo w.heap.size) h).trans hs).below fun b hb e=>?_
 rw[fo_lt hb]at e;simp at e
theorem fo_grow {w w1 w2:World}{v':Value}{k:Nat}{xs:List Value}{e:TypeId}{size:Nat}(h:Below w.heap.size w w1)(hr:Row w2 (ext (fo w.heap.size) w1.heap.size (1,0)) (1,0) e size v' k xs):Row w2 (fo w.heap.size) (1,0) e size v' k xs:=by
 rw[fo_ext h.size]at hr;exact hr
theorem Row.put1 {w:World}{o:Own}{t:Tag}{e:TypeId}{g n cap:Nat}{xs:List Value}(h:Row w o t e 1 (.slice (some ⟨g,0,none⟩) n cap) n xs)(j:Nat)(u:Value) :
  Row (w.setCell ⟨g,j,none⟩ u) o t e 1 (.slice (some ⟨g,0,none⟩) n cap) n (xs.set j u):=⟨(h.own.stored j u).1,h.tag⟩
theorem Row.put2 {w:World}{o:Own}{t:Tag}{e:TypeId}{size g n cap:Nat}{xs:List Value}(h:Row w o t e size (.slice (some ⟨g,0,none⟩) n cap) n xs)(j:Nat)(u:Value) :
  Row (w.setCell ⟨g,j,none⟩ u) o t e size (.slice (some ⟨g,0,none⟩) n cap) n (xs.set j u):=⟨(h.own.stored j u).1,h.tag⟩
theorem Row.free {w:World}{o:Own}{t:Tag}{e:TypeId}{size g n cap:Nat}{xs:List Value}(h:Row w o t e size (.slice (some ⟨g,0,none⟩) n cap) n xs)(j:Nat):w.frozen? ⟨g,j,none⟩=false:=h.own.frozenAt j
theorem Row.blt {w:World}{o:Own}{t:Tag}{e:TypeId}{size g n cap:Nat}{xs:List Value}(h:Row w o t e size (.slice (some ⟨g,0,none⟩) n cap) n xs):g<w.heap.size:=by
 rcases h.own.2 with ⟨h',_⟩|⟨g',cap',cur,h',_,hg,_⟩
 ·simp at h'
 ·simp only[Value.slice.injEq,Option.some.injEq,Addr.mk.injEq,and_true,true_and]at h'
  obtain⟨rfl,rfl⟩:=h';exact (Array.getElem?_eq_some_iff.1 hg).1
theorem Row.otag {w:World}{o:Own}{t:Tag}{e:TypeId}{size g n cap:Nat}{xs:List Value}(h:Row w o t e size (.slice (some ⟨g,0,none⟩) n cap) n xs):o g=t:=h.tag g rfl
theorem Row.shape {w:World}{o:Own}{t:Tag}{e:TypeId}{size:Nat}{v:Value}{n:Nat}{xs:List Value}(h:Row w o t e size v n xs) :
  (v=.slice none 0 0∧n=0)∨∃ g cap,v=.slice (some ⟨g,0,none⟩) n cap∧n≤cap∧cap≤maxLen:=by
 rcases h.own.2 with ⟨rfl,rfl⟩|⟨g,cap,cur,rfl,_,_,hn,hc,_⟩
 ·exact .inl ⟨rfl,rfl⟩
 ·exact .inr ⟨g,cap,rfl,hn,hc⟩
def Ints (w:World)(v:Value)(l:List Nat):Prop:=
 ∃ a c,v=.slice a l.length c∧l.length≤c∧c≤maxLen∧∀ (j x:Nat),l[j]?=some x→∃ g off,a=some ⟨g,off,none⟩∧g<w.heap.size∧w.cell? ⟨g,off+j,none⟩=some (nv x)
theorem Ints.below {w w':World}{v:Value}{l:List Nat}(h:Ints w v l)(hb:Below w.heap.size w w'):Ints w' v l:=by
 obtain⟨a,c,e,h1,h2,h3⟩:=h;refine⟨a,c,e,h1,h2,fun j x hj=>?_⟩
 obtain⟨g,off,e1,e2,e3⟩:=h3 j x hj;exact⟨g,off,e1,Nat.lt_of_lt_of_le e2 hb.size,by rw[hb.cell (p:=⟨g,off+j,none⟩) e2];exact e3⟩
theorem Row.ints {w:World}{o:Own}{t:Tag}{e:TypeId}{v:Value}{l:List Nat}(h:Row w o t e 1 v l.length (l.map nv)):Ints w v l:=by
 rcases h.shape with⟨rfl,h0⟩|⟨g,cap,rfl,hn,hc⟩
 ·have:l=[]:=List.eq_nil_of_length_eq_zero h0
  subst this;exact⟨none,0,rfl,by simp,by simp,fun j x hj=>by simp at hj⟩
 ·refine⟨_,_,rfl,hn,hc,fun j x hj=>⟨g,0,rfl,h.blt,?_⟩⟩
  rw[Nat.zero_add];exact h.cells j _ (by rw[List.getElem?_map,hj];rfl)
theorem Ints.nil (w:World):Ints w (.slice none 0 0) []:=⟨none,0,rfl,by simp,by simp,fun j x hj=>by simp at hj⟩
theorem Ints.form {w:World}{v:Value}{l:List Nat}(h:Ints w v l):(l=[]∧∃ a c,v=.slice a 0 c)∨∃ g off c,v=.slice (some ⟨g,off,none⟩) l.length c∧l.length≤c∧c≤maxLen∧g<w.heap.size∧∀ (j x:Nat),l[j]?=some x→w.cell? ⟨g,off+j,none⟩=some (nv x):=by
 obtain⟨a,c,e,h1,h2,h3⟩:=h
 cases l with
 | nil=>exact .inl ⟨rfl,a,c,e⟩
 | cons x l =>
  obtain⟨g,off,e1,e2,_⟩:=h3 0 x rfl;refine .inr ⟨g,off,c,by rw[e,e1],h1,h2,e2,fun j z hj=>?_⟩
  obtain⟨g',off',e1',_,e3'⟩:=h3 j z hj;rw[e1]at e1';injection e1' with e1';injection e1' with e1' e2' _;rw[e1',e2'];exact e3'
theorem take_snoc_get {l:List Nat}{k x:Nat}(h:l[k]?=some x):l.take (k+1)=l.take k++[x]:=by
 rw[List.take_add_one,h];rfl
theorem map_snoc_nv (l:List Nat)(x:Nat):(l++[x]).map nv=l.map nv++[.int .i64 x]:=by simp[nv]
def mvF (f:Nat→Nat)(i j n:Nat):Nat→Nat:=fun k=>if j≤k∧k<j+n then f (i+(k-j)) else f k
variable {w : World} {a wd L : Nat} {f : Nat → Nat}
theorem ar_move (h:Wds w a wd L f)(i j n:Nat)(hi:i+n≤L)(hj:j+n≤L)(hn:0<n)(x y z:Int)(hx:x=i)(hy:y=j)(hz:z=n) :
  Calls Tryz.prog 269 #[.pointer (some ⟨a,0,none⟩),.int .i64 x,.int .i64 y,.int .i64 z] w fun e w'=>e=.returned (.int .i64 0)∧Turned w w' a wd L (mvF f i j n):=by
 subst hx hy hz;have hl:=h.le;have HS:=Lib.hid (stretch_any h i n i n rfl rfl hi);have HS2:=Lib.hid (stretch_any h j n j n rfl rfl hj);have c:w.cell? ⟨a,0,none⟩=some (.slice (some ⟨wd,0,none⟩) L L):=h.arena.cell 0;obtain⟨cs,hb,hcs,hat⟩:=h.words;have hi2:(i:Int)+(n:Int)≤(L:Int):=by omega
 have hj2:(j:Int)+(n:Int)≤(L:Int):=by omega
 have H:=Lib.hid h;have HB:=Lib.hid hb;have HCS:=Lib.hid hcs;have HAT:=Lib.hid hat;clear h hb hcs hat;go_enter Tryz.func269,Tryz.ntmps269;go_wp2_with fail;refine HS.out.mono ?_
 rintro e w1 ⟨rfl,rfl⟩
 go_wp2_with fail;refine HS2.out.mono ?_
 rintro e w1 ⟨rfl,rfl⟩
 go_upto_region 4 with fail;have a1:IntKind.i64.wrap ((j:Int)+(n:Int))=(j:Int)+(n:Int):=IntWalk.i64_in _ (by omega)
 have a2:IntKind.i64.wrap ((i:Int)+(n:Int))=(i:Int)+(n:Int):=IntWalk.i64_in _ (by omega)
 have a3:((j:Int)+(n:Int)).toNat=j+n:=by omega
 have a4:((i:Int)+(n:Int)).toNat=i+n:=by omega
 have b1:(0:Int)≤(j:Int)+(n:Int):=by omega
 have b2:(0:Int)≤(i:Int)+(n:Int):=by omega
 have b3:(j:Int)≤(j:Int)+(n:Int):=by omega
 have b4:(i:Int)≤(i:Int)+(n:Int):=by omega
 have b5:j<L:=by omega
 have b6:i<L:=by omega
 have b7:j≠L:=by omega
 have b8:i≠L:=by omega
 have b9:¬L=j:=by omega
 have b10:¬L=i:=by omega
 have b11:j≤L:=by omega
 have b12:i≤L:=by omega
 have b13:j≤j+n:=by omega
 have b14:i≤i+n:=by omega
 go_still_tail 18,(by kernel_rfl)
 have hsz:cs.toList.length=L:=by rw[Array.length_toList];exact HCS.out
 obtain⟨C,hC⟩:∃ C,C=(cs.toList.drop i).take n:=⟨_,rfl⟩;have hCl:C.length=n:=by rw[hC,List.length_take,List.length_drop,hsz];omega
 have hCat:∀ k,k<n→C[k]?=some (.int .u64 (f (i+k):Int)):=fun k hk=>by
  rw[hC,List.getElem?_take,if_pos hk,List.getElem?_drop,Array.getElem?_toList,HAT.out (i+k) (by omega)]
 refine wpList_copy_own rfl (.tmp 31) (.tmp 40) _ _ rfl 220 (by kernel_rfl) (by kernel_rfl) wd j n (L-j) ⟨wd,i,none⟩ n (L-i) rfl rfl cs 220 HB.out C (by rw[hCl];exact (Nat.min_self n).symm) ?_ (by rw[hCl,HCS.out];omega) ?_ ?_
 ·intro k v hk
  have hkn:k<n:=by rw[←hCl];exact (List.getElem?_eq_some_iff.1 hk).1
  rw[hCat k hkn]at hk;injection hk with hk;rw[show (⟨wd,i,none⟩:Addr).add k=⟨wd,i+k,none⟩ from by unfold Addr.add;split<;>simp_all]
  show w.cell? ⟨wd,i+k,none⟩=some v;rw[←hk];exact H.out.cell (by omega)
 ·intro v hv
  obtain⟨k,hk⟩:=List.mem_iff_getElem?.1 hv;have hkn:k<n:=by rw[←hCl];exact (List.getElem?_eq_some_iff.1 hk).1
  rw[hCat k hkn]at hk;injection hk with hk;rw[←hk];rfl
 ·have HC:=Lib.hid hCat
  have HCL:=Lib.hid hCl;clear a1 a2 a3 a4 b1 b2 b3 b4 b5 b6 b7 b8 b9 b10 b11 b12 b13 b14 hC hCat hCl;obtain⟨X,hX⟩:∃ X,X=(List.take j cs.toList++(C++List.drop (j+C.length) cs.toList)).toArray:=⟨_,rfl⟩;obtain⟨w9,hw9⟩:∃ w9,w9=w.drew.setRow wd X:=⟨_,rfl⟩;rw[show ({ heap:=w.heap,tape:=w.tape,drawn:=w.drawn+1,os:=w.os,output:=w.output }:World)=w.drew from rfl,←hX,←hw9];have hT:Turned w w9 a wd L (mvF f i j n):=by
   have h9:w9.heap[wd]?=some (.cells X 220 (0,0)):=by rw[hw9];exact setRow_heap _ _ _ _ _ _ HB.out
   have hne:∀ k,k≠wd→w9.heap[k]?=w.heap[k]?:=fun k hk=>by rw[hw9];exact setRow_other _ _ _ _ hk
   refine⟨⟨H.out.arena.of_eq (hne a H.out.ne),H.out.ne,⟨X,h9,?_,fun k hk=>?_⟩,H.out.le⟩,⟨by rw[hw9];rfl,by rw[hw9];rfl,by rw[hw9];rfl,by rw[hw9];simp[World.setRow],fun k _ hk=>hne k hk⟩⟩
   ·rw[hX,List.size_toArray,List.length_append,List.length_append,List.length_take,List.length_drop,hsz,HCL.out];omega
   ·rw[hX,List.getElem?_toArray,HCL.out]
    unfold mvF;have ht:(List.take j cs.toList).length=j:=by rw[List.length_take,hsz];omega
    by_cases h1:k<j
    ·rw[if_neg (by omega),List.getElem?_append_left (by omega),List.getElem?_take,if_pos h1,Array.getElem?_toList,HAT.out k hk]
    ·rw[List.getElem?_append_right (by omega),ht]
     by_cases h2:k<j+n
     ·rw[if_pos (by omega),List.getElem?_append_left (by rw[HCL.out];omega),HC.out (k-j) (by omega)]
     ·rw[if_neg (by omega),List.getElem?_append_right (by rw[HCL.out];omega),HCL.out,List.getElem?_drop,Array.getElem?_toList,show j+n+(k-j-n)=k from by omega,HAT.out k hk]
  clear hX hw9 hsz;rw[HCL.out];go_wp2_with fail;go_ret;exact⟨rfl,hT⟩
theorem or_two (q:Nat)(h:4*q+2<18446744073709551616):bits BinOp.or IntKind.u64 ((4*q:Nat):Int) 2=((4*q+2:Nat):Int):=by
 rw[show (2:Int)=((2:Nat):Int) from rfl,wor _ 2 (by omega) (by omega),Nat.or_comm,show 4*q=2 ^ 2*q from rfl,or_add 2 q 2 (by omega),Nat.add_comm]
theorem gone_yes (q:Nat)(h1:1≤q)(h2:q≤131072)(z:Int)(hz:z=q)(w:World):Calls Tryz.prog 268 #[.int .i64 z] w fun e w'=>e=.returned (.tuple #[.int .u64 ((4*q+2:Nat):Int),.bool true])∧w=w':=by
 subst hz;have ho:=or_two q (by omega)
 have e1:(q:Int)*4=((4*q:Nat):Int):=by omega
 rw[←e1]at ho;generalize ((4*q+2:Nat):Int)=r at *;clear e1;go_enter Tryz.func268,Tryz.ntmps268;go_wp2_with fail;go_ret2;exact⟨rfl,rfl⟩
theorem gone_no (z:Int)(hz:z<1∨131072<z)(w:World):Calls Tryz.prog 268 #[.int .i64 z] w fun e w'=>e=.returned (.tuple #[.int .u64 0,.bool false])∧w=w':=by
 rcases hz with hz|hz
 all_goals
  go_enter Tryz.func268,Tryz.ntmps268;go_wp2_with fail;go_ret2;exact⟨rfl,rfl⟩
theorem where_gone (q:Nat)(h1:1≤q)(h2:q≤131072)(w:World):Calls Tryz.prog 237 #[.int .u64 ((4*q+2:Nat):Int)] w fun e w'=>e=.returned (.tuple #[.int .i64 q,.bool true])∧w=w':=by
 have HG:=Lib.hid (fun w=>gone_yes q h1 h2 q rfl w)
 have e1:((4*q+2:Nat):Int)/4=(q:Int):=by omega
 obtain⟨r,hr⟩:∃ r:Int,r=((4*q+2:Nat):Int):=⟨_,rfl⟩;rw[←hr]at HG e1 ⊢;have r0:0≤r:=by omega
 have r1:r≤600000:=by omega
 clear hr;go_enter Tryz.func237,Tryz.ntmps237;go_wp2_with fail;refine (HG.out _).mono ?_
 rintro e w1⟨rfl,rfl⟩
 go_wp2_with fail;go_ret2;exact⟨rfl,rfl⟩
theorem where_odd (v:Nat)(h:v%2=1)(hv:v<4096)(w:World):Calls Tryz.prog 237 #[.int .u64 v] w fun e w'=>e=.returned (.tuple #[.int .i64 0,.bool false])∧w=w':=by
 obtain⟨q,hq⟩:∃ q:Nat,(v:Int)/4=q:=⟨v/4,by omega⟩
 have hq2:q≤1024:=by omega
 by_cases h1:1≤q
 ·have HG:=Lib.hid (fun w=>gone_yes q h1 (by omega) q rfl w)
  have hne:((((4*q+2:Nat):Int)) != (v:Int))=true:=by rw[bne_iff_ne];omega
  generalize ((4*q+2:Nat):Int)=r at *;clear h;go_enter Tryz.func237,Tryz.ntmps237;go_wp2_with fail;refine (HG.out _).mono ?_
  rintro e w1⟨rfl,rfl⟩
  go_wp2_with fail;go_ret2;exact⟨rfl,rfl⟩
 ·have hq0:(v:Int)/4=0:=by omega
  have HG:=Lib.hid (fun w=>gone_no 0 (by omega) w)
  clear h hq;go_enter Tryz.func237,Tryz.ntmps237;go_wp2_with fail;refine (HG.out _).mono ?_
  rintro e w1⟨rfl,rfl⟩
  go_wp2_with fail;go_ret2;exact⟨rfl,rfl⟩
variable {w : World} {a wd L : Nat} {f : Nat → Nat} {p : Nat} {ob : Ob}
theorem mat_gone (h:Wds w a wd L f)(hp:p<L)(q:Nat)(h1:1≤q)(h2:q≤131072)(hf:f p=4*q+2) :
  Calls Tryz.prog 181 #[.pointer (some ⟨a,0,none⟩),.int .i64 p] w fun e w'=>e=.returned (.tuple #[.int .i64 q,.bool true])∧w=w':=by
 have HL:=Lib.hid (ar_load_v h p p _ rfl hp hf);have HW:=Lib.hid (fun w=>where_gone q h1 h2 w)
 clear h hf;go_enter Tryz.func181,Tryz.ntmps181;go_wp2_with fail;refine HL.out.mono ?_
 rintro e w1 ⟨rfl,rfl⟩
 go_wp2_with fail;refine (HW.out _).mono ?_
 rintro e w1 ⟨rfl,rfl⟩
 go_wp2_with fail;go_ret2;exact⟨rfl,rfl⟩
theorem mat_ob (h:Wds w a wd L f)(ho:ObAt f p ob)(hk:ob.ok)(hl:p+ob.size≤L) :
  Calls Tryz.prog 181 #[.pointer (some ⟨a,0,none⟩),.int .i64 p] w fun e w'=>e=.returned (.tuple #[.int .i64 0,.bool false])∧w=w':=by
 have hs:=Ob.size_bd hk;have HL:=Lib.hid (ar_load_v h p p _ rfl (by omega) ho.h0)
 have HW:=Lib.hid (fun w=>where_odd (head ob.shp ob.freed) (head_odd _ _) (head_lt _ _ hk.shp) w)
 generalize head ob.shp ob.freed=r at *;clear h ho hk hl hs;go_enter Tryz.func181,Tryz.ntmps181;go_wp2_with fail;refine HL.out.mono ?_
 rintro e w1 ⟨rfl,rfl⟩
 go_wp2_with fail;refine (HW.out _).mono ?_
 rintro e w1 ⟨rfl,rfl⟩
 go_wp2_with fail;go_ret2;exact⟨rfl,rfl⟩
section
variable {w : World} {o : Own} {l : HLay} {H : Hp} {vc vo vw vf : Value} {f : Nat → Nat}
theorem hshape_in (h:HpIn w o l H vc vo vw vf f)(hk:H.ok){p:Nat}{ob:Ob}(hp:lk H.cur p=some ob) :
  Calls Tryz.prog 69 #[.pointer (some ⟨l.h,0,none⟩),.int .i64 p] w fun e w'=>e=.returned (.tuple #[shpV ob.shp,.bool ob.freed,.int .i64 0])∧Below w.heap.size w w':=by
 obtain⟨ha,ho,hl,_⟩:=h.at_ hk hp;have HH:=Lib.hid (fun w' (hw:Below w.heap.size w w')=>here_yes (h.below hw) hk hp)
 have HN:=Lib.hid (fun w' (hw:Below w.heap.size w w')=>oshape_any (h.wds.below hw) ha ho hl p rfl)
 have HC:=Lib.hid (fun w' (hw:Below w.heap.size w w')=>(h.below hw).words_cell)
 clear h hk hp ha ho hl;obtain⟨⟨sp,sd,wk,fn⟩,fr,se,sr,ps,ns⟩:=ob;simp only at HN ⊢;go_enter Tryz.func69,Tryz.ntmps69;go_wp2_with fail;refine (HH.out _ (balloc (bsame w) _)).mono ?_
 rintro e w1 ⟨rfl,hb1⟩
 have jR:Blk w1 w.heap.size #[.int .i64 0,.int .i64 0,.bool false,.bool false] 93:=(Blk.new w _ _).below hb1 (by simp)
 have hb:Below w.heap.size w w1:=btrans (balloc (bsame w) _) hb1;clear hb1;have c1:=HC.out _ hb;go_wp2_with fail;refine (HN.out _ hb).mono ?_
 rintro e w2 ⟨rfl,hb2⟩
 have jR2:=jR.below hb2 jR.lt;have hw2:=btrans hb hb2;clear hb2 hb jR;have cR:=jR2.cell;have zR:=jR2.free;have sR:=jR2.lt;go_wp2_with fail;refine bodyPost_ret (v:=.tuple #[shpV ⟨sp,sd,wk,fn⟩,.bool fr,.int .i64 0]) (by simp[results,Tryz.results69,go_sem,cR]) rfl ⟨rfl,?_⟩
 repeat (first|exact hw2|refine bset ?_ (Nat.le_refl _) _)
theorem hshape_no (h:HpIn w o l H vc vo vw vf f)(hk:H.ok){p:Nat}(hp:lk H.cur p=none) :
  Calls Tryz.prog 69 #[.pointer (some ⟨l.h,0,none⟩),.int .i64 p] w fun e w'=>e=.returned (.tuple #[shpV ⟨0,0,false,false⟩,.bool false,.int .i64 70])∧Below w.heap.size w w':=by
 have HH:=Lib.hid (fun w' (hw:Below w.heap.size w w')=>here_no (h.below hw) hk hp)
 clear h hk hp;go_enter Tryz.func69,Tryz.ntmps69;go_wp2_with fail;refine (HH.out _ (balloc (bsame w) _)).mono ?_
 rintro e w1 ⟨rfl,hb1⟩
 have jR:Blk w1 w.heap.size #[.int .i64 0,.int .i64 0,.bool false,.bool false] 93:=(Blk.new w _ _).below hb1 (by simp)
 have hb:Below w.heap.size w w1:=btrans (balloc (bsame w) _) hb1;clear hb1;have cR:=jR.cell;have zR:=jR.free;have sR:=jR.lt;go_wp2_with fail;refine bodyPost_ret (v:=.tuple #[shpV ⟨0,0,false,false⟩,.bool false,.int .i64 70]) (by simp[results,Tryz.results69,go_sem,cR]) rfl ⟨rfl,?_⟩
 repeat (first|exact hb|refine bset ?_ (Nat.le_refl _) _)
theorem hptr_out (h:HpIn w o l H vc vo vw vf f)(hk:H.ok){p:Nat}{ob:Ob}(hp:lk H.cur p=some ob)(i:Nat)(hx:ob.shp.p≤i) :
  Calls Tryz.prog 112 #[.pointer (some ⟨l.h,0,none⟩),.int .i64 p,.int .i64 i] w fun e w'=>e=.returned (.tuple #[.int .i64 0,.int .i64 71])∧Below w.heap.size w w':=by
 obtain⟨ha,ho,hl,_⟩:=h.at_ hk hp;have HH:=Lib.hid (here_yes h hk hp);have HN:=Lib.hid (fun w' (hw:Below w.heap.size w w')=>optr_no (h.wds.below hw) ha ho hl i hx p i rfl rfl)
 have HC:=Lib.hid (fun w' (hw:Below w.heap.size w w')=>(h.below hw).words_cell)
 clear h hk hp ha ho hl hx;go_enter Tryz.func112,Tryz.ntmps112;go_wp2_with fail;refine HH.out.mono ?_
 rintro e w1 ⟨rfl,hb1⟩
 have c1:=HC.out _ hb1;go_wp2_with fail;refine (HN.out _ hb1).mono ?_
 rintro e w2 ⟨rfl,hb2⟩
 go_wp2_with fail;go_ret2;exact⟨rfl,btrans hb1 hb2⟩
theorem hptr_no (h:HpIn w o l H vc vo vw vf f)(hk:H.ok){p:Nat}(hp:lk H.cur p=none)(i:Nat) :
  Calls Tryz.prog 112 #[.pointer (some ⟨l.h,0,none⟩),.int .i64 p,.int .i64 i] w fun e w'=>e=.returned (.tuple #[.int .i64 0,.int .i64 70])∧Below w.heap.size w w':=by
 have HH:=Lib.hid (here_no h hk hp);clear h hk hp;go_enter Tryz.func112,Tryz.ntmps112;go_wp2_with fail;refine HH.out.mono ?_
 rintro e w1 ⟨rfl,hb1⟩
 go_wp2_with fail;go_ret2;exact⟨rfl,hb1⟩
theorem hsetptr_no (h:HpIn w o l H vc vo vw vf f)(hk:H.ok){p:Nat}(hp:lk H.cur p=none)(i:Nat)(z:Int) :
  Calls Tryz.prog 113 #[.pointer (some ⟨l.h,0,none⟩),.int .i64 p,.int .i64 i,.int .i64 z] w fun e w'=>e=.returned (.int .i64 70)∧Below w.heap.size w w':=by
 have HH:=Lib.hid (here_no h hk hp);clear h hk hp;go_enter Tryz.func113,Tryz.ntmps113;go_wp2_with fail;refine HH.out.mono ?_
 rintro e w1 ⟨rfl,hb1⟩
 go_wp2_with fail;go_ret;exact⟨rfl,hb1⟩
theorem ptr_bd (hk:H.ok){q:Nat}(hq:q=0∨(lk H.cur q).isSome=true):q≤131072:=by
 rcases hq with rfl|hq
 ·omega
 ·obtain⟨ob,hob⟩:=Option.isSome_iff_exists.1 hq
  have h1:=laid_mem _ _ _ hk.cl _ (lk_mem hob);have h4:=hk.room;have h5:=H.base_bd H.use;have h6:=hk.sz;simp only at h1;omega
theorem hsetptr_in (h:HpIn w o l H vc vo vw vf f)(hk:H.ok){p:Nat}{ob:Ob}(hp:lk H.cur p=some ob)(i q:Nat)(hx:i<ob.shp.p)(hq:q=0∨(lk H.cur q).isSome=true) :
  Calls Tryz.prog 113 #[.pointer (some ⟨l.h,0,none⟩),.int .i64 p,.int .i64 i,.int .i64 q] w fun e w'=>e=.returned (.int .i64 0)∧Hp.ok { H with cur:=up H.cur p (ob.setPtr i q) }∧(∃ f',HpIn w' o l { H with cur:=up H.cur p (ob.setPtr i q) } vc vo vw vf f')∧Wr l.wd w w':=by
 obtain⟨ha,ho,hl,_⟩:=h.at_ hk hp;have hqb:=ptr_bd hk hq;have hok:=Hp.ok_up hk hp (Ob.setPtr_ok ho i q hqb) (rfl);have HH:=Lib.hid (here_yes h hk hp);have HN:=Lib.hid (fun w' (hw:Below w.heap.size w w')=>osetptr_any (h.wds.below hw) ha ho hl i q hx hqb p i q rfl rfl rfl)
 have HC:=Lib.hid (fun w' (hw:Below w.heap.size w w')=>(h.below hw).words_cell)
 have HE:=Lib.hid (fun w1 w' (hw:Below w.heap.size w w1) hT=>(h.below hw).turn (w':=w') hk hp (k:=3+i) (by unfold Ob.size;omega) hT (by rw[show p+(3+i)=p+3+i from by omega];exact ha.setPtr ho i q hx))
 rw[show p+(3+i)=p+3+i from by omega]at HE
 have HK:=Lib.hid hok;rcases hq with rfl|hq
 ·clear h hk hp ha ho hl hok hx hqb
  go_enter Tryz.func113,Tryz.ntmps113;go_wp2_with fail;refine HH.out.mono ?_
  rintro e w1 ⟨rfl,hb1⟩
  have c1:=HC.out _ hb1;go_wp2_with fail;refine (HN.out _ hb1).mono ?_
  rintro e w2 ⟨rfl,hT⟩
  go_wp2_with fail;go_ret;exact⟨rfl,HK.out,⟨_,HE.out _ _ hb1 hT⟩,(Wr.of_below hb1).trans hT.2⟩
 ·obtain⟨oq,hoq⟩:=Option.isSome_iff_exists.1 hq
  have HQ:=Lib.hid (fun w' (hw:Below w.heap.size w w')=>here_yes (h.below hw) hk hoq)
  by_cases h0:q=0
  ·subst h0
   have:=laid_mem _ _ _ hk.cl _ (lk_mem hoq);have:=H.base_bd H.use;simp only at *;omega
  ·clear h hk hp ha ho hl hok hx hqb hq hoq
   go_enter Tryz.func113,Tryz.ntmps113;go_wp2_with fail;refine HH.out.mono ?_
   rintro e w1 ⟨rfl,hb1⟩
   go_wp2_with fail;refine (HQ.out _ hb1).mono ?_
   rintro e w2 ⟨rfl,hb2⟩
   have hb:=btrans hb1 hb2;have c1:=HC.out _ hb;go_wp2_with fail;refine (HN.out _ hb).mono ?_
   rintro e w3 ⟨rfl,hT⟩
   go_wp2_with fail;go_ret;exact⟨rfl,HK.out,⟨_,HE.out _ _ hb hT⟩,(Wr.of_below hb).trans hT.2⟩
end
theorem info_int:∃ i,Tryz.prog.info? 3=some i∧i.size=1∧i.bytes=8∧i.zero=some (.int .i64 0):=by
 have h:((Tryz.prog.info? 3).map fun i=>(i.zero,i.size,i.bytes))=some (some (.int .i64 0),1,8):=by kernel_rfl
 obtain⟨i,hi,he⟩:=Option.map_eq_some_iff.1 h;injection he with e1 e2;injection e2 with e2 e3;exact⟨i,hi,e2,e3,e1⟩
section
variable {P : Program} (w : World)
theorem wp_append_row {op:Oper}{a:Act}{K:Act→World→Prop}{Q:Exit→Act→World→Prop}(s x:Operand)(t:TypeId)
  (ho:op.op=.call { callee:=.builtin .append,args:=#[s,x],argTypes:=#[t,t] })
  (e:TypeId)(i:TypeInfo)(z:Value)(size bytes:Nat)(ht:P.underlying t=some (.slice e))(hi:P.info? e=some i)(hz:i.zero=some z)
  (hsize:i.size=size)(hby:i.bytes=bytes)(hzs:z.cells.size=size)(hsz:0<size)
  (o:Own)(tg:Tag)(v:Value)(n:Nat)(xs:List Value)(hs:a.eval s=v)(hown:Row w o tg e size v n xs)
  (ad:Addr)(m c:Nat)(news:List Value)(hx:a.eval x=.slice (some ad) m c)(hl:news.length=m*size)(hnews:∀ j u,news[j]?=some u→w.cell? (ad.add j)=some u)(h1:∀ u ∈ news,u.oneCell'=true)
  (h63:n+m≤maxLen)(hbytes:(n+m)*bytes≤140737488355328)
  (h:∀ v' w',Row w' (ext o w.heap.size tg) tg e size v' (n+m) (xs++news)→Stp (fun u=>u=tg) o (ext o w.heap.size tg) w w'→K (a.put op.dst v') w'):op.wp P a w K Q:=by
 obtain⟨v',w',hr,h2,h3⟩:=run_append_row (P:=P) w t op.type e i z size bytes ht hi hz hsize hby hzs hsz o tg v n xs hown ad m c news hl hnews h1 h63 hbytes;unfold Oper.wp execOp;simp only[ho,resolve,invoke,builtin,Sem.run_bind,Sem.run_pure,Result.andThen_ok,List.map_toArray,List.map_cons,List.map_nil,hs,hx,hr];exact h v' w' h2 h3
theorem step_append_row {ops:Array Oper}{op:Oper}{a:Act}{K:Act→World→Prop}{Q:Exit→Act→World→Prop}{E:Prop}(hgd:op.guard=none)(s x:Operand)(t:TypeId)
  (ho:op.op=.call { callee:=.builtin .append,args:=#[s,x],argTypes:=#[t,t] })
  (e:TypeId)(i:TypeInfo)(z:Value)(size bytes:Nat)(ht:P.underlying t=some (.slice e))(hi:P.info? e=some i)(hz:i.zero=some z)
  (hsize:i.size=size)(hby:i.bytes=bytes)(hzs:z.cells.size=size)(hsz:0<size)
  (o:Own)(tg:Tag)(v:Value)(n:Nat)(xs:List Value)(hs:a.eval s=v)(hown:Row w o tg e size v n xs)
  (ad:Addr)(m c:Nat)(news:List Value)(hx:a.eval x=.slice (some ad) m c)(hl:news.length=m*size)(hnews:∀ j u,news[j]?=some u→w.cell? (ad.add j)=some u)(h1:∀ u ∈ news,u.oneCell'=true)
  (h63:n+m≤maxLen)(hbytes:(n+m)*bytes≤140737488355328)
  (h:∀ v' w',Row w' (ext o w.heap.size tg) tg e size v' (n+m) (xs++news)→Stp (fun u=>u=tg) o (ext o w.heap.size tg) w w'→K (a.put op.dst v') w') :
  if Region.wanted op (yielded ops a.tmps)=true then Oper.wp P op a w K Q else E:=by
 have hw:Region.wanted op (yielded ops a.tmps)=true:=by simp[Region.wanted,hgd]
 rw[if_pos hw];exact wp_append_row w s x t ho e i z size bytes ht hi hz hsize hby hzs hsz o tg v n xs hs hown ad m c news hx hl hnews h1 h63 hbytes h
end
theorem Row.slc {w:World}{o:Own}{t:Tag}{e:TypeId}{size n:Nat}{v:Value}{xs:List Value}(h:Row w o t e size v n xs):∃ pa cp,v=.slice pa n cp:=by
 rcases h.own.2 with⟨rfl,rfl⟩|⟨g,cap,cur,rfl,_⟩
 ·exact⟨_,_,rfl⟩
 ·exact⟨_,_,rfl⟩
theorem news_one {w:World}{B:Nat}{v:Value}{t:TypeId}(h:Blk w B #[v] t):∀ j u,[v][j]?=some u→w.cell? ((⟨B,0,none⟩:Addr).add j)=some u:=fun j u hu=>by
 have hadd:(⟨B,0,none⟩:Addr).add j=⟨B,j,none⟩:=by unfold Addr.add;split<;>simp_all
 rw[hadd,h.cell];simpa using hu
theorem one_i64 {z:Int}:∀ u ∈ [Value.int .i64 z],u.oneCell'=true:=by intro u hu;simp at hu;subst hu;rfl
theorem taken_f {w:World}{o:Own}{tg t0:Tag}{h n sz top otop:Nat}{ps:List Value}{v0 x0 x1 x2 x3 x4 x5 vc vo:Value}(hb:Blk w h #[v0,.int .i64 1,.int .i64 sz,.int .i64 top,.int .i64 (1+(sz:Int)),.int .i64 sz,.int .i64 otop,vc,vo,.int .i64 0,x0,x1,x2,x3,x4,x5] 185)
  (hr:Row w o tg 3 1 vc n ps)(hn:n<16384)(hoh:o h=t0)(ht:t0≠tg)(p t:Nat) :
  Calls Tryz.prog 230 #[.pointer (some ⟨h,0,none⟩),spV 1 sz t,.int .i64 p] w fun e w'=>e=.returned (.tuple #[]) ∧
   ∃ vc' o',Blk w' h #[v0,.int .i64 1,.int .i64 sz,.int .i64 t,.int .i64 (1+(sz:Int)),.int .i64 sz,.int .i64 otop,vc',vo,.int .i64 0,x0,x1,x2,x3,x4,x5] 185∧Row w' o' tg 3 1 vc' (n+1) (ps++[nv p])∧Stp (fun t=>t=t0∨t=tg) o o' w w':=by
 have hu64:=Tryz.underlying25;have c:=hb.cell;have z:=hb.free;have s:=hb.lt;have hne:w.heap.size≠h:=by omega
 go_enter Tryz.func230,Tryz.ntmps230;go_upto_region 1 with fail;have hc9:w.cell? ⟨h,9,none⟩=some (.int .i64 0):=by rw[c];rfl
 obtain⟨W,hW⟩:∃ W:World,W=((((w.setCell ⟨h,1,none⟩ (.int .i64 1)).setCell ⟨h,2,none⟩ (.int .i64 sz)).setCell ⟨h,3,none⟩ (.int .i64 t)).alloc (.cells #[.int .i64 1,.int .i64 sz,.int .i64 t] 181)).drew:=⟨_,rfl⟩;have jW:=Blk.alloc (((hb.set 1 (.int .i64 1)).set 2 (.int .i64 sz)).set 3 (.int .i64 t)) (.cells #[.int .i64 1,.int .i64 sz,.int .i64 t] 181);have jB:=Blk.new_at ((((w.setCell ⟨h,1,none⟩ (.int .i64 1)).setCell ⟨h,2,none⟩ (.int .i64 sz)).setCell ⟨h,3,none⟩ (.int .i64 t))) #[.int .i64 1,.int .i64 sz,.int .i64 t] #[.int .i64 1,.int .i64 sz,.int .i64 t] 181 w.heap.size (by simp) rfl
 have jW:=drewB jW;have jB:=drewB jB;have k9:=jW.cell 9;have b0:=jB.cell 0;have b1:=jB.cell 1;have b2:=jB.cell 2;simp at k9 b0 b1 b2;go_region_held3 (fun w'=>w'.cell? ⟨h,9,none⟩=some (.int .i64 0)∧w'.cell? ⟨w.heap.size,0,none⟩=some (.int .i64 1)∧w'.cell? ⟨w.heap.size,1,none⟩=some (.int .i64 sz)∧w'.cell? ⟨w.heap.size,2,none⟩=some (.int .i64 t)) (go_keep) (fail)
 rw[←hW];have hSt:Stp (fun t=>t=t0) o o w W:=by
  rw[hW];exact ((((((Stp.refl _ o w).setCell (by simpa using hoh) _).setCell (by simpa using hoh) _).setCell (by simpa using hoh) _).alloc _).drew)
 have jW2:Blk W h ((((#[v0,.int .i64 1,.int .i64 sz,.int .i64 top,.int .i64 (1+(sz:Int)),.int .i64 sz,.int .i64 otop,vc,vo,.int .i64 0,x0,x1,x2,x3,x4,x5]:Array Value).setIfInBounds 1 (.int .i64 1)).setIfInBounds 2 (.int .i64 sz)).setIfInBounds 3 (.int .i64 t)) 185:=by rw[hW];exact jW
 simp at jW2;have hr2:=hr.stp hSt (fun e=>ht e.symm)
 clear jW jB k9 b0 b1 b2 hW c z s hc9 hr hb hne;have c:=jW2.cell;have z:=jW2.free;have s:=jW2.lt;go_upto_region 2 with fail;obtain⟨iI,hi,hsI,hyI,hzI⟩:=info_int;have k9:W.cell? ⟨h,9,none⟩=some (.int .i64 0):=by rw[c];rfl
 have k7:W.cell? ⟨h,7,none⟩=some vc:=by rw[c];rfl
 have hml:n+1≤maxLen:=by simp only[maxLen];omega
 have hmb:(n+1)*8≤140737488355328:=by omega
 have jn:=Blk.new W.drew #[.int .i64 p] 3;have rn:Row (W.drew.alloc (.cells #[.int .i64 p] 3)) o tg 3 1 vc n ps:=hr2.below (balloc (bdrew (bsame W)) _);have hkeep:=fun (w1:World)(o1:Own)(hst:Stp (fun u=>u=tg) o o1 (W.drew.alloc (.cells #[.int .i64 p] 3)) w1)=>(Blk.alloc (drewB jW2) (.cells #[.int .i64 p] 3)).stp hst (by rw[hoh];exact ht)
 have hfin:=fun (w1:World)(o1:Own)(pa:Option Addr)(cp:Nat)(hown:Row w1 o1 tg 3 1 (.slice pa (n+1) cp) (n+1) (ps++[.int .i64 p]))(hst:Stp (fun u=>u=tg) o o1 (W.drew.alloc (.cells #[.int .i64 p] 3)) w1) =>
  show ∃ vc' o',Blk (w1.setCell ⟨h,7,none⟩ (.slice pa (n+1) cp)) h #[v0,.int .i64 1,.int .i64 sz,.int .i64 t,.int .i64 (1+(sz:Int)),.int .i64 sz,.int .i64 otop,vc',vo,.int .i64 0,x0,x1,x2,x3,x4,x5] 185∧Row (w1.setCell ⟨h,7,none⟩ (.slice pa (n+1) cp)) o' tg 3 1 vc' (n+1) (ps++[nv p])∧Stp (fun t=>t=t0∨t=tg) o o' w (w1.setCell ⟨h,7,none⟩ (.slice pa (n+1) cp)) from by
   have hlt:h<(W.drew.alloc (.cells #[.int .i64 p] 3)).heap.size:=(Blk.alloc (drewB jW2) _).lt;have ho1:o1 h=t0:=by rw[hst.tags h hlt];exact hoh
   have k1:Stp (fun t=>t=t0) o1 o1 w1 (w1.setCell ⟨h,7,none⟩ (.slice pa (n+1) cp)):=(Stp.refl _ o1 w1).setCell (by simpa using ho1) _
   refine⟨_,o1,(hkeep _ _ hst).set 7 _,hown.stp k1 (fun e=>ht e.symm),?_⟩
   exact ((hSt.mono fun _ e=>Or.inl e).trans (Stp.of_below (balloc (bdrew (bsame W)) _))).trans ((hst.mono fun _ e=>Or.inr e).trans (k1.mono fun _ e=>Or.inl e))
 go_region_law ((refine step_append_row _ (by rfl) _ _ _ (by rfl) 3 iI _ 1 8 hu64 hi hzI hsI hyI (by rfl) (by decide) o tg vc n ps (by rfl) rn ⟨W.heap.size,0,none⟩ 1 1 [.int .i64 p] (by rfl) (by rfl) (news_one jn) one_i64 hml hmb ?_;intro v' w1 hown hst;obtain⟨pa,cp,rfl⟩:=hown.slc;have jX:=hkeep _ _ hst;have cX:=jX.cell;have zX:=jX.free;have sX:=jX.lt))
 all_goals
  go_wp2_with fail;go_end0;exact⟨rfl,hfin _ _ _ _ hown hst⟩
end Go.Proofs.YteehgedabdchcaaGreat
namespace Go.Proofs.YteehgedabdchcaaGreat
open Go.RowKit Hp
attribute [local go_sem ↓] Go.wp_at_zero Go.wp_at_succ
section
variable {w : World} {o : Own} {l : HLay} {H : Hp} {vc vo vw vf : Value} {f : Nat → Nat}
theorem Hp.owed_zero (hk:H.ok)(hm:H.moving=false):H.owed=0:=by
 rw[hk.owe,hk.still hm];rfl
theorem HpIn.cells_f (h:HpIn w o l H vc vo vw vf f)(hu:H.use=false):Blk w l.h #[.pointer (some ⟨l.a,0,none⟩),.int .i64 1,.int .i64 H.size,.int .i64 H.top,.int .i64 (1+(H.size:Int)),.int .i64 H.size,.int .i64 H.otop,vc,vo,.int .i64 0,.bool H.moving,.int .i64 H.owed,.int .i64 H.scan,.int .i64 H.serial,vw,vf] 185:=by
 have:=h.hb;unfold Hp.cells at this;rwa [hu,if_neg (by simp)]at this
end
end Go.Proofs.YteehgedabdchcaaGreat
namespace Go.Proofs.YteehgedabdchcaaGreat
open Go.RowKit Hp
theorem Stp.of_wr {T:Tag→Prop}{o:Own}{b:Nat}{w w':World}(h:Wr b w w')(ht:T (o b)):Stp T o o w w':=
 ⟨h.os,h.tape,h.output,h.size,fun _ _=>rfl,fun k hk hn=>h.block k hk fun e=>hn (by rw[e];exact ht)⟩
theorem Wds.stp {T:Tag→Prop}{o o':Own}{w w':World}{a wd L:Nat}{f:Nat→Nat}(h:Wds w a wd L f)(k:Stp T o o' w w')(h1:¬T (o a))(h2:¬T (o wd)):Wds w' a wd L f:=by
 obtain⟨cs,hb,hc⟩:=h.words;exact⟨h.arena.stp k h1,h.ne,⟨cs,hb.stp k h2,hc⟩,h.le⟩
theorem Row.retag {w:World}{o o':Own}{t:Tag}{e:TypeId}{size:Nat}{v:Value}{n:Nat}{xs:List Value}(h:Row w o t e size v n xs)(he:∀ b,b<w.heap.size→o' b=o b):Row w o' t e size v n xs:=by
 refine⟨h.own,fun k hk=>?_⟩
 rcases h.own.2 with⟨rfl,_⟩|⟨g,cap,cur,rfl,_,hg,_⟩
 ·simp[Value.ownBlock]at hk
 ·have e1:g=k:=by simpa [Value.ownBlock] using hk
  subst e1;rw[he g (Array.getElem?_eq_some_iff.1 hg).1];exact h.tag g rfl
section
variable {w : World} {o : Own} {l : HLay} {H : Hp} {vc vo vw vf : Value} {f : Nat → Nat}
theorem HpIn.retag {o':Own}(h:HpIn w o l H vc vo vw vf f)(he:∀ b,b<w.heap.size→o' b=o b):HpIn w o' l H vc vo vw vf f:=
 ⟨h.hb,h.wds,h.rc.retag he,h.ro.retag he,h.rw.retag he,h.rf.retag he,(he _ h.hb.lt).trans h.oh,(he _ h.wds.arena.lt).trans h.oa,(he _ h.wds.lt).trans h.ow,h.obs,h.olds,h.zr⟩
structure HpF (H:Hp):Prop where
 ok:H.ok
 use:H.use=false
 mov:H.moving=false
 wl:H.weak.length≤H.cur.length
 fl:H.final.length≤H.cur.length
def Hp.lay (H : Hp) (s : Shp) : Hp :=
  { H with cur := H.cur ++ [(H.top, Ob.new s (H.serial + 1))], top := H.top + rnd (3 + s.p + s.d), serial := H.serial + 1,
           weak := if s.weak then H.weak ++ [H.top] else H.weak, final := if s.final then H.final ++ [H.top] else H.final }
theorem HpF.len (h:HpF H):H.cur.length≤4096:=by
 have h1:=laid_len _ _ _ h.ok.cl h.ok.ck;have h2:=h.ok.room;have h3:=h.ok.sz;unfold Hp.base at h1 h2;rw[h.use]at h1 h2;simp at h1 h2;omega
theorem HpF.lay (h:HpF H){s:Shp}(hs:s.ok)(hr:H.top+rnd (3+s.p+s.d)≤1+H.size)(hser:H.serial<1099511627776):HpF (H.lay s):=by
 have hn:=Ob.new_ok hs (H.serial+1) (by omega)
 have hz:=Hp.owed_zero h.ok h.mov;obtain⟨⟨k1,k2,k3,k4,k5,k6,k7,k8,k9,k10,k11,k12⟩,hu,hm,hw,hf⟩:=h;refine⟨⟨k1,?_,?_,k4,k5,k6,k7,k8,?_,?_,k11,k12⟩,hu,hm,?_,?_⟩
 ·exact laid_snoc _ _ _ _ k2
 ·intro x hx
  rcases List.mem_append.1 hx with hx|hx
  ·exact k3 x hx
  ·rw[List.mem_singleton.1 hx];exact hn
 ·show H.top+rnd (3+s.p+s.d)+H.owed≤H.base H.use+H.size
  unfold Hp.base;rw[hu];simp;omega
 ·show H.serial+1≤_
  omega
 ·show List.length (if s.weak then _ else _)≤(H.cur++_).length
  split<;>simp<;>omega
 ·show List.length (if s.final then _ else _)≤(H.cur++_).length
  split<;>simp<;>omega
end
end Go.Proofs.YteehgedabdchcaaGreat
namespace Go.Proofs.YteehgedabdchcaaGreat
open Hp
def lko:List (Nat×Ob×Option Nat)→Nat→Option (Ob×Option Nat)
 | [],_=>none
 | (q,o)::l,p=>if q=p then some o else lko l p
theorem lko_mem:∀ {l:List (Nat×Ob×Option Nat)}{p:Nat}{o:Ob×Option Nat},lko l p=some o→(p,o) ∈ l
 | [],p,o,h=>by simp[lko]at h
 | (q,x)::l,p,o,h=>by
  unfold lko at h;split at h
  ·rename_i e
   injection h with h;rw[←e,←h];exact .head _
  ·exact .tail _ (lko_mem h)
theorem lko_some {l:List (Nat×Ob×Option Nat)}{p:Nat}:(lko l p).isSome=true↔p ∈ l.map (·.1):=by
 induction l with
 | nil=>simp[lko]
 | cons x l ih =>
  obtain⟨q,o⟩:=x;unfold lko;split
  ·rename_i e;simp[e]
  ·rename_i e;rw[ih];simp[Ne.symm e]
def goneTo (l:List (Nat×Ob×Option Nat))(p q:Nat):List (Nat×Ob×Option Nat):=l.map fun x=>if x.1=p then (x.1,x.2.1,some q) else x
theorem goneTo_olds (l:List (Nat×Ob×Option Nat))(p q:Nat):((goneTo l p q).map fun x=>(x.1,x.2.1))=l.map fun x=>(x.1,x.2.1):=by
 unfold goneTo;rw[List.map_map];refine List.map_congr_left fun x _=>?_
 simp only[Function.comp_apply];split<;>rfl
theorem goneTo_len (l:List (Nat×Ob×Option Nat))(p q:Nat):(goneTo l p q).length=l.length:=by unfold goneTo;simp
theorem goneTo_keys (l:List (Nat×Ob×Option Nat))(p q:Nat):(goneTo l p q).map (·.1)=l.map (·.1):=by
 have:=congrArg (List.map (·.1)) (goneTo_olds l p q);simpa [List.map_map,Function.comp_def] using this
theorem lko_gone (l:List (Nat×Ob×Option Nat))(p q r:Nat):lko (goneTo l p q) r=if r=p then (lko l p).map fun x=>(x.1,some q) else lko l r:=by
 induction l with
 | nil=>unfold goneTo lko;simp
 | cons x l ih =>
  obtain⟨s,o⟩:=x;have e:goneTo ((s,o)::l) p q=(if s=p then (s,o.1,some q) else (s,o))::goneTo l p q:=rfl
  rw[e];by_cases h1:s=p
  ·subst h1
   rw[if_pos rfl];by_cases h2:r=s
   ·subst h2;simp[lko]
   ·rw[if_neg h2]at ih ⊢
    simp only[lko,if_neg (Ne.symm h2),ih]
  ·rw[if_neg h1]
   by_cases h2:r=p
   ·subst h2
    rw[if_pos rfl]at ih ⊢;simp only[lko,if_neg h1,ih]
   ·rw[if_neg h2]at ih ⊢
    simp only[lko,ih]
theorem old_sorted {H:Hp}(hk:H.ok):(H.old.map (·.1)).Pairwise (·<·):=by
 have:=laid_sorted _ _ _ hk.ol hk.ok;simpa [Hp.olds,List.map_map,Function.comp_def] using this
theorem owes_gone:∀ {l:List (Nat×Ob×Option Nat)}{p q:Nat}{ob:Ob},(l.map (·.1)).Pairwise (·<·)→lko l p=some (ob,none)→owes (goneTo l p q)+rnd ob.size=owes l
 | [],p,q,ob,_,h=>by simp[lko]at h
 | (s,o,g)::l,p,q,ob,hs,h=>by
  have hs':(∀ y ∈ l.map (·.1),s<y)∧(l.map (·.1)).Pairwise (·<·):=List.pairwise_cons.1 hs;have e:goneTo ((s,o,g)::l) p q=(if s=p then (s,o,some q) else (s,o,g))::goneTo l p q:=rfl
  rw[e];unfold lko at h;by_cases h1:s=p
  ·subst h1
   rw[if_pos rfl]at h ⊢;injection h with h;injection h with h2 h3;subst h2 h3;have hno:goneTo l s q=l:=by
    unfold goneTo;refine (List.map_congr_left fun x hx=>?_).trans (List.map_id _)
    have:=hs'.1 x.1 (List.mem_map.2 ⟨x,hx,rfl⟩);rw[if_neg (by omega)];rfl
   rw[hno];show owes l+rnd o.size=rnd o.size+owes l;omega
  ·rw[if_neg h1]at h ⊢
   have ih:=owes_gone (q:=q) hs'.2 h
   cases g with
   | none =>
    show rnd o.size+owes (goneTo l p q)+rnd ob.size=rnd o.size+owes l;omega
   | some r=>exact ih
theorem owes_ge:∀ {l:List (Nat×Ob×Option Nat)}{p:Nat}{ob:Ob},lko l p=some (ob,none)→rnd ob.size≤owes l
 | [],p,ob,h=>by simp[lko]at h
 | (s,o,g)::l,p,ob,h=>by
  unfold lko at h;split at h
  ·injection h with h
   injection h with h2 h3;subst h2 h3;show rnd o.size≤rnd o.size+owes l;omega
  ·have ih:=owes_ge h
   cases g with
   | none=>show rnd ob.size≤rnd o.size+owes l;omega
   | some r=>exact ih
def Hp.moved (H:Hp)(p:Nat):Hp×Nat:=
 match lko H.old p with
 | none=>(H,p)
 | some (_,some q)=>(H,q)
 | some (ob,none)=>({ H with cur:=H.cur++[(H.top,ob)],top:=H.top+rnd ob.size,old:=goneTo H.old p H.top,owed:=H.owed-rnd ob.size },H.top)
theorem Hp.moved_none {H:Hp}{p:Nat}(h:lko H.old p=none):H.moved p=(H,p):=by unfold Hp.moved;rw[h]
theorem Hp.moved_gone {H:Hp}{p q:Nat}{ob:Ob}(h:lko H.old p=some (ob,some q)):H.moved p=(H,q):=by unfold Hp.moved;rw[h]
theorem Hp.moved_new {H:Hp}{p:Nat}{ob:Ob}(h:lko H.old p=some (ob,none)):H.moved p=({ H with cur:=H.cur++[(H.top,ob)],top:=H.top+rnd ob.size,old:=goneTo H.old p H.top,owed:=H.owed-rnd ob.size },H.top):=by unfold Hp.moved;rw[h]
theorem old_ob {H:Hp}(hk:H.ok){p:Nat}{ob:Ob}{g:Option Nat}(h:lko H.old p=some (ob,g)):ob.ok∧H.base (!H.use)≤p∧p+rnd ob.size≤H.base (!H.use)+H.size∧p+ob.size≤2*H.size+1:=by
 have hm:(p,ob) ∈ H.olds:=List.mem_map.2 ⟨(p,ob,g),lko_mem h,rfl⟩;have h1:=laid_mem _ _ _ hk.ol _ hm;have h2:=hk.ok _ hm;have h3:=rnd_ge _ (Ob.size_bd h2).2;have h4:=hk.ot;have h5:=H.base_bd (!H.use);simp only at h1 h2 h3;exact⟨h2,h1.1,by omega,by omega⟩
theorem base_top {H:Hp}(hk:H.ok):H.base H.use≤H.top:=laid_le _ _ _ hk.cl
theorem Hp.moved_ok {H:Hp}(hk:H.ok)(p:Nat):(H.moved p).1.ok:=by
 cases h:lko H.old p with
 | none=>rw[H.moved_none h];exact hk
 | some x =>
  obtain⟨ob,g⟩:=x
  cases g with
  | some q=>rw[H.moved_gone h];exact hk
  | none =>
   rw[H.moved_new h];obtain⟨ho,_,_,_⟩:=old_ob hk h;have hg:=owes_gone (q:=H.top) (old_sorted hk) h;have hr:=hk.room;have hw:=hk.owe;have hb:=base_top hk;have hb1:=H.base_bd H.use;have hsz:=hk.sz;refine⟨hk.sz,laid_snoc _ _ _ _ hk.cl,fun x hx=>?_,?_,?_,hk.ot,fun hm=>?_,?_,?_,hk.ser,hk.scn,fun x hx q hq=>?_⟩
   ·rcases List.mem_append.1 hx with hx|hx
    ·exact hk.ck x hx
    ·rw[List.mem_singleton.1 hx];exact ho
   ·show laid _ ((goneTo H.old p H.top).map _) _
    rw[goneTo_olds];exact hk.ol
   ·show OksL ((goneTo H.old p H.top).map _)
    rw[goneTo_olds];exact hk.ok
   ·have:=hk.still hm
    rw[this]at h;simp[lko]at h
   ·show H.owed-rnd ob.size=owes (goneTo H.old p H.top)
    omega
   ·show H.top+rnd ob.size+(H.owed-rnd ob.size)≤H.base H.use+H.size
    omega
   ·unfold goneTo at hx
    obtain⟨z,hz,rfl⟩:=List.mem_map.1 hx;split at hq
    ·injection hq with hq;subst hq;omega
    ·exact hk.gone z hz q hq
end Go.Proofs.YteehgedabdchcaaGreat
namespace Go.Proofs.YteehgedabdchcaaGreat
open Go.RowKit Hp
attribute [local go_sem ↓] Go.wp_at_zero Go.wp_at_succ
variable {w : World} {a wd L : Nat} {f : Nat → Nat} {p : Nat} {ob : Ob}
def copF (f:Nat→Nat)(p t n:Nat):Nat→Nat:=upd (mvF f p t n) p (4*t+2)
theorem copF_new {f:Nat→Nat}{p t n j:Nat}(h1:t≤j)(h2:j<t+n)(hp:p<t∨t+n≤p):copF f p t n j=f (p+(j-t)):=by
 unfold copF;rw[upd_ne _ _ _ _ (by omega)];unfold mvF;rw[if_pos ⟨h1,h2⟩]
theorem copF_at (f:Nat→Nat)(p t n:Nat):copF f p t n p=4*t+2:=upd_at _ _ _
theorem copF_other {f:Nat→Nat}{p t n j:Nat}(h:j<t∨t+n≤j)(hp:j≠p):copF f p t n j=f j:=by
 unfold copF;rw[upd_ne _ _ _ _ hp];unfold mvF;rw[if_neg (by omega)]
theorem ObAt.copied (ho:ObAt f p ob)(hk:ob.ok){t:Nat}(hp:p+ob.size≤t∨t+ob.size≤p):ObAt (copF f p t ob.size) t ob:=by
 have hs:=Ob.size_bd hk;have key:∀ k,k<ob.size→copF f p t ob.size (t+k)=f (p+k):=fun k hk=>by
  rw[copF_new (by omega) (by omega) (by omega),show p+(t+k-t)=p+k from by omega]
 unfold Ob.size at key hs;refine⟨?_,?_,?_,fun j x hx=>?_,fun j n hn=>?_⟩
 ·have:=key 0 (by omega)
  rw[Nat.add_zero,Nat.add_zero]at this;unfold Ob.size;rw[this];exact ho.h0
 ·unfold Ob.size;rw[key 1 (by omega)];exact ho.h1
 ·unfold Ob.size;rw[key 2 (by omega)];exact ho.h2
 ·have:=(List.getElem?_eq_some_iff.1 hx).1
  rw[hk.lp]at this;unfold Ob.size;rw[show t+3+j=t+(3+j) from by omega,key (3+j) (by omega),show p+(3+j)=p+3+j from by omega];exact ho.hp j x hx
 ·have:=(List.getElem?_eq_some_iff.1 hn).1
  rw[hk.ln]at this;unfold Ob.size;rw[show t+3+ob.shp.p+j=t+(3+ob.shp.p+j) from by omega,key (3+ob.shp.p+j) (by omega),show p+(3+ob.shp.p+j)=p+3+ob.shp.p+j from by omega];exact ho.hn j n hn
theorem Wr.set_new {b c:Nat}{w w':World}(h:Wr b w w')(hc:w.heap.size≤c)(i:Nat)(v:Value):Wr b w (w'.setCell ⟨c,i,none⟩ v):=
 ⟨h.os,h.tape,h.output,by simpa [World.setCell] using h.size,fun k hk hn=>(Below.heap_setCell _ _ _ _ (by show k≠c;omega)).trans (h.block k hk hn)⟩
theorem Wds.set_new {w':World}(h:Wds w' a wd L f){c:Nat}(h1:a≠c)(h2:wd≠c)(i:Nat)(v:Value):Wds (w'.setCell ⟨c,i,none⟩ v) a wd L f:=h.wr (Wr.set c w' i v) h1 h2
theorem copy_any (h:Wds w a wd L f)(ho:ObAt f p ob)(hk:ob.ok)(hl:p+ob.size≤L){b s t:Nat}(hsp:SpOk b s t)(hr:t+rnd ob.size≤b+s)(ht:t+ob.size≤L)(t1:1≤t) :
  Calls Tryz.prog 235 #[.pointer (some ⟨a,0,none⟩),.int .i64 p,spV b s t] w fun e w'=>e=.returned (.tuple #[spV b s (t+rnd ob.size),.int .i64 t,.int .i64 0])∧Turned w w' a wd L (copF f p t ob.size):=by
 have hs:=Ob.size_bd hk;have hL:=h.le;have HA:=Lib.hid (fun (W:World)(hb:Below w.heap.size w W)=>mat_ob (h.below hb) ho hk hl)
 have HS:=Lib.hid (fun (W:World)(hb:Below w.heap.size w W)=>oshape_any (h.below hb) ho hk hl p rfl)
 have HZ:=Lib.hid (fun w=>hsize_any ob.shp hk.shp w)
 have HT:=Lib.hid (fun w=>take_any hsp ob.size hs.1 hs.2 hr _ rfl w)
 have HN:=Lib.hid (fun (W:World)(hb:Below w.heap.size w W)=>ar_len (h.below hb))
 have HG:=Lib.hid (fun w=>gone_yes t t1 (by omega) t rfl w)
 have HM:=Lib.hid (fun (W:World)(hb:Below w.heap.size w W)=>ar_move (h.below hb) p t ob.size hl ht (by omega) p t ob.size rfl rfl rfl)
 have HW:=Lib.hid (fun (W:World)(h:Wds W a wd L (mvF f p t ob.size))=>ar_store h p p (4*t+2) rfl (by omega) ((4*t+2:Nat):Int) rfl)
 have hwd:=h.lt;have hla:=h.arena.lt;have ez:(3+ob.shp.p+ob.shp.d)=ob.size:=rfl;rw[ez]at HZ;have g1:¬((ob.size:Int) > (L:Int)-(t:Int)):=by omega
 have g2:((t:Int)==0)=false:=by rw[beq_eq_false_iff_ne];omega
 have g3:IntKind.i64.wrap ((L:Int)-(t:Int))=(L:Int)-(t:Int):=IntWalk.i64_in _ (by omega)
 generalize hrd:t+rnd ob.size=tr at *;generalize ob.size=n at *;obtain⟨c4,hc4⟩:∃ c:Nat,c=4*t+2:=⟨_,rfl⟩;have HC4:=Lib.hid hc4;rw[←hc4]at HG HW;clear h ho hk hs hL hsp hr hrd hl ht ez hc4;obtain⟨W,hW⟩:∃ W,W=(w.alloc (.cells #[.int .i64 b,.int .i64 s,.int .i64 t] 181)).alloc (.cells #[.int .i64 0,.int .i64 0,.int .i64 0] 181):=⟨_,rfl⟩;have bW:Below w.heap.size w W:=by rw[hW];exact balloc (balloc (bsame _) _) _
 have jS:Blk W w.heap.size #[.int .i64 b,.int .i64 s,.int .i64 t] 181:=by rw[hW];exact (Blk.new _ _ _).alloc _
 have jR:Blk W (w.heap.size+1) #[.int .i64 0,.int .i64 0,.int .i64 0] 181:=by rw[hW];exact Blk.new_at _ _ _ _ _ (by simp) rfl
 go_enter Tryz.func235,Tryz.ntmps235;go_wp2_with fail;rw[←hW];clear hW;obtain⟨bS,hbS⟩:∃ x,x=w.heap.size:=⟨_,rfl⟩;obtain⟨bR,hbR⟩:∃ x,x=w.heap.size+1:=⟨_,rfl⟩;rw[←hbR]at jR ⊢;rw[←hbS]at jS ⊢;have HNew:=Lib.hid (show w.heap.size≤bS∧w.heap.size≤bR∧bS≠bR from by omega)
 clear hbS hbR;refine (HA.out _ bW).mono ?_
 rintro e w1 ⟨rfl,rfl⟩
 go_wp2_with fail;refine (HS.out _ bW).mono ?_
 rintro e w2 ⟨rfl,hb2⟩
 have bW2:=btrans bW hb2;have jS2:=jS.below hb2 jS.lt;have jR2:=jR.below hb2 jR.lt;clear hb2 jS jR bW HA HS;go_wp2_with fail;refine (HZ.out _).mono ?_
 rintro e w3 ⟨rfl,hb3⟩
 have bW3:=btrans (balloc bW2 (.cells #[.int .i64 ob.shp.p,.int .i64 ob.shp.d,.bool ob.shp.weak,.bool ob.shp.final] 93)) hb3;have jS3:=(jS2.alloc (.cells #[.int .i64 ob.shp.p,.int .i64 ob.shp.d,.bool ob.shp.weak,.bool ob.shp.final] 93)).below hb3 (jS2.alloc _).lt;have jR3:=(jR2.alloc (.cells #[.int .i64 ob.shp.p,.int .i64 ob.shp.d,.bool ob.shp.weak,.bool ob.shp.final] 93)).below hb3 (jR2.alloc _).lt;have cS:=jS3.cell;clear hb3 jS2 jR2 bW2 HZ;go_wp2_with fail;refine (HT.out _).mono ?_
 rintro e w4 ⟨rfl,hb4⟩
 have bW4:=btrans bW3 hb4;have jR4:=jR3.below hb4 jR3.lt;clear hb4 jS3 jR3 bW3 HT cS;have bW5:=balloc bW4 (.cells #[.int .i64 b,.int .i64 s,.int .i64 tr] 181);have jA5:=Blk.new w4 #[.int .i64 b,.int .i64 s,.int .i64 tr] 181;have jR5:=jR4.alloc (.cells #[.int .i64 b,.int .i64 s,.int .i64 tr] 181);have hA4:w.heap.size≤w4.heap.size:=bW4.size;obtain⟨W5,hW5⟩:∃ W,W=w4.alloc (.cells #[.int .i64 b,.int .i64 s,.int .i64 tr] 181):=⟨_,rfl⟩;rw[←hW5]at bW5 jA5 jR5;obtain⟨bA,hbA⟩:∃ x,x=w4.heap.size:=⟨_,rfl⟩;rw[←hbA]at jA5 hA4;clear jR4 bW4;go_wp2_with fail;rw[←hW5,←hbA];clear hW5 hbA;refine (HN.out _ bW5).mono ?_
 rintro e w6 ⟨rfl,rfl⟩
 go_wp2_with fail;refine (HG.out _).mono ?_
 rintro e w6 ⟨rfl,rfl⟩
 go_wp2_with fail;refine (HM.out _ bW5).mono ?_
 rintro e w7 ⟨rfl,hT7⟩
 have jA7:=jA5.wr hT7.2 (by omega)
 have jR7:=jR5.wr hT7.2 (by have:=HNew.out;omega)
 go_wp2_with fail;refine (HW.out _ hT7.1).mono ?_
 rintro e w8 ⟨rfl,hT8⟩
 have jA8:=jA7.wr hT8.2 (by omega)
 have jR8:=jR7.wr hT8.2 (by have:=HNew.out;omega)
 have cA:=jA8.cell;have cR:=jR8.cell;have zR:=jR8.free;have lR:=jR8.lt;have hT:=((Turned.after bW5 hT7).2).trans hT8.2;have hW8:=hT8.1;clear hT7 hT8 jA5 jR5 jA7 jR7 bW5 HM HW HN HG;go_wp2_with fail;refine bodyPost_ret (v:=.tuple #[spV b s tr,.int .i64 t,.int .i64 0]) (by simp[results,Tryz.results235,go_sem,cR]) rfl ⟨rfl,?_⟩
 have h1:a≠bR:=by have:=HNew.out;omega
 have h2:wd≠bR:=by have:=HNew.out;omega
 have h3:w.heap.size≤bR:=HNew.out.2.1;unfold copF;rw[←HC4.out];refine⟨?_,?_⟩
 ·repeat (first|exact hW8|refine Wds.set_new ?_ h1 h2 _ _)
 ·repeat (first|exact hT|refine Wr.set_new ?_ h3 _ _)
section
variable {w : World} {o : Own} {l : HLay} {H : Hp} {vc vo vw vf : Value} {f : Nat → Nat}
theorem there_any (h:HpIn w o l H vc vo vw vf f) (hk:H.ok) (p:Nat) :
  Calls Tryz.prog 172 #[.pointer (some ⟨l.h,0,none⟩),.int .i64 p] w fun e w'=>e=.returned (.bool (lko H.old p).isSome)∧Below w.heap.size w w':=by
 have HM:=Lib.hid (moving_any h)
 cases hm:H.moving with
 | false =>
  rw[hm]at HM;rw[hk.still hm];clear h hm hk;go_enter Tryz.func172,Tryz.ntmps172;go_wp2_with fail;refine HM.out.mono ?_
  rintro e w1 ⟨rfl,rfl⟩
  go_wp2_with fail;go_ret;exact⟨rfl,bsame _⟩
 | true =>
  rw[hm]at HM;have hbs:=fun (w':World) (hw:Below w.heap.size w w')=>bsearch_any (w:=w') (o:=o) (t:=(l.id,if H.use then 3 else 4)) (v:=vo) (H.old.map (·.1)) (by simpa [List.map_map,Function.comp_def] using h.ro.below hw) (old_sorted hk) (by have:=old_len hk;simpa using by omega) p p rfl
  have hd:decide (p ∈ H.old.map (·.1))=(lko H.old p).isSome:=by rw[Bool.eq_iff_iff,decide_eq_true_eq,lko_some]
  rw[hd]at hbs;generalize (((H.old.map (·.1)).map fun (p:Nat)=>(p:Int)).countP (·<(p:Int)):Nat)=q at hbs
  generalize (lko H.old p).isSome=b at *;have c:=h.hb.cell;unfold Hp.cells at c;have HB:=Lib.hid hbs;clear h hbs hd hm
  cases hu:H.use
  all_goals
   rw[hu]at c;first|rw[if_pos rfl]at c|rw[if_neg (by simp)]at c
   clear hu;go_enter Tryz.func172,Tryz.ntmps172;go_wp2_with fail;refine HM.out.mono ?_
   rintro e w1 ⟨rfl,rfl⟩
   go_upto_region 3 with fail;go_quiet ((go_at_call 124;exact Calls.quiet_of (HB.out _ (bdrewN (bsame w) _))));go_wp2_with fail;go_ret;exact⟨rfl,bdrewN (bsame w) _⟩
end
theorem taken_t {w:World}{o:Own}{tg t0:Tag}{h n sz top otop:Nat}{ps:List Value}{v0 x0 x1 x2 x3 x4 x5 vc vo:Value}(hb:Blk w h #[v0,.int .i64 1,.int .i64 sz,.int .i64 otop,.int .i64 (1+(sz:Int)),.int .i64 sz,.int .i64 top,vo,vc,.int .i64 1,x0,x1,x2,x3,x4,x5] 185)
  (hr:Row w o tg 3 1 vc n ps)(hn:n<16384)(hoh:o h=t0)(ht:t0≠tg)(p t:Nat) :
  Calls Tryz.prog 230 #[.pointer (some ⟨h,0,none⟩),(.agg #[.int .i64 (1+(sz:Int)),.int .i64 sz,.int .i64 t]),.int .i64 p] w fun e w'=>e=.returned (.tuple #[]) ∧
   ∃ vc' o',Blk w' h #[v0,.int .i64 1,.int .i64 sz,.int .i64 otop,.int .i64 (1+(sz:Int)),.int .i64 sz,.int .i64 t,vo,vc',.int .i64 1,x0,x1,x2,x3,x4,x5] 185∧Row w' o' tg 3 1 vc' (n+1) (ps++[nv p])∧Stp (fun t=>t=t0∨t=tg) o o' w w':=by
 have hu64:=Tryz.underlying25;have c:=hb.cell;have z:=hb.free;have s:=hb.lt;have hne:w.heap.size≠h:=by omega
 go_enter Tryz.func230,Tryz.ntmps230;go_upto_region 1 with fail;have hc9:w.cell? ⟨h,9,none⟩=some (.int .i64 1):=by rw[c];rfl
 obtain⟨W,hW⟩:∃ W:World,W=((((w.setCell ⟨h,4,none⟩ (.int .i64 (1+(sz:Int)))).setCell ⟨h,5,none⟩ (.int .i64 sz)).setCell ⟨h,6,none⟩ (.int .i64 t)).alloc (.cells #[.int .i64 (1+(sz:Int)),.int .i64 sz,.int .i64 t] 181)).drew:=⟨_,rfl⟩;have jW:=Blk.alloc (((hb.set 4 (.int .i64 (1+(sz:Int)))).set 5 (.int .i64 sz)).set 6 (.int .i64 t)) (.cells #[.int .i64 (1+(sz:Int)),.int .i64 sz,.int .i64 t] 181);have jB:=Blk.new_at ((((w.setCell ⟨h,4,none⟩ (.int .i64 (1+(sz:Int)))).setCell ⟨h,5,none⟩ (.int .i64 sz)).setCell ⟨h,6,none⟩ (.int .i64 t))) #[.int .i64 (1+(sz:Int)),.int .i64 sz,.int .i64 t] #[.int .i64 (1+(sz:Int)),.int .i64 sz,.int .i64 t] 181 w.heap.size (by simp) rfl
 have jW:=drewB jW;have jB:=drewB jB;have k9:=jW.cell 9;have b0:=jB.cell 0;have b1:=jB.cell 1;have b2:=jB.cell 2;simp at k9 b0 b1 b2;go_region_held3 (fun w'=>w'.cell? ⟨h,9,none⟩=some (.int .i64 1)∧w'.cell? ⟨w.heap.size,0,none⟩=some (.int .i64 (1+(sz:Int)))∧w'.cell? ⟨w.heap.size,1,none⟩=some (.int .i64 sz)∧w'.cell? ⟨w.heap.size,2,none⟩=some (.int .i64 t)) (go_keep) (fail)
 rw[←hW];have hSt:Stp (fun t=>t=t0) o o w W:=by
  rw[hW];exact ((((((Stp.refl _ o w).setCell (by simpa using hoh) _).setCell (by simpa using hoh) _).setCell (by simpa using hoh) _).alloc _).drew)
 have jW2:Blk W h ((((#[v0,.int .i64 1,.int .i64 sz,.int .i64 otop,.int .i64 (1+(sz:Int)),.int .i64 sz,.int .i64 top,vo,vc,.int .i64 1,x0,x1,x2,x3,x4,x5]:Array Value).setIfInBounds 4 (.int .i64 (1+(sz:Int)))).setIfInBounds 5 (.int .i64 sz)).setIfInBounds 6 (.int .i64 t)) 185:=by rw[hW];exact jW
 simp at jW2;have hr2:=hr.stp hSt (fun e=>ht e.symm)
 clear jW jB k9 b0 b1 b2 hW c z s hc9 hr hb hne;have c:=jW2.cell;have z:=jW2.free;have s:=jW2.lt;go_upto_region 2 with fail;obtain⟨iI,hi,hsI,hyI,hzI⟩:=info_int;have k9:W.cell? ⟨h,9,none⟩=some (.int .i64 1):=by rw[c];rfl
 have k7:W.cell? ⟨h,8,none⟩=some vc:=by rw[c];rfl
 have hml:n+1≤maxLen:=by simp only[maxLen];omega
 have hmb:(n+1)*8≤140737488355328:=by omega
 have jn:=Blk.new W.drew #[.int .i64 p] 3;have rn:Row (W.drew.alloc (.cells #[.int .i64 p] 3)) o tg 3 1 vc n ps:=hr2.below (balloc (bdrew (bsame W)) _);have hkeep:=fun (w1:World)(o1:Own)(hst:Stp (fun u=>u=tg) o o1 (W.drew.alloc (.cells #[.int .i64 p] 3)) w1)=>(Blk.alloc (drewB jW2) (.cells #[.int .i64 p] 3)).stp hst (by rw[hoh];exact ht)
 have hfin:=fun (w1:World)(o1:Own)(pa:Option Addr)(cp:Nat)(hown:Row w1 o1 tg 3 1 (.slice pa (n+1) cp) (n+1) (ps++[.int .i64 p]))(hst:Stp (fun u=>u=tg) o o1 (W.drew.alloc (.cells #[.int .i64 p] 3)) w1) =>
  show ∃ vc' o',Blk (w1.setCell ⟨h,8,none⟩ (.slice pa (n+1) cp)) h #[v0,.int .i64 1,.int .i64 sz,.int .i64 otop,.int .i64 (1+(sz:Int)),.int .i64 sz,.int .i64 t,vo,vc',.int .i64 1,x0,x1,x2,x3,x4,x5] 185∧Row (w1.setCell ⟨h,8,none⟩ (.slice pa (n+1) cp)) o' tg 3 1 vc' (n+1) (ps++[nv p])∧Stp (fun t=>t=t0∨t=tg) o o' w (w1.setCell ⟨h,8,none⟩ (.slice pa (n+1) cp)) from by
   have hlt:h<(W.drew.alloc (.cells #[.int .i64 p] 3)).heap.size:=(Blk.alloc (drewB jW2) _).lt;have ho1:o1 h=t0:=by rw[hst.tags h hlt];exact hoh
   have k1:Stp (fun t=>t=t0) o1 o1 w1 (w1.setCell ⟨h,8,none⟩ (.slice pa (n+1) cp)):=(Stp.refl _ o1 w1).setCell (by simpa using ho1) _
   refine⟨_,o1,(hkeep _ _ hst).set 8 _,hown.stp k1 (fun e=>ht e.symm),?_⟩
   exact ((hSt.mono fun _ e=>Or.inl e).trans (Stp.of_below (balloc (bdrew (bsame W)) _))).trans ((hst.mono fun _ e=>Or.inr e).trans (k1.mono fun _ e=>Or.inl e))
 go_region_law ((refine step_append_row _ (by rfl) _ _ _ (by rfl) 3 iI _ 1 8 hu64 hi hzI hsI hyI (by rfl) (by decide) o tg vc n ps (by rfl) rn ⟨W.heap.size,0,none⟩ 1 1 [.int .i64 p] (by rfl) (by rfl) (news_one jn) one_i64 hml hmb ?_;intro v' w1 hown hst;obtain⟨pa,cp,rfl⟩:=hown.slc;have jX:=hkeep _ _ hst;have cX:=jX.cell;have zX:=jX.free;have sX:=jX.lt))
 all_goals
  go_wp2_with fail;go_end0;exact⟨rfl,hfin _ _ _ _ hown hst⟩
section
variable {w : World} {o : Own} {l : HLay} {H : Hp} {vc vo vw vf : Value} {f : Nat → Nat}
def HLay.tc (l:HLay)(u:Bool):Tag:=(l.id,if u then 4 else 3)
def HLay.to' (l:HLay)(u:Bool):Tag:=(l.id,if u then 3 else 4)
theorem taken_any (hb:Blk w l.h (H.cells l.a vc vo vw vf) 185){n:Nat}{ps:List Value}(hr:Row w o (l.tc H.use) 3 1 vc n ps)(hn:n<16384)(hoh:o l.h=(l.id,0))(p t:Nat) :
  Calls Tryz.prog 230 #[.pointer (some ⟨l.h,0,none⟩),spV (H.base H.use) H.size t,.int .i64 p] w fun e w'=>e=.returned (.tuple #[]) ∧
   ∃ vc' o',Blk w' l.h ({ H with top:=t }.cells l.a vc' vo vw vf) 185∧Row w' o' (l.tc H.use) 3 1 vc' (n+1) (ps++[nv p])∧Stp (fun t=>t=(l.id,0)∨t=l.tc H.use) o o' w w':=by
 rcases (show H.use=false∨H.use=true by cases H.use<;>simp) with hu|hu
 ·have htc:l.tc H.use=l.tc false:=by rw[hu]
  have hba:H.base H.use=H.base false:=by rw[hu]
  rw[htc]at hr ⊢;rw[hba];have e1:∀ (t:Nat)(v1:Value),{ H with top:=t }.cells l.a v1 vo vw vf=#[.pointer (some ⟨l.a,0,none⟩),.int .i64 1,.int .i64 H.size,.int .i64 t,.int .i64 (1+(H.size:Int)),.int .i64 H.size,.int .i64 H.otop,v1,vo,.int .i64 0,.bool H.moving,.int .i64 H.owed,.int .i64 H.scan,.int .i64 H.serial,vw,vf]:=fun t v1=>by
   unfold Hp.cells;simp only[hu,Bool.false_eq_true,if_false]
  have hb':=hb;rw[show H.cells l.a vc vo vw vf={ H with top:=H.top }.cells l.a vc vo vw vf from rfl,e1]at hb';refine (taken_f hb' hr hn hoh (by unfold HLay.tc;simp) p t).mono ?_
  rintro e w' ⟨rfl,vc',o',h1,h2,h3⟩
  exact⟨rfl,vc',o',by rw[e1];exact h1,h2,h3⟩
 ·have htc:l.tc H.use=l.tc true:=by rw[hu]
  have hba:H.base H.use=H.base true:=by rw[hu]
  rw[htc]at hr ⊢;rw[hba];have e1:∀ (t:Nat)(v1:Value),{ H with top:=t }.cells l.a v1 vo vw vf=#[.pointer (some ⟨l.a,0,none⟩),.int .i64 1,.int .i64 H.size,.int .i64 H.otop,.int .i64 (1+(H.size:Int)),.int .i64 H.size,.int .i64 t,vo,v1,.int .i64 1,.bool H.moving,.int .i64 H.owed,.int .i64 H.scan,.int .i64 H.serial,vw,vf]:=fun t v1=>by
   unfold Hp.cells;simp only[hu,if_true]
  have hb':=hb;rw[show H.cells l.a vc vo vw vf={ H with top:=H.top }.cells l.a vc vo vw vf from rfl,e1]at hb';have e2:spV (H.base true) H.size t=.agg #[.int .i64 (1+(H.size:Int)),.int .i64 H.size,.int .i64 t]:=by
   show Value.agg #[.int .i64 ((1+H.size:Nat):Int),_,_]=_;rw[show ((1+H.size:Nat):Int)=1+(H.size:Int) from by omega]
  rw[e2];refine (taken_t hb' hr hn hoh (by unfold HLay.tc;simp) p t).mono ?_
  rintro e w' ⟨rfl,vc',o',h1,h2,h3⟩
  exact⟨rfl,vc',o',by rw[e1];exact h1,h2,h3⟩
theorem copy_gone {a wd L p q b s t:Nat}(h:Wds w a wd L f)(hp:p<L)(h1:1≤q)(h2:q≤131072)(hf:f p=4*q+2) :
  Calls Tryz.prog 235 #[.pointer (some ⟨a,0,none⟩),.int .i64 p,spV b s t] w fun e w'=>e=.returned (.tuple #[spV b s t,.int .i64 q,.int .i64 0])∧Below w.heap.size w w':=by
 have HA:=Lib.hid (fun (W:World)(hb:Below w.heap.size w W)=>mat_gone (h.below hb) hp q h1 h2 hf)
 clear h hp h1 h2 hf;obtain⟨W,hW⟩:∃ W,W=(w.alloc (.cells #[.int .i64 b,.int .i64 s,.int .i64 t] 181)).alloc (.cells #[.int .i64 0,.int .i64 0,.int .i64 0] 181):=⟨_,rfl⟩;have bW:Below w.heap.size w W:=by rw[hW];exact balloc (balloc (bsame _) _) _
 have jS:Blk W w.heap.size #[.int .i64 b,.int .i64 s,.int .i64 t] 181:=by rw[hW];exact (Blk.new _ _ _).alloc _
 have jR:Blk W (w.heap.size+1) #[.int .i64 0,.int .i64 0,.int .i64 0] 181:=by rw[hW];exact Blk.new_at _ _ _ _ _ (by simp) rfl
 go_enter Tryz.func235,Tryz.ntmps235;go_wp2_with fail;rw[←hW];clear hW;refine (HA.out _ bW).mono ?_
 rintro e w1 ⟨rfl,rfl⟩
 have cS:=jS.cell;have cR:=jR.cell;have zR:=jR.free;have lR:=jR.lt;go_wp2_with fail;refine bodyPost_ret (v:=.tuple #[spV b s t,.int .i64 q,.int .i64 0]) (by simp[results,Tryz.results235,go_sem,cR]) rfl ⟨rfl,?_⟩
 repeat (first|exact bW|refine bset ?_ (by show w.heap.size≤w.heap.size+1;omega) _)
end
end Go.Proofs.YteehgedabdchcaaGreat
namespace Go.Proofs.YteehgedabdchcaaGreat
open Hp
theorem lk_app (l m:List (Nat×Ob))(p:Nat):lk (l++m) p=(lk l p).or (lk m p):=by
 induction l with
 | nil=>simp[lk]
 | cons x l ih =>
  obtain⟨q,o⟩:=x;show (if q=p then some o else lk (l++m) p)=Option.or (if q=p then some o else lk l p) (lk m p)
  split
  ·simp
  ·exact ih
theorem lk_app_some {l:List (Nat×Ob)}{p:Nat}{ob:Ob}(h:lk l p=some ob)(m:List (Nat×Ob)):lk (l++m) p=some ob:=by rw[lk_app,h];rfl
theorem lk_none_of {l:List (Nat×Ob)}{b t p:Nat}(hl:laid b l t)(hk:OksL l)(hp:t≤p):lk l p=none:=by
 cases h:lk l p with
 | none=>rfl
 | some ob =>
  have h1:=laid_mem _ _ _ hl _ (lk_mem h);have h2:=rnd_ge _ (Ob.size_bd (hk _ (lk_mem h))).2;simp only at h1 h2;omega
theorem lk_top {H:Hp}(hk:H.ok)(ob:Ob):lk (H.cur++[(H.top,ob)]) H.top=some ob:=by
 rw[lk_app,lk_none_of hk.cl hk.ck (Nat.le_refl _)];simp[lk]
theorem laid_app:∀ (l m:List (Nat×Ob))(b t:Nat),laid b (l++m) t→∃ s,laid b l s∧laid s m t
 | [],m,b,t,h=>⟨b,rfl,h⟩
 | (p,o)::l,m,b,t,h=>by
  obtain⟨s,h1,h2⟩:=laid_app l m _ t h.2;exact⟨s,⟨h.1,h1⟩,h2⟩
def ScanAt (H:Hp):Prop:=∃ a b,H.cur=a++b∧laid (H.base H.use) a H.scan
structure Hp.wf (H:Hp):Prop where
 ok:H.ok
 wl:H.weak.length≤H.serial
 fl:H.final.length≤H.serial
 sc:H.moving=true→ScanAt H
 gn:∀ x ∈ H.old,∀ q,x.2.2=some q→∃ ob,lk H.cur q=some ob∧ob.shp=x.2.1.shp
 wk:∀ p ∈ H.weak,(∃ ob,lk H.cur p=some ob∧1≤ob.shp.p)∨∃ z,lko H.old p=some z∧1≤z.1.shp.p
theorem lk_moved {H:Hp}{p q:Nat}{ob:Ob}(h:lk H.cur q=some ob):lk (H.moved p).1.cur q=some ob:=by
 unfold Hp.moved;split
 ·exact h
 ·exact h
 ·exact lk_app_some h _
theorem moved_same {H:Hp}(p:Nat):(H.moved p).1.size=H.size∧(H.moved p).1.use=H.use∧(H.moved p).1.moving=H.moving∧(H.moved p).1.scan=H.scan∧(H.moved p).1.serial=H.serial∧(H.moved p).1.weak=H.weak∧(H.moved p).1.final=H.final∧(H.moved p).1.otop=H.otop:=by
 unfold Hp.moved;split<;>exact⟨rfl,rfl,rfl,rfl,rfl,rfl,rfl,rfl⟩
theorem goneTo_mem {l:List (Nat×Ob×Option Nat)}{p q:Nat}{x:Nat×Ob×Option Nat}(h:x ∈ goneTo l p q):x ∈ l∨(x.1=p∧x.2.2=some q∧∃ y ∈ l,y.1=p∧y.2.1=x.2.1):=by
 unfold goneTo at h;obtain⟨z,hz,rfl⟩:=List.mem_map.1 h;split
 ·rename_i e;exact .inr ⟨e,rfl,z,hz,e,rfl⟩
 ·exact .inl hz
theorem lko_uniq {H:Hp}(hk:H.ok){x y:Nat×Ob×Option Nat}(hx:x ∈ H.old)(hy:y ∈ H.old)(e:x.1=y.1):x.2.1=y.2.1:=by
 have h1:(x.1,x.2.1) ∈ H.olds:=List.mem_map.2 ⟨x,hx,rfl⟩;have h2:(x.1,y.2.1) ∈ H.olds:=List.mem_map.2 ⟨y,hy,by rw[e]⟩
 exact lk_uniq hk.ol hk.ok h1 h2
theorem Hp.moved_wf {H:Hp}(h:H.wf)(p:Nat):(H.moved p).1.wf:=by
 obtain⟨s1,s2,s3,s4,s5,s6,s7,s8⟩:=moved_same (H:=H) p;refine⟨Hp.moved_ok h.ok p,by rw[s5,s6];exact h.wl,by rw[s5,s7];exact h.fl,fun hm=>?_,?_,fun q hq=>?_⟩
 ·obtain⟨a,b,e,hl⟩:=h.sc (by rw[←s3];exact hm)
  unfold ScanAt Hp.base;rw[s1,s2,s4];unfold Hp.moved;split
  ·exact⟨a,b,e,hl⟩
  ·exact⟨a,b,e,hl⟩
  ·exact⟨a,b++[_],by show H.cur++_=_;rw[e,List.append_assoc],hl⟩
 ·cases hp:lko H.old p with
  | none=>rw[H.moved_none hp];exact h.gn
  | some z =>
   obtain⟨ob,g⟩:=z
   cases g with
   | some q=>rw[H.moved_gone hp];exact h.gn
   | none =>
    rw[H.moved_new hp];intro x hx q hq;rcases goneTo_mem (show x ∈ goneTo H.old p H.top from hx) with hx|⟨e1,e2,y,hy,e3,e4⟩
    ·obtain⟨ob',h1,h2⟩:=h.gn x hx q hq
     exact⟨ob',lk_app_some h1 _,h2⟩
    ·rw[e2]at hq
     injection hq with hq;subst hq;refine⟨ob,lk_top h.ok ob,?_⟩;have h5:=lko_uniq h.ok (lko_mem hp) hy (by rw[e3])
     simp only at h5;rw[←e4,←h5]
 ·rw[s6]at hq
  rcases h.wk q hq with ⟨ob,h1,h2⟩|⟨z,h1,h2⟩
  ·exact .inl ⟨ob,lk_moved h1,h2⟩
  ·refine .inr ?_
   unfold Hp.moved;split
   ·exact⟨z,h1,h2⟩
   ·exact⟨z,h1,h2⟩
   ·show ∃ z,lko (goneTo H.old p H.top) q=some z∧_
    rw[lko_gone];split
    ·rename_i e;subst e;rw[h1];exact⟨_,rfl,h2⟩
    ·exact⟨z,h1,h2⟩
def Hp.movedL (H:Hp):List Nat→Hp×List Nat
 | []=>(H,[])
 | p::l=>(((H.moved p).1.movedL l).1,(H.moved p).2::((H.moved p).1.movedL l).2)
theorem Hp.movedL_wf:∀ (l:List Nat){H:Hp},H.wf→(H.movedL l).1.wf
 | [],_,h=>h
 | p::l,_,h=>Hp.movedL_wf l (Hp.moved_wf h p)
theorem movedL_len:∀ (l:List Nat)(H:Hp),(H.movedL l).2.length=l.length
 | [],_=>rfl
 | _::l,H=>by show (_::_).length=_;simp[movedL_len l]
theorem lk_movedL:∀ (l:List Nat){H:Hp}{q:Nat}{ob:Ob},lk H.cur q=some ob→lk (H.movedL l).1.cur q=some ob
 | [],_,_,_,h=>h
 | _::l,_,_,_,h=>lk_movedL l (lk_moved h)
theorem movedL_same:∀ (l:List Nat)(H:Hp),(H.movedL l).1.size=H.size∧(H.movedL l).1.use=H.use∧(H.movedL l).1.moving=H.moving∧(H.movedL l).1.scan=H.scan∧(H.movedL l).1.serial=H.serial∧(H.movedL l).1.weak=H.weak∧(H.movedL l).1.final=H.final∧(H.movedL l).1.otop=H.otop
 | [],_=>⟨rfl,rfl,rfl,rfl,rfl,rfl,rfl,rfl⟩
 | p::l,H=>by
  obtain⟨a1,a2,a3,a4,a5,a6,a7,a8⟩:=movedL_same l (H.moved p).1;obtain⟨s1,s2,s3,s4,s5,s6,s7,s8⟩:=moved_same (H:=H) p;exact⟨a1.trans s1,a2.trans s2,a3.trans s3,a4.trans s4,a5.trans s5,a6.trans s6,a7.trans s7,a8.trans s8⟩
theorem top_bd {H:Hp}(hk:H.ok):H.top≤32769:=by
 have:=hk.room;have:=hk.sz;have:=H.base_bd H.use;omega
theorem moved_bd {H:Hp}(hk:H.ok){p:Nat}(hp:p≤131072):(H.moved p).2≤131072:=by
 cases h:lko H.old p with
 | none=>rw[H.moved_none h];exact hp
 | some z =>
  obtain⟨ob,g⟩:=z
  cases g with
  | some q=>rw[H.moved_gone h];exact (hk.gone _ (lko_mem h) q rfl).2
  | none=>rw[H.moved_new h];have:=top_bd hk;show H.top≤_;omega
theorem movedL_bd:∀ (l:List Nat){H:Hp},H.ok→(∀ p ∈ l,p≤131072)→∀ q ∈ (H.movedL l).2,q≤131072
 | [],_,_,_,q,hq=>by cases hq
 | p::l,H,hk,hp,q,hq=>by
  rcases List.mem_cons.1 (show q ∈ (H.moved p).2::_ from hq) with rfl|hq
  ·exact moved_bd hk (hp p (.head _))
  ·exact movedL_bd l (Hp.moved_ok hk p) (fun x hx=>hp x (.tail _ hx)) q hq
theorem up_wf {H:Hp}(h:H.wf){p:Nat}{ob ob':Ob}(hp:lk H.cur p=some ob)(ho:ob'.ok)(hs:ob'.shp=ob.shp):Hp.wf { H with cur:=up H.cur p ob' }:=by
 have hsz:ob'.size=ob.size:=by unfold Ob.size;rw[hs]
 have hup:∀ {q:Nat}{x:Ob},lk H.cur q=some x→∃ y,lk (up H.cur p ob') q=some y∧y.shp=x.shp:=by
  intro q x hq;rw[lk_up];split
  ·rename_i e;subst e;rw[hp]at hq ⊢;injection hq with hq;subst hq;exact⟨_,rfl,hs⟩
  ·exact⟨x,hq,rfl⟩
 refine⟨Hp.ok_up h.ok hp ho hsz,h.wl,h.fl,fun hm=>?_,fun x hx q hq=>?_,fun q hq=>?_⟩
 ·obtain⟨a,b,e,hl⟩:=h.sc hm
  refine⟨up a p ob',up b p ob',?_,?_⟩
  ·show up H.cur p ob'=_
   rw[e];unfold up;simp
  ·refine up_laid _ _ _ _ _ (fun y hy=>?_) hl
   rw[hsz,lk_uniq h.ok.cl h.ok.ck (lk_mem hp) (show (p,y) ∈ H.cur by rw[e];exact List.mem_append.2 (.inl hy))]
 ·obtain⟨y,h1,h2⟩:=h.gn x hx q hq
  obtain⟨z,h3,h4⟩:=hup h1;exact⟨z,h3,h4.trans h2⟩
 ·rcases h.wk q hq with ⟨y,h1,h2⟩|h1
  ·obtain⟨z,h3,h4⟩:=hup h1
   exact .inl ⟨z,h3,by rw[h4];exact h2⟩
  ·exact .inr h1
theorem Hp.wf.obk {H:Hp}(h:H.wf){p:Nat}{ob:Ob}(hp:lk H.cur p=some ob):ob.ok:=h.ok.ck _ (lk_mem hp)
def Hp.ptrR (H:Hp)(p i:Nat):Hp×Nat×Nat:=
 match lk H.cur p with
 | none=>(H,0,70)
 | some ob=>match ob.ptrs[i]? with
  | none=>(H,0,71)
  | some x=>if (lko H.old x).isSome then ({ (H.moved x).1 with cur:=up (H.moved x).1.cur p (ob.setPtr i (H.moved x).2) },(H.moved x).2,0) else (H,x,0)
def Hp.setPtrR (H:Hp)(p i q:Nat):Hp×Nat:=
 match lk H.cur p with
 | none=>(H,70)
 | some ob=>if q≠0∧lk H.cur q=none then (H,70) else if ob.shp.p≤i then (H,71) else ({ H with cur:=up H.cur p (ob.setPtr i q) },0)
def Hp.setNumR (H:Hp)(p i:Nat)(n:Int):Hp×Nat:=
 match lk H.cur p with
 | none=>(H,70)
 | some ob=>if ob.shp.d≤i then (H,71) else ({ H with cur:=up H.cur p (ob.setNum i n) },0)
def Hp.setFreedR (H:Hp)(p:Nat)(b:Bool):Hp×Nat:=
 match lk H.cur p with
 | none=>(H,70)
 | some ob=>({ H with cur:=up H.cur p (ob.setFreed b) },0)
def Hp.setSecondR (H:Hp)(p v:Nat):Hp×Nat:=
 match lk H.cur p with
 | none=>(H,70)
 | some ob=>({ H with cur:=up H.cur p (ob.setSecond v) },0)
theorem plc_bd {H:Hp}(hk:H.ok){q:Nat}(h:¬(q≠0∧lk H.cur q=none)):q≤131072:=by
 by_cases h0:q=0
 ·omega
 ·cases hq:lk H.cur q with
  | none=>exact absurd ⟨h0,hq⟩ h
  | some ob =>
   have h1:=laid_mem _ _ _ hk.cl _ (lk_mem hq);have h2:=top_bd hk;simp only at h1;omega
def Hp.left (H:Hp):Nat:=H.base H.use+H.size-H.top-H.owed
def Hp.roomy (H:Hp)(s:Shp):Bool:=decide (rnd (3+s.p+s.d)≤H.left)&&decide (H.serial<1099511627776)
def Hp.allocR (H:Hp)(s:Shp):Hp×Nat×Nat:=if H.roomy s=true then (H.lay s,H.top,0) else (H,0,100)
theorem Hp.lay_wf {H:Hp} (h:H.wf) {s:Shp} (hs:s.ok) (hr:H.roomy s=true):(H.lay s).wf:=by
 unfold Hp.roomy Hp.left at hr;simp only[Bool.and_eq_true,decide_eq_true_eq]at hr;obtain⟨hr,hser⟩:=hr;have hn:=Ob.new_ok hs (H.serial+1) (by omega)
 have hroom:=h.ok.room;have hrd:=rnd_ge (3+s.p+s.d) (by have:=hs.1;have:=hs.2.1;omega)
 have k:=h.ok;have hcur:∀ {q:Nat} {ob:Ob},lk H.cur q=some ob→lk (H.lay s).cur q=some ob:=fun hq=>lk_app_some hq _
 refine⟨⟨k.sz,laid_snoc _ _ _ _ k.cl,?_,k.ol,k.ok,k.ot,k.still,k.owe,?_,?_,k.scn,k.gone⟩,?_,?_,fun hm=>?_,fun x hx q hq=>?_,fun p hp=>?_⟩
 ·intro x hx
  rcases List.mem_append.1 (show x ∈ H.cur++[(H.top,Ob.new s (H.serial+1))] from hx) with hx|hx
  ·exact k.ck x hx
  ·rw[List.mem_singleton.1 hx];exact hn
 ·show H.top+rnd (3+s.p+s.d)+H.owed≤H.base H.use+H.size
  omega
 ·show H.serial+1≤_
  omega
 ·show List.length (if s.weak then _ else _)≤H.serial+1
  have:=h.wl;split<;>simp<;>omega
 ·show List.length (if s.final then _ else _)≤H.serial+1
  have:=h.fl;split<;>simp<;>omega
 ·obtain⟨a,b,e,hl⟩:=h.sc hm
  exact⟨a,b++[_],by show H.cur++_=_;rw[e,List.append_assoc],hl⟩
 ·obtain⟨ob,h1,h2⟩:=h.gn x hx q hq
  exact⟨ob,hcur h1,h2⟩
 ·have hp':p ∈ (if s.weak then H.weak++[H.top] else H.weak):=hp
  have hold:p ∈ H.weak→(∃ ob,lk (H.lay s).cur p=some ob∧1≤ob.shp.p)∨∃ z,lko (H.lay s).old p=some z∧1≤z.1.shp.p:=fun hp=>by
   rcases h.wk p hp with ⟨ob,h1,h2⟩|h1
   ·exact .inl ⟨ob,hcur h1,h2⟩
   ·exact .inr h1
  split at hp'
  ·rename_i hw
   rcases List.mem_append.1 hp' with hp'|hp'
   ·exact hold hp'
   ·rw[List.mem_singleton.1 hp']
    exact .inl ⟨_,lk_top k _,by show 1≤s.p;have:=(hs.2.2 hw).1;omega⟩
  ·exact hold hp'
def Hp.flip (H:Hp):Hp:=
 { H with use:=!H.use,cur:=[],top:=H.base (!H.use),moving:=true,old:=H.cur.map fun x=>(x.1,x.2,none),otop:=H.top,owed:=H.top-H.base H.use,scan:=H.base (!H.use) }
theorem flip_olds (H:Hp):H.flip.olds=H.cur:=by
 show ((H.cur.map fun x=>(x.1,x.2,(none:Option Nat))).map fun x=>(x.1,x.2.1))=H.cur
 rw[List.map_map];exact List.map_id _
theorem owes_fresh:∀ (l:List (Nat×Ob))(b t:Nat),laid b l t→owes (l.map fun x=>(x.1,x.2,none))=t-b
 | [],b,t,h=>by rw[laid]at h;simp[owes];omega
 | (p,o)::l,b,t,h=>by
  have ih:=owes_fresh l _ _ h.2;have:=laid_le _ _ _ h.2;show rnd o.size+owes (l.map _)=_;omega
theorem lko_fresh (l:List (Nat×Ob))(p:Nat):lko (l.map fun x=>(x.1,x.2,none)) p=(lk l p).map fun o=>(o,none):=by
 induction l with
 | nil=>rfl
 | cons x l ih =>
  obtain⟨q,o⟩:=x;show lko ((q,o,none)::l.map fun x=>(x.1,x.2,none)) p=_
  unfold lko lk;split
  ·rfl
  ·exact ih
theorem Hp.flip_wf {H:Hp}(h:H.wf)(hm:H.moving=false):H.flip.wf:=by
 have k:=h.ok;have hold:=k.still hm;have hroom:=k.room;have hb0:=H.base_bd (!H.use);have hb1:=H.base_bd H.use;have hsz:=k.sz;have htop:=base_top k;refine⟨⟨k.sz,rfl,fun x hx=>(by cases hx),?_,?_,?_,fun hm'=>(by cases hm'),?_,?_,k.ser,?_,?_⟩,h.wl,h.fl,fun _=>⟨[],[],rfl,rfl⟩,?_,?_⟩
 ·rw[flip_olds];show laid (H.base (!(!H.use))) H.cur H.top;rw[Bool.not_not];exact k.cl
 ·rw[flip_olds];exact k.ck
 ·show H.top≤H.base (!(!H.use))+H.size
  rw[Bool.not_not];omega
 ·show H.top-H.base H.use=owes (H.cur.map fun x=>(x.1,x.2,none))
  rw[owes_fresh _ _ _ k.cl]
 ·show H.base (!H.use)+(H.top-H.base H.use)≤H.base (!H.use)+H.size
  omega
 ·show H.base (!H.use)≤65536
  omega
 ·intro x hx q hq
  obtain⟨z,_,rfl⟩:=List.mem_map.1 hx
  cases hq
 ·intro x hx q hq
  obtain⟨z,_,rfl⟩:=List.mem_map.1 hx
  cases hq
 ·intro p hp
  rcases h.wk p hp with ⟨ob,h1,h2⟩|⟨z,h1,h2⟩
  ·refine .inr ⟨(ob,none),?_,h2⟩
   show lko (H.cur.map fun x=>(x.1,x.2,none)) p=_
   rw[lko_fresh,h1];rfl
  ·rw[hold]at h1;simp[lko]at h1
def Hp.scan1 (H:Hp):Hp×Bool:=
 if H.moving=false∨H.scan=H.top then (H,false) else match lk H.cur H.scan with
 | none=>(H,false)
 | some ob=>if ob.shp.weak then ({ H with scan:=H.scan+rnd ob.size },true) else
   ({ (H.movedL ob.ptrs).1 with cur:=up (H.movedL ob.ptrs).1.cur H.scan { ob with ptrs:=(H.movedL ob.ptrs).2 },scan:=H.scan+rnd ob.size },true)
theorem scan_ob {H:Hp}(h:H.wf)(hm:H.moving=true)(hs:H.scan≠H.top):∃ ob,lk H.cur H.scan=some ob∧∃ a b,H.cur=a++(H.scan,ob)::b∧laid (H.base H.use) a H.scan:=by
 obtain⟨a,b,e,hl⟩:=h.sc hm;have hcl:=h.ok.cl;rw[e]at hcl;obtain⟨s,h1,h2⟩:=laid_app a b _ _ hcl;have hu:s=H.scan:=by
  have:∀ (l:List (Nat×Ob))(b s t:Nat),laid b l s→laid b l t→s=t:=by
   intro l;induction l with
   | nil=>intro b s t h1 h2;rw[laid]at h1 h2;omega
   | cons x l ih=>intro b s t h1 h2;exact ih _ _ _ h1.2 h2.2
  exact this _ _ _ _ h1 hl
 subst hu
 cases b with
 | nil=>rw[laid]at h2;exact absurd h2.symm hs
 | cons x b =>
  obtain⟨q,ob⟩:=x;have hq:q=H.scan:=h2.1;subst hq;refine⟨ob,?_,a,b,e,hl⟩;have hk:OksL a:=fun z hz=>h.ok.ck z (by rw[e];exact List.mem_append.2 (.inl hz))
  rw[e,lk_app,lk_none_of hl hk (Nat.le_refl _)];simp[lk]
theorem up_app (a b:List (Nat×Ob))(p:Nat)(o:Ob):up (a++b) p o=up a p o++up b p o:=by unfold up;simp
theorem scan_bd {H:Hp}(h:H.wf){ob:Ob}(hp:lk H.cur H.scan=some ob):H.scan+rnd ob.size≤65536:=by
 have h1:=laid_mem _ _ _ h.ok.cl _ (lk_mem hp);have:=top_bd h.ok;simp only at h1;omega
theorem laid_snoc' {a:List (Nat×Ob)}{b s:Nat}{o:Ob}(h:laid b a s):laid b (a++[(s,o)]) (s+rnd o.size):=laid_snoc a b s o h
theorem cur_movedL:∀ (l:List Nat)(H:Hp),∃ m,(H.movedL l).1.cur=H.cur++m
 | [],H=>⟨[],by simp[Hp.movedL]⟩
 | p::l,H=>by
  obtain⟨m,hm⟩:=cur_movedL l (H.moved p).1;show ∃ m,((H.moved p).1.movedL l).1.cur=_;rw[hm];unfold Hp.moved;split
  ·exact⟨m,rfl⟩
  ·exact⟨m,rfl⟩
  ·exact⟨_::m,by show (H.cur++_)++m=_;rw[List.append_assoc];rfl⟩
theorem rescan_wf {H:Hp}(h:H.wf){n:Nat}(hn:n≤65536)(hs:ScanAt { H with scan:=n }):Hp.wf { H with scan:=n }:=
 ⟨⟨h.ok.sz,h.ok.cl,h.ok.ck,h.ok.ol,h.ok.ok,h.ok.ot,h.ok.still,h.ok.owe,h.ok.room,h.ok.ser,hn,h.ok.gone⟩,h.wl,h.fl,fun _=>hs,h.gn,h.wk⟩
theorem Hp.scan1_wf {H:Hp}(h:H.wf):H.scan1.1.wf:=by
 unfold Hp.scan1;split
 ·exact h
 ·rename_i hc
  have hm:H.moving=true:=by cases hm:H.moving<;>simp[hm]at hc ⊢
  obtain⟨ob,hp,a,b,e,hl⟩:=scan_ob h hm (fun e=>hc (.inr e))
  rw[hp];simp only;have ho:=h.obk hp;split
  ·exact rescan_wf h (scan_bd h hp) ⟨a++[(H.scan,ob)],b,by show H.cur=_;rw[e];simp,laid_snoc' hl⟩
  ·have hw:=Hp.movedL_wf ob.ptrs h
   obtain⟨s1,s2,s3,s4,s5,s6,s7,s8⟩:=movedL_same ob.ptrs H;obtain⟨m,hmm⟩:=cur_movedL ob.ptrs H;have hp':=lk_movedL ob.ptrs hp;have ho':Ob.ok { ob with ptrs:=(H.movedL ob.ptrs).2 }:=⟨ho.shp,by show (H.movedL ob.ptrs).2.length=_;rw[movedL_len];exact ho.lp,ho.ln,movedL_bd _ h.ok ho.ptr,ho.num,ho.ser,ho.sec⟩
   have h2:=up_wf hw (ob':={ ob with ptrs:=(H.movedL ob.ptrs).2 }) hp' ho' rfl;refine rescan_wf (H:={ (H.movedL ob.ptrs).1 with cur:=up (H.movedL ob.ptrs).1.cur H.scan { ob with ptrs:=(H.movedL ob.ptrs).2 } }) h2 (scan_bd h hp) ?_;refine⟨up (a++[(H.scan,ob)]) H.scan { ob with ptrs:=(H.movedL ob.ptrs).2 },up (b++m) H.scan { ob with ptrs:=(H.movedL ob.ptrs).2 },?_,?_⟩
   ·show up (H.movedL ob.ptrs).1.cur H.scan _=_
    rw[hmm,e,←up_app];simp
   ·have hbase:Hp.base { (H.movedL ob.ptrs).1 with cur:=up (H.movedL ob.ptrs).1.cur H.scan { ob with ptrs:=(H.movedL ob.ptrs).2 },scan:=H.scan+rnd ob.size } (H.movedL ob.ptrs).1.use=H.base H.use:=by unfold Hp.base;rw[s2];simp only[s1]
    refine hbase.symm▸?_;refine up_laid (a++[(H.scan,ob)]) _ _ _ _ (fun y hy=>?_) (laid_snoc' hl)
    have hy':(H.scan,y) ∈ H.cur:=by
     rw[e];rcases List.mem_append.1 hy with hy|hy
     ·exact List.mem_append.2 (.inl hy)
     ·rw[List.mem_singleton.1 hy];simp
    rw[lk_uniq h.ok.cl h.ok.ck hy' (lk_mem hp)];rfl
def Hp.nowAt (H:Hp)(p:Nat):Option Nat:=match lko H.old p with|none=>some p|some (_,g)=>g
def Hp.stay (H:Hp)(l:List Nat):List Nat:=l.filterMap H.nowAt
def Hp.gone' (H:Hp)(l:List Nat):List Nat:=l.filter fun p=>(H.nowAt p).isNone
theorem stay_len (H:Hp)(l:List Nat):(H.stay l).length+(H.gone' l).length=l.length:=by
 induction l with
 | nil=>rfl
 | cons p l ih =>
  unfold Hp.stay Hp.gone' at *;rw[List.filterMap_cons,List.filter_cons]
  cases H.nowAt p<;>simp<;>omega
theorem finals_of_wf {H:Hp}(h:H.wf){l:List Nat}(hl:l.length≤H.serial):Hp.wf { H with final:=l }:=
 ⟨⟨h.ok.sz,h.ok.cl,h.ok.ck,h.ok.ol,h.ok.ok,h.ok.ot,h.ok.still,h.ok.owe,h.ok.room,h.ok.ser,h.ok.scn,h.ok.gone⟩,h.wl,hl,h.sc,h.gn,h.wk⟩
def Hp.finals (H:Hp):Hp×List Nat:=
 if H.moving=false then (H,[]) else Hp.movedL { H with final:=H.stay H.final } (H.gone' H.final)
theorem Hp.finals_wf {H:Hp}(h:H.wf):H.finals.1.wf:=by
 unfold Hp.finals;split
 ·exact h
 ·refine Hp.movedL_wf _ (finals_of_wf h ?_)
  have:=stay_len H H.final;have:=h.fl;omega
def Hp.drop1 (H:Hp)(at':Nat):Hp×List Nat:=
 match lk H.cur at' with
 | none=>(H,[])
 | some ob=>match ob.ptrs[0]? with
  | none=>(H,[])
  | some x=>match lko H.old x with
   | none=>(H,[])
   | some (_,some q)=>({ H with cur:=up H.cur at' (ob.setPtr 0 q) },[])
   | some (_,none)=>({ H with cur:=up H.cur at' (ob.setPtr 0 0) },[ob.serial])
def Hp.dropL (H:Hp):List Nat→Hp×List Nat
 | []=>(H,[])
 | p::l=>(((H.drop1 p).1.dropL l).1,(H.drop1 p).2++((H.drop1 p).1.dropL l).2)
def Hp.rest (H:Hp):Hp:={ H with old:=[],otop:=H.base (!H.use),moving:=false,owed:=0 }
def Hp.settled (H:Hp):Hp:={ H with weak:=H.stay H.weak,final:=H.stay H.final }
def Hp.drop (H:Hp):Hp×List Nat×Bool:=
 if H.moving=false∨H.scan≠H.top then (H,[],false) else
  ((H.settled.dropL H.settled.weak).1.rest,(H.settled.dropL H.settled.weak).2,true)
theorem Hp.drop1_wf {H:Hp}(h:H.wf)(p:Nat):(H.drop1 p).1.wf:=by
 unfold Hp.drop1;split
 ·exact h
 ·rename_i ob hp
  split
  ·exact h
  ·split
   ·exact h
   ·rename_i x q hx
    exact up_wf h hp (Ob.setPtr_ok (h.obk hp) 0 q (h.ok.gone _ (lko_mem hx) q rfl).2) rfl
   ·exact up_wf h hp (Ob.setPtr_ok (h.obk hp) 0 0 (by omega)) rfl
theorem Hp.dropL_wf:∀ (l:List Nat){H:Hp},H.wf→(H.dropL l).1.wf
 | [],_,h=>h
 | p::l,_,h=>Hp.dropL_wf l (Hp.drop1_wf h p)
theorem drop1_same (H:Hp)(p:Nat):(H.drop1 p).1.old=H.old∧(H.drop1 p).1.weak=H.weak∧(H.drop1 p).1.scan=H.scan∧(H.drop1 p).1.top=H.top∧(H.drop1 p).1.use=H.use∧(H.drop1 p).1.size=H.size∧(H.drop1 p).1.moving=H.moving:=by
 unfold Hp.drop1
 (repeat' split)<;>exact⟨rfl,rfl,rfl,rfl,rfl,rfl,rfl⟩
theorem dropL_same:∀ (l:List Nat)(H:Hp),(H.dropL l).1.old=H.old∧(H.dropL l).1.weak=H.weak∧(H.dropL l).1.scan=H.scan∧(H.dropL l).1.top=H.top∧(H.dropL l).1.use=H.use∧(H.dropL l).1.size=H.size∧(H.dropL l).1.moving=H.moving
 | [],_=>⟨rfl,rfl,rfl,rfl,rfl,rfl,rfl⟩
 | p::l,H=>by
  obtain⟨a1,a2,a3,a4,a5,a6,a7⟩:=dropL_same l (H.drop1 p).1;obtain⟨b1,b2,b3,b4,b5,b6,b7⟩:=drop1_same H p;exact⟨a1.trans b1,a2.trans b2,a3.trans b3,a4.trans b4,a5.trans b5,a6.trans b6,a7.trans b7⟩
theorem stay_wk {H:Hp}(h:H.wf){p:Nat}(hp:p ∈ H.stay H.weak):∃ ob,lk H.cur p=some ob∧1≤ob.shp.p:=by
 unfold Hp.stay at hp;obtain⟨q,hq,e⟩:=List.mem_filterMap.1 hp;unfold Hp.nowAt at e;split at e
 ·rename_i hn
  injection e with e;subst e;rcases h.wk q hq with h1|⟨z,h1,_⟩
  ·exact h1
  ·rw[hn]at h1;cases h1
 ·rename_i ob g hn
  subst e;obtain⟨ob',h1,h2⟩:=h.gn _ (lko_mem hn) p rfl;refine⟨ob',h1,?_⟩;rw[h2];rcases h.wk q hq with ⟨x,h3,h4⟩|⟨z,h3,h4⟩
  ·have h5:=Hp.apart h.ok (lk_mem h3) (lko_mem hn)
   have h6:=Ob.size_bd (h.obk h3);have h7:=Ob.size_bd (h.ok.ok _ (List.mem_map.2 ⟨_,lko_mem hn,rfl⟩));simp only at h5 h6 h7;omega
  ·rw[hn]at h3;injection h3 with h3;subst h3;exact h4
theorem Hp.settled_wf {H:Hp}(h:H.wf):H.settled.wf:=by
 have h1:=stay_len H H.weak;have h2:=stay_len H H.final;have h3:=h.wl;have h4:=h.fl;exact⟨⟨h.ok.sz,h.ok.cl,h.ok.ck,h.ok.ol,h.ok.ok,h.ok.ot,h.ok.still,h.ok.owe,h.ok.room,h.ok.ser,h.ok.scn,h.ok.gone⟩,by show (H.stay H.weak).length≤H.serial;omega,by show (H.stay H.final).length≤H.serial;omega,h.sc,h.gn,fun p hp=>.inl (stay_wk h hp)⟩
theorem Hp.rest_wf {H:Hp}(h:H.wf)(hw:∀ p ∈ H.weak,∃ ob,lk H.cur p=some ob∧1≤ob.shp.p):H.rest.wf:=by
 have k:=h.ok;have hroom:=k.room;exact⟨⟨k.sz,k.cl,k.ck,rfl,fun x hx=>(by cases hx),Nat.le_add_right _ _,fun _=>rfl,rfl,by show H.top+0≤H.base H.use+H.size;omega,k.ser,k.scn,fun x hx=>(by cases hx)⟩,h.wl,h.fl,fun hm=>(by cases hm),fun x hx=>(by cases hx),fun p hp=>.inl (hw p hp)⟩
theorem up_keeps {H:Hp}{p q:Nat}{ob ob':Ob}(hp:lk H.cur p=some ob)(hs:ob'.shp=ob.shp)(hq:∃ x,lk H.cur q=some x∧1≤x.shp.p):∃ x,lk (up H.cur p ob') q=some x∧1≤x.shp.p:=by
 obtain⟨x,h1,h2⟩:=hq;rw[lk_up];split
 ·rename_i e;subst e;rw[hp]at h1 ⊢;injection h1 with h1;subst h1;exact⟨_,rfl,by rw[hs];exact h2⟩
 ·exact⟨x,h1,h2⟩
theorem drop1_keeps {H:Hp}(p:Nat){q:Nat}(hq:∃ x,lk H.cur q=some x∧1≤x.shp.p):∃ x,lk (H.drop1 p).1.cur q=some x∧1≤x.shp.p:=by
 unfold Hp.drop1;split
 ·exact hq
 ·rename_i ob hp
  split
  ·exact hq
  ·split
   ·exact hq
   ·exact up_keeps hp rfl hq
   ·exact up_keeps hp rfl hq
theorem dropL_keeps:∀ (l:List Nat){H:Hp}{q:Nat},(∃ x,lk H.cur q=some x∧1≤x.shp.p)→∃ x,lk (H.dropL l).1.cur q=some x∧1≤x.shp.p
 | [],_,_,h=>h
 | p::l,_,_,h=>dropL_keeps l (drop1_keeps p h)
theorem Hp.drop_wf {H:Hp}(h:H.wf):H.drop.1.wf:=by
 unfold Hp.drop;split
 ·exact h
 ·have hs:=Hp.settled_wf h
  refine Hp.rest_wf (Hp.dropL_wf _ hs) fun p hp=>dropL_keeps _ ?_
  rw[(dropL_same _ _).2.1]at hp;exact stay_wk h hp
end Go.Proofs.YteehgedabdchcaaGreat
namespace Go.Proofs.YteehgedabdchcaaGreat
open Go.RowKit Hp
section
variable {P : Program} (w : World)
theorem run_append_none (t ty e : TypeId) (i : TypeInfo) (size : Nat) (ht : P.underlying t = some (.slice e)) (hi : P.info? e = some i) {o : Own} {tg : Tag} {v : Value} {n : Nat} {xs : List Value} (hown : Row w o tg e size v n xs) (c : Nat) :
    (Builtin.append_ #[t, t] ty #[v, .slice none 0 c]).run P w = .ok v w := by
  rcases hown.shape with ⟨rfl, _⟩ | ⟨g, cap, rfl, hnc, _⟩
  all_goals simp [Builtin.append_, run_underlying ht, sizeOf, typeInfo, Builtin.lenOf, Builtin.firstCells, storeCells, *]
theorem run_append_rows (t ty e:TypeId)(i:TypeInfo)(z:Value)(size bytes:Nat)(ht:P.underlying t=some (.slice e))(hi:P.info? e=some i)(hz:i.zero=some z)
  (hsize:i.size=size)(hby:i.bytes=bytes)(hzs:z.cells.size=size)(hsz:0<size)
  (o:Own)(tg:Tag)(v:Value)(n:Nat)(xs:List Value)(hown:Row w o tg e size v n xs)(o2:Own)(t2:Tag)(vs:Value)(m:Nat)(news:List Value)(hsrc:Row w o2 t2 e size vs m news)(h1:∀ u ∈ news,u.oneCell'=true)
  (h63:n+m≤maxLen)(hbytes:(n+m)*bytes≤140737488355328) :
  ∃ v' w',(Builtin.append_ #[t,t] ty #[v,vs]).run P w=.ok v' w'∧Row w' (ext o w.heap.size tg) tg e size v' (n+m) (xs++news)∧Stp (fun u=>u=tg) o (ext o w.heap.size tg) w w':=by
 rcases hsrc.shape with ⟨rfl,rfl⟩|⟨g,cap,rfl,_,_⟩
 ·have hx:news=[]:=List.eq_nil_of_length_eq_zero (by simpa using hsrc.len)
  subst hx;refine⟨v,w,run_append_none w t ty e i size ht hi hown 0,?_,(Stp.refl _ o w).ext _ _ (Nat.le_refl _)⟩;rw[List.append_nil,Nat.add_zero];exact hown.retag fun b hb=>ext_lt hb
 ·exact run_append_row (P:=P) w t ty e i z size bytes ht hi hz hsize hby hzs hsz o tg v n xs hown ⟨g,0,none⟩ m cap news hsrc.len (hsrc.own.cells rfl) h1 h63 hbytes
theorem wp_append_rows {op:Oper}{a:Act}{K:Act→World→Prop}{Q:Exit→Act→World→Prop}(s x:Operand)(t:TypeId)
  (ho:op.op=.call { callee:=.builtin .append,args:=#[s,x],argTypes:=#[t,t] })
  (e:TypeId)(i:TypeInfo)(z:Value)(size bytes:Nat)(ht:P.underlying t=some (.slice e))(hi:P.info? e=some i)(hz:i.zero=some z)
  (hsize:i.size=size)(hby:i.bytes=bytes)(hzs:z.cells.size=size)(hsz:0<size)
  (o:Own)(tg:Tag)(v:Value)(n:Nat)(xs:List Value)(hs:a.eval s=v)(hown:Row w o tg e size v n xs)
  (o2:Own)(t2:Tag)(vs:Value)(m:Nat)(news:List Value)(hx:a.eval x=vs)(hsrc:Row w o2 t2 e size vs m news)(h1:∀ u ∈ news,u.oneCell'=true)
  (h63:n+m≤maxLen)(hbytes:(n+m)*bytes≤140737488355328)
  (h:∀ v' w',Row w' (ext o w.heap.size tg) tg e size v' (n+m) (xs++news)→Stp (fun u=>u=tg) o (ext o w.heap.size tg) w w'→K (a.put op.dst v') w'):Oper.wp P op a w K Q:=by
 obtain⟨v',w',hr,h2,h3⟩:=run_append_rows (P:=P) w t op.type e i z size bytes ht hi hz hsize hby hzs hsz o tg v n xs hown o2 t2 vs m news hsrc h1 h63 hbytes;unfold Oper.wp execOp;simp only[ho,resolve,invoke,builtin,Sem.run_bind,Sem.run_pure,Result.andThen_ok,List.map_toArray,List.map_cons,List.map_nil,hs,hx,hr];exact h v' w' h2 h3
theorem wpList_append_rows {ops:Array Oper}{rest:List Oper}{op:Oper}{a:Act}{Q:Exit→Act→World→Prop}(hgd:op.guard=none)(s x:Operand)(t:TypeId)
  (ho:op.op=.call { callee:=.builtin .append,args:=#[s,x],argTypes:=#[t,t] })
  (e:TypeId)(i:TypeInfo)(z:Value)(size bytes:Nat)(ht:P.underlying t=some (.slice e))(hi:P.info? e=some i)(hz:i.zero=some z)
  (hsize:i.size=size)(hby:i.bytes=bytes)(hzs:z.cells.size=size)(hsz:0<size)
  (o:Own)(tg:Tag)(v:Value)(n:Nat)(xs:List Value)(hs:a.eval s=v)(hown:Row w o tg e size v n xs)
  (o2:Own)(t2:Tag)(vs:Value)(m:Nat)(news:List Value)(hx:a.eval x=vs)(hsrc:Row w o2 t2 e size vs m news)(h1:∀ u ∈ news,u.oneCell'=true)
  (h63:n+m≤maxLen)(hbytes:(n+m)*bytes≤140737488355328)
  (h:∀ v' w',Row w' (ext o w.heap.size tg) tg e size v' (n+m) (xs++news)→Stp (fun u=>u=tg) o (ext o w.heap.size tg) w w'→wpList P ops Q rest (a.put op.dst v') w'):wpList P ops Q (op::rest) a w:=
 wpList_plain hgd fun _ hK=>wp_append_rows w s x t ho e i z size bytes ht hi hz hsize hby hzs hsz o tg v n xs hs hown o2 t2 vs m news hx hsrc h1 h63 hbytes fun v' w' h2 h3=>hK _ _ (h v' w' h2 h3)
theorem step_append_rows {ops:Array Oper}{op:Oper}{a:Act}{K:Act→World→Prop}{Q:Exit→Act→World→Prop}{E:Prop}(hgd:op.guard=none)(s x:Operand)(t:TypeId)
  (ho:op.op=.call { callee:=.builtin .append,args:=#[s,x],argTypes:=#[t,t] })
  (e:TypeId)(i:TypeInfo)(z:Value)(size bytes:Nat)(ht:P.underlying t=some (.slice e))(hi:P.info? e=some i)(hz:i.zero=some z)
  (hsize:i.size=size)(hby:i.bytes=bytes)(hzs:z.cells.size=size)(hsz:0<size)
  (o:Own)(tg:Tag)(v:Value)(n:Nat)(xs:List Value)(hs:a.eval s=v)(hown:Row w o tg e size v n xs)
  (o2:Own)(t2:Tag)(vs:Value)(m:Nat)(news:List Value)(hx:a.eval x=vs)(hsrc:Row w o2 t2 e size vs m news)(h1:∀ u ∈ news,u.oneCell'=true)
  (h63:n+m≤maxLen)(hbytes:(n+m)*bytes≤140737488355328)
  (h:∀ v' w',Row w' (ext o w.heap.size tg) tg e size v' (n+m) (xs++news)→Stp (fun u=>u=tg) o (ext o w.heap.size tg) w w'→K (a.put op.dst v') w') :
  if Region.wanted op (yielded ops a.tmps)=true then Oper.wp P op a w K Q else E:=by
 have hw:Region.wanted op (yielded ops a.tmps)=true:=by simp[Region.wanted,hgd]
 rw[if_pos hw];exact wp_append_rows w s x t ho e i z size bytes ht hi hz hsize hby hzs hsz o tg v n xs hs hown o2 t2 vs m news hx hsrc h1 h63 hbytes h
end
theorem nv_one (l:List Nat):∀ u ∈ l.map nv,u.oneCell'=true:=by
 intro u hu;obtain⟨x,_,rfl⟩:=List.mem_map.1 hu;rfl
theorem cycle_new (b:Nat)(w:World) :
  Calls Tryz.prog 102 #[.pointer (some ⟨b,0,none⟩)] w fun e w'=>e=.returned (.pointer (some ⟨w.heap.size,0,none⟩))∧w'=w.alloc (.cells #[.pointer (some ⟨b,0,none⟩),.nilFunc,.slice none 0 0,.slice none 0 0] 201):=by
 go_enter Tryz.func102,Tryz.ntmps102;go_wp2_with fail;go_ret;exact⟨rfl,rfl⟩
def Hp.fresh (n:Nat):Hp:=⟨n,false,[],1,false,[],1+n,0,0,0,[],[]⟩
theorem Hp.fresh_wf {n:Nat}(h1:16≤n)(h2:n≤16384):(Hp.fresh n).wf:=by
 refine⟨⟨⟨h1,h2⟩,rfl,fun x hx=>(by cases hx),rfl,fun x hx=>(by cases hx),?_,fun _=>rfl,rfl,?_,?_,?_,fun x hx=>(by cases hx)⟩,Nat.le_refl _,Nat.le_refl _,fun h=>(by cases h),fun x hx=>(by cases hx),fun x hx=>(by cases hx)⟩
 ·show 1+n≤Hp.base _ _+n
  unfold Hp.base Hp.fresh;simp
 ·show 1+0≤Hp.base _ _+n
  unfold Hp.base Hp.fresh;simp
 ·show 0≤_
  exact Nat.zero_le _
 ·show 0≤_
  exact Nat.zero_le _
theorem hnew_any (n:Nat)(h1:16≤n)(h2:n≤16384)(o:Own)(id:Nat)(w:World) :
  Calls Tryz.prog 101 #[.int .i64 n] w fun e w'=>∃ h a wd o',e=.returned (.tuple #[.pointer (some ⟨h,0,none⟩),.int .i64 0]) ∧
   HpIn w' o' ⟨id,h,a,wd⟩ (Hp.fresh n) (.slice none 0 0) (.slice none 0 0) (.slice none 0 0) (.slice none 0 0) (fun _=>0)∧Stp (fun _=>False) o o' w w'∧w.heap.size≤h∧(∀ b,w.heap.size≤b→(o' b).1=id):=by
 have HA:=Lib.hid (fun w=>ar_new (2*n+1) (by omega) (by omega) _ rfl w)
 have HM1:=Lib.hid (fun w=>smake_any 1 n (by omega) (by omega) 1 n rfl rfl w)
 have HM2:=Lib.hid (fun w=>smake_any (1+n) n (by omega) (by omega) (1+n) n (by omega) rfl w)
 have e1:((2*n+1:Nat):Int)=2*(n:Int)+1:=by omega
 rw[e1]at HA;clear e1;go_enter Tryz.func101,Tryz.ntmps101;go_wp2_with fail;refine (HA.out _).mono ?_
 rintro e w1 ⟨a,wd,rfl,hW,ha,hwd,hb1⟩
 go_wp2_with fail;refine (HM1.out _).mono ?_
 rintro e w2 ⟨rfl,hb2⟩
 have hb02:=btrans hb1 hb2;have hW2:=hW.below hb2;clear hb2 hb1 hW;go_wp2_with fail;refine (HM2.out _).mono ?_
 rintro e w3 ⟨rfl,hb3⟩
 have jA:=(Blk.new w2 #[.int .i64 1,.int .i64 n,.int .i64 1] 181).below hb3 (by simp)
 have hW3:=hW2.below (btrans (balloc (bsame w2) _) hb3);have hb03:=btrans hb02 (btrans (balloc (bsame w2) (.cells #[.int .i64 1,.int .i64 n,.int .i64 1] 181)) hb3);clear hW2 hb02 hb3;have cA:=jA.cell;have sA:=jA.lt;go_wp2_with fail;go_ret2;have hle:w.heap.size≤w3.heap.size:=hb03.size;have la:=hW3.arena.lt;have lwd:=hW3.lt;have nawd:=hW3.ne;refine⟨w3.heap.size+1,a,wd,fun b=>if b<w.heap.size then o b else if b=w3.heap.size+1 then (id,0) else if b=a then (id,1) else if b=wd then (id,2) else (id,9),rfl,?_,?_,by omega,?_⟩
 ·refine⟨?_,(hW3.below (balloc (balloc (bsame w3) _) _)),Row.nil _ _ _ _ _,Row.nil _ _ _ _ _,Row.nil _ _ _ _ _,Row.nil _ _ _ _ _,?_,?_,?_,fun x hx=>(by cases hx),fun x hx=>(by cases hx),rfl⟩
  ·refine Blk.new_at _ _ _ _ _ (by simp) ?_
   unfold Hp.cells Hp.fresh;simp
  ·show (if w3.heap.size+1<w.heap.size then _ else _)=_
   rw[if_neg (by omega),if_pos rfl]
  ·show (if a<w.heap.size then _ else if a=w3.heap.size+1 then _ else _)=_
   rw[if_neg (by omega),if_neg (by omega),if_pos rfl]
  ·show (if wd<w.heap.size then _ else if wd=w3.heap.size+1 then _ else if wd=a then _ else _)=_
   rw[if_neg (by omega),if_neg (by omega),if_neg (by omega),if_pos rfl]
 ·have hB:=balloc (balloc hb03 (.cells #[.int .i64 (1+(n:Int)),.int .i64 n,.int .i64 (1+(n:Int))] 181)) (.cells #[.pointer (some ⟨a,0,none⟩),.int .i64 1,.int .i64 n,.int .i64 1,.int .i64 (1+(n:Int)),.int .i64 n,.int .i64 (1+(n:Int)),.slice none 0 0,.slice none 0 0,.int .i64 0,.bool false,.int .i64 0,.int .i64 0,.int .i64 0,.slice none 0 0,.slice none 0 0] 185)
  exact⟨hB.os,hB.tape,hB.output,hB.size,fun b hb=>if_pos hb,fun b hb _=>hB.block b hb⟩
 ·intro b hb
  show (if _ then _ else _:Tag).1=_
  rw[if_neg (by omega)]
  repeat' split
  all_goals rfl
end Go.Proofs.YteehgedabdchcaaGreat
