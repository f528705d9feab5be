import Derived.Test.YteehgedabdchcaaGreatKad
import Derived.Deep.RegionLaw
import Derived.Laws.CopyOwn
import Derived.Laws.OwnMore
import Derived.StillTailTactics
set_option linter.all false
set_option maxRecDepth 1000000
set_option maxHeartbeats 16000000
open Go renaming World->Aa,Calls->Ab,Value->Ac
open Go.RowKit renaming Below->Ae
open Go.Value renaming int->I,pointer->Ag,slice->Ah,tuple->Aj,agg->Ak
open Go.IntKind renaming i64->Z
open Go.Ending renaming returned->O
namespace Go.Proofs.YteehgedabdchcaaGreat
section
open Go.RowKit Hp
def fo (n:Nat):Own:=ext (fun _=>(0,0)) n (1,0)
theorem rj (o:Own)(n m:Nat)(t:Tag)(h:n<=m):ext (ext o n t) m t=ext o n t:=by
 funext b;unfold ext;split
 ·rfl
 ·rw[if_neg (by omega)]
theorem Nw {n m:Nat}(h:n<=m):ext (fo n) m (1,0)=fo n:=rj _ _ _ _ h
theorem Fz {n b:Nat}(h:b<n):fo n b=(0,0):=qj h
theorem G1 {n b:Nat}(h:n<=b):fo n b=(1,0):=qp h
theorem Row.out {w':Aa}{n:Nat}{e:TypeId}{size k:Nat}{v:Ac}{xs:List Ac}(h:Row w' (fo n) (1,0) e size v k xs)(o:Own)(tg:Tag):Row w' (ext o n tg) tg e size v k xs:=by
 refine⟨h.own,fun b hb=>?_⟩
 have h1:=h.tag b hb;refine qp ?_;rcases Nat.lt_or_ge b n with h2|h2
 ·rw[Fz h2]at h1;simp at h1
 ·exact h2
theorem Row.Ny {w':Aa}{n:Nat}{e:TypeId}{size k:Nat}{v:Ac}{xs:List Ac}(h:Row w' (fo n) (1,0) e size v k xs):∀ b,v.ownBlock=some b->n<=b:=fun b hb=>by
 have h1:=h.tag b hb;rcases Nat.lt_or_ge b n with h2|h2
 ·rw[Fz h2]at h1;simp at h1
 ·exact h2
theorem wz {w w1 w2:Aa} {o':Own} (h:Ae w.heap.size w w1) (hs:Stp (fun t=>t=(1,0)) (fo w.heap.size) o' w1 w2):Ae w.heap.size w w2:=by
 refine ((Stp.of_below (T:=fun t=>t=(1,0)) (o:=fo w.heap.size) h).trans hs).below fun b hb e=>?_
 rw[Fz hb]at e;simp at e
theorem xz {w w1 w2:Aa}{v':Ac}{k:Nat}{xs:List Ac}{e:TypeId}{size:Nat}(h:Ae w.heap.size w w1)(hr:Row w2 (ext (fo w.heap.size) w1.heap.size (1,0)) (1,0) e size v' k xs):Row w2 (fo w.heap.size) (1,0) e size v' k xs:=by
 rw[Nw h.size]at hr;exact hr
theorem Row.Kz {w:Aa}{o:Own}{t:Tag}{e:TypeId}{g n cap:Nat}{xs:List Ac}(h:Row w o t e 1 (Ah (some ⟨g,0,none⟩) n cap) n xs)(j:Nat)(u:Ac) :
  Row (w.setCell ⟨g,j,none⟩ u) o t e 1 (Ah (some ⟨g,0,none⟩) n cap) n (xs.set j u):=⟨(h.own.stored j u).1,h.tag⟩
theorem Row.CP {w:Aa}{o:Own}{t:Tag}{e:TypeId}{size g n cap:Nat}{xs:List Ac}(h:Row w o t e size (Ah (some ⟨g,0,none⟩) n cap) n xs)(j:Nat)(u:Ac) :
  Row (w.setCell ⟨g,j,none⟩ u) o t e size (Ah (some ⟨g,0,none⟩) n cap) n (xs.set j u):=⟨(h.own.stored j u).1,h.tag⟩
theorem Row.free {w:Aa}{o:Own}{t:Tag}{e:TypeId}{size g n cap:Nat}{xs:List Ac}(h:Row w o t e size (Ah (some ⟨g,0,none⟩) n cap) n xs)(j:Nat):w.frozen? ⟨g,j,none⟩=false:=h.own.frozenAt j
theorem Row.blt {w:Aa}{o:Own}{t:Tag}{e:TypeId}{size g n cap:Nat}{xs:List Ac}(h:Row w o t e size (Ah (some ⟨g,0,none⟩) n cap) n xs):g<w.heap.size:=by
 rcases h.own.2 with ⟨h',_⟩|⟨g',cap',cur,h',_,hg,_⟩
 ·simp at h'
 ·simp only[Value.slice.injEq,Zb,Addr.mk.injEq,and_true,true_and]at h'
  obtain⟨rfl,rfl⟩:=h';exact (Qf.1 hg).1
theorem Row.El {w:Aa}{o:Own}{t:Tag}{e:TypeId}{size g n cap:Nat}{xs:List Ac}(h:Row w o t e size (Ah (some ⟨g,0,none⟩) n cap) n xs):o g=t:=h.tag g rfl
theorem Row.shape {w:Aa}{o:Own}{t:Tag}{e:TypeId}{size:Nat}{v:Ac}{n:Nat}{xs:List Ac}(h:Row w o t e size v n xs) :
  (v=Ah none 0 0/\n=0)\/∃ g cap,v=Ah (some ⟨g,0,none⟩) n cap/\n<=cap/\cap<=maxLen:=by
 rcases h.own.2 with ⟨rfl,rfl⟩|⟨g,cap,cur,rfl,_,_,hn,hc,_⟩
 ·exact .inl ⟨rfl,rfl⟩
 ·exact .inr ⟨g,cap,rfl,hn,hc⟩
def Ints (w:Aa)(v:Ac)(l:List Nat):Prop:=
 ∃ a c,v=.slice a l.length c/\l.length<=c/\c<=maxLen/\∀ (j x:Nat),l[j]?=some x->∃ g off,a=some ⟨g,off,none⟩/\g<w.heap.size/\w.cell? ⟨g,off+j,none⟩=some (nv x)
theorem Ints.below {w w':Aa}{v:Ac}{l:List Nat}(h:Ints w v l)(hb:Ae w.heap.size w w'):Ints w' v l:=by
 obtain⟨a,c,e,h1,h2,h3⟩:=h;refine⟨a,c,e,h1,h2,fun j x hj=>?_⟩
 obtain⟨g,off,e1,e2,e3⟩:=h3 j x hj;exact⟨g,off,e1,Qn e2 hb.size,by rw[hb.cell (p:=⟨g,off+j,none⟩) e2];exact e3⟩
theorem Row.ints {w:Aa}{o:Own}{t:Tag}{e:TypeId}{v:Ac}{l:List Nat}(h:Row w o t e 1 v l.length (l.map nv)):Ints w v l:=by
 rcases h.shape with⟨rfl,h0⟩|⟨g,cap,rfl,hn,hc⟩
 ·have:l=[]:=List.eq_nil_of_length_eq_zero h0
  subst this;exact⟨none,0,rfl,by simp,by simp,fun j x hj=>by simp at hj⟩
 ·refine⟨_,_,rfl,hn,hc,fun j x hj=>⟨g,0,rfl,h.blt,?_⟩⟩
  rw[Nat.zero_add];exact h.cells j _ (by rw[Qj,hj];rfl)
theorem Ints.form {w:Aa}{v:Ac}{l:List Nat}(h:Ints w v l):(l=[]/\∃ a c,v=.slice a 0 c)\/∃ g off c,v=Ah (some ⟨g,off,none⟩) l.length c/\l.length<=c/\c<=maxLen/\g<w.heap.size/\∀ (j x:Nat),l[j]?=some x->w.cell? ⟨g,off+j,none⟩=some (nv x):=by
 obtain⟨a,c,e,h1,h2,h3⟩:=h
 cases l with
 | nil=>exact .inl ⟨rfl,a,c,e⟩
 | cons x l =>
  obtain⟨g,off,e1,e2,_⟩:=h3 0 x rfl;refine .inr ⟨g,off,c,by rw[e,e1],h1,h2,e2,fun j z hj=>?_⟩
  obtain⟨g',off',e1',_,e3'⟩:=h3 j z hj;rw[e1]at e1';injection e1' with e1';injection e1' with e1' e2' _;rw[e1',e2'];exact e3'
theorem jj {l:List Nat}{k x:Nat}(h:l[k]?=some x):l.take (k+1)=l.take k++[x]:=by
 rw[List.take_add_one,h];rfl
theorem ko (l:List Nat)(x:Nat):(l++[x]).map nv=l.map nv++[I Z x]:=by simp[nv]
def NP (f:Nat->Nat)(i j n:Nat):Nat->Nat:=fun k=>if j<=k/\k<j+n then f (i+(k-j)) else f k
variable {w : Aa} {a wd L : Nat} {f : Nat -> Nat}
theorem KW (h:BF w a wd L f)(i j n:Nat)(hi:i+n<=L)(hj:j+n<=L)(hn:0<n)(x y z:Int)(hx:x=i)(hy:y=j)(hz:z=n) :
  Ab Tryz.prog 269 #[Ag (some ⟨a,0,none⟩),I Z x,I Z y,I Z z] w fun e w'=>e=O (I Z 0)/\Br w w' a wd L (NP f i j n):=by
 subst hx hy hz;have hl:=h.le;have HS:=Qa (gy h i n i n rfl rfl hi);have HS2:=Qa (gy h j n j n rfl rfl hj);have c:w.cell? ⟨a,0,none⟩=some (Ah (some ⟨wd,0,none⟩) L L):=h.B2.cell 0;obtain⟨cs,hb,hcs,hat⟩:=h.words;have hi2:(i:Int)+(n:Int)<=(L:Int):=by omega
 have hj2:(j:Int)+(n:Int)<=(L:Int):=by omega
 have H:=Qa h;have HB:=Qa hb;have HCS:=Qa hcs;have HAT:=Qa hat;clear h hb hcs hat;go_enter Tryz.func269,Tryz.ntmps269;go_wp2_with fail;refine HS.out.mono ?_
 rintro e w1 ⟨rfl,rfl⟩
 go_wp2_with fail;refine HS2.out.mono ?_
 rintro e w1 ⟨rfl,rfl⟩
 go_upto_region 4 with fail;have a1:IntKind.i64.wrap ((j:Int)+(n:Int))=(j:Int)+(n:Int):=IntWalk.i64_in _ (by omega)
 have a2:IntKind.i64.wrap ((i:Int)+(n:Int))=(i:Int)+(n:Int):=IntWalk.i64_in _ (by omega)
 have a3:((j:Int)+(n:Int)).toNat=j+n:=by omega
 have a4:((i:Int)+(n:Int)).toNat=i+n:=by omega
 have b1:(0:Int)<=(j:Int)+(n:Int):=by omega
 have b2:(0:Int)<=(i:Int)+(n:Int):=by omega
 have b3:(j:Int)<=(j:Int)+(n:Int):=by omega
 have b4:(i:Int)<=(i:Int)+(n:Int):=by omega
 have b5:j<L:=by omega
 have b6:i<L:=by omega
 have b7:j≠L:=by omega
 have b8:i≠L:=by omega
 have b9:¬L=j:=by omega
 have b10:¬L=i:=by omega
 have b11:j<=L:=by omega
 have b12:i<=L:=by omega
 have b13:j<=j+n:=by omega
 have b14:i<=i+n:=by omega
 go_still_tail 18,(by kernel_rfl)
 have hsz:cs.toList.length=L:=by rw[Array.length_toList];exact HCS.out
 obtain⟨C,hC⟩:∃ C,C=(cs.toList.drop i).take n:=⟨_,rfl⟩;have hCl:C.length=n:=by rw[hC,Qp,List.length_drop,hsz];omega
 have hCat:∀ k,k<n->C[k]?=some (.int .u64 (f (i+k):Int)):=fun k hk=>by
  rw[hC,List.getElem?_take,if_pos hk,List.getElem?_drop,Array.getElem?_toList,HAT.out (i+k) (by omega)]
 refine wpList_copy_own rfl (.tmp 31) (.tmp 40) _ _ rfl 220 (by kernel_rfl) (by kernel_rfl) wd j n (L-j) ⟨wd,i,none⟩ n (L-i) rfl rfl cs 220 HB.out C (by rw[hCl];exact (Nat.min_self n).symm) ?_ (by rw[hCl,HCS.out];omega) ?_ ?_
 ·intro k v hk
  have hkn:k<n:=by rw[<-hCl];exact (Qc.1 hk).1
  rw[hCat k hkn]at hk;injection hk with hk;rw[show (⟨wd,i,none⟩:Addr).add k=⟨wd,i+k,none⟩ from by unfold Addr.add;split<;>simp_all]
  show w.cell? ⟨wd,i+k,none⟩=some v;rw[<-hk];exact H.out.cell (by omega)
 ·intro v hv
  obtain⟨k,hk⟩:=List.mem_iff_getElem?.1 hv;have hkn:k<n:=by rw[<-hCl];exact (Qc.1 hk).1
  rw[hCat k hkn]at hk;injection hk with hk;rw[<-hk];rfl
 ·have HC:=Qa hCat
  have HCL:=Qa hCl;clear a1 a2 a3 a4 b1 b2 b3 b4 b5 b6 b7 b8 b9 b10 b11 b12 b13 b14 hC hCat hCl;obtain⟨X,hX⟩:∃ X,X=(List.take j cs.toList++(C++List.drop (j+C.length) cs.toList)).toArray:=⟨_,rfl⟩;obtain⟨w9,hw9⟩:∃ w9,w9=w.drew.setRow wd X:=⟨_,rfl⟩;rw[show ({ heap:=w.heap,tape:=w.tape,drawn:=w.drawn+1,os:=w.os,output:=w.output }:Aa)=w.drew from rfl,<-hX,<-hw9];have hT:Br w w9 a wd L (NP f i j n):=by
   have h9:w9.heap[wd]?=some (.cells X 220 (0,0)):=by rw[hw9];exact setRow_heap _ _ _ _ _ _ HB.out
   have hne:∀ k,k≠wd->w9.heap[k]?=w.heap[k]?:=fun k hk=>by rw[hw9];exact setRow_other _ _ _ _ hk
   refine⟨⟨H.out.B2.of_eq (hne a H.out.ne),H.out.ne,⟨X,h9,?_,fun k hk=>?_⟩,H.out.le⟩,⟨by rw[hw9];rfl,by rw[hw9];rfl,by rw[hw9];rfl,by rw[hw9];simp[World.setRow],fun k _ hk=>hne k hk⟩⟩
   ·rw[hX,List.size_toArray,Qd,Qd,Qp,List.length_drop,hsz,HCL.out];omega
   ·rw[hX,List.getElem?_toArray,HCL.out]
    unfold NP;have ht:(List.take j cs.toList).length=j:=by rw[Qp,hsz];omega
    by_cases h1:k<j
    ·rw[if_neg (by omega),Qm (by omega),List.getElem?_take,if_pos h1,Array.getElem?_toList,HAT.out k hk]
    ·rw[Ql (by omega),ht]
     by_cases h2:k<j+n
     ·rw[if_pos (by omega),Qm (by rw[HCL.out];omega),HC.out (k-j) (by omega)]
     ·rw[if_neg (by omega),Ql (by rw[HCL.out];omega),HCL.out,List.getElem?_drop,Array.getElem?_toList,show j+n+(k-j-n)=k from by omega,HAT.out k hk]
  clear hX hw9 hsz;rw[HCL.out];go_wp2_with fail;go_ret;exact⟨rfl,hT⟩
theorem ML (q:Nat)(h:4*q+2<18446744073709551616):bits BinOp.or IntKind.u64 ((4*q:Nat):Int) 2=((4*q+2:Nat):Int):=by
 rw[show (2:Int)=((2:Nat):Int) from rfl,MO _ 2 (by omega) (by omega),Nat.or_comm,show 4*q=2 ^ 2*q from rfl,Pm 2 q 2 (by omega),Nat.add_comm]
theorem Si (q:Nat)(h1:1<=q)(h2:q<=131072)(z:Int)(hz:z=q)(w:Aa):Ab Tryz.prog 268 #[I Z z] w fun e w'=>e=O (Aj #[.int .u64 ((4*q+2:Nat):Int),.bool true])/\w=w':=by
 subst hz;have ho:=ML q (by omega)
 have e1:(q:Int)*4=((4*q:Nat):Int):=by omega
 rw[<-e1]at ho;generalize ((4*q+2:Nat):Int)=r at *;clear e1;go_enter Tryz.func268,Tryz.ntmps268;go_wp2_with fail;go_ret2;exact⟨rfl,rfl⟩
theorem Li (z:Int)(hz:z<1\/131072<z)(w:Aa):Ab Tryz.prog 268 #[I Z z] w fun e w'=>e=O (Aj #[.int .u64 0,.bool false])/\w=w':=by
 rcases hz with hz|hz
 all_goals
  go_enter Tryz.func268,Tryz.ntmps268;go_wp2_with fail;go_ret2;exact⟨rfl,rfl⟩
theorem Xs (q:Nat)(h1:1<=q)(h2:q<=131072)(w:Aa):Ab Tryz.prog 237 #[.int .u64 ((4*q+2:Nat):Int)] w fun e w'=>e=O (Aj #[I Z q,.bool true])/\w=w':=by
 have HG:=Qa (fun w=>Si q h1 h2 q rfl w)
 have e1:((4*q+2:Nat):Int)/4=(q:Int):=by omega
 obtain⟨r,hr⟩:∃ r:Int,r=((4*q+2:Nat):Int):=⟨_,rfl⟩;rw[<-hr]at HG e1 ⊢;have r0:0<=r:=by omega
 have r1:r<=600000:=by omega
 clear hr;go_enter Tryz.func237,Tryz.ntmps237;go_wp2_with fail;refine (HG.out _).mono ?_
 rintro e w1⟨rfl,rfl⟩
 go_wp2_with fail;go_ret2;exact⟨rfl,rfl⟩
theorem qmm (v:Nat)(h:v%2=1)(hv:v<4096)(w:Aa):Ab Tryz.prog 237 #[.int .u64 v] w fun e w'=>e=O (Aj #[I Z 0,.bool false])/\w=w':=by
 obtain⟨q,hq⟩:∃ q:Nat,(v:Int)/4=q:=⟨v/4,by omega⟩
 have hq2:q<=1024:=by omega
 by_cases h1:1<=q
 ·have HG:=Qa (fun w=>Si q h1 (by omega) q rfl w)
  have hne:((((4*q+2:Nat):Int)) != (v:Int))=true:=by rw[bne_iff_ne];omega
  generalize ((4*q+2:Nat):Int)=r at *;clear h;go_enter Tryz.func237,Tryz.ntmps237;go_wp2_with fail;refine (HG.out _).mono ?_
  rintro e w1⟨rfl,rfl⟩
  go_wp2_with fail;go_ret2;exact⟨rfl,rfl⟩
 ·have hq0:(v:Int)/4=0:=by omega
  have HG:=Qa (fun w=>Li 0 (by omega) w)
  clear h hq;go_enter Tryz.func237,Tryz.ntmps237;go_wp2_with fail;refine (HG.out _).mono ?_
  rintro e w1⟨rfl,rfl⟩
  go_wp2_with fail;go_ret2;exact⟨rfl,rfl⟩
variable {w : Aa} {a wd L : Nat} {f : Nat -> Nat} {p : Nat} {ob : Ob}
theorem Vy (h:BF w a wd L f)(hp:p<L)(q:Nat)(h1:1<=q)(h2:q<=131072)(hf:f p=4*q+2) :
  Ab Tryz.prog 181 #[Ag (some ⟨a,0,none⟩),I Z p] w fun e w'=>e=O (Aj #[I Z q,.bool true])/\w=w':=by
 have HL:=Qa (xi h p p _ rfl hp hf);have HW:=Qa (fun w=>Xs q h1 h2 w)
 clear h hf;go_enter Tryz.func181,Tryz.ntmps181;go_wp2_with fail;refine HL.out.mono ?_
 rintro e w1 ⟨rfl,rfl⟩
 go_wp2_with fail;refine (HW.out _).mono ?_
 rintro e w1 ⟨rfl,rfl⟩
 go_wp2_with fail;go_ret2;exact⟨rfl,rfl⟩
theorem Jt (h:BF w a wd L f)(ho:Bi f p ob)(hk:ob.ok)(hl:p+ob.size<=L) :
  Ab Tryz.prog 181 #[Ag (some ⟨a,0,none⟩),I Z p] w fun e w'=>e=O (Aj #[I Z 0,.bool false])/\w=w':=by
 have hs:=Ob.AR hk;have HL:=Qa (xi h p p _ rfl (by omega) ho.h0)
 have HW:=Qa (fun w=>qmm (head ob.AN ob.Cn) (Gk _ _) (Q8 _ _ hk.AN) w)
 generalize head ob.AN ob.Cn=r at *;clear h ho hk hl hs;go_enter Tryz.func181,Tryz.ntmps181;go_wp2_with fail;refine HL.out.mono ?_
 rintro e w1 ⟨rfl,rfl⟩
 go_wp2_with fail;refine (HW.out _).mono ?_
 rintro e w1 ⟨rfl,rfl⟩
 go_wp2_with fail;go_ret2;exact⟨rfl,rfl⟩
section
variable {w : Aa} {o : Own} {l : Ba} {H : Hp} {vc vo vw vf : Ac} {f : Nat -> Nat}
theorem RG (h:AE w o l H vc vo vw vf f)(hk:H.ok){p:Nat}{ob:Ob}(hp:lk H.cur p=some ob) :
  Ab Tryz.prog 69 #[Ag (some ⟨l.h,0,none⟩),I Z p] w fun e w'=>e=O (Aj #[ka ob.AN,.bool ob.Cn,I Z 0])/\Ae w.heap.size w w':=by
 obtain⟨ha,ho,hl,_⟩:=h.at_ hk hp;have HH:=Qa (fun w' (hw:Ae w.heap.size w w')=>ju (h.below hw) hk hp)
 have HN:=Qa (fun w' (hw:Ae w.heap.size w w')=>jt (h.B5.below hw) ha ho hl p rfl)
 have HC:=Qa (fun w' (hw:Ae w.heap.size w w')=>(h.below hw).A7)
 clear h hk hp ha ho hl;obtain⟨⟨sp,sd,wk,fn⟩,fr,se,sr,ps,ns⟩:=ob;simp only at HN ⊢;go_enter Tryz.func69,Tryz.ntmps69;go_wp2_with fail;refine (HH.out _ (qa (qc w) _)).mono ?_
 rintro e w1 ⟨rfl,hb1⟩
 have jR:Am w1 w.heap.size #[I Z 0,I Z 0,.bool false,.bool false] 93:=(Am.new w _ _).below hb1 (by simp)
 have hb:Ae w.heap.size w w1:=qd (qa (qc w) _) hb1;clear hb1;have c1:=HC.out _ hb;go_wp2_with fail;refine (HN.out _ hb).mono ?_
 rintro e w2 ⟨rfl,hb2⟩
 have jR2:=jR.below hb2 jR.lt;have hw2:=qd hb hb2;clear hb2 hb jR;have cR:=jR2.cell;have zR:=jR2.free;have sR:=jR2.lt;go_wp2_with fail;refine bodyPost_ret (v:=Aj #[ka ⟨sp,sd,wk,fn⟩,.bool fr,I Z 0]) (by simp[results,Tryz.results69,go_sem,cR]) rfl ⟨rfl,?_⟩
 repeat (first|exact hw2|refine qo ?_ (Qk _) _)
theorem T5 (h:AE w o l H vc vo vw vf f)(hk:H.ok){p:Nat}(hp:lk H.cur p=none) :
  Ab Tryz.prog 69 #[Ag (some ⟨l.h,0,none⟩),I Z p] w fun e w'=>e=O (Aj #[ka ⟨0,0,false,false⟩,.bool false,I Z 70])/\Ae w.heap.size w w':=by
 have HH:=Qa (fun w' (hw:Ae w.heap.size w w')=>xm (h.below hw) hk hp)
 clear h hk hp;go_enter Tryz.func69,Tryz.ntmps69;go_wp2_with fail;refine (HH.out _ (qa (qc w) _)).mono ?_
 rintro e w1 ⟨rfl,hb1⟩
 have jR:Am w1 w.heap.size #[I Z 0,I Z 0,.bool false,.bool false] 93:=(Am.new w _ _).below hb1 (by simp)
 have hb:Ae w.heap.size w w1:=qd (qa (qc w) _) hb1;clear hb1;have cR:=jR.cell;have zR:=jR.free;have sR:=jR.lt;go_wp2_with fail;refine bodyPost_ret (v:=Aj #[ka ⟨0,0,false,false⟩,.bool false,I Z 70]) (by simp[results,Tryz.results69,go_sem,cR]) rfl ⟨rfl,?_⟩
 repeat (first|exact hb|refine qo ?_ (Qk _) _)
theorem JW (h:AE w o l H vc vo vw vf f)(hk:H.ok){p:Nat}{ob:Ob}(hp:lk H.cur p=some ob)(i:Nat)(hx:ob.AN.p<=i) :
  Ab Tryz.prog 112 #[Ag (some ⟨l.h,0,none⟩),I Z p,I Z i] w fun e w'=>e=O (Aj #[I Z 0,I Z 71])/\Ae w.heap.size w w':=by
 obtain⟨ha,ho,hl,_⟩:=h.at_ hk hp;have HH:=Qa (ju h hk hp);have HN:=Qa (fun w' (hw:Ae w.heap.size w w')=>LQ (h.B5.below hw) ha ho hl i hx p i rfl rfl)
 have HC:=Qa (fun w' (hw:Ae w.heap.size w w')=>(h.below hw).A7)
 clear h hk hp ha ho hl hx;go_enter Tryz.func112,Tryz.ntmps112;go_wp2_with fail;refine HH.out.mono ?_
 rintro e w1 ⟨rfl,hb1⟩
 have c1:=HC.out _ hb1;go_wp2_with fail;refine (HN.out _ hb1).mono ?_
 rintro e w2 ⟨rfl,hb2⟩
 go_wp2_with fail;go_ret2;exact⟨rfl,qd hb1 hb2⟩
theorem Lf (h:AE w o l H vc vo vw vf f)(hk:H.ok){p:Nat}(hp:lk H.cur p=none)(i:Nat) :
  Ab Tryz.prog 112 #[Ag (some ⟨l.h,0,none⟩),I Z p,I Z i] w fun e w'=>e=O (Aj #[I Z 0,I Z 70])/\Ae w.heap.size w w':=by
 have HH:=Qa (xm h hk hp);clear h hk hp;go_enter Tryz.func112,Tryz.ntmps112;go_wp2_with fail;refine HH.out.mono ?_
 rintro e w1 ⟨rfl,hb1⟩
 go_wp2_with fail;go_ret2;exact⟨rfl,hb1⟩
theorem WU (h:AE w o l H vc vo vw vf f)(hk:H.ok){p:Nat}(hp:lk H.cur p=none)(i:Nat)(z:Int) :
  Ab Tryz.prog 113 #[Ag (some ⟨l.h,0,none⟩),I Z p,I Z i,I Z z] w fun e w'=>e=O (I Z 70)/\Ae w.heap.size w w':=by
 have HH:=Qa (xm h hk hp);clear h hk hp;go_enter Tryz.func113,Tryz.ntmps113;go_wp2_with fail;refine HH.out.mono ?_
 rintro e w1 ⟨rfl,hb1⟩
 go_wp2_with fail;go_ret;exact⟨rfl,hb1⟩
theorem M6 (hk:H.ok){q:Nat}(hq:q=0\/(lk H.cur q).isSome=true):q<=131072:=by
 rcases hq with rfl|hq
 ·omega
 ·obtain⟨ob,hob⟩:=Option.isSome_iff_exists.1 hq
  have h1:=zr _ _ _ hk.cl _ (zo hob);have h4:=hk.room;have h5:=H.BQ H.use;have h6:=hk.sz;simp only at h1;omega
theorem qiy (h:AE w o l H vc vo vw vf f)(hk:H.ok){p:Nat}{ob:Ob}(hp:lk H.cur p=some ob)(i q:Nat)(hx:i<ob.AN.p)(hq:q=0\/(lk H.cur q).isSome=true) :
  Ab Tryz.prog 113 #[Ag (some ⟨l.h,0,none⟩),I Z p,I Z i,I Z q] w fun e w'=>e=O (I Z 0)/\Hp.ok { H with cur:=up H.cur p (ob.A4 i q) }/\(∃ f',AE w' o l { H with cur:=up H.cur p (ob.A4 i q) } vc vo vw vf f')/\Wr l.wd w w':=by
 obtain⟨ha,ho,hl,_⟩:=h.at_ hk hp;have hqb:=M6 hk hq;have hok:=Hp.Db hk hp (Ob.Ck ho i q hqb) (rfl);have HH:=Qa (ju h hk hp);have HN:=Qa (fun w' (hw:Ae w.heap.size w w')=>xq (h.B5.below hw) ha ho hl i q hx hqb p i q rfl rfl rfl)
 have HC:=Qa (fun w' (hw:Ae w.heap.size w w')=>(h.below hw).A7)
 have HE:=Qa (fun w1 w' (hw:Ae w.heap.size w w1) hT=>(h.below hw).turn (w':=w') hk hp (k:=3+i) (by unfold Ob.size;omega) hT (by rw[show p+(3+i)=p+3+i from by omega];exact ha.A4 ho i q hx))
 rw[show p+(3+i)=p+3+i from by omega]at HE
 have HK:=Qa hok;rcases hq with rfl|hq
 ·clear h hk hp ha ho hl hok hx hqb
  go_enter Tryz.func113,Tryz.ntmps113;go_wp2_with fail;refine HH.out.mono ?_
  rintro e w1 ⟨rfl,hb1⟩
  have c1:=HC.out _ hb1;go_wp2_with fail;refine (HN.out _ hb1).mono ?_
  rintro e w2 ⟨rfl,hT⟩
  go_wp2_with fail;go_ret;exact⟨rfl,HK.out,⟨_,HE.out _ _ hb1 hT⟩,(Wr.of_below hb1).trans hT.2⟩
 ·obtain⟨oq,hoq⟩:=Option.isSome_iff_exists.1 hq
  have HQ:=Qa (fun w' (hw:Ae w.heap.size w w')=>ju (h.below hw) hk hoq)
  by_cases h0:q=0
  ·subst h0
   have:=zr _ _ _ hk.cl _ (zo hoq);have:=H.BQ H.use;simp only at *;omega
  ·clear h hk hp ha ho hl hok hx hqb hq hoq
   go_enter Tryz.func113,Tryz.ntmps113;go_wp2_with fail;refine HH.out.mono ?_
   rintro e w1 ⟨rfl,hb1⟩
   go_wp2_with fail;refine (HQ.out _ hb1).mono ?_
   rintro e w2 ⟨rfl,hb2⟩
   have hb:=qd hb1 hb2;have c1:=HC.out _ hb;go_wp2_with fail;refine (HN.out _ hb).mono ?_
   rintro e w3 ⟨rfl,hT⟩
   go_wp2_with fail;go_ret;exact⟨rfl,HK.out,⟨_,HE.out _ _ hb hT⟩,(Wr.of_below hb).trans hT.2⟩
end
theorem zi:∃ i,Tryz.prog.info? 3=some i/\i.size=1/\i.bytes=8/\i.zero=some (I Z 0):=by
 have h:((Tryz.prog.info? 3).map fun i=>(i.zero,i.size,i.bytes))=some (some (I Z 0),1,8):=by kernel_rfl
 obtain⟨i,hi,he⟩:=Option.map_eq_some_iff.1 h;injection he with e1 e2;injection e2 with e2 e3;exact⟨i,hi,e2,e3,e1⟩
section
variable {P : Program} (w : Aa)
theorem Ye {op:Oper}{a:Act}{K:Act->Aa->Prop}{Q:Exit->Act->Aa->Prop}(s x:Operand)(t:TypeId)
  (ho:op.op=.call { callee:=.builtin .append,args:=#[s,x],argTypes:=#[t,t] })
  (e:TypeId)(i:TypeInfo)(z:Ac)(size bytes:Nat)(ht:P.underlying t=some (.slice e))(hi:P.info? e=some i)(hz:i.zero=some z)
  (hsize:i.size=size)(hby:i.bytes=bytes)(hzs:z.cells.size=size)(hsz:0<size)
  (o:Own)(tg:Tag)(v:Ac)(n:Nat)(xs:List Ac)(hs:a.eval s=v)(hown:Row w o tg e size v n xs)
  (ad:Addr)(m c:Nat)(news:List Ac)(hx:a.eval x=Ah (some ad) m c)(hl:news.length=m*size)(hnews:∀ j u,news[j]?=some u->w.cell? (ad.add j)=some u)(h1:∀ u ∈ news,u.oneCell'=true)
  (h63:n+m<=maxLen)(hbytes:(n+m)*bytes<=140737488355328)
  (h:∀ v' w',Row w' (ext o w.heap.size tg) tg e size v' (n+m) (xs++news)->Stp (fun u=>u=tg) o (ext o w.heap.size tg) w w'->K (a.put op.dst v') w'):op.wp P a w K Q:=by
 obtain⟨v',w',hr,h2,h3⟩:=xa (P:=P) w t op.type e i z size bytes ht hi hz hsize hby hzs hsz o tg v n xs hown ad m c news hl hnews h1 h63 hbytes;unfold Oper.wp execOp;simp only[ho,resolve,invoke,builtin,Sem.run_bind,Sem.run_pure,Result.andThen_ok,List.map_toArray,List.map_cons,List.map_nil,hs,hx,hr];exact h v' w' h2 h3
theorem zj {ops:Array Oper}{op:Oper}{a:Act}{K:Act->Aa->Prop}{Q:Exit->Act->Aa->Prop}{E:Prop}(hgd:op.guard=none)(s x:Operand)(t:TypeId)
  (ho:op.op=.call { callee:=.builtin .append,args:=#[s,x],argTypes:=#[t,t] })
  (e:TypeId)(i:TypeInfo)(z:Ac)(size bytes:Nat)(ht:P.underlying t=some (.slice e))(hi:P.info? e=some i)(hz:i.zero=some z)
  (hsize:i.size=size)(hby:i.bytes=bytes)(hzs:z.cells.size=size)(hsz:0<size)
  (o:Own)(tg:Tag)(v:Ac)(n:Nat)(xs:List Ac)(hs:a.eval s=v)(hown:Row w o tg e size v n xs)
  (ad:Addr)(m c:Nat)(news:List Ac)(hx:a.eval x=Ah (some ad) m c)(hl:news.length=m*size)(hnews:∀ j u,news[j]?=some u->w.cell? (ad.add j)=some u)(h1:∀ u ∈ news,u.oneCell'=true)
  (h63:n+m<=maxLen)(hbytes:(n+m)*bytes<=140737488355328)
  (h:∀ v' w',Row w' (ext o w.heap.size tg) tg e size v' (n+m) (xs++news)->Stp (fun u=>u=tg) o (ext o w.heap.size tg) w w'->K (a.put op.dst v') w') :
  if Region.wanted op (yielded ops a.tmps)=true then Oper.wp P op a w K Q else E:=by
 have hw:Region.wanted op (yielded ops a.tmps)=true:=by simp[Region.wanted,hgd]
 rw[if_pos hw];exact Ye w s x t ho e i z size bytes ht hi hz hsize hby hzs hsz o tg v n xs hs hown ad m c news hx hl hnews h1 h63 hbytes h
end
theorem Row.AY {w:Aa}{o:Own}{t:Tag}{e:TypeId}{size n:Nat}{v:Ac}{xs:List Ac}(h:Row w o t e size v n xs):∃ pa cp,v=.slice pa n cp:=by
 rcases h.own.2 with⟨rfl,rfl⟩|⟨g,cap,cur,rfl,_⟩
 ·exact⟨_,_,rfl⟩
 ·exact⟨_,_,rfl⟩
theorem qx {w:Aa}{B:Nat}{v:Ac}{t:TypeId}(h:Am w B #[v] t):∀ j u,[v][j]?=some u->w.cell? ((⟨B,0,none⟩:Addr).add j)=some u:=fun j u hu=>by
 have hadd:(⟨B,0,none⟩:Addr).add j=⟨B,j,none⟩:=by unfold Addr.add;split<;>simp_all
 rw[hadd,h.cell];simpa using hu
theorem zw {z:Int}:∀ u ∈ [Value.int .i64 z],u.oneCell'=true:=by intro u hu;simp at hu;subst hu;rfl
theorem Te {w:Aa}{o:Own}{tg t0:Tag}{h n sz top BD:Nat}{ps:List Ac}{v0 x0 x1 x2 x3 x4 x5 vc vo:Ac}(hb:Am w h #[v0,I Z 1,I Z sz,I Z top,I Z (1+(sz:Int)),I Z sz,I Z BD,vc,vo,I Z 0,x0,x1,x2,x3,x4,x5] 185)
  (hr:Row w o tg 3 1 vc n ps)(hn:n<16384)(hoh:o h=t0)(ht:t0≠tg)(p t:Nat) :
  Ab Tryz.prog 230 #[Ag (some ⟨h,0,none⟩),Dg 1 sz t,I Z p] w fun e w'=>e=O (Aj #[]) /\
   ∃ vc' o',Am w' h #[v0,I Z 1,I Z sz,I Z t,I Z (1+(sz:Int)),I Z sz,I Z BD,vc',vo,I Z 0,x0,x1,x2,x3,x4,x5] 185/\Row w' o' tg 3 1 vc' (n+1) (ps++[nv p])/\Stp (fun t=>t=t0\/t=tg) o o' w w':=by
 have hu64:=Tryz.underlying25;have c:=hb.cell;have z:=hb.free;have s:=hb.lt;have hne:w.heap.size≠h:=by omega
 go_enter Tryz.func230,Tryz.ntmps230;go_upto_region 1 with fail;have hc9:w.cell? ⟨h,9,none⟩=some (I Z 0):=by rw[c];rfl
 obtain⟨W,hW⟩:∃ W:Aa,W=((((w.setCell ⟨h,1,none⟩ (I Z 1)).setCell ⟨h,2,none⟩ (I Z sz)).setCell ⟨h,3,none⟩ (I Z t)).alloc (.cells #[I Z 1,I Z sz,I Z t] 181)).drew:=⟨_,rfl⟩;have jW:=Am.alloc (((hb.set 1 (I Z 1)).set 2 (I Z sz)).set 3 (I Z t)) (.cells #[I Z 1,I Z sz,I Z t] 181);have jB:=Am.Aq ((((w.setCell ⟨h,1,none⟩ (I Z 1)).setCell ⟨h,2,none⟩ (I Z sz)).setCell ⟨h,3,none⟩ (I Z t))) #[I Z 1,I Z sz,I Z t] #[I Z 1,I Z sz,I Z t] 181 w.heap.size (by simp) rfl
 have jW:=qi jW;have jB:=qi jB;have k9:=jW.cell 9;have b0:=jB.cell 0;have b1:=jB.cell 1;have b2:=jB.cell 2;simp at k9 b0 b1 b2;go_region_held3 (fun w'=>w'.cell? ⟨h,9,none⟩=some (I Z 0)/\w'.cell? ⟨w.heap.size,0,none⟩=some (I Z 1)/\w'.cell? ⟨w.heap.size,1,none⟩=some (I Z sz)/\w'.cell? ⟨w.heap.size,2,none⟩=some (I Z t)) (go_keep) (fail)
 rw[<-hW];have hSt:Stp (fun t=>t=t0) o o w W:=by
  rw[hW];exact ((((((Stp.refl _ o w).setCell (by simpa using hoh) _).setCell (by simpa using hoh) _).setCell (by simpa using hoh) _).alloc _).drew)
 have jW2:Am W h ((((#[v0,I Z 1,I Z sz,I Z top,I Z (1+(sz:Int)),I Z sz,I Z BD,vc,vo,I Z 0,x0,x1,x2,x3,x4,x5]:Array Ac).setIfInBounds 1 (I Z 1)).setIfInBounds 2 (I Z sz)).setIfInBounds 3 (I Z t)) 185:=by rw[hW];exact jW
 simp at jW2;have hr2:=hr.Ao hSt (fun e=>ht e.symm)
 clear jW jB k9 b0 b1 b2 hW c z s hc9 hr hb hne;have c:=jW2.cell;have z:=jW2.free;have s:=jW2.lt;go_upto_region 2 with fail;obtain⟨iI,hi,hsI,hyI,hzI⟩:=zi;have k9:W.cell? ⟨h,9,none⟩=some (I Z 0):=by rw[c];rfl
 have k7:W.cell? ⟨h,7,none⟩=some vc:=by rw[c];rfl
 have hml:n+1<=maxLen:=by simp only[maxLen];omega
 have hmb:(n+1)*8<=140737488355328:=by omega
 have jn:=Am.new W.drew #[I Z p] 3;have rn:Row (W.drew.alloc (.cells #[I Z p] 3)) o tg 3 1 vc n ps:=hr2.below (qa (qe (qc W)) _);have hkeep:=fun (w1:Aa)(o1:Own)(hst:Stp (fun u=>u=tg) o o1 (W.drew.alloc (.cells #[I Z p] 3)) w1)=>(Am.alloc (qi jW2) (.cells #[I Z p] 3)).Ao hst (by rw[hoh];exact ht)
 have hfin:=fun (w1:Aa)(o1:Own)(pa:Option Addr)(cp:Nat)(hown:Row w1 o1 tg 3 1 (.slice pa (n+1) cp) (n+1) (ps++[I Z p]))(hst:Stp (fun u=>u=tg) o o1 (W.drew.alloc (.cells #[I Z p] 3)) w1) =>
  show ∃ vc' o',Am (w1.setCell ⟨h,7,none⟩ (.slice pa (n+1) cp)) h #[v0,I Z 1,I Z sz,I Z t,I Z (1+(sz:Int)),I Z sz,I Z BD,vc',vo,I Z 0,x0,x1,x2,x3,x4,x5] 185/\Row (w1.setCell ⟨h,7,none⟩ (.slice pa (n+1) cp)) o' tg 3 1 vc' (n+1) (ps++[nv p])/\Stp (fun t=>t=t0\/t=tg) o o' w (w1.setCell ⟨h,7,none⟩ (.slice pa (n+1) cp)) from by
   have hlt:h<(W.drew.alloc (.cells #[I Z p] 3)).heap.size:=(Am.alloc (qi jW2) _).lt;have ho1:o1 h=t0:=by rw[hst.tags h hlt];exact hoh
   have k1:Stp (fun t=>t=t0) o1 o1 w1 (w1.setCell ⟨h,7,none⟩ (.slice pa (n+1) cp)):=(Stp.refl _ o1 w1).setCell (by simpa using ho1) _
   refine⟨_,o1,(hkeep _ _ hst).set 7 _,hown.Ao k1 (fun e=>ht e.symm),?_⟩
   exact ((hSt.mono fun _ e=>Or.inl e).trans (Stp.of_below (qa (qe (qc W)) _))).trans ((hst.mono fun _ e=>Or.inr e).trans (k1.mono fun _ e=>Or.inl e))
 go_region_law ((refine zj _ (by rfl) _ _ _ (by rfl) 3 iI _ 1 8 hu64 hi hzI hsI hyI (by rfl) (by decide) o tg vc n ps (by rfl) rn ⟨W.heap.size,0,none⟩ 1 1 [I Z p] (by rfl) (by rfl) (qx jn) zw hml hmb ?_;intro v' w1 hown hst;obtain⟨pa,cp,rfl⟩:=hown.AY;have jX:=hkeep _ _ hst;have cX:=jX.cell;have zX:=jX.free;have sX:=jX.lt))
 all_goals
  go_wp2_with fail;go_end0;exact⟨rfl,hfin _ _ _ _ hown hst⟩
end
section
open Go.RowKit Hp
attribute [local go_sem ↓] Go.wp_at_zero Go.wp_at_succ
section
variable {w : Aa} {o : Own} {l : Ba} {H : Hp} {vc vo vw vf : Ac} {f : Nat -> Nat}
theorem AE.EI (h:AE w o l H vc vo vw vf f)(hu:H.use=false):Am w l.h #[Ag (some ⟨l.a,0,none⟩),I Z 1,I Z H.size,I Z H.top,I Z (1+(H.size:Int)),I Z H.size,I Z H.BD,vc,vo,I Z 0,.bool H.AF,I Z H.Bc,I Z H.scan,I Z H.Ax,vw,vf] 185:=by
 have:=h.hb;unfold Hp.cells at this;rwa [hu,if_neg (by simp)]at this
end
end
section
open Go.RowKit Hp
theorem Stp.BR {T:Tag->Prop}{o:Own}{b:Nat}{w w':Aa}(h:Wr b w w')(ht:T (o b)):Stp T o o w w':=
 ⟨h.os,h.tape,h.output,h.size,fun _ _=>rfl,fun k hk hn=>h.block k hk fun e=>hn (by rw[e];exact ht)⟩
theorem BF.Ao {T:Tag->Prop}{o o':Own}{w w':Aa}{a wd L:Nat}{f:Nat->Nat}(h:BF w a wd L f)(k:Stp T o o' w w')(h1:¬T (o a))(h2:¬T (o wd)):BF w' a wd L f:=by
 obtain⟨cs,hb,hc⟩:=h.words;exact⟨h.B2.Ao k h1,h.ne,⟨cs,hb.Ao k h2,hc⟩,h.le⟩
theorem Row.retag {w:Aa}{o o':Own}{t:Tag}{e:TypeId}{size:Nat}{v:Ac}{n:Nat}{xs:List Ac}(h:Row w o t e size v n xs)(he:∀ b,b<w.heap.size->o' b=o b):Row w o' t e size v n xs:=by
 refine⟨h.own,fun k hk=>?_⟩
 rcases h.own.2 with⟨rfl,_⟩|⟨g,cap,cur,rfl,_,hg,_⟩
 ·simp[Value.ownBlock]at hk
 ·have e1:g=k:=by simpa [Value.ownBlock] using hk
  subst e1;rw[he g (Qf.1 hg).1];exact h.tag g rfl
section
variable {w : Aa} {o : Own} {l : Ba} {H : Hp} {vc vo vw vf : Ac} {f : Nat -> Nat}
theorem AE.retag {o':Own}(h:AE w o l H vc vo vw vf f)(he:∀ b,b<w.heap.size->o' b=o b):AE w o' l H vc vo vw vf f:=
 ⟨h.hb,h.B5,h.rc.retag he,h.ro.retag he,h.rw.retag he,h.rf.retag he,(he _ h.hb.lt).trans h.oh,(he _ h.B5.B2.lt).trans h.oa,(he _ h.B5.lt).trans h.ow,h.E3,h.B8⟩
def Hp.lay (H : Hp) (s : B3) : Hp :=
  { H with cur := H.cur ++ [(H.top, Ob.new s (H.Ax + 1))], top := H.top + Bo (3 + s.p + s.d), Ax := H.Ax + 1,
           Az := if s.Az then H.Az ++ [H.top] else H.Az, final := if s.final then H.final ++ [H.top] else H.final }
end
end
section
open Hp
def Bj:List (Nat×Ob×Option Nat)->Nat->Option (Ob×Option Nat)
 | [],_=>none
 | (q,o)::l,p=>if q=p then some o else Bj l p
theorem jf:∀ {l:List (Nat×Ob×Option Nat)}{p:Nat}{o:Ob×Option Nat},Bj l p=some o->(p,o) ∈ l
 | [],p,o,h=>by simp[Bj]at h
 | (q,x)::l,p,o,h=>by
  unfold Bj at h;split at h
  ·rename_i e
   injection h with h;rw[<-e,<-h];exact .head _
  ·exact .tail _ (jf h)
theorem EY {l:List (Nat×Ob×Option Nat)}{p:Nat}:(Bj l p).isSome=true↔p ∈ l.map (·.1):=by
 induction l with
 | nil=>simp[Bj]
 | cons x l ih =>
  obtain⟨q,o⟩:=x;unfold Bj;split
  ·rename_i e;simp[e]
  ·rename_i e;rw[ih];simp[Ne.symm e]
theorem Nn {l:List (Nat×Ob×Option Nat)}(p:Nat):lk (l.map fun x=>(x.1,x.2.1)) p=(Bj l p).map (·.1):=by
 induction l with
 | nil=>rfl
 | cons x l ih =>
  obtain⟨q,o⟩:=x;show lk ((q,o.1)::(l.map fun x=>(x.1,x.2.1))) p=_
  unfold lk Bj;split
  ·rfl
  ·exact ih
def qr (l:List (Nat×Ob×Option Nat))(p q:Nat):List (Nat×Ob×Option Nat):=l.map fun x=>if x.1=p then (x.1,x.2.1,some q) else x
theorem fp (l:List (Nat×Ob×Option Nat))(p q:Nat):((qr l p q).map fun x=>(x.1,x.2.1))=l.map fun x=>(x.1,x.2.1):=by
 unfold qr;rw[List.map_map];refine List.map_congr_left fun x _=>?_
 simp only[Function.comp_apply];split<;>rfl
theorem X3 (l:List (Nat×Ob×Option Nat))(p q:Nat):(qr l p q).length=l.length:=by unfold qr;simp
theorem WH (l:List (Nat×Ob×Option Nat))(p q:Nat):(qr l p q).map (·.1)=l.map (·.1):=by
 have:=congrArg (List.map (·.1)) (fp l p q);simpa [List.map_map,Function.comp_def] using this
theorem ur (l:List (Nat×Ob×Option Nat))(p q r:Nat):Bj (qr l p q) r=if r=p then (Bj l p).map fun x=>(x.1,some q) else Bj l r:=by
 induction l with
 | nil=>unfold qr Bj;simp
 | cons x l ih =>
  obtain⟨s,o⟩:=x;have e:qr ((s,o)::l) p q=(if s=p then (s,o.1,some q) else (s,o))::qr l p q:=rfl
  rw[e];by_cases h1:s=p
  ·subst h1
   rw[if_pos rfl];by_cases h2:r=s
   ·subst h2;simp[Bj]
   ·rw[if_neg h2]at ih ⊢
    simp only[Bj,if_neg (Ne.symm h2),ih]
  ·rw[if_neg h1]
   by_cases h2:r=p
   ·subst h2
    rw[if_pos rfl]at ih ⊢;simp only[Bj,if_neg h1,ih]
   ·rw[if_neg h2]at ih ⊢
    simp only[Bj,ih]
theorem VI {H:Hp}(hk:H.ok):(H.old.map (·.1)).Pairwise (·<·):=by
 have:=yy _ _ _ hk.ol hk.ok;simpa [Hp.B8,List.map_map,Function.comp_def] using this
theorem V3:∀ {l:List (Nat×Ob×Option Nat)}{p q:Nat}{ob:Ob},(l.map (·.1)).Pairwise (·<·)->Bj l p=some (ob,none)->dg (qr l p q)+Bo ob.size=dg l
 | [],p,q,ob,_,h=>by simp[Bj]at h
 | (s,o,g)::l,p,q,ob,hs,h=>by
  have hs':(∀ y ∈ l.map (·.1),s<y)/\(l.map (·.1)).Pairwise (·<·):=List.pairwise_cons.1 hs;have e:qr ((s,o,g)::l) p q=(if s=p then (s,o,some q) else (s,o,g))::qr l p q:=rfl
  rw[e];unfold Bj at h;by_cases h1:s=p
  ·subst h1
   rw[if_pos rfl]at h ⊢;injection h with h;injection h with h2 h3;subst h2 h3;have hno:qr l s q=l:=by
    unfold qr;refine (List.map_congr_left fun x hx=>?_).trans (List.map_id _)
    have:=hs'.1 x.1 (Qt.2 ⟨x,hx,rfl⟩);rw[if_neg (by omega)];rfl
   rw[hno];show dg l+Bo o.size=Bo o.size+dg l;omega
  ·rw[if_neg h1]at h ⊢
   have ih:=V3 (q:=q) hs'.2 h
   cases g with
   | none =>
    show Bo o.size+dg (qr l p q)+Bo ob.size=Bo o.size+dg l;omega
   | some r=>exact ih
theorem QU:∀ {l:List (Nat×Ob×Option Nat)}{p:Nat}{ob:Ob},Bj l p=some (ob,none)->Bo ob.size<=dg l
 | [],p,ob,h=>by simp[Bj]at h
 | (s,o,g)::l,p,ob,h=>by
  unfold Bj at h;split at h
  ·injection h with h
   injection h with h2 h3;subst h2 h3;show Bo o.size<=Bo o.size+dg l;omega
  ·have ih:=QU h
   cases g with
   | none=>show Bo ob.size<=Bo o.size+dg l;omega
   | some r=>exact ih
def Hp.AA (H:Hp)(p:Nat):Hp×Nat:=
 match Bj H.old p with
 | none=>(H,p)
 | some (_,some q)=>(H,q)
 | some (ob,none)=>({ H with cur:=H.cur++[(H.top,ob)],top:=H.top+Bo ob.size,old:=qr H.old p H.top,Bc:=H.Bc-Bo ob.size },H.top)
theorem Hp.BJ {H:Hp}{p:Nat}(h:Bj H.old p=none):H.AA p=(H,p):=by unfold Hp.AA;rw[h]
theorem Hp.BU {H:Hp}{p q:Nat}{ob:Ob}(h:Bj H.old p=some (ob,some q)):H.AA p=(H,q):=by unfold Hp.AA;rw[h]
theorem Hp.Bw {H:Hp}{p:Nat}{ob:Ob}(h:Bj H.old p=some (ob,none)):H.AA p=({ H with cur:=H.cur++[(H.top,ob)],top:=H.top+Bo ob.size,old:=qr H.old p H.top,Bc:=H.Bc-Bo ob.size },H.top):=by unfold Hp.AA;rw[h]
theorem N5 {H:Hp}(hk:H.ok){p:Nat}{ob:Ob}{g:Option Nat}(h:Bj H.old p=some (ob,g)):ob.ok/\H.base (!H.use)<=p/\p+Bo ob.size<=H.base (!H.use)+H.size/\p+ob.size<=2*H.size+1:=by
 have hm:(p,ob) ∈ H.B8:=Qt.2 ⟨(p,ob,g),jf h,rfl⟩;have h1:=zr _ _ _ hk.ol _ hm;have h2:=hk.ok _ hm;have h3:=zz _ (Ob.AR h2).2;have h4:=hk.ot;have h5:=H.BQ (!H.use);simp only at h1 h2 h3;exact⟨h2,h1.1,by omega,by omega⟩
theorem vj {H:Hp}(hk:H.ok):H.base H.use<=H.top:=dp _ _ _ hk.cl
theorem Hp.Cs {H:Hp}(hk:H.ok)(p:Nat):(H.AA p).1.ok:=by
 cases h:Bj H.old p with
 | none=>rw[H.BJ h];exact hk
 | some x =>
  obtain⟨ob,g⟩:=x
  cases g with
  | some q=>rw[H.BU h];exact hk
  | none =>
   rw[H.Bw h];obtain⟨ho,_,_,_⟩:=N5 hk h;have hg:=V3 (q:=H.top) (VI hk) h;have hr:=hk.room;have hw:=hk.FP;have hb:=vj hk;have hb1:=H.BQ H.use;have hsz:=hk.sz;refine⟨hk.sz,d8 _ _ _ _ hk.cl,fun x hx=>?_,?_,?_,hk.ot,fun hm=>?_,?_,?_,hk.Bt,hk.Ci,fun x hx q hq=>?_⟩
   ·rcases Qs.1 hx with hx|hx
    ·exact hk.ck x hx
    ·rw[Za.1 hx];exact ho
   ·show ky _ ((qr H.old p H.top).map _) _
    rw[fp];exact hk.ol
   ·show FO ((qr H.old p H.top).map _)
    rw[fp];exact hk.ok
   ·have:=hk.still hm
    rw[this]at h;simp[Bj]at h
   ·show H.Bc-Bo ob.size=dg (qr H.old p H.top)
    omega
   ·show H.top+Bo ob.size+(H.Bc-Bo ob.size)<=H.base H.use+H.size
    omega
   ·unfold qr at hx
    obtain⟨z,hz,rfl⟩:=Qt.1 hx;split at hq
    ·injection hq with hq;subst hq;omega
    ·exact hk.gone z hz q hq
end
section
open Go.RowKit Hp
attribute [local go_sem ↓] Go.wp_at_zero Go.wp_at_succ
variable {w : Aa} {a wd L : Nat} {f : Nat -> Nat} {p : Nat} {ob : Ob}
def FE (f:Nat->Nat)(p t n:Nat):Nat->Nat:=upd (NP f p t n) p (4*t+2)
theorem JA {f:Nat->Nat}{p t n j:Nat}(h1:t<=j)(h2:j<t+n)(hp:p<t\/t+n<=p):FE f p t n j=f (p+(j-t)):=by
 unfold FE;rw[upd_ne _ _ _ _ (by omega)];unfold NP;rw[if_pos ⟨h1,h2⟩]
theorem Lz (f:Nat->Nat)(p t n:Nat):FE f p t n p=4*t+2:=mn _ _ _
theorem bw {f:Nat->Nat}{p t n j:Nat}(h:j<t\/t+n<=j)(hp:j≠p):FE f p t n j=f j:=by
 unfold FE;rw[upd_ne _ _ _ _ hp];unfold NP;rw[if_neg (by omega)]
theorem Bi.copied (ho:Bi f p ob)(hk:ob.ok){t:Nat}(hp:p+ob.size<=t\/t+ob.size<=p):Bi (FE f p t ob.size) t ob:=by
 have hs:=Ob.AR hk;have key:∀ k,k<ob.size->FE f p t ob.size (t+k)=f (p+k):=fun k hk=>by
  rw[JA (by omega) (by omega) (by omega),show p+(t+k-t)=p+k from by omega]
 unfold Ob.size at key hs;refine⟨?_,?_,?_,fun j x hx=>?_,fun j n hn=>?_⟩
 ·have:=key 0 (by omega)
  rw[Nat.add_zero,Nat.add_zero]at this;unfold Ob.size;rw[this];exact ho.h0
 ·unfold Ob.size;rw[key 1 (by omega)];exact ho.h1
 ·unfold Ob.size;rw[key 2 (by omega)];exact ho.h2
 ·have:=(Qc.1 hx).1
  rw[hk.lp]at this;unfold Ob.size;rw[show t+3+j=t+(3+j) from by omega,key (3+j) (by omega),show p+(3+j)=p+3+j from by omega];exact ho.hp j x hx
 ·have:=(Qc.1 hn).1
  rw[hk.ln]at this;unfold Ob.size;rw[show t+3+ob.AN.p+j=t+(3+ob.AN.p+j) from by omega,key (3+ob.AN.p+j) (by omega),show p+(3+ob.AN.p+j)=p+3+ob.AN.p+j from by omega];exact ho.hn j n hn
theorem Wr.BH {b c:Nat}{w w':Aa}(h:Wr b w w')(hc:w.heap.size<=c)(i:Nat)(v:Ac):Wr b w (w'.setCell ⟨c,i,none⟩ v):=
 ⟨h.os,h.tape,h.output,by simpa [World.setCell] using h.size,fun k hk hn=>(Below.heap_setCell _ _ _ _ (by show k≠c;omega)).trans (h.block k hk hn)⟩
theorem BF.BH {w':Aa}(h:BF w' a wd L f){c:Nat}(h1:a≠c)(h2:wd≠c)(i:Nat)(v:Ac):BF (w'.setCell ⟨c,i,none⟩ v) a wd L f:=h.wr (Wr.set c w' i v) h1 h2
theorem JG (h:BF w a wd L f)(ho:Bi f p ob)(hk:ob.ok)(hl:p+ob.size<=L){b s t:Nat}(hsp:E1 b s t)(hr:t+Bo ob.size<=b+s)(ht:t+ob.size<=L)(t1:1<=t) :
  Ab Tryz.prog 235 #[Ag (some ⟨a,0,none⟩),I Z p,Dg b s t] w fun e w'=>e=O (Aj #[Dg b s (t+Bo ob.size),I Z t,I Z 0])/\Br w w' a wd L (FE f p t ob.size):=by
 have hs:=Ob.AR hk;have hL:=h.le;have HA:=Qa (fun (W:Aa)(hb:Ae w.heap.size w W)=>Jt (h.below hb) ho hk hl)
 have HS:=Qa (fun (W:Aa)(hb:Ae w.heap.size w W)=>jt (h.below hb) ho hk hl p rfl)
 have HZ:=Qa (fun w=>xd ob.AN hk.AN w)
 have HT:=Qa (fun w=>Rh hsp ob.size hs.1 hs.2 hr _ rfl w)
 have HN:=Qa (fun (W:Aa)(hb:Ae w.heap.size w W)=>PV (h.below hb))
 have HG:=Qa (fun w=>Si t t1 (by omega) t rfl w)
 have HM:=Qa (fun (W:Aa)(hb:Ae w.heap.size w W)=>KW (h.below hb) p t ob.size hl ht (by omega) p t ob.size rfl rfl rfl)
 have HW:=Qa (fun (W:Aa)(h:BF W a wd L (NP f p t ob.size))=>fe h p p (4*t+2) rfl (by omega) ((4*t+2:Nat):Int) rfl)
 have hwd:=h.lt;have hla:=h.B2.lt;have ez:(3+ob.AN.p+ob.AN.d)=ob.size:=rfl;rw[ez]at HZ;have g1:¬((ob.size:Int) > (L:Int)-(t:Int)):=by omega
 have g2:((t:Int)==0)=false:=by rw[Qh];omega
 have g3:IntKind.i64.wrap ((L:Int)-(t:Int))=(L:Int)-(t:Int):=IntWalk.i64_in _ (by omega)
 generalize hrd:t+Bo ob.size=tr at *;generalize ob.size=n at *;obtain⟨c4,hc4⟩:∃ c:Nat,c=4*t+2:=⟨_,rfl⟩;have HC4:=Qa hc4;rw[<-hc4]at HG HW;clear h ho hk hs hL hsp hr hrd hl ht ez hc4;obtain⟨W,hW⟩:∃ W,W=(w.alloc (.cells #[I Z b,I Z s,I Z t] 181)).alloc (.cells #[I Z 0,I Z 0,I Z 0] 181):=⟨_,rfl⟩;have bW:Ae w.heap.size w W:=by rw[hW];exact qa (qa (qc _) _) _
 have jS:Am W w.heap.size #[I Z b,I Z s,I Z t] 181:=by rw[hW];exact (Am.new _ _ _).alloc _
 have jR:Am W (w.heap.size+1) #[I Z 0,I Z 0,I Z 0] 181:=by rw[hW];exact Am.Aq _ _ _ _ _ (by simp) rfl
 go_enter Tryz.func235,Tryz.ntmps235;go_wp2_with fail;rw[<-hW];clear hW;obtain⟨bS,hbS⟩:∃ x,x=w.heap.size:=⟨_,rfl⟩;obtain⟨bR,hbR⟩:∃ x,x=w.heap.size+1:=⟨_,rfl⟩;rw[<-hbR]at jR ⊢;rw[<-hbS]at jS ⊢;have HNew:=Qa (show w.heap.size<=bS/\w.heap.size<=bR/\bS≠bR from by omega)
 clear hbS hbR;refine (HA.out _ bW).mono ?_
 rintro e w1 ⟨rfl,rfl⟩
 go_wp2_with fail;refine (HS.out _ bW).mono ?_
 rintro e w2 ⟨rfl,hb2⟩
 have bW2:=qd bW hb2;have jS2:=jS.below hb2 jS.lt;have jR2:=jR.below hb2 jR.lt;clear hb2 jS jR bW HA HS;go_wp2_with fail;refine (HZ.out _).mono ?_
 rintro e w3 ⟨rfl,hb3⟩
 have bW3:=qd (qa bW2 (.cells #[I Z ob.AN.p,I Z ob.AN.d,.bool ob.AN.Az,.bool ob.AN.final] 93)) hb3;have jS3:=(jS2.alloc (.cells #[I Z ob.AN.p,I Z ob.AN.d,.bool ob.AN.Az,.bool ob.AN.final] 93)).below hb3 (jS2.alloc _).lt;have jR3:=(jR2.alloc (.cells #[I Z ob.AN.p,I Z ob.AN.d,.bool ob.AN.Az,.bool ob.AN.final] 93)).below hb3 (jR2.alloc _).lt;have cS:=jS3.cell;clear hb3 jS2 jR2 bW2 HZ;go_wp2_with fail;refine (HT.out _).mono ?_
 rintro e w4 ⟨rfl,hb4⟩
 have bW4:=qd bW3 hb4;have jR4:=jR3.below hb4 jR3.lt;clear hb4 jS3 jR3 bW3 HT cS;have bW5:=qa bW4 (.cells #[I Z b,I Z s,I Z tr] 181);have jA5:=Am.new w4 #[I Z b,I Z s,I Z tr] 181;have jR5:=jR4.alloc (.cells #[I Z b,I Z s,I Z tr] 181);have hA4:w.heap.size<=w4.heap.size:=bW4.size;obtain⟨W5,hW5⟩:∃ W,W=w4.alloc (.cells #[I Z b,I Z s,I Z tr] 181):=⟨_,rfl⟩;rw[<-hW5]at bW5 jA5 jR5;obtain⟨bA,hbA⟩:∃ x,x=w4.heap.size:=⟨_,rfl⟩;rw[<-hbA]at jA5 hA4;clear jR4 bW4;go_wp2_with fail;rw[<-hW5,<-hbA];clear hW5 hbA;refine (HN.out _ bW5).mono ?_
 rintro e w6 ⟨rfl,rfl⟩
 go_wp2_with fail;refine (HG.out _).mono ?_
 rintro e w6 ⟨rfl,rfl⟩
 go_wp2_with fail;refine (HM.out _ bW5).mono ?_
 rintro e w7 ⟨rfl,hT7⟩
 have jA7:=jA5.wr hT7.2 (by omega)
 have jR7:=jR5.wr hT7.2 (by have:=HNew.out;omega)
 go_wp2_with fail;refine (HW.out _ hT7.1).mono ?_
 rintro e w8 ⟨rfl,hT8⟩
 have jA8:=jA7.wr hT8.2 (by omega)
 have jR8:=jR7.wr hT8.2 (by have:=HNew.out;omega)
 have cA:=jA8.cell;have cR:=jR8.cell;have zR:=jR8.free;have lR:=jR8.lt;have hT:=((Br.after bW5 hT7).2).trans hT8.2;have hW8:=hT8.1;clear hT7 hT8 jA5 jR5 jA7 jR7 bW5 HM HW HN HG;go_wp2_with fail;refine bodyPost_ret (v:=Aj #[Dg b s tr,I Z t,I Z 0]) (by simp[results,Tryz.results235,go_sem,cR]) rfl ⟨rfl,?_⟩
 have h1:a≠bR:=by have:=HNew.out;omega
 have h2:wd≠bR:=by have:=HNew.out;omega
 have h3:w.heap.size<=bR:=HNew.out.2.1;unfold FE;rw[<-HC4.out];refine⟨?_,?_⟩
 ·repeat (first|exact hW8|refine BF.BH ?_ h1 h2 _ _)
 ·repeat (first|exact hT|refine Wr.BH ?_ h3 _ _)
section
variable {w : Aa} {o : Own} {l : Ba} {H : Hp} {vc vo vw vf : Ac} {f : Nat -> Nat}
theorem di (h:AE w o l H vc vo vw vf f) (hk:H.ok) (p:Nat) :
  Ab Tryz.prog 172 #[Ag (some ⟨l.h,0,none⟩),I Z p] w fun e w'=>e=O (.bool (Bj H.old p).isSome)/\Ae w.heap.size w w':=by
 have HM:=Qa (wj h)
 cases hm:H.AF with
 | false =>
  rw[hm]at HM;rw[hk.still hm];clear h hm hk;go_enter Tryz.func172,Tryz.ntmps172;go_wp2_with fail;refine HM.out.mono ?_
  rintro e w1 ⟨rfl,rfl⟩
  go_wp2_with fail;go_ret;exact⟨rfl,qc _⟩
 | true =>
  rw[hm]at HM;have hbs:=fun (w':Aa) (hw:Ae w.heap.size w w')=>UL (w:=w') (o:=o) (t:=(l.id,if H.use then 3 else 4)) (v:=vo) (H.old.map (·.1)) (by simpa [List.map_map,Function.comp_def] using h.ro.below hw) (VI hk) (by have:=Md hk;simpa using by omega) p p rfl
  have hd:decide (p ∈ H.old.map (·.1))=(Bj H.old p).isSome:=by rw[Bool.eq_iff_iff,decide_eq_true_eq,EY]
  rw[hd]at hbs;generalize (((H.old.map (·.1)).map fun (p:Nat)=>(p:Int)).countP (·<(p:Int)):Nat)=q at hbs
  generalize (Bj H.old p).isSome=b at *;have c:=h.hb.cell;unfold Hp.cells at c;have HB:=Qa hbs;clear h hbs hd hm
  cases hu:H.use
  all_goals
   rw[hu]at c;first|rw[if_pos rfl]at c|rw[if_neg (by simp)]at c
   clear hu;go_enter Tryz.func172,Tryz.ntmps172;go_wp2_with fail;refine HM.out.mono ?_
   rintro e w1 ⟨rfl,rfl⟩
   go_upto_region 3 with fail;go_quiet ((go_at_call 124;exact Calls.quiet_of (HB.out _ (zh (qc w) _))));go_wp2_with fail;go_ret;exact⟨rfl,zh (qc w) _⟩
end
theorem UC {w:Aa}{o:Own}{tg t0:Tag}{h n sz top BD:Nat}{ps:List Ac}{v0 x0 x1 x2 x3 x4 x5 vc vo:Ac}(hb:Am w h #[v0,I Z 1,I Z sz,I Z BD,I Z (1+(sz:Int)),I Z sz,I Z top,vo,vc,I Z 1,x0,x1,x2,x3,x4,x5] 185)
  (hr:Row w o tg 3 1 vc n ps)(hn:n<16384)(hoh:o h=t0)(ht:t0≠tg)(p t:Nat) :
  Ab Tryz.prog 230 #[Ag (some ⟨h,0,none⟩),(Ak #[I Z (1+(sz:Int)),I Z sz,I Z t]),I Z p] w fun e w'=>e=O (Aj #[]) /\
   ∃ vc' o',Am w' h #[v0,I Z 1,I Z sz,I Z BD,I Z (1+(sz:Int)),I Z sz,I Z t,vo,vc',I Z 1,x0,x1,x2,x3,x4,x5] 185/\Row w' o' tg 3 1 vc' (n+1) (ps++[nv p])/\Stp (fun t=>t=t0\/t=tg) o o' w w':=by
 have hu64:=Tryz.underlying25;have c:=hb.cell;have z:=hb.free;have s:=hb.lt;have hne:w.heap.size≠h:=by omega
 go_enter Tryz.func230,Tryz.ntmps230;go_upto_region 1 with fail;have hc9:w.cell? ⟨h,9,none⟩=some (I Z 1):=by rw[c];rfl
 obtain⟨W,hW⟩:∃ W:Aa,W=((((w.setCell ⟨h,4,none⟩ (I Z (1+(sz:Int)))).setCell ⟨h,5,none⟩ (I Z sz)).setCell ⟨h,6,none⟩ (I Z t)).alloc (.cells #[I Z (1+(sz:Int)),I Z sz,I Z t] 181)).drew:=⟨_,rfl⟩;have jW:=Am.alloc (((hb.set 4 (I Z (1+(sz:Int)))).set 5 (I Z sz)).set 6 (I Z t)) (.cells #[I Z (1+(sz:Int)),I Z sz,I Z t] 181);have jB:=Am.Aq ((((w.setCell ⟨h,4,none⟩ (I Z (1+(sz:Int)))).setCell ⟨h,5,none⟩ (I Z sz)).setCell ⟨h,6,none⟩ (I Z t))) #[I Z (1+(sz:Int)),I Z sz,I Z t] #[I Z (1+(sz:Int)),I Z sz,I Z t] 181 w.heap.size (by simp) rfl
 have jW:=qi jW;have jB:=qi jB;have k9:=jW.cell 9;have b0:=jB.cell 0;have b1:=jB.cell 1;have b2:=jB.cell 2;simp at k9 b0 b1 b2;go_region_held3 (fun w'=>w'.cell? ⟨h,9,none⟩=some (I Z 1)/\w'.cell? ⟨w.heap.size,0,none⟩=some (I Z (1+(sz:Int)))/\w'.cell? ⟨w.heap.size,1,none⟩=some (I Z sz)/\w'.cell? ⟨w.heap.size,2,none⟩=some (I Z t)) (go_keep) (fail)
 rw[<-hW];have hSt:Stp (fun t=>t=t0) o o w W:=by
  rw[hW];exact ((((((Stp.refl _ o w).setCell (by simpa using hoh) _).setCell (by simpa using hoh) _).setCell (by simpa using hoh) _).alloc _).drew)
 have jW2:Am W h ((((#[v0,I Z 1,I Z sz,I Z BD,I Z (1+(sz:Int)),I Z sz,I Z top,vo,vc,I Z 1,x0,x1,x2,x3,x4,x5]:Array Ac).setIfInBounds 4 (I Z (1+(sz:Int)))).setIfInBounds 5 (I Z sz)).setIfInBounds 6 (I Z t)) 185:=by rw[hW];exact jW
 simp at jW2;have hr2:=hr.Ao hSt (fun e=>ht e.symm)
 clear jW jB k9 b0 b1 b2 hW c z s hc9 hr hb hne;have c:=jW2.cell;have z:=jW2.free;have s:=jW2.lt;go_upto_region 2 with fail;obtain⟨iI,hi,hsI,hyI,hzI⟩:=zi;have k9:W.cell? ⟨h,9,none⟩=some (I Z 1):=by rw[c];rfl
 have k7:W.cell? ⟨h,8,none⟩=some vc:=by rw[c];rfl
 have hml:n+1<=maxLen:=by simp only[maxLen];omega
 have hmb:(n+1)*8<=140737488355328:=by omega
 have jn:=Am.new W.drew #[I Z p] 3;have rn:Row (W.drew.alloc (.cells #[I Z p] 3)) o tg 3 1 vc n ps:=hr2.below (qa (qe (qc W)) _);have hkeep:=fun (w1:Aa)(o1:Own)(hst:Stp (fun u=>u=tg) o o1 (W.drew.alloc (.cells #[I Z p] 3)) w1)=>(Am.alloc (qi jW2) (.cells #[I Z p] 3)).Ao hst (by rw[hoh];exact ht)
 have hfin:=fun (w1:Aa)(o1:Own)(pa:Option Addr)(cp:Nat)(hown:Row w1 o1 tg 3 1 (.slice pa (n+1) cp) (n+1) (ps++[I Z p]))(hst:Stp (fun u=>u=tg) o o1 (W.drew.alloc (.cells #[I Z p] 3)) w1) =>
  show ∃ vc' o',Am (w1.setCell ⟨h,8,none⟩ (.slice pa (n+1) cp)) h #[v0,I Z 1,I Z sz,I Z BD,I Z (1+(sz:Int)),I Z sz,I Z t,vo,vc',I Z 1,x0,x1,x2,x3,x4,x5] 185/\Row (w1.setCell ⟨h,8,none⟩ (.slice pa (n+1) cp)) o' tg 3 1 vc' (n+1) (ps++[nv p])/\Stp (fun t=>t=t0\/t=tg) o o' w (w1.setCell ⟨h,8,none⟩ (.slice pa (n+1) cp)) from by
   have hlt:h<(W.drew.alloc (.cells #[I Z p] 3)).heap.size:=(Am.alloc (qi jW2) _).lt;have ho1:o1 h=t0:=by rw[hst.tags h hlt];exact hoh
   have k1:Stp (fun t=>t=t0) o1 o1 w1 (w1.setCell ⟨h,8,none⟩ (.slice pa (n+1) cp)):=(Stp.refl _ o1 w1).setCell (by simpa using ho1) _
   refine⟨_,o1,(hkeep _ _ hst).set 8 _,hown.Ao k1 (fun e=>ht e.symm),?_⟩
   exact ((hSt.mono fun _ e=>Or.inl e).trans (Stp.of_below (qa (qe (qc W)) _))).trans ((hst.mono fun _ e=>Or.inr e).trans (k1.mono fun _ e=>Or.inl e))
 go_region_law ((refine zj _ (by rfl) _ _ _ (by rfl) 3 iI _ 1 8 hu64 hi hzI hsI hyI (by rfl) (by decide) o tg vc n ps (by rfl) rn ⟨W.heap.size,0,none⟩ 1 1 [I Z p] (by rfl) (by rfl) (qx jn) zw hml hmb ?_;intro v' w1 hown hst;obtain⟨pa,cp,rfl⟩:=hown.AY;have jX:=hkeep _ _ hst;have cX:=jX.cell;have zX:=jX.free;have sX:=jX.lt))
 all_goals
  go_wp2_with fail;go_end0;exact⟨rfl,hfin _ _ _ _ hown hst⟩
section
variable {w : Aa} {o : Own} {l : Ba} {H : Hp} {vc vo vw vf : Ac} {f : Nat -> Nat}
def Ba.tc (l:Ba)(u:Bool):Tag:=(l.id,if u then 4 else 3)
def Ba.Vf (l:Ba)(u:Bool):Tag:=(l.id,if u then 3 else 4)
theorem qm2 (hb:Am w l.h (H.cells l.a vc vo vw vf) 185){n:Nat}{ps:List Ac}(hr:Row w o (l.tc H.use) 3 1 vc n ps)(hn:n<16384)(hoh:o l.h=(l.id,0))(p t:Nat) :
  Ab Tryz.prog 230 #[Ag (some ⟨l.h,0,none⟩),Dg (H.base H.use) H.size t,I Z p] w fun e w'=>e=O (Aj #[]) /\
   ∃ vc' o',Am w' l.h ({ H with top:=t }.cells l.a vc' vo vw vf) 185/\Row w' o' (l.tc H.use) 3 1 vc' (n+1) (ps++[nv p])/\Stp (fun t=>t=(l.id,0)\/t=l.tc H.use) o o' w w':=by
 rcases (show H.use=false\/H.use=true by cases H.use<;>simp) with hu|hu
 ·have htc:l.tc H.use=l.tc false:=by rw[hu]
  have hba:H.base H.use=H.base false:=by rw[hu]
  rw[htc]at hr ⊢;rw[hba];have e1:∀ (t:Nat)(v1:Ac),{ H with top:=t }.cells l.a v1 vo vw vf=#[Ag (some ⟨l.a,0,none⟩),I Z 1,I Z H.size,I Z t,I Z (1+(H.size:Int)),I Z H.size,I Z H.BD,v1,vo,I Z 0,.bool H.AF,I Z H.Bc,I Z H.scan,I Z H.Ax,vw,vf]:=fun t v1=>by
   unfold Hp.cells;simp only[hu,Bool.false_eq_true,if_false]
  have hb':=hb;rw[show H.cells l.a vc vo vw vf={ H with top:=H.top }.cells l.a vc vo vw vf from rfl,e1]at hb';refine (Te hb' hr hn hoh (by unfold Ba.tc;simp) p t).mono ?_
  rintro e w' ⟨rfl,vc',o',h1,h2,h3⟩
  exact⟨rfl,vc',o',by rw[e1];exact h1,h2,h3⟩
 ·have htc:l.tc H.use=l.tc true:=by rw[hu]
  have hba:H.base H.use=H.base true:=by rw[hu]
  rw[htc]at hr ⊢;rw[hba];have e1:∀ (t:Nat)(v1:Ac),{ H with top:=t }.cells l.a v1 vo vw vf=#[Ag (some ⟨l.a,0,none⟩),I Z 1,I Z H.size,I Z H.BD,I Z (1+(H.size:Int)),I Z H.size,I Z t,vo,v1,I Z 1,.bool H.AF,I Z H.Bc,I Z H.scan,I Z H.Ax,vw,vf]:=fun t v1=>by
   unfold Hp.cells;simp only[hu,if_true]
  have hb':=hb;rw[show H.cells l.a vc vo vw vf={ H with top:=H.top }.cells l.a vc vo vw vf from rfl,e1]at hb';have e2:Dg (H.base true) H.size t=Ak #[I Z (1+(H.size:Int)),I Z H.size,I Z t]:=by
   show Value.agg #[I Z ((1+H.size:Nat):Int),_,_]=_;rw[show ((1+H.size:Nat):Int)=1+(H.size:Int) from by omega]
  rw[e2];refine (UC hb' hr hn hoh (by unfold Ba.tc;simp) p t).mono ?_
  rintro e w' ⟨rfl,vc',o',h1,h2,h3⟩
  exact⟨rfl,vc',o',by rw[e1];exact h1,h2,h3⟩
theorem Y8 {a wd L p q b s t:Nat}(h:BF w a wd L f)(hp:p<L)(h1:1<=q)(h2:q<=131072)(hf:f p=4*q+2) :
  Ab Tryz.prog 235 #[Ag (some ⟨a,0,none⟩),I Z p,Dg b s t] w fun e w'=>e=O (Aj #[Dg b s t,I Z q,I Z 0])/\Ae w.heap.size w w':=by
 have HA:=Qa (fun (W:Aa)(hb:Ae w.heap.size w W)=>Vy (h.below hb) hp q h1 h2 hf)
 clear h hp h1 h2 hf;obtain⟨W,hW⟩:∃ W,W=(w.alloc (.cells #[I Z b,I Z s,I Z t] 181)).alloc (.cells #[I Z 0,I Z 0,I Z 0] 181):=⟨_,rfl⟩;have bW:Ae w.heap.size w W:=by rw[hW];exact qa (qa (qc _) _) _
 have jS:Am W w.heap.size #[I Z b,I Z s,I Z t] 181:=by rw[hW];exact (Am.new _ _ _).alloc _
 have jR:Am W (w.heap.size+1) #[I Z 0,I Z 0,I Z 0] 181:=by rw[hW];exact Am.Aq _ _ _ _ _ (by simp) rfl
 go_enter Tryz.func235,Tryz.ntmps235;go_wp2_with fail;rw[<-hW];clear hW;refine (HA.out _ bW).mono ?_
 rintro e w1 ⟨rfl,rfl⟩
 have cS:=jS.cell;have cR:=jR.cell;have zR:=jR.free;have lR:=jR.lt;go_wp2_with fail;refine bodyPost_ret (v:=Aj #[Dg b s t,I Z q,I Z 0]) (by simp[results,Tryz.results235,go_sem,cR]) rfl ⟨rfl,?_⟩
 repeat (first|exact bW|refine qo ?_ (by show w.heap.size<=w.heap.size+1;omega) _)
end
end
section
open Hp
theorem Sq (l m:List (Nat×Ob))(p:Nat):lk (l++m) p=(lk l p).or (lk m p):=by
 induction l with
 | nil=>simp[lk]
 | cons x l ih =>
  obtain⟨q,o⟩:=x;show (if q=p then some o else lk (l++m) p)=Option.or (if q=p then some o else lk l p) (lk m p)
  split
  ·simp
  ·exact ih
theorem xu {l:List (Nat×Ob)}{p:Nat}{ob:Ob}(h:lk l p=some ob)(m:List (Nat×Ob)):lk (l++m) p=some ob:=by rw[Sq,h];rfl
theorem cw {l:List (Nat×Ob)}{b t p:Nat}(hl:ky b l t)(hk:FO l)(hp:t<=p):lk l p=none:=by
 cases h:lk l p with
 | none=>rfl
 | some ob =>
  have h1:=zr _ _ _ hl _ (zo h);have h2:=zz _ (Ob.AR (hk _ (zo h))).2;simp only at h1 h2;omega
theorem QD {H:Hp}(hk:H.ok)(ob:Ob):lk (H.cur++[(H.top,ob)]) H.top=some ob:=by
 rw[Sq,cw hk.cl hk.ck (Qk _)];simp[lk]
theorem Tr:∀ (l m:List (Nat×Ob))(b t:Nat),ky b (l++m) t->∃ s,ky b l s/\ky s m t
 | [],m,b,t,h=>⟨b,rfl,h⟩
 | (p,o)::l,m,b,t,h=>by
  obtain⟨s,h1,h2⟩:=Tr l m _ t h.2;exact⟨s,⟨h.1,h1⟩,h2⟩
def SJ (H:Hp):Prop:=∃ a b,H.cur=a++b/\ky (H.base H.use) a H.scan
structure Hp.wf (H:Hp):Prop where
 ok:H.ok
 wl:H.Az.length<=H.Ax
 fl:H.final.length<=H.Ax
 sc:H.AF=true->SJ H
 gn:∀ x ∈ H.old,∀ q,x.2.2=some q->∃ ob,lk H.cur q=some ob/\ob.AN=x.2.1.AN
 wk:∀ p ∈ H.Az,(∃ ob,lk H.cur p=some ob/\1<=ob.AN.p)\/∃ z,Bj H.old p=some z/\1<=z.1.AN.p
theorem yp {H:Hp}{p q:Nat}{ob:Ob}(h:lk H.cur q=some ob):lk (H.AA p).1.cur q=some ob:=by
 unfold Hp.AA;split
 ·exact h
 ·exact h
 ·exact xu h _
theorem ga {H:Hp}(p:Nat):(H.AA p).1.size=H.size/\(H.AA p).1.use=H.use/\(H.AA p).1.AF=H.AF/\(H.AA p).1.scan=H.scan/\(H.AA p).1.Ax=H.Ax/\(H.AA p).1.Az=H.Az/\(H.AA p).1.final=H.final/\(H.AA p).1.BD=H.BD:=by
 unfold Hp.AA;split<;>exact⟨rfl,rfl,rfl,rfl,rfl,rfl,rfl,rfl⟩
theorem ri {l:List (Nat×Ob×Option Nat)}{p q:Nat}{x:Nat×Ob×Option Nat}(h:x ∈ qr l p q):x ∈ l\/(x.1=p/\x.2.2=some q/\∃ y ∈ l,y.1=p/\y.2.1=x.2.1):=by
 unfold qr at h;obtain⟨z,hz,rfl⟩:=Qt.1 h;split
 ·rename_i e;exact .inr ⟨e,rfl,z,hz,e,rfl⟩
 ·exact .inl hz
theorem JD {H:Hp}(hk:H.ok){x y:Nat×Ob×Option Nat}(hx:x ∈ H.old)(hy:y ∈ H.old)(e:x.1=y.1):x.2.1=y.2.1:=by
 have h1:(x.1,x.2.1) ∈ H.B8:=Qt.2 ⟨x,hx,rfl⟩;have h2:(x.1,y.2.1) ∈ H.B8:=Qt.2 ⟨y,hy,by rw[e]⟩
 exact dv hk.ol hk.ok h1 h2
theorem Hp.EZ {H:Hp}(h:H.wf)(p:Nat):(H.AA p).1.wf:=by
 obtain⟨s1,s2,s3,s4,s5,s6,s7,s8⟩:=ga (H:=H) p;refine⟨Hp.Cs h.ok p,by rw[s5,s6];exact h.wl,by rw[s5,s7];exact h.fl,fun hm=>?_,?_,fun q hq=>?_⟩
 ·obtain⟨a,b,e,hl⟩:=h.sc (by rw[<-s3];exact hm)
  unfold SJ Hp.base;rw[s1,s2,s4];unfold Hp.AA;split
  ·exact⟨a,b,e,hl⟩
  ·exact⟨a,b,e,hl⟩
  ·exact⟨a,b++[_],by show H.cur++_=_;rw[e,List.append_assoc],hl⟩
 ·cases hp:Bj H.old p with
  | none=>rw[H.BJ hp];exact h.gn
  | some z =>
   obtain⟨ob,g⟩:=z
   cases g with
   | some q=>rw[H.BU hp];exact h.gn
   | none =>
    rw[H.Bw hp];intro x hx q hq;rcases ri (show x ∈ qr H.old p H.top from hx) with hx|⟨e1,e2,y,hy,e3,e4⟩
    ·obtain⟨ob',h1,h2⟩:=h.gn x hx q hq
     exact⟨ob',xu h1 _,h2⟩
    ·rw[e2]at hq
     injection hq with hq;subst hq;refine⟨ob,QD h.ok ob,?_⟩;have h5:=JD h.ok (jf hp) hy (by rw[e3])
     simp only at h5;rw[<-e4,<-h5]
 ·rw[s6]at hq
  rcases h.wk q hq with ⟨ob,h1,h2⟩|⟨z,h1,h2⟩
  ·exact .inl ⟨ob,yp h1,h2⟩
  ·refine .inr ?_
   unfold Hp.AA;split
   ·exact⟨z,h1,h2⟩
   ·exact⟨z,h1,h2⟩
   ·show ∃ z,Bj (qr H.old p H.top) q=some z/\_
    rw[ur];split
    ·rename_i e;subst e;rw[h1];exact⟨_,rfl,h2⟩
    ·exact⟨z,h1,h2⟩
def Hp.As (H:Hp):List Nat->Hp×List Nat
 | []=>(H,[])
 | p::l=>(((H.AA p).1.As l).1,(H.AA p).2::((H.AA p).1.As l).2)
theorem Hp.Cb:∀ (l:List Nat){H:Hp},H.wf->(H.As l).1.wf
 | [],_,h=>h
 | p::l,_,h=>Hp.Cb l (Hp.EZ h p)
theorem kp:∀ (l:List Nat)(H:Hp),(H.As l).2.length=l.length
 | [],_=>rfl
 | _::l,H=>by show (_::_).length=_;simp[kp l]
theorem pj:∀ (l:List Nat){H:Hp}{q:Nat}{ob:Ob},lk H.cur q=some ob->lk (H.As l).1.cur q=some ob
 | [],_,_,_,h=>h
 | _::l,_,_,_,h=>pj l (yp h)
theorem wq:∀ (l:List Nat)(H:Hp),(H.As l).1.size=H.size/\(H.As l).1.use=H.use/\(H.As l).1.AF=H.AF/\(H.As l).1.scan=H.scan/\(H.As l).1.Ax=H.Ax/\(H.As l).1.Az=H.Az/\(H.As l).1.final=H.final/\(H.As l).1.BD=H.BD
 | [],_=>⟨rfl,rfl,rfl,rfl,rfl,rfl,rfl,rfl⟩
 | p::l,H=>by
  obtain⟨a1,a2,a3,a4,a5,a6,a7,a8⟩:=wq l (H.AA p).1;obtain⟨s1,s2,s3,s4,s5,s6,s7,s8⟩:=ga (H:=H) p;exact⟨a1.trans s1,a2.trans s2,a3.trans s3,a4.trans s4,a5.trans s5,a6.trans s6,a7.trans s7,a8.trans s8⟩
theorem RA {H:Hp}(hk:H.ok):H.top<=32769:=by
 have:=hk.room;have:=hk.sz;have:=H.BQ H.use;omega
theorem sq {H:Hp}(hk:H.ok){p:Nat}(hp:p<=131072):(H.AA p).2<=131072:=by
 cases h:Bj H.old p with
 | none=>rw[H.BJ h];exact hp
 | some z =>
  obtain⟨ob,g⟩:=z
  cases g with
  | some q=>rw[H.BU h];exact (hk.gone _ (jf h) q rfl).2
  | none=>rw[H.Bw h];have:=RA hk;show H.top<=_;omega
theorem SQ:∀ (l:List Nat){H:Hp},H.ok->(∀ p ∈ l,p<=131072)->∀ q ∈ (H.As l).2,q<=131072
 | [],_,_,_,q,hq=>by cases hq
 | p::l,H,hk,hp,q,hq=>by
  rcases List.mem_cons.1 (show q ∈ (H.AA p).2::_ from hq) with rfl|hq
  ·exact sq hk (hp p (.head _))
  ·exact SQ l (Hp.Cs hk p) (fun x hx=>hp x (.tail _ hx)) q hq
theorem sy {H:Hp}(h:H.wf){p:Nat}{ob ob':Ob}(hp:lk H.cur p=some ob)(ho:ob'.ok)(hs:ob'.AN=ob.AN):Hp.wf { H with cur:=up H.cur p ob' }:=by
 have hsz:ob'.size=ob.size:=by unfold Ob.size;rw[hs]
 have hup:∀ {q:Nat}{x:Ob},lk H.cur q=some x->∃ y,lk (up H.cur p ob') q=some y/\y.AN=x.AN:=by
  intro q x hq;rw[NA];split
  ·rename_i e;subst e;rw[hp]at hq ⊢;injection hq with hq;subst hq;exact⟨_,rfl,hs⟩
  ·exact⟨x,hq,rfl⟩
 refine⟨Hp.Db h.ok hp ho hsz,h.wl,h.fl,fun hm=>?_,fun x hx q hq=>?_,fun q hq=>?_⟩
 ·obtain⟨a,b,e,hl⟩:=h.sc hm
  refine⟨up a p ob',up b p ob',?_,?_⟩
  ·show up H.cur p ob'=_
   rw[e];unfold up;simp
  ·refine QC _ _ _ _ _ (fun y hy=>?_) hl
   rw[hsz,dv h.ok.cl h.ok.ck (zo hp) (show (p,y) ∈ H.cur by rw[e];exact Qs.2 (.inl hy))]
 ·obtain⟨y,h1,h2⟩:=h.gn x hx q hq
  obtain⟨z,h3,h4⟩:=hup h1;exact⟨z,h3,h4.trans h2⟩
 ·rcases h.wk q hq with ⟨y,h1,h2⟩|h1
  ·obtain⟨z,h3,h4⟩:=hup h1
   exact .inl ⟨z,h3,by rw[h4];exact h2⟩
  ·exact .inr h1
theorem Hp.wf.EJ {H:Hp}(h:H.wf){p:Nat}{ob:Ob}(hp:lk H.cur p=some ob):ob.ok:=h.ok.ck _ (zo hp)
def Hp.A5 (H:Hp)(p i:Nat):Hp×Nat×Nat:=
 match lk H.cur p with
 | none=>(H,0,70)
 | some ob=>match ob.AL[i]? with
  | none=>(H,0,71)
  | some x=>if (Bj H.old x).isSome then ({ (H.AA x).1 with cur:=up (H.AA x).1.cur p (ob.A4 i (H.AA x).2) },(H.AA x).2,0) else (H,x,0)
def Hp.A9 (H:Hp)(p i q:Nat):Hp×Nat:=
 match lk H.cur p with
 | none=>(H,70)
 | some ob=>if q≠0/\lk H.cur q=none then (H,70) else if ob.AN.p<=i then (H,71) else ({ H with cur:=up H.cur p (ob.A4 i q) },0)
def Hp.Bm (H:Hp)(p i:Nat)(n:Int):Hp×Nat:=
 match lk H.cur p with
 | none=>(H,70)
 | some ob=>if ob.AN.d<=i then (H,71) else ({ H with cur:=up H.cur p (ob.Ce i n) },0)
def Hp.AS (H:Hp)(p:Nat)(b:Bool):Hp×Nat:=
 match lk H.cur p with
 | none=>(H,70)
 | some ob=>({ H with cur:=up H.cur p (ob.BL b) },0)
def Hp.AB (H:Hp)(p v:Nat):Hp×Nat:=
 match lk H.cur p with
 | none=>(H,70)
 | some ob=>({ H with cur:=up H.cur p (ob.BX v) },0)
theorem Kf {H:Hp}(hk:H.ok){q:Nat}(h:¬(q≠0/\lk H.cur q=none)):q<=131072:=by
 by_cases h0:q=0
 ·omega
 ·cases hq:lk H.cur q with
  | none=>exact absurd ⟨h0,hq⟩ h
  | some ob =>
   have h1:=zr _ _ _ hk.cl _ (zo hq);have h2:=RA hk;simp only at h1;omega
theorem Hp.Fi {H:Hp}(h:H.wf)(p i q:Nat):(H.A9 p i q).1.wf:=by
 unfold Hp.A9;split
 ·exact h
 ·rename_i ob hp
  split
  ·exact h
  ·rename_i hq
   split
   ·exact h
   ·exact sy h hp (Ob.Ck (h.EJ hp) i q (Kf h.ok hq)) rfl
theorem Hp.Fg {H:Hp}(h:H.wf)(p i:Nat){n:Int}(hn:-9223372036854775808<=n/\n<=9223372036854775807):(H.Bm p i n).1.wf:=by
 unfold Hp.Bm;split
 ·exact h
 ·rename_i ob hp
  split
  ·exact h
  ·exact sy h hp (Ob.DN (h.EJ hp) i n hn) rfl
theorem Hp.Ds {H:Hp}(h:H.wf)(p:Nat)(b:Bool):(H.AS p b).1.wf:=by
 unfold Hp.AS;split
 ·exact h
 ·rename_i ob hp;exact sy h hp (Ob.CU (h.EJ hp) b) rfl
theorem Hp.Dp {H:Hp}(h:H.wf)(p:Nat){v:Nat}(hv:v<=2199023255552):(H.AB p v).1.wf:=by
 unfold Hp.AB;split
 ·exact h
 ·rename_i ob hp;exact sy h hp (Ob.CJ (h.EJ hp) v hv) rfl
def Hp.left (H:Hp):Nat:=H.base H.use+H.size-H.top-H.Bc
def Hp.roomy (H:Hp)(s:B3):Bool:=decide (Bo (3+s.p+s.d)<=H.left)&&decide (H.Ax<1099511627776)
def Hp.AM (H:Hp)(s:B3):Hp×Nat×Nat:=if H.roomy s=true then (H.lay s,H.top,0) else (H,0,100)
theorem Hp.MW {H:Hp} (h:H.wf) {s:B3} (hs:s.ok) (hr:H.roomy s=true):(H.lay s).wf:=by
 unfold Hp.roomy Hp.left at hr;simp only[Bool.and_eq_true,decide_eq_true_eq]at hr;obtain⟨hr,hser⟩:=hr;have hn:=Ob.MC hs (H.Ax+1) (by omega)
 have hroom:=h.ok.room;have hrd:=zz (3+s.p+s.d) (by have:=hs.1;have:=hs.2.1;omega)
 have k:=h.ok;have hcur:∀ {q:Nat} {ob:Ob},lk H.cur q=some ob->lk (H.lay s).cur q=some ob:=fun hq=>xu hq _
 refine⟨⟨k.sz,d8 _ _ _ _ k.cl,?_,k.ol,k.ok,k.ot,k.still,k.FP,?_,?_,k.Ci,k.gone⟩,?_,?_,fun hm=>?_,fun x hx q hq=>?_,fun p hp=>?_⟩
 ·intro x hx
  rcases Qs.1 (show x ∈ H.cur++[(H.top,Ob.new s (H.Ax+1))] from hx) with hx|hx
  ·exact k.ck x hx
  ·rw[Za.1 hx];exact hn
 ·show H.top+Bo (3+s.p+s.d)+H.Bc<=H.base H.use+H.size
  omega
 ·show H.Ax+1<=_
  omega
 ·show List.length (if s.Az then _ else _)<=H.Ax+1
  have:=h.wl;split<;>simp<;>omega
 ·show List.length (if s.final then _ else _)<=H.Ax+1
  have:=h.fl;split<;>simp<;>omega
 ·obtain⟨a,b,e,hl⟩:=h.sc hm
  exact⟨a,b++[_],by show H.cur++_=_;rw[e,List.append_assoc],hl⟩
 ·obtain⟨ob,h1,h2⟩:=h.gn x hx q hq
  exact⟨ob,hcur h1,h2⟩
 ·have hp':p ∈ (if s.Az then H.Az++[H.top] else H.Az):=hp
  have hold:p ∈ H.Az->(∃ ob,lk (H.lay s).cur p=some ob/\1<=ob.AN.p)\/∃ z,Bj (H.lay s).old p=some z/\1<=z.1.AN.p:=fun hp=>by
   rcases h.wk p hp with ⟨ob,h1,h2⟩|h1
   ·exact .inl ⟨ob,hcur h1,h2⟩
   ·exact .inr h1
  split at hp'
  ·rename_i hw
   rcases Qs.1 hp' with hp'|hp'
   ·exact hold hp'
   ·rw[Za.1 hp']
    exact .inl ⟨_,QD k _,by show 1<=s.p;have:=(hs.2.2 hw).1;omega⟩
  ·exact hold hp'
def Hp.flip (H:Hp):Hp:=
 { H with use:=!H.use,cur:=[],top:=H.base (!H.use),AF:=true,old:=H.cur.map fun x=>(x.1,x.2,none),BD:=H.top,Bc:=H.top-H.base H.use,scan:=H.base (!H.use) }
theorem ly (H:Hp):H.flip.B8=H.cur:=by
 show ((H.cur.map fun x=>(x.1,x.2,(none:Option Nat))).map fun x=>(x.1,x.2.1))=H.cur
 rw[List.map_map];exact List.map_id _
theorem Tw:∀ (l:List (Nat×Ob))(b t:Nat),ky b l t->dg (l.map fun x=>(x.1,x.2,none))=t-b
 | [],b,t,h=>by rw[ky]at h;simp[dg];omega
 | (p,o)::l,b,t,h=>by
  have ih:=Tw l _ _ h.2;have:=dp _ _ _ h.2;show Bo o.size+dg (l.map _)=_;omega
theorem Yr (l:List (Nat×Ob))(p:Nat):Bj (l.map fun x=>(x.1,x.2,none)) p=(lk l p).map fun o=>(o,none):=by
 induction l with
 | nil=>rfl
 | cons x l ih =>
  obtain⟨q,o⟩:=x;show Bj ((q,o,none)::l.map fun x=>(x.1,x.2,none)) p=_
  unfold Bj lk;split
  ·rfl
  ·exact ih
theorem Hp.Eu {H:Hp}(h:H.wf)(hm:H.AF=false):H.flip.wf:=by
 have k:=h.ok;have hold:=k.still hm;have hroom:=k.room;have hb0:=H.BQ (!H.use);have hb1:=H.BQ H.use;have hsz:=k.sz;have htop:=vj k;refine⟨⟨k.sz,rfl,fun x hx=>(by cases hx),?_,?_,?_,fun hm'=>(by cases hm'),?_,?_,k.Bt,?_,?_⟩,h.wl,h.fl,fun _=>⟨[],[],rfl,rfl⟩,?_,?_⟩
 ·rw[ly];show ky (H.base (!(!H.use))) H.cur H.top;rw[Bool.not_not];exact k.cl
 ·rw[ly];exact k.ck
 ·show H.top<=H.base (!(!H.use))+H.size
  rw[Bool.not_not];omega
 ·show H.top-H.base H.use=dg (H.cur.map fun x=>(x.1,x.2,none))
  rw[Tw _ _ _ k.cl]
 ·show H.base (!H.use)+(H.top-H.base H.use)<=H.base (!H.use)+H.size
  omega
 ·show H.base (!H.use)<=65536
  omega
 ·intro x hx q hq
  obtain⟨z,_,rfl⟩:=Qt.1 hx
  cases hq
 ·intro x hx q hq
  obtain⟨z,_,rfl⟩:=Qt.1 hx
  cases hq
 ·intro p hp
  rcases h.wk p hp with ⟨ob,h1,h2⟩|⟨z,h1,h2⟩
  ·refine .inr ⟨(ob,none),?_,h2⟩
   show Bj (H.cur.map fun x=>(x.1,x.2,none)) p=_
   rw[Yr,h1];rfl
  ·rw[hold]at h1;simp[Bj]at h1
def Hp.A8 (H:Hp):Hp×Bool:=
 if H.AF=false\/H.scan=H.top then (H,false) else match lk H.cur H.scan with
 | none=>(H,false)
 | some ob=>if ob.AN.Az then ({ H with scan:=H.scan+Bo ob.size },true) else
   ({ (H.As ob.AL).1 with cur:=up (H.As ob.AL).1.cur H.scan { ob with AL:=(H.As ob.AL).2 },scan:=H.scan+Bo ob.size },true)
theorem SC {H:Hp}(h:H.wf)(hm:H.AF=true)(hs:H.scan≠H.top):∃ ob,lk H.cur H.scan=some ob/\∃ a b,H.cur=a++(H.scan,ob)::b/\ky (H.base H.use) a H.scan:=by
 obtain⟨a,b,e,hl⟩:=h.sc hm;have hcl:=h.ok.cl;rw[e]at hcl;obtain⟨s,h1,h2⟩:=Tr a b _ _ hcl;have hu:s=H.scan:=by
  have:∀ (l:List (Nat×Ob))(b s t:Nat),ky b l s->ky b l t->s=t:=by
   intro l;induction l with
   | nil=>intro b s t h1 h2;rw[ky]at h1 h2;omega
   | cons x l ih=>intro b s t h1 h2;exact ih _ _ _ h1.2 h2.2
  exact this _ _ _ _ h1 hl
 subst hu
 cases b with
 | nil=>rw[ky]at h2;exact absurd h2.symm hs
 | cons x b =>
  obtain⟨q,ob⟩:=x;have hq:q=H.scan:=h2.1;subst hq;refine⟨ob,?_,a,b,e,hl⟩;have hk:FO a:=fun z hz=>h.ok.ck z (by rw[e];exact Qs.2 (.inl hz))
  rw[e,Sq,cw hl hk (Qk _)];simp[lk]
theorem MZ (a b:List (Nat×Ob))(p:Nat)(o:Ob):up (a++b) p o=up a p o++up b p o:=by unfold up;simp
theorem Ro {H:Hp}(h:H.wf){ob:Ob}(hp:lk H.cur H.scan=some ob):H.scan+Bo ob.size<=65536:=by
 have h1:=zr _ _ _ h.ok.cl _ (zo hp);have:=RA h.ok;simp only at h1;omega
theorem Tu {a:List (Nat×Ob)}{b s:Nat}{o:Ob}(h:ky b a s):ky b (a++[(s,o)]) (s+Bo o.size):=d8 a b s o h
theorem Uq:∀ (l:List Nat)(H:Hp),∃ m,(H.As l).1.cur=H.cur++m
 | [],H=>⟨[],by simp[Hp.As]⟩
 | p::l,H=>by
  obtain⟨m,hm⟩:=Uq l (H.AA p).1;show ∃ m,((H.AA p).1.As l).1.cur=_;rw[hm];unfold Hp.AA;split
  ·exact⟨m,rfl⟩
  ·exact⟨m,rfl⟩
  ·exact⟨_::m,by show (H.cur++_)++m=_;rw[List.append_assoc];rfl⟩
theorem VD {H:Hp}(h:H.wf){n:Nat}(hn:n<=65536)(hs:SJ { H with scan:=n }):Hp.wf { H with scan:=n }:=
 ⟨⟨h.ok.sz,h.ok.cl,h.ok.ck,h.ok.ol,h.ok.ok,h.ok.ot,h.ok.still,h.ok.FP,h.ok.room,h.ok.Bt,hn,h.ok.gone⟩,h.wl,h.fl,fun _=>hs,h.gn,h.wk⟩
theorem Hp.G3 {H:Hp}(h:H.wf):H.A8.1.wf:=by
 unfold Hp.A8;split
 ·exact h
 ·rename_i hc
  have hm:H.AF=true:=by cases hm:H.AF<;>simp[hm]at hc ⊢
  obtain⟨ob,hp,a,b,e,hl⟩:=SC h hm (fun e=>hc (.inr e))
  rw[hp];simp only;have ho:=h.EJ hp;split
  ·exact VD h (Ro h hp) ⟨a++[(H.scan,ob)],b,by show H.cur=_;rw[e];simp,Tu hl⟩
  ·have hw:=Hp.Cb ob.AL h
   obtain⟨s1,s2,s3,s4,s5,s6,s7,s8⟩:=wq ob.AL H;obtain⟨m,hmm⟩:=Uq ob.AL H;have hp':=pj ob.AL hp;have ho':Ob.ok { ob with AL:=(H.As ob.AL).2 }:=⟨ho.AN,by show (H.As ob.AL).2.length=_;rw[kp];exact ho.lp,ho.ln,SQ _ h.ok ho.ptr,ho.num,ho.Bt,ho.sec⟩
   have h2:=sy hw (ob':={ ob with AL:=(H.As ob.AL).2 }) hp' ho' rfl;refine VD (H:={ (H.As ob.AL).1 with cur:=up (H.As ob.AL).1.cur H.scan { ob with AL:=(H.As ob.AL).2 } }) h2 (Ro h hp) ?_;refine⟨up (a++[(H.scan,ob)]) H.scan { ob with AL:=(H.As ob.AL).2 },up (b++m) H.scan { ob with AL:=(H.As ob.AL).2 },?_,?_⟩
   ·show up (H.As ob.AL).1.cur H.scan _=_
    rw[hmm,e,<-MZ];simp
   ·have hbase:Hp.base { (H.As ob.AL).1 with cur:=up (H.As ob.AL).1.cur H.scan { ob with AL:=(H.As ob.AL).2 },scan:=H.scan+Bo ob.size } (H.As ob.AL).1.use=H.base H.use:=by unfold Hp.base;rw[s2];simp only[s1]
    refine hbase.symm▸?_;refine QC (a++[(H.scan,ob)]) _ _ _ _ (fun y hy=>?_) (Tu hl)
    have hy':(H.scan,y) ∈ H.cur:=by
     rw[e];rcases Qs.1 hy with hy|hy
     ·exact Qs.2 (.inl hy)
     ·rw[Za.1 hy];simp
    rw[dv h.ok.cl h.ok.ck hy' (zo hp)];rfl
def Hp.nowAt (H:Hp)(p:Nat):Option Nat:=match Bj H.old p with|none=>some p|some (_,g)=>g
def Hp.stay (H:Hp)(l:List Nat):List Nat:=l.filterMap H.nowAt
def Hp.Cc (H:Hp)(l:List Nat):List Nat:=l.filter fun p=>(H.nowAt p).isNone
theorem kr (H:Hp)(l:List Nat):(H.stay l).length+(H.Cc l).length=l.length:=by
 induction l with
 | nil=>rfl
 | cons p l ih =>
  unfold Hp.stay Hp.Cc at *;rw[List.filterMap_cons,List.filter_cons]
  cases H.nowAt p<;>simp<;>omega
theorem sj {H:Hp}(h:H.wf){l:List Nat}(hl:l.length<=H.Ax):Hp.wf { H with final:=l }:=
 ⟨⟨h.ok.sz,h.ok.cl,h.ok.ck,h.ok.ol,h.ok.ok,h.ok.ot,h.ok.still,h.ok.FP,h.ok.room,h.ok.Bt,h.ok.Ci,h.ok.gone⟩,h.wl,hl,h.sc,h.gn,h.wk⟩
def Hp.A1 (H:Hp):Hp×List Nat:=
 if H.AF=false then (H,[]) else Hp.As { H with final:=H.stay H.final } (H.Cc H.final)
theorem Hp.FC {H:Hp}(h:H.wf):H.A1.1.wf:=by
 unfold Hp.A1;split
 ·exact h
 ·refine Hp.Cb _ (sj h ?_)
  have:=kr H H.final;have:=h.fl;omega
def Hp.drop1 (H:Hp)(at':Nat):Hp×List Nat:=
 match lk H.cur at' with
 | none=>(H,[])
 | some ob=>match ob.AL[0]? with
  | none=>(H,[])
  | some x=>match Bj H.old x with
   | none=>(H,[])
   | some (_,some q)=>({ H with cur:=up H.cur at' (ob.A4 0 q) },[])
   | some (_,none)=>({ H with cur:=up H.cur at' (ob.A4 0 0) },[ob.Ax])
def Hp.AP (H:Hp):List Nat->Hp×List Nat
 | []=>(H,[])
 | p::l=>(((H.drop1 p).1.AP l).1,(H.drop1 p).2++((H.drop1 p).1.AP l).2)
def Hp.rest (H:Hp):Hp:={ H with old:=[],BD:=H.base (!H.use),AF:=false,Bc:=0 }
def Hp.settled (H:Hp):Hp:={ H with Az:=H.stay H.Az,final:=H.stay H.final }
def Hp.drop (H:Hp):Hp×List Nat×Bool:=
 if H.AF=false\/H.scan≠H.top then (H,[],false) else
  ((H.settled.AP H.settled.Az).1.rest,(H.settled.AP H.settled.Az).2,true)
theorem Hp.EU {H:Hp}(h:H.wf)(p:Nat):(H.drop1 p).1.wf:=by
 unfold Hp.drop1;split
 ·exact h
 ·rename_i ob hp
  split
  ·exact h
  ·split
   ·exact h
   ·rename_i x q hx
    exact sy h hp (Ob.Ck (h.EJ hp) 0 q (h.ok.gone _ (jf hx) q rfl).2) rfl
   ·exact sy h hp (Ob.Ck (h.EJ hp) 0 0 (by omega)) rfl
theorem Hp.Dw:∀ (l:List Nat){H:Hp},H.wf->(H.AP l).1.wf
 | [],_,h=>h
 | p::l,_,h=>Hp.Dw l (Hp.EU h p)
theorem Wx (H:Hp)(p:Nat):(H.drop1 p).1.old=H.old/\(H.drop1 p).1.Az=H.Az/\(H.drop1 p).1.scan=H.scan/\(H.drop1 p).1.top=H.top/\(H.drop1 p).1.use=H.use/\(H.drop1 p).1.size=H.size/\(H.drop1 p).1.AF=H.AF:=by
 unfold Hp.drop1
 (repeat' split)<;>exact⟨rfl,rfl,rfl,rfl,rfl,rfl,rfl⟩
theorem ce:∀ (l:List Nat)(H:Hp),(H.AP l).1.old=H.old/\(H.AP l).1.Az=H.Az/\(H.AP l).1.scan=H.scan/\(H.AP l).1.top=H.top/\(H.AP l).1.use=H.use/\(H.AP l).1.size=H.size/\(H.AP l).1.AF=H.AF
 | [],_=>⟨rfl,rfl,rfl,rfl,rfl,rfl,rfl⟩
 | p::l,H=>by
  obtain⟨a1,a2,a3,a4,a5,a6,a7⟩:=ce l (H.drop1 p).1;obtain⟨b1,b2,b3,b4,b5,b6,b7⟩:=Wx H p;exact⟨a1.trans b1,a2.trans b2,a3.trans b3,a4.trans b4,a5.trans b5,a6.trans b6,a7.trans b7⟩
theorem SE {H:Hp}(h:H.wf){p:Nat}(hp:p ∈ H.stay H.Az):∃ ob,lk H.cur p=some ob/\1<=ob.AN.p:=by
 unfold Hp.stay at hp;obtain⟨q,hq,e⟩:=List.mem_filterMap.1 hp;unfold Hp.nowAt at e;split at e
 ·rename_i hn
  injection e with e;subst e;rcases h.wk q hq with h1|⟨z,h1,_⟩
  ·exact h1
  ·rw[hn]at h1;cases h1
 ·rename_i ob g hn
  subst e;obtain⟨ob',h1,h2⟩:=h.gn _ (jf hn) p rfl;refine⟨ob',h1,?_⟩;rw[h2];rcases h.wk q hq with ⟨x,h3,h4⟩|⟨z,h3,h4⟩
  ·have h5:=Hp.apart h.ok (zo h3) (jf hn)
   have h6:=Ob.AR (h.EJ h3);have h7:=Ob.AR (h.ok.ok _ (Qt.2 ⟨_,jf hn,rfl⟩));simp only at h5 h6 h7;omega
  ·rw[hn]at h3;injection h3 with h3;subst h3;exact h4
theorem Hp.Dr {H:Hp}(h:H.wf):H.settled.wf:=by
 have h1:=kr H H.Az;have h2:=kr H H.final;have h3:=h.wl;have h4:=h.fl;exact⟨⟨h.ok.sz,h.ok.cl,h.ok.ck,h.ok.ol,h.ok.ok,h.ok.ot,h.ok.still,h.ok.FP,h.ok.room,h.ok.Bt,h.ok.Ci,h.ok.gone⟩,by show (H.stay H.Az).length<=H.Ax;omega,by show (H.stay H.final).length<=H.Ax;omega,h.sc,h.gn,fun p hp=>.inl (SE h hp)⟩
theorem Hp.Lo {H:Hp}(h:H.wf)(hw:∀ p ∈ H.Az,∃ ob,lk H.cur p=some ob/\1<=ob.AN.p):H.rest.wf:=by
 have k:=h.ok;have hroom:=k.room;exact⟨⟨k.sz,k.cl,k.ck,rfl,fun x hx=>(by cases hx),Nat.le_add_right _ _,fun _=>rfl,rfl,by show H.top+0<=H.base H.use+H.size;omega,k.Bt,k.Ci,fun x hx=>(by cases hx)⟩,h.wl,h.fl,fun hm=>(by cases hm),fun x hx=>(by cases hx),fun p hp=>.inl (hw p hp)⟩
theorem Uj {H:Hp}{p q:Nat}{ob ob':Ob}(hp:lk H.cur p=some ob)(hs:ob'.AN=ob.AN)(hq:∃ x,lk H.cur q=some x/\1<=x.AN.p):∃ x,lk (up H.cur p ob') q=some x/\1<=x.AN.p:=by
 obtain⟨x,h1,h2⟩:=hq;rw[NA];split
 ·rename_i e;subst e;rw[hp]at h1 ⊢;injection h1 with h1;subst h1;exact⟨_,rfl,by rw[hs];exact h2⟩
 ·exact⟨x,h1,h2⟩
theorem Wa {H:Hp}(p:Nat){q:Nat}(hq:∃ x,lk H.cur q=some x/\1<=x.AN.p):∃ x,lk (H.drop1 p).1.cur q=some x/\1<=x.AN.p:=by
 unfold Hp.drop1;split
 ·exact hq
 ·rename_i ob hp
  split
  ·exact hq
  ·split
   ·exact hq
   ·exact Uj hp rfl hq
   ·exact Uj hp rfl hq
theorem fv:∀ (l:List Nat){H:Hp}{q:Nat},(∃ x,lk H.cur q=some x/\1<=x.AN.p)->∃ x,lk (H.AP l).1.cur q=some x/\1<=x.AN.p
 | [],_,_,h=>h
 | p::l,_,_,h=>fv l (Wa p h)
theorem Hp.K8 {H:Hp}(h:H.wf):H.drop.1.wf:=by
 unfold Hp.drop;split
 ·exact h
 ·have hs:=Hp.Dr h
  refine Hp.Lo (Hp.Dw _ hs) fun p hp=>fv _ ?_
  rw[(ce _ _).2.1]at hp;exact SE h hp
end
section
open Go.RowKit Hp
section
variable {P : Program} (w : Aa)
theorem Wj (t ty e : TypeId) (i : TypeInfo) (size : Nat) (ht : P.underlying t = some (.slice e)) (hi : P.info? e = some i) {o : Own} {tg : Tag} {v : Ac} {n : Nat} {xs : List Ac} (hown : Row w o tg e size v n xs) (c : Nat) :
    (Builtin.append_ #[t, t] ty #[v, Ah none 0 c]).run P w = .ok v w := by
  rcases hown.shape with ⟨rfl, _⟩ | ⟨g, cap, rfl, hnc, _⟩
  all_goals simp [Builtin.append_, run_underlying ht, sizeOf, typeInfo, Builtin.lenOf, Builtin.firstCells, storeCells, *]
theorem YK (t ty e:TypeId)(i:TypeInfo)(z:Ac)(size bytes:Nat)(ht:P.underlying t=some (.slice e))(hi:P.info? e=some i)(hz:i.zero=some z)
  (hsize:i.size=size)(hby:i.bytes=bytes)(hzs:z.cells.size=size)(hsz:0<size)
  (o:Own)(tg:Tag)(v:Ac)(n:Nat)(xs:List Ac)(hown:Row w o tg e size v n xs)(o2:Own)(t2:Tag)(vs:Ac)(m:Nat)(news:List Ac)(hsrc:Row w o2 t2 e size vs m news)(h1:∀ u ∈ news,u.oneCell'=true)
  (h63:n+m<=maxLen)(hbytes:(n+m)*bytes<=140737488355328) :
  ∃ v' w',(Builtin.append_ #[t,t] ty #[v,vs]).run P w=.ok v' w'/\Row w' (ext o w.heap.size tg) tg e size v' (n+m) (xs++news)/\Stp (fun u=>u=tg) o (ext o w.heap.size tg) w w':=by
 rcases hsrc.shape with ⟨rfl,rfl⟩|⟨g,cap,rfl,_,_⟩
 ·have hx:news=[]:=List.eq_nil_of_length_eq_zero (by simpa using hsrc.len)
  subst hx;refine⟨v,w,Wj w t ty e i size ht hi hown 0,?_,(Stp.refl _ o w).ext _ _ (Qk _)⟩;rw[List.append_nil,Nat.add_zero];exact hown.retag fun b hb=>qj hb
 ·exact xa (P:=P) w t ty e i z size bytes ht hi hz hsize hby hzs hsz o tg v n xs hown ⟨g,0,none⟩ m cap news hsrc.len (hsrc.own.cells rfl) h1 h63 hbytes
theorem gk {op:Oper}{a:Act}{K:Act->Aa->Prop}{Q:Exit->Act->Aa->Prop}(s x:Operand)(t:TypeId)
  (ho:op.op=.call { callee:=.builtin .append,args:=#[s,x],argTypes:=#[t,t] })
  (e:TypeId)(i:TypeInfo)(z:Ac)(size bytes:Nat)(ht:P.underlying t=some (.slice e))(hi:P.info? e=some i)(hz:i.zero=some z)
  (hsize:i.size=size)(hby:i.bytes=bytes)(hzs:z.cells.size=size)(hsz:0<size)
  (o:Own)(tg:Tag)(v:Ac)(n:Nat)(xs:List Ac)(hs:a.eval s=v)(hown:Row w o tg e size v n xs)
  (o2:Own)(t2:Tag)(vs:Ac)(m:Nat)(news:List Ac)(hx:a.eval x=vs)(hsrc:Row w o2 t2 e size vs m news)(h1:∀ u ∈ news,u.oneCell'=true)
  (h63:n+m<=maxLen)(hbytes:(n+m)*bytes<=140737488355328)
  (h:∀ v' w',Row w' (ext o w.heap.size tg) tg e size v' (n+m) (xs++news)->Stp (fun u=>u=tg) o (ext o w.heap.size tg) w w'->K (a.put op.dst v') w'):Oper.wp P op a w K Q:=by
 obtain⟨v',w',hr,h2,h3⟩:=YK (P:=P) w t op.type e i z size bytes ht hi hz hsize hby hzs hsz o tg v n xs hown o2 t2 vs m news hsrc h1 h63 hbytes;unfold Oper.wp execOp;simp only[ho,resolve,invoke,builtin,Sem.run_bind,Sem.run_pure,Result.andThen_ok,List.map_toArray,List.map_cons,List.map_nil,hs,hx,hr];exact h v' w' h2 h3
theorem zk {ops:Array Oper}{rest:List Oper}{op:Oper}{a:Act}{Q:Exit->Act->Aa->Prop}(hgd:op.guard=none)(s x:Operand)(t:TypeId)
  (ho:op.op=.call { callee:=.builtin .append,args:=#[s,x],argTypes:=#[t,t] })
  (e:TypeId)(i:TypeInfo)(z:Ac)(size bytes:Nat)(ht:P.underlying t=some (.slice e))(hi:P.info? e=some i)(hz:i.zero=some z)
  (hsize:i.size=size)(hby:i.bytes=bytes)(hzs:z.cells.size=size)(hsz:0<size)
  (o:Own)(tg:Tag)(v:Ac)(n:Nat)(xs:List Ac)(hs:a.eval s=v)(hown:Row w o tg e size v n xs)
  (o2:Own)(t2:Tag)(vs:Ac)(m:Nat)(news:List Ac)(hx:a.eval x=vs)(hsrc:Row w o2 t2 e size vs m news)(h1:∀ u ∈ news,u.oneCell'=true)
  (h63:n+m<=maxLen)(hbytes:(n+m)*bytes<=140737488355328)
  (h:∀ v' w',Row w' (ext o w.heap.size tg) tg e size v' (n+m) (xs++news)->Stp (fun u=>u=tg) o (ext o w.heap.size tg) w w'->wpList P ops Q rest (a.put op.dst v') w'):wpList P ops Q (op::rest) a w:=
 wpList_plain hgd fun _ hK=>gk w s x t ho e i z size bytes ht hi hz hsize hby hzs hsz o tg v n xs hs hown o2 t2 vs m news hx hsrc h1 h63 hbytes fun v' w' h2 h3=>hK _ _ (h v' w' h2 h3)
theorem ul {ops:Array Oper}{op:Oper}{a:Act}{K:Act->Aa->Prop}{Q:Exit->Act->Aa->Prop}{E:Prop}(hgd:op.guard=none)(s x:Operand)(t:TypeId)
  (ho:op.op=.call { callee:=.builtin .append,args:=#[s,x],argTypes:=#[t,t] })
  (e:TypeId)(i:TypeInfo)(z:Ac)(size bytes:Nat)(ht:P.underlying t=some (.slice e))(hi:P.info? e=some i)(hz:i.zero=some z)
  (hsize:i.size=size)(hby:i.bytes=bytes)(hzs:z.cells.size=size)(hsz:0<size)
  (o:Own)(tg:Tag)(v:Ac)(n:Nat)(xs:List Ac)(hs:a.eval s=v)(hown:Row w o tg e size v n xs)
  (o2:Own)(t2:Tag)(vs:Ac)(m:Nat)(news:List Ac)(hx:a.eval x=vs)(hsrc:Row w o2 t2 e size vs m news)(h1:∀ u ∈ news,u.oneCell'=true)
  (h63:n+m<=maxLen)(hbytes:(n+m)*bytes<=140737488355328)
  (h:∀ v' w',Row w' (ext o w.heap.size tg) tg e size v' (n+m) (xs++news)->Stp (fun u=>u=tg) o (ext o w.heap.size tg) w w'->K (a.put op.dst v') w') :
  if Region.wanted op (yielded ops a.tmps)=true then Oper.wp P op a w K Q else E:=by
 have hw:Region.wanted op (yielded ops a.tmps)=true:=by simp[Region.wanted,hgd]
 rw[if_pos hw];exact gk w s x t ho e i z size bytes ht hi hz hsize hby hzs hsz o tg v n xs hs hown o2 t2 vs m news hx hsrc h1 h63 hbytes h
end
theorem bz (l:List Nat):∀ u ∈ l.map nv,u.oneCell'=true:=by
 intro u hu;obtain⟨x,_,rfl⟩:=Qt.1 hu;rfl
end
section
open Go.RowKit Hp
attribute [local go_sem ↓] Go.wp_at_zero Go.wp_at_succ
def Ob.AJ (o:Ob):List Nat:=if o.AN.Az then [] else o.AL
def Ob.Cr (o:Ob)(l:List Nat):Ob:=if o.AN.Az then o else { o with AL:=l }
section
variable {w : Aa} {a wd L : Nat} {f : Nat -> Nat} {p : Nat} {ob : Ob}
theorem Ud (s:B3)(w:Aa):Ab Tryz.prog 243 #[ka s] w fun e w'=>e=O (I Z (if s.Az then 0 else (s.p:Int)))/\Ae w.heap.size w w':=by
 obtain⟨sp,sd,wk,fn⟩:=s
 cases wk
 all_goals
  go_enter Tryz.func243,Tryz.ntmps243;go_wp2_with fail;go_ret;exact⟨rfl,qa (qc w) _⟩
theorem UZ (h:BF w a wd L f)(ho:Bi f p ob)(hk:ob.ok)(hl:p+ob.size<=L) :
  Ab Tryz.prog 194 #[Ag (some ⟨a,0,none⟩),I Z p] w fun e w'=>∃ v,e=O (Aj #[v,I Z 0])/\Row w' (fo w.heap.size) (1,0) 3 1 v ob.AJ.length (ob.AJ.map nv)/\Ae w.heap.size w w':=by
 have HS:=Qa (jt h ho hk hl p rfl);have HT:=Qa (fun w=>Ud ob.AN w)
 have HP:=Qa (fun w' (hb:Ae w.heap.size w w')(i x:Nat)(hx:ob.AL[i]?=some x)=>rv (h.below hb) ho hk hl i x hx p i rfl rfl)
 have hlp:=hk.lp;have h8:=hk.AN.1;obtain⟨iI,hi,hsI,hyI,hzI⟩:=zi;have hu64:=Tryz.underlying25;obtain⟨⟨sp,sd,wk,fn⟩,fr,se,sr,ps,ns⟩:=ob;simp only at HS HT HP hlp h8;clear h ho hk hl;obtain⟨n,hn⟩:∃ n:Nat,n=if wk then 0 else sp:=⟨_,rfl⟩
 have hst:(Ob.mk ⟨sp,sd,wk,fn⟩ fr se sr ps ns).AJ=ps.take n:=by
  unfold Ob.AJ
  cases wk
  ·simp only[Bool.false_eq_true,if_false]at hn ⊢
   rw[hn,<-hlp,List.take_length]
  ·simp only[if_true]at hn ⊢
   rw[hn];rfl
 have hsn:(if wk then (0:Int) else (sp:Int))=(n:Int):=by rw[hn];split<;>rfl
 have hn8:n<=sp:=by rw[hn];split<;>omega
 have hlen:(ps.take n).length=n:=by rw[Qp,hlp];omega
 rw[hst,hlen];simp only[hsn]at HT;have HT:=Qa (show ∀ w:Aa,Ab Tryz.prog 243 #[Ak #[I Z sp,I Z sd,.bool wk,.bool fn]] w fun e w'=>e=O (I Z n)/\Ae w.heap.size w w' from HT.out)
 replace hlp:=Qa hlp;replace hlen:=Qa hlen;clear hst hsn hn;go_enter Tryz.func194,Tryz.ntmps194;go_wp2_with fail;refine HS.out.mono ?_
 rintro e w1 ⟨rfl,hb1⟩
 have jB:=Am.new w1 #[I Z sp,I Z sd,.bool wk,.bool fn] 93;have cB:=jB.cell;have hb2:=qa hb1 (.cells #[I Z sp,I Z sd,.bool wk,.bool fn] 93);go_wp2_with fail;refine (HT.out _).mono ?_
 rintro e w2 ⟨rfl,hb3⟩
 have hb4:=qd hb2 hb3;clear hb1 hb2 hb3 jB cB;have hnI:(n:Int)<=8:=by omega
 go_wp2_with fail;go_loopw [9,25] (fun v ix wr=>∃ k:Nat,ix=I Z k/\k<=n/\Row wr (fo w.heap.size) (1,0) 3 1 v k ((ps.take k).map nv)/\Ae w.heap.size w wr) (fun _ ix _=>n-(intOf ix).toNat)
 case atStart=>exact⟨0,rfl,by omega,Row.nil _ _ _ _ _,hb4⟩
 case round =>
  obtain⟨k,rfl,hkn,hr,hbr⟩:=hrel;clear hb4;by_cases hlt:k<n
  ·have hkI:(k:Int)<(n:Int):=by omega
   have hk8:(k:Int)<8:=by omega
   obtain⟨x,hx⟩:∃ x,ps[k]?=some x:=⟨_,Qb (by rw[hlp.out];omega)⟩
   have htk:=Qa (jj hx);have hk1:k+1<=maxLen/\(k+1)*8<=140737488355328:=by simp only[maxLen];omega
   obtain⟨hk1,hk2⟩:=hk1;have hk1:=Qa hk1;have hk2:=Qa hk2;have HPx:=Qa (HP.out _ hbr k x hx);have hr0:=Qa hr;obtain⟨pa,cp,rfl⟩:=hr.AY;clear hr hx;go_wp2_with fail;refine HPx.out.mono ?_
   rintro e w3 ⟨rfl,hb3⟩
   go_wp2_with (first|(at_builtin;refine qf _ rfl _ _ _ rfl 3 iI _ 1 8 hu64 hi hzI hsI hyI rfl (by decide) (fo w.heap.size) (1,0) _ _ _ rfl (Row.below (Row.below hr0.out hb3) (qa (qc w3) _)) ⟨w3.heap.size,0,none⟩ 1 1 [I Z x] rfl rfl (qx (Am.new w3 _ _)) zw hk1.out hk2.out ?_;intro v' w8 hown hst)|fail)
   have hb5:=qa (qd hbr hb3) (.cells #[I Z x] 3);have hr8:=xz hb5 hown;have hb8:=wz hb5 hst;go_roundw
   case rel=>exact⟨k+1,by simp,by omega,by rw[htk.out,ko];exact hr8,hb8⟩
   case measure=>simp[intOf];omega
  ·obtain rfl:k=n:=by omega
   go_wp2_with fail;go_ret2;exact⟨_,rfl,hr,hbr⟩
end
end
section
open Go.RowKit Hp
theorem XP (b:Nat)(w:Aa) :
  Ab Tryz.prog 102 #[Ag (some ⟨b,0,none⟩)] w fun e w'=>e=O (Ag (some ⟨w.heap.size,0,none⟩))/\w'=w.alloc (.cells #[Ag (some ⟨b,0,none⟩),.nilFunc,Ah none 0 0,Ah none 0 0] 201):=by
 go_enter Tryz.func102,Tryz.ntmps102;go_wp2_with fail;go_ret;exact⟨rfl,rfl⟩
end
end Go.Proofs.YteehgedabdchcaaGreat
