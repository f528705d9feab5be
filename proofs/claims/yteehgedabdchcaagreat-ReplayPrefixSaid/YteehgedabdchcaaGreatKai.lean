import Derived.Test.YteehgedabdchcaaGreatKah
import Derived.Deep.RegionLaw
import Derived.Laws.CopyOwn
import Derived.Laws.OwnMore
import Derived.StillTailTactics
set_option linter.all false
set_option maxRecDepth 1000000
set_option maxHeartbeats 0
open Go renaming World->Aa,Calls->Ab,Value->Ac
open Go.RowKit renaming Below->Ae
open Go.Value renaming int->I,pointer->Ag,slice->Ah,tuple->Aj,agg->Ak
open Go.IntKind renaming i64->Z
open Go.Ending renaming returned->O
open Go.Region renaming wanted->Ad
open Array renaming getElem?_toList->Ai
open List renaming map_map->aa,eq_nil_of_length_eq_zero->af,append_assoc->ai,map_congr_left->az,getElem?_drop->aA,length_drop->aB,map_toArray->aC,map_cons->aD,map_nil->aF,map_id->aH,length->aI,take->aK
open Function renaming comp_def->ag,comp_apply->aJ
open Option renaming isSome_iff_exists->aj,map_eq_some_iff->aG,or->aN
open Go.Builtin renaming append_->ay,firstCells->aL,lenOf->aM
open Go.Proofs.Tryz
open Go.Proofs.Tryz renaming prog->ARt
open Go.Obj renaming cells->ARu
namespace Go.Proofs.YteehgedabdchcaaGreat
section
open Go.RowKit Hp
def fo (n:Nat):Own:=ext (fun _=>(0,0)) n (1,0)
def Sz (o:Own)(n m:Nat)(t:Tag)(h:n<=m):ext (ext o n t) m t=ext o n t:=by
 funext b;unfold ext;split
 ·rfl
 ·rw[if_neg (by omega)]
def PY {n m:Nat}(h:n<=m):ext (fo n) m (1,0)=fo n:=Sz _ _ _ _ h
def Fb {n b:Nat}(h:b<n):fo n b=(0,0):=qr h
def Ho {n b:Nat}(h:n<=b):fo n b=(1,0):=qz h
def Row.out {w':Aa}{n:Nat}{e:TypeId}{size k:Nat}{v:Ac}{xs:List Ac}(h:Row w' (fo n) (1,0) e size v k xs)(o:Own)(tg:Tag):Row w' (ext o n tg) tg e size v k xs:=by
 refine⟨h.own,fun b hb=>?_⟩
 have h1:=h.tag b hb;refine qz ?_;rcases Nat.lt_or_ge b n with h2|h2
 ·rw[Fb h2]at h1;simp at h1
 ·exact h2
def Row.QN {w':Aa}{n:Nat}{e:TypeId}{size k:Nat}{v:Ac}{xs:List Ac}(h:Row w' (fo n) (1,0) e size v k xs):∀ b,v.ownBlock=some b->n<=b:=fun b hb=>by
 have h1:=h.tag b hb;rcases Nat.lt_or_ge b n with h2|h2
 ·rw[Fb h2]at h1;simp at h1
 ·exact h2
def xx {w w1 w2:Aa} {o':Own} (h:Ae w.1.size w w1) (hs:Stp (fun t=>t=(1,0)) (fo w.1.size) o' w1 w2):Ae w.1.size w w2:=by
 refine ((Stp.of_below (T:=fun t=>t=(1,0)) (o:=fo w.1.size) h).trans hs).below fun b hb e=>?_
 rw[Fb hb]at e;simp at e
def yr {w w1 w2:Aa}{v':Ac}{k:Nat}{xs:List Ac}{e:TypeId}{size:Nat}(h:Ae w.1.size w w1)(hr:Row w2 (ext (fo w.1.size) w1.1.size (1,0)) (1,0) e size v' k xs):Row w2 (fo w.1.size) (1,0) e size v' k xs:=by
 rw[PY h.size]at hr;exact hr
def Row.M3 {w:Aa}{o:Own}{t:Tag}{e:TypeId}{g n cap:Nat}{xs:List Ac}(h:Row w o t e 1 (Ah (some ⟨g,0,none⟩) n cap) n xs)(j:Nat)(u:Ac) :
  Row (w.setCell ⟨g,j,none⟩ u) o t e 1 (Ah (some ⟨g,0,none⟩) n cap) n (xs.set j u):=⟨(h.own.stored j u).1,h.tag⟩
def Row.Ct {w:Aa}{o:Own}{t:Tag}{e:TypeId}{size g n cap:Nat}{xs:List Ac}(h:Row w o t e size (Ah (some ⟨g,0,none⟩) n cap) n xs)(j:Nat)(u:Ac) :
  Row (w.setCell ⟨g,j,none⟩ u) o t e size (Ah (some ⟨g,0,none⟩) n cap) n (xs.set j u):=⟨(h.own.stored j u).1,h.tag⟩
def Row.free {w:Aa}{o:Own}{t:Tag}{e:TypeId}{size g n cap:Nat}{xs:List Ac}(h:Row w o t e size (Ah (some ⟨g,0,none⟩) n cap) n xs)(j:Nat):w.frozen? ⟨g,j,none⟩=false:=h.own.frozenAt j
def Row.blt {w:Aa}{o:Own}{t:Tag}{e:TypeId}{size g n cap:Nat}{xs:List Ac}(h:Row w o t e size (Ah (some ⟨g,0,none⟩) n cap) n xs):g<w.1.size:=by
 rcases h.own.2 with ⟨h',_⟩|⟨g',cap',cur,h',_,hg,_⟩
 ·simp at h'
 ·simp only[Value.slice.injEq,Zd,Addr.mk.injEq,and_true,true_and]at h'
  obtain⟨rfl,rfl⟩:=h';exact (Qf.1 hg).1
def Row.CZ {w:Aa}{o:Own}{t:Tag}{e:TypeId}{size g n cap:Nat}{xs:List Ac}(h:Row w o t e size (Ah (some ⟨g,0,none⟩) n cap) n xs):o g=t:=h.tag g rfl
def Row.shape {w:Aa}{o:Own}{t:Tag}{e:TypeId}{size:Nat}{v:Ac}{n:Nat}{xs:List Ac}(h:Row w o t e size v n xs) :
  (v=Ah none 0 0/\n=0)\/∃ g cap,v=Ah (some ⟨g,0,none⟩) n cap/\n<=cap/\cap<=maxLen:=by
 rcases h.own.2 with ⟨rfl,rfl⟩|⟨g,cap,cur,rfl,_,_,hn,hc,_⟩
 ·exact .inl ⟨rfl,rfl⟩
 ·exact .inr ⟨g,cap,rfl,hn,hc⟩
def Ints (w:Aa)(v:Ac)(l:List Nat):Prop:=
 ∃ a c,v=.slice a l.length c/\l.length<=c/\c<=maxLen/\∀ (j x:Nat),l[j]?=some x->∃ g off,a=some ⟨g,off,none⟩/\g<w.1.size/\w.cell? ⟨g,off+j,none⟩=some (nv x)
def Ints.below {w w':Aa}{v:Ac}{l:List Nat}(h:Ints w v l)(hb:Ae w.1.size w w'):Ints w' v l:=by
 obtain⟨a,c,e,h1,h2,h3⟩:=h;refine⟨a,c,e,h1,h2,fun j x hj=>?_⟩
 obtain⟨g,off,e1,e2,e3⟩:=h3 j x hj;exact⟨g,off,e1,Qn e2 hb.size,by rw[hb.cell (p:=⟨g,off+j,none⟩) e2];exact e3⟩
def Row.ints {w:Aa}{o:Own}{t:Tag}{e:TypeId}{v:Ac}{l:List Nat}(h:Row w o t e 1 v l.length (l.map nv)):Ints w v l:=by
 rcases h.shape with⟨rfl,h0⟩|⟨g,cap,rfl,hn,hc⟩
 ·have:l=[]:=af h0
  subst this;exact⟨none,0,rfl,by simp,by simp,fun j x hj=>by simp at hj⟩
 ·refine⟨_,_,rfl,hn,hc,fun j x hj=>⟨g,0,rfl,h.blt,?_⟩⟩
  rw[Nat.zero_add];exact h.cells j _ (by rw[Qj,hj];rfl)
def Ints.form {w:Aa}{v:Ac}{l:List Nat}(h:Ints w v l):(l=[]/\∃ a c,v=.slice a 0 c)\/∃ g off c,v=Ah (some ⟨g,off,none⟩) l.length c/\l.length<=c/\c<=maxLen/\g<w.1.size/\∀ (j x:Nat),l[j]?=some x->w.cell? ⟨g,off+j,none⟩=some (nv x):=by
 obtain⟨a,c,e,h1,h2,h3⟩:=h
 cases l with
 | nil=>exact .inl ⟨rfl,a,c,e⟩
 | cons x l =>
  obtain⟨g,off,e1,e2,_⟩:=h3 0 x rfl;refine .inr ⟨g,off,c,by rw[e,e1],h1,h2,e2,fun j z hj=>?_⟩
  obtain⟨g',off',e1',_,e3'⟩:=h3 j z hj;rw[e1]at e1';injection e1' with e1';injection e1' with e1' e2' _;rw[e1',e2'];exact e3'
def kh {l:List Nat}{k x:Nat}(h:l[k]?=some x):l.take (k+1)=l.take k++[x]:=by
 rw[List.take_add_one,h];rfl
def vx (l:List Nat)(x:Nat):(l++[x]).map nv=l.map nv++[I Z x]:=by simp[nv]
def QM (f:Nat->Nat)(i j n:Nat):Nat->Nat:=fun k=>if j<=k/\k<j+n then f (i+(k-j)) else f k
variable {w : Aa} {a wd L : Nat} {f : Nat -> Nat}
def LA (h:BB w a wd L f)(i j n:Nat)(hi:i+n<=L)(hj:j+n<=L)(hn:0<n)(x y z:Int)(hx:x=i)(hy:y=j)(hz:z=n) :
  Ab ARt 269 #[Ag (some ⟨a,0,none⟩),I Z x,I Z y,I Z z] w fun e w'=>e=O (I Z 0)/\Turned w w' a wd L (QM f i j n):=by
 subst hx hy hz;have hl:=h.le;have HS:=Qa (fv h i n i n rfl rfl hi);have HS2:=Qa (fv h j n j n rfl rfl hj);have c:w.cell? ⟨a,0,none⟩=some (Ah (some ⟨wd,0,none⟩) L L):=h.BM.cell 0;obtain⟨cs,hb,hcs,hat⟩:=h.words;have hi2:(i:Int)+(n:Int)<=(L:Int):=by omega
 have hj2:(j:Int)+(n:Int)<=(L:Int):=by omega
 have H:=Qa h;have HB:=Qa hb;have HCS:=Qa hcs;have HAT:=Qa hat;clear h hb hcs hat;go_enter func269,ntmps269;go_wp2_with fail;refine HS.out.mono ?_
 rintro e w1 ⟨rfl,rfl⟩
 go_wp2_with fail;refine HS2.out.mono ?_
 rintro e w1 ⟨rfl,rfl⟩
 go_upto_region 4 with fail;have a1:IntKind.i64.wrap ((j:Int)+(n:Int))=(j:Int)+(n:Int):=IntWalk.i64_in _ (by omega)
 have a2:IntKind.i64.wrap ((i:Int)+(n:Int))=(i:Int)+(n:Int):=IntWalk.i64_in _ (by omega)
 have a3:((j:Int)+(n:Int)).toNat=j+n:=by omega
 have a4:((i:Int)+(n:Int)).toNat=i+n:=by omega
 have b1:(0:Int)<=(j:Int)+(n:Int):=by omega
 have b2:(0:Int)<=(i:Int)+(n:Int):=by omega
 have b3:(j:Int)<=(j:Int)+(n:Int):=by omega
 have b4:(i:Int)<=(i:Int)+(n:Int):=by omega
 have b5:j<L:=by omega
 have b6:i<L:=by omega
 have b7:j≠L:=by omega
 have b8:i≠L:=by omega
 have b9:¬L=j:=by omega
 have b10:¬L=i:=by omega
 have b11:j<=L:=by omega
 have b12:i<=L:=by omega
 have b13:j<=j+n:=by omega
 have b14:i<=i+n:=by omega
 go_still_tail 18,(by kernel_rfl)
 have hsz:cs.toList.length=L:=by rw[Array.length_toList];exact HCS.out
 obtain⟨C,hC⟩:=Ja0 ((cs.toList.drop i).take n);have hCl:C.length=n:=by rw[hC,Qp,aB,hsz];omega
 have uT:∀ k,k<n->C[k]?=some (.int .u64 (f (i+k):Int)):=fun k hk=>by
  rw[hC,Za,if_pos hk,aA,Ai,HAT.out (i+k) (by omega)]
 refine wpList_copy_own rfl (.tmp 31) (.tmp 40) _ _ rfl 220 (by kernel_rfl) (by kernel_rfl) wd j n (L-j) ⟨wd,i,none⟩ n (L-i) rfl rfl cs 220 HB.out C (by rw[hCl];exact (Nat.min_self n).symm) ?_ (by rw[hCl,HCS.out];omega) ?_ ?_
 ·intro k v hk
  have hkn:k<n:=by rw[<-hCl];exact (Qc.1 hk).1
  rw[uT k hkn]at hk;injection hk with hk;rw[show (⟨wd,i,none⟩:Addr).add k=⟨wd,i+k,none⟩ from by unfold Addr.add;split<;>simp_all]
  show w.cell? ⟨wd,i+k,none⟩=some v;rw[<-hk];exact H.out.cell (by omega)
 ·intro v hv
  obtain⟨k,hk⟩:=List.mem_iff_getElem?.1 hv;have hkn:k<n:=by rw[<-hCl];exact (Qc.1 hk).1
  rw[uT k hkn]at hk;injection hk with hk;rw[<-hk];rfl
 ·have HC:=Qa uT
  have sO:=Qa hCl;clear a1 a2 a3 a4 b1 b2 b3 b4 b5 b6 b7 b8 b9 b10 b11 b12 b13 b14 hC uT hCl;obtain⟨X,hX⟩:=Ja0 ((aK j cs.toList++(C++List.drop (j+C.length) cs.toList)).toArray);obtain⟨w9,xL⟩:=Ja0 (w.drew.setRow wd X);rw[show ({ heap:=w.heap,tape:=w.tape,drawn:=w.drawn+1,os:=w.os,output:=w.output }:Aa)=w.drew from rfl,<-hX,<-xL];have hT:Turned w w9 a wd L (QM f i j n):=by
   have h9:w9.heap[wd]?=some (.cells X 220 (0,0)):=by rw[xL];exact setRow_heap _ _ _ _ _ _ HB.out
   have hne:∀ k,k≠wd->w9.heap[k]?=w.heap[k]?:=fun k hk=>by rw[xL];exact setRow_other _ _ _ _ hk
   refine⟨⟨H.out.BM.of_eq (hne a H.out.ne),H.out.ne,⟨X,h9,?_,fun k hk=>?_⟩,H.out.le⟩,⟨by rw[xL];rfl,by rw[xL];rfl,by rw[xL];rfl,by rw[xL];simp[World.setRow],fun k _ hk=>hne k hk⟩⟩
   ·rw[hX,List.size_toArray,Qd,Qd,Qp,aB,hsz,sO.out];omega
   ·rw[hX,List.getElem?_toArray,sO.out]
    unfold QM;have ht:(aK j cs.toList).length=j:=by rw[Qp,hsz];omega
    by_cases h1:k<j
    ·rw[if_neg (by omega),Qm (by omega),Za,if_pos h1,Ai,HAT.out k hk]
    ·rw[Ql (by omega),ht]
     by_cases h2:k<j+n
     ·rw[if_pos (by omega),Qm (by rw[sO.out];omega),HC.out (k-j) (by omega)]
     ·rw[if_neg (by omega),Ql (by rw[sO.out];omega),sO.out,aA,Ai,show j+n+(k-j-n)=k from by omega,HAT.out k hk]
  clear hX xL hsz;rw[sO.out];go_wp2_with fail;go_ret;exact⟨rfl,hT⟩
def QU (q:Nat)(h:4*q+2<18446744073709551616):bits BinOp.or IntKind.u64 ((4*q:Nat):Int) 2=((4*q+2:Nat):Int):=by
 rw[show (2:Int)=((2:Nat):Int) from rfl,RG _ 2 (by omega) (by omega),Nat.or_comm,show 4*q=2 ^ 2*q from rfl,SJ 2 q 2 (by omega),Nat.add_comm]
def UF (q:Nat)(h1:1<=q)(h2:q<=131072)(z:Int)(hz:z=q)(w:Aa):Ab ARt 268 #[I Z z] w fun e w'=>e=O (Aj #[.int .u64 ((4*q+2:Nat):Int),.bool true])/\w=w':=by
 subst hz;have ho:=QU q (by omega)
 have e1:(q:Int)*4=((4*q:Nat):Int):=by omega
 rw[<-e1]at ho;generalize ((4*q+2:Nat):Int)=r at *;clear e1;go_enter func268,ntmps268;go_wp2_with fail;go_ret2;exact⟨rfl,rfl⟩
def Mm (z:Int)(hz:z<1\/131072<z)(w:Aa):Ab ARt 268 #[I Z z] w fun e w'=>e=O (Aj #[.int .u64 0,.bool false])/\w=w':=by
 rcases hz with hz|hz
 all_goals
  go_enter func268,ntmps268;go_wp2_with fail;go_ret2;exact⟨rfl,rfl⟩
def qkp (q:Nat)(h1:1<=q)(h2:q<=131072)(w:Aa):Ab ARt 237 #[.int .u64 ((4*q+2:Nat):Int)] w fun e w'=>e=O (Aj #[I Z q,.bool true])/\w=w':=by
 have HG:=Qa (fun w=>UF q h1 h2 q rfl w)
 have e1:((4*q+2:Nat):Int)/4=(q:Int):=by omega
 obtain⟨r,hr⟩:∃ r:Int,r=((4*q+2:Nat):Int):=⟨_,rfl⟩;rw[<-hr]at HG e1 ⊢;have r0:0<=r:=by omega
 have r1:r<=600000:=by omega
 clear hr;go_enter func237,ntmps237;go_wp2_with fail;refine (HG.out _).mono ?_
 rintro e w1⟨rfl,rfl⟩
 go_wp2_with fail;go_ret2;exact⟨rfl,rfl⟩
def qn1 (v:Nat)(h:v%2=1)(hv:v<4096)(w:Aa):Ab ARt 237 #[.int .u64 v] w fun e w'=>e=O (Aj #[I Z 0,.bool false])/\w=w':=by
 obtain⟨q,hq⟩:∃ q:Nat,(v:Int)/4=q:=⟨v/4,by omega⟩
 have hq2:q<=1024:=by omega
 by_cases h1:1<=q
 ·have HG:=Qa (fun w=>UF q h1 (by omega) q rfl w)
  have hne:((((4*q+2:Nat):Int)) != (v:Int))=true:=by rw[bne_iff_ne];omega
  generalize ((4*q+2:Nat):Int)=r at *;clear h;go_enter func237,ntmps237;go_wp2_with fail;refine (HG.out _).mono ?_;rintro e w1⟨rfl,rfl⟩;go_wp2_with fail;go_ret2;exact⟨rfl,rfl⟩
 ·have hq0:(v:Int)/4=0:=by omega
  have HG:=Qa (fun w=>Mm 0 (by omega) w)
  clear h hq;go_enter func237,ntmps237;go_wp2_with fail;refine (HG.out _).mono ?_;rintro e w1⟨rfl,rfl⟩;go_wp2_with fail;go_ret2;exact⟨rfl,rfl⟩
variable {w : Aa} {a wd L : Nat} {f : Nat -> Nat} {p : Nat} {ob : Ob}
def qjg (h:BB w a wd L f)(hp:p<L)(q:Nat)(h1:1<=q)(h2:q<=131072)(hf:f p=4*q+2) :
  Ab ARt 181 #[Ag (some ⟨a,0,none⟩),I Z p] w fun e w'=>e=O (Aj #[I Z q,.bool true])/\w=w':=by
 have HL:=Qa (yd h p p _ rfl hp hf);have HW:=Qa (fun w=>qkp q h1 h2 w)
 clear h hf;go_enter func181,ntmps181;go_wp2_with fail;refine HL.out.mono ?_
 rintro e w1 ⟨rfl,rfl⟩
 go_wp2_with fail;refine (HW.out _).mono ?_
 rintro e w1 ⟨rfl,rfl⟩
 go_wp2_with fail;go_ret2;exact⟨rfl,rfl⟩
def JQ (h:BB w a wd L f)(ho:Bj f p ob)(hk:ob.ok)(hl:p+ob.size<=L) :
  Ab ARt 181 #[Ag (some ⟨a,0,none⟩),I Z p] w fun e w'=>e=O (Aj #[I Z 0,.bool false])/\w=w':=by
 have hs:=Ob.AU hk;have HL:=Qa (yd h p p _ rfl (by omega) ho.h0)
 have HW:=Qa (fun w=>qn1 (head ob.AQ ob.CC) (Hz _ _) (VI _ _ hk.AQ) w)
 generalize head ob.AQ ob.CC=r at *;clear h ho hk hl hs;go_enter func181,ntmps181;go_wp2_with fail;refine HL.out.mono ?_
 rintro e w1 ⟨rfl,rfl⟩
 go_wp2_with fail;refine (HW.out _).mono ?_
 rintro e w1 ⟨rfl,rfl⟩
 go_wp2_with fail;go_ret2;exact⟨rfl,rfl⟩
section
variable {w : Aa} {o : Own} {l : A7} {H : Hp} {vc vo vw vf : Ac} {f : Nat -> Nat}
def Ut (h:AA w o l H vc vo vw vf f)(hk:H.ok){p:Nat}{ob:Ob}(hp:lk H.cur p=some ob) :
  Ab ARt 69 #[Ag (some ⟨l.h,0,none⟩),I Z p] w fun e w'=>e=O (Aj #[kw ob.AQ,.bool ob.CC,I Z 0])/\Ae w.1.size w w':=by
 obtain⟨ha,ho,hl,_⟩:=h.at_ hk hp;have HH:=Qa (fun w' (hw:Ae w.1.size w w')=>km (h.below hw) hk hp)
 have HN:=Qa (fun w' (hw:Ae w.1.size w w')=>kr (h.B6.below hw) ha ho hl p rfl)
 have HC:=Qa (fun w' (hw:Ae w.1.size w w')=>(h.below hw).A5)
 clear h hk hp ha ho hl;obtain⟨⟨sp,sd,wk,fn⟩,fr,se,sr,ps,ns⟩:=ob;simp only at HN ⊢;go_enter func69,ntmps69;go_wp2_with fail;refine (HH.out _ (qc (qd w) _)).mono ?_
 rintro e w1 ⟨rfl,hb1⟩
 have jR:Al w1 w.1.size #[I Z 0,I Z 0,.bool false,.bool false] 93:=(Al.new w _ _).below hb1 (by simp)
 have hb:Ae w.1.size w w1:=qe (qc (qd w) _) hb1;clear hb1;have c1:=HC.out _ hb;go_wp2_with fail;refine (HN.out _ hb).mono ?_
 rintro e w2 ⟨rfl,hb2⟩
 have dY:=jR.below hb2 jR.lt;have hw2:=qe hb hb2;clear hb2 hb jR;have cR:=dY.cell;have zR:=dY.free;have sR:=dY.lt;go_wp2_with fail;refine bodyPost_ret (v:=Aj #[kw ⟨sp,sd,wk,fn⟩,.bool fr,I Z 0]) (by simp[results,results69,go_sem,cR]) rfl ⟨rfl,?_⟩
 repeat (first|exact hw2|refine zc ?_ (Qk _) _)
def XK (h:AA w o l H vc vo vw vf f)(hk:H.ok){p:Nat}(hp:lk H.cur p=none) :
  Ab ARt 69 #[Ag (some ⟨l.h,0,none⟩),I Z p] w fun e w'=>e=O (Aj #[kw ⟨0,0,false,false⟩,.bool false,I Z 70])/\Ae w.1.size w w':=by
 have HH:=Qa (fun w' (hw:Ae w.1.size w w')=>yh (h.below hw) hk hp)
 clear h hk hp;go_enter func69,ntmps69;go_wp2_with fail;refine (HH.out _ (qc (qd w) _)).mono ?_
 rintro e w1 ⟨rfl,hb1⟩
 have jR:Al w1 w.1.size #[I Z 0,I Z 0,.bool false,.bool false] 93:=(Al.new w _ _).below hb1 (by simp)
 have hb:Ae w.1.size w w1:=qe (qc (qd w) _) hb1;clear hb1;have cR:=jR.cell;have zR:=jR.free;have sR:=jR.lt;go_wp2_with fail;refine bodyPost_ret (v:=Aj #[kw ⟨0,0,false,false⟩,.bool false,I Z 70]) (by simp[results,results69,go_sem,cR]) rfl ⟨rfl,?_⟩
 repeat (first|exact hb|refine zc ?_ (Qk _) _)
def Ju (h:AA w o l H vc vo vw vf f)(hk:H.ok){p:Nat}{ob:Ob}(hp:lk H.cur p=some ob)(i:Nat)(hx:ob.AQ.p<=i) :
  Ab ARt 112 #[Ag (some ⟨l.h,0,none⟩),I Z p,I Z i] w fun e w'=>e=O (Aj #[I Z 0,I Z 71])/\Ae w.1.size w w':=by
 obtain⟨ha,ho,hl,_⟩:=h.at_ hk hp;have HH:=Qa (km h hk hp);have HN:=Qa (fun w' (hw:Ae w.1.size w w')=>MX (h.B6.below hw) ha ho hl i hx p i rfl rfl)
 have HC:=Qa (fun w' (hw:Ae w.1.size w w')=>(h.below hw).A5)
 clear h hk hp ha ho hl hx;go_enter func112,ntmps112;go_wp2_with fail;refine HH.out.mono ?_
 rintro e w1 ⟨rfl,hb1⟩
 have c1:=HC.out _ hb1;go_wp2_with fail;refine (HN.out _ hb1).mono ?_
 rintro e w2 ⟨rfl,hb2⟩
 go_wp2_with fail;go_ret2;exact⟨rfl,qe hb1 hb2⟩
def Mt (h:AA w o l H vc vo vw vf f)(hk:H.ok){p:Nat}(hp:lk H.cur p=none)(i:Nat) :
  Ab ARt 112 #[Ag (some ⟨l.h,0,none⟩),I Z p,I Z i] w fun e w'=>e=O (Aj #[I Z 0,I Z 70])/\Ae w.1.size w w':=by
 have HH:=Qa (yh h hk hp);clear h hk hp;go_enter func112,ntmps112;go_wp2_with fail;refine HH.out.mono ?_
 rintro e w1 ⟨rfl,hb1⟩
 go_wp2_with fail;go_ret2;exact⟨rfl,hb1⟩
def qkr (h:AA w o l H vc vo vw vf f)(hk:H.ok){p:Nat}(hp:lk H.cur p=none)(i:Nat)(z:Int) :
  Ab ARt 113 #[Ag (some ⟨l.h,0,none⟩),I Z p,I Z i,I Z z] w fun e w'=>e=O (I Z 70)/\Ae w.1.size w w':=by
 have HH:=Qa (yh h hk hp);clear h hk hp;go_enter func113,ntmps113;go_wp2_with fail;refine HH.out.mono ?_
 rintro e w1 ⟨rfl,hb1⟩
 go_wp2_with fail;go_ret;exact⟨rfl,hb1⟩
def QW (hk:H.ok){q:Nat}(hq:q=0\/(lk H.cur q).isSome=true):q<=131072:=by
 rcases hq with rfl|hq
 ·omega
 ·obtain⟨ob,eQ⟩:=aj.1 hq
  have h1:=kf _ _ _ hk.cl _ (kj eQ);have h4:=hk.room;have h5:=H.BJ H.use;have h6:=hk.sz;simp only at h1;omega
def qkf (h:AA w o l H vc vo vw vf f)(hk:H.ok){p:Nat}{ob:Ob}(hp:lk H.cur p=some ob)(i q:Nat)(hx:i<ob.AQ.p)(hq:q=0\/(lk H.cur q).isSome=true) :
  Ab ARt 113 #[Ag (some ⟨l.h,0,none⟩),I Z p,I Z i,I Z q] w fun e w'=>e=O (I Z 0)/\Hp.ok { H with cur:=up H.cur p (ob.Bm i q) }/\(∃ f',AA w' o l { H with cur:=up H.cur p (ob.Bm i q) } vc vo vw vf f')/\Wr l.wd w w':=by
 obtain⟨ha,ho,hl,_⟩:=h.at_ hk hp;have vH:=QW hk hq;have hok:=Hp.CR hk hp (Ob.Cm ho i q vH) (rfl);have HH:=Qa (km h hk hp);have HN:=Qa (fun w' (hw:Ae w.1.size w w')=>yk (h.B6.below hw) ha ho hl i q hx vH p i q rfl rfl rfl)
 have HC:=Qa (fun w' (hw:Ae w.1.size w w')=>(h.below hw).A5)
 have HE:=Qa (fun w1 w' (hw:Ae w.1.size w w1) hT=>(h.below hw).turn (w':=w') hk hp (k:=3+i) (by unfold Ob.size;omega) hT (by rw[show p+(3+i)=p+3+i from by omega];exact ha.Bm ho i q hx))
 rw[show p+(3+i)=p+3+i from by omega]at HE
 have HK:=Qa hok;rcases hq with rfl|hq
 ·clear h hk hp ha ho hl hok hx vH
  go_enter func113,ntmps113;go_wp2_with fail;refine HH.out.mono ?_;rintro e w1 ⟨rfl,hb1⟩;have c1:=HC.out _ hb1;go_wp2_with fail;refine (HN.out _ hb1).mono ?_;rintro e w2 ⟨rfl,hT⟩;go_wp2_with fail;go_ret;exact⟨rfl,HK.out,⟨_,HE.out _ _ hb1 hT⟩,(Wr.of_below hb1).trans hT.2⟩
 ·obtain⟨oq,hoq⟩:=aj.1 hq
  have HQ:=Qa (fun w' (hw:Ae w.1.size w w')=>km (h.below hw) hk hoq);by_cases h0:q=0
  ·subst h0
   have:=kf _ _ _ hk.cl _ (kj hoq);have:=H.BJ H.use;simp only at *;omega
  ·clear h hk hp ha ho hl hok hx vH hq hoq
   go_enter func113,ntmps113;go_wp2_with fail;refine HH.out.mono ?_;rintro e w1 ⟨rfl,hb1⟩;go_wp2_with fail;refine (HQ.out _ hb1).mono ?_;rintro e w2 ⟨rfl,hb2⟩;have hb:=qe hb1 hb2;have c1:=HC.out _ hb;go_wp2_with fail;refine (HN.out _ hb).mono ?_;rintro e w3 ⟨rfl,hT⟩;go_wp2_with fail;go_ret;exact⟨rfl,HK.out,⟨_,HE.out _ _ hb hT⟩,(Wr.of_below hb).trans hT.2⟩
end
def jh:∃ i,ARt.info? 3=some i/\i.size=1/\i.bytes=8/\i.zero=some (I Z 0):=by
 have h:((ARt.info? 3).map fun i=>(i.zero,i.size,i.bytes))=some (some (I Z 0),1,8):=by kernel_rfl
 obtain⟨i,hi,he⟩:=aG.1 h;injection he with e1 e2;injection e2 with e2 e3;exact⟨i,hi,e2,e3,e1⟩
section
variable {P : Program} (w : Aa)
def qer {op:Oper}{a:Act}{K:Act->Aa->Prop}{Q:Exit->Act->Aa->Prop}(s x:Operand)(t:TypeId)
  (ho:op.op=.call { callee:=.builtin .append,args:=#[s,x],argTypes:=#[t,t] })
  (e:TypeId)(i:TypeInfo)(z:Ac)(size bytes:Nat)(ht:P.underlying t=some (.slice e))(hi:P.info? e=some i)(hz:i.zero=some z)
  (hsize:i.size=size)(hby:i.bytes=bytes)(hzs:z.cells.size=size)(hsz:0<size)
  (o:Own)(tg:Tag)(v:Ac)(n:Nat)(xs:List Ac)(hs:a.eval s=v)(hown:Row w o tg e size v n xs)
  (ad:Addr)(m c:Nat)(news:List Ac)(hx:a.eval x=Ah (some ad) m c)(hl:news.length=m*size)(hnews:∀ j u,news[j]?=some u->w.cell? (ad.add j)=some u)(h1:∀ u ∈ news,u.oneCell'=true)
  (h63:n+m<=maxLen)(hbytes:(n+m)*bytes<=140737488355328)
  (h:∀ v' w',Row w' (ext o w.1.size tg) tg e size v' (n+m) (xs++news)->Stp (fun u=>u=tg) o (ext o w.1.size tg) w w'->K (a.put op.dst v') w'):op.wp P a w K Q:=by
 obtain⟨v',w',hr,h2,h3⟩:=xq (P:=P) w t op.type e i z size bytes ht hi hz hsize hby hzs hsz o tg v n xs hown ad m c news hl hnews h1 h63 hbytes;unfold Oper.wp execOp;simp only[ho,resolve,invoke,builtin,Sem.run_bind,Sem.run_pure,Result.andThen_ok,aC,aD,aF,hs,hx,hr];exact h v' w' h2 h3
def qv {ops:Array Oper}{op:Oper}{a:Act}{K:Act->Aa->Prop}{Q:Exit->Act->Aa->Prop}{E:Prop}(hgd:op.guard=none)(s x:Operand)(t:TypeId)
  (ho:op.op=.call { callee:=.builtin .append,args:=#[s,x],argTypes:=#[t,t] })
  (e:TypeId)(i:TypeInfo)(z:Ac)(size bytes:Nat)(ht:P.underlying t=some (.slice e))(hi:P.info? e=some i)(hz:i.zero=some z)
  (hsize:i.size=size)(hby:i.bytes=bytes)(hzs:z.cells.size=size)(hsz:0<size)
  (o:Own)(tg:Tag)(v:Ac)(n:Nat)(xs:List Ac)(hs:a.eval s=v)(hown:Row w o tg e size v n xs)
  (ad:Addr)(m c:Nat)(news:List Ac)(hx:a.eval x=Ah (some ad) m c)(hl:news.length=m*size)(hnews:∀ j u,news[j]?=some u->w.cell? (ad.add j)=some u)(h1:∀ u ∈ news,u.oneCell'=true)
  (h63:n+m<=maxLen)(hbytes:(n+m)*bytes<=140737488355328)
  (h:∀ v' w',Row w' (ext o w.1.size tg) tg e size v' (n+m) (xs++news)->Stp (fun u=>u=tg) o (ext o w.1.size tg) w w'->K (a.put op.dst v') w') :
  if Ad op (yielded ops a.tmps)=true then Oper.wp P op a w K Q else E:=by
 have hw:Ad op (yielded ops a.tmps)=true:=by simp[Ad,hgd]
 rw[if_pos hw];exact qer w s x t ho e i z size bytes ht hi hz hsize hby hzs hsz o tg v n xs hs hown ad m c news hx hl hnews h1 h63 hbytes h
end
def Row.AS {w:Aa}{o:Own}{t:Tag}{e:TypeId}{size n:Nat}{v:Ac}{xs:List Ac}(h:Row w o t e size v n xs):∃ pa cp,v=.slice pa n cp:=by
 rcases h.own.2 with⟨rfl,rfl⟩|⟨g,cap,cur,rfl,_⟩
 ·exact⟨_,_,rfl⟩
 ·exact⟨_,_,rfl⟩
def zj {w:Aa}{B:Nat}{v:Ac}{t:TypeId}(h:Al w B #[v] t):∀ j u,[v][j]?=some u->w.cell? ((⟨B,0,none⟩:Addr).add j)=some u:=fun j u hu=>by
 have hadd:(⟨B,0,none⟩:Addr).add j=⟨B,j,none⟩:=by unfold Addr.add;split<;>simp_all
 rw[hadd,h.cell];simpa using hu
def ka {z:Int}:∀ u ∈ [Value.int .i64 z],u.oneCell'=true:=by intro u hu;simp at hu;subst hu;rfl
def qm7 {w:Aa}{o:Own}{tg t0:Tag}{h n sz top Bv:Nat}{ps:List Ac}{v0 x0 x1 x2 x3 x4 x5 vc vo:Ac}(hb:Al w h #[v0,I Z 1,I Z sz,I Z top,I Z (1+(sz:Int)),I Z sz,I Z Bv,vc,vo,I Z 0,x0,x1,x2,x3,x4,x5] 185)
  (hr:Row w o tg 3 1 vc n ps)(hn:n<16384)(iN:o h=t0)(ht:t0≠tg)(p t:Nat) :
  Ab ARt 230 #[Ag (some ⟨h,0,none⟩),CW 1 sz t,I Z p] w fun e w'=>e=O (Aj #[]) /\
   ∃ bM o',Al w' h #[v0,I Z 1,I Z sz,I Z t,I Z (1+(sz:Int)),I Z sz,I Z Bv,bM,vo,I Z 0,x0,x1,x2,x3,x4,x5] 185/\Row w' o' tg 3 1 bM (n+1) (ps++[nv p])/\Stp (fun t=>t=t0\/t=tg) o o' w w':=by
 have hu64:=underlying25;have c:=hb.cell;have z:=hb.free;have s:=hb.lt;have hne:w.1.size≠h:=by omega
 go_enter func230,ntmps230;go_upto_region 1 with fail;have hc9:w.cell? ⟨h,9,none⟩=some (I Z 0):=by rw[c];rfl
 obtain⟨W,hW⟩:=Ja0 (((((w.setCell ⟨h,1,none⟩ (I Z 1)).setCell ⟨h,2,none⟩ (I Z sz)).setCell ⟨h,3,none⟩ (I Z t)).alloc (ARu #[I Z 1,I Z sz,I Z t] 181)).drew);have jW:=Al.alloc (((hb.set 1 (I Z 1)).set 2 (I Z sz)).set 3 (I Z t)) (ARu #[I Z 1,I Z sz,I Z t] 181);have jB:=Al.Ap ((((w.setCell ⟨h,1,none⟩ (I Z 1)).setCell ⟨h,2,none⟩ (I Z sz)).setCell ⟨h,3,none⟩ (I Z t))) #[I Z 1,I Z sz,I Z t] #[I Z 1,I Z sz,I Z t] 181 w.1.size (by simp) rfl
 have jW:=qj jW;have jB:=qj jB;have k9:=jW.cell 9;have b0:=jB.cell 0;have b1:=jB.cell 1;have b2:=jB.cell 2;simp at k9 b0 b1 b2;go_region_held3 (fun w'=>w'.cell? ⟨h,9,none⟩=some (I Z 0)/\w'.cell? ⟨w.1.size,0,none⟩=some (I Z 1)/\w'.cell? ⟨w.1.size,1,none⟩=some (I Z sz)/\w'.cell? ⟨w.1.size,2,none⟩=some (I Z t)) (go_keep) (fail)
 rw[<-hW];have hSt:Stp (fun t=>t=t0) o o w W:=by
  rw[hW];exact ((((((Stp.refl _ o w).setCell (by simpa using iN) _).setCell (by simpa using iN) _).setCell (by simpa using iN) _).alloc _).drew)
 have pM:Al W h ((((#[v0,I Z 1,I Z sz,I Z top,I Z (1+(sz:Int)),I Z sz,I Z Bv,vc,vo,I Z 0,x0,x1,x2,x3,x4,x5]:Array Ac).setIfInBounds 1 (I Z 1)).setIfInBounds 2 (I Z sz)).setIfInBounds 3 (I Z t)) 185:=by rw[hW];exact jW
 simp at pM;have hr2:=hr.Ao hSt (fun e=>ht e.symm)
 clear jW jB k9 b0 b1 b2 hW c z s hc9 hr hb hne;have c:=pM.cell;have z:=pM.free;have s:=pM.lt;go_upto_region 2 with fail;obtain⟨iI,hi,hsI,bZ,bT⟩:=jh;have k9:W.cell? ⟨h,9,none⟩=some (I Z 0):=by rw[c];rfl
 have k7:W.cell? ⟨h,7,none⟩=some vc:=by rw[c];rfl
 have dX:n+1<=maxLen:=by simp only[maxLen];omega
 have hmb:(n+1)*8<=140737488355328:=by omega
 have jn:=Al.new W.drew #[I Z p] 3;have rn:Row (W.drew.alloc (ARu #[I Z p] 3)) o tg 3 1 vc n ps:=hr2.below (qc (qf (qd W)) _);have hkeep:=fun (w1:Aa)(o1:Own)(hst:Stp (fun u=>u=tg) o o1 (W.drew.alloc (ARu #[I Z p] 3)) w1)=>(Al.alloc (qj pM) (ARu #[I Z p] 3)).Ao hst (by rw[iN];exact ht)
 have hfin:=fun (w1:Aa)(o1:Own)(pa:Option Addr)(cp:Nat)(hown:Row w1 o1 tg 3 1 (.slice pa (n+1) cp) (n+1) (ps++[I Z p]))(hst:Stp (fun u=>u=tg) o o1 (W.drew.alloc (ARu #[I Z p] 3)) w1) =>
  show ∃ bM o',Al (w1.setCell ⟨h,7,none⟩ (.slice pa (n+1) cp)) h #[v0,I Z 1,I Z sz,I Z t,I Z (1+(sz:Int)),I Z sz,I Z Bv,bM,vo,I Z 0,x0,x1,x2,x3,x4,x5] 185/\Row (w1.setCell ⟨h,7,none⟩ (.slice pa (n+1) cp)) o' tg 3 1 bM (n+1) (ps++[nv p])/\Stp (fun t=>t=t0\/t=tg) o o' w (w1.setCell ⟨h,7,none⟩ (.slice pa (n+1) cp)) from by
   have hlt:h<(W.drew.alloc (ARu #[I Z p] 3)).1.size:=(Al.alloc (qj pM) _).lt;have ho1:o1 h=t0:=by rw[hst.tags h hlt];exact iN
   have k1:Stp (fun t=>t=t0) o1 o1 w1 (w1.setCell ⟨h,7,none⟩ (.slice pa (n+1) cp)):=(Stp.refl _ o1 w1).setCell (by simpa using ho1) _
   refine⟨_,o1,(hkeep _ _ hst).set 7 _,hown.Ao k1 (fun e=>ht e.symm),?_⟩;exact ((hSt.mono fun _ e=>Or.inl e).trans (Stp.of_below (qc (qf (qd W)) _))).trans ((hst.mono fun _ e=>Or.inr e).trans (k1.mono fun _ e=>Or.inl e))
 go_region_law ((refine qv _ (by rfl) _ _ _ (by rfl) 3 iI _ 1 8 hu64 hi bT hsI bZ (by rfl) (by decide) o tg vc n ps (by rfl) rn ⟨W.1.size,0,none⟩ 1 1 [I Z p] (by rfl) (by rfl) (zj jn) ka dX hmb ?_;intro v' w1 hown hst;obtain⟨pa,cp,rfl⟩:=hown.AS;have jX:=hkeep _ _ hst;have cX:=jX.cell;have zX:=jX.free;have sX:=jX.lt))
 all_goals
  go_wp2_with fail;go_end0;exact⟨rfl,hfin _ _ _ _ hown hst⟩
end
section
open Go.RowKit Hp
attribute [local go_sem ↓] Go.wp_at_zero Go.wp_at_succ
section
variable {w : Aa} {o : Own} {l : A7} {H : Hp} {vc vo vw vf : Ac} {f : Nat -> Nat}
def AA.Em (h:AA w o l H vc vo vw vf f)(hu:H.use=false):Al w l.h #[Ag (some ⟨l.a,0,none⟩),I Z 1,I Z H.size,I Z H.top,I Z (1+(H.size:Int)),I Z H.size,I Z H.Bv,vc,vo,I Z 0,.bool H.AD,I Z H.Bh,I Z H.scan,I Z H.Aw,vw,vf] 185:=by
 have:=h.hb;unfold Hp.cells at this;rwa [hu,if_neg (by simp)]at this
end
end
section
open Go.RowKit Hp
def Stp.BE {T:Tag->Prop}{o:Own}{b:Nat}{w w':Aa}(h:Wr b w w')(ht:T (o b)):Stp T o o w w':=
 ⟨h.os,h.tape,h.output,h.size,fun _ _=>rfl,fun k hk hn=>h.block k hk fun e=>hn (by rw[e];exact ht)⟩
def BB.Ao {T:Tag->Prop}{o o':Own}{w w':Aa}{a wd L:Nat}{f:Nat->Nat}(h:BB w a wd L f)(k:Stp T o o' w w')(h1:¬T (o a))(h2:¬T (o wd)):BB w' a wd L f:=by
 obtain⟨cs,hb,hc⟩:=h.words;exact⟨h.BM.Ao k h1,h.ne,⟨cs,hb.Ao k h2,hc⟩,h.le⟩
def Row.retag {w:Aa}{o o':Own}{t:Tag}{e:TypeId}{size:Nat}{v:Ac}{n:Nat}{xs:List Ac}(h:Row w o t e size v n xs)(he:∀ b,b<w.1.size->o' b=o b):Row w o' t e size v n xs:=by
 refine⟨h.own,fun k hk=>?_⟩
 rcases h.own.2 with⟨rfl,_⟩|⟨g,cap,cur,rfl,_,hg,_⟩
 ·simp[Value.ownBlock]at hk
 ·have e1:g=k:=by simpa [Value.ownBlock] using hk
  subst e1;rw[he g (Qf.1 hg).1];exact h.tag g rfl
section
variable {w : Aa} {o : Own} {l : A7} {H : Hp} {vc vo vw vf : Ac} {f : Nat -> Nat}
def AA.retag {o':Own}(h:AA w o l H vc vo vw vf f)(he:∀ b,b<w.1.size->o' b=o b):AA w o' l H vc vo vw vf f:=
 ⟨h.hb,h.B6,h.rc.retag he,h.ro.retag he,h.rw.retag he,h.rf.retag he,(he _ h.hb.lt).trans h.oh,(he _ h.B6.BM.lt).trans h.oa,(he _ h.B6.lt).trans h.ow,h.E0,h.BP⟩
def Hp.lay (H : Hp) (s : BX) : Hp :=
  { H with cur := H.cur ++ [(H.top, Ob.new s (H.Aw + 1))], top := H.top + Bu (3 + s.p + s.d), Aw := H.Aw + 1,
           Az := if s.Az then H.Az ++ [H.top] else H.Az, final := if s.final then H.final ++ [H.top] else H.final }
end
section
variable {P : Program} (w : Aa)
def qci (t ty e : TypeId) (i : TypeInfo) (size : Nat) (ht : P.underlying t = some (.slice e)) (hi : P.info? e = some i) {o : Own} {tg : Tag} {v : Ac} {n : Nat} {xs : List Ac} (hown : Row w o tg e size v n xs) (c : Nat) :
    (ay #[t, t] ty #[v, Ah none 0 c]).run P w = .ok v w := by
  rcases hown.shape with ⟨rfl, _⟩ | ⟨g, cap, rfl, hnc, _⟩
  all_goals simp [ay, run_underlying ht, sizeOf, typeInfo, aM, aL, storeCells, *]
def qcm (t ty e:TypeId)(i:TypeInfo)(z:Ac)(size bytes:Nat)(ht:P.underlying t=some (.slice e))(hi:P.info? e=some i)(hz:i.zero=some z)
  (hsize:i.size=size)(hby:i.bytes=bytes)(hzs:z.cells.size=size)(hsz:0<size)
  (o:Own)(tg:Tag)(v:Ac)(n:Nat)(xs:List Ac)(hown:Row w o tg e size v n xs)(o2:Own)(t2:Tag)(vs:Ac)(m:Nat)(news:List Ac)(hsrc:Row w o2 t2 e size vs m news)(h1:∀ u ∈ news,u.oneCell'=true)
  (h63:n+m<=maxLen)(hbytes:(n+m)*bytes<=140737488355328) :
  ∃ v' w',(ay #[t,t] ty #[v,vs]).run P w=.ok v' w'/\Row w' (ext o w.1.size tg) tg e size v' (n+m) (xs++news)/\Stp (fun u=>u=tg) o (ext o w.1.size tg) w w':=by
 rcases hsrc.shape with ⟨rfl,rfl⟩|⟨g,cap,rfl,_,_⟩
 ·have hx:news=[]:=af (by simpa using hsrc.len)
  subst hx;refine⟨v,w,qci w t ty e i size ht hi hown 0,?_,(Stp.refl _ o w).ext _ _ (Qk _)⟩;rw[List.append_nil,Nat.add_zero];exact hown.retag fun b hb=>qr hb
 ·exact xq (P:=P) w t ty e i z size bytes ht hi hz hsize hby hzs hsz o tg v n xs hown ⟨g,0,none⟩ m cap news hsrc.len (hsrc.own.cells rfl) h1 h63 hbytes
def fy {op:Oper}{a:Act}{K:Act->Aa->Prop}{Q:Exit->Act->Aa->Prop}(s x:Operand)(t:TypeId)
  (ho:op.op=.call { callee:=.builtin .append,args:=#[s,x],argTypes:=#[t,t] })
  (e:TypeId)(i:TypeInfo)(z:Ac)(size bytes:Nat)(ht:P.underlying t=some (.slice e))(hi:P.info? e=some i)(hz:i.zero=some z)
  (hsize:i.size=size)(hby:i.bytes=bytes)(hzs:z.cells.size=size)(hsz:0<size)
  (o:Own)(tg:Tag)(v:Ac)(n:Nat)(xs:List Ac)(hs:a.eval s=v)(hown:Row w o tg e size v n xs)
  (o2:Own)(t2:Tag)(vs:Ac)(m:Nat)(news:List Ac)(hx:a.eval x=vs)(hsrc:Row w o2 t2 e size vs m news)(h1:∀ u ∈ news,u.oneCell'=true)
  (h63:n+m<=maxLen)(hbytes:(n+m)*bytes<=140737488355328)
  (h:∀ v' w',Row w' (ext o w.1.size tg) tg e size v' (n+m) (xs++news)->Stp (fun u=>u=tg) o (ext o w.1.size tg) w w'->K (a.put op.dst v') w'):Oper.wp P op a w K Q:=by
 obtain⟨v',w',hr,h2,h3⟩:=qcm (P:=P) w t op.type e i z size bytes ht hi hz hsize hby hzs hsz o tg v n xs hown o2 t2 vs m news hsrc h1 h63 hbytes;unfold Oper.wp execOp;simp only[ho,resolve,invoke,builtin,Sem.run_bind,Sem.run_pure,Result.andThen_ok,aC,aD,aF,hs,hx,hr];exact h v' w' h2 h3
def zi {ops:Array Oper}{rest:List Oper}{op:Oper}{a:Act}{Q:Exit->Act->Aa->Prop}(hgd:op.guard=none)(s x:Operand)(t:TypeId)
  (ho:op.op=.call { callee:=.builtin .append,args:=#[s,x],argTypes:=#[t,t] })
  (e:TypeId)(i:TypeInfo)(z:Ac)(size bytes:Nat)(ht:P.underlying t=some (.slice e))(hi:P.info? e=some i)(hz:i.zero=some z)
  (hsize:i.size=size)(hby:i.bytes=bytes)(hzs:z.cells.size=size)(hsz:0<size)
  (o:Own)(tg:Tag)(v:Ac)(n:Nat)(xs:List Ac)(hs:a.eval s=v)(hown:Row w o tg e size v n xs)
  (o2:Own)(t2:Tag)(vs:Ac)(m:Nat)(news:List Ac)(hx:a.eval x=vs)(hsrc:Row w o2 t2 e size vs m news)(h1:∀ u ∈ news,u.oneCell'=true)
  (h63:n+m<=maxLen)(hbytes:(n+m)*bytes<=140737488355328)
  (h:∀ v' w',Row w' (ext o w.1.size tg) tg e size v' (n+m) (xs++news)->Stp (fun u=>u=tg) o (ext o w.1.size tg) w w'->wpList P ops Q rest (a.put op.dst v') w'):wpList P ops Q (op::rest) a w:=
 wpList_plain hgd fun _ hK=>fy w s x t ho e i z size bytes ht hi hz hsize hby hzs hsz o tg v n xs hs hown o2 t2 vs m news hx hsrc h1 h63 hbytes fun v' w' h2 h3=>hK _ _ (h v' w' h2 h3)
def me {ops:Array Oper}{op:Oper}{a:Act}{K:Act->Aa->Prop}{Q:Exit->Act->Aa->Prop}{E:Prop}(hgd:op.guard=none)(s x:Operand)(t:TypeId)
  (ho:op.op=.call { callee:=.builtin .append,args:=#[s,x],argTypes:=#[t,t] })
  (e:TypeId)(i:TypeInfo)(z:Ac)(size bytes:Nat)(ht:P.underlying t=some (.slice e))(hi:P.info? e=some i)(hz:i.zero=some z)
  (hsize:i.size=size)(hby:i.bytes=bytes)(hzs:z.cells.size=size)(hsz:0<size)
  (o:Own)(tg:Tag)(v:Ac)(n:Nat)(xs:List Ac)(hs:a.eval s=v)(hown:Row w o tg e size v n xs)
  (o2:Own)(t2:Tag)(vs:Ac)(m:Nat)(news:List Ac)(hx:a.eval x=vs)(hsrc:Row w o2 t2 e size vs m news)(h1:∀ u ∈ news,u.oneCell'=true)
  (h63:n+m<=maxLen)(hbytes:(n+m)*bytes<=140737488355328)
  (h:∀ v' w',Row w' (ext o w.1.size tg) tg e size v' (n+m) (xs++news)->Stp (fun u=>u=tg) o (ext o w.1.size tg) w w'->K (a.put op.dst v') w') :
  if Ad op (yielded ops a.tmps)=true then Oper.wp P op a w K Q else E:=by
 have hw:Ad op (yielded ops a.tmps)=true:=by simp[Ad,hgd]
 rw[if_pos hw];exact fy w s x t ho e i z size bytes ht hi hz hsize hby hzs hsz o tg v n xs hs hown o2 t2 vs m news hx hsrc h1 h63 hbytes h
end
def tt (l:List Nat):∀ u ∈ l.map nv,u.oneCell'=true:=by
 intro u hu;obtain⟨x,_,rfl⟩:=Qt.1 hu;rfl
end
section
open Hp
def BK:List (Nat×Ob×Option Nat)->Nat->Option (Ob×Option Nat)
 | [],_=>none
 | (q,o)::l,p=>if q=p then some o else BK l p
def ku:∀ {l:List (Nat×Ob×Option Nat)}{p:Nat}{o:Ob×Option Nat},BK l p=some o->(p,o) ∈ l
 | [],p,o,h=>by simp[BK]at h
 | (q,x)::l,p,o,h=>by
  unfold BK at h;split at h
  ·rename_i e
   injection h with h;rw[<-e,<-h];exact .head _
  ·exact .tail _ (ku h)
def JG {l:List (Nat×Ob×Option Nat)}{p:Nat}:(BK l p).isSome=true↔p ∈ l.map (·.1):=by
 induction l with
 | nil=>simp[BK]
 | cons x l ih =>
  obtain⟨q,o⟩:=x;unfold BK;split
  ·rename_i e;simp[e]
  ·rename_i e;rw[ih];simp[Ne.symm e]
def zz (l:List (Nat×Ob×Option Nat))(p q:Nat):List (Nat×Ob×Option Nat):=l.map fun x=>if x.1=p then (x.1,x.2.1,some q) else x
def du (l:List (Nat×Ob×Option Nat))(p q:Nat):((zz l p q).map fun x=>(x.1,x.2.1))=l.map fun x=>(x.1,x.2.1):=by
 unfold zz;rw[aa];refine az fun x _=>?_
 simp only[aJ];split<;>rfl
def qla (l:List (Nat×Ob×Option Nat))(p q:Nat):(zz l p q).length=l.length:=by unfold zz;simp
def qi0 (l:List (Nat×Ob×Option Nat))(p q:Nat):(zz l p q).map (·.1)=l.map (·.1):=by
 have:=congrArg (List.map (·.1)) (du l p q);simpa [aa,ag] using this
def Tw (l:List (Nat×Ob×Option Nat))(p q r:Nat):BK (zz l p q) r=if r=p then (BK l p).map fun x=>(x.1,some q) else BK l r:=by
 induction l with
 | nil=>unfold zz BK;simp
 | cons x l ih =>
  obtain⟨s,o⟩:=x;have e:zz ((s,o)::l) p q=(if s=p then (s,o.1,some q) else (s,o))::zz l p q:=rfl;rw[e];by_cases h1:s=p
  ·subst h1
   rw[if_pos rfl];by_cases h2:r=s
   ·subst h2;simp[BK]
   ·rw[if_neg h2]at ih ⊢
    simp only[BK,if_neg (Ne.symm h2),ih]
  ·rw[if_neg h1]
   by_cases h2:r=p
   ·subst h2
    rw[if_pos rfl]at ih ⊢;simp only[BK,if_neg h1,ih]
   ·rw[if_neg h2]at ih ⊢
    simp only[BK,ih]
def XX {H:Hp}(hk:H.ok):(H.old.map (·.1)).Pairwise (·<·):=by
 have:=uy _ _ _ hk.ol hk.ok;simpa [Hp.BP,aa,ag] using this
def YL:∀ {l:List (Nat×Ob×Option Nat)}{p q:Nat}{ob:Ob},(l.map (·.1)).Pairwise (·<·)->BK l p=some (ob,none)->dg (zz l p q)+Bu ob.size=dg l
 | [],p,q,ob,_,h=>by simp[BK]at h
 | (s,o,g)::l,p,q,ob,hs,h=>by
  have hs':(∀ y ∈ l.map (·.1),s<y)/\(l.map (·.1)).Pairwise (·<·):=List.pairwise_cons.1 hs;have e:zz ((s,o,g)::l) p q=(if s=p then (s,o,some q) else (s,o,g))::zz l p q:=rfl;rw[e];unfold BK at h;by_cases h1:s=p
  ·subst h1
   rw[if_pos rfl]at h ⊢;injection h with h;injection h with h2 h3;subst h2 h3;have hno:zz l s q=l:=by
    unfold zz;refine (az fun x hx=>?_).trans (aH _);have:=hs'.1 x.1 (Qt.2 ⟨x,hx,rfl⟩);rw[if_neg (by omega)];rfl
   rw[hno];show dg l+Bu o.size=Bu o.size+dg l;omega
  ·rw[if_neg h1]at h ⊢
   have ih:=YL (q:=q) hs'.2 h
   cases g with
   | none =>
    show Bu o.size+dg (zz l p q)+Bu ob.size=Bu o.size+dg l;omega
   | some r=>exact ih
def VJ:∀ {l:List (Nat×Ob×Option Nat)}{p:Nat}{ob:Ob},BK l p=some (ob,none)->Bu ob.size<=dg l
 | [],p,ob,h=>by simp[BK]at h
 | (s,o,g)::l,p,ob,h=>by
  unfold BK at h;split at h
  ·injection h with h
   injection h with h2 h3;subst h2 h3;show Bu o.size<=Bu o.size+dg l;omega
  ·have ih:=VJ h
   cases g with
   | none=>show Bu ob.size<=Bu o.size+dg l;omega
   | some r=>exact ih
def Hp.AB (H:Hp)(p:Nat):Hp×Nat:=
 match BK H.old p with
 | none=>(H,p)
 | some (_,some q)=>(H,q)
 | some (ob,none)=>({ H with cur:=H.cur++[(H.top,ob)],top:=H.top+Bu ob.size,old:=zz H.old p H.top,Bh:=H.Bh-Bu ob.size },H.top)
def Hp.CH {H:Hp}{p:Nat}(h:BK H.old p=none):H.AB p=(H,p):=by unfold Hp.AB;rw[h]
def Hp.CG {H:Hp}{p q:Nat}{ob:Ob}(h:BK H.old p=some (ob,some q)):H.AB p=(H,q):=by unfold Hp.AB;rw[h]
def Hp.Cc {H:Hp}{p:Nat}{ob:Ob}(h:BK H.old p=some (ob,none)):H.AB p=({ H with cur:=H.cur++[(H.top,ob)],top:=H.top+Bu ob.size,old:=zz H.old p H.top,Bh:=H.Bh-Bu ob.size },H.top):=by unfold Hp.AB;rw[h]
def SG {H:Hp}(hk:H.ok){p:Nat}{ob:Ob}{g:Option Nat}(h:BK H.old p=some (ob,g)):ob.ok/\H.base (!H.use)<=p/\p+Bu ob.size<=H.base (!H.use)+H.size/\p+ob.size<=2*H.size+1:=by
 have hm:(p,ob) ∈ H.BP:=Qt.2 ⟨(p,ob,g),ku h,rfl⟩;have h1:=kf _ _ _ hk.ol _ hm;have h2:=hk.ok _ hm;have h3:=kg _ (Ob.AU h2).2;have h4:=hk.ot;have h5:=H.BJ (!H.use);simp only at h1 h2 h3;exact⟨h2,h1.1,by omega,by omega⟩
def ww {H:Hp}(hk:H.ok):H.base H.use<=H.top:=bh _ _ _ hk.cl
def Hp.DL {H:Hp}(hk:H.ok)(p:Nat):(H.AB p).1.ok:=by
 cases h:BK H.old p with
 | none=>rw[H.CH h];exact hk
 | some x =>
  obtain⟨ob,g⟩:=x
  cases g with
  | some q=>rw[H.CG h];exact hk
  | none =>
   rw[H.Cc h];obtain⟨ho,_,_,_⟩:=SG hk h;have hg:=YL (q:=H.top) (XX hk) h;have hr:=hk.room;have hw:=hk.MY;have hb:=ww hk;have hb1:=H.BJ H.use;have hsz:=hk.sz;refine⟨hk.sz,cw _ _ _ _ hk.cl,fun x hx=>?_,?_,?_,hk.ot,fun hm=>?_,?_,?_,hk.Cw,hk.Cd,fun x hx q hq=>?_⟩
   ·rcases Qs.1 hx with hx|hx
    ·exact hk.ck x hx
    ·rw[Zc.1 hx];exact ho
   ·show wz _ ((zz H.old p H.top).map _) _
    rw[du];exact hk.ol
   ·show Kl ((zz H.old p H.top).map _)
    rw[du];exact hk.ok
   ·have:=hk.still hm
    rw[this]at h;simp[BK]at h
   ·show H.Bh-Bu ob.size=dg (zz H.old p H.top)
    omega
   ·show H.top+Bu ob.size+(H.Bh-Bu ob.size)<=H.base H.use+H.size
    omega
   ·unfold zz at hx
    obtain⟨z,hz,rfl⟩:=Qt.1 hx;split at hq
    ·injection hq with hq;subst hq;omega
    ·exact hk.gone z hz q hq
end
section
open Go.RowKit Hp
attribute [local go_sem ↓] Go.wp_at_zero Go.wp_at_succ
variable {w : Aa} {a wd L : Nat} {f : Nat -> Nat} {p : Nat} {ob : Ob}
def FH (f:Nat->Nat)(p t n:Nat):Nat->Nat:=upd (QM f p t n) p (4*t+2)
def GJ {f:Nat->Nat}{p t n j:Nat}(h1:t<=j)(h2:j<t+n)(hp:p<t\/t+n<=p):FH f p t n j=f (p+(j-t)):=by
 unfold FH;rw[upd_ne _ _ _ _ (by omega)];unfold QM;rw[if_pos ⟨h1,h2⟩]
def LQ (f:Nat->Nat)(p t n:Nat):FH f p t n p=4*t+2:=gr _ _ _
def tf {f:Nat->Nat}{p t n j:Nat}(h:j<t\/t+n<=j)(hp:j≠p):FH f p t n j=f j:=by
 unfold FH;rw[upd_ne _ _ _ _ hp];unfold QM;rw[if_neg (by omega)]
def Bj.copied (ho:Bj f p ob)(hk:ob.ok){t:Nat}(hp:p+ob.size<=t\/t+ob.size<=p):Bj (FH f p t ob.size) t ob:=by
 have hs:=Ob.AU hk;have key:∀ k,k<ob.size->FH f p t ob.size (t+k)=f (p+k):=fun k hk=>by
  rw[GJ (by omega) (by omega) (by omega),show p+(t+k-t)=p+k from by omega]
 unfold Ob.size at key hs;refine⟨?_,?_,?_,fun j x hx=>?_,fun j n hn=>?_⟩
 ·have:=key 0 (by omega)
  rw[Nat.add_zero,Nat.add_zero]at this;unfold Ob.size;rw[this];exact ho.h0
 ·unfold Ob.size;rw[key 1 (by omega)];exact ho.h1
 ·unfold Ob.size;rw[key 2 (by omega)];exact ho.h2
 ·have:=(Qc.1 hx).1
  rw[hk.lp]at this;unfold Ob.size;rw[show t+3+j=t+(3+j) from by omega,key (3+j) (by omega),show p+(3+j)=p+3+j from by omega];exact ho.hp j x hx
 ·have:=(Qc.1 hn).1
  rw[hk.ln]at this;unfold Ob.size;rw[show t+3+ob.AQ.p+j=t+(3+ob.AQ.p+j) from by omega,key (3+ob.AQ.p+j) (by omega),show p+(3+ob.AQ.p+j)=p+3+ob.AQ.p+j from by omega];exact ho.hn j n hn
def Wr.BA {b c:Nat}{w w':Aa}(h:Wr b w w')(hc:w.1.size<=c)(i:Nat)(v:Ac):Wr b w (w'.setCell ⟨c,i,none⟩ v):=
 ⟨h.os,h.tape,h.output,by simpa [World.setCell] using h.size,fun k hk hn=>(Below.heap_setCell _ _ _ _ (by show k≠c;omega)).trans (h.block k hk hn)⟩
def BB.BA {w':Aa}(h:BB w' a wd L f){c:Nat}(h1:a≠c)(h2:wd≠c)(i:Nat)(v:Ac):BB (w'.setCell ⟨c,i,none⟩ v) a wd L f:=h.wr (Wr.set c w' i v) h1 h2
def GK (h:BB w a wd L f)(ho:Bj f p ob)(hk:ob.ok)(hl:p+ob.size<=L){b s t:Nat}(hsp:Ex b s t)(hr:t+Bu ob.size<=b+s)(ht:t+ob.size<=L)(t1:1<=t) :
  Ab ARt 235 #[Ag (some ⟨a,0,none⟩),I Z p,CW b s t] w fun e w'=>e=O (Aj #[CW b s (t+Bu ob.size),I Z t,I Z 0])/\Turned w w' a wd L (FH f p t ob.size):=by
 have hs:=Ob.AU hk;have hL:=h.le;have HA:=Qa (fun (W:Aa)(hb:Ae w.1.size w W)=>JQ (h.below hb) ho hk hl)
 have HS:=Qa (fun (W:Aa)(hb:Ae w.1.size w W)=>kr (h.below hb) ho hk hl p rfl)
 have HZ:=Qa (fun w=>yg ob.AQ hk.AQ w)
 have HT:=Qa (fun w=>UK hsp ob.size hs.1 hs.2 hr _ rfl w)
 have HN:=Qa (fun (W:Aa)(hb:Ae w.1.size w W)=>SK (h.below hb))
 have HG:=Qa (fun w=>UF t t1 (by omega) t rfl w)
 have HM:=Qa (fun (W:Aa)(hb:Ae w.1.size w W)=>LA (h.below hb) p t ob.size hl ht (by omega) p t ob.size rfl rfl rfl)
 have HW:=Qa (fun (W:Aa)(h:BB W a wd L (QM f p t ob.size))=>dn h p p (4*t+2) rfl (by omega) ((4*t+2:Nat):Int) rfl)
 have hwd:=h.lt;have hla:=h.BM.lt;have ez:(3+ob.AQ.p+ob.AQ.d)=ob.size:=rfl;rw[ez]at HZ;have g1:¬((ob.size:Int) > (L:Int)-(t:Int)):=by omega
 have g2:((t:Int)==0)=false:=by rw[Qh];omega
 have g3:IntKind.i64.wrap ((L:Int)-(t:Int))=(L:Int)-(t:Int):=IntWalk.i64_in _ (by omega)
 generalize hrd:t+Bu ob.size=tr at *;generalize ob.size=n at *;obtain⟨c4,hc4⟩:∃ c:Nat,c=4*t+2:=⟨_,rfl⟩;have HC4:=Qa hc4;rw[<-hc4]at HG HW;clear h ho hk hs hL hsp hr hrd hl ht ez hc4;obtain⟨W,hW⟩:=Ja0 ((w.alloc (ARu #[I Z b,I Z s,I Z t] 181)).alloc (ARu #[I Z 0,I Z 0,I Z 0] 181));have bW:Ae w.1.size w W:=by rw[hW];exact qc (qc (qd _) _) _
 have jS:Al W w.1.size #[I Z b,I Z s,I Z t] 181:=by rw[hW];exact (Al.new _ _ _).alloc _
 have jR:Al W (w.1.size+1) #[I Z 0,I Z 0,I Z 0] 181:=by rw[hW];exact Al.Ap _ _ _ _ _ (by simp) rfl
 go_enter func235,ntmps235;go_wp2_with fail;rw[<-hW];clear hW;obtain⟨bS,hbS⟩:=Ja0 w.1.size;obtain⟨bR,hbR⟩:=Ja0 (w.1.size+1);rw[<-hbR]at jR ⊢;rw[<-hbS]at jS ⊢;have qU:=Qa (show w.1.size<=bS/\w.1.size<=bR/\bS≠bR from by omega)
 clear hbS hbR;refine (HA.out _ bW).mono ?_
 rintro e w1 ⟨rfl,rfl⟩
 go_wp2_with fail;refine (HS.out _ bW).mono ?_
 rintro e w2 ⟨rfl,hb2⟩
 have eB:=qe bW hb2;have dF:=jS.below hb2 jS.lt;have dY:=jR.below hb2 jR.lt;clear hb2 jS jR bW HA HS;go_wp2_with fail;refine (HZ.out _).mono ?_
 rintro e w3 ⟨rfl,hb3⟩
 have bW3:=qe (qc eB (ARu #[I Z ob.AQ.p,I Z ob.AQ.d,.bool ob.AQ.Az,.bool ob.AQ.final] 93)) hb3;have iP:=(dF.alloc (ARu #[I Z ob.AQ.p,I Z ob.AQ.d,.bool ob.AQ.Az,.bool ob.AQ.final] 93)).below hb3 (dF.alloc _).lt;have gV:=(dY.alloc (ARu #[I Z ob.AQ.p,I Z ob.AQ.d,.bool ob.AQ.Az,.bool ob.AQ.final] 93)).below hb3 (dY.alloc _).lt;have cS:=iP.cell;clear hb3 dF dY eB HZ;go_wp2_with fail;refine (HT.out _).mono ?_
 rintro e w4 ⟨rfl,hb4⟩
 have bW4:=qe bW3 hb4;have xQ:=gV.below hb4 gV.lt;clear hb4 iP gV bW3 HT cS;have bW5:=qc bW4 (ARu #[I Z b,I Z s,I Z tr] 181);have jA5:=Al.new w4 #[I Z b,I Z s,I Z tr] 181;have fU:=xQ.alloc (ARu #[I Z b,I Z s,I Z tr] 181);have fG:w.1.size<=w4.1.size:=bW4.size;obtain⟨W5,dA⟩:=Ja0 (w4.alloc (ARu #[I Z b,I Z s,I Z tr] 181));rw[<-dA]at bW5 jA5 fU;obtain⟨bA,bQ⟩:=Ja0 w4.1.size;rw[<-bQ]at jA5 fG;clear xQ bW4;go_wp2_with fail;rw[<-dA,<-bQ];clear dA bQ;refine (HN.out _ bW5).mono ?_
 rintro e w6 ⟨rfl,rfl⟩
 go_wp2_with fail;refine (HG.out _).mono ?_
 rintro e w6 ⟨rfl,rfl⟩
 go_wp2_with fail;refine (HM.out _ bW5).mono ?_
 rintro e w7 ⟨rfl,hT7⟩
 have nC:=jA5.wr hT7.2 (by omega)
 have jR7:=fU.wr hT7.2 (by have:=qU.out;omega)
 go_wp2_with fail;refine (HW.out _ hT7.1).mono ?_
 rintro e w8 ⟨rfl,rF⟩
 have jA8:=nC.wr rF.2 (by omega)
 have jR8:=jR7.wr rF.2 (by have:=qU.out;omega)
 have cA:=jA8.cell;have cR:=jR8.cell;have zR:=jR8.free;have lR:=jR8.lt;have hT:=((Turned.after bW5 hT7).2).trans rF.2;have hW8:=rF.1;clear hT7 rF jA5 fU nC jR7 bW5 HM HW HN HG;go_wp2_with fail;refine bodyPost_ret (v:=Aj #[CW b s tr,I Z t,I Z 0]) (by simp[results,results235,go_sem,cR]) rfl ⟨rfl,?_⟩
 have h1:a≠bR:=by have:=qU.out;omega
 have h2:wd≠bR:=by have:=qU.out;omega
 have h3:w.1.size<=bR:=qU.out.2.1;unfold FH;rw[<-HC4.out];refine⟨?_,?_⟩
 ·repeat (first|exact hW8|refine BB.BA ?_ h1 h2 _ _)
 ·repeat (first|exact hT|refine Wr.BA ?_ h3 _ _)
section
variable {w : Aa} {o : Own} {l : A7} {H : Hp} {vc vo vw vf : Ac} {f : Nat -> Nat}
def bi (h:AA w o l H vc vo vw vf f) (hk:H.ok) (p:Nat) :
  Ab ARt 172 #[Ag (some ⟨l.h,0,none⟩),I Z p] w fun e w'=>e=O (.bool (BK H.old p).isSome)/\Ae w.1.size w w':=by
 have HM:=Qa (xg h)
 cases hm:H.AD with
 | false =>
  rw[hm]at HM;rw[hk.still hm];clear h hm hk;go_enter func172,ntmps172;go_wp2_with fail;refine HM.out.mono ?_;rintro e w1 ⟨rfl,rfl⟩;go_wp2_with fail;go_ret;exact⟨rfl,qd _⟩
 | true =>
  rw[hm]at HM;have hbs:=fun (w':Aa) (hw:Ae w.1.size w w')=>WX (w:=w') (o:=o) (t:=(l.id,if H.use then 3 else 4)) (v:=vo) (H.old.map (·.1)) (by simpa [aa,ag] using h.ro.below hw) (XX hk) (by have:=MU hk;simpa using by omega) p p rfl
  have hd:decide (p ∈ H.old.map (·.1))=(BK H.old p).isSome:=by rw[Bool.eq_iff_iff,decide_eq_true_eq,JG]
  rw[hd]at hbs;generalize (((H.old.map (·.1)).map fun (p:Nat)=>(p:Int)).countP (·<(p:Int)):Nat)=q at hbs;generalize (BK H.old p).isSome=b at *;have c:=h.hb.cell;unfold Hp.cells at c;have HB:=Qa hbs;clear h hbs hd hm
  cases hu:H.use
  all_goals
   rw[hu]at c;first|rw[if_pos rfl]at c|rw[if_neg (by simp)]at c
   clear hu;go_enter func172,ntmps172;go_wp2_with fail;refine HM.out.mono ?_;rintro e w1 ⟨rfl,rfl⟩;go_upto_region 3 with fail;go_quiet ((go_at_call 124;exact Calls.quiet_of (HB.out _ (qx (qd w) _))));go_wp2_with fail;go_ret;exact⟨rfl,qx (qd w) _⟩
end
def qms {w:Aa}{o:Own}{tg t0:Tag}{h n sz top Bv:Nat}{ps:List Ac}{v0 x0 x1 x2 x3 x4 x5 vc vo:Ac}(hb:Al w h #[v0,I Z 1,I Z sz,I Z Bv,I Z (1+(sz:Int)),I Z sz,I Z top,vo,vc,I Z 1,x0,x1,x2,x3,x4,x5] 185)
  (hr:Row w o tg 3 1 vc n ps)(hn:n<16384)(iN:o h=t0)(ht:t0≠tg)(p t:Nat) :
  Ab ARt 230 #[Ag (some ⟨h,0,none⟩),(Ak #[I Z (1+(sz:Int)),I Z sz,I Z t]),I Z p] w fun e w'=>e=O (Aj #[]) /\
   ∃ bM o',Al w' h #[v0,I Z 1,I Z sz,I Z Bv,I Z (1+(sz:Int)),I Z sz,I Z t,vo,bM,I Z 1,x0,x1,x2,x3,x4,x5] 185/\Row w' o' tg 3 1 bM (n+1) (ps++[nv p])/\Stp (fun t=>t=t0\/t=tg) o o' w w':=by
 have hu64:=underlying25;have c:=hb.cell;have z:=hb.free;have s:=hb.lt;have hne:w.1.size≠h:=by omega
 go_enter func230,ntmps230;go_upto_region 1 with fail;have hc9:w.cell? ⟨h,9,none⟩=some (I Z 1):=by rw[c];rfl
 obtain⟨W,hW⟩:=Ja0 (((((w.setCell ⟨h,4,none⟩ (I Z (1+(sz:Int)))).setCell ⟨h,5,none⟩ (I Z sz)).setCell ⟨h,6,none⟩ (I Z t)).alloc (ARu #[I Z (1+(sz:Int)),I Z sz,I Z t] 181)).drew);have jW:=Al.alloc (((hb.set 4 (I Z (1+(sz:Int)))).set 5 (I Z sz)).set 6 (I Z t)) (ARu #[I Z (1+(sz:Int)),I Z sz,I Z t] 181);have jB:=Al.Ap ((((w.setCell ⟨h,4,none⟩ (I Z (1+(sz:Int)))).setCell ⟨h,5,none⟩ (I Z sz)).setCell ⟨h,6,none⟩ (I Z t))) #[I Z (1+(sz:Int)),I Z sz,I Z t] #[I Z (1+(sz:Int)),I Z sz,I Z t] 181 w.1.size (by simp) rfl
 have jW:=qj jW;have jB:=qj jB;have k9:=jW.cell 9;have b0:=jB.cell 0;have b1:=jB.cell 1;have b2:=jB.cell 2;simp at k9 b0 b1 b2;go_region_held3 (fun w'=>w'.cell? ⟨h,9,none⟩=some (I Z 1)/\w'.cell? ⟨w.1.size,0,none⟩=some (I Z (1+(sz:Int)))/\w'.cell? ⟨w.1.size,1,none⟩=some (I Z sz)/\w'.cell? ⟨w.1.size,2,none⟩=some (I Z t)) (go_keep) (fail)
 rw[<-hW];have hSt:Stp (fun t=>t=t0) o o w W:=by
  rw[hW];exact ((((((Stp.refl _ o w).setCell (by simpa using iN) _).setCell (by simpa using iN) _).setCell (by simpa using iN) _).alloc _).drew)
 have pM:Al W h ((((#[v0,I Z 1,I Z sz,I Z Bv,I Z (1+(sz:Int)),I Z sz,I Z top,vo,vc,I Z 1,x0,x1,x2,x3,x4,x5]:Array Ac).setIfInBounds 4 (I Z (1+(sz:Int)))).setIfInBounds 5 (I Z sz)).setIfInBounds 6 (I Z t)) 185:=by rw[hW];exact jW
 simp at pM;have hr2:=hr.Ao hSt (fun e=>ht e.symm)
 clear jW jB k9 b0 b1 b2 hW c z s hc9 hr hb hne;have c:=pM.cell;have z:=pM.free;have s:=pM.lt;go_upto_region 2 with fail;obtain⟨iI,hi,hsI,bZ,bT⟩:=jh;have k9:W.cell? ⟨h,9,none⟩=some (I Z 1):=by rw[c];rfl
 have k7:W.cell? ⟨h,8,none⟩=some vc:=by rw[c];rfl
 have dX:n+1<=maxLen:=by simp only[maxLen];omega
 have hmb:(n+1)*8<=140737488355328:=by omega
 have jn:=Al.new W.drew #[I Z p] 3;have rn:Row (W.drew.alloc (ARu #[I Z p] 3)) o tg 3 1 vc n ps:=hr2.below (qc (qf (qd W)) _);have hkeep:=fun (w1:Aa)(o1:Own)(hst:Stp (fun u=>u=tg) o o1 (W.drew.alloc (ARu #[I Z p] 3)) w1)=>(Al.alloc (qj pM) (ARu #[I Z p] 3)).Ao hst (by rw[iN];exact ht)
 have hfin:=fun (w1:Aa)(o1:Own)(pa:Option Addr)(cp:Nat)(hown:Row w1 o1 tg 3 1 (.slice pa (n+1) cp) (n+1) (ps++[I Z p]))(hst:Stp (fun u=>u=tg) o o1 (W.drew.alloc (ARu #[I Z p] 3)) w1) =>
  show ∃ bM o',Al (w1.setCell ⟨h,8,none⟩ (.slice pa (n+1) cp)) h #[v0,I Z 1,I Z sz,I Z Bv,I Z (1+(sz:Int)),I Z sz,I Z t,vo,bM,I Z 1,x0,x1,x2,x3,x4,x5] 185/\Row (w1.setCell ⟨h,8,none⟩ (.slice pa (n+1) cp)) o' tg 3 1 bM (n+1) (ps++[nv p])/\Stp (fun t=>t=t0\/t=tg) o o' w (w1.setCell ⟨h,8,none⟩ (.slice pa (n+1) cp)) from by
   have hlt:h<(W.drew.alloc (ARu #[I Z p] 3)).1.size:=(Al.alloc (qj pM) _).lt;have ho1:o1 h=t0:=by rw[hst.tags h hlt];exact iN
   have k1:Stp (fun t=>t=t0) o1 o1 w1 (w1.setCell ⟨h,8,none⟩ (.slice pa (n+1) cp)):=(Stp.refl _ o1 w1).setCell (by simpa using ho1) _
   refine⟨_,o1,(hkeep _ _ hst).set 8 _,hown.Ao k1 (fun e=>ht e.symm),?_⟩;exact ((hSt.mono fun _ e=>Or.inl e).trans (Stp.of_below (qc (qf (qd W)) _))).trans ((hst.mono fun _ e=>Or.inr e).trans (k1.mono fun _ e=>Or.inl e))
 go_region_law ((refine qv _ (by rfl) _ _ _ (by rfl) 3 iI _ 1 8 hu64 hi bT hsI bZ (by rfl) (by decide) o tg vc n ps (by rfl) rn ⟨W.1.size,0,none⟩ 1 1 [I Z p] (by rfl) (by rfl) (zj jn) ka dX hmb ?_;intro v' w1 hown hst;obtain⟨pa,cp,rfl⟩:=hown.AS;have jX:=hkeep _ _ hst;have cX:=jX.cell;have zX:=jX.free;have sX:=jX.lt))
 all_goals
  go_wp2_with fail;go_end0;exact⟨rfl,hfin _ _ _ _ hown hst⟩
section
variable {w : Aa} {o : Own} {l : A7} {H : Hp} {vc vo vw vf : Ac} {f : Nat -> Nat}
def A7.tc (l:A7)(u:Bool):Tag:=(l.id,if u then 4 else 3)
def A7.to' (l:A7)(u:Bool):Tag:=(l.id,if u then 3 else 4)
def qnh (hb:Al w l.h (H.cells l.a vc vo vw vf) 185){n:Nat}{ps:List Ac}(hr:Row w o (l.tc H.use) 3 1 vc n ps)(hn:n<16384)(iN:o l.h=(l.id,0))(p t:Nat) :
  Ab ARt 230 #[Ag (some ⟨l.h,0,none⟩),CW (H.base H.use) H.size t,I Z p] w fun e w'=>e=O (Aj #[]) /\
   ∃ bM o',Al w' l.h ({ H with top:=t }.cells l.a bM vo vw vf) 185/\Row w' o' (l.tc H.use) 3 1 bM (n+1) (ps++[nv p])/\Stp (fun t=>t=(l.id,0)\/t=l.tc H.use) o o' w w':=by
 rcases (show H.use=false\/H.use=true by cases H.use<;>simp) with hu|hu
 ·have htc:l.tc H.use=l.tc false:=by rw[hu]
  have hba:H.base H.use=H.base false:=by rw[hu]
  rw[htc]at hr ⊢;rw[hba];have e1:∀ (t:Nat)(v1:Ac),{ H with top:=t }.cells l.a v1 vo vw vf=#[Ag (some ⟨l.a,0,none⟩),I Z 1,I Z H.size,I Z t,I Z (1+(H.size:Int)),I Z H.size,I Z H.Bv,v1,vo,I Z 0,.bool H.AD,I Z H.Bh,I Z H.scan,I Z H.Aw,vw,vf]:=fun t v1=>by
   unfold Hp.cells;simp only[hu,Bool.false_eq_true,if_false]
  have hb':=hb;rw[show H.cells l.a vc vo vw vf={ H with top:=H.top }.cells l.a vc vo vw vf from rfl,e1]at hb';refine (qm7 hb' hr hn iN (by unfold A7.tc;simp) p t).mono ?_
  rintro e w' ⟨rfl,bM,o',h1,h2,h3⟩;exact⟨rfl,bM,o',by rw[e1];exact h1,h2,h3⟩
 ·have htc:l.tc H.use=l.tc true:=by rw[hu]
  have hba:H.base H.use=H.base true:=by rw[hu]
  rw[htc]at hr ⊢;rw[hba];have e1:∀ (t:Nat)(v1:Ac),{ H with top:=t }.cells l.a v1 vo vw vf=#[Ag (some ⟨l.a,0,none⟩),I Z 1,I Z H.size,I Z H.Bv,I Z (1+(H.size:Int)),I Z H.size,I Z t,vo,v1,I Z 1,.bool H.AD,I Z H.Bh,I Z H.scan,I Z H.Aw,vw,vf]:=fun t v1=>by
   unfold Hp.cells;simp only[hu,if_true]
  have hb':=hb;rw[show H.cells l.a vc vo vw vf={ H with top:=H.top }.cells l.a vc vo vw vf from rfl,e1]at hb';have e2:CW (H.base true) H.size t=Ak #[I Z (1+(H.size:Int)),I Z H.size,I Z t]:=by
   show Value.agg #[I Z ((1+H.size:Nat):Int),_,_]=_;rw[show ((1+H.size:Nat):Int)=1+(H.size:Int) from by omega]
  rw[e2];refine (qms hb' hr hn iN (by unfold A7.tc;simp) p t).mono ?_
  rintro e w' ⟨rfl,bM,o',h1,h2,h3⟩;exact⟨rfl,bM,o',by rw[e1];exact h1,h2,h3⟩
def qpp {a wd L p q b s t:Nat}(h:BB w a wd L f)(hp:p<L)(h1:1<=q)(h2:q<=131072)(hf:f p=4*q+2) :
  Ab ARt 235 #[Ag (some ⟨a,0,none⟩),I Z p,CW b s t] w fun e w'=>e=O (Aj #[CW b s t,I Z q,I Z 0])/\Ae w.1.size w w':=by
 have HA:=Qa (fun (W:Aa)(hb:Ae w.1.size w W)=>qjg (h.below hb) hp q h1 h2 hf)
 clear h hp h1 h2 hf;obtain⟨W,hW⟩:=Ja0 ((w.alloc (ARu #[I Z b,I Z s,I Z t] 181)).alloc (ARu #[I Z 0,I Z 0,I Z 0] 181));have bW:Ae w.1.size w W:=by rw[hW];exact qc (qc (qd _) _) _
 have jS:Al W w.1.size #[I Z b,I Z s,I Z t] 181:=by rw[hW];exact (Al.new _ _ _).alloc _
 have jR:Al W (w.1.size+1) #[I Z 0,I Z 0,I Z 0] 181:=by rw[hW];exact Al.Ap _ _ _ _ _ (by simp) rfl
 go_enter func235,ntmps235;go_wp2_with fail;rw[<-hW];clear hW;refine (HA.out _ bW).mono ?_
 rintro e w1 ⟨rfl,rfl⟩
 have cS:=jS.cell;have cR:=jR.cell;have zR:=jR.free;have lR:=jR.lt;go_wp2_with fail;refine bodyPost_ret (v:=Aj #[CW b s t,I Z q,I Z 0]) (by simp[results,results235,go_sem,cR]) rfl ⟨rfl,?_⟩
 repeat (first|exact bW|refine zc ?_ (by show w.1.size<=w.1.size+1;omega) _)
end
end
section
open Hp
def VO (l m:List (Nat×Ob))(p:Nat):lk (l++m) p=(lk l p).or (lk m p):=by
 induction l with
 | nil=>simp[lk]
 | cons x l ih =>
  obtain⟨q,o⟩:=x;show (if q=p then some o else lk (l++m) p)=aN (if q=p then some o else lk l p) (lk m p);split
  ·simp
  ·exact ih
def ft {l:List (Nat×Ob)}{p:Nat}{ob:Ob}(h:lk l p=some ob)(m:List (Nat×Ob)):lk (l++m) p=some ob:=by rw[VO,h];rfl
def XT {l:List (Nat×Ob)}{b t p:Nat}(hl:wz b l t)(hk:Kl l)(hp:t<=p):lk l p=none:=by
 cases h:lk l p with
 | none=>rfl
 | some ob =>
  have h1:=kf _ _ _ hl _ (kj h);have h2:=kg _ (Ob.AU (hk _ (kj h))).2;simp only at h1 h2;omega
def JE {H:Hp}(hk:H.ok)(ob:Ob):lk (H.cur++[(H.top,ob)]) H.top=some ob:=by
 rw[VO,XT hk.cl hk.ck (Qk _)];simp[lk]
def qjh:∀ (l m:List (Nat×Ob))(b t:Nat),wz b (l++m) t->∃ s,wz b l s/\wz s m t
 | [],m,b,t,h=>⟨b,rfl,h⟩
 | (p,o)::l,m,b,t,h=>by
  obtain⟨s,h1,h2⟩:=qjh l m _ t h.2;exact⟨s,⟨h.1,h1⟩,h2⟩
def VT (H:Hp):Prop:=∃ a b,H.cur=a++b/\wz (H.base H.use) a H.scan
structure Hp.wf (H:Hp):Prop where
 ok:H.ok
 wl:H.Az.length<=H.Aw
 fl:H.final.length<=H.Aw
 sc:H.AD=true->VT H
 gn:∀ x ∈ H.old,∀ q,x.2.2=some q->∃ ob,lk H.cur q=some ob/\ob.AQ=x.2.1.AQ
 wk:∀ p ∈ H.Az,(∃ ob,lk H.cur p=some ob/\1<=ob.AQ.p)\/∃ z,BK H.old p=some z/\1<=z.1.AQ.p
def TF {H:Hp}{p q:Nat}{ob:Ob}(h:lk H.cur q=some ob):lk (H.AB p).1.cur q=some ob:=by
 unfold Hp.AB;split
 ·exact h
 ·exact h
 ·exact ft h _
def gg {H:Hp}(p:Nat):(H.AB p).1.size=H.size/\(H.AB p).1.use=H.use/\(H.AB p).1.AD=H.AD/\(H.AB p).1.scan=H.scan/\(H.AB p).1.Aw=H.Aw/\(H.AB p).1.Az=H.Az/\(H.AB p).1.final=H.final/\(H.AB p).1.Bv=H.Bv:=by
 unfold Hp.AB;split<;>exact⟨rfl,rfl,rfl,rfl,rfl,rfl,rfl,rfl⟩
def qkb {l:List (Nat×Ob×Option Nat)}{p q:Nat}{x:Nat×Ob×Option Nat}(h:x ∈ zz l p q):x ∈ l\/(x.1=p/\x.2.2=some q/\∃ y ∈ l,y.1=p/\y.2.1=x.2.1):=by
 unfold zz at h;obtain⟨z,hz,rfl⟩:=Qt.1 h;split
 ·rename_i e;exact .inr ⟨e,rfl,z,hz,e,rfl⟩
 ·exact .inl hz
def JH {H:Hp}(hk:H.ok){x y:Nat×Ob×Option Nat}(hx:x ∈ H.old)(hy:y ∈ H.old)(e:x.1=y.1):x.2.1=y.2.1:=by
 have h1:(x.1,x.2.1) ∈ H.BP:=Qt.2 ⟨x,hx,rfl⟩;have h2:(x.1,y.2.1) ∈ H.BP:=Qt.2 ⟨y,hy,by rw[e]⟩
 exact Sy hk.ol hk.ok h1 h2
def Hp.EE {H:Hp}(h:H.wf)(p:Nat):(H.AB p).1.wf:=by
 obtain⟨s1,s2,s3,s4,s5,s6,s7,s8⟩:=gg (H:=H) p;refine⟨Hp.DL h.ok p,by rw[s5,s6];exact h.wl,by rw[s5,s7];exact h.fl,fun hm=>?_,?_,fun q hq=>?_⟩
 ·obtain⟨a,b,e,hl⟩:=h.sc (by rw[<-s3];exact hm)
  unfold VT Hp.base;rw[s1,s2,s4];unfold Hp.AB;split
  ·exact⟨a,b,e,hl⟩
  ·exact⟨a,b,e,hl⟩
  ·exact⟨a,b++[_],by show H.cur++_=_;rw[e,ai],hl⟩
 ·cases hp:BK H.old p with
  | none=>rw[H.CH hp];exact h.gn
  | some z =>
   obtain⟨ob,g⟩:=z
   cases g with
   | some q=>rw[H.CG hp];exact h.gn
   | none =>
    rw[H.Cc hp];intro x hx q hq;rcases qkb (show x ∈ zz H.old p H.top from hx) with hx|⟨e1,e2,y,hy,e3,e4⟩
    ·obtain⟨dK,h1,h2⟩:=h.gn x hx q hq
     exact⟨dK,ft h1 _,h2⟩
    ·rw[e2]at hq
     injection hq with hq;subst hq;refine⟨ob,JE h.ok ob,?_⟩;have h5:=JH h.ok (ku hp) hy (by rw[e3])
     simp only at h5;rw[<-e4,<-h5]
 ·rw[s6]at hq
  rcases h.wk q hq with ⟨ob,h1,h2⟩|⟨z,h1,h2⟩
  ·exact .inl ⟨ob,TF h1,h2⟩
  ·refine .inr ?_
   unfold Hp.AB;split
   ·exact⟨z,h1,h2⟩
   ·exact⟨z,h1,h2⟩
   ·show ∃ z,BK (zz H.old p H.top) q=some z/\_
    rw[Tw];split
    ·rename_i e;subst e;rw[h1];exact⟨_,rfl,h2⟩
    ·exact⟨z,h1,h2⟩
def Hp.Ax (H:Hp):List Nat->Hp×List Nat
 | []=>(H,[])
 | p::l=>(((H.AB p).1.Ax l).1,(H.AB p).2::((H.AB p).1.Ax l).2)
def Hp.BU:∀ (l:List Nat){H:Hp},H.wf->(H.Ax l).1.wf
 | [],_,h=>h
 | p::l,_,h=>Hp.BU l (Hp.EE h p)
def wa:∀ (l:List Nat)(H:Hp),(H.Ax l).2.length=l.length
 | [],_=>rfl
 | _::l,H=>by show (_::_).length=_;simp[wa l]
def Up:∀ (l:List Nat){H:Hp}{q:Nat}{ob:Ob},lk H.cur q=some ob->lk (H.Ax l).1.cur q=some ob
 | [],_,_,_,h=>h
 | _::l,_,_,_,h=>Up l (TF h)
def xl:∀ (l:List Nat)(H:Hp),(H.Ax l).1.size=H.size/\(H.Ax l).1.use=H.use/\(H.Ax l).1.AD=H.AD/\(H.Ax l).1.scan=H.scan/\(H.Ax l).1.Aw=H.Aw/\(H.Ax l).1.Az=H.Az/\(H.Ax l).1.final=H.final/\(H.Ax l).1.Bv=H.Bv
 | [],_=>⟨rfl,rfl,rfl,rfl,rfl,rfl,rfl,rfl⟩
 | p::l,H=>by
  obtain⟨a1,a2,a3,a4,a5,a6,a7,a8⟩:=xl l (H.AB p).1;obtain⟨s1,s2,s3,s4,s5,s6,s7,s8⟩:=gg (H:=H) p;exact⟨a1.trans s1,a2.trans s2,a3.trans s3,a4.trans s4,a5.trans s5,a6.trans s6,a7.trans s7,a8.trans s8⟩
def VR {H:Hp}(hk:H.ok):H.top<=32769:=by
 have:=hk.room;have:=hk.sz;have:=H.BJ H.use;omega
def TJ {H:Hp}(hk:H.ok){p:Nat}(hp:p<=131072):(H.AB p).2<=131072:=by
 cases h:BK H.old p with
 | none=>rw[H.CH h];exact hp
 | some z =>
  obtain⟨ob,g⟩:=z
  cases g with
  | some q=>rw[H.CG h];exact (hk.gone _ (ku h) q rfl).2
  | none=>rw[H.Cc h];have:=VR hk;show H.top<=_;omega
def Ul:∀ (l:List Nat){H:Hp},H.ok->(∀ p ∈ l,p<=131072)->∀ q ∈ (H.Ax l).2,q<=131072
 | [],_,_,_,q,hq=>by cases hq
 | p::l,H,hk,hp,q,hq=>by
  rcases List.mem_cons.1 (show q ∈ (H.AB p).2::_ from hq) with rfl|hq
  ·exact TJ hk (hp p (.head _))
  ·exact Ul l (Hp.DL hk p) (fun x hx=>hp x (.tail _ hx)) q hq
def SO {H:Hp}(h:H.wf){p:Nat}{ob dK:Ob}(hp:lk H.cur p=some ob)(ho:dK.ok)(hs:dK.AQ=ob.AQ):Hp.wf { H with cur:=up H.cur p dK }:=by
 have hsz:dK.size=ob.size:=by unfold Ob.size;rw[hs]
 have hup:∀ {q:Nat}{x:Ob},lk H.cur q=some x->∃ y,lk (up H.cur p dK) q=some y/\y.AQ=x.AQ:=by
  intro q x hq;rw[JF];split
  ·rename_i e;subst e;rw[hp]at hq ⊢;injection hq with hq;subst hq;exact⟨_,rfl,hs⟩
  ·exact⟨x,hq,rfl⟩
 refine⟨Hp.CR h.ok hp ho hsz,h.wl,h.fl,fun hm=>?_,fun x hx q hq=>?_,fun q hq=>?_⟩
 ·obtain⟨a,b,e,hl⟩:=h.sc hm
  refine⟨up a p dK,up b p dK,?_,?_⟩
  ·show up H.cur p dK=_
   rw[e];unfold up;simp
  ·refine TM _ _ _ _ _ (fun y hy=>?_) hl
   rw[hsz,Sy h.ok.cl h.ok.ck (kj hp) (show (p,y) ∈ H.cur by rw[e];exact Qs.2 (.inl hy))]
 ·obtain⟨y,h1,h2⟩:=h.gn x hx q hq
  obtain⟨z,h3,h4⟩:=hup h1;exact⟨z,h3,h4.trans h2⟩
 ·rcases h.wk q hq with ⟨y,h1,h2⟩|h1
  ·obtain⟨z,h3,h4⟩:=hup h1
   exact .inl ⟨z,h3,by rw[h4];exact h2⟩
  ·exact .inr h1
def Hp.wf.EZ {H:Hp}(h:H.wf){p:Nat}{ob:Ob}(hp:lk H.cur p=some ob):ob.ok:=h.ok.ck _ (kj hp)
def Hp.Bi (H:Hp)(p i:Nat):Hp×Nat×Nat:=
 match lk H.cur p with
 | none=>(H,0,70)
 | some ob=>match ob.Bc[i]? with
  | none=>(H,0,71)
  | some x=>if (BK H.old x).isSome then ({ (H.AB x).1 with cur:=up (H.AB x).1.cur p (ob.Bm i (H.AB x).2) },(H.AB x).2,0) else (H,x,0)
def Hp.Br (H:Hp)(p i q:Nat):Hp×Nat:=
 match lk H.cur p with
 | none=>(H,70)
 | some ob=>if q≠0/\lk H.cur q=none then (H,70) else if ob.AQ.p<=i then (H,71) else ({ H with cur:=up H.cur p (ob.Bm i q) },0)
def Hp.BO (H:Hp)(p i:Nat)(n:Int):Hp×Nat:=
 match lk H.cur p with
 | none=>(H,70)
 | some ob=>if ob.AQ.d<=i then (H,71) else ({ H with cur:=up H.cur p (ob.Cp i n) },0)
def Hp.A1 (H:Hp)(p:Nat)(b:Bool):Hp×Nat:=
 match lk H.cur p with
 | none=>(H,70)
 | some ob=>({ H with cur:=up H.cur p (ob.Co b) },0)
def Hp.AJ (H:Hp)(p v:Nat):Hp×Nat:=
 match lk H.cur p with
 | none=>(H,70)
 | some ob=>({ H with cur:=up H.cur p (ob.Ce v) },0)
def QV {H:Hp}(hk:H.ok){q:Nat}(h:¬(q≠0/\lk H.cur q=none)):q<=131072:=by
 by_cases h0:q=0
 ·omega
 ·cases hq:lk H.cur q with
  | none=>exact absurd ⟨h0,hq⟩ h
  | some ob =>
   have h1:=kf _ _ _ hk.cl _ (kj hq);have h2:=VR hk;simp only at h1;omega
def Hp.left (H:Hp):Nat:=H.base H.use+H.size-H.top-H.Bh
def Hp.roomy (H:Hp)(s:BX):Bool:=decide (Bu (3+s.p+s.d)<=H.left)&&decide (H.Aw<1099511627776)
def Hp.AR (H:Hp)(s:BX):Hp×Nat×Nat:=if H.roomy s=true then (H.lay s,H.top,0) else (H,0,100)
def Hp.QH {H:Hp} (h:H.wf) {s:BX} (hs:s.ok) (hr:H.roomy s=true):(H.lay s).wf:=by
 unfold Hp.roomy Hp.left at hr;simp only[Bool.and_eq_true,decide_eq_true_eq]at hr;obtain⟨hr,gI⟩:=hr;have hn:=Ob.QP hs (H.Aw+1) (by omega)
 have hroom:=h.ok.room;have hrd:=kg (3+s.p+s.d) (by have:=hs.1;have:=hs.2.1;omega)
 have k:=h.ok;have Afl:∀ {q:Nat} {ob:Ob},lk H.cur q=some ob->lk (H.lay s).cur q=some ob:=fun hq=>ft hq _
 refine⟨⟨k.sz,cw _ _ _ _ k.cl,?_,k.ol,k.ok,k.ot,k.still,k.MY,?_,?_,k.Cd,k.gone⟩,?_,?_,fun hm=>?_,fun x hx q hq=>?_,fun p hp=>?_⟩
 ·intro x hx
  rcases Qs.1 (show x ∈ H.cur++[(H.top,Ob.new s (H.Aw+1))] from hx) with hx|hx
  ·exact k.ck x hx
  ·rw[Zc.1 hx];exact hn
 ·show H.top+Bu (3+s.p+s.d)+H.Bh<=H.base H.use+H.size
  omega
 ·show H.Aw+1<=_
  omega
 ·show aI (if s.Az then _ else _)<=H.Aw+1
  have:=h.wl;split<;>simp<;>omega
 ·show aI (if s.final then _ else _)<=H.Aw+1
  have:=h.fl;split<;>simp<;>omega
 ·obtain⟨a,b,e,hl⟩:=h.sc hm
  exact⟨a,b++[_],by show H.cur++_=_;rw[e,ai],hl⟩
 ·obtain⟨ob,h1,h2⟩:=h.gn x hx q hq
  exact⟨ob,Afl h1,h2⟩
 ·have hp':p ∈ (if s.Az then H.Az++[H.top] else H.Az):=hp
  have hold:p ∈ H.Az->(∃ ob,lk (H.lay s).cur p=some ob/\1<=ob.AQ.p)\/∃ z,BK (H.lay s).old p=some z/\1<=z.1.AQ.p:=fun hp=>by
   rcases h.wk p hp with ⟨ob,h1,h2⟩|h1
   ·exact .inl ⟨ob,Afl h1,h2⟩
   ·exact .inr h1
  split at hp'
  ·rename_i hw
   rcases Qs.1 hp' with hp'|hp'
   ·exact hold hp'
   ·rw[Zc.1 hp']
    exact .inl ⟨_,JE k _,by show 1<=s.p;have:=(hs.2.2 hw).1;omega⟩
  ·exact hold hp'
def Hp.flip (H:Hp):Hp:=
 { H with use:=!H.use,cur:=[],top:=H.base (!H.use),AD:=true,old:=H.cur.map fun x=>(x.1,x.2,none),Bv:=H.top,Bh:=H.top-H.base H.use,scan:=H.base (!H.use) }
def YR (H:Hp):H.flip.BP=H.cur:=by
 show ((H.cur.map fun x=>(x.1,x.2,(none:Option Nat))).map fun x=>(x.1,x.2.1))=H.cur
 rw[aa];exact aH _
def XG:∀ (l:List (Nat×Ob))(b t:Nat),wz b l t->dg (l.map fun x=>(x.1,x.2,none))=t-b
 | [],b,t,h=>by rw[wz]at h;simp[dg];omega
 | (p,o)::l,b,t,h=>by
  have ih:=XG l _ _ h.2;have:=bh _ _ _ h.2;show Bu o.size+dg (l.map _)=_;omega
def qnu (l:List (Nat×Ob))(p:Nat):BK (l.map fun x=>(x.1,x.2,none)) p=(lk l p).map fun o=>(o,none):=by
 induction l with
 | nil=>rfl
 | cons x l ih =>
  obtain⟨q,o⟩:=x;show BK ((q,o,none)::l.map fun x=>(x.1,x.2,none)) p=_;unfold BK lk;split
  ·rfl
  ·exact ih
def Hp.Fa {H:Hp}(h:H.wf)(hm:H.AD=false):H.flip.wf:=by
 have k:=h.ok;have hold:=k.still hm;have hroom:=k.room;have hb0:=H.BJ (!H.use);have hb1:=H.BJ H.use;have hsz:=k.sz;have htop:=ww k;refine⟨⟨k.sz,rfl,fun x hx=>(by cases hx),?_,?_,?_,fun hm'=>(by cases hm'),?_,?_,k.Cw,?_,?_⟩,h.wl,h.fl,fun _=>⟨[],[],rfl,rfl⟩,?_,?_⟩
 ·rw[YR];show wz (H.base (!(!H.use))) H.cur H.top;rw[Bool.not_not];exact k.cl
 ·rw[YR];exact k.ck
 ·show H.top<=H.base (!(!H.use))+H.size
  rw[Bool.not_not];omega
 ·show H.top-H.base H.use=dg (H.cur.map fun x=>(x.1,x.2,none))
  rw[XG _ _ _ k.cl]
 ·show H.base (!H.use)+(H.top-H.base H.use)<=H.base (!H.use)+H.size
  omega
 ·show H.base (!H.use)<=65536
  omega
 ·intro x hx q hq
  obtain⟨z,_,rfl⟩:=Qt.1 hx
  cases hq
 ·intro x hx q hq
  obtain⟨z,_,rfl⟩:=Qt.1 hx
  cases hq
 ·intro p hp
  rcases h.wk p hp with ⟨ob,h1,h2⟩|⟨z,h1,h2⟩
  ·refine .inr ⟨(ob,none),?_,h2⟩
   show BK (H.cur.map fun x=>(x.1,x.2,none)) p=_;rw[qnu,h1];rfl
  ·rw[hold]at h1;simp[BK]at h1
def Hp.Ba (H:Hp):Hp×Bool:=
 if H.AD=false\/H.scan=H.top then (H,false) else match lk H.cur H.scan with
 | none=>(H,false)
 | some ob=>if ob.AQ.Az then ({ H with scan:=H.scan+Bu ob.size },true) else
   ({ (H.Ax ob.Bc).1 with cur:=up (H.Ax ob.Bc).1.cur H.scan { ob with Bc:=(H.Ax ob.Bc).2 },scan:=H.scan+Bu ob.size },true)
def VA {H:Hp}(h:H.wf)(hm:H.AD=true)(hs:H.scan≠H.top):∃ ob,lk H.cur H.scan=some ob/\∃ a b,H.cur=a++(H.scan,ob)::b/\wz (H.base H.use) a H.scan:=by
 obtain⟨a,b,e,hl⟩:=h.sc hm;have hcl:=h.ok.cl;rw[e]at hcl;obtain⟨s,h1,h2⟩:=qjh a b _ _ hcl;have hu:s=H.scan:=by
  have:∀ (l:List (Nat×Ob))(b s t:Nat),wz b l s->wz b l t->s=t:=by
   intro l;induction l with
   | nil=>intro b s t h1 h2;rw[wz]at h1 h2;omega
   | cons x l ih=>intro b s t h1 h2;exact ih _ _ _ h1.2 h2.2
  exact this _ _ _ _ h1 hl
 subst hu
 cases b with
 | nil=>rw[wz]at h2;exact absurd h2.symm hs
 | cons x b =>
  obtain⟨q,ob⟩:=x;have hq:q=H.scan:=h2.1;subst hq;refine⟨ob,?_,a,b,e,hl⟩;have hk:Kl a:=fun z hz=>h.ok.ck z (by rw[e];exact Qs.2 (.inl hz))
  rw[e,VO,XT hl hk (Qk _)];simp[lk]
def RA (a b:List (Nat×Ob))(p:Nat)(o:Ob):up (a++b) p o=up a p o++up b p o:=by unfold up;simp
def VH {H:Hp}(h:H.wf){ob:Ob}(hp:lk H.cur H.scan=some ob):H.scan+Bu ob.size<=65536:=by
 have h1:=kf _ _ _ h.ok.cl _ (kj hp);have:=VR h.ok;simp only at h1;omega
def XB {a:List (Nat×Ob)}{b s:Nat}{o:Ob}(h:wz b a s):wz b (a++[(s,o)]) (s+Bu o.size):=cw a b s o h
def XF:∀ (l:List Nat)(H:Hp),∃ m,(H.Ax l).1.cur=H.cur++m
 | [],H=>⟨[],by simp[Hp.Ax]⟩
 | p::l,H=>by
  obtain⟨m,hm⟩:=XF l (H.AB p).1;show ∃ m,((H.AB p).1.Ax l).1.cur=_;rw[hm];unfold Hp.AB;split
  ·exact⟨m,rfl⟩
  ·exact⟨m,rfl⟩
  ·exact⟨_::m,by show (H.cur++_)++m=_;rw[ai];rfl⟩
def qfv {H:Hp}(h:H.wf){n:Nat}(hn:n<=65536)(hs:VT { H with scan:=n }):Hp.wf { H with scan:=n }:=
 ⟨⟨h.ok.sz,h.ok.cl,h.ok.ck,h.ok.ol,h.ok.ok,h.ok.ot,h.ok.still,h.ok.MY,h.ok.room,h.ok.Cw,hn,h.ok.gone⟩,h.wl,h.fl,fun _=>hs,h.gn,h.wk⟩
def Hp.KA {H:Hp}(h:H.wf):H.Ba.1.wf:=by
 unfold Hp.Ba;split
 ·exact h
 ·rename_i hc
  have hm:H.AD=true:=by cases hm:H.AD<;>simp[hm]at hc ⊢
  obtain⟨ob,hp,a,b,e,hl⟩:=VA h hm (fun e=>hc (.inr e));rw[hp];simp only;have ho:=h.EZ hp;split
  ·exact qfv h (VH h hp) ⟨a++[(H.scan,ob)],b,by show H.cur=_;rw[e];simp,XB hl⟩
  ·have hw:=Hp.BU ob.Bc h
   obtain⟨s1,s2,s3,s4,s5,s6,s7,s8⟩:=xl ob.Bc H;obtain⟨m,hmm⟩:=XF ob.Bc H;have hp':=Up ob.Bc hp;have ho':Ob.ok { ob with Bc:=(H.Ax ob.Bc).2 }:=⟨ho.AQ,by show (H.Ax ob.Bc).2.length=_;rw[wa];exact ho.lp,ho.ln,Ul _ h.ok ho.ptr,ho.num,ho.Cw,ho.sec⟩
   have h2:=SO hw (dK:={ ob with Bc:=(H.Ax ob.Bc).2 }) hp' ho' rfl;refine qfv (H:={ (H.Ax ob.Bc).1 with cur:=up (H.Ax ob.Bc).1.cur H.scan { ob with Bc:=(H.Ax ob.Bc).2 } }) h2 (VH h hp) ?_;refine⟨up (a++[(H.scan,ob)]) H.scan { ob with Bc:=(H.Ax ob.Bc).2 },up (b++m) H.scan { ob with Bc:=(H.Ax ob.Bc).2 },?_,?_⟩
   ·show up (H.Ax ob.Bc).1.cur H.scan _=_
    rw[hmm,e,<-RA];simp
   ·have hbase:Hp.base { (H.Ax ob.Bc).1 with cur:=up (H.Ax ob.Bc).1.cur H.scan { ob with Bc:=(H.Ax ob.Bc).2 },scan:=H.scan+Bu ob.size } (H.Ax ob.Bc).1.use=H.base H.use:=by unfold Hp.base;rw[s2];simp only[s1]
    refine hbase.symm▸?_;refine TM (a++[(H.scan,ob)]) _ _ _ _ (fun y hy=>?_) (XB hl);have hy':(H.scan,y) ∈ H.cur:=by
     rw[e];rcases Qs.1 hy with hy|hy
     ·exact Qs.2 (.inl hy)
     ·rw[Zc.1 hy];simp
    rw[Sy h.ok.cl h.ok.ck hy' (kj hp)];rfl
def Hp.nowAt (H:Hp)(p:Nat):Option Nat:=match BK H.old p with|none=>some p|some (_,g)=>g
def Hp.stay (H:Hp)(l:List Nat):List Nat:=l.filterMap H.nowAt
def Hp.BQ (H:Hp)(l:List Nat):List Nat:=l.filter fun p=>(H.nowAt p).isNone
def vy (H:Hp)(l:List Nat):(H.stay l).length+(H.BQ l).length=l.length:=by
 induction l with
 | nil=>rfl
 | cons p l ih =>
  unfold Hp.stay Hp.BQ at *;rw[List.filterMap_cons,List.filter_cons]
  cases H.nowAt p<;>simp<;>omega
def Wu {H:Hp}(h:H.wf){l:List Nat}(hl:l.length<=H.Aw):Hp.wf { H with final:=l }:=
 ⟨⟨h.ok.sz,h.ok.cl,h.ok.ck,h.ok.ol,h.ok.ok,h.ok.ot,h.ok.still,h.ok.MY,h.ok.room,h.ok.Cw,h.ok.Cd,h.ok.gone⟩,h.wl,hl,h.sc,h.gn,h.wk⟩
def Hp.A8 (H:Hp):Hp×List Nat:=
 if H.AD=false then (H,[]) else Hp.Ax { H with final:=H.stay H.final } (H.BQ H.final)
def Hp.Fz {H:Hp}(h:H.wf):H.A8.1.wf:=by
 unfold Hp.A8;split
 ·exact h
 ·refine Hp.BU _ (Wu h ?_)
  have:=vy H H.final;have:=h.fl;omega
def Hp.drop1 (H:Hp)(at':Nat):Hp×List Nat:=
 match lk H.cur at' with
 | none=>(H,[])
 | some ob=>match ob.Bc[0]? with
  | none=>(H,[])
  | some x=>match BK H.old x with
   | none=>(H,[])
   | some (_,some q)=>({ H with cur:=up H.cur at' (ob.Bm 0 q) },[])
   | some (_,none)=>({ H with cur:=up H.cur at' (ob.Bm 0 0) },[ob.Aw])
def Hp.AZ (H:Hp):List Nat->Hp×List Nat
 | []=>(H,[])
 | p::l=>(((H.drop1 p).1.AZ l).1,(H.drop1 p).2++((H.drop1 p).1.AZ l).2)
def Hp.rest (H:Hp):Hp:={ H with old:=[],Bv:=H.base (!H.use),AD:=false,Bh:=0 }
def Hp.settled (H:Hp):Hp:={ H with Az:=H.stay H.Az,final:=H.stay H.final }
def Hp.drop (H:Hp):Hp×List Nat×Bool:=
 if H.AD=false\/H.scan≠H.top then (H,[],false) else
  ((H.settled.AZ H.settled.Az).1.rest,(H.settled.AZ H.settled.Az).2,true)
def Hp.GU {H:Hp}(h:H.wf)(p:Nat):(H.drop1 p).1.wf:=by
 unfold Hp.drop1;split
 ·exact h
 ·rename_i ob hp
  split
  ·exact h
  ·split
   ·exact h
   ·rename_i x q hx
    exact SO h hp (Ob.Cm (h.EZ hp) 0 q (h.ok.gone _ (ku hx) q rfl).2) rfl
   ·exact SO h hp (Ob.Cm (h.EZ hp) 0 0 (by omega)) rfl
def Hp.Dh:∀ (l:List Nat){H:Hp},H.wf->(H.AZ l).1.wf
 | [],_,h=>h
 | p::l,_,h=>Hp.Dh l (Hp.GU h p)
def qjl (H:Hp)(p:Nat):(H.drop1 p).1.old=H.old/\(H.drop1 p).1.Az=H.Az/\(H.drop1 p).1.scan=H.scan/\(H.drop1 p).1.top=H.top/\(H.drop1 p).1.use=H.use/\(H.drop1 p).1.size=H.size/\(H.drop1 p).1.AD=H.AD:=by
 unfold Hp.drop1
 (repeat' split)<;>exact⟨rfl,rfl,rfl,rfl,rfl,rfl,rfl⟩
def ld:∀ (l:List Nat)(H:Hp),(H.AZ l).1.old=H.old/\(H.AZ l).1.Az=H.Az/\(H.AZ l).1.scan=H.scan/\(H.AZ l).1.top=H.top/\(H.AZ l).1.use=H.use/\(H.AZ l).1.size=H.size/\(H.AZ l).1.AD=H.AD
 | [],_=>⟨rfl,rfl,rfl,rfl,rfl,rfl,rfl⟩
 | p::l,H=>by
  obtain⟨a1,a2,a3,a4,a5,a6,a7⟩:=ld l (H.drop1 p).1;obtain⟨b1,b2,b3,b4,b5,b6,b7⟩:=qjl H p;exact⟨a1.trans b1,a2.trans b2,a3.trans b3,a4.trans b4,a5.trans b5,a6.trans b6,a7.trans b7⟩
def VE {H:Hp}(h:H.wf){p:Nat}(hp:p ∈ H.stay H.Az):∃ ob,lk H.cur p=some ob/\1<=ob.AQ.p:=by
 unfold Hp.stay at hp;obtain⟨q,hq,e⟩:=List.mem_filterMap.1 hp;unfold Hp.nowAt at e;split at e
 ·rename_i hn
  injection e with e;subst e;rcases h.wk q hq with h1|⟨z,h1,_⟩
  ·exact h1
  ·rw[hn]at h1;cases h1
 ·rename_i ob g hn
  subst e;obtain⟨dK,h1,h2⟩:=h.gn _ (ku hn) p rfl;refine⟨dK,h1,?_⟩;rw[h2];rcases h.wk q hq with ⟨x,h3,h4⟩|⟨z,h3,h4⟩
  ·have h5:=Hp.apart h.ok (kj h3) (ku hn)
   have h6:=Ob.AU (h.EZ h3);have h7:=Ob.AU (h.ok.ok _ (Qt.2 ⟨_,ku hn,rfl⟩));simp only at h5 h6 h7;omega
  ·rw[hn]at h3;injection h3 with h3;subst h3;exact h4
def Hp.DT {H:Hp}(h:H.wf):H.settled.wf:=by
 have h1:=vy H H.Az;have h2:=vy H H.final;have h3:=h.wl;have h4:=h.fl;exact⟨⟨h.ok.sz,h.ok.cl,h.ok.ck,h.ok.ol,h.ok.ok,h.ok.ot,h.ok.still,h.ok.MY,h.ok.room,h.ok.Cw,h.ok.Cd,h.ok.gone⟩,by show (H.stay H.Az).length<=H.Aw;omega,by show (H.stay H.final).length<=H.Aw;omega,h.sc,h.gn,fun p hp=>.inl (VE h hp)⟩
def Hp.M9 {H:Hp}(h:H.wf)(hw:∀ p ∈ H.Az,∃ ob,lk H.cur p=some ob/\1<=ob.AQ.p):H.rest.wf:=by
 have k:=h.ok;have hroom:=k.room;exact⟨⟨k.sz,k.cl,k.ck,rfl,fun x hx=>(by cases hx),Nat.le_add_right _ _,fun _=>rfl,rfl,by show H.top+0<=H.base H.use+H.size;omega,k.Cw,k.Cd,fun x hx=>(by cases hx)⟩,h.wl,h.fl,fun hm=>(by cases hm),fun x hx=>(by cases hx),fun p hp=>.inl (hw p hp)⟩
def qio {H:Hp}{p q:Nat}{ob dK:Ob}(hp:lk H.cur p=some ob)(hs:dK.AQ=ob.AQ)(hq:∃ x,lk H.cur q=some x/\1<=x.AQ.p):∃ x,lk (up H.cur p dK) q=some x/\1<=x.AQ.p:=by
 obtain⟨x,h1,h2⟩:=hq;rw[JF];split
 ·rename_i e;subst e;rw[hp]at h1 ⊢;injection h1 with h1;subst h1;exact⟨_,rfl,by rw[hs];exact h2⟩
 ·exact⟨x,h1,h2⟩
def qhq {H:Hp}(p:Nat){q:Nat}(hq:∃ x,lk H.cur q=some x/\1<=x.AQ.p):∃ x,lk (H.drop1 p).1.cur q=some x/\1<=x.AQ.p:=by
 unfold Hp.drop1;split
 ·exact hq
 ·rename_i ob hp
  split
  ·exact hq
  ·split
   ·exact hq
   ·exact qio hp rfl hq
   ·exact qio hp rfl hq
def dr:∀ (l:List Nat){H:Hp}{q:Nat},(∃ x,lk H.cur q=some x/\1<=x.AQ.p)->∃ x,lk (H.AZ l).1.cur q=some x/\1<=x.AQ.p
 | [],_,_,h=>h
 | p::l,_,_,h=>dr l (qhq p h)
def Hp.LY {H:Hp}(h:H.wf):H.drop.1.wf:=by
 unfold Hp.drop;split
 ·exact h
 ·have hs:=Hp.DT h
  refine Hp.M9 (Hp.Dh _ hs) fun p hp=>dr _ ?_;rw[(ld _ _).2.1]at hp;exact VE h hp
end
section
open Go.RowKit Hp
attribute [local go_sem ↓] Go.wp_at_zero Go.wp_at_succ
def Ob.AN (o:Ob):List Nat:=if o.AQ.Az then [] else o.Bc
def Ob.Cn (o:Ob)(l:List Nat):Ob:=if o.AQ.Az then o else { o with Bc:=l }
section
variable {w : Aa} {a wd L : Nat} {f : Nat -> Nat} {p : Nat} {ob : Ob}
def W8 (s:BX)(w:Aa):Ab ARt 243 #[kw s] w fun e w'=>e=O (I Z (if s.Az then 0 else (s.p:Int)))/\Ae w.1.size w w':=by
 obtain⟨sp,sd,wk,fn⟩:=s
 cases wk
 all_goals
  go_enter func243,ntmps243;go_wp2_with fail;go_ret;exact⟨rfl,qc (qd w) _⟩
def qk9 (h:BB w a wd L f)(ho:Bj f p ob)(hk:ob.ok)(hl:p+ob.size<=L) :
  Ab ARt 194 #[Ag (some ⟨a,0,none⟩),I Z p] w fun e w'=>∃ v,e=O (Aj #[v,I Z 0])/\Row w' (fo w.1.size) (1,0) 3 1 v ob.AN.length (ob.AN.map nv)/\Ae w.1.size w w':=by
 have HS:=Qa (kr h ho hk hl p rfl);have HT:=Qa (fun w=>W8 ob.AQ w)
 have HP:=Qa (fun w' (hb:Ae w.1.size w w')(i x:Nat)(hx:ob.Bc[i]?=some x)=>UT (h.below hb) ho hk hl i x hx p i rfl rfl)
 have hlp:=hk.lp;have h8:=hk.AQ.1;obtain⟨iI,hi,hsI,bZ,bT⟩:=jh;have hu64:=underlying25;obtain⟨⟨sp,sd,wk,fn⟩,fr,se,sr,ps,ns⟩:=ob;simp only at HS HT HP hlp h8;clear h ho hk hl;obtain⟨n,hn⟩:∃ n:Nat,n=if wk then 0 else sp:=⟨_,rfl⟩
 have hst:(Ob.mk ⟨sp,sd,wk,fn⟩ fr se sr ps ns).AN=ps.take n:=by
  unfold Ob.AN
  cases wk
  ·simp only[Bool.false_eq_true,if_false]at hn ⊢
   rw[hn,<-hlp,List.take_length]
  ·simp only[if_true]at hn ⊢
   rw[hn];rfl
 have hsn:(if wk then (0:Int) else (sp:Int))=(n:Int):=by rw[hn];split<;>rfl
 have tZ:n<=sp:=by rw[hn];split<;>omega
 have hlen:(ps.take n).length=n:=by rw[Qp,hlp];omega
 rw[hst,hlen];simp only[hsn]at HT;have HT:=Qa (show ∀ w:Aa,Ab ARt 243 #[Ak #[I Z sp,I Z sd,.bool wk,.bool fn]] w fun e w'=>e=O (I Z n)/\Ae w.1.size w w' from HT.out)
 replace hlp:=Qa hlp;replace hlen:=Qa hlen;clear hst hsn hn;go_enter func194,ntmps194;go_wp2_with fail;refine HS.out.mono ?_
 rintro e w1 ⟨rfl,hb1⟩
 have jB:=Al.new w1 #[I Z sp,I Z sd,.bool wk,.bool fn] 93;have cB:=jB.cell;have hb2:=qc hb1 (ARu #[I Z sp,I Z sd,.bool wk,.bool fn] 93);go_wp2_with fail;refine (HT.out _).mono ?_
 rintro e w2 ⟨rfl,hb3⟩
 have hb4:=qe hb2 hb3;clear hb1 hb2 hb3 jB cB;have xH:(n:Int)<=8:=by omega
 go_wp2_with fail;go_loopw [9,25] (fun v ix wr=>∃ k:Nat,ix=I Z k/\k<=n/\Row wr (fo w.1.size) (1,0) 3 1 v k ((ps.take k).map nv)/\Ae w.1.size w wr) (fun _ ix _=>n-(intOf ix).toNat)
 case atStart=>exact⟨0,rfl,by omega,Row.nil _ _ _ _ _,hb4⟩
 case round =>
  obtain⟨k,rfl,hkn,hr,hbr⟩:=hrel;clear hb4;by_cases hlt:k<n
  ·have gT:(k:Int)<(n:Int):=by omega
   have hk8:(k:Int)<8:=by omega
   obtain⟨x,hx⟩:∃ x,ps[k]?=some x:=⟨_,Qb (by rw[hlp.out];omega)⟩
   have htk:=Qa (kh hx);have hk1:k+1<=maxLen/\(k+1)*8<=140737488355328:=by simp only[maxLen];omega
   obtain⟨hk1,hk2⟩:=hk1;have hk1:=Qa hk1;have hk2:=Qa hk2;have HPx:=Qa (HP.out _ hbr k x hx);have hr0:=Qa hr;obtain⟨pa,cp,rfl⟩:=hr.AS;clear hr hx;go_wp2_with fail;refine HPx.out.mono ?_;rintro e w3 ⟨rfl,hb3⟩;go_wp2_with (first|(at_builtin;refine qi _ rfl _ _ _ rfl 3 iI _ 1 8 hu64 hi bT hsI bZ rfl (by decide) (fo w.1.size) (1,0) _ _ _ rfl (Row.below (Row.below hr0.out hb3) (qc (qd w3) _)) ⟨w3.1.size,0,none⟩ 1 1 [I Z x] rfl rfl (zj (Al.new w3 _ _)) ka hk1.out hk2.out ?_;intro v' w8 hown hst)|fail)
   have hb5:=qc (qe hbr hb3) (ARu #[I Z x] 3);have mY:=yr hb5 hown;have gB:=xx hb5 hst;go_roundw
   case rel=>exact⟨k+1,by simp,by omega,by rw[htk.out,vx];exact mY,gB⟩
   case measure=>simp[intOf];omega
  ·obtain rfl:k=n:=by omega
   go_wp2_with fail;go_ret2;exact⟨_,rfl,hr,hbr⟩
end
end
section
open Go.RowKit Hp
def qoc (b:Nat)(w:Aa) :
  Ab ARt 102 #[Ag (some ⟨b,0,none⟩)] w fun e w'=>e=O (Ag (some ⟨w.1.size,0,none⟩))/\w'=w.alloc (ARu #[Ag (some ⟨b,0,none⟩),.nilFunc,Ah none 0 0,Ah none 0 0] 201):=by
 go_enter func102,ntmps102;go_wp2_with fail;go_ret;exact⟨rfl,rfl⟩
