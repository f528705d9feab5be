import Derived.Test.YtgndecmkhhdkjaaGreatKaf
import Derived.Deep.RegionLaw
import Derived.Laws.CopyOwn
import Derived.StillTailTactics
import Derived.Laws.OwnMore
import Derived.Conc.MuData
import Derived.Conc.MuLib
import Derived.KernelRfl
set_option linter.all false
set_option maxRecDepth 1000000
set_option maxHeartbeats 0
open Go renaming World->Aa,Calls->Ab,Value->Ac
open Go.RowKit renaming Below->Ae
open Go.Value renaming int->I,pointer->Ah,slice->Ai,tuple->Ak,agg->Al
open Go.IntKind renaming i64->Z
open Go.Ending renaming returned->O
open List renaming eq_nil_of_length_eq_zero->Ad,map_map->aa,append_assoc->aj,length_drop->ay,length->aC,map_congr_left->aD,getElem?_drop->aF,map_toArray->aG,take_length->aH,append_nil->aI,map_cons->aJ,map_nil->aK,map_id->aM,take->aO,map->aQ
open Go.Region renaming wanted->Aj
open Go.IntWalk renaming i64_in->af
open Function renaming comp_def->ag,comp_apply->aN
open Array renaming getElem?_toList->ai
open Option renaming isSome_iff_exists->aA,map_eq_some_iff->aL,or->aS
open Go.Builtin renaming append_->aB,firstCells->aP,lenOf->aR
open Go.Proofs.Tryz
open Go.Proofs.Tryz renaming prog->ANa
open Go.Obj renaming cells->ANb
namespace Go.Proofs.YtgndecmkhhdkjaaGreat
section
open Go.RowKit Hp
def Px (f:Nat->Nat)(i j n:Nat):Nat->Nat:=fun k=>if j<=k/\k<j+n then f (i+(k-j)) else f k
variable {w : Aa} {a wd L : Nat} {f : Nat -> Nat}
def Lt (h:BR w a wd L f)(i j n:Nat)(hi:i+n<=L)(hj:j+n<=L)(hn:0<n)(x y z:Int)(hx:x=i)(hy:y=j)(hz:z=n) :
  Ab ANa 222 #[Ah (some ⟨a,0,none⟩),x,y,z] w fun e w'=>e=O (I Z 0)/\Turned w w' a wd L (Px f i j n):=by
 subst hx hy hz;have hl:=h.le;have HS:=Qa (bw h i n i n rfl rfl hi);have HS2:=Qa (bw h j n j n rfl rfl hj);have c:w.cell? ⟨a,0,none⟩=some (Ai (some ⟨wd,0,none⟩) L L):=h.Cm.cell 0;obtain⟨cs,hb,hcs,hat⟩:=h.words;have hi2:(i:Int)+(n:Int)<=(L:Int):=by omega
 have hj2:(j:Int)+(n:Int)<=(L:Int):=by omega
 have H:=Qa h;have HB:=Qa hb;have HCS:=Qa hcs;have HAT:=Qa hat;clear h hb hcs hat;go_in;go_wp2_with fail;refine HS.o.mono ?_
 rintro e w1 ⟨rfl,rfl⟩
 go_wp2_with fail;refine HS2.o.mono ?_
 rintro e w1 ⟨rfl,rfl⟩
 go_upto_region 4 with fail;have a1:IntKind.i64.wrap ((j:Int)+(n:Int))=(j:Int)+(n:Int):=af _ (by omega)
 have a2:IntKind.i64.wrap ((i:Int)+(n:Int))=(i:Int)+(n:Int):=af _ (by omega)
 have a3:((j:Int)+(n:Int)).toNat=j+n:=by omega
 have a4:((i:Int)+(n:Int)).toNat=i+n:=by omega
 have b1:(0:Int)<=(j:Int)+(n:Int):=by omega
 have b2:(0:Int)<=(i:Int)+(n:Int):=by omega
 have b3:(j:Int)<=(j:Int)+(n:Int):=by omega
 have b4:(i:Int)<=(i:Int)+(n:Int):=by omega
 have b5:j<L:=by omega
 have b6:i<L:=by omega
 have b7:j≠L:=by omega
 have b8:i≠L:=by omega
 have b9:¬L=j:=by omega
 have b10:¬L=i:=by omega
 have b11:j<=L:=by omega
 have b12:i<=L:=by omega
 have b13:j<=j+n:=by omega
 have b14:i<=i+n:=by omega
 go_still_tail 18,(by kernel_rfl)
 have hsz:cs.toList.length=L:=by rw[Array.length_toList];exact HCS.o
 obtain⟨C,hC⟩:=Ja0 ((cs.toList.drop i).take n);have yY:C.length=n:=by rw[hC,Qp,ay,hsz];omega
 have rP:∀ k,k<n->C[k]?=some (.int .u64 (f (i+k):Int)):=fun k hk=>by
  rw[hC,Qz,if_pos hk,aF,ai,HAT.o (i+k) (by omega)]
 refine wpList_copy_own rfl (.tmp 31) (.tmp 40) _ _ rfl 203 (by kernel_rfl) (by kernel_rfl) wd j n (L-j) ⟨wd,i,none⟩ n (L-i) rfl rfl cs 203 HB.o C (by rw[yY];exact (Nat.min_self n).symm) ?_ (by rw[yY,HCS.o];omega) ?_ ?_
 ·intro k v hk
  have hkn:k<n:=by rw[<-yY];exact (Qc.1 hk).1
  rw[rP k hkn]at hk;injection hk with hk;rw[show (⟨wd,i,none⟩:Addr).add k=⟨wd,i+k,none⟩ from by unfold Addr.add;split<;>simp_all]
  show w.cell? ⟨wd,i+k,none⟩=some v;rw[<-hk];exact H.o.cell (by omega)
 ·intro v hv
  obtain⟨k,hk⟩:=List.mem_iff_getElem?.1 hv;have hkn:k<n:=by rw[<-yY];exact (Qc.1 hk).1
  rw[rP k hkn]at hk;injection hk with hk;rw[<-hk];rfl
 ·have HC:=Qa rP
  have pY:=Qa yY;clear a1 a2 a3 a4 b1 b2 b3 b4 b5 b6 b7 b8 b9 b10 b11 b12 b13 b14 hC rP yY;obtain⟨X,hX⟩:=Ja0 ((aO j cs.toList++(C++List.drop (j+C.length) cs.toList)).toArray);obtain⟨w9,uX⟩:=Ja0 (w.drew.setRow wd X);rw[show ({ heap:=w.heap,tape:=w.tape,drawn:=w.drawn+1,os:=w.os,output:=w.output }:Aa)=w.drew from rfl,<-hX,<-uX];have hT:Turned w w9 a wd L (Px f i j n):=by
   have h9:w9.heap[wd]?=some (.cells X 203 (0,0)):=by rw[uX];exact setRow_heap _ _ _ _ _ _ HB.o
   have hne:∀ k,k≠wd->w9.heap[k]?=w.heap[k]?:=fun k hk=>by rw[uX];exact setRow_other _ _ _ _ hk
   refine⟨⟨H.o.Cm.of_eq (hne a H.o.ne),H.o.ne,⟨X,h9,?_,fun k hk=>?_⟩,H.o.le⟩,⟨by rw[uX];rfl,by rw[uX];rfl,by rw[uX];rfl,by rw[uX];simp[World.setRow],fun k _ hk=>hne k hk⟩⟩
   ·rw[hX,List.size_toArray,Qd,Qd,Qp,ay,hsz,pY.o];omega
   ·rw[hX,List.getElem?_toArray,pY.o]
    unfold Px;have ht:(aO j cs.toList).length=j:=by rw[Qp,hsz];omega
    by_cases h1:k<j
    ·rw[if_neg (by omega),Qm (by omega),Qz,if_pos h1,ai,HAT.o k hk]
    ·rw[Ql (by omega),ht]
     by_cases h2:k<j+n
     ·rw[if_pos (by omega),Qm (by rw[pY.o];omega),HC.o (k-j) (by omega)]
     ·rw[if_neg (by omega),Ql (by rw[pY.o];omega),pY.o,aF,ai,show j+n+(k-j-n)=k from by omega,HAT.o k hk]
  clear hX uX hsz;rw[pY.o];go_wp2_with fail;go_ret;exact⟨rfl,hT⟩
def PK (q:Nat)(h:4*q+2<18446744073709551616):bits BinOp.or IntKind.u64 ((4*q:Nat):Int) 2=((4*q+2:Nat):Int):=by
 rw[show (2:Int)=((2:Nat):Int) from rfl,QM _ 2 (by omega) (by omega),Nat.or_comm,show 4*q=2 ^ 2*q from rfl,RP 2 q 2 (by omega),Nat.add_comm]
def UF (q:Nat)(h1:1<=q)(h2:q<=131072)(z:Int)(hz:z=q)(w:Aa):Ab ANa 221 #[z] w fun e w'=>e=O (Ak #[.int .u64 ((4*q+2:Nat):Int),true])/\w=w':=by
 subst hz;have ho:=PK q (by omega)
 have e1:(q:Int)*4=((4*q:Nat):Int):=by omega
 rw[<-e1]at ho;generalize ((4*q+2:Nat):Int)=r at *;clear e1;go_in;go_wp2_with fail;go_ret2;exact⟨rfl,rfl⟩
def YA (z:Int)(hz:z<1\/131072<z)(w:Aa):Ab ANa 221 #[z] w fun e w'=>e=O (Ak #[.int .u64 0,false])/\w=w':=by
 rcases hz with hz|hz
 all_goals
  go_in;go_wp2_with fail;go_ret2;exact⟨rfl,rfl⟩
def qmo (q:Nat)(h1:1<=q)(h2:q<=131072)(w:Aa):Ab ANa 217 #[.int .u64 ((4*q+2:Nat):Int)] w fun e w'=>e=O (Ak #[q,true])/\w=w':=by
 have HG:=Qa (fun w=>UF q h1 h2 q rfl w)
 have e1:((4*q+2:Nat):Int)/4=(q:Int):=by omega
 obtain⟨r,hr⟩:∃ r:Int,r=((4*q+2:Nat):Int):=⟨_,rfl⟩;rw[<-hr]at HG e1 ⊢;have r0:0<=r:=by omega
 have r1:r<=600000:=by omega
 clear hr;go_in;go_wp2_with fail;refine (HG.o _).mono ?_
 rintro e w1⟨rfl,rfl⟩
 go_wp2_with fail;go_ret2;exact⟨rfl,rfl⟩
def qo1 (v:Nat)(h:v%2=1)(hv:v<4096)(w:Aa):Ab ANa 217 #[.int .u64 v] w fun e w'=>e=O (Ak #[(),false])/\w=w':=by
 obtain⟨q,hq⟩:∃ q:Nat,(v:Int)/4=q:=⟨v/4,by omega⟩
 have hq2:q<=1024:=by omega
 by_cases h1:1<=q
 ·have HG:=Qa (fun w=>UF q h1 (by omega) q rfl w)
  have hne:((((4*q+2:Nat):Int)) != (v:Int))=true:=by rw[bne_iff_ne];omega
  generalize ((4*q+2:Nat):Int)=r at *;clear h;go_in;go_wp2_with fail;refine (HG.o _).mono ?_;rintro e w1⟨rfl,rfl⟩;go_wp2_with fail;go_ret2;exact⟨rfl,rfl⟩
 ·have hq0:(v:Int)/4=0:=by omega
  have HG:=Qa (fun w=>YA 0 (by omega) w)
  clear h hq;go_in;go_wp2_with fail;refine (HG.o _).mono ?_;rintro e w1⟨rfl,rfl⟩;go_wp2_with fail;go_ret2;exact⟨rfl,rfl⟩
variable {w : Aa} {a wd L : Nat} {f : Nat -> Nat} {p : Nat} {ob : Ob}
def Uq (h:BR w a wd L f)(hp:p<L)(q:Nat)(h1:1<=q)(h2:q<=131072)(hf:f p=4*q+2) :
  Ab ANa 172 #[Ah (some ⟨a,0,none⟩),p] w fun e w'=>e=O (Ak #[q,true])/\w=w':=by
 have HL:=Qa (wg h p p _ rfl hp hf);have HW:=Qa (fun w=>qmo q h1 h2 w)
 clear h hf;go_in;go_wp2_with fail;refine HL.o.mono ?_
 rintro e w1 ⟨rfl,rfl⟩
 go_wp2_with fail;refine (HW.o _).mono ?_
 rintro e w1 ⟨rfl,rfl⟩
 go_wp2_with fail;go_ret2;exact⟨rfl,rfl⟩
def Va (h:BR w a wd L f)(ho:BE f p ob)(hk:ob.ok)(hl:p+ob.size<=L) :
  Ab ANa 172 #[Ah (some ⟨a,0,none⟩),p] w fun e w'=>e=O (Ak #[(),false])/\w=w':=by
 have hs:=Ob.AP hk;have HL:=Qa (wg h p p _ rfl (by omega) ho.h0)
 have HW:=Qa (fun w=>qo1 (head ob.AL ob.B5) (Yc _ _) (UX _ _ hk.AL) w)
 generalize head ob.AL ob.B5=r at *;clear h ho hk hl hs;go_in;go_wp2_with fail;refine HL.o.mono ?_
 rintro e w1 ⟨rfl,rfl⟩
 go_wp2_with fail;refine (HW.o _).mono ?_
 rintro e w1 ⟨rfl,rfl⟩
 go_wp2_with fail;go_ret2;exact⟨rfl,rfl⟩
section
variable {w : Aa} {o : Own} {l : Bn} {H : Hp} {vc vo vw vf : Ac} {f : Nat -> Nat}
def TY (h:AN w o l H vc vo vw vf f)(hk:H.ok){p:Nat}{ob:Ob}(hp:lk H.cur p=some ob) :
  Ab ANa 57 #[Ah (some ⟨l.h,0,none⟩),p] w fun e w'=>e=O (Ak #[ka ob.AL,.bool ob.B5,()])/\Ae w w w':=by
 obtain⟨ha,ho,hl,_⟩:=h.at_ hk hp;have HH:=Qa (fun w' (hw:Ae w w w')=>kg (h.below hw) hk hp)
 have HN:=Qa (fun w' (hw:Ae w w w')=>jw (h.Cr.below hw) ha ho hl p rfl)
 have HC:=Qa (fun w' (hw:Ae w w w')=>(h.below hw).Bo)
 clear h hk hp ha ho hl;obtain⟨⟨sp,sd,wk,fn⟩,fr,se,sr,ps,ns⟩:=ob;simp only at HN ⊢;go_in;go_wp2_with fail;refine (HH.o _ (qc (qd w) _)).mono ?_
 rintro e w1 ⟨rfl,hb1⟩
 have jR:An w1 w #[(),(),false,false] 82:=(An.new w _ _).below hb1 (by simp)
 have hb:Ae w w w1:=qe (qc (qd w) _) hb1;clear hb1;have c1:=HC.o _ hb;go_wp2_with fail;refine (HN.o _ hb).mono ?_
 rintro e w2 ⟨rfl,hb2⟩
 have dR:=jR.below hb2 jR.lt;have hw2:=qe hb hb2;clear hb2 hb jR;have cR:=dR.cell;have zR:=dR.free;have sR:=dR.lt;go_wp2_with fail;refine bodyPost_ret (v:=Ak #[ka ⟨sp,sd,wk,fn⟩,fr,()]) (by simp[results,results57,go_sem,cR]) rfl ⟨rfl,?_⟩
 repeat (first|exact hw2|refine qo ?_ (Qk _) _)
def XG (h:AN w o l H vc vo vw vf f)(hk:H.ok){p:Nat}(hp:lk H.cur p=none) :
  Ab ANa 57 #[Ah (some ⟨l.h,0,none⟩),p] w fun e w'=>e=O (Ak #[ka ⟨0,0,false,false⟩,false,I Z 70])/\Ae w w w':=by
 have HH:=Qa (fun w' (hw:Ae w w w')=>yl (h.below hw) hk hp)
 clear h hk hp;go_in;go_wp2_with fail;refine (HH.o _ (qc (qd w) _)).mono ?_
 rintro e w1 ⟨rfl,hb1⟩
 have jR:An w1 w #[(),(),false,false] 82:=(An.new w _ _).below hb1 (by simp)
 have hb:Ae w w w1:=qe (qc (qd w) _) hb1;clear hb1;have cR:=jR.cell;have zR:=jR.free;have sR:=jR.lt;go_wp2_with fail;refine bodyPost_ret (v:=Ak #[ka ⟨0,0,false,false⟩,false,I Z 70]) (by simp[results,results57,go_sem,cR]) rfl ⟨rfl,?_⟩
 repeat (first|exact hb|refine qo ?_ (Qk _) _)
def Jt (h:AN w o l H vc vo vw vf f)(hk:H.ok){p:Nat}{ob:Ob}(hp:lk H.cur p=some ob)(i:Nat)(hx:ob.AL.p<=i) :
  Ab ANa 150 #[Ah (some ⟨l.h,0,none⟩),p,i] w fun e w'=>e=O (Ak #[(),I Z 71])/\Ae w w w':=by
 obtain⟨ha,ho,hl,_⟩:=h.at_ hk hp;have HH:=Qa (kg h hk hp);have HN:=Qa (fun w' (hw:Ae w w w')=>ME (h.Cr.below hw) ha ho hl i hx p i rfl rfl)
 have HC:=Qa (fun w' (hw:Ae w w w')=>(h.below hw).Bo)
 clear h hk hp ha ho hl hx;go_in;go_wp2_with fail;refine HH.o.mono ?_
 rintro e w1 ⟨rfl,hb1⟩
 have c1:=HC.o _ hb1;go_wp2_with fail;refine (HN.o _ hb1).mono ?_
 rintro e w2 ⟨rfl,hb2⟩
 go_wp2_with fail;go_ret2;exact⟨rfl,qe hb1 hb2⟩
def Me (h:AN w o l H vc vo vw vf f)(hk:H.ok){p:Nat}(hp:lk H.cur p=none)(i:Nat) :
  Ab ANa 150 #[Ah (some ⟨l.h,0,none⟩),p,i] w fun e w'=>e=O (Ak #[(),I Z 70])/\Ae w w w':=by
 have HH:=Qa (yl h hk hp);clear h hk hp;go_in;go_wp2_with fail;refine HH.o.mono ?_
 rintro e w1 ⟨rfl,hb1⟩
 go_wp2_with fail;go_ret2;exact⟨rfl,hb1⟩
def qni (h:AN w o l H vc vo vw vf f)(hk:H.ok){p:Nat}(hp:lk H.cur p=none)(i:Nat)(z:Int) :
  Ab ANa 148 #[Ah (some ⟨l.h,0,none⟩),p,i,z] w fun e w'=>e=O (I Z 70)/\Ae w w w':=by
 have HH:=Qa (yl h hk hp);clear h hk hp;go_in;go_wp2_with fail;refine HH.o.mono ?_
 rintro e w1 ⟨rfl,hb1⟩
 go_wp2_with fail;go_ret;exact⟨rfl,hb1⟩
def PO (hk:H.ok){q:Nat}(hq:q=0\/(lk H.cur q).isSome=true):q<=131072:=by
 rcases hq with rfl|hq
 ·omega
 ·obtain⟨ob,bY⟩:=aA.1 hq
  have h1:=zd _ _ _ hk.cl _ (zh bY);have h4:=hk.room;have h5:=H.Bt H.use;have h6:=hk.sz;simp only at h1;omega
def qli (h:AN w o l H vc vo vw vf f)(hk:H.ok){p:Nat}{ob:Ob}(hp:lk H.cur p=some ob)(i q:Nat)(hx:i<ob.AL.p)(hq:q=0\/(lk H.cur q).isSome=true) :
  Ab ANa 148 #[Ah (some ⟨l.h,0,none⟩),p,i,q] w fun e w'=>e=O (I Z 0)/\Hp.ok { H with cur:=up H.cur p (ob.Bh i q) }/\(∃ f',AN w' o l { H with cur:=up H.cur p (ob.Bh i q) } vc vo vw vf f')/\Wr l.wd w w':=by
 obtain⟨ha,ho,hl,_⟩:=h.at_ hk hp;have rY:=PO hk hq;have hok:=Hp.Dz hk hp (Ob.Cw ho i q rY) (rfl);have HH:=Qa (kg h hk hp);have HN:=Qa (fun w' (hw:Ae w w w')=>xu (h.Cr.below hw) ha ho hl i q hx rY p i q rfl rfl rfl)
 have HC:=Qa (fun w' (hw:Ae w w w')=>(h.below hw).Bo)
 have HE:=Qa (fun w1 w' (hw:Ae w w w1) hT=>(h.below hw).turn (w':=w') hk hp (k:=3+i) (by unfold Ob.size;omega) hT (by rw[show p+(3+i)=p+3+i from by omega];exact ha.Bh ho i q hx))
 rw[show p+(3+i)=p+3+i from by omega]at HE
 have HK:=Qa hok;rcases hq with rfl|hq
 ·clear h hk hp ha ho hl hok hx rY
  go_in;go_wp2_with fail;refine HH.o.mono ?_;rintro e w1 ⟨rfl,hb1⟩;have c1:=HC.o _ hb1;go_wp2_with fail;refine (HN.o _ hb1).mono ?_;rintro e w2 ⟨rfl,hT⟩;go_wp2_with fail;go_ret;exact⟨rfl,HK.o,⟨_,HE.o _ _ hb1 hT⟩,(Wr.of_below hb1).trans hT.2⟩
 ·obtain⟨oq,hoq⟩:=aA.1 hq
  have HQ:=Qa (fun w' (hw:Ae w w w')=>kg (h.below hw) hk hoq);by_cases h0:q=0
  ·subst h0
   have:=zd _ _ _ hk.cl _ (zh hoq);have:=H.Bt H.use;simp only at *;omega
  ·clear h hk hp ha ho hl hok hx rY hq hoq
   go_in;go_wp2_with fail;refine HH.o.mono ?_;rintro e w1 ⟨rfl,hb1⟩;go_wp2_with fail;refine (HQ.o _ hb1).mono ?_;rintro e w2 ⟨rfl,hb2⟩;have hb:=qe hb1 hb2;have c1:=HC.o _ hb;go_wp2_with fail;refine (HN.o _ hb).mono ?_;rintro e w3 ⟨rfl,hT⟩;go_wp2_with fail;go_ret;exact⟨rfl,HK.o,⟨_,HE.o _ _ hb hT⟩,(Wr.of_below hb).trans hT.2⟩
end
def zm:∃ i,ANa.info? 3=some i/\i.size=1/\i.bytes=8/\i.zero=some (I Z 0):=by
 have h:((ANa.info? 3).map fun i=>(i.zero,i.size,i.bytes))=some (some (I Z 0),1,8):=by kernel_rfl
 obtain⟨i,hi,he⟩:=aL.1 h;injection he with e1 e2;injection e2 with e2 e3;exact⟨i,hi,e2,e3,e1⟩
section
variable {P : Program} (w : Aa)
def qft {op:Oper}{a:Act}{K:Act->Aa->Prop}{Q:Exit->Act->Aa->Prop}(s x:Operand)(t:TypeId)
  (ho:op.op=.call { callee:=.builtin .append,args:=#[s,x],argTypes:=#[t,t] })
  (e:TypeId)(i:TypeInfo)(z:Ac)(size bytes:Nat)(ht:P.underlying t=some (.slice e))(hi:P.info? e=some i)(hz:i.zero=some z)
  (hsize:i.size=size)(hby:i.bytes=bytes)(hzs:z.cells.size=size)(hsz:0<size)
  (o:Own)(tg:Tag)(v:Ac)(n:Nat)(xs:List Ac)(hs:a.eval s=v)(hown:Row w o tg e size v n xs)
  (ad:Addr)(m c:Nat)(news:List Ac)(hx:a.eval x=Ai (some ad) m c)(hl:news.length=m*size)(hnews:∀ j u,news[j]?=some u->w.cell? (ad.add j)=some u)(h1:∀ u ∈ news,u.oneCell'=true)
  (h63:n+m<=maxLen)(hbytes:(n+m)*bytes<=140737488355328)
  (h:∀ v' w',Row w' (ext o w tg) tg e size v' (n+m) (xs++news)->Stp (fun u=>u=tg) o (ext o w tg) w w'->K (a.put op.dst v') w'):op.wp P a w K Q:=by
 obtain⟨v',w',hr,h2,h3⟩:=yb (P:=P) w t op.type e i z size bytes ht hi hz hsize hby hzs hsz o tg v n xs hown ad m c news hl hnews h1 h63 hbytes;unfold Oper.wp execOp;simp only[ho,resolve,invoke,builtin,Sem.run_bind,Sem.run_pure,Result.andThen_ok,aG,aJ,aK,hs,hx,hr];exact h v' w' h2 h3
def zt {ops:Array Oper}{op:Oper}{a:Act}{K:Act->Aa->Prop}{Q:Exit->Act->Aa->Prop}{E:Prop}(hgd:op.guard=none)(s x:Operand)(t:TypeId)
  (ho:op.op=.call { callee:=.builtin .append,args:=#[s,x],argTypes:=#[t,t] })
  (e:TypeId)(i:TypeInfo)(z:Ac)(size bytes:Nat)(ht:P.underlying t=some (.slice e))(hi:P.info? e=some i)(hz:i.zero=some z)
  (hsize:i.size=size)(hby:i.bytes=bytes)(hzs:z.cells.size=size)(hsz:0<size)
  (o:Own)(tg:Tag)(v:Ac)(n:Nat)(xs:List Ac)(hs:a.eval s=v)(hown:Row w o tg e size v n xs)
  (ad:Addr)(m c:Nat)(news:List Ac)(hx:a.eval x=Ai (some ad) m c)(hl:news.length=m*size)(hnews:∀ j u,news[j]?=some u->w.cell? (ad.add j)=some u)(h1:∀ u ∈ news,u.oneCell'=true)
  (h63:n+m<=maxLen)(hbytes:(n+m)*bytes<=140737488355328)
  (h:∀ v' w',Row w' (ext o w tg) tg e size v' (n+m) (xs++news)->Stp (fun u=>u=tg) o (ext o w tg) w w'->K (a.put op.dst v') w') :
  if Aj op (yielded ops a.tmps)=true then Oper.wp P op a w K Q else E:=by
 have hw:Aj op (yielded ops a.tmps)=true:=by simp[Aj,hgd]
 rw[if_pos hw];exact qft w s x t ho e i z size bytes ht hi hz hsize hby hzs hsz o tg v n xs hs hown ad m c news hx hl hnews h1 h63 hbytes h
end
def Row.A6 {w:Aa}{o:Own}{t:Tag}{e:TypeId}{size n:Nat}{v:Ac}{xs:List Ac}(h:Row w o t e size v n xs):∃ pa cp,v=.slice pa n cp:=by
 rcases h.own.2 with⟨rfl,rfl⟩|⟨g,cap,cur,rfl,_⟩
 ·exact⟨_,_,rfl⟩
 ·exact⟨_,_,rfl⟩
def qx {w:Aa}{B:Nat}{v:Ac}{t:TypeId}(h:An w B #[v] t):∀ j u,[v][j]?=some u->w.cell? ((⟨B,0,none⟩:Addr).add j)=some u:=fun j u hu=>by
 have hadd:(⟨B,0,none⟩:Addr).add j=⟨B,j,none⟩:=by unfold Addr.add;split<;>simp_all
 rw[hadd,h.cell];simpa using hu
def jh {z:Int}:∀ u ∈ [Value.int .i64 z],u.oneCell'=true:=by intro u hu;simp at hu;subst hu;rfl
def Ys {w:Aa}{o:Own}{tg t0:Tag}{h n sz top Ca:Nat}{ps:List Ac}{v0 x0 x1 x2 x3 x4 x5 vc vo:Ac}(hb:An w h #[v0,I Z 1,sz,top,I Z (1+(sz:Int)),sz,I Z Ca,vc,vo,(),x0,x1,x2,x3,x4,x5] 141)
  (hr:Row w o tg 3 1 vc n ps)(hn:n<16384)(gW:o h=t0)(ht:t0≠tg)(p t:Nat) :
  Ab ANa 187 #[Ah (some ⟨h,0,none⟩),DN 1 sz t,p] w fun e w'=>e=O (Ak #[]) /\
   ∃ bQ o',An w' h #[v0,I Z 1,sz,t,I Z (1+(sz:Int)),sz,I Z Ca,bQ,vo,(),x0,x1,x2,x3,x4,x5] 141/\Row w' o' tg 3 1 bQ (n+1) (ps++[nv p])/\Stp (fun t=>t=t0\/t=tg) o o' w w':=by
 have hu64:=underlying23;have c:=hb.cell;have z:=hb.free;have s:=hb.lt;have hne:w.1.size≠h:=by omega
 go_in;go_upto_region 1 with fail;have hc9:w.cell? ⟨h,9,none⟩=some (I Z 0):=by rw[c];rfl
 obtain⟨W,hW⟩:=Ja0 (((((w.setCell ⟨h,1,none⟩ (I Z 1)).setCell ⟨h,2,none⟩ sz).setCell ⟨h,3,none⟩ t).alloc (ANb #[I Z 1,sz,t] 135)).drew);have jW:=An.alloc (((hb.set 1 (I Z 1)).set 2 sz).set 3 t) (ANb #[I Z 1,sz,t] 135);have jB:=An.Ax ((((w.setCell ⟨h,1,none⟩ (I Z 1)).setCell ⟨h,2,none⟩ sz).setCell ⟨h,3,none⟩ t)) #[I Z 1,sz,t] #[I Z 1,sz,t] 135 w.1.size (by simp) rfl
 have jW:=qj jW;have jB:=qj jB;have k9:=jW.cell 9;have b0:=jB.cell 0;have b1:=jB.cell 1;have b2:=jB.cell 2;simp at k9 b0 b1 b2;go_region_held3 (fun w'=>w'.cell? ⟨h,9,none⟩=some (I Z 0)/\w'.cell? ⟨w,0,none⟩=some (I Z 1)/\w'.cell? ⟨w,1,none⟩=some (I Z sz)/\w'.cell? ⟨w,2,none⟩=some (I Z t)) (go_keep) (fail)
 rw[<-hW];have hSt:Stp (fun t=>t=t0) o o w W:=by
  rw[hW];exact ((((((Stp.refl _ o w).setCell (by simpa using gW) _).setCell (by simpa using gW) _).setCell (by simpa using gW) _).alloc _).drew)
 have nH:An W h ((((#[v0,I Z 1,sz,top,I Z (1+(sz:Int)),sz,I Z Ca,vc,vo,(),x0,x1,x2,x3,x4,x5]:Array Ac).setIfInBounds 1 (I Z 1)).setIfInBounds 2 (I Z sz)).setIfInBounds 3 (I Z t)) 141:=by rw[hW];exact jW
 simp at nH;have hr2:=hr.Ar hSt (fun e=>ht e.symm)
 clear jW jB k9 b0 b1 b2 hW c z s hc9 hr hb hne;have c:=nH.cell;have z:=nH.free;have s:=nH.lt;go_upto_region 2 with fail;obtain⟨iI,hi,hsI,cK,bZ⟩:=zm;have k9:W.cell? ⟨h,9,none⟩=some (I Z 0):=by rw[c];rfl
 have k7:W.cell? ⟨h,7,none⟩=some vc:=by rw[c];rfl
 have dE:n+1<=maxLen:=by simp only[maxLen];omega
 have hmb:(n+1)*8<=140737488355328:=by omega
 have jn:=An.new W.drew #[p] 3;have rn:Row (W.drew.alloc (ANb #[p] 3)) o tg 3 1 vc n ps:=hr2.below (qc (qf (qd W)) _);have hkeep:=fun (w1:Aa)(o1:Own)(hst:Stp (fun u=>u=tg) o o1 (W.drew.alloc (ANb #[p] 3)) w1)=>(An.alloc (qj nH) (ANb #[p] 3)).Ar hst (by rw[gW];exact ht)
 have hfin:=fun (w1:Aa)(o1:Own)(pa:Option Addr)(cp:Nat)(hown:Row w1 o1 tg 3 1 (.slice pa (n+1) cp) (n+1) (ps++[I Z p]))(hst:Stp (fun u=>u=tg) o o1 (W.drew.alloc (ANb #[p] 3)) w1) =>
  show ∃ bQ o',An (w1.setCell ⟨h,7,none⟩ (.slice pa (n+1) cp)) h #[v0,I Z 1,sz,t,I Z (1+(sz:Int)),sz,I Z Ca,bQ,vo,(),x0,x1,x2,x3,x4,x5] 141/\Row (w1.setCell ⟨h,7,none⟩ (.slice pa (n+1) cp)) o' tg 3 1 bQ (n+1) (ps++[nv p])/\Stp (fun t=>t=t0\/t=tg) o o' w (w1.setCell ⟨h,7,none⟩ (.slice pa (n+1) cp)) from by
   have hlt:h<(W.drew.alloc (ANb #[p] 3)).1.size:=(An.alloc (qj nH) _).lt;have ho1:o1 h=t0:=by rw[hst.tags h hlt];exact gW
   have k1:Stp (fun t=>t=t0) o1 o1 w1 (w1.setCell ⟨h,7,none⟩ (.slice pa (n+1) cp)):=(Stp.refl _ o1 w1).setCell (by simpa using ho1) _
   refine⟨_,o1,(hkeep _ _ hst).set 7 _,hown.Ar k1 (fun e=>ht e.symm),?_⟩;exact ((hSt.mono fun _ e=>Or.inl e).trans (Stp.of_below (qc (qf (qd W)) _))).trans ((hst.mono fun _ e=>Or.inr e).trans (k1.mono fun _ e=>Or.inl e))
 go_region_law ((refine zt _ (by rfl) _ _ _ (by rfl) 3 iI _ 1 8 hu64 hi bZ hsI cK (by rfl) (by decide) o tg vc n ps (by rfl) rn ⟨W,0,none⟩ 1 1 [I Z p] (by rfl) (by rfl) (qx jn) jh dE hmb ?_;intro v' w1 hown hst;obtain⟨pa,cp,rfl⟩:=hown.A6;have jX:=hkeep _ _ hst;have cX:=jX.cell;have zX:=jX.free;have sX:=jX.lt))
 all_goals
  go_wp2_with fail;go_end0;exact⟨rfl,hfin _ _ _ _ hown hst⟩
end
section
open Go.RowKit Hp
attribute [local go_sem ↓] Go.wp_at_zero Go.wp_at_succ
section
variable {w : Aa} {o : Own} {l : Bn} {H : Hp} {vc vo vw vf : Ac} {f : Nat -> Nat}
def Hp.Gv (hk:H.ok)(hm:H.AK=false):H.Bv=0:=by
 rw[hk.GL,hk.still hm];rfl
def AN.EW (h:AN w o l H vc vo vw vf f)(hu:H.use=false):An w l.h #[Ah (some ⟨l.a,0,none⟩),I Z 1,H.size,H.top,I Z (1+(H.size:Int)),H.size,H.Ca,vc,vo,(),.bool H.AK,H.Bv,H.scan,H.Ap,vw,vf] 141:=by
 have:=h.hb;unfold Hp.cells at this;rwa [hu,if_neg (by simp)]at this
def Hp.YW (hk:H.ok)(hu:H.use=false):1<=H.top/\H.top+H.Bv<=1+H.size:=by
 have h1:=hk.room;have h2:=yp _ _ _ hk.cl hk.ck;unfold Hp.base at h1 h2;rw[hu]at h1 h2;simp at h1 h2;omega
end
end
section
open Go.RowKit Hp
def Stp.Ci {T:Tag->Prop}{o:Own}{b:Nat}{w w':Aa}(h:Wr b w w')(ht:T (o b)):Stp T o o w w':=
 ⟨h.os,h.tape,h.output,h.size,fun _ _=>rfl,fun k hk hn=>h.block k hk fun e=>hn (by rw[e];exact ht)⟩
def BR.Ar {T:Tag->Prop}{o o':Own}{w w':Aa}{a wd L:Nat}{f:Nat->Nat}(h:BR w a wd L f)(k:Stp T o o' w w')(h1:¬T (o a))(h2:¬T (o wd)):BR w' a wd L f:=by
 obtain⟨cs,hb,hc⟩:=h.words;exact⟨h.Cm.Ar k h1,h.ne,⟨cs,hb.Ar k h2,hc⟩,h.le⟩
def Row.retag {w:Aa}{o o':Own}{t:Tag}{e:TypeId}{size:Nat}{v:Ac}{n:Nat}{xs:List Ac}(h:Row w o t e size v n xs)(he:∀ b,b<w.1.size->o' b=o b):Row w o' t e size v n xs:=by
 refine⟨h.own,fun k hk=>?_⟩
 rcases h.own.2 with⟨rfl,_⟩|⟨g,cap,cur,rfl,_,hg,_⟩
 ·simp[Value.ownBlock]at hk
 ·have e1:g=k:=by simpa [Value.ownBlock] using hk
  subst e1;rw[he g (Qf.1 hg).1];exact h.tag g rfl
section
variable {w : Aa} {o : Own} {l : Bn} {H : Hp} {vc vo vw vf : Ac} {f : Nat -> Nat}
def AN.retag {o':Own}(h:AN w o l H vc vo vw vf f)(he:∀ b,b<w.1.size->o' b=o b):AN w o' l H vc vo vw vf f:=
 ⟨h.hb,h.Cr,h.rc.retag he,h.ro.retag he,h.rw.retag he,h.rf.retag he,(he _ h.hb.lt).trans h.oh,(he _ h.Cr.Cm.lt).trans h.oa,(he _ h.Cr.lt).trans h.ow,h.Fb,h.Ch,h.zr⟩
structure QO (H:Hp):Prop where
 ok:H.ok
 use:H.use=false
 Vy:H.AK=false
 wl:H.AA.length<=H.cur.length
 fl:H.final.length<=H.cur.length
def Hp.lay (H : Hp) (s : BQ) : Hp :=
  { H with cur := H.cur ++ [(H.top, Ob.new s (H.Ap + 1))], top := H.top + BG (3 + s.p + s.d), Ap := H.Ap + 1,
           AA := if s.AA then H.AA ++ [H.top] else H.AA, final := if s.final then H.final ++ [H.top] else H.final }
def QO.len (h:QO H):H.cur.length<=4096:=by
 have h1:=yp _ _ _ h.ok.cl h.ok.ck;have h2:=h.ok.room;have h3:=h.ok.sz;unfold Hp.base at h1 h2;rw[h.use]at h1 h2;simp at h1 h2;omega
def QO.lay (h:QO H){s:BQ}(hs:s.ok)(hr:H.top+BG (3+s.p+s.d)<=1+H.size)(eO:H.Ap<1099511627776):QO (H.lay s):=by
 have hn:=Ob.JP hs (H.Ap+1) (by omega)
 have hz:=Hp.Gv h.ok h.Vy;obtain⟨⟨k1,k2,k3,k4,k5,k6,k7,k8,k9,k10,k11,k12⟩,hu,hm,hw,hf⟩:=h;refine⟨⟨k1,?_,?_,k4,k5,k6,k7,k8,?_,?_,k11,k12⟩,hu,hm,?_,?_⟩
 ·exact gg _ _ _ _ k2
 ·intro x hx
  rcases Qs.1 hx with hx|hx
  ·exact k3 x hx
  ·rw[Zb.1 hx];exact hn
 ·show H.top+BG (3+s.p+s.d)+H.Bv<=H.base H.use+H.size
  unfold Hp.base;rw[hu];simp;omega
 ·show H.Ap+1<=_
  omega
 ·show aC (if s.AA then _ else _)<=(H.cur++_).length
  split<;>simp<;>omega
 ·show aC (if s.final then _ else _)<=(H.cur++_).length
  split<;>simp<;>omega
def AN.TE (h:AN w o l H vc vo vw vf f)(hF:QO H)(s:BQ){w':Aa}{o':Own}{bQ eY dY:Ac}
  (hb:An w' l.h ((H.lay s).cells l.a bQ vo eY dY) 141)(hw:BR w' l.a l.wd (2*H.size+1) (yu f H.top s (H.Ap+1)))
  (rc:Row w' o' (l.id,3) 3 1 bQ (H.cur.length+1) ((H.cur.map fun x=>nv x.1)++[nv H.top]))(ro:Row w' o' (l.id,4) 3 1 vo H.old.length (H.old.map fun x=>nv x.1))
  (rw':Row w' o' (l.id,5) 3 1 eY (H.lay s).AA.length ((H.lay s).AA.map nv))(rf:Row w' o' (l.id,6) 3 1 dY (H.lay s).final.length ((H.lay s).final.map nv))
  (ht:∀ b,b<w.1.size->o' b=o b):AN w' o' l (H.lay s) bQ vo eY dY (yu f H.top s (H.Ap+1)):=by
 refine⟨hb,hw,?_,?_,rw',rf,(ht _ h.hb.lt).trans h.oh,(ht _ h.Cr.Cm.lt).trans h.oa,(ht _ h.Cr.lt).trans h.ow,?_,?_,?_⟩
 ·show Row w' o' (l.id,if H.use then 4 else 3) _ 1 bQ (H.cur++[(H.top,Ob.new s (H.Ap+1))]).length ((H.cur++[(H.top,Ob.new s (H.Ap+1))]).map fun x=>nv x.1)
  rw[hF.use];simpa using rc
 ·show Row w' o' (l.id,if H.use then 3 else 4) _ 1 vo H.old.length (H.old.map fun x=>nv x.1)
  rw[hF.use];simpa using ro
 ·intro x hx
  rcases Qs.1 (show x ∈ H.cur++[(H.top,Ob.new s (H.Ap+1))] from hx) with hx|hx
  ·refine (h.Fb x hx).of_eq (hF.ok.ck x hx) fun j h1 h2=>xq _ _ _ _ _ (.inl ?_)
   have h3:=zd _ _ _ hF.ok.cl x hx;have h4:=zi _ (Ob.AP (hF.ok.ck x hx)).2;omega
  ·rw[Zb.1 hx];exact BE.new _ _ _ _
 ·intro x hx
  have:H.old=[]:=hF.ok.still hF.Vy;rw[show (H.lay s).old=H.old from rfl,this]at hx
  cases hx
 ·have h1:=(pi _ _ _ hF.ok.cl)
  have h2:=H.Bt H.use;rw[xq _ _ _ _ _ (by omega)];exact h.zr
end
end
section
open Hp
def Be:List (Nat×Ob×Option Nat)->Nat->Option (Ob×Option Nat)
 | [],_=>none
 | (q,o)::l,p=>if q=p then some o else Be l p
def zy:∀ {l:List (Nat×Ob×Option Nat)}{p:Nat}{o:Ob×Option Nat},Be l p=some o->(p,o) ∈ l
 | [],p,o,h=>by simp[Be]at h
 | (q,x)::l,p,o,h=>by
  unfold Be at h;split at h
  ·rename_i e
   injection h with h;rw[<-e,<-h];exact .head _
  ·exact .tail _ (zy h)
def Ex {l:List (Nat×Ob×Option Nat)}{p:Nat}:(Be l p).isSome=true↔p ∈ l.map (·.1):=by
 induction l with
 | nil=>simp[Be]
 | cons x l ih =>
  obtain⟨q,o⟩:=x;unfold Be;split
  ·rename_i e;simp[e]
  ·rename_i e;rw[ih];simp[Ne.symm e]
def qw (l:List (Nat×Ob×Option Nat))(p q:Nat):List (Nat×Ob×Option Nat):=l.map fun x=>if x.1=p then (x.1,x.2.1,some q) else x
def dz (l:List (Nat×Ob×Option Nat))(p q:Nat):((qw l p q).map fun x=>(x.1,x.2.1))=l.map fun x=>(x.1,x.2.1):=by
 unfold qw;rw[aa];refine aD fun x _=>?_
 simp only[aN];split<;>rfl
def qk2 (l:List (Nat×Ob×Option Nat))(p q:Nat):(qw l p q).length=l.length:=by unfold qw;simp
def qi6 (l:List (Nat×Ob×Option Nat))(p q:Nat):(qw l p q).map (·.1)=l.map (·.1):=by
 have:=congrArg (aQ (·.1)) (dz l p q);simpa [aa,ag] using this
def br (l:List (Nat×Ob×Option Nat))(p q r:Nat):Be (qw l p q) r=if r=p then (Be l p).map fun x=>(x.1,some q) else Be l r:=by
 induction l with
 | nil=>unfold qw Be;simp
 | cons x l ih =>
  obtain⟨s,o⟩:=x;have e:qw ((s,o)::l) p q=(if s=p then (s,o.1,some q) else (s,o))::qw l p q:=rfl;rw[e];by_cases h1:s=p
  ·subst h1
   rw[if_pos rfl];by_cases h2:r=s
   ·subst h2;simp[Be]
   ·rw[if_neg h2]at ih ⊢
    simp only[Be,if_neg (Ne.symm h2),ih]
  ·rw[if_neg h1]
   by_cases h2:r=p
   ·subst h2
    rw[if_pos rfl]at ih ⊢;simp only[Be,if_neg h1,ih]
   ·rw[if_neg h2]at ih ⊢
    simp only[Be,ih]
def ut {H:Hp}(hk:H.ok):(H.old.map (·.1)).Pairwise (·<·):=by
 have:=xj _ _ _ hk.ol hk.ok;simpa [Hp.Ch,aa,ag] using this
def Xx:∀ {l:List (Nat×Ob×Option Nat)}{p q:Nat}{ob:Ob},(l.map (·.1)).Pairwise (·<·)->Be l p=some (ob,none)->gl (qw l p q)+BG ob.size=gl l
 | [],p,q,ob,_,h=>by simp[Be]at h
 | (s,o,g)::l,p,q,ob,hs,h=>by
  have hs':(∀ y ∈ l.map (·.1),s<y)/\(l.map (·.1)).Pairwise (·<·):=List.pairwise_cons.1 hs;have e:qw ((s,o,g)::l) p q=(if s=p then (s,o,some q) else (s,o,g))::qw l p q:=rfl;rw[e];unfold Be at h;by_cases h1:s=p
  ·subst h1
   rw[if_pos rfl]at h ⊢;injection h with h;injection h with h2 h3;subst h2 h3;have hno:qw l s q=l:=by
    unfold qw;refine (aD fun x hx=>?_).trans (aM _);have:=hs'.1 x.1 (Qt.2 ⟨x,hx,rfl⟩);rw[if_neg (by omega)];rfl
   rw[hno];show gl l+BG o.size=BG o.size+gl l;omega
  ·rw[if_neg h1]at h ⊢
   have ih:=Xx (q:=q) hs'.2 h
   cases g with
   | none =>
    show BG o.size+gl (qw l p q)+BG ob.size=BG o.size+gl l;omega
   | some r=>exact ih
def SK:∀ {l:List (Nat×Ob×Option Nat)}{p:Nat}{ob:Ob},Be l p=some (ob,none)->BG ob.size<=gl l
 | [],p,ob,h=>by simp[Be]at h
 | (s,o,g)::l,p,ob,h=>by
  unfold Be at h;split at h
  ·injection h with h
   injection h with h2 h3;subst h2 h3;show BG o.size<=BG o.size+gl l;omega
  ·have ih:=SK h
   cases g with
   | none=>show BG ob.size<=BG o.size+gl l;omega
   | some r=>exact ih
def Hp.AG (H:Hp)(p:Nat):Hp×Nat:=
 match Be H.old p with
 | none=>(H,p)
 | some (_,some q)=>(H,q)
 | some (ob,none)=>({ H with cur:=H.cur++[(H.top,ob)],top:=H.top+BG ob.size,old:=qw H.old p H.top,Bv:=H.Bv-BG ob.size },H.top)
def Hp.CW {H:Hp}{p:Nat}(h:Be H.old p=none):H.AG p=(H,p):=by unfold Hp.AG;rw[h]
def Hp.CV {H:Hp}{p q:Nat}{ob:Ob}(h:Be H.old p=some (ob,some q)):H.AG p=(H,q):=by unfold Hp.AG;rw[h]
def Hp.Cv {H:Hp}{p:Nat}{ob:Ob}(h:Be H.old p=some (ob,none)):H.AG p=({ H with cur:=H.cur++[(H.top,ob)],top:=H.top+BG ob.size,old:=qw H.old p H.top,Bv:=H.Bv-BG ob.size },H.top):=by unfold Hp.AG;rw[h]
def dv {H:Hp}(hk:H.ok){p:Nat}{ob:Ob}{g:Option Nat}(h:Be H.old p=some (ob,g)):ob.ok/\H.base (!H.use)<=p/\p+BG ob.size<=H.base (!H.use)+H.size/\p+ob.size<=2*H.size+1:=by
 have hm:(p,ob) ∈ H.Ch:=Qt.2 ⟨(p,ob,g),zy h,rfl⟩;have h1:=zd _ _ _ hk.ol _ hm;have h2:=hk.ok _ hm;have h3:=zi _ (Ob.AP h2).2;have h4:=hk.ot;have h5:=H.Bt (!H.use);simp only at h1 h2 h3;exact⟨h2,h1.1,by omega,by omega⟩
def vg {H:Hp}(hk:H.ok):H.base H.use<=H.top:=pi _ _ _ hk.cl
def Hp.Ey {H:Hp}(hk:H.ok)(p:Nat):(H.AG p).1.ok:=by
 cases h:Be H.old p with
 | none=>rw[H.CW h];exact hk
 | some x =>
  obtain⟨ob,g⟩:=x
  cases g with
  | some q=>rw[H.CV h];exact hk
  | none =>
   rw[H.Cv h];obtain⟨ho,_,_,_⟩:=dv hk h;have hg:=Xx (q:=H.top) (ut hk) h;have hr:=hk.room;have hw:=hk.GL;have hb:=vg hk;have hb1:=H.Bt H.use;have hsz:=hk.sz;refine⟨hk.sz,gg _ _ _ _ hk.cl,fun x hx=>?_,?_,?_,hk.ot,fun hm=>?_,?_,?_,hk.Bc,hk.CE,fun x hx q hq=>?_⟩
   ·rcases Qs.1 hx with hx|hx
    ·exact hk.ck x hx
    ·rw[Zb.1 hx];exact ho
   ·show vj _ ((qw H.old p H.top).map _) _
    rw[dz];exact hk.ol
   ·show Kj ((qw H.old p H.top).map _)
    rw[dz];exact hk.ok
   ·have:=hk.still hm
    rw[this]at h;simp[Be]at h
   ·show H.Bv-BG ob.size=gl (qw H.old p H.top)
    omega
   ·show H.top+BG ob.size+(H.Bv-BG ob.size)<=H.base H.use+H.size
    omega
   ·unfold qw at hx
    obtain⟨z,hz,rfl⟩:=Qt.1 hx;split at hq
    ·injection hq with hq;subst hq;omega
    ·exact hk.gone z hz q hq
end
section
open Go.RowKit Hp
attribute [local go_sem ↓] Go.wp_at_zero Go.wp_at_succ
variable {w : Aa} {a wd L : Nat} {f : Nat -> Nat} {p : Nat} {ob : Ob}
def GC (f:Nat->Nat)(p t n:Nat):Nat->Nat:=upd (Px f p t n) p (4*t+2)
def Hj {f:Nat->Nat}{p t n j:Nat}(h1:t<=j)(h2:j<t+n)(hp:p<t\/t+n<=p):GC f p t n j=f (p+(j-t)):=by
 unfold GC;rw[upd_ne _ _ _ _ (by omega)];unfold Px;rw[if_pos ⟨h1,h2⟩]
def LK (f:Nat->Nat)(p t n:Nat):GC f p t n p=4*t+2:=pz _ _ _
def fg {f:Nat->Nat}{p t n j:Nat}(h:j<t\/t+n<=j)(hp:j≠p):GC f p t n j=f j:=by
 unfold GC;rw[upd_ne _ _ _ _ hp];unfold Px;rw[if_neg (by omega)]
def BE.copied (ho:BE f p ob)(hk:ob.ok){t:Nat}(hp:p+ob.size<=t\/t+ob.size<=p):BE (GC f p t ob.size) t ob:=by
 have hs:=Ob.AP hk;have key:∀ k,k<ob.size->GC f p t ob.size (t+k)=f (p+k):=fun k hk=>by
  rw[Hj (by omega) (by omega) (by omega),show p+(t+k-t)=p+k from by omega]
 unfold Ob.size at key hs;refine⟨?_,?_,?_,fun j x hx=>?_,fun j n hn=>?_⟩
 ·have:=key 0 (by omega)
  rw[Nat.add_zero,Nat.add_zero]at this;unfold Ob.size;rw[this];exact ho.h0
 ·unfold Ob.size;rw[key 1 (by omega)];exact ho.h1
 ·unfold Ob.size;rw[key 2 (by omega)];exact ho.h2
 ·have:=(Qc.1 hx).1
  rw[hk.lp]at this;unfold Ob.size;rw[show t+3+j=t+(3+j) from by omega,key (3+j) (by omega),show p+(3+j)=p+3+j from by omega];exact ho.hp j x hx
 ·have:=(Qc.1 hn).1
  rw[hk.ln]at this;unfold Ob.size;rw[show t+3+ob.AL.p+j=t+(3+ob.AL.p+j) from by omega,key (3+ob.AL.p+j) (by omega),show p+(3+ob.AL.p+j)=p+3+ob.AL.p+j from by omega];exact ho.hn j n hn
def Wr.Cc {b c:Nat}{w w':Aa}(h:Wr b w w')(hc:w.1.size<=c)(i:Nat)(v:Ac):Wr b w (w'.setCell ⟨c,i,none⟩ v):=
 ⟨h.os,h.tape,h.output,by simpa [World.setCell] using h.size,fun k hk hn=>(Below.heap_setCell _ _ _ _ (by show k≠c;omega)).trans (h.block k hk hn)⟩
def BR.Cc {w':Aa}(h:BR w' a wd L f){c:Nat}(h1:a≠c)(h2:wd≠c)(i:Nat)(v:Ac):BR (w'.setCell ⟨c,i,none⟩ v) a wd L f:=h.wr (Wr.set c w' i v) h1 h2
def Hl (h:BR w a wd L f)(ho:BE f p ob)(hk:ob.ok)(hl:p+ob.size<=L){b s t:Nat}(hsp:Ff b s t)(hr:t+BG ob.size<=b+s)(ht:t+ob.size<=L)(t1:1<=t) :
  Ab ANa 186 #[Ah (some ⟨a,0,none⟩),p,DN b s t] w fun e w'=>e=O (Ak #[DN b s (t+BG ob.size),t,()])/\Turned w w' a wd L (GC f p t ob.size):=by
 have hs:=Ob.AP hk;have hL:=h.le;have HA:=Qa (fun (W:Aa)(hb:Ae w w W)=>Va (h.below hb) ho hk hl)
 have HS:=Qa (fun (W:Aa)(hb:Ae w w W)=>jw (h.below hb) ho hk hl p rfl)
 have HZ:=Qa (fun w=>yj ob.AL hk.AL w)
 have HT:=Qa (fun w=>UE hsp ob.size hs.1 hs.2 hr _ rfl w)
 have HN:=Qa (fun (W:Aa)(hb:Ae w w W)=>ss (h.below hb))
 have HG:=Qa (fun w=>UF t t1 (by omega) t rfl w)
 have HM:=Qa (fun (W:Aa)(hb:Ae w w W)=>Lt (h.below hb) p t ob.size hl ht (by omega) p t ob.size rfl rfl rfl)
 have HW:=Qa (fun (W:Aa)(h:BR W a wd L (Px f p t ob.size))=>Db h p p (4*t+2) rfl (by omega) ((4*t+2:Nat):Int) rfl)
 have hwd:=h.lt;have hla:=h.Cm.lt;have ez:(3+ob.AL.p+ob.AL.d)=ob.size:=rfl;rw[ez]at HZ;have g1:¬((ob.size:Int) > (L:Int)-(t:Int)):=by omega
 have g2:((t:Int)==0)=false:=by rw[Qh];omega
 have g3:IntKind.i64.wrap ((L:Int)-(t:Int))=(L:Int)-(t:Int):=af _ (by omega)
 generalize hrd:t+BG ob.size=tr at *;generalize ob.size=n at *;obtain⟨c4,hc4⟩:∃ c:Nat,c=4*t+2:=⟨_,rfl⟩;have HC4:=Qa hc4;rw[<-hc4]at HG HW;clear h ho hk hs hL hsp hr hrd hl ht ez hc4;obtain⟨W,hW⟩:=Ja0 ((w.alloc (ANb #[b,s,t] 135)).alloc (ANb #[(),(),()] 135));have bW:Ae w w W:=by rw[hW];exact qc (qc (qd _) _) _
 have jS:An W w #[b,s,t] 135:=by rw[hW];exact (An.new _ _ _).alloc _
 have jR:An W (w.1.size+1) #[(),(),()] 135:=by rw[hW];exact An.Ax _ _ _ _ _ (by simp) rfl
 go_in;go_wp2_with fail;rw[<-hW];clear hW;obtain⟨bS,hbS⟩:=Ja0 w.1.size;obtain⟨bR,hbR⟩:=Ja0 (w.1.size+1);rw[<-hbR]at jR ⊢;rw[<-hbS]at jS ⊢;have ik:=Qa (show w.1.size<=bS/\w.1.size<=bR/\bS≠bR from by omega)
 clear hbS hbR;refine (HA.o _ bW).mono ?_
 rintro e w1 ⟨rfl,rfl⟩
 go_wp2_with fail;refine (HS.o _ bW).mono ?_
 rintro e w2 ⟨rfl,hb2⟩
 have eu:=qe bW hb2;have dC:=jS.below hb2 jS.lt;have dR:=jR.below hb2 jR.lt;clear hb2 jS jR bW HA HS;go_wp2_with fail;refine (HZ.o _).mono ?_
 rintro e w3 ⟨rfl,hb3⟩
 have bW3:=qe (qc eu (ANb #[ob.AL.p,ob.AL.d,.bool ob.AL.AA,.bool ob.AL.final] 82)) hb3;have ic:=(dC.alloc (ANb #[ob.AL.p,ob.AL.d,.bool ob.AL.AA,.bool ob.AL.final] 82)).below hb3 (dC.alloc _).lt;have eX:=(dR.alloc (ANb #[ob.AL.p,ob.AL.d,.bool ob.AL.AA,.bool ob.AL.final] 82)).below hb3 (dR.alloc _).lt;have cS:=ic.cell;clear hb3 dC dR eu HZ;go_wp2_with fail;refine (HT.o _).mono ?_
 rintro e w4 ⟨rfl,hb4⟩
 have bW4:=qe bW3 hb4;have lI:=eX.below hb4 eX.lt;clear hb4 ic eX bW3 HT cS;have bW5:=qc bW4 (ANb #[b,s,tr] 135);have jA5:=An.new w4 #[b,s,tr] 135;have gZ:=lI.alloc (ANb #[b,s,tr] 135);have fB:w.1.size<=w4.1.size:=bW4.size;obtain⟨W5,cO⟩:=Ja0 (w4.alloc (ANb #[b,s,tr] 135));rw[<-cO]at bW5 jA5 gZ;obtain⟨bA,fU⟩:=Ja0 w4.1.size;rw[<-fU]at jA5 fB;clear lI bW4;go_wp2_with fail;rw[<-cO,<-fU];clear cO fU;refine (HN.o _ bW5).mono ?_
 rintro e w6 ⟨rfl,rfl⟩
 go_wp2_with fail;refine (HG.o _).mono ?_
 rintro e w6 ⟨rfl,rfl⟩
 go_wp2_with fail;refine (HM.o _ bW5).mono ?_
 rintro e w7 ⟨rfl,uL⟩
 have lF:=jA5.wr uL.2 (by omega)
 have jR7:=gZ.wr uL.2 (by have:=ik.o;omega)
 go_wp2_with fail;refine (HW.o _ uL.1).mono ?_
 rintro e w8 ⟨rfl,kU⟩
 have jA8:=lF.wr kU.2 (by omega)
 have jR8:=jR7.wr kU.2 (by have:=ik.o;omega)
 have cA:=jA8.cell;have cR:=jR8.cell;have zR:=jR8.free;have lR:=jR8.lt;have hT:=((Turned.after bW5 uL).2).trans kU.2;have hW8:=kU.1;clear uL kU jA5 gZ lF jR7 bW5 HM HW HN HG;go_wp2_with fail;refine bodyPost_ret (v:=Ak #[DN b s tr,t,()]) (by simp[results,results186,go_sem,cR]) rfl ⟨rfl,?_⟩
 have h1:a≠bR:=by have:=ik.o;omega
 have h2:wd≠bR:=by have:=ik.o;omega
 have h3:w.1.size<=bR:=ik.o.2.1;unfold GC;rw[<-HC4.o];refine⟨?_,?_⟩
 ·repeat (first|exact hW8|refine BR.Cc ?_ h1 h2 _ _)
 ·repeat (first|exact hT|refine Wr.Cc ?_ h3 _ _)
section
variable {w : Aa} {o : Own} {l : Bn} {H : Hp} {vc vo vw vf : Ac} {f : Nat -> Nat}
def rj (h:AN w o l H vc vo vw vf f) (hk:H.ok) (p:Nat) :
  Ab ANa 185 #[Ah (some ⟨l.h,0,none⟩),p] w fun e w'=>e=O (.bool (Be H.old p).isSome)/\Ae w w w':=by
 have HM:=Qa (xc h)
 cases hm:H.AK with
 | false =>
  rw[hm]at HM;rw[hk.still hm];clear h hm hk;go_in;go_wp2_with fail;refine HM.o.mono ?_;rintro e w1 ⟨rfl,rfl⟩;go_wp2_with fail;go_ret;exact⟨rfl,qd _⟩
 | true =>
  rw[hm]at HM;have hbs:=fun (w':Aa) (hw:Ae w w w')=>VT (w:=w') (o:=o) (t:=(l.id,if H.use then 3 else 4)) (v:=vo) (H.old.map (·.1)) (by simpa [aa,ag] using h.ro.below hw) (ut hk) (by have:=UQ hk;simpa using by omega) p p rfl
  have hd:decide (p ∈ H.old.map (·.1))=(Be H.old p).isSome:=by rw[Bool.eq_iff_iff,decide_eq_true_eq,Ex]
  rw[hd]at hbs;generalize (((H.old.map (·.1)).map fun (p:Nat)=>(p:Int)).countP (·<(p:Int)):Nat)=q at hbs;generalize (Be H.old p).isSome=b at *;have c:=h.hb.cell;unfold Hp.cells at c;have HB:=Qa hbs;clear h hbs hd hm
  cases hu:H.use
  all_goals
   rw[hu]at c;first|rw[if_pos rfl]at c|rw[if_neg (by simp)]at c
   clear hu;go_in;go_wp2_with fail;refine HM.o.mono ?_;rintro e w1 ⟨rfl,rfl⟩;go_upto_region 3 with fail;go_quiet ((go_at_call 73;exact Calls.quiet_of (HB.o _ (zo (qd w) _))));go_wp2_with fail;go_ret;exact⟨rfl,zo (qd w) _⟩
end
def Yr {w:Aa}{o:Own}{tg t0:Tag}{h n sz top Ca:Nat}{ps:List Ac}{v0 x0 x1 x2 x3 x4 x5 vc vo:Ac}(hb:An w h #[v0,I Z 1,sz,I Z Ca,I Z (1+(sz:Int)),sz,top,vo,vc,I Z 1,x0,x1,x2,x3,x4,x5] 141)
  (hr:Row w o tg 3 1 vc n ps)(hn:n<16384)(gW:o h=t0)(ht:t0≠tg)(p t:Nat) :
  Ab ANa 187 #[Ah (some ⟨h,0,none⟩),(Al #[I Z (1+(sz:Int)),sz,t]),p] w fun e w'=>e=O (Ak #[]) /\
   ∃ bQ o',An w' h #[v0,I Z 1,sz,I Z Ca,I Z (1+(sz:Int)),sz,t,vo,bQ,I Z 1,x0,x1,x2,x3,x4,x5] 141/\Row w' o' tg 3 1 bQ (n+1) (ps++[nv p])/\Stp (fun t=>t=t0\/t=tg) o o' w w':=by
 have hu64:=underlying23;have c:=hb.cell;have z:=hb.free;have s:=hb.lt;have hne:w.1.size≠h:=by omega
 go_in;go_upto_region 1 with fail;have hc9:w.cell? ⟨h,9,none⟩=some (I Z 1):=by rw[c];rfl
 obtain⟨W,hW⟩:=Ja0 (((((w.setCell ⟨h,4,none⟩ (I Z (1+(sz:Int)))).setCell ⟨h,5,none⟩ sz).setCell ⟨h,6,none⟩ t).alloc (ANb #[I Z (1+(sz:Int)),sz,t] 135)).drew);have jW:=An.alloc (((hb.set 4 (I Z (1+(sz:Int)))).set 5 sz).set 6 t) (ANb #[I Z (1+(sz:Int)),sz,t] 135);have jB:=An.Ax ((((w.setCell ⟨h,4,none⟩ (I Z (1+(sz:Int)))).setCell ⟨h,5,none⟩ sz).setCell ⟨h,6,none⟩ t)) #[I Z (1+(sz:Int)),sz,t] #[I Z (1+(sz:Int)),sz,t] 135 w.1.size (by simp) rfl
 have jW:=qj jW;have jB:=qj jB;have k9:=jW.cell 9;have b0:=jB.cell 0;have b1:=jB.cell 1;have b2:=jB.cell 2;simp at k9 b0 b1 b2;go_region_held3 (fun w'=>w'.cell? ⟨h,9,none⟩=some (I Z 1)/\w'.cell? ⟨w,0,none⟩=some (I Z (1+(sz:Int)))/\w'.cell? ⟨w,1,none⟩=some (I Z sz)/\w'.cell? ⟨w,2,none⟩=some (I Z t)) (go_keep) (fail)
 rw[<-hW];have hSt:Stp (fun t=>t=t0) o o w W:=by
  rw[hW];exact ((((((Stp.refl _ o w).setCell (by simpa using gW) _).setCell (by simpa using gW) _).setCell (by simpa using gW) _).alloc _).drew)
 have nH:An W h ((((#[v0,I Z 1,sz,I Z Ca,I Z (1+(sz:Int)),sz,top,vo,vc,I Z 1,x0,x1,x2,x3,x4,x5]:Array Ac).setIfInBounds 4 (I Z (1+(sz:Int)))).setIfInBounds 5 (I Z sz)).setIfInBounds 6 (I Z t)) 141:=by rw[hW];exact jW
 simp at nH;have hr2:=hr.Ar hSt (fun e=>ht e.symm)
 clear jW jB k9 b0 b1 b2 hW c z s hc9 hr hb hne;have c:=nH.cell;have z:=nH.free;have s:=nH.lt;go_upto_region 2 with fail;obtain⟨iI,hi,hsI,cK,bZ⟩:=zm;have k9:W.cell? ⟨h,9,none⟩=some (I Z 1):=by rw[c];rfl
 have k7:W.cell? ⟨h,8,none⟩=some vc:=by rw[c];rfl
 have dE:n+1<=maxLen:=by simp only[maxLen];omega
 have hmb:(n+1)*8<=140737488355328:=by omega
 have jn:=An.new W.drew #[p] 3;have rn:Row (W.drew.alloc (ANb #[p] 3)) o tg 3 1 vc n ps:=hr2.below (qc (qf (qd W)) _);have hkeep:=fun (w1:Aa)(o1:Own)(hst:Stp (fun u=>u=tg) o o1 (W.drew.alloc (ANb #[p] 3)) w1)=>(An.alloc (qj nH) (ANb #[p] 3)).Ar hst (by rw[gW];exact ht)
 have hfin:=fun (w1:Aa)(o1:Own)(pa:Option Addr)(cp:Nat)(hown:Row w1 o1 tg 3 1 (.slice pa (n+1) cp) (n+1) (ps++[I Z p]))(hst:Stp (fun u=>u=tg) o o1 (W.drew.alloc (ANb #[p] 3)) w1) =>
  show ∃ bQ o',An (w1.setCell ⟨h,8,none⟩ (.slice pa (n+1) cp)) h #[v0,I Z 1,sz,I Z Ca,I Z (1+(sz:Int)),sz,t,vo,bQ,I Z 1,x0,x1,x2,x3,x4,x5] 141/\Row (w1.setCell ⟨h,8,none⟩ (.slice pa (n+1) cp)) o' tg 3 1 bQ (n+1) (ps++[nv p])/\Stp (fun t=>t=t0\/t=tg) o o' w (w1.setCell ⟨h,8,none⟩ (.slice pa (n+1) cp)) from by
   have hlt:h<(W.drew.alloc (ANb #[p] 3)).1.size:=(An.alloc (qj nH) _).lt;have ho1:o1 h=t0:=by rw[hst.tags h hlt];exact gW
   have k1:Stp (fun t=>t=t0) o1 o1 w1 (w1.setCell ⟨h,8,none⟩ (.slice pa (n+1) cp)):=(Stp.refl _ o1 w1).setCell (by simpa using ho1) _
   refine⟨_,o1,(hkeep _ _ hst).set 8 _,hown.Ar k1 (fun e=>ht e.symm),?_⟩;exact ((hSt.mono fun _ e=>Or.inl e).trans (Stp.of_below (qc (qf (qd W)) _))).trans ((hst.mono fun _ e=>Or.inr e).trans (k1.mono fun _ e=>Or.inl e))
 go_region_law ((refine zt _ (by rfl) _ _ _ (by rfl) 3 iI _ 1 8 hu64 hi bZ hsI cK (by rfl) (by decide) o tg vc n ps (by rfl) rn ⟨W,0,none⟩ 1 1 [I Z p] (by rfl) (by rfl) (qx jn) jh dE hmb ?_;intro v' w1 hown hst;obtain⟨pa,cp,rfl⟩:=hown.A6;have jX:=hkeep _ _ hst;have cX:=jX.cell;have zX:=jX.free;have sX:=jX.lt))
 all_goals
  go_wp2_with fail;go_end0;exact⟨rfl,hfin _ _ _ _ hown hst⟩
section
variable {w : Aa} {o : Own} {l : Bn} {H : Hp} {vc vo vw vf : Ac} {f : Nat -> Nat}
def Bn.tc (l:Bn)(u:Bool):Tag:=(l.id,if u then 4 else 3)
def Bn.YV (l:Bn)(u:Bool):Tag:=(l.id,if u then 3 else 4)
def qqx (hb:An w l.h (H.cells l.a vc vo vw vf) 141){n:Nat}{ps:List Ac}(hr:Row w o (l.tc H.use) 3 1 vc n ps)(hn:n<16384)(gW:o l.h=(l.id,0))(p t:Nat) :
  Ab ANa 187 #[Ah (some ⟨l.h,0,none⟩),DN (H.base H.use) H.size t,p] w fun e w'=>e=O (Ak #[]) /\
   ∃ bQ o',An w' l.h ({ H with top:=t }.cells l.a bQ vo vw vf) 141/\Row w' o' (l.tc H.use) 3 1 bQ (n+1) (ps++[nv p])/\Stp (fun t=>t=(l.id,0)\/t=l.tc H.use) o o' w w':=by
 rcases (show H.use=false\/H.use=true by cases H.use<;>simp) with hu|hu
 ·have htc:l.tc H.use=l.tc false:=by rw[hu]
  have zJ:H.base H.use=H.base false:=by rw[hu]
  rw[htc]at hr ⊢;rw[zJ];have e1:∀ (t:Nat)(v1:Ac),{ H with top:=t }.cells l.a v1 vo vw vf=#[Ah (some ⟨l.a,0,none⟩),I Z 1,H.size,t,I Z (1+(H.size:Int)),H.size,H.Ca,v1,vo,(),.bool H.AK,H.Bv,H.scan,H.Ap,vw,vf]:=fun t v1=>by
   unfold Hp.cells;simp only[hu,Bool.false_eq_true,if_false]
  have hb':=hb;rw[show H.cells l.a vc vo vw vf={ H with top:=H.top }.cells l.a vc vo vw vf from rfl,e1]at hb';refine (Ys hb' hr hn gW (by unfold Bn.tc;simp) p t).mono ?_
  rintro e w' ⟨rfl,bQ,o',h1,h2,h3⟩;exact⟨rfl,bQ,o',by rw[e1];exact h1,h2,h3⟩
 ·have htc:l.tc H.use=l.tc true:=by rw[hu]
  have zJ:H.base H.use=H.base true:=by rw[hu]
  rw[htc]at hr ⊢;rw[zJ];have e1:∀ (t:Nat)(v1:Ac),{ H with top:=t }.cells l.a v1 vo vw vf=#[Ah (some ⟨l.a,0,none⟩),I Z 1,H.size,H.Ca,I Z (1+(H.size:Int)),H.size,t,vo,v1,I Z 1,.bool H.AK,H.Bv,H.scan,H.Ap,vw,vf]:=fun t v1=>by
   unfold Hp.cells;simp only[hu,if_true]
  have hb':=hb;rw[show H.cells l.a vc vo vw vf={ H with top:=H.top }.cells l.a vc vo vw vf from rfl,e1]at hb';have e2:DN (H.base true) H.size t=Al #[I Z (1+(H.size:Int)),H.size,t]:=by
   show Value.agg #[I Z ((1+H.size:Nat):Int),_,_]=_;rw[show ((1+H.size:Nat):Int)=1+(H.size:Int) from by omega]
  rw[e2];refine (Yr hb' hr hn gW (by unfold Bn.tc;simp) p t).mono ?_
  rintro e w' ⟨rfl,bQ,o',h1,h2,h3⟩;exact⟨rfl,bQ,o',by rw[e1];exact h1,h2,h3⟩
def qqb {a wd L p q b s t:Nat}(h:BR w a wd L f)(hp:p<L)(h1:1<=q)(h2:q<=131072)(hf:f p=4*q+2) :
  Ab ANa 186 #[Ah (some ⟨a,0,none⟩),p,DN b s t] w fun e w'=>e=O (Ak #[DN b s t,q,()])/\Ae w w w':=by
 have HA:=Qa (fun (W:Aa)(hb:Ae w w W)=>Uq (h.below hb) hp q h1 h2 hf)
 clear h hp h1 h2 hf;obtain⟨W,hW⟩:=Ja0 ((w.alloc (ANb #[b,s,t] 135)).alloc (ANb #[(),(),()] 135));have bW:Ae w w W:=by rw[hW];exact qc (qc (qd _) _) _
 have jS:An W w #[b,s,t] 135:=by rw[hW];exact (An.new _ _ _).alloc _
 have jR:An W (w.1.size+1) #[(),(),()] 135:=by rw[hW];exact An.Ax _ _ _ _ _ (by simp) rfl
 go_in;go_wp2_with fail;rw[<-hW];clear hW;refine (HA.o _ bW).mono ?_
 rintro e w1 ⟨rfl,rfl⟩
 have cS:=jS.cell;have cR:=jR.cell;have zR:=jR.free;have lR:=jR.lt;go_wp2_with fail;refine bodyPost_ret (v:=Ak #[DN b s t,q,()]) (by simp[results,results186,go_sem,cR]) rfl ⟨rfl,?_⟩
 repeat (first|exact bW|refine qo ?_ (by show w.1.size<=w.1.size+1;omega) _)
end
end
section
open Hp
def Tb (l m:List (Nat×Ob))(p:Nat):lk (l++m) p=(lk l p).or (lk m p):=by
 induction l with
 | nil=>simp[lk]
 | cons x l ih =>
  obtain⟨q,o⟩:=x;show (if q=p then some o else lk (l++m) p)=aS (if q=p then some o else lk l p) (lk m p);split
  ·simp
  ·exact ih
def dn {l:List (Nat×Ob)}{p:Nat}{ob:Ob}(h:lk l p=some ob)(m:List (Nat×Ob)):lk (l++m) p=some ob:=by rw[Tb,h];rfl
def lr {l:List (Nat×Ob)}{b t p:Nat}(hl:vj b l t)(hk:Kj l)(hp:t<=p):lk l p=none:=by
 cases h:lk l p with
 | none=>rfl
 | some ob =>
  have h1:=zd _ _ _ hl _ (zh h);have h2:=zi _ (Ob.AP (hk _ (zh h))).2;simp only at h1 h2;omega
def Tc {H:Hp}(hk:H.ok)(ob:Ob):lk (H.cur++[(H.top,ob)]) H.top=some ob:=by
 rw[Tb,lr hk.cl hk.ck (Qk _)];simp[lk]
def Us:∀ (l m:List (Nat×Ob))(b t:Nat),vj b (l++m) t->∃ s,vj b l s/\vj s m t
 | [],m,b,t,h=>⟨b,rfl,h⟩
 | (p,o)::l,m,b,t,h=>by
  obtain⟨s,h1,h2⟩:=Us l m _ t h.2;exact⟨s,⟨h.1,h1⟩,h2⟩
def U8 (H:Hp):Prop:=∃ a b,H.cur=a++b/\vj (H.base H.use) a H.scan
structure Hp.wf (H:Hp):Prop where
 ok:H.ok
 wl:H.AA.length<=H.Ap
 fl:H.final.length<=H.Ap
 sc:H.AK=true->U8 H
 gn:∀ x ∈ H.old,∀ q,x.2.2=some q->∃ ob,lk H.cur q=some ob/\ob.AL=x.2.1.AL
 wk:∀ p ∈ H.AA,(∃ ob,lk H.cur p=some ob/\1<=ob.AL.p)\/∃ z,Be H.old p=some z/\1<=z.1.AL.p
def mf {H:Hp}{p q:Nat}{ob:Ob}(h:lk H.cur q=some ob):lk (H.AG p).1.cur q=some ob:=by
 unfold Hp.AG;split
 ·exact h
 ·exact h
 ·exact dn h _
def yh {H:Hp}(p:Nat):(H.AG p).1.size=H.size/\(H.AG p).1.use=H.use/\(H.AG p).1.AK=H.AK/\(H.AG p).1.scan=H.scan/\(H.AG p).1.Ap=H.Ap/\(H.AG p).1.AA=H.AA/\(H.AG p).1.final=H.final/\(H.AG p).1.Ca=H.Ca:=by
 unfold Hp.AG;split<;>exact⟨rfl,rfl,rfl,rfl,rfl,rfl,rfl,rfl⟩
def qnb {l:List (Nat×Ob×Option Nat)}{p q:Nat}{x:Nat×Ob×Option Nat}(h:x ∈ qw l p q):x ∈ l\/(x.1=p/\x.2.2=some q/\∃ y ∈ l,y.1=p/\y.2.1=x.2.1):=by
 unfold qw at h;obtain⟨z,hz,rfl⟩:=Qt.1 h;split
 ·rename_i e;exact .inr ⟨e,rfl,z,hz,e,rfl⟩
 ·exact .inl hz
def JA {H:Hp}(hk:H.ok){x y:Nat×Ob×Option Nat}(hx:x ∈ H.old)(hy:y ∈ H.old)(e:x.1=y.1):x.2.1=y.2.1:=by
 have h1:(x.1,x.2.1) ∈ H.Ch:=Qt.2 ⟨x,hx,rfl⟩;have h2:(x.1,y.2.1) ∈ H.Ch:=Qt.2 ⟨y,hy,by rw[e]⟩
 exact rq hk.ol hk.ok h1 h2
def Hp.Ez {H:Hp}(h:H.wf)(p:Nat):(H.AG p).1.wf:=by
 obtain⟨s1,s2,s3,s4,s5,s6,s7,s8⟩:=yh (H:=H) p;refine⟨Hp.Ey h.ok p,by rw[s5,s6];exact h.wl,by rw[s5,s7];exact h.fl,fun hm=>?_,?_,fun q hq=>?_⟩
 ·obtain⟨a,b,e,hl⟩:=h.sc (by rw[<-s3];exact hm)
  unfold U8 Hp.base;rw[s1,s2,s4];unfold Hp.AG;split
  ·exact⟨a,b,e,hl⟩
  ·exact⟨a,b,e,hl⟩
  ·exact⟨a,b++[_],by show H.cur++_=_;rw[e,aj],hl⟩
 ·cases hp:Be H.old p with
  | none=>rw[H.CW hp];exact h.gn
  | some z =>
   obtain⟨ob,g⟩:=z
   cases g with
   | some q=>rw[H.CV hp];exact h.gn
   | none =>
    rw[H.Cv hp];intro x hx q hq;rcases qnb (show x ∈ qw H.old p H.top from hx) with hx|⟨e1,e2,y,hy,e3,e4⟩
    ·obtain⟨dH,h1,h2⟩:=h.gn x hx q hq
     exact⟨dH,dn h1 _,h2⟩
    ·rw[e2]at hq
     injection hq with hq;subst hq;refine⟨ob,Tc h.ok ob,?_⟩;have h5:=JA h.ok (zy hp) hy (by rw[e3])
     simp only at h5;rw[<-e4,<-h5]
 ·rw[s6]at hq
  rcases h.wk q hq with ⟨ob,h1,h2⟩|⟨z,h1,h2⟩
  ·exact .inl ⟨ob,mf h1,h2⟩
  ·refine .inr ?_
   unfold Hp.AG;split
   ·exact⟨z,h1,h2⟩
   ·exact⟨z,h1,h2⟩
   ·show ∃ z,Be (qw H.old p H.top) q=some z/\_
    rw[br];split
    ·rename_i e;subst e;rw[h1];exact⟨_,rfl,h2⟩
    ·exact⟨z,h1,h2⟩
def Hp.Ay (H:Hp):List Nat->Hp×List Nat
 | []=>(H,[])
 | p::l=>(((H.AG p).1.Ay l).1,(H.AG p).2::((H.AG p).1.Ay l).2)
def Hp.Cu:∀ (l:List Nat){H:Hp},H.wf->(H.Ay l).1.wf
 | [],_,h=>h
 | p::l,_,h=>Hp.Cu l (Hp.Ez h p)
def ku:∀ (l:List Nat)(H:Hp),(H.Ay l).2.length=l.length
 | [],_=>rfl
 | _::l,H=>by show (_::_).length=_;simp[ku l]
def ri:∀ (l:List Nat){H:Hp}{q:Nat}{ob:Ob},lk H.cur q=some ob->lk (H.Ay l).1.cur q=some ob
 | [],_,_,_,h=>h
 | _::l,_,_,_,h=>ri l (mf h)
def zw:∀ (l:List Nat)(H:Hp),(H.Ay l).1.size=H.size/\(H.Ay l).1.use=H.use/\(H.Ay l).1.AK=H.AK/\(H.Ay l).1.scan=H.scan/\(H.Ay l).1.Ap=H.Ap/\(H.Ay l).1.AA=H.AA/\(H.Ay l).1.final=H.final/\(H.Ay l).1.Ca=H.Ca
 | [],_=>⟨rfl,rfl,rfl,rfl,rfl,rfl,rfl,rfl⟩
 | p::l,H=>by
  obtain⟨a1,a2,a3,a4,a5,a6,a7,a8⟩:=zw l (H.AG p).1;obtain⟨s1,s2,s3,s4,s5,s6,s7,s8⟩:=yh (H:=H) p;exact⟨a1.trans s1,a2.trans s2,a3.trans s3,a4.trans s4,a5.trans s5,a6.trans s6,a7.trans s7,a8.trans s8⟩
def Tg {H:Hp}(hk:H.ok):H.top<=32769:=by
 have:=hk.room;have:=hk.sz;have:=H.Bt H.use;omega
def Dy {H:Hp}(hk:H.ok){p:Nat}(hp:p<=131072):(H.AG p).2<=131072:=by
 cases h:Be H.old p with
 | none=>rw[H.CW h];exact hp
 | some z =>
  obtain⟨ob,g⟩:=z
  cases g with
  | some q=>rw[H.CV h];exact (hk.gone _ (zy h) q rfl).2
  | none=>rw[H.Cv h];have:=Tg hk;show H.top<=_;omega
def nr:∀ (l:List Nat){H:Hp},H.ok->(∀ p ∈ l,p<=131072)->∀ q ∈ (H.Ay l).2,q<=131072
 | [],_,_,_,q,hq=>by cases hq
 | p::l,H,hk,hp,q,hq=>by
  rcases List.mem_cons.1 (show q ∈ (H.AG p).2::_ from hq) with rfl|hq
  ·exact Dy hk (hp p (.head _))
  ·exact nr l (Hp.Ey hk p) (fun x hx=>hp x (.tail _ hx)) q hq
def PS {H:Hp}(h:H.wf){p:Nat}{ob dH:Ob}(hp:lk H.cur p=some ob)(ho:dH.ok)(hs:dH.AL=ob.AL):Hp.wf { H with cur:=up H.cur p dH }:=by
 have hsz:dH.size=ob.size:=by unfold Ob.size;rw[hs]
 have hup:∀ {q:Nat}{x:Ob},lk H.cur q=some x->∃ y,lk (up H.cur p dH) q=some y/\y.AL=x.AL:=by
  intro q x hq;rw[ND];split
  ·rename_i e;subst e;rw[hp]at hq ⊢;injection hq with hq;subst hq;exact⟨_,rfl,hs⟩
  ·exact⟨x,hq,rfl⟩
 refine⟨Hp.Dz h.ok hp ho hsz,h.wl,h.fl,fun hm=>?_,fun x hx q hq=>?_,fun q hq=>?_⟩
 ·obtain⟨a,b,e,hl⟩:=h.sc hm
  refine⟨up a p dH,up b p dH,?_,?_⟩
  ·show up H.cur p dH=_
   rw[e];unfold up;simp
  ·refine SJ _ _ _ _ _ (fun y hy=>?_) hl
   rw[hsz,rq h.ok.cl h.ok.ck (zh hp) (show (p,y) ∈ H.cur by rw[e];exact Qs.2 (.inl hy))]
 ·obtain⟨y,h1,h2⟩:=h.gn x hx q hq
  obtain⟨z,h3,h4⟩:=hup h1;exact⟨z,h3,h4.trans h2⟩
 ·rcases h.wk q hq with ⟨y,h1,h2⟩|h1
  ·obtain⟨z,h3,h4⟩:=hup h1
   exact .inl ⟨z,h3,by rw[h4];exact h2⟩
  ·exact .inr h1
def Hp.wf.Ek {H:Hp}(h:H.wf){p:Nat}{ob:Ob}(hp:lk H.cur p=some ob):ob.ok:=h.ok.ck _ (zh hp)
def Hp.AY (H:Hp)(p i:Nat):Hp×Nat×Nat:=
 match lk H.cur p with
 | none=>(H,0,70)
 | some ob=>match ob.AB[i]? with
  | none=>(H,0,71)
  | some x=>if (Be H.old x).isSome then ({ (H.AG x).1 with cur:=up (H.AG x).1.cur p (ob.Bh i (H.AG x).2) },(H.AG x).2,0) else (H,x,0)
def Hp.Bj (H:Hp)(p i q:Nat):Hp×Nat:=
 match lk H.cur p with
 | none=>(H,70)
 | some ob=>if q≠0/\lk H.cur q=none then (H,70) else if ob.AL.p<=i then (H,71) else ({ H with cur:=up H.cur p (ob.Bh i q) },0)
def Hp.BB (H:Hp)(p i:Nat)(n:Int):Hp×Nat:=
 match lk H.cur p with
 | none=>(H,70)
 | some ob=>if ob.AL.d<=i then (H,71) else ({ H with cur:=up H.cur p (ob.CX i n) },0)
def Hp.AX (H:Hp)(p:Nat)(b:Bool):Hp×Nat:=
 match lk H.cur p with
 | none=>(H,70)
 | some ob=>({ H with cur:=up H.cur p (ob.CI b) },0)
def Hp.AM (H:Hp)(p v:Nat):Hp×Nat:=
 match lk H.cur p with
 | none=>(H,70)
 | some ob=>({ H with cur:=up H.cur p (ob.B8 v) },0)
def PL {H:Hp}(hk:H.ok){q:Nat}(h:¬(q≠0/\lk H.cur q=none)):q<=131072:=by
 by_cases h0:q=0
 ·omega
 ·cases hq:lk H.cur q with
  | none=>exact absurd ⟨h0,hq⟩ h
  | some ob =>
   have h1:=zd _ _ _ hk.cl _ (zh hq);have h2:=Tg hk;simp only at h1;omega
def Hp.left (H:Hp):Nat:=H.base H.use+H.size-H.top-H.Bv
def Hp.roomy (H:Hp)(s:BQ):Bool:=decide (BG (3+s.p+s.d)<=H.left)&&decide (H.Ap<1099511627776)
def Hp.AR (H:Hp)(s:BQ):Hp×Nat×Nat:=if H.roomy s=true then (H.lay s,H.top,0) else (H,0,100)
def Hp.Jy {H:Hp} (h:H.wf) {s:BQ} (hs:s.ok) (hr:H.roomy s=true):(H.lay s).wf:=by
 unfold Hp.roomy Hp.left at hr;simp only[Bool.and_eq_true,decide_eq_true_eq]at hr;obtain⟨hr,eO⟩:=hr;have hn:=Ob.JP hs (H.Ap+1) (by omega)
 have hroom:=h.ok.room;have hrd:=zi (3+s.p+s.d) (by have:=hs.1;have:=hs.2.1;omega)
 have k:=h.ok;have jM:∀ {q:Nat} {ob:Ob},lk H.cur q=some ob->lk (H.lay s).cur q=some ob:=fun hq=>dn hq _
 refine⟨⟨k.sz,gg _ _ _ _ k.cl,?_,k.ol,k.ok,k.ot,k.still,k.GL,?_,?_,k.CE,k.gone⟩,?_,?_,fun hm=>?_,fun x hx q hq=>?_,fun p hp=>?_⟩
 ·intro x hx
  rcases Qs.1 (show x ∈ H.cur++[(H.top,Ob.new s (H.Ap+1))] from hx) with hx|hx
  ·exact k.ck x hx
  ·rw[Zb.1 hx];exact hn
 ·show H.top+BG (3+s.p+s.d)+H.Bv<=H.base H.use+H.size
  omega
 ·show H.Ap+1<=_
  omega
 ·show aC (if s.AA then _ else _)<=H.Ap+1
  have:=h.wl;split<;>simp<;>omega
 ·show aC (if s.final then _ else _)<=H.Ap+1
  have:=h.fl;split<;>simp<;>omega
 ·obtain⟨a,b,e,hl⟩:=h.sc hm
  exact⟨a,b++[_],by show H.cur++_=_;rw[e,aj],hl⟩
 ·obtain⟨ob,h1,h2⟩:=h.gn x hx q hq
  exact⟨ob,jM h1,h2⟩
 ·have hp':p ∈ (if s.AA then H.AA++[H.top] else H.AA):=hp
  have hold:p ∈ H.AA->(∃ ob,lk (H.lay s).cur p=some ob/\1<=ob.AL.p)\/∃ z,Be (H.lay s).old p=some z/\1<=z.1.AL.p:=fun hp=>by
   rcases h.wk p hp with ⟨ob,h1,h2⟩|h1
   ·exact .inl ⟨ob,jM h1,h2⟩
   ·exact .inr h1
  split at hp'
  ·rename_i hw
   rcases Qs.1 hp' with hp'|hp'
   ·exact hold hp'
   ·rw[Zb.1 hp']
    exact .inl ⟨_,Tc k _,by show 1<=s.p;have:=(hs.2.2 hw).1;omega⟩
  ·exact hold hp'
def Hp.flip (H:Hp):Hp:=
 { H with use:=!H.use,cur:=[],top:=H.base (!H.use),AK:=true,old:=H.cur.map fun x=>(x.1,x.2,none),Ca:=H.top,Bv:=H.top-H.base H.use,scan:=H.base (!H.use) }
def Xp (H:Hp):H.flip.Ch=H.cur:=by
 show ((H.cur.map fun x=>(x.1,x.2,(none:Option Nat))).map fun x=>(x.1,x.2.1))=H.cur
 rw[aa];exact aM _
def Wx:∀ (l:List (Nat×Ob))(b t:Nat),vj b l t->gl (l.map fun x=>(x.1,x.2,none))=t-b
 | [],b,t,h=>by rw[vj]at h;simp[gl];omega
 | (p,o)::l,b,t,h=>by
  have ih:=Wx l _ _ h.2;have:=pi _ _ _ h.2;show BG o.size+gl (l.map _)=_;omega
def Xd (l:List (Nat×Ob))(p:Nat):Be (l.map fun x=>(x.1,x.2,none)) p=(lk l p).map fun o=>(o,none):=by
 induction l with
 | nil=>rfl
 | cons x l ih =>
  obtain⟨q,o⟩:=x;show Be ((q,o,none)::l.map fun x=>(x.1,x.2,none)) p=_;unfold Be lk;split
  ·rfl
  ·exact ih
def Hp.EX {H:Hp}(h:H.wf)(hm:H.AK=false):H.flip.wf:=by
 have k:=h.ok;have hold:=k.still hm;have hroom:=k.room;have hb0:=H.Bt (!H.use);have hb1:=H.Bt H.use;have hsz:=k.sz;have htop:=vg k;refine⟨⟨k.sz,rfl,fun x hx=>(by cases hx),?_,?_,?_,fun hm'=>(by cases hm'),?_,?_,k.Bc,?_,?_⟩,h.wl,h.fl,fun _=>⟨[],[],rfl,rfl⟩,?_,?_⟩
 ·rw[Xp];show vj (H.base (!(!H.use))) H.cur H.top;rw[Bool.not_not];exact k.cl
 ·rw[Xp];exact k.ck
 ·show H.top<=H.base (!(!H.use))+H.size
  rw[Bool.not_not];omega
 ·show H.top-H.base H.use=gl (H.cur.map fun x=>(x.1,x.2,none))
  rw[Wx _ _ _ k.cl]
 ·show H.base (!H.use)+(H.top-H.base H.use)<=H.base (!H.use)+H.size
  omega
 ·show H.base (!H.use)<=65536
  omega
 ·intro x hx q hq
  obtain⟨z,_,rfl⟩:=Qt.1 hx
  cases hq
 ·intro x hx q hq
  obtain⟨z,_,rfl⟩:=Qt.1 hx
  cases hq
 ·intro p hp
  rcases h.wk p hp with ⟨ob,h1,h2⟩|⟨z,h1,h2⟩
  ·refine .inr ⟨(ob,none),?_,h2⟩
   show Be (H.cur.map fun x=>(x.1,x.2,none)) p=_;rw[Xd,h1];rfl
  ·rw[hold]at h1;simp[Be]at h1
def Hp.Bf (H:Hp):Hp×Bool:=
 if H.AK=false\/H.scan=H.top then (H,false) else match lk H.cur H.scan with
 | none=>(H,false)
 | some ob=>if ob.AL.AA then ({ H with scan:=H.scan+BG ob.size },true) else
   ({ (H.Ay ob.AB).1 with cur:=up (H.Ay ob.AB).1.cur H.scan { ob with AB:=(H.Ay ob.AB).2 },scan:=H.scan+BG ob.size },true)
def SX {H:Hp}(h:H.wf)(hm:H.AK=true)(hs:H.scan≠H.top):∃ ob,lk H.cur H.scan=some ob/\∃ a b,H.cur=a++(H.scan,ob)::b/\vj (H.base H.use) a H.scan:=by
 obtain⟨a,b,e,hl⟩:=h.sc hm;have hcl:=h.ok.cl;rw[e]at hcl;obtain⟨s,h1,h2⟩:=Us a b _ _ hcl;have hu:s=H.scan:=by
  have:∀ (l:List (Nat×Ob))(b s t:Nat),vj b l s->vj b l t->s=t:=by
   intro l;induction l with
   | nil=>intro b s t h1 h2;rw[vj]at h1 h2;omega
   | cons x l ih=>intro b s t h1 h2;exact ih _ _ _ h1.2 h2.2
  exact this _ _ _ _ h1 hl
 subst hu
 cases b with
 | nil=>rw[vj]at h2;exact absurd h2.symm hs
 | cons x b =>
  obtain⟨q,ob⟩:=x;have hq:q=H.scan:=h2.1;subst hq;refine⟨ob,?_,a,b,e,hl⟩;have hk:Kj a:=fun z hz=>h.ok.ck z (by rw[e];exact Qs.2 (.inl hz))
  rw[e,Tb,lr hl hk (Qk _)];simp[lk]
def QH (a b:List (Nat×Ob))(p:Nat)(o:Ob):up (a++b) p o=up a p o++up b p o:=by unfold up;simp
def UO {H:Hp}(h:H.wf){ob:Ob}(hp:lk H.cur H.scan=some ob):H.scan+BG ob.size<=65536:=by
 have h1:=zd _ _ _ h.ok.cl _ (zh hp);have:=Tg h.ok;simp only at h1;omega
def Wn {a:List (Nat×Ob)}{b s:Nat}{o:Ob}(h:vj b a s):vj b (a++[(s,o)]) (s+BG o.size):=gg a b s o h
def WS:∀ (l:List Nat)(H:Hp),∃ m,(H.Ay l).1.cur=H.cur++m
 | [],H=>⟨[],by simp[Hp.Ay]⟩
 | p::l,H=>by
  obtain⟨m,hm⟩:=WS l (H.AG p).1;show ∃ m,((H.AG p).1.Ay l).1.cur=_;rw[hm];unfold Hp.AG;split
  ·exact⟨m,rfl⟩
  ·exact⟨m,rfl⟩
  ·exact⟨_::m,by show (H.cur++_)++m=_;rw[aj];rfl⟩
def Xq {H:Hp}(h:H.wf){n:Nat}(hn:n<=65536)(hs:U8 { H with scan:=n }):Hp.wf { H with scan:=n }:=
 ⟨⟨h.ok.sz,h.ok.cl,h.ok.ck,h.ok.ol,h.ok.ok,h.ok.ot,h.ok.still,h.ok.GL,h.ok.room,h.ok.Bc,hn,h.ok.gone⟩,h.wl,h.fl,fun _=>hs,h.gn,h.wk⟩
def Hp.Fx {H:Hp}(h:H.wf):H.Bf.1.wf:=by
 unfold Hp.Bf;split
 ·exact h
 ·rename_i hc
  have hm:H.AK=true:=by cases hm:H.AK<;>simp[hm]at hc ⊢
  obtain⟨ob,hp,a,b,e,hl⟩:=SX h hm (fun e=>hc (.inr e));rw[hp];simp only;have ho:=h.Ek hp;split
  ·exact Xq h (UO h hp) ⟨a++[(H.scan,ob)],b,by show H.cur=_;rw[e];simp,Wn hl⟩
  ·have hw:=Hp.Cu ob.AB h
   obtain⟨s1,s2,s3,s4,s5,s6,s7,s8⟩:=zw ob.AB H;obtain⟨m,hmm⟩:=WS ob.AB H;have hp':=ri ob.AB hp;have ho':Ob.ok { ob with AB:=(H.Ay ob.AB).2 }:=⟨ho.AL,by show (H.Ay ob.AB).2.length=_;rw[ku];exact ho.lp,ho.ln,nr _ h.ok ho.ptr,ho.num,ho.Bc,ho.sec⟩
   have h2:=PS hw (dH:={ ob with AB:=(H.Ay ob.AB).2 }) hp' ho' rfl;refine Xq (H:={ (H.Ay ob.AB).1 with cur:=up (H.Ay ob.AB).1.cur H.scan { ob with AB:=(H.Ay ob.AB).2 } }) h2 (UO h hp) ?_;refine⟨up (a++[(H.scan,ob)]) H.scan { ob with AB:=(H.Ay ob.AB).2 },up (b++m) H.scan { ob with AB:=(H.Ay ob.AB).2 },?_,?_⟩
   ·show up (H.Ay ob.AB).1.cur H.scan _=_
    rw[hmm,e,<-QH];simp
   ·have hbase:Hp.base { (H.Ay ob.AB).1 with cur:=up (H.Ay ob.AB).1.cur H.scan { ob with AB:=(H.Ay ob.AB).2 },scan:=H.scan+BG ob.size } (H.Ay ob.AB).1.use=H.base H.use:=by unfold Hp.base;rw[s2];simp only[s1]
    refine hbase.symm▸?_;refine SJ (a++[(H.scan,ob)]) _ _ _ _ (fun y hy=>?_) (Wn hl);have hy':(H.scan,y) ∈ H.cur:=by
     rw[e];rcases Qs.1 hy with hy|hy
     ·exact Qs.2 (.inl hy)
     ·rw[Zb.1 hy];simp
    rw[rq h.ok.cl h.ok.ck hy' (zh hp)];rfl
def Hp.nowAt (H:Hp)(p:Nat):Option Nat:=match Be H.old p with|none=>some p|some (_,g)=>g
def Hp.stay (H:Hp)(l:List Nat):List Nat:=l.filterMap H.nowAt
def Hp.B6 (H:Hp)(l:List Nat):List Nat:=l.filter fun p=>(H.nowAt p).isNone
def kw (H:Hp)(l:List Nat):(H.stay l).length+(H.B6 l).length=l.length:=by
 induction l with
 | nil=>rfl
 | cons p l ih =>
  unfold Hp.stay Hp.B6 at *;rw[List.filterMap_cons,List.filter_cons]
  cases H.nowAt p<;>simp<;>omega
def fc {H:Hp}(h:H.wf){l:List Nat}(hl:l.length<=H.Ap):Hp.wf { H with final:=l }:=
 ⟨⟨h.ok.sz,h.ok.cl,h.ok.ck,h.ok.ol,h.ok.ok,h.ok.ot,h.ok.still,h.ok.GL,h.ok.room,h.ok.Bc,h.ok.CE,h.ok.gone⟩,h.wl,hl,h.sc,h.gn,h.wk⟩
def Hp.A4 (H:Hp):Hp×List Nat:=
 if H.AK=false then (H,[]) else Hp.Ay { H with final:=H.stay H.final } (H.B6 H.final)
def Hp.Gp {H:Hp}(h:H.wf):H.A4.1.wf:=by
 unfold Hp.A4;split
 ·exact h
 ·refine Hp.Cu _ (fc h ?_)
  have:=kw H H.final;have:=h.fl;omega
def Hp.drop1 (H:Hp)(at':Nat):Hp×List Nat:=
 match lk H.cur at' with
 | none=>(H,[])
 | some ob=>match ob.AB[0]? with
  | none=>(H,[])
  | some x=>match Be H.old x with
   | none=>(H,[])
   | some (_,some q)=>({ H with cur:=up H.cur at' (ob.Bh 0 q) },[])
   | some (_,none)=>({ H with cur:=up H.cur at' (ob.Bh 0 0) },[ob.Ap])
def Hp.AV (H:Hp):List Nat->Hp×List Nat
 | []=>(H,[])
 | p::l=>(((H.drop1 p).1.AV l).1,(H.drop1 p).2++((H.drop1 p).1.AV l).2)
def Hp.rest (H:Hp):Hp:={ H with old:=[],Ca:=H.base (!H.use),AK:=false,Bv:=0 }
def Hp.settled (H:Hp):Hp:={ H with AA:=H.stay H.AA,final:=H.stay H.final }
def Hp.drop (H:Hp):Hp×List Nat×Bool:=
 if H.AK=false\/H.scan≠H.top then (H,[],false) else
  ((H.settled.AV H.settled.AA).1.rest,(H.settled.AV H.settled.AA).2,true)
def Hp.Hu {H:Hp}(h:H.wf)(p:Nat):(H.drop1 p).1.wf:=by
 unfold Hp.drop1;split
 ·exact h
 ·rename_i ob hp
  split
  ·exact h
  ·split
   ·exact h
   ·rename_i x q hx
    exact PS h hp (Ob.Cw (h.Ek hp) 0 q (h.ok.gone _ (zy hx) q rfl).2) rfl
   ·exact PS h hp (Ob.Cw (h.Ek hp) 0 0 (by omega)) rfl
def Hp.DZ:∀ (l:List Nat){H:Hp},H.wf->(H.AV l).1.wf
 | [],_,h=>h
 | p::l,_,h=>Hp.DZ l (Hp.Hu h p)
def qmg (H:Hp)(p:Nat):(H.drop1 p).1.old=H.old/\(H.drop1 p).1.AA=H.AA/\(H.drop1 p).1.scan=H.scan/\(H.drop1 p).1.top=H.top/\(H.drop1 p).1.use=H.use/\(H.drop1 p).1.size=H.size/\(H.drop1 p).1.AK=H.AK:=by
 unfold Hp.drop1
 (repeat' split)<;>exact⟨rfl,rfl,rfl,rfl,rfl,rfl,rfl⟩
def uq:∀ (l:List Nat)(H:Hp),(H.AV l).1.old=H.old/\(H.AV l).1.AA=H.AA/\(H.AV l).1.scan=H.scan/\(H.AV l).1.top=H.top/\(H.AV l).1.use=H.use/\(H.AV l).1.size=H.size/\(H.AV l).1.AK=H.AK
 | [],_=>⟨rfl,rfl,rfl,rfl,rfl,rfl,rfl⟩
 | p::l,H=>by
  obtain⟨a1,a2,a3,a4,a5,a6,a7⟩:=uq l (H.drop1 p).1;obtain⟨b1,b2,b3,b4,b5,b6,b7⟩:=qmg H p;exact⟨a1.trans b1,a2.trans b2,a3.trans b3,a4.trans b4,a5.trans b5,a6.trans b6,a7.trans b7⟩
def US {H:Hp}(h:H.wf){p:Nat}(hp:p ∈ H.stay H.AA):∃ ob,lk H.cur p=some ob/\1<=ob.AL.p:=by
 unfold Hp.stay at hp;obtain⟨q,hq,e⟩:=List.mem_filterMap.1 hp;unfold Hp.nowAt at e;split at e
 ·rename_i hn
  injection e with e;subst e;rcases h.wk q hq with h1|⟨z,h1,_⟩
  ·exact h1
  ·rw[hn]at h1;cases h1
 ·rename_i ob g hn
  subst e;obtain⟨dH,h1,h2⟩:=h.gn _ (zy hn) p rfl;refine⟨dH,h1,?_⟩;rw[h2];rcases h.wk q hq with ⟨x,h3,h4⟩|⟨z,h3,h4⟩
  ·have h5:=Hp.apart h.ok (zh h3) (zy hn)
   have h6:=Ob.AP (h.Ek h3);have h7:=Ob.AP (h.ok.ok _ (Qt.2 ⟨_,zy hn,rfl⟩));simp only at h5 h6 h7;omega
  ·rw[hn]at h3;injection h3 with h3;subst h3;exact h4
def Hp.DV {H:Hp}(h:H.wf):H.settled.wf:=by
 have h1:=kw H H.AA;have h2:=kw H H.final;have h3:=h.wl;have h4:=h.fl;exact⟨⟨h.ok.sz,h.ok.cl,h.ok.ck,h.ok.ol,h.ok.ok,h.ok.ot,h.ok.still,h.ok.GL,h.ok.room,h.ok.Bc,h.ok.CE,h.ok.gone⟩,by show (H.stay H.AA).length<=H.Ap;omega,by show (H.stay H.final).length<=H.Ap;omega,h.sc,h.gn,fun p hp=>.inl (US h hp)⟩
def Hp.ML {H:Hp}(h:H.wf)(hw:∀ p ∈ H.AA,∃ ob,lk H.cur p=some ob/\1<=ob.AL.p):H.rest.wf:=by
 have k:=h.ok;have hroom:=k.room;exact⟨⟨k.sz,k.cl,k.ck,rfl,fun x hx=>(by cases hx),Nat.le_add_right _ _,fun _=>rfl,rfl,by show H.top+0<=H.base H.use+H.size;omega,k.Bc,k.CE,fun x hx=>(by cases hx)⟩,h.wl,h.fl,fun hm=>(by cases hm),fun x hx=>(by cases hx),fun p hp=>.inl (hw p hp)⟩
def XZ {H:Hp}{p q:Nat}{ob dH:Ob}(hp:lk H.cur p=some ob)(hs:dH.AL=ob.AL)(hq:∃ x,lk H.cur q=some x/\1<=x.AL.p):∃ x,lk (up H.cur p dH) q=some x/\1<=x.AL.p:=by
 obtain⟨x,h1,h2⟩:=hq;rw[ND];split
 ·rename_i e;subst e;rw[hp]at h1 ⊢;injection h1 with h1;subst h1;exact⟨_,rfl,by rw[hs];exact h2⟩
 ·exact⟨x,h1,h2⟩
def qi0 {H:Hp}(p:Nat){q:Nat}(hq:∃ x,lk H.cur q=some x/\1<=x.AL.p):∃ x,lk (H.drop1 p).1.cur q=some x/\1<=x.AL.p:=by
 unfold Hp.drop1;split
 ·exact hq
 ·rename_i ob hp
  split
  ·exact hq
  ·split
   ·exact hq
   ·exact XZ hp rfl hq
   ·exact XZ hp rfl hq
def bp:∀ (l:List Nat){H:Hp}{q:Nat},(∃ x,lk H.cur q=some x/\1<=x.AL.p)->∃ x,lk (H.AV l).1.cur q=some x/\1<=x.AL.p
 | [],_,_,h=>h
 | p::l,_,_,h=>bp l (qi0 p h)
def Hp.F3 {H:Hp}(h:H.wf):H.drop.1.wf:=by
 unfold Hp.drop;split
 ·exact h
 ·have hs:=Hp.DV h
  refine Hp.ML (Hp.DZ _ hs) fun p hp=>bp _ ?_;rw[(uq _ _).2.1]at hp;exact US h hp
end
section
open Go.RowKit Hp
attribute [local go_sem ↓] Go.wp_at_zero Go.wp_at_succ
def Wr.EG {b:Nat}{w w':Aa}(h:Wr b w.drew w'):Wr b w w':=⟨h.os,h.tape,h.output,h.size,h.block⟩
def Mx {w:Aa} {l:Bn} {vc vo vw vf:Ac} {sz tp eP dF CE dB p rd L:Nat} {gN:Bool} {f':Nat->Nat} (hb:An w l.h #[Ah (some ⟨l.a,0,none⟩),I Z 1,sz,tp,I Z (1+(sz:Int)),sz,eP,vc,vo,(),gN,dF,I Z CE,dB,vw,vf] 141)
  (hth:Ab ANa 185 #[Ah (some ⟨l.h,0,none⟩),p] w fun e w'=>e=O (.bool true)/\Ae w w w')
  (hcp:∀ W,Ae w w W->Ab ANa 186 #[Ah (some ⟨l.a,0,none⟩),p,Al #[I Z 1,sz,tp]] W fun e w'=>e=O (Ak #[Al #[I Z 1,sz,I Z ((tp+rd:Nat):Int)],tp,()])/\Turned W w' l.a l.wd L f')
  (hne:l.h≠l.wd) (hwd:l.wd<w.1.size) (hla:l.a<w.1.size) (hrd:1<=rd/\rd<=dF) (hbd:1<=tp/\sz<=16384/\tp+rd<=1+sz/\dF<=65536)
  (Q:Aa->Prop) (htk:∀ W:Aa,BR W l.a l.wd L f'->Wr l.wd w W->An (W.setCell ⟨l.h,11,none⟩ (I Z ((dF-rd:Nat):Int))) l.h #[Ah (some ⟨l.a,0,none⟩),I Z 1,sz,tp,I Z (1+(sz:Int)),sz,eP,vc,vo,(),gN,I Z ((dF-rd:Nat):Int),I Z CE,dB,vw,vf] 141 ->
   Ab ANa 187 #[Ah (some ⟨l.h,0,none⟩),Al #[I Z 1,sz,I Z ((tp+rd:Nat):Int)],tp] (W.setCell ⟨l.h,11,none⟩ (I Z ((dF-rd:Nat):Int))) fun e w'=>e=O (Ak #[])/\Q w') :
  Ab ANa 122 #[Ah (some ⟨l.h,0,none⟩),p] w fun e w'=>e=O tp/\Q w':=by
 obtain⟨tr,htr⟩:=Ja0 (tp+rd);rw[<-htr]at hcp htk hbd;have nT:=Qa (fun W=>ur (b:=1) (s:=sz) (t:=tr) ⟨by omega,by omega,by omega,by omega⟩ W)
 have rH:=Qa (fun W=>ur (b:=1) (s:=sz) (t:=tp) ⟨by omega,by omega,by omega,by omega⟩ W)
 obtain⟨ua,hua⟩:=Ja0 (tr-1);obtain⟨ub,hub⟩:=Ja0 (tp-1);obtain⟨pW,how⟩:=Ja0 (dF-rd);have e1:IntKind.i64.wrap ((ua:Int)-(ub:Int))=(rd:Int):=by rw[af _ (by omega)];omega
 have e2:IntKind.i64.wrap ((dF:Int)-(rd:Int))=(pW:Int):=by rw[af _ (by omega)];omega
 rw[<-hua]at nT;rw[<-hub]at rH;rw[<-how]at htk;have nT:=Qa (show ∀ W:Aa,Ab ANa 119 #[Al #[I Z 1,sz,tr]] W fun e w'=>e=O ua/\Ae W W w' from by exact nT.o)
 have rH:=Qa (show ∀ W:Aa,Ab ANa 119 #[Al #[I Z 1,sz,tp]] W fun e w'=>e=O ub/\Ae W W w' from by exact rH.o)
 have nt1:((tr:Int)==(tp:Int))=false:=by rw[Qh];omega
 have nt2:((tr:Int) != (tp:Int))=true:=by rw[bne_iff_ne];omega
 have HT:=Qa hth;have HC:=Qa hcp;have HK:=Qa htk;have hlh:=hb.lt;clear hth hcp htk htr hua hub how hrd hbd;go_in;go_wp2_with fail;refine HT.o.mono ?_
 rintro e w1 ⟨rfl,hb1⟩
 have jH:=hb.below hb1 hb.lt;have c:=jH.cell;have s1:=jH.lt;go_upto_region 3 with fail;have k9:=c 9;have k1:=c 1;have k2:=c 2;have k3:=c 3;simp at k9 k1 k2 k3;have hnw:=World.new_ne w1 ⟨l.h,9,none⟩ k9;go_region_held3 (fun w'=>w'.cell? ⟨l.h,9,none⟩=some (I Z 0)/\w'.cell? ⟨l.h,1,none⟩=some (I Z 1)/\w'.cell? ⟨l.h,2,none⟩=some (I Z sz)/\w'.cell? ⟨l.h,3,none⟩=some (I Z tp)) (go_keep) (fail)
 clear c s1 k9 k1 k2 k3 hnw HT;obtain⟨W2,hW2⟩:=Ja0 ((w1.alloc (ANb #[I Z 1,sz,tp] 135)).drew);have eu:Ae w w W2:=by rw[hW2];exact qf (qc hb1 _)
 have iK:An W2 l.h #[Ah (some ⟨l.a,0,none⟩),I Z 1,sz,tp,I Z (1+(sz:Int)),sz,eP,vc,vo,(),gN,dF,I Z CE,dB,vw,vf] 141:=by rw[hW2];exact qj (jH.alloc _)
 have dC:An W2 w1 #[I Z 1,sz,tp] 135:=by rw[hW2];exact qj (An.new _ _ _)
 have nS:w.1.size<=w1.1.size:=hb1.size;rw[<-hW2];obtain⟨bS,hbS⟩:=Ja0 w1.1.size;rw[<-hbS]at dC nS ⊢;clear hW2 hbS hb1 jH hb;have cH:=iK.cell;have cS:=dC.cell;have sH:=iK.lt;have sS:=dC.lt;go_upto_region 4 with fail;go_cut [6,7,8] (fun t6 t7 t8 wx=>∃ Bx,t6=Ah (some ⟨Bx,0,none⟩)/\t7=I Z tp/\t8=I Z 0/\An wx Bx #[I Z 1,sz,tr] 135/\W2.1.size<=Bx/\BR wx l.a l.wd L f'/\Wr l.wd W2 wx)
 case first =>
  have Alq:l.a<W2.1.size:=Qn hla eu.size;have hwd2:l.wd<W2.1.size:=Qn hwd eu.size;go_region_with (first|(go_at_call 186;refine (HC.o _ (by first|exact qf eu|exact qf (qc eu _)|exact qc (qf eu) _)).mono ?_;rintro e w4 ⟨rfl,mI⟩;try (have dJ:An w4 W2 #[(),(),()] 135:=An.wr (qj (An.new W2 _ _)) mI.2 (by omega);have yQ:=dJ.cell;have zB4:=dJ.free;have sB4:=dJ.lt))|fail)
  all_goals
   go_wp2_with fail;go_meet;first
    | exact⟨_,rfl,rfl,rfl,An.new _ _ _,mI.2.size,mI.1.below (qc (qd _) _),Wr.Cb mI.2.EG (qc (qd _) _)⟩
    | exact⟨W2.1.size,rfl,rfl,rfl,by simpa using ((dJ.set 0 _).set 1 _).set 2 _,Qk _,((mI.1.Cc (by omega) (by omega) _ _).Cc (by omega) (by omega) _ _).Cc (by omega) (by omega) _ _,
      (((Wr.of_below (qc (qd W2) _)).trans mI.2.EG).Cc (Qk _) _ _ |>.Cc (Qk _) _ _).Cc (Qk _) _ _⟩
 case rest =>
  obtain⟨Bx,rfl,rfl,rfl,jB,hBx,hWd,iV⟩:=hcut;have iO:=iK.wr iV hne;have fP:=dC.wr iV (by omega)
  have HWr:=Qa ((Wr.of_below eu).trans iV);clear iK dC cH cS HC eu iV;have cB:=jB.cell;have cS:=fP.cell;have sB:=jB.lt;have sS:=fP.lt;have sH:=iO.lt;have xZ:Bx≠l.h:=by omega
  have Ano:bS≠l.h:=by omega
  have HJ:=Qa (fun (W:Aa) (hW:Ae wc wc W)=>show W.cell? ⟨l.h,11,none⟩=some (I Z dF)/\W.cell? ⟨Bx,0,none⟩=some (I Z 1)/\W.cell? ⟨Bx,1,none⟩=some (I Z sz)/\W.cell? ⟨Bx,2,none⟩=some (I Z tr)/\W.cell? ⟨bS,0,none⟩=some (I Z 1)/\W.cell? ⟨bS,1,none⟩=some (I Z sz)/\W.cell? ⟨bS,2,none⟩=some (I Z tp) from ⟨(iO.below hW sH).cell 11,(jB.below hW sB).cell 0,(jB.below hW sB).cell 1,(jB.below hW sB).cell 2,(fP.below hW sS).cell 0,(fP.below hW sS).cell 1,(fP.below hW sS).cell 2⟩);have lW:=Qa iO;have k11:wc.cell? ⟨l.h,11,none⟩=some (I Z dF):=by rw[iO.cell];rfl
  have HB0:=Qa (show Ae wc wc wc.drew from qf (qd wc));go_upto_region 8 with fail;go_region_with (first
   | (go_at_call_of 119 (Value.agg #[I Z 1,sz,tr]);with_reducible refine (nT.o _).mono ?_;rintro e w5 ⟨rfl,hb5⟩;have kb:=HB0.o.trans (hb5.mono HB0.o.size);obtain⟨y0,y1,y2,y3,y4,y5,y6⟩:=HJ.o _ kb)
   | (go_at_call_of 119 (Value.agg #[I Z 1,sz,tp]);with_reducible refine (rH.o _).mono ?_;rintro e w6 ⟨rfl,hb6⟩;have kc:=kb.trans (hb6.mono kb.size);obtain⟨z0,z1,z2,z3,z4,z5,z6⟩:=HJ.o _ kc;have zf:=(lW.o.below kc lW.o.lt).free;have zl:=(lW.o.below kc lW.o.lt).lt)
   | fail)
  all_goals
   have oU:=(show BR wc l.a l.wd L f' from hWd).below kc;have oV:=HWr.o.Cb kc;have nC:=(lW.o.below kc lW.o.lt).set 11 (I Z (pW:Int));simp at nC;have HKK:=Qa (HK.o w6 oU oV nC);have cB6:=((show An wc Bx #[I Z 1,sz,tr] 135 from jB).below kc jB.lt);have cB7:=(cB6.Ao (a:=⟨l.h,11,none⟩) xZ (I Z (pW:Int))).cell;clear oU oV nC cB6 y0 y1 y2 y3 y4 y5 y6 z0 z1 z2 z3 z4 z5 z6 zf zl hb5 hb6 kb kc cB cS k11;go_wp2_with fail;refine HKK.o.mono ?_;rintro e w7 ⟨rfl,hq⟩;go_wp2_with fail;go_ret;exact⟨rfl,hq⟩
end
section
open Go.RowKit Hp
def fo (n:Nat):Own:=ext (fun _=>(0,0)) n (1,0)
def RA (o:Own)(n m:Nat)(t:Tag)(h:n<=m):ext (ext o n t) m t=ext o n t:=by
 funext b;unfold ext;split
 ·rfl
 ·rw[if_neg (by omega)]
def N9 {n m:Nat}(h:n<=m):ext (fo n) m (1,0)=fo n:=RA _ _ _ _ h
def F4 {n b:Nat}(h:b<n):fo n b=(0,0):=qk h
def Jh {n b:Nat}(h:n<=b):fo n b=(1,0):=qq h
def Row.out {w':Aa}{n:Nat}{e:TypeId}{size k:Nat}{v:Ac}{xs:List Ac}(h:Row w' (fo n) (1,0) e size v k xs)(o:Own)(tg:Tag):Row w' (ext o n tg) tg e size v k xs:=by
 refine⟨h.own,fun b hb=>?_⟩
 have h1:=h.tag b hb;refine qq ?_;rcases Nat.lt_or_ge b n with h2|h2
 ·rw[F4 h2]at h1;simp at h1
 ·exact h2
def Row.Py {w':Aa}{n:Nat}{e:TypeId}{size k:Nat}{v:Ac}{xs:List Ac}(h:Row w' (fo n) (1,0) e size v k xs):∀ b,v.ownBlock=some b->n<=b:=fun b hb=>by
 have h1:=h.tag b hb;rcases Nat.lt_or_ge b n with h2|h2
 ·rw[F4 h2]at h1;simp at h1
 ·exact h2
def xz {w w1 w2:Aa} {o':Own} (h:Ae w w w1) (hs:Stp (fun t=>t=(1,0)) (fo w) o' w1 w2):Ae w w w2:=by
 refine ((Stp.of_below (T:=fun t=>t=(1,0)) (o:=fo w) h).trans hs).below fun b hb e=>?_
 rw[F4 hb]at e;simp at e
def yy {w w1 w2:Aa}{v':Ac}{k:Nat}{xs:List Ac}{e:TypeId}{size:Nat}(h:Ae w w w1)(hr:Row w2 (ext (fo w) w1.1.size (1,0)) (1,0) e size v' k xs):Row w2 (fo w) (1,0) e size v' k xs:=by
 rw[N9 h.size]at hr;exact hr
def Row.Gx {w:Aa}{o:Own}{t:Tag}{e:TypeId}{g n cap:Nat}{xs:List Ac}(h:Row w o t e 1 (Ai (some ⟨g,0,none⟩) n cap) n xs)(j:Nat)(u:Ac) :
  Row (w.setCell ⟨g,j,none⟩ u) o t e 1 (Ai (some ⟨g,0,none⟩) n cap) n (xs.set j u):=⟨(h.own.stored j u).1,h.tag⟩
def Row.Dj {w:Aa}{o:Own}{t:Tag}{e:TypeId}{size g n cap:Nat}{xs:List Ac}(h:Row w o t e size (Ai (some ⟨g,0,none⟩) n cap) n xs)(j:Nat)(u:Ac) :
  Row (w.setCell ⟨g,j,none⟩ u) o t e size (Ai (some ⟨g,0,none⟩) n cap) n (xs.set j u):=⟨(h.own.stored j u).1,h.tag⟩
def Row.free {w:Aa}{o:Own}{t:Tag}{e:TypeId}{size g n cap:Nat}{xs:List Ac}(h:Row w o t e size (Ai (some ⟨g,0,none⟩) n cap) n xs)(j:Nat):w.frozen? ⟨g,j,none⟩=false:=h.own.frozenAt j
def Row.blt {w:Aa}{o:Own}{t:Tag}{e:TypeId}{size g n cap:Nat}{xs:List Ac}(h:Row w o t e size (Ai (some ⟨g,0,none⟩) n cap) n xs):g<w.1.size:=by
 rcases h.own.2 with ⟨h',_⟩|⟨g',cap',cur,h',_,hg,_⟩
 ·simp at h'
 ·simp only[Value.slice.injEq,Zc,Addr.mk.injEq,and_true,true_and]at h'
  obtain⟨rfl,rfl⟩:=h';exact (Qf.1 hg).1
def Row.EB {w:Aa}{o:Own}{t:Tag}{e:TypeId}{size g n cap:Nat}{xs:List Ac}(h:Row w o t e size (Ai (some ⟨g,0,none⟩) n cap) n xs):o g=t:=h.tag g rfl
def Row.shape {w:Aa}{o:Own}{t:Tag}{e:TypeId}{size:Nat}{v:Ac}{n:Nat}{xs:List Ac}(h:Row w o t e size v n xs) :
  (v=Ai none 0 0/\n=0)\/∃ g cap,v=Ai (some ⟨g,0,none⟩) n cap/\n<=cap/\cap<=maxLen:=by
 rcases h.own.2 with ⟨rfl,rfl⟩|⟨g,cap,cur,rfl,_,_,hn,hc,_⟩
 ·exact .inl ⟨rfl,rfl⟩
 ·exact .inr ⟨g,cap,rfl,hn,hc⟩
def Ints (w:Aa)(v:Ac)(l:List Nat):Prop:=
 ∃ a c,v=.slice a l.length c/\l.length<=c/\c<=maxLen/\∀ (j x:Nat),l[j]?=some x->∃ g off,a=some ⟨g,off,none⟩/\g<w.1.size/\w.cell? ⟨g,off+j,none⟩=some (nv x)
def Ints.below {w w':Aa}{v:Ac}{l:List Nat}(h:Ints w v l)(hb:Ae w w w'):Ints w' v l:=by
 obtain⟨a,c,e,h1,h2,h3⟩:=h;refine⟨a,c,e,h1,h2,fun j x hj=>?_⟩
 obtain⟨g,off,e1,e2,e3⟩:=h3 j x hj;exact⟨g,off,e1,Qn e2 hb.size,by rw[hb.cell (p:=⟨g,off+j,none⟩) e2];exact e3⟩
def Row.ints {w:Aa}{o:Own}{t:Tag}{e:TypeId}{v:Ac}{l:List Nat}(h:Row w o t e 1 v l.length (l.map nv)):Ints w v l:=by
 rcases h.shape with⟨rfl,h0⟩|⟨g,cap,rfl,hn,hc⟩
 ·have:l=[]:=Ad h0
  subst this;exact⟨none,0,rfl,by simp,by simp,fun j x hj=>by simp at hj⟩
 ·refine⟨_,_,rfl,hn,hc,fun j x hj=>⟨g,0,rfl,h.blt,?_⟩⟩
  rw[Nat.zero_add];exact h.cells j _ (by rw[Qj,hj];rfl)
def Ints.form {w:Aa}{v:Ac}{l:List Nat}(h:Ints w v l):(l=[]/\∃ a c,v=.slice a 0 c)\/∃ g off c,v=Ai (some ⟨g,off,none⟩) l.length c/\l.length<=c/\c<=maxLen/\g<w.1.size/\∀ (j x:Nat),l[j]?=some x->w.cell? ⟨g,off+j,none⟩=some (nv x):=by
 obtain⟨a,c,e,h1,h2,h3⟩:=h
 cases l with
 | nil=>exact .inl ⟨rfl,a,c,e⟩
 | cons x l =>
  obtain⟨g,off,e1,e2,_⟩:=h3 0 x rfl;refine .inr ⟨g,off,c,by rw[e,e1],h1,h2,e2,fun j z hj=>?_⟩
  obtain⟨g',off',yV,_,e3'⟩:=h3 j z hj;rw[e1]at yV;injection yV with yV;injection yV with yV e2' _;rw[yV,e2'];exact e3'
def ke {l:List Nat}{k x:Nat}(h:l[k]?=some x):l.take (k+1)=l.take k++[x]:=by
 rw[List.take_add_one,h];rfl
def wb (l:List Nat)(x:Nat):(l++[x]).map nv=l.map nv++[I Z x]:=by simp[nv]
section
variable {P : Program} (w : Aa)
def qct (t ty e : TypeId) (i : TypeInfo) (size : Nat) (ht : P.underlying t = some (.slice e)) (hi : P.info? e = some i) {o : Own} {tg : Tag} {v : Ac} {n : Nat} {xs : List Ac} (hown : Row w o tg e size v n xs) (c : Nat) :
    (aB #[t, t] ty #[v, Ai none 0 c]).run P w = .ok v w := by
  rcases hown.shape with ⟨rfl, _⟩ | ⟨g, cap, rfl, hnc, _⟩
  all_goals simp [aB, run_underlying ht, sizeOf, typeInfo, aR, aP, storeCells, *]
def qcu (t ty e:TypeId)(i:TypeInfo)(z:Ac)(size bytes:Nat)(ht:P.underlying t=some (.slice e))(hi:P.info? e=some i)(hz:i.zero=some z)
  (hsize:i.size=size)(hby:i.bytes=bytes)(hzs:z.cells.size=size)(hsz:0<size)
  (o:Own)(tg:Tag)(v:Ac)(n:Nat)(xs:List Ac)(hown:Row w o tg e size v n xs)(o2:Own)(t2:Tag)(vs:Ac)(m:Nat)(news:List Ac)(hsrc:Row w o2 t2 e size vs m news)(h1:∀ u ∈ news,u.oneCell'=true)
  (h63:n+m<=maxLen)(hbytes:(n+m)*bytes<=140737488355328) :
  ∃ v' w',(aB #[t,t] ty #[v,vs]).run P w=.ok v' w'/\Row w' (ext o w tg) tg e size v' (n+m) (xs++news)/\Stp (fun u=>u=tg) o (ext o w tg) w w':=by
 rcases hsrc.shape with ⟨rfl,rfl⟩|⟨g,cap,rfl,_,_⟩
 ·have hx:news=[]:=Ad (by simpa using hsrc.len)
  subst hx;refine⟨v,w,qct w t ty e i size ht hi hown 0,?_,(Stp.refl _ o w).ext _ _ (Qk _)⟩;rw[aI,Nat.add_zero];exact hown.retag fun b hb=>qk hb
 ·exact yb (P:=P) w t ty e i z size bytes ht hi hz hsize hby hzs hsz o tg v n xs hown ⟨g,0,none⟩ m cap news hsrc.len (hsrc.own.cells rfl) h1 h63 hbytes
def ba {op:Oper}{a:Act}{K:Act->Aa->Prop}{Q:Exit->Act->Aa->Prop}(s x:Operand)(t:TypeId)
  (ho:op.op=.call { callee:=.builtin .append,args:=#[s,x],argTypes:=#[t,t] })
  (e:TypeId)(i:TypeInfo)(z:Ac)(size bytes:Nat)(ht:P.underlying t=some (.slice e))(hi:P.info? e=some i)(hz:i.zero=some z)
  (hsize:i.size=size)(hby:i.bytes=bytes)(hzs:z.cells.size=size)(hsz:0<size)
  (o:Own)(tg:Tag)(v:Ac)(n:Nat)(xs:List Ac)(hs:a.eval s=v)(hown:Row w o tg e size v n xs)
  (o2:Own)(t2:Tag)(vs:Ac)(m:Nat)(news:List Ac)(hx:a.eval x=vs)(hsrc:Row w o2 t2 e size vs m news)(h1:∀ u ∈ news,u.oneCell'=true)
  (h63:n+m<=maxLen)(hbytes:(n+m)*bytes<=140737488355328)
  (h:∀ v' w',Row w' (ext o w tg) tg e size v' (n+m) (xs++news)->Stp (fun u=>u=tg) o (ext o w tg) w w'->K (a.put op.dst v') w'):Oper.wp P op a w K Q:=by
 obtain⟨v',w',hr,h2,h3⟩:=qcu (P:=P) w t op.type e i z size bytes ht hi hz hsize hby hzs hsz o tg v n xs hown o2 t2 vs m news hsrc h1 h63 hbytes;unfold Oper.wp execOp;simp only[ho,resolve,invoke,builtin,Sem.run_bind,Sem.run_pure,Result.andThen_ok,aG,aJ,aK,hs,hx,hr];exact h v' w' h2 h3
def zu {ops:Array Oper}{rest:List Oper}{op:Oper}{a:Act}{Q:Exit->Act->Aa->Prop}(hgd:op.guard=none)(s x:Operand)(t:TypeId)
  (ho:op.op=.call { callee:=.builtin .append,args:=#[s,x],argTypes:=#[t,t] })
  (e:TypeId)(i:TypeInfo)(z:Ac)(size bytes:Nat)(ht:P.underlying t=some (.slice e))(hi:P.info? e=some i)(hz:i.zero=some z)
  (hsize:i.size=size)(hby:i.bytes=bytes)(hzs:z.cells.size=size)(hsz:0<size)
  (o:Own)(tg:Tag)(v:Ac)(n:Nat)(xs:List Ac)(hs:a.eval s=v)(hown:Row w o tg e size v n xs)
  (o2:Own)(t2:Tag)(vs:Ac)(m:Nat)(news:List Ac)(hx:a.eval x=vs)(hsrc:Row w o2 t2 e size vs m news)(h1:∀ u ∈ news,u.oneCell'=true)
  (h63:n+m<=maxLen)(hbytes:(n+m)*bytes<=140737488355328)
  (h:∀ v' w',Row w' (ext o w tg) tg e size v' (n+m) (xs++news)->Stp (fun u=>u=tg) o (ext o w tg) w w'->wpList P ops Q rest (a.put op.dst v') w'):wpList P ops Q (op::rest) a w:=
 wpList_plain hgd fun _ hK=>ba w s x t ho e i z size bytes ht hi hz hsize hby hzs hsz o tg v n xs hs hown o2 t2 vs m news hx hsrc h1 h63 hbytes fun v' w' h2 h3=>hK _ _ (h v' w' h2 h3)
def mw {ops:Array Oper}{op:Oper}{a:Act}{K:Act->Aa->Prop}{Q:Exit->Act->Aa->Prop}{E:Prop}(hgd:op.guard=none)(s x:Operand)(t:TypeId)
  (ho:op.op=.call { callee:=.builtin .append,args:=#[s,x],argTypes:=#[t,t] })
  (e:TypeId)(i:TypeInfo)(z:Ac)(size bytes:Nat)(ht:P.underlying t=some (.slice e))(hi:P.info? e=some i)(hz:i.zero=some z)
  (hsize:i.size=size)(hby:i.bytes=bytes)(hzs:z.cells.size=size)(hsz:0<size)
  (o:Own)(tg:Tag)(v:Ac)(n:Nat)(xs:List Ac)(hs:a.eval s=v)(hown:Row w o tg e size v n xs)
  (o2:Own)(t2:Tag)(vs:Ac)(m:Nat)(news:List Ac)(hx:a.eval x=vs)(hsrc:Row w o2 t2 e size vs m news)(h1:∀ u ∈ news,u.oneCell'=true)
  (h63:n+m<=maxLen)(hbytes:(n+m)*bytes<=140737488355328)
  (h:∀ v' w',Row w' (ext o w tg) tg e size v' (n+m) (xs++news)->Stp (fun u=>u=tg) o (ext o w tg) w w'->K (a.put op.dst v') w') :
  if Aj op (yielded ops a.tmps)=true then Oper.wp P op a w K Q else E:=by
 have hw:Aj op (yielded ops a.tmps)=true:=by simp[Aj,hgd]
 rw[if_pos hw];exact ba w s x t ho e i z size bytes ht hi hz hsize hby hzs hsz o tg v n xs hs hown o2 t2 vs m news hx hsrc h1 h63 hbytes h
end
def li (l:List Nat):∀ u ∈ l.map nv,u.oneCell'=true:=by
 intro u hu;obtain⟨x,_,rfl⟩:=Qt.1 hu;rfl
end
section
open Go.Proofs
abbrev Tryz.muLink:Go.Conc.Locks.MuLink:={ lock:=43,unlock:=44,ilock:=71,iunlock:=72,lockSlow:=112,unlockSlow:=115,disable:=108,enable:=110,acquire:=111,relMerge:=113,cas32:=109,add32:=114,tMutex:=68,tIMutex:=66,tPMutex:=154,tPIMutex:=182,tPI32:=184,tUP:=186,tNoCopy:=63,tU32:=64 }
def Tryz.muLib:Go.Conc.Locks.MuLib ANa Tryz.muLink:=
 ⟨func43,func44,func71,func72,func108,func110,func111,func113,func109,func114,underlying66,Tryz.runUnderlying66,sizeOf66,isAgg66,zeroValue66,underlying68,Tryz.runUnderlying68,sizeOf68,isAgg68,zeroValue68,underlying154,Tryz.runUnderlying154,sizeOf154,isAgg154,zeroValue154,underlying182,Tryz.runUnderlying182,sizeOf182,isAgg182,zeroValue182,underlying184,Tryz.runUnderlying184,sizeOf184,isAgg184,zeroValue184,underlying186,Tryz.runUnderlying186,sizeOf186,isAgg186,zeroValue186,underlying63,Tryz.runUnderlying63,sizeOf63,isAgg63,zeroValue63,underlying21,Tryz.runUnderlying21,sizeOf21,isAgg21,zeroValue21,(by kernel_rfl)⟩
end
section
open Go.RowKit Hp
attribute [local go_sem ↓] Go.wp_at_zero Go.wp_at_succ
def Ob.AU (o:Ob):List Nat:=if o.AL.AA then [] else o.AB
def Ob.CU (o:Ob)(l:List Nat):Ob:=if o.AL.AA then o else { o with AB:=l }
section
variable {w : Aa} {a wd L : Nat} {f : Nat -> Nat} {p : Nat} {ob : Ob}
def V7 (s:BQ)(w:Aa):Ab ANa 188 #[ka s] w fun e w'=>e=O (I Z (if s.AA then 0 else (s.p:Int)))/\Ae w w w':=by
 obtain⟨sp,sd,wk,fn⟩:=s
 cases wk
 all_goals
  go_in;go_wp2_with fail;go_ret;exact⟨rfl,qc (qd w) _⟩
def WA (h:BR w a wd L f)(ho:BE f p ob)(hk:ob.ok)(hl:p+ob.size<=L) :
  Ab ANa 126 #[Ah (some ⟨a,0,none⟩),p] w fun e w'=>∃ v,e=O (Ak #[v,()])/\Row w' (fo w) (1,0) 3 1 v ob.AU.length (ob.AU.map nv)/\Ae w w w':=by
 have HS:=Qa (jw h ho hk hl p rfl);have HT:=Qa (fun w=>V7 ob.AL w)
 have HP:=Qa (fun w' (hb:Ae w w w')(i x:Nat)(hx:ob.AB[i]?=some x)=>ce (h.below hb) ho hk hl i x hx p i rfl rfl)
 have hlp:=hk.lp;have h8:=hk.AL.1;obtain⟨iI,hi,hsI,cK,bZ⟩:=zm;have hu64:=underlying23;obtain⟨⟨sp,sd,wk,fn⟩,fr,se,sr,ps,ns⟩:=ob;simp only at HS HT HP hlp h8;clear h ho hk hl;obtain⟨n,hn⟩:∃ n:Nat,n=if wk then 0 else sp:=⟨_,rfl⟩
 have hst:(Ob.mk ⟨sp,sd,wk,fn⟩ fr se sr ps ns).AU=ps.take n:=by
  unfold Ob.AU
  cases wk
  ·simp only[Bool.false_eq_true,if_false]at hn ⊢
   rw[hn,<-hlp,aH]
  ·simp only[if_true]at hn ⊢
   rw[hn];rfl
 have hsn:(if wk then (0:Int) else (sp:Int))=(n:Int):=by rw[hn];split<;>rfl
 have nX:n<=sp:=by rw[hn];split<;>omega
 have hlen:(ps.take n).length=n:=by rw[Qp,hlp];omega
 rw[hst,hlen];simp only[hsn]at HT;have HT:=Qa (show ∀ w:Aa,Ab ANa 188 #[Al #[sp,sd,wk,fn]] w fun e w'=>e=O n/\Ae w w w' from HT.o)
 replace hlp:=Qa hlp;replace hlen:=Qa hlen;clear hst hsn hn;go_in;go_wp2_with fail;refine HS.o.mono ?_
 rintro e w1 ⟨rfl,hb1⟩
 have jB:=An.new w1 #[sp,sd,wk,fn] 82;have cB:=jB.cell;have hb2:=qc hb1 (ANb #[sp,sd,wk,fn] 82);go_wp2_with fail;refine (HT.o _).mono ?_
 rintro e w2 ⟨rfl,hb3⟩
 have hb4:=qe hb2 hb3;clear hb1 hb2 hb3 jB cB;have uS:(n:Int)<=8:=by omega
 go_wp2_with fail;go_loopw [9,25] (fun v ix wr=>∃ k:Nat,ix=I Z k/\k<=n/\Row wr (fo w) (1,0) 3 1 v k ((ps.take k).map nv)/\Ae w w wr) (fun _ ix _=>n-(intOf ix).toNat)
 case atStart=>exact⟨0,rfl,by omega,Row.nil _ _ _ _ _,hb4⟩
 case round =>
  obtain⟨k,rfl,hkn,hr,hbr⟩:=hrel;clear hb4;by_cases hlt:k<n
  ·have eG:(k:Int)<(n:Int):=by omega
   have hk8:(k:Int)<8:=by omega
   obtain⟨x,hx⟩:∃ x,ps[k]?=some x:=⟨_,Qb (by rw[hlp.o];omega)⟩
   have htk:=Qa (ke hx);have hk1:k+1<=maxLen/\(k+1)*8<=140737488355328:=by simp only[maxLen];omega
   obtain⟨hk1,hk2⟩:=hk1;have hk1:=Qa hk1;have hk2:=Qa hk2;have HPx:=Qa (HP.o _ hbr k x hx);have hr0:=Qa hr;obtain⟨pa,cp,rfl⟩:=hr.A6;clear hr hx;go_wp2_with fail;refine HPx.o.mono ?_;rintro e w3 ⟨rfl,hb3⟩;go_wp2_with (first|(at_builtin;refine qg _ rfl _ _ _ rfl 3 iI _ 1 8 hu64 hi bZ hsI cK rfl (by decide) (fo w) (1,0) _ _ _ rfl (Row.below (Row.below hr0.o hb3) (qc (qd w3) _)) ⟨w3,0,none⟩ 1 1 [I Z x] rfl rfl (qx (An.new w3 _ _)) jh hk1.o hk2.o ?_;intro v' w8 hown hst)|fail)
   have hb5:=qc (qe hbr hb3) (ANb #[x] 3);have gX:=yy hb5 hown;have eB:=xz hb5 hst;go_roundw
   case rel=>exact⟨k+1,by simp,by omega,by rw[htk.o,wb];exact gX,eB⟩
   case measure=>simp[intOf];omega
  ·obtain rfl:k=n:=by omega
   go_wp2_with fail;go_ret2;exact⟨_,rfl,hr,hbr⟩
end
def px {α:Type}:∀ (ps qs:List α)(k:Nat)(x:α),ps[k]?=some x->k<qs.length->(ps.take k++qs.drop k).set k x=ps.take (k+1)++qs.drop (k+1)
 | [],_,k,x,h,_=>by simp at h
 | p::ps,[],k,x,_,h=>by simp at h
 | p::ps,q::qs,0,x,h,_=>by simp at h;subst h;simp
 | p::ps,q::qs,k+1,x,h,hk=>by
  have:=px ps qs k x (by simpa using h) (by simpa using hk)
  simpa using this
section
variable {w : Aa} {a wd L : Nat} {f : Nat -> Nat} {p : Nat} {ob : Ob}
def Else (f f':Nat->Nat)(p n:Nat):Prop:=∀ j,j<p\/p+n<=j->f' j=f j
def qfq (h:BR w a wd L f)(ho:BE f p ob)(hk:ob.ok)(hl:p+ob.size<=L)(ps:List Nat)(hps:∀ x ∈ ps,x<=131072)(hn:ps.length=ob.AU.length){v:Ac}(hv:∀ w',Wr wd w w'->Ints w' v ps) :
  Ab ANa 127 #[Ah (some ⟨a,0,none⟩),p,v] w fun e w'=>e=O (I Z 0)/\∃ f',BR w' a wd L f'/\Wr wd w w'/\BE f' p (ob.CU ps)/\Else f f' p ob.size:=by
 have HS:=Qa (jw h ho hk hl p rfl);have HT:=Qa (fun w=>V7 ob.AL w)
 have hlp:=hk.lp;have h8:=hk.AL.1;have HW:=Qa h;have HO:=Qa ho;have HK:=Qa hk;have HL:=Qa hl;have HP:=Qa hps;have HV:=Qa hv;obtain⟨n,hnn⟩:=Ja0 ps.length;have hsn:(if ob.AL.AA then (0:Int) else (ob.AL.p:Int))=(n:Int):=by
  rw[hnn,hn];unfold Ob.AU;split
  ·rfl
  ·rw[hlp]
 have hns:n<=ob.AL.p:=by
  rw[hnn,hn];unfold Ob.AU;split
  ·exact Nat.zero_le _
  ·rw[hlp];exact Qk _
 have hfin:({ ob with AB:=ps.take n++ob.AB.drop n }:Ob)=ob.CU ps:=by
  unfold Ob.CU;rw[hnn,aH];unfold Ob.AU at hn;split
  ·rename_i hw
   rw[if_pos hw]at hn;have:ps=[]:=Ad hn;subst this;simp
  ·rename_i hw
   rw[if_neg hw]at hn;rw[hn,List.drop_length,aI]
 have HFin:=Qa hfin;have HN:=Qa hnn;simp only[hsn]at HT;have HT:=Qa (show ∀ w:Aa,Ab ANa 188 #[Al #[ob.AL.p,ob.AL.d,.bool ob.AL.AA,.bool ob.AL.final]] w fun e w'=>e=O n/\Ae w w w' from HT.o)
 obtain⟨va,vcp,rfl⟩:∃ a c,v=.slice a n c:=by
  obtain⟨a',c',e,_⟩:=hv w (Wr.refl _ _);exact⟨a',c',by rw[hnn];exact e⟩
 clear h ho hk hl hps hn hv hsn hfin hnn;go_in;go_wp2_with fail;refine HS.o.mono ?_
 rintro e w1 ⟨rfl,hb1⟩
 have jB:=An.new w1 #[ob.AL.p,ob.AL.d,.bool ob.AL.AA,.bool ob.AL.final] 82;have cB:=jB.cell;have hb2:=qc hb1 (ANb #[ob.AL.p,ob.AL.d,.bool ob.AL.AA,.bool ob.AL.final] 82);go_wp2_with fail;refine (HT.o _).mono ?_
 rintro e w2 ⟨rfl,hb3⟩
 have hb4:=qe hb2 hb3;clear hb1 hb2 hb3 jB cB;have uS:(n:Int)<=8:=by omega
 go_wp2_with fail;go_loop [32](fun ix=>∃ k:Nat,ix=I Z k/\k<=n)(fun ix=>n-(intOf ix).toNat)
 case atStart=>exact⟨0,rfl,by omega⟩
 case round =>
  obtain⟨k,rfl,hkn⟩:=hrel;by_cases hlt:k<n
  ·have eG:(k:Int)<(n:Int):=by omega
   have hk8:(k:Int)<8:=by omega
   obtain⟨x,hx⟩:∃ x,ps[k]?=some x:=⟨_,Qb (by rw[<-HN.o];omega)⟩
   have hxb:=HP.o x (Qe hx);have hx1:¬(x:Int)<0:=by omega
   have hx2:¬(x:Int) > 131072:=by omega
   rcases (HV.o w2 (Wr.of_below hb4)).form with ⟨e1,_⟩|⟨g,off,c,e1,hnc,hcm,hg,hcell⟩
   ·rw[e1]at hx;simp at hx
   ·injection e1 with e1 e2 e3
    subst e1 e3;clear e2;have cx:w2.cell? ⟨g,off+k,none⟩=some (I Z x):=hcell k x hx;clear hcell hx;go_wp2_with fail;go_round
    case rel=>exact⟨k+1,by simp,by omega⟩
    case measure=>simp[intOf];omega
  ·obtain rfl:k=n:=by omega
   clear hlt;go_wp2_with fail;go_loopw [45](fun ix wr=>∃ (j:Nat)(f':Nat->Nat),ix=I Z j/\j<=k/\BR wr a wd L f'/\Wr wd w wr/\BE f' p { ob with AB:=ps.take j++ob.AB.drop j }/\Else f f' p ob.size)(fun ix _=>k-(intOf ix).toNat)
   case atStart=>exact⟨0,f,rfl,by omega,HW.o.below hb4,Wr.of_below hb4,by simpa using HO.o,fun _ _=>rfl⟩
   case round =>
    obtain⟨j,f',rfl,hjk,hW,hR,hO,hE⟩:=hrel;clear hb4 hkn;by_cases hlt:j<k
    ·have qG:(j:Int)<(k:Int):=by omega
     have hj8:(j:Int)<8:=by omega
     obtain⟨x,hx⟩:∃ x,ps[j]?=some x:=⟨_,Qb (by rw[<-HN.o];omega)⟩
     have hxb:=HP.o x (Qe hx);have hts:=px ps ob.AB j x hx (by rw[hlp];omega)
     have hok:Ob.ok { ob with AB:=ps.take j++ob.AB.drop j }:=⟨HK.o.AL,by show (ps.take j++ob.AB.drop j).length=_;rw[Qd,Qp,ay,HK.o.lp,<-HN.o];show _=ob.AL.p;omega,HK.o.ln,fun z hz=>by
      rcases Qs.1 hz with hz|hz
      ·exact HP.o z (List.mem_of_mem_take hz)
      ·exact HK.o.ptr z (List.mem_of_mem_drop hz),HK.o.num,HK.o.Bc,HK.o.sec⟩
     have qD:=Qa (xu hW hO hok HL.o j x (show j<ob.AL.p by omega) hxb p j x rfl rfl rfl)
     have hO2:=hO.Bh hok j x (show j<ob.AL.p by omega)
     have Aca:BE (upd f' (p+3+j) x) p { ob with AB:=ps.take (j+1)++ob.AB.drop (j+1) }:=by rw[<-hts];exact hO2
     have hE2:Else f (upd f' (p+3+j) x) p ob.size:=fun i hi=>by
      rw[upd_ne _ _ _ _ (by unfold Ob.size at hi;omega)];exact hE i hi
     have HOE:=Qa (And.intro Aca hE2);rcases (HV.o wr hR).form with ⟨e1,_⟩|⟨g,off,c,e1,hnc,hcm,hg,hcell⟩
     ·rw[e1]at hx;simp at hx
     ·injection e1 with e1 e2 e3
      subst e1 e3;clear e2;have cx:wr.cell? ⟨g,off+j,none⟩=some (I Z x):=hcell j x hx;have HRR:=Qa hR;clear hcell hx hts hok hO2 Aca hE2 hO hE hW hR;go_wp2_with fail;refine qD.o.mono ?_;rintro e w5 ⟨rfl,hT5⟩;go_wp2_with fail;go_roundw
      case rel=>exact⟨j+1,_,by simp,by omega,hT5.1,HRR.o.trans hT5.2,HOE.o.1,HOE.o.2⟩
      case measure=>simp[intOf];omega
    ·obtain rfl:j=k:=by omega
     go_wp2_with fail;go_ret;exact⟨rfl,f',hW,hR,by rw[<-HFin.o];exact hO,hE⟩
end
section
variable {w w' : Aa} {o : Own} {l : Bn} {H : Hp} {vc vo vw vf : Ac} {f : Nat -> Nat}
def AN.Et (h:AN w o l H vc vo vw vf f)(hu:H.use=false):An w l.h #[Ah (some ⟨l.a,0,none⟩),I Z 1,H.size,H.top,I Z (1+(H.size:Int)),H.size,H.Ca,vc,vo,(),.bool H.AK,H.Bv,H.scan,H.Ap,vw,vf] 141:=h.EW hu
def AN.Eu (h:AN w o l H vc vo vw vf f)(hu:H.use=true):An w l.h #[Ah (some ⟨l.a,0,none⟩),I Z 1,H.size,H.Ca,I Z (1+(H.size:Int)),H.size,H.top,vo,vc,I Z 1,.bool H.AK,H.Bv,H.scan,H.Ap,vw,vf] 141:=by
 have hb:=h.hb;unfold Hp.cells at hb;rw[hu,if_pos rfl]at hb;exact hb
def AN.M8 (h:AN w o l H vc vo vw vf f) (hk:H.ok) {p:Nat} {ob dH:Ob} (hp:lk H.cur p=some ob) {f':Nat->Nat} (hW:BR w' l.a l.wd (2*H.size+1) f') (hR:Wr l.wd w w') (hE:Else f f' p ob.size) (ho:BE f' p dH) :
  AN w' o l { H with cur:=up H.cur p dH } vc vo vw vf f':=by
 have hm:=zh hp;have gW:=h.oh;have how:=h.ow;have hne:∀ {c:Nat} {i:Nat},o c=(l.id,i)->i≠2->c≠l.wd:=fun hc hi e=>by
  rw[e,how]at hc;injection hc with _ hc;exact hi hc.symm
 have hrow:∀ {i:Nat} {v:Ac} {n:Nat} {xs:List Ac},i≠2->Row w o (l.id,i) 3 1 v n xs->Row w' o (l.id,i) 3 1 v n xs:=fun hi hr=>by
  refine hr.Ar (T:=fun t=>t=(l.id,2)) (o':=o) (Stp.Ci hR how) ?_;intro e;injection e with _ e;exact hi e
 have hlen:(up H.cur p dH).length=H.cur.length:=by simp[up]
 have hmap:((up H.cur p dH).map fun x=>nv x.1)=H.cur.map fun x=>nv x.1:=by
  have:=congrArg (aQ nv) (Ym H.cur p dH);simpa [aa,ag] using this
 refine⟨h.hb.wr hR (hne gW (by omega)),hW,?_,hrow (by split<;>omega) h.ro,hrow (by omega) h.rw,hrow (by omega) h.rf,h.oh,h.oa,h.ow,?_,?_,?_⟩
 ·show Row w' o (l.id,if H.use then 4 else 3) _ 1 vc (up H.cur p dH).length _
  rw[hlen,hmap];exact hrow (by split<;>omega) h.rc
 ·intro x hx
  obtain⟨y,hy,rfl⟩:=Qt.1 hx;split
  ·exact ho
  ·rename_i e
   refine (h.Fb y hy).of_eq (hk.ck y hy) fun j h1 h2=>hE j ?_;have h3:=xg _ _ _ hk.cl hk.ck y hy (p,ob) hm e;have h4:=zi _ (Ob.AP (hk.ck y hy)).2;have h5:=zi _ (Ob.AP (hk.ck _ hm)).2;simp only at h3 h5;omega
 ·intro x hx
  have h3:=Hp.apart hk hm hx;have h4:x.2.1.ok:=hk.ok (x.1,x.2.1) (Qt.2 ⟨x,hx,rfl⟩);have h5:=Ob.AP h4;obtain⟨g1,g2⟩:=h.Ch x hx;simp only at h3;refine⟨fun e=>(g1 e).of_eq h4 fun j h1 h2=>hE j (by omega),fun q e=>?_⟩
  rw[hE x.1 (by omega)];exact g2 q e
 ·have h1:=zd _ _ _ hk.cl _ hm
  have h2:=H.Bt H.use;simp only at h1;rw[hE 0 (by omega)];exact h.zr
def AN.Gt (h:AN w o l H vc vo vw vf f){H':Hp}{w':Aa}(hb:An w' l.h (H'.cells l.a vc vo vw vf) 141)(hs:Stp (fun t=>t=(l.id,0)) o o w w')
  (e1:H'.size=H.size)(e2:H'.use=H.use)(e3:H'.cur=H.cur)(e4:H'.old=H.old)(e5:H'.AA=H.AA)(e6:H'.final=H.final):AN w' o l H' vc vo vw vf f:=by
 have hn:∀ j,j≠0->¬(l.id,j)=(l.id,0):=fun j hj e=>hj (by simpa using e)
 exact⟨hb,by rw[e1];exact h.Cr.Ar hs (by rw[h.oa];exact hn _ (by omega)) (by rw[h.ow];exact hn _ (by omega)),by rw[e2,e3];exact h.rc.Ar hs (hn _ (by split<;>omega)),by rw[e2,e4];exact h.ro.Ar hs (hn _ (by split<;>omega)),
  by rw[e5];exact h.rw.Ar hs (hn _ (by omega)),by rw[e6];exact h.rf.Ar hs (hn _ (by omega)),h.oh,h.oa,h.ow,by rw[e3];exact h.Fb,by rw[e4];exact h.Ch,h.zr⟩
def qlc (H:Hp)(a:Nat)(vc vo vw vf:Ac)(n:Nat):(H.cells a vc vo vw vf).setIfInBounds 12 (I Z n)={ H with scan:=n }.cells a vc vo vw vf:=by
 unfold Hp.cells;cases H.use<;>rfl
def uw (h:AN w o l H vc vo vw vf f):Ab ANa 125 #[Ah (some ⟨l.h,0,none⟩)] w fun e w'=>e=O (.bool (decide (H.scan=H.top)))/\Ae w w w':=by
 have hd:decide (H.scan=H.top)=((H.scan:Int)==(H.top:Int)):=by
  rw[Bool.eq_iff_iff];simp only[decide_eq_true_eq,beq_iff_eq];omega
 rw[hd];rcases (show H.use=false\/H.use=true by cases H.use<;>simp) with hu|hu
 ·have c:=(h.Et hu).cell
  clear h hd hu;go_in;go_upto_region 1 with fail;go_quiet (fail);go_wp2_with fail;go_ret;exact⟨rfl,zo (qd w) _⟩
 ·have c:=(h.Eu hu).cell
  clear h hd hu;go_in;go_upto_region 1 with fail;go_quiet (fail);go_wp2_with fail;go_ret;exact⟨rfl,zo (qd w) _⟩
end
end
section
open Go.RowKit Hp
def qph (b:Nat)(w:Aa) :
  Ab ANa 40 #[Ah (some ⟨b,0,none⟩)] w fun e w'=>e=O (Ah (some ⟨w,0,none⟩))/\w'=w.alloc (ANb #[Ah (some ⟨b,0,none⟩),.nilFunc,Ai none 0 0,Ai none 0 0] 143):=by
 go_in;go_wp2_with fail;go_ret;exact⟨rfl,rfl⟩
def Hp.fresh (n:Nat):Hp:=⟨n,false,[],1,false,[],1+n,0,0,0,[],[]⟩
def Hp.Jj {n:Nat}(h1:16<=n)(h2:n<=16384):(Hp.fresh n).wf:=by
 refine⟨⟨⟨h1,h2⟩,rfl,fun x hx=>(by cases hx),rfl,fun x hx=>(by cases hx),?_,fun _=>rfl,rfl,?_,?_,?_,fun x hx=>(by cases hx)⟩,Qk _,Qk _,fun h=>(by cases h),fun x hx=>(by cases hx),fun x hx=>(by cases hx)⟩
 ·show 1+n<=Hp.base _ _+n
  unfold Hp.base Hp.fresh;simp
 ·show 1+0<=Hp.base _ _+n
  unfold Hp.base Hp.fresh;simp
 ·show 0<=_
  exact Nat.zero_le _
 ·show 0<=_
  exact Nat.zero_le _
def Jq (n:Nat)(h1:16<=n)(h2:n<=16384)(o:Own)(id:Nat)(w:Aa) :
  Ab ANa 39 #[n] w fun e w'=>∃ h a wd o',e=O (Ak #[Ah (some ⟨h,0,none⟩),()]) /\
   AN w' o' ⟨id,h,a,wd⟩ (Hp.fresh n) (Ai none 0 0) (Ai none 0 0) (Ai none 0 0) (Ai none 0 0) (fun _=>0)/\Stp (fun _=>False) o o' w w'/\w.1.size<=h/\(∀ b,w.1.size<=b->(o' b).1=id):=by
 have HA:=Qa (fun w=>GZ (2*n+1) (by omega) (by omega) _ rfl w)
 have HM1:=Qa (fun w=>WB 1 n (by omega) (by omega) 1 n rfl rfl w)
 have eQ:=Qa (fun w=>WB (1+n) n (by omega) (by omega) (1+n) n (by omega) rfl w)
 have e1:((2*n+1:Nat):Int)=2*(n:Int)+1:=by omega
 rw[e1]at HA;clear e1;go_in;go_wp2_with fail;refine (HA.o _).mono ?_
 rintro e w1 ⟨a,wd,rfl,hW,ha,hwd,hb1⟩
 go_wp2_with fail;refine (HM1.o _).mono ?_
 rintro e w2 ⟨rfl,hb2⟩
 have jK:=qe hb1 hb2;have hW2:=hW.below hb2;clear hb2 hb1 hW;go_wp2_with fail;refine (eQ.o _).mono ?_
 rintro e w3 ⟨rfl,hb3⟩
 have jA:=(An.new w2 #[I Z 1,n,I Z 1] 135).below hb3 (by simp)
 have hW3:=hW2.below (qe (qc (qd w2) _) hb3);have Acl:=qe jK (qe (qc (qd w2) (ANb #[I Z 1,n,I Z 1] 135)) hb3);clear hW2 jK hb3;have cA:=jA.cell;have sA:=jA.lt;go_wp2_with fail;go_ret2;have hle:w.1.size<=w3.1.size:=Acl.size;have la:=hW3.Cm.lt;have lwd:=hW3.lt;have ACa:=hW3.ne;refine⟨w3.1.size+1,a,wd,fun b=>if b<w.1.size then o b else if b=w3.1.size+1 then (id,0) else if b=a then (id,1) else if b=wd then (id,2) else (id,9),rfl,?_,?_,by omega,?_⟩
 ·refine⟨?_,(hW3.below (qc (qc (qd w3) _) _)),Row.nil _ _ _ _ _,Row.nil _ _ _ _ _,Row.nil _ _ _ _ _,Row.nil _ _ _ _ _,?_,?_,?_,fun x hx=>(by cases hx),fun x hx=>(by cases hx),rfl⟩
  ·refine An.Ax _ _ _ _ _ (by simp) ?_
   unfold Hp.cells Hp.fresh;simp
  ·show (if w3.1.size+1<w.1.size then _ else _)=_
   rw[if_neg (by omega),if_pos rfl]
  ·show (if a<w.1.size then _ else if a=w3.1.size+1 then _ else _)=_
   rw[if_neg (by omega),if_neg (by omega),if_pos rfl]
  ·show (if wd<w.1.size then _ else if wd=w3.1.size+1 then _ else if wd=a then _ else _)=_
   rw[if_neg (by omega),if_neg (by omega),if_neg (by omega),if_pos rfl]
 ·have hB:=qc (qc Acl (ANb #[I Z (1+(n:Int)),n,I Z (1+(n:Int))] 135)) (ANb #[Ah (some ⟨a,0,none⟩),I Z 1,n,I Z 1,I Z (1+(n:Int)),n,I Z (1+(n:Int)),Ai none 0 0,Ai none 0 0,(),false,(),(),(),Ai none 0 0,Ai none 0 0] 141)
  exact⟨hB.os,hB.tape,hB.output,hB.size,fun b hb=>if_pos hb,fun b hb _=>hB.block b hb⟩
 ·intro b hb
  show (if _ then _ else _:Tag).1=_;rw[if_neg (by omega)]
  repeat' split
  all_goals rfl
