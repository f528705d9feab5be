import Derived.Test.YteehgedabdchcaaGreatKaf
import Derived.Deep.RegionLaw
import Derived.Laws.CopyOwn
import Derived.StillTailTactics
import Derived.Laws.OwnMore
import Derived.Conc.MuData
import Derived.Conc.MuLib
import Derived.KernelRfl
set_option linter.all false
set_option maxRecDepth 1000000
set_option maxHeartbeats 0
open Go renaming World->Aa,Calls->Ab,Value->Ac
open Go.RowKit renaming Below->Ae
open Go.Value renaming int->I,pointer->Ah,slice->Ai,tuple->Ak,agg->Al
open Go.IntKind renaming i64->Z
open Go.Ending renaming returned->O
open List renaming eq_nil_of_length_eq_zero->Ad,map_map->aa,append_assoc->aj,length_drop->ay,map_congr_left->aC,getElem?_drop->aD,map_toArray->aF,take_length->aG,append_nil->aH,map_cons->aI,map_nil->aJ,map_id->aL,length->aM,take->aO,map->aQ
open Go.Region renaming wanted->Aj
open Go.IntWalk renaming i64_in->af
open Function renaming comp_def->ag,comp_apply->aN
open Array renaming getElem?_toList->ai
open Option renaming isSome_iff_exists->aA,map_eq_some_iff->aK,or->aS
open Go.Builtin renaming append_->aB,firstCells->aP,lenOf->aR
open Go.Proofs.Tryz
open Go.Proofs.Tryz renaming prog->AId
open Go.Obj renaming cells->AIe
namespace Go.Proofs.YteehgedabdchcaaGreat
section
open Go.RowKit Hp
def N9 (f:Nat->Nat)(i j n:Nat):Nat->Nat:=fun k=>if j<=k/\k<j+n then f (i+(k-j)) else f k
variable {w : Aa} {a wd L : Nat} {f : Nat -> Nat}
def Lf (h:B6 w a wd L f)(i j n:Nat)(hi:i+n<=L)(hj:j+n<=L)(hn:0<n)(x y z:Int)(hx:x=i)(hy:y=j)(hz:z=n) :
  Ab AId 269 #[Ah (some ⟨a,0,none⟩),x,y,z] w fun e w'=>e=O (I Z 0)/\Turned w w' a wd L (N9 f i j n):=by
 subst hx hy hz;have hl:=h.le;have HS:=Qa (fp h i n i n rfl rfl hi);have HS2:=Qa (fp h j n j n rfl rfl hj);have c:w.cell? ⟨a,0,none⟩=some (Ai (some ⟨wd,0,none⟩) L L):=h.Cl.cell 0;obtain⟨cs,hb,hcs,hat⟩:=h.words;have hi2:(i:Int)+(n:Int)<=(L:Int):=by omega
 have hj2:(j:Int)+(n:Int)<=(L:Int):=by omega
 have H:=Qa h;have HB:=Qa hb;have HCS:=Qa hcs;have HAT:=Qa hat;clear h hb hcs hat;go_in;go_wp2_with fail;refine HS.o.mono ?_
 rintro e w1 ⟨rfl,rfl⟩
 go_wp2_with fail;refine HS2.o.mono ?_
 rintro e w1 ⟨rfl,rfl⟩
 go_upto_region 4 with fail;have a1:IntKind.i64.wrap ((j:Int)+(n:Int))=(j:Int)+(n:Int):=af _ (by omega)
 have a2:IntKind.i64.wrap ((i:Int)+(n:Int))=(i:Int)+(n:Int):=af _ (by omega)
 have a3:((j:Int)+(n:Int)).toNat=j+n:=by omega
 have a4:((i:Int)+(n:Int)).toNat=i+n:=by omega
 have b1:(0:Int)<=(j:Int)+(n:Int):=by omega
 have b2:(0:Int)<=(i:Int)+(n:Int):=by omega
 have b3:(j:Int)<=(j:Int)+(n:Int):=by omega
 have b4:(i:Int)<=(i:Int)+(n:Int):=by omega
 have b5:j<L:=by omega
 have b6:i<L:=by omega
 have b7:j≠L:=by omega
 have b8:i≠L:=by omega
 have b9:¬L=j:=by omega
 have b10:¬L=i:=by omega
 have b11:j<=L:=by omega
 have b12:i<=L:=by omega
 have b13:j<=j+n:=by omega
 have b14:i<=i+n:=by omega
 go_still_tail 18,(by kernel_rfl)
 have hsz:cs.toList.length=L:=by rw[Array.length_toList];exact HCS.o
 obtain⟨C,hC⟩:=Ja0 ((cs.toList.drop i).take n);have yX:C.length=n:=by rw[hC,Qp,ay,hsz];omega
 have rY:∀ k,k<n->C[k]?=some (.int .u64 (f (i+k):Int)):=fun k hk=>by
  rw[hC,Qz,if_pos hk,aD,ai,HAT.o (i+k) (by omega)]
 refine wpList_copy_own rfl (.tmp 31) (.tmp 40) _ _ rfl 220 (by kernel_rfl) (by kernel_rfl) wd j n (L-j) ⟨wd,i,none⟩ n (L-i) rfl rfl cs 220 HB.o C (by rw[yX];exact (Nat.min_self n).symm) ?_ (by rw[yX,HCS.o];omega) ?_ ?_
 ·intro k v hk
  have hkn:k<n:=by rw[<-yX];exact (Qc.1 hk).1
  rw[rY k hkn]at hk;injection hk with hk;rw[show (⟨wd,i,none⟩:Addr).add k=⟨wd,i+k,none⟩ from by unfold Addr.add;split<;>simp_all]
  show w.cell? ⟨wd,i+k,none⟩=some v;rw[<-hk];exact H.o.cell (by omega)
 ·intro v hv
  obtain⟨k,hk⟩:=List.mem_iff_getElem?.1 hv;have hkn:k<n:=by rw[<-yX];exact (Qc.1 hk).1
  rw[rY k hkn]at hk;injection hk with hk;rw[<-hk];rfl
 ·have HC:=Qa rY
  have qE:=Qa yX;clear a1 a2 a3 a4 b1 b2 b3 b4 b5 b6 b7 b8 b9 b10 b11 b12 b13 b14 hC rY yX;obtain⟨X,hX⟩:=Ja0 ((aO j cs.toList++(C++List.drop (j+C.length) cs.toList)).toArray);obtain⟨w9,vH⟩:=Ja0 (w.drew.setRow wd X);rw[show ({ heap:=w.heap,tape:=w.tape,drawn:=w.drawn+1,os:=w.os,output:=w.output }:Aa)=w.drew from rfl,<-hX,<-vH];have hT:Turned w w9 a wd L (N9 f i j n):=by
   have h9:w9.heap[wd]?=some (.cells X 220 (0,0)):=by rw[vH];exact setRow_heap _ _ _ _ _ _ HB.o
   have hne:∀ k,k≠wd->w9.heap[k]?=w.heap[k]?:=fun k hk=>by rw[vH];exact setRow_other _ _ _ _ hk
   refine⟨⟨H.o.Cl.of_eq (hne a H.o.ne),H.o.ne,⟨X,h9,?_,fun k hk=>?_⟩,H.o.le⟩,⟨by rw[vH];rfl,by rw[vH];rfl,by rw[vH];rfl,by rw[vH];simp[World.setRow],fun k _ hk=>hne k hk⟩⟩
   ·rw[hX,List.size_toArray,Qd,Qd,Qp,ay,hsz,qE.o];omega
   ·rw[hX,List.getElem?_toArray,qE.o]
    unfold N9;have ht:(aO j cs.toList).length=j:=by rw[Qp,hsz];omega
    by_cases h1:k<j
    ·rw[if_neg (by omega),Qm (by omega),Qz,if_pos h1,ai,HAT.o k hk]
    ·rw[Ql (by omega),ht]
     by_cases h2:k<j+n
     ·rw[if_pos (by omega),Qm (by rw[qE.o];omega),HC.o (k-j) (by omega)]
     ·rw[if_neg (by omega),Ql (by rw[qE.o];omega),qE.o,aD,ai,show j+n+(k-j-n)=k from by omega,HAT.o k hk]
  clear hX vH hsz;rw[qE.o];go_wp2_with fail;go_ret;exact⟨rfl,hT⟩
def Pk (q:Nat)(h:4*q+2<18446744073709551616):bits BinOp.or IntKind.u64 ((4*q:Nat):Int) 2=((4*q+2:Nat):Int):=by
 rw[show (2:Int)=((2:Nat):Int) from rfl,PO _ 2 (by omega) (by omega),Nat.or_comm,show 4*q=2 ^ 2*q from rfl,Q3 2 q 2 (by omega),Nat.add_comm]
def T0 (q:Nat)(h1:1<=q)(h2:q<=131072)(z:Int)(hz:z=q)(w:Aa):Ab AId 268 #[z] w fun e w'=>e=O (Ak #[.int .u64 ((4*q+2:Nat):Int),.bool true])/\w=w':=by
 subst hz;have ho:=Pk q (by omega)
 have e1:(q:Int)*4=((4*q:Nat):Int):=by omega
 rw[<-e1]at ho;generalize ((4*q+2:Nat):Int)=r at *;clear e1;go_in;go_wp2_with fail;go_ret2;exact⟨rfl,rfl⟩
def LR (z:Int)(hz:z<1\/131072<z)(w:Aa):Ab AId 268 #[z] w fun e w'=>e=O (Ak #[.int .u64 0,.bool false])/\w=w':=by
 rcases hz with hz|hz
 all_goals
  go_in;go_wp2_with fail;go_ret2;exact⟨rfl,rfl⟩
def qlz (q:Nat)(h1:1<=q)(h2:q<=131072)(w:Aa):Ab AId 237 #[.int .u64 ((4*q+2:Nat):Int)] w fun e w'=>e=O (Ak #[q,.bool true])/\w=w':=by
 have HG:=Qa (fun w=>T0 q h1 h2 q rfl w)
 have e1:((4*q+2:Nat):Int)/4=(q:Int):=by omega
 obtain⟨r,hr⟩:∃ r:Int,r=((4*q+2:Nat):Int):=⟨_,rfl⟩;rw[<-hr]at HG e1 ⊢;have r0:0<=r:=by omega
 have r1:r<=600000:=by omega
 clear hr;go_in;go_wp2_with fail;refine (HG.o _).mono ?_
 rintro e w1⟨rfl,rfl⟩
 go_wp2_with fail;go_ret2;exact⟨rfl,rfl⟩
def qn2 (v:Nat)(h:v%2=1)(hv:v<4096)(w:Aa):Ab AId 237 #[.int .u64 v] w fun e w'=>e=O (Ak #[I Z 0,.bool false])/\w=w':=by
 obtain⟨q,hq⟩:∃ q:Nat,(v:Int)/4=q:=⟨v/4,by omega⟩
 have hq2:q<=1024:=by omega
 by_cases h1:1<=q
 ·have HG:=Qa (fun w=>T0 q h1 (by omega) q rfl w)
  have hne:((((4*q+2:Nat):Int)) != (v:Int))=true:=by rw[bne_iff_ne];omega
  generalize ((4*q+2:Nat):Int)=r at *;clear h;go_in;go_wp2_with fail;refine (HG.o _).mono ?_;rintro e w1⟨rfl,rfl⟩;go_wp2_with fail;go_ret2;exact⟨rfl,rfl⟩
 ·have hq0:(v:Int)/4=0:=by omega
  have HG:=Qa (fun w=>LR 0 (by omega) w)
  clear h hq;go_in;go_wp2_with fail;refine (HG.o _).mono ?_;rintro e w1⟨rfl,rfl⟩;go_wp2_with fail;go_ret2;exact⟨rfl,rfl⟩
variable {w : Aa} {a wd L : Nat} {f : Nat -> Nat} {p : Nat} {ob : Ob}
def WR (h:B6 w a wd L f)(hp:p<L)(q:Nat)(h1:1<=q)(h2:q<=131072)(hf:f p=4*q+2) :
  Ab AId 181 #[Ah (some ⟨a,0,none⟩),p] w fun e w'=>e=O (Ak #[q,.bool true])/\w=w':=by
 have HL:=Qa (xz h p p _ rfl hp hf);have HW:=Qa (fun w=>qlz q h1 h2 w)
 clear h hf;go_in;go_wp2_with fail;refine HL.o.mono ?_
 rintro e w1 ⟨rfl,rfl⟩
 go_wp2_with fail;refine (HW.o _).mono ?_
 rintro e w1 ⟨rfl,rfl⟩
 go_wp2_with fail;go_ret2;exact⟨rfl,rfl⟩
def Jz (h:B6 w a wd L f)(ho:BE f p ob)(hk:ob.ok)(hl:p+ob.size<=L) :
  Ab AId 181 #[Ah (some ⟨a,0,none⟩),p] w fun e w'=>e=O (Ak #[I Z 0,.bool false])/\w=w':=by
 have hs:=Ob.AW hk;have HL:=Qa (xz h p p _ rfl (by omega) ho.h0)
 have HW:=Qa (fun w=>qn2 (head ob.AM ob.Ce) (Je _ _) (Ud _ _ hk.AM) w)
 generalize head ob.AM ob.Ce=r at *;clear h ho hk hl hs;go_in;go_wp2_with fail;refine HL.o.mono ?_
 rintro e w1 ⟨rfl,rfl⟩
 go_wp2_with fail;refine (HW.o _).mono ?_
 rintro e w1 ⟨rfl,rfl⟩
 go_wp2_with fail;go_ret2;exact⟨rfl,rfl⟩
section
variable {w : Aa} {o : Own} {l : Bo} {H : Hp} {vc vo vw vf : Ac} {f : Nat -> Nat}
def SZ (h:AN w o l H vc vo vw vf f)(hk:H.ok){p:Nat}{ob:Ob}(hp:lk H.cur p=some ob) :
  Ab AId 69 #[Ah (some ⟨l.h,0,none⟩),p] w fun e w'=>e=O (Ak #[kg ob.AM,.bool ob.Ce,I Z 0])/\Ae w.1.size w w':=by
 obtain⟨ha,ho,hl,_⟩:=h.at_ hk hp;have HH:=Qa (fun w' (hw:Ae w.1.size w w')=>ju (h.below hw) hk hp)
 have HN:=Qa (fun w' (hw:Ae w.1.size w w')=>jy (h.Cq.below hw) ha ho hl p rfl)
 have HC:=Qa (fun w' (hw:Ae w.1.size w w')=>(h.below hw).Bl)
 clear h hk hp ha ho hl;obtain⟨⟨sp,sd,wk,fn⟩,fr,se,sr,ps,ns⟩:=ob;simp only at HN ⊢;go_in;go_wp2_with fail;refine (HH.o _ (qa (qc w) _)).mono ?_
 rintro e w1 ⟨rfl,hb1⟩
 have jR:An w1 w.1.size #[I Z 0,I Z 0,.bool false,.bool false] 93:=(An.new w _ _).below hb1 (by simp)
 have hb:Ae w.1.size w w1:=qd (qa (qc w) _) hb1;clear hb1;have c1:=HC.o _ hb;go_wp2_with fail;refine (HN.o _ hb).mono ?_
 rintro e w2 ⟨rfl,hb2⟩
 have ek:=jR.below hb2 jR.lt;have hw2:=qd hb hb2;clear hb2 hb jR;have cR:=ek.cell;have zR:=ek.free;have sR:=ek.lt;go_wp2_with fail;refine bodyPost_ret (v:=Ak #[kg ⟨sp,sd,wk,fn⟩,.bool fr,I Z 0]) (by simp[results,results69,go_sem,cR]) rfl ⟨rfl,?_⟩
 repeat (first|exact hw2|refine qm ?_ (Qk _) _)
def Wi (h:AN w o l H vc vo vw vf f)(hk:H.ok){p:Nat}(hp:lk H.cur p=none) :
  Ab AId 69 #[Ah (some ⟨l.h,0,none⟩),p] w fun e w'=>e=O (Ak #[kg ⟨0,0,false,false⟩,.bool false,I Z 70])/\Ae w.1.size w w':=by
 have HH:=Qa (fun w' (hw:Ae w.1.size w w')=>yg (h.below hw) hk hp)
 clear h hk hp;go_in;go_wp2_with fail;refine (HH.o _ (qa (qc w) _)).mono ?_
 rintro e w1 ⟨rfl,hb1⟩
 have jR:An w1 w.1.size #[I Z 0,I Z 0,.bool false,.bool false] 93:=(An.new w _ _).below hb1 (by simp)
 have hb:Ae w.1.size w w1:=qd (qa (qc w) _) hb1;clear hb1;have cR:=jR.cell;have zR:=jR.free;have sR:=jR.lt;go_wp2_with fail;refine bodyPost_ret (v:=Ak #[kg ⟨0,0,false,false⟩,.bool false,I Z 70]) (by simp[results,results69,go_sem,cR]) rfl ⟨rfl,?_⟩
 repeat (first|exact hb|refine qm ?_ (Qk _) _)
def Jj (h:AN w o l H vc vo vw vf f)(hk:H.ok){p:Nat}{ob:Ob}(hp:lk H.cur p=some ob)(i:Nat)(hx:ob.AM.p<=i) :
  Ab AId 112 #[Ah (some ⟨l.h,0,none⟩),p,i] w fun e w'=>e=O (Ak #[I Z 0,I Z 71])/\Ae w.1.size w w':=by
 obtain⟨ha,ho,hl,_⟩:=h.at_ hk hp;have HH:=Qa (ju h hk hp);have HN:=Qa (fun w' (hw:Ae w.1.size w w')=>Mr (h.Cq.below hw) ha ho hl i hx p i rfl rfl)
 have HC:=Qa (fun w' (hw:Ae w.1.size w w')=>(h.below hw).Bl)
 clear h hk hp ha ho hl hx;go_in;go_wp2_with fail;refine HH.o.mono ?_
 rintro e w1 ⟨rfl,hb1⟩
 have c1:=HC.o _ hb1;go_wp2_with fail;refine (HN.o _ hb1).mono ?_
 rintro e w2 ⟨rfl,hb2⟩
 go_wp2_with fail;go_ret2;exact⟨rfl,qd hb1 hb2⟩
def LY (h:AN w o l H vc vo vw vf f)(hk:H.ok){p:Nat}(hp:lk H.cur p=none)(i:Nat) :
  Ab AId 112 #[Ah (some ⟨l.h,0,none⟩),p,i] w fun e w'=>e=O (Ak #[I Z 0,I Z 70])/\Ae w.1.size w w':=by
 have HH:=Qa (yg h hk hp);clear h hk hp;go_in;go_wp2_with fail;refine HH.o.mono ?_
 rintro e w1 ⟨rfl,hb1⟩
 go_wp2_with fail;go_ret2;exact⟨rfl,hb1⟩
def qli (h:AN w o l H vc vo vw vf f)(hk:H.ok){p:Nat}(hp:lk H.cur p=none)(i:Nat)(z:Int) :
  Ab AId 113 #[Ah (some ⟨l.h,0,none⟩),p,i,z] w fun e w'=>e=O (I Z 70)/\Ae w.1.size w w':=by
 have HH:=Qa (yg h hk hp);clear h hk hp;go_in;go_wp2_with fail;refine HH.o.mono ?_
 rintro e w1 ⟨rfl,hb1⟩
 go_wp2_with fail;go_ret;exact⟨rfl,hb1⟩
def Pn (hk:H.ok){q:Nat}(hq:q=0\/(lk H.cur q).isSome=true):q<=131072:=by
 rcases hq with rfl|hq
 ·omega
 ·obtain⟨ob,cO⟩:=aA.1 hq
  have h1:=zr _ _ _ hk.cl _ (zk cO);have h4:=hk.room;have h5:=H.Cd H.use;have h6:=hk.sz;simp only at h1;omega
def qlw (h:AN w o l H vc vo vw vf f)(hk:H.ok){p:Nat}{ob:Ob}(hp:lk H.cur p=some ob)(i q:Nat)(hx:i<ob.AM.p)(hq:q=0\/(lk H.cur q).isSome=true) :
  Ab AId 113 #[Ah (some ⟨l.h,0,none⟩),p,i,q] w fun e w'=>e=O (I Z 0)/\Hp.ok { H with cur:=up H.cur p (ob.Bm i q) }/\(∃ f',AN w' o l { H with cur:=up H.cur p (ob.Bm i q) } vc vo vw vf f')/\Wr l.wd w w':=by
 obtain⟨ha,ho,hl,_⟩:=h.at_ hk hp;have sZ:=Pn hk hq;have hok:=Hp.Dw hk hp (Ob.Cv ho i q sZ) (rfl);have HH:=Qa (ju h hk hp);have HN:=Qa (fun w' (hw:Ae w.1.size w w')=>yk (h.Cq.below hw) ha ho hl i q hx sZ p i q rfl rfl rfl)
 have HC:=Qa (fun w' (hw:Ae w.1.size w w')=>(h.below hw).Bl)
 have HE:=Qa (fun w1 w' (hw:Ae w.1.size w w1) hT=>(h.below hw).turn (w':=w') hk hp (k:=3+i) (by unfold Ob.size;omega) hT (by rw[show p+(3+i)=p+3+i from by omega];exact ha.Bm ho i q hx))
 rw[show p+(3+i)=p+3+i from by omega]at HE
 have HK:=Qa hok;rcases hq with rfl|hq
 ·clear h hk hp ha ho hl hok hx sZ
  go_in;go_wp2_with fail;refine HH.o.mono ?_;rintro e w1 ⟨rfl,hb1⟩;have c1:=HC.o _ hb1;go_wp2_with fail;refine (HN.o _ hb1).mono ?_;rintro e w2 ⟨rfl,hT⟩;go_wp2_with fail;go_ret;exact⟨rfl,HK.o,⟨_,HE.o _ _ hb1 hT⟩,(Wr.of_below hb1).trans hT.2⟩
 ·obtain⟨oq,hoq⟩:=aA.1 hq
  have HQ:=Qa (fun w' (hw:Ae w.1.size w w')=>ju (h.below hw) hk hoq);by_cases h0:q=0
  ·subst h0
   have:=zr _ _ _ hk.cl _ (zk hoq);have:=H.Cd H.use;simp only at *;omega
  ·clear h hk hp ha ho hl hok hx sZ hq hoq
   go_in;go_wp2_with fail;refine HH.o.mono ?_;rintro e w1 ⟨rfl,hb1⟩;go_wp2_with fail;refine (HQ.o _ hb1).mono ?_;rintro e w2 ⟨rfl,hb2⟩;have hb:=qd hb1 hb2;have c1:=HC.o _ hb;go_wp2_with fail;refine (HN.o _ hb).mono ?_;rintro e w3 ⟨rfl,hT⟩;go_wp2_with fail;go_ret;exact⟨rfl,HK.o,⟨_,HE.o _ _ hb hT⟩,(Wr.of_below hb).trans hT.2⟩
end
def zh:∃ i,AId.info? 3=some i/\i.size=1/\i.bytes=8/\i.zero=some (I Z 0):=by
 have h:((AId.info? 3).map fun i=>(i.zero,i.size,i.bytes))=some (some (I Z 0),1,8):=by kernel_rfl
 obtain⟨i,hi,he⟩:=aK.1 h;injection he with e1 e2;injection e2 with e2 e3;exact⟨i,hi,e2,e3,e1⟩
section
variable {P : Program} (w : Aa)
def Yl {op:Oper}{a:Act}{K:Act->Aa->Prop}{Q:Exit->Act->Aa->Prop}(s x:Operand)(t:TypeId)
  (ho:op.op=.call { callee:=.builtin .append,args:=#[s,x],argTypes:=#[t,t] })
  (e:TypeId)(i:TypeInfo)(z:Ac)(size bytes:Nat)(ht:P.underlying t=some (.slice e))(hi:P.info? e=some i)(hz:i.zero=some z)
  (hsize:i.size=size)(hby:i.bytes=bytes)(hzs:z.cells.size=size)(hsz:0<size)
  (o:Own)(tg:Tag)(v:Ac)(n:Nat)(xs:List Ac)(hs:a.eval s=v)(hown:Row w o tg e size v n xs)
  (ad:Addr)(m c:Nat)(news:List Ac)(hx:a.eval x=Ai (some ad) m c)(hl:news.length=m*size)(hnews:∀ j u,news[j]?=some u->w.cell? (ad.add j)=some u)(h1:∀ u ∈ news,u.oneCell'=true)
  (h63:n+m<=maxLen)(hbytes:(n+m)*bytes<=140737488355328)
  (h:∀ v' w',Row w' (ext o w.1.size tg) tg e size v' (n+m) (xs++news)->Stp (fun u=>u=tg) o (ext o w.1.size tg) w w'->K (a.put op.dst v') w'):op.wp P a w K Q:=by
 obtain⟨v',w',hr,h2,h3⟩:=xp (P:=P) w t op.type e i z size bytes ht hi hz hsize hby hzs hsz o tg v n xs hown ad m c news hl hnews h1 h63 hbytes;unfold Oper.wp execOp;simp only[ho,resolve,invoke,builtin,Sem.run_bind,Sem.run_pure,Result.andThen_ok,aF,aI,aJ,hs,hx,hr];exact h v' w' h2 h3
def zj {ops:Array Oper}{op:Oper}{a:Act}{K:Act->Aa->Prop}{Q:Exit->Act->Aa->Prop}{E:Prop}(hgd:op.guard=none)(s x:Operand)(t:TypeId)
  (ho:op.op=.call { callee:=.builtin .append,args:=#[s,x],argTypes:=#[t,t] })
  (e:TypeId)(i:TypeInfo)(z:Ac)(size bytes:Nat)(ht:P.underlying t=some (.slice e))(hi:P.info? e=some i)(hz:i.zero=some z)
  (hsize:i.size=size)(hby:i.bytes=bytes)(hzs:z.cells.size=size)(hsz:0<size)
  (o:Own)(tg:Tag)(v:Ac)(n:Nat)(xs:List Ac)(hs:a.eval s=v)(hown:Row w o tg e size v n xs)
  (ad:Addr)(m c:Nat)(news:List Ac)(hx:a.eval x=Ai (some ad) m c)(hl:news.length=m*size)(hnews:∀ j u,news[j]?=some u->w.cell? (ad.add j)=some u)(h1:∀ u ∈ news,u.oneCell'=true)
  (h63:n+m<=maxLen)(hbytes:(n+m)*bytes<=140737488355328)
  (h:∀ v' w',Row w' (ext o w.1.size tg) tg e size v' (n+m) (xs++news)->Stp (fun u=>u=tg) o (ext o w.1.size tg) w w'->K (a.put op.dst v') w') :
  if Aj op (yielded ops a.tmps)=true then Oper.wp P op a w K Q else E:=by
 have hw:Aj op (yielded ops a.tmps)=true:=by simp[Aj,hgd]
 rw[if_pos hw];exact Yl w s x t ho e i z size bytes ht hi hz hsize hby hzs hsz o tg v n xs hs hown ad m c news hx hl hnews h1 h63 hbytes h
end
def Row.A5 {w:Aa}{o:Own}{t:Tag}{e:TypeId}{size n:Nat}{v:Ac}{xs:List Ac}(h:Row w o t e size v n xs):∃ pa cp,v=.slice pa n cp:=by
 rcases h.own.2 with⟨rfl,rfl⟩|⟨g,cap,cur,rfl,_⟩
 ·exact⟨_,_,rfl⟩
 ·exact⟨_,_,rfl⟩
def qv {w:Aa}{B:Nat}{v:Ac}{t:TypeId}(h:An w B #[v] t):∀ j u,[v][j]?=some u->w.cell? ((⟨B,0,none⟩:Addr).add j)=some u:=fun j u hu=>by
 have hadd:(⟨B,0,none⟩:Addr).add j=⟨B,j,none⟩:=by unfold Addr.add;split<;>simp_all
 rw[hadd,h.cell];simpa using hu
def jd {z:Int}:∀ u ∈ [Value.int .i64 z],u.oneCell'=true:=by intro u hu;simp at hu;subst hu;rfl
def XC {w:Aa}{o:Own}{tg t0:Tag}{h n sz top B5:Nat}{ps:List Ac}{v0 x0 x1 x2 x3 x4 x5 vc vo:Ac}(hb:An w h #[v0,I Z 1,sz,top,I Z (1+(sz:Int)),sz,I Z B5,vc,vo,I Z 0,x0,x1,x2,x3,x4,x5] 185)
  (hr:Row w o tg 3 1 vc n ps)(hn:n<16384)(ic:o h=t0)(ht:t0≠tg)(p t:Nat) :
  Ab AId 230 #[Ah (some ⟨h,0,none⟩),DG 1 sz t,p] w fun e w'=>e=O (Ak #[]) /\
   ∃ bX o',An w' h #[v0,I Z 1,sz,t,I Z (1+(sz:Int)),sz,I Z B5,bX,vo,I Z 0,x0,x1,x2,x3,x4,x5] 185/\Row w' o' tg 3 1 bX (n+1) (ps++[nv p])/\Stp (fun t=>t=t0\/t=tg) o o' w w':=by
 have hu64:=underlying25;have c:=hb.cell;have z:=hb.free;have s:=hb.lt;have hne:w.1.size≠h:=by omega
 go_in;go_upto_region 1 with fail;have hc9:w.cell? ⟨h,9,none⟩=some (I Z 0):=by rw[c];rfl
 obtain⟨W,hW⟩:=Ja0 (((((w.setCell ⟨h,1,none⟩ (I Z 1)).setCell ⟨h,2,none⟩ sz).setCell ⟨h,3,none⟩ t).alloc (AIe #[I Z 1,sz,t] 181)).drew);have jW:=An.alloc (((hb.set 1 (I Z 1)).set 2 sz).set 3 t) (AIe #[I Z 1,sz,t] 181);have jB:=An.Ax ((((w.setCell ⟨h,1,none⟩ (I Z 1)).setCell ⟨h,2,none⟩ sz).setCell ⟨h,3,none⟩ t)) #[I Z 1,sz,t] #[I Z 1,sz,t] 181 w.1.size (by simp) rfl
 have jW:=qi jW;have jB:=qi jB;have k9:=jW.cell 9;have b0:=jB.cell 0;have b1:=jB.cell 1;have b2:=jB.cell 2;simp at k9 b0 b1 b2;go_region_held3 (fun w'=>w'.cell? ⟨h,9,none⟩=some (I Z 0)/\w'.cell? ⟨w.1.size,0,none⟩=some (I Z 1)/\w'.cell? ⟨w.1.size,1,none⟩=some (I Z sz)/\w'.cell? ⟨w.1.size,2,none⟩=some (I Z t)) (go_keep) (fail)
 rw[<-hW];have hSt:Stp (fun t=>t=t0) o o w W:=by
  rw[hW];exact ((((((Stp.refl _ o w).setCell (by simpa using ic) _).setCell (by simpa using ic) _).setCell (by simpa using ic) _).alloc _).drew)
 have nM:An W h ((((#[v0,I Z 1,sz,top,I Z (1+(sz:Int)),sz,I Z B5,vc,vo,I Z 0,x0,x1,x2,x3,x4,x5]:Array Ac).setIfInBounds 1 (I Z 1)).setIfInBounds 2 (I Z sz)).setIfInBounds 3 (I Z t)) 185:=by rw[hW];exact jW
 simp at nM;have hr2:=hr.Ar hSt (fun e=>ht e.symm)
 clear jW jB k9 b0 b1 b2 hW c z s hc9 hr hb hne;have c:=nM.cell;have z:=nM.free;have s:=nM.lt;go_upto_region 2 with fail;obtain⟨iI,hi,hsI,cZ,bZ⟩:=zh;have k9:W.cell? ⟨h,9,none⟩=some (I Z 0):=by rw[c];rfl
 have k7:W.cell? ⟨h,7,none⟩=some vc:=by rw[c];rfl
 have dB:n+1<=maxLen:=by simp only[maxLen];omega
 have hmb:(n+1)*8<=140737488355328:=by omega
 have jn:=An.new W.drew #[p] 3;have rn:Row (W.drew.alloc (AIe #[p] 3)) o tg 3 1 vc n ps:=hr2.below (qa (qe (qc W)) _);have hkeep:=fun (w1:Aa)(o1:Own)(hst:Stp (fun u=>u=tg) o o1 (W.drew.alloc (AIe #[p] 3)) w1)=>(An.alloc (qi nM) (AIe #[p] 3)).Ar hst (by rw[ic];exact ht)
 have hfin:=fun (w1:Aa)(o1:Own)(pa:Option Addr)(cp:Nat)(hown:Row w1 o1 tg 3 1 (.slice pa (n+1) cp) (n+1) (ps++[I Z p]))(hst:Stp (fun u=>u=tg) o o1 (W.drew.alloc (AIe #[p] 3)) w1) =>
  show ∃ bX o',An (w1.setCell ⟨h,7,none⟩ (.slice pa (n+1) cp)) h #[v0,I Z 1,sz,t,I Z (1+(sz:Int)),sz,I Z B5,bX,vo,I Z 0,x0,x1,x2,x3,x4,x5] 185/\Row (w1.setCell ⟨h,7,none⟩ (.slice pa (n+1) cp)) o' tg 3 1 bX (n+1) (ps++[nv p])/\Stp (fun t=>t=t0\/t=tg) o o' w (w1.setCell ⟨h,7,none⟩ (.slice pa (n+1) cp)) from by
   have hlt:h<(W.drew.alloc (AIe #[p] 3)).1.size:=(An.alloc (qi nM) _).lt;have ho1:o1 h=t0:=by rw[hst.tags h hlt];exact ic
   have k1:Stp (fun t=>t=t0) o1 o1 w1 (w1.setCell ⟨h,7,none⟩ (.slice pa (n+1) cp)):=(Stp.refl _ o1 w1).setCell (by simpa using ho1) _
   refine⟨_,o1,(hkeep _ _ hst).set 7 _,hown.Ar k1 (fun e=>ht e.symm),?_⟩;exact ((hSt.mono fun _ e=>Or.inl e).trans (Stp.of_below (qa (qe (qc W)) _))).trans ((hst.mono fun _ e=>Or.inr e).trans (k1.mono fun _ e=>Or.inl e))
 go_region_law ((refine zj _ (by rfl) _ _ _ (by rfl) 3 iI _ 1 8 hu64 hi bZ hsI cZ (by rfl) (by decide) o tg vc n ps (by rfl) rn ⟨W.1.size,0,none⟩ 1 1 [I Z p] (by rfl) (by rfl) (qv jn) jd dB hmb ?_;intro v' w1 hown hst;obtain⟨pa,cp,rfl⟩:=hown.A5;have jX:=hkeep _ _ hst;have cX:=jX.cell;have zX:=jX.free;have sX:=jX.lt))
 all_goals
  go_wp2_with fail;go_end0;exact⟨rfl,hfin _ _ _ _ hown hst⟩
end
section
open Go.RowKit Hp
attribute [local go_sem ↓] Go.wp_at_zero Go.wp_at_succ
section
variable {w : Aa} {o : Own} {l : Bo} {H : Hp} {vc vo vw vf : Ac} {f : Nat -> Nat}
def AN.EP (h:AN w o l H vc vo vw vf f)(hu:H.use=false):An w l.h #[Ah (some ⟨l.a,0,none⟩),I Z 1,H.size,H.top,I Z (1+(H.size:Int)),H.size,H.B5,vc,vo,I Z 0,.bool H.AL,H.BB,H.scan,H.Ap,vw,vf] 185:=by
 have:=h.hb;unfold Hp.cells at this;rwa [hu,if_neg (by simp)]at this
end
end
section
open Go.RowKit Hp
def Stp.Cg {T:Tag->Prop}{o:Own}{b:Nat}{w w':Aa}(h:Wr b w w')(ht:T (o b)):Stp T o o w w':=
 ⟨h.os,h.tape,h.output,h.size,fun _ _=>rfl,fun k hk hn=>h.block k hk fun e=>hn (by rw[e];exact ht)⟩
def B6.Ar {T:Tag->Prop}{o o':Own}{w w':Aa}{a wd L:Nat}{f:Nat->Nat}(h:B6 w a wd L f)(k:Stp T o o' w w')(h1:¬T (o a))(h2:¬T (o wd)):B6 w' a wd L f:=by
 obtain⟨cs,hb,hc⟩:=h.words;exact⟨h.Cl.Ar k h1,h.ne,⟨cs,hb.Ar k h2,hc⟩,h.le⟩
def Row.retag {w:Aa}{o o':Own}{t:Tag}{e:TypeId}{size:Nat}{v:Ac}{n:Nat}{xs:List Ac}(h:Row w o t e size v n xs)(he:∀ b,b<w.1.size->o' b=o b):Row w o' t e size v n xs:=by
 refine⟨h.own,fun k hk=>?_⟩
 rcases h.own.2 with⟨rfl,_⟩|⟨g,cap,cur,rfl,_,hg,_⟩
 ·simp[Value.ownBlock]at hk
 ·have e1:g=k:=by simpa [Value.ownBlock] using hk
  subst e1;rw[he g (Qf.1 hg).1];exact h.tag g rfl
section
variable {w : Aa} {o : Own} {l : Bo} {H : Hp} {vc vo vw vf : Ac} {f : Nat -> Nat}
def AN.retag {o':Own}(h:AN w o l H vc vo vw vf f)(he:∀ b,b<w.1.size->o' b=o b):AN w o' l H vc vo vw vf f:=
 ⟨h.hb,h.Cq,h.rc.retag he,h.ro.retag he,h.rw.retag he,h.rf.retag he,(he _ h.hb.lt).trans h.oh,(he _ h.Cq.Cl.lt).trans h.oa,(he _ h.Cq.lt).trans h.ow,h.FC,h.Cs⟩
def Hp.lay (H : Hp) (s : BR) : Hp :=
  { H with cur := H.cur ++ [(H.top, Ob.new s (H.Ap + 1))], top := H.top + BJ (3 + s.p + s.d), Ap := H.Ap + 1,
           AA := if s.AA then H.AA ++ [H.top] else H.AA, final := if s.final then H.final ++ [H.top] else H.final }
end
end
section
open Hp
def Bg:List (Nat×Ob×Option Nat)->Nat->Option (Ob×Option Nat)
 | [],_=>none
 | (q,o)::l,p=>if q=p then some o else Bg l p
def ke:∀ {l:List (Nat×Ob×Option Nat)}{p:Nat}{o:Ob×Option Nat},Bg l p=some o->(p,o) ∈ l
 | [],p,o,h=>by simp[Bg]at h
 | (q,x)::l,p,o,h=>by
  unfold Bg at h;split at h
  ·rename_i e
   injection h with h;rw[<-e,<-h];exact .head _
  ·exact .tail _ (ke h)
def Fj {l:List (Nat×Ob×Option Nat)}{p:Nat}:(Bg l p).isSome=true↔p ∈ l.map (·.1):=by
 induction l with
 | nil=>simp[Bg]
 | cons x l ih =>
  obtain⟨q,o⟩:=x;unfold Bg;split
  ·rename_i e;simp[e]
  ·rename_i e;rw[ih];simp[Ne.symm e]
def qx (l:List (Nat×Ob×Option Nat))(p q:Nat):List (Nat×Ob×Option Nat):=l.map fun x=>if x.1=p then (x.1,x.2.1,some q) else x
def bc (l:List (Nat×Ob×Option Nat))(p q:Nat):((qx l p q).map fun x=>(x.1,x.2.1))=l.map fun x=>(x.1,x.2.1):=by
 unfold qx;rw[aa];refine aC fun x _=>?_
 simp only[aN];split<;>rfl
def qkr (l:List (Nat×Ob×Option Nat))(p q:Nat):(qx l p q).length=l.length:=by unfold qx;simp
def Y2 (l:List (Nat×Ob×Option Nat))(p q:Nat):(qx l p q).map (·.1)=l.map (·.1):=by
 have:=congrArg (aQ (·.1)) (bc l p q);simpa [aa,ag] using this
def ft (l:List (Nat×Ob×Option Nat))(p q r:Nat):Bg (qx l p q) r=if r=p then (Bg l p).map fun x=>(x.1,some q) else Bg l r:=by
 induction l with
 | nil=>unfold qx Bg;simp
 | cons x l ih =>
  obtain⟨s,o⟩:=x;have e:qx ((s,o)::l) p q=(if s=p then (s,o.1,some q) else (s,o))::qx l p q:=rfl;rw[e];by_cases h1:s=p
  ·subst h1
   rw[if_pos rfl];by_cases h2:r=s
   ·subst h2;simp[Bg]
   ·rw[if_neg h2]at ih ⊢
    simp only[Bg,if_neg (Ne.symm h2),ih]
  ·rw[if_neg h1]
   by_cases h2:r=p
   ·subst h2
    rw[if_pos rfl]at ih ⊢;simp only[Bg,if_neg h1,ih]
   ·rw[if_neg h2]at ih ⊢
    simp only[Bg,ih]
def gv {H:Hp}(hk:H.ok):(H.old.map (·.1)).Pairwise (·<·):=by
 have:=yl _ _ _ hk.ol hk.ok;simpa [Hp.Cs,aa,ag] using this
def V5:∀ {l:List (Nat×Ob×Option Nat)}{p q:Nat}{ob:Ob},(l.map (·.1)).Pairwise (·<·)->Bg l p=some (ob,none)->pj (qx l p q)+BJ ob.size=pj l
 | [],p,q,ob,_,h=>by simp[Bg]at h
 | (s,o,g)::l,p,q,ob,hs,h=>by
  have hs':(∀ y ∈ l.map (·.1),s<y)/\(l.map (·.1)).Pairwise (·<·):=List.pairwise_cons.1 hs;have e:qx ((s,o,g)::l) p q=(if s=p then (s,o,some q) else (s,o,g))::qx l p q:=rfl;rw[e];unfold Bg at h;by_cases h1:s=p
  ·subst h1
   rw[if_pos rfl]at h ⊢;injection h with h;injection h with h2 h3;subst h2 h3;have hno:qx l s q=l:=by
    unfold qx;refine (aC fun x hx=>?_).trans (aL _);have:=hs'.1 x.1 (Qt.2 ⟨x,hx,rfl⟩);rw[if_neg (by omega)];rfl
   rw[hno];show pj l+BJ o.size=BJ o.size+pj l;omega
  ·rw[if_neg h1]at h ⊢
   have ih:=V5 (q:=q) hs'.2 h
   cases g with
   | none =>
    show BJ o.size+pj (qx l p q)+BJ ob.size=BJ o.size+pj l;omega
   | some r=>exact ih
def Sb:∀ {l:List (Nat×Ob×Option Nat)}{p:Nat}{ob:Ob},Bg l p=some (ob,none)->BJ ob.size<=pj l
 | [],p,ob,h=>by simp[Bg]at h
 | (s,o,g)::l,p,ob,h=>by
  unfold Bg at h;split at h
  ·injection h with h
   injection h with h2 h3;subst h2 h3;show BJ o.size<=BJ o.size+pj l;omega
  ·have ih:=Sb h
   cases g with
   | none=>show BJ ob.size<=BJ o.size+pj l;omega
   | some r=>exact ih
def Hp.AG (H:Hp)(p:Nat):Hp×Nat:=
 match Bg H.old p with
 | none=>(H,p)
 | some (_,some q)=>(H,q)
 | some (ob,none)=>({ H with cur:=H.cur++[(H.top,ob)],top:=H.top+BJ ob.size,old:=qx H.old p H.top,BB:=H.BB-BJ ob.size },H.top)
def Hp.CV {H:Hp}{p:Nat}(h:Bg H.old p=none):H.AG p=(H,p):=by unfold Hp.AG;rw[h]
def Hp.CU {H:Hp}{p q:Nat}{ob:Ob}(h:Bg H.old p=some (ob,some q)):H.AG p=(H,q):=by unfold Hp.AG;rw[h]
def Hp.Cu {H:Hp}{p:Nat}{ob:Ob}(h:Bg H.old p=some (ob,none)):H.AG p=({ H with cur:=H.cur++[(H.top,ob)],top:=H.top+BJ ob.size,old:=qx H.old p H.top,BB:=H.BB-BJ ob.size },H.top):=by unfold Hp.AG;rw[h]
def fj {H:Hp}(hk:H.ok){p:Nat}{ob:Ob}{g:Option Nat}(h:Bg H.old p=some (ob,g)):ob.ok/\H.base (!H.use)<=p/\p+BJ ob.size<=H.base (!H.use)+H.size/\p+ob.size<=2*H.size+1:=by
 have hm:(p,ob) ∈ H.Cs:=Qt.2 ⟨(p,ob,g),ke h,rfl⟩;have h1:=zr _ _ _ hk.ol _ hm;have h2:=hk.ok _ hm;have h3:=zu _ (Ob.AW h2).2;have h4:=hk.ot;have h5:=H.Cd (!H.use);simp only at h1 h2 h3;exact⟨h2,h1.1,by omega,by omega⟩
def kw {H:Hp}(hk:H.ok):H.base H.use<=H.top:=g9 _ _ _ hk.cl
def Hp.Es {H:Hp}(hk:H.ok)(p:Nat):(H.AG p).1.ok:=by
 cases h:Bg H.old p with
 | none=>rw[H.CV h];exact hk
 | some x =>
  obtain⟨ob,g⟩:=x
  cases g with
  | some q=>rw[H.CU h];exact hk
  | none =>
   rw[H.Cu h];obtain⟨ho,_,_,_⟩:=fj hk h;have hg:=V5 (q:=H.top) (gv hk) h;have hr:=hk.room;have hw:=hk.JU;have hb:=kw hk;have hb1:=H.Cd H.use;have hsz:=hk.sz;refine⟨hk.sz,nc _ _ _ _ hk.cl,fun x hx=>?_,?_,?_,hk.ot,fun hm=>?_,?_,?_,hk.Bc,hk.CE,fun x hx q hq=>?_⟩
   ·rcases Qs.1 hx with hx|hx
    ·exact hk.ck x hx
    ·rw[Zb.1 hx];exact ho
   ·show kz _ ((qx H.old p H.top).map _) _
    rw[bc];exact hk.ol
   ·show Ka ((qx H.old p H.top).map _)
    rw[bc];exact hk.ok
   ·have:=hk.still hm
    rw[this]at h;simp[Bg]at h
   ·show H.BB-BJ ob.size=pj (qx H.old p H.top)
    omega
   ·show H.top+BJ ob.size+(H.BB-BJ ob.size)<=H.base H.use+H.size
    omega
   ·unfold qx at hx
    obtain⟨z,hz,rfl⟩:=Qt.1 hx;split at hq
    ·injection hq with hq;subst hq;omega
    ·exact hk.gone z hz q hq
end
section
open Go.RowKit Hp
attribute [local go_sem ↓] Go.wp_at_zero Go.wp_at_succ
variable {w : Aa} {a wd L : Nat} {f : Nat -> Nat} {p : Nat} {ob : Ob}
def Gt (f:Nat->Nat)(p t n:Nat):Nat->Nat:=upd (N9 f p t n) p (4*t+2)
def G9 {f:Nat->Nat}{p t n j:Nat}(h1:t<=j)(h2:j<t+n)(hp:p<t\/t+n<=p):Gt f p t n j=f (p+(j-t)):=by
 unfold Gt;rw[upd_ne _ _ _ _ (by omega)];unfold N9;rw[if_pos ⟨h1,h2⟩]
def Lv (f:Nat->Nat)(p t n:Nat):Gt f p t n p=4*t+2:=Dh _ _ _
def tw {f:Nat->Nat}{p t n j:Nat}(h:j<t\/t+n<=j)(hp:j≠p):Gt f p t n j=f j:=by
 unfold Gt;rw[upd_ne _ _ _ _ hp];unfold N9;rw[if_neg (by omega)]
def BE.copied (ho:BE f p ob)(hk:ob.ok){t:Nat}(hp:p+ob.size<=t\/t+ob.size<=p):BE (Gt f p t ob.size) t ob:=by
 have hs:=Ob.AW hk;have key:∀ k,k<ob.size->Gt f p t ob.size (t+k)=f (p+k):=fun k hk=>by
  rw[G9 (by omega) (by omega) (by omega),show p+(t+k-t)=p+k from by omega]
 unfold Ob.size at key hs;refine⟨?_,?_,?_,fun j x hx=>?_,fun j n hn=>?_⟩
 ·have:=key 0 (by omega)
  rw[Nat.add_zero,Nat.add_zero]at this;unfold Ob.size;rw[this];exact ho.h0
 ·unfold Ob.size;rw[key 1 (by omega)];exact ho.h1
 ·unfold Ob.size;rw[key 2 (by omega)];exact ho.h2
 ·have:=(Qc.1 hx).1
  rw[hk.lp]at this;unfold Ob.size;rw[show t+3+j=t+(3+j) from by omega,key (3+j) (by omega),show p+(3+j)=p+3+j from by omega];exact ho.hp j x hx
 ·have:=(Qc.1 hn).1
  rw[hk.ln]at this;unfold Ob.size;rw[show t+3+ob.AM.p+j=t+(3+ob.AM.p+j) from by omega,key (3+ob.AM.p+j) (by omega),show p+(3+ob.AM.p+j)=p+3+ob.AM.p+j from by omega];exact ho.hn j n hn
def Wr.B8 {b c:Nat}{w w':Aa}(h:Wr b w w')(hc:w.1.size<=c)(i:Nat)(v:Ac):Wr b w (w'.setCell ⟨c,i,none⟩ v):=
 ⟨h.os,h.tape,h.output,by simpa [World.setCell] using h.size,fun k hk hn=>(Below.heap_setCell _ _ _ _ (by show k≠c;omega)).trans (h.block k hk hn)⟩
def B6.B8 {w':Aa}(h:B6 w' a wd L f){c:Nat}(h1:a≠c)(h2:wd≠c)(i:Nat)(v:Ac):B6 (w'.setCell ⟨c,i,none⟩ v) a wd L f:=h.wr (Wr.set c w' i v) h1 h2
def Ha (h:B6 w a wd L f)(ho:BE f p ob)(hk:ob.ok)(hl:p+ob.size<=L){b s t:Nat}(hsp:E9 b s t)(hr:t+BJ ob.size<=b+s)(ht:t+ob.size<=L)(t1:1<=t) :
  Ab AId 235 #[Ah (some ⟨a,0,none⟩),p,DG b s t] w fun e w'=>e=O (Ak #[DG b s (t+BJ ob.size),t,I Z 0])/\Turned w w' a wd L (Gt f p t ob.size):=by
 have hs:=Ob.AW hk;have hL:=h.le;have HA:=Qa (fun (W:Aa)(hb:Ae w.1.size w W)=>Jz (h.below hb) ho hk hl)
 have HS:=Qa (fun (W:Aa)(hb:Ae w.1.size w W)=>jy (h.below hb) ho hk hl p rfl)
 have HZ:=Qa (fun w=>xx ob.AM hk.AM w)
 have HT:=Qa (fun w=>Tq hsp ob.size hs.1 hs.2 hr _ rfl w)
 have HN:=Qa (fun (W:Aa)(hb:Ae w.1.size w W)=>Q2 (h.below hb))
 have HG:=Qa (fun w=>T0 t t1 (by omega) t rfl w)
 have HM:=Qa (fun (W:Aa)(hb:Ae w.1.size w W)=>Lf (h.below hb) p t ob.size hl ht (by omega) p t ob.size rfl rfl rfl)
 have HW:=Qa (fun (W:Aa)(h:B6 W a wd L (N9 f p t ob.size))=>fq h p p (4*t+2) rfl (by omega) ((4*t+2:Nat):Int) rfl)
 have hwd:=h.lt;have hla:=h.Cl.lt;have ez:(3+ob.AM.p+ob.AM.d)=ob.size:=rfl;rw[ez]at HZ;have g1:¬((ob.size:Int) > (L:Int)-(t:Int)):=by omega
 have g2:((t:Int)==0)=false:=by rw[Qh];omega
 have g3:IntKind.i64.wrap ((L:Int)-(t:Int))=(L:Int)-(t:Int):=af _ (by omega)
 generalize hrd:t+BJ ob.size=tr at *;generalize ob.size=n at *;obtain⟨c4,hc4⟩:∃ c:Nat,c=4*t+2:=⟨_,rfl⟩;have HC4:=Qa hc4;rw[<-hc4]at HG HW;clear h ho hk hs hL hsp hr hrd hl ht ez hc4;obtain⟨W,hW⟩:=Ja0 ((w.alloc (AIe #[b,s,t] 181)).alloc (AIe #[I Z 0,I Z 0,I Z 0] 181));have bW:Ae w.1.size w W:=by rw[hW];exact qa (qa (qc _) _) _
 have jS:An W w.1.size #[b,s,t] 181:=by rw[hW];exact (An.new _ _ _).alloc _
 have jR:An W (w.1.size+1) #[I Z 0,I Z 0,I Z 0] 181:=by rw[hW];exact An.Ax _ _ _ _ _ (by simp) rfl
 go_in;go_wp2_with fail;rw[<-hW];clear hW;obtain⟨bS,hbS⟩:=Ja0 w.1.size;obtain⟨bR,hbR⟩:=Ja0 (w.1.size+1);rw[<-hbR]at jR ⊢;rw[<-hbS]at jS ⊢;have oM:=Qa (show w.1.size<=bS/\w.1.size<=bR/\bS≠bR from by omega)
 clear hbS hbR;refine (HA.o _ bW).mono ?_
 rintro e w1 ⟨rfl,rfl⟩
 go_wp2_with fail;refine (HS.o _ bW).mono ?_
 rintro e w2 ⟨rfl,hb2⟩
 have eB:=qd bW hb2;have dJ:=jS.below hb2 jS.lt;have ek:=jR.below hb2 jR.lt;clear hb2 jS jR bW HA HS;go_wp2_with fail;refine (HZ.o _).mono ?_
 rintro e w3 ⟨rfl,hb3⟩
 have bW3:=qd (qa eB (AIe #[ob.AM.p,ob.AM.d,.bool ob.AM.AA,.bool ob.AM.final] 93)) hb3;have ik:=(dJ.alloc (AIe #[ob.AM.p,ob.AM.d,.bool ob.AM.AA,.bool ob.AM.final] 93)).below hb3 (dJ.alloc _).lt;have fM:=(ek.alloc (AIe #[ob.AM.p,ob.AM.d,.bool ob.AM.AA,.bool ob.AM.final] 93)).below hb3 (ek.alloc _).lt;have cS:=ik.cell;clear hb3 dJ ek eB HZ;go_wp2_with fail;refine (HT.o _).mono ?_
 rintro e w4 ⟨rfl,hb4⟩
 have bW4:=qd bW3 hb4;have vM:=fM.below hb4 fM.lt;clear hb4 ik fM bW3 HT cS;have bW5:=qa bW4 (AIe #[b,s,tr] 181);have jA5:=An.new w4 #[b,s,tr] 181;have oG:=vM.alloc (AIe #[b,s,tr] 181);have fD:w.1.size<=w4.1.size:=bW4.size;obtain⟨W5,dA⟩:=Ja0 (w4.alloc (AIe #[b,s,tr] 181));rw[<-dA]at bW5 jA5 oG;obtain⟨bA,iY⟩:=Ja0 w4.1.size;rw[<-iY]at jA5 fD;clear vM bW4;go_wp2_with fail;rw[<-dA,<-iY];clear dA iY;refine (HN.o _ bW5).mono ?_
 rintro e w6 ⟨rfl,rfl⟩
 go_wp2_with fail;refine (HG.o _).mono ?_
 rintro e w6 ⟨rfl,rfl⟩
 go_wp2_with fail;refine (HM.o _ bW5).mono ?_
 rintro e w7 ⟨rfl,hT7⟩
 have lT:=jA5.wr hT7.2 (by omega)
 have jR7:=oG.wr hT7.2 (by have:=oM.o;omega)
 go_wp2_with fail;refine (HW.o _ hT7.1).mono ?_
 rintro e w8 ⟨rfl,lF⟩
 have jA8:=lT.wr lF.2 (by omega)
 have jR8:=jR7.wr lF.2 (by have:=oM.o;omega)
 have cA:=jA8.cell;have cR:=jR8.cell;have zR:=jR8.free;have lR:=jR8.lt;have hT:=((Turned.after bW5 hT7).2).trans lF.2;have hW8:=lF.1;clear hT7 lF jA5 oG lT jR7 bW5 HM HW HN HG;go_wp2_with fail;refine bodyPost_ret (v:=Ak #[DG b s tr,t,I Z 0]) (by simp[results,results235,go_sem,cR]) rfl ⟨rfl,?_⟩
 have h1:a≠bR:=by have:=oM.o;omega
 have h2:wd≠bR:=by have:=oM.o;omega
 have h3:w.1.size<=bR:=oM.o.2.1;unfold Gt;rw[<-HC4.o];refine⟨?_,?_⟩
 ·repeat (first|exact hW8|refine B6.B8 ?_ h1 h2 _ _)
 ·repeat (first|exact hT|refine Wr.B8 ?_ h3 _ _)
section
variable {w : Aa} {o : Own} {l : Bo} {H : Hp} {vc vo vw vf : Ac} {f : Nat -> Nat}
def bm (h:AN w o l H vc vo vw vf f) (hk:H.ok) (p:Nat) :
  Ab AId 172 #[Ah (some ⟨l.h,0,none⟩),p] w fun e w'=>e=O (.bool (Bg H.old p).isSome)/\Ae w.1.size w w':=by
 have HM:=Qa (xc h)
 cases hm:H.AL with
 | false =>
  rw[hm]at HM;rw[hk.still hm];clear h hm hk;go_in;go_wp2_with fail;refine HM.o.mono ?_;rintro e w1 ⟨rfl,rfl⟩;go_wp2_with fail;go_ret;exact⟨rfl,qc _⟩
 | true =>
  rw[hm]at HM;have hbs:=fun (w':Aa) (hw:Ae w.1.size w w')=>U5 (w:=w') (o:=o) (t:=(l.id,if H.use then 3 else 4)) (v:=vo) (H.old.map (·.1)) (by simpa [aa,ag] using h.ro.below hw) (gv hk) (by have:=Mp hk;simpa using by omega) p p rfl
  have hd:decide (p ∈ H.old.map (·.1))=(Bg H.old p).isSome:=by rw[Bool.eq_iff_iff,decide_eq_true_eq,Fj]
  rw[hd]at hbs;generalize (((H.old.map (·.1)).map fun (p:Nat)=>(p:Int)).countP (·<(p:Int)):Nat)=q at hbs;generalize (Bg H.old p).isSome=b at *;have c:=h.hb.cell;unfold Hp.cells at c;have HB:=Qa hbs;clear h hbs hd hm
  cases hu:H.use
  all_goals
   rw[hu]at c;first|rw[if_pos rfl]at c|rw[if_neg (by simp)]at c
   clear hu;go_in;go_wp2_with fail;refine HM.o.mono ?_;rintro e w1 ⟨rfl,rfl⟩;go_upto_region 3 with fail;go_quiet ((go_at_call 124;exact Calls.quiet_of (HB.o _ (zi (qc w) _))));go_wp2_with fail;go_ret;exact⟨rfl,zi (qc w) _⟩
end
def XA {w:Aa}{o:Own}{tg t0:Tag}{h n sz top B5:Nat}{ps:List Ac}{v0 x0 x1 x2 x3 x4 x5 vc vo:Ac}(hb:An w h #[v0,I Z 1,sz,I Z B5,I Z (1+(sz:Int)),sz,top,vo,vc,I Z 1,x0,x1,x2,x3,x4,x5] 185)
  (hr:Row w o tg 3 1 vc n ps)(hn:n<16384)(ic:o h=t0)(ht:t0≠tg)(p t:Nat) :
  Ab AId 230 #[Ah (some ⟨h,0,none⟩),(Al #[I Z (1+(sz:Int)),sz,t]),p] w fun e w'=>e=O (Ak #[]) /\
   ∃ bX o',An w' h #[v0,I Z 1,sz,I Z B5,I Z (1+(sz:Int)),sz,t,vo,bX,I Z 1,x0,x1,x2,x3,x4,x5] 185/\Row w' o' tg 3 1 bX (n+1) (ps++[nv p])/\Stp (fun t=>t=t0\/t=tg) o o' w w':=by
 have hu64:=underlying25;have c:=hb.cell;have z:=hb.free;have s:=hb.lt;have hne:w.1.size≠h:=by omega
 go_in;go_upto_region 1 with fail;have hc9:w.cell? ⟨h,9,none⟩=some (I Z 1):=by rw[c];rfl
 obtain⟨W,hW⟩:=Ja0 (((((w.setCell ⟨h,4,none⟩ (I Z (1+(sz:Int)))).setCell ⟨h,5,none⟩ sz).setCell ⟨h,6,none⟩ t).alloc (AIe #[I Z (1+(sz:Int)),sz,t] 181)).drew);have jW:=An.alloc (((hb.set 4 (I Z (1+(sz:Int)))).set 5 sz).set 6 t) (AIe #[I Z (1+(sz:Int)),sz,t] 181);have jB:=An.Ax ((((w.setCell ⟨h,4,none⟩ (I Z (1+(sz:Int)))).setCell ⟨h,5,none⟩ sz).setCell ⟨h,6,none⟩ t)) #[I Z (1+(sz:Int)),sz,t] #[I Z (1+(sz:Int)),sz,t] 181 w.1.size (by simp) rfl
 have jW:=qi jW;have jB:=qi jB;have k9:=jW.cell 9;have b0:=jB.cell 0;have b1:=jB.cell 1;have b2:=jB.cell 2;simp at k9 b0 b1 b2;go_region_held3 (fun w'=>w'.cell? ⟨h,9,none⟩=some (I Z 1)/\w'.cell? ⟨w.1.size,0,none⟩=some (I Z (1+(sz:Int)))/\w'.cell? ⟨w.1.size,1,none⟩=some (I Z sz)/\w'.cell? ⟨w.1.size,2,none⟩=some (I Z t)) (go_keep) (fail)
 rw[<-hW];have hSt:Stp (fun t=>t=t0) o o w W:=by
  rw[hW];exact ((((((Stp.refl _ o w).setCell (by simpa using ic) _).setCell (by simpa using ic) _).setCell (by simpa using ic) _).alloc _).drew)
 have nM:An W h ((((#[v0,I Z 1,sz,I Z B5,I Z (1+(sz:Int)),sz,top,vo,vc,I Z 1,x0,x1,x2,x3,x4,x5]:Array Ac).setIfInBounds 4 (I Z (1+(sz:Int)))).setIfInBounds 5 (I Z sz)).setIfInBounds 6 (I Z t)) 185:=by rw[hW];exact jW
 simp at nM;have hr2:=hr.Ar hSt (fun e=>ht e.symm)
 clear jW jB k9 b0 b1 b2 hW c z s hc9 hr hb hne;have c:=nM.cell;have z:=nM.free;have s:=nM.lt;go_upto_region 2 with fail;obtain⟨iI,hi,hsI,cZ,bZ⟩:=zh;have k9:W.cell? ⟨h,9,none⟩=some (I Z 1):=by rw[c];rfl
 have k7:W.cell? ⟨h,8,none⟩=some vc:=by rw[c];rfl
 have dB:n+1<=maxLen:=by simp only[maxLen];omega
 have hmb:(n+1)*8<=140737488355328:=by omega
 have jn:=An.new W.drew #[p] 3;have rn:Row (W.drew.alloc (AIe #[p] 3)) o tg 3 1 vc n ps:=hr2.below (qa (qe (qc W)) _);have hkeep:=fun (w1:Aa)(o1:Own)(hst:Stp (fun u=>u=tg) o o1 (W.drew.alloc (AIe #[p] 3)) w1)=>(An.alloc (qi nM) (AIe #[p] 3)).Ar hst (by rw[ic];exact ht)
 have hfin:=fun (w1:Aa)(o1:Own)(pa:Option Addr)(cp:Nat)(hown:Row w1 o1 tg 3 1 (.slice pa (n+1) cp) (n+1) (ps++[I Z p]))(hst:Stp (fun u=>u=tg) o o1 (W.drew.alloc (AIe #[p] 3)) w1) =>
  show ∃ bX o',An (w1.setCell ⟨h,8,none⟩ (.slice pa (n+1) cp)) h #[v0,I Z 1,sz,I Z B5,I Z (1+(sz:Int)),sz,t,vo,bX,I Z 1,x0,x1,x2,x3,x4,x5] 185/\Row (w1.setCell ⟨h,8,none⟩ (.slice pa (n+1) cp)) o' tg 3 1 bX (n+1) (ps++[nv p])/\Stp (fun t=>t=t0\/t=tg) o o' w (w1.setCell ⟨h,8,none⟩ (.slice pa (n+1) cp)) from by
   have hlt:h<(W.drew.alloc (AIe #[p] 3)).1.size:=(An.alloc (qi nM) _).lt;have ho1:o1 h=t0:=by rw[hst.tags h hlt];exact ic
   have k1:Stp (fun t=>t=t0) o1 o1 w1 (w1.setCell ⟨h,8,none⟩ (.slice pa (n+1) cp)):=(Stp.refl _ o1 w1).setCell (by simpa using ho1) _
   refine⟨_,o1,(hkeep _ _ hst).set 8 _,hown.Ar k1 (fun e=>ht e.symm),?_⟩;exact ((hSt.mono fun _ e=>Or.inl e).trans (Stp.of_below (qa (qe (qc W)) _))).trans ((hst.mono fun _ e=>Or.inr e).trans (k1.mono fun _ e=>Or.inl e))
 go_region_law ((refine zj _ (by rfl) _ _ _ (by rfl) 3 iI _ 1 8 hu64 hi bZ hsI cZ (by rfl) (by decide) o tg vc n ps (by rfl) rn ⟨W.1.size,0,none⟩ 1 1 [I Z p] (by rfl) (by rfl) (qv jn) jd dB hmb ?_;intro v' w1 hown hst;obtain⟨pa,cp,rfl⟩:=hown.A5;have jX:=hkeep _ _ hst;have cX:=jX.cell;have zX:=jX.free;have sX:=jX.lt))
 all_goals
  go_wp2_with fail;go_end0;exact⟨rfl,hfin _ _ _ _ hown hst⟩
section
variable {w : Aa} {o : Own} {l : Bo} {H : Hp} {vc vo vw vf : Ac} {f : Nat -> Nat}
def Bo.tc (l:Bo)(u:Bool):Tag:=(l.id,if u then 4 else 3)
def Bo.XV (l:Bo)(u:Bool):Tag:=(l.id,if u then 3 else 4)
def qn9 (hb:An w l.h (H.cells l.a vc vo vw vf) 185){n:Nat}{ps:List Ac}(hr:Row w o (l.tc H.use) 3 1 vc n ps)(hn:n<16384)(ic:o l.h=(l.id,0))(p t:Nat) :
  Ab AId 230 #[Ah (some ⟨l.h,0,none⟩),DG (H.base H.use) H.size t,p] w fun e w'=>e=O (Ak #[]) /\
   ∃ bX o',An w' l.h ({ H with top:=t }.cells l.a bX vo vw vf) 185/\Row w' o' (l.tc H.use) 3 1 bX (n+1) (ps++[nv p])/\Stp (fun t=>t=(l.id,0)\/t=l.tc H.use) o o' w w':=by
 rcases (show H.use=false\/H.use=true by cases H.use<;>simp) with hu|hu
 ·have htc:l.tc H.use=l.tc false:=by rw[hu]
  have zG:H.base H.use=H.base false:=by rw[hu]
  rw[htc]at hr ⊢;rw[zG];have e1:∀ (t:Nat)(v1:Ac),{ H with top:=t }.cells l.a v1 vo vw vf=#[Ah (some ⟨l.a,0,none⟩),I Z 1,H.size,t,I Z (1+(H.size:Int)),H.size,H.B5,v1,vo,I Z 0,.bool H.AL,H.BB,H.scan,H.Ap,vw,vf]:=fun t v1=>by
   unfold Hp.cells;simp only[hu,Bool.false_eq_true,if_false]
  have hb':=hb;rw[show H.cells l.a vc vo vw vf={ H with top:=H.top }.cells l.a vc vo vw vf from rfl,e1]at hb';refine (XC hb' hr hn ic (by unfold Bo.tc;simp) p t).mono ?_
  rintro e w' ⟨rfl,bX,o',h1,h2,h3⟩;exact⟨rfl,bX,o',by rw[e1];exact h1,h2,h3⟩
 ·have htc:l.tc H.use=l.tc true:=by rw[hu]
  have zG:H.base H.use=H.base true:=by rw[hu]
  rw[htc]at hr ⊢;rw[zG];have e1:∀ (t:Nat)(v1:Ac),{ H with top:=t }.cells l.a v1 vo vw vf=#[Ah (some ⟨l.a,0,none⟩),I Z 1,H.size,H.B5,I Z (1+(H.size:Int)),H.size,t,vo,v1,I Z 1,.bool H.AL,H.BB,H.scan,H.Ap,vw,vf]:=fun t v1=>by
   unfold Hp.cells;simp only[hu,if_true]
  have hb':=hb;rw[show H.cells l.a vc vo vw vf={ H with top:=H.top }.cells l.a vc vo vw vf from rfl,e1]at hb';have e2:DG (H.base true) H.size t=Al #[I Z (1+(H.size:Int)),H.size,t]:=by
   show Value.agg #[I Z ((1+H.size:Nat):Int),_,_]=_;rw[show ((1+H.size:Nat):Int)=1+(H.size:Int) from by omega]
  rw[e2];refine (XA hb' hr hn ic (by unfold Bo.tc;simp) p t).mono ?_
  rintro e w' ⟨rfl,bX,o',h1,h2,h3⟩;exact⟨rfl,bX,o',by rw[e1];exact h1,h2,h3⟩
def qpq {a wd L p q b s t:Nat}(h:B6 w a wd L f)(hp:p<L)(h1:1<=q)(h2:q<=131072)(hf:f p=4*q+2) :
  Ab AId 235 #[Ah (some ⟨a,0,none⟩),p,DG b s t] w fun e w'=>e=O (Ak #[DG b s t,q,I Z 0])/\Ae w.1.size w w':=by
 have HA:=Qa (fun (W:Aa)(hb:Ae w.1.size w W)=>WR (h.below hb) hp q h1 h2 hf)
 clear h hp h1 h2 hf;obtain⟨W,hW⟩:=Ja0 ((w.alloc (AIe #[b,s,t] 181)).alloc (AIe #[I Z 0,I Z 0,I Z 0] 181));have bW:Ae w.1.size w W:=by rw[hW];exact qa (qa (qc _) _) _
 have jS:An W w.1.size #[b,s,t] 181:=by rw[hW];exact (An.new _ _ _).alloc _
 have jR:An W (w.1.size+1) #[I Z 0,I Z 0,I Z 0] 181:=by rw[hW];exact An.Ax _ _ _ _ _ (by simp) rfl
 go_in;go_wp2_with fail;rw[<-hW];clear hW;refine (HA.o _ bW).mono ?_
 rintro e w1 ⟨rfl,rfl⟩
 have cS:=jS.cell;have cR:=jR.cell;have zR:=jR.free;have lR:=jR.lt;go_wp2_with fail;refine bodyPost_ret (v:=Ak #[DG b s t,q,I Z 0]) (by simp[results,results235,go_sem,cR]) rfl ⟨rfl,?_⟩
 repeat (first|exact bW|refine qm ?_ (by show w.1.size<=w.1.size+1;omega) _)
end
end
section
open Hp
def Sd (l m:List (Nat×Ob))(p:Nat):lk (l++m) p=(lk l p).or (lk m p):=by
 induction l with
 | nil=>simp[lk]
 | cons x l ih =>
  obtain⟨q,o⟩:=x;show (if q=p then some o else lk (l++m) p)=aS (if q=p then some o else lk l p) (lk m p);split
  ·simp
  ·exact ih
def dl {l:List (Nat×Ob)}{p:Nat}{ob:Ob}(h:lk l p=some ob)(m:List (Nat×Ob)):lk (l++m) p=some ob:=by rw[Sd,h];rfl
def tt {l:List (Nat×Ob)}{b t p:Nat}(hl:kz b l t)(hk:Ka l)(hp:t<=p):lk l p=none:=by
 cases h:lk l p with
 | none=>rfl
 | some ob =>
  have h1:=zr _ _ _ hl _ (zk h);have h2:=zu _ (Ob.AW (hk _ (zk h))).2;simp only at h1 h2;omega
def Sk {H:Hp}(hk:H.ok)(ob:Ob):lk (H.cur++[(H.top,ob)]) H.top=some ob:=by
 rw[Sd,tt hk.cl hk.ck (Qk _)];simp[lk]
def T1:∀ (l m:List (Nat×Ob))(b t:Nat),kz b (l++m) t->∃ s,kz b l s/\kz s m t
 | [],m,b,t,h=>⟨b,rfl,h⟩
 | (p,o)::l,m,b,t,h=>by
  obtain⟨s,h1,h2⟩:=T1 l m _ t h.2;exact⟨s,⟨h.1,h1⟩,h2⟩
def Uq (H:Hp):Prop:=∃ a b,H.cur=a++b/\kz (H.base H.use) a H.scan
structure Hp.wf (H:Hp):Prop where
 ok:H.ok
 wl:H.AA.length<=H.Ap
 fl:H.final.length<=H.Ap
 sc:H.AL=true->Uq H
 gn:∀ x ∈ H.old,∀ q,x.2.2=some q->∃ ob,lk H.cur q=some ob/\ob.AM=x.2.1.AM
 wk:∀ p ∈ H.AA,(∃ ob,lk H.cur p=some ob/\1<=ob.AM.p)\/∃ z,Bg H.old p=some z/\1<=z.1.AM.p
def px {H:Hp}{p q:Nat}{ob:Ob}(h:lk H.cur q=some ob):lk (H.AG p).1.cur q=some ob:=by
 unfold Hp.AG;split
 ·exact h
 ·exact h
 ·exact dl h _
def yc {H:Hp}(p:Nat):(H.AG p).1.size=H.size/\(H.AG p).1.use=H.use/\(H.AG p).1.AL=H.AL/\(H.AG p).1.scan=H.scan/\(H.AG p).1.Ap=H.Ap/\(H.AG p).1.AA=H.AA/\(H.AG p).1.final=H.final/\(H.AG p).1.B5=H.B5:=by
 unfold Hp.AG;split<;>exact⟨rfl,rfl,rfl,rfl,rfl,rfl,rfl,rfl⟩
def qk1 {l:List (Nat×Ob×Option Nat)}{p q:Nat}{x:Nat×Ob×Option Nat}(h:x ∈ qx l p q):x ∈ l\/(x.1=p/\x.2.2=some q/\∃ y ∈ l,y.1=p/\y.2.1=x.2.1):=by
 unfold qx at h;obtain⟨z,hz,rfl⟩:=Qt.1 h;split
 ·rename_i e;exact .inr ⟨e,rfl,z,hz,e,rfl⟩
 ·exact .inl hz
def Jq {H:Hp}(hk:H.ok){x y:Nat×Ob×Option Nat}(hx:x ∈ H.old)(hy:y ∈ H.old)(e:x.1=y.1):x.2.1=y.2.1:=by
 have h1:(x.1,x.2.1) ∈ H.Cs:=Qt.2 ⟨x,hx,rfl⟩;have h2:(x.1,y.2.1) ∈ H.Cs:=Qt.2 ⟨y,hy,by rw[e]⟩
 exact bq hk.ol hk.ok h1 h2
def Hp.Et {H:Hp}(h:H.wf)(p:Nat):(H.AG p).1.wf:=by
 obtain⟨s1,s2,s3,s4,s5,s6,s7,s8⟩:=yc (H:=H) p;refine⟨Hp.Es h.ok p,by rw[s5,s6];exact h.wl,by rw[s5,s7];exact h.fl,fun hm=>?_,?_,fun q hq=>?_⟩
 ·obtain⟨a,b,e,hl⟩:=h.sc (by rw[<-s3];exact hm)
  unfold Uq Hp.base;rw[s1,s2,s4];unfold Hp.AG;split
  ·exact⟨a,b,e,hl⟩
  ·exact⟨a,b,e,hl⟩
  ·exact⟨a,b++[_],by show H.cur++_=_;rw[e,aj],hl⟩
 ·cases hp:Bg H.old p with
  | none=>rw[H.CV hp];exact h.gn
  | some z =>
   obtain⟨ob,g⟩:=z
   cases g with
   | some q=>rw[H.CU hp];exact h.gn
   | none =>
    rw[H.Cu hp];intro x hx q hq;rcases qk1 (show x ∈ qx H.old p H.top from hx) with hx|⟨e1,e2,y,hy,e3,e4⟩
    ·obtain⟨dM,h1,h2⟩:=h.gn x hx q hq
     exact⟨dM,dl h1 _,h2⟩
    ·rw[e2]at hq
     injection hq with hq;subst hq;refine⟨ob,Sk h.ok ob,?_⟩;have h5:=Jq h.ok (ke hp) hy (by rw[e3])
     simp only at h5;rw[<-e4,<-h5]
 ·rw[s6]at hq
  rcases h.wk q hq with ⟨ob,h1,h2⟩|⟨z,h1,h2⟩
  ·exact .inl ⟨ob,px h1,h2⟩
  ·refine .inr ?_
   unfold Hp.AG;split
   ·exact⟨z,h1,h2⟩
   ·exact⟨z,h1,h2⟩
   ·show ∃ z,Bg (qx H.old p H.top) q=some z/\_
    rw[ft];split
    ·rename_i e;subst e;rw[h1];exact⟨_,rfl,h2⟩
    ·exact⟨z,h1,h2⟩
def Hp.Ay (H:Hp):List Nat->Hp×List Nat
 | []=>(H,[])
 | p::l=>(((H.AG p).1.Ay l).1,(H.AG p).2::((H.AG p).1.Ay l).2)
def Hp.Ct:∀ (l:List Nat){H:Hp},H.wf->(H.Ay l).1.wf
 | [],_,h=>h
 | p::l,_,h=>Hp.Ct l (Hp.Et h p)
def ko:∀ (l:List Nat)(H:Hp),(H.Ay l).2.length=l.length
 | [],_=>rfl
 | _::l,H=>by show (_::_).length=_;simp[ko l]
def cw:∀ (l:List Nat){H:Hp}{q:Nat}{ob:Ob},lk H.cur q=some ob->lk (H.Ay l).1.cur q=some ob
 | [],_,_,_,h=>h
 | _::l,_,_,_,h=>cw l (px h)
def zo:∀ (l:List Nat)(H:Hp),(H.Ay l).1.size=H.size/\(H.Ay l).1.use=H.use/\(H.Ay l).1.AL=H.AL/\(H.Ay l).1.scan=H.scan/\(H.Ay l).1.Ap=H.Ap/\(H.Ay l).1.AA=H.AA/\(H.Ay l).1.final=H.final/\(H.Ay l).1.B5=H.B5
 | [],_=>⟨rfl,rfl,rfl,rfl,rfl,rfl,rfl,rfl⟩
 | p::l,H=>by
  obtain⟨a1,a2,a3,a4,a5,a6,a7,a8⟩:=zo l (H.AG p).1;obtain⟨s1,s2,s3,s4,s5,s6,s7,s8⟩:=yc (H:=H) p;exact⟨a1.trans s1,a2.trans s2,a3.trans s3,a4.trans s4,a5.trans s5,a6.trans s6,a7.trans s7,a8.trans s8⟩
def Sq {H:Hp}(hk:H.ok):H.top<=32769:=by
 have:=hk.room;have:=hk.sz;have:=H.Cd H.use;omega
def de {H:Hp}(hk:H.ok){p:Nat}(hp:p<=131072):(H.AG p).2<=131072:=by
 cases h:Bg H.old p with
 | none=>rw[H.CV h];exact hp
 | some z =>
  obtain⟨ob,g⟩:=z
  cases g with
  | some q=>rw[H.CU h];exact (hk.gone _ (ke h) q rfl).2
  | none=>rw[H.Cu h];have:=Sq hk;show H.top<=_;omega
def ce:∀ (l:List Nat){H:Hp},H.ok->(∀ p ∈ l,p<=131072)->∀ q ∈ (H.Ay l).2,q<=131072
 | [],_,_,_,q,hq=>by cases hq
 | p::l,H,hk,hp,q,hq=>by
  rcases List.mem_cons.1 (show q ∈ (H.AG p).2::_ from hq) with rfl|hq
  ·exact de hk (hp p (.head _))
  ·exact ce l (Hp.Es hk p) (fun x hx=>hp x (.tail _ hx)) q hq
def Pr {H:Hp}(h:H.wf){p:Nat}{ob dM:Ob}(hp:lk H.cur p=some ob)(ho:dM.ok)(hs:dM.AM=ob.AM):Hp.wf { H with cur:=up H.cur p dM }:=by
 have hsz:dM.size=ob.size:=by unfold Ob.size;rw[hs]
 have hup:∀ {q:Nat}{x:Ob},lk H.cur q=some x->∃ y,lk (up H.cur p dM) q=some y/\y.AM=x.AM:=by
  intro q x hq;rw[Nh];split
  ·rename_i e;subst e;rw[hp]at hq ⊢;injection hq with hq;subst hq;exact⟨_,rfl,hs⟩
  ·exact⟨x,hq,rfl⟩
 refine⟨Hp.Dw h.ok hp ho hsz,h.wl,h.fl,fun hm=>?_,fun x hx q hq=>?_,fun q hq=>?_⟩
 ·obtain⟨a,b,e,hl⟩:=h.sc hm
  refine⟨up a p dM,up b p dM,?_,?_⟩
  ·show up H.cur p dM=_
   rw[e];unfold up;simp
  ·refine Sa _ _ _ _ _ (fun y hy=>?_) hl
   rw[hsz,bq h.ok.cl h.ok.ck (zk hp) (show (p,y) ∈ H.cur by rw[e];exact Qs.2 (.inl hy))]
 ·obtain⟨y,h1,h2⟩:=h.gn x hx q hq
  obtain⟨z,h3,h4⟩:=hup h1;exact⟨z,h3,h4.trans h2⟩
 ·rcases h.wk q hq with ⟨y,h1,h2⟩|h1
  ·obtain⟨z,h3,h4⟩:=hup h1
   exact .inl ⟨z,h3,by rw[h4];exact h2⟩
  ·exact .inr h1
def Hp.wf.Eg {H:Hp}(h:H.wf){p:Nat}{ob:Ob}(hp:lk H.cur p=some ob):ob.ok:=h.ok.ck _ (zk hp)
def Hp.AY (H:Hp)(p i:Nat):Hp×Nat×Nat:=
 match lk H.cur p with
 | none=>(H,0,70)
 | some ob=>match ob.AE[i]? with
  | none=>(H,0,71)
  | some x=>if (Bg H.old x).isSome then ({ (H.AG x).1 with cur:=up (H.AG x).1.cur p (ob.Bm i (H.AG x).2) },(H.AG x).2,0) else (H,x,0)
def Hp.Bh (H:Hp)(p i q:Nat):Hp×Nat:=
 match lk H.cur p with
 | none=>(H,70)
 | some ob=>if q≠0/\lk H.cur q=none then (H,70) else if ob.AM.p<=i then (H,71) else ({ H with cur:=up H.cur p (ob.Bm i q) },0)
def Hp.Bv (H:Hp)(p i:Nat)(n:Int):Hp×Nat:=
 match lk H.cur p with
 | none=>(H,70)
 | some ob=>if ob.AM.d<=i then (H,71) else ({ H with cur:=up H.cur p (ob.CW i n) },0)
def Hp.AX (H:Hp)(p:Nat)(b:Bool):Hp×Nat:=
 match lk H.cur p with
 | none=>(H,70)
 | some ob=>({ H with cur:=up H.cur p (ob.CH b) },0)
def Hp.AK (H:Hp)(p v:Nat):Hp×Nat:=
 match lk H.cur p with
 | none=>(H,70)
 | some ob=>({ H with cur:=up H.cur p (ob.B4 v) },0)
def Pm {H:Hp}(hk:H.ok){q:Nat}(h:¬(q≠0/\lk H.cur q=none)):q<=131072:=by
 by_cases h0:q=0
 ·omega
 ·cases hq:lk H.cur q with
  | none=>exact absurd ⟨h0,hq⟩ h
  | some ob =>
   have h1:=zr _ _ _ hk.cl _ (zk hq);have h2:=Sq hk;simp only at h1;omega
def Hp.left (H:Hp):Nat:=H.base H.use+H.size-H.top-H.BB
def Hp.roomy (H:Hp)(s:BR):Bool:=decide (BJ (3+s.p+s.d)<=H.left)&&decide (H.Ap<1099511627776)
def Hp.AQ (H:Hp)(s:BR):Hp×Nat×Nat:=if H.roomy s=true then (H.lay s,H.top,0) else (H,0,100)
def Hp.Jo {H:Hp} (h:H.wf) {s:BR} (hs:s.ok) (hr:H.roomy s=true):(H.lay s).wf:=by
 unfold Hp.roomy Hp.left at hr;simp only[Bool.and_eq_true,decide_eq_true_eq]at hr;obtain⟨hr,eQ⟩:=hr;have hn:=Ob.Pd hs (H.Ap+1) (by omega)
 have hroom:=h.ok.room;have hrd:=zu (3+s.p+s.d) (by have:=hs.1;have:=hs.2.1;omega)
 have k:=h.ok;have kC:∀ {q:Nat} {ob:Ob},lk H.cur q=some ob->lk (H.lay s).cur q=some ob:=fun hq=>dl hq _
 refine⟨⟨k.sz,nc _ _ _ _ k.cl,?_,k.ol,k.ok,k.ot,k.still,k.JU,?_,?_,k.CE,k.gone⟩,?_,?_,fun hm=>?_,fun x hx q hq=>?_,fun p hp=>?_⟩
 ·intro x hx
  rcases Qs.1 (show x ∈ H.cur++[(H.top,Ob.new s (H.Ap+1))] from hx) with hx|hx
  ·exact k.ck x hx
  ·rw[Zb.1 hx];exact hn
 ·show H.top+BJ (3+s.p+s.d)+H.BB<=H.base H.use+H.size
  omega
 ·show H.Ap+1<=_
  omega
 ·show aM (if s.AA then _ else _)<=H.Ap+1
  have:=h.wl;split<;>simp<;>omega
 ·show aM (if s.final then _ else _)<=H.Ap+1
  have:=h.fl;split<;>simp<;>omega
 ·obtain⟨a,b,e,hl⟩:=h.sc hm
  exact⟨a,b++[_],by show H.cur++_=_;rw[e,aj],hl⟩
 ·obtain⟨ob,h1,h2⟩:=h.gn x hx q hq
  exact⟨ob,kC h1,h2⟩
 ·have hp':p ∈ (if s.AA then H.AA++[H.top] else H.AA):=hp
  have hold:p ∈ H.AA->(∃ ob,lk (H.lay s).cur p=some ob/\1<=ob.AM.p)\/∃ z,Bg (H.lay s).old p=some z/\1<=z.1.AM.p:=fun hp=>by
   rcases h.wk p hp with ⟨ob,h1,h2⟩|h1
   ·exact .inl ⟨ob,kC h1,h2⟩
   ·exact .inr h1
  split at hp'
  ·rename_i hw
   rcases Qs.1 hp' with hp'|hp'
   ·exact hold hp'
   ·rw[Zb.1 hp']
    exact .inl ⟨_,Sk k _,by show 1<=s.p;have:=(hs.2.2 hw).1;omega⟩
  ·exact hold hp'
def Hp.flip (H:Hp):Hp:=
 { H with use:=!H.use,cur:=[],top:=H.base (!H.use),AL:=true,old:=H.cur.map fun x=>(x.1,x.2,none),B5:=H.top,BB:=H.top-H.base H.use,scan:=H.base (!H.use) }
def Wl (H:Hp):H.flip.Cs=H.cur:=by
 show ((H.cur.map fun x=>(x.1,x.2,(none:Option Nat))).map fun x=>(x.1,x.2.1))=H.cur
 rw[aa];exact aL _
def Vz:∀ (l:List (Nat×Ob))(b t:Nat),kz b l t->pj (l.map fun x=>(x.1,x.2,none))=t-b
 | [],b,t,h=>by rw[kz]at h;simp[pj];omega
 | (p,o)::l,b,t,h=>by
  have ih:=Vz l _ _ h.2;have:=g9 _ _ _ h.2;show BJ o.size+pj (l.map _)=_;omega
def Wc (l:List (Nat×Ob))(p:Nat):Bg (l.map fun x=>(x.1,x.2,none)) p=(lk l p).map fun o=>(o,none):=by
 induction l with
 | nil=>rfl
 | cons x l ih =>
  obtain⟨q,o⟩:=x;show Bg ((q,o,none)::l.map fun x=>(x.1,x.2,none)) p=_;unfold Bg lk;split
  ·rfl
  ·exact ih
def Hp.ER {H:Hp}(h:H.wf)(hm:H.AL=false):H.flip.wf:=by
 have k:=h.ok;have hold:=k.still hm;have hroom:=k.room;have hb0:=H.Cd (!H.use);have hb1:=H.Cd H.use;have hsz:=k.sz;have htop:=kw k;refine⟨⟨k.sz,rfl,fun x hx=>(by cases hx),?_,?_,?_,fun hm'=>(by cases hm'),?_,?_,k.Bc,?_,?_⟩,h.wl,h.fl,fun _=>⟨[],[],rfl,rfl⟩,?_,?_⟩
 ·rw[Wl];show kz (H.base (!(!H.use))) H.cur H.top;rw[Bool.not_not];exact k.cl
 ·rw[Wl];exact k.ck
 ·show H.top<=H.base (!(!H.use))+H.size
  rw[Bool.not_not];omega
 ·show H.top-H.base H.use=pj (H.cur.map fun x=>(x.1,x.2,none))
  rw[Vz _ _ _ k.cl]
 ·show H.base (!H.use)+(H.top-H.base H.use)<=H.base (!H.use)+H.size
  omega
 ·show H.base (!H.use)<=65536
  omega
 ·intro x hx q hq
  obtain⟨z,_,rfl⟩:=Qt.1 hx
  cases hq
 ·intro x hx q hq
  obtain⟨z,_,rfl⟩:=Qt.1 hx
  cases hq
 ·intro p hp
  rcases h.wk p hp with ⟨ob,h1,h2⟩|⟨z,h1,h2⟩
  ·refine .inr ⟨(ob,none),?_,h2⟩
   show Bg (H.cur.map fun x=>(x.1,x.2,none)) p=_;rw[Wc,h1];rfl
  ·rw[hold]at h1;simp[Bg]at h1
def Hp.Bd (H:Hp):Hp×Bool:=
 if H.AL=false\/H.scan=H.top then (H,false) else match lk H.cur H.scan with
 | none=>(H,false)
 | some ob=>if ob.AM.AA then ({ H with scan:=H.scan+BJ ob.size },true) else
   ({ (H.Ay ob.AE).1 with cur:=up (H.Ay ob.AE).1.cur H.scan { ob with AE:=(H.Ay ob.AE).2 },scan:=H.scan+BJ ob.size },true)
def RX {H:Hp}(h:H.wf)(hm:H.AL=true)(hs:H.scan≠H.top):∃ ob,lk H.cur H.scan=some ob/\∃ a b,H.cur=a++(H.scan,ob)::b/\kz (H.base H.use) a H.scan:=by
 obtain⟨a,b,e,hl⟩:=h.sc hm;have hcl:=h.ok.cl;rw[e]at hcl;obtain⟨s,h1,h2⟩:=T1 a b _ _ hcl;have hu:s=H.scan:=by
  have:∀ (l:List (Nat×Ob))(b s t:Nat),kz b l s->kz b l t->s=t:=by
   intro l;induction l with
   | nil=>intro b s t h1 h2;rw[kz]at h1 h2;omega
   | cons x l ih=>intro b s t h1 h2;exact ih _ _ _ h1.2 h2.2
  exact this _ _ _ _ h1 hl
 subst hu
 cases b with
 | nil=>rw[kz]at h2;exact absurd h2.symm hs
 | cons x b =>
  obtain⟨q,ob⟩:=x;have hq:q=H.scan:=h2.1;subst hq;refine⟨ob,?_,a,b,e,hl⟩;have hk:Ka a:=fun z hz=>h.ok.ck z (by rw[e];exact Qs.2 (.inl hz))
  rw[e,Sd,tt hl hk (Qk _)];simp[lk]
def PI (a b:List (Nat×Ob))(p:Nat)(o:Ob):up (a++b) p o=up a p o++up b p o:=by unfold up;simp
def Ug {H:Hp}(h:H.wf){ob:Ob}(hp:lk H.cur H.scan=some ob):H.scan+BJ ob.size<=65536:=by
 have h1:=zr _ _ _ h.ok.cl _ (zk hp);have:=Sq h.ok;simp only at h1;omega
def Vb {a:List (Nat×Ob)}{b s:Nat}{o:Ob}(h:kz b a s):kz b (a++[(s,o)]) (s+BJ o.size):=nc a b s o h
def Vd:∀ (l:List Nat)(H:Hp),∃ m,(H.Ay l).1.cur=H.cur++m
 | [],H=>⟨[],by simp[Hp.Ay]⟩
 | p::l,H=>by
  obtain⟨m,hm⟩:=Vd l (H.AG p).1;show ∃ m,((H.AG p).1.Ay l).1.cur=_;rw[hm];unfold Hp.AG;split
  ·exact⟨m,rfl⟩
  ·exact⟨m,rfl⟩
  ·exact⟨_::m,by show (H.cur++_)++m=_;rw[aj];rfl⟩
def VV {H:Hp}(h:H.wf){n:Nat}(hn:n<=65536)(hs:Uq { H with scan:=n }):Hp.wf { H with scan:=n }:=
 ⟨⟨h.ok.sz,h.ok.cl,h.ok.ck,h.ok.ol,h.ok.ok,h.ok.ot,h.ok.still,h.ok.JU,h.ok.room,h.ok.Bc,hn,h.ok.gone⟩,h.wl,h.fl,fun _=>hs,h.gn,h.wk⟩
def Hp.Ft {H:Hp}(h:H.wf):H.Bd.1.wf:=by
 unfold Hp.Bd;split
 ·exact h
 ·rename_i hc
  have hm:H.AL=true:=by cases hm:H.AL<;>simp[hm]at hc ⊢
  obtain⟨ob,hp,a,b,e,hl⟩:=RX h hm (fun e=>hc (.inr e));rw[hp];simp only;have ho:=h.Eg hp;split
  ·exact VV h (Ug h hp) ⟨a++[(H.scan,ob)],b,by show H.cur=_;rw[e];simp,Vb hl⟩
  ·have hw:=Hp.Ct ob.AE h
   obtain⟨s1,s2,s3,s4,s5,s6,s7,s8⟩:=zo ob.AE H;obtain⟨m,hmm⟩:=Vd ob.AE H;have hp':=cw ob.AE hp;have ho':Ob.ok { ob with AE:=(H.Ay ob.AE).2 }:=⟨ho.AM,by show (H.Ay ob.AE).2.length=_;rw[ko];exact ho.lp,ho.ln,ce _ h.ok ho.ptr,ho.num,ho.Bc,ho.sec⟩
   have h2:=Pr hw (dM:={ ob with AE:=(H.Ay ob.AE).2 }) hp' ho' rfl;refine VV (H:={ (H.Ay ob.AE).1 with cur:=up (H.Ay ob.AE).1.cur H.scan { ob with AE:=(H.Ay ob.AE).2 } }) h2 (Ug h hp) ?_;refine⟨up (a++[(H.scan,ob)]) H.scan { ob with AE:=(H.Ay ob.AE).2 },up (b++m) H.scan { ob with AE:=(H.Ay ob.AE).2 },?_,?_⟩
   ·show up (H.Ay ob.AE).1.cur H.scan _=_
    rw[hmm,e,<-PI];simp
   ·have hbase:Hp.base { (H.Ay ob.AE).1 with cur:=up (H.Ay ob.AE).1.cur H.scan { ob with AE:=(H.Ay ob.AE).2 },scan:=H.scan+BJ ob.size } (H.Ay ob.AE).1.use=H.base H.use:=by unfold Hp.base;rw[s2];simp only[s1]
    refine hbase.symm▸?_;refine Sa (a++[(H.scan,ob)]) _ _ _ _ (fun y hy=>?_) (Vb hl);have hy':(H.scan,y) ∈ H.cur:=by
     rw[e];rcases Qs.1 hy with hy|hy
     ·exact Qs.2 (.inl hy)
     ·rw[Zb.1 hy];simp
    rw[bq h.ok.cl h.ok.ck hy' (zk hp)];rfl
def Hp.nowAt (H:Hp)(p:Nat):Option Nat:=match Bg H.old p with|none=>some p|some (_,g)=>g
def Hp.stay (H:Hp)(l:List Nat):List Nat:=l.filterMap H.nowAt
def Hp.B2 (H:Hp)(l:List Nat):List Nat:=l.filter fun p=>(H.nowAt p).isNone
def kr (H:Hp)(l:List Nat):(H.stay l).length+(H.B2 l).length=l.length:=by
 induction l with
 | nil=>rfl
 | cons p l ih =>
  unfold Hp.stay Hp.B2 at *;rw[List.filterMap_cons,List.filter_cons]
  cases H.nowAt p<;>simp<;>omega
def gx {H:Hp}(h:H.wf){l:List Nat}(hl:l.length<=H.Ap):Hp.wf { H with final:=l }:=
 ⟨⟨h.ok.sz,h.ok.cl,h.ok.ck,h.ok.ol,h.ok.ok,h.ok.ot,h.ok.still,h.ok.JU,h.ok.room,h.ok.Bc,h.ok.CE,h.ok.gone⟩,h.wl,hl,h.sc,h.gn,h.wk⟩
def Hp.A7 (H:Hp):Hp×List Nat:=
 if H.AL=false then (H,[]) else Hp.Ay { H with final:=H.stay H.final } (H.B2 H.final)
def Hp.Gh {H:Hp}(h:H.wf):H.A7.1.wf:=by
 unfold Hp.A7;split
 ·exact h
 ·refine Hp.Ct _ (gx h ?_)
  have:=kr H H.final;have:=h.fl;omega
def Hp.drop1 (H:Hp)(at':Nat):Hp×List Nat:=
 match lk H.cur at' with
 | none=>(H,[])
 | some ob=>match ob.AE[0]? with
  | none=>(H,[])
  | some x=>match Bg H.old x with
   | none=>(H,[])
   | some (_,some q)=>({ H with cur:=up H.cur at' (ob.Bm 0 q) },[])
   | some (_,none)=>({ H with cur:=up H.cur at' (ob.Bm 0 0) },[ob.Ap])
def Hp.AU (H:Hp):List Nat->Hp×List Nat
 | []=>(H,[])
 | p::l=>(((H.drop1 p).1.AU l).1,(H.drop1 p).2++((H.drop1 p).1.AU l).2)
def Hp.rest (H:Hp):Hp:={ H with old:=[],B5:=H.base (!H.use),AL:=false,BB:=0 }
def Hp.settled (H:Hp):Hp:={ H with AA:=H.stay H.AA,final:=H.stay H.final }
def Hp.drop (H:Hp):Hp×List Nat×Bool:=
 if H.AL=false\/H.scan≠H.top then (H,[],false) else
  ((H.settled.AU H.settled.AA).1.rest,(H.settled.AU H.settled.AA).2,true)
def Hp.Hh {H:Hp}(h:H.wf)(p:Nat):(H.drop1 p).1.wf:=by
 unfold Hp.drop1;split
 ·exact h
 ·rename_i ob hp
  split
  ·exact h
  ·split
   ·exact h
   ·rename_i x q hx
    exact Pr h hp (Ob.Cv (h.Eg hp) 0 q (h.ok.gone _ (ke hx) q rfl).2) rfl
   ·exact Pr h hp (Ob.Cv (h.Eg hp) 0 0 (by omega)) rfl
def Hp.DV:∀ (l:List Nat){H:Hp},H.wf->(H.AU l).1.wf
 | [],_,h=>h
 | p::l,_,h=>Hp.DV l (Hp.Hh h p)
def qlh (H:Hp)(p:Nat):(H.drop1 p).1.old=H.old/\(H.drop1 p).1.AA=H.AA/\(H.drop1 p).1.scan=H.scan/\(H.drop1 p).1.top=H.top/\(H.drop1 p).1.use=H.use/\(H.drop1 p).1.size=H.size/\(H.drop1 p).1.AL=H.AL:=by
 unfold Hp.drop1
 (repeat' split)<;>exact⟨rfl,rfl,rfl,rfl,rfl,rfl,rfl⟩
def uf:∀ (l:List Nat)(H:Hp),(H.AU l).1.old=H.old/\(H.AU l).1.AA=H.AA/\(H.AU l).1.scan=H.scan/\(H.AU l).1.top=H.top/\(H.AU l).1.use=H.use/\(H.AU l).1.size=H.size/\(H.AU l).1.AL=H.AL
 | [],_=>⟨rfl,rfl,rfl,rfl,rfl,rfl,rfl⟩
 | p::l,H=>by
  obtain⟨a1,a2,a3,a4,a5,a6,a7⟩:=uf l (H.drop1 p).1;obtain⟨b1,b2,b3,b4,b5,b6,b7⟩:=qlh H p;exact⟨a1.trans b1,a2.trans b2,a3.trans b3,a4.trans b4,a5.trans b5,a6.trans b6,a7.trans b7⟩
def Ua {H:Hp}(h:H.wf){p:Nat}(hp:p ∈ H.stay H.AA):∃ ob,lk H.cur p=some ob/\1<=ob.AM.p:=by
 unfold Hp.stay at hp;obtain⟨q,hq,e⟩:=List.mem_filterMap.1 hp;unfold Hp.nowAt at e;split at e
 ·rename_i hn
  injection e with e;subst e;rcases h.wk q hq with h1|⟨z,h1,_⟩
  ·exact h1
  ·rw[hn]at h1;cases h1
 ·rename_i ob g hn
  subst e;obtain⟨dM,h1,h2⟩:=h.gn _ (ke hn) p rfl;refine⟨dM,h1,?_⟩;rw[h2];rcases h.wk q hq with ⟨x,h3,h4⟩|⟨z,h3,h4⟩
  ·have h5:=Hp.apart h.ok (zk h3) (ke hn)
   have h6:=Ob.AW (h.Eg h3);have h7:=Ob.AW (h.ok.ok _ (Qt.2 ⟨_,ke hn,rfl⟩));simp only at h5 h6 h7;omega
  ·rw[hn]at h3;injection h3 with h3;subst h3;exact h4
def Hp.DR {H:Hp}(h:H.wf):H.settled.wf:=by
 have h1:=kr H H.AA;have h2:=kr H H.final;have h3:=h.wl;have h4:=h.fl;exact⟨⟨h.ok.sz,h.ok.cl,h.ok.ck,h.ok.ol,h.ok.ok,h.ok.ot,h.ok.still,h.ok.JU,h.ok.room,h.ok.Bc,h.ok.CE,h.ok.gone⟩,by show (H.stay H.AA).length<=H.Ap;omega,by show (H.stay H.final).length<=H.Ap;omega,h.sc,h.gn,fun p hp=>.inl (Ua h hp)⟩
def Hp.MB {H:Hp}(h:H.wf)(hw:∀ p ∈ H.AA,∃ ob,lk H.cur p=some ob/\1<=ob.AM.p):H.rest.wf:=by
 have k:=h.ok;have hroom:=k.room;exact⟨⟨k.sz,k.cl,k.ck,rfl,fun x hx=>(by cases hx),Nat.le_add_right _ _,fun _=>rfl,rfl,by show H.top+0<=H.base H.use+H.size;omega,k.Bc,k.CE,fun x hx=>(by cases hx)⟩,h.wl,h.fl,fun hm=>(by cases hm),fun x hx=>(by cases hx),fun p hp=>.inl (hw p hp)⟩
def WJ {H:Hp}{p q:Nat}{ob dM:Ob}(hp:lk H.cur p=some ob)(hs:dM.AM=ob.AM)(hq:∃ x,lk H.cur q=some x/\1<=x.AM.p):∃ x,lk (up H.cur p dM) q=some x/\1<=x.AM.p:=by
 obtain⟨x,h1,h2⟩:=hq;rw[Nh];split
 ·rename_i e;subst e;rw[hp]at h1 ⊢;injection h1 with h1;subst h1;exact⟨_,rfl,by rw[hs];exact h2⟩
 ·exact⟨x,h1,h2⟩
def qju {H:Hp}(p:Nat){q:Nat}(hq:∃ x,lk H.cur q=some x/\1<=x.AM.p):∃ x,lk (H.drop1 p).1.cur q=some x/\1<=x.AM.p:=by
 unfold Hp.drop1;split
 ·exact hq
 ·rename_i ob hp
  split
  ·exact hq
  ·split
   ·exact hq
   ·exact WJ hp rfl hq
   ·exact WJ hp rfl hq
def bg:∀ (l:List Nat){H:Hp}{q:Nat},(∃ x,lk H.cur q=some x/\1<=x.AM.p)->∃ x,lk (H.AU l).1.cur q=some x/\1<=x.AM.p
 | [],_,_,h=>h
 | p::l,_,_,h=>bg l (qju p h)
def Hp.FY {H:Hp}(h:H.wf):H.drop.1.wf:=by
 unfold Hp.drop;split
 ·exact h
 ·have hs:=Hp.DR h
  refine Hp.MB (Hp.DV _ hs) fun p hp=>bg _ ?_;rw[(uf _ _).2.1]at hp;exact Ua h hp
end
section
open Go.RowKit Hp
attribute [local go_sem ↓] Go.wp_at_zero Go.wp_at_succ
def Wr.Ey {b:Nat}{w w':Aa}(h:Wr b w.drew w'):Wr b w w':=⟨h.os,h.tape,h.output,h.size,h.block⟩
def Mj {w:Aa} {l:Bo} {vc vo vw vf:Ac} {sz tp eT dK CE dH p rd L:Nat} {gV:Bool} {f':Nat->Nat} (hb:An w l.h #[Ah (some ⟨l.a,0,none⟩),I Z 1,sz,tp,I Z (1+(sz:Int)),sz,eT,vc,vo,I Z 0,.bool gV,dK,I Z CE,dH,vw,vf] 185)
  (hth:Ab AId 172 #[Ah (some ⟨l.h,0,none⟩),p] w fun e w'=>e=O (.bool true)/\Ae w.1.size w w')
  (hcp:∀ W,Ae w.1.size w W->Ab AId 235 #[Ah (some ⟨l.a,0,none⟩),p,Al #[I Z 1,sz,tp]] W fun e w'=>e=O (Ak #[Al #[I Z 1,sz,I Z ((tp+rd:Nat):Int)],tp,I Z 0])/\Turned W w' l.a l.wd L f')
  (hne:l.h≠l.wd) (hwd:l.wd<w.1.size) (hla:l.a<w.1.size) (hrd:1<=rd/\rd<=dK) (hbd:1<=tp/\sz<=16384/\tp+rd<=1+sz/\dK<=65536)
  (Q:Aa->Prop) (htk:∀ W:Aa,B6 W l.a l.wd L f'->Wr l.wd w W->An (W.setCell ⟨l.h,11,none⟩ (I Z ((dK-rd:Nat):Int))) l.h #[Ah (some ⟨l.a,0,none⟩),I Z 1,sz,tp,I Z (1+(sz:Int)),sz,eT,vc,vo,I Z 0,.bool gV,I Z ((dK-rd:Nat):Int),I Z CE,dH,vw,vf] 185 ->
   Ab AId 230 #[Ah (some ⟨l.h,0,none⟩),Al #[I Z 1,sz,I Z ((tp+rd:Nat):Int)],tp] (W.setCell ⟨l.h,11,none⟩ (I Z ((dK-rd:Nat):Int))) fun e w'=>e=O (Ak #[])/\Q w') :
  Ab AId 173 #[Ah (some ⟨l.h,0,none⟩),p] w fun e w'=>e=O tp/\Q w':=by
 obtain⟨tr,htr⟩:=Ja0 (tp+rd);rw[<-htr]at hcp htk hbd;have nW:=Qa (fun W=>y9 (b:=1) (s:=sz) (t:=tr) ⟨by omega,by omega,by omega,by omega⟩ W)
 have rU:=Qa (fun W=>y9 (b:=1) (s:=sz) (t:=tp) ⟨by omega,by omega,by omega,by omega⟩ W)
 obtain⟨ua,hua⟩:=Ja0 (tr-1);obtain⟨ub,hub⟩:=Ja0 (tp-1);obtain⟨qB,how⟩:=Ja0 (dK-rd);have e1:IntKind.i64.wrap ((ua:Int)-(ub:Int))=(rd:Int):=by rw[af _ (by omega)];omega
 have e2:IntKind.i64.wrap ((dK:Int)-(rd:Int))=(qB:Int):=by rw[af _ (by omega)];omega
 rw[<-hua]at nW;rw[<-hub]at rU;rw[<-how]at htk;have nW:=Qa (show ∀ W:Aa,Ab AId 188 #[Al #[I Z 1,sz,tr]] W fun e w'=>e=O ua/\Ae W.1.size W w' from by exact nW.o)
 have rU:=Qa (show ∀ W:Aa,Ab AId 188 #[Al #[I Z 1,sz,tp]] W fun e w'=>e=O ub/\Ae W.1.size W w' from by exact rU.o)
 have nt1:((tr:Int)==(tp:Int))=false:=by rw[Qh];omega
 have nt2:((tr:Int) != (tp:Int))=true:=by rw[bne_iff_ne];omega
 have HT:=Qa hth;have HC:=Qa hcp;have HK:=Qa htk;have hlh:=hb.lt;clear hth hcp htk htr hua hub how hrd hbd;go_in;go_wp2_with fail;refine HT.o.mono ?_
 rintro e w1 ⟨rfl,hb1⟩
 have jH:=hb.below hb1 hb.lt;have c:=jH.cell;have s1:=jH.lt;go_upto_region 3 with fail;have k9:=c 9;have k1:=c 1;have k2:=c 2;have k3:=c 3;simp at k9 k1 k2 k3;have hnw:=World.new_ne w1 ⟨l.h,9,none⟩ k9;go_region_held3 (fun w'=>w'.cell? ⟨l.h,9,none⟩=some (I Z 0)/\w'.cell? ⟨l.h,1,none⟩=some (I Z 1)/\w'.cell? ⟨l.h,2,none⟩=some (I Z sz)/\w'.cell? ⟨l.h,3,none⟩=some (I Z tp)) (go_keep) (fail)
 clear c s1 k9 k1 k2 k3 hnw HT;obtain⟨W2,hW2⟩:=Ja0 ((w1.alloc (AIe #[I Z 1,sz,tp] 181)).drew);have eB:Ae w.1.size w W2:=by rw[hW2];exact qe (qa hb1 _)
 have iP:An W2 l.h #[Ah (some ⟨l.a,0,none⟩),I Z 1,sz,tp,I Z (1+(sz:Int)),sz,eT,vc,vo,I Z 0,.bool gV,dK,I Z CE,dH,vw,vf] 185:=by rw[hW2];exact qi (jH.alloc _)
 have dJ:An W2 w1.1.size #[I Z 1,sz,tp] 181:=by rw[hW2];exact qi (An.new _ _ _)
 have nS:w.1.size<=w1.1.size:=hb1.size;rw[<-hW2];obtain⟨bS,hbS⟩:=Ja0 w1.1.size;rw[<-hbS]at dJ nS ⊢;clear hW2 hbS hb1 jH hb;have cH:=iP.cell;have cS:=dJ.cell;have sH:=iP.lt;have sS:=dJ.lt;go_upto_region 4 with fail;go_cut [6,7,8] (fun t6 t7 t8 wx=>∃ Bx,t6=Ah (some ⟨Bx,0,none⟩)/\t7=I Z tp/\t8=I Z 0/\An wx Bx #[I Z 1,sz,tr] 181/\W2.1.size<=Bx/\B6 wx l.a l.wd L f'/\Wr l.wd W2 wx)
 case first =>
  have Akx:l.a<W2.1.size:=Qn hla eB.size;have hwd2:l.wd<W2.1.size:=Qn hwd eB.size;go_region_with (first|(go_at_call 235;refine (HC.o _ (by first|exact qe eB|exact qe (qa eB _)|exact qa (qe eB) _)).mono ?_;rintro e w4 ⟨rfl,mV⟩;try (have dP:An w4 W2.1.size #[I Z 0,I Z 0,I Z 0] 181:=An.wr (qi (An.new W2 _ _)) mV.2 (by omega);have yR:=dP.cell;have zB4:=dP.free;have sB4:=dP.lt))|fail)
  all_goals
   go_wp2_with fail;go_meet;first
    | exact⟨_,rfl,rfl,rfl,An.new _ _ _,mV.2.size,mV.1.below (qa (qc _) _),Wr.B7 mV.2.Ey (qa (qc _) _)⟩
    | exact⟨W2.1.size,rfl,rfl,rfl,by simpa using ((dP.set 0 _).set 1 _).set 2 _,Qk _,((mV.1.B8 (by omega) (by omega) _ _).B8 (by omega) (by omega) _ _).B8 (by omega) (by omega) _ _,
      (((Wr.of_below (qa (qc W2) _)).trans mV.2.Ey).B8 (Qk _) _ _ |>.B8 (Qk _) _ _).B8 (Qk _) _ _⟩
 case rest =>
  obtain⟨Bx,rfl,rfl,rfl,jB,hBx,hWd,iX⟩:=hcut;have iR:=iP.wr iX hne;have fV:=dJ.wr iX (by omega)
  have uS:=Qa ((Wr.of_below eB).trans iX);clear iP dJ cH cS HC eB iX;have cB:=jB.cell;have cS:=fV.cell;have sB:=jB.lt;have sS:=fV.lt;have sH:=iR.lt;have yD:Bx≠l.h:=by omega
  have Amw:bS≠l.h:=by omega
  have HJ:=Qa (fun (W:Aa) (hW:Ae wc.1.size wc W)=>show W.cell? ⟨l.h,11,none⟩=some (I Z dK)/\W.cell? ⟨Bx,0,none⟩=some (I Z 1)/\W.cell? ⟨Bx,1,none⟩=some (I Z sz)/\W.cell? ⟨Bx,2,none⟩=some (I Z tr)/\W.cell? ⟨bS,0,none⟩=some (I Z 1)/\W.cell? ⟨bS,1,none⟩=some (I Z sz)/\W.cell? ⟨bS,2,none⟩=some (I Z tp) from ⟨(iR.below hW sH).cell 11,(jB.below hW sB).cell 0,(jB.below hW sB).cell 1,(jB.below hW sB).cell 2,(fV.below hW sS).cell 0,(fV.below hW sS).cell 1,(fV.below hW sS).cell 2⟩);have mG:=Qa iR;have k11:wc.cell? ⟨l.h,11,none⟩=some (I Z dK):=by rw[iR.cell];rfl
  have HB0:=Qa (show Ae wc.1.size wc wc.drew from qe (qc wc));go_upto_region 8 with fail;go_region_with (first
   | (go_at_call_of 188 (Value.agg #[I Z 1,sz,tr]);with_reducible refine (nW.o _).mono ?_;rintro e w5 ⟨rfl,hb5⟩;have kb:=HB0.o.trans (hb5.mono HB0.o.size);obtain⟨y0,y1,y2,y3,y4,y5,y6⟩:=HJ.o _ kb)
   | (go_at_call_of 188 (Value.agg #[I Z 1,sz,tp]);with_reducible refine (rU.o _).mono ?_;rintro e w6 ⟨rfl,hb6⟩;have kc:=kb.trans (hb6.mono kb.size);obtain⟨z0,z1,z2,z3,z4,z5,z6⟩:=HJ.o _ kc;have zf:=(mG.o.below kc mG.o.lt).free;have zl:=(mG.o.below kc mG.o.lt).lt)
   | fail)
  all_goals
   have pE:=(show B6 wc l.a l.wd L f' from hWd).below kc;have pF:=uS.o.B7 kc;have nJ:=(mG.o.below kc mG.o.lt).set 11 (I Z (qB:Int));simp at nJ;have HKK:=Qa (HK.o w6 pE pF nJ);have cB6:=((show An wc Bx #[I Z 1,sz,tr] 181 from jB).below kc jB.lt);have cB7:=(cB6.Ao (a:=⟨l.h,11,none⟩) yD (I Z (qB:Int))).cell;clear pE pF nJ cB6 y0 y1 y2 y3 y4 y5 y6 z0 z1 z2 z3 z4 z5 z6 zf zl hb5 hb6 kb kc cB cS k11;go_wp2_with fail;refine HKK.o.mono ?_;rintro e w7 ⟨rfl,hq⟩;go_wp2_with fail;go_ret;exact⟨rfl,hq⟩
end
section
open Go.RowKit Hp
def fo (n:Nat):Own:=ext (fun _=>(0,0)) n (1,0)
def QZ (o:Own)(n m:Nat)(t:Tag)(h:n<=m):ext (ext o n t) m t=ext o n t:=by
 funext b;unfold ext;split
 ·rfl
 ·rw[if_neg (by omega)]
def NL {n m:Nat}(h:n<=m):ext (fo n) m (1,0)=fo n:=QZ _ _ _ _ h
def FZ {n b:Nat}(h:b<n):fo n b=(0,0):=qj h
def Hy {n b:Nat}(h:n<=b):fo n b=(1,0):=qp h
def Row.out {w':Aa}{n:Nat}{e:TypeId}{size k:Nat}{v:Ac}{xs:List Ac}(h:Row w' (fo n) (1,0) e size v k xs)(o:Own)(tg:Tag):Row w' (ext o n tg) tg e size v k xs:=by
 refine⟨h.own,fun b hb=>?_⟩
 have h1:=h.tag b hb;refine qp ?_;rcases Nat.lt_or_ge b n with h2|h2
 ·rw[FZ h2]at h1;simp at h1
 ·exact h2
def Row.Pa {w':Aa}{n:Nat}{e:TypeId}{size k:Nat}{v:Ac}{xs:List Ac}(h:Row w' (fo n) (1,0) e size v k xs):∀ b,v.ownBlock=some b->n<=b:=fun b hb=>by
 have h1:=h.tag b hb;rcases Nat.lt_or_ge b n with h2|h2
 ·rw[FZ h2]at h1;simp at h1
 ·exact h2
def xq {w w1 w2:Aa} {o':Own} (h:Ae w.1.size w w1) (hs:Stp (fun t=>t=(1,0)) (fo w.1.size) o' w1 w2):Ae w.1.size w w2:=by
 refine ((Stp.of_below (T:=fun t=>t=(1,0)) (o:=fo w.1.size) h).trans hs).below fun b hb e=>?_
 rw[FZ hb]at e;simp at e
def yt {w w1 w2:Aa}{v':Ac}{k:Nat}{xs:List Ac}{e:TypeId}{size:Nat}(h:Ae w.1.size w w1)(hr:Row w2 (ext (fo w.1.size) w1.1.size (1,0)) (1,0) e size v' k xs):Row w2 (fo w.1.size) (1,0) e size v' k xs:=by
 rw[NL h.size]at hr;exact hr
def Row.Gm {w:Aa}{o:Own}{t:Tag}{e:TypeId}{g n cap:Nat}{xs:List Ac}(h:Row w o t e 1 (Ai (some ⟨g,0,none⟩) n cap) n xs)(j:Nat)(u:Ac) :
  Row (w.setCell ⟨g,j,none⟩ u) o t e 1 (Ai (some ⟨g,0,none⟩) n cap) n (xs.set j u):=⟨(h.own.stored j u).1,h.tag⟩
def Row.Dm {w:Aa}{o:Own}{t:Tag}{e:TypeId}{size g n cap:Nat}{xs:List Ac}(h:Row w o t e size (Ai (some ⟨g,0,none⟩) n cap) n xs)(j:Nat)(u:Ac) :
  Row (w.setCell ⟨g,j,none⟩ u) o t e size (Ai (some ⟨g,0,none⟩) n cap) n (xs.set j u):=⟨(h.own.stored j u).1,h.tag⟩
def Row.free {w:Aa}{o:Own}{t:Tag}{e:TypeId}{size g n cap:Nat}{xs:List Ac}(h:Row w o t e size (Ai (some ⟨g,0,none⟩) n cap) n xs)(j:Nat):w.frozen? ⟨g,j,none⟩=false:=h.own.frozenAt j
def Row.blt {w:Aa}{o:Own}{t:Tag}{e:TypeId}{size g n cap:Nat}{xs:List Ac}(h:Row w o t e size (Ai (some ⟨g,0,none⟩) n cap) n xs):g<w.1.size:=by
 rcases h.own.2 with ⟨h',_⟩|⟨g',cap',cur,h',_,hg,_⟩
 ·simp at h'
 ·simp only[Value.slice.injEq,Zc,Addr.mk.injEq,and_true,true_and]at h'
  obtain⟨rfl,rfl⟩:=h';exact (Qf.1 hg).1
def Row.EG {w:Aa}{o:Own}{t:Tag}{e:TypeId}{size g n cap:Nat}{xs:List Ac}(h:Row w o t e size (Ai (some ⟨g,0,none⟩) n cap) n xs):o g=t:=h.tag g rfl
def Row.shape {w:Aa}{o:Own}{t:Tag}{e:TypeId}{size:Nat}{v:Ac}{n:Nat}{xs:List Ac}(h:Row w o t e size v n xs) :
  (v=Ai none 0 0/\n=0)\/∃ g cap,v=Ai (some ⟨g,0,none⟩) n cap/\n<=cap/\cap<=maxLen:=by
 rcases h.own.2 with ⟨rfl,rfl⟩|⟨g,cap,cur,rfl,_,_,hn,hc,_⟩
 ·exact .inl ⟨rfl,rfl⟩
 ·exact .inr ⟨g,cap,rfl,hn,hc⟩
def Ints (w:Aa)(v:Ac)(l:List Nat):Prop:=
 ∃ a c,v=.slice a l.length c/\l.length<=c/\c<=maxLen/\∀ (j x:Nat),l[j]?=some x->∃ g off,a=some ⟨g,off,none⟩/\g<w.1.size/\w.cell? ⟨g,off+j,none⟩=some (nv x)
def Ints.below {w w':Aa}{v:Ac}{l:List Nat}(h:Ints w v l)(hb:Ae w.1.size w w'):Ints w' v l:=by
 obtain⟨a,c,e,h1,h2,h3⟩:=h;refine⟨a,c,e,h1,h2,fun j x hj=>?_⟩
 obtain⟨g,off,e1,e2,e3⟩:=h3 j x hj;exact⟨g,off,e1,Qn e2 hb.size,by rw[hb.cell (p:=⟨g,off+j,none⟩) e2];exact e3⟩
def Row.ints {w:Aa}{o:Own}{t:Tag}{e:TypeId}{v:Ac}{l:List Nat}(h:Row w o t e 1 v l.length (l.map nv)):Ints w v l:=by
 rcases h.shape with⟨rfl,h0⟩|⟨g,cap,rfl,hn,hc⟩
 ·have:l=[]:=Ad h0
  subst this;exact⟨none,0,rfl,by simp,by simp,fun j x hj=>by simp at hj⟩
 ·refine⟨_,_,rfl,hn,hc,fun j x hj=>⟨g,0,rfl,h.blt,?_⟩⟩
  rw[Nat.zero_add];exact h.cells j _ (by rw[Qj,hj];rfl)
def Ints.form {w:Aa}{v:Ac}{l:List Nat}(h:Ints w v l):(l=[]/\∃ a c,v=.slice a 0 c)\/∃ g off c,v=Ai (some ⟨g,off,none⟩) l.length c/\l.length<=c/\c<=maxLen/\g<w.1.size/\∀ (j x:Nat),l[j]?=some x->w.cell? ⟨g,off+j,none⟩=some (nv x):=by
 obtain⟨a,c,e,h1,h2,h3⟩:=h
 cases l with
 | nil=>exact .inl ⟨rfl,a,c,e⟩
 | cons x l =>
  obtain⟨g,off,e1,e2,_⟩:=h3 0 x rfl;refine .inr ⟨g,off,c,by rw[e,e1],h1,h2,e2,fun j z hj=>?_⟩
  obtain⟨g',off',yU,_,e3'⟩:=h3 j z hj;rw[e1]at yU;injection yU with yU;injection yU with yU e2' _;rw[yU,e2'];exact e3'
def jt {l:List Nat}{k x:Nat}(h:l[k]?=some x):l.take (k+1)=l.take k++[x]:=by
 rw[List.take_add_one,h];rfl
def wb (l:List Nat)(x:Nat):(l++[x]).map nv=l.map nv++[I Z x]:=by simp[nv]
section
variable {P : Program} (w : Aa)
def Yd (t ty e : TypeId) (i : TypeInfo) (size : Nat) (ht : P.underlying t = some (.slice e)) (hi : P.info? e = some i) {o : Own} {tg : Tag} {v : Ac} {n : Nat} {xs : List Ac} (hown : Row w o tg e size v n xs) (c : Nat) :
    (aB #[t, t] ty #[v, Ai none 0 c]).run P w = .ok v w := by
  rcases hown.shape with ⟨rfl, _⟩ | ⟨g, cap, rfl, hnc, _⟩
  all_goals simp [aB, run_underlying ht, sizeOf, typeInfo, aR, aP, storeCells, *]
def Ye (t ty e:TypeId)(i:TypeInfo)(z:Ac)(size bytes:Nat)(ht:P.underlying t=some (.slice e))(hi:P.info? e=some i)(hz:i.zero=some z)
  (hsize:i.size=size)(hby:i.bytes=bytes)(hzs:z.cells.size=size)(hsz:0<size)
  (o:Own)(tg:Tag)(v:Ac)(n:Nat)(xs:List Ac)(hown:Row w o tg e size v n xs)(o2:Own)(t2:Tag)(vs:Ac)(m:Nat)(news:List Ac)(hsrc:Row w o2 t2 e size vs m news)(h1:∀ u ∈ news,u.oneCell'=true)
  (h63:n+m<=maxLen)(hbytes:(n+m)*bytes<=140737488355328) :
  ∃ v' w',(aB #[t,t] ty #[v,vs]).run P w=.ok v' w'/\Row w' (ext o w.1.size tg) tg e size v' (n+m) (xs++news)/\Stp (fun u=>u=tg) o (ext o w.1.size tg) w w':=by
 rcases hsrc.shape with ⟨rfl,rfl⟩|⟨g,cap,rfl,_,_⟩
 ·have hx:news=[]:=Ad (by simpa using hsrc.len)
  subst hx;refine⟨v,w,Yd w t ty e i size ht hi hown 0,?_,(Stp.refl _ o w).ext _ _ (Qk _)⟩;rw[aH,Nat.add_zero];exact hown.retag fun b hb=>qj hb
 ·exact xp (P:=P) w t ty e i z size bytes ht hi hz hsize hby hzs hsz o tg v n xs hown ⟨g,0,none⟩ m cap news hsrc.len (hsrc.own.cells rfl) h1 h63 hbytes
def d8 {op:Oper}{a:Act}{K:Act->Aa->Prop}{Q:Exit->Act->Aa->Prop}(s x:Operand)(t:TypeId)
  (ho:op.op=.call { callee:=.builtin .append,args:=#[s,x],argTypes:=#[t,t] })
  (e:TypeId)(i:TypeInfo)(z:Ac)(size bytes:Nat)(ht:P.underlying t=some (.slice e))(hi:P.info? e=some i)(hz:i.zero=some z)
  (hsize:i.size=size)(hby:i.bytes=bytes)(hzs:z.cells.size=size)(hsz:0<size)
  (o:Own)(tg:Tag)(v:Ac)(n:Nat)(xs:List Ac)(hs:a.eval s=v)(hown:Row w o tg e size v n xs)
  (o2:Own)(t2:Tag)(vs:Ac)(m:Nat)(news:List Ac)(hx:a.eval x=vs)(hsrc:Row w o2 t2 e size vs m news)(h1:∀ u ∈ news,u.oneCell'=true)
  (h63:n+m<=maxLen)(hbytes:(n+m)*bytes<=140737488355328)
  (h:∀ v' w',Row w' (ext o w.1.size tg) tg e size v' (n+m) (xs++news)->Stp (fun u=>u=tg) o (ext o w.1.size tg) w w'->K (a.put op.dst v') w'):Oper.wp P op a w K Q:=by
 obtain⟨v',w',hr,h2,h3⟩:=Ye (P:=P) w t op.type e i z size bytes ht hi hz hsize hby hzs hsz o tg v n xs hown o2 t2 vs m news hsrc h1 h63 hbytes;unfold Oper.wp execOp;simp only[ho,resolve,invoke,builtin,Sem.run_bind,Sem.run_pure,Result.andThen_ok,aF,aI,aJ,hs,hx,hr];exact h v' w' h2 h3
def zm {ops:Array Oper}{rest:List Oper}{op:Oper}{a:Act}{Q:Exit->Act->Aa->Prop}(hgd:op.guard=none)(s x:Operand)(t:TypeId)
  (ho:op.op=.call { callee:=.builtin .append,args:=#[s,x],argTypes:=#[t,t] })
  (e:TypeId)(i:TypeInfo)(z:Ac)(size bytes:Nat)(ht:P.underlying t=some (.slice e))(hi:P.info? e=some i)(hz:i.zero=some z)
  (hsize:i.size=size)(hby:i.bytes=bytes)(hzs:z.cells.size=size)(hsz:0<size)
  (o:Own)(tg:Tag)(v:Ac)(n:Nat)(xs:List Ac)(hs:a.eval s=v)(hown:Row w o tg e size v n xs)
  (o2:Own)(t2:Tag)(vs:Ac)(m:Nat)(news:List Ac)(hx:a.eval x=vs)(hsrc:Row w o2 t2 e size vs m news)(h1:∀ u ∈ news,u.oneCell'=true)
  (h63:n+m<=maxLen)(hbytes:(n+m)*bytes<=140737488355328)
  (h:∀ v' w',Row w' (ext o w.1.size tg) tg e size v' (n+m) (xs++news)->Stp (fun u=>u=tg) o (ext o w.1.size tg) w w'->wpList P ops Q rest (a.put op.dst v') w'):wpList P ops Q (op::rest) a w:=
 wpList_plain hgd fun _ hK=>d8 w s x t ho e i z size bytes ht hi hz hsize hby hzs hsz o tg v n xs hs hown o2 t2 vs m news hx hsrc h1 h63 hbytes fun v' w' h2 h3=>hK _ _ (h v' w' h2 h3)
def p9 {ops:Array Oper}{op:Oper}{a:Act}{K:Act->Aa->Prop}{Q:Exit->Act->Aa->Prop}{E:Prop}(hgd:op.guard=none)(s x:Operand)(t:TypeId)
  (ho:op.op=.call { callee:=.builtin .append,args:=#[s,x],argTypes:=#[t,t] })
  (e:TypeId)(i:TypeInfo)(z:Ac)(size bytes:Nat)(ht:P.underlying t=some (.slice e))(hi:P.info? e=some i)(hz:i.zero=some z)
  (hsize:i.size=size)(hby:i.bytes=bytes)(hzs:z.cells.size=size)(hsz:0<size)
  (o:Own)(tg:Tag)(v:Ac)(n:Nat)(xs:List Ac)(hs:a.eval s=v)(hown:Row w o tg e size v n xs)
  (o2:Own)(t2:Tag)(vs:Ac)(m:Nat)(news:List Ac)(hx:a.eval x=vs)(hsrc:Row w o2 t2 e size vs m news)(h1:∀ u ∈ news,u.oneCell'=true)
  (h63:n+m<=maxLen)(hbytes:(n+m)*bytes<=140737488355328)
  (h:∀ v' w',Row w' (ext o w.1.size tg) tg e size v' (n+m) (xs++news)->Stp (fun u=>u=tg) o (ext o w.1.size tg) w w'->K (a.put op.dst v') w') :
  if Aj op (yielded ops a.tmps)=true then Oper.wp P op a w K Q else E:=by
 have hw:Aj op (yielded ops a.tmps)=true:=by simp[Aj,hgd]
 rw[if_pos hw];exact d8 w s x t ho e i z size bytes ht hi hz hsize hby hzs hsz o tg v n xs hs hown o2 t2 vs m news hx hsrc h1 h63 hbytes h
end
def rz (l:List Nat):∀ u ∈ l.map nv,u.oneCell'=true:=by
 intro u hu;obtain⟨x,_,rfl⟩:=Qt.1 hu;rfl
end
section
open Go.Proofs
abbrev Tryz.muLink:Go.Conc.Locks.MuLink:={ lock:=148,unlock:=149,ilock:=210,iunlock:=211,lockSlow:=255,unlockSlow:=258,disable:=251,enable:=253,acquire:=254,relMerge:=256,cas32:=252,add32:=257,tMutex:=144,tIMutex:=142,tPMutex:=292,tPIMutex:=332,tPI32:=334,tUP:=336,tNoCopy:=139,tU32:=140 }
def Tryz.muLib:Go.Conc.Locks.MuLib AId Tryz.muLink:=
 ⟨func148,func149,func210,func211,func251,func253,func254,func256,func252,func257,underlying142,Tryz.runUnderlying142,sizeOf142,isAgg142,zeroValue142,underlying144,Tryz.runUnderlying144,sizeOf144,isAgg144,zeroValue144,underlying292,Tryz.runUnderlying292,sizeOf292,isAgg292,zeroValue292,underlying332,Tryz.runUnderlying332,sizeOf332,isAgg332,zeroValue332,underlying334,Tryz.runUnderlying334,sizeOf334,isAgg334,zeroValue334,underlying336,Tryz.runUnderlying336,sizeOf336,isAgg336,zeroValue336,underlying139,Tryz.runUnderlying139,sizeOf139,isAgg139,zeroValue139,underlying21,Tryz.runUnderlying21,sizeOf21,isAgg21,zeroValue21,(by kernel_rfl)⟩
end
section
open Go.RowKit Hp
attribute [local go_sem ↓] Go.wp_at_zero Go.wp_at_succ
def Ob.AS (o:Ob):List Nat:=if o.AM.AA then [] else o.AE
def Ob.CS (o:Ob)(l:List Nat):Ob:=if o.AM.AA then o else { o with AE:=l }
section
variable {w : Aa} {a wd L : Nat} {f : Nat -> Nat} {p : Nat} {ob : Ob}
def U9 (s:BR)(w:Aa):Ab AId 243 #[kg s] w fun e w'=>e=O (I Z (if s.AA then 0 else (s.p:Int)))/\Ae w.1.size w w':=by
 obtain⟨sp,sd,wk,fn⟩:=s
 cases wk
 all_goals
  go_in;go_wp2_with fail;go_ret;exact⟨rfl,qa (qc w) _⟩
def Vn (h:B6 w a wd L f)(ho:BE f p ob)(hk:ob.ok)(hl:p+ob.size<=L) :
  Ab AId 194 #[Ah (some ⟨a,0,none⟩),p] w fun e w'=>∃ v,e=O (Ak #[v,I Z 0])/\Row w' (fo w.1.size) (1,0) 3 1 v ob.AS.length (ob.AS.map nv)/\Ae w.1.size w w':=by
 have HS:=Qa (jy h ho hk hl p rfl);have HT:=Qa (fun w=>U9 ob.AM w)
 have HP:=Qa (fun w' (hb:Ae w.1.size w w')(i x:Nat)(hx:ob.AE[i]?=some x)=>RI (h.below hb) ho hk hl i x hx p i rfl rfl)
 have hlp:=hk.lp;have h8:=hk.AM.1;obtain⟨iI,hi,hsI,cZ,bZ⟩:=zh;have hu64:=underlying25;obtain⟨⟨sp,sd,wk,fn⟩,fr,se,sr,ps,ns⟩:=ob;simp only at HS HT HP hlp h8;clear h ho hk hl;obtain⟨n,hn⟩:∃ n:Nat,n=if wk then 0 else sp:=⟨_,rfl⟩
 have hst:(Ob.mk ⟨sp,sd,wk,fn⟩ fr se sr ps ns).AS=ps.take n:=by
  unfold Ob.AS
  cases wk
  ·simp only[Bool.false_eq_true,if_false]at hn ⊢
   rw[hn,<-hlp,aG]
  ·simp only[if_true]at hn ⊢
   rw[hn];rfl
 have hsn:(if wk then (0:Int) else (sp:Int))=(n:Int):=by rw[hn];split<;>rfl
 have nZ:n<=sp:=by rw[hn];split<;>omega
 have hlen:(ps.take n).length=n:=by rw[Qp,hlp];omega
 rw[hst,hlen];simp only[hsn]at HT;have HT:=Qa (show ∀ w:Aa,Ab AId 243 #[Al #[sp,sd,.bool wk,.bool fn]] w fun e w'=>e=O n/\Ae w.1.size w w' from HT.o)
 replace hlp:=Qa hlp;replace hlen:=Qa hlen;clear hst hsn hn;go_in;go_wp2_with fail;refine HS.o.mono ?_
 rintro e w1 ⟨rfl,hb1⟩
 have jB:=An.new w1 #[sp,sd,.bool wk,.bool fn] 93;have cB:=jB.cell;have hb2:=qa hb1 (AIe #[sp,sd,.bool wk,.bool fn] 93);go_wp2_with fail;refine (HT.o _).mono ?_
 rintro e w2 ⟨rfl,hb3⟩
 have hb4:=qd hb2 hb3;clear hb1 hb2 hb3 jB cB;have vC:(n:Int)<=8:=by omega
 go_wp2_with fail;go_loopw [9,25] (fun v ix wr=>∃ k:Nat,ix=I Z k/\k<=n/\Row wr (fo w.1.size) (1,0) 3 1 v k ((ps.take k).map nv)/\Ae w.1.size w wr) (fun _ ix _=>n-(intOf ix).toNat)
 case atStart=>exact⟨0,rfl,by omega,Row.nil _ _ _ _ _,hb4⟩
 case round =>
  obtain⟨k,rfl,hkn,hr,hbr⟩:=hrel;clear hb4;by_cases hlt:k<n
  ·have eO:(k:Int)<(n:Int):=by omega
   have hk8:(k:Int)<8:=by omega
   obtain⟨x,hx⟩:∃ x,ps[k]?=some x:=⟨_,Qb (by rw[hlp.o];omega)⟩
   have htk:=Qa (jt hx);have hk1:k+1<=maxLen/\(k+1)*8<=140737488355328:=by simp only[maxLen];omega
   obtain⟨hk1,hk2⟩:=hk1;have hk1:=Qa hk1;have hk2:=Qa hk2;have HPx:=Qa (HP.o _ hbr k x hx);have hr0:=Qa hr;obtain⟨pa,cp,rfl⟩:=hr.A5;clear hr hx;go_wp2_with fail;refine HPx.o.mono ?_;rintro e w3 ⟨rfl,hb3⟩;go_wp2_with (first|(at_builtin;refine qf _ rfl _ _ _ rfl 3 iI _ 1 8 hu64 hi bZ hsI cZ rfl (by decide) (fo w.1.size) (1,0) _ _ _ rfl (Row.below (Row.below hr0.o hb3) (qa (qc w3) _)) ⟨w3.1.size,0,none⟩ 1 1 [I Z x] rfl rfl (qv (An.new w3 _ _)) jd hk1.o hk2.o ?_;intro v' w8 hown hst)|fail)
   have hb5:=qa (qd hbr hb3) (AIe #[x] 3);have ig:=yt hb5 hown;have fJ:=xq hb5 hst;go_roundw
   case rel=>exact⟨k+1,by simp,by omega,by rw[htk.o,wb];exact ig,fJ⟩
   case measure=>simp[intOf];omega
  ·obtain rfl:k=n:=by omega
   go_wp2_with fail;go_ret2;exact⟨_,rfl,hr,hbr⟩
end
def pd {α:Type}:∀ (ps qs:List α)(k:Nat)(x:α),ps[k]?=some x->k<qs.length->(ps.take k++qs.drop k).set k x=ps.take (k+1)++qs.drop (k+1)
 | [],_,k,x,h,_=>by simp at h
 | p::ps,[],k,x,_,h=>by simp at h
 | p::ps,q::qs,0,x,h,_=>by simp at h;subst h;simp
 | p::ps,q::qs,k+1,x,h,hk=>by
  have:=pd ps qs k x (by simpa using h) (by simpa using hk)
  simpa using this
section
variable {w : Aa} {a wd L : Nat} {f : Nat -> Nat} {p : Nat} {ob : Ob}
def Else (f f':Nat->Nat)(p n:Nat):Prop:=∀ j,j<p\/p+n<=j->f' j=f j
def Ys (h:B6 w a wd L f)(ho:BE f p ob)(hk:ob.ok)(hl:p+ob.size<=L)(ps:List Nat)(hps:∀ x ∈ ps,x<=131072)(hn:ps.length=ob.AS.length){v:Ac}(hv:∀ w',Wr wd w w'->Ints w' v ps) :
  Ab AId 195 #[Ah (some ⟨a,0,none⟩),p,v] w fun e w'=>e=O (I Z 0)/\∃ f',B6 w' a wd L f'/\Wr wd w w'/\BE f' p (ob.CS ps)/\Else f f' p ob.size:=by
 have HS:=Qa (jy h ho hk hl p rfl);have HT:=Qa (fun w=>U9 ob.AM w)
 have hlp:=hk.lp;have h8:=hk.AM.1;have HW:=Qa h;have HO:=Qa ho;have HK:=Qa hk;have HL:=Qa hl;have HP:=Qa hps;have HV:=Qa hv;obtain⟨n,hnn⟩:=Ja0 ps.length;have hsn:(if ob.AM.AA then (0:Int) else (ob.AM.p:Int))=(n:Int):=by
  rw[hnn,hn];unfold Ob.AS;split
  ·rfl
  ·rw[hlp]
 have hns:n<=ob.AM.p:=by
  rw[hnn,hn];unfold Ob.AS;split
  ·exact Nat.zero_le _
  ·rw[hlp];exact Qk _
 have hfin:({ ob with AE:=ps.take n++ob.AE.drop n }:Ob)=ob.CS ps:=by
  unfold Ob.CS;rw[hnn,aG];unfold Ob.AS at hn;split
  ·rename_i hw
   rw[if_pos hw]at hn;have:ps=[]:=Ad hn;subst this;simp
  ·rename_i hw
   rw[if_neg hw]at hn;rw[hn,List.drop_length,aH]
 have HFin:=Qa hfin;have HN:=Qa hnn;simp only[hsn]at HT;have HT:=Qa (show ∀ w:Aa,Ab AId 243 #[Al #[ob.AM.p,ob.AM.d,.bool ob.AM.AA,.bool ob.AM.final]] w fun e w'=>e=O n/\Ae w.1.size w w' from HT.o)
 obtain⟨va,vcp,rfl⟩:∃ a c,v=.slice a n c:=by
  obtain⟨a',c',e,_⟩:=hv w (Wr.refl _ _);exact⟨a',c',by rw[hnn];exact e⟩
 clear h ho hk hl hps hn hv hsn hfin hnn;go_in;go_wp2_with fail;refine HS.o.mono ?_
 rintro e w1 ⟨rfl,hb1⟩
 have jB:=An.new w1 #[ob.AM.p,ob.AM.d,.bool ob.AM.AA,.bool ob.AM.final] 93;have cB:=jB.cell;have hb2:=qa hb1 (AIe #[ob.AM.p,ob.AM.d,.bool ob.AM.AA,.bool ob.AM.final] 93);go_wp2_with fail;refine (HT.o _).mono ?_
 rintro e w2 ⟨rfl,hb3⟩
 have hb4:=qd hb2 hb3;clear hb1 hb2 hb3 jB cB;have vC:(n:Int)<=8:=by omega
 go_wp2_with fail;go_loop [32](fun ix=>∃ k:Nat,ix=I Z k/\k<=n)(fun ix=>n-(intOf ix).toNat)
 case atStart=>exact⟨0,rfl,by omega⟩
 case round =>
  obtain⟨k,rfl,hkn⟩:=hrel;by_cases hlt:k<n
  ·have eO:(k:Int)<(n:Int):=by omega
   have hk8:(k:Int)<8:=by omega
   obtain⟨x,hx⟩:∃ x,ps[k]?=some x:=⟨_,Qb (by rw[<-HN.o];omega)⟩
   have hxb:=HP.o x (Qe hx);have hx1:¬(x:Int)<0:=by omega
   have hx2:¬(x:Int) > 131072:=by omega
   rcases (HV.o w2 (Wr.of_below hb4)).form with ⟨e1,_⟩|⟨g,off,c,e1,hnc,hcm,hg,hcell⟩
   ·rw[e1]at hx;simp at hx
   ·injection e1 with e1 e2 e3
    subst e1 e3;clear e2;have cx:w2.cell? ⟨g,off+k,none⟩=some (I Z x):=hcell k x hx;clear hcell hx;go_wp2_with fail;go_round
    case rel=>exact⟨k+1,by simp,by omega⟩
    case measure=>simp[intOf];omega
  ·obtain rfl:k=n:=by omega
   clear hlt;go_wp2_with fail;go_loopw [45](fun ix wr=>∃ (j:Nat)(f':Nat->Nat),ix=I Z j/\j<=k/\B6 wr a wd L f'/\Wr wd w wr/\BE f' p { ob with AE:=ps.take j++ob.AE.drop j }/\Else f f' p ob.size)(fun ix _=>k-(intOf ix).toNat)
   case atStart=>exact⟨0,f,rfl,by omega,HW.o.below hb4,Wr.of_below hb4,by simpa using HO.o,fun _ _=>rfl⟩
   case round =>
    obtain⟨j,f',rfl,hjk,hW,hR,hO,hE⟩:=hrel;clear hb4 hkn;by_cases hlt:j<k
    ·have qO:(j:Int)<(k:Int):=by omega
     have hj8:(j:Int)<8:=by omega
     obtain⟨x,hx⟩:∃ x,ps[j]?=some x:=⟨_,Qb (by rw[<-HN.o];omega)⟩
     have hxb:=HP.o x (Qe hx);have hts:=pd ps ob.AE j x hx (by rw[hlp];omega)
     have hok:Ob.ok { ob with AE:=ps.take j++ob.AE.drop j }:=⟨HK.o.AM,by show (ps.take j++ob.AE.drop j).length=_;rw[Qd,Qp,ay,HK.o.lp,<-HN.o];show _=ob.AM.p;omega,HK.o.ln,fun z hz=>by
      rcases Qs.1 hz with hz|hz
      ·exact HP.o z (List.mem_of_mem_take hz)
      ·exact HK.o.ptr z (List.mem_of_mem_drop hz),HK.o.num,HK.o.Bc,HK.o.sec⟩
     have wH:=Qa (yk hW hO hok HL.o j x (show j<ob.AM.p by omega) hxb p j x rfl rfl rfl)
     have hO2:=hO.Bm hok j x (show j<ob.AM.p by omega)
     have Abz:BE (upd f' (p+3+j) x) p { ob with AE:=ps.take (j+1)++ob.AE.drop (j+1) }:=by rw[<-hts];exact hO2
     have hE2:Else f (upd f' (p+3+j) x) p ob.size:=fun i hi=>by
      rw[upd_ne _ _ _ _ (by unfold Ob.size at hi;omega)];exact hE i hi
     have HOE:=Qa (And.intro Abz hE2);rcases (HV.o wr hR).form with ⟨e1,_⟩|⟨g,off,c,e1,hnc,hcm,hg,hcell⟩
     ·rw[e1]at hx;simp at hx
     ·injection e1 with e1 e2 e3
      subst e1 e3;clear e2;have cx:wr.cell? ⟨g,off+j,none⟩=some (I Z x):=hcell j x hx;have HRR:=Qa hR;clear hcell hx hts hok hO2 Abz hE2 hO hE hW hR;go_wp2_with fail;refine wH.o.mono ?_;rintro e w5 ⟨rfl,sJ⟩;go_wp2_with fail;go_roundw
      case rel=>exact⟨j+1,_,by simp,by omega,sJ.1,HRR.o.trans sJ.2,HOE.o.1,HOE.o.2⟩
      case measure=>simp[intOf];omega
    ·obtain rfl:j=k:=by omega
     go_wp2_with fail;go_ret;exact⟨rfl,f',hW,hR,by rw[<-HFin.o];exact hO,hE⟩
end
section
variable {w w' : Aa} {o : Own} {l : Bo} {H : Hp} {vc vo vw vf : Ac} {f : Nat -> Nat}
def AN.En (h:AN w o l H vc vo vw vf f)(hu:H.use=false):An w l.h #[Ah (some ⟨l.a,0,none⟩),I Z 1,H.size,H.top,I Z (1+(H.size:Int)),H.size,H.B5,vc,vo,I Z 0,.bool H.AL,H.BB,H.scan,H.Ap,vw,vf] 185:=h.EP hu
def AN.Eo (h:AN w o l H vc vo vw vf f)(hu:H.use=true):An w l.h #[Ah (some ⟨l.a,0,none⟩),I Z 1,H.size,H.B5,I Z (1+(H.size:Int)),H.size,H.top,vo,vc,I Z 1,.bool H.AL,H.BB,H.scan,H.Ap,vw,vf] 185:=by
 have hb:=h.hb;unfold Hp.cells at hb;rw[hu,if_pos rfl]at hb;exact hb
def AN.MQ (h:AN w o l H vc vo vw vf f) (hk:H.ok) {p:Nat} {ob dM:Ob} (hp:lk H.cur p=some ob) {f':Nat->Nat} (hW:B6 w' l.a l.wd (2*H.size+1) f') (hR:Wr l.wd w w') (hE:Else f f' p ob.size) (ho:BE f' p dM) :
  AN w' o l { H with cur:=up H.cur p dM } vc vo vw vf f':=by
 have hm:=zk hp;have ic:=h.oh;have how:=h.ow;have hne:∀ {c:Nat} {i:Nat},o c=(l.id,i)->i≠2->c≠l.wd:=fun hc hi e=>by
  rw[e,how]at hc;injection hc with _ hc;exact hi hc.symm
 have hrow:∀ {i:Nat} {v:Ac} {n:Nat} {xs:List Ac},i≠2->Row w o (l.id,i) 3 1 v n xs->Row w' o (l.id,i) 3 1 v n xs:=fun hi hr=>by
  refine hr.Ar (T:=fun t=>t=(l.id,2)) (o':=o) (Stp.Cg hR how) ?_;intro e;injection e with _ e;exact hi e
 have hlen:(up H.cur p dM).length=H.cur.length:=by simp[up]
 have hmap:((up H.cur p dM).map fun x=>nv x.1)=H.cur.map fun x=>nv x.1:=by
  have:=congrArg (aQ nv) (XP H.cur p dM);simpa [aa,ag] using this
 refine⟨h.hb.wr hR (hne ic (by omega)),hW,?_,hrow (by split<;>omega) h.ro,hrow (by omega) h.rw,hrow (by omega) h.rf,h.oh,h.oa,h.ow,?_,?_⟩
 ·show Row w' o (l.id,if H.use then 4 else 3) _ 1 vc (up H.cur p dM).length _
  rw[hlen,hmap];exact hrow (by split<;>omega) h.rc
 ·intro x hx
  obtain⟨y,hy,rfl⟩:=Qt.1 hx;split
  ·exact ho
  ·rename_i e
   refine (h.FC y hy).of_eq (hk.ck y hy) fun j h1 h2=>hE j ?_;have h3:=ug _ _ _ hk.cl hk.ck y hy (p,ob) hm e;have h4:=zu _ (Ob.AW (hk.ck y hy)).2;have h5:=zu _ (Ob.AW (hk.ck _ hm)).2;simp only at h3 h5;omega
 ·intro x hx
  have h3:=Hp.apart hk hm hx;have h4:x.2.1.ok:=hk.ok (x.1,x.2.1) (Qt.2 ⟨x,hx,rfl⟩);have h5:=Ob.AW h4;obtain⟨g1,g2⟩:=h.Cs x hx;simp only at h3;refine⟨fun e=>(g1 e).of_eq h4 fun j h1 h2=>hE j (by omega),fun q e=>?_⟩
  rw[hE x.1 (by omega)];exact g2 q e
def AN.Gk (h:AN w o l H vc vo vw vf f){H':Hp}{w':Aa}(hb:An w' l.h (H'.cells l.a vc vo vw vf) 185)(hs:Stp (fun t=>t=(l.id,0)) o o w w')
  (e1:H'.size=H.size)(e2:H'.use=H.use)(e3:H'.cur=H.cur)(e4:H'.old=H.old)(e5:H'.AA=H.AA)(e6:H'.final=H.final):AN w' o l H' vc vo vw vf f:=by
 have hn:∀ j,j≠0->¬(l.id,j)=(l.id,0):=fun j hj e=>hj (by simpa using e)
 exact⟨hb,by rw[e1];exact h.Cq.Ar hs (by rw[h.oa];exact hn _ (by omega)) (by rw[h.ow];exact hn _ (by omega)),by rw[e2,e3];exact h.rc.Ar hs (hn _ (by split<;>omega)),by rw[e2,e4];exact h.ro.Ar hs (hn _ (by split<;>omega)),
  by rw[e5];exact h.rw.Ar hs (hn _ (by omega)),by rw[e6];exact h.rf.Ar hs (hn _ (by omega)),h.oh,h.oa,h.ow,by rw[e3];exact h.FC,by rw[e4];exact h.Cs⟩
def qkv (H:Hp)(a:Nat)(vc vo vw vf:Ac)(n:Nat):(H.cells a vc vo vw vf).setIfInBounds 12 (I Z n)={ H with scan:=n }.cells a vc vo vw vf:=by
 unfold Hp.cells;cases H.use<;>rfl
def uq (h:AN w o l H vc vo vw vf f):Ab AId 193 #[Ah (some ⟨l.h,0,none⟩)] w fun e w'=>e=O (.bool (decide (H.scan=H.top)))/\Ae w.1.size w w':=by
 have hd:decide (H.scan=H.top)=((H.scan:Int)==(H.top:Int)):=by
  rw[Bool.eq_iff_iff];simp only[decide_eq_true_eq,beq_iff_eq];omega
 rw[hd];rcases (show H.use=false\/H.use=true by cases H.use<;>simp) with hu|hu
 ·have c:=(h.En hu).cell
  clear h hd hu;go_in;go_upto_region 1 with fail;go_quiet (fail);go_wp2_with fail;go_ret;exact⟨rfl,zi (qc w) _⟩
 ·have c:=(h.Eo hu).cell
  clear h hd hu;go_in;go_upto_region 1 with fail;go_quiet (fail);go_wp2_with fail;go_ret;exact⟨rfl,zi (qc w) _⟩
end
end
section
open Go.RowKit Hp
def qp1 (b:Nat)(w:Aa) :
  Ab AId 102 #[Ah (some ⟨b,0,none⟩)] w fun e w'=>e=O (Ah (some ⟨w.1.size,0,none⟩))/\w'=w.alloc (AIe #[Ah (some ⟨b,0,none⟩),.nilFunc,Ai none 0 0,Ai none 0 0] 201):=by
 go_in;go_wp2_with fail;go_ret;exact⟨rfl,rfl⟩
def Hp.fresh (n:Nat):Hp:=⟨n,false,[],1,false,[],1+n,0,0,0,[],[]⟩
def Hp.H5 {n:Nat}(h1:16<=n)(h2:n<=16384):(Hp.fresh n).wf:=by
 refine⟨⟨⟨h1,h2⟩,rfl,fun x hx=>(by cases hx),rfl,fun x hx=>(by cases hx),?_,fun _=>rfl,rfl,?_,?_,?_,fun x hx=>(by cases hx)⟩,Qk _,Qk _,fun h=>(by cases h),fun x hx=>(by cases hx),fun x hx=>(by cases hx)⟩
 ·show 1+n<=Hp.base _ _+n
  unfold Hp.base Hp.fresh;simp
 ·show 1+0<=Hp.base _ _+n
  unfold Hp.base Hp.fresh;simp
 ·show 0<=_
  exact Nat.zero_le _
 ·show 0<=_
  exact Nat.zero_le _
def Jg (n:Nat)(h1:16<=n)(h2:n<=16384)(o:Own)(id:Nat)(w:Aa) :
  Ab AId 101 #[n] w fun e w'=>∃ h a wd o',e=O (Ak #[Ah (some ⟨h,0,none⟩),I Z 0]) /\
   AN w' o' ⟨id,h,a,wd⟩ (Hp.fresh n) (Ai none 0 0) (Ai none 0 0) (Ai none 0 0) (Ai none 0 0) (fun _=>0)/\Stp (fun _=>False) o o' w w'/\w.1.size<=h/\(∀ b,w.1.size<=b->(o' b).1=id):=by
 have HA:=Qa (fun w=>Nt (2*n+1) (by omega) (by omega) _ rfl w)
 have HM1:=Qa (fun w=>VJ 1 n (by omega) (by omega) 1 n rfl rfl w)
 have eU:=Qa (fun w=>VJ (1+n) n (by omega) (by omega) (1+n) n (by omega) rfl w)
 have e1:((2*n+1:Nat):Int)=2*(n:Int)+1:=by omega
 rw[e1]at HA;clear e1;go_in;go_wp2_with fail;refine (HA.o _).mono ?_
 rintro e w1 ⟨a,wd,rfl,hW,ha,hwd,hb1⟩
 go_wp2_with fail;refine (HM1.o _).mono ?_
 rintro e w2 ⟨rfl,hb2⟩
 have jT:=qd hb1 hb2;have hW2:=hW.below hb2;clear hb2 hb1 hW;go_wp2_with fail;refine (eU.o _).mono ?_
 rintro e w3 ⟨rfl,hb3⟩
 have jA:=(An.new w2 #[I Z 1,n,I Z 1] 181).below hb3 (by simp)
 have hW3:=hW2.below (qd (qa (qc w2) _) hb3);have Aco:=qd jT (qd (qa (qc w2) (AIe #[I Z 1,n,I Z 1] 181)) hb3);clear hW2 jT hb3;have cA:=jA.cell;have sA:=jA.lt;go_wp2_with fail;go_ret2;have hle:w.1.size<=w3.1.size:=Aco.size;have la:=hW3.Cl.lt;have lwd:=hW3.lt;have AAh:=hW3.ne;refine⟨w3.1.size+1,a,wd,fun b=>if b<w.1.size then o b else if b=w3.1.size+1 then (id,0) else if b=a then (id,1) else if b=wd then (id,2) else (id,9),rfl,?_,?_,by omega,?_⟩
 ·refine⟨?_,(hW3.below (qa (qa (qc w3) _) _)),Row.nil _ _ _ _ _,Row.nil _ _ _ _ _,Row.nil _ _ _ _ _,Row.nil _ _ _ _ _,?_,?_,?_,fun x hx=>(by cases hx),fun x hx=>(by cases hx)⟩
  ·refine An.Ax _ _ _ _ _ (by simp) ?_
   unfold Hp.cells Hp.fresh;simp
  ·show (if w3.1.size+1<w.1.size then _ else _)=_
   rw[if_neg (by omega),if_pos rfl]
  ·show (if a<w.1.size then _ else if a=w3.1.size+1 then _ else _)=_
   rw[if_neg (by omega),if_neg (by omega),if_pos rfl]
  ·show (if wd<w.1.size then _ else if wd=w3.1.size+1 then _ else if wd=a then _ else _)=_
   rw[if_neg (by omega),if_neg (by omega),if_neg (by omega),if_pos rfl]
 ·have hB:=qa (qa Aco (AIe #[I Z (1+(n:Int)),n,I Z (1+(n:Int))] 181)) (AIe #[Ah (some ⟨a,0,none⟩),I Z 1,n,I Z 1,I Z (1+(n:Int)),n,I Z (1+(n:Int)),Ai none 0 0,Ai none 0 0,I Z 0,.bool false,I Z 0,I Z 0,I Z 0,Ai none 0 0,Ai none 0 0] 185)
  exact⟨hB.os,hB.tape,hB.output,hB.size,fun b hb=>if_pos hb,fun b hb _=>hB.block b hb⟩
 ·intro b hb
  show (if _ then _ else _:Tag).1=_;rw[if_neg (by omega)]
  repeat' split
  all_goals rfl
