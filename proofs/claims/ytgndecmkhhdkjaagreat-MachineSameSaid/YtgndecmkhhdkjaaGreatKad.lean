import Derived.Test.YtgndecmkhhdkjaaGreatKaa
import Derived.LoopIn
import Derived.LoopNIn
import Derived.OwnWalkIn
import Derived.RangeFuncBound
import Derived.RangeFuncCalls
import Derived.RangeFuncLeaves
import Derived.RangeFuncNested
import Derived.Shelf.Abstract
import Derived.Shelf.RegionOpen
import Derived.TacticsInMore
set_option linter.all false
set_option maxRecDepth 1000000
set_option maxHeartbeats 0
open Go renaming World->Aa,Calls->Ab,Value->Ac
open Go.RowKit renaming Below->Ae
open Go.Value renaming int->I,pointer->Ah,tuple->Ak,agg->Al
open Go.IntKind renaming i64->Z
open Go.Ending renaming returned->O
open Go.World renaming putObj_heap_other->Ad,putObj_heap_same->Aj,alloc_heap_new->af
open Go.IntKind renaming u64->aa
open Go.Proofs.Tryz
open Go.Proofs.Tryz renaming prog->ANa
namespace Go.Proofs.YtgndecmkhhdkjaaGreat
section
open Go.RowKit Go.Shelf Hp
attribute [local go_sem] Oper.semAt_some
def cls:Nat->Nat
 | 0=>4
 | 1=>6
 | 2=>8
 | 3=>12
 | 4=>16
 | 5=>24
 | 6=>32
 | _=>48
def Hf (k:Nat)(h:k<=5):cls (k+2)=2*cls k:=by
 obtain rfl|rfl|rfl|rfl|rfl|rfl:k=0\/k=1\/k=2\/k=3\/k=4\/k=5:=by omega
 all_goals rfl
def He (k:Nat):4<=cls k/\cls k<=48:=by
 unfold cls;split<;>omega
def LH (n k:Nat)(h3:3<=n)(h19:n<=19)(hk:k<=5)(hb:∀ j,j<k->cls j<n)(hc:n<=cls k):cls k=BG n:=by
 obtain rfl|rfl|rfl|rfl|rfl|rfl:k=0\/k=1\/k=2\/k=3\/k=4\/k=5:=by omega
 ·simp only[cls]at *;unfold BG;repeat (first|rw[if_pos (by omega)]|rw[if_neg (by omega)])
 ·have:=hb 0 (by omega);simp only[cls]at *;unfold BG;repeat (first|rw[if_pos (by omega)]|rw[if_neg (by omega)])
 ·have:=hb 1 (by omega);simp only[cls]at *;unfold BG;repeat (first|rw[if_pos (by omega)]|rw[if_neg (by omega)])
 ·have:=hb 2 (by omega);simp only[cls]at *;unfold BG;repeat (first|rw[if_pos (by omega)]|rw[if_neg (by omega)])
 ·have:=hb 3 (by omega);simp only[cls]at *;unfold BG;repeat (first|rw[if_pos (by omega)]|rw[if_neg (by omega)])
 ·have:=hb 4 (by omega);simp only[cls]at *;unfold BG;repeat (first|rw[if_pos (by omega)]|rw[if_neg (by omega)])
def ym {n:Nat}{P:Program}{g:Operand}{ps:Array Tmp}{assign body:Code}{Q:Exit->Act->Aa->Prop}{a:Act}{w:Aa}{gf:Nat}{lb:Array Ac}
  (hg:a.eval g=.func (.func gf) #[] lb)(eg:∀ args w,(callFunc gf args).run P w=.ok (.enter gf args) w)
  (h:∀ (fn:FuncId)(W1:Aa)(R:Loop),W1=(w.alloc (.deferred (some []))).alloc (.loop R)->R={ state:=.ready,pending:=none,fn,tmps:=a.tmps,params:=ps,assign,body,defers:=w.1.size } ->
   CallsIn Fence.wide (n-1) P gf (#[.func (.yield (w.1.size+1)) #[] #[]]++lb) W1 (rangePost Fence.wide n P (w.1.size+1) Q { a with defers:={ target:=.collected w.1.size,args:=#[] }::a.defers })) :
  (Code.rangeFunc g ps assign body).wpIn Fence.wide n P Q a w:=by
 refine wpIn_rangeFunc fun fn _=>?_
 obtain⟨R,hR⟩:∃ R:Loop,R={ state:=.ready,pending:=none,fn,tmps:=a.tmps,params:=ps,assign,body,defers:=w.1.size }:=⟨_,rfl⟩;obtain⟨W1,hW1⟩:=Ja0 ((w.alloc (.deferred (some []))).alloc (.loop R));have hc:=h fn W1 R hW1 hR;refine⟨w.1.size+1,[{ target:=.collected w.1.size,args:=#[] }],W1,{ target:=.fn (.func gf) lb,args:=#[.func (.yield (w.1.size+1)) #[] #[]] },W1,gf,#[.func (.yield (w.1.size+1)) #[] #[]]++lb,W1,?_,?_,?_,?_,?_,?_⟩
 ·rw[hW1,hR];exact run_enterLoop_outer _ _ _ _ _
 ·simp only[resolve,hg]
  simp[go_sem]
 ·intro f' _;trivial
 ·simp[invoke,go_sem,eg]
 ·intro h;cases h
 ·exact hc
def ul {P:Program}{l:Nat}{R:Loop}{W:Aa}{Post:Aa->Prop}(h:W.heap[l]?=some (.loop R))(hr:R.state=.ready)
  (H:∀ W2,W2=W.putObj l (.loop { R with state:=.busy })->W2.heap[l]?=some (.loop { R with state:=.busy })->Post W2) :
  ∃ w2,(Instr.beginRound l).run P W=.ok () w2/\Post w2:=
 ⟨_,run_beginRound h hr,H _ rfl (Aj (Qf.1 h).1)⟩
def RJ {P:Program}{l:Nat}{R:Loop}{W:Aa}{Post:Ending->Aa->Prop}(h:W.heap[l]?=some (.loop { R with state:=.busy }))(hr:R.state=.ready)(hp:R.pending=none)
  (H:∀ W2,W2=W.putObj l (.loop R)->W2.heap[l]?=some (.loop R)->Post (O (.bool true)) W2) :
  ∃ v w2,(Instr.endRound l none).run P W=.ok v w2/\Post (O v) w2:=by
 have e:({ R with state:=.ready,pending:=none }:Loop)=R:=by cases R;simp_all
 refine⟨_,_,run_endRound none h,?_⟩;have h2:=H (W.putObj l (.loop R)) rfl (Aj (Qf.1 h).1);simpa [e] using h2
def H5 {P:Program}{l:Nat}{R:Loop}{W:Aa}{Post:Ending->Aa->Prop}{c:Code}(h:W.heap[l]?=some (.loop { R with state:=.busy }))
  (H:∀ W2,W2=W.putObj l (.loop { R with state:=.done,pending:=some c })->W2.heap[l]?=some (.loop { R with state:=.done,pending:=some c })->Post (O (.bool false)) W2) :
  ∃ v w2,(Instr.endRound l (some c)).run P W=.ok v w2/\Post (O v) w2:=by
 refine⟨_,_,run_endRound (some c) h,?_⟩;have h2:=H (W.putObj l (.loop { R with state:=.done,pending:=some c })) rfl (Aj (Qf.1 h).1);simpa using h2
def dy {P:Program}{l:Nat}{R:Loop}{W:Aa}{Post:Option Code->Aa->Prop}(h:W.heap[l]?=some (.loop R))(hb:R.state≠.busy)
  (H:∀ W2,W2=W.putObj l (.loop { R with state:=.exhausted })->Post R.pending W2):∃ j w4,(Instr.endLoop l).run P W=.ok j w4/\Post j w4:=
 ⟨_,_,run_endLoop h hb,H _ rfl⟩
def An.put {W:Aa}{l b:Nat}{o:Obj}{cs:Array Ac}{t:TypeId}(h:An W b cs t)(hl:b≠l):An (W.putObj l o) b cs t:=h.of_eq (Ad hl)
def FJ {w W:Aa}(h:Ae w w W){l:Nat}(hl:w.1.size<=l)(o:Obj):Ae w w (W.putObj l o):=
 ⟨h.os,h.tape,h.output,by simpa using h.size,fun k hk=>(Ad (by omega)).trans (h.block k hk)⟩
def qos (w:Aa):Ab ANa 223 #[] w fun e w'=>e=O (.func (.func 240) #[] #[])/\w=w':=by
 go_in;go_wp2_with fail;go_ret;exact⟨rfl,rfl⟩
def qo0 (n:Nat) (h3:3<=n) (h19:n<=19) (w:Aa):Ab ANa 189 #[n] w fun e w' =>
  ∃ p:Int,e=O (Ak #[p,I Z (BG n:Nat),true])/\Ae w w w':=by
 refine (callsIn_wide (n:=3)).1 ?_;refine callsIn_of_wp_marks func189 rfl trivial ?_ rfl;simp only[ntmps189,List.size_toArray,Qv,List.length_nil,Nat.reduceAdd,Nat.reduceSub,Array.replicate_succ,Array.replicate_zero,List.push_toArray,List.append_toArray,List.nil_append,List.cons_append];have hg1:decide ((n:Int)<1)=false:=decide_eq_false (by omega)
 have hg2:decide (65536<(n:Int))=false:=decide_eq_false (by omega)
 gi_wp2_with (refine⟨trivial,?_⟩;gi_at_call 223;refine (callsIn_wide.2 (qos _)).mono ?_;rintro e w' ⟨rfl,rfl⟩);obtain⟨W0,hW0⟩:=Ja0 (((w.alloc (.cells #[n] 3)).alloc (.cells #[()] 3)).alloc (.cells #[()] 3));rw[<-hW0];have jN:An W0 w #[n] 3:=by rw[hW0];exact ((An.new w _ _).alloc _).alloc _
 have jP:An W0 (w.1.size+1) #[()] 3:=by rw[hW0];exact (An.Ax _ _ _ _ _ (by simp) rfl).alloc _
 have jS:An W0 (w.1.size+1+1) #[()] 3:=by rw[hW0];exact An.Ax _ _ _ _ _ (by simp) rfl
 have hb0:Ae w w W0:=by rw[hW0];exact qc (qc (qc (Below.refl _ _) _) _) _
 have hz0:W0.1.size=w.1.size+1+1+1:=by rw[hW0];simp
 clear hW0 hg1 hg2;refine ym (gf:=240) (lb:=#[]) rfl (enters_of func240 (by kernel_rfl) rfl) ?_
 intro fn W1 R hW1 hR;obtain⟨D,hD⟩:=Ja0 W0.1.size;have hL:W1.heap[D+1]?=some (.loop R):=by
  rw[hW1,hD];have:=af (W0.alloc (.deferred (some []))) (.loop R);rwa [World.size_alloc]at this
 have hK:W1.heap[D]?=some (.deferred (some [])):=by
  rw[hW1,hD];exact (Below.heap_alloc _ _ _ (by simp)).trans (af W0 _)
 have zZ:An W1 w #[n] 3:=by rw[hW1];exact (jN.alloc _).alloc _
 have qL:An W1 (w.1.size+1) #[()] 3:=by rw[hW1];exact (jP.alloc _).alloc _
 have nG:An W1 (w.1.size+1+1) #[()] 3:=by rw[hW1];exact (jS.alloc _).alloc _
 have hb1:Ae w w W1:=by rw[hW1];exact qc (qc hb0 _) _
 rw[<-hD]at hz0 ⊢;have hz1:w.1.size+3<=D:=by omega
 have HR:=Qa hR;have hRs:R.params.size=2:=by rw[hR];rfl
 have HRS:=Qa hRs;clear jN jP jS hb0 hW1 hD hz0 hR hRs;refine callsIn_of_wp func240 rfl trivial ?_ rfl;simp only[ntmps240,List.size_toArray,Qv,List.length_nil,Nat.reduceAdd,Nat.reduceSub,Array.replicate_succ,Array.replicate_zero,List.push_toArray,List.append_toArray,List.nil_append,List.cons_append,List.append_nil];gi_wp2;gi_loopw [2,3,4] (fun us un up wr=>∃ (k:Nat) (x y:Int),us=I Z (cls k:Nat)/\un=I Z (cls (k+1):Nat)/\up=I Z k/\k<=5/\Q2 (∀ j,j<k->cls j<n)/\wr.heap[D+1]?=some (.loop R)/\wr.heap[D]?=some (.deferred (some [])) /\
   An wr w #[n] 3/\An wr (w.1.size+1) #[x] 3/\An wr (w.1.size+1+1) #[y] 3/\Ae w w wr) (fun _ _ up _=>6-(intOf up).toNat)
 case atStart=>exact⟨0,0,0,rfl,rfl,rfl,by omega,Qa (fun j h=>by omega),hL,hK,zZ,qL,nG,hb1⟩
 case round =>
  clear hL hK zZ qL nG hb1;obtain⟨k,x,y,rfl,rfl,rfl,hk,hcl,hL,hK,jN,jP,jS,hb⟩:=hrel;obtain⟨wo,rfl⟩:=Ja0 wr;have hy:=run_yield (P:=ANa) (args:=#[k,I Z (cls k:Nat)]) hL (by rw[HRS.o];rfl)
  obtain⟨T,hT⟩:=Ja0 ((R.params.zip #[I Z k,I Z (cls k:Nat)]).foldl (fun tmps (t,a)=>tmps.setIfInBounds t a) R.tmps);rw[<-hT]at hy;have HT:=Qa hT;clear hT;have iR:RoundIn Fence.wide 1 ANa (D+1) R.fn T R.assign R.body wo fun e W' =>
    (e=O (.bool true)/\cls k<n/\W'.heap[D+1]?=some (.loop R)/\W'.heap[D]?=some (.deferred (some []))/\An W' w #[n] 3/\An W' (w.1.size+1) #[k] 3/\An W' (w.1.size+1+1) #[I Z (cls k:Nat)] 3/\Ae w w W') \/
    (e=O (.bool false)/\n<=cls k/\W'.heap[D+1]?=some (.loop { R with state:=.done,pending:=some (.exit 0) })/\W'.heap[D]?=some (.deferred (some []))/\An W' (w.1.size+1) #[k] 3/\An W' (w.1.size+1+1) #[I Z (cls k:Nat)] 3/\Ae w w W'):=by
   have hcb:=He k;have oQ:=HT.o;obtain⟨c,hc⟩:=Ja0 (cls k);rw[<-hc]at hcb oQ ⊢;clear hc hy;obtain⟨Post,bV⟩:∃ Post:Ending->Aa->Prop,Post=fun e W' =>
    (e=O (.bool true)/\c<n/\W'.heap[D+1]?=some (.loop R)/\W'.heap[D]?=some (.deferred (some []))/\An W' w #[n] 3/\An W' (w.1.size+1) #[k] 3/\An W' (w.1.size+1+1) #[c] 3/\Ae w w W') \/
    (e=O (.bool false)/\n<=c/\W'.heap[D+1]?=some (.loop { R with state:=.done,pending:=some (.exit 0) })/\W'.heap[D]?=some (.deferred (some []))/\An W' (w.1.size+1) #[k] 3/\An W' (w.1.size+1+1) #[c] 3/\Ae w w W'):=⟨_,rfl⟩
   rw[<-bV,oQ];have dK:=Qa bV;clear bV oQ HT;have hst:R.state=.ready:=by rw[HR.o]
   have hpe:R.pending=none:=by rw[HR.o]
   have HST:=Qa hst;have kM:=Qa hpe;clear hst hpe;rw[HR.o];have pP:=jP.cell;have pS:=jS.cell;have zP:=jP.free 0;have zS:=jS.free 0;refine roundIn_of_wpIn trivial ?_;gi_wp2;obtain⟨w1,hw1⟩:=Ja0 ((wo.setCell ⟨w.1.size+1,0,none⟩ k).setCell ⟨w.1.size+1+1,0,none⟩ c);have e1:∀ b,b≠w.1.size+1->b≠w.1.size+1+1->w1.heap[b]?=wo.heap[b]?:=fun b h1 h2=>by
    rw[hw1];exact (Below.heap_setCell _ _ _ _ h2).trans (Below.heap_setCell _ _ _ _ h1)
   have kN:An w1 w #[n] 3:=jN.of_eq (e1 _ (by omega) (by omega))
   have kP:An w1 (w.1.size+1) #[k] 3:=by rw[hw1];exact (jP.set 0 _).Ao (by show w.1.size+1≠w.1.size+1+1;omega) _
   have kS:An w1 (w.1.size+1+1) #[c] 3:=by rw[hw1];exact (jS.Ao (by show w.1.size+1+1≠w.1.size+1;omega) _).set 0 _
   have kb:Ae w w w1:=by rw[hw1];exact qo (qo hb (by show w.1.size<=w.1.size+1;omega) _) (by show w.1.size<=w.1.size+1+1;omega) _
   have kL:=(e1 (D+1) (by omega) (by omega)).trans hL
   have kK:=(e1 D (by omega) (by omega)).trans hK
   rw[<-hw1];clear hw1 e1 pP pS zP zS jN jP jS hb hL hK;refine ul kL HST.o ?_;intro w2 hw2 kL2;have lN:An w2 w #[n] 3:=by rw[hw2];exact kN.put (by omega)
   have lP:An w2 (w.1.size+1) #[k] 3:=by rw[hw2];exact kP.put (by omega)
   have lS:An w2 (w.1.size+1+1) #[c] 3:=by rw[hw2];exact kS.put (by omega)
   have lb:Ae w w w2:=by rw[hw2];exact FJ kb (by omega) _
   have lK:w2.heap[D]?=some (.deferred (some [])):=by rw[hw2];exact (Ad (by omega)).trans kK
   have cN:w2.cell? ⟨w,0,none⟩=some (I Z n):=lN.cell 0;have cS:w2.cell? ⟨w.1.size+1+1,0,none⟩=some (I Z c):=lS.cell 0;clear hw2 kN kP kS kb kL kK;by_cases hnc:n<=c
   ·have hd:decide ((n:Int)<=(c:Int))=true:=decide_eq_true (by omega)
    gi_wp2;refine H5 kL2 ?_;intro w3 hw3 pV;rw[dK.o];refine .inr ⟨rfl,hnc,pV,?_,?_,?_,?_⟩
    ·rw[hw3];exact (Ad (by omega)).trans lK
    ·rw[hw3];exact lP.put (by omega)
    ·rw[hw3];exact lS.put (by omega)
    ·rw[hw3];exact FJ lb (by omega) _
   ·have hd:decide ((n:Int)<=(c:Int))=false:=decide_eq_false (by omega)
    gi_wp2;refine RJ kL2 HST.o kM.o ?_;intro w3 hw3 pV;rw[dK.o];refine .inl ⟨rfl,by omega,pV,?_,?_,?_,?_,?_⟩
    ·rw[hw3];exact (Ad (by omega)).trans lK
    ·rw[hw3];exact lN.put (by omega)
    ·rw[hw3];exact lP.put (by omega)
    ·rw[hw3];exact lS.put (by omega)
    ·rw[hw3];exact FJ lb (by omega) _
  gi_wp2;refine iR.mono ?_;rintro e w3 (⟨rfl,hlt,mL,mK,mN,mP,mS,mb⟩|⟨rfl,hge,mL,mK,mP,mS,mb⟩)
  ·have hk4:k<=4:=by
    by_cases h5:k=5
    ·subst h5;exact absurd hlt (by simp[cls];omega)
    ·omega
   have hst:=Hf k (by omega)
   have HST:=Qa hst;have hcb:=He k;have HLT:=Qa hlt;clear hst hy hlt;gi_wp2;go_roundw
   case rel =>
    refine⟨k+1,k,cls k,rfl,?_,by simp,by omega,Qa (fun j hj=>?_),mL,mK,mN,mP,mS,mb⟩
    ·rw[show k+1+1=k+2 from rfl,HST.o];simp
    ·by_cases e:j=k
     ·rw[e];exact HLT.o
     ·exact hcl.out j (by omega)
   case measure=>simp[intOf];omega
  ·have hrn:=LH n k h3 h19 hk hcl.out hge
   have HRN:=Qa hrn;clear hrn hy hcl hge;gi_wp2;refine bodyPost_ret (results_none rfl _ _ _) rfl ?_;have hDl:D+1<w3.1.size:=(Qf.1 mL).1;refine dy mL (by simp) ?_
   intro w4 hw4;have oP:An w4 (w.1.size+1) #[k] 3:=by rw[hw4];exact mP.put (by omega)
   have oS:An w4 (w.1.size+1+1) #[I Z (cls k:Nat)] 3:=by rw[hw4];exact mS.put (by omega)
   have ob:Ae w w w4:=by rw[hw4];exact FJ mb (by omega) _
   have oK:w4.heap[D]?=some (.deferred (some [])):=by rw[hw4];exact (Ad (by omega)).trans mK
   have cP:w4.cell? ⟨w.1.size+1,0,none⟩=some (I Z k):=oP.cell 0;have cS:w4.cell? ⟨w.1.size+1+1,0,none⟩=some (I Z (cls k:Nat)):=oS.cell 0;have zP:=oP.free 0;have zS:=oS.free 0;clear hw4 mL mK mP mS mb;have HK:=Qa oK;clear oK;dsimp only;gi_wp2;gi_region;gi_wp2;obtain⟨w5,pO⟩:=Ja0 (((w4.setCell ⟨w.1.size+1,0,none⟩ k).setCell ⟨w.1.size+1+1,0,none⟩ (I Z (cls k:Nat))).drew);have qP:An w5 (w.1.size+1) #[k] 3:=by rw[pO];exact qj ((oP.set 0 _).Ao (by show w.1.size+1≠w.1.size+1+1;omega) _)
   have qS:An w5 (w.1.size+1+1) #[I Z (cls k:Nat)] 3:=by rw[pO];exact qj ((oS.Ao (by show w.1.size+1+1≠w.1.size+1;omega) _).set 0 _)
   have qb:Ae w w w5:=by rw[pO];exact qf (qo (qo ob (by show w.1.size<=w.1.size+1;omega) _) (by show w.1.size<=w.1.size+1+1;omega) _)
   have qK:w5.heap[D]?=some (.deferred (some [])):=by
    rw[pO];exact (Below.heap_setCell _ _ _ _ (by show D≠w.1.size+1+1;omega)).trans ((Below.heap_setCell _ _ _ _ (by show D≠w.1.size+1;omega)).trans HK.o)
   rw[<-pO];refine⟨by simp,.inl ⟨_,_,rfl,run_takeDeferred qK,?_⟩⟩
   have cP5:(w5.putObj D (.deferred none)).cell? ⟨w.1.size+1,0,none⟩=some (I Z k):=(qP.put (by omega)).cell 0
   have cS5:(w5.putObj D (.deferred none)).cell? ⟨w.1.size+1+1,0,none⟩=some (I Z (cls k:Nat)):=(qS.put (by omega)).cell 0
   refine⟨Ak #[k,I Z (cls k:Nat),true],by simp[results,results189,go_sem,cP5,cS5],⟨k,by rw[HRN.o],FJ qb (by omega) _⟩⟩
def m8 (n:Nat)(h3:3<=n)(h19:n<=19)(z:Int)(hz:z=n)(w:Aa):Ab ANa 129 #[z] w fun e w' =>
  e=O (Ak #[I Z (BG n:Nat),true])/\Ae w w w':=by
 subst hz;have H:=Qa (qo0 n h3 h19);go_in;go_wp2_with fail;refine (H.o _).mono ?_
 rintro e w1⟨p,rfl,hb1⟩
 go_wp2_with fail;go_ret2;exact⟨rfl,hb1⟩
end
section
open Go.RowKit Hp
abbrev DN (b s t:Nat):Ac:=Al #[b,s,t]
def Ff (b s t:Nat):Prop:=b<=65536/\s<=65536/\b<=t/\t<=b+s
def KC {b s t:Nat} (h:Ff b s t) (w:Aa):Ab ANa 174 #[DN b s t] w fun e w'=>e=O (DN b s t)/\Ae w w w':=by
 obtain⟨h1,h2,h3,h4⟩:=h;have e1:max (b:Int) 0=b:=by omega
 have e2:min (b:Int) 65536=b:=by omega
 have e3:max (s:Int) 0=s:=by omega
 have e4:min (s:Int) 65536=s:=by omega
 have e5:max (t:Int) (b:Int)=t:=by omega
 have e6:min (t:Int) ((b:Int)+(s:Int))=t:=by omega
 go_in;go_wp2_with fail;refine bodyPost_ret (v:=DN b s t) (by simp[results,results174,go_sem]) rfl ⟨rfl,?_⟩
 repeat (first|exact Below.refl _ _|refine qc ?_ _)
def uk {b s t:Nat}(h:Ff b s t)(w:Aa):Ab ANa 107 #[DN b s t] w fun e w'=>e=O (.bool true)/\Ae w w w':=by
 have H:=Qa (fun w=>KC h w)
 clear h;go_in;obtain⟨w1,hw1⟩:=Ja0 (w.alloc (.cells #[b,s,t] 135));have jA:An w1 w #[b,s,t] 135:=by rw[hw1];exact An.new _ _ _
 have hb:Ae w w w1:=by rw[hw1];exact qc (Below.refl _ _) _
 go_upto_region 1 with fail;rw[<-hw1];clear hw1;have lA:=fun (e:Later w1)(i:Nat)=>Later.cell jA e i
 refine qy (by kernel_rfl) (by kernel_rfl) ?_
 repeat (go_big_quiet_step ((go_at_call 174;exact kv (H.o _))))
 refine wpQuiet_nil ?_
 rintro _⟨⟨wt,hbt⟩,rfl⟩
 clear lA jA;go_wp2_with fail;go_ret;exact⟨rfl,qe hb hbt⟩
def ur {b s t:Nat}(h:Ff b s t)(w:Aa):Ab ANa 119 #[DN b s t] w fun e w'=>e=O (I Z ((t-b:Nat):Int))/\Ae w w w':=by
 have H:=Qa (fun w=>uk h w)
 obtain⟨h1,h2,h3,h4⟩:=h;have e1:((t-b:Nat):Int)=(t:Int)-(b:Int):=by omega
 rw[e1];clear e1;go_in;go_wp2_with fail;refine (H.o _).mono ?_
 rintro e w1⟨rfl,hb1⟩
 have jA:=(An.new w (#[_,_,_]) 135).below hb1 (by simp)
 have cA:=jA.cell;have sA:=jA.lt;have hb:=qe (qc (Below.refl _ _) _) hb1;clear hb1 jA;go_wp2_with fail;go_ret;exact⟨rfl,hb⟩
def Ur {b s t:Nat}(h:Ff b s t)(w:Aa):Ab ANa 99 #[DN b s t] w fun e w'=>e=O (I Z ((b+s-t:Nat):Int))/\Ae w w w':=by
 have H:=Qa (fun w=>uk h w)
 have HU:=Qa (fun w=>ur h w)
 obtain⟨h1,h2,h3,h4⟩:=h;obtain⟨u,hu⟩:=Ja0 (t-b);rw[<-hu]at HU;have e1:((b+s-t:Nat):Int)=(s:Int)-(u:Int):=by omega
 have lC:u<=65536:=by omega
 rw[e1];clear e1 hu;go_in;go_wp2_with fail;refine (H.o _).mono ?_
 rintro e w1⟨rfl,hb1⟩
 have jA:=(An.new w (#[_,_,_]) 135).below hb1 (by simp)
 have cA:=jA.cell;have sA:=jA.lt;have hb:=qe (qc (Below.refl _ _) _) hb1;clear hb1;go_upto_region 3 with fail;have lA:=fun (e:Later w1)(i:Nat)=>Later.cell jA e i
 refine qy (by kernel_rfl) (by kernel_rfl) ?_
 repeat (go_big_quiet_step ((go_at_call 119;exact kv (HU.o _))))
 refine wpQuiet_nil ?_
 rintro _⟨⟨wt,hbt⟩,rfl⟩
 clear lA jA cA sA;go_wp2_with fail;go_ret;exact⟨by simp,qe hb hbt⟩
def WB (b s:Nat)(hb:b<=65536)(hs:s<=65536)(z u:Int)(hz:z=b)(hu:u=s)(w:Aa):Ab ANa 69 #[z,u] w fun e w'=>e=O (Ak #[DN b s b,true])/\Ae w w w':=by
 subst hz hu;have H:=Qa (fun w=>uk (show Ff b s b from ⟨hb,hs,by omega,by omega⟩) w)
 go_in;go_wp2_with fail;refine (H.o _).mono ?_
 rintro e w1 ⟨rfl,hb1⟩
 have jR:=((An.new w (#[_,_,_]) 135).alloc _).below hb1 (by simp;omega)
 have jS:An w1 (w.1.size+1) #[b,s,b] 135:=(An.Ax _ _ _ _ _ (by simp) rfl).below hb1 (by simp)
 have hw1:=qe (qc (qc (Below.refl _ _) _) _) hb1;have cS:=jS.cell;have sS:=jS.lt;have cR:=jR.cell;have zR:=jR.free;have sR:=jR.lt;clear hb1 jS jR;go_wp2_with fail;refine bodyPost_ret (v:=Ak #[DN b s b,true]) (by simp[results,results69,go_sem,cR]) rfl ⟨rfl,?_⟩
 repeat (first|exact hw1|refine qo ?_ (Qk _) _)
def fe {b s t:Nat}(h:Ff b s t)(w:Aa):Ab ANa 118 #[DN b s t] w fun e w'=>e=O (DN b s b)/\Ae w w w':=by
 have H:=Qa (fun w=>uk h w)
 obtain⟨h1,h2,h3,h4⟩:=h;go_in;go_wp2_with fail;refine (H.o _).mono ?_
 rintro e w1 ⟨rfl,hb1⟩
 have jA:=((An.new w (#[_,_,_]) 135).alloc _).below hb1 (by simp;omega)
 have jR:An w1 (w.1.size+1) #[(),(),()] 135:=(An.Ax _ _ _ _ _ (by simp) rfl).below hb1 (by simp)
 have hw1:=qe (qc (qc (Below.refl _ _) _) _) hb1;have cA:=jA.cell;have zA:=jA.free;have sA:=jA.lt;have cR:=jR.cell;have zR:=jR.free;have sR:=jR.lt;clear hb1 jA jR;go_wp2_with fail;refine bodyPost_ret (v:=DN b s b) (by simp[results,results118,go_sem,cR]) rfl ⟨rfl,?_⟩
 repeat (first|exact hw1|refine qo ?_ (by simp) _)
def UE {b s t:Nat}(h:Ff b s t)(n:Nat)(h3:3<=n)(h19:n<=19)(hr:t+BG n<=b+s)(z:Int)(hz:z=n)(w:Aa) :
  Ab ANa 220 #[DN b s t,z] w fun e w'=>e=O (Ak #[DN b s (t+BG n),t,true])/\Ae w w w':=by
 have H:=Qa (fun w=>uk h w)
 have HR:=Qa (fun w=>m8 n h3 h19 z hz w)
 have HL:=Qa (fun w=>Ur h w)
 obtain⟨h1,h2,h4,h5⟩:=h;obtain⟨r,hrr⟩:=Ja0 (BG n);rw[<-hrr]at hr HR ⊢;obtain⟨q,hq⟩:=Ja0 (b+s-t);rw[<-hq]at HL;have hrq:r<=q:=by omega
 have hq2:q<=131072:=by omega
 clear hrr hq hz;go_in;go_wp2_with fail;refine (H.o _).mono ?_
 rintro e w1 ⟨rfl,hb1⟩
 have jA:=((An.new w (#[_,_,_]) 135).alloc _).below hb1 (by simp;omega)
 have jR:An w1 (w.1.size+1) #[(),(),()] 135:=(An.Ax _ _ _ _ _ (by simp) rfl).below hb1 (by simp)
 have hw1:=qe (qc (qc (Below.refl _ _) _) _) hb1;clear hb1;go_wp2_with fail;refine (HR.o _).mono ?_
 rintro e w2 ⟨rfl,hb2⟩
 have mY:=jA.below hb2 jA.lt;have dR:=jR.below hb2 jR.lt;have hw2:=qe hw1 hb2;have cA:=mY.cell;have sA:=mY.lt;clear hb2 jA jR hw1;go_wp2_with fail;refine (HL.o _).mono ?_
 rintro e w3 ⟨rfl,hb3⟩
 have xR:=mY.below hb3 mY.lt;have eX:=dR.below hb3 dR.lt;have hw3:=qe hw2 hb3;clear hb3 mY dR hw2 cA sA;have cA:=xR.cell;have sA:=xR.lt;have zA:=xR.free;have cR:=eX.cell;have zR:=eX.free;have sR:=eX.lt;clear xR eX;go_wp2_with fail;refine bodyPost_ret (v:=Ak #[DN b s (t+r),t,true]) (by simp[results,results220,go_sem,cR]) rfl ⟨rfl,?_⟩
 repeat (first|exact hw3|refine qo ?_ (by simp) _)
structure Ob where
 AL:BQ
 B5:Bool
 second:Nat
 Ap:Nat
 AB:List Nat
 nums:List Int
structure Ob.ok (o:Ob):Prop where
 AL:o.AL.ok
 lp:o.AB.length=o.AL.p
 ln:o.nums.length=o.AL.d
 ptr:∀ x ∈ o.AB,x<=131072
 num:∀ n ∈ o.nums,-9223372036854775808<=n/\n<=9223372036854775807
 Bc:o.Ap<=1099511627776
 sec:o.second<=2199023255552
def Ob.size (o:Ob):Nat:=3+o.AL.p+o.AL.d
structure BE (f:Nat->Nat)(at':Nat)(o:Ob):Prop where
 h0:f at'=head o.AL o.B5
 h1:f (at'+1)=o.second
 h2:f (at'+2)=o.Ap
 hp:∀ (j x:Nat),o.AB[j]?=some x->f (at'+3+j)=x
 hn:∀ (j:Nat)(n:Int),o.nums[j]?=some n->(f (at'+3+o.AL.p+j):Int)=GG n
def Ob.AP {o:Ob}(h:o.ok):3<=o.size/\o.size<=19:=by
 obtain⟨h1,h2,_⟩:=h.AL;unfold Ob.size;omega
variable {w : Aa} {a wd L : Nat} {f : Nat -> Nat} {at' : Nat} {o : Ob}
def wg (h:BR w a wd L f)(z:Int)(i v:Nat)(hz:z=i)(hi:i<L)(hv:f i=v) :
  Ab ANa 130 #[Ah (some ⟨a,0,none⟩),z] w fun e w'=>e=O (Ak #[.int .u64 v,()])/\w=w':=by
 rw[<-hv];exact UT h z i hz hi
def jw (h:BR w a wd L f)(ho:BE f at' o)(hk:o.ok)(hl:at'+o.size<=L)(z:Int)(hz:z=at') :
  Ab ANa 79 #[Ah (some ⟨a,0,none⟩),z] w fun e w'=>e=O (Ak #[ka o.AL,.bool o.B5,()])/\Ae w w w':=by
 have h0:=ho.h0;have hlt:=UX o.AL o.B5 hk.AL;have hS:=fun w=>qly o.AL hk.AL o.B5 w
 have hZ:=fun w=>yj o.AL hk.AL w
 have hs:=Ob.AP hk;have hL9:=h.le;subst hz;unfold Ob.size at hl hs;obtain⟨⟨p,d,wk,fn⟩,fr,se,sr,ps,ns⟩:=o;simp only at h0 hl hs hS hZ hlt;generalize head ⟨p,d,wk,fn⟩ fr=q at *;have H0:=Qa h0;have HS:=Qa hS;have HZ:=Qa hZ;have HW:=Qa h;clear h0 ho hk hS hZ h;go_in;go_wp2_with fail;refine (wg (HW.o.below (qc (qd w) _)) at' at' q rfl (by omega) H0.o).mono ?_
 rintro e w1 ⟨rfl,rfl⟩
 go_wp2_with fail;refine (HS.o _).mono ?_
 rintro e w2 ⟨rfl,hb2⟩
 have jR:An w2 w #[(),(),false,false] 82:=(An.new w _ _).below hb2 (by simp)
 have hw2:=qe (qc (qd w) _) hb2;have cR:=jR.cell;have zR:=jR.free;have sR:=jR.lt;clear hb2;go_wp2_with fail;refine (HZ.o _).mono ?_
 rintro e w3 ⟨rfl,hb3⟩
 have eX:An w3 w #[p,d,wk,fn] 82:=((((jR.set 0 _).set 1 _).set 2 _).set 3 _).below hb3 (by simp;omega)
 have hw3:Ae w w w3:=qe (qo (qo (qo (qo hw2 (Qk _) _) (Qk _) _) (Qk _) _) (Qk _) _) hb3;clear hb3 cR zR sR jR hw2;have cR:=eX.cell;have zR:=eX.free;have sR:=eX.lt;have hlI:(at':Int)+3+(p:Int)+(d:Int)<=(L:Int):=by omega
 clear eX;go_wp2_with fail;refine (ss (HW.o.below hw3)).mono ?_
 rintro e w4 ⟨rfl,rfl⟩
 go_wp2_with fail;refine bodyPost_ret (v:=Ak #[ka ⟨p,d,wk,fn⟩,fr,()]) (by simp[results,results79,go_sem,cR]) rfl ⟨rfl,?_⟩
 repeat (first|exact hw3|refine qo ?_ (Qk _) _)
def bc (h:BR w a wd L f)(ho:BE f at' o)(hk:o.ok)(hl:at'+o.size<=L)(z:Int)(hz:z=at') :
  Ab ANa 80 #[Ah (some ⟨a,0,none⟩),z] w fun e w'=>e=O (Ak #[o.Ap,()])/\Ae w w w':=by
 have hs:=Ob.AP hk;have hL9:=h.le;have hq:=hk.Bc;have HS:=Qa (jw h ho hk hl z hz);have H2:=Qa ho.h2;have HW:=Qa h;subst hz;clear ho h hk;generalize o.Ap=q at *;go_in;go_wp2_with fail;refine HS.o.mono ?_
 rintro e w1 ⟨rfl,hb1⟩
 go_wp2_with fail;refine (wg (HW.o.below (qc hb1 _)) _ (at'+2) q (by omega) (by omega) H2.o).mono ?_
 rintro e w2 ⟨rfl,rfl⟩
 go_wp2_with fail;go_ret2;exact⟨rfl,qc hb1 _⟩
def qjj (h:BR w a wd L f)(ho:BE f at' o)(hk:o.ok)(hl:at'+o.size<=L)(z:Int)(hz:z=at') :
  Ab ANa 226 #[Ah (some ⟨a,0,none⟩),z] w fun e w'=>e=O (Ak #[.int .u64 o.second,()])/\Ae w w w':=by
 have hs:=Ob.AP hk;have hL9:=h.le;have HS:=Qa (jw h ho hk hl z hz);have H2:=Qa ho.h1;have HW:=Qa h;subst hz;clear ho h hk;generalize o.second=q at *;go_in;go_wp2_with fail;refine HS.o.mono ?_
 rintro e w1 ⟨rfl,hb1⟩
 go_wp2_with fail;refine (wg (HW.o.below (qc hb1 _)) _ (at'+1) q (by omega) (by omega) H2.o).mono ?_
 rintro e w2 ⟨rfl,rfl⟩
 go_wp2_with fail;go_ret2;exact⟨rfl,qc hb1 _⟩
def YC (s:BQ)(hs:s.ok)(at' i:Nat)(ha:at'<=65536)(hi:i<s.p)(w:Aa) :
  Ab ANa 216 #[ka s,at',i] w fun e w'=>e=O (Ak #[I Z ((at'+3+i:Nat):Int),()])/\Ae w w w':=by
 obtain⟨h1,h2,_⟩:=hs;obtain⟨p,d,wk,fn⟩:=s;simp only at h1 h2 hi;go_in;go_wp2_with fail;go_ret2;exact⟨by simp,qc (qd w) _⟩
def X2 (s:BQ)(hs:s.ok)(at' i:Nat)(hi:s.p<=i)(w:Aa) :
  Ab ANa 216 #[ka s,at',i] w fun e w'=>e=O (Ak #[(),I Z 71])/\Ae w w w':=by
 obtain⟨h1,h2,_⟩:=hs;obtain⟨p,d,wk,fn⟩:=s;simp only at h1 h2 hi;go_in;go_wp2_with fail;go_ret2;exact⟨rfl,qc (qd w) _⟩
def YM (s:BQ)(hs:s.ok)(at' i:Nat)(ha:at'<=65536)(hi:i<s.d)(w:Aa) :
  Ab ANa 232 #[ka s,at',i] w fun e w'=>e=O (Ak #[I Z ((at'+3+s.p+i:Nat):Int),()])/\Ae w w w':=by
 obtain⟨h1,h2,_⟩:=hs;obtain⟨p,d,wk,fn⟩:=s;simp only at h1 h2 hi ⊢;go_in;go_wp2_with fail;go_ret2;exact⟨by simp,qc (qd w) _⟩
def Ye (s:BQ)(hs:s.ok)(at' i:Nat)(hi:s.d<=i)(w:Aa) :
  Ab ANa 232 #[ka s,at',i] w fun e w'=>e=O (Ak #[(),I Z 71])/\Ae w w w':=by
 obtain⟨h1,h2,_⟩:=hs;obtain⟨p,d,wk,fn⟩:=s;simp only at h1 h2 hi;go_in;go_wp2_with fail;go_ret2;exact⟨rfl,qc (qd w) _⟩
def xp (h:BR w a wd L f)(ho:BE f at' o)(hk:o.ok)(hl:at'+o.size<=L)(i:Nat)(g:Nat)(r e':Int)
  (hg:∀ w,Ab ANa g #[ka o.AL,at',i] w fun e w'=>e=O (Ak #[r,e'])/\Ae w w w')
  (eg:∀ args w,(callFunc g args).run ANa w=.ok (.enter g args) w) :
  Ab ANa 215 #[Ah (some ⟨a,0,none⟩),at',i,.func (.func g) #[] #[]] w fun e w'=>e=O (Ak #[r,e'])/\Ae w w w':=by
 have HS:=Qa (jw h ho hk hl at' rfl);obtain⟨⟨p,d,wk,fn⟩,fr,se,sr,ps,ns⟩:=o;have HG:=Qa hg;simp only at HS HG;clear ho h hk hl hg;go_in;go_wp2_with fail;refine HS.o.mono ?_
 rintro e w1 ⟨rfl,hb1⟩
 go_wp2_with fail;refine (HG.o _).mono ?_
 rintro e w2 ⟨rfl,hb2⟩
 go_wp2_with fail;go_ret2;exact⟨rfl,qe (qc hb1 _) hb2⟩
def G7 (k:Nat)(h:2*k<18446744073709551616):bits BinOp.and aa ((2*k:Nat):Int) 1=0:=by
 rw[show (1:Int)=((1:Nat):Int) from rfl,QK _ 1 h (by omega),Nat.and_one_is_mod,show 2*k%2=0 from by omega];rfl
def Ly (k:Nat)(h:2*k+1<18446744073709551616):bits BinOp.and aa ((2*k+1:Nat):Int) 1=1:=by
 rw[show (1:Int)=((1:Nat):Int) from rfl,QK _ 1 h (by omega),Nat.and_one_is_mod,show (2*k+1)%2=1 from by omega]
def PI (k:Nat)(h:2*k+1<18446744073709551616):bits BinOp.or aa ((2*k:Nat):Int) 1=((2*k+1:Nat):Int):=by
 rw[show (1:Int)=((1:Nat):Int) from rfl,QM _ 1 (by omega) (by omega),Nat.or_comm,RP 1 k 1 (by omega),Nat.add_comm]
def Nh (v:Nat)(n:Int)(hv:(v:Int)=GG n)(hn:-9223372036854775808<=n/\n<=9223372036854775807)(w:Aa) :
  Ab ANa 233 #[.int .u64 v] w fun e w'=>e=O n/\w=w':=by
 unfold GG at hv;split at hv
 ·rename_i h0
  obtain⟨k,rfl⟩:∃ k:Nat,n=k:=⟨n.toNat,by omega⟩
  obtain rfl:v=2*k:=by omega
  have hb:=G7 k (by omega)
  have e1:((2*k:Nat):Int)/2=(k:Int):=by omega
  obtain⟨q,hq⟩:∃ q:Int,q=((2*k:Nat):Int):=⟨_,rfl⟩;rw[<-hq]at hb e1 ⊢;have hq0:0<=q:=by omega
  have hq1:q<=18446744073709551615:=by omega
  have hk1:(k:Int)<=9223372036854775807:=by omega
  clear hq hv h0;go_in;go_wp2_with fail;go_ret;exact⟨rfl,rfl⟩
 ·rename_i h0
  obtain⟨k,hk⟩:∃ k:Nat,-n-1=k:=⟨(-n-1).toNat,by omega⟩
  obtain rfl:n=-(k:Int)-1:=by omega
  obtain rfl:v=2*k+1:=by omega
  have hb:=Ly k (by omega)
  have e1:((2*k+1:Nat):Int)/2=(k:Int):=by omega
  obtain⟨q,hq⟩:∃ q:Int,q=((2*k+1:Nat):Int):=⟨_,rfl⟩;rw[<-hq]at hb e1 ⊢;have hq0:0<=q:=by omega
  have hq1:q<=18446744073709551615:=by omega
  have hk1:(k:Int)<=9223372036854775807:=by omega
  clear hq hv h0 hk;go_in;go_wp2_with fail;go_ret;exact⟨rfl,rfl⟩
def Ni (n:Int)(hn:-9223372036854775808<=n/\n<=9223372036854775807)(w:Aa) :
  Ab ANa 234 #[n] w fun e w'=>e=O (.int .u64 (GG n))/\w=w':=by
 obtain⟨hn1,hn2⟩:=hn;unfold GG;by_cases h0:0<=n
 ·rw[if_pos h0]
  go_in;go_wp2_with fail;go_ret;exact⟨nf (show n*2=2*n by omega),rfl⟩
 ·rw[if_neg h0]
  obtain⟨k,hk⟩:∃ k:Nat,-n-1=k:=⟨(-n-1).toNat,by omega⟩
  have ho:=PI k (by omega)
  have hlt:n<0:=by omega
  have hk':=Qa hk;have HO:=Qa ho;clear ho hk h0;go_in;go_wp2_with fail;go_ret;have e1:-(n+1)*2=((2*k:Nat):Int):=by have:=hk'.o;omega
  refine⟨nf (show bits BinOp.or aa (-(n+1)*2) 1=-2*n-1 from ?_),rfl⟩;rw[e1,HO.o];have:=hk'.o;omega
variable {w : Aa} {a wd L : Nat} {f : Nat -> Nat} {at' : Nat} {o : Ob}
def Ta (args:Array Ac)(w:Aa):(callFunc 216 args).run ANa w=.ok (.enter 216 args) w:=enters_of func216 (by kernel_rfl) rfl args w
def Td (args:Array Ac)(w:Aa):(callFunc 232 args).run ANa w=.ok (.enter 232 args) w:=enters_of func232 (by kernel_rfl) rfl args w
def Ob.room (hk:o.ok)(hl:at'+o.size<=L)(h:BR w a wd L f):at'<=65536:=by
 have:=h.le;have:=(Ob.AP hk).1;omega
def ce (h:BR w a wd L f)(ho:BE f at' o)(hk:o.ok)(hl:at'+o.size<=L)(i x:Nat)(hx:o.AB[i]?=some x)(z u:Int)(hz:z=at')(hu:u=i) :
  Ab ANa 171 #[Ah (some ⟨a,0,none⟩),z,u] w fun e w'=>e=O (Ak #[x,()])/\Ae w w w':=by
 have hi:i<o.AL.p:=by rw[<-hk.lp];exact (Qc.1 hx).1
 have hx1:=hk.ptr x (Qe hx);have HF:=Qa (xp h ho hk hl i _ _ _ (fun w=>YC o.AL hk.AL at' i (Ob.room hk hl h) hi w) Ta)
 have hs:at'+3+i<L:=by unfold Ob.size at hl;omega
 have H2:=Qa (ho.hp i x hx);have HW:=Qa h;subst hz hu;clear ho h hk hl hx hi;go_in;go_wp2_with fail;refine HF.o.mono ?_
 rintro e w1 ⟨rfl,hb1⟩
 go_wp2_with fail;refine (wg (HW.o.below hb1) _ (at'+3+i) x (by omega) hs H2.o).mono ?_
 rintro e w2 ⟨rfl,rfl⟩
 go_wp2_with fail;go_ret2;exact⟨rfl,hb1⟩
def ME (h:BR w a wd L f)(ho:BE f at' o)(hk:o.ok)(hl:at'+o.size<=L)(i:Nat)(hi:o.AL.p<=i)(z u:Int)(hz:z=at')(hu:u=i) :
  Ab ANa 171 #[Ah (some ⟨a,0,none⟩),z,u] w fun e w'=>e=O (Ak #[(),I Z 71])/\Ae w w w':=by
 have HF:=Qa (xp h ho hk hl i _ _ _ (fun w=>X2 o.AL hk.AL at' i hi w) Ta)
 subst hz hu;clear ho h hk hl hi;go_in;go_wp2_with fail;refine HF.o.mono ?_
 rintro e w1 ⟨rfl,hb1⟩
 go_wp2_with fail;go_ret2;exact⟨rfl,hb1⟩
def X8 (h:BR w a wd L f)(ho:BE f at' o)(hk:o.ok)(hl:at'+o.size<=L)(i:Nat)(n:Int)(hx:o.nums[i]?=some n)(z u:Int)(hz:z=at')(hu:u=i) :
  Ab ANa 208 #[Ah (some ⟨a,0,none⟩),z,u] w fun e w'=>e=O (Ak #[n,()])/\Ae w w w':=by
 have hi:i<o.AL.d:=by rw[<-hk.ln];exact (Qc.1 hx).1
 have hx1:=hk.num n (Qe hx);have HF:=Qa (xp h ho hk hl i _ _ _ (fun w=>YM o.AL hk.AL at' i (Ob.room hk hl h) hi w) Td)
 have hs:at'+3+o.AL.p+i<L:=by unfold Ob.size at hl;omega
 have H2:=Qa (ho.hn i n hx);have HX:=Qa hx1;have HW:=Qa h;generalize o.AL.p=p at *;subst hz hu;clear ho h hk hl hx hi hx1;go_in;go_wp2_with fail;refine HF.o.mono ?_
 rintro e w1 ⟨rfl,hb1⟩
 go_wp2_with fail;refine (wg (HW.o.below hb1) _ (at'+3+p+i) _ (by omega) hs rfl).mono ?_
 rintro e w2 ⟨rfl,rfl⟩
 go_wp2_with fail;refine (Nh _ n H2.o HX.o _).mono ?_
 rintro e w2 ⟨rfl,rfl⟩
 go_wp2_with fail;go_ret2;exact⟨rfl,hb1⟩
def MD (h:BR w a wd L f)(ho:BE f at' o)(hk:o.ok)(hl:at'+o.size<=L)(i:Nat)(hi:o.AL.d<=i)(z u:Int)(hz:z=at')(hu:u=i) :
  Ab ANa 208 #[Ah (some ⟨a,0,none⟩),z,u] w fun e w'=>e=O (Ak #[(),I Z 71])/\Ae w w w':=by
 have HF:=Qa (xp h ho hk hl i _ _ _ (fun w=>Ye o.AL hk.AL at' i hi w) Td)
 subst hz hu;clear ho h hk hl hi;go_in;go_wp2_with fail;refine HF.o.mono ?_
 rintro e w1 ⟨rfl,hb1⟩
 go_wp2_with fail;go_ret2;exact⟨rfl,hb1⟩
