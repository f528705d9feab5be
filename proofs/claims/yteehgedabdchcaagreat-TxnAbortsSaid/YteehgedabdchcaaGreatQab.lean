import Derived.Test.YteehgedabdchcaaGreatQaa
import Derived.LoopIn
import Derived.LoopNIn
import Derived.OwnWalkIn
import Derived.RangeFuncBound
import Derived.RangeFuncCalls
import Derived.RangeFuncLeaves
import Derived.RangeFuncNested
import Derived.Shelf.Abstract
import Derived.Shelf.RegionOpen
import Derived.TacticsInMore
set_option linter.all false
set_option maxRecDepth 1000000
set_option maxHeartbeats 16000000
namespace Go.Proofs.YteehgedabdchcaaGreat
open Go.RowKit Go.Shelf Hp
attribute [local go_sem] Oper.semAt_some
def cls:Nat→Nat
 | 0=>4
 | 1=>6
 | 2=>8
 | 3=>12
 | 4=>16
 | 5=>24
 | 6=>32
 | _=>48
theorem cls_step (k:Nat)(h:k≤5):cls (k+2)=2*cls k:=by
 obtain rfl|rfl|rfl|rfl|rfl|rfl:k=0∨k=1∨k=2∨k=3∨k=4∨k=5:=by omega
 all_goals rfl
theorem cls_bd (k:Nat):4≤cls k∧cls k≤48:=by
 unfold cls;split<;>omega
theorem cls_rnd (n k:Nat)(h3:3≤n)(h19:n≤19)(hk:k≤5)(hb:∀ j,j<k→cls j<n)(hc:n≤cls k):cls k=rnd n:=by
 obtain rfl|rfl|rfl|rfl|rfl|rfl:k=0∨k=1∨k=2∨k=3∨k=4∨k=5:=by omega
 ·simp only[cls]at *;unfold rnd;repeat (first|rw[if_pos (by omega)]|rw[if_neg (by omega)])
 ·have:=hb 0 (by omega);simp only[cls]at *;unfold rnd;repeat (first|rw[if_pos (by omega)]|rw[if_neg (by omega)])
 ·have:=hb 1 (by omega);simp only[cls]at *;unfold rnd;repeat (first|rw[if_pos (by omega)]|rw[if_neg (by omega)])
 ·have:=hb 2 (by omega);simp only[cls]at *;unfold rnd;repeat (first|rw[if_pos (by omega)]|rw[if_neg (by omega)])
 ·have:=hb 3 (by omega);simp only[cls]at *;unfold rnd;repeat (first|rw[if_pos (by omega)]|rw[if_neg (by omega)])
 ·have:=hb 4 (by omega);simp only[cls]at *;unfold rnd;repeat (first|rw[if_pos (by omega)]|rw[if_neg (by omega)])
theorem range_outer {n:Nat}{P:Program}{g:Operand}{ps:Array Tmp}{assign body:Code}{Q:Exit→Act→World→Prop}{a:Act}{w:World}{gf:Nat}{lb:Array Value}
  (hg:a.eval g=.func (.func gf) #[] lb)(eg:∀ args w,(callFunc gf args).run P w=.ok (.enter gf args) w)
  (h:∀ (fn:FuncId)(W1:World)(R:Loop),W1=(w.alloc (.deferred (some []))).alloc (.loop R)→R={ state:=.ready,pending:=none,fn,tmps:=a.tmps,params:=ps,assign,body,defers:=w.heap.size } →
   CallsIn Fence.wide (n-1) P gf (#[.func (.yield (w.heap.size+1)) #[] #[]]++lb) W1 (rangePost Fence.wide n P (w.heap.size+1) Q { a with defers:={ target:=.collected w.heap.size,args:=#[] }::a.defers })) :
  (Code.rangeFunc g ps assign body).wpIn Fence.wide n P Q a w:=by
 refine wpIn_rangeFunc fun fn _=>?_
 obtain⟨R,hR⟩:∃ R:Loop,R={ state:=.ready,pending:=none,fn,tmps:=a.tmps,params:=ps,assign,body,defers:=w.heap.size }:=⟨_,rfl⟩;obtain⟨W1,hW1⟩:∃ W1,W1=(w.alloc (.deferred (some []))).alloc (.loop R):=⟨_,rfl⟩;have hc:=h fn W1 R hW1 hR;refine⟨w.heap.size+1,[{ target:=.collected w.heap.size,args:=#[] }],W1,{ target:=.fn (.func gf) lb,args:=#[.func (.yield (w.heap.size+1)) #[] #[]] },W1,gf,#[.func (.yield (w.heap.size+1)) #[] #[]]++lb,W1,?_,?_,?_,?_,?_,?_⟩
 ·rw[hW1,hR];exact run_enterLoop_outer _ _ _ _ _
 ·simp only[resolve,hg]
  simp[go_sem]
 ·intro f' _;trivial
 ·simp[invoke,go_sem,eg]
 ·intro h;cases h
 ·exact hc
theorem begin_then {P:Program}{l:Nat}{R:Loop}{W:World}{Post:World→Prop}(h:W.heap[l]?=some (.loop R))(hr:R.state=.ready)
  (H:∀ W2,W2=W.putObj l (.loop { R with state:=.busy })→W2.heap[l]?=some (.loop { R with state:=.busy })→Post W2) :
  ∃ w2,(Instr.beginRound l).run P W=.ok () w2∧Post w2:=
 ⟨_,run_beginRound h hr,H _ rfl (World.putObj_heap_same (Array.getElem?_eq_some_iff.1 h).1)⟩
theorem end_go {P:Program}{l:Nat}{R:Loop}{W:World}{Post:Ending→World→Prop}(h:W.heap[l]?=some (.loop { R with state:=.busy }))(hr:R.state=.ready)(hp:R.pending=none)
  (H:∀ W2,W2=W.putObj l (.loop R)→W2.heap[l]?=some (.loop R)→Post (.returned (.bool true)) W2) :
  ∃ v w2,(Instr.endRound l none).run P W=.ok v w2∧Post (.returned v) w2:=by
 have e:({ R with state:=.ready,pending:=none }:Loop)=R:=by cases R;simp_all
 refine⟨_,_,run_endRound none h,?_⟩;have h2:=H (W.putObj l (.loop R)) rfl (World.putObj_heap_same (Array.getElem?_eq_some_iff.1 h).1);simpa [e] using h2
theorem end_stop {P:Program}{l:Nat}{R:Loop}{W:World}{Post:Ending→World→Prop}{c:Code}(h:W.heap[l]?=some (.loop { R with state:=.busy }))
  (H:∀ W2,W2=W.putObj l (.loop { R with state:=.done,pending:=some c })→W2.heap[l]?=some (.loop { R with state:=.done,pending:=some c })→Post (.returned (.bool false)) W2) :
  ∃ v w2,(Instr.endRound l (some c)).run P W=.ok v w2∧Post (.returned v) w2:=by
 refine⟨_,_,run_endRound (some c) h,?_⟩;have h2:=H (W.putObj l (.loop { R with state:=.done,pending:=some c })) rfl (World.putObj_heap_same (Array.getElem?_eq_some_iff.1 h).1);simpa using h2
theorem loop_end {P:Program}{l:Nat}{R:Loop}{W:World}{Post:Option Code→World→Prop}(h:W.heap[l]?=some (.loop R))(hb:R.state≠.busy)
  (H:∀ W2,W2=W.putObj l (.loop { R with state:=.exhausted })→Post R.pending W2):∃ j w4,(Instr.endLoop l).run P W=.ok j w4∧Post j w4:=
 ⟨_,_,run_endLoop h hb,H _ rfl⟩
theorem Blk.put {W:World}{l b:Nat}{o:Obj}{cs:Array Value}{t:TypeId}(h:Blk W b cs t)(hl:b≠l):Blk (W.putObj l o) b cs t:=h.of_eq (World.putObj_heap_other hl)
theorem bput {w W:World}(h:Below w.heap.size w W){l:Nat}(hl:w.heap.size≤l)(o:Obj):Below w.heap.size w (W.putObj l o):=
 ⟨h.os,h.tape,h.output,by simpa using h.size,fun k hk=>(World.putObj_heap_other (by omega)).trans (h.block k hk)⟩
theorem sizes_any (w:World):Calls Tryz.prog 272 #[] w fun e w'=>e=.returned (.func (.func 284) #[] #[])∧w=w':=by
 go_enter Tryz.func272,Tryz.ntmps272;go_wp2_with fail;go_ret;exact⟨rfl,rfl⟩
theorem least_any (n:Nat) (h3:3≤n) (h19:n≤19) (w:World):Calls Tryz.prog 244 #[.int .i64 n] w fun e w' =>
  ∃ p:Int,e=.returned (.tuple #[.int .i64 p,.int .i64 (rnd n:Nat),.bool true])∧Below w.heap.size w w':=by
 refine (callsIn_wide (n:=3)).1 ?_;refine callsIn_of_wp_marks Tryz.func244 rfl trivial ?_ rfl;simp only[Tryz.ntmps244,List.size_toArray,List.length_cons,List.length_nil,Nat.reduceAdd,Nat.reduceSub,Array.replicate_succ,Array.replicate_zero,List.push_toArray,List.append_toArray,List.nil_append,List.cons_append];have hg1:decide ((n:Int)<1)=false:=decide_eq_false (by omega)
 have hg2:decide (65536<(n:Int))=false:=decide_eq_false (by omega)
 gi_wp2_with (refine⟨trivial,?_⟩;gi_at_call 272;refine (callsIn_wide.2 (sizes_any _)).mono ?_;rintro e w' ⟨rfl,rfl⟩);obtain⟨W0,hW0⟩:∃ W0,W0=((w.alloc (.cells #[.int .i64 n] 3)).alloc (.cells #[.int .i64 0] 3)).alloc (.cells #[.int .i64 0] 3):=⟨_,rfl⟩;rw[←hW0];have jN:Blk W0 w.heap.size #[.int .i64 n] 3:=by rw[hW0];exact ((Blk.new w _ _).alloc _).alloc _
 have jP:Blk W0 (w.heap.size+1) #[.int .i64 0] 3:=by rw[hW0];exact (Blk.new_at _ _ _ _ _ (by simp) rfl).alloc _
 have jS:Blk W0 (w.heap.size+1+1) #[.int .i64 0] 3:=by rw[hW0];exact Blk.new_at _ _ _ _ _ (by simp) rfl
 have hb0:Below w.heap.size w W0:=by rw[hW0];exact balloc (balloc (balloc (Below.refl _ _) _) _) _
 have hz0:W0.heap.size=w.heap.size+1+1+1:=by rw[hW0];simp
 clear hW0 hg1 hg2;refine range_outer (gf:=284) (lb:=#[]) rfl (enters_of Tryz.func284 (by kernel_rfl) rfl) ?_
 intro fn W1 R hW1 hR;obtain⟨D,hD⟩:∃ D,D=W0.heap.size:=⟨_,rfl⟩;have hL:W1.heap[D+1]?=some (.loop R):=by
  rw[hW1,hD];have:=World.alloc_heap_new (W0.alloc (.deferred (some []))) (.loop R);rwa [World.size_alloc]at this
 have hK:W1.heap[D]?=some (.deferred (some [])):=by
  rw[hW1,hD];exact (Below.heap_alloc _ _ _ (by simp)).trans (World.alloc_heap_new W0 _)
 have jN1:Blk W1 w.heap.size #[.int .i64 n] 3:=by rw[hW1];exact (jN.alloc _).alloc _
 have jP1:Blk W1 (w.heap.size+1) #[.int .i64 0] 3:=by rw[hW1];exact (jP.alloc _).alloc _
 have jS1:Blk W1 (w.heap.size+1+1) #[.int .i64 0] 3:=by rw[hW1];exact (jS.alloc _).alloc _
 have hb1:Below w.heap.size w W1:=by rw[hW1];exact balloc (balloc hb0 _) _
 rw[←hD]at hz0 ⊢;have hz1:w.heap.size+3≤D:=by omega
 have HR:=Lib.hid hR;have hRs:R.params.size=2:=by rw[hR];rfl
 have HRS:=Lib.hid hRs;clear jN jP jS hb0 hW1 hD hz0 hR hRs;refine callsIn_of_wp Tryz.func284 rfl trivial ?_ rfl;simp only[Tryz.ntmps284,List.size_toArray,List.length_cons,List.length_nil,Nat.reduceAdd,Nat.reduceSub,Array.replicate_succ,Array.replicate_zero,List.push_toArray,List.append_toArray,List.nil_append,List.cons_append,List.append_nil];gi_wp2;gi_loopw [2,3,4] (fun us un up wr=>∃ (k:Nat) (x y:Int),us=.int .i64 (cls k:Nat)∧un=.int .i64 (cls (k+1):Nat)∧up=.int .i64 k∧k≤5∧Hid (∀ j,j<k→cls j<n)∧wr.heap[D+1]?=some (.loop R)∧wr.heap[D]?=some (.deferred (some [])) ∧
   Blk wr w.heap.size #[.int .i64 n] 3∧Blk wr (w.heap.size+1) #[.int .i64 x] 3∧Blk wr (w.heap.size+1+1) #[.int .i64 y] 3∧Below w.heap.size w wr) (fun _ _ up _=>6-(intOf up).toNat)
 case atStart=>exact⟨0,0,0,rfl,rfl,rfl,by omega,Lib.hid (fun j h=>by omega),hL,hK,jN1,jP1,jS1,hb1⟩
 case round =>
  clear hL hK jN1 jP1 jS1 hb1;obtain⟨k,x,y,rfl,rfl,rfl,hk,hcl,hL,hK,jN,jP,jS,hb⟩:=hrel;obtain⟨wo,rfl⟩:∃ wo:World,wo=wr:=⟨_,rfl⟩;have hy:=run_yield (P:=Tryz.prog) (args:=#[.int .i64 k,.int .i64 (cls k:Nat)]) hL (by rw[HRS.out];rfl)
  obtain⟨T,hT⟩:∃ T,T=(R.params.zip #[.int .i64 k,.int .i64 (cls k:Nat)]).foldl (fun tmps (t,a)=>tmps.setIfInBounds t a) R.tmps:=⟨_,rfl⟩
  rw[←hT]at hy;have HT:=Lib.hid hT;clear hT;have hRd:RoundIn Fence.wide 1 Tryz.prog (D+1) R.fn T R.assign R.body wo fun e W' =>
    (e=.returned (.bool true)∧cls k<n∧W'.heap[D+1]?=some (.loop R)∧W'.heap[D]?=some (.deferred (some []))∧Blk W' w.heap.size #[.int .i64 n] 3∧Blk W' (w.heap.size+1) #[.int .i64 k] 3∧Blk W' (w.heap.size+1+1) #[.int .i64 (cls k:Nat)] 3∧Below w.heap.size w W') ∨
    (e=.returned (.bool false)∧n≤cls k∧W'.heap[D+1]?=some (.loop { R with state:=.done,pending:=some (.exit 0) })∧W'.heap[D]?=some (.deferred (some []))∧Blk W' (w.heap.size+1) #[.int .i64 k] 3∧Blk W' (w.heap.size+1+1) #[.int .i64 (cls k:Nat)] 3∧Below w.heap.size w W'):=by
   have hcb:=cls_bd k;have hTT:=HT.out;obtain⟨c,hc⟩:∃ c,c=cls k:=⟨_,rfl⟩;rw[←hc]at hcb hTT ⊢;clear hc hy;obtain⟨Post,hPost⟩:∃ Post:Ending→World→Prop,Post=fun e W' =>
    (e=.returned (.bool true)∧c<n∧W'.heap[D+1]?=some (.loop R)∧W'.heap[D]?=some (.deferred (some []))∧Blk W' w.heap.size #[.int .i64 n] 3∧Blk W' (w.heap.size+1) #[.int .i64 k] 3∧Blk W' (w.heap.size+1+1) #[.int .i64 c] 3∧Below w.heap.size w W') ∨
    (e=.returned (.bool false)∧n≤c∧W'.heap[D+1]?=some (.loop { R with state:=.done,pending:=some (.exit 0) })∧W'.heap[D]?=some (.deferred (some []))∧Blk W' (w.heap.size+1) #[.int .i64 k] 3∧Blk W' (w.heap.size+1+1) #[.int .i64 c] 3∧Below w.heap.size w W'):=⟨_,rfl⟩
   rw[←hPost,hTT];have HPost:=Lib.hid hPost;clear hPost hTT HT;have hst:R.state=.ready:=by rw[HR.out]
   have hpe:R.pending=none:=by rw[HR.out]
   have HST:=Lib.hid hst;have HPE:=Lib.hid hpe;clear hst hpe;rw[HR.out];have pP:=jP.cell;have pS:=jS.cell;have zP:=jP.free 0;have zS:=jS.free 0;refine roundIn_of_wpIn trivial ?_;gi_wp2;obtain⟨w1,hw1⟩:∃ w1,w1=(wo.setCell ⟨w.heap.size+1,0,none⟩ (.int .i64 k)).setCell ⟨w.heap.size+1+1,0,none⟩ (.int .i64 c):=⟨_,rfl⟩;have e1:∀ b,b≠w.heap.size+1→b≠w.heap.size+1+1→w1.heap[b]?=wo.heap[b]?:=fun b h1 h2=>by
    rw[hw1];exact (Below.heap_setCell _ _ _ _ h2).trans (Below.heap_setCell _ _ _ _ h1)
   have kN:Blk w1 w.heap.size #[.int .i64 n] 3:=jN.of_eq (e1 _ (by omega) (by omega))
   have kP:Blk w1 (w.heap.size+1) #[.int .i64 k] 3:=by rw[hw1];exact (jP.set 0 _).set_other (by show w.heap.size+1≠w.heap.size+1+1;omega) _
   have kS:Blk w1 (w.heap.size+1+1) #[.int .i64 c] 3:=by rw[hw1];exact (jS.set_other (by show w.heap.size+1+1≠w.heap.size+1;omega) _).set 0 _
   have kb:Below w.heap.size w w1:=by rw[hw1];exact bset (bset hb (by show w.heap.size≤w.heap.size+1;omega) _) (by show w.heap.size≤w.heap.size+1+1;omega) _
   have kL:=(e1 (D+1) (by omega) (by omega)).trans hL
   have kK:=(e1 D (by omega) (by omega)).trans hK
   rw[←hw1];clear hw1 e1 pP pS zP zS jN jP jS hb hL hK;refine begin_then kL HST.out ?_;intro w2 hw2 kL2;have lN:Blk w2 w.heap.size #[.int .i64 n] 3:=by rw[hw2];exact kN.put (by omega)
   have lP:Blk w2 (w.heap.size+1) #[.int .i64 k] 3:=by rw[hw2];exact kP.put (by omega)
   have lS:Blk w2 (w.heap.size+1+1) #[.int .i64 c] 3:=by rw[hw2];exact kS.put (by omega)
   have lb:Below w.heap.size w w2:=by rw[hw2];exact bput kb (by omega) _
   have lK:w2.heap[D]?=some (.deferred (some [])):=by rw[hw2];exact (World.putObj_heap_other (by omega)).trans kK
   have cN:w2.cell? ⟨w.heap.size,0,none⟩=some (.int .i64 n):=lN.cell 0;have cS:w2.cell? ⟨w.heap.size+1+1,0,none⟩=some (.int .i64 c):=lS.cell 0;clear hw2 kN kP kS kb kL kK;by_cases hnc:n≤c
   ·have hd:decide ((n:Int)≤(c:Int))=true:=decide_eq_true (by omega)
    gi_wp2;refine end_stop kL2 ?_;intro w3 hw3 kL3;rw[HPost.out];refine .inr ⟨rfl,hnc,kL3,?_,?_,?_,?_⟩
    ·rw[hw3];exact (World.putObj_heap_other (by omega)).trans lK
    ·rw[hw3];exact lP.put (by omega)
    ·rw[hw3];exact lS.put (by omega)
    ·rw[hw3];exact bput lb (by omega) _
   ·have hd:decide ((n:Int)≤(c:Int))=false:=decide_eq_false (by omega)
    gi_wp2;refine end_go kL2 HST.out HPE.out ?_;intro w3 hw3 kL3;rw[HPost.out];refine .inl ⟨rfl,by omega,kL3,?_,?_,?_,?_,?_⟩
    ·rw[hw3];exact (World.putObj_heap_other (by omega)).trans lK
    ·rw[hw3];exact lN.put (by omega)
    ·rw[hw3];exact lP.put (by omega)
    ·rw[hw3];exact lS.put (by omega)
    ·rw[hw3];exact bput lb (by omega) _
  gi_wp2;refine hRd.mono ?_
  rintro e w3 (⟨rfl,hlt,mL,mK,mN,mP,mS,mb⟩|⟨rfl,hge,mL,mK,mP,mS,mb⟩)
  ·have hk4:k≤4:=by
    by_cases h5:k=5
    ·subst h5;exact absurd hlt (by simp[cls];omega)
    ·omega
   have hst:=cls_step k (by omega)
   have HST:=Lib.hid hst;have hcb:=cls_bd k;have HLT:=Lib.hid hlt;clear hst hy hlt;gi_wp2;go_roundw
   case rel =>
    refine⟨k+1,k,cls k,rfl,?_,by simp,by omega,Lib.hid (fun j hj=>?_),mL,mK,mN,mP,mS,mb⟩
    ·rw[show k+1+1=k+2 from rfl,HST.out];simp
    ·by_cases e:j=k
     ·rw[e];exact HLT.out
     ·exact hcl.out j (by omega)
   case measure=>simp[intOf];omega
  ·have hrn:=cls_rnd n k h3 h19 hk hcl.out hge
   have HRN:=Lib.hid hrn;clear hrn hy hcl hge;gi_wp2;refine bodyPost_ret (results_none rfl _ _ _) rfl ?_;have hDl:D+1<w3.heap.size:=(Array.getElem?_eq_some_iff.1 mL).1;refine loop_end mL (by simp) ?_
   intro w4 hw4;have oP:Blk w4 (w.heap.size+1) #[.int .i64 k] 3:=by rw[hw4];exact mP.put (by omega)
   have oS:Blk w4 (w.heap.size+1+1) #[.int .i64 (cls k:Nat)] 3:=by rw[hw4];exact mS.put (by omega)
   have ob:Below w.heap.size w w4:=by rw[hw4];exact bput mb (by omega) _
   have oK:w4.heap[D]?=some (.deferred (some [])):=by rw[hw4];exact (World.putObj_heap_other (by omega)).trans mK
   have cP:w4.cell? ⟨w.heap.size+1,0,none⟩=some (.int .i64 k):=oP.cell 0;have cS:w4.cell? ⟨w.heap.size+1+1,0,none⟩=some (.int .i64 (cls k:Nat)):=oS.cell 0;have zP:=oP.free 0;have zS:=oS.free 0;clear hw4 mL mK mP mS mb;have HK:=Lib.hid oK;clear oK;dsimp only;gi_wp2;gi_region;gi_wp2;obtain⟨w5,hw5⟩:∃ w5,w5=((w4.setCell ⟨w.heap.size+1,0,none⟩ (.int .i64 k)).setCell ⟨w.heap.size+1+1,0,none⟩ (.int .i64 (cls k:Nat))).drew:=⟨_,rfl⟩;have qP:Blk w5 (w.heap.size+1) #[.int .i64 k] 3:=by rw[hw5];exact drewB ((oP.set 0 _).set_other (by show w.heap.size+1≠w.heap.size+1+1;omega) _)
   have qS:Blk w5 (w.heap.size+1+1) #[.int .i64 (cls k:Nat)] 3:=by rw[hw5];exact drewB ((oS.set_other (by show w.heap.size+1+1≠w.heap.size+1;omega) _).set 0 _)
   have qb:Below w.heap.size w w5:=by rw[hw5];exact bdrew (bset (bset ob (by show w.heap.size≤w.heap.size+1;omega) _) (by show w.heap.size≤w.heap.size+1+1;omega) _)
   have qK:w5.heap[D]?=some (.deferred (some [])):=by
    rw[hw5];exact (Below.heap_setCell _ _ _ _ (by show D≠w.heap.size+1+1;omega)).trans ((Below.heap_setCell _ _ _ _ (by show D≠w.heap.size+1;omega)).trans HK.out)
   rw[←hw5];refine⟨by simp,.inl ⟨_,_,rfl,run_takeDeferred qK,?_⟩⟩
   have cP5:(w5.putObj D (.deferred none)).cell? ⟨w.heap.size+1,0,none⟩=some (.int .i64 k):=(qP.put (by omega)).cell 0
   have cS5:(w5.putObj D (.deferred none)).cell? ⟨w.heap.size+1+1,0,none⟩=some (.int .i64 (cls k:Nat)):=(qS.put (by omega)).cell 0
   refine⟨.tuple #[.int .i64 k,.int .i64 (cls k:Nat),.bool true],by simp[results,Tryz.results244,go_sem,cP5,cS5],⟨k,by rw[HRN.out],bput qb (by omega) _⟩⟩
theorem round_any (n:Nat)(h3:3≤n)(h19:n≤19)(z:Int)(hz:z=n)(w:World):Calls Tryz.prog 197 #[.int .i64 z] w fun e w' =>
  e=.returned (.tuple #[.int .i64 (rnd n:Nat),.bool true])∧Below w.heap.size w w':=by
 subst hz;have H:=Lib.hid (least_any n h3 h19);go_enter Tryz.func197,Tryz.ntmps197;go_wp2_with fail;refine (H.out _).mono ?_
 rintro e w1⟨p,rfl,hb1⟩
 go_wp2_with fail;go_ret2;exact⟨rfl,hb1⟩
end Go.Proofs.YteehgedabdchcaaGreat
namespace Go.Proofs.YteehgedabdchcaaGreat
open Go.RowKit Hp
abbrev spV (b s t:Nat):Value:=.agg #[.int .i64 b,.int .i64 s,.int .i64 t]
def SpOk (b s t:Nat):Prop:=b≤65536∧s≤65536∧b≤t∧t≤b+s
theorem sfit_any {b s t:Nat} (h:SpOk b s t) (w:World):Calls Tryz.prog 265 #[spV b s t] w fun e w'=>e=.returned (spV b s t)∧Below w.heap.size w w':=by
 obtain⟨h1,h2,h3,h4⟩:=h;have e1:max (b:Int) 0=b:=by omega
 have e2:min (b:Int) 65536=b:=by omega
 have e3:max (s:Int) 0=s:=by omega
 have e4:min (s:Int) 65536=s:=by omega
 have e5:max (t:Int) (b:Int)=t:=by omega
 have e6:min (t:Int) ((b:Int)+(s:Int))=t:=by omega
 go_enter Tryz.func265,Tryz.ntmps265;go_wp2_with fail;refine bodyPost_ret (v:=spV b s t) (by simp[results,Tryz.results265,go_sem]) rfl ⟨rfl,?_⟩
 repeat (first|exact Below.refl _ _|refine balloc ?_ _)
theorem sright_any {b s t:Nat}(h:SpOk b s t)(w:World):Calls Tryz.prog 227 #[spV b s t] w fun e w'=>e=.returned (.bool true)∧Below w.heap.size w w':=by
 have H:=Lib.hid (fun w=>sfit_any h w)
 clear h;go_enter Tryz.func227,Tryz.ntmps227;obtain⟨w1,hw1⟩:∃ w1,w1=w.alloc (.cells #[.int .i64 b,.int .i64 s,.int .i64 t] 181):=⟨_,rfl⟩;have jA:Blk w1 w.heap.size #[.int .i64 b,.int .i64 s,.int .i64 t] 181:=by rw[hw1];exact Blk.new _ _ _
 have hb:Below w.heap.size w w1:=by rw[hw1];exact balloc (Below.refl _ _) _
 go_upto_region 1 with fail;rw[←hw1];clear hw1;have lA:=fun (e:Later w1)(i:Nat)=>Later.cell jA e i
 refine wp_region_later (by kernel_rfl) (by kernel_rfl) ?_
 repeat (go_big_quiet_step ((go_at_call 265;exact later_of (H.out _))))
 refine wpQuiet_nil ?_
 rintro _⟨⟨wt,hbt⟩,rfl⟩
 clear lA jA;go_wp2_with fail;go_ret;exact⟨rfl,btrans hb hbt⟩
theorem used_any {b s t:Nat}(h:SpOk b s t)(w:World):Calls Tryz.prog 188 #[spV b s t] w fun e w'=>e=.returned (.int .i64 ((t-b:Nat):Int))∧Below w.heap.size w w':=by
 have H:=Lib.hid (fun w=>sright_any h w)
 obtain⟨h1,h2,h3,h4⟩:=h;have e1:((t-b:Nat):Int)=(t:Int)-(b:Int):=by omega
 rw[e1];clear e1;go_enter Tryz.func188,Tryz.ntmps188;go_wp2_with fail;refine (H.out _).mono ?_
 rintro e w1⟨rfl,hb1⟩
 have jA:=(Blk.new w (#[_,_,_]) 181).below hb1 (by simp)
 have cA:=jA.cell;have sA:=jA.lt;have hb:=btrans (balloc (Below.refl _ _) _) hb1;clear hb1 jA;go_wp2_with fail;go_ret;exact⟨rfl,hb⟩
theorem left_any {b s t:Nat}(h:SpOk b s t)(w:World):Calls Tryz.prog 219 #[spV b s t] w fun e w'=>e=.returned (.int .i64 ((b+s-t:Nat):Int))∧Below w.heap.size w w':=by
 have H:=Lib.hid (fun w=>sright_any h w)
 have HU:=Lib.hid (fun w=>used_any h w)
 obtain⟨h1,h2,h3,h4⟩:=h;obtain⟨u,hu⟩:∃ u,u=t-b:=⟨_,rfl⟩;rw[←hu]at HU;have e1:((b+s-t:Nat):Int)=(s:Int)-(u:Int):=by omega
 have hus:u≤65536:=by omega
 rw[e1];clear e1 hu;go_enter Tryz.func219,Tryz.ntmps219;go_wp2_with fail;refine (H.out _).mono ?_
 rintro e w1⟨rfl,hb1⟩
 have jA:=(Blk.new w (#[_,_,_]) 181).below hb1 (by simp)
 have cA:=jA.cell;have sA:=jA.lt;have hb:=btrans (balloc (Below.refl _ _) _) hb1;clear hb1;go_upto_region 3 with fail;have lA:=fun (e:Later w1)(i:Nat)=>Later.cell jA e i
 refine wp_region_later (by kernel_rfl) (by kernel_rfl) ?_
 repeat (go_big_quiet_step ((go_at_call 188;exact later_of (HU.out _))))
 refine wpQuiet_nil ?_
 rintro _⟨⟨wt,hbt⟩,rfl⟩
 clear lA jA cA sA;go_wp2_with fail;go_ret;exact⟨by simp,btrans hb hbt⟩
theorem smake_any (b s:Nat)(hb:b≤65536)(hs:s≤65536)(z u:Int)(hz:z=b)(hu:u=s)(w:World):Calls Tryz.prog 165 #[.int .i64 z,.int .i64 u] w fun e w'=>e=.returned (.tuple #[spV b s b,.bool true])∧Below w.heap.size w w':=by
 subst hz hu;have H:=Lib.hid (fun w=>sright_any (show SpOk b s b from ⟨hb,hs,by omega,by omega⟩) w)
 go_enter Tryz.func165,Tryz.ntmps165;go_wp2_with fail;refine (H.out _).mono ?_
 rintro e w1 ⟨rfl,hb1⟩
 have jR:=((Blk.new w (#[_,_,_]) 181).alloc _).below hb1 (by simp;omega)
 have jS:Blk w1 (w.heap.size+1) #[.int .i64 b,.int .i64 s,.int .i64 b] 181:=(Blk.new_at _ _ _ _ _ (by simp) rfl).below hb1 (by simp)
 have hw1:=btrans (balloc (balloc (Below.refl _ _) _) _) hb1;have cS:=jS.cell;have sS:=jS.lt;have cR:=jR.cell;have zR:=jR.free;have sR:=jR.lt;clear hb1 jS jR;go_wp2_with fail;refine bodyPost_ret (v:=.tuple #[spV b s b,.bool true]) (by simp[results,Tryz.results165,go_sem,cR]) rfl ⟨rfl,?_⟩
 repeat (first|exact hw1|refine bset ?_ (Nat.le_refl _) _)
theorem sempty_any {b s t:Nat}(h:SpOk b s t)(w:World):Calls Tryz.prog 187 #[spV b s t] w fun e w'=>e=.returned (spV b s b)∧Below w.heap.size w w':=by
 have H:=Lib.hid (fun w=>sright_any h w)
 obtain⟨h1,h2,h3,h4⟩:=h;go_enter Tryz.func187,Tryz.ntmps187;go_wp2_with fail;refine (H.out _).mono ?_
 rintro e w1 ⟨rfl,hb1⟩
 have jA:=((Blk.new w (#[_,_,_]) 181).alloc _).below hb1 (by simp;omega)
 have jR:Blk w1 (w.heap.size+1) #[.int .i64 0,.int .i64 0,.int .i64 0] 181:=(Blk.new_at _ _ _ _ _ (by simp) rfl).below hb1 (by simp)
 have hw1:=btrans (balloc (balloc (Below.refl _ _) _) _) hb1;have cA:=jA.cell;have zA:=jA.free;have sA:=jA.lt;have cR:=jR.cell;have zR:=jR.free;have sR:=jR.lt;clear hb1 jA jR;go_wp2_with fail;refine bodyPost_ret (v:=spV b s b) (by simp[results,Tryz.results187,go_sem,cR]) rfl ⟨rfl,?_⟩
 repeat (first|exact hw1|refine bset ?_ (by simp) _)
theorem take_any {b s t:Nat}(h:SpOk b s t)(n:Nat)(h3:3≤n)(h19:n≤19)(hr:t+rnd n≤b+s)(z:Int)(hz:z=n)(w:World) :
  Calls Tryz.prog 228 #[spV b s t,.int .i64 z] w fun e w'=>e=.returned (.tuple #[spV b s (t+rnd n),.int .i64 t,.bool true])∧Below w.heap.size w w':=by
 have H:=Lib.hid (fun w=>sright_any h w)
 have HR:=Lib.hid (fun w=>round_any n h3 h19 z hz w)
 have HL:=Lib.hid (fun w=>left_any h w)
 obtain⟨h1,h2,h4,h5⟩:=h;obtain⟨r,hrr⟩:∃ r,r=rnd n:=⟨_,rfl⟩;rw[←hrr]at hr HR ⊢;obtain⟨q,hq⟩:∃ q,q=b+s-t:=⟨_,rfl⟩;rw[←hq]at HL;have hrq:r≤q:=by omega
 have hq2:q≤131072:=by omega
 clear hrr hq hz;go_enter Tryz.func228,Tryz.ntmps228;go_wp2_with fail;refine (H.out _).mono ?_
 rintro e w1 ⟨rfl,hb1⟩
 have jA:=((Blk.new w (#[_,_,_]) 181).alloc _).below hb1 (by simp;omega)
 have jR:Blk w1 (w.heap.size+1) #[.int .i64 0,.int .i64 0,.int .i64 0] 181:=(Blk.new_at _ _ _ _ _ (by simp) rfl).below hb1 (by simp)
 have hw1:=btrans (balloc (balloc (Below.refl _ _) _) _) hb1;clear hb1;go_wp2_with fail;refine (HR.out _).mono ?_
 rintro e w2 ⟨rfl,hb2⟩
 have jA2:=jA.below hb2 jA.lt;have jR2:=jR.below hb2 jR.lt;have hw2:=btrans hw1 hb2;have cA:=jA2.cell;have sA:=jA2.lt;clear hb2 jA jR hw1;go_wp2_with fail;refine (HL.out _).mono ?_
 rintro e w3 ⟨rfl,hb3⟩
 have jA3:=jA2.below hb3 jA2.lt;have jR3:=jR2.below hb3 jR2.lt;have hw3:=btrans hw2 hb3;clear hb3 jA2 jR2 hw2 cA sA;have cA:=jA3.cell;have sA:=jA3.lt;have zA:=jA3.free;have cR:=jR3.cell;have zR:=jR3.free;have sR:=jR3.lt;clear jA3 jR3;go_wp2_with fail;refine bodyPost_ret (v:=.tuple #[spV b s (t+r),.int .i64 t,.bool true]) (by simp[results,Tryz.results228,go_sem,cR]) rfl ⟨rfl,?_⟩
 repeat (first|exact hw3|refine bset ?_ (by simp) _)
structure Ob where
 shp:Shp
 freed:Bool
 second:Nat
 serial:Nat
 ptrs:List Nat
 nums:List Int
structure Ob.ok (o:Ob):Prop where
 shp:o.shp.ok
 lp:o.ptrs.length=o.shp.p
 ln:o.nums.length=o.shp.d
 ptr:∀ x ∈ o.ptrs,x≤131072
 num:∀ n ∈ o.nums,-9223372036854775808≤n∧n≤9223372036854775807
 ser:o.serial≤1099511627776
 sec:o.second≤2199023255552
def Ob.size (o:Ob):Nat:=3+o.shp.p+o.shp.d
structure ObAt (f:Nat→Nat)(at':Nat)(o:Ob):Prop where
 h0:f at'=head o.shp o.freed
 h1:f (at'+1)=o.second
 h2:f (at'+2)=o.serial
 hp:∀ (j x:Nat),o.ptrs[j]?=some x→f (at'+3+j)=x
 hn:∀ (j:Nat)(n:Int),o.nums[j]?=some n→(f (at'+3+o.shp.p+j):Int)=zig n
theorem Ob.size_bd {o:Ob}(h:o.ok):3≤o.size∧o.size≤19:=by
 obtain⟨h1,h2,_⟩:=h.shp;unfold Ob.size;omega
variable {w : World} {a wd L : Nat} {f : Nat → Nat} {at' : Nat} {o : Ob}
theorem ar_load_v (h:Wds w a wd L f)(z:Int)(i v:Nat)(hz:z=i)(hi:i<L)(hv:f i=v) :
  Calls Tryz.prog 179 #[.pointer (some ⟨a,0,none⟩),.int .i64 z] w fun e w'=>e=.returned (.tuple #[.int .u64 v,.int .i64 0])∧w=w':=by
 rw[←hv];exact ar_load h z i hz hi
theorem oshape_any (h:Wds w a wd L f)(ho:ObAt f at' o)(hk:o.ok)(hl:at'+o.size≤L)(z:Int)(hz:z=at') :
  Calls Tryz.prog 130 #[.pointer (some ⟨a,0,none⟩),.int .i64 z] w fun e w'=>e=.returned (.tuple #[shpV o.shp,.bool o.freed,.int .i64 0])∧Below w.heap.size w w':=by
 have h0:=ho.h0;have hlt:=head_lt o.shp o.freed hk.shp;have hS:=fun w=>hshape_any o.shp hk.shp o.freed w
 have hZ:=fun w=>hsize_any o.shp hk.shp w
 have hs:=Ob.size_bd hk;have hL9:=h.le;subst hz;unfold Ob.size at hl hs;obtain⟨⟨p,d,wk,fn⟩,fr,se,sr,ps,ns⟩:=o;simp only at h0 hl hs hS hZ hlt;generalize head ⟨p,d,wk,fn⟩ fr=q at *;have H0:=Lib.hid h0;have HS:=Lib.hid hS;have HZ:=Lib.hid hZ;have HW:=Lib.hid h;clear h0 ho hk hS hZ h;go_enter Tryz.func130,Tryz.ntmps130;go_wp2_with fail;refine (ar_load_v (HW.out.below (balloc (bsame w) _)) at' at' q rfl (by omega) H0.out).mono ?_
 rintro e w1 ⟨rfl,rfl⟩
 go_wp2_with fail;refine (HS.out _).mono ?_
 rintro e w2 ⟨rfl,hb2⟩
 have jR:Blk w2 w.heap.size #[.int .i64 0,.int .i64 0,.bool false,.bool false] 93:=(Blk.new w _ _).below hb2 (by simp)
 have hw2:=btrans (balloc (bsame w) _) hb2;have cR:=jR.cell;have zR:=jR.free;have sR:=jR.lt;clear hb2;go_wp2_with fail;refine (HZ.out _).mono ?_
 rintro e w3 ⟨rfl,hb3⟩
 have jR3:Blk w3 w.heap.size #[.int .i64 p,.int .i64 d,.bool wk,.bool fn] 93:=((((jR.set 0 _).set 1 _).set 2 _).set 3 _).below hb3 (by simp;omega)
 have hw3:Below w.heap.size w w3:=btrans (bset (bset (bset (bset hw2 (Nat.le_refl _) _) (Nat.le_refl _) _) (Nat.le_refl _) _) (Nat.le_refl _) _) hb3;clear hb3 cR zR sR jR hw2;have cR:=jR3.cell;have zR:=jR3.free;have sR:=jR3.lt;have hlI:(at':Int)+3+(p:Int)+(d:Int)≤(L:Int):=by omega
 clear jR3;go_wp2_with fail;refine (ar_len (HW.out.below hw3)).mono ?_
 rintro e w4 ⟨rfl,rfl⟩
 go_wp2_with fail;refine bodyPost_ret (v:=.tuple #[shpV ⟨p,d,wk,fn⟩,.bool fr,.int .i64 0]) (by simp[results,Tryz.results130,go_sem,cR]) rfl ⟨rfl,?_⟩
 repeat (first|exact hw3|refine bset ?_ (Nat.le_refl _) _)
theorem oserial_any (h:Wds w a wd L f)(ho:ObAt f at' o)(hk:o.ok)(hl:at'+o.size≤L)(z:Int)(hz:z=at') :
  Calls Tryz.prog 131 #[.pointer (some ⟨a,0,none⟩),.int .i64 z] w fun e w'=>e=.returned (.tuple #[.int .i64 o.serial,.int .i64 0])∧Below w.heap.size w w':=by
 have hs:=Ob.size_bd hk;have hL9:=h.le;have hq:=hk.ser;have HS:=Lib.hid (oshape_any h ho hk hl z hz);have H2:=Lib.hid ho.h2;have HW:=Lib.hid h;subst hz;clear ho h hk;generalize o.serial=q at *;go_enter Tryz.func131,Tryz.ntmps131;go_wp2_with fail;refine HS.out.mono ?_
 rintro e w1 ⟨rfl,hb1⟩
 go_wp2_with fail;refine (ar_load_v (HW.out.below (balloc hb1 _)) _ (at'+2) q (by omega) (by omega) H2.out).mono ?_
 rintro e w2 ⟨rfl,rfl⟩
 go_wp2_with fail;go_ret2;exact⟨rfl,balloc hb1 _⟩
theorem osecond_any (h:Wds w a wd L f)(ho:ObAt f at' o)(hk:o.ok)(hl:at'+o.size≤L)(z:Int)(hz:z=at') :
  Calls Tryz.prog 205 #[.pointer (some ⟨a,0,none⟩),.int .i64 z] w fun e w'=>e=.returned (.tuple #[.int .u64 o.second,.int .i64 0])∧Below w.heap.size w w':=by
 have hs:=Ob.size_bd hk;have hL9:=h.le;have HS:=Lib.hid (oshape_any h ho hk hl z hz);have H2:=Lib.hid ho.h1;have HW:=Lib.hid h;subst hz;clear ho h hk;generalize o.second=q at *;go_enter Tryz.func205,Tryz.ntmps205;go_wp2_with fail;refine HS.out.mono ?_
 rintro e w1 ⟨rfl,hb1⟩
 go_wp2_with fail;refine (ar_load_v (HW.out.below (balloc hb1 _)) _ (at'+1) q (by omega) (by omega) H2.out).mono ?_
 rintro e w2 ⟨rfl,rfl⟩
 go_wp2_with fail;go_ret2;exact⟨rfl,balloc hb1 _⟩
theorem optr_in (s:Shp)(hs:s.ok)(at' i:Nat)(ha:at'≤65536)(hi:i<s.p)(w:World) :
  Calls Tryz.prog 234 #[shpV s,.int .i64 at',.int .i64 i] w fun e w'=>e=.returned (.tuple #[.int .i64 ((at'+3+i:Nat):Int),.int .i64 0])∧Below w.heap.size w w':=by
 obtain⟨h1,h2,_⟩:=hs;obtain⟨p,d,wk,fn⟩:=s;simp only at h1 h2 hi;go_enter Tryz.func234,Tryz.ntmps234;go_wp2_with fail;go_ret2;exact⟨by simp,balloc (bsame w) _⟩
theorem optr_out (s:Shp)(hs:s.ok)(at' i:Nat)(hi:s.p≤i)(w:World) :
  Calls Tryz.prog 234 #[shpV s,.int .i64 at',.int .i64 i] w fun e w'=>e=.returned (.tuple #[.int .i64 0,.int .i64 71])∧Below w.heap.size w w':=by
 obtain⟨h1,h2,_⟩:=hs;obtain⟨p,d,wk,fn⟩:=s;simp only at h1 h2 hi;go_enter Tryz.func234,Tryz.ntmps234;go_wp2_with fail;go_ret2;exact⟨rfl,balloc (bsame w) _⟩
theorem onum_in (s:Shp)(hs:s.ok)(at' i:Nat)(ha:at'≤65536)(hi:i<s.d)(w:World) :
  Calls Tryz.prog 203 #[shpV s,.int .i64 at',.int .i64 i] w fun e w'=>e=.returned (.tuple #[.int .i64 ((at'+3+s.p+i:Nat):Int),.int .i64 0])∧Below w.heap.size w w':=by
 obtain⟨h1,h2,_⟩:=hs;obtain⟨p,d,wk,fn⟩:=s;simp only at h1 h2 hi ⊢;go_enter Tryz.func203,Tryz.ntmps203;go_wp2_with fail;go_ret2;exact⟨by simp,balloc (bsame w) _⟩
theorem onum_out (s:Shp)(hs:s.ok)(at' i:Nat)(hi:s.d≤i)(w:World) :
  Calls Tryz.prog 203 #[shpV s,.int .i64 at',.int .i64 i] w fun e w'=>e=.returned (.tuple #[.int .i64 0,.int .i64 71])∧Below w.heap.size w w':=by
 obtain⟨h1,h2,_⟩:=hs;obtain⟨p,d,wk,fn⟩:=s;simp only at h1 h2 hi;go_enter Tryz.func203,Tryz.ntmps203;go_wp2_with fail;go_ret2;exact⟨rfl,balloc (bsame w) _⟩
theorem field_any (h:Wds w a wd L f)(ho:ObAt f at' o)(hk:o.ok)(hl:at'+o.size≤L)(i:Nat)(g:Nat)(r e':Int)
  (hg:∀ w,Calls Tryz.prog g #[shpV o.shp,.int .i64 at',.int .i64 i] w fun e w'=>e=.returned (.tuple #[.int .i64 r,.int .i64 e'])∧Below w.heap.size w w')
  (eg:∀ args w,(callFunc g args).run Tryz.prog w=.ok (.enter g args) w) :
  Calls Tryz.prog 202 #[.pointer (some ⟨a,0,none⟩),.int .i64 at',.int .i64 i,.func (.func g) #[] #[]] w fun e w'=>e=.returned (.tuple #[.int .i64 r,.int .i64 e'])∧Below w.heap.size w w':=by
 have HS:=Lib.hid (oshape_any h ho hk hl at' rfl);obtain⟨⟨p,d,wk,fn⟩,fr,se,sr,ps,ns⟩:=o;have HG:=Lib.hid hg;simp only at HS HG;clear ho h hk hl hg;go_enter Tryz.func202,Tryz.ntmps202;go_wp2_with fail;refine HS.out.mono ?_
 rintro e w1 ⟨rfl,hb1⟩
 go_wp2_with fail;refine (HG.out _).mono ?_
 rintro e w2 ⟨rfl,hb2⟩
 go_wp2_with fail;go_ret2;exact⟨rfl,btrans (balloc hb1 _) hb2⟩
theorem bit_even (k:Nat)(h:2*k<18446744073709551616):bits BinOp.and IntKind.u64 ((2*k:Nat):Int) 1=0:=by
 rw[show (1:Int)=((1:Nat):Int) from rfl,wand _ 1 h (by omega),Nat.and_one_is_mod,show 2*k%2=0 from by omega];rfl
theorem bit_odd (k:Nat)(h:2*k+1<18446744073709551616):bits BinOp.and IntKind.u64 ((2*k+1:Nat):Int) 1=1:=by
 rw[show (1:Int)=((1:Nat):Int) from rfl,wand _ 1 h (by omega),Nat.and_one_is_mod,show (2*k+1)%2=1 from by omega]
theorem or_odd (k:Nat)(h:2*k+1<18446744073709551616):bits BinOp.or IntKind.u64 ((2*k:Nat):Int) 1=((2*k+1:Nat):Int):=by
 rw[show (1:Int)=((1:Nat):Int) from rfl,wor _ 1 (by omega) (by omega),Nat.or_comm,or_add 1 k 1 (by omega),Nat.add_comm]
theorem zag_any (v:Nat)(n:Int)(hv:(v:Int)=zig n)(hn:-9223372036854775808≤n∧n≤9223372036854775807)(w:World) :
  Calls Tryz.prog 204 #[.int .u64 v] w fun e w'=>e=.returned (.int .i64 n)∧w=w':=by
 unfold zig at hv;split at hv
 ·rename_i h0
  obtain⟨k,rfl⟩:∃ k:Nat,n=k:=⟨n.toNat,by omega⟩
  obtain rfl:v=2*k:=by omega
  have hb:=bit_even k (by omega)
  have e1:((2*k:Nat):Int)/2=(k:Int):=by omega
  obtain⟨q,hq⟩:∃ q:Int,q=((2*k:Nat):Int):=⟨_,rfl⟩;rw[←hq]at hb e1 ⊢;have hq0:0≤q:=by omega
  have hq1:q≤18446744073709551615:=by omega
  have hk1:(k:Int)≤9223372036854775807:=by omega
  clear hq hv h0;go_enter Tryz.func204,Tryz.ntmps204;go_wp2_with fail;go_ret;exact⟨rfl,rfl⟩
 ·rename_i h0
  obtain⟨k,hk⟩:∃ k:Nat,-n-1=k:=⟨(-n-1).toNat,by omega⟩
  obtain rfl:n=-(k:Int)-1:=by omega
  obtain rfl:v=2*k+1:=by omega
  have hb:=bit_odd k (by omega)
  have e1:((2*k+1:Nat):Int)/2=(k:Int):=by omega
  obtain⟨q,hq⟩:∃ q:Int,q=((2*k+1:Nat):Int):=⟨_,rfl⟩;rw[←hq]at hb e1 ⊢;have hq0:0≤q:=by omega
  have hq1:q≤18446744073709551615:=by omega
  have hk1:(k:Int)≤9223372036854775807:=by omega
  clear hq hv h0 hk;go_enter Tryz.func204,Tryz.ntmps204;go_wp2_with fail;go_ret;exact⟨rfl,rfl⟩
theorem zig_any (n:Int)(hn:-9223372036854775808≤n∧n≤9223372036854775807)(w:World) :
  Calls Tryz.prog 233 #[.int .i64 n] w fun e w'=>e=.returned (.int .u64 (zig n))∧w=w':=by
 obtain⟨hn1,hn2⟩:=hn;unfold zig;by_cases h0:0≤n
 ·rw[if_pos h0]
  go_enter Tryz.func233,Tryz.ntmps233;go_wp2_with fail;go_ret;exact⟨ret_int (show n*2=2*n by omega),rfl⟩
 ·rw[if_neg h0]
  obtain⟨k,hk⟩:∃ k:Nat,-n-1=k:=⟨(-n-1).toNat,by omega⟩
  have ho:=or_odd k (by omega)
  have hlt:n<0:=by omega
  have hk':=Lib.hid hk;have HO:=Lib.hid ho;clear ho hk h0;go_enter Tryz.func233,Tryz.ntmps233;go_wp2_with fail;go_ret;have e1:-(n+1)*2=((2*k:Nat):Int):=by have:=hk'.out;omega
  refine⟨ret_int (show bits BinOp.or IntKind.u64 (-(n+1)*2) 1=-2*n-1 from ?_),rfl⟩;rw[e1,HO.out];have:=hk'.out;omega
variable {w : World} {a wd L : Nat} {f : Nat → Nat} {at' : Nat} {o : Ob}
theorem eg_ptr (args:Array Value)(w:World):(callFunc 234 args).run Tryz.prog w=.ok (.enter 234 args) w:=enters_of Tryz.func234 (by kernel_rfl) rfl args w
theorem eg_num (args:Array Value)(w:World):(callFunc 203 args).run Tryz.prog w=.ok (.enter 203 args) w:=enters_of Tryz.func203 (by kernel_rfl) rfl args w
theorem Ob.room (hk:o.ok)(hl:at'+o.size≤L)(h:Wds w a wd L f):at'≤65536:=by
 have:=h.le;have:=(Ob.size_bd hk).1;omega
theorem optr_get (h:Wds w a wd L f)(ho:ObAt f at' o)(hk:o.ok)(hl:at'+o.size≤L)(i x:Nat)(hx:o.ptrs[i]?=some x)(z u:Int)(hz:z=at')(hu:u=i) :
  Calls Tryz.prog 171 #[.pointer (some ⟨a,0,none⟩),.int .i64 z,.int .i64 u] w fun e w'=>e=.returned (.tuple #[.int .i64 x,.int .i64 0])∧Below w.heap.size w w':=by
 have hi:i<o.shp.p:=by rw[←hk.lp];exact (List.getElem?_eq_some_iff.1 hx).1
 have hx1:=hk.ptr x (List.mem_of_getElem? hx);have HF:=Lib.hid (field_any h ho hk hl i _ _ _ (fun w=>optr_in o.shp hk.shp at' i (Ob.room hk hl h) hi w) eg_ptr)
 have hs:at'+3+i<L:=by unfold Ob.size at hl;omega
 have H2:=Lib.hid (ho.hp i x hx);have HW:=Lib.hid h;subst hz hu;clear ho h hk hl hx hi;go_enter Tryz.func171,Tryz.ntmps171;go_wp2_with fail;refine HF.out.mono ?_
 rintro e w1 ⟨rfl,hb1⟩
 go_wp2_with fail;refine (ar_load_v (HW.out.below hb1) _ (at'+3+i) x (by omega) hs H2.out).mono ?_
 rintro e w2 ⟨rfl,rfl⟩
 go_wp2_with fail;go_ret2;exact⟨rfl,hb1⟩
theorem optr_no (h:Wds w a wd L f)(ho:ObAt f at' o)(hk:o.ok)(hl:at'+o.size≤L)(i:Nat)(hi:o.shp.p≤i)(z u:Int)(hz:z=at')(hu:u=i) :
  Calls Tryz.prog 171 #[.pointer (some ⟨a,0,none⟩),.int .i64 z,.int .i64 u] w fun e w'=>e=.returned (.tuple #[.int .i64 0,.int .i64 71])∧Below w.heap.size w w':=by
 have HF:=Lib.hid (field_any h ho hk hl i _ _ _ (fun w=>optr_out o.shp hk.shp at' i hi w) eg_ptr)
 subst hz hu;clear ho h hk hl hi;go_enter Tryz.func171,Tryz.ntmps171;go_wp2_with fail;refine HF.out.mono ?_
 rintro e w1 ⟨rfl,hb1⟩
 go_wp2_with fail;go_ret2;exact⟨rfl,hb1⟩
theorem onum_get (h:Wds w a wd L f)(ho:ObAt f at' o)(hk:o.ok)(hl:at'+o.size≤L)(i:Nat)(n:Int)(hx:o.nums[i]?=some n)(z u:Int)(hz:z=at')(hu:u=i) :
  Calls Tryz.prog 137 #[.pointer (some ⟨a,0,none⟩),.int .i64 z,.int .i64 u] w fun e w'=>e=.returned (.tuple #[.int .i64 n,.int .i64 0])∧Below w.heap.size w w':=by
 have hi:i<o.shp.d:=by rw[←hk.ln];exact (List.getElem?_eq_some_iff.1 hx).1
 have hx1:=hk.num n (List.mem_of_getElem? hx);have HF:=Lib.hid (field_any h ho hk hl i _ _ _ (fun w=>onum_in o.shp hk.shp at' i (Ob.room hk hl h) hi w) eg_num)
 have hs:at'+3+o.shp.p+i<L:=by unfold Ob.size at hl;omega
 have H2:=Lib.hid (ho.hn i n hx);have HX:=Lib.hid hx1;have HW:=Lib.hid h;generalize o.shp.p=p at *;subst hz hu;clear ho h hk hl hx hi hx1;go_enter Tryz.func137,Tryz.ntmps137;go_wp2_with fail;refine HF.out.mono ?_
 rintro e w1 ⟨rfl,hb1⟩
 go_wp2_with fail;refine (ar_load_v (HW.out.below hb1) _ (at'+3+p+i) _ (by omega) hs rfl).mono ?_
 rintro e w2 ⟨rfl,rfl⟩
 go_wp2_with fail;refine (zag_any _ n H2.out HX.out _).mono ?_
 rintro e w2 ⟨rfl,rfl⟩
 go_wp2_with fail;go_ret2;exact⟨rfl,hb1⟩
theorem onum_no (h:Wds w a wd L f)(ho:ObAt f at' o)(hk:o.ok)(hl:at'+o.size≤L)(i:Nat)(hi:o.shp.d≤i)(z u:Int)(hz:z=at')(hu:u=i) :
  Calls Tryz.prog 137 #[.pointer (some ⟨a,0,none⟩),.int .i64 z,.int .i64 u] w fun e w'=>e=.returned (.tuple #[.int .i64 0,.int .i64 71])∧Below w.heap.size w w':=by
 have HF:=Lib.hid (field_any h ho hk hl i _ _ _ (fun w=>onum_out o.shp hk.shp at' i hi w) eg_num)
 subst hz hu;clear ho h hk hl hi;go_enter Tryz.func137,Tryz.ntmps137;go_wp2_with fail;refine HF.out.mono ?_
 rintro e w1 ⟨rfl,hb1⟩
 go_wp2_with fail;go_ret2;exact⟨rfl,hb1⟩
end Go.Proofs.YteehgedabdchcaaGreat
