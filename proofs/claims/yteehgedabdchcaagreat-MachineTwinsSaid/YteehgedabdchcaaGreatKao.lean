import Derived.Test.YteehgedabdchcaaGreatKan
import Derived.Test.YteehgedabdchcaaGreatKap
import Derived.Test.YteehgedabdchcaaGreatKaq
set_option linter.all false
set_option maxRecDepth 1000000
set_option maxHeartbeats 0
open Go renaming World->Aa,Calls->Ab,Value->Ac
open Go.RowKit renaming Below->Ae
open Go.Value renaming int->I,pointer->Ah,slice->Ai,tuple->Ak,agg->Al
open Go.IntKind renaming i64->Z
open Go.Ending renaming returned->O
open Go.Instr renaming makeFunc->Ad,endRound->aM
open And renaming intro->Aj
open Go.World renaming putObj_heap_other->aa,alloc_heap_new->ag,putObj_heap_same->aA,size_alloc->aH,cell?->aL
open List renaming take_length->af,take_succ_eq_append_getElem->aj,take_add_one->ay,map_cons->aB,flatMap_cons->aF,append_assoc->aG,length_drop->aI,nil_append->aJ,append_nil->aK,append_toArray->aN,flatMap_append->aO,take_succ_cons->aP,set_cons_zero->aQ,size_toArray->aR,push_toArray->aS,cons_append->aT,length_nil->aU,headD_cons->aV,drop_zero->aW,tail_cons->aX,mem_cons->aY
open Nat renaming zero_le->ai,zero_add->aZ
open Bool renaming false_eq_true->aC
open Go.Value renaming int->aD
open Go.Proofs.Tryz
open Go.Proofs.Tryz renaming prog->AId
open Go.Obj renaming cells->AIe
namespace Go.Proofs.YteehgedabdchcaaGreat
section
open Go.RowKit Hp
attribute [local go_sem ↓] Go.wp_at_zero Go.wp_at_succ
section
variable {w w' : Aa} {o o' : Own} {y : Bj} {S : Am} {i : Nat}
def qor (f:Ac)(h:Av w o y S)(hk:S.ok)(hi:i<S.Au.length)(hl:(S.t i).live=false) :
  Ab AId 77 #[ptr y.sb,i,f] w fun e w'=>e=O (Ak #[I Z 0,I Z 140])/\Ae w.1.size w w':=by
 have HR:=Qa (fun w' (hw:Ae w.1.size w w')=>xy (h.below hw) hk (Am.AV hi))
 rw[hl]at HR;simp only[aC,if_false]at HR;clear h hk hi hl;go_enter_defers func77,ntmps77;go_wp2_with fail;obtain⟨W,hW⟩:=Ja0 (((w.alloc (AIe #[ptr y.sb] 24)).alloc (AIe #[I Z 0] 3)).alloc (AIe #[I Z 0] 29));rw[<-hW];have hbW:Ae w.1.size w W:=by rw[hW];exact qa (qa (qa (qc w) _) _) _
 have zT:W.1.size=w.1.size+3:=by rw[hW];simp
 have jV:An W (w.1.size+1) #[I Z 0] 3:=by rw[hW];exact (An.Ax _ _ _ _ _ (by simp) rfl).alloc _
 have jE:An W (w.1.size+1+1) #[I Z 0] 29:=by rw[hW];exact An.Ax _ _ _ _ _ (by simp) rfl
 clear hW;refine (HR.o _ hbW).mono ?_
 rintro e w1 ⟨rfl,rfl⟩
 have cV:=jV.cell;have zV:=jV.free;have sV:=jV.lt;have cE:=jE.cell;have zE:=jE.free;have sE:=jE.lt;go_wp2_with fail;have uB:=(((jV.set 0 (I Z 0)).Ao (a:=⟨w.1.size+1+1,0,none⟩) (by simp) (I Z 140)).alloc (AIe #[Ah none] 103))
 have vK:=(((jE.Ao (a:=⟨w.1.size+1,0,none⟩) (by simp) (I Z 0)).set 0 (I Z 140)).alloc (AIe #[Ah none] 103))
 have hfin:Ae w.1.size w (((W.setCell ⟨w.1.size+1,0,none⟩ (I Z 0)).setCell ⟨w.1.size+1+1,0,none⟩ (I Z 140)).alloc (AIe #[Ah none] 103)):=
  qa (qm (qm hbW (by simp) _) (by simp;omega) _) _
 generalize ((W.setCell ⟨w.1.size+1,0,none⟩ (I Z 0)).setCell ⟨w.1.size+1+1,0,none⟩ (I Z 140)).alloc (AIe #[Ah none] 103)=X at *;have wM:=uB.cell 0;have rV:=vK.cell 0;simp at wM rV;simp only[bodyPostD,Leaves];exact⟨Ak #[I Z 0,I Z 140],by simp[results,results77,go_sem,wM,rV],rfl,hfin⟩
def wu (g:Nat)(eH:List Ac)(h0:Av w o y S)(hk:S.ok)(hi:i<S.Au.length)(eg:∀ args w,(callFunc g args).run AId w=.ok (.enter g args) w)
  (r:BZ)(hg:(S.t i).live=true->Good S.Au.length r)
  (hdo:(S.t i).live=true->∀ w1 o1,Ae w.1.size w w1->(∀ b,b<w.1.size->o1 b=o b)->Av w1 o1 y S->Ab AId g (ptr (y.xb i)::eH).toArray w1 fun e w'=>e=O (Ak #[r.v,r.e])/\BK y r.S o1 w1 w') :
  Ab AId 77 #[ptr y.sb,i,.func (.func g) #[] eH.toArray] w fun e w'=>e=O (Ak #[I Z (S.AF i r).v,I Z (S.AF i r).e])/\BK y (S.AF i r).S o w w':=by
 unfold Am.AF
 cases hl:(S.t i).live with
 | false =>
  rw[if_neg (by simp)]
  refine (qor _ h0 hk hi hl).mono ?_;rintro e w' ⟨rfl,hb⟩;exact⟨rfl,h0.EC hb⟩
 | true =>
  rw[if_pos rfl];replace hdo:=hdo hl;have hg:=hg hl;have hx:=Am.AV hi;obtain⟨S',v,e⟩:=r
  cases ha:J9 e with
  | true =>
   have e1:BZ.fin ⟨S',v,e⟩ i=⟨S'.abort i,0,e⟩:=by unfold BZ.fin;rw[if_pos ha]
   rw[e1];have he:e=141\/e=130\/e=100:=by
    unfold J9 at ha;simp only[Bool.or_eq_true,beq_iff_eq]at ha;omega
   refine (qkn g eH h0 hk hx hl eg (qh y) (qo y) S' (S'.abort i) v e he hdo fun w1 o1 h1=>VN h1 hg.1 (by have h2:S'.Au.length=S.Au.length:=hg.2;omega)).mono ?_
   rintro e w' ⟨rfl,o',h1,h2⟩;exact⟨rfl,o',h1,h2.mono fun _ h=>h.elim id id⟩
  | false =>
   have hne:e≠141/\e≠130/\e≠100:=by
    unfold J9 at ha;simp only[Bool.or_eq_false_iff,Qh]at ha;exact⟨ha.1.1,ha.1.2,ha.2⟩
   by_cases h0':e=0
   ·subst h0'
    have e1:BZ.fin ⟨S',v,0⟩ i=⟨S',v,0⟩:=by unfold BZ.fin;rw[if_neg (by rw[ha];simp),if_pos rfl]
    rw[e1];exact Lw g eH h0 hk hx hl eg (qh y) (qo y) S' v hdo
   ·have e1:BZ.fin ⟨S',v,e⟩ i=⟨S',0,e⟩:=by unfold BZ.fin;rw[if_neg (by rw[ha];simp),if_neg h0']
    rw[e1];exact Hf g eH h0 hk hx hl eg (qh y) (qo y) S' v e h0' hne.1 hne.2.1 hne.2.2 hdo
def qkk (p j:Nat)(ef v er:Int)(S1 S2:Am)
  (fields:Ab AId 136 #[ptr y.sb,ptr (y.xb i),p] w fun e w'=>e=O ef/\BK y S1 o w w')
  (get:∀ w1 o1,Av w1 o1 y S1->Ab AId 76 #[ptr y.l.h,p,j] w1 fun e w'=>e=O (Ak #[v,er])/\BK y S2 o1 w1 w')
  {b1 b2 b3 b4:Nat}(j1:An w b1 #[ptr y.sb] 24)(j2:An w b2 #[p] 3)(j3:An w b3 #[.func (.func 76) #[] #[]] 123)(j4:An w b4 #[j] 3)
  (t1:o b1=(y.l.id+1,0))(t2:o b2=(y.l.id+1,0))(t3:o b3=(y.l.id+1,0))(t4:o b4=(y.l.id+1,0))(R:BZ)(r1:ef≠0->R=⟨S1,0,ef⟩)(r2:ef=0->R=⟨S2,v,er⟩) :
  Ab AId 135 #[ptr (y.xb i),ptr b1,ptr b2,ptr b3,ptr b4] w fun e w'=>e=O (Ak #[R.v,R.e])/\BK y R.S o w w':=by
 have HF:=Qa fields;have HG:=Qa get;have HB:=Qa (qo y);have c1:=j1.cell;have c2:=j2.cell;have H1:=Qa r1;have H2:=Qa r2;clear fields get r1 r2;by_cases he:ef=0
 ·have H3:=Qa (H2.o he)
  clear H1 H2;subst he;rw[H3.o];clear H3;go_in;go_wp2_with fail;refine HF.o.mono ?_;rintro e w1 ⟨rfl,o1,hS1,hs1⟩;have k1:=j1.Ar hs1 (by rw[t1];exact HB.o)
  have k2:=j2.Ar hs1 (by rw[t2];exact HB.o)
  have k3:=j3.Ar hs1 (by rw[t3];exact HB.o)
  have k4:=j4.Ar hs1 (by rw[t4];exact HB.o)
  obtain⟨vq,vl,vm,jb,_⟩:=hS1.A2;unfold qk at jb;have l1:=j1.lt;have l2:=j2.lt;have l3:=j3.lt;have l4:=j4.lt;clear c1 c2 j1 j2 j3 j4;have HG2:=Qa (HG.o w1.drew o1 (hS1.below (qe (qc w1))));have HS:=Qa hs1;have u1:o1 b1=(y.l.id+1,0):=(hs1.tags _ l1).trans t1;have u2:o1 b2=(y.l.id+1,0):=(hs1.tags _ l2).trans t2;have u3:o1 b3=(y.l.id+1,0):=(hs1.tags _ l3).trans t3;have u4:o1 b4=(y.l.id+1,0):=(hs1.tags _ l4).trans t4;have HKc:=Qa (fun (w2:Aa)(o2:Own)(hs2:Stp (qh y) o1 o2 w1.drew w2) =>
   show w2.cell? ⟨b1,0,none⟩=some (ptr y.sb)/\w2.cell? ⟨b2,0,none⟩=some (I Z p)/\w2.cell? ⟨b3,0,none⟩=some (.func (.func 76) #[] #[])/\w2.cell? ⟨b4,0,none⟩=some (I Z j) from
    ⟨((qi k1).Ar hs2 (by rw[u1];exact HB.o)).cell 0,((qi k2).Ar hs2 (by rw[u2];exact HB.o)).cell 0,((qi k3).Ar hs2 (by rw[u3];exact HB.o)).cell 0,((qi k4).Ar hs2 (by rw[u4];exact HB.o)).cell 0⟩)
  have wI:=Qa (fun (w2:Aa)(o2:Own)(h2:Av w2 o2 y S2)=>show w2.cell? ⟨y.sb,0,none⟩=some (ptr y.l.h) from by
   obtain⟨_,_,_,lX,_⟩:=h2.A2;exact lX.cell 0)
  clear hS1 hs1 HG u1 u2 u3 u4 l1 l2 l3 l4 t1 t2 t3 t4;have c1:w1.cell? ⟨b1,0,none⟩=some (ptr y.sb):=k1.cell 0;have c2:w1.cell? ⟨b2,0,none⟩=some (I Z p):=k2.cell 0;have c3:w1.cell? ⟨b3,0,none⟩=some (.func (.func 76) #[] #[]):=k3.cell 0;have c4:w1.cell? ⟨b4,0,none⟩=some (I Z j):=k4.cell 0;have cb:w1.cell? ⟨y.sb,0,none⟩=some (ptr y.l.h):=jb.cell 0;clear k1 k2 k3 k4 jb;go_upto_region 4 with fail;go_region_held3 (fun w'=>w'.cell? ⟨b1,0,none⟩=some (ptr y.sb)/\w'.cell? ⟨b2,0,none⟩=some (I Z p)/\w'.cell? ⟨b3,0,none⟩=some (.func (.func 76) #[] #[])/\w'.cell? ⟨b4,0,none⟩=some (I Z j)/\w'.cell? ⟨y.sb,0,none⟩=some (ptr y.l.h))(first|exact⟨by assumption,by assumption,by assumption,by assumption,by assumption⟩|go_keep)(first
   | (go_at_call 76;refine HG2.o.mono ?_;rintro e w2 ⟨rfl,o2,hS2,hs2⟩;obtain⟨d1,d2,d3,d4⟩:=HKc.o _ _ hs2;have db:=wI.o _ _ hS2)
   | fail)
  go_wp2_with fail;go_ret2;exact⟨rfl,o2,hS2,HS.o.trans ((Stp.of_below (qe (qc w1))).trans hs2)⟩
 ·have H3:=Qa (H1.o he)
  have hb:(ef != 0)=true:=by rw[bne_iff_ne];exact he
  have hb2:(ef==0)=false:=by rw[Qh];exact he
  clear H1 H2;rw[H3.o];clear H3;go_in;go_wp2_with fail;refine HF.o.mono ?_;rintro e w1 ⟨rfl,o1,hS1,hs1⟩;go_wp2_with fail;go_ret2;exact⟨rfl,o1,hS1,hs1⟩
def qla (p j:Nat)(ef v er:Int)(S1 S2:Am)
  (fields:Ab AId 136 #[ptr y.sb,ptr (y.xb i),p] w fun e w'=>e=O ef/\BK y S1 o w w')
  (get:∀ w1 o1,Av w1 o1 y S1->Ab AId 112 #[ptr y.l.h,p,j] w1 fun e w'=>e=O (Ak #[v,er])/\BK y S2 o1 w1 w')
  {b1 b2 b3 b4:Nat}(j1:An w b1 #[ptr y.sb] 24)(j2:An w b2 #[p] 3)(j3:An w b3 #[.func (.func 112) #[] #[]] 123)(j4:An w b4 #[j] 3)
  (t1:o b1=(y.l.id+1,0))(t2:o b2=(y.l.id+1,0))(t3:o b3=(y.l.id+1,0))(t4:o b4=(y.l.id+1,0))(R:BZ)(r1:ef≠0->R=⟨S1,0,ef⟩)(r2:ef=0->R=⟨S2,v,er⟩) :
  Ab AId 135 #[ptr (y.xb i),ptr b1,ptr b2,ptr b3,ptr b4] w fun e w'=>e=O (Ak #[R.v,R.e])/\BK y R.S o w w':=by
 have HF:=Qa fields;have HG:=Qa get;have HB:=Qa (qo y);have c1:=j1.cell;have c2:=j2.cell;have H1:=Qa r1;have H2:=Qa r2;clear fields get r1 r2;by_cases he:ef=0
 ·have H3:=Qa (H2.o he)
  clear H1 H2;subst he;rw[H3.o];clear H3;go_in;go_wp2_with fail;refine HF.o.mono ?_;rintro e w1 ⟨rfl,o1,hS1,hs1⟩;have k1:=j1.Ar hs1 (by rw[t1];exact HB.o)
  have k2:=j2.Ar hs1 (by rw[t2];exact HB.o)
  have k3:=j3.Ar hs1 (by rw[t3];exact HB.o)
  have k4:=j4.Ar hs1 (by rw[t4];exact HB.o)
  obtain⟨vq,vl,vm,jb,_⟩:=hS1.A2;unfold qk at jb;have l1:=j1.lt;have l2:=j2.lt;have l3:=j3.lt;have l4:=j4.lt;clear c1 c2 j1 j2 j3 j4;have HG2:=Qa (HG.o w1.drew o1 (hS1.below (qe (qc w1))));have HS:=Qa hs1;have u1:o1 b1=(y.l.id+1,0):=(hs1.tags _ l1).trans t1;have u2:o1 b2=(y.l.id+1,0):=(hs1.tags _ l2).trans t2;have u3:o1 b3=(y.l.id+1,0):=(hs1.tags _ l3).trans t3;have u4:o1 b4=(y.l.id+1,0):=(hs1.tags _ l4).trans t4;have HKc:=Qa (fun (w2:Aa)(o2:Own)(hs2:Stp (qh y) o1 o2 w1.drew w2) =>
   show w2.cell? ⟨b1,0,none⟩=some (ptr y.sb)/\w2.cell? ⟨b2,0,none⟩=some (I Z p)/\w2.cell? ⟨b3,0,none⟩=some (.func (.func 112) #[] #[])/\w2.cell? ⟨b4,0,none⟩=some (I Z j) from
    ⟨((qi k1).Ar hs2 (by rw[u1];exact HB.o)).cell 0,((qi k2).Ar hs2 (by rw[u2];exact HB.o)).cell 0,((qi k3).Ar hs2 (by rw[u3];exact HB.o)).cell 0,((qi k4).Ar hs2 (by rw[u4];exact HB.o)).cell 0⟩)
  have wI:=Qa (fun (w2:Aa)(o2:Own)(h2:Av w2 o2 y S2)=>show w2.cell? ⟨y.sb,0,none⟩=some (ptr y.l.h) from by
   obtain⟨_,_,_,lX,_⟩:=h2.A2;exact lX.cell 0)
  clear hS1 hs1 HG u1 u2 u3 u4 l1 l2 l3 l4 t1 t2 t3 t4;have c1:w1.cell? ⟨b1,0,none⟩=some (ptr y.sb):=k1.cell 0;have c2:w1.cell? ⟨b2,0,none⟩=some (I Z p):=k2.cell 0;have c3:w1.cell? ⟨b3,0,none⟩=some (.func (.func 112) #[] #[]):=k3.cell 0;have c4:w1.cell? ⟨b4,0,none⟩=some (I Z j):=k4.cell 0;have cb:w1.cell? ⟨y.sb,0,none⟩=some (ptr y.l.h):=jb.cell 0;clear k1 k2 k3 k4 jb;go_upto_region 4 with fail;go_region_held3 (fun w'=>w'.cell? ⟨b1,0,none⟩=some (ptr y.sb)/\w'.cell? ⟨b2,0,none⟩=some (I Z p)/\w'.cell? ⟨b3,0,none⟩=some (.func (.func 112) #[] #[])/\w'.cell? ⟨b4,0,none⟩=some (I Z j)/\w'.cell? ⟨y.sb,0,none⟩=some (ptr y.l.h))(first|exact⟨by assumption,by assumption,by assumption,by assumption,by assumption⟩|go_keep)(first
   | (go_at_call 112;refine HG2.o.mono ?_;rintro e w2 ⟨rfl,o2,hS2,hs2⟩;obtain⟨d1,d2,d3,d4⟩:=HKc.o _ _ hs2;have db:=wI.o _ _ hS2)
   | fail)
  go_wp2_with fail;go_ret2;exact⟨rfl,o2,hS2,HS.o.trans ((Stp.of_below (qe (qc w1))).trans hs2)⟩
 ·have H3:=Qa (H1.o he)
  have hb:(ef != 0)=true:=by rw[bne_iff_ne];exact he
  have hb2:(ef==0)=false:=by rw[Qh];exact he
  clear H1 H2;rw[H3.o];clear H3;go_in;go_wp2_with fail;refine HF.o.mono ?_;rintro e w1 ⟨rfl,o1,hS1,hs1⟩;go_wp2_with fail;go_ret2;exact⟨rfl,o1,hS1,hs1⟩
def Wm (args:Array Ac)(w:Aa):(callFunc 135 args).run AId w=.ok (.enter 135 args) w:=enters_of func135 (by kernel_rfl) rfl args w
def Ly (args:Array Ac)(w:Aa):(callFunc 76 args).run AId w=.ok (.enter 76 args) w:=enters_of func76 (by kernel_rfl) rfl args w
def Lz (args:Array Ac)(w:Aa):(callFunc 112 args).run AId w=.ok (.enter 112 args) w:=enters_of func112 (by kernel_rfl) rfl args w
def qlk (h0:Av w o y S)(hk:S.ok)(hi:i<S.Au.length)(p j:Nat)(v er:Int)(S2:Am)(R:BZ)
  (get:∀ w1 o1,Av w1 o1 y (S.Aq i p).1->Ab AId 76 #[ptr y.l.h,p,j] w1 fun e w'=>e=O (Ak #[v,er])/\BK y S2 o1 w1 w')
  (hG:Good S.Au.length R)(r1:(S.Aq i p).2≠0->R=⟨(S.Aq i p).1,0,(S.Aq i p).2⟩)(r2:(S.Aq i p).2=0->R=⟨S2,v,er⟩) :
  Ab AId 75 #[ptr y.sb,i,p,j,.func (.func 76) #[] #[]] w fun e w'=>e=O (Ak #[I Z (S.AF i R).v,I Z (S.AF i R).e])/\BK y (S.AF i R).S o w w':=by
 have fK:∀ (fn:Fn)(first cap:Array Ac)(w:Aa),(Ad fn first cap).run AId w=.ok (.func fn first cap) w:=fun _ _ _ _=>rfl
 obtain⟨o1,ho1⟩:∃ o1,o1=ext o w.1.size (y.l.id+1,0):=⟨_,rfl⟩;have h:=h0.retag (o':=o1) fun b hb=>by rw[ho1];exact qj hb
 have hS0:Stp (qh y) o o1 w w:=by rw[ho1];exact (Stp.refl _ o w).ext _ _ (Qk _)
 have hbx:∀ b,w.1.size<=b->o1 b=(y.l.id+1,0):=fun b hb=>by rw[ho1];exact qp hb
 clear ho1 h0;obtain⟨W,hW⟩:=Ja0 ((((w.alloc (AIe #[ptr y.sb] 24)).alloc (AIe #[p] 3)).alloc (AIe #[j] 3)).alloc (AIe #[.func (.func 76) #[] #[]] 123));have hbW:Ae w.1.size w W:=by rw[hW];exact qa (qa (qa (qa (qc w) _) _) _) _
 have j1:An W w.1.size #[ptr y.sb] 24:=by rw[hW];exact (((An.new w _ _).alloc _).alloc _).alloc _
 have j2:An W (w.1.size+1) #[p] 3:=by rw[hW];exact ((An.Ax _ _ _ _ _ (by simp) rfl).alloc _).alloc _
 have j4:An W (w.1.size+1+1) #[j] 3:=by rw[hW];exact (An.Ax _ _ _ _ _ (by simp) rfl).alloc _
 have j3:An W (w.1.size+1+1+1) #[.func (.func 76) #[] #[]] 123:=by rw[hW];exact An.Ax _ _ _ _ _ (by simp) rfl
 have HD:=Qa (wu 135 [ptr w.1.size,ptr (w.1.size+1),ptr (w.1.size+1+1+1),ptr (w.1.size+1+1)] (h.below hbW) hk hi Wm R (fun _=>hG)
  (fun _ w1 o2 hb he2 hS=>qkk p j _ v er _ S2 (gr hS hk hi p) get (j1.below hb j1.lt) (j2.below hb j2.lt) (j3.below hb j3.lt) (j4.below hb j4.lt)
   ((he2 _ j1.lt).trans (hbx _ (by omega))) ((he2 _ j2.lt).trans (hbx _ (by omega))) ((he2 _ j3.lt).trans (hbx _ (by omega))) ((he2 _ j4.lt).trans (hbx _ (by omega))) R r1 r2))
 have HS:=Qa (hS0.trans (Stp.of_below hbW));generalize S.AF i R=R' at *;clear h hk hi get hG r1 r2 hbx hS0 hbW j1 j2 j3 j4;go_in;go_wp2_with fail;rw[<-hW];refine HD.o.mono ?_
 rintro e w2⟨rfl,o2,hS2,hs2⟩
 go_wp2_with fail;go_ret2;exact⟨rfl,o2,hS2,HS.o.trans hs2⟩
def qmq (h0:Av w o y S)(hk:S.ok)(hi:i<S.Au.length)(p j:Nat)(v er:Int)(S2:Am)(R:BZ)
  (get:∀ w1 o1,Av w1 o1 y (S.Aq i p).1->Ab AId 112 #[ptr y.l.h,p,j] w1 fun e w'=>e=O (Ak #[v,er])/\BK y S2 o1 w1 w')
  (hG:Good S.Au.length R)(r1:(S.Aq i p).2≠0->R=⟨(S.Aq i p).1,0,(S.Aq i p).2⟩)(r2:(S.Aq i p).2=0->R=⟨S2,v,er⟩) :
  Ab AId 75 #[ptr y.sb,i,p,j,.func (.func 112) #[] #[]] w fun e w'=>e=O (Ak #[I Z (S.AF i R).v,I Z (S.AF i R).e])/\BK y (S.AF i R).S o w w':=by
 have fK:∀ (fn:Fn)(first cap:Array Ac)(w:Aa),(Ad fn first cap).run AId w=.ok (.func fn first cap) w:=fun _ _ _ _=>rfl
 obtain⟨o1,ho1⟩:∃ o1,o1=ext o w.1.size (y.l.id+1,0):=⟨_,rfl⟩;have h:=h0.retag (o':=o1) fun b hb=>by rw[ho1];exact qj hb
 have hS0:Stp (qh y) o o1 w w:=by rw[ho1];exact (Stp.refl _ o w).ext _ _ (Qk _)
 have hbx:∀ b,w.1.size<=b->o1 b=(y.l.id+1,0):=fun b hb=>by rw[ho1];exact qp hb
 clear ho1 h0;obtain⟨W,hW⟩:=Ja0 ((((w.alloc (AIe #[ptr y.sb] 24)).alloc (AIe #[p] 3)).alloc (AIe #[j] 3)).alloc (AIe #[.func (.func 112) #[] #[]] 123));have hbW:Ae w.1.size w W:=by rw[hW];exact qa (qa (qa (qa (qc w) _) _) _) _
 have j1:An W w.1.size #[ptr y.sb] 24:=by rw[hW];exact (((An.new w _ _).alloc _).alloc _).alloc _
 have j2:An W (w.1.size+1) #[p] 3:=by rw[hW];exact ((An.Ax _ _ _ _ _ (by simp) rfl).alloc _).alloc _
 have j4:An W (w.1.size+1+1) #[j] 3:=by rw[hW];exact (An.Ax _ _ _ _ _ (by simp) rfl).alloc _
 have j3:An W (w.1.size+1+1+1) #[.func (.func 112) #[] #[]] 123:=by rw[hW];exact An.Ax _ _ _ _ _ (by simp) rfl
 have HD:=Qa (wu 135 [ptr w.1.size,ptr (w.1.size+1),ptr (w.1.size+1+1+1),ptr (w.1.size+1+1)] (h.below hbW) hk hi Wm R (fun _=>hG)
  (fun _ w1 o2 hb he2 hS=>qla p j _ v er _ S2 (gr hS hk hi p) get (j1.below hb j1.lt) (j2.below hb j2.lt) (j3.below hb j3.lt) (j4.below hb j4.lt)
   ((he2 _ j1.lt).trans (hbx _ (by omega))) ((he2 _ j2.lt).trans (hbx _ (by omega))) ((he2 _ j3.lt).trans (hbx _ (by omega))) ((he2 _ j4.lt).trans (hbx _ (by omega))) R r1 r2))
 have HS:=Qa (hS0.trans (Stp.of_below hbW));generalize S.AF i R=R' at *;clear h hk hi get hG r1 r2 hbx hS0 hbW j1 j2 j3 j4;go_in;go_wp2_with fail;rw[<-hW];refine HD.o.mono ?_
 rintro e w2⟨rfl,o2,hS2,hs2⟩
 go_wp2_with fail;go_ret2;exact⟨rfl,o2,hS2,HS.o.trans hs2⟩
def Am.read (S:Am)(i p j:Nat):BZ:=S.AF i (S.Cb i p j)
def Am.get (S:Am)(i p j:Nat):BZ:=S.AF i (S.CK i p j)
def qou (h:Av w o y S)(hk:S.ok)(hi:i<S.Au.length)(p j:Nat) :
  Ab AId 24 #[ptr y.sb,i,p,j] w fun e w'=>e=O (Ak #[I Z (S.read i p j).v,I Z (S.read i p j).e])/\BK y (S.read i p j).S o w w':=by
 have hf:=Am.Ck hk hi p;have HF:=Qa (qlk h hk hi p j ((S.Aq i p).1.H.Cp p j).1 ((S.Aq i p).1.H.Cp p j).2 (S.Aq i p).1 (S.Cb i p j)
  (fun w1 o1 h1=>(Nk h1 hf p j).mono fun _ _⟨a,b⟩=>⟨a,h1.EC b⟩) (lc hk hi p j) (fun he=>by unfold Am.Cb;rw[if_pos he]) (fun he=>by unfold Am.Cb;rw[if_neg (by simpa using he)]))
 unfold Am.read;generalize S.AF i (S.Cb i p j)=R at *;clear h hk hi hf;go_in;go_wp2_with fail;refine HF.o.mono ?_
 rintro e w2⟨rfl,h2⟩
 go_wp2_with fail;go_ret2;exact⟨rfl,h2⟩
def Ks (h:Av w o y S)(hk:S.ok)(hi:i<S.Au.length)(p j:Nat) :
  Ab AId 57 #[ptr y.sb,i,p,j] w fun e w'=>e=O (Ak #[I Z (S.get i p j).v,I Z (S.get i p j).e])/\BK y (S.get i p j).S o w w':=by
 have hf:=Am.Ck hk hi p;have HF:=Qa (qmq h hk hi p j ((S.Aq i p).1.H.AY p j).2.1 ((S.Aq i p).1.H.AY p j).2.2 ((S.Aq i p).1.h ((S.Aq i p).1.H.AY p j).1) (S.CK i p j)
  (fun w1 o1 h1=>Kg h1 hf p j) (Ti hk hi p j) (fun he=>by unfold Am.CK;rw[if_pos he]) (fun he=>by unfold Am.CK;rw[if_neg (by simpa using he)]))
 unfold Am.get;generalize S.AF i (S.CK i p j)=R at *;clear h hk hi hf;go_in;go_wp2_with fail;refine HF.o.mono ?_
 rintro e w2⟨rfl,h2⟩
 go_wp2_with fail;go_ret2;exact⟨rfl,h2⟩
end
section
variable {w w' : Aa} {o o' : Own} {y : Bj} {S : Am} {i : Nat}
def Yv (h:Av w o y S)(hk:S.ok)(hi:i<S.Au.length)(p v:Nat)(hn:(S.Ba i p v).2=false) :
  Ab AId 168 #[ptr (y.lb i),Al #[p,v]] w fun e w'=>e=O (.bool false)/\Ae w.1.size w w':=by
 obtain⟨vr,vk,vh,vu,hl⟩:=(h.Au i _ (Am.AV hi)).log;unfold Am.Ba at hn;by_cases hd:∀ z ∈ (S.t i).log.holds,z.1≠p
 ·by_cases hm:(S.t i).log.holds.length<(S.t i).log.mu
  ·have e1:wy (S.t i).log p=true:=by unfold wy;simp only[Bool.and_eq_true,decide_eq_true_eq];exact⟨hd,hm⟩
   rw[if_pos e1]at hn;cases hn
  ·exact rx hl (hk.Er hi).ok p v hd (by omega)
 ·exact lu hl (hk.Er hi).ok p v hd
def lh {S:Am}{i p:Nat}(hn:(S.A3 i p).2=false):¬S.H.sec p%2=1/\(S.Ba i p (S.H.sec p/2)).2=false/\(S.A3 i p).1=S:=by
 unfold Am.A3 at hn ⊢;split at hn
 ·cases hn
 ·rename_i h1
  rw[if_neg h1];split at hn
  ·cases hn
  ·rename_i h2
   rw[if_neg h2];exact⟨h1,by simpa using h2,rfl⟩
def Uf (h:Av w o y S)(hk:S.ok)(hi:i<S.Au.length)(p:Nat)(hn:(S.A3 i p).2=false) :
  Ab AId 119 #[ptr y.sb,ptr (y.xb i),p] w fun e w'=>e=O (.bool false)/\Ae w.1.size w w':=by
 obtain⟨hod,hno,_⟩:=lh hn;have HC:=Qa (TD h hk p);obtain⟨hs,hv⟩:=hk.sec p;have HO:=(fun w=>SX (S.H.sec p) hv hs w)
 obtain⟨vq,vl,vm,hb,_⟩:=h.A2;unfold qk at hb;have c:=hb.cell;obtain⟨vt,jx,_⟩:=(h.Au i _ (Am.AV hi)).A2;unfold zg at jx;have HL:=Qa (fun w' (hw:Ae w.1.size w w')=>Yv (h.below hw) hk hi p (S.H.sec p/2) hno)
 rw[if_neg hod,if_neg hod,decide_eq_false hod]at HO;replace HO:=Qa HO;generalize S.H.sec p/2=v2 at *;generalize S.H.sec p=v at *;clear h hk hi hs hv hod hn hno;go_in;go_wp2_with fail;refine HC.o.mono ?_
 rintro e w1⟨er,rfl,hb1⟩
 have cx:=(jx.below hb1 jx.lt).cell;go_wp2_with fail;refine (HO.o _).mono ?_
 rintro e w2⟨rfl,rfl⟩
 go_wp2_with fail;refine (HL.o _ hb1).mono ?_
 rintro e w2⟨rfl,hb2⟩
 go_wp2_with fail;go_ret;exact⟨rfl,qd hb1 hb2⟩
structure Su (ef eg se:Int)(hb ub:Bool)(S1 S2 S3 S4 S5:Am)(R:BZ):Prop where
 r1:ef≠0->R.S=S1/\R.e=ef
 r2:ef=0->eg≠0->R.S=S2/\R.e=eg
 r3:ef=0->eg=0->hb=false->R.S=S3/\R.e=130
 r4:ef=0->eg=0->hb=true->ub=false->R.S=S4/\R.e=130
 r5:ef=0->eg=0->hb=true->ub=true->R.S=S5/\R.e=se
def UQ (gf sf:Nat)(egf:∀ args w,(callFunc gf args).run AId w=.ok (.enter gf args) w)(esf:∀ args w,(callFunc sf args).run AId w=.ok (.enter sf args) w)
  (kd p j:Nat)(v old ef eg se:Int)(hb ub:Bool)(S1 S2 S3 S4 S5:Am)(R:BZ)(hR:Su ef eg se hb ub S1 S2 S3 S4 S5 R)(h:Av w o y S)(hx3:i<S3.Au.length)
  (fields:∀ w1 o1,Av w1 o1 y S->Ab AId 136 #[ptr y.sb,ptr (y.xb i),p] w1 fun e w'=>e=O ef/\BK y S1 o1 w1 w')
  (get:∀ w1 o1,Av w1 o1 y S1->Ab AId gf #[ptr y.l.h,p,j] w1 fun e w'=>e=O (Ak #[old,eg])/\BK y S2 o1 w1 w')
  (hold:∀ w1 o1,Av w1 o1 y S2->Ab AId 119 #[ptr y.sb,ptr (y.xb i),p] w1 fun e w'=>e=O (.bool hb)/\BK y S3 o1 w1 w')
  (hno:hb=false->S3=S2/\∀ w1 o1,Av w1 o1 y S2->Ab AId 119 #[ptr y.sb,ptr (y.xb i),p] w1 fun e w'=>e=O (.bool false)/\Ae w1.1.size w1 w')
  (CO:∀ w1 o1,Av w1 o1 y S3->Ab AId 120 #[ptr (y.lb i),Al #[kd,p,j,old]] w1 fun e w'=>e=O (.bool ub)/\BK y S4 o1 w1 w')
  (set:∀ w1 o1,Av w1 o1 y S4->Ab AId sf #[ptr y.l.h,p,j,v] w1 fun e w'=>e=O se/\BK y S5 o1 w1 w') :
  Ab AId 109 #[ptr y.sb,ptr (y.xb i),Al #[kd,p,j,I Z 0],.func (.func gf) #[ptr y.l.h] #[],.func (.func sf) #[ptr y.l.h] #[],v] w
   fun e w'=>e=O (I Z R.e)/\BK y R.S o w w':=by
 obtain⟨o1,ho1⟩:∃ o1,o1=ext o w.1.size (y.l.id+1,0):=⟨_,rfl⟩;have hr:=h.retag (o':=o1) fun b hb=>by rw[ho1];exact qj hb
 have hS0:Stp (qh y) o o1 w w:=by rw[ho1];exact (Stp.refl _ o w).ext _ _ (Qk _)
 have hbx:o1 w.1.size=(y.l.id+1,0):=by rw[ho1];exact qp (Qk _)
 clear ho1 h;obtain⟨RS,Rv,Re⟩:=R;have HRR:=Qa hR;have HF:=Qa (fun w' (hw:Ae w.1.size w w')=>fields w' o1 (hr.below hw))
 have HG:=Qa get;have HH:=Qa hold;have HN:=Qa hno;have HU:=Qa CO;have HS:=Qa set;have HB:=Qa (qo y);have H0:=Qa hS0;have hX2:=Qa (fun w' o' (hS:Av w' o' y S3)=>(hS.Au i _ (Am.AV hx3)).A2)
 have jU:=An.new w #[kd,p,j,I Z 0] 175;clear fields get hold hno CO set hr hS0 hx3 hR;go_in;have cU:=jU.cell;go_wp2_with fail;refine (HF.o _ (qa (qc w) _)).mono ?_
 rintro e w1 ⟨rfl,o2,hS1,hs1⟩
 have jU1:=jU.Ar hs1 (by rw[hbx];exact HB.o)
 have tU1:o2 w.1.size=(y.l.id+1,0):=(hs1.tags _ jU.lt).trans hbx;have H1:=Qa (H0.o.trans ((Stp.of_below (qa (qc w) _)).trans hs1));clear cU hs1 jU hbx;by_cases he:ef=0
 ·subst he
  have cU:=jU1.cell;go_wp2_with fail;refine (HG.o _ o2 hS1).mono ?_;rintro e w2 ⟨rfl,o3,hS2,hs2⟩;have uA:=jU1.Ar hs2 (by rw[tU1];exact HB.o)
  have tU2:o3 w.1.size=(y.l.id+1,0):=(hs2.tags _ jU1.lt).trans tU1;have H2:=Qa (H1.o.trans hs2);clear cU hs2 jU1 tU1 hS1;by_cases he2:eg=0
  ·subst he2
   have cU:=uA.cell;have zU:=uA.free;have sU:=uA.lt;go_upto_region 8 with fail;obtain⟨W,hW⟩:=Ja0 (w2.setCell ⟨w.1.size,3,none⟩ old);rw[<-hW];have jW:An W w.1.size #[kd,p,j,old] 175:=by rw[hW];exact uA.set 3 _
   have hSW:Av W o3 y S2:=by rw[hW];exact hS2.box tU2 _
   have hs2:Stp (qh y) o o3 w W:=by rw[hW];exact H2.o.setCell_new (Qk _) _
   clear hW cU zU sU uA hS2 H2;have cW:=jW.cell;have mU:=Qa (hSW.below (qe (qc W)))
   cases hb with
   | false =>
    have e1:=(HRR.o.r3 rfl rfl rfl);simp only at e1;obtain⟨rfl,rfl⟩:=e1;obtain⟨rfl,hn9⟩:=HN.o rfl;have uO:=Qa (fun (e:Later W)=>hn9 e.1 o3 (hSW.below e.2));have rO:=Qa hSW;have l1:=fun (e:Later W)(i:Nat)=>Later.cell jW e i;clear cW mU hn9 HH HU HS HG HF hX2 hSW;refine qy (by kernel_rfl) (by kernel_rfl) ?_
    repeat (go_big_quiet_step ((go_at_call 119;exact ku (uO.o _))))
    refine wpQuiet_nil ?_;intro w8 hW0;obtain⟨⟨W9,fA⟩,hwt⟩:=hW0;have hwt:w8=W9:=hwt;subst hwt;go_wp2_with fail;go_ret;exact⟨rfl,o3,rO.o.below fA,hs2.trans (Stp.of_below fA)⟩
   | true =>
    clear hSW
    cases ub with
    | false =>
     have e1:=(HRR.o.r4 rfl rfl rfl rfl);simp only at e1;obtain⟨rfl,rfl⟩:=e1;go_region_with (first
      | (go_at_call 119;refine (HH.o _ o3 mU.o).mono ?_;rintro e w3 ⟨rfl,o4,dC,hs3⟩;have m1:=(qi jW).Ar hs3 (by rw[tU2];exact HB.o);have d1:=m1.cell;obtain⟨vt3,gD,_⟩:=hX2.o _ _ dC;unfold zg at gD;have dx:=gD.cell)
      | (go_at_call 120;refine (HU.o _ o4 dC).mono ?_;rintro e w4 ⟨rfl,o5,dX,hs4⟩)
      | fail)
     all_goals
      go_wp2_with fail;go_ret;exact⟨rfl,o5,dX,((hs2.trans (Stp.of_below (qe (qc W)))).trans hs3).trans hs4⟩
    | true =>
     have e1:=(HRR.o.r5 rfl rfl rfl rfl);simp only at e1;obtain⟨rfl,rfl⟩:=e1;go_region_with (first
      | (go_at_call 119;refine (HH.o _ o3 mU.o).mono ?_;rintro e w3 ⟨rfl,o4,dC,hs3⟩;have m1:=(qi jW).Ar hs3 (by rw[tU2];exact HB.o);have d1:=m1.cell;obtain⟨vt3,gD,_⟩:=hX2.o _ _ dC;unfold zg at gD;have dx:=gD.cell)
      | (go_at_call 120;refine (HU.o _ o4 dC).mono ?_;rintro e w4 ⟨rfl,o5,dX,hs4⟩)
      | fail)
     all_goals
      have n1:=m1.Ar hs4 (by rw[(hs3.tags _ (qi jW).lt).trans tU2];exact HB.o)
      clear d1 dx cW;have d1:=n1.cell;go_wp2_with fail;refine (HS.o _ o5 dX).mono ?_;rintro e w5 ⟨rfl,o6,hS5,hs5⟩;go_wp2_with fail;go_ret;exact⟨rfl,o6,hS5,(((hs2.trans (Stp.of_below (qe (qc W)))).trans hs3).trans hs4).trans hs5⟩
  ·have e1:=(HRR.o.r2 rfl he2)
   simp only at e1;obtain⟨rfl,rfl⟩:=e1;have hbb:(Re != 0)=true:=by rw[bne_iff_ne];exact he2
   have hb2:(Re==0)=false:=by rw[Qh];exact he2
   clear he2;go_wp2_with fail;go_ret;exact⟨rfl,o3,hS2,H2.o⟩
 ·have e1:=(HRR.o.r1 he)
  simp only at e1;obtain⟨rfl,rfl⟩:=e1;have hbb:(Re != 0)=true:=by rw[bne_iff_ne];exact he
  have hb2:(Re==0)=false:=by rw[Qh];exact he
  clear he;go_wp2_with fail;go_ret;exact⟨rfl,o2,hS1,H1.o⟩
def qk6 (args:Array Ac)(w:Aa):(callFunc 110 args).run AId w=.ok (.enter 110 args) w:=enters_of func110 (by kernel_rfl) rfl args w
def qlb (args:Array Ac)(w:Aa):(callFunc 113 args).run AId w=.ok (.enter 113 args) w:=enters_of func113 (by kernel_rfl) rfl args w
def Lq (h:Av w o y S)(hk:S.ok)(hi:i<S.Au.length)(p j:Nat)(v:Int)(hv:-9223372036854775808<=v/\v<=9223372036854775807) :
  Ab AId 109 #[ptr y.sb,ptr (y.xb i),Al #[I Z 2,p,j,I Z 0],.func (.func 76) #[ptr y.l.h] #[],.func (.func 110) #[ptr y.l.h] #[],v] w
   fun e w'=>e=O (I Z (S.Br i p j v).e)/\BK y (S.Br i p j v).S o w w':=by
 have hf:=Am.Ck hk hi p;have hl:=wz S i p;have hi1:i<(S.Aq i p).1.Au.length:=by omega
 have hh:=Am.DD hf hi1 p;have hl2:=pw (S.Aq i p).1 i p;have hi2:i<((S.Aq i p).1.A3 i p).1.Au.length:=by omega
 have hnb:=hf.FK p j;have hu:=Am.Ej hh hi2 ⟨2,p,j,((S.Aq i p).1.H.Cp p j).1⟩ hnb (fun h=>by simp at h)
 refine UQ _ _ Ly qk6 2 p j v ((S.Aq i p).1.H.Cp p j).1 (S.Aq i p).2 ((S.Aq i p).1.H.Cp p j).2 _ ((S.Aq i p).1.A3 i p).2 _ (S.Aq i p).1 (S.Aq i p).1 ((S.Aq i p).1.A3 i p).1 _ _ (S.Br i p j v) ?_ h hi2
  (fun w1 o1 h1=>gr h1 hk hi p) (fun w1 o1 h1=>(Nk h1 hf p j).mono fun _ _ ⟨a,b⟩=>⟨a,h1.EC b⟩) (fun w1 o1 h1=>TC h1 hf hi1 p) (fun e=>⟨(lh e).2.2,fun w1 o1 h1=>Uf h1 hf hi1 p e⟩)
  (fun w1 o1 h1=>Tl h1 hh hi2 ⟨2,p,j,((S.Aq i p).1.H.Cp p j).1⟩) (fun w1 o1 h1=>WS h1 hu p j v hv)
 refine⟨fun e=>?_,fun e1 e2=>?_,fun e1 e2 e3=>?_,fun e1 e2 e3 e4=>?_,fun e1 e2 e3 e4=>?_⟩<;>unfold Am.Br
 ·rw[if_pos e];exact⟨rfl,rfl⟩
 ·rw[if_neg (by simpa using e1),if_pos (by simpa using e2)];exact⟨rfl,rfl⟩
 ·rw[if_neg (by simpa using e1),if_neg (by simpa using e2)];unfold Am.BH;rw[if_pos e3];exact⟨rfl,rfl⟩
 ·rw[if_neg (by simpa using e1),if_neg (by simpa using e2)];unfold Am.BH;rw[if_neg (by rw[e3];simp),if_pos e4];exact⟨rfl,rfl⟩
 ·rw[if_neg (by simpa using e1),if_neg (by simpa using e2)];unfold Am.BH;rw[if_neg (by rw[e3];simp),if_neg (by rw[e4];simp)];exact⟨rfl,rfl⟩
def Lr (h:Av w o y S)(hk:S.ok)(hi:i<S.Au.length)(p j q:Nat) :
  Ab AId 109 #[ptr y.sb,ptr (y.xb i),Al #[I Z 1,p,j,I Z 0],.func (.func 112) #[ptr y.l.h] #[],.func (.func 113) #[ptr y.l.h] #[],q] w
   fun e w'=>e=O (I Z (S.Dx i p j q).e)/\BK y (S.Dx i p j q).S o w w':=by
 have hf:=Am.Ck hk hi p;have hl:=wz S i p;have hp:((S.Aq i p).1.h ((S.Aq i p).1.H.AY p j).1).ok:=Am.Ec hf p j;have hlp:((S.Aq i p).1.h ((S.Aq i p).1.H.AY p j).1).Au.length=S.Au.length:=hl;have hi1:i<((S.Aq i p).1.h ((S.Aq i p).1.H.AY p j).1).Au.length:=by omega
 have hh:=Am.DD hp hi1 p;have hl2:=pw ((S.Aq i p).1.h ((S.Aq i p).1.H.AY p j).1) i p;have hi2:i<(((S.Aq i p).1.h ((S.Aq i p).1.H.AY p j).1).A3 i p).1.Au.length:=by omega
 have hb:=Xi hf.H p j;have hu:=Am.Ej hh hi2 ⟨1,p,j,((S.Aq i p).1.H.AY p j).2.1⟩ (by simp only;omega) (fun _=>by simp only;omega)
 refine UQ _ _ Lz qlb 1 p j q ((S.Aq i p).1.H.AY p j).2.1 (S.Aq i p).2 ((S.Aq i p).1.H.AY p j).2.2 _ (((S.Aq i p).1.h ((S.Aq i p).1.H.AY p j).1).A3 i p).2 _ (S.Aq i p).1 ((S.Aq i p).1.h ((S.Aq i p).1.H.AY p j).1) (((S.Aq i p).1.h ((S.Aq i p).1.H.AY p j).1).A3 i p).1 _ _ (S.Dx i p j q) ?_ h hi2
  (fun w1 o1 h1=>gr h1 hk hi p) (fun w1 o1 h1=>Kg h1 hf p j) (fun w1 o1 h1=>TC h1 hp hi1 p) (fun e=>⟨(lh e).2.2,fun w1 o1 h1=>Uf h1 hp hi1 p e⟩)
  (fun w1 o1 h1=>Tl h1 hh hi2 ⟨1,p,j,((S.Aq i p).1.H.AY p j).2.1⟩) (fun w1 o1 h1=>Tz h1 hu p j q)
 refine⟨fun e=>?_,fun e1 e2=>?_,fun e1 e2 e3=>?_,fun e1 e2 e3 e4=>?_,fun e1 e2 e3 e4=>?_⟩<;>unfold Am.Dx
 ·rw[if_pos e];exact⟨rfl,rfl⟩
 ·rw[if_neg (by simpa using e1),if_pos (by simpa using e2)];exact⟨rfl,rfl⟩
 ·rw[if_neg (by simpa using e1),if_neg (by simpa using e2)];unfold Am.BH;rw[if_pos e3];exact⟨rfl,rfl⟩
 ·rw[if_neg (by simpa using e1),if_neg (by simpa using e2)];unfold Am.BH;rw[if_neg (by rw[e3];simp),if_pos e4];exact⟨rfl,rfl⟩
 ·rw[if_neg (by simpa using e1),if_neg (by simpa using e2)];unfold Am.BH;rw[if_neg (by rw[e3];simp),if_neg (by rw[e4];simp)];exact⟨rfl,rfl⟩
def G2 (S:Am)(i p:Nat)(u:Un)(set:Hp->Hp×Nat):(S.BH i p u set).v=0:=by unfold Am.BH;split<;>(try split)<;>rfl
def KR (S:Am)(i p j:Nat)(v:Int):(S.Br i p j v).v=0:=by
 unfold Am.Br;split
 ·rfl
 ·split
  ·rfl
  ·exact G2 _ _ _ _ _
def Po (S:Am)(i p j q:Nat):(S.CM i p j q).v=0:=by
 unfold Am.CM Am.Dx;split
 ·rfl
 ·split
  ·rfl
  ·split
   ·rfl
   ·exact G2 _ _ _ _ _
def LO (S:Am)(i p:Nat):(S.B1 i p).v=0:=by
 unfold Am.B1;split
 ·rfl
 ·exact G2 _ _ _ _ _
def qpg (args:Array Ac)(w:Aa):(callFunc 108 args).run AId w=.ok (.enter 108 args) w:=enters_of func108 (by kernel_rfl) rfl args w
def ql3 (p j:Nat)(v err:Int)(S4:Am)(h:Av w o y S)
  (ch:∀ w1,Ae w.1.size w w1->Ab AId 109 #[ptr y.sb,ptr (y.xb i),Al #[I Z 2,p,j,I Z 0],.func (.func 76) #[ptr y.l.h] #[],.func (.func 110) #[ptr y.l.h] #[],v] w1
   fun e w'=>e=O err/\BK y S4 o w1 w')
  {b1 b2 b3 b4:Nat}(j1:An w b1 #[p] 3)(j2:An w b2 #[j] 3)(j3:An w b3 #[ptr y.sb] 24)(j4:An w b4 #[v] 3) :
  Ab AId 108 #[ptr (y.xb i),ptr b1,ptr b2,ptr b3,ptr b4] w fun e w'=>e=O (Ak #[I Z 0,err])/\BK y S4 o w w':=by
 have fK:∀ (fn:Fn)(first cap:Array Ac)(w:Aa),(Ad fn first cap).run AId w=.ok (.func fn first cap) w:=fun _ _ _ _=>rfl
 have HC:=Qa ch;obtain⟨vq,vl,vm,jb,_⟩:=h.A2;unfold qk at jb;have c1:=j1.cell;have c2:=j2.cell;clear ch h;go_in;go_upto_region 2 with fail;obtain⟨W,hW⟩:=Ja0 (w.alloc (AIe #[I Z 2,p,j,I Z 0] 175));rw[<-hW];have hbW:Ae w.1.size w W:=by rw[hW];exact qa (qc w) _
 have jU:An W w.1.size #[I Z 2,p,j,I Z 0] 175:=by rw[hW];exact An.new w _ _
 have k3:=j3.below hbW j3.lt;have k4:=j4.below hbW j4.lt;have kb:=jb.below hbW jb.lt;clear hW c1 c2 j1 j2 j3 j4 jb;have c3:=k3.cell;have c4:=k4.cell;have cb:=kb.cell;have cU:=jU.cell;have iq:=Qa (HC.o W.drew (qe hbW));go_still_tail 14,(by kernel_rfl)
 change wpList _ _ _ _ _ W.drew;go_wp2_with fail;refine iq.o.mono ?_
 rintro e w2⟨rfl,o2,hS2,hs2⟩
 go_wp2_with fail;go_ret2;exact⟨rfl,o2,hS2,(Stp.of_below (qe hbW)).trans hs2⟩
def Am.write (S:Am)(i p j:Nat)(v:Int):BZ:=S.AF i (S.Br i p j v)
def Am.put (S:Am)(i p j q:Nat):BZ:=S.AF i (S.CM i p j q)
def Am.free (S:Am)(i p:Nat):BZ:=S.AF i (S.B1 i p)
def qk8 (h:Av w o y S) (hk:S.ok) (hi:i<S.Au.length) (p j:Nat) (v:Int) (hv:-9223372036854775808<=v/\v<=9223372036854775807) :
  Ab AId 48 #[ptr y.sb,i,p,j,v] w fun e w'=>e=O (I Z (S.write i p j v).e)/\BK y (S.write i p j v).S o w w':=by
 have fK:∀ (fn:Fn) (first cap:Array Ac) (w:Aa),(Ad fn first cap).run AId w=.ok (.func fn first cap) w:=fun _ _ _ _=>rfl
 obtain⟨W,hW⟩:=Ja0 ((((w.alloc (AIe #[ptr y.sb] 24)).alloc (AIe #[p] 3)).alloc (AIe #[j] 3)).alloc (AIe #[v] 3));have hbW:Ae w.1.size w W:=by rw[hW];exact qa (qa (qa (qa (qc w) _) _) _) _
 have j1:An W w.1.size #[ptr y.sb] 24:=by rw[hW];exact (((An.new w _ _).alloc _).alloc _).alloc _
 have j2:An W (w.1.size+1) #[p] 3:=by rw[hW];exact ((An.Ax _ _ _ _ _ (by simp) rfl).alloc _).alloc _
 have j3:An W (w.1.size+1+1) #[j] 3:=by rw[hW];exact (An.Ax _ _ _ _ _ (by simp) rfl).alloc _
 have j4:An W (w.1.size+1+1+1) #[v] 3:=by rw[hW];exact An.Ax _ _ _ _ _ (by simp) rfl
 have HD:=Qa (wu 108 [ptr (w.1.size+1),ptr (w.1.size+1+1),ptr w.1.size,ptr (w.1.size+1+1+1)] (h.below hbW) hk hi qpg (S.Br i p j v) (fun _=>fy hk hi p j hv)
  (fun _ w1 o2 hb he2 hS=>by
   rw[KR];exact ql3 p j v _ _ hS (fun w2 hb2=>Lq (hS.below hb2) hk hi p j v hv) (j2.below hb j2.lt) (j3.below hb j3.lt) (j1.below hb j1.lt) (j4.below hb j4.lt)))
 have HS:=Qa (Stp.of_below (T:=qh y) (o:=o) hbW);unfold Am.write;generalize S.AF i (S.Br i p j v)=R at *;clear h hbW j1 j2 j3 j4 hk hi;go_in;go_wp2_with fail;rw[<-hW];refine HD.o.mono ?_
 rintro e w2⟨rfl,o2,hS2,hs2⟩
 go_wp2_with fail;go_ret;exact⟨rfl,o2,hS2,HS.o.trans hs2⟩
end
section
variable {w w' : Aa} {o o' : Own} {y : Bj} {S : Am} {i : Nat}
def LA (args:Array Ac)(w:Aa):(callFunc 111 args).run AId w=.ok (.enter 111 args) w:=enters_of func111 (by kernel_rfl) rfl args w
def Mu (q:Nat)(h:Av w o y S)(hk:S.ok)(hq:q≠0/\lk S.H.cur q=none)
  {b1 b2 b3 b4:Nat}(j1:An w b1 #[q] 3)(j2:An w b2 #[ptr y.sb] 24) :
  Ab AId 111 #[ptr (y.xb i),ptr b1,ptr b2,ptr b3,ptr b4] w fun e w'=>e=O (Ak #[I Z 0,I Z 70])/\BK y S o w w':=by
 have HH:=Qa (fun (e:Later w)=>Q5 (h.below e.2) hk q)
 rw[hq.2]at HH;simp only[Option.isSome_none]at HH;have HS:=Qa h;obtain⟨vq,vl,vm,jb,_⟩:=h.A2;unfold qk at jb;have sZ:((q:Int) != 0)=true:=by rw[bne_iff_ne];have:=hq.1;omega
 have l1:=fun (e:Later w)(i:Nat)=>Later.cell j1 e i
 have l2:=fun (e:Later w)(i:Nat)=>Later.cell j2 e i
 have l5:=fun (e:Later w)(i:Nat)=>Later.cell jb e i
 clear h hk hq;go_in;go_upto_region 1 with fail;refine qy (by kernel_rfl) (by kernel_rfl) ?_
 repeat (go_big_quiet_step ((go_at_call 61;exact ku (HH.o _))))
 refine wpQuiet_nil ?_;intro w8 hW0;obtain⟨⟨W0,hb0⟩,hwt⟩:=hW0;have hwt:w8=W0:=hwt;subst hwt;go_wp2_with fail;go_ret2;exact⟨rfl,HS.o.EC hb0⟩
def J3 (p j q:Nat)(err:Int)(S4:Am)(h:Av w o y S)(hk:S.ok)(hq:¬(q≠0/\lk S.H.cur q=none))
  (ch:∀ w1,Ae w.1.size w w1->Ab AId 109 #[ptr y.sb,ptr (y.xb i),Al #[I Z 1,p,j,I Z 0],.func (.func 112) #[ptr y.l.h] #[],.func (.func 113) #[ptr y.l.h] #[],q] w1
   fun e w'=>e=O err/\BK y S4 o w1 w')
  {b1 b2 b3 b4:Nat}(j1:An w b1 #[q] 3)(j2:An w b2 #[ptr y.sb] 24)(j3:An w b3 #[p] 3)(j4:An w b4 #[j] 3) :
  Ab AId 111 #[ptr (y.xb i),ptr b1,ptr b2,ptr b3,ptr b4] w fun e w'=>e=O (Ak #[I Z 0,err])/\BK y S4 o w w':=by
 have fK:∀ (fn:Fn)(first cap:Array Ac)(w:Aa),(Ad fn first cap).run AId w=.ok (.func fn first cap) w:=fun _ _ _ _=>rfl
 have HC:=Qa ch;obtain⟨vq,vl,vm,jb,_⟩:=h.A2;unfold qk at jb;have HH:=(fun (e:Later w)=>Q5 (h.below e.2) hk q)
 have hq2:q≠0->(lk S.H.cur q).isSome=true:=fun h0=>by
  cases hl:lk S.H.cur q with
  | none=>exact absurd ⟨h0,hl⟩ hq
  | some ob=>rfl
 have HH:=Qa HH;have kX:=Qa hq2;clear ch h hk hq hq2;go_in;go_upto_region 1 with fail;rcases Nat.eq_zero_or_pos q with hq0|hq0
 ·have sZ:((q:Int) != 0)=false:=by rw[hq0];rfl
  have c1:=j1.cell;clear hq0;go_quiet (fail);obtain⟨W0,hW0⟩:=Ja0 (w.drewN nq);have hb0:Ae w.1.size w W0:=by rw[hW0];exact zi (qc _) _
  rw[<-hW0];clear hW0 c1;have k1:=j1.below hb0 j1.lt;have k2:=j2.below hb0 j2.lt;have k3:=j3.below hb0 j3.lt;have k4:=j4.below hb0 j4.lt;have kb:=jb.below hb0 jb.lt;have c3:=k3.cell;have c4:=k4.cell;go_upto_region 4 with fail;clear c3 c4;obtain⟨W,hW⟩:=Ja0 (W0.alloc (AIe #[I Z 1,p,j,I Z 0] 175));rw[<-hW];have hbW:Ae w.1.size w W:=by rw[hW];exact qa hb0 _
  have jU:An W W0.1.size #[I Z 1,p,j,I Z 0] 175:=by rw[hW];exact An.new W0 _ _
  have k1:=j1.below hbW j1.lt;have k2:=j2.below hbW j2.lt;have kb:=jb.below hbW jb.lt;clear hW;have c3:=k1.cell;have c4:=k2.cell;have cb:=kb.cell;have cU:=jU.cell;have iq:=Qa (HC.o W.drew (qe hbW));go_still_tail 14,(by kernel_rfl)
  change wpList _ _ _ _ _ W.drew;go_wp2_with fail;refine iq.o.mono ?_;rintro e w2 ⟨rfl,o2,hS2,hs2⟩;go_wp2_with fail;go_ret2;exact⟨rfl,o2,hS2,(Stp.of_below (qe hbW)).trans hs2⟩
 ·have sZ:((q:Int) != 0)=true:=by rw[bne_iff_ne];omega
  have vV:=HH.o;rw[kX.o (by omega)]at vV
  have vV:=Qa vV;have l1:=fun (e:Later w)(i:Nat)=>Later.cell j1 e i;have l2:=fun (e:Later w)(i:Nat)=>Later.cell j2 e i;have l5:=fun (e:Later w)(i:Nat)=>Later.cell jb e i;clear hq0 HH kX;refine qy (by kernel_rfl) (by kernel_rfl) ?_
  repeat (go_big_quiet_step ((go_at_call 61;exact ku (vV.o _))))
  refine wpQuiet_nil ?_;intro w8 hW0;obtain⟨⟨W0,hb0⟩,hwt⟩:=hW0;have hwt:w8=W0:=hwt;subst hwt;clear l1 l2 l5;have k1:=j1.below hb0 j1.lt;have k2:=j2.below hb0 j2.lt;have k3:=j3.below hb0 j3.lt;have k4:=j4.below hb0 j4.lt;have kb:=jb.below hb0 jb.lt;have c3:=k3.cell;have c4:=k4.cell;go_upto_region 4 with fail;clear c3 c4;obtain⟨W,hW⟩:=Ja0 (w8.alloc (AIe #[I Z 1,p,j,I Z 0] 175));rw[<-hW];have hbW:Ae w.1.size w W:=by rw[hW];exact qa hb0 _
  have jU:An W w8.1.size #[I Z 1,p,j,I Z 0] 175:=by rw[hW];exact An.new w8 _ _
  have k1:=j1.below hbW j1.lt;have k2:=j2.below hbW j2.lt;have kb:=jb.below hbW jb.lt;clear hW;have c3:=k1.cell;have c4:=k2.cell;have cb:=kb.cell;have cU:=jU.cell;have iq:=Qa (HC.o W.drew (qe hbW));go_still_tail 14,(by kernel_rfl)
  change wpList _ _ _ _ _ W.drew;go_wp2_with fail;refine iq.o.mono ?_;rintro e w2 ⟨rfl,o2,hS2,hs2⟩;go_wp2_with fail;go_ret2;exact⟨rfl,o2,hS2,(Stp.of_below (qe hbW)).trans hs2⟩
def Ku (h:Av w o y S) (hk:S.ok) (hi:i<S.Au.length) (p j q:Nat) :
  Ab AId 49 #[ptr y.sb,i,p,j,q] w fun e w'=>e=O (I Z (S.put i p j q).e)/\BK y (S.put i p j q).S o w w':=by
 have fK:∀ (fn:Fn) (first cap:Array Ac) (w:Aa),(Ad fn first cap).run AId w=.ok (.func fn first cap) w:=fun _ _ _ _=>rfl
 obtain⟨W,hW⟩:=Ja0 ((((w.alloc (AIe #[ptr y.sb] 24)).alloc (AIe #[p] 3)).alloc (AIe #[j] 3)).alloc (AIe #[q] 3));have hbW:Ae w.1.size w W:=by rw[hW];exact qa (qa (qa (qa (qc w) _) _) _) _
 have j1:An W w.1.size #[ptr y.sb] 24:=by rw[hW];exact (((An.new w _ _).alloc _).alloc _).alloc _
 have j2:An W (w.1.size+1) #[p] 3:=by rw[hW];exact ((An.Ax _ _ _ _ _ (by simp) rfl).alloc _).alloc _
 have j3:An W (w.1.size+1+1) #[j] 3:=by rw[hW];exact (An.Ax _ _ _ _ _ (by simp) rfl).alloc _
 have j4:An W (w.1.size+1+1+1) #[q] 3:=by rw[hW];exact An.Ax _ _ _ _ _ (by simp) rfl
 have HD:=Qa (wu 111 [ptr (w.1.size+1+1+1),ptr w.1.size,ptr (w.1.size+1),ptr (w.1.size+1+1)] (h.below hbW) hk hi LA (S.CM i p j q) (fun _=>Tm hk hi p j q)
  (fun _ w1 o2 hb he2 hS=>by
   rw[Po];unfold Am.CM;by_cases hq:q≠0/\lk S.H.cur q=none
   ·rw[if_pos hq]
    exact Mu q hS hk hq (j4.below hb j4.lt) (j1.below hb j1.lt)
   ·rw[if_neg hq]
    exact J3 p j q _ _ hS hk hq (fun w2 hb2=>Lr (hS.below hb2) hk hi p j q) (j4.below hb j4.lt) (j1.below hb j1.lt) (j2.below hb j2.lt) (j3.below hb j3.lt)))
 have HS:=Qa (Stp.of_below (T:=qh y) (o:=o) hbW);unfold Am.put;generalize S.AF i (S.CM i p j q)=R at *;clear h hbW j1 j2 j3 j4 hk hi;go_in;go_wp2_with fail;rw[<-hW];refine HD.o.mono ?_
 rintro e w2⟨rfl,o2,hS2,hs2⟩
 go_wp2_with fail;go_ret;exact⟨rfl,o2,hS2,HS.o.trans hs2⟩
end
section
variable {w w' : Aa} {o o' : Own} {y : Bj} {S : Am} {i : Nat}
def Hj (args:Array Ac)(w:Aa):(callFunc 117 args).run AId w=.ok (.enter 117 args) w:=enters_of func117 (by kernel_rfl) rfl args w
structure P3 (el se:Int)(hb ub:Bool)(S1 S3 S4 S5:Am)(R:BZ):Prop where
 r1:el≠0->R.S=S1/\R.e=el
 r3:el=0->hb=false->R.S=S3/\R.e=130
 r4:el=0->hb=true->ub=false->R.S=S4/\R.e=130
 r5:el=0->hb=true->ub=true->R.S=S5/\R.e=se
def qoa (p:Nat)(el se:Int)(hb ub:Bool)(s:BR)(S1 S3 S4 S5:Am)(R:BZ)(hR:P3 el se hb ub S1 S3 S4 S5 R)(hx3:i<S3.Au.length)
  (look:Ab AId 118 #[ptr y.sb,ptr (y.xb i),p] w fun e w'=>e=O (Ak #[kg s,el])/\BK y S1 o w w')
  (hold:∀ w1 o1,Av w1 o1 y S1->Ab AId 119 #[ptr y.sb,ptr (y.xb i),p] w1 fun e w'=>e=O (.bool hb)/\BK y S3 o1 w1 w')
  (hno:hb=false->S3=S1/\∀ w1 o1,Av w1 o1 y S1->Ab AId 119 #[ptr y.sb,ptr (y.xb i),p] w1 fun e w'=>e=O (.bool false)/\Ae w1.1.size w1 w')
  (CO:∀ w1 o1,Av w1 o1 y S3->Ab AId 120 #[ptr (y.lb i),Al #[I Z 3,p,I Z 0,I Z 0]] w1 fun e w'=>e=O (.bool ub)/\BK y S4 o1 w1 w')
  (free:∀ w1 o1,Av w1 o1 y S4->Ab AId 121 #[ptr y.l.h,p,.bool true] w1 fun e w'=>e=O se/\BK y S5 o1 w1 w')
  {b1 b2:Nat}(j1:An w b1 #[ptr y.sb] 24)(j2:An w b2 #[p] 3)(t1:o b1=(y.l.id+1,0))(t2:o b2=(y.l.id+1,0)) :
  Ab AId 117 #[ptr (y.xb i),ptr b1,ptr b2] w fun e w'=>e=O (Ak #[I Z 0,R.e])/\BK y R.S o w w':=by
 obtain⟨RS,Rv,Re⟩:=R;have HRR:=Qa hR;have HL:=Qa look;have HH:=Qa hold;have HN:=Qa hno;have HU:=Qa CO;have HF:=Qa free;have HB:=Qa (qo y);have hX2:=Qa (fun w' o' (hS:Av w' o' y S3)=>(hS.Au i _ (Am.AV hx3)).A2)
 have c1:=j1.cell;have c2:=j2.cell;obtain⟨sp,sd,wk,fn⟩:=s;clear hR look hold hno CO free hx3;go_in;go_wp2_with fail;refine HL.o.mono ?_
 rintro e w1⟨rfl,o1,hS1,hs1⟩
 have k1:=j1.Ar hs1 (by rw[t1];exact HB.o)
 have k2:=j2.Ar hs1 (by rw[t2];exact HB.o)
 have u1:o1 b1=(y.l.id+1,0):=(hs1.tags _ j1.lt).trans t1;have u2:o1 b2=(y.l.id+1,0):=(hs1.tags _ j2.lt).trans t2;clear c1 c2 j1 j2 t1 t2;by_cases he:el=0
 ·subst he
  go_upto_region 4 with fail;obtain⟨W,hW⟩:=Ja0 (w1.alloc (AIe #[sp,sd,.bool wk,.bool fn] 93));rw[<-hW];have hbW:Ae w1.1.size w1 W:=by rw[hW];exact qa (qc w1) _
  have k1:=k1.below hbW k1.lt;have k2:=k2.below hbW k2.lt;have hSW:=hS1.below hbW;have jF:=Qa (hs1.trans (Stp.of_below hbW));clear hW hS1 hs1 hbW;have c1:=k1.cell;have c2:=k2.cell
  cases hb with
  | false =>
   obtain⟨rfl,hn9⟩:=HN.o rfl;have e1:=(HRR.o.r3 rfl rfl);simp only at e1;obtain⟨rfl,rfl⟩:=e1;have uO:=Qa (fun (e:Later W)=>hn9 e.1 o1 (hSW.below e.2));have rO:=Qa hSW;have l1:=fun (e:Later W)(i:Nat)=>Later.cell k1 e i;have l2:=fun (e:Later W)(i:Nat)=>Later.cell k2 e i;clear c1 c2 hn9 HH HU HF hX2 hSW;refine qy (by kernel_rfl) (by kernel_rfl) ?_
   repeat (go_big_quiet_step ((go_at_call 119;exact ku (uO.o _))))
   refine wpQuiet_nil ?_;intro w8 hW0;obtain⟨⟨W9,fA⟩,hwt⟩:=hW0;have hwt:w8=W9:=hwt;subst hwt;go_wp2_with fail;go_ret2;exact⟨rfl,o1,rO.o.below fA,jF.o.trans (Stp.of_below fA)⟩
  | true =>
   have mU:=Qa (hSW.below (qe (qc W)));clear hSW
   cases ub with
   | false =>
    have e1:=(HRR.o.r4 rfl rfl rfl);simp only at e1;obtain⟨rfl,rfl⟩:=e1;go_region_with (first
     | (go_at_call 119;refine (HH.o _ o1 mU.o).mono ?_;rintro e w2⟨rfl,o2,hS2,hs2⟩;have m1:=(qi k1).Ar hs2 (by rw[u1];exact HB.o);have m2:=(qi k2).Ar hs2 (by rw[u2];exact HB.o);have d1:=m1.cell;have d2:=m2.cell;obtain⟨vt3,gD,_⟩:=hX2.o _ _ hS2;unfold zg at gD;have dx:=gD.cell)
     | (go_at_call 120;refine (HU.o _ o2 hS2).mono ?_;rintro e w3⟨rfl,o3,dC,hs3⟩)
     | fail)
    all_goals
     go_wp2_with fail;go_ret2;exact⟨rfl,o3,dC,((jF.o.trans (Stp.of_below (qe (qc W)))).trans hs2).trans hs3⟩
   | true =>
    have e1:=(HRR.o.r5 rfl rfl rfl);simp only at e1;obtain⟨rfl,rfl⟩:=e1;go_region_with (first
     | (go_at_call 119;refine (HH.o _ o1 mU.o).mono ?_;rintro e w2⟨rfl,o2,hS2,hs2⟩;have m1:=(qi k1).Ar hs2 (by rw[u1];exact HB.o);have m2:=(qi k2).Ar hs2 (by rw[u2];exact HB.o);have d1:=m1.cell;have d2:=m2.cell;obtain⟨vt3,gD,_⟩:=hX2.o _ _ hS2;unfold zg at gD;have dx:=gD.cell)
     | (go_at_call 120;refine (HU.o _ o2 hS2).mono ?_;rintro e w3⟨rfl,o3,dC,hs3⟩)
     | fail)
    all_goals
     have n1:=m1.Ar hs3 (by rw[(hs2.tags _ (qi k1).lt).trans u1];exact HB.o)
     have n2:=m2.Ar hs3 (by rw[(hs2.tags _ (qi k2).lt).trans u2];exact HB.o)
     obtain⟨vq3,vl3,vm3,jb3,_⟩:=dC.A2;unfold qk at jb3;clear d1 d2 dx c1 c2;have d1:=n1.cell;have d2:=n2.cell;have d3:=jb3.cell;go_upto_region 6 with fail;have uL:=Qa (HF.o w3.drew o3 (dC.below (qe (qc w3))));go_region_with (first|(go_at_call 121;refine uL.o.mono ?_;rintro e w4⟨rfl,o4,dX,hs4⟩)|fail)
     all_goals
      go_wp2_with fail;go_ret2;exact⟨rfl,o4,dX,(((jF.o.trans (Stp.of_below (qe (qc W)))).trans hs2).trans hs3).trans ((Stp.of_below (qe (qc w3))).trans hs4)⟩
 ·have e1:=(HRR.o.r1 he)
  simp only at e1;obtain⟨rfl,rfl⟩:=e1;have hbb:(Re != 0)=true:=by rw[bne_iff_ne];exact he
  have hb2:(Re==0)=false:=by rw[Qh];exact he
  clear he;go_wp2_with fail;go_ret2;exact⟨rfl,o1,hS1.alloc _,hs1.alloc _⟩
def qn8 (S:Am)(i p:Nat):P3 (S.AH i p).2.1 ((((S.AH i p).1.A3 i p).1.Cn i ⟨3,p,0,0⟩).1.H.AX p true).2 ((S.AH i p).1.A3 i p).2 (((S.AH i p).1.A3 i p).1.Cn i ⟨3,p,0,0⟩).2
  (S.AH i p).1 ((S.AH i p).1.A3 i p).1 (((S.AH i p).1.A3 i p).1.Cn i ⟨3,p,0,0⟩).1 ((((S.AH i p).1.A3 i p).1.Cn i ⟨3,p,0,0⟩).1.h ((((S.AH i p).1.A3 i p).1.Cn i ⟨3,p,0,0⟩).1.H.AX p true).1) (S.B1 i p):=by
 refine⟨fun e=>?_,fun e1 e3=>?_,fun e1 e3 e4=>?_,fun e1 e3 e4=>?_⟩<;>unfold Am.B1
 ·rw[if_pos e];exact⟨rfl,rfl⟩
 ·rw[if_neg (by simpa using e1)];unfold Am.BH;rw[if_pos e3];exact⟨rfl,rfl⟩
 ·rw[if_neg (by simpa using e1)];unfold Am.BH;rw[if_neg (by rw[e3];simp),if_pos e4];exact⟨rfl,rfl⟩
 ·rw[if_neg (by simpa using e1)];unfold Am.BH;rw[if_neg (by rw[e3];simp),if_neg (by rw[e4];simp)];exact⟨rfl,rfl⟩
def Nv (w:Aa)(a c:Ac)(ta tc:TypeId):Ae w.1.size w ((w.alloc (AIe #[a] ta)).alloc (AIe #[c] tc))/\An ((w.alloc (AIe #[a] ta)).alloc (AIe #[c] tc)) w.1.size #[a] ta/\An ((w.alloc (AIe #[a] ta)).alloc (AIe #[c] tc)) (w.1.size+1) #[c] tc:=
 ⟨qa (qa (qc w) _) _,(An.new w _ _).alloc _,An.Ax _ _ _ _ _ (by simp) rfl⟩
def qpt (h0:Av w o y S)(hk:S.ok)(hi:i<S.Au.length)(p:Nat) :
  Ab AId 56 #[ptr y.sb,i,p] w fun e w'=>e=O (I Z (S.free i p).e)/\BK y (S.free i p).S o w w':=by
 have fK:∀ (fn:Fn)(first cap:Array Ac)(w:Aa),(Ad fn first cap).run AId w=.ok (.func fn first cap) w:=fun _ _ _ _=>rfl
 obtain⟨o1,ho1⟩:∃ o1,o1=ext o w.1.size (y.l.id+1,0):=⟨_,rfl⟩;have h:=h0.retag (o':=o1) fun b hb=>by rw[ho1];exact qj hb
 have hS0:Stp (qh y) o o1 w w:=by rw[ho1];exact (Stp.refl _ o w).ext _ _ (Qk _)
 have hbx:∀ b,w.1.size<=b->o1 b=(y.l.id+1,0):=fun b hb=>by rw[ho1];exact qp hb
 clear ho1 h0;obtain⟨W,hW⟩:=Ja0 ((w.alloc (AIe #[ptr y.sb] 24)).alloc (AIe #[p] 3));have hbj:=Nv w (ptr y.sb) (I Z p) 24 3;rw[<-hW]at hbj;obtain⟨hbW,j1,j2⟩:=hbj;have hlk:=Am.D6 hk hi p;have hl1:=dr S i p;have hi1:i<(S.AH i p).1.Au.length:=by omega
 have hl2:=pw (S.AH i p).1 i p;have hi2:i<((S.AH i p).1.A3 i p).1.Au.length:=by omega
 have hu:=Am.Ej (Am.DD hlk hi1 p) hi2 ⟨3,p,0,0⟩ (by simp) (fun h=>by simp at h)
 have HD:=Qa (wu 117 [ptr w.1.size,ptr (w.1.size+1)] (h.below hbW) hk hi Hj (S.B1 i p) (fun _=>sa hk hi p)
  (fun _ w1 o2 hb he2 hS=>by
   rw[LO];exact qoa p _ _ _ _ _ _ _ _ _ (S.B1 i p) (qn8 S i p) hi2 (TM hS hk hi p) (fun w1 o1 h1=>TC h1 hlk hi1 p) (fun e=>⟨(lh e).2.2,fun w1 o1 h1=>Uf h1 hlk hi1 p e⟩)
    (fun w1 o1 h1=>Tl h1 (Am.DD hlk hi1 p) hi2 ⟨3,p,0,0⟩) (fun w1 o1 h1=>m9 h1 hu p true) (j1.below hb j1.lt) (j2.below hb j2.lt) ((he2 _ j1.lt).trans (hbx _ (by omega))) ((he2 _ j2.lt).trans (hbx _ (by omega)))))
 have HS:=Qa (hS0.trans (Stp.of_below hbW));unfold Am.free;generalize S.AF i (S.B1 i p)=R at *;clear h hbW j1 j2 hk hi hlk hl1 hi1 hl2 hi2 hu hbx hS0;go_in;go_wp2_with fail;rw[<-hW];refine HD.o.mono ?_
 rintro e w2 ⟨rfl,o2,hS2,hs2⟩
 go_wp2_with fail;go_ret;exact⟨rfl,o2,hS2,HS.o.trans hs2⟩
end
section
variable {w w' : Aa} {o o' : Own} {y : Bj} {S : Am} {i : Nat}
def Am.alloc (S:Am)(i:Nat)(s:BR):BZ:=S.AF i (S.AQ i s)
def Am.AA (S:Am)(i q:Nat):BZ:=S.AF i (S.BG i q)
def Am.load (S:Am)(i p:Nat):BZ:=S.AF i (S.BW i p)
def qks (h:Av w o y S)(hk:S.ok)(hi:i<S.Au.length)(s:BR)(hs:s.ok)(hwk:s.AA=false)
  {b1 b2:Nat}(j1:An w b1 #[s.p,s.d,.bool s.AA,.bool s.final] 93)(j2:An w b2 #[ptr y.sb] 24) :
  Ab AId 105 #[ptr (y.xb i),ptr b1,ptr b2] w fun e w'=>e=O (Ak #[I Z (S.AQ i s).v,I Z (S.AQ i s).e])/\BK y (S.AQ i s).S o w w':=by
 have HR:=Qa (fun w=>tm s hs w)
 have HL:=Qa (fun w' (hw:Ae w.1.size w w')=>DY (h.below hw) hk hi s hs)
 rw[hwk]at j1;have c1:=j1.cell;have c2:=j2.cell;rw[show kg s=Al #[s.p,s.d,.bool false,.bool s.final] from by rw[<-hwk]]at HR HL
 show Ab _ _ _ _ fun e w'=>e=O (Ak #[I Z ((S.Bi i s).2.1:Nat),I Z (S.Bi i s).2.2])/\BK y (S.Bi i s).1 o w w'
 generalize S.Bi i s=R at *;clear h hk hi hs hwk;go_in;go_wp2_with fail;refine (HR.o _).mono ?_
 rintro e w1⟨rfl,hb1⟩
 have c1:=(j1.below hb1 j1.lt).cell;have c2:=(j2.below hb1 j2.lt).cell;go_wp2_with fail;refine (HL.o _ hb1).mono ?_
 rintro e w2⟨rfl,o2,hS2,hs2⟩
 go_wp2_with fail;go_ret2;exact⟨rfl,o2,hS2,(Stp.of_below hb1).trans hs2⟩
def qn4 (args:Array Ac)(w:Aa):(callFunc 105 args).run AId w=.ok (.enter 105 args) w:=enters_of func105 (by kernel_rfl) rfl args w
def qml (h:Av w o y S)(hk:S.ok)(hi:i<S.Au.length)(s:BR)(hs:s.ok)(hwk:s.AA=false) :
  Ab AId 47 #[ptr y.sb,i,kg s] w fun e w'=>e=O (Ak #[I Z (S.alloc i s).v,I Z (S.alloc i s).e])/\BK y (S.alloc i s).S o w w':=by
 have fK:∀ (fn:Fn)(first cap:Array Ac)(w:Aa),(Ad fn first cap).run AId w=.ok (.func fn first cap) w:=fun _ _ _ _=>rfl
 have HD:=Qa (fun w' b1 b2 (hw:Ae w.1.size w w')(j1:An w' b1 #[s.p,s.d,.bool s.AA,.bool s.final] 93)(j2:An w' b2 #[ptr y.sb] 24) =>
  wu 105 [ptr b1,ptr b2] (h.below hw) hk hi qn4 (S.AQ i s) (fun _=>uy hk hi hs)
   (fun _ w1 o1 hb _ hS=>qks hS hk hi s hs hwk (j1.below hb j1.lt) (j2.below hb j2.lt)))
 unfold Am.alloc;generalize S.AF i (S.AQ i s)=R at *;clear h hk hi hs hwk;go_in;go_wp2_with fail;refine (HD.o _ (w.1.size+1) w.1.size (qa (qa (qc w) _) _) (An.Ax _ _ _ _ _ (by simp) rfl) ((An.new w _ _).alloc _)).mono ?_
 rintro e w2⟨rfl,o2,hS2,hs2⟩
 go_wp2_with fail;go_ret2;exact⟨rfl,o2,hS2,(Stp.of_below (qa (qa (qc w) _) _)).trans hs2⟩
def qpo (q:Nat) (h:Av w o y S) (hk:S.ok) (hi:i<S.Au.length)
  {b1 b2:Nat} (j1:An w b1 #[q] 3) (j2:An w b2 #[ptr y.sb] 24) (t1:o b1=(y.l.id+1,0)) (t2:o b2=(y.l.id+1,0)) :
  Ab AId 259 #[ptr (y.xb i),ptr b1,ptr b2] w fun e w'=>e=O (Ak #[I Z (S.BG i q).v,I Z (S.BG i q).e])/\BK y (S.BG i q).S o w w':=by
 by_cases h0:q=0
 ·subst h0
  have e1:S.BG i 0=⟨S,0,143⟩:=by unfold Am.BG;rw[if_pos rfl]
  rw[e1];have c1:=j1.cell;have hfin:=Qa h.Ep;clear h hk hi j1 j2 e1;go_in;go_wp2_with fail;go_ret2;exact⟨rfl,hfin.o⟩
 ·have sZ:((q:Int)==0)=false:=by rw[Qh];omega
  obtain⟨vq,vl,vm,jb,_⟩:=h.A2;unfold qk at jb;have HH:=(fun (e:Later w)=>Q5 (h.below e.2) hk q);have ht1:¬qh y (o b1):=by rw[t1];exact qo y
  have ht2:¬qh y (o b2):=by rw[t2];exact qo y
  have l1:=fun (e:Later w) (i:Nat)=>Later.cell j1 e i;have l2:=fun (e:Later w) (i:Nat)=>Later.cell j2 e i;have l5:=fun (e:Later w) (i:Nat)=>Later.cell jb e i;have c1:=j1.cell;by_cases hr:lk S.H.cur q=none
  ·have e1:S.BG i q=⟨S,0,70⟩:=by unfold Am.BG;rw[if_neg h0,if_pos hr]
   rw[e1];rw[hr]at HH;simp only[Option.isSome_none]at HH;have HH:=Qa HH;have hfin:=Qa (fun W (hW:Ae w.1.size w W)=>h.EC hW);clear h hk hi e1 h0 hr;go_in;go_upto_region 3 with fail;refine qy (by kernel_rfl) (by kernel_rfl) ?_
   repeat (go_big_quiet_step ((go_at_call 61;exact ku (HH.o _))))
   refine wpQuiet_nil ?_;intro w8 hW0;obtain⟨⟨W0,hb0⟩,hwt⟩:=hW0;have hwt:w8=W0:=hwt;subst hwt;go_wp2_with fail;go_ret2;exact⟨rfl,hfin.o _ hb0⟩
  ·have hs1:(lk S.H.cur q).isSome=true:=by
    cases hl:lk S.H.cur q with
    | none=>exact absurd hl hr
    | some ob=>rfl
   rw[hs1]at HH;have HH:=Qa HH;have e1:S.BG i q=if (S.Bi i CY).2.2≠0 then⟨(S.Bi i CY).1,0,(S.Bi i CY).2.2⟩ else⟨(S.Bi i CY).1.h ((S.Bi i CY).1.H.Bh (S.Bi i CY).2.1 0 q).1,(S.Bi i CY).2.1,0⟩:=by unfold Am.BG;rw[if_neg h0,if_neg hr]
   have HL:=Qa (fun W (hW:Ae w.1.size w W)=>show Ab AId 107 #[ptr y.sb,ptr (y.xb i),Al #[I Z 1,I Z 0,.bool true,.bool false]] W fun e w'=>e=O (Ak #[I Z ((S.Bi i CY).2.1:Nat),I Z (S.Bi i CY).2.2])/\BK y (S.Bi i CY).1 o W w' from DY (h.below hW) hk hi CY Se);have hk2:=Am.EX hk hi Se;have HS:=Qa (fun W o2 (h2:Av W o2 y (S.Bi i CY).1)=>Tz h2 hk2 (S.Bi i CY).2.1 0 q);generalize S.BG i q=RR at *;generalize S.Bi i CY=R at *;obtain⟨S2,tp,er⟩:=R;simp only at HL HS e1;have HRR:=Qa e1;clear h hk hi hr h0 hs1 e1 hk2;go_in;go_upto_region 3 with fail;refine qy (by kernel_rfl) (by kernel_rfl) ?_
   repeat (go_big_quiet_step ((go_at_call 61;exact ku (HH.o _))))
   refine wpQuiet_nil ?_;intro w8 hW0;obtain⟨⟨W0,hb0⟩,hwt⟩:=hW0;have hwt:w8=W0:=hwt;subst hwt;clear l1 l2 l5 c1;have c2:=(j2.below hb0 j2.lt).cell;go_wp2_with fail;refine (HL.o _ hb0).mono ?_;rintro e w2⟨rfl,o2,hS2,hs2⟩;have hst:=(Stp.of_below (T:=qh y) (o:=o) hb0).trans hs2;by_cases he:er=0
   ·subst he
    have k1:=j1.Ar hst ht1;have k2:=j2.Ar hst ht2;obtain⟨vq2,vl2,vm2,kb,_⟩:=hS2.A2;unfold qk at kb;clear c2;have c1:=k1.cell;have c2:=k2.cell;have cb:=kb.cell;have HS2:=Qa (HS.o _ _ (hS2.below (qe (qc w2))));go_upto_region 8 with fail;go_still_tail 6,(by kernel_rfl)
    change wpList _ _ _ _ _ w2.drew;go_wp2_with fail;refine HS2.o.mono ?_;rintro e w3⟨rfl,o3,dC,hs3⟩;go_wp2_with fail;go_ret2;rw[HRR.o,if_neg (by simp)]
    exact⟨rfl,o3,dC,(hst.trans (Stp.of_below (qe (qc w2)))).trans hs3⟩
   ·have HE:=Qa he
    have hbb:(er != 0)=true:=by rw[bne_iff_ne];exact he
    have hb2:(er==0)=false:=by rw[Qh];exact he
    clear he;go_wp2_with fail;go_ret2;rw[HRR.o,if_pos HE.o];exact⟨rfl,o2,hS2,hst⟩
def Ho (args:Array Ac)(w:Aa):(callFunc 259 args).run AId w=.ok (.enter 259 args) w:=enters_of func259 (by kernel_rfl) rfl args w
def qoj (h0:Av w o y S)(hk:S.ok)(hi:i<S.Au.length)(q:Nat) :
  Ab AId 217 #[ptr y.sb,i,q] w fun e w'=>e=O (Ak #[I Z (S.AA i q).v,I Z (S.AA i q).e])/\BK y (S.AA i q).S o w w':=by
 have fK:∀ (fn:Fn)(first cap:Array Ac)(w:Aa),(Ad fn first cap).run AId w=.ok (.func fn first cap) w:=fun _ _ _ _=>rfl
 obtain⟨o1,ho1⟩:∃ o1,o1=ext o w.1.size (y.l.id+1,0):=⟨_,rfl⟩;have h:=h0.retag (o':=o1) fun b hb=>by rw[ho1];exact qj hb
 have hS0:Stp (qh y) o o1 w w:=by rw[ho1];exact (Stp.refl _ o w).ext _ _ (Qk _)
 have hbx:∀ b,w.1.size<=b->o1 b=(y.l.id+1,0):=fun b hb=>by rw[ho1];exact qp hb
 clear ho1 h0;obtain⟨W,hW⟩:=Ja0 ((w.alloc (AIe #[ptr y.sb] 24)).alloc (AIe #[q] 3));have hbj:=Nv w (ptr y.sb) (I Z q) 24 3;rw[<-hW]at hbj;obtain⟨hbW,j1,j2⟩:=hbj;have HD:=Qa (wu 259 [ptr (w.1.size+1),ptr w.1.size] (h.below hbW) hk hi Ho (S.BG i q) (fun _=>sm hk hi q)
  (fun _ w1 o2 hb he2 hS=>qpo q hS hk hi (j2.below hb j2.lt) (j1.below hb j1.lt) ((he2 _ j2.lt).trans (hbx _ (by omega))) ((he2 _ j1.lt).trans (hbx _ (by omega)))))
 have HS:=Qa (hS0.trans (Stp.of_below hbW));unfold Am.AA;generalize S.AF i (S.BG i q)=R at *;clear h hbW j1 j2 hk hi hbx hS0;go_in;go_wp2_with fail;rw[<-hW];refine HD.o.mono ?_
 rintro e w2⟨rfl,o2,hS2,hs2⟩
 go_wp2_with fail;go_ret2;exact⟨rfl,o2,hS2,HS.o.trans hs2⟩
def Hl (args:Array Ac)(w:Aa):(callFunc 260 args).run AId w=.ok (.enter 260 args) w:=enters_of func260 (by kernel_rfl) rfl args w
def qpa (h:Av w o y S) (hk:S.ok) (hi:i<S.Au.length) (p:Nat)
  {b1 b2:Nat} (j1:An w b1 #[ptr y.sb] 24) (j2:An w b2 #[p] 3) (t1:o b1=(y.l.id+1,0)) (t2:o b2=(y.l.id+1,0)) :
  Ab AId 260 #[ptr (y.xb i),ptr b1,ptr b2] w fun e w'=>e=O (Ak #[I Z (S.BW i p).v,I Z (S.BW i p).e])/\BK y (S.BW i p).S o w w':=by
 have HL:=Qa (TM h hk hi p);have hk1:=Am.D6 hk hi p;have hl1:=dr S i p;have hi1:i<(S.AH i p).1.Au.length:=by omega
 have HG:=Qa (fun w1 o1 (h1:Av w1 o1 y (S.AH i p).1)=>Kg h1 hk1 p 0)
 have hk2:((S.AH i p).1.h ((S.AH i p).1.H.AY p 0).1).ok:=Am.Ec hk1 p 0;have HK:=Qa (fun w1 o1 (h1:Av w1 o1 y ((S.AH i p).1.h ((S.AH i p).1.H.AY p 0).1))=>Py h1 hk2 hi1 ((S.AH i p).1.H.AY p 0).2.1)
 have HX:=Qa (fun w1 o1 (h1:Av w1 o1 y ((S.AH i p).1.h ((S.AH i p).1.H.AY p 0).1))=>(h1.Au i _ (Am.AV hi1)).A2)
 have HB:=Qa (qo y);obtain⟨RR,hRR⟩:=Ja0 (S.BW i p);rw[<-hRR];unfold Am.BW Am.Db at hRR;generalize S.AH i p=L at *;obtain⟨S1,el,sp,sd,sw,sf⟩:=L;simp only at HL HG HK HX hRR;have c1:=j1.cell;have c2:=j2.cell;generalize S1.H.AY p 0=G at *;obtain⟨H2,q,eg⟩:=G;simp only at HG HK HX hRR;change QO (∀ w1 o1,Av w1 o1 y S1->Ab _ _ _ _ fun e w'=>_/\BK y (S1.h H2) o1 w1 w') at HG
 generalize S1.h H2=S2 at *;have HRR:=Qa hRR;clear h hk hi hk1 hl1 hi1 hk2 hRR;by_cases he:el=0
 ·subst he
  cases sw with
  | false =>
   rw[HRR.o,if_neg (by simp),if_pos rfl]
   go_in;go_wp2_with fail;refine HL.o.mono ?_;rintro e w1 ⟨rfl,o1,hS1,hs1⟩;go_wp2_with fail;go_ret2;exact⟨rfl,o1,hS1.alloc _,hs1.alloc _⟩
  | true =>
   go_in;go_wp2_with fail;refine HL.o.mono ?_;rintro e w1 ⟨rfl,o1,hS1,hs1⟩;obtain⟨W1,hW1⟩:=Ja0 (w1.alloc (AIe #[sp,sd,.bool true,.bool sf] 93));have hb1:Ae w1.1.size w1 W1:=by rw[hW1];exact qa (qc w1) _
   have hSW:=hS1.below hb1;have cK:=hs1.trans (Stp.of_below (T:=qh y) (o:=o1) hb1);have k1:=(j1.Ar hs1 (by rw[t1];exact HB.o)).below hb1 (j1.Ar hs1 (by rw[t1];exact HB.o)).lt
   have k2:=(j2.Ar hs1 (by rw[t2];exact HB.o)).below hb1 (j2.Ar hs1 (by rw[t2];exact HB.o)).lt
   have u1:o1 b1=(y.l.id+1,0):=(hs1.tags _ j1.lt).trans t1;have u2:o1 b2=(y.l.id+1,0):=(hs1.tags _ j2.lt).trans t2;obtain⟨vq,vl,vm,kb,_⟩:=hSW.A2;unfold qk at kb;clear c1 c2 hS1 hs1 hb1;go_upto_region 6 with fail;rw[<-hW1];clear hW1;have c1:W1.cell? ⟨b1,0,none⟩=some (ptr y.sb):=k1.cell 0;have c2:W1.cell? ⟨b2,0,none⟩=some (I Z p):=k2.cell 0;have cb:W1.cell? ⟨y.sb,0,none⟩=some (ptr y.l.h):=kb.cell 0;have HG2:=Qa (HG.o _ _ (hSW.below (qe (qc W1))));have HsW:=Qa cK;have HKc:=Qa (fun (w2:Aa) (o2:Own) (hs2:Stp (qh y) o1 o2 W1.drew w2) =>
    show w2.cell? ⟨b1,0,none⟩=some (ptr y.sb)/\w2.cell? ⟨b2,0,none⟩=some (I Z p) from
     ⟨((qi k1).Ar hs2 (by rw[u1];exact HB.o)).cell 0,((qi k2).Ar hs2 (by rw[u2];exact HB.o)).cell 0⟩)
   have wI:=Qa (fun (w2:Aa) (o2:Own) (h2:Av w2 o2 y S2)=>show w2.cell? ⟨y.sb,0,none⟩=some (ptr y.l.h) from by
    obtain⟨_,_,_,lX,_⟩:=h2.A2;exact lX.cell 0)
   clear hSW cK HL k1 k2 kb u1 u2;go_region_held3 (fun w'=>w'.cell? ⟨b1,0,none⟩=some (ptr y.sb)/\w'.cell? ⟨b2,0,none⟩=some (I Z p)/\w'.cell? ⟨y.sb,0,none⟩=some (ptr y.l.h)) (first|exact⟨by assumption,by assumption,by assumption⟩|go_keep) (first
    | (go_at_call 112;refine HG2.o.mono ?_;rintro e w2 ⟨rfl,o2,hS2,hs2⟩;obtain⟨d1,d2⟩:=HKc.o _ _ hs2;have db:=wI.o _ _ hS2)
    | fail)
   all_goals
    have hst:=HsW.o.trans ((Stp.of_below (qe (qc W1))).trans hs2);by_cases heg:eg=0
    ·subst heg
     by_cases h0:q=0
     ·subst h0
      go_wp2_with fail;go_ret2;rw[HRR.o,if_neg (by simp),if_neg (by simp),if_neg (by simp),if_pos (by simp)]
      exact⟨rfl,o2,hS2,hst⟩
     ·have HE:=Qa h0
      have sZ:((q:Int) != 0)=true:=by rw[bne_iff_ne];omega
      have HK2:=Qa (HK.o _ _ hS2);obtain⟨vt,jx,_⟩:=HX.o _ _ hS2;unfold zg at jx;have cx:=jx.cell;clear HK;generalize yi (S2.t i).log.keeps q (S2.t i).log.mr=nb at *;clear h0
      cases nb
      all_goals
       go_wp2_with fail;refine HK2.o.mono ?_;rintro e w3 ⟨rfl,o3,dC,hs3⟩;go_wp2_with fail;go_ret2;rw[HRR.o,if_neg (by simp),if_neg (by simp),if_neg (by simp),if_neg HE.o]
       simp only[if_true,aC,if_false];exact⟨rfl,o3,dC,hst.trans hs3⟩
    ·have heI:((eg:Nat):Int)≠0:=by omega
     have HE:=Qa heg;have hbb:((eg:Int) != 0)=true:=by rw[bne_iff_ne];exact heI
     have hb2:((eg:Int)==0)=false:=by rw[Qh];exact heI
     clear heI heg;go_wp2_with fail;go_ret2;rw[HRR.o,if_neg (by simp),if_neg (by simp),if_pos HE.o]
     exact⟨rfl,o2,hS2,hst⟩
 ·rw[HRR.o,if_pos he]
  have hbb:(el != 0)=true:=by rw[bne_iff_ne];exact he
  have hb2:(el==0)=false:=by rw[Qh];exact he
  clear he;go_in;go_wp2_with fail;refine HL.o.mono ?_;rintro e w1 ⟨rfl,o1,hS1,hs1⟩;go_wp2_with fail;go_ret2;exact⟨rfl,o1,hS1.alloc _,hs1.alloc _⟩
def qo9 (h0:Av w o y S)(hk:S.ok)(hi:i<S.Au.length)(p:Nat) :
  Ab AId 218 #[ptr y.sb,i,p] w fun e w'=>e=O (Ak #[I Z (S.load i p).v,I Z (S.load i p).e])/\BK y (S.load i p).S o w w':=by
 have fK:∀ (fn:Fn)(first cap:Array Ac)(w:Aa),(Ad fn first cap).run AId w=.ok (.func fn first cap) w:=fun _ _ _ _=>rfl
 obtain⟨o1,ho1⟩:∃ o1,o1=ext o w.1.size (y.l.id+1,0):=⟨_,rfl⟩;have h:=h0.retag (o':=o1) fun b hb=>by rw[ho1];exact qj hb
 have hS0:Stp (qh y) o o1 w w:=by rw[ho1];exact (Stp.refl _ o w).ext _ _ (Qk _)
 have hbx:∀ b,w.1.size<=b->o1 b=(y.l.id+1,0):=fun b hb=>by rw[ho1];exact qp hb
 clear ho1 h0;obtain⟨W,hW⟩:=Ja0 ((w.alloc (AIe #[ptr y.sb] 24)).alloc (AIe #[p] 3));have hbj:=Nv w (ptr y.sb) (I Z p) 24 3;rw[<-hW]at hbj;obtain⟨hbW,j1,j2⟩:=hbj;have HD:=Qa (wu 260 [ptr w.1.size,ptr (w.1.size+1)] (h.below hbW) hk hi Hl (S.BW i p) (fun _=>ld hk hi p)
  (fun _ w1 o2 hb he2 hS=>qpa hS hk hi p (j1.below hb j1.lt) (j2.below hb j2.lt) ((he2 _ j1.lt).trans (hbx _ (by omega))) ((he2 _ j2.lt).trans (hbx _ (by omega)))))
 have HS:=Qa (hS0.trans (Stp.of_below hbW));unfold Am.load;generalize S.AF i (S.BW i p)=R at *;clear h hbW j1 j2 hk hi hbx hS0;go_in;go_wp2_with fail;rw[<-hW];refine HD.o.mono ?_
 rintro e w2⟨rfl,o2,hS2,hs2⟩
 go_wp2_with fail;go_ret2;exact⟨rfl,o2,hS2,HS.o.trans hs2⟩
end
section
variable {w w' : Aa} {o o' : Own} {y : Bj} {S : Am} {i : Nat}
def qo0 (h:Av w o y S)(hk:S.ok)(hi:i<S.Au.length){b1:Nat}(j1:An w b1 #[ptr y.sb] 24)(t1:o b1=(y.l.id+1,0)) :
  Ab AId 122 #[ptr (y.xb i),ptr b1] w fun e w'=>e=O (Ak #[I Z (S.Bn i).v,I Z (S.Bn i).e])/\BK y (S.Bn i).S o w w':=by
 unfold Am.Bn;by_cases hc:S.Aw≠-1/\S.Aw≠(i:Int)\/(S.t i).start<S.version
 ·rw[if_pos hc]
  exact (qjg h hi hc j1).mono fun _ _ ⟨a,b⟩=>⟨a,h.EC b⟩
 ·rw[if_neg hc]
  have hn:S.Aw=-1\/S.Aw=(i:Int):=by omega
  have hv:S.version<=(S.t i).start:=by omega
  split
  ·rename_i hq
   exact Vv h hi hn hv (.inl hq) j1 t1
  ·rename_i z l hq
   split
   ·rename_i hz
    exact Vv h hi hn hv (.inr ⟨z,l,hq,hz⟩) j1 t1
   ·rename_i hz
    exact qn6 h hk hi hn hv hq (by omega) j1 t1
def Hm (args:Array Ac)(w:Aa):(callFunc 122 args).run AId w=.ok (.enter 122 args) w:=enters_of func122 (by kernel_rfl) rfl args w
def qnz (h0:Av w o y S)(hk:S.ok)(hi:i<S.Au.length) :
  Ab AId 59 #[ptr y.sb,i] w fun e w'=>e=O (Ak #[I Z (S.take i).v,I Z (S.take i).e])/\BK y (S.take i).S o w w':=by
 have fK:∀ (fn:Fn)(first cap:Array Ac)(w:Aa),(Ad fn first cap).run AId w=.ok (.func fn first cap) w:=fun _ _ _ _=>rfl
 obtain⟨o1,ho1⟩:∃ o1,o1=ext o w.1.size (y.l.id+1,0):=⟨_,rfl⟩;have h:=h0.retag (o':=o1) fun b hb=>by rw[ho1];exact qj hb
 have hS0:Stp (qh y) o o1 w w:=by rw[ho1];exact (Stp.refl _ o w).ext _ _ (Qk _)
 have hbx:o1 w.1.size=(y.l.id+1,0):=by rw[ho1];exact qp (Qk _)
 clear ho1 h0;have j1:=An.new w #[ptr y.sb] 24;have HD:=Qa (wu 122 [ptr w.1.size] (h.below (qa (qc w) (AIe #[ptr y.sb] 24))) hk hi Hm (S.Bn i) (fun _=>gd hk hi)
  (fun _ w1 o2 hb he2 hS=>qo0 hS hk hi (j1.below hb j1.lt) ((he2 _ j1.lt).trans hbx)))
 have HS:=Qa (hS0.trans (Stp.of_below (qa (qc w) (AIe #[ptr y.sb] 24))));unfold Am.take;generalize S.AF i (S.Bn i)=R at *;clear h hbx hS0 j1 hk hi;go_in;go_wp2_with fail;refine HD.o.mono ?_
 rintro e w2⟨rfl,o2,hS2,hs2⟩
 go_wp2_with fail;go_ret2;exact⟨rfl,o2,hS2,HS.o.trans hs2⟩
end
section
variable {w w' : Aa} {o o' : Own} {y : Bj} {S : Am} {i : Nat}
def UT (hk:S.ok)(hi:i<S.Au.length):Good S.Au.length (S.Bp i):=by
 unfold Am.Bp Am.AF
 cases hl:(S.t i).live with
 | false=>rw[if_neg (by simp)];exact⟨hk,rfl⟩
 | true =>
  rw[if_pos rfl];have hg:=gz hk hi hl;exact⟨Am.JL hg.1 (by have:=hg.2;omega),by rw[Xz];exact hg.2⟩
def Y0 (h:Av w o y S)(hk:S.ok)(hi:i<S.Au.length)(hl:(S.t i).live=true){b1:Nat}(j1:An w b1 #[ptr y.sb] 24)(t1:o b1=(y.l.id+1,0)) :
  Ab AId 78 #[ptr (y.xb i),ptr b1] w fun e w'=>e=O (Ak #[I Z (S.AJ i).v,I Z (S.AJ i).e])/\BK y (S.AJ i).S o w w':=by
 by_cases hw:(S.t i).log.holds=[]/\S.Aw≠(i:Int)
 ·have e1:S.AJ i=⟨S.tx i (S.t i).ended,0,0⟩:=by unfold Am.AJ;rw[if_pos hw]
  rw[e1];exact YB h hk hi hw.1 hw.2 j1
 ·exact Yr h hk hi hl hw j1 t1
def qje (h0:Av w o y S)(hk:S.ok)(hi:i<S.Au.length) :
  Ab AId 25 #[ptr y.sb,i] w fun e w'=>e=O (Ak #[I Z (S.Bp i).v,I Z (S.Bp i).e])/\BK y (S.Bp i).S o w w':=by
 have fK:∀ (fn:Fn)(first cap:Array Ac)(w:Aa),(Ad fn first cap).run AId w=.ok (.func fn first cap) w:=fun _ _ _ _=>rfl
 obtain⟨o1,ho1⟩:∃ o1,o1=ext o w.1.size (y.l.id+1,0):=⟨_,rfl⟩;have h:=h0.retag (o':=o1) fun b hb=>by rw[ho1];exact qj hb
 have hS0:Stp (qh y) o o1 w w:=by rw[ho1];exact (Stp.refl _ o w).ext _ _ (Qk _)
 have hbx:o1 w.1.size=(y.l.id+1,0):=by rw[ho1];exact qp (Qk _)
 clear ho1 h0;have j1:=An.new w #[ptr y.sb] 24;have HD:=Qa (wu 78 [ptr w.1.size] (h.below (qa (qc w) (AIe #[ptr y.sb] 24))) hk hi qky (S.AJ i) (fun hl=>gz hk hi hl)
  (fun hl w1 o2 hb he2 hS=>Y0 hS hk hi hl (j1.below hb j1.lt) ((he2 _ j1.lt).trans hbx)))
 have HS:=Qa (hS0.trans (Stp.of_below (qa (qc w) (AIe #[ptr y.sb] 24))));unfold Am.Bp;generalize S.AF i (S.AJ i)=R at *;clear h hbx hS0 j1 hk hi;go_in;go_wp2_with fail;refine HD.o.mono ?_
 rintro e w2⟨rfl,o2,hS2,hs2⟩
 go_wp2_with fail;go_ret2;exact⟨rfl,o2,hS2,HS.o.trans hs2⟩
def qmi (h:Av w o y S)(hk:S.ok)(hi:i<S.Au.length) :
  Ab AId 20 #[ptr y.sb,i] w fun e w'=>e=O (I Z (S.Du i).2)/\BK y (S.Du i).1 o w w':=by
 have HT:=Qa (xy h hk (Am.AV hi));have HA:=Qa (VN h hk hi);have H:=Qa h;unfold Am.Du;clear h hk hi
 cases hl:(S.t i).live
 ·rw[hl]at HT
  simp only[if_false,aC]at HT ⊢;have hfin:=Qa H.o.Ep;clear hl HA H;go_in;go_wp2_with fail;refine HT.o.mono ?_;rintro e w1⟨rfl,rfl⟩;go_wp2_with fail;go_ret;exact⟨rfl,hfin.o⟩
 ·rw[hl]at HT
  simp only[if_true]at HT ⊢;generalize S.abort i=S2 at *;clear hl H;go_in;go_wp2_with fail;refine HT.o.mono ?_;rintro e w1⟨rfl,rfl⟩;go_wp2_with fail;refine HA.o.mono ?_;rintro e w2⟨rfl,hl2⟩;go_wp2_with fail;go_ret;exact⟨rfl,hl2⟩
def Av.Ew (h:Av w o y S)(h1:1<=S.Au.length):∃ g cap,y.Fz=Ai (some ⟨g,0,none⟩) S.Au.length cap/\(∀ k,k<S.Au.length->w.cell? ⟨g,k,none⟩=some (ptr (y.xb k)))/\S.Au.length<=cap:=by
 obtain⟨g,cap,e,_,hc⟩:=h.Ek 0 (by omega)
 refine⟨g,cap,e,fun k hk=>?_,hc⟩
 obtain⟨g',cap',e',hk',_⟩:=h.Ek k hk;rw[e]at e';injection e' with e1 _ _;injection e1 with e1;injection e1 with e1 _ _;rw[e1];exact hk'
def qmd (h:Av w o y S)(hk:S.ok)(hi:i<S.Au.length)(hl:(S.t i).live=true) :
  Ab AId 16 #[ptr y.sb,i] w fun e w'=>e=O (I Z 140)/\w=w':=by
 have HT:=Qa (Tp h hk hi);obtain⟨vt,jx,_⟩:=(h.Au i _ (Am.AV hi)).A2;unfold zg at jx;have c:=jx.cell;rw[hl]at c;clear h hk hi;go_in;go_wp2_with fail;refine HT.o.mono ?_
 rintro e w1⟨rfl,rfl⟩
 go_wp2_with fail;go_ret;exact⟨rfl,rfl⟩
def Gx (l:List Tx)(k n:Nat):Prop:=k<=l.length/\n=jh (l.take k)/\n<=k
def Gx.z (l:List Tx):Gx l 0 0:=⟨ai _,rfl,Qk _⟩
def Vj (l:List Tx)(z:Tx):jh (l++[z])=jh l+if z.live then 1 else 0:=by
 unfold jh;rw[List.filter_append,Qd]
 cases hz:z.live<;>simp[hz]
def Gx.t {l:List Tx}{k n:Nat}(h:Gx l k n){z:Tx}(hz:l[k]?=some z)(hl:z.live=true):Gx l (k+1) (n+1):=by
 obtain⟨hk,he⟩:=Qc.1 hz;refine⟨hk,?_,by have:=h.2.2;omega⟩
 rw[aj hk,Vj,he,hl,if_pos rfl,<-h.2.1]
def Gx.f {l:List Tx}{k n:Nat}(h:Gx l k n){z:Tx}(hz:l[k]?=some z)(hl:z.live=false):Gx l (k+1) n:=by
 obtain⟨hk,he⟩:=Qc.1 hz;refine⟨hk,?_,by have:=h.2.2;omega⟩
 rw[aj hk,Vj,he,hl,if_neg (by simp),<-h.2.1];rfl
def Gx.e {l:List Tx}{n:Nat}(h:Gx l l.length n):n=jh l:=by have:=h.2.1;rwa [af]at this
def GW (h:Av w o y S)(hk:S.ok)(hi:i<S.Au.length)(hl:(S.t i).live=false) :
  Ab AId 16 #[ptr y.sb,i] w fun e w'=>e=O (I Z (S.AR i).2)/\BK y (S.AR i).1 o w w':=by
 have hx:=Am.AV hi;have HB1:=Qa (fun (hm:S.now+(jh S.Au+1)<=S.most)=>show S.AR i=(S.tx i ((S.t i).begun S.now S.next),0) from by unfold Am.AR;rw[if_neg (by rw[hl];simp),if_pos hm])
 have HB2:=Qa (fun (hm:¬S.now+(jh S.Au+1)<=S.most)=>show S.AR i=(S,120) from by unfold Am.AR;rw[if_neg (by rw[hl];simp),if_neg hm])
 generalize S.AR i=R at *;have HT:=Qa (Tp h hk hi);have HI:=Qa h;have HX:=Qa (h.Au i _ hx);obtain⟨vt,jx,hrow⟩:=(h.Au i _ hx).A2;unfold zg at jx;have rH:=Qa hrow;have cx:=jx.cell;rw[hl]at cx;obtain⟨g,cap,ev,hcs,hcap⟩:=h.Ew hk.t1;obtain⟨vq,v14,v15,jb,_⟩:=h.A2;unfold qk at jb;rw[ev]at jb;have c:=jb.cell;have hn1:=hk.n1;have hn2:=hk.n2;have h8:=hk.t8;have HM:=Qa (fun (k:Nat)(hk:k<=9)=>Ls h.ck (k:Int) (by omega) (by omega) (by omega) (by omega))
 have HMd:=Qa (fun (k:Nat)(hk:S.now+k<=S.most)=>show decide ((k:Int)<=(S.most:Int)-(S.now:Int))=true from by rw[decide_eq_true_eq];omega)
 have HMn:=Qa (fun (k:Nat)(hk:¬S.now+k<=S.most)=>show decide ((k:Int)<=(S.most:Int)-(S.now:Int))=false from by rw[decide_eq_false_iff_not];omega)
 have HN:=Qa (fun w' (hw:Ae w.1.size w w')=>Ub (h.ck.below hw h.ck.lt))
 have HXS:=Qa (fun k (hk:k<S.Au.length)=>show ∃ z,S.Au[k]?=some z/\∃ vt,(∀ j,w.cell? ⟨y.xb k,j,none⟩=(#[k,.bool z.live,z.start,z.seen,ptr (y.lb k),vt]:Array Ac)[j]?) from by
  obtain⟨vt,jz,_⟩:=(h.Au k _ (Qb hk)).A2;exact⟨S.Au[k],Qb hk,vt,jz.cell⟩)
 have hcs:=Qa hcs;clear h hk hi hx hn1 hn2 hrow;go_in;go_wp2_with fail;refine HT.o.mono ?_
 rintro e w1 ⟨rfl,rfl⟩
 go_wp2_with fail;go_loopw [25,6,8] (fun ix cn _ wr=>∃ k n:Nat,ix=I Z k/\cn=I Z n/\Gx S.Au k n/\wr=w) (fun ix _ _ _=>S.Au.length-(intOf ix).toNat)
 case atStart=>exact⟨0,0,rfl,rfl,Gx.z _,rfl⟩
 case round =>
  obtain⟨k,n,rfl,rfl,hJ,rfl⟩:=hrel;have HJ:=Qa hJ;have hkl:=hJ.1;have hnk:=hJ.2.2;clear hJ;by_cases hlt:k<S.Au.length
  ·have ck:=hcs.o k hlt
   obtain⟨z,hz,vz,cz⟩:=HXS.o k hlt;have hI:(k:Int)<(S.Au.length:Int):=by omega
   cases hzl:z.live
   ·rw[hzl]at cz
    have HJ2:=Qa (HJ.o.f hz hzl);clear hz hzl;go_wp2_with fail;go_roundw
    case rel=>exact⟨k+1,n,by simp,rfl,HJ2.o,trivial⟩
    case measure=>simp[intOf];omega
   ·rw[hzl]at cz
    have nZ:(n:Int)<9:=by omega
    have HJ2:=Qa (HJ.o.t hz hzl);clear hz hzl;go_wp2_with fail;go_roundw
    case rel=>exact⟨k+1,n+1,by simp,by simp,HJ2.o,trivial⟩
    case measure=>simp[intOf];omega
  ·obtain rfl:k=S.Au.length:=by omega
   have nZ:(n:Int)<9:=by omega
   have hne:=HJ.o.e;have eU:=Qa (HM.o (n+1) (by omega))
   by_cases hm:S.now+(n+1)<=S.most
   ·rw[HMd.o (n+1) hm,show ((n+1:Nat):Int)=(n:Int)+1 from by omega]at eU
    have HR:=Qa (HB1.o (by rw[<-hne];exact hm))
    clear hm hne;go_wp2_with fail;refine eU.o.mono ?_;rintro e w2 ⟨rfl,hb2⟩;have jx2:=jx.below hb2 jx.lt;rw[hl]at jx2;have lX:=jb.below hb2 jb.lt;clear cx c eU;have cx:=jx2.cell;have zx:=jx2.free;have sx:=jx2.lt;have c:=lX.cell;have sb:=lX.lt;have nsb:y.sb≠y.xb i:=fun e=>by have h1:=HI.o.os;rw[e,HX.o.ob]at h1;injection h1 with _ h1;omega
    have uO:=Qa (HN.o w2.drew (qe hb2));have hfin:=Qa (show BK y (S.tx i ((S.t i).begun S.now S.next)) o wr (((w2.setCell ⟨y.xb i,1,none⟩ (.bool true)).setCell ⟨y.xb i,2,none⟩ (I Z S.now)).setCell ⟨y.xb i,3,none⟩ (I Z S.next)).drew from by
     have ob:=HX.o.ob;have hs0:Stp (fun t=>t=(y.l.id,16+8*i)) o o w2 (((w2.setCell ⟨y.xb i,1,none⟩ (.bool true)).setCell ⟨y.xb i,2,none⟩ (I Z S.now)).setCell ⟨y.xb i,3,none⟩ (I Z S.next)).drew:=
      ((((Stp.refl _ o w2).setCell (by show o (y.xb i)=_;exact ob) _).setCell (by show o (y.xb i)=_;exact ob) _).setCell (by show o (y.xb i)=_;exact ob) _).drew
     have hs:Stp (uo y i) o o wr _:=(Stp.of_below hb2).trans (hs0.mono (by rintro _ rfl;exact⟨rfl,by simp,by simp⟩))
     obtain⟨vr,vk,vh,vu,hlg⟩:=HX.o.log;refine⟨o,HI.o.tx ⟨⟨vt,qi (((jx2.set 1 _).set 2 _).set 3 _),(rH.o.below hb2).Ar hs0 (by simp)⟩,⟨vr,vk,vh,vu,(hlg.below hb2).Ar hs0 fun j hj=>by simp;omega⟩,ob⟩ hs,hs.mono fun _=>Ru⟩)
    go_upto_region 13 with fail;go_region_with (first|(go_at_call 54;refine uO.o.mono ?_;rintro e w3 ⟨rfl,rfl⟩)|fail)
    all_goals
     go_wp2_with fail;go_ret;rw[HR.o];exact⟨rfl,hfin.o⟩
   ·rw[HMn.o (n+1) hm,show ((n+1:Nat):Int)=(n:Int)+1 from by omega]at eU
    have HR:=Qa (HB2.o (by rw[<-hne];exact hm))
    have HL:=Qa (fun W (hb:Ae wr.1.size wr W)=>HI.o.EC hb);clear hm hne;go_wp2_with fail;refine eU.o.mono ?_;rintro e w2 ⟨rfl,hb2⟩;go_wp2_with fail;go_ret;rw[HR.o];exact⟨rfl,HL.o _ hb2⟩
def qlc (h:Av w o y S)(hk:S.ok)(hi:i<S.Au.length) :
  Ab AId 16 #[ptr y.sb,i] w fun e w'=>e=O (I Z (S.AR i).2)/\BK y (S.AR i).1 o w w':=by
 cases hl:(S.t i).live with
 | false=>exact GW h hk hi hl
 | true =>
  have e1:S.AR i=(S,140):=by unfold Am.AR;rw[if_pos hl]
  rw[e1];refine (qmd h hk hi hl).mono ?_;rintro e w'⟨rfl,rfl⟩;exact⟨rfl,h.Ep⟩
end
end
section
open Go.RowKit Hp
def Inv (S:Am):Prop:=S.ok
def Inv.ok {S:Am}(h:Inv S):S.ok:=h
def Am.DU (S:Am)(i:Nat):Bool:=decide (i<S.Au.length)
def zt {S:Am}{i:Nat}(h:S.DU i=true):i<S.Au.length:=of_decide_eq_true h
def EE (_:Am)(_:Nat):Prop:=True
def UH (S:Am)(p:Nat):EE S p:=trivial
section
variable {w w' : Aa} {o o' : Own} {y : Bj} {S : Am} {i : Nat}
def Left (y:Bj)(S:Am)(o:Own)(w w':Aa):Prop:=∃ o',Av w' o' y S/\Inv S/\Stp (qh y) o o' w w'
def BK.left (h:BK y S o w w')(hk:S.ok):Left y S o w w':=by
 obtain⟨o',h1,h2⟩:=h;exact⟨o',h1,hk,h2⟩
def Lo (h:Av w o y S)(hI:Inv S)(hc:S.DU i=true){p:Nat}(_:EE S p)(j:Nat)(v:Int)(hv:-9223372036854775808<=v/\v<=9223372036854775807) :
  Ab AId 48 #[ptr y.sb,i,p,j,v] w fun e w'=>e=O (I Z (S.write i p j v).e)/\Left y (S.write i p j v).S o w w':=
 (qk8 h hI (zt hc) p j v hv).mono fun _ _⟨a,b⟩=>⟨a,b.left (Good.BU hI (zt hc) (fy hI (zt hc) p j hv)).1⟩
def QG (h:Av w o y S)(hI:Inv S)(hc:S.DU i=true){p q:Nat}(_:EE S p)(_:EE S q)(j:Nat) :
  Ab AId 49 #[ptr y.sb,i,p,j,q] w fun e w'=>e=O (I Z (S.put i p j q).e)/\Left y (S.put i p j q).S o w w':=
 (Ku h hI (zt hc) p j q).mono fun _ _⟨a,b⟩=>⟨a,b.left (Good.BU hI (zt hc) (Tm hI (zt hc) p j q)).1⟩
def NA (h:Av w o y S)(hI:Inv S)(hc:S.DU i=true){p:Nat}(_:EE S p)(j:Nat) :
  Ab AId 24 #[ptr y.sb,i,p,j] w fun e w'=>e=O (Ak #[I Z (S.read i p j).v,I Z (S.read i p j).e])/\Left y (S.read i p j).S o w w':=
 (qou h hI (zt hc) p j).mono fun _ _⟨a,b⟩=>⟨a,b.left (Good.BU hI (zt hc) (lc hI (zt hc) p j)).1⟩
def QF (h:Av w o y S)(hI:Inv S)(hc:S.DU i=true){p:Nat}(_:EE S p)(j:Nat) :
  Ab AId 57 #[ptr y.sb,i,p,j] w fun e w'=>e=O (Ak #[I Z (S.get i p j).v,I Z (S.get i p j).e])/\Left y (S.get i p j).S o w w':=
 (Ks h hI (zt hc) p j).mono fun _ _⟨a,b⟩=>⟨a,b.left (Good.BU hI (zt hc) (Ti hI (zt hc) p j)).1⟩
def Nx (h:Av w o y S)(hI:Inv S)(hc:S.DU i=true){p:Nat}(_:EE S p) :
  Ab AId 56 #[ptr y.sb,i,p] w fun e w'=>e=O (I Z (S.free i p).e)/\Left y (S.free i p).S o w w':=
 (qpt h hI (zt hc) p).mono fun _ _⟨a,b⟩=>⟨a,b.left (Good.BU hI (zt hc) (sa hI (zt hc) p)).1⟩
def XD (h:Av w o y S)(hI:Inv S)(hc:S.DU i=true)(s:BR)(hs:s.ok)(hwk:s.AA=false) :
  Ab AId 47 #[ptr y.sb,i,kg s] w fun e w'=>e=O (Ak #[I Z (S.alloc i s).v,I Z (S.alloc i s).e])/\Left y (S.alloc i s).S o w w':=
 (qml h hI (zt hc) s hs hwk).mono fun _ _⟨a,b⟩=>⟨a,b.left (Good.BU hI (zt hc) (uy hI (zt hc) hs)).1⟩
def NC (h:Av w o y S)(hI:Inv S)(hc:S.DU i=true){q:Nat}(_:EE S q) :
  Ab AId 217 #[ptr y.sb,i,q] w fun e w'=>e=O (Ak #[I Z (S.AA i q).v,I Z (S.AA i q).e])/\Left y (S.AA i q).S o w w':=
 (qoj h hI (zt hc) q).mono fun _ _⟨a,b⟩=>⟨a,b.left (Good.BU hI (zt hc) (sm hI (zt hc) q)).1⟩
def Nz (h:Av w o y S)(hI:Inv S)(hc:S.DU i=true){p:Nat}(_:EE S p) :
  Ab AId 218 #[ptr y.sb,i,p] w fun e w'=>e=O (Ak #[I Z (S.load i p).v,I Z (S.load i p).e])/\Left y (S.load i p).S o w w':=
 (qo9 h hI (zt hc) p).mono fun _ _⟨a,b⟩=>⟨a,b.left (Good.BU hI (zt hc) (ld hI (zt hc) p)).1⟩
def NB (h:Av w o y S)(hI:Inv S)(hc:S.DU i=true) :
  Ab AId 59 #[ptr y.sb,i] w fun e w'=>e=O (Ak #[I Z (S.take i).v,I Z (S.take i).e])/\Left y (S.take i).S o w w':=
 (qnz h hI (zt hc)).mono fun _ _⟨a,b⟩=>⟨a,b.left (Good.BU hI (zt hc) (gd hI (zt hc))).1⟩
def WV (h:Av w o y S)(hI:Inv S)(hc:S.DU i=true) :
  Ab AId 25 #[ptr y.sb,i] w fun e w'=>e=O (Ak #[I Z (S.Bp i).v,I Z (S.Bp i).e])/\Left y (S.Bp i).S o w w':=
 (qje h hI (zt hc)).mono fun _ _⟨a,b⟩=>⟨a,b.left (UT hI (zt hc)).1⟩
def Xv (h:Av w o y S)(hI:Inv S)(hi:i<S.Au.length) :
  Ab AId 16 #[ptr y.sb,i] w fun e w'=>e=O (I Z (S.AR i).2)/\Left y (S.AR i).1 o w w':=
 (qlc h hI hi).mono fun _ _⟨a,b⟩=>⟨a,b.left (SQ hI hi)⟩
def Ln (h:Av w o y S)(hI:Inv S)(hi:i<S.Au.length) :
  Ab AId 20 #[ptr y.sb,i] w fun e w'=>e=O (I Z (S.Du i).2)/\Left y (S.Du i).1 o w w':=
 (qmi h hI hi).mono fun _ _⟨a,b⟩=>⟨a,b.left (qn5 hI hi)⟩
def Ny (h:Av w o y S)(hI:Inv S)(hi:i<S.Au.length) :
  Ab AId 21 #[ptr y.sb,i] w fun e w'=>e=O (Ak #[I Z (if (S.t i).live then ((S.t i).start:Int) else 0),.bool (S.t i).live])/\w=w':=
 L6 h hI (Am.AV hi)
end
end
section
open Go.RowKit Hp
attribute [local go_sem ↓] Go.wp_at_zero Go.wp_at_succ
section
variable {w w' : Aa} {o o' : Own} {y : Bj} {S : Am} {i : Nat}
def Am.Bc (S:Am)(p:Nat):Nat:=if p=0 then 0 else (S.H.Dc p).1
def Y9 (h:Av w o y S)(hk:S.ok){p:Nat}(_:EE S p) :
  Ab AId 216 #[ptr y.sb,p] w fun e w'=>e=O (I Z (S.Bc p))/\Ae w.1.size w w':=by
 unfold Am.Bc;by_cases h0:p=0
 ·subst h0
  rw[if_pos rfl];clear h hk;go_in;go_wp2_with fail;go_ret;exact⟨rfl,qc w⟩
 ·rw[if_neg h0]
  have HS:=Qa (Vp h hk p);have hpb:((p:Int)==0)=false:=by rw[Qh];omega
  generalize S.H.Dc p=r at *;clear h hk h0;go_in;go_wp2_with fail;refine HS.o.mono ?_;rintro e w1⟨rfl,hb1⟩;go_wp2_with fail;go_ret;exact⟨rfl,hb1⟩
end
def mf (h:AD)(a:Option Addr)(n c:Nat)(w:Aa) :
  Ab AId 96 #[.slice a n c,h.v] w fun e w'=>e=O (.bool (decide (h.b<0)||decide ((n:Int)<=h.b)))/\Ae w.1.size w w':=by
 obtain⟨hb,hn,⟨a0,a1,a2,a3,a4,a5⟩,⟨s0,s1,s2,s3,s4,s5⟩,hl⟩:=h;show Ab _ _ #[.slice a n c,Al #[hb,hn,a0,a1,a2,a3,a4,a5,s0,s1,s2,s3,s4,s5,.bool hl]] _ _;simp only;by_cases h0:hb<0
 ·rw[decide_eq_true h0,Bool.true_or]
  go_in;go_wp2_with fail;go_ret;exact⟨rfl,qa (qc w) _⟩
 ·rw[decide_eq_false h0,Bool.false_or]
  by_cases h1:(n:Int)<=hb
  ·rw[decide_eq_true h1]
   go_in;go_wp2_with fail;go_ret;exact⟨rfl,qa (qc w) _⟩
  ·rw[decide_eq_false h1]
   go_in;go_wp2_with fail;go_ret;exact⟨rfl,qa (qc w) _⟩
def R6.get (r:R6):Nat->Int
 | 0=>r.a0|1=>r.a1|2=>r.a2|3=>r.a3|4=>r.a4|_=>r.a5
def R6.set (r:R6)(v:Int):Nat->R6
 | 0=>{ r with a0:=v }|1=>{ r with a1:=v }|2=>{ r with a2:=v }|3=>{ r with a3:=v }|4=>{ r with a4:=v }|_=>{ r with a5:=v }
def AD.put (h:AD)(A:Nat)(v:Int):AD:={ h with r:=h.r.set v A }
def six {A:Nat}(h:A<6):A=0\/A=1\/A=2\/A=3\/A=4\/A=5:=by omega
def RP {w:Aa}{b:Nat}{t:TypeId}{h:AD}(j:An w b h.cells t){A:Nat}(hA:A<6)(v:Int):An (w.setCell ⟨b,2+A,none⟩ v) b (h.put A v).cells t:=by
 have e1:∀ x,x=(h.put A v).cells->An (w.setCell ⟨b,2+A,none⟩ v) b x t->An (w.setCell ⟨b,2+A,none⟩ v) b (h.put A v).cells t:=fun x e k=>by rw[<-e];exact k
 refine e1 _ ?_ (j.set (2+A) (I Z v));rcases six hA with rfl|rfl|rfl|rfl|rfl|rfl
 all_goals simp only[AD.cells,AD.put,R6.set,List.setIfInBounds_toArray,aQ,List.set_cons_succ,Nat.reduceAdd]
def js {w:Aa}{b:Nat}{t:TypeId}{h:AD}(j:An w b h.cells t){A:Nat}(hA:A<6):w.cell? ⟨b,2+A,none⟩=some (I Z (h.r.get A)):=by
 rw[j.cell];rcases six hA with rfl|rfl|rfl|rfl|rfl|rfl<;>rfl
def UY {w:Aa}{b c i j:Nat}{v x:Ac}(h:w.cell? ⟨c,j,none⟩=some v)(hne:c≠b):(w.setCell ⟨b,i,none⟩ x).cell? ⟨c,j,none⟩=some v:=by
 rw[World.cell?_of_block (w:=w) (Below.heap_setCell _ _ _ _ hne)];exact h
def wg {T:Tag->Prop}{o o':Own}{w W:Aa}{b6 b7:Nat}(h1:Stp T o o' w W)(h6:w.1.size<=b6)(h7:w.1.size<=b7)(h:AD)(a:BA):Stp T o o' w (jj W b6 b7 h a):=((((((((((((((((((h1.setCell_new (a:=⟨b6,0,none⟩) h6 _).setCell_new (a:=⟨b6,1,none⟩) h6 _).setCell_new (a:=⟨b6,2,none⟩) h6 _).setCell_new (a:=⟨b6,3,none⟩) h6 _).setCell_new (a:=⟨b6,4,none⟩) h6 _).setCell_new (a:=⟨b6,5,none⟩) h6 _).setCell_new (a:=⟨b6,6,none⟩) h6 _).setCell_new (a:=⟨b6,7,none⟩) h6 _).setCell_new (a:=⟨b6,8,none⟩) h6 _).setCell_new (a:=⟨b6,9,none⟩) h6 _).setCell_new (a:=⟨b6,10,none⟩) h6 _).setCell_new (a:=⟨b6,11,none⟩) h6 _).setCell_new (a:=⟨b6,12,none⟩) h6 _).setCell_new (a:=⟨b6,13,none⟩) h6 _).setCell_new (a:=⟨b6,14,none⟩) h6 _).setCell_new (a:=⟨b7,0,none⟩) h7 _).setCell_new (a:=⟨b7,1,none⟩) h7 _).setCell_new (a:=⟨b7,2,none⟩) h7 _)
def Wr.Bt {b:Nat}{w W:Aa}(h:Wr b w W){a:Addr}(ha:w.1.size<=a.block)(v:Ac):Wr b w (W.setCell a v):=
 ⟨h.os,h.tape,h.output,by rw[World.size_setCell];exact h.size,fun k hk hn=>(Below.heap_setCell _ _ _ _ (show k≠a.block by omega)).trans (h.block k hk hn)⟩
def Stp.Di {T:Tag->Prop}{o o':Own}{b:Nat}{w W W':Aa}(h:Stp T o o' w W)(k:Wr b W W')(hb:w.1.size<=b):Stp T o o' w W':=
 ⟨k.os.trans h.os,k.tape.trans h.tape,k.output.trans h.output,Qo h.size k.size,h.tags,fun j hj hn=>(k.block j (Qn hj h.size) (by omega)).trans (h.block j hj hn)⟩
def Px {b:Nat} {w W:Aa} {b6 b7:Nat} (h1:Wr b w W) (h6:w.1.size<=b6) (h7:w.1.size<=b7) (h:AD) (a:BA):Wr b w (jj W b6 b7 h a):=(Wr.Bt (Wr.Bt (Wr.Bt (Wr.Bt (Wr.Bt (Wr.Bt (Wr.Bt (Wr.Bt (Wr.Bt (Wr.Bt (Wr.Bt (Wr.Bt (Wr.Bt (Wr.Bt (Wr.Bt (Wr.Bt (Wr.Bt (Wr.Bt h1 (a:=⟨b6,0,none⟩) h6 _) (a:=⟨b6,1,none⟩) h6 _) (a:=⟨b6,2,none⟩) h6 _) (a:=⟨b6,3,none⟩) h6 _) (a:=⟨b6,4,none⟩) h6 _) (a:=⟨b6,5,none⟩) h6 _) (a:=⟨b6,6,none⟩) h6 _) (a:=⟨b6,7,none⟩) h6 _) (a:=⟨b6,8,none⟩) h6 _) (a:=⟨b6,9,none⟩) h6 _) (a:=⟨b6,10,none⟩) h6 _) (a:=⟨b6,11,none⟩) h6 _) (a:=⟨b6,12,none⟩) h6 _) (a:=⟨b6,13,none⟩) h6 _) (a:=⟨b6,14,none⟩) h6 _) (a:=⟨b7,0,none⟩) h7 _) (a:=⟨b7,1,none⟩) h7 _) (a:=⟨b7,2,none⟩) h7 _)
structure AB where
 k:Int
 A:Nat
 B:Nat
 i:Int
 n:Int
def AB.cells (d:AB):Array Ac:=#[d.k,d.A,d.B,d.i,d.n]
def AB.v (d:AB):Ac:=.agg d.cells
def AD.DZ (h:AD)(A:Nat)(p e:Int):AD:=if e=0 then (h.put A p).ended 0 else h.ended e
def Gs (s e:Int):BA:=if e=0 then kq s 0 else kq 0 e
def Ds (y:Bj)(t:Tag):Prop:=t=(y.l.id+1,0)
def uz {y:Bj}{t:Tag}(h:Ds y t):¬qh y t:=by rw[h];exact qo y
def Av.bx {w w':Aa}{o o':Own}{y:Bj}{S:Am}(h:Av w o y S)(hs:Stp (Ds y) o o' w w'):Av w' o' y S:=h.Ar hs fun j e=>by
 have e:(y.l.id,j)=(y.l.id+1,0):=e;injection e with e1 e2;omega
def ya (W:Aa)(b6 b7:Nat){y:Bj}{o:Own}(h6:Ds y (o b6))(h7:Ds y (o b7))(h:AD)(a:BA):Stp (Ds y) o o W (jj W b6 b7 h a):=(((((((((((((((((((Stp.refl _ o W).setCell (a:=⟨b6,0,none⟩) h6 _).setCell (a:=⟨b6,1,none⟩) h6 _).setCell (a:=⟨b6,2,none⟩) h6 _).setCell (a:=⟨b6,3,none⟩) h6 _).setCell (a:=⟨b6,4,none⟩) h6 _).setCell (a:=⟨b6,5,none⟩) h6 _).setCell (a:=⟨b6,6,none⟩) h6 _).setCell (a:=⟨b6,7,none⟩) h6 _).setCell (a:=⟨b6,8,none⟩) h6 _).setCell (a:=⟨b6,9,none⟩) h6 _).setCell (a:=⟨b6,10,none⟩) h6 _).setCell (a:=⟨b6,11,none⟩) h6 _).setCell (a:=⟨b6,12,none⟩) h6 _).setCell (a:=⟨b6,13,none⟩) h6 _).setCell (a:=⟨b6,14,none⟩) h6 _).setCell (a:=⟨b7,0,none⟩) h7 _).setCell (a:=⟨b7,1,none⟩) h7 _).setCell (a:=⟨b7,2,none⟩) h7 _)
section
variable {w w' : Aa} {o o' : Own} {y : Bj} {S : Am}
def N0 (h:AD) (p e:Int) (he:e≠0) (hn:0<=h.n/\h.n<=4096) (hb:0<=h.b/\h.b<=4096) (w:Aa) {b10 b7 b6 b4:Nat}
  (j10:An w b10 #[.func (.func 213) #[] #[ptr b7]] 295) (j7:An w b7 h.cells 58) :
  Ab AId 215 #[p,e,ptr b10,ptr b7,ptr b6,ptr b4] w fun e' w'=>e'=O (Ak #[(h.ended e).v,(kq 0 e).val])/\Ae w.1.size w w':=by
 have HT:=Qa (fun W (hW:Ae w.1.size w W)=>mc h 0 e hn hb W (j7.below hW j7.lt))
 have heb:(e != 0)=true:=by rw[bne_iff_ne];exact he
 have QE:=j10.cell;have l10:=j10.lt;generalize h.ended e=h' at *;generalize kq 0 e=a' at *;clear hn hb he j7;obtain⟨b',n',⟨r0,r1,r2,r3,r4,r5⟩,⟨p0,p1,p2,p3,p4,p5⟩,hl'⟩:=h';obtain⟨ak,ae,av⟩:=a';have HT:=Qa (fun W hW=>show Ab AId 213 #[I Z 0,e,ptr b7] W fun e' w'=>e'=O (Ak #[Al #[b',n',r0,r1,r2,r3,r4,r5,p0,p1,p2,p3,p4,p5,.bool hl'],Al #[ak,ae,av]])/\Ae W.1.size W w' from HT.o W hW)
 clear j10;go_in;go_wp2_with fail;refine (HT.o _ (qa (qa (qc w) _) _)).mono ?_
 rintro e1 w1 ⟨rfl,hb1⟩
 have j5:=(An.Ax w (AD.cells ⟨0,0,⟨0,0,0,0,0,0⟩,⟨0,0,0,0,0,0⟩,false⟩) _ 58 w.1.size rfl rfl).alloc (AIe #[I Z 0,I Z 0,I Z 0] 54);have j6:An _ (w.1.size+1) FA 54:=An.Ax (w.alloc (.cells (AD.cells ⟨0,0,⟨0,0,0,0,0,0⟩,⟨0,0,0,0,0,0⟩,false⟩) 58)) #[I Z 0,I Z 0,I Z 0] FA 54 (w.1.size+1) (by simp) rfl
 replace j5:=j5.below hb1 j5.lt;replace j6:=j6.below hb1 j6.lt;have hb2:=qd (qa (qa (qc w) _) _) hb1;have c5:=j5.cell;unfold AD.cells at c5;have z5:=j5.free;have l5:=j5.lt;have c6:=j6.cell;unfold FA at c6;have z6:=j6.free;have l6:=j6.lt;have hres:=Qa (zz j5 j6 (by omega) ⟨b',n',⟨r0,r1,r2,r3,r4,r5⟩,⟨p0,p1,p2,p3,p4,p5⟩,hl'⟩ ⟨ak,ae,av⟩)
 have hrb:=Qa (yb hb2 (b6:=w.1.size) (b7:=w.1.size+1) (by omega) (by omega) ⟨b',n',⟨r0,r1,r2,r3,r4,r5⟩,⟨p0,p1,p2,p3,p4,p5⟩,hl'⟩ ⟨ak,ae,av⟩)
 clear hb1 hb2 j5 j6 QE l10 HT;go_wp2_with fail;change bodyPost _ _ _ _ _ (jj w1 (w.1.size) (w.1.size+1) ⟨b',n',⟨r0,r1,r2,r3,r4,r5⟩,⟨p0,p1,p2,p3,p4,p5⟩,hl'⟩ ⟨ak,ae,av⟩);generalize jj w1 (w.1.size) (w.1.size+1) ⟨b',n',⟨r0,r1,r2,r3,r4,r5⟩,⟨p0,p1,p2,p3,p4,p5⟩,hl'⟩ ⟨ak,ae,av⟩=X at *;exact bodyPost_ret (qq _ _ 8 9 rfl rfl rfl hres.o.1 hres.o.2) rfl ⟨rfl,hrb.o⟩
def L5 (hS:Av w o y S) (hk:S.ok) (h:AD) (d:AB) {p:Nat} (hp:EE S p) (hA:d.A<6) (hn:0<=h.n/\h.n<=4096) (hb:0<=h.b/\h.b<=4096) {b10 b7 b6 b4:Nat}
  (j10:An w b10 #[.func (.func 213) #[] #[ptr b7]] 295) (j7:An w b7 h.cells 58) (j6:An w b6 d.cells 73) (j4:An w b4 #[ptr y.sb] 24) (t7:Ds y (o b7)) (n10:b10≠b7) (n4:b4≠b7) :
  Ab AId 215 #[p,I Z 0,ptr b10,ptr b7,ptr b6,ptr b4] w fun e' w'=>e'=O (Ak #[((h.put d.A p).ended 0).v,(kq (S.Bc p) 0).val])/\Wr b7 w w':=by
 have hAI:(d.A:Int)<6:=by omega
 have c7:=j7.cell;have l7:=j7.lt;have z7:=j7.free;have c6:=j6.cell;unfold AB.cells at c6;have l6:=j6.lt;have hr:=js j7 hA;clear c7;obtain⟨h',hh'⟩:=Ja0 ((h.put d.A p).ended 0);obtain⟨a',ha'⟩:=Ja0 (kq (S.Bc p) 0);rw[<-hh',<-ha'];obtain⟨b',n',⟨r0,r1,r2,r3,r4,r5⟩,⟨p0,p1,p2,p3,p4,p5⟩,hl'⟩:=h';obtain⟨ak,ae,av⟩:=a';go_in;go_upto_region 4 with fail;obtain⟨W,hW⟩:=Ja0 (((w.setCell ⟨b7,2+d.A,none⟩ p).alloc (AIe #[I Z 0,I Z 0,I Z 0,I Z 0,I Z 0,I Z 0,I Z 0,I Z 0,I Z 0,I Z 0,I Z 0,I Z 0,I Z 0,I Z 0,.bool false] 58)).alloc (AIe #[I Z 0,I Z 0,I Z 0] 54));rw[<-hW];have cK:Wr b7 w W:=by rw[hW];exact (Wr.set b7 w _ _).B7 (qa (qa (qc _) _) _)
 have hSW:=hS.bx (Stp.Cg cK t7);have i7:An W b7 (h.put d.A p).cells 58:=by rw[hW];exact ((RP j7 hA p).alloc _).alloc _
 have i10:An W b10 #[.func (.func 213) #[] #[ptr b7]] 295:=by rw[hW];exact ((j10.Ao (a:=⟨b7,2+d.A,none⟩) n10 _).alloc _).alloc _
 have i4:An W b4 #[ptr y.sb] 24:=by rw[hW];exact ((j4.Ao (a:=⟨b7,2+d.A,none⟩) n4 _).alloc _).alloc _
 have i8:An W w.1.size #[I Z 0,I Z 0,I Z 0,I Z 0,I Z 0,I Z 0,I Z 0,I Z 0,I Z 0,I Z 0,I Z 0,I Z 0,I Z 0,I Z 0,.bool false] 58:=by rw[hW];exact (An.Ax _ _ _ _ _ (by simp) rfl).alloc _
 have i9:An W (w.1.size+1) #[I Z 0,I Z 0,I Z 0] 54:=by rw[hW];exact An.Ax _ _ _ _ _ (by simp) rfl
 have mM:=Qa (fun X (hX:Ae W.1.size W X)=>Y9 (hSW.below hX) hk hp)
 have HT:=Qa (fun X (hX:Ae W.1.size W X)=>mc (h.put d.A p) (S.Bc p) 0 hn hb X (i7.below hX i7.lt))
 have rO:=Qa cK;rw[<-hh',<-ha']at HT;generalize S.Bc p=sp at *;have HT:=Qa (fun X hX=>show Ab AId 213 #[sp,I Z 0,ptr b7] X fun e' w'=>e'=O (Ak #[Al #[b',n',r0,r1,r2,r3,r4,r5,p0,p1,p2,p3,p4,p5,.bool hl'],Al #[ak,ae,av]])/\Ae X.1.size X w' from HT.o X hX)
 have N10:=Qa (show b10≠w.1.size/\b10≠w.1.size+1/\b4≠w.1.size/\b4≠w.1.size+1 from by have:=j10.lt;have:=j4.lt;omega)
 have H8:=Qa i8;have H9:=Qa i9;have H10:=Qa i10;have H4:=Qa i4;have QE:=i10.cell 0;have c4:=i4.cell 0;simp at QE c4;clear hh' ha' hW cK hSW i7 i10 i4 i8 i9 hS hk hp hn hb j10 j7 j6 j4 t7 n10 n4 l7 z7 c6 l6 hr;go_region_held3 (fun w'=>w'.cell? ⟨b10,0,none⟩=some (.func (.func 213) #[] #[ptr b7])/\w'.cell? ⟨b4,0,none⟩=some (ptr y.sb)) (first|(refine⟨?_,?_⟩<;>with_reducible assumption)|go_keep|(refine⟨?_,?_⟩<;>(repeat (refine UY ?_ (by with_reducible assumption)))<;>with_reducible assumption)) (first
  | (go_at_call 216;refine (mM.o _ (qe (qc W))).mono ?_;rintro e3 w3 ⟨rfl,hb3⟩;have hb3:=qd (qe (qc W)) hb3;have d10:=(H10.o.below hb3 H10.o.lt).cell 0;have d4:=(H4.o.below hb3 H4.o.lt).cell 0;simp at d10 d4)
  | (go_at_call 213;refine (HT.o _ hb3).mono ?_;rintro e5 w5 ⟨rfl,hb5⟩;have hb5:=qd hb3 hb5;have f10:=(H10.o.below hb5 H10.o.lt).cell 0;have f4:=(H4.o.below hb5 H4.o.lt).cell 0;simp at f10 f4;have k8:=H8.o.below hb5 H8.o.lt;have k9:=H9.o.below hb5 H9.o.lt;have c8:=k8.cell;have z8:=k8.free;have l8:=k8.lt;have c9:=k9.cell;have z9:=k9.free;have l9:=k9.lt;have hres:=Qa (zz k8 k9 (by omega) ⟨b',n',⟨r0,r1,r2,r3,r4,r5⟩,⟨p0,p1,p2,p3,p4,p5⟩,hl'⟩ ⟨ak,ae,av⟩);clear k8 k9;have m10:b10≠w.1.size:=N10.o.1;have AAd:b10≠w.1.size+1:=N10.o.2.1;have m4:b4≠w.1.size:=N10.o.2.2.1;have m4':b4≠w.1.size+1:=N10.o.2.2.2)
  | fail)
 go_wp2_with fail;change bodyPost _ _ _ _ _ (jj w5 (w.1.size) (w.1.size+1) ⟨b',n',⟨r0,r1,r2,r3,r4,r5⟩,⟨p0,p1,p2,p3,p4,p5⟩,hl'⟩ ⟨ak,ae,av⟩);have hrs:=Qa (Px (rO.o.B7 hb5) (b6:=w.1.size) (b7:=w.1.size+1) (by omega) (by omega) ⟨b',n',⟨r0,r1,r2,r3,r4,r5⟩,⟨p0,p1,p2,p3,p4,p5⟩,hl'⟩ ⟨ak,ae,av⟩)
 generalize jj w5 (w.1.size) (w.1.size+1) ⟨b',n',⟨r0,r1,r2,r3,r4,r5⟩,⟨p0,p1,p2,p3,p4,p5⟩,hl'⟩ ⟨ak,ae,av⟩=X at *;exact bodyPost_ret (qq _ _ 8 9 rfl rfl rfl hres.o.1 hres.o.2) rfl ⟨rfl,hrs.o⟩
def L4 (R:BZ)(hS:Av w o y R.S)(hk:R.S.ok)(h:AD)(d:AB)(hp:R.e=0->∃ p:Nat,R.v=p/\EE R.S p)(hA:d.A<6)(hn:0<=h.n/\h.n<=4096)(hb:0<=h.b/\h.b<=4096){b10 b7 b6 b4:Nat}
  (j10:An w b10 #[.func (.func 213) #[] #[ptr b7]] 295)(j7:An w b7 h.cells 58)(j6:An w b6 d.cells 73)(j4:An w b4 #[ptr y.sb] 24)(t7:Ds y (o b7))(n10:b10≠b7)(n4:b4≠b7) :
  Ab AId 215 #[R.v,R.e,ptr b10,ptr b7,ptr b6,ptr b4] w fun e' w'=>e'=O (Ak #[(h.DZ d.A R.v R.e).v,(Gs (R.S.Bc R.v.toNat) R.e).val])/\Wr b7 w w':=by
 obtain⟨S,v,e⟩:=R;simp only at hS hk hp ⊢;by_cases he:e=0
 ·obtain⟨p,rfl,hq⟩:=hp he
  subst he;exact L5 hS hk h d hq hA hn hb j10 j7 j6 j4 t7 n10 n4
 ·have e1:h.DZ d.A v e=h.ended e:=by unfold AD.DZ;rw[if_neg he]
  have e2:Gs (S.Bc v.toNat) e=kq 0 e:=by unfold Gs;rw[if_neg he]
  rw[e1,e2];refine (N0 h v e he hn hb w j10 j7).mono ?_;rintro e' w'⟨rfl,h1⟩;exact⟨rfl,Wr.of_below h1⟩
end
def PG (W:Aa)(b:Nat)(h:AD):Wr b W (Dn W b h):=((((((((((((((((Wr.refl b W).trans (Wr.set b _ 0 _)).trans (Wr.set b _ 1 _)).trans (Wr.set b _ 2 _)).trans (Wr.set b _ 3 _)).trans (Wr.set b _ 4 _)).trans (Wr.set b _ 5 _)).trans (Wr.set b _ 6 _)).trans (Wr.set b _ 7 _)).trans (Wr.set b _ 8 _)).trans (Wr.set b _ 9 _)).trans (Wr.set b _ 10 _)).trans (Wr.set b _ 11 _)).trans (Wr.set b _ 12 _)).trans (Wr.set b _ 13 _)).trans (Wr.set b _ 14 _))
section
variable {w w' : Aa} {o o' : Own} {y : Bj} {S : Am} {i : Nat}
def YL (hS:Av w o y S) (hI:Inv S) (hb hn a0 a1 a2 a3 a4 a5 s0 s1 s2 s3 s4 s5:Int) (hl:Bool) (A B:Nat) (fi fn:Int) (ra rb:Nat)
  (hi:i<S.Au.length) (hlv:(S.t i).live=true) (hA:A<6) (hB:B<6) (hra:R6.get ⟨a0,a1,a2,a3,a4,a5⟩ A=ra) (hrb:R6.get ⟨a0,a1,a2,a3,a4,a5⟩ B=rb) (hb0:0<=hb/\hb<=4096) :
  Ab AId 154 #[ptr y.sb,i,Al #[I Z 14,I Z A,I Z B,fi,fn],Al #[hb,hn,a0,a1,a2,a3,a4,a5,s0,s1,s2,s3,s4,s5,.bool hl]] w fun e' w'=>e'=O (Ak #[AD.v ⟨(hb+1),0,⟨s0,s1,s2,s3,s4,s5⟩,⟨s0,s1,s2,s3,s4,s5⟩,false⟩,BA.val ⟨2,0,0⟩])/\Left y (S.abort i) o w w':=by
 have fK:∀ (fn:Fn) (first cap:Array Ac) (w:Aa),(Ad fn first cap).run AId w=.ok (.func fn first cap) w:=fun _ _ _ _=>rfl
 obtain⟨o1,ho1⟩:∃ o1,o1=ext o w.1.size (y.l.id+1,0):=⟨_,rfl⟩;have h1:=hS.retag (o':=o1) fun b hb=>by rw[ho1];exact qj hb
 have hS0:Stp (qh y) o o1 w w:=by rw[ho1];exact (Stp.refl _ o w).ext _ _ (Qk _)
 have hbx:∀ b,w.1.size<=b->Ds y (o1 b):=fun b hb=>by rw[ho1];exact qp hb
 clear ho1 hS;obtain⟨W,hW⟩:=Ja0 ((((((w.alloc (AIe #[ptr y.sb] 24)).alloc (AIe #[I Z 14,I Z A,I Z B,fi,fn] 73)).alloc (AIe #[hb,hn,a0,a1,a2,a3,a4,a5,s0,s1,s2,s3,s4,s5,.bool hl] 58)).alloc (AIe #[I Z 0,I Z 0,I Z 0,I Z 0,I Z 0,I Z 0,I Z 0,I Z 0,I Z 0,I Z 0,I Z 0,I Z 0,I Z 0,I Z 0,.bool false] 58)).alloc (AIe #[I Z 0,I Z 0,I Z 0] 54)).alloc (AIe #[.func (.func 213) #[] #[ptr (w.1.size+1+1)]] 295));have hbW:Ae w.1.size w W:=by rw[hW];exact qa (qa (qa (qa (qa (qa (qc w) _) _) _) _) _) _
 have k0:An W w.1.size #[ptr y.sb] 24:=by rw[hW];exact (((((An.new w _ _).alloc _).alloc _).alloc _).alloc _).alloc _
 have k1:An W (w.1.size+1) #[I Z 14,I Z A,I Z B,fi,fn] 73:=by rw[hW];exact ((((An.Ax _ _ _ _ _ (by simp) rfl).alloc _).alloc _).alloc _).alloc _
 have k2:An W (w.1.size+1+1) #[hb,hn,a0,a1,a2,a3,a4,a5,s0,s1,s2,s3,s4,s5,.bool hl] 58:=by rw[hW];exact (((An.Ax _ _ _ _ _ (by simp) rfl).alloc _).alloc _).alloc _
 have k3:An W (w.1.size+1+1+1) #[I Z 0,I Z 0,I Z 0,I Z 0,I Z 0,I Z 0,I Z 0,I Z 0,I Z 0,I Z 0,I Z 0,I Z 0,I Z 0,I Z 0,.bool false] 58:=by rw[hW];exact ((An.Ax _ _ _ _ _ (by simp) rfl).alloc _).alloc _
 have k4:An W (w.1.size+1+1+1+1) #[I Z 0,I Z 0,I Z 0] 54:=by rw[hW];exact (An.Ax _ _ _ _ _ (by simp) rfl).alloc _
 have k5:An W (w.1.size+1+1+1+1+1) #[.func (.func 213) #[] #[ptr (w.1.size+1+1)]] 295:=by rw[hW];exact An.Ax _ _ _ _ _ (by simp) rfl
 have hSW:=h1.below hbW;have cK:Stp (qh y) o o1 w W:=hS0.trans (Stp.of_below hbW);have AI:(A:Int)<6:=by omega
 have BI:(B:Int)<6:=by omega
 have HB:=Qa hbx;have HC:=Qa (fun X o2 (h2:Av X o2 y S)=>by have:=Ln h2 hI hi;rw[show S.Du i=(S.abort i,0) from if_pos hlv]at this;exact this)
 have HK:=Qa (fun X=>show Ab AId 212 #[Al #[hb,hn,a0,a1,a2,a3,a4,a5,s0,s1,s2,s3,s4,s5,.bool hl]] X fun e w'=>e=O (Al #[hb,I Z 0,s0,s1,s2,s3,s4,s5,s0,s1,s2,s3,s4,s5,.bool false])/\Ae X.1.size X w' from li ⟨hb,hn,⟨a0,a1,a2,a3,a4,a5⟩,⟨s0,s1,s2,s3,s4,s5⟩,hl⟩ X)
 obtain⟨b1,b2⟩:=hb0;generalize S.abort i=SA at *;clear hI hi hlv h1 hS0 hbx;go_in;go_upto_region 3 with fail;rw[<-hW];clear hW;have cA:=js (h:=⟨hb,hn,⟨a0,a1,a2,a3,a4,a5⟩,⟨s0,s1,s2,s3,s4,s5⟩,hl⟩) k2 hA;have cB:=js (h:=⟨hb,hn,⟨a0,a1,a2,a3,a4,a5⟩,⟨s0,s1,s2,s3,s4,s5⟩,hl⟩) k2 hB;rw[hra]at cA;rw[hrb]at cB;have c1:=k1.cell;have l2:=k2.lt;go_quiet (fail);obtain⟨V,hV⟩:=Ja0 (W.drewN nq);have dF:Ae W.1.size W V:=by rw[hV];exact zi (qc _) _
 rw[<-hV];clear hV cA cB c1 l2;replace k0:=k0.below dF k0.lt;replace k1:=k1.below dF k1.lt;replace k2:=k2.below dF k2.lt;replace k3:=k3.below dF k3.lt;replace k4:=k4.below dF k4.lt;replace k5:=k5.below dF k5.lt;replace hSW:=hSW.below dF;replace cK:=cK.trans (Stp.of_below dF);have c0:=k0.cell;have c1:=k1.cell;go_wp2_with fail;refine (HC.o _ _ hSW).mono ?_
 rintro e2 w2 ⟨rfl,o2,hS2,hI2,hs2⟩
 have nt:∀ b,w.1.size<=b->¬qh y (o1 b):=fun b q1=>uz (HB.o b q1)
 have tg:∀ b,w.1.size<=b->b<V.1.size->Ds y (o2 b):=fun b q1 q2=>by have:=HB.o b q1;rw[<-hs2.tags b q2]at this;exact this
 have t2:=tg (w.1.size+1+1) (by omega) k2.lt
 have t3:=tg (w.1.size+1+1+1) (by omega) k3.lt
 have t4:=tg (w.1.size+1+1+1+1) (by omega) k4.lt
 replace k2:=k2.Ar hs2 (nt _ (by omega))
 replace k3:=k3.Ar hs2 (nt _ (by omega))
 replace k4:=k4.Ar hs2 (nt _ (by omega))
 have hs3:=cK.trans hs2;have HI2:=Qa hI2;clear c0 c1 k0 k1 k5 hs2 hSW cK HC tg nt hI2;have c2:=k2.cell;go_wp2_with fail;refine (HK.o _).mono ?_
 rintro e3 w3 ⟨rfl,hb3⟩
 replace k2:=k2.below hb3 k2.lt;replace k3:=k3.below hb3 k3.lt;replace k4:=k4.below hb3 k4.lt;have dC:=hS2.below hb3;replace hs3:=hs3.trans (Stp.of_below hb3);clear c2 hb3 hS2 HK;have c2:=k2.cell;have z2:=k2.free;have l2:=k2.lt;go_upto_region 37 with fail;clear c2 z2 l2;obtain⟨V2,hV2⟩:=Ja0 ((Dn w3 (w.1.size+1+1) ⟨hb,0,⟨s0,s1,s2,s3,s4,s5⟩,⟨s0,s1,s2,s3,s4,s5⟩,false⟩).setCell ⟨(w.1.size+1+1),0,none⟩ (I Z (hb+1)));change Code.wp _ _ _ _ ((Dn w3 (w.1.size+1+1) ⟨hb,0,⟨s0,s1,s2,s3,s4,s5⟩,⟨s0,s1,s2,s3,s4,s5⟩,false⟩).setCell ⟨(w.1.size+1+1),0,none⟩ (I Z (hb+1)));rw[<-hV2];have hw:Wr (w.1.size+1+1) w3 V2:=by rw[hV2];exact (PG w3 (w.1.size+1+1) ⟨hb,0,⟨s0,s1,s2,s3,s4,s5⟩,⟨s0,s1,s2,s3,s4,s5⟩,false⟩).trans (Wr.set _ _ _ _)
 have i2:An V2 (w.1.size+1+1) #[I Z (hb+1),I Z 0,s0,s1,s2,s3,s4,s5,s0,s1,s2,s3,s4,s5,.bool false] 58:=by rw[hV2];exact (mz (g:=⟨hb,hn,⟨a0,a1,a2,a3,a4,a5⟩,⟨s0,s1,s2,s3,s4,s5⟩,hl⟩) k2 ⟨hb,0,⟨s0,s1,s2,s3,s4,s5⟩,⟨s0,s1,s2,s3,s4,s5⟩,false⟩).set 0 (I Z (hb+1))
 have i3:=k3.wr hw (by omega)
 have i4:=k4.wr hw (by omega)
 have hS5:=dC.bx (Stp.Cg hw t2);have hs5:=hs3.Di hw (by omega)
 clear hV2 hw k2 k3 k4 dC hs3;have c2:=i2.cell;have c3:=i3.cell;have z3:=i3.free;have l3:=i3.lt;have c4:=i4.cell;have z4:=i4.free;have l4:=i4.lt;have hres:=Qa (zz i3 i4 (by omega) ⟨(hb+1),0,⟨s0,s1,s2,s3,s4,s5⟩,⟨s0,s1,s2,s3,s4,s5⟩,false⟩ ⟨2,0,0⟩)
 have hrs:=Qa (wg hs5 (b6:=(w.1.size+1+1+1)) (b7:=(w.1.size+1+1+1+1)) (by omega) (by omega) ⟨(hb+1),0,⟨s0,s1,s2,s3,s4,s5⟩,⟨s0,s1,s2,s3,s4,s5⟩,false⟩ ⟨2,0,0⟩)
 have fG:=Qa (hS5.bx (ya V2 (w.1.size+1+1+1) (w.1.size+1+1+1+1) (o:=o2) t3 t4 ⟨(hb+1),0,⟨s0,s1,s2,s3,s4,s5⟩,⟨s0,s1,s2,s3,s4,s5⟩,false⟩ ⟨2,0,0⟩));clear i2 i3 i4 hS5 hs5;go_wp2_with fail;change bodyPost _ _ _ _ _ (jj V2 (w.1.size+1+1+1) (w.1.size+1+1+1+1) ⟨(hb+1),0,⟨s0,s1,s2,s3,s4,s5⟩,⟨s0,s1,s2,s3,s4,s5⟩,false⟩ ⟨2,0,0⟩);generalize jj V2 (w.1.size+1+1+1) (w.1.size+1+1+1+1) ⟨(hb+1),0,⟨s0,s1,s2,s3,s4,s5⟩,⟨s0,s1,s2,s3,s4,s5⟩,false⟩ ⟨2,0,0⟩=X at *;exact bodyPost_ret (qq _ _ 8 9 rfl rfl rfl hres.o.1 hres.o.2) rfl ⟨rfl,o2,fG.o,HI2.o,hrs.o⟩
end
section
variable {w w' : Aa} {o o' : Own} {y : Bj} {S : Am} {i : Nat}
def VA (hS:Av w o y S) (hI:Inv S) (hb hn a0 a1 a2 a3 a4 a5 s0 s1 s2 s3 s4 s5:Int) (hl:Bool) (A B:Nat) (fi fn:Int) (ra rb:Nat)
  (tv:Int) (hq:(ra=rb/\tv=1)\/(ra≠rb/\tv=0)) (hA:A<6) (hB:B<6) (hra:R6.get ⟨a0,a1,a2,a3,a4,a5⟩ A=ra) (hrb:R6.get ⟨a0,a1,a2,a3,a4,a5⟩ B=rb) (hn0:0<=hn/\hn<=4096) (hb0:0<=hb/\hb<=4096) :
  Ab AId 154 #[ptr y.sb,i,Al #[I Z 11,I Z A,I Z B,fi,fn],Al #[hb,hn,a0,a1,a2,a3,a4,a5,s0,s1,s2,s3,s4,s5,.bool hl]] w fun e' w'=>e'=O (Ak #[(AD.ended ⟨hb,hn,⟨a0,a1,a2,a3,a4,a5⟩,⟨s0,s1,s2,s3,s4,s5⟩,hl⟩ 0).v,(kq tv 0).val])/\Left y S o w w':=by
 have fK:∀ (fn:Fn) (first cap:Array Ac) (w:Aa),(Ad fn first cap).run AId w=.ok (.func fn first cap) w:=fun _ _ _ _=>rfl
 obtain⟨o1,ho1⟩:∃ o1,o1=ext o w.1.size (y.l.id+1,0):=⟨_,rfl⟩;have h1:=hS.retag (o':=o1) fun b hb=>by rw[ho1];exact qj hb
 have hS0:Stp (qh y) o o1 w w:=by rw[ho1];exact (Stp.refl _ o w).ext _ _ (Qk _)
 have hbx:∀ b,w.1.size<=b->Ds y (o1 b):=fun b hb=>by rw[ho1];exact qp hb
 clear ho1 hS;obtain⟨W,hW⟩:=Ja0 ((((((w.alloc (AIe #[ptr y.sb] 24)).alloc (AIe #[I Z 11,I Z A,I Z B,fi,fn] 73)).alloc (AIe #[hb,hn,a0,a1,a2,a3,a4,a5,s0,s1,s2,s3,s4,s5,.bool hl] 58)).alloc (AIe #[I Z 0,I Z 0,I Z 0,I Z 0,I Z 0,I Z 0,I Z 0,I Z 0,I Z 0,I Z 0,I Z 0,I Z 0,I Z 0,I Z 0,.bool false] 58)).alloc (AIe #[I Z 0,I Z 0,I Z 0] 54)).alloc (AIe #[.func (.func 213) #[] #[ptr (w.1.size+1+1)]] 295));have hbW:Ae w.1.size w W:=by rw[hW];exact qa (qa (qa (qa (qa (qa (qc w) _) _) _) _) _) _
 have k0:An W w.1.size #[ptr y.sb] 24:=by rw[hW];exact (((((An.new w _ _).alloc _).alloc _).alloc _).alloc _).alloc _
 have k1:An W (w.1.size+1) #[I Z 11,I Z A,I Z B,fi,fn] 73:=by rw[hW];exact ((((An.Ax _ _ _ _ _ (by simp) rfl).alloc _).alloc _).alloc _).alloc _
 have k2:An W (w.1.size+1+1) #[hb,hn,a0,a1,a2,a3,a4,a5,s0,s1,s2,s3,s4,s5,.bool hl] 58:=by rw[hW];exact (((An.Ax _ _ _ _ _ (by simp) rfl).alloc _).alloc _).alloc _
 have k3:An W (w.1.size+1+1+1) #[I Z 0,I Z 0,I Z 0,I Z 0,I Z 0,I Z 0,I Z 0,I Z 0,I Z 0,I Z 0,I Z 0,I Z 0,I Z 0,I Z 0,.bool false] 58:=by rw[hW];exact ((An.Ax _ _ _ _ _ (by simp) rfl).alloc _).alloc _
 have k4:An W (w.1.size+1+1+1+1) #[I Z 0,I Z 0,I Z 0] 54:=by rw[hW];exact (An.Ax _ _ _ _ _ (by simp) rfl).alloc _
 have k5:An W (w.1.size+1+1+1+1+1) #[.func (.func 213) #[] #[ptr (w.1.size+1+1)]] 295:=by rw[hW];exact An.Ax _ _ _ _ _ (by simp) rfl
 have hSW:=h1.below hbW;have cK:Stp (qh y) o o1 w W:=hS0.trans (Stp.of_below hbW);have AI:(A:Int)<6:=by omega
 have BI:(B:Int)<6:=by omega
 have HB:=Qa hbx;have HT:=Qa (fun X (j7:An X (w.1.size+1+1) (AD.cells ⟨hb,hn,⟨a0,a1,a2,a3,a4,a5⟩,⟨s0,s1,s2,s3,s4,s5⟩,hl⟩) 58)=>mc ⟨hb,hn,⟨a0,a1,a2,a3,a4,a5⟩,⟨s0,s1,s2,s3,s4,s5⟩,hl⟩ tv 0 hn0 hb0 X j7)
 obtain⟨H',jO⟩:=Ja0 (AD.ended ⟨hb,hn,⟨a0,a1,a2,a3,a4,a5⟩,⟨s0,s1,s2,s3,s4,s5⟩,hl⟩ 0);obtain⟨A',hA'⟩:=Ja0 (kq tv 0);rw[<-jO,<-hA']at HT ⊢;obtain⟨b',n',⟨r0,r1,r2,r3,r4,r5⟩,⟨p0,p1,p2,p3,p4,p5⟩,hl'⟩:=H';obtain⟨ak,ae,av⟩:=A';have HT:=Qa (fun X j7=>show Ab AId 213 #[tv,I Z 0,ptr (w.1.size+1+1)] X fun e' w'=>e'=O (Ak #[Al #[b',n',r0,r1,r2,r3,r4,r5,p0,p1,p2,p3,p4,p5,.bool hl'],Al #[ak,ae,av]])/\Ae X.1.size X w' from HT.o X j7)
 have HI:=Qa hI;clear jO hA' hI hn0 hb0 h1 hS0 hbx;go_in;go_upto_region 3 with fail;rw[<-hW];clear hW;have cA:=js (h:=⟨hb,hn,⟨a0,a1,a2,a3,a4,a5⟩,⟨s0,s1,s2,s3,s4,s5⟩,hl⟩) k2 hA;have cB:=js (h:=⟨hb,hn,⟨a0,a1,a2,a3,a4,a5⟩,⟨s0,s1,s2,s3,s4,s5⟩,hl⟩) k2 hB;rw[hra]at cA;rw[hrb]at cB;have c1:=k1.cell;have l2:=k2.lt;go_quiet (fail);obtain⟨V,hV⟩:=Ja0 (W.drewN nq);have dF:Ae W.1.size W V:=by rw[hV];exact zi (qc _) _
 rw[<-hV];clear hV cA cB c1 l2;replace k0:=k0.below dF k0.lt;replace k1:=k1.below dF k1.lt;replace k2:=k2.below dF k2.lt;replace k3:=k3.below dF k3.lt;replace k4:=k4.below dF k4.lt;replace k5:=k5.below dF k5.lt;replace hSW:=hSW.below dF;replace cK:=cK.trans (Stp.of_below dF);have c0:=k0.cell;have c1:=k1.cell;have c5:=k5.cell;rcases hq with ⟨hab,rfl⟩|⟨hab,rfl⟩
 all_goals first
  | (have hcm:((ra:Int)==(rb:Int))=true:=by rw[beq_iff_eq,hab])
  | (have hcm:((ra:Int)==(rb:Int))=false:=by rw[Qh];omega)
 all_goals
  go_wp2_with fail;obtain⟨V2,hV2⟩:=Ja0 V;rw[<-hV2];have i2:An V2 (w.1.size+1+1) (AD.cells ⟨hb,hn,⟨a0,a1,a2,a3,a4,a5⟩,⟨s0,s1,s2,s3,s4,s5⟩,hl⟩) 58:=by rw[hV2];exact k2
  have i3:An V2 (w.1.size+1+1+1) #[I Z 0,I Z 0,I Z 0,I Z 0,I Z 0,I Z 0,I Z 0,I Z 0,I Z 0,I Z 0,I Z 0,I Z 0,I Z 0,I Z 0,.bool false] 58:=by rw[hV2];exact k3
  have i4:An V2 (w.1.size+1+1+1+1) #[I Z 0,I Z 0,I Z 0] 54:=by rw[hV2];exact k4
  have hw:Wr (w.1.size+1+1) V V2:=by rw[hV2];exact Wr.refl _ _
  have t2:Ds y (o1 (w.1.size+1+1)):=HB.o _ (by omega)
  have hS2:=hSW.bx (Stp.Cg hw t2);have hs2:=cK.Di hw (by omega)
  clear hV2;refine (HT.o _ i2).mono ?_;rintro e5 w5 ⟨rfl,hb5⟩;have m3:=i3.below hb5 i3.lt;have m4:=i4.below hb5 i4.lt;have hS5:=hS2.below hb5;have hs5:=hs2.trans (Stp.of_below hb5);clear c0 c1 c5 HT i2 i3 i4 hw hS2 hs2 hb5 k0 k1 k2 k3 k4 k5 hSW cK;have c3:=m3.cell;have z3:=m3.free;have l3:=m3.lt;have c4:=m4.cell;have z4:=m4.free;have l4:=m4.lt;have hres:=Qa (zz m3 m4 (by omega) ⟨b',n',⟨r0,r1,r2,r3,r4,r5⟩,⟨p0,p1,p2,p3,p4,p5⟩,hl'⟩ ⟨ak,ae,av⟩)
  have hrs:=Qa (wg hs5 (b6:=(w.1.size+1+1+1)) (b7:=(w.1.size+1+1+1+1)) (by omega) (by omega) ⟨b',n',⟨r0,r1,r2,r3,r4,r5⟩,⟨p0,p1,p2,p3,p4,p5⟩,hl'⟩ ⟨ak,ae,av⟩)
  have fG:=Qa (hS5.bx (ya w5 (w.1.size+1+1+1) (w.1.size+1+1+1+1) (o:=o1) (HB.o _ (by omega)) (HB.o _ (by omega)) ⟨b',n',⟨r0,r1,r2,r3,r4,r5⟩,⟨p0,p1,p2,p3,p4,p5⟩,hl'⟩ ⟨ak,ae,av⟩))
  clear m3 m4 hS5 hs5;go_wp2_with fail;change bodyPost _ _ _ _ _ (jj w5 (w.1.size+1+1+1) (w.1.size+1+1+1+1) ⟨b',n',⟨r0,r1,r2,r3,r4,r5⟩,⟨p0,p1,p2,p3,p4,p5⟩,hl'⟩ ⟨ak,ae,av⟩);generalize jj w5 (w.1.size+1+1+1) (w.1.size+1+1+1+1) ⟨b',n',⟨r0,r1,r2,r3,r4,r5⟩,⟨p0,p1,p2,p3,p4,p5⟩,hl'⟩ ⟨ak,ae,av⟩=X at *;exact bodyPost_ret (qq _ _ 8 9 rfl rfl rfl hres.o.1 hres.o.2) rfl ⟨rfl,o1,fG.o,HI.o,hrs.o⟩
def qku (hS:Av w o y S) (hI:Inv S) (hb hn a0 a1 a2 a3 a4 a5 s0 s1 s2 s3 s4 s5:Int) (hl:Bool) (A B:Nat) (fi fn:Int) (ra rb:Nat)
   (hA:A<6) (hB:B<6) (hra:R6.get ⟨a0,a1,a2,a3,a4,a5⟩ A=ra) (hrb:R6.get ⟨a0,a1,a2,a3,a4,a5⟩ B=rb) (hn0:0<=hn/\hn<=4096) (hb0:0<=hb/\hb<=4096) :
  Ab AId 154 #[ptr y.sb,i,Al #[I Z 12,I Z A,I Z B,fi,fn],Al #[hb,hn,a0,a1,a2,a3,a4,a5,s0,s1,s2,s3,s4,s5,.bool hl]] w fun e' w'=>e'=O (Ak #[(AD.ended (AD.put ⟨hb,hn,⟨a0,a1,a2,a3,a4,a5⟩,⟨s0,s1,s2,s3,s4,s5⟩,hl⟩ A rb) 0).v,(kq 0 0).val])/\Left y S o w w':=by
 have fK:∀ (fn:Fn) (first cap:Array Ac) (w:Aa),(Ad fn first cap).run AId w=.ok (.func fn first cap) w:=fun _ _ _ _=>rfl
 obtain⟨o1,ho1⟩:∃ o1,o1=ext o w.1.size (y.l.id+1,0):=⟨_,rfl⟩;have h1:=hS.retag (o':=o1) fun b hb=>by rw[ho1];exact qj hb
 have hS0:Stp (qh y) o o1 w w:=by rw[ho1];exact (Stp.refl _ o w).ext _ _ (Qk _)
 have hbx:∀ b,w.1.size<=b->Ds y (o1 b):=fun b hb=>by rw[ho1];exact qp hb
 clear ho1 hS;obtain⟨W,hW⟩:=Ja0 ((((((w.alloc (AIe #[ptr y.sb] 24)).alloc (AIe #[I Z 12,I Z A,I Z B,fi,fn] 73)).alloc (AIe #[hb,hn,a0,a1,a2,a3,a4,a5,s0,s1,s2,s3,s4,s5,.bool hl] 58)).alloc (AIe #[I Z 0,I Z 0,I Z 0,I Z 0,I Z 0,I Z 0,I Z 0,I Z 0,I Z 0,I Z 0,I Z 0,I Z 0,I Z 0,I Z 0,.bool false] 58)).alloc (AIe #[I Z 0,I Z 0,I Z 0] 54)).alloc (AIe #[.func (.func 213) #[] #[ptr (w.1.size+1+1)]] 295));have hbW:Ae w.1.size w W:=by rw[hW];exact qa (qa (qa (qa (qa (qa (qc w) _) _) _) _) _) _
 have k0:An W w.1.size #[ptr y.sb] 24:=by rw[hW];exact (((((An.new w _ _).alloc _).alloc _).alloc _).alloc _).alloc _
 have k1:An W (w.1.size+1) #[I Z 12,I Z A,I Z B,fi,fn] 73:=by rw[hW];exact ((((An.Ax _ _ _ _ _ (by simp) rfl).alloc _).alloc _).alloc _).alloc _
 have k2:An W (w.1.size+1+1) #[hb,hn,a0,a1,a2,a3,a4,a5,s0,s1,s2,s3,s4,s5,.bool hl] 58:=by rw[hW];exact (((An.Ax _ _ _ _ _ (by simp) rfl).alloc _).alloc _).alloc _
 have k3:An W (w.1.size+1+1+1) #[I Z 0,I Z 0,I Z 0,I Z 0,I Z 0,I Z 0,I Z 0,I Z 0,I Z 0,I Z 0,I Z 0,I Z 0,I Z 0,I Z 0,.bool false] 58:=by rw[hW];exact ((An.Ax _ _ _ _ _ (by simp) rfl).alloc _).alloc _
 have k4:An W (w.1.size+1+1+1+1) #[I Z 0,I Z 0,I Z 0] 54:=by rw[hW];exact (An.Ax _ _ _ _ _ (by simp) rfl).alloc _
 have k5:An W (w.1.size+1+1+1+1+1) #[.func (.func 213) #[] #[ptr (w.1.size+1+1)]] 295:=by rw[hW];exact An.Ax _ _ _ _ _ (by simp) rfl
 have hSW:=h1.below hbW;have cK:Stp (qh y) o o1 w W:=hS0.trans (Stp.of_below hbW);have AI:(A:Int)<6:=by omega
 have BI:(B:Int)<6:=by omega
 have HB:=Qa hbx;have HT:=Qa (fun X (j7:An X (w.1.size+1+1) (AD.cells (AD.put ⟨hb,hn,⟨a0,a1,a2,a3,a4,a5⟩,⟨s0,s1,s2,s3,s4,s5⟩,hl⟩ A rb)) 58)=>mc (AD.put ⟨hb,hn,⟨a0,a1,a2,a3,a4,a5⟩,⟨s0,s1,s2,s3,s4,s5⟩,hl⟩ A rb) 0 0 hn0 hb0 X j7)
 obtain⟨H',jO⟩:=Ja0 (AD.ended (AD.put ⟨hb,hn,⟨a0,a1,a2,a3,a4,a5⟩,⟨s0,s1,s2,s3,s4,s5⟩,hl⟩ A rb) 0);obtain⟨A',hA'⟩:=Ja0 (kq 0 0);rw[<-jO,<-hA']at HT ⊢;obtain⟨b',n',⟨r0,r1,r2,r3,r4,r5⟩,⟨p0,p1,p2,p3,p4,p5⟩,hl'⟩:=H';obtain⟨ak,ae,av⟩:=A';have HT:=Qa (fun X j7=>show Ab AId 213 #[I Z 0,I Z 0,ptr (w.1.size+1+1)] X fun e' w'=>e'=O (Ak #[Al #[b',n',r0,r1,r2,r3,r4,r5,p0,p1,p2,p3,p4,p5,.bool hl'],Al #[ak,ae,av]])/\Ae X.1.size X w' from HT.o X j7)
 have HI:=Qa hI;clear jO hA' hI hn0 hb0 h1 hS0 hbx;go_in;go_upto_region 3 with fail;rw[<-hW];clear hW;have cA:=js (h:=⟨hb,hn,⟨a0,a1,a2,a3,a4,a5⟩,⟨s0,s1,s2,s3,s4,s5⟩,hl⟩) k2 hA;have cB:=js (h:=⟨hb,hn,⟨a0,a1,a2,a3,a4,a5⟩,⟨s0,s1,s2,s3,s4,s5⟩,hl⟩) k2 hB;rw[hra]at cA;rw[hrb]at cB;have c1:=k1.cell;have l2:=k2.lt;go_quiet (fail);obtain⟨V,hV⟩:=Ja0 (W.drewN nq);have dF:Ae W.1.size W V:=by rw[hV];exact zi (qc _) _
 rw[<-hV];clear hV cA cB c1 l2;replace k0:=k0.below dF k0.lt;replace k1:=k1.below dF k1.lt;replace k2:=k2.below dF k2.lt;replace k3:=k3.below dF k3.lt;replace k4:=k4.below dF k4.lt;replace k5:=k5.below dF k5.lt;replace hSW:=hSW.below dF;replace cK:=cK.trans (Stp.of_below dF);have c0:=k0.cell;have c1:=k1.cell;have c5:=k5.cell;have cR:=js (h:=⟨hb,hn,⟨a0,a1,a2,a3,a4,a5⟩,⟨s0,s1,s2,s3,s4,s5⟩,hl⟩) k2 hA;have z2:=k2.free;have l2:=k2.lt;have i5:=k5.Ao (a:=⟨(w.1.size+1+1),2+A,none⟩) (by show _≠(w.1.size+1+1);omega) (I Z rb)
 have ci5:(V.setCell ⟨(w.1.size+1+1),2+A,none⟩ rb).cell? ⟨(w.1.size+1+1+1+1+1),0,none⟩=_:=i5.cell 0;go_wp2_with fail;obtain⟨V2,hV2⟩:=Ja0 ((V.setCell ⟨(w.1.size+1+1),2+A,none⟩ rb));rw[<-hV2];have i2:An V2 (w.1.size+1+1) (AD.cells (AD.put ⟨hb,hn,⟨a0,a1,a2,a3,a4,a5⟩,⟨s0,s1,s2,s3,s4,s5⟩,hl⟩ A rb)) 58:=by rw[hV2];exact RP (h:=⟨hb,hn,⟨a0,a1,a2,a3,a4,a5⟩,⟨s0,s1,s2,s3,s4,s5⟩,hl⟩) k2 hA _
 have i3:An V2 (w.1.size+1+1+1) #[I Z 0,I Z 0,I Z 0,I Z 0,I Z 0,I Z 0,I Z 0,I Z 0,I Z 0,I Z 0,I Z 0,I Z 0,I Z 0,I Z 0,.bool false] 58:=by rw[hV2];exact k3.Ao (a:=⟨(w.1.size+1+1),2+A,none⟩) (by show _≠(w.1.size+1+1);omega) (I Z rb)
 have i4:An V2 (w.1.size+1+1+1+1) #[I Z 0,I Z 0,I Z 0] 54:=by rw[hV2];exact k4.Ao (a:=⟨(w.1.size+1+1),2+A,none⟩) (by show _≠(w.1.size+1+1);omega) (I Z rb)
 have hw:Wr (w.1.size+1+1) V V2:=by rw[hV2];exact Wr.set _ _ _ _
 have t2:Ds y (o1 (w.1.size+1+1)):=HB.o _ (by omega)
 have hS2:=hSW.bx (Stp.Cg hw t2);have hs2:=cK.Di hw (by omega)
 clear hV2;refine (HT.o _ i2).mono ?_
 rintro e5 w5 ⟨rfl,hb5⟩
 have m3:=i3.below hb5 i3.lt;have m4:=i4.below hb5 i4.lt;have hS5:=hS2.below hb5;have hs5:=hs2.trans (Stp.of_below hb5);clear c0 c1 c5 HT i2 i3 i4 hw hS2 hs2 hb5 k0 k1 k2 k3 k4 k5 hSW cK i5 ci5 cR z2 l2;have c3:=m3.cell;have z3:=m3.free;have l3:=m3.lt;have c4:=m4.cell;have z4:=m4.free;have l4:=m4.lt;have hres:=Qa (zz m3 m4 (by omega) ⟨b',n',⟨r0,r1,r2,r3,r4,r5⟩,⟨p0,p1,p2,p3,p4,p5⟩,hl'⟩ ⟨ak,ae,av⟩)
 have hrs:=Qa (wg hs5 (b6:=(w.1.size+1+1+1)) (b7:=(w.1.size+1+1+1+1)) (by omega) (by omega) ⟨b',n',⟨r0,r1,r2,r3,r4,r5⟩,⟨p0,p1,p2,p3,p4,p5⟩,hl'⟩ ⟨ak,ae,av⟩)
 have fG:=Qa (hS5.bx (ya w5 (w.1.size+1+1+1) (w.1.size+1+1+1+1) (o:=o1) (HB.o _ (by omega)) (HB.o _ (by omega)) ⟨b',n',⟨r0,r1,r2,r3,r4,r5⟩,⟨p0,p1,p2,p3,p4,p5⟩,hl'⟩ ⟨ak,ae,av⟩))
 clear m3 m4 hS5 hs5;go_wp2_with fail;change bodyPost _ _ _ _ _ (jj w5 (w.1.size+1+1+1) (w.1.size+1+1+1+1) ⟨b',n',⟨r0,r1,r2,r3,r4,r5⟩,⟨p0,p1,p2,p3,p4,p5⟩,hl'⟩ ⟨ak,ae,av⟩);generalize jj w5 (w.1.size+1+1+1) (w.1.size+1+1+1+1) ⟨b',n',⟨r0,r1,r2,r3,r4,r5⟩,⟨p0,p1,p2,p3,p4,p5⟩,hl'⟩ ⟨ak,ae,av⟩=X at *;exact bodyPost_ret (qq _ _ 8 9 rfl rfl rfl hres.o.1 hres.o.2) rfl ⟨rfl,o1,fG.o,HI.o,hrs.o⟩
def qog (hS:Av w o y S) (hI:Inv S) (hb hn a0 a1 a2 a3 a4 a5 s0 s1 s2 s3 s4 s5:Int) (hl:Bool) (A B:Nat) (fi fn:Int) (ra rb:Nat)
   (hA:A<6) (hB:B<6) (hra:R6.get ⟨a0,a1,a2,a3,a4,a5⟩ A=ra) (hrb:R6.get ⟨a0,a1,a2,a3,a4,a5⟩ B=rb) (hn0:0<=hn/\hn<=4096) (hb0:0<=hb/\hb<=4096) :
  Ab AId 154 #[ptr y.sb,i,Al #[I Z 13,I Z A,I Z B,fi,fn],Al #[hb,hn,a0,a1,a2,a3,a4,a5,s0,s1,s2,s3,s4,s5,.bool hl]] w fun e' w'=>e'=O (Ak #[(AD.ended (AD.put ⟨hb,hn,⟨a0,a1,a2,a3,a4,a5⟩,⟨s0,s1,s2,s3,s4,s5⟩,hl⟩ A 0) 0).v,(kq 0 0).val])/\Left y S o w w':=by
 have fK:∀ (fn:Fn) (first cap:Array Ac) (w:Aa),(Ad fn first cap).run AId w=.ok (.func fn first cap) w:=fun _ _ _ _=>rfl
 obtain⟨o1,ho1⟩:∃ o1,o1=ext o w.1.size (y.l.id+1,0):=⟨_,rfl⟩;have h1:=hS.retag (o':=o1) fun b hb=>by rw[ho1];exact qj hb
 have hS0:Stp (qh y) o o1 w w:=by rw[ho1];exact (Stp.refl _ o w).ext _ _ (Qk _)
 have hbx:∀ b,w.1.size<=b->Ds y (o1 b):=fun b hb=>by rw[ho1];exact qp hb
 clear ho1 hS;obtain⟨W,hW⟩:=Ja0 ((((((w.alloc (AIe #[ptr y.sb] 24)).alloc (AIe #[I Z 13,I Z A,I Z B,fi,fn] 73)).alloc (AIe #[hb,hn,a0,a1,a2,a3,a4,a5,s0,s1,s2,s3,s4,s5,.bool hl] 58)).alloc (AIe #[I Z 0,I Z 0,I Z 0,I Z 0,I Z 0,I Z 0,I Z 0,I Z 0,I Z 0,I Z 0,I Z 0,I Z 0,I Z 0,I Z 0,.bool false] 58)).alloc (AIe #[I Z 0,I Z 0,I Z 0] 54)).alloc (AIe #[.func (.func 213) #[] #[ptr (w.1.size+1+1)]] 295));have hbW:Ae w.1.size w W:=by rw[hW];exact qa (qa (qa (qa (qa (qa (qc w) _) _) _) _) _) _
 have k0:An W w.1.size #[ptr y.sb] 24:=by rw[hW];exact (((((An.new w _ _).alloc _).alloc _).alloc _).alloc _).alloc _
 have k1:An W (w.1.size+1) #[I Z 13,I Z A,I Z B,fi,fn] 73:=by rw[hW];exact ((((An.Ax _ _ _ _ _ (by simp) rfl).alloc _).alloc _).alloc _).alloc _
 have k2:An W (w.1.size+1+1) #[hb,hn,a0,a1,a2,a3,a4,a5,s0,s1,s2,s3,s4,s5,.bool hl] 58:=by rw[hW];exact (((An.Ax _ _ _ _ _ (by simp) rfl).alloc _).alloc _).alloc _
 have k3:An W (w.1.size+1+1+1) #[I Z 0,I Z 0,I Z 0,I Z 0,I Z 0,I Z 0,I Z 0,I Z 0,I Z 0,I Z 0,I Z 0,I Z 0,I Z 0,I Z 0,.bool false] 58:=by rw[hW];exact ((An.Ax _ _ _ _ _ (by simp) rfl).alloc _).alloc _
 have k4:An W (w.1.size+1+1+1+1) #[I Z 0,I Z 0,I Z 0] 54:=by rw[hW];exact (An.Ax _ _ _ _ _ (by simp) rfl).alloc _
 have k5:An W (w.1.size+1+1+1+1+1) #[.func (.func 213) #[] #[ptr (w.1.size+1+1)]] 295:=by rw[hW];exact An.Ax _ _ _ _ _ (by simp) rfl
 have hSW:=h1.below hbW;have cK:Stp (qh y) o o1 w W:=hS0.trans (Stp.of_below hbW);have AI:(A:Int)<6:=by omega
 have BI:(B:Int)<6:=by omega
 have HB:=Qa hbx;have HT:=Qa (fun X (j7:An X (w.1.size+1+1) (AD.cells (AD.put ⟨hb,hn,⟨a0,a1,a2,a3,a4,a5⟩,⟨s0,s1,s2,s3,s4,s5⟩,hl⟩ A 0)) 58)=>mc (AD.put ⟨hb,hn,⟨a0,a1,a2,a3,a4,a5⟩,⟨s0,s1,s2,s3,s4,s5⟩,hl⟩ A 0) 0 0 hn0 hb0 X j7)
 obtain⟨H',jO⟩:=Ja0 (AD.ended (AD.put ⟨hb,hn,⟨a0,a1,a2,a3,a4,a5⟩,⟨s0,s1,s2,s3,s4,s5⟩,hl⟩ A 0) 0);obtain⟨A',hA'⟩:=Ja0 (kq 0 0);rw[<-jO,<-hA']at HT ⊢;obtain⟨b',n',⟨r0,r1,r2,r3,r4,r5⟩,⟨p0,p1,p2,p3,p4,p5⟩,hl'⟩:=H';obtain⟨ak,ae,av⟩:=A';have HT:=Qa (fun X j7=>show Ab AId 213 #[I Z 0,I Z 0,ptr (w.1.size+1+1)] X fun e' w'=>e'=O (Ak #[Al #[b',n',r0,r1,r2,r3,r4,r5,p0,p1,p2,p3,p4,p5,.bool hl'],Al #[ak,ae,av]])/\Ae X.1.size X w' from HT.o X j7)
 have HI:=Qa hI;clear jO hA' hI hn0 hb0 h1 hS0 hbx;go_in;go_upto_region 3 with fail;rw[<-hW];clear hW;have cA:=js (h:=⟨hb,hn,⟨a0,a1,a2,a3,a4,a5⟩,⟨s0,s1,s2,s3,s4,s5⟩,hl⟩) k2 hA;have cB:=js (h:=⟨hb,hn,⟨a0,a1,a2,a3,a4,a5⟩,⟨s0,s1,s2,s3,s4,s5⟩,hl⟩) k2 hB;rw[hra]at cA;rw[hrb]at cB;have c1:=k1.cell;have l2:=k2.lt;go_quiet (fail);obtain⟨V,hV⟩:=Ja0 (W.drewN nq);have dF:Ae W.1.size W V:=by rw[hV];exact zi (qc _) _
 rw[<-hV];clear hV cA cB c1 l2;replace k0:=k0.below dF k0.lt;replace k1:=k1.below dF k1.lt;replace k2:=k2.below dF k2.lt;replace k3:=k3.below dF k3.lt;replace k4:=k4.below dF k4.lt;replace k5:=k5.below dF k5.lt;replace hSW:=hSW.below dF;replace cK:=cK.trans (Stp.of_below dF);have c0:=k0.cell;have c1:=k1.cell;have c5:=k5.cell;have cR:=js (h:=⟨hb,hn,⟨a0,a1,a2,a3,a4,a5⟩,⟨s0,s1,s2,s3,s4,s5⟩,hl⟩) k2 hA;have z2:=k2.free;have l2:=k2.lt;have i5:=k5.Ao (a:=⟨(w.1.size+1+1),2+A,none⟩) (by show _≠(w.1.size+1+1);omega) (I Z 0)
 have ci5:(V.setCell ⟨(w.1.size+1+1),2+A,none⟩ (I Z 0)).cell? ⟨(w.1.size+1+1+1+1+1),0,none⟩=_:=i5.cell 0;go_wp2_with fail;obtain⟨V2,hV2⟩:=Ja0 ((V.setCell ⟨(w.1.size+1+1),2+A,none⟩ (I Z 0)));rw[<-hV2];have i2:An V2 (w.1.size+1+1) (AD.cells (AD.put ⟨hb,hn,⟨a0,a1,a2,a3,a4,a5⟩,⟨s0,s1,s2,s3,s4,s5⟩,hl⟩ A 0)) 58:=by rw[hV2];exact RP (h:=⟨hb,hn,⟨a0,a1,a2,a3,a4,a5⟩,⟨s0,s1,s2,s3,s4,s5⟩,hl⟩) k2 hA _
 have i3:An V2 (w.1.size+1+1+1) #[I Z 0,I Z 0,I Z 0,I Z 0,I Z 0,I Z 0,I Z 0,I Z 0,I Z 0,I Z 0,I Z 0,I Z 0,I Z 0,I Z 0,.bool false] 58:=by rw[hV2];exact k3.Ao (a:=⟨(w.1.size+1+1),2+A,none⟩) (by show _≠(w.1.size+1+1);omega) (I Z 0)
 have i4:An V2 (w.1.size+1+1+1+1) #[I Z 0,I Z 0,I Z 0] 54:=by rw[hV2];exact k4.Ao (a:=⟨(w.1.size+1+1),2+A,none⟩) (by show _≠(w.1.size+1+1);omega) (I Z 0)
 have hw:Wr (w.1.size+1+1) V V2:=by rw[hV2];exact Wr.set _ _ _ _
 have t2:Ds y (o1 (w.1.size+1+1)):=HB.o _ (by omega)
 have hS2:=hSW.bx (Stp.Cg hw t2);have hs2:=cK.Di hw (by omega)
 clear hV2;refine (HT.o _ i2).mono ?_
 rintro e5 w5 ⟨rfl,hb5⟩
 have m3:=i3.below hb5 i3.lt;have m4:=i4.below hb5 i4.lt;have hS5:=hS2.below hb5;have hs5:=hs2.trans (Stp.of_below hb5);clear c0 c1 c5 HT i2 i3 i4 hw hS2 hs2 hb5 k0 k1 k2 k3 k4 k5 hSW cK i5 ci5 cR z2 l2;have c3:=m3.cell;have z3:=m3.free;have l3:=m3.lt;have c4:=m4.cell;have z4:=m4.free;have l4:=m4.lt;have hres:=Qa (zz m3 m4 (by omega) ⟨b',n',⟨r0,r1,r2,r3,r4,r5⟩,⟨p0,p1,p2,p3,p4,p5⟩,hl'⟩ ⟨ak,ae,av⟩)
 have hrs:=Qa (wg hs5 (b6:=(w.1.size+1+1+1)) (b7:=(w.1.size+1+1+1+1)) (by omega) (by omega) ⟨b',n',⟨r0,r1,r2,r3,r4,r5⟩,⟨p0,p1,p2,p3,p4,p5⟩,hl'⟩ ⟨ak,ae,av⟩)
 have fG:=Qa (hS5.bx (ya w5 (w.1.size+1+1+1) (w.1.size+1+1+1+1) (o:=o1) (HB.o _ (by omega)) (HB.o _ (by omega)) ⟨b',n',⟨r0,r1,r2,r3,r4,r5⟩,⟨p0,p1,p2,p3,p4,p5⟩,hl'⟩ ⟨ak,ae,av⟩))
 clear m3 m4 hS5 hs5;go_wp2_with fail;change bodyPost _ _ _ _ _ (jj w5 (w.1.size+1+1+1) (w.1.size+1+1+1+1) ⟨b',n',⟨r0,r1,r2,r3,r4,r5⟩,⟨p0,p1,p2,p3,p4,p5⟩,hl'⟩ ⟨ak,ae,av⟩);generalize jj w5 (w.1.size+1+1+1) (w.1.size+1+1+1+1) ⟨b',n',⟨r0,r1,r2,r3,r4,r5⟩,⟨p0,p1,p2,p3,p4,p5⟩,hl'⟩ ⟨ak,ae,av⟩=X at *;exact bodyPost_ret (qq _ _ 8 9 rfl rfl rfl hres.o.1 hres.o.2) rfl ⟨rfl,o1,fG.o,HI.o,hrs.o⟩
end
section
variable {w w' : Aa} {o o' : Own} {y : Bj} {S : Am} {i : Nat}
def Inv.QH (h:Inv S):Inv { S with came:=[] }:=⟨h.H,h.n2,h.lv,h.t1,h.t8,h.lg,h.st,h.ve,h.ho,h.sc,h.so,h.qu,h.nx,ai _,h.se,h.ph⟩
def Inv.QP (h:Inv S):Inv { S with lost:=[] }:=⟨h.H,h.n2,h.lv,h.t1,h.t8,h.lg,h.st,h.ve,h.ho,h.sc,h.so,h.qu,h.nx,h.cm,h.se,h.ph⟩
def qpx (h:Av w o y S) :
  Ab AId 90 #[ptr y.sb] w fun e w'=>∃ v,e=O v/\Row w' o (y.l.id,15) 3 1 v S.came.length (S.came.map nv)/\Av w' o y { S with came:=[] }/\Stp (fun t=>t=(y.l.id,11)) o o w w':=by
 obtain⟨vq,vl,vm,jb,hrw⟩:=h.A2;have hfin:=Qa (show Row (w.setCell ⟨y.sb,9,none⟩ (Ai none 0 0)) o (y.l.id,15) 3 1 vm S.came.length (S.came.map nv)/\Av (w.setCell ⟨y.sb,9,none⟩ (Ai none 0 0)) o y { S with came:=[] }/\Stp (fun t=>t=(y.l.id,11)) o o w (w.setCell ⟨y.sb,9,none⟩ (Ai none 0 0)) from by
  have k:Stp (fun t=>t=(y.l.id,11)) o o w (w.setCell ⟨y.sb,9,none⟩ (Ai none 0 0)):=(Stp.refl _ o w).setCell (by show o y.sb=_;exact h.os) _
  exact⟨hrw.m.Ar k (by simp),h.own (S':={ S with came:=[] }) rfl rfl rfl rfl rfl (jb.set 9 (Ai none 0 0)) ⟨hrw.q.Ar k (by simp),hrw.l.Ar k (by simp),Row.nil _ _ _ _ _⟩ (k.mono (by rintro _ rfl;exact⟨rfl,.inl rfl⟩)),k⟩)
 obtain⟨pa,cp,rfl⟩:=hrw.m.A5;unfold qk at jb;have c:=jb.cell;have z:=jb.free;have s:=jb.lt;clear h hrw;go_in;go_wp2_with fail;go_ret;exact⟨_,rfl,hfin.o⟩
def qpc (h:Av w o y S) :
  Ab AId 92 #[ptr y.sb] w fun e w'=>∃ v,e=O v/\Row w' o (y.l.id,14) 3 1 v S.lost.length (S.lost.map nv)/\Av w' o y { S with lost:=[] }/\Stp (fun t=>t=(y.l.id,11)) o o w w':=by
 obtain⟨vq,vl,vm,jb,hrw⟩:=h.A2;have hfin:=Qa (show Row (w.setCell ⟨y.sb,8,none⟩ (Ai none 0 0)) o (y.l.id,14) 3 1 vl S.lost.length (S.lost.map nv)/\Av (w.setCell ⟨y.sb,8,none⟩ (Ai none 0 0)) o y { S with lost:=[] }/\Stp (fun t=>t=(y.l.id,11)) o o w (w.setCell ⟨y.sb,8,none⟩ (Ai none 0 0)) from by
  have k:Stp (fun t=>t=(y.l.id,11)) o o w (w.setCell ⟨y.sb,8,none⟩ (Ai none 0 0)):=(Stp.refl _ o w).setCell (by show o y.sb=_;exact h.os) _
  exact⟨hrw.l.Ar k (by simp),h.own (S':={ S with lost:=[] }) rfl rfl rfl rfl rfl (jb.set 8 (Ai none 0 0)) ⟨hrw.q.Ar k (by simp),Row.nil _ _ _ _ _,hrw.m.Ar k (by simp)⟩ (k.mono (by rintro _ rfl;exact⟨rfl,.inl rfl⟩)),k⟩)
 obtain⟨pa,cp,rfl⟩:=hrw.l.A5;unfold qk at jb;have c:=jb.cell;have z:=jb.free;have s:=jb.lt;clear h hrw;go_in;go_wp2_with fail;go_ret;exact⟨_,rfl,hfin.o⟩
end
end
section
open Go.RowKit Go.Shelf Hp
attribute [local go_sem] Oper.semAt_some
def nk {F:Fence}{n:Nat}{P:Program}(w:Aa){ops:Array Oper}{rest:List Oper}{op:Oper}{a:Act}{Q:Exit->Act->Aa->Prop}(hgd:op.guard=none)(s x:Operand)(t:TypeId)
  (ho:op.op=.call { callee:=.builtin .append,args:=#[s,x],argTypes:=#[t,t] })
  (e:TypeId)(i:TypeInfo)(z:Ac)(size bytes:Nat)(ht:P.underlying t=some (.slice e))(hi:P.info? e=some i)(hz:i.zero=some z)
  (hsize:i.size=size)(hby:i.bytes=bytes)(hzs:z.cells.size=size)(hsz:0<size)
  (o:Own)(tg:Tag)(v:Ac)(k:Nat)(xs:List Ac)(hs:a.eval s=v)(hown:Row w o tg e size v k xs)
  (ad:Addr)(m c:Nat)(news:List Ac)(hx:a.eval x=Ai (some ad) m c)(hl:news.length=m*size)(hnews:∀ j u,news[j]?=some u->w.cell? (ad.add j)=some u)(h1:∀ u ∈ news,u.oneCell'=true)
  (h63:k+m<=maxLen)(hbytes:(k+m)*bytes<=140737488355328)
  (h:∀ v' w',Row w' (ext o w.1.size tg) tg e size v' (k+m) (xs++news)->Stp (fun u=>u=tg) o (ext o w.1.size tg) w w'->wpListIn F n P ops Q rest (a.put op.dst v') w'):wpListIn F n P ops Q (op::rest) a w:=by
 refine wpListIn_plain hgd fun K hK'=>?_
 obtain⟨v',w',hrun,r1,r2⟩:=xp (P:=P) w t op.type e i z size bytes ht hi hz hsize hby hzs hsz o tg v k xs hown ad m c news hl hnews h1 h63 hbytes;unfold Oper.wpIn;refine⟨?_,?_⟩
 ·simp[Oper.about,ho,resolve,Target.leads,Sem.run_pure]
 ·rw[Oper.semAt_plain F _ _ (by rw[ho];intro c hc';cases hc')]
  simp[execOp,ho,resolve,invoke,builtin,hs,hx,hrun,Result.andThen];exact hK' _ _ (h v' w' r1 r2)
def BS.Ri {w:Aa}{o:Own}{id k b:Nat}{L:Lg}{vr vk vh vu:Ac}(h:BS w o id k b L vr vk vh vu) :
  (∃ a c,vr=.slice a L.reads.length c/\(0<L.reads.length->a=some ⟨vi vr,0,none⟩))/\(∃ a c,vk=.slice a L.keeps.length c/\(0<L.keeps.length->a=some ⟨vi vk,0,none⟩)) /\
  (∃ a c,vh=.slice a L.holds.length c/\(0<L.holds.length->a=some ⟨vi vh,0,none⟩))/\(∃ a c,vu=.slice a L.Az.length c/\(0<L.Az.length->a=some ⟨vi vu,0,none⟩)):=by
 have f:∀ {e:TypeId}{size n:Nat}{t:Tag}{v:Ac}{xs:List Ac},Row w o t e size v n xs->∃ a c,v=.slice a n c/\(0<n->a=some ⟨vi v,0,none⟩):=by
  intro e size n t v xs hr;obtain⟨a,c,rfl⟩:=hr.A5;refine⟨a,c,rfl,fun hn=>?_⟩;obtain⟨cap,e1,_⟩:=pz hr hn;injection e1
 exact⟨f h.rr,f h.rk,f h.rh,f h.ru⟩
def BS.kinds {w:Aa}{o:Own}{id k b:Nat}{L:Lg}{vr vk vh vu:Ac}(h:BS w o id k b L vr vk vh vu)(j:Nat)(u:Un)(hu:L.Az[j]?=some u):w.cell? ⟨vi vu,j*4,none⟩=some (nv u.kind):=by
 have hn:0<L.Az.length:=by have:=(Qc.1 hu).1;omega
 obtain⟨cap,ev,_⟩:=pz h.ru hn;have hr:=h.ru;rw[ev]at hr;exact (hr.M5 j u hu).1
def tb:∀ (us:List Un)(l:List Nat),(xa us l).map (·.kind)=us.map (·.kind)
 | [],_=>rfl
 | u::us,l=>by
  unfold xa;split
  ·rw[aB,aB,tb us]
  ·rw[aB,aB,tb us]
def BS.Gl {w:Aa}{o:Own}{id k b:Nat}{L:Lg}{q:List Nat}{vr vk vh vu:Ac}(h:BS w o id k b (L.put q) vr vk vh vu)(j:Nat)(u:Un)(hu:L.Az[j]?=some u):w.cell? ⟨vi vu,j*4,none⟩=some (nv u.kind):=by
 have e:=congrArg (fun l=>l[j]?) (tb L.Az (q.drop (L.reads.length+L.keeps.length+L.holds.length)))
 simp only[Qj,hu,Option.map_some]at e;obtain⟨z,hz,hk⟩:=Option.map_eq_some_iff.1 e;rw[h.kinds j z hz,hk]
abbrev tR:Tag:=(1,0)
abbrev tB:Tag:=(2,0)
structure E8 (w:Aa)(b:Nat)(L:Lg)(vr vk vh vu:Ac)(D bL bR:Nat)(R:Loop)(bA m:Nat)(o1:Own)(v:Ac)(wr:Aa):Prop where
 sp:Stp T2 EK o1 w wr
 hL:wr.heap[D+1]?=some (.loop R)
 hD:wr.heap[D]?=some (.deferred (some []))
 jA:An wr bA #[vr,vk] 25
 jL:An wr bL #[ptr b] 105
 jR:An wr bR #[v] 25
 row:Row wr o1 tR 3 1 v m ((L.roots.take m).map nv)
 tL:o1 (D+1)=tB
 tD:o1 D=tB
 tA:o1 bA=tB
 tl:o1 bL=tB
 tr:o1 bR=tB
section
variable {w : Aa} {b : Nat} {L : Lg} {vr vk vh vu : Ac} {D bL bR : Nat} {R : Loop} {bA m : Nat} {o1 o2 : Own} {v : Ac} {wr w2 : Aa}
def E8.C8 (h:E8 w b L vr vk vh vu D bL bR R bA m o1 v wr){T:Tag->Prop}(hs:Stp T o1 o2 wr w2)(hB:¬T tB)(hR:¬T tR)(hT:∀ t,T t->T2 t):E8 w b L vr vk vh vu D bL bR R bA m o2 v w2:=
 have lL:=(Qf.1 h.hL).1
 have lD:=(Qf.1 h.hD).1
 ⟨h.sp.trans (hs.mono hT),(hs.block _ lL (by rw[h.tL];exact hB)).trans h.hL,(hs.block _ lD (by rw[h.tD];exact hB)).trans h.hD,h.jA.Ar hs (by rw[h.tA];exact hB),h.jL.Ar hs (by rw[h.tl];exact hB),h.jR.Ar hs (by rw[h.tr];exact hB),h.row.Ar hs hR,
  (hs.tags _ lL).trans h.tL,(hs.tags _ lD).trans h.tD,(hs.tags _ h.jA.lt).trans h.tA,(hs.tags _ h.jL.lt).trans h.tl,(hs.tags _ h.jR.lt).trans h.tr⟩
def E8.below (h:E8 w b L vr vk vh vu D bL bR R bA m o1 v wr)(hb:Ae wr.1.size wr w2):E8 w b L vr vk vh vu D bL bR R bA m o1 v w2:=
 h.C8 (T:=fun _=>False) (Stp.of_below hb) id id fun _ h=>h.elim
end
section
variable {w : Aa} {b : Nat} {L : Lg} {vr vk vh vu : Ac} {D bL bR : Nat} {R : Loop} {bA m : Nat} {o1 o2 : Own} {v : Ac} {wr w2 : Aa}
def E8.put (h:E8 w b L vr vk vh vu D bL bR R bA m o1 v wr)(hw:w.1.size<=D)(R':Loop):E8 w b L vr vk vh vu D bL bR R' bA m o1 v (wr.putObj (D+1) (.loop R')):=by
 have n1:bA≠D+1:=fun e=>by have:=h.jA;unfold An at this;rw[e,h.hL]at this;cases this
 have n2:bL≠D+1:=fun e=>by have:=h.jL;unfold An at this;rw[e,h.hL]at this;cases this
 have n3:bR≠D+1:=fun e=>by have:=h.jR;unfold An at this;rw[e,h.hL]at this;cases this
 exact⟨h.sp.Df (by omega) _,aA (Qf.1 h.hL).1,(aa (by omega)).trans h.hD,h.jA.put n1,h.jL.put n2,h.jR.put n3,h.row.put h.hL _,h.tL,h.tD,h.tA,h.tl,h.tr⟩
def PZ:¬(tB=tR):=fun e=>by simp at e
def E8.appended {v':Ac}{x:Nat}(h:E8 w b L vr vk vh vu D bL bR R bA m o1 v wr)(hs:Stp (fun u=>u=tR) o1 o2 wr w2)(hrow:Row w2 o2 tR 3 1 v' (m+1) ((L.roots.take m).map nv++[I Z x]))(htk:(L.roots.take (m+1)).map nv=(L.roots.take m).map nv++[nv x]) :
  An w2 bR #[v] 25/\E8 w b L vr vk vh vu D bL bR R bA (m+1) o2 v' (w2.setCell ⟨bR,0,none⟩ v'):=by
 have lL:=(Qf.1 h.hL).1;have lD:=(Qf.1 h.hD).1;have ek:An w2 bR #[v] 25:=h.jR.Ar hs (by rw[h.tr];exact PZ)
 have tr2:o2 bR=tB:=(hs.tags _ h.jR.lt).trans h.tr;have k:Stp (fun u=>u=tB) o2 o2 w2 (w2.setCell ⟨bR,0,none⟩ v'):=(Stp.refl _ o2 w2).setCell (by show o2 bR=tB;exact tr2) v'
 have hL2:=(hs.block _ lL (by rw[h.tL];exact PZ)).trans h.hL
 have hD2:=(hs.block _ lD (by rw[h.tD];exact PZ)).trans h.hD
 have nG:=h.jA.Ar hs (by rw[h.tA];exact PZ)
 have jL2:=h.jL.Ar hs (by rw[h.tl];exact PZ)
 have n1:bA≠bR:=fun e=>by unfold An at nG ek;rw[e,ek]at nG;simp at nG
 have n2:bL≠bR:=fun e=>by unfold An at jL2 ek;rw[e,ek]at jL2;simp at jL2
 have n3:D≠bR:=fun e=>by unfold An at ek;rw[e,ek]at hD2;cases hD2
 have n4:D+1≠bR:=fun e=>by unfold An at ek;rw[e,ek]at hL2;cases hL2
 refine⟨ek,(h.sp.trans (hs.mono fun _ h=>Or.inl h)).trans (k.mono fun _ h=>Or.inr h),(Below.heap_setCell _ _ _ _ n4).trans hL2,(Below.heap_setCell _ _ _ _ n3).trans hD2,nG.Ao n1 _,jL2.Ao n2 _,ek.set 0 v',?_,(hs.tags _ lL).trans h.tL,(hs.tags _ lD).trans h.tD,(hs.tags _ h.jA.lt).trans h.tA,(hs.tags _ h.jL.lt).trans h.tl,tr2⟩
 rw[htk];exact hrow.Ar k (fun e=>PZ e.symm)
def Row.SP {e:TypeId}{size n:Nat}{t:Tag}{o:Own}{v:Ac}{xs:List Ac}(h:Row wr o t e size v n xs){l:Nat}{ds:Option (List Deferred)}(hl:wr.heap[l]?=some (.deferred ds))(x:Obj):Row (wr.putObj l x) o t e size v n xs:=by
 obtain⟨⟨h1,h2⟩,h3⟩:=h;refine⟨⟨h1,?_⟩,h3⟩;rcases h2 with h2|⟨g,cap,cur,rfl,hg,hh,r⟩
 ·exact .inl h2
 ·refine .inr ⟨g,cap,cur,rfl,hg,(aa fun e=>?_).trans hh,r⟩
  rw[e,hl]at hh;cases hh
def Row.mixed {e:TypeId}{size n:Nat}{v:Ac}{xs:List Ac}{w9:Aa}(hs:Stp T2 EK o1 w wr)(h:Row w9 o1 (1,0) e size v n xs):Row w9 (fo w.1.size) (1,0) e size v n xs:=by
 refine⟨h.own,fun b hb=>?_⟩
 have h1:=h.tag b hb;rcases Nat.lt_or_ge b w.1.size with h2|h2
 ·rw[hs.tags b h2]at h1;simp[EK]at h1
 ·exact Hy h2
end
def YV {l:List Nat}{k x:Nat}(h:l[k]?=some x):(l.take (k+1)).map nv=(l.take k).map nv++[nv x]:=by rw[jt h,Qw];rfl
def VB {w:Aa} {o:Own} {id k b:Nat} {L:Lg} {vr vk vh vu:Ac} (h:BS w o id k b L vr vk vh vu) (hk:L.fit) :
  Ab AId 65 #[ptr b] w fun e w'=>∃ v,e=O v/\Row w' (fo w.1.size) (1,0) 3 1 v L.roots.length (L.roots.map nv)/\Ae w.1.size w w':=by
 have hN:L.roots.length<=1000:=by
  have h1:=ky vr vk vh vu L;have h2:=hk.ok.r;have h3:=hk.ok.k;have h4:=hk.ok.h;have h5:=hk.ok.u;have h6:=hk.ok.mr;have h7:=hk.ok.mu;have h8:∀ us:List Un,(us.flatMap Un.places).length<=us.length*2:=fun us=>by
   induction us with
   | nil=>simp
   | cons u us ih =>
    rw[aF,Qd,Qv];have:u.places.length<=2:=by unfold Un.places;split<;>simp
    omega
  have h9:=h8 L.Az;have h0:L.roots.length=L.reads.length+L.keeps.length+L.holds.length+(L.Az.flatMap Un.places).length:=by unfold Lg.roots;simp only[Qd,Qg]
  omega
 have hsl:=h.Ri
 have rD:=Qa (fun (w':Aa) (hw:Ae w.1.size w w') (m:Nat) (a:Addr) (ha:(xo vr vk vh vu L)[m]?=some a) =>
  show w'.cell? a=(L.roots[m]?).map nv/\a.spot=none from by
   have hp:=BS.place L.roots rfl (by rw[Wo hk];exact h.below hw) ha
   exact⟨hp.1,hp.2.1⟩)
 have HKd:=Qa (fun (w':Aa) (hw:Ae w.1.size w w')=>(h.below hw).kinds)
 have oI:=Qa (fun (w':Aa) (hw:Ae w.1.size w w')=>h.A2.below hw h.A2.lt)
 have HLt:=Qa h.A2.lt;have HN:=Qa hN;have n1:L.reads.length<=200:=by have:=hk.ok.r;have:=hk.ok.mr;omega
 have n2:L.keeps.length<=200:=by have:=hk.ok.k;have:=hk.ok.mr;omega
 have n3:L.holds.length<=200:=by have:=hk.ok.h;have:=hk.ok.mu;omega
 have n4:L.Az.length<=200:=by have:=hk.ok.u;have:=hk.ok.mu;omega
 have mO:=Qa hsl;have mH:=Qa (Aj n1 (Aj n2 (Aj n3 n4)));clear h hN hsl n1 n2 n3 n4;refine (callsIn_wide (n:=3)).1 ?_;refine callsIn_of_wp_marks func65 rfl trivial ?_ rfl;simp only[ntmps65,aR,Qv,aU,Nat.reduceAdd,Nat.reduceSub,Array.replicate_succ,Array.replicate_zero,aS,aN,aJ,aT];gi_wp2_with (refine⟨trivial,?_⟩;gi_at_call 128;refine (callsIn_wide.2 (sk b _)).mono ?_;rintro e w2 ⟨rfl,rfl⟩);obtain⟨W0,hW0⟩:=Ja0 ((w.alloc (AIe #[Ai none 0 0] 25)).alloc (AIe #[ptr b] 105));have hb0:Ae w.1.size w W0:=by rw[hW0];exact qa (qa (qc _) _) _
 have jR0:An W0 w.1.size #[Ai none 0 0] 25:=by rw[hW0];exact (An.new w _ _).alloc _
 have pX:An W0 (w.1.size+1) #[ptr b] 105:=by rw[hW0];exact An.Ax _ _ _ _ _ (by simp) rfl
 try rw[<-hW0]
 clear hW0;refine yj (gf:=191) (lb:=#[ptr (w.1.size+1)]) (by simp[go_sem]) (enters_of func191 (by kernel_rfl) rfl) ?_
 intro fn W1 R hW1 hR;obtain⟨D,hD⟩:=Ja0 W0.1.size;have dE:Ae W0.1.size W0 W1:=by rw[hW1];exact qa (qa (qc _) _) _
 have hL1:W1.heap[D+1]?=some (.loop R):=by rw[hW1,hD];have:=ag (W0.alloc (.deferred (some []))) (.loop R);rwa [aH]at this
 have hD1:W1.heap[D]?=some (.deferred (some [])):=by rw[hW1,hD];exact (Below.heap_alloc _ _ _ (by simp)).trans (ag W0 _)
 have hRs:R.params.size=1:=by rw[hR];rfl
 rw[<-hD];have jM:w.1.size<=D:=by rw[hD];exact hb0.size
 have lV:=pX.below dE pX.lt;have jR1:=jR0.below dE jR0.lt;have hb1:Ae w.1.size w W1:=qd hb0 dE;have vI:=oI.o W1 hb1;have hDz:D+1<W1.1.size:=(Qf.1 hL1).1;have HR:=Qa hR;clear hR hW1 dE pX jR0 hb0 hD;refine dy (fun bA m wr=>∃ o1 v,E8 w b L vr vk vh vu D (w.1.size+1) w.1.size R bA m o1 v wr) hRs mH.o.1 mH.o.2.1 mH.o.2.2.1 mH.o.2.2.2 mO.o.1 mO.o.2.1 mO.o.2.2.1 mO.o.2.2.2 lV vI ?_ ?_ ?_ ?_
 ·intro W2 bA hb iY jA
  refine⟨ext EK w.1.size tB,Ai none 0 0,(Stp.of_below (qd hb1 hb)).ext _ _ (Qk _),(hb.block _ hDz).trans hL1,(hb.block _ (by omega)).trans hD1,jA,lV.below hb lV.lt,jR1.below hb jR1.lt,Row.nil _ _ _ _ _,qp (by omega),qp (by omega),qp (by have:=hb1.size;omega),qp (by omega),qp (Qk _)⟩
 ·rintro bA m wr ⟨o1,v,h⟩
  have hb:=T2.below h.sp;exact⟨h.jA,h.jL,oI.o wr hb,h.hL,HKd.o wr hb⟩
 ·rintro bA m wr a T ⟨o1,v,h⟩ ha hT
  have hb:=T2.below h.sp;obtain⟨hc,hsp⟩:=rD.o wr hb m a ha;obtain⟨g,ax,asp⟩:=a;simp only at hsp;subst hsp;have hm:m<L.roots.length:=by rw[<-ky vr vk vh vu L];exact (Qc.1 ha).1
  obtain⟨x,hx⟩:∃ x,L.roots[m]?=some x:=⟨_,Qb hm⟩;rw[hx]at hc;replace hc:wr.cell? ⟨g,ax,none⟩=some (I Z x):=hc;have hN9:=HN.o;have dB:m+1<=maxLen:=by simp only[maxLen];omega
  have hmb:(m+1)*8<=140737488355328:=by omega
  have htk:=YV hx;obtain⟨Post,bY⟩:∃ Post:Ending->Aa->Prop,Post=fun e W'=>e=O (.bool true)/\∃ o1 v,E8 w b L vr vk vh vu D (w.1.size+1) w.1.size R bA (m+1) o1 v W':=⟨_,rfl⟩;rw[<-bY,hT];have hst:R.state=.ready:=by rw[HR.o]
  have hpe:R.pending=none:=by rw[HR.o]
  have HST:=Qa hst;have kW:=Qa hpe;have dQ:=Qa bY;have gI:=Qa htk;clear hst hpe bY hT htk hx hm ha hN9;rw[HR.o];refine roundIn_of_wpIn trivial ?_;gi_wp2;refine ud h.hL HST.o ?_;intro W3 hW3 qA;have h3:E8 w b L vr vk vh vu D (w.1.size+1) w.1.size { R with state:=.busy } bA m o1 v W3:=by rw[hW3];exact h.put jM _
  have hc3:W3.cell? ⟨g,ax,none⟩=some (I Z x):=by
   have hg:g≠D+1:=fun e=>by rw[e]at hc;simp[aL,h.hL]at hc
   rw[hW3];have:=aa (w:=wr) (o:=.loop { R with state:=.busy }) hg;simp only[aL,this]at hc ⊢;exact hc
  clear hW3 qA h hc;have hend:=Qa (fun (W4:Aa) (o4:Own) (v4:Ac) (fD:E8 w b L vr vk vh vu D (w.1.size+1) w.1.size { R with state:=.busy } bA (m+1) o4 v4 W4) =>
   show ∃ v w5,(aM (D+1) none).run AId W4=.ok v w5/\Post (O v) w5 from by
    refine Q4 fD.hL HST.o kW.o ?_;intro W5 dA _;rw[dQ.o];exact⟨rfl,o4,v4,by rw[dA];exact fD.put jM R⟩)
  obtain⟨pa,cp,rfl⟩:=h3.row.A5;have cR:W3.cell? ⟨w.1.size,0,none⟩=some (.slice pa m cp):=h3.jR.cell 0;obtain⟨iI,hi,hsI,cZ,bZ⟩:=zh;have h4:=h3.below (w2:=W3.drew.alloc (AIe #[x] 3)) (qa (qe (qc _)) _);have HL:=Qa (fun (v':Ac) (w':Aa) (o2:Own) (hrow:Row w' o2 tR 3 1 v' (m+1) ((L.roots.take m).map nv++[I Z x])) (hst:Stp (fun u=>u=tR) o1 o2 (W3.drew.alloc (AIe #[x] 3)) w') =>
   let h:=h4.appended hst hrow gI.o
   Aj h.1 (hend.o _ _ _ h.2))
  have H4r:=Qa h4.row;have sR3:w.1.size<W3.1.size:=h3.jR.lt;have cR4:(W3.alloc (AIe #[x] 3)).cell? ⟨w.1.size,0,none⟩=some (.slice pa m cp):=(h3.jR.alloc _).cell 0;clear h3 h4 hend;gi_wp2;refine ss (by kernel_rfl) [[0,1,2,3,4,5,6],[1,0,2,3,4,5,6],[1,2,0,3,4,5,6],[1,2,3,0,4,5,6],[1,2,3,4,0,5,6]] (by kernel_rfl) (by decide) ?_
  intro is his;simp only[aY,List.not_mem_nil,or_false]at his;rcases his with rfl|rfl|rfl|rfl|rfl
  all_goals simp only[mh,List.drop_succ_cons,aW]
  all_goals gi_wp2_with (first
   | (gi_at_builtin;refine nk _ rfl _ _ _ rfl 3 iI _ 1 8 underlying25 hi bZ hsI cZ rfl (by decide) o1 tR _ m _ rfl H4r.o ⟨W3.1.size,0,none⟩ 1 1 [I Z x] rfl rfl (qv (An.new W3.drew _ _)) jd dB hmb ?_;intro v' w' hrow hst;obtain⟨pa',cp',rfl⟩:=hrow.A5;obtain⟨j5,HH5⟩:=HL.o _ _ _ hrow hst;have cR5:w'.cell? ⟨w.1.size,0,none⟩=some (.slice pa m cp):=j5.cell 0;have zR5:=j5.free 0;have sR5:=j5.lt;replace HH5:=Qa HH5;clear hrow hst j5)
   | fail)
  all_goals exact HH5.o
 ·rintro bA wr ⟨o1,v,h⟩
  rw[ky]at h;have hst:R.state≠.busy:=by rw[HR.o];simp
  have hpe:R.pending=none:=by rw[HR.o]
  refine ba h.hL hst ?_;intro W4 eD;have h4:E8 w b L vr vk vh vu D (w.1.size+1) w.1.size { R with state:=.exhausted } bA L.roots.length o1 v W4:=by rw[eD];exact h.put jM _
  rw[hpe];dsimp only;have HH:=Qa h4;have cR:W4.cell? ⟨w.1.size,0,none⟩=some v:=h4.jR.cell 0;obtain⟨pa,cp,rfl⟩:=h4.row.A5;clear h h4 eD hst hpe HR hL1 hD1 lV jR1 vI hb1 oI rD HKd;gi_wp2;refine⟨by simp,.inl ⟨_,_,rfl,run_takeDeferred HH.o.hD,?_⟩⟩
  refine⟨.slice pa L.roots.length cp,by simp[results,results65,go_sem],.slice pa L.roots.length cp,rfl,?_,?_⟩
  ·have hr:=HH.o.row
   rw[af]at hr;have hs:=HH.o.sp;refine Row.mixed hs (hr.SP HH.o.hD _)
  ·exact FF (T2.below HH.o.sp) jM _
def rv (id k:Nat)(t:Tag):Prop:=t.1=id/\k+1<=t.2/\t.2<=k+4
def M1 (T:Tag->Prop)(w:Aa)(o:Own)(v:Ac)(l:List Nat):Prop:=
 ∃ a c,v=.slice a l.length c/\∀ (j x:Nat),l[j]?=some x->∃ g off,a=some ⟨g,off,none⟩/\g<w.1.size/\¬T (o g)/\w.cell? ⟨g,off+j,none⟩=some (nv x)
structure KU (w:Aa)(b:Nat)(vr vk v:Ac)(D bL bP bN:Nat)(R:Loop)(bA m:Nat)(wr:Aa):Prop where
 bl:Ae w.1.size w wr
 hL:wr.heap[D+1]?=some (.loop R)
 hD:wr.heap[D]?=some (.deferred (some []))
 jA:An wr bA #[vr,vk] 25
 jL:An wr bL #[ptr b] 105
 jP:An wr bP #[v] 25
 jN:An wr bN #[m] 3
structure KW (w:Aa)(o:Own)(id k b:Nat)(L:Lg)(ps:List Nat)(vr vk vh vu v:Ac)(D0 D bL bP bI:Nat)(R:Loop)(o1:Own)(bA m:Nat)(wr:Aa):Prop where
 sp:Stp (rv id k) o o1 w wr
 lg:BS wr o1 id k b (L.put (ps.take m++L.roots.drop m)) vr vk vh vu
 hL:wr.heap[D+1]?=some (.loop R)
 hD:wr.heap[D]?=some (.deferred (some []))
 h0:wr.heap[D0]?=some (.deferred (some []))
 jA:An wr bA #[vr,vk] 25
 jL:An wr bL #[ptr b] 105
 jP:An wr bP #[v] 25
 jI:An wr bI #[m] 3
 tL:o1 (D+1)=(id+1,0)
 tD:o1 D=(id+1,0)
 t0:o1 D0=(id+1,0)
 tA:o1 bA=(id+1,0)
 tl:o1 bL=(id+1,0)
 tP:o1 bP=(id+1,0)
 tI:o1 bI=(id+1,0)
def Nw (id k:Nat):¬rv id k (id+1,0):=fun h=>by have:=h.1;simp at this
section
variable {w : Aa} {b : Nat} {L : Lg} {vr vk vh vu v : Ac} {D D0 bL bP bN bI : Nat} {R : Loop} {bA m : Nat} {wr w2 : Aa} {o o1 : Own} {id k : Nat} {ps : List Nat}
def KU.put (h:KU w b vr vk v D bL bP bN R bA m wr)(hw:w.1.size<=D)(R':Loop):KU w b vr vk v D bL bP bN R' bA m (wr.putObj (D+1) (.loop R')):=by
 have n1:bA≠D+1:=fun e=>by have:=h.jA;unfold An at this;rw[e,h.hL]at this;cases this
 have n2:bL≠D+1:=fun e=>by have:=h.jL;unfold An at this;rw[e,h.hL]at this;cases this
 have n3:bP≠D+1:=fun e=>by have:=h.jP;unfold An at this;rw[e,h.hL]at this;cases this
 have n4:bN≠D+1:=fun e=>by have:=h.jN;unfold An at this;rw[e,h.hL]at this;cases this
 exact⟨FF h.bl (by omega) _,aA (Qf.1 h.hL).1,(aa (by omega)).trans h.hD,h.jA.put n1,h.jL.put n2,h.jP.put n3,h.jN.put n4⟩
def KU.step (h:KU w b vr vk v D bL bP bN R bA m wr)(hw:w.1.size<=bN):KU w b vr vk v D bL bP bN R bA (m+1) (wr.setCell ⟨bN,0,none⟩ (I Z ((m:Int)+1))):=by
 have n1:bA≠bN:=fun e=>by have h1:=h.jA;have h2:=h.jN;unfold An at h1 h2;rw[e,h2]at h1;simp at h1
 have n2:bL≠bN:=fun e=>by have h1:=h.jL;have h2:=h.jN;unfold An at h1 h2;rw[e,h2]at h1;simp at h1
 have n3:bP≠bN:=fun e=>by have h1:=h.jP;have h2:=h.jN;unfold An at h1 h2;rw[e,h2]at h1;simp at h1
 have n4:D≠bN:=fun e=>by have h2:=h.jN;have h1:=h.hD;unfold An at h2;rw[e,h2]at h1;cases h1
 have n5:D+1≠bN:=fun e=>by have h2:=h.jN;have h1:=h.hL;unfold An at h2;rw[e,h2]at h1;cases h1
 exact⟨qm h.bl hw _,(Below.heap_setCell _ _ _ _ n5).trans h.hL,(Below.heap_setCell _ _ _ _ n4).trans h.hD,h.jA.Ao n1 _,h.jL.Ao n2 _,h.jP.Ao n3 _,h.jN.set 0 _⟩
def KW.put (h:KW w o id k b L ps vr vk vh vu v D0 D bL bP bI R o1 bA m wr)(hw:w.1.size<=D)(_:L.fit)(R':Loop):KW w o id k b L ps vr vk vh vu v D0 D bL bP bI R' o1 bA m (wr.putObj (D+1) (.loop R')):=by
 have n1:bA≠D+1:=fun e=>by have:=h.jA;unfold An at this;rw[e,h.hL]at this;cases this
 have n2:bL≠D+1:=fun e=>by have:=h.jL;unfold An at this;rw[e,h.hL]at this;cases this
 have n3:bP≠D+1:=fun e=>by have:=h.jP;unfold An at this;rw[e,h.hL]at this;cases this
 have n4:bI≠D+1:=fun e=>by have:=h.jI;unfold An at this;rw[e,h.hL]at this;cases this
 have n5:D0≠D+1:=fun e=>by have:=h.h0;rw[e,h.hL]at this;cases this
 have s1:Stp (fun t=>t=(id+1,0)) o1 o1 wr (wr.putObj (D+1) (.loop R')):=(Stp.refl _ o1 wr).put (by rw[h.tL]) _
 exact⟨h.sp.Df (by omega) _,h.lg.Ar s1 (fun j _ e=>by simp at e),aA (Qf.1 h.hL).1,(aa (by omega)).trans h.hD,(aa n5).trans h.h0,h.jA.put n1,h.jL.put n2,h.jP.put n3,h.jI.put n4,h.tL,h.tD,h.t0,h.tA,h.tl,h.tP,h.tI⟩
def KW.step (h:KW w o id k b L ps vr vk vh vu v D0 D bL bP bI R o1 bA m wr)(hq:ps.length=L.roots.length)(hw:w.1.size<=bI){g ax x:Nat}(ha:(xo vr vk vh vu L)[m]?=some ⟨g,ax,none⟩)(hx:ps[m]?=some x) :
  g≠bI/\(∃ u,wr.cell? ⟨g,ax,none⟩=some u)/\wr.frozen? ⟨g,ax,none⟩=false/\g<wr.1.size/\KW w o id k b L ps vr vk vh vu v D0 D bL bP bI R o1 bA (m+1) ((wr.setCell ⟨g,ax,none⟩ x).setCell ⟨bI,0,none⟩ (I Z ((m:Int)+1))):=by
 have hm:m<L.roots.length:=by rw[<-ky vr vk vh vu L];exact (Qc.1 ha).1
 have oz:(ps.take m++L.roots.drop m).length=L.roots.length:=by rw[Qd,Qp,aI];omega
 obtain⟨c1,_,c3,c4,⟨j,j1,j2,j3⟩,c6⟩:=BS.place (ps.take m++L.roots.drop m) oz h.lg ha;simp only at c3 j3;have CL:(ps.take m++L.roots.drop m).set m x=ps.take (m+1)++L.roots.drop (m+1):=pd ps L.roots m x hx hm;have hl:=c6 x;rw[CL]at hl;have tg:rv id k (o1 g):=by rw[j3];exact⟨rfl,by simp only;omega,by simp only;omega⟩
 have no:∀ c,o1 c=(id+1,0)->c≠g:=fun c hc e=>Nw id k (by rw[<-hc,e];exact tg)
 have n0:=no _ h.tI;have s1:Stp (rv id k) o1 o1 wr (wr.setCell ⟨g,ax,none⟩ x):=(Stp.refl _ o1 wr).setCell tg _;have s2:Stp (fun t=>t=(id+1,0)) o1 o1 (wr.setCell ⟨g,ax,none⟩ x) ((wr.setCell ⟨g,ax,none⟩ x).setCell ⟨bI,0,none⟩ (I Z ((m:Int)+1))):=(Stp.refl _ o1 _).setCell (by show o1 bI=_;exact h.tI) _
 have nI:∀ {c:Nat}{cs:Array Ac}{t:TypeId},An wr c cs t->(cs.size≠1\/t≠3)->c≠bI:=fun hc hne e=>by
  have h2:=h.jI;unfold An at hc h2;rw[e,h2]at hc;rcases hne with hne|hne
  ·injection hc with hc;injection hc with hc hc2;rw[<-hc]at hne;simp at hne
  ·injection hc with hc;injection hc with hc hc2;exact hne hc2.symm
 have nA:=nI h.jA (.inl (by simp))
 have nL:=nI h.jL (.inr (by decide))
 have nP:=nI h.jP (.inr (by decide))
 have nD:D≠bI:=fun e=>by have h2:=h.jI;have h1:=h.hD;unfold An at h2;rw[e,h2]at h1;cases h1
 have nE:D+1≠bI:=fun e=>by have h2:=h.jI;have h1:=h.hL;unfold An at h2;rw[e,h2]at h1;cases h1
 have nF:D0≠bI:=fun e=>by have h2:=h.jI;have h1:=h.h0;unfold An at h2;rw[e,h2]at h1;cases h1
 refine⟨n0.symm,⟨_,by rw[c1,Qb (by rw[oz];exact hm)];rfl⟩,c4,c3,?_⟩
 refine⟨(h.sp.trans s1).setCell_new hw _,hl.Ar s2 (fun j _ e=>by simp at e),?_,?_,?_,?_,?_,?_,?_,h.tL,h.tD,h.t0,h.tA,h.tl,h.tP,h.tI⟩
 ·exact (Below.heap_setCell _ _ _ _ nE).trans ((Below.heap_setCell _ _ _ _ (no _ h.tL)).trans h.hL)
 ·exact (Below.heap_setCell _ _ _ _ nD).trans ((Below.heap_setCell _ _ _ _ (no _ h.tD)).trans h.hD)
 ·exact (Below.heap_setCell _ _ _ _ nF).trans ((Below.heap_setCell _ _ _ _ (no _ h.t0)).trans h.h0)
 ·exact (h.jA.Ao (no _ h.tA) _).Ao nA _
 ·exact (h.jL.Ao (no _ h.tl) _).Ao nL _
 ·exact (h.jP.Ao (no _ h.tP) _).Ao nP _
 ·exact (h.jI.Ao n0 _).set 0 _
end
def WE {L:Lg}(hk:L.fit):L.roots.length<=1000:=by
 have h2:=hk.ok.r;have h3:=hk.ok.k;have h4:=hk.ok.h;have h5:=hk.ok.u;have h6:=hk.ok.mr;have h7:=hk.ok.mu;have h8:∀ us:List Un,(us.flatMap Un.places).length<=us.length*2:=fun us=>by
  induction us with
  | nil=>simp
  | cons u us ih =>
   rw[aF,Qd,Qv];have:u.places.length<=2:=by unfold Un.places;split<;>simp
   omega
 have h9:=h8 L.Az;have h0:L.roots.length=L.reads.length+L.keeps.length+L.holds.length+(L.Az.flatMap Un.places).length:=by unfold Lg.roots;simp only[Qd,Qg]
 omega
def za (k:Nat)(h:k<=4611686018427387904):wrap64 ((k:Int)+1)=(k:Int)+1/\IntKind.i64.wrap ((k:Int)+1)=(k:Int)+1:=by
 have h1:(-9223372036854775808:Int)<=(k:Int)+1/\(k:Int)+1<=9223372036854775807:=by omega
 exact⟨IntWalk.wrap64_in _ h1,IntWalk.i64_in _ h1⟩
def YP {w:Aa} {o:Own} {id k b:Nat} {L:Lg} {vr vk vh vu v:Ac} (h:BS w o id k b L vr vk vh vu) (hk:L.fit) {ps:List Nat} (hv:M1 (rv id k) w o v ps) (hn:ps.length=L.roots.length) :
  Ab AId 66 #[ptr b,v] w fun e w'=>e=O (.bool true)/\∃ o',BS w' o' id k b (L.put ps) vr vk vh vu/\Stp (rv id k) o o' w w':=by
 have hN:=WE hk;obtain⟨pa,cp,rfl,hps⟩:=hv;have hsl:=h.Ri;have HKd:=Qa (fun (w':Aa) (hw:Ae w.1.size w w')=>(h.below hw).kinds)
 have oI:=Qa (fun (w':Aa) (hw:Ae w.1.size w w')=>h.A2.below hw h.A2.lt)
 have n1:L.reads.length<=200:=by have:=hk.ok.r;have:=hk.ok.mr;omega
 have n2:L.keeps.length<=200:=by have:=hk.ok.k;have:=hk.ok.mr;omega
 have n3:L.holds.length<=200:=by have:=hk.ok.h;have:=hk.ok.mu;omega
 have n4:L.Az.length<=200:=by have:=hk.ok.u;have:=hk.ok.mu;omega
 have mO:=Qa hsl;have mH:=Qa (Aj n1 (Aj n2 (Aj n3 n4)));have HN:=Qa hN;have HPs:=Qa hps;have Hn:=Qa hn;have HH:=Qa h;have HK:=Qa hk;obtain⟨n,hnn⟩:=Ja0 ps.length;rw[<-hnn];have HNN:=Qa hnn;clear h hk hN hsl n1 n2 n3 n4 hps hn hnn;refine (callsIn_wide (n:=3)).1 ?_;refine callsIn_of_wp_marks func66 rfl trivial ?_ rfl;simp only[ntmps66,aR,Qv,aU,Nat.reduceAdd,Nat.reduceSub,Array.replicate_succ,Array.replicate_zero,aS,aN,aJ,aT];gi_wp2_with (refine⟨trivial,?_⟩;gi_at_call 128;refine (callsIn_wide.2 (sk b _)).mono ?_;rintro e w2 ⟨rfl,rfl⟩);obtain⟨W0,hW0⟩:=Ja0 (((w.alloc (AIe #[.slice pa n cp] 25)).alloc (AIe #[I Z 0] 3)).alloc (AIe #[ptr b] 105));have hb0:Ae w.1.size w W0:=by rw[hW0];exact qa (qa (qa (qc _) _) _) _
 have yA:An W0 w.1.size #[.slice pa n cp] 25:=by rw[hW0];exact ((An.new w _ _).alloc _).alloc _
 have jN0:An W0 (w.1.size+1) #[I Z 0] 3:=by rw[hW0];exact (An.Ax _ _ _ _ _ (by simp) rfl).alloc _
 have pX:An W0 (w.1.size+1+1) #[ptr b] 105:=by rw[hW0];exact An.Ax _ _ _ _ _ (by simp) rfl
 rw[<-hW0];clear hW0;refine yj (gf:=191) (lb:=#[ptr (w.1.size+1+1)]) (by simp[go_sem]) (enters_of func191 (by kernel_rfl) rfl) ?_
 intro fn W1 R hW1 hR;obtain⟨D,hD⟩:=Ja0 W0.1.size;have dE:Ae W0.1.size W0 W1:=by rw[hW1];exact qa (qa (qc _) _) _
 have hL1:W1.heap[D+1]?=some (.loop R):=by rw[hW1,hD];have:=ag (W0.alloc (.deferred (some []))) (.loop R);rwa [aH]at this
 have hD1:W1.heap[D]?=some (.deferred (some [])):=by rw[hW1,hD];exact (Below.heap_alloc _ _ _ (by simp)).trans (ag W0 _)
 have hRs:R.params.size=1:=by rw[hR];rfl
 rw[<-hD];have jM:w.1.size<=D:=by rw[hD];exact hb0.size
 have lV:=pX.below dE pX.lt;have qU:=yA.below dE yA.lt;have zY:=jN0.below dE jN0.lt;have hb1:Ae w.1.size w W1:=qd hb0 dE;have vI:=oI.o W1 hb1;have hDz:D+1<W1.1.size:=(Qf.1 hL1).1;have HR:=Qa hR;clear hR hW1 dE pX yA jN0 hb0 hD;refine dy (fun bA m wr=>KU w b vr vk (.slice pa n cp) D (w.1.size+1+1) w.1.size (w.1.size+1) R bA m wr) hRs mH.o.1 mH.o.2.1 mH.o.2.2.1 mH.o.2.2.2 mO.o.1 mO.o.2.1 mO.o.2.2.1 mO.o.2.2.2 lV vI ?_ ?_ ?_ ?_
 ·intro W2 bA hb iY jA
  exact⟨qd hb1 hb,(hb.block _ hDz).trans hL1,(hb.block _ (by omega)).trans hD1,jA,lV.below hb lV.lt,qU.below hb qU.lt,zY.below hb zY.lt⟩
 ·rintro bA m wr h
  exact⟨h.jA,h.jL,oI.o wr h.bl,h.hL,HKd.o wr h.bl⟩
 ·rintro bA m wr a T h ha hT
  have hm:m<L.roots.length:=by rw[<-ky vr vk vh vu L];exact (Qc.1 ha).1
  obtain⟨hw1,hw2⟩:=za m (by have:=HN.o;omega)
  obtain⟨Post,bY⟩:∃ Post:Ending->Aa->Prop,Post=fun e W'=>e=O (.bool true)/\KU w b vr vk (.slice pa n cp) D (w.1.size+1+1) w.1.size (w.1.size+1) R bA (m+1) W':=⟨_,rfl⟩;rw[<-bY,hT];have hst:R.state=.ready:=by rw[HR.o]
  have hpe:R.pending=none:=by rw[HR.o]
  have HST:=Qa hst;have kW:=Qa hpe;have dQ:=Qa bY;clear hst hpe bY hT ha hm;rw[HR.o];refine roundIn_of_wpIn trivial ?_;gi_wp2;refine ud h.hL HST.o ?_;intro W3 hW3 qA;have h3:KU w b vr vk (.slice pa n cp) D (w.1.size+1+1) w.1.size (w.1.size+1) { R with state:=.busy } bA m W3:=by rw[hW3];exact h.put jM _
  clear hW3 qA h;have h4:=h3.step (by omega)
  have hend:=Qa (show ∃ v w5,(aM (D+1) none).run AId (W3.setCell ⟨w.1.size+1,0,none⟩ (I Z ((m:Int)+1)))=.ok v w5/\Post (O v) w5 from by
    refine Q4 h4.hL HST.o kW.o ?_;intro W5 dA _;rw[dQ.o];exact⟨rfl,by rw[dA];exact h4.put jM R⟩)
  have cN:W3.cell? ⟨w.1.size+1,0,none⟩=some (I Z m):=h3.jN.cell 0;have zN:=h3.jN.free 0;have sN:=h3.jN.lt;clear h3 h4;gi_wp2;exact hend.o
 ·rintro bA wr h
  rw[ky]at h;have hst:R.state≠.busy:=by rw[HR.o];simp
  have hpe:R.pending=none:=by rw[HR.o]
  refine ba h.hL hst ?_;intro W4 eD;have h4:KU w b vr vk (.slice pa n cp) D (w.1.size+1+1) w.1.size (w.1.size+1) { R with state:=.exhausted } bA L.roots.length W4:=by rw[eD];exact h.put jM _
  rw[hpe];dsimp only;have cN:W4.cell? ⟨w.1.size+1,0,none⟩=some (I Z L.roots.length):=h4.jN.cell 0;have cP:W4.cell? ⟨w.1.size,0,none⟩=some (.slice pa n cp):=h4.jP.cell 0;have sN:=h4.jN.lt;have hne:((L.roots.length:Int) != (n:Int))=false:=by rw[HNN.o,Hn.o];exact bne_self_eq_false' _
  have hb4:=h4.bl;have hD4:=Qa h4.hD;have jP4:=h4.jP;have hDl:D<W4.1.size:=(Qf.1 h4.hD).1;clear h h4 eD hst hpe HR hL1 hD1 lV qU zY vI hb1 hDz hRs;clear R;gi_wp2_with (refine⟨trivial,?_⟩;gi_at_call 128;refine (callsIn_wide.2 (sk b _)).mono ?_;rintro e w2 ⟨rfl,rfl⟩);obtain⟨W0,hW0⟩:=Ja0 ((W4.alloc (AIe #[I Z 0] 3)).alloc (AIe #[ptr b] 105));obtain⟨bI,uV⟩:=Ja0 W4.1.size;have zQ:w.1.size<=bI:=by rw[uV];exact hb4.size
  have sK:Ae W4.1.size W4 W0:=by rw[hW0];exact qa (qa (qc _) _) _
  have jI0:An W0 bI #[I Z 0] 3:=by rw[hW0,uV];exact (An.new W4 _ _).alloc _
  have pX:An W0 (bI+1) #[ptr b] 105:=by rw[hW0,uV];exact An.Ax _ _ _ _ _ (by simp) rfl
  have hD0:=Qa ((sK.block _ hDl).trans hD4.o);have yA:=jP4.below sK jP4.lt;have hb0:=qd hb4 sK;rw[<-hW0,<-uV];clear hW0 uV jP4 hD4 sK hb4 cN cP sN hne oI HKd;refine yj (gf:=191) (lb:=#[ptr (bI+1)]) (by simp[go_sem]) (enters_of func191 (by kernel_rfl) rfl) ?_
  intro fn W1 R hW1 hR;obtain⟨E,hE⟩:=Ja0 W0.1.size;have dE:Ae W0.1.size W0 W1:=by rw[hW1];exact qa (qa (qc _) _) _
  have hL1:W1.heap[E+1]?=some (.loop R):=by rw[hW1,hE];have:=ag (W0.alloc (.deferred (some []))) (.loop R);rwa [aH]at this
  have hD1:W1.heap[E]?=some (.deferred (some [])):=by rw[hW1,hE];exact (Below.heap_alloc _ _ _ (by simp)).trans (ag W0 _)
  have hRs:R.params.size=1:=by rw[hR];rfl
  rw[<-hE];have hEw:w.1.size<=E:=by rw[hE];exact hb0.size
  have hDE:D<E:=by rw[hE];exact (Qf.1 hD0.o).1
  have Aju:=(dE.block _ (Qf.1 hD0.o).1).trans hD0.o;have lV:=pX.below dE pX.lt;have qU:=yA.below dE yA.lt;have jI1:=jI0.below dE jI0.lt;have hb1:Ae w.1.size w W1:=qd hb0 dE;have vI:=(HH.o.below hb1).A2;have hEz:E+1<W1.1.size:=(Qf.1 hL1).1;have HR:=Qa hR;clear hR hW1 dE pX yA jI0 hb0 hE hD0;refine dy (fun bA m wr=>∃ o1,KW w o id k b L ps vr vk vh vu (.slice pa n cp) D E (bI+1) w.1.size bI R o1 bA m wr) hRs mH.o.1 mH.o.2.1 mH.o.2.2.1 mH.o.2.2.2 mO.o.1 mO.o.2.1 mO.o.2.2.1 mO.o.2.2.2 lV vI ?_ ?_ ?_ ?_
  ·intro W2 bA hb iY jA
   have hb2:=qd hb1 hb;have hx:∀ c,w.1.size<=c->ext o w.1.size (id+1,0) c=(id+1,0):=fun c hc=>qp hc;have hl:BS W2 (ext o w.1.size (id+1,0)) id k b L vr vk vh vu:=HH.o.Ar (T:=fun _=>False) ((Stp.of_below hb2).ext _ _ (Qk _)) fun _ _ h=>h;refine⟨ext o w.1.size (id+1,0),(Stp.of_below hb2).ext _ _ (Qk _),?_,(hb.block _ hEz).trans hL1,(hb.block _ (by omega)).trans hD1,(hb.block _ (by omega)).trans Aju,jA,lV.below hb lV.lt,qU.below hb qU.lt,jI1.below hb jI1.lt,hx _ (by omega),hx _ (by omega),hx _ (by omega),hx _ (by have:=hb1.size;omega),hx _ (by omega),hx _ (Qk _),hx _ zQ⟩
   rw[List.take_zero,aJ,aW,Wo HK.o];exact hl
  ·rintro bA m wr ⟨o1,h⟩
   have hb:=h.lg.A2;exact⟨h.jA,h.jL,hb,h.hL,h.lg.Gl⟩
  ·rintro bA m wr a T ⟨o1,h⟩ ha hT
   have hm:m<L.roots.length:=by rw[<-ky vr vk vh vu L];exact (Qc.1 ha).1
   obtain⟨x,hx⟩:∃ x,ps[m]?=some x:=⟨_,Qb (by rw[Hn.o];exact hm)⟩
   obtain⟨g2,off,rfl,hg2,ht2,hc2⟩:=HPs.o m x hx;have hsp:=(BS.place (ps.take m++L.roots.drop m) (by rw[Qd,Qp,aI,Hn.o];omega) h.lg ha).2.1
   obtain⟨g,ax,asp⟩:=a;simp only at hsp;subst hsp;have hmI:(m:Int)<(n:Int):=Int.ofNat_lt.2 (by rw[HNN.o,Hn.o];exact hm)
   obtain⟨hw1,hw2⟩:=za m (by have:=HN.o;omega)
   obtain⟨Post,bY⟩:∃ Post:Ending->Aa->Prop,Post=fun e W'=>e=O (.bool true)/\∃ o1,KW w o id k b L ps vr vk vh vu (Ai (some ⟨g2,off,none⟩) n cp) D E (bI+1) w.1.size bI R o1 bA (m+1) W':=⟨_,rfl⟩;rw[<-bY,hT];have hst:R.state=.ready:=by rw[HR.o]
   have hpe:R.pending=none:=by rw[HR.o]
   have HST:=Qa hst;have kW:=Qa hpe;have dQ:=Qa bY;have HA:=Qa ha;have HX:=Qa hx;clear hst hpe bY hT hm ha hx;rw[HR.o];refine roundIn_of_wpIn trivial ?_;gi_wp2;refine ud h.hL HST.o ?_;intro W3 hW3 qA;have h3:KW w o id k b L ps vr vk vh vu (Ai (some ⟨g2,off,none⟩) n cp) D E (bI+1) w.1.size bI { R with state:=.busy } o1 bA m W3:=by rw[hW3];exact h.put hEw HK.o _
   clear hW3 qA h;obtain⟨ne,⟨u,hu⟩,hf,hlt,h4⟩:=h3.step Hn.o zQ HA.o HX.o;have hend:=Qa (show ∃ v w5,(aM (E+1) none).run AId ((W3.setCell ⟨g,ax,none⟩ x).setCell ⟨bI,0,none⟩ (I Z ((m:Int)+1)))=.ok v w5/\Post (O v) w5 from by
     refine Q4 h4.hL HST.o kW.o ?_;intro W5 dA _;rw[dQ.o];exact⟨rfl,o1,by rw[dA];exact h4.put hEw HK.o R⟩)
   have cI:W3.cell? ⟨bI,0,none⟩=some (I Z m):=h3.jI.cell 0;have zI:=h3.jI.free 0;have sI:=h3.jI.lt;have cP:W3.cell? ⟨w.1.size,0,none⟩=some (Ai (some ⟨g2,off,none⟩) n cp):=h3.jP.cell 0;have c2:W3.cell? ⟨g2,off+m,none⟩=some (I Z x):=by
    have:=h3.sp.block g2 hg2 ht2;rw[show (aD .i64 (x:Int))=nv x from rfl,<-hc2];simp only[aL,this]
   have ne2:bI≠g:=fun e=>ne e.symm;clear h3 h4 hc2;gi_wp2;exact hend.o
  ·rintro bA wr ⟨o1,h⟩
   rw[ky]at h;have hst:R.state≠.busy:=by rw[HR.o];simp
   have hpe:R.pending=none:=by rw[HR.o]
   refine ba h.hL hst ?_;intro W5 dA;have h5:KW w o id k b L ps vr vk vh vu (.slice pa n cp) D E (bI+1) w.1.size bI { R with state:=.exhausted } o1 bA L.roots.length W5:=by rw[dA];exact h.put hEw HK.o _
   rw[hpe];dsimp only;have yV:=Qa h5;clear h h5 dA hst hpe HR hL1 hD1 lV qU jI1 vI hb1 hEz hRs;gi_wp2;have n1:D≠E:=by have:=hDE;omega
   refine⟨by simp,.inl ⟨_,_,rfl,run_takeDeferred yV.o.hD,?_⟩⟩
   refine⟨by simp,.inl ⟨_,_,rfl,run_takeDeferred ((aa n1).trans yV.o.h0),?_⟩⟩
   refine⟨.bool true,by simp[results,results66,go_sem],rfl,o1,?_,?_⟩
   ·have hl:=yV.o.lg
    rw[List.drop_length,aK,<-Hn.o,af]at hl;have s1:Stp (fun t=>t=(id+1,0)) o1 o1 W5 (W5.putObj E (.deferred none)):=(Stp.refl _ o1 W5).put (by rw[yV.o.tD]) _
    have s2:Stp (fun t=>t=(id+1,0)) o1 o1 W5 ((W5.putObj E (.deferred none)).putObj D (.deferred none)):=s1.put (by rw[yV.o.t0]) _
    exact hl.Ar s2 fun j _ e=>by simp at e
   ·exact (yV.o.sp.Df hEw _).Df jM _
end
section
open Go.RowKit Hp Go.Maps
attribute [local go_sem ↓] Go.wp_at_zero Go.wp_at_succ
def Rw:∀ (l k:List Nat),l.Nodup->(∀ x ∈ l,x ∈ k)->l.length<=k.length
 | [],_,_,_=>ai _
 | a::l,k,hn,hs=>by
  obtain⟨h1,h2⟩:=List.nodup_cons.1 hn;have ha:=hs a (by simp)
  have:=Rw l (k.erase a) h2 fun x hx=>(List.mem_erase_of_ne (fun e=>h1 (by rw[<-e];exact hx))).2 (hs x (by simp[hx]))
  rw[List.length_erase_of_mem ha]at this;have hk:0<k.length:=List.length_pos_of_mem ha;rw[Qv];omega
def WZ:∀ (l:List Nat)(p:Nat),(ES l p).isSome=true↔p ∈ l
 | [],p=>by simp[ES]
 | q::l,p=>by
  unfold ES;by_cases e:q=p
  ·subst e;simp
  ·rw[if_neg e,WZ l p,aY]
   exact⟨fun h=>.inr h,fun h=>h.elim (fun h=>absurd h.symm e) id⟩
def Jf (P:List Nat)(p:Nat):(here P p).isSome=true↔p ∈ P:=by unfold here;rw[WZ,List.mem_reverse]
def xw (P:List Nat)(l:List Nat):List Nat:=l.foldl uh P
def Vm (P l:List Nat)(p:Nat):xw P (l++[p])=uh (xw P l) p:=by unfold xw;rw[List.foldl_append];rfl
def ql4 (P:List Nat)(p:Nat):P.length<=(uh P p).length:=by
 unfold uh;split
 ·exact Qk _
 ·rw[Qd];exact Nat.le_add_right _ _
def VS:∀ (l P:List Nat),P.length<=(xw P l).length
 | [],_=>Qk _
 | p::l,P=>Qo (ql4 P p) (VS l (uh P p))
abbrev Gf:=Nat->Option Ob
def cg (G:Gf)(p:Nat):List Nat:=match G p with|some ob=>ob.AS|none=>[]
def EF (G:Gf):Nat->Nat->List Nat->List Nat
 | 0,_,P=>P
 | n+1,i,P=>if i<P.length then EF G n (i+1) (xw P (cg G (P.getD i 0))) else P
def Dy (G:Gf)(N:Nat)(roots:List Nat):List Nat:=EF G N 0 (xw [] roots)
structure EN (G:Gf)(P:List Nat):Prop where
 nd:P.Nodup
 Rs:∀ p ∈ P,(G p).isSome=true
def Gy (G:Gf)(l:List Nat):Prop:=∀ p ∈ l,p=0\/(G p).isSome=true
def EN.to {G:Gf}{P:List Nat}(h:EN G P){p:Nat}(hp:p=0\/(G p).isSome=true):EN G (uh P p):=by
 unfold uh;split
 ·exact h
 ·rename_i hn
  rw[Jf]at hn;have h1:p≠0:=fun e=>hn (.inl e);have h2:p ∉ P:=fun e=>hn (.inr e);refine⟨List.nodup_append.2 ⟨h.nd,by simp,fun a ha b hb=>?_⟩,fun q hq=>?_⟩
  ·simp at hb;subst hb;exact fun e=>h2 (by rw[<-e];exact ha)
  ·rcases Qs.1 hq with hq|hq
   ·exact h.Rs q hq
   ·simp at hq;subst hq;exact hp.resolve_left h1
def EN.le {G:Gf}{P:List Nat}(h:EN G P){K:List Nat}(hK:∀ p,(G p).isSome=true->p ∈ K):P.length<=K.length:=Rw P K h.nd fun x hx=>hK x (h.Rs x hx)
structure Np (w:Aa)(a wd L:Nat)(f:Nat->Nat)(G:Gf):Prop where
 Cq:B6 w a wd L f
 ob:∀ p x,G p=some x->BE f p x/\x.ok/\p+x.size<=L
def Np.below {w w':Aa}{a wd L:Nat}{f:Nat->Nat}{G:Gf}(h:Np w a wd L f G)(hb:Ae w.1.size w w'):Np w' a wd L f G:=⟨h.Cq.below hb,h.ob⟩
structure Nq (G:Gf)(K:List Nat):Prop where
 keys:∀ p,(G p).isSome=true->p ∈ K
 num:K.length<=100000
 UH:∀ p,(G p).isSome=true->p<=131072
 shut:∀ p x,G p=some x->Gy G x.AE
def Nq.AS {G:Gf}{K:List Nat}(h:Nq G K)(p:Nat):Gy G (cg G p):=by
 unfold cg;split
 ·rename_i x hx
  unfold Ob.AS;split
  ·intro q hq;cases hq
  ·exact h.shut p x hx
 ·intro q hq;cases hq
def Nq.bd {G:Gf}{K:List Nat}(h:Nq G K){l:List Nat}(hl:Gy G l){p:Nat}(hp:p ∈ l):p<=131072:=by
 rcases hl p hp with h0|h0
 ·omega
 ·exact h.UH p h0
def qp3 (G:Gf){n i:Nat}{P:List Nat}(h:P.length<=i):EF G n i P=P:=by
 cases n with
 | zero=>rfl
 | succ n=>unfold EF;rw[if_neg (by omega)]
def UC (t:Tag):Prop:=t=(50,0)\/t=(50,1)\/t=(50,2)
def Old (n:Nat)(o:Own):Prop:=∀ b,b<n->o b=(0,0)
def Old.below {w W w':Aa} {o o':Own} (h:Old w.1.size o) (hb:Ae w.1.size w W) (hs:Stp UC o o' W w'):Ae w.1.size w w'/\Old w.1.size o':=by
 refine⟨((Stp.of_below (T:=UC) (o:=o) hb).trans hs).below fun b hb' e=>?_,fun b hb'=>(hs.tags b (Qn hb' hb.size)).trans (h b hb')⟩
 rw[h b hb']at e;rcases e with e|e|e<;>simp at e
section
variable {w w' : Aa} {a wd L : Nat} {f : Nat -> Nat} {G : Gf} {K : List Nat}
def H7 (h:Np w a wd L f G)(hG:Nq G K){v:Ac}{roots:List Nat}{o:Own}{t:Tag}(hv:Row w o t 3 1 v roots.length (roots.map nv))(hr:Gy G roots)(hn:roots.length<=1000000) :
  Ab AId 175 #[Ah (some ⟨a,0,none⟩),v] w fun e w'=>∃ c mb oo,e=O (Ak #[ptr c,I Z 0])/\Cc w' oo c mb (Dy G K.length roots)/\EN G (Dy G K.length roots)/\Ae w.1.size w w'/\Old w.1.size oo:=by
 obtain⟨pv,cv,rfl⟩:=hv.A5;have hmm:=@run_makeMap AId;obtain⟨W,hW⟩:=Ja0 ((w.alloc (.map #[] 0)).alloc (AIe #[Ai none 0 0,.map (some w.1.size)] 253));obtain⟨o1,ho1⟩:∃ o1:Own,o1=fun b=>if b<w.1.size then (0,0) else if b=w.1.size then (50,2) else if b=w.1.size+1 then (50,0) else (60,0):=⟨_,rfl⟩
 have hbW:Ae w.1.size w W:=by rw[hW];exact qa (qa (qc w) _) _
 have Acb:Old w.1.size o1:=fun b hb=>by rw[ho1];exact if_pos hb
 have hC0:Cc W o1 (w.1.size+1) w.1.size []:=by
  refine⟨⟨Ai none 0 0,by rw[hW];exact An.Ax _ _ _ _ _ (by simp) rfl,Row.nil _ _ _ _ _⟩,?_,?_,?_⟩
  ·rw[hW];exact (World.ownsMap_made w _ _ _).alloc _
  ·rw[ho1];show (if _ then _ else _)=_;rw[if_neg (by omega),if_neg (by omega),if_pos rfl]
  ·rw[ho1];show (if _ then _ else _)=_;rw[if_neg (by omega),if_pos rfl]
 obtain⟨c,hc⟩:=Ja0 (w.1.size+1);obtain⟨mb,hmb⟩:=Ja0 w.1.size;rw[<-hc]at hC0;have HW:=Qa hW;have hcm:mb+1=c:=by rw[hc,hmb]
 have rX:Cc W o1 c mb []:=by rw[hmb];exact hC0
 have uH:=Qa rX;have HB0:=Qa (Aj hbW Acb);have HV:=Qa hv;have HGI:=Qa h;have mF:=Qa hG;have mJ:=Qa hr;obtain⟨n,hnn⟩:=Ja0 roots.length;rw[<-hnn]at HV hn ⊢;have HN:=Qa hnn;have HNm:=Qa hn;obtain⟨R,hR⟩:=Ja0 (Dy G K.length roots);rw[<-hR];have HRR:=Qa hR;clear hR h hG hv hr hbW Acb hC0 rX ho1 hnn hc hn;go_in;go_wp2_with fail;rw[<-hmb];have uX:(w.alloc (.map #[] 0)).alloc (AIe #[Ai none 0 0,.map (some mb)] 253)=W:=by rw[hW,hmb]
 rw[uX,hcm];clear hW uX HW hmm hcm hmb;go_loopw [19] (fun ix wr=>∃ (k:Nat)(oo:Own),ix=I Z k/\k<=n/\Cc wr oo c mb (xw [] (roots.take k))/\EN G (xw [] (roots.take k))/\Ae w.1.size w wr/\Old w.1.size oo) (fun ix _=>n-(intOf ix).toNat)
 case atStart=>exact⟨0,o1,rfl,ai _,uH.o,⟨List.nodup_nil,fun p hp=>by cases hp⟩,HB0.o⟩
 case round =>
  obtain⟨k,oo,rfl,hkn,hC,hI,hb,hO⟩:=hrel;by_cases hlt:k<n
  ·have eO:(k:Int)<(n:Int):=by omega
   obtain⟨hw1,hw2⟩:=za k (by have:=HNm.o;omega)
   obtain⟨x,hx⟩:∃ x,roots[k]?=some x:=⟨_,Qb (by rw[<-HN.o];exact hlt)⟩
   obtain⟨g,e,hcell⟩:∃ g,pv=some ⟨g,0,none⟩/\wr.cell? ⟨g,k,none⟩=some (I Z x)/\n<=cv:=by
    rcases (HV.o.below hb).form with ⟨_,h0⟩|⟨g,cap,e,hcap,_⟩
    ·omega
    ·injection e with e1 _ e3
     subst e1 e3;exact⟨g,rfl,(HV.o.below hb).cells k _ (by rw[Qj,hx];rfl),hcap⟩
   subst e;obtain⟨hcell,hcap⟩:=hcell;have oF:=mJ.o x (Qe hx);have hxb:=mF.o.bd mJ.o (Qe hx);have hle:=hI.le mF.o.keys;have HT:=Qa (Xh hC (by have:=mF.o.num;omega) x (by omega))
   have hst:xw [] (roots.take (k+1))=uh (xw [] (roots.take k)) x:=by rw[ay,hx];exact Vm _ _ _
   have HI2:=Qa (hI.to oF);rw[<-hst]at HI2 HT;have qW:=Qa (Aj hb hO);clear hst oF hxb hle hI hC hx hb hO;go_wp2_with fail;refine HT.o.mono ?_;rintro e w3 ⟨rfl,o3,hC3,hs3⟩;obtain⟨hb3,hO3⟩:=qW.o.2.below qW.o.1 hs3;go_wp2_with fail;go_roundw
   case rel=>exact⟨k+1,o3,by simp,hlt,hC3,HI2.o,hb3,hO3⟩
   case measure=>simp[intOf];omega
  ·obtain rfl:k=n:=by omega
   rw[HN.o,af]at hC hI;clear hlt hkn uH HB0 mJ HV;obtain⟨P0,hP0⟩:=Ja0 (xw [] roots);have hre:R=EF G K.length 0 P0:=by rw[HRR.o,hP0];rfl
   have HRE:=Qa hre;rw[<-hP0]at hC hI;have HS:=Qa (Aj hC (Aj hI (Aj hb hO)));clear hC hI hb hO hre hP0;go_wp2_with fail;go_loopw [9] (fun ix wr=>∃ (i:Nat)(P:List Nat)(oo:Own),ix=I Z i/\i<=P.length/\Cc wr oo c mb P/\EN G P/\EF G (K.length-i) i P=EF G K.length 0 P0/\Ae w.1.size w wr/\Old w.1.size oo) (fun ix _=>K.length-(intOf ix).toNat)
   case atStart=>exact⟨0,P0,oo,rfl,ai _,HS.o.1,HS.o.2.1,rfl,HS.o.2.2⟩
   case round =>
    clear HS;obtain⟨i,P,oo,rfl,hiP,hC,hI,hgo,hb,hO⟩:=hrel;obtain⟨vp,jb,hp⟩:=hC.A2;obtain⟨pp,cp,rfl⟩:=hp.A5;have cb:=jb.cell;have hle:=hI.le mF.o.keys;have Ayy:=mF.o.num;by_cases hlt:i<P.length
    ·have eO:(i:Int)<(P.length:Int):=by omega
     obtain⟨hw1,hw2⟩:=za i (by omega)
     obtain⟨x,hx⟩:∃ x,P[i]?=some x:=⟨_,Qb hlt⟩;obtain⟨g,e,hcell,hcap⟩:∃ g,pp=some ⟨g,0,none⟩/\wr.cell? ⟨g,i,none⟩=some (I Z x)/\P.length<=cp:=by
      rcases hp.form with ⟨_,h0⟩|⟨g,cap,e,hcap,_⟩
      ·omega
      ·injection e with e1 _ e3
       subst e1 e3;exact⟨g,rfl,hp.cells i _ (by rw[Qj,hx];rfl),hcap⟩
     subst e;have oF:=hI.Rs x (Qe hx);obtain⟨ob,cO⟩:=Option.isSome_iff_exists.1 oF;obtain⟨q1,q2,q3⟩:=HGI.o.ob x ob cO;have qJ:=Qa (Vn (HGI.o.Cq.below hb) q1 q2 q3);have hsg:cg G x=ob.AS:=by unfold cg;rw[cO]
     have hsk:=mF.o.AS x;rw[hsg]at hsk;have Ade:EF G (K.length-(i+1)) (i+1) (xw P ob.AS)=EF G K.length 0 P0:=by
      rw[<-hgo,show K.length-i=(K.length-(i+1))+1 from by omega]
      show _=if i<P.length then EF G (K.length-(i+1)) (i+1) (xw P (cg G (P.getD i 0))) else P;rw[if_pos hlt,Qi,hx,Option.getD_some,hsg]
     have hlen:ob.AS.length<=16:=by
      unfold Ob.AS;split
      ·simp
      ·rw[q2.lp];exact Qo q2.AM.1 (by omega)
     have yJ:=Qa (Aj hC (Aj hI (Aj hb hO)));have Aam:=Qa Ade;have HSk:=Qa hsk;have HLe:=Qa hlen;obtain⟨l,hl⟩:=Ja0 ob.AS;rw[<-hl]at qJ Aam HSk HLe;obtain⟨wo,rfl⟩:=Ja0 wr;clear hgo Ade hsk hlen hsg cO oF q1 q2 q3 hx hC hI hb hO hp jb hl;go_wp2_with fail;refine qJ.o.mono ?_;rintro e w3 ⟨v3,rfl,hr3,hb3⟩;obtain⟨p3,c3,rfl⟩:=hr3.A5;obtain⟨m,hm⟩:=Ja0 l.length;rw[<-hm]at hr3 HLe ⊢;have HM:=Qa hm;have s3:Stp (fun _=>False) oo (ext oo wo.1.size (60,0)) wo w3:=(Stp.of_below hb3).ext _ _ (Qk _);have HR3:=Qa (hr3.out oo (60,0));have hwz:w.1.size<=wo.1.size:=yJ.o.2.2.1.size;have yI:=Qa (show Cc w3 (ext oo wo.1.size (60,0)) c mb P/\Ae w.1.size w w3/\Old w.1.size (ext oo wo.1.size (60,0)) from
      ⟨yJ.o.1.Ar s3 id id id,qd yJ.o.2.2.1 hb3,fun b hb=>(qj (by omega)).trans (yJ.o.2.2.2 b hb)⟩)
     have Ayx:m<=16:=HLe.o;clear hr3 hb3 hm s3 cb hcell hwz;go_wp2_with fail;go_loopw [53] (fun ix wr=>∃ (j:Nat)(o4:Own),ix=I Z j/\j<=m/\Cc wr o4 c mb (xw P (l.take j))/\EN G (xw P (l.take j))/\Ae w.1.size w wr/\Old w.1.size o4/\Row wr o4 (60,0) 3 1 (.slice p3 m c3) m (l.map nv)) (fun ix _=>m-(intOf ix).toNat)
     case atStart=>exact⟨0,_,rfl,ai _,yI.o.1,yJ.o.2.1,yI.o.2.1,yI.o.2.2,HR3.o⟩
     case round =>
      clear yI HR3;obtain⟨j,o4,rfl,hjm,hC4,lC,hb4,hO4,hR4⟩:=hrel;by_cases hlt2:j<m
      ·have qO:(j:Int)<(m:Int):=by omega
       obtain⟨hw3,hw4⟩:=za j (by omega)
       obtain⟨x2,hx2⟩:∃ x,l[j]?=some x:=⟨_,Qb (by rw[<-HM.o];exact hlt2)⟩
       obtain⟨g2,e,hcell2,hcap2⟩:∃ g,p3=some ⟨g,0,none⟩/\wr.cell? ⟨g,j,none⟩=some (I Z x2)/\m<=c3:=by
        rcases hR4.form with ⟨_,h0⟩|⟨g,cap,e,hcap,_⟩
        ·omega
        ·injection e with e1 _ e3
         subst e1 e3;exact⟨g,rfl,hR4.cells j _ (by rw[Qj,hx2];rfl),hcap⟩
       subst e;have oF:=HSk.o x2 (Qe hx2);have hxb:=mF.o.bd HSk.o (Qe hx2);have Adh:=lC.le mF.o.keys;have HT:=Qa (Xh hC4 (by omega) x2 (by omega))
       have hst:xw P (l.take (j+1))=uh (xw P (l.take j)) x2:=by rw[ay,hx2];exact Vm _ _ _
       have HI2:=Qa (lC.to oF);rw[<-hst]at HI2 HT;have qW:=Qa (Aj hb4 (Aj hO4 hR4));clear hst oF hxb Adh lC hC4 hx2 hb4 hO4 hR4;go_wp2_with fail;refine HT.o.mono ?_;rintro e w5 ⟨rfl,o5,hC5,hs5⟩;obtain⟨hb5,hO5⟩:=qW.o.2.1.below qW.o.1 hs5;have hR5:=qW.o.2.2.Ar hs5 (by simp)
       go_wp2_with fail;go_roundw
       case rel=>exact⟨j+1,o5,by simp,hlt2,hC5,HI2.o,hb5,hO5,hR5⟩
       case measure=>simp[intOf];omega
      ·obtain rfl:j=m:=by omega
       rw[HM.o,af]at hC4 lC;have Adh:=lC.le mF.o.keys;have HX:=Qa (Aj hC4 (Aj lC (Aj hb4 hO4)));have eU:=HM.o;clear hC4 lC hb4 hO4 hR4 HM qJ yJ;go_wp2_with fail;go_roundw
       case rel =>
        refine⟨i+1,xw P l,o4,by simp,?_,HX.o.1,HX.o.2.1,Aam.o,HX.o.2.2⟩
        exact Qo hlt (VS l P)
       case measure=>simp[intOf];omega
    ·obtain rfl:i=P.length:=by omega
     rw[qp3 G (Qk _)]at hgo;have HX:=Qa (Aj hC (Aj hI (Aj hb hO)));have hRP:R=P:=by rw[HRE.o,<-hgo]
     subst hRP;clear hC hI hb hO hgo hp jb;go_wp2_with fail;go_ret2;exact⟨c,mb,oo,rfl,HX.o⟩
end
end
section
open Go.RowKit Hp
open Go.MuLone
attribute [local go_sem ↓] Go.wp_at_zero Go.wp_at_succ
def Ja (b n cp:Nat) (pa:Option Addr) (w:Aa) (h0:w.cell? ⟨b,3,none⟩=some (.int .i32 0)) (h2:w.cell? ⟨b,5,none⟩=some (.slice pa n cp)) (f0:w.frozen? ⟨b,3,none⟩=false) :
  Ab AId 87 #[Ah (some ⟨b,3,none⟩)] w fun e w'=>e=O (.bool (decide (2000<=n)))/\w'=(w.setCell ⟨b,3,none⟩ (.int .i32 1)).setCell ⟨b,3,none⟩ (.int .i32 0):=by
 go_enter_defers func87,ntmps87;go_wp2_with (go_at_call 148;refine (lock_free Tryz.muLib ⟨b,3,none⟩ _ h0 f0).mono ?_;rintro e w' ⟨rfl,rfl⟩);refine leaves_cons (f:=149) (args:=#[Ah (some ⟨b,3,none⟩)]) (by simp) (by simp[go_sem]) ?_
 refine (unlock_deferred Tryz.muLib ⟨b,3,none⟩ .returning _ ?_ ?_).mono ?_
 ·exact World.cell?_setCell_same w ⟨b,3,none⟩ (.int .i32 1) h0
 ·simp[f0]
 rintro e u' w'' ⟨rfl,rfl,rfl⟩
 exact⟨_,results_tmp rfl _ _ _,by simp;omega,rfl⟩
def Y6 {w:Aa}{o:Own}{y:Bj}{S:Am}{b:Nat}(h:Av w o y S)(hk:S.ok)(hb:w.cell? ⟨b,0,none⟩=some (ptr y.sb))(p:Nat) :
  Ab AId 94 #[ptr b,p] w fun e w'=>e=O (I Z (S.Bc p))/\Ae w.1.size w w':=by
 unfold Am.Bc;by_cases h0:p=0
 ·subst h0
  rw[if_pos rfl];clear h hk;go_in;go_wp2_with fail;go_ret;exact⟨rfl,qc w⟩
 ·rw[if_neg h0]
  have HS:=Qa (Vp h hk p);have hpb:((p:Int)==0)=false:=by rw[Qh];omega
  generalize S.H.Dc p=r at *;clear h hk h0;go_in;go_wp2_with fail;refine HS.o.mono ?_;rintro e w1 ⟨rfl,hb1⟩;go_wp2_with fail;go_ret;exact⟨rfl,hb1⟩
def JC {w:Aa}{o:Own}{y:Bj}{S:Am}{b:Nat}(h:Av w o y S)(_hk:S.ok)(hb:w.cell? ⟨b,0,none⟩=some (ptr y.sb)) :
  Ab AId 38 #[ptr b] w fun e w'=>e=O (I Z S.now)/\w=w':=by
 have HS:=Qa (Pf h);clear h;go_in;go_wp2_with fail;refine HS.o.mono ?_
 rintro e w1 ⟨rfl,rfl⟩
 go_wp2_with fail;go_ret;exact⟨rfl,rfl⟩
end
section
open Go.RowKit Hp
attribute [local go_sem ↓] Go.wp_at_zero Go.wp_at_succ
def Row.ND {w:Aa}{o:Own}{t:Tag}{e:TypeId}{l:List (Nat×Nat)}{g n cap:Nat}(h:Row w o t e 2 (Ai (some ⟨g,0,none⟩) n cap) n (qg l))(i:Nat)(x:Nat×Nat)(hx:l[i]?=some x) :
  w.cell? ⟨g,i*2,none⟩=some (nv x.1)/\w.cell? ⟨g,i*2+1,none⟩=some (nv x.2):=by
 have h2:=yx l i x hx;have f:=fun j u hu=>h.own.cells (g:=g) rfl j u hu
 have a1:=f _ _ h2.1;have a2:=f _ _ h2.2;rw[addr_add]at a1 a2;rw[Nat.mul_comm i 2];exact⟨a1,a2⟩
def Row.QB {w:Aa}{o:Own}{t:Tag}{e:TypeId}{l:List (Nat×Nat)}{n cap:Nat}{pa:Option Addr}(h:Row w o t e 2 (.slice pa n cap) n (qg l))(i:Nat)(x:Nat×Nat)(hx:l[i]?=some x) :
  ∃ g,pa=some ⟨g,0,none⟩/\w.cell? ⟨g,i*2,none⟩=some (I Z x.1)/\w.cell? ⟨g,i*2+1,none⟩=some (I Z x.2):=by
 rcases h.Dv with ⟨_,h0⟩|⟨g,cap',e',hn⟩
 ·have:=yx l i x hx
  rw[h0]at this;simp at this
 ·injection e' with e1 _ e3
  subst e1 e3;obtain⟨a,b⟩:=h.ND i x hx;exact⟨g,rfl,a,b⟩
def Ef (ts:List Tx)(k:Nat):List Nat:=(ts.take k).flatMap Tx.places
def KF {ts:List Tx}{k:Nat}{x:Tx}(h:ts[k]?=some x):Ef ts (k+1)=Ef ts k++x.log.roots++x.AZ.map (·.1):=by
 unfold Ef;rw[ay,h,aO];simp[Tx.places]
def TF:∀ (ts:List Tx)(k:Nat),(∀ x ∈ ts,x.log.fit)->(Ef ts k).length<=1000*k+vj ts
 | [],k,_=>by simp[Ef]
 | x::ts,0,_=>by simp[Ef]
 | x::ts,k+1,h=>by
  have h1:=TF ts k fun z hz=>h z (.tail _ hz);have h2:=WE (h x (.head _));have e:Ef (x::ts) (k+1)=x.places++Ef ts k:=by unfold Ef;rw[aP,aF]
  have e2:vj (x::ts)=x.AZ.length+vj ts:=rfl;rw[e,e2,Qd];unfold Tx.places;rw[Qd,Qg];omega
def U2 (l:List Nat)(x:Nat):(l++[x]).map nv=l.map nv++[I Z x]:=wb l x
section
variable {w w' : Aa} {o o' : Own} {y : Bj} {S : Am}
def Vy (hk:S.ok)(ps:List Nat):(S.places ps).length<=ps.length+S.next+8000:=by
 have h1:=TF S.Au S.Au.length hk.lg;have h2:=hk.qu;have h3:=hk.t8;have e:Ef S.Au S.Au.length=S.Au.flatMap Tx.places:=by unfold Ef;rw[af]
 rw[e]at h1;unfold Am.places;simp only[Qd,Qg];omega
def U4 (h:Av w o y S) (hk:S.ok) {v:Ac} {ps:List Nat} {ta:Tag} (hv:Row w o ta 3 1 v ps.length (ps.map nv)) (hp:ps.length<=100000) :
  Ab AId 51 #[ptr y.sb,v] w fun e w'=>∃ v',e=O v'/\Row w' (fo w.1.size) (1,0) 3 1 v' (S.places ps).length ((S.places ps).map nv)/\Ae w.1.size w w':=by
 obtain⟨iI,hi,hsI,cZ,bZ⟩:=zh;have hu64:=underlying25;have hpl:=Vy hk ps;have hn2:=hk.KZ;have hv0:Row w (fun _=>(0,0)) (0,0) 3 1 v ps.length (ps.map nv):=⟨hv.own,fun _ _=>rfl⟩
 have HC:=Qa (show Ab AId 63 #[v] w fun e w'=>∃ v',e=O v'/\Row w' (fo w.1.size) (1,0) 3 1 v' ps.length (ps.map nv)/\Ae w.1.size w w' from S9 hv0 hp (rz ps) (1,0))
 obtain⟨vq,vl,vm,jb,hrw⟩:=h.A2;have hq:=hrw.q;obtain⟨pq,cq,rfl⟩:=hq.A5;obtain⟨pv,cv,rfl⟩:=hv.A5;obtain⟨gt,ct,vF,hct,sO⟩:=h.Ew hk.t1;unfold qk at jb;rw[vF]at jb;obtain⟨q,hqe⟩:=Ja0 S.queue;obtain⟨ts,hts⟩:=Ja0 S.Au;have hq2:q.length+(Ef ts ts.length).length<=S.next+8000:=by
  have h1:=TF ts ts.length (by rw[hts];exact hk.lg)
  have h2:=hk.qu;have h3:=hk.t8;rw[hqe,hts]at *;omega
 have hmx:∀ k,k<=S.next+200000->k<=maxLen/\k*8<=140737488355328:=fun k hk'=>by simp only[maxLen];omega
 have hpm:∀ k,(Ef ts k).length<=(Ef ts ts.length).length:=fun k=>by
  unfold Ef;rw[af];conv=>rhs;rw[<-List.take_append_drop k ts]
  rw[aO,Qd];omega
 have uR:QO (ts.length<=8):=by show _<=_;rw[hts];exact hk.t8
 have HMX:=Qa hmx;have uO:=Qa hn2;have HPM:=Qa hpm;have kX:=Qa hq2;have HP:=Qa hp;have HPL:=Qa (show S.places ps=ps++q.map (·.1)++Ef ts ts.length from by unfold Am.places Ef;rw[hqe,hts,af])
 rw[<-hqe]at hq jb;rw[<-hts]at jb hct sO;have HQ:=Qa hq;have HCT:=Qa hct;have HTX:=Qa (fun (i:Nat) (x:Tx) (hx:ts[i]?=some x)=>show (∃ pk ck,∀ (w2:Aa),Ae w.1.size w w2->An w2 (y.xb i) (zg i x (y.lb i) (.slice pk x.AZ.length ck)) 107/\Row w2 o (y.l.id,22+8*i) 117 2 (.slice pk x.AZ.length ck) x.AZ.length (qg x.AZ)) /\
   ∀ (w2:Aa),Ae w.1.size w w2->Ab AId 65 #[ptr (y.lb i)] w2 (fun e w'=>∃ v,e=O v/\Row w' (fo w2.1.size) (1,0) 3 1 v x.log.roots.length (x.log.roots.map nv)/\Ae w2.1.size w2 w') from by
  have hx':S.Au[i]?=some x:=by rw[<-hts];exact hx
  have h2:=h.Au i x hx';obtain⟨vt,hb',hr'⟩:=h2.A2;obtain⟨pk,ck,rfl⟩:=hr'.A5;refine⟨⟨pk,ck,fun w2 hb=>⟨hb'.below hb hb'.lt,hr'.below hb⟩⟩,fun w2 hb=>?_⟩;obtain⟨vr,vk,vh,vu,hl⟩:=h2.log;exact VB (hl.below hb) (hk.lg x (Qe hx')))
 have HS:=Qa (fun (w2:Aa) (hb:Ae w.1.size w w2)=>hb)
 have hgl:gt<w.1.size:=by
  have h1:=h.Ev;rw[vF]at h1;exact h1.blt
 have HGL:=Qa hgl;have vW:=Qa jb;have c:=jb.cell;rw[HPL.o];generalize S.next=N at *;generalize S.Aw=N1 at *;generalize S.version=N2 at *;clear h hk hv hv0 hrw hq hq2 hpl hn2 hp hct hmx hpm jb hqe hts hgl vF;go_in;go_wp2_with fail;refine HC.o.mono ?_
 rintro e w1 ⟨v1,rfl,hr1,hb1⟩
 obtain⟨p1,c1,rfl⟩:=hr1.A5;have j1:=vW.o.below hb1 vW.o.lt;clear c HC;have c:=j1.cell;go_wp2_with fail;go_loopw [5,19] (fun vv ix wr=>∃ k:Nat,ix=I Z k/\k<=q.length/\Row wr (fo w.1.size) (1,0) 3 1 vv (ps.length+k) ((ps++(q.take k).map (·.1)).map nv)/\Ae w.1.size w wr) (fun _ ix _=>q.length-(intOf ix).toNat)
 case atStart=>exact⟨0,rfl,ai _,by simpa using hr1,hb1⟩
 case round =>
  clear c j1 hr1 hb1;obtain⟨k,rfl,hkn,hr,hb⟩:=hrel;obtain⟨pp,cc,rfl⟩:=hr.A5;by_cases hlt:k<q.length
  ·have eO:(k:Int)<(q.length:Int):=by omega
   obtain⟨z,hz⟩:∃ z,q[k]?=some z:=⟨_,Qb hlt⟩;obtain⟨gq,rfl,q0,q1⟩:=(HQ.o.below hb).QB k z hz;obtain⟨hw1,hw2⟩:=za k (by have:=kX.o;have:=uO.o;omega)
   have hk1:QO (ps.length+k+1<=maxLen/\(ps.length+k+1)*8<=140737488355328):=HMX.o _ (by have:=kX.o;have:=HP.o;omega)
   have htk:(q.take (k+1)).map (·.1)=(q.take k).map (·.1)++[z.1]:=by rw[ay,hz];simp
   have nV:=Qa htk;obtain⟨zp,zs⟩:=z;simp only at q0 q1 nV;have HR:=Qa hr;clear hr hz htk;go_wp2_with (first|(at_builtin;refine qf _ rfl _ _ _ rfl 3 iI _ 1 8 hu64 hi bZ hsI cZ rfl (by decide) (fo w.1.size) (1,0) _ _ _ rfl (Row.below (Row.below HR.o (qa (qc _) _)) (qa (qc _) _)) ⟨wr.1.size+1,0,none⟩ 1 1 [I Z zp] rfl rfl (qv (An.Ax _ _ _ _ _ (by simp) rfl)) jd hk1.out.1 hk1.out.2 ?_;intro v' w8 hown hst)|fail)
   have fJ:=qa (qa hb (AIe #[zp,zs] 117)) (AIe #[zp] 3);have pO:=yt fJ hown;have fA:=xq fJ hst;go_roundw
   case rel=>exact⟨k+1,by simp,by omega,by rw[nV.o,<-aG,U2];exact pO,fA⟩
   case measure=>simp[intOf];omega
  ·obtain rfl:k=q.length:=by omega
   rw[af]at hr;have j1:=vW.o.below hb vW.o.lt;have c:=j1.cell;go_wp2_with fail;clear c j1 hkn hlt;have HR0:=Qa hr;have HB0:=Qa hb;clear hr hb;obtain⟨P1,hP1⟩:=Ja0 (ps++q.map (·.1));have HP1:QO (P1.length=ps.length+q.length):=by show _=_;rw[hP1];simp
   rw[<-hP1,<-HP1.out]at HR0;have kW:=Qa hP1;rw[<-HP1.out];have HL2:QO (∀ k,(P1++Ef ts k).length<=N+200000):=fun k=>by
    have h1:=HPM.o k;have h2:=kX.o;have h3:=HP.o;have h4:=HP1.out;rw[Qd];omega
   clear hP1;go_loopw [5,34] (fun vv ix wr=>∃ k:Nat,ix=I Z k/\k<=ts.length/\Row wr (fo w.1.size) (1,0) 3 1 vv (P1.length+(Ef ts k).length) ((P1++Ef ts k).map nv)/\Ae w.1.size w wr) (fun _ ix _=>ts.length-(intOf ix).toNat)
   case atStart=>exact⟨0,rfl,ai _,by rw[show Ef ts 0=[] from rfl,aK];exact HR0.o,HB0.o⟩
   case round =>
    clear HR0 HB0;obtain⟨k,rfl,hkn,hr,hb⟩:=hrel;obtain⟨wo,rfl⟩:=Ja0 wr;obtain⟨pp,cc,rfl⟩:=hr.A5;by_cases hlt:k<ts.length
    ·have eO:(k:Int)<(ts.length:Int):=by omega
     obtain⟨x,hx⟩:∃ x,ts[k]?=some x:=⟨_,Qb hlt⟩;obtain⟨⟨pk,ck,hX2⟩,hRt⟩:=HTX.o k x hx;have jx:=(hX2 wo hb).1;have HX2:=Qa hX2;have HRt:=hRt wo hb;have ct0:wo.cell? ⟨gt,k,none⟩=some (ptr (y.xb k)):=by rw[hb.cell (p:=⟨gt,k,none⟩) HGL.o];exact HCT.o k hlt
     have HTS:=Qa (KF hx);obtain⟨n2,hn2⟩:=Ja0 (P1.length+(Ef ts k).length);rw[<-hn2]at hr ⊢;have HNN:=Qa hn2;have HLk:=Qa (HL2.out (k+1));have HR:=Qa hr;have HRT:=Qa HRt;unfold zg at jx;have cx:=jx.cell;have HB:=Qa hb;obtain⟨r,hre⟩:=Ja0 x.log.roots;obtain⟨P2,hP2⟩:=Ja0 (P1++Ef ts k);rw[<-hre]at HRT HTS;rw[<-hP2]at HR;have rT:QO (P1++Ef ts (k+1)=P2++r++x.AZ.map (·.1)):=by show _=_;rw[HTS.o,hP2];simp
     rw[rT.out]at HLk;have wD:QO (P2.length=n2):=by show _=_;rw[hP2,hn2,Qd]
     have hk1:QO (n2+r.length<=maxLen/\(n2+r.length)*8<=140737488355328):=HMX.o _ (by have:=HLk.o;have:=wD.out;simp only[Qd,Qg]at *;omega)
     have HKL:=Qa (za k (by have:=uR.out;omega))
     clear hr hRt HRt jx hre HTS hx hb hn2 hX2;go_wp2_with (first
      | (go_at_call 65;refine HRT.o.mono ?_;rintro e w3 ⟨v3,rfl,hr3,hb3⟩;obtain⟨p3,c3,rfl⟩:=hr3.A5)
      | (at_builtin;go_loud (refine zm _ rfl _ _ _ rfl 3 iI _ 1 8 hu64 hi bZ hsI cZ rfl (by decide) (fo w.1.size) (1,0) _ _ _ rfl (Row.below HR.o hb3) _ _ _ _ _ rfl hr3 (rz _) hk1.out.1 hk1.out.2 ?_;intro v' w8 hown hst;obtain⟨p8,c8,rfl⟩:=hown.A5;have fJ:=xq (qd HB.o hb3) hst;have pO:=yt (qd HB.o hb3) hown;have jx8:=(HX2.o w8 fJ).1;unfold zg at jx8;have cx8:=jx8.cell))
      | fail)
     clear hown hst hb3 hr3 cx jx8 cx8 ct0 HRT HR HB;have HR9:=Qa pO;have HB8:=Qa fJ;have HRX:=Qa (fun w2 hb=>(HX2.o w2 hb).2);obtain⟨tk,htk⟩:=Ja0 x.AZ;rw[<-htk]at HRX rT HLk ⊢;clear pO fJ hk1 HX2 htk;go_loopw [5,50] (fun vv ix wr=>∃ j:Nat,ix=I Z j/\j<=tk.length/\Row wr (fo w.1.size) (1,0) 3 1 vv (n2+r.length+j) ((P2++r++(tk.take j).map (·.1)).map nv)/\Ae w.1.size w wr) (fun _ ix _=>tk.length-(intOf ix).toNat)
     case atStart=>exact⟨0,rfl,ai _,by simpa using HR9.o,HB8.o⟩
     case round =>
      clear HR9 HB8;obtain⟨j,rfl,hjn,hr,hb⟩:=hrel;obtain⟨wi,rfl⟩:=Ja0 wr;obtain⟨pp,cc,rfl⟩:=hr.A5;by_cases hj:j<tk.length
      ·have qO:(j:Int)<(tk.length:Int):=by omega
       obtain⟨z,hz⟩:∃ z,tk[j]?=some z:=⟨_,Qb hj⟩;obtain⟨gq,rfl,q0,q1⟩:=(HRX.o wi hb).QB j z hz;have hlen:n2+r.length+tk.length<=N+200000:=by have:=HLk.o;have:=wD.out;simp only[Qd,Qg]at *;omega
       have hk1:QO (n2+r.length+j+1<=maxLen/\(n2+r.length+j+1)*8<=140737488355328):=HMX.o _ (by omega)
       obtain⟨hw1,hw2⟩:=za j (by have:=uO.o;omega)
       have htk:(tk.take (j+1)).map (·.1)=(tk.take j).map (·.1)++[z.1]:=by rw[ay,hz];simp
       have nV:=Qa htk;obtain⟨zp,zs⟩:=z;simp only at q0 q1 nV;have HR:=Qa hr;clear hr hz htk hlen;go_wp2_with (first|(at_builtin;refine qf _ rfl _ _ _ rfl 3 iI _ 1 8 hu64 hi bZ hsI cZ rfl (by decide) (fo w.1.size) (1,0) _ _ _ rfl (Row.below (Row.below HR.o (qa (qc _) _)) (qa (qc _) _)) ⟨wi.1.size+1,0,none⟩ 1 1 [I Z zp] rfl rfl (qv (An.Ax _ _ _ _ _ (by simp) rfl)) jd hk1.out.1 hk1.out.2 ?_;intro v' w9 hown hst)|fail)
       have fA:=qa (qa hb (AIe #[zp,zs] 117)) (AIe #[zp] 3);have pO:=yt fA hown;have iH:=xq fA hst;go_roundw
       case rel=>exact⟨j+1,by simp,by omega,by rw[nV.o,<-aG,U2];exact pO,iH⟩
       case measure=>simp[intOf];omega
      ·obtain rfl:j=tk.length:=by omega
       rw[af,<-rT.out]at hr;have hr2:=hr.ite (n':=P1.length+(Ef ts (k+1)).length) (by
        have e:=congrArg List.length rT.out;have e2:=wD.out;simp only[Qd,Qg]at e;omega) rfl
       have HR2:=Qa hr2;have HB2:=Qa hb;obtain⟨hw1,hw2⟩:=HKL.o;clear hr hr2 hb hj hjn;go_wp2_with fail;go_roundw
       case rel=>exact⟨k+1,by simp,by omega,HR2.o,HB2.o⟩
       case measure=>simp[intOf];omega
    ·obtain rfl:k=ts.length:=by omega
     have hr2:=hr.ite (n':=(ps++q.map (·.1)++Ef ts ts.length).length) (by rw[<-kW.o,Qd]) (xs':=(ps++q.map (·.1)++Ef ts ts.length).map nv) (by rw[kW.o])
     have HR2:=Qa hr2;have HB2:=Qa hb;clear hr hr2 hb hlt;go_wp2_with fail;go_ret;exact⟨_,rfl,HR2.o.ite (by simp) (by simp),HB2.o⟩
end
end
section
open Go.RowKit Hp
def Vq:∀ (l:List Dp)(k:Nat)(x:Dp),l[k]?=some x->∀ j,j<6->(qw l)[k*6+j]?=[aD .i64 x.t,I Z x.b,I Z x.n,I Z x.a.k,I Z x.a.e,I Z x.a.v][j]?
 | [],_,_,h,_,_=>by simp at h
 | z::l,0,x,h,j,hj=>by
  simp at h;subst h;have e:qw (z::l)=[aD .i64 z.t,I Z z.b,I Z z.n,I Z z.a.k,I Z z.a.e,I Z z.a.v]++qw l:=rfl;rw[e,Nat.zero_mul,aZ,Qm (by simpa using hj)]
 | z::l,k+1,x,h,j,hj=>by
  have ih:=Vq l k x (by simpa using h) j hj
  have e:qw (z::l)=[aD .i64 z.t,I Z z.b,I Z z.n,I Z z.a.k,I Z z.a.e,I Z z.a.v]++qw l:=rfl;rw[e,show (k+1)*6+j=6+(k*6+j) from by omega,Ql (by simp),<-ih]
  congr 1;simp
structure XX (w:Aa)(g b:Nat)(x:Dp):Prop where
 c0:w.cell? ⟨g,b,none⟩=some (I Z x.t)
 c1:w.cell? ⟨g,b+1,none⟩=some (I Z x.b)
 c2:w.cell? ⟨g,b+2,none⟩=some (I Z x.n)
 c3:w.cell? ⟨g,b+3,none⟩=some (I Z x.a.k)
 c4:w.cell? ⟨g,b+4,none⟩=some (I Z x.a.e)
 c5:w.cell? ⟨g,b+5,none⟩=some (I Z x.a.v)
def Row.SH {w:Aa}{o:Own}{tg:Tag}{e:TypeId}{n cap:Nat}{pa:Option Addr}{l:List Dp}(hr:Row w o tg e 6 (.slice pa n cap) n (qw l)){t:Nat}{x:Dp}(ht:l[t]?=some x) :
  ∃ g,pa=some ⟨g,0,none⟩/\n<=cap/\XX w g (t*6) x:=by
 have ha:=Vq l t x ht;rcases hr.Dv with ⟨_,h0⟩|⟨g,cap',e',hn⟩
 ·have:=ha 0 (by omega)
  rw[h0]at this;simp at this
 ·injection e' with e1 _ e3
  subst e1 e3;have f:∀ k u,k<6->[aD .i64 x.t,I Z x.b,I Z x.n,I Z x.a.k,I Z x.a.e,I Z x.a.v][k]?=some u->w.cell? ⟨g,t*6+k,none⟩=some u:=fun k u hk hu=>by
   have:=hr.own.cells (g:=g) rfl (t*6+k) u ((ha k hk).trans hu);rwa [addr_add]at this
  exact⟨g,rfl,hn,f 0 _ (by omega) rfl,f 1 _ (by omega) rfl,f 2 _ (by omega) rfl,f 3 _ (by omega) rfl,f 4 _ (by omega) rfl,f 5 _ (by omega) rfl⟩
end
section
open Go.RowKit Hp
attribute [local go_sem ↓] Go.wp_at_zero Go.wp_at_succ
def JZ (q:List (Nat×Nat))(ps:List Nat)(k:Nat):List Nat:=ps.take k++(q.map (·.1)).drop k
def VX:∀ q:List (Nat×Nat),ks q (q.map (·.1))=q
 | []=>rfl
 | z::q=>by simp only[aB,ks,aV,aX,VX q]
def Wh:∀ (q:List (Nat×Nat))(ps:List Nat),q.length<=ps.length->ks q (ps.take q.length)=ks q ps
 | [],_,_=>rfl
 | z::q,[],h=>by simp at h
 | z::q,p::ps,h=>by simp only[Qv,aP,ks,aV,aX,Wh q ps (by simpa using h)]
def Xg {q:List (Nat×Nat)}{ps:List Nat}(h:q.length<=ps.length){k:Nat}(hk:k<=q.length):(JZ q ps k).length=q.length:=by
 simp only[JZ,Qd,Qp,aI,Qg];omega
def Mt {q:List (Nat×Nat)}{ps:List Nat}(_h:q.length<=ps.length){k x:Nat}(hk:k<q.length)(hx:ps[k]?=some x):(JZ q ps k).set k x=JZ q ps (k+1):=by
 obtain⟨hkp,hxe⟩:=Qc.1 hx;have e1:(ps.take k).length=k:=by rw[Qp];omega
 have e2:(q.map (·.1)).drop k=(q.map (·.1))[k]'(by simpa using hk)::(q.map (·.1)).drop (k+1):=List.drop_eq_getElem_cons (by simpa using hk)
 unfold JZ;rw[List.set_append_right _ _ (by omega),e1,Nat.sub_self,e2,aQ,aj hkp,hxe,aG]
 rfl
section
variable {w : Aa} {o : Own} {t : Tag}
def VW {q:List (Nat×Nat)}{ps:List Nat}{v:Ac}(hr:Row w o t 117 2 v q.length (qg q))(hl:q.length<=ps.length)(hq:q.length<=1099511627776){g off c:Nat}(hc:ps.length<=c)
  (hg:∀ (j x:Nat),ps[j]?=some x->w.cell? ⟨g,off+j,none⟩=some (nv x))(hlt:g<w.1.size)(ng:o g≠t) :
  Ab AId 64 #[v,Ai (some ⟨g,off,none⟩) ps.length c] w fun e w'=>e=O (.slice (if c=q.length then some ⟨g,off,none⟩ else some ⟨g,off+q.length,none⟩) (ps.length-q.length) (c-q.length)) /\
   Row w' o t 117 2 v q.length (qg (ks q ps))/\Stp (fun u=>u=t) o o w w':=by
 obtain⟨pa,cp,rfl⟩:=hr.A5;have HR:=Qa hr;have HL:=Qa hl;have HQ:=Qa hq;have HG:=Qa (fun w2 (hs:Stp (fun u=>u=t) o o w w2)(j x:Nat)(hx:ps[j]?=some x)=>show w2.cell? ⟨g,off+j,none⟩=some (nv x) from by
  have:=hs.block g hlt (fun h=>ng h);rw[<-hg j x hx];simp only[aL,this])
 obtain⟨n,hn⟩:=Ja0 q.length;obtain⟨m,hm⟩:=Ja0 ps.length;have HN:=Qa hn;have HM:=Qa hm;rw[<-hn]at HR HL HQ ⊢;rw[<-hm]at HL hc ⊢;have i1:(n:Int)<=(m:Int):=by have:=HL.o;omega
 have i2:(m:Int)<=(c:Int):=by omega
 have i3:(0:Int)<=(n:Int):=by omega
 clear hr hl hq hg hn hm;go_in;go_wp2_with fail;go_loopw [5,8] (fun _ ix wr=>∃ k:Nat,ix=I Z k/\k<=n/\Row wr o t 117 2 (.slice pa n cp) n (qg (ks q (JZ q ps k)))/\Stp (fun u=>u=t) o o w wr) (fun _ ix _=>n-(intOf ix).toNat)
 case atStart=>exact⟨0,rfl,ai _,by rw[show JZ q ps 0=q.map (·.1) from rfl,VX];exact HR.o,Stp.refl _ _ _⟩
 case round =>
  obtain⟨k,rfl,hkn,gP,hs⟩:=hrel;by_cases hlt':k<n
  ·have eO:(k:Int)<(n:Int):=by omega
   have hkM:(k:Int)<(m:Int):=by omega
   obtain⟨hw1,hw2⟩:=yd k n hlt' HQ.o;obtain⟨x,hx⟩:∃ x,ps[k]?=some x:=⟨_,Qb (by rw[<-HM.o];have:=HL.o;omega)⟩
   have q0:wr.cell? ⟨g,off+k,none⟩=some (I Z x):=HG.o _ hs k x hx;have CL:=TX q (JZ q ps k) k x (by rw[<-HN.o];exact hlt') (by rw[Xg (by rw[<-HN.o,<-HM.o];exact HL.o) (by rw[<-HN.o];omega)];exact Qk _)
   rw[Mt (by rw[<-HN.o,<-HM.o];exact HL.o) (by rw[<-HN.o];exact hlt') hx]at CL
   have hkl:(JZ q ps k)[k]?≠none:=by
    rw[ne_eq,List.getElem?_eq_none_iff,Xg (by rw[<-HN.o,<-HM.o];exact HL.o) (by rw[<-HN.o];omega),<-HN.o];omega
   obtain⟨u,hu⟩:=Option.ne_none_iff_exists'.1 hkl;rcases gP.Dv with ⟨_,h0⟩|⟨g2,cap,e,hcap⟩
   ·have h2:=CL.2
    rw[h0,hu]at h2;simp at h2
   ·injection e with e1 _ e3
    subst e1 e3;have hp2:=gP.Dm (k*2) (I Z x);rw[show (aD .i64 (x:Int))=nv x from rfl,<-CL.1]at hp2;have z2:=gP.free (k*2);have hog:=gP.EG;have hb2:=gP.blt;have q2:∃ u,wr.cell? ⟨g2,k*2,none⟩=some u:=by
     have h3:=gP.own.cells (g:=g2) rfl (k*2) (nv u) (by rw[CL.2,hu];rfl)
     simp only[Addr.add_lit,aZ]at h3;exact⟨_,h3⟩
    obtain⟨u,q2⟩:=q2;have HP:=Qa hp2;have HS2:=Qa (hs.setCell (a:=⟨g2,k*2,none⟩) (by show o g2=t;exact hog) (I Z x))
    clear gP hs CL hx hp2 hog hkl hu;go_wp2_with fail;go_roundw
    case rel=>exact⟨k+1,by simp,by omega,HP.o,HS2.o⟩
    case measure=>simp[intOf];omega
  ·obtain rfl:k=n:=by omega
   have e2:JZ q ps k=ps.take k:=by unfold JZ;rw[List.drop_eq_nil_of_le (by rw[Qg,<-HN.o];exact Qk _),aK]
   rw[e2,HN.o,Wh q ps (by rw[<-HN.o,<-HM.o];exact HL.o),<-HN.o]at gP
   go_wp2_with fail
   all_goals
    go_ret;exact⟨rfl,gP,hs⟩
