import Derived.Test.YtgndecmkhhdkjaaGreatKan
import Derived.Test.YtgndecmkhhdkjaaGreatKap
import Derived.Test.YtgndecmkhhdkjaaGreatKaq
set_option linter.all false
set_option maxRecDepth 1000000
set_option maxHeartbeats 0
open Go renaming World->Aa,Calls->Ab,Value->Ac
open Go.RowKit renaming Below->Ae
open Go.Value renaming int->I,pointer->Ah,slice->Ai,tuple->Ak,agg->Al
open Go.IntKind renaming i64->Z
open Go.Ending renaming returned->O
open Go.Instr renaming makeFunc->Ad,endRound->aM
open And renaming intro->Aj
open List renaming take_length->aa,take_add_one->ai,length_drop->ay,flatMap_cons->aA,append_assoc->aB,take_succ_eq_append_getElem->aD,map_cons->aG,drop_eq_getElem_cons->aH,nil_append->aJ,append_nil->aK,append_toArray->aN,flatMap_append->aO,set_cons_zero->aP,getElem?_drop->aQ,size_toArray->aR,push_toArray->aS,cons_append->aT,drop_length->aU,length_nil->aV,drop_zero->aW,mem_cons->aX
open Go.World renaming putObj_heap_other->af,alloc_heap_new->ag,putObj_heap_same->aC,size_alloc->aI,cell?->aL
open Nat renaming zero_le->aj,sub_self->aY
open Bool renaming false_eq_true->aF
open Go.Proofs.Tryz
open Go.Proofs.Tryz renaming prog->ANa
open Go.Obj renaming cells->ANb
namespace Go.Proofs.YtgndecmkhhdkjaaGreat
section
open Go.RowKit Hp
attribute [local go_sem ↓] Go.wp_at_zero Go.wp_at_succ
section
variable {w w' : Aa} {o o' : Own} {y : Bl} {S : Am} {i : Nat}
def qp7 (f:Ac)(h:Av w o y S)(hk:S.ok)(hi:i<S.Au.length)(hl:(S.t i).live=false) :
  Ab ANa 136 #[ptr y.sb,i,f] w fun e w'=>e=O (Ak #[(),I Z 140])/\Ae w w w':=by
 have HR:=Qa (fun w' (hw:Ae w w w')=>ye (h.below hw) hk (Am.AW hi))
 rw[hl]at HR;simp only[aF,if_false]at HR;clear h hk hi hl;go_enter_defers func136,ntmps136;go_wp2_with fail;obtain⟨W,hW⟩:=Ja0 (((w.alloc (ANb #[ptr y.sb] 58)).alloc (ANb #[()] 3)).alloc (ANb #[()] 28));rw[<-hW];have hbW:Ae w w W:=by rw[hW];exact qc (qc (qc (qd w) _) _) _
 have zW:W.1.size=w.1.size+3:=by rw[hW];simp
 have jV:An W (w.1.size+1) #[()] 3:=by rw[hW];exact (An.Ax _ _ _ _ _ (by simp) rfl).alloc _
 have jE:An W (w.1.size+1+1) #[()] 28:=by rw[hW];exact An.Ax _ _ _ _ _ (by simp) rfl
 clear hW;refine (HR.o _ hbW).mono ?_
 rintro e w1 ⟨rfl,rfl⟩
 have cV:=jV.cell;have zV:=jV.free;have sV:=jV.lt;have cE:=jE.cell;have zE:=jE.free;have sE:=jE.lt;go_wp2_with fail;have sW:=(((jV.set 0 (I Z 0)).Ao (a:=⟨w.1.size+1+1,0,none⟩) (by simp) (I Z 140)).alloc (ANb #[Ah none] 101))
 have vB:=(((jE.Ao (a:=⟨w.1.size+1,0,none⟩) (by simp) (I Z 0)).set 0 (I Z 140)).alloc (ANb #[Ah none] 101))
 have hfin:Ae w w (((W.setCell ⟨w.1.size+1,0,none⟩ (I Z 0)).setCell ⟨w.1.size+1+1,0,none⟩ (I Z 140)).alloc (ANb #[Ah none] 101)):=
  qc (qo (qo hbW (by simp) _) (by simp;omega) _) _
 generalize ((W.setCell ⟨w.1.size+1,0,none⟩ (I Z 0)).setCell ⟨w.1.size+1+1,0,none⟩ (I Z 140)).alloc (ANb #[Ah none] 101)=X at *;have wI:=sW.cell 0;have rJ:=vB.cell 0;simp at wI rJ;simp only[bodyPostD,Leaves];exact⟨Ak #[(),I Z 140],by simp[results,results136,go_sem,wI,rJ],rfl,hfin⟩
def ww (g:Nat)(eF:List Ac)(h0:Av w o y S)(hk:S.ok)(hi:i<S.Au.length)(eg:∀ args w,(callFunc g args).run ANa w=.ok (.enter g args) w)
  (r:B2)(hg:(S.t i).live=true->Good S.Au.length r)
  (hdo:(S.t i).live=true->∀ w1 o1,Ae w w w1->(∀ b,b<w.1.size->o1 b=o b)->Av w1 o1 y S->Ab ANa g (ptr (y.xb i)::eF).toArray w1 fun e w'=>e=O (Ak #[r.v,r.e])/\BM y r.S o1 w1 w') :
  Ab ANa 136 #[ptr y.sb,i,.func (.func g) #[] eF.toArray] w fun e w'=>e=O (Ak #[I Z (S.AF i r).v,I Z (S.AF i r).e])/\BM y (S.AF i r).S o w w':=by
 unfold Am.AF
 cases hl:(S.t i).live with
 | false =>
  rw[if_neg (by simp)]
  refine (qp7 _ h0 hk hi hl).mono ?_;rintro e w' ⟨rfl,hb⟩;exact⟨rfl,h0.EJ hb⟩
 | true =>
  rw[if_pos rfl];replace hdo:=hdo hl;have hg:=hg hl;have hx:=Am.AW hi;obtain⟨S',v,e⟩:=r
  cases ha:Kk e with
  | true =>
   have e1:B2.fin ⟨S',v,e⟩ i=⟨S'.abort i,0,e⟩:=by unfold B2.fin;rw[if_pos ha]
   rw[e1];have he:e=141\/e=130\/e=100:=by
    unfold Kk at ha;simp only[Bool.or_eq_true,beq_iff_eq]at ha;omega
   refine (qm8 g eF h0 hk hx hl eg (qi y) (qp y) S' (S'.abort i) v e he hdo fun w1 o1 h1=>WX h1 hg.1 (by have h2:S'.Au.length=S.Au.length:=hg.2;omega)).mono ?_
   rintro e w' ⟨rfl,o',h1,h2⟩;exact⟨rfl,o',h1,h2.mono fun _ h=>h.elim id id⟩
  | false =>
   have hne:e≠141/\e≠130/\e≠100:=by
    unfold Kk at ha;simp only[Bool.or_eq_false_iff,Qh]at ha;exact⟨ha.1.1,ha.1.2,ha.2⟩
   by_cases h0':e=0
   ·subst h0'
    have e1:B2.fin ⟨S',v,0⟩ i=⟨S',v,0⟩:=by unfold B2.fin;rw[if_neg (by rw[ha];simp),if_pos rfl]
    rw[e1];exact LL g eF h0 hk hx hl eg (qi y) (qp y) S' v hdo
   ·have e1:B2.fin ⟨S',v,e⟩ i=⟨S',0,e⟩:=by unfold B2.fin;rw[if_neg (by rw[ha];simp),if_neg h0']
    rw[e1];exact Hs g eF h0 hk hx hl eg (qi y) (qp y) S' v e h0' hne.1 hne.2.1 hne.2.2 hdo
def qms (p j:Nat)(ef v er:Int)(S1 S2:Am)
  (fields:Ab ANa 205 #[ptr y.sb,ptr (y.xb i),p] w fun e w'=>e=O ef/\BM y S1 o w w')
  (get:∀ w1 o1,Av w1 o1 y S1->Ab ANa 158 #[ptr y.l.h,p,j] w1 fun e w'=>e=O (Ak #[v,er])/\BM y S2 o1 w1 w')
  {b1 b2 b3 b4:Nat}(j1:An w b1 #[ptr y.sb] 58)(j2:An w b2 #[p] 3)(j3:An w b3 #[.func (.func 158) #[] #[]] 220)(j4:An w b4 #[j] 3)
  (t1:o b1=(y.l.id+1,0))(t2:o b2=(y.l.id+1,0))(t3:o b3=(y.l.id+1,0))(t4:o b4=(y.l.id+1,0))(R:B2)(r1:ef≠0->R=⟨S1,0,ef⟩)(r2:ef=0->R=⟨S2,v,er⟩) :
  Ab ANa 204 #[ptr (y.xb i),ptr b1,ptr b2,ptr b3,ptr b4] w fun e w'=>e=O (Ak #[R.v,R.e])/\BM y R.S o w w':=by
 have HF:=Qa fields;have HG:=Qa get;have HB:=Qa (qp y);have c1:=j1.cell;have c2:=j2.cell;have H1:=Qa r1;have H2:=Qa r2;clear fields get r1 r2;by_cases he:ef=0
 ·have H3:=Qa (H2.o he)
  clear H1 H2;subst he;rw[H3.o];clear H3;go_in;go_wp2_with fail;refine HF.o.mono ?_;rintro e w1 ⟨rfl,o1,hS1,hs1⟩;have k1:=j1.Ar hs1 (by rw[t1];exact HB.o)
  have k2:=j2.Ar hs1 (by rw[t2];exact HB.o)
  have k3:=j3.Ar hs1 (by rw[t3];exact HB.o)
  have k4:=j4.Ar hs1 (by rw[t4];exact HB.o)
  obtain⟨vq,vl,vm,jb,_⟩:=hS1.A3;unfold qm at jb;have l1:=j1.lt;have l2:=j2.lt;have l3:=j3.lt;have l4:=j4.lt;clear c1 c2 j1 j2 j3 j4;have HG2:=Qa (HG.o w1.drew o1 (hS1.below (qf (qd w1))));have HS:=Qa hs1;have u1:o1 b1=(y.l.id+1,0):=(hs1.tags _ l1).trans t1;have u2:o1 b2=(y.l.id+1,0):=(hs1.tags _ l2).trans t2;have u3:o1 b3=(y.l.id+1,0):=(hs1.tags _ l3).trans t3;have u4:o1 b4=(y.l.id+1,0):=(hs1.tags _ l4).trans t4;have HKc:=Qa (fun (w2:Aa)(o2:Own)(hs2:Stp (qi y) o1 o2 w1.drew w2) =>
   show w2.cell? ⟨b1,0,none⟩=some (ptr y.sb)/\w2.cell? ⟨b2,0,none⟩=some (I Z p)/\w2.cell? ⟨b3,0,none⟩=some (.func (.func 158) #[] #[])/\w2.cell? ⟨b4,0,none⟩=some (I Z j) from
    ⟨((qj k1).Ar hs2 (by rw[u1];exact HB.o)).cell 0,((qj k2).Ar hs2 (by rw[u2];exact HB.o)).cell 0,((qj k3).Ar hs2 (by rw[u3];exact HB.o)).cell 0,((qj k4).Ar hs2 (by rw[u4];exact HB.o)).cell 0⟩)
  have vU:=Qa (fun (w2:Aa)(o2:Own)(h2:Av w2 o2 y S2)=>show w2.cell? ⟨y.sb,0,none⟩=some (ptr y.l.h) from by
   obtain⟨_,_,_,lM,_⟩:=h2.A3;exact lM.cell 0)
  clear hS1 hs1 HG u1 u2 u3 u4 l1 l2 l3 l4 t1 t2 t3 t4;have c1:w1.cell? ⟨b1,0,none⟩=some (ptr y.sb):=k1.cell 0;have c2:w1.cell? ⟨b2,0,none⟩=some (I Z p):=k2.cell 0;have c3:w1.cell? ⟨b3,0,none⟩=some (.func (.func 158) #[] #[]):=k3.cell 0;have c4:w1.cell? ⟨b4,0,none⟩=some (I Z j):=k4.cell 0;have cb:w1.cell? ⟨y.sb,0,none⟩=some (ptr y.l.h):=jb.cell 0;clear k1 k2 k3 k4 jb;go_upto_region 4 with fail;go_region_held3 (fun w'=>w'.cell? ⟨b1,0,none⟩=some (ptr y.sb)/\w'.cell? ⟨b2,0,none⟩=some (I Z p)/\w'.cell? ⟨b3,0,none⟩=some (.func (.func 158) #[] #[])/\w'.cell? ⟨b4,0,none⟩=some (I Z j)/\w'.cell? ⟨y.sb,0,none⟩=some (ptr y.l.h))(first|exact⟨by assumption,by assumption,by assumption,by assumption,by assumption⟩|go_keep)(first
   | (go_at_call 158;refine HG2.o.mono ?_;rintro e w2 ⟨rfl,o2,hS2,hs2⟩;obtain⟨d1,d2,d3,d4⟩:=HKc.o _ _ hs2;have db:=vU.o _ _ hS2)
   | fail)
  go_wp2_with fail;go_ret2;exact⟨rfl,o2,hS2,HS.o.trans ((Stp.of_below (qf (qd w1))).trans hs2)⟩
 ·have H3:=Qa (H1.o he)
  have hb:(ef != 0)=true:=by rw[bne_iff_ne];exact he
  have hb2:(ef==0)=false:=by rw[Qh];exact he
  clear H1 H2;rw[H3.o];clear H3;go_in;go_wp2_with fail;refine HF.o.mono ?_;rintro e w1 ⟨rfl,o1,hS1,hs1⟩;go_wp2_with fail;go_ret2;exact⟨rfl,o1,hS1,hs1⟩
def qk3 (p j:Nat)(ef v er:Int)(S1 S2:Am)
  (fields:Ab ANa 205 #[ptr y.sb,ptr (y.xb i),p] w fun e w'=>e=O ef/\BM y S1 o w w')
  (get:∀ w1 o1,Av w1 o1 y S1->Ab ANa 150 #[ptr y.l.h,p,j] w1 fun e w'=>e=O (Ak #[v,er])/\BM y S2 o1 w1 w')
  {b1 b2 b3 b4:Nat}(j1:An w b1 #[ptr y.sb] 58)(j2:An w b2 #[p] 3)(j3:An w b3 #[.func (.func 150) #[] #[]] 220)(j4:An w b4 #[j] 3)
  (t1:o b1=(y.l.id+1,0))(t2:o b2=(y.l.id+1,0))(t3:o b3=(y.l.id+1,0))(t4:o b4=(y.l.id+1,0))(R:B2)(r1:ef≠0->R=⟨S1,0,ef⟩)(r2:ef=0->R=⟨S2,v,er⟩) :
  Ab ANa 204 #[ptr (y.xb i),ptr b1,ptr b2,ptr b3,ptr b4] w fun e w'=>e=O (Ak #[R.v,R.e])/\BM y R.S o w w':=by
 have HF:=Qa fields;have HG:=Qa get;have HB:=Qa (qp y);have c1:=j1.cell;have c2:=j2.cell;have H1:=Qa r1;have H2:=Qa r2;clear fields get r1 r2;by_cases he:ef=0
 ·have H3:=Qa (H2.o he)
  clear H1 H2;subst he;rw[H3.o];clear H3;go_in;go_wp2_with fail;refine HF.o.mono ?_;rintro e w1 ⟨rfl,o1,hS1,hs1⟩;have k1:=j1.Ar hs1 (by rw[t1];exact HB.o)
  have k2:=j2.Ar hs1 (by rw[t2];exact HB.o)
  have k3:=j3.Ar hs1 (by rw[t3];exact HB.o)
  have k4:=j4.Ar hs1 (by rw[t4];exact HB.o)
  obtain⟨vq,vl,vm,jb,_⟩:=hS1.A3;unfold qm at jb;have l1:=j1.lt;have l2:=j2.lt;have l3:=j3.lt;have l4:=j4.lt;clear c1 c2 j1 j2 j3 j4;have HG2:=Qa (HG.o w1.drew o1 (hS1.below (qf (qd w1))));have HS:=Qa hs1;have u1:o1 b1=(y.l.id+1,0):=(hs1.tags _ l1).trans t1;have u2:o1 b2=(y.l.id+1,0):=(hs1.tags _ l2).trans t2;have u3:o1 b3=(y.l.id+1,0):=(hs1.tags _ l3).trans t3;have u4:o1 b4=(y.l.id+1,0):=(hs1.tags _ l4).trans t4;have HKc:=Qa (fun (w2:Aa)(o2:Own)(hs2:Stp (qi y) o1 o2 w1.drew w2) =>
   show w2.cell? ⟨b1,0,none⟩=some (ptr y.sb)/\w2.cell? ⟨b2,0,none⟩=some (I Z p)/\w2.cell? ⟨b3,0,none⟩=some (.func (.func 150) #[] #[])/\w2.cell? ⟨b4,0,none⟩=some (I Z j) from
    ⟨((qj k1).Ar hs2 (by rw[u1];exact HB.o)).cell 0,((qj k2).Ar hs2 (by rw[u2];exact HB.o)).cell 0,((qj k3).Ar hs2 (by rw[u3];exact HB.o)).cell 0,((qj k4).Ar hs2 (by rw[u4];exact HB.o)).cell 0⟩)
  have vU:=Qa (fun (w2:Aa)(o2:Own)(h2:Av w2 o2 y S2)=>show w2.cell? ⟨y.sb,0,none⟩=some (ptr y.l.h) from by
   obtain⟨_,_,_,lM,_⟩:=h2.A3;exact lM.cell 0)
  clear hS1 hs1 HG u1 u2 u3 u4 l1 l2 l3 l4 t1 t2 t3 t4;have c1:w1.cell? ⟨b1,0,none⟩=some (ptr y.sb):=k1.cell 0;have c2:w1.cell? ⟨b2,0,none⟩=some (I Z p):=k2.cell 0;have c3:w1.cell? ⟨b3,0,none⟩=some (.func (.func 150) #[] #[]):=k3.cell 0;have c4:w1.cell? ⟨b4,0,none⟩=some (I Z j):=k4.cell 0;have cb:w1.cell? ⟨y.sb,0,none⟩=some (ptr y.l.h):=jb.cell 0;clear k1 k2 k3 k4 jb;go_upto_region 4 with fail;go_region_held3 (fun w'=>w'.cell? ⟨b1,0,none⟩=some (ptr y.sb)/\w'.cell? ⟨b2,0,none⟩=some (I Z p)/\w'.cell? ⟨b3,0,none⟩=some (.func (.func 150) #[] #[])/\w'.cell? ⟨b4,0,none⟩=some (I Z j)/\w'.cell? ⟨y.sb,0,none⟩=some (ptr y.l.h))(first|exact⟨by assumption,by assumption,by assumption,by assumption,by assumption⟩|go_keep)(first
   | (go_at_call 150;refine HG2.o.mono ?_;rintro e w2 ⟨rfl,o2,hS2,hs2⟩;obtain⟨d1,d2,d3,d4⟩:=HKc.o _ _ hs2;have db:=vU.o _ _ hS2)
   | fail)
  go_wp2_with fail;go_ret2;exact⟨rfl,o2,hS2,HS.o.trans ((Stp.of_below (qf (qd w1))).trans hs2)⟩
 ·have H3:=Qa (H1.o he)
  have hb:(ef != 0)=true:=by rw[bne_iff_ne];exact he
  have hb2:(ef==0)=false:=by rw[Qh];exact he
  clear H1 H2;rw[H3.o];clear H3;go_in;go_wp2_with fail;refine HF.o.mono ?_;rintro e w1 ⟨rfl,o1,hS1,hs1⟩;go_wp2_with fail;go_ret2;exact⟨rfl,o1,hS1,hs1⟩
def Xi (args:Array Ac)(w:Aa):(callFunc 204 args).run ANa w=.ok (.enter 204 args) w:=enters_of func204 (by kernel_rfl) rfl args w
def LN (args:Array Ac)(w:Aa):(callFunc 158 args).run ANa w=.ok (.enter 158 args) w:=enters_of func158 (by kernel_rfl) rfl args w
def LO (args:Array Ac)(w:Aa):(callFunc 150 args).run ANa w=.ok (.enter 150 args) w:=enters_of func150 (by kernel_rfl) rfl args w
def qmj (h0:Av w o y S)(hk:S.ok)(hi:i<S.Au.length)(p j:Nat)(v er:Int)(S2:Am)(R:B2)
  (get:∀ w1 o1,Av w1 o1 y (S.Aq i p).1->Ab ANa 158 #[ptr y.l.h,p,j] w1 fun e w'=>e=O (Ak #[v,er])/\BM y S2 o1 w1 w')
  (hG:Good S.Au.length R)(r1:(S.Aq i p).2≠0->R=⟨(S.Aq i p).1,0,(S.Aq i p).2⟩)(r2:(S.Aq i p).2=0->R=⟨S2,v,er⟩) :
  Ab ANa 149 #[ptr y.sb,i,p,j,.func (.func 158) #[] #[]] w fun e w'=>e=O (Ak #[I Z (S.AF i R).v,I Z (S.AF i R).e])/\BM y (S.AF i R).S o w w':=by
 have fH:∀ (fn:Fn)(first cap:Array Ac)(w:Aa),(Ad fn first cap).run ANa w=.ok (.func fn first cap) w:=fun _ _ _ _=>rfl
 obtain⟨o1,ho1,dN,hS0⟩:=PRe o w (y.l.id+1,0) (qi y);have h:=h0.retag dN;clear dN
 have hbx:∀ b,w.1.size<=b->o1 b=(y.l.id+1,0):=fun b hb=>by rw[ho1];exact qq hb
 clear ho1 h0;obtain⟨W,hW⟩:=Ja0 ((((w.alloc (ANb #[ptr y.sb] 58)).alloc (ANb #[p] 3)).alloc (ANb #[j] 3)).alloc (ANb #[.func (.func 158) #[] #[]] 220));have hbW:Ae w w W:=by rw[hW];exact qc (qc (qc (qc (qd w) _) _) _) _
 have j1:An W w #[ptr y.sb] 58:=by rw[hW];exact (((An.new w _ _).alloc _).alloc _).alloc _
 have j2:An W (w.1.size+1) #[p] 3:=by rw[hW];exact ((An.Ax _ _ _ _ _ (by simp) rfl).alloc _).alloc _
 have j4:An W (w.1.size+1+1) #[j] 3:=by rw[hW];exact (An.Ax _ _ _ _ _ (by simp) rfl).alloc _
 have j3:An W (w.1.size+1+1+1) #[.func (.func 158) #[] #[]] 220:=by rw[hW];exact An.Ax _ _ _ _ _ (by simp) rfl
 have HD:=Qa (ww 204 [ptr w,ptr (w.1.size+1),ptr (w.1.size+1+1+1),ptr (w.1.size+1+1)] (h.below hbW) hk hi Xi R (fun _=>hG)
  (fun _ w1 o2 hb he2 hS=>qms p j _ v er _ S2 (gx hS hk hi p) get (j1.below hb j1.lt) (j2.below hb j2.lt) (j3.below hb j3.lt) (j4.below hb j4.lt)
   ((he2 _ j1.lt).trans (hbx _ (by omega))) ((he2 _ j2.lt).trans (hbx _ (by omega))) ((he2 _ j3.lt).trans (hbx _ (by omega))) ((he2 _ j4.lt).trans (hbx _ (by omega))) R r1 r2))
 have HS:=Qa (hS0.trans (Stp.of_below hbW));generalize S.AF i R=R' at *;clear h hk hi get hG r1 r2 hbx hS0 hbW j1 j2 j3 j4;go_in;go_wp2_with fail;rw[<-hW];refine HD.o.mono ?_
 rintro e w2⟨rfl,o2,hS2,hs2⟩
 go_wp2_with fail;go_ret2;exact⟨rfl,o2,hS2,HS.o.trans hs2⟩
def qnc (h0:Av w o y S)(hk:S.ok)(hi:i<S.Au.length)(p j:Nat)(v er:Int)(S2:Am)(R:B2)
  (get:∀ w1 o1,Av w1 o1 y (S.Aq i p).1->Ab ANa 150 #[ptr y.l.h,p,j] w1 fun e w'=>e=O (Ak #[v,er])/\BM y S2 o1 w1 w')
  (hG:Good S.Au.length R)(r1:(S.Aq i p).2≠0->R=⟨(S.Aq i p).1,0,(S.Aq i p).2⟩)(r2:(S.Aq i p).2=0->R=⟨S2,v,er⟩) :
  Ab ANa 149 #[ptr y.sb,i,p,j,.func (.func 150) #[] #[]] w fun e w'=>e=O (Ak #[I Z (S.AF i R).v,I Z (S.AF i R).e])/\BM y (S.AF i R).S o w w':=by
 have fH:∀ (fn:Fn)(first cap:Array Ac)(w:Aa),(Ad fn first cap).run ANa w=.ok (.func fn first cap) w:=fun _ _ _ _=>rfl
 obtain⟨o1,ho1,dN,hS0⟩:=PRe o w (y.l.id+1,0) (qi y);have h:=h0.retag dN;clear dN
 have hbx:∀ b,w.1.size<=b->o1 b=(y.l.id+1,0):=fun b hb=>by rw[ho1];exact qq hb
 clear ho1 h0;obtain⟨W,hW⟩:=Ja0 ((((w.alloc (ANb #[ptr y.sb] 58)).alloc (ANb #[p] 3)).alloc (ANb #[j] 3)).alloc (ANb #[.func (.func 150) #[] #[]] 220));have hbW:Ae w w W:=by rw[hW];exact qc (qc (qc (qc (qd w) _) _) _) _
 have j1:An W w #[ptr y.sb] 58:=by rw[hW];exact (((An.new w _ _).alloc _).alloc _).alloc _
 have j2:An W (w.1.size+1) #[p] 3:=by rw[hW];exact ((An.Ax _ _ _ _ _ (by simp) rfl).alloc _).alloc _
 have j4:An W (w.1.size+1+1) #[j] 3:=by rw[hW];exact (An.Ax _ _ _ _ _ (by simp) rfl).alloc _
 have j3:An W (w.1.size+1+1+1) #[.func (.func 150) #[] #[]] 220:=by rw[hW];exact An.Ax _ _ _ _ _ (by simp) rfl
 have HD:=Qa (ww 204 [ptr w,ptr (w.1.size+1),ptr (w.1.size+1+1+1),ptr (w.1.size+1+1)] (h.below hbW) hk hi Xi R (fun _=>hG)
  (fun _ w1 o2 hb he2 hS=>qk3 p j _ v er _ S2 (gx hS hk hi p) get (j1.below hb j1.lt) (j2.below hb j2.lt) (j3.below hb j3.lt) (j4.below hb j4.lt)
   ((he2 _ j1.lt).trans (hbx _ (by omega))) ((he2 _ j2.lt).trans (hbx _ (by omega))) ((he2 _ j3.lt).trans (hbx _ (by omega))) ((he2 _ j4.lt).trans (hbx _ (by omega))) R r1 r2))
 have HS:=Qa (hS0.trans (Stp.of_below hbW));generalize S.AF i R=R' at *;clear h hk hi get hG r1 r2 hbx hS0 hbW j1 j2 j3 j4;go_in;go_wp2_with fail;rw[<-hW];refine HD.o.mono ?_
 rintro e w2⟨rfl,o2,hS2,hs2⟩
 go_wp2_with fail;go_ret2;exact⟨rfl,o2,hS2,HS.o.trans hs2⟩
def Am.read (S:Am)(i p j:Nat):B2:=S.AF i (S.Ce i p j)
def Am.get (S:Am)(i p j:Nat):B2:=S.AF i (S.CK i p j)
def qpf (h:Av w o y S)(hk:S.ok)(hi:i<S.Au.length)(p j:Nat) :
  Ab ANa 95 #[ptr y.sb,i,p,j] w fun e w'=>e=O (Ak #[I Z (S.read i p j).v,I Z (S.read i p j).e])/\BM y (S.read i p j).S o w w':=by
 have hf:=Am.Co hk hi p;have HF:=Qa (qmj h hk hi p j ((S.Aq i p).1.H.Cs p j).1 ((S.Aq i p).1.H.Cs p j).2 (S.Aq i p).1 (S.Ce i p j)
  (fun w1 o1 h1=>(NI h1 hf p j).mono fun _ _⟨a,b⟩=>⟨a,h1.EJ b⟩) (ly hk hi p j) (fun he=>by unfold Am.Ce;rw[if_pos he]) (fun he=>by unfold Am.Ce;rw[if_neg (by simpa using he)]))
 unfold Am.read;generalize S.AF i (S.Ce i p j)=R at *;clear h hk hi hf;go_in;go_wp2_with fail;refine HF.o.mono ?_
 rintro e w2⟨rfl,h2⟩
 go_wp2_with fail;go_ret2;exact⟨rfl,h2⟩
def KE (h:Av w o y S)(hk:S.ok)(hi:i<S.Au.length)(p j:Nat) :
  Ab ANa 91 #[ptr y.sb,i,p,j] w fun e w'=>e=O (Ak #[I Z (S.get i p j).v,I Z (S.get i p j).e])/\BM y (S.get i p j).S o w w':=by
 have hf:=Am.Co hk hi p;have HF:=Qa (qnc h hk hi p j ((S.Aq i p).1.H.AY p j).2.1 ((S.Aq i p).1.H.AY p j).2.2 ((S.Aq i p).1.h ((S.Aq i p).1.H.AY p j).1) (S.CK i p j)
  (fun w1 o1 h1=>Kq h1 hf p j) (T4 hk hi p j) (fun he=>by unfold Am.CK;rw[if_pos he]) (fun he=>by unfold Am.CK;rw[if_neg (by simpa using he)]))
 unfold Am.get;generalize S.AF i (S.CK i p j)=R at *;clear h hk hi hf;go_in;go_wp2_with fail;refine HF.o.mono ?_
 rintro e w2⟨rfl,h2⟩
 go_wp2_with fail;go_ret2;exact⟨rfl,h2⟩
end
section
variable {w w' : Aa} {o o' : Own} {y : Bl} {S : Am} {i : Nat}
def qiq (h:Av w o y S)(hk:S.ok)(hi:i<S.Au.length)(p v:Nat)(hn:(S.Ba i p v).2=false) :
  Ab ANa 202 #[ptr (y.lb i),Al #[p,v]] w fun e w'=>e=O (.bool false)/\Ae w w w':=by
 obtain⟨vr,vk,vh,vu,hl⟩:=(h.Au i _ (Am.AW hi)).log;unfold Am.Ba at hn;by_cases hd:∀ z ∈ (S.t i).log.holds,z.1≠p
 ·by_cases hm:(S.t i).log.holds.length<(S.t i).log.mu
  ·have e1:xa (S.t i).log p=true:=by unfold xa;simp only[Bool.and_eq_true,decide_eq_true_eq];exact⟨hd,hm⟩
   rw[if_pos e1]at hn;cases hn
  ·exact tt hl (hk.Ew hi).ok p v hd (by omega)
 ·exact VI hl (hk.Ew hi).ok p v hd
def Ss {S:Am}{i p:Nat}(hn:(S.A5 i p).2=false):¬S.H.sec p%2=1/\(S.Ba i p (S.H.sec p/2)).2=false/\(S.A5 i p).1=S:=by
 unfold Am.A5 at hn ⊢;split at hn
 ·cases hn
 ·rename_i h1
  rw[if_neg h1];split at hn
  ·cases hn
  ·rename_i h2
   rw[if_neg h2];exact⟨h1,by simpa using h2,rfl⟩
def UZ (h:Av w o y S)(hk:S.ok)(hi:i<S.Au.length)(p:Nat)(hn:(S.A5 i p).2=false) :
  Ab ANa 162 #[ptr y.sb,ptr (y.xb i),p] w fun e w'=>e=O (.bool false)/\Ae w w w':=by
 obtain⟨hod,hno,_⟩:=Ss hn;have HC:=Qa (Uf h hk p);obtain⟨hs,hv⟩:=hk.sec p;have HO:=(fun w=>TN (S.H.sec p) hv hs w)
 obtain⟨vq,vl,vm,hb,_⟩:=h.A3;unfold qm at hb;have c:=hb.cell;obtain⟨vt,jx,_⟩:=(h.Au i _ (Am.AW hi)).A3;unfold zj at jx;have HL:=Qa (fun w' (hw:Ae w w w')=>qiq (h.below hw) hk hi p (S.H.sec p/2) hno)
 rw[if_neg hod,if_neg hod,decide_eq_false hod]at HO;replace HO:=Qa HO;generalize S.H.sec p/2=v2 at *;generalize S.H.sec p=v at *;clear h hk hi hs hv hod hn hno;go_in;go_wp2_with fail;refine HC.o.mono ?_
 rintro e w1⟨er,rfl,hb1⟩
 have cx:=(jx.below hb1 jx.lt).cell;go_wp2_with fail;refine (HO.o _).mono ?_
 rintro e w2⟨rfl,rfl⟩
 go_wp2_with fail;refine (HL.o _ hb1).mono ?_
 rintro e w2⟨rfl,hb2⟩
 go_wp2_with fail;go_ret;exact⟨rfl,qe hb1 hb2⟩
structure To (ef eg se:Int)(hb ub:Bool)(S1 S2 S3 S4 S5:Am)(R:B2):Prop where
 r1:ef≠0->R.S=S1/\R.e=ef
 r2:ef=0->eg≠0->R.S=S2/\R.e=eg
 r3:ef=0->eg=0->hb=false->R.S=S3/\R.e=130
 r4:ef=0->eg=0->hb=true->ub=false->R.S=S4/\R.e=130
 r5:ef=0->eg=0->hb=true->ub=true->R.S=S5/\R.e=se
def VS (gf sf:Nat)(egf:∀ args w,(callFunc gf args).run ANa w=.ok (.enter gf args) w)(esf:∀ args w,(callFunc sf args).run ANa w=.ok (.enter sf args) w)
  (kd p j:Nat)(v old ef eg se:Int)(hb ub:Bool)(S1 S2 S3 S4 S5:Am)(R:B2)(hR:To ef eg se hb ub S1 S2 S3 S4 S5 R)(h:Av w o y S)(hx3:i<S3.Au.length)
  (fields:∀ w1 o1,Av w1 o1 y S->Ab ANa 205 #[ptr y.sb,ptr (y.xb i),p] w1 fun e w'=>e=O ef/\BM y S1 o1 w1 w')
  (get:∀ w1 o1,Av w1 o1 y S1->Ab ANa gf #[ptr y.l.h,p,j] w1 fun e w'=>e=O (Ak #[old,eg])/\BM y S2 o1 w1 w')
  (hold:∀ w1 o1,Av w1 o1 y S2->Ab ANa 162 #[ptr y.sb,ptr (y.xb i),p] w1 fun e w'=>e=O (.bool hb)/\BM y S3 o1 w1 w')
  (hno:hb=false->S3=S2/\∀ w1 o1,Av w1 o1 y S2->Ab ANa 162 #[ptr y.sb,ptr (y.xb i),p] w1 fun e w'=>e=O (.bool false)/\Ae w1 w1 w')
  (CO:∀ w1 o1,Av w1 o1 y S3->Ab ANa 163 #[ptr (y.lb i),Al #[kd,p,j,old]] w1 fun e w'=>e=O (.bool ub)/\BM y S4 o1 w1 w')
  (set:∀ w1 o1,Av w1 o1 y S4->Ab ANa sf #[ptr y.l.h,p,j,v] w1 fun e w'=>e=O se/\BM y S5 o1 w1 w') :
  Ab ANa 157 #[ptr y.sb,ptr (y.xb i),Al #[kd,p,j,()],.func (.func gf) #[ptr y.l.h] #[],.func (.func sf) #[ptr y.l.h] #[],v] w
   fun e w'=>e=O (I Z R.e)/\BM y R.S o w w':=by
 obtain⟨o1,ho1,dN,hS0⟩:=PRe o w (y.l.id+1,0) (qi y);have hr:=h.retag dN;clear dN
 have hbx:o1 w=(y.l.id+1,0):=by rw[ho1];exact qq (Qk _)
 clear ho1 h;obtain⟨RS,Rv,Re⟩:=R;have HRR:=Qa hR;have HF:=Qa (fun w' (hw:Ae w w w')=>fields w' o1 (hr.below hw))
 have HG:=Qa get;have HH:=Qa hold;have HN:=Qa hno;have HU:=Qa CO;have HS:=Qa set;have HB:=Qa (qp y);have H0:=Qa hS0;have hX2:=Qa (fun w' o' (hS:Av w' o' y S3)=>(hS.Au i _ (Am.AW hx3)).A3)
 have jU:=An.new w #[kd,p,j,()] 198;clear fields get hold hno CO set hr hS0 hx3 hR;go_in;have cU:=jU.cell;go_wp2_with fail;refine (HF.o _ (qc (qd w) _)).mono ?_
 rintro e w1 ⟨rfl,o2,hS1,hs1⟩
 have jU1:=jU.Ar hs1 (by rw[hbx];exact HB.o)
 have tU1:o2 w=(y.l.id+1,0):=(hs1.tags _ jU.lt).trans hbx;have H1:=Qa (H0.o.trans ((Stp.of_below (qc (qd w) _)).trans hs1));clear cU hs1 jU hbx;by_cases he:ef=0
 ·subst he
  have cU:=jU1.cell;go_wp2_with fail;refine (HG.o _ o2 hS1).mono ?_;rintro e w2 ⟨rfl,o3,hS2,hs2⟩;have sQ:=jU1.Ar hs2 (by rw[tU1];exact HB.o)
  have tU2:o3 w=(y.l.id+1,0):=(hs2.tags _ jU1.lt).trans tU1;have H2:=Qa (H1.o.trans hs2);clear cU hs2 jU1 tU1 hS1;by_cases he2:eg=0
  ·subst he2
   have cU:=sQ.cell;have zU:=sQ.free;have sU:=sQ.lt;go_upto_region 8 with fail;obtain⟨W,hW⟩:=Ja0 (w2.setCell ⟨w,3,none⟩ old);rw[<-hW];have jW:An W w #[kd,p,j,old] 198:=by rw[hW];exact sQ.set 3 _
   have hSW:Av W o3 y S2:=by rw[hW];exact hS2.box tU2 _
   have hs2:Stp (qi y) o o3 w W:=by rw[hW];exact H2.o.setCell_new (Qk _) _
   clear hW cU zU sU sQ hS2 H2;have cW:=jW.cell;have mH:=Qa (hSW.below (qf (qd W)))
   cases hb with
   | false =>
    have e1:=(HRR.o.r3 rfl rfl rfl);simp only at e1;obtain⟨rfl,rfl⟩:=e1;obtain⟨rfl,hn9⟩:=HN.o rfl;have uC:=Qa (fun (e:Later W)=>hn9 e.1 o3 (hSW.below e.2));have rC:=Qa hSW;have l1:=fun (e:Later W)(i:Nat)=>Later.cell jW e i;clear cW mH hn9 HH HU HS HG HF hX2 hSW;refine qy (by kernel_rfl) (by kernel_rfl) ?_
    repeat (go_big_quiet_step ((go_at_call 162;exact kv (uC.o _))))
    refine wpQuiet_nil ?_;intro w8 hW0;obtain⟨⟨W9,fC⟩,hwt⟩:=hW0;have hwt:w8=W9:=hwt;subst hwt;go_wp2_with fail;go_ret;exact⟨rfl,o3,rC.o.below fC,hs2.trans (Stp.of_below fC)⟩
   | true =>
    clear hSW
    cases ub with
    | false =>
     have e1:=(HRR.o.r4 rfl rfl rfl rfl);simp only at e1;obtain⟨rfl,rfl⟩:=e1;go_region_with (first
      | (go_at_call 162;refine (HH.o _ o3 mH.o).mono ?_;rintro e w3 ⟨rfl,o4,cZ,hs3⟩;have m1:=(qj jW).Ar hs3 (by rw[tU2];exact HB.o);have d1:=m1.cell;obtain⟨vt3,fZ,_⟩:=hX2.o _ _ cZ;unfold zj at fZ;have dx:=fZ.cell)
      | (go_at_call 163;refine (HU.o _ o4 cZ).mono ?_;rintro e w4 ⟨rfl,o5,dQ,hs4⟩)
      | fail)
     all_goals
      go_wp2_with fail;go_ret;exact⟨rfl,o5,dQ,((hs2.trans (Stp.of_below (qf (qd W)))).trans hs3).trans hs4⟩
    | true =>
     have e1:=(HRR.o.r5 rfl rfl rfl rfl);simp only at e1;obtain⟨rfl,rfl⟩:=e1;go_region_with (first
      | (go_at_call 162;refine (HH.o _ o3 mH.o).mono ?_;rintro e w3 ⟨rfl,o4,cZ,hs3⟩;have m1:=(qj jW).Ar hs3 (by rw[tU2];exact HB.o);have d1:=m1.cell;obtain⟨vt3,fZ,_⟩:=hX2.o _ _ cZ;unfold zj at fZ;have dx:=fZ.cell)
      | (go_at_call 163;refine (HU.o _ o4 cZ).mono ?_;rintro e w4 ⟨rfl,o5,dQ,hs4⟩)
      | fail)
     all_goals
      have n1:=m1.Ar hs4 (by rw[(hs3.tags _ (qj jW).lt).trans tU2];exact HB.o)
      clear d1 dx cW;have d1:=n1.cell;go_wp2_with fail;refine (HS.o _ o5 dQ).mono ?_;rintro e w5 ⟨rfl,o6,hS5,hs5⟩;go_wp2_with fail;go_ret;exact⟨rfl,o6,hS5,(((hs2.trans (Stp.of_below (qf (qd W)))).trans hs3).trans hs4).trans hs5⟩
  ·have e1:=(HRR.o.r2 rfl he2)
   simp only at e1;obtain⟨rfl,rfl⟩:=e1;have hbb:(Re != 0)=true:=by rw[bne_iff_ne];exact he2
   have hb2:(Re==0)=false:=by rw[Qh];exact he2
   clear he2;go_wp2_with fail;go_ret;exact⟨rfl,o3,hS2,H2.o⟩
 ·have e1:=(HRR.o.r1 he)
  simp only at e1;obtain⟨rfl,rfl⟩:=e1;have hbb:(Re != 0)=true:=by rw[bne_iff_ne];exact he
  have hb2:(Re==0)=false:=by rw[Qh];exact he
  clear he;go_wp2_with fail;go_ret;exact⟨rfl,o2,hS1,H1.o⟩
def qll (args:Array Ac)(w:Aa):(callFunc 160 args).run ANa w=.ok (.enter 160 args) w:=enters_of func160 (by kernel_rfl) rfl args w
def qk5 (args:Array Ac)(w:Aa):(callFunc 148 args).run ANa w=.ok (.enter 148 args) w:=enters_of func148 (by kernel_rfl) rfl args w
def LC (h:Av w o y S)(hk:S.ok)(hi:i<S.Au.length)(p j:Nat)(v:Int)(hv:-9223372036854775808<=v/\v<=9223372036854775807) :
  Ab ANa 157 #[ptr y.sb,ptr (y.xb i),Al #[I Z 2,p,j,()],.func (.func 158) #[ptr y.l.h] #[],.func (.func 160) #[ptr y.l.h] #[],v] w
   fun e w'=>e=O (I Z (S.Bs i p j v).e)/\BM y (S.Bs i p j v).S o w w':=by
 have hf:=Am.Co hk hi p;have hl:=xh S i p;have hi1:i<(S.Aq i p).1.Au.length:=by omega
 have hh:=Am.DJ hf hi1 p;have hl2:=mz (S.Aq i p).1 i p;have hi2:i<((S.Aq i p).1.A5 i p).1.Au.length:=by omega
 have hnb:=hf.FO p j;have hu:=Am.Eo hh hi2 ⟨2,p,j,((S.Aq i p).1.H.Cs p j).1⟩ hnb (fun h=>by simp at h)
 refine VS _ _ LN qll 2 p j v ((S.Aq i p).1.H.Cs p j).1 (S.Aq i p).2 ((S.Aq i p).1.H.Cs p j).2 _ ((S.Aq i p).1.A5 i p).2 _ (S.Aq i p).1 (S.Aq i p).1 ((S.Aq i p).1.A5 i p).1 _ _ (S.Bs i p j v) ?_ h hi2
  (fun w1 o1 h1=>gx h1 hk hi p) (fun w1 o1 h1=>(NI h1 hf p j).mono fun _ _ ⟨a,b⟩=>⟨a,h1.EJ b⟩) (fun w1 o1 h1=>Up h1 hf hi1 p) (fun e=>⟨(Ss e).2.2,fun w1 o1 h1=>UZ h1 hf hi1 p e⟩)
  (fun w1 o1 h1=>Uc h1 hh hi2 ⟨2,p,j,((S.Aq i p).1.H.Cs p j).1⟩) (fun w1 o1 h1=>XV h1 hu p j v hv)
 refine⟨fun e=>?_,fun e1 e2=>?_,fun e1 e2 e3=>?_,fun e1 e2 e3 e4=>?_,fun e1 e2 e3 e4=>?_⟩<;>unfold Am.Bs
 ·rw[if_pos e];exact⟨rfl,rfl⟩
 ·rw[if_neg (by simpa using e1),if_pos (by simpa using e2)];exact⟨rfl,rfl⟩
 ·rw[if_neg (by simpa using e1),if_neg (by simpa using e2)];unfold Am.B9;rw[if_pos e3];exact⟨rfl,rfl⟩
 ·rw[if_neg (by simpa using e1),if_neg (by simpa using e2)];unfold Am.B9;rw[if_neg (by rw[e3];simp),if_pos e4];exact⟨rfl,rfl⟩
 ·rw[if_neg (by simpa using e1),if_neg (by simpa using e2)];unfold Am.B9;rw[if_neg (by rw[e3];simp),if_neg (by rw[e4];simp)];exact⟨rfl,rfl⟩
def LD (h:Av w o y S)(hk:S.ok)(hi:i<S.Au.length)(p j q:Nat) :
  Ab ANa 157 #[ptr y.sb,ptr (y.xb i),Al #[I Z 1,p,j,()],.func (.func 150) #[ptr y.l.h] #[],.func (.func 148) #[ptr y.l.h] #[],q] w
   fun e w'=>e=O (I Z (S.DC i p j q).e)/\BM y (S.DC i p j q).S o w w':=by
 have hf:=Am.Co hk hi p;have hl:=xh S i p;have hp:((S.Aq i p).1.h ((S.Aq i p).1.H.AY p j).1).ok:=Am.Eg hf p j;have hlp:((S.Aq i p).1.h ((S.Aq i p).1.H.AY p j).1).Au.length=S.Au.length:=hl;have hi1:i<((S.Aq i p).1.h ((S.Aq i p).1.H.AY p j).1).Au.length:=by omega
 have hh:=Am.DJ hp hi1 p;have hl2:=mz ((S.Aq i p).1.h ((S.Aq i p).1.H.AY p j).1) i p;have hi2:i<(((S.Aq i p).1.h ((S.Aq i p).1.H.AY p j).1).A5 i p).1.Au.length:=by omega
 have hb:=Yk hf.H p j;have hu:=Am.Eo hh hi2 ⟨1,p,j,((S.Aq i p).1.H.AY p j).2.1⟩ (by simp only;omega) (fun _=>by simp only;omega)
 refine VS _ _ LO qk5 1 p j q ((S.Aq i p).1.H.AY p j).2.1 (S.Aq i p).2 ((S.Aq i p).1.H.AY p j).2.2 _ (((S.Aq i p).1.h ((S.Aq i p).1.H.AY p j).1).A5 i p).2 _ (S.Aq i p).1 ((S.Aq i p).1.h ((S.Aq i p).1.H.AY p j).1) (((S.Aq i p).1.h ((S.Aq i p).1.H.AY p j).1).A5 i p).1 _ _ (S.DC i p j q) ?_ h hi2
  (fun w1 o1 h1=>gx h1 hk hi p) (fun w1 o1 h1=>Kq h1 hf p j) (fun w1 o1 h1=>Up h1 hp hi1 p) (fun e=>⟨(Ss e).2.2,fun w1 o1 h1=>UZ h1 hp hi1 p e⟩)
  (fun w1 o1 h1=>Uc h1 hh hi2 ⟨1,p,j,((S.Aq i p).1.H.AY p j).2.1⟩) (fun w1 o1 h1=>Ux h1 hu p j q)
 refine⟨fun e=>?_,fun e1 e2=>?_,fun e1 e2 e3=>?_,fun e1 e2 e3 e4=>?_,fun e1 e2 e3 e4=>?_⟩<;>unfold Am.DC
 ·rw[if_pos e];exact⟨rfl,rfl⟩
 ·rw[if_neg (by simpa using e1),if_pos (by simpa using e2)];exact⟨rfl,rfl⟩
 ·rw[if_neg (by simpa using e1),if_neg (by simpa using e2)];unfold Am.B9;rw[if_pos e3];exact⟨rfl,rfl⟩
 ·rw[if_neg (by simpa using e1),if_neg (by simpa using e2)];unfold Am.B9;rw[if_neg (by rw[e3];simp),if_pos e4];exact⟨rfl,rfl⟩
 ·rw[if_neg (by simpa using e1),if_neg (by simpa using e2)];unfold Am.B9;rw[if_neg (by rw[e3];simp),if_neg (by rw[e4];simp)];exact⟨rfl,rfl⟩
def Hb (S:Am)(i p:Nat)(u:Un)(set:Hp->Hp×Nat):(S.B9 i p u set).v=0:=by unfold Am.B9;split<;>(try split)<;>rfl
def K8 (S:Am)(i p j:Nat)(v:Int):(S.Bs i p j v).v=0:=by
 unfold Am.Bs;split
 ·rfl
 ·split
  ·rfl
  ·exact Hb _ _ _ _ _
def PQ (S:Am)(i p j q:Nat):(S.CM i p j q).v=0:=by
 unfold Am.CM Am.DC;split
 ·rfl
 ·split
  ·rfl
  ·split
   ·rfl
   ·exact Hb _ _ _ _ _
def L2 (S:Am)(i p:Nat):(S.B4 i p).v=0:=by
 unfold Am.B4;split
 ·rfl
 ·exact Hb _ _ _ _ _
def qp8 (args:Array Ac)(w:Aa):(callFunc 159 args).run ANa w=.ok (.enter 159 args) w:=enters_of func159 (by kernel_rfl) rfl args w
def qlb (p j:Nat)(v err:Int)(S4:Am)(h:Av w o y S)
  (ch:∀ w1,Ae w w w1->Ab ANa 157 #[ptr y.sb,ptr (y.xb i),Al #[I Z 2,p,j,()],.func (.func 158) #[ptr y.l.h] #[],.func (.func 160) #[ptr y.l.h] #[],v] w1
   fun e w'=>e=O err/\BM y S4 o w1 w')
  {b1 b2 b3 b4:Nat}(j1:An w b1 #[p] 3)(j2:An w b2 #[j] 3)(j3:An w b3 #[ptr y.sb] 58)(j4:An w b4 #[v] 3) :
  Ab ANa 159 #[ptr (y.xb i),ptr b1,ptr b2,ptr b3,ptr b4] w fun e w'=>e=O (Ak #[(),err])/\BM y S4 o w w':=by
 have fH:∀ (fn:Fn)(first cap:Array Ac)(w:Aa),(Ad fn first cap).run ANa w=.ok (.func fn first cap) w:=fun _ _ _ _=>rfl
 have HC:=Qa ch;obtain⟨vq,vl,vm,jb,_⟩:=h.A3;unfold qm at jb;have c1:=j1.cell;have c2:=j2.cell;clear ch h;go_in;go_upto_region 2 with fail;obtain⟨W,hW⟩:=Ja0 (w.alloc (ANb #[I Z 2,p,j,()] 198));rw[<-hW];have hbW:Ae w w W:=by rw[hW];exact qc (qd w) _
 have jU:An W w #[I Z 2,p,j,()] 198:=by rw[hW];exact An.new w _ _
 have k3:=j3.below hbW j3.lt;have k4:=j4.below hbW j4.lt;have kb:=jb.below hbW jb.lt;clear hW c1 c2 j1 j2 j3 j4 jb;have c3:=k3.cell;have c4:=k4.cell;have cb:=kb.cell;have cU:=jU.cell;have ig:=Qa (HC.o W.drew (qf hbW));go_still_tail 14,(by kernel_rfl)
 change wpList _ _ _ _ _ W.drew;go_wp2_with fail;refine ig.o.mono ?_
 rintro e w2⟨rfl,o2,hS2,hs2⟩
 go_wp2_with fail;go_ret2;exact⟨rfl,o2,hS2,(Stp.of_below (qf hbW)).trans hs2⟩
def Am.write (S:Am)(i p j:Nat)(v:Int):B2:=S.AF i (S.Bs i p j v)
def Am.put (S:Am)(i p j q:Nat):B2:=S.AF i (S.CM i p j q)
def Am.free (S:Am)(i p:Nat):B2:=S.AF i (S.B4 i p)
def qlz (h:Av w o y S) (hk:S.ok) (hi:i<S.Au.length) (p j:Nat) (v:Int) (hv:-9223372036854775808<=v/\v<=9223372036854775807) :
  Ab ANa 96 #[ptr y.sb,i,p,j,v] w fun e w'=>e=O (I Z (S.write i p j v).e)/\BM y (S.write i p j v).S o w w':=by
 have fH:∀ (fn:Fn) (first cap:Array Ac) (w:Aa),(Ad fn first cap).run ANa w=.ok (.func fn first cap) w:=fun _ _ _ _=>rfl
 obtain⟨W,hW⟩:=Ja0 ((((w.alloc (ANb #[ptr y.sb] 58)).alloc (ANb #[p] 3)).alloc (ANb #[j] 3)).alloc (ANb #[v] 3));have hbW:Ae w w W:=by rw[hW];exact qc (qc (qc (qc (qd w) _) _) _) _
 have j1:An W w #[ptr y.sb] 58:=by rw[hW];exact (((An.new w _ _).alloc _).alloc _).alloc _
 have j2:An W (w.1.size+1) #[p] 3:=by rw[hW];exact ((An.Ax _ _ _ _ _ (by simp) rfl).alloc _).alloc _
 have j3:An W (w.1.size+1+1) #[j] 3:=by rw[hW];exact (An.Ax _ _ _ _ _ (by simp) rfl).alloc _
 have j4:An W (w.1.size+1+1+1) #[v] 3:=by rw[hW];exact An.Ax _ _ _ _ _ (by simp) rfl
 have HD:=Qa (ww 159 [ptr (w.1.size+1),ptr (w.1.size+1+1),ptr w,ptr (w.1.size+1+1+1)] (h.below hbW) hk hi qp8 (S.Bs i p j v) (fun _=>bj hk hi p j hv)
  (fun _ w1 o2 hb he2 hS=>by
   rw[K8];exact qlb p j v _ _ hS (fun w2 hb2=>LC (hS.below hb2) hk hi p j v hv) (j2.below hb j2.lt) (j3.below hb j3.lt) (j1.below hb j1.lt) (j4.below hb j4.lt)))
 have HS:=Qa (Stp.of_below (T:=qi y) (o:=o) hbW);unfold Am.write;generalize S.AF i (S.Bs i p j v)=R at *;clear h hbW j1 j2 j3 j4 hk hi;go_in;go_wp2_with fail;rw[<-hW];refine HD.o.mono ?_
 rintro e w2⟨rfl,o2,hS2,hs2⟩
 go_wp2_with fail;go_ret;exact⟨rfl,o2,hS2,HS.o.trans hs2⟩
end
section
variable {w w' : Aa} {o o' : Own} {y : Bl} {S : Am} {i : Nat}
def LP (args:Array Ac)(w:Aa):(callFunc 156 args).run ANa w=.ok (.enter 156 args) w:=enters_of func156 (by kernel_rfl) rfl args w
def MG (q:Nat)(h:Av w o y S)(hk:S.ok)(hq:q≠0/\lk S.H.cur q=none)
  {b1 b2 b3 b4:Nat}(j1:An w b1 #[q] 3)(j2:An w b2 #[ptr y.sb] 58) :
  Ab ANa 156 #[ptr (y.xb i),ptr b1,ptr b2,ptr b3,ptr b4] w fun e w'=>e=O (Ak #[(),I Z 70])/\BM y S o w w':=by
 have HH:=Qa (fun (e:Later w)=>RO (h.below e.2) hk q)
 rw[hq.2]at HH;simp only[Option.isSome_none]at HH;have HS:=Qa h;obtain⟨vq,vl,vm,jb,_⟩:=h.A3;unfold qm at jb;have rY:((q:Int) != 0)=true:=by rw[bne_iff_ne];have:=hq.1;omega
 have l1:=fun (e:Later w)(i:Nat)=>Later.cell j1 e i
 have l2:=fun (e:Later w)(i:Nat)=>Later.cell j2 e i
 have l5:=fun (e:Later w)(i:Nat)=>Later.cell jb e i
 clear h hk hq;go_in;go_upto_region 1 with fail;refine qy (by kernel_rfl) (by kernel_rfl) ?_
 repeat (go_big_quiet_step ((go_at_call 46;exact kv (HH.o _))))
 refine wpQuiet_nil ?_;intro w8 hW0;obtain⟨⟨W0,hb0⟩,hwt⟩:=hW0;have hwt:w8=W0:=hwt;subst hwt;go_wp2_with fail;go_ret2;exact⟨rfl,HS.o.EJ hb0⟩
def Kf (p j q:Nat)(err:Int)(S4:Am)(h:Av w o y S)(hk:S.ok)(hq:¬(q≠0/\lk S.H.cur q=none))
  (ch:∀ w1,Ae w w w1->Ab ANa 157 #[ptr y.sb,ptr (y.xb i),Al #[I Z 1,p,j,()],.func (.func 150) #[ptr y.l.h] #[],.func (.func 148) #[ptr y.l.h] #[],q] w1
   fun e w'=>e=O err/\BM y S4 o w1 w')
  {b1 b2 b3 b4:Nat}(j1:An w b1 #[q] 3)(j2:An w b2 #[ptr y.sb] 58)(j3:An w b3 #[p] 3)(j4:An w b4 #[j] 3) :
  Ab ANa 156 #[ptr (y.xb i),ptr b1,ptr b2,ptr b3,ptr b4] w fun e w'=>e=O (Ak #[(),err])/\BM y S4 o w w':=by
 have fH:∀ (fn:Fn)(first cap:Array Ac)(w:Aa),(Ad fn first cap).run ANa w=.ok (.func fn first cap) w:=fun _ _ _ _=>rfl
 have HC:=Qa ch;obtain⟨vq,vl,vm,jb,_⟩:=h.A3;unfold qm at jb;have HH:=(fun (e:Later w)=>RO (h.below e.2) hk q)
 have hq2:q≠0->(lk S.H.cur q).isSome=true:=fun h0=>by
  cases hl:lk S.H.cur q with
  | none=>exact absurd ⟨h0,hl⟩ hq
  | some ob=>rfl
 have HH:=Qa HH;have oI:=Qa hq2;clear ch h hk hq hq2;go_in;go_upto_region 1 with fail;rcases Nat.eq_zero_or_pos q with hq0|hq0
 ·have rY:((q:Int) != 0)=false:=by rw[hq0];rfl
  have c1:=j1.cell;clear hq0;go_quiet (fail);obtain⟨W0,hW0⟩:=Ja0 (w.drewN nq);have hb0:Ae w w W0:=by rw[hW0];exact zo (qd _) _
  rw[<-hW0];clear hW0 c1;have k1:=j1.below hb0 j1.lt;have k2:=j2.below hb0 j2.lt;have k3:=j3.below hb0 j3.lt;have k4:=j4.below hb0 j4.lt;have kb:=jb.below hb0 jb.lt;have c3:=k3.cell;have c4:=k4.cell;go_upto_region 4 with fail;clear c3 c4;obtain⟨W,hW⟩:=Ja0 (W0.alloc (ANb #[I Z 1,p,j,()] 198));rw[<-hW];have hbW:Ae w w W:=by rw[hW];exact qc hb0 _
  have jU:An W W0 #[I Z 1,p,j,()] 198:=by rw[hW];exact An.new W0 _ _
  have k1:=j1.below hbW j1.lt;have k2:=j2.below hbW j2.lt;have kb:=jb.below hbW jb.lt;clear hW;have c3:=k1.cell;have c4:=k2.cell;have cb:=kb.cell;have cU:=jU.cell;have ig:=Qa (HC.o W.drew (qf hbW));go_still_tail 14,(by kernel_rfl)
  change wpList _ _ _ _ _ W.drew;go_wp2_with fail;refine ig.o.mono ?_;rintro e w2 ⟨rfl,o2,hS2,hs2⟩;go_wp2_with fail;go_ret2;exact⟨rfl,o2,hS2,(Stp.of_below (qf hbW)).trans hs2⟩
 ·have rY:((q:Int) != 0)=true:=by rw[bne_iff_ne];omega
  have vM:=HH.o;rw[oI.o (by omega)]at vM
  have vM:=Qa vM;have l1:=fun (e:Later w)(i:Nat)=>Later.cell j1 e i;have l2:=fun (e:Later w)(i:Nat)=>Later.cell j2 e i;have l5:=fun (e:Later w)(i:Nat)=>Later.cell jb e i;clear hq0 HH oI;refine qy (by kernel_rfl) (by kernel_rfl) ?_
  repeat (go_big_quiet_step ((go_at_call 46;exact kv (vM.o _))))
  refine wpQuiet_nil ?_;intro w8 hW0;obtain⟨⟨W0,hb0⟩,hwt⟩:=hW0;have hwt:w8=W0:=hwt;subst hwt;clear l1 l2 l5;have k1:=j1.below hb0 j1.lt;have k2:=j2.below hb0 j2.lt;have k3:=j3.below hb0 j3.lt;have k4:=j4.below hb0 j4.lt;have kb:=jb.below hb0 jb.lt;have c3:=k3.cell;have c4:=k4.cell;go_upto_region 4 with fail;clear c3 c4;obtain⟨W,hW⟩:=Ja0 (w8.alloc (ANb #[I Z 1,p,j,()] 198));rw[<-hW];have hbW:Ae w w W:=by rw[hW];exact qc hb0 _
  have jU:An W w8 #[I Z 1,p,j,()] 198:=by rw[hW];exact An.new w8 _ _
  have k1:=j1.below hbW j1.lt;have k2:=j2.below hbW j2.lt;have kb:=jb.below hbW jb.lt;clear hW;have c3:=k1.cell;have c4:=k2.cell;have cb:=kb.cell;have cU:=jU.cell;have ig:=Qa (HC.o W.drew (qf hbW));go_still_tail 14,(by kernel_rfl)
  change wpList _ _ _ _ _ W.drew;go_wp2_with fail;refine ig.o.mono ?_;rintro e w2 ⟨rfl,o2,hS2,hs2⟩;go_wp2_with fail;go_ret2;exact⟨rfl,o2,hS2,(Stp.of_below (qf hbW)).trans hs2⟩
def KG (h:Av w o y S) (hk:S.ok) (hi:i<S.Au.length) (p j q:Nat) :
  Ab ANa 94 #[ptr y.sb,i,p,j,q] w fun e w'=>e=O (I Z (S.put i p j q).e)/\BM y (S.put i p j q).S o w w':=by
 have fH:∀ (fn:Fn) (first cap:Array Ac) (w:Aa),(Ad fn first cap).run ANa w=.ok (.func fn first cap) w:=fun _ _ _ _=>rfl
 obtain⟨W,hW⟩:=Ja0 ((((w.alloc (ANb #[ptr y.sb] 58)).alloc (ANb #[p] 3)).alloc (ANb #[j] 3)).alloc (ANb #[q] 3));have hbW:Ae w w W:=by rw[hW];exact qc (qc (qc (qc (qd w) _) _) _) _
 have j1:An W w #[ptr y.sb] 58:=by rw[hW];exact (((An.new w _ _).alloc _).alloc _).alloc _
 have j2:An W (w.1.size+1) #[p] 3:=by rw[hW];exact ((An.Ax _ _ _ _ _ (by simp) rfl).alloc _).alloc _
 have j3:An W (w.1.size+1+1) #[j] 3:=by rw[hW];exact (An.Ax _ _ _ _ _ (by simp) rfl).alloc _
 have j4:An W (w.1.size+1+1+1) #[q] 3:=by rw[hW];exact An.Ax _ _ _ _ _ (by simp) rfl
 have HD:=Qa (ww 156 [ptr (w.1.size+1+1+1),ptr w,ptr (w.1.size+1),ptr (w.1.size+1+1)] (h.below hbW) hk hi LP (S.CM i p j q) (fun _=>Ua hk hi p j q)
  (fun _ w1 o2 hb he2 hS=>by
   rw[PQ];unfold Am.CM;by_cases hq:q≠0/\lk S.H.cur q=none
   ·rw[if_pos hq]
    exact MG q hS hk hq (j4.below hb j4.lt) (j1.below hb j1.lt)
   ·rw[if_neg hq]
    exact Kf p j q _ _ hS hk hq (fun w2 hb2=>LD (hS.below hb2) hk hi p j q) (j4.below hb j4.lt) (j1.below hb j1.lt) (j2.below hb j2.lt) (j3.below hb j3.lt)))
 have HS:=Qa (Stp.of_below (T:=qi y) (o:=o) hbW);unfold Am.put;generalize S.AF i (S.CM i p j q)=R at *;clear h hbW j1 j2 j3 j4 hk hi;go_in;go_wp2_with fail;rw[<-hW];refine HD.o.mono ?_
 rintro e w2⟨rfl,o2,hS2,hs2⟩
 go_wp2_with fail;go_ret;exact⟨rfl,o2,hS2,HS.o.trans hs2⟩
end
section
variable {w w' : Aa} {o o' : Own} {y : Bl} {S : Am} {i : Nat}
def Hw (args:Array Ac)(w:Aa):(callFunc 161 args).run ANa w=.ok (.enter 161 args) w:=enters_of func161 (by kernel_rfl) rfl args w
structure QW (el se:Int)(hb ub:Bool)(S1 S3 S4 S5:Am)(R:B2):Prop where
 r1:el≠0->R.S=S1/\R.e=el
 r3:el=0->hb=false->R.S=S3/\R.e=130
 r4:el=0->hb=true->ub=false->R.S=S4/\R.e=130
 r5:el=0->hb=true->ub=true->R.S=S5/\R.e=se
def qpo (p:Nat)(el se:Int)(hb ub:Bool)(s:BQ)(S1 S3 S4 S5:Am)(R:B2)(hR:QW el se hb ub S1 S3 S4 S5 R)(hx3:i<S3.Au.length)
  (look:Ab ANa 152 #[ptr y.sb,ptr (y.xb i),p] w fun e w'=>e=O (Ak #[ka s,el])/\BM y S1 o w w')
  (hold:∀ w1 o1,Av w1 o1 y S1->Ab ANa 162 #[ptr y.sb,ptr (y.xb i),p] w1 fun e w'=>e=O (.bool hb)/\BM y S3 o1 w1 w')
  (hno:hb=false->S3=S1/\∀ w1 o1,Av w1 o1 y S1->Ab ANa 162 #[ptr y.sb,ptr (y.xb i),p] w1 fun e w'=>e=O (.bool false)/\Ae w1 w1 w')
  (CO:∀ w1 o1,Av w1 o1 y S3->Ab ANa 163 #[ptr (y.lb i),Al #[I Z 3,p,(),()]] w1 fun e w'=>e=O (.bool ub)/\BM y S4 o1 w1 w')
  (free:∀ w1 o1,Av w1 o1 y S4->Ab ANa 164 #[ptr y.l.h,p,true] w1 fun e w'=>e=O se/\BM y S5 o1 w1 w')
  {b1 b2:Nat}(j1:An w b1 #[ptr y.sb] 58)(j2:An w b2 #[p] 3)(t1:o b1=(y.l.id+1,0))(t2:o b2=(y.l.id+1,0)) :
  Ab ANa 161 #[ptr (y.xb i),ptr b1,ptr b2] w fun e w'=>e=O (Ak #[(),R.e])/\BM y R.S o w w':=by
 obtain⟨RS,Rv,Re⟩:=R;have HRR:=Qa hR;have HL:=Qa look;have HH:=Qa hold;have HN:=Qa hno;have HU:=Qa CO;have HF:=Qa free;have HB:=Qa (qp y);have hX2:=Qa (fun w' o' (hS:Av w' o' y S3)=>(hS.Au i _ (Am.AW hx3)).A3)
 have c1:=j1.cell;have c2:=j2.cell;obtain⟨sp,sd,wk,fn⟩:=s;clear hR look hold hno CO free hx3;go_in;go_wp2_with fail;refine HL.o.mono ?_
 rintro e w1⟨rfl,o1,hS1,hs1⟩
 have k1:=j1.Ar hs1 (by rw[t1];exact HB.o)
 have k2:=j2.Ar hs1 (by rw[t2];exact HB.o)
 have u1:o1 b1=(y.l.id+1,0):=(hs1.tags _ j1.lt).trans t1;have u2:o1 b2=(y.l.id+1,0):=(hs1.tags _ j2.lt).trans t2;clear c1 c2 j1 j2 t1 t2;by_cases he:el=0
 ·subst he
  go_upto_region 4 with fail;obtain⟨W,hW⟩:=Ja0 (w1.alloc (ANb #[sp,sd,wk,fn] 82));rw[<-hW];have hbW:Ae w1 w1 W:=by rw[hW];exact qc (qd w1) _
  have k1:=k1.below hbW k1.lt;have k2:=k2.below hbW k2.lt;have hSW:=hS1.below hbW;have iX:=Qa (hs1.trans (Stp.of_below hbW));clear hW hS1 hs1 hbW;have c1:=k1.cell;have c2:=k2.cell
  cases hb with
  | false =>
   obtain⟨rfl,hn9⟩:=HN.o rfl;have e1:=(HRR.o.r3 rfl rfl);simp only at e1;obtain⟨rfl,rfl⟩:=e1;have uC:=Qa (fun (e:Later W)=>hn9 e.1 o1 (hSW.below e.2));have rC:=Qa hSW;have l1:=fun (e:Later W)(i:Nat)=>Later.cell k1 e i;have l2:=fun (e:Later W)(i:Nat)=>Later.cell k2 e i;clear c1 c2 hn9 HH HU HF hX2 hSW;refine qy (by kernel_rfl) (by kernel_rfl) ?_
   repeat (go_big_quiet_step ((go_at_call 162;exact kv (uC.o _))))
   refine wpQuiet_nil ?_;intro w8 hW0;obtain⟨⟨W9,fC⟩,hwt⟩:=hW0;have hwt:w8=W9:=hwt;subst hwt;go_wp2_with fail;go_ret2;exact⟨rfl,o1,rC.o.below fC,iX.o.trans (Stp.of_below fC)⟩
  | true =>
   have mH:=Qa (hSW.below (qf (qd W)));clear hSW
   cases ub with
   | false =>
    have e1:=(HRR.o.r4 rfl rfl rfl);simp only at e1;obtain⟨rfl,rfl⟩:=e1;go_region_with (first
     | (go_at_call 162;refine (HH.o _ o1 mH.o).mono ?_;rintro e w2⟨rfl,o2,hS2,hs2⟩;have m1:=(qj k1).Ar hs2 (by rw[u1];exact HB.o);have m2:=(qj k2).Ar hs2 (by rw[u2];exact HB.o);have d1:=m1.cell;have d2:=m2.cell;obtain⟨vt3,fZ,_⟩:=hX2.o _ _ hS2;unfold zj at fZ;have dx:=fZ.cell)
     | (go_at_call 163;refine (HU.o _ o2 hS2).mono ?_;rintro e w3⟨rfl,o3,cZ,hs3⟩)
     | fail)
    all_goals
     go_wp2_with fail;go_ret2;exact⟨rfl,o3,cZ,((iX.o.trans (Stp.of_below (qf (qd W)))).trans hs2).trans hs3⟩
   | true =>
    have e1:=(HRR.o.r5 rfl rfl rfl);simp only at e1;obtain⟨rfl,rfl⟩:=e1;go_region_with (first
     | (go_at_call 162;refine (HH.o _ o1 mH.o).mono ?_;rintro e w2⟨rfl,o2,hS2,hs2⟩;have m1:=(qj k1).Ar hs2 (by rw[u1];exact HB.o);have m2:=(qj k2).Ar hs2 (by rw[u2];exact HB.o);have d1:=m1.cell;have d2:=m2.cell;obtain⟨vt3,fZ,_⟩:=hX2.o _ _ hS2;unfold zj at fZ;have dx:=fZ.cell)
     | (go_at_call 163;refine (HU.o _ o2 hS2).mono ?_;rintro e w3⟨rfl,o3,cZ,hs3⟩)
     | fail)
    all_goals
     have n1:=m1.Ar hs3 (by rw[(hs2.tags _ (qj k1).lt).trans u1];exact HB.o)
     have n2:=m2.Ar hs3 (by rw[(hs2.tags _ (qj k2).lt).trans u2];exact HB.o)
     obtain⟨vq3,vl3,vm3,jb3,_⟩:=cZ.A3;unfold qm at jb3;clear d1 d2 dx c1 c2;have d1:=n1.cell;have d2:=n2.cell;have d3:=jb3.cell;go_upto_region 6 with fail;have tX:=Qa (HF.o w3.drew o3 (cZ.below (qf (qd w3))));go_region_with (first|(go_at_call 164;refine tX.o.mono ?_;rintro e w4⟨rfl,o4,dQ,hs4⟩)|fail)
     all_goals
      go_wp2_with fail;go_ret2;exact⟨rfl,o4,dQ,(((iX.o.trans (Stp.of_below (qf (qd W)))).trans hs2).trans hs3).trans ((Stp.of_below (qf (qd w3))).trans hs4)⟩
 ·have e1:=(HRR.o.r1 he)
  simp only at e1;obtain⟨rfl,rfl⟩:=e1;have hbb:(Re != 0)=true:=by rw[bne_iff_ne];exact he
  have hb2:(Re==0)=false:=by rw[Qh];exact he
  clear he;go_wp2_with fail;go_ret2;exact⟨rfl,o1,hS1.alloc _,hs1.alloc _⟩
def qp6 (S:Am)(i p:Nat):QW (S.AH i p).2.1 ((((S.AH i p).1.A5 i p).1.Cq i ⟨3,p,0,0⟩).1.H.AX p true).2 ((S.AH i p).1.A5 i p).2 (((S.AH i p).1.A5 i p).1.Cq i ⟨3,p,0,0⟩).2
  (S.AH i p).1 ((S.AH i p).1.A5 i p).1 (((S.AH i p).1.A5 i p).1.Cq i ⟨3,p,0,0⟩).1 ((((S.AH i p).1.A5 i p).1.Cq i ⟨3,p,0,0⟩).1.h ((((S.AH i p).1.A5 i p).1.Cq i ⟨3,p,0,0⟩).1.H.AX p true).1) (S.B4 i p):=by
 refine⟨fun e=>?_,fun e1 e3=>?_,fun e1 e3 e4=>?_,fun e1 e3 e4=>?_⟩<;>unfold Am.B4
 ·rw[if_pos e];exact⟨rfl,rfl⟩
 ·rw[if_neg (by simpa using e1)];unfold Am.B9;rw[if_pos e3];exact⟨rfl,rfl⟩
 ·rw[if_neg (by simpa using e1)];unfold Am.B9;rw[if_neg (by rw[e3];simp),if_pos e4];exact⟨rfl,rfl⟩
 ·rw[if_neg (by simpa using e1)];unfold Am.B9;rw[if_neg (by rw[e3];simp),if_neg (by rw[e4];simp)];exact⟨rfl,rfl⟩
def NR (w:Aa)(a c:Ac)(ta tc:TypeId):Ae w w ((w.alloc (ANb #[a] ta)).alloc (ANb #[c] tc))/\An ((w.alloc (ANb #[a] ta)).alloc (ANb #[c] tc)) w #[a] ta/\An ((w.alloc (ANb #[a] ta)).alloc (ANb #[c] tc)) (w.1.size+1) #[c] tc:=
 ⟨qc (qc (qd w) _) _,(An.new w _ _).alloc _,An.Ax _ _ _ _ _ (by simp) rfl⟩
def qpy (h0:Av w o y S)(hk:S.ok)(hi:i<S.Au.length)(p:Nat) :
  Ab ANa 97 #[ptr y.sb,i,p] w fun e w'=>e=O (I Z (S.free i p).e)/\BM y (S.free i p).S o w w':=by
 have fH:∀ (fn:Fn)(first cap:Array Ac)(w:Aa),(Ad fn first cap).run ANa w=.ok (.func fn first cap) w:=fun _ _ _ _=>rfl
 obtain⟨o1,ho1,dN,hS0⟩:=PRe o w (y.l.id+1,0) (qi y);have h:=h0.retag dN;clear dN
 have hbx:∀ b,w.1.size<=b->o1 b=(y.l.id+1,0):=fun b hb=>by rw[ho1];exact qq hb
 clear ho1 h0;obtain⟨W,hW⟩:=Ja0 ((w.alloc (ANb #[ptr y.sb] 58)).alloc (ANb #[p] 3));have hbj:=NR w (ptr y.sb) (I Z p) 58 3;rw[<-hW]at hbj;obtain⟨hbW,j1,j2⟩:=hbj;have hlk:=Am.D9 hk hi p;have hl1:=cj S i p;have hi1:i<(S.AH i p).1.Au.length:=by omega
 have hl2:=mz (S.AH i p).1 i p;have hi2:i<((S.AH i p).1.A5 i p).1.Au.length:=by omega
 have hu:=Am.Eo (Am.DJ hlk hi1 p) hi2 ⟨3,p,0,0⟩ (by simp) (fun h=>by simp at h)
 have HD:=Qa (ww 161 [ptr w,ptr (w.1.size+1)] (h.below hbW) hk hi Hw (S.B4 i p) (fun _=>lh hk hi p)
  (fun _ w1 o2 hb he2 hS=>by
   rw[L2];exact qpo p _ _ _ _ _ _ _ _ _ (S.B4 i p) (qp6 S i p) hi2 (Ut hS hk hi p) (fun w1 o1 h1=>Up h1 hlk hi1 p) (fun e=>⟨(Ss e).2.2,fun w1 o1 h1=>UZ h1 hlk hi1 p e⟩)
    (fun w1 o1 h1=>Uc h1 (Am.DJ hlk hi1 p) hi2 ⟨3,p,0,0⟩) (fun w1 o1 h1=>gz h1 hu p true) (j1.below hb j1.lt) (j2.below hb j2.lt) ((he2 _ j1.lt).trans (hbx _ (by omega))) ((he2 _ j2.lt).trans (hbx _ (by omega)))))
 have HS:=Qa (hS0.trans (Stp.of_below hbW));unfold Am.free;generalize S.AF i (S.B4 i p)=R at *;clear h hbW j1 j2 hk hi hlk hl1 hi1 hl2 hi2 hu hbx hS0;go_in;go_wp2_with fail;rw[<-hW];refine HD.o.mono ?_
 rintro e w2 ⟨rfl,o2,hS2,hs2⟩
 go_wp2_with fail;go_ret;exact⟨rfl,o2,hS2,HS.o.trans hs2⟩
end
section
variable {w w' : Aa} {o o' : Own} {y : Bl} {S : Am} {i : Nat}
def Am.alloc (S:Am)(i:Nat)(s:BQ):B2:=S.AF i (S.AR i s)
def Am.AA (S:Am)(i q:Nat):B2:=S.AF i (S.BJ i q)
def Am.load (S:Am)(i p:Nat):B2:=S.AF i (S.BZ i p)
def ql7 (h:Av w o y S)(hk:S.ok)(hi:i<S.Au.length)(s:BQ)(hs:s.ok)(hwk:s.AA=false)
  {b1 b2:Nat}(j1:An w b1 #[s.p,s.d,.bool s.AA,.bool s.final] 82)(j2:An w b2 #[ptr y.sb] 58) :
  Ab ANa 144 #[ptr (y.xb i),ptr b1,ptr b2] w fun e w'=>e=O (Ak #[I Z (S.AR i s).v,I Z (S.AR i s).e])/\BM y (S.AR i s).S o w w':=by
 have HR:=Qa (fun w=>fm s hs w)
 have HL:=Qa (fun w' (hw:Ae w w w')=>D2 (h.below hw) hk hi s hs)
 rw[hwk]at j1;have c1:=j1.cell;have c2:=j2.cell;rw[show ka s=Al #[s.p,s.d,false,.bool s.final] from by rw[<-hwk]]at HR HL
 show Ab _ _ _ _ fun e w'=>e=O (Ak #[I Z ((S.Bm i s).2.1:Nat),I Z (S.Bm i s).2.2])/\BM y (S.Bm i s).1 o w w'
 generalize S.Bm i s=R at *;clear h hk hi hs hwk;go_in;go_wp2_with fail;refine (HR.o _).mono ?_
 rintro e w1⟨rfl,hb1⟩
 have c1:=(j1.below hb1 j1.lt).cell;have c2:=(j2.below hb1 j2.lt).cell;go_wp2_with fail;refine (HL.o _ hb1).mono ?_
 rintro e w2⟨rfl,o2,hS2,hs2⟩
 go_wp2_with fail;go_ret2;exact⟨rfl,o2,hS2,(Stp.of_below hb1).trans hs2⟩
def qqr (args:Array Ac)(w:Aa):(callFunc 144 args).run ANa w=.ok (.enter 144 args) w:=enters_of func144 (by kernel_rfl) rfl args w
def ql0 (h:Av w o y S)(hk:S.ok)(hi:i<S.Au.length)(s:BQ)(hs:s.ok)(hwk:s.AA=false) :
  Ab ANa 89 #[ptr y.sb,i,ka s] w fun e w'=>e=O (Ak #[I Z (S.alloc i s).v,I Z (S.alloc i s).e])/\BM y (S.alloc i s).S o w w':=by
 have fH:∀ (fn:Fn)(first cap:Array Ac)(w:Aa),(Ad fn first cap).run ANa w=.ok (.func fn first cap) w:=fun _ _ _ _=>rfl
 have HD:=Qa (fun w' b1 b2 (hw:Ae w w w')(j1:An w' b1 #[s.p,s.d,.bool s.AA,.bool s.final] 82)(j2:An w' b2 #[ptr y.sb] 58) =>
  ww 144 [ptr b1,ptr b2] (h.below hw) hk hi qqr (S.AR i s) (fun _=>uy hk hi hs)
   (fun _ w1 o1 hb _ hS=>ql7 hS hk hi s hs hwk (j1.below hb j1.lt) (j2.below hb j2.lt)))
 unfold Am.alloc;generalize S.AF i (S.AR i s)=R at *;clear h hk hi hs hwk;go_in;go_wp2_with fail;refine (HD.o _ (w.1.size+1) w.1.size (qc (qc (qd w) _) _) (An.Ax _ _ _ _ _ (by simp) rfl) ((An.new w _ _).alloc _)).mono ?_
 rintro e w2⟨rfl,o2,hS2,hs2⟩
 go_wp2_with fail;go_ret2;exact⟨rfl,o2,hS2,(Stp.of_below (qc (qc (qd w) _) _)).trans hs2⟩
def qqm (q:Nat) (h:Av w o y S) (hk:S.ok) (hi:i<S.Au.length)
  {b1 b2:Nat} (j1:An w b1 #[q] 3) (j2:An w b2 #[ptr y.sb] 58) (t1:o b1=(y.l.id+1,0)) (t2:o b2=(y.l.id+1,0)) :
  Ab ANa 147 #[ptr (y.xb i),ptr b1,ptr b2] w fun e w'=>e=O (Ak #[I Z (S.BJ i q).v,I Z (S.BJ i q).e])/\BM y (S.BJ i q).S o w w':=by
 by_cases h0:q=0
 ·subst h0
  have e1:S.BJ i 0=⟨S,0,143⟩:=by unfold Am.BJ;rw[if_pos rfl]
  rw[e1];have c1:=j1.cell;have hfin:=Qa h.Ev;clear h hk hi j1 j2 e1;go_in;go_wp2_with fail;go_ret2;exact⟨rfl,hfin.o⟩
 ·have rY:((q:Int)==0)=false:=by rw[Qh];omega
  obtain⟨vq,vl,vm,jb,_⟩:=h.A3;unfold qm at jb;have HH:=(fun (e:Later w)=>RO (h.below e.2) hk q);have ht1:¬qi y (o b1):=by rw[t1];exact qp y
  have ht2:¬qi y (o b2):=by rw[t2];exact qp y
  have l1:=fun (e:Later w) (i:Nat)=>Later.cell j1 e i;have l2:=fun (e:Later w) (i:Nat)=>Later.cell j2 e i;have l5:=fun (e:Later w) (i:Nat)=>Later.cell jb e i;have c1:=j1.cell;by_cases hr:lk S.H.cur q=none
  ·have e1:S.BJ i q=⟨S,0,70⟩:=by unfold Am.BJ;rw[if_neg h0,if_pos hr]
   rw[e1];rw[hr]at HH;simp only[Option.isSome_none]at HH;have HH:=Qa HH;have hfin:=Qa (fun W (hW:Ae w w W)=>h.EJ hW);clear h hk hi e1 h0 hr;go_in;go_upto_region 3 with fail;refine qy (by kernel_rfl) (by kernel_rfl) ?_
   repeat (go_big_quiet_step ((go_at_call 46;exact kv (HH.o _))))
   refine wpQuiet_nil ?_;intro w8 hW0;obtain⟨⟨W0,hb0⟩,hwt⟩:=hW0;have hwt:w8=W0:=hwt;subst hwt;go_wp2_with fail;go_ret2;exact⟨rfl,hfin.o _ hb0⟩
  ·have hs1:(lk S.H.cur q).isSome=true:=by
    cases hl:lk S.H.cur q with
    | none=>exact absurd hl hr
    | some ob=>rfl
   rw[hs1]at HH;have HH:=Qa HH;have e1:S.BJ i q=if (S.Bm i C1).2.2≠0 then⟨(S.Bm i C1).1,0,(S.Bm i C1).2.2⟩ else⟨(S.Bm i C1).1.h ((S.Bm i C1).1.H.Bj (S.Bm i C1).2.1 0 q).1,(S.Bm i C1).2.1,0⟩:=by unfold Am.BJ;rw[if_neg h0,if_neg hr]
   have HL:=Qa (fun W (hW:Ae w w W)=>show Ab ANa 146 #[ptr y.sb,ptr (y.xb i),Al #[I Z 1,(),true,false]] W fun e w'=>e=O (Ak #[I Z ((S.Bm i C1).2.1:Nat),I Z (S.Bm i C1).2.2])/\BM y (S.Bm i C1).1 o W w' from D2 (h.below hW) hk hi C1 Te);have hk2:=Am.E2 hk hi Te;have HS:=Qa (fun W o2 (h2:Av W o2 y (S.Bm i C1).1)=>Ux h2 hk2 (S.Bm i C1).2.1 0 q);generalize S.BJ i q=RR at *;generalize S.Bm i C1=R at *;obtain⟨S2,tp,er⟩:=R;simp only at HL HS e1;have HRR:=Qa e1;clear h hk hi hr h0 hs1 e1 hk2;go_in;go_upto_region 3 with fail;refine qy (by kernel_rfl) (by kernel_rfl) ?_
   repeat (go_big_quiet_step ((go_at_call 46;exact kv (HH.o _))))
   refine wpQuiet_nil ?_;intro w8 hW0;obtain⟨⟨W0,hb0⟩,hwt⟩:=hW0;have hwt:w8=W0:=hwt;subst hwt;clear l1 l2 l5 c1;have c2:=(j2.below hb0 j2.lt).cell;go_wp2_with fail;refine (HL.o _ hb0).mono ?_;rintro e w2⟨rfl,o2,hS2,hs2⟩;have hst:=(Stp.of_below (T:=qi y) (o:=o) hb0).trans hs2;by_cases he:er=0
   ·subst he
    have k1:=j1.Ar hst ht1;have k2:=j2.Ar hst ht2;obtain⟨vq2,vl2,vm2,kb,_⟩:=hS2.A3;unfold qm at kb;clear c2;have c1:=k1.cell;have c2:=k2.cell;have cb:=kb.cell;have HS2:=Qa (HS.o _ _ (hS2.below (qf (qd w2))));go_upto_region 8 with fail;go_still_tail 6,(by kernel_rfl)
    change wpList _ _ _ _ _ w2.drew;go_wp2_with fail;refine HS2.o.mono ?_;rintro e w3⟨rfl,o3,cZ,hs3⟩;go_wp2_with fail;go_ret2;rw[HRR.o,if_neg (by simp)]
    exact⟨rfl,o3,cZ,(hst.trans (Stp.of_below (qf (qd w2)))).trans hs3⟩
   ·have HE:=Qa he
    have hbb:(er != 0)=true:=by rw[bne_iff_ne];exact he
    have hb2:(er==0)=false:=by rw[Qh];exact he
    clear he;go_wp2_with fail;go_ret2;rw[HRR.o,if_pos HE.o];exact⟨rfl,o2,hS2,hst⟩
def Hz (args:Array Ac)(w:Aa):(callFunc 147 args).run ANa w=.ok (.enter 147 args) w:=enters_of func147 (by kernel_rfl) rfl args w
def qpt (h0:Av w o y S)(hk:S.ok)(hi:i<S.Au.length)(q:Nat) :
  Ab ANa 90 #[ptr y.sb,i,q] w fun e w'=>e=O (Ak #[I Z (S.AA i q).v,I Z (S.AA i q).e])/\BM y (S.AA i q).S o w w':=by
 have fH:∀ (fn:Fn)(first cap:Array Ac)(w:Aa),(Ad fn first cap).run ANa w=.ok (.func fn first cap) w:=fun _ _ _ _=>rfl
 obtain⟨o1,ho1,dN,hS0⟩:=PRe o w (y.l.id+1,0) (qi y);have h:=h0.retag dN;clear dN
 have hbx:∀ b,w.1.size<=b->o1 b=(y.l.id+1,0):=fun b hb=>by rw[ho1];exact qq hb
 clear ho1 h0;obtain⟨W,hW⟩:=Ja0 ((w.alloc (ANb #[ptr y.sb] 58)).alloc (ANb #[q] 3));have hbj:=NR w (ptr y.sb) (I Z q) 58 3;rw[<-hW]at hbj;obtain⟨hbW,j1,j2⟩:=hbj;have HD:=Qa (ww 147 [ptr (w.1.size+1),ptr w] (h.below hbW) hk hi Hz (S.BJ i q) (fun _=>TQ hk hi q)
  (fun _ w1 o2 hb he2 hS=>qqm q hS hk hi (j2.below hb j2.lt) (j1.below hb j1.lt) ((he2 _ j2.lt).trans (hbx _ (by omega))) ((he2 _ j1.lt).trans (hbx _ (by omega)))))
 have HS:=Qa (hS0.trans (Stp.of_below hbW));unfold Am.AA;generalize S.AF i (S.BJ i q)=R at *;clear h hbW j1 j2 hk hi hbx hS0;go_in;go_wp2_with fail;rw[<-hW];refine HD.o.mono ?_
 rintro e w2⟨rfl,o2,hS2,hs2⟩
 go_wp2_with fail;go_ret2;exact⟨rfl,o2,hS2,HS.o.trans hs2⟩
def Hx (args:Array Ac)(w:Aa):(callFunc 151 args).run ANa w=.ok (.enter 151 args) w:=enters_of func151 (by kernel_rfl) rfl args w
def qql (h:Av w o y S) (hk:S.ok) (hi:i<S.Au.length) (p:Nat)
  {b1 b2:Nat} (j1:An w b1 #[ptr y.sb] 58) (j2:An w b2 #[p] 3) (t1:o b1=(y.l.id+1,0)) (t2:o b2=(y.l.id+1,0)) :
  Ab ANa 151 #[ptr (y.xb i),ptr b1,ptr b2] w fun e w'=>e=O (Ak #[I Z (S.BZ i p).v,I Z (S.BZ i p).e])/\BM y (S.BZ i p).S o w w':=by
 have HL:=Qa (Ut h hk hi p);have hk1:=Am.D9 hk hi p;have hl1:=cj S i p;have hi1:i<(S.AH i p).1.Au.length:=by omega
 have HG:=Qa (fun w1 o1 (h1:Av w1 o1 y (S.AH i p).1)=>Kq h1 hk1 p 0)
 have hk2:((S.AH i p).1.h ((S.AH i p).1.H.AY p 0).1).ok:=Am.Eg hk1 p 0;have HK:=Qa (fun w1 o1 (h1:Av w1 o1 y ((S.AH i p).1.h ((S.AH i p).1.H.AY p 0).1))=>P8 h1 hk2 hi1 ((S.AH i p).1.H.AY p 0).2.1)
 have HX:=Qa (fun w1 o1 (h1:Av w1 o1 y ((S.AH i p).1.h ((S.AH i p).1.H.AY p 0).1))=>(h1.Au i _ (Am.AW hi1)).A3)
 have HB:=Qa (qp y);obtain⟨RR,hRR⟩:=Ja0 (S.BZ i p);rw[<-hRR];unfold Am.BZ Am.Df at hRR;generalize S.AH i p=L at *;obtain⟨S1,el,sp,sd,sw,sf⟩:=L;simp only at HL HG HK HX hRR;have c1:=j1.cell;have c2:=j2.cell;generalize S1.H.AY p 0=G at *;obtain⟨H2,q,eg⟩:=G;simp only at HG HK HX hRR;change Q2 (∀ w1 o1,Av w1 o1 y S1->Ab _ _ _ _ fun e w'=>_/\BM y (S1.h H2) o1 w1 w') at HG
 generalize S1.h H2=S2 at *;have HRR:=Qa hRR;clear h hk hi hk1 hl1 hi1 hk2 hRR;by_cases he:el=0
 ·subst he
  cases sw with
  | false =>
   rw[HRR.o,if_neg (by simp),if_pos rfl]
   go_in;go_wp2_with fail;refine HL.o.mono ?_;rintro e w1 ⟨rfl,o1,hS1,hs1⟩;go_wp2_with fail;go_ret2;exact⟨rfl,o1,hS1.alloc _,hs1.alloc _⟩
  | true =>
   go_in;go_wp2_with fail;refine HL.o.mono ?_;rintro e w1 ⟨rfl,o1,hS1,hs1⟩;obtain⟨W1,hW1⟩:=Ja0 (w1.alloc (ANb #[sp,sd,true,sf] 82));have hb1:Ae w1 w1 W1:=by rw[hW1];exact qc (qd w1) _
   have hSW:=hS1.below hb1;have bX:=hs1.trans (Stp.of_below (T:=qi y) (o:=o1) hb1);have k1:=(j1.Ar hs1 (by rw[t1];exact HB.o)).below hb1 (j1.Ar hs1 (by rw[t1];exact HB.o)).lt
   have k2:=(j2.Ar hs1 (by rw[t2];exact HB.o)).below hb1 (j2.Ar hs1 (by rw[t2];exact HB.o)).lt
   have u1:o1 b1=(y.l.id+1,0):=(hs1.tags _ j1.lt).trans t1;have u2:o1 b2=(y.l.id+1,0):=(hs1.tags _ j2.lt).trans t2;obtain⟨vq,vl,vm,kb,_⟩:=hSW.A3;unfold qm at kb;clear c1 c2 hS1 hs1 hb1;go_upto_region 6 with fail;rw[<-hW1];clear hW1;have c1:W1.cell? ⟨b1,0,none⟩=some (ptr y.sb):=k1.cell 0;have c2:W1.cell? ⟨b2,0,none⟩=some (I Z p):=k2.cell 0;have cb:W1.cell? ⟨y.sb,0,none⟩=some (ptr y.l.h):=kb.cell 0;have HG2:=Qa (HG.o _ _ (hSW.below (qf (qd W1))));have HsW:=Qa bX;have HKc:=Qa (fun (w2:Aa) (o2:Own) (hs2:Stp (qi y) o1 o2 W1.drew w2) =>
    show w2.cell? ⟨b1,0,none⟩=some (ptr y.sb)/\w2.cell? ⟨b2,0,none⟩=some (I Z p) from
     ⟨((qj k1).Ar hs2 (by rw[u1];exact HB.o)).cell 0,((qj k2).Ar hs2 (by rw[u2];exact HB.o)).cell 0⟩)
   have vU:=Qa (fun (w2:Aa) (o2:Own) (h2:Av w2 o2 y S2)=>show w2.cell? ⟨y.sb,0,none⟩=some (ptr y.l.h) from by
    obtain⟨_,_,_,lM,_⟩:=h2.A3;exact lM.cell 0)
   clear hSW bX HL k1 k2 kb u1 u2;go_region_held3 (fun w'=>w'.cell? ⟨b1,0,none⟩=some (ptr y.sb)/\w'.cell? ⟨b2,0,none⟩=some (I Z p)/\w'.cell? ⟨y.sb,0,none⟩=some (ptr y.l.h)) (first|exact⟨by assumption,by assumption,by assumption⟩|go_keep) (first
    | (go_at_call 150;refine HG2.o.mono ?_;rintro e w2 ⟨rfl,o2,hS2,hs2⟩;obtain⟨d1,d2⟩:=HKc.o _ _ hs2;have db:=vU.o _ _ hS2)
    | fail)
   all_goals
    have hst:=HsW.o.trans ((Stp.of_below (qf (qd W1))).trans hs2);by_cases heg:eg=0
    ·subst heg
     by_cases h0:q=0
     ·subst h0
      go_wp2_with fail;go_ret2;rw[HRR.o,if_neg (by simp),if_neg (by simp),if_neg (by simp),if_pos (by simp)]
      exact⟨rfl,o2,hS2,hst⟩
     ·have HE:=Qa h0
      have rY:((q:Int) != 0)=true:=by rw[bne_iff_ne];omega
      have HK2:=Qa (HK.o _ _ hS2);obtain⟨vt,jx,_⟩:=HX.o _ _ hS2;unfold zj at jx;have cx:=jx.cell;clear HK;generalize yn (S2.t i).log.keeps q (S2.t i).log.mr=nb at *;clear h0
      cases nb
      all_goals
       go_wp2_with fail;refine HK2.o.mono ?_;rintro e w3 ⟨rfl,o3,cZ,hs3⟩;go_wp2_with fail;go_ret2;rw[HRR.o,if_neg (by simp),if_neg (by simp),if_neg (by simp),if_neg HE.o]
       simp only[if_true,aF,if_false];exact⟨rfl,o3,cZ,hst.trans hs3⟩
    ·have heI:((eg:Nat):Int)≠0:=by omega
     have HE:=Qa heg;have hbb:((eg:Int) != 0)=true:=by rw[bne_iff_ne];exact heI
     have hb2:((eg:Int)==0)=false:=by rw[Qh];exact heI
     clear heI heg;go_wp2_with fail;go_ret2;rw[HRR.o,if_neg (by simp),if_neg (by simp),if_pos HE.o]
     exact⟨rfl,o2,hS2,hst⟩
 ·rw[HRR.o,if_pos he]
  have hbb:(el != 0)=true:=by rw[bne_iff_ne];exact he
  have hb2:(el==0)=false:=by rw[Qh];exact he
  clear he;go_in;go_wp2_with fail;refine HL.o.mono ?_;rintro e w1 ⟨rfl,o1,hS1,hs1⟩;go_wp2_with fail;go_ret2;exact⟨rfl,o1,hS1.alloc _,hs1.alloc _⟩
def qpr (h0:Av w o y S)(hk:S.ok)(hi:i<S.Au.length)(p:Nat) :
  Ab ANa 92 #[ptr y.sb,i,p] w fun e w'=>e=O (Ak #[I Z (S.load i p).v,I Z (S.load i p).e])/\BM y (S.load i p).S o w w':=by
 have fH:∀ (fn:Fn)(first cap:Array Ac)(w:Aa),(Ad fn first cap).run ANa w=.ok (.func fn first cap) w:=fun _ _ _ _=>rfl
 obtain⟨o1,ho1,dN,hS0⟩:=PRe o w (y.l.id+1,0) (qi y);have h:=h0.retag dN;clear dN
 have hbx:∀ b,w.1.size<=b->o1 b=(y.l.id+1,0):=fun b hb=>by rw[ho1];exact qq hb
 clear ho1 h0;obtain⟨W,hW⟩:=Ja0 ((w.alloc (ANb #[ptr y.sb] 58)).alloc (ANb #[p] 3));have hbj:=NR w (ptr y.sb) (I Z p) 58 3;rw[<-hW]at hbj;obtain⟨hbW,j1,j2⟩:=hbj;have HD:=Qa (ww 151 [ptr w,ptr (w.1.size+1)] (h.below hbW) hk hi Hx (S.BZ i p) (fun _=>lf hk hi p)
  (fun _ w1 o2 hb he2 hS=>qql hS hk hi p (j1.below hb j1.lt) (j2.below hb j2.lt) ((he2 _ j1.lt).trans (hbx _ (by omega))) ((he2 _ j2.lt).trans (hbx _ (by omega)))))
 have HS:=Qa (hS0.trans (Stp.of_below hbW));unfold Am.load;generalize S.AF i (S.BZ i p)=R at *;clear h hbW j1 j2 hk hi hbx hS0;go_in;go_wp2_with fail;rw[<-hW];refine HD.o.mono ?_
 rintro e w2⟨rfl,o2,hS2,hs2⟩
 go_wp2_with fail;go_ret2;exact⟨rfl,o2,hS2,HS.o.trans hs2⟩
end
section
variable {w w' : Aa} {o o' : Own} {y : Bl} {S : Am} {i : Nat}
def qpg (h:Av w o y S)(hk:S.ok)(hi:i<S.Au.length){b1:Nat}(j1:An w b1 #[ptr y.sb] 58)(t1:o b1=(y.l.id+1,0)) :
  Ab ANa 154 #[ptr (y.xb i),ptr b1] w fun e w'=>e=O (Ak #[I Z (S.Bp i).v,I Z (S.Bp i).e])/\BM y (S.Bp i).S o w w':=by
 unfold Am.Bp;by_cases hc:S.Aw≠-1/\S.Aw≠(i:Int)\/(S.t i).start<S.version
 ·rw[if_pos hc]
  exact (qjk h hi hc j1).mono fun _ _ ⟨a,b⟩=>⟨a,h.EJ b⟩
 ·rw[if_neg hc]
  have hn:S.Aw=-1\/S.Aw=(i:Int):=by omega
  have hv:S.version<=(S.t i).start:=by omega
  split
  ·rename_i hq
   exact We h hi hn hv (.inl hq) j1 t1
  ·rename_i z l hq
   split
   ·rename_i hz
    exact We h hi hn hv (.inr ⟨z,l,hq,hz⟩) j1 t1
   ·rename_i hz
    exact qqt h hk hi hn hv hq (by omega) j1 t1
def Hy (args:Array Ac)(w:Aa):(callFunc 154 args).run ANa w=.ok (.enter 154 args) w:=enters_of func154 (by kernel_rfl) rfl args w
def qqe (h0:Av w o y S)(hk:S.ok)(hi:i<S.Au.length) :
  Ab ANa 93 #[ptr y.sb,i] w fun e w'=>e=O (Ak #[I Z (S.take i).v,I Z (S.take i).e])/\BM y (S.take i).S o w w':=by
 have fH:∀ (fn:Fn)(first cap:Array Ac)(w:Aa),(Ad fn first cap).run ANa w=.ok (.func fn first cap) w:=fun _ _ _ _=>rfl
 obtain⟨o1,ho1,dN,hS0⟩:=PRe o w (y.l.id+1,0) (qi y);have h:=h0.retag dN;clear dN
 have hbx:o1 w=(y.l.id+1,0):=by rw[ho1];exact qq (Qk _)
 clear ho1 h0;have j1:=An.new w #[ptr y.sb] 58;have HD:=Qa (ww 154 [ptr w] (h.below (qc (qd w) (ANb #[ptr y.sb] 58))) hk hi Hy (S.Bp i) (fun _=>fy hk hi)
  (fun _ w1 o2 hb he2 hS=>qpg hS hk hi (j1.below hb j1.lt) ((he2 _ j1.lt).trans hbx)))
 have HS:=Qa (hS0.trans (Stp.of_below (qc (qd w) (ANb #[ptr y.sb] 58))));unfold Am.take;generalize S.AF i (S.Bp i)=R at *;clear h hbx hS0 j1 hk hi;go_in;go_wp2_with fail;refine HD.o.mono ?_
 rintro e w2⟨rfl,o2,hS2,hs2⟩
 go_wp2_with fail;go_ret2;exact⟨rfl,o2,hS2,HS.o.trans hs2⟩
end
section
variable {w w' : Aa} {o o' : Own} {y : Bl} {S : Am} {i : Nat}
def VX (hk:S.ok)(hi:i<S.Au.length):Good S.Au.length (S.Bq i):=by
 unfold Am.Bq Am.AF
 cases hl:(S.t i).live with
 | false=>rw[if_neg (by simp)];exact⟨hk,rfl⟩
 | true =>
  rw[if_pos rfl];have hg:=gy hk hi hl;exact⟨Am.JZ hg.1 (by have:=hg.2;omega),by rw[YL];exact hg.2⟩
def qi7 (h:Av w o y S)(hk:S.ok)(hi:i<S.Au.length)(hl:(S.t i).live=true){b1:Nat}(j1:An w b1 #[ptr y.sb] 58)(t1:o b1=(y.l.id+1,0)) :
  Ab ANa 137 #[ptr (y.xb i),ptr b1] w fun e w'=>e=O (Ak #[I Z (S.AJ i).v,I Z (S.AJ i).e])/\BM y (S.AJ i).S o w w':=by
 by_cases hw:(S.t i).log.holds=[]/\S.Aw≠(i:Int)
 ·have e1:S.AJ i=⟨S.tx i (S.t i).ended,0,0⟩:=by unfold Am.AJ;rw[if_pos hw]
  rw[e1];exact qhq h hk hi hw.1 hw.2 j1
 ·exact qfu h hk hi hl hw j1 t1
def qkc (h0:Av w o y S)(hk:S.ok)(hi:i<S.Au.length) :
  Ab ANa 83 #[ptr y.sb,i] w fun e w'=>e=O (Ak #[I Z (S.Bq i).v,I Z (S.Bq i).e])/\BM y (S.Bq i).S o w w':=by
 have fH:∀ (fn:Fn)(first cap:Array Ac)(w:Aa),(Ad fn first cap).run ANa w=.ok (.func fn first cap) w:=fun _ _ _ _=>rfl
 obtain⟨o1,ho1,dN,hS0⟩:=PRe o w (y.l.id+1,0) (qi y);have h:=h0.retag dN;clear dN
 have hbx:o1 w=(y.l.id+1,0):=by rw[ho1];exact qq (Qk _)
 clear ho1 h0;have j1:=An.new w #[ptr y.sb] 58;have HD:=Qa (ww 137 [ptr w] (h.below (qc (qd w) (ANb #[ptr y.sb] 58))) hk hi qmx (S.AJ i) (fun hl=>gy hk hi hl)
  (fun hl w1 o2 hb he2 hS=>qi7 hS hk hi hl (j1.below hb j1.lt) ((he2 _ j1.lt).trans hbx)))
 have HS:=Qa (hS0.trans (Stp.of_below (qc (qd w) (ANb #[ptr y.sb] 58))));unfold Am.Bq;generalize S.AF i (S.AJ i)=R at *;clear h hbx hS0 j1 hk hi;go_in;go_wp2_with fail;refine HD.o.mono ?_
 rintro e w2⟨rfl,o2,hS2,hs2⟩
 go_wp2_with fail;go_ret2;exact⟨rfl,o2,hS2,HS.o.trans hs2⟩
def qk6 (h:Av w o y S)(hk:S.ok)(hi:i<S.Au.length) :
  Ab ANa 98 #[ptr y.sb,i] w fun e w'=>e=O (I Z (S.Dx i).2)/\BM y (S.Dx i).1 o w w':=by
 have HT:=Qa (ye h hk (Am.AW hi));have HA:=Qa (WX h hk hi);have H:=Qa h;unfold Am.Dx;clear h hk hi
 cases hl:(S.t i).live
 ·rw[hl]at HT
  simp only[if_false,aF]at HT ⊢;have hfin:=Qa H.o.Ev;clear hl HA H;go_in;go_wp2_with fail;refine HT.o.mono ?_;rintro e w1⟨rfl,rfl⟩;go_wp2_with fail;go_ret;exact⟨rfl,hfin.o⟩
 ·rw[hl]at HT
  simp only[if_true]at HT ⊢;generalize S.abort i=S2 at *;clear hl H;go_in;go_wp2_with fail;refine HT.o.mono ?_;rintro e w1⟨rfl,rfl⟩;go_wp2_with fail;refine HA.o.mono ?_;rintro e w2⟨rfl,hl2⟩;go_wp2_with fail;go_ret;exact⟨rfl,hl2⟩
def Av.EE (h:Av w o y S)(h1:1<=S.Au.length):∃ g cap,y.FE=Ai (some ⟨g,0,none⟩) S.Au.length cap/\(∀ k,k<S.Au.length->w.cell? ⟨g,k,none⟩=some (ptr (y.xb k)))/\S.Au.length<=cap:=by
 obtain⟨g,cap,e,_,hc⟩:=h.Ep 0 (by omega)
 refine⟨g,cap,e,fun k hk=>?_,hc⟩
 obtain⟨g',cap',e',hk',_⟩:=h.Ep k hk;rw[e]at e';injection e' with e1 _ _;injection e1 with e1;injection e1 with e1 _ _;rw[e1];exact hk'
def qk8 (h:Av w o y S)(hk:S.ok)(hi:i<S.Au.length)(hl:(S.t i).live=true) :
  Ab ANa 81 #[ptr y.sb,i] w fun e w'=>e=O (I Z 140)/\w=w':=by
 have HT:=Qa (T8 h hk hi);obtain⟨vt,jx,_⟩:=(h.Au i _ (Am.AW hi)).A3;unfold zj at jx;have c:=jx.cell;rw[hl]at c;clear h hk hi;go_in;go_wp2_with fail;refine HT.o.mono ?_
 rintro e w1⟨rfl,rfl⟩
 go_wp2_with fail;go_ret;exact⟨rfl,rfl⟩
def GH (l:List Tx)(k n:Nat):Prop:=k<=l.length/\n=jj (l.take k)/\n<=k
def GH.z (l:List Tx):GH l 0 0:=⟨aj _,rfl,Qk _⟩
def Ws (l:List Tx)(z:Tx):jj (l++[z])=jj l+if z.live then 1 else 0:=by
 unfold jj;rw[List.filter_append,Qd]
 cases hz:z.live<;>simp[hz]
def GH.t {l:List Tx}{k n:Nat}(h:GH l k n){z:Tx}(hz:l[k]?=some z)(hl:z.live=true):GH l (k+1) (n+1):=by
 obtain⟨hk,he⟩:=Qc.1 hz;refine⟨hk,?_,by have:=h.2.2;omega⟩
 rw[aD hk,Ws,he,hl,if_pos rfl,<-h.2.1]
def GH.f {l:List Tx}{k n:Nat}(h:GH l k n){z:Tx}(hz:l[k]?=some z)(hl:z.live=false):GH l (k+1) n:=by
 obtain⟨hk,he⟩:=Qc.1 hz;refine⟨hk,?_,by have:=h.2.2;omega⟩
 rw[aD hk,Ws,he,hl,if_neg (by simp),<-h.2.1];rfl
def GH.e {l:List Tx}{n:Nat}(h:GH l l.length n):n=jj l:=by have:=h.2.1;rwa [aa]at this
def G5 (h:Av w o y S)(hk:S.ok)(hi:i<S.Au.length)(hl:(S.t i).live=false) :
  Ab ANa 81 #[ptr y.sb,i] w fun e w'=>e=O (I Z (S.AS i).2)/\BM y (S.AS i).1 o w w':=by
 have hx:=Am.AW hi;have HB1:=Qa (fun (hm:S.now+(jj S.Au+1)<=S.most)=>show S.AS i=(S.tx i ((S.t i).begun S.now S.next),0) from by unfold Am.AS;rw[if_neg (by rw[hl];simp),if_pos hm])
 have HB2:=Qa (fun (hm:¬S.now+(jj S.Au+1)<=S.most)=>show S.AS i=(S,120) from by unfold Am.AS;rw[if_neg (by rw[hl];simp),if_neg hm])
 generalize S.AS i=R at *;have HT:=Qa (T8 h hk hi);have HI:=Qa h;have HX:=Qa (h.Au i _ hx);obtain⟨vt,jx,hrow⟩:=(h.Au i _ hx).A3;unfold zj at jx;have qY:=Qa hrow;have cx:=jx.cell;rw[hl]at cx;obtain⟨g,cap,ev,hcs,hcap⟩:=h.EE hk.t1;obtain⟨vq,v14,v15,jb,_⟩:=h.A3;unfold qm at jb;rw[ev]at jb;have c:=jb.cell;have hn1:=hk.n1;have hn2:=hk.n2;have h8:=hk.t8;have HM:=Qa (fun (k:Nat)(hk:k<=9)=>LF h.ck (k:Int) (by omega) (by omega) (by omega) (by omega))
 have HMd:=Qa (fun (k:Nat)(hk:S.now+k<=S.most)=>show decide ((k:Int)<=(S.most:Int)-(S.now:Int))=true from by rw[decide_eq_true_eq];omega)
 have HMn:=Qa (fun (k:Nat)(hk:¬S.now+k<=S.most)=>show decide ((k:Int)<=(S.most:Int)-(S.now:Int))=false from by rw[decide_eq_false_iff_not];omega)
 have HN:=Qa (fun w' (hw:Ae w w w')=>U1 (h.ck.below hw h.ck.lt))
 have HXS:=Qa (fun k (hk:k<S.Au.length)=>show ∃ z,S.Au[k]?=some z/\∃ vt,(∀ j,w.cell? ⟨y.xb k,j,none⟩=(#[k,.bool z.live,z.start,z.seen,ptr (y.lb k),vt]:Array Ac)[j]?) from by
  obtain⟨vt,jz,_⟩:=(h.Au k _ (Qb hk)).A3;exact⟨S.Au[k],Qb hk,vt,jz.cell⟩)
 have hcs:=Qa hcs;clear h hk hi hx hn1 hn2 hrow;go_in;go_wp2_with fail;refine HT.o.mono ?_
 rintro e w1 ⟨rfl,rfl⟩
 go_wp2_with fail;go_loopw [25,6,8] (fun ix cn _ wr=>∃ k n:Nat,ix=I Z k/\cn=I Z n/\GH S.Au k n/\wr=w) (fun ix _ _ _=>S.Au.length-(intOf ix).toNat)
 case atStart=>exact⟨0,0,rfl,rfl,GH.z _,rfl⟩
 case round =>
  obtain⟨k,n,rfl,rfl,hJ,rfl⟩:=hrel;have HJ:=Qa hJ;have hkl:=hJ.1;have hnk:=hJ.2.2;clear hJ;by_cases hlt:k<S.Au.length
  ·have ck:=hcs.o k hlt
   obtain⟨z,hz,vz,cz⟩:=HXS.o k hlt;have hI:(k:Int)<(S.Au.length:Int):=by omega
   cases hzl:z.live
   ·rw[hzl]at cz
    have HJ2:=Qa (HJ.o.f hz hzl);clear hz hzl;go_wp2_with fail;go_roundw
    case rel=>exact⟨k+1,n,by simp,rfl,HJ2.o,trivial⟩
    case measure=>simp[intOf];omega
   ·rw[hzl]at cz
    have nX:(n:Int)<9:=by omega
    have HJ2:=Qa (HJ.o.t hz hzl);clear hz hzl;go_wp2_with fail;go_roundw
    case rel=>exact⟨k+1,n+1,by simp,by simp,HJ2.o,trivial⟩
    case measure=>simp[intOf];omega
  ·obtain rfl:k=S.Au.length:=by omega
   have nX:(n:Int)<9:=by omega
   have hne:=HJ.o.e;have eQ:=Qa (HM.o (n+1) (by omega))
   by_cases hm:S.now+(n+1)<=S.most
   ·rw[HMd.o (n+1) hm,show ((n+1:Nat):Int)=(n:Int)+1 from by omega]at eQ
    have HR:=Qa (HB1.o (by rw[<-hne];exact hm))
    clear hm hne;go_wp2_with fail;refine eQ.o.mono ?_;rintro e w2 ⟨rfl,hb2⟩;have jx2:=jx.below hb2 jx.lt;rw[hl]at jx2;have lM:=jb.below hb2 jb.lt;clear cx c eQ;have cx:=jx2.cell;have zx:=jx2.free;have sx:=jx2.lt;have c:=lM.cell;have sb:=lM.lt;have nsb:y.sb≠y.xb i:=fun e=>by have h1:=HI.o.os;rw[e,HX.o.ob]at h1;injection h1 with _ h1;omega
    have uC:=Qa (HN.o w2.drew (qf hb2));have hfin:=Qa (show BM y (S.tx i ((S.t i).begun S.now S.next)) o wr (((w2.setCell ⟨y.xb i,1,none⟩ (.bool true)).setCell ⟨y.xb i,2,none⟩ (I Z S.now)).setCell ⟨y.xb i,3,none⟩ (I Z S.next)).drew from by
     have ob:=HX.o.ob;have hs0:Stp (fun t=>t=(y.l.id,16+8*i)) o o w2 (((w2.setCell ⟨y.xb i,1,none⟩ (.bool true)).setCell ⟨y.xb i,2,none⟩ (I Z S.now)).setCell ⟨y.xb i,3,none⟩ (I Z S.next)).drew:=
      ((((Stp.refl _ o w2).setCell (by show o (y.xb i)=_;exact ob) _).setCell (by show o (y.xb i)=_;exact ob) _).setCell (by show o (y.xb i)=_;exact ob) _).drew
     have hs:Stp (ux y i) o o wr _:=(Stp.of_below hb2).trans (hs0.mono (by rintro _ rfl;exact⟨rfl,by simp,by simp⟩))
     obtain⟨vr,vk,vh,vu,hlg⟩:=HX.o.log;refine⟨o,HI.o.tx ⟨⟨vt,qj (((jx2.set 1 _).set 2 _).set 3 _),(qY.o.below hb2).Ar hs0 (by simp)⟩,⟨vr,vk,vh,vu,(hlg.below hb2).Ar hs0 fun j hj=>by simp;omega⟩,ob⟩ hs,hs.mono fun _=>Sz⟩)
    go_upto_region 13 with fail;go_region_with (first|(go_at_call 64;refine uC.o.mono ?_;rintro e w3 ⟨rfl,rfl⟩)|fail)
    all_goals
     go_wp2_with fail;go_ret;rw[HR.o];exact⟨rfl,hfin.o⟩
   ·rw[HMn.o (n+1) hm,show ((n+1:Nat):Int)=(n:Int)+1 from by omega]at eQ
    have HR:=Qa (HB2.o (by rw[<-hne];exact hm))
    have HL:=Qa (fun W (hb:Ae wr wr W)=>HI.o.EJ hb);clear hm hne;go_wp2_with fail;refine eQ.o.mono ?_;rintro e w2 ⟨rfl,hb2⟩;go_wp2_with fail;go_ret;rw[HR.o];exact⟨rfl,HL.o _ hb2⟩
def qlk (h:Av w o y S)(hk:S.ok)(hi:i<S.Au.length) :
  Ab ANa 81 #[ptr y.sb,i] w fun e w'=>e=O (I Z (S.AS i).2)/\BM y (S.AS i).1 o w w':=by
 cases hl:(S.t i).live with
 | false=>exact G5 h hk hi hl
 | true =>
  have e1:S.AS i=(S,140):=by unfold Am.AS;rw[if_pos hl]
  rw[e1];refine (qk8 h hk hi hl).mono ?_;rintro e w'⟨rfl,rfl⟩;exact⟨rfl,h.Ev⟩
end
end
section
open Go.RowKit Hp
def Inv (S:Am):Prop:=S.ok
def Inv.ok {S:Am}(h:Inv S):S.ok:=h
def Am.DY (S:Am)(i:Nat):Bool:=decide (i<S.Au.length)
def zz {S:Am}{i:Nat}(h:S.DY i=true):i<S.Au.length:=of_decide_eq_true h
def EL (_:Am)(_:Nat):Prop:=True
def VA (S:Am)(p:Nat):EL S p:=trivial
section
variable {w w' : Aa} {o o' : Own} {y : Bl} {S : Am} {i : Nat}
def Left (y:Bl)(S:Am)(o:Own)(w w':Aa):Prop:=∃ o',Av w' o' y S/\Inv S/\Stp (qi y) o o' w w'
def BM.left (h:BM y S o w w')(hk:S.ok):Left y S o w w':=by
 obtain⟨o',h1,h2⟩:=h;exact⟨o',h1,hk,h2⟩
def LA (h:Av w o y S)(hI:Inv S)(hc:S.DY i=true){p:Nat}(_:EL S p)(j:Nat)(v:Int)(hv:-9223372036854775808<=v/\v<=9223372036854775807) :
  Ab ANa 96 #[ptr y.sb,i,p,j,v] w fun e w'=>e=O (I Z (S.write i p j v).e)/\Left y (S.write i p j v).S o w w':=
 (qlz h hI (zz hc) p j v hv).mono fun _ _⟨a,b⟩=>⟨a,b.left (Good.BW hI (zz hc) (bj hI (zz hc) p j hv)).1⟩
def Q9 (h:Av w o y S)(hI:Inv S)(hc:S.DY i=true){p q:Nat}(_:EL S p)(_:EL S q)(j:Nat) :
  Ab ANa 94 #[ptr y.sb,i,p,j,q] w fun e w'=>e=O (I Z (S.put i p j q).e)/\Left y (S.put i p j q).S o w w':=
 (KG h hI (zz hc) p j q).mono fun _ _⟨a,b⟩=>⟨a,b.left (Good.BW hI (zz hc) (Ua hI (zz hc) p j q)).1⟩
def NX (h:Av w o y S)(hI:Inv S)(hc:S.DY i=true){p:Nat}(_:EL S p)(j:Nat) :
  Ab ANa 95 #[ptr y.sb,i,p,j] w fun e w'=>e=O (Ak #[I Z (S.read i p j).v,I Z (S.read i p j).e])/\Left y (S.read i p j).S o w w':=
 (qpf h hI (zz hc) p j).mono fun _ _⟨a,b⟩=>⟨a,b.left (Good.BW hI (zz hc) (ly hI (zz hc) p j)).1⟩
def Q8 (h:Av w o y S)(hI:Inv S)(hc:S.DY i=true){p:Nat}(_:EL S p)(j:Nat) :
  Ab ANa 91 #[ptr y.sb,i,p,j] w fun e w'=>e=O (Ak #[I Z (S.get i p j).v,I Z (S.get i p j).e])/\Left y (S.get i p j).S o w w':=
 (KE h hI (zz hc) p j).mono fun _ _⟨a,b⟩=>⟨a,b.left (Good.BW hI (zz hc) (T4 hI (zz hc) p j)).1⟩
def NU (h:Av w o y S)(hI:Inv S)(hc:S.DY i=true){p:Nat}(_:EL S p) :
  Ab ANa 97 #[ptr y.sb,i,p] w fun e w'=>e=O (I Z (S.free i p).e)/\Left y (S.free i p).S o w w':=
 (qpy h hI (zz hc) p).mono fun _ _⟨a,b⟩=>⟨a,b.left (Good.BW hI (zz hc) (lh hI (zz hc) p)).1⟩
def YE (h:Av w o y S)(hI:Inv S)(hc:S.DY i=true)(s:BQ)(hs:s.ok)(hwk:s.AA=false) :
  Ab ANa 89 #[ptr y.sb,i,ka s] w fun e w'=>e=O (Ak #[I Z (S.alloc i s).v,I Z (S.alloc i s).e])/\Left y (S.alloc i s).S o w w':=
 (ql0 h hI (zz hc) s hs hwk).mono fun _ _⟨a,b⟩=>⟨a,b.left (Good.BW hI (zz hc) (uy hI (zz hc) hs)).1⟩
def NZ (h:Av w o y S)(hI:Inv S)(hc:S.DY i=true){q:Nat}(_:EL S q) :
  Ab ANa 90 #[ptr y.sb,i,q] w fun e w'=>e=O (Ak #[I Z (S.AA i q).v,I Z (S.AA i q).e])/\Left y (S.AA i q).S o w w':=
 (qpt h hI (zz hc) q).mono fun _ _⟨a,b⟩=>⟨a,b.left (Good.BW hI (zz hc) (TQ hI (zz hc) q)).1⟩
def NW (h:Av w o y S)(hI:Inv S)(hc:S.DY i=true){p:Nat}(_:EL S p) :
  Ab ANa 92 #[ptr y.sb,i,p] w fun e w'=>e=O (Ak #[I Z (S.load i p).v,I Z (S.load i p).e])/\Left y (S.load i p).S o w w':=
 (qpr h hI (zz hc) p).mono fun _ _⟨a,b⟩=>⟨a,b.left (Good.BW hI (zz hc) (lf hI (zz hc) p)).1⟩
def NY (h:Av w o y S)(hI:Inv S)(hc:S.DY i=true) :
  Ab ANa 93 #[ptr y.sb,i] w fun e w'=>e=O (Ak #[I Z (S.take i).v,I Z (S.take i).e])/\Left y (S.take i).S o w w':=
 (qqe h hI (zz hc)).mono fun _ _⟨a,b⟩=>⟨a,b.left (Good.BW hI (zz hc) (fy hI (zz hc))).1⟩
def XP (h:Av w o y S)(hI:Inv S)(hc:S.DY i=true) :
  Ab ANa 83 #[ptr y.sb,i] w fun e w'=>e=O (Ak #[I Z (S.Bq i).v,I Z (S.Bq i).e])/\Left y (S.Bq i).S o w w':=
 (qkc h hI (zz hc)).mono fun _ _⟨a,b⟩=>⟨a,b.left (VX hI (zz hc)).1⟩
def Yi (h:Av w o y S)(hI:Inv S)(hi:i<S.Au.length) :
  Ab ANa 81 #[ptr y.sb,i] w fun e w'=>e=O (I Z (S.AS i).2)/\Left y (S.AS i).1 o w w':=
 (qlk h hI hi).mono fun _ _⟨a,b⟩=>⟨a,b.left (Ud hI hi)⟩
def Lz (h:Av w o y S)(hI:Inv S)(hi:i<S.Au.length) :
  Ab ANa 98 #[ptr y.sb,i] w fun e w'=>e=O (I Z (S.Dx i).2)/\Left y (S.Dx i).1 o w w':=
 (qk6 h hI hi).mono fun _ _⟨a,b⟩=>⟨a,b.left (qoq hI hi)⟩
def NV (h:Av w o y S)(hI:Inv S)(hi:i<S.Au.length) :
  Ab ANa 82 #[ptr y.sb,i] w fun e w'=>e=O (Ak #[I Z (if (S.t i).live then ((S.t i).start:Int) else 0),.bool (S.t i).live])/\w=w':=
 Mn h hI (Am.AW hi)
end
end
section
open Go.RowKit Hp
attribute [local go_sem ↓] Go.wp_at_zero Go.wp_at_succ
section
variable {w w' : Aa} {o o' : Own} {y : Bl} {S : Am} {i : Nat}
def Am.Bc (S:Am)(p:Nat):Nat:=if p=0 then 0 else (S.H.Dg p).1
def qi8 (h:Av w o y S)(hk:S.ok){p:Nat}(_:EL S p) :
  Ab ANa 88 #[ptr y.sb,p] w fun e w'=>e=O (I Z (S.Bc p))/\Ae w w w':=by
 unfold Am.Bc;by_cases h0:p=0
 ·subst h0
  rw[if_pos rfl];clear h hk;go_in;go_wp2_with fail;go_ret;exact⟨rfl,qd w⟩
 ·rw[if_neg h0]
  have HS:=Qa (Wh h hk p);have hpb:((p:Int)==0)=false:=by rw[Qh];omega
  generalize S.H.Dg p=r at *;clear h hk h0;go_in;go_wp2_with fail;refine HS.o.mono ?_;rintro e w1⟨rfl,hb1⟩;go_wp2_with fail;go_ret;exact⟨rfl,hb1⟩
end
def mn (h:AE)(a:Option Addr)(n c:Nat)(w:Aa) :
  Ab ANa 33 #[.slice a n c,h.v] w fun e w'=>e=O (.bool (decide (h.b<0)||decide ((n:Int)<=h.b)))/\Ae w w w':=by
 obtain⟨hb,hn,⟨a0,a1,a2,a3,a4,a5⟩,⟨s0,s1,s2,s3,s4,s5⟩,hl⟩:=h;show Ab _ _ #[.slice a n c,Al #[hb,hn,a0,a1,a2,a3,a4,a5,s0,s1,s2,s3,s4,s5,hl]] _ _;simp only;by_cases h0:hb<0
 ·rw[decide_eq_true h0,Bool.true_or]
  go_in;go_wp2_with fail;go_ret;exact⟨rfl,qc (qd w) _⟩
 ·rw[decide_eq_false h0,Bool.false_or]
  by_cases h1:(n:Int)<=hb
  ·rw[decide_eq_true h1]
   go_in;go_wp2_with fail;go_ret;exact⟨rfl,qc (qd w) _⟩
  ·rw[decide_eq_false h1]
   go_in;go_wp2_with fail;go_ret;exact⟨rfl,qc (qd w) _⟩
def R6.get (r:R6):Nat->Int
 | 0=>r.a0|1=>r.a1|2=>r.a2|3=>r.a3|4=>r.a4|_=>r.a5
def R6.set (r:R6)(v:Int):Nat->R6
 | 0=>{ r with a0:=v }|1=>{ r with a1:=v }|2=>{ r with a2:=v }|3=>{ r with a3:=v }|4=>{ r with a4:=v }|_=>{ r with a5:=v }
def AE.put (h:AE)(A:Nat)(v:Int):AE:={ h with r:=h.r.set v A }
def six {A:Nat}(h:A<6):A=0\/A=1\/A=2\/A=3\/A=4\/A=5:=by omega
def SZ {w:Aa}{b:Nat}{t:TypeId}{h:AE}(j:An w b h.cells t){A:Nat}(hA:A<6)(v:Int):An (w.setCell ⟨b,2+A,none⟩ v) b (h.put A v).cells t:=by
 have e1:∀ x,x=(h.put A v).cells->An (w.setCell ⟨b,2+A,none⟩ v) b x t->An (w.setCell ⟨b,2+A,none⟩ v) b (h.put A v).cells t:=fun x e k=>by rw[<-e];exact k
 refine e1 _ ?_ (j.set (2+A) (I Z v));rcases six hA with rfl|rfl|rfl|rfl|rfl|rfl
 all_goals simp only[AE.cells,AE.put,R6.set,List.setIfInBounds_toArray,aP,List.set_cons_succ,Nat.reduceAdd]
def jy {w:Aa}{b:Nat}{t:TypeId}{h:AE}(j:An w b h.cells t){A:Nat}(hA:A<6):w.cell? ⟨b,2+A,none⟩=some (I Z (h.r.get A)):=by
 rw[j.cell];rcases six hA with rfl|rfl|rfl|rfl|rfl|rfl<;>rfl
def V5 {w:Aa}{b c i j:Nat}{v x:Ac}(h:w.cell? ⟨c,j,none⟩=some v)(hne:c≠b):(w.setCell ⟨b,i,none⟩ x).cell? ⟨c,j,none⟩=some v:=by
 rw[World.cell?_of_block (w:=w) (Below.heap_setCell _ _ _ _ hne)];exact h
def wj {T:Tag->Prop}{o o':Own}{w W:Aa}{b6 b7:Nat}(h1:Stp T o o' w W)(h6:w.1.size<=b6)(h7:w.1.size<=b7)(h:AE)(a:BD):Stp T o o' w (js W b6 b7 h a):=((((((((((((((((((h1.setCell_new (a:=⟨b6,0,none⟩) h6 _).setCell_new (a:=⟨b6,1,none⟩) h6 _).setCell_new (a:=⟨b6,2,none⟩) h6 _).setCell_new (a:=⟨b6,3,none⟩) h6 _).setCell_new (a:=⟨b6,4,none⟩) h6 _).setCell_new (a:=⟨b6,5,none⟩) h6 _).setCell_new (a:=⟨b6,6,none⟩) h6 _).setCell_new (a:=⟨b6,7,none⟩) h6 _).setCell_new (a:=⟨b6,8,none⟩) h6 _).setCell_new (a:=⟨b6,9,none⟩) h6 _).setCell_new (a:=⟨b6,10,none⟩) h6 _).setCell_new (a:=⟨b6,11,none⟩) h6 _).setCell_new (a:=⟨b6,12,none⟩) h6 _).setCell_new (a:=⟨b6,13,none⟩) h6 _).setCell_new (a:=⟨b6,14,none⟩) h6 _).setCell_new (a:=⟨b7,0,none⟩) h7 _).setCell_new (a:=⟨b7,1,none⟩) h7 _).setCell_new (a:=⟨b7,2,none⟩) h7 _)
def Wr.Bw {b:Nat}{w W:Aa}(h:Wr b w W){a:Addr}(ha:w.1.size<=a.block)(v:Ac):Wr b w (W.setCell a v):=
 ⟨h.os,h.tape,h.output,by rw[World.size_setCell];exact h.size,fun k hk hn=>(Below.heap_setCell _ _ _ _ (show k≠a.block by omega)).trans (h.block k hk hn)⟩
def Stp.Dm {T:Tag->Prop}{o o':Own}{b:Nat}{w W W':Aa}(h:Stp T o o' w W)(k:Wr b W W')(hb:w.1.size<=b):Stp T o o' w W':=
 ⟨k.os.trans h.os,k.tape.trans h.tape,k.output.trans h.output,Qo h.size k.size,h.tags,fun j hj hn=>(k.block j (Qn hj h.size) (by omega)).trans (h.block j hj hn)⟩
def P3 {b:Nat} {w W:Aa} {b6 b7:Nat} (h1:Wr b w W) (h6:w.1.size<=b6) (h7:w.1.size<=b7) (h:AE) (a:BD):Wr b w (js W b6 b7 h a):=(Wr.Bw (Wr.Bw (Wr.Bw (Wr.Bw (Wr.Bw (Wr.Bw (Wr.Bw (Wr.Bw (Wr.Bw (Wr.Bw (Wr.Bw (Wr.Bw (Wr.Bw (Wr.Bw (Wr.Bw (Wr.Bw (Wr.Bw (Wr.Bw h1 (a:=⟨b6,0,none⟩) h6 _) (a:=⟨b6,1,none⟩) h6 _) (a:=⟨b6,2,none⟩) h6 _) (a:=⟨b6,3,none⟩) h6 _) (a:=⟨b6,4,none⟩) h6 _) (a:=⟨b6,5,none⟩) h6 _) (a:=⟨b6,6,none⟩) h6 _) (a:=⟨b6,7,none⟩) h6 _) (a:=⟨b6,8,none⟩) h6 _) (a:=⟨b6,9,none⟩) h6 _) (a:=⟨b6,10,none⟩) h6 _) (a:=⟨b6,11,none⟩) h6 _) (a:=⟨b6,12,none⟩) h6 _) (a:=⟨b6,13,none⟩) h6 _) (a:=⟨b6,14,none⟩) h6 _) (a:=⟨b7,0,none⟩) h7 _) (a:=⟨b7,1,none⟩) h7 _) (a:=⟨b7,2,none⟩) h7 _)
structure AD where
 k:Int
 A:Nat
 B:Nat
 i:Int
 n:Int
def AD.cells (d:AD):Array Ac:=#[d.k,d.A,d.B,d.i,d.n]
def AD.v (d:AD):Ac:=.agg d.cells
def AE.D3 (h:AE)(A:Nat)(p e:Int):AE:=if e=0 then (h.put A p).ended 0 else h.ended e
def Gz (s e:Int):BD:=if e=0 then ky s 0 else ky 0 e
def Du (y:Bl)(t:Tag):Prop:=t=(y.l.id+1,0)
def mc {y:Bl}{t:Tag}(h:Du y t):¬qi y t:=by rw[h];exact qp y
def Av.bx {w w':Aa}{o o':Own}{y:Bl}{S:Am}(h:Av w o y S)(hs:Stp (Du y) o o' w w'):Av w' o' y S:=h.Ar hs fun j e=>by
 have e:(y.l.id,j)=(y.l.id+1,0):=e;injection e with e1 e2;omega
def yg (W:Aa)(b6 b7:Nat){y:Bl}{o:Own}(h6:Du y (o b6))(h7:Du y (o b7))(h:AE)(a:BD):Stp (Du y) o o W (js W b6 b7 h a):=(((((((((((((((((((Stp.refl _ o W).setCell (a:=⟨b6,0,none⟩) h6 _).setCell (a:=⟨b6,1,none⟩) h6 _).setCell (a:=⟨b6,2,none⟩) h6 _).setCell (a:=⟨b6,3,none⟩) h6 _).setCell (a:=⟨b6,4,none⟩) h6 _).setCell (a:=⟨b6,5,none⟩) h6 _).setCell (a:=⟨b6,6,none⟩) h6 _).setCell (a:=⟨b6,7,none⟩) h6 _).setCell (a:=⟨b6,8,none⟩) h6 _).setCell (a:=⟨b6,9,none⟩) h6 _).setCell (a:=⟨b6,10,none⟩) h6 _).setCell (a:=⟨b6,11,none⟩) h6 _).setCell (a:=⟨b6,12,none⟩) h6 _).setCell (a:=⟨b6,13,none⟩) h6 _).setCell (a:=⟨b6,14,none⟩) h6 _).setCell (a:=⟨b7,0,none⟩) h7 _).setCell (a:=⟨b7,1,none⟩) h7 _).setCell (a:=⟨b7,2,none⟩) h7 _)
section
variable {w w' : Aa} {o o' : Own} {y : Bl} {S : Am}
def Pq (h:AE) (p e:Int) (he:e≠0) (hn:0<=h.n/\h.n<=4096) (hb:0<=h.b/\h.b<=4096) (w:Aa) {b10 b7 b6 b4:Nat}
  (j10:An w b10 #[.func (.func 85) #[] #[ptr b7]] 166) (j7:An w b7 h.cells 49) :
  Ab ANa 87 #[p,e,ptr b10,ptr b7,ptr b6,ptr b4] w fun e' w'=>e'=O (Ak #[(h.ended e).v,(ky 0 e).val])/\Ae w w w':=by
 have HT:=Qa (fun W (hW:Ae w w W)=>gd h 0 e hn hb W (j7.below hW j7.lt))
 have heb:(e != 0)=true:=by rw[bne_iff_ne];exact he
 have Q7:=j10.cell;have l10:=j10.lt;generalize h.ended e=h' at *;generalize ky 0 e=a' at *;clear hn hb he j7;obtain⟨b',n',⟨r0,r1,r2,r3,r4,r5⟩,⟨p0,p1,p2,p3,p4,p5⟩,hl'⟩:=h';obtain⟨ak,ae,av⟩:=a';have HT:=Qa (fun W hW=>show Ab ANa 85 #[(),e,ptr b7] W fun e' w'=>e'=O (Ak #[Al #[b',n',r0,r1,r2,r3,r4,r5,p0,p1,p2,p3,p4,p5,hl'],Al #[ak,ae,av]])/\Ae W W w' from HT.o W hW)
 clear j10;go_in;go_wp2_with fail;refine (HT.o _ (qc (qc (qd w) _) _)).mono ?_
 rintro e1 w1 ⟨rfl,hb1⟩
 have j5:=(An.Ax w (AE.cells ⟨0,0,⟨0,0,0,0,0,0⟩,⟨0,0,0,0,0,0⟩,false⟩) _ 49 w.1.size rfl rfl).alloc (ANb #[(),(),()] 33);have j6:An _ (w.1.size+1) FF 33:=An.Ax (w.alloc (.cells (AE.cells ⟨0,0,⟨0,0,0,0,0,0⟩,⟨0,0,0,0,0,0⟩,false⟩) 49)) #[(),(),()] FF 33 (w.1.size+1) (by simp) rfl
 replace j5:=j5.below hb1 j5.lt;replace j6:=j6.below hb1 j6.lt;have hb2:=qe (qc (qc (qd w) _) _) hb1;have c5:=j5.cell;unfold AE.cells at c5;have z5:=j5.free;have l5:=j5.lt;have c6:=j6.cell;unfold FF at c6;have z6:=j6.free;have l6:=j6.lt;have hres:=Qa (ji j5 j6 (by omega) ⟨b',n',⟨r0,r1,r2,r3,r4,r5⟩,⟨p0,p1,p2,p3,p4,p5⟩,hl'⟩ ⟨ak,ae,av⟩)
 have hrb:=Qa (yi hb2 (b6:=w.1.size) (b7:=w.1.size+1) (by omega) (by omega) ⟨b',n',⟨r0,r1,r2,r3,r4,r5⟩,⟨p0,p1,p2,p3,p4,p5⟩,hl'⟩ ⟨ak,ae,av⟩)
 clear hb1 hb2 j5 j6 Q7 l10 HT;go_wp2_with fail;change bodyPost _ _ _ _ _ (js w1 (w.1.size) (w.1.size+1) ⟨b',n',⟨r0,r1,r2,r3,r4,r5⟩,⟨p0,p1,p2,p3,p4,p5⟩,hl'⟩ ⟨ak,ae,av⟩);generalize js w1 (w.1.size) (w.1.size+1) ⟨b',n',⟨r0,r1,r2,r3,r4,r5⟩,⟨p0,p1,p2,p3,p4,p5⟩,hl'⟩ ⟨ak,ae,av⟩=X at *;exact bodyPost_ret (qr _ _ 8 9 rfl rfl rfl hres.o.1 hres.o.2) rfl ⟨rfl,hrb.o⟩
def Mm (hS:Av w o y S) (hk:S.ok) (h:AE) (d:AD) {p:Nat} (hp:EL S p) (hA:d.A<6) (hn:0<=h.n/\h.n<=4096) (hb:0<=h.b/\h.b<=4096) {b10 b7 b6 b4:Nat}
  (j10:An w b10 #[.func (.func 85) #[] #[ptr b7]] 166) (j7:An w b7 h.cells 49) (j6:An w b6 d.cells 44) (j4:An w b4 #[ptr y.sb] 58) (t7:Du y (o b7)) (n10:b10≠b7) (n4:b4≠b7) :
  Ab ANa 87 #[p,(),ptr b10,ptr b7,ptr b6,ptr b4] w fun e' w'=>e'=O (Ak #[((h.put d.A p).ended 0).v,(ky (S.Bc p) 0).val])/\Wr b7 w w':=by
 have hAI:(d.A:Int)<6:=by omega
 have c7:=j7.cell;have l7:=j7.lt;have z7:=j7.free;have c6:=j6.cell;unfold AD.cells at c6;have l6:=j6.lt;have hr:=jy j7 hA;clear c7;obtain⟨h',hh'⟩:=Ja0 ((h.put d.A p).ended 0);obtain⟨a',ha'⟩:=Ja0 (ky (S.Bc p) 0);rw[<-hh',<-ha'];obtain⟨b',n',⟨r0,r1,r2,r3,r4,r5⟩,⟨p0,p1,p2,p3,p4,p5⟩,hl'⟩:=h';obtain⟨ak,ae,av⟩:=a';go_in;go_upto_region 4 with fail;obtain⟨W,hW⟩:=Ja0 (((w.setCell ⟨b7,2+d.A,none⟩ p).alloc (ANb #[(),(),(),(),(),(),(),(),(),(),(),(),(),(),false] 49)).alloc (ANb #[(),(),()] 33));rw[<-hW];have bX:Wr b7 w W:=by rw[hW];exact (Wr.set b7 w _ _).Cb (qc (qc (qd _) _) _)
 have hSW:=hS.bx (Stp.Ci bX t7);have i7:An W b7 (h.put d.A p).cells 49:=by rw[hW];exact ((SZ j7 hA p).alloc _).alloc _
 have i10:An W b10 #[.func (.func 85) #[] #[ptr b7]] 166:=by rw[hW];exact ((j10.Ao (a:=⟨b7,2+d.A,none⟩) n10 _).alloc _).alloc _
 have i4:An W b4 #[ptr y.sb] 58:=by rw[hW];exact ((j4.Ao (a:=⟨b7,2+d.A,none⟩) n4 _).alloc _).alloc _
 have i8:An W w #[(),(),(),(),(),(),(),(),(),(),(),(),(),(),false] 49:=by rw[hW];exact (An.Ax _ _ _ _ _ (by simp) rfl).alloc _
 have i9:An W (w.1.size+1) #[(),(),()] 33:=by rw[hW];exact An.Ax _ _ _ _ _ (by simp) rfl
 have mE:=Qa (fun X (hX:Ae W W X)=>qi8 (hSW.below hX) hk hp)
 have HT:=Qa (fun X (hX:Ae W W X)=>gd (h.put d.A p) (S.Bc p) 0 hn hb X (i7.below hX i7.lt))
 have rC:=Qa bX;rw[<-hh',<-ha']at HT;generalize S.Bc p=sp at *;have HT:=Qa (fun X hX=>show Ab ANa 85 #[sp,(),ptr b7] X fun e' w'=>e'=O (Ak #[Al #[b',n',r0,r1,r2,r3,r4,r5,p0,p1,p2,p3,p4,p5,hl'],Al #[ak,ae,av]])/\Ae X X w' from HT.o X hX)
 have N10:=Qa (show b10≠w.1.size/\b10≠w.1.size+1/\b4≠w.1.size/\b4≠w.1.size+1 from by have:=j10.lt;have:=j4.lt;omega)
 have H8:=Qa i8;have H9:=Qa i9;have H10:=Qa i10;have H4:=Qa i4;have Q7:=i10.cell 0;have c4:=i4.cell 0;simp at Q7 c4;clear hh' ha' hW bX hSW i7 i10 i4 i8 i9 hS hk hp hn hb j10 j7 j6 j4 t7 n10 n4 l7 z7 c6 l6 hr;go_region_held3 (fun w'=>w'.cell? ⟨b10,0,none⟩=some (.func (.func 85) #[] #[ptr b7])/\w'.cell? ⟨b4,0,none⟩=some (ptr y.sb)) (first|(refine⟨?_,?_⟩<;>with_reducible assumption)|go_keep|(refine⟨?_,?_⟩<;>(repeat (refine V5 ?_ (by with_reducible assumption)))<;>with_reducible assumption)) (first
  | (go_at_call 88;refine (mE.o _ (qf (qd W))).mono ?_;rintro e3 w3 ⟨rfl,hb3⟩;have hb3:=qe (qf (qd W)) hb3;have d10:=(H10.o.below hb3 H10.o.lt).cell 0;have d4:=(H4.o.below hb3 H4.o.lt).cell 0;simp at d10 d4)
  | (go_at_call 85;refine (HT.o _ hb3).mono ?_;rintro e5 w5 ⟨rfl,hb5⟩;have hb5:=qe hb3 hb5;have f10:=(H10.o.below hb5 H10.o.lt).cell 0;have f4:=(H4.o.below hb5 H4.o.lt).cell 0;simp at f10 f4;have k8:=H8.o.below hb5 H8.o.lt;have k9:=H9.o.below hb5 H9.o.lt;have c8:=k8.cell;have z8:=k8.free;have l8:=k8.lt;have c9:=k9.cell;have z9:=k9.free;have l9:=k9.lt;have hres:=Qa (ji k8 k9 (by omega) ⟨b',n',⟨r0,r1,r2,r3,r4,r5⟩,⟨p0,p1,p2,p3,p4,p5⟩,hl'⟩ ⟨ak,ae,av⟩);clear k8 k9;have m10:b10≠w.1.size:=N10.o.1;have ABw:b10≠w.1.size+1:=N10.o.2.1;have m4:b4≠w.1.size:=N10.o.2.2.1;have m4':b4≠w.1.size+1:=N10.o.2.2.2)
  | fail)
 go_wp2_with fail;change bodyPost _ _ _ _ _ (js w5 (w.1.size) (w.1.size+1) ⟨b',n',⟨r0,r1,r2,r3,r4,r5⟩,⟨p0,p1,p2,p3,p4,p5⟩,hl'⟩ ⟨ak,ae,av⟩);have hrs:=Qa (P3 (rC.o.Cb hb5) (b6:=w.1.size) (b7:=w.1.size+1) (by omega) (by omega) ⟨b',n',⟨r0,r1,r2,r3,r4,r5⟩,⟨p0,p1,p2,p3,p4,p5⟩,hl'⟩ ⟨ak,ae,av⟩)
 generalize js w5 (w.1.size) (w.1.size+1) ⟨b',n',⟨r0,r1,r2,r3,r4,r5⟩,⟨p0,p1,p2,p3,p4,p5⟩,hl'⟩ ⟨ak,ae,av⟩=X at *;exact bodyPost_ret (qr _ _ 8 9 rfl rfl rfl hres.o.1 hres.o.2) rfl ⟨rfl,hrs.o⟩
def Ml (R:B2)(hS:Av w o y R.S)(hk:R.S.ok)(h:AE)(d:AD)(hp:R.e=0->∃ p:Nat,R.v=p/\EL R.S p)(hA:d.A<6)(hn:0<=h.n/\h.n<=4096)(hb:0<=h.b/\h.b<=4096){b10 b7 b6 b4:Nat}
  (j10:An w b10 #[.func (.func 85) #[] #[ptr b7]] 166)(j7:An w b7 h.cells 49)(j6:An w b6 d.cells 44)(j4:An w b4 #[ptr y.sb] 58)(t7:Du y (o b7))(n10:b10≠b7)(n4:b4≠b7) :
  Ab ANa 87 #[R.v,R.e,ptr b10,ptr b7,ptr b6,ptr b4] w fun e' w'=>e'=O (Ak #[(h.D3 d.A R.v R.e).v,(Gz (R.S.Bc R.v.toNat) R.e).val])/\Wr b7 w w':=by
 obtain⟨S,v,e⟩:=R;simp only at hS hk hp ⊢;by_cases he:e=0
 ·obtain⟨p,rfl,hq⟩:=hp he
  subst he;exact Mm hS hk h d hq hA hn hb j10 j7 j6 j4 t7 n10 n4
 ·have e1:h.D3 d.A v e=h.ended e:=by unfold AE.D3;rw[if_neg he]
  have e2:Gz (S.Bc v.toNat) e=ky 0 e:=by unfold Gz;rw[if_neg he]
  rw[e1,e2];refine (Pq h v e he hn hb w j10 j7).mono ?_;rintro e' w'⟨rfl,h1⟩;exact⟨rfl,Wr.of_below h1⟩
end
def QF (W:Aa)(b:Nat)(h:AE):Wr b W (Ds W b h):=((((((((((((((((Wr.refl b W).trans (Wr.set b _ 0 _)).trans (Wr.set b _ 1 _)).trans (Wr.set b _ 2 _)).trans (Wr.set b _ 3 _)).trans (Wr.set b _ 4 _)).trans (Wr.set b _ 5 _)).trans (Wr.set b _ 6 _)).trans (Wr.set b _ 7 _)).trans (Wr.set b _ 8 _)).trans (Wr.set b _ 9 _)).trans (Wr.set b _ 10 _)).trans (Wr.set b _ 11 _)).trans (Wr.set b _ 12 _)).trans (Wr.set b _ 13 _)).trans (Wr.set b _ 14 _))
section
variable {w w' : Aa} {o o' : Own} {y : Bl} {S : Am} {i : Nat}
def qj9 (hS:Av w o y S) (hI:Inv S) (hb hn a0 a1 a2 a3 a4 a5 s0 s1 s2 s3 s4 s5:Int) (hl:Bool) (A B:Nat) (fi fn:Int) (ra rb:Nat)
  (hi:i<S.Au.length) (hlv:(S.t i).live=true) (hA:A<6) (hB:B<6) (hra:R6.get ⟨a0,a1,a2,a3,a4,a5⟩ A=ra) (hrb:R6.get ⟨a0,a1,a2,a3,a4,a5⟩ B=rb) (hb0:0<=hb/\hb<=4096) :
  Ab ANa 62 #[ptr y.sb,i,Al #[I Z 14,I Z A,I Z B,fi,fn],Al #[hb,hn,a0,a1,a2,a3,a4,a5,s0,s1,s2,s3,s4,s5,hl]] w fun e' w'=>e'=O (Ak #[AE.v ⟨(hb+1),0,⟨s0,s1,s2,s3,s4,s5⟩,⟨s0,s1,s2,s3,s4,s5⟩,false⟩,BD.val ⟨2,0,0⟩])/\Left y (S.abort i) o w w':=by
 have fH:∀ (fn:Fn) (first cap:Array Ac) (w:Aa),(Ad fn first cap).run ANa w=.ok (.func fn first cap) w:=fun _ _ _ _=>rfl
 obtain⟨o1,ho1,dN,hS0⟩:=PRe o w (y.l.id+1,0) (qi y);have h1:=hS.retag dN;clear dN
 have hbx:∀ b,w.1.size<=b->Du y (o1 b):=fun b hb=>by rw[ho1];exact qq hb
 clear ho1 hS;obtain⟨W,hW⟩:=Ja0 ((((((w.alloc (ANb #[ptr y.sb] 58)).alloc (ANb #[I Z 14,I Z A,I Z B,fi,fn] 44)).alloc (ANb #[hb,hn,a0,a1,a2,a3,a4,a5,s0,s1,s2,s3,s4,s5,hl] 49)).alloc (ANb #[(),(),(),(),(),(),(),(),(),(),(),(),(),(),false] 49)).alloc (ANb #[(),(),()] 33)).alloc (ANb #[.func (.func 85) #[] #[ptr (w.1.size+1+1)]] 166));have hbW:Ae w w W:=by rw[hW];exact qc (qc (qc (qc (qc (qc (qd w) _) _) _) _) _) _
 have k0:An W w #[ptr y.sb] 58:=by rw[hW];exact (((((An.new w _ _).alloc _).alloc _).alloc _).alloc _).alloc _
 have k1:An W (w.1.size+1) #[I Z 14,I Z A,I Z B,fi,fn] 44:=by rw[hW];exact ((((An.Ax _ _ _ _ _ (by simp) rfl).alloc _).alloc _).alloc _).alloc _
 have k2:An W (w.1.size+1+1) #[hb,hn,a0,a1,a2,a3,a4,a5,s0,s1,s2,s3,s4,s5,hl] 49:=by rw[hW];exact (((An.Ax _ _ _ _ _ (by simp) rfl).alloc _).alloc _).alloc _
 have k3:An W (w.1.size+1+1+1) #[(),(),(),(),(),(),(),(),(),(),(),(),(),(),false] 49:=by rw[hW];exact ((An.Ax _ _ _ _ _ (by simp) rfl).alloc _).alloc _
 have k4:An W (w.1.size+1+1+1+1) #[(),(),()] 33:=by rw[hW];exact (An.Ax _ _ _ _ _ (by simp) rfl).alloc _
 have k5:An W (w.1.size+1+1+1+1+1) #[.func (.func 85) #[] #[ptr (w.1.size+1+1)]] 166:=by rw[hW];exact An.Ax _ _ _ _ _ (by simp) rfl
 have hSW:=h1.below hbW;have bX:Stp (qi y) o o1 w W:=hS0.trans (Stp.of_below hbW);have AI:(A:Int)<6:=by omega
 have BI:(B:Int)<6:=by omega
 have HB:=Qa hbx;have HC:=Qa (fun X o2 (h2:Av X o2 y S)=>by have:=Lz h2 hI hi;rw[show S.Dx i=(S.abort i,0) from if_pos hlv]at this;exact this)
 have HK:=Qa (fun X=>show Ab ANa 84 #[Al #[hb,hn,a0,a1,a2,a3,a4,a5,s0,s1,s2,s3,s4,s5,hl]] X fun e w'=>e=O (Al #[hb,(),s0,s1,s2,s3,s4,s5,s0,s1,s2,s3,s4,s5,false])/\Ae X X w' from SD ⟨hb,hn,⟨a0,a1,a2,a3,a4,a5⟩,⟨s0,s1,s2,s3,s4,s5⟩,hl⟩ X)
 obtain⟨b1,b2⟩:=hb0;generalize S.abort i=SA at *;clear hI hi hlv h1 hS0 hbx;go_in;go_upto_region 3 with fail;rw[<-hW];clear hW;have cA:=jy (h:=⟨hb,hn,⟨a0,a1,a2,a3,a4,a5⟩,⟨s0,s1,s2,s3,s4,s5⟩,hl⟩) k2 hA;have cB:=jy (h:=⟨hb,hn,⟨a0,a1,a2,a3,a4,a5⟩,⟨s0,s1,s2,s3,s4,s5⟩,hl⟩) k2 hB;rw[hra]at cA;rw[hrb]at cB;have c1:=k1.cell;have l2:=k2.lt;go_quiet (fail);obtain⟨V,hV⟩:=Ja0 (W.drewN nq);have dA:Ae W W V:=by rw[hV];exact zo (qd _) _
 rw[<-hV];clear hV cA cB c1 l2;replace k0:=k0.below dA k0.lt;replace k1:=k1.below dA k1.lt;replace k2:=k2.below dA k2.lt;replace k3:=k3.below dA k3.lt;replace k4:=k4.below dA k4.lt;replace k5:=k5.below dA k5.lt;replace hSW:=hSW.below dA;replace bX:=bX.trans (Stp.of_below dA);have c0:=k0.cell;have c1:=k1.cell;go_wp2_with fail;refine (HC.o _ _ hSW).mono ?_
 rintro e2 w2 ⟨rfl,o2,hS2,hI2,hs2⟩
 have nt:∀ b,w.1.size<=b->¬qi y (o1 b):=fun b q1=>mc (HB.o b q1)
 have tg:∀ b,w.1.size<=b->b<V.1.size->Du y (o2 b):=fun b q1 q2=>by have:=HB.o b q1;rw[<-hs2.tags b q2]at this;exact this
 have t2:=tg (w.1.size+1+1) (by omega) k2.lt
 have t3:=tg (w.1.size+1+1+1) (by omega) k3.lt
 have t4:=tg (w.1.size+1+1+1+1) (by omega) k4.lt
 replace k2:=k2.Ar hs2 (nt _ (by omega))
 replace k3:=k3.Ar hs2 (nt _ (by omega))
 replace k4:=k4.Ar hs2 (nt _ (by omega))
 have hs3:=bX.trans hs2;have HI2:=Qa hI2;clear c0 c1 k0 k1 k5 hs2 hSW bX HC tg nt hI2;have c2:=k2.cell;go_wp2_with fail;refine (HK.o _).mono ?_
 rintro e3 w3 ⟨rfl,hb3⟩
 replace k2:=k2.below hb3 k2.lt;replace k3:=k3.below hb3 k3.lt;replace k4:=k4.below hb3 k4.lt;have cZ:=hS2.below hb3;replace hs3:=hs3.trans (Stp.of_below hb3);clear c2 hb3 hS2 HK;have c2:=k2.cell;have z2:=k2.free;have l2:=k2.lt;go_upto_region 37 with fail;clear c2 z2 l2;obtain⟨V2,hV2⟩:=Ja0 ((Ds w3 (w.1.size+1+1) ⟨hb,0,⟨s0,s1,s2,s3,s4,s5⟩,⟨s0,s1,s2,s3,s4,s5⟩,false⟩).setCell ⟨(w.1.size+1+1),0,none⟩ (I Z (hb+1)));change Code.wp _ _ _ _ ((Ds w3 (w.1.size+1+1) ⟨hb,0,⟨s0,s1,s2,s3,s4,s5⟩,⟨s0,s1,s2,s3,s4,s5⟩,false⟩).setCell ⟨(w.1.size+1+1),0,none⟩ (I Z (hb+1)));rw[<-hV2];have hw:Wr (w.1.size+1+1) w3 V2:=by rw[hV2];exact (QF w3 (w.1.size+1+1) ⟨hb,0,⟨s0,s1,s2,s3,s4,s5⟩,⟨s0,s1,s2,s3,s4,s5⟩,false⟩).trans (Wr.set _ _ _ _)
 have i2:An V2 (w.1.size+1+1) #[I Z (hb+1),(),s0,s1,s2,s3,s4,s5,s0,s1,s2,s3,s4,s5,false] 49:=by rw[hV2];exact (dc (g:=⟨hb,hn,⟨a0,a1,a2,a3,a4,a5⟩,⟨s0,s1,s2,s3,s4,s5⟩,hl⟩) k2 ⟨hb,0,⟨s0,s1,s2,s3,s4,s5⟩,⟨s0,s1,s2,s3,s4,s5⟩,false⟩).set 0 (I Z (hb+1))
 have i3:=k3.wr hw (by omega)
 have i4:=k4.wr hw (by omega)
 have hS5:=cZ.bx (Stp.Ci hw t2);have hs5:=hs3.Dm hw (by omega)
 clear hV2 hw k2 k3 k4 cZ hs3;have c2:=i2.cell;have c3:=i3.cell;have z3:=i3.free;have l3:=i3.lt;have c4:=i4.cell;have z4:=i4.free;have l4:=i4.lt;have hres:=Qa (ji i3 i4 (by omega) ⟨(hb+1),0,⟨s0,s1,s2,s3,s4,s5⟩,⟨s0,s1,s2,s3,s4,s5⟩,false⟩ ⟨2,0,0⟩)
 have hrs:=Qa (wj hs5 (b6:=(w.1.size+1+1+1)) (b7:=(w.1.size+1+1+1+1)) (by omega) (by omega) ⟨(hb+1),0,⟨s0,s1,s2,s3,s4,s5⟩,⟨s0,s1,s2,s3,s4,s5⟩,false⟩ ⟨2,0,0⟩)
 have fE:=Qa (hS5.bx (yg V2 (w.1.size+1+1+1) (w.1.size+1+1+1+1) (o:=o2) t3 t4 ⟨(hb+1),0,⟨s0,s1,s2,s3,s4,s5⟩,⟨s0,s1,s2,s3,s4,s5⟩,false⟩ ⟨2,0,0⟩));clear i2 i3 i4 hS5 hs5;go_wp2_with fail;change bodyPost _ _ _ _ _ (js V2 (w.1.size+1+1+1) (w.1.size+1+1+1+1) ⟨(hb+1),0,⟨s0,s1,s2,s3,s4,s5⟩,⟨s0,s1,s2,s3,s4,s5⟩,false⟩ ⟨2,0,0⟩);generalize js V2 (w.1.size+1+1+1) (w.1.size+1+1+1+1) ⟨(hb+1),0,⟨s0,s1,s2,s3,s4,s5⟩,⟨s0,s1,s2,s3,s4,s5⟩,false⟩ ⟨2,0,0⟩=X at *;exact bodyPost_ret (qr _ _ 8 9 rfl rfl rfl hres.o.1 hres.o.2) rfl ⟨rfl,o2,fE.o,HI2.o,hrs.o⟩
end
section
variable {w w' : Aa} {o o' : Own} {y : Bl} {S : Am} {i : Nat}
def WK (hS:Av w o y S) (hI:Inv S) (hb hn a0 a1 a2 a3 a4 a5 s0 s1 s2 s3 s4 s5:Int) (hl:Bool) (A B:Nat) (fi fn:Int) (ra rb:Nat)
  (tv:Int) (hq:(ra=rb/\tv=1)\/(ra≠rb/\tv=0)) (hA:A<6) (hB:B<6) (hra:R6.get ⟨a0,a1,a2,a3,a4,a5⟩ A=ra) (hrb:R6.get ⟨a0,a1,a2,a3,a4,a5⟩ B=rb) (hn0:0<=hn/\hn<=4096) (hb0:0<=hb/\hb<=4096) :
  Ab ANa 62 #[ptr y.sb,i,Al #[I Z 11,I Z A,I Z B,fi,fn],Al #[hb,hn,a0,a1,a2,a3,a4,a5,s0,s1,s2,s3,s4,s5,hl]] w fun e' w'=>e'=O (Ak #[(AE.ended ⟨hb,hn,⟨a0,a1,a2,a3,a4,a5⟩,⟨s0,s1,s2,s3,s4,s5⟩,hl⟩ 0).v,(ky tv 0).val])/\Left y S o w w':=by
 have fH:∀ (fn:Fn) (first cap:Array Ac) (w:Aa),(Ad fn first cap).run ANa w=.ok (.func fn first cap) w:=fun _ _ _ _=>rfl
 obtain⟨o1,ho1,dN,hS0⟩:=PRe o w (y.l.id+1,0) (qi y);have h1:=hS.retag dN;clear dN
 have hbx:∀ b,w.1.size<=b->Du y (o1 b):=fun b hb=>by rw[ho1];exact qq hb
 clear ho1 hS;obtain⟨W,hW⟩:=Ja0 ((((((w.alloc (ANb #[ptr y.sb] 58)).alloc (ANb #[I Z 11,I Z A,I Z B,fi,fn] 44)).alloc (ANb #[hb,hn,a0,a1,a2,a3,a4,a5,s0,s1,s2,s3,s4,s5,hl] 49)).alloc (ANb #[(),(),(),(),(),(),(),(),(),(),(),(),(),(),false] 49)).alloc (ANb #[(),(),()] 33)).alloc (ANb #[.func (.func 85) #[] #[ptr (w.1.size+1+1)]] 166));have hbW:Ae w w W:=by rw[hW];exact qc (qc (qc (qc (qc (qc (qd w) _) _) _) _) _) _
 have k0:An W w #[ptr y.sb] 58:=by rw[hW];exact (((((An.new w _ _).alloc _).alloc _).alloc _).alloc _).alloc _
 have k1:An W (w.1.size+1) #[I Z 11,I Z A,I Z B,fi,fn] 44:=by rw[hW];exact ((((An.Ax _ _ _ _ _ (by simp) rfl).alloc _).alloc _).alloc _).alloc _
 have k2:An W (w.1.size+1+1) #[hb,hn,a0,a1,a2,a3,a4,a5,s0,s1,s2,s3,s4,s5,hl] 49:=by rw[hW];exact (((An.Ax _ _ _ _ _ (by simp) rfl).alloc _).alloc _).alloc _
 have k3:An W (w.1.size+1+1+1) #[(),(),(),(),(),(),(),(),(),(),(),(),(),(),false] 49:=by rw[hW];exact ((An.Ax _ _ _ _ _ (by simp) rfl).alloc _).alloc _
 have k4:An W (w.1.size+1+1+1+1) #[(),(),()] 33:=by rw[hW];exact (An.Ax _ _ _ _ _ (by simp) rfl).alloc _
 have k5:An W (w.1.size+1+1+1+1+1) #[.func (.func 85) #[] #[ptr (w.1.size+1+1)]] 166:=by rw[hW];exact An.Ax _ _ _ _ _ (by simp) rfl
 have hSW:=h1.below hbW;have bX:Stp (qi y) o o1 w W:=hS0.trans (Stp.of_below hbW);have AI:(A:Int)<6:=by omega
 have BI:(B:Int)<6:=by omega
 have HB:=Qa hbx;have HT:=Qa (fun X (j7:An X (w.1.size+1+1) (AE.cells ⟨hb,hn,⟨a0,a1,a2,a3,a4,a5⟩,⟨s0,s1,s2,s3,s4,s5⟩,hl⟩) 49)=>gd ⟨hb,hn,⟨a0,a1,a2,a3,a4,a5⟩,⟨s0,s1,s2,s3,s4,s5⟩,hl⟩ tv 0 hn0 hb0 X j7)
 obtain⟨H',jG⟩:=Ja0 (AE.ended ⟨hb,hn,⟨a0,a1,a2,a3,a4,a5⟩,⟨s0,s1,s2,s3,s4,s5⟩,hl⟩ 0);obtain⟨A',hA'⟩:=Ja0 (ky tv 0);rw[<-jG,<-hA']at HT ⊢;obtain⟨b',n',⟨r0,r1,r2,r3,r4,r5⟩,⟨p0,p1,p2,p3,p4,p5⟩,hl'⟩:=H';obtain⟨ak,ae,av⟩:=A';have HT:=Qa (fun X j7=>show Ab ANa 85 #[tv,(),ptr (w.1.size+1+1)] X fun e' w'=>e'=O (Ak #[Al #[b',n',r0,r1,r2,r3,r4,r5,p0,p1,p2,p3,p4,p5,hl'],Al #[ak,ae,av]])/\Ae X X w' from HT.o X j7)
 have HI:=Qa hI;clear jG hA' hI hn0 hb0 h1 hS0 hbx;go_in;go_upto_region 3 with fail;rw[<-hW];clear hW;have cA:=jy (h:=⟨hb,hn,⟨a0,a1,a2,a3,a4,a5⟩,⟨s0,s1,s2,s3,s4,s5⟩,hl⟩) k2 hA;have cB:=jy (h:=⟨hb,hn,⟨a0,a1,a2,a3,a4,a5⟩,⟨s0,s1,s2,s3,s4,s5⟩,hl⟩) k2 hB;rw[hra]at cA;rw[hrb]at cB;have c1:=k1.cell;have l2:=k2.lt;go_quiet (fail);obtain⟨V,hV⟩:=Ja0 (W.drewN nq);have dA:Ae W W V:=by rw[hV];exact zo (qd _) _
 rw[<-hV];clear hV cA cB c1 l2;replace k0:=k0.below dA k0.lt;replace k1:=k1.below dA k1.lt;replace k2:=k2.below dA k2.lt;replace k3:=k3.below dA k3.lt;replace k4:=k4.below dA k4.lt;replace k5:=k5.below dA k5.lt;replace hSW:=hSW.below dA;replace bX:=bX.trans (Stp.of_below dA);have c0:=k0.cell;have c1:=k1.cell;have c5:=k5.cell;rcases hq with ⟨hab,rfl⟩|⟨hab,rfl⟩
 all_goals first
  | (have hcm:((ra:Int)==(rb:Int))=true:=by rw[beq_iff_eq,hab])
  | (have hcm:((ra:Int)==(rb:Int))=false:=by rw[Qh];omega)
 all_goals
  go_wp2_with fail;obtain⟨V2,hV2⟩:=Ja0 V;rw[<-hV2];have i2:An V2 (w.1.size+1+1) (AE.cells ⟨hb,hn,⟨a0,a1,a2,a3,a4,a5⟩,⟨s0,s1,s2,s3,s4,s5⟩,hl⟩) 49:=by rw[hV2];exact k2
  have i3:An V2 (w.1.size+1+1+1) #[(),(),(),(),(),(),(),(),(),(),(),(),(),(),false] 49:=by rw[hV2];exact k3
  have i4:An V2 (w.1.size+1+1+1+1) #[(),(),()] 33:=by rw[hV2];exact k4
  have hw:Wr (w.1.size+1+1) V V2:=by rw[hV2];exact Wr.refl _ _
  have t2:Du y (o1 (w.1.size+1+1)):=HB.o _ (by omega)
  have hS2:=hSW.bx (Stp.Ci hw t2);have hs2:=bX.Dm hw (by omega)
  clear hV2;refine (HT.o _ i2).mono ?_;rintro e5 w5 ⟨rfl,hb5⟩;have m3:=i3.below hb5 i3.lt;have m4:=i4.below hb5 i4.lt;have hS5:=hS2.below hb5;have hs5:=hs2.trans (Stp.of_below hb5);clear c0 c1 c5 HT i2 i3 i4 hw hS2 hs2 hb5 k0 k1 k2 k3 k4 k5 hSW bX;have c3:=m3.cell;have z3:=m3.free;have l3:=m3.lt;have c4:=m4.cell;have z4:=m4.free;have l4:=m4.lt;have hres:=Qa (ji m3 m4 (by omega) ⟨b',n',⟨r0,r1,r2,r3,r4,r5⟩,⟨p0,p1,p2,p3,p4,p5⟩,hl'⟩ ⟨ak,ae,av⟩)
  have hrs:=Qa (wj hs5 (b6:=(w.1.size+1+1+1)) (b7:=(w.1.size+1+1+1+1)) (by omega) (by omega) ⟨b',n',⟨r0,r1,r2,r3,r4,r5⟩,⟨p0,p1,p2,p3,p4,p5⟩,hl'⟩ ⟨ak,ae,av⟩)
  have fE:=Qa (hS5.bx (yg w5 (w.1.size+1+1+1) (w.1.size+1+1+1+1) (o:=o1) (HB.o _ (by omega)) (HB.o _ (by omega)) ⟨b',n',⟨r0,r1,r2,r3,r4,r5⟩,⟨p0,p1,p2,p3,p4,p5⟩,hl'⟩ ⟨ak,ae,av⟩))
  clear m3 m4 hS5 hs5;go_wp2_with fail;change bodyPost _ _ _ _ _ (js w5 (w.1.size+1+1+1) (w.1.size+1+1+1+1) ⟨b',n',⟨r0,r1,r2,r3,r4,r5⟩,⟨p0,p1,p2,p3,p4,p5⟩,hl'⟩ ⟨ak,ae,av⟩);generalize js w5 (w.1.size+1+1+1) (w.1.size+1+1+1+1) ⟨b',n',⟨r0,r1,r2,r3,r4,r5⟩,⟨p0,p1,p2,p3,p4,p5⟩,hl'⟩ ⟨ak,ae,av⟩=X at *;exact bodyPost_ret (qr _ _ 8 9 rfl rfl rfl hres.o.1 hres.o.2) rfl ⟨rfl,o1,fE.o,HI.o,hrs.o⟩
def qm2 (hS:Av w o y S) (hI:Inv S) (hb hn a0 a1 a2 a3 a4 a5 s0 s1 s2 s3 s4 s5:Int) (hl:Bool) (A B:Nat) (fi fn:Int) (ra rb:Nat)
   (hA:A<6) (hB:B<6) (hra:R6.get ⟨a0,a1,a2,a3,a4,a5⟩ A=ra) (hrb:R6.get ⟨a0,a1,a2,a3,a4,a5⟩ B=rb) (hn0:0<=hn/\hn<=4096) (hb0:0<=hb/\hb<=4096) :
  Ab ANa 62 #[ptr y.sb,i,Al #[I Z 12,I Z A,I Z B,fi,fn],Al #[hb,hn,a0,a1,a2,a3,a4,a5,s0,s1,s2,s3,s4,s5,hl]] w fun e' w'=>e'=O (Ak #[(AE.ended (AE.put ⟨hb,hn,⟨a0,a1,a2,a3,a4,a5⟩,⟨s0,s1,s2,s3,s4,s5⟩,hl⟩ A rb) 0).v,(ky 0 0).val])/\Left y S o w w':=by
 have fH:∀ (fn:Fn) (first cap:Array Ac) (w:Aa),(Ad fn first cap).run ANa w=.ok (.func fn first cap) w:=fun _ _ _ _=>rfl
 obtain⟨o1,ho1,dN,hS0⟩:=PRe o w (y.l.id+1,0) (qi y);have h1:=hS.retag dN;clear dN
 have hbx:∀ b,w.1.size<=b->Du y (o1 b):=fun b hb=>by rw[ho1];exact qq hb
 clear ho1 hS;obtain⟨W,hW⟩:=Ja0 ((((((w.alloc (ANb #[ptr y.sb] 58)).alloc (ANb #[I Z 12,I Z A,I Z B,fi,fn] 44)).alloc (ANb #[hb,hn,a0,a1,a2,a3,a4,a5,s0,s1,s2,s3,s4,s5,hl] 49)).alloc (ANb #[(),(),(),(),(),(),(),(),(),(),(),(),(),(),false] 49)).alloc (ANb #[(),(),()] 33)).alloc (ANb #[.func (.func 85) #[] #[ptr (w.1.size+1+1)]] 166));have hbW:Ae w w W:=by rw[hW];exact qc (qc (qc (qc (qc (qc (qd w) _) _) _) _) _) _
 have k0:An W w #[ptr y.sb] 58:=by rw[hW];exact (((((An.new w _ _).alloc _).alloc _).alloc _).alloc _).alloc _
 have k1:An W (w.1.size+1) #[I Z 12,I Z A,I Z B,fi,fn] 44:=by rw[hW];exact ((((An.Ax _ _ _ _ _ (by simp) rfl).alloc _).alloc _).alloc _).alloc _
 have k2:An W (w.1.size+1+1) #[hb,hn,a0,a1,a2,a3,a4,a5,s0,s1,s2,s3,s4,s5,hl] 49:=by rw[hW];exact (((An.Ax _ _ _ _ _ (by simp) rfl).alloc _).alloc _).alloc _
 have k3:An W (w.1.size+1+1+1) #[(),(),(),(),(),(),(),(),(),(),(),(),(),(),false] 49:=by rw[hW];exact ((An.Ax _ _ _ _ _ (by simp) rfl).alloc _).alloc _
 have k4:An W (w.1.size+1+1+1+1) #[(),(),()] 33:=by rw[hW];exact (An.Ax _ _ _ _ _ (by simp) rfl).alloc _
 have k5:An W (w.1.size+1+1+1+1+1) #[.func (.func 85) #[] #[ptr (w.1.size+1+1)]] 166:=by rw[hW];exact An.Ax _ _ _ _ _ (by simp) rfl
 have hSW:=h1.below hbW;have bX:Stp (qi y) o o1 w W:=hS0.trans (Stp.of_below hbW);have AI:(A:Int)<6:=by omega
 have BI:(B:Int)<6:=by omega
 have HB:=Qa hbx;have HT:=Qa (fun X (j7:An X (w.1.size+1+1) (AE.cells (AE.put ⟨hb,hn,⟨a0,a1,a2,a3,a4,a5⟩,⟨s0,s1,s2,s3,s4,s5⟩,hl⟩ A rb)) 49)=>gd (AE.put ⟨hb,hn,⟨a0,a1,a2,a3,a4,a5⟩,⟨s0,s1,s2,s3,s4,s5⟩,hl⟩ A rb) 0 0 hn0 hb0 X j7)
 obtain⟨H',jG⟩:=Ja0 (AE.ended (AE.put ⟨hb,hn,⟨a0,a1,a2,a3,a4,a5⟩,⟨s0,s1,s2,s3,s4,s5⟩,hl⟩ A rb) 0);obtain⟨A',hA'⟩:=Ja0 (ky 0 0);rw[<-jG,<-hA']at HT ⊢;obtain⟨b',n',⟨r0,r1,r2,r3,r4,r5⟩,⟨p0,p1,p2,p3,p4,p5⟩,hl'⟩:=H';obtain⟨ak,ae,av⟩:=A';have HT:=Qa (fun X j7=>show Ab ANa 85 #[(),(),ptr (w.1.size+1+1)] X fun e' w'=>e'=O (Ak #[Al #[b',n',r0,r1,r2,r3,r4,r5,p0,p1,p2,p3,p4,p5,hl'],Al #[ak,ae,av]])/\Ae X X w' from HT.o X j7)
 have HI:=Qa hI;clear jG hA' hI hn0 hb0 h1 hS0 hbx;go_in;go_upto_region 3 with fail;rw[<-hW];clear hW;have cA:=jy (h:=⟨hb,hn,⟨a0,a1,a2,a3,a4,a5⟩,⟨s0,s1,s2,s3,s4,s5⟩,hl⟩) k2 hA;have cB:=jy (h:=⟨hb,hn,⟨a0,a1,a2,a3,a4,a5⟩,⟨s0,s1,s2,s3,s4,s5⟩,hl⟩) k2 hB;rw[hra]at cA;rw[hrb]at cB;have c1:=k1.cell;have l2:=k2.lt;go_quiet (fail);obtain⟨V,hV⟩:=Ja0 (W.drewN nq);have dA:Ae W W V:=by rw[hV];exact zo (qd _) _
 rw[<-hV];clear hV cA cB c1 l2;replace k0:=k0.below dA k0.lt;replace k1:=k1.below dA k1.lt;replace k2:=k2.below dA k2.lt;replace k3:=k3.below dA k3.lt;replace k4:=k4.below dA k4.lt;replace k5:=k5.below dA k5.lt;replace hSW:=hSW.below dA;replace bX:=bX.trans (Stp.of_below dA);have c0:=k0.cell;have c1:=k1.cell;have c5:=k5.cell;have cR:=jy (h:=⟨hb,hn,⟨a0,a1,a2,a3,a4,a5⟩,⟨s0,s1,s2,s3,s4,s5⟩,hl⟩) k2 hA;have z2:=k2.free;have l2:=k2.lt;have i5:=k5.Ao (a:=⟨(w.1.size+1+1),2+A,none⟩) (by show _≠(w.1.size+1+1);omega) (I Z rb)
 have ci5:(V.setCell ⟨(w.1.size+1+1),2+A,none⟩ rb).cell? ⟨(w.1.size+1+1+1+1+1),0,none⟩=_:=i5.cell 0;go_wp2_with fail;obtain⟨V2,hV2⟩:=Ja0 ((V.setCell ⟨(w.1.size+1+1),2+A,none⟩ rb));rw[<-hV2];have i2:An V2 (w.1.size+1+1) (AE.cells (AE.put ⟨hb,hn,⟨a0,a1,a2,a3,a4,a5⟩,⟨s0,s1,s2,s3,s4,s5⟩,hl⟩ A rb)) 49:=by rw[hV2];exact SZ (h:=⟨hb,hn,⟨a0,a1,a2,a3,a4,a5⟩,⟨s0,s1,s2,s3,s4,s5⟩,hl⟩) k2 hA _
 have i3:An V2 (w.1.size+1+1+1) #[(),(),(),(),(),(),(),(),(),(),(),(),(),(),false] 49:=by rw[hV2];exact k3.Ao (a:=⟨(w.1.size+1+1),2+A,none⟩) (by show _≠(w.1.size+1+1);omega) (I Z rb)
 have i4:An V2 (w.1.size+1+1+1+1) #[(),(),()] 33:=by rw[hV2];exact k4.Ao (a:=⟨(w.1.size+1+1),2+A,none⟩) (by show _≠(w.1.size+1+1);omega) (I Z rb)
 have hw:Wr (w.1.size+1+1) V V2:=by rw[hV2];exact Wr.set _ _ _ _
 have t2:Du y (o1 (w.1.size+1+1)):=HB.o _ (by omega)
 have hS2:=hSW.bx (Stp.Ci hw t2);have hs2:=bX.Dm hw (by omega)
 clear hV2;refine (HT.o _ i2).mono ?_
 rintro e5 w5 ⟨rfl,hb5⟩
 have m3:=i3.below hb5 i3.lt;have m4:=i4.below hb5 i4.lt;have hS5:=hS2.below hb5;have hs5:=hs2.trans (Stp.of_below hb5);clear c0 c1 c5 HT i2 i3 i4 hw hS2 hs2 hb5 k0 k1 k2 k3 k4 k5 hSW bX i5 ci5 cR z2 l2;have c3:=m3.cell;have z3:=m3.free;have l3:=m3.lt;have c4:=m4.cell;have z4:=m4.free;have l4:=m4.lt;have hres:=Qa (ji m3 m4 (by omega) ⟨b',n',⟨r0,r1,r2,r3,r4,r5⟩,⟨p0,p1,p2,p3,p4,p5⟩,hl'⟩ ⟨ak,ae,av⟩)
 have hrs:=Qa (wj hs5 (b6:=(w.1.size+1+1+1)) (b7:=(w.1.size+1+1+1+1)) (by omega) (by omega) ⟨b',n',⟨r0,r1,r2,r3,r4,r5⟩,⟨p0,p1,p2,p3,p4,p5⟩,hl'⟩ ⟨ak,ae,av⟩)
 have fE:=Qa (hS5.bx (yg w5 (w.1.size+1+1+1) (w.1.size+1+1+1+1) (o:=o1) (HB.o _ (by omega)) (HB.o _ (by omega)) ⟨b',n',⟨r0,r1,r2,r3,r4,r5⟩,⟨p0,p1,p2,p3,p4,p5⟩,hl'⟩ ⟨ak,ae,av⟩))
 clear m3 m4 hS5 hs5;go_wp2_with fail;change bodyPost _ _ _ _ _ (js w5 (w.1.size+1+1+1) (w.1.size+1+1+1+1) ⟨b',n',⟨r0,r1,r2,r3,r4,r5⟩,⟨p0,p1,p2,p3,p4,p5⟩,hl'⟩ ⟨ak,ae,av⟩);generalize js w5 (w.1.size+1+1+1) (w.1.size+1+1+1+1) ⟨b',n',⟨r0,r1,r2,r3,r4,r5⟩,⟨p0,p1,p2,p3,p4,p5⟩,hl'⟩ ⟨ak,ae,av⟩=X at *;exact bodyPost_ret (qr _ _ 8 9 rfl rfl rfl hres.o.1 hres.o.2) rfl ⟨rfl,o1,fE.o,HI.o,hrs.o⟩
def qq1 (hS:Av w o y S) (hI:Inv S) (hb hn a0 a1 a2 a3 a4 a5 s0 s1 s2 s3 s4 s5:Int) (hl:Bool) (A B:Nat) (fi fn:Int) (ra rb:Nat)
   (hA:A<6) (hB:B<6) (hra:R6.get ⟨a0,a1,a2,a3,a4,a5⟩ A=ra) (hrb:R6.get ⟨a0,a1,a2,a3,a4,a5⟩ B=rb) (hn0:0<=hn/\hn<=4096) (hb0:0<=hb/\hb<=4096) :
  Ab ANa 62 #[ptr y.sb,i,Al #[I Z 13,I Z A,I Z B,fi,fn],Al #[hb,hn,a0,a1,a2,a3,a4,a5,s0,s1,s2,s3,s4,s5,hl]] w fun e' w'=>e'=O (Ak #[(AE.ended (AE.put ⟨hb,hn,⟨a0,a1,a2,a3,a4,a5⟩,⟨s0,s1,s2,s3,s4,s5⟩,hl⟩ A 0) 0).v,(ky 0 0).val])/\Left y S o w w':=by
 have fH:∀ (fn:Fn) (first cap:Array Ac) (w:Aa),(Ad fn first cap).run ANa w=.ok (.func fn first cap) w:=fun _ _ _ _=>rfl
 obtain⟨o1,ho1,dN,hS0⟩:=PRe o w (y.l.id+1,0) (qi y);have h1:=hS.retag dN;clear dN
 have hbx:∀ b,w.1.size<=b->Du y (o1 b):=fun b hb=>by rw[ho1];exact qq hb
 clear ho1 hS;obtain⟨W,hW⟩:=Ja0 ((((((w.alloc (ANb #[ptr y.sb] 58)).alloc (ANb #[I Z 13,I Z A,I Z B,fi,fn] 44)).alloc (ANb #[hb,hn,a0,a1,a2,a3,a4,a5,s0,s1,s2,s3,s4,s5,hl] 49)).alloc (ANb #[(),(),(),(),(),(),(),(),(),(),(),(),(),(),false] 49)).alloc (ANb #[(),(),()] 33)).alloc (ANb #[.func (.func 85) #[] #[ptr (w.1.size+1+1)]] 166));have hbW:Ae w w W:=by rw[hW];exact qc (qc (qc (qc (qc (qc (qd w) _) _) _) _) _) _
 have k0:An W w #[ptr y.sb] 58:=by rw[hW];exact (((((An.new w _ _).alloc _).alloc _).alloc _).alloc _).alloc _
 have k1:An W (w.1.size+1) #[I Z 13,I Z A,I Z B,fi,fn] 44:=by rw[hW];exact ((((An.Ax _ _ _ _ _ (by simp) rfl).alloc _).alloc _).alloc _).alloc _
 have k2:An W (w.1.size+1+1) #[hb,hn,a0,a1,a2,a3,a4,a5,s0,s1,s2,s3,s4,s5,hl] 49:=by rw[hW];exact (((An.Ax _ _ _ _ _ (by simp) rfl).alloc _).alloc _).alloc _
 have k3:An W (w.1.size+1+1+1) #[(),(),(),(),(),(),(),(),(),(),(),(),(),(),false] 49:=by rw[hW];exact ((An.Ax _ _ _ _ _ (by simp) rfl).alloc _).alloc _
 have k4:An W (w.1.size+1+1+1+1) #[(),(),()] 33:=by rw[hW];exact (An.Ax _ _ _ _ _ (by simp) rfl).alloc _
 have k5:An W (w.1.size+1+1+1+1+1) #[.func (.func 85) #[] #[ptr (w.1.size+1+1)]] 166:=by rw[hW];exact An.Ax _ _ _ _ _ (by simp) rfl
 have hSW:=h1.below hbW;have bX:Stp (qi y) o o1 w W:=hS0.trans (Stp.of_below hbW);have AI:(A:Int)<6:=by omega
 have BI:(B:Int)<6:=by omega
 have HB:=Qa hbx;have HT:=Qa (fun X (j7:An X (w.1.size+1+1) (AE.cells (AE.put ⟨hb,hn,⟨a0,a1,a2,a3,a4,a5⟩,⟨s0,s1,s2,s3,s4,s5⟩,hl⟩ A 0)) 49)=>gd (AE.put ⟨hb,hn,⟨a0,a1,a2,a3,a4,a5⟩,⟨s0,s1,s2,s3,s4,s5⟩,hl⟩ A 0) 0 0 hn0 hb0 X j7)
 obtain⟨H',jG⟩:=Ja0 (AE.ended (AE.put ⟨hb,hn,⟨a0,a1,a2,a3,a4,a5⟩,⟨s0,s1,s2,s3,s4,s5⟩,hl⟩ A 0) 0);obtain⟨A',hA'⟩:=Ja0 (ky 0 0);rw[<-jG,<-hA']at HT ⊢;obtain⟨b',n',⟨r0,r1,r2,r3,r4,r5⟩,⟨p0,p1,p2,p3,p4,p5⟩,hl'⟩:=H';obtain⟨ak,ae,av⟩:=A';have HT:=Qa (fun X j7=>show Ab ANa 85 #[(),(),ptr (w.1.size+1+1)] X fun e' w'=>e'=O (Ak #[Al #[b',n',r0,r1,r2,r3,r4,r5,p0,p1,p2,p3,p4,p5,hl'],Al #[ak,ae,av]])/\Ae X X w' from HT.o X j7)
 have HI:=Qa hI;clear jG hA' hI hn0 hb0 h1 hS0 hbx;go_in;go_upto_region 3 with fail;rw[<-hW];clear hW;have cA:=jy (h:=⟨hb,hn,⟨a0,a1,a2,a3,a4,a5⟩,⟨s0,s1,s2,s3,s4,s5⟩,hl⟩) k2 hA;have cB:=jy (h:=⟨hb,hn,⟨a0,a1,a2,a3,a4,a5⟩,⟨s0,s1,s2,s3,s4,s5⟩,hl⟩) k2 hB;rw[hra]at cA;rw[hrb]at cB;have c1:=k1.cell;have l2:=k2.lt;go_quiet (fail);obtain⟨V,hV⟩:=Ja0 (W.drewN nq);have dA:Ae W W V:=by rw[hV];exact zo (qd _) _
 rw[<-hV];clear hV cA cB c1 l2;replace k0:=k0.below dA k0.lt;replace k1:=k1.below dA k1.lt;replace k2:=k2.below dA k2.lt;replace k3:=k3.below dA k3.lt;replace k4:=k4.below dA k4.lt;replace k5:=k5.below dA k5.lt;replace hSW:=hSW.below dA;replace bX:=bX.trans (Stp.of_below dA);have c0:=k0.cell;have c1:=k1.cell;have c5:=k5.cell;have cR:=jy (h:=⟨hb,hn,⟨a0,a1,a2,a3,a4,a5⟩,⟨s0,s1,s2,s3,s4,s5⟩,hl⟩) k2 hA;have z2:=k2.free;have l2:=k2.lt;have i5:=k5.Ao (a:=⟨(w.1.size+1+1),2+A,none⟩) (by show _≠(w.1.size+1+1);omega) (I Z 0)
 have ci5:(V.setCell ⟨(w.1.size+1+1),2+A,none⟩ (I Z 0)).cell? ⟨(w.1.size+1+1+1+1+1),0,none⟩=_:=i5.cell 0;go_wp2_with fail;obtain⟨V2,hV2⟩:=Ja0 ((V.setCell ⟨(w.1.size+1+1),2+A,none⟩ (I Z 0)));rw[<-hV2];have i2:An V2 (w.1.size+1+1) (AE.cells (AE.put ⟨hb,hn,⟨a0,a1,a2,a3,a4,a5⟩,⟨s0,s1,s2,s3,s4,s5⟩,hl⟩ A 0)) 49:=by rw[hV2];exact SZ (h:=⟨hb,hn,⟨a0,a1,a2,a3,a4,a5⟩,⟨s0,s1,s2,s3,s4,s5⟩,hl⟩) k2 hA _
 have i3:An V2 (w.1.size+1+1+1) #[(),(),(),(),(),(),(),(),(),(),(),(),(),(),false] 49:=by rw[hV2];exact k3.Ao (a:=⟨(w.1.size+1+1),2+A,none⟩) (by show _≠(w.1.size+1+1);omega) (I Z 0)
 have i4:An V2 (w.1.size+1+1+1+1) #[(),(),()] 33:=by rw[hV2];exact k4.Ao (a:=⟨(w.1.size+1+1),2+A,none⟩) (by show _≠(w.1.size+1+1);omega) (I Z 0)
 have hw:Wr (w.1.size+1+1) V V2:=by rw[hV2];exact Wr.set _ _ _ _
 have t2:Du y (o1 (w.1.size+1+1)):=HB.o _ (by omega)
 have hS2:=hSW.bx (Stp.Ci hw t2);have hs2:=bX.Dm hw (by omega)
 clear hV2;refine (HT.o _ i2).mono ?_
 rintro e5 w5 ⟨rfl,hb5⟩
 have m3:=i3.below hb5 i3.lt;have m4:=i4.below hb5 i4.lt;have hS5:=hS2.below hb5;have hs5:=hs2.trans (Stp.of_below hb5);clear c0 c1 c5 HT i2 i3 i4 hw hS2 hs2 hb5 k0 k1 k2 k3 k4 k5 hSW bX i5 ci5 cR z2 l2;have c3:=m3.cell;have z3:=m3.free;have l3:=m3.lt;have c4:=m4.cell;have z4:=m4.free;have l4:=m4.lt;have hres:=Qa (ji m3 m4 (by omega) ⟨b',n',⟨r0,r1,r2,r3,r4,r5⟩,⟨p0,p1,p2,p3,p4,p5⟩,hl'⟩ ⟨ak,ae,av⟩)
 have hrs:=Qa (wj hs5 (b6:=(w.1.size+1+1+1)) (b7:=(w.1.size+1+1+1+1)) (by omega) (by omega) ⟨b',n',⟨r0,r1,r2,r3,r4,r5⟩,⟨p0,p1,p2,p3,p4,p5⟩,hl'⟩ ⟨ak,ae,av⟩)
 have fE:=Qa (hS5.bx (yg w5 (w.1.size+1+1+1) (w.1.size+1+1+1+1) (o:=o1) (HB.o _ (by omega)) (HB.o _ (by omega)) ⟨b',n',⟨r0,r1,r2,r3,r4,r5⟩,⟨p0,p1,p2,p3,p4,p5⟩,hl'⟩ ⟨ak,ae,av⟩))
 clear m3 m4 hS5 hs5;go_wp2_with fail;change bodyPost _ _ _ _ _ (js w5 (w.1.size+1+1+1) (w.1.size+1+1+1+1) ⟨b',n',⟨r0,r1,r2,r3,r4,r5⟩,⟨p0,p1,p2,p3,p4,p5⟩,hl'⟩ ⟨ak,ae,av⟩);generalize js w5 (w.1.size+1+1+1) (w.1.size+1+1+1+1) ⟨b',n',⟨r0,r1,r2,r3,r4,r5⟩,⟨p0,p1,p2,p3,p4,p5⟩,hl'⟩ ⟨ak,ae,av⟩=X at *;exact bodyPost_ret (qr _ _ 8 9 rfl rfl rfl hres.o.1 hres.o.2) rfl ⟨rfl,o1,fE.o,HI.o,hrs.o⟩
end
section
variable {w w' : Aa} {o o' : Own} {y : Bl} {S : Am} {i : Nat}
def Inv.Ra (h:Inv S):Inv { S with came:=[] }:=⟨h.H,h.n2,h.lv,h.t1,h.t8,h.lg,h.st,h.ve,h.ho,h.sc,h.so,h.qu,h.nx,aj _,h.se,h.ph⟩
def Inv.Rm (h:Inv S):Inv { S with lost:=[] }:=⟨h.H,h.n2,h.lv,h.t1,h.t8,h.lg,h.st,h.ve,h.ho,h.sc,h.so,h.qu,h.nx,h.cm,h.se,h.ph⟩
def qpa (h:Av w o y S) :
  Ab ANa 26 #[ptr y.sb] w fun e w'=>∃ v,e=O v/\Row w' o (y.l.id,15) 3 1 v S.came.length (S.came.map nv)/\Av w' o y { S with came:=[] }/\Stp (fun t=>t=(y.l.id,11)) o o w w':=by
 obtain⟨vq,vl,vm,jb,hrw⟩:=h.A3;have hfin:=Qa (show Row (w.setCell ⟨y.sb,9,none⟩ (Ai none 0 0)) o (y.l.id,15) 3 1 vm S.came.length (S.came.map nv)/\Av (w.setCell ⟨y.sb,9,none⟩ (Ai none 0 0)) o y { S with came:=[] }/\Stp (fun t=>t=(y.l.id,11)) o o w (w.setCell ⟨y.sb,9,none⟩ (Ai none 0 0)) from by
  have k:Stp (fun t=>t=(y.l.id,11)) o o w (w.setCell ⟨y.sb,9,none⟩ (Ai none 0 0)):=(Stp.refl _ o w).setCell (by show o y.sb=_;exact h.os) _
  exact⟨hrw.m.Ar k (by simp),h.own (S':={ S with came:=[] }) rfl rfl rfl rfl rfl (jb.set 9 (Ai none 0 0)) ⟨hrw.q.Ar k (by simp),hrw.l.Ar k (by simp),Row.nil _ _ _ _ _⟩ (k.mono (by rintro _ rfl;exact⟨rfl,.inl rfl⟩)),k⟩)
 obtain⟨pa,cp,rfl⟩:=hrw.m.A6;unfold qm at jb;have c:=jb.cell;have z:=jb.free;have s:=jb.lt;clear h hrw;go_in;go_wp2_with fail;go_ret;exact⟨_,rfl,hfin.o⟩
def qox (h:Av w o y S) :
  Ab ANa 28 #[ptr y.sb] w fun e w'=>∃ v,e=O v/\Row w' o (y.l.id,14) 3 1 v S.lost.length (S.lost.map nv)/\Av w' o y { S with lost:=[] }/\Stp (fun t=>t=(y.l.id,11)) o o w w':=by
 obtain⟨vq,vl,vm,jb,hrw⟩:=h.A3;have hfin:=Qa (show Row (w.setCell ⟨y.sb,8,none⟩ (Ai none 0 0)) o (y.l.id,14) 3 1 vl S.lost.length (S.lost.map nv)/\Av (w.setCell ⟨y.sb,8,none⟩ (Ai none 0 0)) o y { S with lost:=[] }/\Stp (fun t=>t=(y.l.id,11)) o o w (w.setCell ⟨y.sb,8,none⟩ (Ai none 0 0)) from by
  have k:Stp (fun t=>t=(y.l.id,11)) o o w (w.setCell ⟨y.sb,8,none⟩ (Ai none 0 0)):=(Stp.refl _ o w).setCell (by show o y.sb=_;exact h.os) _
  exact⟨hrw.l.Ar k (by simp),h.own (S':={ S with lost:=[] }) rfl rfl rfl rfl rfl (jb.set 8 (Ai none 0 0)) ⟨hrw.q.Ar k (by simp),Row.nil _ _ _ _ _,hrw.m.Ar k (by simp)⟩ (k.mono (by rintro _ rfl;exact⟨rfl,.inl rfl⟩)),k⟩)
 obtain⟨pa,cp,rfl⟩:=hrw.l.A6;unfold qm at jb;have c:=jb.cell;have z:=jb.free;have s:=jb.lt;clear h hrw;go_in;go_wp2_with fail;go_ret;exact⟨_,rfl,hfin.o⟩
end
end
section
open Go.RowKit Go.Shelf Hp
attribute [local go_sem] Oper.semAt_some
def ry {F:Fence}{n:Nat}{P:Program}(w:Aa){ops:Array Oper}{rest:List Oper}{op:Oper}{a:Act}{Q:Exit->Act->Aa->Prop}(hgd:op.guard=none)(s x:Operand)(t:TypeId)
  (ho:op.op=.call { callee:=.builtin .append,args:=#[s,x],argTypes:=#[t,t] })
  (e:TypeId)(i:TypeInfo)(z:Ac)(size bytes:Nat)(ht:P.underlying t=some (.slice e))(hi:P.info? e=some i)(hz:i.zero=some z)
  (hsize:i.size=size)(hby:i.bytes=bytes)(hzs:z.cells.size=size)(hsz:0<size)
  (o:Own)(tg:Tag)(v:Ac)(k:Nat)(xs:List Ac)(hs:a.eval s=v)(hown:Row w o tg e size v k xs)
  (ad:Addr)(m c:Nat)(news:List Ac)(hx:a.eval x=Ai (some ad) m c)(hl:news.length=m*size)(hnews:∀ j u,news[j]?=some u->w.cell? (ad.add j)=some u)(h1:∀ u ∈ news,u.oneCell'=true)
  (h63:k+m<=maxLen)(hbytes:(k+m)*bytes<=140737488355328)
  (h:∀ v' w',Row w' (ext o w tg) tg e size v' (k+m) (xs++news)->Stp (fun u=>u=tg) o (ext o w tg) w w'->wpListIn F n P ops Q rest (a.put op.dst v') w'):wpListIn F n P ops Q (op::rest) a w:=by
 refine wpListIn_plain hgd fun K hK'=>?_
 obtain⟨v',w',hrun,r1,r2⟩:=yb (P:=P) w t op.type e i z size bytes ht hi hz hsize hby hzs hsz o tg v k xs hown ad m c news hl hnews h1 h63 hbytes;unfold Oper.wpIn;refine⟨?_,?_⟩
 ·simp[Oper.about,ho,resolve,Target.leads,Sem.run_pure]
 ·rw[Oper.semAt_plain F _ _ (by rw[ho];intro c hc';cases hc')]
  simp[execOp,ho,resolve,invoke,builtin,hs,hx,hrun,Result.andThen];exact hK' _ _ (h v' w' r1 r2)
def BV.R3 {w:Aa}{o:Own}{id k b:Nat}{L:Lg}{vr vk vh vu:Ac}(h:BV w o id k b L vr vk vh vu) :
  (∃ a c,vr=.slice a L.reads.length c/\(0<L.reads.length->a=some ⟨vy vr,0,none⟩))/\(∃ a c,vk=.slice a L.keeps.length c/\(0<L.keeps.length->a=some ⟨vy vk,0,none⟩)) /\
  (∃ a c,vh=.slice a L.holds.length c/\(0<L.holds.length->a=some ⟨vy vh,0,none⟩))/\(∃ a c,vu=.slice a L.Az.length c/\(0<L.Az.length->a=some ⟨vy vu,0,none⟩)):=by
 have f:∀ {e:TypeId}{size n:Nat}{t:Tag}{v:Ac}{xs:List Ac},Row w o t e size v n xs->∃ a c,v=.slice a n c/\(0<n->a=some ⟨vy v,0,none⟩):=by
  intro e size n t v xs hr;obtain⟨a,c,rfl⟩:=hr.A6;refine⟨a,c,rfl,fun hn=>?_⟩;obtain⟨cap,e1,_⟩:=ml hr hn;injection e1
 exact⟨f h.rr,f h.rk,f h.rh,f h.ru⟩
def BV.kinds {w:Aa}{o:Own}{id k b:Nat}{L:Lg}{vr vk vh vu:Ac}(h:BV w o id k b L vr vk vh vu)(j:Nat)(u:Un)(hu:L.Az[j]?=some u):w.cell? ⟨vy vu,j*4,none⟩=some (nv u.kind):=by
 have hn:0<L.Az.length:=by have:=(Qc.1 hu).1;omega
 obtain⟨cap,ev,_⟩:=ml h.ru hn;have hr:=h.ru;rw[ev]at hr;exact (hr.Np j u hu).1
def sk:∀ (us:List Un)(l:List Nat),(xf us l).map (·.kind)=us.map (·.kind)
 | [],_=>rfl
 | u::us,l=>by
  unfold xf;split
  ·rw[aG,aG,sk us]
  ·rw[aG,aG,sk us]
def BV.Gu {w:Aa}{o:Own}{id k b:Nat}{L:Lg}{q:List Nat}{vr vk vh vu:Ac}(h:BV w o id k b (L.put q) vr vk vh vu)(j:Nat)(u:Un)(hu:L.Az[j]?=some u):w.cell? ⟨vy vu,j*4,none⟩=some (nv u.kind):=by
 have e:=congrArg (fun l=>l[j]?) (sk L.Az (q.drop (L.reads.length+L.keeps.length+L.holds.length)))
 simp only[Qj,hu,Option.map_some]at e;obtain⟨z,hz,hk⟩:=Option.map_eq_some_iff.1 e;rw[h.kinds j z hz,hk]
abbrev tR:Tag:=(1,0)
abbrev tB:Tag:=(2,0)
structure Fe (w:Aa)(b:Nat)(L:Lg)(vr vk vh vu:Ac)(D bL bR:Nat)(R:Loop)(bA m:Nat)(o1:Own)(v:Ac)(wr:Aa):Prop where
 sp:Stp T2 ER o1 w wr
 hL:wr.heap[D+1]?=some (.loop R)
 hD:wr.heap[D]?=some (.deferred (some []))
 jA:An wr bA #[vr,vk] 23
 jL:An wr bL #[ptr b] 102
 jR:An wr bR #[v] 23
 row:Row wr o1 tR 3 1 v m ((L.roots.take m).map nv)
 tL:o1 (D+1)=tB
 tD:o1 D=tB
 tA:o1 bA=tB
 tl:o1 bL=tB
 tr:o1 bR=tB
section
variable {w : Aa} {b : Nat} {L : Lg} {vr vk vh vu : Ac} {D bL bR : Nat} {R : Loop} {bA m : Nat} {o1 o2 : Own} {v : Ac} {wr w2 : Aa}
def Fe.C8 (h:Fe w b L vr vk vh vu D bL bR R bA m o1 v wr){T:Tag->Prop}(hs:Stp T o1 o2 wr w2)(hB:¬T tB)(hR:¬T tR)(hT:∀ t,T t->T2 t):Fe w b L vr vk vh vu D bL bR R bA m o2 v w2:=
 have lL:=(Qf.1 h.hL).1
 have lD:=(Qf.1 h.hD).1
 ⟨h.sp.trans (hs.mono hT),(hs.block _ lL (by rw[h.tL];exact hB)).trans h.hL,(hs.block _ lD (by rw[h.tD];exact hB)).trans h.hD,h.jA.Ar hs (by rw[h.tA];exact hB),h.jL.Ar hs (by rw[h.tl];exact hB),h.jR.Ar hs (by rw[h.tr];exact hB),h.row.Ar hs hR,
  (hs.tags _ lL).trans h.tL,(hs.tags _ lD).trans h.tD,(hs.tags _ h.jA.lt).trans h.tA,(hs.tags _ h.jL.lt).trans h.tl,(hs.tags _ h.jR.lt).trans h.tr⟩
def Fe.below (h:Fe w b L vr vk vh vu D bL bR R bA m o1 v wr)(hb:Ae wr wr w2):Fe w b L vr vk vh vu D bL bR R bA m o1 v w2:=
 h.C8 (T:=fun _=>False) (Stp.of_below hb) id id fun _ h=>h.elim
end
section
variable {w : Aa} {b : Nat} {L : Lg} {vr vk vh vu : Ac} {D bL bR : Nat} {R : Loop} {bA m : Nat} {o1 o2 : Own} {v : Ac} {wr w2 : Aa}
def Fe.put (h:Fe w b L vr vk vh vu D bL bR R bA m o1 v wr)(hw:w.1.size<=D)(R':Loop):Fe w b L vr vk vh vu D bL bR R' bA m o1 v (wr.putObj (D+1) (.loop R')):=by
 have n1:bA≠D+1:=fun e=>by have:=h.jA;unfold An at this;rw[e,h.hL]at this;cases this
 have n2:bL≠D+1:=fun e=>by have:=h.jL;unfold An at this;rw[e,h.hL]at this;cases this
 have n3:bR≠D+1:=fun e=>by have:=h.jR;unfold An at this;rw[e,h.hL]at this;cases this
 exact⟨h.sp.Dk (by omega) _,aC (Qf.1 h.hL).1,(af (by omega)).trans h.hD,h.jA.put n1,h.jL.put n2,h.jR.put n3,h.row.put h.hL _,h.tL,h.tD,h.tA,h.tl,h.tr⟩
def QV:¬(tB=tR):=fun e=>by simp at e
def Fe.appended {v':Ac}{x:Nat}(h:Fe w b L vr vk vh vu D bL bR R bA m o1 v wr)(hs:Stp (fun u=>u=tR) o1 o2 wr w2)(hrow:Row w2 o2 tR 3 1 v' (m+1) ((L.roots.take m).map nv++[I Z x]))(htk:(L.roots.take (m+1)).map nv=(L.roots.take m).map nv++[nv x]) :
  An w2 bR #[v] 23/\Fe w b L vr vk vh vu D bL bR R bA (m+1) o2 v' (w2.setCell ⟨bR,0,none⟩ v'):=by
 have lL:=(Qf.1 h.hL).1;have lD:=(Qf.1 h.hD).1;have dR:An w2 bR #[v] 23:=h.jR.Ar hs (by rw[h.tr];exact QV)
 have tr2:o2 bR=tB:=(hs.tags _ h.jR.lt).trans h.tr;have k:Stp (fun u=>u=tB) o2 o2 w2 (w2.setCell ⟨bR,0,none⟩ v'):=(Stp.refl _ o2 w2).setCell (by show o2 bR=tB;exact tr2) v'
 have hL2:=(hs.block _ lL (by rw[h.tL];exact QV)).trans h.hL
 have hD2:=(hs.block _ lD (by rw[h.tD];exact QV)).trans h.hD
 have mY:=h.jA.Ar hs (by rw[h.tA];exact QV)
 have jL2:=h.jL.Ar hs (by rw[h.tl];exact QV)
 have n1:bA≠bR:=fun e=>by unfold An at mY dR;rw[e,dR]at mY;simp at mY
 have n2:bL≠bR:=fun e=>by unfold An at jL2 dR;rw[e,dR]at jL2;simp at jL2
 have n3:D≠bR:=fun e=>by unfold An at dR;rw[e,dR]at hD2;cases hD2
 have n4:D+1≠bR:=fun e=>by unfold An at dR;rw[e,dR]at hL2;cases hL2
 refine⟨dR,(h.sp.trans (hs.mono fun _ h=>Or.inl h)).trans (k.mono fun _ h=>Or.inr h),(Below.heap_setCell _ _ _ _ n4).trans hL2,(Below.heap_setCell _ _ _ _ n3).trans hD2,mY.Ao n1 _,jL2.Ao n2 _,dR.set 0 v',?_,(hs.tags _ lL).trans h.tL,(hs.tags _ lD).trans h.tD,(hs.tags _ h.jA.lt).trans h.tA,(hs.tags _ h.jL.lt).trans h.tl,tr2⟩
 rw[htk];exact hrow.Ar k (fun e=>QV e.symm)
def Row.TL {e:TypeId}{size n:Nat}{t:Tag}{o:Own}{v:Ac}{xs:List Ac}(h:Row wr o t e size v n xs){l:Nat}{ds:Option (List Deferred)}(hl:wr.heap[l]?=some (.deferred ds))(x:Obj):Row (wr.putObj l x) o t e size v n xs:=by
 obtain⟨⟨h1,h2⟩,h3⟩:=h;refine⟨⟨h1,?_⟩,h3⟩;rcases h2 with h2|⟨g,cap,cur,rfl,hg,hh,r⟩
 ·exact .inl h2
 ·refine .inr ⟨g,cap,cur,rfl,hg,(af fun e=>?_).trans hh,r⟩
  rw[e,hl]at hh;cases hh
def Row.mixed {e:TypeId}{size n:Nat}{v:Ac}{xs:List Ac}{w9:Aa}(hs:Stp T2 ER o1 w wr)(h:Row w9 o1 (1,0) e size v n xs):Row w9 (fo w) (1,0) e size v n xs:=by
 refine⟨h.own,fun b hb=>?_⟩
 have h1:=h.tag b hb;rcases Nat.lt_or_ge b w with h2|h2
 ·rw[hs.tags b h2]at h1;simp[ER]at h1
 ·exact Jh h2
end
def qij {l:List Nat}{k x:Nat}(h:l[k]?=some x):(l.take (k+1)).map nv=(l.take k).map nv++[nv x]:=by rw[ke h,Qw];rfl
def Xm {w:Aa} {o:Own} {id k b:Nat} {L:Lg} {vr vk vh vu:Ac} (h:BV w o id k b L vr vk vh vu) (hk:L.fit) :
  Ab ANa 51 #[ptr b] w fun e w'=>∃ v,e=O v/\Row w' (fo w) (1,0) 3 1 v L.roots.length (L.roots.map nv)/\Ae w w w':=by
 have hN:L.roots.length<=1000:=by
  have h1:=vi vr vk vh vu L;have h2:=hk.ok.r;have h3:=hk.ok.k;have h4:=hk.ok.h;have h5:=hk.ok.u;have h6:=hk.ok.mr;have h7:=hk.ok.mu;have h8:∀ us:List Un,(us.flatMap Un.places).length<=us.length*2:=fun us=>by
   induction us with
   | nil=>simp
   | cons u us ih =>
    rw[aA,Qd,Qv];have:u.places.length<=2:=by unfold Un.places;split<;>simp
    omega
  have h9:=h8 L.Az;have h0:L.roots.length=L.reads.length+L.keeps.length+L.holds.length+(L.Az.flatMap Un.places).length:=by unfold Lg.roots;simp only[Qd,Qg]
  omega
 have hsl:=h.R3
 have uG:=Qa (fun (w':Aa) (hw:Ae w w w') (m:Nat) (a:Addr) (ha:(ya vr vk vh vu L)[m]?=some a) =>
  show w'.cell? a=(L.roots[m]?).map nv/\a.spot=none from by
   have hp:=BV.place L.roots rfl (by rw[Xu hk];exact h.below hw) ha
   exact⟨hp.1,hp.2.1⟩)
 have HKd:=Qa (fun (w':Aa) (hw:Ae w w w')=>(h.below hw).kinds)
 have oz:=Qa (fun (w':Aa) (hw:Ae w w w')=>h.A3.below hw h.A3.lt)
 have HLt:=Qa h.A3.lt;have HN:=Qa hN;have n1:L.reads.length<=200:=by have:=hk.ok.r;have:=hk.ok.mr;omega
 have n2:L.keeps.length<=200:=by have:=hk.ok.k;have:=hk.ok.mr;omega
 have n3:L.holds.length<=200:=by have:=hk.ok.h;have:=hk.ok.mu;omega
 have n4:L.Az.length<=200:=by have:=hk.ok.u;have:=hk.ok.mu;omega
 have mF:=Qa hsl;have lX:=Qa (Aj n1 (Aj n2 (Aj n3 n4)));clear h hN hsl n1 n2 n3 n4;refine (callsIn_wide (n:=3)).1 ?_;refine callsIn_of_wp_marks func51 rfl trivial ?_ rfl;simp only[ntmps51,aR,Qv,aV,Nat.reduceAdd,Nat.reduceSub,Array.replicate_succ,Array.replicate_zero,aS,aN,aJ,aT];gi_wp2_with (refine⟨trivial,?_⟩;gi_at_call 77;refine (callsIn_wide.2 (ll b _)).mono ?_;rintro e w2 ⟨rfl,rfl⟩);obtain⟨W0,hW0⟩:=Ja0 ((w.alloc (ANb #[Ai none 0 0] 23)).alloc (ANb #[ptr b] 102));have hb0:Ae w w W0:=by rw[hW0];exact qc (qc (qd _) _) _
 have jR0:An W0 w #[Ai none 0 0] 23:=by rw[hW0];exact (An.new w _ _).alloc _
 have pR:An W0 (w.1.size+1) #[ptr b] 102:=by rw[hW0];exact An.Ax _ _ _ _ _ (by simp) rfl
 try rw[<-hW0]
 clear hW0;refine ym (gf:=123) (lb:=#[ptr (w.1.size+1)]) (by simp[go_sem]) (enters_of func123 (by kernel_rfl) rfl) ?_
 intro fn W1 R hW1 hR;obtain⟨D,hD⟩:=Ja0 W0.1.size;have dG:Ae W0 W0 W1:=by rw[hW1];exact qc (qc (qd _) _) _
 have hL1:W1.heap[D+1]?=some (.loop R):=by rw[hW1,hD];have:=ag (W0.alloc (.deferred (some []))) (.loop R);rwa [aI]at this
 have hD1:W1.heap[D]?=some (.deferred (some [])):=by rw[hW1,hD];exact (Below.heap_alloc _ _ _ (by simp)).trans (ag W0 _)
 have hRs:R.params.size=1:=by rw[hR];rfl
 rw[<-hD];have jF:w.1.size<=D:=by rw[hD];exact hb0.size
 have lH:=pR.below dG pR.lt;have jR1:=jR0.below dG jR0.lt;have hb1:Ae w w W1:=qe hb0 dG;have uY:=oz.o W1 hb1;have hDz:D+1<W1.1.size:=(Qf.1 hL1).1;have HR:=Qa hR;clear hR hW1 dG pR jR0 hb0 hD;refine bg (fun bA m wr=>∃ o1 v,Fe w b L vr vk vh vu D (w.1.size+1) w.1.size R bA m o1 v wr) hRs lX.o.1 lX.o.2.1 lX.o.2.2.1 lX.o.2.2.2 mF.o.1 mF.o.2.1 mF.o.2.2.1 mF.o.2.2.2 lH uY ?_ ?_ ?_ ?_
 ·intro W2 bA hb fU jA
  refine⟨ext ER w tB,Ai none 0 0,(Stp.of_below (qe hb1 hb)).ext _ _ (Qk _),(hb.block _ hDz).trans hL1,(hb.block _ (by omega)).trans hD1,jA,lH.below hb lH.lt,jR1.below hb jR1.lt,Row.nil _ _ _ _ _,qq (by omega),qq (by omega),qq (by have:=hb1.size;omega),qq (by omega),qq (Qk _)⟩
 ·rintro bA m wr ⟨o1,v,h⟩
  have hb:=T2.below h.sp;exact⟨h.jA,h.jL,oz.o wr hb,h.hL,HKd.o wr hb⟩
 ·rintro bA m wr a T ⟨o1,v,h⟩ ha hT
  have hb:=T2.below h.sp;obtain⟨hc,hsp⟩:=uG.o wr hb m a ha;obtain⟨g,ax,asp⟩:=a;simp only at hsp;subst hsp;have hm:m<L.roots.length:=by rw[<-vi vr vk vh vu L];exact (Qc.1 ha).1
  obtain⟨x,hx⟩:∃ x,L.roots[m]?=some x:=⟨_,Qb hm⟩;rw[hx]at hc;replace hc:wr.cell? ⟨g,ax,none⟩=some (I Z x):=hc;have hN9:=HN.o;have dE:m+1<=maxLen:=by simp only[maxLen];omega
  have hmb:(m+1)*8<=140737488355328:=by omega
  have htk:=qij hx;obtain⟨Post,bV⟩:∃ Post:Ending->Aa->Prop,Post=fun e W'=>e=O (.bool true)/\∃ o1 v,Fe w b L vr vk vh vu D (w.1.size+1) w.1.size R bA (m+1) o1 v W':=⟨_,rfl⟩;rw[<-bV,hT];have hst:R.state=.ready:=by rw[HR.o]
  have hpe:R.pending=none:=by rw[HR.o]
  have HST:=Qa hst;have kM:=Qa hpe;have dK:=Qa bV;have fI:=Qa htk;clear hst hpe bV hT htk hx hm ha hN9;rw[HR.o];refine roundIn_of_wpIn trivial ?_;gi_wp2;refine ul h.hL HST.o ?_;intro W3 hW3 pV;have h3:Fe w b L vr vk vh vu D (w.1.size+1) w.1.size { R with state:=.busy } bA m o1 v W3:=by rw[hW3];exact h.put jF _
  have hc3:W3.cell? ⟨g,ax,none⟩=some (I Z x):=by
   have hg:g≠D+1:=fun e=>by rw[e]at hc;simp[aL,h.hL]at hc
   rw[hW3];have:=af (w:=wr) (o:=.loop { R with state:=.busy }) hg;simp only[aL,this]at hc ⊢;exact hc
  clear hW3 pV h hc;have hend:=Qa (fun (W4:Aa) (o4:Own) (v4:Ac) (fB:Fe w b L vr vk vh vu D (w.1.size+1) w.1.size { R with state:=.busy } bA (m+1) o4 v4 W4) =>
   show ∃ v w5,(aM (D+1) none).run ANa W4=.ok v w5/\Post (O v) w5 from by
    refine RJ fB.hL HST.o kM.o ?_;intro W5 cO _;rw[dK.o];exact⟨rfl,o4,v4,by rw[cO];exact fB.put jF R⟩)
  obtain⟨pa,cp,rfl⟩:=h3.row.A6;have cR:W3.cell? ⟨w,0,none⟩=some (.slice pa m cp):=h3.jR.cell 0;obtain⟨iI,hi,hsI,cK,bZ⟩:=zm;have h4:=h3.below (w2:=W3.drew.alloc (ANb #[x] 3)) (qc (qf (qd _)) _);have HL:=Qa (fun (v':Ac) (w':Aa) (o2:Own) (hrow:Row w' o2 tR 3 1 v' (m+1) ((L.roots.take m).map nv++[I Z x])) (hst:Stp (fun u=>u=tR) o1 o2 (W3.drew.alloc (ANb #[x] 3)) w') =>
   let h:=h4.appended hst hrow fI.o
   Aj h.1 (hend.o _ _ _ h.2))
  have H4r:=Qa h4.row;have sR3:w.1.size<W3.1.size:=h3.jR.lt;have cR4:(W3.alloc (ANb #[x] 3)).cell? ⟨w,0,none⟩=some (.slice pa m cp):=(h3.jR.alloc _).cell 0;clear h3 h4 hend;gi_wp2;refine ld (by kernel_rfl) [[0,1,2,3,4,5,6],[1,0,2,3,4,5,6],[1,2,0,3,4,5,6],[1,2,3,0,4,5,6],[1,2,3,4,0,5,6]] (by kernel_rfl) (by decide) ?_
  intro is his;simp only[aX,List.not_mem_nil,or_false]at his;rcases his with rfl|rfl|rfl|rfl|rfl
  all_goals simp only[gj,List.drop_succ_cons,aW]
  all_goals gi_wp2_with (first
   | (gi_at_builtin;refine ry _ rfl _ _ _ rfl 3 iI _ 1 8 underlying23 hi bZ hsI cK rfl (by decide) o1 tR _ m _ rfl H4r.o ⟨W3,0,none⟩ 1 1 [I Z x] rfl rfl (qx (An.new W3.drew _ _)) jh dE hmb ?_;intro v' w' hrow hst;obtain⟨pa',cp',rfl⟩:=hrow.A6;obtain⟨j5,HH5⟩:=HL.o _ _ _ hrow hst;have cR5:w'.cell? ⟨w,0,none⟩=some (.slice pa m cp):=j5.cell 0;have zR5:=j5.free 0;have sR5:=j5.lt;replace HH5:=Qa HH5;clear hrow hst j5)
   | fail)
  all_goals exact HH5.o
 ·rintro bA wr ⟨o1,v,h⟩
  rw[vi]at h;have hst:R.state≠.busy:=by rw[HR.o];simp
  have hpe:R.pending=none:=by rw[HR.o]
  refine dy h.hL hst ?_;intro W4 dX;have h4:Fe w b L vr vk vh vu D (w.1.size+1) w.1.size { R with state:=.exhausted } bA L.roots.length o1 v W4:=by rw[dX];exact h.put jF _
  rw[hpe];dsimp only;have HH:=Qa h4;have cR:W4.cell? ⟨w,0,none⟩=some v:=h4.jR.cell 0;obtain⟨pa,cp,rfl⟩:=h4.row.A6;clear h h4 dX hst hpe HR hL1 hD1 lH jR1 uY hb1 oz uG HKd;gi_wp2;refine⟨by simp,.inl ⟨_,_,rfl,run_takeDeferred HH.o.hD,?_⟩⟩
  refine⟨.slice pa L.roots.length cp,by simp[results,results51,go_sem],.slice pa L.roots.length cp,rfl,?_,?_⟩
  ·have hr:=HH.o.row
   rw[aa]at hr;have hs:=HH.o.sp;refine Row.mixed hs (hr.TL HH.o.hD _)
  ·exact FJ (T2.below HH.o.sp) jF _
def tw (id k:Nat)(t:Tag):Prop:=t.1=id/\k+1<=t.2/\t.2<=k+4
def Nk (T:Tag->Prop)(w:Aa)(o:Own)(v:Ac)(l:List Nat):Prop:=
 ∃ a c,v=.slice a l.length c/\∀ (j x:Nat),l[j]?=some x->∃ g off,a=some ⟨g,off,none⟩/\g<w.1.size/\¬T (o g)/\w.cell? ⟨g,off+j,none⟩=some (nv x)
structure La (w:Aa)(b:Nat)(vr vk v:Ac)(D bL bP bN:Nat)(R:Loop)(bA m:Nat)(wr:Aa):Prop where
 bl:Ae w w wr
 hL:wr.heap[D+1]?=some (.loop R)
 hD:wr.heap[D]?=some (.deferred (some []))
 jA:An wr bA #[vr,vk] 23
 jL:An wr bL #[ptr b] 102
 jP:An wr bP #[v] 23
 jN:An wr bN #[m] 3
structure Ld (w:Aa)(o:Own)(id k b:Nat)(L:Lg)(ps:List Nat)(vr vk vh vu v:Ac)(D0 D bL bP bI:Nat)(R:Loop)(o1:Own)(bA m:Nat)(wr:Aa):Prop where
 sp:Stp (tw id k) o o1 w wr
 lg:BV wr o1 id k b (L.put (ps.take m++L.roots.drop m)) vr vk vh vu
 hL:wr.heap[D+1]?=some (.loop R)
 hD:wr.heap[D]?=some (.deferred (some []))
 h0:wr.heap[D0]?=some (.deferred (some []))
 jA:An wr bA #[vr,vk] 23
 jL:An wr bL #[ptr b] 102
 jP:An wr bP #[v] 23
 jI:An wr bI #[m] 3
 tL:o1 (D+1)=(id+1,0)
 tD:o1 D=(id+1,0)
 t0:o1 D0=(id+1,0)
 tA:o1 bA=(id+1,0)
 tl:o1 bL=(id+1,0)
 tP:o1 bP=(id+1,0)
 tI:o1 bI=(id+1,0)
def NS (id k:Nat):¬tw id k (id+1,0):=fun h=>by have:=h.1;simp at this
section
variable {w : Aa} {b : Nat} {L : Lg} {vr vk vh vu v : Ac} {D D0 bL bP bN bI : Nat} {R : Loop} {bA m : Nat} {wr w2 : Aa} {o o1 : Own} {id k : Nat} {ps : List Nat}
def La.put (h:La w b vr vk v D bL bP bN R bA m wr)(hw:w.1.size<=D)(R':Loop):La w b vr vk v D bL bP bN R' bA m (wr.putObj (D+1) (.loop R')):=by
 have n1:bA≠D+1:=fun e=>by have:=h.jA;unfold An at this;rw[e,h.hL]at this;cases this
 have n2:bL≠D+1:=fun e=>by have:=h.jL;unfold An at this;rw[e,h.hL]at this;cases this
 have n3:bP≠D+1:=fun e=>by have:=h.jP;unfold An at this;rw[e,h.hL]at this;cases this
 have n4:bN≠D+1:=fun e=>by have:=h.jN;unfold An at this;rw[e,h.hL]at this;cases this
 exact⟨FJ h.bl (by omega) _,aC (Qf.1 h.hL).1,(af (by omega)).trans h.hD,h.jA.put n1,h.jL.put n2,h.jP.put n3,h.jN.put n4⟩
def La.step (h:La w b vr vk v D bL bP bN R bA m wr)(hw:w.1.size<=bN):La w b vr vk v D bL bP bN R bA (m+1) (wr.setCell ⟨bN,0,none⟩ (I Z ((m:Int)+1))):=by
 have n1:bA≠bN:=fun e=>by have h1:=h.jA;have h2:=h.jN;unfold An at h1 h2;rw[e,h2]at h1;simp at h1
 have n2:bL≠bN:=fun e=>by have h1:=h.jL;have h2:=h.jN;unfold An at h1 h2;rw[e,h2]at h1;simp at h1
 have n3:bP≠bN:=fun e=>by have h1:=h.jP;have h2:=h.jN;unfold An at h1 h2;rw[e,h2]at h1;simp at h1
 have n4:D≠bN:=fun e=>by have h2:=h.jN;have h1:=h.hD;unfold An at h2;rw[e,h2]at h1;cases h1
 have n5:D+1≠bN:=fun e=>by have h2:=h.jN;have h1:=h.hL;unfold An at h2;rw[e,h2]at h1;cases h1
 exact⟨qo h.bl hw _,(Below.heap_setCell _ _ _ _ n5).trans h.hL,(Below.heap_setCell _ _ _ _ n4).trans h.hD,h.jA.Ao n1 _,h.jL.Ao n2 _,h.jP.Ao n3 _,h.jN.set 0 _⟩
def Ld.put (h:Ld w o id k b L ps vr vk vh vu v D0 D bL bP bI R o1 bA m wr)(hw:w.1.size<=D)(_:L.fit)(R':Loop):Ld w o id k b L ps vr vk vh vu v D0 D bL bP bI R' o1 bA m (wr.putObj (D+1) (.loop R')):=by
 have n1:bA≠D+1:=fun e=>by have:=h.jA;unfold An at this;rw[e,h.hL]at this;cases this
 have n2:bL≠D+1:=fun e=>by have:=h.jL;unfold An at this;rw[e,h.hL]at this;cases this
 have n3:bP≠D+1:=fun e=>by have:=h.jP;unfold An at this;rw[e,h.hL]at this;cases this
 have n4:bI≠D+1:=fun e=>by have:=h.jI;unfold An at this;rw[e,h.hL]at this;cases this
 have n5:D0≠D+1:=fun e=>by have:=h.h0;rw[e,h.hL]at this;cases this
 have s1:Stp (fun t=>t=(id+1,0)) o1 o1 wr (wr.putObj (D+1) (.loop R')):=(Stp.refl _ o1 wr).put (by rw[h.tL]) _
 exact⟨h.sp.Dk (by omega) _,h.lg.Ar s1 (fun j _ e=>by simp at e),aC (Qf.1 h.hL).1,(af (by omega)).trans h.hD,(af n5).trans h.h0,h.jA.put n1,h.jL.put n2,h.jP.put n3,h.jI.put n4,h.tL,h.tD,h.t0,h.tA,h.tl,h.tP,h.tI⟩
def Ld.step (h:Ld w o id k b L ps vr vk vh vu v D0 D bL bP bI R o1 bA m wr)(hq:ps.length=L.roots.length)(hw:w.1.size<=bI){g ax x:Nat}(ha:(ya vr vk vh vu L)[m]?=some ⟨g,ax,none⟩)(hx:ps[m]?=some x) :
  g≠bI/\(∃ u,wr.cell? ⟨g,ax,none⟩=some u)/\wr.frozen? ⟨g,ax,none⟩=false/\g<wr.1.size/\Ld w o id k b L ps vr vk vh vu v D0 D bL bP bI R o1 bA (m+1) ((wr.setCell ⟨g,ax,none⟩ x).setCell ⟨bI,0,none⟩ (I Z ((m:Int)+1))):=by
 have hm:m<L.roots.length:=by rw[<-vi vr vk vh vu L];exact (Qc.1 ha).1
 have mV:(ps.take m++L.roots.drop m).length=L.roots.length:=by rw[Qd,Qp,ay];omega
 obtain⟨c1,_,c3,c4,⟨j,j1,j2,j3⟩,c6⟩:=BV.place (ps.take m++L.roots.drop m) mV h.lg ha;simp only at c3 j3;have CL:(ps.take m++L.roots.drop m).set m x=ps.take (m+1)++L.roots.drop (m+1):=px ps L.roots m x hx hm;have hl:=c6 x;rw[CL]at hl;have tg:tw id k (o1 g):=by rw[j3];exact⟨rfl,by simp only;omega,by simp only;omega⟩
 have no:∀ c,o1 c=(id+1,0)->c≠g:=fun c hc e=>NS id k (by rw[<-hc,e];exact tg)
 have n0:=no _ h.tI;have s1:Stp (tw id k) o1 o1 wr (wr.setCell ⟨g,ax,none⟩ x):=(Stp.refl _ o1 wr).setCell tg _;have s2:Stp (fun t=>t=(id+1,0)) o1 o1 (wr.setCell ⟨g,ax,none⟩ x) ((wr.setCell ⟨g,ax,none⟩ x).setCell ⟨bI,0,none⟩ (I Z ((m:Int)+1))):=(Stp.refl _ o1 _).setCell (by show o1 bI=_;exact h.tI) _
 have nI:∀ {c:Nat}{cs:Array Ac}{t:TypeId},An wr c cs t->(cs.size≠1\/t≠3)->c≠bI:=fun hc hne e=>by
  have h2:=h.jI;unfold An at hc h2;rw[e,h2]at hc;rcases hne with hne|hne
  ·injection hc with hc;injection hc with hc hc2;rw[<-hc]at hne;simp at hne
  ·injection hc with hc;injection hc with hc hc2;exact hne hc2.symm
 have nA:=nI h.jA (.inl (by simp))
 have nL:=nI h.jL (.inr (by decide))
 have nP:=nI h.jP (.inr (by decide))
 have nD:D≠bI:=fun e=>by have h2:=h.jI;have h1:=h.hD;unfold An at h2;rw[e,h2]at h1;cases h1
 have nE:D+1≠bI:=fun e=>by have h2:=h.jI;have h1:=h.hL;unfold An at h2;rw[e,h2]at h1;cases h1
 have nF:D0≠bI:=fun e=>by have h2:=h.jI;have h1:=h.h0;unfold An at h2;rw[e,h2]at h1;cases h1
 refine⟨n0.symm,⟨_,by rw[c1,Qb (by rw[mV];exact hm)];rfl⟩,c4,c3,?_⟩
 refine⟨(h.sp.trans s1).setCell_new hw _,hl.Ar s2 (fun j _ e=>by simp at e),?_,?_,?_,?_,?_,?_,?_,h.tL,h.tD,h.t0,h.tA,h.tl,h.tP,h.tI⟩
 ·exact (Below.heap_setCell _ _ _ _ nE).trans ((Below.heap_setCell _ _ _ _ (no _ h.tL)).trans h.hL)
 ·exact (Below.heap_setCell _ _ _ _ nD).trans ((Below.heap_setCell _ _ _ _ (no _ h.tD)).trans h.hD)
 ·exact (Below.heap_setCell _ _ _ _ nF).trans ((Below.heap_setCell _ _ _ _ (no _ h.t0)).trans h.h0)
 ·exact (h.jA.Ao (no _ h.tA) _).Ao nA _
 ·exact (h.jL.Ao (no _ h.tl) _).Ao nL _
 ·exact (h.jP.Ao (no _ h.tP) _).Ao nP _
 ·exact (h.jI.Ao n0 _).set 0 _
end
def XJ {L:Lg}(hk:L.fit):L.roots.length<=1000:=by
 have h2:=hk.ok.r;have h3:=hk.ok.k;have h4:=hk.ok.h;have h5:=hk.ok.u;have h6:=hk.ok.mr;have h7:=hk.ok.mu;have h8:∀ us:List Un,(us.flatMap Un.places).length<=us.length*2:=fun us=>by
  induction us with
  | nil=>simp
  | cons u us ih =>
   rw[aA,Qd,Qv];have:u.places.length<=2:=by unfold Un.places;split<;>simp
   omega
 have h9:=h8 L.Az;have h0:L.roots.length=L.reads.length+L.keeps.length+L.holds.length+(L.Az.flatMap Un.places).length:=by unfold Lg.roots;simp only[Qd,Qg]
 omega
def zc (k:Nat)(h:k<=4611686018427387904):wrap64 ((k:Int)+1)=(k:Int)+1/\IntKind.i64.wrap ((k:Int)+1)=(k:Int)+1:=by
 have h1:(-9223372036854775808:Int)<=(k:Int)+1/\(k:Int)+1<=9223372036854775807:=by omega
 exact⟨IntWalk.wrap64_in _ h1,IntWalk.i64_in _ h1⟩
def qjh {w:Aa} {o:Own} {id k b:Nat} {L:Lg} {vr vk vh vu v:Ac} (h:BV w o id k b L vr vk vh vu) (hk:L.fit) {ps:List Nat} (hv:Nk (tw id k) w o v ps) (hn:ps.length=L.roots.length) :
  Ab ANa 52 #[ptr b,v] w fun e w'=>e=O (.bool true)/\∃ o',BV w' o' id k b (L.put ps) vr vk vh vu/\Stp (tw id k) o o' w w':=by
 have hN:=XJ hk;obtain⟨pa,cp,rfl,hps⟩:=hv;have hsl:=h.R3;have HKd:=Qa (fun (w':Aa) (hw:Ae w w w')=>(h.below hw).kinds)
 have oz:=Qa (fun (w':Aa) (hw:Ae w w w')=>h.A3.below hw h.A3.lt)
 have n1:L.reads.length<=200:=by have:=hk.ok.r;have:=hk.ok.mr;omega
 have n2:L.keeps.length<=200:=by have:=hk.ok.k;have:=hk.ok.mr;omega
 have n3:L.holds.length<=200:=by have:=hk.ok.h;have:=hk.ok.mu;omega
 have n4:L.Az.length<=200:=by have:=hk.ok.u;have:=hk.ok.mu;omega
 have mF:=Qa hsl;have lX:=Qa (Aj n1 (Aj n2 (Aj n3 n4)));have HN:=Qa hN;have HPs:=Qa hps;have Hn:=Qa hn;have HH:=Qa h;have HK:=Qa hk;obtain⟨n,hnn⟩:=Ja0 ps.length;rw[<-hnn];have HNN:=Qa hnn;clear h hk hN hsl n1 n2 n3 n4 hps hn hnn;refine (callsIn_wide (n:=3)).1 ?_;refine callsIn_of_wp_marks func52 rfl trivial ?_ rfl;simp only[ntmps52,aR,Qv,aV,Nat.reduceAdd,Nat.reduceSub,Array.replicate_succ,Array.replicate_zero,aS,aN,aJ,aT];gi_wp2_with (refine⟨trivial,?_⟩;gi_at_call 77;refine (callsIn_wide.2 (ll b _)).mono ?_;rintro e w2 ⟨rfl,rfl⟩);obtain⟨W0,hW0⟩:=Ja0 (((w.alloc (ANb #[.slice pa n cp] 23)).alloc (ANb #[()] 3)).alloc (ANb #[ptr b] 102));have hb0:Ae w w W0:=by rw[hW0];exact qc (qc (qc (qd _) _) _) _
 have xV:An W0 w #[.slice pa n cp] 23:=by rw[hW0];exact ((An.new w _ _).alloc _).alloc _
 have jN0:An W0 (w.1.size+1) #[()] 3:=by rw[hW0];exact (An.Ax _ _ _ _ _ (by simp) rfl).alloc _
 have pR:An W0 (w.1.size+1+1) #[ptr b] 102:=by rw[hW0];exact An.Ax _ _ _ _ _ (by simp) rfl
 rw[<-hW0];clear hW0;refine ym (gf:=123) (lb:=#[ptr (w.1.size+1+1)]) (by simp[go_sem]) (enters_of func123 (by kernel_rfl) rfl) ?_
 intro fn W1 R hW1 hR;obtain⟨D,hD⟩:=Ja0 W0.1.size;have dG:Ae W0 W0 W1:=by rw[hW1];exact qc (qc (qd _) _) _
 have hL1:W1.heap[D+1]?=some (.loop R):=by rw[hW1,hD];have:=ag (W0.alloc (.deferred (some []))) (.loop R);rwa [aI]at this
 have hD1:W1.heap[D]?=some (.deferred (some [])):=by rw[hW1,hD];exact (Below.heap_alloc _ _ _ (by simp)).trans (ag W0 _)
 have hRs:R.params.size=1:=by rw[hR];rfl
 rw[<-hD];have jF:w.1.size<=D:=by rw[hD];exact hb0.size
 have lH:=pR.below dG pR.lt;have qL:=xV.below dG xV.lt;have zZ:=jN0.below dG jN0.lt;have hb1:Ae w w W1:=qe hb0 dG;have uY:=oz.o W1 hb1;have hDz:D+1<W1.1.size:=(Qf.1 hL1).1;have HR:=Qa hR;clear hR hW1 dG pR xV jN0 hb0 hD;refine bg (fun bA m wr=>La w b vr vk (.slice pa n cp) D (w.1.size+1+1) w.1.size (w.1.size+1) R bA m wr) hRs lX.o.1 lX.o.2.1 lX.o.2.2.1 lX.o.2.2.2 mF.o.1 mF.o.2.1 mF.o.2.2.1 mF.o.2.2.2 lH uY ?_ ?_ ?_ ?_
 ·intro W2 bA hb fU jA
  exact⟨qe hb1 hb,(hb.block _ hDz).trans hL1,(hb.block _ (by omega)).trans hD1,jA,lH.below hb lH.lt,qL.below hb qL.lt,zZ.below hb zZ.lt⟩
 ·rintro bA m wr h
  exact⟨h.jA,h.jL,oz.o wr h.bl,h.hL,HKd.o wr h.bl⟩
 ·rintro bA m wr a T h ha hT
  have hm:m<L.roots.length:=by rw[<-vi vr vk vh vu L];exact (Qc.1 ha).1
  obtain⟨hw1,hw2⟩:=zc m (by have:=HN.o;omega)
  obtain⟨Post,bV⟩:∃ Post:Ending->Aa->Prop,Post=fun e W'=>e=O (.bool true)/\La w b vr vk (.slice pa n cp) D (w.1.size+1+1) w.1.size (w.1.size+1) R bA (m+1) W':=⟨_,rfl⟩;rw[<-bV,hT];have hst:R.state=.ready:=by rw[HR.o]
  have hpe:R.pending=none:=by rw[HR.o]
  have HST:=Qa hst;have kM:=Qa hpe;have dK:=Qa bV;clear hst hpe bV hT ha hm;rw[HR.o];refine roundIn_of_wpIn trivial ?_;gi_wp2;refine ul h.hL HST.o ?_;intro W3 hW3 pV;have h3:La w b vr vk (.slice pa n cp) D (w.1.size+1+1) w.1.size (w.1.size+1) { R with state:=.busy } bA m W3:=by rw[hW3];exact h.put jF _
  clear hW3 pV h;have h4:=h3.step (by omega)
  have hend:=Qa (show ∃ v w5,(aM (D+1) none).run ANa (W3.setCell ⟨w.1.size+1,0,none⟩ (I Z ((m:Int)+1)))=.ok v w5/\Post (O v) w5 from by
    refine RJ h4.hL HST.o kM.o ?_;intro W5 cO _;rw[dK.o];exact⟨rfl,by rw[cO];exact h4.put jF R⟩)
  have cN:W3.cell? ⟨w.1.size+1,0,none⟩=some (I Z m):=h3.jN.cell 0;have zN:=h3.jN.free 0;have sN:=h3.jN.lt;clear h3 h4;gi_wp2;exact hend.o
 ·rintro bA wr h
  rw[vi]at h;have hst:R.state≠.busy:=by rw[HR.o];simp
  have hpe:R.pending=none:=by rw[HR.o]
  refine dy h.hL hst ?_;intro W4 dX;have h4:La w b vr vk (.slice pa n cp) D (w.1.size+1+1) w.1.size (w.1.size+1) { R with state:=.exhausted } bA L.roots.length W4:=by rw[dX];exact h.put jF _
  rw[hpe];dsimp only;have cN:W4.cell? ⟨w.1.size+1,0,none⟩=some (I Z L.roots.length):=h4.jN.cell 0;have cP:W4.cell? ⟨w,0,none⟩=some (.slice pa n cp):=h4.jP.cell 0;have sN:=h4.jN.lt;have hne:((L.roots.length:Int) != (n:Int))=false:=by rw[HNN.o,Hn.o];exact bne_self_eq_false' _
  have hb4:=h4.bl;have hD4:=Qa h4.hD;have jP4:=h4.jP;have hDl:D<W4.1.size:=(Qf.1 h4.hD).1;clear h h4 dX hst hpe HR hL1 hD1 lH qL zZ uY hb1 hDz hRs;clear R;gi_wp2_with (refine⟨trivial,?_⟩;gi_at_call 77;refine (callsIn_wide.2 (ll b _)).mono ?_;rintro e w2 ⟨rfl,rfl⟩);obtain⟨W0,hW0⟩:=Ja0 ((W4.alloc (ANb #[()] 3)).alloc (ANb #[ptr b] 102));obtain⟨bI,uO⟩:=Ja0 W4.1.size;have zT:w.1.size<=bI:=by rw[uO];exact hb4.size
  have rU:Ae W4 W4 W0:=by rw[hW0];exact qc (qc (qd _) _) _
  have jI0:An W0 bI #[()] 3:=by rw[hW0,uO];exact (An.new W4 _ _).alloc _
  have pR:An W0 (bI+1) #[ptr b] 102:=by rw[hW0,uO];exact An.Ax _ _ _ _ _ (by simp) rfl
  have hD0:=Qa ((rU.block _ hDl).trans hD4.o);have xV:=jP4.below rU jP4.lt;have hb0:=qe hb4 rU;rw[<-hW0,<-uO];clear hW0 uO jP4 hD4 rU hb4 cN cP sN hne oz HKd;refine ym (gf:=123) (lb:=#[ptr (bI+1)]) (by simp[go_sem]) (enters_of func123 (by kernel_rfl) rfl) ?_
  intro fn W1 R hW1 hR;obtain⟨E,hE⟩:=Ja0 W0.1.size;have dG:Ae W0 W0 W1:=by rw[hW1];exact qc (qc (qd _) _) _
  have hL1:W1.heap[E+1]?=some (.loop R):=by rw[hW1,hE];have:=ag (W0.alloc (.deferred (some []))) (.loop R);rwa [aI]at this
  have hD1:W1.heap[E]?=some (.deferred (some [])):=by rw[hW1,hE];exact (Below.heap_alloc _ _ _ (by simp)).trans (ag W0 _)
  have hRs:R.params.size=1:=by rw[hR];rfl
  rw[<-hE];have hEw:w.1.size<=E:=by rw[hE];exact hb0.size
  have hDE:D<E:=by rw[hE];exact (Qf.1 hD0.o).1
  have Akh:=(dG.block _ (Qf.1 hD0.o).1).trans hD0.o;have lH:=pR.below dG pR.lt;have qL:=xV.below dG xV.lt;have jI1:=jI0.below dG jI0.lt;have hb1:Ae w w W1:=qe hb0 dG;have uY:=(HH.o.below hb1).A3;have hEz:E+1<W1.1.size:=(Qf.1 hL1).1;have HR:=Qa hR;clear hR hW1 dG pR xV jI0 hb0 hE hD0;refine bg (fun bA m wr=>∃ o1,Ld w o id k b L ps vr vk vh vu (.slice pa n cp) D E (bI+1) w.1.size bI R o1 bA m wr) hRs lX.o.1 lX.o.2.1 lX.o.2.2.1 lX.o.2.2.2 mF.o.1 mF.o.2.1 mF.o.2.2.1 mF.o.2.2.2 lH uY ?_ ?_ ?_ ?_
  ·intro W2 bA hb fU jA
   have hb2:=qe hb1 hb;have hx:∀ c,w.1.size<=c->ext o w (id+1,0) c=(id+1,0):=fun c hc=>qq hc;have hl:BV W2 (ext o w (id+1,0)) id k b L vr vk vh vu:=HH.o.Ar (T:=fun _=>False) ((Stp.of_below hb2).ext _ _ (Qk _)) fun _ _ h=>h;refine⟨ext o w (id+1,0),(Stp.of_below hb2).ext _ _ (Qk _),?_,(hb.block _ hEz).trans hL1,(hb.block _ (by omega)).trans hD1,(hb.block _ (by omega)).trans Akh,jA,lH.below hb lH.lt,qL.below hb qL.lt,jI1.below hb jI1.lt,hx _ (by omega),hx _ (by omega),hx _ (by omega),hx _ (by have:=hb1.size;omega),hx _ (by omega),hx _ (Qk _),hx _ zT⟩
   rw[List.take_zero,aJ,aW,Xu HK.o];exact hl
  ·rintro bA m wr ⟨o1,h⟩
   have hb:=h.lg.A3;exact⟨h.jA,h.jL,hb,h.hL,h.lg.Gu⟩
  ·rintro bA m wr a T ⟨o1,h⟩ ha hT
   have hm:m<L.roots.length:=by rw[<-vi vr vk vh vu L];exact (Qc.1 ha).1
   obtain⟨x,hx⟩:∃ x,ps[m]?=some x:=⟨_,Qb (by rw[Hn.o];exact hm)⟩
   obtain⟨g2,off,rfl,hg2,ht2,hc2⟩:=HPs.o m x hx;have hsp:=(BV.place (ps.take m++L.roots.drop m) (by rw[Qd,Qp,ay,Hn.o];omega) h.lg ha).2.1
   obtain⟨g,ax,asp⟩:=a;simp only at hsp;subst hsp;have hmI:(m:Int)<(n:Int):=Int.ofNat_lt.2 (by rw[HNN.o,Hn.o];exact hm)
   obtain⟨hw1,hw2⟩:=zc m (by have:=HN.o;omega)
   obtain⟨Post,bV⟩:∃ Post:Ending->Aa->Prop,Post=fun e W'=>e=O (.bool true)/\∃ o1,Ld w o id k b L ps vr vk vh vu (Ai (some ⟨g2,off,none⟩) n cp) D E (bI+1) w.1.size bI R o1 bA (m+1) W':=⟨_,rfl⟩;rw[<-bV,hT];have hst:R.state=.ready:=by rw[HR.o]
   have hpe:R.pending=none:=by rw[HR.o]
   have HST:=Qa hst;have kM:=Qa hpe;have dK:=Qa bV;have HA:=Qa ha;have HX:=Qa hx;clear hst hpe bV hT hm ha hx;rw[HR.o];refine roundIn_of_wpIn trivial ?_;gi_wp2;refine ul h.hL HST.o ?_;intro W3 hW3 pV;have h3:Ld w o id k b L ps vr vk vh vu (Ai (some ⟨g2,off,none⟩) n cp) D E (bI+1) w.1.size bI { R with state:=.busy } o1 bA m W3:=by rw[hW3];exact h.put hEw HK.o _
   clear hW3 pV h;obtain⟨ne,⟨u,hu⟩,hf,hlt,h4⟩:=h3.step Hn.o zT HA.o HX.o;have hend:=Qa (show ∃ v w5,(aM (E+1) none).run ANa ((W3.setCell ⟨g,ax,none⟩ x).setCell ⟨bI,0,none⟩ (I Z ((m:Int)+1)))=.ok v w5/\Post (O v) w5 from by
     refine RJ h4.hL HST.o kM.o ?_;intro W5 cO _;rw[dK.o];exact⟨rfl,o1,by rw[cO];exact h4.put hEw HK.o R⟩)
   have cI:W3.cell? ⟨bI,0,none⟩=some (I Z m):=h3.jI.cell 0;have zI:=h3.jI.free 0;have sI:=h3.jI.lt;have cP:W3.cell? ⟨w,0,none⟩=some (Ai (some ⟨g2,off,none⟩) n cp):=h3.jP.cell 0;have c2:W3.cell? ⟨g2,off+m,none⟩=some (I Z x):=by
    have:=h3.sp.block g2 hg2 ht2;rw[show (Value.int .i64 (x:Int))=nv x from rfl,<-hc2];simp only[aL,this]
   have ne2:bI≠g:=fun e=>ne e.symm;clear h3 h4 hc2;gi_wp2;exact hend.o
  ·rintro bA wr ⟨o1,h⟩
   rw[vi]at h;have hst:R.state≠.busy:=by rw[HR.o];simp
   have hpe:R.pending=none:=by rw[HR.o]
   refine dy h.hL hst ?_;intro W5 cO;have h5:Ld w o id k b L ps vr vk vh vu (.slice pa n cp) D E (bI+1) w.1.size bI { R with state:=.exhausted } o1 bA L.roots.length W5:=by rw[cO];exact h.put hEw HK.o _
   rw[hpe];dsimp only;have yX:=Qa h5;clear h h5 cO hst hpe HR hL1 hD1 lH qL jI1 uY hb1 hEz hRs;gi_wp2;have n1:D≠E:=by have:=hDE;omega
   refine⟨by simp,.inl ⟨_,_,rfl,run_takeDeferred yX.o.hD,?_⟩⟩
   refine⟨by simp,.inl ⟨_,_,rfl,run_takeDeferred ((af n1).trans yX.o.h0),?_⟩⟩
   refine⟨.bool true,by simp[results,results52,go_sem],rfl,o1,?_,?_⟩
   ·have hl:=yX.o.lg
    rw[aU,aK,<-Hn.o,aa]at hl;have s1:Stp (fun t=>t=(id+1,0)) o1 o1 W5 (W5.putObj E (.deferred none)):=(Stp.refl _ o1 W5).put (by rw[yX.o.tD]) _
    have s2:Stp (fun t=>t=(id+1,0)) o1 o1 W5 ((W5.putObj E (.deferred none)).putObj D (.deferred none)):=s1.put (by rw[yX.o.t0]) _
    exact hl.Ar s2 fun j _ e=>by simp at e
   ·exact (yX.o.sp.Dk hEw _).Dk jF _
end
section
open Go.RowKit Hp Go.Maps
attribute [local go_sem ↓] Go.wp_at_zero Go.wp_at_succ
def SF:∀ (l k:List Nat),l.Nodup->(∀ x ∈ l,x ∈ k)->l.length<=k.length
 | [],_,_,_=>aj _
 | a::l,k,hn,hs=>by
  obtain⟨h1,h2⟩:=List.nodup_cons.1 hn;have ha:=hs a (by simp)
  have:=SF l (k.erase a) h2 fun x hx=>(List.mem_erase_of_ne (fun e=>h1 (by rw[<-e];exact hx))).2 (hs x (by simp[hx]))
  rw[List.length_erase_of_mem ha]at this;have hk:0<k.length:=List.length_pos_of_mem ha;rw[Qv];omega
def XT:∀ (l:List Nat)(p:Nat),(EY l p).isSome=true↔p ∈ l
 | [],p=>by simp[EY]
 | q::l,p=>by
  unfold EY;by_cases e:q=p
  ·subst e;simp
  ·rw[if_neg e,XT l p,aX]
   exact⟨fun h=>.inr h,fun h=>h.elim (fun h=>absurd h.symm e) id⟩
def Jp (P:List Nat)(p:Nat):(here P p).isSome=true↔p ∈ P:=by unfold here;rw[XT,List.mem_reverse]
def Cn (P:List Nat)(l:List Nat):List Nat:=l.foldl um P
def Wl (P l:List Nat)(p:Nat):Cn P (l++[p])=um (Cn P l) p:=by unfold Cn;rw[List.foldl_append];rfl
def qml (P:List Nat)(p:Nat):P.length<=(um P p).length:=by
 unfold um;split
 ·exact Qk _
 ·rw[Qd];exact Nat.le_add_right _ _
def WZ:∀ (l P:List Nat),P.length<=(Cn P l).length
 | [],_=>Qk _
 | p::l,P=>Qo (qml P p) (WZ l (um P p))
abbrev Gf:=Nat->Option Ob
def fj (G:Gf)(p:Nat):List Nat:=match G p with|some ob=>ob.AU|none=>[]
def DU (G:Gf):Nat->Nat->List Nat->List Nat
 | 0,_,P=>P
 | n+1,i,P=>if i<P.length then DU G n (i+1) (Cn P (fj G (P.getD i 0))) else P
def gw (G:Gf)(N:Nat)(roots:List Nat):List Nat:=DU G N 0 (Cn [] roots)
structure Da (G:Gf)(P:List Nat):Prop where
 nd:P.Nodup
 Sm:∀ p ∈ P,(G p).isSome=true
def E9 (G:Gf)(l:List Nat):Prop:=∀ p ∈ l,p=0\/(G p).isSome=true
def Da.to {G:Gf}{P:List Nat}(h:Da G P){p:Nat}(hp:p=0\/(G p).isSome=true):Da G (um P p):=by
 unfold um;split
 ·exact h
 ·rename_i hn
  rw[Jp]at hn;have h1:p≠0:=fun e=>hn (.inl e);have h2:p ∉ P:=fun e=>hn (.inr e);refine⟨List.nodup_append.2 ⟨h.nd,by simp,fun a ha b hb=>?_⟩,fun q hq=>?_⟩
  ·simp at hb;subst hb;exact fun e=>h2 (by rw[<-e];exact ha)
  ·rcases Qs.1 hq with hq|hq
   ·exact h.Sm q hq
   ·simp at hq;subst hq;exact hp.resolve_left h1
def Da.Cn {G:Gf}:∀ (l:List Nat){P:List Nat},Da G P->E9 G l->Da G (Cn P l)
 | [],_,h,_=>h
 | p::l,_,h,ho=>Da.Cn l (h.to (ho p (by simp))) fun q hq=>ho q (by simp[hq])
def Da.le {G:Gf}{P:List Nat}(h:Da G P){K:List Nat}(hK:∀ p,(G p).isSome=true->p ∈ K):P.length<=K.length:=SF P K h.nd fun x hx=>hK x (h.Sm x hx)
structure Lb (w:Aa)(a wd L:Nat)(f:Nat->Nat)(G:Gf):Prop where
 Cr:BR w a wd L f
 ob:∀ p x,G p=some x->BE f p x/\x.ok/\p+x.size<=L
def Lb.below {w w':Aa}{a wd L:Nat}{f:Nat->Nat}{G:Gf}(h:Lb w a wd L f G)(hb:Ae w w w'):Lb w' a wd L f G:=⟨h.Cr.below hb,h.ob⟩
structure Nj (G:Gf)(K:List Nat):Prop where
 keys:∀ p,(G p).isSome=true->p ∈ K
 num:K.length<=100000
 VA:∀ p,(G p).isSome=true->p<=131072
 shut:∀ p x,G p=some x->E9 G x.AB
def Nj.AU {G:Gf}{K:List Nat}(h:Nj G K)(p:Nat):E9 G (fj G p):=by
 unfold fj;split
 ·rename_i x hx
  unfold Ob.AU;split
  ·intro q hq;cases hq
  ·exact h.shut p x hx
 ·intro q hq;cases hq
def Nj.bd {G:Gf}{K:List Nat}(h:Nj G K){l:List Nat}(hl:E9 G l){p:Nat}(hp:p ∈ l):p<=131072:=by
 rcases hl p hp with h0|h0
 ·omega
 ·exact h.VA p h0
def qpu (G:Gf){n i:Nat}{P:List Nat}(h:P.length<=i):DU G n i P=P:=by
 cases n with
 | zero=>rfl
 | succ n=>unfold DU;rw[if_neg (by omega)]
def Vs (t:Tag):Prop:=t=(50,0)\/t=(50,1)\/t=(50,2)
def Old (n:Nat)(o:Own):Prop:=∀ b,b<n->o b=(0,0)
def Old.below {w W w':Aa} {o o':Own} (h:Old w o) (hb:Ae w w W) (hs:Stp Vs o o' W w'):Ae w w w'/\Old w o':=by
 refine⟨((Stp.of_below (T:=Vs) (o:=o) hb).trans hs).below fun b hb' e=>?_,fun b hb'=>(hs.tags b (Qn hb' hb.size)).trans (h b hb')⟩
 rw[h b hb']at e;rcases e with e|e|e<;>simp at e
section
variable {w w' : Aa} {a wd L : Nat} {f : Nat -> Nat} {G : Gf} {K : List Nat}
def Jk (h:Lb w a wd L f G)(hG:Nj G K){v:Ac}{roots:List Nat}{o:Own}{t:Tag}(hv:Row w o t 3 1 v roots.length (roots.map nv))(hr:E9 G roots)(hn:roots.length<=1000000) :
  Ab ANa 167 #[Ah (some ⟨a,0,none⟩),v] w fun e w'=>∃ c mb oo,e=O (Ak #[ptr c,()])/\Cg w' oo c mb (gw G K.length roots)/\Da G (gw G K.length roots)/\Ae w w w'/\Old w oo:=by
 obtain⟨pv,cv,rfl⟩:=hv.A6;have hmm:=@run_makeMap ANa;obtain⟨W,hW⟩:=Ja0 ((w.alloc (.map #[] 0)).alloc (ANb #[Ai none 0 0,.map (some w.1.size)] 235));obtain⟨o1,ho1⟩:∃ o1:Own,o1=fun b=>if b<w.1.size then (0,0) else if b=w.1.size then (50,2) else if b=w.1.size+1 then (50,0) else (60,0):=⟨_,rfl⟩
 have hbW:Ae w w W:=by rw[hW];exact qc (qc (qd w) _) _
 have Acd:Old w o1:=fun b hb=>by rw[ho1];exact if_pos hb
 have hC0:Cg W o1 (w.1.size+1) w.1.size []:=by
  refine⟨⟨Ai none 0 0,by rw[hW];exact An.Ax _ _ _ _ _ (by simp) rfl,Row.nil _ _ _ _ _⟩,?_,?_,?_⟩
  ·rw[hW];exact (World.ownsMap_made w _ _ _).alloc _
  ·rw[ho1];show (if _ then _ else _)=_;rw[if_neg (by omega),if_neg (by omega),if_pos rfl]
  ·rw[ho1];show (if _ then _ else _)=_;rw[if_neg (by omega),if_pos rfl]
 obtain⟨c,hc⟩:=Ja0 (w.1.size+1);obtain⟨mb,hmb⟩:=Ja0 w.1.size;rw[<-hc]at hC0;have HW:=Qa hW;have hcm:mb+1=c:=by rw[hc,hmb]
 have rO:Cg W o1 c mb []:=by rw[hmb];exact hC0
 have tO:=Qa rO;have HB0:=Qa (Aj hbW Acd);have HV:=Qa hv;have HGI:=Qa h;have lV:=Qa hG;have lZ:=Qa hr;obtain⟨n,hnn⟩:=Ja0 roots.length;rw[<-hnn]at HV hn ⊢;have HN:=Qa hnn;have HNm:=Qa hn;obtain⟨R,hR⟩:=Ja0 (gw G K.length roots);rw[<-hR];have HRR:=Qa hR;clear hR h hG hv hr hbW Acd hC0 rO ho1 hnn hc hn;go_in;go_wp2_with fail;rw[<-hmb];have uP:(w.alloc (.map #[] 0)).alloc (ANb #[Ai none 0 0,.map (some mb)] 235)=W:=by rw[hW,hmb]
 rw[uP,hcm];clear hW uP HW hmm hcm hmb;go_loopw [19] (fun ix wr=>∃ (k:Nat)(oo:Own),ix=I Z k/\k<=n/\Cg wr oo c mb (Cn [] (roots.take k))/\Da G (Cn [] (roots.take k))/\Ae w w wr/\Old w oo) (fun ix _=>n-(intOf ix).toNat)
 case atStart=>exact⟨0,o1,rfl,aj _,tO.o,⟨List.nodup_nil,fun p hp=>by cases hp⟩,HB0.o⟩
 case round =>
  obtain⟨k,oo,rfl,hkn,hC,hI,hb,hO⟩:=hrel;by_cases hlt:k<n
  ·have eG:(k:Int)<(n:Int):=by omega
   obtain⟨hw1,hw2⟩:=zc k (by have:=HNm.o;omega)
   obtain⟨x,hx⟩:∃ x,roots[k]?=some x:=⟨_,Qb (by rw[<-HN.o];exact hlt)⟩
   obtain⟨g,e,hcell⟩:∃ g,pv=some ⟨g,0,none⟩/\wr.cell? ⟨g,k,none⟩=some (I Z x)/\n<=cv:=by
    rcases (HV.o.below hb).form with ⟨_,h0⟩|⟨g,cap,e,hcap,_⟩
    ·omega
    ·injection e with e1 _ e3
     subst e1 e3;exact⟨g,rfl,(HV.o.below hb).cells k _ (by rw[Qj,hx];rfl),hcap⟩
   subst e;obtain⟨hcell,hcap⟩:=hcell;have nZ:=lZ.o x (Qe hx);have hxb:=lV.o.bd lZ.o (Qe hx);have hle:=hI.le lV.o.keys;have HT:=Qa (Yu hC (by have:=lV.o.num;omega) x (by omega))
   have hst:Cn [] (roots.take (k+1))=um (Cn [] (roots.take k)) x:=by rw[ai,hx];exact Wl _ _ _
   have HI2:=Qa (hI.to nZ);rw[<-hst]at HI2 HT;have qN:=Qa (Aj hb hO);clear hst nZ hxb hle hI hC hx hb hO;go_wp2_with fail;refine HT.o.mono ?_;rintro e w3 ⟨rfl,o3,hC3,hs3⟩;obtain⟨hb3,hO3⟩:=qN.o.2.below qN.o.1 hs3;go_wp2_with fail;go_roundw
   case rel=>exact⟨k+1,o3,by simp,hlt,hC3,HI2.o,hb3,hO3⟩
   case measure=>simp[intOf];omega
  ·obtain rfl:k=n:=by omega
   rw[HN.o,aa]at hC hI;clear hlt hkn tO HB0 lZ HV;obtain⟨P0,hP0⟩:=Ja0 (Cn [] roots);have hre:R=DU G K.length 0 P0:=by rw[HRR.o,hP0];rfl
   have HRE:=Qa hre;rw[<-hP0]at hC hI;have HS:=Qa (Aj hC (Aj hI (Aj hb hO)));clear hC hI hb hO hre hP0;go_wp2_with fail;go_loopw [9] (fun ix wr=>∃ (i:Nat)(P:List Nat)(oo:Own),ix=I Z i/\i<=P.length/\Cg wr oo c mb P/\Da G P/\DU G (K.length-i) i P=DU G K.length 0 P0/\Ae w w wr/\Old w oo) (fun ix _=>K.length-(intOf ix).toNat)
   case atStart=>exact⟨0,P0,oo,rfl,aj _,HS.o.1,HS.o.2.1,rfl,HS.o.2.2⟩
   case round =>
    clear HS;obtain⟨i,P,oo,rfl,hiP,hC,hI,hgo,hb,hO⟩:=hrel;obtain⟨vp,jb,hp⟩:=hC.A3;obtain⟨pp,cp,rfl⟩:=hp.A6;have cb:=jb.cell;have hle:=hI.le lV.o.keys;have AAs:=lV.o.num;by_cases hlt:i<P.length
    ·have eG:(i:Int)<(P.length:Int):=by omega
     obtain⟨hw1,hw2⟩:=zc i (by omega)
     obtain⟨x,hx⟩:∃ x,P[i]?=some x:=⟨_,Qb hlt⟩;obtain⟨g,e,hcell,hcap⟩:∃ g,pp=some ⟨g,0,none⟩/\wr.cell? ⟨g,i,none⟩=some (I Z x)/\P.length<=cp:=by
      rcases hp.form with ⟨_,h0⟩|⟨g,cap,e,hcap,_⟩
      ·omega
      ·injection e with e1 _ e3
       subst e1 e3;exact⟨g,rfl,hp.cells i _ (by rw[Qj,hx];rfl),hcap⟩
     subst e;have nZ:=hI.Sm x (Qe hx);obtain⟨ob,bY⟩:=Option.isSome_iff_exists.1 nZ;obtain⟨q1,q2,q3⟩:=HGI.o.ob x ob bY;have iZ:=Qa (WA (HGI.o.Cr.below hb) q1 q2 q3);have hsg:fj G x=ob.AU:=by unfold fj;rw[bY]
     have hsk:=lV.o.AU x;rw[hsg]at hsk;have Adc:DU G (K.length-(i+1)) (i+1) (Cn P ob.AU)=DU G K.length 0 P0:=by
      rw[<-hgo,show K.length-i=(K.length-(i+1))+1 from by omega]
      show _=if i<P.length then DU G (K.length-(i+1)) (i+1) (Cn P (fj G (P.getD i 0))) else P;rw[if_pos hlt,Qi,hx,Option.getD_some,hsg]
     have hlen:ob.AU.length<=16:=by
      unfold Ob.AU;split
      ·simp
      ·rw[q2.lp];exact Qo q2.AL.1 (by omega)
     have yH:=Qa (Aj hC (Aj hI (Aj hb hO)));have Aao:=Qa Adc;have HSk:=Qa hsk;have qQ:=Qa hlen;obtain⟨l,hl⟩:=Ja0 ob.AU;rw[<-hl]at iZ Aao HSk qQ;obtain⟨wo,rfl⟩:=Ja0 wr;clear hgo Adc hsk hlen hsg bY nZ q1 q2 q3 hx hC hI hb hO hp jb hl;go_wp2_with fail;refine iZ.o.mono ?_;rintro e w3 ⟨v3,rfl,hr3,hb3⟩;obtain⟨p3,c3,rfl⟩:=hr3.A6;obtain⟨m,hm⟩:=Ja0 l.length;rw[<-hm]at hr3 qQ ⊢;have HM:=Qa hm;have s3:Stp (fun _=>False) oo (ext oo wo (60,0)) wo w3:=(Stp.of_below hb3).ext _ _ (Qk _);have HR3:=Qa (hr3.out oo (60,0));have hwz:w.1.size<=wo.1.size:=yH.o.2.2.1.size;have yG:=Qa (show Cg w3 (ext oo wo (60,0)) c mb P/\Ae w w w3/\Old w (ext oo wo (60,0)) from
      ⟨yH.o.1.Ar s3 id id id,qe yH.o.2.2.1 hb3,fun b hb=>(qk (by omega)).trans (yH.o.2.2.2 b hb)⟩)
     have AAq:m<=16:=qQ.o;clear hr3 hb3 hm s3 cb hcell hwz;go_wp2_with fail;go_loopw [53] (fun ix wr=>∃ (j:Nat)(o4:Own),ix=I Z j/\j<=m/\Cg wr o4 c mb (Cn P (l.take j))/\Da G (Cn P (l.take j))/\Ae w w wr/\Old w o4/\Row wr o4 (60,0) 3 1 (.slice p3 m c3) m (l.map nv)) (fun ix _=>m-(intOf ix).toNat)
     case atStart=>exact⟨0,_,rfl,aj _,yG.o.1,yH.o.2.1,yG.o.2.1,yG.o.2.2,HR3.o⟩
     case round =>
      clear yG HR3;obtain⟨j,o4,rfl,hjm,hC4,kT,hb4,hO4,wS⟩:=hrel;by_cases hlt2:j<m
      ·have qG:(j:Int)<(m:Int):=by omega
       obtain⟨hw3,hw4⟩:=zc j (by omega)
       obtain⟨x2,hx2⟩:∃ x,l[j]?=some x:=⟨_,Qb (by rw[<-HM.o];exact hlt2)⟩
       obtain⟨g2,e,hcell2,hcap2⟩:∃ g,p3=some ⟨g,0,none⟩/\wr.cell? ⟨g,j,none⟩=some (I Z x2)/\m<=c3:=by
        rcases wS.form with ⟨_,h0⟩|⟨g,cap,e,hcap,_⟩
        ·omega
        ·injection e with e1 _ e3
         subst e1 e3;exact⟨g,rfl,wS.cells j _ (by rw[Qj,hx2];rfl),hcap⟩
       subst e;have nZ:=HSk.o x2 (Qe hx2);have hxb:=lV.o.bd HSk.o (Qe hx2);have Adi:=kT.le lV.o.keys;have HT:=Qa (Yu hC4 (by omega) x2 (by omega))
       have hst:Cn P (l.take (j+1))=um (Cn P (l.take j)) x2:=by rw[ai,hx2];exact Wl _ _ _
       have HI2:=Qa (kT.to nZ);rw[<-hst]at HI2 HT;have qN:=Qa (Aj hb4 (Aj hO4 wS));clear hst nZ hxb Adi kT hC4 hx2 hb4 hO4 wS;go_wp2_with fail;refine HT.o.mono ?_;rintro e w5 ⟨rfl,o5,hC5,hs5⟩;obtain⟨hb5,hO5⟩:=qN.o.2.1.below qN.o.1 hs5;have hR5:=qN.o.2.2.Ar hs5 (by simp)
       go_wp2_with fail;go_roundw
       case rel=>exact⟨j+1,o5,by simp,hlt2,hC5,HI2.o,hb5,hO5,hR5⟩
       case measure=>simp[intOf];omega
      ·obtain rfl:j=m:=by omega
       rw[HM.o,aa]at hC4 kT;have Adi:=kT.le lV.o.keys;have HX:=Qa (Aj hC4 (Aj kT (Aj hb4 hO4)));have eQ:=HM.o;clear hC4 kT hb4 hO4 wS HM iZ yH;go_wp2_with fail;go_roundw
       case rel =>
        refine⟨i+1,Cn P l,o4,by simp,?_,HX.o.1,HX.o.2.1,Aao.o,HX.o.2.2⟩
        exact Qo hlt (WZ l P)
       case measure=>simp[intOf];omega
    ·obtain rfl:i=P.length:=by omega
     rw[qpu G (Qk _)]at hgo;have HX:=Qa (Aj hC (Aj hI (Aj hb hO)));have hRP:R=P:=by rw[HRE.o,<-hgo]
     subst hRP;clear hC hI hb hO hgo hp jb;go_wp2_with fail;go_ret2;exact⟨c,mb,oo,rfl,HX.o⟩
end
end
section
open Go.RowKit Hp
open Go.MuLone
attribute [local go_sem ↓] Go.wp_at_zero Go.wp_at_succ
def Jl (b n cp:Nat) (pa:Option Addr) (w:Aa) (h0:w.cell? ⟨b,3,none⟩=some (.int .i32 0)) (h2:w.cell? ⟨b,5,none⟩=some (.slice pa n cp)) (f0:w.frozen? ⟨b,3,none⟩=false) :
  Ab ANa 21 #[Ah (some ⟨b,3,none⟩)] w fun e w'=>e=O (.bool (decide (2000<=n)))/\w'=(w.setCell ⟨b,3,none⟩ (.int .i32 1)).setCell ⟨b,3,none⟩ (.int .i32 0):=by
 go_enter_defers func21,ntmps21;go_wp2_with (go_at_call 43;refine (lock_free Tryz.muLib ⟨b,3,none⟩ _ h0 f0).mono ?_;rintro e w' ⟨rfl,rfl⟩);refine leaves_cons (f:=44) (args:=#[Ah (some ⟨b,3,none⟩)]) (by simp) (by simp[go_sem]) ?_
 refine (unlock_deferred Tryz.muLib ⟨b,3,none⟩ .returning _ ?_ ?_).mono ?_
 ·exact World.cell?_setCell_same w ⟨b,3,none⟩ (.int .i32 1) h0
 ·simp[f0]
 rintro e u' w'' ⟨rfl,rfl,rfl⟩
 exact⟨_,results_tmp rfl _ _ _,by simp;omega,rfl⟩
def qkl {w:Aa}{o:Own}{y:Bl}{S:Am}{b:Nat}(h:Av w o y S)(hk:S.ok)(hb:w.cell? ⟨b,0,none⟩=some (ptr y.sb))(p:Nat) :
  Ab ANa 36 #[ptr b,p] w fun e w'=>e=O (I Z (S.Bc p))/\Ae w w w':=by
 unfold Am.Bc;by_cases h0:p=0
 ·subst h0
  rw[if_pos rfl];clear h hk;go_in;go_wp2_with fail;go_ret;exact⟨rfl,qd w⟩
 ·rw[if_neg h0]
  have HS:=Qa (Wh h hk p);have hpb:((p:Int)==0)=false:=by rw[Qh];omega
  generalize S.H.Dg p=r at *;clear h hk h0;go_in;go_wp2_with fail;refine HS.o.mono ?_;rintro e w1 ⟨rfl,hb1⟩;go_wp2_with fail;go_ret;exact⟨rfl,hb1⟩
def XM {w:Aa}{o:Own}{y:Bl}{S:Am}{b:Nat}(h:Av w o y S)(_hk:S.ok)(hb:w.cell? ⟨b,0,none⟩=some (ptr y.sb)) :
  Ab ANa 13 #[ptr b] w fun e w'=>e=O (I Z S.now)/\w=w':=by
 have HS:=Qa (PE h);clear h;go_in;go_wp2_with fail;refine HS.o.mono ?_
 rintro e w1 ⟨rfl,rfl⟩
 go_wp2_with fail;go_ret;exact⟨rfl,rfl⟩
def qp2 {w:Aa}{o:Own}{y:Bl}{S:Am}{b:Nat}(h:Av w o y S)(hk:S.ok)(hb:w.cell? ⟨b,0,none⟩=some (ptr y.sb)) :
  Ab ANa 12 #[ptr b] w fun e w'=>e=O (I Z (S.H.left:Nat))/\Ae w w w':=by
 have HS:=Qa (KH h hk);generalize ((S.H.left:Nat):Int)=r at *;clear h hk;go_in;go_wp2_with fail;refine HS.o.mono ?_
 rintro e w1 ⟨rfl,hb1⟩
 go_wp2_with fail;go_ret;exact⟨rfl,hb1⟩
end
section
open Go.RowKit Hp
attribute [local go_sem ↓] Go.wp_at_zero Go.wp_at_succ
def Row.N0 {w:Aa}{o:Own}{t:Tag}{e:TypeId}{l:List (Nat×Nat)}{g n cap:Nat}(h:Row w o t e 2 (Ai (some ⟨g,0,none⟩) n cap) n (qh l))(i:Nat)(x:Nat×Nat)(hx:l[i]?=some x) :
  w.cell? ⟨g,i*2,none⟩=some (nv x.1)/\w.cell? ⟨g,i*2+1,none⟩=some (nv x.2):=by
 have h2:=y7 l i x hx;have f:=fun j u hu=>h.own.cells (g:=g) rfl j u hu
 have a1:=f _ _ h2.1;have a2:=f _ _ h2.2;rw[addr_add]at a1 a2;rw[Nat.mul_comm i 2];exact⟨a1,a2⟩
def Row.Q4 {w:Aa}{o:Own}{t:Tag}{e:TypeId}{l:List (Nat×Nat)}{n cap:Nat}{pa:Option Addr}(h:Row w o t e 2 (.slice pa n cap) n (qh l))(i:Nat)(x:Nat×Nat)(hx:l[i]?=some x) :
  ∃ g,pa=some ⟨g,0,none⟩/\w.cell? ⟨g,i*2,none⟩=some (I Z x.1)/\w.cell? ⟨g,i*2+1,none⟩=some (I Z x.2):=by
 rcases h.Dc with ⟨_,h0⟩|⟨g,cap',e',hn⟩
 ·have:=y7 l i x hx
  rw[h0]at this;simp at this
 ·injection e' with e1 _ e3
  subst e1 e3;obtain⟨a,b⟩:=h.N0 i x hx;exact⟨g,rfl,a,b⟩
def Ej (ts:List Tx)(k:Nat):List Nat:=(ts.take k).flatMap Tx.places
def KP {ts:List Tx}{k:Nat}{x:Tx}(h:ts[k]?=some x):Ej ts (k+1)=Ej ts k++x.log.roots++x.A0.map (·.1):=by
 unfold Ej;rw[ai,h,aO];simp[Tx.places]
def UG:∀ (ts:List Tx)(k:Nat),(∀ x ∈ ts,x.log.fit)->(Ej ts k).length<=1000*k+wa ts
 | [],k,_=>by simp[Ej]
 | x::ts,0,_=>by simp[Ej]
 | x::ts,k+1,h=>by
  have h1:=UG ts k fun z hz=>h z (.tail _ hz);have h2:=XJ (h x (.head _));have e:Ej (x::ts) (k+1)=x.places++Ej ts k:=by unfold Ej;rw[List.take_succ_cons,aA]
  have e2:wa (x::ts)=x.A0.length+wa ts:=rfl;rw[e,e2,Qd];unfold Tx.places;rw[Qd,Qg];omega
def VL (l:List Nat)(x:Nat):(l++[x]).map nv=l.map nv++[I Z x]:=wb l x
section
variable {w w' : Aa} {o o' : Own} {y : Bl} {S : Am}
def lj (hk:S.ok)(ps:List Nat):(S.places ps).length<=ps.length+S.next+8000:=by
 have h1:=UG S.Au S.Au.length hk.lg;have h2:=hk.qu;have h3:=hk.t8;have e:Ej S.Au S.Au.length=S.Au.flatMap Tx.places:=by unfold Ej;rw[aa]
 rw[e]at h1;unfold Am.places;simp only[Qd,Qg];omega
def VQ (h:Av w o y S) (hk:S.ok) {v:Ac} {ps:List Nat} {ta:Tag} (hv:Row w o ta 3 1 v ps.length (ps.map nv)) (hp:ps.length<=100000) :
  Ab ANa 48 #[ptr y.sb,v] w fun e w'=>∃ v',e=O v'/\Row w' (fo w) (1,0) 3 1 v' (S.places ps).length ((S.places ps).map nv)/\Ae w w w':=by
 obtain⟨iI,hi,hsI,cK,bZ⟩:=zm;have hu64:=underlying23;have hpl:=lj hk ps;have hn2:=hk.Lh;have hv0:Row w (fun _=>(0,0)) (0,0) 3 1 v ps.length (ps.map nv):=⟨hv.own,fun _ _=>rfl⟩
 have HC:=Qa (show Ab ANa 49 #[v] w fun e w'=>∃ v',e=O v'/\Row w' (fo w) (1,0) 3 1 v' ps.length (ps.map nv)/\Ae w w w' from T3 hv0 hp (li ps) (1,0))
 obtain⟨vq,vl,vm,jb,hrw⟩:=h.A3;have hq:=hrw.q;obtain⟨pq,cq,rfl⟩:=hq.A6;obtain⟨pv,cv,rfl⟩:=hv.A6;obtain⟨gt,ct,uW,hct,rV⟩:=h.EE hk.t1;unfold qm at jb;rw[uW]at jb;obtain⟨q,hqe⟩:=Ja0 S.queue;obtain⟨ts,hts⟩:=Ja0 S.Au;have hq2:q.length+(Ej ts ts.length).length<=S.next+8000:=by
  have h1:=UG ts ts.length (by rw[hts];exact hk.lg)
  have h2:=hk.qu;have h3:=hk.t8;rw[hqe,hts]at *;omega
 have hmx:∀ k,k<=S.next+200000->k<=maxLen/\k*8<=140737488355328:=fun k hk'=>by simp only[maxLen];omega
 have hpm:∀ k,(Ej ts k).length<=(Ej ts ts.length).length:=fun k=>by
  unfold Ej;rw[aa];conv=>rhs;rw[<-List.take_append_drop k ts]
  rw[aO,Qd];omega
 have HT8:Q2 (ts.length<=8):=by show _<=_;rw[hts];exact hk.t8
 have HMX:=Qa hmx;have uC:=Qa hn2;have HPM:=Qa hpm;have oI:=Qa hq2;have HP:=Qa hp;have HPL:=Qa (show S.places ps=ps++q.map (·.1)++Ej ts ts.length from by unfold Am.places Ej;rw[hqe,hts,aa])
 rw[<-hqe]at hq jb;rw[<-hts]at jb hct rV;have HQ:=Qa hq;have HCT:=Qa hct;have HTX:=Qa (fun (i:Nat) (x:Tx) (hx:ts[i]?=some x)=>show (∃ pk ck,∀ (w2:Aa),Ae w w w2->An w2 (y.xb i) (zj i x (y.lb i) (.slice pk x.A0.length ck)) 105/\Row w2 o (y.l.id,22+8*i) 118 2 (.slice pk x.A0.length ck) x.A0.length (qh x.A0)) /\
   ∀ (w2:Aa),Ae w w w2->Ab ANa 51 #[ptr (y.lb i)] w2 (fun e w'=>∃ v,e=O v/\Row w' (fo w2) (1,0) 3 1 v x.log.roots.length (x.log.roots.map nv)/\Ae w2 w2 w') from by
  have hx':S.Au[i]?=some x:=by rw[<-hts];exact hx
  have h2:=h.Au i x hx';obtain⟨vt,hb',hr'⟩:=h2.A3;obtain⟨pk,ck,rfl⟩:=hr'.A6;refine⟨⟨pk,ck,fun w2 hb=>⟨hb'.below hb hb'.lt,hr'.below hb⟩⟩,fun w2 hb=>?_⟩;obtain⟨vr,vk,vh,vu,hl⟩:=h2.log;exact Xm (hl.below hb) (hk.lg x (Qe hx')))
 have HS:=Qa (fun (w2:Aa) (hb:Ae w w w2)=>hb)
 have hgl:gt<w.1.size:=by
  have h1:=h.ED;rw[uW]at h1;exact h1.blt
 have HGL:=Qa hgl;have vN:=Qa jb;have c:=jb.cell;rw[HPL.o];generalize S.next=N at *;generalize S.Aw=N1 at *;generalize S.version=N2 at *;clear h hk hv hv0 hrw hq hq2 hpl hn2 hp hct hmx hpm jb hqe hts hgl uW;go_in;go_wp2_with fail;refine HC.o.mono ?_
 rintro e w1 ⟨v1,rfl,hr1,hb1⟩
 obtain⟨p1,c1,rfl⟩:=hr1.A6;have j1:=vN.o.below hb1 vN.o.lt;clear c HC;have c:=j1.cell;go_wp2_with fail;go_loopw [5,19] (fun vv ix wr=>∃ k:Nat,ix=I Z k/\k<=q.length/\Row wr (fo w) (1,0) 3 1 vv (ps.length+k) ((ps++(q.take k).map (·.1)).map nv)/\Ae w w wr) (fun _ ix _=>q.length-(intOf ix).toNat)
 case atStart=>exact⟨0,rfl,aj _,by simpa using hr1,hb1⟩
 case round =>
  clear c j1 hr1 hb1;obtain⟨k,rfl,hkn,hr,hb⟩:=hrel;obtain⟨pp,cc,rfl⟩:=hr.A6;by_cases hlt:k<q.length
  ·have eG:(k:Int)<(q.length:Int):=by omega
   obtain⟨z,hz⟩:∃ z,q[k]?=some z:=⟨_,Qb hlt⟩;obtain⟨gq,rfl,q0,q1⟩:=(HQ.o.below hb).Q4 k z hz;obtain⟨hw1,hw2⟩:=zc k (by have:=oI.o;have:=uC.o;omega)
   have hk1:Q2 (ps.length+k+1<=maxLen/\(ps.length+k+1)*8<=140737488355328):=HMX.o _ (by have:=oI.o;have:=HP.o;omega)
   have htk:(q.take (k+1)).map (·.1)=(q.take k).map (·.1)++[z.1]:=by rw[ai,hz];simp
   have nQ:=Qa htk;obtain⟨zp,zs⟩:=z;simp only at q0 q1 nQ;have HR:=Qa hr;clear hr hz htk;go_wp2_with (first|(at_builtin;refine qg _ rfl _ _ _ rfl 3 iI _ 1 8 hu64 hi bZ hsI cK rfl (by decide) (fo w) (1,0) _ _ _ rfl (Row.below (Row.below HR.o (qc (qd _) _)) (qc (qd _) _)) ⟨wr.1.size+1,0,none⟩ 1 1 [I Z zp] rfl rfl (qx (An.Ax _ _ _ _ _ (by simp) rfl)) jh hk1.out.1 hk1.out.2 ?_;intro v' w8 hown hst)|fail)
   have eB:=qc (qc hb (ANb #[zp,zs] 118)) (ANb #[zp] 3);have uU:=yy eB hown;have fC:=xz eB hst;go_roundw
   case rel=>exact⟨k+1,by simp,by omega,by rw[nQ.o,<-aB,VL];exact uU,fC⟩
   case measure=>simp[intOf];omega
  ·obtain rfl:k=q.length:=by omega
   rw[aa]at hr;have j1:=vN.o.below hb vN.o.lt;have c:=j1.cell;go_wp2_with fail;clear c j1 hkn hlt;have HR0:=Qa hr;have HB0:=Qa hb;clear hr hb;obtain⟨P1,hP1⟩:=Ja0 (ps++q.map (·.1));have HP1:Q2 (P1.length=ps.length+q.length):=by show _=_;rw[hP1];simp
   rw[<-hP1,<-HP1.out]at HR0;have kM:=Qa hP1;rw[<-HP1.out];have HL2:Q2 (∀ k,(P1++Ej ts k).length<=N+200000):=fun k=>by
    have h1:=HPM.o k;have h2:=oI.o;have h3:=HP.o;have h4:=HP1.out;rw[Qd];omega
   clear hP1;go_loopw [5,34] (fun vv ix wr=>∃ k:Nat,ix=I Z k/\k<=ts.length/\Row wr (fo w) (1,0) 3 1 vv (P1.length+(Ej ts k).length) ((P1++Ej ts k).map nv)/\Ae w w wr) (fun _ ix _=>ts.length-(intOf ix).toNat)
   case atStart=>exact⟨0,rfl,aj _,by rw[show Ej ts 0=[] from rfl,aK];exact HR0.o,HB0.o⟩
   case round =>
    clear HR0 HB0;obtain⟨k,rfl,hkn,hr,hb⟩:=hrel;obtain⟨wo,rfl⟩:=Ja0 wr;obtain⟨pp,cc,rfl⟩:=hr.A6;by_cases hlt:k<ts.length
    ·have eG:(k:Int)<(ts.length:Int):=by omega
     obtain⟨x,hx⟩:∃ x,ts[k]?=some x:=⟨_,Qb hlt⟩;obtain⟨⟨pk,ck,hX2⟩,hRt⟩:=HTX.o k x hx;have jx:=(hX2 wo hb).1;have HX2:=Qa hX2;have HRt:=hRt wo hb;have ct0:wo.cell? ⟨gt,k,none⟩=some (ptr (y.xb k)):=by rw[hb.cell (p:=⟨gt,k,none⟩) HGL.o];exact HCT.o k hlt
     have HTS:=Qa (KP hx);obtain⟨n2,hn2⟩:=Ja0 (P1.length+(Ej ts k).length);rw[<-hn2]at hr ⊢;have HNN:=Qa hn2;have HLk:=Qa (HL2.out (k+1));have HR:=Qa hr;have HRT:=Qa HRt;unfold zj at jx;have cx:=jx.cell;have HB:=Qa hb;obtain⟨r,hre⟩:=Ja0 x.log.roots;obtain⟨P2,hP2⟩:=Ja0 (P1++Ej ts k);rw[<-hre]at HRT HTS;rw[<-hP2]at HR;have rG:Q2 (P1++Ej ts (k+1)=P2++r++x.A0.map (·.1)):=by show _=_;rw[HTS.o,hP2];simp
     rw[rG.out]at HLk;have HP2:Q2 (P2.length=n2):=by show _=_;rw[hP2,hn2,Qd]
     have hk1:Q2 (n2+r.length<=maxLen/\(n2+r.length)*8<=140737488355328):=HMX.o _ (by have:=HLk.o;have:=HP2.out;simp only[Qd,Qg]at *;omega)
     have HKL:=Qa (zc k (by have:=HT8.out;omega))
     clear hr hRt HRt jx hre HTS hx hb hn2 hX2;go_wp2_with (first
      | (go_at_call 51;refine HRT.o.mono ?_;rintro e w3 ⟨v3,rfl,hr3,hb3⟩;obtain⟨p3,c3,rfl⟩:=hr3.A6)
      | (at_builtin;go_loud (refine zu _ rfl _ _ _ rfl 3 iI _ 1 8 hu64 hi bZ hsI cK rfl (by decide) (fo w) (1,0) _ _ _ rfl (Row.below HR.o hb3) _ _ _ _ _ rfl hr3 (li _) hk1.out.1 hk1.out.2 ?_;intro v' w8 hown hst;obtain⟨p8,c8,rfl⟩:=hown.A6;have eB:=xz (qe HB.o hb3) hst;have uU:=yy (qe HB.o hb3) hown;have jx8:=(HX2.o w8 eB).1;unfold zj at jx8;have cx8:=jx8.cell))
      | fail)
     clear hown hst hb3 hr3 cx jx8 cx8 ct0 HRT HR HB;have HR9:=Qa uU;have HB8:=Qa eB;have HRX:=Qa (fun w2 hb=>(HX2.o w2 hb).2);obtain⟨tk,htk⟩:=Ja0 x.A0;rw[<-htk]at HRX rG HLk ⊢;clear uU eB hk1 HX2 htk;go_loopw [5,50] (fun vv ix wr=>∃ j:Nat,ix=I Z j/\j<=tk.length/\Row wr (fo w) (1,0) 3 1 vv (n2+r.length+j) ((P2++r++(tk.take j).map (·.1)).map nv)/\Ae w w wr) (fun _ ix _=>tk.length-(intOf ix).toNat)
     case atStart=>exact⟨0,rfl,aj _,by simpa using HR9.o,HB8.o⟩
     case round =>
      clear HR9 HB8;obtain⟨j,rfl,hjn,hr,hb⟩:=hrel;obtain⟨wi,rfl⟩:=Ja0 wr;obtain⟨pp,cc,rfl⟩:=hr.A6;by_cases hj:j<tk.length
      ·have qG:(j:Int)<(tk.length:Int):=by omega
       obtain⟨z,hz⟩:∃ z,tk[j]?=some z:=⟨_,Qb hj⟩;obtain⟨gq,rfl,q0,q1⟩:=(HRX.o wi hb).Q4 j z hz;have hlen:n2+r.length+tk.length<=N+200000:=by have:=HLk.o;have:=HP2.out;simp only[Qd,Qg]at *;omega
       have hk1:Q2 (n2+r.length+j+1<=maxLen/\(n2+r.length+j+1)*8<=140737488355328):=HMX.o _ (by omega)
       obtain⟨hw1,hw2⟩:=zc j (by have:=uC.o;omega)
       have htk:(tk.take (j+1)).map (·.1)=(tk.take j).map (·.1)++[z.1]:=by rw[ai,hz];simp
       have nQ:=Qa htk;obtain⟨zp,zs⟩:=z;simp only at q0 q1 nQ;have HR:=Qa hr;clear hr hz htk hlen;go_wp2_with (first|(at_builtin;refine qg _ rfl _ _ _ rfl 3 iI _ 1 8 hu64 hi bZ hsI cK rfl (by decide) (fo w) (1,0) _ _ _ rfl (Row.below (Row.below HR.o (qc (qd _) _)) (qc (qd _) _)) ⟨wi.1.size+1,0,none⟩ 1 1 [I Z zp] rfl rfl (qx (An.Ax _ _ _ _ _ (by simp) rfl)) jh hk1.out.1 hk1.out.2 ?_;intro v' w9 hown hst)|fail)
       have fC:=qc (qc hb (ANb #[zp,zs] 118)) (ANb #[zp] 3);have uU:=yy fC hown;have iC:=xz fC hst;go_roundw
       case rel=>exact⟨j+1,by simp,by omega,by rw[nQ.o,<-aB,VL];exact uU,iC⟩
       case measure=>simp[intOf];omega
      ·obtain rfl:j=tk.length:=by omega
       rw[aa,<-rG.out]at hr;have hr2:=hr.ite (n':=P1.length+(Ej ts (k+1)).length) (by
        have e:=congrArg List.length rG.out;have e2:=HP2.out;simp only[Qd,Qg]at e;omega) rfl
       have HR2:=Qa hr2;have HB2:=Qa hb;obtain⟨hw1,hw2⟩:=HKL.o;clear hr hr2 hb hj hjn;go_wp2_with fail;go_roundw
       case rel=>exact⟨k+1,by simp,by omega,HR2.o,HB2.o⟩
       case measure=>simp[intOf];omega
    ·obtain rfl:k=ts.length:=by omega
     have hr2:=hr.ite (n':=(ps++q.map (·.1)++Ej ts ts.length).length) (by rw[<-kM.o,Qd]) (xs':=(ps++q.map (·.1)++Ej ts ts.length).map nv) (by rw[kM.o])
     have HR2:=Qa hr2;have HB2:=Qa hb;clear hr hr2 hb hlt;go_wp2_with fail;go_ret;exact⟨_,rfl,HR2.o.ite (by simp) (by simp),HB2.o⟩
end
structure Ee (w:Aa)(g off:Nat)(l:List Nat)(c:Nat):Prop where
 cap:l.length<=c
 lt:g<w.1.size
 at':∀ (j x:Nat),l[j]?=some x->w.cell? ⟨g,off+j,none⟩=some (nv x)
def Ee.Ar {T:Tag->Prop}{w w':Aa}{o o':Own}{g off c:Nat}{l:List Nat}(h:Ee w g off l c)(hs:Stp T o o' w w')(ht:¬T (o g)):Ee w' g off l c:=
 ⟨h.cap,Qn h.lt hs.size,fun j x hj=>by
  have:=hs.block g h.lt ht;rw[<-h.at' j x hj];simp only[aL,this]⟩
def Ee.below {w w':Aa} {g off c:Nat} {l:List Nat} (h:Ee w g off l c) (hb:Ae w w w'):Ee w' g off l c:=h.Ar (o:=ER) (o':=ER) (T:=fun _=>False) (Stp.of_below hb) fun h=>h
def Ee.drop {w:Aa}{g off c:Nat}{l:List Nat}(h:Ee w g off l c){n:Nat}(hn:n<=l.length) :
  ∃ off',(if c=n then some (⟨g,off,none⟩:Addr) else some ⟨g,off+n,none⟩)=some ⟨g,off',none⟩/\Ee w g off' (l.drop n) (c-n):=by
 by_cases hc:c=n
 ·refine⟨off,if_pos hc,by rw[ay];have:=h.cap;omega,h.lt,fun j x hj=>?_⟩
  have h1:=h.cap;rw[List.drop_eq_nil_of_le (by omega)]at hj
  simp at hj
 ·refine⟨off+n,if_neg hc,by rw[ay];have:=h.cap;omega,h.lt,fun j x hj=>?_⟩
  rw[aQ]at hj;rw[Nat.add_assoc];exact h.at' (n+j) x hj
def Ee.take {w:Aa}{g off c:Nat}{l:List Nat}(h:Ee w g off l c){n:Nat}(hn:n<=l.length):Ee w g off (l.take n) c:=
 ⟨by rw[Qp];have:=h.cap;omega,h.lt,fun j x hj=>by
  rw[Qz]at hj;split at hj
  ·exact h.at' j x hj
  ·cases hj⟩
def Ee.Rl {T:Tag->Prop}{w:Aa}{o:Own}{g off c:Nat}{l:List Nat}(h:Ee w g off l c)(ht:¬T (o g)):Nk T w o (Ai (some ⟨g,off,none⟩) l.length c) l:=
 ⟨_,_,rfl,fun j x hj=>⟨g,off,rfl,h.lt,ht,h.at' j x hj⟩⟩
section
variable {w w' : Aa} {o o' : Own} {y : Bl} {S : Am} {i : Nat}
def Av.FL (h:Av w o y S){H':Hp}{n:Nat}{T:Tag->Prop}(hH:B1 w' o' y.l H')(hc:An w' y.cy (YQ y (FR y.cy n)) 143)(hs:Stp T o o' w w')(hn:∀ j,10<=j->¬T (y.l.id,j)):Av w' o' y { S with H:=H',ph:=n }:=by
 obtain⟨vq,vl,vm,hb,hr⟩:=h.A3;have hr':=hr.Ar hs fun j _ _=>hn j (by omega)
 exact⟨⟨vq,vl,vm,hb.Ar hs (by rw[h.os];exact hn _ (by omega)),hr'.1,hr'.2,hr'.3⟩,hc,hH,h.ck.Ar hs (by rw[h.oc];exact hn _ (by omega)),h.ED.Ar hs (hn _ (by omega)),fun i x hx=>(h.Au i x hx).Ar hs fun j _=>hn _ (by omega),(hs.tags _ h.ck.lt).trans h.oc,(hs.tags _ h.lt).trans h.os,(hs.tags _ h.cy.lt).trans h.oy⟩
def Tx.EN (x:Tx)(ps:List Nat):Tx:={ x with log:=x.log.put ps }
def Tx.Kg (x:Tx)(ps:List Nat):Tx:={ x with A0:=kz x.A0 ps }
def qid (h:Av w o y S)(hk:(S.t i).log.fit)(hi:i<S.Au.length){g off c:Nat}{ps:List Nat}(hv:Ee w g off ps c)(hg:(o g).1≠y.l.id)(hn:ps.length=(S.t i).log.roots.length) :
  Ab ANa 52 #[ptr (y.lb i),Ai (some ⟨g,off,none⟩) ps.length c] w fun e w'=>e=O (.bool true)/\∃ o',Av w' o' y (S.tx i ((S.t i).EN ps))/\Stp (tw y.l.id (17+8*i)) o o' w w':=by
 have hx:=h.Au i _ (Am.AW hi);obtain⟨vr,vk,vh,vu,hl⟩:=hx.log;obtain⟨vt,hb,hr⟩:=hx.A3;refine (qjh hl hk (hv.Rl fun ht=>hg ht.1) hn).mono ?_
 rintro e w' ⟨rfl,o',hl',hs⟩
 have ht:∀ t,tw y.l.id (17+8*i) t->ux y i t:=fun t ⟨h1,h2,h3⟩=>⟨h1,by omega,by omega⟩
 have n0:¬tw y.l.id (17+8*i) (y.l.id,16+8*i):=fun hh=>by have:=hh.2.1;simp only at this;omega
 have n6:¬tw y.l.id (17+8*i) (y.l.id,22+8*i):=fun hh=>by have:=hh.2.2;simp only at this;omega
 exact⟨rfl,o',h.tx (x':=(S.t i).EN ps) ⟨⟨vt,hb.Ar hs (by rw[hx.ob];exact n0),hr.Ar hs n6⟩,⟨vr,vk,vh,vu,hl'⟩,(hs.tags _ hb.lt).trans hx.ob⟩ (hs.mono ht),hs⟩
def qlu (h:Av w o y S)(hi:i<S.Au.length){g off c:Nat}{ps:List Nat}(hv:Ee w g off ps c)(hg:(o g).1≠y.l.id)(hn:(S.t i).A0.length<=ps.length)(hq:(S.t i).A0.length<=1099511627776) :
  ∃ dW pt ct,An w (y.xb i) (zj i (S.t i) (y.lb i) (.slice pt (S.t i).A0.length ct)) 105/\Ee w g dW (ps.drop (S.t i).A0.length) (c-(S.t i).A0.length) /\
  Ab ANa 50 #[.slice pt (S.t i).A0.length ct,Ai (some ⟨g,off,none⟩) ps.length c] w fun e w'=>e=O (Ai (some ⟨g,dW,none⟩) (ps.length-(S.t i).A0.length) (c-(S.t i).A0.length)) /\
   Av w' o y (S.tx i ((S.t i).Kg ps))/\Stp (fun t=>t=(y.l.id,22+8*i)) o o w w':=by
 have hx:=h.Au i _ (Am.AW hi);obtain⟨vr,vk,vh,vu,hl⟩:=hx.log;obtain⟨vt,hb,hr⟩:=hx.A3;obtain⟨pt,ct,rfl⟩:=hr.A6;obtain⟨dW,hoff,hd⟩:=hv.drop hn;refine⟨dW,pt,ct,hb,hd,(Xl hr hn hq hv.cap hv.at' hv.lt fun e=>hg (by rw[e])).mono ?_⟩
 rintro e w' ⟨rfl,hr',hs⟩
 rw[hoff];have ht:∀ t,t=(y.l.id,22+8*i)->ux y i t:=fun t e=>by rw[e];exact⟨rfl,by simp only;omega,by simp only;omega⟩
 refine⟨rfl,h.tx (x':=(S.t i).Kg ps) ⟨⟨_,hb.Ar hs (by rw[hx.ob];simp),?_⟩,⟨vr,vk,vh,vu,hl.Ar hs fun j hj=>by simp;omega⟩,(hs.tags _ hb.lt).trans hx.ob⟩ (hs.mono ht),hs⟩
 show Row w' o _ _ 2 _ (kz (S.t i).A0 ps).length (qh (kz (S.t i).A0 ps));rw[bh];exact hr'
def qjr (h:Av w o y S){g off c:Nat}{ps:List Nat}(hv:Ee w g off ps c)(hg:(o g).1≠y.l.id)(hn:S.queue.length<=ps.length)(hq:S.queue.length<=1099511627776) :
  ∃ dW pt ct vl vm,An w y.sb (qm y S (.slice pt S.queue.length ct) vl vm) 100/\Ee w g dW (ps.drop S.queue.length) (c-S.queue.length) /\
  Ab ANa 50 #[.slice pt S.queue.length ct,Ai (some ⟨g,off,none⟩) ps.length c] w fun e w'=>e=O (Ai (some ⟨g,dW,none⟩) (ps.length-S.queue.length) (c-S.queue.length)) /\
   Av w' o y { S with queue:=kz S.queue ps }/\Stp (fun t=>t=(y.l.id,13)) o o w w':=by
 obtain⟨vq,vl,vm,hb,hr⟩:=h.A3;have hrq:=hr.q;obtain⟨pt,ct,rfl⟩:=hrq.A6;obtain⟨dW,hoff,hd⟩:=hv.drop hn;refine⟨dW,pt,ct,vl,vm,hb,hd,(Xl hrq hn hq hv.cap hv.at' hv.lt fun e=>hg (by rw[e])).mono ?_⟩
 rintro e w' ⟨rfl,hr',hs⟩
 rw[hoff];have ht:∀ t,t=(y.l.id,13)->kh y t:=fun t e=>by rw[e];exact⟨rfl,.inr (.inl rfl)⟩
 refine⟨rfl,h.own (S':={ S with queue:=kz S.queue ps }) rfl rfl rfl rfl rfl (vq:=.slice pt S.queue.length ct) (hb.Ar hs (by rw[h.os];simp)) ⟨?_,hr.l.Ar hs (by simp),hr.m.Ar hs (by simp)⟩ (hs.mono ht),hs⟩
 show Row w' o _ _ 2 _ (kz S.queue ps).length (qh (kz S.queue ps));rw[bh];exact hr'
def Am.upto (S:Am)(g:Nat->Nat)(k:Nat):Am:={ S with queue:=CR g S.queue,Au:=(S.Au.take k).map (Tx.at' g)++S.Au.drop k }
def Sy (S:Am)(g:Nat->Nat)(k:Nat):(S.upto g k).Au.length=S.Au.length:=by
 unfold Am.upto;simp only[Qd,Qg,Qp,ay];omega
def KW (S:Am)(g:Nat->Nat){k:Nat}(hk:k<S.Au.length):(S.upto g k).t k=S.t k:=by
 have e:((S.Au.take k).map (Tx.at' g)).length=k:=by rw[Qg,Qp];omega
 unfold Am.t Am.upto;simp only[Qi];rw[Ql (by omega),e,aY,aQ,Nat.add_zero]
def qo2 (S:Am)(g:Nat->Nat):S.upto g 0={ S with queue:=CR g S.queue }:=by unfold Am.upto;simp
def KV (S:Am)(g:Nat->Nat):S.upto g S.Au.length=S.at' g:=by unfold Am.upto Am.at';rw[aa,aU,aK]
def qor (S:Am)(g:Nat->Nat){k:Nat}(hk:k<S.Au.length):S.upto g (k+1)=(S.upto g k).tx k ((S.t k).at' g):=by
 have e:((S.Au.take k).map (Tx.at' g)).length=k:=by rw[Qg,Qp];omega
 have e2:S.Au.drop k=S.t k::S.Au.drop (k+1):=by rw[aH hk];congr 1;have:=Am.AW hk;rw[Qb hk]at this;injection this
 unfold Am.tx Am.upto;congr 1;simp only;rw[e2,List.set_append_right _ _ (by omega),e,aY,aP,ai,Am.AW hk,Qw,aB]
 rfl
def G2 (x:Tx)(g:Nat->Nat)(l:List Nat):((x.EN (x.log.roots.map g)).Kg ((x.A0.map (·.1)).map g++l))=x.at' g:=by
 unfold Tx.EN Tx.Kg Tx.at';simp only[YT,SE]
def FY (ts:List Tx)(k:Nat):List Nat:=(ts.drop k).flatMap Tx.places
def KQ {S:Am}{k:Nat}(hk:k<S.Au.length):FY S.Au k=(S.t k).log.roots++((S.t k).A0.map (·.1)++FY S.Au (k+1)):=by
 have e2:S.Au.drop k=S.t k::S.Au.drop (k+1):=by rw[aH hk];congr 1;have:=Am.AW hk;rw[Qb hk]at this;injection this
 unfold FY;rw[e2,aA];unfold Tx.places;rw[aB]
