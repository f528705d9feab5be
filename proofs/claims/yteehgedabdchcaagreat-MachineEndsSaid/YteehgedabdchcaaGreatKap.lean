import Derived.Test.YteehgedabdchcaaGreatKao
import Derived.Test.YteehgedabdchcaaGreatKas
set_option linter.all false
set_option maxRecDepth 1000000
set_option maxHeartbeats 16000000
open Go renaming World->Aa,Calls->Ab,Value->Ac
open Go.RowKit renaming Below->Ae
open Go.Value renaming int->I,pointer->Ag,slice->Ah,tuple->Aj,agg->Ak
open Go.IntKind renaming i64->Z
open Go.Ending renaming returned->O
namespace Go.Proofs.YteehgedabdchcaaGreat
open Go.RowKit Hp
attribute [local go_sem ↓] Go.wp_at_zero Go.wp_at_succ
section
variable {w w' : Aa} {o o' : Own} {y : A3} {S : Al} {i : Nat}
theorem XR (f:Ac)(h:Ap w o y S)(hk:S.ok)(hi:i<S.Aw.length)(hl:(S.t i).live=false) :
  Ab Tryz.prog 77 #[ptr y.sb,I Z i,f] w fun e w'=>e=O (Aj #[I Z 0,I Z 140])/\Ae w.heap.size w w':=by
 have HR:=Qa (fun w' (hw:Ae w.heap.size w w')=>xh (h.below hw) hk (Al.AV hi))
 rw[hl]at HR;simp only[Bool.false_eq_true,if_false]at HR;clear h hk hi hl;go_enter_defers Tryz.func77,Tryz.ntmps77;go_wp2_with fail;obtain⟨W,hW⟩:∃ W:Aa,W=((w.alloc (.cells #[ptr y.sb] 24)).alloc (.cells #[I Z 0] 3)).alloc (.cells #[I Z 0] 29):=⟨_,rfl⟩;rw[<-hW];have hbW:Ae w.heap.size w W:=by rw[hW];exact qa (qa (qa (qc w) _) _) _
 have hzW:W.heap.size=w.heap.size+3:=by rw[hW];simp
 have jV:Am W (w.heap.size+1) #[I Z 0] 3:=by rw[hW];exact (Am.Aq _ _ _ _ _ (by simp) rfl).alloc _
 have jE:Am W (w.heap.size+1+1) #[I Z 0] 29:=by rw[hW];exact Am.Aq _ _ _ _ _ (by simp) rfl
 clear hW;refine (HR.out _ hbW).mono ?_
 rintro e w1 ⟨rfl,rfl⟩
 have cV:=jV.cell;have zV:=jV.free;have sV:=jV.lt;have cE:=jE.cell;have zE:=jE.free;have sE:=jE.lt;go_wp2_with fail;have jV3:=(((jV.set 0 (I Z 0)).An (a:=⟨w.heap.size+1+1,0,none⟩) (by simp) (I Z 140)).alloc (.cells #[Ag none] 103))
 have jE3:=(((jE.An (a:=⟨w.heap.size+1,0,none⟩) (by simp) (I Z 0)).set 0 (I Z 140)).alloc (.cells #[Ag none] 103))
 have hfin:Ae w.heap.size w (((W.setCell ⟨w.heap.size+1,0,none⟩ (I Z 0)).setCell ⟨w.heap.size+1+1,0,none⟩ (I Z 140)).alloc (.cells #[Ag none] 103)):=
  qa (qo (qo hbW (by simp) _) (by simp;omega) _) _
 generalize ((W.setCell ⟨w.heap.size+1,0,none⟩ (I Z 0)).setCell ⟨w.heap.size+1+1,0,none⟩ (I Z 140)).alloc (.cells #[Ag none] 103)=X at *;have cV3:=jV3.cell 0;have cE3:=jE3.cell 0;simp at cV3 cE3;simp only[bodyPostD,Leaves];exact⟨Aj #[I Z 0,I Z 140],by simp[results,Tryz.results77,go_sem,cV3,cE3],rfl,hfin⟩
theorem vx (g:Nat)(caps:List Ac)(h0:Ap w o y S)(hk:S.ok)(hi:i<S.Aw.length)(eg:∀ args w,(callFunc g args).run Tryz.prog w=.ok (.enter g args) w)
  (r:Bv)(hg:(S.t i).live=true->Good S.Aw.length r)
  (hdo:(S.t i).live=true->∀ w1 o1,Ae w.heap.size w w1->(∀ b,b<w.heap.size->o1 b=o b)->Ap w1 o1 y S->Ab Tryz.prog g (ptr (y.xb i)::caps).toArray w1 fun e w'=>e=O (Aj #[I Z r.v,I Z r.e])/\Bl y r.S o1 w1 w') :
  Ab Tryz.prog 77 #[ptr y.sb,I Z i,.func (.func g) #[] caps.toArray] w fun e w'=>e=O (Aj #[I Z (S.AH i r).v,I Z (S.AH i r).e])/\Bl y (S.AH i r).S o w w':=by
 unfold Al.AH
 cases hl:(S.t i).live with
 | false =>
  rw[if_neg (by simp)]
  refine (XR _ h0 hk hi hl).mono ?_
  rintro e w' ⟨rfl,hb⟩
  exact⟨rfl,h0.Ee hb⟩
 | true =>
  rw[if_pos rfl];replace hdo:=hdo hl;have hg:=hg hl;have hx:=Al.AV hi;obtain⟨S',v,e⟩:=r
  cases ha:ry e with
  | true =>
   have e1:Bv.fin ⟨S',v,e⟩ i=⟨S'.abort i,0,e⟩:=by unfold Bv.fin;rw[if_pos ha]
   rw[e1];have he:e=141\/e=130\/e=100:=by
    unfold ry at ha;simp only[Bool.or_eq_true,beq_iff_eq]at ha;omega
   refine (Wi g caps h0 hk hx hl eg (qh y) (qm y) S' (S'.abort i) v e he hdo fun w1 o1 h1=>VX h1 hg.1 (by have h2:S'.Aw.length=S.Aw.length:=hg.2;omega)).mono ?_
   rintro e w' ⟨rfl,o',h1,h2⟩
   exact⟨rfl,o',h1,h2.mono fun _ h=>h.elim id id⟩
  | false =>
   have hne:e≠141/\e≠130/\e≠100:=by
    unfold ry at ha;simp only[Bool.or_eq_false_iff,Qh]at ha;exact⟨ha.1.1,ha.1.2,ha.2⟩
   by_cases h0':e=0
   ·subst h0'
    have e1:Bv.fin ⟨S',v,0⟩ i=⟨S',v,0⟩:=by unfold Bv.fin;rw[if_neg (by rw[ha];simp),if_pos rfl]
    rw[e1];exact KO g caps h0 hk hx hl eg (qh y) (qm y) S' v hdo
   ·have e1:Bv.fin ⟨S',v,e⟩ i=⟨S',0,e⟩:=by unfold Bv.fin;rw[if_neg (by rw[ha];simp),if_neg h0']
    rw[e1];exact F2 g caps h0 hk hx hl eg (qh y) (qm y) S' v e h0' hne.1 hne.2.1 hne.2.2 hdo
theorem YQ (p j:Nat)(ef v er:Int)(S1 S2:Al)
  (fields:Ab Tryz.prog 136 #[ptr y.sb,ptr (y.xb i),I Z p] w fun e w'=>e=O (I Z ef)/\Bl y S1 o w w')
  (get:∀ w1 o1,Ap w1 o1 y S1->Ab Tryz.prog 76 #[ptr y.l.h,I Z p,I Z j] w1 fun e w'=>e=O (Aj #[I Z v,I Z er])/\Bl y S2 o1 w1 w')
  {b1 b2 b3 b4:Nat}(j1:Am w b1 #[ptr y.sb] 24)(j2:Am w b2 #[I Z p] 3)(j3:Am w b3 #[.func (.func 76) #[] #[]] 123)(j4:Am w b4 #[I Z j] 3)
  (t1:o b1=(y.l.id+1,0))(t2:o b2=(y.l.id+1,0))(t3:o b3=(y.l.id+1,0))(t4:o b4=(y.l.id+1,0))(R:Bv)(r1:ef≠0->R=⟨S1,0,ef⟩)(r2:ef=0->R=⟨S2,v,er⟩) :
  Ab Tryz.prog 135 #[ptr (y.xb i),ptr b1,ptr b2,ptr b3,ptr b4] w fun e w'=>e=O (Aj #[I Z R.v,I Z R.e])/\Bl y R.S o w w':=by
 have HF:=Qa fields;have HG:=Qa get;have HB:=Qa (qm y);have c1:=j1.cell;have c2:=j2.cell;have H1:=Qa r1;have H2:=Qa r2;clear fields get r1 r2;by_cases he:ef=0
 ·have H3:=Qa (H2.out he)
  clear H1 H2;subst he;rw[H3.out];clear H3;go_enter Tryz.func135,Tryz.ntmps135;go_wp2_with fail;refine HF.out.mono ?_
  rintro e w1 ⟨rfl,o1,hS1,hs1⟩
  have k1:=j1.Ao hs1 (by rw[t1];exact HB.out)
  have k2:=j2.Ao hs1 (by rw[t2];exact HB.out)
  have k3:=j3.Ao hs1 (by rw[t3];exact HB.out)
  have k4:=j4.Ao hs1 (by rw[t4];exact HB.out)
  obtain⟨vq,vl,vm,jb,_⟩:=hS1.AU;unfold qk at jb;have l1:=j1.lt;have l2:=j2.lt;have l3:=j3.lt;have l4:=j4.lt;clear c1 c2 j1 j2 j3 j4;have HG2:=Qa (HG.out w1.drew o1 (hS1.below (qe (qc w1))));have HS:=Qa hs1;have u1:o1 b1=(y.l.id+1,0):=(hs1.tags _ l1).trans t1;have u2:o1 b2=(y.l.id+1,0):=(hs1.tags _ l2).trans t2;have u3:o1 b3=(y.l.id+1,0):=(hs1.tags _ l3).trans t3;have u4:o1 b4=(y.l.id+1,0):=(hs1.tags _ l4).trans t4;have HKc:=Qa (fun (w2:Aa)(o2:Own)(hs2:Stp (qh y) o1 o2 w1.drew w2) =>
   show w2.cell? ⟨b1,0,none⟩=some (ptr y.sb)/\w2.cell? ⟨b2,0,none⟩=some (I Z p)/\w2.cell? ⟨b3,0,none⟩=some (.func (.func 76) #[] #[])/\w2.cell? ⟨b4,0,none⟩=some (I Z j) from
    ⟨((qi k1).Ao hs2 (by rw[u1];exact HB.out)).cell 0,((qi k2).Ao hs2 (by rw[u2];exact HB.out)).cell 0,((qi k3).Ao hs2 (by rw[u3];exact HB.out)).cell 0,((qi k4).Ao hs2 (by rw[u4];exact HB.out)).cell 0⟩)
  have HSb:=Qa (fun (w2:Aa)(o2:Own)(h2:Ap w2 o2 y S2)=>show w2.cell? ⟨y.sb,0,none⟩=some (ptr y.l.h) from by
   obtain⟨_,_,_,jb2,_⟩:=h2.AU;exact jb2.cell 0)
  clear hS1 hs1 HG u1 u2 u3 u4 l1 l2 l3 l4 t1 t2 t3 t4;have c1:w1.cell? ⟨b1,0,none⟩=some (ptr y.sb):=k1.cell 0;have c2:w1.cell? ⟨b2,0,none⟩=some (I Z p):=k2.cell 0;have c3:w1.cell? ⟨b3,0,none⟩=some (.func (.func 76) #[] #[]):=k3.cell 0;have c4:w1.cell? ⟨b4,0,none⟩=some (I Z j):=k4.cell 0;have cb:w1.cell? ⟨y.sb,0,none⟩=some (ptr y.l.h):=jb.cell 0;clear k1 k2 k3 k4 jb;go_upto_region 4 with fail;go_region_held3 (fun w'=>w'.cell? ⟨b1,0,none⟩=some (ptr y.sb)/\w'.cell? ⟨b2,0,none⟩=some (I Z p)/\w'.cell? ⟨b3,0,none⟩=some (.func (.func 76) #[] #[])/\w'.cell? ⟨b4,0,none⟩=some (I Z j)/\w'.cell? ⟨y.sb,0,none⟩=some (ptr y.l.h))(first|exact⟨by assumption,by assumption,by assumption,by assumption,by assumption⟩|go_keep)(first
   | (go_at_call 76;refine HG2.out.mono ?_;rintro e w2 ⟨rfl,o2,hS2,hs2⟩;obtain⟨d1,d2,d3,d4⟩:=HKc.out _ _ hs2;have db:=HSb.out _ _ hS2)
   | fail)
  go_wp2_with fail;go_ret2;exact⟨rfl,o2,hS2,HS.out.trans ((Stp.of_below (qe (qc w1))).trans hs2)⟩
 ·have H3:=Qa (H1.out he)
  have hb:(ef != 0)=true:=by rw[bne_iff_ne];exact he
  have hb2:(ef==0)=false:=by rw[Qh];exact he
  clear H1 H2;rw[H3.out];clear H3;go_enter Tryz.func135,Tryz.ntmps135;go_wp2_with fail;refine HF.out.mono ?_
  rintro e w1 ⟨rfl,o1,hS1,hs1⟩
  go_wp2_with fail;go_ret2;exact⟨rfl,o1,hS1,hs1⟩
theorem WW (p j:Nat)(ef v er:Int)(S1 S2:Al)
  (fields:Ab Tryz.prog 136 #[ptr y.sb,ptr (y.xb i),I Z p] w fun e w'=>e=O (I Z ef)/\Bl y S1 o w w')
  (get:∀ w1 o1,Ap w1 o1 y S1->Ab Tryz.prog 112 #[ptr y.l.h,I Z p,I Z j] w1 fun e w'=>e=O (Aj #[I Z v,I Z er])/\Bl y S2 o1 w1 w')
  {b1 b2 b3 b4:Nat}(j1:Am w b1 #[ptr y.sb] 24)(j2:Am w b2 #[I Z p] 3)(j3:Am w b3 #[.func (.func 112) #[] #[]] 123)(j4:Am w b4 #[I Z j] 3)
  (t1:o b1=(y.l.id+1,0))(t2:o b2=(y.l.id+1,0))(t3:o b3=(y.l.id+1,0))(t4:o b4=(y.l.id+1,0))(R:Bv)(r1:ef≠0->R=⟨S1,0,ef⟩)(r2:ef=0->R=⟨S2,v,er⟩) :
  Ab Tryz.prog 135 #[ptr (y.xb i),ptr b1,ptr b2,ptr b3,ptr b4] w fun e w'=>e=O (Aj #[I Z R.v,I Z R.e])/\Bl y R.S o w w':=by
 have HF:=Qa fields;have HG:=Qa get;have HB:=Qa (qm y);have c1:=j1.cell;have c2:=j2.cell;have H1:=Qa r1;have H2:=Qa r2;clear fields get r1 r2;by_cases he:ef=0
 ·have H3:=Qa (H2.out he)
  clear H1 H2;subst he;rw[H3.out];clear H3;go_enter Tryz.func135,Tryz.ntmps135;go_wp2_with fail;refine HF.out.mono ?_
  rintro e w1 ⟨rfl,o1,hS1,hs1⟩
  have k1:=j1.Ao hs1 (by rw[t1];exact HB.out)
  have k2:=j2.Ao hs1 (by rw[t2];exact HB.out)
  have k3:=j3.Ao hs1 (by rw[t3];exact HB.out)
  have k4:=j4.Ao hs1 (by rw[t4];exact HB.out)
  obtain⟨vq,vl,vm,jb,_⟩:=hS1.AU;unfold qk at jb;have l1:=j1.lt;have l2:=j2.lt;have l3:=j3.lt;have l4:=j4.lt;clear c1 c2 j1 j2 j3 j4;have HG2:=Qa (HG.out w1.drew o1 (hS1.below (qe (qc w1))));have HS:=Qa hs1;have u1:o1 b1=(y.l.id+1,0):=(hs1.tags _ l1).trans t1;have u2:o1 b2=(y.l.id+1,0):=(hs1.tags _ l2).trans t2;have u3:o1 b3=(y.l.id+1,0):=(hs1.tags _ l3).trans t3;have u4:o1 b4=(y.l.id+1,0):=(hs1.tags _ l4).trans t4;have HKc:=Qa (fun (w2:Aa)(o2:Own)(hs2:Stp (qh y) o1 o2 w1.drew w2) =>
   show w2.cell? ⟨b1,0,none⟩=some (ptr y.sb)/\w2.cell? ⟨b2,0,none⟩=some (I Z p)/\w2.cell? ⟨b3,0,none⟩=some (.func (.func 112) #[] #[])/\w2.cell? ⟨b4,0,none⟩=some (I Z j) from
    ⟨((qi k1).Ao hs2 (by rw[u1];exact HB.out)).cell 0,((qi k2).Ao hs2 (by rw[u2];exact HB.out)).cell 0,((qi k3).Ao hs2 (by rw[u3];exact HB.out)).cell 0,((qi k4).Ao hs2 (by rw[u4];exact HB.out)).cell 0⟩)
  have HSb:=Qa (fun (w2:Aa)(o2:Own)(h2:Ap w2 o2 y S2)=>show w2.cell? ⟨y.sb,0,none⟩=some (ptr y.l.h) from by
   obtain⟨_,_,_,jb2,_⟩:=h2.AU;exact jb2.cell 0)
  clear hS1 hs1 HG u1 u2 u3 u4 l1 l2 l3 l4 t1 t2 t3 t4;have c1:w1.cell? ⟨b1,0,none⟩=some (ptr y.sb):=k1.cell 0;have c2:w1.cell? ⟨b2,0,none⟩=some (I Z p):=k2.cell 0;have c3:w1.cell? ⟨b3,0,none⟩=some (.func (.func 112) #[] #[]):=k3.cell 0;have c4:w1.cell? ⟨b4,0,none⟩=some (I Z j):=k4.cell 0;have cb:w1.cell? ⟨y.sb,0,none⟩=some (ptr y.l.h):=jb.cell 0;clear k1 k2 k3 k4 jb;go_upto_region 4 with fail;go_region_held3 (fun w'=>w'.cell? ⟨b1,0,none⟩=some (ptr y.sb)/\w'.cell? ⟨b2,0,none⟩=some (I Z p)/\w'.cell? ⟨b3,0,none⟩=some (.func (.func 112) #[] #[])/\w'.cell? ⟨b4,0,none⟩=some (I Z j)/\w'.cell? ⟨y.sb,0,none⟩=some (ptr y.l.h))(first|exact⟨by assumption,by assumption,by assumption,by assumption,by assumption⟩|go_keep)(first
   | (go_at_call 112;refine HG2.out.mono ?_;rintro e w2 ⟨rfl,o2,hS2,hs2⟩;obtain⟨d1,d2,d3,d4⟩:=HKc.out _ _ hs2;have db:=HSb.out _ _ hS2)
   | fail)
  go_wp2_with fail;go_ret2;exact⟨rfl,o2,hS2,HS.out.trans ((Stp.of_below (qe (qc w1))).trans hs2)⟩
 ·have H3:=Qa (H1.out he)
  have hb:(ef != 0)=true:=by rw[bne_iff_ne];exact he
  have hb2:(ef==0)=false:=by rw[Qh];exact he
  clear H1 H2;rw[H3.out];clear H3;go_enter Tryz.func135,Tryz.ntmps135;go_wp2_with fail;refine HF.out.mono ?_
  rintro e w1 ⟨rfl,o1,hS1,hs1⟩
  go_wp2_with fail;go_ret2;exact⟨rfl,o1,hS1,hs1⟩
theorem UF (args:Array Ac)(w:Aa):(callFunc 135 args).run Tryz.prog w=.ok (.enter 135 args) w:=enters_of Tryz.func135 (by kernel_rfl) rfl args w
theorem KA (args:Array Ac)(w:Aa):(callFunc 76 args).run Tryz.prog w=.ok (.enter 76 args) w:=enters_of Tryz.func76 (by kernel_rfl) rfl args w
theorem LB (args:Array Ac)(w:Aa):(callFunc 112 args).run Tryz.prog w=.ok (.enter 112 args) w:=enters_of Tryz.func112 (by kernel_rfl) rfl args w
theorem Yc (h0:Ap w o y S)(hk:S.ok)(hi:i<S.Aw.length)(p j:Nat)(v er:Int)(S2:Al)(R:Bv)
  (get:∀ w1 o1,Ap w1 o1 y (S.Ar i p).1->Ab Tryz.prog 76 #[ptr y.l.h,I Z p,I Z j] w1 fun e w'=>e=O (Aj #[I Z v,I Z er])/\Bl y S2 o1 w1 w')
  (hG:Good S.Aw.length R)(r1:(S.Ar i p).2≠0->R=⟨(S.Ar i p).1,0,(S.Ar i p).2⟩)(r2:(S.Ar i p).2=0->R=⟨S2,v,er⟩) :
  Ab Tryz.prog 75 #[ptr y.sb,I Z i,I Z p,I Z j,.func (.func 76) #[] #[]] w fun e w'=>e=O (Aj #[I Z (S.AH i R).v,I Z (S.AH i R).e])/\Bl y (S.AH i R).S o w w':=by
 have hmf:∀ (fn:Fn)(first cap:Array Ac)(w:Aa),(Instr.makeFunc fn first cap).run Tryz.prog w=.ok (.func fn first cap) w:=fun _ _ _ _=>rfl
 obtain⟨o1,ho1⟩:∃ o1,o1=ext o w.heap.size (y.l.id+1,0):=⟨_,rfl⟩;have h:=h0.retag (o':=o1) fun b hb=>by rw[ho1];exact qj hb
 have hS0:Stp (qh y) o o1 w w:=by rw[ho1];exact (Stp.refl _ o w).ext _ _ (Qk _)
 have hbx:∀ b,w.heap.size<=b->o1 b=(y.l.id+1,0):=fun b hb=>by rw[ho1];exact qp hb
 clear ho1 h0;obtain⟨W,hW⟩:∃ W:Aa,W=(((w.alloc (.cells #[ptr y.sb] 24)).alloc (.cells #[I Z p] 3)).alloc (.cells #[I Z j] 3)).alloc (.cells #[.func (.func 76) #[] #[]] 123):=⟨_,rfl⟩;have hbW:Ae w.heap.size w W:=by rw[hW];exact qa (qa (qa (qa (qc w) _) _) _) _
 have j1:Am W w.heap.size #[ptr y.sb] 24:=by rw[hW];exact (((Am.new w _ _).alloc _).alloc _).alloc _
 have j2:Am W (w.heap.size+1) #[I Z p] 3:=by rw[hW];exact ((Am.Aq _ _ _ _ _ (by simp) rfl).alloc _).alloc _
 have j4:Am W (w.heap.size+1+1) #[I Z j] 3:=by rw[hW];exact (Am.Aq _ _ _ _ _ (by simp) rfl).alloc _
 have j3:Am W (w.heap.size+1+1+1) #[.func (.func 76) #[] #[]] 123:=by rw[hW];exact Am.Aq _ _ _ _ _ (by simp) rfl
 have HD:=Qa (vx 135 [ptr w.heap.size,ptr (w.heap.size+1),ptr (w.heap.size+1+1+1),ptr (w.heap.size+1+1)] (h.below hbW) hk hi UF R (fun _=>hG)
  (fun _ w1 o2 hb he2 hS=>YQ p j _ v er _ S2 (my hS hk hi p) get (j1.below hb j1.lt) (j2.below hb j2.lt) (j3.below hb j3.lt) (j4.below hb j4.lt)
   ((he2 _ j1.lt).trans (hbx _ (by omega))) ((he2 _ j2.lt).trans (hbx _ (by omega))) ((he2 _ j3.lt).trans (hbx _ (by omega))) ((he2 _ j4.lt).trans (hbx _ (by omega))) R r1 r2))
 have HS:=Qa (hS0.trans (Stp.of_below hbW));generalize S.AH i R=R' at *;clear h hk hi get hG r1 r2 hbx hS0 hbW j1 j2 j3 j4;go_enter Tryz.func75,Tryz.ntmps75;go_wp2_with fail;rw[<-hW];refine HD.out.mono ?_
 rintro e w2⟨rfl,o2,hS2,hs2⟩
 go_wp2_with fail;go_ret2;exact⟨rfl,o2,hS2,HS.out.trans hs2⟩
theorem XK (h0:Ap w o y S)(hk:S.ok)(hi:i<S.Aw.length)(p j:Nat)(v er:Int)(S2:Al)(R:Bv)
  (get:∀ w1 o1,Ap w1 o1 y (S.Ar i p).1->Ab Tryz.prog 112 #[ptr y.l.h,I Z p,I Z j] w1 fun e w'=>e=O (Aj #[I Z v,I Z er])/\Bl y S2 o1 w1 w')
  (hG:Good S.Aw.length R)(r1:(S.Ar i p).2≠0->R=⟨(S.Ar i p).1,0,(S.Ar i p).2⟩)(r2:(S.Ar i p).2=0->R=⟨S2,v,er⟩) :
  Ab Tryz.prog 75 #[ptr y.sb,I Z i,I Z p,I Z j,.func (.func 112) #[] #[]] w fun e w'=>e=O (Aj #[I Z (S.AH i R).v,I Z (S.AH i R).e])/\Bl y (S.AH i R).S o w w':=by
 have hmf:∀ (fn:Fn)(first cap:Array Ac)(w:Aa),(Instr.makeFunc fn first cap).run Tryz.prog w=.ok (.func fn first cap) w:=fun _ _ _ _=>rfl
 obtain⟨o1,ho1⟩:∃ o1,o1=ext o w.heap.size (y.l.id+1,0):=⟨_,rfl⟩;have h:=h0.retag (o':=o1) fun b hb=>by rw[ho1];exact qj hb
 have hS0:Stp (qh y) o o1 w w:=by rw[ho1];exact (Stp.refl _ o w).ext _ _ (Qk _)
 have hbx:∀ b,w.heap.size<=b->o1 b=(y.l.id+1,0):=fun b hb=>by rw[ho1];exact qp hb
 clear ho1 h0;obtain⟨W,hW⟩:∃ W:Aa,W=(((w.alloc (.cells #[ptr y.sb] 24)).alloc (.cells #[I Z p] 3)).alloc (.cells #[I Z j] 3)).alloc (.cells #[.func (.func 112) #[] #[]] 123):=⟨_,rfl⟩;have hbW:Ae w.heap.size w W:=by rw[hW];exact qa (qa (qa (qa (qc w) _) _) _) _
 have j1:Am W w.heap.size #[ptr y.sb] 24:=by rw[hW];exact (((Am.new w _ _).alloc _).alloc _).alloc _
 have j2:Am W (w.heap.size+1) #[I Z p] 3:=by rw[hW];exact ((Am.Aq _ _ _ _ _ (by simp) rfl).alloc _).alloc _
 have j4:Am W (w.heap.size+1+1) #[I Z j] 3:=by rw[hW];exact (Am.Aq _ _ _ _ _ (by simp) rfl).alloc _
 have j3:Am W (w.heap.size+1+1+1) #[.func (.func 112) #[] #[]] 123:=by rw[hW];exact Am.Aq _ _ _ _ _ (by simp) rfl
 have HD:=Qa (vx 135 [ptr w.heap.size,ptr (w.heap.size+1),ptr (w.heap.size+1+1+1),ptr (w.heap.size+1+1)] (h.below hbW) hk hi UF R (fun _=>hG)
  (fun _ w1 o2 hb he2 hS=>WW p j _ v er _ S2 (my hS hk hi p) get (j1.below hb j1.lt) (j2.below hb j2.lt) (j3.below hb j3.lt) (j4.below hb j4.lt)
   ((he2 _ j1.lt).trans (hbx _ (by omega))) ((he2 _ j2.lt).trans (hbx _ (by omega))) ((he2 _ j3.lt).trans (hbx _ (by omega))) ((he2 _ j4.lt).trans (hbx _ (by omega))) R r1 r2))
 have HS:=Qa (hS0.trans (Stp.of_below hbW));generalize S.AH i R=R' at *;clear h hk hi get hG r1 r2 hbx hS0 hbW j1 j2 j3 j4;go_enter Tryz.func75,Tryz.ntmps75;go_wp2_with fail;rw[<-hW];refine HD.out.mono ?_
 rintro e w2⟨rfl,o2,hS2,hs2⟩
 go_wp2_with fail;go_ret2;exact⟨rfl,o2,hS2,HS.out.trans hs2⟩
def Al.read (S:Al)(i p j:Nat):Bv:=S.AH i (S.Ct i p j)
def Al.get (S:Al)(i p j:Nat):Bv:=S.AH i (S.CX i p j)
theorem qnv (h:Ap w o y S)(hk:S.ok)(hi:i<S.Aw.length)(p j:Nat) :
  Ab Tryz.prog 24 #[ptr y.sb,I Z i,I Z p,I Z j] w fun e w'=>e=O (Aj #[I Z (S.read i p j).v,I Z (S.read i p j).e])/\Bl y (S.read i p j).S o w w':=by
 have hf:=Al.BV hk hi p;have HF:=Qa (Yc h hk hi p j ((S.Ar i p).1.H.Cz p j).1 ((S.Ar i p).1.H.Cz p j).2 (S.Ar i p).1 (S.Ct i p j)
  (fun w1 o1 h1=>(Mx h1 hf p j).mono fun _ _⟨a,b⟩=>⟨a,h1.Ee b⟩) (bq hk hi p j) (fun he=>by unfold Al.Ct;rw[if_pos he]) (fun he=>by unfold Al.Ct;rw[if_neg (by simpa using he)]))
 unfold Al.read;generalize S.AH i (S.Ct i p j)=R at *;clear h hk hi hf;go_enter Tryz.func24,Tryz.ntmps24;go_wp2_with fail;refine HF.out.mono ?_
 rintro e w2⟨rfl,h2⟩
 go_wp2_with fail;go_ret2;exact⟨rfl,h2⟩
theorem Jn (h:Ap w o y S)(hk:S.ok)(hi:i<S.Aw.length)(p j:Nat) :
  Ab Tryz.prog 57 #[ptr y.sb,I Z i,I Z p,I Z j] w fun e w'=>e=O (Aj #[I Z (S.get i p j).v,I Z (S.get i p j).e])/\Bl y (S.get i p j).S o w w':=by
 have hf:=Al.BV hk hi p;have HF:=Qa (XK h hk hi p j ((S.Ar i p).1.H.A5 p j).2.1 ((S.Ar i p).1.H.A5 p j).2.2 ((S.Ar i p).1.h ((S.Ar i p).1.H.A5 p j).1) (S.CX i p j)
  (fun w1 o1 h1=>GV h1 hf p j) (RU hk hi p j) (fun he=>by unfold Al.CX;rw[if_pos he]) (fun he=>by unfold Al.CX;rw[if_neg (by simpa using he)]))
 unfold Al.get;generalize S.AH i (S.CX i p j)=R at *;clear h hk hi hf;go_enter Tryz.func57,Tryz.ntmps57;go_wp2_with fail;refine HF.out.mono ?_
 rintro e w2⟨rfl,h2⟩
 go_wp2_with fail;go_ret2;exact⟨rfl,h2⟩
end
section
variable {w w' : Aa} {o o' : Own} {y : A3} {S : Al} {i : Nat}
theorem qfq (h:Ap w o y S)(hk:S.ok)(hi:i<S.Aw.length)(p v:Nat)(hn:(S.AZ i p v).2=false) :
  Ab Tryz.prog 168 #[ptr (y.lb i),Ak #[I Z p,I Z v]] w fun e w'=>e=O (.bool false)/\Ae w.heap.size w w':=by
 obtain⟨vr,vk,vh,vu,hl⟩:=(h.Aw i _ (Al.AV hi)).log;unfold Al.AZ at hn;by_cases hd:∀ z ∈ (S.t i).log.holds,z.1≠p
 ·by_cases hm:(S.t i).log.holds.length<(S.t i).log.mu
  ·have e1:wb (S.t i).log p=true:=by unfold wb;simp only[Bool.and_eq_true,decide_eq_true_eq];exact⟨hd,hm⟩
   rw[if_pos e1]at hn;cases hn
  ·exact bh hl (hk.Em hi).ok p v hd (by omega)
 ·exact sn hl (hk.Em hi).ok p v hd
theorem rz {S:Al}{i p:Nat}(hn:(S.A2 i p).2=false):¬S.H.sec p%2=1/\(S.AZ i p (S.H.sec p/2)).2=false/\(S.A2 i p).1=S:=by
 unfold Al.A2 at hn ⊢;split at hn
 ·cases hn
 ·rename_i h1
  rw[if_neg h1];split at hn
  ·cases hn
  ·rename_i h2
   rw[if_neg h2];exact⟨h1,by simpa using h2,rfl⟩
theorem SH (h:Ap w o y S)(hk:S.ok)(hi:i<S.Aw.length)(p:Nat)(hn:(S.A2 i p).2=false) :
  Ab Tryz.prog 119 #[ptr y.sb,ptr (y.xb i),I Z p] w fun e w'=>e=O (.bool false)/\Ae w.heap.size w w':=by
 obtain⟨hod,hno,_⟩:=rz hn;have HC:=Qa (Sg h hk p);obtain⟨hs,hv⟩:=hk.sec p;have HO:=(fun w=>lr (S.H.sec p) hv hs w)
 obtain⟨vq,vl,vm,hb,_⟩:=h.AU;unfold qk at hb;have c:=hb.cell;obtain⟨vt,jx,_⟩:=(h.Aw i _ (Al.AV hi)).AU;unfold zg at jx;have HL:=Qa (fun w' (hw:Ae w.heap.size w w')=>qfq (h.below hw) hk hi p (S.H.sec p/2) hno)
 rw[if_neg hod,if_neg hod,decide_eq_false hod]at HO;replace HO:=Qa HO;generalize S.H.sec p/2=v2 at *;generalize S.H.sec p=v at *;clear h hk hi hs hv hod hn hno;go_enter Tryz.func119,Tryz.ntmps119;go_wp2_with fail;refine HC.out.mono ?_
 rintro e w1⟨er,rfl,hb1⟩
 have cx:=(jx.below hb1 jx.lt).cell;go_wp2_with fail;refine (HO.out _).mono ?_
 rintro e w2⟨rfl,rfl⟩
 go_wp2_with fail;refine (HL.out _ hb1).mono ?_
 rintro e w2⟨rfl,hb2⟩
 go_wp2_with fail;go_ret;exact⟨rfl,qd hb1 hb2⟩
structure RI (ef eg se:Int)(hb ub:Bool)(S1 S2 S3 S4 S5:Al)(R:Bv):Prop where
 r1:ef≠0->R.S=S1/\R.e=ef
 r2:ef=0->eg≠0->R.S=S2/\R.e=eg
 r3:ef=0->eg=0->hb=false->R.S=S3/\R.e=130
 r4:ef=0->eg=0->hb=true->ub=false->R.S=S4/\R.e=130
 r5:ef=0->eg=0->hb=true->ub=true->R.S=S5/\R.e=se
theorem VH (gf sf:Nat)(egf:∀ args w,(callFunc gf args).run Tryz.prog w=.ok (.enter gf args) w)(esf:∀ args w,(callFunc sf args).run Tryz.prog w=.ok (.enter sf args) w)
  (kd p j:Nat)(v old ef eg se:Int)(hb ub:Bool)(S1 S2 S3 S4 S5:Al)(R:Bv)(hR:RI ef eg se hb ub S1 S2 S3 S4 S5 R)(h:Ap w o y S)(hx3:i<S3.Aw.length)
  (fields:∀ w1 o1,Ap w1 o1 y S->Ab Tryz.prog 136 #[ptr y.sb,ptr (y.xb i),I Z p] w1 fun e w'=>e=O (I Z ef)/\Bl y S1 o1 w1 w')
  (get:∀ w1 o1,Ap w1 o1 y S1->Ab Tryz.prog gf #[ptr y.l.h,I Z p,I Z j] w1 fun e w'=>e=O (Aj #[I Z old,I Z eg])/\Bl y S2 o1 w1 w')
  (hold:∀ w1 o1,Ap w1 o1 y S2->Ab Tryz.prog 119 #[ptr y.sb,ptr (y.xb i),I Z p] w1 fun e w'=>e=O (.bool hb)/\Bl y S3 o1 w1 w')
  (hno:hb=false->S3=S2/\∀ w1 o1,Ap w1 o1 y S2->Ab Tryz.prog 119 #[ptr y.sb,ptr (y.xb i),I Z p] w1 fun e w'=>e=O (.bool false)/\Ae w1.heap.size w1 w')
  (DR:∀ w1 o1,Ap w1 o1 y S3->Ab Tryz.prog 120 #[ptr (y.lb i),Ak #[I Z kd,I Z p,I Z j,I Z old]] w1 fun e w'=>e=O (.bool ub)/\Bl y S4 o1 w1 w')
  (set:∀ w1 o1,Ap w1 o1 y S4->Ab Tryz.prog sf #[ptr y.l.h,I Z p,I Z j,I Z v] w1 fun e w'=>e=O (I Z se)/\Bl y S5 o1 w1 w') :
  Ab Tryz.prog 109 #[ptr y.sb,ptr (y.xb i),Ak #[I Z kd,I Z p,I Z j,I Z 0],.func (.func gf) #[ptr y.l.h] #[],.func (.func sf) #[ptr y.l.h] #[],I Z v] w
   fun e w'=>e=O (I Z R.e)/\Bl y R.S o w w':=by
 obtain⟨o1,ho1⟩:∃ o1,o1=ext o w.heap.size (y.l.id+1,0):=⟨_,rfl⟩;have hr:=h.retag (o':=o1) fun b hb=>by rw[ho1];exact qj hb
 have hS0:Stp (qh y) o o1 w w:=by rw[ho1];exact (Stp.refl _ o w).ext _ _ (Qk _)
 have hbx:o1 w.heap.size=(y.l.id+1,0):=by rw[ho1];exact qp (Qk _)
 clear ho1 h;obtain⟨RS,Rv,Re⟩:=R;have HRR:=Qa hR;have HF:=Qa (fun w' (hw:Ae w.heap.size w w')=>fields w' o1 (hr.below hw))
 have HG:=Qa get;have HH:=Qa hold;have HN:=Qa hno;have HU:=Qa DR;have HS:=Qa set;have HB:=Qa (qm y);have H0:=Qa hS0;have hX2:=Qa (fun w' o' (hS:Ap w' o' y S3)=>(hS.Aw i _ (Al.AV hx3)).AU)
 have jU:=Am.new w #[I Z kd,I Z p,I Z j,I Z 0] 175;clear fields get hold hno DR set hr hS0 hx3 hR;go_enter Tryz.func109,Tryz.ntmps109;have cU:=jU.cell;go_wp2_with fail;refine (HF.out _ (qa (qc w) _)).mono ?_
 rintro e w1 ⟨rfl,o2,hS1,hs1⟩
 have jU1:=jU.Ao hs1 (by rw[hbx];exact HB.out)
 have tU1:o2 w.heap.size=(y.l.id+1,0):=(hs1.tags _ jU.lt).trans hbx;have H1:=Qa (H0.out.trans ((Stp.of_below (qa (qc w) _)).trans hs1));clear cU hs1 jU hbx;by_cases he:ef=0
 ·subst he
  have cU:=jU1.cell;go_wp2_with fail;refine (HG.out _ o2 hS1).mono ?_
  rintro e w2 ⟨rfl,o3,hS2,hs2⟩
  have jU2:=jU1.Ao hs2 (by rw[tU1];exact HB.out)
  have tU2:o3 w.heap.size=(y.l.id+1,0):=(hs2.tags _ jU1.lt).trans tU1;have H2:=Qa (H1.out.trans hs2);clear cU hs2 jU1 tU1 hS1;by_cases he2:eg=0
  ·subst he2
   have cU:=jU2.cell;have zU:=jU2.free;have sU:=jU2.lt;go_upto_region 8 with fail;obtain⟨W,hW⟩:∃ W:Aa,W=w2.setCell ⟨w.heap.size,3,none⟩ (I Z old):=⟨_,rfl⟩;rw[<-hW];have jW:Am W w.heap.size #[I Z kd,I Z p,I Z j,I Z old] 175:=by rw[hW];exact jU2.set 3 _
   have hSW:Ap W o3 y S2:=by rw[hW];exact hS2.box tU2 _
   have hs2:Stp (qh y) o o3 w W:=by rw[hW];exact H2.out.setCell_new (Qk _) _
   clear hW cU zU sU jU2 hS2 H2;have cW:=jW.cell;have hSW2:=Qa (hSW.below (qe (qc W)))
   cases hb with
   | false =>
    have e1:=(HRR.out.r3 rfl rfl rfl);simp only at e1;obtain⟨rfl,rfl⟩:=e1;obtain⟨rfl,hn9⟩:=HN.out rfl;have HN2:=Qa (fun (e:Later W)=>hn9 e.1 o3 (hSW.below e.2))
    have HSW:=Qa hSW;have l1:=fun (e:Later W)(i:Nat)=>Later.cell jW e i
    clear cW hSW2 hn9 HH HU HS HG HF hX2 hSW;refine qy (by kernel_rfl) (by kernel_rfl) ?_
    repeat (go_big_quiet_step ((go_at_call 119;exact kj (HN2.out _))))
    refine wpQuiet_nil ?_;intro w8 hW0;obtain⟨⟨W9,hb9⟩,hwt⟩:=hW0;have hwt:w8=W9:=hwt;subst hwt;go_wp2_with fail;go_ret;exact⟨rfl,o3,HSW.out.below hb9,hs2.trans (Stp.of_below hb9)⟩
   | true =>
    clear hSW
    cases ub with
    | false =>
     have e1:=(HRR.out.r4 rfl rfl rfl rfl);simp only at e1;obtain⟨rfl,rfl⟩:=e1;go_region_with (first
      | (go_at_call 119;refine (HH.out _ o3 hSW2.out).mono ?_;rintro e w3 ⟨rfl,o4,hS3,hs3⟩;have m1:=(qi jW).Ao hs3 (by rw[tU2];exact HB.out);have d1:=m1.cell;obtain⟨vt3,jx3,_⟩:=hX2.out _ _ hS3;unfold zg at jx3;have dx:=jx3.cell)
      | (go_at_call 120;refine (HU.out _ o4 hS3).mono ?_;rintro e w4 ⟨rfl,o5,hS4,hs4⟩)
      | fail)
     all_goals
      go_wp2_with fail;go_ret;exact⟨rfl,o5,hS4,((hs2.trans (Stp.of_below (qe (qc W)))).trans hs3).trans hs4⟩
    | true =>
     have e1:=(HRR.out.r5 rfl rfl rfl rfl);simp only at e1;obtain⟨rfl,rfl⟩:=e1;go_region_with (first
      | (go_at_call 119;refine (HH.out _ o3 hSW2.out).mono ?_;rintro e w3 ⟨rfl,o4,hS3,hs3⟩;have m1:=(qi jW).Ao hs3 (by rw[tU2];exact HB.out);have d1:=m1.cell;obtain⟨vt3,jx3,_⟩:=hX2.out _ _ hS3;unfold zg at jx3;have dx:=jx3.cell)
      | (go_at_call 120;refine (HU.out _ o4 hS3).mono ?_;rintro e w4 ⟨rfl,o5,hS4,hs4⟩)
      | fail)
     all_goals
      have n1:=m1.Ao hs4 (by rw[(hs3.tags _ (qi jW).lt).trans tU2];exact HB.out)
      clear d1 dx cW;have d1:=n1.cell;go_wp2_with fail;refine (HS.out _ o5 hS4).mono ?_
      rintro e w5 ⟨rfl,o6,hS5,hs5⟩
      go_wp2_with fail;go_ret;exact⟨rfl,o6,hS5,(((hs2.trans (Stp.of_below (qe (qc W)))).trans hs3).trans hs4).trans hs5⟩
  ·have e1:=(HRR.out.r2 rfl he2)
   simp only at e1;obtain⟨rfl,rfl⟩:=e1;have hbb:(Re != 0)=true:=by rw[bne_iff_ne];exact he2
   have hb2:(Re==0)=false:=by rw[Qh];exact he2
   clear he2;go_wp2_with fail;go_ret;exact⟨rfl,o3,hS2,H2.out⟩
 ·have e1:=(HRR.out.r1 he)
  simp only at e1;obtain⟨rfl,rfl⟩:=e1;have hbb:(Re != 0)=true:=by rw[bne_iff_ne];exact he
  have hb2:(Re==0)=false:=by rw[Qh];exact he
  clear he;go_wp2_with fail;go_ret;exact⟨rfl,o2,hS1,H1.out⟩
theorem XM (args:Array Ac)(w:Aa):(callFunc 110 args).run Tryz.prog w=.ok (.enter 110 args) w:=enters_of Tryz.func110 (by kernel_rfl) rfl args w
theorem YG (args:Array Ac)(w:Aa):(callFunc 113 args).run Tryz.prog w=.ok (.enter 113 args) w:=enters_of Tryz.func113 (by kernel_rfl) rfl args w
theorem Mg (h:Ap w o y S)(hk:S.ok)(hi:i<S.Aw.length)(p j:Nat)(v:Int)(hv:-9223372036854775808<=v/\v<=9223372036854775807) :
  Ab Tryz.prog 109 #[ptr y.sb,ptr (y.xb i),Ak #[I Z 2,I Z p,I Z j,I Z 0],.func (.func 76) #[ptr y.l.h] #[],.func (.func 110) #[ptr y.l.h] #[],I Z v] w
   fun e w'=>e=O (I Z (S.BE i p j v).e)/\Bl y (S.BE i p j v).S o w w':=by
 have hf:=Al.BV hk hi p;have hl:=wg S i p;have hi1:i<(S.Ar i p).1.Aw.length:=by omega
 have hh:=Al.Df hf hi1 p;have hl2:=uw (S.Ar i p).1 i p;have hi2:i<((S.Ar i p).1.A2 i p).1.Aw.length:=by omega
 have hnb:=hf.E7 p j;have hu:=Al.Dv hh hi2 ⟨2,p,j,((S.Ar i p).1.H.Cz p j).1⟩ hnb (fun h=>by simp at h)
 refine VH _ _ KA XM 2 p j v ((S.Ar i p).1.H.Cz p j).1 (S.Ar i p).2 ((S.Ar i p).1.H.Cz p j).2 _ ((S.Ar i p).1.A2 i p).2 _ (S.Ar i p).1 (S.Ar i p).1 ((S.Ar i p).1.A2 i p).1 _ _ (S.BE i p j v) ?_ h hi2
  (fun w1 o1 h1=>my h1 hk hi p) (fun w1 o1 h1=>(Mx h1 hf p j).mono fun _ _ ⟨a,b⟩=>⟨a,h1.Ee b⟩) (fun w1 o1 h1=>Rw h1 hf hi1 p) (fun e=>⟨(rz e).2.2,fun w1 o1 h1=>SH h1 hf hi1 p e⟩)
  (fun w1 o1 h1=>lu h1 hh hi2 ⟨2,p,j,((S.Ar i p).1.H.Cz p j).1⟩) (fun w1 o1 h1=>Vh h1 hu p j v hv)
 refine⟨fun e=>?_,fun e1 e2=>?_,fun e1 e2 e3=>?_,fun e1 e2 e3 e4=>?_,fun e1 e2 e3 e4=>?_⟩<;>unfold Al.BE
 ·rw[if_pos e];exact⟨rfl,rfl⟩
 ·rw[if_neg (by simpa using e1),if_pos (by simpa using e2)];exact⟨rfl,rfl⟩
 ·rw[if_neg (by simpa using e1),if_neg (by simpa using e2)];unfold Al.Cd;rw[if_pos e3];exact⟨rfl,rfl⟩
 ·rw[if_neg (by simpa using e1),if_neg (by simpa using e2)];unfold Al.Cd;rw[if_neg (by rw[e3];simp),if_pos e4];exact⟨rfl,rfl⟩
 ·rw[if_neg (by simpa using e1),if_neg (by simpa using e2)];unfold Al.Cd;rw[if_neg (by rw[e3];simp),if_neg (by rw[e4];simp)];exact⟨rfl,rfl⟩
theorem K9 (h:Ap w o y S)(hk:S.ok)(hi:i<S.Aw.length)(p j q:Nat) :
  Ab Tryz.prog 109 #[ptr y.sb,ptr (y.xb i),Ak #[I Z 1,I Z p,I Z j,I Z 0],.func (.func 112) #[ptr y.l.h] #[],.func (.func 113) #[ptr y.l.h] #[],I Z q] w
   fun e w'=>e=O (I Z (S.C9 i p j q).e)/\Bl y (S.C9 i p j q).S o w w':=by
 have hf:=Al.BV hk hi p;have hl:=wg S i p;have hp:((S.Ar i p).1.h ((S.Ar i p).1.H.A5 p j).1).ok:=Al.CV hf p j;have hlp:((S.Ar i p).1.h ((S.Ar i p).1.H.A5 p j).1).Aw.length=S.Aw.length:=hl;have hi1:i<((S.Ar i p).1.h ((S.Ar i p).1.H.A5 p j).1).Aw.length:=by omega
 have hh:=Al.Df hp hi1 p;have hl2:=uw ((S.Ar i p).1.h ((S.Ar i p).1.H.A5 p j).1) i p;have hi2:i<(((S.Ar i p).1.h ((S.Ar i p).1.H.A5 p j).1).A2 i p).1.Aw.length:=by omega
 have hb:=RE hf.H p j;have hu:=Al.Dv hh hi2 ⟨1,p,j,((S.Ar i p).1.H.A5 p j).2.1⟩ (by simp only;omega) (fun _=>by simp only;omega)
 refine VH _ _ LB YG 1 p j q ((S.Ar i p).1.H.A5 p j).2.1 (S.Ar i p).2 ((S.Ar i p).1.H.A5 p j).2.2 _ (((S.Ar i p).1.h ((S.Ar i p).1.H.A5 p j).1).A2 i p).2 _ (S.Ar i p).1 ((S.Ar i p).1.h ((S.Ar i p).1.H.A5 p j).1) (((S.Ar i p).1.h ((S.Ar i p).1.H.A5 p j).1).A2 i p).1 _ _ (S.C9 i p j q) ?_ h hi2
  (fun w1 o1 h1=>my h1 hk hi p) (fun w1 o1 h1=>GV h1 hf p j) (fun w1 o1 h1=>Rw h1 hp hi1 p) (fun e=>⟨(rz e).2.2,fun w1 o1 h1=>SH h1 hp hi1 p e⟩)
  (fun w1 o1 h1=>lu h1 hh hi2 ⟨1,p,j,((S.Ar i p).1.H.A5 p j).2.1⟩) (fun w1 o1 h1=>Sp h1 hu p j q)
 refine⟨fun e=>?_,fun e1 e2=>?_,fun e1 e2 e3=>?_,fun e1 e2 e3 e4=>?_,fun e1 e2 e3 e4=>?_⟩<;>unfold Al.C9
 ·rw[if_pos e];exact⟨rfl,rfl⟩
 ·rw[if_neg (by simpa using e1),if_pos (by simpa using e2)];exact⟨rfl,rfl⟩
 ·rw[if_neg (by simpa using e1),if_neg (by simpa using e2)];unfold Al.Cd;rw[if_pos e3];exact⟨rfl,rfl⟩
 ·rw[if_neg (by simpa using e1),if_neg (by simpa using e2)];unfold Al.Cd;rw[if_neg (by rw[e3];simp),if_pos e4];exact⟨rfl,rfl⟩
 ·rw[if_neg (by simpa using e1),if_neg (by simpa using e2)];unfold Al.Cd;rw[if_neg (by rw[e3];simp),if_neg (by rw[e4];simp)];exact⟨rfl,rfl⟩
theorem Ka (S:Al)(i p:Nat)(u:Un)(set:Hp->Hp×Nat):(S.Cd i p u set).v=0:=by unfold Al.Cd;split<;>(try split)<;>rfl
theorem J0 (S:Al)(i p j:Nat)(v:Int):(S.BE i p j v).v=0:=by
 unfold Al.BE;split
 ·rfl
 ·split
  ·rfl
  ·exact Ka _ _ _ _ _
theorem NC (S:Al)(i p j q:Nat):(S.Dk i p j q).v=0:=by
 unfold Al.Dk Al.C9;split
 ·rfl
 ·split
  ·rfl
  ·split
   ·rfl
   ·exact Ka _ _ _ _ _
theorem KY (S:Al)(i p:Nat):(S.Ch i p).v=0:=by
 unfold Al.Ch;split
 ·rfl
 ·exact Ka _ _ _ _ _
theorem qnz (args:Array Ac)(w:Aa):(callFunc 108 args).run Tryz.prog w=.ok (.enter 108 args) w:=enters_of Tryz.func108 (by kernel_rfl) rfl args w
theorem Yb (p j:Nat)(v err:Int)(S4:Al)(h:Ap w o y S)
  (ch:∀ w1,Ae w.heap.size w w1->Ab Tryz.prog 109 #[ptr y.sb,ptr (y.xb i),Ak #[I Z 2,I Z p,I Z j,I Z 0],.func (.func 76) #[ptr y.l.h] #[],.func (.func 110) #[ptr y.l.h] #[],I Z v] w1
   fun e w'=>e=O (I Z err)/\Bl y S4 o w1 w')
  {b1 b2 b3 b4:Nat}(j1:Am w b1 #[I Z p] 3)(j2:Am w b2 #[I Z j] 3)(j3:Am w b3 #[ptr y.sb] 24)(j4:Am w b4 #[I Z v] 3) :
  Ab Tryz.prog 108 #[ptr (y.xb i),ptr b1,ptr b2,ptr b3,ptr b4] w fun e w'=>e=O (Aj #[I Z 0,I Z err])/\Bl y S4 o w w':=by
 have hmf:∀ (fn:Fn)(first cap:Array Ac)(w:Aa),(Instr.makeFunc fn first cap).run Tryz.prog w=.ok (.func fn first cap) w:=fun _ _ _ _=>rfl
 have HC:=Qa ch;obtain⟨vq,vl,vm,jb,_⟩:=h.AU;unfold qk at jb;have c1:=j1.cell;have c2:=j2.cell;clear ch h;go_enter Tryz.func108,Tryz.ntmps108;go_upto_region 2 with fail;obtain⟨W,hW⟩:∃ W:Aa,W=w.alloc (.cells #[I Z 2,I Z p,I Z j,I Z 0] 175):=⟨_,rfl⟩;rw[<-hW];have hbW:Ae w.heap.size w W:=by rw[hW];exact qa (qc w) _
 have jU:Am W w.heap.size #[I Z 2,I Z p,I Z j,I Z 0] 175:=by rw[hW];exact Am.new w _ _
 have k3:=j3.below hbW j3.lt;have k4:=j4.below hbW j4.lt;have kb:=jb.below hbW jb.lt;clear hW c1 c2 j1 j2 j3 j4 jb;have c3:=k3.cell;have c4:=k4.cell;have cb:=kb.cell;have cU:=jU.cell;have HC2:=Qa (HC.out W.drew (qe hbW));go_still_tail 14,(by kernel_rfl)
 change wpList _ _ _ _ _ W.drew;go_wp2_with fail;refine HC2.out.mono ?_
 rintro e w2⟨rfl,o2,hS2,hs2⟩
 go_wp2_with fail;go_ret2;exact⟨rfl,o2,hS2,(Stp.of_below (qe hbW)).trans hs2⟩
def Al.write (S:Al)(i p j:Nat)(v:Int):Bv:=S.AH i (S.BE i p j v)
def Al.put (S:Al)(i p j q:Nat):Bv:=S.AH i (S.Dk i p j q)
def Al.free (S:Al)(i p:Nat):Bv:=S.AH i (S.Ch i p)
theorem qju (h:Ap w o y S) (hk:S.ok) (hi:i<S.Aw.length) (p j:Nat) (v:Int) (hv:-9223372036854775808<=v/\v<=9223372036854775807) :
  Ab Tryz.prog 48 #[ptr y.sb,I Z i,I Z p,I Z j,I Z v] w fun e w'=>e=O (I Z (S.write i p j v).e)/\Bl y (S.write i p j v).S o w w':=by
 have hmf:∀ (fn:Fn) (first cap:Array Ac) (w:Aa),(Instr.makeFunc fn first cap).run Tryz.prog w=.ok (.func fn first cap) w:=fun _ _ _ _=>rfl
 obtain⟨W,hW⟩:∃ W:Aa,W=(((w.alloc (.cells #[ptr y.sb] 24)).alloc (.cells #[I Z p] 3)).alloc (.cells #[I Z j] 3)).alloc (.cells #[I Z v] 3):=⟨_,rfl⟩;have hbW:Ae w.heap.size w W:=by rw[hW];exact qa (qa (qa (qa (qc w) _) _) _) _
 have j1:Am W w.heap.size #[ptr y.sb] 24:=by rw[hW];exact (((Am.new w _ _).alloc _).alloc _).alloc _
 have j2:Am W (w.heap.size+1) #[I Z p] 3:=by rw[hW];exact ((Am.Aq _ _ _ _ _ (by simp) rfl).alloc _).alloc _
 have j3:Am W (w.heap.size+1+1) #[I Z j] 3:=by rw[hW];exact (Am.Aq _ _ _ _ _ (by simp) rfl).alloc _
 have j4:Am W (w.heap.size+1+1+1) #[I Z v] 3:=by rw[hW];exact Am.Aq _ _ _ _ _ (by simp) rfl
 have HD:=Qa (vx 108 [ptr (w.heap.size+1),ptr (w.heap.size+1+1),ptr w.heap.size,ptr (w.heap.size+1+1+1)] (h.below hbW) hk hi qnz (S.BE i p j v) (fun _=>fm hk hi p j hv)
  (fun _ w1 o2 hb he2 hS=>by
   rw[J0];exact Yb p j v _ _ hS (fun w2 hb2=>Mg (hS.below hb2) hk hi p j v hv) (j2.below hb j2.lt) (j3.below hb j3.lt) (j1.below hb j1.lt) (j4.below hb j4.lt)))
 have HS:=Qa (Stp.of_below (T:=qh y) (o:=o) hbW);unfold Al.write;generalize S.AH i (S.BE i p j v)=R at *;clear h hbW j1 j2 j3 j4 hk hi;go_enter Tryz.func48,Tryz.ntmps48;go_wp2_with fail;rw[<-hW];refine HD.out.mono ?_
 rintro e w2⟨rfl,o2,hS2,hs2⟩
 go_wp2_with fail;go_ret;exact⟨rfl,o2,hS2,HS.out.trans hs2⟩
end
section
variable {w w' : Aa} {o o' : Own} {y : A3} {S : Al} {i : Nat}
theorem KL (args:Array Ac)(w:Aa):(callFunc 111 args).run Tryz.prog w=.ok (.enter 111 args) w:=enters_of Tryz.func111 (by kernel_rfl) rfl args w
theorem K7 (q:Nat)(h:Ap w o y S)(hk:S.ok)(hq:q≠0/\lk S.H.cur q=none)
  {b1 b2 b3 b4:Nat}(j1:Am w b1 #[I Z q] 3)(j2:Am w b2 #[ptr y.sb] 24) :
  Ab Tryz.prog 111 #[ptr (y.xb i),ptr b1,ptr b2,ptr b3,ptr b4] w fun e w'=>e=O (Aj #[I Z 0,I Z 70])/\Bl y S o w w':=by
 have HH:=Qa (fun (e:Later w)=>Pu (h.below e.2) hk q)
 rw[hq.2]at HH;simp only[Option.isSome_none]at HH;have HS:=Qa h;obtain⟨vq,vl,vm,jb,_⟩:=h.AU;unfold qk at jb;have hqb:((q:Int) != 0)=true:=by rw[bne_iff_ne];have:=hq.1;omega
 have l1:=fun (e:Later w)(i:Nat)=>Later.cell j1 e i
 have l2:=fun (e:Later w)(i:Nat)=>Later.cell j2 e i
 have l5:=fun (e:Later w)(i:Nat)=>Later.cell jb e i
 clear h hk hq;go_enter Tryz.func111,Tryz.ntmps111;go_upto_region 1 with fail;refine qy (by kernel_rfl) (by kernel_rfl) ?_
 repeat (go_big_quiet_step ((go_at_call 61;exact kj (HH.out _))))
 refine wpQuiet_nil ?_;intro w8 hW0;obtain⟨⟨W0,hb0⟩,hwt⟩:=hW0;have hwt:w8=W0:=hwt;subst hwt;go_wp2_with fail;go_ret2;exact⟨rfl,HS.out.Ee hb0⟩
theorem Jw (p j q:Nat)(err:Int)(S4:Al)(h:Ap w o y S)(hk:S.ok)(hq:¬(q≠0/\lk S.H.cur q=none))
  (ch:∀ w1,Ae w.heap.size w w1->Ab Tryz.prog 109 #[ptr y.sb,ptr (y.xb i),Ak #[I Z 1,I Z p,I Z j,I Z 0],.func (.func 112) #[ptr y.l.h] #[],.func (.func 113) #[ptr y.l.h] #[],I Z q] w1
   fun e w'=>e=O (I Z err)/\Bl y S4 o w1 w')
  {b1 b2 b3 b4:Nat}(j1:Am w b1 #[I Z q] 3)(j2:Am w b2 #[ptr y.sb] 24)(j3:Am w b3 #[I Z p] 3)(j4:Am w b4 #[I Z j] 3) :
  Ab Tryz.prog 111 #[ptr (y.xb i),ptr b1,ptr b2,ptr b3,ptr b4] w fun e w'=>e=O (Aj #[I Z 0,I Z err])/\Bl y S4 o w w':=by
 have hmf:∀ (fn:Fn)(first cap:Array Ac)(w:Aa),(Instr.makeFunc fn first cap).run Tryz.prog w=.ok (.func fn first cap) w:=fun _ _ _ _=>rfl
 have HC:=Qa ch;obtain⟨vq,vl,vm,jb,_⟩:=h.AU;unfold qk at jb;have HH:=(fun (e:Later w)=>Pu (h.below e.2) hk q)
 have hq2:q≠0->(lk S.H.cur q).isSome=true:=fun h0=>by
  cases hl:lk S.H.cur q with
  | none=>exact absurd ⟨h0,hl⟩ hq
  | some ob=>rfl
 have HH:=Qa HH;have HQ2:=Qa hq2;clear ch h hk hq hq2;go_enter Tryz.func111,Tryz.ntmps111;go_upto_region 1 with fail;rcases Nat.eq_zero_or_pos q with hq0|hq0
 ·have hqb:((q:Int) != 0)=false:=by rw[hq0];rfl
  have c1:=j1.cell;clear hq0;go_quiet (fail);obtain⟨W0,hW0⟩:∃ W0,W0=w.drewN nq:=⟨_,rfl⟩;have hb0:Ae w.heap.size w W0:=by rw[hW0];exact zh (qc _) _
  rw[<-hW0];clear hW0 c1;have k1:=j1.below hb0 j1.lt;have k2:=j2.below hb0 j2.lt;have k3:=j3.below hb0 j3.lt;have k4:=j4.below hb0 j4.lt;have kb:=jb.below hb0 jb.lt;have c3:=k3.cell;have c4:=k4.cell;go_upto_region 4 with fail;clear c3 c4;obtain⟨W,hW⟩:∃ W:Aa,W=W0.alloc (.cells #[I Z 1,I Z p,I Z j,I Z 0] 175):=⟨_,rfl⟩;rw[<-hW];have hbW:Ae w.heap.size w W:=by rw[hW];exact qa hb0 _
  have jU:Am W W0.heap.size #[I Z 1,I Z p,I Z j,I Z 0] 175:=by rw[hW];exact Am.new W0 _ _
  have k1:=j1.below hbW j1.lt;have k2:=j2.below hbW j2.lt;have kb:=jb.below hbW jb.lt;clear hW;have c3:=k1.cell;have c4:=k2.cell;have cb:=kb.cell;have cU:=jU.cell;have HC2:=Qa (HC.out W.drew (qe hbW));go_still_tail 14,(by kernel_rfl)
  change wpList _ _ _ _ _ W.drew;go_wp2_with fail;refine HC2.out.mono ?_
  rintro e w2 ⟨rfl,o2,hS2,hs2⟩
  go_wp2_with fail;go_ret2;exact⟨rfl,o2,hS2,(Stp.of_below (qe hbW)).trans hs2⟩
 ·have hqb:((q:Int) != 0)=true:=by rw[bne_iff_ne];omega
  have HH2:=HH.out;rw[HQ2.out (by omega)]at HH2
  have HH2:=Qa HH2;have l1:=fun (e:Later w)(i:Nat)=>Later.cell j1 e i
  have l2:=fun (e:Later w)(i:Nat)=>Later.cell j2 e i
  have l5:=fun (e:Later w)(i:Nat)=>Later.cell jb e i
  clear hq0 HH HQ2;refine qy (by kernel_rfl) (by kernel_rfl) ?_
  repeat (go_big_quiet_step ((go_at_call 61;exact kj (HH2.out _))))
  refine wpQuiet_nil ?_;intro w8 hW0;obtain⟨⟨W0,hb0⟩,hwt⟩:=hW0;have hwt:w8=W0:=hwt;subst hwt;clear l1 l2 l5;have k1:=j1.below hb0 j1.lt;have k2:=j2.below hb0 j2.lt;have k3:=j3.below hb0 j3.lt;have k4:=j4.below hb0 j4.lt;have kb:=jb.below hb0 jb.lt;have c3:=k3.cell;have c4:=k4.cell;go_upto_region 4 with fail;clear c3 c4;obtain⟨W,hW⟩:∃ W:Aa,W=w8.alloc (.cells #[I Z 1,I Z p,I Z j,I Z 0] 175):=⟨_,rfl⟩;rw[<-hW];have hbW:Ae w.heap.size w W:=by rw[hW];exact qa hb0 _
  have jU:Am W w8.heap.size #[I Z 1,I Z p,I Z j,I Z 0] 175:=by rw[hW];exact Am.new w8 _ _
  have k1:=j1.below hbW j1.lt;have k2:=j2.below hbW j2.lt;have kb:=jb.below hbW jb.lt;clear hW;have c3:=k1.cell;have c4:=k2.cell;have cb:=kb.cell;have cU:=jU.cell;have HC2:=Qa (HC.out W.drew (qe hbW));go_still_tail 14,(by kernel_rfl)
  change wpList _ _ _ _ _ W.drew;go_wp2_with fail;refine HC2.out.mono ?_
  rintro e w2 ⟨rfl,o2,hS2,hs2⟩
  go_wp2_with fail;go_ret2;exact⟨rfl,o2,hS2,(Stp.of_below (qe hbW)).trans hs2⟩
theorem GR (h:Ap w o y S) (hk:S.ok) (hi:i<S.Aw.length) (p j q:Nat) :
  Ab Tryz.prog 49 #[ptr y.sb,I Z i,I Z p,I Z j,I Z q] w fun e w'=>e=O (I Z (S.put i p j q).e)/\Bl y (S.put i p j q).S o w w':=by
 have hmf:∀ (fn:Fn) (first cap:Array Ac) (w:Aa),(Instr.makeFunc fn first cap).run Tryz.prog w=.ok (.func fn first cap) w:=fun _ _ _ _=>rfl
 obtain⟨W,hW⟩:∃ W:Aa,W=(((w.alloc (.cells #[ptr y.sb] 24)).alloc (.cells #[I Z p] 3)).alloc (.cells #[I Z j] 3)).alloc (.cells #[I Z q] 3):=⟨_,rfl⟩;have hbW:Ae w.heap.size w W:=by rw[hW];exact qa (qa (qa (qa (qc w) _) _) _) _
 have j1:Am W w.heap.size #[ptr y.sb] 24:=by rw[hW];exact (((Am.new w _ _).alloc _).alloc _).alloc _
 have j2:Am W (w.heap.size+1) #[I Z p] 3:=by rw[hW];exact ((Am.Aq _ _ _ _ _ (by simp) rfl).alloc _).alloc _
 have j3:Am W (w.heap.size+1+1) #[I Z j] 3:=by rw[hW];exact (Am.Aq _ _ _ _ _ (by simp) rfl).alloc _
 have j4:Am W (w.heap.size+1+1+1) #[I Z q] 3:=by rw[hW];exact Am.Aq _ _ _ _ _ (by simp) rfl
 have HD:=Qa (vx 111 [ptr (w.heap.size+1+1+1),ptr w.heap.size,ptr (w.heap.size+1),ptr (w.heap.size+1+1)] (h.below hbW) hk hi KL (S.Dk i p j q) (fun _=>lz hk hi p j q)
  (fun _ w1 o2 hb he2 hS=>by
   rw[NC];unfold Al.Dk;by_cases hq:q≠0/\lk S.H.cur q=none
   ·rw[if_pos hq]
    exact K7 q hS hk hq (j4.below hb j4.lt) (j1.below hb j1.lt)
   ·rw[if_neg hq]
    exact Jw p j q _ _ hS hk hq (fun w2 hb2=>K9 (hS.below hb2) hk hi p j q) (j4.below hb j4.lt) (j1.below hb j1.lt) (j2.below hb j2.lt) (j3.below hb j3.lt)))
 have HS:=Qa (Stp.of_below (T:=qh y) (o:=o) hbW);unfold Al.put;generalize S.AH i (S.Dk i p j q)=R at *;clear h hbW j1 j2 j3 j4 hk hi;go_enter Tryz.func49,Tryz.ntmps49;go_wp2_with fail;rw[<-hW];refine HD.out.mono ?_
 rintro e w2⟨rfl,o2,hS2,hs2⟩
 go_wp2_with fail;go_ret;exact⟨rfl,o2,hS2,HS.out.trans hs2⟩
end
section
variable {w w' : Aa} {o o' : Own} {y : A3} {S : Al} {i : Nat}
theorem qm9 (h:Ap w o y S)(hk:S.ok)(hi:i<S.Aw.length){b1:Nat}(j1:Am w b1 #[ptr y.sb] 24)(t1:o b1=(y.l.id+1,0)) :
  Ab Tryz.prog 122 #[ptr (y.xb i),ptr b1] w fun e w'=>e=O (Aj #[I Z (S.B9 i).v,I Z (S.B9 i).e])/\Bl y (S.B9 i).S o w w':=by
 unfold Al.B9;by_cases hc:S.Av≠-1/\S.Av≠(i:Int)\/(S.t i).start<S.version
 ·rw[if_pos hc]
  exact (qil h hi hc j1).mono fun _ _ ⟨a,b⟩=>⟨a,h.Ee b⟩
 ·rw[if_neg hc]
  have hn:S.Av=-1\/S.Av=(i:Int):=by omega
  have hv:S.version<=(S.t i).start:=by omega
  split
  ·rename_i hq
   exact Ur h hi hn hv (.inl hq) j1 t1
  ·rename_i z l hq
   split
   ·rename_i hz
    exact Ur h hi hn hv (.inr ⟨z,l,hq,hz⟩) j1 t1
   ·rename_i hz
    exact qmw h hk hi hn hv hq (by omega) j1 t1
theorem GM (args:Array Ac)(w:Aa):(callFunc 122 args).run Tryz.prog w=.ok (.enter 122 args) w:=enters_of Tryz.func122 (by kernel_rfl) rfl args w
theorem qmg (h0:Ap w o y S)(hk:S.ok)(hi:i<S.Aw.length) :
  Ab Tryz.prog 59 #[ptr y.sb,I Z i] w fun e w'=>e=O (Aj #[I Z (S.take i).v,I Z (S.take i).e])/\Bl y (S.take i).S o w w':=by
 have hmf:∀ (fn:Fn)(first cap:Array Ac)(w:Aa),(Instr.makeFunc fn first cap).run Tryz.prog w=.ok (.func fn first cap) w:=fun _ _ _ _=>rfl
 obtain⟨o1,ho1⟩:∃ o1,o1=ext o w.heap.size (y.l.id+1,0):=⟨_,rfl⟩;have h:=h0.retag (o':=o1) fun b hb=>by rw[ho1];exact qj hb
 have hS0:Stp (qh y) o o1 w w:=by rw[ho1];exact (Stp.refl _ o w).ext _ _ (Qk _)
 have hbx:o1 w.heap.size=(y.l.id+1,0):=by rw[ho1];exact qp (Qk _)
 clear ho1 h0;have j1:=Am.new w #[ptr y.sb] 24;have HD:=Qa (vx 122 [ptr w.heap.size] (h.below (qa (qc w) (.cells #[ptr y.sb] 24))) hk hi GM (S.B9 i) (fun _=>mj hk hi)
  (fun _ w1 o2 hb he2 hS=>qm9 hS hk hi (j1.below hb j1.lt) ((he2 _ j1.lt).trans hbx)))
 have HS:=Qa (hS0.trans (Stp.of_below (qa (qc w) (.cells #[ptr y.sb] 24))));unfold Al.take;generalize S.AH i (S.B9 i)=R at *;clear h hbx hS0 j1 hk hi;go_enter Tryz.func59,Tryz.ntmps59;go_wp2_with fail;refine HD.out.mono ?_
 rintro e w2⟨rfl,o2,hS2,hs2⟩
 go_wp2_with fail;go_ret2;exact⟨rfl,o2,hS2,HS.out.trans hs2⟩
end
section
variable {w w' : Aa} {o o' : Own} {y : A3} {S : Al} {i : Nat}
theorem VR (hk:S.ok)(hi:i<S.Aw.length):Good S.Aw.length (S.Be i):=by
 unfold Al.Be Al.AH
 cases hl:(S.t i).live with
 | false=>rw[if_neg (by simp)];exact⟨hk,rfl⟩
 | true =>
  rw[if_pos rfl];have hg:=mg hk hi hl;exact⟨Al.GG hg.1 (by have:=hg.2;omega),by rw[TA];exact hg.2⟩
theorem X4 (h:Ap w o y S)(hk:S.ok)(hi:i<S.Aw.length)(hl:(S.t i).live=true){b1:Nat}(j1:Am w b1 #[ptr y.sb] 24)(t1:o b1=(y.l.id+1,0)) :
  Ab Tryz.prog 78 #[ptr (y.xb i),ptr b1] w fun e w'=>e=O (Aj #[I Z (S.AQ i).v,I Z (S.AQ i).e])/\Bl y (S.AQ i).S o w w':=by
 by_cases hw:(S.t i).log.holds=[]/\S.Av≠(i:Int)
 ·have e1:S.AQ i=⟨S.tx i (S.t i).ended,0,0⟩:=by unfold Al.AQ;rw[if_pos hw]
  rw[e1];exact YW h hk hi hw.1 hw.2 j1
 ·exact Xy h hk hi hl hw j1 t1
theorem Yo (h0:Ap w o y S)(hk:S.ok)(hi:i<S.Aw.length) :
  Ab Tryz.prog 25 #[ptr y.sb,I Z i] w fun e w'=>e=O (Aj #[I Z (S.Be i).v,I Z (S.Be i).e])/\Bl y (S.Be i).S o w w':=by
 have hmf:∀ (fn:Fn)(first cap:Array Ac)(w:Aa),(Instr.makeFunc fn first cap).run Tryz.prog w=.ok (.func fn first cap) w:=fun _ _ _ _=>rfl
 obtain⟨o1,ho1⟩:∃ o1,o1=ext o w.heap.size (y.l.id+1,0):=⟨_,rfl⟩;have h:=h0.retag (o':=o1) fun b hb=>by rw[ho1];exact qj hb
 have hS0:Stp (qh y) o o1 w w:=by rw[ho1];exact (Stp.refl _ o w).ext _ _ (Qk _)
 have hbx:o1 w.heap.size=(y.l.id+1,0):=by rw[ho1];exact qp (Qk _)
 clear ho1 h0;have j1:=Am.new w #[ptr y.sb] 24;have HD:=Qa (vx 78 [ptr w.heap.size] (h.below (qa (qc w) (.cells #[ptr y.sb] 24))) hk hi Xd (S.AQ i) (fun hl=>mg hk hi hl)
  (fun hl w1 o2 hb he2 hS=>X4 hS hk hi hl (j1.below hb j1.lt) ((he2 _ j1.lt).trans hbx)))
 have HS:=Qa (hS0.trans (Stp.of_below (qa (qc w) (.cells #[ptr y.sb] 24))));unfold Al.Be;generalize S.AH i (S.AQ i)=R at *;clear h hbx hS0 j1 hk hi;go_enter Tryz.func25,Tryz.ntmps25;go_wp2_with fail;refine HD.out.mono ?_
 rintro e w2⟨rfl,o2,hS2,hs2⟩
 go_wp2_with fail;go_ret2;exact⟨rfl,o2,hS2,HS.out.trans hs2⟩
theorem qkn (h:Ap w o y S)(hk:S.ok)(hi:i<S.Aw.length) :
  Ab Tryz.prog 20 #[ptr y.sb,I Z i] w fun e w'=>e=O (I Z (S.CZ i).2)/\Bl y (S.CZ i).1 o w w':=by
 have HT:=Qa (xh h hk (Al.AV hi));have HA:=Qa (VX h hk hi);have H:=Qa h;unfold Al.CZ;clear h hk hi
 cases hl:(S.t i).live
 ·rw[hl]at HT
  simp only[if_false,Bool.false_eq_true]at HT ⊢;have hfin:=Qa H.out.D3;clear hl HA H;go_enter Tryz.func20,Tryz.ntmps20;go_wp2_with fail;refine HT.out.mono ?_
  rintro e w1⟨rfl,rfl⟩
  go_wp2_with fail;go_ret;exact⟨rfl,hfin.out⟩
 ·rw[hl]at HT
  simp only[if_true]at HT ⊢;generalize S.abort i=S2 at *;clear hl H;go_enter Tryz.func20,Tryz.ntmps20;go_wp2_with fail;refine HT.out.mono ?_
  rintro e w1⟨rfl,rfl⟩
  go_wp2_with fail;refine HA.out.mono ?_
  rintro e w2⟨rfl,hl2⟩
  go_wp2_with fail;go_ret;exact⟨rfl,hl2⟩
theorem Ap.D5 (h:Ap w o y S)(h1:1<=S.Aw.length):∃ g cap,y.EO=Ah (some ⟨g,0,none⟩) S.Aw.length cap/\(∀ k,k<S.Aw.length->w.cell? ⟨g,k,none⟩=some (ptr (y.xb k)))/\S.Aw.length<=cap:=by
 obtain⟨g,cap,e,_,hc⟩:=h.DU 0 (by omega)
 refine⟨g,cap,e,fun k hk=>?_,hc⟩
 obtain⟨g',cap',e',hk',_⟩:=h.DU k hk;rw[e]at e';injection e' with e1 _ _;injection e1 with e1;injection e1 with e1 _ _;rw[e1];exact hk'
theorem YI (h:Ap w o y S)(hk:S.ok)(hi:i<S.Aw.length)(hl:(S.t i).live=true) :
  Ab Tryz.prog 16 #[ptr y.sb,I Z i] w fun e w'=>e=O (I Z 140)/\w=w':=by
 have HT:=Qa (CF h hk hi);obtain⟨vt,jx,_⟩:=(h.Aw i _ (Al.AV hi)).AU;unfold zg at jx;have c:=jx.cell;rw[hl]at c;clear h hk hi;go_enter Tryz.func16,Tryz.ntmps16;go_wp2_with fail;refine HT.out.mono ?_
 rintro e w1⟨rfl,rfl⟩
 go_wp2_with fail;go_ret;exact⟨rfl,rfl⟩
def FW (l:List Tx)(k n:Nat):Prop:=k<=l.length/\n=js (l.take k)/\n<=k
theorem FW.z (l:List Tx):FW l 0 0:=⟨Nat.zero_le _,rfl,Qk _⟩
theorem VO (l:List Tx)(z:Tx):js (l++[z])=js l+if z.live then 1 else 0:=by
 unfold js;rw[List.filter_append,Qd]
 cases hz:z.live<;>simp[hz]
theorem FW.t {l:List Tx}{k n:Nat}(h:FW l k n){z:Tx}(hz:l[k]?=some z)(hl:z.live=true):FW l (k+1) (n+1):=by
 obtain⟨hk,he⟩:=Qc.1 hz;refine⟨hk,?_,by have:=h.2.2;omega⟩
 rw[List.take_succ_eq_append_getElem hk,VO,he,hl,if_pos rfl,<-h.2.1]
theorem FW.f {l:List Tx}{k n:Nat}(h:FW l k n){z:Tx}(hz:l[k]?=some z)(hl:z.live=false):FW l (k+1) n:=by
 obtain⟨hk,he⟩:=Qc.1 hz;refine⟨hk,?_,by have:=h.2.2;omega⟩
 rw[List.take_succ_eq_append_getElem hk,VO,he,hl,if_neg (by simp),<-h.2.1];rfl
theorem FW.e {l:List Tx}{n:Nat}(h:FW l l.length n):n=js l:=by have:=h.2.1;rwa [List.take_length]at this
theorem Hq (h:Ap w o y S)(hk:S.ok)(hi:i<S.Aw.length)(hl:(S.t i).live=false) :
  Ab Tryz.prog 16 #[ptr y.sb,I Z i] w fun e w'=>e=O (I Z (S.AO i).2)/\Bl y (S.AO i).1 o w w':=by
 have hx:=Al.AV hi;have HB1:=Qa (fun (hm:S.now+(js S.Aw+1)<=S.most)=>show S.AO i=(S.tx i ((S.t i).begun S.now S.next),0) from by unfold Al.AO;rw[if_neg (by rw[hl];simp),if_pos hm])
 have HB2:=Qa (fun (hm:¬S.now+(js S.Aw+1)<=S.most)=>show S.AO i=(S,120) from by unfold Al.AO;rw[if_neg (by rw[hl];simp),if_neg hm])
 generalize S.AO i=R at *;have HT:=Qa (CF h hk hi);have HI:=Qa h;have HX:=Qa (h.Aw i _ hx);obtain⟨vt,jx,hrow⟩:=(h.Aw i _ hx).AU;unfold zg at jx;have HRow:=Qa hrow;have cx:=jx.cell;rw[hl]at cx;obtain⟨g,cap,ev,hcs,hcap⟩:=h.D5 hk.t1;obtain⟨vq,v14,v15,jb,_⟩:=h.AU;unfold qk at jb;rw[ev]at jb;have c:=jb.cell;have hn1:=hk.n1;have hn2:=hk.n2;have h8:=hk.t8;have HM:=Qa (fun (k:Nat)(hk:k<=9)=>Lq h.ck (k:Int) (by omega) (by omega) (by omega) (by omega))
 have HMd:=Qa (fun (k:Nat)(hk:S.now+k<=S.most)=>show decide ((k:Int)<=(S.most:Int)-(S.now:Int))=true from by rw[decide_eq_true_eq];omega)
 have HMn:=Qa (fun (k:Nat)(hk:¬S.now+k<=S.most)=>show decide ((k:Int)<=(S.most:Int)-(S.now:Int))=false from by rw[decide_eq_false_iff_not];omega)
 have HN:=Qa (fun w' (hw:Ae w.heap.size w w')=>SF (h.ck.below hw h.ck.lt))
 have HXS:=Qa (fun k (hk:k<S.Aw.length)=>show ∃ z,S.Aw[k]?=some z/\∃ vt,(∀ j,w.cell? ⟨y.xb k,j,none⟩=(#[I Z k,.bool z.live,I Z z.start,I Z z.seen,ptr (y.lb k),vt]:Array Ac)[j]?) from by
  obtain⟨vt,jz,_⟩:=(h.Aw k _ (Qb hk)).AU;exact⟨S.Aw[k],Qb hk,vt,jz.cell⟩)
 have hcs:=Qa hcs;clear h hk hi hx hn1 hn2 hrow;go_enter Tryz.func16,Tryz.ntmps16;go_wp2_with fail;refine HT.out.mono ?_
 rintro e w1 ⟨rfl,rfl⟩
 go_wp2_with fail;go_loopw [25,6,8] (fun ix cn _ wr=>∃ k n:Nat,ix=I Z k/\cn=I Z n/\FW S.Aw k n/\wr=w) (fun ix _ _ _=>S.Aw.length-(intOf ix).toNat)
 case atStart=>exact⟨0,0,rfl,rfl,FW.z _,rfl⟩
 case round =>
  obtain⟨k,n,rfl,rfl,hJ,rfl⟩:=hrel;have HJ:=Qa hJ;have hkl:=hJ.1;have hnk:=hJ.2.2;clear hJ;by_cases hlt:k<S.Aw.length
  ·have ck:=hcs.out k hlt
   obtain⟨z,hz,vz,cz⟩:=HXS.out k hlt;have hI:(k:Int)<(S.Aw.length:Int):=by omega
   cases hzl:z.live
   ·rw[hzl]at cz
    have HJ2:=Qa (HJ.out.f hz hzl);clear hz hzl;go_wp2_with fail;go_roundw
    case rel=>exact⟨k+1,n,by simp,rfl,HJ2.out,trivial⟩
    case measure=>simp[intOf];omega
   ·rw[hzl]at cz
    have hn8:(n:Int)<9:=by omega
    have HJ2:=Qa (HJ.out.t hz hzl);clear hz hzl;go_wp2_with fail;go_roundw
    case rel=>exact⟨k+1,n+1,by simp,by simp,HJ2.out,trivial⟩
    case measure=>simp[intOf];omega
  ·obtain rfl:k=S.Aw.length:=by omega
   have hn8:(n:Int)<9:=by omega
   have hne:=HJ.out.e;have HM2:=Qa (HM.out (n+1) (by omega))
   by_cases hm:S.now+(n+1)<=S.most
   ·rw[HMd.out (n+1) hm,show ((n+1:Nat):Int)=(n:Int)+1 from by omega]at HM2
    have HR:=Qa (HB1.out (by rw[<-hne];exact hm))
    clear hm hne;go_wp2_with fail;refine HM2.out.mono ?_
    rintro e w2 ⟨rfl,hb2⟩
    have jx2:=jx.below hb2 jx.lt;rw[hl]at jx2;have jb2:=jb.below hb2 jb.lt;clear cx c HM2;have cx:=jx2.cell;have zx:=jx2.free;have sx:=jx2.lt;have c:=jb2.cell;have sb:=jb2.lt;have nsb:y.sb≠y.xb i:=fun e=>by have h1:=HI.out.os;rw[e,HX.out.ob]at h1;injection h1 with _ h1;omega
    have HN2:=Qa (HN.out w2.drew (qe hb2));have hfin:=Qa (show Bl y (S.tx i ((S.t i).begun S.now S.next)) o wr (((w2.setCell ⟨y.xb i,1,none⟩ (.bool true)).setCell ⟨y.xb i,2,none⟩ (I Z S.now)).setCell ⟨y.xb i,3,none⟩ (I Z S.next)).drew from by
     have ob:=HX.out.ob;have hs0:Stp (fun t=>t=(y.l.id,16+8*i)) o o w2 (((w2.setCell ⟨y.xb i,1,none⟩ (.bool true)).setCell ⟨y.xb i,2,none⟩ (I Z S.now)).setCell ⟨y.xb i,3,none⟩ (I Z S.next)).drew:=
      ((((Stp.refl _ o w2).setCell (by show o (y.xb i)=_;exact ob) _).setCell (by show o (y.xb i)=_;exact ob) _).setCell (by show o (y.xb i)=_;exact ob) _).drew
     have hs:Stp (yx y i) o o wr _:=(Stp.of_below hb2).trans (hs0.mono (by rintro _ rfl;exact⟨rfl,by simp,by simp⟩))
     obtain⟨vr,vk,vh,vu,hlg⟩:=HX.out.log;refine⟨o,HI.out.tx ⟨⟨vt,qi (((jx2.set 1 _).set 2 _).set 3 _),(HRow.out.below hb2).Ao hs0 (by simp)⟩,⟨vr,vk,vh,vu,(hlg.below hb2).Ao hs0 fun j hj=>by simp;omega⟩,ob⟩ hs,hs.mono fun _=>sh⟩)
    go_upto_region 13 with fail;go_region_with (first|(go_at_call 54;refine HN2.out.mono ?_;rintro e w3 ⟨rfl,rfl⟩)|fail)
    all_goals
     go_wp2_with fail;go_ret;rw[HR.out];exact⟨rfl,hfin.out⟩
   ·rw[HMn.out (n+1) hm,show ((n+1:Nat):Int)=(n:Int)+1 from by omega]at HM2
    have HR:=Qa (HB2.out (by rw[<-hne];exact hm))
    have HL:=Qa (fun W (hb:Ae wr.heap.size wr W)=>HI.out.Ee hb)
    clear hm hne;go_wp2_with fail;refine HM2.out.mono ?_
    rintro e w2 ⟨rfl,hb2⟩
    go_wp2_with fail;go_ret;rw[HR.out];exact⟨rfl,HL.out _ hb2⟩
theorem We (h:Ap w o y S)(hk:S.ok)(hi:i<S.Aw.length) :
  Ab Tryz.prog 16 #[ptr y.sb,I Z i] w fun e w'=>e=O (I Z (S.AO i).2)/\Bl y (S.AO i).1 o w w':=by
 cases hl:(S.t i).live with
 | false=>exact Hq h hk hi hl
 | true =>
  have e1:S.AO i=(S,140):=by unfold Al.AO;rw[if_pos hl]
  rw[e1];refine (YI h hk hi hl).mono ?_
  rintro e w'⟨rfl,rfl⟩
  exact⟨rfl,h.D3⟩
end
theorem Row.Mz {w:Aa}{o:Own}{t:Tag}{e:TypeId}{l:List (Nat×Nat)}{g n cap:Nat}(h:Row w o t e 2 (Ah (some ⟨g,0,none⟩) n cap) n (qg l))(i:Nat)(x:Nat×Nat)(hx:l[i]?=some x) :
  w.cell? ⟨g,i*2,none⟩=some (nv x.1)/\w.cell? ⟨g,i*2+1,none⟩=some (nv x.2):=by
 have h2:=yh l i x hx;have f:=fun j u hu=>h.own.cells (g:=g) rfl j u hu
 have a1:=f _ _ h2.1;have a2:=f _ _ h2.2;rw[addr_add]at a1 a2;rw[Nat.mul_comm i 2];exact⟨a1,a2⟩
theorem Row.PN {w:Aa}{o:Own}{t:Tag}{e:TypeId}{l:List (Nat×Nat)}{n cap:Nat}{pa:Option Addr}(h:Row w o t e 2 (.slice pa n cap) n (qg l))(i:Nat)(x:Nat×Nat)(hx:l[i]?=some x) :
  ∃ g,pa=some ⟨g,0,none⟩/\w.cell? ⟨g,i*2,none⟩=some (I Z x.1)/\w.cell? ⟨g,i*2+1,none⟩=some (I Z x.2):=by
 rcases h.C1 with ⟨_,h0⟩|⟨g,cap',e',hn⟩
 ·have:=yh l i x hx
  rw[h0]at this;simp at this
 ·injection e' with e1 _ e3
  subst e1 e3;obtain⟨a,b⟩:=h.Mz i x hx;exact⟨g,rfl,a,b⟩
def DL (ts:List Tx)(k:Nat):List Nat:=(ts.take k).flatMap Tx.places
theorem Jh {ts:List Tx}{k:Nat}{x:Tx}(h:ts[k]?=some x):DL ts (k+1)=DL ts k++x.log.roots++x.AX.map (·.1):=by
 unfold DL;rw[List.take_add_one,h,List.flatMap_append];simp[Tx.places]
theorem Rx:∀ (ts:List Tx)(k:Nat),(∀ x ∈ ts,x.log.fit)->(DL ts k).length<=1000*k+kq ts
 | [],k,_=>by simp[DL]
 | x::ts,0,_=>by simp[DL]
 | x::ts,k+1,h=>by
  have h1:=Rx ts k fun z hz=>h z (.tail _ hz)
  have h2:=UD (h x (.head _));have e:DL (x::ts) (k+1)=x.places++DL ts k:=by unfold DL;rw[List.take_succ_cons,List.flatMap_cons]
  have e2:kq (x::ts)=x.AX.length+kq ts:=rfl;rw[e,e2,Qd];unfold Tx.places;rw[Qd,Qg];omega
theorem Ub (l:List Nat)(x:Nat):(l++[x]).map nv=l.map nv++[I Z x]:=ko l x
section
variable {w w' : Aa} {o o' : Own} {y : A3} {S : Al}
theorem UN (hk:S.ok)(ps:List Nat):(S.places ps).length<=ps.length+S.next+8000:=by
 have h1:=Rx S.Aw S.Aw.length hk.lg;have h2:=hk.qu;have h3:=hk.t8;have e:DL S.Aw S.Aw.length=S.Aw.flatMap Tx.places:=by unfold DL;rw[List.take_length]
 rw[e]at h1;unfold Al.places;simp only[Qd,Qg];omega
theorem VY (h:Ap w o y S) (hk:S.ok) {v:Ac} {ps:List Nat} {ta:Tag} (hv:Row w o ta 3 1 v ps.length (ps.map nv)) (hp:ps.length<=100000) :
  Ab Tryz.prog 51 #[ptr y.sb,v] w fun e w'=>∃ v',e=O v'/\Row w' (fo w.heap.size) (1,0) 3 1 v' (S.places ps).length ((S.places ps).map nv)/\Ae w.heap.size w w':=by
 obtain⟨iI,hi,hsI,hyI,hzI⟩:=zi;have hu64:=Tryz.underlying25;have hpl:=UN hk ps;have hn2:=hk.Kk;have hv0:Row w (fun _=>(0,0)) (0,0) 3 1 v ps.length (ps.map nv):=⟨hv.own,fun _ _=>rfl⟩
 have HC:=Qa (show Ab Tryz.prog 63 #[v] w fun e w'=>∃ v',e=O v'/\Row w' (fo w.heap.size) (1,0) 3 1 v' ps.length (ps.map nv)/\Ae w.heap.size w w' from RH hv0 hp (bz ps) (1,0))
 obtain⟨vq,vl,vm,jb,hrw⟩:=h.AU;have hq:=hrw.q;obtain⟨pq,cq,rfl⟩:=hq.AY;obtain⟨pv,cv,rfl⟩:=hv.AY;obtain⟨gt,ct,hvt,hct,hctn⟩:=h.D5 hk.t1;unfold qk at jb;rw[hvt]at jb;obtain⟨q,hqe⟩:∃ q,q=S.queue:=⟨_,rfl⟩;obtain⟨ts,hts⟩:∃ ts,ts=S.Aw:=⟨_,rfl⟩;have hq2:q.length+(DL ts ts.length).length<=S.next+8000:=by
  have h1:=Rx ts ts.length (by rw[hts];exact hk.lg)
  have h2:=hk.qu;have h3:=hk.t8;rw[hqe,hts]at *;omega
 have hmx:∀ k,k<=S.next+200000->k<=maxLen/\k*8<=140737488355328:=fun k hk'=>by simp only[maxLen];omega
 have hpm:∀ k,(DL ts k).length<=(DL ts ts.length).length:=fun k=>by
  unfold DL;rw[List.take_length];conv=>rhs;rw[<-List.take_append_drop k ts]
  rw[List.flatMap_append,Qd];omega
 have HT8:Hid (ts.length<=8):=by show _<=_;rw[hts];exact hk.t8
 have HMX:=Qa hmx;have HN2:=Qa hn2;have HPM:=Qa hpm;have HQ2:=Qa hq2;have HP:=Qa hp;have HPL:=Qa (show S.places ps=ps++q.map (·.1)++DL ts ts.length from by unfold Al.places DL;rw[hqe,hts,List.take_length])
 rw[<-hqe]at hq jb;rw[<-hts]at jb hct hctn;have HQ:=Qa hq;have HCT:=Qa hct;have HTX:=Qa (fun (i:Nat) (x:Tx) (hx:ts[i]?=some x)=>show (∃ pk ck,∀ (w2:Aa),Ae w.heap.size w w2->Am w2 (y.xb i) (zg i x (y.lb i) (.slice pk x.AX.length ck)) 107/\Row w2 o (y.l.id,22+8*i) 117 2 (.slice pk x.AX.length ck) x.AX.length (qg x.AX)) /\
   ∀ (w2:Aa),Ae w.heap.size w w2->Ab Tryz.prog 65 #[ptr (y.lb i)] w2 (fun e w'=>∃ v,e=O v/\Row w' (fo w2.heap.size) (1,0) 3 1 v x.log.roots.length (x.log.roots.map nv)/\Ae w2.heap.size w2 w') from by
  have hx':S.Aw[i]?=some x:=by rw[<-hts];exact hx
  have h2:=h.Aw i x hx';obtain⟨vt,hb',hr'⟩:=h2.AU;obtain⟨pk,ck,rfl⟩:=hr'.AY;refine⟨⟨pk,ck,fun w2 hb=>⟨hb'.below hb hb'.lt,hr'.below hb⟩⟩,fun w2 hb=>?_⟩
  obtain⟨vr,vk,vh,vu,hl⟩:=h2.log;exact TM (hl.below hb) (hk.lg x (Qe hx')))
 have HS:=Qa (fun (w2:Aa) (hb:Ae w.heap.size w w2)=>hb)
 have hgl:gt<w.heap.size:=by
  have h1:=h.Ea;rw[hvt]at h1;exact h1.blt
 have HGL:=Qa hgl;have HJB:=Qa jb;have c:=jb.cell;rw[HPL.out];generalize S.next=N at *;generalize S.Av=N1 at *;generalize S.version=N2 at *;clear h hk hv hv0 hrw hq hq2 hpl hn2 hp hct hmx hpm jb hqe hts hgl hvt;go_enter Tryz.func51,Tryz.ntmps51;go_wp2_with fail;refine HC.out.mono ?_
 rintro e w1 ⟨v1,rfl,hr1,hb1⟩
 obtain⟨p1,c1,rfl⟩:=hr1.AY;have j1:=HJB.out.below hb1 HJB.out.lt;clear c HC;have c:=j1.cell;go_wp2_with fail;go_loopw [5,19] (fun vv ix wr=>∃ k:Nat,ix=I Z k/\k<=q.length/\Row wr (fo w.heap.size) (1,0) 3 1 vv (ps.length+k) ((ps++(q.take k).map (·.1)).map nv)/\Ae w.heap.size w wr) (fun _ ix _=>q.length-(intOf ix).toNat)
 case atStart=>exact⟨0,rfl,Nat.zero_le _,by simpa using hr1,hb1⟩
 case round =>
  clear c j1 hr1 hb1;obtain⟨k,rfl,hkn,hr,hb⟩:=hrel;obtain⟨pp,cc,rfl⟩:=hr.AY;by_cases hlt:k<q.length
  ·have hkI:(k:Int)<(q.length:Int):=by omega
   obtain⟨z,hz⟩:∃ z,q[k]?=some z:=⟨_,Qb hlt⟩;obtain⟨gq,rfl,q0,q1⟩:=(HQ.out.below hb).PN k z hz;obtain⟨hw1,hw2⟩:=qw k (by have:=HQ2.out;have:=HN2.out;omega)
   have hk1:Hid (ps.length+k+1<=maxLen/\(ps.length+k+1)*8<=140737488355328):=HMX.out _ (by have:=HQ2.out;have:=HP.out;omega)
   have htk:(q.take (k+1)).map (·.1)=(q.take k).map (·.1)++[z.1]:=by rw[List.take_add_one,hz];simp
   have HTK:=Qa htk;obtain⟨zp,zs⟩:=z;simp only at q0 q1 HTK;have HR:=Qa hr;clear hr hz htk;go_wp2_with (first|(at_builtin;refine qf _ rfl _ _ _ rfl 3 iI _ 1 8 hu64 hi hzI hsI hyI rfl (by decide) (fo w.heap.size) (1,0) _ _ _ rfl (Row.below (Row.below HR.out (qa (qc _) _)) (qa (qc _) _)) ⟨wr.heap.size+1,0,none⟩ 1 1 [I Z zp] rfl rfl (qx (Am.Aq _ _ _ _ _ (by simp) rfl)) zw hk1.out.1 hk1.out.2 ?_;intro v' w8 hown hst)|fail)
   have hb8:=qa (qa hb (.cells #[I Z zp,I Z zs] 117)) (.cells #[I Z zp] 3);have hr9:=xz hb8 hown;have hb9:=wz hb8 hst;go_roundw
   case rel=>exact⟨k+1,by simp,by omega,by rw[HTK.out,<-List.append_assoc,Ub];exact hr9,hb9⟩
   case measure=>simp[intOf];omega
  ·obtain rfl:k=q.length:=by omega
   rw[List.take_length]at hr;have j1:=HJB.out.below hb HJB.out.lt;have c:=j1.cell;go_wp2_with fail;clear c j1 hkn hlt;have HR0:=Qa hr;have HB0:=Qa hb;clear hr hb;obtain⟨P1,hP1⟩:∃ P1,P1=ps++q.map (·.1):=⟨_,rfl⟩;have HP1:Hid (P1.length=ps.length+q.length):=by show _=_;rw[hP1];simp
   rw[<-hP1,<-HP1.out]at HR0;have HPE:=Qa hP1;rw[<-HP1.out];have HL2:Hid (∀ k,(P1++DL ts k).length<=N+200000):=fun k=>by
    have h1:=HPM.out k;have h2:=HQ2.out;have h3:=HP.out;have h4:=HP1.out;rw[Qd];omega
   clear hP1;go_loopw [5,34] (fun vv ix wr=>∃ k:Nat,ix=I Z k/\k<=ts.length/\Row wr (fo w.heap.size) (1,0) 3 1 vv (P1.length+(DL ts k).length) ((P1++DL ts k).map nv)/\Ae w.heap.size w wr) (fun _ ix _=>ts.length-(intOf ix).toNat)
   case atStart=>exact⟨0,rfl,Nat.zero_le _,by rw[show DL ts 0=[] from rfl,List.append_nil];exact HR0.out,HB0.out⟩
   case round =>
    clear HR0 HB0;obtain⟨k,rfl,hkn,hr,hb⟩:=hrel;obtain⟨wo,rfl⟩:∃ wo:Aa,wo=wr:=⟨_,rfl⟩;obtain⟨pp,cc,rfl⟩:=hr.AY;by_cases hlt:k<ts.length
    ·have hkI:(k:Int)<(ts.length:Int):=by omega
     obtain⟨x,hx⟩:∃ x,ts[k]?=some x:=⟨_,Qb hlt⟩;obtain⟨⟨pk,ck,hX2⟩,hRt⟩:=HTX.out k x hx;have jx:=(hX2 wo hb).1;have HX2:=Qa hX2;have HRt:=hRt wo hb;have ct0:wo.cell? ⟨gt,k,none⟩=some (ptr (y.xb k)):=by rw[hb.cell (p:=⟨gt,k,none⟩) HGL.out];exact HCT.out k hlt
     have HTS:=Qa (Jh hx);obtain⟨n2,hn2⟩:∃ n2,n2=P1.length+(DL ts k).length:=⟨_,rfl⟩;rw[<-hn2]at hr ⊢;have HNN:=Qa hn2;have HLk:=Qa (HL2.out (k+1));have HR:=Qa hr;have HRT:=Qa HRt;unfold zg at jx;have cx:=jx.cell;have HB:=Qa hb;obtain⟨r,hre⟩:∃ r,r=x.log.roots:=⟨_,rfl⟩;obtain⟨P2,hP2⟩:∃ P2,P2=P1++DL ts k:=⟨_,rfl⟩;rw[<-hre]at HRT HTS;rw[<-hP2]at HR;have HTS2:Hid (P1++DL ts (k+1)=P2++r++x.AX.map (·.1)):=by show _=_;rw[HTS.out,hP2];simp
     rw[HTS2.out]at HLk;have HP2:Hid (P2.length=n2):=by show _=_;rw[hP2,hn2,Qd]
     have hk1:Hid (n2+r.length<=maxLen/\(n2+r.length)*8<=140737488355328):=HMX.out _ (by have:=HLk.out;have:=HP2.out;simp only[Qd,Qg]at *;omega)
     have HKL:=Qa (qw k (by have:=HT8.out;omega))
     clear hr hRt HRt jx hre HTS hx hb hn2 hX2;go_wp2_with (first
      | (go_at_call 65;refine HRT.out.mono ?_;rintro e w3 ⟨v3,rfl,hr3,hb3⟩;obtain⟨p3,c3,rfl⟩:=hr3.AY)
      | (at_builtin;go_loud (refine zk _ rfl _ _ _ rfl 3 iI _ 1 8 hu64 hi hzI hsI hyI rfl (by decide) (fo w.heap.size) (1,0) _ _ _ rfl (Row.below HR.out hb3) _ _ _ _ _ rfl hr3 (bz _) hk1.out.1 hk1.out.2 ?_;intro v' w8 hown hst;obtain⟨p8,c8,rfl⟩:=hown.AY;have hb8:=wz (qd HB.out hb3) hst;have hr9:=xz (qd HB.out hb3) hown;have jx8:=(HX2.out w8 hb8).1;unfold zg at jx8;have cx8:=jx8.cell))
      | fail)
     clear hown hst hb3 hr3 cx jx8 cx8 ct0 HRT HR HB;have HR9:=Qa hr9;have HB8:=Qa hb8;have HRX:=Qa (fun w2 hb=>(HX2.out w2 hb).2)
     obtain⟨tk,htk⟩:∃ tk,tk=x.AX:=⟨_,rfl⟩;rw[<-htk]at HRX HTS2 HLk ⊢;clear hr9 hb8 hk1 HX2 htk;go_loopw [5,50] (fun vv ix wr=>∃ j:Nat,ix=I Z j/\j<=tk.length/\Row wr (fo w.heap.size) (1,0) 3 1 vv (n2+r.length+j) ((P2++r++(tk.take j).map (·.1)).map nv)/\Ae w.heap.size w wr) (fun _ ix _=>tk.length-(intOf ix).toNat)
     case atStart=>exact⟨0,rfl,Nat.zero_le _,by simpa using HR9.out,HB8.out⟩
     case round =>
      clear HR9 HB8;obtain⟨j,rfl,hjn,hr,hb⟩:=hrel;obtain⟨wi,rfl⟩:∃ wi:Aa,wi=wr:=⟨_,rfl⟩;obtain⟨pp,cc,rfl⟩:=hr.AY;by_cases hj:j<tk.length
      ·have hjI:(j:Int)<(tk.length:Int):=by omega
       obtain⟨z,hz⟩:∃ z,tk[j]?=some z:=⟨_,Qb hj⟩;obtain⟨gq,rfl,q0,q1⟩:=(HRX.out wi hb).PN j z hz;have hlen:n2+r.length+tk.length<=N+200000:=by have:=HLk.out;have:=HP2.out;simp only[Qd,Qg]at *;omega
       have hk1:Hid (n2+r.length+j+1<=maxLen/\(n2+r.length+j+1)*8<=140737488355328):=HMX.out _ (by omega)
       obtain⟨hw1,hw2⟩:=qw j (by have:=HN2.out;omega)
       have htk:(tk.take (j+1)).map (·.1)=(tk.take j).map (·.1)++[z.1]:=by rw[List.take_add_one,hz];simp
       have HTK:=Qa htk;obtain⟨zp,zs⟩:=z;simp only at q0 q1 HTK;have HR:=Qa hr;clear hr hz htk hlen;go_wp2_with (first|(at_builtin;refine qf _ rfl _ _ _ rfl 3 iI _ 1 8 hu64 hi hzI hsI hyI rfl (by decide) (fo w.heap.size) (1,0) _ _ _ rfl (Row.below (Row.below HR.out (qa (qc _) _)) (qa (qc _) _)) ⟨wi.heap.size+1,0,none⟩ 1 1 [I Z zp] rfl rfl (qx (Am.Aq _ _ _ _ _ (by simp) rfl)) zw hk1.out.1 hk1.out.2 ?_;intro v' w9 hown hst)|fail)
       have hb9:=qa (qa hb (.cells #[I Z zp,I Z zs] 117)) (.cells #[I Z zp] 3);have hr9:=xz hb9 hown;have hb10:=wz hb9 hst;go_roundw
       case rel=>exact⟨j+1,by simp,by omega,by rw[HTK.out,<-List.append_assoc,Ub];exact hr9,hb10⟩
       case measure=>simp[intOf];omega
      ·obtain rfl:j=tk.length:=by omega
       rw[List.take_length,<-HTS2.out]at hr;have hr2:=hr.ite (n':=P1.length+(DL ts (k+1)).length) (by
        have e:=congrArg List.length HTS2.out;have e2:=HP2.out;simp only[Qd,Qg]at e;omega) rfl
       have HR2:=Qa hr2;have HB2:=Qa hb;obtain⟨hw1,hw2⟩:=HKL.out;clear hr hr2 hb hj hjn;go_wp2_with fail;go_roundw
       case rel=>exact⟨k+1,by simp,by omega,HR2.out,HB2.out⟩
       case measure=>simp[intOf];omega
    ·obtain rfl:k=ts.length:=by omega
     have hr2:=hr.ite (n':=(ps++q.map (·.1)++DL ts ts.length).length) (by rw[<-HPE.out,Qd]) (xs':=(ps++q.map (·.1)++DL ts ts.length).map nv) (by rw[HPE.out])
     have HR2:=Qa hr2;have HB2:=Qa hb;clear hr hr2 hb hlt;go_wp2_with fail;go_ret;exact⟨_,rfl,HR2.out.ite (by simp) (by simp),HB2.out⟩
end
end Go.Proofs.YteehgedabdchcaaGreat
