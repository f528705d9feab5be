import Derived.Test.YteehgedabdchcaaGreatKaz
import Derived.Test.YteehgedabdchcaaGreatKbd
set_option linter.all false
set_option maxRecDepth 1000000
set_option maxHeartbeats 0
open Go renaming World->Aa,Calls->Ab,Value->Ac
open Go.RowKit renaming Below->Ae
open Go.Value renaming int->I,pointer->Ag,tuple->Aj,agg->Ak
open Go.IntKind renaming i64->Z
open Go.Ending renaming returned->O
open Go.Instr renaming makeFunc->Ad
open Go.Proofs.Tryz
open Go.Proofs.Tryz renaming prog->ARt
open Go.Obj renaming cells->ARu
namespace Go.Proofs.YteehgedabdchcaaGreat
open Go.RowKit Hp
attribute [local go_sem ↓] Go.wp_at_zero Go.wp_at_succ
section
variable {w w' : Aa} {o o' : Own} {y : A6} {S : An} {i : Nat}
def qpl (f:Ac)(h:Aq w o y S)(hk:S.ok)(hi:i<S.Au.length)(hl:(S.t i).live=false) :
  Ab ARt 77 #[ptr y.sb,I Z i,f] w fun e w'=>e=O (Aj #[I Z 0,I Z 140])/\Ae w.1.size w w':=by
 have HR:=Qa (fun w' (hw:Ae w.1.size w w')=>yf (h.below hw) hk (An.AV hi))
 rw[hl]at HR;simp only[Bool.false_eq_true,if_false]at HR;clear h hk hi hl;go_enter_defers func77,ntmps77;go_wp2_with fail;obtain⟨W,hW⟩:=Ja0 (((w.alloc (ARu #[ptr y.sb] 24)).alloc (ARu #[I Z 0] 3)).alloc (ARu #[I Z 0] 29));rw[<-hW];have hbW:Ae w.1.size w W:=by rw[hW];exact qc (qc (qc (qd w) _) _) _
 have hzW:W.1.size=w.1.size+3:=by rw[hW];simp
 have jV:Al W (w.1.size+1) #[I Z 0] 3:=by rw[hW];exact (Al.Ap _ _ _ _ _ (by simp) rfl).alloc _
 have jE:Al W (w.1.size+1+1) #[I Z 0] 29:=by rw[hW];exact Al.Ap _ _ _ _ _ (by simp) rfl
 clear hW;refine (HR.out _ hbW).mono ?_
 rintro e w1 ⟨rfl,rfl⟩
 have cV:=jV.cell;have zV:=jV.free;have sV:=jV.lt;have cE:=jE.cell;have zE:=jE.free;have sE:=jE.lt;go_wp2_with fail;have vZ:=(((jV.set 0 (I Z 0)).Am (a:=⟨w.1.size+1+1,0,none⟩) (by simp) (I Z 140)).alloc (ARu #[Ag none] 103))
 have xP:=(((jE.Am (a:=⟨w.1.size+1,0,none⟩) (by simp) (I Z 0)).set 0 (I Z 140)).alloc (ARu #[Ag none] 103))
 have hfin:Ae w.1.size w (((W.setCell ⟨w.1.size+1,0,none⟩ (I Z 0)).setCell ⟨w.1.size+1+1,0,none⟩ (I Z 140)).alloc (ARu #[Ag none] 103)):=
  qc (zc (zc hbW (by simp) _) (by simp;omega) _) _
 generalize ((W.setCell ⟨w.1.size+1,0,none⟩ (I Z 0)).setCell ⟨w.1.size+1+1,0,none⟩ (I Z 140)).alloc (ARu #[Ag none] 103)=X at *;have yX:=vZ.cell 0;have uR:=xP.cell 0;simp at yX uR;simp only[bodyPostD,Leaves];exact⟨Aj #[I Z 0,I Z 140],by simp[results,results77,go_sem,yX,uR],rfl,hfin⟩
def xa (g:Nat)(eO:List Ac)(h0:Aq w o y S)(hk:S.ok)(hi:i<S.Au.length)(eg:∀ args w,(callFunc g args).run ARt w=.ok (.enter g args) w)
  (r:BD)(hg:(S.t i).live=true->Good S.Au.length r)
  (hdo:(S.t i).live=true->∀ w1 o1,Ae w.1.size w w1->(∀ b,b<w.1.size->o1 b=o b)->Aq w1 o1 y S->Ab ARt g (ptr (y.xb i)::eO).toArray w1 fun e w'=>e=O (Aj #[I Z r.v,I Z r.e])/\Bl y r.S o1 w1 w') :
  Ab ARt 77 #[ptr y.sb,I Z i,.func (.func g) #[] eO.toArray] w fun e w'=>e=O (Aj #[I Z (S.AG i r).v,I Z (S.AG i r).e])/\Bl y (S.AG i r).S o w w':=by
 unfold An.AG
 cases hl:(S.t i).live with
 | false =>
  rw[if_neg (by simp)]
  refine (qpl _ h0 hk hi hl).mono ?_;rintro e w' ⟨rfl,hb⟩;exact⟨rfl,h0.D1 hb⟩
 | true =>
  rw[if_pos rfl];replace hdo:=hdo hl;have hg:=hg hl;have hx:=An.AV hi;obtain⟨S',v,e⟩:=r
  cases ha:D5 e with
  | true =>
   have e1:BD.fin ⟨S',v,e⟩ i=⟨S'.abort i,0,e⟩:=by unfold BD.fin;rw[if_pos ha]
   rw[e1];have he:e=141\/e=130\/e=100:=by
    unfold D5 at ha;simp only[Bool.or_eq_true,beq_iff_eq]at ha;omega
   refine (qlr g eO h0 hk hx hl eg (qo y) (qy y) S' (S'.abort i) v e he hdo fun w1 o1 h1=>YC h1 hg.1 (by have h2:S'.Au.length=S.Au.length:=hg.2;omega)).mono ?_
   rintro e w' ⟨rfl,o',h1,h2⟩;exact⟨rfl,o',h1,h2.mono fun _ h=>h.elim id id⟩
  | false =>
   have hne:e≠141/\e≠130/\e≠100:=by
    unfold D5 at ha;simp only[Bool.or_eq_false_iff,Qh]at ha;exact⟨ha.1.1,ha.1.2,ha.2⟩
   by_cases h0':e=0
   ·subst h0'
    have e1:BD.fin ⟨S',v,0⟩ i=⟨S',v,0⟩:=by unfold BD.fin;rw[if_neg (by rw[ha];simp),if_pos rfl]
    rw[e1];exact LW g eO h0 hk hx hl eg (qo y) (qy y) S' v hdo
   ·have e1:BD.fin ⟨S',v,e⟩ i=⟨S',0,e⟩:=by unfold BD.fin;rw[if_neg (by rw[ha];simp),if_neg h0']
    rw[e1];exact GR g eO h0 hk hx hl eg (qo y) (qy y) S' v e h0' hne.1 hne.2.1 hne.2.2 hdo
def qlo (p j:Nat)(ef v er:Int)(S1 S2:An)
  (fields:Ab ARt 136 #[ptr y.sb,ptr (y.xb i),I Z p] w fun e w'=>e=O (I Z ef)/\Bl y S1 o w w')
  (get:∀ w1 o1,Aq w1 o1 y S1->Ab ARt 76 #[ptr y.l.h,I Z p,I Z j] w1 fun e w'=>e=O (Aj #[I Z v,I Z er])/\Bl y S2 o1 w1 w')
  {b1 b2 b3 b4:Nat}(j1:Al w b1 #[ptr y.sb] 24)(j2:Al w b2 #[I Z p] 3)(j3:Al w b3 #[.func (.func 76) #[] #[]] 123)(j4:Al w b4 #[I Z j] 3)
  (t1:o b1=(y.l.id+1,0))(t2:o b2=(y.l.id+1,0))(t3:o b3=(y.l.id+1,0))(t4:o b4=(y.l.id+1,0))(R:BD)(r1:ef≠0->R=⟨S1,0,ef⟩)(r2:ef=0->R=⟨S2,v,er⟩) :
  Ab ARt 135 #[ptr (y.xb i),ptr b1,ptr b2,ptr b3,ptr b4] w fun e w'=>e=O (Aj #[I Z R.v,I Z R.e])/\Bl y R.S o w w':=by
 have HF:=Qa fields;have HG:=Qa get;have HB:=Qa (qy y);have c1:=j1.cell;have c2:=j2.cell;have H1:=Qa r1;have H2:=Qa r2;clear fields get r1 r2;by_cases he:ef=0
 ·have H3:=Qa (H2.out he)
  clear H1 H2;subst he;rw[H3.out];clear H3;go_enter func135,ntmps135;go_wp2_with fail;refine HF.out.mono ?_;rintro e w1 ⟨rfl,o1,hS1,hs1⟩;have k1:=j1.Ao hs1 (by rw[t1];exact HB.out)
  have k2:=j2.Ao hs1 (by rw[t2];exact HB.out)
  have k3:=j3.Ao hs1 (by rw[t3];exact HB.out)
  have k4:=j4.Ao hs1 (by rw[t4];exact HB.out)
  obtain⟨vq,vl,vm,jb,_⟩:=hS1.AM;unfold qw at jb;have l1:=j1.lt;have l2:=j2.lt;have l3:=j3.lt;have l4:=j4.lt;clear c1 c2 j1 j2 j3 j4;have HG2:=Qa (HG.out w1.drew o1 (hS1.below (qf (qd w1))));have HS:=Qa hs1;have u1:o1 b1=(y.l.id+1,0):=(hs1.tags _ l1).trans t1;have u2:o1 b2=(y.l.id+1,0):=(hs1.tags _ l2).trans t2;have u3:o1 b3=(y.l.id+1,0):=(hs1.tags _ l3).trans t3;have u4:o1 b4=(y.l.id+1,0):=(hs1.tags _ l4).trans t4;have HKc:=Qa (fun (w2:Aa)(o2:Own)(hs2:Stp (qo y) o1 o2 w1.drew w2) =>
   show w2.cell? ⟨b1,0,none⟩=some (ptr y.sb)/\w2.cell? ⟨b2,0,none⟩=some (I Z p)/\w2.cell? ⟨b3,0,none⟩=some (.func (.func 76) #[] #[])/\w2.cell? ⟨b4,0,none⟩=some (I Z j) from
    ⟨((qj k1).Ao hs2 (by rw[u1];exact HB.out)).cell 0,((qj k2).Ao hs2 (by rw[u2];exact HB.out)).cell 0,((qj k3).Ao hs2 (by rw[u3];exact HB.out)).cell 0,((qj k4).Ao hs2 (by rw[u4];exact HB.out)).cell 0⟩)
  have HSb:=Qa (fun (w2:Aa)(o2:Own)(h2:Aq w2 o2 y S2)=>show w2.cell? ⟨y.sb,0,none⟩=some (ptr y.l.h) from by
   obtain⟨_,_,_,nK,_⟩:=h2.AM;exact nK.cell 0)
  clear hS1 hs1 HG u1 u2 u3 u4 l1 l2 l3 l4 t1 t2 t3 t4;have c1:w1.cell? ⟨b1,0,none⟩=some (ptr y.sb):=k1.cell 0;have c2:w1.cell? ⟨b2,0,none⟩=some (I Z p):=k2.cell 0;have c3:w1.cell? ⟨b3,0,none⟩=some (.func (.func 76) #[] #[]):=k3.cell 0;have c4:w1.cell? ⟨b4,0,none⟩=some (I Z j):=k4.cell 0;have cb:w1.cell? ⟨y.sb,0,none⟩=some (ptr y.l.h):=jb.cell 0;clear k1 k2 k3 k4 jb;go_upto_region 4 with fail;go_region_held3 (fun w'=>w'.cell? ⟨b1,0,none⟩=some (ptr y.sb)/\w'.cell? ⟨b2,0,none⟩=some (I Z p)/\w'.cell? ⟨b3,0,none⟩=some (.func (.func 76) #[] #[])/\w'.cell? ⟨b4,0,none⟩=some (I Z j)/\w'.cell? ⟨y.sb,0,none⟩=some (ptr y.l.h))(first|exact⟨by assumption,by assumption,by assumption,by assumption,by assumption⟩|go_keep)(first
   | (go_at_call 76;refine HG2.out.mono ?_;rintro e w2 ⟨rfl,o2,hS2,hs2⟩;obtain⟨d1,d2,d3,d4⟩:=HKc.out _ _ hs2;have db:=HSb.out _ _ hS2)
   | fail)
  go_wp2_with fail;go_ret2;exact⟨rfl,o2,hS2,HS.out.trans ((Stp.of_below (qf (qd w1))).trans hs2)⟩
 ·have H3:=Qa (H1.out he)
  have hb:(ef != 0)=true:=by rw[bne_iff_ne];exact he
  have hb2:(ef==0)=false:=by rw[Qh];exact he
  clear H1 H2;rw[H3.out];clear H3;go_enter func135,ntmps135;go_wp2_with fail;refine HF.out.mono ?_;rintro e w1 ⟨rfl,o1,hS1,hs1⟩;go_wp2_with fail;go_ret2;exact⟨rfl,o1,hS1,hs1⟩
def qkj (p j:Nat)(ef v er:Int)(S1 S2:An)
  (fields:Ab ARt 136 #[ptr y.sb,ptr (y.xb i),I Z p] w fun e w'=>e=O (I Z ef)/\Bl y S1 o w w')
  (get:∀ w1 o1,Aq w1 o1 y S1->Ab ARt 112 #[ptr y.l.h,I Z p,I Z j] w1 fun e w'=>e=O (Aj #[I Z v,I Z er])/\Bl y S2 o1 w1 w')
  {b1 b2 b3 b4:Nat}(j1:Al w b1 #[ptr y.sb] 24)(j2:Al w b2 #[I Z p] 3)(j3:Al w b3 #[.func (.func 112) #[] #[]] 123)(j4:Al w b4 #[I Z j] 3)
  (t1:o b1=(y.l.id+1,0))(t2:o b2=(y.l.id+1,0))(t3:o b3=(y.l.id+1,0))(t4:o b4=(y.l.id+1,0))(R:BD)(r1:ef≠0->R=⟨S1,0,ef⟩)(r2:ef=0->R=⟨S2,v,er⟩) :
  Ab ARt 135 #[ptr (y.xb i),ptr b1,ptr b2,ptr b3,ptr b4] w fun e w'=>e=O (Aj #[I Z R.v,I Z R.e])/\Bl y R.S o w w':=by
 have HF:=Qa fields;have HG:=Qa get;have HB:=Qa (qy y);have c1:=j1.cell;have c2:=j2.cell;have H1:=Qa r1;have H2:=Qa r2;clear fields get r1 r2;by_cases he:ef=0
 ·have H3:=Qa (H2.out he)
  clear H1 H2;subst he;rw[H3.out];clear H3;go_enter func135,ntmps135;go_wp2_with fail;refine HF.out.mono ?_;rintro e w1 ⟨rfl,o1,hS1,hs1⟩;have k1:=j1.Ao hs1 (by rw[t1];exact HB.out)
  have k2:=j2.Ao hs1 (by rw[t2];exact HB.out)
  have k3:=j3.Ao hs1 (by rw[t3];exact HB.out)
  have k4:=j4.Ao hs1 (by rw[t4];exact HB.out)
  obtain⟨vq,vl,vm,jb,_⟩:=hS1.AM;unfold qw at jb;have l1:=j1.lt;have l2:=j2.lt;have l3:=j3.lt;have l4:=j4.lt;clear c1 c2 j1 j2 j3 j4;have HG2:=Qa (HG.out w1.drew o1 (hS1.below (qf (qd w1))));have HS:=Qa hs1;have u1:o1 b1=(y.l.id+1,0):=(hs1.tags _ l1).trans t1;have u2:o1 b2=(y.l.id+1,0):=(hs1.tags _ l2).trans t2;have u3:o1 b3=(y.l.id+1,0):=(hs1.tags _ l3).trans t3;have u4:o1 b4=(y.l.id+1,0):=(hs1.tags _ l4).trans t4;have HKc:=Qa (fun (w2:Aa)(o2:Own)(hs2:Stp (qo y) o1 o2 w1.drew w2) =>
   show w2.cell? ⟨b1,0,none⟩=some (ptr y.sb)/\w2.cell? ⟨b2,0,none⟩=some (I Z p)/\w2.cell? ⟨b3,0,none⟩=some (.func (.func 112) #[] #[])/\w2.cell? ⟨b4,0,none⟩=some (I Z j) from
    ⟨((qj k1).Ao hs2 (by rw[u1];exact HB.out)).cell 0,((qj k2).Ao hs2 (by rw[u2];exact HB.out)).cell 0,((qj k3).Ao hs2 (by rw[u3];exact HB.out)).cell 0,((qj k4).Ao hs2 (by rw[u4];exact HB.out)).cell 0⟩)
  have HSb:=Qa (fun (w2:Aa)(o2:Own)(h2:Aq w2 o2 y S2)=>show w2.cell? ⟨y.sb,0,none⟩=some (ptr y.l.h) from by
   obtain⟨_,_,_,nK,_⟩:=h2.AM;exact nK.cell 0)
  clear hS1 hs1 HG u1 u2 u3 u4 l1 l2 l3 l4 t1 t2 t3 t4;have c1:w1.cell? ⟨b1,0,none⟩=some (ptr y.sb):=k1.cell 0;have c2:w1.cell? ⟨b2,0,none⟩=some (I Z p):=k2.cell 0;have c3:w1.cell? ⟨b3,0,none⟩=some (.func (.func 112) #[] #[]):=k3.cell 0;have c4:w1.cell? ⟨b4,0,none⟩=some (I Z j):=k4.cell 0;have cb:w1.cell? ⟨y.sb,0,none⟩=some (ptr y.l.h):=jb.cell 0;clear k1 k2 k3 k4 jb;go_upto_region 4 with fail;go_region_held3 (fun w'=>w'.cell? ⟨b1,0,none⟩=some (ptr y.sb)/\w'.cell? ⟨b2,0,none⟩=some (I Z p)/\w'.cell? ⟨b3,0,none⟩=some (.func (.func 112) #[] #[])/\w'.cell? ⟨b4,0,none⟩=some (I Z j)/\w'.cell? ⟨y.sb,0,none⟩=some (ptr y.l.h))(first|exact⟨by assumption,by assumption,by assumption,by assumption,by assumption⟩|go_keep)(first
   | (go_at_call 112;refine HG2.out.mono ?_;rintro e w2 ⟨rfl,o2,hS2,hs2⟩;obtain⟨d1,d2,d3,d4⟩:=HKc.out _ _ hs2;have db:=HSb.out _ _ hS2)
   | fail)
  go_wp2_with fail;go_ret2;exact⟨rfl,o2,hS2,HS.out.trans ((Stp.of_below (qf (qd w1))).trans hs2)⟩
 ·have H3:=Qa (H1.out he)
  have hb:(ef != 0)=true:=by rw[bne_iff_ne];exact he
  have hb2:(ef==0)=false:=by rw[Qh];exact he
  clear H1 H2;rw[H3.out];clear H3;go_enter func135,ntmps135;go_wp2_with fail;refine HF.out.mono ?_;rintro e w1 ⟨rfl,o1,hS1,hs1⟩;go_wp2_with fail;go_ret2;exact⟨rfl,o1,hS1,hs1⟩
def qfy (args:Array Ac)(w:Aa):(callFunc 135 args).run ARt w=.ok (.enter 135 args) w:=enters_of func135 (by kernel_rfl) rfl args w
def LZ (args:Array Ac)(w:Aa):(callFunc 76 args).run ARt w=.ok (.enter 76 args) w:=enters_of func76 (by kernel_rfl) rfl args w
def L0 (args:Array Ac)(w:Aa):(callFunc 112 args).run ARt w=.ok (.enter 112 args) w:=enters_of func112 (by kernel_rfl) rfl args w
def qkd (h0:Aq w o y S)(hk:S.ok)(hi:i<S.Au.length)(p j:Nat)(v er:Int)(S2:An)(R:BD)
  (get:∀ w1 o1,Aq w1 o1 y (S.Ar i p).1->Ab ARt 76 #[ptr y.l.h,I Z p,I Z j] w1 fun e w'=>e=O (Aj #[I Z v,I Z er])/\Bl y S2 o1 w1 w')
  (hG:Good S.Au.length R)(r1:(S.Ar i p).2≠0->R=⟨(S.Ar i p).1,0,(S.Ar i p).2⟩)(r2:(S.Ar i p).2=0->R=⟨S2,v,er⟩) :
  Ab ARt 75 #[ptr y.sb,I Z i,I Z p,I Z j,.func (.func 76) #[] #[]] w fun e w'=>e=O (Aj #[I Z (S.AG i R).v,I Z (S.AG i R).e])/\Bl y (S.AG i R).S o w w':=by
 have gD:∀ (fn:Fn)(first cap:Array Ac)(w:Aa),(Ad fn first cap).run ARt w=.ok (.func fn first cap) w:=fun _ _ _ _=>rfl
 obtain⟨o1,ho1⟩:∃ o1,o1=ext o w.1.size (y.l.id+1,0):=⟨_,rfl⟩;have h:=h0.retag (o':=o1) fun b hb=>by rw[ho1];exact qr hb
 have hS0:Stp (qo y) o o1 w w:=by rw[ho1];exact (Stp.refl _ o w).ext _ _ (Qk _)
 have hbx:∀ b,w.1.size<=b->o1 b=(y.l.id+1,0):=fun b hb=>by rw[ho1];exact qz hb
 clear ho1 h0;obtain⟨W,hW⟩:=Ja0 ((((w.alloc (ARu #[ptr y.sb] 24)).alloc (ARu #[I Z p] 3)).alloc (ARu #[I Z j] 3)).alloc (ARu #[.func (.func 76) #[] #[]] 123));have hbW:Ae w.1.size w W:=by rw[hW];exact qc (qc (qc (qc (qd w) _) _) _) _
 have j1:Al W w.1.size #[ptr y.sb] 24:=by rw[hW];exact (((Al.new w _ _).alloc _).alloc _).alloc _
 have j2:Al W (w.1.size+1) #[I Z p] 3:=by rw[hW];exact ((Al.Ap _ _ _ _ _ (by simp) rfl).alloc _).alloc _
 have j4:Al W (w.1.size+1+1) #[I Z j] 3:=by rw[hW];exact (Al.Ap _ _ _ _ _ (by simp) rfl).alloc _
 have j3:Al W (w.1.size+1+1+1) #[.func (.func 76) #[] #[]] 123:=by rw[hW];exact Al.Ap _ _ _ _ _ (by simp) rfl
 have HD:=Qa (xa 135 [ptr w.1.size,ptr (w.1.size+1),ptr (w.1.size+1+1+1),ptr (w.1.size+1+1)] (h.below hbW) hk hi qfy R (fun _=>hG)
  (fun _ w1 o2 hb he2 hS=>qlo p j _ v er _ S2 (gk hS hk hi p) get (j1.below hb j1.lt) (j2.below hb j2.lt) (j3.below hb j3.lt) (j4.below hb j4.lt)
   ((he2 _ j1.lt).trans (hbx _ (by omega))) ((he2 _ j2.lt).trans (hbx _ (by omega))) ((he2 _ j3.lt).trans (hbx _ (by omega))) ((he2 _ j4.lt).trans (hbx _ (by omega))) R r1 r2))
 have HS:=Qa (hS0.trans (Stp.of_below hbW));generalize S.AG i R=R' at *;clear h hk hi get hG r1 r2 hbx hS0 hbW j1 j2 j3 j4;go_enter func75,ntmps75;go_wp2_with fail;rw[<-hW];refine HD.out.mono ?_
 rintro e w2⟨rfl,o2,hS2,hs2⟩
 go_wp2_with fail;go_ret2;exact⟨rfl,o2,hS2,HS.out.trans hs2⟩
def qkg (h0:Aq w o y S)(hk:S.ok)(hi:i<S.Au.length)(p j:Nat)(v er:Int)(S2:An)(R:BD)
  (get:∀ w1 o1,Aq w1 o1 y (S.Ar i p).1->Ab ARt 112 #[ptr y.l.h,I Z p,I Z j] w1 fun e w'=>e=O (Aj #[I Z v,I Z er])/\Bl y S2 o1 w1 w')
  (hG:Good S.Au.length R)(r1:(S.Ar i p).2≠0->R=⟨(S.Ar i p).1,0,(S.Ar i p).2⟩)(r2:(S.Ar i p).2=0->R=⟨S2,v,er⟩) :
  Ab ARt 75 #[ptr y.sb,I Z i,I Z p,I Z j,.func (.func 112) #[] #[]] w fun e w'=>e=O (Aj #[I Z (S.AG i R).v,I Z (S.AG i R).e])/\Bl y (S.AG i R).S o w w':=by
 have gD:∀ (fn:Fn)(first cap:Array Ac)(w:Aa),(Ad fn first cap).run ARt w=.ok (.func fn first cap) w:=fun _ _ _ _=>rfl
 obtain⟨o1,ho1⟩:∃ o1,o1=ext o w.1.size (y.l.id+1,0):=⟨_,rfl⟩;have h:=h0.retag (o':=o1) fun b hb=>by rw[ho1];exact qr hb
 have hS0:Stp (qo y) o o1 w w:=by rw[ho1];exact (Stp.refl _ o w).ext _ _ (Qk _)
 have hbx:∀ b,w.1.size<=b->o1 b=(y.l.id+1,0):=fun b hb=>by rw[ho1];exact qz hb
 clear ho1 h0;obtain⟨W,hW⟩:=Ja0 ((((w.alloc (ARu #[ptr y.sb] 24)).alloc (ARu #[I Z p] 3)).alloc (ARu #[I Z j] 3)).alloc (ARu #[.func (.func 112) #[] #[]] 123));have hbW:Ae w.1.size w W:=by rw[hW];exact qc (qc (qc (qc (qd w) _) _) _) _
 have j1:Al W w.1.size #[ptr y.sb] 24:=by rw[hW];exact (((Al.new w _ _).alloc _).alloc _).alloc _
 have j2:Al W (w.1.size+1) #[I Z p] 3:=by rw[hW];exact ((Al.Ap _ _ _ _ _ (by simp) rfl).alloc _).alloc _
 have j4:Al W (w.1.size+1+1) #[I Z j] 3:=by rw[hW];exact (Al.Ap _ _ _ _ _ (by simp) rfl).alloc _
 have j3:Al W (w.1.size+1+1+1) #[.func (.func 112) #[] #[]] 123:=by rw[hW];exact Al.Ap _ _ _ _ _ (by simp) rfl
 have HD:=Qa (xa 135 [ptr w.1.size,ptr (w.1.size+1),ptr (w.1.size+1+1+1),ptr (w.1.size+1+1)] (h.below hbW) hk hi qfy R (fun _=>hG)
  (fun _ w1 o2 hb he2 hS=>qkj p j _ v er _ S2 (gk hS hk hi p) get (j1.below hb j1.lt) (j2.below hb j2.lt) (j3.below hb j3.lt) (j4.below hb j4.lt)
   ((he2 _ j1.lt).trans (hbx _ (by omega))) ((he2 _ j2.lt).trans (hbx _ (by omega))) ((he2 _ j3.lt).trans (hbx _ (by omega))) ((he2 _ j4.lt).trans (hbx _ (by omega))) R r1 r2))
 have HS:=Qa (hS0.trans (Stp.of_below hbW));generalize S.AG i R=R' at *;clear h hk hi get hG r1 r2 hbx hS0 hbW j1 j2 j3 j4;go_enter func75,ntmps75;go_wp2_with fail;rw[<-hW];refine HD.out.mono ?_
 rintro e w2⟨rfl,o2,hS2,hs2⟩
 go_wp2_with fail;go_ret2;exact⟨rfl,o2,hS2,HS.out.trans hs2⟩
def An.read (S:An)(i p j:Nat):BD:=S.AG i (S.CE i p j)
def An.get (S:An)(i p j:Nat):BD:=S.AG i (S.Dd i p j)
def qnj (h:Aq w o y S)(hk:S.ok)(hi:i<S.Au.length)(p j:Nat) :
  Ab ARt 24 #[ptr y.sb,I Z i,I Z p,I Z j] w fun e w'=>e=O (Aj #[I Z (S.read i p j).v,I Z (S.read i p j).e])/\Bl y (S.read i p j).S o w w':=by
 have hf:=An.BL hk hi p;have HF:=Qa (qkd h hk hi p j ((S.Ar i p).1.H.Cy p j).1 ((S.Ar i p).1.H.Cy p j).2 (S.Ar i p).1 (S.CE i p j)
  (fun w1 o1 h1=>(Pr h1 hf p j).mono fun _ _⟨a,b⟩=>⟨a,h1.D1 b⟩) (tu hk hi p j) (fun he=>by unfold An.CE;rw[if_pos he]) (fun he=>by unfold An.CE;rw[if_neg (by simpa using he)]))
 unfold An.read;generalize S.AG i (S.CE i p j)=R at *;clear h hk hi hf;go_enter func24,ntmps24;go_wp2_with fail;refine HF.out.mono ?_
 rintro e w2⟨rfl,h2⟩
 go_wp2_with fail;go_ret2;exact⟨rfl,h2⟩
def KI (h:Aq w o y S)(hk:S.ok)(hi:i<S.Au.length)(p j:Nat) :
  Ab ARt 57 #[ptr y.sb,I Z i,I Z p,I Z j] w fun e w'=>e=O (Aj #[I Z (S.get i p j).v,I Z (S.get i p j).e])/\Bl y (S.get i p j).S o w w':=by
 have hf:=An.BL hk hi p;have HF:=Qa (qkg h hk hi p j ((S.Ar i p).1.H.Bi p j).2.1 ((S.Ar i p).1.H.Bi p j).2.2 ((S.Ar i p).1.h ((S.Ar i p).1.H.Bi p j).1) (S.Dd i p j)
  (fun w1 o1 h1=>Kx h1 hf p j) (Ur hk hi p j) (fun he=>by unfold An.Dd;rw[if_pos he]) (fun he=>by unfold An.Dd;rw[if_neg (by simpa using he)]))
 unfold An.get;generalize S.AG i (S.Dd i p j)=R at *;clear h hk hi hf;go_enter func57,ntmps57;go_wp2_with fail;refine HF.out.mono ?_
 rintro e w2⟨rfl,h2⟩
 go_wp2_with fail;go_ret2;exact⟨rfl,h2⟩
end
section
variable {w w' : Aa} {o o' : Own} {y : A6} {S : An} {i : Nat}
def qg7 (h:Aq w o y S)(hk:S.ok)(hi:i<S.Au.length)(p v:Nat)(hn:(S.A3 i p v).2=false) :
  Ab ARt 168 #[ptr (y.lb i),Ak #[I Z p,I Z v]] w fun e w'=>e=O (.bool false)/\Ae w.1.size w w':=by
 obtain⟨vr,vk,vh,vu,hl⟩:=(h.Au i _ (An.AV hi)).log;unfold An.A3 at hn;by_cases hd:∀ z ∈ (S.t i).log.holds,z.1≠p
 ·by_cases hm:(S.t i).log.holds.length<(S.t i).log.mu
  ·have e1:yj (S.t i).log p=true:=by unfold yj;simp only[Bool.and_eq_true,decide_eq_true_eq];exact⟨hd,hm⟩
   rw[if_pos e1]at hn;cases hn
  ·exact rz hl (hk.Ee hi).ok p v hd (by omega)
 ·exact Wz hl (hk.Ee hi).ok p v hd
def TH {S:An}{i p:Nat}(hn:(S.Be i p).2=false):¬S.H.sec p%2=1/\(S.A3 i p (S.H.sec p/2)).2=false/\(S.Be i p).1=S:=by
 unfold An.Be at hn ⊢;split at hn
 ·cases hn
 ·rename_i h1
  rw[if_neg h1];split at hn
  ·cases hn
  ·rename_i h2
   rw[if_neg h2];exact⟨h1,by simpa using h2,rfl⟩
def VD (h:Aq w o y S)(hk:S.ok)(hi:i<S.Au.length)(p:Nat)(hn:(S.Be i p).2=false) :
  Ab ARt 119 #[ptr y.sb,ptr (y.xb i),I Z p] w fun e w'=>e=O (.bool false)/\Ae w.1.size w w':=by
 obtain⟨hod,hno,_⟩:=TH hn;have HC:=Qa (US h hk p);obtain⟨hs,hv⟩:=hk.sec p;have HO:=(fun w=>Us (S.H.sec p) hv hs w)
 obtain⟨vq,vl,vm,hb,_⟩:=h.AM;unfold qw at hb;have c:=hb.cell;obtain⟨vt,jx,_⟩:=(h.Au i _ (An.AV hi)).AM;unfold zw at jx;have HL:=Qa (fun w' (hw:Ae w.1.size w w')=>qg7 (h.below hw) hk hi p (S.H.sec p/2) hno)
 rw[if_neg hod,if_neg hod,decide_eq_false hod]at HO;replace HO:=Qa HO;generalize S.H.sec p/2=v2 at *;generalize S.H.sec p=v at *;clear h hk hi hs hv hod hn hno;go_enter func119,ntmps119;go_wp2_with fail;refine HC.out.mono ?_
 rintro e w1⟨er,rfl,hb1⟩
 have cx:=(jx.below hb1 jx.lt).cell;go_wp2_with fail;refine (HO.out _).mono ?_
 rintro e w2⟨rfl,rfl⟩
 go_wp2_with fail;refine (HL.out _ hb1).mono ?_
 rintro e w2⟨rfl,hb2⟩
 go_wp2_with fail;go_ret;exact⟨rfl,qe hb1 hb2⟩
structure T8 (ef eg se:Int)(hb ub:Bool)(S1 S2 S3 S4 S5:An)(R:BD):Prop where
 r1:ef≠0->R.S=S1/\R.e=ef
 r2:ef=0->eg≠0->R.S=S2/\R.e=eg
 r3:ef=0->eg=0->hb=false->R.S=S3/\R.e=130
 r4:ef=0->eg=0->hb=true->ub=false->R.S=S4/\R.e=130
 r5:ef=0->eg=0->hb=true->ub=true->R.S=S5/\R.e=se
def WC (gf sf:Nat)(egf:∀ args w,(callFunc gf args).run ARt w=.ok (.enter gf args) w)(esf:∀ args w,(callFunc sf args).run ARt w=.ok (.enter sf args) w)
  (kd p j:Nat)(v old ef eg se:Int)(hb ub:Bool)(S1 S2 S3 S4 S5:An)(R:BD)(hR:T8 ef eg se hb ub S1 S2 S3 S4 S5 R)(h:Aq w o y S)(hx3:i<S3.Au.length)
  (fields:∀ w1 o1,Aq w1 o1 y S->Ab ARt 136 #[ptr y.sb,ptr (y.xb i),I Z p] w1 fun e w'=>e=O (I Z ef)/\Bl y S1 o1 w1 w')
  (get:∀ w1 o1,Aq w1 o1 y S1->Ab ARt gf #[ptr y.l.h,I Z p,I Z j] w1 fun e w'=>e=O (Aj #[I Z old,I Z eg])/\Bl y S2 o1 w1 w')
  (hold:∀ w1 o1,Aq w1 o1 y S2->Ab ARt 119 #[ptr y.sb,ptr (y.xb i),I Z p] w1 fun e w'=>e=O (.bool hb)/\Bl y S3 o1 w1 w')
  (hno:hb=false->S3=S2/\∀ w1 o1,Aq w1 o1 y S2->Ab ARt 119 #[ptr y.sb,ptr (y.xb i),I Z p] w1 fun e w'=>e=O (.bool false)/\Ae w1.1.size w1 w')
  (D8:∀ w1 o1,Aq w1 o1 y S3->Ab ARt 120 #[ptr (y.lb i),Ak #[I Z kd,I Z p,I Z j,I Z old]] w1 fun e w'=>e=O (.bool ub)/\Bl y S4 o1 w1 w')
  (set:∀ w1 o1,Aq w1 o1 y S4->Ab ARt sf #[ptr y.l.h,I Z p,I Z j,I Z v] w1 fun e w'=>e=O (I Z se)/\Bl y S5 o1 w1 w') :
  Ab ARt 109 #[ptr y.sb,ptr (y.xb i),Ak #[I Z kd,I Z p,I Z j,I Z 0],.func (.func gf) #[ptr y.l.h] #[],.func (.func sf) #[ptr y.l.h] #[],I Z v] w
   fun e w'=>e=O (I Z R.e)/\Bl y R.S o w w':=by
 obtain⟨o1,ho1⟩:∃ o1,o1=ext o w.1.size (y.l.id+1,0):=⟨_,rfl⟩;have hr:=h.retag (o':=o1) fun b hb=>by rw[ho1];exact qr hb
 have hS0:Stp (qo y) o o1 w w:=by rw[ho1];exact (Stp.refl _ o w).ext _ _ (Qk _)
 have hbx:o1 w.1.size=(y.l.id+1,0):=by rw[ho1];exact qz (Qk _)
 clear ho1 h;obtain⟨RS,Rv,Re⟩:=R;have HRR:=Qa hR;have HF:=Qa (fun w' (hw:Ae w.1.size w w')=>fields w' o1 (hr.below hw))
 have HG:=Qa get;have HH:=Qa hold;have HN:=Qa hno;have HU:=Qa D8;have HS:=Qa set;have HB:=Qa (qy y);have H0:=Qa hS0;have hX2:=Qa (fun w' o' (hS:Aq w' o' y S3)=>(hS.Au i _ (An.AV hx3)).AM)
 have jU:=Al.new w #[I Z kd,I Z p,I Z j,I Z 0] 175;clear fields get hold hno D8 set hr hS0 hx3 hR;go_enter func109,ntmps109;have cU:=jU.cell;go_wp2_with fail;refine (HF.out _ (qc (qd w) _)).mono ?_
 rintro e w1 ⟨rfl,o2,hS1,hs1⟩
 have jU1:=jU.Ao hs1 (by rw[hbx];exact HB.out)
 have tU1:o2 w.1.size=(y.l.id+1,0):=(hs1.tags _ jU.lt).trans hbx;have H1:=Qa (H0.out.trans ((Stp.of_below (qc (qd w) _)).trans hs1));clear cU hs1 jU hbx;by_cases he:ef=0
 ·subst he
  have cU:=jU1.cell;go_wp2_with fail;refine (HG.out _ o2 hS1).mono ?_;rintro e w2 ⟨rfl,o3,hS2,hs2⟩;have vY:=jU1.Ao hs2 (by rw[tU1];exact HB.out)
  have tU2:o3 w.1.size=(y.l.id+1,0):=(hs2.tags _ jU1.lt).trans tU1;have H2:=Qa (H1.out.trans hs2);clear cU hs2 jU1 tU1 hS1;by_cases he2:eg=0
  ·subst he2
   have cU:=vY.cell;have zU:=vY.free;have sU:=vY.lt;go_upto_region 8 with fail;obtain⟨W,hW⟩:=Ja0 (w2.setCell ⟨w.1.size,3,none⟩ (I Z old));rw[<-hW];have jW:Al W w.1.size #[I Z kd,I Z p,I Z j,I Z old] 175:=by rw[hW];exact vY.set 3 _
   have hSW:Aq W o3 y S2:=by rw[hW];exact hS2.box tU2 _
   have hs2:Stp (qo y) o o3 w W:=by rw[hW];exact H2.out.setCell_new (Qk _) _
   clear hW cU zU sU vY hS2 H2;have cW:=jW.cell;have oI:=Qa (hSW.below (qf (qd W)))
   cases hb with
   | false =>
    have e1:=(HRR.out.r3 rfl rfl rfl);simp only at e1;obtain⟨rfl,rfl⟩:=e1;obtain⟨rfl,hn9⟩:=HN.out rfl;have wQ:=Qa (fun (e:Later W)=>hn9 e.1 o3 (hSW.below e.2));have oF:=Qa hSW;have l1:=fun (e:Later W)(i:Nat)=>Later.cell jW e i;clear cW oI hn9 HH HU HS HG HF hX2 hSW;refine zr (by kernel_rfl) (by kernel_rfl) ?_
    repeat (go_big_quiet_step ((go_at_call 119;exact we (wQ.out _))))
    refine wpQuiet_nil ?_;intro w8 hW0;obtain⟨⟨W9,eX⟩,hwt⟩:=hW0;have hwt:w8=W9:=hwt;subst hwt;go_wp2_with fail;go_ret;exact⟨rfl,o3,oF.out.below eX,hs2.trans (Stp.of_below eX)⟩
   | true =>
    clear hSW
    cases ub with
    | false =>
     have e1:=(HRR.out.r4 rfl rfl rfl rfl);simp only at e1;obtain⟨rfl,rfl⟩:=e1;go_region_with (first
      | (go_at_call 119;refine (HH.out _ o3 oI.out).mono ?_;rintro e w3 ⟨rfl,o4,dB,hs3⟩;have m1:=(qj jW).Ao hs3 (by rw[tU2];exact HB.out);have d1:=m1.cell;obtain⟨vt3,gW,_⟩:=hX2.out _ _ dB;unfold zw at gW;have dx:=gW.cell)
      | (go_at_call 120;refine (HU.out _ o4 dB).mono ?_;rintro e w4 ⟨rfl,o5,dR,hs4⟩)
      | fail)
     all_goals
      go_wp2_with fail;go_ret;exact⟨rfl,o5,dR,((hs2.trans (Stp.of_below (qf (qd W)))).trans hs3).trans hs4⟩
    | true =>
     have e1:=(HRR.out.r5 rfl rfl rfl rfl);simp only at e1;obtain⟨rfl,rfl⟩:=e1;go_region_with (first
      | (go_at_call 119;refine (HH.out _ o3 oI.out).mono ?_;rintro e w3 ⟨rfl,o4,dB,hs3⟩;have m1:=(qj jW).Ao hs3 (by rw[tU2];exact HB.out);have d1:=m1.cell;obtain⟨vt3,gW,_⟩:=hX2.out _ _ dB;unfold zw at gW;have dx:=gW.cell)
      | (go_at_call 120;refine (HU.out _ o4 dB).mono ?_;rintro e w4 ⟨rfl,o5,dR,hs4⟩)
      | fail)
     all_goals
      have n1:=m1.Ao hs4 (by rw[(hs3.tags _ (qj jW).lt).trans tU2];exact HB.out)
      clear d1 dx cW;have d1:=n1.cell;go_wp2_with fail;refine (HS.out _ o5 dR).mono ?_;rintro e w5 ⟨rfl,o6,hS5,hs5⟩;go_wp2_with fail;go_ret;exact⟨rfl,o6,hS5,(((hs2.trans (Stp.of_below (qf (qd W)))).trans hs3).trans hs4).trans hs5⟩
  ·have e1:=(HRR.out.r2 rfl he2)
   simp only at e1;obtain⟨rfl,rfl⟩:=e1;have hbb:(Re != 0)=true:=by rw[bne_iff_ne];exact he2
   have hb2:(Re==0)=false:=by rw[Qh];exact he2
   clear he2;go_wp2_with fail;go_ret;exact⟨rfl,o3,hS2,H2.out⟩
 ·have e1:=(HRR.out.r1 he)
  simp only at e1;obtain⟨rfl,rfl⟩:=e1;have hbb:(Re != 0)=true:=by rw[bne_iff_ne];exact he
  have hb2:(Re==0)=false:=by rw[Qh];exact he
  clear he;go_wp2_with fail;go_ret;exact⟨rfl,o2,hS1,H1.out⟩
def ql4 (args:Array Ac)(w:Aa):(callFunc 110 args).run ARt w=.ok (.enter 110 args) w:=enters_of func110 (by kernel_rfl) rfl args w
def qlb (args:Array Ac)(w:Aa):(callFunc 113 args).run ARt w=.ok (.enter 113 args) w:=enters_of func113 (by kernel_rfl) rfl args w
def LL (h:Aq w o y S)(hk:S.ok)(hi:i<S.Au.length)(p j:Nat)(v:Int)(hv:-9223372036854775808<=v/\v<=9223372036854775807) :
  Ab ARt 109 #[ptr y.sb,ptr (y.xb i),Ak #[I Z 2,I Z p,I Z j,I Z 0],.func (.func 76) #[ptr y.l.h] #[],.func (.func 110) #[ptr y.l.h] #[],I Z v] w
   fun e w'=>e=O (I Z (S.BH i p j v).e)/\Bl y (S.BH i p j v).S o w w':=by
 have hf:=An.BL hk hi p;have hl:=xd S i p;have hi1:i<(S.Ar i p).1.Au.length:=by omega
 have hh:=An.CU hf hi1 p;have hl2:=ml (S.Ar i p).1 i p;have hi2:i<((S.Ar i p).1.Be i p).1.Au.length:=by omega
 have hnb:=hf.JY p j;have hu:=An.DC hh hi2 ⟨2,p,j,((S.Ar i p).1.H.Cy p j).1⟩ hnb (fun h=>by simp at h)
 refine WC _ _ LZ ql4 2 p j v ((S.Ar i p).1.H.Cy p j).1 (S.Ar i p).2 ((S.Ar i p).1.H.Cy p j).2 _ ((S.Ar i p).1.Be i p).2 _ (S.Ar i p).1 (S.Ar i p).1 ((S.Ar i p).1.Be i p).1 _ _ (S.BH i p j v) ?_ h hi2
  (fun w1 o1 h1=>gk h1 hk hi p) (fun w1 o1 h1=>(Pr h1 hf p j).mono fun _ _ ⟨a,b⟩=>⟨a,h1.D1 b⟩) (fun w1 o1 h1=>U2 h1 hf hi1 p) (fun e=>⟨(TH e).2.2,fun w1 o1 h1=>VD h1 hf hi1 p e⟩)
  (fun w1 o1 h1=>UA h1 hh hi2 ⟨2,p,j,((S.Ar i p).1.H.Cy p j).1⟩) (fun w1 o1 h1=>qi9 h1 hu p j v hv)
 refine⟨fun e=>?_,fun e1 e2=>?_,fun e1 e2 e3=>?_,fun e1 e2 e3 e4=>?_,fun e1 e2 e3 e4=>?_⟩<;>unfold An.BH
 ·rw[if_pos e];exact⟨rfl,rfl⟩
 ·rw[if_neg (by simpa using e1),if_pos (by simpa using e2)];exact⟨rfl,rfl⟩
 ·rw[if_neg (by simpa using e1),if_neg (by simpa using e2)];unfold An.B5;rw[if_pos e3];exact⟨rfl,rfl⟩
 ·rw[if_neg (by simpa using e1),if_neg (by simpa using e2)];unfold An.B5;rw[if_neg (by rw[e3];simp),if_pos e4];exact⟨rfl,rfl⟩
 ·rw[if_neg (by simpa using e1),if_neg (by simpa using e2)];unfold An.B5;rw[if_neg (by rw[e3];simp),if_neg (by rw[e4];simp)];exact⟨rfl,rfl⟩
def LM (h:Aq w o y S)(hk:S.ok)(hi:i<S.Au.length)(p j q:Nat) :
  Ab ARt 109 #[ptr y.sb,ptr (y.xb i),Ak #[I Z 1,I Z p,I Z j,I Z 0],.func (.func 112) #[ptr y.l.h] #[],.func (.func 113) #[ptr y.l.h] #[],I Z q] w
   fun e w'=>e=O (I Z (S.C8 i p j q).e)/\Bl y (S.C8 i p j q).S o w w':=by
 have hf:=An.BL hk hi p;have hl:=xd S i p;have hp:((S.Ar i p).1.h ((S.Ar i p).1.H.Bi p j).1).ok:=An.DR hf p j;have hlp:((S.Ar i p).1.h ((S.Ar i p).1.H.Bi p j).1).Au.length=S.Au.length:=hl;have hi1:i<((S.Ar i p).1.h ((S.Ar i p).1.H.Bi p j).1).Au.length:=by omega
 have hh:=An.CU hp hi1 p;have hl2:=ml ((S.Ar i p).1.h ((S.Ar i p).1.H.Bi p j).1) i p;have hi2:i<(((S.Ar i p).1.h ((S.Ar i p).1.H.Bi p j).1).Be i p).1.Au.length:=by omega
 have hb:=qmy hf.H p j;have hu:=An.DC hh hi2 ⟨1,p,j,((S.Ar i p).1.H.Bi p j).2.1⟩ (by simp only;omega) (fun _=>by simp only;omega)
 refine WC _ _ L0 qlb 1 p j q ((S.Ar i p).1.H.Bi p j).2.1 (S.Ar i p).2 ((S.Ar i p).1.H.Bi p j).2.2 _ (((S.Ar i p).1.h ((S.Ar i p).1.H.Bi p j).1).Be i p).2 _ (S.Ar i p).1 ((S.Ar i p).1.h ((S.Ar i p).1.H.Bi p j).1) (((S.Ar i p).1.h ((S.Ar i p).1.H.Bi p j).1).Be i p).1 _ _ (S.C8 i p j q) ?_ h hi2
  (fun w1 o1 h1=>gk h1 hk hi p) (fun w1 o1 h1=>Kx h1 hf p j) (fun w1 o1 h1=>U2 h1 hp hi1 p) (fun e=>⟨(TH e).2.2,fun w1 o1 h1=>VD h1 hp hi1 p e⟩)
  (fun w1 o1 h1=>UA h1 hh hi2 ⟨1,p,j,((S.Ar i p).1.H.Bi p j).2.1⟩) (fun w1 o1 h1=>U5 h1 hu p j q)
 refine⟨fun e=>?_,fun e1 e2=>?_,fun e1 e2 e3=>?_,fun e1 e2 e3 e4=>?_,fun e1 e2 e3 e4=>?_⟩<;>unfold An.C8
 ·rw[if_pos e];exact⟨rfl,rfl⟩
 ·rw[if_neg (by simpa using e1),if_pos (by simpa using e2)];exact⟨rfl,rfl⟩
 ·rw[if_neg (by simpa using e1),if_neg (by simpa using e2)];unfold An.B5;rw[if_pos e3];exact⟨rfl,rfl⟩
 ·rw[if_neg (by simpa using e1),if_neg (by simpa using e2)];unfold An.B5;rw[if_neg (by rw[e3];simp),if_pos e4];exact⟨rfl,rfl⟩
 ·rw[if_neg (by simpa using e1),if_neg (by simpa using e2)];unfold An.B5;rw[if_neg (by rw[e3];simp),if_neg (by rw[e4];simp)];exact⟨rfl,rfl⟩
def GC (S:An)(i p:Nat)(u:Un)(set:Hp->Hp×Nat):(S.B5 i p u set).v=0:=by unfold An.B5;split<;>(try split)<;>rfl
def Lk (S:An)(i p j:Nat)(v:Int):(S.BH i p j v).v=0:=by
 unfold An.BH;split
 ·rfl
 ·split
  ·rfl
  ·exact GC _ _ _ _ _
def QX (S:An)(i p j q:Nat):(S.Dr i p j q).v=0:=by
 unfold An.Dr An.C8;split
 ·rfl
 ·split
  ·rfl
  ·split
   ·rfl
   ·exact GC _ _ _ _ _
def Mj (S:An)(i p:Nat):(S.Cj i p).v=0:=by
 unfold An.Cj;split
 ·rfl
 ·exact GC _ _ _ _ _
def qoj (args:Array Ac)(w:Aa):(callFunc 108 args).run ARt w=.ok (.enter 108 args) w:=enters_of func108 (by kernel_rfl) rfl args w
def qld (p j:Nat)(v err:Int)(S4:An)(h:Aq w o y S)
  (ch:∀ w1,Ae w.1.size w w1->Ab ARt 109 #[ptr y.sb,ptr (y.xb i),Ak #[I Z 2,I Z p,I Z j,I Z 0],.func (.func 76) #[ptr y.l.h] #[],.func (.func 110) #[ptr y.l.h] #[],I Z v] w1
   fun e w'=>e=O (I Z err)/\Bl y S4 o w1 w')
  {b1 b2 b3 b4:Nat}(j1:Al w b1 #[I Z p] 3)(j2:Al w b2 #[I Z j] 3)(j3:Al w b3 #[ptr y.sb] 24)(j4:Al w b4 #[I Z v] 3) :
  Ab ARt 108 #[ptr (y.xb i),ptr b1,ptr b2,ptr b3,ptr b4] w fun e w'=>e=O (Aj #[I Z 0,I Z err])/\Bl y S4 o w w':=by
 have gD:∀ (fn:Fn)(first cap:Array Ac)(w:Aa),(Ad fn first cap).run ARt w=.ok (.func fn first cap) w:=fun _ _ _ _=>rfl
 have HC:=Qa ch;obtain⟨vq,vl,vm,jb,_⟩:=h.AM;unfold qw at jb;have c1:=j1.cell;have c2:=j2.cell;clear ch h;go_enter func108,ntmps108;go_upto_region 2 with fail;obtain⟨W,hW⟩:=Ja0 (w.alloc (ARu #[I Z 2,I Z p,I Z j,I Z 0] 175));rw[<-hW];have hbW:Ae w.1.size w W:=by rw[hW];exact qc (qd w) _
 have jU:Al W w.1.size #[I Z 2,I Z p,I Z j,I Z 0] 175:=by rw[hW];exact Al.new w _ _
 have k3:=j3.below hbW j3.lt;have k4:=j4.below hbW j4.lt;have kb:=jb.below hbW jb.lt;clear hW c1 c2 j1 j2 j3 j4 jb;have c3:=k3.cell;have c4:=k4.cell;have cb:=kb.cell;have cU:=jU.cell;have fZ:=Qa (HC.out W.drew (qf hbW));go_still_tail 14,(by kernel_rfl)
 change wpList _ _ _ _ _ W.drew;go_wp2_with fail;refine fZ.out.mono ?_
 rintro e w2⟨rfl,o2,hS2,hs2⟩
 go_wp2_with fail;go_ret2;exact⟨rfl,o2,hS2,(Stp.of_below (qf hbW)).trans hs2⟩
def An.write (S:An)(i p j:Nat)(v:Int):BD:=S.AG i (S.BH i p j v)
def An.put (S:An)(i p j q:Nat):BD:=S.AG i (S.Dr i p j q)
def An.free (S:An)(i p:Nat):BD:=S.AG i (S.Cj i p)
def qjx (h:Aq w o y S) (hk:S.ok) (hi:i<S.Au.length) (p j:Nat) (v:Int) (hv:-9223372036854775808<=v/\v<=9223372036854775807) :
  Ab ARt 48 #[ptr y.sb,I Z i,I Z p,I Z j,I Z v] w fun e w'=>e=O (I Z (S.write i p j v).e)/\Bl y (S.write i p j v).S o w w':=by
 have gD:∀ (fn:Fn) (first cap:Array Ac) (w:Aa),(Ad fn first cap).run ARt w=.ok (.func fn first cap) w:=fun _ _ _ _=>rfl
 obtain⟨W,hW⟩:=Ja0 ((((w.alloc (ARu #[ptr y.sb] 24)).alloc (ARu #[I Z p] 3)).alloc (ARu #[I Z j] 3)).alloc (ARu #[I Z v] 3));have hbW:Ae w.1.size w W:=by rw[hW];exact qc (qc (qc (qc (qd w) _) _) _) _
 have j1:Al W w.1.size #[ptr y.sb] 24:=by rw[hW];exact (((Al.new w _ _).alloc _).alloc _).alloc _
 have j2:Al W (w.1.size+1) #[I Z p] 3:=by rw[hW];exact ((Al.Ap _ _ _ _ _ (by simp) rfl).alloc _).alloc _
 have j3:Al W (w.1.size+1+1) #[I Z j] 3:=by rw[hW];exact (Al.Ap _ _ _ _ _ (by simp) rfl).alloc _
 have j4:Al W (w.1.size+1+1+1) #[I Z v] 3:=by rw[hW];exact Al.Ap _ _ _ _ _ (by simp) rfl
 have HD:=Qa (xa 108 [ptr (w.1.size+1),ptr (w.1.size+1+1),ptr w.1.size,ptr (w.1.size+1+1+1)] (h.below hbW) hk hi qoj (S.BH i p j v) (fun _=>df hk hi p j hv)
  (fun _ w1 o2 hb he2 hS=>by
   rw[Lk];exact qld p j v _ _ hS (fun w2 hb2=>LL (hS.below hb2) hk hi p j v hv) (j2.below hb j2.lt) (j3.below hb j3.lt) (j1.below hb j1.lt) (j4.below hb j4.lt)))
 have HS:=Qa (Stp.of_below (T:=qo y) (o:=o) hbW);unfold An.write;generalize S.AG i (S.BH i p j v)=R at *;clear h hbW j1 j2 j3 j4 hk hi;go_enter func48,ntmps48;go_wp2_with fail;rw[<-hW];refine HD.out.mono ?_
 rintro e w2⟨rfl,o2,hS2,hs2⟩
 go_wp2_with fail;go_ret;exact⟨rfl,o2,hS2,HS.out.trans hs2⟩
end
section
variable {w w' : Aa} {o o' : Own} {y : A6} {S : An} {i : Nat}
def L1 (args:Array Ac)(w:Aa):(callFunc 111 args).run ARt w=.ok (.enter 111 args) w:=enters_of func111 (by kernel_rfl) rfl args w
def M4 (q:Nat)(h:Aq w o y S)(hk:S.ok)(hq:q≠0/\lk S.H.cur q=none)
  {b1 b2 b3 b4:Nat}(j1:Al w b1 #[I Z q] 3)(j2:Al w b2 #[ptr y.sb] 24) :
  Ab ARt 111 #[ptr (y.xb i),ptr b1,ptr b2,ptr b3,ptr b4] w fun e w'=>e=O (Aj #[I Z 0,I Z 70])/\Bl y S o w w':=by
 have HH:=Qa (fun (e:Later w)=>SD (h.below e.2) hk q)
 rw[hq.2]at HH;simp only[Option.isSome_none]at HH;have HS:=Qa h;obtain⟨vq,vl,vm,jb,_⟩:=h.AM;unfold qw at jb;have vH:((q:Int) != 0)=true:=by rw[bne_iff_ne];have:=hq.1;omega
 have l1:=fun (e:Later w)(i:Nat)=>Later.cell j1 e i
 have l2:=fun (e:Later w)(i:Nat)=>Later.cell j2 e i
 have l5:=fun (e:Later w)(i:Nat)=>Later.cell jb e i
 clear h hk hq;go_enter func111,ntmps111;go_upto_region 1 with fail;refine zr (by kernel_rfl) (by kernel_rfl) ?_
 repeat (go_big_quiet_step ((go_at_call 61;exact we (HH.out _))))
 refine wpQuiet_nil ?_;intro w8 hW0;obtain⟨⟨W0,hb0⟩,hwt⟩:=hW0;have hwt:w8=W0:=hwt;subst hwt;go_wp2_with fail;go_ret2;exact⟨rfl,HS.out.D1 hb0⟩
def Kj (p j q:Nat)(err:Int)(S4:An)(h:Aq w o y S)(hk:S.ok)(hq:¬(q≠0/\lk S.H.cur q=none))
  (ch:∀ w1,Ae w.1.size w w1->Ab ARt 109 #[ptr y.sb,ptr (y.xb i),Ak #[I Z 1,I Z p,I Z j,I Z 0],.func (.func 112) #[ptr y.l.h] #[],.func (.func 113) #[ptr y.l.h] #[],I Z q] w1
   fun e w'=>e=O (I Z err)/\Bl y S4 o w1 w')
  {b1 b2 b3 b4:Nat}(j1:Al w b1 #[I Z q] 3)(j2:Al w b2 #[ptr y.sb] 24)(j3:Al w b3 #[I Z p] 3)(j4:Al w b4 #[I Z j] 3) :
  Ab ARt 111 #[ptr (y.xb i),ptr b1,ptr b2,ptr b3,ptr b4] w fun e w'=>e=O (Aj #[I Z 0,I Z err])/\Bl y S4 o w w':=by
 have gD:∀ (fn:Fn)(first cap:Array Ac)(w:Aa),(Ad fn first cap).run ARt w=.ok (.func fn first cap) w:=fun _ _ _ _=>rfl
 have HC:=Qa ch;obtain⟨vq,vl,vm,jb,_⟩:=h.AM;unfold qw at jb;have HH:=(fun (e:Later w)=>SD (h.below e.2) hk q)
 have hq2:q≠0->(lk S.H.cur q).isSome=true:=fun h0=>by
  cases hl:lk S.H.cur q with
  | none=>exact absurd ⟨h0,hl⟩ hq
  | some ob=>rfl
 have HH:=Qa HH;have qW:=Qa hq2;clear ch h hk hq hq2;go_enter func111,ntmps111;go_upto_region 1 with fail;rcases Nat.eq_zero_or_pos q with hq0|hq0
 ·have vH:((q:Int) != 0)=false:=by rw[hq0];rfl
  have c1:=j1.cell;clear hq0;go_quiet (fail);obtain⟨W0,hW0⟩:=Ja0 (w.drewN nq);have hb0:Ae w.1.size w W0:=by rw[hW0];exact qx (qd _) _
  rw[<-hW0];clear hW0 c1;have k1:=j1.below hb0 j1.lt;have k2:=j2.below hb0 j2.lt;have k3:=j3.below hb0 j3.lt;have k4:=j4.below hb0 j4.lt;have kb:=jb.below hb0 jb.lt;have c3:=k3.cell;have c4:=k4.cell;go_upto_region 4 with fail;clear c3 c4;obtain⟨W,hW⟩:=Ja0 (W0.alloc (ARu #[I Z 1,I Z p,I Z j,I Z 0] 175));rw[<-hW];have hbW:Ae w.1.size w W:=by rw[hW];exact qc hb0 _
  have jU:Al W W0.1.size #[I Z 1,I Z p,I Z j,I Z 0] 175:=by rw[hW];exact Al.new W0 _ _
  have k1:=j1.below hbW j1.lt;have k2:=j2.below hbW j2.lt;have kb:=jb.below hbW jb.lt;clear hW;have c3:=k1.cell;have c4:=k2.cell;have cb:=kb.cell;have cU:=jU.cell;have fZ:=Qa (HC.out W.drew (qf hbW));go_still_tail 14,(by kernel_rfl)
  change wpList _ _ _ _ _ W.drew;go_wp2_with fail;refine fZ.out.mono ?_;rintro e w2 ⟨rfl,o2,hS2,hs2⟩;go_wp2_with fail;go_ret2;exact⟨rfl,o2,hS2,(Stp.of_below (qf hbW)).trans hs2⟩
 ·have vH:((q:Int) != 0)=true:=by rw[bne_iff_ne];omega
  have yH:=HH.out;rw[qW.out (by omega)]at yH
  have yH:=Qa yH;have l1:=fun (e:Later w)(i:Nat)=>Later.cell j1 e i;have l2:=fun (e:Later w)(i:Nat)=>Later.cell j2 e i;have l5:=fun (e:Later w)(i:Nat)=>Later.cell jb e i;clear hq0 HH qW;refine zr (by kernel_rfl) (by kernel_rfl) ?_
  repeat (go_big_quiet_step ((go_at_call 61;exact we (yH.out _))))
  refine wpQuiet_nil ?_;intro w8 hW0;obtain⟨⟨W0,hb0⟩,hwt⟩:=hW0;have hwt:w8=W0:=hwt;subst hwt;clear l1 l2 l5;have k1:=j1.below hb0 j1.lt;have k2:=j2.below hb0 j2.lt;have k3:=j3.below hb0 j3.lt;have k4:=j4.below hb0 j4.lt;have kb:=jb.below hb0 jb.lt;have c3:=k3.cell;have c4:=k4.cell;go_upto_region 4 with fail;clear c3 c4;obtain⟨W,hW⟩:=Ja0 (w8.alloc (ARu #[I Z 1,I Z p,I Z j,I Z 0] 175));rw[<-hW];have hbW:Ae w.1.size w W:=by rw[hW];exact qc hb0 _
  have jU:Al W w8.1.size #[I Z 1,I Z p,I Z j,I Z 0] 175:=by rw[hW];exact Al.new w8 _ _
  have k1:=j1.below hbW j1.lt;have k2:=j2.below hbW j2.lt;have kb:=jb.below hbW jb.lt;clear hW;have c3:=k1.cell;have c4:=k2.cell;have cb:=kb.cell;have cU:=jU.cell;have fZ:=Qa (HC.out W.drew (qf hbW));go_still_tail 14,(by kernel_rfl)
  change wpList _ _ _ _ _ W.drew;go_wp2_with fail;refine fZ.out.mono ?_;rintro e w2 ⟨rfl,o2,hS2,hs2⟩;go_wp2_with fail;go_ret2;exact⟨rfl,o2,hS2,(Stp.of_below (qf hbW)).trans hs2⟩
def KM (h:Aq w o y S) (hk:S.ok) (hi:i<S.Au.length) (p j q:Nat) :
  Ab ARt 49 #[ptr y.sb,I Z i,I Z p,I Z j,I Z q] w fun e w'=>e=O (I Z (S.put i p j q).e)/\Bl y (S.put i p j q).S o w w':=by
 have gD:∀ (fn:Fn) (first cap:Array Ac) (w:Aa),(Ad fn first cap).run ARt w=.ok (.func fn first cap) w:=fun _ _ _ _=>rfl
 obtain⟨W,hW⟩:=Ja0 ((((w.alloc (ARu #[ptr y.sb] 24)).alloc (ARu #[I Z p] 3)).alloc (ARu #[I Z j] 3)).alloc (ARu #[I Z q] 3));have hbW:Ae w.1.size w W:=by rw[hW];exact qc (qc (qc (qc (qd w) _) _) _) _
 have j1:Al W w.1.size #[ptr y.sb] 24:=by rw[hW];exact (((Al.new w _ _).alloc _).alloc _).alloc _
 have j2:Al W (w.1.size+1) #[I Z p] 3:=by rw[hW];exact ((Al.Ap _ _ _ _ _ (by simp) rfl).alloc _).alloc _
 have j3:Al W (w.1.size+1+1) #[I Z j] 3:=by rw[hW];exact (Al.Ap _ _ _ _ _ (by simp) rfl).alloc _
 have j4:Al W (w.1.size+1+1+1) #[I Z q] 3:=by rw[hW];exact Al.Ap _ _ _ _ _ (by simp) rfl
 have HD:=Qa (xa 111 [ptr (w.1.size+1+1+1),ptr w.1.size,ptr (w.1.size+1),ptr (w.1.size+1+1)] (h.below hbW) hk hi L1 (S.Dr i p j q) (fun _=>Uo hk hi p j q)
  (fun _ w1 o2 hb he2 hS=>by
   rw[QX];unfold An.Dr;by_cases hq:q≠0/\lk S.H.cur q=none
   ·rw[if_pos hq]
    exact M4 q hS hk hq (j4.below hb j4.lt) (j1.below hb j1.lt)
   ·rw[if_neg hq]
    exact Kj p j q _ _ hS hk hq (fun w2 hb2=>LM (hS.below hb2) hk hi p j q) (j4.below hb j4.lt) (j1.below hb j1.lt) (j2.below hb j2.lt) (j3.below hb j3.lt)))
 have HS:=Qa (Stp.of_below (T:=qo y) (o:=o) hbW);unfold An.put;generalize S.AG i (S.Dr i p j q)=R at *;clear h hbW j1 j2 j3 j4 hk hi;go_enter func49,ntmps49;go_wp2_with fail;rw[<-hW];refine HD.out.mono ?_
 rintro e w2⟨rfl,o2,hS2,hs2⟩
 go_wp2_with fail;go_ret;exact⟨rfl,o2,hS2,HS.out.trans hs2⟩
end
section
variable {w w' : Aa} {o o' : Own} {y : A6} {S : An} {i : Nat}
def GW (args:Array Ac)(w:Aa):(callFunc 117 args).run ARt w=.ok (.enter 117 args) w:=enters_of func117 (by kernel_rfl) rfl args w
structure RP (el se:Int)(hb ub:Bool)(S1 S3 S4 S5:An)(R:BD):Prop where
 r1:el≠0->R.S=S1/\R.e=el
 r3:el=0->hb=false->R.S=S3/\R.e=130
 r4:el=0->hb=true->ub=false->R.S=S4/\R.e=130
 r5:el=0->hb=true->ub=true->R.S=S5/\R.e=se
def qnt (p:Nat)(el se:Int)(hb ub:Bool)(s:BX)(S1 S3 S4 S5:An)(R:BD)(hR:RP el se hb ub S1 S3 S4 S5 R)(hx3:i<S3.Au.length)
  (look:Ab ARt 118 #[ptr y.sb,ptr (y.xb i),I Z p] w fun e w'=>e=O (Aj #[kw s,I Z el])/\Bl y S1 o w w')
  (hold:∀ w1 o1,Aq w1 o1 y S1->Ab ARt 119 #[ptr y.sb,ptr (y.xb i),I Z p] w1 fun e w'=>e=O (.bool hb)/\Bl y S3 o1 w1 w')
  (hno:hb=false->S3=S1/\∀ w1 o1,Aq w1 o1 y S1->Ab ARt 119 #[ptr y.sb,ptr (y.xb i),I Z p] w1 fun e w'=>e=O (.bool false)/\Ae w1.1.size w1 w')
  (D8:∀ w1 o1,Aq w1 o1 y S3->Ab ARt 120 #[ptr (y.lb i),Ak #[I Z 3,I Z p,I Z 0,I Z 0]] w1 fun e w'=>e=O (.bool ub)/\Bl y S4 o1 w1 w')
  (free:∀ w1 o1,Aq w1 o1 y S4->Ab ARt 121 #[ptr y.l.h,I Z p,.bool true] w1 fun e w'=>e=O (I Z se)/\Bl y S5 o1 w1 w')
  {b1 b2:Nat}(j1:Al w b1 #[ptr y.sb] 24)(j2:Al w b2 #[I Z p] 3)(t1:o b1=(y.l.id+1,0))(t2:o b2=(y.l.id+1,0)) :
  Ab ARt 117 #[ptr (y.xb i),ptr b1,ptr b2] w fun e w'=>e=O (Aj #[I Z 0,I Z R.e])/\Bl y R.S o w w':=by
 obtain⟨RS,Rv,Re⟩:=R;have HRR:=Qa hR;have HL:=Qa look;have HH:=Qa hold;have HN:=Qa hno;have HU:=Qa D8;have HF:=Qa free;have HB:=Qa (qy y);have hX2:=Qa (fun w' o' (hS:Aq w' o' y S3)=>(hS.Au i _ (An.AV hx3)).AM)
 have c1:=j1.cell;have c2:=j2.cell;obtain⟨sp,sd,wk,fn⟩:=s;clear hR look hold hno D8 free hx3;go_enter func117,ntmps117;go_wp2_with fail;refine HL.out.mono ?_
 rintro e w1⟨rfl,o1,hS1,hs1⟩
 have k1:=j1.Ao hs1 (by rw[t1];exact HB.out)
 have k2:=j2.Ao hs1 (by rw[t2];exact HB.out)
 have u1:o1 b1=(y.l.id+1,0):=(hs1.tags _ j1.lt).trans t1;have u2:o1 b2=(y.l.id+1,0):=(hs1.tags _ j2.lt).trans t2;clear c1 c2 j1 j2 t1 t2;by_cases he:el=0
 ·subst he
  go_upto_region 4 with fail;obtain⟨W,hW⟩:=Ja0 (w1.alloc (ARu #[I Z sp,I Z sd,.bool wk,.bool fn] 93));rw[<-hW];have hbW:Ae w1.1.size w1 W:=by rw[hW];exact qc (qd w1) _
  have k1:=k1.below hbW k1.lt;have k2:=k2.below hbW k2.lt;have hSW:=hS1.below hbW;have iV:=Qa (hs1.trans (Stp.of_below hbW));clear hW hS1 hs1 hbW;have c1:=k1.cell;have c2:=k2.cell
  cases hb with
  | false =>
   obtain⟨rfl,hn9⟩:=HN.out rfl;have e1:=(HRR.out.r3 rfl rfl);simp only at e1;obtain⟨rfl,rfl⟩:=e1;have wQ:=Qa (fun (e:Later W)=>hn9 e.1 o1 (hSW.below e.2));have oF:=Qa hSW;have l1:=fun (e:Later W)(i:Nat)=>Later.cell k1 e i;have l2:=fun (e:Later W)(i:Nat)=>Later.cell k2 e i;clear c1 c2 hn9 HH HU HF hX2 hSW;refine zr (by kernel_rfl) (by kernel_rfl) ?_
   repeat (go_big_quiet_step ((go_at_call 119;exact we (wQ.out _))))
   refine wpQuiet_nil ?_;intro w8 hW0;obtain⟨⟨W9,eX⟩,hwt⟩:=hW0;have hwt:w8=W9:=hwt;subst hwt;go_wp2_with fail;go_ret2;exact⟨rfl,o1,oF.out.below eX,iV.out.trans (Stp.of_below eX)⟩
  | true =>
   have oI:=Qa (hSW.below (qf (qd W)));clear hSW
   cases ub with
   | false =>
    have e1:=(HRR.out.r4 rfl rfl rfl);simp only at e1;obtain⟨rfl,rfl⟩:=e1;go_region_with (first
     | (go_at_call 119;refine (HH.out _ o1 oI.out).mono ?_;rintro e w2⟨rfl,o2,hS2,hs2⟩;have m1:=(qj k1).Ao hs2 (by rw[u1];exact HB.out);have m2:=(qj k2).Ao hs2 (by rw[u2];exact HB.out);have d1:=m1.cell;have d2:=m2.cell;obtain⟨vt3,gW,_⟩:=hX2.out _ _ hS2;unfold zw at gW;have dx:=gW.cell)
     | (go_at_call 120;refine (HU.out _ o2 hS2).mono ?_;rintro e w3⟨rfl,o3,dB,hs3⟩)
     | fail)
    all_goals
     go_wp2_with fail;go_ret2;exact⟨rfl,o3,dB,((iV.out.trans (Stp.of_below (qf (qd W)))).trans hs2).trans hs3⟩
   | true =>
    have e1:=(HRR.out.r5 rfl rfl rfl);simp only at e1;obtain⟨rfl,rfl⟩:=e1;go_region_with (first
     | (go_at_call 119;refine (HH.out _ o1 oI.out).mono ?_;rintro e w2⟨rfl,o2,hS2,hs2⟩;have m1:=(qj k1).Ao hs2 (by rw[u1];exact HB.out);have m2:=(qj k2).Ao hs2 (by rw[u2];exact HB.out);have d1:=m1.cell;have d2:=m2.cell;obtain⟨vt3,gW,_⟩:=hX2.out _ _ hS2;unfold zw at gW;have dx:=gW.cell)
     | (go_at_call 120;refine (HU.out _ o2 hS2).mono ?_;rintro e w3⟨rfl,o3,dB,hs3⟩)
     | fail)
    all_goals
     have n1:=m1.Ao hs3 (by rw[(hs2.tags _ (qj k1).lt).trans u1];exact HB.out)
     have n2:=m2.Ao hs3 (by rw[(hs2.tags _ (qj k2).lt).trans u2];exact HB.out)
     obtain⟨vq3,vl3,vm3,jb3,_⟩:=dB.AM;unfold qw at jb3;clear d1 d2 dx c1 c2;have d1:=n1.cell;have d2:=n2.cell;have d3:=jb3.cell;go_upto_region 6 with fail;have wO:=Qa (HF.out w3.drew o3 (dB.below (qf (qd w3))));go_region_with (first|(go_at_call 121;refine wO.out.mono ?_;rintro e w4⟨rfl,o4,dR,hs4⟩)|fail)
     all_goals
      go_wp2_with fail;go_ret2;exact⟨rfl,o4,dR,(((iV.out.trans (Stp.of_below (qf (qd W)))).trans hs2).trans hs3).trans ((Stp.of_below (qf (qd w3))).trans hs4)⟩
 ·have e1:=(HRR.out.r1 he)
  simp only at e1;obtain⟨rfl,rfl⟩:=e1;have hbb:(Re != 0)=true:=by rw[bne_iff_ne];exact he
  have hb2:(Re==0)=false:=by rw[Qh];exact he
  clear he;go_wp2_with fail;go_ret2;exact⟨rfl,o1,hS1.alloc _,hs1.alloc _⟩
def qo6 (S:An)(i p:Nat):RP (S.AO i p).2.1 ((((S.AO i p).1.Be i p).1.BW i ⟨3,p,0,0⟩).1.H.A1 p true).2 ((S.AO i p).1.Be i p).2 (((S.AO i p).1.Be i p).1.BW i ⟨3,p,0,0⟩).2
  (S.AO i p).1 ((S.AO i p).1.Be i p).1 (((S.AO i p).1.Be i p).1.BW i ⟨3,p,0,0⟩).1 ((((S.AO i p).1.Be i p).1.BW i ⟨3,p,0,0⟩).1.h ((((S.AO i p).1.Be i p).1.BW i ⟨3,p,0,0⟩).1.H.A1 p true).1) (S.Cj i p):=by
 refine⟨fun e=>?_,fun e1 e3=>?_,fun e1 e3 e4=>?_,fun e1 e3 e4=>?_⟩<;>unfold An.Cj
 ·rw[if_pos e];exact⟨rfl,rfl⟩
 ·rw[if_neg (by simpa using e1)];unfold An.B5;rw[if_pos e3];exact⟨rfl,rfl⟩
 ·rw[if_neg (by simpa using e1)];unfold An.B5;rw[if_neg (by rw[e3];simp),if_pos e4];exact⟨rfl,rfl⟩
 ·rw[if_neg (by simpa using e1)];unfold An.B5;rw[if_neg (by rw[e3];simp),if_neg (by rw[e4];simp)];exact⟨rfl,rfl⟩
def PF (w:Aa)(a c:Ac)(ta tc:TypeId):Ae w.1.size w ((w.alloc (ARu #[a] ta)).alloc (ARu #[c] tc))/\Al ((w.alloc (ARu #[a] ta)).alloc (ARu #[c] tc)) w.1.size #[a] ta/\Al ((w.alloc (ARu #[a] ta)).alloc (ARu #[c] tc)) (w.1.size+1) #[c] tc:=
 ⟨qc (qc (qd w) _) _,(Al.new w _ _).alloc _,Al.Ap _ _ _ _ _ (by simp) rfl⟩
def qnn (h0:Aq w o y S)(hk:S.ok)(hi:i<S.Au.length)(p:Nat) :
  Ab ARt 56 #[ptr y.sb,I Z i,I Z p] w fun e w'=>e=O (I Z (S.free i p).e)/\Bl y (S.free i p).S o w w':=by
 have gD:∀ (fn:Fn)(first cap:Array Ac)(w:Aa),(Ad fn first cap).run ARt w=.ok (.func fn first cap) w:=fun _ _ _ _=>rfl
 obtain⟨o1,ho1⟩:∃ o1,o1=ext o w.1.size (y.l.id+1,0):=⟨_,rfl⟩;have h:=h0.retag (o':=o1) fun b hb=>by rw[ho1];exact qr hb
 have hS0:Stp (qo y) o o1 w w:=by rw[ho1];exact (Stp.refl _ o w).ext _ _ (Qk _)
 have hbx:∀ b,w.1.size<=b->o1 b=(y.l.id+1,0):=fun b hb=>by rw[ho1];exact qz hb
 clear ho1 h0;obtain⟨W,hW⟩:=Ja0 ((w.alloc (ARu #[ptr y.sb] 24)).alloc (ARu #[I Z p] 3));have hbj:=PF w (ptr y.sb) (I Z p) 24 3;rw[<-hW]at hbj;obtain⟨hbW,j1,j2⟩:=hbj;have hlk:=An.Dp hk hi p;have hl1:=dc S i p;have hi1:i<(S.AO i p).1.Au.length:=by omega
 have hl2:=ml (S.AO i p).1 i p;have hi2:i<((S.AO i p).1.Be i p).1.Au.length:=by omega
 have hu:=An.DC (An.CU hlk hi1 p) hi2 ⟨3,p,0,0⟩ (by simp) (fun h=>by simp at h)
 have HD:=Qa (xa 117 [ptr w.1.size,ptr (w.1.size+1)] (h.below hbW) hk hi GW (S.Cj i p) (fun _=>sy hk hi p)
  (fun _ w1 o2 hb he2 hS=>by
   rw[Mj];exact qnt p _ _ _ _ _ _ _ _ _ (S.Cj i p) (qo6 S i p) hi2 (U3 hS hk hi p) (fun w1 o1 h1=>U2 h1 hlk hi1 p) (fun e=>⟨(TH e).2.2,fun w1 o1 h1=>VD h1 hlk hi1 p e⟩)
    (fun w1 o1 h1=>UA h1 (An.CU hlk hi1 p) hi2 ⟨3,p,0,0⟩) (fun w1 o1 h1=>m7 h1 hu p true) (j1.below hb j1.lt) (j2.below hb j2.lt) ((he2 _ j1.lt).trans (hbx _ (by omega))) ((he2 _ j2.lt).trans (hbx _ (by omega)))))
 have HS:=Qa (hS0.trans (Stp.of_below hbW));unfold An.free;generalize S.AG i (S.Cj i p)=R at *;clear h hbW j1 j2 hk hi hlk hl1 hi1 hl2 hi2 hu hbx hS0;go_enter func56,ntmps56;go_wp2_with fail;rw[<-hW];refine HD.out.mono ?_
 rintro e w2 ⟨rfl,o2,hS2,hs2⟩
 go_wp2_with fail;go_ret;exact⟨rfl,o2,hS2,HS.out.trans hs2⟩
end
section
variable {w w' : Aa} {o o' : Own} {y : A6} {S : An} {i : Nat}
def qos (h:Aq w o y S)(hk:S.ok)(hi:i<S.Au.length){b1:Nat}(j1:Al w b1 #[ptr y.sb] 24)(t1:o b1=(y.l.id+1,0)) :
  Ab ARt 122 #[ptr (y.xb i),ptr b1] w fun e w'=>e=O (Aj #[I Z (S.Ca i).v,I Z (S.Ca i).e])/\Bl y (S.Ca i).S o w w':=by
 unfold An.Ca;by_cases hc:S.Av≠-1/\S.Av≠(i:Int)\/(S.t i).start<S.version
 ·rw[if_pos hc]
  exact (qig h hi hc j1).mono fun _ _ ⟨a,b⟩=>⟨a,h.D1 b⟩
 ·rw[if_neg hc]
  have hn:S.Av=-1\/S.Av=(i:Int):=by omega
  have hv:S.version<=(S.t i).start:=by omega
  split
  ·rename_i hq
   exact XH h hi hn hv (.inl hq) j1 t1
  ·rename_i z l hq
   split
   ·rename_i hz
    exact XH h hi hn hv (.inr ⟨z,l,hq,hz⟩) j1 t1
   ·rename_i hz
    exact qpj h hk hi hn hv hq (by omega) j1 t1
def GY (args:Array Ac)(w:Aa):(callFunc 122 args).run ARt w=.ok (.enter 122 args) w:=enters_of func122 (by kernel_rfl) rfl args w
def qnq (h0:Aq w o y S)(hk:S.ok)(hi:i<S.Au.length) :
  Ab ARt 59 #[ptr y.sb,I Z i] w fun e w'=>e=O (Aj #[I Z (S.take i).v,I Z (S.take i).e])/\Bl y (S.take i).S o w w':=by
 have gD:∀ (fn:Fn)(first cap:Array Ac)(w:Aa),(Ad fn first cap).run ARt w=.ok (.func fn first cap) w:=fun _ _ _ _=>rfl
 obtain⟨o1,ho1⟩:∃ o1,o1=ext o w.1.size (y.l.id+1,0):=⟨_,rfl⟩;have h:=h0.retag (o':=o1) fun b hb=>by rw[ho1];exact qr hb
 have hS0:Stp (qo y) o o1 w w:=by rw[ho1];exact (Stp.refl _ o w).ext _ _ (Qk _)
 have hbx:o1 w.1.size=(y.l.id+1,0):=by rw[ho1];exact qz (Qk _)
 clear ho1 h0;have j1:=Al.new w #[ptr y.sb] 24;have HD:=Qa (xa 122 [ptr w.1.size] (h.below (qc (qd w) (ARu #[ptr y.sb] 24))) hk hi GY (S.Ca i) (fun _=>r7 hk hi)
  (fun _ w1 o2 hb he2 hS=>qos hS hk hi (j1.below hb j1.lt) ((he2 _ j1.lt).trans hbx)))
 have HS:=Qa (hS0.trans (Stp.of_below (qc (qd w) (ARu #[ptr y.sb] 24))));unfold An.take;generalize S.AG i (S.Ca i)=R at *;clear h hbx hS0 j1 hk hi;go_enter func59,ntmps59;go_wp2_with fail;refine HD.out.mono ?_
 rintro e w2⟨rfl,o2,hS2,hs2⟩
 go_wp2_with fail;go_ret2;exact⟨rfl,o2,hS2,HS.out.trans hs2⟩
