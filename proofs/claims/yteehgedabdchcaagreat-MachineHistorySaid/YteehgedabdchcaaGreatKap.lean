import Derived.Test.YteehgedabdchcaaGreatKao
import Derived.Test.YteehgedabdchcaaGreatKas
set_option linter.all false
set_option maxRecDepth 1000000
set_option maxHeartbeats 16000000
namespace Go.Proofs.YteehgedabdchcaaGreat
open Go.RowKit Hp
attribute [local go_sem ↓] Go.wp_at_zero Go.wp_at_succ
section
variable {w w' : World} {o o' : Own} {y : SLay} {S : Stt} {i : Nat}
theorem qmu (f:Value)(h:StIn w o y S)(hk:S.ok)(hi:i<S.txs.length)(hl:(S.t i).live=false) :
  Calls Tryz.prog 77 #[ptr y.sb,.int .i64 i,f] w fun e w'=>e=.returned (.tuple #[.int .i64 0,.int .i64 140])∧Below w.heap.size w w':=by
 have HR:=Lib.hid (fun w' (hw:Below w.heap.size w w')=>xf (h.below hw) hk (Stt.t_get hi))
 rw[hl]at HR;simp only[Bool.false_eq_true,if_false]at HR;clear h hk hi hl;go_enter_defers Tryz.func77,Tryz.ntmps77;go_wp2_with fail;obtain⟨W,hW⟩:∃ W:World,W=((w.alloc (.cells #[ptr y.sb] 24)).alloc (.cells #[.int .i64 0] 3)).alloc (.cells #[.int .i64 0] 29):=⟨_,rfl⟩;rw[←hW];have hbW:Below w.heap.size w W:=by rw[hW];exact qa (qa (qa (qc w) _) _) _
 have hzW:W.heap.size=w.heap.size+3:=by rw[hW];simp
 have jV:Blk W (w.heap.size+1) #[.int .i64 0] 3:=by rw[hW];exact (Blk.new_at _ _ _ _ _ (by simp) rfl).alloc _
 have jE:Blk W (w.heap.size+1+1) #[.int .i64 0] 29:=by rw[hW];exact Blk.new_at _ _ _ _ _ (by simp) rfl
 clear hW;refine (HR.out _ hbW).mono ?_
 rintro e w1 ⟨rfl,rfl⟩
 have cV:=jV.cell;have zV:=jV.free;have sV:=jV.lt;have cE:=jE.cell;have zE:=jE.free;have sE:=jE.lt;go_wp2_with fail;have jV3:=(((jV.set 0 (.int .i64 0)).set_other (a:=⟨w.heap.size+1+1,0,none⟩) (by simp) (.int .i64 140)).alloc (.cells #[.pointer none] 103))
 have jE3:=(((jE.set_other (a:=⟨w.heap.size+1,0,none⟩) (by simp) (.int .i64 0)).set 0 (.int .i64 140)).alloc (.cells #[.pointer none] 103))
 have hfin:Below w.heap.size w (((W.setCell ⟨w.heap.size+1,0,none⟩ (.int .i64 0)).setCell ⟨w.heap.size+1+1,0,none⟩ (.int .i64 140)).alloc (.cells #[.pointer none] 103)):=
  qa (qo (qo hbW (by simp) _) (by simp;omega) _) _
 generalize ((W.setCell ⟨w.heap.size+1,0,none⟩ (.int .i64 0)).setCell ⟨w.heap.size+1+1,0,none⟩ (.int .i64 140)).alloc (.cells #[.pointer none] 103)=X at *;have cV3:=jV3.cell 0;have cE3:=jE3.cell 0;simp at cV3 cE3;simp only[bodyPostD,Leaves];exact⟨.tuple #[.int .i64 0,.int .i64 140],by simp[results,Tryz.results77,go_sem,cV3,cE3],rfl,hfin⟩
theorem vx (g:Nat)(caps:List Value)(h0:StIn w o y S)(hk:S.ok)(hi:i<S.txs.length)(eg:∀ args w,(callFunc g args).run Tryz.prog w=.ok (.enter g args) w)
  (r:Res)(hg:(S.t i).live=true→Good S.txs.length r)
  (hdo:(S.t i).live=true→∀ w1 o1,Below w.heap.size w w1→(∀ b,b<w.heap.size→o1 b=o b)→StIn w1 o1 y S→Calls Tryz.prog g (ptr (y.xb i)::caps).toArray w1 fun e w'=>e=.returned (.tuple #[.int .i64 r.v,.int .i64 r.e])∧Lft y r.S o1 w1 w') :
  Calls Tryz.prog 77 #[ptr y.sb,.int .i64 i,.func (.func g) #[] caps.toArray] w fun e w'=>e=.returned (.tuple #[.int .i64 (S.deedR i r).v,.int .i64 (S.deedR i r).e])∧Lft y (S.deedR i r).S o w w':=by
 unfold Stt.deedR
 cases hl:(S.t i).live with
 | false =>
  rw[if_neg (by simp)]
  refine (qmu _ h0 hk hi hl).mono ?_
  rintro e w' ⟨rfl,hb⟩
  exact⟨rfl,h0.lft hb⟩
 | true =>
  rw[if_pos rfl];replace hdo:=hdo hl;have hg:=hg hl;have hx:=Stt.t_get hi;obtain⟨S',v,e⟩:=r
  cases ha:isAb e with
  | true =>
   have e1:Res.fin ⟨S',v,e⟩ i=⟨S'.abort i,0,e⟩:=by unfold Res.fin;rw[if_pos ha]
   rw[e1];have he:e=141∨e=130∨e=100:=by
    unfold isAb at ha;simp only[Bool.or_eq_true,beq_iff_eq]at ha;omega
   refine (qjq g caps h0 hk hx hl eg (qh y) (qm y) S' (S'.abort i) v e he hdo fun w1 o1 h1=>qee h1 hg.1 (by have h2:S'.txs.length=S.txs.length:=hg.2;omega)).mono ?_
   rintro e w' ⟨rfl,o',h1,h2⟩
   exact⟨rfl,o',h1,h2.mono fun _ h=>h.elim id id⟩
  | false =>
   have hne:e≠141∧e≠130∧e≠100:=by
    unfold isAb at ha;simp only[Bool.or_eq_false_iff,beq_eq_false_iff_ne]at ha;exact⟨ha.1.1,ha.1.2,ha.2⟩
   by_cases h0':e=0
   ·subst h0'
    have e1:Res.fin ⟨S',v,0⟩ i=⟨S',v,0⟩:=by unfold Res.fin;rw[if_neg (by rw[ha];simp),if_pos rfl]
    rw[e1];exact deed_ok g caps h0 hk hx hl eg (qh y) (qm y) S' v hdo
   ·have e1:Res.fin ⟨S',v,e⟩ i=⟨S',0,e⟩:=by unfold Res.fin;rw[if_neg (by rw[ha];simp),if_neg h0']
    rw[e1];exact deed_err g caps h0 hk hx hl eg (qh y) (qm y) S' v e h0' hne.1 hne.2.1 hne.2.2 hdo
theorem qhx (p j:Nat)(ef v er:Int)(S1 S2:Stt)
  (fields:Calls Tryz.prog 136 #[ptr y.sb,ptr (y.xb i),.int .i64 p] w fun e w'=>e=.returned (.int .i64 ef)∧Lft y S1 o w w')
  (get:∀ w1 o1,StIn w1 o1 y S1→Calls Tryz.prog 76 #[ptr y.l.h,.int .i64 p,.int .i64 j] w1 fun e w'=>e=.returned (.tuple #[.int .i64 v,.int .i64 er])∧Lft y S2 o1 w1 w')
  {b1 b2 b3 b4:Nat}(j1:Blk w b1 #[ptr y.sb] 24)(j2:Blk w b2 #[.int .i64 p] 3)(j3:Blk w b3 #[.func (.func 76) #[] #[]] 123)(j4:Blk w b4 #[.int .i64 j] 3)
  (t1:o b1=(y.l.id+1,0))(t2:o b2=(y.l.id+1,0))(t3:o b3=(y.l.id+1,0))(t4:o b4=(y.l.id+1,0))(R:Res)(r1:ef≠0→R=⟨S1,0,ef⟩)(r2:ef=0→R=⟨S2,v,er⟩) :
  Calls Tryz.prog 135 #[ptr (y.xb i),ptr b1,ptr b2,ptr b3,ptr b4] w fun e w'=>e=.returned (.tuple #[.int .i64 R.v,.int .i64 R.e])∧Lft y R.S o w w':=by
 have HF:=Lib.hid fields;have HG:=Lib.hid get;have HB:=Lib.hid (qm y);have c1:=j1.cell;have c2:=j2.cell;have H1:=Lib.hid r1;have H2:=Lib.hid r2;clear fields get r1 r2;by_cases he:ef=0
 ·have H3:=Lib.hid (H2.out he)
  clear H1 H2;subst he;rw[H3.out];clear H3;go_enter Tryz.func135,Tryz.ntmps135;go_wp2_with fail;refine HF.out.mono ?_
  rintro e w1 ⟨rfl,o1,hS1,hs1⟩
  have k1:=j1.stp hs1 (by rw[t1];exact HB.out)
  have k2:=j2.stp hs1 (by rw[t2];exact HB.out)
  have k3:=j3.stp hs1 (by rw[t3];exact HB.out)
  have k4:=j4.stp hs1 (by rw[t4];exact HB.out)
  obtain⟨vq,vl,vm,jb,_⟩:=hS1.blk;unfold qk at jb;have l1:=j1.lt;have l2:=j2.lt;have l3:=j3.lt;have l4:=j4.lt;clear c1 c2 j1 j2 j3 j4;have HG2:=Lib.hid (HG.out w1.drew o1 (hS1.below (qe (qc w1))));have HS:=Lib.hid hs1;have u1:o1 b1=(y.l.id+1,0):=(hs1.tags _ l1).trans t1;have u2:o1 b2=(y.l.id+1,0):=(hs1.tags _ l2).trans t2;have u3:o1 b3=(y.l.id+1,0):=(hs1.tags _ l3).trans t3;have u4:o1 b4=(y.l.id+1,0):=(hs1.tags _ l4).trans t4;have HKc:=Lib.hid (fun (w2:World)(o2:Own)(hs2:Stp (qh y) o1 o2 w1.drew w2) =>
   show w2.cell? ⟨b1,0,none⟩=some (ptr y.sb)∧w2.cell? ⟨b2,0,none⟩=some (.int .i64 p)∧w2.cell? ⟨b3,0,none⟩=some (.func (.func 76) #[] #[])∧w2.cell? ⟨b4,0,none⟩=some (.int .i64 j) from
    ⟨((qi k1).stp hs2 (by rw[u1];exact HB.out)).cell 0,((qi k2).stp hs2 (by rw[u2];exact HB.out)).cell 0,((qi k3).stp hs2 (by rw[u3];exact HB.out)).cell 0,((qi k4).stp hs2 (by rw[u4];exact HB.out)).cell 0⟩)
  have HSb:=Lib.hid (fun (w2:World)(o2:Own)(h2:StIn w2 o2 y S2)=>show w2.cell? ⟨y.sb,0,none⟩=some (ptr y.l.h) from by
   obtain⟨_,_,_,jb2,_⟩:=h2.blk;exact jb2.cell 0)
  clear hS1 hs1 HG u1 u2 u3 u4 l1 l2 l3 l4 t1 t2 t3 t4;have c1:w1.cell? ⟨b1,0,none⟩=some (ptr y.sb):=k1.cell 0;have c2:w1.cell? ⟨b2,0,none⟩=some (.int .i64 p):=k2.cell 0;have c3:w1.cell? ⟨b3,0,none⟩=some (.func (.func 76) #[] #[]):=k3.cell 0;have c4:w1.cell? ⟨b4,0,none⟩=some (.int .i64 j):=k4.cell 0;have cb:w1.cell? ⟨y.sb,0,none⟩=some (ptr y.l.h):=jb.cell 0;clear k1 k2 k3 k4 jb;go_upto_region 4 with fail;go_region_held3 (fun w'=>w'.cell? ⟨b1,0,none⟩=some (ptr y.sb)∧w'.cell? ⟨b2,0,none⟩=some (.int .i64 p)∧w'.cell? ⟨b3,0,none⟩=some (.func (.func 76) #[] #[])∧w'.cell? ⟨b4,0,none⟩=some (.int .i64 j)∧w'.cell? ⟨y.sb,0,none⟩=some (ptr y.l.h))(first|exact⟨by assumption,by assumption,by assumption,by assumption,by assumption⟩|go_keep)(first
   | (go_at_call 76;refine HG2.out.mono ?_;rintro e w2 ⟨rfl,o2,hS2,hs2⟩;obtain⟨d1,d2,d3,d4⟩:=HKc.out _ _ hs2;have db:=HSb.out _ _ hS2)
   | fail)
  go_wp2_with fail;go_ret2;exact⟨rfl,o2,hS2,HS.out.trans ((Stp.of_below (qe (qc w1))).trans hs2)⟩
 ·have H3:=Lib.hid (H1.out he)
  have hb:(ef != 0)=true:=by rw[bne_iff_ne];exact he
  have hb2:(ef==0)=false:=by rw[beq_eq_false_iff_ne];exact he
  clear H1 H2;rw[H3.out];clear H3;go_enter Tryz.func135,Tryz.ntmps135;go_wp2_with fail;refine HF.out.mono ?_
  rintro e w1 ⟨rfl,o1,hS1,hs1⟩
  go_wp2_with fail;go_ret2;exact⟨rfl,o1,hS1,hs1⟩
theorem qjz (p j:Nat)(ef v er:Int)(S1 S2:Stt)
  (fields:Calls Tryz.prog 136 #[ptr y.sb,ptr (y.xb i),.int .i64 p] w fun e w'=>e=.returned (.int .i64 ef)∧Lft y S1 o w w')
  (get:∀ w1 o1,StIn w1 o1 y S1→Calls Tryz.prog 112 #[ptr y.l.h,.int .i64 p,.int .i64 j] w1 fun e w'=>e=.returned (.tuple #[.int .i64 v,.int .i64 er])∧Lft y S2 o1 w1 w')
  {b1 b2 b3 b4:Nat}(j1:Blk w b1 #[ptr y.sb] 24)(j2:Blk w b2 #[.int .i64 p] 3)(j3:Blk w b3 #[.func (.func 112) #[] #[]] 123)(j4:Blk w b4 #[.int .i64 j] 3)
  (t1:o b1=(y.l.id+1,0))(t2:o b2=(y.l.id+1,0))(t3:o b3=(y.l.id+1,0))(t4:o b4=(y.l.id+1,0))(R:Res)(r1:ef≠0→R=⟨S1,0,ef⟩)(r2:ef=0→R=⟨S2,v,er⟩) :
  Calls Tryz.prog 135 #[ptr (y.xb i),ptr b1,ptr b2,ptr b3,ptr b4] w fun e w'=>e=.returned (.tuple #[.int .i64 R.v,.int .i64 R.e])∧Lft y R.S o w w':=by
 have HF:=Lib.hid fields;have HG:=Lib.hid get;have HB:=Lib.hid (qm y);have c1:=j1.cell;have c2:=j2.cell;have H1:=Lib.hid r1;have H2:=Lib.hid r2;clear fields get r1 r2;by_cases he:ef=0
 ·have H3:=Lib.hid (H2.out he)
  clear H1 H2;subst he;rw[H3.out];clear H3;go_enter Tryz.func135,Tryz.ntmps135;go_wp2_with fail;refine HF.out.mono ?_
  rintro e w1 ⟨rfl,o1,hS1,hs1⟩
  have k1:=j1.stp hs1 (by rw[t1];exact HB.out)
  have k2:=j2.stp hs1 (by rw[t2];exact HB.out)
  have k3:=j3.stp hs1 (by rw[t3];exact HB.out)
  have k4:=j4.stp hs1 (by rw[t4];exact HB.out)
  obtain⟨vq,vl,vm,jb,_⟩:=hS1.blk;unfold qk at jb;have l1:=j1.lt;have l2:=j2.lt;have l3:=j3.lt;have l4:=j4.lt;clear c1 c2 j1 j2 j3 j4;have HG2:=Lib.hid (HG.out w1.drew o1 (hS1.below (qe (qc w1))));have HS:=Lib.hid hs1;have u1:o1 b1=(y.l.id+1,0):=(hs1.tags _ l1).trans t1;have u2:o1 b2=(y.l.id+1,0):=(hs1.tags _ l2).trans t2;have u3:o1 b3=(y.l.id+1,0):=(hs1.tags _ l3).trans t3;have u4:o1 b4=(y.l.id+1,0):=(hs1.tags _ l4).trans t4;have HKc:=Lib.hid (fun (w2:World)(o2:Own)(hs2:Stp (qh y) o1 o2 w1.drew w2) =>
   show w2.cell? ⟨b1,0,none⟩=some (ptr y.sb)∧w2.cell? ⟨b2,0,none⟩=some (.int .i64 p)∧w2.cell? ⟨b3,0,none⟩=some (.func (.func 112) #[] #[])∧w2.cell? ⟨b4,0,none⟩=some (.int .i64 j) from
    ⟨((qi k1).stp hs2 (by rw[u1];exact HB.out)).cell 0,((qi k2).stp hs2 (by rw[u2];exact HB.out)).cell 0,((qi k3).stp hs2 (by rw[u3];exact HB.out)).cell 0,((qi k4).stp hs2 (by rw[u4];exact HB.out)).cell 0⟩)
  have HSb:=Lib.hid (fun (w2:World)(o2:Own)(h2:StIn w2 o2 y S2)=>show w2.cell? ⟨y.sb,0,none⟩=some (ptr y.l.h) from by
   obtain⟨_,_,_,jb2,_⟩:=h2.blk;exact jb2.cell 0)
  clear hS1 hs1 HG u1 u2 u3 u4 l1 l2 l3 l4 t1 t2 t3 t4;have c1:w1.cell? ⟨b1,0,none⟩=some (ptr y.sb):=k1.cell 0;have c2:w1.cell? ⟨b2,0,none⟩=some (.int .i64 p):=k2.cell 0;have c3:w1.cell? ⟨b3,0,none⟩=some (.func (.func 112) #[] #[]):=k3.cell 0;have c4:w1.cell? ⟨b4,0,none⟩=some (.int .i64 j):=k4.cell 0;have cb:w1.cell? ⟨y.sb,0,none⟩=some (ptr y.l.h):=jb.cell 0;clear k1 k2 k3 k4 jb;go_upto_region 4 with fail;go_region_held3 (fun w'=>w'.cell? ⟨b1,0,none⟩=some (ptr y.sb)∧w'.cell? ⟨b2,0,none⟩=some (.int .i64 p)∧w'.cell? ⟨b3,0,none⟩=some (.func (.func 112) #[] #[])∧w'.cell? ⟨b4,0,none⟩=some (.int .i64 j)∧w'.cell? ⟨y.sb,0,none⟩=some (ptr y.l.h))(first|exact⟨by assumption,by assumption,by assumption,by assumption,by assumption⟩|go_keep)(first
   | (go_at_call 112;refine HG2.out.mono ?_;rintro e w2 ⟨rfl,o2,hS2,hs2⟩;obtain⟨d1,d2,d3,d4⟩:=HKc.out _ _ hs2;have db:=HSb.out _ _ hS2)
   | fail)
  go_wp2_with fail;go_ret2;exact⟨rfl,o2,hS2,HS.out.trans ((Stp.of_below (qe (qc w1))).trans hs2)⟩
 ·have H3:=Lib.hid (H1.out he)
  have hb:(ef != 0)=true:=by rw[bne_iff_ne];exact he
  have hb2:(ef==0)=false:=by rw[beq_eq_false_iff_ne];exact he
  clear H1 H2;rw[H3.out];clear H3;go_enter Tryz.func135,Tryz.ntmps135;go_wp2_with fail;refine HF.out.mono ?_
  rintro e w1 ⟨rfl,o1,hS1,hs1⟩
  go_wp2_with fail;go_ret2;exact⟨rfl,o1,hS1,hs1⟩
theorem qdu (args:Array Value)(w:World):(callFunc 135 args).run Tryz.prog w=.ok (.enter 135 args) w:=enters_of Tryz.func135 (by kernel_rfl) rfl args w
theorem eg_hnum (args:Array Value)(w:World):(callFunc 76 args).run Tryz.prog w=.ok (.enter 76 args) w:=enters_of Tryz.func76 (by kernel_rfl) rfl args w
theorem eg_hptr (args:Array Value)(w:World):(callFunc 112 args).run Tryz.prog w=.ok (.enter 112 args) w:=enters_of Tryz.func112 (by kernel_rfl) rfl args w
theorem qht (h0:StIn w o y S)(hk:S.ok)(hi:i<S.txs.length)(p j:Nat)(v er:Int)(S2:Stt)(R:Res)
  (get:∀ w1 o1,StIn w1 o1 y (S.fieldsR i p).1→Calls Tryz.prog 76 #[ptr y.l.h,.int .i64 p,.int .i64 j] w1 fun e w'=>e=.returned (.tuple #[.int .i64 v,.int .i64 er])∧Lft y S2 o1 w1 w')
  (hG:Good S.txs.length R)(r1:(S.fieldsR i p).2≠0→R=⟨(S.fieldsR i p).1,0,(S.fieldsR i p).2⟩)(r2:(S.fieldsR i p).2=0→R=⟨S2,v,er⟩) :
  Calls Tryz.prog 75 #[ptr y.sb,.int .i64 i,.int .i64 p,.int .i64 j,.func (.func 76) #[] #[]] w fun e w'=>e=.returned (.tuple #[.int .i64 (S.deedR i R).v,.int .i64 (S.deedR i R).e])∧Lft y (S.deedR i R).S o w w':=by
 have hmf:∀ (fn:Fn)(first cap:Array Value)(w:World),(Instr.makeFunc fn first cap).run Tryz.prog w=.ok (.func fn first cap) w:=fun _ _ _ _=>rfl
 obtain⟨o1,ho1⟩:∃ o1,o1=ext o w.heap.size (y.l.id+1,0):=⟨_,rfl⟩;have h:=h0.retag (o':=o1) fun b hb=>by rw[ho1];exact qj hb
 have hS0:Stp (qh y) o o1 w w:=by rw[ho1];exact (Stp.refl _ o w).ext _ _ (Nat.le_refl _)
 have hbx:∀ b,w.heap.size≤b→o1 b=(y.l.id+1,0):=fun b hb=>by rw[ho1];exact qp hb
 clear ho1 h0;obtain⟨W,hW⟩:∃ W:World,W=(((w.alloc (.cells #[ptr y.sb] 24)).alloc (.cells #[.int .i64 p] 3)).alloc (.cells #[.int .i64 j] 3)).alloc (.cells #[.func (.func 76) #[] #[]] 123):=⟨_,rfl⟩;have hbW:Below w.heap.size w W:=by rw[hW];exact qa (qa (qa (qa (qc w) _) _) _) _
 have j1:Blk W w.heap.size #[ptr y.sb] 24:=by rw[hW];exact (((Blk.new w _ _).alloc _).alloc _).alloc _
 have j2:Blk W (w.heap.size+1) #[.int .i64 p] 3:=by rw[hW];exact ((Blk.new_at _ _ _ _ _ (by simp) rfl).alloc _).alloc _
 have j4:Blk W (w.heap.size+1+1) #[.int .i64 j] 3:=by rw[hW];exact (Blk.new_at _ _ _ _ _ (by simp) rfl).alloc _
 have j3:Blk W (w.heap.size+1+1+1) #[.func (.func 76) #[] #[]] 123:=by rw[hW];exact Blk.new_at _ _ _ _ _ (by simp) rfl
 have HD:=Lib.hid (vx 135 [ptr w.heap.size,ptr (w.heap.size+1),ptr (w.heap.size+1+1+1),ptr (w.heap.size+1+1)] (h.below hbW) hk hi qdu R (fun _=>hG)
  (fun _ w1 o2 hb he2 hS=>qhx p j _ v er _ S2 (pj hS hk hi p) get (j1.below hb j1.lt) (j2.below hb j2.lt) (j3.below hb j3.lt) (j4.below hb j4.lt)
   ((he2 _ j1.lt).trans (hbx _ (by omega))) ((he2 _ j2.lt).trans (hbx _ (by omega))) ((he2 _ j3.lt).trans (hbx _ (by omega))) ((he2 _ j4.lt).trans (hbx _ (by omega))) R r1 r2))
 have HS:=Lib.hid (hS0.trans (Stp.of_below hbW));generalize S.deedR i R=R' at *;clear h hk hi get hG r1 r2 hbx hS0 hbW j1 j2 j3 j4;go_enter Tryz.func75,Tryz.ntmps75;go_wp2_with fail;rw[←hW];refine HD.out.mono ?_
 rintro e w2⟨rfl,o2,hS2,hs2⟩
 go_wp2_with fail;go_ret2;exact⟨rfl,o2,hS2,HS.out.trans hs2⟩
theorem qia (h0:StIn w o y S)(hk:S.ok)(hi:i<S.txs.length)(p j:Nat)(v er:Int)(S2:Stt)(R:Res)
  (get:∀ w1 o1,StIn w1 o1 y (S.fieldsR i p).1→Calls Tryz.prog 112 #[ptr y.l.h,.int .i64 p,.int .i64 j] w1 fun e w'=>e=.returned (.tuple #[.int .i64 v,.int .i64 er])∧Lft y S2 o1 w1 w')
  (hG:Good S.txs.length R)(r1:(S.fieldsR i p).2≠0→R=⟨(S.fieldsR i p).1,0,(S.fieldsR i p).2⟩)(r2:(S.fieldsR i p).2=0→R=⟨S2,v,er⟩) :
  Calls Tryz.prog 75 #[ptr y.sb,.int .i64 i,.int .i64 p,.int .i64 j,.func (.func 112) #[] #[]] w fun e w'=>e=.returned (.tuple #[.int .i64 (S.deedR i R).v,.int .i64 (S.deedR i R).e])∧Lft y (S.deedR i R).S o w w':=by
 have hmf:∀ (fn:Fn)(first cap:Array Value)(w:World),(Instr.makeFunc fn first cap).run Tryz.prog w=.ok (.func fn first cap) w:=fun _ _ _ _=>rfl
 obtain⟨o1,ho1⟩:∃ o1,o1=ext o w.heap.size (y.l.id+1,0):=⟨_,rfl⟩;have h:=h0.retag (o':=o1) fun b hb=>by rw[ho1];exact qj hb
 have hS0:Stp (qh y) o o1 w w:=by rw[ho1];exact (Stp.refl _ o w).ext _ _ (Nat.le_refl _)
 have hbx:∀ b,w.heap.size≤b→o1 b=(y.l.id+1,0):=fun b hb=>by rw[ho1];exact qp hb
 clear ho1 h0;obtain⟨W,hW⟩:∃ W:World,W=(((w.alloc (.cells #[ptr y.sb] 24)).alloc (.cells #[.int .i64 p] 3)).alloc (.cells #[.int .i64 j] 3)).alloc (.cells #[.func (.func 112) #[] #[]] 123):=⟨_,rfl⟩;have hbW:Below w.heap.size w W:=by rw[hW];exact qa (qa (qa (qa (qc w) _) _) _) _
 have j1:Blk W w.heap.size #[ptr y.sb] 24:=by rw[hW];exact (((Blk.new w _ _).alloc _).alloc _).alloc _
 have j2:Blk W (w.heap.size+1) #[.int .i64 p] 3:=by rw[hW];exact ((Blk.new_at _ _ _ _ _ (by simp) rfl).alloc _).alloc _
 have j4:Blk W (w.heap.size+1+1) #[.int .i64 j] 3:=by rw[hW];exact (Blk.new_at _ _ _ _ _ (by simp) rfl).alloc _
 have j3:Blk W (w.heap.size+1+1+1) #[.func (.func 112) #[] #[]] 123:=by rw[hW];exact Blk.new_at _ _ _ _ _ (by simp) rfl
 have HD:=Lib.hid (vx 135 [ptr w.heap.size,ptr (w.heap.size+1),ptr (w.heap.size+1+1+1),ptr (w.heap.size+1+1)] (h.below hbW) hk hi qdu R (fun _=>hG)
  (fun _ w1 o2 hb he2 hS=>qjz p j _ v er _ S2 (pj hS hk hi p) get (j1.below hb j1.lt) (j2.below hb j2.lt) (j3.below hb j3.lt) (j4.below hb j4.lt)
   ((he2 _ j1.lt).trans (hbx _ (by omega))) ((he2 _ j2.lt).trans (hbx _ (by omega))) ((he2 _ j3.lt).trans (hbx _ (by omega))) ((he2 _ j4.lt).trans (hbx _ (by omega))) R r1 r2))
 have HS:=Lib.hid (hS0.trans (Stp.of_below hbW));generalize S.deedR i R=R' at *;clear h hk hi get hG r1 r2 hbx hS0 hbW j1 j2 j3 j4;go_enter Tryz.func75,Tryz.ntmps75;go_wp2_with fail;rw[←hW];refine HD.out.mono ?_
 rintro e w2⟨rfl,o2,hS2,hs2⟩
 go_wp2_with fail;go_ret2;exact⟨rfl,o2,hS2,HS.out.trans hs2⟩
def Stt.read (S:Stt)(i p j:Nat):Res:=S.deedR i (S.readR i p j)
def Stt.get (S:Stt)(i p j:Nat):Res:=S.deedR i (S.getR i p j)
theorem qmi (h:StIn w o y S)(hk:S.ok)(hi:i<S.txs.length)(p j:Nat) :
  Calls Tryz.prog 24 #[ptr y.sb,.int .i64 i,.int .i64 p,.int .i64 j] w fun e w'=>e=.returned (.tuple #[.int .i64 (S.read i p j).v,.int .i64 (S.read i p j).e])∧Lft y (S.read i p j).S o w w':=by
 have hf:=Stt.ok_fields hk hi p;have HF:=Lib.hid (qht h hk hi p j ((S.fieldsR i p).1.H.numR p j).1 ((S.fieldsR i p).1.H.numR p j).2 (S.fieldsR i p).1 (S.readR i p j)
  (fun w1 o1 h1=>(s_num h1 hf p j).mono fun _ _⟨a,b⟩=>⟨a,h1.lft b⟩) (bp hk hi p j) (fun he=>by unfold Stt.readR;rw[if_pos he]) (fun he=>by unfold Stt.readR;rw[if_neg (by simpa using he)]))
 unfold Stt.read;generalize S.deedR i (S.readR i p j)=R at *;clear h hk hi hf;go_enter Tryz.func24,Tryz.ntmps24;go_wp2_with fail;refine HF.out.mono ?_
 rintro e w2⟨rfl,h2⟩
 go_wp2_with fail;go_ret2;exact⟨rfl,h2⟩
theorem sget_any (h:StIn w o y S)(hk:S.ok)(hi:i<S.txs.length)(p j:Nat) :
  Calls Tryz.prog 57 #[ptr y.sb,.int .i64 i,.int .i64 p,.int .i64 j] w fun e w'=>e=.returned (.tuple #[.int .i64 (S.get i p j).v,.int .i64 (S.get i p j).e])∧Lft y (S.get i p j).S o w w':=by
 have hf:=Stt.ok_fields hk hi p;have HF:=Lib.hid (qia h hk hi p j ((S.fieldsR i p).1.H.ptrR p j).2.1 ((S.fieldsR i p).1.H.ptrR p j).2.2 ((S.fieldsR i p).1.h ((S.fieldsR i p).1.H.ptrR p j).1) (S.getR i p j)
  (fun w1 o1 h1=>s_ptr h1 hf p j) (lj hk hi p j) (fun he=>by unfold Stt.getR;rw[if_pos he]) (fun he=>by unfold Stt.getR;rw[if_neg (by simpa using he)]))
 unfold Stt.get;generalize S.deedR i (S.getR i p j)=R at *;clear h hk hi hf;go_enter Tryz.func57,Tryz.ntmps57;go_wp2_with fail;refine HF.out.mono ?_
 rintro e w2⟨rfl,h2⟩
 go_wp2_with fail;go_ret2;exact⟨rfl,h2⟩
end
section
variable {w w' : World} {o o' : Own} {y : SLay} {S : Stt} {i : Nat}
theorem qfq (h:StIn w o y S)(hk:S.ok)(hi:i<S.txs.length)(p v:Nat)(hn:(S.holdLR i p v).2=false) :
  Calls Tryz.prog 168 #[ptr (y.lb i),.agg #[.int .i64 p,.int .i64 v]] w fun e w'=>e=.returned (.bool false)∧Below w.heap.size w w':=by
 obtain⟨vr,vk,vh,vu,hl⟩:=(h.txs i _ (Stt.t_get hi)).log;unfold Stt.holdLR at hn;by_cases hd:∀ z ∈ (S.t i).log.holds,z.1≠p
 ·by_cases hm:(S.t i).log.holds.length<(S.t i).log.mu
  ·have e1:xi (S.t i).log p=true:=by unfold xi;simp only[Bool.and_eq_true,decide_eq_true_eq];exact⟨hd,hm⟩
   rw[if_pos e1]at hn;cases hn
  ·exact di hl (hk.lgt hi).ok p v hd (by omega)
 ·exact tq hl (hk.lgt hi).ok p v hd
theorem tt {S:Stt}{i p:Nat}(hn:(S.holdR i p).2=false):¬S.H.sec p%2=1∧(S.holdLR i p (S.H.sec p/2)).2=false∧(S.holdR i p).1=S:=by
 unfold Stt.holdR at hn ⊢;split at hn
 ·cases hn
 ·rename_i h1
  rw[if_neg h1];split at hn
  ·cases hn
  ·rename_i h2
   rw[if_neg h2];exact⟨h1,by simpa using h2,rfl⟩
theorem qf2 (h:StIn w o y S)(hk:S.ok)(hi:i<S.txs.length)(p:Nat)(hn:(S.holdR i p).2=false) :
  Calls Tryz.prog 119 #[ptr y.sb,ptr (y.xb i),.int .i64 p] w fun e w'=>e=.returned (.bool false)∧Below w.heap.size w w':=by
 obtain⟨hod,hno,_⟩:=tt hn;have HC:=Lib.hid (qcl h hk p);obtain⟨hs,hv⟩:=hk.sec p;have HO:=(fun w=>qak (S.H.sec p) hv hs w)
 obtain⟨vq,vl,vm,hb,_⟩:=h.blk;unfold qk at hb;have c:=hb.cell;obtain⟨vt,jx,_⟩:=(h.txs i _ (Stt.t_get hi)).blk;unfold zd at jx;have HL:=Lib.hid (fun w' (hw:Below w.heap.size w w')=>qfq (h.below hw) hk hi p (S.H.sec p/2) hno)
 rw[if_neg hod,if_neg hod,decide_eq_false hod]at HO;replace HO:=Lib.hid HO;generalize S.H.sec p/2=v2 at *;generalize S.H.sec p=v at *;clear h hk hi hs hv hod hn hno;go_enter Tryz.func119,Tryz.ntmps119;go_wp2_with fail;refine HC.out.mono ?_
 rintro e w1⟨er,rfl,hb1⟩
 have cx:=(jx.below hb1 jx.lt).cell;go_wp2_with fail;refine (HO.out _).mono ?_
 rintro e w2⟨rfl,rfl⟩
 go_wp2_with fail;refine (HL.out _ hb1).mono ?_
 rintro e w2⟨rfl,hb2⟩
 go_wp2_with fail;go_ret;exact⟨rfl,qd hb1 hb2⟩
structure ChgR (ef eg se:Int)(hb ub:Bool)(S1 S2 S3 S4 S5:Stt)(R:Res):Prop where
 r1:ef≠0→R.S=S1∧R.e=ef
 r2:ef=0→eg≠0→R.S=S2∧R.e=eg
 r3:ef=0→eg=0→hb=false→R.S=S3∧R.e=130
 r4:ef=0→eg=0→hb=true→ub=false→R.S=S4∧R.e=130
 r5:ef=0→eg=0→hb=true→ub=true→R.S=S5∧R.e=se
theorem qa1 (gf sf:Nat)(egf:∀ args w,(callFunc gf args).run Tryz.prog w=.ok (.enter gf args) w)(esf:∀ args w,(callFunc sf args).run Tryz.prog w=.ok (.enter sf args) w)
  (kd p j:Nat)(v old ef eg se:Int)(hb ub:Bool)(S1 S2 S3 S4 S5:Stt)(R:Res)(hR:ChgR ef eg se hb ub S1 S2 S3 S4 S5 R)(h:StIn w o y S)(hx3:i<S3.txs.length)
  (fields:∀ w1 o1,StIn w1 o1 y S→Calls Tryz.prog 136 #[ptr y.sb,ptr (y.xb i),.int .i64 p] w1 fun e w'=>e=.returned (.int .i64 ef)∧Lft y S1 o1 w1 w')
  (get:∀ w1 o1,StIn w1 o1 y S1→Calls Tryz.prog gf #[ptr y.l.h,.int .i64 p,.int .i64 j] w1 fun e w'=>e=.returned (.tuple #[.int .i64 old,.int .i64 eg])∧Lft y S2 o1 w1 w')
  (hold:∀ w1 o1,StIn w1 o1 y S2→Calls Tryz.prog 119 #[ptr y.sb,ptr (y.xb i),.int .i64 p] w1 fun e w'=>e=.returned (.bool hb)∧Lft y S3 o1 w1 w')
  (hno:hb=false→S3=S2∧∀ w1 o1,StIn w1 o1 y S2→Calls Tryz.prog 119 #[ptr y.sb,ptr (y.xb i),.int .i64 p] w1 fun e w'=>e=.returned (.bool false)∧Below w1.heap.size w1 w')
  (undo:∀ w1 o1,StIn w1 o1 y S3→Calls Tryz.prog 120 #[ptr (y.lb i),.agg #[.int .i64 kd,.int .i64 p,.int .i64 j,.int .i64 old]] w1 fun e w'=>e=.returned (.bool ub)∧Lft y S4 o1 w1 w')
  (set:∀ w1 o1,StIn w1 o1 y S4→Calls Tryz.prog sf #[ptr y.l.h,.int .i64 p,.int .i64 j,.int .i64 v] w1 fun e w'=>e=.returned (.int .i64 se)∧Lft y S5 o1 w1 w') :
  Calls Tryz.prog 109 #[ptr y.sb,ptr (y.xb i),.agg #[.int .i64 kd,.int .i64 p,.int .i64 j,.int .i64 0],.func (.func gf) #[ptr y.l.h] #[],.func (.func sf) #[ptr y.l.h] #[],.int .i64 v] w
   fun e w'=>e=.returned (.int .i64 R.e)∧Lft y R.S o w w':=by
 obtain⟨o1,ho1⟩:∃ o1,o1=ext o w.heap.size (y.l.id+1,0):=⟨_,rfl⟩;have hr:=h.retag (o':=o1) fun b hb=>by rw[ho1];exact qj hb
 have hS0:Stp (qh y) o o1 w w:=by rw[ho1];exact (Stp.refl _ o w).ext _ _ (Nat.le_refl _)
 have hbx:o1 w.heap.size=(y.l.id+1,0):=by rw[ho1];exact qp (Nat.le_refl _)
 clear ho1 h;obtain⟨RS,Rv,Re⟩:=R;have HRR:=Lib.hid hR;have HF:=Lib.hid (fun w' (hw:Below w.heap.size w w')=>fields w' o1 (hr.below hw))
 have HG:=Lib.hid get;have HH:=Lib.hid hold;have HN:=Lib.hid hno;have HU:=Lib.hid undo;have HS:=Lib.hid set;have HB:=Lib.hid (qm y);have H0:=Lib.hid hS0;have hX2:=Lib.hid (fun w' o' (hS:StIn w' o' y S3)=>(hS.txs i _ (Stt.t_get hx3)).blk)
 have jU:=Blk.new w #[.int .i64 kd,.int .i64 p,.int .i64 j,.int .i64 0] 175;clear fields get hold hno undo set hr hS0 hx3 hR;go_enter Tryz.func109,Tryz.ntmps109;have cU:=jU.cell;go_wp2_with fail;refine (HF.out _ (qa (qc w) _)).mono ?_
 rintro e w1 ⟨rfl,o2,hS1,hs1⟩
 have jU1:=jU.stp hs1 (by rw[hbx];exact HB.out)
 have tU1:o2 w.heap.size=(y.l.id+1,0):=(hs1.tags _ jU.lt).trans hbx;have H1:=Lib.hid (H0.out.trans ((Stp.of_below (qa (qc w) _)).trans hs1));clear cU hs1 jU hbx;by_cases he:ef=0
 ·subst he
  have cU:=jU1.cell;go_wp2_with fail;refine (HG.out _ o2 hS1).mono ?_
  rintro e w2 ⟨rfl,o3,hS2,hs2⟩
  have jU2:=jU1.stp hs2 (by rw[tU1];exact HB.out)
  have tU2:o3 w.heap.size=(y.l.id+1,0):=(hs2.tags _ jU1.lt).trans tU1;have H2:=Lib.hid (H1.out.trans hs2);clear cU hs2 jU1 tU1 hS1;by_cases he2:eg=0
  ·subst he2
   have cU:=jU2.cell;have zU:=jU2.free;have sU:=jU2.lt;go_upto_region 8 with fail;obtain⟨W,hW⟩:∃ W:World,W=w2.setCell ⟨w.heap.size,3,none⟩ (.int .i64 old):=⟨_,rfl⟩;rw[←hW];have jW:Blk W w.heap.size #[.int .i64 kd,.int .i64 p,.int .i64 j,.int .i64 old] 175:=by rw[hW];exact jU2.set 3 _
   have hSW:StIn W o3 y S2:=by rw[hW];exact hS2.box tU2 _
   have hs2:Stp (qh y) o o3 w W:=by rw[hW];exact H2.out.setCell_new (Nat.le_refl _) _
   clear hW cU zU sU jU2 hS2 H2;have cW:=jW.cell;have hSW2:=Lib.hid (hSW.below (qe (qc W)))
   cases hb with
   | false =>
    have e1:=(HRR.out.r3 rfl rfl rfl);simp only at e1;obtain⟨rfl,rfl⟩:=e1;obtain⟨rfl,hn9⟩:=HN.out rfl;have HN2:=Lib.hid (fun (e:Later W)=>hn9 e.1 o3 (hSW.below e.2))
    have HSW:=Lib.hid hSW;have l1:=fun (e:Later W)(i:Nat)=>Later.cell jW e i
    clear cW hSW2 hn9 HH HU HS HG HF hX2 hSW;refine qy (by kernel_rfl) (by kernel_rfl) ?_
    repeat (go_big_quiet_step ((go_at_call 119;exact kj (HN2.out _))))
    refine wpQuiet_nil ?_;intro w8 hW0;obtain⟨⟨W9,hb9⟩,hwt⟩:=hW0;have hwt:w8=W9:=hwt;subst hwt;go_wp2_with fail;go_ret;exact⟨rfl,o3,HSW.out.below hb9,hs2.trans (Stp.of_below hb9)⟩
   | true =>
    clear hSW
    cases ub with
    | false =>
     have e1:=(HRR.out.r4 rfl rfl rfl rfl);simp only at e1;obtain⟨rfl,rfl⟩:=e1;go_region_with (first
      | (go_at_call 119;refine (HH.out _ o3 hSW2.out).mono ?_;rintro e w3 ⟨rfl,o4,hS3,hs3⟩;have m1:=(qi jW).stp hs3 (by rw[tU2];exact HB.out);have d1:=m1.cell;obtain⟨vt3,jx3,_⟩:=hX2.out _ _ hS3;unfold zd at jx3;have dx:=jx3.cell)
      | (go_at_call 120;refine (HU.out _ o4 hS3).mono ?_;rintro e w4 ⟨rfl,o5,hS4,hs4⟩)
      | fail)
     all_goals
      go_wp2_with fail;go_ret;exact⟨rfl,o5,hS4,((hs2.trans (Stp.of_below (qe (qc W)))).trans hs3).trans hs4⟩
    | true =>
     have e1:=(HRR.out.r5 rfl rfl rfl rfl);simp only at e1;obtain⟨rfl,rfl⟩:=e1;go_region_with (first
      | (go_at_call 119;refine (HH.out _ o3 hSW2.out).mono ?_;rintro e w3 ⟨rfl,o4,hS3,hs3⟩;have m1:=(qi jW).stp hs3 (by rw[tU2];exact HB.out);have d1:=m1.cell;obtain⟨vt3,jx3,_⟩:=hX2.out _ _ hS3;unfold zd at jx3;have dx:=jx3.cell)
      | (go_at_call 120;refine (HU.out _ o4 hS3).mono ?_;rintro e w4 ⟨rfl,o5,hS4,hs4⟩)
      | fail)
     all_goals
      have n1:=m1.stp hs4 (by rw[(hs3.tags _ (qi jW).lt).trans tU2];exact HB.out)
      clear d1 dx cW;have d1:=n1.cell;go_wp2_with fail;refine (HS.out _ o5 hS4).mono ?_
      rintro e w5 ⟨rfl,o6,hS5,hs5⟩
      go_wp2_with fail;go_ret;exact⟨rfl,o6,hS5,(((hs2.trans (Stp.of_below (qe (qc W)))).trans hs3).trans hs4).trans hs5⟩
  ·have e1:=(HRR.out.r2 rfl he2)
   simp only at e1;obtain⟨rfl,rfl⟩:=e1;have hbb:(Re != 0)=true:=by rw[bne_iff_ne];exact he2
   have hb2:(Re==0)=false:=by rw[beq_eq_false_iff_ne];exact he2
   clear he2;go_wp2_with fail;go_ret;exact⟨rfl,o3,hS2,H2.out⟩
 ·have e1:=(HRR.out.r1 he)
  simp only at e1;obtain⟨rfl,rfl⟩:=e1;have hbb:(Re != 0)=true:=by rw[bne_iff_ne];exact he
  have hb2:(Re==0)=false:=by rw[beq_eq_false_iff_ne];exact he
  clear he;go_wp2_with fail;go_ret;exact⟨rfl,o2,hS1,H1.out⟩
theorem qil (args:Array Value)(w:World):(callFunc 110 args).run Tryz.prog w=.ok (.enter 110 args) w:=enters_of Tryz.func110 (by kernel_rfl) rfl args w
theorem qhu (args:Array Value)(w:World):(callFunc 113 args).run Tryz.prog w=.ok (.enter 113 args) w:=enters_of Tryz.func113 (by kernel_rfl) rfl args w
theorem chg_num (h:StIn w o y S)(hk:S.ok)(hi:i<S.txs.length)(p j:Nat)(v:Int)(hv:-9223372036854775808≤v∧v≤9223372036854775807) :
  Calls Tryz.prog 109 #[ptr y.sb,ptr (y.xb i),.agg #[.int .i64 2,.int .i64 p,.int .i64 j,.int .i64 0],.func (.func 76) #[ptr y.l.h] #[],.func (.func 110) #[ptr y.l.h] #[],.int .i64 v] w
   fun e w'=>e=.returned (.int .i64 (S.writeR i p j v).e)∧Lft y (S.writeR i p j v).S o w w':=by
 have hf:=Stt.ok_fields hk hi p;have hl:=vy S i p;have hi1:i<(S.fieldsR i p).1.txs.length:=by omega
 have hh:=Stt.ok_hold hf hi1 p;have hl2:=uo (S.fieldsR i p).1 i p;have hi2:i<((S.fieldsR i p).1.holdR i p).1.txs.length:=by omega
 have hnb:=hf.num_bd p j;have hu:=Stt.ok_undo hh hi2 ⟨2,p,j,((S.fieldsR i p).1.H.numR p j).1⟩ hnb (fun h=>by simp at h)
 refine qa1 _ _ eg_hnum qil 2 p j v ((S.fieldsR i p).1.H.numR p j).1 (S.fieldsR i p).2 ((S.fieldsR i p).1.H.numR p j).2 _ ((S.fieldsR i p).1.holdR i p).2 _ (S.fieldsR i p).1 (S.fieldsR i p).1 ((S.fieldsR i p).1.holdR i p).1 _ _ (S.writeR i p j v) ?_ h hi2
  (fun w1 o1 h1=>pj h1 hk hi p) (fun w1 o1 h1=>(s_num h1 hf p j).mono fun _ _ ⟨a,b⟩=>⟨a,h1.lft b⟩) (fun w1 o1 h1=>qcc h1 hf hi1 p) (fun e=>⟨(tt e).2.2,fun w1 o1 h1=>qf2 h1 hf hi1 p e⟩)
  (fun w1 o1 h1=>qam h1 hh hi2 ⟨2,p,j,((S.fieldsR i p).1.H.numR p j).1⟩) (fun w1 o1 h1=>qho h1 hu p j v hv)
 refine⟨fun e=>?_,fun e1 e2=>?_,fun e1 e2 e3=>?_,fun e1 e2 e3 e4=>?_,fun e1 e2 e3 e4=>?_⟩<;>unfold Stt.writeR
 ·rw[if_pos e];exact⟨rfl,rfl⟩
 ·rw[if_neg (by simpa using e1),if_pos (by simpa using e2)];exact⟨rfl,rfl⟩
 ·rw[if_neg (by simpa using e1),if_neg (by simpa using e2)];unfold Stt.chg;rw[if_pos e3];exact⟨rfl,rfl⟩
 ·rw[if_neg (by simpa using e1),if_neg (by simpa using e2)];unfold Stt.chg;rw[if_neg (by rw[e3];simp),if_pos e4];exact⟨rfl,rfl⟩
 ·rw[if_neg (by simpa using e1),if_neg (by simpa using e2)];unfold Stt.chg;rw[if_neg (by rw[e3];simp),if_neg (by rw[e4];simp)];exact⟨rfl,rfl⟩
theorem chg_ptr (h:StIn w o y S)(hk:S.ok)(hi:i<S.txs.length)(p j q:Nat) :
  Calls Tryz.prog 109 #[ptr y.sb,ptr (y.xb i),.agg #[.int .i64 1,.int .i64 p,.int .i64 j,.int .i64 0],.func (.func 112) #[ptr y.l.h] #[],.func (.func 113) #[ptr y.l.h] #[],.int .i64 q] w
   fun e w'=>e=.returned (.int .i64 (S.put1R i p j q).e)∧Lft y (S.put1R i p j q).S o w w':=by
 have hf:=Stt.ok_fields hk hi p;have hl:=vy S i p;have hp:((S.fieldsR i p).1.h ((S.fieldsR i p).1.H.ptrR p j).1).ok:=Stt.ok_ptr hf p j;have hlp:((S.fieldsR i p).1.h ((S.fieldsR i p).1.H.ptrR p j).1).txs.length=S.txs.length:=hl;have hi1:i<((S.fieldsR i p).1.h ((S.fieldsR i p).1.H.ptrR p j).1).txs.length:=by omega
 have hh:=Stt.ok_hold hp hi1 p;have hl2:=uo ((S.fieldsR i p).1.h ((S.fieldsR i p).1.H.ptrR p j).1) i p;have hi2:i<(((S.fieldsR i p).1.h ((S.fieldsR i p).1.H.ptrR p j).1).holdR i p).1.txs.length:=by omega
 have hb:=qkz hf.H p j;have hu:=Stt.ok_undo hh hi2 ⟨1,p,j,((S.fieldsR i p).1.H.ptrR p j).2.1⟩ (by simp only;omega) (fun _=>by simp only;omega)
 refine qa1 _ _ eg_hptr qhu 1 p j q ((S.fieldsR i p).1.H.ptrR p j).2.1 (S.fieldsR i p).2 ((S.fieldsR i p).1.H.ptrR p j).2.2 _ (((S.fieldsR i p).1.h ((S.fieldsR i p).1.H.ptrR p j).1).holdR i p).2 _ (S.fieldsR i p).1 ((S.fieldsR i p).1.h ((S.fieldsR i p).1.H.ptrR p j).1) (((S.fieldsR i p).1.h ((S.fieldsR i p).1.H.ptrR p j).1).holdR i p).1 _ _ (S.put1R i p j q) ?_ h hi2
  (fun w1 o1 h1=>pj h1 hk hi p) (fun w1 o1 h1=>s_ptr h1 hf p j) (fun w1 o1 h1=>qcc h1 hp hi1 p) (fun e=>⟨(tt e).2.2,fun w1 o1 h1=>qf2 h1 hp hi1 p e⟩)
  (fun w1 o1 h1=>qam h1 hh hi2 ⟨1,p,j,((S.fieldsR i p).1.H.ptrR p j).2.1⟩) (fun w1 o1 h1=>qbl h1 hu p j q)
 refine⟨fun e=>?_,fun e1 e2=>?_,fun e1 e2 e3=>?_,fun e1 e2 e3 e4=>?_,fun e1 e2 e3 e4=>?_⟩<;>unfold Stt.put1R
 ·rw[if_pos e];exact⟨rfl,rfl⟩
 ·rw[if_neg (by simpa using e1),if_pos (by simpa using e2)];exact⟨rfl,rfl⟩
 ·rw[if_neg (by simpa using e1),if_neg (by simpa using e2)];unfold Stt.chg;rw[if_pos e3];exact⟨rfl,rfl⟩
 ·rw[if_neg (by simpa using e1),if_neg (by simpa using e2)];unfold Stt.chg;rw[if_neg (by rw[e3];simp),if_pos e4];exact⟨rfl,rfl⟩
 ·rw[if_neg (by simpa using e1),if_neg (by simpa using e2)];unfold Stt.chg;rw[if_neg (by rw[e3];simp),if_neg (by rw[e4];simp)];exact⟨rfl,rfl⟩
theorem chg_v (S:Stt)(i p:Nat)(u:Un)(set:Hp→Hp×Nat):(S.chg i p u set).v=0:=by unfold Stt.chg;split<;>(try split)<;>rfl
theorem writeR_v (S:Stt)(i p j:Nat)(v:Int):(S.writeR i p j v).v=0:=by
 unfold Stt.writeR;split
 ·rfl
 ·split
  ·rfl
  ·exact chg_v _ _ _ _ _
theorem putR_v (S:Stt)(i p j q:Nat):(S.putR i p j q).v=0:=by
 unfold Stt.putR Stt.put1R;split
 ·rfl
 ·split
  ·rfl
  ·split
   ·rfl
   ·exact chg_v _ _ _ _ _
theorem freeR_v (S:Stt)(i p:Nat):(S.freeR i p).v=0:=by
 unfold Stt.freeR;split
 ·rfl
 ·exact chg_v _ _ _ _ _
theorem qlp (args:Array Value)(w:World):(callFunc 108 args).run Tryz.prog w=.ok (.enter 108 args) w:=enters_of Tryz.func108 (by kernel_rfl) rfl args w
theorem qij (p j:Nat)(v err:Int)(S4:Stt)(h:StIn w o y S)
  (ch:∀ w1,Below w.heap.size w w1→Calls Tryz.prog 109 #[ptr y.sb,ptr (y.xb i),.agg #[.int .i64 2,.int .i64 p,.int .i64 j,.int .i64 0],.func (.func 76) #[ptr y.l.h] #[],.func (.func 110) #[ptr y.l.h] #[],.int .i64 v] w1
   fun e w'=>e=.returned (.int .i64 err)∧Lft y S4 o w1 w')
  {b1 b2 b3 b4:Nat}(j1:Blk w b1 #[.int .i64 p] 3)(j2:Blk w b2 #[.int .i64 j] 3)(j3:Blk w b3 #[ptr y.sb] 24)(j4:Blk w b4 #[.int .i64 v] 3) :
  Calls Tryz.prog 108 #[ptr (y.xb i),ptr b1,ptr b2,ptr b3,ptr b4] w fun e w'=>e=.returned (.tuple #[.int .i64 0,.int .i64 err])∧Lft y S4 o w w':=by
 have hmf:∀ (fn:Fn)(first cap:Array Value)(w:World),(Instr.makeFunc fn first cap).run Tryz.prog w=.ok (.func fn first cap) w:=fun _ _ _ _=>rfl
 have HC:=Lib.hid ch;obtain⟨vq,vl,vm,jb,_⟩:=h.blk;unfold qk at jb;have c1:=j1.cell;have c2:=j2.cell;clear ch h;go_enter Tryz.func108,Tryz.ntmps108;go_upto_region 2 with fail;obtain⟨W,hW⟩:∃ W:World,W=w.alloc (.cells #[.int .i64 2,.int .i64 p,.int .i64 j,.int .i64 0] 175):=⟨_,rfl⟩;rw[←hW];have hbW:Below w.heap.size w W:=by rw[hW];exact qa (qc w) _
 have jU:Blk W w.heap.size #[.int .i64 2,.int .i64 p,.int .i64 j,.int .i64 0] 175:=by rw[hW];exact Blk.new w _ _
 have k3:=j3.below hbW j3.lt;have k4:=j4.below hbW j4.lt;have kb:=jb.below hbW jb.lt;clear hW c1 c2 j1 j2 j3 j4 jb;have c3:=k3.cell;have c4:=k4.cell;have cb:=kb.cell;have cU:=jU.cell;have HC2:=Lib.hid (HC.out W.drew (qe hbW));go_still_tail 14,(by kernel_rfl)
 change wpList _ _ _ _ _ W.drew;go_wp2_with fail;refine HC2.out.mono ?_
 rintro e w2⟨rfl,o2,hS2,hs2⟩
 go_wp2_with fail;go_ret2;exact⟨rfl,o2,hS2,(Stp.of_below (qe hbW)).trans hs2⟩
def Stt.write (S:Stt)(i p j:Nat)(v:Int):Res:=S.deedR i (S.writeR i p j v)
def Stt.put (S:Stt)(i p j q:Nat):Res:=S.deedR i (S.putR i p j q)
def Stt.free (S:Stt)(i p:Nat):Res:=S.deedR i (S.freeR i p)
theorem qjr (h:StIn w o y S) (hk:S.ok) (hi:i<S.txs.length) (p j:Nat) (v:Int) (hv:-9223372036854775808≤v∧v≤9223372036854775807) :
  Calls Tryz.prog 48 #[ptr y.sb,.int .i64 i,.int .i64 p,.int .i64 j,.int .i64 v] w fun e w'=>e=.returned (.int .i64 (S.write i p j v).e)∧Lft y (S.write i p j v).S o w w':=by
 have hmf:∀ (fn:Fn) (first cap:Array Value) (w:World),(Instr.makeFunc fn first cap).run Tryz.prog w=.ok (.func fn first cap) w:=fun _ _ _ _=>rfl
 obtain⟨W,hW⟩:∃ W:World,W=(((w.alloc (.cells #[ptr y.sb] 24)).alloc (.cells #[.int .i64 p] 3)).alloc (.cells #[.int .i64 j] 3)).alloc (.cells #[.int .i64 v] 3):=⟨_,rfl⟩;have hbW:Below w.heap.size w W:=by rw[hW];exact qa (qa (qa (qa (qc w) _) _) _) _
 have j1:Blk W w.heap.size #[ptr y.sb] 24:=by rw[hW];exact (((Blk.new w _ _).alloc _).alloc _).alloc _
 have j2:Blk W (w.heap.size+1) #[.int .i64 p] 3:=by rw[hW];exact ((Blk.new_at _ _ _ _ _ (by simp) rfl).alloc _).alloc _
 have j3:Blk W (w.heap.size+1+1) #[.int .i64 j] 3:=by rw[hW];exact (Blk.new_at _ _ _ _ _ (by simp) rfl).alloc _
 have j4:Blk W (w.heap.size+1+1+1) #[.int .i64 v] 3:=by rw[hW];exact Blk.new_at _ _ _ _ _ (by simp) rfl
 have HD:=Lib.hid (vx 108 [ptr (w.heap.size+1),ptr (w.heap.size+1+1),ptr w.heap.size,ptr (w.heap.size+1+1+1)] (h.below hbW) hk hi qlp (S.writeR i p j v) (fun _=>gd hk hi p j hv)
  (fun _ w1 o2 hb he2 hS=>by
   rw[writeR_v];exact qij p j v _ _ hS (fun w2 hb2=>chg_num (hS.below hb2) hk hi p j v hv) (j2.below hb j2.lt) (j3.below hb j3.lt) (j1.below hb j1.lt) (j4.below hb j4.lt)))
 have HS:=Lib.hid (Stp.of_below (T:=qh y) (o:=o) hbW);unfold Stt.write;generalize S.deedR i (S.writeR i p j v)=R at *;clear h hbW j1 j2 j3 j4 hk hi;go_enter Tryz.func48,Tryz.ntmps48;go_wp2_with fail;rw[←hW];refine HD.out.mono ?_
 rintro e w2⟨rfl,o2,hS2,hs2⟩
 go_wp2_with fail;go_ret;exact⟨rfl,o2,hS2,HS.out.trans hs2⟩
end
section
variable {w w' : World} {o o' : Own} {y : SLay} {S : Stt} {i : Nat}
theorem eg_put1 (args:Array Value)(w:World):(callFunc 111 args).run Tryz.prog w=.ok (.enter 111 args) w:=enters_of Tryz.func111 (by kernel_rfl) rfl args w
theorem put1_no (q:Nat)(h:StIn w o y S)(hk:S.ok)(hq:q≠0∧lk S.H.cur q=none)
  {b1 b2 b3 b4:Nat}(j1:Blk w b1 #[.int .i64 q] 3)(j2:Blk w b2 #[ptr y.sb] 24) :
  Calls Tryz.prog 111 #[ptr (y.xb i),ptr b1,ptr b2,ptr b3,ptr b4] w fun e w'=>e=.returned (.tuple #[.int .i64 0,.int .i64 70])∧Lft y S o w w':=by
 have HH:=Lib.hid (fun (e:Later w)=>qb5 (h.below e.2) hk q)
 rw[hq.2]at HH;simp only[Option.isSome_none]at HH;have HS:=Lib.hid h;obtain⟨vq,vl,vm,jb,_⟩:=h.blk;unfold qk at jb;have hqb:((q:Int) != 0)=true:=by rw[bne_iff_ne];have:=hq.1;omega
 have l1:=fun (e:Later w)(i:Nat)=>Later.cell j1 e i
 have l2:=fun (e:Later w)(i:Nat)=>Later.cell j2 e i
 have l5:=fun (e:Later w)(i:Nat)=>Later.cell jb e i
 clear h hk hq;go_enter Tryz.func111,Tryz.ntmps111;go_upto_region 1 with fail;refine qy (by kernel_rfl) (by kernel_rfl) ?_
 repeat (go_big_quiet_step ((go_at_call 61;exact kj (HH.out _))))
 refine wpQuiet_nil ?_;intro w8 hW0;obtain⟨⟨W0,hb0⟩,hwt⟩:=hW0;have hwt:w8=W0:=hwt;subst hwt;go_wp2_with fail;go_ret2;exact⟨rfl,HS.out.lft hb0⟩
theorem put1_any (p j q:Nat)(err:Int)(S4:Stt)(h:StIn w o y S)(hk:S.ok)(hq:¬(q≠0∧lk S.H.cur q=none))
  (ch:∀ w1,Below w.heap.size w w1→Calls Tryz.prog 109 #[ptr y.sb,ptr (y.xb i),.agg #[.int .i64 1,.int .i64 p,.int .i64 j,.int .i64 0],.func (.func 112) #[ptr y.l.h] #[],.func (.func 113) #[ptr y.l.h] #[],.int .i64 q] w1
   fun e w'=>e=.returned (.int .i64 err)∧Lft y S4 o w1 w')
  {b1 b2 b3 b4:Nat}(j1:Blk w b1 #[.int .i64 q] 3)(j2:Blk w b2 #[ptr y.sb] 24)(j3:Blk w b3 #[.int .i64 p] 3)(j4:Blk w b4 #[.int .i64 j] 3) :
  Calls Tryz.prog 111 #[ptr (y.xb i),ptr b1,ptr b2,ptr b3,ptr b4] w fun e w'=>e=.returned (.tuple #[.int .i64 0,.int .i64 err])∧Lft y S4 o w w':=by
 have hmf:∀ (fn:Fn)(first cap:Array Value)(w:World),(Instr.makeFunc fn first cap).run Tryz.prog w=.ok (.func fn first cap) w:=fun _ _ _ _=>rfl
 have HC:=Lib.hid ch;obtain⟨vq,vl,vm,jb,_⟩:=h.blk;unfold qk at jb;have HH:=(fun (e:Later w)=>qb5 (h.below e.2) hk q)
 have hq2:q≠0→(lk S.H.cur q).isSome=true:=fun h0=>by
  cases hl:lk S.H.cur q with
  | none=>exact absurd ⟨h0,hl⟩ hq
  | some ob=>rfl
 have HH:=Lib.hid HH;have HQ2:=Lib.hid hq2;clear ch h hk hq hq2;go_enter Tryz.func111,Tryz.ntmps111;go_upto_region 1 with fail;rcases Nat.eq_zero_or_pos q with hq0|hq0
 ·have hqb:((q:Int) != 0)=false:=by rw[hq0];rfl
  have c1:=j1.cell;clear hq0;go_quiet (fail);obtain⟨W0,hW0⟩:∃ W0,W0=w.drewN nq:=⟨_,rfl⟩;have hb0:Below w.heap.size w W0:=by rw[hW0];exact zh (qc _) _
  rw[←hW0];clear hW0 c1;have k1:=j1.below hb0 j1.lt;have k2:=j2.below hb0 j2.lt;have k3:=j3.below hb0 j3.lt;have k4:=j4.below hb0 j4.lt;have kb:=jb.below hb0 jb.lt;have c3:=k3.cell;have c4:=k4.cell;go_upto_region 4 with fail;clear c3 c4;obtain⟨W,hW⟩:∃ W:World,W=W0.alloc (.cells #[.int .i64 1,.int .i64 p,.int .i64 j,.int .i64 0] 175):=⟨_,rfl⟩;rw[←hW];have hbW:Below w.heap.size w W:=by rw[hW];exact qa hb0 _
  have jU:Blk W W0.heap.size #[.int .i64 1,.int .i64 p,.int .i64 j,.int .i64 0] 175:=by rw[hW];exact Blk.new W0 _ _
  have k1:=j1.below hbW j1.lt;have k2:=j2.below hbW j2.lt;have kb:=jb.below hbW jb.lt;clear hW;have c3:=k1.cell;have c4:=k2.cell;have cb:=kb.cell;have cU:=jU.cell;have HC2:=Lib.hid (HC.out W.drew (qe hbW));go_still_tail 14,(by kernel_rfl)
  change wpList _ _ _ _ _ W.drew;go_wp2_with fail;refine HC2.out.mono ?_
  rintro e w2 ⟨rfl,o2,hS2,hs2⟩
  go_wp2_with fail;go_ret2;exact⟨rfl,o2,hS2,(Stp.of_below (qe hbW)).trans hs2⟩
 ·have hqb:((q:Int) != 0)=true:=by rw[bne_iff_ne];omega
  have HH2:=HH.out;rw[HQ2.out (by omega)]at HH2
  have HH2:=Lib.hid HH2;have l1:=fun (e:Later w)(i:Nat)=>Later.cell j1 e i
  have l2:=fun (e:Later w)(i:Nat)=>Later.cell j2 e i
  have l5:=fun (e:Later w)(i:Nat)=>Later.cell jb e i
  clear hq0 HH HQ2;refine qy (by kernel_rfl) (by kernel_rfl) ?_
  repeat (go_big_quiet_step ((go_at_call 61;exact kj (HH2.out _))))
  refine wpQuiet_nil ?_;intro w8 hW0;obtain⟨⟨W0,hb0⟩,hwt⟩:=hW0;have hwt:w8=W0:=hwt;subst hwt;clear l1 l2 l5;have k1:=j1.below hb0 j1.lt;have k2:=j2.below hb0 j2.lt;have k3:=j3.below hb0 j3.lt;have k4:=j4.below hb0 j4.lt;have kb:=jb.below hb0 jb.lt;have c3:=k3.cell;have c4:=k4.cell;go_upto_region 4 with fail;clear c3 c4;obtain⟨W,hW⟩:∃ W:World,W=w8.alloc (.cells #[.int .i64 1,.int .i64 p,.int .i64 j,.int .i64 0] 175):=⟨_,rfl⟩;rw[←hW];have hbW:Below w.heap.size w W:=by rw[hW];exact qa hb0 _
  have jU:Blk W w8.heap.size #[.int .i64 1,.int .i64 p,.int .i64 j,.int .i64 0] 175:=by rw[hW];exact Blk.new w8 _ _
  have k1:=j1.below hbW j1.lt;have k2:=j2.below hbW j2.lt;have kb:=jb.below hbW jb.lt;clear hW;have c3:=k1.cell;have c4:=k2.cell;have cb:=kb.cell;have cU:=jU.cell;have HC2:=Lib.hid (HC.out W.drew (qe hbW));go_still_tail 14,(by kernel_rfl)
  change wpList _ _ _ _ _ W.drew;go_wp2_with fail;refine HC2.out.mono ?_
  rintro e w2 ⟨rfl,o2,hS2,hs2⟩
  go_wp2_with fail;go_ret2;exact⟨rfl,o2,hS2,(Stp.of_below (qe hbW)).trans hs2⟩
theorem sput_any (h:StIn w o y S) (hk:S.ok) (hi:i<S.txs.length) (p j q:Nat) :
  Calls Tryz.prog 49 #[ptr y.sb,.int .i64 i,.int .i64 p,.int .i64 j,.int .i64 q] w fun e w'=>e=.returned (.int .i64 (S.put i p j q).e)∧Lft y (S.put i p j q).S o w w':=by
 have hmf:∀ (fn:Fn) (first cap:Array Value) (w:World),(Instr.makeFunc fn first cap).run Tryz.prog w=.ok (.func fn first cap) w:=fun _ _ _ _=>rfl
 obtain⟨W,hW⟩:∃ W:World,W=(((w.alloc (.cells #[ptr y.sb] 24)).alloc (.cells #[.int .i64 p] 3)).alloc (.cells #[.int .i64 j] 3)).alloc (.cells #[.int .i64 q] 3):=⟨_,rfl⟩;have hbW:Below w.heap.size w W:=by rw[hW];exact qa (qa (qa (qa (qc w) _) _) _) _
 have j1:Blk W w.heap.size #[ptr y.sb] 24:=by rw[hW];exact (((Blk.new w _ _).alloc _).alloc _).alloc _
 have j2:Blk W (w.heap.size+1) #[.int .i64 p] 3:=by rw[hW];exact ((Blk.new_at _ _ _ _ _ (by simp) rfl).alloc _).alloc _
 have j3:Blk W (w.heap.size+1+1) #[.int .i64 j] 3:=by rw[hW];exact (Blk.new_at _ _ _ _ _ (by simp) rfl).alloc _
 have j4:Blk W (w.heap.size+1+1+1) #[.int .i64 q] 3:=by rw[hW];exact Blk.new_at _ _ _ _ _ (by simp) rfl
 have HD:=Lib.hid (vx 111 [ptr (w.heap.size+1+1+1),ptr w.heap.size,ptr (w.heap.size+1),ptr (w.heap.size+1+1)] (h.below hbW) hk hi eg_put1 (S.putR i p j q) (fun _=>lr hk hi p j q)
  (fun _ w1 o2 hb he2 hS=>by
   rw[putR_v];unfold Stt.putR;by_cases hq:q≠0∧lk S.H.cur q=none
   ·rw[if_pos hq]
    exact put1_no q hS hk hq (j4.below hb j4.lt) (j1.below hb j1.lt)
   ·rw[if_neg hq]
    exact put1_any p j q _ _ hS hk hq (fun w2 hb2=>chg_ptr (hS.below hb2) hk hi p j q) (j4.below hb j4.lt) (j1.below hb j1.lt) (j2.below hb j2.lt) (j3.below hb j3.lt)))
 have HS:=Lib.hid (Stp.of_below (T:=qh y) (o:=o) hbW);unfold Stt.put;generalize S.deedR i (S.putR i p j q)=R at *;clear h hbW j1 j2 j3 j4 hk hi;go_enter Tryz.func49,Tryz.ntmps49;go_wp2_with fail;rw[←hW];refine HD.out.mono ?_
 rintro e w2⟨rfl,o2,hS2,hs2⟩
 go_wp2_with fail;go_ret;exact⟨rfl,o2,hS2,HS.out.trans hs2⟩
end
section
variable {w w' : World} {o o' : Own} {y : SLay} {S : Stt} {i : Nat}
theorem ql6 (h:StIn w o y S)(hk:S.ok)(hi:i<S.txs.length){b1:Nat}(j1:Blk w b1 #[ptr y.sb] 24)(t1:o b1=(y.l.id+1,0)) :
  Calls Tryz.prog 122 #[ptr (y.xb i),ptr b1] w fun e w'=>e=.returned (.tuple #[.int .i64 (S.takeR i).v,.int .i64 (S.takeR i).e])∧Lft y (S.takeR i).S o w w':=by
 unfold Stt.takeR;by_cases hc:S.holder≠-1∧S.holder≠(i:Int)∨(S.t i).start<S.version
 ·rw[if_pos hc]
  exact (qgt h hi hc j1).mono fun _ _ ⟨a,b⟩=>⟨a,h.lft b⟩
 ·rw[if_neg hc]
  have hn:S.holder=-1∨S.holder=(i:Int):=by omega
  have hv:S.version≤(S.t i).start:=by omega
  split
  ·rename_i hq
   exact qbo h hi hn hv (.inl hq) j1 t1
  ·rename_i z l hq
   split
   ·rename_i hz
    exact qbo h hi hn hv (.inr ⟨z,l,hq,hz⟩) j1 t1
   ·rename_i hz
    exact qmp h hk hi hn hv hq (by omega) j1 t1
theorem eg_take1 (args:Array Value)(w:World):(callFunc 122 args).run Tryz.prog w=.ok (.enter 122 args) w:=enters_of Tryz.func122 (by kernel_rfl) rfl args w
theorem qmc (h0:StIn w o y S)(hk:S.ok)(hi:i<S.txs.length) :
  Calls Tryz.prog 59 #[ptr y.sb,.int .i64 i] w fun e w'=>e=.returned (.tuple #[.int .i64 (S.take i).v,.int .i64 (S.take i).e])∧Lft y (S.take i).S o w w':=by
 have hmf:∀ (fn:Fn)(first cap:Array Value)(w:World),(Instr.makeFunc fn first cap).run Tryz.prog w=.ok (.func fn first cap) w:=fun _ _ _ _=>rfl
 obtain⟨o1,ho1⟩:∃ o1,o1=ext o w.heap.size (y.l.id+1,0):=⟨_,rfl⟩;have h:=h0.retag (o':=o1) fun b hb=>by rw[ho1];exact qj hb
 have hS0:Stp (qh y) o o1 w w:=by rw[ho1];exact (Stp.refl _ o w).ext _ _ (Nat.le_refl _)
 have hbx:o1 w.heap.size=(y.l.id+1,0):=by rw[ho1];exact qp (Nat.le_refl _)
 clear ho1 h0;have j1:=Blk.new w #[ptr y.sb] 24;have HD:=Lib.hid (vx 122 [ptr w.heap.size] (h.below (qa (qc w) (.cells #[ptr y.sb] 24))) hk hi eg_take1 (S.takeR i) (fun _=>bg hk hi)
  (fun _ w1 o2 hb he2 hS=>ql6 hS hk hi (j1.below hb j1.lt) ((he2 _ j1.lt).trans hbx)))
 have HS:=Lib.hid (hS0.trans (Stp.of_below (qa (qc w) (.cells #[ptr y.sb] 24))));unfold Stt.take;generalize S.deedR i (S.takeR i)=R at *;clear h hbx hS0 j1 hk hi;go_enter Tryz.func59,Tryz.ntmps59;go_wp2_with fail;refine HD.out.mono ?_
 rintro e w2⟨rfl,o2,hS2,hs2⟩
 go_wp2_with fail;go_ret2;exact⟨rfl,o2,hS2,HS.out.trans hs2⟩
end
section
variable {w w' : World} {o o' : Own} {y : SLay} {S : Stt} {i : Nat}
theorem qa3 (hk:S.ok)(hi:i<S.txs.length):Good S.txs.length (S.commit i):=by
 unfold Stt.commit Stt.deedR
 cases hl:(S.t i).live with
 | false=>rw[if_neg (by simp)];exact⟨hk,rfl⟩
 | true =>
  rw[if_pos rfl];have hg:=cg hk hi hl;exact⟨Stt.ok_fin hg.1 (by have:=hg.2;omega),by rw[qke];exact hg.2⟩
theorem qf5 (h:StIn w o y S)(hk:S.ok)(hi:i<S.txs.length)(hl:(S.t i).live=true){b1:Nat}(j1:Blk w b1 #[ptr y.sb] 24)(t1:o b1=(y.l.id+1,0)) :
  Calls Tryz.prog 78 #[ptr (y.xb i),ptr b1] w fun e w'=>e=.returned (.tuple #[.int .i64 (S.commitR i).v,.int .i64 (S.commitR i).e])∧Lft y (S.commitR i).S o w w':=by
 by_cases hw:(S.t i).log.holds=[]∧S.holder≠(i:Int)
 ·have e1:S.commitR i=⟨S.tx i (S.t i).ended,0,0⟩:=by unfold Stt.commitR;rw[if_pos hw]
  rw[e1];exact qfh h hk hi hw.1 hw.2 j1
 ·exact qdh h hk hi hl hw j1 t1
theorem qgw (h0:StIn w o y S)(hk:S.ok)(hi:i<S.txs.length) :
  Calls Tryz.prog 25 #[ptr y.sb,.int .i64 i] w fun e w'=>e=.returned (.tuple #[.int .i64 (S.commit i).v,.int .i64 (S.commit i).e])∧Lft y (S.commit i).S o w w':=by
 have hmf:∀ (fn:Fn)(first cap:Array Value)(w:World),(Instr.makeFunc fn first cap).run Tryz.prog w=.ok (.func fn first cap) w:=fun _ _ _ _=>rfl
 obtain⟨o1,ho1⟩:∃ o1,o1=ext o w.heap.size (y.l.id+1,0):=⟨_,rfl⟩;have h:=h0.retag (o':=o1) fun b hb=>by rw[ho1];exact qj hb
 have hS0:Stp (qh y) o o1 w w:=by rw[ho1];exact (Stp.refl _ o w).ext _ _ (Nat.le_refl _)
 have hbx:o1 w.heap.size=(y.l.id+1,0):=by rw[ho1];exact qp (Nat.le_refl _)
 clear ho1 h0;have j1:=Blk.new w #[ptr y.sb] 24;have HD:=Lib.hid (vx 78 [ptr w.heap.size] (h.below (qa (qc w) (.cells #[ptr y.sb] 24))) hk hi qif (S.commitR i) (fun hl=>cg hk hi hl)
  (fun hl w1 o2 hb he2 hS=>qf5 hS hk hi hl (j1.below hb j1.lt) ((he2 _ j1.lt).trans hbx)))
 have HS:=Lib.hid (hS0.trans (Stp.of_below (qa (qc w) (.cells #[ptr y.sb] 24))));unfold Stt.commit;generalize S.deedR i (S.commitR i)=R at *;clear h hbx hS0 j1 hk hi;go_enter Tryz.func25,Tryz.ntmps25;go_wp2_with fail;refine HD.out.mono ?_
 rintro e w2⟨rfl,o2,hS2,hs2⟩
 go_wp2_with fail;go_ret2;exact⟨rfl,o2,hS2,HS.out.trans hs2⟩
theorem qip (h:StIn w o y S)(hk:S.ok)(hi:i<S.txs.length) :
  Calls Tryz.prog 20 #[ptr y.sb,.int .i64 i] w fun e w'=>e=.returned (.int .i64 (S.abortR i).2)∧Lft y (S.abortR i).1 o w w':=by
 have HT:=Lib.hid (xf h hk (Stt.t_get hi));have HA:=Lib.hid (qee h hk hi);have H:=Lib.hid h;unfold Stt.abortR;clear h hk hi
 cases hl:(S.t i).live
 ·rw[hl]at HT
  simp only[if_false,Bool.false_eq_true]at HT ⊢;have hfin:=Lib.hid H.out.lft_same;clear hl HA H;go_enter Tryz.func20,Tryz.ntmps20;go_wp2_with fail;refine HT.out.mono ?_
  rintro e w1⟨rfl,rfl⟩
  go_wp2_with fail;go_ret;exact⟨rfl,hfin.out⟩
 ·rw[hl]at HT
  simp only[if_true]at HT ⊢;generalize S.abort i=S2 at *;clear hl H;go_enter Tryz.func20,Tryz.ntmps20;go_wp2_with fail;refine HT.out.mono ?_
  rintro e w1⟨rfl,rfl⟩
  go_wp2_with fail;refine HA.out.mono ?_
  rintro e w2⟨rfl,hl2⟩
  go_wp2_with fail;go_ret;exact⟨rfl,hl2⟩
theorem StIn.thrCells (h:StIn w o y S)(h1:1≤S.txs.length):∃ g cap,y.vth=.slice (some ⟨g,0,none⟩) S.txs.length cap∧(∀ k,k<S.txs.length→w.cell? ⟨g,k,none⟩=some (ptr (y.xb k)))∧S.txs.length≤cap:=by
 obtain⟨g,cap,e,_,hc⟩:=h.thrCell 0 (by omega)
 refine⟨g,cap,e,fun k hk=>?_,hc⟩
 obtain⟨g',cap',e',hk',_⟩:=h.thrCell k hk;rw[e]at e';injection e' with e1 _ _;injection e1 with e1;injection e1 with e1 _ _;rw[e1];exact hk'
theorem qi5 (h:StIn w o y S)(hk:S.ok)(hi:i<S.txs.length)(hl:(S.t i).live=true) :
  Calls Tryz.prog 16 #[ptr y.sb,.int .i64 i] w fun e w'=>e=.returned (.int .i64 140)∧w=w':=by
 have HT:=Lib.hid (thread_in h hk hi);obtain⟨vt,jx,_⟩:=(h.txs i _ (Stt.t_get hi)).blk;unfold zd at jx;have c:=jx.cell;rw[hl]at c;clear h hk hi;go_enter Tryz.func16,Tryz.ntmps16;go_wp2_with fail;refine HT.out.mono ?_
 rintro e w1⟨rfl,rfl⟩
 go_wp2_with fail;go_ret;exact⟨rfl,rfl⟩
def LvJ (l:List Tx)(k n:Nat):Prop:=k≤l.length∧n=ju (l.take k)∧n≤k
theorem LvJ.z (l:List Tx):LvJ l 0 0:=⟨Nat.zero_le _,rfl,Nat.le_refl _⟩
theorem qcn (l:List Tx)(z:Tx):ju (l++[z])=ju l+if z.live then 1 else 0:=by
 unfold ju;rw[List.filter_append,List.length_append]
 cases hz:z.live<;>simp[hz]
theorem LvJ.t {l:List Tx}{k n:Nat}(h:LvJ l k n){z:Tx}(hz:l[k]?=some z)(hl:z.live=true):LvJ l (k+1) (n+1):=by
 obtain⟨hk,he⟩:=List.getElem?_eq_some_iff.1 hz;refine⟨hk,?_,by have:=h.2.2;omega⟩
 rw[List.take_succ_eq_append_getElem hk,qcn,he,hl,if_pos rfl,←h.2.1]
theorem LvJ.f {l:List Tx}{k n:Nat}(h:LvJ l k n){z:Tx}(hz:l[k]?=some z)(hl:z.live=false):LvJ l (k+1) n:=by
 obtain⟨hk,he⟩:=List.getElem?_eq_some_iff.1 hz;refine⟨hk,?_,by have:=h.2.2;omega⟩
 rw[List.take_succ_eq_append_getElem hk,qcn,he,hl,if_neg (by simp),←h.2.1];rfl
theorem LvJ.e {l:List Tx}{n:Nat}(h:LvJ l l.length n):n=ju l:=by have:=h.2.1;rwa [List.take_length]at this
theorem begin_in (h:StIn w o y S)(hk:S.ok)(hi:i<S.txs.length)(hl:(S.t i).live=false) :
  Calls Tryz.prog 16 #[ptr y.sb,.int .i64 i] w fun e w'=>e=.returned (.int .i64 (S.beginR i).2)∧Lft y (S.beginR i).1 o w w':=by
 have hx:=Stt.t_get hi;have HB1:=Lib.hid (fun (hm:S.now+(ju S.txs+1)≤S.most)=>show S.beginR i=(S.tx i ((S.t i).begun S.now S.next),0) from by unfold Stt.beginR;rw[if_neg (by rw[hl];simp),if_pos hm])
 have HB2:=Lib.hid (fun (hm:¬S.now+(ju S.txs+1)≤S.most)=>show S.beginR i=(S,120) from by unfold Stt.beginR;rw[if_neg (by rw[hl];simp),if_neg hm])
 generalize S.beginR i=R at *;have HT:=Lib.hid (thread_in h hk hi);have HI:=Lib.hid h;have HX:=Lib.hid (h.txs i _ hx);obtain⟨vt,jx,hrow⟩:=(h.txs i _ hx).blk;unfold zd at jx;have HRow:=Lib.hid hrow;have cx:=jx.cell;rw[hl]at cx;obtain⟨g,cap,ev,hcs,hcap⟩:=h.thrCells hk.t1;obtain⟨vq,v14,v15,jb,_⟩:=h.blk;unfold qk at jb;rw[ev]at jb;have c:=jb.cell;have hn1:=hk.n1;have hn2:=hk.n2;have h8:=hk.t8;have HM:=Lib.hid (fun (k:Nat)(hk:k≤9)=>clk_may h.ck (k:Int) (by omega) (by omega) (by omega) (by omega))
 have HMd:=Lib.hid (fun (k:Nat)(hk:S.now+k≤S.most)=>show decide ((k:Int)≤(S.most:Int)-(S.now:Int))=true from by rw[decide_eq_true_eq];omega)
 have HMn:=Lib.hid (fun (k:Nat)(hk:¬S.now+k≤S.most)=>show decide ((k:Int)≤(S.most:Int)-(S.now:Int))=false from by rw[decide_eq_false_iff_not];omega)
 have HN:=Lib.hid (fun w' (hw:Below w.heap.size w w')=>qe2 (h.ck.below hw h.ck.lt))
 have HXS:=Lib.hid (fun k (hk:k<S.txs.length)=>show ∃ z,S.txs[k]?=some z∧∃ vt,(∀ j,w.cell? ⟨y.xb k,j,none⟩=(#[.int .i64 k,.bool z.live,.int .i64 z.start,.int .i64 z.seen,ptr (y.lb k),vt]:Array Value)[j]?) from by
  obtain⟨vt,jz,_⟩:=(h.txs k _ (List.getElem?_eq_getElem hk)).blk;exact⟨S.txs[k],List.getElem?_eq_getElem hk,vt,jz.cell⟩)
 have hcs:=Lib.hid hcs;clear h hk hi hx hn1 hn2 hrow;go_enter Tryz.func16,Tryz.ntmps16;go_wp2_with fail;refine HT.out.mono ?_
 rintro e w1 ⟨rfl,rfl⟩
 go_wp2_with fail;go_loopw [25,6,8] (fun ix cn _ wr=>∃ k n:Nat,ix=.int .i64 k∧cn=.int .i64 n∧LvJ S.txs k n∧wr=w) (fun ix _ _ _=>S.txs.length-(intOf ix).toNat)
 case atStart=>exact⟨0,0,rfl,rfl,LvJ.z _,rfl⟩
 case round =>
  obtain⟨k,n,rfl,rfl,hJ,rfl⟩:=hrel;have HJ:=Lib.hid hJ;have hkl:=hJ.1;have hnk:=hJ.2.2;clear hJ;by_cases hlt:k<S.txs.length
  ·have ck:=hcs.out k hlt
   obtain⟨z,hz,vz,cz⟩:=HXS.out k hlt;have hI:(k:Int)<(S.txs.length:Int):=by omega
   cases hzl:z.live
   ·rw[hzl]at cz
    have HJ2:=Lib.hid (HJ.out.f hz hzl);clear hz hzl;go_wp2_with fail;go_roundw
    case rel=>exact⟨k+1,n,by simp,rfl,HJ2.out,trivial⟩
    case measure=>simp[intOf];omega
   ·rw[hzl]at cz
    have hn8:(n:Int)<9:=by omega
    have HJ2:=Lib.hid (HJ.out.t hz hzl);clear hz hzl;go_wp2_with fail;go_roundw
    case rel=>exact⟨k+1,n+1,by simp,by simp,HJ2.out,trivial⟩
    case measure=>simp[intOf];omega
  ·obtain rfl:k=S.txs.length:=by omega
   have hn8:(n:Int)<9:=by omega
   have hne:=HJ.out.e;have HM2:=Lib.hid (HM.out (n+1) (by omega))
   by_cases hm:S.now+(n+1)≤S.most
   ·rw[HMd.out (n+1) hm,show ((n+1:Nat):Int)=(n:Int)+1 from by omega]at HM2
    have HR:=Lib.hid (HB1.out (by rw[←hne];exact hm))
    clear hm hne;go_wp2_with fail;refine HM2.out.mono ?_
    rintro e w2 ⟨rfl,hb2⟩
    have jx2:=jx.below hb2 jx.lt;rw[hl]at jx2;have jb2:=jb.below hb2 jb.lt;clear cx c HM2;have cx:=jx2.cell;have zx:=jx2.free;have sx:=jx2.lt;have c:=jb2.cell;have sb:=jb2.lt;have nsb:y.sb≠y.xb i:=fun e=>by have h1:=HI.out.os;rw[e,HX.out.ob]at h1;injection h1 with _ h1;omega
    have HN2:=Lib.hid (HN.out w2.drew (qe hb2));have hfin:=Lib.hid (show Lft y (S.tx i ((S.t i).begun S.now S.next)) o wr (((w2.setCell ⟨y.xb i,1,none⟩ (.bool true)).setCell ⟨y.xb i,2,none⟩ (.int .i64 S.now)).setCell ⟨y.xb i,3,none⟩ (.int .i64 S.next)).drew from by
     have ob:=HX.out.ob;have hs0:Stp (fun t=>t=(y.l.id,16+8*i)) o o w2 (((w2.setCell ⟨y.xb i,1,none⟩ (.bool true)).setCell ⟨y.xb i,2,none⟩ (.int .i64 S.now)).setCell ⟨y.xb i,3,none⟩ (.int .i64 S.next)).drew:=
      ((((Stp.refl _ o w2).setCell (by show o (y.xb i)=_;exact ob) _).setCell (by show o (y.xb i)=_;exact ob) _).setCell (by show o (y.xb i)=_;exact ob) _).drew
     have hs:Stp (yv y i) o o wr _:=(Stp.of_below hb2).trans (hs0.mono (by rintro _ rfl;exact⟨rfl,by simp,by simp⟩))
     obtain⟨vr,vk,vh,vu,hlg⟩:=HX.out.log;refine⟨o,HI.out.tx ⟨⟨vt,qi (((jx2.set 1 _).set 2 _).set 3 _),(HRow.out.below hb2).stp hs0 (by simp)⟩,⟨vr,vk,vh,vu,(hlg.below hb2).stp hs0 fun j hj=>by simp;omega⟩,ob⟩ hs,hs.mono fun _=>nc⟩)
    go_upto_region 13 with fail;go_region_with (first|(go_at_call 54;refine HN2.out.mono ?_;rintro e w3 ⟨rfl,rfl⟩)|fail)
    all_goals
     go_wp2_with fail;go_ret;rw[HR.out];exact⟨rfl,hfin.out⟩
   ·rw[HMn.out (n+1) hm,show ((n+1:Nat):Int)=(n:Int)+1 from by omega]at HM2
    have HR:=Lib.hid (HB2.out (by rw[←hne];exact hm))
    have HL:=Lib.hid (fun W (hb:Below wr.heap.size wr W)=>HI.out.lft hb)
    clear hm hne;go_wp2_with fail;refine HM2.out.mono ?_
    rintro e w2 ⟨rfl,hb2⟩
    go_wp2_with fail;go_ret;rw[HR.out];exact⟨rfl,HL.out _ hb2⟩
theorem qi9 (h:StIn w o y S)(hk:S.ok)(hi:i<S.txs.length) :
  Calls Tryz.prog 16 #[ptr y.sb,.int .i64 i] w fun e w'=>e=.returned (.int .i64 (S.beginR i).2)∧Lft y (S.beginR i).1 o w w':=by
 cases hl:(S.t i).live with
 | false=>exact begin_in h hk hi hl
 | true =>
  have e1:S.beginR i=(S,140):=by unfold Stt.beginR;rw[if_pos hl]
  rw[e1];refine (qi5 h hk hi hl).mono ?_
  rintro e w'⟨rfl,rfl⟩
  exact⟨rfl,h.lft_same⟩
end
theorem Row.cell2' {w:World}{o:Own}{t:Tag}{e:TypeId}{l:List (Nat×Nat)}{g n cap:Nat}(h:Row w o t e 2 (.slice (some ⟨g,0,none⟩) n cap) n (qg l))(i:Nat)(x:Nat×Nat)(hx:l[i]?=some x) :
  w.cell? ⟨g,i*2,none⟩=some (nv x.1)∧w.cell? ⟨g,i*2+1,none⟩=some (nv x.2):=by
 have h2:=yd l i x hx;have f:=fun j u hu=>h.own.cells (g:=g) rfl j u hu
 have a1:=f _ _ h2.1;have a2:=f _ _ h2.2;rw[addr_add]at a1 a2;rw[Nat.mul_comm i 2];exact⟨a1,a2⟩
theorem Row.at2p {w:World}{o:Own}{t:Tag}{e:TypeId}{l:List (Nat×Nat)}{n cap:Nat}{pa:Option Addr}(h:Row w o t e 2 (.slice pa n cap) n (qg l))(i:Nat)(x:Nat×Nat)(hx:l[i]?=some x) :
  ∃ g,pa=some ⟨g,0,none⟩∧w.cell? ⟨g,i*2,none⟩=some (.int .i64 x.1)∧w.cell? ⟨g,i*2+1,none⟩=some (.int .i64 x.2):=by
 rcases h.form4 with ⟨_,h0⟩|⟨g,cap',e',hn⟩
 ·have:=yd l i x hx
  rw[h0]at this;simp at this
 ·injection e' with e1 _ e3
  subst e1 e3;obtain⟨a,b⟩:=h.cell2' i x hx;exact⟨g,rfl,a,b⟩
def txP (ts:List Tx)(k:Nat):List Nat:=(ts.take k).flatMap Tx.places
theorem txP_succ {ts:List Tx}{k:Nat}{x:Tx}(h:ts[k]?=some x):txP ts (k+1)=txP ts k++x.log.roots++x.took.map (·.1):=by
 unfold txP;rw[List.take_add_one,h,List.flatMap_append];simp[Tx.places]
theorem qch:∀ (ts:List Tx)(k:Nat),(∀ x ∈ ts,x.log.fit)→(txP ts k).length≤1000*k+ks ts
 | [],k,_=>by simp[txP]
 | x::ts,0,_=>by simp[txP]
 | x::ts,k+1,h=>by
  have h1:=qch ts k fun z hz=>h z (.tail _ hz)
  have h2:=qhm (h x (.head _));have e:txP (x::ts) (k+1)=x.places++txP ts k:=by unfold txP;rw[List.take_succ_cons,List.flatMap_cons]
  have e2:ks (x::ts)=x.took.length+ks ts:=rfl;rw[e,e2,List.length_append];unfold Tx.places;rw[List.length_append,List.length_map];omega
theorem qar (l:List Nat)(x:Nat):(l++[x]).map nv=l.map nv++[.int .i64 x]:=kr l x
section
variable {w w' : World} {o o' : Own} {y : SLay} {S : Stt}
theorem qcg (hk:S.ok)(ps:List Nat):(S.places ps).length≤ps.length+S.next+8000:=by
 have h1:=qch S.txs S.txs.length hk.lg;have h2:=hk.qu;have h3:=hk.t8;have e:txP S.txs S.txs.length=S.txs.flatMap Tx.places:=by unfold txP;rw[List.take_length]
 rw[e]at h1;unfold Stt.places;simp only[List.length_append,List.length_map];omega
theorem qa5 (h:StIn w o y S) (hk:S.ok) {v:Value} {ps:List Nat} {ta:Tag} (hv:Row w o ta 3 1 v ps.length (ps.map nv)) (hp:ps.length≤100000) :
  Calls Tryz.prog 51 #[ptr y.sb,v] w fun e w'=>∃ v',e=.returned v'∧Row w' (fo w.heap.size) (1,0) 3 1 v' (S.places ps).length ((S.places ps).map nv)∧Below w.heap.size w w':=by
 obtain⟨iI,hi,hsI,hyI,hzI⟩:=zg;have hu64:=Tryz.underlying25;have hpl:=qcg hk ps;have hn2:=hk.nx2;have hv0:Row w (fun _=>(0,0)) (0,0) 3 1 v ps.length (ps.map nv):=⟨hv.own,fun _ _=>rfl⟩
 have HC:=Lib.hid (show Calls Tryz.prog 63 #[v] w fun e w'=>∃ v',e=.returned v'∧Row w' (fo w.heap.size) (1,0) 3 1 v' ps.length (ps.map nv)∧Below w.heap.size w w' from qab hv0 hp (bc ps) (1,0))
 obtain⟨vq,vl,vm,jb,hrw⟩:=h.blk;have hq:=hrw.q;obtain⟨pq,cq,rfl⟩:=hq.slc;obtain⟨pv,cv,rfl⟩:=hv.slc;obtain⟨gt,ct,hvt,hct,hctn⟩:=h.thrCells hk.t1;unfold qk at jb;rw[hvt]at jb;obtain⟨q,hqe⟩:∃ q,q=S.queue:=⟨_,rfl⟩;obtain⟨ts,hts⟩:∃ ts,ts=S.txs:=⟨_,rfl⟩;have hq2:q.length+(txP ts ts.length).length≤S.next+8000:=by
  have h1:=qch ts ts.length (by rw[hts];exact hk.lg)
  have h2:=hk.qu;have h3:=hk.t8;rw[hqe,hts]at *;omega
 have hmx:∀ k,k≤S.next+200000→k≤maxLen∧k*8≤140737488355328:=fun k hk'=>by simp only[maxLen];omega
 have hpm:∀ k,(txP ts k).length≤(txP ts ts.length).length:=fun k=>by
  unfold txP;rw[List.take_length];conv=>rhs;rw[←List.take_append_drop k ts]
  rw[List.flatMap_append,List.length_append];omega
 have HT8:Hid (ts.length≤8):=by show _≤_;rw[hts];exact hk.t8
 have HMX:=Lib.hid hmx;have HN2:=Lib.hid hn2;have HPM:=Lib.hid hpm;have HQ2:=Lib.hid hq2;have HP:=Lib.hid hp;have HPL:=Lib.hid (show S.places ps=ps++q.map (·.1)++txP ts ts.length from by unfold Stt.places txP;rw[hqe,hts,List.take_length])
 rw[←hqe]at hq jb;rw[←hts]at jb hct hctn;have HQ:=Lib.hid hq;have HCT:=Lib.hid hct;have HTX:=Lib.hid (fun (i:Nat) (x:Tx) (hx:ts[i]?=some x)=>show (∃ pk ck,∀ (w2:World),Below w.heap.size w w2→Blk w2 (y.xb i) (zd i x (y.lb i) (.slice pk x.took.length ck)) 107∧Row w2 o (y.l.id,22+8*i) 117 2 (.slice pk x.took.length ck) x.took.length (qg x.took)) ∧
   ∀ (w2:World),Below w.heap.size w w2→Calls Tryz.prog 65 #[ptr (y.lb i)] w2 (fun e w'=>∃ v,e=.returned v∧Row w' (fo w2.heap.size) (1,0) 3 1 v x.log.roots.length (x.log.roots.map nv)∧Below w2.heap.size w2 w') from by
  have hx':S.txs[i]?=some x:=by rw[←hts];exact hx
  have h2:=h.txs i x hx';obtain⟨vt,hb',hr'⟩:=h2.blk;obtain⟨pk,ck,rfl⟩:=hr'.slc;refine⟨⟨pk,ck,fun w2 hb=>⟨hb'.below hb hb'.lt,hr'.below hb⟩⟩,fun w2 hb=>?_⟩
  obtain⟨vr,vk,vh,vu,hl⟩:=h2.log;exact qem (hl.below hb) (hk.lg x (List.mem_of_getElem? hx')))
 have HS:=Lib.hid (fun (w2:World) (hb:Below w.heap.size w w2)=>hb)
 have hgl:gt<w.heap.size:=by
  have h1:=h.thr;rw[hvt]at h1;exact h1.blt
 have HGL:=Lib.hid hgl;have HJB:=Lib.hid jb;have c:=jb.cell;rw[HPL.out];generalize S.next=N at *;generalize S.holder=N1 at *;generalize S.version=N2 at *;clear h hk hv hv0 hrw hq hq2 hpl hn2 hp hct hmx hpm jb hqe hts hgl hvt;go_enter Tryz.func51,Tryz.ntmps51;go_wp2_with fail;refine HC.out.mono ?_
 rintro e w1 ⟨v1,rfl,hr1,hb1⟩
 obtain⟨p1,c1,rfl⟩:=hr1.slc;have j1:=HJB.out.below hb1 HJB.out.lt;clear c HC;have c:=j1.cell;go_wp2_with fail;go_loopw [5,19] (fun vv ix wr=>∃ k:Nat,ix=.int .i64 k∧k≤q.length∧Row wr (fo w.heap.size) (1,0) 3 1 vv (ps.length+k) ((ps++(q.take k).map (·.1)).map nv)∧Below w.heap.size w wr) (fun _ ix _=>q.length-(intOf ix).toNat)
 case atStart=>exact⟨0,rfl,Nat.zero_le _,by simpa using hr1,hb1⟩
 case round =>
  clear c j1 hr1 hb1;obtain⟨k,rfl,hkn,hr,hb⟩:=hrel;obtain⟨pp,cc,rfl⟩:=hr.slc;by_cases hlt:k<q.length
  ·have hkI:(k:Int)<(q.length:Int):=by omega
   obtain⟨z,hz⟩:∃ z,q[k]?=some z:=⟨_,List.getElem?_eq_getElem hlt⟩;obtain⟨gq,rfl,q0,q1⟩:=(HQ.out.below hb).at2p k z hz;obtain⟨hw1,hw2⟩:=qr k (by have:=HQ2.out;have:=HN2.out;omega)
   have hk1:Hid (ps.length+k+1≤maxLen∧(ps.length+k+1)*8≤140737488355328):=HMX.out _ (by have:=HQ2.out;have:=HP.out;omega)
   have htk:(q.take (k+1)).map (·.1)=(q.take k).map (·.1)++[z.1]:=by rw[List.take_add_one,hz];simp
   have HTK:=Lib.hid htk;obtain⟨zp,zs⟩:=z;simp only at q0 q1 HTK;have HR:=Lib.hid hr;clear hr hz htk;go_wp2_with (first|(at_builtin;refine qf _ rfl _ _ _ rfl 3 iI _ 1 8 hu64 hi hzI hsI hyI rfl (by decide) (fo w.heap.size) (1,0) _ _ _ rfl (Row.below (Row.below HR.out (qa (qc _) _)) (qa (qc _) _)) ⟨wr.heap.size+1,0,none⟩ 1 1 [.int .i64 zp] rfl rfl (qx (Blk.new_at _ _ _ _ _ (by simp) rfl)) zo hk1.out.1 hk1.out.2 ?_;intro v' w8 hown hst)|fail)
   have hb8:=qa (qa hb (.cells #[.int .i64 zp,.int .i64 zs] 117)) (.cells #[.int .i64 zp] 3);have hr9:=xx hb8 hown;have hb9:=wn hb8 hst;go_roundw
   case rel=>exact⟨k+1,by simp,by omega,by rw[HTK.out,←List.append_assoc,qar];exact hr9,hb9⟩
   case measure=>simp[intOf];omega
  ·obtain rfl:k=q.length:=by omega
   rw[List.take_length]at hr;have j1:=HJB.out.below hb HJB.out.lt;have c:=j1.cell;go_wp2_with fail;clear c j1 hkn hlt;have HR0:=Lib.hid hr;have HB0:=Lib.hid hb;clear hr hb;obtain⟨P1,hP1⟩:∃ P1,P1=ps++q.map (·.1):=⟨_,rfl⟩;have HP1:Hid (P1.length=ps.length+q.length):=by show _=_;rw[hP1];simp
   rw[←hP1,←HP1.out]at HR0;have HPE:=Lib.hid hP1;rw[←HP1.out];have HL2:Hid (∀ k,(P1++txP ts k).length≤N+200000):=fun k=>by
    have h1:=HPM.out k;have h2:=HQ2.out;have h3:=HP.out;have h4:=HP1.out;rw[List.length_append];omega
   clear hP1;go_loopw [5,34] (fun vv ix wr=>∃ k:Nat,ix=.int .i64 k∧k≤ts.length∧Row wr (fo w.heap.size) (1,0) 3 1 vv (P1.length+(txP ts k).length) ((P1++txP ts k).map nv)∧Below w.heap.size w wr) (fun _ ix _=>ts.length-(intOf ix).toNat)
   case atStart=>exact⟨0,rfl,Nat.zero_le _,by rw[show txP ts 0=[] from rfl,List.append_nil];exact HR0.out,HB0.out⟩
   case round =>
    clear HR0 HB0;obtain⟨k,rfl,hkn,hr,hb⟩:=hrel;obtain⟨wo,rfl⟩:∃ wo:World,wo=wr:=⟨_,rfl⟩;obtain⟨pp,cc,rfl⟩:=hr.slc;by_cases hlt:k<ts.length
    ·have hkI:(k:Int)<(ts.length:Int):=by omega
     obtain⟨x,hx⟩:∃ x,ts[k]?=some x:=⟨_,List.getElem?_eq_getElem hlt⟩;obtain⟨⟨pk,ck,hX2⟩,hRt⟩:=HTX.out k x hx;have jx:=(hX2 wo hb).1;have HX2:=Lib.hid hX2;have HRt:=hRt wo hb;have ct0:wo.cell? ⟨gt,k,none⟩=some (ptr (y.xb k)):=by rw[hb.cell (p:=⟨gt,k,none⟩) HGL.out];exact HCT.out k hlt
     have HTS:=Lib.hid (txP_succ hx);obtain⟨n2,hn2⟩:∃ n2,n2=P1.length+(txP ts k).length:=⟨_,rfl⟩;rw[←hn2]at hr ⊢;have HNN:=Lib.hid hn2;have HLk:=Lib.hid (HL2.out (k+1));have HR:=Lib.hid hr;have HRT:=Lib.hid HRt;unfold zd at jx;have cx:=jx.cell;have HB:=Lib.hid hb;obtain⟨r,hre⟩:∃ r,r=x.log.roots:=⟨_,rfl⟩;obtain⟨P2,hP2⟩:∃ P2,P2=P1++txP ts k:=⟨_,rfl⟩;rw[←hre]at HRT HTS;rw[←hP2]at HR;have HTS2:Hid (P1++txP ts (k+1)=P2++r++x.took.map (·.1)):=by show _=_;rw[HTS.out,hP2];simp
     rw[HTS2.out]at HLk;have HP2:Hid (P2.length=n2):=by show _=_;rw[hP2,hn2,List.length_append]
     have hk1:Hid (n2+r.length≤maxLen∧(n2+r.length)*8≤140737488355328):=HMX.out _ (by have:=HLk.out;have:=HP2.out;simp only[List.length_append,List.length_map]at *;omega)
     have HKL:=Lib.hid (qr k (by have:=HT8.out;omega))
     clear hr hRt HRt jx hre HTS hx hb hn2 hX2;go_wp2_with (first
      | (go_at_call 65;refine HRT.out.mono ?_;rintro e w3 ⟨v3,rfl,hr3,hb3⟩;obtain⟨p3,c3,rfl⟩:=hr3.slc)
      | (at_builtin;go_loud (refine zj _ rfl _ _ _ rfl 3 iI _ 1 8 hu64 hi hzI hsI hyI rfl (by decide) (fo w.heap.size) (1,0) _ _ _ rfl (Row.below HR.out hb3) _ _ _ _ _ rfl hr3 (bc _) hk1.out.1 hk1.out.2 ?_;intro v' w8 hown hst;obtain⟨p8,c8,rfl⟩:=hown.slc;have hb8:=wn (qd HB.out hb3) hst;have hr9:=xx (qd HB.out hb3) hown;have jx8:=(HX2.out w8 hb8).1;unfold zd at jx8;have cx8:=jx8.cell))
      | fail)
     clear hown hst hb3 hr3 cx jx8 cx8 ct0 HRT HR HB;have HR9:=Lib.hid hr9;have HB8:=Lib.hid hb8;have HRX:=Lib.hid (fun w2 hb=>(HX2.out w2 hb).2)
     obtain⟨tk,htk⟩:∃ tk,tk=x.took:=⟨_,rfl⟩;rw[←htk]at HRX HTS2 HLk ⊢;clear hr9 hb8 hk1 HX2 htk;go_loopw [5,50] (fun vv ix wr=>∃ j:Nat,ix=.int .i64 j∧j≤tk.length∧Row wr (fo w.heap.size) (1,0) 3 1 vv (n2+r.length+j) ((P2++r++(tk.take j).map (·.1)).map nv)∧Below w.heap.size w wr) (fun _ ix _=>tk.length-(intOf ix).toNat)
     case atStart=>exact⟨0,rfl,Nat.zero_le _,by simpa using HR9.out,HB8.out⟩
     case round =>
      clear HR9 HB8;obtain⟨j,rfl,hjn,hr,hb⟩:=hrel;obtain⟨wi,rfl⟩:∃ wi:World,wi=wr:=⟨_,rfl⟩;obtain⟨pp,cc,rfl⟩:=hr.slc;by_cases hj:j<tk.length
      ·have hjI:(j:Int)<(tk.length:Int):=by omega
       obtain⟨z,hz⟩:∃ z,tk[j]?=some z:=⟨_,List.getElem?_eq_getElem hj⟩;obtain⟨gq,rfl,q0,q1⟩:=(HRX.out wi hb).at2p j z hz;have hlen:n2+r.length+tk.length≤N+200000:=by have:=HLk.out;have:=HP2.out;simp only[List.length_append,List.length_map]at *;omega
       have hk1:Hid (n2+r.length+j+1≤maxLen∧(n2+r.length+j+1)*8≤140737488355328):=HMX.out _ (by omega)
       obtain⟨hw1,hw2⟩:=qr j (by have:=HN2.out;omega)
       have htk:(tk.take (j+1)).map (·.1)=(tk.take j).map (·.1)++[z.1]:=by rw[List.take_add_one,hz];simp
       have HTK:=Lib.hid htk;obtain⟨zp,zs⟩:=z;simp only at q0 q1 HTK;have HR:=Lib.hid hr;clear hr hz htk hlen;go_wp2_with (first|(at_builtin;refine qf _ rfl _ _ _ rfl 3 iI _ 1 8 hu64 hi hzI hsI hyI rfl (by decide) (fo w.heap.size) (1,0) _ _ _ rfl (Row.below (Row.below HR.out (qa (qc _) _)) (qa (qc _) _)) ⟨wi.heap.size+1,0,none⟩ 1 1 [.int .i64 zp] rfl rfl (qx (Blk.new_at _ _ _ _ _ (by simp) rfl)) zo hk1.out.1 hk1.out.2 ?_;intro v' w9 hown hst)|fail)
       have hb9:=qa (qa hb (.cells #[.int .i64 zp,.int .i64 zs] 117)) (.cells #[.int .i64 zp] 3);have hr9:=xx hb9 hown;have hb10:=wn hb9 hst;go_roundw
       case rel=>exact⟨j+1,by simp,by omega,by rw[HTK.out,←List.append_assoc,qar];exact hr9,hb10⟩
       case measure=>simp[intOf];omega
      ·obtain rfl:j=tk.length:=by omega
       rw[List.take_length,←HTS2.out]at hr;have hr2:=hr.ite (n':=P1.length+(txP ts (k+1)).length) (by
        have e:=congrArg List.length HTS2.out;have e2:=HP2.out;simp only[List.length_append,List.length_map]at e;omega) rfl
       have HR2:=Lib.hid hr2;have HB2:=Lib.hid hb;obtain⟨hw1,hw2⟩:=HKL.out;clear hr hr2 hb hj hjn;go_wp2_with fail;go_roundw
       case rel=>exact⟨k+1,by simp,by omega,HR2.out,HB2.out⟩
       case measure=>simp[intOf];omega
    ·obtain rfl:k=ts.length:=by omega
     have hr2:=hr.ite (n':=(ps++q.map (·.1)++txP ts ts.length).length) (by rw[←HPE.out,List.length_append]) (xs':=(ps++q.map (·.1)++txP ts ts.length).map nv) (by rw[HPE.out])
     have HR2:=Lib.hid hr2;have HB2:=Lib.hid hb;clear hr hr2 hb hlt;go_wp2_with fail;go_ret;exact⟨_,rfl,HR2.out.ite (by simp) (by simp),HB2.out⟩
end
end Go.Proofs.YteehgedabdchcaaGreat
