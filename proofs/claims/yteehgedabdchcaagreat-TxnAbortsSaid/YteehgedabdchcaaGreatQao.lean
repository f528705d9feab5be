import Derived.Test.YteehgedabdchcaaGreatQan
import Derived.Test.YteehgedabdchcaaGreatQaq
set_option linter.all false
set_option maxRecDepth 1000000
set_option maxHeartbeats 16000000
namespace Go.Proofs.YteehgedabdchcaaGreat
open Go.RowKit Hp
attribute [local go_sem ↓] Go.wp_at_zero Go.wp_at_succ
section
variable {w w' : World} {o o' : Own} {y : SLay} {S : Stt} {i : Nat}
theorem deed_dead (f:Value)(h:StIn w o y S)(hk:S.ok)(hi:i<S.txs.length)(hl:(S.t i).live=false) :
  Calls Tryz.prog 77 #[ptr y.sb,.int .i64 i,f] w fun e w'=>e=.returned (.tuple #[.int .i64 0,.int .i64 140])∧Below w.heap.size w w':=by
 have HR:=Lib.hid (fun w' (hw:Below w.heap.size w w')=>running_in (h.below hw) hk (Stt.t_get hi))
 rw[hl]at HR;simp only[Bool.false_eq_true,if_false]at HR;clear h hk hi hl;go_enter_defers Tryz.func77,Tryz.ntmps77;go_wp2_with fail;obtain⟨W,hW⟩:∃ W:World,W=((w.alloc (.cells #[ptr y.sb] 24)).alloc (.cells #[.int .i64 0] 3)).alloc (.cells #[.int .i64 0] 29):=⟨_,rfl⟩;rw[←hW];have hbW:Below w.heap.size w W:=by rw[hW];exact balloc (balloc (balloc (bsame w) _) _) _
 have hzW:W.heap.size=w.heap.size+3:=by rw[hW];simp
 have jV:Blk W (w.heap.size+1) #[.int .i64 0] 3:=by rw[hW];exact (Blk.new_at _ _ _ _ _ (by simp) rfl).alloc _
 have jE:Blk W (w.heap.size+1+1) #[.int .i64 0] 29:=by rw[hW];exact Blk.new_at _ _ _ _ _ (by simp) rfl
 clear hW;refine (HR.out _ hbW).mono ?_
 rintro e w1 ⟨rfl,rfl⟩
 have cV:=jV.cell;have zV:=jV.free;have sV:=jV.lt;have cE:=jE.cell;have zE:=jE.free;have sE:=jE.lt;go_wp2_with fail;have jV3:=(((jV.set 0 (.int .i64 0)).set_other (a:=⟨w.heap.size+1+1,0,none⟩) (by simp) (.int .i64 140)).alloc (.cells #[.pointer none] 103))
 have jE3:=(((jE.set_other (a:=⟨w.heap.size+1,0,none⟩) (by simp) (.int .i64 0)).set 0 (.int .i64 140)).alloc (.cells #[.pointer none] 103))
 have hfin:Below w.heap.size w (((W.setCell ⟨w.heap.size+1,0,none⟩ (.int .i64 0)).setCell ⟨w.heap.size+1+1,0,none⟩ (.int .i64 140)).alloc (.cells #[.pointer none] 103)):=
  balloc (bset (bset hbW (by simp) _) (by simp;omega) _) _
 generalize ((W.setCell ⟨w.heap.size+1,0,none⟩ (.int .i64 0)).setCell ⟨w.heap.size+1+1,0,none⟩ (.int .i64 140)).alloc (.cells #[.pointer none] 103)=X at *;have cV3:=jV3.cell 0;have cE3:=jE3.cell 0;simp at cV3 cE3;simp only[bodyPostD,Leaves];exact⟨.tuple #[.int .i64 0,.int .i64 140],by simp[results,Tryz.results77,go_sem,cV3,cE3],rfl,hfin⟩
theorem deed_any (g:Nat)(caps:List Value)(h0:StIn w o y S)(hk:S.ok)(hi:i<S.txs.length)(eg:∀ args w,(callFunc g args).run Tryz.prog w=.ok (.enter g args) w)
  (r:Res)(hg:(S.t i).live=true→Good S.txs.length r)
  (hdo:(S.t i).live=true→∀ w1 o1,Below w.heap.size w w1→(∀ b,b<w.heap.size→o1 b=o b)→StIn w1 o1 y S→Calls Tryz.prog g (ptr (y.xb i)::caps).toArray w1 fun e w'=>e=.returned (.tuple #[.int .i64 r.v,.int .i64 r.e])∧Lft y r.S o1 w1 w') :
  Calls Tryz.prog 77 #[ptr y.sb,.int .i64 i,.func (.func g) #[] caps.toArray] w fun e w'=>e=.returned (.tuple #[.int .i64 (S.deedR i r).v,.int .i64 (S.deedR i r).e])∧Lft y (S.deedR i r).S o w w':=by
 unfold Stt.deedR
 cases hl:(S.t i).live with
 | false =>
  rw[if_neg (by simp)]
  refine (deed_dead _ h0 hk hi hl).mono ?_
  rintro e w' ⟨rfl,hb⟩
  exact⟨rfl,h0.lft hb⟩
 | true =>
  rw[if_pos rfl];replace hdo:=hdo hl;have hg:=hg hl;have hx:=Stt.t_get hi;obtain⟨S',v,e⟩:=r
  cases ha:isAb e with
  | true =>
   have e1:Res.fin ⟨S',v,e⟩ i=⟨S'.abort i,0,e⟩:=by unfold Res.fin;rw[if_pos ha]
   rw[e1];have he:e=141∨e=130∨e=100:=by
    unfold isAb at ha;simp only[Bool.or_eq_true,beq_iff_eq]at ha;omega
   refine (deed_abort g caps h0 hk hx hl eg (stTag y) (stTag_box y) S' (S'.abort i) v e he hdo fun w1 o1 h1=>abort_any h1 hg.1 (by have h2:S'.txs.length=S.txs.length:=hg.2;omega)).mono ?_
   rintro e w' ⟨rfl,o',h1,h2⟩
   exact⟨rfl,o',h1,h2.mono fun _ h=>h.elim id id⟩
  | false =>
   have hne:e≠141∧e≠130∧e≠100:=by
    unfold isAb at ha;simp only[Bool.or_eq_false_iff,beq_eq_false_iff_ne]at ha;exact⟨ha.1.1,ha.1.2,ha.2⟩
   by_cases h0':e=0
   ·subst h0'
    have e1:Res.fin ⟨S',v,0⟩ i=⟨S',v,0⟩:=by unfold Res.fin;rw[if_neg (by rw[ha];simp),if_pos rfl]
    rw[e1];exact deed_ok g caps h0 hk hx hl eg (stTag y) (stTag_box y) S' v hdo
   ·have e1:Res.fin ⟨S',v,e⟩ i=⟨S',0,e⟩:=by unfold Res.fin;rw[if_neg (by rw[ha];simp),if_neg h0']
    rw[e1];exact deed_err g caps h0 hk hx hl eg (stTag y) (stTag_box y) S' v e h0' hne.1 hne.2.1 hne.2.2 hdo
theorem field1_num (p j:Nat)(ef v er:Int)(S1 S2:Stt)
  (fields:Calls Tryz.prog 136 #[ptr y.sb,ptr (y.xb i),.int .i64 p] w fun e w'=>e=.returned (.int .i64 ef)∧Lft y S1 o w w')
  (get:∀ w1 o1,StIn w1 o1 y S1→Calls Tryz.prog 76 #[ptr y.l.h,.int .i64 p,.int .i64 j] w1 fun e w'=>e=.returned (.tuple #[.int .i64 v,.int .i64 er])∧Lft y S2 o1 w1 w')
  {b1 b2 b3 b4:Nat}(j1:Blk w b1 #[ptr y.sb] 24)(j2:Blk w b2 #[.int .i64 p] 3)(j3:Blk w b3 #[.func (.func 76) #[] #[]] 123)(j4:Blk w b4 #[.int .i64 j] 3)
  (t1:o b1=(y.l.id+1,0))(t2:o b2=(y.l.id+1,0))(t3:o b3=(y.l.id+1,0))(t4:o b4=(y.l.id+1,0))(R:Res)(r1:ef≠0→R=⟨S1,0,ef⟩)(r2:ef=0→R=⟨S2,v,er⟩) :
  Calls Tryz.prog 135 #[ptr (y.xb i),ptr b1,ptr b2,ptr b3,ptr b4] w fun e w'=>e=.returned (.tuple #[.int .i64 R.v,.int .i64 R.e])∧Lft y R.S o w w':=by
 have HF:=Lib.hid fields;have HG:=Lib.hid get;have HB:=Lib.hid (stTag_box y);have c1:=j1.cell;have c2:=j2.cell;have H1:=Lib.hid r1;have H2:=Lib.hid r2;clear fields get r1 r2;by_cases he:ef=0
 ·have H3:=Lib.hid (H2.out he)
  clear H1 H2;subst he;rw[H3.out];clear H3;go_enter Tryz.func135,Tryz.ntmps135;go_wp2_with fail;refine HF.out.mono ?_
  rintro e w1 ⟨rfl,o1,hS1,hs1⟩
  have k1:=j1.stp hs1 (by rw[t1];exact HB.out)
  have k2:=j2.stp hs1 (by rw[t2];exact HB.out)
  have k3:=j3.stp hs1 (by rw[t3];exact HB.out)
  have k4:=j4.stp hs1 (by rw[t4];exact HB.out)
  obtain⟨vq,vl,vm,jb,_⟩:=hS1.blk;unfold stCells at jb;have l1:=j1.lt;have l2:=j2.lt;have l3:=j3.lt;have l4:=j4.lt;clear c1 c2 j1 j2 j3 j4;have HG2:=Lib.hid (HG.out w1.drew o1 (hS1.below (bdrew (bsame w1))));have HS:=Lib.hid hs1;have u1:o1 b1=(y.l.id+1,0):=(hs1.tags _ l1).trans t1;have u2:o1 b2=(y.l.id+1,0):=(hs1.tags _ l2).trans t2;have u3:o1 b3=(y.l.id+1,0):=(hs1.tags _ l3).trans t3;have u4:o1 b4=(y.l.id+1,0):=(hs1.tags _ l4).trans t4;have HKc:=Lib.hid (fun (w2:World)(o2:Own)(hs2:Stp (stTag y) o1 o2 w1.drew w2) =>
   show w2.cell? ⟨b1,0,none⟩=some (ptr y.sb)∧w2.cell? ⟨b2,0,none⟩=some (.int .i64 p)∧w2.cell? ⟨b3,0,none⟩=some (.func (.func 76) #[] #[])∧w2.cell? ⟨b4,0,none⟩=some (.int .i64 j) from
    ⟨((drewB k1).stp hs2 (by rw[u1];exact HB.out)).cell 0,((drewB k2).stp hs2 (by rw[u2];exact HB.out)).cell 0,((drewB k3).stp hs2 (by rw[u3];exact HB.out)).cell 0,((drewB k4).stp hs2 (by rw[u4];exact HB.out)).cell 0⟩)
  have HSb:=Lib.hid (fun (w2:World)(o2:Own)(h2:StIn w2 o2 y S2)=>show w2.cell? ⟨y.sb,0,none⟩=some (ptr y.l.h) from by
   obtain⟨_,_,_,jb2,_⟩:=h2.blk;exact jb2.cell 0)
  clear hS1 hs1 HG u1 u2 u3 u4 l1 l2 l3 l4 t1 t2 t3 t4;have c1:w1.cell? ⟨b1,0,none⟩=some (ptr y.sb):=k1.cell 0;have c2:w1.cell? ⟨b2,0,none⟩=some (.int .i64 p):=k2.cell 0;have c3:w1.cell? ⟨b3,0,none⟩=some (.func (.func 76) #[] #[]):=k3.cell 0;have c4:w1.cell? ⟨b4,0,none⟩=some (.int .i64 j):=k4.cell 0;have cb:w1.cell? ⟨y.sb,0,none⟩=some (ptr y.l.h):=jb.cell 0;clear k1 k2 k3 k4 jb;go_upto_region 4 with fail;go_region_held3 (fun w'=>w'.cell? ⟨b1,0,none⟩=some (ptr y.sb)∧w'.cell? ⟨b2,0,none⟩=some (.int .i64 p)∧w'.cell? ⟨b3,0,none⟩=some (.func (.func 76) #[] #[])∧w'.cell? ⟨b4,0,none⟩=some (.int .i64 j)∧w'.cell? ⟨y.sb,0,none⟩=some (ptr y.l.h))(first|exact⟨by assumption,by assumption,by assumption,by assumption,by assumption⟩|go_keep)(first
   | (go_at_call 76;refine HG2.out.mono ?_;rintro e w2 ⟨rfl,o2,hS2,hs2⟩;obtain⟨d1,d2,d3,d4⟩:=HKc.out _ _ hs2;have db:=HSb.out _ _ hS2)
   | fail)
  go_wp2_with fail;go_ret2;exact⟨rfl,o2,hS2,HS.out.trans ((Stp.of_below (bdrew (bsame w1))).trans hs2)⟩
 ·have H3:=Lib.hid (H1.out he)
  have hb:(ef != 0)=true:=by rw[bne_iff_ne];exact he
  have hb2:(ef==0)=false:=by rw[beq_eq_false_iff_ne];exact he
  clear H1 H2;rw[H3.out];clear H3;go_enter Tryz.func135,Tryz.ntmps135;go_wp2_with fail;refine HF.out.mono ?_
  rintro e w1 ⟨rfl,o1,hS1,hs1⟩
  go_wp2_with fail;go_ret2;exact⟨rfl,o1,hS1,hs1⟩
theorem field1_ptr (p j:Nat)(ef v er:Int)(S1 S2:Stt)
  (fields:Calls Tryz.prog 136 #[ptr y.sb,ptr (y.xb i),.int .i64 p] w fun e w'=>e=.returned (.int .i64 ef)∧Lft y S1 o w w')
  (get:∀ w1 o1,StIn w1 o1 y S1→Calls Tryz.prog 112 #[ptr y.l.h,.int .i64 p,.int .i64 j] w1 fun e w'=>e=.returned (.tuple #[.int .i64 v,.int .i64 er])∧Lft y S2 o1 w1 w')
  {b1 b2 b3 b4:Nat}(j1:Blk w b1 #[ptr y.sb] 24)(j2:Blk w b2 #[.int .i64 p] 3)(j3:Blk w b3 #[.func (.func 112) #[] #[]] 123)(j4:Blk w b4 #[.int .i64 j] 3)
  (t1:o b1=(y.l.id+1,0))(t2:o b2=(y.l.id+1,0))(t3:o b3=(y.l.id+1,0))(t4:o b4=(y.l.id+1,0))(R:Res)(r1:ef≠0→R=⟨S1,0,ef⟩)(r2:ef=0→R=⟨S2,v,er⟩) :
  Calls Tryz.prog 135 #[ptr (y.xb i),ptr b1,ptr b2,ptr b3,ptr b4] w fun e w'=>e=.returned (.tuple #[.int .i64 R.v,.int .i64 R.e])∧Lft y R.S o w w':=by
 have HF:=Lib.hid fields;have HG:=Lib.hid get;have HB:=Lib.hid (stTag_box y);have c1:=j1.cell;have c2:=j2.cell;have H1:=Lib.hid r1;have H2:=Lib.hid r2;clear fields get r1 r2;by_cases he:ef=0
 ·have H3:=Lib.hid (H2.out he)
  clear H1 H2;subst he;rw[H3.out];clear H3;go_enter Tryz.func135,Tryz.ntmps135;go_wp2_with fail;refine HF.out.mono ?_
  rintro e w1 ⟨rfl,o1,hS1,hs1⟩
  have k1:=j1.stp hs1 (by rw[t1];exact HB.out)
  have k2:=j2.stp hs1 (by rw[t2];exact HB.out)
  have k3:=j3.stp hs1 (by rw[t3];exact HB.out)
  have k4:=j4.stp hs1 (by rw[t4];exact HB.out)
  obtain⟨vq,vl,vm,jb,_⟩:=hS1.blk;unfold stCells at jb;have l1:=j1.lt;have l2:=j2.lt;have l3:=j3.lt;have l4:=j4.lt;clear c1 c2 j1 j2 j3 j4;have HG2:=Lib.hid (HG.out w1.drew o1 (hS1.below (bdrew (bsame w1))));have HS:=Lib.hid hs1;have u1:o1 b1=(y.l.id+1,0):=(hs1.tags _ l1).trans t1;have u2:o1 b2=(y.l.id+1,0):=(hs1.tags _ l2).trans t2;have u3:o1 b3=(y.l.id+1,0):=(hs1.tags _ l3).trans t3;have u4:o1 b4=(y.l.id+1,0):=(hs1.tags _ l4).trans t4;have HKc:=Lib.hid (fun (w2:World)(o2:Own)(hs2:Stp (stTag y) o1 o2 w1.drew w2) =>
   show w2.cell? ⟨b1,0,none⟩=some (ptr y.sb)∧w2.cell? ⟨b2,0,none⟩=some (.int .i64 p)∧w2.cell? ⟨b3,0,none⟩=some (.func (.func 112) #[] #[])∧w2.cell? ⟨b4,0,none⟩=some (.int .i64 j) from
    ⟨((drewB k1).stp hs2 (by rw[u1];exact HB.out)).cell 0,((drewB k2).stp hs2 (by rw[u2];exact HB.out)).cell 0,((drewB k3).stp hs2 (by rw[u3];exact HB.out)).cell 0,((drewB k4).stp hs2 (by rw[u4];exact HB.out)).cell 0⟩)
  have HSb:=Lib.hid (fun (w2:World)(o2:Own)(h2:StIn w2 o2 y S2)=>show w2.cell? ⟨y.sb,0,none⟩=some (ptr y.l.h) from by
   obtain⟨_,_,_,jb2,_⟩:=h2.blk;exact jb2.cell 0)
  clear hS1 hs1 HG u1 u2 u3 u4 l1 l2 l3 l4 t1 t2 t3 t4;have c1:w1.cell? ⟨b1,0,none⟩=some (ptr y.sb):=k1.cell 0;have c2:w1.cell? ⟨b2,0,none⟩=some (.int .i64 p):=k2.cell 0;have c3:w1.cell? ⟨b3,0,none⟩=some (.func (.func 112) #[] #[]):=k3.cell 0;have c4:w1.cell? ⟨b4,0,none⟩=some (.int .i64 j):=k4.cell 0;have cb:w1.cell? ⟨y.sb,0,none⟩=some (ptr y.l.h):=jb.cell 0;clear k1 k2 k3 k4 jb;go_upto_region 4 with fail;go_region_held3 (fun w'=>w'.cell? ⟨b1,0,none⟩=some (ptr y.sb)∧w'.cell? ⟨b2,0,none⟩=some (.int .i64 p)∧w'.cell? ⟨b3,0,none⟩=some (.func (.func 112) #[] #[])∧w'.cell? ⟨b4,0,none⟩=some (.int .i64 j)∧w'.cell? ⟨y.sb,0,none⟩=some (ptr y.l.h))(first|exact⟨by assumption,by assumption,by assumption,by assumption,by assumption⟩|go_keep)(first
   | (go_at_call 112;refine HG2.out.mono ?_;rintro e w2 ⟨rfl,o2,hS2,hs2⟩;obtain⟨d1,d2,d3,d4⟩:=HKc.out _ _ hs2;have db:=HSb.out _ _ hS2)
   | fail)
  go_wp2_with fail;go_ret2;exact⟨rfl,o2,hS2,HS.out.trans ((Stp.of_below (bdrew (bsame w1))).trans hs2)⟩
 ·have H3:=Lib.hid (H1.out he)
  have hb:(ef != 0)=true:=by rw[bne_iff_ne];exact he
  have hb2:(ef==0)=false:=by rw[beq_eq_false_iff_ne];exact he
  clear H1 H2;rw[H3.out];clear H3;go_enter Tryz.func135,Tryz.ntmps135;go_wp2_with fail;refine HF.out.mono ?_
  rintro e w1 ⟨rfl,o1,hS1,hs1⟩
  go_wp2_with fail;go_ret2;exact⟨rfl,o1,hS1,hs1⟩
theorem eg_field1 (args:Array Value)(w:World):(callFunc 135 args).run Tryz.prog w=.ok (.enter 135 args) w:=enters_of Tryz.func135 (by kernel_rfl) rfl args w
theorem eg_hnum (args:Array Value)(w:World):(callFunc 76 args).run Tryz.prog w=.ok (.enter 76 args) w:=enters_of Tryz.func76 (by kernel_rfl) rfl args w
theorem eg_hptr (args:Array Value)(w:World):(callFunc 112 args).run Tryz.prog w=.ok (.enter 112 args) w:=enters_of Tryz.func112 (by kernel_rfl) rfl args w
theorem sfield_num (h0:StIn w o y S)(hk:S.ok)(hi:i<S.txs.length)(p j:Nat)(v er:Int)(S2:Stt)(R:Res)
  (get:∀ w1 o1,StIn w1 o1 y (S.fieldsR i p).1→Calls Tryz.prog 76 #[ptr y.l.h,.int .i64 p,.int .i64 j] w1 fun e w'=>e=.returned (.tuple #[.int .i64 v,.int .i64 er])∧Lft y S2 o1 w1 w')
  (hG:Good S.txs.length R)(r1:(S.fieldsR i p).2≠0→R=⟨(S.fieldsR i p).1,0,(S.fieldsR i p).2⟩)(r2:(S.fieldsR i p).2=0→R=⟨S2,v,er⟩) :
  Calls Tryz.prog 75 #[ptr y.sb,.int .i64 i,.int .i64 p,.int .i64 j,.func (.func 76) #[] #[]] w fun e w'=>e=.returned (.tuple #[.int .i64 (S.deedR i R).v,.int .i64 (S.deedR i R).e])∧Lft y (S.deedR i R).S o w w':=by
 have hmf:∀ (fn:Fn)(first cap:Array Value)(w:World),(Instr.makeFunc fn first cap).run Tryz.prog w=.ok (.func fn first cap) w:=fun _ _ _ _=>rfl
 obtain⟨o1,ho1⟩:∃ o1,o1=ext o w.heap.size (y.l.id+1,0):=⟨_,rfl⟩;have h:=h0.retag (o':=o1) fun b hb=>by rw[ho1];exact ext_lt hb
 have hS0:Stp (stTag y) o o1 w w:=by rw[ho1];exact (Stp.refl _ o w).ext _ _ (Nat.le_refl _)
 have hbx:∀ b,w.heap.size≤b→o1 b=(y.l.id+1,0):=fun b hb=>by rw[ho1];exact ext_ge hb
 clear ho1 h0;obtain⟨W,hW⟩:∃ W:World,W=(((w.alloc (.cells #[ptr y.sb] 24)).alloc (.cells #[.int .i64 p] 3)).alloc (.cells #[.int .i64 j] 3)).alloc (.cells #[.func (.func 76) #[] #[]] 123):=⟨_,rfl⟩;have hbW:Below w.heap.size w W:=by rw[hW];exact balloc (balloc (balloc (balloc (bsame w) _) _) _) _
 have j1:Blk W w.heap.size #[ptr y.sb] 24:=by rw[hW];exact (((Blk.new w _ _).alloc _).alloc _).alloc _
 have j2:Blk W (w.heap.size+1) #[.int .i64 p] 3:=by rw[hW];exact ((Blk.new_at _ _ _ _ _ (by simp) rfl).alloc _).alloc _
 have j4:Blk W (w.heap.size+1+1) #[.int .i64 j] 3:=by rw[hW];exact (Blk.new_at _ _ _ _ _ (by simp) rfl).alloc _
 have j3:Blk W (w.heap.size+1+1+1) #[.func (.func 76) #[] #[]] 123:=by rw[hW];exact Blk.new_at _ _ _ _ _ (by simp) rfl
 have HD:=Lib.hid (deed_any 135 [ptr w.heap.size,ptr (w.heap.size+1),ptr (w.heap.size+1+1+1),ptr (w.heap.size+1+1)] (h.below hbW) hk hi eg_field1 R (fun _=>hG)
  (fun _ w1 o2 hb he2 hS=>field1_num p j _ v er _ S2 (fields_any hS hk hi p) get (j1.below hb j1.lt) (j2.below hb j2.lt) (j3.below hb j3.lt) (j4.below hb j4.lt)
   ((he2 _ j1.lt).trans (hbx _ (by omega))) ((he2 _ j2.lt).trans (hbx _ (by omega))) ((he2 _ j3.lt).trans (hbx _ (by omega))) ((he2 _ j4.lt).trans (hbx _ (by omega))) R r1 r2))
 have HS:=Lib.hid (hS0.trans (Stp.of_below hbW));generalize S.deedR i R=R' at *;clear h hk hi get hG r1 r2 hbx hS0 hbW j1 j2 j3 j4;go_enter Tryz.func75,Tryz.ntmps75;go_wp2_with fail;rw[←hW];refine HD.out.mono ?_
 rintro e w2⟨rfl,o2,hS2,hs2⟩
 go_wp2_with fail;go_ret2;exact⟨rfl,o2,hS2,HS.out.trans hs2⟩
theorem sfield_ptr (h0:StIn w o y S)(hk:S.ok)(hi:i<S.txs.length)(p j:Nat)(v er:Int)(S2:Stt)(R:Res)
  (get:∀ w1 o1,StIn w1 o1 y (S.fieldsR i p).1→Calls Tryz.prog 112 #[ptr y.l.h,.int .i64 p,.int .i64 j] w1 fun e w'=>e=.returned (.tuple #[.int .i64 v,.int .i64 er])∧Lft y S2 o1 w1 w')
  (hG:Good S.txs.length R)(r1:(S.fieldsR i p).2≠0→R=⟨(S.fieldsR i p).1,0,(S.fieldsR i p).2⟩)(r2:(S.fieldsR i p).2=0→R=⟨S2,v,er⟩) :
  Calls Tryz.prog 75 #[ptr y.sb,.int .i64 i,.int .i64 p,.int .i64 j,.func (.func 112) #[] #[]] w fun e w'=>e=.returned (.tuple #[.int .i64 (S.deedR i R).v,.int .i64 (S.deedR i R).e])∧Lft y (S.deedR i R).S o w w':=by
 have hmf:∀ (fn:Fn)(first cap:Array Value)(w:World),(Instr.makeFunc fn first cap).run Tryz.prog w=.ok (.func fn first cap) w:=fun _ _ _ _=>rfl
 obtain⟨o1,ho1⟩:∃ o1,o1=ext o w.heap.size (y.l.id+1,0):=⟨_,rfl⟩;have h:=h0.retag (o':=o1) fun b hb=>by rw[ho1];exact ext_lt hb
 have hS0:Stp (stTag y) o o1 w w:=by rw[ho1];exact (Stp.refl _ o w).ext _ _ (Nat.le_refl _)
 have hbx:∀ b,w.heap.size≤b→o1 b=(y.l.id+1,0):=fun b hb=>by rw[ho1];exact ext_ge hb
 clear ho1 h0;obtain⟨W,hW⟩:∃ W:World,W=(((w.alloc (.cells #[ptr y.sb] 24)).alloc (.cells #[.int .i64 p] 3)).alloc (.cells #[.int .i64 j] 3)).alloc (.cells #[.func (.func 112) #[] #[]] 123):=⟨_,rfl⟩;have hbW:Below w.heap.size w W:=by rw[hW];exact balloc (balloc (balloc (balloc (bsame w) _) _) _) _
 have j1:Blk W w.heap.size #[ptr y.sb] 24:=by rw[hW];exact (((Blk.new w _ _).alloc _).alloc _).alloc _
 have j2:Blk W (w.heap.size+1) #[.int .i64 p] 3:=by rw[hW];exact ((Blk.new_at _ _ _ _ _ (by simp) rfl).alloc _).alloc _
 have j4:Blk W (w.heap.size+1+1) #[.int .i64 j] 3:=by rw[hW];exact (Blk.new_at _ _ _ _ _ (by simp) rfl).alloc _
 have j3:Blk W (w.heap.size+1+1+1) #[.func (.func 112) #[] #[]] 123:=by rw[hW];exact Blk.new_at _ _ _ _ _ (by simp) rfl
 have HD:=Lib.hid (deed_any 135 [ptr w.heap.size,ptr (w.heap.size+1),ptr (w.heap.size+1+1+1),ptr (w.heap.size+1+1)] (h.below hbW) hk hi eg_field1 R (fun _=>hG)
  (fun _ w1 o2 hb he2 hS=>field1_ptr p j _ v er _ S2 (fields_any hS hk hi p) get (j1.below hb j1.lt) (j2.below hb j2.lt) (j3.below hb j3.lt) (j4.below hb j4.lt)
   ((he2 _ j1.lt).trans (hbx _ (by omega))) ((he2 _ j2.lt).trans (hbx _ (by omega))) ((he2 _ j3.lt).trans (hbx _ (by omega))) ((he2 _ j4.lt).trans (hbx _ (by omega))) R r1 r2))
 have HS:=Lib.hid (hS0.trans (Stp.of_below hbW));generalize S.deedR i R=R' at *;clear h hk hi get hG r1 r2 hbx hS0 hbW j1 j2 j3 j4;go_enter Tryz.func75,Tryz.ntmps75;go_wp2_with fail;rw[←hW];refine HD.out.mono ?_
 rintro e w2⟨rfl,o2,hS2,hs2⟩
 go_wp2_with fail;go_ret2;exact⟨rfl,o2,hS2,HS.out.trans hs2⟩
def Stt.read (S:Stt)(i p j:Nat):Res:=S.deedR i (S.readR i p j)
def Stt.get (S:Stt)(i p j:Nat):Res:=S.deedR i (S.getR i p j)
theorem sread_any (h:StIn w o y S)(hk:S.ok)(hi:i<S.txs.length)(p j:Nat) :
  Calls Tryz.prog 24 #[ptr y.sb,.int .i64 i,.int .i64 p,.int .i64 j] w fun e w'=>e=.returned (.tuple #[.int .i64 (S.read i p j).v,.int .i64 (S.read i p j).e])∧Lft y (S.read i p j).S o w w':=by
 have hf:=Stt.ok_fields hk hi p;have HF:=Lib.hid (sfield_num h hk hi p j ((S.fieldsR i p).1.H.numR p j).1 ((S.fieldsR i p).1.H.numR p j).2 (S.fieldsR i p).1 (S.readR i p j)
  (fun w1 o1 h1=>(s_num h1 hf p j).mono fun _ _⟨a,b⟩=>⟨a,h1.lft b⟩) (good_readR hk hi p j) (fun he=>by unfold Stt.readR;rw[if_pos he]) (fun he=>by unfold Stt.readR;rw[if_neg (by simpa using he)]))
 unfold Stt.read;generalize S.deedR i (S.readR i p j)=R at *;clear h hk hi hf;go_enter Tryz.func24,Tryz.ntmps24;go_wp2_with fail;refine HF.out.mono ?_
 rintro e w2⟨rfl,h2⟩
 go_wp2_with fail;go_ret2;exact⟨rfl,h2⟩
theorem sget_any (h:StIn w o y S)(hk:S.ok)(hi:i<S.txs.length)(p j:Nat) :
  Calls Tryz.prog 57 #[ptr y.sb,.int .i64 i,.int .i64 p,.int .i64 j] w fun e w'=>e=.returned (.tuple #[.int .i64 (S.get i p j).v,.int .i64 (S.get i p j).e])∧Lft y (S.get i p j).S o w w':=by
 have hf:=Stt.ok_fields hk hi p;have HF:=Lib.hid (sfield_ptr h hk hi p j ((S.fieldsR i p).1.H.ptrR p j).2.1 ((S.fieldsR i p).1.H.ptrR p j).2.2 ((S.fieldsR i p).1.h ((S.fieldsR i p).1.H.ptrR p j).1) (S.getR i p j)
  (fun w1 o1 h1=>s_ptr h1 hf p j) (good_getR hk hi p j) (fun he=>by unfold Stt.getR;rw[if_pos he]) (fun he=>by unfold Stt.getR;rw[if_neg (by simpa using he)]))
 unfold Stt.get;generalize S.deedR i (S.getR i p j)=R at *;clear h hk hi hf;go_enter Tryz.func57,Tryz.ntmps57;go_wp2_with fail;refine HF.out.mono ?_
 rintro e w2⟨rfl,h2⟩
 go_wp2_with fail;go_ret2;exact⟨rfl,h2⟩
end
section
variable {w w' : World} {o o' : Own} {y : SLay} {S : Stt} {i : Nat}
theorem s_loghold_no (h:StIn w o y S)(hk:S.ok)(hi:i<S.txs.length)(p v:Nat)(hn:(S.holdLR i p v).2=false) :
  Calls Tryz.prog 168 #[ptr (y.lb i),.agg #[.int .i64 p,.int .i64 v]] w fun e w'=>e=.returned (.bool false)∧Below w.heap.size w w':=by
 obtain⟨vr,vk,vh,vu,hl⟩:=(h.txs i _ (Stt.t_get hi)).log;unfold Stt.holdLR at hn;by_cases hd:∀ z ∈ (S.t i).log.holds,z.1≠p
 ·by_cases hm:(S.t i).log.holds.length<(S.t i).log.mu
  ·have e1:mayHold (S.t i).log p=true:=by unfold mayHold;simp only[Bool.and_eq_true,decide_eq_true_eq];exact⟨hd,hm⟩
   rw[if_pos e1]at hn;cases hn
  ·exact log_hold_full hl (hk.lgt hi).ok p v hd (by omega)
 ·exact log_hold_dup hl (hk.lgt hi).ok p v hd
theorem holdR_no {S:Stt}{i p:Nat}(hn:(S.holdR i p).2=false):¬S.H.sec p%2=1∧(S.holdLR i p (S.H.sec p/2)).2=false∧(S.holdR i p).1=S:=by
 unfold Stt.holdR at hn ⊢;split at hn
 ·cases hn
 ·rename_i h1
  rw[if_neg h1];split at hn
  ·cases hn
  ·rename_i h2
   rw[if_neg h2];exact⟨h1,by simpa using h2,rfl⟩
theorem hold_no (h:StIn w o y S)(hk:S.ok)(hi:i<S.txs.length)(p:Nat)(hn:(S.holdR i p).2=false) :
  Calls Tryz.prog 119 #[ptr y.sb,ptr (y.xb i),.int .i64 p] w fun e w'=>e=.returned (.bool false)∧Below w.heap.size w w':=by
 obtain⟨hod,hno,_⟩:=holdR_no hn;have HC:=Lib.hid (s_second h hk p);obtain⟨hs,hv⟩:=hk.sec p;have HO:=(fun w=>owner_any (S.H.sec p) hv hs w)
 obtain⟨vq,vl,vm,hb,_⟩:=h.blk;unfold stCells at hb;have c:=hb.cell;obtain⟨vt,jx,_⟩:=(h.txs i _ (Stt.t_get hi)).blk;unfold txCells at jx;have HL:=Lib.hid (fun w' (hw:Below w.heap.size w w')=>s_loghold_no (h.below hw) hk hi p (S.H.sec p/2) hno)
 rw[if_neg hod,if_neg hod,decide_eq_false hod]at HO;replace HO:=Lib.hid HO;generalize S.H.sec p/2=v2 at *;generalize S.H.sec p=v at *;clear h hk hi hs hv hod hn hno;go_enter Tryz.func119,Tryz.ntmps119;go_wp2_with fail;refine HC.out.mono ?_
 rintro e w1⟨er,rfl,hb1⟩
 have cx:=(jx.below hb1 jx.lt).cell;go_wp2_with fail;refine (HO.out _).mono ?_
 rintro e w2⟨rfl,rfl⟩
 go_wp2_with fail;refine (HL.out _ hb1).mono ?_
 rintro e w2⟨rfl,hb2⟩
 go_wp2_with fail;go_ret;exact⟨rfl,btrans hb1 hb2⟩
structure ChgR (ef eg se:Int)(hb ub:Bool)(S1 S2 S3 S4 S5:Stt)(R:Res):Prop where
 r1:ef≠0→R.S=S1∧R.e=ef
 r2:ef=0→eg≠0→R.S=S2∧R.e=eg
 r3:ef=0→eg=0→hb=false→R.S=S3∧R.e=130
 r4:ef=0→eg=0→hb=true→ub=false→R.S=S4∧R.e=130
 r5:ef=0→eg=0→hb=true→ub=true→R.S=S5∧R.e=se
theorem schange_any (gf sf:Nat)(egf:∀ args w,(callFunc gf args).run Tryz.prog w=.ok (.enter gf args) w)(esf:∀ args w,(callFunc sf args).run Tryz.prog w=.ok (.enter sf args) w)
  (kd p j:Nat)(v old ef eg se:Int)(hb ub:Bool)(S1 S2 S3 S4 S5:Stt)(R:Res)(hR:ChgR ef eg se hb ub S1 S2 S3 S4 S5 R)(h:StIn w o y S)(hx3:i<S3.txs.length)
  (fields:∀ w1 o1,StIn w1 o1 y S→Calls Tryz.prog 136 #[ptr y.sb,ptr (y.xb i),.int .i64 p] w1 fun e w'=>e=.returned (.int .i64 ef)∧Lft y S1 o1 w1 w')
  (get:∀ w1 o1,StIn w1 o1 y S1→Calls Tryz.prog gf #[ptr y.l.h,.int .i64 p,.int .i64 j] w1 fun e w'=>e=.returned (.tuple #[.int .i64 old,.int .i64 eg])∧Lft y S2 o1 w1 w')
  (hold:∀ w1 o1,StIn w1 o1 y S2→Calls Tryz.prog 119 #[ptr y.sb,ptr (y.xb i),.int .i64 p] w1 fun e w'=>e=.returned (.bool hb)∧Lft y S3 o1 w1 w')
  (hno:hb=false→S3=S2∧∀ w1 o1,StIn w1 o1 y S2→Calls Tryz.prog 119 #[ptr y.sb,ptr (y.xb i),.int .i64 p] w1 fun e w'=>e=.returned (.bool false)∧Below w1.heap.size w1 w')
  (undo:∀ w1 o1,StIn w1 o1 y S3→Calls Tryz.prog 120 #[ptr (y.lb i),.agg #[.int .i64 kd,.int .i64 p,.int .i64 j,.int .i64 old]] w1 fun e w'=>e=.returned (.bool ub)∧Lft y S4 o1 w1 w')
  (set:∀ w1 o1,StIn w1 o1 y S4→Calls Tryz.prog sf #[ptr y.l.h,.int .i64 p,.int .i64 j,.int .i64 v] w1 fun e w'=>e=.returned (.int .i64 se)∧Lft y S5 o1 w1 w') :
  Calls Tryz.prog 109 #[ptr y.sb,ptr (y.xb i),.agg #[.int .i64 kd,.int .i64 p,.int .i64 j,.int .i64 0],.func (.func gf) #[ptr y.l.h] #[],.func (.func sf) #[ptr y.l.h] #[],.int .i64 v] w
   fun e w'=>e=.returned (.int .i64 R.e)∧Lft y R.S o w w':=by
 obtain⟨o1,ho1⟩:∃ o1,o1=ext o w.heap.size (y.l.id+1,0):=⟨_,rfl⟩;have hr:=h.retag (o':=o1) fun b hb=>by rw[ho1];exact ext_lt hb
 have hS0:Stp (stTag y) o o1 w w:=by rw[ho1];exact (Stp.refl _ o w).ext _ _ (Nat.le_refl _)
 have hbx:o1 w.heap.size=(y.l.id+1,0):=by rw[ho1];exact ext_ge (Nat.le_refl _)
 clear ho1 h;obtain⟨RS,Rv,Re⟩:=R;have HRR:=Lib.hid hR;have HF:=Lib.hid (fun w' (hw:Below w.heap.size w w')=>fields w' o1 (hr.below hw))
 have HG:=Lib.hid get;have HH:=Lib.hid hold;have HN:=Lib.hid hno;have HU:=Lib.hid undo;have HS:=Lib.hid set;have HB:=Lib.hid (stTag_box y);have H0:=Lib.hid hS0;have hX2:=Lib.hid (fun w' o' (hS:StIn w' o' y S3)=>(hS.txs i _ (Stt.t_get hx3)).blk)
 have jU:=Blk.new w #[.int .i64 kd,.int .i64 p,.int .i64 j,.int .i64 0] 175;clear fields get hold hno undo set hr hS0 hx3 hR;go_enter Tryz.func109,Tryz.ntmps109;have cU:=jU.cell;go_wp2_with fail;refine (HF.out _ (balloc (bsame w) _)).mono ?_
 rintro e w1 ⟨rfl,o2,hS1,hs1⟩
 have jU1:=jU.stp hs1 (by rw[hbx];exact HB.out)
 have tU1:o2 w.heap.size=(y.l.id+1,0):=(hs1.tags _ jU.lt).trans hbx;have H1:=Lib.hid (H0.out.trans ((Stp.of_below (balloc (bsame w) _)).trans hs1));clear cU hs1 jU hbx;by_cases he:ef=0
 ·subst he
  have cU:=jU1.cell;go_wp2_with fail;refine (HG.out _ o2 hS1).mono ?_
  rintro e w2 ⟨rfl,o3,hS2,hs2⟩
  have jU2:=jU1.stp hs2 (by rw[tU1];exact HB.out)
  have tU2:o3 w.heap.size=(y.l.id+1,0):=(hs2.tags _ jU1.lt).trans tU1;have H2:=Lib.hid (H1.out.trans hs2);clear cU hs2 jU1 tU1 hS1;by_cases he2:eg=0
  ·subst he2
   have cU:=jU2.cell;have zU:=jU2.free;have sU:=jU2.lt;go_upto_region 8 with fail;obtain⟨W,hW⟩:∃ W:World,W=w2.setCell ⟨w.heap.size,3,none⟩ (.int .i64 old):=⟨_,rfl⟩;rw[←hW];have jW:Blk W w.heap.size #[.int .i64 kd,.int .i64 p,.int .i64 j,.int .i64 old] 175:=by rw[hW];exact jU2.set 3 _
   have hSW:StIn W o3 y S2:=by rw[hW];exact hS2.box tU2 _
   have hs2:Stp (stTag y) o o3 w W:=by rw[hW];exact H2.out.setCell_new (Nat.le_refl _) _
   clear hW cU zU sU jU2 hS2 H2;have cW:=jW.cell;have hSW2:=Lib.hid (hSW.below (bdrew (bsame W)))
   cases hb with
   | false =>
    have e1:=(HRR.out.r3 rfl rfl rfl);simp only at e1;obtain⟨rfl,rfl⟩:=e1;obtain⟨rfl,hn9⟩:=HN.out rfl;have HN2:=Lib.hid (fun (e:Later W)=>hn9 e.1 o3 (hSW.below e.2))
    have HSW:=Lib.hid hSW;have l1:=fun (e:Later W)(i:Nat)=>Later.cell jW e i
    clear cW hSW2 hn9 HH HU HS HG HF hX2 hSW;refine wp_region_later (by kernel_rfl) (by kernel_rfl) ?_
    repeat (go_big_quiet_step ((go_at_call 119;exact later_of (HN2.out _))))
    refine wpQuiet_nil ?_;intro w8 hW0;obtain⟨⟨W9,hb9⟩,hwt⟩:=hW0;have hwt:w8=W9:=hwt;subst hwt;go_wp2_with fail;go_ret;exact⟨rfl,o3,HSW.out.below hb9,hs2.trans (Stp.of_below hb9)⟩
   | true =>
    clear hSW
    cases ub with
    | false =>
     have e1:=(HRR.out.r4 rfl rfl rfl rfl);simp only at e1;obtain⟨rfl,rfl⟩:=e1;go_region_with (first
      | (go_at_call 119;refine (HH.out _ o3 hSW2.out).mono ?_;rintro e w3 ⟨rfl,o4,hS3,hs3⟩;have m1:=(drewB jW).stp hs3 (by rw[tU2];exact HB.out);have d1:=m1.cell;obtain⟨vt3,jx3,_⟩:=hX2.out _ _ hS3;unfold txCells at jx3;have dx:=jx3.cell)
      | (go_at_call 120;refine (HU.out _ o4 hS3).mono ?_;rintro e w4 ⟨rfl,o5,hS4,hs4⟩)
      | fail)
     all_goals
      go_wp2_with fail;go_ret;exact⟨rfl,o5,hS4,((hs2.trans (Stp.of_below (bdrew (bsame W)))).trans hs3).trans hs4⟩
    | true =>
     have e1:=(HRR.out.r5 rfl rfl rfl rfl);simp only at e1;obtain⟨rfl,rfl⟩:=e1;go_region_with (first
      | (go_at_call 119;refine (HH.out _ o3 hSW2.out).mono ?_;rintro e w3 ⟨rfl,o4,hS3,hs3⟩;have m1:=(drewB jW).stp hs3 (by rw[tU2];exact HB.out);have d1:=m1.cell;obtain⟨vt3,jx3,_⟩:=hX2.out _ _ hS3;unfold txCells at jx3;have dx:=jx3.cell)
      | (go_at_call 120;refine (HU.out _ o4 hS3).mono ?_;rintro e w4 ⟨rfl,o5,hS4,hs4⟩)
      | fail)
     all_goals
      have n1:=m1.stp hs4 (by rw[(hs3.tags _ (drewB jW).lt).trans tU2];exact HB.out)
      clear d1 dx cW;have d1:=n1.cell;go_wp2_with fail;refine (HS.out _ o5 hS4).mono ?_
      rintro e w5 ⟨rfl,o6,hS5,hs5⟩
      go_wp2_with fail;go_ret;exact⟨rfl,o6,hS5,(((hs2.trans (Stp.of_below (bdrew (bsame W)))).trans hs3).trans hs4).trans hs5⟩
  ·have e1:=(HRR.out.r2 rfl he2)
   simp only at e1;obtain⟨rfl,rfl⟩:=e1;have hbb:(Re != 0)=true:=by rw[bne_iff_ne];exact he2
   have hb2:(Re==0)=false:=by rw[beq_eq_false_iff_ne];exact he2
   clear he2;go_wp2_with fail;go_ret;exact⟨rfl,o3,hS2,H2.out⟩
 ·have e1:=(HRR.out.r1 he)
  simp only at e1;obtain⟨rfl,rfl⟩:=e1;have hbb:(Re != 0)=true:=by rw[bne_iff_ne];exact he
  have hb2:(Re==0)=false:=by rw[beq_eq_false_iff_ne];exact he
  clear he;go_wp2_with fail;go_ret;exact⟨rfl,o2,hS1,H1.out⟩
theorem eg_hsetnum (args:Array Value)(w:World):(callFunc 110 args).run Tryz.prog w=.ok (.enter 110 args) w:=enters_of Tryz.func110 (by kernel_rfl) rfl args w
theorem eg_hsetptr (args:Array Value)(w:World):(callFunc 113 args).run Tryz.prog w=.ok (.enter 113 args) w:=enters_of Tryz.func113 (by kernel_rfl) rfl args w
theorem chg_num (h:StIn w o y S)(hk:S.ok)(hi:i<S.txs.length)(p j:Nat)(v:Int)(hv:-9223372036854775808≤v∧v≤9223372036854775807) :
  Calls Tryz.prog 109 #[ptr y.sb,ptr (y.xb i),.agg #[.int .i64 2,.int .i64 p,.int .i64 j,.int .i64 0],.func (.func 76) #[ptr y.l.h] #[],.func (.func 110) #[ptr y.l.h] #[],.int .i64 v] w
   fun e w'=>e=.returned (.int .i64 (S.writeR i p j v).e)∧Lft y (S.writeR i p j v).S o w w':=by
 have hf:=Stt.ok_fields hk hi p;have hl:=fields_len S i p;have hi1:i<(S.fieldsR i p).1.txs.length:=by omega
 have hh:=Stt.ok_hold hf hi1 p;have hl2:=hold_len (S.fieldsR i p).1 i p;have hi2:i<((S.fieldsR i p).1.holdR i p).1.txs.length:=by omega
 have hnb:=hf.num_bd p j;have hu:=Stt.ok_undo hh hi2 ⟨2,p,j,((S.fieldsR i p).1.H.numR p j).1⟩ hnb (fun h=>by simp at h)
 refine schange_any _ _ eg_hnum eg_hsetnum 2 p j v ((S.fieldsR i p).1.H.numR p j).1 (S.fieldsR i p).2 ((S.fieldsR i p).1.H.numR p j).2 _ ((S.fieldsR i p).1.holdR i p).2 _ (S.fieldsR i p).1 (S.fieldsR i p).1 ((S.fieldsR i p).1.holdR i p).1 _ _ (S.writeR i p j v) ?_ h hi2
  (fun w1 o1 h1=>fields_any h1 hk hi p) (fun w1 o1 h1=>(s_num h1 hf p j).mono fun _ _ ⟨a,b⟩=>⟨a,h1.lft b⟩) (fun w1 o1 h1=>hold_any h1 hf hi1 p) (fun e=>⟨(holdR_no e).2.2,fun w1 o1 h1=>hold_no h1 hf hi1 p e⟩)
  (fun w1 o1 h1=>s_logundo h1 hh hi2 ⟨2,p,j,((S.fieldsR i p).1.H.numR p j).1⟩) (fun w1 o1 h1=>s_setnum h1 hu p j v hv)
 refine⟨fun e=>?_,fun e1 e2=>?_,fun e1 e2 e3=>?_,fun e1 e2 e3 e4=>?_,fun e1 e2 e3 e4=>?_⟩<;>unfold Stt.writeR
 ·rw[if_pos e];exact⟨rfl,rfl⟩
 ·rw[if_neg (by simpa using e1),if_pos (by simpa using e2)];exact⟨rfl,rfl⟩
 ·rw[if_neg (by simpa using e1),if_neg (by simpa using e2)];unfold Stt.chg;rw[if_pos e3];exact⟨rfl,rfl⟩
 ·rw[if_neg (by simpa using e1),if_neg (by simpa using e2)];unfold Stt.chg;rw[if_neg (by rw[e3];simp),if_pos e4];exact⟨rfl,rfl⟩
 ·rw[if_neg (by simpa using e1),if_neg (by simpa using e2)];unfold Stt.chg;rw[if_neg (by rw[e3];simp),if_neg (by rw[e4];simp)];exact⟨rfl,rfl⟩
theorem chg_ptr (h:StIn w o y S)(hk:S.ok)(hi:i<S.txs.length)(p j q:Nat) :
  Calls Tryz.prog 109 #[ptr y.sb,ptr (y.xb i),.agg #[.int .i64 1,.int .i64 p,.int .i64 j,.int .i64 0],.func (.func 112) #[ptr y.l.h] #[],.func (.func 113) #[ptr y.l.h] #[],.int .i64 q] w
   fun e w'=>e=.returned (.int .i64 (S.put1R i p j q).e)∧Lft y (S.put1R i p j q).S o w w':=by
 have hf:=Stt.ok_fields hk hi p;have hl:=fields_len S i p;have hp:((S.fieldsR i p).1.h ((S.fieldsR i p).1.H.ptrR p j).1).ok:=Stt.ok_ptr hf p j;have hlp:((S.fieldsR i p).1.h ((S.fieldsR i p).1.H.ptrR p j).1).txs.length=S.txs.length:=hl;have hi1:i<((S.fieldsR i p).1.h ((S.fieldsR i p).1.H.ptrR p j).1).txs.length:=by omega
 have hh:=Stt.ok_hold hp hi1 p;have hl2:=hold_len ((S.fieldsR i p).1.h ((S.fieldsR i p).1.H.ptrR p j).1) i p;have hi2:i<(((S.fieldsR i p).1.h ((S.fieldsR i p).1.H.ptrR p j).1).holdR i p).1.txs.length:=by omega
 have hb:=ptrR_bd hf.H p j;have hu:=Stt.ok_undo hh hi2 ⟨1,p,j,((S.fieldsR i p).1.H.ptrR p j).2.1⟩ (by simp only;omega) (fun _=>by simp only;omega)
 refine schange_any _ _ eg_hptr eg_hsetptr 1 p j q ((S.fieldsR i p).1.H.ptrR p j).2.1 (S.fieldsR i p).2 ((S.fieldsR i p).1.H.ptrR p j).2.2 _ (((S.fieldsR i p).1.h ((S.fieldsR i p).1.H.ptrR p j).1).holdR i p).2 _ (S.fieldsR i p).1 ((S.fieldsR i p).1.h ((S.fieldsR i p).1.H.ptrR p j).1) (((S.fieldsR i p).1.h ((S.fieldsR i p).1.H.ptrR p j).1).holdR i p).1 _ _ (S.put1R i p j q) ?_ h hi2
  (fun w1 o1 h1=>fields_any h1 hk hi p) (fun w1 o1 h1=>s_ptr h1 hf p j) (fun w1 o1 h1=>hold_any h1 hp hi1 p) (fun e=>⟨(holdR_no e).2.2,fun w1 o1 h1=>hold_no h1 hp hi1 p e⟩)
  (fun w1 o1 h1=>s_logundo h1 hh hi2 ⟨1,p,j,((S.fieldsR i p).1.H.ptrR p j).2.1⟩) (fun w1 o1 h1=>s_setptr h1 hu p j q)
 refine⟨fun e=>?_,fun e1 e2=>?_,fun e1 e2 e3=>?_,fun e1 e2 e3 e4=>?_,fun e1 e2 e3 e4=>?_⟩<;>unfold Stt.put1R
 ·rw[if_pos e];exact⟨rfl,rfl⟩
 ·rw[if_neg (by simpa using e1),if_pos (by simpa using e2)];exact⟨rfl,rfl⟩
 ·rw[if_neg (by simpa using e1),if_neg (by simpa using e2)];unfold Stt.chg;rw[if_pos e3];exact⟨rfl,rfl⟩
 ·rw[if_neg (by simpa using e1),if_neg (by simpa using e2)];unfold Stt.chg;rw[if_neg (by rw[e3];simp),if_pos e4];exact⟨rfl,rfl⟩
 ·rw[if_neg (by simpa using e1),if_neg (by simpa using e2)];unfold Stt.chg;rw[if_neg (by rw[e3];simp),if_neg (by rw[e4];simp)];exact⟨rfl,rfl⟩
theorem chg_v (S:Stt)(i p:Nat)(u:Un)(set:Hp→Hp×Nat):(S.chg i p u set).v=0:=by unfold Stt.chg;split<;>(try split)<;>rfl
theorem writeR_v (S:Stt)(i p j:Nat)(v:Int):(S.writeR i p j v).v=0:=by
 unfold Stt.writeR;split
 ·rfl
 ·split
  ·rfl
  ·exact chg_v _ _ _ _ _
theorem putR_v (S:Stt)(i p j q:Nat):(S.putR i p j q).v=0:=by
 unfold Stt.putR Stt.put1R;split
 ·rfl
 ·split
  ·rfl
  ·split
   ·rfl
   ·exact chg_v _ _ _ _ _
theorem freeR_v (S:Stt)(i p:Nat):(S.freeR i p).v=0:=by
 unfold Stt.freeR;split
 ·rfl
 ·exact chg_v _ _ _ _ _
theorem eg_write1 (args:Array Value)(w:World):(callFunc 108 args).run Tryz.prog w=.ok (.enter 108 args) w:=enters_of Tryz.func108 (by kernel_rfl) rfl args w
theorem write1_any (p j:Nat)(v err:Int)(S4:Stt)(h:StIn w o y S)
  (ch:∀ w1,Below w.heap.size w w1→Calls Tryz.prog 109 #[ptr y.sb,ptr (y.xb i),.agg #[.int .i64 2,.int .i64 p,.int .i64 j,.int .i64 0],.func (.func 76) #[ptr y.l.h] #[],.func (.func 110) #[ptr y.l.h] #[],.int .i64 v] w1
   fun e w'=>e=.returned (.int .i64 err)∧Lft y S4 o w1 w')
  {b1 b2 b3 b4:Nat}(j1:Blk w b1 #[.int .i64 p] 3)(j2:Blk w b2 #[.int .i64 j] 3)(j3:Blk w b3 #[ptr y.sb] 24)(j4:Blk w b4 #[.int .i64 v] 3) :
  Calls Tryz.prog 108 #[ptr (y.xb i),ptr b1,ptr b2,ptr b3,ptr b4] w fun e w'=>e=.returned (.tuple #[.int .i64 0,.int .i64 err])∧Lft y S4 o w w':=by
 have hmf:∀ (fn:Fn)(first cap:Array Value)(w:World),(Instr.makeFunc fn first cap).run Tryz.prog w=.ok (.func fn first cap) w:=fun _ _ _ _=>rfl
 have HC:=Lib.hid ch;obtain⟨vq,vl,vm,jb,_⟩:=h.blk;unfold stCells at jb;have c1:=j1.cell;have c2:=j2.cell;clear ch h;go_enter Tryz.func108,Tryz.ntmps108;go_upto_region 2 with fail;obtain⟨W,hW⟩:∃ W:World,W=w.alloc (.cells #[.int .i64 2,.int .i64 p,.int .i64 j,.int .i64 0] 175):=⟨_,rfl⟩;rw[←hW];have hbW:Below w.heap.size w W:=by rw[hW];exact balloc (bsame w) _
 have jU:Blk W w.heap.size #[.int .i64 2,.int .i64 p,.int .i64 j,.int .i64 0] 175:=by rw[hW];exact Blk.new w _ _
 have k3:=j3.below hbW j3.lt;have k4:=j4.below hbW j4.lt;have kb:=jb.below hbW jb.lt;clear hW c1 c2 j1 j2 j3 j4 jb;have c3:=k3.cell;have c4:=k4.cell;have cb:=kb.cell;have cU:=jU.cell;have HC2:=Lib.hid (HC.out W.drew (bdrew hbW));go_still_tail 14,(by kernel_rfl)
 change wpList _ _ _ _ _ W.drew;go_wp2_with fail;refine HC2.out.mono ?_
 rintro e w2⟨rfl,o2,hS2,hs2⟩
 go_wp2_with fail;go_ret2;exact⟨rfl,o2,hS2,(Stp.of_below (bdrew hbW)).trans hs2⟩
def Stt.write (S:Stt)(i p j:Nat)(v:Int):Res:=S.deedR i (S.writeR i p j v)
def Stt.put (S:Stt)(i p j q:Nat):Res:=S.deedR i (S.putR i p j q)
def Stt.free (S:Stt)(i p:Nat):Res:=S.deedR i (S.freeR i p)
theorem swrite_any (h:StIn w o y S) (hk:S.ok) (hi:i<S.txs.length) (p j:Nat) (v:Int) (hv:-9223372036854775808≤v∧v≤9223372036854775807) :
  Calls Tryz.prog 48 #[ptr y.sb,.int .i64 i,.int .i64 p,.int .i64 j,.int .i64 v] w fun e w'=>e=.returned (.int .i64 (S.write i p j v).e)∧Lft y (S.write i p j v).S o w w':=by
 have hmf:∀ (fn:Fn) (first cap:Array Value) (w:World),(Instr.makeFunc fn first cap).run Tryz.prog w=.ok (.func fn first cap) w:=fun _ _ _ _=>rfl
 obtain⟨W,hW⟩:∃ W:World,W=(((w.alloc (.cells #[ptr y.sb] 24)).alloc (.cells #[.int .i64 p] 3)).alloc (.cells #[.int .i64 j] 3)).alloc (.cells #[.int .i64 v] 3):=⟨_,rfl⟩;have hbW:Below w.heap.size w W:=by rw[hW];exact balloc (balloc (balloc (balloc (bsame w) _) _) _) _
 have j1:Blk W w.heap.size #[ptr y.sb] 24:=by rw[hW];exact (((Blk.new w _ _).alloc _).alloc _).alloc _
 have j2:Blk W (w.heap.size+1) #[.int .i64 p] 3:=by rw[hW];exact ((Blk.new_at _ _ _ _ _ (by simp) rfl).alloc _).alloc _
 have j3:Blk W (w.heap.size+1+1) #[.int .i64 j] 3:=by rw[hW];exact (Blk.new_at _ _ _ _ _ (by simp) rfl).alloc _
 have j4:Blk W (w.heap.size+1+1+1) #[.int .i64 v] 3:=by rw[hW];exact Blk.new_at _ _ _ _ _ (by simp) rfl
 have HD:=Lib.hid (deed_any 108 [ptr (w.heap.size+1),ptr (w.heap.size+1+1),ptr w.heap.size,ptr (w.heap.size+1+1+1)] (h.below hbW) hk hi eg_write1 (S.writeR i p j v) (fun _=>good_writeR hk hi p j hv)
  (fun _ w1 o2 hb he2 hS=>by
   rw[writeR_v];exact write1_any p j v _ _ hS (fun w2 hb2=>chg_num (hS.below hb2) hk hi p j v hv) (j2.below hb j2.lt) (j3.below hb j3.lt) (j1.below hb j1.lt) (j4.below hb j4.lt)))
 have HS:=Lib.hid (Stp.of_below (T:=stTag y) (o:=o) hbW);unfold Stt.write;generalize S.deedR i (S.writeR i p j v)=R at *;clear h hbW j1 j2 j3 j4 hk hi;go_enter Tryz.func48,Tryz.ntmps48;go_wp2_with fail;rw[←hW];refine HD.out.mono ?_
 rintro e w2⟨rfl,o2,hS2,hs2⟩
 go_wp2_with fail;go_ret;exact⟨rfl,o2,hS2,HS.out.trans hs2⟩
end
section
variable {w w' : World} {o o' : Own} {y : SLay} {S : Stt} {i : Nat}
theorem eg_put1 (args:Array Value)(w:World):(callFunc 111 args).run Tryz.prog w=.ok (.enter 111 args) w:=enters_of Tryz.func111 (by kernel_rfl) rfl args w
theorem put1_no (q:Nat)(h:StIn w o y S)(hk:S.ok)(hq:q≠0∧lk S.H.cur q=none)
  {b1 b2 b3 b4:Nat}(j1:Blk w b1 #[.int .i64 q] 3)(j2:Blk w b2 #[ptr y.sb] 24) :
  Calls Tryz.prog 111 #[ptr (y.xb i),ptr b1,ptr b2,ptr b3,ptr b4] w fun e w'=>e=.returned (.tuple #[.int .i64 0,.int .i64 70])∧Lft y S o w w':=by
 have HH:=Lib.hid (fun (e:Later w)=>s_here (h.below e.2) hk q)
 rw[hq.2]at HH;simp only[Option.isSome_none]at HH;have HS:=Lib.hid h;obtain⟨vq,vl,vm,jb,_⟩:=h.blk;unfold stCells at jb;have hqb:((q:Int) != 0)=true:=by rw[bne_iff_ne];have:=hq.1;omega
 have l1:=fun (e:Later w)(i:Nat)=>Later.cell j1 e i
 have l2:=fun (e:Later w)(i:Nat)=>Later.cell j2 e i
 have l5:=fun (e:Later w)(i:Nat)=>Later.cell jb e i
 clear h hk hq;go_enter Tryz.func111,Tryz.ntmps111;go_upto_region 1 with fail;refine wp_region_later (by kernel_rfl) (by kernel_rfl) ?_
 repeat (go_big_quiet_step ((go_at_call 61;exact later_of (HH.out _))))
 refine wpQuiet_nil ?_;intro w8 hW0;obtain⟨⟨W0,hb0⟩,hwt⟩:=hW0;have hwt:w8=W0:=hwt;subst hwt;go_wp2_with fail;go_ret2;exact⟨rfl,HS.out.lft hb0⟩
theorem put1_any (p j q:Nat)(err:Int)(S4:Stt)(h:StIn w o y S)(hk:S.ok)(hq:¬(q≠0∧lk S.H.cur q=none))
  (ch:∀ w1,Below w.heap.size w w1→Calls Tryz.prog 109 #[ptr y.sb,ptr (y.xb i),.agg #[.int .i64 1,.int .i64 p,.int .i64 j,.int .i64 0],.func (.func 112) #[ptr y.l.h] #[],.func (.func 113) #[ptr y.l.h] #[],.int .i64 q] w1
   fun e w'=>e=.returned (.int .i64 err)∧Lft y S4 o w1 w')
  {b1 b2 b3 b4:Nat}(j1:Blk w b1 #[.int .i64 q] 3)(j2:Blk w b2 #[ptr y.sb] 24)(j3:Blk w b3 #[.int .i64 p] 3)(j4:Blk w b4 #[.int .i64 j] 3) :
  Calls Tryz.prog 111 #[ptr (y.xb i),ptr b1,ptr b2,ptr b3,ptr b4] w fun e w'=>e=.returned (.tuple #[.int .i64 0,.int .i64 err])∧Lft y S4 o w w':=by
 have hmf:∀ (fn:Fn)(first cap:Array Value)(w:World),(Instr.makeFunc fn first cap).run Tryz.prog w=.ok (.func fn first cap) w:=fun _ _ _ _=>rfl
 have HC:=Lib.hid ch;obtain⟨vq,vl,vm,jb,_⟩:=h.blk;unfold stCells at jb;have HH:=(fun (e:Later w)=>s_here (h.below e.2) hk q)
 have hq2:q≠0→(lk S.H.cur q).isSome=true:=fun h0=>by
  cases hl:lk S.H.cur q with
  | none=>exact absurd ⟨h0,hl⟩ hq
  | some ob=>rfl
 have HH:=Lib.hid HH;have HQ2:=Lib.hid hq2;clear ch h hk hq hq2;go_enter Tryz.func111,Tryz.ntmps111;go_upto_region 1 with fail;rcases Nat.eq_zero_or_pos q with hq0|hq0
 ·have hqb:((q:Int) != 0)=false:=by rw[hq0];rfl
  have c1:=j1.cell;clear hq0;go_quiet (fail);obtain⟨W0,hW0⟩:∃ W0,W0=w.drewN nq:=⟨_,rfl⟩;have hb0:Below w.heap.size w W0:=by rw[hW0];exact bdrewN (bsame _) _
  rw[←hW0];clear hW0 c1;have k1:=j1.below hb0 j1.lt;have k2:=j2.below hb0 j2.lt;have k3:=j3.below hb0 j3.lt;have k4:=j4.below hb0 j4.lt;have kb:=jb.below hb0 jb.lt;have c3:=k3.cell;have c4:=k4.cell;go_upto_region 4 with fail;clear c3 c4;obtain⟨W,hW⟩:∃ W:World,W=W0.alloc (.cells #[.int .i64 1,.int .i64 p,.int .i64 j,.int .i64 0] 175):=⟨_,rfl⟩;rw[←hW];have hbW:Below w.heap.size w W:=by rw[hW];exact balloc hb0 _
  have jU:Blk W W0.heap.size #[.int .i64 1,.int .i64 p,.int .i64 j,.int .i64 0] 175:=by rw[hW];exact Blk.new W0 _ _
  have k1:=j1.below hbW j1.lt;have k2:=j2.below hbW j2.lt;have kb:=jb.below hbW jb.lt;clear hW;have c3:=k1.cell;have c4:=k2.cell;have cb:=kb.cell;have cU:=jU.cell;have HC2:=Lib.hid (HC.out W.drew (bdrew hbW));go_still_tail 14,(by kernel_rfl)
  change wpList _ _ _ _ _ W.drew;go_wp2_with fail;refine HC2.out.mono ?_
  rintro e w2 ⟨rfl,o2,hS2,hs2⟩
  go_wp2_with fail;go_ret2;exact⟨rfl,o2,hS2,(Stp.of_below (bdrew hbW)).trans hs2⟩
 ·have hqb:((q:Int) != 0)=true:=by rw[bne_iff_ne];omega
  have HH2:=HH.out;rw[HQ2.out (by omega)]at HH2
  have HH2:=Lib.hid HH2;have l1:=fun (e:Later w)(i:Nat)=>Later.cell j1 e i
  have l2:=fun (e:Later w)(i:Nat)=>Later.cell j2 e i
  have l5:=fun (e:Later w)(i:Nat)=>Later.cell jb e i
  clear hq0 HH HQ2;refine wp_region_later (by kernel_rfl) (by kernel_rfl) ?_
  repeat (go_big_quiet_step ((go_at_call 61;exact later_of (HH2.out _))))
  refine wpQuiet_nil ?_;intro w8 hW0;obtain⟨⟨W0,hb0⟩,hwt⟩:=hW0;have hwt:w8=W0:=hwt;subst hwt;clear l1 l2 l5;have k1:=j1.below hb0 j1.lt;have k2:=j2.below hb0 j2.lt;have k3:=j3.below hb0 j3.lt;have k4:=j4.below hb0 j4.lt;have kb:=jb.below hb0 jb.lt;have c3:=k3.cell;have c4:=k4.cell;go_upto_region 4 with fail;clear c3 c4;obtain⟨W,hW⟩:∃ W:World,W=w8.alloc (.cells #[.int .i64 1,.int .i64 p,.int .i64 j,.int .i64 0] 175):=⟨_,rfl⟩;rw[←hW];have hbW:Below w.heap.size w W:=by rw[hW];exact balloc hb0 _
  have jU:Blk W w8.heap.size #[.int .i64 1,.int .i64 p,.int .i64 j,.int .i64 0] 175:=by rw[hW];exact Blk.new w8 _ _
  have k1:=j1.below hbW j1.lt;have k2:=j2.below hbW j2.lt;have kb:=jb.below hbW jb.lt;clear hW;have c3:=k1.cell;have c4:=k2.cell;have cb:=kb.cell;have cU:=jU.cell;have HC2:=Lib.hid (HC.out W.drew (bdrew hbW));go_still_tail 14,(by kernel_rfl)
  change wpList _ _ _ _ _ W.drew;go_wp2_with fail;refine HC2.out.mono ?_
  rintro e w2 ⟨rfl,o2,hS2,hs2⟩
  go_wp2_with fail;go_ret2;exact⟨rfl,o2,hS2,(Stp.of_below (bdrew hbW)).trans hs2⟩
theorem sput_any (h:StIn w o y S) (hk:S.ok) (hi:i<S.txs.length) (p j q:Nat) :
  Calls Tryz.prog 49 #[ptr y.sb,.int .i64 i,.int .i64 p,.int .i64 j,.int .i64 q] w fun e w'=>e=.returned (.int .i64 (S.put i p j q).e)∧Lft y (S.put i p j q).S o w w':=by
 have hmf:∀ (fn:Fn) (first cap:Array Value) (w:World),(Instr.makeFunc fn first cap).run Tryz.prog w=.ok (.func fn first cap) w:=fun _ _ _ _=>rfl
 obtain⟨W,hW⟩:∃ W:World,W=(((w.alloc (.cells #[ptr y.sb] 24)).alloc (.cells #[.int .i64 p] 3)).alloc (.cells #[.int .i64 j] 3)).alloc (.cells #[.int .i64 q] 3):=⟨_,rfl⟩;have hbW:Below w.heap.size w W:=by rw[hW];exact balloc (balloc (balloc (balloc (bsame w) _) _) _) _
 have j1:Blk W w.heap.size #[ptr y.sb] 24:=by rw[hW];exact (((Blk.new w _ _).alloc _).alloc _).alloc _
 have j2:Blk W (w.heap.size+1) #[.int .i64 p] 3:=by rw[hW];exact ((Blk.new_at _ _ _ _ _ (by simp) rfl).alloc _).alloc _
 have j3:Blk W (w.heap.size+1+1) #[.int .i64 j] 3:=by rw[hW];exact (Blk.new_at _ _ _ _ _ (by simp) rfl).alloc _
 have j4:Blk W (w.heap.size+1+1+1) #[.int .i64 q] 3:=by rw[hW];exact Blk.new_at _ _ _ _ _ (by simp) rfl
 have HD:=Lib.hid (deed_any 111 [ptr (w.heap.size+1+1+1),ptr w.heap.size,ptr (w.heap.size+1),ptr (w.heap.size+1+1)] (h.below hbW) hk hi eg_put1 (S.putR i p j q) (fun _=>good_putR hk hi p j q)
  (fun _ w1 o2 hb he2 hS=>by
   rw[putR_v];unfold Stt.putR;by_cases hq:q≠0∧lk S.H.cur q=none
   ·rw[if_pos hq]
    exact put1_no q hS hk hq (j4.below hb j4.lt) (j1.below hb j1.lt)
   ·rw[if_neg hq]
    exact put1_any p j q _ _ hS hk hq (fun w2 hb2=>chg_ptr (hS.below hb2) hk hi p j q) (j4.below hb j4.lt) (j1.below hb j1.lt) (j2.below hb j2.lt) (j3.below hb j3.lt)))
 have HS:=Lib.hid (Stp.of_below (T:=stTag y) (o:=o) hbW);unfold Stt.put;generalize S.deedR i (S.putR i p j q)=R at *;clear h hbW j1 j2 j3 j4 hk hi;go_enter Tryz.func49,Tryz.ntmps49;go_wp2_with fail;rw[←hW];refine HD.out.mono ?_
 rintro e w2⟨rfl,o2,hS2,hs2⟩
 go_wp2_with fail;go_ret;exact⟨rfl,o2,hS2,HS.out.trans hs2⟩
end
section
variable {w w' : World} {o o' : Own} {y : SLay} {S : Stt} {i : Nat}
theorem eg_free1 (args:Array Value)(w:World):(callFunc 117 args).run Tryz.prog w=.ok (.enter 117 args) w:=enters_of Tryz.func117 (by kernel_rfl) rfl args w
structure FreR (el se:Int)(hb ub:Bool)(S1 S3 S4 S5:Stt)(R:Res):Prop where
 r1:el≠0→R.S=S1∧R.e=el
 r3:el=0→hb=false→R.S=S3∧R.e=130
 r4:el=0→hb=true→ub=false→R.S=S4∧R.e=130
 r5:el=0→hb=true→ub=true→R.S=S5∧R.e=se
theorem free1_any (p:Nat)(el se:Int)(hb ub:Bool)(s:Shp)(S1 S3 S4 S5:Stt)(R:Res)(hR:FreR el se hb ub S1 S3 S4 S5 R)(hx3:i<S3.txs.length)
  (look:Calls Tryz.prog 118 #[ptr y.sb,ptr (y.xb i),.int .i64 p] w fun e w'=>e=.returned (.tuple #[shpV s,.int .i64 el])∧Lft y S1 o w w')
  (hold:∀ w1 o1,StIn w1 o1 y S1→Calls Tryz.prog 119 #[ptr y.sb,ptr (y.xb i),.int .i64 p] w1 fun e w'=>e=.returned (.bool hb)∧Lft y S3 o1 w1 w')
  (hno:hb=false→S3=S1∧∀ w1 o1,StIn w1 o1 y S1→Calls Tryz.prog 119 #[ptr y.sb,ptr (y.xb i),.int .i64 p] w1 fun e w'=>e=.returned (.bool false)∧Below w1.heap.size w1 w')
  (undo:∀ w1 o1,StIn w1 o1 y S3→Calls Tryz.prog 120 #[ptr (y.lb i),.agg #[.int .i64 3,.int .i64 p,.int .i64 0,.int .i64 0]] w1 fun e w'=>e=.returned (.bool ub)∧Lft y S4 o1 w1 w')
  (free:∀ w1 o1,StIn w1 o1 y S4→Calls Tryz.prog 121 #[ptr y.l.h,.int .i64 p,.bool true] w1 fun e w'=>e=.returned (.int .i64 se)∧Lft y S5 o1 w1 w')
  {b1 b2:Nat}(j1:Blk w b1 #[ptr y.sb] 24)(j2:Blk w b2 #[.int .i64 p] 3)(t1:o b1=(y.l.id+1,0))(t2:o b2=(y.l.id+1,0)) :
  Calls Tryz.prog 117 #[ptr (y.xb i),ptr b1,ptr b2] w fun e w'=>e=.returned (.tuple #[.int .i64 0,.int .i64 R.e])∧Lft y R.S o w w':=by
 obtain⟨RS,Rv,Re⟩:=R;have HRR:=Lib.hid hR;have HL:=Lib.hid look;have HH:=Lib.hid hold;have HN:=Lib.hid hno;have HU:=Lib.hid undo;have HF:=Lib.hid free;have HB:=Lib.hid (stTag_box y);have hX2:=Lib.hid (fun w' o' (hS:StIn w' o' y S3)=>(hS.txs i _ (Stt.t_get hx3)).blk)
 have c1:=j1.cell;have c2:=j2.cell;obtain⟨sp,sd,wk,fn⟩:=s;clear hR look hold hno undo free hx3;go_enter Tryz.func117,Tryz.ntmps117;go_wp2_with fail;refine HL.out.mono ?_
 rintro e w1⟨rfl,o1,hS1,hs1⟩
 have k1:=j1.stp hs1 (by rw[t1];exact HB.out)
 have k2:=j2.stp hs1 (by rw[t2];exact HB.out)
 have u1:o1 b1=(y.l.id+1,0):=(hs1.tags _ j1.lt).trans t1;have u2:o1 b2=(y.l.id+1,0):=(hs1.tags _ j2.lt).trans t2;clear c1 c2 j1 j2 t1 t2;by_cases he:el=0
 ·subst he
  go_upto_region 4 with fail;obtain⟨W,hW⟩:∃ W:World,W=w1.alloc (.cells #[.int .i64 sp,.int .i64 sd,.bool wk,.bool fn] 93):=⟨_,rfl⟩;rw[←hW];have hbW:Below w1.heap.size w1 W:=by rw[hW];exact balloc (bsame w1) _
  have k1:=k1.below hbW k1.lt;have k2:=k2.below hbW k2.lt;have hSW:=hS1.below hbW;have HS0:=Lib.hid (hs1.trans (Stp.of_below hbW));clear hW hS1 hs1 hbW;have c1:=k1.cell;have c2:=k2.cell
  cases hb with
  | false =>
   obtain⟨rfl,hn9⟩:=HN.out rfl;have e1:=(HRR.out.r3 rfl rfl);simp only at e1;obtain⟨rfl,rfl⟩:=e1;have HN2:=Lib.hid (fun (e:Later W)=>hn9 e.1 o1 (hSW.below e.2))
   have HSW:=Lib.hid hSW;have l1:=fun (e:Later W)(i:Nat)=>Later.cell k1 e i
   have l2:=fun (e:Later W)(i:Nat)=>Later.cell k2 e i
   clear c1 c2 hn9 HH HU HF hX2 hSW;refine wp_region_later (by kernel_rfl) (by kernel_rfl) ?_
   repeat (go_big_quiet_step ((go_at_call 119;exact later_of (HN2.out _))))
   refine wpQuiet_nil ?_;intro w8 hW0;obtain⟨⟨W9,hb9⟩,hwt⟩:=hW0;have hwt:w8=W9:=hwt;subst hwt;go_wp2_with fail;go_ret2;exact⟨rfl,o1,HSW.out.below hb9,HS0.out.trans (Stp.of_below hb9)⟩
  | true =>
   have hSW2:=Lib.hid (hSW.below (bdrew (bsame W)));clear hSW
   cases ub with
   | false =>
    have e1:=(HRR.out.r4 rfl rfl rfl);simp only at e1;obtain⟨rfl,rfl⟩:=e1
    go_region_with (first
     | (go_at_call 119;refine (HH.out _ o1 hSW2.out).mono ?_;rintro e w2⟨rfl,o2,hS2,hs2⟩;have m1:=(drewB k1).stp hs2 (by rw[u1];exact HB.out);have m2:=(drewB k2).stp hs2 (by rw[u2];exact HB.out);have d1:=m1.cell;have d2:=m2.cell;obtain⟨vt3,jx3,_⟩:=hX2.out _ _ hS2;unfold txCells at jx3;have dx:=jx3.cell)
     | (go_at_call 120;refine (HU.out _ o2 hS2).mono ?_;rintro e w3⟨rfl,o3,hS3,hs3⟩)
     | fail)
    all_goals
     go_wp2_with fail;go_ret2;exact⟨rfl,o3,hS3,((HS0.out.trans (Stp.of_below (bdrew (bsame W)))).trans hs2).trans hs3⟩
   | true =>
    have e1:=(HRR.out.r5 rfl rfl rfl);simp only at e1;obtain⟨rfl,rfl⟩:=e1
    go_region_with (first
     | (go_at_call 119;refine (HH.out _ o1 hSW2.out).mono ?_;rintro e w2⟨rfl,o2,hS2,hs2⟩;have m1:=(drewB k1).stp hs2 (by rw[u1];exact HB.out);have m2:=(drewB k2).stp hs2 (by rw[u2];exact HB.out);have d1:=m1.cell;have d2:=m2.cell;obtain⟨vt3,jx3,_⟩:=hX2.out _ _ hS2;unfold txCells at jx3;have dx:=jx3.cell)
     | (go_at_call 120;refine (HU.out _ o2 hS2).mono ?_;rintro e w3⟨rfl,o3,hS3,hs3⟩)
     | fail)
    all_goals
     have n1:=m1.stp hs3 (by rw[(hs2.tags _ (drewB k1).lt).trans u1];exact HB.out)
     have n2:=m2.stp hs3 (by rw[(hs2.tags _ (drewB k2).lt).trans u2];exact HB.out)
     obtain⟨vq3,vl3,vm3,jb3,_⟩:=hS3.blk;unfold stCells at jb3;clear d1 d2 dx c1 c2;have d1:=n1.cell;have d2:=n2.cell;have d3:=jb3.cell;go_upto_region 6 with fail;have HF2:=Lib.hid (HF.out w3.drew o3 (hS3.below (bdrew (bsame w3))));go_region_with (first|(go_at_call 121;refine HF2.out.mono ?_;rintro e w4⟨rfl,o4,hS4,hs4⟩)|fail)
     all_goals
      go_wp2_with fail;go_ret2;exact⟨rfl,o4,hS4,(((HS0.out.trans (Stp.of_below (bdrew (bsame W)))).trans hs2).trans hs3).trans ((Stp.of_below (bdrew (bsame w3))).trans hs4)⟩
 ·have e1:=(HRR.out.r1 he)
  simp only at e1;obtain⟨rfl,rfl⟩:=e1;have hbb:(Re != 0)=true:=by rw[bne_iff_ne];exact he
  have hb2:(Re==0)=false:=by rw[beq_eq_false_iff_ne];exact he
  clear he;go_wp2_with fail;go_ret2;exact⟨rfl,o1,hS1.alloc _,hs1.alloc _⟩
theorem freeR_fre (S:Stt)(i p:Nat):FreR (S.lookR i p).2.1 ((((S.lookR i p).1.holdR i p).1.undoR i ⟨3,p,0,0⟩).1.H.setFreedR p true).2 ((S.lookR i p).1.holdR i p).2 (((S.lookR i p).1.holdR i p).1.undoR i ⟨3,p,0,0⟩).2
  (S.lookR i p).1 ((S.lookR i p).1.holdR i p).1 (((S.lookR i p).1.holdR i p).1.undoR i ⟨3,p,0,0⟩).1 ((((S.lookR i p).1.holdR i p).1.undoR i ⟨3,p,0,0⟩).1.h ((((S.lookR i p).1.holdR i p).1.undoR i ⟨3,p,0,0⟩).1.H.setFreedR p true).1) (S.freeR i p):=by
 refine⟨fun e=>?_,fun e1 e3=>?_,fun e1 e3 e4=>?_,fun e1 e3 e4=>?_⟩<;>unfold Stt.freeR
 ·rw[if_pos e];exact⟨rfl,rfl⟩
 ·rw[if_neg (by simpa using e1)];unfold Stt.chg;rw[if_pos e3];exact⟨rfl,rfl⟩
 ·rw[if_neg (by simpa using e1)];unfold Stt.chg;rw[if_neg (by rw[e3];simp),if_pos e4];exact⟨rfl,rfl⟩
 ·rw[if_neg (by simpa using e1)];unfold Stt.chg;rw[if_neg (by rw[e3];simp),if_neg (by rw[e4];simp)];exact⟨rfl,rfl⟩
theorem box2 (w:World)(a c:Value)(ta tc:TypeId):Below w.heap.size w ((w.alloc (.cells #[a] ta)).alloc (.cells #[c] tc))∧Blk ((w.alloc (.cells #[a] ta)).alloc (.cells #[c] tc)) w.heap.size #[a] ta∧Blk ((w.alloc (.cells #[a] ta)).alloc (.cells #[c] tc)) (w.heap.size+1) #[c] tc:=
 ⟨balloc (balloc (bsame w) _) _,(Blk.new w _ _).alloc _,Blk.new_at _ _ _ _ _ (by simp) rfl⟩
theorem sfree_any (h0:StIn w o y S)(hk:S.ok)(hi:i<S.txs.length)(p:Nat) :
  Calls Tryz.prog 56 #[ptr y.sb,.int .i64 i,.int .i64 p] w fun e w'=>e=.returned (.int .i64 (S.free i p).e)∧Lft y (S.free i p).S o w w':=by
 have hmf:∀ (fn:Fn)(first cap:Array Value)(w:World),(Instr.makeFunc fn first cap).run Tryz.prog w=.ok (.func fn first cap) w:=fun _ _ _ _=>rfl
 obtain⟨o1,ho1⟩:∃ o1,o1=ext o w.heap.size (y.l.id+1,0):=⟨_,rfl⟩;have h:=h0.retag (o':=o1) fun b hb=>by rw[ho1];exact ext_lt hb
 have hS0:Stp (stTag y) o o1 w w:=by rw[ho1];exact (Stp.refl _ o w).ext _ _ (Nat.le_refl _)
 have hbx:∀ b,w.heap.size≤b→o1 b=(y.l.id+1,0):=fun b hb=>by rw[ho1];exact ext_ge hb
 clear ho1 h0;obtain⟨W,hW⟩:∃ W:World,W=(w.alloc (.cells #[ptr y.sb] 24)).alloc (.cells #[.int .i64 p] 3):=⟨_,rfl⟩;have hbj:=box2 w (ptr y.sb) (.int .i64 p) 24 3;rw[←hW]at hbj;obtain⟨hbW,j1,j2⟩:=hbj;have hlk:=Stt.ok_look hk hi p;have hl1:=look_len S i p;have hi1:i<(S.lookR i p).1.txs.length:=by omega
 have hl2:=hold_len (S.lookR i p).1 i p;have hi2:i<((S.lookR i p).1.holdR i p).1.txs.length:=by omega
 have hu:=Stt.ok_undo (Stt.ok_hold hlk hi1 p) hi2 ⟨3,p,0,0⟩ (by simp) (fun h=>by simp at h)
 have HD:=Lib.hid (deed_any 117 [ptr w.heap.size,ptr (w.heap.size+1)] (h.below hbW) hk hi eg_free1 (S.freeR i p) (fun _=>good_freeR hk hi p)
  (fun _ w1 o2 hb he2 hS=>by
   rw[freeR_v];exact free1_any p _ _ _ _ _ _ _ _ _ (S.freeR i p) (freeR_fre S i p) hi2 (look_any hS hk hi p) (fun w1 o1 h1=>hold_any h1 hlk hi1 p) (fun e=>⟨(holdR_no e).2.2,fun w1 o1 h1=>hold_no h1 hlk hi1 p e⟩)
    (fun w1 o1 h1=>s_logundo h1 (Stt.ok_hold hlk hi1 p) hi2 ⟨3,p,0,0⟩) (fun w1 o1 h1=>s_setfreed h1 hu p true) (j1.below hb j1.lt) (j2.below hb j2.lt) ((he2 _ j1.lt).trans (hbx _ (by omega))) ((he2 _ j2.lt).trans (hbx _ (by omega)))))
 have HS:=Lib.hid (hS0.trans (Stp.of_below hbW));unfold Stt.free;generalize S.deedR i (S.freeR i p)=R at *;clear h hbW j1 j2 hk hi hlk hl1 hi1 hl2 hi2 hu hbx hS0;go_enter Tryz.func56,Tryz.ntmps56;go_wp2_with fail;rw[←hW];refine HD.out.mono ?_
 rintro e w2 ⟨rfl,o2,hS2,hs2⟩
 go_wp2_with fail;go_ret;exact⟨rfl,o2,hS2,HS.out.trans hs2⟩
end
section
variable {w w' : World} {o o' : Own} {y : SLay} {S : Stt} {i : Nat}
theorem take1_any (h:StIn w o y S)(hk:S.ok)(hi:i<S.txs.length){b1:Nat}(j1:Blk w b1 #[ptr y.sb] 24)(t1:o b1=(y.l.id+1,0)) :
  Calls Tryz.prog 122 #[ptr (y.xb i),ptr b1] w fun e w'=>e=.returned (.tuple #[.int .i64 (S.takeR i).v,.int .i64 (S.takeR i).e])∧Lft y (S.takeR i).S o w w':=by
 unfold Stt.takeR;by_cases hc:S.holder≠-1∧S.holder≠(i:Int)∨(S.t i).start<S.version
 ·rw[if_pos hc]
  exact (take1_clash h hi hc j1).mono fun _ _ ⟨a,b⟩=>⟨a,h.lft b⟩
 ·rw[if_neg hc]
  have hn:S.holder=-1∨S.holder=(i:Int):=by omega
  have hv:S.version≤(S.t i).start:=by omega
  split
  ·rename_i hq
   exact take1_none h hi hn hv (.inl hq) j1 t1
  ·rename_i z l hq
   split
   ·rename_i hz
    exact take1_none h hi hn hv (.inr ⟨z,l,hq,hz⟩) j1 t1
   ·rename_i hz
    exact take1_pop h hk hi hn hv hq (by omega) j1 t1
theorem eg_take1 (args:Array Value)(w:World):(callFunc 122 args).run Tryz.prog w=.ok (.enter 122 args) w:=enters_of Tryz.func122 (by kernel_rfl) rfl args w
theorem stake_any (h0:StIn w o y S)(hk:S.ok)(hi:i<S.txs.length) :
  Calls Tryz.prog 59 #[ptr y.sb,.int .i64 i] w fun e w'=>e=.returned (.tuple #[.int .i64 (S.take i).v,.int .i64 (S.take i).e])∧Lft y (S.take i).S o w w':=by
 have hmf:∀ (fn:Fn)(first cap:Array Value)(w:World),(Instr.makeFunc fn first cap).run Tryz.prog w=.ok (.func fn first cap) w:=fun _ _ _ _=>rfl
 obtain⟨o1,ho1⟩:∃ o1,o1=ext o w.heap.size (y.l.id+1,0):=⟨_,rfl⟩;have h:=h0.retag (o':=o1) fun b hb=>by rw[ho1];exact ext_lt hb
 have hS0:Stp (stTag y) o o1 w w:=by rw[ho1];exact (Stp.refl _ o w).ext _ _ (Nat.le_refl _)
 have hbx:o1 w.heap.size=(y.l.id+1,0):=by rw[ho1];exact ext_ge (Nat.le_refl _)
 clear ho1 h0;have j1:=Blk.new w #[ptr y.sb] 24;have HD:=Lib.hid (deed_any 122 [ptr w.heap.size] (h.below (balloc (bsame w) (.cells #[ptr y.sb] 24))) hk hi eg_take1 (S.takeR i) (fun _=>good_takeR hk hi)
  (fun _ w1 o2 hb he2 hS=>take1_any hS hk hi (j1.below hb j1.lt) ((he2 _ j1.lt).trans hbx)))
 have HS:=Lib.hid (hS0.trans (Stp.of_below (balloc (bsame w) (.cells #[ptr y.sb] 24))));unfold Stt.take;generalize S.deedR i (S.takeR i)=R at *;clear h hbx hS0 j1 hk hi;go_enter Tryz.func59,Tryz.ntmps59;go_wp2_with fail;refine HD.out.mono ?_
 rintro e w2⟨rfl,o2,hS2,hs2⟩
 go_wp2_with fail;go_ret2;exact⟨rfl,o2,hS2,HS.out.trans hs2⟩
end
end Go.Proofs.YteehgedabdchcaaGreat
