import Derived.Test.YteehgedabdchcaaGreatQal
import Derived.Defers
import Derived.Laws.CopyRow
import Derived.Shelf.Spec.SlicesGrow
import Derived.Sort.CutIn
import Derived.Stop.RegionWithIn
set_option linter.all false
set_option maxRecDepth 1000000
set_option maxHeartbeats 16000000
namespace Go.Proofs.YteehgedabdchcaaGreat
open Hp
structure Mv (i:Nat)(S S':Stt):Prop where
 len:S'.txs.length=S.txs.length
 oth:∀ j,j≠i→S'.t j=S.t j
 lv:(S'.t i).live=(S.t i).live
 st:(S'.t i).start=(S.t i).start
 se:(S'.t i).seen=(S.t i).seen
 now:S'.now=S.now
 most:S'.most=S.most
 next:S'.next=S.next
 came:S'.came=S.came
 lost:S'.lost=S.lost
 ph:S'.ph=S.ph
 ver:S'.version=S.version
structure Ed (i:Nat)(S S':Stt):Prop where
 len:S'.txs.length=S.txs.length
 oth:∀ j,j≠i→S'.t j=S.t j
 lv:S'.t i=(S.t i).ended∨∃ x:Tx,S'.t i=x.ended
 now:S'.now=S.now
 most:S'.most=S.most
 next:S'.next=S.next
 came:S'.came=S.came
 lost:S'.lost=S.lost
 ph:S'.ph=S.ph
 ver:S'.version=S.version
section
variable {i : Nat} {S S' S2 : Stt}
theorem Mv.refl (i:Nat)(S:Stt):Mv i S S:=⟨rfl,fun _ _=>rfl,rfl,rfl,rfl,rfl,rfl,rfl,rfl,rfl,rfl,rfl⟩
theorem Mv.trans (a:Mv i S S')(b:Mv i S' S2):Mv i S S2:=
 ⟨b.len.trans a.len,fun j h=>(b.oth j h).trans (a.oth j h),b.lv.trans a.lv,b.st.trans a.st,b.se.trans a.se,b.now.trans a.now,b.most.trans a.most,b.next.trans a.next,b.came.trans a.came,b.lost.trans a.lost,b.ph.trans a.ph,b.ver.trans a.ver⟩
theorem Mv.heap (i:Nat)(S:Stt)(H:Hp):Mv i S { S with H:=H }:=⟨rfl,fun _ _=>rfl,rfl,rfl,rfl,rfl,rfl,rfl,rfl,rfl,rfl,rfl⟩
theorem Mv.hld (i:Nat)(S:Stt)(z:Int)(q:List (Nat×Nat)):Mv i S { S with holder:=z,queue:=q }:=⟨rfl,fun _ _=>rfl,rfl,rfl,rfl,rfl,rfl,rfl,rfl,rfl,rfl,rfl⟩
theorem tx_t' (S:Stt)(i:Nat)(x:Tx):(S.tx i x).t i=if i<S.txs.length then x else S.t i:=by
 by_cases h:i<S.txs.length
 ·rw[if_pos h,Stt.tx_t h]
 ·rw[if_neg h];unfold Stt.t Stt.tx;simp only[List.getD_eq_getElem?_getD];rw[List.getElem?_eq_none (by rw[List.length_set];omega),List.getElem?_eq_none (by omega)]
theorem Mv.tx (i:Nat)(S:Stt)(x:Tx)(h1:x.live=(S.t i).live)(h2:x.start=(S.t i).start)(h3:x.seen=(S.t i).seen):Mv i S (S.tx i x):=by
 refine⟨Stt.tx_len _ _ _,fun j h=>Stt.tx_ne S (fun e=>h e.symm) x,?_,?_,?_,rfl,rfl,rfl,rfl,rfl,rfl,rfl⟩
 all_goals
  rw[tx_t'];split
  ·assumption
  ·rfl
theorem Mv.look (i:Nat)(S:Stt)(p:Nat):Mv i S (S.lookR i p).1:=by
 unfold Stt.lookR;split
 ·exact Mv.refl _ _
 ·split
  ·exact Mv.refl _ _
  ·split
   ·exact Mv.refl _ _
   ·exact Mv.tx _ _ _ rfl rfl rfl
theorem Mv.fields (i:Nat)(S:Stt)(p:Nat):Mv i S (S.fieldsR i p).1:=Mv.look i S p
theorem Mv.undo (i:Nat)(S:Stt)(u:Un):Mv i S (S.undoR i u).1:=by
 unfold Stt.undoR;split
 ·exact Mv.tx _ _ _ rfl rfl rfl
 ·exact Mv.refl _ _
theorem Mv.holdL (i:Nat)(S:Stt)(p v:Nat):Mv i S (S.holdLR i p v).1:=by
 unfold Stt.holdLR;split
 ·exact Mv.tx _ _ _ rfl rfl rfl
 ·exact Mv.refl _ _
theorem Mv.own (i:Nat)(S:Stt)(p:Nat):Mv i S (S.ownR i p):=Mv.heap _ _ _
theorem Mv.hold (i:Nat)(S:Stt)(p:Nat):Mv i S (S.holdR i p).1:=by
 unfold Stt.holdR;split
 ·exact Mv.refl _ _
 ·split
  ·exact (Mv.holdL _ _ _ _).trans (Mv.own _ _ _)
  ·exact Mv.refl _ _
theorem Mv.lay (i:Nat)(S:Stt)(s:Shp):Mv i S (S.layR i s).1:=by
 unfold Stt.layR;split
 ·exact Mv.refl _ _
 ·split
  ·exact ((Mv.heap _ _ _).trans (Mv.holdL _ _ _ _)).trans (Mv.own _ _ _)
  ·exact Mv.heap _ _ _
theorem Mv.chg (i:Nat)(S:Stt)(p:Nat)(u:Un)(set:Hp→Hp×Nat):Mv i S (S.chg i p u set).S:=by
 unfold Stt.chg;split
 ·exact Mv.hold _ _ _
 ·split
  ·exact (Mv.hold _ _ _).trans (Mv.undo _ _ _)
  ·exact ((Mv.hold _ _ _).trans (Mv.undo _ _ _)).trans (Mv.heap _ _ _)
theorem Mv.readR (i:Nat)(S:Stt)(p j:Nat):Mv i S (S.readR i p j).S:=by
 unfold Stt.readR;split<;>exact Mv.fields _ _ _
theorem Mv.getR (i:Nat)(S:Stt)(p j:Nat):Mv i S (S.getR i p j).S:=by
 unfold Stt.getR;split
 ·exact Mv.fields _ _ _
 ·exact (Mv.fields _ _ _).trans (Mv.heap _ _ _)
theorem Mv.writeR (i:Nat)(S:Stt)(p j:Nat)(v:Int):Mv i S (S.writeR i p j v).S:=by
 unfold Stt.writeR;split
 ·exact Mv.fields _ _ _
 ·split
  ·exact Mv.fields _ _ _
  ·exact (Mv.fields _ _ _).trans (Mv.chg _ _ _ _ _)
theorem Mv.putR (i:Nat)(S:Stt)(p j q:Nat):Mv i S (S.putR i p j q).S:=by
 unfold Stt.putR;split
 ·exact Mv.refl _ _
 ·unfold Stt.put1R
  split
  ·exact Mv.fields _ _ _
  ·split
   ·exact (Mv.fields _ _ _).trans (Mv.heap _ _ _)
   ·exact ((Mv.fields _ _ _).trans (Mv.heap _ _ _)).trans (Mv.chg _ _ _ _ _)
theorem Mv.freeR (i:Nat)(S:Stt)(p:Nat):Mv i S (S.freeR i p).S:=by
 unfold Stt.freeR;split
 ·exact Mv.look _ _ _
 ·exact (Mv.look _ _ _).trans (Mv.chg _ _ _ _ _)
theorem Mv.allocR (i:Nat)(S:Stt)(s:Shp):Mv i S (S.allocR i s).S:=Mv.lay i S s
theorem Mv.weakR (i:Nat)(S:Stt)(q:Nat):Mv i S (S.weakR i q).S:=by
 unfold Stt.weakR;split
 ·exact Mv.refl _ _
 ·split
  ·exact Mv.refl _ _
  ·split
   ·exact Mv.lay _ _ _
   ·exact (Mv.lay _ _ _).trans (Mv.heap _ _ _)
theorem Mv.takeR (i:Nat)(S:Stt):Mv i S (S.takeR i).S:=by
 unfold Stt.takeR;split
 ·exact Mv.refl _ _
 ·split
  ·exact Mv.hld _ _ _ S.queue
  ·rename_i z l _
   split
   ·exact Mv.hld _ _ _ S.queue
   ·exact (Mv.hld i S i l).trans (Mv.tx _ _ _ rfl rfl rfl)
theorem Mv.untake (i:Nat)(S:Stt):Mv i S (S.untake i):=by
 unfold Stt.untake;split
 ·exact Mv.hld _ _ _ _
 ·exact Mv.refl _ _
theorem Ed.abort (hi:i<S.txs.length):Ed i S (S.abort i):=by
 unfold Stt.abort;have m:Mv i S ((S.h ((S.H.undoL (S.t i).log.undos).relL (S.t i).log.holds)).untake i):=(Mv.heap _ _ _).trans (Mv.untake _ _);refine⟨(Stt.tx_len _ _ _).trans m.len,fun j h=>(Stt.tx_ne _ (fun e=>h e.symm) _).trans (m.oth j h),.inr ⟨S.t i,?_⟩,m.now,m.most,m.next,m.came,m.lost,m.ph,m.ver⟩
 rw[Stt.tx_t (by rw[m.len];exact hi)]
theorem Ed.of_mv (m:Mv i S S')(e:Ed i S' S2):Ed i S S2:=by
 refine⟨e.len.trans m.len,fun j h=>(e.oth j h).trans (m.oth j h),.inr ?_,e.now.trans m.now,e.most.trans m.most,e.next.trans m.next,e.came.trans m.came,e.lost.trans m.lost,e.ph.trans m.ph,e.ver.trans m.ver⟩
 rcases e.lv with h|h
 ·exact⟨_,h⟩
 ·exact h
theorem Ed.dead (e:Ed i S S'):(S'.t i).live=false:=by
 rcases e.lv with h|⟨x,h⟩
 ·rw[h];rfl
 ·rw[h];rfl
theorem fin_mv {r:Res}(m:Mv i S r.S)(hi:i<S.txs.length):(isAb r.e=true∧Ed i S (r.fin i).S∧(r.fin i).v=0∧(r.fin i).e=r.e)∨(isAb r.e=false∧Mv i S (r.fin i).S∧(r.fin i).e=r.e):=by
 unfold Res.fin;split
 ·rename_i h;exact .inl ⟨h,Ed.of_mv m (Ed.abort (by rw[m.len];exact hi)),rfl,rfl⟩
 ·rename_i h
  refine .inr ⟨by simpa using h,?_,?_⟩
  ·split<;>exact m
  ·split
   ·rfl
   ·rfl
theorem deed_mv {r:Res}(m:Mv i S r.S)(hi:i<S.txs.length)(hl:(S.t i).live=true):(isAb r.e=true∧Ed i S (S.deedR i r).S∧(S.deedR i r).v=0∧(S.deedR i r).e=r.e)∨(isAb r.e=false∧Mv i S (S.deedR i r).S∧(S.deedR i r).e=r.e):=by
 unfold Stt.deedR;rw[if_pos hl];exact fin_mv m hi
end
end Go.Proofs.YteehgedabdchcaaGreat
namespace Go.Proofs.YteehgedabdchcaaGreat
open Go.RowKit Hp
attribute [local go_sem ↓] Go.wp_at_zero Go.wp_at_succ
section
variable {w : World}
theorem deedD_ok (be bs bx bv:Nat)(err:Int)(he:w.cell? ⟨be,0,none⟩=some (.int .i64 err))(h0:err=0) :
  CallsD Tryz.prog 138 #[ptr be,ptr bs,ptr bx,ptr bv] .returning w fun e u' w'=>u'=.returning∧(e=.returned (.tuple #[])∧w'=w):=by
 subst h0;go_enter_d Tryz.func138,Tryz.ntmps138;go_wp2_with fail;go_end0;exact⟨rfl,rfl⟩
theorem deedD_err (be bs bx bv:Nat)(err v:Int)(tv:TypeId)(he:w.cell? ⟨be,0,none⟩=some (.int .i64 err))(hv:Blk w bv #[.int .i64 v] tv)(h0:err≠0)(h1:err≠141)(h2:err≠130)(h3:err≠100) :
  CallsD Tryz.prog 138 #[ptr be,ptr bs,ptr bx,ptr bv] .returning w fun e u' w'=>u'=.returning∧(e=.returned (.tuple #[])∧w'=w.setCell ⟨bv,0,none⟩ (.int .i64 0)):=by
 have c:=hv.cell 0;have z:=hv.free 0;have s:=hv.lt;go_enter_d Tryz.func138,Tryz.ntmps138;go_wp2_with fail;go_end0;exact⟨rfl,rfl⟩
end
section
variable {w : World} {o : Own} {y : SLay} {S : Stt} {x : Tx} {i : Nat}
theorem deed_ok (g:Nat) (caps:List Value) (h0:StIn w o y S) (hk:S.ok) (hx:S.txs[i]?=some x) (hl:x.live=true) (eg:∀ args w,(callFunc g args).run Tryz.prog w=.ok (.enter g args) w)
  (T:Tag→Prop) (hT:¬T (y.l.id+1,0)) (S':Stt) (v:Int)
  (hdo:∀ w1 o1,Below w.heap.size w w1→(∀ b,b<w.heap.size→o1 b=o b)→StIn w1 o1 y S→Calls Tryz.prog g (ptr (y.xb i)::caps).toArray w1 fun e w'=>e=.returned (.tuple #[.int .i64 v,.int .i64 0])∧∃ o',StIn w' o' y S'∧Stp T o1 o' w1 w') :
  Calls Tryz.prog 77 #[ptr y.sb,.int .i64 i,.func (.func g) #[] caps.toArray] w fun e w'=>e=.returned (.tuple #[.int .i64 v,.int .i64 0])∧∃ o',StIn w' o' y S'∧Stp T o o' w w':=by
 have hmf:∀ (fn:Fn) (first cap:Array Value) (w:World),(Instr.makeFunc fn first cap).run Tryz.prog w=.ok (.func fn first cap) w:=fun _ _ _ _=>rfl
 obtain⟨o1,ho1⟩:∃ o1,o1=ext o w.heap.size (y.l.id+1,0):=⟨_,rfl⟩;have h:=h0.retag (o':=o1) fun b hb=>by rw[ho1];exact ext_lt hb
 have hS0:Stp T o o1 w w:=by rw[ho1];exact (Stp.refl _ o w).ext _ _ (Nat.le_refl _)
 have hbx:∀ b,w.heap.size≤b→o1 b=(y.l.id+1,0):=fun b hb=>by rw[ho1];exact ext_ge hb
 have hext:∀ b,b<w.heap.size→o1 b=o b:=fun b hb=>by rw[ho1];exact ext_lt hb
 clear ho1 h0;have HR:=Lib.hid (fun w' (hw:Below w.heap.size w w')=>running_in (h.below hw) hk hx)
 rw[hl]at HR;simp only[if_true]at HR;have HD:=Lib.hid (fun w' (hw:Below w.heap.size w w')=>hdo w' o1 hw hext (h.below hw))
 have HB:=Lib.hid hbx;have HS:=Lib.hid hS0;have HT:=Lib.hid hT;clear hdo hbx h hk hx hS0 hT hext;go_enter_defers Tryz.func77,Tryz.ntmps77;go_wp2_with fail;obtain⟨W,hW⟩:∃ W:World,W=((w.alloc (.cells #[ptr y.sb] 24)).alloc (.cells #[.int .i64 0] 3)).alloc (.cells #[.int .i64 0] 29):=⟨_,rfl⟩;rw[←hW];have hbW:Below w.heap.size w W:=by rw[hW];exact balloc (balloc (balloc (bsame w) _) _) _
 have hzW:W.heap.size=w.heap.size+3:=by rw[hW];simp
 have jS:Blk W w.heap.size #[ptr y.sb] 24:=by rw[hW];exact ((Blk.new w _ _).alloc _).alloc _
 have jV:Blk W (w.heap.size+1) #[.int .i64 0] 3:=by rw[hW];exact (Blk.new_at _ _ _ _ _ (by simp) rfl).alloc _
 have jE:Blk W (w.heap.size+1+1) #[.int .i64 0] 29:=by rw[hW];exact Blk.new_at _ _ _ _ _ (by simp) rfl
 clear hW;refine (HR.out _ hbW).mono ?_
 rintro e w1⟨rfl,rfl⟩
 go_wp2_with fail;refine (HD.out _ (balloc hbW _)).mono ?_
 rintro e w2⟨rfl,o2,hS2,hs2⟩
 have jV2:=(jV.alloc (.cells #[ptr (y.xb i)] 103)).stp hs2 (by rw[HB.out _ (by omega)];exact HT.out)
 have jE2:=(jE.alloc (.cells #[ptr (y.xb i)] 103)).stp hs2 (by rw[HB.out _ (by omega)];exact HT.out)
 have tV:o2 (w.heap.size+1)=(y.l.id+1,0):=(hs2.tags _ (jV.alloc _).lt).trans (HB.out _ (by omega))
 have tE:o2 (w.heap.size+1+1)=(y.l.id+1,0):=(hs2.tags _ (jE.alloc _).lt).trans (HB.out _ (by omega))
 have hst:Stp T o1 o2 w w2:=(Stp.of_below (balloc hbW _)).trans hs2;clear jV jE jS;have cV:=jV2.cell;have zV:=jV2.free;have sV:=jV2.lt;have cE:=jE2.cell;have zE:=jE2.free;have sE:=jE2.lt;go_wp2_with fail;have jV3:=(jV2.set 0 (.int .i64 v)).set_other (a:=⟨w.heap.size+1+1,0,none⟩) (by simp) (.int .i64 0)
 have jE3:=(jE2.set_other (a:=⟨w.heap.size+1,0,none⟩) (by simp) (.int .i64 v)).set 0 (.int .i64 0)
 have cV3:=jV3.cell 0;have cE3:=jE3.cell 0;simp at cV3 cE3;refine leaves_cons (f:=138) (args:=#[ptr (w.heap.size+1+1),ptr w.heap.size,ptr (w.heap.size+3),ptr (w.heap.size+1)]) (by simp) (by simp[go_sem]) ?_
 refine (deedD_ok _ _ _ _ 0 cE3 rfl).mono ?_
 rintro e u' w''⟨rfl,rfl,rfl⟩
 simp only[settle,Leaves];refine⟨.tuple #[.int .i64 v,.int .i64 0],by simp[results,Tryz.results77,go_sem,cV3,cE3],rfl,o2,(hS2.box tV _).box tE _,HS.out.trans ((hst.setCell_new (by show w.heap.size≤w.heap.size+1;omega) _).setCell_new (by show w.heap.size≤w.heap.size+1+1;omega) _)⟩
theorem deed_err (g:Nat) (caps:List Value) (h0:StIn w o y S) (hk:S.ok) (hx:S.txs[i]?=some x) (hl:x.live=true) (eg:∀ args w,(callFunc g args).run Tryz.prog w=.ok (.enter g args) w)
  (T:Tag→Prop) (hT:¬T (y.l.id+1,0)) (S':Stt) (v err:Int) (e0:err≠0) (e1:err≠141) (e2:err≠130) (e3:err≠100)
  (hdo:∀ w1 o1,Below w.heap.size w w1→(∀ b,b<w.heap.size→o1 b=o b)→StIn w1 o1 y S→Calls Tryz.prog g (ptr (y.xb i)::caps).toArray w1 fun e w'=>e=.returned (.tuple #[.int .i64 v,.int .i64 err])∧∃ o',StIn w' o' y S'∧Stp T o1 o' w1 w') :
  Calls Tryz.prog 77 #[ptr y.sb,.int .i64 i,.func (.func g) #[] caps.toArray] w fun e w'=>e=.returned (.tuple #[.int .i64 0,.int .i64 err])∧∃ o',StIn w' o' y S'∧Stp T o o' w w':=by
 have hmf:∀ (fn:Fn) (first cap:Array Value) (w:World),(Instr.makeFunc fn first cap).run Tryz.prog w=.ok (.func fn first cap) w:=fun _ _ _ _=>rfl
 obtain⟨o1,ho1⟩:∃ o1,o1=ext o w.heap.size (y.l.id+1,0):=⟨_,rfl⟩;have h:=h0.retag (o':=o1) fun b hb=>by rw[ho1];exact ext_lt hb
 have hS0:Stp T o o1 w w:=by rw[ho1];exact (Stp.refl _ o w).ext _ _ (Nat.le_refl _)
 have hbx:∀ b,w.heap.size≤b→o1 b=(y.l.id+1,0):=fun b hb=>by rw[ho1];exact ext_ge hb
 have hext:∀ b,b<w.heap.size→o1 b=o b:=fun b hb=>by rw[ho1];exact ext_lt hb
 clear ho1 h0;have HR:=Lib.hid (fun w' (hw:Below w.heap.size w w')=>running_in (h.below hw) hk hx)
 rw[hl]at HR;simp only[if_true]at HR;have HD:=Lib.hid (fun w' (hw:Below w.heap.size w w')=>hdo w' o1 hw hext (h.below hw))
 have HB:=Lib.hid hbx;have HS:=Lib.hid hS0;have HT:=Lib.hid hT;clear hdo hbx h hk hx hS0 hT hext;go_enter_defers Tryz.func77,Tryz.ntmps77;go_wp2_with fail;obtain⟨W,hW⟩:∃ W:World,W=((w.alloc (.cells #[ptr y.sb] 24)).alloc (.cells #[.int .i64 0] 3)).alloc (.cells #[.int .i64 0] 29):=⟨_,rfl⟩;rw[←hW];have hbW:Below w.heap.size w W:=by rw[hW];exact balloc (balloc (balloc (bsame w) _) _) _
 have hzW:W.heap.size=w.heap.size+3:=by rw[hW];simp
 have jS:Blk W w.heap.size #[ptr y.sb] 24:=by rw[hW];exact ((Blk.new w _ _).alloc _).alloc _
 have jV:Blk W (w.heap.size+1) #[.int .i64 0] 3:=by rw[hW];exact (Blk.new_at _ _ _ _ _ (by simp) rfl).alloc _
 have jE:Blk W (w.heap.size+1+1) #[.int .i64 0] 29:=by rw[hW];exact Blk.new_at _ _ _ _ _ (by simp) rfl
 clear hW;refine (HR.out _ hbW).mono ?_
 rintro e w1⟨rfl,rfl⟩
 go_wp2_with fail;refine (HD.out _ (balloc hbW _)).mono ?_
 rintro e w2⟨rfl,o2,hS2,hs2⟩
 have jV2:=(jV.alloc (.cells #[ptr (y.xb i)] 103)).stp hs2 (by rw[HB.out _ (by omega)];exact HT.out)
 have jE2:=(jE.alloc (.cells #[ptr (y.xb i)] 103)).stp hs2 (by rw[HB.out _ (by omega)];exact HT.out)
 have tV:o2 (w.heap.size+1)=(y.l.id+1,0):=(hs2.tags _ (jV.alloc _).lt).trans (HB.out _ (by omega))
 have tE:o2 (w.heap.size+1+1)=(y.l.id+1,0):=(hs2.tags _ (jE.alloc _).lt).trans (HB.out _ (by omega))
 have hst:Stp T o1 o2 w w2:=(Stp.of_below (balloc hbW _)).trans hs2;clear jV jE jS;have cV:=jV2.cell;have zV:=jV2.free;have sV:=jV2.lt;have cE:=jE2.cell;have zE:=jE2.free;have sE:=jE2.lt;go_wp2_with fail;have jV3:=(jV2.set 0 (.int .i64 v)).set_other (a:=⟨w.heap.size+1+1,0,none⟩) (by simp) (.int .i64 err)
 have jE3:=(jE2.set_other (a:=⟨w.heap.size+1,0,none⟩) (by simp) (.int .i64 v)).set 0 (.int .i64 err)
 have cV3:=jV3.cell 0;have cE3:=jE3.cell 0;simp at cV3 cE3;refine leaves_cons (f:=138) (args:=#[ptr (w.heap.size+1+1),ptr w.heap.size,ptr (w.heap.size+3),ptr (w.heap.size+1)]) (by simp) (by simp[go_sem]) ?_
 refine (deedD_err _ _ _ _ err v _ cE3 (by simpa using jV3) e0 e1 e2 e3).mono ?_
 rintro e u' w''⟨rfl,rfl,rfl⟩
 have jV4:=jV3.set 0 (.int .i64 0);have jE4:=jE3.set_other (a:=⟨w.heap.size+1,0,none⟩) (by simp) (.int .i64 0)
 have cV4:=jV4.cell 0;have cE4:=jE4.cell 0;simp at cV4 cE4;simp only[settle,Leaves];refine⟨.tuple #[.int .i64 0,.int .i64 err],by simp[results,Tryz.results77,go_sem,cV4,cE4],rfl,o2,((hS2.box tV _).box tE _).box tV _,HS.out.trans (((hst.setCell_new (by show w.heap.size≤w.heap.size+1;omega) _).setCell_new (by show w.heap.size≤w.heap.size+1+1;omega) _).setCell_new (by show w.heap.size≤w.heap.size+1;omega) _)⟩
end
section
variable {w : World} {o : Own} {y : SLay} {S : Stt} {x : Tx} {i : Nat}
def AbPost (y:SLay)(S':Stt)(o:Own)(w:World)(be bv:Nat)(err:Int)(tv te:TypeId)(w':World):Prop:=
 ∃ o' w1,w'=w1.setCell ⟨bv,0,none⟩ (.int .i64 0)∧StIn w' o' y S'∧Stp (stTag y) o o' w w1∧Blk w' bv #[.int .i64 0] tv∧Blk w' be #[.int .i64 err] te
theorem deedD_abort (be bs bx bv:Nat)(err v:Int)(tv te ts tx:TypeId)(he:Blk w be #[.int .i64 err] te)(hs:Blk w bs #[ptr y.sb] ts)(hx:Blk w bx #[ptr (y.xb i)] tx)(hv:Blk w bv #[.int .i64 v] tv)(h0:err=141∨err=130∨err=100)
  (ob:o be=(y.l.id+1,0))(ov:o bv=(y.l.id+1,0))(hne:be≠bv)(S':Stt)
  (hab:Calls Tryz.prog 73 #[ptr y.sb,ptr (y.xb i)] w fun e w'=>e=.returned (.tuple #[])∧∃ o',StIn w' o' y S'∧Stp (stTag y) o o' w w') :
  CallsD Tryz.prog 138 #[ptr be,ptr bs,ptr bx,ptr bv] .returning w fun e u' w'=>u'=.returning∧(e=.returned (.tuple #[])∧AbPost y S' o w be bv err tv te w'):=by
 have c:=he.cell;have cs:=hs.cell;have cx:=hx.cell;have HA:=Lib.hid hab;have HB:=Lib.hid (stTag_box y);clear hab;rcases h0 with rfl|rfl|rfl
 all_goals
  go_enter_d Tryz.func138,Tryz.ntmps138;go_wp2_with fail;refine HA.out.mono ?_
  rintro e w1⟨rfl,o1,hS1,hs1⟩
  have je:=he.stp hs1 (by rw[ob];exact HB.out)
  have jv:=hv.stp hs1 (by rw[ov];exact HB.out)
  have tv:o1 bv=(y.l.id+1,0):=(hs1.tags _ hv.lt).trans ov;clear c cs cx;have c:=je.cell;have cv:=jv.cell;have zv:=jv.free;have sv:=jv.lt;have hS2:=Lib.hid (hS1.box (a:=⟨bv,0,none⟩) tv (.int .i64 0));go_wp2_with fail;go_end0;exact⟨rfl,o1,_,rfl,hS2.out,hs1,jv.set 0 _,je.set_other hne _⟩
theorem deed_abort (g:Nat) (caps:List Value) (h0:StIn w o y S) (hk:S.ok) (hx:S.txs[i]?=some x) (hl:x.live=true) (eg:∀ args w,(callFunc g args).run Tryz.prog w=.ok (.enter g args) w)
  (T:Tag→Prop) (hT:¬T (y.l.id+1,0)) (S' S2:Stt) (v err:Int) (he:err=141∨err=130∨err=100)
  (hdo:∀ w1 o1,Below w.heap.size w w1→(∀ b,b<w.heap.size→o1 b=o b)→StIn w1 o1 y S→Calls Tryz.prog g (ptr (y.xb i)::caps).toArray w1 fun e w'=>e=.returned (.tuple #[.int .i64 v,.int .i64 err])∧∃ o',StIn w' o' y S'∧Stp T o1 o' w1 w')
  (hab:∀ w1 o1,StIn w1 o1 y S'→Calls Tryz.prog 73 #[ptr y.sb,ptr (y.xb i)] w1 fun e w'=>e=.returned (.tuple #[])∧∃ o',StIn w' o' y S2∧Stp (stTag y) o1 o' w1 w') :
  Calls Tryz.prog 77 #[ptr y.sb,.int .i64 i,.func (.func g) #[] caps.toArray] w fun e w'=>e=.returned (.tuple #[.int .i64 0,.int .i64 err])∧∃ o',StIn w' o' y S2∧Stp (fun t=>T t∨stTag y t) o o' w w':=by
 have hmf:∀ (fn:Fn) (first cap:Array Value) (w:World),(Instr.makeFunc fn first cap).run Tryz.prog w=.ok (.func fn first cap) w:=fun _ _ _ _=>rfl
 obtain⟨o1,ho1⟩:∃ o1,o1=ext o w.heap.size (y.l.id+1,0):=⟨_,rfl⟩;have h:=h0.retag (o':=o1) fun b hb=>by rw[ho1];exact ext_lt hb
 have hS0:Stp T o o1 w w:=by rw[ho1];exact (Stp.refl _ o w).ext _ _ (Nat.le_refl _)
 have hbx:∀ b,w.heap.size≤b→o1 b=(y.l.id+1,0):=fun b hb=>by rw[ho1];exact ext_ge hb
 have hext:∀ b,b<w.heap.size→o1 b=o b:=fun b hb=>by rw[ho1];exact ext_lt hb
 clear ho1 h0;have HR:=Lib.hid (fun w' (hw:Below w.heap.size w w')=>running_in (h.below hw) hk hx)
 rw[hl]at HR;simp only[if_true]at HR;have HD:=Lib.hid (fun w' (hw:Below w.heap.size w w')=>hdo w' o1 hw hext (h.below hw))
 have HAb:=Lib.hid hab;have HB:=Lib.hid hbx;have HS:=Lib.hid hS0;have HT:=Lib.hid hT;have HEr:=Lib.hid he;clear hdo hbx h hk hx hS0 hT hext hab he;go_enter_defers Tryz.func77,Tryz.ntmps77;go_wp2_with fail;obtain⟨W,hW⟩:∃ W:World,W=((w.alloc (.cells #[ptr y.sb] 24)).alloc (.cells #[.int .i64 0] 3)).alloc (.cells #[.int .i64 0] 29):=⟨_,rfl⟩;rw[←hW];have hbW:Below w.heap.size w W:=by rw[hW];exact balloc (balloc (balloc (bsame w) _) _) _
 have hzW:W.heap.size=w.heap.size+3:=by rw[hW];simp
 have jS:Blk W w.heap.size #[ptr y.sb] 24:=by rw[hW];exact ((Blk.new w _ _).alloc _).alloc _
 have jV:Blk W (w.heap.size+1) #[.int .i64 0] 3:=by rw[hW];exact (Blk.new_at _ _ _ _ _ (by simp) rfl).alloc _
 have jE:Blk W (w.heap.size+1+1) #[.int .i64 0] 29:=by rw[hW];exact Blk.new_at _ _ _ _ _ (by simp) rfl
 have jX:Blk (W.alloc (.cells #[ptr (y.xb i)] 103)) (w.heap.size+3) #[ptr (y.xb i)] 103:=Blk.new_at _ _ _ _ _ hzW.symm rfl;clear hW;refine (HR.out _ hbW).mono ?_
 rintro e w1⟨rfl,rfl⟩
 go_wp2_with fail;refine (HD.out _ (balloc hbW _)).mono ?_
 rintro e w2⟨rfl,o2,hS2,hs2⟩
 have jV2:=(jV.alloc (.cells #[ptr (y.xb i)] 103)).stp hs2 (by rw[HB.out _ (by omega)];exact HT.out)
 have jE2:=(jE.alloc (.cells #[ptr (y.xb i)] 103)).stp hs2 (by rw[HB.out _ (by omega)];exact HT.out)
 have jS2:=(jS.alloc (.cells #[ptr (y.xb i)] 103)).stp hs2 (by rw[HB.out _ (by omega)];exact HT.out)
 have jX2:=jX.stp hs2 (by rw[HB.out _ (by omega)];exact HT.out)
 have tV:o2 (w.heap.size+1)=(y.l.id+1,0):=(hs2.tags _ (jV.alloc _).lt).trans (HB.out _ (by omega))
 have tE:o2 (w.heap.size+1+1)=(y.l.id+1,0):=(hs2.tags _ (jE.alloc _).lt).trans (HB.out _ (by omega))
 have hst:Stp T o1 o2 w w2:=(Stp.of_below (balloc hbW _)).trans hs2;clear jV jE jS jX;have cV:=jV2.cell;have zV:=jV2.free;have sV:=jV2.lt;have cE:=jE2.cell;have zE:=jE2.free;have sE:=jE2.lt;go_wp2_with fail;have jV3:=(jV2.set 0 (.int .i64 v)).set_other (a:=⟨w.heap.size+1+1,0,none⟩) (by simp) (.int .i64 err)
 have jE3:=(jE2.set_other (a:=⟨w.heap.size+1,0,none⟩) (by simp) (.int .i64 v)).set 0 (.int .i64 err)
 have jS3:=(jS2.set_other (a:=⟨w.heap.size+1,0,none⟩) (by simp) (.int .i64 v)).set_other (a:=⟨w.heap.size+1+1,0,none⟩) (by simp;omega) (.int .i64 err)
 have jX3:=(jX2.set_other (a:=⟨w.heap.size+1,0,none⟩) (by simp) (.int .i64 v)).set_other (a:=⟨w.heap.size+1+1,0,none⟩) (by simp) (.int .i64 err)
 refine leaves_cons (f:=138) (args:=#[ptr (w.heap.size+1+1),ptr w.heap.size,ptr (w.heap.size+3),ptr (w.heap.size+1)]) (by simp) (by simp[go_sem]) ?_
 refine (deedD_abort _ _ _ _ err v _ _ _ _ (by simpa using jE3) jS3 jX3 (by simpa using jV3) HEr.out tE tV (by omega) S2 (HAb.out _ _ ((hS2.box tV _).box tE _))).mono ?_
 rintro e u' w''⟨rfl,rfl,o3,w3,rfl,hS3,hs3,jV4,jE4⟩
 have cV4:=jV4.cell 0;have cE4:=jE4.cell 0;simp at cV4 cE4;simp only[settle,Leaves];refine⟨.tuple #[.int .i64 0,.int .i64 err],by simp[results,Tryz.results77,go_sem,cV4,cE4],rfl,o3,hS3,?_⟩
 have h1:Stp T o o2 w _:=HS.out.trans ((hst.setCell_new (a:=⟨w.heap.size+1,0,none⟩) (by show w.heap.size≤w.heap.size+1;omega) (.int .i64 v)).setCell_new (a:=⟨w.heap.size+1+1,0,none⟩) (by show w.heap.size≤w.heap.size+1+1;omega) (.int .i64 err))
 exact ((h1.mono fun _ h=>Or.inl h).trans (hs3.mono fun _ h=>Or.inr h)).setCell_new (by show w.heap.size≤w.heap.size+1;omega) _
end
end Go.Proofs.YteehgedabdchcaaGreat
namespace Go.Proofs.YteehgedabdchcaaGreat
open Go.RowKit Go.Shelf Hp
section
variable {w w' : World} {o o' : Own} {y : SLay} {S : Stt} {i : Nat}
theorem s_setptr (h:StIn w o y S)(hk:S.ok)(p j q:Nat) :
  Calls Tryz.prog 113 #[ptr y.l.h,.int .i64 p,.int .i64 j,.int .i64 q] w fun e w'=>e=.returned (.int .i64 ((S.H.setPtrR p j q).2:Nat))∧Lft y { S with H:=(S.H.setPtrR p j q).1 } o w w':=by
 obtain⟨vc,vo,vw,vf,f,hh⟩:=h.hp;refine (hsetptr_any hh hk.H p j q).mono ?_
 rintro e w' ⟨rfl,vc',f',o',h1,h2⟩
 exact⟨rfl,o',h.heap ⟨_,_,_,_,_,h1⟩ h2,h2.mono fun _=>stTag_hp⟩
theorem s_ptr (h:StIn w o y S)(hk:S.ok)(p j:Nat) :
  Calls Tryz.prog 112 #[ptr y.l.h,.int .i64 p,.int .i64 j] w fun e w'=>e=.returned (.tuple #[.int .i64 ((S.H.ptrR p j).2.1:Nat),.int .i64 ((S.H.ptrR p j).2.2:Nat)])∧Lft y { S with H:=(S.H.ptrR p j).1 } o w w':=by
 obtain⟨vc,vo,vw,vf,f,hh⟩:=h.hp;refine (hptr_any hh hk.H p j).mono ?_
 rintro e w' ⟨rfl,vc',f',o',h1,h2⟩
 exact⟨rfl,o',h.heap ⟨_,_,_,_,_,h1⟩ h2,h2.mono fun _=>stTag_hp⟩
theorem backward_any (pa:Option Addr)(n c:Nat)(w:World) :
  Calls Tryz.prog 132 #[.slice pa n c] w fun e w'=>e=.returned (.func (.func 199) #[] #[ptr w.heap.size])∧w'=w.alloc (.cells #[.slice pa n c] 212):=by
 have hmf:∀ (fn:Fn)(first cap:Array Value)(w:World),(Instr.makeFunc fn first cap).run Tryz.prog w=.ok (.func fn first cap) w:=fun _ _ _ _=>rfl
 go_enter Tryz.func132,Tryz.ntmps132;go_wp2_with fail;go_ret;exact⟨rfl,rfl⟩
structure AbR (w:World)(o o1:Own)(y:SLay)(S:Stt)(us:List Un)(D bS bU:Nat)(v:Value)(R:Loop)(H:Hp)(wr:World):Prop where
 st:StIn wr o1 y (S.h H)
 hL:wr.heap[D+1]?=some (.loop R)
 hD:wr.heap[D]?=some (.deferred (some []))
 jS:Blk wr bS #[ptr y.sb] 24
 jU:Blk wr bU #[v] 212
 row:Row wr o1 (y.l.id+1,0) 175 4 v us.length (ucells us)
 sp:Stp (stTag y) o o1 w wr
 tL:o1 (D+1)=(y.l.id+1,0)
 tD:o1 D=(y.l.id+1,0)
 tS:o1 bS=(y.l.id+1,0)
 tU:o1 bU=(y.l.id+1,0)
theorem Row.form4 {w:World}{o:Own}{t:Tag}{e:TypeId}{size:Nat}{v:Value}{n:Nat}{xs:List Value}(h:Row w o t e size v n xs) :
  (v=.slice none 0 0∧xs=[])∨∃ g cap,v=.slice (some ⟨g,0,none⟩) n cap∧n≤cap:=by
 rcases h.own.2 with ⟨rfl,h2⟩|⟨g,cap,cur,rfl,_,hg,hn,hc,_⟩
 ·exact .inl ⟨rfl,List.eq_nil_of_length_eq_zero (by rw[h.own.1,h2];omega)⟩
 ·exact .inr ⟨g,cap,rfl,hn⟩
theorem Row.put {w:World}{o:Own}{t:Tag}{e:TypeId}{size:Nat}{v:Value}{n:Nat}{xs:List Value}(h:Row w o t e size v n xs){l:Nat}{R:Loop}(hl:w.heap[l]?=some (.loop R))(x:Obj):Row (w.putObj l x) o t e size v n xs:=by
 obtain⟨⟨h1,h2⟩,h3⟩:=h;refine⟨⟨h1,?_⟩,h3⟩;rcases h2 with h2|⟨g,cap,cur,rfl,hg,hh,r⟩
 ·exact .inl h2
 ·refine .inr ⟨g,cap,cur,rfl,hg,(World.putObj_heap_other fun e=>?_).trans hh,r⟩
  rw[e,hl]at hh;cases hh
theorem Stp.put {T:Tag→Prop}{o o':Own}{w w':World}(h:Stp T o o' w w'){l:Nat}(hl:T (o' l))(x:Obj):Stp T o o' w (w'.putObj l x):=
 h.trans ⟨rfl,rfl,rfl,by simp,fun _ _=>rfl,fun b _ ht=>World.putObj_heap_other fun e=>ht (by rw[e];exact hl)⟩
theorem Stp.put_new {T:Tag→Prop}{o o':Own}{w w':World}(h:Stp T o o' w w'){l:Nat}(hl:w.heap.size≤l)(x:Obj):Stp T o o' w (w'.putObj l x):=
 ⟨h.os,h.tape,h.output,by simpa using h.size,h.tags,fun b hb ht=>(World.putObj_heap_other (by omega)).trans (h.block b hb ht)⟩
theorem StIn.put (h:StIn w o y S){l:Nat}(ht:o l=(y.l.id+1,0))(x:Obj):StIn (w.putObj l x) o y S:=
 h.stp (T:=fun t=>t=(y.l.id+1,0)) ((Stp.refl _ o w).put ht x) fun j=>by simp
section
variable {o1 o2 : Own} {us : List Un} {D bS bU : Nat} {v : Value} {R : Loop} {l l' : Hp} {wr w2 : World}
theorem AbR.of_stp (h:AbR w o o1 y S us D bS bU v R l wr)(hs:Stp (stTag y) o1 o2 wr w2)(st:StIn w2 o2 y (S.h l')):AbR w o o2 y S us D bS bU v R l' w2:=
 have lL:=(Array.getElem?_eq_some_iff.1 h.hL).1
 have lD:=(Array.getElem?_eq_some_iff.1 h.hD).1
 ⟨st,(hs.block _ lL (by rw[h.tL];exact stTag_box y)).trans h.hL,(hs.block _ lD (by rw[h.tD];exact stTag_box y)).trans h.hD,h.jS.stp hs (by rw[h.tS];exact stTag_box y),h.jU.stp hs (by rw[h.tU];exact stTag_box y),
  h.row.stp hs (stTag_box y),h.sp.trans hs,(hs.tags _ lL).trans h.tL,(hs.tags _ lD).trans h.tD,(hs.tags _ h.jS.lt).trans h.tS,(hs.tags _ h.jU.lt).trans h.tU⟩
theorem AbR.below (h:AbR w o o1 y S us D bS bU v R l wr)(hb:Below wr.heap.size wr w2):AbR w o o1 y S us D bS bU v R l w2:=
 h.of_stp (Stp.of_below hb) (h.st.below hb)
theorem AbR.re (h:AbR w o o1 y S us D bS bU v R l wr):AbR w o (ext o1 wr.heap.size (y.l.id+1,0)) y S us D bS bU v R l wr:=
 have hs:Stp (stTag y) o1 (ext o1 wr.heap.size (y.l.id+1,0)) wr wr:=(Stp.refl _ _ _).ext _ _ (Nat.le_refl _)
 h.of_stp hs (h.st.retag fun _ hb=>ext_lt hb)
theorem AbR.put (h:AbR w o o1 y S us D bS bU v R l wr)(hw:w.heap.size≤D)(R':Loop):AbR w o o1 y S us D bS bU v R' l (wr.putObj (D+1) (.loop R')):=by
 have n1:bS≠D+1:=fun e=>by have:=h.jS;unfold Blk at this;rw[e,h.hL]at this;cases this
 have n2:bU≠D+1:=fun e=>by have:=h.jU;unfold Blk at this;rw[e,h.hL]at this;cases this
 exact⟨h.st.put h.tL _,World.putObj_heap_same (Array.getElem?_eq_some_iff.1 h.hL).1,(World.putObj_heap_other (by omega)).trans h.hD,h.jS.put n1,h.jU.put n2,h.row.put h.hL _,h.sp.put_new (by omega) _,h.tL,h.tD,h.tS,h.tU⟩
theorem Row.cell4 {w:World}{o:Own}{t:Tag}{l:List Un}{g n cap:Nat}(h:Row w o t 175 4 (.slice (some ⟨g,0,none⟩) n cap) n (ucells l))(i:Nat)(x:Un)(hx:l[i]?=some x) :
  w.cell? ⟨g,i*4,none⟩=some (.int .i64 x.kind)∧w.cell? ⟨g,i*4+1,none⟩=some (.int .i64 x.pos)∧w.cell? ⟨g,i*4+2,none⟩=some (.int .i64 x.i)∧w.cell? ⟨g,i*4+3,none⟩=some (.int .i64 x.old):=by
 obtain⟨h1,h2,h3,h4⟩:=ucells_at l i x hx;have f:=fun j u hu=>h.own.cells (g:=g) rfl j u hu
 have e:∀ j,(⟨g,0,none⟩:Addr).add j=⟨g,j,none⟩:=fun j=>by unfold Addr.add;split<;>simp_all
 have a1:=f _ _ h1;have a2:=f _ _ h2;have a3:=f _ _ h3;have a4:=f _ _ h4;rw[e]at a1 a2 a3 a4;rw[Nat.mul_comm i 4];exact⟨a1,a2,a3,a4⟩
end
end
theorem grow_zero (w:World):Calls Tryz.prog 201 #[.slice none 0 0,.int .i64 0] w fun e w'=>e=.returned (.slice none 0 0)∧w=w':=by
 go_enter Tryz.func201,Tryz.ntmps201;go_wp2_with fail;go_ret;exact⟨rfl,rfl⟩
def growRen:Go.Shelf.Ren:=⟨fun|4=>201|n=>n,fun|0=>0|3=>3|4=>4|9=>9|20=>20|22=>99|25=>117|n=>n,fun|n=>n⟩
theorem growLays:Go.Proofs.Lays8.n4 Tryz.prog growRen:={
 mixed:=by kernel_rfl
 f4:=⟨Tryz.f201.name,by kernel_rfl,Tryz.func201.trans (congrArg some (by kernel_rfl))⟩
 t0:=by kernel_rfl
 a0:=fun _=>by kernel_rfl
 z0:=fun _=>by kernel_rfl
 v0:=fun _=>by kernel_rfl
 t3:=by kernel_rfl
 a3:=fun _=>by kernel_rfl
 z3:=fun _=>by kernel_rfl
 v3:=fun _=>by kernel_rfl
 t4:=by kernel_rfl
 a4:=fun _=>by kernel_rfl
 z4:=fun _=>by kernel_rfl
 v4:=fun _=>by kernel_rfl
 t9:=by kernel_rfl
 a9:=fun _=>by kernel_rfl
 z9:=fun _=>by kernel_rfl
 v9:=fun _=>by kernel_rfl
 t20:=by kernel_rfl
 a20:=fun _=>by kernel_rfl
 z20:=fun _=>by kernel_rfl
 v20:=fun _=>by kernel_rfl
 t22:=by kernel_rfl
 a22:=fun _=>by kernel_rfl
 z22:=fun _=>by kernel_rfl
 v22:=fun _=>by kernel_rfl }
theorem info_item:∃ i,Tryz.prog.info? 117=some i∧i.size=2∧i.bytes=16∧i.zero=some (.agg #[.int .i64 0,.int .i64 0]):=info_parts (by kernel_rfl)
theorem grow_any (n:Nat)(hn:n≤4398046511104)(w:World) :
  Calls Tryz.prog 201 #[.slice none 0 0,.int .i64 n] w fun e w'=>∃ v,e=.returned v∧Row w' (fo w.heap.size) (1,0) 117 2 v 0 []∧Below w.heap.size w w':=by
 rcases Nat.eq_zero_or_pos n with rfl|h0
 ·refine (grow_zero w).mono ?_
  rintro e w' ⟨rfl,rfl⟩
  exact⟨_,rfl,Row.nil _ _ _ _ _,bsame w⟩
 ·obtain⟨i,hi,hs,hb,hz⟩:=info_item
  have hG:=Any8.slices_Grow_grow growLays i _ hi hz (by omega) none 0 0 n [] w (Nat.le_refl _) (by omega) (by rw[hb];omega) (by omega) (by simp) (fun _=>rfl) (fun a ha=>by cases ha)
  refine hG.mono ?_
  rintro e w' ⟨rfl,rfl⟩
  refine⟨_,rfl,⟨⟨by simp,.inr ⟨w.heap.size,_,_,rfl,Nat.zero_le _,World.alloc_heap_new w.drew _,Nat.zero_le _,?_,?_,by simp⟩⟩,?_⟩,balloc (bdrew (bsame w)) _⟩
  ·exact grownCap_le_maxLen _ _ _ _ (by unfold maxLen;omega)
  ·have hg:=grownCap_ge w (0+n) 0 (growRen.t 25)
   simp only[Array.size_append,size_zeroCells,List.size_toArray,List.length_nil];show 0+(0+n-0)*2+_*2=_*2;omega
  ·intro k hk
   simp only[Value.ownBlock,Option.some.injEq]at hk;subst hk;exact fo_ge (Nat.le_refl _)
theorem hcells_app (l m:List (Nat×Nat)):hcells (l++m)=hcells l++hcells m:=by
 induction l with
 | nil=>rfl
 | cons x l ih=>simp[hcells,ih]
theorem cc_wraps (m1 m2:Nat)(n1:m1≤1099511627776)(n2:m2≤1099511627776) :
  IntKind.i64.wrap (0+(m1:Int))=(m1:Int)∧IntKind.i64.wrap ((m1:Int)+(m2:Int))=(m1:Int)+(m2:Int)∧wrap64 (m1:Int)=(m1:Int)∧wrap64 ((m1:Int)+(m2:Int))=(m1:Int)+(m2:Int):=by
 have h1:(-9223372036854775808:Int)≤m1∧(m1:Int)≤9223372036854775807:=by omega
 have h2:(-9223372036854775808:Int)≤(m1:Int)+m2∧(m1:Int)+m2≤9223372036854775807:=by omega
 exact⟨by rw[Int.zero_add];exact IntWalk.i64_in _ h1,IntWalk.i64_in _ h2,IntWalk.wrap64_in _ h1,IntWalk.wrap64_in _ h2⟩
def CcR (m1 m2:Nat)(s ix:Value):Prop:=∃ k n:Nat,s=.int .i64 n∧ix=.int .i64 k∧(k=0∧n=0∨k=1∧n=m1∨k=2∧n=m1+m2)
theorem concat_any {w:World}{b:Nat}{v1 v2:Value}{l1 l2:List (Nat×Nat)}{o1 o2:Own}{t1 t2:Tag}(hb:Blk w b #[v1,v2] 99)(h1:Row w o1 t1 117 2 v1 l1.length (hcells l1))(h2:Row w o2 t2 117 2 v2 l2.length (hcells l2))
  (n1:l1.length≤1099511627776)(n2:l2.length≤1099511627776) :
  Calls Tryz.prog 134 #[.slice (some ⟨b,0,none⟩) 2 2] w fun e w'=>∃ v,e=.returned v∧Row w' (fo w.heap.size) (1,0) 117 2 v (l1++l2).length (hcells (l1++l2))∧Below w.heap.size w w':=by
 obtain⟨iU,hi,hsI,hyI,hzI⟩:=info_item;have hu64:=Tryz.underlying99;have c:=hb.cell;have HG:=Lib.hid (fun w'=>grow_any (l1.length+l2.length) (by omega) w')
 have H1:=Lib.hid h1;have H2:=Lib.hid h2;have HB:=Lib.hid hb;obtain⟨a1,c1,e1⟩:∃ a1 c1,v1=.slice a1 l1.length c1:=h1.slc;obtain⟨a2,c2,e2⟩:∃ a2 c2,v2=.slice a2 l2.length c2:=h2.slc;subst e1 e2;obtain⟨m1,hm1⟩:∃ m1,m1=l1.length:=⟨_,rfl⟩;obtain⟨m2,hm2⟩:∃ m2,m2=l2.length:=⟨_,rfl⟩;rw[←hm1,←hm2]at HG;rw[←hm1]at c H1 HB n1;rw[←hm2]at c H2 HB n2;have hfin:(l1++l2).length=m1+m2:=by rw[List.length_append];omega
 have HF:=Lib.hid hfin;obtain⟨hw0,hw1,hw2,hw3⟩:=cc_wraps m1 m2 n1 n2;have hp1:¬((m1:Int)<0):=Int.not_lt.2 (Int.natCast_nonneg _);have hp2:¬((m1:Int)+(m2:Int)<0):=Int.not_lt.2 (Int.add_nonneg (Int.natCast_nonneg _) (Int.natCast_nonneg _));have hp3:decide ((m1:Int)<0)=false:=decide_eq_false hp1;have hp4:decide ((m1:Int)+(m2:Int)<0)=false:=decide_eq_false hp2;have N1:=Lib.hid n1;have N2:=Lib.hid n2;clear h1 h2 hb hm1 hm2 hfin n1 n2;go_enter Tryz.func134,Tryz.ntmps134;go_wp2_with fail;go_loop [3,11] (CcR m1 m2) (fun _ ix=>2-(intOf ix).toNat)
 case atStart=>exact⟨0,0,rfl,rfl,.inl ⟨rfl,rfl⟩⟩
 case round =>
  obtain⟨k,n,rfl,rfl,hkn⟩:=hrel;rcases hkn with ⟨rfl,rfl⟩|⟨rfl,rfl⟩|⟨rfl,rfl⟩
  ·have cz:=c 0
   rw[show ((0:Nat):Int)=0 from rfl];go_wp2_with fail;go_round
   case rel=>exact⟨1,m1,by rw[hw2],rfl,.inr (.inl ⟨rfl,rfl⟩)⟩
   case measure=>simp[intOf]
  ·have cz:=c 1
   go_wp2_with fail;go_round
   case rel=>exact⟨2,n+m2,by rw[Int.natCast_add],rfl,.inr (.inr ⟨rfl,rfl⟩)⟩
   case measure=>simp[intOf]
  ·rw[Int.natCast_add]
   clear c;go_wp2_with fail;refine (HG.out _).mono ?_
   rintro e w1 ⟨v,rfl,hr,hb1⟩
   have HRw:=Lib.hid hr;have HBb:=Lib.hid hb1;clear hr;go_wp2_with fail;go_loopw [6,27] (fun s ix wr=>∃ (k:Nat)(n:Nat)(xs:List Value),k≤2∧ix=.int .i64 k∧n=(if k=0 then 0 else if k=1 then m1 else m1+m2)∧xs=(if k=0 then [] else if k=1 then hcells l1 else hcells (l1++l2))∧Row wr (fo w.heap.size) (1,0) 117 2 s n xs∧Below w.heap.size w wr) (fun _ ix _=>2-(intOf ix).toNat)
   case atStart=>exact⟨0,0,[],by omega,rfl,rfl,rfl,HRw.out,HBb.out⟩
   case round =>
    clear hb1;obtain⟨k,n,xs,hk,rfl,hn,hxs,hr,hbr⟩:=hrel;obtain rfl|rfl|rfl:k=0∨k=1∨k=2:=by omega
    ·simp only[if_true]at hn hxs
     subst hn hxs;have c:=(HB.out.below hbr HB.out.lt).cell 0;have hk1:=Lib.hid (show 0+m1≤maxLen by have:=N1.out;simp only[maxLen];omega)
     have hk2:=Lib.hid (show (0+m1)*16≤140737488355328 by have:=N1.out;omega)
     have hsrc:=H1.out.below hbr;go_wp2_with (at_builtin;refine wpList_append_rows _ rfl _ _ _ rfl 117 iU _ 2 16 hu64 hi hzI hsI hyI rfl (by decide) (fo w.heap.size) (1,0) _ 0 [] rfl hr _ _ _ m1 (hcells l1) rfl hsrc (hcells_one l1) hk1.out hk2.out ?_;intro v' w' hown hst)
     have hbr2:=fo_below hbr hst;have hown2:=fo_grow hbr hown;rw[List.nil_append,Nat.zero_add]at hown2;go_roundw
     case rel=>exact⟨1,m1,hcells l1,by omega,by simp,by simp,by simp,hown2,hbr2⟩
     case measure=>simp[intOf]
    ·simp only[if_true,Nat.one_ne_zero,if_false]at hn hxs
     subst hn hxs;have c:=(HB.out.below hbr HB.out.lt).cell 1;have hk1:=Lib.hid (show n+m2≤maxLen by have:=N1.out;have:=N2.out;simp only[maxLen];omega)
     have hk2:=Lib.hid (show (n+m2)*16≤140737488355328 by have:=N1.out;have:=N2.out;omega)
     have hsrc:=H2.out.below hbr;go_wp2_with (at_builtin;refine wpList_append_rows _ rfl _ _ _ rfl 117 iU _ 2 16 hu64 hi hzI hsI hyI rfl (by decide) (fo w.heap.size) (1,0) _ n (hcells l1) rfl hr _ _ _ m2 (hcells l2) rfl hsrc (hcells_one l2) hk1.out hk2.out ?_;intro v' w' hown hst)
     have hbr2:=fo_below hbr hst;have hown2:=fo_grow hbr hown;rw[←hcells_app]at hown2;go_roundw
     case rel=>exact⟨2,n+m2,hcells (l1++l2),by omega,by simp,by simp,by simp,hown2,hbr2⟩
     case measure=>simp[intOf]
    ·simp only[Nat.reduceEqDiff,if_false]at hn hxs
     subst hn hxs;go_wp2_with fail;go_ret;exact⟨_,rfl,by rw[HF.out];exact hr,hbr⟩
end Go.Proofs.YteehgedabdchcaaGreat
namespace Go.Proofs.YteehgedabdchcaaGreat
open Go.RowKit Hp
attribute [local go_sem ↓] Go.wp_at_zero Go.wp_at_succ
section
variable {w w' : World} {o o' : Own} {y : SLay} {S : Stt} {i : Nat}
def Stt.commit (S:Stt)(i:Nat):Res:=S.deedR i (S.commitR i)
theorem eg_commit1 (args:Array Value)(w:World):(callFunc 78 args).run Tryz.prog w=.ok (.enter 78 args) w:=enters_of Tryz.func78 (by kernel_rfl) rfl args w
theorem commit1_read (h:StIn w o y S)(hk:S.ok)(hi:i<S.txs.length)(hh:(S.t i).log.holds=[])(hn:S.holder≠(i:Int)){b1:Nat}(j1:Blk w b1 #[ptr y.sb] 24) :
  Calls Tryz.prog 78 #[ptr (y.xb i),ptr b1] w fun e w'=>e=.returned (.tuple #[.int .i64 0,.int .i64 0])∧Lft y (S.tx i (S.t i).ended) o w w':=by
 have hx':=h.txs i _ (Stt.t_get hi);obtain⟨vr,vk,vh,vu,hl⟩:=hx'.log;have HL:=Lib.hid (log_holds hl (hk.lgt hi).ok (y.l.id+1,0));rw[hh]at HL;have HE:=Lib.hid (fun w' (hw:Below w.heap.size w w')=>end_in (h.below hw) (Stt.t_get hi))
 have c1:=j1.cell;obtain⟨vt,jx,_⟩:=hx'.blk;unfold txCells at jx;have cx:=jx.cell;obtain⟨vq,vl,vm,jb,_⟩:=h.blk;unfold stCells at jb;have hne:(S.holder==(i:Int))=false:=by simpa using hn
 have hne2:¬S.holder=(i:Int):=hn;generalize S.tx i (S.t i).ended=S2 at *;clear h hk hh hx' hl hn hi;go_enter Tryz.func78,Tryz.ntmps78;go_wp2_with fail;refine HL.out.mono ?_
 rintro e w1⟨v',rfl,hr,hb1⟩
 obtain⟨pa,cp,rfl⟩:=hr.slc;have c1:=(j1.below hb1 j1.lt).cell;have cx:=(jx.below hb1 jx.lt).cell;have c:=(jb.below hb1 jb.lt).cell;have s1:=(j1.below hb1 j1.lt).lt;go_upto_region 2 with fail;go_quiet (fail);go_wp2_with fail;refine (HE.out _ (bdrewN hb1 _)).mono ?_
 rintro e w2⟨rfl,o2,hS2,hs2⟩
 go_wp2_with fail;go_ret2;exact⟨rfl,o2,hS2,(Stp.of_below (bdrewN hb1 _)).trans hs2⟩
theorem tick_st (h:StIn w o y S) (hk:S.ok) (hm:S.now<S.most) :
  Calls Tryz.prog 83 #[ptr y.ck] w fun e w'=>e=.returned (.tuple #[.int .i64 ((S.now+1:Nat):Int),.bool true])∧StIn w' o y { S with now:=S.now+1 }∧Stp (fun t=>t=(y.l.id,10)) o o w w':=by
 refine (clk_tick h.ck (by omega) (by omega) (by have:=hk.n2;omega)).mono ?_
 rintro e w'⟨rfl,hb,hw⟩
 have hs:Stp (fun t=>t=(y.l.id,10)) o o w w':=Stp.of_wr hw h.oc
 exact⟨by simp,h.clock (n:=S.now+1) (by simpa using hb) hs,hs⟩
theorem s_setsecond2 (h:StIn w o y S)(hk:S.H.wf)(p v:Nat)(hv:v≤2199023255552) :
  Calls Tryz.prog 145 #[ptr y.l.h,.int .i64 p,.int .u64 v] w fun e w'=>e=.returned (.int .i64 ((S.H.setSecondR p v).2:Nat))∧Lft y { S with H:=(S.H.setSecondR p v).1 } o w w':=by
 obtain⟨vc,vo,vw,vf,f,hh⟩:=h.hp;unfold Hp.setSecondR
 cases hp:lk S.H.cur p with
 | none=>exact (hsetsecond_no hh hk.ok hp v).mono fun _ _⟨a,b⟩=>⟨a,h.lft b⟩
 | some ob =>
  refine (hsetsecond_in hh hk.ok hp v hv).mono ?_
  rintro e w'⟨rfl,_,h',hw⟩
  obtain⟨a1,a2⟩:=hh.st_wr h' hw;exact⟨rfl,h.lft_heap a1 a2⟩
theorem release_in2 (h:StIn w o y S)(hk:S.H.wf)(p v:Nat)(hv:v≤1099511627776) :
  Calls Tryz.prog 84 #[ptr y.sb,.int .i64 p,.int .i64 v] w fun e w'=>e=.returned (.tuple #[])∧Lft y { S with H:=(S.H.setSecondR p (2*v)).1 } o w w':=by
 have HC:=s_setsecond2 h hk p (2*v) (by omega)
 have HO:=Lib.hid (fun w=>free_any v ⟨by omega,by omega⟩ w)
 have ei:((2*v:Nat):Int)=2*(v:Int):=by omega
 rw[ei]at HC;generalize (S.H.setSecondR p (2*v))=r at *;replace HC:=Lib.hid HC;generalize 2*(v:Int)=q at HC HO;obtain⟨vq,vl,vm,hb,_⟩:=h.blk;unfold stCells at hb;have c:=hb.cell;clear h hk hv ei;go_enter Tryz.func84,Tryz.ntmps84;go_wp2_with fail;refine (HO.out _).mono ?_
 rintro e w1 ⟨rfl,rfl⟩
 go_wp2_with fail;refine HC.out.mono ?_
 rintro e w2 ⟨rfl,hl⟩
 go_wp2_with fail;go_end0;exact⟨rfl,hl⟩
theorem clashes_take {S:Stt}{i k:Nat}{p:Nat}(hp:(S.t i).log.reads[k]?=some p)(hc:clashB i (S.t i).start (S.H.sec p)=true):S.clashes i=true:=by
 unfold Stt.clashes;rw[List.any_eq_true];exact⟨p,List.mem_of_getElem? hp,hc⟩
theorem clashes_not {S:Stt}{i:Nat}(h:∀ (k p:Nat),(S.t i).log.reads[k]?=some p→clashB i (S.t i).start (S.H.sec p)=false):S.clashes i=false:=by
 unfold Stt.clashes;rw[List.any_eq_false];intro p hp;obtain⟨k,hk⟩:=List.getElem?_of_mem hp;rw[h k p hk];simp
theorem commit1_write (h0:StIn w o y S) (hk:S.ok) (hi:i<S.txs.length) (hl:(S.t i).live=true) (hw:¬((S.t i).log.holds=[]∧S.holder≠(i:Int)))
  {b1:Nat} (j1:Blk w b1 #[ptr y.sb] 24) (t1:o b1=(y.l.id+1,0)) :
  Calls Tryz.prog 78 #[ptr (y.xb i),ptr b1] w fun e w'=>e=.returned (.tuple #[.int .i64 (S.commitR i).v,.int .i64 (S.commitR i).e])∧Lft y (S.commitR i).S o w w':=by
 have hm:S.now<S.most:=by have:=liveN_ge S.txs i _ (Stt.t_get hi) hl;have:=hk.lv;omega
 have hx:=Stt.t_get hi;have HC1:Hid (S.clashes i=true→S.commitR i=⟨S,0,141⟩):=fun hc=>by unfold Stt.commitR;rw[if_neg hw,if_pos hc]
 have HC2:Hid (S.clashes i=false→S.commitR i=⟨(S.tickR i).tx i (S.t i).ended,(S.now:Int)+1,0⟩):=fun hc=>by unfold Stt.commitR;rw[if_neg hw,if_neg (by rw[hc];simp)]
 have HCt:Hid (∀ (k p:Nat),(S.t i).log.reads[k]?=some p→clashB i (S.t i).start (S.H.sec p)=true→S.clashes i=true):=fun k p=>clashes_take
 have HCn:Hid ((∀ (k p:Nat),(S.t i).log.reads[k]?=some p→clashB i (S.t i).start (S.H.sec p)=false)→S.clashes i=false):=clashes_not;have HTR:Hid (S.tickR i=if S.holder=(i:Int) then { S with now:=S.now+1,H:=S.H.comL (S.t i).log.holds (S.now+1),holder:=-1,version:=S.now+1 } else { S with now:=S.now+1,H:=S.H.comL (S.t i).log.holds (S.now+1) }):=rfl
 generalize S.commitR i=RC at *;obtain⟨x,hxe⟩:∃ x,x=S.t i:=⟨_,rfl⟩;rw[←hxe]at hx hl hw HC2 HCt HCn HTR;have hwI:x.log.holds=[]→S.holder=(i:Int):=fun e=>Classical.byContradiction fun h=>hw ⟨e,h⟩
 have HTk:=Lib.hid (fun (w':World) (o':Own) (h':StIn w' o' y S)=>tick_st h' hk hm)
 have hlf:=hk.lgt hi;rw[←hxe]at hlf;have hM2:S.now+1≤1099511627776:=by have:=hk.n2;omega
 have HV0:Hid ((S.now:Int)+1=((S.now+1:Nat):Int)):=by show (S.now:Int)+1=_;omega
 obtain⟨V,hV⟩:∃ V,V=S.now+1:=⟨_,rfl⟩;rw[←hV]at HTk hM2 HTR HV0;clear hV hm;obtain⟨o1,ho1⟩:∃ o1,o1=ext o w.heap.size (y.l.id+1,0):=⟨_,rfl⟩;have h:=h0.retag (o':=o1) fun b hb=>by rw[ho1];exact ext_lt hb
 have hS0:Stp (stTag y) o o1 w w:=by rw[ho1];exact (Stp.refl _ o w).ext _ _ (Nat.le_refl _)
 have hext:∀ n,w.heap.size≤n→ext o1 n (y.l.id+1,0)=o1:=fun n hn=>by rw[ho1];exact ext_ext _ _ _ _ hn
 have u1:o1 b1=(y.l.id+1,0):=by rw[ho1,ext_lt j1.lt];exact t1
 clear ho1 h0 t1;have hx':=h.txs i x hx;obtain⟨vr,vk,vh,vu,hll⟩:=hx'.log;have HLH:=Lib.hid (log_holds hll hlf.ok (y.l.id+1,0));have HLR:=Lib.hid (fun w' (hw:Below w.heap.size w w')=>log_reads (hll.below hw) hlf.ok (y.l.id+1,0))
 obtain⟨vt,jx,_⟩:=hx'.blk;unfold txCells at jx;obtain⟨vq,vl,vm,jb,_⟩:=h.blk;unfold stCells at jb;have hlen1:x.log.reads.length≤200:=by have:=hlf.ok.r;have:=hlf.ok.mr;omega
 have hlen2:x.log.holds.length≤200:=by have:=hlf.ok.h;have:=hlf.ok.mu;omega
 have H:=Lib.hid h;have HK:=Lib.hid hk;have HS:=Lib.hid hS0;have HE:=Lib.hid hext;have HX:=Lib.hid hx;have HU1:=Lib.hid u1;have HM2:=Lib.hid hM2;obtain⟨rs,hrs⟩:∃ rs,rs=x.log.reads:=⟨_,rfl⟩;obtain⟨hs,hhs⟩:∃ hs,hs=x.log.holds:=⟨_,rfl⟩;rw[←hrs]at HLR hlen1 HCt HCn;rw[←hhs]at HLH hlen2 hwI HTR;have HWr:=Lib.hid hwI;have HXE:=Lib.hid hxe;clear h hk hS0 hext hx hx' hll hlf hrs hhs u1 hw hwI hl hi hM2 hxe;have c1:=j1.cell;have cx:=jx.cell;go_enter Tryz.func78,Tryz.ntmps78;go_wp2_with fail;refine HLH.out.mono ?_
 rintro e w1 ⟨v1,rfl,hr1,hb1⟩
 obtain⟨pa1,cp1,rfl⟩:=hr1.slc;rw[HE.out _ (Nat.le_refl _)]at hr1;clear c1 cx;have c1:=(j1.below hb1 j1.lt).cell;have s1:=(j1.below hb1 j1.lt).lt;have cx:=(jx.below hb1 jx.lt).cell;have cb:=(jb.below hb1 jb.lt).cell;go_upto_region 2 with fail
 have hcase:((((hs.length:Nat):Int)==0)=true∧(S.holder==(i:Int))=true∧(S.holder != (i:Int))=false)∨(((hs.length:Nat):Int)==0)=false:=by
  by_cases hl0:hs.length=0
  ·have hh:S.holder=(i:Int):=HWr.out (List.eq_nil_of_length_eq_zero hl0)
   have hhb:(S.holder==(i:Int))=true:=by rw[beq_iff_eq];exact hh
   exact .inl ⟨by rw[beq_iff_eq];omega,hhb,by rw[bne,hhb];rfl⟩
  ·exact .inr (by rw[beq_eq_false_iff_ne];omega)
 rcases hcase with ⟨hlb,hhb,hhn⟩|hlb
 all_goals
  go_quiet (fail);obtain⟨W,hW⟩:∃ W:World,W=w1.drewN nq:=⟨_,rfl⟩;have hbW:Below w.heap.size w W:=by rw[hW];exact bdrewN hb1 _
  have hr2:Row W o1 (y.l.id+1,0) 131 2 (.slice pa1 hs.length cp1) hs.length (hcells hs):=by rw[hW];exact hr1.below (bdrewN (bsame _) _)
  rw[←hW];clear hW hr1 hb1 c1 s1 cx cb;have cx:=(jx.below hbW jx.lt).cell;go_wp2_with fail;refine (HLR.out _ hbW).mono ?_
  rintro e w2 ⟨v2,rfl,hrr,hb2⟩
  obtain⟨pa2,cp2,rfl⟩:=hrr.slc;rw[HE.out _ hbW.size]at hrr;have hr3:=hr2.below hb2;have hbW2:=btrans hbW hb2;clear cx hr2 hb2 hbW;go_wp2_with fail;go_loopw [40] (fun ix wr=>∃ k:Nat,ix=.int .i64 k∧k≤rs.length∧Below w2.heap.size w2 wr∧∀ j p,j<k→rs[j]?=some p→clashB i x.start (S.H.sec p)=false) (fun ix _=>rs.length-(intOf ix).toNat)
  case atStart=>exact⟨0,rfl,Nat.zero_le _,bsame _,fun j p h=>by omega⟩
  case round =>
   obtain⟨k,rfl,hkl,hbr,hnc⟩:=hrel;have HNC:=Lib.hid hnc;clear hnc;have hbw:=btrans hbW2 hbr;have c1:=(j1.below hbw j1.lt).cell;by_cases hlt:k<rs.length
   ·have kI:(k:Int)<(rs.length:Int):=by omega
    have hgk:=List.getElem?_eq_getElem hlt;obtain⟨p,hp⟩:∃ p,p=rs[k]:=⟨_,rfl⟩;rw[←hp]at hgk;rcases (hrr.below hbr).form with ⟨_,h0⟩|⟨g,cap,e,_⟩
    ·omega
    ·injection e with e1 _ e3
     subst e1 e3;have q0:wr.cell? ⟨g,k,none⟩=some (.int .i64 p):=(hrr.below hbr).cells k _ (by rw[List.getElem?_map,hgk];rfl)
     have HC:=(clash_in (H.out.below hbw) HK.out HX.out p);have HGK:=Lib.hid hgk;clear hgk hp
     cases hcl:clashB i x.start (S.H.sec p) with
     | false =>
      rw[hcl]at HC;have HC:=Lib.hid HC;have HCL:=Lib.hid hcl;clear hcl;go_wp2_with fail;refine HC.out.mono ?_
      rintro e w3 ⟨rfl,hb3⟩
      go_wp2_with fail;go_roundw
      case rel =>
       refine⟨k+1,by simp,by omega,btrans hbr hb3,fun j q hj hq=>?_⟩
       by_cases e:j=k
       ·subst e;rw[HGK.out]at hq;injection hq with hq;rw[←hq];exact HCL.out
       ·exact HNC.out j q (by omega) hq
      case measure=>simp[intOf];omega
     | true =>
      rw[hcl]at HC;have HC:=Lib.hid HC;have HRC:=Lib.hid (HC1.out (HCt.out k p HGK.out hcl));have HLf:=Lib.hid (fun (W:World) (hb:Below w.heap.size w W)=>show Lft y S o w W from ⟨o1,H.out.below hb,HS.out.trans (Stp.of_below hb)⟩)
      clear hcl;go_wp2_with fail;refine HC.out.mono ?_
      rintro e w3 ⟨rfl,hb3⟩
      go_wp2_with fail;go_ret2;rw[HRC.out];exact⟨rfl,HLf.out _ (btrans hbw hb3)⟩
   ·obtain rfl:k=rs.length:=by omega
    have HRC:=Lib.hid (HC2.out (HCn.out fun k p hp=>HNC.out k p (List.getElem?_eq_some_iff.1 hp).1 hp))
    clear hlt;have HT:=Lib.hid (HTk.out _ _ (H.out.below hbw));have hr4:=hr3.below hbr;have j4:=j1.below hbw j1.lt;have cb:=(jb.below hbw jb.lt).cell;go_wp2_with fail;refine HT.out.mono ?_
    rintro e w3 ⟨rfl,hS3,hs3⟩
    have hck:¬(fun t=>t=(y.l.id,10)) (y.l.id+1,0):=fun e=>by injection e with e _;omega
    have hr5:=hr4.stp hs3 hck;have j5:=j4.stp hs3 (by rw[HU1.out];exact hck)
    have hst5:Stp (stTag y) o1 o1 w w3:=(Stp.of_below hbw).trans (hs3.mono fun t ht=>by rw[ht];rfl)
    have hS5:StIn w3 o1 y (({ S with now:=V }:Stt).h (({ S with now:=V }:Stt).H.comL [] V)):=hS3;obtain⟨S1,hS1⟩:∃ S1:Stt,S1={ S with now:=V }:=⟨_,rfl⟩;rw[←hS1]at hS5;have HS1:=Lib.hid hS1;clear hr4 j4 hS3 hs3 c1 cb hck hS1;go_wp2_with fail;go_loopw [59] (fun ix wr=>∃ (k:Nat) (o2:Own),ix=.int .i64 k∧k≤hs.length∧StIn wr o2 y (S1.h (S1.H.comL (hs.take k) V))∧Row wr o2 (y.l.id+1,0) 131 2 (.slice pa1 hs.length cp1) hs.length (hcells hs)∧Blk wr b1 #[ptr y.sb] 24∧o2 b1=(y.l.id+1,0)∧Stp (stTag y) o1 o2 w wr) (fun ix _=>hs.length-(intOf ix).toNat)
    case atStart=>exact⟨0,o1,rfl,Nat.zero_le _,hS5,hr5,j5,HU1.out,hst5⟩
    case round =>
     clear hr5 j5 hst5 hS5;obtain⟨k,o2,rfl,hkh,hA,hr,jb1,ub,hst⟩:=hrel;obtain⟨wo,rfl⟩:∃ wo:World,wo=wr:=⟨_,rfl⟩;by_cases hlt:k<hs.length
     ·have kI:(k:Int)<(hs.length:Int):=by omega
      have hgk:=List.getElem?_eq_getElem hlt;obtain⟨z,hz⟩:∃ z,z=hs[k]:=⟨_,rfl⟩;rw[←hz]at hgk;have htk:hs.take (k+1)=hs.take k++[z]:=by rw[hz];exact List.take_succ_eq_append_getElem hlt
      rcases hr.form4 with ⟨_,h0⟩|⟨g,cap,e,hn⟩
      ·have:=hcells_at hs k z hgk
       rw[h0]at this;simp at this
      ·injection e with e1 _ e3
       subst e1 e3;obtain⟨r0,r1⟩:=hr.cell2 k z hgk;obtain⟨p,v⟩:=z;have q0:wo.cell? ⟨g,k*2,none⟩=some (.int .i64 p):=r0;have q1:wo.cell? ⟨g,k*2+1,none⟩=some (.int .i64 v):=r1;clear r0 r1
       have hok:(S1.h (S1.H.comL (hs.take k) V)).H.wf∧Hid (∀ W,Below wo.heap.size wo W→Calls Tryz.prog 84 #[ptr y.sb,.int .i64 p,.int .i64 V] W fun e w'=>e=.returned (.tuple #[])∧Lft y (S1.h (S1.H.comL (hs.take (k+1)) V)) o2 W w'):=by
        have hk9:(S.h (S.H.comL (hs.take k) V)).ok:=Stt.ok_comL _ HK.out HM2.out;have e9:S1.H.comL (hs.take k) V=S.H.comL (hs.take k) V:=by rw[HS1.out]
        refine⟨by rw[HS1.out];exact hk9.H,fun W hW=>?_⟩
        have e8:S1.H.comL (hs.take (k+1)) V=((S1.H.comL (hs.take k) V).setSecondR p (2*V)).1:=by rw[htk];exact comL_snoc _ _ _ _
        rw[e8];exact release_in2 (hA.below hW) (by rw[HS1.out];exact hk9.H) p V HM2.out
       obtain⟨_,HR1⟩:=hok;obtain⟨l2,hl2⟩:∃ l2,l2=S1.h (S1.H.comL (hs.take k) V):=⟨_,rfl⟩;rw[←hl2]at hA;obtain⟨l3,hl3⟩:∃ l3,l3=S1.h (S1.H.comL (hs.take (k+1)) V):=⟨_,rfl⟩;rw[←hl3]at HR1;have HL3:=Lib.hid hl3;clear hl2 hl3 htk hz hgk;have HR2:=Lib.hid (HR1.out _ (balloc (bsame _) (.cells #[.int .i64 p,.int .i64 v] 131)));have jb2:=jb1.alloc (.cells #[.int .i64 p,.int .i64 v] 131);have hr1:=hr.below (balloc (bsame _) (.cells #[.int .i64 p,.int .i64 v] 131));have hst1:=hst.alloc (.cells #[.int .i64 p,.int .i64 v] 131);have c1:=jb1.cell 0;have s1:=jb1.lt;clear hA hr;go_wp2_with fail;refine HR2.out.mono ?_
       rintro e w5 ⟨rfl,o5,hS5,hs5⟩
       have hr5:=hr1.stp hs5 (stTag_box y);have j5:=jb2.stp hs5 (by rw[ub];exact stTag_box y)
       have ub5:o5 b1=(y.l.id+1,0):=(hs5.tags _ jb2.lt).trans ub;have hst5:=hst1.trans hs5;go_wp2_with fail;go_roundw
       case rel=>exact⟨k+1,o5,by simp,by omega,by rw[←HL3.out];exact hS5,hr5,j5,ub5,hst5⟩
       case measure=>simp[intOf];omega
     ·obtain rfl:k=hs.length:=by omega
      rw[List.take_length]at hA;clear hlt
      try clear hhb hhn
      have hx6:(S1.h (S1.H.comL hs V)).txs[i]?=some x:=by show S1.txs[i]?=_;rw[HS1.out];exact HX.out
      have hho:(S1.h (S1.H.comL hs V)).holder=S.holder:=by show S1.holder=_;rw[HS1.out]
      obtain⟨vq6,vl6,vm6,jbb,hrw⟩:=hA.blk;have jbb0:=jbb;unfold stCells at jbb;rw[hho]at jbb;obtain⟨vt6,jx6,_⟩:=(hA.txs i x hx6).blk;unfold txCells at jx6;have cx:=jx6.cell;have cb:=jbb.cell;have zb:=jbb.free;have sb:=jbb.lt;have c1:=jb1.cell 0;have s1:=jb1.lt;by_cases hh:S.holder=(i:Int)
      ·have hhb:(S.holder==(i:Int))=true:=by rw[beq_iff_eq];exact hh
       have hos:o2 y.sb=(y.l.id,11):=hA.os;have nsb:b1≠y.sb:=fun e=>by rw[e,hos]at ub;injection ub with h1 _;omega
       have e1:RC.S=({ S1.h (S1.H.comL hs V) with holder:=-1,version:=V }:Stt).tx i x.ended:=by
        rw[HRC.out];show (S.tickR i).tx i x.ended=_;rw[HTR.out,if_pos hh,HS1.out];rfl
       have HE1:=Lib.hid e1
       have hfin:=Lib.hid (fun (W:World) (hb:Below wo.heap.size wo W) =>
        have hk7:Stp (fun t=>t=(y.l.id,11)) o2 o2 wo ((W.setCell ⟨y.sb,6,none⟩ (.int .i64 (-1))).setCell ⟨y.sb,7,none⟩ (.int .i64 V)):=((Stp.of_below hb).setCell (by show o2 y.sb=_;exact hos) _).setCell (by show o2 y.sb=_;exact hos) _
        have hs7:Stp (ownTag y) o2 o2 wo ((W.setCell ⟨y.sb,6,none⟩ (.int .i64 (-1))).setCell ⟨y.sb,7,none⟩ (.int .i64 V)):=hk7.mono fun t ht=>by rw[ht];exact⟨rfl,.inl rfl⟩
        have hS7:StIn ((W.setCell ⟨y.sb,6,none⟩ (.int .i64 (-1))).setCell ⟨y.sb,7,none⟩ (.int .i64 V)) o2 y { S1.h (S1.H.comL hs V) with holder:=-1,version:=V }:=
         hA.own rfl rfl rfl rfl rfl (((jbb0.below hb jbb0.lt).set 6 (.int .i64 (-1))).set 7 (.int .i64 V)) ((⟨hrw.q,hrw.l,hrw.m⟩:StRows wo o2 y.l.id { S1.h (S1.H.comL hs V) with holder:=-1,version:=V } vq6 vl6 vm6).stp hk7 fun j h1 h2=>by simp;omega) hs7
        And.intro hs7 hS7)
       clear hh hos e1;go_upto_region 17 with fail;go_quiet (fail);have HF:=Lib.hid (hfin.out (wo.drewN nq) (bdrewN (bsame _) _));have HEn:=Lib.hid (end_in HF.out.2 (i:=i) (x:=x) hx6);go_wp2_with fail;refine HEn.out.mono ?_
       rintro e w6 ⟨rfl,o6,hS6,hs6⟩
       go_wp2_with fail;go_ret2;refine⟨by rw[HRC.out,HV0.out];rfl,o6,?_,HS.out.trans (hst.trans ((HF.out.1.mono fun _=>stTag_own).trans hs6))⟩
       rw[HE1.out];exact hS6
      ·have hhb:(S.holder==(i:Int))=false:=by rw[beq_eq_false_iff_ne];exact hh
       have e1:RC.S=(S1.h (S1.H.comL hs V)).tx i x.ended:=by
        rw[HRC.out];show (S.tickR i).tx i x.ended=_;rw[HTR.out,if_neg hh,HS1.out];rfl
       have HE1:=Lib.hid e1;clear e1;go_upto_region 17 with fail;go_quiet (fail);have HEn:=Lib.hid (end_in (hA.below (bdrewN (bsame _) nq)) (i:=i) (x:=x) hx6);go_wp2_with fail;refine HEn.out.mono ?_
       rintro e w6 ⟨rfl,o6,hS6,hs6⟩
       go_wp2_with fail;go_ret2;refine⟨by rw[HRC.out,HV0.out];rfl,o6,?_,HS.out.trans (hst.trans ((Stp.of_below (bdrewN (bsame _) _)).trans hs6))⟩
       rw[HE1.out];exact hS6
end
section
variable {w w' : World} {o o' : Own} {y : SLay} {S : Stt} {i : Nat}
def Stt.take (S:Stt)(i:Nat):Res:=S.deedR i (S.takeR i)
theorem take1_clash (h:StIn w o y S)(hi:i<S.txs.length)(hn:S.holder≠-1∧S.holder≠(i:Int)∨(S.t i).start<S.version){b1:Nat}(j1:Blk w b1 #[ptr y.sb] 24) :
  Calls Tryz.prog 122 #[ptr (y.xb i),ptr b1] w fun e w'=>e=.returned (.tuple #[.int .i64 0,.int .i64 141])∧Below w.heap.size w w':=by
 obtain⟨vt,jx,_⟩:=(h.txs i _ (Stt.t_get hi)).blk;unfold txCells at jx;obtain⟨vq,vl,vm,jb,_⟩:=h.blk;unfold stCells at jb;have c1:=j1.cell;have cx:=jx.cell;have c:=jb.cell;have hcase:((S.holder != -1)=true∧(S.holder != (i:Int))=true)∨((S.holder != -1)=false∧((S.t i).start:Int)<(S.version:Int))∨((S.holder != -1)=true∧(S.holder != (i:Int))=false∧((S.t i).start:Int)<(S.version:Int)):=by
  by_cases e1:S.holder=-1
  ·right;left
   exact⟨by rw[e1];rfl,by omega⟩
  ·have b1:(S.holder != -1)=true:=by rw[bne_iff_ne];exact e1
   by_cases e2:S.holder=(i:Int)
   ·right;right
    exact⟨b1,by rw[e2];simp,by omega⟩
   ·exact .inl ⟨b1,by rw[bne_iff_ne];exact e2⟩
 clear h hi hn;generalize S.holder=hd at *;generalize S.t i=x at *;rcases hcase with ⟨hb1,hb2⟩|⟨hb1,hb2⟩|⟨hb1,hb2,hb3⟩
 all_goals
  go_enter Tryz.func122,Tryz.ntmps122;go_upto_region 1 with fail;go_quiet (fail);go_wp2_with fail;go_ret2;exact⟨rfl,bdrewN (bsame w) _⟩
theorem StIn.hold (h:StIn w o y S)(i:Nat){W:World}(hb:Below w.heap.size w W) :
  StIn (W.setCell ⟨y.sb,6,none⟩ (.int .i64 i)) o y { S with holder:=(i:Int) }∧Stp (ownTag y) o o w (W.setCell ⟨y.sb,6,none⟩ (.int .i64 i)):=by
 obtain⟨vq,vl,vm,jb,hrw⟩:=h.blk;have hk:Stp (fun t=>t=(y.l.id,11)) o o w (W.setCell ⟨y.sb,6,none⟩ (.int .i64 i)):=(Stp.of_below hb).setCell (by show o y.sb=_;exact h.os) _
 have hs:Stp (ownTag y) o o w (W.setCell ⟨y.sb,6,none⟩ (.int .i64 i)):=hk.mono fun t ht=>by rw[ht];exact⟨rfl,.inl rfl⟩
 exact⟨h.own (S':={ S with holder:=(i:Int) }) rfl rfl rfl rfl rfl ((jb.below hb jb.lt).set 6 (.int .i64 i)) ((⟨hrw.q,hrw.l,hrw.m⟩:StRows w o y.l.id { S with holder:=(i:Int) } vq vl vm).stp hk fun j h1 h2=>by simp;omega) hs,hs⟩
theorem Row.at2 {e:TypeId}{t:Tag}{l:List (Nat×Nat)}{g n cap:Nat}(h:Row w o t e 2 (.slice (some ⟨g,0,none⟩) n cap) n (hcells l))(i:Nat)(x:Nat×Nat)(hx:l[i]?=some x) :
  w.cell? ⟨g,2*i,none⟩=some (nv x.1)∧w.cell? ⟨g,2*i+1,none⟩=some (nv x.2):=by
 obtain⟨h1,h2⟩:=hcells_at l i x hx;have e1:=h.own.cells (g:=g) rfl _ _ h1;have e2:=h.own.cells (g:=g) rfl _ _ h2;simp only[Addr.add_lit,Nat.zero_add]at e1 e2;exact⟨e1,e2⟩
theorem take1_none (h:StIn w o y S)(hi:i<S.txs.length)(hn:S.holder=-1∨S.holder=(i:Int))(hv:S.version≤(S.t i).start)(hq:S.queue=[]∨∃ z l,S.queue=z::l∧(S.t i).seen≤z.2)
  {b1:Nat}(j1:Blk w b1 #[ptr y.sb] 24)(t1:o b1=(y.l.id+1,0)) :
  Calls Tryz.prog 122 #[ptr (y.xb i),ptr b1] w fun e w'=>e=.returned (.tuple #[.int .i64 0,.int .i64 0])∧Lft y { S with holder:=(i:Int) } o w w':=by
 have hfin:=Lib.hid (fun (W:World)(hb:Below w.heap.size w W)=>h.hold i hb)
 obtain⟨vt,jx,_⟩:=(h.txs i _ (Stt.t_get hi)).blk;unfold txCells at jx;obtain⟨vq,vl,vm,jb,hrw⟩:=h.blk;have hrq:=hrw.q;unfold stCells at jb;have hos:=h.os;have n1:b1≠y.sb:=fun e=>by rw[e,hos]at t1;injection t1 with t1 _;omega
 have nx:y.xb i≠y.sb:=fun e=>by have h1:=(h.txs i _ (Stt.t_get hi)).ob;rw[e,hos]at h1;injection h1 with _ h1;omega
 have hvI:¬((S.t i).start:Int)<(S.version:Int):=by omega
 have c1:=j1.cell;have cx:=jx.cell;obtain⟨pa,cp,rfl⟩:=hrq.slc
 have hq2:((((S.queue.length:Nat):Int)==0)=true)∨∃ g z,pa=some ⟨g,0,none⟩∧g≠y.sb∧(((S.queue.length:Nat):Int)==0)=false∧(0:Int)<((S.queue.length:Nat):Int)∧w.cell? ⟨g,1,none⟩=some (.int .i64 (z:Nat))∧((S.t i).seen:Int)≤(z:Int):=by
  rcases hq with h0|⟨z,l,h0,hz⟩
  ·exact .inl (by rw[h0];rfl)
  ·right
   rw[h0]at hrq ⊢;rcases hrq.form4 with ⟨_,hh⟩|⟨g,cap,e,hn⟩
   ·simp[hcells]at hh
   ·injection e with e1 _ e3
    subst e1 e3;obtain⟨_,r1⟩:=hrq.at2 0 z rfl;exact⟨g,z.2,rfl,fun e=>by have:=hrq.otag;rw[e,hos]at this;injection this with _ this;omega,by rw[beq_eq_false_iff_ne];simp;omega,by simp,r1,by omega⟩
 clear h hi hos hv hq hrq hrw t1;generalize S.t i=x at *;generalize S.queue.length=ql at *;rcases hn with hn|hn
 all_goals
  rw[hn]at jb;have c:=jb.cell;have z:=jb.free;have s:=jb.lt;rcases hq2 with hq0|⟨g,zq,rfl,ng,hq0,hqp,cq,hzq⟩
  all_goals
   go_enter Tryz.func122,Tryz.ntmps122;go_upto_region 1 with fail;go_quiet (fail);go_upto_region 3 with fail;go_region_with (fail)
   all_goals
    go_upto_region 4 with fail;go_quiet (fail);go_wp2_with fail;go_ret2;obtain⟨hS,hs⟩:=hfin.out _ (bdrewN (bsame w) _);exact⟨rfl,o,hS.below (bdrewN (bsame _) _),(hs.trans (Stp.of_below (bdrewN (bsame _) _))).mono fun _=>stTag_own⟩
end
end Go.Proofs.YteehgedabdchcaaGreat
namespace Go.Proofs.YteehgedabdchcaaGreat
open Go.RowKit Hp
theorem run_clear_item (P:Program)(t ty e:TypeId)(i:TypeInfo)(z:Value)(ht:P.underlying t=some (.slice e))(hi:P.info? e=some i)(hz:i.zero=some z)(w:World)(g k n c:Nat)(cur:Array Value)(hg:w.heap[g]?=some (.cells cur e (0,0)))(hn:0<n)
  (hfit:k+(Builtin.zeroCells z.cells n).size≤cur.size)(h1:∀ v ∈ (Builtin.zeroCells z.cells n).toList,v.oneCell'=true) :
  (Builtin.clear_ #[t] ty #[.slice (some ⟨g,k,none⟩) n c]).run P w=.ok (.tuple #[]) (w.setRow g (cur.toList.take k++(Builtin.zeroCells z.cells n).toList++cur.toList.drop (k+(Builtin.zeroCells z.cells n).size)).toArray):=by
 obtain⟨m,rfl⟩:∃ m,n=m+1:=⟨n-1,by omega⟩
 have hst:=run_storeCells_at P g k e (Builtin.zeroCells z.cells (m+1)).toList 0 cur w hg (by simpa using hfit) h1
 simp only[Nat.add_zero,Array.length_toList]at hst;simp[Builtin.clear_,run_underlying ht,zeroValue,typeInfo,hi,hz,hst]
theorem step_append_eq {P:Program}(w:World){ops:Array Oper}{op:Oper}{a:Act}{K:Act→World→Prop}{Q:Exit→Act→World→Prop}{E:Prop}(hgd:op.guard=none)(s x:Operand)(t:TypeId)
  (ho:op.op=.call { callee:=.builtin .append,args:=#[s,x],argTypes:=#[t,t] })(v vs v':Value)(w':World)(hr:(Builtin.append_ #[t,t] op.type #[v,vs]).run P w=.ok v' w')(hs:a.eval s=v)(hx:a.eval x=vs)
  (h:K (a.put op.dst v') w'):if Region.wanted op (yielded ops a.tmps)=true then Oper.wp P op a w K Q else E:=by
 have hw:Region.wanted op (yielded ops a.tmps)=true:=by simp[Region.wanted,hgd]
 rw[if_pos hw];unfold Oper.wp execOp;simp only[ho,resolve,invoke,builtin,Sem.run_bind,Sem.run_pure,Result.andThen_ok,List.map_toArray,List.map_cons,List.map_nil,hs,hx,hr];exact h
theorem stp_setRow {w:World}{o:Own}{T:Tag→Prop}{g:Nat}(ht:T (o g))(cs:Array Value):Stp T o o w (w.setRow g cs):=
 ⟨by simp,by simp,by simp,by simp,fun _ _=>rfl,fun b _ h=>setRow_other _ _ _ _ fun e=>h (by rw[e];exact ht)⟩
theorem item_zero:Builtin.zeroCells (Value.agg #[.int .i64 0,.int .i64 0]).cells 1=#[.int .i64 0,.int .i64 0]:=by
 have h:∀ z:Array Value,z=#[.int .i64 0,.int .i64 0]→Builtin.zeroCells z 1=#[.int .i64 0,.int .i64 0]:=fun z hz=>by
  subst hz;apply Array.ext
  ·simp[Builtin.zeroCells]
  ·intro i h1 h2
   obtain rfl|rfl:i=0∨i=1:=by simp at h2;omega
   ·simp[Builtin.zeroCells]
   ·simp[Builtin.zeroCells]
 exact h _ rfl
theorem qdelete {w:World}{o:Own}{t:Tag}{v:Value}{z:Nat×Nat}{l:List (Nat×Nat)}(hr:Row w o t 117 2 v (l.length+1) (hcells (z::l)))(hl:l.length≤1099511627776) :
  Calls Tryz.prog 123 #[v,.int .i64 0,.int .i64 1] w fun e w'=>∃ v',e=.returned v'∧Row w' o t 117 2 v' l.length (hcells l)∧Stp (fun u=>u=t) o o w w':=by
 obtain⟨iU,hi,hsI,hyI,hzI⟩:=info_item;have hu64:=Tryz.underlying99;rcases hr.own.2 with ⟨_,h0⟩|⟨g,cap,cur,rfl,_,hg,hnc,hcm,hcs,htk⟩
 ·omega
 have hlen:(hcells l).length=l.length*2:=by
  have:∀ m:List (Nat×Nat),(hcells m).length=m.length*2:=fun m=>by induction m with
   | nil=>rfl
   | cons a m ih=>simp[hcells,ih];omega
  exact this l
 have hT:=hr.tag g rfl;have hgl:g<w.heap.size:=(Array.getElem?_eq_some_iff.1 hg).1;have hcells2:∀ j u,(hcells l)[j]?=some u→w.cell? ((⟨g,2,none⟩:Addr).add j)=some u:=fun j u hu=>by
  have h1:=hr.own.cells (g:=g) rfl (j+2) u (by simpa [hcells] using hu)
  have e1:((⟨g,2,none⟩:Addr).add j)=((⟨g,0,none⟩:Addr).add (j+2)):=by
   unfold Addr.add;split<;>split<;>simp_all<;>omega
  rw[e1];exact h1
 have hq:∃ q,(if cap=1 then (some ⟨g,0,none⟩:Option Addr) else some ⟨g,2,none⟩)=some ⟨g,q,none⟩∧∀ j u,(hcells l)[j]?=some u→w.cell? ((⟨g,q,none⟩:Addr).add j)=some u:=by
  by_cases e:cap=1
  ·have hl0:l=[]:=List.eq_nil_of_length_eq_zero (by omega)
   subst hl0;exact⟨0,by rw[if_pos e],fun j u hu=>by simp[hcells]at hu⟩
  ·exact⟨2,by rw[if_neg e],hcells2⟩
 obtain⟨q,hq,hcells3⟩:=hq;have hA:=run_append_room (P:=Tryz.prog) w.drew 99 99 117 iU hu64 hi g 0 cap cur hg ⟨g,q,none⟩ l.length (cap-1) (hcells l) (by rw[hlen,hsI]) hcells3 (hcells_one l) (by omega) (by rw[hlen,hcs];omega)
 simp only[Nat.zero_mul,Nat.zero_add,List.take_zero,List.nil_append]at hA;obtain⟨c1,hc1⟩:∃ c1,c1=(hcells l++cur.toList.drop (hcells l).length).toArray:=⟨_,rfl⟩;rw[←hc1]at hA;have hs1:c1.size=cap*2:=by rw[hc1];simp;omega
 have hg1:(w.drew.setRow g c1).heap[g]?=some (.cells c1 117 (0,0)):=setRow_heap _ _ _ _ _ _ hg;have hC0:=run_clear_item Tryz.prog 99 0 117 iU _ hu64 hi hzI (w.drew.setRow g c1) g (l.length*2) 1 (cap-l.length) c1 hg1 (by omega) (by rw[item_zero];show _+2≤_;omega) (by rw[item_zero];simp[Value.oneCell'])
 simp only[item_zero]at hC0;obtain⟨c2,hc2⟩:∃ c2,c2=(c1.toList.take (l.length*2)++[Value.int .i64 0,.int .i64 0]++c1.toList.drop (l.length*2+2)).toArray:=⟨_,rfl⟩;have hC:(Builtin.clear_ #[99] 0 #[.slice (some ⟨g,l.length*2,none⟩) 1 (cap-l.length)]).run Tryz.prog (w.drew.setRow g c1)=.ok (.tuple #[]) ((w.drew.setRow g c1).setRow g c2):=by rw[hc2];exact hC0
 clear hC0;have hs2:c2.size=cap*2:=by rw[hc2];simp;omega
 have hg2:((w.drew.setRow g c1).setRow g c2).heap[g]?=some (.cells c2 117 (0,0)):=setRow_heap _ _ _ _ _ _ hg1;have htk2:c2.toList.take (l.length*2)=hcells l:=by
  rw[hc2,hc1];rw[List.append_assoc,List.take_append_of_le_length (by simp;omega),List.take_take,Nat.min_self,List.take_append_of_le_length (by omega),←hlen,List.take_length]
 have hfin:=Lib.hid (show Row ((w.drew.setRow g c1).setRow g c2) o t 117 2 (.slice (some ⟨g,0,none⟩) l.length cap) l.length (hcells l)∧Stp (fun u=>u=t) o o w ((w.drew.setRow g c1).setRow g c2) from
  ⟨⟨⟨hlen,.inr ⟨g,cap,c2,rfl,Nat.zero_le _,hg2,by omega,hcm,hs2,htk2⟩⟩,fun k hk=>by simp[Value.ownBlock]at hk;rw[←hk];exact hT⟩,
   ((Stp.of_below (bdrew (bsame w))).trans (stp_setRow hT _)).trans (stp_setRow hT _)⟩)
 have i0:(0:Int)≤(l.length:Int)+1:=by omega
 have i1:(1:Int)≤(l.length:Int)+1:=by omega
 have i2:(l.length:Int)+1≤(cap:Int):=by omega
 have i3:((l.length:Int)+1).toNat=l.length+1:=by omega
 have i4:(1:Int)≤(cap:Int):=by omega
 have i5:¬cap=l.length:=by omega
 have i6:(l.length:Int)≤(l.length:Int)+1:=by omega
 clear hr hl hg hnc hcm hcs htk hlen hT hgl hcells2 hcells3 hc1 hs1 hg1 hc2 hs2 hg2 htk2;go_enter Tryz.func123,Tryz.ntmps123;go_upto_region 5 with fail;go_region_law (refine step_append_eq _ (by rfl) _ _ _ (by rfl) _ _ _ _ hA (by rfl) (by rfl) ?_)
 all_goals
  go_wp2_with fail;go_ret;exact⟨_,rfl,hfin.out⟩
end Go.Proofs.YteehgedabdchcaaGreat
namespace Go.Proofs.YteehgedabdchcaaGreat
open Go.RowKit Hp
attribute [local go_sem ↓] Go.wp_at_zero Go.wp_at_succ
def plk (q:List (Nat×Nat))(ps:List Nat)(k:Nat):List Nat:=ps.take k++(q.map (·.1)).drop k
theorem putH_same:∀ q:List (Nat×Nat),putH q (q.map (·.1))=q
 | []=>rfl
 | z::q=>by simp only[List.map_cons,putH,List.headD_cons,List.tail_cons,putH_same q]
theorem putH_take:∀ (q:List (Nat×Nat))(ps:List Nat),q.length≤ps.length→putH q (ps.take q.length)=putH q ps
 | [],_,_=>rfl
 | z::q,[],h=>by simp at h
 | z::q,p::ps,h=>by simp only[List.length_cons,List.take_succ_cons,putH,List.headD_cons,List.tail_cons,putH_take q ps (by simpa using h)]
theorem plk_len {q:List (Nat×Nat)}{ps:List Nat}(h:q.length≤ps.length){k:Nat}(hk:k≤q.length):(plk q ps k).length=q.length:=by
 simp only[plk,List.length_append,List.length_take,List.length_drop,List.length_map];omega
theorem plk_set {q:List (Nat×Nat)}{ps:List Nat}(_h:q.length≤ps.length){k x:Nat}(hk:k<q.length)(hx:ps[k]?=some x):(plk q ps k).set k x=plk q ps (k+1):=by
 obtain⟨hkp,hxe⟩:=List.getElem?_eq_some_iff.1 hx;have e1:(ps.take k).length=k:=by rw[List.length_take];omega
 have e2:(q.map (·.1)).drop k=(q.map (·.1))[k]'(by simpa using hk)::(q.map (·.1)).drop (k+1):=List.drop_eq_getElem_cons (by simpa using hk)
 unfold plk;rw[List.set_append_right _ _ (by omega),e1,Nat.sub_self,e2,List.set_cons_zero,List.take_succ_eq_append_getElem hkp,hxe,List.append_assoc]
 rfl
section
variable {w : World} {o : Own} {t : Tag}
theorem place_any {q:List (Nat×Nat)}{ps:List Nat}{v:Value}(hr:Row w o t 117 2 v q.length (hcells q))(hl:q.length≤ps.length)(hq:q.length≤1099511627776){g off c:Nat}(hc:ps.length≤c)
  (hg:∀ (j x:Nat),ps[j]?=some x→w.cell? ⟨g,off+j,none⟩=some (nv x))(hlt:g<w.heap.size)(ng:o g≠t) :
  Calls Tryz.prog 64 #[v,.slice (some ⟨g,off,none⟩) ps.length c] w fun e w'=>e=.returned (.slice (if c=q.length then some ⟨g,off,none⟩ else some ⟨g,off+q.length,none⟩) (ps.length-q.length) (c-q.length)) ∧
   Row w' o t 117 2 v q.length (hcells (putH q ps))∧Stp (fun u=>u=t) o o w w':=by
 obtain⟨pa,cp,rfl⟩:=hr.slc;have HR:=Lib.hid hr;have HL:=Lib.hid hl;have HQ:=Lib.hid hq;have HG:=Lib.hid (fun w2 (hs:Stp (fun u=>u=t) o o w w2)(j x:Nat)(hx:ps[j]?=some x)=>show w2.cell? ⟨g,off+j,none⟩=some (nv x) from by
  have:=hs.block g hlt (fun h=>ng h)
  rw[←hg j x hx];simp only[World.cell?,this])
 obtain⟨n,hn⟩:∃ n,n=q.length:=⟨_,rfl⟩;obtain⟨m,hm⟩:∃ m,m=ps.length:=⟨_,rfl⟩;have HN:=Lib.hid hn;have HM:=Lib.hid hm;rw[←hn]at HR HL HQ ⊢;rw[←hm]at HL hc ⊢;have i1:(n:Int)≤(m:Int):=by have:=HL.out;omega
 have i2:(m:Int)≤(c:Int):=by omega
 have i3:(0:Int)≤(n:Int):=by omega
 clear hr hl hq hg hn hm;go_enter Tryz.func64,Tryz.ntmps64;go_wp2_with fail;go_loopw [5,8] (fun _ ix wr=>∃ k:Nat,ix=.int .i64 k∧k≤n∧Row wr o t 117 2 (.slice pa n cp) n (hcells (putH q (plk q ps k)))∧Stp (fun u=>u=t) o o w wr) (fun _ ix _=>n-(intOf ix).toNat)
 case atStart=>exact⟨0,rfl,Nat.zero_le _,by rw[show plk q ps 0=q.map (·.1) from rfl,putH_same];exact HR.out,Stp.refl _ _ _⟩
 case round =>
  obtain⟨k,rfl,hkn,hrk,hs⟩:=hrel;by_cases hlt':k<n
  ·have hkI:(k:Int)<(n:Int):=by omega
   have hkM:(k:Int)<(m:Int):=by omega
   obtain⟨hw1,hw2⟩:=wrap_both k n hlt' HQ.out;obtain⟨x,hx⟩:∃ x,ps[k]?=some x:=⟨_,List.getElem?_eq_getElem (by rw[←HM.out];have:=HL.out;omega)⟩
   have q0:wr.cell? ⟨g,off+k,none⟩=some (.int .i64 x):=HG.out _ hs k x hx;have hset:=putH_set q (plk q ps k) k x (by rw[←HN.out];exact hlt') (by rw[plk_len (by rw[←HN.out,←HM.out];exact HL.out) (by rw[←HN.out];omega)];exact Nat.le_refl _)
   rw[plk_set (by rw[←HN.out,←HM.out];exact HL.out) (by rw[←HN.out];exact hlt') hx]at hset
   have hkl:(plk q ps k)[k]?≠none:=by
    rw[ne_eq,List.getElem?_eq_none_iff,plk_len (by rw[←HN.out,←HM.out];exact HL.out) (by rw[←HN.out];omega),←HN.out];omega
   obtain⟨u,hu⟩:=Option.ne_none_iff_exists'.1 hkl;rcases hrk.form4 with ⟨_,h0⟩|⟨g2,cap,e,hcap⟩
   ·have h2:=hset.2
    rw[h0,hu]at h2;simp at h2
   ·injection e with e1 _ e3
    subst e1 e3;have hp2:=hrk.put2 (k*2) (.int .i64 x);rw[show (Value.int .i64 (x:Int))=nv x from rfl,←hset.1]at hp2;have z2:=hrk.free (k*2);have hog:=hrk.otag;have hb2:=hrk.blt;have q2:∃ u,wr.cell? ⟨g2,k*2,none⟩=some u:=by
     have h3:=hrk.own.cells (g:=g2) rfl (k*2) (nv u) (by rw[hset.2,hu];rfl)
     simp only[Addr.add_lit,Nat.zero_add]at h3;exact⟨_,h3⟩
    obtain⟨u,q2⟩:=q2;have HP:=Lib.hid hp2;have HS2:=Lib.hid (hs.setCell (a:=⟨g2,k*2,none⟩) (by show o g2=t;exact hog) (.int .i64 x))
    clear hrk hs hset hx hp2 hog hkl hu;go_wp2_with fail;go_roundw
    case rel=>exact⟨k+1,by simp,by omega,HP.out,HS2.out⟩
    case measure=>simp[intOf];omega
  ·obtain rfl:k=n:=by omega
   have e2:plk q ps k=ps.take k:=by unfold plk;rw[List.drop_eq_nil_of_le (by rw[List.length_map,←HN.out];exact Nat.le_refl _),List.append_nil]
   rw[e2,HN.out,putH_take q ps (by rw[←HN.out,←HM.out];exact HL.out),←HN.out]at hrk
   go_wp2_with fail
   all_goals
    go_ret;exact⟨rfl,hrk,hs⟩
end
end Go.Proofs.YteehgedabdchcaaGreat
