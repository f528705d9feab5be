import Derived.Test.YteehgedabdchcaaGreatKal
import Derived.Defers
import Derived.Laws.CopyRow
import Derived.Shelf.Spec.SlicesGrow
import Derived.Sort.CutIn
import Derived.Stop.RegionWithIn
set_option linter.all false
set_option maxRecDepth 1000000
set_option maxHeartbeats 16000000
open Go renaming World->Aa,Calls->Ab,Value->Ac
open Go.RowKit renaming Below->Ae
open Go.Value renaming int->I,slice->Ah,tuple->Aj,agg->Ak
open Go.IntKind renaming i64->Z
open Go.Ending renaming returned->O
namespace Go.Proofs.YteehgedabdchcaaGreat
section
open Hp
structure Mv (i:Nat)(S S':Al):Prop where
 len:S'.Aw.length=S.Aw.length
 DY:∀ j,j≠i->S'.t j=S.t j
 lv:(S'.t i).live=(S.t i).live
 st:(S'.t i).start=(S.t i).start
 se:(S'.t i).seen=(S.t i).seen
 now:S'.now=S.now
 most:S'.most=S.most
 next:S'.next=S.next
 came:S'.came=S.came
 lost:S'.lost=S.lost
 ph:S'.ph=S.ph
 N0:S'.version=S.version
structure Ed (i:Nat)(S S':Al):Prop where
 len:S'.Aw.length=S.Aw.length
 DY:∀ j,j≠i->S'.t j=S.t j
 lv:S'.t i=(S.t i).ended\/∃ x:Tx,S'.t i=x.ended
 now:S'.now=S.now
 most:S'.most=S.most
 next:S'.next=S.next
 came:S'.came=S.came
 lost:S'.lost=S.lost
 ph:S'.ph=S.ph
 N0:S'.version=S.version
section
variable {i : Nat} {S S' S2 : Al}
theorem Mv.refl (i:Nat)(S:Al):Mv i S S:=⟨rfl,fun _ _=>rfl,rfl,rfl,rfl,rfl,rfl,rfl,rfl,rfl,rfl,rfl⟩
theorem Mv.trans (a:Mv i S S')(b:Mv i S' S2):Mv i S S2:=
 ⟨b.len.trans a.len,fun j h=>(b.DY j h).trans (a.DY j h),b.lv.trans a.lv,b.st.trans a.st,b.se.trans a.se,b.now.trans a.now,b.most.trans a.most,b.next.trans a.next,b.came.trans a.came,b.lost.trans a.lost,b.ph.trans a.ph,b.N0.trans a.N0⟩
theorem Mv.heap (i:Nat)(S:Al)(H:Hp):Mv i S { S with H:=H }:=⟨rfl,fun _ _=>rfl,rfl,rfl,rfl,rfl,rfl,rfl,rfl,rfl,rfl,rfl⟩
theorem Mv.QF (i:Nat)(S:Al)(z:Int)(q:List (Nat×Nat)):Mv i S { S with Av:=z,queue:=q }:=⟨rfl,fun _ _=>rfl,rfl,rfl,rfl,rfl,rfl,rfl,rfl,rfl,rfl,rfl⟩
theorem Pb (S:Al)(i:Nat)(x:Tx):(S.tx i x).t i=if i<S.Aw.length then x else S.t i:=by
 by_cases h:i<S.Aw.length
 ·rw[if_pos h,Al.CO h]
 ·rw[if_neg h];unfold Al.t Al.tx;simp only[Qi];rw[Qz (by rw[Qq];omega),Qz (by omega)]
theorem Mv.tx (i:Nat)(S:Al)(x:Tx)(h1:x.live=(S.t i).live)(h2:x.start=(S.t i).start)(h3:x.seen=(S.t i).seen):Mv i S (S.tx i x):=by
 refine⟨Al.Cg _ _ _,fun j h=>Al.Dm S (fun e=>h e.symm) x,?_,?_,?_,rfl,rfl,rfl,rfl,rfl,rfl,rfl⟩
 all_goals
  rw[Pb];split
  ·assumption
  ·rfl
theorem Mv.look (i:Nat)(S:Al)(p:Nat):Mv i S (S.AK i p).1:=by
 unfold Al.AK;split
 ·exact Mv.refl _ _
 ·split
  ·exact Mv.refl _ _
  ·split
   ·exact Mv.refl _ _
   ·exact Mv.tx _ _ _ rfl rfl rfl
theorem Mv.fields (i:Nat)(S:Al)(p:Nat):Mv i S (S.Ar i p).1:=Mv.look i S p
theorem Mv.DR (i:Nat)(S:Al)(u:Un):Mv i S (S.BC i u).1:=by
 unfold Al.BC;split
 ·exact Mv.tx _ _ _ rfl rfl rfl
 ·exact Mv.refl _ _
theorem Mv.E2 (i:Nat)(S:Al)(p v:Nat):Mv i S (S.AZ i p v).1:=by
 unfold Al.AZ;split
 ·exact Mv.tx _ _ _ rfl rfl rfl
 ·exact Mv.refl _ _
theorem Mv.own (i:Nat)(S:Al)(p:Nat):Mv i S (S.DW i p):=Mv.heap _ _ _
theorem Mv.hold (i:Nat)(S:Al)(p:Nat):Mv i S (S.A2 i p).1:=by
 unfold Al.A2;split
 ·exact Mv.refl _ _
 ·split
  ·exact (Mv.E2 _ _ _ _).trans (Mv.own _ _ _)
  ·exact Mv.refl _ _
theorem Mv.lay (i:Nat)(S:Al)(s:B3):Mv i S (S.Bh i s).1:=by
 unfold Al.Bh;split
 ·exact Mv.refl _ _
 ·split
  ·exact ((Mv.heap _ _ _).trans (Mv.E2 _ _ _ _)).trans (Mv.own _ _ _)
  ·exact Mv.heap _ _ _
theorem Mv.Cd (i:Nat)(S:Al)(p:Nat)(u:Un)(set:Hp->Hp×Nat):Mv i S (S.Cd i p u set).S:=by
 unfold Al.Cd;split
 ·exact Mv.hold _ _ _
 ·split
  ·exact (Mv.hold _ _ _).trans (Mv.DR _ _ _)
  ·exact ((Mv.hold _ _ _).trans (Mv.DR _ _ _)).trans (Mv.heap _ _ _)
theorem Mv.Ct (i:Nat)(S:Al)(p j:Nat):Mv i S (S.Ct i p j).S:=by
 unfold Al.Ct;split<;>exact Mv.fields _ _ _
theorem Mv.CX (i:Nat)(S:Al)(p j:Nat):Mv i S (S.CX i p j).S:=by
 unfold Al.CX;split
 ·exact Mv.fields _ _ _
 ·exact (Mv.fields _ _ _).trans (Mv.heap _ _ _)
theorem Mv.BE (i:Nat)(S:Al)(p j:Nat)(v:Int):Mv i S (S.BE i p j v).S:=by
 unfold Al.BE;split
 ·exact Mv.fields _ _ _
 ·split
  ·exact Mv.fields _ _ _
  ·exact (Mv.fields _ _ _).trans (Mv.Cd _ _ _ _ _)
theorem Mv.Dk (i:Nat)(S:Al)(p j q:Nat):Mv i S (S.Dk i p j q).S:=by
 unfold Al.Dk;split
 ·exact Mv.refl _ _
 ·unfold Al.C9
  split
  ·exact Mv.fields _ _ _
  ·split
   ·exact (Mv.fields _ _ _).trans (Mv.heap _ _ _)
   ·exact ((Mv.fields _ _ _).trans (Mv.heap _ _ _)).trans (Mv.Cd _ _ _ _ _)
theorem Mv.Ch (i:Nat)(S:Al)(p:Nat):Mv i S (S.Ch i p).S:=by
 unfold Al.Ch;split
 ·exact Mv.look _ _ _
 ·exact (Mv.look _ _ _).trans (Mv.Cd _ _ _ _ _)
theorem Mv.AM (i:Nat)(S:Al)(s:B3):Mv i S (S.AM i s).S:=Mv.lay i S s
theorem Mv.BK (i:Nat)(S:Al)(q:Nat):Mv i S (S.BK i q).S:=by
 unfold Al.BK;split
 ·exact Mv.refl _ _
 ·split
  ·exact Mv.refl _ _
  ·split
   ·exact Mv.lay _ _ _
   ·exact (Mv.lay _ _ _).trans (Mv.heap _ _ _)
theorem Mv.CC (i:Nat)(S:Al)(q:Nat):Mv i S (S.CC i q).S:=by
 unfold Al.CC;split
 ·exact Mv.refl _ _
 ·split<;>exact Mv.tx _ _ _ rfl rfl rfl
theorem Mv.Ca (i:Nat)(S:Al)(p:Nat):Mv i S (S.Ca i p).S:=by
 unfold Al.Ca;split
 ·exact Mv.look _ _ _
 ·split
  ·exact Mv.look _ _ _
  ·split
   ·exact (Mv.look _ _ _).trans (Mv.heap _ _ _)
   ·exact ((Mv.look _ _ _).trans (Mv.heap _ _ _)).trans (Mv.CC _ _ _)
theorem Mv.B9 (i:Nat)(S:Al):Mv i S (S.B9 i).S:=by
 unfold Al.B9;split
 ·exact Mv.refl _ _
 ·split
  ·exact Mv.QF _ _ _ S.queue
  ·rename_i z l _
   split
   ·exact Mv.QF _ _ _ S.queue
   ·exact (Mv.QF i S i l).trans (Mv.tx _ _ _ rfl rfl rfl)
theorem Mv.Bs (i:Nat)(S:Al):Mv i S (S.Bs i):=by
 unfold Al.Bs;split
 ·exact Mv.QF _ _ _ _
 ·exact Mv.refl _ _
theorem Ed.abort (hi:i<S.Aw.length):Ed i S (S.abort i):=by
 unfold Al.abort;have m:Mv i S ((S.h ((S.H.BA (S.t i).log.Au).Cm (S.t i).log.holds)).Bs i):=(Mv.heap _ _ _).trans (Mv.Bs _ _);refine⟨(Al.Cg _ _ _).trans m.len,fun j h=>(Al.Dm _ (fun e=>h e.symm) _).trans (m.DY j h),.inr ⟨S.t i,?_⟩,m.now,m.most,m.next,m.came,m.lost,m.ph,m.N0⟩
 rw[Al.CO (by rw[m.len];exact hi)]
theorem Ed.Pw (m:Mv i S S')(e:Ed i S' S2):Ed i S S2:=by
 refine⟨e.len.trans m.len,fun j h=>(e.DY j h).trans (m.DY j h),.inr ?_,e.now.trans m.now,e.most.trans m.most,e.next.trans m.next,e.came.trans m.came,e.lost.trans m.lost,e.ph.trans m.ph,e.N0.trans m.N0⟩
 rcases e.lv with h|h
 ·exact⟨_,h⟩
 ·exact h
theorem Ed.dead (e:Ed i S S'):(S'.t i).live=false:=by
 rcases e.lv with h|⟨x,h⟩
 ·rw[h];rfl
 ·rw[h];rfl
theorem MH {r:Bv}(m:Mv i S r.S)(hi:i<S.Aw.length):(ry r.e=true/\Ed i S (r.fin i).S/\(r.fin i).v=0/\(r.fin i).e=r.e)\/(ry r.e=false/\Mv i S (r.fin i).S/\(r.fin i).e=r.e):=by
 unfold Bv.fin;split
 ·rename_i h;exact .inl ⟨h,Ed.Pw m (Ed.abort (by rw[m.len];exact hi)),rfl,rfl⟩
 ·rename_i h
  refine .inr ⟨by simpa using h,?_,?_⟩
  ·split<;>exact m
  ·split
   ·rfl
   ·rfl
theorem LX {r:Bv}(m:Mv i S r.S)(hi:i<S.Aw.length)(hl:(S.t i).live=true):(ry r.e=true/\Ed i S (S.AH i r).S/\(S.AH i r).v=0/\(S.AH i r).e=r.e)\/(ry r.e=false/\Mv i S (S.AH i r).S/\(S.AH i r).e=r.e):=by
 unfold Al.AH;rw[if_pos hl];exact MH m hi
end
end
section
open Go.RowKit Hp
attribute [local go_sem ↓] Go.wp_at_zero Go.wp_at_succ
section
variable {w : Aa}
theorem JK (be bs bx bv:Nat)(err:Int)(he:w.cell? ⟨be,0,none⟩=some (I Z err))(h0:err=0) :
  CallsD Tryz.prog 138 #[ptr be,ptr bs,ptr bx,ptr bv] .returning w fun e u' w'=>u'=.returning/\(e=O (Aj #[])/\w'=w):=by
 subst h0;go_enter_d Tryz.func138,Tryz.ntmps138;go_wp2_with fail;go_end0;exact⟨rfl,rfl⟩
theorem qng (be bs bx bv:Nat)(err v:Int)(tv:TypeId)(he:w.cell? ⟨be,0,none⟩=some (I Z err))(hv:Am w bv #[I Z v] tv)(h0:err≠0)(h1:err≠141)(h2:err≠130)(h3:err≠100) :
  CallsD Tryz.prog 138 #[ptr be,ptr bs,ptr bx,ptr bv] .returning w fun e u' w'=>u'=.returning/\(e=O (Aj #[])/\w'=w.setCell ⟨bv,0,none⟩ (I Z 0)):=by
 have c:=hv.cell 0;have z:=hv.free 0;have s:=hv.lt;go_enter_d Tryz.func138,Tryz.ntmps138;go_wp2_with fail;go_end0;exact⟨rfl,rfl⟩
end
section
variable {w : Aa} {o : Own} {y : A3} {S : Al} {x : Tx} {i : Nat}
theorem KO (g:Nat) (caps:List Ac) (h0:Ap w o y S) (hk:S.ok) (hx:S.Aw[i]?=some x) (hl:x.live=true) (eg:∀ args w,(callFunc g args).run Tryz.prog w=.ok (.enter g args) w)
  (T:Tag->Prop) (hT:¬T (y.l.id+1,0)) (S':Al) (v:Int)
  (hdo:∀ w1 o1,Ae w.heap.size w w1->(∀ b,b<w.heap.size->o1 b=o b)->Ap w1 o1 y S->Ab Tryz.prog g (ptr (y.xb i)::caps).toArray w1 fun e w'=>e=O (Aj #[I Z v,I Z 0])/\∃ o',Ap w' o' y S'/\Stp T o1 o' w1 w') :
  Ab Tryz.prog 77 #[ptr y.sb,I Z i,.func (.func g) #[] caps.toArray] w fun e w'=>e=O (Aj #[I Z v,I Z 0])/\∃ o',Ap w' o' y S'/\Stp T o o' w w':=by
 have hmf:∀ (fn:Fn) (first cap:Array Ac) (w:Aa),(Instr.makeFunc fn first cap).run Tryz.prog w=.ok (.func fn first cap) w:=fun _ _ _ _=>rfl
 obtain⟨o1,ho1⟩:∃ o1,o1=ext o w.heap.size (y.l.id+1,0):=⟨_,rfl⟩;have h:=h0.retag (o':=o1) fun b hb=>by rw[ho1];exact qj hb
 have hS0:Stp T o o1 w w:=by rw[ho1];exact (Stp.refl _ o w).ext _ _ (Qk _)
 have hbx:∀ b,w.heap.size<=b->o1 b=(y.l.id+1,0):=fun b hb=>by rw[ho1];exact qp hb
 have hext:∀ b,b<w.heap.size->o1 b=o b:=fun b hb=>by rw[ho1];exact qj hb
 clear ho1 h0;have HR:=Qa (fun w' (hw:Ae w.heap.size w w')=>xh (h.below hw) hk hx)
 rw[hl]at HR;simp only[if_true]at HR;have HD:=Qa (fun w' (hw:Ae w.heap.size w w')=>hdo w' o1 hw hext (h.below hw))
 have HB:=Qa hbx;have HS:=Qa hS0;have HT:=Qa hT;clear hdo hbx h hk hx hS0 hT hext;go_enter_defers Tryz.func77,Tryz.ntmps77;go_wp2_with fail;obtain⟨W,hW⟩:∃ W:Aa,W=((w.alloc (.cells #[ptr y.sb] 24)).alloc (.cells #[I Z 0] 3)).alloc (.cells #[I Z 0] 29):=⟨_,rfl⟩;rw[<-hW];have hbW:Ae w.heap.size w W:=by rw[hW];exact qa (qa (qa (qc w) _) _) _
 have hzW:W.heap.size=w.heap.size+3:=by rw[hW];simp
 have jS:Am W w.heap.size #[ptr y.sb] 24:=by rw[hW];exact ((Am.new w _ _).alloc _).alloc _
 have jV:Am W (w.heap.size+1) #[I Z 0] 3:=by rw[hW];exact (Am.Aq _ _ _ _ _ (by simp) rfl).alloc _
 have jE:Am W (w.heap.size+1+1) #[I Z 0] 29:=by rw[hW];exact Am.Aq _ _ _ _ _ (by simp) rfl
 clear hW;refine (HR.out _ hbW).mono ?_
 rintro e w1⟨rfl,rfl⟩
 go_wp2_with fail;refine (HD.out _ (qa hbW _)).mono ?_
 rintro e w2⟨rfl,o2,hS2,hs2⟩
 have jV2:=(jV.alloc (.cells #[ptr (y.xb i)] 103)).Ao hs2 (by rw[HB.out _ (by omega)];exact HT.out)
 have jE2:=(jE.alloc (.cells #[ptr (y.xb i)] 103)).Ao hs2 (by rw[HB.out _ (by omega)];exact HT.out)
 have tV:o2 (w.heap.size+1)=(y.l.id+1,0):=(hs2.tags _ (jV.alloc _).lt).trans (HB.out _ (by omega))
 have tE:o2 (w.heap.size+1+1)=(y.l.id+1,0):=(hs2.tags _ (jE.alloc _).lt).trans (HB.out _ (by omega))
 have hst:Stp T o1 o2 w w2:=(Stp.of_below (qa hbW _)).trans hs2;clear jV jE jS;have cV:=jV2.cell;have zV:=jV2.free;have sV:=jV2.lt;have cE:=jE2.cell;have zE:=jE2.free;have sE:=jE2.lt;go_wp2_with fail;have jV3:=(jV2.set 0 (I Z v)).An (a:=⟨w.heap.size+1+1,0,none⟩) (by simp) (I Z 0)
 have jE3:=(jE2.An (a:=⟨w.heap.size+1,0,none⟩) (by simp) (I Z v)).set 0 (I Z 0)
 have cV3:=jV3.cell 0;have cE3:=jE3.cell 0;simp at cV3 cE3;refine leaves_cons (f:=138) (args:=#[ptr (w.heap.size+1+1),ptr w.heap.size,ptr (w.heap.size+3),ptr (w.heap.size+1)]) (by simp) (by simp[go_sem]) ?_
 refine (JK _ _ _ _ 0 cE3 rfl).mono ?_
 rintro e u' w''⟨rfl,rfl,rfl⟩
 simp only[settle,Leaves];refine⟨Aj #[I Z v,I Z 0],by simp[results,Tryz.results77,go_sem,cV3,cE3],rfl,o2,(hS2.box tV _).box tE _,HS.out.trans ((hst.setCell_new (by show w.heap.size<=w.heap.size+1;omega) _).setCell_new (by show w.heap.size<=w.heap.size+1+1;omega) _)⟩
theorem F2 (g:Nat) (caps:List Ac) (h0:Ap w o y S) (hk:S.ok) (hx:S.Aw[i]?=some x) (hl:x.live=true) (eg:∀ args w,(callFunc g args).run Tryz.prog w=.ok (.enter g args) w)
  (T:Tag->Prop) (hT:¬T (y.l.id+1,0)) (S':Al) (v err:Int) (e0:err≠0) (e1:err≠141) (e2:err≠130) (e3:err≠100)
  (hdo:∀ w1 o1,Ae w.heap.size w w1->(∀ b,b<w.heap.size->o1 b=o b)->Ap w1 o1 y S->Ab Tryz.prog g (ptr (y.xb i)::caps).toArray w1 fun e w'=>e=O (Aj #[I Z v,I Z err])/\∃ o',Ap w' o' y S'/\Stp T o1 o' w1 w') :
  Ab Tryz.prog 77 #[ptr y.sb,I Z i,.func (.func g) #[] caps.toArray] w fun e w'=>e=O (Aj #[I Z 0,I Z err])/\∃ o',Ap w' o' y S'/\Stp T o o' w w':=by
 have hmf:∀ (fn:Fn) (first cap:Array Ac) (w:Aa),(Instr.makeFunc fn first cap).run Tryz.prog w=.ok (.func fn first cap) w:=fun _ _ _ _=>rfl
 obtain⟨o1,ho1⟩:∃ o1,o1=ext o w.heap.size (y.l.id+1,0):=⟨_,rfl⟩;have h:=h0.retag (o':=o1) fun b hb=>by rw[ho1];exact qj hb
 have hS0:Stp T o o1 w w:=by rw[ho1];exact (Stp.refl _ o w).ext _ _ (Qk _)
 have hbx:∀ b,w.heap.size<=b->o1 b=(y.l.id+1,0):=fun b hb=>by rw[ho1];exact qp hb
 have hext:∀ b,b<w.heap.size->o1 b=o b:=fun b hb=>by rw[ho1];exact qj hb
 clear ho1 h0;have HR:=Qa (fun w' (hw:Ae w.heap.size w w')=>xh (h.below hw) hk hx)
 rw[hl]at HR;simp only[if_true]at HR;have HD:=Qa (fun w' (hw:Ae w.heap.size w w')=>hdo w' o1 hw hext (h.below hw))
 have HB:=Qa hbx;have HS:=Qa hS0;have HT:=Qa hT;clear hdo hbx h hk hx hS0 hT hext;go_enter_defers Tryz.func77,Tryz.ntmps77;go_wp2_with fail;obtain⟨W,hW⟩:∃ W:Aa,W=((w.alloc (.cells #[ptr y.sb] 24)).alloc (.cells #[I Z 0] 3)).alloc (.cells #[I Z 0] 29):=⟨_,rfl⟩;rw[<-hW];have hbW:Ae w.heap.size w W:=by rw[hW];exact qa (qa (qa (qc w) _) _) _
 have hzW:W.heap.size=w.heap.size+3:=by rw[hW];simp
 have jS:Am W w.heap.size #[ptr y.sb] 24:=by rw[hW];exact ((Am.new w _ _).alloc _).alloc _
 have jV:Am W (w.heap.size+1) #[I Z 0] 3:=by rw[hW];exact (Am.Aq _ _ _ _ _ (by simp) rfl).alloc _
 have jE:Am W (w.heap.size+1+1) #[I Z 0] 29:=by rw[hW];exact Am.Aq _ _ _ _ _ (by simp) rfl
 clear hW;refine (HR.out _ hbW).mono ?_
 rintro e w1⟨rfl,rfl⟩
 go_wp2_with fail;refine (HD.out _ (qa hbW _)).mono ?_
 rintro e w2⟨rfl,o2,hS2,hs2⟩
 have jV2:=(jV.alloc (.cells #[ptr (y.xb i)] 103)).Ao hs2 (by rw[HB.out _ (by omega)];exact HT.out)
 have jE2:=(jE.alloc (.cells #[ptr (y.xb i)] 103)).Ao hs2 (by rw[HB.out _ (by omega)];exact HT.out)
 have tV:o2 (w.heap.size+1)=(y.l.id+1,0):=(hs2.tags _ (jV.alloc _).lt).trans (HB.out _ (by omega))
 have tE:o2 (w.heap.size+1+1)=(y.l.id+1,0):=(hs2.tags _ (jE.alloc _).lt).trans (HB.out _ (by omega))
 have hst:Stp T o1 o2 w w2:=(Stp.of_below (qa hbW _)).trans hs2;clear jV jE jS;have cV:=jV2.cell;have zV:=jV2.free;have sV:=jV2.lt;have cE:=jE2.cell;have zE:=jE2.free;have sE:=jE2.lt;go_wp2_with fail;have jV3:=(jV2.set 0 (I Z v)).An (a:=⟨w.heap.size+1+1,0,none⟩) (by simp) (I Z err)
 have jE3:=(jE2.An (a:=⟨w.heap.size+1,0,none⟩) (by simp) (I Z v)).set 0 (I Z err)
 have cV3:=jV3.cell 0;have cE3:=jE3.cell 0;simp at cV3 cE3;refine leaves_cons (f:=138) (args:=#[ptr (w.heap.size+1+1),ptr w.heap.size,ptr (w.heap.size+3),ptr (w.heap.size+1)]) (by simp) (by simp[go_sem]) ?_
 refine (qng _ _ _ _ err v _ cE3 (by simpa using jV3) e0 e1 e2 e3).mono ?_
 rintro e u' w''⟨rfl,rfl,rfl⟩
 have jV4:=jV3.set 0 (I Z 0);have jE4:=jE3.An (a:=⟨w.heap.size+1,0,none⟩) (by simp) (I Z 0)
 have cV4:=jV4.cell 0;have cE4:=jE4.cell 0;simp at cV4 cE4;simp only[settle,Leaves];refine⟨Aj #[I Z 0,I Z err],by simp[results,Tryz.results77,go_sem,cV4,cE4],rfl,o2,((hS2.box tV _).box tE _).box tV _,HS.out.trans (((hst.setCell_new (by show w.heap.size<=w.heap.size+1;omega) _).setCell_new (by show w.heap.size<=w.heap.size+1+1;omega) _).setCell_new (by show w.heap.size<=w.heap.size+1;omega) _)⟩
end
section
variable {w : Aa} {o : Own} {y : A3} {S : Al} {x : Tx} {i : Nat}
def Nz (y:A3)(S':Al)(o:Own)(w:Aa)(be bv:Nat)(err:Int)(tv te:TypeId)(w':Aa):Prop:=
 ∃ o' w1,w'=w1.setCell ⟨bv,0,none⟩ (I Z 0)/\Ap w' o' y S'/\Stp (qh y) o o' w w1/\Am w' bv #[I Z 0] tv/\Am w' be #[I Z err] te
theorem qij (be bs bx bv:Nat)(err v:Int)(tv te ts tx:TypeId)(he:Am w be #[I Z err] te)(hs:Am w bs #[ptr y.sb] ts)(hx:Am w bx #[ptr (y.xb i)] tx)(hv:Am w bv #[I Z v] tv)(h0:err=141\/err=130\/err=100)
  (ob:o be=(y.l.id+1,0))(ov:o bv=(y.l.id+1,0))(hne:be≠bv)(S':Al)
  (hab:Ab Tryz.prog 73 #[ptr y.sb,ptr (y.xb i)] w fun e w'=>e=O (Aj #[])/\∃ o',Ap w' o' y S'/\Stp (qh y) o o' w w') :
  CallsD Tryz.prog 138 #[ptr be,ptr bs,ptr bx,ptr bv] .returning w fun e u' w'=>u'=.returning/\(e=O (Aj #[])/\Nz y S' o w be bv err tv te w'):=by
 have c:=he.cell;have cs:=hs.cell;have cx:=hx.cell;have HA:=Qa hab;have HB:=Qa (qm y);clear hab;rcases h0 with rfl|rfl|rfl
 all_goals
  go_enter_d Tryz.func138,Tryz.ntmps138;go_wp2_with fail;refine HA.out.mono ?_
  rintro e w1⟨rfl,o1,hS1,hs1⟩
  have je:=he.Ao hs1 (by rw[ob];exact HB.out)
  have jv:=hv.Ao hs1 (by rw[ov];exact HB.out)
  have tv:o1 bv=(y.l.id+1,0):=(hs1.tags _ hv.lt).trans ov;clear c cs cx;have c:=je.cell;have cv:=jv.cell;have zv:=jv.free;have sv:=jv.lt;have hS2:=Qa (hS1.box (a:=⟨bv,0,none⟩) tv (I Z 0));go_wp2_with fail;go_end0;exact⟨rfl,o1,_,rfl,hS2.out,hs1,jv.set 0 _,je.An hne _⟩
theorem Wi (g:Nat) (caps:List Ac) (h0:Ap w o y S) (hk:S.ok) (hx:S.Aw[i]?=some x) (hl:x.live=true) (eg:∀ args w,(callFunc g args).run Tryz.prog w=.ok (.enter g args) w)
  (T:Tag->Prop) (hT:¬T (y.l.id+1,0)) (S' S2:Al) (v err:Int) (he:err=141\/err=130\/err=100)
  (hdo:∀ w1 o1,Ae w.heap.size w w1->(∀ b,b<w.heap.size->o1 b=o b)->Ap w1 o1 y S->Ab Tryz.prog g (ptr (y.xb i)::caps).toArray w1 fun e w'=>e=O (Aj #[I Z v,I Z err])/\∃ o',Ap w' o' y S'/\Stp T o1 o' w1 w')
  (hab:∀ w1 o1,Ap w1 o1 y S'->Ab Tryz.prog 73 #[ptr y.sb,ptr (y.xb i)] w1 fun e w'=>e=O (Aj #[])/\∃ o',Ap w' o' y S2/\Stp (qh y) o1 o' w1 w') :
  Ab Tryz.prog 77 #[ptr y.sb,I Z i,.func (.func g) #[] caps.toArray] w fun e w'=>e=O (Aj #[I Z 0,I Z err])/\∃ o',Ap w' o' y S2/\Stp (fun t=>T t\/qh y t) o o' w w':=by
 have hmf:∀ (fn:Fn) (first cap:Array Ac) (w:Aa),(Instr.makeFunc fn first cap).run Tryz.prog w=.ok (.func fn first cap) w:=fun _ _ _ _=>rfl
 obtain⟨o1,ho1⟩:∃ o1,o1=ext o w.heap.size (y.l.id+1,0):=⟨_,rfl⟩;have h:=h0.retag (o':=o1) fun b hb=>by rw[ho1];exact qj hb
 have hS0:Stp T o o1 w w:=by rw[ho1];exact (Stp.refl _ o w).ext _ _ (Qk _)
 have hbx:∀ b,w.heap.size<=b->o1 b=(y.l.id+1,0):=fun b hb=>by rw[ho1];exact qp hb
 have hext:∀ b,b<w.heap.size->o1 b=o b:=fun b hb=>by rw[ho1];exact qj hb
 clear ho1 h0;have HR:=Qa (fun w' (hw:Ae w.heap.size w w')=>xh (h.below hw) hk hx)
 rw[hl]at HR;simp only[if_true]at HR;have HD:=Qa (fun w' (hw:Ae w.heap.size w w')=>hdo w' o1 hw hext (h.below hw))
 have HAb:=Qa hab;have HB:=Qa hbx;have HS:=Qa hS0;have HT:=Qa hT;have HEr:=Qa he;clear hdo hbx h hk hx hS0 hT hext hab he;go_enter_defers Tryz.func77,Tryz.ntmps77;go_wp2_with fail;obtain⟨W,hW⟩:∃ W:Aa,W=((w.alloc (.cells #[ptr y.sb] 24)).alloc (.cells #[I Z 0] 3)).alloc (.cells #[I Z 0] 29):=⟨_,rfl⟩;rw[<-hW];have hbW:Ae w.heap.size w W:=by rw[hW];exact qa (qa (qa (qc w) _) _) _
 have hzW:W.heap.size=w.heap.size+3:=by rw[hW];simp
 have jS:Am W w.heap.size #[ptr y.sb] 24:=by rw[hW];exact ((Am.new w _ _).alloc _).alloc _
 have jV:Am W (w.heap.size+1) #[I Z 0] 3:=by rw[hW];exact (Am.Aq _ _ _ _ _ (by simp) rfl).alloc _
 have jE:Am W (w.heap.size+1+1) #[I Z 0] 29:=by rw[hW];exact Am.Aq _ _ _ _ _ (by simp) rfl
 have jX:Am (W.alloc (.cells #[ptr (y.xb i)] 103)) (w.heap.size+3) #[ptr (y.xb i)] 103:=Am.Aq _ _ _ _ _ hzW.symm rfl;clear hW;refine (HR.out _ hbW).mono ?_
 rintro e w1⟨rfl,rfl⟩
 go_wp2_with fail;refine (HD.out _ (qa hbW _)).mono ?_
 rintro e w2⟨rfl,o2,hS2,hs2⟩
 have jV2:=(jV.alloc (.cells #[ptr (y.xb i)] 103)).Ao hs2 (by rw[HB.out _ (by omega)];exact HT.out)
 have jE2:=(jE.alloc (.cells #[ptr (y.xb i)] 103)).Ao hs2 (by rw[HB.out _ (by omega)];exact HT.out)
 have jS2:=(jS.alloc (.cells #[ptr (y.xb i)] 103)).Ao hs2 (by rw[HB.out _ (by omega)];exact HT.out)
 have jX2:=jX.Ao hs2 (by rw[HB.out _ (by omega)];exact HT.out)
 have tV:o2 (w.heap.size+1)=(y.l.id+1,0):=(hs2.tags _ (jV.alloc _).lt).trans (HB.out _ (by omega))
 have tE:o2 (w.heap.size+1+1)=(y.l.id+1,0):=(hs2.tags _ (jE.alloc _).lt).trans (HB.out _ (by omega))
 have hst:Stp T o1 o2 w w2:=(Stp.of_below (qa hbW _)).trans hs2;clear jV jE jS jX;have cV:=jV2.cell;have zV:=jV2.free;have sV:=jV2.lt;have cE:=jE2.cell;have zE:=jE2.free;have sE:=jE2.lt;go_wp2_with fail;have jV3:=(jV2.set 0 (I Z v)).An (a:=⟨w.heap.size+1+1,0,none⟩) (by simp) (I Z err)
 have jE3:=(jE2.An (a:=⟨w.heap.size+1,0,none⟩) (by simp) (I Z v)).set 0 (I Z err)
 have jS3:=(jS2.An (a:=⟨w.heap.size+1,0,none⟩) (by simp) (I Z v)).An (a:=⟨w.heap.size+1+1,0,none⟩) (by simp;omega) (I Z err)
 have jX3:=(jX2.An (a:=⟨w.heap.size+1,0,none⟩) (by simp) (I Z v)).An (a:=⟨w.heap.size+1+1,0,none⟩) (by simp) (I Z err)
 refine leaves_cons (f:=138) (args:=#[ptr (w.heap.size+1+1),ptr w.heap.size,ptr (w.heap.size+3),ptr (w.heap.size+1)]) (by simp) (by simp[go_sem]) ?_
 refine (qij _ _ _ _ err v _ _ _ _ (by simpa using jE3) jS3 jX3 (by simpa using jV3) HEr.out tE tV (by omega) S2 (HAb.out _ _ ((hS2.box tV _).box tE _))).mono ?_
 rintro e u' w''⟨rfl,rfl,o3,w3,rfl,hS3,hs3,jV4,jE4⟩
 have cV4:=jV4.cell 0;have cE4:=jE4.cell 0;simp at cV4 cE4;simp only[settle,Leaves];refine⟨Aj #[I Z 0,I Z err],by simp[results,Tryz.results77,go_sem,cV4,cE4],rfl,o3,hS3,?_⟩
 have h1:Stp T o o2 w _:=HS.out.trans ((hst.setCell_new (a:=⟨w.heap.size+1,0,none⟩) (by show w.heap.size<=w.heap.size+1;omega) (I Z v)).setCell_new (a:=⟨w.heap.size+1+1,0,none⟩) (by show w.heap.size<=w.heap.size+1+1;omega) (I Z err))
 exact ((h1.mono fun _ h=>Or.inl h).trans (hs3.mono fun _ h=>Or.inr h)).setCell_new (by show w.heap.size<=w.heap.size+1;omega) _
end
end
section
open Go.RowKit Go.Shelf Hp
section
variable {w w' : Aa} {o o' : Own} {y : A3} {S : Al} {i : Nat}
theorem Sp (h:Ap w o y S)(hk:S.ok)(p j q:Nat) :
  Ab Tryz.prog 113 #[ptr y.l.h,I Z p,I Z j,I Z q] w fun e w'=>e=O (I Z ((S.H.A9 p j q).2:Nat))/\Bl y { S with H:=(S.H.A9 p j q).1 } o w w':=by
 obtain⟨vc,vo,vw,vf,f,hh⟩:=h.hp;refine (Xr hh hk.H p j q).mono ?_
 rintro e w' ⟨rfl,vc',f',o',h1,h2⟩
 exact⟨rfl,o',h.heap ⟨_,_,_,_,_,h1⟩ h2,h2.mono fun _=>td⟩
theorem GV (h:Ap w o y S)(hk:S.ok)(p j:Nat) :
  Ab Tryz.prog 112 #[ptr y.l.h,I Z p,I Z j] w fun e w'=>e=O (Aj #[I Z ((S.H.A5 p j).2.1:Nat),I Z ((S.H.A5 p j).2.2:Nat)])/\Bl y { S with H:=(S.H.A5 p j).1 } o w w':=by
 obtain⟨vc,vo,vw,vf,f,hh⟩:=h.hp;refine (GQ hh hk.H p j).mono ?_
 rintro e w' ⟨rfl,vc',f',o',h1,h2⟩
 exact⟨rfl,o',h.heap ⟨_,_,_,_,_,h1⟩ h2,h2.mono fun _=>td⟩
theorem qgh (pa:Option Addr)(n c:Nat)(w:Aa) :
  Ab Tryz.prog 132 #[.slice pa n c] w fun e w'=>e=O (.func (.func 199) #[] #[ptr w.heap.size])/\w'=w.alloc (.cells #[.slice pa n c] 212):=by
 have hmf:∀ (fn:Fn)(first cap:Array Ac)(w:Aa),(Instr.makeFunc fn first cap).run Tryz.prog w=.ok (.func fn first cap) w:=fun _ _ _ _=>rfl
 go_enter Tryz.func132,Tryz.ntmps132;go_wp2_with fail;go_ret;exact⟨rfl,rfl⟩
structure Eh (w:Aa)(o o1:Own)(y:A3)(S:Al)(us:List Un)(D bS bU:Nat)(v:Ac)(R:Loop)(H:Hp)(wr:Aa):Prop where
 st:Ap wr o1 y (S.h H)
 hL:wr.heap[D+1]?=some (.loop R)
 hD:wr.heap[D]?=some (.deferred (some []))
 jS:Am wr bS #[ptr y.sb] 24
 jU:Am wr bU #[v] 212
 row:Row wr o1 (y.l.id+1,0) 175 4 v us.length (qz us)
 sp:Stp (qh y) o o1 w wr
 tL:o1 (D+1)=(y.l.id+1,0)
 tD:o1 D=(y.l.id+1,0)
 tS:o1 bS=(y.l.id+1,0)
 tU:o1 bU=(y.l.id+1,0)
theorem Row.C1 {w:Aa}{o:Own}{t:Tag}{e:TypeId}{size:Nat}{v:Ac}{n:Nat}{xs:List Ac}(h:Row w o t e size v n xs) :
  (v=Ah none 0 0/\xs=[])\/∃ g cap,v=Ah (some ⟨g,0,none⟩) n cap/\n<=cap:=by
 rcases h.own.2 with ⟨rfl,h2⟩|⟨g,cap,cur,rfl,_,hg,hn,hc,_⟩
 ·exact .inl ⟨rfl,List.eq_nil_of_length_eq_zero (by rw[h.own.1,h2];omega)⟩
 ·exact .inr ⟨g,cap,rfl,hn⟩
theorem Row.put {w:Aa}{o:Own}{t:Tag}{e:TypeId}{size:Nat}{v:Ac}{n:Nat}{xs:List Ac}(h:Row w o t e size v n xs){l:Nat}{R:Loop}(hl:w.heap[l]?=some (.loop R))(x:Obj):Row (w.putObj l x) o t e size v n xs:=by
 obtain⟨⟨h1,h2⟩,h3⟩:=h;refine⟨⟨h1,?_⟩,h3⟩;rcases h2 with h2|⟨g,cap,cur,rfl,hg,hh,r⟩
 ·exact .inl h2
 ·refine .inr ⟨g,cap,cur,rfl,hg,(World.putObj_heap_other fun e=>?_).trans hh,r⟩
  rw[e,hl]at hh;cases hh
theorem Stp.put {T:Tag->Prop}{o o':Own}{w w':Aa}(h:Stp T o o' w w'){l:Nat}(hl:T (o' l))(x:Obj):Stp T o o' w (w'.putObj l x):=
 h.trans ⟨rfl,rfl,rfl,by simp,fun _ _=>rfl,fun b _ ht=>World.putObj_heap_other fun e=>ht (by rw[e];exact hl)⟩
theorem Stp.CI {T:Tag->Prop}{o o':Own}{w w':Aa}(h:Stp T o o' w w'){l:Nat}(hl:w.heap.size<=l)(x:Obj):Stp T o o' w (w'.putObj l x):=
 ⟨h.os,h.tape,h.output,by simpa using h.size,h.tags,fun b hb ht=>(World.putObj_heap_other (by omega)).trans (h.block b hb ht)⟩
theorem Ap.put (h:Ap w o y S){l:Nat}(ht:o l=(y.l.id+1,0))(x:Obj):Ap (w.putObj l x) o y S:=
 h.Ao (T:=fun t=>t=(y.l.id+1,0)) ((Stp.refl _ o w).put ht x) fun j=>by simp
section
variable {o1 o2 : Own} {us : List Un} {D bS bU : Nat} {v : Ac} {R : Loop} {l l' : Hp} {wr w2 : Aa}
theorem Eh.CB (h:Eh w o o1 y S us D bS bU v R l wr)(hs:Stp (qh y) o1 o2 wr w2)(st:Ap w2 o2 y (S.h l')):Eh w o o2 y S us D bS bU v R l' w2:=
 have lL:=(Qf.1 h.hL).1
 have lD:=(Qf.1 h.hD).1
 ⟨st,(hs.block _ lL (by rw[h.tL];exact qm y)).trans h.hL,(hs.block _ lD (by rw[h.tD];exact qm y)).trans h.hD,h.jS.Ao hs (by rw[h.tS];exact qm y),h.jU.Ao hs (by rw[h.tU];exact qm y),
  h.row.Ao hs (qm y),h.sp.trans hs,(hs.tags _ lL).trans h.tL,(hs.tags _ lD).trans h.tD,(hs.tags _ h.jS.lt).trans h.tS,(hs.tags _ h.jU.lt).trans h.tU⟩
theorem Eh.below (h:Eh w o o1 y S us D bS bU v R l wr)(hb:Ae wr.heap.size wr w2):Eh w o o1 y S us D bS bU v R l w2:=
 h.CB (Stp.of_below hb) (h.st.below hb)
theorem Eh.re (h:Eh w o o1 y S us D bS bU v R l wr):Eh w o (ext o1 wr.heap.size (y.l.id+1,0)) y S us D bS bU v R l wr:=
 have hs:Stp (qh y) o1 (ext o1 wr.heap.size (y.l.id+1,0)) wr wr:=(Stp.refl _ _ _).ext _ _ (Qk _)
 h.CB hs (h.st.retag fun _ hb=>qj hb)
theorem Eh.put (h:Eh w o o1 y S us D bS bU v R l wr)(hw:w.heap.size<=D)(R':Loop):Eh w o o1 y S us D bS bU v R' l (wr.putObj (D+1) (.loop R')):=by
 have n1:bS≠D+1:=fun e=>by have:=h.jS;unfold Am at this;rw[e,h.hL]at this;cases this
 have n2:bU≠D+1:=fun e=>by have:=h.jU;unfold Am at this;rw[e,h.hL]at this;cases this
 exact⟨h.st.put h.tL _,World.putObj_heap_same (Qf.1 h.hL).1,(World.putObj_heap_other (by omega)).trans h.hD,h.jS.put n1,h.jU.put n2,h.row.put h.hL _,h.sp.CI (by omega) _,h.tL,h.tD,h.tS,h.tU⟩
theorem Row.Mm {w:Aa}{o:Own}{t:Tag}{l:List Un}{g n cap:Nat}(h:Row w o t 175 4 (Ah (some ⟨g,0,none⟩) n cap) n (qz l))(i:Nat)(x:Un)(hx:l[i]?=some x) :
  w.cell? ⟨g,i*4,none⟩=some (I Z x.kind)/\w.cell? ⟨g,i*4+1,none⟩=some (I Z x.pos)/\w.cell? ⟨g,i*4+2,none⟩=some (I Z x.i)/\w.cell? ⟨g,i*4+3,none⟩=some (I Z x.old):=by
 obtain⟨h1,h2,h3,h4⟩:=Vv l i x hx;have f:=fun j u hu=>h.own.cells (g:=g) rfl j u hu
 have e:∀ j,(⟨g,0,none⟩:Addr).add j=⟨g,j,none⟩:=fun j=>by unfold Addr.add;split<;>simp_all
 have a1:=f _ _ h1;have a2:=f _ _ h2;have a3:=f _ _ h3;have a4:=f _ _ h4;rw[e]at a1 a2 a3 a4;rw[Nat.mul_comm i 4];exact⟨a1,a2,a3,a4⟩
end
end
theorem Yl (w:Aa):Ab Tryz.prog 201 #[Ah none 0 0,I Z 0] w fun e w'=>e=O (Ah none 0 0)/\w=w':=by
 go_enter Tryz.func201,Tryz.ntmps201;go_wp2_with fail;go_ret;exact⟨rfl,rfl⟩
def Fv:Go.Shelf.Ren:=⟨fun|4=>201|n=>n,fun|0=>0|3=>3|4=>4|9=>9|20=>20|22=>99|25=>117|n=>n,fun|n=>n⟩
theorem Gs:Go.Proofs.Lays8.n4 Tryz.prog Fv:={
 mixed:=by kernel_rfl
 f4:=⟨Tryz.f201.name,by kernel_rfl,Tryz.func201.trans (congrArg some (by kernel_rfl))⟩
 t0:=by kernel_rfl
 a0:=fun _=>by kernel_rfl
 z0:=fun _=>by kernel_rfl
 v0:=fun _=>by kernel_rfl
 t3:=by kernel_rfl
 a3:=fun _=>by kernel_rfl
 z3:=fun _=>by kernel_rfl
 v3:=fun _=>by kernel_rfl
 t4:=by kernel_rfl
 a4:=fun _=>by kernel_rfl
 z4:=fun _=>by kernel_rfl
 v4:=fun _=>by kernel_rfl
 t9:=by kernel_rfl
 a9:=fun _=>by kernel_rfl
 z9:=fun _=>by kernel_rfl
 v9:=fun _=>by kernel_rfl
 t20:=by kernel_rfl
 a20:=fun _=>by kernel_rfl
 z20:=fun _=>by kernel_rfl
 v20:=fun _=>by kernel_rfl
 t22:=by kernel_rfl
 a22:=fun _=>by kernel_rfl
 z22:=fun _=>by kernel_rfl
 v22:=fun _=>by kernel_rfl }
theorem ut:∃ i,Tryz.prog.info? 117=some i/\i.size=2/\i.bytes=16/\i.zero=some (Ak #[I Z 0,I Z 0]):=info_parts (by kernel_rfl)
theorem Gn (n:Nat)(hn:n<=4398046511104)(w:Aa) :
  Ab Tryz.prog 201 #[Ah none 0 0,I Z n] w fun e w'=>∃ v,e=O v/\Row w' (fo w.heap.size) (1,0) 117 2 v 0 []/\Ae w.heap.size w w':=by
 rcases Nat.eq_zero_or_pos n with rfl|h0
 ·refine (Yl w).mono ?_
  rintro e w' ⟨rfl,rfl⟩
  exact⟨_,rfl,Row.nil _ _ _ _ _,qc w⟩
 ·obtain⟨i,hi,hs,hb,hz⟩:=ut
  have hG:=Any8.slices_Grow_grow Gs i _ hi hz (by omega) none 0 0 n [] w (Qk _) (by omega) (by rw[hb];omega) (by omega) (by simp) (fun _=>rfl) (fun a ha=>by cases ha)
  refine hG.mono ?_
  rintro e w' ⟨rfl,rfl⟩
  refine⟨_,rfl,⟨⟨by simp,.inr ⟨w.heap.size,_,_,rfl,Nat.zero_le _,World.alloc_heap_new w.drew _,Nat.zero_le _,?_,?_,by simp⟩⟩,?_⟩,qa (qe (qc w)) _⟩
  ·exact grownCap_le_maxLen _ _ _ _ (by unfold maxLen;omega)
  ·have hg:=grownCap_ge w (0+n) 0 (Fv.t 25)
   simp only[Array.size_append,size_zeroCells,List.size_toArray,List.length_nil];show 0+(0+n-0)*2+_*2=_*2;omega
  ·intro k hk
   simp only[Value.ownBlock,Zb]at hk;subst hk;exact G1 (Qk _)
theorem Yd (l m:List (Nat×Nat)):qg (l++m)=qg l++qg m:=by
 induction l with
 | nil=>rfl
 | cons x l ih=>simp[qg,ih]
theorem JU (m1 m2:Nat)(n1:m1<=1099511627776)(n2:m2<=1099511627776) :
  IntKind.i64.wrap (0+(m1:Int))=(m1:Int)/\IntKind.i64.wrap ((m1:Int)+(m2:Int))=(m1:Int)+(m2:Int)/\wrap64 (m1:Int)=(m1:Int)/\wrap64 ((m1:Int)+(m2:Int))=(m1:Int)+(m2:Int):=by
 have h1:(-9223372036854775808:Int)<=m1/\(m1:Int)<=9223372036854775807:=by omega
 have h2:(-9223372036854775808:Int)<=(m1:Int)+m2/\(m1:Int)+m2<=9223372036854775807:=by omega
 exact⟨by rw[Int.zero_add];exact IntWalk.i64_in _ h1,IntWalk.i64_in _ h2,IntWalk.wrap64_in _ h1,IntWalk.wrap64_in _ h2⟩
def CcR (m1 m2:Nat)(s ix:Ac):Prop:=∃ k n:Nat,s=I Z n/\ix=I Z k/\(k=0/\n=0\/k=1/\n=m1\/k=2/\n=m1+m2)
theorem V7 {w:Aa}{b:Nat}{v1 v2:Ac}{l1 l2:List (Nat×Nat)}{o1 o2:Own}{t1 t2:Tag}(hb:Am w b #[v1,v2] 99)(h1:Row w o1 t1 117 2 v1 l1.length (qg l1))(h2:Row w o2 t2 117 2 v2 l2.length (qg l2))
  (n1:l1.length<=1099511627776)(n2:l2.length<=1099511627776) :
  Ab Tryz.prog 134 #[Ah (some ⟨b,0,none⟩) 2 2] w fun e w'=>∃ v,e=O v/\Row w' (fo w.heap.size) (1,0) 117 2 v (l1++l2).length (qg (l1++l2))/\Ae w.heap.size w w':=by
 obtain⟨iU,hi,hsI,hyI,hzI⟩:=ut;have hu64:=Tryz.underlying99;have c:=hb.cell;have HG:=Qa (fun w'=>Gn (l1.length+l2.length) (by omega) w')
 have H1:=Qa h1;have H2:=Qa h2;have HB:=Qa hb;obtain⟨a1,c1,e1⟩:∃ a1 c1,v1=.slice a1 l1.length c1:=h1.AY;obtain⟨a2,c2,e2⟩:∃ a2 c2,v2=.slice a2 l2.length c2:=h2.AY;subst e1 e2;obtain⟨m1,hm1⟩:∃ m1,m1=l1.length:=⟨_,rfl⟩;obtain⟨m2,hm2⟩:∃ m2,m2=l2.length:=⟨_,rfl⟩;rw[<-hm1,<-hm2]at HG;rw[<-hm1]at c H1 HB n1;rw[<-hm2]at c H2 HB n2;have hfin:(l1++l2).length=m1+m2:=by rw[Qd];omega
 have HF:=Qa hfin;obtain⟨hw0,hw1,hw2,hw3⟩:=JU m1 m2 n1 n2;have hp1:¬((m1:Int)<0):=Int.not_lt.2 (Int.natCast_nonneg _);have hp2:¬((m1:Int)+(m2:Int)<0):=Int.not_lt.2 (Int.add_nonneg (Int.natCast_nonneg _) (Int.natCast_nonneg _));have hp3:decide ((m1:Int)<0)=false:=decide_eq_false hp1;have hp4:decide ((m1:Int)+(m2:Int)<0)=false:=decide_eq_false hp2;have N1:=Qa n1;have N2:=Qa n2;clear h1 h2 hb hm1 hm2 hfin n1 n2;go_enter Tryz.func134,Tryz.ntmps134;go_wp2_with fail;go_loop [3,11] (CcR m1 m2) (fun _ ix=>2-(intOf ix).toNat)
 case atStart=>exact⟨0,0,rfl,rfl,.inl ⟨rfl,rfl⟩⟩
 case round =>
  obtain⟨k,n,rfl,rfl,hkn⟩:=hrel;rcases hkn with ⟨rfl,rfl⟩|⟨rfl,rfl⟩|⟨rfl,rfl⟩
  ·have cz:=c 0
   rw[show ((0:Nat):Int)=0 from rfl];go_wp2_with fail;go_round
   case rel=>exact⟨1,m1,by rw[hw2],rfl,.inr (.inl ⟨rfl,rfl⟩)⟩
   case measure=>simp[intOf]
  ·have cz:=c 1
   go_wp2_with fail;go_round
   case rel=>exact⟨2,n+m2,by rw[Int.natCast_add],rfl,.inr (.inr ⟨rfl,rfl⟩)⟩
   case measure=>simp[intOf]
  ·rw[Int.natCast_add]
   clear c;go_wp2_with fail;refine (HG.out _).mono ?_
   rintro e w1 ⟨v,rfl,hr,hb1⟩
   have HRw:=Qa hr;have HBb:=Qa hb1;clear hr;go_wp2_with fail;go_loopw [6,27] (fun s ix wr=>∃ (k:Nat)(n:Nat)(xs:List Ac),k<=2/\ix=I Z k/\n=(if k=0 then 0 else if k=1 then m1 else m1+m2)/\xs=(if k=0 then [] else if k=1 then qg l1 else qg (l1++l2))/\Row wr (fo w.heap.size) (1,0) 117 2 s n xs/\Ae w.heap.size w wr) (fun _ ix _=>2-(intOf ix).toNat)
   case atStart=>exact⟨0,0,[],by omega,rfl,rfl,rfl,HRw.out,HBb.out⟩
   case round =>
    clear hb1;obtain⟨k,n,xs,hk,rfl,hn,hxs,hr,hbr⟩:=hrel;obtain rfl|rfl|rfl:k=0\/k=1\/k=2:=by omega
    ·simp only[if_true]at hn hxs
     subst hn hxs;have c:=(HB.out.below hbr HB.out.lt).cell 0;have hk1:=Qa (show 0+m1<=maxLen by have:=N1.out;simp only[maxLen];omega)
     have hk2:=Qa (show (0+m1)*16<=140737488355328 by have:=N1.out;omega)
     have hsrc:=H1.out.below hbr;go_wp2_with (at_builtin;refine zk _ rfl _ _ _ rfl 117 iU _ 2 16 hu64 hi hzI hsI hyI rfl (by decide) (fo w.heap.size) (1,0) _ 0 [] rfl hr _ _ _ m1 (qg l1) rfl hsrc (yn l1) hk1.out hk2.out ?_;intro v' w' hown hst)
     have hbr2:=wz hbr hst;have hown2:=xz hbr hown;rw[List.nil_append,Nat.zero_add]at hown2;go_roundw
     case rel=>exact⟨1,m1,qg l1,by omega,by simp,by simp,by simp,hown2,hbr2⟩
     case measure=>simp[intOf]
    ·simp only[if_true,Nat.one_ne_zero,if_false]at hn hxs
     subst hn hxs;have c:=(HB.out.below hbr HB.out.lt).cell 1;have hk1:=Qa (show n+m2<=maxLen by have:=N1.out;have:=N2.out;simp only[maxLen];omega)
     have hk2:=Qa (show (n+m2)*16<=140737488355328 by have:=N1.out;have:=N2.out;omega)
     have hsrc:=H2.out.below hbr;go_wp2_with (at_builtin;refine zk _ rfl _ _ _ rfl 117 iU _ 2 16 hu64 hi hzI hsI hyI rfl (by decide) (fo w.heap.size) (1,0) _ n (qg l1) rfl hr _ _ _ m2 (qg l2) rfl hsrc (yn l2) hk1.out hk2.out ?_;intro v' w' hown hst)
     have hbr2:=wz hbr hst;have hown2:=xz hbr hown;rw[<-Yd]at hown2;go_roundw
     case rel=>exact⟨2,n+m2,qg (l1++l2),by omega,by simp,by simp,by simp,hown2,hbr2⟩
     case measure=>simp[intOf]
    ·simp only[Nat.reduceEqDiff,if_false]at hn hxs
     subst hn hxs;go_wp2_with fail;go_ret;exact⟨_,rfl,by rw[HF.out];exact hr,hbr⟩
end
section
open Go.RowKit Hp
attribute [local go_sem ↓] Go.wp_at_zero Go.wp_at_succ
section
variable {w w' : Aa} {o o' : Own} {y : A3} {S : Al} {i : Nat}
def Al.Be (S:Al)(i:Nat):Bv:=S.AH i (S.AQ i)
theorem Xd (args:Array Ac)(w:Aa):(callFunc 78 args).run Tryz.prog w=.ok (.enter 78 args) w:=enters_of Tryz.func78 (by kernel_rfl) rfl args w
theorem YW (h:Ap w o y S)(hk:S.ok)(hi:i<S.Aw.length)(hh:(S.t i).log.holds=[])(hn:S.Av≠(i:Int)){b1:Nat}(j1:Am w b1 #[ptr y.sb] 24) :
  Ab Tryz.prog 78 #[ptr (y.xb i),ptr b1] w fun e w'=>e=O (Aj #[I Z 0,I Z 0])/\Bl y (S.tx i (S.t i).ended) o w w':=by
 have hx':=h.Aw i _ (Al.AV hi);obtain⟨vr,vk,vh,vu,hl⟩:=hx'.log;have HL:=Qa (SN hl (hk.Em hi).ok (y.l.id+1,0));rw[hh]at HL;have HE:=Qa (fun w' (hw:Ae w.heap.size w w')=>Pn (h.below hw) (Al.AV hi))
 have c1:=j1.cell;obtain⟨vt,jx,_⟩:=hx'.AU;unfold zg at jx;have cx:=jx.cell;obtain⟨vq,vl,vm,jb,_⟩:=h.AU;unfold qk at jb;have hne:(S.Av==(i:Int))=false:=by simpa using hn
 have hne2:¬S.Av=(i:Int):=hn;generalize S.tx i (S.t i).ended=S2 at *;clear h hk hh hx' hl hn hi;go_enter Tryz.func78,Tryz.ntmps78;go_wp2_with fail;refine HL.out.mono ?_
 rintro e w1⟨v',rfl,hr,hb1⟩
 obtain⟨pa,cp,rfl⟩:=hr.AY;have c1:=(j1.below hb1 j1.lt).cell;have cx:=(jx.below hb1 jx.lt).cell;have c:=(jb.below hb1 jb.lt).cell;have s1:=(j1.below hb1 j1.lt).lt;go_upto_region 2 with fail;go_quiet (fail);go_wp2_with fail;refine (HE.out _ (zh hb1 _)).mono ?_
 rintro e w2⟨rfl,o2,hS2,hs2⟩
 go_wp2_with fail;go_ret2;exact⟨rfl,o2,hS2,(Stp.of_below (zh hb1 _)).trans hs2⟩
theorem LU (h:Ap w o y S) (hk:S.ok) (hm:S.now<S.most) :
  Ab Tryz.prog 83 #[ptr y.ck] w fun e w'=>e=O (Aj #[I Z ((S.now+1:Nat):Int),.bool true])/\Ap w' o y { S with now:=S.now+1 }/\Stp (fun t=>t=(y.l.id,10)) o o w w':=by
 refine (FZ h.ck (by omega) (by omega) (by have:=hk.n2;omega)).mono ?_
 rintro e w'⟨rfl,hb,hw⟩
 have hs:Stp (fun t=>t=(y.l.id,10)) o o w w':=Stp.BR hw h.oc
 exact⟨by simp,h.clock (n:=S.now+1) (by simpa using hb) hs,hs⟩
theorem Ys (h:Ap w o y S)(hk:S.H.wf)(p v:Nat)(hv:v<=2199023255552) :
  Ab Tryz.prog 145 #[ptr y.l.h,I Z p,.int .u64 v] w fun e w'=>e=O (I Z ((S.H.AB p v).2:Nat))/\Bl y { S with H:=(S.H.AB p v).1 } o w w':=by
 obtain⟨vc,vo,vw,vf,f,hh⟩:=h.hp;unfold Hp.AB
 cases hp:lk S.H.cur p with
 | none=>exact (bi hh hk.ok hp v).mono fun _ _⟨a,b⟩=>⟨a,h.Ee b⟩
 | some ob =>
  refine (bp hh hk.ok hp v hv).mono ?_
  rintro e w'⟨rfl,_,h',hw⟩
  obtain⟨a1,a2⟩:=hh.Fu h' hw;exact⟨rfl,h.Dz a1 a2⟩
theorem qic (h:Ap w o y S)(hk:S.H.wf)(p v:Nat)(hv:v<=1099511627776) :
  Ab Tryz.prog 84 #[ptr y.sb,I Z p,I Z v] w fun e w'=>e=O (Aj #[])/\Bl y { S with H:=(S.H.AB p (2*v)).1 } o w w':=by
 have HC:=Ys h hk p (2*v) (by omega)
 have HO:=Qa (fun w=>tf v ⟨by omega,by omega⟩ w)
 have ei:((2*v:Nat):Int)=2*(v:Int):=by omega
 rw[ei]at HC;generalize (S.H.AB p (2*v))=r at *;replace HC:=Qa HC;generalize 2*(v:Int)=q at HC HO;obtain⟨vq,vl,vm,hb,_⟩:=h.AU;unfold qk at hb;have c:=hb.cell;clear h hk hv ei;go_enter Tryz.func84,Tryz.ntmps84;go_wp2_with fail;refine (HO.out _).mono ?_
 rintro e w1 ⟨rfl,rfl⟩
 go_wp2_with fail;refine HC.out.mono ?_
 rintro e w2 ⟨rfl,hl⟩
 go_wp2_with fail;go_end0;exact⟨rfl,hl⟩
theorem qfx {S:Al}{i k:Nat}{p:Nat}(hp:(S.t i).log.reads[k]?=some p)(hc:vg i (S.t i).start (S.H.sec p)=true):S.BW i=true:=by
 unfold Al.BW;rw[List.any_eq_true];exact⟨p,Qe hp,hc⟩
theorem qhk {S:Al}{i:Nat}(h:∀ (k p:Nat),(S.t i).log.reads[k]?=some p->vg i (S.t i).start (S.H.sec p)=false):S.BW i=false:=by
 unfold Al.BW;rw[List.any_eq_false];intro p hp;obtain⟨k,hk⟩:=List.getElem?_of_mem hp;rw[h k p hk];simp
theorem Xy (h0:Ap w o y S) (hk:S.ok) (hi:i<S.Aw.length) (hl:(S.t i).live=true) (hw:¬((S.t i).log.holds=[]/\S.Av≠(i:Int)))
  {b1:Nat} (j1:Am w b1 #[ptr y.sb] 24) (t1:o b1=(y.l.id+1,0)) :
  Ab Tryz.prog 78 #[ptr (y.xb i),ptr b1] w fun e w'=>e=O (Aj #[I Z (S.AQ i).v,I Z (S.AQ i).e])/\Bl y (S.AQ i).S o w w':=by
 have hm:S.now<S.most:=by have:=RJ S.Aw i _ (Al.AV hi) hl;have:=hk.lv;omega
 have hx:=Al.AV hi;have HC1:Hid (S.BW i=true->S.AQ i=⟨S,0,141⟩):=fun hc=>by unfold Al.AQ;rw[if_neg hw,if_pos hc]
 have HC2:Hid (S.BW i=false->S.AQ i=⟨(S.BS i).tx i (S.t i).ended,(S.now:Int)+1,0⟩):=fun hc=>by unfold Al.AQ;rw[if_neg hw,if_neg (by rw[hc];simp)]
 have HCt:Hid (∀ (k p:Nat),(S.t i).log.reads[k]?=some p->vg i (S.t i).start (S.H.sec p)=true->S.BW i=true):=fun k p=>qfx
 have HCn:Hid ((∀ (k p:Nat),(S.t i).log.reads[k]?=some p->vg i (S.t i).start (S.H.sec p)=false)->S.BW i=false):=qhk;have HTR:Hid (S.BS i=if S.Av=(i:Int) then { S with now:=S.now+1,H:=S.H.B7 (S.t i).log.holds (S.now+1),Av:=-1,version:=S.now+1 } else { S with now:=S.now+1,H:=S.H.B7 (S.t i).log.holds (S.now+1) }):=rfl
 generalize S.AQ i=RC at *;obtain⟨x,hxe⟩:∃ x,x=S.t i:=⟨_,rfl⟩;rw[<-hxe]at hx hl hw HC2 HCt HCn HTR;have hwI:x.log.holds=[]->S.Av=(i:Int):=fun e=>Classical.byContradiction fun h=>hw ⟨e,h⟩
 have HTk:=Qa (fun (w':Aa) (o':Own) (h':Ap w' o' y S)=>LU h' hk hm)
 have hlf:=hk.Em hi;rw[<-hxe]at hlf;have hM2:S.now+1<=1099511627776:=by have:=hk.n2;omega
 have HV0:Hid ((S.now:Int)+1=((S.now+1:Nat):Int)):=by show (S.now:Int)+1=_;omega
 obtain⟨V,hV⟩:∃ V,V=S.now+1:=⟨_,rfl⟩;rw[<-hV]at HTk hM2 HTR HV0;clear hV hm;obtain⟨o1,ho1⟩:∃ o1,o1=ext o w.heap.size (y.l.id+1,0):=⟨_,rfl⟩;have h:=h0.retag (o':=o1) fun b hb=>by rw[ho1];exact qj hb
 have hS0:Stp (qh y) o o1 w w:=by rw[ho1];exact (Stp.refl _ o w).ext _ _ (Qk _)
 have hext:∀ n,w.heap.size<=n->ext o1 n (y.l.id+1,0)=o1:=fun n hn=>by rw[ho1];exact rj _ _ _ _ hn
 have u1:o1 b1=(y.l.id+1,0):=by rw[ho1,qj j1.lt];exact t1
 clear ho1 h0 t1;have hx':=h.Aw i x hx;obtain⟨vr,vk,vh,vu,hll⟩:=hx'.log;have HLH:=Qa (SN hll hlf.ok (y.l.id+1,0));have HLR:=Qa (fun w' (hw:Ae w.heap.size w w')=>WI (hll.below hw) hlf.ok (y.l.id+1,0))
 obtain⟨vt,jx,_⟩:=hx'.AU;unfold zg at jx;obtain⟨vq,vl,vm,jb,_⟩:=h.AU;unfold qk at jb;have hlen1:x.log.reads.length<=200:=by have:=hlf.ok.r;have:=hlf.ok.mr;omega
 have hlen2:x.log.holds.length<=200:=by have:=hlf.ok.h;have:=hlf.ok.mu;omega
 have H:=Qa h;have HK:=Qa hk;have HS:=Qa hS0;have HE:=Qa hext;have HX:=Qa hx;have HU1:=Qa u1;have HM2:=Qa hM2;obtain⟨rs,hrs⟩:∃ rs,rs=x.log.reads:=⟨_,rfl⟩;obtain⟨hs,hhs⟩:∃ hs,hs=x.log.holds:=⟨_,rfl⟩;rw[<-hrs]at HLR hlen1 HCt HCn;rw[<-hhs]at HLH hlen2 hwI HTR;have HWr:=Qa hwI;have HXE:=Qa hxe;clear h hk hS0 hext hx hx' hll hlf hrs hhs u1 hw hwI hl hi hM2 hxe;have c1:=j1.cell;have cx:=jx.cell;go_enter Tryz.func78,Tryz.ntmps78;go_wp2_with fail;refine HLH.out.mono ?_
 rintro e w1 ⟨v1,rfl,hr1,hb1⟩
 obtain⟨pa1,cp1,rfl⟩:=hr1.AY;rw[HE.out _ (Qk _)]at hr1;clear c1 cx;have c1:=(j1.below hb1 j1.lt).cell;have s1:=(j1.below hb1 j1.lt).lt;have cx:=(jx.below hb1 jx.lt).cell;have cb:=(jb.below hb1 jb.lt).cell;go_upto_region 2 with fail
 have hcase:((((hs.length:Nat):Int)==0)=true/\(S.Av==(i:Int))=true/\(S.Av != (i:Int))=false)\/(((hs.length:Nat):Int)==0)=false:=by
  by_cases hl0:hs.length=0
  ·have hh:S.Av=(i:Int):=HWr.out (List.eq_nil_of_length_eq_zero hl0)
   have hhb:(S.Av==(i:Int))=true:=by rw[beq_iff_eq];exact hh
   exact .inl ⟨by rw[beq_iff_eq];omega,hhb,by rw[bne,hhb];rfl⟩
  ·exact .inr (by rw[Qh];omega)
 rcases hcase with ⟨hlb,hhb,hhn⟩|hlb
 all_goals
  go_quiet (fail);obtain⟨W,hW⟩:∃ W:Aa,W=w1.drewN nq:=⟨_,rfl⟩;have hbW:Ae w.heap.size w W:=by rw[hW];exact zh hb1 _
  have hr2:Row W o1 (y.l.id+1,0) 131 2 (.slice pa1 hs.length cp1) hs.length (qg hs):=by rw[hW];exact hr1.below (zh (qc _) _)
  rw[<-hW];clear hW hr1 hb1 c1 s1 cx cb;have cx:=(jx.below hbW jx.lt).cell;go_wp2_with fail;refine (HLR.out _ hbW).mono ?_
  rintro e w2 ⟨v2,rfl,hrr,hb2⟩
  obtain⟨pa2,cp2,rfl⟩:=hrr.AY;rw[HE.out _ hbW.size]at hrr;have hr3:=hr2.below hb2;have hbW2:=qd hbW hb2;clear cx hr2 hb2 hbW;go_wp2_with fail;go_loopw [40] (fun ix wr=>∃ k:Nat,ix=I Z k/\k<=rs.length/\Ae w2.heap.size w2 wr/\∀ j p,j<k->rs[j]?=some p->vg i x.start (S.H.sec p)=false) (fun ix _=>rs.length-(intOf ix).toNat)
  case atStart=>exact⟨0,rfl,Nat.zero_le _,qc _,fun j p h=>by omega⟩
  case round =>
   obtain⟨k,rfl,hkl,hbr,hnc⟩:=hrel;have HNC:=Qa hnc;clear hnc;have hbw:=qd hbW2 hbr;have c1:=(j1.below hbw j1.lt).cell;by_cases hlt:k<rs.length
   ·have kI:(k:Int)<(rs.length:Int):=by omega
    have hgk:=Qb hlt;obtain⟨p,hp⟩:∃ p,p=rs[k]:=⟨_,rfl⟩;rw[<-hp]at hgk;rcases (hrr.below hbr).form with ⟨_,h0⟩|⟨g,cap,e,_⟩
    ·omega
    ·injection e with e1 _ e3
     subst e1 e3;have q0:wr.cell? ⟨g,k,none⟩=some (I Z p):=(hrr.below hbr).cells k _ (by rw[Qj,hgk];rfl)
     have HC:=(SD (H.out.below hbw) HK.out HX.out p);have HGK:=Qa hgk;clear hgk hp
     cases hcl:vg i x.start (S.H.sec p) with
     | false =>
      rw[hcl]at HC;have HC:=Qa HC;have HCL:=Qa hcl;clear hcl;go_wp2_with fail;refine HC.out.mono ?_
      rintro e w3 ⟨rfl,hb3⟩
      go_wp2_with fail;go_roundw
      case rel =>
       refine⟨k+1,by simp,by omega,qd hbr hb3,fun j q hj hq=>?_⟩
       by_cases e:j=k
       ·subst e;rw[HGK.out]at hq;injection hq with hq;rw[<-hq];exact HCL.out
       ·exact HNC.out j q (by omega) hq
      case measure=>simp[intOf];omega
     | true =>
      rw[hcl]at HC;have HC:=Qa HC;have HRC:=Qa (HC1.out (HCt.out k p HGK.out hcl));have HLf:=Qa (fun (W:Aa) (hb:Ae w.heap.size w W)=>show Bl y S o w W from ⟨o1,H.out.below hb,HS.out.trans (Stp.of_below hb)⟩)
      clear hcl;go_wp2_with fail;refine HC.out.mono ?_
      rintro e w3 ⟨rfl,hb3⟩
      go_wp2_with fail;go_ret2;rw[HRC.out];exact⟨rfl,HLf.out _ (qd hbw hb3)⟩
   ·obtain rfl:k=rs.length:=by omega
    have HRC:=Qa (HC2.out (HCn.out fun k p hp=>HNC.out k p (Qc.1 hp).1 hp))
    clear hlt;have HT:=Qa (HTk.out _ _ (H.out.below hbw));have hr4:=hr3.below hbr;have j4:=j1.below hbw j1.lt;have cb:=(jb.below hbw jb.lt).cell;go_wp2_with fail;refine HT.out.mono ?_
    rintro e w3 ⟨rfl,hS3,hs3⟩
    have hck:¬(fun t=>t=(y.l.id,10)) (y.l.id+1,0):=fun e=>by injection e with e _;omega
    have hr5:=hr4.Ao hs3 hck;have j5:=j4.Ao hs3 (by rw[HU1.out];exact hck)
    have hst5:Stp (qh y) o1 o1 w w3:=(Stp.of_below hbw).trans (hs3.mono fun t ht=>by rw[ht];rfl)
    have hS5:Ap w3 o1 y (({ S with now:=V }:Al).h (({ S with now:=V }:Al).H.B7 [] V)):=hS3;obtain⟨S1,hS1⟩:∃ S1:Al,S1={ S with now:=V }:=⟨_,rfl⟩;rw[<-hS1]at hS5;have HS1:=Qa hS1;clear hr4 j4 hS3 hs3 c1 cb hck hS1;go_wp2_with fail;go_loopw [59] (fun ix wr=>∃ (k:Nat) (o2:Own),ix=I Z k/\k<=hs.length/\Ap wr o2 y (S1.h (S1.H.B7 (hs.take k) V))/\Row wr o2 (y.l.id+1,0) 131 2 (.slice pa1 hs.length cp1) hs.length (qg hs)/\Am wr b1 #[ptr y.sb] 24/\o2 b1=(y.l.id+1,0)/\Stp (qh y) o1 o2 w wr) (fun ix _=>hs.length-(intOf ix).toNat)
    case atStart=>exact⟨0,o1,rfl,Nat.zero_le _,hS5,hr5,j5,HU1.out,hst5⟩
    case round =>
     clear hr5 j5 hst5 hS5;obtain⟨k,o2,rfl,hkh,hA,hr,jb1,ub,hst⟩:=hrel;obtain⟨wo,rfl⟩:∃ wo:Aa,wo=wr:=⟨_,rfl⟩;by_cases hlt:k<hs.length
     ·have kI:(k:Int)<(hs.length:Int):=by omega
      have hgk:=Qb hlt;obtain⟨z,hz⟩:∃ z,z=hs[k]:=⟨_,rfl⟩;rw[<-hz]at hgk;have htk:hs.take (k+1)=hs.take k++[z]:=by rw[hz];exact List.take_succ_eq_append_getElem hlt
      rcases hr.C1 with ⟨_,h0⟩|⟨g,cap,e,hn⟩
      ·have:=yh hs k z hgk
       rw[h0]at this;simp at this
      ·injection e with e1 _ e3
       subst e1 e3;obtain⟨r0,r1⟩:=hr.ET k z hgk;obtain⟨p,v⟩:=z;have q0:wo.cell? ⟨g,k*2,none⟩=some (I Z p):=r0;have q1:wo.cell? ⟨g,k*2+1,none⟩=some (I Z v):=r1;clear r0 r1
       have hok:(S1.h (S1.H.B7 (hs.take k) V)).H.wf/\Hid (∀ W,Ae wo.heap.size wo W->Ab Tryz.prog 84 #[ptr y.sb,I Z p,I Z V] W fun e w'=>e=O (Aj #[])/\Bl y (S1.h (S1.H.B7 (hs.take (k+1)) V)) o2 W w'):=by
        have hk9:(S.h (S.H.B7 (hs.take k) V)).ok:=Al.Ey _ HK.out HM2.out;have e9:S1.H.B7 (hs.take k) V=S.H.B7 (hs.take k) V:=by rw[HS1.out]
        refine⟨by rw[HS1.out];exact hk9.H,fun W hW=>?_⟩
        have e8:S1.H.B7 (hs.take (k+1)) V=((S1.H.B7 (hs.take k) V).AB p (2*V)).1:=by rw[htk];exact Xq _ _ _ _
        rw[e8];exact qic (hA.below hW) (by rw[HS1.out];exact hk9.H) p V HM2.out
       obtain⟨_,HR1⟩:=hok;obtain⟨l2,hl2⟩:∃ l2,l2=S1.h (S1.H.B7 (hs.take k) V):=⟨_,rfl⟩;rw[<-hl2]at hA;obtain⟨l3,hl3⟩:∃ l3,l3=S1.h (S1.H.B7 (hs.take (k+1)) V):=⟨_,rfl⟩;rw[<-hl3]at HR1;have HL3:=Qa hl3;clear hl2 hl3 htk hz hgk;have HR2:=Qa (HR1.out _ (qa (qc _) (.cells #[I Z p,I Z v] 131)));have jb2:=jb1.alloc (.cells #[I Z p,I Z v] 131);have hr1:=hr.below (qa (qc _) (.cells #[I Z p,I Z v] 131));have hst1:=hst.alloc (.cells #[I Z p,I Z v] 131);have c1:=jb1.cell 0;have s1:=jb1.lt;clear hA hr;go_wp2_with fail;refine HR2.out.mono ?_
       rintro e w5 ⟨rfl,o5,hS5,hs5⟩
       have hr5:=hr1.Ao hs5 (qm y);have j5:=jb2.Ao hs5 (by rw[ub];exact qm y)
       have ub5:o5 b1=(y.l.id+1,0):=(hs5.tags _ jb2.lt).trans ub;have hst5:=hst1.trans hs5;go_wp2_with fail;go_roundw
       case rel=>exact⟨k+1,o5,by simp,by omega,by rw[<-HL3.out];exact hS5,hr5,j5,ub5,hst5⟩
       case measure=>simp[intOf];omega
     ·obtain rfl:k=hs.length:=by omega
      rw[List.take_length]at hA;clear hlt
      try clear hhb hhn
      have hx6:(S1.h (S1.H.B7 hs V)).Aw[i]?=some x:=by show S1.Aw[i]?=_;rw[HS1.out];exact HX.out
      have hho:(S1.h (S1.H.B7 hs V)).Av=S.Av:=by show S1.Av=_;rw[HS1.out]
      obtain⟨vq6,vl6,vm6,jbb,hrw⟩:=hA.AU;have jbb0:=jbb;unfold qk at jbb;rw[hho]at jbb;obtain⟨vt6,jx6,_⟩:=(hA.Aw i x hx6).AU;unfold zg at jx6;have cx:=jx6.cell;have cb:=jbb.cell;have zb:=jbb.free;have sb:=jbb.lt;have c1:=jb1.cell 0;have s1:=jb1.lt;by_cases hh:S.Av=(i:Int)
      ·have hhb:(S.Av==(i:Int))=true:=by rw[beq_iff_eq];exact hh
       have hos:o2 y.sb=(y.l.id,11):=hA.os;have nsb:b1≠y.sb:=fun e=>by rw[e,hos]at ub;injection ub with h1 _;omega
       have e1:RC.S=({ S1.h (S1.H.B7 hs V) with Av:=-1,version:=V }:Al).tx i x.ended:=by
        rw[HRC.out];show (S.BS i).tx i x.ended=_;rw[HTR.out,if_pos hh,HS1.out];rfl
       have HE1:=Qa e1
       have hfin:=Qa (fun (W:Aa) (hb:Ae wo.heap.size wo W) =>
        have hk7:Stp (fun t=>t=(y.l.id,11)) o2 o2 wo ((W.setCell ⟨y.sb,6,none⟩ (I Z (-1))).setCell ⟨y.sb,7,none⟩ (I Z V)):=((Stp.of_below hb).setCell (by show o2 y.sb=_;exact hos) _).setCell (by show o2 y.sb=_;exact hos) _
        have hs7:Stp (jr y) o2 o2 wo ((W.setCell ⟨y.sb,6,none⟩ (I Z (-1))).setCell ⟨y.sb,7,none⟩ (I Z V)):=hk7.mono fun t ht=>by rw[ht];exact⟨rfl,.inl rfl⟩
        have hS7:Ap ((W.setCell ⟨y.sb,6,none⟩ (I Z (-1))).setCell ⟨y.sb,7,none⟩ (I Z V)) o2 y { S1.h (S1.H.B7 hs V) with Av:=-1,version:=V }:=
         hA.own rfl rfl rfl rfl rfl (((jbb0.below hb jbb0.lt).set 6 (I Z (-1))).set 7 (I Z V)) ((⟨hrw.q,hrw.l,hrw.m⟩:Cf wo o2 y.l.id { S1.h (S1.H.B7 hs V) with Av:=-1,version:=V } vq6 vl6 vm6).Ao hk7 fun j h1 h2=>by simp;omega) hs7
        And.intro hs7 hS7)
       clear hh hos e1;go_upto_region 17 with fail;go_quiet (fail);have HF:=Qa (hfin.out (wo.drewN nq) (zh (qc _) _));have HEn:=Qa (Pn HF.out.2 (i:=i) (x:=x) hx6);go_wp2_with fail;refine HEn.out.mono ?_
       rintro e w6 ⟨rfl,o6,hS6,hs6⟩
       go_wp2_with fail;go_ret2;refine⟨by rw[HRC.out,HV0.out];rfl,o6,?_,HS.out.trans (hst.trans ((HF.out.1.mono fun _=>uy).trans hs6))⟩
       rw[HE1.out];exact hS6
      ·have hhb:(S.Av==(i:Int))=false:=by rw[Qh];exact hh
       have e1:RC.S=(S1.h (S1.H.B7 hs V)).tx i x.ended:=by
        rw[HRC.out];show (S.BS i).tx i x.ended=_;rw[HTR.out,if_neg hh,HS1.out];rfl
       have HE1:=Qa e1;clear e1;go_upto_region 17 with fail;go_quiet (fail);have HEn:=Qa (Pn (hA.below (zh (qc _) nq)) (i:=i) (x:=x) hx6);go_wp2_with fail;refine HEn.out.mono ?_
       rintro e w6 ⟨rfl,o6,hS6,hs6⟩
       go_wp2_with fail;go_ret2;refine⟨by rw[HRC.out,HV0.out];rfl,o6,?_,HS.out.trans (hst.trans ((Stp.of_below (zh (qc _) _)).trans hs6))⟩
       rw[HE1.out];exact hS6
end
section
variable {w w' : Aa} {o o' : Own} {y : A3} {S : Al} {i : Nat}
def Al.take (S:Al)(i:Nat):Bv:=S.AH i (S.B9 i)
theorem qil (h:Ap w o y S)(hi:i<S.Aw.length)(hn:S.Av≠-1/\S.Av≠(i:Int)\/(S.t i).start<S.version){b1:Nat}(j1:Am w b1 #[ptr y.sb] 24) :
  Ab Tryz.prog 122 #[ptr (y.xb i),ptr b1] w fun e w'=>e=O (Aj #[I Z 0,I Z 141])/\Ae w.heap.size w w':=by
 obtain⟨vt,jx,_⟩:=(h.Aw i _ (Al.AV hi)).AU;unfold zg at jx;obtain⟨vq,vl,vm,jb,_⟩:=h.AU;unfold qk at jb;have c1:=j1.cell;have cx:=jx.cell;have c:=jb.cell;have hcase:((S.Av != -1)=true/\(S.Av != (i:Int))=true)\/((S.Av != -1)=false/\((S.t i).start:Int)<(S.version:Int))\/((S.Av != -1)=true/\(S.Av != (i:Int))=false/\((S.t i).start:Int)<(S.version:Int)):=by
  by_cases e1:S.Av=-1
  ·right;left
   exact⟨by rw[e1];rfl,by omega⟩
  ·have b1:(S.Av != -1)=true:=by rw[bne_iff_ne];exact e1
   by_cases e2:S.Av=(i:Int)
   ·right;right
    exact⟨b1,by rw[e2];simp,by omega⟩
   ·exact .inl ⟨b1,by rw[bne_iff_ne];exact e2⟩
 clear h hi hn;generalize S.Av=hd at *;generalize S.t i=x at *;rcases hcase with ⟨hb1,hb2⟩|⟨hb1,hb2⟩|⟨hb1,hb2,hb3⟩
 all_goals
  go_enter Tryz.func122,Tryz.ntmps122;go_upto_region 1 with fail;go_quiet (fail);go_wp2_with fail;go_ret2;exact⟨rfl,zh (qc w) _⟩
theorem Ap.hold (h:Ap w o y S)(i:Nat){W:Aa}(hb:Ae w.heap.size w W) :
  Ap (W.setCell ⟨y.sb,6,none⟩ (I Z i)) o y { S with Av:=(i:Int) }/\Stp (jr y) o o w (W.setCell ⟨y.sb,6,none⟩ (I Z i)):=by
 obtain⟨vq,vl,vm,jb,hrw⟩:=h.AU;have hk:Stp (fun t=>t=(y.l.id,11)) o o w (W.setCell ⟨y.sb,6,none⟩ (I Z i)):=(Stp.of_below hb).setCell (by show o y.sb=_;exact h.os) _
 have hs:Stp (jr y) o o w (W.setCell ⟨y.sb,6,none⟩ (I Z i)):=hk.mono fun t ht=>by rw[ht];exact⟨rfl,.inl rfl⟩
 exact⟨h.own (S':={ S with Av:=(i:Int) }) rfl rfl rfl rfl rfl ((jb.below hb jb.lt).set 6 (I Z i)) ((⟨hrw.q,hrw.l,hrw.m⟩:Cf w o y.l.id { S with Av:=(i:Int) } vq vl vm).Ao hk fun j h1 h2=>by simp;omega) hs,hs⟩
theorem Row.at2 {e:TypeId}{t:Tag}{l:List (Nat×Nat)}{g n cap:Nat}(h:Row w o t e 2 (Ah (some ⟨g,0,none⟩) n cap) n (qg l))(i:Nat)(x:Nat×Nat)(hx:l[i]?=some x) :
  w.cell? ⟨g,2*i,none⟩=some (nv x.1)/\w.cell? ⟨g,2*i+1,none⟩=some (nv x.2):=by
 obtain⟨h1,h2⟩:=yh l i x hx;have e1:=h.own.cells (g:=g) rfl _ _ h1;have e2:=h.own.cells (g:=g) rfl _ _ h2;simp only[Addr.add_lit,Nat.zero_add]at e1 e2;exact⟨e1,e2⟩
theorem Ur (h:Ap w o y S)(hi:i<S.Aw.length)(hn:S.Av=-1\/S.Av=(i:Int))(hv:S.version<=(S.t i).start)(hq:S.queue=[]\/∃ z l,S.queue=z::l/\(S.t i).seen<=z.2)
  {b1:Nat}(j1:Am w b1 #[ptr y.sb] 24)(t1:o b1=(y.l.id+1,0)) :
  Ab Tryz.prog 122 #[ptr (y.xb i),ptr b1] w fun e w'=>e=O (Aj #[I Z 0,I Z 0])/\Bl y { S with Av:=(i:Int) } o w w':=by
 have hfin:=Qa (fun (W:Aa)(hb:Ae w.heap.size w W)=>h.hold i hb)
 obtain⟨vt,jx,_⟩:=(h.Aw i _ (Al.AV hi)).AU;unfold zg at jx;obtain⟨vq,vl,vm,jb,hrw⟩:=h.AU;have hrq:=hrw.q;unfold qk at jb;have hos:=h.os;have n1:b1≠y.sb:=fun e=>by rw[e,hos]at t1;injection t1 with t1 _;omega
 have nx:y.xb i≠y.sb:=fun e=>by have h1:=(h.Aw i _ (Al.AV hi)).ob;rw[e,hos]at h1;injection h1 with _ h1;omega
 have hvI:¬((S.t i).start:Int)<(S.version:Int):=by omega
 have c1:=j1.cell;have cx:=jx.cell;obtain⟨pa,cp,rfl⟩:=hrq.AY
 have hq2:((((S.queue.length:Nat):Int)==0)=true)\/∃ g z,pa=some ⟨g,0,none⟩/\g≠y.sb/\(((S.queue.length:Nat):Int)==0)=false/\(0:Int)<((S.queue.length:Nat):Int)/\w.cell? ⟨g,1,none⟩=some (I Z (z:Nat))/\((S.t i).seen:Int)<=(z:Int):=by
  rcases hq with h0|⟨z,l,h0,hz⟩
  ·exact .inl (by rw[h0];rfl)
  ·right
   rw[h0]at hrq ⊢;rcases hrq.C1 with ⟨_,hh⟩|⟨g,cap,e,hn⟩
   ·simp[qg]at hh
   ·injection e with e1 _ e3
    subst e1 e3;obtain⟨_,r1⟩:=hrq.at2 0 z rfl;exact⟨g,z.2,rfl,fun e=>by have:=hrq.El;rw[e,hos]at this;injection this with _ this;omega,by rw[Qh];simp;omega,by simp,r1,by omega⟩
 clear h hi hos hv hq hrq hrw t1;generalize S.t i=x at *;generalize S.queue.length=ql at *;rcases hn with hn|hn
 all_goals
  rw[hn]at jb;have c:=jb.cell;have z:=jb.free;have s:=jb.lt;rcases hq2 with hq0|⟨g,zq,rfl,ng,hq0,hqp,cq,hzq⟩
  all_goals
   go_enter Tryz.func122,Tryz.ntmps122;go_upto_region 1 with fail;go_quiet (fail);go_upto_region 3 with fail;go_region_with (fail)
   all_goals
    go_upto_region 4 with fail;go_quiet (fail);go_wp2_with fail;go_ret2;obtain⟨hS,hs⟩:=hfin.out _ (zh (qc w) _);exact⟨rfl,o,hS.below (zh (qc _) _),(hs.trans (Stp.of_below (zh (qc _) _))).mono fun _=>uy⟩
end
def GO (q:List (Nat×Nat))(ps:List Nat)(k:Nat):List Nat:=ps.take k++(q.map (·.1)).drop k
theorem Vo:∀ q:List (Nat×Nat),ki q (q.map (·.1))=q
 | []=>rfl
 | z::q=>by simp only[List.map_cons,ki,List.headD_cons,List.tail_cons,Vo q]
theorem TC:∀ (q:List (Nat×Nat))(ps:List Nat),q.length<=ps.length->ki q (ps.take q.length)=ki q ps
 | [],_,_=>rfl
 | z::q,[],h=>by simp at h
 | z::q,p::ps,h=>by simp only[Qv,List.take_succ_cons,ki,List.headD_cons,List.tail_cons,TC q ps (by simpa using h)]
theorem Tt {q:List (Nat×Nat)}{ps:List Nat}(h:q.length<=ps.length){k:Nat}(hk:k<=q.length):(GO q ps k).length=q.length:=by
 simp only[GO,Qd,Qp,List.length_drop,Qg];omega
theorem Lm {q:List (Nat×Nat)}{ps:List Nat}(_h:q.length<=ps.length){k x:Nat}(hk:k<q.length)(hx:ps[k]?=some x):(GO q ps k).set k x=GO q ps (k+1):=by
 obtain⟨hkp,hxe⟩:=Qc.1 hx;have e1:(ps.take k).length=k:=by rw[Qp];omega
 have e2:(q.map (·.1)).drop k=(q.map (·.1))[k]'(by simpa using hk)::(q.map (·.1)).drop (k+1):=List.drop_eq_getElem_cons (by simpa using hk)
 unfold GO;rw[List.set_append_right _ _ (by omega),e1,Nat.sub_self,e2,List.set_cons_zero,List.take_succ_eq_append_getElem hkp,hxe,List.append_assoc]
 rfl
section
variable {w : Aa} {o : Own} {t : Tag}
theorem SV {q:List (Nat×Nat)}{ps:List Nat}{v:Ac}(hr:Row w o t 117 2 v q.length (qg q))(hl:q.length<=ps.length)(hq:q.length<=1099511627776){g off c:Nat}(hc:ps.length<=c)
  (hg:∀ (j x:Nat),ps[j]?=some x->w.cell? ⟨g,off+j,none⟩=some (nv x))(hlt:g<w.heap.size)(ng:o g≠t) :
  Ab Tryz.prog 64 #[v,Ah (some ⟨g,off,none⟩) ps.length c] w fun e w'=>e=O (.slice (if c=q.length then some ⟨g,off,none⟩ else some ⟨g,off+q.length,none⟩) (ps.length-q.length) (c-q.length)) /\
   Row w' o t 117 2 v q.length (qg (ki q ps))/\Stp (fun u=>u=t) o o w w':=by
 obtain⟨pa,cp,rfl⟩:=hr.AY;have HR:=Qa hr;have HL:=Qa hl;have HQ:=Qa hq;have HG:=Qa (fun w2 (hs:Stp (fun u=>u=t) o o w w2)(j x:Nat)(hx:ps[j]?=some x)=>show w2.cell? ⟨g,off+j,none⟩=some (nv x) from by
  have:=hs.block g hlt (fun h=>ng h)
  rw[<-hg j x hx];simp only[World.cell?,this])
 obtain⟨n,hn⟩:∃ n,n=q.length:=⟨_,rfl⟩;obtain⟨m,hm⟩:∃ m,m=ps.length:=⟨_,rfl⟩;have HN:=Qa hn;have HM:=Qa hm;rw[<-hn]at HR HL HQ ⊢;rw[<-hm]at HL hc ⊢;have i1:(n:Int)<=(m:Int):=by have:=HL.out;omega
 have i2:(m:Int)<=(c:Int):=by omega
 have i3:(0:Int)<=(n:Int):=by omega
 clear hr hl hq hg hn hm;go_enter Tryz.func64,Tryz.ntmps64;go_wp2_with fail;go_loopw [5,8] (fun _ ix wr=>∃ k:Nat,ix=I Z k/\k<=n/\Row wr o t 117 2 (.slice pa n cp) n (qg (ki q (GO q ps k)))/\Stp (fun u=>u=t) o o w wr) (fun _ ix _=>n-(intOf ix).toNat)
 case atStart=>exact⟨0,rfl,Nat.zero_le _,by rw[show GO q ps 0=q.map (·.1) from rfl,Vo];exact HR.out,Stp.refl _ _ _⟩
 case round =>
  obtain⟨k,rfl,hkn,hrk,hs⟩:=hrel;by_cases hlt':k<n
  ·have hkI:(k:Int)<(n:Int):=by omega
   have hkM:(k:Int)<(m:Int):=by omega
   obtain⟨hw1,hw2⟩:=_root_.Go.Proofs.YteehgedabdchcaaGreat.u5 k n hlt' HQ.out;obtain⟨x,hx⟩:∃ x,ps[k]?=some x:=⟨_,Qb (by rw[<-HM.out];have:=HL.out;omega)⟩
   have q0:wr.cell? ⟨g,off+k,none⟩=some (I Z x):=HG.out _ hs k x hx;have CY:=SK q (GO q ps k) k x (by rw[<-HN.out];exact hlt') (by rw[Tt (by rw[<-HN.out,<-HM.out];exact HL.out) (by rw[<-HN.out];omega)];exact Qk _)
   rw[Lm (by rw[<-HN.out,<-HM.out];exact HL.out) (by rw[<-HN.out];exact hlt') hx]at CY
   have hkl:(GO q ps k)[k]?≠none:=by
    rw[ne_eq,List.getElem?_eq_none_iff,Tt (by rw[<-HN.out,<-HM.out];exact HL.out) (by rw[<-HN.out];omega),<-HN.out];omega
   obtain⟨u,hu⟩:=Option.ne_none_iff_exists'.1 hkl;rcases hrk.C1 with ⟨_,h0⟩|⟨g2,cap,e,hcap⟩
   ·have h2:=CY.2
    rw[h0,hu]at h2;simp at h2
   ·injection e with e1 _ e3
    subst e1 e3;have hp2:=hrk.CP (k*2) (I Z x);rw[show (Value.int .i64 (x:Int))=nv x from rfl,<-CY.1]at hp2;have z2:=hrk.free (k*2);have hog:=hrk.El;have hb2:=hrk.blt;have q2:∃ u,wr.cell? ⟨g2,k*2,none⟩=some u:=by
     have h3:=hrk.own.cells (g:=g2) rfl (k*2) (nv u) (by rw[CY.2,hu];rfl)
     simp only[Addr.add_lit,Nat.zero_add]at h3;exact⟨_,h3⟩
    obtain⟨u,q2⟩:=q2;have HP:=Qa hp2;have HS2:=Qa (hs.setCell (a:=⟨g2,k*2,none⟩) (by show o g2=t;exact hog) (I Z x))
    clear hrk hs CY hx hp2 hog hkl hu;go_wp2_with fail;go_roundw
    case rel=>exact⟨k+1,by simp,by omega,HP.out,HS2.out⟩
    case measure=>simp[intOf];omega
  ·obtain rfl:k=n:=by omega
   have e2:GO q ps k=ps.take k:=by unfold GO;rw[List.drop_eq_nil_of_le (by rw[Qg,<-HN.out];exact Qk _),List.append_nil]
   rw[e2,HN.out,TC q ps (by rw[<-HN.out,<-HM.out];exact HL.out),<-HN.out]at hrk
   go_wp2_with fail
   all_goals
    go_ret;exact⟨rfl,hrk,hs⟩
end
end
end Go.Proofs.YteehgedabdchcaaGreat
