import Derived.Test.YtgndecmkhhdkjaaGreatKal
import Derived.Defers
import Derived.Laws.CopyRow
import Derived.Shelf.Spec.SlicesGrow
import Derived.Sort.CutIn
import Derived.Stop.RegionWithIn
import Derived.Conc.MuLone
import Derived.Laws.IdiomCopy
import Derived.Laws.MakeOwn
set_option linter.all false
set_option maxRecDepth 1000000
set_option maxHeartbeats 0
open Go renaming World->Aa,Calls->Ab,Value->Ac
open Go.RowKit renaming Below->Ae
open Go.Value renaming int->I,pointer->Ah,slice->Ai,tuple->Ak,agg->Al
open Go.IntKind renaming i64->Z
open Go.Ending renaming returned->O
open Go.Builtin renaming zeroCells->Ad,clear_->aO,append_->bK,copy_->bM
open List renaming setIfInBounds_toArray->Aj,replicate->aa,set_cons_zero->ag,nil_append->ay,set_cons_succ->aA,eq_nil_of_length_eq_zero->aB,take_succ_eq_append_getElem->aF,range->aG,append_nil->aH,take_append_of_le_length->aI,take_length->aL,map_cons->aP,replicate_succ->aR,size_toArray->aS,append_assoc->aT,length_nil->aU,headD_cons->aW,tail_cons->aY,mem_cons->aZ,map_nil->bG
open Nat renaming zero_le->af,zero_add->ai,add_zero->bF,zero_mul->bH
open Go.World renaming putObj_heap_other->aj,cell?_setCell_same->aM,frozen?->aQ
open Go.Value renaming int->aC,ownBlock->aX
open Go.Instr renaming makeFunc->aD
open Int renaming natCast_nonneg->aJ,natCast_add->aV,not_lt->bJ
open Array renaming getD_eq_getD_getElem?->aK
open And renaming intro->aN
open Go.Proofs.Tryz
open Go.Proofs.Tryz renaming prog->ANa
open Go.Obj renaming cells->ANb
namespace Go.Proofs.YtgndecmkhhdkjaaGreat
section
open Hp
structure Mv (i:Nat)(S S':Am):Prop where
 len:S'.Au.length=S.Au.length
 GK:∀ j,j≠i->S'.t j=S.t j
 lv:(S'.t i).live=(S.t i).live
 st:(S'.t i).start=(S.t i).start
 se:(S'.t i).seen=(S.t i).seen
 now:S'.now=S.now
 most:S'.most=S.most
 next:S'.next=S.next
 came:S'.came=S.came
 lost:S'.lost=S.lost
 ph:S'.ph=S.ph
 EO:S'.version=S.version
structure Ed (i:Nat)(S S':Am):Prop where
 len:S'.Au.length=S.Au.length
 GK:∀ j,j≠i->S'.t j=S.t j
 lv:S'.t i=(S.t i).ended\/∃ x:Tx,S'.t i=x.ended
 now:S'.now=S.now
 most:S'.most=S.most
 next:S'.next=S.next
 came:S'.came=S.came
 lost:S'.lost=S.lost
 ph:S'.ph=S.ph
 EO:S'.version=S.version
section
variable {i : Nat} {S S' S2 : Am}
def Mv.refl (i:Nat)(S:Am):Mv i S S:=⟨rfl,fun _ _=>rfl,rfl,rfl,rfl,rfl,rfl,rfl,rfl,rfl,rfl,rfl⟩
def Mv.trans (a:Mv i S S')(b:Mv i S' S2):Mv i S S2:=
 ⟨b.len.trans a.len,fun j h=>(b.GK j h).trans (a.GK j h),b.lv.trans a.lv,b.st.trans a.st,b.se.trans a.se,b.now.trans a.now,b.most.trans a.most,b.next.trans a.next,b.came.trans a.came,b.lost.trans a.lost,b.ph.trans a.ph,b.EO.trans a.EO⟩
def Mv.heap (i:Nat)(S:Am)(H:Hp):Mv i S { S with H:=H }:=⟨rfl,fun _ _=>rfl,rfl,rfl,rfl,rfl,rfl,rfl,rfl,rfl,rfl,rfl⟩
def Mv.BS (i:Nat)(S:Am)(z:Int)(q:List (Nat×Nat)):Mv i S { S with Aw:=z,queue:=q }:=⟨rfl,fun _ _=>rfl,rfl,rfl,rfl,rfl,rfl,rfl,rfl,rfl,rfl,rfl⟩
def Sd (S:Am)(i:Nat)(x:Tx):(S.tx i x).t i=if i<S.Au.length then x else S.t i:=by
 by_cases h:i<S.Au.length
 ·rw[if_pos h,Am.CZ h]
 ·rw[if_neg h];unfold Am.t Am.tx;simp only[Qi];rw[Za (by rw[Qq];omega),Za (by omega)]
def Mv.tx (i:Nat)(S:Am)(x:Tx)(h1:x.live=(S.t i).live)(h2:x.start=(S.t i).start)(h3:x.seen=(S.t i).seen):Mv i S (S.tx i x):=by
 refine⟨Am.BA _ _ _,fun j h=>Am.FC S (fun e=>h e.symm) x,?_,?_,?_,rfl,rfl,rfl,rfl,rfl,rfl,rfl⟩
 all_goals
  rw[Sd];split
  ·assumption
  ·rfl
def Mv.look (i:Nat)(S:Am)(p:Nat):Mv i S (S.AH i p).1:=by
 unfold Am.AH;split
 ·exact Mv.refl _ _
 ·split
  ·exact Mv.refl _ _
  ·split
   ·exact Mv.refl _ _
   ·exact Mv.tx _ _ _ rfl rfl rfl
def Mv.fields (i:Nat)(S:Am)(p:Nat):Mv i S (S.Aq i p).1:=Mv.look i S p
def Mv.CO (i:Nat)(S:Am)(u:Un):Mv i S (S.Cq i u).1:=by
 unfold Am.Cq;split
 ·exact Mv.tx _ _ _ rfl rfl rfl
 ·exact Mv.refl _ _
def Mv.Ns (i:Nat)(S:Am)(p v:Nat):Mv i S (S.Ba i p v).1:=by
 unfold Am.Ba;split
 ·exact Mv.tx _ _ _ rfl rfl rfl
 ·exact Mv.refl _ _
def Mv.own (i:Nat)(S:Am)(p:Nat):Mv i S (S.Eb i p):=Mv.heap _ _ _
def Mv.hold (i:Nat)(S:Am)(p:Nat):Mv i S (S.A5 i p).1:=by
 unfold Am.A5;split
 ·exact Mv.refl _ _
 ·split
  ·exact (Mv.Ns _ _ _ _).trans (Mv.own _ _ _)
  ·exact Mv.refl _ _
def Mv.lay (i:Nat)(S:Am)(s:BQ):Mv i S (S.Bm i s).1:=by
 unfold Am.Bm;split
 ·exact Mv.refl _ _
 ·split
  ·exact ((Mv.heap _ _ _).trans (Mv.Ns _ _ _ _)).trans (Mv.own _ _ _)
  ·exact Mv.heap _ _ _
def Mv.B9 (i:Nat)(S:Am)(p:Nat)(u:Un)(set:Hp->Hp×Nat):Mv i S (S.B9 i p u set).S:=by
 unfold Am.B9;split
 ·exact Mv.hold _ _ _
 ·split
  ·exact (Mv.hold _ _ _).trans (Mv.CO _ _ _)
  ·exact ((Mv.hold _ _ _).trans (Mv.CO _ _ _)).trans (Mv.heap _ _ _)
def Mv.Ce (i:Nat)(S:Am)(p j:Nat):Mv i S (S.Ce i p j).S:=by
 unfold Am.Ce;split<;>exact Mv.fields _ _ _
def Mv.CK (i:Nat)(S:Am)(p j:Nat):Mv i S (S.CK i p j).S:=by
 unfold Am.CK;split
 ·exact Mv.fields _ _ _
 ·exact (Mv.fields _ _ _).trans (Mv.heap _ _ _)
def Mv.Bs (i:Nat)(S:Am)(p j:Nat)(v:Int):Mv i S (S.Bs i p j v).S:=by
 unfold Am.Bs;split
 ·exact Mv.fields _ _ _
 ·split
  ·exact Mv.fields _ _ _
  ·exact (Mv.fields _ _ _).trans (Mv.B9 _ _ _ _ _)
def Mv.CM (i:Nat)(S:Am)(p j q:Nat):Mv i S (S.CM i p j q).S:=by
 unfold Am.CM;split
 ·exact Mv.refl _ _
 ·unfold Am.DC
  split
  ·exact Mv.fields _ _ _
  ·split
   ·exact (Mv.fields _ _ _).trans (Mv.heap _ _ _)
   ·exact ((Mv.fields _ _ _).trans (Mv.heap _ _ _)).trans (Mv.B9 _ _ _ _ _)
def Mv.B4 (i:Nat)(S:Am)(p:Nat):Mv i S (S.B4 i p).S:=by
 unfold Am.B4;split
 ·exact Mv.look _ _ _
 ·exact (Mv.look _ _ _).trans (Mv.B9 _ _ _ _ _)
def Mv.AR (i:Nat)(S:Am)(s:BQ):Mv i S (S.AR i s).S:=Mv.lay i S s
def Mv.BJ (i:Nat)(S:Am)(q:Nat):Mv i S (S.BJ i q).S:=by
 unfold Am.BJ;split
 ·exact Mv.refl _ _
 ·split
  ·exact Mv.refl _ _
  ·split
   ·exact Mv.lay _ _ _
   ·exact (Mv.lay _ _ _).trans (Mv.heap _ _ _)
def Mv.Df (i:Nat)(S:Am)(q:Nat):Mv i S (S.Df i q).S:=by
 unfold Am.Df;split
 ·exact Mv.refl _ _
 ·split<;>exact Mv.tx _ _ _ rfl rfl rfl
def Mv.BZ (i:Nat)(S:Am)(p:Nat):Mv i S (S.BZ i p).S:=by
 unfold Am.BZ;split
 ·exact Mv.look _ _ _
 ·split
  ·exact Mv.look _ _ _
  ·split
   ·exact (Mv.look _ _ _).trans (Mv.heap _ _ _)
   ·exact ((Mv.look _ _ _).trans (Mv.heap _ _ _)).trans (Mv.Df _ _ _)
def Mv.Bp (i:Nat)(S:Am):Mv i S (S.Bp i).S:=by
 unfold Am.Bp;split
 ·exact Mv.refl _ _
 ·split
  ·exact Mv.BS _ _ _ S.queue
  ·rename_i z l _
   split
   ·exact Mv.BS _ _ _ S.queue
   ·exact (Mv.BS i S i l).trans (Mv.tx _ _ _ rfl rfl rfl)
def Mv.BO (i:Nat)(S:Am):Mv i S (S.BO i):=by
 unfold Am.BO;split
 ·exact Mv.BS _ _ _ _
 ·exact Mv.refl _ _
def Ed.abort (hi:i<S.Au.length):Ed i S (S.abort i):=by
 unfold Am.abort;have m:Mv i S ((S.h ((S.H.Bi (S.t i).log.Az).BU (S.t i).log.holds)).BO i):=(Mv.heap _ _ _).trans (Mv.BO _ _);refine⟨(Am.BA _ _ _).trans m.len,fun j h=>(Am.FC _ (fun e=>h e.symm) _).trans (m.GK j h),.inr ⟨S.t i,?_⟩,m.now,m.most,m.next,m.came,m.lost,m.ph,m.EO⟩
 rw[Am.CZ (by rw[m.len];exact hi)]
def Ed.Rp (m:Mv i S S')(e:Ed i S' S2):Ed i S S2:=by
 refine⟨e.len.trans m.len,fun j h=>(e.GK j h).trans (m.GK j h),.inr ?_,e.now.trans m.now,e.most.trans m.most,e.next.trans m.next,e.came.trans m.came,e.lost.trans m.lost,e.ph.trans m.ph,e.EO.trans m.EO⟩
 rcases e.lv with h|h
 ·exact⟨_,h⟩
 ·exact h
def Ed.dead (e:Ed i S S'):(S'.t i).live=false:=by
 rcases e.lv with h|⟨x,h⟩
 ·rw[h];rfl
 ·rw[h];rfl
def N6 {r:B2}(m:Mv i S r.S)(hi:i<S.Au.length):(Kk r.e=true/\Ed i S (r.fin i).S/\(r.fin i).v=0/\(r.fin i).e=r.e)\/(Kk r.e=false/\Mv i S (r.fin i).S/\(r.fin i).e=r.e):=by
 unfold B2.fin;split
 ·rename_i h;exact .inl ⟨h,Ed.Rp m (Ed.abort (by rw[m.len];exact hi)),rfl,rfl⟩
 ·rename_i h
  refine .inr ⟨by simpa using h,?_,?_⟩
  ·split<;>exact m
  ·split
   ·rfl
   ·rfl
def Yq {r:B2}(m:Mv i S r.S)(hi:i<S.Au.length)(hl:(S.t i).live=true):(Kk r.e=true/\Ed i S (S.AF i r).S/\(S.AF i r).v=0/\(S.AF i r).e=r.e)\/(Kk r.e=false/\Mv i S (S.AF i r).S/\(S.AF i r).e=r.e):=by
 unfold Am.AF;rw[if_pos hl];exact N6 m hi
end
end
section
open Go.RowKit Hp
attribute [local go_sem ↓] Go.wp_at_zero Go.wp_at_succ
section
variable {w : Aa}
def Hr (be bs bx bv:Nat)(err:Int)(he:w.cell? ⟨be,0,none⟩=some (I Z err))(h0:err=0) :
  CallsD ANa 193 #[ptr be,ptr bs,ptr bx,ptr bv] .returning w fun e u' w'=>u'=.returning/\(e=O (Ak #[])/\w'=w):=by
 subst h0;go_enter_d func193,ntmps193;go_wp2_with fail;go_end0;exact⟨rfl,rfl⟩
def qqu (be bs bx bv:Nat)(err v:Int)(tv:TypeId)(he:w.cell? ⟨be,0,none⟩=some (I Z err))(hv:An w bv #[v] tv)(h0:err≠0)(h1:err≠141)(h2:err≠130)(h3:err≠100) :
  CallsD ANa 193 #[ptr be,ptr bs,ptr bx,ptr bv] .returning w fun e u' w'=>u'=.returning/\(e=O (Ak #[])/\w'=w.setCell ⟨bv,0,none⟩ (I Z 0)):=by
 have c:=hv.cell 0;have z:=hv.free 0;have s:=hv.lt;go_enter_d func193,ntmps193;go_wp2_with fail;go_end0;exact⟨rfl,rfl⟩
end
section
variable {w : Aa} {o : Own} {y : Bl} {S : Am} {x : Tx} {i : Nat}
def LL (g:Nat) (eF:List Ac) (h0:Av w o y S) (hk:S.ok) (hx:S.Au[i]?=some x) (hl:x.live=true) (eg:∀ args w,(callFunc g args).run ANa w=.ok (.enter g args) w)
  (T:Tag->Prop) (hT:¬T (y.l.id+1,0)) (S':Am) (v:Int)
  (hdo:∀ w1 o1,Ae w w w1->(∀ b,b<w.1.size->o1 b=o b)->Av w1 o1 y S->Ab ANa g (ptr (y.xb i)::eF).toArray w1 fun e w'=>e=O (Ak #[v,()])/\∃ o',Av w' o' y S'/\Stp T o1 o' w1 w') :
  Ab ANa 136 #[ptr y.sb,i,.func (.func g) #[] eF.toArray] w fun e w'=>e=O (Ak #[v,()])/\∃ o',Av w' o' y S'/\Stp T o o' w w':=by
 have fH:∀ (fn:Fn) (first cap:Array Ac) (w:Aa),(aD fn first cap).run ANa w=.ok (.func fn first cap) w:=fun _ _ _ _=>rfl
 obtain⟨o1,ho1,dN,hS0⟩:=PRe o w (y.l.id+1,0) T;have h:=h0.retag dN;clear dN
 have hbx:∀ b,w.1.size<=b->o1 b=(y.l.id+1,0):=fun b hb=>by rw[ho1];exact qq hb
 have dM:∀ b,b<w.1.size->o1 b=o b:=fun b hb=>by rw[ho1];exact qk hb
 clear ho1 h0;have HR:=Qa (fun w' (hw:Ae w w w')=>ye (h.below hw) hk hx)
 rw[hl]at HR;simp only[if_true]at HR;have HD:=Qa (fun w' (hw:Ae w w w')=>hdo w' o1 hw dM (h.below hw))
 have HB:=Qa hbx;have HS:=Qa hS0;have HT:=Qa hT;clear hdo hbx h hk hx hS0 hT dM;go_enter_defers func136,ntmps136;go_wp2_with fail;obtain⟨W,hW⟩:=Ja0 (((w.alloc (ANb #[ptr y.sb] 58)).alloc (ANb #[()] 3)).alloc (ANb #[()] 28));rw[<-hW];have hbW:Ae w w W:=by rw[hW];exact qc (qc (qc (qd w) _) _) _
 have zW:W.1.size=w.1.size+3:=by rw[hW];simp
 have jS:An W w #[ptr y.sb] 58:=by rw[hW];exact ((An.new w _ _).alloc _).alloc _
 have jV:An W (w.1.size+1) #[()] 3:=by rw[hW];exact (An.Ax _ _ _ _ _ (by simp) rfl).alloc _
 have jE:An W (w.1.size+1+1) #[()] 28:=by rw[hW];exact An.Ax _ _ _ _ _ (by simp) rfl
 clear hW;refine (HR.o _ hbW).mono ?_
 rintro e w1⟨rfl,rfl⟩
 go_wp2_with fail;refine (HD.o _ (qc hbW _)).mono ?_
 rintro e w2⟨rfl,o2,hS2,hs2⟩
 have lJ:=(jV.alloc (ANb #[ptr (y.xb i)] 101)).Ar hs2 (by rw[HB.o _ (by omega)];exact HT.o)
 have lG:=(jE.alloc (ANb #[ptr (y.xb i)] 101)).Ar hs2 (by rw[HB.o _ (by omega)];exact HT.o)
 have tV:o2 (w.1.size+1)=(y.l.id+1,0):=(hs2.tags _ (jV.alloc _).lt).trans (HB.o _ (by omega))
 have tE:o2 (w.1.size+1+1)=(y.l.id+1,0):=(hs2.tags _ (jE.alloc _).lt).trans (HB.o _ (by omega))
 have hst:Stp T o1 o2 w w2:=(Stp.of_below (qc hbW _)).trans hs2;clear jV jE jS;have cV:=lJ.cell;have zV:=lJ.free;have sV:=lJ.lt;have cE:=lG.cell;have zE:=lG.free;have sE:=lG.lt;go_wp2_with fail;have sW:=(lJ.set 0 (I Z v)).Ao (a:=⟨w.1.size+1+1,0,none⟩) (by simp) (I Z 0)
 have vB:=(lG.Ao (a:=⟨w.1.size+1,0,none⟩) (by simp) (I Z v)).set 0 (I Z 0)
 have wI:=sW.cell 0;have rJ:=vB.cell 0;simp at wI rJ;refine leaves_cons (f:=193) (args:=#[ptr (w.1.size+1+1),ptr w,ptr (w.1.size+3),ptr (w.1.size+1)]) (by simp) (by simp[go_sem]) ?_
 refine (Hr _ _ _ _ 0 rJ rfl).mono ?_
 rintro e u' w''⟨rfl,rfl,rfl⟩
 simp only[settle,Leaves];refine⟨Ak #[v,()],by simp[results,results136,go_sem,wI,rJ],rfl,o2,(hS2.box tV _).box tE _,HS.o.trans ((hst.setCell_new (by show w.1.size<=w.1.size+1;omega) _).setCell_new (by show w.1.size<=w.1.size+1+1;omega) _)⟩
def Hs (g:Nat) (eF:List Ac) (h0:Av w o y S) (hk:S.ok) (hx:S.Au[i]?=some x) (hl:x.live=true) (eg:∀ args w,(callFunc g args).run ANa w=.ok (.enter g args) w)
  (T:Tag->Prop) (hT:¬T (y.l.id+1,0)) (S':Am) (v err:Int) (e0:err≠0) (e1:err≠141) (e2:err≠130) (e3:err≠100)
  (hdo:∀ w1 o1,Ae w w w1->(∀ b,b<w.1.size->o1 b=o b)->Av w1 o1 y S->Ab ANa g (ptr (y.xb i)::eF).toArray w1 fun e w'=>e=O (Ak #[v,err])/\∃ o',Av w' o' y S'/\Stp T o1 o' w1 w') :
  Ab ANa 136 #[ptr y.sb,i,.func (.func g) #[] eF.toArray] w fun e w'=>e=O (Ak #[(),err])/\∃ o',Av w' o' y S'/\Stp T o o' w w':=by
 have fH:∀ (fn:Fn) (first cap:Array Ac) (w:Aa),(aD fn first cap).run ANa w=.ok (.func fn first cap) w:=fun _ _ _ _=>rfl
 obtain⟨o1,ho1,dN,hS0⟩:=PRe o w (y.l.id+1,0) T;have h:=h0.retag dN;clear dN
 have hbx:∀ b,w.1.size<=b->o1 b=(y.l.id+1,0):=fun b hb=>by rw[ho1];exact qq hb
 have dM:∀ b,b<w.1.size->o1 b=o b:=fun b hb=>by rw[ho1];exact qk hb
 clear ho1 h0;have HR:=Qa (fun w' (hw:Ae w w w')=>ye (h.below hw) hk hx)
 rw[hl]at HR;simp only[if_true]at HR;have HD:=Qa (fun w' (hw:Ae w w w')=>hdo w' o1 hw dM (h.below hw))
 have HB:=Qa hbx;have HS:=Qa hS0;have HT:=Qa hT;clear hdo hbx h hk hx hS0 hT dM;go_enter_defers func136,ntmps136;go_wp2_with fail;obtain⟨W,hW⟩:=Ja0 (((w.alloc (ANb #[ptr y.sb] 58)).alloc (ANb #[()] 3)).alloc (ANb #[()] 28));rw[<-hW];have hbW:Ae w w W:=by rw[hW];exact qc (qc (qc (qd w) _) _) _
 have zW:W.1.size=w.1.size+3:=by rw[hW];simp
 have jS:An W w #[ptr y.sb] 58:=by rw[hW];exact ((An.new w _ _).alloc _).alloc _
 have jV:An W (w.1.size+1) #[()] 3:=by rw[hW];exact (An.Ax _ _ _ _ _ (by simp) rfl).alloc _
 have jE:An W (w.1.size+1+1) #[()] 28:=by rw[hW];exact An.Ax _ _ _ _ _ (by simp) rfl
 clear hW;refine (HR.o _ hbW).mono ?_
 rintro e w1⟨rfl,rfl⟩
 go_wp2_with fail;refine (HD.o _ (qc hbW _)).mono ?_
 rintro e w2⟨rfl,o2,hS2,hs2⟩
 have lJ:=(jV.alloc (ANb #[ptr (y.xb i)] 101)).Ar hs2 (by rw[HB.o _ (by omega)];exact HT.o)
 have lG:=(jE.alloc (ANb #[ptr (y.xb i)] 101)).Ar hs2 (by rw[HB.o _ (by omega)];exact HT.o)
 have tV:o2 (w.1.size+1)=(y.l.id+1,0):=(hs2.tags _ (jV.alloc _).lt).trans (HB.o _ (by omega))
 have tE:o2 (w.1.size+1+1)=(y.l.id+1,0):=(hs2.tags _ (jE.alloc _).lt).trans (HB.o _ (by omega))
 have hst:Stp T o1 o2 w w2:=(Stp.of_below (qc hbW _)).trans hs2;clear jV jE jS;have cV:=lJ.cell;have zV:=lJ.free;have sV:=lJ.lt;have cE:=lG.cell;have zE:=lG.free;have sE:=lG.lt;go_wp2_with fail;have sW:=(lJ.set 0 (I Z v)).Ao (a:=⟨w.1.size+1+1,0,none⟩) (by simp) (I Z err)
 have vB:=(lG.Ao (a:=⟨w.1.size+1,0,none⟩) (by simp) (I Z v)).set 0 err
 have wI:=sW.cell 0;have rJ:=vB.cell 0;simp at wI rJ;refine leaves_cons (f:=193) (args:=#[ptr (w.1.size+1+1),ptr w,ptr (w.1.size+3),ptr (w.1.size+1)]) (by simp) (by simp[go_sem]) ?_
 refine (qqu _ _ _ _ err v _ rJ (by simpa using sW) e0 e1 e2 e3).mono ?_
 rintro e u' w''⟨rfl,rfl,rfl⟩
 have jV4:=sW.set 0 (I Z 0);have jE4:=vB.Ao (a:=⟨w.1.size+1,0,none⟩) (by simp) (I Z 0)
 have cV4:=jV4.cell 0;have cE4:=jE4.cell 0;simp at cV4 cE4;simp only[settle,Leaves];refine⟨Ak #[(),err],by simp[results,results136,go_sem,cV4,cE4],rfl,o2,((hS2.box tV _).box tE _).box tV _,HS.o.trans (((hst.setCell_new (by show w.1.size<=w.1.size+1;omega) _).setCell_new (by show w.1.size<=w.1.size+1+1;omega) _).setCell_new (by show w.1.size<=w.1.size+1;omega) _)⟩
end
section
variable {w : Aa} {o : Own} {y : Bl} {S : Am} {x : Tx} {i : Nat}
def NK (y:Bl)(S':Am)(o:Own)(w:Aa)(be bv:Nat)(err:Int)(tv te:TypeId)(w':Aa):Prop:=
 ∃ o' w1,w'=w1.setCell ⟨bv,0,none⟩ (I Z 0)/\Av w' o' y S'/\Stp (qi y) o o' w w1/\An w' bv #[()] tv/\An w' be #[err] te
def qkb (be bs bx bv:Nat)(err v:Int)(tv te ts tx:TypeId)(he:An w be #[err] te)(hs:An w bs #[ptr y.sb] ts)(hx:An w bx #[ptr (y.xb i)] tx)(hv:An w bv #[v] tv)(h0:err=141\/err=130\/err=100)
  (ob:o be=(y.l.id+1,0))(ov:o bv=(y.l.id+1,0))(hne:be≠bv)(S':Am)
  (hab:Ab ANa 165 #[ptr y.sb,ptr (y.xb i)] w fun e w'=>e=O (Ak #[])/\∃ o',Av w' o' y S'/\Stp (qi y) o o' w w') :
  CallsD ANa 193 #[ptr be,ptr bs,ptr bx,ptr bv] .returning w fun e u' w'=>u'=.returning/\(e=O (Ak #[])/\NK y S' o w be bv err tv te w'):=by
 have c:=he.cell;have cs:=hs.cell;have cx:=hx.cell;have HA:=Qa hab;have HB:=Qa (qp y);clear hab;rcases h0 with rfl|rfl|rfl
 all_goals
  go_enter_d func193,ntmps193;go_wp2_with fail;refine HA.o.mono ?_;rintro e w1⟨rfl,o1,hS1,hs1⟩;have je:=he.Ar hs1 (by rw[ob];exact HB.o)
  have jv:=hv.Ar hs1 (by rw[ov];exact HB.o)
  have tv:o1 bv=(y.l.id+1,0):=(hs1.tags _ hv.lt).trans ov;clear c cs cx;have c:=je.cell;have cv:=jv.cell;have zv:=jv.free;have sv:=jv.lt;have hS2:=Qa (hS1.box (a:=⟨bv,0,none⟩) tv (I Z 0));go_wp2_with fail;go_end0;exact⟨rfl,o1,_,rfl,hS2.o,hs1,jv.set 0 _,je.Ao hne _⟩
def qm8 (g:Nat) (eF:List Ac) (h0:Av w o y S) (hk:S.ok) (hx:S.Au[i]?=some x) (hl:x.live=true) (eg:∀ args w,(callFunc g args).run ANa w=.ok (.enter g args) w)
  (T:Tag->Prop) (hT:¬T (y.l.id+1,0)) (S' S2:Am) (v err:Int) (he:err=141\/err=130\/err=100)
  (hdo:∀ w1 o1,Ae w w w1->(∀ b,b<w.1.size->o1 b=o b)->Av w1 o1 y S->Ab ANa g (ptr (y.xb i)::eF).toArray w1 fun e w'=>e=O (Ak #[v,err])/\∃ o',Av w' o' y S'/\Stp T o1 o' w1 w')
  (hab:∀ w1 o1,Av w1 o1 y S'->Ab ANa 165 #[ptr y.sb,ptr (y.xb i)] w1 fun e w'=>e=O (Ak #[])/\∃ o',Av w' o' y S2/\Stp (qi y) o1 o' w1 w') :
  Ab ANa 136 #[ptr y.sb,i,.func (.func g) #[] eF.toArray] w fun e w'=>e=O (Ak #[(),err])/\∃ o',Av w' o' y S2/\Stp (fun t=>T t\/qi y t) o o' w w':=by
 have fH:∀ (fn:Fn) (first cap:Array Ac) (w:Aa),(aD fn first cap).run ANa w=.ok (.func fn first cap) w:=fun _ _ _ _=>rfl
 obtain⟨o1,ho1,dN,hS0⟩:=PRe o w (y.l.id+1,0) T;have h:=h0.retag dN;clear dN
 have hbx:∀ b,w.1.size<=b->o1 b=(y.l.id+1,0):=fun b hb=>by rw[ho1];exact qq hb
 have dM:∀ b,b<w.1.size->o1 b=o b:=fun b hb=>by rw[ho1];exact qk hb
 clear ho1 h0;have HR:=Qa (fun w' (hw:Ae w w w')=>ye (h.below hw) hk hx)
 rw[hl]at HR;simp only[if_true]at HR;have HD:=Qa (fun w' (hw:Ae w w w')=>hdo w' o1 hw dM (h.below hw))
 have tK:=Qa hab;have HB:=Qa hbx;have HS:=Qa hS0;have HT:=Qa hT;have HEr:=Qa he;clear hdo hbx h hk hx hS0 hT dM hab he;go_enter_defers func136,ntmps136;go_wp2_with fail;obtain⟨W,hW⟩:=Ja0 (((w.alloc (ANb #[ptr y.sb] 58)).alloc (ANb #[()] 3)).alloc (ANb #[()] 28));rw[<-hW];have hbW:Ae w w W:=by rw[hW];exact qc (qc (qc (qd w) _) _) _
 have zW:W.1.size=w.1.size+3:=by rw[hW];simp
 have jS:An W w #[ptr y.sb] 58:=by rw[hW];exact ((An.new w _ _).alloc _).alloc _
 have jV:An W (w.1.size+1) #[()] 3:=by rw[hW];exact (An.Ax _ _ _ _ _ (by simp) rfl).alloc _
 have jE:An W (w.1.size+1+1) #[()] 28:=by rw[hW];exact An.Ax _ _ _ _ _ (by simp) rfl
 have jX:An (W.alloc (ANb #[ptr (y.xb i)] 101)) (w.1.size+3) #[ptr (y.xb i)] 101:=An.Ax _ _ _ _ _ zW.symm rfl;clear hW;refine (HR.o _ hbW).mono ?_
 rintro e w1⟨rfl,rfl⟩
 go_wp2_with fail;refine (HD.o _ (qc hbW _)).mono ?_
 rintro e w2⟨rfl,o2,hS2,hs2⟩
 have lJ:=(jV.alloc (ANb #[ptr (y.xb i)] 101)).Ar hs2 (by rw[HB.o _ (by omega)];exact HT.o)
 have lG:=(jE.alloc (ANb #[ptr (y.xb i)] 101)).Ar hs2 (by rw[HB.o _ (by omega)];exact HT.o)
 have dC:=(jS.alloc (ANb #[ptr (y.xb i)] 101)).Ar hs2 (by rw[HB.o _ (by omega)];exact HT.o)
 have jX2:=jX.Ar hs2 (by rw[HB.o _ (by omega)];exact HT.o)
 have tV:o2 (w.1.size+1)=(y.l.id+1,0):=(hs2.tags _ (jV.alloc _).lt).trans (HB.o _ (by omega))
 have tE:o2 (w.1.size+1+1)=(y.l.id+1,0):=(hs2.tags _ (jE.alloc _).lt).trans (HB.o _ (by omega))
 have hst:Stp T o1 o2 w w2:=(Stp.of_below (qc hbW _)).trans hs2;clear jV jE jS jX;have cV:=lJ.cell;have zV:=lJ.free;have sV:=lJ.lt;have cE:=lG.cell;have zE:=lG.free;have sE:=lG.lt;go_wp2_with fail;have sW:=(lJ.set 0 (I Z v)).Ao (a:=⟨w.1.size+1+1,0,none⟩) (by simp) (I Z err)
 have vB:=(lG.Ao (a:=⟨w.1.size+1,0,none⟩) (by simp) (I Z v)).set 0 err
 have ic:=(dC.Ao (a:=⟨w.1.size+1,0,none⟩) (by simp) (I Z v)).Ao (a:=⟨w.1.size+1+1,0,none⟩) (by simp;omega) (I Z err)
 have jX3:=(jX2.Ao (a:=⟨w.1.size+1,0,none⟩) (by simp) (I Z v)).Ao (a:=⟨w.1.size+1+1,0,none⟩) (by simp) (I Z err)
 refine leaves_cons (f:=193) (args:=#[ptr (w.1.size+1+1),ptr w,ptr (w.1.size+3),ptr (w.1.size+1)]) (by simp) (by simp[go_sem]) ?_
 refine (qkb _ _ _ _ err v _ _ _ _ (by simpa using vB) ic jX3 (by simpa using sW) HEr.o tE tV (by omega) S2 (tK.o _ _ ((hS2.box tV _).box tE _))).mono ?_
 rintro e u' w''⟨rfl,rfl,o3,w3,rfl,cZ,hs3,jV4,jE4⟩
 have cV4:=jV4.cell 0;have cE4:=jE4.cell 0;simp at cV4 cE4;simp only[settle,Leaves];refine⟨Ak #[(),err],by simp[results,results136,go_sem,cV4,cE4],rfl,o3,cZ,?_⟩
 have h1:Stp T o o2 w _:=HS.o.trans ((hst.setCell_new (a:=⟨w.1.size+1,0,none⟩) (by show w.1.size<=w.1.size+1;omega) (I Z v)).setCell_new (a:=⟨w.1.size+1+1,0,none⟩) (by show w.1.size<=w.1.size+1+1;omega) (I Z err))
 exact ((h1.mono fun _ h=>Or.inl h).trans (hs3.mono fun _ h=>Or.inr h)).setCell_new (by show w.1.size<=w.1.size+1;omega) _
end
end
section
open Go.RowKit Go.Shelf Hp
section
variable {w w' : Aa} {o o' : Own} {y : Bl} {S : Am} {i : Nat}
def Ux (h:Av w o y S)(hk:S.ok)(p j q:Nat) :
  Ab ANa 148 #[ptr y.l.h,p,j,q] w fun e w'=>e=O (I Z ((S.H.Bj p j q).2:Nat))/\BM y { S with H:=(S.H.Bj p j q).1 } o w w':=by
 obtain⟨vc,vo,vw,vf,f,hh⟩:=h.hp;refine (qi4 hh hk.H p j q).mono ?_
 rintro e w' ⟨rfl,bQ,f',o',h1,h2⟩
 exact⟨rfl,o',h.heap ⟨_,_,_,_,_,h1⟩ h2,h2.mono fun _=>SG⟩
def Kq (h:Av w o y S)(hk:S.ok)(p j:Nat) :
  Ab ANa 150 #[ptr y.l.h,p,j] w fun e w'=>e=O (Ak #[I Z ((S.H.AY p j).2.1:Nat),I Z ((S.H.AY p j).2.2:Nat)])/\BM y { S with H:=(S.H.AY p j).1 } o w w':=by
 obtain⟨vc,vo,vw,vf,f,hh⟩:=h.hp;refine (Js hh hk.H p j).mono ?_
 rintro e w' ⟨rfl,bQ,f',o',h1,h2⟩
 exact⟨rfl,o',h.heap ⟨_,_,_,_,_,h1⟩ h2,h2.mono fun _=>SG⟩
def qik (pa:Option Addr)(n c:Nat)(w:Aa) :
  Ab ANa 211 #[.slice pa n c] w fun e w'=>e=O (.func (.func 235) #[] #[ptr w])/\w'=w.alloc (ANb #[.slice pa n c] 151):=by
 have fH:∀ (fn:Fn)(first cap:Array Ac)(w:Aa),(aD fn first cap).run ANa w=.ok (.func fn first cap) w:=fun _ _ _ _=>rfl
 go_in;go_wp2_with fail;go_ret;exact⟨rfl,rfl⟩
structure EK (w:Aa)(o o1:Own)(y:Bl)(S:Am)(us:List Un)(D bS bU:Nat)(v:Ac)(R:Loop)(H:Hp)(wr:Aa):Prop where
 st:Av wr o1 y (S.h H)
 hL:wr.heap[D+1]?=some (.loop R)
 hD:wr.heap[D]?=some (.deferred (some []))
 jS:An wr bS #[ptr y.sb] 58
 jU:An wr bU #[v] 151
 row:Row wr o1 (y.l.id+1,0) 198 4 v us.length (qz us)
 sp:Stp (qi y) o o1 w wr
 tL:o1 (D+1)=(y.l.id+1,0)
 tD:o1 D=(y.l.id+1,0)
 tS:o1 bS=(y.l.id+1,0)
 tU:o1 bU=(y.l.id+1,0)
def Row.Dc {w:Aa}{o:Own}{t:Tag}{e:TypeId}{size:Nat}{v:Ac}{n:Nat}{xs:List Ac}(h:Row w o t e size v n xs) :
  (v=Ai none 0 0/\xs=[])\/∃ g cap,v=Ai (some ⟨g,0,none⟩) n cap/\n<=cap:=by
 rcases h.own.2 with ⟨rfl,h2⟩|⟨g,cap,cur,rfl,_,hg,hn,hc,_⟩
 ·exact .inl ⟨rfl,aB (by rw[h.own.1,h2];omega)⟩
 ·exact .inr ⟨g,cap,rfl,hn⟩
def Row.put {w:Aa}{o:Own}{t:Tag}{e:TypeId}{size:Nat}{v:Ac}{n:Nat}{xs:List Ac}(h:Row w o t e size v n xs){l:Nat}{R:Loop}(hl:w.heap[l]?=some (.loop R))(x:Obj):Row (w.putObj l x) o t e size v n xs:=by
 obtain⟨⟨h1,h2⟩,h3⟩:=h;refine⟨⟨h1,?_⟩,h3⟩;rcases h2 with h2|⟨g,cap,cur,rfl,hg,hh,r⟩
 ·exact .inl h2
 ·refine .inr ⟨g,cap,cur,rfl,hg,(aj fun e=>?_).trans hh,r⟩
  rw[e,hl]at hh;cases hh
def Stp.put {T:Tag->Prop}{o o':Own}{w w':Aa}(h:Stp T o o' w w'){l:Nat}(hl:T (o' l))(x:Obj):Stp T o o' w (w'.putObj l x):=
 h.trans ⟨rfl,rfl,rfl,by simp,fun _ _=>rfl,fun b _ ht=>aj fun e=>ht (by rw[e];exact hl)⟩
def Stp.Dk {T:Tag->Prop}{o o':Own}{w w':Aa}(h:Stp T o o' w w'){l:Nat}(hl:w.1.size<=l)(x:Obj):Stp T o o' w (w'.putObj l x):=
 ⟨h.os,h.tape,h.output,by simpa using h.size,h.tags,fun b hb ht=>(aj (by omega)).trans (h.block b hb ht)⟩
def Av.put (h:Av w o y S){l:Nat}(ht:o l=(y.l.id+1,0))(x:Obj):Av (w.putObj l x) o y S:=
 h.Ar (T:=fun t=>t=(y.l.id+1,0)) ((Stp.refl _ o w).put ht x) fun j=>by simp
section
variable {o1 o2 : Own} {us : List Un} {D bS bU : Nat} {v : Ac} {R : Loop} {l l' : Hp} {wr w2 : Aa}
def EK.C8 (h:EK w o o1 y S us D bS bU v R l wr)(hs:Stp (qi y) o1 o2 wr w2)(st:Av w2 o2 y (S.h l')):EK w o o2 y S us D bS bU v R l' w2:=
 have lL:=(Qf.1 h.hL).1
 have lD:=(Qf.1 h.hD).1
 ⟨st,(hs.block _ lL (by rw[h.tL];exact qp y)).trans h.hL,(hs.block _ lD (by rw[h.tD];exact qp y)).trans h.hD,h.jS.Ar hs (by rw[h.tS];exact qp y),h.jU.Ar hs (by rw[h.tU];exact qp y),
  h.row.Ar hs (qp y),h.sp.trans hs,(hs.tags _ lL).trans h.tL,(hs.tags _ lD).trans h.tD,(hs.tags _ h.jS.lt).trans h.tS,(hs.tags _ h.jU.lt).trans h.tU⟩
def EK.below (h:EK w o o1 y S us D bS bU v R l wr)(hb:Ae wr wr w2):EK w o o1 y S us D bS bU v R l w2:=
 h.C8 (Stp.of_below hb) (h.st.below hb)
def EK.re (h:EK w o o1 y S us D bS bU v R l wr):EK w o (ext o1 wr (y.l.id+1,0)) y S us D bS bU v R l wr:=
 have hs:Stp (qi y) o1 (ext o1 wr (y.l.id+1,0)) wr wr:=(Stp.refl _ _ _).ext _ _ (Qk _)
 h.C8 hs (h.st.retag fun _ hb=>qk hb)
def EK.put (h:EK w o o1 y S us D bS bU v R l wr)(hw:w.1.size<=D)(R':Loop):EK w o o1 y S us D bS bU v R' l (wr.putObj (D+1) (.loop R')):=by
 have n1:bS≠D+1:=fun e=>by have:=h.jS;unfold An at this;rw[e,h.hL]at this;cases this
 have n2:bU≠D+1:=fun e=>by have:=h.jU;unfold An at this;rw[e,h.hL]at this;cases this
 exact⟨h.st.put h.tL _,World.putObj_heap_same (Qf.1 h.hL).1,(aj (by omega)).trans h.hD,h.jS.put n1,h.jU.put n2,h.row.put h.hL _,h.sp.Dk (by omega) _,h.tL,h.tD,h.tS,h.tU⟩
def Row.Np {w:Aa}{o:Own}{t:Tag}{l:List Un}{g n cap:Nat}(h:Row w o t 198 4 (Ai (some ⟨g,0,none⟩) n cap) n (qz l))(i:Nat)(x:Un)(hx:l[i]?=some x) :
  w.cell? ⟨g,i*4,none⟩=some (I Z x.kind)/\w.cell? ⟨g,i*4+1,none⟩=some (I Z x.pos)/\w.cell? ⟨g,i*4+2,none⟩=some (I Z x.i)/\w.cell? ⟨g,i*4+3,none⟩=some (I Z x.old):=by
 obtain⟨h1,h2,h3,h4⟩:=Xj l i x hx;have f:=fun j u hu=>h.own.cells (g:=g) rfl j u hu
 have e:∀ j,(⟨g,0,none⟩:Addr).add j=⟨g,j,none⟩:=fun j=>by unfold Addr.add;split<;>simp_all
 have a1:=f _ _ h1;have a2:=f _ _ h2;have a3:=f _ _ h3;have a4:=f _ _ h4;rw[e]at a1 a2 a3 a4;rw[Nat.mul_comm i 4];exact⟨a1,a2,a3,a4⟩
end
end
def qpp (w:Aa):Ab ANa 237 #[Ai none 0 0,()] w fun e w'=>e=O (Ai none 0 0)/\w=w':=by
 go_in;go_wp2_with fail;go_ret;exact⟨rfl,rfl⟩
def F5:Go.Shelf.Ren:=⟨fun|4=>237|n=>n,fun|0=>0|3=>3|4=>4|9=>9|20=>20|22=>98|25=>118|n=>n,fun|n=>n⟩
def Jm:Go.Proofs.Lays8.n4 ANa F5:={
 mixed:=by kernel_rfl
 f4:=⟨Tryz.f237.name,by kernel_rfl,func237.trans (congrArg some (by kernel_rfl))⟩
 t0:=by kernel_rfl
 a0:=fun _=>by kernel_rfl
 z0:=fun _=>by kernel_rfl
 v0:=fun _=>by kernel_rfl
 t3:=by kernel_rfl
 a3:=fun _=>by kernel_rfl
 z3:=fun _=>by kernel_rfl
 v3:=fun _=>by kernel_rfl
 t4:=by kernel_rfl
 a4:=fun _=>by kernel_rfl
 z4:=fun _=>by kernel_rfl
 v4:=fun _=>by kernel_rfl
 t9:=by kernel_rfl
 a9:=fun _=>by kernel_rfl
 z9:=fun _=>by kernel_rfl
 v9:=fun _=>by kernel_rfl
 t20:=by kernel_rfl
 a20:=fun _=>by kernel_rfl
 z20:=fun _=>by kernel_rfl
 v20:=fun _=>by kernel_rfl
 t22:=by kernel_rfl
 a22:=fun _=>by kernel_rfl
 z22:=fun _=>by kernel_rfl
 v22:=fun _=>by kernel_rfl }
def gi:∃ i,ANa.info? 118=some i/\i.size=2/\i.bytes=16/\i.zero=some (Al #[(),()]):=info_parts (by kernel_rfl)
def Jn (n:Nat)(hn:n<=4398046511104)(w:Aa) :
  Ab ANa 237 #[Ai none 0 0,n] w fun e w'=>∃ v,e=O v/\Row w' (fo w) (1,0) 118 2 v 0 []/\Ae w w w':=by
 rcases Nat.eq_zero_or_pos n with rfl|h0
 ·refine (qpp w).mono ?_
  rintro e w' ⟨rfl,rfl⟩;exact⟨_,rfl,Row.nil _ _ _ _ _,qd w⟩
 ·obtain⟨i,hi,hs,hb,hz⟩:=gi
  have hG:=Any8.slices_Grow_grow Jm i _ hi hz (by omega) none 0 0 n [] w (Qk _) (by omega) (by rw[hb];omega) (by omega) (by simp) (fun _=>rfl) (fun a ha=>by cases ha)
  refine hG.mono ?_;rintro e w' ⟨rfl,rfl⟩;refine⟨_,rfl,⟨⟨by simp,.inr ⟨w.1.size,_,_,rfl,af _,World.alloc_heap_new w.drew _,af _,?_,?_,by simp⟩⟩,?_⟩,qc (qf (qd w)) _⟩
  ·exact grownCap_le_maxLen _ _ _ _ (by unfold maxLen;omega)
  ·have hg:=grownCap_ge w (0+n) 0 (F5.t 25)
   simp only[Array.size_append,size_zeroCells,aS,aU];show 0+(0+n-0)*2+_*2=_*2;omega
  ·intro k hk
   simp only[aX,Zc]at hk;subst hk;exact Jh (Qk _)
def qmr (l m:List (Nat×Nat)):qh (l++m)=qh l++qh m:=by
 induction l with
 | nil=>rfl
 | cons x l ih=>simp[qh,ih]
def G8 (m1 m2:Nat)(n1:m1<=1099511627776)(n2:m2<=1099511627776) :
  IntKind.i64.wrap (0+(m1:Int))=(m1:Int)/\IntKind.i64.wrap ((m1:Int)+(m2:Int))=(m1:Int)+(m2:Int)/\wrap64 (m1:Int)=(m1:Int)/\wrap64 ((m1:Int)+(m2:Int))=(m1:Int)+(m2:Int):=by
 have h1:(-9223372036854775808:Int)<=m1/\(m1:Int)<=9223372036854775807:=by omega
 have h2:(-9223372036854775808:Int)<=(m1:Int)+m2/\(m1:Int)+m2<=9223372036854775807:=by omega
 exact⟨by rw[Int.zero_add];exact IntWalk.i64_in _ h1,IntWalk.i64_in _ h2,IntWalk.wrap64_in _ h1,IntWalk.wrap64_in _ h2⟩
def YX (m1 m2:Nat)(s ix:Ac):Prop:=∃ k n:Nat,s=I Z n/\ix=I Z k/\(k=0/\n=0\/k=1/\n=m1\/k=2/\n=m1+m2)
def qlf {w:Aa}{b:Nat}{v1 v2:Ac}{l1 l2:List (Nat×Nat)}{o1 o2:Own}{t1 t2:Tag}(hb:An w b #[v1,v2] 98)(h1:Row w o1 t1 118 2 v1 l1.length (qh l1))(h2:Row w o2 t2 118 2 v2 l2.length (qh l2))
  (n1:l1.length<=1099511627776)(n2:l2.length<=1099511627776) :
  Ab ANa 213 #[Ai (some ⟨b,0,none⟩) 2 2] w fun e w'=>∃ v,e=O v/\Row w' (fo w) (1,0) 118 2 v (l1++l2).length (qh (l1++l2))/\Ae w w w':=by
 obtain⟨iU,hi,hsI,cK,bZ⟩:=gi;have hu64:=underlying98;have c:=hb.cell;have HG:=Qa (fun w'=>Jn (l1.length+l2.length) (by omega) w')
 have H1:=Qa h1;have H2:=Qa h2;have HB:=Qa hb;obtain⟨a1,c1,e1⟩:∃ a1 c1,v1=.slice a1 l1.length c1:=h1.A6;obtain⟨a2,c2,e2⟩:∃ a2 c2,v2=.slice a2 l2.length c2:=h2.A6;subst e1 e2;obtain⟨m1,hm1⟩:=Ja0 l1.length;obtain⟨m2,hm2⟩:=Ja0 l2.length;rw[<-hm1,<-hm2]at HG;rw[<-hm1]at c H1 HB n1;rw[<-hm2]at c H2 HB n2;have hfin:(l1++l2).length=m1+m2:=by rw[Qd];omega
 have HF:=Qa hfin;obtain⟨hw0,hw1,hw2,hw3⟩:=G8 m1 m2 n1 n2;have hp1:¬((m1:Int)<0):=bJ.2 (aJ _);have hp2:¬((m1:Int)+(m2:Int)<0):=bJ.2 (Int.add_nonneg (aJ _) (aJ _));have hp3:decide ((m1:Int)<0)=false:=decide_eq_false hp1;have zO:decide ((m1:Int)+(m2:Int)<0)=false:=decide_eq_false hp2;have N1:=Qa n1;have N2:=Qa n2;clear h1 h2 hb hm1 hm2 hfin n1 n2;go_in;go_wp2_with fail;go_loop [3,11] (YX m1 m2) (fun _ ix=>2-(intOf ix).toNat)
 case atStart=>exact⟨0,0,rfl,rfl,.inl ⟨rfl,rfl⟩⟩
 case round =>
  obtain⟨k,n,rfl,rfl,hkn⟩:=hrel;rcases hkn with ⟨rfl,rfl⟩|⟨rfl,rfl⟩|⟨rfl,rfl⟩
  ·have cz:=c 0
   rw[show ((0:Nat):Int)=0 from rfl];go_wp2_with fail;go_round
   case rel=>exact⟨1,m1,by rw[hw2],rfl,.inr (.inl ⟨rfl,rfl⟩)⟩
   case measure=>simp[intOf]
  ·have cz:=c 1
   go_wp2_with fail;go_round
   case rel=>exact⟨2,n+m2,by rw[aV],rfl,.inr (.inr ⟨rfl,rfl⟩)⟩
   case measure=>simp[intOf]
  ·rw[aV]
   clear c;go_wp2_with fail;refine (HG.o _).mono ?_;rintro e w1 ⟨v,rfl,hr,hb1⟩;have HRw:=Qa hr;have yF:=Qa hb1;clear hr;go_wp2_with fail;go_loopw [6,27] (fun s ix wr=>∃ (k:Nat)(n:Nat)(xs:List Ac),k<=2/\ix=I Z k/\n=(if k=0 then 0 else if k=1 then m1 else m1+m2)/\xs=(if k=0 then [] else if k=1 then qh l1 else qh (l1++l2))/\Row wr (fo w) (1,0) 118 2 s n xs/\Ae w w wr) (fun _ ix _=>2-(intOf ix).toNat)
   case atStart=>exact⟨0,0,[],by omega,rfl,rfl,rfl,HRw.o,yF.o⟩
   case round =>
    clear hb1;obtain⟨k,n,xs,hk,rfl,hn,hxs,hr,hbr⟩:=hrel;obtain rfl|rfl|rfl:k=0\/k=1\/k=2:=by omega
    ·simp only[if_true]at hn hxs
     subst hn hxs;have c:=(HB.o.below hbr HB.o.lt).cell 0;have hk1:=Qa (show 0+m1<=maxLen by have:=N1.o;simp only[maxLen];omega)
     have hk2:=Qa (show (0+m1)*16<=140737488355328 by have:=N1.o;omega)
     have hsrc:=H1.o.below hbr;go_wp2_with (at_builtin;refine zu _ rfl _ _ _ rfl 118 iU _ 2 16 hu64 hi bZ hsI cK rfl (by decide) (fo w) (1,0) _ 0 [] rfl hr _ _ _ m1 (qh l1) rfl hsrc (uo l1) hk1.o hk2.o ?_;intro v' w' hown hst)
     have xC:=xz hbr hst;have hown2:=yy hbr hown;rw[ay,ai]at hown2;go_roundw
     case rel=>exact⟨1,m1,qh l1,by omega,by simp,by simp,by simp,hown2,xC⟩
     case measure=>simp[intOf]
    ·simp only[if_true,Nat.one_ne_zero,if_false]at hn hxs
     subst hn hxs;have c:=(HB.o.below hbr HB.o.lt).cell 1;have hk1:=Qa (show n+m2<=maxLen by have:=N1.o;have:=N2.o;simp only[maxLen];omega)
     have hk2:=Qa (show (n+m2)*16<=140737488355328 by have:=N1.o;have:=N2.o;omega)
     have hsrc:=H2.o.below hbr;go_wp2_with (at_builtin;refine zu _ rfl _ _ _ rfl 118 iU _ 2 16 hu64 hi bZ hsI cK rfl (by decide) (fo w) (1,0) _ n (qh l1) rfl hr _ _ _ m2 (qh l2) rfl hsrc (uo l2) hk1.o hk2.o ?_;intro v' w' hown hst)
     have xC:=xz hbr hst;have hown2:=yy hbr hown;rw[<-qmr]at hown2;go_roundw
     case rel=>exact⟨2,n+m2,qh (l1++l2),by omega,by simp,by simp,by simp,hown2,xC⟩
     case measure=>simp[intOf]
    ·simp only[Nat.reduceEqDiff,if_false]at hn hxs
     subst hn hxs;go_wp2_with fail;go_ret;exact⟨_,rfl,by rw[HF.o];exact hr,hbr⟩
end
section
open Go.RowKit Hp
attribute [local go_sem ↓] Go.wp_at_zero Go.wp_at_succ
section
variable {w w' : Aa} {o o' : Own} {y : Bl} {S : Am} {i : Nat}
def Am.Bq (S:Am)(i:Nat):B2:=S.AF i (S.AJ i)
def qmx (args:Array Ac)(w:Aa):(callFunc 137 args).run ANa w=.ok (.enter 137 args) w:=enters_of func137 (by kernel_rfl) rfl args w
def qhq (h:Av w o y S)(hk:S.ok)(hi:i<S.Au.length)(hh:(S.t i).log.holds=[])(hn:S.Aw≠(i:Int)){b1:Nat}(j1:An w b1 #[ptr y.sb] 58) :
  Ab ANa 137 #[ptr (y.xb i),ptr b1] w fun e w'=>e=O (Ak #[(),()])/\BM y (S.tx i (S.t i).ended) o w w':=by
 have hx':=h.Au i _ (Am.AW hi);obtain⟨vr,vk,vh,vu,hl⟩:=hx'.log;have HL:=Qa (T5 hl (hk.Ew hi).ok (y.l.id+1,0));rw[hh]at HL;have HE:=Qa (fun w' (hw:Ae w w w')=>RH (h.below hw) (Am.AW hi))
 have c1:=j1.cell;obtain⟨vt,jx,_⟩:=hx'.A3;unfold zj at jx;have cx:=jx.cell;obtain⟨vq,vl,vm,jb,_⟩:=h.A3;unfold qm at jb;have hne:(S.Aw==(i:Int))=false:=by simpa using hn
 have hne2:¬S.Aw=(i:Int):=hn;generalize S.tx i (S.t i).ended=S2 at *;clear h hk hh hx' hl hn hi;go_in;go_wp2_with fail;refine HL.o.mono ?_
 rintro e w1⟨v',rfl,hr,hb1⟩
 obtain⟨pa,cp,rfl⟩:=hr.A6;have c1:=(j1.below hb1 j1.lt).cell;have cx:=(jx.below hb1 jx.lt).cell;have c:=(jb.below hb1 jb.lt).cell;have s1:=(j1.below hb1 j1.lt).lt;go_upto_region 2 with fail;go_quiet (fail);go_wp2_with fail;refine (HE.o _ (zo hb1 _)).mono ?_
 rintro e w2⟨rfl,o2,hS2,hs2⟩
 go_wp2_with fail;go_ret2;exact⟨rfl,o2,hS2,(Stp.of_below (zo hb1 _)).trans hs2⟩
def M5 (h:Av w o y S) (hk:S.ok) (hm:S.now<S.most) :
  Ab ANa 142 #[ptr y.ck] w fun e w'=>e=O (Ak #[I Z ((S.now+1:Nat):Int),true])/\Av w' o y { S with now:=S.now+1 }/\Stp (fun t=>t=(y.l.id,10)) o o w w':=by
 refine (Hc h.ck (by omega) (by omega) (by have:=hk.n2;omega)).mono ?_
 rintro e w'⟨rfl,hb,hw⟩
 have hs:Stp (fun t=>t=(y.l.id,10)) o o w w':=Stp.Ci hw h.oc
 exact⟨by simp,h.clock (n:=S.now+1) (by simpa using hb) hs,hs⟩
def qht (h:Av w o y S)(hk:S.H.wf)(p v:Nat)(hv:v<=2199023255552) :
  Ab ANa 200 #[ptr y.l.h,p,.int .u64 v] w fun e w'=>e=O (I Z ((S.H.AM p v).2:Nat))/\BM y { S with H:=(S.H.AM p v).1 } o w w':=by
 obtain⟨vc,vo,vw,vf,f,hh⟩:=h.hp;unfold Hp.AM
 cases hp:lk S.H.cur p with
 | none=>exact (tu hh hk.ok hp v).mono fun _ _⟨a,b⟩=>⟨a,h.EJ b⟩
 | some ob =>
  refine (tn hh hk.ok hp v hv).mono ?_;rintro e w'⟨rfl,_,h',hw⟩;obtain⟨a1,a2⟩:=hh.Gj h' hw;exact⟨rfl,h.D4 a1 a2⟩
def qjl (h:Av w o y S)(hk:S.H.wf)(p v:Nat)(hv:v<=1099511627776) :
  Ab ANa 143 #[ptr y.sb,p,v] w fun e w'=>e=O (Ak #[])/\BM y { S with H:=(S.H.AM p (2*v)).1 } o w w':=by
 have HC:=qht h hk p (2*v) (by omega)
 have HO:=Qa (fun w=>Sx v ⟨by omega,by omega⟩ w)
 have ei:((2*v:Nat):Int)=2*(v:Int):=by omega
 rw[ei]at HC;generalize (S.H.AM p (2*v))=r at *;replace HC:=Qa HC;generalize 2*(v:Int)=q at HC HO;obtain⟨vq,vl,vm,hb,_⟩:=h.A3;unfold qm at hb;have c:=hb.cell;clear h hk hv ei;go_in;go_wp2_with fail;refine (HO.o _).mono ?_
 rintro e w1 ⟨rfl,rfl⟩
 go_wp2_with fail;refine HC.o.mono ?_
 rintro e w2 ⟨rfl,hl⟩
 go_wp2_with fail;go_end0;exact⟨rfl,hl⟩
def qic {S:Am}{i k:Nat}{p:Nat}(hp:(S.t i).log.reads[k]?=some p)(hc:we i (S.t i).start (S.H.sec p)=true):S.Bu i=true:=by
 unfold Am.Bu;rw[List.any_eq_true];exact⟨p,Qe hp,hc⟩
def qjx {S:Am}{i:Nat}(h:∀ (k p:Nat),(S.t i).log.reads[k]?=some p->we i (S.t i).start (S.H.sec p)=false):S.Bu i=false:=by
 unfold Am.Bu;rw[List.any_eq_false];intro p hp;obtain⟨k,hk⟩:=List.getElem?_of_mem hp;rw[h k p hk];simp
def qfu (h0:Av w o y S) (hk:S.ok) (hi:i<S.Au.length) (hl:(S.t i).live=true) (hw:¬((S.t i).log.holds=[]/\S.Aw≠(i:Int)))
  {b1:Nat} (j1:An w b1 #[ptr y.sb] 58) (t1:o b1=(y.l.id+1,0)) :
  Ab ANa 137 #[ptr (y.xb i),ptr b1] w fun e w'=>e=O (Ak #[I Z (S.AJ i).v,I Z (S.AJ i).e])/\BM y (S.AJ i).S o w w':=by
 have hm:S.now<S.most:=by have:=UI S.Au i _ (Am.AW hi) hl;have:=hk.lv;omega
 have hx:=Am.AW hi;have HC1:Q2 (S.Bu i=true->S.AJ i=⟨S,0,141⟩):=fun hc=>by unfold Am.AJ;rw[if_neg hw,if_pos hc]
 have ig:Q2 (S.Bu i=false->S.AJ i=⟨(S.Br i).tx i (S.t i).ended,(S.now:Int)+1,0⟩):=fun hc=>by unfold Am.AJ;rw[if_neg hw,if_neg (by rw[hc];simp)]
 have HCt:Q2 (∀ (k p:Nat),(S.t i).log.reads[k]?=some p->we i (S.t i).start (S.H.sec p)=true->S.Bu i=true):=fun k p=>qic
 have yI:Q2 ((∀ (k p:Nat),(S.t i).log.reads[k]?=some p->we i (S.t i).start (S.H.sec p)=false)->S.Bu i=false):=qjx;have rF:Q2 (S.Br i=if S.Aw=(i:Int) then { S with now:=S.now+1,H:=S.H.BP (S.t i).log.holds (S.now+1),Aw:=-1,version:=S.now+1 } else { S with now:=S.now+1,H:=S.H.BP (S.t i).log.holds (S.now+1) }):=rfl
 generalize S.AJ i=RC at *;obtain⟨x,hxe⟩:=Ja0 (S.t i);rw[<-hxe]at hx hl hw ig HCt yI rF;have zT:x.log.holds=[]->S.Aw=(i:Int):=fun e=>Classical.byContradiction fun h=>hw ⟨e,h⟩
 have fI:=Qa (fun (w':Aa) (o':Own) (h':Av w' o' y S)=>M5 h' hk hm)
 have hlf:=hk.Ew hi;rw[<-hxe]at hlf;have hM2:S.now+1<=1099511627776:=by have:=hk.n2;omega
 have wG:Q2 ((S.now:Int)+1=((S.now+1:Nat):Int)):=by show (S.now:Int)+1=_;omega
 obtain⟨V,hV⟩:=Ja0 (S.now+1);rw[<-hV]at fI hM2 rF wG;clear hV hm;obtain⟨o1,ho1,dN,hS0⟩:=PRe o w (y.l.id+1,0) (qi y);have h:=h0.retag dN;clear dN
 have dM:∀ n,w.1.size<=n->ext o1 n (y.l.id+1,0)=o1:=fun n hn=>by rw[ho1];exact RA _ _ _ _ hn
 have u1:o1 b1=(y.l.id+1,0):=by rw[ho1,qk j1.lt];exact t1
 clear ho1 h0 t1;have hx':=h.Au i x hx;obtain⟨vr,vk,vh,vu,hll⟩:=hx'.log;have HLH:=Qa (T5 hll hlf.ok (y.l.id+1,0));have HLR:=Qa (fun w' (hw:Ae w w w')=>qqo (hll.below hw) hlf.ok (y.l.id+1,0))
 obtain⟨vt,jx,_⟩:=hx'.A3;unfold zj at jx;obtain⟨vq,vl,vm,jb,_⟩:=h.A3;unfold qm at jb;have hlen1:x.log.reads.length<=200:=by have:=hlf.ok.r;have:=hlf.ok.mr;omega
 have kX:x.log.holds.length<=200:=by have:=hlf.ok.h;have:=hlf.ok.mu;omega
 have H:=Qa h;have HK:=Qa hk;have HS:=Qa hS0;have HE:=Qa dM;have HX:=Qa hx;have nT:=Qa u1;have eQ:=Qa hM2;obtain⟨rs,hrs⟩:=Ja0 x.log.reads;obtain⟨hs,dI⟩:=Ja0 x.log.holds;rw[<-hrs]at HLR hlen1 HCt yI;rw[<-dI]at HLH kX zT rF;have HWr:=Qa zT;have HXE:=Qa hxe;clear h hk hS0 dM hx hx' hll hlf hrs dI u1 hw zT hl hi hM2 hxe;have c1:=j1.cell;have cx:=jx.cell;go_in;go_wp2_with fail;refine HLH.o.mono ?_
 rintro e w1 ⟨v1,rfl,hr1,hb1⟩
 obtain⟨iP,iq,rfl⟩:=hr1.A6;rw[HE.o _ (Qk _)]at hr1;clear c1 cx;have c1:=(j1.below hb1 j1.lt).cell;have s1:=(j1.below hb1 j1.lt).lt;have cx:=(jx.below hb1 jx.lt).cell;have cb:=(jb.below hb1 jb.lt).cell;go_upto_region 2 with fail
 have hcase:((((hs.length:Nat):Int)==0)=true/\(S.Aw==(i:Int))=true/\(S.Aw != (i:Int))=false)\/(((hs.length:Nat):Int)==0)=false:=by
  by_cases hl0:hs.length=0
  ·have hh:S.Aw=(i:Int):=HWr.o (aB hl0)
   have uR:(S.Aw==(i:Int))=true:=by rw[beq_iff_eq];exact hh
   exact .inl ⟨by rw[beq_iff_eq];omega,uR,by rw[bne,uR];rfl⟩
  ·exact .inr (by rw[Qh];omega)
 rcases hcase with ⟨hlb,uR,hhn⟩|hlb
 all_goals
  go_quiet (fail);obtain⟨W,hW⟩:=Ja0 (w1.drewN nq);have hbW:Ae w w W:=by rw[hW];exact zo hb1 _
  have hr2:Row W o1 (y.l.id+1,0) 195 2 (.slice iP hs.length iq) hs.length (qh hs):=by rw[hW];exact hr1.below (zo (qd _) _)
  rw[<-hW];clear hW hr1 hb1 c1 s1 cx cb;have cx:=(jx.below hbW jx.lt).cell;go_wp2_with fail;refine (HLR.o _ hbW).mono ?_;rintro e w2 ⟨v2,rfl,hrr,hb2⟩;obtain⟨tC,cp2,rfl⟩:=hrr.A6;rw[HE.o _ hbW.size]at hrr;have hr3:=hr2.below hb2;have hbW2:=qe hbW hb2;clear cx hr2 hb2 hbW;go_wp2_with fail;go_loopw [40] (fun ix wr=>∃ k:Nat,ix=I Z k/\k<=rs.length/\Ae w2 w2 wr/\∀ j p,j<k->rs[j]?=some p->we i x.start (S.H.sec p)=false) (fun ix _=>rs.length-(intOf ix).toNat)
  case atStart=>exact⟨0,rfl,af _,qd _,fun j p h=>by omega⟩
  case round =>
   obtain⟨k,rfl,hkl,hbr,hnc⟩:=hrel;have HNC:=Qa hnc;clear hnc;have hbw:=qe hbW2 hbr;have c1:=(j1.below hbw j1.lt).cell;by_cases hlt:k<rs.length
   ·have kI:(k:Int)<(rs.length:Int):=by omega
    have jQ:=Qb hlt;obtain⟨p,hp⟩:=Ja0 (rs[k]);rw[<-hp]at jQ;rcases (hrr.below hbr).form with ⟨_,h0⟩|⟨g,cap,e,_⟩
    ·omega
    ·injection e with e1 _ e3
     subst e1 e3;have q0:wr.cell? ⟨g,k,none⟩=some (I Z p):=(hrr.below hbr).cells k _ (by rw[Qj,jQ];rfl)
     have HC:=(UH (H.o.below hbw) HK.o HX.o p);have HGK:=Qa jQ;clear jQ hp
     cases hcl:we i x.start (S.H.sec p) with
     | false =>
      rw[hcl]at HC;have HC:=Qa HC;have pY:=Qa hcl;clear hcl;go_wp2_with fail;refine HC.o.mono ?_;rintro e w3 ⟨rfl,hb3⟩;go_wp2_with fail;go_roundw
      case rel =>
       refine⟨k+1,by simp,by omega,qe hbr hb3,fun j q hj hq=>?_⟩
       by_cases e:j=k
       ·subst e;rw[HGK.o]at hq;injection hq with hq;rw[<-hq];exact pY.o
       ·exact HNC.o j q (by omega) hq
      case measure=>simp[intOf];omega
     | true =>
      rw[hcl]at HC;have HC:=Qa HC;have qC:=Qa (HC1.out (HCt.out k p HGK.o hcl));have HLf:=Qa (fun (W:Aa) (hb:Ae w w W)=>show BM y S o w W from ⟨o1,H.o.below hb,HS.o.trans (Stp.of_below hb)⟩);clear hcl;go_wp2_with fail;refine HC.o.mono ?_;rintro e w3 ⟨rfl,hb3⟩;go_wp2_with fail;go_ret2;rw[qC.o];exact⟨rfl,HLf.o _ (qe hbw hb3)⟩
   ·obtain rfl:k=rs.length:=by omega
    have qC:=Qa (ig.out (yI.out fun k p hp=>HNC.o k p (Qc.1 hp).1 hp));clear hlt;have HT:=Qa (fI.o _ _ (H.o.below hbw));have hr4:=hr3.below hbr;have j4:=j1.below hbw j1.lt;have cb:=(jb.below hbw jb.lt).cell;go_wp2_with fail;refine HT.o.mono ?_;rintro e w3 ⟨rfl,cZ,hs3⟩;have hck:¬(fun t=>t=(y.l.id,10)) (y.l.id+1,0):=fun e=>by injection e with e _;omega
    have dZ:=hr4.Ar hs3 hck;have j5:=j4.Ar hs3 (by rw[nT.o];exact hck)
    have sO:Stp (qi y) o1 o1 w w3:=(Stp.of_below hbw).trans (hs3.mono fun t ht=>by rw[ht];rfl)
    have hS5:Av w3 o1 y (({ S with now:=V }:Am).h (({ S with now:=V }:Am).H.BP [] V)):=cZ;obtain⟨S1,hS1⟩:∃ S1:Am,S1={ S with now:=V }:=⟨_,rfl⟩;rw[<-hS1]at hS5;have gG:=Qa hS1;clear hr4 j4 cZ hs3 c1 cb hck hS1;go_wp2_with fail;go_loopw [59] (fun ix wr=>∃ (k:Nat) (o2:Own),ix=I Z k/\k<=hs.length/\Av wr o2 y (S1.h (S1.H.BP (hs.take k) V))/\Row wr o2 (y.l.id+1,0) 195 2 (.slice iP hs.length iq) hs.length (qh hs)/\An wr b1 #[ptr y.sb] 58/\o2 b1=(y.l.id+1,0)/\Stp (qi y) o1 o2 w wr) (fun ix _=>hs.length-(intOf ix).toNat)
    case atStart=>exact⟨0,o1,rfl,af _,hS5,dZ,j5,nT.o,sO⟩
    case round =>
     clear dZ j5 sO hS5;obtain⟨k,o2,rfl,hkh,hA,hr,jb1,ub,hst⟩:=hrel;obtain⟨wo,rfl⟩:=Ja0 wr;by_cases hlt:k<hs.length
     ·have kI:(k:Int)<(hs.length:Int):=by omega
      have jQ:=Qb hlt;obtain⟨z,hz⟩:=Ja0 (hs[k]);rw[<-hz]at jQ;have htk:hs.take (k+1)=hs.take k++[z]:=by rw[hz];exact aF hlt
      rcases hr.Dc with ⟨_,h0⟩|⟨g,cap,e,hn⟩
      ·have:=y7 hs k z jQ
       rw[h0]at this;simp at this
      ·injection e with e1 _ e3
       subst e1 e3;obtain⟨r0,r1⟩:=hr.Fi k z jQ;obtain⟨p,v⟩:=z;have q0:wo.cell? ⟨g,k*2,none⟩=some (I Z p):=r0;have q1:wo.cell? ⟨g,k*2+1,none⟩=some (I Z v):=r1;clear r0 r1;have hok:(S1.h (S1.H.BP (hs.take k) V)).H.wf/\Q2 (∀ W,Ae wo wo W->Ab ANa 143 #[ptr y.sb,p,I Z V] W fun e w'=>e=O (Ak #[])/\BM y (S1.h (S1.H.BP (hs.take (k+1)) V)) o2 W w'):=by
        have hk9:(S.h (S.H.BP (hs.take k) V)).ok:=Am.E1 _ HK.o eQ.o;have e9:S1.H.BP (hs.take k) V=S.H.BP (hs.take k) V:=by rw[gG.o]
        refine⟨by rw[gG.o];exact hk9.H,fun W hW=>?_⟩
        have e8:S1.H.BP (hs.take (k+1)) V=((S1.H.BP (hs.take k) V).AM p (2*V)).1:=by rw[htk];exact qpz _ _ _ _
        rw[e8];exact qjl (hA.below hW) (by rw[gG.o];exact hk9.H) p V eQ.o
       obtain⟨_,HR1⟩:=hok;obtain⟨l2,hl2⟩:=Ja0 (S1.h (S1.H.BP (hs.take k) V));rw[<-hl2]at hA;obtain⟨l3,hl3⟩:=Ja0 (S1.h (S1.H.BP (hs.take (k+1)) V));rw[<-hl3]at HR1;have HL3:=Qa hl3;clear hl2 hl3 htk hz jQ;have HR2:=Qa (HR1.out _ (qc (qd _) (ANb #[p,v] 195)));have lM:=jb1.alloc (ANb #[p,v] 195);have hr1:=hr.below (qc (qd _) (ANb #[p,v] 195));have sM:=hst.alloc (ANb #[p,v] 195);have c1:=jb1.cell 0;have s1:=jb1.lt;clear hA hr;go_wp2_with fail;refine HR2.o.mono ?_;rintro e w5 ⟨rfl,o5,hS5,hs5⟩;have dZ:=hr1.Ar hs5 (qp y);have j5:=lM.Ar hs5 (by rw[ub];exact qp y)
       have ub5:o5 b1=(y.l.id+1,0):=(hs5.tags _ lM.lt).trans ub;have sO:=sM.trans hs5;go_wp2_with fail;go_roundw
       case rel=>exact⟨k+1,o5,by simp,by omega,by rw[<-HL3.o];exact hS5,dZ,j5,ub5,sO⟩
       case measure=>simp[intOf];omega
     ·obtain rfl:k=hs.length:=by omega
      rw[aL]at hA;clear hlt;try clear uR hhn
      have hx6:(S1.h (S1.H.BP hs V)).Au[i]?=some x:=by show S1.Au[i]?=_;rw[gG.o];exact HX.o
      have hho:(S1.h (S1.H.BP hs V)).Aw=S.Aw:=by show S1.Aw=_;rw[gG.o]
      obtain⟨vq6,vl6,vm6,jbb,hrw⟩:=hA.A3;have Aek:=jbb;unfold qm at jbb;rw[hho]at jbb;obtain⟨vt6,jx6,_⟩:=(hA.Au i x hx6).A3;unfold zj at jx6;have cx:=jx6.cell;have cb:=jbb.cell;have zb:=jbb.free;have sb:=jbb.lt;have c1:=jb1.cell 0;have s1:=jb1.lt;by_cases hh:S.Aw=(i:Int)
      ·have uR:(S.Aw==(i:Int))=true:=by rw[beq_iff_eq];exact hh
       have hos:o2 y.sb=(y.l.id,11):=hA.os;have nsb:b1≠y.sb:=fun e=>by rw[e,hos]at ub;injection ub with h1 _;omega
       have e1:RC.S=({ S1.h (S1.H.BP hs V) with Aw:=-1,version:=V }:Am).tx i x.ended:=by
        rw[qC.o];show (S.Br i).tx i x.ended=_;rw[rF.out,if_pos hh,gG.o];rfl
       have HE1:=Qa e1;have hfin:=Qa (fun (W:Aa) (hb:Ae wo wo W) =>
        have hk7:Stp (fun t=>t=(y.l.id,11)) o2 o2 wo ((W.setCell ⟨y.sb,6,none⟩ (I Z (-1))).setCell ⟨y.sb,7,none⟩ (I Z V)):=((Stp.of_below hb).setCell (by show o2 y.sb=_;exact hos) _).setCell (by show o2 y.sb=_;exact hos) _
        have hs7:Stp (kh y) o2 o2 wo ((W.setCell ⟨y.sb,6,none⟩ (I Z (-1))).setCell ⟨y.sb,7,none⟩ (I Z V)):=hk7.mono fun t ht=>by rw[ht];exact⟨rfl,.inl rfl⟩
        have mG:Av ((W.setCell ⟨y.sb,6,none⟩ (I Z (-1))).setCell ⟨y.sb,7,none⟩ (I Z V)) o2 y { S1.h (S1.H.BP hs V) with Aw:=-1,version:=V }:=
         hA.own rfl rfl rfl rfl rfl (((Aek.below hb Aek.lt).set 6 (I Z (-1))).set 7 (I Z V)) ((⟨hrw.q,hrw.l,hrw.m⟩:Cy wo o2 y.l.id { S1.h (S1.H.BP hs V) with Aw:=-1,version:=V } vq6 vl6 vm6).Ar hk7 fun j h1 h2=>by simp;omega) hs7
        aN hs7 mG)
       clear hh hos e1;go_upto_region 17 with fail;go_quiet (fail);have HF:=Qa (hfin.o (wo.drewN nq) (zo (qd _) _));have lU:=Qa (RH HF.o.2 (i:=i) (x:=x) hx6);go_wp2_with fail;refine lU.o.mono ?_;rintro e w6 ⟨rfl,o6,eT,hs6⟩;go_wp2_with fail;go_ret2;refine⟨by rw[qC.o,wG.out];rfl,o6,?_,HS.o.trans (hst.trans ((HF.o.1.mono fun _=>mh).trans hs6))⟩
       rw[HE1.o];exact eT
      ·have uR:(S.Aw==(i:Int))=false:=by rw[Qh];exact hh
       have e1:RC.S=(S1.h (S1.H.BP hs V)).tx i x.ended:=by
        rw[qC.o];show (S.Br i).tx i x.ended=_;rw[rF.out,if_neg hh,gG.o];rfl
       have HE1:=Qa e1;clear e1;go_upto_region 17 with fail;go_quiet (fail);have lU:=Qa (RH (hA.below (zo (qd _) nq)) (i:=i) (x:=x) hx6);go_wp2_with fail;refine lU.o.mono ?_;rintro e w6 ⟨rfl,o6,eT,hs6⟩;go_wp2_with fail;go_ret2;refine⟨by rw[qC.o,wG.out];rfl,o6,?_,HS.o.trans (hst.trans ((Stp.of_below (zo (qd _) _)).trans hs6))⟩
       rw[HE1.o];exact eT
end
section
variable {w w' : Aa} {o o' : Own} {y : Bl} {S : Am} {i : Nat}
def Am.take (S:Am)(i:Nat):B2:=S.AF i (S.Bp i)
def qjk (h:Av w o y S)(hi:i<S.Au.length)(hn:S.Aw≠-1/\S.Aw≠(i:Int)\/(S.t i).start<S.version){b1:Nat}(j1:An w b1 #[ptr y.sb] 58) :
  Ab ANa 154 #[ptr (y.xb i),ptr b1] w fun e w'=>e=O (Ak #[(),I Z 141])/\Ae w w w':=by
 obtain⟨vt,jx,_⟩:=(h.Au i _ (Am.AW hi)).A3;unfold zj at jx;obtain⟨vq,vl,vm,jb,_⟩:=h.A3;unfold qm at jb;have c1:=j1.cell;have cx:=jx.cell;have c:=jb.cell;have hcase:((S.Aw != -1)=true/\(S.Aw != (i:Int))=true)\/((S.Aw != -1)=false/\((S.t i).start:Int)<(S.version:Int))\/((S.Aw != -1)=true/\(S.Aw != (i:Int))=false/\((S.t i).start:Int)<(S.version:Int)):=by
  by_cases e1:S.Aw=-1
  ·right;left
   exact⟨by rw[e1];rfl,by omega⟩
  ·have b1:(S.Aw != -1)=true:=by rw[bne_iff_ne];exact e1
   by_cases e2:S.Aw=(i:Int)
   ·right;right
    exact⟨b1,by rw[e2];simp,by omega⟩
   ·exact .inl ⟨b1,by rw[bne_iff_ne];exact e2⟩
 clear h hi hn;generalize S.Aw=hd at *;generalize S.t i=x at *;rcases hcase with ⟨hb1,hb2⟩|⟨hb1,hb2⟩|⟨hb1,hb2,hb3⟩
 all_goals
  go_in;go_upto_region 1 with fail;go_quiet (fail);go_wp2_with fail;go_ret2;exact⟨rfl,zo (qd w) _⟩
def Av.hold (h:Av w o y S)(i:Nat){W:Aa}(hb:Ae w w W) :
  Av (W.setCell ⟨y.sb,6,none⟩ i) o y { S with Aw:=(i:Int) }/\Stp (kh y) o o w (W.setCell ⟨y.sb,6,none⟩ i):=by
 obtain⟨vq,vl,vm,jb,hrw⟩:=h.A3;have hk:Stp (fun t=>t=(y.l.id,11)) o o w (W.setCell ⟨y.sb,6,none⟩ i):=(Stp.of_below hb).setCell (by show o y.sb=_;exact h.os) _
 have hs:Stp (kh y) o o w (W.setCell ⟨y.sb,6,none⟩ i):=hk.mono fun t ht=>by rw[ht];exact⟨rfl,.inl rfl⟩
 exact⟨h.own (S':={ S with Aw:=(i:Int) }) rfl rfl rfl rfl rfl ((jb.below hb jb.lt).set 6 i) ((⟨hrw.q,hrw.l,hrw.m⟩:Cy w o y.l.id { S with Aw:=(i:Int) } vq vl vm).Ar hk fun j h1 h2=>by simp;omega) hs,hs⟩
def Row.at2 {e:TypeId}{t:Tag}{l:List (Nat×Nat)}{g n cap:Nat}(h:Row w o t e 2 (Ai (some ⟨g,0,none⟩) n cap) n (qh l))(i:Nat)(x:Nat×Nat)(hx:l[i]?=some x) :
  w.cell? ⟨g,2*i,none⟩=some (nv x.1)/\w.cell? ⟨g,2*i+1,none⟩=some (nv x.2):=by
 obtain⟨h1,h2⟩:=y7 l i x hx;have e1:=h.own.cells (g:=g) rfl _ _ h1;have e2:=h.own.cells (g:=g) rfl _ _ h2;simp only[Addr.add_lit,ai]at e1 e2;exact⟨e1,e2⟩
def We (h:Av w o y S)(hi:i<S.Au.length)(hn:S.Aw=-1\/S.Aw=(i:Int))(hv:S.version<=(S.t i).start)(hq:S.queue=[]\/∃ z l,S.queue=z::l/\(S.t i).seen<=z.2)
  {b1:Nat}(j1:An w b1 #[ptr y.sb] 58)(t1:o b1=(y.l.id+1,0)) :
  Ab ANa 154 #[ptr (y.xb i),ptr b1] w fun e w'=>e=O (Ak #[(),()])/\BM y { S with Aw:=(i:Int) } o w w':=by
 have hfin:=Qa (fun (W:Aa)(hb:Ae w w W)=>h.hold i hb)
 obtain⟨vt,jx,_⟩:=(h.Au i _ (Am.AW hi)).A3;unfold zj at jx;obtain⟨vq,vl,vm,jb,hrw⟩:=h.A3;have hrq:=hrw.q;unfold qm at jb;have hos:=h.os;have n1:b1≠y.sb:=fun e=>by rw[e,hos]at t1;injection t1 with t1 _;omega
 have nx:y.xb i≠y.sb:=fun e=>by have h1:=(h.Au i _ (Am.AW hi)).ob;rw[e,hos]at h1;injection h1 with _ h1;omega
 have hvI:¬((S.t i).start:Int)<(S.version:Int):=by omega
 have c1:=j1.cell;have cx:=jx.cell;obtain⟨pa,cp,rfl⟩:=hrq.A6
 have hq2:((((S.queue.length:Nat):Int)==0)=true)\/∃ g z,pa=some ⟨g,0,none⟩/\g≠y.sb/\(((S.queue.length:Nat):Int)==0)=false/\(0:Int)<((S.queue.length:Nat):Int)/\w.cell? ⟨g,1,none⟩=some (I Z (z:Nat))/\((S.t i).seen:Int)<=(z:Int):=by
  rcases hq with h0|⟨z,l,h0,hz⟩
  ·exact .inl (by rw[h0];rfl)
  ·right
   rw[h0]at hrq ⊢;rcases hrq.Dc with ⟨_,hh⟩|⟨g,cap,e,hn⟩
   ·simp[qh]at hh
   ·injection e with e1 _ e3
    subst e1 e3;obtain⟨_,r1⟩:=hrq.at2 0 z rfl;exact⟨g,z.2,rfl,fun e=>by have:=hrq.EB;rw[e,hos]at this;injection this with _ this;omega,by rw[Qh];simp;omega,by simp,r1,by omega⟩
 clear h hi hos hv hq hrq hrw t1;generalize S.t i=x at *;generalize S.queue.length=ql at *;rcases hn with hn|hn
 all_goals
  rw[hn]at jb;have c:=jb.cell;have z:=jb.free;have s:=jb.lt;rcases hq2 with hq0|⟨g,zq,rfl,ng,hq0,hqp,cq,hzq⟩
  all_goals
   go_in;go_upto_region 1 with fail;go_quiet (fail);go_upto_region 3 with fail;go_region_with (fail)
   all_goals
    go_upto_region 4 with fail;go_quiet (fail);go_wp2_with fail;go_ret2;obtain⟨hS,hs⟩:=hfin.o _ (zo (qd w) _);exact⟨rfl,o,hS.below (zo (qd _) _),(hs.trans (Stp.of_below (zo (qd _) _))).mono fun _=>mh⟩
end
end
section
open Go.RowKit Hp
def qe4 (P:Program)(t ty e:TypeId)(i:TypeInfo)(z:Ac)(ht:P.underlying t=some (.slice e))(hi:P.info? e=some i)(hz:i.zero=some z)(w:Aa)(g k n c:Nat)(cur:Array Ac)(hg:w.heap[g]?=some (.cells cur e (0,0)))(hn:0<n)
  (hfit:k+(Ad z.cells n).size<=cur.size)(h1:∀ v ∈ (Ad z.cells n).toList,v.oneCell'=true) :
  (aO #[t] ty #[Ai (some ⟨g,k,none⟩) n c]).run P w=.ok (Ak #[]) (w.setRow g (cur.toList.take k++(Ad z.cells n).toList++cur.toList.drop (k+(Ad z.cells n).size)).toArray):=by
 obtain⟨m,rfl⟩:∃ m,n=m+1:=⟨n-1,by omega⟩
 have hst:=run_storeCells_at P g k e (Ad z.cells (m+1)).toList 0 cur w hg (by simpa using hfit) h1
 simp only[bF,Array.length_toList]at hst;simp[aO,run_underlying ht,zeroValue,typeInfo,hi,hz,hst]
def qd1 {P:Program}(w:Aa){ops:Array Oper}{op:Oper}{a:Act}{K:Act->Aa->Prop}{Q:Exit->Act->Aa->Prop}{E:Prop}(hgd:op.guard=none)(s x:Operand)(t:TypeId)
  (ho:op.op=.call { callee:=.builtin .append,args:=#[s,x],argTypes:=#[t,t] })(v vs v':Ac)(w':Aa)(hr:(bK #[t,t] op.type #[v,vs]).run P w=.ok v' w')(hs:a.eval s=v)(hx:a.eval x=vs)
  (h:K (a.put op.dst v') w'):if Region.wanted op (yielded ops a.tmps)=true then Oper.wp P op a w K Q else E:=by
 have hw:Region.wanted op (yielded ops a.tmps)=true:=by simp[Region.wanted,hgd]
 rw[if_pos hw];unfold Oper.wp execOp;simp only[ho,resolve,invoke,builtin,Sem.run_bind,Sem.run_pure,Result.andThen_ok,List.map_toArray,aP,bG,hs,hx,hr];exact h
def Ww {w:Aa}{o:Own}{T:Tag->Prop}{g:Nat}(ht:T (o g))(cs:Array Ac):Stp T o o w (w.setRow g cs):=
 ⟨by simp,by simp,by simp,by simp,fun _ _=>rfl,fun b _ h=>setRow_other _ _ _ _ fun e=>h (by rw[e];exact ht)⟩
def TS:Ad (Value.agg #[(),()]).cells 1=#[I Z 0,()]:=by
 have h:∀ z:Array Ac,z=#[I Z 0,()]->Ad z 1=#[I Z 0,()]:=fun z hz=>by
  subst hz;apply Array.ext
  ·simp[Ad]
  ·intro i h1 h2
   obtain rfl|rfl:i=0\/i=1:=by simp at h2;omega
   ·simp[Ad]
   ·simp[Ad]
 exact h _ rfl
def MJ {w:Aa}{o:Own}{t:Tag}{v:Ac}{z:Nat×Nat}{l:List (Nat×Nat)}(hr:Row w o t 118 2 v (l.length+1) (qh (z::l)))(hl:l.length<=1099511627776) :
  Ab ANa 155 #[v,(),I Z 1] w fun e w'=>∃ v',e=O v'/\Row w' o t 118 2 v' l.length (qh l)/\Stp (fun u=>u=t) o o w w':=by
 obtain⟨iU,hi,hsI,cK,bZ⟩:=gi;have hu64:=underlying98;rcases hr.own.2 with ⟨_,h0⟩|⟨g,cap,cur,rfl,_,hg,hnc,hcm,hcs,htk⟩
 ·omega
 have hlen:(qh l).length=l.length*2:=by
  have:∀ m:List (Nat×Nat),(qh m).length=m.length*2:=fun m=>by induction m with
   | nil=>rfl
   | cons a m ih=>simp[qh,ih];omega
  exact this l
 have hT:=hr.tag g rfl;have hgl:g<w.1.size:=(Qf.1 hg).1;have kV:∀ j u,(qh l)[j]?=some u->w.cell? ((⟨g,2,none⟩:Addr).add j)=some u:=fun j u hu=>by
  have h1:=hr.own.cells (g:=g) rfl (j+2) u (by simpa [qh] using hu)
  have e1:((⟨g,2,none⟩:Addr).add j)=((⟨g,0,none⟩:Addr).add (j+2)):=by
   unfold Addr.add;split<;>split<;>simp_all<;>omega
  rw[e1];exact h1
 have hq:∃ q,(if cap=1 then (some ⟨g,0,none⟩:Option Addr) else some ⟨g,2,none⟩)=some ⟨g,q,none⟩/\∀ j u,(qh l)[j]?=some u->w.cell? ((⟨g,q,none⟩:Addr).add j)=some u:=by
  by_cases e:cap=1
  ·have hl0:l=[]:=aB (by omega)
   subst hl0;exact⟨0,by rw[if_pos e],fun j u hu=>by simp[qh]at hu⟩
  ·exact⟨2,by rw[if_neg e],kV⟩
 obtain⟨q,hq,kW⟩:=hq;have hA:=run_append_room (P:=ANa) w.drew 98 98 118 iU hu64 hi g 0 cap cur hg ⟨g,q,none⟩ l.length (cap-1) (qh l) (by rw[hlen,hsI]) kW (uo l) (by omega) (by rw[hlen,hcs];omega)
 simp only[bH,ai,List.take_zero,ay]at hA;obtain⟨c1,hc1⟩:=Ja0 ((qh l++cur.toList.drop (qh l).length).toArray);rw[<-hc1]at hA;have hs1:c1.size=cap*2:=by rw[hc1];simp;omega
 have hg1:(w.drew.setRow g c1).heap[g]?=some (.cells c1 118 (0,0)):=setRow_heap _ _ _ _ _ _ hg;have hC0:=qe4 ANa 98 0 118 iU _ hu64 hi bZ (w.drew.setRow g c1) g (l.length*2) 1 (cap-l.length) c1 hg1 (by omega) (by rw[TS];show _+2<=_;omega) (by rw[TS];simp[Value.oneCell'])
 simp only[TS]at hC0;obtain⟨c2,hc2⟩:=Ja0 ((c1.toList.take (l.length*2)++[aC .i64 0,I Z 0]++c1.toList.drop (l.length*2+2)).toArray);have hC:(aO #[98] 0 #[Ai (some ⟨g,l.length*2,none⟩) 1 (cap-l.length)]).run ANa (w.drew.setRow g c1)=.ok (Ak #[]) ((w.drew.setRow g c1).setRow g c2):=by rw[hc2];exact hC0
 clear hC0;have hs2:c2.size=cap*2:=by rw[hc2];simp;omega
 have hg2:((w.drew.setRow g c1).setRow g c2).heap[g]?=some (.cells c2 118 (0,0)):=setRow_heap _ _ _ _ _ _ hg1;have Aed:c2.toList.take (l.length*2)=qh l:=by
  rw[hc2,hc1];rw[aT,aI (by simp;omega),List.take_take,Nat.min_self,aI (by omega),<-hlen,aL]
 have hfin:=Qa (show Row ((w.drew.setRow g c1).setRow g c2) o t 118 2 (Ai (some ⟨g,0,none⟩) l.length cap) l.length (qh l)/\Stp (fun u=>u=t) o o w ((w.drew.setRow g c1).setRow g c2) from
  ⟨⟨⟨hlen,.inr ⟨g,cap,c2,rfl,af _,hg2,by omega,hcm,hs2,Aed⟩⟩,fun k hk=>by simp[aX]at hk;rw[<-hk];exact hT⟩,
   ((Stp.of_below (qf (qd w))).trans (Ww hT _)).trans (Ww hT _)⟩)
 have i0:(0:Int)<=(l.length:Int)+1:=by omega
 have i1:(1:Int)<=(l.length:Int)+1:=by omega
 have i2:(l.length:Int)+1<=(cap:Int):=by omega
 have i3:((l.length:Int)+1).toNat=l.length+1:=by omega
 have i4:(1:Int)<=(cap:Int):=by omega
 have i5:¬cap=l.length:=by omega
 have i6:(l.length:Int)<=(l.length:Int)+1:=by omega
 clear hr hl hg hnc hcm hcs htk hlen hT hgl kV kW hc1 hs1 hg1 hc2 hs2 hg2 Aed;go_in;go_upto_region 5 with fail;go_region_law (refine qd1 _ (by rfl) _ _ _ (by rfl) _ _ _ _ hA (by rfl) (by rfl) ?_)
 all_goals
  go_wp2_with fail;go_ret;exact⟨_,rfl,hfin.o⟩
end
section
open Go.RowKit Hp
attribute [local go_sem ↓] Go.wp_at_zero Go.wp_at_succ
structure R6 where
 a0:Int
 a1:Int
 a2:Int
 a3:Int
 a4:Int
 a5:Int
deriving DecidableEq
structure AE where
 b:Int
 n:Int
 r:R6
 s:R6
 l:Bool
deriving DecidableEq
def AE.cells (h:AE):Array Ac:=#[h.b,h.n,h.r.a0,h.r.a1,h.r.a2,h.r.a3,h.r.a4,h.r.a5,h.s.a0,h.s.a1,h.s.a2,h.s.a3,h.s.a4,h.s.a5,.bool h.l]
def AE.v (h:AE):Ac:=.agg h.cells
structure BD where
 k:Int
 e:Int
 v:Int
deriving DecidableEq
def BD.cells (a:BD):Array Ac:=#[a.k,a.e,a.v]
def BD.val (a:BD):Ac:=.agg a.cells
def AE.back (h:AE):AE:=⟨h.b,0,h.s,h.s,false⟩
def SD (h:AE)(w:Aa):Ab ANa 84 #[h.v] w fun e w'=>e=O h.back.v/\Ae w w w':=by
 obtain⟨hb,hn,⟨a0,a1,a2,a3,a4,a5⟩,⟨s0,s1,s2,s3,s4,s5⟩,hl⟩:=h;show Ab _ _ #[Al #[hb,hn,a0,a1,a2,a3,a4,a5,s0,s1,s2,s3,s4,s5,hl]] _ _;go_in;go_wp2_with fail;obtain⟨W,hW⟩:=Ja0 ((w.alloc (ANb #[hb,(),s0,s1,s2,s3,s4,s5,s0,s1,s2,s3,s4,s5,false] 49)).alloc (ANb #[hb,(),s0,s1,s2,s3,s4,s5,s0,s1,s2,s3,s4,s5,false] 49));rw[<-hW];have j8:An W (w.1.size+1) #[hb,(),s0,s1,s2,s3,s4,s5,s0,s1,s2,s3,s4,s5,false] 49:=by rw[hW];exact An.Ax _ _ _ _ _ (by simp) rfl
 have hbl:Ae w w W:=by rw[hW];exact qc (qc (qd w) _) _
 clear hW;have c8:=j8.cell;refine bodyPost_ret (v:=AE.v ⟨hb,0,⟨s0,s1,s2,s3,s4,s5⟩,⟨s0,s1,s2,s3,s4,s5⟩,false⟩) ?_ rfl ⟨rfl,hbl⟩;simp[results,results84,go_sem,c8,AE.v,AE.cells]
def js (W:Aa)(b6 b7:Nat)(h:AE)(a:BD):Aa:=((((((((((((((((((W.setCell ⟨b6,0,none⟩ (I Z h.b)).setCell ⟨b6,1,none⟩ (I Z h.n)).setCell ⟨b6,2,none⟩ (I Z h.r.a0)).setCell ⟨b6,3,none⟩ (I Z h.r.a1)).setCell ⟨b6,4,none⟩ (I Z h.r.a2)).setCell ⟨b6,5,none⟩ (I Z h.r.a3)).setCell ⟨b6,6,none⟩ (I Z h.r.a4)).setCell ⟨b6,7,none⟩ (I Z h.r.a5)).setCell ⟨b6,8,none⟩ (I Z h.s.a0)).setCell ⟨b6,9,none⟩ (I Z h.s.a1)).setCell ⟨b6,10,none⟩ (I Z h.s.a2)).setCell ⟨b6,11,none⟩ (I Z h.s.a3)).setCell ⟨b6,12,none⟩ (I Z h.s.a4)).setCell ⟨b6,13,none⟩ (I Z h.s.a5)).setCell ⟨b6,14,none⟩ (.bool h.l)).setCell ⟨b7,0,none⟩ (I Z a.k)).setCell ⟨b7,1,none⟩ (I Z a.e)).setCell ⟨b7,2,none⟩ (I Z a.v))
def Li:Array Ac:=#[(),(),(),(),(),(),(),(),(),(),(),(),(),(),false]
def FF:Array Ac:=#[(),(),()]
def ji {W:Aa}{b6 b7:Nat}{t6 t7:TypeId}(j6:An W b6 Li t6)(j7:An W b7 FF t7)(hne:b6≠b7)(h:AE)(a:BD):An (js W b6 b7 h a) b6 h.cells t6/\An (js W b6 b7 h a) b7 a.cells t7:=by
 have hne':b7≠b6:=fun e=>hne e.symm
 have a1:=((((((((((((((((((j6.set 0 (I Z h.b)).set 1 (I Z h.n)).set 2 (I Z h.r.a0)).set 3 (I Z h.r.a1)).set 4 (I Z h.r.a2)).set 5 (I Z h.r.a3)).set 6 (I Z h.r.a4)).set 7 (I Z h.r.a5)).set 8 (I Z h.s.a0)).set 9 (I Z h.s.a1)).set 10 (I Z h.s.a2)).set 11 (I Z h.s.a3)).set 12 (I Z h.s.a4)).set 13 (I Z h.s.a5)).set 14 (.bool h.l)).Ao (a:=⟨b7,0,none⟩) hne (I Z a.k)).Ao (a:=⟨b7,1,none⟩) hne (I Z a.e)).Ao (a:=⟨b7,2,none⟩) hne (I Z a.v));have a2:=((((((((((((((((((j7.Ao (a:=⟨b6,0,none⟩) hne' (I Z h.b)).Ao (a:=⟨b6,1,none⟩) hne' (I Z h.n)).Ao (a:=⟨b6,2,none⟩) hne' (I Z h.r.a0)).Ao (a:=⟨b6,3,none⟩) hne' (I Z h.r.a1)).Ao (a:=⟨b6,4,none⟩) hne' (I Z h.r.a2)).Ao (a:=⟨b6,5,none⟩) hne' (I Z h.r.a3)).Ao (a:=⟨b6,6,none⟩) hne' (I Z h.r.a4)).Ao (a:=⟨b6,7,none⟩) hne' (I Z h.r.a5)).Ao (a:=⟨b6,8,none⟩) hne' (I Z h.s.a0)).Ao (a:=⟨b6,9,none⟩) hne' (I Z h.s.a1)).Ao (a:=⟨b6,10,none⟩) hne' (I Z h.s.a2)).Ao (a:=⟨b6,11,none⟩) hne' (I Z h.s.a3)).Ao (a:=⟨b6,12,none⟩) hne' (I Z h.s.a4)).Ao (a:=⟨b6,13,none⟩) hne' (I Z h.s.a5)).Ao (a:=⟨b6,14,none⟩) hne' (.bool h.l)).set 0 (I Z a.k)).set 1 (I Z a.e)).set 2 (I Z a.v));have e1:∀ x,x=h.cells->An (js W b6 b7 h a) b6 x t6->An (js W b6 b7 h a) b6 h.cells t6:=fun x e k=>by rw[<-e];exact k
 have e2:∀ x,x=a.cells->An (js W b6 b7 h a) b7 x t7->An (js W b6 b7 h a) b7 a.cells t7:=fun x e k=>by rw[<-e];exact k
 refine⟨e1 _ ?_ a1,e2 _ ?_ a2⟩
 ·simp only[Li,AE.cells,Aj,ag,aA]
 ·simp only[FF,BD.cells,Aj,ag,aA]
def yi {w W:Aa}{b6 b7:Nat}(h1:Ae w w W)(h6:w.1.size<=b6)(h7:w.1.size<=b7)(h:AE)(a:BD):Ae w w (js W b6 b7 h a):=(qo (qo (qo (qo (qo (qo (qo (qo (qo (qo (qo (qo (qo (qo (qo (qo (qo (qo h1 h6 _) h6 _) h6 _) h6 _) h6 _) h6 _) h6 _) h6 _) h6 _) h6 _) h6 _) h6 _) h6 _) h6 _) h6 _) h7 _) h7 _) h7 _)
def Ds (W:Aa)(b:Nat)(h:AE):Aa:=(((((((((((((((W.setCell ⟨b,0,none⟩ (I Z h.b)).setCell ⟨b,1,none⟩ (I Z h.n)).setCell ⟨b,2,none⟩ (I Z h.r.a0)).setCell ⟨b,3,none⟩ (I Z h.r.a1)).setCell ⟨b,4,none⟩ (I Z h.r.a2)).setCell ⟨b,5,none⟩ (I Z h.r.a3)).setCell ⟨b,6,none⟩ (I Z h.r.a4)).setCell ⟨b,7,none⟩ (I Z h.r.a5)).setCell ⟨b,8,none⟩ (I Z h.s.a0)).setCell ⟨b,9,none⟩ (I Z h.s.a1)).setCell ⟨b,10,none⟩ (I Z h.s.a2)).setCell ⟨b,11,none⟩ (I Z h.s.a3)).setCell ⟨b,12,none⟩ (I Z h.s.a4)).setCell ⟨b,13,none⟩ (I Z h.s.a5)).setCell ⟨b,14,none⟩ (.bool h.l))
def dc {W:Aa}{b:Nat}{t:TypeId}{g:AE}(j:An W b g.cells t)(h:AE):An (Ds W b h) b h.cells t:=by
 have a1:=(((((((((((((((j.set 0 (I Z h.b)).set 1 (I Z h.n)).set 2 (I Z h.r.a0)).set 3 (I Z h.r.a1)).set 4 (I Z h.r.a2)).set 5 (I Z h.r.a3)).set 6 (I Z h.r.a4)).set 7 (I Z h.r.a5)).set 8 (I Z h.s.a0)).set 9 (I Z h.s.a1)).set 10 (I Z h.s.a2)).set 11 (I Z h.s.a3)).set 12 (I Z h.s.a4)).set 13 (I Z h.s.a5)).set 14 (.bool h.l));have e1:∀ x,x=h.cells->An (Ds W b h) b x t->An (Ds W b h) b h.cells t:=fun x e k=>by rw[<-e];exact k
 refine e1 _ ?_ a1;simp only[AE.cells,Aj,ag,aA]
def ud {W:Aa}{b c:Nat}{t:TypeId}{cs:Array Ac}(j:An W c cs t)(hne:c≠b)(h:AE):An (Ds W b h) c cs t:=by
 have a1:=(((((((((((((((j.Ao (a:=⟨b,0,none⟩) hne (I Z h.b)).Ao (a:=⟨b,1,none⟩) hne (I Z h.n)).Ao (a:=⟨b,2,none⟩) hne (I Z h.r.a0)).Ao (a:=⟨b,3,none⟩) hne (I Z h.r.a1)).Ao (a:=⟨b,4,none⟩) hne (I Z h.r.a2)).Ao (a:=⟨b,5,none⟩) hne (I Z h.r.a3)).Ao (a:=⟨b,6,none⟩) hne (I Z h.r.a4)).Ao (a:=⟨b,7,none⟩) hne (I Z h.r.a5)).Ao (a:=⟨b,8,none⟩) hne (I Z h.s.a0)).Ao (a:=⟨b,9,none⟩) hne (I Z h.s.a1)).Ao (a:=⟨b,10,none⟩) hne (I Z h.s.a2)).Ao (a:=⟨b,11,none⟩) hne (I Z h.s.a3)).Ao (a:=⟨b,12,none⟩) hne (I Z h.s.a4)).Ao (a:=⟨b,13,none⟩) hne (I Z h.s.a5)).Ao (a:=⟨b,14,none⟩) hne (.bool h.l));exact a1
def nc {w W:Aa}{b:Nat}(h1:Ae w w W)(h6:w.1.size<=b)(h:AE):Ae w w (Ds W b h):=(qo (qo (qo (qo (qo (qo (qo (qo (qo (qo (qo (qo (qo (qo (qo h1 h6 _) h6 _) h6 _) h6 _) h6 _) h6 _) h6 _) h6 _) h6 _) h6 _) h6 _) h6 _) h6 _) h6 _) h6 _)
def qr {X:Aa}{b6 b7:Nat}{t6 t7:TypeId}{h:AE}{a:BD}(fn:Func)(tmps:Array Ac)(i j:Nat)(hres:fn.results=#[.cell i 49,.cell j 33])(ti:tmps.getD i undef=ptr b6)(tj:tmps.getD j undef=ptr b7)
  (j6:An X b6 h.cells t6)(j7:An X b7 a.cells t7):(results fn tmps).run ANa X=.ok (Ak #[h.v,a.val]) X:=by
 have d6:=j6.cell;have d7:=j7.cell;unfold AE.cells at d6;unfold BD.cells at d7;rw[aK]at ti tj;unfold ptr at ti tj;simp only[results,hres];simp[go_sem,ti,tj,d6,d7,AE.v,AE.cells,BD.val,BD.cells]
end
section
open Go.RowKit Hp
open Go.MuLone
attribute [local go_sem ↓] Go.wp_at_zero Go.wp_at_succ
structure DW where
 t:Int
 b:Int
 n:Int
 a:BD
deriving DecidableEq
def za:List DW->List Ac
 | []=>[]
 | x::l=>I Z x.t::I Z x.b::I Z x.n::I Z x.a.k::I Z x.a.e::I Z x.a.v::za l
def qjg (l:List DW):∀ u ∈ za l,u.oneCell'=true:=by
 induction l with
 | nil=>intro u hu;simp[za]at hu
 | cons x l ih =>
  intro u hu;simp only[za,aZ]at hu;rcases hu with rfl|rfl|rfl|rfl|rfl|rfl|hu
  ·rfl
  ·rfl
  ·rfl
  ·rfl
  ·rfl
  ·rfl
  ·exact ih u hu
def qin (l:List DW)(x:DW):za (l++[x])=za l++[I Z x.t,I Z x.b,I Z x.n,I Z x.a.k,I Z x.a.e,I Z x.a.v]:=by
 induction l with
 | nil=>rfl
 | cons y l ih=>simp[za,ih]
def WN:∃ i,ANa.info? 53=some i/\i.size=6/\i.bytes=48/\i.zero=some (Al #[(),(),(),(),(),()]):=info_parts (by kernel_rfl)
def Lq (b:Nat) (es:List DW) (v:Ac) (w:Aa) (o:Own) (tg:Tag) (h0:w.cell? ⟨b,3,none⟩=some (.int .i32 0)) (h2:w.cell? ⟨b,5,none⟩=some v) (f0:w.frozen? ⟨b,3,none⟩=false) (hlt:b<w.1.size)
  (hr:Row w o tg 53 6 v es.length (za es)) (hn:es.length<=2000) (nb:o b≠tg) :
  Ab ANa 30 #[Ah (some ⟨b,3,none⟩)] w fun e w'=>∃ v' w1,e=O v'/\Row w1 (fo w) (1,0) 53 6 v' es.length (za es)/\Ae w (w.setCell ⟨b,3,none⟩ (.int .i32 1)) w1/\w'=w1.setCell ⟨b,3,none⟩ (.int .i32 0):=by
 obtain⟨iU,hi,hsI,cK,bZ⟩:=WN;have hu64:=underlying36;have hr1:=hr.Ar (T:=fun u=>u=o b) ((Stp.refl _ o w).setCell (a:=⟨b,3,none⟩) (by show o b=o b;rfl) (.int .i32 1)) (fun e=>nb e.symm)
 obtain⟨n,hnn⟩:=Ja0 es.length;rw[<-hnn]at hr1 hn ⊢;have HR:=Qa hr1;have hk1:Q2 (0+n<=maxLen):=by show 0+n<=_;simp only[maxLen];omega
 have hk2:Q2 ((0+n)*48<=140737488355328):=by show (0+n)*48<=_;omega
 obtain⟨pa,cp,rfl⟩:=hr.A6;rw[<-hnn]at HR h2;clear hr hr1 hn hnn nb;go_enter_defers func30,ntmps30;go_wp2_with (first
  | (go_at_call 43;refine (lock_free Tryz.muLib ⟨b,3,none⟩ _ h0 f0).mono ?_;rintro e w' ⟨rfl,rfl⟩)
  | (at_builtin;refine zu _ rfl _ _ _ rfl 53 iU _ 6 48 hu64 hi bZ hsI cK rfl (by decide) (fo w) (1,0) _ 0 [] rfl (Row.nil _ _ _ _ _) _ _ _ n (za es) rfl HR.o (qjg es) hk1.out hk2.out ?_;intro v' w8 hown hst))
 have hz:w.1.size=(w.setCell ⟨b,3,none⟩ (.int .i32 1)).1.size:=by simp
 have hc1:(w.setCell ⟨b,3,none⟩ (.int .i32 1)).cell? ⟨b,3,none⟩=some (.int .i32 1):=aM w ⟨b,3,none⟩ (.int .i32 1) h0;have hf1:(w.setCell ⟨b,3,none⟩ (.int .i32 1)).frozen? ⟨b,3,none⟩=false:=by simp[f0]
 rw[hz]at hown hst hlt;have gX:=yy (qd _) hown;have eB:=xz (qd _) hst;simp only[ai,ay]at gX;have hc8:w8.cell? ⟨b,3,none⟩=some (.int .i32 1):=by rw[eB.cell (p:=⟨b,3,none⟩) hlt];exact hc1
 have hf8:w8.frozen? ⟨b,3,none⟩=false:=by
  have e:=eB.block b hlt;simp only[aQ,e]at hf1 ⊢;exact hf1
 refine leaves_cons (f:=44) (args:=#[Ah (some ⟨b,3,none⟩)]) (by simp) (by simp[go_sem]) ?_
 refine (unlock_deferred Tryz.muLib ⟨b,3,none⟩ .returning _ hc8 hf8).mono ?_
 rintro e u' w'' ⟨rfl,rfl,rfl⟩
 refine⟨_,results_tmp rfl _ _ _,v',w8,rfl,?_,?_,rfl⟩
 ·rw[hz];exact gX
 ·rw[hz];exact eB
end
section
open Go.RowKit Go.Shelf Hp
attribute [local go_sem] Oper.semAt_some
def ll (b:Nat)(w:Aa) :
  Ab ANa 77 #[ptr b] w fun e w'=>e=O (.func (.func 123) #[] #[ptr w])/\w'=w.alloc (ANb #[ptr b] 102):=by
 have fH:∀ (fn:Fn)(first cap:Array Ac)(w:Aa),(aD fn first cap).run ANa w=.ok (.func fn first cap) w:=fun _ _ _ _=>rfl
 go_in;go_wp2_with fail;go_ret;exact⟨rfl,rfl⟩
structure YZ (l bL b:Nat)(R:Loop)(mr mu:Nat)(vr vk vh vu:Ac)(us:List Un)(bA:Nat)(wr:Aa):Prop where
 jA:An wr bA #[vr,vk] 23
 jL:An wr bL #[ptr b] 102
 jB:An wr b #[mr,mu,vr,vk,vh,vu] 153
 hl:wr.heap[l]?=some (.loop R)
 kd:∀ (j:Nat) u,us[j]?=some u->wr.cell? ⟨vy vu,j*4,none⟩=some (nv u.kind)
def bg {l bL b mr mu:Nat} {R:Loop} {vr vk vh vu:Ac} {L:Lg} {W1:Aa} {Post:Ending->Aa->Prop} (J:Nat->Nat->Aa->Prop)
  (hRs:R.params.size=1) (n1:L.reads.length<=200) (n2:L.keeps.length<=200) (n3:L.holds.length<=200) (n4:L.Az.length<=200)
  (fr:∃ a c,vr=.slice a L.reads.length c/\(0<L.reads.length->a=some ⟨vy vr,0,none⟩)) (fk:∃ a c,vk=.slice a L.keeps.length c/\(0<L.keeps.length->a=some ⟨vy vk,0,none⟩))
  (fh:∃ a c,vh=.slice a L.holds.length c/\(0<L.holds.length->a=some ⟨vy vh,0,none⟩)) (fu:∃ a c,vu=.slice a L.Az.length c/\(0<L.Az.length->a=some ⟨vy vu,0,none⟩))
  (jL:An W1 bL #[ptr b] 102) (jB:An W1 b #[mr,mu,vr,vk,vh,vu] 153)
  (hJ0:∀ W2 bA,Ae W1 W1 W2->W1.1.size<=bA->An W2 bA #[vr,vk] 23->J bA 0 W2)
  (hJ:∀ bA m wr,J bA m wr->YZ l bL b R mr mu vr vk vh vu L.Az bA wr)
  (pG:∀ bA m wr a T,J bA m wr->(ya vr vk vh vu L)[m]?=some a->T=(R.params.zip #[Ah (some a)]).foldl (fun tmps (t,a)=>tmps.setIfInBounds t a) R.tmps ->
   RoundIn Fence.wide 1 ANa l R.fn T R.assign R.body wr fun e W'=>e=O (.bool true)/\J bA (m+1) W')
  (bV:∀ bA wr,J bA (ya vr vk vh vu L).length wr->Post (O (Ak #[])) wr) :
  CallsIn Fence.wide 2 ANa 123 #[.func (.yield l) #[] #[],ptr bL] W1 Post:=by
 obtain⟨ar,cr,rfl,far⟩:=fr;obtain⟨ak,ck,rfl,fak⟩:=fk;obtain⟨gh,hgh⟩:=Ja0 (vy vh);obtain⟨gu,hgu⟩:=Ja0 (vy vu);rw[<-hgh]at fh;rw[<-hgu]at fu;have HGh:=Qa hgh;have HGu:=Qa hgu;clear hgh hgu;obtain⟨ah,ch,rfl,fah⟩:=fh;obtain⟨au,cu,rfl,fau⟩:=fu;have HJ0:=Qa hJ0;have HJ:=Qa hJ;have HR:=Qa pG;have HP:=Qa bV;have HRs:=Qa hRs;have hyi:=Qa (fun (wr:Aa) (a:Addr) (hl:wr.heap[l]?=some (.loop R))=>run_yield (P:=ANa) (args:=#[Ah (some a)]) hl (by rw[hRs];rfl))
 have cL:=jL.cell;have cB:=jB.cell;have HF:=Qa (aN far (aN fak (aN fah fau)));clear hJ0 hJ pG bV hRs far fak fah fau;refine callsIn_of_wp func123 rfl trivial ?_ rfl;simp only[ntmps123,aS,Qv,aU,Nat.reduceAdd,Nat.reduceSub,Array.replicate_succ,Array.replicate_zero,List.push_toArray,List.append_toArray,ay,List.cons_append];gi_wp2;gi_region;gi_wp2;obtain⟨W2,hW2⟩:=Ja0 ((W1.alloc (ANb #[.slice ar L.reads.length cr,.slice ak L.keeps.length ck] 23)).drew);obtain⟨bA,fU⟩:=Ja0 W1.1.size;rw[<-hW2,<-fU];have hst:=HJ0.o W2 bA (by rw[hW2];exact qf (qc (qd _) _)) (by omega) (by rw[hW2,fU];exact qj (An.new W1 _ _))
 clear hW2 fU cL cB jL jB HJ0;gi_loopw [21] (fun ix wr=>∃ (t:Nat),ix=I Z t/\t<=2/\J bA (if t=0 then 0 else if t=1 then L.reads.length else L.reads.length+L.keeps.length) wr) (fun ix _=>2-(intOf ix).toNat)
 case atStart=>exact⟨0,rfl,by omega,hst⟩
 case round =>
  clear hst;obtain⟨t,rfl,ht,hA⟩:=hrel;obtain⟨wo,rfl⟩:=Ja0 wr;have hP:=HJ.o _ _ _ hA;have cA:=hP.jA.cell;by_cases hlt:t<2
  ·have h2I:(t:Int)<2:=by omega
   obtain⟨v,a,n,c,g,base,hv,hbase,hn,hg,had⟩:∃ (v:Ac) (a:Option Addr) (n c g base:Nat),v=.slice a n c/\base=(if t=0 then 0 else L.reads.length)/\n<=200/\(0<n->a=some ⟨g,0,none⟩) /\
     (wo.cell? ⟨bA,t,none⟩=some v/\base+n=(if t=0 then L.reads.length else L.reads.length+L.keeps.length)/\∀ j,j<n->(ya (.slice ar L.reads.length cr) (.slice ak L.keeps.length ck) (.slice ah L.holds.length ch) (.slice au L.Az.length cu) L)[base+j]?=some ⟨g,j,none⟩):=by
    obtain rfl|rfl:t=0\/t=1:=by omega
    ·refine⟨_,ar,L.reads.length,cr,_,0,rfl,rfl,n1,HF.o.1,cA 0,by simp,fun j hj=>?_⟩
     rw[ai];exact Mj _ _ _ _ _ hj
    ·refine⟨_,ak,L.keeps.length,ck,_,L.reads.length,rfl,rfl,n2,HF.o.2.1,cA 1,by simp,fun j hj=>?_⟩
     exact Mi _ _ _ _ _ hj
   subst hv;obtain⟨ct,hbn,had⟩:=had;have hA':J bA base wo:=by
    rw[hbase];obtain rfl|rfl:t=0\/t=1:=by omega
    ·exact hA
    ·exact hA
   have HAD:=Qa had;have HG:=Qa hg;have HBN:=Qa hbn;clear had hg hbn hA cA hP hbase;gi_wp2;gi_loopw [27] (fun ix wr=>∃ (j:Nat),ix=I Z j/\j<=n/\J bA (base+j) wr) (fun ix _=>n-(intOf ix).toNat)
   case atStart=>exact⟨0,rfl,by omega,hA'⟩
   case round =>
    clear hA' ct;obtain⟨j,rfl,hj,hA⟩:=hrel;obtain⟨wo,rfl⟩:=Ja0 wr;by_cases hjn:j<n
    ·have qG:(j:Int)<(n:Int):=by omega
     have hg2:=HG.o (by omega)
     subst hg2;have hl:=(HJ.o _ _ _ hA).hl;have hy:=hyi.o wo ⟨g,j,none⟩ hl;obtain⟨T,hT⟩:=Ja0 ((R.params.zip #[Ah (some ⟨g,j,none⟩)]).foldl (fun tmps (t,a)=>tmps.setIfInBounds t a) R.tmps);rw[<-hT]at hy;have iR:=HR.o bA (base+j) wo ⟨g,j,none⟩ T hA (HAD.o j hjn) hT;clear hl hA hT;gi_wp2;refine iR.mono ?_;rintro e w3 ⟨rfl,hA3⟩;clear hy iR;gi_wp2;go_roundw
     case rel=>exact⟨j+1,by simp,by omega,hA3⟩
     case measure=>simp[intOf];omega
    ·obtain rfl:j=n:=by omega
     gi_wp2;go_roundw
     case rel=>exact⟨t+1,by simp,by omega,by rw[HBN.o]at hA;obtain rfl|rfl:t=0\/t=1:=(by omega)<;>exact hA⟩
     case measure=>simp[intOf];omega
  ·obtain rfl:t=2:=by omega
   rw[show ((2:Nat):Int)=2 from rfl];simp only[Nat.reduceEqDiff,if_false]at hA;obtain⟨nh,fD⟩:=Ja0 L.holds.length;have cL:=hP.jL.cell;have cB:=hP.jB.cell;clear hlt cA hP;gi_wp2;gi_loopw [43] (fun ix wr=>∃ (j:Nat),ix=I Z j/\j<=L.holds.length/\J bA (L.reads.length+L.keeps.length+j) wr) (fun ix _=>L.holds.length-(intOf ix).toNat)
   case atStart=>exact⟨0,rfl,by omega,hA⟩
   case round =>
    clear hA cL cB;obtain⟨j,rfl,hj,hA⟩:=hrel;obtain⟨wo,rfl⟩:=Ja0 wr;have hP:=HJ.o _ _ _ hA;have cL:=hP.jL.cell;have cB:=hP.jB.cell;by_cases hjn:j<L.holds.length
    ·have qG:(j:Int)<(L.holds.length:Int):=by omega
     have hg2:=HF.o.2.2.1 (by omega)
     have hl:=hP.hl;have had:=Mh (.slice ar L.reads.length cr) (.slice ak L.keeps.length ck) (.slice ah L.holds.length ch) (.slice au L.Az.length cu) L hjn;rw[<-HGh.o]at had;have hy:=hyi.o wo ⟨gh,j*2,none⟩ hl;obtain⟨T,hT⟩:=Ja0 ((R.params.zip #[Ah (some ⟨gh,j*2,none⟩)]).foldl (fun tmps (t,a)=>tmps.setIfInBounds t a) R.tmps);rw[<-hT]at hy;have iR:=HR.o bA _ wo _ T hA had hT;have HG2:=Qa hg2;clear hl hA hT hP had hg2;rw[HG2.o]at cB;gi_wp2;refine iR.mono ?_;rintro e w3 ⟨rfl,hA3⟩;clear hy iR cL cB;gi_wp2;go_roundw
     case rel=>exact⟨j+1,by simp,by omega,hA3⟩
     case measure=>simp[intOf];omega
    ·obtain rfl:j=L.holds.length:=by omega
     clear hjn hP;gi_wp2;gi_loopw [62] (fun ix wr=>∃ (j:Nat),ix=I Z j/\j<=L.Az.length/\J bA (L.reads.length+L.keeps.length+L.holds.length+km L.Az j) wr) (fun ix _=>L.Az.length-(intOf ix).toNat)
     case atStart=>exact⟨0,rfl,by omega,hA⟩
     case round =>
      clear hA cL cB;obtain⟨j,rfl,hj,hA⟩:=hrel;obtain⟨wo,rfl⟩:=Ja0 wr;have hP:=HJ.o _ _ _ hA;have cL:=hP.jL.cell;have cB:=hP.jB.cell;by_cases hjn:j<L.Az.length
      ·have qG:(j:Int)<(L.Az.length:Int):=by omega
       have hg2:=HF.o.2.2.2 (by omega)
       have hl:=hP.hl;obtain⟨u,hu⟩:∃ u,L.Az[j]?=some u:=⟨_,Qb hjn⟩;obtain⟨ha1,ha2⟩:=X1 gu L.Az 0 j u hu;have had:=Mk (.slice ar L.reads.length cr) (.slice ak L.keeps.length ck) (.slice ah L.holds.length ch) (.slice au L.Az.length cu) L;rw[<-HGu.o]at had;rw[ai]at ha1 ha2;have hy:=hyi.o wo ⟨gu,j*4+1,none⟩ hl;obtain⟨T,hT⟩:=Ja0 ((R.params.zip #[Ah (some ⟨gu,j*4+1,none⟩)]).foldl (fun tmps (t,a)=>tmps.setIfInBounds t a) R.tmps);rw[<-hT]at hy;have iR:=HR.o bA _ wo _ T hA ((had _).trans ha1) hT;have hcs:=qko hu;have HG2:=Qa hg2;have HU:=Qa hu;have HA2:=Qa (fun hk=>(had _).trans (ha2 hk));have HCS:=Qa hcs;clear hl hA hT hP had hg2 hu ha1 ha2 hcs;rw[HG2.o]at cB;gi_wp2;refine iR.mono ?_;rintro e w3 ⟨rfl,hA3⟩;clear hy iR cL cB;have hP3:=HJ.o _ _ _ hA3;have yS:=hP3.kd j u HU.o;rw[<-HGu.o]at yS;by_cases hk:u.kind=1
       ·rw[hk]at yS
        have ck4:w3.cell? ⟨gu,j*4,none⟩=some (I Z 1):=yS;have hy:=hyi.o w3 ⟨gu,j*4+3,none⟩ hP3.hl;obtain⟨T,hT⟩:=Ja0 ((R.params.zip #[Ah (some ⟨gu,j*4+3,none⟩)]).foldl (fun tmps (t,a)=>tmps.setIfInBounds t a) R.tmps);rw[<-hT]at hy;have iR:=HR.o bA _ w3 _ T hA3 (by rw[Nat.add_assoc];exact HA2.o hk) hT
        have ig:=Qa (show L.reads.length+L.keeps.length+L.holds.length+km L.Az j+1+1=L.reads.length+L.keeps.length+L.holds.length+km L.Az (j+1) by have:=HCS.o;rw[if_pos hk]at this;omega)
        clear hP3 hA3 hT yS hk;gi_wp2;refine iR.mono ?_;rintro e w4 ⟨rfl,fB⟩;clear hy iR ck4;gi_wp2;go_roundw
        case rel=>exact⟨j+1,by simp,by omega,by rw[<-ig.o];exact fB⟩
        case measure=>simp[intOf];omega
       ·have hkb:((u.kind:Int)==1)=false:=by rw[Qh];omega
        have ck4:w3.cell? ⟨gu,j*4,none⟩=some (I Z u.kind):=yS;have ig:=Qa (show L.reads.length+L.keeps.length+L.holds.length+km L.Az j+1=L.reads.length+L.keeps.length+L.holds.length+km L.Az (j+1) by have:=HCS.o;rw[if_neg hk]at this;omega)
        clear hP3 yS hk;gi_wp2;refine aN (fun _ hf=>nomatch hf) ?_;first
         | (rename_i wP _;refine wP _ _ ?_)
         | (rename_i wP _ _;refine wP _ _ ?_)
         | (rename_i wP _ _ _;refine wP _ _ ?_)
         | (rename_i wP _ _ _ _;refine wP _ _ ?_)
        gi_wp2;go_roundw
        case rel=>exact⟨j+1,by simp,by omega,by rw[<-ig.o];exact hA3⟩
        case measure=>simp[intOf];omega
      ·obtain rfl:j=L.Az.length:=by omega
       have hfin:=Qa (HP.o bA wo (by
        have e:(ya (.slice ar L.reads.length cr) (.slice ak L.keeps.length ck) (.slice ah L.holds.length ch) (.slice au L.Az.length cu) L).length=L.reads.length+L.keeps.length+L.holds.length+km L.Az L.Az.length:=by
         rw[vi];unfold Lg.roots km;rw[aL];simp only[Qd,Qg]
        rw[e];exact hA))
       gi_wp2;exact bodyPost_ret (results_none rfl _ _ _) rfl hfin.o
end
section
open Go.RowKit Hp
attribute [local go_sem ↓] Go.wp_at_zero Go.wp_at_succ
def Tx.fresh (r u:Nat):Tx:=⟨false,0,0,Lg.fresh r u,[]⟩
def Am.fresh (n k r u m:Nat):Am:=⟨Hp.fresh n,0,0,m,aa k (Tx.fresh r u),[],0,-1,0,[],[]⟩
def qj4 (k r u:Nat):jj (aa k (Tx.fresh r u))=0:=by
 induction k with
 | zero=>rfl
 | succ k ih=>rw[aR,kr,ih];rfl
def qkd (k r u:Nat):wa (aa k (Tx.fresh r u))=0:=by
 induction k with
 | zero=>rfl
 | succ k ih=>rw[aR];show 0+wa _=0;rw[ih]
def Am.De {n k r u m:Nat}(h1:16<=n)(h2:n<=16384)(k1:1<=k)(k8:k<=8)(hr:r<=200)(hu:u<=200)(hm:m<=1099511627776):(Am.fresh n k r u m).ok:=by
 have hfx:∀ x ∈ (Am.fresh n k r u m).Au,x=Tx.fresh r u:=fun x hx=>List.eq_of_mem_replicate hx
 refine⟨Hp.Jj h1 h2,hm,?_,by simpa [Am.fresh] using k1,by simpa [Am.fresh] using k8,fun x hx=>?_,fun x hx=>?_,Qk _,by simp[Am.fresh],fun x hx=>(by cases hx),fun x hx=>(by cases hx),?_,by simp[Am.fresh,Hp.fresh],by simp[Am.fresh],fun x hx=>?_,?_⟩
 ·show 0+jj (aa k (Tx.fresh r u))<=m
  rw[qj4];omega
 ·rw[hfx x hx]
  exact⟨⟨hr,hu,af _,af _,af _,af _⟩,fun z hz=>(by cases hz),fun z hz=>(by cases hz),fun z hz=>(by cases hz)⟩
 ·rw[hfx x hx];exact Qk _
 ·show 0+wa (aa k (Tx.fresh r u))<=0
  rw[qkd];omega
 ·rw[hfx x hx];exact Qk _
 ·exact⟨by simp[Am.fresh],by simp[Am.fresh,Hp.fresh]⟩
def Stp.strict {T:Tag->Prop}{o o':Own}{w w':Aa}(h:Stp T o o' w w')(ht:∀ b,b<w.1.size->¬T (o b)):Stp (fun _=>False) o o' w w':=
 ⟨h.os,h.tape,h.output,h.size,h.tags,fun b hb _=>h.block b hb (ht b hb)⟩
def Mg:∃ i,ANa.info? 101=some i/\i.size=1/\i.bytes=8/\i.zero=some (Ah none):=info_parts (by kernel_rfl)
section
variable {w w' : Aa} {o o' : Own} {y : Bl} {S : Am}
def Av.more {n k r u m:Nat}(h:Av w o y (Am.fresh n k r u m)){v':Ac}{lb:Nat}
  (hs:Stp (fun t=>t=(y.l.id,11)\/t=(y.l.id,12)) o o' w w')
  (hb:An w' y.sb #[ptr y.l.h,ptr y.cy,ptr y.ck,v',Ai none 0 0,(),I Z (-1),(),Ai none 0 0,Ai none 0 0] 100)
  (hr:Row w' o' (y.l.id,12) 101 1 v' (k+1) (((aG k).map fun i=>ptr (y.xb i))++[ptr (lb+1)]))
  (jx:An w' (lb+1) #[k,false,(),(),ptr lb,Ai none 0 0] 105)
  (jl:An w' lb #[r,u,Ai none 0 0,Ai none 0 0,Ai none 0 0,Ai none 0 0] 153)
  (ox:o' (lb+1)=(y.l.id,16+8*k))(ol:o' lb=(y.l.id,17+8*k)) :
  Av w' o' { y with FE:=v',xb:=fun j=>if j=k then lb+1 else y.xb j,lb:=fun j=>if j=k then lb else y.lb j } (Am.fresh n (k+1) r u m):=by
 refine⟨⟨Ai none 0 0,Ai none 0 0,Ai none 0 0,hb,⟨Row.nil _ _ _ _ _,Row.nil _ _ _ _ _,Row.nil _ _ _ _ _⟩⟩,h.cy.Ar hs (by rw[h.oy];simp),h.hp.Ar hs fun j hj=>by simp;omega,h.ck.Ar hs (by rw[h.oc];simp),?_,fun i x hx=>?_,(hs.tags _ h.ck.lt).trans h.oc,(hs.tags _ h.lt).trans h.os,(hs.tags _ h.cy.lt).trans h.oy⟩
 ·show Row w' o' (y.l.id,12) _ 1 v' (aa (k+1) (Tx.fresh r u)).length ((aG (aa (k+1) (Tx.fresh r u)).length).map _)
  rw[Qx,List.range_succ,Qw];have e1:((aG k).map fun i=>ptr (if i=k then lb+1 else y.xb i))=(aG k).map fun i=>ptr (y.xb i):=by
   refine List.map_congr_left fun i hi=>?_;rw[if_neg (by have:=List.mem_range.1 hi;omega)]
  simp only[aP,bG,if_true];rw[e1];exact hr
 ·have hx':(aa (k+1) (Tx.fresh r u))[i]?=some x:=hx
  have hi:i<k+1:=by have:=(Qc.1 hx').1;simpa using this
  have hxe:x=Tx.fresh r u:=by rw[Qy,if_pos hi]at hx';injection hx' with hx';exact hx'.symm
  subst hxe;by_cases e:i=k
  ·subst e
   simp only[if_true];exact⟨⟨Ai none 0 0,jx,Row.nil _ _ _ _ _⟩,⟨_,_,_,_,jl,Row.nil _ _ _ _ _,Row.nil _ _ _ _ _,Row.nil _ _ _ _ _,Row.nil _ _ _ _ _,ol⟩,ox⟩
  ·simp only[if_neg e]
   have hk:(aa k (Tx.fresh r u))[i]?=some (Tx.fresh r u):=by rw[Qy,if_pos (by omega)]
   exact (h.Au i _ hk).Ar hs fun j hj=>by simp;omega
def Pz (n k r u:Nat)(m:Int)(h1:16<=n)(h2:n<=16384)(k1:1<=k)(k8:k<=8)(hr:r<=200)(hu:u<=200)(o:Own)(id:Nat)(w:Aa)(hfree:∀ b,b<w.1.size->(o b).1≠id) :
  Ab ANa 20 #[n,k,r,u,m] w fun e w'=>∃ y o',e=O (Ak #[ptr y.sb,()])/\y.l.id=id /\
   Av w' o' y (Am.fresh n k r u (EV m).toNat)/\Stp (fun _=>False) o o' w w':=by
 have HN:=Qa (fun w=>Jq n h1 h2 o id w)
 have HF:=Qa hfree;clear hfree;have HC:=Qa (fun b w=>qph b w)
 have HK:=Qa (fun w=>LG m w)
 have HL:=Qa (fun w=>Mo r u hr hu w)
 have hb0:0<=EV m:=by unfold EV;omega
 have hb1:EV m=((EV m).toNat:Int):=by omega
 rw[hb1]at HK;generalize (EV m).toNat=M at *;clear hb0 hb1 hr hu h1 h2;have hu64:=underlying97;have kI1:(1:Int)<=(k:Int):=by omega
 have kI8:(k:Int)<=8:=by omega
 go_in;go_wp2_with fail;refine (HN.o _).mono ?_
 rintro e w1 ⟨h,a,wd,o1,rfl,hH,hs1,hle,hid⟩
 go_wp2_with fail;refine (HC.o _ _).mono ?_
 rintro e w2 ⟨rfl,hw2⟩
 have hb2:Ae w1 w1 w2:=by rw[hw2];exact qc (qd w1) _
 have jY0:An w2 w1 #[ptr h,.nilFunc,Ai none 0 0,Ai none 0 0] 143:=by rw[hw2];exact An.new w1 _ _
 have hz2:w1.1.size<w2.1.size:=by rw[hw2];simp
 clear hw2;go_wp2_with fail;refine (HK.o _).mono ?_
 rintro e w3 ⟨rfl,rfl⟩
 obtain⟨W,hW⟩:=Ja0 ((w2.alloc (ANb #[(),I Z M] 149)).alloc (ANb #[ptr h,ptr w1,ptr w2,Ai none 0 0,Ai none 0 0,(),I Z (-1),(),Ai none 0 0,Ai none 0 0] 100));have hb3:Ae w1 w1 W:=by rw[hW];exact qc (qc hb2 _) _
 have jC:An W w2 #[(),I Z M] 149:=by rw[hW];exact (An.new w2 _ _).alloc _
 have jB:An W (w2.1.size+1) #[ptr h,ptr w1,ptr w2,Ai none 0 0,Ai none 0 0,(),I Z (-1),(),Ai none 0 0,Ai none 0 0] 100:=by rw[hW];exact An.Ax _ _ _ _ _ (by simp) rfl
 have jY:An W w1 #[ptr h,.nilFunc,Ai none 0 0,Ai none 0 0] 143:=by rw[hW];exact (jY0.alloc _).alloc _
 have Amo:w1.1.size<=w2.1.size:=hb2.size;obtain⟨o2,ho2⟩:∃ o2:Own,o2=fun b=>if b=w2.1.size then (id,10) else if b=w2.1.size+1 then (id,11) else if b=w1.1.size then (id,7) else o1 b:=⟨_,rfl⟩
 have dM:∀ b,b<w1.1.size->o2 b=o1 b:=fun b hb=>by rw[ho2];show (if _ then _ else _)=_;rw[if_neg (by omega),if_neg (by omega),if_neg (by omega)]
 have oC:o2 w2=(id,10):=by rw[ho2];exact if_pos rfl
 have oB:o2 (w2.1.size+1)=(id,11):=by rw[ho2];show (if _ then _ else _)=_;rw[if_neg (by omega),if_pos rfl]
 have oY:o2 w1=(id,7):=by rw[ho2];show (if _ then _ else _)=_;rw[if_neg (by omega),if_neg (by omega),if_pos rfl]
 have hs2:Stp (fun _=>False) o1 o2 w1 W:=⟨hb3.os,hb3.tape,hb3.output,hb3.size,dM,fun b hb _=>hb3.block b hb⟩
 have hS0:Av W o2 ⟨w2.1.size+1,⟨id,h,a,wd⟩,w1.1.size,w2.1.size,Ai none 0 0,fun _=>0,fun _=>0⟩ (Am.fresh n 0 r u M):=
  ⟨⟨Ai none 0 0,Ai none 0 0,Ai none 0 0,jB,⟨Row.nil _ _ _ _ _,Row.nil _ _ _ _ _,Row.nil _ _ _ _ _⟩⟩,jY,⟨_,_,_,_,_,hH.Ar hs2 fun _ _ h=>h⟩,jC,Row.nil _ _ _ _ _,fun i x hx=>(by cases hx),oC,oB,oY⟩
 have hs3:Stp (fun t=>t.1=id) o o2 w W:=(hs1.trans hs2).mono (fun _ h=>h.elim)
 have iX:=Qa hS0;have HS3:=Qa hs3;clear hH hs1 hle hid hb2 hb3 jC jY jY0 hz2 dM oC oB oY hs2 hS0 hs3 ho2;go_wp2_with fail;rw[<-hW];obtain⟨sb,hsb⟩:=Ja0 (w2.1.size+1);rw[<-hsb]at iX jB ⊢;obtain⟨cy,hcy⟩:=Ja0 w1.1.size;obtain⟨ck,hck⟩:=Ja0 w2.1.size;rw[<-hcy,<-hck]at iX jB;have vN:=Qa jB;clear hW hsb Amo hcy hck jB;go_loopw [37] (fun ix wr=>∃ (q:Nat)(v:Ac)(xb lb:Nat->Nat)(oo:Own),ix=I Z q/\q<=k/\Av wr oo ⟨sb,⟨id,h,a,wd⟩,cy,ck,v,xb,lb⟩ (Am.fresh n q r u M)/\An wr sb #[ptr h,ptr cy,ptr ck,v,Ai none 0 0,(),I Z (-1),(),Ai none 0 0,Ai none 0 0] 100/\Stp (fun t=>t.1=id) o oo w wr) (fun ix _=>k-(intOf ix).toNat)
 case atStart=>exact⟨0,_,_,_,_,rfl,by omega,iX.o,vN.o,HS3.o⟩
 case round =>
  obtain⟨q,v,xb,lb,oo,rfl,hqk,hS,hB,hs⟩:=hrel;clear iX HS3 vN;by_cases hlt:q<k
  ·have qI:(q:Int)<(k:Int):=by omega
   have hH:=Qa hS;have hBH:=Qa hB;have hsH:=Qa hs;obtain⟨wo,rfl⟩:=Ja0 wr;have ED:=hS.ED;have hqz:(Am.fresh n q r u M).Au.length=q:=Qx;rw[hqz]at ED;simp only at ED;clear hqz hS hs hqk;obtain⟨pa,cp,rfl⟩:=ED.A6;have c:=hB.cell;have sB:=hB.lt;obtain⟨z,hz⟩:=Ja0 wo.1.size;have HL2:=Qa (show Ab ANa 42 #[r,u] wo.drew fun e w'=>e=O (ptr z)/\An w' z #[r,u,Ai none 0 0,Ai none 0 0,Ai none 0 0,Ai none 0 0] 153/\Ae wo wo w'/\w'.1.size=z+1 from by
    rw[hz];exact (HL.o wo.drew).mono fun e w' ⟨h1,h2,h3,h4⟩=>⟨h1,h2,qe (qf (qd wo)) h3,h4⟩)
   obtain⟨op,hop⟩:∃ op:Own,op=fun b=>if b=z then (id,17+8*q) else if b=z+1 then (id,16+8*q) else if b<z then oo b else (id+1,0):=⟨_,rfl⟩;have opl:∀ b,b<wo.1.size->op b=oo b:=fun b hb=>by rw[hop];show (if _ then _ else _)=_;rw[if_neg (by omega),if_neg (by omega),if_pos (by omega)]
   have opz:op z=(id,17+8*q):=by rw[hop];exact if_pos rfl
   have yB:op (z+1)=(id,16+8*q):=by rw[hop];show (if _ then _ else _)=_;rw[if_neg (by omega),if_pos rfl]
   have Aod:=ED.retag opl;obtain⟨iT,hi,hsI,cK,bZ⟩:=Mg;have dE:q+1<=maxLen:=by simp only[maxLen];omega
   have hmb:(q+1)*8<=140737488355328:=by omega
   have sbz:sb<z:=by rw[hz];exact sB
   have HZ:=Qa hz;have hone:∀ u ∈ [ptr (z+1)],u.oneCell'=true:=by intro u hu;simp at hu;subst hu;rfl
   have hfin:=Qa (fun (w3 w4:Aa)(o4:Own)(v':Ac)(jl:An w3 z #[r,u,Ai none 0 0,Ai none 0 0,Ai none 0 0,Ai none 0 0] 153)(hbl:Ae wo wo w3)(hz3:w3.1.size=z+1)
     (hown:Row w4 o4 (id,12) 101 1 v' (q+1) (((aG q).map fun i=>ptr (xb i))++[ptr (z+1)]))
     (hst:Stp (fun t=>t=(id,12)) op o4 ((w3.alloc (ANb #[q,false,(),(),ptr z,Ai none 0 0] 105)).alloc (ANb #[ptr (z+1)] 101)) w4) =>
    show ∃ (xb lb:Nat->Nat)(oo:Own),Av (w4.setCell ⟨sb,3,none⟩ v') oo ⟨sb,⟨id,h,a,wd⟩,cy,ck,v',xb,lb⟩ (Am.fresh n (q+1) r u M)/\An (w4.setCell ⟨sb,3,none⟩ v') sb #[ptr h,ptr cy,ptr ck,v',Ai none 0 0,(),I Z (-1),(),Ai none 0 0,Ai none 0 0] 100/\Stp (fun t=>t.1=id) o oo w (w4.setCell ⟨sb,3,none⟩ v') from by
     have hz:=HZ.o;have e0:op sb=(id,11):=(opl _ (by omega)).trans hH.o.os
     have k1:Ae wo wo ((w3.alloc (ANb #[q,false,(),(),ptr z,Ai none 0 0] 105)).alloc (ANb #[ptr (z+1)] 101)):=qc (qc hbl _) _;have k2:Stp (fun _=>False) oo op wo ((w3.alloc (ANb #[q,false,(),(),ptr z,Ai none 0 0] 105)).alloc (ANb #[ptr (z+1)] 101)):=⟨k1.os,k1.tape,k1.output,k1.size,opl,fun b hb _=>k1.block b hb⟩;have jX:An ((w3.alloc (ANb #[q,false,(),(),ptr z,Ai none 0 0] 105)).alloc (ANb #[ptr (z+1)] 101)) (z+1) #[q,false,(),(),ptr z,Ai none 0 0] 105:=(An.Ax _ _ _ _ _ hz3.symm rfl).alloc _;have jL:=(jl.alloc (ANb #[q,false,(),(),ptr z,Ai none 0 0] 105)).alloc (ANb #[ptr (z+1)] 101);have jS:=(hBH.o.below k1 (by omega)).Ar hst (by rw[e0];simp)
     have e4:o4 sb=(id,11):=(hst.tags _ (hBH.o.below k1 (by omega)).lt).trans e0
     have k3:Stp (fun t=>t=(id,11)) o4 o4 w4 (w4.setCell ⟨sb,3,none⟩ v'):=(Stp.refl _ o4 w4).setCell (by show o4 sb=_;exact e4) _
     have k4:Stp (fun t=>t=(id,11)\/t=(id,12)) oo o4 wo (w4.setCell ⟨sb,3,none⟩ v'):=(k2.mono fun _ h=>h.elim).trans ((hst.mono fun _ h=>Or.inr h).trans (k3.mono fun _ h=>Or.inl h));have ic:An (w4.setCell ⟨sb,3,none⟩ v') sb #[ptr h,ptr cy,ptr ck,v',Ai none 0 0,(),I Z (-1),(),Ai none 0 0,Ai none 0 0] 100:=jS.set 3 v';refine⟨_,_,o4,hH.o.more k4 ic (hown.Ar k3 (by simp)) ((jX.Ar hst (by rw[yB];simp;omega)).Ao (by show z+1≠sb;omega) _) ((jL.Ar hst (by rw[opz];simp;omega)).Ao (by show z≠sb;omega) _) ?_ ?_,ic,hsH.o.trans (k4.mono (by rintro _ (rfl|rfl)<;>rfl))⟩
     ·exact (hst.tags _ jX.lt).trans yB
     ·exact (hst.tags _ jL.lt).trans opz)
   clear hz opz yB hop ED;go_upto_region 10 with fail;go_region_law (first
    | (refine zt _ (by rfl) _ _ _ (by rfl) 101 iT _ 1 8 hu64 hi bZ hsI cK (by rfl) (by decide) op (id,12) _ _ _ (by rfl) rn ⟨z+1+1,0,none⟩ 1 1 [ptr (z+1)] (by rfl) (by rfl) (qx jn) hone dE hmb ?_;intro v' w4 hown hst;obtain⟨pa',cp',rfl⟩:=hown.A6;have jX:=(mZ.alloc _).alloc _ |>.Ar hst (by rw[opl _ sB,hH.o.os];simp);have cX:=jX.cell;have zX:=jX.free;have sX:=jX.lt)
    | (go_simp;go_wp2_with ((go_at_call 42;refine HL2.o.mono ?_;rintro e w3 ⟨rfl,jl,hbl,hz3⟩;have mZ:=hB.below hbl sB;have cB3:=mZ.cell;have sB3:=mZ.lt;have cA3:=(mZ.alloc (ANb #[q,false,(),(),ptr z,Ai none 0 0] 105)).cell;have cD3:=((mZ.alloc (ANb #[q,false,(),(),ptr z,Ai none 0 0] 105)).alloc (ANb #[ptr (z+1)] 101)).cell;have rn:=((Aod.below (w':=w3) hbl).below (qc (qd w3) (ANb #[q,false,(),(),ptr z,Ai none 0 0] 105))).below (qc (qd _) (ANb #[ptr (z+1)] 101));have jn:=An.Ax (w3.alloc (ANb #[q,false,(),(),ptr z,Ai none 0 0] 105)) #[ptr (z+1)] #[ptr (z+1)] 101 (z+1+1) (by rw[World.size_alloc,hz3]) rfl))))
   all_goals
    obtain⟨xb',lb',oo',hS',hB',hs'⟩:=hfin.o _ _ _ _ jl hbl hz3 hown hst;go_wp2_with fail;go_roundw
    case rel=>exact⟨q+1,_,xb',lb',oo',by simp,by omega,hS',hB',hs'⟩
    case measure=>simp[intOf];omega
  ·obtain rfl:q=k:=by omega
   clear hlt;go_wp2_with fail;go_ret2;exact⟨_,oo,rfl,rfl,hS,hs.strict HF.o⟩
end
def Kp (w:Aa):(Instr.makeSlice 23 (I Z 0) (I Z 12)).run ANa w=.ok (Ai (some ⟨w,0,none⟩) 0 12) (w.alloc (ANb #[(),(),(),(),(),(),(),(),(),(),(),()] 3)):=by
 obtain⟨iI,hi,hsI,cK,bZ⟩:=zm;have h:=run_make (P:=ANa) w 23 3 iI _ underlying23 hi bZ .i64 .i64 0 12 (by omega) (by omega) (by rw[cK];omega) (by omega)
 rw[hsI,show madeCells (aC IntKind.i64 0).cells (Int.toNat 12*1)=#[I Z 0,(),(),(),(),(),(),(),(),(),(),()] from by kernel_rfl]at h
 exact h
def pg {X:Aa}{b6:Nat}{t6:TypeId}{h:AE}{v:Ac}(fn:Func)(tmps:Array Ac)(i j:Nat)(hres:fn.results=#[.cell i 49,.tmp j])(ti:tmps.getD i undef=ptr b6)(tj:tmps.getD j undef=v)
  (j6:An X b6 h.cells t6):(results fn tmps).run ANa X=.ok (Ak #[h.v,v]) X:=by
 have d6:=j6.cell;unfold AE.cells at d6;rw[aK]at ti tj;unfold ptr at ti;simp only[results,hres];simp[go_sem,ti,tj,d6,AE.v,AE.cells]
def Xf (h:AE)(w:Aa):Ab ANa 53 #[h.v] w fun e w'=>e=O (Ai (some ⟨w.1.size+1,0,none⟩) 12 12) /\
  An w' (w.1.size+1) #[h.r.a0,h.r.a1,h.r.a2,h.r.a3,h.r.a4,h.r.a5,h.s.a0,h.s.a1,h.s.a2,h.s.a3,h.s.a4,h.s.a5] 3/\Ae w w w':=by
 have hmk:=Kp;obtain⟨hb,hn,⟨a0,a1,a2,a3,a4,a5⟩,⟨s0,s1,s2,s3,s4,s5⟩,hl⟩:=h;show Ab _ _ #[Al #[hb,hn,a0,a1,a2,a3,a4,a5,s0,s1,s2,s3,s4,s5,hl]] _ _;simp only;go_in;go_wp2_with fail;refine bodyPost_ret (v:=Ai (some ⟨w.1.size+1,0,none⟩) 12 12) ?_ rfl ⟨rfl,An.Ax _ _ _ _ _ (by simp) rfl,qc (qc (qd w) _) _⟩
 simp[results,results53,go_sem]
def YJ (W:Aa)(b o g off c:Nat)(b0 b1 b2 b3 b4 b5:Int)(hc:∀ j,j<6->(W.cell? ⟨b,o+j,none⟩).isSome=true)(hf:∀ j,W.frozen? ⟨b,o+j,none⟩=false)
  (k0:W.cell? ⟨g,off,none⟩=some (I Z b0))(k1:W.cell? ⟨g,off+1,none⟩=some (I Z b1))(k2:W.cell? ⟨g,off+2,none⟩=some (I Z b2))(k3:W.cell? ⟨g,off+3,none⟩=some (I Z b3))(k4:W.cell? ⟨g,off+4,none⟩=some (I Z b4))(k5:W.cell? ⟨g,off+5,none⟩=some (I Z b5)) :
  (bM #[23,23] 3 #[Ai (some ⟨b,o,none⟩) 6 6,Ai (some ⟨g,off,none⟩) 6 c]).run ANa W=.ok (I Z 6) ((((((W.setCell ⟨b,o+0,none⟩ b0).setCell ⟨b,o+1,none⟩ b1).setCell ⟨b,o+2,none⟩ b2).setCell ⟨b,o+3,none⟩ b3).setCell ⟨b,o+4,none⟩ b4).setCell ⟨b,o+5,none⟩ b5):=by
 obtain⟨iI,hi,hsI,cK,bZ⟩:=zm;refine (run_copy_cells (P:=ANa) W 23 23 3 3 b o 6 6 ⟨g,off,none⟩ 6 c [I Z b0,I Z b1,I Z b2,I Z b3,I Z b4,I Z b5] underlying23 (by rw[hi];simp[hsI]) rfl (fun j v hj=>?_) (fun j hj=>hc j hj) (fun j _=>hf j) (fun v hv=>?_)).trans ?_
 ·have hadd:(⟨g,off,none⟩:Addr).add j=⟨g,off+j,none⟩:=by unfold Addr.add;split<;>simp_all
  rw[hadd];obtain rfl|rfl|rfl|rfl|rfl|rfl|hq:j=0\/j=1\/j=2\/j=3\/j=4\/j=5\/6<=j:=by omega
  ·exact k0.trans hj
  ·exact k1.trans hj
  ·exact k2.trans hj
  ·exact k3.trans hj
  ·exact k4.trans hj
  ·exact k5.trans hj
  ·rw[Za (by simpa using hq)]at hj;cases hj
 ·simp only[aZ,List.not_mem_nil,or_false]at hv
  rcases hv with rfl|rfl|rfl|rfl|rfl|rfl<;>rfl
 ·rfl
def qks (h:AE)(g off c:Nat)(r s:R6)(w:Aa)(hc:12<=c)(hg:g<w.1.size)(hl:∀ j,j<12->w.cell? ⟨g,off+j,none⟩=#[aC .i64 r.a0,r.a1,r.a2,r.a3,r.a4,r.a5,s.a0,s.a1,s.a2,s.a3,s.a4,s.a5][j]?) :
  Ab ANa 54 #[h.v,Ai (some ⟨g,off,none⟩) 12 c] w fun e w'=>e=O (Ak #[(AE.mk h.b h.n r s h.l).v,true])/\Ae w w w':=by
 obtain⟨hb,hn,⟨a0,a1,a2,a3,a4,a5⟩,⟨s0,s1,s2,s3,s4,s5⟩,hl'⟩:=h;show Ab _ _ #[Al #[hb,hn,a0,a1,a2,a3,a4,a5,s0,s1,s2,s3,s4,s5,hl'],Ai (some ⟨g,off,none⟩) 12 c] _ _;obtain⟨b0,b1,b2,b3,b4,b5⟩:=r;obtain⟨c0,c1,c2,c3,c4,c5⟩:=s;simp only at hl ⊢;have k0:=hl 0 (by omega)
 have k1:=hl 1 (by omega)
 have k2:=hl 2 (by omega)
 have k3:=hl 3 (by omega)
 have k4:=hl 4 (by omega)
 have k5:=hl 5 (by omega)
 have k6:=hl 6 (by omega)
 have k7:=hl 7 (by omega)
 have k8:=hl 8 (by omega)
 have k9:=hl 9 (by omega)
 have k10:=hl 10 (by omega)
 have k11:=hl 11 (by omega)
 simp at k0 k1 k2 k3 k4 k5 k6 k7 k8 k9 k10 k11;clear hl;have nY:g≠w.1.size:=by omega
 have hcI:(6:Int)<=(c:Int):=by omega
 have hcJ:(12:Int)<=(c:Int):=by omega
 go_in;go_upto_region 3 with fail;obtain⟨W,hW⟩:=Ja0 ((w.alloc (ANb #[hb,hn,a0,a1,a2,a3,a4,a5,s0,s1,s2,s3,s4,s5,hl'] 49)).alloc (ANb #[(),(),(),(),(),(),(),(),(),(),(),(),(),(),false] 49));rw[<-hW];have j2:An W w #[hb,hn,a0,a1,a2,a3,a4,a5,s0,s1,s2,s3,s4,s5,hl'] 49:=by rw[hW];exact (An.new w _ _).alloc _
 have j4:An W (w.1.size+1) #[(),(),(),(),(),(),(),(),(),(),(),(),(),(),false] 49:=by rw[hW];exact An.Ax _ _ _ _ _ (by simp) rfl
 have hbW:Ae w w W:=by rw[hW];exact qc (qc (qd w) _) _
 have kk:∀ j,j<12->W.cell? ⟨g,off+j,none⟩=w.cell? ⟨g,off+j,none⟩:=fun j _=>hbW.cell (p:=⟨g,off+j,none⟩) hg
 have q0:=(kk 0 (by omega)).trans k0
 have q1:=(kk 1 (by omega)).trans k1
 have q2:=(kk 2 (by omega)).trans k2
 have q3:=(kk 3 (by omega)).trans k3
 have q4:=(kk 4 (by omega)).trans k4
 have q5:=(kk 5 (by omega)).trans k5
 clear hW k0 k1 k2 k3 k4 k5 kk;rw[bF]at q0;have c2:=j2.cell;have z2:=j2.free;have l2:=j2.lt;have hcp:=YJ W.drew w 2 g off c b0 b1 b2 b3 b4 b5 (fun j hj=>by
  have e:=c2 (2+j);rw[show W.drew.cell? ⟨w.1.size,2+j,none⟩=W.cell? ⟨w.1.size,2+j,none⟩ from rfl,e];obtain rfl|rfl|rfl|rfl|rfl|rfl:j=0\/j=1\/j=2\/j=3\/j=4\/j=5:=by omega
  all_goals rfl) (fun j=>z2 (2+j)) q0 q1 q2 q3 q4 q5
 go_region;obtain⟨X,hX⟩:=Ja0 (((((((W.setCell ⟨w,2,none⟩ b0).setCell ⟨w,3,none⟩ b1).setCell ⟨w,4,none⟩ b2).setCell ⟨w,5,none⟩ b3).setCell ⟨w,6,none⟩ b4).setCell ⟨w,7,none⟩ b5).drew);rw[<-hX];have i2:An X w #[hb,hn,b0,b1,b2,b3,b4,b5,s0,s1,s2,s3,s4,s5,hl'] 49:=by
  rw[hX];have k:=qj ((((((j2.set 2 (I Z b0)).set 3 b1).set 4 b2).set 5 b3).set 6 b4).set 7 b5);simp only[Aj,ag,aA]at k;exact k
 have i4:An X (w.1.size+1) #[(),(),(),(),(),(),(),(),(),(),(),(),(),(),false] 49:=by rw[hX];exact qj ((((((j4.Ao (a:=⟨w,2,none⟩) (by show w.1.size+1≠w.1.size;omega) (I Z b0)).Ao (a:=⟨w,3,none⟩) (by show w.1.size+1≠w.1.size;omega) (I Z b1)).Ao (a:=⟨w,4,none⟩) (by show w.1.size+1≠w.1.size;omega) (I Z b2)).Ao (a:=⟨w,5,none⟩) (by show w.1.size+1≠w.1.size;omega) (I Z b3)).Ao (a:=⟨w,6,none⟩) (by show w.1.size+1≠w.1.size;omega) (I Z b4)).Ao (a:=⟨w,7,none⟩) (by show w.1.size+1≠w.1.size;omega) (I Z b5))
 have hbX:Ae w w X:=by rw[hX];exact qf (qo (qo (qo (qo (qo (qo hbW (Qk _) _) (Qk _) _) (Qk _) _) (Qk _) _) (Qk _) _) (Qk _) _)
 have kk:∀ j,j<12->X.cell? ⟨g,off+j,none⟩=w.cell? ⟨g,off+j,none⟩:=fun j _=>hbX.cell (p:=⟨g,off+j,none⟩) hg
 have q6:=(kk 6 (by omega)).trans k6
 have q7:=(kk 7 (by omega)).trans k7
 have q8:=(kk 8 (by omega)).trans k8
 have q9:=(kk 9 (by omega)).trans k9
 have gB:=(kk 10 (by omega)).trans k10
 have gD:=(kk 11 (by omega)).trans k11
 clear hX c2 z2 l2 j2 j4 hbW q0 q1 q2 q3 q4 q5 hcp;have d2:=i2.cell;have z2:=i2.free;have l2:=i2.lt;go_upto_region 4 with fail;have hcp:=YJ X.drew w 8 g (off+6) (c-6) c0 c1 c2 c3 c4 c5 (fun j hj=>by
  have e:=d2 (8+j);rw[show X.drew.cell? ⟨w.1.size,8+j,none⟩=X.cell? ⟨w.1.size,8+j,none⟩ from rfl,e];obtain rfl|rfl|rfl|rfl|rfl|rfl:j=0\/j=1\/j=2\/j=3\/j=4\/j=5:=by omega
  all_goals rfl) (fun j=>z2 (8+j)) q6 q7 q8 q9 gB gD
 go_region;obtain⟨Y,hY⟩:=Ja0 (((((((X.setCell ⟨w,8,none⟩ c0).setCell ⟨w,9,none⟩ c1).setCell ⟨w.1.size,10,none⟩ c2).setCell ⟨w.1.size,11,none⟩ c3).setCell ⟨w.1.size,12,none⟩ c4).setCell ⟨w.1.size,13,none⟩ c5).drew);rw[<-hY];have m2:An Y w #[hb,hn,b0,b1,b2,b3,b4,b5,c0,c1,c2,c3,c4,c5,hl'] 49:=by
  rw[hY];have k:=qj ((((((i2.set 8 (I Z c0)).set 9 c1).set 10 c2).set 11 c3).set 12 c4).set 13 c5);simp only[Aj,ag,aA]at k;exact k
 have m4:An Y (w.1.size+1) #[(),(),(),(),(),(),(),(),(),(),(),(),(),(),false] 49:=by rw[hY];exact qj ((((((i4.Ao (a:=⟨w,8,none⟩) (by show w.1.size+1≠w.1.size;omega) (I Z c0)).Ao (a:=⟨w,9,none⟩) (by show w.1.size+1≠w.1.size;omega) (I Z c1)).Ao (a:=⟨w.1.size,10,none⟩) (by show w.1.size+1≠w.1.size;omega) (I Z c2)).Ao (a:=⟨w.1.size,11,none⟩) (by show w.1.size+1≠w.1.size;omega) (I Z c3)).Ao (a:=⟨w.1.size,12,none⟩) (by show w.1.size+1≠w.1.size;omega) (I Z c4)).Ao (a:=⟨w.1.size,13,none⟩) (by show w.1.size+1≠w.1.size;omega) (I Z c5))
 have hbY:Ae w w Y:=by rw[hY];exact qf (qo (qo (qo (qo (qo (qo hbX (Qk _) _) (Qk _) _) (Qk _) _) (Qk _) _) (Qk _) _) (Qk _) _)
 clear hY d2 z2 l2 i2 i4 hbX hcp;have d2:=m2.cell;have d4:=m4.cell;have z4:=m4.free;have l4:=m4.lt;go_wp2_with fail;change bodyPost _ _ _ _ _ (Ds Y (w.1.size+1) ⟨hb,hn,⟨b0,b1,b2,b3,b4,b5⟩,⟨c0,c1,c2,c3,c4,c5⟩,hl'⟩);have hres:=Qa (dc (g:=⟨0,0,⟨0,0,0,0,0,0⟩,⟨0,0,0,0,0,0⟩,false⟩) m4 ⟨hb,hn,⟨b0,b1,b2,b3,b4,b5⟩,⟨c0,c1,c2,c3,c4,c5⟩,hl'⟩);have hrb:=Qa (nc hbY (Nat.le_succ w) ⟨hb,hn,⟨b0,b1,b2,b3,b4,b5⟩,⟨c0,c1,c2,c3,c4,c5⟩,hl'⟩);clear d2 d4 z4 l4 m2 m4 hbY;generalize Ds Y (w.1.size+1) ⟨hb,hn,⟨b0,b1,b2,b3,b4,b5⟩,⟨c0,c1,c2,c3,c4,c5⟩,hl'⟩=X at *;exact bodyPost_ret (pg _ _ 4 5 rfl rfl rfl hres.o) rfl ⟨rfl,hrb.o⟩
end
section
open Go.RowKit Hp
def Wu:∀ (l:List DW)(k:Nat)(x:DW),l[k]?=some x->∀ j,j<6->(za l)[k*6+j]?=[aC .i64 x.t,I Z x.b,I Z x.n,I Z x.a.k,I Z x.a.e,I Z x.a.v][j]?
 | [],_,_,h,_,_=>by simp at h
 | z::l,0,x,h,j,hj=>by
  simp at h;subst h;have e:za (z::l)=[aC .i64 z.t,I Z z.b,I Z z.n,I Z z.a.k,I Z z.a.e,I Z z.a.v]++za l:=rfl;rw[e,bH,ai,Qm (by simpa using hj)]
 | z::l,k+1,x,h,j,hj=>by
  have ih:=Wu l k x (by simpa using h) j hj
  have e:za (z::l)=[aC .i64 z.t,I Z z.b,I Z z.n,I Z z.a.k,I Z z.a.e,I Z z.a.v]++za l:=rfl;rw[e,show (k+1)*6+j=6+(k*6+j) from by omega,Ql (by simp),<-ih]
  congr 1;simp
structure YY (w:Aa)(g b:Nat)(x:DW):Prop where
 c0:w.cell? ⟨g,b,none⟩=some (I Z x.t)
 c1:w.cell? ⟨g,b+1,none⟩=some (I Z x.b)
 c2:w.cell? ⟨g,b+2,none⟩=some (I Z x.n)
 c3:w.cell? ⟨g,b+3,none⟩=some (I Z x.a.k)
 c4:w.cell? ⟨g,b+4,none⟩=some (I Z x.a.e)
 c5:w.cell? ⟨g,b+5,none⟩=some (I Z x.a.v)
def Row.Vw {w:Aa}{o:Own}{tg:Tag}{e:TypeId}{n cap:Nat}{pa:Option Addr}{l:List DW}(hr:Row w o tg e 6 (.slice pa n cap) n (za l)){t:Nat}{x:DW}(ht:l[t]?=some x) :
  ∃ g,pa=some ⟨g,0,none⟩/\n<=cap/\YY w g (t*6) x:=by
 have ha:=Wu l t x ht;rcases hr.Dc with ⟨_,h0⟩|⟨g,cap',e',hn⟩
 ·have:=ha 0 (by omega)
  rw[h0]at this;simp at this
 ·injection e' with e1 _ e3
  subst e1 e3;have f:∀ k u,k<6->[aC .i64 x.t,I Z x.b,I Z x.n,I Z x.a.k,I Z x.a.e,I Z x.a.v][k]?=some u->w.cell? ⟨g,t*6+k,none⟩=some u:=fun k u hk hu=>by
   have:=hr.own.cells (g:=g) rfl (t*6+k) u ((ha k hk).trans hu);rwa [addr_add]at this
  exact⟨g,rfl,hn,f 0 _ (by omega) rfl,f 1 _ (by omega) rfl,f 2 _ (by omega) rfl,f 3 _ (by omega) rfl,f 4 _ (by omega) rfl,f 5 _ (by omega) rfl⟩
end
section
open Go.RowKit Hp
attribute [local go_sem ↓] Go.wp_at_zero Go.wp_at_succ
def Kc (q:List (Nat×Nat))(ps:List Nat)(k:Nat):List Nat:=ps.take k++(q.map (·.1)).drop k
def Xn:∀ q:List (Nat×Nat),kz q (q.map (·.1))=q
 | []=>rfl
 | z::q=>by simp only[aP,kz,aW,aY,Xn q]
def WI:∀ (q:List (Nat×Nat))(ps:List Nat),q.length<=ps.length->kz q (ps.take q.length)=kz q ps
 | [],_,_=>rfl
 | z::q,[],h=>by simp at h
 | z::q,p::ps,h=>by simp only[Qv,List.take_succ_cons,kz,aW,aY,WI q ps (by simpa using h)]
def YG {q:List (Nat×Nat)}{ps:List Nat}(h:q.length<=ps.length){k:Nat}(hk:k<=q.length):(Kc q ps k).length=q.length:=by
 simp only[Kc,Qd,Qp,List.length_drop,Qg];omega
def MF {q:List (Nat×Nat)}{ps:List Nat}(_h:q.length<=ps.length){k x:Nat}(hk:k<q.length)(hx:ps[k]?=some x):(Kc q ps k).set k x=Kc q ps (k+1):=by
 obtain⟨hkp,hxe⟩:=Qc.1 hx;have e1:(ps.take k).length=k:=by rw[Qp];omega
 have e2:(q.map (·.1)).drop k=(q.map (·.1))[k]'(by simpa using hk)::(q.map (·.1)).drop (k+1):=List.drop_eq_getElem_cons (by simpa using hk)
 unfold Kc;rw[List.set_append_right _ _ (by omega),e1,Nat.sub_self,e2,ag,aF hkp,hxe,aT]
 rfl
section
variable {w : Aa} {o : Own} {t : Tag}
def Xl {q:List (Nat×Nat)}{ps:List Nat}{v:Ac}(hr:Row w o t 118 2 v q.length (qh q))(hl:q.length<=ps.length)(hq:q.length<=1099511627776){g off c:Nat}(hc:ps.length<=c)
  (hg:∀ (j x:Nat),ps[j]?=some x->w.cell? ⟨g,off+j,none⟩=some (nv x))(hlt:g<w.1.size)(ng:o g≠t) :
  Ab ANa 50 #[v,Ai (some ⟨g,off,none⟩) ps.length c] w fun e w'=>e=O (.slice (if c=q.length then some ⟨g,off,none⟩ else some ⟨g,off+q.length,none⟩) (ps.length-q.length) (c-q.length)) /\
   Row w' o t 118 2 v q.length (qh (kz q ps))/\Stp (fun u=>u=t) o o w w':=by
 obtain⟨pa,cp,rfl⟩:=hr.A6;have HR:=Qa hr;have HL:=Qa hl;have HQ:=Qa hq;have HG:=Qa (fun w2 (hs:Stp (fun u=>u=t) o o w w2)(j x:Nat)(hx:ps[j]?=some x)=>show w2.cell? ⟨g,off+j,none⟩=some (nv x) from by
  have:=hs.block g hlt (fun h=>ng h);rw[<-hg j x hx];simp only[World.cell?,this])
 obtain⟨n,hn⟩:=Ja0 q.length;obtain⟨m,hm⟩:=Ja0 ps.length;have HN:=Qa hn;have HM:=Qa hm;rw[<-hn]at HR HL HQ ⊢;rw[<-hm]at HL hc ⊢;have i1:(n:Int)<=(m:Int):=by have:=HL.o;omega
 have i2:(m:Int)<=(c:Int):=by omega
 have i3:(0:Int)<=(n:Int):=by omega
 clear hr hl hq hg hn hm;go_in;go_wp2_with fail;go_loopw [5,8] (fun _ ix wr=>∃ k:Nat,ix=I Z k/\k<=n/\Row wr o t 118 2 (.slice pa n cp) n (qh (kz q (Kc q ps k)))/\Stp (fun u=>u=t) o o w wr) (fun _ ix _=>n-(intOf ix).toNat)
 case atStart=>exact⟨0,rfl,af _,by rw[show Kc q ps 0=q.map (·.1) from rfl,Xn];exact HR.o,Stp.refl _ _ _⟩
 case round =>
  obtain⟨k,rfl,hkn,gJ,hs⟩:=hrel;by_cases hlt':k<n
  ·have eG:(k:Int)<(n:Int):=by omega
   have hkM:(k:Int)<(m:Int):=by omega
   obtain⟨hw1,hw2⟩:=xo k n hlt' HQ.o;obtain⟨x,hx⟩:∃ x,ps[k]?=some x:=⟨_,Qb (by rw[<-HM.o];have:=HL.o;omega)⟩
   have q0:wr.cell? ⟨g,off+k,none⟩=some (I Z x):=HG.o _ hs k x hx;have CL:=Uh q (Kc q ps k) k x (by rw[<-HN.o];exact hlt') (by rw[YG (by rw[<-HN.o,<-HM.o];exact HL.o) (by rw[<-HN.o];omega)];exact Qk _)
   rw[MF (by rw[<-HN.o,<-HM.o];exact HL.o) (by rw[<-HN.o];exact hlt') hx]at CL
   have hkl:(Kc q ps k)[k]?≠none:=by
    rw[ne_eq,List.getElem?_eq_none_iff,YG (by rw[<-HN.o,<-HM.o];exact HL.o) (by rw[<-HN.o];omega),<-HN.o];omega
   obtain⟨u,hu⟩:=Option.ne_none_iff_exists'.1 hkl;rcases gJ.Dc with ⟨_,h0⟩|⟨g2,cap,e,hcap⟩
   ·have h2:=CL.2
    rw[h0,hu]at h2;simp at h2
   ·injection e with e1 _ e3
    subst e1 e3;have hp2:=gJ.Dj (k*2) (I Z x);rw[show (aC .i64 (x:Int))=nv x from rfl,<-CL.1]at hp2;have z2:=gJ.free (k*2);have hog:=gJ.EB;have hb2:=gJ.blt;have q2:∃ u,wr.cell? ⟨g2,k*2,none⟩=some u:=by
     have h3:=gJ.own.cells (g:=g2) rfl (k*2) (nv u) (by rw[CL.2,hu];rfl)
     simp only[Addr.add_lit,ai]at h3;exact⟨_,h3⟩
    obtain⟨u,q2⟩:=q2;have HP:=Qa hp2;have HS2:=Qa (hs.setCell (a:=⟨g2,k*2,none⟩) (by show o g2=t;exact hog) (I Z x))
    clear gJ hs CL hx hp2 hog hkl hu;go_wp2_with fail;go_roundw
    case rel=>exact⟨k+1,by simp,by omega,HP.o,HS2.o⟩
    case measure=>simp[intOf];omega
  ·obtain rfl:k=n:=by omega
   have e2:Kc q ps k=ps.take k:=by unfold Kc;rw[List.drop_eq_nil_of_le (by rw[Qg,<-HN.o];exact Qk _),aH]
   rw[e2,HN.o,WI q ps (by rw[<-HN.o,<-HM.o];exact HL.o),<-HN.o]at gJ
   go_wp2_with fail
   all_goals
    go_ret;exact⟨rfl,gJ,hs⟩
end
end
section
open Go.RowKit Hp
open Go.MuLone
attribute [local go_sem ↓] Go.wp_at_zero Go.wp_at_succ
def DW.val (x:DW):Ac:=Al #[x.t,x.b,x.n,x.a.k,x.a.e,x.a.v]
def qls (b n cp:Nat) (pa:Option Addr) (x:DW) (w:Aa) (h0:w.cell? ⟨b,3,none⟩=some (.int .i32 0)) (h2:w.cell? ⟨b,5,none⟩=some (.slice pa n cp)) (f0:w.frozen? ⟨b,3,none⟩=false) (hlt:b<w.1.size) (hn:2000<=n) :
  Ab ANa 27 #[Ah (some ⟨b,3,none⟩),x.val] w fun e w'=>e=O (Ak #[])/\∃ X,w'=((w.setCell ⟨b,3,none⟩ (.int .i32 1)).alloc X).setCell ⟨b,3,none⟩ (.int .i32 0):=by
 obtain⟨xt,xb,xn,⟨xk,xe,xv⟩⟩:=x;show Ab _ _ #[Ah (some ⟨b,3,none⟩),Al #[xt,xb,xn,xk,xe,xv]] _ _;obtain⟨W,hW⟩:=Ja0 (w.alloc (ANb #[xt,xb,xn,xk,xe,xv] 53));have hb:Ae w w W:=by rw[hW];exact qc (qd w) _
 have c0:W.cell? ⟨b,3,none⟩=some (.int .i32 0):=by rw[hb.cell (p:=⟨b,3,none⟩) hlt];exact h0
 have c2:W.cell? ⟨b,5,none⟩=some (.slice pa n cp):=by rw[hb.cell (p:=⟨b,5,none⟩) hlt];exact h2
 have fW:W.frozen? ⟨b,3,none⟩=false:=by
  have e:=hb.block b hlt;simp only[aQ,e]at f0 ⊢;exact f0
 have uS:¬(n:Int)<2000:=by omega
 have a0:(w.alloc (ANb #[xt,xb,xn,xk,xe,xv] 53)).cell? ⟨b,5,none⟩=some (.slice pa n cp):=by rw[<-hW];exact c2
 go_enter_defers func27,ntmps27;go_wp2_with (first
  | (go_at_call 43;rw[<-hW];refine (lock_free Tryz.muLib ⟨b,3,none⟩ _ c0 fW).mono ?_;rintro e w' ⟨rfl,rfl⟩))
 have hlt1:b<(w.setCell ⟨b,3,none⟩ (.int .i32 1)).1.size:=by simpa using hlt
 have zJ:=qc (qd (w.setCell ⟨b,3,none⟩ (.int .i32 1))) (ANb #[xt,xb,xn,xk,xe,xv] 53);have hc1:=(zJ.cell (p:=⟨b,3,none⟩) hlt1).trans (aM w ⟨b,3,none⟩ (.int .i32 1) h0);have hf0:(w.setCell ⟨b,3,none⟩ (.int .i32 1)).frozen? ⟨b,3,none⟩=false:=by simp[f0]
 have hf1:((w.setCell ⟨b,3,none⟩ (.int .i32 1)).alloc (ANb #[xt,xb,xn,xk,xe,xv] 53)).frozen? ⟨b,3,none⟩=false:=by
  have e:=zJ.block b hlt1;simp only[aQ,e]at hf0 ⊢;exact hf0
 refine leaves_cons (f:=44) (args:=#[Ah (some ⟨b,3,none⟩)]) (by simp) (by simp[go_sem]) ?_
 refine (unlock_deferred Tryz.muLib ⟨b,3,none⟩ .returning _ hc1 hf1).mono ?_
 rintro e u' w'' ⟨rfl,rfl,rfl⟩
 exact⟨Ak #[],by simp[results,results27,go_sem],rfl,_,rfl⟩
end
section
open Go.RowKit Hp
attribute [local go_sem ↓] Go.wp_at_zero Go.wp_at_succ
section
variable {w w' : Aa} {o o' : Own} {y : Bl} {S : Am} {i : Nat}
def G1 {l:Bn}{H:Hp}(h:B1 w o l H)(hk:H.ok)(p:Nat) :
  Ab ANa 57 #[ptr l.h,p] w fun e w'=>∃ (sp sd:Nat)(wk fn:Bool)(er:Int),e=O (Ak #[Al #[sp,sd,wk,fn],.bool (H.DG p),er])/\Ae w w w':=by
 obtain⟨vc,vo,vw,vf,f,hh⟩:=h;unfold Hp.DG
 cases hp:lk H.cur p with
 | none =>
  refine (XG hh hk hp).mono ?_;rintro e w'⟨rfl,hb⟩;exact⟨0,0,false,false,_,rfl,hb⟩
 | some ob =>
  refine (TY hh hk hp).mono ?_;rintro e w'⟨rfl,hb⟩;exact⟨_,_,_,_,_,rfl,hb⟩
def qqs {l:Bn}{H:Hp}(h:B1 w o l H)(hk:H.ok)(p:Nat) :
  Ab ANa 58 #[ptr l.h,p] w fun e w'=>e=O (Ak #[I Z ((H.Dg p).1:Nat),I Z ((H.Dg p).2:Nat)])/\Ae w w w':=by
 obtain⟨vc,vo,vw,vf,f,hh⟩:=h;unfold Hp.Dg
 cases hp:lk H.cur p with
 | none=>exact WO hh hk hp
 | some ob=>exact Wb hh hk hp
def Am.FL (S:Am):Am:={ S with H:=(uv S.H S.ph [] []).1,ph:=(uv S.H S.ph [] []).2.1 }
def Am.PX (S:Am):List Nat:=(uv S.H S.ph [] []).2.2.1
def Am.JF (S:Am):List Nat:=(uv S.H S.ph [] []).2.2.2.1
def YP (S:Am):S.CG=({ S.FL with lost:=S.lost++S.JF },S.PX,(uv S.H S.ph [] []).2.2.2.2):=by
 unfold Am.CG Am.FL Am.PX Am.JF uv;by_cases h0:S.ph=0
 ·simp only[h0,if_true,aH]
  obtain⟨⟩:=S;simp only at h0;subst h0;rfl
 ·simp only[h0,if_false]
  by_cases h1:S.H.Bf.2=true
  ·simp only[h1,if_true,aH];rfl
  ·have h1f:S.H.Bf.2=false:=by simpa using h1
   simp only[h1f,Bool.false_eq_true,if_false];by_cases h2:S.ph=1
   ·simp only[h2,if_true,aH,ay]
   ·simp only[h2,if_false,ay]
def qjt (S:Am)(l:List Nat)(p:Nat):({ S with lost:=l }:Am).Bb p={ S.Bb p with lost:=l }:=by
 unfold Am.Bb;by_cases h:S.H.DG p=true\/100<=S.queue.length
 ·simp only[if_pos h]
 ·simp only[if_neg h]
def VW:∀ (ps:List Nat)(S:Am)(l:List Nat),({ S with lost:=l }:Am).A8 ps={ S.A8 ps with lost:=l }
 | [],S,l=>rfl
 | p::ps,S,l=>by
  show (({ S with lost:=l }:Am).Bb p).A8 ps={ (S.Bb p).A8 ps with lost:=l };rw[qjt,VW ps]
def Uk (S:Am):S.Cp=({ S.FL.A8 S.PX with lost:=S.lost++S.JF },(uv S.H S.ph [] []).2.2.2.2):=by
 unfold Am.Cp;rw[YP];simp only;rw[VW]
end
section
variable {w w' : Aa} {o o' : Own} {y : Bl} {S : Am} {i : Nat}
structure CJ (w:Aa)(o:Own)(y:Bl)(S:Am)(vr vs:Ac)(rd ls:List Nat):Prop where
 A3:∃ vq vl vm,An w y.sb (qm y S vq vl vm) 100/\Cy w o y.l.id S vq vl vm
 cb:An w y.cy #[ptr y.l.h,FR y.cy S.ph,vr,vs] 143
 cr:Row w o (y.l.id,8) 3 1 vr rd.length (rd.map nv)
 cl:Row w o (y.l.id,9) 3 1 vs ls.length (ls.map nv)
 oy:o y.cy=(y.l.id,7)
 hp:B1 w o y.l S.H
 ck:An w y.ck #[S.now,S.most] 149
 ED:Row w o (y.l.id,12) 101 1 y.FE S.Au.length ((aG S.Au.length).map fun i=>ptr (y.xb i))
 Au:∀ i x,S.Au[i]?=some x->Fh w o y.l.id i (y.xb i) (y.lb i) x
 oc:o y.ck=(y.l.id,10)
 os:o y.sb=(y.l.id,11)
def Av.Rt (h:Av w o y S):CJ w o y S (Ai none 0 0) (Ai none 0 0) [] []:=⟨h.A3,h.cy,Row.nil _ _ _ _ _,Row.nil _ _ _ _ _,h.oy,h.hp,h.ck,h.ED,h.Au,h.oc,h.os⟩
def CJ.close (h:CJ w o y S (Ai none 0 0) (Ai none 0 0) [] []):Av w o y S:=⟨h.A3,h.cb,h.hp,h.ck,h.ED,h.Au,h.oc,h.os,h.oy⟩
def CJ.lt {vr vs:Ac}{rd ls:List Nat}(h:CJ w o y S vr vs rd ls):y.sb<w.1.size:=by obtain⟨_,_,_,hb,_⟩:=h.A3;exact hb.lt
def CJ.FL {vr vs nM vs':Ac}{rd ls rd' ls':List Nat}(h:CJ w o y S vr vs rd ls){H':Hp}{n:Nat}(hH:B1 w' o' y.l H')(hb':An w' y.cy #[ptr y.l.h,FR y.cy n,nM,vs'] 143)(hr1:Row w' o' (y.l.id,8) 3 1 nM rd'.length (rd'.map nv))(hr2:Row w' o' (y.l.id,9) 3 1 vs' ls'.length (ls'.map nv))(hs:Stp (FK y.l) o o' w w'):CJ w' o' y { S with H:=H',ph:=n } nM vs' rd' ls':=by
 obtain⟨vq,vl,vm,hb,hr⟩:=h.A3;have hn:∀ j,10<=j->¬FK y.l (y.l.id,j):=fun j hj e=>by have:=e.2;simp only at this;omega
 have hr':=hr.Ar hs fun j _ _=>hn j (by omega)
 exact⟨⟨vq,vl,vm,hb.Ar hs (by rw[h.os];exact hn _ (by omega)),hr'.1,hr'.2,hr'.3⟩,hb',hr1,hr2,(hs.tags _ h.cb.lt).trans h.oy,hH,h.ck.Ar hs (by rw[h.oc];exact hn _ (by omega)),h.ED.Ar hs (hn _ (by omega)),fun i x hx=>(h.Au i x hx).Ar hs fun j _=>hn _ (by omega),(hs.tags _ h.ck.lt).trans h.oc,(hs.tags _ h.lt).trans h.os⟩
def CJ.Vv {vr vs nM vs':Ac}{rd ls rd' ls':List Nat}(h:CJ w o y S vr vs rd ls)(hb':An w' y.cy #[ptr y.l.h,FR y.cy S.ph,nM,vs'] 143)(hr1:Row w' o' (y.l.id,8) 3 1 nM rd'.length (rd'.map nv))(hr2:Row w' o' (y.l.id,9) 3 1 vs' ls'.length (ls'.map nv))(hs:Stp (fun t=>t=(y.l.id,7)) o o' w w'):CJ w' o' y S nM vs' rd' ls':=
 h.FL (h.hp.Ar hs fun j hj=>by simp;omega) hb' hr1 hr2 (hs.mono (by rintro _ rfl;exact⟨rfl,.inl (Qk _)⟩))
def CJ.below {vr vs:Ac}{rd ls:List Nat}(h:CJ w o y S vr vs rd ls)(hb:Ae w w w'):CJ w' o y S vr vs rd ls:=by
 have hs:Stp (fun _=>False) o o w w':=Stp.of_below hb
 obtain⟨vq,vl,vm,hbk,hr⟩:=h.A3;exact⟨⟨vq,vl,vm,hbk.below hb hbk.lt,hr.Ar hs fun _ _ _ h=>h⟩,h.cb.below hb h.cb.lt,h.cr.below hb,h.cl.below hb,h.oy,h.hp.Ar hs fun _ _ h=>h,h.ck.below hb h.ck.lt,h.ED.Ar hs fun h=>h,fun i x hx=>(h.Au i x hx).Ar hs fun _ _ h=>h,h.oc,h.os⟩
def CJ.own {vr vs:Ac}{rd ls:List Nat}(h:CJ w o y S vr vs rd ls){S':Am}(e1:S'.H=S.H)(e2:S'.ph=S.ph)(e3:S'.now=S.now)(e4:S'.most=S.most)(e5:S'.Au=S.Au)
  {vq vl vm:Ac}(hb:An w' y.sb (qm y S' vq vl vm) 100)(hr:Cy w' o' y.l.id S' vq vl vm)(hs:Stp (kh y) o o' w w'):CJ w' o' y S' vr vs rd ls:=by
 have hn:∀ j,j≠11->j≠13->j≠14->j≠15->¬kh y (y.l.id,j):=fun j a b c d=>ny a b c d
 exact⟨⟨vq,vl,vm,hb,hr⟩,by rw[e2];exact h.cb.Ar hs (by rw[h.oy];exact hn _ (by omega) (by omega) (by omega) (by omega)),h.cr.Ar hs (hn _ (by omega) (by omega) (by omega) (by omega)),h.cl.Ar hs (hn _ (by omega) (by omega) (by omega) (by omega)),(hs.tags _ h.cb.lt).trans h.oy,by rw[e1];exact h.hp.Ar hs fun j hj=>hn _ (by omega) (by omega) (by omega) (by omega),
  by rw[e3,e4];exact h.ck.Ar hs (by rw[h.oc];exact hn _ (by omega) (by omega) (by omega) (by omega)),by rw[e5];exact h.ED.Ar hs (hn _ (by omega) (by omega) (by omega) (by omega)),fun i x hx=>(h.Au i x (by rw[<-e5];exact hx)).Ar hs fun j _=>hn _ (by omega) (by omega) (by omega) (by omega),
  (hs.tags _ h.ck.lt).trans h.oc,(hs.tags _ h.lt).trans h.os⟩
