import Derived.Test.YteehgedabdchcaaGreatKal
import Derived.Maps.OwnSet
import Derived.Maps.Views
set_option linter.all false
set_option maxRecDepth 1000000
set_option maxHeartbeats 16000000
open Go renaming World->Aa,Calls->Ab,Value->Ac
open Go.RowKit renaming Below->Ae
open Go.Value renaming int->I,tuple->Aj
open Go.IntKind renaming i64->Z
open Go.Ending renaming returned->O
namespace Go.Proofs.YteehgedabdchcaaGreat
section
open Go.RowKit Hp
section
variable {n : Nat} {P : Program} {ops : Array Oper} {md : Region.Mode} {w : Aa} {F : Fence}
structure Er (F:Fence)(P:Program):Prop where
 fn:∀ f,F.fn f
 calls:∀ {n:Nat}{f:FuncId}{args:Array Ac}{w:Aa}{R:Ending->Aa->Prop},Ab P f args w R->(F.depth.isSome=true->1<=n)/\CallsIn F (n-1) P f args w R
theorem P8 (P:Program):Er Fence.wide P:=⟨fun _=>trivial,fun h=>⟨fun h=>(by simp[Fence.wide]at h),callsIn_wide.2 h⟩⟩
theorem FY (l:Nat)(P:Program):Er (Fence.wide.inRound l) P:=⟨fun _=>trivial,fun h=>⟨fun h=>(by simp[Fence.inRound,Fence.wide]at h),CallsIn.inRound l (callsIn_wide.2 h)⟩⟩
theorem Xe (hF:Er F P){o:Oper}{a:Act}{K:Act->Prop}{K':Act->Aa->Prop}{Q':Exit->Act->Aa->Prop}(hd:∀ c,o.op≠.defer c)(h:∀ a,K a->K' a w)(hh:o.still P a w K):o.wpIn F n P a w K' Q':=by
 unfold Oper.still at hh;refine⟨fun _ _=>hF.fn _,?_⟩
 rw[Oper.semAt_eq _ _ _ hd];generalize (execOp a.eval o).run P w=r at *
 cases r with
 | ok m w' =>
  cases m<;>simp only[Oper.stillUpon]at hh<;>simp only[Oper.uponIn]
  case enter f args =>
   obtain⟨rfl,v,hc,hn⟩:=hh;refine hF.calls (hc.mono fun e w'' he=>?_)
   obtain⟨he,hw⟩:=he;subst he;subst hw;exact h _ hn
  all_goals (obtain⟨rfl,h2⟩:=hh;exact h _ h2)
 | halt x w'=>simp only[Oper.stillUpon]at hh
theorem YT (hF:Er F P){i:Nat}{a:Act}{K:Act->Prop}{K':Act->Aa->Prop}{Q':Exit->Act->Aa->Prop}(hd:∀ (j:Nat)(o:Oper) c,ops[j]?=some o->o.op≠.defer c)(h:∀ a,K a->K' a w)(hh:stOp P ops w i K a):wpOpIn F n P ops Q' i K' a w:=by
 unfold stOp at hh;unfold wpOpIn;split
 ·rename_i ho;simp only[ho]at hh;exact h _ hh
 ·rename_i o ho
  simp only[ho]at hh;split
  ·rename_i hw;simp only[hw,if_true]at hh;exact Xe hF (fun c=>hd _ _ c ho) h hh
  ·rename_i hw;simp only[hw]at hh;exact⟨fun _ _=>hF.fn _,h _ hh⟩
theorem bn (hF:Er F P){m g:Nat}{L:Array Bool->Act->Prop}{Q':Exit->Act->Aa->Prop}(hd:∀ (j:Nat)(o:Oper) c,ops[j]?=some o->o.op≠.defer c)(hL:∀ listed a,L listed a->wpAnyIn F n P md ops Q' g listed a w) :
  ∀ (f:Nat)(listed:Array Bool)(a:Act),wpAnyL P md ops w m L f listed a->wpAnyIn F n P md ops Q' (f+g) listed a w
 | 0,listed,a,h=>by rw[Nat.zero_add];exact hL _ _ h
 | f+1,listed,a,h=>by
  rw[show f+1+g=(f+g)+1 by omega]
  exact⟨fun h0=>absurd h0 h.1,fun i hi=>YT hF hd (fun a' h'=>bn hF hd hL f _ a' h') (h.2 i hi).2⟩
theorem sk {Q':Exit->Act->Aa->Prop}:∀ (l':List Oper)(k:Nat)(listed:Array Bool)(a:Act)(w:Aa),(∀ j,l'[j]?=ops[k+j]?) ->
  Region.seqB md ops l'.length k listed=true->wpListIn F n P ops Q' l' a w->wpAnyIn F n P md ops Q' l'.length listed a w
 | [],_,_,_,_,_,hB,h=>⟨by simpa [Region.seqB] using hB,h⟩
 | o::l',k,listed,a,w,hl,hB,h=>by
  have h0:ops[k]?=some o:=by simpa using (hl 0).symm
  simp only[Qv,Region.seqB,Bool.and_eq_true,decide_eq_true_eq]at hB;refine⟨fun h1=>(by rw[hB.1]at h1;cases h1),fun i hi=>?_⟩
  rw[hB.1]at hi;have hik:i=k:=by simpa using hi
  subst hik;have hw:wpOpIn F n P ops Q' i (wpListIn F n P ops Q' l') a w:=by unfold wpOpIn;simp only[h0];exact h
  exact wpOpIn_mono (fun a' w' h'=>sk l' (i+1) _ a' w' (fun j=>by have:=hl (j+1);simpa [Nat.add_assoc,Nat.add_comm 1 j] using this) hB.2 h') hw
def UA (l:List Oper):Bool:=l.all fun o=>match o.op with|.defer _=>false|_=>true
theorem WJ {l:List Oper}(h:UA l=true):∀ (j:Nat)(o:Oper) c,l.toArray[j]?=some o->o.op≠.defer c:=by
 intro j o c hj e;have hm:o ∈ l:=by rw[List.getElem?_toArray]at hj;exact Qe hj
 have:=List.all_eq_true.1 h o hm;rw[e]at this
 cases this
theorem ks (hF:Er F P) {id:Nat} {Q:Exit->Act->Aa->Prop} {a:Act} {w:Aa} {l':List Oper} (m:Nat) (hm:P.follows .mixedOrders=true) (hB:Region.lexTailB .any l'.toArray m=true) (hd:UA l'=true)
  (h:wpStill P l'.toArray w.drew (fun a'=>wpListIn F n P l'.toArray Q (l'.drop m) a' w.drew) (l'.take m) a):(Code.region id l'.toArray true).wpIn F n P Q a w:=by
 simp only[Region.lexTailB,Bool.and_eq_true,decide_eq_true_eq]at hB;obtain⟨⟨⟨⟨hsel,hn⟩,hs⟩,hc⟩,hlex⟩:=hB;have hn':m<l'.length:=by simpa using hn
 have htl:(l'.take m).length=m:=by simp;omega
 have hdl:(l'.drop m).length=l'.toArray.size-m:=by simp
 have inv0:HeadInv .any l'.toArray m (Array.replicate l'.toArray.size false):=
  ⟨by simp,fun j oj _ hl=>(by rw[getD_replicate_false]at hl;cases hl),fun t _ ht=>getD_in (by simpa using ht) (getD_replicate_false _ _)⟩
 have H:=wpAnyL_lex (md:=.any) (g:=l'.toArray.size-m) hsel hs hc hn (l'.take m) 0 _ a (fun j hj=>by
  have hj':j<m:=by rw[htl]at hj;exact hj
  simp[hj']) (by simpa using htl) inv0 (by rw[htl];exact hlex) h
 refine wpIn_region_any hm ?_;have:=bn hF (n:=n) (Q':=Q) (g:=l'.toArray.size-m) (WJ hd) (fun listed a' hL=>by
  have:=sk (F:=F) (n:=n) (md:=.any) (Q':=Q) (l'.drop m) m listed a' w.drew (fun j=>by simp[List.getElem?_drop]) (by rw[hdl];exact hL.1) hL.2
  rwa [hdl]at this) _ _ _ H
 rw[htl,show m+(l'.toArray.size-m)=l'.toArray.size by omega]at this
 exact this
theorem qms {K:Act->Aa->Prop}{Q:Exit->Act->Aa->Prop}{c:Code}{a:Act}{w:Aa}(h:c.wpIn F n P (Exit.then K fun _ _ _=>False) a w):c.wpIn F n P (Exit.then K Q) a w:=
 wpIn_mono h fun e _ _ hq=>by cases e<;>first|exact hq|exact hq.elim
end
def ue (md:Region.Mode)(ops:Array Oper):Nat->Array Bool->List (List Nat)
 | 0,_=>[[]]
 | f+1,listed=>match Region.ready md ops listed with
  | []=>[[]]
  | rs=>rs.flatMap fun i=>(ue md ops f (listed.setIfInBounds i true)).map (i::·)
def uq (l:List Oper):List Nat->List Oper
 | []=>[]
 | i::is=>match l.drop i with
  | []=>[]
  | o::_=>o::uq l is
def N3 (l:List Oper)(is:List Nat):Bool:=is.all fun i=>decide (i<l.length)
theorem uf (md:Region.Mode)(ops:Array Oper):∀ (fuel t:Nat)(listed:Array Bool),Region.linearise.go md ops fuel t listed [] ∈ ue md ops fuel listed
 | 0,t,listed=>by simp[Region.linearise.go,ue]
 | fuel+1,t,listed=>by
  change (match (Region.ready md ops listed)[t%(Region.ready md ops listed).length]? with
   | some i=>Region.linearise.go md ops fuel (t/(Region.ready md ops listed).length) (listed.setIfInBounds i true) [i]
   | none=>[].reverse) ∈ (match Region.ready md ops listed with
  | []=>[[]]
  | rs=>rs.flatMap fun i=>(ue md ops fuel (listed.setIfInBounds i true)).map (i::·))
  generalize Region.ready md ops listed=rs
  cases rs with
  | nil=>simp
  | cons x xs =>
   have hlt:t%(x::xs).length<(x::xs).length:=Nat.mod_lt _ (by simp)
   have ih:=uf md ops fuel (t/(x::xs).length) (listed.setIfInBounds ((x::xs)[t%(x::xs).length]) true);rw[Qb hlt];simp only;rw[linearise_go_acc,List.reverse_singleton,List.singleton_append];exact List.mem_flatMap.2 ⟨(x::xs)[t%(x::xs).length],List.getElem_mem hlt,Qt.2 ⟨_,ih,rfl⟩⟩
section
variable {F : Fence} {n : Nat} {P : Program} {Q : Exit -> Act -> Aa -> Prop} {l' : List Oper}
theorem rt:∀ (is:List Nat)(a:Act)(w:Aa),N3 l' is=true->wpListIn F n P l'.toArray Q (uq l' is) a w->wpOpsIn F n P l'.toArray Q is a w
 | [],a,w,_,h=>h
 | i::is,a,w,hi,h=>by
  unfold N3 at hi;rw[List.all_cons,Bool.and_eq_true,decide_eq_true_eq]at hi;have e:l'.drop i=l'[i]'hi.1::l'.drop (i+1):=List.drop_eq_getElem_cons hi.1;have hp:uq l' (i::is)=l'[i]'hi.1::uq l' is:=by
   show (match l'.drop i with|[]=>[]|o::_=>o::uq l' is)=_
   rw[e]
  rw[hp]at h;rw[wpOpsIn_cons];have ho:l'.toArray[i]?=some (l'[i]'hi.1):=by rw[List.getElem?_toArray,Qb hi.1]
  refine wpOpIn_mono (fun a w h=>rt is a w hi.2 h) ?_
  unfold wpOpIn;simp only[ho];exact h
theorem cf {id:Nat}{a:Act}{w:Aa}(hm:P.follows .mixedOrders=true)(L:List (List Nat))(hL:ue .any l'.toArray l'.length (Array.replicate l'.length false)=L)(hi:L.all (N3 l')=true)
  (h:∀ is ∈ L,wpListIn F n P l'.toArray Q (uq l' is) a w.drew):(Code.region id l'.toArray true).wpIn F n P Q a w:=by
 refine wpIn_region_draw fun t=>?_
 simp only[Region.schedule,hm,Bool.true_or,if_true];have hm2:=uf .any l'.toArray l'.toArray.size t (Array.replicate l'.toArray.size false);have e:l'.toArray.size=l'.length:=by simp
 unfold Region.linearise;rw[e]at hm2 ⊢;rw[hL]at hm2;exact rt _ _ _ (List.all_eq_true.1 hi _ hm2) (h _ hm2)
theorem T0:∀ (is:List Nat)(a:Act)(w:Aa),N3 l' is=true->wpList P l'.toArray Q (uq l' is) a w->wpOps P l'.toArray Q is a w
 | [],a,w,_,h=>h
 | i::is,a,w,hi,h=>by
  unfold N3 at hi;rw[List.all_cons,Bool.and_eq_true,decide_eq_true_eq]at hi;have e:l'.drop i=l'[i]'hi.1::l'.drop (i+1):=List.drop_eq_getElem_cons hi.1;have hp:uq l' (i::is)=l'[i]'hi.1::uq l' is:=by
   show (match l'.drop i with|[]=>[]|o::_=>o::uq l' is)=_
   rw[e]
  rw[hp]at h;rw[wpOps_cons];have ho:l'.toArray[i]?=some (l'[i]'hi.1):=by rw[List.getElem?_toArray,Qb hi.1]
  refine wpOp_mono (fun a w h=>T0 is a w hi.2 h) ?_
  unfold wpOp;simp only[ho];exact h
theorem YB {id:Nat}{a:Act}{w:Aa}(hm:P.follows .mixedOrders=true)(L:List (List Nat))(hL:ue .any l'.toArray l'.length (Array.replicate l'.length false)=L)(hi:L.all (N3 l')=true)
  (h:∀ is ∈ L,wpList P l'.toArray Q (uq l' is) a w.drew):(Code.region id l'.toArray true).wp P Q a w:=by
 refine wp_region_draw fun t=>?_
 simp only[Region.schedule,hm,Bool.true_or,if_true];have hm2:=uf .any l'.toArray l'.toArray.size t (Array.replicate l'.toArray.size false);have e:l'.toArray.size=l'.length:=by simp
 unfold Region.linearise;rw[e]at hm2 ⊢;rw[hL]at hm2;exact T0 _ _ _ (List.all_eq_true.1 hi _ hm2) (h _ hm2)
end
def dO (md:Region.Mode)(o:Oper):List Nat:=(o.after.toList.filter fun e=>Region.binds md e).map (·.on)
def rE:List (List Nat)->Nat->Nat->List Nat
 | [],_,_=>[]
 | d::D,i,m=>if (!m.testBit i&&d.all fun j=>m.testBit j)=true then i::rE D (i+1) m else rE D (i+1) m
def QY (D:List (List Nat)):Nat->Nat->List (List Nat)
 | 0,_=>[[]]
 | f+1,m=>match rE D 0 m with
  | []=>[[]]
  | rs=>rs.flatMap fun i=>(QY D f (m ||| 2 ^ i)).map (i::·)
theorem Gt:∀ (D:List (List Nat))(i m:Nat),rE D i m=(List.range' i D.length).filter fun k=>!m.testBit k&&((D[k-i]?).map fun d=>d.all fun j=>m.testBit j).getD false
 | [],_,_=>rfl
 | d::D,i,m=>by
  unfold rE;rw[Qv,List.range'_succ,List.filter_cons,Gt D (i+1) m];have hr:(List.range' (i+1) D.length).filter (fun k=>!m.testBit k&&((D[k-(i+1)]?).map fun d=>d.all fun j=>m.testBit j).getD false) =
    (List.range' (i+1) D.length).filter (fun k=>!m.testBit k&&(((d::D)[k-i]?).map fun d=>d.all fun j=>m.testBit j).getD false):=by
   refine List.filter_congr fun k hk=>?_
   have:=(List.mem_range'_1.1 hk).1;rw[show k-i=(k-(i+1))+1 from by omega,List.getElem?_cons_succ]
  rw[hr,Nat.sub_self,List.getElem?_cons_zero,Option.map_some,Option.getD_some]
structure DO (n:Nat)(listed:Array Bool)(m:Nat):Prop where
 sz:listed.size=n
 at':∀ i,i<n->listed[i]?=some (m.testBit i)
 out:∀ i,n<=i->m.testBit i=false
theorem DO.zero (n:Nat):DO n (Array.replicate n false) 0:=
 ⟨by simp,fun i hi=>by simp[hi],fun i _=>Nat.zero_testBit i⟩
theorem DO.set {n:Nat}{listed:Array Bool}{m:Nat}(h:DO n listed m){i:Nat}(hi:i<n):DO n (listed.setIfInBounds i true) (m ||| 2 ^ i):=by
 refine⟨by simp[h.sz],fun j hj=>?_,fun j hj=>?_⟩
 ·rw[Nat.testBit_or,Nat.testBit_two_pow]
  by_cases e:i=j
  ·subst e;simp[h.sz,hi]
  ·rw[Array.getElem?_setIfInBounds_ne e,h.at' j hj];simp[e]
 ·rw[Nat.testBit_or,h.out j hj,Nat.testBit_two_pow]
  simp;omega
theorem DO.Q9 {n:Nat}{listed:Array Bool}{m:Nat}(h:DO n listed m){i:Nat}(hi:i<n):listed.getD i true=m.testBit i:=by
 rw[Array.getD_eq_getD_getElem?,h.at' i hi];rfl
theorem DO.Sw {n:Nat}{listed:Array Bool}{m:Nat}(h:DO n listed m)(i:Nat):listed.getD i false=m.testBit i:=by
 rw[Array.getD_eq_getD_getElem?];by_cases hi:i<n
 ·rw[h.at' i hi];rfl
 ·rw[h.out i (by omega),Array.getElem?_eq_none (by rw[h.sz];omega)];rfl
theorem ready_eq (md:Region.Mode)(l:List Oper){listed:Array Bool}{m:Nat}(h:DO l.length listed m):Region.ready md l.toArray listed=rE (l.map (dO md)) 0 m:=by
 rw[Gt];unfold Region.ready;rw[Qg,List.range_eq_range',show l.toArray.size=l.length from by simp]
 refine List.filter_congr fun k hk=>?_
 have hk:k<l.length:=by have:=(List.mem_range'_1.1 hk).2;omega
 rw[h.Q9 hk,Nat.sub_zero,Qj,List.getElem?_toArray,Qb hk];simp only[Option.map_some,Option.getD_some];congr 1;unfold dO;rw[List.all_map,List.all_filter,<-Array.all_toList];refine List.all_congr rfl fun e=>?_
 rw[h.Sw]
 cases Region.binds md e<;>rfl
theorem Pr {D:List (List Nat)}{m k:Nat}(h:k ∈ rE D 0 m):k<D.length:=by
 rw[Gt]at h;have:=List.mem_range'_1.1 (List.mem_filter.1 h).1;omega
theorem TS (md:Region.Mode)(l:List Oper):∀ (f:Nat)(listed:Array Bool)(m:Nat),DO l.length listed m->ue md l.toArray f listed=QY (l.map (dO md)) f m
 | 0,_,_,_=>rfl
 | f+1,listed,m,h=>by
  unfold ue QY;rw[ready_eq md l h];have hlt:∀ k ∈ rE (l.map (dO md)) 0 m,k<l.length:=fun k hk=>by have:=Pr hk;rwa [Qg]at this
  generalize rE (l.map (dO md)) 0 m=rs at hlt
  cases rs with
  | nil=>rfl
  | cons x xs =>
   simp only;rw[List.flatMap_def,List.flatMap_def];congr 1;refine List.map_congr_left fun k hk=>?_
   rw[TS md l f _ _ (h.set (hlt k hk))]
theorem Wq (md:Region.Mode)(l:List Oper)(D:List (List Nat))(hD:l.map (dO md)=D):ue md l.toArray l.length (Array.replicate l.length false)=QY D l.length 0:=by
 rw[TS md l _ _ 0 (DO.zero _),hD]
end
section
open Go.RowKit Hp Go.Maps
attribute [local go_sem ↓] Go.wp_at_zero Go.wp_at_succ
def Ez:List Nat->Nat->Option Nat
 | [],_=>none
 | q::l,p=>if q=p then some l.length else Ez l p
def Mn:List Nat->DataW Unit
 | []=>.map []
 | q::l=>(Mn l).put (.int .i64 q) (.lit (.int .i64 l.length))
theorem SP:∀ l,IsMap (Mn l)
 | []=>isMap_empty
 | _::l=>(SP l).put _ _
theorem Ui:∀ (l:List Nat)(p:Nat),Maps.has (Mn l) (.int .i64 p)=(Ez l p).isSome
 | [],_=>rfl
 | q::l,p=>by
  unfold Mn Ez;by_cases e:q=p
  ·subst e
   rw[if_pos rfl,Maps.has_put_same (SP l) (show WideAt.IsKeyLit (Lit.int .i64 (q:Int)) from trivial)];rfl
  ·rw[if_neg e,Maps.has_put_other (by simp;omega),Ui l p]
theorem Hd:∀ (l:List Nat)(p:Nat)(z:DataW Unit),(Mn l).atKey (.int .i64 p) z=match Ez l p with|some i=>.lit (.int .i64 i)|none=>z
 | [],_,_=>rfl
 | q::l,p,z=>by
  unfold Mn Ez;by_cases e:q=p
  ·subst e
   rw[if_pos rfl,Maps.atKey_put_same (SP l) (show WideAt.IsKeyLit (Lit.int .i64 (q:Int)) from trivial)]
  ·rw[if_neg e,Maps.atKey_put_other (by simp;omega),Hd l p z]
def mD (P:List Nat):DataW Unit:=Mn P.reverse
theorem LK (P:List Nat)(p:Nat):mD (P++[p])=(mD P).put (.int .i64 p) (.lit (.int .i64 P.length)):=by
 unfold mD;rw[List.reverse_append,List.reverse_singleton,List.singleton_append];show (Mn P.reverse).put _ (.lit (.int .i64 P.reverse.length))=_;rw[List.length_reverse]
def here (P:List Nat)(p:Nat):Option Nat:=Ez P.reverse p
def yq (P:List Nat)(p:Nat):List Nat:=if p=0\/(here P p).isSome=true then P else P++[p]
def gg (P:List Nat)(p:Nat):Int:=if p=0 then -1 else match here P p with|some i=>i|none=>-2
theorem G2 (P:List Nat)(p:Nat):Maps.has (mD P) (.int .i64 p)=(here P p).isSome:=Ui _ _
theorem PC (P:List Nat)(p:Nat)(z:DataW Unit):(mD P).atKey (.int .i64 p) z=match here P p with|some i=>.lit (.int .i64 i)|none=>z:=Hd _ _ _
theorem rp:Keyed Tryz.prog 3:=int_keyed Tryz.underlying3
theorem ss (w:Aa):(zeroValue 3).run Tryz.prog w=.ok (.int .i64 0) w:=by kernel_rfl
structure BN (w:Aa)(o:Own)(c mb:Nat)(P:List Nat):Prop where
 AU:∃ vp,Am w c #[vp,.map (some mb)] 253/\Row w o (50,1) 3 1 vp P.length (P.map nv)
 mp:w.ownsMap Tryz.prog 3 (plainElem Tryz.prog 3) mb P.length (mD P)
 oc:o c=(50,0)
 om:o mb=(50,2)
theorem Stp.Gh {w w':Aa}{o:Own}{b:Nat}(h:w.grownBy w' (some b)):Stp (fun t=>t=o b) o o w w':=
 ⟨h.os,h.tape,h.output,h.size,fun _ _=>rfl,fun k hk hn=>h.block k hk (fun e=>hn (by injection e with e;rw[e]))⟩
theorem mm {T:Tag->Prop}{w w':Aa}{o o':Own}{D:DataW Unit}{b n:Nat}(h:w.ownsMap Tryz.prog 3 (plainElem Tryz.prog 3) b n D)(k:Stp T o o' w w')(ht:¬T (o b)):w'.ownsMap Tryz.prog 3 (plainElem Tryz.prog 3) b n D:=by
 have hlt:=h.lt;obtain⟨es,clock,hb,F,hs,hD⟩:=h;exact⟨es,clock,(k.block b hlt ht).trans hb,F,hs,hD⟩
section
variable {w w' : Aa} {o o' : Own} {c mb : Nat} {P : List Nat}
theorem BN.Ao {T:Tag->Prop}(h:BN w o c mb P)(k:Stp T o o' w w')(h0:¬T (50,0))(h1:¬T (50,1))(h2:¬T (50,2)):BN w' o' c mb P:=by
 obtain⟨vp,hb,hr⟩:=h.AU;exact⟨⟨vp,hb.Ao k (by rw[h.oc];exact h0),hr.Ao k h1⟩,mm h.mp k (by rw[h.om];exact h2),(k.tags _ hb.lt).trans h.oc,(k.tags _ h.mp.lt).trans h.om⟩
theorem BN.below (h:BN w o c mb P)(hb:Ae w.heap.size w w'):BN w' o c mb P:=h.Ao (T:=fun _=>False) (Stp.of_below hb) id id id
theorem VT (h:BN w o c mb P)(p:Nat)(hp:p<=1099511627776) :
  Ab Tryz.prog 177 #[ptr c,.int .i64 p] w fun e w'=>e=O (.int .i64 (gg P p))/\w=w':=by
 unfold gg;by_cases h0:p=0
 ·subst h0
  rw[if_pos rfl];clear h;go_enter Tryz.func177,Tryz.ntmps177;go_wp2_with fail;go_ret;exact⟨rfl,rfl⟩
 ·rw[if_neg h0]
  have hpb:((p:Int)==0)=false:=by rw[Qh];omega
  obtain⟨vp,jb,hr⟩:=h.AU;have hmp:=h.mp;have hkey:keyOf Tryz.prog 3 (.int .i64 p)=some (.int .i64 p):=keyOf_int_mk Tryz.underlying3 (WalkArith.wf_i64 (by omega))
  obtain⟨pa,cp,rfl⟩:=hr.AY;have cb:=jb.cell;have HM:=Qa hmp;have HKey:=Qa hkey;have hh:=G2 P p;have ha:=PC P p (.lit (.int .i64 0))
  cases hi:here P p with
  | some i =>
   rw[hi]at hh ha;have hhas:Maps.has (mD P) (.int .i64 p)=true:=hh;have HA:=Qa ha;clear h hmp hh ha hkey jb hr h0 hp hi;simp only;go_enter Tryz.func177,Tryz.ntmps177;go_wp2_with (first
    | (at_lookup;refine wpList_lookup_own_ok_int _ rfl _ _ 83 rfl 3 3 .i64 rp Tryz.underlying83 Tryz.underlying3 (ss _) mb P.length (mD P) rfl HM.out _ _ rfl HKey.out ?_;intro cv hat hwc)
    | fail)
   go_ret;refine⟨QS ?_,rfl⟩;have e:=hat.symm.trans HA.out;injection e with e;injection e
  | none =>
   rw[hi]at hh ha;have hhas:Maps.has (mD P) (.int .i64 p)=false:=hh;clear h hmp hh ha hkey jb hr h0 hp hi;simp only;go_enter Tryz.func177,Tryz.ntmps177;go_wp2_with (first
    | (at_lookup;refine wpList_lookup_own_ok_int _ rfl _ _ 83 rfl 3 3 .i64 rp Tryz.underlying83 Tryz.underlying3 (ss _) mb P.length (mD P) rfl HM.out _ _ rfl HKey.out ?_;intro cv hat hwc)
    | fail)
   go_ret;exact⟨rfl,rfl⟩
theorem TE (h:BN w o c mb P) (hl:P.length<1000000) (p:Nat) (hp:p<=1099511627776) :
  Ab Tryz.prog 236 #[ptr c,.int .i64 p] w fun e w'=>e=O (Aj #[])/\∃ o',BN w' o' c mb (yq P p)/\Stp (fun t=>t=(50,0)\/t=(50,1)\/t=(50,2)) o o' w w':=by
 unfold yq;by_cases h0:p=0
 ·subst h0
  rw[if_pos (.inl rfl)];have HF:=Qa h;clear h;go_enter Tryz.func236,Tryz.ntmps236;go_wp2_with fail;exact bodyPost_ret (v:=Aj #[]) (by simp[results,Tryz.results236,go_sem]) rfl ⟨rfl,o,HF.out,Stp.refl _ _ _⟩
 ·have hpb:((p:Int)==0)=false:=by rw[Qh];omega
  obtain⟨vp,jb,hr⟩:=h.AU;have hmp:=h.mp;have hkey:keyOf Tryz.prog 3 (.int .i64 p)=some (.int .i64 p):=keyOf_int_mk Tryz.underlying3 (WalkArith.wf_i64 (by omega))
  obtain⟨pa,cp,rfl⟩:=hr.AY;have cb:=jb.cell;have HF:=Qa h;have HM:=Qa hmp;have HKey:=Qa hkey;have hh:=G2 P p
  cases hi:here P p with
  | some i =>
   rw[if_pos (.inr rfl)];rw[hi]at hh;have hhas:Maps.has (mD P) (.int .i64 p)=true:=hh;clear h hmp hh hkey jb hr h0 hp hi;go_enter Tryz.func236,Tryz.ntmps236;go_wp2_with (first
    | (at_lookup;refine wpList_lookup_own_ok_int _ rfl _ _ 83 rfl 3 3 .i64 rp Tryz.underlying83 Tryz.underlying3 (ss _) mb P.length (mD P) rfl HM.out _ _ rfl HKey.out ?_;intro cv hat hwc)
    | fail)
   exact bodyPost_ret (v:=Aj #[]) (by simp[results,Tryz.results236,go_sem]) rfl ⟨rfl,o,HF.out,Stp.refl _ _ _⟩
  | none =>
   rw[if_neg (by simp[h0])]
   rw[hi]at hh;have hhas:Maps.has (mD P) (.int .i64 p)=false:=hh;obtain⟨iI,hi2,hsI,hyI,hzI⟩:=zi;have hu64:=Tryz.underlying25;obtain⟨n,hn⟩:∃ n,n=P.length:=⟨_,rfl⟩;rw[<-hn]at hl cb hr jb;have hup:=World.ownsMap.update (w:=w.drew) (t:=83) (e:=3) hmp rp Tryz.underlying83 (by simp only[maxLen];omega) (key:=.int .i64 p) (val:=.int .i64 n) hkey (plainElem_int Tryz.underlying3 (WalkArith.wf_i64 (n:=(n:Int)) (by omega)))
   obtain⟨w1,hrun,hm1,hg1⟩:=hup;have e0:=h.oc;have e2:=h.om;have k1:Stp (fun t=>t=(50,2)) o o w w1:=(Stp.of_below (qe (qc w))).trans ((Stp.Gh hg1).mono (by rintro _ rfl;exact e2))
   have j1:=jb.Ao k1 (by rw[e0];simp)
   have r1:=hr.Ao k1 (by simp)
   have hfin:=Qa (fun (w5:Aa) (o5:Own) (v5:Ac) (hown:Row w5 o5 (50,1) 3 1 v5 (n+1) (P.map nv++[.int .i64 p])) (hst:Stp (fun t=>t=(50,1)) o o5 (w1.alloc (.cells #[.int .i64 p] 3)) w5) =>
    show BN (w5.setCell ⟨c,0,none⟩ v5) o5 c mb (P++[p])/\Stp (fun t=>t=(50,0)\/t=(50,1)\/t=(50,2)) o o5 w (w5.setCell ⟨c,0,none⟩ v5) from by
     have kb:Stp (fun t=>t=(50,1)) o o5 w1 w5:=(Stp.of_below (qa (qc w1) _)).trans hst
     have j5:=j1.Ao kb (by rw[e0];simp)
     have e5:o5 c=(50,0):=(kb.tags _ j1.lt).trans e0;have k5:Stp (fun t=>t=(50,0)) o5 o5 w5 (w5.setCell ⟨c,0,none⟩ v5):=(Stp.refl _ o5 w5).setCell (by show o5 c=_;exact e5) _
     have m5:=mm hm1 kb (by rw[e2];simp)
     have e52:o5 mb=(50,2):=(kb.tags _ hm1.lt).trans e2;refine⟨⟨⟨v5,j5.set 0 v5,(hown.Ao k5 (by simp)).ite (by simp[hn]) (by simp[nv])⟩,?_,e5,e52⟩,(k1.mono fun _ h=>.inr (.inr h)).trans ((kb.mono fun _ h=>.inr (.inl h)).trans (k5.mono fun _ h=>.inl h))⟩
     have m6:=mm m5 k5 (by rw[e52];simp)
     rw[LK,Qd,List.length_singleton];rw[hn]at m6;exact m6)
   have c1:=j1.cell;have l1:=j1.lt;have hml:n+1<=maxLen:=by simp only[maxLen];omega
   have hmb:(n+1)*8<=140737488355328:=by omega
   have R1:=Qa r1;have J1:=Qa j1;have E0:=Qa e0;clear h hmp hh hkey jb hr h0 hp hi hn hl hm1 hg1 e2 k1 j1 r1 e0;go_enter Tryz.func236,Tryz.ntmps236;go_upto_region 3 with (first
    | (at_lookup;refine wpList_lookup_own_ok_int _ rfl _ _ 83 rfl 3 3 .i64 rp Tryz.underlying83 Tryz.underlying3 (ss _) mb P.length (mD P) rfl HM.out _ _ rfl HKey.out ?_;intro cv hat hwc)
    | fail)
   go_region;go_wp2_with (first
    | (at_builtin;refine qf _ rfl _ _ _ rfl 3 iI _ 1 8 hu64 hi2 hzI hsI hyI rfl (by decide) o (50,1) _ _ _ rfl (R1.out.below (qa (qc w1) _)) ⟨w1.heap.size,0,none⟩ 1 1 [.int .i64 p] rfl rfl (qx (Am.new w1 _ _)) zw hml hmb ?_;intro v5 w5 hown hst;obtain⟨p5,c5',rfl⟩:=hown.AY;have j5:=(J1.out.alloc (.cells #[.int .i64 p] 3)).Ao hst (by rw[E0.out];simp);have c5:=j5.cell;have z5:=j5.free;have l5:=j5.lt)
    | fail)
   go_end0;exact⟨rfl,_,hfin.out _ _ _ hown hst⟩
end
end
section
open Go.RowKit Hp
attribute [local go_sem ↓] Go.wp_at_zero Go.wp_at_succ
section
variable {w w' : Aa} {o o' : Own} {l : Ba} {cy n : Nat} {rd ls : List Nat}
theorem KU {H:Hp}(h:Bu w o l H)(hw:H.wf) :
  Ab Tryz.prog 129 #[ptr l.h] w fun e w'=>e=O (.bool H.A8.2)/\∃ o',Bu w' o' l H.A8.1/\Stp (zd l) o o' w w':=by
 obtain⟨vc,vo,vw,vf,f,hh⟩:=h;refine (JH hh hw).mono ?_
 rintro e w'⟨rfl,vc',f',o',h',hs⟩
 exact⟨rfl,o',⟨vc',vo,vw,vf,f',h'⟩,hs⟩
theorem X5 {H:Hp}(h:H.A8.2=false):H.A8.1=H:=by
 unfold Hp.A8 at h ⊢;by_cases hc:H.AF=false\/H.scan=H.top
 ·rw[if_pos hc]
 ·rw[if_neg hc]at h ⊢
  cases hl:lk H.cur H.scan with
  | none=>rfl
  | some ob =>
   rw[hl]at h;simp only at h;split at h<;>simp at h
def yu (H:Hp)(n:Nat)(rd ls:List Nat):Hp×Nat×List Nat×List Nat×Bool:=
 if n=0 then (H,0,rd,ls,false) else if H.A8.2=true then (H.A8.1,n,rd,ls,false)
 else if n=1 then (H.A1.1,2,rd++H.A1.2,ls,false) else (H.drop.1,0,rd,ls++H.drop.2.1,true)
theorem WO (h:Dl w o l cy 0 rd ls) :
  Ab Tryz.prog 67 #[ptr cy] w fun e w'=>e=O (.bool false)/\Ae w.heap.size w w':=by
 have HL:=Qa (uk h (by omega))
 clear h;go_enter Tryz.func67,Tryz.ntmps67;go_wp2_with fail;refine HL.out.mono ?_
 rintro e w1⟨rfl,rfl⟩
 go_wp2_with fail;go_ret;exact⟨rfl,qc _⟩
theorem Jc {H:Hp}(hH:Bu w o l H)(hw:H.wf)(h:Dl w o l cy n rd ls)(hn:n=1\/n=2)(h1:rd.length<=1099511627776)(h2:H.A1.2.length<=1099511627776)(h3:ls.length<=1099511627776)(h4:H.drop.2.1.length<=1099511627776) :
  Ab Tryz.prog 67 #[ptr cy] w fun e w'=>e=O (.bool (yu H n rd ls).2.2.2.2)/\∃ o',Bu w' o' l (yu H n rd ls).1/\Dl w' o' l cy (yu H n rd ls).2.1 (yu H n rd ls).2.2.1 (yu H n rd ls).2.2.2.1/\Stp (Fe l) o o' w w':=by
 have n7:¬zd l (l.id,7):=fun hh=>by have:=hh.2;simp at this
 have n8:¬zd l (l.id,8):=fun hh=>by have:=hh.2;simp at this
 have n9:¬zd l (l.id,9):=fun hh=>by have:=hh.2;simp at this
 have HL:=Qa (uk h (by omega))
 have HS:=Qa (KU hH hw);have HC:=Qa (fun (w5:Aa)(o5:Own)(hs:Stp (zd l) o o5 w w5)=>h.Ao hs n7 n8 n9)
 obtain⟨vr,vl,jc,_,_⟩:=h.AU;have c:=jc.cell
 cases hb:H.A8.2 with
 | true =>
  have e1:yu H n rd ls=(H.A8.1,n,rd,ls,false):=by unfold yu;rw[if_neg (by omega),if_pos hb]
  rw[e1];rw[hb]at HS;generalize H.A8.1=H' at *;clear hH hw h h1 h2 h3 h4 e1 hb;rcases hn with rfl|rfl
  all_goals
   go_enter Tryz.func67,Tryz.ntmps67;go_wp2_with fail;refine HL.out.mono ?_
   rintro e w1 ⟨rfl,rfl⟩
   go_wp2_with fail;refine HS.out.mono ?_
   rintro e w2 ⟨rfl,o2,hH2,hs2⟩
   go_wp2_with fail;go_ret;exact⟨rfl,o2,hH2,HC.out _ _ hs2,hs2.mono fun _ h=>bk h⟩
 | false =>
  have e0:=X5 hb;rw[hb,e0]at HS;rcases hn with rfl|rfl
  ·have e1:yu H 1 rd ls=(H.A1.1,2,rd++H.A1.2,ls,false):=by unfold yu;rw[if_neg (by omega),if_neg (by rw[hb];simp),if_pos rfl]
   rw[e1];have HF:=Qa (fun w2 o2 (h2':Bu w2 o2 l H)(hc2:Dl w2 o2 l cy 1 rd ls)=>Wv h2' hw hc2 h1 h2)
   generalize H.A1=D at *;clear hH hw h h1 h2 h3 h4 e1 hb e0;go_enter Tryz.func67,Tryz.ntmps67;go_wp2_with fail;refine HL.out.mono ?_
   rintro e w1 ⟨rfl,rfl⟩
   go_wp2_with fail;refine HS.out.mono ?_
   rintro e w2 ⟨rfl,o2,hH2,hs2⟩
   have hc2:=HC.out _ _ hs2;have HF2:=Qa (HF.out _ _ hH2 hc2);obtain⟨vr2,vl2,jc2,_,_⟩:=hc2.AU;have c2:w2.cell? ⟨cy,1,none⟩=some (.func (.func 126) #[ptr cy] #[]):=jc2.cell 1;clear c;go_wp2_with fail;refine HF2.out.mono ?_
   rintro e w3 ⟨rfl,o3,hH3,hc3,hs3⟩
   go_wp2_with fail;go_ret;exact⟨rfl,o3,hH3,hc3,(hs2.mono fun _ h=>bk h).trans hs3⟩
  ·have e1:yu H 2 rd ls=(H.drop.1,0,rd,ls++H.drop.2.1,true):=by unfold yu;rw[if_neg (by omega),if_neg (by rw[hb];simp),if_neg (by omega)]
   rw[e1];have HF:=Qa (fun w2 o2 (h2':Bu w2 o2 l H)(hc2:Dl w2 o2 l cy 2 rd ls)=>Y6 h2' hw hc2 h3 h4)
   generalize H.drop=D at *;clear hH hw h h1 h2 h3 h4 e1 hb e0;go_enter Tryz.func67,Tryz.ntmps67;go_wp2_with fail;refine HL.out.mono ?_
   rintro e w1 ⟨rfl,rfl⟩
   go_wp2_with fail;refine HS.out.mono ?_
   rintro e w2 ⟨rfl,o2,hH2,hs2⟩
   have hc2:=HC.out _ _ hs2;have HF2:=Qa (HF.out _ _ hH2 hc2);obtain⟨vr2,vl2,jc2,_,_⟩:=hc2.AU;have c2:w2.cell? ⟨cy,1,none⟩=some (.func (.func 190) #[ptr cy] #[]):=jc2.cell 1;clear c;go_wp2_with fail;refine HF2.out.mono ?_
   rintro e w3 ⟨rfl,o3,hH3,hc3,hs3⟩
   go_wp2_with fail;go_ret;exact⟨rfl,o3,hH3,hc3,(hs2.mono fun _ h=>bk h).trans hs3⟩
end
end
end Go.Proofs.YteehgedabdchcaaGreat
