import Derived.Test.YteehgedabdchcaaGreatKal
import Derived.Maps.OwnSet
import Derived.Maps.Views
set_option linter.all false
set_option maxRecDepth 1000000
set_option maxHeartbeats 16000000
namespace Go.Proofs.YteehgedabdchcaaGreat
open Go.RowKit Hp
section
variable {n : Nat} {P : Program} {ops : Array Oper} {md : Region.Mode} {w : World} {F : Fence}
structure OpenF (F:Fence)(P:Program):Prop where
 fn:∀ f,F.fn f
 calls:∀ {n:Nat}{f:FuncId}{args:Array Value}{w:World}{R:Ending→World→Prop},Calls P f args w R→(F.depth.isSome=true→1≤n)∧CallsIn F (n-1) P f args w R
theorem openW (P:Program):OpenF Fence.wide P:=⟨fun _=>trivial,fun h=>⟨fun h=>(by simp[Fence.wide]at h),callsIn_wide.2 h⟩⟩
theorem openR (l:Nat)(P:Program):OpenF (Fence.wide.inRound l) P:=⟨fun _=>trivial,fun h=>⟨fun h=>(by simp[Fence.inRound,Fence.wide]at h),CallsIn.inRound l (callsIn_wide.2 h)⟩⟩
theorem qdm (hF:OpenF F P){o:Oper}{a:Act}{K:Act→Prop}{K':Act→World→Prop}{Q':Exit→Act→World→Prop}(hd:∀ c,o.op≠.defer c)(h:∀ a,K a→K' a w)(hh:o.still P a w K):o.wpIn F n P a w K' Q':=by
 unfold Oper.still at hh;refine⟨fun _ _=>hF.fn _,?_⟩
 rw[Oper.semAt_eq _ _ _ hd];generalize (execOp a.eval o).run P w=r at *
 cases r with
 | ok m w' =>
  cases m<;>simp only[Oper.stillUpon]at hh<;>simp only[Oper.uponIn]
  case enter f args =>
   obtain⟨rfl,v,hc,hn⟩:=hh;refine hF.calls (hc.mono fun e w'' he=>?_)
   obtain⟨he,hw⟩:=he;subst he;subst hw;exact h _ hn
  all_goals (obtain⟨rfl,h2⟩:=hh;exact h _ h2)
 | halt x w'=>simp only[Oper.stillUpon]at hh
theorem qdn (hF:OpenF F P){i:Nat}{a:Act}{K:Act→Prop}{K':Act→World→Prop}{Q':Exit→Act→World→Prop}(hd:∀ (j:Nat)(o:Oper) c,ops[j]?=some o→o.op≠.defer c)(h:∀ a,K a→K' a w)(hh:stOp P ops w i K a):wpOpIn F n P ops Q' i K' a w:=by
 unfold stOp at hh;unfold wpOpIn;split
 ·rename_i ho;simp only[ho]at hh;exact h _ hh
 ·rename_i o ho
  simp only[ho]at hh;split
  ·rename_i hw;simp only[hw,if_true]at hh;exact qdm hF (fun c=>hd _ _ c ho) h hh
  ·rename_i hw;simp only[hw]at hh;exact⟨fun _ _=>hF.fn _,h _ hh⟩
theorem anyIn_of_head (hF:OpenF F P){m g:Nat}{L:Array Bool→Act→Prop}{Q':Exit→Act→World→Prop}(hd:∀ (j:Nat)(o:Oper) c,ops[j]?=some o→o.op≠.defer c)(hL:∀ listed a,L listed a→wpAnyIn F n P md ops Q' g listed a w) :
  ∀ (f:Nat)(listed:Array Bool)(a:Act),wpAnyL P md ops w m L f listed a→wpAnyIn F n P md ops Q' (f+g) listed a w
 | 0,listed,a,h=>by rw[Nat.zero_add];exact hL _ _ h
 | f+1,listed,a,h=>by
  rw[show f+1+g=(f+g)+1 by omega]
  exact⟨fun h0=>absurd h0 h.1,fun i hi=>qdn hF hd (fun a' h'=>anyIn_of_head hF hd hL f _ a' h') (h.2 i hi).2⟩
theorem bz {Q':Exit→Act→World→Prop}:∀ (l':List Oper)(k:Nat)(listed:Array Bool)(a:Act)(w:World),(∀ j,l'[j]?=ops[k+j]?) →
  Region.seqB md ops l'.length k listed=true→wpListIn F n P ops Q' l' a w→wpAnyIn F n P md ops Q' l'.length listed a w
 | [],_,_,_,_,_,hB,h=>⟨by simpa [Region.seqB] using hB,h⟩
 | o::l',k,listed,a,w,hl,hB,h=>by
  have h0:ops[k]?=some o:=by simpa using (hl 0).symm
  simp only[List.length_cons,Region.seqB,Bool.and_eq_true,decide_eq_true_eq]at hB;refine⟨fun h1=>(by rw[hB.1]at h1;cases h1),fun i hi=>?_⟩
  rw[hB.1]at hi;have hik:i=k:=by simpa using hi
  subst hik;have hw:wpOpIn F n P ops Q' i (wpListIn F n P ops Q' l') a w:=by unfold wpOpIn;simp only[h0];exact h
  exact wpOpIn_mono (fun a' w' h'=>bz l' (i+1) _ a' w' (fun j=>by have:=hl (j+1);simpa [Nat.add_assoc,Nat.add_comm 1 j] using this) hB.2 h') hw
def qj9 (l:List Oper):Bool:=l.all fun o=>match o.op with|.defer _=>false|_=>true
theorem qfc {l:List Oper}(h:qj9 l=true):∀ (j:Nat)(o:Oper) c,l.toArray[j]?=some o→o.op≠.defer c:=by
 intro j o c hj e;have hm:o ∈ l:=by rw[List.getElem?_toArray]at hj;exact List.mem_of_getElem? hj
 have:=List.all_eq_true.1 h o hm;rw[e]at this
 cases this
theorem kw (hF:OpenF F P) {id:Nat} {Q:Exit→Act→World→Prop} {a:Act} {w:World} {l':List Oper} (m:Nat) (hm:P.follows .mixedOrders=true) (hB:Region.lexTailB .any l'.toArray m=true) (hd:qj9 l'=true)
  (h:wpStill P l'.toArray w.drew (fun a'=>wpListIn F n P l'.toArray Q (l'.drop m) a' w.drew) (l'.take m) a):(Code.region id l'.toArray true).wpIn F n P Q a w:=by
 simp only[Region.lexTailB,Bool.and_eq_true,decide_eq_true_eq]at hB;obtain⟨⟨⟨⟨hsel,hn⟩,hs⟩,hc⟩,hlex⟩:=hB;have hn':m<l'.length:=by simpa using hn
 have htl:(l'.take m).length=m:=by simp;omega
 have hdl:(l'.drop m).length=l'.toArray.size-m:=by simp
 have inv0:HeadInv .any l'.toArray m (Array.replicate l'.toArray.size false):=
  ⟨by simp,fun j oj _ hl=>(by rw[getD_replicate_false]at hl;cases hl),fun t _ ht=>getD_in (by simpa using ht) (getD_replicate_false _ _)⟩
 have H:=wpAnyL_lex (md:=.any) (g:=l'.toArray.size-m) hsel hs hc hn (l'.take m) 0 _ a (fun j hj=>by
  have hj':j<m:=by rw[htl]at hj;exact hj
  simp[hj']) (by simpa using htl) inv0 (by rw[htl];exact hlex) h
 refine wpIn_region_any hm ?_;have:=anyIn_of_head hF (n:=n) (Q':=Q) (g:=l'.toArray.size-m) (qfc hd) (fun listed a' hL=>by
  have:=bz (F:=F) (n:=n) (md:=.any) (Q':=Q) (l'.drop m) m listed a' w.drew (fun j=>by simp[List.getElem?_drop]) (by rw[hdl];exact hL.1) hL.2
  rwa [hdl]at this) _ _ _ H
 rw[htl,show m+(l'.toArray.size-m)=l'.toArray.size by omega]at this
 exact this
theorem qln {K:Act→World→Prop}{Q:Exit→Act→World→Prop}{c:Code}{a:Act}{w:World}(h:c.wpIn F n P (Exit.then K fun _ _ _=>False) a w):c.wpIn F n P (Exit.then K Q) a w:=
 wpIn_mono h fun e _ _ hq=>by cases e<;>first|exact hq|exact hq.elim
end
def uf (md:Region.Mode)(ops:Array Oper):Nat→Array Bool→List (List Nat)
 | 0,_=>[[]]
 | f+1,listed=>match Region.ready md ops listed with
  | []=>[[]]
  | rs=>rs.flatMap fun i=>(uf md ops f (listed.setIfInBounds i true)).map (i::·)
def ut (l:List Oper):List Nat→List Oper
 | []=>[]
 | i::is=>match l.drop i with
  | []=>[]
  | o::_=>o::ut l is
def inL (l:List Oper)(is:List Nat):Bool:=is.all fun i=>decide (i<l.length)
theorem ue (md:Region.Mode)(ops:Array Oper):∀ (fuel t:Nat)(listed:Array Bool),Region.linearise.go md ops fuel t listed [] ∈ uf md ops fuel listed
 | 0,t,listed=>by simp[Region.linearise.go,uf]
 | fuel+1,t,listed=>by
  change (match (Region.ready md ops listed)[t%(Region.ready md ops listed).length]? with
   | some i=>Region.linearise.go md ops fuel (t/(Region.ready md ops listed).length) (listed.setIfInBounds i true) [i]
   | none=>[].reverse) ∈ (match Region.ready md ops listed with
  | []=>[[]]
  | rs=>rs.flatMap fun i=>(uf md ops fuel (listed.setIfInBounds i true)).map (i::·))
  generalize Region.ready md ops listed=rs
  cases rs with
  | nil=>simp
  | cons x xs =>
   have hlt:t%(x::xs).length<(x::xs).length:=Nat.mod_lt _ (by simp)
   have ih:=ue md ops fuel (t/(x::xs).length) (listed.setIfInBounds ((x::xs)[t%(x::xs).length]) true);rw[List.getElem?_eq_getElem hlt];simp only;rw[linearise_go_acc,List.reverse_singleton,List.singleton_append];exact List.mem_flatMap.2 ⟨(x::xs)[t%(x::xs).length],List.getElem_mem hlt,List.mem_map.2 ⟨_,ih,rfl⟩⟩
section
variable {F : Fence} {n : Nat} {P : Program} {Q : Exit → Act → World → Prop} {l' : List Oper}
theorem nu:∀ (is:List Nat)(a:Act)(w:World),inL l' is=true→wpListIn F n P l'.toArray Q (ut l' is) a w→wpOpsIn F n P l'.toArray Q is a w
 | [],a,w,_,h=>h
 | i::is,a,w,hi,h=>by
  unfold inL at hi;rw[List.all_cons,Bool.and_eq_true,decide_eq_true_eq]at hi;have e:l'.drop i=l'[i]'hi.1::l'.drop (i+1):=List.drop_eq_getElem_cons hi.1;have hp:ut l' (i::is)=l'[i]'hi.1::ut l' is:=by
   show (match l'.drop i with|[]=>[]|o::_=>o::ut l' is)=_
   rw[e]
  rw[hp]at h;rw[wpOpsIn_cons];have ho:l'.toArray[i]?=some (l'[i]'hi.1):=by rw[List.getElem?_toArray,List.getElem?_eq_getElem hi.1]
  refine wpOpIn_mono (fun a w h=>nu is a w hi.2 h) ?_
  unfold wpOpIn;simp only[ho];exact h
theorem bh {id:Nat}{a:Act}{w:World}(hm:P.follows .mixedOrders=true)(L:List (List Nat))(hL:uf .any l'.toArray l'.length (Array.replicate l'.length false)=L)(hi:L.all (inL l')=true)
  (h:∀ is ∈ L,wpListIn F n P l'.toArray Q (ut l' is) a w.drew):(Code.region id l'.toArray true).wpIn F n P Q a w:=by
 refine wpIn_region_draw fun t=>?_
 simp only[Region.schedule,hm,Bool.true_or,if_true];have hm2:=ue .any l'.toArray l'.toArray.size t (Array.replicate l'.toArray.size false);have e:l'.toArray.size=l'.length:=by simp
 unfold Region.linearise;rw[e]at hm2 ⊢;rw[hL]at hm2;exact nu _ _ _ (List.all_eq_true.1 hi _ hm2) (h _ hm2)
theorem qcp:∀ (is:List Nat)(a:Act)(w:World),inL l' is=true→wpList P l'.toArray Q (ut l' is) a w→wpOps P l'.toArray Q is a w
 | [],a,w,_,h=>h
 | i::is,a,w,hi,h=>by
  unfold inL at hi;rw[List.all_cons,Bool.and_eq_true,decide_eq_true_eq]at hi;have e:l'.drop i=l'[i]'hi.1::l'.drop (i+1):=List.drop_eq_getElem_cons hi.1;have hp:ut l' (i::is)=l'[i]'hi.1::ut l' is:=by
   show (match l'.drop i with|[]=>[]|o::_=>o::ut l' is)=_
   rw[e]
  rw[hp]at h;rw[wpOps_cons];have ho:l'.toArray[i]?=some (l'[i]'hi.1):=by rw[List.getElem?_toArray,List.getElem?_eq_getElem hi.1]
  refine wpOp_mono (fun a w h=>qcp is a w hi.2 h) ?_
  unfold wpOp;simp only[ho];exact h
theorem lz {id:Nat}{a:Act}{w:World}(hm:P.follows .mixedOrders=true)(L:List (List Nat))(hL:uf .any l'.toArray l'.length (Array.replicate l'.length false)=L)(hi:L.all (inL l')=true)
  (h:∀ is ∈ L,wpList P l'.toArray Q (ut l' is) a w.drew):(Code.region id l'.toArray true).wp P Q a w:=by
 refine wp_region_draw fun t=>?_
 simp only[Region.schedule,hm,Bool.true_or,if_true];have hm2:=ue .any l'.toArray l'.toArray.size t (Array.replicate l'.toArray.size false);have e:l'.toArray.size=l'.length:=by simp
 unfold Region.linearise;rw[e]at hm2 ⊢;rw[hL]at hm2;exact qcp _ _ _ (List.all_eq_true.1 hi _ hm2) (h _ hm2)
end
def dO (md:Region.Mode)(o:Oper):List Nat:=(o.after.toList.filter fun e=>Region.binds md e).map (·.on)
def rE:List (List Nat)→Nat→Nat→List Nat
 | [],_,_=>[]
 | d::D,i,m=>if (!m.testBit i&&d.all fun j=>m.testBit j)=true then i::rE D (i+1) m else rE D (i+1) m
def qbi (D:List (List Nat)):Nat→Nat→List (List Nat)
 | 0,_=>[[]]
 | f+1,m=>match rE D 0 m with
  | []=>[[]]
  | rs=>rs.flatMap fun i=>(qbi D f (m ||| 2 ^ i)).map (i::·)
theorem rE_eq:∀ (D:List (List Nat))(i m:Nat),rE D i m=(List.range' i D.length).filter fun k=>!m.testBit k&&((D[k-i]?).map fun d=>d.all fun j=>m.testBit j).getD false
 | [],_,_=>rfl
 | d::D,i,m=>by
  unfold rE;rw[List.length_cons,List.range'_succ,List.filter_cons,rE_eq D (i+1) m];have hr:(List.range' (i+1) D.length).filter (fun k=>!m.testBit k&&((D[k-(i+1)]?).map fun d=>d.all fun j=>m.testBit j).getD false) =
    (List.range' (i+1) D.length).filter (fun k=>!m.testBit k&&(((d::D)[k-i]?).map fun d=>d.all fun j=>m.testBit j).getD false):=by
   refine List.filter_congr fun k hk=>?_
   have:=(List.mem_range'_1.1 hk).1;rw[show k-i=(k-(i+1))+1 from by omega,List.getElem?_cons_succ]
  rw[hr,Nat.sub_self,List.getElem?_cons_zero,Option.map_some,Option.getD_some]
structure Bits (n:Nat)(listed:Array Bool)(m:Nat):Prop where
 sz:listed.size=n
 at':∀ i,i<n→listed[i]?=some (m.testBit i)
 out:∀ i,n≤i→m.testBit i=false
theorem Bits.zero (n:Nat):Bits n (Array.replicate n false) 0:=
 ⟨by simp,fun i hi=>by simp[hi],fun i _=>Nat.zero_testBit i⟩
theorem Bits.set {n:Nat}{listed:Array Bool}{m:Nat}(h:Bits n listed m){i:Nat}(hi:i<n):Bits n (listed.setIfInBounds i true) (m ||| 2 ^ i):=by
 refine⟨by simp[h.sz],fun j hj=>?_,fun j hj=>?_⟩
 ·rw[Nat.testBit_or,Nat.testBit_two_pow]
  by_cases e:i=j
  ·subst e;simp[h.sz,hi]
  ·rw[Array.getElem?_setIfInBounds_ne e,h.at' j hj];simp[e]
 ·rw[Nat.testBit_or,h.out j hj,Nat.testBit_two_pow]
  simp;omega
theorem Bits.getT {n:Nat}{listed:Array Bool}{m:Nat}(h:Bits n listed m){i:Nat}(hi:i<n):listed.getD i true=m.testBit i:=by
 rw[Array.getD_eq_getD_getElem?,h.at' i hi];rfl
theorem Bits.getF {n:Nat}{listed:Array Bool}{m:Nat}(h:Bits n listed m)(i:Nat):listed.getD i false=m.testBit i:=by
 rw[Array.getD_eq_getD_getElem?];by_cases hi:i<n
 ·rw[h.at' i hi];rfl
 ·rw[h.out i (by omega),Array.getElem?_eq_none (by rw[h.sz];omega)];rfl
theorem ready_eq (md:Region.Mode)(l:List Oper){listed:Array Bool}{m:Nat}(h:Bits l.length listed m):Region.ready md l.toArray listed=rE (l.map (dO md)) 0 m:=by
 rw[rE_eq];unfold Region.ready;rw[List.length_map,List.range_eq_range',show l.toArray.size=l.length from by simp]
 refine List.filter_congr fun k hk=>?_
 have hk:k<l.length:=by have:=(List.mem_range'_1.1 hk).2;omega
 rw[h.getT hk,Nat.sub_zero,List.getElem?_map,List.getElem?_toArray,List.getElem?_eq_getElem hk];simp only[Option.map_some,Option.getD_some];congr 1;unfold dO;rw[List.all_map,List.all_filter,←Array.all_toList];refine List.all_congr rfl fun e=>?_
 rw[h.getF]
 cases Region.binds md e<;>rfl
theorem rE_lt {D:List (List Nat)}{m k:Nat}(h:k ∈ rE D 0 m):k<D.length:=by
 rw[rE_eq]at h;have:=List.mem_range'_1.1 (List.mem_filter.1 h).1;omega
theorem qer (md:Region.Mode)(l:List Oper):∀ (f:Nat)(listed:Array Bool)(m:Nat),Bits l.length listed m→uf md l.toArray f listed=qbi (l.map (dO md)) f m
 | 0,_,_,_=>rfl
 | f+1,listed,m,h=>by
  unfold uf qbi;rw[ready_eq md l h];have hlt:∀ k ∈ rE (l.map (dO md)) 0 m,k<l.length:=fun k hk=>by have:=rE_lt hk;rwa [List.length_map]at this
  generalize rE (l.map (dO md)) 0 m=rs at hlt
  cases rs with
  | nil=>rfl
  | cons x xs =>
   simp only;rw[List.flatMap_def,List.flatMap_def];congr 1;refine List.map_congr_left fun k hk=>?_
   rw[qer md l f _ _ (h.set (hlt k hk))]
theorem qk9 (md:Region.Mode)(l:List Oper)(D:List (List Nat))(hD:l.map (dO md)=D):uf md l.toArray l.length (Array.replicate l.length false)=qbi D l.length 0:=by
 rw[qer md l _ _ 0 (Bits.zero _),hD]
end Go.Proofs.YteehgedabdchcaaGreat
namespace Go.Proofs.YteehgedabdchcaaGreat
open Go.RowKit Hp Go.Maps
attribute [local go_sem ↓] Go.wp_at_zero Go.wp_at_succ
def idxN:List Nat→Nat→Option Nat
 | [],_=>none
 | q::l,p=>if q=p then some l.length else idxN l p
def mDr:List Nat→DataW Unit
 | []=>.map []
 | q::l=>(mDr l).put (.int .i64 q) (.lit (.int .i64 l.length))
theorem qfv:∀ l,IsMap (mDr l)
 | []=>isMap_empty
 | _::l=>(qfv l).put _ _
theorem qj7:∀ (l:List Nat)(p:Nat),Maps.has (mDr l) (.int .i64 p)=(idxN l p).isSome
 | [],_=>rfl
 | q::l,p=>by
  unfold mDr idxN;by_cases e:q=p
  ·subst e
   rw[if_pos rfl,Maps.has_put_same (qfv l) (show WideAt.IsKeyLit (Lit.int .i64 (q:Int)) from trivial)];rfl
  ·rw[if_neg e,Maps.has_put_other (by simp;omega),qj7 l p]
theorem mDr_at:∀ (l:List Nat)(p:Nat)(z:DataW Unit),(mDr l).atKey (.int .i64 p) z=match idxN l p with|some i=>.lit (.int .i64 i)|none=>z
 | [],_,_=>rfl
 | q::l,p,z=>by
  unfold mDr idxN;by_cases e:q=p
  ·subst e
   rw[if_pos rfl,Maps.atKey_put_same (qfv l) (show WideAt.IsKeyLit (Lit.int .i64 (q:Int)) from trivial)]
  ·rw[if_neg e,Maps.atKey_put_other (by simp;omega),mDr_at l p z]
def mD (P:List Nat):DataW Unit:=mDr P.reverse
theorem mD_snoc (P:List Nat)(p:Nat):mD (P++[p])=(mD P).put (.int .i64 p) (.lit (.int .i64 P.length)):=by
 unfold mD;rw[List.reverse_append,List.reverse_singleton,List.singleton_append];show (mDr P.reverse).put _ (.lit (.int .i64 P.reverse.length))=_;rw[List.length_reverse]
def here (P:List Nat)(p:Nat):Option Nat:=idxN P.reverse p
def yj (P:List Nat)(p:Nat):List Nat:=if p=0∨(here P p).isSome=true then P else P++[p]
def ml (P:List Nat)(p:Nat):Int:=if p=0 then -1 else match here P p with|some i=>i|none=>-2
theorem mD_has (P:List Nat)(p:Nat):Maps.has (mD P) (.int .i64 p)=(here P p).isSome:=qj7 _ _
theorem mD_at (P:List Nat)(p:Nat)(z:DataW Unit):(mD P).atKey (.int .i64 p) z=match here P p with|some i=>.lit (.int .i64 i)|none=>z:=mDr_at _ _ _
theorem tm:Keyed Tryz.prog 3:=int_keyed Tryz.underlying3
theorem rv (w:World):(zeroValue 3).run Tryz.prog w=.ok (.int .i64 0) w:=by kernel_rfl
structure ComeAt (w:World)(o:Own)(c mb:Nat)(P:List Nat):Prop where
 blk:∃ vp,Blk w c #[vp,.map (some mb)] 253∧Row w o (50,1) 3 1 vp P.length (P.map nv)
 mp:w.ownsMap Tryz.prog 3 (plainElem Tryz.prog 3) mb P.length (mD P)
 oc:o c=(50,0)
 om:o mb=(50,2)
theorem Stp.of_grown {w w':World}{o:Own}{b:Nat}(h:w.grownBy w' (some b)):Stp (fun t=>t=o b) o o w w':=
 ⟨h.os,h.tape,h.output,h.size,fun _ _=>rfl,fun k hk hn=>h.block k hk (fun e=>hn (by injection e with e;rw[e]))⟩
theorem p9 {T:Tag→Prop}{w w':World}{o o':Own}{D:DataW Unit}{b n:Nat}(h:w.ownsMap Tryz.prog 3 (plainElem Tryz.prog 3) b n D)(k:Stp T o o' w w')(ht:¬T (o b)):w'.ownsMap Tryz.prog 3 (plainElem Tryz.prog 3) b n D:=by
 have hlt:=h.lt;obtain⟨es,clock,hb,F,hs,hD⟩:=h;exact⟨es,clock,(k.block b hlt ht).trans hb,F,hs,hD⟩
section
variable {w w' : World} {o o' : Own} {c mb : Nat} {P : List Nat}
theorem ComeAt.stp {T:Tag→Prop}(h:ComeAt w o c mb P)(k:Stp T o o' w w')(h0:¬T (50,0))(h1:¬T (50,1))(h2:¬T (50,2)):ComeAt w' o' c mb P:=by
 obtain⟨vp,hb,hr⟩:=h.blk;exact⟨⟨vp,hb.stp k (by rw[h.oc];exact h0),hr.stp k h1⟩,p9 h.mp k (by rw[h.om];exact h2),(k.tags _ hb.lt).trans h.oc,(k.tags _ h.mp.lt).trans h.om⟩
theorem ComeAt.below (h:ComeAt w o c mb P)(hb:Below w.heap.size w w'):ComeAt w' o c mb P:=h.stp (T:=fun _=>False) (Stp.of_below hb) id id id
theorem qel (h:ComeAt w o c mb P)(p:Nat)(hp:p≤1099511627776) :
  Calls Tryz.prog 177 #[ptr c,.int .i64 p] w fun e w'=>e=.returned (.int .i64 (ml P p))∧w=w':=by
 unfold ml;by_cases h0:p=0
 ·subst h0
  rw[if_pos rfl];clear h;go_enter Tryz.func177,Tryz.ntmps177;go_wp2_with fail;go_ret;exact⟨rfl,rfl⟩
 ·rw[if_neg h0]
  have hpb:((p:Int)==0)=false:=by rw[beq_eq_false_iff_ne];omega
  obtain⟨vp,jb,hr⟩:=h.blk;have hmp:=h.mp;have hkey:keyOf Tryz.prog 3 (.int .i64 p)=some (.int .i64 p):=keyOf_int_mk Tryz.underlying3 (WalkArith.wf_i64 (by omega))
  obtain⟨pa,cp,rfl⟩:=hr.slc;have cb:=jb.cell;have HM:=Lib.hid hmp;have HKey:=Lib.hid hkey;have hh:=mD_has P p;have ha:=mD_at P p (.lit (.int .i64 0))
  cases hi:here P p with
  | some i =>
   rw[hi]at hh ha;have hhas:Maps.has (mD P) (.int .i64 p)=true:=hh;have HA:=Lib.hid ha;clear h hmp hh ha hkey jb hr h0 hp hi;simp only;go_enter Tryz.func177,Tryz.ntmps177;go_wp2_with (first
    | (at_lookup;refine wpList_lookup_own_ok_int _ rfl _ _ 83 rfl 3 3 .i64 tm Tryz.underlying83 Tryz.underlying3 (rv _) mb P.length (mD P) rfl HM.out _ _ rfl HKey.out ?_;intro cv hat hwc)
    | fail)
   go_ret;refine⟨fq ?_,rfl⟩;have e:=hat.symm.trans HA.out;injection e with e;injection e
  | none =>
   rw[hi]at hh ha;have hhas:Maps.has (mD P) (.int .i64 p)=false:=hh;clear h hmp hh ha hkey jb hr h0 hp hi;simp only;go_enter Tryz.func177,Tryz.ntmps177;go_wp2_with (first
    | (at_lookup;refine wpList_lookup_own_ok_int _ rfl _ _ 83 rfl 3 3 .i64 tm Tryz.underlying83 Tryz.underlying3 (rv _) mb P.length (mD P) rfl HM.out _ _ rfl HKey.out ?_;intro cv hat hwc)
    | fail)
   go_ret;exact⟨rfl,rfl⟩
theorem qk0 (h:ComeAt w o c mb P) (hl:P.length<1000000) (p:Nat) (hp:p≤1099511627776) :
  Calls Tryz.prog 236 #[ptr c,.int .i64 p] w fun e w'=>e=.returned (.tuple #[])∧∃ o',ComeAt w' o' c mb (yj P p)∧Stp (fun t=>t=(50,0)∨t=(50,1)∨t=(50,2)) o o' w w':=by
 unfold yj;by_cases h0:p=0
 ·subst h0
  rw[if_pos (.inl rfl)];have HF:=Lib.hid h;clear h;go_enter Tryz.func236,Tryz.ntmps236;go_wp2_with fail;exact bodyPost_ret (v:=.tuple #[]) (by simp[results,Tryz.results236,go_sem]) rfl ⟨rfl,o,HF.out,Stp.refl _ _ _⟩
 ·have hpb:((p:Int)==0)=false:=by rw[beq_eq_false_iff_ne];omega
  obtain⟨vp,jb,hr⟩:=h.blk;have hmp:=h.mp;have hkey:keyOf Tryz.prog 3 (.int .i64 p)=some (.int .i64 p):=keyOf_int_mk Tryz.underlying3 (WalkArith.wf_i64 (by omega))
  obtain⟨pa,cp,rfl⟩:=hr.slc;have cb:=jb.cell;have HF:=Lib.hid h;have HM:=Lib.hid hmp;have HKey:=Lib.hid hkey;have hh:=mD_has P p
  cases hi:here P p with
  | some i =>
   rw[if_pos (.inr rfl)];rw[hi]at hh;have hhas:Maps.has (mD P) (.int .i64 p)=true:=hh;clear h hmp hh hkey jb hr h0 hp hi;go_enter Tryz.func236,Tryz.ntmps236;go_wp2_with (first
    | (at_lookup;refine wpList_lookup_own_ok_int _ rfl _ _ 83 rfl 3 3 .i64 tm Tryz.underlying83 Tryz.underlying3 (rv _) mb P.length (mD P) rfl HM.out _ _ rfl HKey.out ?_;intro cv hat hwc)
    | fail)
   exact bodyPost_ret (v:=.tuple #[]) (by simp[results,Tryz.results236,go_sem]) rfl ⟨rfl,o,HF.out,Stp.refl _ _ _⟩
  | none =>
   rw[if_neg (by simp[h0])]
   rw[hi]at hh;have hhas:Maps.has (mD P) (.int .i64 p)=false:=hh;obtain⟨iI,hi2,hsI,hyI,hzI⟩:=zg;have hu64:=Tryz.underlying25;obtain⟨n,hn⟩:∃ n,n=P.length:=⟨_,rfl⟩;rw[←hn]at hl cb hr jb;have hup:=World.ownsMap.update (w:=w.drew) (t:=83) (e:=3) hmp tm Tryz.underlying83 (by simp only[maxLen];omega) (key:=.int .i64 p) (val:=.int .i64 n) hkey (plainElem_int Tryz.underlying3 (WalkArith.wf_i64 (n:=(n:Int)) (by omega)))
   obtain⟨w1,hrun,hm1,hg1⟩:=hup;have e0:=h.oc;have e2:=h.om;have k1:Stp (fun t=>t=(50,2)) o o w w1:=(Stp.of_below (qe (qc w))).trans ((Stp.of_grown hg1).mono (by rintro _ rfl;exact e2))
   have j1:=jb.stp k1 (by rw[e0];simp)
   have r1:=hr.stp k1 (by simp)
   have hfin:=Lib.hid (fun (w5:World) (o5:Own) (v5:Value) (hown:Row w5 o5 (50,1) 3 1 v5 (n+1) (P.map nv++[.int .i64 p])) (hst:Stp (fun t=>t=(50,1)) o o5 (w1.alloc (.cells #[.int .i64 p] 3)) w5) =>
    show ComeAt (w5.setCell ⟨c,0,none⟩ v5) o5 c mb (P++[p])∧Stp (fun t=>t=(50,0)∨t=(50,1)∨t=(50,2)) o o5 w (w5.setCell ⟨c,0,none⟩ v5) from by
     have kb:Stp (fun t=>t=(50,1)) o o5 w1 w5:=(Stp.of_below (qa (qc w1) _)).trans hst
     have j5:=j1.stp kb (by rw[e0];simp)
     have e5:o5 c=(50,0):=(kb.tags _ j1.lt).trans e0;have k5:Stp (fun t=>t=(50,0)) o5 o5 w5 (w5.setCell ⟨c,0,none⟩ v5):=(Stp.refl _ o5 w5).setCell (by show o5 c=_;exact e5) _
     have m5:=p9 hm1 kb (by rw[e2];simp)
     have e52:o5 mb=(50,2):=(kb.tags _ hm1.lt).trans e2;refine⟨⟨⟨v5,j5.set 0 v5,(hown.stp k5 (by simp)).ite (by simp[hn]) (by simp[nv])⟩,?_,e5,e52⟩,(k1.mono fun _ h=>.inr (.inr h)).trans ((kb.mono fun _ h=>.inr (.inl h)).trans (k5.mono fun _ h=>.inl h))⟩
     have m6:=p9 m5 k5 (by rw[e52];simp)
     rw[mD_snoc,List.length_append,List.length_singleton];rw[hn]at m6;exact m6)
   have c1:=j1.cell;have l1:=j1.lt;have hml:n+1≤maxLen:=by simp only[maxLen];omega
   have hmb:(n+1)*8≤140737488355328:=by omega
   have R1:=Lib.hid r1;have J1:=Lib.hid j1;have E0:=Lib.hid e0;clear h hmp hh hkey jb hr h0 hp hi hn hl hm1 hg1 e2 k1 j1 r1 e0;go_enter Tryz.func236,Tryz.ntmps236;go_upto_region 3 with (first
    | (at_lookup;refine wpList_lookup_own_ok_int _ rfl _ _ 83 rfl 3 3 .i64 tm Tryz.underlying83 Tryz.underlying3 (rv _) mb P.length (mD P) rfl HM.out _ _ rfl HKey.out ?_;intro cv hat hwc)
    | fail)
   go_region;go_wp2_with (first
    | (at_builtin;refine qf _ rfl _ _ _ rfl 3 iI _ 1 8 hu64 hi2 hzI hsI hyI rfl (by decide) o (50,1) _ _ _ rfl (R1.out.below (qa (qc w1) _)) ⟨w1.heap.size,0,none⟩ 1 1 [.int .i64 p] rfl rfl (qx (Blk.new w1 _ _)) zo hml hmb ?_;intro v5 w5 hown hst;obtain⟨p5,c5',rfl⟩:=hown.slc;have j5:=(J1.out.alloc (.cells #[.int .i64 p] 3)).stp hst (by rw[E0.out];simp);have c5:=j5.cell;have z5:=j5.free;have l5:=j5.lt)
    | fail)
   go_end0;exact⟨rfl,_,hfin.out _ _ _ hown hst⟩
end
end Go.Proofs.YteehgedabdchcaaGreat
namespace Go.Proofs.YteehgedabdchcaaGreat
open Go.RowKit Hp
attribute [local go_sem ↓] Go.wp_at_zero Go.wp_at_succ
section
variable {w w' : World} {o o' : Own} {l : HLay} {cy n : Nat} {rd ls : List Nat}
theorem at_scan {H:Hp}(h:HpAt w o l H)(hw:H.wf) :
  Calls Tryz.prog 129 #[ptr l.h] w fun e w'=>e=.returned (.bool H.scan1.2)∧∃ o',HpAt w' o' l H.scan1.1∧Stp (zc l) o o' w w':=by
 obtain⟨vc,vo,vw,vf,f,hh⟩:=h;refine (scan_any hh hw).mono ?_
 rintro e w'⟨rfl,vc',f',o',h',hs⟩
 exact⟨rfl,o',⟨vc',vo,vw,vf,f',h'⟩,hs⟩
theorem qh0 {H:Hp}(h:H.scan1.2=false):H.scan1.1=H:=by
 unfold Hp.scan1 at h ⊢;by_cases hc:H.moving=false∨H.scan=H.top
 ·rw[if_pos hc]
 ·rw[if_neg hc]at h ⊢
  cases hl:lk H.cur H.scan with
  | none=>rfl
  | some ob =>
   rw[hl]at h;simp only at h;split at h<;>simp at h
def yu (H:Hp)(n:Nat)(rd ls:List Nat):Hp×Nat×List Nat×List Nat×Bool:=
 if n=0 then (H,0,rd,ls,false) else if H.scan1.2=true then (H.scan1.1,n,rd,ls,false)
 else if n=1 then (H.finals.1,2,rd++H.finals.2,ls,false) else (H.drop.1,0,rd,ls++H.drop.2.1,true)
theorem qjh (h:CyIn w o l cy 0 rd ls) :
  Calls Tryz.prog 67 #[ptr cy] w fun e w'=>e=.returned (.bool false)∧Below w.heap.size w w':=by
 have HL:=Lib.hid (ul h (by omega))
 clear h;go_enter Tryz.func67,Tryz.ntmps67;go_wp2_with fail;refine HL.out.mono ?_
 rintro e w1⟨rfl,rfl⟩
 go_wp2_with fail;go_ret;exact⟨rfl,qc _⟩
theorem cstep_go {H:Hp}(hH:HpAt w o l H)(hw:H.wf)(h:CyIn w o l cy n rd ls)(hn:n=1∨n=2)(h1:rd.length≤1099511627776)(h2:H.finals.2.length≤1099511627776)(h3:ls.length≤1099511627776)(h4:H.drop.2.1.length≤1099511627776) :
  Calls Tryz.prog 67 #[ptr cy] w fun e w'=>e=.returned (.bool (yu H n rd ls).2.2.2.2)∧∃ o',HpAt w' o' l (yu H n rd ls).1∧CyIn w' o' l cy (yu H n rd ls).2.1 (yu H n rd ls).2.2.1 (yu H n rd ls).2.2.2.1∧Stp (cyT l) o o' w w':=by
 have n7:¬zc l (l.id,7):=fun hh=>by have:=hh.2;simp at this
 have n8:¬zc l (l.id,8):=fun hh=>by have:=hh.2;simp at this
 have n9:¬zc l (l.id,9):=fun hh=>by have:=hh.2;simp at this
 have HL:=Lib.hid (ul h (by omega))
 have HS:=Lib.hid (at_scan hH hw);have HC:=Lib.hid (fun (w5:World)(o5:Own)(hs:Stp (zc l) o o5 w w5)=>h.stp hs n7 n8 n9)
 obtain⟨vr,vl,jc,_,_⟩:=h.blk;have c:=jc.cell
 cases hb:H.scan1.2 with
 | true =>
  have e1:yu H n rd ls=(H.scan1.1,n,rd,ls,false):=by unfold yu;rw[if_neg (by omega),if_pos hb]
  rw[e1];rw[hb]at HS;generalize H.scan1.1=H' at *;clear hH hw h h1 h2 h3 h4 e1 hb;rcases hn with rfl|rfl
  all_goals
   go_enter Tryz.func67,Tryz.ntmps67;go_wp2_with fail;refine HL.out.mono ?_
   rintro e w1 ⟨rfl,rfl⟩
   go_wp2_with fail;refine HS.out.mono ?_
   rintro e w2 ⟨rfl,o2,hH2,hs2⟩
   go_wp2_with fail;go_ret;exact⟨rfl,o2,hH2,HC.out _ _ hs2,hs2.mono fun _ h=>dm h⟩
 | false =>
  have e0:=qh0 hb;rw[hb,e0]at HS;rcases hn with rfl|rfl
  ·have e1:yu H 1 rd ls=(H.finals.1,2,rd++H.finals.2,ls,false):=by unfold yu;rw[if_neg (by omega),if_neg (by rw[hb];simp),if_pos rfl]
   rw[e1];have HF:=Lib.hid (fun w2 o2 (h2':HpAt w2 o2 l H)(hc2:CyIn w2 o2 l cy 1 rd ls)=>qiq h2' hw hc2 h1 h2)
   generalize H.finals=D at *;clear hH hw h h1 h2 h3 h4 e1 hb e0;go_enter Tryz.func67,Tryz.ntmps67;go_wp2_with fail;refine HL.out.mono ?_
   rintro e w1 ⟨rfl,rfl⟩
   go_wp2_with fail;refine HS.out.mono ?_
   rintro e w2 ⟨rfl,o2,hH2,hs2⟩
   have hc2:=HC.out _ _ hs2;have HF2:=Lib.hid (HF.out _ _ hH2 hc2);obtain⟨vr2,vl2,jc2,_,_⟩:=hc2.blk;have c2:w2.cell? ⟨cy,1,none⟩=some (.func (.func 126) #[ptr cy] #[]):=jc2.cell 1;clear c;go_wp2_with fail;refine HF2.out.mono ?_
   rintro e w3 ⟨rfl,o3,hH3,hc3,hs3⟩
   go_wp2_with fail;go_ret;exact⟨rfl,o3,hH3,hc3,(hs2.mono fun _ h=>dm h).trans hs3⟩
  ·have e1:yu H 2 rd ls=(H.drop.1,0,rd,ls++H.drop.2.1,true):=by unfold yu;rw[if_neg (by omega),if_neg (by rw[hb];simp),if_neg (by omega)]
   rw[e1];have HF:=Lib.hid (fun w2 o2 (h2':HpAt w2 o2 l H)(hc2:CyIn w2 o2 l cy 2 rd ls)=>qf8 h2' hw hc2 h3 h4)
   generalize H.drop=D at *;clear hH hw h h1 h2 h3 h4 e1 hb e0;go_enter Tryz.func67,Tryz.ntmps67;go_wp2_with fail;refine HL.out.mono ?_
   rintro e w1 ⟨rfl,rfl⟩
   go_wp2_with fail;refine HS.out.mono ?_
   rintro e w2 ⟨rfl,o2,hH2,hs2⟩
   have hc2:=HC.out _ _ hs2;have HF2:=Lib.hid (HF.out _ _ hH2 hc2);obtain⟨vr2,vl2,jc2,_,_⟩:=hc2.blk;have c2:w2.cell? ⟨cy,1,none⟩=some (.func (.func 190) #[ptr cy] #[]):=jc2.cell 1;clear c;go_wp2_with fail;refine HF2.out.mono ?_
   rintro e w3 ⟨rfl,o3,hH3,hc3,hs3⟩
   go_wp2_with fail;go_ret;exact⟨rfl,o3,hH3,hc3,(hs2.mono fun _ h=>dm h).trans hs3⟩
end
end Go.Proofs.YteehgedabdchcaaGreat
