import Derived.Test.YteehgedabdchcaaGreatQal
import Derived.Maps.OwnSet
import Derived.Maps.Views
set_option linter.all false
set_option maxRecDepth 1000000
set_option maxHeartbeats 16000000
namespace Go.Proofs.YteehgedabdchcaaGreat
open Go.RowKit Hp Go.Maps
attribute [local go_sem ↓] Go.wp_at_zero Go.wp_at_succ
def idxN:List Nat→Nat→Option Nat
 | [],_=>none
 | q::l,p=>if q=p then some l.length else idxN l p
def mDr:List Nat→DataW Unit
 | []=>.map []
 | q::l=>(mDr l).put (.int .i64 q) (.lit (.int .i64 l.length))
theorem mDr_map:∀ l,IsMap (mDr l)
 | []=>isMap_empty
 | _::l=>(mDr_map l).put _ _
theorem mDr_has:∀ (l:List Nat)(p:Nat),Maps.has (mDr l) (.int .i64 p)=(idxN l p).isSome
 | [],_=>rfl
 | q::l,p=>by
  unfold mDr idxN;by_cases e:q=p
  ·subst e
   rw[if_pos rfl,Maps.has_put_same (mDr_map l) (show WideAt.IsKeyLit (Lit.int .i64 (q:Int)) from trivial)];rfl
  ·rw[if_neg e,Maps.has_put_other (by simp;omega),mDr_has l p]
theorem mDr_at:∀ (l:List Nat)(p:Nat)(z:DataW Unit),(mDr l).atKey (.int .i64 p) z=match idxN l p with|some i=>.lit (.int .i64 i)|none=>z
 | [],_,_=>rfl
 | q::l,p,z=>by
  unfold mDr idxN;by_cases e:q=p
  ·subst e
   rw[if_pos rfl,Maps.atKey_put_same (mDr_map l) (show WideAt.IsKeyLit (Lit.int .i64 (q:Int)) from trivial)]
  ·rw[if_neg e,Maps.atKey_put_other (by simp;omega),mDr_at l p z]
def mD (P:List Nat):DataW Unit:=mDr P.reverse
theorem mD_snoc (P:List Nat)(p:Nat):mD (P++[p])=(mD P).put (.int .i64 p) (.lit (.int .i64 P.length)):=by
 unfold mD;rw[List.reverse_append,List.reverse_singleton,List.singleton_append];show (mDr P.reverse).put _ (.lit (.int .i64 P.reverse.length))=_;rw[List.length_reverse]
def here (P:List Nat)(p:Nat):Option Nat:=idxN P.reverse p
def comeTo (P:List Nat)(p:Nat):List Nat:=if p=0∨(here P p).isSome=true then P else P++[p]
def ixOf (P:List Nat)(p:Nat):Int:=if p=0 then -1 else match here P p with|some i=>i|none=>-2
theorem mD_has (P:List Nat)(p:Nat):Maps.has (mD P) (.int .i64 p)=(here P p).isSome:=mDr_has _ _
theorem mD_at (P:List Nat)(p:Nat)(z:DataW Unit):(mD P).atKey (.int .i64 p) z=match here P p with|some i=>.lit (.int .i64 i)|none=>z:=mDr_at _ _ _
theorem int_key:Keyed Tryz.prog 3:=int_keyed Tryz.underlying3
theorem int_zero (w:World):(zeroValue 3).run Tryz.prog w=.ok (.int .i64 0) w:=by kernel_rfl
structure ComeAt (w:World)(o:Own)(c mb:Nat)(P:List Nat):Prop where
 blk:∃ vp,Blk w c #[vp,.map (some mb)] 253∧Row w o (50,1) 3 1 vp P.length (P.map nv)
 mp:w.ownsMap Tryz.prog 3 (plainElem Tryz.prog 3) mb P.length (mD P)
 oc:o c=(50,0)
 om:o mb=(50,2)
theorem Stp.of_grown {w w':World}{o:Own}{b:Nat}(h:w.grownBy w' (some b)):Stp (fun t=>t=o b) o o w w':=
 ⟨h.os,h.tape,h.output,h.size,fun _ _=>rfl,fun k hk hn=>h.block k hk (fun e=>hn (by injection e with e;rw[e]))⟩
theorem grown_of_stp {T:Tag→Prop}{w w':World}{o o':Own}{D:DataW Unit}{b n:Nat}(h:w.ownsMap Tryz.prog 3 (plainElem Tryz.prog 3) b n D)(k:Stp T o o' w w')(ht:¬T (o b)):w'.ownsMap Tryz.prog 3 (plainElem Tryz.prog 3) b n D:=by
 have hlt:=h.lt;obtain⟨es,clock,hb,F,hs,hD⟩:=h;exact⟨es,clock,(k.block b hlt ht).trans hb,F,hs,hD⟩
section
variable {w w' : World} {o o' : Own} {c mb : Nat} {P : List Nat}
theorem ComeAt.stp {T:Tag→Prop}(h:ComeAt w o c mb P)(k:Stp T o o' w w')(h0:¬T (50,0))(h1:¬T (50,1))(h2:¬T (50,2)):ComeAt w' o' c mb P:=by
 obtain⟨vp,hb,hr⟩:=h.blk;exact⟨⟨vp,hb.stp k (by rw[h.oc];exact h0),hr.stp k h1⟩,grown_of_stp h.mp k (by rw[h.om];exact h2),(k.tags _ hb.lt).trans h.oc,(k.tags _ h.mp.lt).trans h.om⟩
theorem ComeAt.below (h:ComeAt w o c mb P)(hb:Below w.heap.size w w'):ComeAt w' o c mb P:=h.stp (T:=fun _=>False) (Stp.of_below hb) id id id
theorem index_any (h:ComeAt w o c mb P)(p:Nat)(hp:p≤1099511627776) :
  Calls Tryz.prog 177 #[ptr c,.int .i64 p] w fun e w'=>e=.returned (.int .i64 (ixOf P p))∧w=w':=by
 unfold ixOf;by_cases h0:p=0
 ·subst h0
  rw[if_pos rfl];clear h;go_enter Tryz.func177,Tryz.ntmps177;go_wp2_with fail;go_ret;exact⟨rfl,rfl⟩
 ·rw[if_neg h0]
  have hpb:((p:Int)==0)=false:=by rw[beq_eq_false_iff_ne];omega
  obtain⟨vp,jb,hr⟩:=h.blk;have hmp:=h.mp;have hkey:keyOf Tryz.prog 3 (.int .i64 p)=some (.int .i64 p):=keyOf_int_mk Tryz.underlying3 (WalkArith.wf_i64 (by omega))
  obtain⟨pa,cp,rfl⟩:=hr.slc;have cb:=jb.cell;have HM:=Lib.hid hmp;have HKey:=Lib.hid hkey;have hh:=mD_has P p;have ha:=mD_at P p (.lit (.int .i64 0))
  cases hi:here P p with
  | some i =>
   rw[hi]at hh ha;have hhas:Maps.has (mD P) (.int .i64 p)=true:=hh;have HA:=Lib.hid ha;clear h hmp hh ha hkey jb hr h0 hp hi;simp only;go_enter Tryz.func177,Tryz.ntmps177;go_wp2_with (first
    | (at_lookup;refine wpList_lookup_own_ok_int _ rfl _ _ 83 rfl 3 3 .i64 int_key Tryz.underlying83 Tryz.underlying3 (int_zero _) mb P.length (mD P) rfl HM.out _ _ rfl HKey.out ?_;intro cv hat hwc)
    | fail)
   go_ret;refine⟨ret_int ?_,rfl⟩;have e:=hat.symm.trans HA.out;injection e with e;injection e
  | none =>
   rw[hi]at hh ha;have hhas:Maps.has (mD P) (.int .i64 p)=false:=hh;clear h hmp hh ha hkey jb hr h0 hp hi;simp only;go_enter Tryz.func177,Tryz.ntmps177;go_wp2_with (first
    | (at_lookup;refine wpList_lookup_own_ok_int _ rfl _ _ 83 rfl 3 3 .i64 int_key Tryz.underlying83 Tryz.underlying3 (int_zero _) mb P.length (mD P) rfl HM.out _ _ rfl HKey.out ?_;intro cv hat hwc)
    | fail)
   go_ret;exact⟨rfl,rfl⟩
theorem to_any' (h:ComeAt w o c mb P) (hl:P.length<1000000) (p:Nat) (hp:p≤1099511627776) :
  Calls Tryz.prog 236 #[ptr c,.int .i64 p] w fun e w'=>e=.returned (.tuple #[])∧∃ o',ComeAt w' o' c mb (comeTo P p)∧Stp (fun t=>t=(50,0)∨t=(50,1)∨t=(50,2)) o o' w w':=by
 unfold comeTo;by_cases h0:p=0
 ·subst h0
  rw[if_pos (.inl rfl)];have HF:=Lib.hid h;clear h;go_enter Tryz.func236,Tryz.ntmps236;go_wp2_with fail;exact bodyPost_ret (v:=.tuple #[]) (by simp[results,Tryz.results236,go_sem]) rfl ⟨rfl,o,HF.out,Stp.refl _ _ _⟩
 ·have hpb:((p:Int)==0)=false:=by rw[beq_eq_false_iff_ne];omega
  obtain⟨vp,jb,hr⟩:=h.blk;have hmp:=h.mp;have hkey:keyOf Tryz.prog 3 (.int .i64 p)=some (.int .i64 p):=keyOf_int_mk Tryz.underlying3 (WalkArith.wf_i64 (by omega))
  obtain⟨pa,cp,rfl⟩:=hr.slc;have cb:=jb.cell;have HF:=Lib.hid h;have HM:=Lib.hid hmp;have HKey:=Lib.hid hkey;have hh:=mD_has P p
  cases hi:here P p with
  | some i =>
   rw[if_pos (.inr rfl)];rw[hi]at hh;have hhas:Maps.has (mD P) (.int .i64 p)=true:=hh;clear h hmp hh hkey jb hr h0 hp hi;go_enter Tryz.func236,Tryz.ntmps236;go_wp2_with (first
    | (at_lookup;refine wpList_lookup_own_ok_int _ rfl _ _ 83 rfl 3 3 .i64 int_key Tryz.underlying83 Tryz.underlying3 (int_zero _) mb P.length (mD P) rfl HM.out _ _ rfl HKey.out ?_;intro cv hat hwc)
    | fail)
   exact bodyPost_ret (v:=.tuple #[]) (by simp[results,Tryz.results236,go_sem]) rfl ⟨rfl,o,HF.out,Stp.refl _ _ _⟩
  | none =>
   rw[if_neg (by simp[h0])]
   rw[hi]at hh;have hhas:Maps.has (mD P) (.int .i64 p)=false:=hh;obtain⟨iI,hi2,hsI,hyI,hzI⟩:=info_int;have hu64:=Tryz.underlying25;obtain⟨n,hn⟩:∃ n,n=P.length:=⟨_,rfl⟩;rw[←hn]at hl cb hr jb;have hup:=World.ownsMap.update (w:=w.drew) (t:=83) (e:=3) hmp int_key Tryz.underlying83 (by simp only[maxLen];omega) (key:=.int .i64 p) (val:=.int .i64 n) hkey (plainElem_int Tryz.underlying3 (WalkArith.wf_i64 (n:=(n:Int)) (by omega)))
   obtain⟨w1,hrun,hm1,hg1⟩:=hup;have e0:=h.oc;have e2:=h.om;have k1:Stp (fun t=>t=(50,2)) o o w w1:=(Stp.of_below (bdrew (bsame w))).trans ((Stp.of_grown hg1).mono (by rintro _ rfl;exact e2))
   have j1:=jb.stp k1 (by rw[e0];simp)
   have r1:=hr.stp k1 (by simp)
   have hfin:=Lib.hid (fun (w5:World) (o5:Own) (v5:Value) (hown:Row w5 o5 (50,1) 3 1 v5 (n+1) (P.map nv++[.int .i64 p])) (hst:Stp (fun t=>t=(50,1)) o o5 (w1.alloc (.cells #[.int .i64 p] 3)) w5) =>
    show ComeAt (w5.setCell ⟨c,0,none⟩ v5) o5 c mb (P++[p])∧Stp (fun t=>t=(50,0)∨t=(50,1)∨t=(50,2)) o o5 w (w5.setCell ⟨c,0,none⟩ v5) from by
     have kb:Stp (fun t=>t=(50,1)) o o5 w1 w5:=(Stp.of_below (balloc (bsame w1) _)).trans hst
     have j5:=j1.stp kb (by rw[e0];simp)
     have e5:o5 c=(50,0):=(kb.tags _ j1.lt).trans e0;have k5:Stp (fun t=>t=(50,0)) o5 o5 w5 (w5.setCell ⟨c,0,none⟩ v5):=(Stp.refl _ o5 w5).setCell (by show o5 c=_;exact e5) _
     have m5:=grown_of_stp hm1 kb (by rw[e2];simp)
     have e52:o5 mb=(50,2):=(kb.tags _ hm1.lt).trans e2;refine⟨⟨⟨v5,j5.set 0 v5,(hown.stp k5 (by simp)).ite (by simp[hn]) (by simp[nv])⟩,?_,e5,e52⟩,(k1.mono fun _ h=>.inr (.inr h)).trans ((kb.mono fun _ h=>.inr (.inl h)).trans (k5.mono fun _ h=>.inl h))⟩
     have m6:=grown_of_stp m5 k5 (by rw[e52];simp)
     rw[mD_snoc,List.length_append,List.length_singleton];rw[hn]at m6;exact m6)
   have c1:=j1.cell;have l1:=j1.lt;have hml:n+1≤maxLen:=by simp only[maxLen];omega
   have hmb:(n+1)*8≤140737488355328:=by omega
   have R1:=Lib.hid r1;have J1:=Lib.hid j1;have E0:=Lib.hid e0;clear h hmp hh hkey jb hr h0 hp hi hn hl hm1 hg1 e2 k1 j1 r1 e0;go_enter Tryz.func236,Tryz.ntmps236;go_upto_region 3 with (first
    | (at_lookup;refine wpList_lookup_own_ok_int _ rfl _ _ 83 rfl 3 3 .i64 int_key Tryz.underlying83 Tryz.underlying3 (int_zero _) mb P.length (mD P) rfl HM.out _ _ rfl HKey.out ?_;intro cv hat hwc)
    | fail)
   go_region;go_wp2_with (first
    | (at_builtin;refine wpList_append_row _ rfl _ _ _ rfl 3 iI _ 1 8 hu64 hi2 hzI hsI hyI rfl (by decide) o (50,1) _ _ _ rfl (R1.out.below (balloc (bsame w1) _)) ⟨w1.heap.size,0,none⟩ 1 1 [.int .i64 p] rfl rfl (news_one (Blk.new w1 _ _)) one_i64 hml hmb ?_;intro v5 w5 hown hst;obtain⟨p5,c5',rfl⟩:=hown.slc;have j5:=(J1.out.alloc (.cells #[.int .i64 p] 3)).stp hst (by rw[E0.out];simp);have c5:=j5.cell;have z5:=j5.free;have l5:=j5.lt)
    | fail)
   go_end0;exact⟨rfl,_,hfin.out _ _ _ hown hst⟩
end
end Go.Proofs.YteehgedabdchcaaGreat
namespace Go.Proofs.YteehgedabdchcaaGreat
open Go.RowKit Hp
def orders (md:Region.Mode)(ops:Array Oper):Nat→Array Bool→List (List Nat)
 | 0,_=>[[]]
 | f+1,listed=>match Region.ready md ops listed with
  | []=>[[]]
  | rs=>rs.flatMap fun i=>(orders md ops f (listed.setIfInBounds i true)).map (i::·)
def pickO (l:List Oper):List Nat→List Oper
 | []=>[]
 | i::is=>match l.drop i with
  | []=>[]
  | o::_=>o::pickO l is
def inL (l:List Oper)(is:List Nat):Bool:=is.all fun i=>decide (i<l.length)
theorem linearise_mem (md:Region.Mode)(ops:Array Oper):∀ (fuel t:Nat)(listed:Array Bool),Region.linearise.go md ops fuel t listed [] ∈ orders md ops fuel listed
 | 0,t,listed=>by simp[Region.linearise.go,orders]
 | fuel+1,t,listed=>by
  change (match (Region.ready md ops listed)[t%(Region.ready md ops listed).length]? with
   | some i=>Region.linearise.go md ops fuel (t/(Region.ready md ops listed).length) (listed.setIfInBounds i true) [i]
   | none=>[].reverse) ∈ (match Region.ready md ops listed with
  | []=>[[]]
  | rs=>rs.flatMap fun i=>(orders md ops fuel (listed.setIfInBounds i true)).map (i::·))
  generalize Region.ready md ops listed=rs
  cases rs with
  | nil=>simp
  | cons x xs =>
   have hlt:t%(x::xs).length<(x::xs).length:=Nat.mod_lt _ (by simp)
   have ih:=linearise_mem md ops fuel (t/(x::xs).length) (listed.setIfInBounds ((x::xs)[t%(x::xs).length]) true);rw[List.getElem?_eq_getElem hlt];simp only;rw[linearise_go_acc,List.reverse_singleton,List.singleton_append];exact List.mem_flatMap.2 ⟨(x::xs)[t%(x::xs).length],List.getElem_mem hlt,List.mem_map.2 ⟨_,ih,rfl⟩⟩
section
variable {F : Fence} {n : Nat} {P : Program} {Q : Exit → Act → World → Prop} {l' : List Oper}
theorem wpOpsIn_pick:∀ (is:List Nat)(a:Act)(w:World),inL l' is=true→wpListIn F n P l'.toArray Q (pickO l' is) a w→wpOpsIn F n P l'.toArray Q is a w
 | [],a,w,_,h=>h
 | i::is,a,w,hi,h=>by
  unfold inL at hi;rw[List.all_cons,Bool.and_eq_true,decide_eq_true_eq]at hi;have e:l'.drop i=l'[i]'hi.1::l'.drop (i+1):=List.drop_eq_getElem_cons hi.1;have hp:pickO l' (i::is)=l'[i]'hi.1::pickO l' is:=by
   show (match l'.drop i with|[]=>[]|o::_=>o::pickO l' is)=_
   rw[e]
  rw[hp]at h;rw[wpOpsIn_cons];have ho:l'.toArray[i]?=some (l'[i]'hi.1):=by rw[List.getElem?_toArray,List.getElem?_eq_getElem hi.1]
  refine wpOpIn_mono (fun a w h=>wpOpsIn_pick is a w hi.2 h) ?_
  unfold wpOpIn;simp only[ho];exact h
theorem wpIn_region_orders {id:Nat}{a:Act}{w:World}(hm:P.follows .mixedOrders=true)(L:List (List Nat))(hL:orders .any l'.toArray l'.length (Array.replicate l'.length false)=L)(hi:L.all (inL l')=true)
  (h:∀ is ∈ L,wpListIn F n P l'.toArray Q (pickO l' is) a w.drew):(Code.region id l'.toArray true).wpIn F n P Q a w:=by
 refine wpIn_region_draw fun t=>?_
 simp only[Region.schedule,hm,Bool.true_or,if_true];have hm2:=linearise_mem .any l'.toArray l'.toArray.size t (Array.replicate l'.toArray.size false);have e:l'.toArray.size=l'.length:=by simp
 unfold Region.linearise;rw[e]at hm2 ⊢;rw[hL]at hm2;exact wpOpsIn_pick _ _ _ (List.all_eq_true.1 hi _ hm2) (h _ hm2)
end
end Go.Proofs.YteehgedabdchcaaGreat
namespace Go.Proofs.YteehgedabdchcaaGreat
open Hp
structure AO where
 shp:Shp
 fr:Bool
 sec:Nat
 ptrs:List Nat
 nums:List Int
abbrev Cf:=Nat→Option Ob
abbrev Of:=Nat→Option (Ob×Option Nat)
abbrev Ag:=Nat→Option AO
def nowF (o:Of)(x:Nat):Nat:=match o x with|some (_,some q)=>q|_=>x
def obF (c:Cf)(o:Of)(p:Nat):Option Ob:=match c p with|some b=>some b|none=>match o p with|some (b,none)=>some b|_=>none
def srF (c:Cf)(o:Of)(x:Nat):Nat:=match obF c o (nowF o x) with|some b=>b.serial|none=>0
def VF (c:Cf)(o:Of)(x:Nat):Prop:=x=0∨c x≠none∨o x≠none
def CF (c:Cf)(x:Nat):Prop:=x=0∨c x≠none
structure Like (c:Cf)(o:Of)(L:List Nat)(b:Ob)(a:AO):Prop where
 shp:a.shp=b.shp
 fr:a.fr=b.freed
 sec:a.sec=b.second
 nums:a.nums=b.nums
 ptrs:b.ptrs.map (srF c o)=if b.serial ∈ L then [0] else a.ptrs
structure Cor (c:Cf)(o:Of)(bl:Nat→Prop)(n:Nat)(L:List Nat)(A:Ag):Prop where
 z:c 0=none∧o 0=none
 dj:∀ x,c x=none∨o x=none
 fw:∀ p b q,o p=some (b,some q)→∃ b',c q=some b'∧b'.serial=b.serial
 cp:∀ p b,c p=some b→∀ x ∈ b.ptrs,VF c o x
 bk:∀ p b,c p=some b→bl p→b.shp.weak=false→∀ x ∈ b.ptrs,CF c x
 op:∀ p b,o p=some (b,none)→∀ x ∈ b.ptrs,x=0∨o x≠none
 inj:∀ p p' b b',obF c o p=some b→obF c o p'=some b'→b.serial=b'.serial→p=p'
 sr:∀ p b,obF c o p=some b→1≤b.serial∧b.serial≤n
 hp:∀ p b,obF c o p=some b→∃ a,A b.serial=some a∧Like c o L b a
 an:∀ s,n<s→A s=none
 ln:∀ s ∈ L,s≤n
 lw:∀ s ∈ L,∀ a,A s=some a→a.shp.weak=true
 az:A 0=none
 nd:L.Nodup
def setC (c:Cf)(t:Nat)(b:Ob):Cf:=fun x=>if x=t then some b else c x
def setO (o:Of)(p:Nat)(b:Ob)(t:Nat):Of:=fun x=>if x=p then some (b,some t) else o x
section
variable {c : Cf} {o : Of} {bl : Nat → Prop} {n : Nat} {L : List Nat} {A : Ag}
theorem CF.V {x:Nat}(h:CF c x):VF c o x:=h.elim .inl fun h=>.inr (.inl h)
theorem obF_c {p:Nat}{b:Ob}(h:c p=some b):obF c o p=some b:=by unfold obF;rw[h]
theorem obF_o {p:Nat}{b:Ob}(h:c p=none)(h':o p=some (b,none)):obF c o p=some b:=by unfold obF;rw[h,h']
theorem nowF_c (h:Cor c o bl n L A){p:Nat}(hp:CF c p):nowF o p=p:=by
 have:o p=none:=by rcases hp with rfl|hp;exact h.z.2;exact (h.dj p).resolve_left hp
 unfold nowF;rw[this]
theorem srF_c (h:Cor c o bl n L A){p:Nat}{b:Ob}(hp:c p=some b):srF c o p=b.serial:=by
 unfold srF;rw[nowF_c h (.inr (by rw[hp];simp)),obF_c hp]
theorem srF_0 (h:Cor c o bl n L A):srF c o 0=0:=by
 unfold srF;rw[nowF_c h (.inl rfl)];unfold obF;rw[h.z.1,h.z.2]
theorem srF_pos (h:Cor c o bl n L A){x:Nat}(hx:VF c o x):srF c o x=0↔x=0:=by
 constructor
 ·intro e
  rcases hx with hx|hx|hx
  ·exact hx
  ·obtain⟨b,hb⟩:=Option.ne_none_iff_exists'.1 hx
   have:=h.sr x b (obF_c hb);rw[srF_c h hb]at e;omega
  ·obtain⟨⟨b,g⟩,hb⟩:=Option.ne_none_iff_exists'.1 hx
   have hc:=(h.dj x).resolve_right hx
   cases g with
   | none =>
    have h1:=obF_o hc hb;have:=h.sr x b h1;unfold srF nowF at e;rw[hb]at e;simp only[h1]at e;omega
   | some q =>
    obtain⟨b',h1,h2⟩:=h.fw x b q hb;have:=h.sr q b' (obF_c h1);unfold srF nowF at e;rw[hb]at e;simp only[obF_c h1]at e;omega
 ·rintro rfl;exact srF_0 h
theorem srF_inj (h:Cor c o bl n L A){x y:Nat}(hx:CF c x)(hy:CF c y):srF c o x=srF c o y↔x=y:=by
 constructor
 ·intro e
  rcases hx with rfl|hx
  ·rw[srF_0 h]at e;exact ((srF_pos h hy.V).1 e.symm).symm
  ·rcases hy with rfl|hy
   ·rw[srF_0 h]at e;exact (srF_pos h (.inr (.inl hx))).1 e
   ·obtain⟨b,hb⟩:=Option.ne_none_iff_exists'.1 hx
    obtain⟨b',hb'⟩:=Option.ne_none_iff_exists'.1 hy;rw[srF_c h hb,srF_c h hb']at e;exact h.inj _ _ _ _ (obF_c hb) (obF_c hb') e
 ·grind
theorem obF_moved {p t:Nat}{b:Ob}(hp:o p=some (b,none))(hcp:c p=none)(ht:c t=none)(hot:o t=none)(x:Nat) :
  obF (setC c t b) (setO o p b t) x=if x=t then some b else if x=p then none else obF c o x:=by
 unfold obF setC setO;by_cases e:x=t
 ·simp[e]
 ·by_cases e2:x=p
  ·subst e2;simp[e,hcp]
  ·simp[e,e2]
theorem nowF_moved {p t:Nat}{b:Ob}(x:Nat):nowF (setO o p b t) x=if x=p then t else nowF o x:=by
 unfold nowF setO;grind
theorem srF_moved (h:Cor c o bl n L A){p t:Nat}{b:Ob}(hp:o p=some (b,none))(ht:c t=none)(hot:o t=none){x:Nat}(hx:x≠t) :
  srF (setC c t b) (setO o p b t) x=srF c o x:=by
 have hcp:c p=none:=(h.dj p).resolve_right (by rw[hp];simp)
 unfold srF;rw[nowF_moved,obF_moved hp hcp ht hot];by_cases e:x=p
 ·subst e
  have:nowF o x=x:=by unfold nowF;rw[hp]
  rw[if_pos rfl,if_pos rfl,this,obF_o hcp hp]
 ·rw[if_neg e]
  have h1:nowF o x≠t:=by
   unfold nowF;split
   ·rename_i b' q hb;obtain⟨b'',h1,_⟩:=h.fw _ _ _ hb;intro e;rw[e,ht]at h1;cases h1
   ·exact hx
  have h2:nowF o x≠p:=by
   unfold nowF;split
   ·rename_i b' q hb;obtain⟨b'',h1,_⟩:=h.fw _ _ _ hb;intro e;rw[e,hcp]at h1;cases h1
   ·exact e
  grind
theorem VF_moved {p t:Nat}{b:Ob}{x:Nat}(h:VF c o x):VF (setC c t b) (setO o p b t) x:=by
 rcases h with h|h|h
 ·exact .inl h
 ·refine .inr (.inl ?_);unfold setC;split<;>simp[*]
 ·refine .inr (.inr ?_);unfold setO;split<;>simp[*]
theorem CF_set {t:Nat}{b:Ob}{x:Nat}(h:CF c x):CF (setC c t b) x:=by
 rcases h with h|h
 ·exact .inl h
 ·refine .inr ?_;unfold setC;split<;>simp[*]
theorem VF.ne {t x:Nat}(ht:c t=none)(hot:o t=none)(h0:t≠0)(h:VF c o x):x≠t:=by
 rintro rfl;rcases h with h|h|h
 ·exact h0 h
 ·exact h ht
 ·exact h hot
theorem Like.moved (h:Cor c o bl n L A){p t:Nat}{b:Ob}(hp:o p=some (b,none))(ht:c t=none)(hot:o t=none)(h0:t≠0){b':Ob}{a:AO}(hv:∀ x ∈ b'.ptrs,VF c o x)(hl:Like c o L b' a):Like (setC c t b) (setO o p b t) L b' a:=
 ⟨hl.shp,hl.fr,hl.sec,hl.nums,by rw[←hl.ptrs];exact List.map_congr_left fun x hx=>srF_moved h hp ht hot ((hv x hx).ne ht hot h0)⟩
theorem Cor.ptrs (h:Cor c o bl n L A){p:Nat}{b:Ob}(hb:obF c o p=some b):∀ x ∈ b.ptrs,VF c o x:=by
 unfold obF at hb;split at hb
 ·rename_i b' hc;injection hb with hb;subst hb;exact h.cp _ _ hc
 ·split at hb
  ·rename_i b' ho;injection hb with hb;subst hb;exact fun x hx=>(h.op _ _ ho x hx).elim .inl fun h=>.inr (.inr h)
  ·cases hb
theorem Cor.moved (h:Cor c o bl n L A){p t:Nat}{b:Ob}(hp:o p=some (b,none))(ht:c t=none)(hot:o t=none)(h0:t≠0)(hbl:¬bl t):Cor (setC c t b) (setO o p b t) bl n L A:=by
 have hcp:c p=none:=(h.dj p).resolve_right (by rw[hp];simp)
 have hp0:p≠0:=by rintro rfl;rw[h.z.2]at hp;cases hp
 have hpt:p≠t:=by rintro rfl;rw[hot]at hp;cases hp
 have hob:=obF_moved hp hcp ht hot;have hpb:obF c o p=some b:=obF_o hcp hp;have hback:∀ x b',obF (setC c t b) (setO o p b t) x=some b'→∃ y,obF c o y=some b'∧(x=t∧y=p∨x≠t∧x≠p∧x=y):=by
  grind
 refine⟨⟨by simp[setC,Ne.symm h0,h.z.1],by simp[setO,Ne.symm hp0,h.z.2]⟩,fun x=>?_,fun q b' r hq=>?_,fun q b' hq x hx=>?_,fun q b' hq hb hw x hx=>?_,fun q b' hq x hx=>?_,fun q q' d d' h1 h2 e=>?_,fun q d h1=>?_,fun q d h1=>?_,h.an,h.ln,h.lw,h.az,h.nd⟩
 ·unfold setC setO
  by_cases e:x=t
  ·subst e;right;simp[Ne.symm hpt,hot]
  ·by_cases e2:x=p
   ·subst e2;left;simp[e,hcp]
   ·simp only[if_neg e,if_neg e2];exact h.dj x
 ·unfold setO at hq
  split at hq
  ·injection hq with hq;injection hq with h1 h2;injection h2 with h2;subst h1 h2;exact⟨b,by simp[setC],rfl⟩
  ·obtain⟨b'',h1,h2⟩:=h.fw _ _ _ hq
   refine⟨b'',?_,h2⟩;unfold setC;rw[if_neg];exact h1
   rintro rfl;rw[ht]at h1;cases h1
 ·unfold setC at hq
  split at hq
  ·injection hq with hq;subst hq;exact VF_moved (h.ptrs hpb x hx)
  ·exact VF_moved (h.cp _ _ hq x hx)
 ·unfold setC at hq
  split at hq
  ·rename_i e;subst e;exact absurd hb hbl
  ·exact CF_set (h.bk _ _ hq hb hw x hx)
 ·unfold setO at hq
  split at hq
  ·grind
  ·rcases h.op _ _ hq x hx with h1|h1
   ·exact .inl h1
   ·refine .inr ?_;unfold setO;split<;>simp[*]
 ·obtain⟨y,h3,h4⟩:=hback _ _ h1
  obtain⟨y',h5,h6⟩:=hback _ _ h2;have:=h.inj _ _ _ _ h3 h5 e;grind
 ·obtain⟨y,h3,_⟩:=hback _ _ h1;exact h.sr _ _ h3
 ·obtain⟨y,h3,_⟩:=hback _ _ h1
  obtain⟨a,h4,h5⟩:=h.hp _ _ h3;exact⟨a,h4,Like.moved h hp ht hot h0 (h.ptrs h3) h5⟩
def updA (A:Ag)(s:Nat)(a:AO):Ag:=fun x=>if x=s then some a else A x
theorem obF_set {p:Nat}{b b':Ob}(hp:c p=some b)(x:Nat):obF (setC c p b') o x=if x=p then some b' else obF c o x:=by
 unfold obF setC;grind
theorem srF_set {p:Nat}{b b':Ob}(hp:c p=some b)(hs:b'.serial=b.serial)(x:Nat):srF (setC c p b') o x=srF c o x:=by
 unfold srF;rw[obF_set hp];split
 ·rename_i e
  split at e
  ·rename_i e2;injection e with e;subst e;rw[e2,obF_c hp];exact hs
  ·rw[e]
 ·grind
theorem CF_setp {p:Nat}{b b':Ob}(hp:c p=some b)(x:Nat):CF (setC c p b') x↔CF c x:=by
 unfold CF setC;grind
theorem VF_setp {p:Nat}{b b':Ob}(hp:c p=some b)(x:Nat):VF (setC c p b') o x↔VF c o x:=by
 unfold VF setC;grind
theorem Cor.set (h:Cor c o bl n L A) {p:Nat} {b b':Ob} {L':List Nat} {a':AO} (hp:c p=some b) (hs:b'.serial=b.serial) (hw:b'.shp=b.shp)
  (hx:∀ x ∈ b'.ptrs,x ∈ b.ptrs∨CF c x) (hl:∀ s,s≠b.serial→(s ∈ L'↔s ∈ L)) (hl2:∀ s ∈ L',s ∈ L∨s=b.serial∧b.shp.weak=true) (hnd:L'.Nodup) (ha:Like c o L' b' a') :
  Cor (setC c p b') o bl n L' (updA A b.serial a'):=by
 have hob:=fun x=>obF_set (o:=o) (b':=b') hp x
 have hsr:=srF_set (o:=o) hp hs;have hb:=h.sr p b (obF_c hp);have hback:∀ x d,obF (setC c p b') o x=some d→∃ d0,obF c o x=some d0∧d.serial=d0.serial∧(x=p∧d=b'∧d0=b∨x≠p∧d=d0):=by
  intro x d hx;rw[hob]at hx;split at hx
  ·rename_i e;injection hx with hx;subst hx e;exact⟨b,obF_c hp,hs,.inl ⟨rfl,rfl,rfl⟩⟩
  ·exact⟨d,hx,rfl,.inr ⟨‹_›,rfl⟩⟩
 refine⟨⟨?_,h.z.2⟩,fun x=>?_,fun q d r hq=>?_,fun q d hq x hx'=>?_,fun q d hq hb hwk x hx'=>?_,h.op,fun q q' d d' h1 h2 e=>?_,fun q d h1=>?_,fun q d h1=>?_,fun s hs'=>?_,fun s hs'=>?_,fun s hs' a ha'=>?_,by unfold updA;rw[if_neg (by omega)];exact h.az,hnd⟩
 ·unfold setC;rw[if_neg];exact h.z.1
  rintro rfl;rw[h.z.1]at hp;cases hp
 ·unfold setC
  split
  ·rename_i e;subst e;exact .inr ((h.dj x).resolve_left (by rw[hp];simp))
  ·exact h.dj x
 ·obtain⟨d',h1,h2⟩:=h.fw _ _ _ hq
  unfold setC;grind
 ·rw[VF_setp hp]
  unfold setC at hq;split at hq
  ·injection hq with hq;subst hq
   rcases hx x hx' with h1|h1
   ·exact h.cp _ _ hp x h1
   ·exact h1.V
  ·exact h.cp _ _ hq x hx'
 ·rw[CF_setp hp]
  unfold setC at hq;split at hq
  ·rename_i e;injection hq with hq;subst hq e
   rcases hx x hx' with h1|h1
   ·exact h.bk _ _ hp hb (by rw[←hw];exact hwk) x h1
   ·exact h1
  ·exact h.bk _ _ hq hb hwk x hx'
 ·obtain⟨y,h3,h4,_⟩:=hback _ _ h1
  obtain⟨y',h5,h6,_⟩:=hback _ _ h2;exact h.inj _ _ _ _ h3 h5 (by rw[←h4,←h6];exact e)
 ·obtain⟨y,h3,h4,_⟩:=hback _ _ h1;rw[h4];exact h.sr _ _ h3
 ·obtain⟨y,h3,h4,h5⟩:=hback _ _ h1
  have hlk:∀ {d a},Like c o L' d a→Like (setC c p b') o L' d a:=fun hl=>⟨hl.shp,hl.fr,hl.sec,hl.nums,by rw[←hl.ptrs];exact List.map_congr_left fun x _=>hsr x⟩
  rcases h5 with ⟨rfl,rfl,rfl⟩|⟨h5,rfl⟩
  ·exact⟨a',by simp[updA,hs],hlk ha⟩
  ·obtain⟨a,h6,h7⟩:=h.hp _ _ h3
   have hne:d.serial≠b.serial:=fun e=>h5 (h.inj _ _ _ _ h3 (obF_c hp) e)
   refine⟨a,by simp[updA,hne,h6],hlk ⟨h7.shp,h7.fr,h7.sec,h7.nums,?_⟩⟩
   rw[h7.ptrs];simp[hl _ hne]
 ·unfold updA;rw[if_neg (by omega)];exact h.an s hs'
 ·rcases hl2 s hs' with h1|⟨h1,_⟩
  ·exact h.ln s h1
  ·omega
 ·unfold updA at ha'
  split at ha'
  ·rename_i e;injection ha' with ha';subst ha' e
   rw[ha.shp,hw];rcases hl2 _ hs' with h1|⟨_,h1⟩
   ·obtain⟨a0,h2,h3⟩:=h.hp _ _ (obF_c hp)
    rw[←h3.shp];exact h.lw _ h1 a0 h2
   ·exact h1
  ·rcases hl2 s hs' with h1|⟨h1,_⟩
   ·exact h.lw s h1 a ha'
   ·contradiction
theorem Cor.lay (h:Cor c o bl n L A){t:Nat}{b:Ob}{a:AO}(ht:c t=none)(hot:o t=none)(h0:t≠0)(hs:b.serial=n+1)(hz:∀ x ∈ b.ptrs,x=0)
  (ha:a.shp=b.shp∧a.fr=b.freed∧a.sec=b.second∧a.nums=b.nums∧a.ptrs=b.ptrs):Cor (setC c t b) o bl (n+1) L (updA A (n+1) a):=by
 have hob:∀ x,obF (setC c t b) o x=if x=t then some b else obF c o x:=by
  intro x;unfold obF setC;by_cases e:x=t<;>simp[e]
 have hnow:∀ x,x≠t→nowF o x≠t:=by
  intro x hx;unfold nowF;split
  ·rename_i b' q hb;obtain⟨b'',h1,_⟩:=h.fw _ _ _ hb;intro e;rw[e,ht]at h1;cases h1
  ·exact hx
 have hsr:∀ x,x≠t→srF (setC c t b) o x=srF c o x:=by
  intro x hx;unfold srF;rw[hob,if_neg (hnow x hx)]
 have hne:∀ {x},VF c o x→x≠t:=fun hv=>hv.ne ht hot h0
 have hV:∀ {x},VF c o x→VF (setC c t b) o x:=fun hv=>by
  rcases hv with h1|h1|h1
  ·exact .inl h1
  ·refine .inr (.inl ?_);unfold setC;split<;>simp[*]
  ·exact .inr (.inr h1)
 have hback:∀ x d,obF (setC c t b) o x=some d→x=t∧d=b∨x≠t∧obF c o x=some d:=by
  intro x d hx;rw[hob]at hx;split at hx
  ·injection hx with hx;exact .inl ⟨‹_›,hx.symm⟩
  ·exact .inr ⟨‹_›,hx⟩
 refine⟨⟨by simp[setC,Ne.symm h0,h.z.1],h.z.2⟩,fun x=>?_,fun q d r hq=>?_,fun q d hq x hx=>?_,fun q d hq hb hw x hx=>?_,h.op,fun q q' d d' h1 h2 e=>?_,fun q d h1=>?_,fun q d h1=>?_,fun s hs'=>?_,fun s hs'=>Nat.le_succ_of_le (h.ln s hs'),fun s hs' a' ha'=>?_,by unfold updA;rw[if_neg (by omega)];exact h.az,h.nd⟩
 ·unfold setC;split
  ·rename_i e;subst e;exact .inr hot
  ·exact h.dj x
 ·obtain⟨d',h1,h2⟩:=h.fw _ _ _ hq
  refine⟨d',?_,h2⟩;unfold setC;rw[if_neg];exact h1
  rintro rfl;rw[ht]at h1;cases h1
 ·unfold setC at hq;split at hq
  ·injection hq with hq;subst hq;exact .inl (hz x hx)
  ·exact hV (h.cp _ _ hq x hx)
 ·unfold setC at hq;split at hq
  ·injection hq with hq;subst hq;exact .inl (hz x hx)
  ·exact CF_set (h.bk _ _ hq hb hw x hx)
 ·rcases hback _ _ h1 with ⟨rfl,rfl⟩|⟨h3,h4⟩
  ·rcases hback _ _ h2 with ⟨rfl,rfl⟩|⟨h5,h6⟩
   ·rfl
   ·have:=h.sr _ _ h6;omega
  ·rcases hback _ _ h2 with ⟨rfl,rfl⟩|⟨h5,h6⟩
   ·have:=h.sr _ _ h4;omega
   ·exact h.inj _ _ _ _ h4 h6 e
 ·rcases hback _ _ h1 with ⟨rfl,rfl⟩|⟨h3,h4⟩
  ·omega
  ·have:=h.sr _ _ h4;omega
 ·rcases hback _ _ h1 with ⟨rfl,rfl⟩|⟨h3,h4⟩
  ·refine⟨a,by simp[updA,hs],ha.1,ha.2.1,ha.2.2.1,ha.2.2.2.1,?_⟩
   have hL:d.serial ∉ L:=fun hm=>by have:=h.ln _ hm;omega
   rw[if_neg hL,ha.2.2.2.2];refine (List.map_congr_left fun x hx=>?_).trans (List.map_id _)
   rw[hz x hx,hsr 0 (Ne.symm h0),srF_0 h];rfl
  ·obtain⟨a',h6,h7⟩:=h.hp _ _ h4
   have:=h.sr _ _ h4;refine⟨a',by simp only[updA];rw[if_neg (by omega)];exact h6,h7.shp,h7.fr,h7.sec,h7.nums,?_⟩
   rw[←h7.ptrs];exact List.map_congr_left fun x hx=>hsr x (hne (h.ptrs h4 x hx))
 ·unfold updA;rw[if_neg (by omega)];exact h.an s (by omega)
 ·have:=h.ln s hs'
  unfold updA at ha';rw[if_neg (by omega)]at ha';exact h.lw s hs' a' ha'
def oldF (c:Cf):Of:=fun x=>(c x).map fun b=>(b,none)
theorem Cor.flip (h:Cor c (fun _=>none) bl n L A):Cor (fun _=>none) (oldF c) (fun _=>False) n L A:=by
 have hob:∀ x,obF (fun _=>none) (oldF c) x=obF c (fun _=>none) x:=by
  intro x;unfold obF oldF;cases c x<;>rfl
 have hno:∀ x,nowF (oldF c) x=x:=by intro x;unfold nowF oldF;cases c x<;>rfl
 have hsr:∀ x,srF (fun _=>none) (oldF c) x=srF c (fun _=>none) x:=by
  intro x;unfold srF;rw[hob,hno];rfl
 refine⟨⟨rfl,by simp[oldF,h.z.1]⟩,fun _=>.inl rfl,fun p b q hq=>?_,fun p b hp=>(by cases hp),fun p b hp=>(by cases hp),fun p b hp x hx=>?_,fun p p' b b' h1 h2=>?_,fun p b h1=>?_,fun p b h1=>?_,h.an,h.ln,h.lw,h.az,h.nd⟩
 ·unfold oldF at hq;cases hc:c p<;>rw[hc]at hq<;>simp at hq
 ·unfold oldF at hp ⊢
  cases hc:c p with
  | none=>rw[hc]at hp;cases hp
  | some b' =>
   rw[hc]at hp;simp at hp;subst hp;rcases h.cp _ _ hc x hx with h1|h1|h1
   ·grind
   ·right;simpa using h1
   ·grind
 ·rw[hob]at h1 h2;exact h.inj _ _ _ _ h1 h2
 ·rw[hob]at h1;exact h.sr _ _ h1
 ·rw[hob]at h1
  obtain⟨a,h2,h3⟩:=h.hp _ _ h1;exact⟨a,h2,h3.shp,h3.fr,h3.sec,h3.nums,by rw[←h3.ptrs];exact List.map_congr_left fun x _=>hsr x⟩
theorem Cor.rest (h:Cor c o bl n L A)(hc:∀ p b,c p=some b→∀ x ∈ b.ptrs,CF c x)(bl':Nat→Prop):Cor c (fun _=>none) bl' n L A:=by
 have hob:∀ {x b},obF c (fun _=>none) x=some b→c x=some b:=by
  intro x b;unfold obF;cases c x<;>simp
 have hsr:∀ x,CF c x→srF c (fun _=>none) x=srF c o x:=by
  intro x hx;rcases hx with rfl|hx
  ·rw[srF_0 h];unfold srF nowF obF;simp[h.z.1]
  ·obtain⟨b,hb⟩:=Option.ne_none_iff_exists'.1 hx
   rw[srF_c h hb];unfold srF nowF obF;simp[hb]
 refine⟨⟨h.z.1,rfl⟩,fun _=>.inr rfl,fun _ _ _ h=>(by cases h),fun p b hp x hx=>(hc _ _ hp x hx).V,fun p b hp _ _=>hc _ _ hp,fun _ _ h=>(by cases h),fun p p' b b' h1 h2=>?_,fun p b h1=>?_,fun p b h1=>?_,h.an,h.ln,h.lw,h.az,h.nd⟩
 ·exact h.inj _ _ _ _ (obF_c (hob h1)) (obF_c (hob h2))
 ·exact h.sr _ _ (obF_c (hob h1))
 ·obtain⟨a,h2,h3⟩:=h.hp _ _ (obF_c (hob h1))
  exact⟨a,h2,h3.shp,h3.fr,h3.sec,h3.nums,by rw[←h3.ptrs];exact List.map_congr_left fun x hx=>hsr x (hc _ _ (hob h1) x hx)⟩
theorem Cor.reb (h:Cor c o bl n L A){bl':Nat→Prop}(hb:∀ p b,c p=some b→bl' p→b.shp.weak=false→∀ x ∈ b.ptrs,CF c x):Cor c o bl' n L A:=
 ⟨h.z,h.dj,h.fw,h.cp,hb,h.op,h.inj,h.sr,h.hp,h.an,h.ln,h.lw,h.az,h.nd⟩
end
def Hp.V (H:Hp)(x:Nat):Prop:=VF (lk H.cur) (lko H.old) x
def Hp.C (H:Hp)(x:Nat):Prop:=CF (lk H.cur) x
def Hp.sr (H:Hp)(x:Nat):Nat:=srF (lk H.cur) (lko H.old) x
def Hp.bl (H:Hp)(p:Nat):Prop:=H.moving=true∧p<H.scan
def Hp.obj (H:Hp)(p:Nat):Option Ob:=obF (lk H.cur) (lko H.old) p
def Lst (H:Hp)(l:List Nat)(P:Shp→Bool):Prop:=∀ y ∈ l,y≠0∧H.V y∧∀ b,H.obj (nowF (lko H.old) y)=some b→P b.shp=true
structure Gc (H:Hp)(L:List Nat)(A:Ag):Prop where
 wf:H.wf
 cor:Cor (lk H.cur) (lko H.old) H.bl H.serial L A
 wk:∀ p b,H.obj p=some b→b.shp.weak=true→∃ y ∈ H.weak,nowF (lko H.old) y=p
 wq:Lst H H.weak Shp.weak
 fi:Lst H H.final Shp.final
structure Evo (H H':Hp):Prop where
 v:∀ x,H.V x→H'.V x
 s:∀ x,H.V x→H'.sr x=H.sr x
 c:∀ x,H.C x→H'.C x
theorem Evo.refl (H:Hp):Evo H H:=⟨fun _ h=>h,fun _ _=>rfl,fun _ h=>h⟩
theorem Evo.trans {H H' H'':Hp}(a:Evo H H')(b:Evo H' H''):Evo H H'':=⟨fun x h=>b.v x (a.v x h),fun x h=>(b.s x (a.v x h)).trans (a.s x h),fun x h=>b.c x (a.c x h)⟩
section
variable {H : Hp} {L : List Nat} {A : Ag}
theorem Gc.dj (h:Gc H L A){p:Nat}{b:Ob}(hp:lk H.cur p=some b):lko H.old p=none:=(h.cor.dj p).resolve_left (by rw[hp];simp)
theorem setC_snoc {H:Hp}(hk:H.ok)(b:Ob):lk (H.cur++[(H.top,b)])=setC (lk H.cur) H.top b:=by
 funext x;unfold setC;split
 ·rename_i e;subst e;exact lk_top hk b
 ·rename_i e;rw[lk_app];simp[lk,Ne.symm e]
theorem setC_up {l:List (Nat×Ob)}{p:Nat}{b b':Ob}(hp:lk l p=some b):lk (up l p b')=setC (lk l) p b':=by
 funext x;rw[lk_up];unfold setC;split
 ·rename_i e;subst e;rw[hp];rfl
 ·rfl
theorem setO_gone {l:List (Nat×Ob×Option Nat)}{p t:Nat}{b:Ob}{g:Option Nat}(hp:lko l p=some (b,g)):lko (goneTo l p t)=setO (lko l) p b t:=by
 funext x;rw[lko_gone];unfold setO;split
 ·rename_i e;subst e;rw[hp];rfl
 ·rfl
theorem top_free (hk:H.ok):lk H.cur H.top=none:=lk_none_of hk.cl hk.ck (Nat.le_refl _)
theorem top_pos (hk:H.ok):H.top≠0:=by have:=base_top hk;have:=H.base_bd H.use;omega
theorem old_top (hk:H.ok){n:Nat}(hn:0<n)(hr:H.top+n≤H.base H.use+H.size):lko H.old H.top=none:=by
 cases h:lko H.old H.top with
 | none=>rfl
 | some x =>
  obtain⟨b,g⟩:=x;obtain⟨h1,h2,h3,_⟩:=old_ob hk h;have h4:=rnd_ge _ (Ob.size_bd h1).2;have:=base_top hk;unfold Hp.base at *
  cases hu:H.use<;>simp[hu] at*<;> omega
theorem scan_top (h:H.wf)(hm:H.moving=true):H.scan≤H.top:=by
 obtain⟨a,b,e,hl⟩:=h.sc hm;have hcl:=h.ok.cl;rw[e]at hcl;obtain⟨s,h1,h2⟩:=laid_app a b _ _ hcl;have hu:s=H.scan:=by
  have:∀ (l:List (Nat×Ob))(b s t:Nat),laid b l s→laid b l t→s=t:=by
   intro l;induction l with
   | nil=>intro b s t h1 h2;rw[laid]at h1 h2;omega
   | cons x l ih=>intro b s t h1 h2;exact ih _ _ _ h1.2 h2.2
  exact this _ _ _ _ h1 hl
 rw[←hu];exact laid_le _ _ _ h2
theorem Gc.moved (h:Gc H L A) {p:Nat} (hv:H.V p):Gc (H.moved p).1 L A∧Evo H (H.moved p).1∧(H.moved p).1.C (H.moved p).2∧(H.moved p).1.sr (H.moved p).2=H.sr p:=by
 have hwf:=Hp.moved_wf h.wf p
 cases hp:lko H.old p with
 | none =>
  rw[H.moved_none hp];refine⟨h,Evo.refl H,?_,rfl⟩;rcases hv with h1|h1|h1
  ·exact .inl h1
  ·exact .inr h1
  ·exact absurd hp h1
 | some z =>
  obtain⟨b,g⟩:=z
  cases g with
  | some q =>
   rw[H.moved_gone hp];obtain⟨b',h1,h2⟩:=h.cor.fw _ _ _ hp;refine⟨h,Evo.refl H,.inr (by rw[h1];simp),?_⟩
   show srF _ _ _=srF _ _ _;rw[srF_c h.cor h1];unfold srF nowF;rw[hp];simp only[obF_c h1]
  | none =>
   rw[H.moved_new hp]at hwf ⊢;have hk:=h.wf.ok;have ht:=top_free hk;have h0:=top_pos hk;have hcp:lk H.cur p=none:=(h.cor.dj p).resolve_right (by rw[hp];simp)
   have hot:lko H.old H.top=none:=old_top hk (n:=rnd b.size) (by have:=rnd_ge _ (Ob.size_bd (old_ob hk hp).1).2;have:=Ob.size_bd (old_ob hk hp).1;omega) (by have:=owes_ge hp;have:=hk.room;have:=hk.owe;omega)
   have hbl:¬H.bl H.top:=fun hb=>by have:=scan_top h.wf hb.1;have:=hb.2;omega
   have hc:=h.cor.moved hp ht hot h0 hbl;have hs:∀ x,H.V x→srF (setC (lk H.cur) H.top b) (setO (lko H.old) p b H.top) x=H.sr x:=fun x hx=>srF_moved h.cor hp ht hot (VF.ne ht hot h0 hx)
   have hob:=obF_moved hp hcp ht hot;have hpn:∀ y,nowF (lko H.old) y=p→y=p:=by
    intro y hy;unfold nowF at hy;split at hy
    ·rename_i b' q hb;obtain⟨b'',h1,_⟩:=h.cor.fw _ _ _ hb;rw[hy,hcp]at h1;cases h1
    ·exact hy
   have hlst:∀ {l:List Nat} {P:Shp→Bool},Lst H l P→Lst { H with cur:=H.cur++[(H.top,b)],top:=H.top+rnd b.size,old:=goneTo H.old p H.top,owed:=H.owed-rnd b.size } l P:=by
    intro l P hl y hy;obtain⟨h1,h2,h3⟩:=hl y hy;refine⟨h1,?_,?_⟩
    ·show VF (lk (H.cur++[(H.top,b)])) (lko (goneTo H.old p H.top)) y
     rw[setC_snoc hk,setO_gone hp];exact VF_moved h2
    ·intro d hd
     change obF (lk (H.cur++[(H.top,b)])) (lko (goneTo H.old p H.top)) (nowF (lko (goneTo H.old p H.top)) y)=some d at hd;rw[setC_snoc hk,setO_gone hp,nowF_moved,hob]at hd;by_cases e:y=p
     ·subst e
      rw[if_pos rfl,if_pos rfl]at hd;injection hd with hd;subst hd;refine h3 b ?_;have:nowF (lko H.old) y=y:=by unfold nowF;rw[hp]
      rw[this];exact obF_o hcp hp
     ·rw[if_neg e]at hd
      split at hd
      ·rename_i e2
       exfalso;unfold nowF at e2;split at e2
       ·rename_i b' q hb;obtain⟨b'',h1,_⟩:=h.cor.fw _ _ _ hb;rw[e2,ht]at h1;cases h1
       ·exact h2.ne ht hot h0 e2
      ·split at hd
       ·cases hd
       ·exact h3 d hd
   refine⟨⟨hwf,?_,?_,hlst h.wq,hlst h.fi⟩,⟨?_,?_,?_⟩,?_,?_⟩
   ·show Cor (lk (H.cur++[(H.top,b)])) (lko (goneTo H.old p H.top)) _ _ _ _
    rw[setC_snoc hk,setO_gone hp];exact hc
   ·intro x d hx hw
    change obF (lk (H.cur++[(H.top,b)])) (lko (goneTo H.old p H.top)) x=some d at hx;show ∃ y ∈ H.weak,nowF (lko (goneTo H.old p H.top)) y=x;rw[setC_snoc hk,setO_gone hp,hob]at hx;rw[setO_gone hp];split at hx
    ·rename_i e;injection hx with hx;subst hx
     obtain⟨y,h1,h2⟩:=h.wk p b (obF_o hcp hp) hw;refine⟨y,h1,?_⟩;rw[nowF_moved,if_pos (hpn y h2),e]
    ·split at hx
     ·cases hx
     ·obtain⟨y,h1,h2⟩:=h.wk x d hx hw
      refine⟨y,h1,?_⟩;rw[nowF_moved,if_neg,h2]
      rintro rfl
      have:nowF (lko H.old) y=y:=by unfold nowF;rw[hp]
      omega
   ·intro x hx
    show VF (lk (H.cur++[(H.top,b)])) (lko (goneTo H.old p H.top)) x;rw[setC_snoc hk,setO_gone hp];exact VF_moved hx
   ·intro x hx
    show srF (lk (H.cur++[(H.top,b)])) (lko (goneTo H.old p H.top)) x=_;rw[setC_snoc hk,setO_gone hp];exact hs x hx
   ·intro x hx
    show CF (lk (H.cur++[(H.top,b)])) x;rw[setC_snoc hk];exact CF_set hx
   ·show CF (lk (H.cur++[(H.top,b)])) H.top
    exact .inr (by rw[lk_top hk];simp)
   ·show srF (lk (H.cur++[(H.top,b)])) (lko (goneTo H.old p H.top)) H.top=_
    rw[setC_snoc hk,setO_gone hp,srF_c hc (b:=b) (by simp[setC])]
    show _=srF _ _ p;unfold srF;have:nowF (lko H.old) p=p:=by unfold nowF;rw[hp]
    rw[this,obF_o hcp hp]
theorem Gc.movedL:∀ (l:List Nat){H:Hp}(_:Gc H L A)(_:∀ x ∈ l,H.V x),Gc (H.movedL l).1 L A∧Evo H (H.movedL l).1∧(∀ x ∈ (H.movedL l).2,(H.movedL l).1.C x)∧(H.movedL l).2.map (H.movedL l).1.sr=l.map H.sr
 | [],H,h,_=>⟨h,Evo.refl H,fun x hx=>(by cases hx),rfl⟩
 | p::l,H,h,hv=>by
  obtain⟨h1,h2,h3,h4⟩:=h.moved (hv p (.head _));obtain⟨h5,h6,h7,h8⟩:=Gc.movedL l h1 fun x hx=>h2.v x (hv x (.tail _ hx))
  refine⟨h5,h2.trans h6,fun x hx=>?_,?_⟩
  ·rcases List.mem_cons.1 (show x ∈ (H.moved p).2::_ from hx) with rfl|hx
   ·exact h6.c _ h3
   ·exact h7 x hx
  ·show ((H.moved p).2::((H.moved p).1.movedL l).2).map ((H.moved p).1.movedL l).1.sr=_
   rw[List.map_cons,h8,h6.s _ (CF.V h3),h4,List.map_cons];congr 1;exact List.map_congr_left fun x hx=>h2.s x (hv x (.tail _ hx))
theorem Gc.wr (h:Gc H L A){p:Nat}{b b':Ob}{L':List Nat}{a':AO}(hp:lk H.cur p=some b)(hok:b'.ok)(hs:b'.serial=b.serial)(hw:b'.shp=b.shp)
  (hx:∀ x ∈ b'.ptrs,x ∈ b.ptrs∨H.C x)(hl:∀ s,s≠b.serial→(s ∈ L'↔s ∈ L))(hl2:∀ s ∈ L',s ∈ L∨s=b.serial∧b.shp.weak=true)(hnd:L'.Nodup)(ha:Like (lk H.cur) (lko H.old) L' b' a') :
  Gc { H with cur:=up H.cur p b' } L' (updA A b.serial a')∧Evo H { H with cur:=up H.cur p b' }∧(∀ x,Hp.sr { H with cur:=up H.cur p b' } x=H.sr x)∧(∀ x,Hp.C { H with cur:=up H.cur p b' } x↔H.C x):=by
 have hc:=h.cor.set (L':=L') hp hs hw hx hl hl2 hnd ha;have e:=setC_up (b':=b') hp;have hsr:∀ x,Hp.sr { H with cur:=up H.cur p b' } x=H.sr x:=fun x=>by unfold Hp.sr;rw[e];exact srF_set hp hs x
 have hC:∀ x,Hp.C { H with cur:=up H.cur p b' } x↔H.C x:=fun x=>by unfold Hp.C;rw[e];exact CF_setp hp x
 have hV:∀ x,Hp.V { H with cur:=up H.cur p b' } x↔H.V x:=fun x=>by unfold Hp.V;rw[e];exact VF_setp hp x
 have hob:∀ x,Hp.obj { H with cur:=up H.cur p b' } x=if x=p then some b' else H.obj x:=fun x=>by unfold Hp.obj;rw[e];exact obF_set hp x
 have hlst:∀ {l:List Nat}{P:Shp→Bool},Lst H l P→Lst { H with cur:=up H.cur p b' } l P:=by
  intro l P hl y hy;obtain⟨h1,h2,h3⟩:=hl y hy;refine⟨h1,(hV y).2 h2,fun d hd=>?_⟩
  rw[hob]at hd;change (if nowF (lko H.old) y=p then _ else _)=_ at hd
  split at hd
  ·rename_i e2;injection hd with hd;subst hd;rw[hw];exact h3 b (by rw[e2];exact obF_c hp)
  ·exact h3 d hd
 refine⟨⟨up_wf h.wf hp hok hw,by show Cor (lk (up H.cur p b')) _ _ _ _ _;rw[e];exact hc,fun x d hx' hwk=>?_,hlst h.wq,hlst h.fi⟩,⟨fun x=>(hV x).2,fun x _=>hsr x,fun x=>(hC x).2⟩,hsr,hC⟩
 rw[hob]at hx';split at hx'
 ·rename_i e2;injection hx' with hx';subst hx';subst e2;exact h.wk x b (obF_c hp) (by rw[←hw];exact hwk)
 ·exact h.wk x d hx' hwk
theorem Gc.at' (h:Gc H L A){p:Nat}(hp:H.C p)(h0:p≠0):∃ b a,lk H.cur p=some b∧H.sr p=b.serial∧A b.serial=some a∧Like (lk H.cur) (lko H.old) L b a:=by
 obtain⟨b,hb⟩:=Option.ne_none_iff_exists'.1 (hp.resolve_left h0);obtain⟨a,h1,h2⟩:=h.cor.hp _ _ (obF_c hb);exact⟨b,a,hb,srF_c h.cor hb,h1,h2⟩
theorem Gc.sr0 (h:Gc H L A):H.sr 0=0:=srF_0 h.cor
theorem Gc.srz (h:Gc H L A){x:Nat}(hx:H.C x):H.sr x=0↔x=0:=srF_pos h.cor (CF.V hx)
theorem Gc.inj (h:Gc H L A){x y:Nat}(hx:H.C x)(hy:H.C y):H.sr x=H.sr y↔x=y:=srF_inj h.cor hx hy
theorem Gc.lay (h:Gc H L A){s:Shp}(hs:s.ok)(hr:H.roomy s=true) :
  Gc (H.lay s) L (updA A (H.serial+1) ⟨s,false,0,List.replicate s.p 0,List.replicate s.d 0⟩)∧Evo H (H.lay s)∧(H.lay s).C H.top∧H.top≠0∧(H.lay s).sr H.top=H.serial+1:=by
 have hk:=h.wf.ok;have ht:=top_free hk;have h0:=top_pos hk;have hroom:rnd (3+s.p+s.d)≤H.left:=by unfold Hp.roomy at hr;simp at hr;exact hr.1
 have hpos:0<rnd (3+s.p+s.d):=by unfold rnd;(repeat' split)<;>omega
 have hot:lko H.old H.top=none:=old_top hk hpos (by have:=hk.room;unfold Hp.left at hroom;omega)
 have hbl:¬H.bl H.top:=fun hb=>by have:=scan_top h.wf hb.1;have:=hb.2;omega
 have hwf:=Hp.lay_wf h.wf hs hr;have e:lk (H.lay s).cur=setC (lk H.cur) H.top (Ob.new s (H.serial+1)):=setC_snoc hk _;have hc:Cor (setC (lk H.cur) H.top (Ob.new s (H.serial+1))) (lko H.old) H.bl (H.serial+1) L (updA A (H.serial+1) ⟨s,false,0,List.replicate s.p 0,List.replicate s.d 0⟩):=
  h.cor.lay ht hot h0 rfl (fun x hx=>(List.mem_replicate.1 hx).2) ⟨rfl,rfl,rfl,rfl,rfl⟩
 have hob:∀ x,(H.lay s).obj x=if x=H.top then some (Ob.new s (H.serial+1)) else H.obj x:=by
  intro x;unfold Hp.obj;rw[e];show obF (setC (lk H.cur) H.top _) (lko H.old) x=_;unfold obF setC;by_cases e2:x=H.top<;>simp[e2]
 have hV:∀ x,H.V x→(H.lay s).V x:=by
  intro x hx;unfold Hp.V;rw[e];rcases hx with h1|h1|h1
  ·exact .inl h1
  ·exact .inr (.inl (by unfold setC;split<;>simp[*]))
  ·exact .inr (.inr h1)
 have hnt:∀ y,H.V y→nowF (lko H.old) y≠H.top:=by
  intro y hy;unfold nowF;split
  ·rename_i b' q hb;obtain⟨b'',h1,_⟩:=h.cor.fw _ _ _ hb;intro e;rw[e,ht]at h1;cases h1
  ·exact VF.ne ht hot h0 hy
 have hlst:∀ {l l':List Nat}{P:Shp→Bool},Lst H l P→(l'=if P s then l++[H.top] else l)→Lst (H.lay s) l' P:=by
  intro l l' P hl hl' y hy;have hy':y ∈ l∨(P s=true∧y=H.top):=by
   rw[hl']at hy;split at hy
   ·rcases List.mem_append.1 hy with h1|h1
    ·exact .inl h1
    ·exact .inr ⟨by assumption,by simpa using h1⟩
   ·exact .inl hy
  rcases hy' with h1|⟨h1,rfl⟩
  ·obtain⟨h2,h3,h4⟩:=hl y h1
   refine⟨h2,hV y h3,fun d hd=>?_⟩
   rw[hob]at hd;change (if nowF (lko H.old) y=H.top then _ else _)=_ at hd
   rw[if_neg (hnt y h3)]at hd;exact h4 d hd
  ·refine⟨h0,.inr (.inl (by rw[e];simp[setC])),fun d hd=>?_⟩
   rw[hob]at hd;change (if nowF (lko H.old) H.top=H.top then _ else _)=_ at hd
   rw[if_pos (by unfold nowF;rw[hot])]at hd
   injection hd with hd;subst hd;exact h1
 refine⟨⟨hwf,by show Cor (lk (H.lay s).cur) _ _ _ _ _;rw[e];exact hc,fun x d hx hw=>?_,hlst h.wq rfl,hlst h.fi rfl⟩,⟨hV,fun x hx=>?_,fun x hx=>?_⟩,?_,h0,?_⟩
 ·rw[hob]at hx
  show ∃ y ∈ (if s.weak then H.weak++[H.top] else H.weak),nowF (lko H.old) y=x
  split at hx
  ·rename_i e2;injection hx with hx;subst hx
   have hw':s.weak=true:=hw;rw[hw'];exact⟨H.top,by simp,by unfold nowF;rw[hot];exact e2.symm⟩
  ·obtain⟨y,h1,h2⟩:=h.wk x d hx hw
   refine⟨y,?_,h2⟩;split
   ·exact List.mem_append.2 (.inl h1)
   ·exact h1
 ·show srF (lk (H.lay s).cur) (lko H.old) x=srF _ _ x
  rw[e];unfold srF;have:=hob (nowF (lko H.old) x);unfold Hp.obj at this;rw[e]at this;change obF (setC (lk H.cur) H.top _) (lko H.old) _=_ at this;rw[this,if_neg (hnt x hx)]
 ·show CF (lk (H.lay s).cur) x
  rw[e];exact CF_set hx
 ·show CF (lk (H.lay s).cur) H.top
  rw[e];exact .inr (by simp[setC])
 ·show srF (lk (H.lay s).cur) (lko H.old) H.top=_
  rw[e,srF_c hc (b:=Ob.new s (H.serial+1)) (by simp[setC])];rfl
end
section
variable {H : Hp} {L : List Nat} {A : Ag}
theorem Gc.flip (h:Gc H L A)(hm:H.moving=false):Gc H.flip L A∧(∀ x,H.C x→H.flip.V x)∧∀ x,H.flip.sr x=H.sr x:=by
 have ho:=h.wf.ok.still hm;have e1:lk H.flip.cur=fun _=>none:=rfl
 have e2:lko H.flip.old=oldF (lk H.cur):=by funext x;exact lko_fresh H.cur x
 have e3:lko H.old=fun _=>none:=by rw[ho];rfl
 have hc:=h.cor;rw[e3]at hc;have hf:=hc.flip;have hob:∀ x,H.flip.obj x=H.obj x:=by
  intro x;unfold Hp.obj;rw[e1,e2,e3];unfold obF oldF;cases lk H.cur x<;>rfl
 have hno:∀ x,nowF (lko H.flip.old) x=x:=by intro x;rw[e2];unfold nowF oldF;cases lk H.cur x<;>rfl
 have hno':∀ x,nowF (lko H.old) x=x:=by intro x;rw[e3];rfl
 have hV:∀ x,H.V x→H.flip.V x:=by
  intro x hx;unfold Hp.V at *;rw[e1,e2];rw[e3]at hx;rcases hx with h1|h1|h1
  ·exact .inl h1
  ·exact .inr (.inr (by unfold oldF;simpa using h1))
  ·exact absurd rfl h1
 have hlst:∀ {l:List Nat}{P:Shp→Bool},Lst H l P→Lst H.flip l P:=by
  intro l P hl y hy;obtain⟨h1,h2,h3⟩:=hl y hy;grind
 refine⟨⟨Hp.flip_wf h.wf hm,?_,fun p b hp hw=>?_,hlst h.wq,hlst h.fi⟩,fun x hx=>hV x (CF.V hx),fun x=>?_⟩
 ·rw[e1,e2]
  refine hf.reb fun p b hp=>by cases hp
 ·rw[hob]at hp
  obtain⟨y,h1,h2⟩:=h.wk p b hp hw;exact⟨y,h1,by rw[hno];rw[hno']at h2;exact h2⟩
 ·show srF _ _ x=srF _ _ x
  unfold srF;have h1:=hob x;unfold Hp.obj at h1;rw[hno,hno',h1]
theorem Gc.scan1 (h:Gc H L A):Gc H.scan1.1 L A∧Evo H H.scan1.1:=by
 by_cases hc:H.moving=false∨H.scan=H.top
 ·have e:H.scan1=(H,false):=by unfold Hp.scan1;rw[if_pos hc]
  rw[e];exact⟨h,Evo.refl H⟩
 ·have hwf:=Hp.scan1_wf h.wf
  have hm:H.moving=true:=by cases hm:H.moving<;>simp[hm]at hc ⊢
  obtain⟨ob,hp,a,b,e,hl⟩:=scan_ob h.wf hm (fun e=>hc (.inr e))
  have e1:H.scan1=if ob.shp.weak then ({ H with scan:=H.scan+rnd ob.size },true) else
   ({ (H.movedL ob.ptrs).1 with cur:=up (H.movedL ob.ptrs).1.cur H.scan { ob with ptrs:=(H.movedL ob.ptrs).2 },scan:=H.scan+rnd ob.size },true):=by
   unfold Hp.scan1;rw[if_neg hc,hp]
  rw[e1]at hwf ⊢;have hbnd:∀ {H':Hp} (_:H'.wf) (p:Nat) (d x:Ob),lk H'.cur p=some d→lk H'.cur H.scan=some x→p<H.scan+rnd x.size→p<H.scan∨p=H.scan:=by
   intro H' hw p d x hd hx hlt;by_cases e:p=H.scan
   ·exact .inr e
   ·have h1:p+rnd d.size≤H.scan∨H.scan+rnd x.size≤p:=laid_apart _ _ _ hw.ok.cl hw.ok.ck _ (lk_mem hd) _ (lk_mem hx) e
    have:=rnd_ge _ (Ob.size_bd (hw.obk hd)).2;left;omega
  split
  ·rename_i hw
   rw[if_pos hw]at hwf;refine⟨⟨hwf,h.cor.reb fun p d hd hb hs=>?_,h.wk,h.wq,h.fi⟩,⟨fun _ h=>h,fun _ _=>rfl,fun _ h=>h⟩⟩
   rcases hbnd h.wf p d ob hd hp hb.2 with h1|rfl
   ·exact h.cor.bk p d hd ⟨hm,h1⟩ hs
   ·rw[hp]at hd;injection hd with hd;subst hd;rw[hw]at hs;cases hs
  ·rename_i hw
   rw[if_neg hw]at hwf;obtain⟨h1,h2,h3,h4⟩:=Gc.movedL ob.ptrs h fun x hx=>h.cor.cp _ _ hp x hx
   have hp':=lk_movedL ob.ptrs hp;obtain⟨a',h5,h6⟩:=h1.cor.hp _ _ (obF_c hp');obtain⟨s1,s2,s3,s4,s5,s6,s7,s8⟩:=movedL_same ob.ptrs H;have ho:=h.wf.obk hp;have hl:Like (lk (H.movedL ob.ptrs).1.cur) (lko (H.movedL ob.ptrs).1.old) L { ob with ptrs:=(H.movedL ob.ptrs).2 } a':=
    ⟨h6.shp,h6.fr,h6.sec,h6.nums,by rw[←h6.ptrs];show (H.movedL ob.ptrs).2.map (H.movedL ob.ptrs).1.sr=_;rw[h4];exact (List.map_congr_left fun x hx=>h2.s x (h.cor.cp _ _ hp x hx)).symm⟩
   have ho':Ob.ok { ob with ptrs:=(H.movedL ob.ptrs).2 }:=⟨ho.shp,by show (H.movedL ob.ptrs).2.length=_;rw[movedL_len];exact ho.lp,ho.ln,movedL_bd _ h.wf.ok ho.ptr,ho.num,ho.ser,ho.sec⟩
   obtain⟨g1,g2,g3,g4⟩:=h1.wr (b':={ ob with ptrs:=(H.movedL ob.ptrs).2 }) (L':=L) hp' ho' rfl rfl (fun x hx=>.inr (h3 x hx)) (fun _ _=>Iff.rfl) (fun _ h=>.inl h) h1.cor.nd hl
   have hA:updA A ob.serial a'=A:=by funext x;unfold updA;split<;>simp[*]
   rw[hA]at g1;refine⟨⟨hwf,g1.cor.reb fun p d hd hb hs=>?_,g1.wk,g1.wq,g1.fi⟩,h2.trans ⟨g2.v,g2.s,g2.c⟩⟩
   have hx:lk (up (H.movedL ob.ptrs).1.cur H.scan { ob with ptrs:=(H.movedL ob.ptrs).2 }) H.scan=some { ob with ptrs:=(H.movedL ob.ptrs).2 }:=by rw[lk_up,if_pos rfl,hp'];rfl
   rcases hbnd (H':={ (H.movedL ob.ptrs).1 with cur:=up (H.movedL ob.ptrs).1.cur H.scan { ob with ptrs:=(H.movedL ob.ptrs).2 } }) g1.wf p d _ hd hx hb.2 with h7|rfl
   ·exact g1.cor.bk p d hd ⟨by show (H.movedL ob.ptrs).1.moving=true;rw[s3];exact hm,by show p<(H.movedL ob.ptrs).1.scan;rw[s4];exact h7⟩ hs
   ·intro x hx'
    change lk (up _ _ _) _=some d at hd;rw[hx]at hd;injection hd with hd;subst hd;exact (g4 x).2 (h3 x hx')
theorem Gc.final (h:Gc H L A){l:List Nat}(hl:l.length≤H.serial)(hx:Lst H l Shp.final):Gc { H with final:=l } L A:=
 ⟨finals_of_wf h.wf hl,h.cor,h.wk,h.wq,hx⟩
theorem Gc.nowAt (h:Gc H L A){p q:Nat}(hv:H.V p)(hn:H.nowAt p=some q):H.C q∧q=nowF (lko H.old) p:=by
 unfold Hp.nowAt at hn;split at hn
 ·rename_i ho;injection hn with hn;subst hn
  refine⟨?_,by unfold nowF;rw[ho]⟩
  rcases hv with h1|h1|h1
  ·exact .inl h1
  ·exact .inr h1
  ·grind
 ·rename_i ob g ho
  subst hn;obtain⟨b',h1,_⟩:=h.cor.fw _ _ _ ho;exact⟨.inr (by rw[h1];simp),by unfold nowF;rw[ho]⟩
theorem Gc.pos (h:Gc H L A){p:Nat}(h0:p≠0)(hv:H.V p):∃ b,H.obj (nowF (lko H.old) p)=some b:=by
 rcases hv with h1|h1|h1
 ·grind
 ·obtain⟨b,hb⟩:=Option.ne_none_iff_exists'.1 h1
  exact⟨b,by rw[nowF_c h.cor (.inr h1)];exact obF_c hb⟩
 ·obtain⟨⟨b,g⟩,hb⟩:=Option.ne_none_iff_exists'.1 h1
  cases g with
  | none=>exact⟨b,by unfold nowF;rw[hb];exact obF_o ((h.cor.dj p).resolve_right h1) hb⟩
  | some q=>obtain⟨b',h2,_⟩:=h.cor.fw _ _ _ hb;exact⟨b',by unfold nowF;rw[hb];exact obF_c h2⟩
theorem Gc.nz (h:Gc H L A){p:Nat}(h0:p≠0)(hv:H.V p):nowF (lko H.old) p≠0:=by
 obtain⟨b,hb⟩:=h.pos h0 hv;intro e;rw[e]at hb;unfold Hp.obj obF at hb;rw[h.cor.z.1,h.cor.z.2]at hb;cases hb
theorem Gc.stay (h:Gc H L A){l:List Nat}{P:Shp→Bool}(hl:Lst H l P):∀ y ∈ H.stay l,y≠0∧H.C y∧∀ b,lk H.cur y=some b→P b.shp=true:=by
 intro y hy;unfold Hp.stay at hy;obtain⟨p,hp,e⟩:=List.mem_filterMap.1 hy;obtain⟨h1,h2,h3⟩:=hl p hp;obtain⟨h4,h5⟩:=h.nowAt h2 e;exact⟨by rw[h5];exact h.nz h1 h2,h4,fun b hb=>h3 b (by rw[←h5];exact obF_c hb)⟩
theorem Gc.stayL (h:Gc H L A){l:List Nat}{P:Shp→Bool}(hl:Lst H l P):Lst H (H.stay l) P:=by
 intro y hy;obtain⟨h1,h2,h3⟩:=h.stay hl y hy;refine⟨h1,CF.V h2,fun b hb=>?_⟩
 rw[nowF_c h.cor h2]at hb;obtain⟨d,hd⟩:=Option.ne_none_iff_exists'.1 (h2.resolve_left h1);rw[show H.obj y=some d from obF_c hd]at hb;grind
theorem Gc.finals (h:Gc H L A):Gc H.finals.1 L A∧Evo H H.finals.1∧∀ x ∈ H.finals.2,H.finals.1.C x∧∃ a,A (H.finals.1.sr x)=some a∧a.shp.final=true∧∀ q,H.C q→H.sr q≠H.finals.1.sr x:=by
 unfold Hp.finals;split
 ·exact⟨h,Evo.refl H,fun x hx=>by cases hx⟩
 ·have hl:=stay_len H H.final
  have hfl:=h.wf.fl;have h1:Gc { H with final:=H.stay H.final } L A:=h.final (by omega) (h.stayL h.fi)
  have hv:∀ x ∈ H.gone' H.final,H.V x∧∃ a,A (H.sr x)=some a∧a.shp.final=true∧∀ q,H.C q→H.sr q≠H.sr x:=fun x hx=>by
   obtain⟨k1,k2,k3⟩:=h.fi x (List.mem_filter.1 hx).1;obtain⟨b,hb⟩:=h.pos k1 k2;obtain⟨a,h4,h5⟩:=h.cor.hp _ _ hb;have hx0:H.sr x=b.serial:=by unfold Hp.sr srF;rw[show obF (lk H.cur) (lko H.old) (nowF (lko H.old) x)=some b from hb]
   refine⟨k2,a,by grind,by rw[h5.shp];exact k3 b hb,fun q hq e=>?_⟩
   have hn:H.nowAt x=none:=by have:=(List.mem_filter.1 hx).2;simpa using this
   have ho:∃ ob,lko H.old x=some (ob,none):=by
    unfold Hp.nowAt at hn;split at hn
    ·cases hn
    ·rename_i ob g ho;subst hn;exact⟨ob,ho⟩
   obtain⟨ob,ho⟩:=ho;have hnow:nowF (lko H.old) x=x:=by unfold nowF;rw[ho]
   have hcx:lk H.cur x=none:=(h.cor.dj x).resolve_right (by rw[ho];simp)
   have hb':obF (lk H.cur) (lko H.old) x=some b:=by rw[←hnow];exact hb
   have h1b:=(h.cor.sr _ _ hb').1;rcases hq with rfl|hq
   ·rw[h.sr0]at e;omega
   ·obtain⟨c,hc⟩:=Option.ne_none_iff_exists'.1 hq
    have e1:H.sr q=c.serial:=srF_c h.cor hc;have:=h.cor.inj q x c b (obF_c hc) hb' (by rw[←e1,e,hx0])
    rw[this,hcx]at hc;cases hc
  obtain⟨g1,g2,g3,g4⟩:=Gc.movedL (H.gone' H.final) h1 fun x hx=>(hv x hx).1
  refine⟨g1,⟨g2.v,g2.s,g2.c⟩,fun x hx=>⟨g3 x hx,?_⟩⟩
  have:(Hp.movedL { H with final:=H.stay H.final } (H.gone' H.final)).1.sr x ∈ (H.gone' H.final).map H.sr:=by
   have h6:(Hp.movedL { H with final:=H.stay H.final } (H.gone' H.final)).1.sr x ∈ (Hp.movedL { H with final:=H.stay H.final } (H.gone' H.final)).2.map (Hp.movedL { H with final:=H.stay H.final } (H.gone' H.final)).1.sr:=List.mem_map.2 ⟨x,hx,rfl⟩;rw[g4]at h6;exact h6
  grind
theorem drop1_fin (H:Hp)(p:Nat):(H.drop1 p).1.serial=H.serial∧(H.drop1 p).1.final=H.final:=by
 unfold Hp.drop1;grind
theorem dropL_ser:∀ (l:List Nat)(H:Hp),(H.dropL l).1.serial=H.serial
 | [],_=>rfl
 | p::l,H=>(dropL_ser l _).trans (drop1_fin H p).1
theorem dropL_fin:∀ (l:List Nat)(H:Hp),(H.dropL l).1.final=H.final
 | [],_=>rfl
 | p::l,H=>(dropL_fin l _).trans (drop1_fin H p).2
structure Gw (H:Hp)(L:List Nat)(A:Ag):Prop where
 wf:H.wf
 cor:Cor (lk H.cur) (lko H.old) H.bl H.serial L A
theorem Gw.wr (h:Gw H L A){p:Nat}{b b':Ob}{L':List Nat}{a':AO}(hp:lk H.cur p=some b)(hok:b'.ok)(hs:b'.serial=b.serial)(hw:b'.shp=b.shp)
  (hx:∀ x ∈ b'.ptrs,x ∈ b.ptrs∨H.C x)(hl:∀ s,s≠b.serial→(s ∈ L'↔s ∈ L))(hl2:∀ s ∈ L',s ∈ L∨s=b.serial∧b.shp.weak=true)(hnd:L'.Nodup)(ha:Like (lk H.cur) (lko H.old) L' b' a') :
  Gw { H with cur:=up H.cur p b' } L' (updA A b.serial a')∧∀ x,(Hp.C { H with cur:=up H.cur p b' } x↔H.C x)∧Hp.sr { H with cur:=up H.cur p b' } x=H.sr x:=by
 have e:=setC_up (b':=b') hp;exact⟨⟨up_wf h.wf hp hok hw,by show Cor (lk (up H.cur p b')) _ _ _ _ _;rw[e];exact h.cor.set (L':=L') hp hs hw hx hl hl2 hnd ha⟩,fun x=>⟨by unfold Hp.C;rw[e];exact CF_setp hp x,by unfold Hp.sr;rw[e];exact srF_set hp hs x⟩⟩
structure Dr (H H':Hp)(l:List Nat):Prop where
 c:∀ x,H'.C x↔H.C x
 s:∀ x,H'.sr x=H.sr x
 p:∀ q d',lk H'.cur q=some d'→∃ d,lk H.cur q=some d∧d'.shp=d.shp∧(q ∈ l→∀ x ∈ d'.ptrs,H.C x)∧∀ x ∈ d'.ptrs,x ∈ d.ptrs∨H.C x
theorem Gw.drop1 (h:Gw H L A){p:Nat}{b:Ob}(hp:lk H.cur p=some b)(hw:b.shp.weak=true):Gw (H.drop1 p).1 (L++(H.drop1 p).2) A∧Dr H (H.drop1 p).1 [p]:=by
 have hok:=h.wf.obk hp;obtain⟨a,ha,hl⟩:=h.cor.hp _ _ (obF_c hp);have hA:updA A b.serial a=A:=by funext x;unfold updA;split<;>simp[*]
 obtain⟨x,hx⟩:∃ x,b.ptrs=[x]:=by
  have h1:=hok.lp;rw[(hok.shp.2.2 hw).1]at h1;match hb:b.ptrs,h1 with
  | [x],_=>exact⟨x,rfl⟩
 have hv:H.V x:=h.cor.cp _ _ hp x (by rw[hx];simp)
 have hset:∀ q,(b.setPtr 0 q).ptrs=[q]:=fun q=>by show b.ptrs.set 0 q=_;rw[hx];rfl
 have key:∀ (q:Nat)(L':List Nat),H.C q→q≤131072→(∀ s,s≠b.serial→(s ∈ L'↔s ∈ L))→(∀ s ∈ L',s ∈ L∨s=b.serial∧b.shp.weak=true)→L'.Nodup→(H.sr q=H.sr x∧L'=L∨q=0∧b.serial ∈ L') →
   Gw { H with cur:=up H.cur p (b.setPtr 0 q) } L' A∧Dr H { H with cur:=up H.cur p (b.setPtr 0 q) } [p]:=by
  intro q L' hq hq2 h1 h2 hnd h3;have hl':Like (lk H.cur) (lko H.old) L' (b.setPtr 0 q) a:=by
   refine⟨hl.shp,hl.fr,hl.sec,hl.nums,?_⟩;have h4:=hl.ptrs;rw[hx]at h4;rw[hset];rcases h3 with ⟨h5,rfl⟩|⟨rfl,h5⟩
   ·show [H.sr q]=_
    rw[h5];exact h4
   ·show [H.sr 0]=if b.serial ∈ L' then _ else _
    rw[if_pos h5];show [srF _ _ 0]=_;rw[srF_0 h.cor]
  obtain⟨g1,g2⟩:=h.wr (L':=L') hp (Ob.setPtr_ok hok 0 q hq2) rfl rfl (fun y hy=>.inr (by rw[hset]at hy;simp at hy;subst hy;exact hq)) h1 h2 hnd hl'
  rw[hA]at g1;refine⟨g1,fun x=>(g2 x).1,fun x=>(g2 x).2,fun r d' hd=>?_⟩
  change lk (up _ _ _) _=_ at hd;rw[lk_up]at hd;split at hd
  ·rename_i e;subst e;rw[hp]at hd;injection hd with hd;subst hd
   have:∀ y ∈ (b.setPtr 0 q).ptrs,H.C y:=fun y hy=>by rw[hset]at hy;simp at hy;subst hy;exact hq
   exact⟨b,hp,rfl,fun _=>this,fun y hy=>.inr (this y hy)⟩
  ·rename_i e;exact⟨d',hd,rfl,fun hm=>absurd (by simpa using hm) e,fun y hy=>.inl hy⟩
 unfold Hp.drop1;rw[hp];simp only[hx,List.getElem?_cons_zero]
 cases ho:lko H.old x with
 | none =>
  refine⟨by simp only[List.append_nil];exact h,fun _=>Iff.rfl,fun _=>rfl,fun q d' hd=>⟨d',hd,rfl,fun hm y hy=>?_,fun y hy=>.inl hy⟩⟩
  have e:q=p:=by simpa using hm
  subst e;rw[hp]at hd;injection hd with hd;subst hd;rw[hx]at hy;simp at hy;subst hy;rcases hv with h1|h1|h1
  ·exact .inl h1
  ·exact .inr h1
  ·exact absurd ho h1
 | some z =>
  obtain⟨d,g⟩:=z
  cases g with
  | some q =>
   simp only[List.append_nil];obtain⟨b',h1,h2⟩:=h.cor.fw _ _ _ ho;refine key q L (.inr (by rw[h1];simp)) (h.wf.ok.gone _ (lko_mem ho) q rfl).2 (fun _ _=>Iff.rfl) (fun _ h=>.inl h) h.cor.nd (.inl ⟨?_,rfl⟩)
   show srF _ _ _=srF _ _ _;rw[srF_c h.cor h1];unfold srF nowF;rw[ho];simp only[obF_c h1]
  | none =>
   have hnm:b.serial ∉ L:=fun hm=>by
    have h4:=hl.ptrs;rw[hx,if_pos hm]at h4;have h5:srF (lk H.cur) (lko H.old) x=0:=by simpa using h4
    rw[(srF_pos h.cor hv).1 h5,h.cor.z.2]at ho;cases ho
   have hnd:(L++[b.serial]).Nodup:=List.nodup_append.2 ⟨h.cor.nd,by simp,fun y hy z hz=>by rw[List.mem_singleton.1 hz];rintro rfl;exact hnm hy⟩
   exact key 0 _ (.inl rfl) (by omega) (fun s hs=>by simp[hs]) (fun s hs=>(by simpa using hs:s ∈ L∨s=b.serial).imp id fun e=>⟨e,hw⟩) hnd (.inr ⟨rfl,by simp⟩)
theorem Gw.dropL:∀ (l:List Nat){H:Hp}{L:List Nat}(_:Gw H L A)(_:∀ p ∈ l,∃ b,lk H.cur p=some b∧b.shp.weak=true),Gw (H.dropL l).1 (L++(H.dropL l).2) A∧Dr H (H.dropL l).1 l
 | [],H,L,h,_=>⟨by show Gw H (L++[]) A;rw[List.append_nil];exact h,fun _=>Iff.rfl,fun _=>rfl,fun q d' hd=>⟨d',hd,rfl,fun hm=>(by cases hm),fun y hy=>.inl hy⟩⟩
 | p::l,H,L,h,hw=>by
  obtain⟨b,hp,hb⟩:=hw p (.head _);obtain⟨g1,g2⟩:=h.drop1 hp hb;have hw':∀ q ∈ l,∃ b,lk (H.drop1 p).1.cur q=some b∧b.shp.weak=true:=by
   intro q hq;obtain⟨d,hd,hdw⟩:=hw q (.tail _ hq);have h0:q≠0:=by rintro rfl;rw[h.cor.z.1]at hd;cases hd
   obtain⟨d',hd'⟩:=Option.ne_none_iff_exists'.1 (((g2.c q).2 (.inr (by rw[hd];simp))).resolve_left h0)
   obtain⟨d2,h3,h4,_⟩:=g2.p q d' hd';grind
  obtain⟨g3,g4⟩:=Gw.dropL l g1 hw';refine⟨by show Gw _ (L++((H.drop1 p).2++_)) A;rw[←List.append_assoc];exact g3,fun x=>(g4.c x).trans (g2.c x),fun x=>(g4.s x).trans (g2.s x),fun q d' hd=>?_⟩
  obtain⟨d1,h1,h2,h3,h4⟩:=g4.p q d' hd;obtain⟨d0,h5,h6,h7,h8⟩:=g2.p q d1 h1;refine⟨d0,h5,h2.trans h6,fun hm x hx=>?_,fun x hx=>?_⟩
  ·rcases List.mem_cons.1 hm with rfl|hm
   ·rcases h4 x hx with h9|h9
    ·grind
    ·exact (g2.c x).1 h9
   ·exact (g2.c x).1 (h3 hm x hx)
  ·rcases h4 x hx with h9|h9
   ·grind
   ·exact .inr ((g2.c x).1 h9)
theorem Gc.drop (h:Gc H L A):Gc H.drop.1 (L++H.drop.2.1) A∧(∀ x,H.C x→H.drop.1.C x∧H.drop.1.sr x=H.sr x):=by
 have hwf:=Hp.drop_wf h.wf;unfold Hp.drop at hwf ⊢;split
 ·exact⟨by simp only[List.append_nil];exact h,fun x hx=>⟨hx,rfl⟩⟩
 ·rename_i hc
  rw[if_neg hc]at hwf;have hm:H.moving=true:=by cases hm:H.moving<;>simp[hm]at hc ⊢
  have hst:H.scan=H.top:=by simpa [hm] using hc
  have hset:∀ p ∈ H.settled.weak,p≠0∧∃ b,lk H.cur p=some b∧b.shp.weak=true:=by
   intro p hp;obtain⟨h1,h2,h3⟩:=h.stay h.wq p hp;obtain⟨b,hb⟩:=Option.ne_none_iff_exists'.1 (h2.resolve_left h1);exact⟨h1,b,hb,h3 b hb⟩
  have hg:Gw H.settled L A:=⟨Hp.settled_wf h.wf,h.cor⟩;obtain⟨g1,g2⟩:=Gw.dropL H.settled.weak hg fun p hp=>(hset p hp).2
  obtain⟨s1,s2,s3,s4,s5,s6,s7⟩:=dropL_same H.settled.weak H.settled;have hC:∀ x,(H.settled.dropL H.settled.weak).1.C x↔H.C x:=g2.c;have hcur:∀ p b,lk (H.settled.dropL H.settled.weak).1.cur p=some b→∀ x ∈ b.ptrs,(H.settled.dropL H.settled.weak).1.C x:=by
   intro p b hp x hx;obtain⟨d,h1,h2,h3,h4⟩:=g2.p p b hp
   cases hw:b.shp.weak with
   | true =>
    obtain⟨y,h5,h6⟩:=h.wk p d (obF_c h1) (by rw[←h2];exact hw)
    have h7:H.nowAt y=some p:=by
     unfold nowF at h6;unfold Hp.nowAt;split at h6
     ·rename_i e;rw[e,h6]
     ·rename_i hno
      subst h6;rw[(h.cor.dj y).resolve_left (by rw[show lk H.cur y=some d from h1];simp)]
    exact (hC x).2 (h3 (List.mem_filterMap.2 ⟨y,h5,h7⟩) x hx)
   | false =>
    rcases h4 x hx with h5|h5
    ·have h6:=laid_mem _ _ _ h.wf.ok.cl _ (lk_mem (show lk H.cur p=some d from h1))
     have h7:=rnd_ge _ (Ob.size_bd (h.wf.obk (show lk H.cur p=some d from h1))).2;have h8:=Ob.size_bd (h.wf.obk (show lk H.cur p=some d from h1));simp only at h6;exact (hC x).2 (h.cor.bk p d h1 ⟨hm,by omega⟩ (by rw[←h2];exact hw) x h5)
    ·exact (hC x).2 h5
  have hr:=g1.cor.rest hcur (Hp.bl (H.settled.dropL H.settled.weak).1.rest);have hsr:∀ x,H.C x→Hp.sr (H.settled.dropL H.settled.weak).1.rest x=H.sr x:=by
   intro x hx;rw[←show (H.settled.dropL H.settled.weak).1.sr x=H.sr x from g2.s x];have hx':=(hC x).2 hx;show srF (lk (H.settled.dropL H.settled.weak).1.cur) (fun _=>none) x=srF _ _ x
   rcases hx' with rfl|hx'
   ·rw[srF_0 hr,srF_0 g1.cor]
   ·obtain⟨b,hb⟩:=Option.ne_none_iff_exists'.1 hx'
    rw[srF_c hr hb,srF_c g1.cor hb]
  have hob:∀ p b,Hp.obj (H.settled.dropL H.settled.weak).1.rest p=some b→lk (H.settled.dropL H.settled.weak).1.cur p=some b:=by
   intro p b;show obF (lk (H.settled.dropL H.settled.weak).1.cur) (fun _=>none) p=some b→_
   unfold obF;cases lk (H.settled.dropL H.settled.weak).1.cur p<;>simp
  have hsz:(H.settled.dropL H.settled.weak).1.serial=H.serial:=dropL_ser _ _;have hfin:(H.settled.dropL H.settled.weak).1.final=H.settled.final:=dropL_fin _ _;have hlst:∀ {l:List Nat}{P:Shp→Bool},Lst H l P→Lst (H.settled.dropL H.settled.weak).1.rest (H.stay l) P:=by
   intro l P hl y hy;obtain⟨h1,h2,h3⟩:=h.stay hl y hy;refine⟨h1,CF.V ((hC y).2 h2),fun d hd=>?_⟩
   have h4:=hob _ _ hd;change lk _ y=some d at h4;obtain⟨d0,h5,h6,_⟩:=g2.p y d h4;rw[h6];exact h3 d0 h5
  refine⟨⟨hwf,hr,fun p b hp hw=>?_,?_,?_⟩,fun x hx=>⟨(hC x).2 hx,hsr x hx⟩⟩
  ·have h1:=hob p b hp
   obtain⟨d,h2,h3,_,_⟩:=g2.p p b h1;obtain⟨y,h5,h6⟩:=h.wk p d (obF_c h2) (by rw[←h3];exact hw)
   have h7:H.nowAt y=some p:=by
    unfold nowF at h6;unfold Hp.nowAt;split at h6
    ·rename_i e;rw[e,h6]
    ·rename_i hno
     subst h6;rw[(h.cor.dj y).resolve_left (by rw[show lk H.cur y=some d from h2];simp)]
   refine⟨p,?_,rfl⟩;show p ∈ (H.settled.dropL H.settled.weak).1.weak;rw[s2];exact List.mem_filterMap.2 ⟨y,h5,h7⟩
  ·show Lst _ (H.settled.dropL H.settled.weak).1.weak _
   rw[s2];exact hlst h.wq
  ·show Lst _ (H.settled.dropL H.settled.weak).1.final _
   rw[hfin];exact hlst h.fi
end
structure ATx where
 live:Bool
 start:Nat
 seen:Nat
 reads:List Nat
 holds:List (Nat×Nat)
 undos:List Un
 took:List (Nat×Nat)
structure As where
 sz:Nat
 heap:Ag
 ser:Nat
 now:Nat
 most:Nat
 txs:List ATx
 queue:List (Nat×Nat)
 next:Nat
 holder:Int
 version:Nat
def Ag.upd (A:Ag)(s:Nat)(f:AO→AO):Ag:=fun x=>if x=s then (A s).map f else A x
def AO.ptr (a:AO)(i q:Nat):AO:={ a with ptrs:=a.ptrs.set i q }
def AO.num (a:AO)(i:Nat)(n:Int):AO:={ a with nums:=a.nums.set i n }
def AO.free (a:AO)(b:Bool):AO:={ a with fr:=b }
def AO.second (a:AO)(v:Nat):AO:={ a with sec:=v }
def Ag.sec (A:Ag)(s:Nat):Nat:=match A s with|some a=>a.sec|none=>0
def Ag.undo1 (A:Ag)(u:Un):Ag:=
 if u.kind=1 then A.upd u.pos fun a=>a.ptr u.i u.old.toNat else if u.kind=2 then A.upd u.pos fun a=>a.num u.i u.old else if u.kind=3 then A.upd u.pos fun a=>a.free (decide (u.old≠0)) else A
def Ag.undoL (A:Ag)(us:List Un):Ag:=us.foldr (fun u A=>A.undo1 u) A
def Ag.rel1 (A:Ag)(z:Nat×Nat):Ag:=A.upd z.1 fun a=>if z.2=0 then (a.second 0).free true else a.second (2*z.2)
def Ag.relL (A:Ag)(zs:List (Nat×Nat)):Ag:=zs.foldl Ag.rel1 A
def Ag.comL (A:Ag)(zs:List (Nat×Nat))(v:Nat):Ag:=zs.foldl (fun A z=>A.upd z.1 fun a=>a.second (2*v)) A
def As.t (A:As)(i:Nat):ATx:=A.txs.getD i ⟨false,0,0,[],[],[],[]⟩
def As.tx (A:As)(i:Nat)(x:ATx):As:={ A with txs:=A.txs.set i x }
def As.h (A:As)(H:Ag):As:={ A with heap:=H }
def ATx.read (x:ATx)(s:Nat):ATx:={ x with reads:=if s ∈ x.reads then x.reads else x.reads++[s] }
def ATx.holding (x:ATx)(s v:Nat):ATx:={ x with holds:=x.holds++[(s,v)] }
def ATx.undo (x:ATx)(u:Un):ATx:={ x with undos:=x.undos++[u] }
def ATx.ended (x:ATx):ATx:={ x with live:=false,reads:=[],holds:=[],undos:=[],took:=[] }
structure ARes where
 A:As
 v:Int
 e:Int
def As.lookR (A:As)(i s:Nat):As×Int:=
 if s=0 then (A,143) else match A.heap s with
 | none=>(A,70)
 | some a=>if clashB i (A.t i).start a.sec=true then (A,141) else (A.tx i ((A.t i).read s),if a.fr then 142 else 0)
def Ag.wk (A:Ag)(s:Nat):Bool:=match A s with|some a=>a.shp.weak|none=>false
def As.fieldsR (A:As)(i s:Nat):As×Int:=((A.lookR i s).1,if (A.lookR i s).2=0 then (if A.heap.wk s then 144 else 0) else (A.lookR i s).2)
def As.hold (A:As)(i s:Nat):As:=if A.heap.sec s%2=1 then A else (A.tx i ((A.t i).holding s (A.heap.sec s/2))).h (A.heap.upd s fun a=>a.second (2*i+1))
def As.chg (A:As)(i s:Nat)(u:Un)(f:AO→AO):ARes:=⟨((A.hold i s).tx i (((A.hold i s).t i).undo u)).h ((A.hold i s).heap.upd s f),0,0⟩
def Ag.num (A:Ag)(s j:Nat):Int×Int:=match A s with|none=>(0,70)|some a=>match a.nums[j]? with|none=>(0,71)|some n=>(n,0)
def Ag.ptr (A:Ag)(s j:Nat):Nat×Int:=match A s with|none=>(0,70)|some a=>match a.ptrs[j]? with|none=>(0,71)|some n=>(n,0)
def As.readR (A:As)(i s j:Nat):ARes:=if (A.fieldsR i s).2≠0 then⟨(A.fieldsR i s).1,0,(A.fieldsR i s).2⟩ else⟨(A.fieldsR i s).1,(A.heap.num s j).1,(A.heap.num s j).2⟩
def As.getR (A:As)(i s j:Nat):ARes:=if (A.fieldsR i s).2≠0 then⟨(A.fieldsR i s).1,0,(A.fieldsR i s).2⟩ else⟨(A.fieldsR i s).1,(A.heap.ptr s j).1,(A.heap.ptr s j).2⟩
def As.writeR (A:As)(i s j:Nat)(v:Int):ARes:=
 if (A.fieldsR i s).2≠0 then ⟨(A.fieldsR i s).1,0,(A.fieldsR i s).2⟩ else if (A.heap.num s j).2≠0 then ⟨(A.fieldsR i s).1,0,(A.heap.num s j).2⟩
 else (A.fieldsR i s).1.chg i s ⟨2,s,j,(A.heap.num s j).1⟩ fun a=>a.num j v
def As.putR (A:As)(i s j q:Nat):ARes:=
 if (A.fieldsR i s).2≠0 then ⟨(A.fieldsR i s).1,0,(A.fieldsR i s).2⟩ else if (A.heap.ptr s j).2≠0 then ⟨(A.fieldsR i s).1,0,(A.heap.ptr s j).2⟩
 else (A.fieldsR i s).1.chg i s ⟨1,s,j,(A.heap.ptr s j).1⟩ fun a=>a.ptr j q
def As.freeR (A:As)(i s:Nat):ARes:=if (A.lookR i s).2≠0 then ⟨(A.lookR i s).1,0,(A.lookR i s).2⟩ else (A.lookR i s).1.chg i s ⟨3,s,0,0⟩ fun a=>a.free true
def As.lay (A:As)(i:Nat)(s:Shp)(ps:List Nat):As:=
 { A.tx i ((A.t i).holding (A.ser+1) 0) with heap:=fun x=>if x=A.ser+1 then some ⟨s,false,2*i+1,ps,List.replicate s.d 0⟩ else A.heap x,ser:=A.ser+1 }
def As.allocR (A:As)(i:Nat)(s:Shp)(mem:Bool):ARes:=if mem then⟨A,0,100⟩ else⟨A.lay i s (List.replicate s.p 0),(A.ser:Int)+1,0⟩
def As.weakR (A:As)(i q:Nat)(mem:Bool):ARes:=if q=0 then⟨A,0,143⟩ else if mem then⟨A,0,100⟩ else⟨A.lay i wkS [q],(A.ser:Int)+1,0⟩
def ATx.taking (x:ATx)(z:Nat×Nat):ATx:={ x with took:=x.took++[z] }
def As.takeR (A:As)(i:Nat):ARes:=
 if A.holder≠-1∧A.holder≠(i:Int)∨(A.t i).start<A.version then⟨A,0,141⟩ else match A.queue with
 | []=>⟨{ A with holder:=i },0,0⟩
 | z::l=>if (A.t i).seen≤z.2 then⟨{ A with holder:=i },0,0⟩ else⟨({ A with holder:=i,queue:=l }:As).tx i ((A.t i).taking z),z.1,0⟩
def As.untake (A:As)(i:Nat):As:=if A.holder=(i:Int) then { A with queue:=(A.t i).took++A.queue,holder:=-1 } else A
def As.abort (A:As)(i:Nat):As:=((A.h ((A.heap.undoL (A.t i).undos).relL (A.t i).holds)).untake i).tx i (A.t i).ended
def As.clashes (A:As)(i:Nat):Bool:=(A.t i).reads.any fun s=>clashB i (A.t i).start (A.heap.sec s)
def As.tick (A:As)(i:Nat):As:=
 if A.holder=(i:Int) then { A with now:=A.now+1,heap:=A.heap.comL (A.t i).holds (A.now+1),holder:=-1,version:=A.now+1 } else { A with now:=A.now+1,heap:=A.heap.comL (A.t i).holds (A.now+1) }
def As.commitR (A:As)(i:Nat):ARes:=
 if (A.t i).holds=[]∧A.holder≠(i:Int) then⟨A.tx i (A.t i).ended,0,0⟩ else if A.clashes i=true then⟨A,0,141⟩ else⟨(A.tick i).tx i (A.t i).ended,(A.now:Int)+1,0⟩
def ARes.fin (r:ARes)(i:Nat):ARes:=if isAb r.e=true then⟨r.A.abort i,0,r.e⟩ else if r.e=0 then r else⟨r.A,0,r.e⟩
def As.deedR (A:As)(i:Nat)(r:ARes):ARes:=if (A.t i).live=true then r.fin i else⟨A,0,140⟩
def ATx.begun (x:ATx)(n s:Nat):ATx:={ x with live:=true,start:=n,seen:=s }
def liveA (l:List ATx):Nat:=(l.filter (·.live)).length
def As.beginR (A:As)(i:Nat):As×Int:=
 if (A.t i).live=true then (A,140) else if A.now+(liveA A.txs+1)≤A.most then (A.tx i ((A.t i).begun A.now A.next),0) else (A,120)
def Tx.ab (g:Nat→Nat)(x:Tx):ATx:=⟨x.live,x.start,x.seen,x.log.reads.map g,at1 g x.log.holds,x.log.undos.map (Un.at' g),at1 g x.took⟩
structure Cx where
 l:List Nat
 X:List Nat
 Y:List Nat
structure Sim (S:Stt)(L:Cx)(A:As):Prop where
 ok:S.ok
 gc:Gc S.H L.l A.heap
 ser:A.ser=S.H.serial
 now:A.now=S.now
 most:A.most=S.most
 next:A.next=S.next
 ho:A.holder=S.holder
 ver:A.version=S.version
 tx:A.txs=S.txs.map (Tx.ab S.H.sr)
 qu:A.queue=at1 S.H.sr S.queue
 pl:∀ p ∈ S.places [],S.H.C p
 ex:∀ p ∈ L.X,S.H.C p
 ey:L.X.map S.H.sr=L.Y
 sz:A.sz=S.H.size
section
variable {S : Stt} {L : Cx} {A : As} {i : Nat}
theorem at1_congr {g g':Nat→Nat}{l:List (Nat×Nat)}(h:∀ z ∈ l,g z.1=g' z.1):at1 g l=at1 g' l:=List.map_congr_left fun z hz=>by rw[h z hz]
theorem Un.at_congr {g g':Nat→Nat}{u:Un}(h:∀ p ∈ u.places,g p=g' p):u.at' g=u.at' g':=by
 unfold Un.places at h;unfold Un.at';grind
theorem Tx.ab_congr {g g':Nat→Nat} {x:Tx} (h:∀ p ∈ x.places,g p=g' p):x.ab g=x.ab g':=by
 unfold Tx.places Lg.roots at h;unfold Tx.ab;rw[List.map_congr_left (f:=g) (g:=g') fun p hp=>h p (by simp[hp]),at1_congr (l:=x.log.holds) fun z hz=>h _ (by simp only[List.mem_append,List.mem_map];exact .inl (.inl (.inr ⟨z,hz,rfl⟩))),
  List.map_congr_left (f:=Un.at' g) (g:=Un.at' g') fun u hu=>Un.at_congr fun p hp=>h p (by simp only[List.mem_append,List.mem_flatMap];exact .inl (.inr ⟨u,hu,hp⟩)),
  at1_congr (l:=x.took) fun z hz=>h _ (by simp only[List.mem_append,List.mem_map];exact .inr ⟨z,hz,rfl⟩)]
theorem Sim.len (h:Sim S L A):A.txs.length=S.txs.length:=by rw[h.tx];simp
theorem Sim.at (h:Sim S L A)(hi:i<S.txs.length):A.t i=(S.t i).ab S.H.sr:=by
 unfold As.t;rw[h.tx,List.getD_eq_getElem?_getD,List.getElem?_map,Stt.t_get hi];rfl
theorem Sim.tpl (h:Sim S L A)(hi:i<S.txs.length):∀ p ∈ (S.t i).places,S.H.C p:=fun p hp=>h.pl p (by
 unfold Stt.places;simp only[List.mem_append,List.mem_flatMap];exact .inr ⟨_,List.mem_of_getElem? (Stt.t_get hi),hp⟩)
theorem Sim.qpl (h:Sim S L A){z:Nat×Nat}(hz:z ∈ S.queue):S.H.C z.1:=h.pl _ (by
 unfold Stt.places;simp only[List.mem_append,List.mem_map];exact .inl (.inr ⟨z,hz,rfl⟩))
theorem Sim.heap (h:Sim S L A) {H':Hp} {L':List Nat} {A':Ag} {n:Nat} (hok:(S.h H').ok) (hg:Gc H' L' A') (hs:∀ x,S.H.C x→H'.C x∧H'.sr x=S.H.sr x) (hn:n=H'.serial) (hz:H'.size=S.H.size):Sim (S.h H') { L with l:=L' } { A with heap:=A',ser:=n }:=by
 refine⟨hok,hg,hn,h.now,h.most,h.next,h.ho,h.ver,?_,?_,fun p hp=>(hs p (h.pl p hp)).1,fun p hp=>(hs p (h.ex p hp)).1,(List.map_congr_left fun p hp=>(hs p (h.ex p hp)).2).trans h.ey,by show A.sz=H'.size;rw[hz];exact h.sz⟩
 ·show A.txs=S.txs.map _
  rw[h.tx];refine List.map_congr_left fun x hx=>Tx.ab_congr fun p hp=>?_
  exact (hs p (h.pl p (by unfold Stt.places;simp only[List.mem_append,List.mem_flatMap];exact .inr ⟨x,hx,hp⟩))).2.symm
 ·show A.queue=at1 _ S.queue
  rw[h.qu];exact at1_congr fun z hz=>(hs _ (h.qpl hz)).2.symm
theorem Sim.evo (h:Sim S L A){H':Hp}(hok:(S.h H').ok)(hg:Gc H' L.l A.heap)(he:Evo S.H H')(hn:H'.serial=S.H.serial)(hz:H'.size=S.H.size):Sim (S.h H') L A:=by
 have:=h.heap hok hg (fun x hx=>⟨he.c x hx,he.s x (CF.V hx)⟩) rfl hz
 rw[hn,←h.ser]at this;exact this
theorem Sim.setx (h:Sim S L A){x:Tx}(hok:(S.tx i x).ok)(hp:∀ p ∈ x.places,S.H.C p):Sim (S.tx i x) L (A.tx i (x.ab S.H.sr)):=by
 refine⟨hok,h.gc,h.ser,h.now,h.most,h.next,h.ho,h.ver,?_,h.qu,fun p hp'=>?_,h.ex,h.ey,h.sz⟩
 ·show A.txs.set _ _=(S.txs.set _ _).map _
  rw[h.tx,List.map_set];rfl
 ·unfold Stt.places at hp'
  simp only[List.mem_append,List.mem_flatMap]at hp';rcases hp' with h1|⟨y,hy,h2⟩
  ·exact h.pl p (by unfold Stt.places;simp only[List.mem_append];exact .inl h1)
  ·rcases List.mem_or_eq_of_mem_set hy with h3|rfl
   ·exact h.pl p (by unfold Stt.places;simp only[List.mem_append,List.mem_flatMap];exact .inr ⟨y,h3,h2⟩)
   ·exact hp p h2
theorem Sim.obj (h:Sim S L A){p:Nat}(hp:S.H.C p)(h0:p≠0):∃ b a,lk S.H.cur p=some b∧S.H.sr p=b.serial∧A.heap (S.H.sr p)=some a∧Like (lk S.H.cur) (lko S.H.old) L.l b a:=by
 obtain⟨b,a,h1,h2,h3,h4⟩:=h.gc.at' hp h0;grind
theorem Sim.mem (h:Sim S L A){p:Nat}(hp:S.H.C p){l:List Nat}(hl:∀ q ∈ l,S.H.C q):S.H.sr p ∈ l.map S.H.sr↔p ∈ l:=by
 constructor
 ·intro hm
  obtain⟨q,hq,e⟩:=List.mem_map.1 hm;rw[←(h.gc.inj (hl q hq) hp).1 e];exact hq
 ·grind
end
structure Few (x:Tx)(k m:Nat):Prop where
 r:x.log.reads.length≤k
 kp:x.log.keeps.length≤k
 h:x.log.holds.length≤k
 u:x.log.undos.length≤k
 mr:m≤x.log.mr
 mu:m≤x.log.mu
theorem Few.mono {x:Tx}{k k' m:Nat}(h:Few x k m)(hk:k≤k'):Few x k' m:=⟨by have:=h.r;omega,by have:=h.kp;omega,by have:=h.h;omega,by have:=h.u;omega,h.mr,h.mu⟩
theorem Few.ended {x:Tx}{k m:Nat}(h:Few x k m):Few x.ended 0 m:=⟨by simp[Tx.ended],by simp[Tx.ended],by simp[Tx.ended],by simp[Tx.ended],h.mr,h.mu⟩
section
variable {S : Stt} {L : Cx} {A : As} {i p k m : Nat}
theorem noteL_few {l:List Nat}{p m:Nat}(h:l.length<m):noteL l p m=if p ∈ l then l else l++[p]:=by unfold noteL;split;rfl;simp[h]
theorem noteB_few {l:List Nat}{p m:Nat}(h:l.length<m):noteB l p m=true:=by unfold noteB;simp[h]
theorem noteL_len' (l:List Nat)(p m:Nat):(noteL l p m).length≤l.length+1:=by unfold noteL;split;omega;split<;>simp
theorem mem_noteL {l:List Nat}{p m q:Nat}(h:q ∈ noteL l p m):q ∈ l∨q=p:=by
 unfold noteL at h;split at h
 ·exact .inl h
 ·grind
theorem Tx.ab_read (h:Sim S L A)(hi:i<S.txs.length)(hp:S.H.C p)(hf:Few (S.t i) k m)(hk:k<m):((S.t i).read p).ab S.H.sr=(A.t i).read (S.H.sr p):=by
 rw[h.at hi];have hr:(S.t i).log.reads.length<(S.t i).log.mr:=by have:=hf.r;have:=hf.mr;omega
 have hm:=h.mem hp (l:=(S.t i).log.reads) fun q hq=>h.tpl hi q (by unfold Tx.places Lg.roots;simp[hq])
 unfold Tx.ab Tx.read ATx.read;simp only[noteL_few hr,hm];grind
theorem read_places {x:Tx}{P:Nat→Prop}(hx:∀ q ∈ x.places,P q)(hp:P p):∀ q ∈ (x.read p).places,P q:=by
 intro q hq;unfold Tx.places Lg.roots at hq hx;simp only[List.mem_append]at hq hx;rcases hq with (((hq|hq)|hq)|hq)|hq
 ·rcases mem_noteL (show q ∈ noteL x.log.reads p x.log.mr from hq) with h1|rfl
  ·grind
  ·exact hp
 ·exact hx q (.inl (.inl (.inl (.inr hq))))
 ·exact hx q (.inl (.inl (.inr hq)))
 ·exact hx q (.inl (.inr hq))
 ·exact hx q (.inr hq)
theorem Few.read {x:Tx}(h:Few x k m)(p:Nat):Few (x.read p) (k+1) m:=
 ⟨by have:=noteL_len' x.log.reads p x.log.mr;have:=h.r;show (noteL x.log.reads p x.log.mr).length≤_;omega,Nat.le_succ_of_le h.kp,Nat.le_succ_of_le h.h,Nat.le_succ_of_le h.u,h.mr,h.mu⟩
structure Lk (S S':Stt)(L:Cx)(A':As)(i k m:Nat):Prop where
 sim:Sim S' L A'
 few:Few (S'.t i) (k+1) m
 hh:S'.H=S.H
 len:S'.txs.length=S.txs.length
 h:(S'.t i).log.holds=(S.t i).log.holds∧(S'.t i).log.undos=(S.t i).log.undos∧(S'.t i).log.keeps=(S.t i).log.keeps
theorem Sim.look (h:Sim S L A)(hi:i<S.txs.length)(hp:S.H.C p)(hf:Few (S.t i) k m)(hk:k<m) :
  Lk S (S.lookR i p).1 L (A.lookR i (S.H.sr p)).1 i k m∧(S.lookR i p).2.1=(A.lookR i (S.H.sr p)).2∧((S.lookR i p).2.1=0→(S.lookR i p).2.2.weak=A.heap.wk (S.H.sr p)):=by
 have h0:Lk S S L A i k m:=⟨h,hf.mono (by omega),rfl,rfl,rfl,rfl,rfl⟩
 unfold Stt.lookR As.lookR;by_cases e:p=0
 ·subst e;rw[h.gc.sr0];rw[if_pos rfl,if_pos rfl];exact⟨h0,rfl,fun e=>by cases e⟩
 ·rw[if_neg e,if_neg (fun e'=>e ((h.gc.srz hp).1 e'))]
  obtain⟨b,a,h1,h2,h3,h4⟩:=h.obj hp e;rw[h1,h3];simp only;rw[h.at hi,show ((S.t i).ab S.H.sr).start=(S.t i).start from rfl,h4.sec];by_cases hc:clashB i (S.t i).start b.second=true
  ·grind
  ·rw[if_neg hc,if_neg hc]
   have hr:(S.t i).log.reads.length<(S.t i).log.mr:=by have:=hf.r;have:=hf.mr;omega
   rw[noteB_few hr];have hs:=h.setx (Stt.ok_read h.ok hi p) (read_places (h.tpl hi) hp);rw[Tx.ab_read h hi hp hf hk,h.at hi]at hs;refine⟨⟨hs,by rw[Stt.tx_t hi];exact hf.read p,rfl,Stt.tx_len _ _ _,by rw[Stt.tx_t hi];exact⟨rfl,rfl,rfl⟩⟩,by simp[h4.fr],fun he=>?_⟩
   have hfr:b.freed=false:=by simpa using he
   rw[hfr];unfold Ag.wk;rw[h3];simp[h4.shp]
theorem Sim.fields (h:Sim S L A)(hi:i<S.txs.length)(hp:S.H.C p)(hf:Few (S.t i) k m)(hk:k<m) :
  Lk S (S.fieldsR i p).1 L (A.fieldsR i (S.H.sr p)).1 i k m∧(S.fieldsR i p).2=(A.fieldsR i (S.H.sr p)).2:=by
 obtain⟨h1,h2,h3⟩:=h.look hi hp hf hk;refine⟨h1,?_⟩;unfold Stt.fieldsR As.fieldsR;grind
theorem lookA_heap (A:As)(i s:Nat):(A.lookR i s).1.heap=A.heap:=by
 unfold As.lookR;split;rfl;split;rfl;split<;>rfl
theorem Sim.nz (h:Sim S L A)(hi:i<S.txs.length)(hp:S.H.C p)(he:(S.lookR i p).2.1=0):p≠0:=by
 rintro rfl;simp[Stt.lookR]at he
structure Tw2 (R:Res)(L:Cx)(Q:ARes)(i n k m:Nat):Prop where
 sim:Sim R.S L Q.A
 v:R.v=Q.v
 e:R.e=Q.e
 few:Few (R.S.t i) k m
 len:R.S.txs.length=n
theorem Sim.read (h:Sim S L A)(hi:i<S.txs.length)(hp:S.H.C p)(j:Nat)(hf:Few (S.t i) k m)(hk:k<m):Tw2 (S.readR i p j) L (A.readR i (S.H.sr p) j) i S.txs.length (k+1) m:=by
 obtain⟨h1,h2⟩:=h.fields hi hp hf hk;unfold Stt.readR As.readR;rw[←h2];by_cases e:(S.fieldsR i p).2≠0
 ·rw[if_pos e,if_pos e];exact⟨h1.sim,rfl,rfl,h1.few,h1.len⟩
 ·rw[if_neg e,if_neg e]
  have e0:(S.lookR i p).2.1=0:=by
   unfold Stt.fieldsR at e;dsimp only at e;grind
  obtain⟨b,a,g1,g2,g3,g4⟩:=h.obj hp (h.nz hi hp e0);have hn:((S.fieldsR i p).1.H.numR p j).1=(A.heap.num (S.H.sr p) j).1∧(((S.fieldsR i p).1.H.numR p j).2:Int)=(A.heap.num (S.H.sr p) j).2:=by
   rw[h1.hh];unfold Hp.numR Ag.num;rw[g1,g3];dsimp only;rw[g4.nums];grind
  exact⟨h1.sim,hn.1,hn.2,h1.few,h1.len⟩
end
structure As.hld (A:As):Prop where
 h:∀ (i:Nat)(x:ATx),A.txs[i]?=some x→∀ z ∈ x.holds,A.heap.sec z.1=2*i+1
 u:∀ (i:Nat)(x:ATx),A.txs[i]?=some x→∀ u ∈ x.undos,u.kind=1→∃ a,A.heap u.pos=some a∧a.shp.weak=false
section
variable {S : Stt} {L : Cx} {A : As} {i p k m : Nat}
theorem upd_none {A:Ag}{s:Nat}(h:A s=none)(f:AO→AO):A.upd s f=A:=by funext x;unfold Ag.upd;split<;>simp[*]
theorem Sim.wr (h:Sim S L A)(hp:S.H.C p)(h0:p≠0){b b':Ob}(hb:lk S.H.cur p=some b)(f:AO→AO)(hok:(S.h { S.H with cur:=up S.H.cur p b' }).ok)(hs:b'.serial=b.serial)(hw:b'.shp=b.shp)
  (hx:∀ x ∈ b'.ptrs,x ∈ b.ptrs∨S.H.C x)(hl:∀ a,Like (lk S.H.cur) (lko S.H.old) L.l b a→Like (lk S.H.cur) (lko S.H.old) L.l b' (f a)) :
  Sim (S.h { S.H with cur:=up S.H.cur p b' }) L (A.h (A.heap.upd (S.H.sr p) f)):=by
 obtain⟨b2,a,h1,h2,h3,h4⟩:=h.obj hp h0;rw[hb]at h1;injection h1 with h1;subst h1;have hok':b'.ok:=hok.H.obk (p:=p) (by show lk (up S.H.cur p b') p=some b';rw[lk_up,if_pos rfl,hb];rfl)
 obtain⟨g1,g2,g3,g4⟩:=h.gc.wr (L':=L.l) hb hok' hs hw hx (fun _ _=>Iff.rfl) (fun _ h=>.inl h) h.gc.cor.nd (hl a h4)
 have e:A.heap.upd (S.H.sr p) f=updA A.heap b.serial (f a):=by
  funext x;unfold Ag.upd updA;rw[h2];rw[h2]at h3;split
  ·rw[h3];rfl
  ·rfl
 have:=h.heap hok (by rw[←e]at g1;exact g1) (fun x hx=>⟨g2.c x hx,g3 x⟩) rfl rfl
 rw[show ({ S.H with cur:=up S.H.cur p b' }:Hp).serial=A.ser from h.ser.symm]at this;exact this
theorem Sim.zero (h:Sim S L A)(f:AO→AO):A.h (A.heap.upd (S.H.sr 0) f)=A:=by rw[h.gc.sr0,upd_none h.gc.cor.az];rfl
theorem Sim.second (h:Sim S L A)(hp:S.H.C p){v:Nat}(hv:v≤2199023255552)(h2:SecOk v):Sim (S.h (S.H.setSecondR p v).1) L (A.h (A.heap.upd (S.H.sr p) fun a=>a.second v)):=by
 have hok:=Stt.ok_setSecond h.ok p hv h2;by_cases h0:p=0
 ·subst h0;rw[h.zero];unfold Hp.setSecondR;rw[h.gc.cor.z.1];exact h
 ·obtain⟨b,a,h1,_⟩:=h.obj hp h0
  have e:(S.H.setSecondR p v).1={ S.H with cur:=up S.H.cur p (b.setSecond v) }:=by unfold Hp.setSecondR;rw[h1]
  rw[e]at hok ⊢;exact h.wr hp h0 h1 _ hok rfl rfl (fun x hx=>.inl hx) fun a hl=>⟨hl.shp,hl.fr,rfl,hl.nums,hl.ptrs⟩
theorem Sim.freed (h:Sim S L A)(hp:S.H.C p)(v:Bool):Sim (S.h (S.H.setFreedR p v).1) L (A.h (A.heap.upd (S.H.sr p) fun a=>a.free v)):=by
 have hok:=Stt.ok_setFreed h.ok p v;by_cases h0:p=0
 ·subst h0;rw[h.zero];unfold Hp.setFreedR;rw[h.gc.cor.z.1];exact h
 ·obtain⟨b,a,h1,_⟩:=h.obj hp h0
  have e:(S.H.setFreedR p v).1={ S.H with cur:=up S.H.cur p (b.setFreed v) }:=by unfold Hp.setFreedR;rw[h1]
  rw[e]at hok ⊢;exact h.wr hp h0 h1 _ hok rfl rfl (fun x hx=>.inl hx) fun a hl=>⟨hl.shp,rfl,hl.sec,hl.nums,hl.ptrs⟩
theorem Sim.setnum (h:Sim S L A)(hp:S.H.C p)(j:Nat){v:Int}(hv:-9223372036854775808≤v∧v≤9223372036854775807):Sim (S.h (S.H.setNumR p j v).1) L (A.h (A.heap.upd (S.H.sr p) fun a=>a.num j v)):=by
 have hok:=Stt.ok_setNum h.ok p j hv;by_cases h0:p=0
 ·subst h0;rw[h.zero];unfold Hp.setNumR;rw[h.gc.cor.z.1];exact h
 ·obtain⟨b,a,h1,h2,h3,h4⟩:=h.obj hp h0
  unfold Hp.setNumR at hok ⊢;rw[h1]at hok ⊢;dsimp only at hok ⊢;by_cases hj:b.shp.d≤j
  ·rw[if_pos hj]
   have e:A.heap.upd (S.H.sr p) (fun a=>a.num j v)=A.heap:=by
    funext x;unfold Ag.upd;split
    ·rename_i e;rw[e,h3]
     have:a.nums.length≤j:=by rw[h4.nums,(h.ok.H.obk h1).ln];exact hj
     show some (AO.num a j v)=some a;unfold AO.num;rw[List.set_eq_of_length_le this]
    ·rfl
   rw[e];exact h
  ·rw[if_neg hj]at hok ⊢
   exact h.wr hp h0 h1 _ hok rfl rfl (fun x hx=>.inl hx) fun a hl=>⟨hl.shp,hl.fr,hl.sec,by show a.nums.set j v=b.nums.set j v;rw[hl.nums],hl.ptrs⟩
theorem map_set' {f:Nat→Nat}(l:List Nat)(j x:Nat):(l.set j x).map f=(l.map f).set j (f x):=by rw[List.map_set]
theorem Sim.setptr (h:Sim S L A)(hp:S.H.C p)(j:Nat){q:Nat}(hq:S.H.C q)(hL':S.H.sr p ∉ L.l):Sim (S.h (S.H.setPtrR p j q).1) L (A.h (A.heap.upd (S.H.sr p) fun a=>a.ptr j (S.H.sr q))):=by
 have hok:=Stt.ok_setPtr h.ok p j q;by_cases h0:p=0
 ·subst h0;rw[h.zero];unfold Hp.setPtrR;rw[h.gc.cor.z.1];exact h
 ·obtain⟨b,a,h1,h2,h3,h4⟩:=h.obj hp h0
  have hL:b.serial ∉ L.l:=by rw[←h2];exact hL'
  unfold Hp.setPtrR at hok ⊢;rw[h1]at hok ⊢;dsimp only at hok ⊢;have hq':¬(q≠0∧lk S.H.cur q=none):=fun hc=>(hq.resolve_left hc.1) hc.2
  rw[if_neg hq']at hok ⊢;by_cases hj:b.shp.p≤j
  ·rw[if_pos hj]
   have e:A.heap.upd (S.H.sr p) (fun a=>a.ptr j (S.H.sr q))=A.heap:=by
    funext x;unfold Ag.upd;split
    ·rename_i e;rw[e,h3]
     have hlp:=h4.ptrs;rw[if_neg hL]at hlp;have:a.ptrs.length≤j:=by rw[←hlp,List.length_map,(h.ok.H.obk h1).lp];exact hj
     show some (AO.ptr a j _)=some a;unfold AO.ptr;rw[List.set_eq_of_length_le this]
    ·rfl
   rw[e];exact h
  ·rw[if_neg hj]at hok ⊢
   refine h.wr hp h0 h1 _ hok rfl rfl (fun x hx=>?_) fun a hl=>⟨hl.shp,hl.fr,hl.sec,hl.nums,?_⟩
   ·rcases List.mem_or_eq_of_mem_set (show x ∈ b.ptrs.set j q from hx) with h5|rfl
    ·grind
    ·grind
   ·have hlp:=hl.ptrs
    rw[if_neg hL]at hlp;show (b.ptrs.set j q).map _=if b.serial ∈ L.l then _ else a.ptrs.set j _
    rw[if_neg hL,map_set',hlp];rfl
theorem up_same' {H:Hp}{p:Nat}{b b':Ob}(hb:lk H.cur p=some b)(hs:b'.serial=b.serial):(∀ x,Hp.sr { H with cur:=up H.cur p b' } x=H.sr x)∧∀ x,Hp.C { H with cur:=up H.cur p b' } x↔H.C x:=by
 have e1:=setC_up (b':=b') hb;exact⟨fun x=>by unfold Hp.sr;rw[e1];exact srF_set hb hs x,fun x=>by unfold Hp.C;rw[e1];exact CF_setp hb x⟩
theorem second_same (H:Hp)(p v:Nat):(∀ x,(H.setSecondR p v).1.sr x=H.sr x)∧∀ x,(H.setSecondR p v).1.C x↔H.C x:=by
 unfold Hp.setSecondR;split
 ·grind
 ·rename_i b hb;exact up_same' hb rfl
theorem freed_same (H:Hp)(p:Nat)(v:Bool):(∀ x,(H.setFreedR p v).1.sr x=H.sr x)∧∀ x,(H.setFreedR p v).1.C x↔H.C x:=by
 unfold Hp.setFreedR;split
 ·grind
 ·rename_i b hb;exact up_same' hb rfl
theorem num_same (H:Hp)(p i:Nat)(v:Int):(∀ x,(H.setNumR p i v).1.sr x=H.sr x)∧∀ x,(H.setNumR p i v).1.C x↔H.C x:=by
 unfold Hp.setNumR;split
 ·grind
 ·rename_i b hb;split
  ·grind
  ·exact up_same' hb rfl
theorem ptr_same (H:Hp)(p i q:Nat):(∀ x,(H.setPtrR p i q).1.sr x=H.sr x)∧∀ x,(H.setPtrR p i q).1.C x↔H.C x:=by
 unfold Hp.setPtrR;split
 ·grind
 ·rename_i b hb;split
  ·grind
  ·split
   ·grind
   ·exact up_same' hb rfl
theorem Sim.sec (h:Sim S L A)(hp:S.H.C p):A.heap.sec (S.H.sr p)=S.H.sec p:=by
 unfold Ag.sec Hp.sec;by_cases h0:p=0
 ·subst h0;rw[h.gc.sr0,h.gc.cor.az,h.gc.cor.z.1]
 ·obtain⟨b,a,h1,h2,h3,h4⟩:=h.obj hp h0
  rw[h1,h3];exact h4.sec
theorem upd_wk {A:Ag}{s:Nat}{f:AO→AO}(hf:∀ a,(f a).shp=a.shp)(x:Nat):(A.upd s f).wk x=A.wk x:=by
 unfold Ag.wk Ag.upd;grind
end
end Go.Proofs.YteehgedabdchcaaGreat
namespace Go.Proofs.YteehgedabdchcaaGreat
open Go.RowKit Hp
attribute [local go_sem ↓] Go.wp_at_zero Go.wp_at_succ
section
variable {w w' : World} {o o' : Own} {l : HLay} {cy n : Nat} {rd ls : List Nat}
theorem at_scan {H:Hp}(h:HpAt w o l H)(hw:H.wf) :
  Calls Tryz.prog 129 #[ptr l.h] w fun e w'=>e=.returned (.bool H.scan1.2)∧∃ o',HpAt w' o' l H.scan1.1∧Stp (hTag l) o o' w w':=by
 obtain⟨vc,vo,vw,vf,f,hh⟩:=h;refine (scan_any hh hw).mono ?_
 rintro e w'⟨rfl,vc',f',o',h',hs⟩
 exact⟨rfl,o',⟨vc',vo,vw,vf,f',h'⟩,hs⟩
theorem scan1_stay {H:Hp}(h:H.scan1.2=false):H.scan1.1=H:=by
 unfold Hp.scan1 at h ⊢;by_cases hc:H.moving=false∨H.scan=H.top
 ·rw[if_pos hc]
 ·rw[if_neg hc]at h ⊢
  cases hl:lk H.cur H.scan with
  | none=>rfl
  | some ob =>
   rw[hl]at h;simp only at h;split at h<;>simp at h
def cyc1 (H:Hp)(n:Nat)(rd ls:List Nat):Hp×Nat×List Nat×List Nat×Bool:=
 if n=0 then (H,0,rd,ls,false) else if H.scan1.2=true then (H.scan1.1,n,rd,ls,false)
 else if n=1 then (H.finals.1,2,rd++H.finals.2,ls,false) else (H.drop.1,0,rd,ls++H.drop.2.1,true)
theorem cstep_none (h:CyIn w o l cy 0 rd ls) :
  Calls Tryz.prog 67 #[ptr cy] w fun e w'=>e=.returned (.bool false)∧Below w.heap.size w w':=by
 have HL:=Lib.hid (clive_any h (by omega))
 clear h;go_enter Tryz.func67,Tryz.ntmps67;go_wp2_with fail;refine HL.out.mono ?_
 rintro e w1⟨rfl,rfl⟩
 go_wp2_with fail;go_ret;exact⟨rfl,bsame _⟩
theorem cstep_go {H:Hp}(hH:HpAt w o l H)(hw:H.wf)(h:CyIn w o l cy n rd ls)(hn:n=1∨n=2)(h1:rd.length≤1099511627776)(h2:H.finals.2.length≤1099511627776)(h3:ls.length≤1099511627776)(h4:H.drop.2.1.length≤1099511627776) :
  Calls Tryz.prog 67 #[ptr cy] w fun e w'=>e=.returned (.bool (cyc1 H n rd ls).2.2.2.2)∧∃ o',HpAt w' o' l (cyc1 H n rd ls).1∧CyIn w' o' l cy (cyc1 H n rd ls).2.1 (cyc1 H n rd ls).2.2.1 (cyc1 H n rd ls).2.2.2.1∧Stp (cyT l) o o' w w':=by
 have n7:¬hTag l (l.id,7):=fun hh=>by have:=hh.2;simp at this
 have n8:¬hTag l (l.id,8):=fun hh=>by have:=hh.2;simp at this
 have n9:¬hTag l (l.id,9):=fun hh=>by have:=hh.2;simp at this
 have HL:=Lib.hid (clive_any h (by omega))
 have HS:=Lib.hid (at_scan hH hw);have HC:=Lib.hid (fun (w5:World)(o5:Own)(hs:Stp (hTag l) o o5 w w5)=>h.stp hs n7 n8 n9)
 obtain⟨vr,vl,jc,_,_⟩:=h.blk;have c:=jc.cell
 cases hb:H.scan1.2 with
 | true =>
  have e1:cyc1 H n rd ls=(H.scan1.1,n,rd,ls,false):=by unfold cyc1;rw[if_neg (by omega),if_pos hb]
  rw[e1];rw[hb]at HS;generalize H.scan1.1=H' at *;clear hH hw h h1 h2 h3 h4 e1 hb;rcases hn with rfl|rfl
  all_goals
   go_enter Tryz.func67,Tryz.ntmps67;go_wp2_with fail;refine HL.out.mono ?_
   rintro e w1 ⟨rfl,rfl⟩
   go_wp2_with fail;refine HS.out.mono ?_
   rintro e w2 ⟨rfl,o2,hH2,hs2⟩
   go_wp2_with fail;go_ret;exact⟨rfl,o2,hH2,HC.out _ _ hs2,hs2.mono fun _ h=>cyT_h h⟩
 | false =>
  have e0:=scan1_stay hb;rw[hb,e0]at HS;rcases hn with rfl|rfl
  ·have e1:cyc1 H 1 rd ls=(H.finals.1,2,rd++H.finals.2,ls,false):=by unfold cyc1;rw[if_neg (by omega),if_neg (by rw[hb];simp),if_pos rfl]
   rw[e1];have HF:=Lib.hid (fun w2 o2 (h2':HpAt w2 o2 l H)(hc2:CyIn w2 o2 l cy 1 rd ls)=>cfirst_any h2' hw hc2 h1 h2)
   generalize H.finals=D at *;clear hH hw h h1 h2 h3 h4 e1 hb e0;go_enter Tryz.func67,Tryz.ntmps67;go_wp2_with fail;refine HL.out.mono ?_
   rintro e w1 ⟨rfl,rfl⟩
   go_wp2_with fail;refine HS.out.mono ?_
   rintro e w2 ⟨rfl,o2,hH2,hs2⟩
   have hc2:=HC.out _ _ hs2;have HF2:=Lib.hid (HF.out _ _ hH2 hc2);obtain⟨vr2,vl2,jc2,_,_⟩:=hc2.blk;have c2:w2.cell? ⟨cy,1,none⟩=some (.func (.func 126) #[ptr cy] #[]):=jc2.cell 1;clear c;go_wp2_with fail;refine HF2.out.mono ?_
   rintro e w3 ⟨rfl,o3,hH3,hc3,hs3⟩
   go_wp2_with fail;go_ret;exact⟨rfl,o3,hH3,hc3,(hs2.mono fun _ h=>cyT_h h).trans hs3⟩
  ·have e1:cyc1 H 2 rd ls=(H.drop.1,0,rd,ls++H.drop.2.1,true):=by unfold cyc1;rw[if_neg (by omega),if_neg (by rw[hb];simp),if_neg (by omega)]
   rw[e1];have HF:=Lib.hid (fun w2 o2 (h2':HpAt w2 o2 l H)(hc2:CyIn w2 o2 l cy 2 rd ls)=>csecond_any h2' hw hc2 h3 h4)
   generalize H.drop=D at *;clear hH hw h h1 h2 h3 h4 e1 hb e0;go_enter Tryz.func67,Tryz.ntmps67;go_wp2_with fail;refine HL.out.mono ?_
   rintro e w1 ⟨rfl,rfl⟩
   go_wp2_with fail;refine HS.out.mono ?_
   rintro e w2 ⟨rfl,o2,hH2,hs2⟩
   have hc2:=HC.out _ _ hs2;have HF2:=Lib.hid (HF.out _ _ hH2 hc2);obtain⟨vr2,vl2,jc2,_,_⟩:=hc2.blk;have c2:w2.cell? ⟨cy,1,none⟩=some (.func (.func 190) #[ptr cy] #[]):=jc2.cell 1;clear c;go_wp2_with fail;refine HF2.out.mono ?_
   rintro e w3 ⟨rfl,o3,hH3,hc3,hs3⟩
   go_wp2_with fail;go_ret;exact⟨rfl,o3,hH3,hc3,(hs2.mono fun _ h=>cyT_h h).trans hs3⟩
end
end Go.Proofs.YteehgedabdchcaaGreat
