import Derived.Test.YteehgedabdchcaaGreatQal
import Derived.Sort.CutIn
import Derived.Stop.RegionWithIn
import Derived.Defers
import Derived.Laws.CopyRow
import Derived.Shelf.Spec.SlicesGrow
set_option linter.all false
set_option maxRecDepth 1000000
set_option maxHeartbeats 16000000
namespace Go.Proofs.YteehgedabdchcaaGreat
open Go.RowKit Go.Shelf Hp
attribute [local go_sem] Oper.semAt_some
theorem no_fn (F:Fence):(∀ f:FuncId,(none:Option FuncId)=some f→F.fn f)=True:=by simp
attribute [local go_sem] no_fn
theorem places_any (b:Nat)(w:World) :
  Calls Tryz.prog 128 #[ptr b] w fun e w'=>e=.returned (.func (.func 191) #[] #[ptr w.heap.size])∧w'=w.alloc (.cells #[ptr b] 105):=by
 have hmf:∀ (fn:Fn)(first cap:Array Value)(w:World),(Instr.makeFunc fn first cap).run Tryz.prog w=.ok (.func fn first cap) w:=fun _ _ _ _=>rfl
 go_enter Tryz.func128,Tryz.ntmps128;go_wp2_with fail;go_ret;exact⟨rfl,rfl⟩
structure PlJ (l bL b:Nat)(R:Loop)(mr mu:Nat)(vr vk vh vu:Value)(us:List Un)(bA:Nat)(wr:World):Prop where
 jA:Blk wr bA #[vr,vk] 25
 jL:Blk wr bL #[ptr b] 105
 jB:Blk wr b #[.int .i64 mr,.int .i64 mu,vr,vk,vh,vu] 219
 hl:wr.heap[l]?=some (.loop R)
 kd:∀ (j:Nat) u,us[j]?=some u→wr.cell? ⟨rowB vu,j*4,none⟩=some (nv u.kind)
theorem places_walk {l bL b mr mu:Nat} {R:Loop} {vr vk vh vu:Value} {L:Lg} {W1:World} {Post:Ending→World→Prop} (J:Nat→Nat→World→Prop)
  (hRs:R.params.size=1) (n1:L.reads.length≤200) (n2:L.keeps.length≤200) (n3:L.holds.length≤200) (n4:L.undos.length≤200)
  (fr:∃ a c,vr=.slice a L.reads.length c∧(0<L.reads.length→a=some ⟨rowB vr,0,none⟩)) (fk:∃ a c,vk=.slice a L.keeps.length c∧(0<L.keeps.length→a=some ⟨rowB vk,0,none⟩))
  (fh:∃ a c,vh=.slice a L.holds.length c∧(0<L.holds.length→a=some ⟨rowB vh,0,none⟩)) (fu:∃ a c,vu=.slice a L.undos.length c∧(0<L.undos.length→a=some ⟨rowB vu,0,none⟩))
  (jL:Blk W1 bL #[ptr b] 105) (jB:Blk W1 b #[.int .i64 mr,.int .i64 mu,vr,vk,vh,vu] 219)
  (hJ0:∀ W2 bA,Below W1.heap.size W1 W2→W1.heap.size≤bA→Blk W2 bA #[vr,vk] 25→J bA 0 W2)
  (hJ:∀ bA m wr,J bA m wr→PlJ l bL b R mr mu vr vk vh vu L.undos bA wr)
  (hround:∀ bA m wr a T,J bA m wr→(lAddr vr vk vh vu L)[m]?=some a→T=(R.params.zip #[.pointer (some a)]).foldl (fun tmps (t,a)=>tmps.setIfInBounds t a) R.tmps →
   RoundIn Fence.wide 1 Tryz.prog l R.fn T R.assign R.body wr fun e W'=>e=.returned (.bool true)∧J bA (m+1) W')
  (hPost:∀ bA wr,J bA (lAddr vr vk vh vu L).length wr→Post (.returned (.tuple #[])) wr) :
  CallsIn Fence.wide 2 Tryz.prog 191 #[.func (.yield l) #[] #[],ptr bL] W1 Post:=by
 obtain⟨ar,cr,rfl,far⟩:=fr;obtain⟨ak,ck,rfl,fak⟩:=fk;obtain⟨gh,hgh⟩:∃ gh,gh=rowB vh:=⟨_,rfl⟩;obtain⟨gu,hgu⟩:∃ gu,gu=rowB vu:=⟨_,rfl⟩;rw[←hgh]at fh;rw[←hgu]at fu;have HGh:=Lib.hid hgh;have HGu:=Lib.hid hgu;clear hgh hgu;obtain⟨ah,ch,rfl,fah⟩:=fh;obtain⟨au,cu,rfl,fau⟩:=fu;have HJ0:=Lib.hid hJ0;have HJ:=Lib.hid hJ;have HR:=Lib.hid hround;have HP:=Lib.hid hPost;have HRs:=Lib.hid hRs;have hyi:=Lib.hid (fun (wr:World) (a:Addr) (hl:wr.heap[l]?=some (.loop R))=>run_yield (P:=Tryz.prog) (args:=#[.pointer (some a)]) hl (by rw[hRs];rfl))
 have cL:=jL.cell;have cB:=jB.cell;have HF:=Lib.hid (And.intro far (And.intro fak (And.intro fah fau)));clear hJ0 hJ hround hPost hRs far fak fah fau;refine callsIn_of_wp Tryz.func191 rfl trivial ?_ rfl;simp only[Tryz.ntmps191,List.size_toArray,List.length_cons,List.length_nil,Nat.reduceAdd,Nat.reduceSub,Array.replicate_succ,Array.replicate_zero,List.push_toArray,List.append_toArray,List.nil_append,List.cons_append];gi_wp2;gi_region;gi_wp2;obtain⟨W2,hW2⟩:∃ W2,W2=(W1.alloc (.cells #[.slice ar L.reads.length cr,.slice ak L.keeps.length ck] 25)).drew:=⟨_,rfl⟩;obtain⟨bA,hbA⟩:∃ bA,bA=W1.heap.size:=⟨_,rfl⟩;rw[←hW2,←hbA];have hst:=HJ0.out W2 bA (by rw[hW2];exact bdrew (balloc (bsame _) _)) (by omega) (by rw[hW2,hbA];exact drewB (Blk.new W1 _ _))
 clear hW2 hbA cL cB jL jB HJ0;gi_loopw [21] (fun ix wr=>∃ (t:Nat),ix=.int .i64 t∧t≤2∧J bA (if t=0 then 0 else if t=1 then L.reads.length else L.reads.length+L.keeps.length) wr) (fun ix _=>2-(intOf ix).toNat)
 case atStart=>exact⟨0,rfl,by omega,hst⟩
 case round =>
  clear hst;obtain⟨t,rfl,ht,hA⟩:=hrel;obtain⟨wo,rfl⟩:∃ wo:World,wo=wr:=⟨_,rfl⟩;have hP:=HJ.out _ _ _ hA;have cA:=hP.jA.cell;by_cases hlt:t<2
  ·have h2I:(t:Int)<2:=by omega
   obtain⟨v,a,n,c,g,base,hv,hbase,hn,hg,had⟩:∃ (v:Value) (a:Option Addr) (n c g base:Nat),v=.slice a n c∧base=(if t=0 then 0 else L.reads.length)∧n≤200∧(0<n→a=some ⟨g,0,none⟩) ∧
     (wo.cell? ⟨bA,t,none⟩=some v∧base+n=(if t=0 then L.reads.length else L.reads.length+L.keeps.length)∧∀ j,j<n→(lAddr (.slice ar L.reads.length cr) (.slice ak L.keeps.length ck) (.slice ah L.holds.length ch) (.slice au L.undos.length cu) L)[base+j]?=some ⟨g,j,none⟩):=by
    obtain rfl|rfl:t=0∨t=1:=by omega
    ·refine⟨_,ar,L.reads.length,cr,_,0,rfl,rfl,n1,HF.out.1,cA 0,by simp,fun j hj=>?_⟩
     rw[Nat.zero_add];exact lAddr_r _ _ _ _ _ hj
    ·refine⟨_,ak,L.keeps.length,ck,_,L.reads.length,rfl,rfl,n2,HF.out.2.1,cA 1,by simp,fun j hj=>?_⟩
     exact lAddr_k _ _ _ _ _ hj
   subst hv;obtain⟨ct,hbn,had⟩:=had;have hA':J bA base wo:=by
    rw[hbase];obtain rfl|rfl:t=0∨t=1:=by omega
    ·exact hA
    ·exact hA
   have HAD:=Lib.hid had;have HG:=Lib.hid hg;have HBN:=Lib.hid hbn;clear had hg hbn hA cA hP hbase;gi_wp2;gi_loopw [27] (fun ix wr=>∃ (j:Nat),ix=.int .i64 j∧j≤n∧J bA (base+j) wr) (fun ix _=>n-(intOf ix).toNat)
   case atStart=>exact⟨0,rfl,by omega,hA'⟩
   case round =>
    clear hA' ct;obtain⟨j,rfl,hj,hA⟩:=hrel;obtain⟨wo,rfl⟩:∃ wo:World,wo=wr:=⟨_,rfl⟩;by_cases hjn:j<n
    ·have hjI:(j:Int)<(n:Int):=by omega
     have hg2:=HG.out (by omega)
     subst hg2;have hl:=(HJ.out _ _ _ hA).hl;have hy:=hyi.out wo ⟨g,j,none⟩ hl;obtain⟨T,hT⟩:∃ T,T=(R.params.zip #[.pointer (some ⟨g,j,none⟩)]).foldl (fun tmps (t,a)=>tmps.setIfInBounds t a) R.tmps:=⟨_,rfl⟩
     rw[←hT]at hy;have hRd:=HR.out bA (base+j) wo ⟨g,j,none⟩ T hA (HAD.out j hjn) hT;clear hl hA hT;gi_wp2;refine hRd.mono ?_
     rintro e w3 ⟨rfl,hA3⟩
     clear hy hRd;gi_wp2;go_roundw
     case rel=>exact⟨j+1,by simp,by omega,hA3⟩
     case measure=>simp[intOf];omega
    ·obtain rfl:j=n:=by omega
     gi_wp2;go_roundw
     case rel=>exact⟨t+1,by simp,by omega,by rw[HBN.out]at hA;obtain rfl|rfl:t=0∨t=1:=(by omega)<;>exact hA⟩
     case measure=>simp[intOf];omega
  ·obtain rfl:t=2:=by omega
   rw[show ((2:Nat):Int)=2 from rfl];simp only[Nat.reduceEqDiff,if_false]at hA;obtain⟨nh,hnh⟩:∃ nh,nh=L.holds.length:=⟨_,rfl⟩;have cL:=hP.jL.cell;have cB:=hP.jB.cell;clear hlt cA hP;gi_wp2;gi_loopw [43] (fun ix wr=>∃ (j:Nat),ix=.int .i64 j∧j≤L.holds.length∧J bA (L.reads.length+L.keeps.length+j) wr) (fun ix _=>L.holds.length-(intOf ix).toNat)
   case atStart=>exact⟨0,rfl,by omega,hA⟩
   case round =>
    clear hA cL cB;obtain⟨j,rfl,hj,hA⟩:=hrel;obtain⟨wo,rfl⟩:∃ wo:World,wo=wr:=⟨_,rfl⟩;have hP:=HJ.out _ _ _ hA;have cL:=hP.jL.cell;have cB:=hP.jB.cell;by_cases hjn:j<L.holds.length
    ·have hjI:(j:Int)<(L.holds.length:Int):=by omega
     have hg2:=HF.out.2.2.1 (by omega)
     have hl:=hP.hl;have had:=lAddr_h (.slice ar L.reads.length cr) (.slice ak L.keeps.length ck) (.slice ah L.holds.length ch) (.slice au L.undos.length cu) L hjn;rw[←HGh.out]at had;have hy:=hyi.out wo ⟨gh,j*2,none⟩ hl;obtain⟨T,hT⟩:∃ T,T=(R.params.zip #[.pointer (some ⟨gh,j*2,none⟩)]).foldl (fun tmps (t,a)=>tmps.setIfInBounds t a) R.tmps:=⟨_,rfl⟩
     rw[←hT]at hy;have hRd:=HR.out bA _ wo _ T hA had hT;have HG2:=Lib.hid hg2;clear hl hA hT hP had hg2;rw[HG2.out]at cB;gi_wp2;refine hRd.mono ?_
     rintro e w3 ⟨rfl,hA3⟩
     clear hy hRd cL cB;gi_wp2;go_roundw
     case rel=>exact⟨j+1,by simp,by omega,hA3⟩
     case measure=>simp[intOf];omega
    ·obtain rfl:j=L.holds.length:=by omega
     clear hjn hP;gi_wp2;gi_loopw [62] (fun ix wr=>∃ (j:Nat),ix=.int .i64 j∧j≤L.undos.length∧J bA (L.reads.length+L.keeps.length+L.holds.length+uCount L.undos j) wr) (fun ix _=>L.undos.length-(intOf ix).toNat)
     case atStart=>exact⟨0,rfl,by omega,hA⟩
     case round =>
      clear hA cL cB;obtain⟨j,rfl,hj,hA⟩:=hrel;obtain⟨wo,rfl⟩:∃ wo:World,wo=wr:=⟨_,rfl⟩;have hP:=HJ.out _ _ _ hA;have cL:=hP.jL.cell;have cB:=hP.jB.cell;by_cases hjn:j<L.undos.length
      ·have hjI:(j:Int)<(L.undos.length:Int):=by omega
       have hg2:=HF.out.2.2.2 (by omega)
       have hl:=hP.hl;obtain⟨u,hu⟩:∃ u,L.undos[j]?=some u:=⟨_,List.getElem?_eq_getElem hjn⟩;obtain⟨ha1,ha2⟩:=uAddr_at gu L.undos 0 j u hu;have had:=lAddr_u (.slice ar L.reads.length cr) (.slice ak L.keeps.length ck) (.slice ah L.holds.length ch) (.slice au L.undos.length cu) L;rw[←HGu.out]at had;rw[Nat.zero_add]at ha1 ha2;have hy:=hyi.out wo ⟨gu,j*4+1,none⟩ hl;obtain⟨T,hT⟩:∃ T,T=(R.params.zip #[.pointer (some ⟨gu,j*4+1,none⟩)]).foldl (fun tmps (t,a)=>tmps.setIfInBounds t a) R.tmps:=⟨_,rfl⟩
       rw[←hT]at hy;have hRd:=HR.out bA _ wo _ T hA ((had _).trans ha1) hT;have hcs:=uCount_succ hu;have HG2:=Lib.hid hg2;have HU:=Lib.hid hu;have HA2:=Lib.hid (fun hk=>(had _).trans (ha2 hk))
       have HCS:=Lib.hid hcs;clear hl hA hT hP had hg2 hu ha1 ha2 hcs;rw[HG2.out]at cB;gi_wp2;refine hRd.mono ?_
       rintro e w3 ⟨rfl,hA3⟩
       clear hy hRd cL cB;have hP3:=HJ.out _ _ _ hA3;have ck3:=hP3.kd j u HU.out;rw[←HGu.out]at ck3;by_cases hk:u.kind=1
       ·rw[hk]at ck3
        have ck4:w3.cell? ⟨gu,j*4,none⟩=some (.int .i64 1):=ck3;have hy:=hyi.out w3 ⟨gu,j*4+3,none⟩ hP3.hl;obtain⟨T,hT⟩:∃ T,T=(R.params.zip #[.pointer (some ⟨gu,j*4+3,none⟩)]).foldl (fun tmps (t,a)=>tmps.setIfInBounds t a) R.tmps:=⟨_,rfl⟩
        rw[←hT]at hy;have hRd:=HR.out bA _ w3 _ T hA3 (by rw[Nat.add_assoc];exact HA2.out hk) hT
        have HC2:=Lib.hid (show L.reads.length+L.keeps.length+L.holds.length+uCount L.undos j+1+1=L.reads.length+L.keeps.length+L.holds.length+uCount L.undos (j+1) by have:=HCS.out;rw[if_pos hk]at this;omega)
        clear hP3 hA3 hT ck3 hk;gi_wp2;refine hRd.mono ?_
        rintro e w4 ⟨rfl,hA4⟩
        clear hy hRd ck4;gi_wp2;go_roundw
        case rel=>exact⟨j+1,by simp,by omega,by rw[←HC2.out];exact hA4⟩
        case measure=>simp[intOf];omega
       ·have hkb:((u.kind:Int)==1)=false:=by rw[beq_eq_false_iff_ne];omega
        have ck4:w3.cell? ⟨gu,j*4,none⟩=some (.int .i64 u.kind):=ck3;have HC2:=Lib.hid (show L.reads.length+L.keeps.length+L.holds.length+uCount L.undos j+1=L.reads.length+L.keeps.length+L.holds.length+uCount L.undos (j+1) by have:=HCS.out;rw[if_neg hk]at this;omega)
        clear hP3 ck3 hk;gi_wp2;refine And.intro (fun _ hf=>nomatch hf) ?_
        first
         | (rename_i hK9 _;refine hK9 _ _ ?_)
         | (rename_i hK9 _ _;refine hK9 _ _ ?_)
         | (rename_i hK9 _ _ _;refine hK9 _ _ ?_)
         | (rename_i hK9 _ _ _ _;refine hK9 _ _ ?_)
        gi_wp2;go_roundw
        case rel=>exact⟨j+1,by simp,by omega,by rw[←HC2.out];exact hA3⟩
        case measure=>simp[intOf];omega
      ·obtain rfl:j=L.undos.length:=by omega
       have hfin:=Lib.hid (HP.out bA wo (by
        have e:(lAddr (.slice ar L.reads.length cr) (.slice ak L.keeps.length ck) (.slice ah L.holds.length ch) (.slice au L.undos.length cu) L).length=L.reads.length+L.keeps.length+L.holds.length+uCount L.undos L.undos.length:=by
         rw[lAddr_len];unfold Lg.roots uCount;rw[List.take_length];simp only[List.length_append,List.length_map]
        rw[e];exact hA))
       gi_wp2;exact bodyPost_ret (results_none rfl _ _ _) rfl hfin.out
end Go.Proofs.YteehgedabdchcaaGreat
namespace Go.Proofs.YteehgedabdchcaaGreat
open Go.RowKit Hp
attribute [local go_sem ↓] Go.wp_at_zero Go.wp_at_succ
section
variable {w w' : World} {o o' : Own} {y : SLay} {S : Stt} {i : Nat}
structure StCy (w:World)(o:Own)(y:SLay)(S:Stt)(vr vs:Value)(rd ls:List Nat):Prop where
 blk:∃ vq vl vm,Blk w y.sb (stCells y S vq vl vm) 101∧StRows w o y.l.id S vq vl vm
 cb:Blk w y.cy #[ptr y.l.h,phF y.cy S.ph,vr,vs] 201
 cr:Row w o (y.l.id,8) 3 1 vr rd.length (rd.map nv)
 cl:Row w o (y.l.id,9) 3 1 vs ls.length (ls.map nv)
 oy:o y.cy=(y.l.id,7)
 hp:HpAt w o y.l S.H
 ck:Blk w y.ck #[.int .i64 S.now,.int .i64 S.most] 193
 thr:Row w o (y.l.id,12) 103 1 y.vth S.txs.length ((List.range S.txs.length).map fun i=>ptr (y.xb i))
 txs:∀ i x,S.txs[i]?=some x→TxIn w o y.l.id i (y.xb i) (y.lb i) x
 oc:o y.ck=(y.l.id,10)
 os:o y.sb=(y.l.id,11)
theorem StIn.open' (h:StIn w o y S):StCy w o y S (.slice none 0 0) (.slice none 0 0) [] []:=⟨h.blk,h.cy,Row.nil _ _ _ _ _,Row.nil _ _ _ _ _,h.oy,h.hp,h.ck,h.thr,h.txs,h.oc,h.os⟩
theorem StCy.close (h:StCy w o y S (.slice none 0 0) (.slice none 0 0) [] []):StIn w o y S:=⟨h.blk,h.cb,h.hp,h.ck,h.thr,h.txs,h.oc,h.os,h.oy⟩
theorem StCy.lt {vr vs:Value}{rd ls:List Nat}(h:StCy w o y S vr vs rd ls):y.sb<w.heap.size:=by obtain⟨_,_,_,hb,_⟩:=h.blk;exact hb.lt
theorem StCy.cyc {vr vs vr' vs':Value}{rd ls rd' ls':List Nat}(h:StCy w o y S vr vs rd ls){H':Hp}{n:Nat}(hH:HpAt w' o' y.l H')(hb':Blk w' y.cy #[ptr y.l.h,phF y.cy n,vr',vs'] 201)(hr1:Row w' o' (y.l.id,8) 3 1 vr' rd'.length (rd'.map nv))(hr2:Row w' o' (y.l.id,9) 3 1 vs' ls'.length (ls'.map nv))(hs:Stp (cyT y.l) o o' w w'):StCy w' o' y { S with H:=H',ph:=n } vr' vs' rd' ls':=by
 obtain⟨vq,vl,vm,hb,hr⟩:=h.blk;have hn:∀ j,10≤j→¬cyT y.l (y.l.id,j):=fun j hj e=>by have:=e.2;simp only at this;omega
 have hr':=hr.stp hs fun j _ _=>hn j (by omega)
 exact⟨⟨vq,vl,vm,hb.stp hs (by rw[h.os];exact hn _ (by omega)),hr'.1,hr'.2,hr'.3⟩,hb',hr1,hr2,(hs.tags _ h.cb.lt).trans h.oy,hH,h.ck.stp hs (by rw[h.oc];exact hn _ (by omega)),h.thr.stp hs (hn _ (by omega)),fun i x hx=>(h.txs i x hx).stp hs fun j _=>hn _ (by omega),(hs.tags _ h.ck.lt).trans h.oc,(hs.tags _ h.lt).trans h.os⟩
theorem StCy.cyb {vr vs vr' vs':Value}{rd ls rd' ls':List Nat}(h:StCy w o y S vr vs rd ls)(hb':Blk w' y.cy #[ptr y.l.h,phF y.cy S.ph,vr',vs'] 201)(hr1:Row w' o' (y.l.id,8) 3 1 vr' rd'.length (rd'.map nv))(hr2:Row w' o' (y.l.id,9) 3 1 vs' ls'.length (ls'.map nv))(hs:Stp (fun t=>t=(y.l.id,7)) o o' w w'):StCy w' o' y S vr' vs' rd' ls':=
 h.cyc (h.hp.stp hs fun j hj=>by simp;omega) hb' hr1 hr2 (hs.mono (by rintro _ rfl;exact⟨rfl,.inl (Nat.le_refl _)⟩))
theorem StCy.below {vr vs:Value}{rd ls:List Nat}(h:StCy w o y S vr vs rd ls)(hb:Below w.heap.size w w'):StCy w' o y S vr vs rd ls:=by
 have hs:Stp (fun _=>False) o o w w':=Stp.of_below hb
 obtain⟨vq,vl,vm,hbk,hr⟩:=h.blk;exact⟨⟨vq,vl,vm,hbk.below hb hbk.lt,hr.stp hs fun _ _ _ h=>h⟩,h.cb.below hb h.cb.lt,h.cr.below hb,h.cl.below hb,h.oy,h.hp.stp hs fun _ _ h=>h,h.ck.below hb h.ck.lt,h.thr.stp hs fun h=>h,fun i x hx=>(h.txs i x hx).stp hs fun _ _ h=>h,h.oc,h.os⟩
theorem StCy.own {vr vs:Value}{rd ls:List Nat}(h:StCy w o y S vr vs rd ls){S':Stt}(e1:S'.H=S.H)(e2:S'.ph=S.ph)(e3:S'.now=S.now)(e4:S'.most=S.most)(e5:S'.txs=S.txs)
  {vq vl vm:Value}(hb:Blk w' y.sb (stCells y S' vq vl vm) 101)(hr:StRows w' o' y.l.id S' vq vl vm)(hs:Stp (ownTag y) o o' w w'):StCy w' o' y S' vr vs rd ls:=by
 have hn:∀ j,j≠11→j≠13→j≠14→j≠15→¬ownTag y (y.l.id,j):=fun j a b c d=>ownTag_no a b c d
 exact⟨⟨vq,vl,vm,hb,hr⟩,by rw[e2];exact h.cb.stp hs (by rw[h.oy];exact hn _ (by omega) (by omega) (by omega) (by omega)),h.cr.stp hs (hn _ (by omega) (by omega) (by omega) (by omega)),h.cl.stp hs (hn _ (by omega) (by omega) (by omega) (by omega)),(hs.tags _ h.cb.lt).trans h.oy,by rw[e1];exact h.hp.stp hs fun j hj=>hn _ (by omega) (by omega) (by omega) (by omega),
  by rw[e3,e4];exact h.ck.stp hs (by rw[h.oc];exact hn _ (by omega) (by omega) (by omega) (by omega)),by rw[e5];exact h.thr.stp hs (hn _ (by omega) (by omega) (by omega) (by omega)),fun i x hx=>(h.txs i x (by rw[←e5];exact hx)).stp hs fun j _=>hn _ (by omega) (by omega) (by omega) (by omega),
  (hs.tags _ h.ck.lt).trans h.oc,(hs.tags _ h.lt).trans h.os⟩
end
end Go.Proofs.YteehgedabdchcaaGreat
