import Derived.Test.YteehgedabdchcaaGreatQam
set_option linter.all false
set_option maxRecDepth 1000000
set_option maxHeartbeats 16000000
namespace Go.Proofs.YteehgedabdchcaaGreat
open Go.RowKit Go.Shelf Hp
attribute [local go_sem] Oper.semAt_some
section
variable {w w' : World} {o o' : Own} {y : SLay} {S : Stt} {i : Nat}
theorem abort_any (h0:StIn w o y S) (hk:S.ok) (hi:i<S.txs.length) :
  Calls Tryz.prog 73 #[ptr y.sb,ptr (y.xb i)] w fun e w'=>e=.returned (.tuple #[])∧Lft y (S.abort i) o w w':=by
 obtain⟨o1,ho1⟩:∃ o1,o1=ext o w.heap.size (y.l.id+1,0):=⟨_,rfl⟩;have h:=h0.retag (o':=o1) fun b hb=>by rw[ho1];exact ext_lt hb
 have hS0:Stp (stTag y) o o1 w w:=by rw[ho1];exact (Stp.refl _ o w).ext _ _ (Nat.le_refl _)
 have hbx:∀ b,w.heap.size≤b→o1 b=(y.l.id+1,0):=fun b hb=>by rw[ho1];exact ext_ge hb
 have hext:∀ n,w.heap.size≤n→ext o1 n (y.l.id+1,0)=o1:=fun n hn=>by rw[ho1];exact ext_ext _ _ _ _ hn
 clear ho1 h0;have hx:=Stt.t_get hi;obtain⟨x,hxe⟩:∃ x,x=S.t i:=⟨_,rfl⟩;rw[←hxe]at hx;have hlf:=hk.lgt hi;rw[←hxe]at hlf;have hx':=h.txs i x hx;obtain⟨vr,vk,vh,vu,hl⟩:=hx'.log;have HU:=Lib.hid (fun w' (hw:Below w.heap.size w w')=>log_undos (hl.below hw) hlf.ok (y.l.id+1,0))
 have HBk:=Lib.hid backward_any;obtain⟨vt0,jx,-⟩:=hx'.blk;unfold txCells at jx;have HAb:Hid (S.abort i=((S.h ((S.H.undoL x.log.undos).relL x.log.holds)).untake i).tx i x.ended):=by unfold Stt.abort;rw[←hxe];exact rfl
 have H:=Lib.hid h;have HK:=Lib.hid hk;have HS:=Lib.hid hS0;have HB:=Lib.hid hbx;have HE:=Lib.hid hext;have HX:=Lib.hid hx;have HLF:=Lib.hid hlf;have HI:=Lib.hid hi;have HXE:=Lib.hid hxe;clear h hk hS0 hbx hext hx hx' hl hlf hxe hi;refine (callsIn_wide (n:=3)).1 ?_;refine callsIn_of_wp_marks Tryz.func73 rfl trivial ?_ rfl;simp only[Tryz.ntmps73,List.size_toArray,List.length_cons,List.length_nil,Nat.reduceAdd,Nat.reduceSub,Array.replicate_succ,Array.replicate_zero,List.push_toArray,List.append_toArray,List.nil_append,List.cons_append];have cx:=(jx.alloc (.cells #[ptr y.sb] 24)).cell;gi_wp2_with (refine⟨trivial,?_⟩;first
  | (gi_at_call 133;refine (callsIn_wide.2 (HU.out _ (balloc (bsame w) _))).mono ?_;rintro e w1 ⟨v1,rfl,hr1,hb1⟩;obtain⟨pa,cp,rfl⟩:=hr1.slc)
  | (gi_at_call 132;refine (callsIn_wide.2 (HBk.out _ _ _ _)).mono ?_;rintro e w2 ⟨rfl,rfl⟩))
 rw[HE.out _ (by simp)]at hr1
 have hb01:=btrans (balloc (bsame w) (.cells #[ptr y.sb] 24)) hb1;have jS1:=(Blk.new w #[ptr y.sb] 24).below hb1 (by simp)
 clear hb1 cx;obtain⟨W0,hW0⟩:∃ W0,W0=w1.alloc (.cells #[.slice pa x.log.undos.length cp] 212):=⟨_,rfl⟩;rw[←hW0];obtain⟨bU,hbU⟩:∃ bU,bU=w1.heap.size:=⟨_,rfl⟩;rw[←hbU];have hb02:Below w.heap.size w W0:=by rw[hW0];exact balloc hb01 _
 have jS2:Blk W0 w.heap.size #[ptr y.sb] 24:=by rw[hW0];exact jS1.alloc _
 have jU2:Blk W0 bU #[.slice pa x.log.undos.length cp] 212:=by rw[hW0];exact Blk.new_at _ _ _ _ _ hbU rfl
 have hr2:Row W0 o1 (y.l.id+1,0) 175 4 (.slice pa x.log.undos.length cp) x.log.undos.length (ucells x.log.undos):=by rw[hW0];exact hr1.below (balloc (bsame _) _)
 have hUw:w.heap.size≤bU:=by rw[hbU];exact hb01.size
 clear hW0 hbU jS1 hr1 hb01;refine range_outer (gf:=199) (lb:=#[ptr bU]) rfl (enters_of Tryz.func199 (by kernel_rfl) rfl) ?_
 intro fn W1 R hW1 hR;obtain⟨D,hD⟩:∃ D,D=W0.heap.size:=⟨_,rfl⟩;have hDw:w.heap.size≤D:=by rw[hD];exact hb02.size
 have hAb:AbR w o o1 y S x.log.undos D w.heap.size bU (.slice pa x.log.undos.length cp) R S.H W1:=by
  have hb12:Below W0.heap.size W0 W1:=by rw[hW1];exact balloc (balloc (bsame _) _) _
  refine⟨H.out.below (btrans hb02 hb12),?_,?_,jS2.below hb12 jS2.lt,jU2.below hb12 jU2.lt,hr2.below hb12,HS.out.trans (Stp.of_below (btrans hb02 hb12)),HB.out _ (by omega),HB.out _ (by omega),HB.out _ (Nat.le_refl _),HB.out _ hUw⟩
  ·rw[hW1,hD];have:=World.alloc_heap_new (W0.alloc (.deferred (some []))) (.loop R);rwa [World.size_alloc]at this
  ·rw[hW1,hD];exact (Below.heap_alloc _ _ _ (by simp)).trans (World.alloc_heap_new W0 _)
 rw[←hD];have HR:=Lib.hid hR;have hRs:R.params.size=2:=by rw[hR];rfl
 have HRS:=Lib.hid hRs;clear hW1 hD hR hRs jS2 jU2 hr2 hb02 HB HE HS;obtain⟨us,hus⟩:∃ us,us=x.log.undos:=⟨_,rfl⟩;have HUn:Hid (∀ u ∈ us,(-9223372036854775808≤u.old∧u.old≤9223372036854775807)∧(u.kind=1→0≤u.old)):=by rw[hus];exact fun u hu=>⟨HLF.out.un u hu,HLF.out.kd u hu⟩
 rw[←hus]at hAb HAb ⊢;have HUS:=Lib.hid hus;clear hus;have hlen:us.length≤200:=by rw[HUS.out];have h1:=HLF.out.ok;have:=h1.u;have:=h1.mu;omega
 refine callsIn_of_wp Tryz.func199 rfl trivial ?_ rfl;simp only[Tryz.ntmps199,List.size_toArray,List.length_cons,List.length_nil,Nat.reduceAdd,Nat.reduceSub,Array.replicate_succ,Array.replicate_zero,List.push_toArray,List.append_toArray,List.nil_append,List.cons_append];have cU:W1.cell? ⟨bU,0,none⟩=some (.slice pa us.length cp):=hAb.jU.cell 0;gi_wp2;clear cU;gi_loopw [3] (fun ix wr=>∃ (k:Nat) (o1:Own),ix=.int .i64 ((k:Int)-1)∧k≤us.length∧AbR w o o1 y S us D w.heap.size bU (.slice pa us.length cp) R (S.H.undoL (us.drop k)) wr) (fun ix _=>(intOf ix+1).toNat)
 case atStart=>exact⟨us.length,o1,rfl,Nat.le_refl _,by rw[List.drop_length];exact hAb⟩
 case round =>
  clear hAb HU H o1 jx;obtain⟨k,o1,rfl,hkl,hA⟩:=hrel;obtain⟨wo,rfl⟩:∃ wo:World,wo=wr:=⟨_,rfl⟩;rcases Nat.eq_zero_or_pos k with rfl|hk0
  ·rw[List.drop_zero]at hA
   have hst:R.state≠.busy:=by rw[HR.out];simp
   have hpe:R.pending=none:=by rw[HR.out]
   have HPE:=Lib.hid hpe;have HST:=Lib.hid hst;clear hst hpe hkl;gi_wp2;refine bodyPost_ret (results_none rfl _ _ _) rfl ?_;refine loop_end hA.hL HST.out ?_;intro W4 hW4;have hA4:AbR w o o1 y S us D w.heap.size bU (.slice pa us.length cp) { R with state:=.exhausted } (S.H.undoL us) W4:=by rw[hW4];exact hA.put hDw _
   clear hW4 hA;rw[HPE.out];dsimp only;have hok1:(S.h (S.H.undoL us)).ok:=Stt.ok_undoL HK.out _ fun u hu=>(HUn.out u hu).1
   obtain⟨l1,hl1⟩:∃ l1,l1=S.H.undoL us:=⟨_,rfl⟩;rw[←hl1]at hA4 hok1 HAb;clear hl1;obtain⟨RR,hRR⟩:∃ RR:Loop,RR={ R with state:=.exhausted }:=⟨_,rfl⟩;rw[←hRR]at hA4;clear hRR;have hA4:=hA4.re;obtain⟨o1,ho1⟩:∃ o3,o3=ext o1 W4.heap.size (y.l.id+1,0):=⟨_,rfl⟩;rw[←ho1]at hA4;have hE4:ext o1 W4.heap.size (y.l.id+1,0)=o1:=by rw[ho1];exact ext_ext _ _ _ _ (Nat.le_refl _)
   clear ho1;have hx4:=hA4.st.txs i x HX.out;obtain⟨vr4,vk4,vh4,vu4,hl4⟩:=hx4.log;have HH:=Lib.hid (log_holds hl4 HLF.out.ok (y.l.id+1,0));obtain⟨vt4,jx4,-⟩:=hx4.blk;unfold txCells at jx4;have cx:=jx4.cell;have HOK1:=Lib.hid hok1;have HE4:=Lib.hid hE4;clear hx4 hl4 hok1 hE4;gi_wp2_with (refine⟨trivial,?_⟩;gi_at_call 79;refine (callsIn_wide.2 HH.out).mono ?_;rintro e w5 ⟨v5,rfl,hr5,hb5⟩;obtain⟨pa5,cp5,rfl⟩:=hr5.slc);rw[HE4.out]at hr5;have hA5:=hA4.below hb5;clear hA4 hb5 cx jx4;obtain⟨hs,hhs⟩:∃ hs,hs=x.log.holds:=⟨_,rfl⟩;have HHo:Hid (∀ z ∈ hs,z.2≤1099511627776):=by rw[hhs];exact HLF.out.hv
   have hlen5:hs.length≤200:=by rw[hhs];have h1:=HLF.out.ok;have:=h1.h;have:=h1.mu;omega
   rw[←hhs]at hr5 HAb ⊢;clear hhs HH HE4;gi_loopw [62] (fun ix wr=>∃ (k:Nat) (o1:Own),ix=.int .i64 k∧k≤hs.length∧AbR w o o1 y S us D w.heap.size bU (.slice pa us.length cp) RR (l1.relL (hs.take k)) wr∧Row wr o1 (y.l.id+1,0) 131 2 (.slice pa5 hs.length cp5) hs.length (hcells hs)) (fun ix _=>hs.length-(intOf ix).toNat)
   case atStart=>exact⟨0,o1,rfl,Nat.zero_le _,hA5,hr5⟩
   case round =>
    clear hA5 hr5 o1;obtain⟨k,o1,rfl,hkh,hA,hr⟩:=hrel;obtain⟨wo,rfl⟩:∃ wo:World,wo=wr:=⟨_,rfl⟩;have hA:=hA.re;have hr:=hr.retag (o':=ext o1 wo.heap.size (y.l.id+1,0)) fun b hb=>ext_lt hb
    obtain⟨o1,ho1⟩:∃ o3,o3=ext o1 wo.heap.size (y.l.id+1,0):=⟨_,rfl⟩;rw[←ho1]at hA hr;have tz:o1 wo.heap.size=(y.l.id+1,0):=by rw[ho1];exact ext_ge (Nat.le_refl _)
    clear ho1;by_cases hlt:k<hs.length
    ·have kI:(k:Int)<(hs.length:Int):=by omega
     have hgk:=List.getElem?_eq_getElem hlt;obtain⟨z,hz⟩:∃ z,z=hs[k]:=⟨_,rfl⟩;rw[←hz]at hgk;have htk:hs.take (k+1)=hs.take k++[z]:=by rw[hz];exact List.take_succ_eq_append_getElem hlt
     have hz2:=HHo.out z (List.mem_of_getElem? hgk);rcases hr.form4 with ⟨_,h0⟩|⟨g,cap,e,hn⟩
     ·have:=hcells_at hs k z hgk
      rw[h0]at this;simp at this
     ·injection e with e1 _ e3
      subst e1 e3;obtain⟨r0,r1⟩:=hr.cell2 k z hgk;obtain⟨p,v⟩:=z;have q0:wo.cell? ⟨g,k*2,none⟩=some (.int .i64 p):=r0;have q1:wo.cell? ⟨g,k*2+1,none⟩=some (.int .i64 v):=r1;clear r0 r1;simp only at hz2;have hok:(S.h (l1.relL (hs.take k))).ok:=Stt.ok_relL _ (S:=S.h l1) HOK1.out fun u hu=>HHo.out u (List.mem_of_mem_take hu)
      have hstep:l1.relL (hs.take (k+1))=(l1.relL (hs.take k)).rel1 (p,v):=by rw[htk];exact relL_snoc _ _ _
      have HST:=Lib.hid hstep;obtain⟨l2,hl2⟩:∃ l2,l2=l1.relL (hs.take k):=⟨_,rfl⟩;rw[←hl2]at hA hok HST;clear hl2 hstep htk hz hgk;have HR1:=Lib.hid (release_in (hA.st.below (balloc (bsame _) (.cells #[.int .i64 p,.int .i64 v] 131))) hok p v hz2);have jz1:=Blk.new wo #[.int .i64 p,.int .i64 v] 131;have hA1:=hA.below (balloc (bsame _) (.cells #[.int .i64 p,.int .i64 v] 131));have hr1:=hr.below (balloc (bsame _) (.cells #[.int .i64 p,.int .i64 v] 131));have hwo:w.heap.size≤wo.heap.size:=hA.sp.size;have cS:=hA.jS.cell 0;have sS:=hA.jS.lt;have HOK2:=Lib.hid (Stt.ok_com1 hok p hz2);clear hA hr hok hz2;by_cases hv:v=0
      ·have hvb:((v:Int)==0)=true:=by rw[beq_iff_eq];omega
       have hro:l2.rel1 (p,v)=((l2.setSecondR p (2*v)).1.setFreedR p true).1:=by unfold Hp.rel1;rw[if_pos hv]
       rw[hro]at HST;clear hv hro;gi_wp2_with (refine⟨trivial,?_⟩;gi_at_call 84;refine (callsIn_wide.2 HR1.out).mono ?_;rintro e w2 ⟨rfl,o2,hS2,hs2⟩;have hA2:=hA1.of_stp hs2 hS2;have hr2:=hr1.stp hs2 (stTag_box y);have jz2:=jz1.stp hs2 (by rw[tz];exact stTag_box y);clear cS sS;have cz:=jz2.cell;have cS:=hA2.jS.cell 0;obtain⟨vq2,vl2,vm2,jb,-⟩:=hS2.blk;unfold stCells at jb;have cb:=jb.cell 0)
       have HC:=Lib.hid (s_setfreed (hS2.below (bdrew (bsame _))) HOK2.out p true);refine wpIn_region_tail (openW _) 6 (by kernel_rfl) (by kernel_rfl) (by kernel_rfl) ?_
       simp only[List.take_succ_cons,List.take_zero,List.drop_succ_cons,List.drop_zero]
       repeat still_step
       try refine wpStill_nil ?_
       gi_wp2_with (refine⟨trivial,?_⟩;gi_at_call 121;refine (callsIn_wide.2 HC.out).mono ?_;rintro e w3 ⟨rfl,o3,hS3,hs3⟩);have hA3:=(hA2.below (bdrew (bsame _))).of_stp hs3 hS3;have hr3:=(hr2.below (bdrew (bsame _))).stp hs3 (stTag_box y);go_roundw
       case rel=>exact⟨k+1,o3,by simp,by omega,by rw[HST.out];exact hA3,hr3⟩
       case measure=>simp[intOf];omega
      ·have hvb:((v:Int)==0)=false:=by rw[beq_eq_false_iff_ne];omega
       have hro:l2.rel1 (p,v)=(l2.setSecondR p (2*v)).1:=by unfold Hp.rel1;rw[if_neg hv]
       rw[hro]at HST;clear hv hro;gi_wp2_with (refine⟨trivial,?_⟩;gi_at_call 84;refine (callsIn_wide.2 HR1.out).mono ?_;rintro e w2 ⟨rfl,o2,hS2,hs2⟩;have hA2:=hA1.of_stp hs2 hS2;have hr2:=hr1.stp hs2 (stTag_box y);have jz2:=jz1.stp hs2 (by rw[tz];exact stTag_box y);clear cS sS;have cz:=jz2.cell)
       go_roundw
       case rel=>exact⟨k+1,o2,by simp,by omega,by rw[HST.out];exact hA2,hr2⟩
       case measure=>simp[intOf];omega
    ·obtain rfl:k=hs.length:=by omega
     rw[List.take_length]at hA;obtain⟨l2,hl2⟩:∃ l2,l2=l1.relL hs:=⟨_,rfl⟩;rw[←hl2]at hA HAb;clear hl2;obtain⟨vq,vl,vm,jb,hrows⟩:=hA.st.blk;replace jb:Blk wo y.sb #[ptr y.l.h,ptr y.cy,ptr y.ck,y.vth,vq,.int .i64 S.next,.int .i64 S.holder,.int .i64 S.version,vl,vm] 101:=jb;have cb:=jb.cell;have zb:=jb.free;have sb:=jb.lt;obtain⟨vt5,jx5,hrt⟩:=(hA.st.txs i x HX.out).blk;unfold txCells at jx5;have cx:=jx5.cell;have cS:=hA.jS.cell 0;have sS:=hA.jS.lt;have hab1:S.holder≠(i:Int)→S.abort i=(S.h l2).tx i x.ended:=fun hh=>by
      rw[HAb.out];unfold Stt.untake;rw[if_neg (show ¬(S.h l2).holder=(i:Int) from hh)]
     have hab2:S.holder=(i:Int)→S.abort i=({ S.h l2 with queue:=x.took++S.queue,holder:=-1 }:Stt).tx i x.ended:=fun hh=>by
      rw[HAb.out];unfold Stt.untake;rw[if_pos (show (S.h l2).holder=(i:Int) from hh),HXE.out];rfl
     have HAB1:=Lib.hid hab1;have HAB2:=Lib.hid hab2;clear hlt hab1 hab2;by_cases hh:S.holder=(i:Int)
     ·have hhb:(S.holder==(i:Int))=true:=by rw[hh];exact beq_self_eq_true _
      have hq2:Row wo o1 (y.l.id,13) 117 2 vq S.queue.length (hcells S.queue):=hrows.q;have hl2:Row wo o1 (y.l.id,14) 3 1 vl S.lost.length (S.lost.map nv):=hrows.l;have hm2:Row wo o1 (y.l.id,15) 3 1 vm S.came.length (S.came.map nv):=hrows.m;have ht1:x.took.length≤1099511627776:=by have h1:=tookN_ge _ _ _ HX.out;have h2:=HK.out.qu;have h3:=HK.out.nx2;omega
      have ht2:S.queue.length≤1099511627776:=by have h2:=HK.out.qu;have h3:=HK.out.nx2;omega
      obtain⟨pt,ct,rfl⟩:=hrt.slc;obtain⟨pq,cq,rfl⟩:=hq2.slc;clear hrows;have HCc:=Lib.hid (concat_any (Blk.new wo.drew.drew #[.slice pt x.took.length ct,.slice pq S.queue.length cq] 99) ((hrt.below (bdrew (bdrew (bsame wo)))).below (balloc (bsame _) _)) ((hq2.below (bdrew (bdrew (bsame wo)))).below (balloc (bsame _) _)) ht1 ht2);have hos:o1 y.sb=(y.l.id,11):=hA.st.os;have hW5:=Lib.hid (fun (w4:World) (v4:Value) (hb4:Below (wo.drew.drew.alloc (.cells #[.slice pt x.took.length ct,.slice pq S.queue.length cq] 99)).heap.size (wo.drew.drew.alloc (.cells #[.slice pt x.took.length ct,.slice pq S.queue.length cq] 99)) w4)
        (hr4:Row w4 (fo (wo.drew.drew.alloc (.cells #[.slice pt x.took.length ct,.slice pq S.queue.length cq] 99)).heap.size) (1,0) 117 2 v4 (x.took++S.queue).length (hcells (x.took++S.queue))) =>
       show ∃ (vq':Value) (o2:Own),Stp (ownTag y) o1 o2 wo (w4.setCell ⟨y.sb,4,none⟩ v4)∧Blk (w4.setCell ⟨y.sb,4,none⟩ v4) y.sb #[ptr y.l.h,ptr y.cy,ptr y.ck,y.vth,vq',.int .i64 S.next,.int .i64 S.holder,.int .i64 S.version,vl,vm] 101 ∧
         StRows (w4.setCell ⟨y.sb,4,none⟩ v4) o2 y.l.id { S.h l2 with queue:=x.took++S.queue,holder:=-1 } vq' vl vm from by
        have hb5:Below wo.heap.size wo w4:=btrans (balloc (bdrew (bdrew (bsame wo))) _) hb4;have hs5:Stp (ownTag y) o1 (ext o1 (wo.drew.drew.alloc (.cells #[.slice pt x.took.length ct,.slice pq S.queue.length cq] 99)).heap.size (y.l.id,13)) wo w4:=(Stp.of_below hb5).ext _ _ (by simp)
        have hf5:Stp (fun _=>False) o1 (ext o1 (wo.drew.drew.alloc (.cells #[.slice pt x.took.length ct,.slice pq S.queue.length cq] 99)).heap.size (y.l.id,13)) wo w4:=(Stp.of_below hb5).ext _ _ (by simp)
        have ho5:(ext o1 (wo.drew.drew.alloc (.cells #[.slice pt x.took.length ct,.slice pq S.queue.length cq] 99)).heap.size (y.l.id,13)) y.sb=(y.l.id,11):=by rw[ext_lt (by simp;omega)];exact hos
        have hk5:Stp (fun t=>t=(y.l.id,11)) (ext o1 (wo.drew.drew.alloc (.cells #[.slice pt x.took.length ct,.slice pq S.queue.length cq] 99)).heap.size (y.l.id,13)) (ext o1 (wo.drew.drew.alloc (.cells #[.slice pt x.took.length ct,.slice pq S.queue.length cq] 99)).heap.size (y.l.id,13)) w4 (w4.setCell ⟨y.sb,4,none⟩ v4):=(Stp.refl _ _ w4).setCell (by show (ext o1 _ _) y.sb=_;exact ho5) _
        refine⟨v4,_,hs5.trans (hk5.mono fun t ht=>by rw[ht];exact⟨rfl,.inl rfl⟩),?_,(hr4.out o1 (y.l.id,13)).stp hk5 (by simp),?_,?_⟩
        ·exact (jb.below hb5 jb.lt).set 4 v4
        ·exact (hl2.stp hf5 id).stp hk5 (by simp)
        ·exact (hm2.stp hf5 id).stp hk5 (by simp))
      gi_wp2;gi_region;gi_upto_region 18 with fail;gi_cut [] from 92 (fun wc=>∃ (vq':Value) (o2:Own),Stp (ownTag y) o1 o2 wo wc∧Blk wc y.sb #[ptr y.l.h,ptr y.cy,ptr y.ck,y.vth,vq',.int .i64 S.next,.int .i64 S.holder,.int .i64 S.version,vl,vm] 101∧StRows wc o2 y.l.id { S.h l2 with queue:=x.took++S.queue,holder:=-1 } vq' vl vm)
      case first =>
       refine wpIn_calm ?_;gi_region_with (first|(refine⟨trivial,?_⟩;gi_at_call 134;refine (callsIn_wide.2 HCc.out).mono ?_;rintro e w4 ⟨v4,rfl,hr4,hb4⟩;obtain⟨p4,k4,rfl⟩:=hr4.slc;have hb5:Below wo.heap.size wo w4:=btrans (balloc (bdrew (bdrew (bsame wo))) _) hb4;have c4:=(jb.below hb5 jb.lt).cell;have z4:=(jb.below hb5 jb.lt).free;have s4:=(jb.below hb5 jb.lt).lt;have dS:=(hA.jS.below hb5 hA.jS.lt).cell 0)|fail)
       all_goals
        gi_wp2_with fail;gi_meet
        case rel=>exact hW5.out _ _ hb4 (by have hr:=hr4;rw[List.length_append]at hr ⊢;exact hr)
      case rest =>
       obtain⟨vq',o2,hsc,hbc,hrc⟩:=hcut;have hsc':Stp (stTag y) o1 o2 wo wc:=hsc.mono fun _=>stTag_own
       have jSc:=hA.jS.stp hsc' (by rw[hA.tS];exact stTag_box y)
       have lD:=(Array.getElem?_eq_some_iff.1 hA.hD).1;have hDc:=(hsc'.block D lD (by rw[hA.tD];exact stTag_box y)).trans hA.hD
       have tDc:o2 D=(y.l.id+1,0):=(hsc'.tags _ lD).trans hA.tD;have hos2:o2 y.sb=(y.l.id,11):=(hsc.tags _ jb.lt).trans hos;have hk7:Stp (fun t=>t=(y.l.id,11)) o2 o2 wc (wc.setCell ⟨y.sb,6,none⟩ (.int .i64 (-1))):=(Stp.refl _ _ wc).setCell (by show o2 y.sb=_;exact hos2) _
       have hs7:Stp (ownTag y) o1 o2 wo (wc.setCell ⟨y.sb,6,none⟩ (.int .i64 (-1))):=hsc.trans (hk7.mono fun t ht=>by rw[ht];exact⟨rfl,.inl rfl⟩)
       have hS7:StIn (wc.setCell ⟨y.sb,6,none⟩ (.int .i64 (-1))) o2 y { S.h l2 with queue:=x.took++S.queue,holder:=-1 }:=
        hA.st.own rfl rfl rfl rfl rfl (hbc.set 6 (.int .i64 (-1))) (hrc.stp hk7 fun j h1 h2=>by simp;omega) hs7
       have HEn:=Lib.hid (end_in hS7 HX.out);clear cb zb sb cx cS sS;have cb:=hbc.cell;have zb:=hbc.free;have sb:=hbc.lt;have cS:=jSc.cell;have sS:=jSc.lt;gi_wp2_with (refine⟨trivial,?_⟩;gi_at_call 80;refine (callsIn_wide.2 HEn.out).mono ?_;rintro e w6 ⟨rfl,o6,hS6,hs6⟩);have lDc:=(Array.getElem?_eq_some_iff.1 hDc).1;have nD:D≠y.sb:=fun e=>by rw[e]at tDc;rw[hos2]at tDc;injection tDc with h1 _;omega
       have hD6:w6.heap[D]?=some (.deferred (some [])):=(hs6.block D (by simpa [World.setCell] using lDc) (by rw[tDc];exact stTag_box y)).trans ((Below.heap_setCell _ _ _ _ nD).trans hDc)
       have tD6:o6 D=(y.l.id+1,0):=(hs6.tags _ (by simpa [World.setCell] using lDc)).trans tDc
       refine⟨by simp,.inl ⟨_,_,rfl,run_takeDeferred hD6,?_⟩⟩
       refine⟨.tuple #[],by simp[results,Tryz.results73,go_sem],rfl,o6,?_,?_⟩
       ·rw[HAB2.out hh];exact hS6.put tD6 _
       ·exact (hA.sp.trans ((hs7.mono fun _=>stTag_own).trans hs6)).put_new hDw _
     ·have hhb:(S.holder==(i:Int))=false:=by rw[beq_eq_false_iff_ne];exact hh
      have HEn:=Lib.hid (end_in (hA.st.below (bdrew (bsame _))) HX.out);gi_wp2;gi_region;gi_wp2_with (refine⟨trivial,?_⟩;gi_at_call 80;refine (callsIn_wide.2 HEn.out).mono ?_;rintro e w6 ⟨rfl,o6,hS6,hs6⟩);have lD:=(Array.getElem?_eq_some_iff.1 hA.hD).1;have hD6:w6.heap[D]?=some (.deferred (some [])):=(hs6.block D (by simpa using lD) (by rw[hA.tD];exact stTag_box y)).trans hA.hD
      have tD6:o6 D=(y.l.id+1,0):=(hs6.tags _ (by simpa using lD)).trans hA.tD
      refine⟨by simp,.inl ⟨_,_,rfl,run_takeDeferred hD6,?_⟩⟩
      refine⟨.tuple #[],by simp[results,Tryz.results73,go_sem],rfl,o6,?_,?_⟩
      ·rw[HAB1.out hh];exact hS6.put tD6 _
      ·exact (hA.sp.trans ((Stp.of_below (bdrew (bsame _))).trans hs6)).put_new hDw _
  ·obtain⟨j,rfl⟩:∃ j,k=j+1:=⟨k-1,by omega⟩
   have hA:=hA.re;obtain⟨o1,ho1⟩:∃ o3,o3=ext o1 wo.heap.size (y.l.id+1,0):=⟨_,rfl⟩;rw[←ho1]at hA;have tz:o1 wo.heap.size=(y.l.id+1,0):=by rw[ho1];exact ext_ge (Nat.le_refl _)
   clear ho1;rw[show ((j+1:Nat):Int)-1=(j:Int) from by omega]
   have hgj:=List.getElem?_eq_getElem (show j<us.length by omega)
   obtain⟨u,hu⟩:∃ u,u=us[j]:=⟨_,rfl⟩;rw[←hu]at hgj;have hdrop:us.drop j=u::us.drop (j+1):=by rw[hu];exact List.drop_eq_getElem_cons (by omega)
   have hcU:=hA.jU.cell 0;rcases hA.row.form4 with ⟨_,h0⟩|⟨g,cap,e,hn⟩
   ·have:=ucells_at us j u hgj
    rw[h0]at this;simp at this
   ·injection e with e1 _ e3
    subst e1 e3;obtain⟨q0,q1,q2,q3⟩:=hA.row.cell4 j u hgj;have hUu:=HUn.out u (List.mem_of_getElem? hgj);have hok:(S.h (S.H.undoL (us.drop (j+1)))).ok:=Stt.ok_undoL HK.out _ fun u hu=>(HUn.out u (List.mem_of_mem_drop hu)).1
    obtain⟨l,hl⟩:∃ l,l=S.H.undoL (us.drop (j+1)):=⟨_,rfl⟩;have hl2:S.H.undoL (us.drop j)=l.undo1 u:=by rw[hdrop,hl];rfl
    rw[←hl]at hA hok;have HL2:=Lib.hid hl2;clear hl2 hl hdrop hu hgj;have hy:=run_yield (P:=Tryz.prog) (args:=#[.int .i64 j,.agg #[.int .i64 u.kind,.int .i64 u.pos,.int .i64 u.i,.int .i64 u.old]]) hA.hL (by rw[HRS.out];rfl)
    obtain⟨T,hT⟩:∃ T,T=(R.params.zip #[.int .i64 j,.agg #[.int .i64 u.kind,.int .i64 u.pos,.int .i64 u.i,.int .i64 u.old]]).foldl (fun tmps (t,a)=>tmps.setIfInBounds t a) R.tmps:=⟨_,rfl⟩
    rw[←hT]at hy;have HT:=Lib.hid hT;clear hT;have hRd:RoundIn Fence.wide 1 Tryz.prog (D+1) R.fn T R.assign R.body wo fun e W' =>
      e=.returned (.bool true)∧∃ o2,AbR w o o2 y S us D w.heap.size bU (.slice (some ⟨g,0,none⟩) us.length cp) R (l.undo1 u) W':=by
     have hTT:=HT.out;obtain⟨Post,hPost⟩:∃ Post:Ending→World→Prop,Post=fun e W'=>e=.returned (.bool true)∧∃ o2,AbR w o o2 y S us D w.heap.size bU (.slice (some ⟨g,0,none⟩) us.length cp) R (l.undo1 u) W':=⟨_,rfl⟩
     rw[←hPost,hTT];have HPost:=Lib.hid hPost;clear hPost hTT HT hy q0 q1 q2 q3 hcU;have hst:R.state=.ready:=by rw[HR.out]
     have hpe:R.pending=none:=by rw[HR.out]
     have HST:=Lib.hid hst;have HPE:=Lib.hid hpe;clear hst hpe;rw[HR.out];refine roundIn_of_wpIn trivial ?_;gi_wp2;obtain⟨W2,hW2⟩:∃ W2,W2=wo.alloc (.cells #[.int .i64 u.kind,.int .i64 u.pos,.int .i64 u.i,.int .i64 u.old] 175):=⟨_,rfl⟩;rw[←hW2];have hA2:AbR w o o1 y S us D w.heap.size bU (.slice (some ⟨g,0,none⟩) us.length cp) R l W2:=by rw[hW2];exact hA.below (balloc (bsame _) _)
     have jB2:Blk W2 wo.heap.size #[.int .i64 u.kind,.int .i64 u.pos,.int .i64 u.i,.int .i64 u.old] 175:=by rw[hW2];exact Blk.new _ _ _
     have hDo:D+1<wo.heap.size:=(Array.getElem?_eq_some_iff.1 hA.hL).1;have hwo:w.heap.size≤wo.heap.size:=hA.sp.size;obtain⟨bu,hbu⟩:∃ bu,bu=wo.heap.size:=⟨_,rfl⟩;rw[←hbu]at jB2 hDo hwo tz ⊢;clear hW2 hA hbu;refine begin_then hA2.hL HST.out ?_;intro W3 hW3 kL3;have hA3:AbR w o o1 y S us D w.heap.size bU (.slice (some ⟨g,0,none⟩) us.length cp) { R with state:=.busy } l W3:=by rw[hW3];exact hA2.put hDw _
     have jB3:Blk W3 bu #[.int .i64 u.kind,.int .i64 u.pos,.int .i64 u.i,.int .i64 u.old] 175:=by rw[hW3];exact jB2.put (by omega)
     clear hW3 hA2 jB2 kL3;have hend:=Lib.hid (fun (W4:World) (o4:Own) (hA4:AbR w o o4 y S us D w.heap.size bU (.slice (some ⟨g,0,none⟩) us.length cp) { R with state:=.busy } (l.undo1 u) W4) =>
      show ∃ v w5,(Instr.endRound (D+1) none).run Tryz.prog W4=.ok v w5∧Post (.returned v) w5 from by
       refine end_go hA4.hL HST.out HPE.out ?_;intro W5 hW5 _;rw[HPost.out];exact⟨rfl,o4,by rw[hW5];exact hA4.put hDw R⟩)
     have cS:=hA3.jS.cell 0;obtain⟨vq3,vl3,vm3,jb,-⟩:=hA3.st.blk;unfold stCells at jb;have cb:=jb.cell 0;have cB:=jB3.cell;have HA3:=Lib.hid hA3;have HOK:=Lib.hid hok;obtain⟨kd,ps,ui,od⟩:=u;simp only at hUu jB3 cB;clear hA3 hok jb;by_cases k1:kd=1
     ·subst k1
      obtain⟨q,rfl⟩:∃ q:Nat,od=q:=⟨od.toNat,by have:=hUu.2 rfl;omega⟩
      have hun:l.undo1 ⟨1,ps,ui,(q:Int)⟩=(l.setPtrR ps ui q).1:=by unfold Hp.undo1;rw[if_pos rfl];simp
      rw[hun]at hend;have HC:=Lib.hid (s_setptr (HA3.out.st.below (bdrew (bsame _))) HOK.out ps ui q);clear hun hUu;gi_wp2;refine wpIn_region_tail (openR _ _) 10 (by kernel_rfl) (by kernel_rfl) (by kernel_rfl) ?_
      simp only[List.take_succ_cons,List.take_zero,List.drop_succ_cons,List.drop_zero]
      repeat still_step
      try refine wpStill_nil ?_
      gi_wp2_with (refine⟨trivial,?_⟩;gi_at_call 113;refine CallsIn.mono (CallsIn.inRound _ (callsIn_wide.2 HC.out)) ?_;rintro e w4 ⟨rfl,o4,hS4,hs4⟩);exact hend.out _ _ ((HA3.out.below (bdrew (bsame _))).of_stp hs4 hS4)
     ·by_cases k2:kd=2
      ·subst k2
       have hun:l.undo1 ⟨2,ps,ui,od⟩=(l.setNumR ps ui od).1:=by unfold Hp.undo1;rw[if_neg (by simp),if_pos rfl]
       rw[hun]at hend;have HC:=Lib.hid (s_setnum (HA3.out.st.below (bdrew (bsame _))) HOK.out ps ui od hUu.1);clear hun hUu k1;gi_wp2;refine wpIn_region_tail (openR _ _) 10 (by kernel_rfl) (by kernel_rfl) (by kernel_rfl) ?_
       simp only[List.take_succ_cons,List.take_zero,List.drop_succ_cons,List.drop_zero]
       repeat still_step
       try refine wpStill_nil ?_
       gi_wp2_with (refine⟨trivial,?_⟩;gi_at_call 110;refine CallsIn.mono (CallsIn.inRound _ (callsIn_wide.2 HC.out)) ?_;rintro e w4 ⟨rfl,o4,hS4,hs4⟩);exact hend.out _ _ ((HA3.out.below (bdrew (bsame _))).of_stp hs4 hS4)
      ·by_cases k3:kd=3
       ·subst k3
        obtain⟨fb,hfb⟩:∃ fb,fb=decide (od≠0):=⟨_,rfl⟩;have hun:l.undo1 ⟨3,ps,ui,od⟩=(l.setFreedR ps fb).1:=by unfold Hp.undo1;rw[if_neg (by simp),if_neg (by simp),if_pos rfl,hfb]
        rw[hun]at hend;have hfb2:(od != 0)=fb:=by rw[hfb];by_cases h:od=0<;>simp[h]
        have HC:=Lib.hid (s_setfreed (HA3.out.st.below (bdrew (bsame _))) HOK.out ps fb);clear hun hUu k1 k2 hfb;gi_wp2;refine wpIn_region_tail (openR _ _) 9 (by kernel_rfl) (by kernel_rfl) (by kernel_rfl) ?_
        simp only[List.take_succ_cons,List.take_zero,List.drop_succ_cons,List.drop_zero]
        repeat still_step
        try refine wpStill_nil ?_
        gi_wp2_with (refine⟨trivial,?_⟩;gi_at_call 121;refine CallsIn.mono (CallsIn.inRound _ (callsIn_wide.2 HC.out)) ?_;rintro e w4 ⟨rfl,o4,hS4,hs4⟩);exact hend.out _ _ ((HA3.out.below (bdrew (bsame _))).of_stp hs4 hS4)
       ·have hun:l.undo1 ⟨kd,ps,ui,od⟩=l:=by unfold Hp.undo1;rw[if_neg k1,if_neg k2,if_neg k3]
        rw[hun]at hend;have b1:((kd:Int)==1)=false:=by rw[beq_eq_false_iff_ne];omega
        have b2:((kd:Int)==2)=false:=by rw[beq_eq_false_iff_ne];omega
        have b3:((kd:Int)==3)=false:=by rw[beq_eq_false_iff_ne];omega
        clear hun hUu k1 k2 k3;gi_wp2;exact hend.out _ _ HA3.out
    gi_wp2;refine hRd.mono ?_
    rintro e w3 ⟨rfl,o3,hA3⟩
    clear hy hRd q0 q1 q2 q3 hcU;gi_wp2;go_roundw
    case rel=>exact⟨j,o3,by simp,by omega,by rw[HL2.out];exact hA3⟩
    case measure=>simp[intOf]
end
end Go.Proofs.YteehgedabdchcaaGreat
