import Derived.Test.YteehgedabdchcaaGreatKam
set_option linter.all false
set_option maxRecDepth 1000000
set_option maxHeartbeats 0
open Go renaming World->Aa,Calls->Ab,Value->Ac
open Go.RowKit renaming Below->Ae
open Go.Value renaming int->I,slice->Ai,tuple->Ak,agg->Al
open Go.IntKind renaming i64->Z
open Go.Ending renaming returned->O
open List renaming take_succ_cons->Ad,drop_succ_cons->Aj,drop_zero->aa,take_zero->af,append_toArray->ai,size_toArray->ay,push_toArray->aA,cons_append->aB,length_nil->aC,nil_append->aD
open Go.CallsIn renaming inRound->ag,mono->aj
open Go.Proofs.Tryz
open Go.Obj renaming cells->AIe
namespace Go.Proofs.YteehgedabdchcaaGreat
open Go.RowKit Go.Shelf Hp
attribute [local go_sem] Oper.semAt_some
section
variable {w w' : Aa} {o o' : Own} {y : Bj} {S : Am} {i : Nat}
def VN (h0:Av w o y S) (hk:S.ok) (hi:i<S.Au.length) :
  Ab Tryz.prog 73 #[ptr y.sb,ptr (y.xb i)] w fun e w'=>e=O (Ak #[])/\BK y (S.abort i) o w w':=by
 obtain⟨o1,ho1⟩:∃ o1,o1=ext o w.1.size (y.l.id+1,0):=⟨_,rfl⟩;have h:=h0.retag (o':=o1) fun b hb=>by rw[ho1];exact qj hb
 have hS0:Stp (qh y) o o1 w w:=by rw[ho1];exact (Stp.refl _ o w).ext _ _ (Qk _)
 have hbx:∀ b,w.1.size<=b->o1 b=(y.l.id+1,0):=fun b hb=>by rw[ho1];exact qp hb
 have dU:∀ n,w.1.size<=n->ext o1 n (y.l.id+1,0)=o1:=fun n hn=>by rw[ho1];exact QZ _ _ _ _ hn
 clear ho1 h0;have hx:=Am.AV hi;obtain⟨x,hxe⟩:=Ja0 (S.t i);rw[<-hxe]at hx;have hlf:=hk.Er hi;rw[<-hxe]at hlf;have hx':=h.Au i x hx;obtain⟨vr,vk,vh,vu,hl⟩:=hx'.log;have HU:=Qa (fun w' (hw:Ae w.1.size w w')=>qo6 (hl.below hw) hlf.ok (y.l.id+1,0))
 have HBk:=Qa YG;obtain⟨vt0,jx,-⟩:=hx'.A2;unfold zg at jx;have uG:QO (S.abort i=((S.h ((S.H.Bf x.log.Az).BQ x.log.holds)).BN i).tx i x.ended):=by unfold Am.abort;rw[<-hxe];exact rfl
 have H:=Qa h;have HK:=Qa hk;have HS:=Qa hS0;have HB:=Qa hbx;have HE:=Qa dU;have HX:=Qa hx;have yM:=Qa hlf;have HI:=Qa hi;have HXE:=Qa hxe;clear h hk hS0 hbx dU hx hx' hl hlf hxe hi;refine (callsIn_wide (n:=3)).1 ?_;refine callsIn_of_wp_marks func73 rfl trivial ?_ rfl;simp only[ntmps73,ay,Qv,aC,Nat.reduceAdd,Nat.reduceSub,Array.replicate_succ,Array.replicate_zero,aA,ai,aD,aB];have cx:=(jx.alloc (AIe #[ptr y.sb] 24)).cell;gi_wp2_with (refine⟨trivial,?_⟩;first
  | (gi_at_call 133;refine (callsIn_wide.2 (HU.o _ (qa (qc w) _))).mono ?_;rintro e w1 ⟨v1,rfl,hr1,hb1⟩;obtain⟨pa,cp,rfl⟩:=hr1.A5)
  | (gi_at_call 132;refine (callsIn_wide.2 (HBk.o _ _ _ _)).mono ?_;rintro e w2 ⟨rfl,rfl⟩))
 rw[HE.o _ (by simp)]at hr1
 have xC:=qd (qa (qc w) (AIe #[ptr y.sb] 24)) hb1;have nK:=(An.new w #[ptr y.sb] 24).below hb1 (by simp)
 clear hb1 cx;obtain⟨W0,hW0⟩:=Ja0 (w1.alloc (AIe #[.slice pa x.log.Az.length cp] 212));rw[<-hW0];obtain⟨bU,hbU⟩:=Ja0 w1.1.size;rw[<-hbU];have jT:Ae w.1.size w W0:=by rw[hW0];exact qa xC _
 have dJ:An W0 w.1.size #[ptr y.sb] 24:=by rw[hW0];exact nK.alloc _
 have uA:An W0 bU #[.slice pa x.log.Az.length cp] 212:=by rw[hW0];exact An.Ax _ _ _ _ _ hbU rfl
 have hr2:Row W0 o1 (y.l.id+1,0) 175 4 (.slice pa x.log.Az.length cp) x.log.Az.length (qz x.log.Az):=by rw[hW0];exact hr1.below (qa (qc _) _)
 have hUw:w.1.size<=bU:=by rw[hbU];exact xC.size
 clear hW0 hbU nK hr1 xC;refine yj (gf:=199) (lb:=#[ptr bU]) rfl (enters_of func199 (by kernel_rfl) rfl) ?_
 intro fn W1 R hW1 hR;obtain⟨D,hD⟩:=Ja0 W0.1.size;have jM:w.1.size<=D:=by rw[hD];exact jT.size
 have hAb:ED w o o1 y S x.log.Az D w.1.size bU (.slice pa x.log.Az.length cp) R S.H W1:=by
  have dE:Ae W0.1.size W0 W1:=by rw[hW1];exact qa (qa (qc _) _) _
  refine⟨H.o.below (qd jT dE),?_,?_,dJ.below dE dJ.lt,uA.below dE uA.lt,hr2.below dE,HS.o.trans (Stp.of_below (qd jT dE)),HB.o _ (by omega),HB.o _ (by omega),HB.o _ (Qk _),HB.o _ hUw⟩
  ·rw[hW1,hD];have:=World.alloc_heap_new (W0.alloc (.deferred (some []))) (.loop R);rwa [World.size_alloc]at this
  ·rw[hW1,hD];exact (Below.heap_alloc _ _ _ (by simp)).trans (World.alloc_heap_new W0 _)
 rw[<-hD];have HR:=Qa hR;have hRs:R.params.size=2:=by rw[hR];rfl
 have HRS:=Qa hRs;clear hW1 hD hR hRs dJ uA hr2 jT HB HE HS;obtain⟨us,lQ⟩:=Ja0 x.log.Az;have HUn:QO (∀ u ∈ us,(-9223372036854775808<=u.old/\u.old<=9223372036854775807)/\(u.kind=1->0<=u.old)):=by rw[lQ];exact fun u hu=>⟨yM.o.un u hu,yM.o.kd u hu⟩
 rw[<-lQ]at hAb uG ⊢;have HUS:=Qa lQ;clear lQ;have hlen:us.length<=200:=by rw[HUS.o];have h1:=yM.o.ok;have:=h1.u;have:=h1.mu;omega
 refine callsIn_of_wp func199 rfl trivial ?_ rfl;simp only[ntmps199,ay,Qv,aC,Nat.reduceAdd,Nat.reduceSub,Array.replicate_succ,Array.replicate_zero,aA,ai,aD,aB];have cU:W1.cell? ⟨bU,0,none⟩=some (.slice pa us.length cp):=hAb.jU.cell 0;gi_wp2;clear cU;gi_loopw [3] (fun ix wr=>∃ (k:Nat) (o1:Own),ix=I Z ((k:Int)-1)/\k<=us.length/\ED w o o1 y S us D w.1.size bU (.slice pa us.length cp) R (S.H.Bf (us.drop k)) wr) (fun ix _=>(intOf ix+1).toNat)
 case atStart=>exact⟨us.length,o1,rfl,Qk _,by rw[List.drop_length];exact hAb⟩
 case round =>
  clear hAb HU H o1 jx;obtain⟨k,o1,rfl,hkl,hA⟩:=hrel;obtain⟨wo,rfl⟩:=Ja0 wr;rcases Nat.eq_zero_or_pos k with rfl|hk0
  ·rw[aa]at hA
   have hst:R.state≠.busy:=by rw[HR.o];simp
   have hpe:R.pending=none:=by rw[HR.o]
   have kW:=Qa hpe;have HST:=Qa hst;clear hst hpe hkl;gi_wp2;refine bodyPost_ret (results_none rfl _ _ _) rfl ?_;refine ba hA.hL HST.o ?_;intro W4 eD;have fD:ED w o o1 y S us D w.1.size bU (.slice pa us.length cp) { R with state:=.exhausted } (S.H.Bf us) W4:=by rw[eD];exact hA.put jM _
   clear eD hA;rw[kW.o];dsimp only;have hok1:(S.h (S.H.Bf us)).ok:=Am.D7 HK.o _ fun u hu=>(HUn.out u hu).1;obtain⟨l1,hl1⟩:=Ja0 (S.H.Bf us);rw[<-hl1]at fD hok1 uG;clear hl1;obtain⟨RR,hRR⟩:∃ RR:Loop,RR={ R with state:=.exhausted }:=⟨_,rfl⟩;rw[<-hRR]at fD;clear hRR;have fD:=fD.re;obtain⟨o1,ho1⟩:∃ o3,o3=ext o1 W4.1.size (y.l.id+1,0):=⟨_,rfl⟩;rw[<-ho1]at fD;have yY:ext o1 W4.1.size (y.l.id+1,0)=o1:=by rw[ho1];exact QZ _ _ _ _ (Qk _)
   clear ho1;have hx4:=fD.st.Au i x HX.o;obtain⟨vr4,vk4,vh4,vu4,hl4⟩:=hx4.log;have HH:=Qa (Tg hl4 yM.o.ok (y.l.id+1,0));obtain⟨vt4,jx4,-⟩:=hx4.A2;unfold zg at jx4;have cx:=jx4.cell;have Aij:=Qa hok1;have HE4:=Qa yY;clear hx4 hl4 hok1 yY;gi_wp2_with (refine⟨trivial,?_⟩;gi_at_call 79;refine (callsIn_wide.2 HH.o).mono ?_;rintro e w5 ⟨v5,rfl,eF,hb5⟩;obtain⟨pa5,qL,rfl⟩:=eF.A5);rw[HE4.o]at eF;have fZ:=fD.below hb5;clear fD hb5 cx jx4;obtain⟨hs,dN⟩:=Ja0 x.log.holds;have HHo:QO (∀ z ∈ hs,z.2<=1099511627776):=by rw[dN];exact yM.o.hv
   have Art:hs.length<=200:=by rw[dN];have h1:=yM.o.ok;have:=h1.h;have:=h1.mu;omega
   rw[<-dN]at eF uG ⊢;clear dN HH HE4;gi_loopw [62] (fun ix wr=>∃ (k:Nat) (o1:Own),ix=I Z k/\k<=hs.length/\ED w o o1 y S us D w.1.size bU (.slice pa us.length cp) RR (l1.BQ (hs.take k)) wr/\Row wr o1 (y.l.id+1,0) 131 2 (.slice pa5 hs.length qL) hs.length (qg hs)) (fun ix _=>hs.length-(intOf ix).toNat)
   case atStart=>exact⟨0,o1,rfl,Nat.zero_le _,fZ,eF⟩
   case round =>
    clear fZ eF o1;obtain⟨k,o1,rfl,hkh,hA,hr⟩:=hrel;obtain⟨wo,rfl⟩:=Ja0 wr;have hA:=hA.re;have hr:=hr.retag (o':=ext o1 wo.1.size (y.l.id+1,0)) fun b hb=>qj hb;obtain⟨o1,ho1⟩:∃ o3,o3=ext o1 wo.1.size (y.l.id+1,0):=⟨_,rfl⟩;rw[<-ho1]at hA hr;have tz:o1 wo.1.size=(y.l.id+1,0):=by rw[ho1];exact qp (Qk _)
    clear ho1;by_cases hlt:k<hs.length
    ·have kI:(k:Int)<(hs.length:Int):=by omega
     have kF:=Qb hlt;obtain⟨z,hz⟩:=Ja0 (hs[k]);rw[<-hz]at kF;have htk:hs.take (k+1)=hs.take k++[z]:=by rw[hz];exact List.take_succ_eq_append_getElem hlt
     have hz2:=HHo.out z (Qe kF);rcases hr.Dv with ⟨_,h0⟩|⟨g,cap,e,hn⟩
     ·have:=yx hs k z kF
      rw[h0]at this;simp at this
     ·injection e with e1 _ e3
      subst e1 e3;obtain⟨r0,r1⟩:=hr.Fc k z kF;obtain⟨p,v⟩:=z;have q0:wo.cell? ⟨g,k*2,none⟩=some (I Z p):=r0;have q1:wo.cell? ⟨g,k*2+1,none⟩=some (I Z v):=r1;clear r0 r1;simp only at hz2;have hok:(S.h (l1.BQ (hs.take k))).ok:=Am.EY _ (S:=S.h l1) Aij.o fun u hu=>HHo.out u (List.mem_of_mem_take hu);have hstep:l1.BQ (hs.take (k+1))=(l1.BQ (hs.take k)).Dg (p,v):=by rw[htk];exact qn7 _ _ _
      have HST:=Qa hstep;obtain⟨l2,hl2⟩:=Ja0 (l1.BQ (hs.take k));rw[<-hl2]at hA hok HST;clear hl2 hstep htk hz kF;have HR1:=Qa (qme (hA.st.below (qa (qc _) (AIe #[p,v] 131))) hok p v hz2);have jz1:=An.new wo #[p,v] 131;have hA1:=hA.below (qa (qc _) (AIe #[p,v] 131));have hr1:=hr.below (qa (qc _) (AIe #[p,v] 131));have hwo:w.1.size<=wo.1.size:=hA.sp.size;have cS:=hA.jS.cell 0;have sS:=hA.jS.lt;have Aik:=Qa (Am.F3 hok p hz2);clear hA hr hok hz2;by_cases hv:v=0
      ·have hvb:((v:Int)==0)=true:=by rw[beq_iff_eq];omega
       have hro:l2.Dg (p,v)=((l2.AK p (2*v)).1.AX p true).1:=by unfold Hp.Dg;rw[if_pos hv]
       rw[hro]at HST;clear hv hro;gi_wp2_with (refine⟨trivial,?_⟩;gi_at_call 84;refine (callsIn_wide.2 HR1.o).mono ?_;rintro e w2 ⟨rfl,o2,hS2,hs2⟩;have hA2:=hA1.C8 hs2 hS2;have hr2:=hr1.Ar hs2 (qo y);have jz2:=jz1.Ar hs2 (by rw[tz];exact qo y);clear cS sS;have cz:=jz2.cell;have cS:=hA2.jS.cell 0;obtain⟨vq2,vl2,vm2,jb,-⟩:=hS2.A2;unfold qk at jb;have cb:=jb.cell 0)
       have HC:=Qa (m9 (hS2.below (qe (qc _))) Aik.o p true);refine wm (QV _) 6 (by kernel_rfl) (by kernel_rfl) (by kernel_rfl) ?_
       simp only[Ad,af,Aj,aa];repeat still_step
       try refine wpStill_nil ?_
       gi_wp2_with (refine⟨trivial,?_⟩;gi_at_call 121;refine (callsIn_wide.2 HC.o).mono ?_;rintro e w3 ⟨rfl,o3,dC,hs3⟩);have hA3:=(hA2.below (qe (qc _))).C8 hs3 dC;have hr3:=(hr2.below (qe (qc _))).Ar hs3 (qo y);go_roundw
       case rel=>exact⟨k+1,o3,by simp,by omega,by rw[HST.o];exact hA3,hr3⟩
       case measure=>simp[intOf];omega
      ·have hvb:((v:Int)==0)=false:=by rw[Qh];omega
       have hro:l2.Dg (p,v)=(l2.AK p (2*v)).1:=by unfold Hp.Dg;rw[if_neg hv]
       rw[hro]at HST;clear hv hro;gi_wp2_with (refine⟨trivial,?_⟩;gi_at_call 84;refine (callsIn_wide.2 HR1.o).mono ?_;rintro e w2 ⟨rfl,o2,hS2,hs2⟩;have hA2:=hA1.C8 hs2 hS2;have hr2:=hr1.Ar hs2 (qo y);have jz2:=jz1.Ar hs2 (by rw[tz];exact qo y);clear cS sS;have cz:=jz2.cell)
       go_roundw
       case rel=>exact⟨k+1,o2,by simp,by omega,by rw[HST.o];exact hA2,hr2⟩
       case measure=>simp[intOf];omega
    ·obtain rfl:k=hs.length:=by omega
     rw[List.take_length]at hA;obtain⟨l2,hl2⟩:=Ja0 (l1.BQ hs);rw[<-hl2]at hA uG;clear hl2;obtain⟨vq,vl,vm,jb,hrows⟩:=hA.st.A2;replace jb:An wo y.sb #[ptr y.l.h,ptr y.cy,ptr y.ck,y.Fz,vq,S.next,S.Aw,S.version,vl,vm] 101:=jb;have cb:=jb.cell;have zb:=jb.free;have sb:=jb.lt;obtain⟨vt5,jx5,hrt⟩:=(hA.st.Au i x HX.o).A2;unfold zg at jx5;have cx:=jx5.cell;have cS:=hA.jS.cell 0;have sS:=hA.jS.lt;have Acm:S.Aw≠(i:Int)->S.abort i=(S.h l2).tx i x.ended:=fun hh=>by
      rw[uG.out];unfold Am.BN;rw[if_neg (show ¬(S.h l2).Aw=(i:Int) from hh)]
     have Acn:S.Aw=(i:Int)->S.abort i=({ S.h l2 with queue:=x.AZ++S.queue,Aw:=-1 }:Am).tx i x.ended:=fun hh=>by
      rw[uG.out];unfold Am.BN;rw[if_pos (show (S.h l2).Aw=(i:Int) from hh),HXE.o];rfl
     have Ahi:=Qa Acm;have Ahj:=Qa Acn;clear hlt Acm Acn;by_cases hh:S.Aw=(i:Int)
     ·have uZ:(S.Aw==(i:Int))=true:=by rw[hh];exact beq_self_eq_true _
      have hq2:Row wo o1 (y.l.id,13) 117 2 vq S.queue.length (qg S.queue):=hrows.q;have hl2:Row wo o1 (y.l.id,14) 3 1 vl S.lost.length (S.lost.map nv):=hrows.l;have hm2:Row wo o1 (y.l.id,15) 3 1 vm S.came.length (S.came.map nv):=hrows.m;have ht1:x.AZ.length<=1099511627776:=by have h1:=TL _ _ _ HX.o;have h2:=HK.o.qu;have h3:=HK.o.KZ;omega
      have ht2:S.queue.length<=1099511627776:=by have h2:=HK.o.qu;have h3:=HK.o.KZ;omega
      obtain⟨pt,ct,rfl⟩:=hrt.A5;obtain⟨pq,cq,rfl⟩:=hq2.A5;clear hrows;have HCc:=Qa (qk2 (An.new wo.drew.drew #[.slice pt x.AZ.length ct,.slice pq S.queue.length cq] 99) ((hrt.below (qe (qe (qc wo)))).below (qa (qc _) _)) ((hq2.below (qe (qe (qc wo)))).below (qa (qc _) _)) ht1 ht2);have hos:o1 y.sb=(y.l.id,11):=hA.st.os;have dA:=Qa (fun (w4:Aa) (v4:Ac) (hb4:Ae (wo.drew.drew.alloc (AIe #[.slice pt x.AZ.length ct,.slice pq S.queue.length cq] 99)).1.size (wo.drew.drew.alloc (AIe #[.slice pt x.AZ.length ct,.slice pq S.queue.length cq] 99)) w4)
        (hr4:Row w4 (fo (wo.drew.drew.alloc (AIe #[.slice pt x.AZ.length ct,.slice pq S.queue.length cq] 99)).1.size) (1,0) 117 2 v4 (x.AZ++S.queue).length (qg (x.AZ++S.queue))) =>
       show ∃ (uD:Ac) (o2:Own),Stp (ka y) o1 o2 wo (w4.setCell ⟨y.sb,4,none⟩ v4)/\An (w4.setCell ⟨y.sb,4,none⟩ v4) y.sb #[ptr y.l.h,ptr y.cy,ptr y.ck,y.Fz,uD,S.next,S.Aw,S.version,vl,vm] 101 /\
         Cy (w4.setCell ⟨y.sb,4,none⟩ v4) o2 y.l.id { S.h l2 with queue:=x.AZ++S.queue,Aw:=-1 } uD vl vm from by
        have hb5:Ae wo.1.size wo w4:=qd (qa (qe (qe (qc wo))) _) hb4;have hs5:Stp (ka y) o1 (ext o1 (wo.drew.drew.alloc (AIe #[.slice pt x.AZ.length ct,.slice pq S.queue.length cq] 99)).1.size (y.l.id,13)) wo w4:=(Stp.of_below hb5).ext _ _ (by simp)
        have hf5:Stp (fun _=>False) o1 (ext o1 (wo.drew.drew.alloc (AIe #[.slice pt x.AZ.length ct,.slice pq S.queue.length cq] 99)).1.size (y.l.id,13)) wo w4:=(Stp.of_below hb5).ext _ _ (by simp)
        have ho5:(ext o1 (wo.drew.drew.alloc (AIe #[.slice pt x.AZ.length ct,.slice pq S.queue.length cq] 99)).1.size (y.l.id,13)) y.sb=(y.l.id,11):=by rw[qj (by simp;omega)];exact hos
        have hk5:Stp (fun t=>t=(y.l.id,11)) (ext o1 (wo.drew.drew.alloc (AIe #[.slice pt x.AZ.length ct,.slice pq S.queue.length cq] 99)).1.size (y.l.id,13)) (ext o1 (wo.drew.drew.alloc (AIe #[.slice pt x.AZ.length ct,.slice pq S.queue.length cq] 99)).1.size (y.l.id,13)) w4 (w4.setCell ⟨y.sb,4,none⟩ v4):=(Stp.refl _ _ w4).setCell (by show (ext o1 _ _) y.sb=_;exact ho5) _
        refine⟨v4,_,hs5.trans (hk5.mono fun t ht=>by rw[ht];exact⟨rfl,.inl rfl⟩),?_,(hr4.out o1 (y.l.id,13)).Ar hk5 (by simp),?_,?_⟩
        ·exact (jb.below hb5 jb.lt).set 4 v4
        ·exact (hl2.Ar hf5 id).Ar hk5 (by simp)
        ·exact (hm2.Ar hf5 id).Ar hk5 (by simp))
      gi_wp2;gi_region;gi_upto_region 18 with fail;gi_cut [] from 92 (fun wc=>∃ (uD:Ac) (o2:Own),Stp (ka y) o1 o2 wo wc/\An wc y.sb #[ptr y.l.h,ptr y.cy,ptr y.ck,y.Fz,uD,S.next,S.Aw,S.version,vl,vm] 101/\Cy wc o2 y.l.id { S.h l2 with queue:=x.AZ++S.queue,Aw:=-1 } uD vl vm)
      case first =>
       refine qow ?_;gi_region_with (first|(refine⟨trivial,?_⟩;gi_at_call 134;refine (callsIn_wide.2 HCc.o).mono ?_;rintro e w4 ⟨v4,rfl,hr4,hb4⟩;obtain⟨p4,k4,rfl⟩:=hr4.A5;have hb5:Ae wo.1.size wo w4:=qd (qa (qe (qe (qc wo))) _) hb4;have c4:=(jb.below hb5 jb.lt).cell;have z4:=(jb.below hb5 jb.lt).free;have s4:=(jb.below hb5 jb.lt).lt;have dS:=(hA.jS.below hb5 hA.jS.lt).cell 0)|fail)
       all_goals
        gi_wp2_with fail;gi_meet
        case rel=>exact dA.o _ _ hb4 (by have hr:=hr4;rw[Qd]at hr ⊢;exact hr)
      case rest =>
       obtain⟨uD,o2,hsc,hbc,hrc⟩:=hcut;have xP:Stp (qh y) o1 o2 wo wc:=hsc.mono fun _=>mn;have fV:=hA.jS.Ar xP (by rw[hA.tS];exact qo y)
       have lD:=(Qf.1 hA.hD).1;have hDc:=(xP.block D lD (by rw[hA.tD];exact qo y)).trans hA.hD
       have tDc:o2 D=(y.l.id+1,0):=(xP.tags _ lD).trans hA.tD;have Ado:o2 y.sb=(y.l.id,11):=(hsc.tags _ jb.lt).trans hos;have sP:Stp (fun t=>t=(y.l.id,11)) o2 o2 wc (wc.setCell ⟨y.sb,6,none⟩ (I Z (-1))):=(Stp.refl _ _ wc).setCell (by show o2 y.sb=_;exact Ado) _
       have hs7:Stp (ka y) o1 o2 wo (wc.setCell ⟨y.sb,6,none⟩ (I Z (-1))):=hsc.trans (sP.mono fun t ht=>by rw[ht];exact⟨rfl,.inl rfl⟩)
       have mQ:Av (wc.setCell ⟨y.sb,6,none⟩ (I Z (-1))) o2 y { S.h l2 with queue:=x.AZ++S.queue,Aw:=-1 }:=
        hA.st.own rfl rfl rfl rfl rfl (hbc.set 6 (I Z (-1))) (hrc.Ar sP fun j h1 h2=>by simp;omega) hs7
       have mE:=Qa (Q8 mQ HX.o);clear cb zb sb cx cS sS;have cb:=hbc.cell;have zb:=hbc.free;have sb:=hbc.lt;have cS:=fV.cell;have sS:=fV.lt;gi_wp2_with (refine⟨trivial,?_⟩;gi_at_call 80;refine (callsIn_wide.2 mE.o).mono ?_;rintro e w6 ⟨rfl,o6,eX,hs6⟩);have lDc:=(Qf.1 hDc).1;have nD:D≠y.sb:=fun e=>by rw[e]at tDc;rw[Ado]at tDc;injection tDc with h1 _;omega
       have hD6:w6.heap[D]?=some (.deferred (some [])):=(hs6.block D (by simpa [World.setCell] using lDc) (by rw[tDc];exact qo y)).trans ((Below.heap_setCell _ _ _ _ nD).trans hDc)
       have tD6:o6 D=(y.l.id+1,0):=(hs6.tags _ (by simpa [World.setCell] using lDc)).trans tDc
       refine⟨by simp,.inl ⟨_,_,rfl,run_takeDeferred hD6,?_⟩⟩
       refine⟨Ak #[],by simp[results,results73,go_sem],rfl,o6,?_,?_⟩
       ·rw[Ahj.o hh];exact eX.put tD6 _
       ·exact (hA.sp.trans ((hs7.mono fun _=>mn).trans hs6)).Df jM _
     ·have uZ:(S.Aw==(i:Int))=false:=by rw[Qh];exact hh
      have mE:=Qa (Q8 (hA.st.below (qe (qc _))) HX.o);gi_wp2;gi_region;gi_wp2_with (refine⟨trivial,?_⟩;gi_at_call 80;refine (callsIn_wide.2 mE.o).mono ?_;rintro e w6 ⟨rfl,o6,eX,hs6⟩);have lD:=(Qf.1 hA.hD).1;have hD6:w6.heap[D]?=some (.deferred (some [])):=(hs6.block D (by simpa using lD) (by rw[hA.tD];exact qo y)).trans hA.hD
      have tD6:o6 D=(y.l.id+1,0):=(hs6.tags _ (by simpa using lD)).trans hA.tD
      refine⟨by simp,.inl ⟨_,_,rfl,run_takeDeferred hD6,?_⟩⟩
      refine⟨Ak #[],by simp[results,results73,go_sem],rfl,o6,?_,?_⟩
      ·rw[Ahi.o hh];exact eX.put tD6 _
      ·exact (hA.sp.trans ((Stp.of_below (qe (qc _))).trans hs6)).Df jM _
  ·obtain⟨j,rfl⟩:∃ j,k=j+1:=⟨k-1,by omega⟩
   have hA:=hA.re;obtain⟨o1,ho1⟩:∃ o3,o3=ext o1 wo.1.size (y.l.id+1,0):=⟨_,rfl⟩;rw[<-ho1]at hA;have tz:o1 wo.1.size=(y.l.id+1,0):=by rw[ho1];exact qp (Qk _)
   clear ho1;rw[show ((j+1:Nat):Int)-1=(j:Int) from by omega]
   have hgj:=Qb (show j<us.length by omega)
   obtain⟨u,hu⟩:=Ja0 (us[j]);rw[<-hu]at hgj;have hdrop:us.drop j=u::us.drop (j+1):=by rw[hu];exact List.drop_eq_getElem_cons (by omega)
   have hcU:=hA.jU.cell 0;rcases hA.row.Dv with ⟨_,h0⟩|⟨g,cap,e,hn⟩
   ·have:=VL us j u hgj
    rw[h0]at this;simp at this
   ·injection e with e1 _ e3
    subst e1 e3;obtain⟨q0,q1,q2,q3⟩:=hA.row.M5 j u hgj;have xA:=HUn.out u (Qe hgj);have hok:(S.h (S.H.Bf (us.drop (j+1)))).ok:=Am.D7 HK.o _ fun u hu=>(HUn.out u (List.mem_of_mem_drop hu)).1;obtain⟨l,hl⟩:=Ja0 (S.H.Bf (us.drop (j+1)));have hl2:S.H.Bf (us.drop j)=l.BF u:=by rw[hdrop,hl];rfl
    rw[<-hl]at hA hok;have HL2:=Qa hl2;clear hl2 hl hdrop hu hgj;have hy:=run_yield (P:=Tryz.prog) (args:=#[j,Al #[u.kind,u.pos,u.i,u.old]]) hA.hL (by rw[HRS.o];rfl)
    obtain⟨T,hT⟩:=Ja0 ((R.params.zip #[I Z j,Al #[u.kind,u.pos,u.i,u.old]]).foldl (fun tmps (t,a)=>tmps.setIfInBounds t a) R.tmps);rw[<-hT]at hy;have HT:=Qa hT;clear hT;have iW:RoundIn Fence.wide 1 Tryz.prog (D+1) R.fn T R.assign R.body wo fun e W' =>
      e=O (.bool true)/\∃ o2,ED w o o2 y S us D w.1.size bU (Ai (some ⟨g,0,none⟩) us.length cp) R (l.BF u) W':=by
     have oZ:=HT.o;obtain⟨Post,bY⟩:∃ Post:Ending->Aa->Prop,Post=fun e W'=>e=O (.bool true)/\∃ o2,ED w o o2 y S us D w.1.size bU (Ai (some ⟨g,0,none⟩) us.length cp) R (l.BF u) W':=⟨_,rfl⟩;rw[<-bY,oZ];have dQ:=Qa bY;clear bY oZ HT hy q0 q1 q2 q3 hcU;have hst:R.state=.ready:=by rw[HR.o]
     have hpe:R.pending=none:=by rw[HR.o]
     have HST:=Qa hst;have kW:=Qa hpe;clear hst hpe;rw[HR.o];refine roundIn_of_wpIn trivial ?_;gi_wp2;obtain⟨W2,hW2⟩:=Ja0 (wo.alloc (AIe #[u.kind,u.pos,u.i,u.old] 175));rw[<-hW2];have hA2:ED w o o1 y S us D w.1.size bU (Ai (some ⟨g,0,none⟩) us.length cp) R l W2:=by rw[hW2];exact hA.below (qa (qc _) _)
     have jB2:An W2 wo.1.size #[u.kind,u.pos,u.i,u.old] 175:=by rw[hW2];exact An.new _ _ _
     have hDo:D+1<wo.1.size:=(Qf.1 hA.hL).1;have hwo:w.1.size<=wo.1.size:=hA.sp.size;obtain⟨bu,hbu⟩:=Ja0 wo.1.size;rw[<-hbu]at jB2 hDo hwo tz ⊢;clear hW2 hA hbu;refine ud hA2.hL HST.o ?_;intro W3 hW3 qA;have hA3:ED w o o1 y S us D w.1.size bU (Ai (some ⟨g,0,none⟩) us.length cp) { R with state:=.busy } l W3:=by rw[hW3];exact hA2.put jM _
     have nH:An W3 bu #[u.kind,u.pos,u.i,u.old] 175:=by rw[hW3];exact jB2.put (by omega)
     clear hW3 hA2 jB2 qA;have hend:=Qa (fun (W4:Aa) (o4:Own) (fD:ED w o o4 y S us D w.1.size bU (Ai (some ⟨g,0,none⟩) us.length cp) { R with state:=.busy } (l.BF u) W4) =>
      show ∃ v w5,(Instr.endRound (D+1) none).run Tryz.prog W4=.ok v w5/\Post (O v) w5 from by
       refine Q4 fD.hL HST.o kW.o ?_;intro W5 dA _;rw[dQ.o];exact⟨rfl,o4,by rw[dA];exact fD.put jM R⟩)
     have cS:=hA3.jS.cell 0;obtain⟨vq3,vl3,vm3,jb,-⟩:=hA3.st.A2;unfold qk at jb;have cb:=jb.cell 0;have cB:=nH.cell;have vQ:=Qa hA3;have mI:=Qa hok;obtain⟨kd,ps,ui,od⟩:=u;simp only at xA nH cB;clear hA3 hok jb;by_cases k1:kd=1
     ·subst k1
      obtain⟨q,rfl⟩:∃ q:Nat,od=q:=⟨od.toNat,by have:=xA.2 rfl;omega⟩
      have hun:l.BF ⟨1,ps,ui,(q:Int)⟩=(l.Bh ps ui q).1:=by unfold Hp.BF;rw[if_pos rfl];simp
      rw[hun]at hend;have HC:=Qa (Tz (vQ.o.st.below (qe (qc _))) mI.o ps ui q);clear hun xA;gi_wp2;refine wm (JS _ _) 10 (by kernel_rfl) (by kernel_rfl) (by kernel_rfl) ?_
      simp only[Ad,af,Aj,aa]
      repeat still_step
      try refine wpStill_nil ?_
      gi_wp2_with (refine⟨trivial,?_⟩;gi_at_call 113;refine aj (ag _ (callsIn_wide.2 HC.o)) ?_;rintro e w4 ⟨rfl,o4,dX,hs4⟩);exact hend.o _ _ ((vQ.o.below (qe (qc _))).C8 hs4 dX)
     ·by_cases k2:kd=2
      ·subst k2
       have hun:l.BF ⟨2,ps,ui,od⟩=(l.Bv ps ui od).1:=by unfold Hp.BF;rw[if_neg (by simp),if_pos rfl]
       rw[hun]at hend;have HC:=Qa (WS (vQ.o.st.below (qe (qc _))) mI.o ps ui od xA.1);clear hun xA k1;gi_wp2;refine wm (JS _ _) 10 (by kernel_rfl) (by kernel_rfl) (by kernel_rfl) ?_
       simp only[Ad,af,Aj,aa]
       repeat still_step
       try refine wpStill_nil ?_
       gi_wp2_with (refine⟨trivial,?_⟩;gi_at_call 110;refine aj (ag _ (callsIn_wide.2 HC.o)) ?_;rintro e w4 ⟨rfl,o4,dX,hs4⟩);exact hend.o _ _ ((vQ.o.below (qe (qc _))).C8 hs4 dX)
      ·by_cases k3:kd=3
       ·subst k3
        obtain⟨fb,qN⟩:=Ja0 (decide (od≠0));have hun:l.BF ⟨3,ps,ui,od⟩=(l.AX ps fb).1:=by unfold Hp.BF;rw[if_neg (by simp),if_neg (by simp),if_pos rfl,qN]
        rw[hun]at hend;have Ays:(od != 0)=fb:=by rw[qN];by_cases h:od=0<;>simp[h]
        have HC:=Qa (m9 (vQ.o.st.below (qe (qc _))) mI.o ps fb);clear hun xA k1 k2 qN;gi_wp2;refine wm (JS _ _) 9 (by kernel_rfl) (by kernel_rfl) (by kernel_rfl) ?_
        simp only[Ad,af,Aj,aa]
        repeat still_step
        try refine wpStill_nil ?_
        gi_wp2_with (refine⟨trivial,?_⟩;gi_at_call 121;refine aj (ag _ (callsIn_wide.2 HC.o)) ?_;rintro e w4 ⟨rfl,o4,dX,hs4⟩);exact hend.o _ _ ((vQ.o.below (qe (qc _))).C8 hs4 dX)
       ·have hun:l.BF ⟨kd,ps,ui,od⟩=l:=by unfold Hp.BF;rw[if_neg k1,if_neg k2,if_neg k3]
        rw[hun]at hend;have b1:((kd:Int)==1)=false:=by rw[Qh];omega
        have b2:((kd:Int)==2)=false:=by rw[Qh];omega
        have b3:((kd:Int)==3)=false:=by rw[Qh];omega
        clear hun xA k1 k2 k3;gi_wp2;exact hend.o _ _ vQ.o
    gi_wp2;refine iW.mono ?_
    rintro e w3 ⟨rfl,o3,hA3⟩;clear hy iW q0 q1 q2 q3 hcU;gi_wp2;go_roundw
    case rel=>exact⟨j,o3,by simp,by omega,by rw[HL2.o];exact hA3⟩
    case measure=>simp[intOf]
