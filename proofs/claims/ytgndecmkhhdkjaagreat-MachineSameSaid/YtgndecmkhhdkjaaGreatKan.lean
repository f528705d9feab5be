import Derived.Test.YtgndecmkhhdkjaaGreatKam
set_option linter.all false
set_option maxRecDepth 1000000
set_option maxHeartbeats 0
open Go renaming World->Aa,Calls->Ab,Value->Ac
open Go.RowKit renaming Below->Ae
open Go.Value renaming int->I,slice->Ai,tuple->Ak,agg->Al
open Go.IntKind renaming i64->Z
open Go.Ending renaming returned->O
open List renaming take_succ_cons->Ad,drop_succ_cons->Aj,drop_zero->aa,take_zero->af,append_toArray->ai,size_toArray->ay,push_toArray->aA,cons_append->aB,length_nil->aC,nil_append->aD
open Go.CallsIn renaming inRound->ag,mono->aj
open Go.Proofs.Tryz
open Go.Obj renaming cells->ANb
namespace Go.Proofs.YtgndecmkhhdkjaaGreat
open Go.RowKit Go.Shelf Hp
attribute [local go_sem] Oper.semAt_some
section
variable {w w' : Aa} {o o' : Own} {y : Bl} {S : Am} {i : Nat}
def WX (h0:Av w o y S) (hk:S.ok) (hi:i<S.Au.length) :
  Ab Tryz.prog 165 #[ptr y.sb,ptr (y.xb i)] w fun e w'=>e=O (Ak #[])/\BM y (S.abort i) o w w':=by
 obtain⟨o1,ho1,dN,hS0⟩:=PRe o w (y.l.id+1,0) (qi y);have h:=h0.retag dN;clear dN
 have hbx:∀ b,w.1.size<=b->o1 b=(y.l.id+1,0):=fun b hb=>by rw[ho1];exact qq hb
 have dM:∀ n,w.1.size<=n->ext o1 n (y.l.id+1,0)=o1:=fun n hn=>by rw[ho1];exact RA _ _ _ _ hn
 clear ho1 h0;have hx:=Am.AW hi;obtain⟨x,hxe⟩:=Ja0 (S.t i);rw[<-hxe]at hx;have hlf:=hk.Ew hi;rw[<-hxe]at hlf;have hx':=h.Au i x hx;obtain⟨vr,vk,vh,vu,hl⟩:=hx'.log;have HU:=Qa (fun w' (hw:Ae w w w')=>qqn (hl.below hw) hlf.ok (y.l.id+1,0))
 have HBk:=Qa qik;obtain⟨vt0,jx,-⟩:=hx'.A3;unfold zj at jx;have tK:Q2 (S.abort i=((S.h ((S.H.Bi x.log.Az).BU x.log.holds)).BO i).tx i x.ended):=by unfold Am.abort;rw[<-hxe];exact rfl
 have H:=Qa h;have HK:=Qa hk;have HS:=Qa hS0;have HB:=Qa hbx;have HE:=Qa dM;have HX:=Qa hx;have yK:=Qa hlf;have HI:=Qa hi;have HXE:=Qa hxe;clear h hk hS0 hbx dM hx hx' hl hlf hxe hi;refine (callsIn_wide (n:=3)).1 ?_;refine callsIn_of_wp_marks func165 rfl trivial ?_ rfl;simp only[ntmps165,ay,Qv,aC,Nat.reduceAdd,Nat.reduceSub,Array.replicate_succ,Array.replicate_zero,aA,ai,aD,aB];have cx:=(jx.alloc (ANb #[ptr y.sb] 58)).cell;gi_wp2_with (refine⟨trivial,?_⟩;first
  | (gi_at_call 212;refine (callsIn_wide.2 (HU.o _ (qc (qd w) _))).mono ?_;rintro e w1 ⟨v1,rfl,hr1,hb1⟩;obtain⟨pa,cp,rfl⟩:=hr1.A6)
  | (gi_at_call 211;refine (callsIn_wide.2 (HBk.o _ _ _ _)).mono ?_;rintro e w2 ⟨rfl,rfl⟩))
 rw[HE.o _ (by simp)]at hr1
 have wY:=qe (qc (qd w) (ANb #[ptr y.sb] 58)) hb1;have nG:=(An.new w #[ptr y.sb] 58).below hb1 (by simp)
 clear hb1 cx;obtain⟨W0,hW0⟩:=Ja0 (w1.alloc (ANb #[.slice pa x.log.Az.length cp] 151));rw[<-hW0];obtain⟨bU,hbU⟩:=Ja0 w1.1.size;rw[<-hbU];have jK:Ae w w W0:=by rw[hW0];exact qc wY _
 have dC:An W0 w #[ptr y.sb] 58:=by rw[hW0];exact nG.alloc _
 have sQ:An W0 bU #[.slice pa x.log.Az.length cp] 151:=by rw[hW0];exact An.Ax _ _ _ _ _ hbU rfl
 have hr2:Row W0 o1 (y.l.id+1,0) 198 4 (.slice pa x.log.Az.length cp) x.log.Az.length (qz x.log.Az):=by rw[hW0];exact hr1.below (qc (qd _) _)
 have hUw:w.1.size<=bU:=by rw[hbU];exact wY.size
 clear hW0 hbU nG hr1 wY;refine ym (gf:=235) (lb:=#[ptr bU]) rfl (enters_of func235 (by kernel_rfl) rfl) ?_
 intro fn W1 R hW1 hR;obtain⟨D,hD⟩:=Ja0 W0.1.size;have jF:w.1.size<=D:=by rw[hD];exact jK.size
 have hAb:EK w o o1 y S x.log.Az D w bU (.slice pa x.log.Az.length cp) R S.H W1:=by
  have dG:Ae W0 W0 W1:=by rw[hW1];exact qc (qc (qd _) _) _
  refine⟨H.o.below (qe jK dG),?_,?_,dC.below dG dC.lt,sQ.below dG sQ.lt,hr2.below dG,HS.o.trans (Stp.of_below (qe jK dG)),HB.o _ (by omega),HB.o _ (by omega),HB.o _ (Qk _),HB.o _ hUw⟩
  ·rw[hW1,hD];have:=World.alloc_heap_new (W0.alloc (.deferred (some []))) (.loop R);rwa [World.size_alloc]at this
  ·rw[hW1,hD];exact (Below.heap_alloc _ _ _ (by simp)).trans (World.alloc_heap_new W0 _)
 rw[<-hD];have HR:=Qa hR;have hRs:R.params.size=2:=by rw[hR];rfl
 have HRS:=Qa hRs;clear hW1 hD hR hRs dC sQ hr2 jK HB HE HS;obtain⟨us,lC⟩:=Ja0 x.log.Az;have HUn:Q2 (∀ u ∈ us,(-9223372036854775808<=u.old/\u.old<=9223372036854775807)/\(u.kind=1->0<=u.old)):=by rw[lC];exact fun u hu=>⟨yK.o.un u hu,yK.o.kd u hu⟩
 rw[<-lC]at hAb tK ⊢;have HUS:=Qa lC;clear lC;have hlen:us.length<=200:=by rw[HUS.o];have h1:=yK.o.ok;have:=h1.u;have:=h1.mu;omega
 refine callsIn_of_wp func235 rfl trivial ?_ rfl;simp only[ntmps235,ay,Qv,aC,Nat.reduceAdd,Nat.reduceSub,Array.replicate_succ,Array.replicate_zero,aA,ai,aD,aB];have cU:W1.cell? ⟨bU,0,none⟩=some (.slice pa us.length cp):=hAb.jU.cell 0;gi_wp2;clear cU;gi_loopw [3] (fun ix wr=>∃ (k:Nat) (o1:Own),ix=I Z ((k:Int)-1)/\k<=us.length/\EK w o o1 y S us D w bU (.slice pa us.length cp) R (S.H.Bi (us.drop k)) wr) (fun ix _=>(intOf ix+1).toNat)
 case atStart=>exact⟨us.length,o1,rfl,Qk _,by rw[List.drop_length];exact hAb⟩
 case round =>
  clear hAb HU H o1 jx;obtain⟨k,o1,rfl,hkl,hA⟩:=hrel;obtain⟨wo,rfl⟩:=Ja0 wr;rcases Nat.eq_zero_or_pos k with rfl|hk0
  ·rw[aa]at hA
   have hst:R.state≠.busy:=by rw[HR.o];simp
   have hpe:R.pending=none:=by rw[HR.o]
   have kM:=Qa hpe;have HST:=Qa hst;clear hst hpe hkl;gi_wp2;refine bodyPost_ret (results_none rfl _ _ _) rfl ?_;refine dy hA.hL HST.o ?_;intro W4 dX;have fB:EK w o o1 y S us D w bU (.slice pa us.length cp) { R with state:=.exhausted } (S.H.Bi us) W4:=by rw[dX];exact hA.put jF _
   clear dX hA;rw[kM.o];dsimp only;have hok1:(S.h (S.H.Bi us)).ok:=Am.Ea HK.o _ fun u hu=>(HUn.out u hu).1;obtain⟨l1,hl1⟩:=Ja0 (S.H.Bi us);rw[<-hl1]at fB hok1 tK;clear hl1;obtain⟨RR,hRR⟩:∃ RR:Loop,RR={ R with state:=.exhausted }:=⟨_,rfl⟩;rw[<-hRR]at fB;clear hRR;have fB:=fB.re;obtain⟨o1,ho1⟩:∃ o3,o3=ext o1 W4 (y.l.id+1,0):=⟨_,rfl⟩;rw[<-ho1]at fB;have yZ:ext o1 W4 (y.l.id+1,0)=o1:=by rw[ho1];exact RA _ _ _ _ (Qk _)
   clear ho1;have hx4:=fB.st.Au i x HX.o;obtain⟨vr4,vk4,vh4,vu4,hl4⟩:=hx4.log;have HH:=Qa (T5 hl4 yK.o.ok (y.l.id+1,0));obtain⟨vt4,jx4,-⟩:=hx4.A3;unfold zj at jx4;have cx:=jx4.cell;have Aiu:=Qa hok1;have HE4:=Qa yZ;clear hx4 hl4 hok1 yZ;gi_wp2_with (refine⟨trivial,?_⟩;gi_at_call 138;refine (callsIn_wide.2 HH.o).mono ?_;rintro e w5 ⟨v5,rfl,dZ,hb5⟩;obtain⟨pa5,qE,rfl⟩:=dZ.A6);rw[HE4.o]at dZ;have fQ:=fB.below hb5;clear fB hb5 cx jx4;obtain⟨hs,dI⟩:=Ja0 x.log.holds;have HHo:Q2 (∀ z ∈ hs,z.2<=1099511627776):=by rw[dI];exact yK.o.hv
   have Asy:hs.length<=200:=by rw[dI];have h1:=yK.o.ok;have:=h1.h;have:=h1.mu;omega
   rw[<-dI]at dZ tK ⊢;clear dI HH HE4;gi_loopw [62] (fun ix wr=>∃ (k:Nat) (o1:Own),ix=I Z k/\k<=hs.length/\EK w o o1 y S us D w bU (.slice pa us.length cp) RR (l1.BU (hs.take k)) wr/\Row wr o1 (y.l.id+1,0) 195 2 (.slice pa5 hs.length qE) hs.length (qh hs)) (fun ix _=>hs.length-(intOf ix).toNat)
   case atStart=>exact⟨0,o1,rfl,Nat.zero_le _,fQ,dZ⟩
   case round =>
    clear fQ dZ o1;obtain⟨k,o1,rfl,hkh,hA,hr⟩:=hrel;obtain⟨wo,rfl⟩:=Ja0 wr;have hA:=hA.re;have hr:=hr.retag (o':=ext o1 wo (y.l.id+1,0)) fun b hb=>qk hb;obtain⟨o1,ho1⟩:∃ o3,o3=ext o1 wo (y.l.id+1,0):=⟨_,rfl⟩;rw[<-ho1]at hA hr;have tz:o1 wo=(y.l.id+1,0):=by rw[ho1];exact qq (Qk _)
    clear ho1;by_cases hlt:k<hs.length
    ·have kI:(k:Int)<(hs.length:Int):=by omega
     have jQ:=Qb hlt;obtain⟨z,hz⟩:=Ja0 (hs[k]);rw[<-hz]at jQ;have htk:hs.take (k+1)=hs.take k++[z]:=by rw[hz];exact List.take_succ_eq_append_getElem hlt
     have hz2:=HHo.out z (Qe jQ);rcases hr.Dc with ⟨_,h0⟩|⟨g,cap,e,hn⟩
     ·have:=y7 hs k z jQ
      rw[h0]at this;simp at this
     ·injection e with e1 _ e3
      subst e1 e3;obtain⟨r0,r1⟩:=hr.Fi k z jQ;obtain⟨p,v⟩:=z;have q0:wo.cell? ⟨g,k*2,none⟩=some (I Z p):=r0;have q1:wo.cell? ⟨g,k*2+1,none⟩=some (I Z v):=r1;clear r0 r1;simp only at hz2;have hok:(S.h (l1.BU (hs.take k))).ok:=Am.E3 _ (S:=S.h l1) Aiu.o fun u hu=>HHo.out u (List.mem_of_mem_take hu);have hstep:l1.BU (hs.take (k+1))=(l1.BU (hs.take k)).Dl (p,v):=by rw[htk];exact qqa _ _ _
      have HST:=Qa hstep;obtain⟨l2,hl2⟩:=Ja0 (l1.BU (hs.take k));rw[<-hl2]at hA hok HST;clear hl2 hstep htk hz jQ;have HR1:=Qa (qmy (hA.st.below (qc (qd _) (ANb #[p,v] 195))) hok p v hz2);have jz1:=An.new wo #[p,v] 195;have hA1:=hA.below (qc (qd _) (ANb #[p,v] 195));have hr1:=hr.below (qc (qd _) (ANb #[p,v] 195));have hwo:w.1.size<=wo.1.size:=hA.sp.size;have cS:=hA.jS.cell 0;have sS:=hA.jS.lt;have Aiv:=Qa (Am.Ga hok p hz2);clear hA hr hok hz2;by_cases hv:v=0
      ·have hvb:((v:Int)==0)=true:=by rw[beq_iff_eq];omega
       have hro:l2.Dl (p,v)=((l2.AM p (2*v)).1.AX p true).1:=by unfold Hp.Dl;rw[if_pos hv]
       rw[hro]at HST;clear hv hro;gi_wp2_with (refine⟨trivial,?_⟩;gi_at_call 143;refine (callsIn_wide.2 HR1.o).mono ?_;rintro e w2 ⟨rfl,o2,hS2,hs2⟩;have hA2:=hA1.C8 hs2 hS2;have hr2:=hr1.Ar hs2 (qp y);have jz2:=jz1.Ar hs2 (by rw[tz];exact qp y);clear cS sS;have cz:=jz2.cell;have cS:=hA2.jS.cell 0;obtain⟨vq2,vl2,vm2,jb,-⟩:=hS2.A3;unfold qm at jb;have cb:=jb.cell 0)
       have HC:=Qa (gz (hS2.below (qf (qd _))) Aiv.o p true);refine wm (Ru _) 6 (by kernel_rfl) (by kernel_rfl) (by kernel_rfl) ?_
       simp only[Ad,af,Aj,aa];repeat still_step
       try refine wpStill_nil ?_
       gi_wp2_with (refine⟨trivial,?_⟩;gi_at_call 164;refine (callsIn_wide.2 HC.o).mono ?_;rintro e w3 ⟨rfl,o3,cZ,hs3⟩);have hA3:=(hA2.below (qf (qd _))).C8 hs3 cZ;have hr3:=(hr2.below (qf (qd _))).Ar hs3 (qp y);go_roundw
       case rel=>exact⟨k+1,o3,by simp,by omega,by rw[HST.o];exact hA3,hr3⟩
       case measure=>simp[intOf];omega
      ·have hvb:((v:Int)==0)=false:=by rw[Qh];omega
       have hro:l2.Dl (p,v)=(l2.AM p (2*v)).1:=by unfold Hp.Dl;rw[if_neg hv]
       rw[hro]at HST;clear hv hro;gi_wp2_with (refine⟨trivial,?_⟩;gi_at_call 143;refine (callsIn_wide.2 HR1.o).mono ?_;rintro e w2 ⟨rfl,o2,hS2,hs2⟩;have hA2:=hA1.C8 hs2 hS2;have hr2:=hr1.Ar hs2 (qp y);have jz2:=jz1.Ar hs2 (by rw[tz];exact qp y);clear cS sS;have cz:=jz2.cell)
       go_roundw
       case rel=>exact⟨k+1,o2,by simp,by omega,by rw[HST.o];exact hA2,hr2⟩
       case measure=>simp[intOf];omega
    ·obtain rfl:k=hs.length:=by omega
     rw[List.take_length]at hA;obtain⟨l2,hl2⟩:=Ja0 (l1.BU hs);rw[<-hl2]at hA tK;clear hl2;obtain⟨vq,vl,vm,jb,hrows⟩:=hA.st.A3;replace jb:An wo y.sb #[ptr y.l.h,ptr y.cy,ptr y.ck,y.FE,vq,S.next,S.Aw,S.version,vl,vm] 100:=jb;have cb:=jb.cell;have zb:=jb.free;have sb:=jb.lt;obtain⟨vt5,jx5,hrt⟩:=(hA.st.Au i x HX.o).A3;unfold zj at jx5;have cx:=jx5.cell;have cS:=hA.jS.cell 0;have sS:=hA.jS.lt;have Acj:S.Aw≠(i:Int)->S.abort i=(S.h l2).tx i x.ended:=fun hh=>by
      rw[tK.out];unfold Am.BO;rw[if_neg (show ¬(S.h l2).Aw=(i:Int) from hh)]
     have Ack:S.Aw=(i:Int)->S.abort i=({ S.h l2 with queue:=x.A0++S.queue,Aw:=-1 }:Am).tx i x.ended:=fun hh=>by
      rw[tK.out];unfold Am.BO;rw[if_pos (show (S.h l2).Aw=(i:Int) from hh),HXE.o];rfl
     have Ahr:=Qa Acj;have Ahs:=Qa Ack;clear hlt Acj Ack;by_cases hh:S.Aw=(i:Int)
     ·have uR:(S.Aw==(i:Int))=true:=by rw[hh];exact beq_self_eq_true _
      have hq2:Row wo o1 (y.l.id,13) 118 2 vq S.queue.length (qh S.queue):=hrows.q;have hl2:Row wo o1 (y.l.id,14) 3 1 vl S.lost.length (S.lost.map nv):=hrows.l;have hm2:Row wo o1 (y.l.id,15) 3 1 vm S.came.length (S.came.map nv):=hrows.m;have ht1:x.A0.length<=1099511627776:=by have h1:=Uz _ _ _ HX.o;have h2:=HK.o.qu;have h3:=HK.o.Lh;omega
      have ht2:S.queue.length<=1099511627776:=by have h2:=HK.o.qu;have h3:=HK.o.Lh;omega
      obtain⟨pt,ct,rfl⟩:=hrt.A6;obtain⟨pq,cq,rfl⟩:=hq2.A6;clear hrows;have HCc:=Qa (qlf (An.new wo.drew.drew #[.slice pt x.A0.length ct,.slice pq S.queue.length cq] 98) ((hrt.below (qf (qf (qd wo)))).below (qc (qd _) _)) ((hq2.below (qf (qf (qd wo)))).below (qc (qd _) _)) ht1 ht2);have hos:o1 y.sb=(y.l.id,11):=hA.st.os;have cO:=Qa (fun (w4:Aa) (v4:Ac) (hb4:Ae (wo.drew.drew.alloc (ANb #[.slice pt x.A0.length ct,.slice pq S.queue.length cq] 98)).1.size (wo.drew.drew.alloc (ANb #[.slice pt x.A0.length ct,.slice pq S.queue.length cq] 98)) w4)
        (hr4:Row w4 (fo (wo.drew.drew.alloc (ANb #[.slice pt x.A0.length ct,.slice pq S.queue.length cq] 98)).1.size) (1,0) 118 2 v4 (x.A0++S.queue).length (qh (x.A0++S.queue))) =>
       show ∃ (tF:Ac) (o2:Own),Stp (kh y) o1 o2 wo (w4.setCell ⟨y.sb,4,none⟩ v4)/\An (w4.setCell ⟨y.sb,4,none⟩ v4) y.sb #[ptr y.l.h,ptr y.cy,ptr y.ck,y.FE,tF,S.next,S.Aw,S.version,vl,vm] 100 /\
         Cy (w4.setCell ⟨y.sb,4,none⟩ v4) o2 y.l.id { S.h l2 with queue:=x.A0++S.queue,Aw:=-1 } tF vl vm from by
        have hb5:Ae wo wo w4:=qe (qc (qf (qf (qd wo))) _) hb4;have hs5:Stp (kh y) o1 (ext o1 (wo.drew.drew.alloc (ANb #[.slice pt x.A0.length ct,.slice pq S.queue.length cq] 98)).1.size (y.l.id,13)) wo w4:=(Stp.of_below hb5).ext _ _ (by simp)
        have hf5:Stp (fun _=>False) o1 (ext o1 (wo.drew.drew.alloc (ANb #[.slice pt x.A0.length ct,.slice pq S.queue.length cq] 98)).1.size (y.l.id,13)) wo w4:=(Stp.of_below hb5).ext _ _ (by simp)
        have ho5:(ext o1 (wo.drew.drew.alloc (ANb #[.slice pt x.A0.length ct,.slice pq S.queue.length cq] 98)).1.size (y.l.id,13)) y.sb=(y.l.id,11):=by rw[qk (by simp;omega)];exact hos
        have hk5:Stp (fun t=>t=(y.l.id,11)) (ext o1 (wo.drew.drew.alloc (ANb #[.slice pt x.A0.length ct,.slice pq S.queue.length cq] 98)).1.size (y.l.id,13)) (ext o1 (wo.drew.drew.alloc (ANb #[.slice pt x.A0.length ct,.slice pq S.queue.length cq] 98)).1.size (y.l.id,13)) w4 (w4.setCell ⟨y.sb,4,none⟩ v4):=(Stp.refl _ _ w4).setCell (by show (ext o1 _ _) y.sb=_;exact ho5) _
        refine⟨v4,_,hs5.trans (hk5.mono fun t ht=>by rw[ht];exact⟨rfl,.inl rfl⟩),?_,(hr4.out o1 (y.l.id,13)).Ar hk5 (by simp),?_,?_⟩
        ·exact (jb.below hb5 jb.lt).set 4 v4
        ·exact (hl2.Ar hf5 id).Ar hk5 (by simp)
        ·exact (hm2.Ar hf5 id).Ar hk5 (by simp))
      gi_wp2;gi_region;gi_upto_region 18 with fail;gi_cut [] from 92 (fun wc=>∃ (tF:Ac) (o2:Own),Stp (kh y) o1 o2 wo wc/\An wc y.sb #[ptr y.l.h,ptr y.cy,ptr y.ck,y.FE,tF,S.next,S.Aw,S.version,vl,vm] 100/\Cy wc o2 y.l.id { S.h l2 with queue:=x.A0++S.queue,Aw:=-1 } tF vl vm)
      case first =>
       refine qp4 ?_;gi_region_with (first|(refine⟨trivial,?_⟩;gi_at_call 213;refine (callsIn_wide.2 HCc.o).mono ?_;rintro e w4 ⟨v4,rfl,hr4,hb4⟩;obtain⟨p4,k4,rfl⟩:=hr4.A6;have hb5:Ae wo wo w4:=qe (qc (qf (qf (qd wo))) _) hb4;have c4:=(jb.below hb5 jb.lt).cell;have z4:=(jb.below hb5 jb.lt).free;have s4:=(jb.below hb5 jb.lt).lt;have dS:=(hA.jS.below hb5 hA.jS.lt).cell 0)|fail)
       all_goals
        gi_wp2_with fail;gi_meet
        case rel=>exact cO.o _ _ hb4 (by have hr:=hr4;rw[Qd]at hr ⊢;exact hr)
      case rest =>
       obtain⟨tF,o2,hsc,hbc,hrc⟩:=hcut;have xM:Stp (qi y) o1 o2 wo wc:=hsc.mono fun _=>mh;have fP:=hA.jS.Ar xM (by rw[hA.tS];exact qp y)
       have lD:=(Qf.1 hA.hD).1;have hDc:=(xM.block D lD (by rw[hA.tD];exact qp y)).trans hA.hD
       have tDc:o2 D=(y.l.id+1,0):=(xM.tags _ lD).trans hA.tD;have Adr:o2 y.sb=(y.l.id,11):=(hsc.tags _ jb.lt).trans hos;have hk7:Stp (fun t=>t=(y.l.id,11)) o2 o2 wc (wc.setCell ⟨y.sb,6,none⟩ (I Z (-1))):=(Stp.refl _ _ wc).setCell (by show o2 y.sb=_;exact Adr) _
       have hs7:Stp (kh y) o1 o2 wo (wc.setCell ⟨y.sb,6,none⟩ (I Z (-1))):=hsc.trans (hk7.mono fun t ht=>by rw[ht];exact⟨rfl,.inl rfl⟩)
       have mG:Av (wc.setCell ⟨y.sb,6,none⟩ (I Z (-1))) o2 y { S.h l2 with queue:=x.A0++S.queue,Aw:=-1 }:=
        hA.st.own rfl rfl rfl rfl rfl (hbc.set 6 (I Z (-1))) (hrc.Ar hk7 fun j h1 h2=>by simp;omega) hs7
       have lU:=Qa (RH mG HX.o);clear cb zb sb cx cS sS;have cb:=hbc.cell;have zb:=hbc.free;have sb:=hbc.lt;have cS:=fP.cell;have sS:=fP.lt;gi_wp2_with (refine⟨trivial,?_⟩;gi_at_call 139;refine (callsIn_wide.2 lU.o).mono ?_;rintro e w6 ⟨rfl,o6,eT,hs6⟩);have lDc:=(Qf.1 hDc).1;have nD:D≠y.sb:=fun e=>by rw[e]at tDc;rw[Adr]at tDc;injection tDc with h1 _;omega
       have hD6:w6.heap[D]?=some (.deferred (some [])):=(hs6.block D (by simpa [World.setCell] using lDc) (by rw[tDc];exact qp y)).trans ((Below.heap_setCell _ _ _ _ nD).trans hDc)
       have tD6:o6 D=(y.l.id+1,0):=(hs6.tags _ (by simpa [World.setCell] using lDc)).trans tDc
       refine⟨by simp,.inl ⟨_,_,rfl,run_takeDeferred hD6,?_⟩⟩
       refine⟨Ak #[],by simp[results,results165,go_sem],rfl,o6,?_,?_⟩
       ·rw[Ahs.o hh];exact eT.put tD6 _
       ·exact (hA.sp.trans ((hs7.mono fun _=>mh).trans hs6)).Dk jF _
     ·have uR:(S.Aw==(i:Int))=false:=by rw[Qh];exact hh
      have lU:=Qa (RH (hA.st.below (qf (qd _))) HX.o);gi_wp2;gi_region;gi_wp2_with (refine⟨trivial,?_⟩;gi_at_call 139;refine (callsIn_wide.2 lU.o).mono ?_;rintro e w6 ⟨rfl,o6,eT,hs6⟩);have lD:=(Qf.1 hA.hD).1;have hD6:w6.heap[D]?=some (.deferred (some [])):=(hs6.block D (by simpa using lD) (by rw[hA.tD];exact qp y)).trans hA.hD
      have tD6:o6 D=(y.l.id+1,0):=(hs6.tags _ (by simpa using lD)).trans hA.tD
      refine⟨by simp,.inl ⟨_,_,rfl,run_takeDeferred hD6,?_⟩⟩
      refine⟨Ak #[],by simp[results,results165,go_sem],rfl,o6,?_,?_⟩
      ·rw[Ahr.o hh];exact eT.put tD6 _
      ·exact (hA.sp.trans ((Stp.of_below (qf (qd _))).trans hs6)).Dk jF _
  ·obtain⟨j,rfl⟩:∃ j,k=j+1:=⟨k-1,by omega⟩
   have hA:=hA.re;obtain⟨o1,ho1⟩:∃ o3,o3=ext o1 wo (y.l.id+1,0):=⟨_,rfl⟩;rw[<-ho1]at hA;have tz:o1 wo=(y.l.id+1,0):=by rw[ho1];exact qq (Qk _)
   clear ho1;rw[show ((j+1:Nat):Int)-1=(j:Int) from by omega]
   have hgj:=Qb (show j<us.length by omega)
   obtain⟨u,hu⟩:=Ja0 (us[j]);rw[<-hu]at hgj;have hdrop:us.drop j=u::us.drop (j+1):=by rw[hu];exact List.drop_eq_getElem_cons (by omega)
   have hcU:=hA.jU.cell 0;rcases hA.row.Dc with ⟨_,h0⟩|⟨g,cap,e,hn⟩
   ·have:=Xj us j u hgj
    rw[h0]at this;simp at this
   ·injection e with e1 _ e3
    subst e1 e3;obtain⟨q0,q1,q2,q3⟩:=hA.row.Np j u hgj;have wX:=HUn.out u (Qe hgj);have hok:(S.h (S.H.Bi (us.drop (j+1)))).ok:=Am.Ea HK.o _ fun u hu=>(HUn.out u (List.mem_of_mem_drop hu)).1;obtain⟨l,hl⟩:=Ja0 (S.H.Bi (us.drop (j+1)));have hl2:S.H.Bi (us.drop j)=l.BH u:=by rw[hdrop,hl];rfl
    rw[<-hl]at hA hok;have HL2:=Qa hl2;clear hl2 hl hdrop hu hgj;have hy:=run_yield (P:=Tryz.prog) (args:=#[j,Al #[u.kind,u.pos,u.i,u.old]]) hA.hL (by rw[HRS.o];rfl)
    obtain⟨T,hT⟩:=Ja0 ((R.params.zip #[I Z j,Al #[u.kind,u.pos,u.i,u.old]]).foldl (fun tmps (t,a)=>tmps.setIfInBounds t a) R.tmps);rw[<-hT]at hy;have HT:=Qa hT;clear hT;have iR:RoundIn Fence.wide 1 Tryz.prog (D+1) R.fn T R.assign R.body wo fun e W' =>
      e=O (.bool true)/\∃ o2,EK w o o2 y S us D w bU (Ai (some ⟨g,0,none⟩) us.length cp) R (l.BH u) W':=by
     have oQ:=HT.o;obtain⟨Post,bV⟩:∃ Post:Ending->Aa->Prop,Post=fun e W'=>e=O (.bool true)/\∃ o2,EK w o o2 y S us D w bU (Ai (some ⟨g,0,none⟩) us.length cp) R (l.BH u) W':=⟨_,rfl⟩;rw[<-bV,oQ];have dK:=Qa bV;clear bV oQ HT hy q0 q1 q2 q3 hcU;have hst:R.state=.ready:=by rw[HR.o]
     have hpe:R.pending=none:=by rw[HR.o]
     have HST:=Qa hst;have kM:=Qa hpe;clear hst hpe;rw[HR.o];refine roundIn_of_wpIn trivial ?_;gi_wp2;obtain⟨W2,hW2⟩:=Ja0 (wo.alloc (ANb #[u.kind,u.pos,u.i,u.old] 198));rw[<-hW2];have hA2:EK w o o1 y S us D w bU (Ai (some ⟨g,0,none⟩) us.length cp) R l W2:=by rw[hW2];exact hA.below (qc (qd _) _)
     have jB2:An W2 wo #[u.kind,u.pos,u.i,u.old] 198:=by rw[hW2];exact An.new _ _ _
     have hDo:D+1<wo.1.size:=(Qf.1 hA.hL).1;have hwo:w.1.size<=wo.1.size:=hA.sp.size;obtain⟨bu,hbu⟩:=Ja0 wo.1.size;rw[<-hbu]at jB2 hDo hwo tz ⊢;clear hW2 hA hbu;refine ul hA2.hL HST.o ?_;intro W3 hW3 pV;have hA3:EK w o o1 y S us D w bU (Ai (some ⟨g,0,none⟩) us.length cp) { R with state:=.busy } l W3:=by rw[hW3];exact hA2.put jF _
     have mZ:An W3 bu #[u.kind,u.pos,u.i,u.old] 198:=by rw[hW3];exact jB2.put (by omega)
     clear hW3 hA2 jB2 pV;have hend:=Qa (fun (W4:Aa) (o4:Own) (fB:EK w o o4 y S us D w bU (Ai (some ⟨g,0,none⟩) us.length cp) { R with state:=.busy } (l.BH u) W4) =>
      show ∃ v w5,(Instr.endRound (D+1) none).run Tryz.prog W4=.ok v w5/\Post (O v) w5 from by
       refine RJ fB.hL HST.o kM.o ?_;intro W5 cO _;rw[dK.o];exact⟨rfl,o4,by rw[cO];exact fB.put jF R⟩)
     have cS:=hA3.jS.cell 0;obtain⟨vq3,vl3,vm3,jb,-⟩:=hA3.st.A3;unfold qm at jb;have cb:=jb.cell 0;have cB:=mZ.cell;have vG:=Qa hA3;have lY:=Qa hok;obtain⟨kd,ps,ui,od⟩:=u;simp only at wX mZ cB;clear hA3 hok jb;by_cases k1:kd=1
     ·subst k1
      obtain⟨q,rfl⟩:∃ q:Nat,od=q:=⟨od.toNat,by have:=wX.2 rfl;omega⟩
      have hun:l.BH ⟨1,ps,ui,(q:Int)⟩=(l.Bj ps ui q).1:=by unfold Hp.BH;rw[if_pos rfl];simp
      rw[hun]at hend;have HC:=Qa (Ux (vG.o.st.below (qf (qd _))) lY.o ps ui q);clear hun wX;gi_wp2;refine wm (J8 _ _) 10 (by kernel_rfl) (by kernel_rfl) (by kernel_rfl) ?_
      simp only[Ad,af,Aj,aa]
      repeat still_step
      try refine wpStill_nil ?_
      gi_wp2_with (refine⟨trivial,?_⟩;gi_at_call 148;refine aj (ag _ (callsIn_wide.2 HC.o)) ?_;rintro e w4 ⟨rfl,o4,dQ,hs4⟩);exact hend.o _ _ ((vG.o.below (qf (qd _))).C8 hs4 dQ)
     ·by_cases k2:kd=2
      ·subst k2
       have hun:l.BH ⟨2,ps,ui,od⟩=(l.BB ps ui od).1:=by unfold Hp.BH;rw[if_neg (by simp),if_pos rfl]
       rw[hun]at hend;have HC:=Qa (XV (vG.o.st.below (qf (qd _))) lY.o ps ui od wX.1);clear hun wX k1;gi_wp2;refine wm (J8 _ _) 10 (by kernel_rfl) (by kernel_rfl) (by kernel_rfl) ?_
       simp only[Ad,af,Aj,aa]
       repeat still_step
       try refine wpStill_nil ?_
       gi_wp2_with (refine⟨trivial,?_⟩;gi_at_call 160;refine aj (ag _ (callsIn_wide.2 HC.o)) ?_;rintro e w4 ⟨rfl,o4,dQ,hs4⟩);exact hend.o _ _ ((vG.o.below (qf (qd _))).C8 hs4 dQ)
      ·by_cases k3:kd=3
       ·subst k3
        obtain⟨fb,xE⟩:=Ja0 (decide (od≠0));have hun:l.BH ⟨3,ps,ui,od⟩=(l.AX ps fb).1:=by unfold Hp.BH;rw[if_neg (by simp),if_neg (by simp),if_pos rfl,xE]
        rw[hun]at hend;have AAi:(od != 0)=fb:=by rw[xE];by_cases h:od=0<;>simp[h]
        have HC:=Qa (gz (vG.o.st.below (qf (qd _))) lY.o ps fb);clear hun wX k1 k2 xE;gi_wp2;refine wm (J8 _ _) 9 (by kernel_rfl) (by kernel_rfl) (by kernel_rfl) ?_
        simp only[Ad,af,Aj,aa]
        repeat still_step
        try refine wpStill_nil ?_
        gi_wp2_with (refine⟨trivial,?_⟩;gi_at_call 164;refine aj (ag _ (callsIn_wide.2 HC.o)) ?_;rintro e w4 ⟨rfl,o4,dQ,hs4⟩);exact hend.o _ _ ((vG.o.below (qf (qd _))).C8 hs4 dQ)
       ·have hun:l.BH ⟨kd,ps,ui,od⟩=l:=by unfold Hp.BH;rw[if_neg k1,if_neg k2,if_neg k3]
        rw[hun]at hend;have b1:((kd:Int)==1)=false:=by rw[Qh];omega
        have b2:((kd:Int)==2)=false:=by rw[Qh];omega
        have b3:((kd:Int)==3)=false:=by rw[Qh];omega
        clear hun wX k1 k2 k3;gi_wp2;exact hend.o _ _ vG.o
    gi_wp2;refine iR.mono ?_
    rintro e w3 ⟨rfl,o3,hA3⟩;clear hy iR q0 q1 q2 q3 hcU;gi_wp2;go_roundw
    case rel=>exact⟨j,o3,by simp,by omega,by rw[HL2.o];exact hA3⟩
    case measure=>simp[intOf]
