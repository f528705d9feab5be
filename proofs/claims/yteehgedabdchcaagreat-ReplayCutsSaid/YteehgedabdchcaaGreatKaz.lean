import Derived.Test.YteehgedabdchcaaGreatKar
set_option linter.all false
set_option maxRecDepth 1000000
set_option maxHeartbeats 0
open Go renaming World->Aa,Calls->Ab,Value->Ac
open Go.RowKit renaming Below->Ae
open Go.Value renaming int->I,slice->Ah,tuple->Aj,agg->Ak
open Go.IntKind renaming i64->Z
open Go.Ending renaming returned->O
open List renaming take_succ_cons->Ad,drop_succ_cons->Ai,drop_zero->aa,take_zero->af,append_toArray->ai,size_toArray->ay,push_toArray->az,cons_append->aA,length_nil->aB,nil_append->aC
open Go.CallsIn renaming inRound->ag,mono->aj
open Go.Proofs.Tryz
open Go.Obj renaming cells->ARu
namespace Go.Proofs.YteehgedabdchcaaGreat
open Go.RowKit Go.Shelf Hp
attribute [local go_sem] Oper.semAt_some
section
variable {w w' : Aa} {o o' : Own} {y : A6} {S : An} {i : Nat}
def YC (h0:Aq w o y S) (hk:S.ok) (hi:i<S.Au.length) :
  Ab Tryz.prog 73 #[ptr y.sb,ptr (y.xb i)] w fun e w'=>e=O (Aj #[])/\Bl y (S.abort i) o w w':=by
 obtain⟨o1,ho1⟩:∃ o1,o1=ext o w.1.size (y.l.id+1,0):=⟨_,rfl⟩;have h:=h0.retag (o':=o1) fun b hb=>by rw[ho1];exact qr hb
 have hS0:Stp (qo y) o o1 w w:=by rw[ho1];exact (Stp.refl _ o w).ext _ _ (Qk _)
 have hbx:∀ b,w.1.size<=b->o1 b=(y.l.id+1,0):=fun b hb=>by rw[ho1];exact qz hb
 have dN:∀ n,w.1.size<=n->ext o1 n (y.l.id+1,0)=o1:=fun n hn=>by rw[ho1];exact Sz _ _ _ _ hn
 clear ho1 h0;have hx:=An.AV hi;obtain⟨x,hxe⟩:=Ja0 (S.t i);rw[<-hxe]at hx;have hlf:=hk.Ee hi;rw[<-hxe]at hlf;have hx':=h.Au i x hx;obtain⟨vr,vk,vh,vu,hl⟩:=hx'.log;have HU:=Qa (fun w' (hw:Ae w.1.size w w')=>qo3 (hl.below hw) hlf.ok (y.l.id+1,0))
 have HBk:=Qa qgj;obtain⟨lZ,jx,-⟩:=hx'.AM;unfold zw at jx;have wL:Hid (S.abort i=((S.h ((S.H.Cx x.log.Ay).C1 x.log.holds)).Cs i).tx i x.ended):=by unfold An.abort;rw[<-hxe];exact rfl
 have H:=Qa h;have HK:=Qa hk;have HS:=Qa hS0;have HB:=Qa hbx;have HE:=Qa dN;have HX:=Qa hx;have HLF:=Qa hlf;have HI:=Qa hi;have HXE:=Qa hxe;clear h hk hS0 hbx dN hx hx' hl hlf hxe hi;refine (callsIn_wide (n:=3)).1 ?_;refine callsIn_of_wp_marks func73 rfl trivial ?_ rfl;simp only[ntmps73,ay,Qv,aB,Nat.reduceAdd,Nat.reduceSub,Array.replicate_succ,Array.replicate_zero,az,ai,aC,aA];have cx:=(jx.alloc (ARu #[ptr y.sb] 24)).cell;gi_wp2_with (refine⟨trivial,?_⟩;first
  | (gi_at_call 133;refine (callsIn_wide.2 (HU.out _ (qc (qd w) _))).mono ?_;rintro e w1 ⟨v1,rfl,hr1,hb1⟩;obtain⟨pa,cp,rfl⟩:=hr1.AS)
  | (gi_at_call 132;refine (callsIn_wide.2 (HBk.out _ _ _ _)).mono ?_;rintro e w2 ⟨rfl,rfl⟩))
 rw[HE.out _ (by simp)]at hr1
 have zW:=qe (qc (qd w) (ARu #[ptr y.sb] 24)) hb1;have pK:=(Al.new w #[ptr y.sb] 24).below hb1 (by simp)
 clear hb1 cx;obtain⟨W0,hW0⟩:=Ja0 (w1.alloc (ARu #[.slice pa x.log.Ay.length cp] 212));rw[<-hW0];obtain⟨bU,hbU⟩:=Ja0 w1.1.size;rw[<-hbU];have lH:Ae w.1.size w W0:=by rw[hW0];exact qc zW _
 have dF:Al W0 w.1.size #[ptr y.sb] 24:=by rw[hW0];exact pK.alloc _
 have vY:Al W0 bU #[.slice pa x.log.Ay.length cp] 212:=by rw[hW0];exact Al.Ap _ _ _ _ _ hbU rfl
 have hr2:Row W0 o1 (y.l.id+1,0) 175 4 (.slice pa x.log.Ay.length cp) x.log.Ay.length (zk x.log.Ay):=by rw[hW0];exact hr1.below (qc (qd _) _)
 have hUw:w.1.size<=bU:=by rw[hbU];exact zW.size
 clear hW0 hbU pK hr1 zW;refine yl (gf:=199) (lb:=#[ptr bU]) rfl (enters_of func199 (by kernel_rfl) rfl) ?_
 intro fn W1 R hW1 hR;obtain⟨D,hD⟩:=Ja0 W0.1.size;have kZ:w.1.size<=D:=by rw[hD];exact lH.size
 have hAb:D2 w o o1 y S x.log.Ay D w.1.size bU (.slice pa x.log.Ay.length cp) R S.H W1:=by
  have dH:Ae W0.1.size W0 W1:=by rw[hW1];exact qc (qc (qd _) _) _
  refine⟨H.out.below (qe lH dH),?_,?_,dF.below dH dF.lt,vY.below dH vY.lt,hr2.below dH,HS.out.trans (Stp.of_below (qe lH dH)),HB.out _ (by omega),HB.out _ (by omega),HB.out _ (Qk _),HB.out _ hUw⟩
  ·rw[hW1,hD];have:=World.alloc_heap_new (W0.alloc (.deferred (some []))) (.loop R);rwa [World.size_alloc]at this
  ·rw[hW1,hD];exact (Below.heap_alloc _ _ _ (by simp)).trans (World.alloc_heap_new W0 _)
 rw[<-hD];have HR:=Qa hR;have hRs:R.params.size=2:=by rw[hR];rfl
 have HRS:=Qa hRs;clear hW1 hD hR hRs dF vY hr2 lH HB HE HS;obtain⟨us,mZ⟩:=Ja0 x.log.Ay;have HUn:Hid (∀ u ∈ us,(-9223372036854775808<=u.old/\u.old<=9223372036854775807)/\(u.kind=1->0<=u.old)):=by rw[mZ];exact fun u hu=>⟨HLF.out.un u hu,HLF.out.kd u hu⟩
 rw[<-mZ]at hAb wL ⊢;have HUS:=Qa mZ;clear mZ;have hlen:us.length<=200:=by rw[HUS.out];have h1:=HLF.out.ok;have:=h1.u;have:=h1.mu;omega
 refine callsIn_of_wp func199 rfl trivial ?_ rfl;simp only[ntmps199,ay,Qv,aB,Nat.reduceAdd,Nat.reduceSub,Array.replicate_succ,Array.replicate_zero,az,ai,aC,aA];have cU:W1.cell? ⟨bU,0,none⟩=some (.slice pa us.length cp):=hAb.jU.cell 0;gi_wp2;clear cU;gi_loopw [3] (fun ix wr=>∃ (k:Nat) (o1:Own),ix=I Z ((k:Int)-1)/\k<=us.length/\D2 w o o1 y S us D w.1.size bU (.slice pa us.length cp) R (S.H.Cx (us.drop k)) wr) (fun ix _=>(intOf ix+1).toNat)
 case atStart=>exact⟨us.length,o1,rfl,Qk _,by rw[List.drop_length];exact hAb⟩
 case round =>
  clear hAb HU H o1 jx;obtain⟨k,o1,rfl,hkl,hA⟩:=hrel;obtain⟨wo,rfl⟩:=Ja0 wr;rcases Nat.eq_zero_or_pos k with rfl|hk0
  ·rw[aa]at hA
   have hst:R.state≠.busy:=by rw[HR.out];simp
   have hpe:R.pending=none:=by rw[HR.out]
   have mH:=Qa hpe;have HST:=Qa hst;clear hst hpe hkl;gi_wp2;refine bodyPost_ret (results_none rfl _ _ _) rfl ?_;refine CQ hA.hL HST.out ?_;intro W4 eD;have fG:D2 w o o1 y S us D w.1.size bU (.slice pa us.length cp) { R with state:=.exhausted } (S.H.Cx us) W4:=by rw[eD];exact hA.put kZ _
   clear eD hA;rw[mH.out];dsimp only;have hok1:(S.h (S.H.Cx us)).ok:=An.Dq HK.out _ fun u hu=>(HUn.out u hu).1;obtain⟨l1,hl1⟩:=Ja0 (S.H.Cx us);rw[<-hl1]at fG hok1 wL;clear hl1;obtain⟨RR,hRR⟩:∃ RR:Loop,RR={ R with state:=.exhausted }:=⟨_,rfl⟩;rw[<-hRR]at fG;clear hRR;have fG:=fG.re;obtain⟨o1,ho1⟩:∃ o3,o3=ext o1 W4.1.size (y.l.id+1,0):=⟨_,rfl⟩;rw[<-ho1]at fG;have hE4:ext o1 W4.1.size (y.l.id+1,0)=o1:=by rw[ho1];exact Sz _ _ _ _ (Qk _)
   clear ho1;have hx4:=fG.st.Au i x HX.out;obtain⟨vr4,vk4,vh4,vu4,hl4⟩:=hx4.log;have HH:=Qa (UB hl4 HLF.out.ok (y.l.id+1,0));obtain⟨vt4,jx4,-⟩:=hx4.AM;unfold zw at jx4;have cx:=jx4.cell;have Alp:=Qa hok1;have HE4:=Qa hE4;clear hx4 hl4 hok1 hE4;gi_wp2_with (refine⟨trivial,?_⟩;gi_at_call 79;refine (callsIn_wide.2 HH.out).mono ?_;rintro e w5 ⟨v5,rfl,dQ,hb5⟩;obtain⟨pa5,tT,rfl⟩:=dQ.AS);rw[HE4.out]at dQ;have gQ:=fG.below hb5;clear fG hb5 cx jx4;obtain⟨hs,eu⟩:=Ja0 x.log.holds;have HHo:Hid (∀ z ∈ hs,z.2<=1099511627776):=by rw[eu];exact HLF.out.hv
   have Avd:hs.length<=200:=by rw[eu];have h1:=HLF.out.ok;have:=h1.h;have:=h1.mu;omega
   rw[<-eu]at dQ wL ⊢;clear eu HH HE4;gi_loopw [62] (fun ix wr=>∃ (k:Nat) (o1:Own),ix=I Z k/\k<=hs.length/\D2 w o o1 y S us D w.1.size bU (.slice pa us.length cp) RR (l1.C1 (hs.take k)) wr/\Row wr o1 (y.l.id+1,0) 131 2 (.slice pa5 hs.length tT) hs.length (qk hs)) (fun ix _=>hs.length-(intOf ix).toNat)
   case atStart=>exact⟨0,o1,rfl,Nat.zero_le _,gQ,dQ⟩
   case round =>
    clear gQ dQ o1;obtain⟨k,o1,rfl,hkh,hA,hr⟩:=hrel;obtain⟨wo,rfl⟩:=Ja0 wr;have hA:=hA.re;have hr:=hr.retag (o':=ext o1 wo.1.size (y.l.id+1,0)) fun b hb=>qr hb;obtain⟨o1,ho1⟩:∃ o3,o3=ext o1 wo.1.size (y.l.id+1,0):=⟨_,rfl⟩;rw[<-ho1]at hA hr;have tz:o1 wo.1.size=(y.l.id+1,0):=by rw[ho1];exact qz (Qk _)
    clear ho1;by_cases hlt:k<hs.length
    ·have kI:(k:Int)<(hs.length:Int):=by omega
     have lQ:=Qb hlt;obtain⟨z,hz⟩:=Ja0 (hs[k]);rw[<-hz]at lQ;have htk:hs.take (k+1)=hs.take k++[z]:=by rw[hz];exact List.take_succ_eq_append_getElem hlt
     have hz2:=HHo.out z (Qe lQ);rcases hr.B7 with ⟨_,h0⟩|⟨g,cap,e,hn⟩
     ·have:=yu hs k z lQ
      rw[h0]at this;simp at this
     ·injection e with e1 _ e3
      subst e1 e3;obtain⟨r0,r1⟩:=hr.Ez k z lQ;obtain⟨p,v⟩:=z;have q0:wo.cell? ⟨g,k*2,none⟩=some (I Z p):=r0;have q1:wo.cell? ⟨g,k*2+1,none⟩=some (I Z v):=r1;clear r0 r1;simp only at hz2;have hok:(S.h (l1.C1 (hs.take k))).ok:=An.Er _ (S:=S.h l1) Alp.out fun u hu=>HHo.out u (List.mem_of_mem_take hu);have hstep:l1.C1 (hs.take (k+1))=(l1.C1 (hs.take k)).D7 (p,v):=by rw[htk];exact qnf _ _ _
      have HST:=Qa hstep;obtain⟨l2,hl2⟩:=Ja0 (l1.C1 (hs.take k));rw[<-hl2]at hA hok HST;clear hl2 hstep htk hz lQ;have HR1:=Qa (qjr (hA.st.below (qc (qd _) (ARu #[I Z p,I Z v] 131))) hok p v hz2);have jz1:=Al.new wo #[I Z p,I Z v] 131;have hA1:=hA.below (qc (qd _) (ARu #[I Z p,I Z v] 131));have hr1:=hr.below (qc (qd _) (ARu #[I Z p,I Z v] 131));have hwo:w.1.size<=wo.1.size:=hA.sp.size;have cS:=hA.jS.cell 0;have sS:=hA.jS.lt;have Alq:=Qa (An.Fh hok p hz2);clear hA hr hok hz2;by_cases hv:v=0
      ·have hvb:((v:Int)==0)=true:=by rw[beq_iff_eq];omega
       have hro:l2.D7 (p,v)=((l2.AJ p (2*v)).1.A1 p true).1:=by unfold Hp.D7;rw[if_pos hv]
       rw[hro]at HST;clear hv hro;gi_wp2_with (refine⟨trivial,?_⟩;gi_at_call 84;refine (callsIn_wide.2 HR1.out).mono ?_;rintro e w2 ⟨rfl,o2,hS2,hs2⟩;have hA2:=hA1.Cz hs2 hS2;have hr2:=hr1.Ao hs2 (qy y);have jz2:=jz1.Ao hs2 (by rw[tz];exact qy y);clear cS sS;have cz:=jz2.cell;have cS:=hA2.jS.cell 0;obtain⟨vq2,vl2,vm2,jb,-⟩:=hS2.AM;unfold qw at jb;have cb:=jb.cell 0)
       have HC:=Qa (m7 (hS2.below (qf (qd _))) Alq.out p true);refine wm (Sx _) 6 (by kernel_rfl) (by kernel_rfl) (by kernel_rfl) ?_
       simp only[Ad,af,Ai,aa];repeat still_step
       try refine wpStill_nil ?_
       gi_wp2_with (refine⟨trivial,?_⟩;gi_at_call 121;refine (callsIn_wide.2 HC.out).mono ?_;rintro e w3 ⟨rfl,o3,dB,hs3⟩);have hA3:=(hA2.below (qf (qd _))).Cz hs3 dB;have hr3:=(hr2.below (qf (qd _))).Ao hs3 (qy y);go_roundw
       case rel=>exact⟨k+1,o3,by simp,by omega,by rw[HST.out];exact hA3,hr3⟩
       case measure=>simp[intOf];omega
      ·have hvb:((v:Int)==0)=false:=by rw[Qh];omega
       have hro:l2.D7 (p,v)=(l2.AJ p (2*v)).1:=by unfold Hp.D7;rw[if_neg hv]
       rw[hro]at HST;clear hv hro;gi_wp2_with (refine⟨trivial,?_⟩;gi_at_call 84;refine (callsIn_wide.2 HR1.out).mono ?_;rintro e w2 ⟨rfl,o2,hS2,hs2⟩;have hA2:=hA1.Cz hs2 hS2;have hr2:=hr1.Ao hs2 (qy y);have jz2:=jz1.Ao hs2 (by rw[tz];exact qy y);clear cS sS;have cz:=jz2.cell)
       go_roundw
       case rel=>exact⟨k+1,o2,by simp,by omega,by rw[HST.out];exact hA2,hr2⟩
       case measure=>simp[intOf];omega
    ·obtain rfl:k=hs.length:=by omega
     rw[List.take_length]at hA;obtain⟨l2,hl2⟩:=Ja0 (l1.C1 hs);rw[<-hl2]at hA wL;clear hl2;obtain⟨vq,vl,vm,jb,hrows⟩:=hA.st.AM;replace jb:Al wo y.sb #[ptr y.l.h,ptr y.cy,ptr y.ck,y.EM,vq,I Z S.next,I Z S.Av,I Z S.version,vl,vm] 101:=jb;have cb:=jb.cell;have zb:=jb.free;have sb:=jb.lt;obtain⟨vt5,jx5,hrt⟩:=(hA.st.Au i x HX.out).AM;unfold zw at jx5;have cx:=jx5.cell;have cS:=hA.jS.cell 0;have sS:=hA.jS.lt;have Aex:S.Av≠(i:Int)->S.abort i=(S.h l2).tx i x.ended:=fun hh=>by
      rw[wL.out];unfold An.Cs;rw[if_neg (show ¬(S.h l2).Av=(i:Int) from hh)]
     have Aey:S.Av=(i:Int)->S.abort i=({ S.h l2 with queue:=x.AP++S.queue,Av:=-1 }:An).tx i x.ended:=fun hh=>by
      rw[wL.out];unfold An.Cs;rw[if_pos (show (S.h l2).Av=(i:Int) from hh),HXE.out];rfl
     have Akd:=Qa Aex;have Ake:=Qa Aey;clear hlt Aex Aey;by_cases hh:S.Av=(i:Int)
     ·have xG:(S.Av==(i:Int))=true:=by rw[hh];exact beq_self_eq_true _
      have hq2:Row wo o1 (y.l.id,13) 117 2 vq S.queue.length (qk S.queue):=hrows.q;have hl2:Row wo o1 (y.l.id,14) 3 1 vl S.lost.length (S.lost.map nv):=hrows.l;have hm2:Row wo o1 (y.l.id,15) 3 1 vm S.came.length (S.came.map nv):=hrows.m;have ht1:x.AP.length<=1099511627776:=by have h1:=UO _ _ _ HX.out;have h2:=HK.out.qu;have h3:=HK.out.Lr;omega
      have ht2:S.queue.length<=1099511627776:=by have h2:=HK.out.qu;have h3:=HK.out.Lr;omega
      obtain⟨pt,ct,rfl⟩:=hrt.AS;obtain⟨pq,cq,rfl⟩:=hq2.AS;clear hrows;have HCc:=Qa (qkl (Al.new wo.drew.drew #[.slice pt x.AP.length ct,.slice pq S.queue.length cq] 99) ((hrt.below (qf (qf (qd wo)))).below (qc (qd _) _)) ((hq2.below (qf (qf (qd wo)))).below (qc (qd _) _)) ht1 ht2);have hos:o1 y.sb=(y.l.id,11):=hA.st.os;have dA:=Qa (fun (w4:Aa) (v4:Ac) (hb4:Ae (wo.drew.drew.alloc (ARu #[.slice pt x.AP.length ct,.slice pq S.queue.length cq] 99)).1.size (wo.drew.drew.alloc (ARu #[.slice pt x.AP.length ct,.slice pq S.queue.length cq] 99)) w4)
        (hr4:Row w4 (fo (wo.drew.drew.alloc (ARu #[.slice pt x.AP.length ct,.slice pq S.queue.length cq] 99)).1.size) (1,0) 117 2 v4 (x.AP++S.queue).length (qk (x.AP++S.queue))) =>
       show ∃ (wI:Ac) (o2:Own),Stp (kl y) o1 o2 wo (w4.setCell ⟨y.sb,4,none⟩ v4)/\Al (w4.setCell ⟨y.sb,4,none⟩ v4) y.sb #[ptr y.l.h,ptr y.cy,ptr y.ck,y.EM,wI,I Z S.next,I Z S.Av,I Z S.version,vl,vm] 101 /\
         B1 (w4.setCell ⟨y.sb,4,none⟩ v4) o2 y.l.id { S.h l2 with queue:=x.AP++S.queue,Av:=-1 } wI vl vm from by
        have hb5:Ae wo.1.size wo w4:=qe (qc (qf (qf (qd wo))) _) hb4;have hs5:Stp (kl y) o1 (ext o1 (wo.drew.drew.alloc (ARu #[.slice pt x.AP.length ct,.slice pq S.queue.length cq] 99)).1.size (y.l.id,13)) wo w4:=(Stp.of_below hb5).ext _ _ (by simp)
        have hf5:Stp (fun _=>False) o1 (ext o1 (wo.drew.drew.alloc (ARu #[.slice pt x.AP.length ct,.slice pq S.queue.length cq] 99)).1.size (y.l.id,13)) wo w4:=(Stp.of_below hb5).ext _ _ (by simp)
        have ho5:(ext o1 (wo.drew.drew.alloc (ARu #[.slice pt x.AP.length ct,.slice pq S.queue.length cq] 99)).1.size (y.l.id,13)) y.sb=(y.l.id,11):=by rw[qr (by simp;omega)];exact hos
        have hk5:Stp (fun t=>t=(y.l.id,11)) (ext o1 (wo.drew.drew.alloc (ARu #[.slice pt x.AP.length ct,.slice pq S.queue.length cq] 99)).1.size (y.l.id,13)) (ext o1 (wo.drew.drew.alloc (ARu #[.slice pt x.AP.length ct,.slice pq S.queue.length cq] 99)).1.size (y.l.id,13)) w4 (w4.setCell ⟨y.sb,4,none⟩ v4):=(Stp.refl _ _ w4).setCell (by show (ext o1 _ _) y.sb=_;exact ho5) _
        refine⟨v4,_,hs5.trans (hk5.mono fun t ht=>by rw[ht];exact⟨rfl,.inl rfl⟩),?_,(hr4.out o1 (y.l.id,13)).Ao hk5 (by simp),?_,?_⟩
        ·exact (jb.below hb5 jb.lt).set 4 v4
        ·exact (hl2.Ao hf5 id).Ao hk5 (by simp)
        ·exact (hm2.Ao hf5 id).Ao hk5 (by simp))
      gi_wp2;gi_region;gi_upto_region 18 with fail;gi_cut [] from 92 (fun wc=>∃ (wI:Ac) (o2:Own),Stp (kl y) o1 o2 wo wc/\Al wc y.sb #[ptr y.l.h,ptr y.cy,ptr y.ck,y.EM,wI,I Z S.next,I Z S.Av,I Z S.version,vl,vm] 101/\B1 wc o2 y.l.id { S.h l2 with queue:=x.AP++S.queue,Av:=-1 } wI vl vm)
      case first =>
       refine qn9 ?_;gi_region_with (first|(refine⟨trivial,?_⟩;gi_at_call 134;refine (callsIn_wide.2 HCc.out).mono ?_;rintro e w4 ⟨v4,rfl,hr4,hb4⟩;obtain⟨p4,k4,rfl⟩:=hr4.AS;have hb5:Ae wo.1.size wo w4:=qe (qc (qf (qf (qd wo))) _) hb4;have c4:=(jb.below hb5 jb.lt).cell;have z4:=(jb.below hb5 jb.lt).free;have s4:=(jb.below hb5 jb.lt).lt;have dS:=(hA.jS.below hb5 hA.jS.lt).cell 0)|fail)
       all_goals
        gi_wp2_with fail;gi_meet
        case rel=>exact dA.out _ _ hb4 (by have hr:=hr4;rw[Qd]at hr ⊢;exact hr)
      case rest =>
       obtain⟨wI,o2,hsc,hbc,hrc⟩:=hcut;have Aaq:Stp (qo y) o1 o2 wo wc:=hsc.mono fun _=>mw;have gL:=hA.jS.Ao Aaq (by rw[hA.tS];exact qy y)
       have lD:=(Qf.1 hA.hD).1;have hDc:=(Aaq.block D lD (by rw[hA.tD];exact qy y)).trans hA.hD
       have tDc:o2 D=(y.l.id+1,0):=(Aaq.tags _ lD).trans hA.tD;have Agf:o2 y.sb=(y.l.id,11):=(hsc.tags _ jb.lt).trans hos;have hk7:Stp (fun t=>t=(y.l.id,11)) o2 o2 wc (wc.setCell ⟨y.sb,6,none⟩ (I Z (-1))):=(Stp.refl _ _ wc).setCell (by show o2 y.sb=_;exact Agf) _
       have hs7:Stp (kl y) o1 o2 wo (wc.setCell ⟨y.sb,6,none⟩ (I Z (-1))):=hsc.trans (hk7.mono fun t ht=>by rw[ht];exact⟨rfl,.inl rfl⟩)
       have oH:Aq (wc.setCell ⟨y.sb,6,none⟩ (I Z (-1))) o2 y { S.h l2 with queue:=x.AP++S.queue,Av:=-1 }:=
        hA.st.own rfl rfl rfl rfl rfl (hbc.set 6 (I Z (-1))) (hrc.Ao hk7 fun j h1 h2=>by simp;omega) hs7
       have iF:=Qa (SI oH HX.out);clear cb zb sb cx cS sS;have cb:=hbc.cell;have zb:=hbc.free;have sb:=hbc.lt;have cS:=gL.cell;have sS:=gL.lt;gi_wp2_with (refine⟨trivial,?_⟩;gi_at_call 80;refine (callsIn_wide.2 iF.out).mono ?_;rintro e w6 ⟨rfl,o6,eU,hs6⟩);have lDc:=(Qf.1 hDc).1;have nD:D≠y.sb:=fun e=>by rw[e]at tDc;rw[Agf]at tDc;injection tDc with h1 _;omega
       have hD6:w6.heap[D]?=some (.deferred (some [])):=(hs6.block D (by simpa [World.setCell] using lDc) (by rw[tDc];exact qy y)).trans ((Below.heap_setCell _ _ _ _ nD).trans hDc)
       have tD6:o6 D=(y.l.id+1,0):=(hs6.tags _ (by simpa [World.setCell] using lDc)).trans tDc
       refine⟨by simp,.inl ⟨_,_,rfl,run_takeDeferred hD6,?_⟩⟩
       refine⟨Aj #[],by simp[results,results73,go_sem],rfl,o6,?_,?_⟩
       ·rw[Ake.out hh];exact eU.put tD6 _
       ·exact (hA.sp.trans ((hs7.mono fun _=>mw).trans hs6)).CJ kZ _
     ·have xG:(S.Av==(i:Int))=false:=by rw[Qh];exact hh
      have iF:=Qa (SI (hA.st.below (qf (qd _))) HX.out);gi_wp2;gi_region;gi_wp2_with (refine⟨trivial,?_⟩;gi_at_call 80;refine (callsIn_wide.2 iF.out).mono ?_;rintro e w6 ⟨rfl,o6,eU,hs6⟩);have lD:=(Qf.1 hA.hD).1;have hD6:w6.heap[D]?=some (.deferred (some [])):=(hs6.block D (by simpa using lD) (by rw[hA.tD];exact qy y)).trans hA.hD
      have tD6:o6 D=(y.l.id+1,0):=(hs6.tags _ (by simpa using lD)).trans hA.tD
      refine⟨by simp,.inl ⟨_,_,rfl,run_takeDeferred hD6,?_⟩⟩
      refine⟨Aj #[],by simp[results,results73,go_sem],rfl,o6,?_,?_⟩
      ·rw[Akd.out hh];exact eU.put tD6 _
      ·exact (hA.sp.trans ((Stp.of_below (qf (qd _))).trans hs6)).CJ kZ _
  ·obtain⟨j,rfl⟩:∃ j,k=j+1:=⟨k-1,by omega⟩
   have hA:=hA.re;obtain⟨o1,ho1⟩:∃ o3,o3=ext o1 wo.1.size (y.l.id+1,0):=⟨_,rfl⟩;rw[<-ho1]at hA;have tz:o1 wo.1.size=(y.l.id+1,0):=by rw[ho1];exact qz (Qk _)
   clear ho1;rw[show ((j+1:Nat):Int)-1=(j:Int) from by omega]
   have hgj:=Qb (show j<us.length by omega)
   obtain⟨u,hu⟩:=Ja0 (us[j]);rw[<-hu]at hgj;have hdrop:us.drop j=u::us.drop (j+1):=by rw[hu];exact List.drop_eq_getElem_cons (by omega)
   have hcU:=hA.jU.cell 0;rcases hA.row.B7 with ⟨_,h0⟩|⟨g,cap,e,hn⟩
   ·have:=XY us j u hgj
    rw[h0]at this;simp at this
   ·injection e with e1 _ e3
    subst e1 e3;obtain⟨q0,q1,q2,q3⟩:=hA.row.NZ j u hgj;have zT:=HUn.out u (Qe hgj);have hok:(S.h (S.H.Cx (us.drop (j+1)))).ok:=An.Dq HK.out _ fun u hu=>(HUn.out u (List.mem_of_mem_drop hu)).1;obtain⟨l,hl⟩:=Ja0 (S.H.Cx (us.drop (j+1)));have hl2:S.H.Cx (us.drop j)=l.Cr u:=by rw[hdrop,hl];rfl
    rw[<-hl]at hA hok;have HL2:=Qa hl2;clear hl2 hl hdrop hu hgj;have hy:=run_yield (P:=Tryz.prog) (args:=#[I Z j,Ak #[I Z u.kind,I Z u.pos,I Z u.i,I Z u.old]]) hA.hL (by rw[HRS.out];rfl)
    obtain⟨T,hT⟩:=Ja0 ((R.params.zip #[I Z j,Ak #[I Z u.kind,I Z u.pos,I Z u.i,I Z u.old]]).foldl (fun tmps (t,a)=>tmps.setIfInBounds t a) R.tmps);rw[<-hT]at hy;have HT:=Qa hT;clear hT;have dI:RoundIn Fence.wide 1 Tryz.prog (D+1) R.fn T R.assign R.body wo fun e W' =>
      e=O (.bool true)/\∃ o2,D2 w o o2 y S us D w.1.size bU (Ah (some ⟨g,0,none⟩) us.length cp) R (l.Cr u) W':=by
     have rG:=HT.out;obtain⟨Post,cK⟩:∃ Post:Ending->Aa->Prop,Post=fun e W'=>e=O (.bool true)/\∃ o2,D2 w o o2 y S us D w.1.size bU (Ah (some ⟨g,0,none⟩) us.length cp) R (l.Cr u) W':=⟨_,rfl⟩;rw[<-cK,rG];have dM:=Qa cK;clear cK rG HT hy q0 q1 q2 q3 hcU;have hst:R.state=.ready:=by rw[HR.out]
     have hpe:R.pending=none:=by rw[HR.out]
     have HST:=Qa hst;have mH:=Qa hpe;clear hst hpe;rw[HR.out];refine roundIn_of_wpIn trivial ?_;gi_wp2;obtain⟨W2,hW2⟩:=Ja0 (wo.alloc (ARu #[I Z u.kind,I Z u.pos,I Z u.i,I Z u.old] 175));rw[<-hW2];have hA2:D2 w o o1 y S us D w.1.size bU (Ah (some ⟨g,0,none⟩) us.length cp) R l W2:=by rw[hW2];exact hA.below (qc (qd _) _)
     have jB2:Al W2 wo.1.size #[I Z u.kind,I Z u.pos,I Z u.i,I Z u.old] 175:=by rw[hW2];exact Al.new _ _ _
     have hDo:D+1<wo.1.size:=(Qf.1 hA.hL).1;have hwo:w.1.size<=wo.1.size:=hA.sp.size;obtain⟨bu,hbu⟩:=Ja0 wo.1.size;rw[<-hbu]at jB2 hDo hwo tz ⊢;clear hW2 hA hbu;refine uk hA2.hL HST.out ?_;intro W3 hW3 sF;have hA3:D2 w o o1 y S us D w.1.size bU (Ah (some ⟨g,0,none⟩) us.length cp) { R with state:=.busy } l W3:=by rw[hW3];exact hA2.put kZ _
     have xN:Al W3 bu #[I Z u.kind,I Z u.pos,I Z u.i,I Z u.old] 175:=by rw[hW3];exact jB2.put (by omega)
     clear hW3 hA2 jB2 sF;have hend:=Qa (fun (W4:Aa) (o4:Own) (fG:D2 w o o4 y S us D w.1.size bU (Ah (some ⟨g,0,none⟩) us.length cp) { R with state:=.busy } (l.Cr u) W4) =>
      show ∃ v w5,(Instr.endRound (D+1) none).run Tryz.prog W4=.ok v w5/\Post (O v) w5 from by
       refine SH fG.hL HST.out mH.out ?_;intro W5 dA _;rw[dM.out];exact⟨rfl,o4,by rw[dA];exact fG.put kZ R⟩)
     have cS:=hA3.jS.cell 0;obtain⟨vq3,vl3,vm3,jb,-⟩:=hA3.st.AM;unfold qw at jb;have cb:=jb.cell 0;have cB:=xN.cell;have xW:=Qa hA3;have ou:=Qa hok;obtain⟨kd,ps,ui,od⟩:=u;simp only at zT xN cB;clear hA3 hok jb;by_cases k1:kd=1
     ·subst k1
      obtain⟨q,rfl⟩:∃ q:Nat,od=q:=⟨od.toNat,by have:=zT.2 rfl;omega⟩
      have hun:l.Cr ⟨1,ps,ui,(q:Int)⟩=(l.Br ps ui q).1:=by unfold Hp.Cr;rw[if_pos rfl];simp
      rw[hun]at hend;have HC:=Qa (U5 (xW.out.st.below (qf (qd _))) ou.out ps ui q);clear hun zT;gi_wp2;refine wm (Kc _ _) 10 (by kernel_rfl) (by kernel_rfl) (by kernel_rfl) ?_
      simp only[Ad,af,Ai,aa]
      repeat still_step
      try refine wpStill_nil ?_
      gi_wp2_with (refine⟨trivial,?_⟩;gi_at_call 113;refine aj (ag _ (callsIn_wide.2 HC.out)) ?_;rintro e w4 ⟨rfl,o4,dR,hs4⟩);exact hend.out _ _ ((xW.out.below (qf (qd _))).Cz hs4 dR)
     ·by_cases k2:kd=2
      ·subst k2
       have hun:l.Cr ⟨2,ps,ui,od⟩=(l.BO ps ui od).1:=by unfold Hp.Cr;rw[if_neg (by simp),if_pos rfl]
       rw[hun]at hend;have HC:=Qa (qi9 (xW.out.st.below (qf (qd _))) ou.out ps ui od zT.1);clear hun zT k1;gi_wp2;refine wm (Kc _ _) 10 (by kernel_rfl) (by kernel_rfl) (by kernel_rfl) ?_
       simp only[Ad,af,Ai,aa]
       repeat still_step
       try refine wpStill_nil ?_
       gi_wp2_with (refine⟨trivial,?_⟩;gi_at_call 110;refine aj (ag _ (callsIn_wide.2 HC.out)) ?_;rintro e w4 ⟨rfl,o4,dR,hs4⟩);exact hend.out _ _ ((xW.out.below (qf (qd _))).Cz hs4 dR)
      ·by_cases k3:kd=3
       ·subst k3
        obtain⟨fb,hfb⟩:=Ja0 (decide (od≠0));have hun:l.Cr ⟨3,ps,ui,od⟩=(l.A1 ps fb).1:=by unfold Hp.Cr;rw[if_neg (by simp),if_neg (by simp),if_pos rfl,hfb]
        rw[hun]at hend;have AFd:(od != 0)=fb:=by rw[hfb];by_cases h:od=0<;>simp[h]
        have HC:=Qa (m7 (xW.out.st.below (qf (qd _))) ou.out ps fb);clear hun zT k1 k2 hfb;gi_wp2;refine wm (Kc _ _) 9 (by kernel_rfl) (by kernel_rfl) (by kernel_rfl) ?_
        simp only[Ad,af,Ai,aa]
        repeat still_step
        try refine wpStill_nil ?_
        gi_wp2_with (refine⟨trivial,?_⟩;gi_at_call 121;refine aj (ag _ (callsIn_wide.2 HC.out)) ?_;rintro e w4 ⟨rfl,o4,dR,hs4⟩);exact hend.out _ _ ((xW.out.below (qf (qd _))).Cz hs4 dR)
       ·have hun:l.Cr ⟨kd,ps,ui,od⟩=l:=by unfold Hp.Cr;rw[if_neg k1,if_neg k2,if_neg k3]
        rw[hun]at hend;have b1:((kd:Int)==1)=false:=by rw[Qh];omega
        have b2:((kd:Int)==2)=false:=by rw[Qh];omega
        have b3:((kd:Int)==3)=false:=by rw[Qh];omega
        clear hun zT k1 k2 k3;gi_wp2;exact hend.out _ _ xW.out
    gi_wp2;refine dI.mono ?_
    rintro e w3 ⟨rfl,o3,hA3⟩;clear hy dI q0 q1 q2 q3 hcU;gi_wp2;go_roundw
    case rel=>exact⟨j,o3,by simp,by omega,by rw[HL2.out];exact hA3⟩
    case measure=>simp[intOf]
