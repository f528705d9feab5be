import Derived.Test.YteehgedabdchcaaGreatKbq
import Derived.Test.YteehgedabdchcaaGreatKbu
set_option linter.all false
set_option maxRecDepth 1000000
set_option maxHeartbeats 0
open Go renaming World->Aa,Calls->Ab
open Go.RowKit renaming Below->Ae
open Go.Value renaming int->I,pointer->Ag,tuple->Aj,agg->Ak
open Go.IntKind renaming i64->Z
open Go.Ending renaming returned->O
open List renaming not_mem_nil->Ad,mem_cons->Ai
open Go.Proofs.Tryz
namespace Go.Proofs.YteehgedabdchcaaGreat
open Go.RowKit Hp
attribute [local go_sem ↓] Go.wp_at_zero Go.wp_at_succ
section
variable {w w' : Aa} {o o' : Own} {m : Ck} {M : Mc}
def JW (h:BN w o m M) (hk:M.ok) (t:Int) (ho:∀ b,w.1.size<=b->o b=(m.y.l.id+1,0)) :
  Ab Tryz.prog 32 #[ptr m.mb,I Z t] w fun e w'=>e=O (M.step t).2.val/\C9 m (M.step t).1 o w w':=by
 obtain⟨ve,jb,_⟩:=h.AM;have eu:=h.hs;obtain⟨ph,ch,pF⟩:=eu.AS;rw[pF]at eu jb;have HN:=Qa (fun (W:Aa) (hb:Ae w.1.size w W)=>qox h W hb)
 by_cases h0:t<0
 ·have e1:M.step t=(M,⟨0,0,0⟩):=if_pos (.inl h0)
  rw[e1];clear h hk eu pF jb e1;go_enter func32,ntmps32;go_wp2_with fail;exact bodyPost_ret (v:=Ak #[I Z 0,I Z 0,I Z 0]) (by simp[results,results32,go_sem]) rfl ⟨rfl,HN.out _ (qc (qd w) _)⟩
 by_cases h1:(M.hs.length:Int)<=t
 ·have e1:M.step t=(M,⟨0,0,0⟩):=if_pos (.inr (.inl h1))
  rw[e1];obtain⟨nh,dJ⟩:=Ja0 M.hs.length;rw[<-dJ]at h1 jb;have cb:=jb.cell;have lb:=jb.lt;clear h hk eu pF dJ jb e1;go_enter func32,ntmps32;go_wp2_with fail;exact bodyPost_ret (v:=Ak #[I Z 0,I Z 0,I Z 0]) (by simp[results,results32,go_sem]) rfl ⟨rfl,HN.out _ (qc (qd w) _)⟩
 obtain⟨T,rfl⟩:∃ T:Nat,t=T:=⟨t.toNat,by omega⟩
 have hT:T<M.hs.length:=by omega
 have hb1:Ae w.1.size w (w.alloc (.cells #[I Z 0,I Z 0,I Z 0] 54)):=qc (qd w) _;have eG:=Qa (qfz (h.below hb1));have jA:=Al.new w #[I Z 0,I Z 0,I Z 0] 54;have hAm:w.1.size≠m.mb:=by have:=jb.lt;omega
 by_cases hf:2000<=M.past.length
 ·have e1:M.step T=(M,⟨0,0,0⟩):=if_pos (.inr (.inr hf))
  rw[e1];rw[decide_eq_true hf]at eG;obtain⟨nh,dJ⟩:=Ja0 M.hs.length;rw[<-dJ]at h1 jb;have cb:=jb.cell;have lb:=jb.lt;have oA:=ho w.1.size (Qk _);have hb1':=Qa hb1;clear h hk eu pF dJ jb e1 hf hT hb1 ho;go_enter func32,ntmps32;go_wp2_with fail;refine eG.out.mono ?_;rintro e w2 ⟨rfl,hM2,hk2,hz2,hs2⟩;have j2:=hk2 _ _ _ hAm jA;have c2:=j2.cell;have z2:=j2.free;have l2:=j2.lt;have jX:=ff j2 ⟨0,0,0⟩;have HL:=Qa (C9.Pz hM2 (((Stp.of_below hb1'.out).trans hs2).mono (by rintro _ rfl;exact .inr rfl)) (b:=w.1.size) (Qk _) oA ⟨0,0,0⟩)
  clear hM2 hk2 hz2 hs2 j2;go_wp2_with fail;change bodyPost _ _ _ _ _ (wy w2 w.1.size ⟨0,0,0⟩);generalize wy w2 w.1.size ⟨0,0,0⟩=X at *;have cX:=jX.cell;exact bodyPost_ret (v:=Ak #[I Z 0,I Z 0,I Z 0]) (by simp[results,results32,go_sem,cX,A0.cells]) rfl ⟨rfl,HL.out⟩
 ·have e1:M.step T=M.BV T:=if_neg (fun e=>e.elim (by omega) fun e=>e.elim h1 hf)
  rw[e1];obtain⟨RR,hRR⟩:=Ja0 (M.BV T);rw[<-hRR];have HRR:=Qa hRR;rw[decide_eq_false hf]at eG;have hz:=Mc.Pd (M:=M) hT;have hTp:T<M.ps.length:=by rw[<-hk.len];exact hT
  have Amj:=Qa (hk.tst hT);have HP:=Qa (Mc.EH (M:=M) hTp);obtain⟨iM,fE,a0',c0',ep,_,_⟩:=h.ps.at (Mc.EH (M:=M) hTp);rw[ep]at jb;obtain⟨nh,dJ⟩:=Ja0 M.hs.length;have fH:nh=M.ps.length:=by rw[dJ];exact hk.len
  have jT:=Qa dJ;have tH:=Qa fH;rw[<-dJ]at h1 jb hT eu;rw[<-fH]at jb;have HVp:=Qa ep;have HVh:=Qa pF;have HZ:=Qa hz;have cb:=jb.cell;have lb:=jb.lt;have oA:=ho w.1.size (Qk _);have HO:=Qa ho;have hb1':=Qa hb1;have HK:=Qa hk;have hTI:¬(nh:Int)<=(T:Int):=by omega
  have zO:(T:Int)<(nh:Int):=by omega
  clear h hk eu jb e1 hf hb1 ho dJ fH ep pF h1 hTp hz hRR;go_enter func32,ntmps32;go_wp2_with fail;refine eG.out.mono ?_;rintro e w2 ⟨rfl,hM2,hk2,hz2,hs2⟩;have pG:=hk2 _ _ _ hAm jA;have sW2:Stp (yo m) o o w w2:=((Stp.of_below hb1'.out).trans hs2).mono (by rintro _ rfl;exact .inr rfl)
  obtain⟨ve2,jm2,_⟩:=hM2.AM;rw[HVh.out,HVp.out,<-jT.out,<-tH.out]at jm2;have hr2:=hM2.hs;rw[HVh.out,<-jT.out]at hr2;obtain⟨gq,eq,hcap,q⟩:=hr2.KX HZ.out;subst eq;obtain⟨gp,cp,a,c,ep,hcp,zJ⟩:=hM2.ps.at HP.out;rw[HVp.out]at ep;injection ep with ep1 _ ep3;injection ep1 with ep1;injection ep1 with ep1;subst ep1 ep3;obtain⟨z,hze⟩:=Ja0 (M.h T);rw[<-hze]at q;have HZE:=Qa hze;obtain⟨P,hPe⟩:=Ja0 ((M.p T).length);rw[<-hPe]at hcp;have dV:=Qa (fun (W:Aa) (hb:Ae w2.1.size w2 W)=>show Ab Tryz.prog 93 #[ptr m.y.sb,I Z T,.slice a P c,z.v] W fun e' w'=>e'=O (Aj #[(M.S.Bf T (M.p T) z).h.v,(M.S.Bf T (M.p T) z).a.val])/\Left m.y (M.S.Bf T (M.p T) z).S o W w' from by
   rw[hPe,hze];exact qot (hM2.st.below hb) (zJ.Uf.below hb) (M.h T) Amj.out)
  have eH:=Qa hM2;have HJA:=Qa pG;have oF:=Qa sW2;obtain⟨R,hR⟩:=Ja0 (M.S.Bf T (M.p T) z);rw[<-hR]at dV;have HR:=Qa hR;obtain⟨RS,⟨rb,rn,⟨b0,b1,b2,b3,b4,b5⟩,⟨d0,d1,d2,d3,d4,d5⟩,rl⟩,⟨ak,ae,av⟩⟩:=R;obtain⟨zb,zn,⟨a0,a1,a2,a3,a4,a5⟩,⟨s0,s1,s2,s3,s4,s5⟩,zl⟩:=z;obtain⟨q0,q1,q2,q3,q4,q5,q6,q7,q8,q9,nN,nO,qJ,qL,qM⟩:=q;have uM:=Qa (show RR=(⟨RS,M.ps,M.hs.set T ⟨rb,rn,⟨b0,b1,b2,b3,b4,b5⟩,⟨d0,d1,d2,d3,d4,d5⟩,rl⟩,if ak≠0 then wb M.past ⟨(T:Int),zb,zn,⟨ak,ae,av⟩⟩ else M.past⟩,⟨ak,ae,av⟩) from by rw[HRR.out];unfold Mc.BV;rw[<-HZE.out,<-HR.out])
  simp only at q0 q1 q2 q3 q4 q5 q6 q7 q8 q9 nN nO qJ qL qM;unfold AE.v AE.cells A0.val A0.cells at dV;simp only at dV;have cm:=jm2.cell;have lm:=jm2.lt;have lq:=hr2.blt;clear cb lb hM2 hk2 hs2 pG sW2 hze hPe hR zJ hr2;go_upto_region 4 with fail;obtain⟨W3,hW3⟩:=Ja0 (w2.alloc (.cells #[I Z zb,I Z zn,I Z a0,I Z a1,I Z a2,I Z a3,I Z a4,I Z a5,I Z s0,I Z s1,I Z s2,I Z s3,I Z s4,I Z s5,.bool zl] 58));rw[<-hW3];have hb3:Ae w2.1.size w2 W3:=by rw[hW3];exact qc (qd w2) _
  have hz2':w2.1.size=w.1.size+1:=by simpa using hz2
  have gW:Al W3 (w.1.size+1) #[I Z zb,I Z zn,I Z a0,I Z a1,I Z a2,I Z a3,I Z a4,I Z a5,I Z s0,I Z s1,I Z s2,I Z s3,I Z s4,I Z s5,.bool zl] 58:=by rw[hW3,<-hz2'];exact Al.new w2 _ _
  have wD:=jm2.below hb3 jm2.lt;have hc3:=cell_below hcp hb3;clear hW3 cm lm lq q0 q1 q2 q3 q4 q5 q6 q7 q8 q9 nN nO qJ qL qM jm2 hcp;have cm:=wD.cell;have cx:=gW.cell;have HH8:Hid (∀ (W:Aa),Ae w2.1.size w2 W->Ab Tryz.prog 93 #[ptr m.y.sb,I Z T,.slice a P c,Ak #[I Z zb,I Z zn,I Z a0,I Z a1,I Z a2,I Z a3,I Z a4,I Z a5,I Z s0,I Z s1,I Z s2,I Z s3,I Z s4,I Z s5,.bool zl]] W fun e' w'=>e'=O (Aj #[Ak #[I Z rb,I Z rn,I Z b0,I Z b1,I Z b2,I Z b3,I Z b4,I Z b5,I Z d0,I Z d1,I Z d2,I Z d3,I Z d4,I Z d5,.bool rl],Ak #[I Z ak,I Z ae,I Z av]])/\Left m.y RS o W w'):=dV;refine SP _ _ _ _ _ _ _ _ _ _ _ _ _ _ _ _ _ _ _ _ _ _ _ _ _ _ _ _ _ _ _ _ _ _ _ _ _ _ _ _ _ _ _ _ _ _ _ _ _ _ _ _ _ _ _ _ _ _ _ _ _ _ _ _ _ _ _ _ _ eH HJA oF HO oA HVp hz2' hb3 gW wD hc3 (Int.not_le.2 zO) zO HH8 (Qa ?_);rintro W5 o5 C D z33 z34 z35 z36 z37 z38 z39 z40 z41 z42 z43 z44 z45 z46 z47 z48 z49 gQ jC jD oC oD;clear cm cx HH8 gW wD hc3 hb3;obtain⟨ve5,jm5,_⟩:=gQ.mi.AM;have jm5:Al W5 m.mb #[ptr m.y.sb,m.vp,m.vh,.int .i32 0,.int .u32 0,ve5] 148:=jm5;rw[HVh.out,HVp.out,<-jT.out,<-tH.out]at jm5;have dQ:Row W5 o5 (m.y.l.id+2,2) 58 15 m.vh M.hs.length (zt M.hs):=gQ.mi.hs;rw[HVh.out,<-jT.out]at dQ;obtain⟨_,e5,_,q⟩:=dQ.KX (HZ.out.trans (congrArg some HZE.out.symm));injection e5 with e5;injection e5 with e5;subst e5;obtain⟨q0,q1,q2,q3,q4,q5,q6,q7,q8,q9,nN,nO,qJ,qL,qM⟩:=q;simp only at q0 q1 q2 q3 q4 q5 q6 q7 q8 q9 nN nO qJ qL qM;obtain⟨wX,hs6⟩:=gQ.mi.BF (t:=T) (by rw[<-jT.out];exact hT) HVh.out ⟨rb,rn,⟨b0,b1,b2,b3,b4,b5⟩,⟨d0,d1,d2,d3,d4,d5⟩,rl⟩
  obtain⟨Y,hY⟩:=Ja0 ((Km W5 gq (T*15) ⟨rb,rn,⟨b0,b1,b2,b3,b4,b5⟩,⟨d0,d1,d2,d3,d4,d5⟩,rl⟩).drew);have nC:Al Y w.1.size #[I Z 0,I Z 0,I Z 0] 54:=by rw[hY];exact qj (gQ.ja.Ao hs6 (by rw[gQ.oa];simp))
  have jB7:Al Y (w.1.size+1) #[I Z zb,I Z zn,I Z a0,I Z a1,I Z a2,I Z a3,I Z a4,I Z a5,I Z s0,I Z s1,I Z s2,I Z s3,I Z s4,I Z s5,.bool zl] 58:=by rw[hY];exact qj (gQ.jb.Ao hs6 (by rw[gQ.ob];simp))
  have xO:=qj (jD.Ao hs6 (by rw[oD];simp))
  rw[<-hY]at xO;have HM7:=Qa (show BN Y o5 m (⟨RS,M.ps,M.hs.set T ⟨rb,rn,⟨b0,b1,b2,b3,b4,b5⟩,⟨d0,d1,d2,d3,d4,d5⟩,rl⟩,M.past⟩:Mc) from by rw[hY];exact wX.below (qf (qd _)))
  have HS7:=Qa (show Stp (yo m) o o5 w Y from by rw[hY];exact (gQ.st.trans (hs6.mono (by rintro _ rfl;exact .inr rfl))).trans (Stp.of_below (qf (qd _))))
  have HO7:=Qa (And.intro gQ.oa (And.intro gQ.ob oD));have zq:=dQ.free;have lq:=dQ.blt;have cm5:=jm5.cell;have cC:=jC.cell;have HYe:=Qa hY;have HJ7:=Qa (And.intro nC (And.intro jB7 xO));clear hY wX hs6 gQ jD jC oC oD dQ jm5 nC jB7 xO dV;go_upto_region 5 with fail;go_region;have hY2:=HYe.out;unfold Km at hY2;simp only at hY2;rw[<-hY2];clear hY2;obtain⟨nC,jB7,xO⟩:=HJ7.out;have cA:=nC.cell;have zA:=nC.free;have lA:=nC.lt;have cB:=jB7.cell;have cD:=xO.cell;have lm7:m.mb<Y.1.size:=HM7.out.lt;clear zq lq cm5 cC q0 q1 q2 q3 q4 q5 q6 q7 q8 q9 nN nO qJ qL qM;by_cases hk0:ak=0
  ·have hkb:(ak != 0)=false:=by rw[hk0];rfl
   have jX:=ff nC ⟨ak,ae,av⟩;have HL:=Qa (C9.Pz HM7.out HS7.out (b:=w.1.size) (Qk _) HO7.out.1 ⟨ak,ae,av⟩);have HK0:=Qa hk0;clear nC jB7 xO hk0;go_wp2_with fail;change bodyPost _ _ _ _ _ (wy Y w.1.size ⟨ak,ae,av⟩);generalize wy Y w.1.size ⟨ak,ae,av⟩=V at *;have cX:=jX.cell;refine bodyPost_ret (v:=Ak #[I Z ak,I Z ae,I Z av]) (by simp[results,results32,go_sem,cX,A0.cells]) rfl ⟨by rw[uM.out];rfl,?_⟩
   rw[uM.out];simp only[HK0.out,ne_eq,not_true_eq_false,if_false];exact HL.out
  ·have hkb:(ak != 0)=true:=by rw[bne_iff_ne];exact hk0
   have qV:=Qa (show Ab Tryz.prog 91 #[Ag (some ⟨m.mb,3,none⟩),Ak #[I Z T,I Z zb,I Z zn,I Z ak,I Z ae,I Z av]] Y.drew fun e w'=>e=O (Aj #[])/\∃ o',BN w' o' m (⟨RS,M.ps,M.hs.set T ⟨rb,rn,⟨b0,b1,b2,b3,b4,b5⟩,⟨d0,d1,d2,d3,d4,d5⟩,rl⟩,wb M.past ⟨T,zb,zn,⟨ak,ae,av⟩⟩⟩:Mc)/\Stp (pm m) o5 o' Y.drew w' from XZ (HM7.out.below (qf (qd Y))) ⟨T,zb,zn,⟨ak,ae,av⟩⟩);have HK0:=Qa hk0;clear hk0;go_upto_region 7 with fail;go_still_tail 10,(by kernel_rfl)
   change wpList _ _ _ _ _ Y.drew;clear cA zA lA cB cD;have nrc:¬pm m (m.y.l.id+1,0):=fun e=>by rcases e with e|e<;>simp at e
   have HFF:=Qa (fun (w9:Aa) (o9:Own) (wY:BN w9 o9 m (⟨RS,M.ps,M.hs.set T ⟨rb,rn,⟨b0,b1,b2,b3,b4,b5⟩,⟨d0,d1,d2,d3,d4,d5⟩,rl⟩,wb M.past ⟨T,zb,zn,⟨ak,ae,av⟩⟩⟩:Mc)) (fP:Stp (pm m) o5 o9 Y.drew w9) =>
    show Al w9 w.1.size #[I Z 0,I Z 0,I Z 0] 54/\Al w9 D #[I Z ak,I Z ae,I Z av] 54/\C9 m (⟨RS,M.ps,M.hs.set T ⟨rb,rn,⟨b0,b1,b2,b3,b4,b5⟩,⟨d0,d1,d2,d3,d4,d5⟩,rl⟩,wb M.past ⟨T,zb,zn,⟨ak,ae,av⟩⟩⟩:Mc) o w (wy w9 w.1.size ⟨ak,ae,av⟩) from by
     have a9:=(qj nC).Ao fP (by rw[HO7.out.1];exact nrc)
     have d9:=(qj xO).Ao fP (by rw[HO7.out.2.2];exact nrc)
     have t9:o9 w.1.size=(m.y.l.id+1,0):=(fP.tags _ (qj nC).lt).trans HO7.out.1;have s9:Stp (yo m) o o9 w w9:=(HS7.out.trans (Stp.of_below (qf (qd Y)))).trans (fP.mono (by rintro _ (rfl|rfl)<;>exact .inr rfl))
     exact⟨a9,d9,C9.Pz wY s9 (b:=w.1.size) (Qk _) t9 ⟨ak,ae,av⟩⟩)
   clear nC jB7 xO;go_wp2_with (first
    | (go_at_call 91;refine qV.out.mono ?_;rintro e w9 ⟨rfl,o9,wY,fP⟩;obtain⟨a9,d9,hfin⟩:=HFF.out w9 o9 wY fP;have cA:=a9.cell;have zA:=a9.free;have lA:=a9.lt;have cD:=d9.cell)
    | fail)
   have jX:=ff a9 ⟨ak,ae,av⟩;have HL:=Qa hfin;clear a9 d9 hfin wY fP;change bodyPost _ _ _ _ _ (wy w9 w.1.size ⟨ak,ae,av⟩);generalize wy w9 w.1.size ⟨ak,ae,av⟩=V at *;have cX:=jX.cell;refine bodyPost_ret (v:=Ak #[I Z ak,I Z ae,I Z av]) (by simp[results,results32,go_sem,cX,A0.cells]) rfl ⟨by rw[uM.out];rfl,?_⟩
   rw[uM.out];simp only[ne_eq,HK0.out,not_false_eq_true,if_true];exact HL.out
def qol (h:BN w o m M) (hk:M.ok) (t:Int) :
  Ab Tryz.prog 32 #[ptr m.mb,I Z t] w fun e w'=>e=O (M.step t).2.val/\C9 m (M.step t).1 o w w':=
 (JW (h.retag fun b hb=>qr (n:=w.1.size) (t:=(m.y.l.id+1,0)) hb) hk t fun b hb=>qz hb).mono fun _ _⟨a,b⟩=>⟨a,b.QR⟩
end
