import Derived.Test.YteehgedabdchcaaGreatKbc
import Derived.Deep.RegionHeld
import Derived.OrdersHeld
set_option linter.all false
set_option maxRecDepth 1000000
set_option maxHeartbeats 0
open Go renaming World->Aa,Calls->Ab,Value->Ac
open Go.RowKit renaming Below->Ae
open Go.Value renaming int->I,tuple->Ak,agg->Al
open Go.IntKind renaming i64->Z
open Go.Ending renaming returned->O
namespace Go.Proofs.YteehgedabdchcaaGreat
open Go.RowKit Hp
attribute [local go_sem ↓] Go.wp_at_zero Go.wp_at_succ
def SL (w:Aa) (a0 a1 a2 a3 a4 a5:Int):(Op.equalIn 9999 56 (Al #[a0,a1,a2,a3,a4,a5]) (Al #[a0,a1,a2,a3,a4,a5])).run Tryz.prog w=.ok true w:=by
 obtain⟨i,hi⟩:=Option.isSome_iff_exists.1 GN;have h:=Ya (P:=Tryz.prog) w (t:=56) (e:=3) (n:=6) (by kernel_rfl) (by kernel_rfl) (by kernel_rfl) hi (by kernel_rfl) 9997 [a0,a1,a2,a3,a4,a5] [a0,a1,a2,a3,a4,a5] rfl rfl
 simp only[List.map_cons,List.map_nil]at h;rw[h];simp
def We {n:Nat}{a b c:Aa}(h:Ae n a b)(k:Ae n b c):Ae n a c:=⟨k.os.trans h.os,k.tape.trans h.tape,k.output.trans h.output,Qo h.size k.size,fun x hx=>(k.block x hx).trans (h.block x hx)⟩
def Xx (d:Pg.D):(∃ d',Fq (fit d)=fit d')/\(Fq (fit d)).k≠2/\(Fq (fit d)).k≠9:=by
 have h1:=wa d.k 14 (by omega)
 have h2:=ws d.k 14 (by omega)
 have e1:fit ⟨0,d.a,d.b,d.i,d.n⟩=⟨1,C9 d.a 6,0,C9 d.i 5,C9 d.n 5⟩:=rfl;have e2:fit ⟨12,d.a,d.b,d.i,d.n⟩=⟨13,C9 d.a 6,0,0,0⟩:=rfl;have hk:(fit d).k=1+C9 d.k 14:=by unfold fit Fe;(repeat' split)<;>rfl
 have ha:(fit d).k≠14->(fit d).a=C9 d.a 6:=by rw[hk];unfold fit Fe;(repeat' split)<;>simp_all
 unfold Fq;split
 ·rename_i h
  rw[hk]at h;have:fit d=⟨2,C9 d.a 6,0,C9 d.i 5,C9 d.n 5⟩:=by unfold fit Fe;rw[if_pos (.inr h),h]
  refine⟨⟨⟨0,d.a,d.b,d.i,d.n⟩,by rw[e1,this]⟩,by simp,by simp⟩
 ·rename_i h
  split
  ·rename_i h3
   refine⟨⟨⟨12,d.a,d.b,d.i,d.n⟩,by rw[e2,ha (by omega)]⟩,by simp,by simp⟩
  ·rename_i h3
   exact⟨⟨d,rfl⟩,h,fun e=>h3 (.inl e)⟩
def XM {A1:List (List (List Pg.D))}(h:Nn A1):Nn (JY A1):=by
 refine⟨by unfold JY;rw[Qg];exact h.n1,by unfold JY;rw[Qg];exact h.n4,fun t ht=>?_⟩
 obtain⟨t0,h0,rfl⟩:=Qt.1 ht;obtain⟨q1,q2⟩:=h.mem t0 h0;refine⟨by unfold GC;rw[Qg];exact q1,fun l hl=>?_⟩
 obtain⟨l0,k0,rfl⟩:=Qt.1 hl;obtain⟨k1,k2,k3⟩:=q2 l0 k0;refine⟨by simpa using k1,by rw[Qg];exact k2,fun d hd=>?_⟩
 obtain⟨d0,j0,rfl⟩:=Qt.1 hd;obtain⟨d1,rfl⟩:=k3 d0 j0;exact (Xx d1).1
def K6 (raw:List (List (List Pg.D))):List (List (List AB)):=(JY (xu raw)).map vs
def Ms (raw:List (List (List Pg.D))):(K6 raw).length=(xu raw).length:=by unfold K6 JY;simp
def QX (raw:List (List (List Pg.D))):∀ p ∈ K6 raw,∀ ds ∈ p,ds.length<=6/\∀ d ∈ ds,d.k≠2/\d.k≠9:=by
 intro p hp ds hds;obtain⟨t,ht,rfl⟩:=Qt.1 hp;obtain⟨t0,h0,rfl⟩:=Qt.1 ht;obtain⟨l,hl,rfl⟩:=Qt.1 hds;obtain⟨l0,k0,rfl⟩:=Qt.1 hl;obtain⟨_,k2,k3⟩:=(co h0).2 l0 k0;refine⟨by simpa using k2,fun d hd=>?_⟩
 obtain⟨d0,j0,rfl⟩:=Qt.1 hd;obtain⟨d1,j1,rfl⟩:=Qt.1 j0;obtain⟨d2,rfl⟩:=k3 d1 j1;exact (Xx d2).2
def KE (raw:List (List (List Pg.D))):Twin 0 (Mc.fresh (Am.fresh 3000 (K6 raw).length 100 100 (EA 999).toNat) (K6 raw)) (Mc.fresh (Am.fresh 3000 (K6 raw).length 100 100 (EA 999).toNat) (K6 raw)):=by
 have hk:=QX raw;have h:=CB.fresh (m:=100) (Mc.Da (n:=3000) (r:=100) (u:=100) (m:=(EA 999).toNat) (by omega) (by omega) (by omega) (by omega) (by decide +kernel) ((XM (VC raw)).A1)) (by omega) (by omega) (fun p hp ds hds=>by have:=(hk p hp ds hds).1;omega)
 exact⟨⟨[],_,_,h,h,rfl,Qk _,fun s a ha=>(by cases ha),Qk _⟩,rfl,fun p hp ds hds d hd=>(hk p hp ds hds).2 d hd,rfl⟩
def X7 (v:Ac)(raw:List (List (List Pg.D)))(vl:Ac)(st:List Int)(w:Aa)(h:BC w v raw)(hI:TI raw)(hl:GH w vl st)(hz:∀ z ∈ st,FW z) :
  Ab Tryz.prog 4 #[v,vl] w fun e w'=>e=O (.bool true)/\Ae w.1.size w w':=by
 have HAw:=Qa YX;have HPr:=Qa (fun (w':Aa)(hb:Ae w.1.size w w')=>YK v raw w' (h.below hb) hI)
 obtain⟨pl,cl,rfl,hlc,hlm,qg⟩:=hl;have dL:=Qa (fun (W:Aa)(hb:Ae w.1.size w W)(j:Nat)(z:Int)(hj:st[j]?=some z)=>show ∃ b off,pl=some ⟨b,off,none⟩/\W.cell? ⟨b,off+j,none⟩=some (I Z z)/\FW z from by
  rcases qg with h0|⟨b,off,hpl,hc⟩
  ·rw[h0]at hj;simp at hj
  ·exact⟨b,off,hpl,(hb.cell (p:=⟨b,off+j,none⟩) (Lp (hc j z hj))).trans (hc j z hj),hz z (Qe hj)⟩)
 obtain⟨n,hn⟩:=Ja0 st.length;rw[<-hn]at hlc hlm ⊢;have HN:=Qa hn;have HLM:=Qa (And.intro hlc hlm);obtain⟨p1,p4⟩:=cf raw;obtain⟨np,pJ⟩:=Ja0 ((JY (xu raw)).length);have xK:np=(xu raw).length:=by rw[pJ];unfold JY;rw[Qg]
 rw[<-xK]at p1 p4;have HNP:=Qa pJ;have yK:=Qa (XM (VC raw));have rD:=Qa (fun (W:Aa)(o:Own)(v2:Ac)(hF:FT (1,0) W o v2 (xu raw))=>qj5 v2 (xu raw) W hF.at (cf raw).2 fun bs hb=>⟨(co hb).1,fun l hl=>((co hb).2 l hl).2.1⟩)
 obtain⟨n0,hn0⟩:=Ja0 w.1.size;have HN0:=Qa hn0;have Aip:=Qa (show (K6 raw).length=np from by rw[Ms,xK])
 clear h hI qg hz hn hlc hlm pJ xK hn0;go_enter Tryz.func4,Tryz.ntmps4;go_wp2_with (first
  | (go_at_call 26;refine (HAw.o _).mono ?_;rintro e w1 ⟨rfl,hb1⟩)
  | (go_at_call 28;refine (HPr.o _ hb1).mono ?_;rintro e w2 ⟨v2,oP,rfl,hF,hK⟩;have HF:=Qa hF;have hb2:=qd hb1 hK.b;clear hF hK hb1)
  | (go_at_call 27;refine (rD.o _ _ _ HF.o).mono ?_;rintro e w3 ⟨v3,o3,rfl,hF3,hK3⟩;obtain⟨q0,us,q1,q2,q3⟩:=hF3;obtain⟨pv,cv,rfl⟩:=q2.A5;have HF3:=Qa (show FT (1,0) w3 o3 (.slice pv (JY (xu raw)).length cv) (JY (xu raw)) from ⟨q0,us,q1,q2,q3⟩);have HB3:=Qa (qd hb2 hK3.b);rw[<-HNP.o]at HF3 ⊢;clear q0 q1 q2 q3 hK3 hb2 HF)
  | (go_at_call 29;refine (T5 3000 100 100 999 (by omega) (by omega) (by omega) (by omega) yK.o.A1 (oS n0) 0 w3 (yK.o.rt HF3.o) (fun b _=>by unfold oS;split<;>simp)).mono ?_;rintro e w4 ⟨ma,o4,rfl,ida,hA,hsa⟩;have HA:=Qa hA;have HIa:=Qa ida;have yO:=Qa hsa;have HF4:=Qa ((yK.o.rt HF3.o).below (hsa.below fun _ _ h=>h));clear hA ida hsa)
  | (go_at_call 29;refine (MR 3000 100 100 999 (by omega) (by omega) (by omega) (by omega) yK.o.A1 HF4.o n0 yO.o HA.o (Mc.Da (by omega) (by omega) (by omega) (by omega) (by decide +kernel) yK.o.A1) HIa.o).mono ?_;rintro e w5 ⟨mb,o5,rfl,hT,hsb⟩;have HT0:=Qa hT;clear hT hsb)
  | fail)
 obtain⟨M0,hM0⟩:=Ja0 (Mc.fresh (Am.fresh 3000 (K6 raw).length 100 100 (EA 999).toNat) (K6 raw));have hT1:Dl n0 w3 ma mb w5 o5 M0 M0:=by rw[hM0];exact HT0.o
 have htw:Twin 0 M0 M0:=by rw[hM0];exact KE raw
 have hps:M0.ps.length=np:=by rw[hM0,<-Aip.o];rfl
 have HT1:=Qa (And.intro hT1 (And.intro htw hps));have HN3:=Qa (show n0<=w3.1.size from by rw[HN0.o];exact HB3.o.size)
 have HB4:=Qa (show Ae n0 w w3 from by have h:=HB3.o;rw[<-HN0.o]at h;exact h)
 clear hM0 hT1 htw hps HT0 HF3 HF4 HA HIa yO HAw HPr rD yK HNP HB3;go_loopw [11] (fun iv wr=>∃ (k:Nat)(A B:Mc)(o:Own),iv=I Z k/\k<=n/\k<=150/\Dl n0 w3 ma mb wr o A B/\Twin k A B/\A.ps.length=np) (fun iv _=>n-(intOf iv).toNat)
 case atStart=>exact⟨0,M0,M0,o5,rfl,Nat.zero_le _,by omega,HT1.o⟩
 case round =>
  clear HT1;obtain⟨k,A,B,o,rfl,hkn,Ars,hT,hW,hps⟩:=hrel;have hbw:Ae n0 w wr:=We HB4.o (hT.old HN3.o);have hAl:A.hs.length=np:=by rw[hT.ak.len];exact hps
  have HT:=Qa hT;have HW:=Qa hW;have HPs:=Qa hps;have HAl:=Qa hAl;clear hT hW hps hAl;by_cases hlt:k<n/\k<150
  ·obtain⟨hlt1,hlt2⟩:=hlt
   have kI:(k:Int)<(n:Int):=by omega
   have kJ:(k:Int)<150:=by omega
   have uS:=Qa (za k (by omega))
   obtain⟨z,hz⟩:∃ z,st[k]?=some z:=⟨_,Qb (by rw[<-HN.o];exact hlt1)⟩
   obtain⟨b,off,rfl,hc,Aed⟩:=dL.o wr (by rw[<-HN0.o];exact hbw) k z hz
   have Adp:wrap64 ((np:Int)+2)=(np:Int)+2:=IntWalk.wrap64_in _ (by omega)
   have Adq:IntKind.i64.wrap ((np:Int)+2)=(np:Int)+2:=IntWalk.i64_in _ (by omega)
   have HPk:=Qa (fun (W:Aa)=>show Ab Tryz.prog 30 #[z,I Z ((np:Int)+2)] W fun e w'=>e=O (I Z (pk z (np+2)))/\W=w' from ql7 z Aed (np+2) (by omega) (by omega) W)
   obtain⟨t,ht⟩:=Ja0 (pk z (np+2));rw[<-ht]at HPk;have hlc:=HLM.o.1;clear hz Aed ht hbw;by_cases sM:np<=t
   ·have hcI:¬((t:Int)<(np:Int)):=by omega
    have HCo:=Qa HT.o.G7;have HW2:=Qa HW.o.collect;have hpc:A.collect.1.ps=A.ps:=by
     obtain⟨la,A0,hA,ha,_⟩:=HW.o.ex;obtain⟨ls,cs,hc⟩:=ha.collect;exact hc.ps
    have wD:=Qa (show A.collect.1.ps.length=np from by rw[hpc];exact HPs.o)
    clear hpc;go_wp2_with (first
     | (go_at_call 30;refine (HPk.o _).mono ?_;rintro e w4 ⟨rfl,rfl⟩)
     | (go_at_call 31;refine HCo.o.mono ?_;rintro e w5 ⟨rfl,o5,sJ,_⟩;obtain⟨hw1,hw2⟩:=uS.o;clear Adp Adq)
     | fail)
    go_roundw
    case rel=>exact⟨k+1,_,B,o5,by simp,hlt1,hlt2,sJ,HW2.o,wD.o⟩
    case measure=>clear hw1 hw2;simp[intOf];omega
   ·have hcI:(t:Int)<(np:Int):=by omega
    have htA:t<A.hs.length:=by rw[HAl.o];omega
    obtain⟨t1,t2,t3,t4⟩:=HW.o.step (by omega) htA
    have hSA:=HT.o.DN (t:Int);have hSB:=fun (W:Aa)(oo:Own)(h:Dl n0 w3 ma mb W oo (A.step (t:Int)).1 B)=>h.Rk (t:Int);have hTA:=fun (W:Aa)(oo:Own)(h:Dl n0 w3 ma mb W oo (A.step (t:Int)).1 (B.step (t:Int)).1)=>dg h.a h.ak (t:Int);have hTB:=fun (W:Aa)(oo:Own)(h:Dl n0 w3 ma mb W oo (A.step (t:Int)).1 (B.step (t:Int)).1)=>dg h.b h.bk (t:Int);have hp2:(A.step (t:Int)).1.ps.length=np:=by
     have e:A.step (t:Int)=A.Cw t:=by
      have:=HW.o.ex;unfold Mc.step;split
      ·rename_i h;obtain⟨la,A0,hA,ha,_,_,hs,_,hl⟩:=HW.o.ex
       have:=ha.QO;rcases h with h|h|h
       ·omega
       ·omega
       ·omega
      ·rw[Int.toNat_natCast]
     rw[e];exact HPs.o
    rw[<-t2]at hSB;rw[<-t3]at hTB;have hok:((A.step (t:Int)).1.B9 (t:Int)).2=true:=by rw[t3];exact t4
    rw[hok]at hTA hTB;obtain⟨A',hA'⟩:=Ja0 ((A.step (t:Int)).1);obtain⟨B',hB'⟩:=Ja0 ((B.step (t:Int)).1);obtain⟨a,ha⟩:=Ja0 ((A.step (t:Int)).2);obtain⟨G,hG⟩:=Ja0 (((A.step (t:Int)).1.B9 (t:Int)).1);rw[<-hA',<-ha]at hSA;rw[<-hA',<-ha,<-hB']at hSB;rw[<-hG,<-hA',<-hB']at hTA hTB;rw[<-hA',<-hB']at t1;rw[<-hA']at hp2;clear hA' hB' ha hG t2 t3 t4 hok htA;obtain⟨ak,ae,av⟩:=a;obtain⟨gb,gn,⟨r0,r1,r2,r3,r4,r5⟩,⟨q0,q1,q2,q3,q4,q5⟩,gl⟩:=G;simp only at hSA hSB;have HSA:=Qa hSA;have HSB:=Qa hSB;have HTA:=Qa (fun (W:Aa)(oo:Own)(h:Dl n0 w3 ma mb W oo A' B')=>show Ab Tryz.prog 33 #[ptr ma.mb,t] W fun e w'=>e=O (Ak #[Al #[gb,gn,r0,r1,r2,r3,r4,r5,q0,q1,q2,q3,q4,q5,.bool gl],.bool true])/\Ae W.1.size W w' from hTA W oo h);have HTB:=Qa (fun (W:Aa)(oo:Own)(h:Dl n0 w3 ma mb W oo A' B')=>show Ab Tryz.prog 33 #[ptr mb.mb,t] W fun e w'=>e=O (Ak #[Al #[gb,gn,r0,r1,r2,r3,r4,r5,q0,q1,q2,q3,q4,q5,.bool gl],.bool true])/\Ae W.1.size W w' from hTB W oo h);have HW2:=Qa t1;have wD:=Qa hp2;clear hSA hSB hTA hTB t1 hp2;go_upto_region 15 with (first
     | (go_at_call 30;refine (HPk.o _).mono ?_;rintro e w4 ⟨rfl,rfl⟩)
     | (go_at_call 32;refine HSA.o.mono ?_;rintro e w5 ⟨rfl,o5,sJ,_⟩;have HT5:=Qa sJ;clear sJ HSA Adp Adq)
     | (go_at_call 32;refine (HSB.o _ _ HT5.o).mono ?_;rintro e w6 ⟨rfl,o6,hT6,_⟩;have HT6:=Qa hT6;obtain⟨hw1,hw2⟩:=uS.o;clear hT6)
     | fail)
    go_upto_region 16 with (first
     | (go_at_call 33;refine (HTA.o _ _ HT6.o).mono ?_;rintro e w7 ⟨rfl,xD⟩;have HT7:=Qa (HT6.o.below xD);clear xD HTA)
     | fail)
    have jG:=An.new w7 #[gb,gn,r0,r1,r2,r3,r4,r5,q0,q1,q2,q3,q4,q5,.bool gl] 58;have uR:=Qa (HT7.o.below (qa (qc w7) (.cells #[gb,gn,r0,r1,r2,r3,r4,r5,q0,q1,q2,q3,q4,q5,.bool gl] 58)));obtain⟨W8,hW8⟩:=Ja0 (w7.alloc (.cells #[gb,gn,r0,r1,r2,r3,r4,r5,q0,q1,q2,q3,q4,q5,.bool gl] 58));obtain⟨bG,hbG⟩:=Ja0 w7.1.size;rw[<-hW8]at jG uR;rw[<-hbG]at jG;rw[<-hW8,<-hbG];clear hW8 hbG HT7;go_upto_region 17 with (first
     | (go_at_call 33;refine (HTB.o _ _ uR.o).mono ?_;rintro e w9 ⟨rfl,fA⟩;have HT9:=Qa (uR.o.below fA);have jG9:=jG.below fA jG.lt;clear jG fA HTB)
     | fail)
    have jH:=An.new w9 #[gb,gn,r0,r1,r2,r3,r4,r5,q0,q1,q2,q3,q4,q5,.bool gl] 58;have xZ:=jG9.alloc (.cells #[gb,gn,r0,r1,r2,r3,r4,r5,q0,q1,q2,q3,q4,q5,.bool gl] 58);have jK:=Qa (HT9.o.below (qa (qc w9) (.cells #[gb,gn,r0,r1,r2,r3,r4,r5,q0,q1,q2,q3,q4,q5,.bool gl] 58)));obtain⟨W10,xB⟩:=Ja0 (w9.alloc (.cells #[gb,gn,r0,r1,r2,r3,r4,r5,q0,q1,q2,q3,q4,q5,.bool gl] 58));obtain⟨bH,hbH⟩:=Ja0 w9.1.size;rw[<-xB]at jH xZ jK;rw[<-hbH]at jH;rw[<-xB,<-hbH];have cG:=xZ.cell;have cH:=jH.cell;have e6:=SL;clear xB hbH HT9 jG9 xZ jH;go_wp2_with fail;go_roundw
    case rel=>exact⟨k+1,A',B',o6,by simp,hlt1,hlt2,jK.o,HW2.o,wD.o⟩
    case measure=>clear hw1 hw2;simp[intOf];omega
  ·have HLa:=Qa (show A.past.length<=1099511627776 from Qo HT.o.ak.pl (by omega))
   have HLb:=Qa (show B.past.length<=1099511627776 from Qo HT.o.bk.pl (by omega))
   have HIb:=Qa HT.o.ib;have hth:A.past.filter E6=B.past.filter E6:=by
    have e:=HW.o.past;have e2:A.past.filter E6=B.past:=e;rw[<-e2,List.filter_filter];simp
   have gH:=Qa hth;have HDn:=Qa HW.o.done;have HLf:=Qa (show (B.past.filter E6).length<=1099511627776 from Qo (List.length_filter_le _ _) HLb.o);rcases (show ¬((k:Int)<(n:Int))\/((k:Int)<(n:Int)/\¬((k:Int)<150)) by omega) with kI|⟨kI,kJ⟩
   all_goals
    clear hlt hth dL;go_wp2_with (first
     | (go_at_call 36;refine HT.o.QL.mono ?_;rintro e w6 ⟨va,rfl,hra,hT6,_⟩;have HT6:=Qa hT6;have HRa:=Qa hra;clear hT6 hra HT)
     | (go_at_call 35;refine (ri HRa.o HLa.o).mono ?_;rintro e w7 ⟨v7,o7,rfl,hr7,sP⟩;rw[gH.o]at hr7;have HT7:=Qa (HT6.o.own (((Stp.of_below sP.b).ext (9,7) _ (Qk _)):Stp (fun t=>t.1=9) _ (ext _ w6.1.size (9,7)) w6 w7));have HR7:=Qa (hr7.BH (ext (ext o wr.1.size (9,6)) w6.1.size (9,7)) (9,7) (fun k hk=>qp (Nat.le_of_not_lt fun hlt=>by have:=sP.z k hlt;rw[hk]at this;simp at this)));clear hr7 sP HRa HT6)
     | (go_at_call 36;refine HT7.o.QM.mono ?_;rintro e w8 ⟨vb,rfl,hrb,lF,gQ⟩;have uR:=Qa lF;have HRb:=Qa hrb;have HR8:=Qa (HR7.o.Ar gQ (by unfold kf;have:=HIb.o;simp;omega));clear lF hrb gQ HR7 HT7)
     | (go_at_call 35;refine (ri HRb.o HLb.o).mono ?_;rintro e w9 ⟨v9,o9,rfl,pO,vB⟩;have HT9:=Qa (uR.o.below vB.b);have HR9:=Qa pO;have HRc:=Qa (HR8.o.below vB.b);clear pO vB HRb HR8 uR)
     | (go_at_call 34;refine (qlp HRc.o HR9.o HLf.o).mono ?_;rintro e w10 ⟨rfl,iH⟩;have jK:=Qa (HT9.o.below iH);clear iH HT9 HRc HR9)
     | (go_at_call 37;refine (SS jK.o.a jK.o.ak).mono ?_;rintro e w11 ⟨rfl,mW⟩;have rQ:=Qa (jK.o.below mW);rw[HDn.o];clear mW jK)
     | (go_at_call 37;refine (SS rQ.o.b rQ.o.bk).mono ?_;rintro e w12 ⟨rfl,dE⟩;have Ajb:=Qa (rQ.o.below dE);clear dE rQ)
     | fail)
    go_ret;exact⟨by simp,by have h:=We HB4.o (Ajb.o.old HN3.o);rw[HN0.o]at h;exact h⟩
