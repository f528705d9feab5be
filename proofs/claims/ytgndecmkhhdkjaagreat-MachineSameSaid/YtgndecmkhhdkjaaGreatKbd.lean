import Derived.Test.YtgndecmkhhdkjaaGreatKbc
set_option linter.all false
set_option maxRecDepth 1000000
set_option maxHeartbeats 0
open Go renaming World->Aa,Calls->Ab,Value->Ac
open Go.RowKit renaming Below->Ae
open Go.Value renaming int->I,agg->Al
open Go.IntKind renaming i64->Z
open Go.Ending renaming returned->O
open Go.Proofs.Tryz renaming prog->ANa
namespace Go.Proofs.YtgndecmkhhdkjaaGreat
open Go.RowKit Hp
attribute [local go_sem ↓] Go.wp_at_zero Go.wp_at_succ
def PN (raw:List (List (List Pg.D))):∀ p ∈ PM raw,∀ ds ∈ p,ds.length<=6:=by
 intro p hp ds hds;obtain⟨t,ht,rfl⟩:=Qt.1 hp;obtain⟨l,hl,rfl⟩:=Qt.1 hds;rw[Qg];exact ((Xo ht).2 l hl).2.1
def Xh {n:Nat}{a b c:Aa}(h:Ae n a b)(k:Ae n b c):Ae n a c:=⟨k.os.trans h.os,k.tape.trans h.tape,k.output.trans h.output,Qo h.size k.size,fun x hx=>(k.block x hx).trans (h.block x hx)⟩
def Yp {w:Aa}{o:Own}{m:Cd}{M:Mc}(h:BK w o m M)(hk:M.ok):Ab ANa 12 #[ptr m.mb] w fun e w'=>e=O (I Z (M.S.H.left:Nat))/\Ae w w w':=by
 obtain⟨_,jb,_⟩:=h.A3;exact qp2 h.st hk.inv (jb.cell 0)
def JU {w:Aa}{o:Own}{m:Cd}{M:Mc}(h:BK w o m M)(hk:M.ok):Ab ANa 13 #[ptr m.mb] w fun e w'=>e=O (I Z M.S.now)/\w=w':=by
 obtain⟨_,jb,_⟩:=h.A3;exact XM h.st hk.inv (jb.cell 0)
structure NL (n0:Nat)(w3:Aa)(q:Nat)(Inv:Mc->Aa->Own->Prop):Prop where
 st:∀ (X:Mc)(W:Aa)(o:Own),Inv X W o->∀ t:Int,Ab ANa 9 #[ptr q,t] W fun e w'=>∃ (a b c:Int)(o2:Own),e=O (Al #[a,b,c])/\Inv (X.step t).1 w' o2
 co:∀ (X:Mc)(W:Aa)(o:Own),Inv X W o->Ab ANa 8 #[ptr q] W fun e w'=>∃ (b:Bool)(o2:Own),e=O (.bool b)/\Inv X.collect.1 w' o2
 old:∀ (X:Mc)(W:Aa)(o:Own),Inv X W o->Ae n0 w3 W
 dr:∀ (X:Mc)(W W':Aa)(o:Own),Inv X W o->Ae W W W'->Inv X W' o
def Nl (n0:Nat)(w3:Aa)(ma mb:Cd)(G:Nat)(A B:Mc)(W:Aa)(o:Own):Prop:=Dn n0 w3 ma mb W o A B/\An W G #[ptr ma.mb,ptr mb.mb] 27/\o G=(9,7)/\G<W.1.size
section
variable {n0 G : Nat} {w3 : Aa} {ma mb : Cd} {A B : Mc} {W W' : Aa} {o o' : Own}
def Nl.keep {A' B':Mc}{T:Tag->Prop}(h:Nl n0 w3 ma mb G A B W o)(k:Dn n0 w3 ma mb W' o' A' B')(s:Stp T o o' W W')(ht:¬T (9,7)):Nl n0 w3 ma mb G A' B' W' o':=
 ⟨k,by unfold An;rw[s.block G h.2.2.2 (by rw[h.2.2.1];exact ht)];exact h.2.1,by rw[s.tags G h.2.2.2];exact h.2.2.1,Qn h.2.2.2 s.size⟩
def Nx (h:Dn n0 w3 ma mb W o A B):¬kf ma (9,7):=by unfold kf;rw[h.ia];simp
def Ny (h:Dn n0 w3 ma mb W o A B):¬kf mb (9,7):=by unfold kf;have:=h.ib;simp;omega
def Rh (hn:n0<=w3.1.size)(B:Mc):NL n0 w3 ma.mb (fun X W o=>Nl n0 w3 ma mb G X B W o):=
 ⟨fun X W o h t=>(h.1.EC t).mono fun _ _⟨e,o2,k,s⟩=>⟨_,_,_,o2,e,h.keep k s (Nx h.1)⟩,
  fun X W o h=>h.1.Hg.mono fun _ _⟨e,o2,k,s⟩=>⟨_,o2,e,h.keep k s (Nx h.1)⟩,
  fun X W o h=>h.1.old hn,fun X W W' o h k=>h.keep (T:=fun _=>False) (h.1.below k) (Stp.of_below k) id⟩
def Ri (hn:n0<=w3.1.size)(A:Mc):NL n0 w3 mb.mb (fun X W o=>Nl n0 w3 ma mb G A X W o):=
 ⟨fun X W o h t=>(h.1.Sa t).mono fun _ _⟨e,o2,k,s⟩=>⟨_,_,_,o2,e,h.keep k s (Ny h.1)⟩,
  fun X W o h=>h.1.Hh.mono fun _ _⟨e,o2,k,s⟩=>⟨_,o2,e,h.keep k s (Ny h.1)⟩,
  fun X W o h=>h.1.old hn,fun X W W' o h k=>h.keep (T:=fun _=>False) (h.1.below k) (Stp.of_below k) id⟩
end
def qcv (wz:Int)(hwz:FH wz)(v:Ac)(raw:List (List (List Pg.D)))(vl:Ac)(st:List Int)(w:Aa)(h:BL w v raw)(hI:TI raw)(hl:GP w vl st)(hz:∀ z ∈ st,FH z) :
  Ab ANa 3 #[wz,v,vl] w fun e w'=>e=O (.bool true)/\Ae w w w':=by
 have HAw:=Qa qjz;have HPr:=Qa (fun (w':Aa)(hb:Ae w w w')=>qh6 v raw w' (h.below hb) hI)
 obtain⟨pl,cl,rfl,hlc,hlm,qh⟩:=hl;have dP:=Qa (fun (W:Aa)(hb:Ae w w W)(j:Nat)(z:Int)(hj:st[j]?=some z)=>show ∃ b off,pl=some ⟨b,off,none⟩/\W.cell? ⟨b,off+j,none⟩=some (I Z z)/\FH z from by
  rcases qh with h0|⟨b,off,hpl,hc⟩
  ·rw[h0]at hj;simp at hj
  ·exact⟨b,off,hpl,(hb.cell (p:=⟨b,off+j,none⟩) (LB (hc j z hj))).trans (hc j z hj),hz z (Qe hj)⟩)
 obtain⟨n,hn⟩:=Ja0 st.length;rw[<-hn]at hlc hlm ⊢;have HN:=Qa hn;have HLM:=Qa (And.intro hlc hlm);obtain⟨p1,p4⟩:=T9 raw;obtain⟨np,pE⟩:=Ja0 ((pm raw).length);rw[<-pE]at p1 p4;have HNP:=Qa pE;have vL:=Qa (qqk raw);obtain⟨n0,hn0⟩:=Ja0 w.1.size;have HN0:=Qa hn0;have yM:=Qa (fun (W:Aa)=>show Ab ANa 6 #[wz,I Z 361] W fun e w'=>e=O (I Z (pk wz 361))/\W=w' from Wt wz hwz 361 (by omega) (by omega) W)
 have hq:=Rx wz (show 1<=361 by omega)
 obtain⟨N,hNq⟩:∃ N,N=40+pk wz 361:=⟨_,rfl⟩;have HQ:=Qa (show wrap64 (40+((pk wz 361:Nat):Int))=(N:Int)/\IntKind.i64.wrap (40+((pk wz 361:Nat):Int))=(N:Int) from ⟨(IntWalk.wrap64_in _ (by omega)).trans (by omega),(IntWalk.i64_in _ (by omega)).trans (by omega)⟩)
 have uE:=Qa (show 16<=N/\N<=16384 from by omega)
 clear h hI qh hz hn hlc hlm pE hn0 hwz;generalize pk wz 361=q at *;clear hq hNq;obtain⟨hq1,hq2⟩:=HQ.o;clear HQ;go_enter Tryz.func3,Tryz.ntmps3;go_upto_region 8 with (first
  | (go_at_call 4;refine (HAw.o _).mono ?_;rintro e w1 ⟨rfl,hb1⟩)
  | (go_at_call 5;refine (HPr.o _ hb1).mono ?_;rintro e w3 ⟨v3,o3,rfl,hF3,hK3⟩;obtain⟨q0,us,q1,q2,q3⟩:=hF3;obtain⟨pv,cv,rfl⟩:=q2.A6;have HF3:=Qa (show FT (1,0) w3 o3 (.slice pv (pm raw).length cv) (pm raw) from ⟨q0,us,q1,q2,q3⟩);have HB3:=Qa (qe hb1 hK3.b);rw[<-HNP.o]at HF3 ⊢;clear q0 q1 q2 q3 hK3 hb1)
  | (go_at_call 6;refine (yM.o _).mono ?_;rintro e w4 ⟨rfl,rfl⟩)
  | (go_at_call 7;refine (Um N 30 30 300 uE.o.1 uE.o.2 (by omega) (by omega) vL.o.AZ (oS n0) 0 w3 (vL.o.rt HF3.o) (fun b _=>by unfold oS;split<;>simp)).mono ?_;rintro e w4 ⟨ma,o4,rfl,ida,hA,hsa⟩;have HA:=Qa hA;have HIa:=Qa ida;have yN:=Qa hsa;have HF4:=Qa ((vL.o.rt HF3.o).below (hsa.below fun _ _ h=>h));clear hA ida hsa)
  | (go_at_call 7;refine (M9 N 30 30 300 uE.o.1 uE.o.2 (by omega) (by omega) vL.o.AZ HF4.o n0 yN.o HA.o (Mc.De uE.o.1 uE.o.2 (by omega) (by omega) (by decide +kernel) vL.o.AZ) HIa.o).mono ?_;rintro e w5 ⟨mb,o5,rfl,hT,hsb⟩;have HT0:=Qa hT;clear hT hsb)
  | fail)
 obtain⟨M0,hM0⟩:=Ja0 (Mc.fresh (Am.fresh N (PM raw).length 30 30 (EV 300).toNat) (PM raw));have hT1:Dn n0 w3 ma mb w5 o5 M0 M0:=by rw[hM0];exact HT0.o
 have hG0:FG M0 30 0:=by
  rw[hM0];exact⟨[],_,_,CY.fresh (m:=30) (Mc.De uE.o.1 uE.o.2 (by omega) (by omega) (by decide +kernel) vL.o.AZ) (by omega) (by omega) (fun p hp ds hds=>by have:=PN raw p hp ds hds;omega),Qk _⟩
 obtain⟨Mf,hMf⟩:=Ja0 (M0.Ei np (st.take 100));have hGf:FG Mf 30 (st.take 100).length:=by rw[hMf];exact hG0.Ei np _
 have HGf:=Qa (And.intro hGf (show (st.take 100).length<=100 from by rw[Qp];omega))
 have HMf:=Qa hMf;have HN3:=Qa (show n0<=w3.1.size from by rw[HN0.o];exact HB3.o.size)
 have HB4:=Qa (show Ae n0 w w3 from by have h:=HB3.o;rw[<-HN0.o]at h;exact h)
 have HT1:=Qa hT1;clear hM0 hT1 hG0 hGf hMf HT0 HF3 HF4 HA HIa yN HAw HPr vL HNP HB3 hq1 hq2 yM;go_upto_region 9 with fail;obtain⟨G,hG⟩:=Ja0 w5.1.size;obtain⟨W6,fK⟩:=Ja0 (w5.alloc (.cells #[ptr ma.mb,ptr mb.mb] 27));have Aci:Nl n0 w3 ma mb G M0 M0 W6 (ext o5 w5 (9,7)):=by
  have s:Stp (fun t=>t.1=9) o5 (ext o5 w5 (9,7)) w5 W6:=by rw[fK];exact ((Stp.refl _ o5 w5).ext (9,7) w5.1.size (Qk _)).alloc _
  refine⟨HT1.o.own s,?_,?_,?_⟩
  ·rw[hG,fK];exact An.new w5 _ _
  ·rw[hG];exact qq (Qk _)
  ·rw[hG,fK];simp
 have HT6:=Qa Aci;rw[<-fK,<-hG];clear Aci fK HT1 hG;have HWj:=Qa (fun (k:Nat)(hk:k<1000)=>zc k (by omega))
 go_loopw [15,16,17,50] (fun _ _ _ jv wr=>∃ (j:Nat)(A B:Mc)(o:Own),jv=I Z j/\j<=2/\Nl n0 w3 ma mb G A B wr o/\A=(if 1<=j then Mf else M0)/\B=(if 2<=j then Mf else M0)) (fun _ _ _ jv _=>2-(intOf jv).toNat)
 case atStart=>exact⟨0,M0,M0,_,rfl,by omega,HT6.o,rfl,rfl⟩
 case round =>
  clear HT6;obtain⟨j,A,B,o,rfl,hj,uN,hA,hB⟩:=hrel;by_cases hlt:j<2
  ·have jI:(j:Int)<2:=by omega
   have hgo:∃ (q:Nat)(Inv:Mc->Aa->Own->Prop),NL n0 w3 q Inv/\wr.cell? ⟨G,j,none⟩=some (ptr q)/\Inv M0 wr o/\∀ W o',Inv Mf W o'->∃ A' B',Nl n0 w3 ma mb G A' B' W o'/\A'=(if 1<=j+1 then Mf else M0)/\B'=(if 2<=j+1 then Mf else M0):=by
    obtain rfl|rfl:j=0\/j=1:=by omega
    ·rw[if_neg (by omega)]at hA hB
     subst hA hB;exact⟨ma.mb,_,Rh HN3.o B,uN.2.1.cell 0,uN,fun W o' k=>⟨Mf,B,k,(if_pos (by omega)).symm,(if_neg (by omega)).symm⟩⟩
    ·rw[if_pos (by omega)]at hA
     rw[if_neg (by omega)]at hB
     subst hA hB;exact⟨mb.mb,_,Ri HN3.o A,uN.2.1.cell 1,uN,fun W o' k=>⟨A,A,k,(if_pos (by omega)).symm,(if_pos (by omega)).symm⟩⟩
   obtain⟨q,Inv,hGo,hcq,hI0,hfin⟩:=hgo;have HGo:=Qa hGo;have HI0:=Qa hI0;have HFi:=Qa hfin;clear uN hA hB hGo hI0 hfin;go_wp2_with fail;go_loopw [16,17] (fun ix _ wi=>∃ (k:Nat)(oo:Own),ix=I Z k/\k<=n/\k<=100/\Inv (M0.Ei np (st.take k)) wi oo) (fun ix _ _=>100-(intOf ix).toNat)
   case atStart=>exact⟨0,o,rfl,Nat.zero_le _,by omega,HI0.o⟩
   case round =>
    clear HI0 hcq;obtain⟨k,oo,rfl,hkn,Asw,hInv⟩:=hrel;by_cases hlt2:k<n/\k<100
    ·obtain⟨hl1,hl2⟩:=hlt2
     have kI:(k:Int)<(n:Int):=by omega
     have kJ:(k:Int)<100:=by omega
     have hbw:Ae n0 w wr:=Xh HB4.o (HGo.o.old _ _ _ hInv);obtain⟨z,hz⟩:∃ z,st[k]?=some z:=⟨_,Qb (by rw[<-HN.o];exact hl1)⟩
     obtain⟨b,off,rfl,hc,Aeh⟩:=dP.o wr (by rw[<-HN0.o];exact hbw) k z hz
     have Adt:wrap64 ((np:Int)+2)=(np:Int)+2:=IntWalk.wrap64_in _ (by omega)
     have Adu:IntKind.i64.wrap ((np:Int)+2)=(np:Int)+2:=IntWalk.i64_in _ (by omega)
     have yM:=Qa (fun (W:Aa)=>show Ab ANa 6 #[z,I Z ((np:Int)+2)] W fun e w'=>e=O (I Z (pk z (np+2)))/\W=w' from Wt z Aeh (np+2) (by omega) (by omega) W)
     have hnx:M0.Ei np (st.take (k+1))=(M0.Ei np (st.take k)).FV np z:=qps hz;unfold Mc.FV at hnx;generalize M0.Ei np (st.take k)=X at *;obtain⟨t,ht⟩:=Ja0 (pk z (np+2));rw[<-ht]at yM hnx;have hlc:=HLM.o.1;clear hz Aeh ht hbw;by_cases mO:np<=t
     ·have hcI:¬((t:Int)<(np:Int)):=by omega
      rw[if_pos mO]at hnx;have HNx:=Qa hnx;have HCo:=Qa (HGo.o.co _ _ _ hInv);clear hInv hnx;go_wp2_with (first
       | (go_at_call 6;refine (yM.o _).mono ?_;rintro e w4 ⟨rfl,rfl⟩)
       | (go_at_call 8;refine HCo.o.mono ?_;rintro e w5 ⟨b5,o5,rfl,hI5⟩;obtain⟨hw1,hw2⟩:=HWj.o k (by omega);clear Adt Adu)
       | fail)
      go_roundw
      case rel=>exact⟨k+1,o5,by simp,hl1,hl2,by rw[HNx.o];exact hI5⟩
      case measure=>clear hw1 hw2;simp[intOf];omega
     ·have hcI:(t:Int)<(np:Int):=by omega
      rw[if_neg mO]at hnx;have HNx:=Qa hnx;have HSp:=Qa (HGo.o.st _ _ _ hInv (t:Int));clear hInv hnx;go_wp2_with (first
       | (go_at_call 6;refine (yM.o _).mono ?_;rintro e w4 ⟨rfl,rfl⟩)
       | (go_at_call 9;refine HSp.o.mono ?_;rintro e w5 ⟨a5,b5,c5,o5,rfl,hI5⟩;obtain⟨hw1,hw2⟩:=HWj.o k (by omega);clear Adt Adu)
       | fail)
      go_roundw
      case rel=>exact⟨k+1,o5,by simp,hl1,hl2,by rw[HNx.o];exact hI5⟩
      case measure=>clear hw1 hw2;simp[intOf];omega
    ·have hfk:M0.Ei np (st.take k)=Mf:=by
      rw[HMf.o];congr 1;by_cases h1:k=100
      ·rw[h1]
      ·have:k=st.length:=by have:=HN.o;omega
       rw[List.take_of_length_le (by omega),List.take_of_length_le (by omega)]
     rw[hfk]at hInv;obtain⟨A',B',hT',hA',hB'⟩:=HFi.o _ _ hInv;have HT':=Qa (And.intro hT' (And.intro hA' hB'));have hcs:((k:Int)<(n:Int)/\¬(k:Int)<100)\/¬(k:Int)<(n:Int):=by omega
     clear hInv hfk hT' hA' hB' hlt2;have hlc:=HLM.o.1;obtain⟨hw1,hw2⟩:=HWj.o j (by omega)
     rcases hcs with ⟨hA,hB⟩|hA
     all_goals
      go_wp2_with fail;go_roundw
      case rel=>exact⟨j+1,A',B',oo,by simp,hlt,HT'.o⟩
      case measure=>clear hw1 hw2;simp[intOf];omega
  ·obtain rfl:j=2:=by omega
   rw[if_pos (by omega)]at hA hB
   rw[hA,hB]at uN;have hT:=uN.1;clear hA hB;obtain⟨c1,c2,c3⟩:=HGf.o.1.canon (by have:=HGf.o.2;omega)
   have uG:=Qa (show Mf.past.length<=1099511627776 from by have:=hT.ak.pl;omega)
   have HBd:=Qa (N3 hT.ak.inv.H c1 c2);have yI:=Qa (fun (m:Cd)(W:Aa)(o:Own)(h:BK W o m Mf)=>V6 h hT.ak c1 c2 c3);have HT2:=Qa hT;have HIb:=Qa hT.ib;have HIa:=Qa hT.ia;have yE:=Qa hT.ak;clear uN hT c1 c2 c3 hj HMf HGf;go_wp2_with (first
    | (go_at_call 11;refine HT2.o.Rj.mono ?_;rintro e w7 ⟨va,rfl,hra,uL,hs7⟩;have HT7:=Qa uL;have HR7:=Qa hra;clear uL hra hs7 HT2)
    | (go_at_call 11;refine HT7.o.Rk.mono ?_;rintro e w8 ⟨vb,rfl,hrb,kU,gK⟩;have HT8:=Qa kU;have HRb:=Qa hrb;have HR8:=Qa (HR7.o.Ar gK (by unfold kf;have:=HIb.o;simp;omega));clear kU hrb gK HR7 HT7)
    | (go_at_call 10;refine (qng HR8.o HRb.o uG.o).mono ?_;rintro e w9 ⟨rfl,fC⟩;have HT9:=Qa (HT8.o.below fC);clear fC HT8 HR8 HRb)
    | (go_at_call 12;refine (Yp HT9.o.a yE.o).mono ?_;rintro e w10 ⟨rfl,iC⟩;have vX:=Qa (HT9.o.below iC);clear iC HT9)
    | (go_at_call 12;refine (Yp vX.o.b yE.o).mono ?_;rintro e w11 ⟨rfl,mJ⟩;have vY:=Qa (vX.o.below mJ);clear mJ vX)
    | (go_at_call 13;refine (JU vY.o.a yE.o).mono ?_;rintro e w12 ⟨rfl,rfl⟩;have vZ:=Qa vY.o;clear vY)
    | (go_at_call 13;refine (JU vZ.o.b yE.o).mono ?_;rintro e w13 ⟨rfl,rfl⟩;have wB:=Qa vZ.o;clear vZ)
    | (go_at_call 14;refine (TX wB.o.a yE.o).mono ?_;rintro e w14 ⟨rfl,Acm⟩;have wC:=Qa (wB.o.below Acm);clear Acm wB)
    | (go_at_call 14;refine (TX wC.o.b yE.o).mono ?_;rintro e w15 ⟨rfl,Acn⟩;have wD:=Qa (wC.o.below Acn);clear Acn wC)
    | (go_at_call 16;refine (yI.o _ _ _ wD.o.a).mono ?_;rintro e w16 ⟨v1,oo,rfl,hN,Aco,hO⟩;obtain⟨_,_,hr1,_⟩:=id hN;obtain⟨p16,c16,rfl⟩:=hr1.A6;have Aav:=Qa hN;have wE:=Qa (wD.o.below Aco);clear hN hr1 Aco hO wD)
    | (go_at_call 16;refine (yI.o _ _ _ wE.o.b).mono ?_;rintro e w17 ⟨v2,oo2,rfl,hN2,wZ,hO2⟩;obtain⟨_,_,hr2,_⟩:=id hN2;obtain⟨p17,c17,rfl⟩:=hr2.A6;have Aaw:=Qa hN2;have uB:=Qa (Aav.o.Ar (Stp.of_below (T:=fun _=>False) wZ) id id id);have Abk:=Qa (wE.o.below wZ);clear hN2 hr2 wZ hO2 wE Aav)
    | (go_at_call 15;refine (qmf uB.o Aaw.o HBd.o.1 HBd.o.2).mono ?_;rintro e w18 ⟨rfl,Acp⟩;have Ajl:=Qa (Abk.o.below Acp);clear Acp Abk uB Aaw)
    | fail)
   go_ret;exact⟨rfl,by have h:=Xh HB4.o (Ajl.o.old HN3.o);rw[HN0.o]at h;exact h⟩
